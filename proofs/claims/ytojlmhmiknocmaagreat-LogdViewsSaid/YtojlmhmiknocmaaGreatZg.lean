/- The walks of some functions, by the executor, written by program. Conditions: none. -/
import Derived.Test.YtojlmhmiknocmaaGreatZe
import Derived.Test.YtojlmhmiknocmaaGreatZf
set_option linter.unusedSimpArgs false
set_option linter.unusedVariables false
set_option maxHeartbeats 20000000
set_option maxRecDepth 100000
namespace Go.Proofs.YtojlmhmiknocmaaGreat
open Go Go.Gw Go.Ax Tryz
def m_cyclic_places_1 {σ : Type} (p0 : σ → Bool → Option (Bool × σ)) (k0 : UInt64) (s0 : σ) : Option (UInt64 × σ) :=
  obind (m_bits_Len64 k0) fun x1 =>
  obind (iter (m_cyclic_places_1_b1 p0 k0) FUEL ((w64 (x1 - 1)), s0)) fun x2 => match x2 with
  | .inr r => some r
  | .inl y1 =>
  some (k0, y1)
theorem w_cyclic_places_1 {m : Mem} {As : List Ow} {w : World} {σ : Type} {R : σ → Mem → List Ow → Prop} {p0 : σ → Bool → Option (Bool × σ)} {f0 : Value} {kb0 : Nat} {k0 : UInt64} {s0 : σ} {X0 : List Ow} {r : UInt64 × σ} (S : St m ((bx kb0 [vU k0] 22) :: (X0 ++ As)) w) (hup : ∀ {s M M' X}, M ≤ M' → R s M X → R s M' X) (hX0 : R s0 m X0) (cb0 : ∀ {m' : Mem} {As' : List Ow} {w' : World} {s : σ} {X : List Ow} {b0 : Bool} {r : Bool × σ}, St m' (X ++ As') w' → R s m' X → p0 s b0 = some r → CallV Tryz.prog f0 [vb b0] w' fun v w'' => ∃ (M : Mem) (X' : List Ow), m' ≤ M ∧ St M (X' ++ As') w'' ∧ R r.2 M X' ∧ v = vb r.1) (fc0 : f0.cells = #[f0]) (hm : m_cyclic_places_1 p0 k0 s0 = some r) :
    CallsR Tryz.prog 151 #[f0, pt kb0 0] w fun v w' => ∃ (M : Mem), m ≤ M ∧ ∃ (X : List Ow), St M ((bx kb0 [vU r.1] 22) :: (X ++ As)) w' ∧ v = .tuple #[] ∧ R r.2 M X := by
 unfold m_cyclic_places_1 at hm
 have L0 := Mem.rfl' m
 refine callsR (args := [f0, pt kb0 0]) func151 rfl ntmps151 (nb rfl) <| ws <| s_ld (i := 0) (cs := [vU k0]) S rfl rfl isAgg22 sizeOf22 rfl (fun _ => rfl) ?_
 obtain ⟨x1, q1, hm⟩ := obind_some hm
 refine s_call call130 (v_bits_Len64 (a0 := k0) S  q1) rfl ?_
 rintro _ w1 ⟨m1, l1, S1, rfl⟩
 replace hX0 := hup l1 hX0
 clear S
 refine s_subI (m := x1) (n := 1) rfl rfl <| s_asv (v := vI (w64 (x1 - 1))) rfl <| wpl_nil <| nrm ?_
 obtain ⟨x2, q2, hm⟩ := obind_some hm
 have L1 := Mem.rfl' m1
 refine wpc_wrap <| wpc_join [3, 7, 8, 9, 10, 11, 12, 13, 14, 15, 16, 17, 18] (fun f' w' => ∃ (M1 : Mem) (y1 : σ) (X2 : List Ow), x2 = .inl y1 ∧ m1 ≤ M1 ∧ St M1 ((bx kb0 [vU k0] 22) :: (X2 ++ As)) w' ∧ R y1 M1 X2 ∧ AllAt f' []) ?_ ?_
 · refine wpc_block <| wpc_rounds [3, 7, 8, 9, 10, 11, 12, 13, 14, 15, 16, 17, 18] (fun n1 f' w' => ∃ (s1 : Int × σ) (m11 : Mem) (X1 : List Ow), iter (m_cyclic_places_1_b1 p0 k0) n1 s1 = some x2 ∧ m1 ≤ m11 ∧ St m11 ((bx kb0 [vU k0] 22) :: (X1 ++ As)) w' ∧ R s1.2 m11 X1 ∧ AllAt f' [(3, vI s1.1)]) FUEL ⟨((w64 (x1 - 1)), s0), m1, _, q2, L1, S1, hX0, ⟨rfl, trivial⟩⟩ ?_
   rintro n1 f1 w2 ho ⟨s1, m2, X1, q3, L3, S2, h1, ha⟩
   obtain ⟨u1, rfl⟩ := fr_of (N := 19) ho ha
   clear ho ha
   have L2 := Mem.rfl' m2
   clear S1
   cases n1 with
   | zero => exact (iter_zero q3).elim
   | succ n1 =>
    obtain ⟨y2, q5, q4⟩ := iter_succ q3
    unfold m_cyclic_places_1_b1 at q5
    refine wpc_seq <| ws <| s_mvv (v := vI s1.1) rfl <| s_geq (m := s1.1) (n := 0) rfl rfl <| wpl_nil <| nrm <| wpc_if (t := (decide (s1.1 ≥ 0))) rfl (fun hc1 => ?_) (fun hc1 => ?_)
    · replace q5 := ifT hc1 q5
      refine wpc_skip <| nrm <| wpc_seq <| wpc_block <| wpc_seq ?_
      obtain ⟨q7, q5⟩ := if_some q5
      have HM : MonoAll [(11, fv f0), (12, fv (vU k0)), (13, fv (vI s1.1)), (14, fv (vU (shlU 1 s1.1.toNat))), (15, fv (vU (k0 &&& (shlU 1 s1.1.toNat)))), (16, fv (vb (((k0 &&& (shlU 1 s1.1.toNat)).toNat : Int) != 0)))] := ⟨mv, mv, mv, mv, mv, mv, trivial⟩
      refine wpc_flowG HM 6 mixed rfl rfl rfl (rg 11 6) (fun L f M w => St M ((bx kb0 [vU k0] 22) :: (X1 ++ As)) w) (St.drew S2 _) ?_ ?_
      · refine ⟨?_, ?_, ?_, ?_, ?_, ?_, trivial⟩
        · exact flp HM rfl [] (fun _ _ => trivial) (fun _ _ q => s_mvv (v := f0) rfl q) rfl
        · exact flp HM rfl [] (fun _ _ => trivial) (fun _ S4 q => s_ld (i := 0) (cs := [vU k0]) S4 rfl rfl isAgg22 sizeOf22 rfl (fun _ => rfl) q) rfl
        · exact flp HM rfl [] (fun _ _ => trivial) (fun _ _ q => s_mvv (v := vI s1.1) rfl q) rfl
        · exact flp HM rfl [(13, _)] (fun K _ => ⟨K 2 rfl, trivial⟩) (fun _ _ q => s_shlU (m := 1) (n := s1.1) rfl rfl q7 q) rfl
        · exact flp HM rfl [(12, _), (14, _)] (fun K _ => ⟨K 1 rfl, K 3 rfl, trivial⟩) (fun _ _ q => s_andU (m := k0) (n := (shlU 1 s1.1.toNat)) rfl rfl q) rfl
        · exact flp HM rfl [(15, _)] (fun K _ => ⟨K 4 rfl, trivial⟩) (fun _ _ q => s_neq (m := ((k0 &&& (shlU 1 s1.1.toNat)).toNat : Int)) (n := 0) rfl rfl q) rfl
      intro L f8 w9 hall ⟨m9, L16, S9, K, hO⟩
      have d0 : L 0 = true := hall 0 (by decide)
      have d5 : L 5 = true := hall 5 (by decide)
      obtain ⟨u8, rfl⟩ := fr_of (N := 19) (L := [(11, _), (16, _)]) hO ⟨K 0 d0, K 5 d5, trivial⟩
      replace S9 : St _ ((bx kb0 [vU k0] 22) :: (X1 ++ As)) _ := S9
      replace h1 := hup L16 h1
      clear S2
      obtain ⟨x4, q8, q5⟩ := obind_some q5
      have S10 := St.absF (L := [bx kb0 [vU k0] 22]) (X := X1) (As := As) S9
      refine s_callV rfl (cb0 S10 h1 q8) rfl ?_
      rintro _ w10 ⟨m10, X3, l2, S11, h3, rfl⟩
      replace S11 := St.absF (L := X3) (X := [bx kb0 [vU k0] 22]) (As := As) S11
      clear S10
      replace S11 : St _ ((bx kb0 [vU k0] 22) :: (X3 ++ As)) _ := S11
      clear S9
      refine s_not rfl <| wpl_nil <| nrm <| wpc_if (t := (!x4.1)) rfl (fun hc2 => ?_) (fun hc2 => ?_)
      · replace q5 := ifT hc2 q5
        refine wpc_ret <| blR <| thR <| thR <| blR <| thR <| outRw fun we hpd => ?_
        replace S11 := St.pd S11 hpd
        cases q5
        rcases q4 with ⟨sn, e, _⟩ | e
        · cases e
        cases e
        dsimp only at hm
        have e0 := Option.some.inj hm
        subst e0
        replace L0 := Mem.tr L0 l1
        replace L2 := Mem.tr L2 (mt L16 l2)
        exact outR [] rfl trivial ⟨_, (Mem.tr L0 (Mem.tr L3 L2)), _, S11, rfl, h3⟩
      replace q5 := ifF hc2 q5
      refine wpc_skip <| nrmB <| nrm <| wpc_region <| s_mvv (v := vI s1.1) rfl <| s_subI (m := s1.1) (n := 1) rfl rfl <| s_asv (v := vI (w64 (s1.1 - 1))) rfl <| wpl_nil <| nrm ?_
      have e0 := Option.some.inj q5
      subst e0
      rcases q4 with ⟨sn, e, q4'⟩ | e
      · cases e
        replace L2 := Mem.tr L2 (mt L16 l2)
        exact ⟨outP, _, Nat.lt_succ_self _, ⟨_, m10, _, q4', Mem.tr L3 L2, S11, h3, ⟨rfl, trivial⟩⟩⟩
      · cases e
    replace q5 := ifF hc1 q5
    refine wpc_exit <| thE <| thE <| exB <| nrm ?_
    have e0 := Option.some.inj q5
    subst e0
    rcases q4 with ⟨sn, e, _⟩ | e
    · cases e
    · cases e
      exact ⟨outP, m2, _, _, rfl, Mem.tr L3 L2, S2, h1, trivial⟩
 rintro f9 w11 ho ⟨m12, y1, X2, rfl, l3, S12, h2, ha⟩
 obtain ⟨u9, rfl⟩ := fr_of (N := 19) ho ha
 clear ho ha
 dsimp only at hm
 clear S1
 refine outNw fun we hpd => ?_
 replace S12 := St.pd S12 hpd
 have e0 := Option.some.inj hm
 subst e0
 replace L0 := Mem.tr L0 (mt l1 l3)
 exact outR [] rfl trivial ⟨_, L0, _, S12, rfl, h2⟩
def m_cyclic_places (a0 : UInt64) : Option UInt64 :=
  some a0
theorem w_cyclic_places {m : Mem} {As : List Ow} {w : World} {a0 : UInt64} {r : UInt64} (S : St m (As) w) (hm : m_cyclic_places a0 = some r) :
    CallsR Tryz.prog 146 #[vU a0] w fun v w' => ∃ (M : Mem), m ≤ M ∧ ∃ (rk0_0 : Nat), St M ((bx rk0_0 [vU r] 22) :: As) w' ∧ v = .func (.func 151) #[] #[pt rk0_0 0] := by
 unfold m_cyclic_places at hm
 have L0 := Mem.rfl' m
 refine callsR (args := [vU a0]) func146 rfl ntmps146 (nb rfl) <| ws <| s_box S rfl fun b1 w1 S1 => ?_
 replace S1 : St _ ((bx b1 [vU a0] 22) :: As) _ := S1
 clear S
 refine s_asv (v := .nilFunc) rfl <| nx <| s_funcC (caps := [pt b1 0]) rfl <| s_asv (v := .func (.func 151) #[] #[pt b1 0]) rfl <| wpl_nil <| nrm <| wpc_ret <| outRw fun we hpd => ?_
 replace S1 := St.pd S1 hpd
 have e0 := Option.some.inj hm
 subst e0
 exact outR [_] rfl ⟨rfl, trivial⟩ ⟨_, L0, _, S1, rfl⟩
def m_cyclic_power_b5 {σ : Type} (p0 : σ → UInt64 → UInt64 → Option (UInt64 × σ)) (a1 : UInt64) (b6 : Bool) (s1 : UInt64 × σ) : Option (UInt64 × σ) :=
  obind (p0 ((s1).2) ((s1).1) ((s1).1)) fun x3 =>
  if b6 = true then
    obind (p0 x3.2 x3.1 a1) fun x4 =>
    some (x4.1, x4.2)
  else
  some (x3.1, x3.2)
def m_cyclic_power {σ : Type} (p0 : σ → UInt64 → UInt64 → Option (UInt64 × σ)) (a1 : UInt64) (a2 : UInt64) (s0 : σ) : Option (UInt64 × σ) :=
  obind (m_cyclic_places a2) fun x1 =>
  obind (m_cyclic_places_1 (fun (s : UInt64 × σ) (b0 : Bool) => obind (m_cyclic_power_b5 p0 a1 b0 s) fun y => some (true, y)) x1 (1, s0)) fun x2 =>
  some (x2.2.1, x2.2.2)
theorem w_cyclic_power {m : Mem} {As : List Ow} {w : World} {σ : Type} {R : σ → Mem → List Ow → Prop} {p0 : σ → UInt64 → UInt64 → Option (UInt64 × σ)} {f0 : Value} {a1 : UInt64} {a2 : UInt64} {s0 : σ} {X0 : List Ow} {r : UInt64 × σ} (S : St m ((X0 ++ As)) w) (hup : ∀ {s M M' X}, M ≤ M' → R s M X → R s M' X) (hX0 : R s0 m X0) (cb0 : ∀ {m' : Mem} {As' : List Ow} {w' : World} {s : σ} {X : List Ow} {b0 : UInt64} {b1 : UInt64} {r : UInt64 × σ}, St m' (X ++ As') w' → R s m' X → p0 s b0 b1 = some r → CallV Tryz.prog f0 [vU b0, vU b1] w' fun v w'' => ∃ (M : Mem) (X' : List Ow), m' ≤ M ∧ St M (X' ++ As') w'' ∧ R r.2 M X' ∧ v = vU r.1) (fc0 : f0.cells = #[f0]) (hm : m_cyclic_power p0 a1 a2 s0 = some r) :
    CallsR Tryz.prog 134 #[f0, vU a1, vU a2] w fun v w' => ∃ (M : Mem), m ≤ M ∧ ∃ (X : List Ow), St M ((X ++ As)) w' ∧ v = vU r.1 ∧ R r.2 M X := by
 unfold m_cyclic_power at hm
 have L0 := Mem.rfl' m
 refine callsR (args := [f0, vU a1, vU a2]) func134 rfl ntmps134 (nb rfl) <| ws <| s_boxS S rfl fc0 fun b1 w1 S1 => ?_
 replace S1 : St _ ((bx b1 [f0] 111) :: (X0 ++ As)) _ := S1
 clear S
 refine s_box S1 rfl fun b2 w2 S2 => s_asv (v := vU 0) rfl <| nx <| s_alloc S2 zeroValue22 fun b3 w3 S3 => s_stL (i := 0) S3 rfl rfl rfl sizeOf22 (oneC rfl oneN) rfl fun w4 S4 => ?_
 replace S4 : St _ ((bx b3 [vU 1] 22) :: (bx b2 [vU a1] 22) :: (bx b1 [f0] 111) :: (X0 ++ As)) _ := S4
 clear S1 S2 S3
 refine wpl_nil <| nrm <| wpc_seq <| ws <| s_mvv (v := vU a2) rfl ?_
 obtain ⟨x1, q1, hm⟩ := obind_some hm
 refine s_call call146 (w_cyclic_places (a0 := a2) S4  q1) rfl ?_
 rintro _ w5 ⟨m1, l1, b4, S5, rfl⟩
 replace hX0 := hup l1 hX0
 clear S4
 refine wpl_nil <| nrm <| wpc_block ?_
 obtain ⟨x2, q2, hm⟩ := obind_some hm
 refine wpc_rangeFunc S5 rfl call151 fun lp1 rip2 w6 h1 S6 => ?_
 replace S6 : St _ ((Lp lp1 rip2 .ready none) :: (bx b4 [vU x1] 22) :: (bx b3 [vU 1] 22) :: (bx b2 [vU a1] 22) :: (bx b1 [f0] 111) :: (X0 ++ As)) _ := S6
 clear S5
 have S7 : St _ ((bx b4 [vU x1] 22) :: (Lp lp1 rip2 .ready none) :: (bx b3 [vU 1] 22) :: (bx b2 [vU a1] 22) :: (bx b1 [f0] 111) :: (X0 ++ As)) _ := St.perm S6 (List.Perm.swap _ _ _)
 clear S6
 have hcb1 : ∀ {m' : Mem} {As' : List Ow} {w' : World} {s : UInt64 × σ} {X : List Ow} {b0 : Bool} {r : Bool × (UInt64 × σ)}, St m' (X ++ As') w' → (∃ (X2 : List Ow), m1 ≤ m' ∧ X = Lp lp1 rip2 .ready none :: (bx b3 [vU ((s).1)] 22) :: (bx b2 [vU a1] 22) :: (bx b1 [f0] 111) :: X2 ∧ R ((s).2) m' X2) → (fun (s : UInt64 × σ) (b0 : Bool) => obind (m_cyclic_power_b5 p0 a1 b0 s) fun y => some (true, y)) s b0 = some r → CallV Tryz.prog (.func (.yield lp1) #[] #[]) [vb b0] w' fun v w'' => ∃ (M : Mem) (X' : List Ow), m' ≤ M ∧ St M (X' ++ As') w'' ∧ (∃ (X2 : List Ow), m1 ≤ M ∧ X' = Lp lp1 rip2 .ready none :: (bx b3 [vU ((r.2).1)] 22) :: (bx b2 [vU a1] 22) :: (bx b1 [f0] 111) :: X2 ∧ R ((r.2).2) M X2) ∧ v = vb r.1 := by
   intro m2 As1 w7 s1 X3 b6 r1 S8 h4 hm1
   obtain ⟨X4, L2, rfl, h5⟩ := h4
   obtain ⟨y1, q3, hm1⟩ := obind_some hm1
   cases hm1
   unfold m_cyclic_power_b5 at q3
   replace S8 : St _ ((Lp lp1 rip2 .ready none) :: (bx b3 [vU ((s1).1)] 22) :: (bx b2 [vU a1] 22) :: (bx b1 [f0] 111) :: (X4 ++ As1)) _ := S8
   have L1 := Mem.rfl' m2
   refine CallV.round h1 rfl S8 ?_
   refine wpc_region ?_
   refine s_asv (v := vb b6) rfl ?_
   refine wpl_nil ?_
   refine nrm ?_
   refine ⟨_, _, S8, ?_⟩
   intro w8 S9
   clear S8
   replace S9 : St _ ((Lp lp1 rip2 .busy none) :: (bx b3 [vU ((s1).1)] 22) :: (bx b2 [vU a1] 22) :: (bx b1 [f0] 111) :: (X4 ++ As1)) _ := S9
   refine wpc_block ?_
   refine wpc_seq ?_
   refine wpc_region ?_
   refine s_ld (i := 3) (cs := [f0]) S9 rfl rfl isAgg111 sizeOf111 rfl (fun _ => rfl) ?_
   refine s_ld (i := 1) (cs := [vU ((s1).1)]) S9 rfl rfl isAgg22 sizeOf22 rfl (fun _ => rfl) ?_
   refine s_ld (i := 1) (cs := [vU ((s1).1)]) S9 rfl rfl isAgg22 sizeOf22 rfl (fun _ => rfl) ?_
   obtain ⟨x3, q4, q3⟩ := obind_some q3
   have S10 := St.absF (L := [Lp lp1 rip2 .busy none, bx b3 [vU ((s1).1)] 22, bx b2 [vU a1] 22, bx b1 [f0] 111]) (X := X4) (As := As1) S9
   refine s_callV rfl (cb0 S10 h5 q4) rfl ?_
   rintro _ w9 ⟨m3, X5, l2, S11, h6, rfl⟩
   replace S11 := St.absF (L := X5) (X := [Lp lp1 rip2 .busy none, bx b3 [vU ((s1).1)] 22, bx b2 [vU a1] 22, bx b1 [f0] 111]) (As := As1) S11
   clear S10
   replace L1 := Mem.tr L1 l2
   replace S11 : St _ ((Lp lp1 rip2 .busy none) :: (bx b3 [vU ((s1).1)] 22) :: (bx b2 [vU a1] 22) :: (bx b1 [f0] 111) :: (X5 ++ As1)) _ := S11
   clear S9
   refine s_stL (i := 1) S11 rfl rfl rfl sizeOf22 (oneC rfl oneN) rfl ?_
   intro w10 S12
   replace S12 : St _ ((Lp lp1 rip2 .busy none) :: (bx b3 [vU x3.1] 22) :: (bx b2 [vU a1] 22) :: (bx b1 [f0] 111) :: (X5 ++ As1)) _ := S12
   clear S11
   refine wpl_nil ?_
   refine nrm ?_
   refine wpc_seq ?_
   refine wpc_region ?_
   refine s_mvv (v := vb b6) rfl ?_
   refine wpl_nil ?_
   refine nrm ?_
   refine wpc_if (t := b6) rfl (fun hc1 => ?_) (fun hc1 => ?_)
   · replace q3 := ifT hc1 q3
     refine wpc_region ?_
     refine s_ld (i := 3) (cs := [f0]) S12 rfl rfl isAgg111 sizeOf111 rfl (fun _ => rfl) ?_
     refine s_ld (i := 1) (cs := [vU x3.1]) S12 rfl rfl isAgg22 sizeOf22 rfl (fun _ => rfl) ?_
     refine s_ld (i := 2) (cs := [vU a1]) S12 rfl rfl isAgg22 sizeOf22 rfl (fun _ => rfl) ?_
     obtain ⟨x4, q5, q3⟩ := obind_some q3
     have S13 := St.absF (L := [Lp lp1 rip2 .busy none, bx b3 [vU x3.1] 22, bx b2 [vU a1] 22, bx b1 [f0] 111]) (X := X5) (As := As1) S12
     refine s_callV rfl (cb0 S13 h6 q5) rfl ?_
     rintro _ w11 ⟨m4, X6, l3, S14, h7, rfl⟩
     replace S14 := St.absF (L := X6) (X := [Lp lp1 rip2 .busy none, bx b3 [vU x3.1] 22, bx b2 [vU a1] 22, bx b1 [f0] 111]) (As := As1) S14
     clear S13
     replace L1 := Mem.tr L1 l3
     replace S14 : St _ ((Lp lp1 rip2 .busy none) :: (bx b3 [vU x3.1] 22) :: (bx b2 [vU a1] 22) :: (bx b1 [f0] 111) :: (X6 ++ As1)) _ := S14
     clear S12
     refine s_stL (i := 1) S14 rfl rfl rfl sizeOf22 (oneC rfl oneN) rfl ?_
     intro w12 S15
     replace S15 : St _ ((Lp lp1 rip2 .busy none) :: (bx b3 [vU x4.1] 22) :: (bx b2 [vU a1] 22) :: (bx b1 [f0] 111) :: (X6 ++ As1)) _ := S15
     clear S14
     refine wpl_nil ?_
     refine nrmB ?_
     refine ⟨_, _, S15, ?_⟩
     intro w13 S16
     have e0 := Option.some.inj q3
     subst e0
     exact ⟨_, Lp lp1 rip2 .ready none :: (bx b3 [vU x4.1] 22) :: (bx b2 [vU a1] 22) :: (bx b1 [f0] 111) :: X6, L1, S16, ⟨_, Mem.tr L2 L1, rfl, h7⟩, rfl⟩
   replace q3 := ifF hc1 q3
   refine wpc_skip ?_
   refine nrmB ?_
   refine ⟨_, _, S12, ?_⟩
   intro w14 S17
   have e0 := Option.some.inj q3
   subst e0
   exact ⟨_, Lp lp1 rip2 .ready none :: (bx b3 [vU x3.1] 22) :: (bx b2 [vU a1] 22) :: (bx b1 [f0] 111) :: X5, L1, S17, ⟨_, Mem.tr L2 L1, rfl, h6⟩, rfl⟩
 refine CallsR.mono (w_cyclic_places_1 (p0 := (fun (s : UInt64 × σ) (b0 : Bool) => obind (m_cyclic_power_b5 p0 a1 b0 s) fun y => some (true, y))) (k0 := x1) (s0 := (1, s0)) (R := (fun (s : UInt64 × σ) (M : Mem) (X : List Ow) => (∃ (X2 : List Ow), m1 ≤ M ∧ X = Lp lp1 rip2 .ready none :: (bx b3 [vU ((s).1)] 22) :: (bx b2 [vU a1] 22) :: (bx b1 [f0] 111) :: X2 ∧ R ((s).2) M X2))) (X0 := ((Lp lp1 rip2 .ready none) :: (bx b3 [vU 1] 22) :: (bx b2 [vU a1] 22) :: (bx b1 [f0] 111) :: X0)) (As := As) S7 (fun l h => by obtain ⟨X2, Lm, e, h3⟩ := h; exact ⟨_, Mem.tr Lm l, e, hup l h3⟩) ⟨_, Mem.rfl' _, rfl, hX0⟩ @hcb1 rfl q2) ?_
 rintro _ w15 ⟨m5, l4, X7, S18, rfl, ⟨X8, L3, rfl, h8⟩⟩
 have S19 : St _ ((Lp lp1 rip2 .ready none) :: (bx b4 [vU x2.1] 22) :: (bx b3 [vU x2.2.1] 22) :: (bx b2 [vU a1] 22) :: (bx b1 [f0] 111) :: (X8 ++ As)) _ := St.perm S18 (List.Perm.swap _ _ _)
 clear S18
 refine ⟨_, .ready, none, _, l4, (fun h => by cases h), S19, ?_⟩
 intro m6 w16 l5 S20
 have l6 := Mem.tr l4 l5
 replace h8 := hup l5 h8
 replace S20 : St _ ((bx b4 [vU x2.1] 22) :: (bx b3 [vU x2.2.1] 22) :: (bx b2 [vU a1] 22) :: (bx b1 [f0] 111) :: (X8 ++ As)) _ := S20
 refine nrmB <| nrm <| ws <| s_ld (i := 1) (cs := [vU x2.2.1]) S20 rfl rfl isAgg22 sizeOf22 rfl (fun _ => rfl) <| s_asv (v := vU x2.2.1) rfl <| wpl_nil <| nrm <| wpc_ret <| outRw fun we hpd => ?_
 replace S20 := St.pd S20 hpd
 obtain ⟨m7, l7, S21⟩ := St.drop S20 0
 replace h8 := hup l7 h8
 clear S20
 replace S21 : St _ ((bx b3 [vU x2.2.1] 22) :: (bx b2 [vU a1] 22) :: (bx b1 [f0] 111) :: (X8 ++ As)) _ := S21
 obtain ⟨m8, l8, S22⟩ := St.drop S21 0
 replace h8 := hup l8 h8
 clear S21
 replace S22 : St _ ((bx b2 [vU a1] 22) :: (bx b1 [f0] 111) :: (X8 ++ As)) _ := S22
 obtain ⟨m9, l9, S23⟩ := St.drop S22 0
 replace h8 := hup l9 h8
 clear S22
 replace S23 : St _ ((bx b1 [f0] 111) :: (X8 ++ As)) _ := S23
 obtain ⟨m10, l10, S24⟩ := St.drop S23 0
 replace h8 := hup l10 h8
 clear S23
 replace S24 : St _ ((X8 ++ As)) _ := S24
 have e0 := Option.some.inj hm
 subst e0
 replace L0 := Mem.tr L0 (mt l1 (mt l6 (mt l7 (mt l8 (mt l9 l10)))))
 exact outR [_] rfl ⟨rfl, trivial⟩ ⟨_, L0, _, S24, rfl, h8⟩
def m_cyclic_Pow (a0 : UInt64) (a1 : UInt64) : Option UInt64 :=
  obind (m_cyclic_power (fun (s1 : Unit) (b1 : UInt64) (b2 : UInt64) => obind (m_cyclic_ring_mul 2305843009213691579 b1 b2) fun x1 => some (x1, ())) a0 a1 ()) fun x2 =>
  some x2.1
theorem w_cyclic_Pow {m : Mem} {As : List Ow} {w : World} {a0 : UInt64} {a1 : UInt64} {r : UInt64} (S : St m (As) w) (hm : m_cyclic_Pow a0 a1 = some r) :
    CallsR Tryz.prog 108 #[vU a0, vU a1] w fun v w' => ∃ (M : Mem), m ≤ M ∧ St M (As) w' ∧ v = vU r := by
 unfold m_cyclic_Pow at hm
 have L0 := Mem.rfl' m
 refine callsR (args := [vU a0, vU a1]) func108 rfl ntmps108 (nb rfl) <| ws <| s_asv (v := vU 0) rfl <| nx <| s_funcP (pre := [vU 2305843009213691579]) (caps := []) rfl rfl <| s_mvv (v := vU a0) rfl <| s_mvv (v := vU a1) rfl ?_
 have hcb1 : ∀ {m' : Mem} {As' : List Ow} {w' : World} {s : Unit} {X : List Ow} {b0 : UInt64} {b1 : UInt64} {r : UInt64 × Unit}, St m' (X ++ As') w' → (X = []) → (fun (s1 : Unit) (b1 : UInt64) (b2 : UInt64) => obind (m_cyclic_ring_mul 2305843009213691579 b1 b2) fun x1 => some (x1, ())) s b0 b1 = some r → CallV Tryz.prog (.func (.func 110) #[vU 2305843009213691579] #[]) [vU b0, vU b1] w' fun v w'' => ∃ (M : Mem) (X' : List Ow), m' ≤ M ∧ St M (X' ++ As') w'' ∧ (X' = []) ∧ v = vU r.1 := by
   intro m1 As1 w1 s1 X1 b1 b2 r1 S1 h1 hm1
   subst h1
   replace S1 : St _ (As1) _ := S1
   have L1 := Mem.rfl' m1
   obtain ⟨x1, q1, hm1⟩ := obind_some hm1
   refine CallV.mono (CallV.clo (pre := [vU 2305843009213691579]) call110 rfl (w_cyclic_ring_mul (a0 := 2305843009213691579) (a1 := b1) (a2 := b2) S1  q1)) ?_
   rintro _ w2 ⟨m2, l1, S2, rfl⟩
   replace L1 := Mem.tr L1 l1
   clear S1
   replace S2 : St _ (As1) _ := S2
   have e0 := Option.some.inj hm1
   subst e0
   exact ⟨_, [], L1, S2, rfl, rfl⟩
 obtain ⟨x2, q2, hm⟩ := obind_some hm
 refine s_call call134 (w_cyclic_power (p0 := (fun (s1 : Unit) (b1 : UInt64) (b2 : UInt64) => obind (m_cyclic_ring_mul 2305843009213691579 b1 b2) fun x1 => some (x1, ()))) (a1 := a0) (a2 := a1) (s0 := ()) (R := (fun (s : Unit) (M : Mem) (X : List Ow) => (X = []))) (X0 := []) (As := As) S (fun {_ _ _ _} _ h => h) rfl @hcb1 rfl q2) rfl ?_
 rintro _ w3 ⟨m3, l2, X2, S3, rfl, rfl⟩
 clear S
 refine s_asv (v := vU x2.1) rfl <| wpl_nil <| nrm <| wpc_ret <| outRw fun we hpd => ?_
 replace S3 := St.pd S3 hpd
 have e0 := Option.some.inj hm
 subst e0
 replace L0 := Mem.tr L0 l2
 exact outR [_] rfl ⟨rfl, trivial⟩ ⟨_, L0, S3, rfl⟩
theorem s_cyclic_Pow {a0 : UInt64} {a1 : UInt64} {r : UInt64} (hm : m_cyclic_Pow a0 a1 = some r) : Sf prog 108 [.d (.u a0), .d (.u a1)] (.d (.u r)) :=
  ⟨call108, fun η m As w vs hv0 hd S => by
    have S : St m As w := S
    obtain ⟨v0, u0, rfl, r0, hv1⟩ := RelL.cons_inv hv0
    obtain rfl := r0.u_inv
    obtain ⟨v1, u1, rfl, r1, hv2⟩ := RelL.cons_inv hv1
    obtain rfl := r1.u_inv
    obtain rfl := RelL.nil_inv hv2
    refine CallsR.mono (w_cyclic_Pow S  hm) ?_
    rintro v w' ⟨M, hle, S0, rfl⟩
    exact ⟨M, none0, _, _, _, hle, dom0 hd _, ⟨rfl, rfl, rfl⟩, fun n h => absurd rfl h, (.d (.u _)), S0⟩⟩
def m_cyclic_Base (a0 : UInt64) : Option UInt64 :=
  obind (m_cyclic_Pow 4 a0) fun x1 =>
  some x1
theorem w_cyclic_Base {a0 : UInt64} {r : UInt64} (hm : m_cyclic_Base a0 = some r) : Sf prog 71 [.d (.u a0)] (.d (.u r)) :=
  sp call71 func71 rfl ntmps71 rfl fun D0 As η0 m0 hd => by
    unfold m_cyclic_Base at hm
    obtain ⟨x1, q1, hm⟩ := obind_some hm
    refine gc (fun _ => s_cyclic_Pow q1) (by kernel_rfl) ?_
    have e0 := Option.some.inj hm
    subst e0
    exact gend hd (by kernel_rfl)
def m_sign_odd (a0 : UInt64) : Option Bool :=
  bnd ((((a0.toNat : Int) == 0) || (decide ((a0.toNat : Int) ≥ 1152921504606845789)))) fun x1 =>
  some x1
theorem w_sign_odd {a0 : UInt64} {r : Bool} (hm : m_sign_odd a0 = some r) : Sf prog 92 [.d (.u a0)] (.d (.t r)) :=
  sp call92 func92 rfl ntmps92 rfl fun D0 As η0 m0 hd => by
    unfold m_sign_odd at hm
    have hm := bnd_is hm
    let x1 : Bool := ((((a0.toNat : Int) == 0) || (decide ((a0.toNat : Int) ≥ 1152921504606845789))))
    have e0 := Option.some.inj hm
    subst e0
    exact gend hd (by kernel_rfl)
def m_sign_Public (a0 : UInt64) : Option (UInt64 × Int) :=
  obind (m_sign_odd a0) fun x1 =>
  if x1 = true then
    some (0, 1)
  else
  obind (m_cyclic_Base a0) fun x2 =>
  some (x2, 0)
theorem w_sign_Public {a0 : UInt64} {r : UInt64 × Int} (hm : m_sign_Public a0 = some r) : Sf prog 45 [.d (.u a0)] (.tup [.d (.u r.1), .d (.i r.2)]) :=
  sp call45 func45 rfl ntmps45 rfl fun D0 As η0 m0 hd => by
    unfold m_sign_Public at hm
    obtain ⟨x1, q1, hm⟩ := obind_some hm
    refine gc (fun _ => w_sign_odd q1) (by kernel_rfl) ?_
    refine gi hm (by kernel_rfl) (fun hc1 hm => ?_) fun hc1 hm => ?_
    · skip
      have e0 := Option.some.inj hm
      subst e0
      exact gend hd (by kernel_rfl)
    obtain ⟨x2, q2, hm⟩ := obind_some hm
    refine gc (fun _ => w_cyclic_Base q2) (by kernel_rfl) ?_
    have e0 := Option.some.inj hm
    subst e0
    exact gend hd (by kernel_rfl)
def m_hash_Num (a0 : UInt64 × UInt64) (a1 : UInt64) : Option UInt64 :=
  if ((a1.toNat : Int) == 0) = true then
    some 0
  else
  obind (m_bits_Mul64 a0.1 2305843009213693952) fun x1 =>
  if a1 ≠ 0 then
    obind (m_bits_Div64 ((x1.1 + (carryU x1.2 a0.2)) % a1) (x1.2 + a0.2) a1) fun x2 =>
    some x2.2
  else none
theorem w_hash_Num {a0 : UInt64 × UInt64} {a1 : UInt64} {r : UInt64} (hm : m_hash_Num a0 a1 = some r) : Sf prog 107 [ag (e_a2_eU a0), .d (.u a1)] (.d (.u r)) :=
  sp call107 func107 rfl ntmps107 rfl fun D0 As η0 m0 hd => by
    unfold m_hash_Num at hm
    refine gi hm (by kernel_rfl) (fun hc1 hm => ?_) fun hc1 hm => ?_
    · skip
      have e0 := Option.some.inj hm
      subst e0
      exact gend hd (by kernel_rfl)
    obtain ⟨x1, q1, hm⟩ := obind_some hm
    refine gc (fun _ => w_bits_Mul64 q1) (by kernel_rfl) ?_
    refine gadd64 (p := x1.2) (q := a0.2) func132 (by kernel_rfl) (by kernel_rfl) (by kernel_rfl) (by kernel_rfl) (by kernel_rfl) ?_
    obtain ⟨q2, hm⟩ := if_some hm
    refine gquo (d := .u a1) (r := .u ((x1.1 + (carryU x1.2 a0.2)) % a1)) (fun h => q2) (by kernel_rfl) ?_
    obtain ⟨x2, q3, hm⟩ := obind_some hm
    refine gc (fun _ => w_bits_Div64 q3) (by kernel_rfl) ?_
    have e0 := Option.some.inj hm
    subst e0
    exact gend hd (by kernel_rfl)
def m_sign_some (a0 : ByteArray) (a1 : List (List UInt8)) : Option UInt64 :=
  obind (m_hash_Tagged a0 a1) fun x1 =>
  obind (m_hash_Num x1 1152921504606845788) fun x2 =>
  some (x2 + 1)
theorem w_sign_some {a0 : ByteArray} {a1 : List (List UInt8)} {r : UInt64} (hm : m_sign_some a0 a1 = some r) : Sf prog 68 [.d (.s a0), sl (eL eB) a1] (.d (.u r)) :=
  sp call68 func68 rfl ntmps68 rfl fun D0 As η0 m0 hd => by
    unfold m_sign_some at hm
    obtain ⟨x1, q1, hm⟩ := obind_some hm
    refine gc (fun _ => w_hash_Tagged q1) (by kernel_rfl) ?_
    obtain ⟨x2, q2, hm⟩ := obind_some hm
    refine gc (fun _ => w_hash_Num q2) (by kernel_rfl) ?_
    have e0 := Option.some.inj hm
    subst e0
    exact gend hd (by kernel_rfl)
def m_sign_bytes_b2 (a0 : UInt64) (i1 : Int) (s1 : UInt8 × UInt8 × UInt8 × UInt8 × UInt8 × UInt8 × UInt8 × UInt8) : Option (UInt8 × UInt8 × UInt8 × UInt8 × UInt8 × UInt8 × UInt8 × UInt8) :=
  if (0 : Int) ≤ (w64 (8 * (i1 : Int))) then
    obind (idx [s1.1, s1.2.1, s1.2.2.1, s1.2.2.2.1, s1.2.2.2.2.1, s1.2.2.2.2.2.1, s1.2.2.2.2.2.2.1, s1.2.2.2.2.2.2.2] (w64 (7 - (i1 : Int)))) fun x4 =>
    bnd (if (w64 (7 - (i1 : Int))) = 0 then (toB ((shrU a0 ((w64 (8 * (i1 : Int))).toNat)).toNat : Int)) else s1.1) fun x5 =>
    bnd (if (w64 (7 - (i1 : Int))) = 1 then (toB ((shrU a0 ((w64 (8 * (i1 : Int))).toNat)).toNat : Int)) else s1.2.1) fun x6 =>
    bnd (if (w64 (7 - (i1 : Int))) = 2 then (toB ((shrU a0 ((w64 (8 * (i1 : Int))).toNat)).toNat : Int)) else s1.2.2.1) fun x7 =>
    bnd (if (w64 (7 - (i1 : Int))) = 3 then (toB ((shrU a0 ((w64 (8 * (i1 : Int))).toNat)).toNat : Int)) else s1.2.2.2.1) fun x8 =>
    bnd (if (w64 (7 - (i1 : Int))) = 4 then (toB ((shrU a0 ((w64 (8 * (i1 : Int))).toNat)).toNat : Int)) else s1.2.2.2.2.1) fun x9 =>
    bnd (if (w64 (7 - (i1 : Int))) = 5 then (toB ((shrU a0 ((w64 (8 * (i1 : Int))).toNat)).toNat : Int)) else s1.2.2.2.2.2.1) fun x10 =>
    bnd (if (w64 (7 - (i1 : Int))) = 6 then (toB ((shrU a0 ((w64 (8 * (i1 : Int))).toNat)).toNat : Int)) else s1.2.2.2.2.2.2.1) fun x11 =>
    bnd (if (w64 (7 - (i1 : Int))) = 7 then (toB ((shrU a0 ((w64 (8 * (i1 : Int))).toNat)).toNat : Int)) else s1.2.2.2.2.2.2.2) fun x12 =>
    some (x5, x6, x7, x8, x9, x10, x11, x12)
  else none
def m_sign_bytes (a0 : UInt64) : Option (List UInt8) :=
  obind (
    obind (eachN0 (m_sign_bytes_b2 a0) 8 0 (0, 0, 0, 0, 0, 0, 0, 0)) fun x2 =>
    some (x2.1, x2.2.1, x2.2.2.1, x2.2.2.2.1, x2.2.2.2.2.1, x2.2.2.2.2.2.1, x2.2.2.2.2.2.2.1, x2.2.2.2.2.2.2.2)
  ) fun x1 =>
  some ([x1.1, x1.2.1, x1.2.2.1, x1.2.2.2.1, x1.2.2.2.2.1, x1.2.2.2.2.2.1, x1.2.2.2.2.2.2.1, x1.2.2.2.2.2.2.2] : List UInt8)
theorem w_sign_bytes {m : Mem} {As : List Ow} {w : World} {a0 : UInt64} {r : List UInt8} (S : St m (As) w) (hm : m_sign_bytes a0 = some r) :
    CallsR Tryz.prog 69 #[vU a0] w fun v w' => ∃ (M : Mem), m ≤ M ∧ ∃ (rv0 : Value) (rc0 : List Value), St M ((row 1 rv0 rc0 r.length) :: As) w' ∧ v = rv0 ∧ RepL M rc0 r := by
 unfold m_sign_bytes at hm
 have L0 := Mem.rfl' m
 refine callsR (args := [vU a0]) func69 rfl ntmps69 (nb rfl) <| ws <| s_asv (v := .slice none 0 0) rfl <| nx <| s_alloc S zeroValue134 fun b1 w1 S1 => ?_
 replace S1 : St _ ((bx b1 [vB 0, vB 0, vB 0, vB 0, vB 0, vB 0, vB 0, vB 0] 134) :: As) _ := S1
 clear S
 refine wpl_nil <| nrm ?_
 obtain ⟨x1, q1, hm⟩ := obind_some hm
 have L1 := Mem.rfl' m
 refine wpc_seq <| wpc_join (rg 4 13) (fun f' w' => ∃ (M1 : Mem), m ≤ M1 ∧ St M1 ((bx b1 [vB x1.1, vB x1.2.1, vB x1.2.2.1, vB x1.2.2.2.1, vB x1.2.2.2.2.1, vB x1.2.2.2.2.2.1, vB x1.2.2.2.2.2.2.1, vB x1.2.2.2.2.2.2.2] 134) :: As) w' ∧ AllAt f' []) ?_ ?_
 · refine ws <| s_mvv (v := vI 0) rfl <| wpl_nil <| nrm ?_
   obtain ⟨x2, q2, q1⟩ := obind_some q1
   have L2 := Mem.rfl' m
   refine wpc_join (rg 4 13) (fun f' w' => ∃ (M2 : Mem), m ≤ M2 ∧ St M2 ((bx b1 [vB x2.1, vB x2.2.1, vB x2.2.2.1, vB x2.2.2.2.1, vB x2.2.2.2.2.1, vB x2.2.2.2.2.2.1, vB x2.2.2.2.2.2.2.1, vB x2.2.2.2.2.2.2.2] 134) :: As) w' ∧ AllAt f' []) ?_ ?_
   · refine wpc_block <| wpc_rounds (rg 4 13) (fun n1 f' w' => ∃ (i1 : Nat) (s1 : UInt8 × UInt8 × UInt8 × UInt8 × UInt8 × UInt8 × UInt8 × UInt8) (m2 : Mem), n1 = 8 - i1 ∧ i1 ≤ 8 ∧ eachN0 (m_sign_bytes_b2 a0) (8 - i1) (i1 : Int) s1 = some x2 ∧ m ≤ m2 ∧ St m2 ((bx b1 [vB s1.1, vB s1.2.1, vB s1.2.2.1, vB s1.2.2.2.1, vB s1.2.2.2.2.1, vB s1.2.2.2.2.2.1, vB s1.2.2.2.2.2.2.1, vB s1.2.2.2.2.2.2.2] 134) :: As) w' ∧ AllAt f' [(5, vI (i1 : Int))]) 8 ⟨0, (0, 0, 0, 0, 0, 0, 0, 0), m, rfl, Nat.zero_le _, q2, L2, S1, ⟨rfl, trivial⟩⟩ ?_
     rintro n1 f1 w2 ho ⟨i1, s1, m1, hn, hi, q3, L4, S2, ha⟩
     obtain ⟨u1, rfl⟩ := fr_of (N := 18) ho ha
     clear ho ha
     have L3 := Mem.rfl' m1
     clear S1
     refine ws <| s_lss (m := (i1 : Int)) (n := 8) rfl rfl <| wpl_nil <| nrm <| wpc_seq <| wpc_if (t := decide ((i1 : Int) < (8 : Int))) rfl (fun hc1 => ?_) (fun hc1 => ?_)
     · have hlt1 : i1 < 8 := by have := of_decide_eq_true hc1; omega
       obtain ⟨y1, q5, q4⟩ := eachN0_in q3 hlt1
       unfold m_sign_bytes_b2 at q5
       refine wpc_skip <| nrm <| wpc_seq <| wpc_block <| ws <| s_mvv (v := vI (i1 : Int)) rfl <| s_asv (v := vI (i1 : Int)) rfl <| wpl_nil <| nrm <| wpc_region <| s_mvv (v := vI (i1 : Int)) rfl <| s_subI (m := 7) (n := (i1 : Int)) rfl rfl <| s_mvv (v := vU a0) rfl <| s_mvv (v := vI (i1 : Int)) rfl <| s_mulI (m := 8) (n := (i1 : Int)) rfl rfl ?_
       obtain ⟨q7, q5⟩ := if_some q5
       refine s_shrU (m := a0) (n := (w64 (8 * (i1 : Int)))) rfl rfl q7 <| s_convB rfl underlying22 underlying5 ?_
       obtain ⟨x4, q8, q5⟩ := obind_some q5
       refine s_idxA (i := (w64 (7 - (i1 : Int)))) rfl rfl underlying134 sizeOf5 (idx_rng q8).1 (idx_rng q8).2 ?_
       obtain ⟨x5, q9, q5⟩ := bnd_eq q5
       obtain ⟨x6, q10, q5⟩ := bnd_eq q5
       obtain ⟨x7, q11, q5⟩ := bnd_eq q5
       obtain ⟨x8, q12, q5⟩ := bnd_eq q5
       obtain ⟨x9, q13, q5⟩ := bnd_eq q5
       obtain ⟨x10, q14, q5⟩ := bnd_eq q5
       obtain ⟨x11, q15, q5⟩ := bnd_eq q5
       obtain ⟨x12, q16, q5⟩ := bnd_eq q5
       refine s_st (i := 0) (off := 0 + (w64 (7 - (i1 : Int))).toNat * 1) S2 rfl rfl rfl sizeOf5 (OneL.all (oneC rfl oneN)) (by rcases idx8 q8 with ⟨h, h'⟩ | ⟨h, h'⟩ | ⟨h, h'⟩ | ⟨h, h'⟩ | ⟨h, h'⟩ | ⟨h, h'⟩ | ⟨h, h'⟩ | ⟨h, h'⟩ <;> (rw [h]; exact nb rfl)) fun w3 S3 => ?_
       replace S3 := St.cellsTo (i := 0) (l' := [vB x5, vB x6, vB x7, vB x8, vB x9, vB x10, vB x11, vB x12]) S3 (by rcases idx8 q8 with ⟨h, h'⟩ | ⟨h, h'⟩ | ⟨h, h'⟩ | ⟨h, h'⟩ | ⟨h, h'⟩ | ⟨h, h'⟩ | ⟨h, h'⟩ | ⟨h, h'⟩ <;> (simp only [q9, q10, q11, q12, q13, q14, q15, q16, h]; rfl)) rfl
       replace S3 : St _ ((bx b1 [vB x5, vB x6, vB x7, vB x8, vB x9, vB x10, vB x11, vB x12] 134) :: As) _ := S3
       clear S2
       refine wpl_nil <| nrmB <| nrm <| wpc_region <| s_addI (m := (i1 : Int)) (n := 1) rfl rfl <| s_mvv (v := vI (w64 ((i1 : Int) + 1))) rfl <| wpl_nil <| nrm ?_
       have e0 := Option.some.inj q5
       subst e0
       exact ⟨outP, _, (by omega), ⟨i1 + 1, (x5, x6, x7, x8, x9, x10, x11, x12), m1, rfl, hlt1, q4, Mem.tr L4 L3, S3, ⟨congrArg (Value.int .i64) (w64_succ hlt1 (by decide)), trivial⟩⟩⟩
     have hlt1 : ¬ i1 < 8 := by have := of_decide_eq_false hc1; omega
     have e := Eq.symm (eachN0_out q3 hlt1)
     subst e
     exact wpc_exit <| thE <| thE <| exB <| nrm <| ⟨outP, m1, Mem.tr L4 L3, S2, trivial⟩
   rintro f2 w4 ho ⟨m3, l1, S4, ha⟩
   obtain ⟨u2, rfl⟩ := fr_of (N := 18) ho ha
   clear ho ha S1
   have e0 := Option.some.inj q1
   subst e0
   replace L1 := Mem.tr L1 l1
   exact ⟨outP, m3, L1, S4, trivial⟩
 rintro f3 w5 ho ⟨m4, l2, S5, ha⟩
 obtain ⟨u3, rfl⟩ := fr_of (N := 18) ho ha
 clear S1
 refine ws <| s_sliceA (k := 8) (n := 8) (sz := 1) (off := 0) rfl underlying134 sizeOf5 (.inl ⟨rfl, rfl⟩) (Nat.le_refl _) ?_
 have S6 := St.bxRow (i := 0) (sz := 1) (n := 8) S5 rfl rfl (by decide)
 have h1 : RepL m4 [vB x1.1, vB x1.2.1, vB x1.2.2.1, vB x1.2.2.2.1, vB x1.2.2.2.2.1, vB x1.2.2.2.2.2.1, vB x1.2.2.2.2.2.2.1, vB x1.2.2.2.2.2.2.2] ([x1.1, x1.2.1, x1.2.2.1, x1.2.2.2.1, x1.2.2.2.2.1, x1.2.2.2.2.2.1, x1.2.2.2.2.2.2.1, x1.2.2.2.2.2.2.2] : List UInt8) := (RepL.cons (c := [vB x1.1]) rfl (RepL.cons (c := [vB x1.2.1]) rfl (RepL.cons (c := [vB x1.2.2.1]) rfl (RepL.cons (c := [vB x1.2.2.2.1]) rfl (RepL.cons (c := [vB x1.2.2.2.2.1]) rfl (RepL.cons (c := [vB x1.2.2.2.2.2.1]) rfl (RepL.cons (c := [vB x1.2.2.2.2.2.2.1]) rfl (RepL.cons (c := [vB x1.2.2.2.2.2.2.2]) rfl RepL.nil))))))))
 replace S6 : St _ ((row 1 (.slice (some ⟨b1, 0, none⟩) 8 8) [vB x1.1, vB x1.2.1, vB x1.2.2.1, vB x1.2.2.2.1, vB x1.2.2.2.2.1, vB x1.2.2.2.2.2.1, vB x1.2.2.2.2.2.2.1, vB x1.2.2.2.2.2.2.2] ([x1.1, x1.2.1, x1.2.2.1, x1.2.2.2.1, x1.2.2.2.2.1, x1.2.2.2.2.2.1, x1.2.2.2.2.2.2.1, x1.2.2.2.2.2.2.2] : List UInt8).length) :: As) _ := S6
 clear S5
 refine s_asv (v := (.slice (some ⟨b1, 0, none⟩) 8 8)) rfl <| wpl_nil <| nrm <| wpc_ret <| outRw fun we hpd => ?_
 replace S6 := St.pd S6 hpd
 have e0 := Option.some.inj hm
 subst e0
 replace L0 := Mem.tr L0 l2
 exact outR [_] rfl ⟨rfl, trivial⟩ ⟨_, L0, _, _, S6, rfl, h1⟩
theorem s_sign_bytes {a0 : UInt64} {r : List UInt8} (hm : m_sign_bytes a0 = some r) : Sp prog 69 [.d (.u a0)] [] 0 (is (.ow 0) [.row 0 1 _ eB r] 1) :=
  ⟨call69, fun η m As w vs hv0 hd S => by
    have S : St m As w := S
    obtain ⟨v0, u0, rfl, r0, hv1⟩ := RelL.cons_inv hv0
    obtain rfl := r0.u_inv
    obtain rfl := RelL.nil_inv hv1
    refine CallsR.mono (w_sign_bytes S  hm) ?_
    rintro v w' ⟨M, hle, y0, c0, S0, rfl, h0⟩
    exact ⟨M, (envL [v]), _, _, _, hle, dom0 hd _, ⟨rfl, rfl, rfl⟩, envL_dom rfl, (.ow rfl (row_one S0)), (St.impL S0 (sepC (Br.toR Br.b rfl rfl (row_one S0) h0) fun _ h => h))⟩⟩
def m_sign_Challenge (a0 : UInt64) (a1 : UInt64) (a2 : List UInt8) : Option UInt64 :=
  obind (m_sign_bytes a0) fun x1 =>
  obind (m_sign_bytes a1) fun x2 =>
  obind (m_hash_Tagged (⟨#[115, 105, 103, 110]⟩ : ByteArray) ([x1, x2, a2] : List (List UInt8))) fun x3 =>
  obind (m_hash_Num x3 1152921504606845789) fun x4 =>
  some x4
theorem w_sign_Challenge {a0 : UInt64} {a1 : UInt64} {a2 : List UInt8} {r : UInt64} (hm : m_sign_Challenge a0 a1 a2 = some r) : Sf prog 70 [.d (.u a0), .d (.u a1), sl eB a2] (.d (.u r)) :=
  sp call70 func70 rfl ntmps70 rfl fun D0 As η0 m0 hd => by
    unfold m_sign_Challenge at hm
    obtain ⟨x1, q1, hm⟩ := obind_some hm
    refine gco (s_sign_bytes q1) (by kernel_rfl) ?_
    obtain ⟨x2, q2, hm⟩ := obind_some hm
    refine gco (s_sign_bytes q2) (by kernel_rfl) ?_
    refine glitV (k := 1) (eL eB) ([x1, x2, a2] : List (List UInt8)) (fun _ => rfl) (by kernel_rfl) ?_
    obtain ⟨x3, q3, hm⟩ := obind_some hm
    refine gc (fun _ => w_hash_Tagged q3) (by kernel_rfl) ?_
    obtain ⟨x4, q4, hm⟩ := obind_some hm
    refine gc (fun _ => w_hash_Num q4) (by kernel_rfl) ?_
    have e0 := Option.some.inj hm
    subst e0
    exact gend hd (by kernel_rfl)
def m_cyclic_ring_add (a0 : UInt64) (a1 : UInt64) (a2 : UInt64) : Option UInt64 :=
  if a0 ≠ 0 then
    if a0 ≠ 0 then
      obind (m_bits_Rem64 (carryU (a1 % a0) (a2 % a0)) ((a1 % a0) + (a2 % a0)) a0) fun x1 =>
      some x1
    else none
  else none
theorem w_cyclic_ring_add {a0 : UInt64} {a1 : UInt64} {a2 : UInt64} {r : UInt64} (hm : m_cyclic_ring_add a0 a1 a2 = some r) : Sf prog 109 [.d (.u a0), .d (.u a1), .d (.u a2)] (.d (.u r)) :=
  sp call109 func109 rfl ntmps109 rfl fun D0 As η0 m0 hd => by
    unfold m_cyclic_ring_add at hm
    obtain ⟨q1, hm⟩ := if_some hm
    refine gquo (d := .u a0) (r := .u (a1 % a0)) (fun h => q1) (by kernel_rfl) ?_
    obtain ⟨q2, hm⟩ := if_some hm
    refine gquo (d := .u a0) (r := .u (a2 % a0)) (fun h => q2) (by kernel_rfl) ?_
    refine gadd64 (p := (a1 % a0)) (q := (a2 % a0)) func132 (by kernel_rfl) (by kernel_rfl) (by kernel_rfl) (by kernel_rfl) (by kernel_rfl) ?_
    obtain ⟨x1, q3, hm⟩ := obind_some hm
    refine gc (fun _ => w_bits_Rem64 q3) (by kernel_rfl) ?_
    have e0 := Option.some.inj hm
    subst e0
    exact gend hd (by kernel_rfl)
def m_cyclic_AddR (a0 : UInt64) (a1 : UInt64) : Option UInt64 :=
  obind (m_cyclic_ring_add 1152921504606845789 a0 a1) fun x1 =>
  some x1
theorem w_cyclic_AddR {a0 : UInt64} {a1 : UInt64} {r : UInt64} (hm : m_cyclic_AddR a0 a1 = some r) : Sf prog 72 [.d (.u a0), .d (.u a1)] (.d (.u r)) :=
  sp call72 func72 rfl ntmps72 rfl fun D0 As η0 m0 hd => by
    unfold m_cyclic_AddR at hm
    obtain ⟨x1, q1, hm⟩ := obind_some hm
    refine gc (fun _ => w_cyclic_ring_add q1) (by kernel_rfl) ?_
    have e0 := Option.some.inj hm
    subst e0
    exact gend hd (by kernel_rfl)
def m_cyclic_MulR (a0 : UInt64) (a1 : UInt64) : Option UInt64 :=
  obind (m_cyclic_ring_mul 1152921504606845789 a0 a1) fun x1 =>
  some x1
theorem w_cyclic_MulR {a0 : UInt64} {a1 : UInt64} {r : UInt64} (hm : m_cyclic_MulR a0 a1 = some r) : Sf prog 73 [.d (.u a0), .d (.u a1)] (.d (.u r)) :=
  sp call73 func73 rfl ntmps73 rfl fun D0 As η0 m0 hd => by
    unfold m_cyclic_MulR at hm
    obtain ⟨x1, q1, hm⟩ := obind_some hm
    refine gc (fun _ => s_cyclic_ring_mul q1) (by kernel_rfl) ?_
    have e0 := Option.some.inj hm
    subst e0
    exact gend hd (by kernel_rfl)
def m_sign_Sign (a0 : UInt64) (a1 : List UInt8) : Option (g_api_Sig × Int) :=
  obind (m_sign_Public a0) fun x1 =>
  if (x1.2 != 0) = true then
    some ((⟨0, 0⟩ : g_api_Sig), x1.2)
  else
  obind (m_sign_bytes a0) fun x2 =>
  obind (m_sign_some (⟨#[110, 111, 110, 99, 101]⟩ : ByteArray) ([x2, a1] : List (List UInt8))) fun x3 =>
  obind (m_cyclic_Base x3) fun x4 =>
  obind (m_sign_Challenge x4 x1.1 a1) fun x5 =>
  obind (m_cyclic_MulR x5 a0) fun x6 =>
  obind (m_cyclic_AddR x6 x3) fun x7 =>
  some ((⟨x5, x7⟩ : g_api_Sig), 0)
theorem w_sign_Sign {a0 : UInt64} {a1 : List UInt8} {r : g_api_Sig × Int} (hm : m_sign_Sign a0 a1 = some r) : Sf prog 33 [.d (.u a0), sl eB a1] (.tup [ag (e_api_Sig r.1), .d (.i r.2)]) :=
  sp call33 func33 rfl ntmps33 rfl fun D0 As η0 m0 hd => by
    unfold m_sign_Sign at hm
    obtain ⟨x1, q1, hm⟩ := obind_some hm
    refine gc (fun _ => w_sign_Public q1) (by kernel_rfl) ?_
    refine gi hm (by kernel_rfl) (fun hc1 hm => ?_) fun hc1 hm => ?_
    · skip
      have e0 := Option.some.inj hm
      subst e0
      exact gend hd (by kernel_rfl)
    obtain ⟨x2, q2, hm⟩ := obind_some hm
    refine gco (s_sign_bytes q2) (by kernel_rfl) ?_
    refine glitV (k := 1) (eL eB) ([x2, a1] : List (List UInt8)) (fun _ => rfl) (by kernel_rfl) ?_
    obtain ⟨x3, q3, hm⟩ := obind_some hm
    refine gc (fun _ => w_sign_some q3) (by kernel_rfl) ?_
    obtain ⟨x4, q4, hm⟩ := obind_some hm
    refine gc (fun _ => w_cyclic_Base q4) (by kernel_rfl) ?_
    obtain ⟨x5, q5, hm⟩ := obind_some hm
    refine gc (fun _ => w_sign_Challenge q5) (by kernel_rfl) ?_
    obtain ⟨x6, q6, hm⟩ := obind_some hm
    refine gc (fun _ => w_cyclic_MulR q6) (by kernel_rfl) ?_
    obtain ⟨x7, q7, hm⟩ := obind_some hm
    refine gc (fun _ => w_cyclic_AddR q7) (by kernel_rfl) ?_
    have e0 := Option.some.inj hm
    subst e0
    exact gend hd (by kernel_rfl)
def m_logd_msg (a0 : ByteArray) (a1 : List (List UInt8)) : Option (List UInt8) :=
  obind (app 1 ([] : List UInt8) a0.data.toList) fun x1 =>
  obind (m_slices_Concat_byte_byte a1) fun x2 =>
  obind (app 1 x1 x2) fun x3 =>
  some x3
theorem w_logd_msg {a0 : ByteArray} {a1 : List (List UInt8)} {r : List UInt8} (hm : m_logd_msg a0 a1 = some r) : Sp prog 74 [.d (.s a0), sl (eL eB) a1] [] 0 (is (.ow 0) [.row 0 1 _ eB r] 1) :=
  sp call74 func74 rfl ntmps74 rfl fun D0 As η0 m0 hd => by
    unfold m_logd_msg at hm
    obtain ⟨x1, q1, hm⟩ := obind_some hm
    refine gofS q1 (by kernel_rfl) ?_
    obtain ⟨x2, q2, hm⟩ := obind_some hm
    refine gco (s_slices_Concat_byte_byte q2) (by kernel_rfl) ?_
    obtain ⟨x3, q3, hm⟩ := obind_some hm
    refine gapp (k := 1) (E := eB) (fun _ => rfl) q3 (by kernel_rfl) ?_
    have e0 := Option.some.inj hm
    subst e0
    exact gend hd (by kernel_rfl)
def m_logd_eight_b2 (a0 : Int) (i1 : Int) (s1 : UInt8 × UInt8 × UInt8 × UInt8 × UInt8 × UInt8 × UInt8 × UInt8) : Option (UInt8 × UInt8 × UInt8 × UInt8 × UInt8 × UInt8 × UInt8 × UInt8) :=
  if (0 : Int) ≤ (w64 (56 - (w64 (8 * (i1 : Int))))) then
    obind (idx [s1.1, s1.2.1, s1.2.2.1, s1.2.2.2.1, s1.2.2.2.2.1, s1.2.2.2.2.2.1, s1.2.2.2.2.2.2.1, s1.2.2.2.2.2.2.2] (i1 : Int)) fun x4 =>
    bnd (if (i1 : Int) = 0 then (toB (shr64 a0 ((w64 (56 - (w64 (8 * (i1 : Int))))).toNat))) else s1.1) fun x5 =>
    bnd (if (i1 : Int) = 1 then (toB (shr64 a0 ((w64 (56 - (w64 (8 * (i1 : Int))))).toNat))) else s1.2.1) fun x6 =>
    bnd (if (i1 : Int) = 2 then (toB (shr64 a0 ((w64 (56 - (w64 (8 * (i1 : Int))))).toNat))) else s1.2.2.1) fun x7 =>
    bnd (if (i1 : Int) = 3 then (toB (shr64 a0 ((w64 (56 - (w64 (8 * (i1 : Int))))).toNat))) else s1.2.2.2.1) fun x8 =>
    bnd (if (i1 : Int) = 4 then (toB (shr64 a0 ((w64 (56 - (w64 (8 * (i1 : Int))))).toNat))) else s1.2.2.2.2.1) fun x9 =>
    bnd (if (i1 : Int) = 5 then (toB (shr64 a0 ((w64 (56 - (w64 (8 * (i1 : Int))))).toNat))) else s1.2.2.2.2.2.1) fun x10 =>
    bnd (if (i1 : Int) = 6 then (toB (shr64 a0 ((w64 (56 - (w64 (8 * (i1 : Int))))).toNat))) else s1.2.2.2.2.2.2.1) fun x11 =>
    bnd (if (i1 : Int) = 7 then (toB (shr64 a0 ((w64 (56 - (w64 (8 * (i1 : Int))))).toNat))) else s1.2.2.2.2.2.2.2) fun x12 =>
    some (x5, x6, x7, x8, x9, x10, x11, x12)
  else none
def m_logd_eight (a0 : Int) : Option (List UInt8) :=
  obind (
    obind (eachN0 (m_logd_eight_b2 a0) 8 0 (0, 0, 0, 0, 0, 0, 0, 0)) fun x2 =>
    some (x2.1, x2.2.1, x2.2.2.1, x2.2.2.2.1, x2.2.2.2.2.1, x2.2.2.2.2.2.1, x2.2.2.2.2.2.2.1, x2.2.2.2.2.2.2.2)
  ) fun x1 =>
  some ([x1.1, x1.2.1, x1.2.2.1, x1.2.2.2.1, x1.2.2.2.2.1, x1.2.2.2.2.2.1, x1.2.2.2.2.2.2.1, x1.2.2.2.2.2.2.2] : List UInt8)
theorem w_logd_eight {m : Mem} {As : List Ow} {w : World} {a0 : Int} {r : List UInt8} (S : St m (As) w) (hm : m_logd_eight a0 = some r) :
    CallsR Tryz.prog 75 #[vI a0] w fun v w' => ∃ (M : Mem), m ≤ M ∧ ∃ (rv0 : Value) (rc0 : List Value), St M ((row 1 rv0 rc0 r.length) :: As) w' ∧ v = rv0 ∧ RepL M rc0 r := by
 unfold m_logd_eight at hm
 have L0 := Mem.rfl' m
 refine callsR (args := [vI a0]) func75 rfl ntmps75 (nb rfl) <| ws <| s_asv (v := .slice none 0 0) rfl <| nx <| s_alloc S zeroValue134 fun b1 w1 S1 => ?_
 replace S1 : St _ ((bx b1 [vB 0, vB 0, vB 0, vB 0, vB 0, vB 0, vB 0, vB 0] 134) :: As) _ := S1
 clear S
 refine wpl_nil <| nrm ?_
 obtain ⟨x1, q1, hm⟩ := obind_some hm
 have L1 := Mem.rfl' m
 refine wpc_seq <| wpc_join (rg 4 13) (fun f' w' => ∃ (M1 : Mem), m ≤ M1 ∧ St M1 ((bx b1 [vB x1.1, vB x1.2.1, vB x1.2.2.1, vB x1.2.2.2.1, vB x1.2.2.2.2.1, vB x1.2.2.2.2.2.1, vB x1.2.2.2.2.2.2.1, vB x1.2.2.2.2.2.2.2] 134) :: As) w' ∧ AllAt f' []) ?_ ?_
 · refine ws <| s_mvv (v := vI 0) rfl <| wpl_nil <| nrm ?_
   obtain ⟨x2, q2, q1⟩ := obind_some q1
   have L2 := Mem.rfl' m
   refine wpc_join (rg 4 13) (fun f' w' => ∃ (M2 : Mem), m ≤ M2 ∧ St M2 ((bx b1 [vB x2.1, vB x2.2.1, vB x2.2.2.1, vB x2.2.2.2.1, vB x2.2.2.2.2.1, vB x2.2.2.2.2.2.1, vB x2.2.2.2.2.2.2.1, vB x2.2.2.2.2.2.2.2] 134) :: As) w' ∧ AllAt f' []) ?_ ?_
   · refine wpc_block <| wpc_rounds (rg 4 13) (fun n1 f' w' => ∃ (i1 : Nat) (s1 : UInt8 × UInt8 × UInt8 × UInt8 × UInt8 × UInt8 × UInt8 × UInt8) (m2 : Mem), n1 = 8 - i1 ∧ i1 ≤ 8 ∧ eachN0 (m_logd_eight_b2 a0) (8 - i1) (i1 : Int) s1 = some x2 ∧ m ≤ m2 ∧ St m2 ((bx b1 [vB s1.1, vB s1.2.1, vB s1.2.2.1, vB s1.2.2.2.1, vB s1.2.2.2.2.1, vB s1.2.2.2.2.2.1, vB s1.2.2.2.2.2.2.1, vB s1.2.2.2.2.2.2.2] 134) :: As) w' ∧ AllAt f' [(5, vI (i1 : Int))]) 8 ⟨0, (0, 0, 0, 0, 0, 0, 0, 0), m, rfl, Nat.zero_le _, q2, L2, S1, ⟨rfl, trivial⟩⟩ ?_
     rintro n1 f1 w2 ho ⟨i1, s1, m1, hn, hi, q3, L4, S2, ha⟩
     obtain ⟨u1, rfl⟩ := fr_of (N := 18) ho ha
     clear ho ha
     have L3 := Mem.rfl' m1
     clear S1
     refine ws <| s_lss (m := (i1 : Int)) (n := 8) rfl rfl <| wpl_nil <| nrm <| wpc_seq <| wpc_if (t := decide ((i1 : Int) < (8 : Int))) rfl (fun hc1 => ?_) (fun hc1 => ?_)
     · have hlt1 : i1 < 8 := by have := of_decide_eq_true hc1; omega
       obtain ⟨y1, q5, q4⟩ := eachN0_in q3 hlt1
       unfold m_logd_eight_b2 at q5
       refine wpc_skip <| nrm <| wpc_seq <| wpc_block <| ws <| s_mvv (v := vI (i1 : Int)) rfl <| s_asv (v := vI (i1 : Int)) rfl <| wpl_nil <| nrm <| wpc_region <| s_mvv (v := vI (i1 : Int)) rfl <| s_mvv (v := vI a0) rfl <| s_mvv (v := vI (i1 : Int)) rfl <| s_mulI (m := 8) (n := (i1 : Int)) rfl rfl <| s_subI (m := 56) (n := (w64 (8 * (i1 : Int)))) rfl rfl ?_
       obtain ⟨q7, q5⟩ := if_some q5
       refine s_shrI (m := a0) (n := (w64 (56 - (w64 (8 * (i1 : Int)))))) rfl rfl q7 <| s_convB rfl underlying3 underlying5 ?_
       obtain ⟨x4, q8, q5⟩ := obind_some q5
       refine s_idxA (i := (i1 : Int)) rfl rfl underlying134 sizeOf5 (idx_rng q8).1 (idx_rng q8).2 ?_
       obtain ⟨x5, q9, q5⟩ := bnd_eq q5
       obtain ⟨x6, q10, q5⟩ := bnd_eq q5
       obtain ⟨x7, q11, q5⟩ := bnd_eq q5
       obtain ⟨x8, q12, q5⟩ := bnd_eq q5
       obtain ⟨x9, q13, q5⟩ := bnd_eq q5
       obtain ⟨x10, q14, q5⟩ := bnd_eq q5
       obtain ⟨x11, q15, q5⟩ := bnd_eq q5
       obtain ⟨x12, q16, q5⟩ := bnd_eq q5
       refine s_st (i := 0) (off := 0 + (i1 : Int).toNat * 1) S2 rfl rfl rfl sizeOf5 (OneL.all (oneC rfl oneN)) (by rcases idx8 q8 with ⟨h, h'⟩ | ⟨h, h'⟩ | ⟨h, h'⟩ | ⟨h, h'⟩ | ⟨h, h'⟩ | ⟨h, h'⟩ | ⟨h, h'⟩ | ⟨h, h'⟩ <;> (rw [h]; exact nb rfl)) fun w3 S3 => ?_
       replace S3 := St.cellsTo (i := 0) (l' := [vB x5, vB x6, vB x7, vB x8, vB x9, vB x10, vB x11, vB x12]) S3 (by rcases idx8 q8 with ⟨h, h'⟩ | ⟨h, h'⟩ | ⟨h, h'⟩ | ⟨h, h'⟩ | ⟨h, h'⟩ | ⟨h, h'⟩ | ⟨h, h'⟩ | ⟨h, h'⟩ <;> (simp only [q9, q10, q11, q12, q13, q14, q15, q16, h]; rfl)) rfl
       replace S3 : St _ ((bx b1 [vB x5, vB x6, vB x7, vB x8, vB x9, vB x10, vB x11, vB x12] 134) :: As) _ := S3
       clear S2
       refine wpl_nil <| nrmB <| nrm <| wpc_region <| s_addI (m := (i1 : Int)) (n := 1) rfl rfl <| s_mvv (v := vI (w64 ((i1 : Int) + 1))) rfl <| wpl_nil <| nrm ?_
       have e0 := Option.some.inj q5
       subst e0
       exact ⟨outP, _, (by omega), ⟨i1 + 1, (x5, x6, x7, x8, x9, x10, x11, x12), m1, rfl, hlt1, q4, Mem.tr L4 L3, S3, ⟨congrArg (Value.int .i64) (w64_succ hlt1 (by decide)), trivial⟩⟩⟩
     have hlt1 : ¬ i1 < 8 := by have := of_decide_eq_false hc1; omega
     have e := Eq.symm (eachN0_out q3 hlt1)
     subst e
     exact wpc_exit <| thE <| thE <| exB <| nrm <| ⟨outP, m1, Mem.tr L4 L3, S2, trivial⟩
   rintro f2 w4 ho ⟨m3, l1, S4, ha⟩
   obtain ⟨u2, rfl⟩ := fr_of (N := 18) ho ha
   clear ho ha S1
   have e0 := Option.some.inj q1
   subst e0
   replace L1 := Mem.tr L1 l1
   exact ⟨outP, m3, L1, S4, trivial⟩
 rintro f3 w5 ho ⟨m4, l2, S5, ha⟩
 obtain ⟨u3, rfl⟩ := fr_of (N := 18) ho ha
 clear S1
 refine ws <| s_sliceA (k := 8) (n := 8) (sz := 1) (off := 0) rfl underlying134 sizeOf5 (.inl ⟨rfl, rfl⟩) (Nat.le_refl _) ?_
 have S6 := St.bxRow (i := 0) (sz := 1) (n := 8) S5 rfl rfl (by decide)
 have h1 : RepL m4 [vB x1.1, vB x1.2.1, vB x1.2.2.1, vB x1.2.2.2.1, vB x1.2.2.2.2.1, vB x1.2.2.2.2.2.1, vB x1.2.2.2.2.2.2.1, vB x1.2.2.2.2.2.2.2] ([x1.1, x1.2.1, x1.2.2.1, x1.2.2.2.1, x1.2.2.2.2.1, x1.2.2.2.2.2.1, x1.2.2.2.2.2.2.1, x1.2.2.2.2.2.2.2] : List UInt8) := (RepL.cons (c := [vB x1.1]) rfl (RepL.cons (c := [vB x1.2.1]) rfl (RepL.cons (c := [vB x1.2.2.1]) rfl (RepL.cons (c := [vB x1.2.2.2.1]) rfl (RepL.cons (c := [vB x1.2.2.2.2.1]) rfl (RepL.cons (c := [vB x1.2.2.2.2.2.1]) rfl (RepL.cons (c := [vB x1.2.2.2.2.2.2.1]) rfl (RepL.cons (c := [vB x1.2.2.2.2.2.2.2]) rfl RepL.nil))))))))
 replace S6 : St _ ((row 1 (.slice (some ⟨b1, 0, none⟩) 8 8) [vB x1.1, vB x1.2.1, vB x1.2.2.1, vB x1.2.2.2.1, vB x1.2.2.2.2.1, vB x1.2.2.2.2.2.1, vB x1.2.2.2.2.2.2.1, vB x1.2.2.2.2.2.2.2] ([x1.1, x1.2.1, x1.2.2.1, x1.2.2.2.1, x1.2.2.2.2.1, x1.2.2.2.2.2.1, x1.2.2.2.2.2.2.1, x1.2.2.2.2.2.2.2] : List UInt8).length) :: As) _ := S6
 clear S5
 refine s_asv (v := (.slice (some ⟨b1, 0, none⟩) 8 8)) rfl <| wpl_nil <| nrm <| wpc_ret <| outRw fun we hpd => ?_
 replace S6 := St.pd S6 hpd
 have e0 := Option.some.inj hm
 subst e0
 replace L0 := Mem.tr L0 l2
 exact outR [_] rfl ⟨rfl, trivial⟩ ⟨_, L0, _, _, S6, rfl, h1⟩
theorem s_logd_eight {a0 : Int} {r : List UInt8} (hm : m_logd_eight a0 = some r) : Sp prog 75 [.d (.i a0)] [] 0 (is (.ow 0) [.row 0 1 _ eB r] 1) :=
  ⟨call75, fun η m As w vs hv0 hd S => by
    have S : St m As w := S
    obtain ⟨v0, u0, rfl, r0, hv1⟩ := RelL.cons_inv hv0
    obtain rfl := r0.i_inv
    obtain rfl := RelL.nil_inv hv1
    refine CallsR.mono (w_logd_eight S  hm) ?_
    rintro v w' ⟨M, hle, y0, c0, S0, rfl, h0⟩
    exact ⟨M, (envL [v]), _, _, _, hle, dom0 hd _, ⟨rfl, rfl, rfl⟩, envL_dom rfl, (.ow rfl (row_one S0)), (St.impL S0 (sepC (Br.toR Br.b rfl rfl (row_one S0) h0) fun _ h => h))⟩⟩
def m_logd_ofHead (a0 : g_api_Head) : Option (List UInt8) :=
  obind (m_logd_eight a0.Log) fun x1 =>
  obind (m_logd_eight a0.Size) fun x2 =>
  obind (m_hash_Bytes a0.Root) fun x3 =>
  obind (m_logd_eight a0.At) fun x4 =>
  obind (m_logd_msg (⟨#[104, 101, 97, 100]⟩ : ByteArray) ([x1, x2, x3, x4] : List (List UInt8))) fun x5 =>
  some x5
theorem w_logd_ofHead {a0 : g_api_Head} {r : List UInt8} (hm : m_logd_ofHead a0 = some r) : Sp prog 34 [ag (e_api_Head a0)] [] 0 (is (.ow 0) [.row 0 1 _ eB r] 1) :=
  sp call34 func34 rfl ntmps34 rfl fun D0 As η0 m0 hd => by
    unfold m_logd_ofHead at hm
    obtain ⟨x1, q1, hm⟩ := obind_some hm
    refine gco (s_logd_eight q1) (by kernel_rfl) ?_
    obtain ⟨x2, q2, hm⟩ := obind_some hm
    refine gco (s_logd_eight q2) (by kernel_rfl) ?_
    obtain ⟨x3, q3, hm⟩ := obind_some hm
    refine gco (w_hash_Bytes q3) (by kernel_rfl) ?_
    obtain ⟨x4, q4, hm⟩ := obind_some hm
    refine gco (s_logd_eight q4) (by kernel_rfl) ?_
    refine glitV (k := 1) (eL eB) ([x1, x2, x3, x4] : List (List UInt8)) (fun _ => rfl) (by kernel_rfl) ?_
    obtain ⟨x5, q5, hm⟩ := obind_some hm
    refine gco (w_logd_msg q5) (by kernel_rfl) ?_
    have e0 := Option.some.inj hm
    subst e0
    exact gend hd (by kernel_rfl)
def m_logd_Head (a0 : g_api_Log) (a1 : Int) (a2 : Int) (a3 : Int) : Option (g_api_Head × Int) :=
  obind (m_logd_first a0 a1 a2) fun x1 =>
  obind (
    obind (gu ((x1.2 == 0) || (x1.2 == 80)) (m_logd_number a3)) fun x3 =>
    if (((x1.2 == 0) || (x1.2 == 80)) && (!x3)) = true then
      some 1
    else
    some x1.2
  ) fun x2 =>
  if (x2 != 0) = true then
    some ((⟨0, 0, (0, 0), 0, (⟨0, 0⟩ : g_api_Sig)⟩ : g_api_Head), x2)
  else
  obind (m_merkle_Root x1.1) fun x4 =>
  obind (m_logd_ofHead (⟨a0.Id, a2, x4, a3, (⟨0, 0⟩ : g_api_Sig)⟩ : g_api_Head)) fun x5 =>
  obind (m_sign_Sign a0.Key x5) fun x6 =>
  some ((⟨a0.Id, a2, x4, a3, x6.1⟩ : g_api_Head), x6.2)
theorem w_logd_Head {a0 : g_api_Log} {a1 : Int} {a2 : Int} {a3 : Int} {r : g_api_Head × Int} (hm : m_logd_Head a0 a1 a2 a3 = some r) : Sf prog 8 [ag (e_api_Log a0), .d (.i a1), .d (.i a2), .d (.i a3)] (.tup [ag (e_api_Head r.1), .d (.i r.2)]) :=
  sp call8 func8 rfl ntmps8 rfl fun D0 As η0 m0 hd => by
    unfold m_logd_Head at hm
    obtain ⟨x1, q1, hm⟩ := obind_some hm
    refine gco (s_logd_first q1) (by kernel_rfl) ?_
    obtain ⟨x2, q2, hm⟩ := obind_some hm
    obtain ⟨x3, q3, q2⟩ := obind_some q2
    refine gcG (fun h => w_logd_number (gu_t h q3)) (by kernel_rfl) ?_
    refine gj (fun (_ : Unit) => ⟨[(2, .d (.i a2)), (3, .d (.i a3)), (4, .pb 0 0), (8, .pb 1 0), (10, .ow 2), (11, .d (.i x2))], [(0, .row 2 2 _ e_a2_eU x1.1), (1, .box 1 [.d (.i 0), .d (.i 0), .d (.u 0), .d (.u 0), .d (.i 0), .d (.u 0), .d (.u 0)] 38), (2, .box 0 [.d (.i a0.Id), .d (.u a0.Key), .d (.i a0.Delay), sl e_api_Leaf a0.L, sl eI a0.Hide, sl e_api_Leaf a0.Wait] 26)], [], 3⟩) (fun _ => True) (by kernel_rfl) (fun Jp bk1 => ?_) fun _ _ => ?_
    · refine gi q2 (by kernel_rfl) (fun hc1 q2 => ?_) fun hc1 q2 => ?_
      · skip
        have e0 := Option.some.inj q2
        subst e0
        exact gb bk1 hd () trivial (by kernel_rfl)
      have e0 := Option.some.inj q2
      subst e0
      exact gb bk1 hd () trivial (by kernel_rfl)
    refine gi hm (by kernel_rfl) (fun hc2 hm => ?_) fun hc2 hm => ?_
    · skip
      have e0 := Option.some.inj hm
      subst e0
      exact gend hd (by kernel_rfl)
    obtain ⟨x4, q4, hm⟩ := obind_some hm
    refine gco (s_merkle_Root q4) (by kernel_rfl) ?_
    obtain ⟨x5, q5, hm⟩ := obind_some hm
    refine gco (w_logd_ofHead q5) (by kernel_rfl) ?_
    obtain ⟨x6, q6, hm⟩ := obind_some hm
    refine gco (w_sign_Sign q6) (by kernel_rfl) ?_
    have e0 := Option.some.inj hm
    subst e0
    exact gend hd (by kernel_rfl)
def m_sign_Secret (a0 : List UInt8) : Option UInt64 :=
  obind (m_sign_some (⟨#[115, 101, 99, 114, 101, 116]⟩ : ByteArray) ([a0] : List (List UInt8))) fun x1 =>
  some x1
theorem w_sign_Secret {a0 : List UInt8} {r : UInt64} (hm : m_sign_Secret a0 = some r) : Sf prog 44 [sl eB a0] (.d (.u r)) :=
  sp call44 func44 rfl ntmps44 rfl fun D0 As η0 m0 hd => by
    unfold m_sign_Secret at hm
    refine glitF (k := 1) (eL eB) ([a0] : List (List UInt8)) (fun _ => rfl) (by kernel_rfl) ?_
    obtain ⟨x1, q1, hm⟩ := obind_some hm
    refine gc (fun _ => w_sign_some q1) (by kernel_rfl) ?_
    have e0 := Option.some.inj hm
    subst e0
    exact gend hd (by kernel_rfl)
def m_logd_New (a0 : Int) (a1 : List UInt8) (a2 : Int) : Option (g_api_Log × Int) :=
  obind (m_sign_Secret a1) fun x1 =>
  obind (m_logd_Check (⟨a0, x1, a2, [], [], []⟩ : g_api_Log)) fun x2 =>
  if (x2 != 0) = true then
    some ((⟨0, 0, 0, [], [], []⟩ : g_api_Log), 1)
  else
  some ((⟨a0, x1, a2, [], [], []⟩ : g_api_Log), 0)
theorem w_logd_New {a0 : Int} {a1 : List UInt8} {a2 : Int} {r : g_api_Log × Int} (hm : m_logd_New a0 a1 a2 = some r) : Sf prog 16 [.d (.i a0), sl eB a1, .d (.i a2)] (.tup [ag (e_api_Log r.1), .d (.i r.2)]) :=
  sp call16 func16 rfl ntmps16 rfl fun D0 As η0 m0 hd => by
    unfold m_logd_New at hm
    obtain ⟨x1, q1, hm⟩ := obind_some hm
    refine gc (fun _ => w_sign_Secret q1) (by kernel_rfl) ?_
    obtain ⟨x2, q2, hm⟩ := obind_some hm
    refine gc (fun _ => s_logd_Check q2) (by kernel_rfl) ?_
    refine gi hm (by kernel_rfl) (fun hc1 hm => ?_) fun hc1 hm => ?_
    · skip
      have e0 := Option.some.inj hm
      subst e0
      exact gend hd (by kernel_rfl)
    have e0 := Option.some.inj hm
    subst e0
    exact gend hd (by kernel_rfl)
def m_logd_Public (a0 : g_api_Log) : Option (g_api_Key × Int) :=
  obind (m_logd_Check a0) fun x1 =>
  if (x1 != 0) = true then
    some ((⟨0, 0, 0⟩ : g_api_Key), x1)
  else
  obind (m_sign_Public a0.Key) fun x2 =>
  some ((⟨a0.Id, x2.1, a0.Delay⟩ : g_api_Key), x2.2)
theorem w_logd_Public {a0 : g_api_Log} {r : g_api_Key × Int} (hm : m_logd_Public a0 = some r) : Sf prog 17 [ag (e_api_Log a0)] (.tup [ag (e_api_Key r.1), .d (.i r.2)]) :=
  sp call17 func17 rfl ntmps17 rfl fun D0 As η0 m0 hd => by
    unfold m_logd_Public at hm
    obtain ⟨x1, q1, hm⟩ := obind_some hm
    refine gc (fun _ => s_logd_Check q1) (by kernel_rfl) ?_
    refine gi hm (by kernel_rfl) (fun hc1 hm => ?_) fun hc1 hm => ?_
    · skip
      have e0 := Option.some.inj hm
      subst e0
      exact gend hd (by kernel_rfl)
    obtain ⟨x2, q2, hm⟩ := obind_some hm
    refine gc (fun _ => w_sign_Public q2) (by kernel_rfl) ?_
    have e0 := Option.some.inj hm
    subst e0
    exact gend hd (by kernel_rfl)
def m_bytes_Equal (a0 : List UInt8) (a1 : List UInt8) : Option Bool :=
  some (eqS (bs a0) (bs a1))
theorem w_bytes_Equal {a0 : List UInt8} {a1 : List UInt8} {r : Bool} (hm : m_bytes_Equal a0 a1 = some r) : Sf prog 50 [sl eB a0, sl eB a1] (.d (.t r)) :=
  sp call50 func50 rfl ntmps50 rfl fun D0 As η0 m0 hd => by
    unfold m_bytes_Equal at hm
    refine gbs (xs := a0) (by kernel_rfl) ?_
    refine gbs (xs := a1) (by kernel_rfl) ?_
    have e0 := Option.some.inj hm
    subst e0
    exact gend hd (by kernel_rfl)
def m_logd_Add_1 (a0 : g_api_Leaf) (k0 : List UInt8) : Option (Bool × (List UInt8)) :=
  obind (m_bytes_Equal a0.Body k0) fun x1 =>
  some (x1, k0)
theorem w_logd_Add_1 {a0 : g_api_Leaf} {k0 : List UInt8} {r : Bool × (List UInt8)} (hm : m_logd_Add_1 a0 k0 = some r) : Sp prog 49 [ag (e_api_Leaf a0), .pb 0 0] [.box 0 [sl eB k0] 51] 1 (is (.d (.t r.1)) [.box 0 [.d (.sl _ eB r.2)] 51] 1) :=
  sp call49 func49 rfl ntmps49 rfl fun D0 As η0 m0 hd => by
    unfold m_logd_Add_1 at hm
    obtain ⟨x1, q1, hm⟩ := obind_some hm
    refine gc (fun _ => w_bytes_Equal q1) (by kernel_rfl) ?_
    have e0 := Option.some.inj hm
    subst e0
    exact gend hd (by kernel_rfl)
def m_slices_Clone_api_Leaf_api_Leaf (a0 : List g_api_Leaf) : Option (List g_api_Leaf) :=
  obind (app 32 ([] : List g_api_Leaf) a0) fun x1 =>
  some x1
theorem w_slices_Clone_api_Leaf_api_Leaf {m : Mem} {As : List Ow} {w : World} {a0 : List g_api_Leaf} {a0v0 : Value} {r : List g_api_Leaf} (S : St m (As) w) (a0h0 : SlR m a0v0 a0) (hm : m_slices_Clone_api_Leaf_api_Leaf a0 = some r) :
    CallsR Tryz.prog 51 #[a0v0] w fun v w' => ∃ (M : Mem), m ≤ M ∧ ∃ (rv0 : Value) (rc0 : List Value), St M ((row 2 rv0 rc0 r.length) :: As) w' ∧ v = rv0 ∧ RepL M rc0 r := by
 unfold m_slices_Clone_api_Leaf_api_Leaf at hm
 have L0 := Mem.rfl' m
 refine callsR (args := [a0v0]) func51 rfl ntmps51 (nb rfl) <| ws <| s_asv (v := .slice none 0 0) rfl <| wpl_nil <| nrm <| wpc_seq <| ws <| s_mvv (v := a0v0) rfl <| s_eqlNil rfl rfl a0h0 underlying23 <| wpl_nil <| nrm <| wpc_if (t := (isNilV a0v0)) rfl (fun hc1 => ?_) (fun hc1 => ?_)
 · have he1 : a0 = [] := SlR.nilOf a0h0 hc1
   rw [he1] at hm
   replace hm : (some ([] : List g_api_Leaf)) = some _ := hm
   refine ws <| s_asv (v := .slice none 0 0) rfl <| wpl_nil <| nrm <| wpc_ret <| thR <| outRw fun we hpd => ?_
   replace S := St.pd S hpd
   have S1 := St.rowNil S 2
   have h1 : RepL m [] ([] : List g_api_Leaf) := RepL.nil
   replace S1 : St _ ((row 2 (.slice none 0 0) [] ([] : List g_api_Leaf).length) :: As) _ := S1
   clear S
   have e0 := Option.some.inj hm
   subst e0
   exact outR [_] rfl ⟨rfl, trivial⟩ ⟨_, L0, _, _, S1, rfl, h1⟩
 refine wpc_skip <| nrm <| ws <| s_litOC (parts := []) (vs := []) (cls := []) (n := 0) (sz := 2) S underlying23 sizeOf67 zeroValue67 rfl trivial rfl rfl (by decide) (by decide) fun v1 w1 S2 => ?_
 have h2 : RepL m [] ([] : List g_api_Leaf) := RepL.nil
 replace S2 : St _ ((row 2 v1 [] ([] : List g_api_Leaf).length) :: As) _ := S2
 clear S
 refine s_mvv (v := a0v0) rfl ?_
 obtain ⟨x1, q1, hm⟩ := obind_some hm
 refine s_app (i := 0) (zs := x1) (bytes := 32) (ti := Tryz.t67) S2 rfl rfl h2 rfl rfl a0h0 q1 underlying23 type67 rfl rfl rfl rfl fun v2 c1 w2 S3 h3 => ?_
 replace S3 : St _ ((row 2 v2 c1 x1.length) :: As) _ := S3
 clear S2
 refine s_asv (v := v2) rfl <| wpl_nil <| nrm <| wpc_ret <| outRw fun we hpd => ?_
 replace S3 := St.pd S3 hpd
 have e0 := Option.some.inj hm
 subst e0
 exact outR [_] rfl ⟨rfl, trivial⟩ ⟨_, L0, _, _, S3, rfl, h3⟩
theorem s_slices_Clone_api_Leaf_api_Leaf {a0 : List g_api_Leaf} {r : List g_api_Leaf} (hm : m_slices_Clone_api_Leaf_api_Leaf a0 = some r) : Sp prog 51 [sl e_api_Leaf a0] [] 0 (is (.ow 0) [.row 0 2 _ e_api_Leaf r] 1) :=
  ⟨call51, fun η m As w vs hv0 hd S => by
    have S : St m As w := S
    obtain ⟨v0, u0, rfl, r0, hv1⟩ := RelL.cons_inv hv0
    have f0 := Br.ofS b_api_Leaf r0.dd
    obtain rfl := RelL.nil_inv hv1
    refine CallsR.mono (w_slices_Clone_api_Leaf_api_Leaf S f0 hm) ?_
    rintro v w' ⟨M, hle, y0, c0, S0, rfl, h0⟩
    exact ⟨M, (envL [v]), _, _, _, hle, dom0 hd _, ⟨rfl, rfl, rfl⟩, envL_dom rfl, (.ow rfl (row_one S0)), (St.impL S0 (sepC (Br.toR b_api_Leaf rfl rfl (row_one S0) h0) fun _ h => h))⟩⟩
def m_bytes_Clone (a0 : List UInt8) : Option (List UInt8) :=
  obind (app 1 ([] : List UInt8) a0) fun x1 =>
  some x1
theorem w_bytes_Clone {m : Mem} {As : List Ow} {w : World} {a0 : List UInt8} {a0v0 : Value} {r : List UInt8} (S : St m (As) w) (a0h0 : SlR m a0v0 a0) (hm : m_bytes_Clone a0 = some r) :
    CallsR Tryz.prog 52 #[a0v0] w fun v w' => ∃ (M : Mem), m ≤ M ∧ ∃ (rv0 : Value) (rc0 : List Value), St M ((row 1 rv0 rc0 r.length) :: As) w' ∧ v = rv0 ∧ RepL M rc0 r := by
 unfold m_bytes_Clone at hm
 have L0 := Mem.rfl' m
 refine callsR (args := [a0v0]) func52 rfl ntmps52 (nb rfl) <| ws <| s_asv (v := .slice none 0 0) rfl <| wpl_nil <| nrm <| wpc_seq <| ws <| s_mvv (v := a0v0) rfl <| s_eqlNil rfl rfl a0h0 underlying51 <| wpl_nil <| nrm <| wpc_if (t := (isNilV a0v0)) rfl (fun hc1 => ?_) (fun hc1 => ?_)
 · have he1 : a0 = [] := SlR.nilOf a0h0 hc1
   rw [he1] at hm
   replace hm : (some ([] : List UInt8)) = some _ := hm
   refine ws <| s_asv (v := .slice none 0 0) rfl <| wpl_nil <| nrm <| wpc_ret <| thR <| outRw fun we hpd => ?_
   replace S := St.pd S hpd
   have S1 := St.rowNil S 1
   have h1 : RepL m [] ([] : List UInt8) := RepL.nil
   replace S1 : St _ ((row 1 (.slice none 0 0) [] ([] : List UInt8).length) :: As) _ := S1
   clear S
   have e0 := Option.some.inj hm
   subst e0
   exact outR [_] rfl ⟨rfl, trivial⟩ ⟨_, L0, _, _, S1, rfl, h1⟩
 refine wpc_skip <| nrm <| ws <| s_litOC (parts := []) (vs := []) (cls := []) (n := 0) (sz := 1) S underlying51 sizeOf5 zeroValue5 rfl trivial rfl rfl (by decide) (by decide) fun v1 w1 S2 => ?_
 have h2 : RepL m [] ([] : List UInt8) := RepL.nil
 replace S2 : St _ ((row 1 v1 [] ([] : List UInt8).length) :: As) _ := S2
 clear S
 refine s_mvv (v := a0v0) rfl ?_
 obtain ⟨x1, q1, hm⟩ := obind_some hm
 refine s_app (i := 0) (zs := x1) (bytes := 1) (ti := Tryz.t5) S2 rfl rfl h2 rfl rfl a0h0 q1 underlying51 type5 rfl rfl rfl rfl fun v2 c1 w2 S3 h3 => ?_
 replace S3 : St _ ((row 1 v2 c1 x1.length) :: As) _ := S3
 clear S2
 refine s_asv (v := v2) rfl <| wpl_nil <| nrm <| wpc_ret <| outRw fun we hpd => ?_
 replace S3 := St.pd S3 hpd
 have e0 := Option.some.inj hm
 subst e0
 exact outR [_] rfl ⟨rfl, trivial⟩ ⟨_, L0, _, _, S3, rfl, h3⟩
theorem s_bytes_Clone {a0 : List UInt8} {r : List UInt8} (hm : m_bytes_Clone a0 = some r) : Sp prog 52 [sl eB a0] [] 0 (is (.ow 0) [.row 0 1 _ eB r] 1) :=
  ⟨call52, fun η m As w vs hv0 hd S => by
    have S : St m As w := S
    obtain ⟨v0, u0, rfl, r0, hv1⟩ := RelL.cons_inv hv0
    have f0 := Br.ofS Br.b r0.dd
    obtain rfl := RelL.nil_inv hv1
    refine CallsR.mono (w_bytes_Clone S f0 hm) ?_
    rintro v w' ⟨M, hle, y0, c0, S0, rfl, h0⟩
    exact ⟨M, (envL [v]), _, _, _, hle, dom0 hd _, ⟨rfl, rfl, rfl⟩, envL_dom rfl, (.ow rfl (row_one S0)), (St.impL S0 (sepC (Br.toR Br.b rfl rfl (row_one S0) h0) fun _ h => h))⟩⟩
def m_logd_ofPromise (a0 : g_api_Promise) : Option (List UInt8) :=
  obind (m_logd_eight a0.Log) fun x1 =>
  obind (m_logd_eight a0.At) fun x2 =>
  obind (m_hash_Bytes a0.Leaf) fun x3 =>
  obind (m_logd_msg (⟨#[112, 114, 111, 109, 105, 115, 101]⟩ : ByteArray) ([x1, x2, x3] : List (List UInt8))) fun x4 =>
  some x4
theorem w_logd_ofPromise {a0 : g_api_Promise} {r : List UInt8} (hm : m_logd_ofPromise a0 = some r) : Sp prog 53 [ag (e_api_Promise a0)] [] 0 (is (.ow 0) [.row 0 1 _ eB r] 1) :=
  sp call53 func53 rfl ntmps53 rfl fun D0 As η0 m0 hd => by
    unfold m_logd_ofPromise at hm
    obtain ⟨x1, q1, hm⟩ := obind_some hm
    refine gco (s_logd_eight q1) (by kernel_rfl) ?_
    obtain ⟨x2, q2, hm⟩ := obind_some hm
    refine gco (s_logd_eight q2) (by kernel_rfl) ?_
    obtain ⟨x3, q3, hm⟩ := obind_some hm
    refine gco (w_hash_Bytes q3) (by kernel_rfl) ?_
    refine glitV (k := 1) (eL eB) ([x1, x2, x3] : List (List UInt8)) (fun _ => rfl) (by kernel_rfl) ?_
    obtain ⟨x4, q4, hm⟩ := obind_some hm
    refine gco (w_logd_msg q4) (by kernel_rfl) ?_
    have e0 := Option.some.inj hm
    subst e0
    exact gend hd (by kernel_rfl)
def m_slices_IndexFunc_api_Leaf_api_Leaf_49x_b1 (a0 : List g_api_Leaf) (i1 : Int) (s1 : (List UInt8)) : Option (((List UInt8)) ⊕ (Int × (List UInt8))) :=
  obind (idx a0 (i1 : Int)) fun x3 =>
  obind (m_logd_Add_1 x3 s1) fun x4 =>
  if x4.1 = true then
    some (.inr ((i1 : Int), x4.2))
  else
  some (.inl x4.2)
def m_slices_IndexFunc_api_Leaf_api_Leaf_49x (a0 : List g_api_Leaf) (k0 : List UInt8) : Option (Int × (List UInt8)) :=
  obind (eachN (m_slices_IndexFunc_api_Leaf_api_Leaf_49x_b1 a0) a0.length 0 k0) fun x1 => match x1 with
  | .inr r => some r
  | .inl y1 =>
  some ((-1), y1)
theorem w_slices_IndexFunc_api_Leaf_api_Leaf_49x {a0 : List g_api_Leaf} {k0 : List UInt8} {r : Int × (List UInt8)} (hm : m_slices_IndexFunc_api_Leaf_api_Leaf_49x a0 k0 = some r) : Sp prog 48 [sl e_api_Leaf a0, .fn (.func 49) [] [.pb 0 0]] [.box 0 [sl eB k0] 51] 1 (is (.d (.i r.1)) [.box 0 [.d (.sl _ eB r.2)] 51] 1) :=
  sp call48 func48 rfl ntmps48 rfl fun D0 As η0 m0 hd => by
    unfold m_slices_IndexFunc_api_Leaf_api_Leaf_49x at hm
    obtain ⟨x1, q1, hm⟩ := obind_some hm
    refine glen 0 (E := e_api_Leaf) (xs := a0) 6 (by kernel_rfl) fun hle1 => ?_
    refine gjU 0 (fun (y1 : (List UInt8)) => ⟨[], [(0, .box 0 [sl eB y1] 51)], [], 1⟩) (fun y1 => x1 = .inl y1) (by kernel_rfl) (fun Jp bk1 => ?_) fun y1 hy => ?_
    · refine gl hd (fun (p : Int × ((List UInt8))) => let (p0, p_0) := p; ⟨[(0, sl e_api_Leaf a0), (1, .fn (.func 49) [] [.pb 0 0]), (7, .d (.i (a0.length : Int))), (8, .d (.i p0))], [(0, .box 0 [sl eB p_0] 51)], [], 1⟩) (fun p => ∃ i : Nat, p.1 = (i : Int) ∧ i ≤ a0.length ∧ eachN (m_slices_IndexFunc_api_Leaf_api_Leaf_49x_b1 a0) (a0.length - i) (i : Int) p.2 = some x1) (fun p => a0.length - p.1.toNat) (0, k0) ⟨0, rfl, Nat.zero_le _, q1⟩ (by kernel_rfl) ?_
      rintro ⟨_, s1⟩ ⟨i1, rfl, hi, q2⟩ Jl bl1
      refine gi' (b := decide ((i1 : Int) < (a0.length : Int))) (by kernel_rfl) (fun hc2 => ?_) fun hc2 => ?_
      · have hlt1 : i1 < a0.length := by have := of_decide_eq_true hc2; omega
        obtain ⟨y2, q4, q3⟩ := eachN_in q2 hlt1
        unfold m_slices_IndexFunc_api_Leaf_api_Leaf_49x_b1 at q4
        obtain ⟨x3, q6, q4⟩ := obind_some q4
        refine gidx (k := 2) (E := e_api_Leaf) (fun _ => rfl) (fun _ => q6) (by kernel_rfl) ?_
        obtain ⟨x4, q7, q4⟩ := obind_some q4
        refine gco (w_logd_Add_1 q7) (by kernel_rfl) ?_
        refine gi q4 (by kernel_rfl) (fun hc1 q4 => ?_) fun hc1 q4 => ?_
        · skip
          cases q4
          rcases q3 with ⟨sn, e, _⟩ | ⟨tn, e, e2⟩
          · cases e
          cases e
          cases e2
          dsimp only at hm
          have e0 := Option.some.inj hm
          subst e0
          exact gend hd (by kernel_rfl)
        have e0 := Option.some.inj q4
        subst e0
        rcases q3 with ⟨sn, e, q3'⟩ | ⟨tn, e, _⟩
        · have e := Sum.inl.inj e
          subst e
          exact gb bl1 hd (w64 ((i1 : Int) + 1), _) ⟨⟨i1 + 1, w64_succ hlt1 hle1, by omega, q3'⟩, mu_lt hlt1 hle1⟩ (by kernel_rfl)
        cases sum_lr e
      have hlt1 : ¬ i1 < a0.length := by have := of_decide_eq_false hc2; omega
      have e := eachN_out q2 hlt1
      cases e
      exact gb bk1 hd _ rfl (by kernel_rfl)
    subst hy
    dsimp only at hm
    have e0 := Option.some.inj hm
    subst e0
    exact gend hd (by kernel_rfl)
def m_logd_Add (a0 : g_api_Log) (a1 : List UInt8) (a2 : Int) : Option (g_api_Log × g_api_Promise × Int) :=
  obind (m_logd_Check a0) fun x1 =>
  if (x1 != 0) = true then
    some ((⟨0, 0, 0, [], [], []⟩ : g_api_Log), (⟨0, 0, (0, 0), (⟨0, 0⟩ : g_api_Sig)⟩ : g_api_Promise), x1)
  else
  obind (m_logd_isBody a1) fun x2 =>
  obind (gu (!(!x2)) (m_logd_number a2)) fun x3 =>
  if ((!x2) || (!x3)) = true then
    some ((⟨0, 0, 0, [], [], []⟩ : g_api_Log), (⟨0, 0, (0, 0), (⟨0, 0⟩ : g_api_Sig)⟩ : g_api_Promise), 1)
  else
  obind (m_logd_all a0) fun x4 =>
  obind (m_slices_IndexFunc_api_Leaf_api_Leaf_49x x4 a1) fun x5 =>
  if (decide (x5.1 ≥ 0)) = true then
    obind (idx x4 x5.1) fun x6 =>
    obind (m_merkle_Leaf x5.2) fun x7 =>
    obind (m_logd_ofPromise (⟨a0.Id, x6.At, x7, (⟨0, 0⟩ : g_api_Sig)⟩ : g_api_Promise)) fun x8 =>
    obind (m_sign_Sign a0.Key x8) fun x9 =>
    some (a0, (⟨a0.Id, x6.At, x7, x9.1⟩ : g_api_Promise), x9.2)
  else
  if ((x4.length : Int) == 256) = true then
    some ((⟨0, 0, 0, [], [], []⟩ : g_api_Log), (⟨0, 0, (0, 0), (⟨0, 0⟩ : g_api_Sig)⟩ : g_api_Promise), 2)
  else
  obind (m_slices_Clone_api_Leaf_api_Leaf a0.Wait) fun x10 =>
  obind (m_bytes_Clone x5.2) fun x11 =>
  obind (app 32 x10 ([(⟨x11, a2⟩ : g_api_Leaf)] : List g_api_Leaf)) fun x12 =>
  obind (m_merkle_Leaf x5.2) fun x13 =>
  obind (m_logd_ofPromise (⟨a0.Id, a2, x13, (⟨0, 0⟩ : g_api_Sig)⟩ : g_api_Promise)) fun x14 =>
  obind (m_sign_Sign a0.Key x14) fun x15 =>
  some ((⟨a0.Id, a0.Key, a0.Delay, a0.L, a0.Hide, x12⟩ : g_api_Log), (⟨a0.Id, a2, x13, x15.1⟩ : g_api_Promise), x15.2)
theorem w_logd_Add {a0 : g_api_Log} {a1 : List UInt8} {a2 : Int} {r : g_api_Log × g_api_Promise × Int} (hm : m_logd_Add a0 a1 a2 = some r) : Sf prog 18 [ag (e_api_Log a0), sl eB a1, .d (.i a2)] (.tup [ag (e_api_Log r.1), ag (e_api_Promise r.2.1), .d (.i r.2.2)]) :=
  sp call18 func18 rfl ntmps18 rfl fun D0 As η0 m0 hd => by
    unfold m_logd_Add at hm
    obtain ⟨x1, q1, hm⟩ := obind_some hm
    refine gc (fun _ => s_logd_Check q1) (by kernel_rfl) ?_
    refine gi hm (by kernel_rfl) (fun hc1 hm => ?_) fun hc1 hm => ?_
    · skip
      have e0 := Option.some.inj hm
      subst e0
      exact gend hd (by kernel_rfl)
    obtain ⟨x2, q2, hm⟩ := obind_some hm
    refine gc (fun _ => w_logd_isBody q2) (by kernel_rfl) ?_
    obtain ⟨x3, q3, hm⟩ := obind_some hm
    refine gcG (fun h => w_logd_number (gu_t h q3)) (by kernel_rfl) ?_
    refine gi hm (by kernel_rfl) (fun hc2 hm => ?_) fun hc2 hm => ?_
    · skip
      have e0 := Option.some.inj hm
      subst e0
      exact gend hd (by kernel_rfl)
    obtain ⟨x4, q4, hm⟩ := obind_some hm
    refine gco (w_logd_all q4) (by kernel_rfl) ?_
    obtain ⟨x5, q5, hm⟩ := obind_some hm
    refine gco (w_slices_IndexFunc_api_Leaf_api_Leaf_49x q5) (by kernel_rfl) ?_
    refine gi hm (by kernel_rfl) (fun hc3 hm => ?_) fun hc3 hm => ?_
    · obtain ⟨x6, q6, hm⟩ := obind_some hm
      refine gidx (k := 2) (E := e_api_Leaf) (fun _ => rfl) (fun _ => q6) (by kernel_rfl) ?_
      obtain ⟨x7, q7, hm⟩ := obind_some hm
      refine gc (fun _ => w_merkle_Leaf q7) (by kernel_rfl) ?_
      obtain ⟨x8, q8, hm⟩ := obind_some hm
      refine gco (w_logd_ofPromise q8) (by kernel_rfl) ?_
      obtain ⟨x9, q9, hm⟩ := obind_some hm
      refine gco (w_sign_Sign q9) (by kernel_rfl) ?_
      have e0 := Option.some.inj hm
      subst e0
      exact gend hd (by kernel_rfl)
    refine gi hm (by kernel_rfl) (fun hc4 hm => ?_) fun hc4 hm => ?_
    · skip
      have e0 := Option.some.inj hm
      subst e0
      exact gend hd (by kernel_rfl)
    obtain ⟨x10, q10, hm⟩ := obind_some hm
    refine gco (s_slices_Clone_api_Leaf_api_Leaf q10) (by kernel_rfl) ?_
    obtain ⟨x11, q11, hm⟩ := obind_some hm
    refine gco (s_bytes_Clone q11) (by kernel_rfl) ?_
    refine glitV (k := 2) e_api_Leaf ([(⟨x11, a2⟩ : g_api_Leaf)] : List g_api_Leaf) (fun _ => rfl) (by kernel_rfl) ?_
    obtain ⟨x12, q12, hm⟩ := obind_some hm
    refine gapp (k := 2) (E := e_api_Leaf) (fun _ => rfl) q12 (by kernel_rfl) ?_
    obtain ⟨x13, q13, hm⟩ := obind_some hm
    refine gc (fun _ => w_merkle_Leaf q13) (by kernel_rfl) ?_
    obtain ⟨x14, q14, hm⟩ := obind_some hm
    refine gco (w_logd_ofPromise q14) (by kernel_rfl) ?_
    obtain ⟨x15, q15, hm⟩ := obind_some hm
    refine gco (w_sign_Sign q15) (by kernel_rfl) ?_
    have e0 := Option.some.inj hm
    subst e0
    exact gend hd (by kernel_rfl)
def m_logd_Merge (a0 : g_api_Log) : Option (g_api_Log × Int) :=
  obind (m_logd_Check a0) fun x1 =>
  if (x1 != 0) = true then
    some ((⟨0, 0, 0, [], [], []⟩ : g_api_Log), x1)
  else
  obind (m_logd_all a0) fun x2 =>
  some ((⟨a0.Id, a0.Key, a0.Delay, x2, a0.Hide, []⟩ : g_api_Log), 0)
theorem w_logd_Merge {a0 : g_api_Log} {r : g_api_Log × Int} (hm : m_logd_Merge a0 = some r) : Sf prog 19 [ag (e_api_Log a0)] (.tup [ag (e_api_Log r.1), .d (.i r.2)]) :=
  sp call19 func19 rfl ntmps19 rfl fun D0 As η0 m0 hd => by
    unfold m_logd_Merge at hm
    obtain ⟨x1, q1, hm⟩ := obind_some hm
    refine gc (fun _ => s_logd_Check q1) (by kernel_rfl) ?_
    refine gi hm (by kernel_rfl) (fun hc1 hm => ?_) fun hc1 hm => ?_
    · skip
      have e0 := Option.some.inj hm
      subst e0
      exact gend hd (by kernel_rfl)
    obtain ⟨x2, q2, hm⟩ := obind_some hm
    refine gco (w_logd_all q2) (by kernel_rfl) ?_
    have e0 := Option.some.inj hm
    subst e0
    exact gend hd (by kernel_rfl)
def m_cmp_isNaN_int (a0 : Int) : Option Bool :=
  some (a0 != a0)
theorem w_cmp_isNaN_int {a0 : Int} {r : Bool} (hm : m_cmp_isNaN_int a0 = some r) : Sf prog 118 [.d (.i a0)] (.d (.t r)) :=
  sp call118 func118 rfl ntmps118 rfl fun D0 As η0 m0 hd => by
    unfold m_cmp_isNaN_int at hm
    have e0 := Option.some.inj hm
    subst e0
    exact gend hd (by kernel_rfl)
def m_cmp_Less_int (a0 : Int) (a1 : Int) : Option Bool :=
  obind (m_cmp_isNaN_int a0) fun x1 =>
  obind (gu x1 (m_cmp_isNaN_int a1)) fun x2 =>
  bnd (((x1 && (!x2)) || (decide (a0 < a1)))) fun x3 =>
  some x3
theorem w_cmp_Less_int {a0 : Int} {a1 : Int} {r : Bool} (hm : m_cmp_Less_int a0 a1 = some r) : Sf prog 94 [.d (.i a0), .d (.i a1)] (.d (.t r)) :=
  sp call94 func94 rfl ntmps94 rfl fun D0 As η0 m0 hd => by
    unfold m_cmp_Less_int at hm
    obtain ⟨x1, q1, hm⟩ := obind_some hm
    refine gc (fun _ => w_cmp_isNaN_int q1) (by kernel_rfl) ?_
    obtain ⟨x2, q2, hm⟩ := obind_some hm
    refine gcG (fun h => w_cmp_isNaN_int (gu_t h q2)) (by kernel_rfl) ?_
    have hm := bnd_is hm
    let x3 : Bool := (((x1 && (!x2)) || (decide (a0 < a1))))
    have e0 := Option.some.inj hm
    subst e0
    exact gend hd (by kernel_rfl)
def m_slices_isNaN_int (a0 : Int) : Option Bool :=
  some (a0 != a0)
theorem w_slices_isNaN_int {a0 : Int} {r : Bool} (hm : m_slices_isNaN_int a0 = some r) : Sf prog 95 [.d (.i a0)] (.d (.t r)) :=
  sp call95 func95 rfl ntmps95 rfl fun D0 As η0 m0 hd => by
    unfold m_slices_isNaN_int at hm
    have e0 := Option.some.inj hm
    subst e0
    exact gend hd (by kernel_rfl)
def m_slices_BinarySearch_int_int_b1 (a0 : List Int) (a1 : Int) (s1 : Int × Int) : Option ((Int × Int) ⊕ (Int)) :=
  if (decide (s1.1 < s1.2)) = true then
    bnd ((w64 ((shrU (toU (w64 (s1.1 + s1.2))) 1).toNat : Int))) fun x4 =>
    obind (idx a0 x4) fun x5 =>
    obind (m_cmp_Less_int x5 a1) fun x6 =>
    if x6 = true then
      some (.inl ((w64 (x4 + 1)), s1.2))
    else
    some (.inl (s1.1, x4))
  else
  some (.inr s1.1)
def m_slices_BinarySearch_int_int (a0 : List Int) (a1 : Int) : Option (Int × Bool) :=
  obind (
    obind (iter (m_slices_BinarySearch_int_int_b1 a0 a1) FUEL (0, (a0.length : Int))) fun x2 =>
    some x2
  ) fun x1 =>
  obind (gu (decide (x1 < (a0.length : Int))) (idx a0 x1)) fun x7 =>
  obind (gu ((decide (x1 < (a0.length : Int))) && (!(x7 == a1))) (idx a0 x1)) fun x8 =>
  obind (gu ((decide (x1 < (a0.length : Int))) && (!(x7 == a1))) (m_slices_isNaN_int x8)) fun x9 =>
  obind (gu (((decide (x1 < (a0.length : Int))) && (!(x7 == a1))) && x9) (m_slices_isNaN_int a1)) fun x10 =>
  bnd (((decide (x1 < (a0.length : Int))) && ((x7 == a1) || (x9 && x10)))) fun x11 =>
  some (x1, x11)
theorem w_slices_BinarySearch_int_int {a0 : List Int} {a1 : Int} {r : Int × Bool} (hm : m_slices_BinarySearch_int_int a0 a1 = some r) : Sf prog 54 [sl eI a0, .d (.i a1)] (.tup [.d (.i r.1), .d (.t r.2)]) :=
  sp call54 func54 rfl ntmps54 rfl fun D0 As η0 m0 hd => by
    unfold m_slices_BinarySearch_int_int at hm
    obtain ⟨x1, q1, hm⟩ := obind_some hm
    obtain ⟨x2, q2, q1⟩ := obind_some q1
    refine gjU 0 (fun (_ : Unit) => ⟨[(0, sl eI a0), (1, .d (.i a1)), (6, .d (.i (a0.length : Int))), (7, .d (.i x1))], [], [], 0⟩) (fun _ => True) (by kernel_rfl) (fun Jp bk1 => ?_) fun _ _ => ?_
    · refine gjU 0 (fun (_ : Unit) => ⟨[(0, sl eI a0), (1, .d (.i a1)), (6, .d (.i (a0.length : Int))), (7, .d (.i x2))], [], [], 0⟩) (fun _ => True) (by kernel_rfl) (fun Jp bk2 => ?_) fun _ _ => ?_
      · refine gl hd (fun (p : Nat × (Int × Int)) => let (p0, p_0, p_1) := p; ⟨[(0, sl eI a0), (1, .d (.i a1)), (6, .d (.i (a0.length : Int))), (7, .d (.i p_0)), (8, .d (.i p_1))], [], [], 0⟩) (fun p => iter (m_slices_BinarySearch_int_int_b1 a0 a1) p.1 p.2 = some x2) (fun p => p.1) (FUEL, (0, (a0.length : Int))) q2 (by kernel_rfl) ?_
        rintro ⟨n1, s1⟩ q3 Jl bl1
        cases n1 with
        | zero => exact (iter_zero q3).elim
        | succ n1 =>
          obtain ⟨y1, q5, q4⟩ := iter_succ q3
          unfold m_slices_BinarySearch_int_int_b1 at q5
          refine gi q5 (by kernel_rfl) (fun hc1 q5 => ?_) fun hc1 q5 => ?_
          · skip
            have q5 := bnd_is q5
            let x4 : Int := ((w64 ((shrU (toU (w64 (s1.1 + s1.2))) 1).toNat : Int)))
            obtain ⟨x5, q8, q5⟩ := obind_some q5
            refine gidx (k := 1) (E := eI) (fun _ => rfl) (fun _ => q8) (by kernel_rfl) ?_
            obtain ⟨x6, q9, q5⟩ := obind_some q5
            refine gc (fun _ => w_cmp_Less_int q9) (by kernel_rfl) ?_
            refine gi q5 (by kernel_rfl) (fun hc2 q5 => ?_) fun hc2 q5 => ?_
            · skip
              have e0 := Option.some.inj q5
              subst e0
              rcases q4 with ⟨sn, e, q4'⟩ | e
              · have e := Sum.inl.inj e
                subst e
                exact gb bl1 hd (n1, _) ⟨q4', Nat.lt_succ_self _⟩ (by kernel_rfl)
              cases sum_lr e
            have e0 := Option.some.inj q5
            subst e0
            rcases q4 with ⟨sn, e, q4'⟩ | e
            · have e := Sum.inl.inj e
              subst e
              exact gb bl1 hd (n1, _) ⟨q4', Nat.lt_succ_self _⟩ (by kernel_rfl)
            cases sum_lr e
          have e0 := Option.some.inj q5
          subst e0
          rcases q4 with ⟨sn, e, _⟩ | e
          · cases sum_rl e
          have e := Sum.inr.inj e
          subst e
          exact gb bk2 hd () trivial (by kernel_rfl)
      have e0 := Option.some.inj q1
      subst e0
      exact gb bk1 hd () trivial (by kernel_rfl)
    obtain ⟨x7, q10, hm⟩ := obind_some hm
    refine gidxG (k := 1) (E := eI) (fun _ => rfl) (fun h => gu_t h q10) (by kernel_rfl) ?_
    obtain ⟨x8, q11, hm⟩ := obind_some hm
    refine gidxG (k := 1) (E := eI) (fun _ => rfl) (fun h => gu_t h q11) (by kernel_rfl) ?_
    obtain ⟨x9, q12, hm⟩ := obind_some hm
    refine gcG (fun h => w_slices_isNaN_int (gu_t h q12)) (by kernel_rfl) ?_
    obtain ⟨x10, q13, hm⟩ := obind_some hm
    refine gcG (fun h => w_slices_isNaN_int (gu_t h q13)) (by kernel_rfl) ?_
    have hm := bnd_is hm
    let x11 : Bool := (((decide (x1 < (a0.length : Int))) && ((x7 == a1) || (x9 && x10))))
    have e0 := Option.some.inj hm
    subst e0
    exact gend hd (by kernel_rfl)
theorem v_slices_BinarySearch_int_int {m : Mem} {As : List Ow} {w : World} {a0 : List Int} {a0v0 : Value} {a1 : Int} {r : Int × Bool} (S : St m As w) (a0h0 : SlR m a0v0 a0) (hm : m_slices_BinarySearch_int_int a0 a1 = some r) :
    CallsR prog 54 #[a0v0, vI a1] w fun v w' => ∃ (M : Mem), m ≤ M ∧ St M (As) w' ∧ v = .tuple #[vI r.1, vb r.2] := by
  refine CallsR.mono ((w_slices_BinarySearch_int_int hm).2 none0 m As w [a0v0, vI a1] (.cons (.d (Br.toS Br.i a0h0)) (.cons (.d (.i _)) .nil)) (fun n h => absurd rfl h) S) ?_
  rintro v w' ⟨M, η', r', obs', n1, hle, _, ⟨rfl, rfl, rfl⟩, hdom, hR, S'⟩
  obtain ⟨us, rfl, hR0⟩ := hR.tup_inv
  obtain ⟨v0, u0, rfl, q0, hR1⟩ := RelL.cons_inv hR0
  obtain ⟨v1, u1, rfl, q1, hR2⟩ := RelL.cons_inv hR1
  obtain rfl := RelL.nil_inv hR2
  obtain rfl := q0.i_inv
  obtain rfl := q1.t_inv
  exact ⟨M, hle, S', rfl⟩
def m_slices_Insert_int_int (a0 : List Int) (a1 : Int) (a2 : List Int) : Option (List Int) :=
  if (0 : Int) ≤ a1 ∧ a1 ≤ (a0.length : Int) then
    if ((a2.length : Int) == 0) = true then
      some a0
    else
    if (a1 == (a0.length : Int)) = true then
      obind (app 8 a0 a2) fun x1 =>
      some x1
    else
    none
  else none
theorem w_slices_Insert_int_int {m : Mem} {As : List Ow} {w : World} {a0 : List Int} {a0v0 : Value} {a0c0 : List Value} {a1 : Int} {a2 : List Int} {a2v0 : Value} {r : List Int} (S : St m ((row 1 a0v0 a0c0 a0.length) :: As) w) (a0h0 : RepL m a0c0 a0) (a2h0 : SlR m a2v0 a2) (hm : m_slices_Insert_int_int a0 a1 a2 = some r) :
    CallsR Tryz.prog 55 #[a0v0, vI a1, a2v0] w fun v w' => ∃ (M : Mem), m ≤ M ∧ ∃ (rv0 : Value) (rc0 : List Value), St M ((row 1 rv0 rc0 r.length) :: As) w' ∧ v = rv0 ∧ RepL M rc0 r := by
 unfold m_slices_Insert_int_int at hm
 have L0 := Mem.rfl' m
 refine callsR (args := [a0v0, vI a1, a2v0]) func55 rfl ntmps55 (nb rfl) <| ws <| s_asv (v := .slice none 0 0) rfl <| nx <| s_mvv (v := a0v0) rfl <| s_mvv (v := vI a1) rfl ?_
 obtain ⟨⟨q1, q2⟩, hm⟩ := if_some hm
 refine s_cutX (i := 0) S rfl rfl underlying24 sizeOf3 rfl q1 q2 fun v1 => nx <| s_mvv (v := a2v0) rfl <| s_lenR (xs := a2) rfl a2h0 underlying24 <| s_asv (v := vI (a2.length : Int)) rfl <| wpl_nil <| nrm <| wpc_seq <| ws <| s_mvv (v := vI (a2.length : Int)) rfl <| s_eql (m := (a2.length : Int)) (n := 0) rfl rfl <| wpl_nil <| nrm <| wpc_if (t := ((a2.length : Int) == 0)) rfl (fun hc1 => ?_) (fun hc1 => ?_)
 · replace hm := ifT hc1 hm
   refine ws <| s_mvv (v := a0v0) rfl <| s_asv (v := a0v0) rfl <| wpl_nil <| nrm <| wpc_ret <| thR <| outRw fun we hpd => ?_
   replace S := St.pd S hpd
   have e0 := Option.some.inj hm
   subst e0
   exact outR [_] rfl ⟨rfl, trivial⟩ ⟨_, L0, _, _, S, rfl, a0h0⟩
 replace hm := ifF hc1 hm
 refine wpc_skip <| nrm <| ws <| s_mvv (v := a0v0) rfl <| s_lenO (i := 0) S rfl rfl underlying24 <| s_asv (v := vI (a0.length : Int)) rfl <| wpl_nil <| nrm <| wpc_seq <| ws <| s_mvv (v := vI a1) rfl <| s_mvv (v := vI (a0.length : Int)) rfl <| s_eql (m := a1) (n := (a0.length : Int)) rfl rfl <| wpl_nil <| nrm <| wpc_if (t := (a1 == (a0.length : Int))) rfl (fun hc2 => ?_) (fun hc2 => ?_)
 · replace hm := ifT hc2 hm
   refine ws <| s_mvv (v := a0v0) rfl <| s_mvv (v := a2v0) rfl ?_
   obtain ⟨x1, q3, hm⟩ := obind_some hm
   refine s_app (i := 0) (zs := x1) (bytes := 8) (ti := Tryz.t3) S rfl rfl a0h0 rfl rfl a2h0 q3 underlying24 type3 rfl rfl rfl rfl fun v2 c1 w1 S1 h1 => ?_
   replace S1 : St _ ((row 1 v2 c1 x1.length) :: As) _ := S1
   clear S
   refine s_asv (v := v2) rfl <| wpl_nil <| nrm <| wpc_ret <| thR <| outRw fun we hpd => ?_
   replace S1 := St.pd S1 hpd
   have e0 := Option.some.inj hm
   subst e0
   exact outR [_] rfl ⟨rfl, trivial⟩ ⟨_, L0, _, _, S1, rfl, h1⟩
 replace hm := ifF hc2 hm
 cases hm
def m_slices_Clone_int_int (a0 : List Int) : Option (List Int) :=
  obind (app 8 ([] : List Int) a0) fun x1 =>
  some x1
theorem w_slices_Clone_int_int {m : Mem} {As : List Ow} {w : World} {a0 : List Int} {a0v0 : Value} {r : List Int} (S : St m (As) w) (a0h0 : SlR m a0v0 a0) (hm : m_slices_Clone_int_int a0 = some r) :
    CallsR Tryz.prog 56 #[a0v0] w fun v w' => ∃ (M : Mem), m ≤ M ∧ ∃ (rv0 : Value) (rc0 : List Value), St M ((row 1 rv0 rc0 r.length) :: As) w' ∧ v = rv0 ∧ RepL M rc0 r := by
 unfold m_slices_Clone_int_int at hm
 have L0 := Mem.rfl' m
 refine callsR (args := [a0v0]) func56 rfl ntmps56 (nb rfl) <| ws <| s_asv (v := .slice none 0 0) rfl <| wpl_nil <| nrm <| wpc_seq <| ws <| s_mvv (v := a0v0) rfl <| s_eqlNil rfl rfl a0h0 underlying24 <| wpl_nil <| nrm <| wpc_if (t := (isNilV a0v0)) rfl (fun hc1 => ?_) (fun hc1 => ?_)
 · have he1 : a0 = [] := SlR.nilOf a0h0 hc1
   rw [he1] at hm
   replace hm : (some ([] : List Int)) = some _ := hm
   refine ws <| s_asv (v := .slice none 0 0) rfl <| wpl_nil <| nrm <| wpc_ret <| thR <| outRw fun we hpd => ?_
   replace S := St.pd S hpd
   have S1 := St.rowNil S 1
   have h1 : RepL m [] ([] : List Int) := RepL.nil
   replace S1 : St _ ((row 1 (.slice none 0 0) [] ([] : List Int).length) :: As) _ := S1
   clear S
   have e0 := Option.some.inj hm
   subst e0
   exact outR [_] rfl ⟨rfl, trivial⟩ ⟨_, L0, _, _, S1, rfl, h1⟩
 refine wpc_skip <| nrm <| ws <| s_litOC (parts := []) (vs := []) (cls := []) (n := 0) (sz := 1) S underlying24 sizeOf3 zeroValue3 rfl trivial rfl rfl (by decide) (by decide) fun v1 w1 S2 => ?_
 have h2 : RepL m [] ([] : List Int) := RepL.nil
 replace S2 : St _ ((row 1 v1 [] ([] : List Int).length) :: As) _ := S2
 clear S
 refine s_mvv (v := a0v0) rfl ?_
 obtain ⟨x1, q1, hm⟩ := obind_some hm
 refine s_app (i := 0) (zs := x1) (bytes := 8) (ti := Tryz.t3) S2 rfl rfl h2 rfl rfl a0h0 q1 underlying24 type3 rfl rfl rfl rfl fun v2 c1 w2 S3 h3 => ?_
 replace S3 : St _ ((row 1 v2 c1 x1.length) :: As) _ := S3
 clear S2
 refine s_asv (v := v2) rfl <| wpl_nil <| nrm <| wpc_ret <| outRw fun we hpd => ?_
 replace S3 := St.pd S3 hpd
 have e0 := Option.some.inj hm
 subst e0
 exact outR [_] rfl ⟨rfl, trivial⟩ ⟨_, L0, _, _, S3, rfl, h3⟩
def m_logd_Hide (a0 : g_api_Log) : Option (g_api_Log × Int) :=
  obind (m_logd_Check a0) fun x1 =>
  if (x1 != 0) = true then
    some ((⟨0, 0, 0, [], [], []⟩ : g_api_Log), x1)
  else
  bnd ((w64 ((a0.L.length : Int) - 1))) fun x2 =>
  if (decide (x2 < 0)) = true then
    some ((⟨0, 0, 0, [], [], []⟩ : g_api_Log), 240)
  else
  obind (
    obind (m_slices_BinarySearch_int_int a0.Hide x2) fun x4 =>
    if (!x4.2) = true then
      obind (m_slices_Clone_int_int a0.Hide) fun x5 =>
      obind (m_slices_Insert_int_int x5 x4.1 ([x2] : List Int)) fun x6 =>
      some x6
    else
    some a0.Hide
  ) fun x3 =>
  some ((⟨a0.Id, a0.Key, a0.Delay, a0.L, x3, a0.Wait⟩ : g_api_Log), 0)
theorem w_logd_Hide {m : Mem} {As : List Ow} {w : World} {a0 : g_api_Log} {a0v3 : Value} {a0v4 : Value} {a0v5 : Value} {r : g_api_Log × Int} (S : St m (As) w) (a0h3 : SlR m a0v3 a0.L) (a0h4 : SlR m a0v4 a0.Hide) (a0h5 : SlR m a0v5 a0.Wait) (hm : m_logd_Hide a0 = some r) :
    CallsR Tryz.prog 20 #[.agg (c_api_Log a0 a0v3 a0v4 a0v5).toArray] w fun v w' => ∃ (M : Mem), m ≤ M ∧ ∃ (rv0_3 : Value) (rv0_4 : Value) (rv0_5 : Value), St M (As) w' ∧ v = .tuple #[.agg (c_api_Log r.1 rv0_3 rv0_4 rv0_5).toArray, vI r.2] ∧ SlR M rv0_3 r.1.L ∧ SlR M rv0_4 r.1.Hide ∧ SlR M rv0_5 r.1.Wait := by
 unfold m_logd_Hide at hm
 have L0 := Mem.rfl' m
 refine callsR (args := [.agg (c_api_Log a0 a0v3 a0v4 a0v5).toArray]) func20 rfl ntmps20 (nb rfl) <| ws <| s_box S rfl fun b1 w1 S1 => ?_
 replace S1 : St _ ((bx b1 (c_api_Log a0 a0v3 a0v4 a0v5) 26) :: As) _ := S1
 clear S
 refine s_alloc S1 zeroValue26 fun b2 w2 S2 => ?_
 replace S2 : St _ ((bx b2 z_api_Log 26) :: (bx b1 (c_api_Log a0 a0v3 a0v4 a0v5) 26) :: As) _ := S2
 clear S1
 refine s_asv (v := vI 0) rfl <| wpl_nil <| nrm <| wpc_seq <| ws <| s_ld (i := 1) (cs := (c_api_Log a0 a0v3 a0v4 a0v5)) S2 rfl rfl isAgg26 sizeOf26 rfl (fun h => by cases h) ?_
 obtain ⟨x1, q1, hm⟩ := obind_some hm
 refine s_call call24 (w_logd_Check (a0 := a0) S2 a0h3 a0h4 a0h5 q1) rfl ?_
 rintro _ w3 ⟨m1, l1, S3, rfl⟩
 clear S2
 refine s_asv (v := vI x1) rfl <| nx <| s_mvv (v := vI x1) rfl <| s_neq (m := x1) (n := 0) rfl rfl <| wpl_nil <| nrm <| wpc_if (t := (x1 != 0)) rfl (fun hc1 => ?_) (fun hc1 => ?_)
 · replace hm := ifT hc1 hm
   refine ws <| s_build (parts := []) (ps := []) (cs := z_api_Log) zeroValue26 (BuildPl.str (ss := [1, 1, 1, 1, 1, 1]) underlying26 ⟨sizeOf3, sizeOf22, sizeOf3, sizeOf23, sizeOf24, sizeOf23, trivial⟩) rfl trivial rfl <| s_mvv (v := vI x1) rfl <| s_stL (i := 0) S3 rfl rfl rfl sizeOf26 (oneC rfl (oneC rfl (oneC rfl (oneC rfl (oneC rfl (oneC rfl oneN)))))) rfl fun w4 S4 => ?_
   replace S4 : St _ ((bx b2 z_api_Log 26) :: (bx b1 (c_api_Log a0 a0v3 a0v4 a0v5) 26) :: As) _ := S4
   clear S3
   refine s_asv (v := vI x1) rfl <| wpl_nil <| nrm <| wpc_ret <| thR <| outRw fun we hpd => ?_
   replace S4 := St.pd S4 hpd
   have SR := S4
   obtain ⟨m2, l2, S5⟩ := St.drop S4 0
   replace S5 : St _ ((bx b1 (c_api_Log a0 a0v3 a0v4 a0v5) 26) :: As) _ := S5
   obtain ⟨m3, l3, S6⟩ := St.drop S5 0
   clear S5
   replace S6 : St _ (As) _ := S6
   have e0 := Option.some.inj hm
   subst e0
   replace L0 := Mem.tr L0 (mt l1 (mt l2 l3))
   exact outR [_, _] rfl ⟨res_box (i := 0) (off := 0) (cs := z_api_Log) SR rfl rfl isAgg26 sizeOf26 rfl (fun h => by cases h), rfl, trivial⟩ ⟨_, L0, _, _, _, S6, rfl, SlR.nil, SlR.nil, SlR.nil⟩
 replace hm := ifF hc1 hm
 refine wpc_skip <| nrm <| ws <| s_fld (n := 0) rfl underlying26 rfl rfl sizeOf23 <| s_ld (i := 1) (cs := [a0v3]) S3 rfl rfl isAgg23 sizeOf23 rfl (fun _ => rfl) <| s_lenR (xs := a0.L) rfl (a0h3.up l1) underlying23 <| s_subI (m := (a0.L.length : Int)) (n := 1) rfl rfl ?_
 obtain ⟨x2, q2, hm⟩ := bnd_eq hm
 refine s_asv (v := vI x2) (congrArg (fun z => vI z) q2.symm) <| wpl_nil <| nrm <| wpc_seq <| ws <| s_mvv (v := vI x2) rfl <| s_lss (m := x2) (n := 0) rfl rfl <| wpl_nil <| nrm <| wpc_if (t := (decide (x2 < 0))) rfl (fun hc2 => ?_) (fun hc2 => ?_)
 · replace hm := ifT hc2 hm
   refine ws <| s_build (parts := []) (ps := []) (cs := z_api_Log) zeroValue26 (BuildPl.str (ss := [1, 1, 1, 1, 1, 1]) underlying26 ⟨sizeOf3, sizeOf22, sizeOf3, sizeOf23, sizeOf24, sizeOf23, trivial⟩) rfl trivial rfl <| s_stL (i := 0) S3 rfl rfl rfl sizeOf26 (oneC rfl (oneC rfl (oneC rfl (oneC rfl (oneC rfl (oneC rfl oneN)))))) rfl fun w5 S7 => ?_
   replace S7 : St _ ((bx b2 z_api_Log 26) :: (bx b1 (c_api_Log a0 a0v3 a0v4 a0v5) 26) :: As) _ := S7
   clear S3
   refine s_asv (v := vI 240) rfl <| wpl_nil <| nrm <| wpc_ret <| thR <| outRw fun we hpd => ?_
   replace S7 := St.pd S7 hpd
   have SR := S7
   obtain ⟨m4, l4, S8⟩ := St.drop S7 0
   replace S8 : St _ ((bx b1 (c_api_Log a0 a0v3 a0v4 a0v5) 26) :: As) _ := S8
   obtain ⟨m5, l5, S9⟩ := St.drop S8 0
   clear S8
   replace S9 : St _ (As) _ := S9
   have e0 := Option.some.inj hm
   subst e0
   replace L0 := Mem.tr L0 (mt l1 (mt l4 l5))
   exact outR [_, _] rfl ⟨res_box (i := 0) (off := 0) (cs := z_api_Log) SR rfl rfl isAgg26 sizeOf26 rfl (fun h => by cases h), rfl, trivial⟩ ⟨_, L0, _, _, _, S9, rfl, SlR.nil, SlR.nil, SlR.nil⟩
 replace hm := ifF hc2 hm
 refine wpc_skip <| nrm ?_
 obtain ⟨x3, q3, hm⟩ := obind_some hm
 have L1 := Mem.rfl' m1
 refine wpc_seq <| wpc_join [6, 7, 21, 22, 23, 24, 25, 26, 27, 28, 29, 30, 31, 32, 33, 34, 35, 36, 37] (fun f' w' => ∃ (M1 : Mem) (v1 : Value), m1 ≤ M1 ∧ St M1 ((bx b2 z_api_Log 26) :: (bx b1 (c_api_Log a0 a0v3 v1 a0v5) 26) :: As) w' ∧ SlR M1 v1 x3 ∧ AllAt f' []) ?_ ?_
 · refine ws <| s_fld (n := 0) rfl underlying26 rfl rfl sizeOf24 <| s_ld (i := 1) (cs := [a0v4]) S3 rfl rfl isAgg24 sizeOf24 rfl (fun _ => rfl) <| s_mvv (v := vI x2) rfl ?_
   obtain ⟨x4, q4, q3⟩ := obind_some q3
   refine s_call call54 (v_slices_BinarySearch_int_int (a0 := a0.Hide) (a1 := x2) S3 (a0h4.up l1) q4) rfl ?_
   rintro _ w6 ⟨m6, l6, S10, rfl⟩
   clear S3
   refine s_mvv (v := .tuple #[vI x4.1, vb x4.2]) rfl <| s_ext (i := 0) rfl rfl <| s_ext (i := 1) rfl rfl <| s_asv (v := vI x4.1) rfl <| s_asv (v := vb x4.2) rfl <| nx <| s_mvv (v := vb x4.2) rfl <| s_not rfl <| wpl_nil <| nrm <| wpc_if (t := (!x4.2)) rfl (fun hc3 => ?_) (fun hc3 => ?_)
   · replace q3 := ifT hc3 q3
     refine wpc_region <| s_fld (n := 0) rfl underlying26 rfl rfl sizeOf24 <| s_ld (i := 1) (cs := [a0v4]) S10 rfl rfl isAgg24 sizeOf24 rfl (fun _ => rfl) ?_
     obtain ⟨x5, q5, q3⟩ := obind_some q3
     replace a0h4 := a0h4.up (mt l1 l6)
     refine s_call call56 (w_slices_Clone_int_int (a0 := a0.Hide) S10 a0h4 q5) rfl ?_
     rintro v2 w7 ⟨m7, l7, _, c1, S11, rfl, h2⟩
     clear S10
     refine s_mvv (v := vI x4.1) rfl <| s_mvv (v := vI x2) rfl <| s_litC (parts := [.tmp 34]) (vs := [vI x2]) (cls := [[vI x2]]) (xs := ([x2] : List Int)) (n := 1) S11 underlying24 sizeOf3 zeroValue3 rfl ⟨rfl, trivial⟩ (RepL.cons (c := [vI x2]) (x := x2) rfl RepL.nil) rfl rfl rfl (by decide) (by decide) fun v3 m8 w8 l8 S12 h3 => ?_
     clear S11
     obtain ⟨x6, q6, q3⟩ := obind_some q3
     replace h2 := RepL.up l8 h2
     refine s_call call55 (w_slices_Insert_int_int (a0 := x5) (a1 := x4.1) (a2 := ([x2] : List Int)) S12 h2 h3 q6) rfl ?_
     rintro v4 w9 ⟨m9, l9, _, c2, S13, rfl, h4⟩
     clear S12
     refine s_fld (n := 0) rfl underlying26 rfl rfl sizeOf24 <| s_stS (i := 2) S13 rfl rfl rfl sizeOf24 (St.rowCells (i := 0) S13 rfl) rfl fun w10 S14 => ?_
     replace S14 : St _ ((row 1 v4 c2 x6.length) :: (bx b2 z_api_Log 26) :: (bx b1 (c_api_Log a0 a0v3 v4 a0v5) 26) :: As) _ := S14
     clear S13
     refine wpl_nil <| nrm ?_
     obtain ⟨m10, l10, h5, S15⟩ := St.rowKeepT (i := 0) S14 rfl h4 rfl
     clear S14
     have e0 := Option.some.inj q3
     subst e0
     replace L1 := Mem.tr L1 (mt l6 (mt l7 (mt l8 (mt l9 l10))))
     exact ⟨outP, m10, _, L1, S15, h5, trivial⟩
   replace q3 := ifF hc3 q3
   refine wpc_skip <| nrm ?_
   have e0 := Option.some.inj q3
   subst e0
   replace a0h4 := a0h4.up (mt l1 l6)
   replace L1 := Mem.tr L1 l6
   exact ⟨outP, m6, _, L1, S10, a0h4, trivial⟩
 rintro f1 w11 ho ⟨m11, v1, l11, S16, h1, ha⟩
 obtain ⟨u1, rfl⟩ := fr_of (N := 39) ho ha
 clear S3
 refine ws <| s_ld (i := 1) (cs := (c_api_Log a0 a0v3 v1 a0v5)) S16 rfl rfl isAgg26 sizeOf26 rfl (fun h => by cases h) ?_
 replace a0h3 := a0h3.up (mt l1 l11)
 replace a0h5 := a0h5.up (mt l1 l11)
 refine s_stL (i := 0) S16 rfl rfl rfl sizeOf26 (oneC rfl (oneC rfl (oneC rfl (oneC (SlR.one a0h3) (oneC (SlR.one h1) (oneC (SlR.one a0h5) oneN)))))) rfl fun w12 S17 => ?_
 replace S17 : St _ ((bx b2 (c_api_Log a0 a0v3 v1 a0v5) 26) :: (bx b1 (c_api_Log a0 a0v3 v1 a0v5) 26) :: As) _ := S17
 clear S16
 refine s_asv (v := vI 0) rfl <| wpl_nil <| nrm <| wpc_ret <| outRw fun we hpd => ?_
 replace S17 := St.pd S17 hpd
 have SR := S17
 obtain ⟨m12, l12, S18⟩ := St.drop S17 0
 replace S18 : St _ ((bx b1 (c_api_Log a0 a0v3 v1 a0v5) 26) :: As) _ := S18
 obtain ⟨m13, l13, S19⟩ := St.drop S18 0
 clear S18
 replace S19 : St _ (As) _ := S19
 have e0 := Option.some.inj hm
 subst e0
 replace L0 := Mem.tr L0 (mt l1 (mt l11 (mt l12 l13)))
 replace a0h3 := a0h3.up (mt l12 l13)
 replace h1 := h1.up (mt l12 l13)
 replace a0h5 := a0h5.up (mt l12 l13)
 exact outR [_, _] rfl ⟨res_box (i := 0) (off := 0) (cs := (c_api_Log a0 a0v3 v1 a0v5)) SR rfl rfl isAgg26 sizeOf26 rfl (fun h => by cases h), rfl, trivial⟩ ⟨_, L0, _, _, _, S19, rfl, a0h3, h1, a0h5⟩
theorem s_logd_Hide {a0 : g_api_Log} {r : g_api_Log × Int} (hm : m_logd_Hide a0 = some r) : Sf prog 20 [ag (e_api_Log a0)] (.tup [ag (e_api_Log r.1), .d (.i r.2)]) :=
  ⟨call20, fun η m As w vs hv0 hd S => by
    have S : St m As w := S
    obtain ⟨v0, u0, rfl, r0, hv1⟩ := RelL.cons_inv hv0
    obtain ⟨c0, rfl, g0⟩ := Br.ofA b_api_Log r0
    obtain ⟨z0_0, z0_1, z0_2, rfl, f0_0, f0_1, f0_2⟩ := rep_g_api_Log g0
    obtain rfl := RelL.nil_inv hv1
    refine CallsR.mono (w_logd_Hide S f0_0 f0_1 f0_2 hm) ?_
    rintro v w' ⟨M, hle, y0_0, y0_1, y0_2, S0, rfl, h0_0, h0_1, h0_2⟩
    exact ⟨M, none0, _, _, _, hle, dom0 hd _, ⟨rfl, rfl, rfl⟩, fun n h => absurd rfl h, (.tup' (.cons (Br.toA b_api_Log (mk_g_api_Log h0_0 h0_1 h0_2)) (.cons (.d (.i _)) .nil))), S0⟩⟩
def m_cyclic_In (a0 : UInt64) : Option Bool :=
  obind (gu ((decide ((a0.toNat : Int) > 0)) && (decide ((a0.toNat : Int) < 2305843009213691579))) (m_cyclic_Pow a0 1152921504606845789)) fun x1 =>
  bnd ((((decide ((a0.toNat : Int) > 0)) && (decide ((a0.toNat : Int) < 2305843009213691579))) && ((x1.toNat : Int) == 1))) fun x2 =>
  some x2
theorem w_cyclic_In {a0 : UInt64} {r : Bool} (hm : m_cyclic_In a0 = some r) : Sf prog 123 [.d (.u a0)] (.d (.t r)) :=
  sp call123 func123 rfl ntmps123 rfl fun D0 As η0 m0 hd => by
    unfold m_cyclic_In at hm
    obtain ⟨x1, q1, hm⟩ := obind_some hm
    refine gcG (fun h => s_cyclic_Pow (gu_t h q1)) (by kernel_rfl) ?_
    have hm := bnd_is hm
    let x2 : Bool := ((((decide ((a0.toNat : Int) > 0)) && (decide ((a0.toNat : Int) < 2305843009213691579))) && ((x1.toNat : Int) == 1)))
    have e0 := Option.some.inj hm
    subst e0
    exact gend hd (by kernel_rfl)
def m_cyclic_ring_inverse_b1  (s1 : UInt64 × UInt64 × Int × Int) : Option ((UInt64 × UInt64 × Int × Int) ⊕ (Int)) :=
  if ((s1.2.1.toNat : Int) != 0) = true then
    if s1.2.1 ≠ 0 then
      bnd ((s1.1 - ((s1.1 / s1.2.1) * s1.2.1))) fun x4 =>
      bnd ((w64 (s1.2.2.1 - (w64 ((w64 ((s1.1 / s1.2.1).toNat : Int)) * s1.2.2.2))))) fun x5 =>
      some (.inl (s1.2.1, x4, s1.2.2.2, x5))
    else none
  else
  some (.inr s1.2.2.1)
def m_cyclic_ring_inverse (a0 : UInt64) (a1 : UInt64) : Option (UInt64 × Int) :=
  if a0 ≠ 0 then
    if (((a1 % a0).toNat : Int) == 0) = true then
      some (0, 10)
    else
    obind (
      obind (iter m_cyclic_ring_inverse_b1 FUEL ((a1 % a0), a0, 1, 0)) fun x2 =>
      some x2
    ) fun x1 =>
    obind (
      if (decide (x1 < 0)) = true then
        bnd ((w64 (x1 + (w64 (a0.toNat : Int))))) fun x7 =>
        some x7
      else
      some x1
    ) fun x6 =>
    some ((toU x6), 0)
  else none
theorem w_cyclic_ring_inverse {a0 : UInt64} {a1 : UInt64} {r : UInt64 × Int} (hm : m_cyclic_ring_inverse a0 a1 = some r) : Sf prog 143 [.d (.u a0), .d (.u a1)] (.tup [.d (.u r.1), .d (.i r.2)]) :=
  sp call143 func143 rfl ntmps143 rfl fun D0 As η0 m0 hd => by
    unfold m_cyclic_ring_inverse at hm
    obtain ⟨q1, hm⟩ := if_some hm
    refine gquo (d := .u a0) (r := .u (a1 % a0)) (fun h => q1) (by kernel_rfl) ?_
    refine gi hm (by kernel_rfl) (fun hc1 hm => ?_) fun hc1 hm => ?_
    · skip
      have e0 := Option.some.inj hm
      subst e0
      exact gend hd (by kernel_rfl)
    obtain ⟨x1, q2, hm⟩ := obind_some hm
    obtain ⟨x2, q3, q2⟩ := obind_some q2
    refine gjU 0 (fun (_ : Unit) => ⟨[(0, .d (.u a0)), (8, .d (.i x1))], [], [], 0⟩) (fun _ => True) (by kernel_rfl) (fun Jp bk1 => ?_) fun _ _ => ?_
    · refine gjU 0 (fun (_ : Unit) => ⟨[(0, .d (.u a0)), (8, .d (.i x2))], [], [], 0⟩) (fun _ => True) (by kernel_rfl) (fun Jp bk2 => ?_) fun _ _ => ?_
      · refine gl hd (fun (p : Nat × (UInt64 × UInt64 × Int × Int)) => let (p0, p_0, p_1, p_2, p_3) := p; ⟨[(0, .d (.u a0)), (6, .d (.u p_0)), (7, .d (.u p_1)), (8, .d (.i p_2)), (9, .d (.i p_3))], [], [], 0⟩) (fun p => iter m_cyclic_ring_inverse_b1 p.1 p.2 = some x2) (fun p => p.1) (FUEL, ((a1 % a0), a0, 1, 0)) q3 (by kernel_rfl) ?_
        rintro ⟨n1, s1⟩ q4 Jl bl1
        cases n1 with
        | zero => exact (iter_zero q4).elim
        | succ n1 =>
          obtain ⟨y1, q6, q5⟩ := iter_succ q4
          unfold m_cyclic_ring_inverse_b1 at q6
          refine gi q6 (by kernel_rfl) (fun hc2 q6 => ?_) fun hc2 q6 => ?_
          · skip
            obtain ⟨q8, q6⟩ := if_some q6
            refine gquo (d := .u s1.2.1) (r := .u (s1.1 / s1.2.1)) (fun h => q8) (by kernel_rfl) ?_
            have q6 := bnd_is q6
            let x4 : UInt64 := ((s1.1 - ((s1.1 / s1.2.1) * s1.2.1)))
            have q6 := bnd_is q6
            let x5 : Int := ((w64 (s1.2.2.1 - (w64 ((w64 ((s1.1 / s1.2.1).toNat : Int)) * s1.2.2.2)))))
            have e0 := Option.some.inj q6
            subst e0
            rcases q5 with ⟨sn, e, q5'⟩ | e
            · have e := Sum.inl.inj e
              subst e
              exact gb bl1 hd (n1, _) ⟨q5', Nat.lt_succ_self _⟩ (by kernel_rfl)
            cases sum_lr e
          have e0 := Option.some.inj q6
          subst e0
          rcases q5 with ⟨sn, e, _⟩ | e
          · cases sum_rl e
          have e := Sum.inr.inj e
          subst e
          exact gb bk2 hd () trivial (by kernel_rfl)
      have e0 := Option.some.inj q2
      subst e0
      exact gb bk1 hd () trivial (by kernel_rfl)
    obtain ⟨x6, q11, hm⟩ := obind_some hm
    refine gj (fun (_ : Unit) => ⟨[(8, .d (.i x6))], [], [], 0⟩) (fun _ => True) (by kernel_rfl) (fun Jp bk3 => ?_) fun _ _ => ?_
    · refine gi q11 (by kernel_rfl) (fun hc3 q11 => ?_) fun hc3 q11 => ?_
      · have q11 := bnd_is q11
        let x7 : Int := ((w64 (x1 + (w64 (a0.toNat : Int)))))
        have e0 := Option.some.inj q11
        subst e0
        exact gb bk3 hd () trivial (by kernel_rfl)
      have e0 := Option.some.inj q11
      subst e0
      exact gb bk3 hd () trivial (by kernel_rfl)
    have e0 := Option.some.inj hm
    subst e0
    exact gend hd (by kernel_rfl)
def m_cyclic_Inv (a0 : UInt64) : Option (UInt64 × Int) :=
  obind (m_cyclic_ring_inverse 2305843009213691579 a0) fun x1 =>
  some (x1.1, x1.2)
theorem w_cyclic_Inv {a0 : UInt64} {r : UInt64 × Int} (hm : m_cyclic_Inv a0 = some r) : Sf prog 124 [.d (.u a0)] (.tup [.d (.u r.1), .d (.i r.2)]) :=
  sp call124 func124 rfl ntmps124 rfl fun D0 As η0 m0 hd => by
    unfold m_cyclic_Inv at hm
    obtain ⟨x1, q1, hm⟩ := obind_some hm
    refine gc (fun _ => w_cyclic_ring_inverse q1) (by kernel_rfl) ?_
    have e0 := Option.some.inj hm
    subst e0
    exact gend hd (by kernel_rfl)
def m_cyclic_Mul (a0 : UInt64) (a1 : UInt64) : Option UInt64 :=
  obind (m_cyclic_ring_mul 2305843009213691579 a0 a1) fun x1 =>
  some x1
theorem w_cyclic_Mul {a0 : UInt64} {a1 : UInt64} {r : UInt64} (hm : m_cyclic_Mul a0 a1 = some r) : Sf prog 125 [.d (.u a0), .d (.u a1)] (.d (.u r)) :=
  sp call125 func125 rfl ntmps125 rfl fun D0 As η0 m0 hd => by
    unfold m_cyclic_Mul at hm
    obtain ⟨x1, q1, hm⟩ := obind_some hm
    refine gc (fun _ => s_cyclic_ring_mul q1) (by kernel_rfl) ?_
    have e0 := Option.some.inj hm
    subst e0
    exact gend hd (by kernel_rfl)
def m_sign_Check (a0 : UInt64) (a1 : List UInt8) (a2 : g_api_Sig) : Option Int :=
  obind (m_cyclic_In a0) fun x1 =>
  if (!x1) = true then
    some 1
  else
  if (decide (((maxU a2.E a2.S).toNat : Int) ≥ 1152921504606845789)) = true then
    some 40
  else
  obind (m_cyclic_Pow a0 a2.E) fun x2 =>
  obind (m_cyclic_Inv x2) fun x3 =>
  obind (gu (!(x3.2 != 0)) (m_cyclic_Base a2.S)) fun x4 =>
  obind (gu (!(x3.2 != 0)) (m_cyclic_Mul x4 x3.1)) fun x5 =>
  obind (gu (!(x3.2 != 0)) (m_sign_Challenge x5 a0 a1)) fun x6 =>
  if ((x3.2 != 0) || ((x6.toNat : Int) != (a2.E.toNat : Int))) = true then
    some 40
  else
  some 0
theorem w_sign_Check {a0 : UInt64} {a1 : List UInt8} {a2 : g_api_Sig} {r : Int} (hm : m_sign_Check a0 a1 a2 = some r) : Sf prog 100 [.d (.u a0), sl eB a1, ag (e_api_Sig a2)] (.d (.i r)) :=
  sp call100 func100 rfl ntmps100 rfl fun D0 As η0 m0 hd => by
    unfold m_sign_Check at hm
    obtain ⟨x1, q1, hm⟩ := obind_some hm
    refine gc (fun _ => w_cyclic_In q1) (by kernel_rfl) ?_
    refine gi hm (by kernel_rfl) (fun hc1 hm => ?_) fun hc1 hm => ?_
    · skip
      have e0 := Option.some.inj hm
      subst e0
      exact gend hd (by kernel_rfl)
    refine gi hm (by kernel_rfl) (fun hc2 hm => ?_) fun hc2 hm => ?_
    · skip
      have e0 := Option.some.inj hm
      subst e0
      exact gend hd (by kernel_rfl)
    obtain ⟨x2, q2, hm⟩ := obind_some hm
    refine gc (fun _ => s_cyclic_Pow q2) (by kernel_rfl) ?_
    obtain ⟨x3, q3, hm⟩ := obind_some hm
    refine gc (fun _ => w_cyclic_Inv q3) (by kernel_rfl) ?_
    obtain ⟨x4, q4, hm⟩ := obind_some hm
    refine gcG (fun h => w_cyclic_Base (gu_t h q4)) (by kernel_rfl) ?_
    obtain ⟨x5, q5, hm⟩ := obind_some hm
    refine gcG (fun h => w_cyclic_Mul (gu_t h q5)) (by kernel_rfl) ?_
    obtain ⟨x6, q6, hm⟩ := obind_some hm
    refine gcG (fun h => w_sign_Challenge (gu_t h q6)) (by kernel_rfl) ?_
    refine gi hm (by kernel_rfl) (fun hc3 hm => ?_) fun hc3 hm => ?_
    · skip
      have e0 := Option.some.inj hm
      subst e0
      exact gend hd (by kernel_rfl)
    have e0 := Option.some.inj hm
    subst e0
    exact gend hd (by kernel_rfl)
def m_logd_signed (a0 : g_api_Key) (a1 : Int) (a2 : Bool) (a3 : List UInt8) (a4 : g_api_Sig) : Option Int :=
  obind (m_logd_number a1) fun x1 =>
  if ((!x1) || (!a2)) = true then
    some 1
  else
  if (a1 != a0.Log) = true then
    some 240
  else
  obind (m_sign_Check a0.Key a3 a4) fun x2 =>
  some x2
theorem w_logd_signed {a0 : g_api_Key} {a1 : Int} {a2 : Bool} {a3 : List UInt8} {a4 : g_api_Sig} {r : Int} (hm : m_logd_signed a0 a1 a2 a3 a4 = some r) : Sf prog 58 [ag (e_api_Key a0), .d (.i a1), .d (.t a2), sl eB a3, ag (e_api_Sig a4)] (.d (.i r)) :=
  sp call58 func58 rfl ntmps58 rfl fun D0 As η0 m0 hd => by
    unfold m_logd_signed at hm
    obtain ⟨x1, q1, hm⟩ := obind_some hm
    refine gc (fun _ => w_logd_number q1) (by kernel_rfl) ?_
    refine gi hm (by kernel_rfl) (fun hc1 hm => ?_) fun hc1 hm => ?_
    · skip
      have e0 := Option.some.inj hm
      subst e0
      exact gend hd (by kernel_rfl)
    refine gi hm (by kernel_rfl) (fun hc2 hm => ?_) fun hc2 hm => ?_
    · skip
      have e0 := Option.some.inj hm
      subst e0
      exact gend hd (by kernel_rfl)
    obtain ⟨x2, q2, hm⟩ := obind_some hm
    refine gc (fun _ => w_sign_Check q2) (by kernel_rfl) ?_
    have e0 := Option.some.inj hm
    subst e0
    exact gend hd (by kernel_rfl)
def m_logd_CheckPromise (a0 : g_api_Key) (a1 : g_api_Promise) : Option Int :=
  obind (m_logd_number a1.At) fun x1 =>
  obind (m_logd_ofPromise a1) fun x2 =>
  obind (m_logd_signed a0 a1.Log x1 x2 a1.Sig) fun x3 =>
  some x3
theorem w_logd_CheckPromise {a0 : g_api_Key} {a1 : g_api_Promise} {r : Int} (hm : m_logd_CheckPromise a0 a1 = some r) : Sf prog 22 [ag (e_api_Key a0), ag (e_api_Promise a1)] (.d (.i r)) :=
  sp call22 func22 rfl ntmps22 rfl fun D0 As η0 m0 hd => by
    unfold m_logd_CheckPromise at hm
    obtain ⟨x1, q1, hm⟩ := obind_some hm
    refine gc (fun _ => w_logd_number q1) (by kernel_rfl) ?_
    obtain ⟨x2, q2, hm⟩ := obind_some hm
    refine gco (w_logd_ofPromise q2) (by kernel_rfl) ?_
    obtain ⟨x3, q3, hm⟩ := obind_some hm
    refine gco (w_logd_signed q3) (by kernel_rfl) ?_
    have e0 := Option.some.inj hm
    subst e0
    exact gend hd (by kernel_rfl)
def m_logd_CheckHead (a0 : g_api_Key) (a1 : g_api_Head) : Option Int :=
  obind (m_logd_number a1.At) fun x1 =>
  obind (m_logd_ofHead a1) fun x2 =>
  obind (m_logd_signed a0 a1.Log ((x1 && (decide (a1.Size ≥ 0))) && (decide (a1.Size ≤ 256))) x2 a1.Sig) fun x3 =>
  some x3
theorem w_logd_CheckHead {a0 : g_api_Key} {a1 : g_api_Head} {r : Int} (hm : m_logd_CheckHead a0 a1 = some r) : Sf prog 23 [ag (e_api_Key a0), ag (e_api_Head a1)] (.d (.i r)) :=
  sp call23 func23 rfl ntmps23 rfl fun D0 As η0 m0 hd => by
    unfold m_logd_CheckHead at hm
    obtain ⟨x1, q1, hm⟩ := obind_some hm
    refine gc (fun _ => w_logd_number q1) (by kernel_rfl) ?_
    obtain ⟨x2, q2, hm⟩ := obind_some hm
    refine gco (w_logd_ofHead q2) (by kernel_rfl) ?_
    obtain ⟨x3, q3, hm⟩ := obind_some hm
    refine gco (w_logd_signed q3) (by kernel_rfl) ?_
    have e0 := Option.some.inj hm
    subst e0
    exact gend hd (by kernel_rfl)
def m_law24_live  : Option Bool :=
  obind (m_logd_New 3 ([115, 101, 101, 100] : List UInt8) 20) fun x1 =>
  obind (m_logd_Public x1.1) fun x2 =>
  obind (m_logd_Add x1.1 ([97] : List UInt8) 5) fun x3 =>
  obind (m_logd_Add x3.1 ([98] : List UInt8) 6) fun x4 =>
  obind (m_logd_Merge x4.1) fun x5 =>
  obind (m_logd_Hide x5.1) fun x6 =>
  if (((((((((x1.2 != 0) || (x2.2 != 0)) || (x3.2.2 != 0)) || (x4.2.2 != 0)) || (x5.2 != 0)) || (x6.2 != 0)) || ((x6.1.L.length : Int) != 2)) || ((x6.1.Wait.length : Int) != 0)) || ((x6.1.Hide.length : Int) != 1)) = true then
    some false
  else
  obind (m_logd_Head x6.1 0 1 9) fun x7 =>
  obind (m_logd_Head x6.1 1 1 9) fun x8 =>
  obind (m_logd_Leaves x6.1 1) fun x9 =>
  obind (m_logd_Leaves x6.1 2) fun x10 =>
  obind (m_logd_Head x6.1 0 3 9) fun x11 =>
  if ((((x7.2 != 0) || (x8.2 != 0)) || (x9.2 != 0)) || ((x9.1.length : Int) != 2)) = true then
    some false
  else
  if ((((x2.1.Log == 3) && (x2.1.Delay == 20)) && (x3.2.1.Log == 3)) && (x3.2.1.At == 5)) = true then
    obind (m_merkle_Leaf ([97] : List UInt8)) fun x12 =>
    obind (gu (eqSum x3.2.1.Leaf x12) (m_logd_CheckPromise x2.1 x3.2.1)) fun x13 =>
    obind (gu (((eqSum x3.2.1.Leaf x12) && (x13 == 0)) && (eq_api_Head x7.1 x8.1)) (m_logd_CheckHead x2.1 x7.1)) fun x14 =>
    if ((((eqSum x3.2.1.Leaf x12) && (x13 == 0)) && (eq_api_Head x7.1 x8.1)) && (x14 == 0)) = true then
      obind (idx x9.1 0) fun x15 =>
      obind (m_merkle_Leaf ([97] : List UInt8)) fun x16 =>
      obind (gu (eqSum x15 x16) (idx x9.1 1)) fun x17 =>
      obind (gu (eqSum x15 x16) (m_merkle_Leaf ([0, 98] : List UInt8))) fun x18 =>
      obind (gu ((((eqSum x15 x16) && (eqSum x17 x18)) && (x10.2 == 240)) && (x11.2 == 80)) (m_logd_Check (⟨0, 0, 0, [], [], []⟩ : g_api_Log))) fun x19 =>
      bnd ((((((eqSum x15 x16) && (eqSum x17 x18)) && (x10.2 == 240)) && (x11.2 == 80)) && (x19 == 1))) fun x20 =>
      some x20
    else
    obind (gu false (idx x9.1 1)) fun x21 =>
    obind (gu false (m_merkle_Leaf ([0, 98] : List UInt8))) fun x22 =>
    obind (gu (((false && (eqSum x21 x22)) && (x10.2 == 240)) && (x11.2 == 80)) (m_logd_Check (⟨0, 0, 0, [], [], []⟩ : g_api_Log))) fun x23 =>
    bnd (((((false && (eqSum x21 x22)) && (x10.2 == 240)) && (x11.2 == 80)) && (x23 == 1))) fun x24 =>
    some x24
  else
  obind (gu false (m_logd_CheckPromise x2.1 x3.2.1)) fun x25 =>
  obind (gu ((false && (x25 == 0)) && (eq_api_Head x7.1 x8.1)) (m_logd_CheckHead x2.1 x7.1)) fun x26 =>
  if (((false && (x25 == 0)) && (eq_api_Head x7.1 x8.1)) && (x26 == 0)) = true then
    obind (idx x9.1 0) fun x27 =>
    obind (m_merkle_Leaf ([97] : List UInt8)) fun x28 =>
    obind (gu (eqSum x27 x28) (idx x9.1 1)) fun x29 =>
    obind (gu (eqSum x27 x28) (m_merkle_Leaf ([0, 98] : List UInt8))) fun x30 =>
    obind (gu ((((eqSum x27 x28) && (eqSum x29 x30)) && (x10.2 == 240)) && (x11.2 == 80)) (m_logd_Check (⟨0, 0, 0, [], [], []⟩ : g_api_Log))) fun x31 =>
    bnd ((((((eqSum x27 x28) && (eqSum x29 x30)) && (x10.2 == 240)) && (x11.2 == 80)) && (x31 == 1))) fun x32 =>
    some x32
  else
  obind (gu false (idx x9.1 1)) fun x33 =>
  obind (gu false (m_merkle_Leaf ([0, 98] : List UInt8))) fun x34 =>
  obind (gu (((false && (eqSum x33 x34)) && (x10.2 == 240)) && (x11.2 == 80)) (m_logd_Check (⟨0, 0, 0, [], [], []⟩ : g_api_Log))) fun x35 =>
  bnd (((((false && (eqSum x33 x34)) && (x10.2 == 240)) && (x11.2 == 80)) && (x35 == 1))) fun x36 =>
  some x36
theorem w_law24_live  {r : Bool} (hm : m_law24_live = some r) : Sf prog 4 [] (.d (.t r)) :=
  sp call4 func4 rfl ntmps4 rfl fun D0 As η0 m0 hd => by
    unfold m_law24_live at hm
    refine glit (k := 1) eB ([115, 101, 101, 100] : List UInt8) (fun _ => rfl) (by kernel_rfl) ?_
    obtain ⟨x1, q1, hm⟩ := obind_some hm
    refine gco (w_logd_New q1) (by kernel_rfl) ?_
    obtain ⟨x2, q2, hm⟩ := obind_some hm
    refine gc (fun _ => w_logd_Public q2) (by kernel_rfl) ?_
    refine glit (k := 1) eB ([97] : List UInt8) (fun _ => rfl) (by kernel_rfl) ?_
    obtain ⟨x3, q3, hm⟩ := obind_some hm
    refine gco (w_logd_Add q3) (by kernel_rfl) ?_
    refine glit (k := 1) eB ([98] : List UInt8) (fun _ => rfl) (by kernel_rfl) ?_
    obtain ⟨x4, q4, hm⟩ := obind_some hm
    refine gco (w_logd_Add q4) (by kernel_rfl) ?_
    obtain ⟨x5, q5, hm⟩ := obind_some hm
    refine gc (fun _ => w_logd_Merge q5) (by kernel_rfl) ?_
    obtain ⟨x6, q6, hm⟩ := obind_some hm
    refine gc (fun _ => s_logd_Hide q6) (by kernel_rfl) ?_
    refine gi hm (by kernel_rfl) (fun hc1 hm => ?_) fun hc1 hm => ?_
    · skip
      have e0 := Option.some.inj hm
      subst e0
      exact gend hd (by kernel_rfl)
    obtain ⟨x7, q7, hm⟩ := obind_some hm
    refine gc (fun _ => w_logd_Head q7) (by kernel_rfl) ?_
    obtain ⟨x8, q8, hm⟩ := obind_some hm
    refine gc (fun _ => w_logd_Head q8) (by kernel_rfl) ?_
    obtain ⟨x9, q9, hm⟩ := obind_some hm
    refine gco (w_logd_Leaves q9) (by kernel_rfl) ?_
    obtain ⟨x10, q10, hm⟩ := obind_some hm
    refine gco (w_logd_Leaves q10) (by kernel_rfl) ?_
    obtain ⟨x11, q11, hm⟩ := obind_some hm
    refine gc (fun _ => w_logd_Head q11) (by kernel_rfl) ?_
    refine gi hm (by kernel_rfl) (fun hc2 hm => ?_) fun hc2 hm => ?_
    · skip
      have e0 := Option.some.inj hm
      subst e0
      exact gend hd (by kernel_rfl)
    refine gspl 157 hm (by kernel_rfl) (fun hc3 hm => ?_) fun hc3 hm => ?_
    · refine glit (k := 1) eB ([97] : List UInt8) (fun _ => rfl) (by kernel_rfl) ?_
      obtain ⟨x12, q12, hm⟩ := obind_some hm
      refine gco (w_merkle_Leaf q12) (by kernel_rfl) ?_
      obtain ⟨x13, q13, hm⟩ := obind_some hm
      refine gcG (fun h => w_logd_CheckPromise (gu_t h q13)) (by kernel_rfl) ?_
      obtain ⟨x14, q14, hm⟩ := obind_some hm
      refine gcG (fun h => w_logd_CheckHead (gu_t h q14)) (by kernel_rfl) ?_
      refine gspl 182 hm (by kernel_rfl) (fun hc4 hm => ?_) fun hc4 hm => ?_
      · obtain ⟨x15, q15, hm⟩ := obind_some hm
        refine gidxO (E := e_a2_eU) (fun _ => q15) (by kernel_rfl) ?_
        refine gldO (k := 2) (fo := 0) (nn := 2) (ag := true) (E := e_a2_eU) (fun _ => rfl) (fun _ => q15) (by kernel_rfl) ?_
        refine glit (k := 1) eB ([97] : List UInt8) (fun _ => rfl) (by kernel_rfl) ?_
        obtain ⟨x16, q16, hm⟩ := obind_some hm
        refine gco (w_merkle_Leaf q16) (by kernel_rfl) ?_
        obtain ⟨x17, q17, hm⟩ := obind_some hm
        refine gidxOG (E := e_a2_eU) (fun h => gu_t h q17) (by kernel_rfl) ?_
        refine gldOG (k := 2) (fo := 0) (nn := 2) (ag := true) (E := e_a2_eU) (fun _ => rfl) (fun h => gu_t h q17) (by kernel_rfl) ?_
        refine glitF (k := 1) eB ([0, 98] : List UInt8) (fun _ => rfl) (by kernel_rfl) ?_
        obtain ⟨x18, q18, hm⟩ := obind_some hm
        refine gcG (fun h => w_merkle_Leaf (gu_t h q18)) (by kernel_rfl) ?_
        obtain ⟨x19, q19, hm⟩ := obind_some hm
        refine gcG (fun h => s_logd_Check (gu_t h q19)) (by kernel_rfl) ?_
        have hm := bnd_is hm
        let x20 : Bool := ((((((eqSum x15 x16) && (eqSum x17 x18)) && (x10.2 == 240)) && (x11.2 == 80)) && (x19 == 1)))
        have e0 := Option.some.inj hm
        subst e0
        exact gend hd (by kernel_rfl)
      obtain ⟨x21, q21, hm⟩ := obind_some hm
      refine gidxOG (E := e_a2_eU) (fun h => gu_t h q21) (by kernel_rfl) ?_
      refine gldOG (k := 2) (fo := 0) (nn := 2) (ag := true) (E := e_a2_eU) (fun _ => rfl) (fun h => gu_t h q21) (by kernel_rfl) ?_
      refine glitF (k := 1) eB ([0, 98] : List UInt8) (fun _ => rfl) (by kernel_rfl) ?_
      obtain ⟨x22, q22, hm⟩ := obind_some hm
      refine gcG (fun h => w_merkle_Leaf (gu_t h q22)) (by kernel_rfl) ?_
      obtain ⟨x23, q23, hm⟩ := obind_some hm
      refine gcG (fun h => s_logd_Check (gu_t h q23)) (by kernel_rfl) ?_
      have hm := bnd_is hm
      let x24 : Bool := (((((false && (eqSum x21 x22)) && (x10.2 == 240)) && (x11.2 == 80)) && (x23 == 1)))
      have e0 := Option.some.inj hm
      subst e0
      exact gend hd (by kernel_rfl)
    obtain ⟨x25, q25, hm⟩ := obind_some hm
    refine gcG (fun h => w_logd_CheckPromise (gu_t h q25)) (by kernel_rfl) ?_
    obtain ⟨x26, q26, hm⟩ := obind_some hm
    refine gcG (fun h => w_logd_CheckHead (gu_t h q26)) (by kernel_rfl) ?_
    refine gspl 182 hm (by kernel_rfl) (fun hc5 hm => ?_) fun hc5 hm => ?_
    · obtain ⟨x27, q27, hm⟩ := obind_some hm
      refine gidxO (E := e_a2_eU) (fun _ => q27) (by kernel_rfl) ?_
      refine gldO (k := 2) (fo := 0) (nn := 2) (ag := true) (E := e_a2_eU) (fun _ => rfl) (fun _ => q27) (by kernel_rfl) ?_
      refine glit (k := 1) eB ([97] : List UInt8) (fun _ => rfl) (by kernel_rfl) ?_
      obtain ⟨x28, q28, hm⟩ := obind_some hm
      refine gco (w_merkle_Leaf q28) (by kernel_rfl) ?_
      obtain ⟨x29, q29, hm⟩ := obind_some hm
      refine gidxOG (E := e_a2_eU) (fun h => gu_t h q29) (by kernel_rfl) ?_
      refine gldOG (k := 2) (fo := 0) (nn := 2) (ag := true) (E := e_a2_eU) (fun _ => rfl) (fun h => gu_t h q29) (by kernel_rfl) ?_
      refine glitF (k := 1) eB ([0, 98] : List UInt8) (fun _ => rfl) (by kernel_rfl) ?_
      obtain ⟨x30, q30, hm⟩ := obind_some hm
      refine gcG (fun h => w_merkle_Leaf (gu_t h q30)) (by kernel_rfl) ?_
      obtain ⟨x31, q31, hm⟩ := obind_some hm
      refine gcG (fun h => s_logd_Check (gu_t h q31)) (by kernel_rfl) ?_
      have hm := bnd_is hm
      let x32 : Bool := ((((((eqSum x27 x28) && (eqSum x29 x30)) && (x10.2 == 240)) && (x11.2 == 80)) && (x31 == 1)))
      have e0 := Option.some.inj hm
      subst e0
      exact gend hd (by kernel_rfl)
    obtain ⟨x33, q33, hm⟩ := obind_some hm
    refine gidxOG (E := e_a2_eU) (fun h => gu_t h q33) (by kernel_rfl) ?_
    refine gldOG (k := 2) (fo := 0) (nn := 2) (ag := true) (E := e_a2_eU) (fun _ => rfl) (fun h => gu_t h q33) (by kernel_rfl) ?_
    refine glitF (k := 1) eB ([0, 98] : List UInt8) (fun _ => rfl) (by kernel_rfl) ?_
    obtain ⟨x34, q34, hm⟩ := obind_some hm
    refine gcG (fun h => w_merkle_Leaf (gu_t h q34)) (by kernel_rfl) ?_
    obtain ⟨x35, q35, hm⟩ := obind_some hm
    refine gcG (fun h => s_logd_Check (gu_t h q35)) (by kernel_rfl) ?_
    have hm := bnd_is hm
    let x36 : Bool := (((((false && (eqSum x33 x34)) && (x10.2 == 240)) && (x11.2 == 80)) && (x35 == 1)))
    have e0 := Option.some.inj hm
    subst e0
    exact gend hd (by kernel_rfl)
def m_ref24_Few_b2 (a0 : g_api_Log) (s1 : Int × Int) : Option ((Int × Int) ⊕ (Int)) :=
  if ((decide (s1.2 < (a0.L.length : Int))) && (decide (s1.2 < 40))) = true then
    obind (idx a0.L s1.2) fun x4 =>
    bnd ((w64 (s1.1 + (x4.Body.length : Int)))) fun x5 =>
    some (.inl (x5, (w64 (s1.2 + 1))))
  else
  some (.inr s1.1)
def m_ref24_Few_b3 (a0 : g_api_Log) (s2 : Int × Int) : Option ((Int × Int) ⊕ (Int)) :=
  if ((decide (s2.2 < (a0.Wait.length : Int))) && (decide (s2.2 < 40))) = true then
    obind (idx a0.Wait s2.2) fun x9 =>
    bnd ((w64 (s2.1 + (x9.Body.length : Int)))) fun x10 =>
    some (.inl (x10, (w64 (s2.2 + 1))))
  else
  some (.inr s2.1)
def m_ref24_Few (a0 : g_api_Log) : Option Bool :=
  obind (
    obind (iter (m_ref24_Few_b2 a0) FUEL (0, 0)) fun x2 =>
    some x2
  ) fun x1 =>
  obind (
    obind (iter (m_ref24_Few_b3 a0) FUEL (x1, 0)) fun x7 =>
    some x7
  ) fun x6 =>
  bnd (((((decide ((a0.L.length : Int) ≤ 40)) && (decide ((a0.Wait.length : Int) ≤ 40))) && (decide ((a0.Hide.length : Int) ≤ 60))) && (decide (x6 ≤ 20000)))) fun x11 =>
  some x11
theorem w_ref24_Few {a0 : g_api_Log} {r : Bool} (hm : m_ref24_Few a0 = some r) : Sf prog 25 [ag (e_api_Log a0)] (.d (.t r)) :=
  sp call25 func25 rfl ntmps25 rfl fun D0 As η0 m0 hd => by
    unfold m_ref24_Few at hm
    obtain ⟨x1, q1, hm⟩ := obind_some hm
    obtain ⟨x2, q2, q1⟩ := obind_some q1
    refine gjU 0 (fun (_ : Unit) => ⟨[(1, .pb 0 0), (3, .d (.i x1))], [(0, .box 0 [.d (.i a0.Id), .d (.u a0.Key), .d (.i a0.Delay), sl e_api_Leaf a0.L, sl eI a0.Hide, sl e_api_Leaf a0.Wait] 26)], [], 1⟩) (fun _ => True) (by kernel_rfl) (fun Jp bk1 => ?_) fun _ _ => ?_
    · refine gjU 0 (fun (_ : Unit) => ⟨[(1, .pb 0 0), (3, .d (.i x2))], [(0, .box 0 [.d (.i a0.Id), .d (.u a0.Key), .d (.i a0.Delay), sl e_api_Leaf a0.L, sl eI a0.Hide, sl e_api_Leaf a0.Wait] 26)], [], 1⟩) (fun _ => True) (by kernel_rfl) (fun Jp bk2 => ?_) fun _ _ => ?_
      · refine gl hd (fun (p : Nat × (Int × Int)) => let (p0, p_0, p_1) := p; ⟨[(1, .pb 0 0), (3, .d (.i p_0)), (4, .d (.i p_1))], [(0, .box 0 [.d (.i a0.Id), .d (.u a0.Key), .d (.i a0.Delay), sl e_api_Leaf a0.L, sl eI a0.Hide, sl e_api_Leaf a0.Wait] 26)], [], 1⟩) (fun p => iter (m_ref24_Few_b2 a0) p.1 p.2 = some x2) (fun p => p.1) (FUEL, (0, 0)) q2 (by kernel_rfl) ?_
        rintro ⟨n1, s1⟩ q3 Jl bl1
        cases n1 with
        | zero => exact (iter_zero q3).elim
        | succ n1 =>
          obtain ⟨y1, q5, q4⟩ := iter_succ q3
          unfold m_ref24_Few_b2 at q5
          refine gi q5 (by kernel_rfl) (fun hc1 q5 => ?_) fun hc1 q5 => ?_
          · skip
            obtain ⟨x4, q7, q5⟩ := obind_some q5
            refine gidx (k := 2) (E := e_api_Leaf) (fun _ => rfl) (fun _ => q7) (by kernel_rfl) ?_
            have q5 := bnd_is q5
            let x5 : Int := ((w64 (s1.1 + (x4.Body.length : Int))))
            have e0 := Option.some.inj q5
            subst e0
            rcases q4 with ⟨sn, e, q4'⟩ | e
            · have e := Sum.inl.inj e
              subst e
              exact gb bl1 hd (n1, _) ⟨q4', Nat.lt_succ_self _⟩ (by kernel_rfl)
            cases sum_lr e
          have e0 := Option.some.inj q5
          subst e0
          rcases q4 with ⟨sn, e, _⟩ | e
          · cases sum_rl e
          have e := Sum.inr.inj e
          subst e
          exact gb bk2 hd () trivial (by kernel_rfl)
      have e0 := Option.some.inj q1
      subst e0
      exact gb bk1 hd () trivial (by kernel_rfl)
    obtain ⟨x6, q9, hm⟩ := obind_some hm
    obtain ⟨x7, q10, q9⟩ := obind_some q9
    refine gjU 2 (fun (_ : Unit) => ⟨[(1, .pb 0 0), (3, .d (.i x6))], [(0, .box 0 [.d (.i a0.Id), .d (.u a0.Key), .d (.i a0.Delay), sl e_api_Leaf a0.L, sl eI a0.Hide, sl e_api_Leaf a0.Wait] 26)], [], 1⟩) (fun _ => True) (by kernel_rfl) (fun Jp bk3 => ?_) fun _ _ => ?_
    · refine gjU 2 (fun (_ : Unit) => ⟨[(1, .pb 0 0), (3, .d (.i x7))], [(0, .box 0 [.d (.i a0.Id), .d (.u a0.Key), .d (.i a0.Delay), sl e_api_Leaf a0.L, sl eI a0.Hide, sl e_api_Leaf a0.Wait] 26)], [], 1⟩) (fun _ => True) (by kernel_rfl) (fun Jp bk4 => ?_) fun _ _ => ?_
      · refine gl hd (fun (p : Nat × (Int × Int)) => let (p0, p_0, p_1) := p; ⟨[(1, .pb 0 0), (3, .d (.i p_0)), (5, .d (.i p_1))], [(0, .box 0 [.d (.i a0.Id), .d (.u a0.Key), .d (.i a0.Delay), sl e_api_Leaf a0.L, sl eI a0.Hide, sl e_api_Leaf a0.Wait] 26)], [], 1⟩) (fun p => iter (m_ref24_Few_b3 a0) p.1 p.2 = some x7) (fun p => p.1) (FUEL, (x1, 0)) q10 (by kernel_rfl) ?_
        rintro ⟨n2, s2⟩ q11 Jl bl2
        cases n2 with
        | zero => exact (iter_zero q11).elim
        | succ n2 =>
          obtain ⟨y2, q13, q12⟩ := iter_succ q11
          unfold m_ref24_Few_b3 at q13
          refine gi q13 (by kernel_rfl) (fun hc2 q13 => ?_) fun hc2 q13 => ?_
          · skip
            obtain ⟨x9, q15, q13⟩ := obind_some q13
            refine gidx (k := 2) (E := e_api_Leaf) (fun _ => rfl) (fun _ => q15) (by kernel_rfl) ?_
            have q13 := bnd_is q13
            let x10 : Int := ((w64 (s2.1 + (x9.Body.length : Int))))
            have e0 := Option.some.inj q13
            subst e0
            rcases q12 with ⟨sn, e, q12'⟩ | e
            · have e := Sum.inl.inj e
              subst e
              exact gb bl2 hd (n2, _) ⟨q12', Nat.lt_succ_self _⟩ (by kernel_rfl)
            cases sum_lr e
          have e0 := Option.some.inj q13
          subst e0
          rcases q12 with ⟨sn, e, _⟩ | e
          · cases sum_rl e
          have e := Sum.inr.inj e
          subst e
          exact gb bk4 hd () trivial (by kernel_rfl)
      have e0 := Option.some.inj q9
      subst e0
      exact gb bk3 hd () trivial (by kernel_rfl)
    have hm := bnd_is hm
    let x11 : Bool := (((((decide ((a0.L.length : Int) ≤ 40)) && (decide ((a0.Wait.length : Int) ≤ 40))) && (decide ((a0.Hide.length : Int) ≤ 60))) && (decide (x6 ≤ 20000))))
    have e0 := Option.some.inj hm
    subst e0
    exact gend hd (by kernel_rfl)
def m_law24_few (a0 : g_api_Log) (a1 : List UInt8) : Option Bool :=
  obind (m_ref24_Few a0) fun x1 =>
  bnd ((x1 && (decide ((a1.length : Int) ≤ 3000)))) fun x2 =>
  some x2
theorem w_law24_few {a0 : g_api_Log} {a1 : List UInt8} {r : Bool} (hm : m_law24_few a0 a1 = some r) : Sf prog 5 [ag (e_api_Log a0), sl eB a1] (.d (.t r)) :=
  sp call5 func5 rfl ntmps5 rfl fun D0 As η0 m0 hd => by
    unfold m_law24_few at hm
    obtain ⟨x1, q1, hm⟩ := obind_some hm
    refine gc (fun _ => w_ref24_Few q1) (by kernel_rfl) ?_
    have hm := bnd_is hm
    let x2 : Bool := ((x1 && (decide ((a1.length : Int) ≤ 3000))))
    have e0 := Option.some.inj hm
    subst e0
    exact gend hd (by kernel_rfl)
def m_ref24_num (a0 : Int) : Option Bool :=
  bnd (((decide (a0 ≥ 0)) && (decide (a0 ≤ 1099511627776)))) fun x1 =>
  some x1
theorem w_ref24_num {a0 : Int} {r : Bool} (hm : m_ref24_num a0 = some r) : Sf prog 35 [.d (.i a0)] (.d (.t r)) :=
  sp call35 func35 rfl ntmps35 rfl fun D0 As η0 m0 hd => by
    unfold m_ref24_num at hm
    have hm := bnd_is hm
    let x1 : Bool := (((decide (a0 ≥ 0)) && (decide (a0 ≤ 1099511627776))))
    have e0 := Option.some.inj hm
    subst e0
    exact gend hd (by kernel_rfl)
def m_ref24_All (a0 : g_api_Log) : Option (List g_api_Leaf) :=
  obind (app 32 ([] : List g_api_Leaf) a0.L) fun x1 =>
  obind (app 32 x1 a0.Wait) fun x2 =>
  some x2
theorem w_ref24_All {a0 : g_api_Log} {r : List g_api_Leaf} (hm : m_ref24_All a0 = some r) : Sp prog 60 [ag (e_api_Log a0)] [] 0 (is (.ow 0) [.row 0 2 _ e_api_Leaf r] 1) :=
  sp call60 func60 rfl ntmps60 rfl fun D0 As η0 m0 hd => by
    unfold m_ref24_All at hm
    refine glit (k := 2) e_api_Leaf ([] : List g_api_Leaf) (fun _ => rfl) (by kernel_rfl) ?_
    obtain ⟨x1, q1, hm⟩ := obind_some hm
    refine gapp (k := 2) (E := e_api_Leaf) (fun _ => rfl) q1 (by kernel_rfl) ?_
    obtain ⟨x2, q2, hm⟩ := obind_some hm
    refine gapp (k := 2) (E := e_api_Leaf) (fun _ => rfl) q2 (by kernel_rfl) ?_
    have e0 := Option.some.inj hm
    subst e0
    exact gend hd (by kernel_rfl)
theorem d_ref24_All {a0 : g_api_Log} {r : List g_api_Leaf} (hm : m_ref24_All a0 = some r) : Sf prog 60 [ag (e_api_Log a0)] (sl e_api_Leaf r) := Sp.fz (w_ref24_All hm) (by kernel_rfl)
def m_ref24_isBody (a0 : List UInt8) : Option Bool :=
  bnd (((decide ((a0.length : Int) ≥ 1)) && (decide ((a0.length : Int) ≤ 2048)))) fun x1 =>
  some x1
theorem w_ref24_isBody {a0 : List UInt8} {r : Bool} (hm : m_ref24_isBody a0 = some r) : Sf prog 61 [sl eB a0] (.d (.t r)) :=
  sp call61 func61 rfl ntmps61 rfl fun D0 As η0 m0 hd => by
    unfold m_ref24_isBody at hm
    have hm := bnd_is hm
    let x1 : Bool := (((decide ((a0.length : Int) ≥ 1)) && (decide ((a0.length : Int) ≤ 2048))))
    have e0 := Option.some.inj hm
    subst e0
    exact gend hd (by kernel_rfl)
def m_ref24_find_b1 (a0 : List g_api_Leaf) (a1 : List UInt8) (s1 : Int) : Option ((Int) ⊕ ((Unit) ⊕ Int)) :=
  if (decide (s1 < (a0.length : Int))) = true then
    obind (idx a0 s1) fun x3 =>
    if (eqS (bs x3.Body) (bs a1)) = true then
      some (.inr (.inr s1))
    else
    some (.inl (w64 (s1 + 1)))
  else
  some (.inr (.inl ()))
def m_ref24_find (a0 : List g_api_Leaf) (a1 : List UInt8) : Option Int :=
  obind (iter (m_ref24_find_b1 a0 a1) FUEL 0) fun x1 => match x1 with
  | .inr r => some r
  | .inl y1 =>
  some (-1)
theorem w_ref24_find {a0 : List g_api_Leaf} {a1 : List UInt8} {r : Int} (hm : m_ref24_find a0 a1 = some r) : Sf prog 62 [sl e_api_Leaf a0, sl eB a1] (.d (.i r)) :=
  sp call62 func62 rfl ntmps62 rfl fun D0 As η0 m0 hd => by
    unfold m_ref24_find at hm
    obtain ⟨x1, q1, hm⟩ := obind_some hm
    refine gjU 0 (fun (y1 : Unit) => ⟨[], [], [], 0⟩) (fun y1 => x1 = .inl y1) (by kernel_rfl) (fun Jp bk1 => ?_) fun y1 hy => ?_
    · refine gl hd (fun (p : Nat × (Int)) => let (p0, p_0) := p; ⟨[(0, sl e_api_Leaf a0), (1, sl eB a1), (5, .d (.i p_0))], [], [], 0⟩) (fun p => iter (m_ref24_find_b1 a0 a1) p.1 p.2 = some x1) (fun p => p.1) (FUEL, 0) q1 (by kernel_rfl) ?_
      rintro ⟨n1, s1⟩ q2 Jl bl1
      cases n1 with
      | zero => exact (iter_zero q2).elim
      | succ n1 =>
        obtain ⟨y2, q4, q3⟩ := iter_succ q2
        unfold m_ref24_find_b1 at q4
        refine gi q4 (by kernel_rfl) (fun hc1 q4 => ?_) fun hc1 q4 => ?_
        · skip
          obtain ⟨x3, q6, q4⟩ := obind_some q4
          refine gidx (k := 2) (E := e_api_Leaf) (fun _ => rfl) (fun _ => q6) (by kernel_rfl) ?_
          refine gbs (xs := x3.Body) (by kernel_rfl) ?_
          refine gbs (xs := a1) (by kernel_rfl) ?_
          refine gi q4 (by kernel_rfl) (fun hc2 q4 => ?_) fun hc2 q4 => ?_
          · skip
            cases q4
            rcases q3 with ⟨sn, e, _⟩ | e
            · cases e
            cases e
            dsimp only at hm
            have e0 := Option.some.inj hm
            subst e0
            exact gend hd (by kernel_rfl)
          have e0 := Option.some.inj q4
          subst e0
          rcases q3 with ⟨sn, e, q3'⟩ | e
          · have e := Sum.inl.inj e
            subst e
            exact gb bl1 hd (n1, _) ⟨q3', Nat.lt_succ_self _⟩ (by kernel_rfl)
          cases sum_lr e
        have e0 := Option.some.inj q4
        subst e0
        rcases q3 with ⟨sn, e, _⟩ | e
        · cases sum_rl e
        have e := Sum.inr.inj e
        subst e
        exact gb bk1 hd () rfl (by kernel_rfl)
    subst hy
    dsimp only at hm
    have e0 := Option.some.inj hm
    subst e0
    exact gend hd (by kernel_rfl)
def m_ref24_Check_b2 (x2 : List g_api_Leaf) (s1 : Int) : Option ((Int) ⊕ ((Unit) ⊕ Int)) :=
  if (decide (s1 < (x2.length : Int))) = true then
    obind (idx x2 s1) fun x5 =>
    obind (m_ref24_isBody x5.Body) fun x6 =>
    obind (gu (!(!x6)) (idx x2 s1)) fun x7 =>
    obind (gu (!(!x6)) (m_ref24_num x7.At)) fun x8 =>
    obind (gu (!((!x6) || (!x8))) (idx x2 s1)) fun x9 =>
    obind (gu (!((!x6) || (!x8))) (m_ref24_find x2 x9.Body)) fun x10 =>
    if (((!x6) || (!x8)) || (x10 != s1)) = true then
      some (.inr (.inr 1))
    else
    some (.inl (w64 (s1 + 1)))
  else
  some (.inr (.inl ()))
def m_ref24_Check_b3 (a0 : g_api_Log) (s2 : Int) : Option ((Int) ⊕ ((Unit) ⊕ Int)) :=
  if (decide (s2 < (a0.Hide.length : Int))) = true then
    obind (idx a0.Hide s2) fun x13 =>
    obind (gu (!(decide (x13 < 0))) (idx a0.Hide s2)) fun x14 =>
    obind (gu ((!((decide (x13 < 0)) || (decide (x14 ≥ (a0.L.length : Int))))) && (decide (s2 > 0))) (idx a0.Hide (w64 (s2 - 1)))) fun x15 =>
    obind (gu ((!((decide (x13 < 0)) || (decide (x14 ≥ (a0.L.length : Int))))) && (decide (s2 > 0))) (idx a0.Hide s2)) fun x16 =>
    if (((decide (x13 < 0)) || (decide (x14 ≥ (a0.L.length : Int)))) || ((decide (s2 > 0)) && (decide (x15 ≥ x16)))) = true then
      some (.inr (.inr 1))
    else
    some (.inl (w64 (s2 + 1)))
  else
  some (.inr (.inl ()))
def m_ref24_Check (a0 : g_api_Log) : Option Int :=
  obind (m_ref24_num a0.Id) fun x1 =>
  if (((((!x1) || (decide ((a0.Key.toNat : Int) < 1))) || (decide ((a0.Key.toNat : Int) ≥ 1152921504606845789))) || (decide (a0.Delay < 0))) || (decide (a0.Delay > 1000))) = true then
    some 1
  else
  obind (m_ref24_All a0) fun x2 =>
  obind (iter (m_ref24_Check_b2 x2) FUEL 0) fun x3 => match x3 with
  | .inr r => some r
  | .inl y1 =>
  obind (iter (m_ref24_Check_b3 a0) FUEL 0) fun x11 => match x11 with
  | .inr r => some r
  | .inl y3 =>
  if (decide ((x2.length : Int) > 256)) = true then
    some 2
  else
  some 0
theorem w_ref24_Check {a0 : g_api_Log} {r : Int} (hm : m_ref24_Check a0 = some r) : Sf prog 27 [ag (e_api_Log a0)] (.d (.i r)) :=
  sp call27 func27 rfl ntmps27 rfl fun D0 As η0 m0 hd => by
    unfold m_ref24_Check at hm
    obtain ⟨x1, q1, hm⟩ := obind_some hm
    refine gc (fun _ => w_ref24_num q1) (by kernel_rfl) ?_
    refine gi hm (by kernel_rfl) (fun hc1 hm => ?_) fun hc1 hm => ?_
    · skip
      have e0 := Option.some.inj hm
      subst e0
      exact gend hd (by kernel_rfl)
    obtain ⟨x2, q2, hm⟩ := obind_some hm
    refine gc (fun _ => d_ref24_All q2) (by kernel_rfl) ?_
    obtain ⟨x3, q3, hm⟩ := obind_some hm
    refine gjU 0 (fun (y1 : Unit) => ⟨[(1, .pb 0 0), (3, sl e_api_Leaf x2)], [(0, .box 0 [.d (.i a0.Id), .d (.u a0.Key), .d (.i a0.Delay), sl e_api_Leaf a0.L, sl eI a0.Hide, sl e_api_Leaf a0.Wait] 26)], [], 1⟩) (fun y1 => x3 = .inl y1) (by kernel_rfl) (fun Jp bk1 => ?_) fun y1 hy => ?_
    · refine gl hd (fun (p : Nat × (Int)) => let (p0, p_0) := p; ⟨[(1, .pb 0 0), (3, sl e_api_Leaf x2), (4, .d (.i p_0))], [(0, .box 0 [.d (.i a0.Id), .d (.u a0.Key), .d (.i a0.Delay), sl e_api_Leaf a0.L, sl eI a0.Hide, sl e_api_Leaf a0.Wait] 26)], [], 1⟩) (fun p => iter (m_ref24_Check_b2 x2) p.1 p.2 = some x3) (fun p => p.1) (FUEL, 0) q3 (by kernel_rfl) ?_
      rintro ⟨n1, s1⟩ q4 Jl bl1
      cases n1 with
      | zero => exact (iter_zero q4).elim
      | succ n1 =>
        obtain ⟨y2, q6, q5⟩ := iter_succ q4
        unfold m_ref24_Check_b2 at q6
        refine gi q6 (by kernel_rfl) (fun hc2 q6 => ?_) fun hc2 q6 => ?_
        · skip
          obtain ⟨x5, q8, q6⟩ := obind_some q6
          refine gidx (k := 2) (E := e_api_Leaf) (fun _ => rfl) (fun _ => q8) (by kernel_rfl) ?_
          obtain ⟨x6, q9, q6⟩ := obind_some q6
          refine gc (fun _ => w_ref24_isBody q9) (by kernel_rfl) ?_
          obtain ⟨x7, q10, q6⟩ := obind_some q6
          refine gidxG (k := 2) (E := e_api_Leaf) (fun _ => rfl) (fun h => gu_t h q10) (by kernel_rfl) ?_
          obtain ⟨x8, q11, q6⟩ := obind_some q6
          refine gcG (fun h => w_ref24_num (gu_t h q11)) (by kernel_rfl) ?_
          obtain ⟨x9, q12, q6⟩ := obind_some q6
          refine gidxG (k := 2) (E := e_api_Leaf) (fun _ => rfl) (fun h => gu_t h q12) (by kernel_rfl) ?_
          obtain ⟨x10, q13, q6⟩ := obind_some q6
          refine gcG (fun h => w_ref24_find (gu_t h q13)) (by kernel_rfl) ?_
          refine gi q6 (by kernel_rfl) (fun hc3 q6 => ?_) fun hc3 q6 => ?_
          · skip
            cases q6
            rcases q5 with ⟨sn, e, _⟩ | e
            · cases e
            cases e
            dsimp only at hm
            have e0 := Option.some.inj hm
            subst e0
            exact gend hd (by kernel_rfl)
          have e0 := Option.some.inj q6
          subst e0
          rcases q5 with ⟨sn, e, q5'⟩ | e
          · have e := Sum.inl.inj e
            subst e
            exact gb bl1 hd (n1, _) ⟨q5', Nat.lt_succ_self _⟩ (by kernel_rfl)
          cases sum_lr e
        have e0 := Option.some.inj q6
        subst e0
        rcases q5 with ⟨sn, e, _⟩ | e
        · cases sum_rl e
        have e := Sum.inr.inj e
        subst e
        exact gb bk1 hd () rfl (by kernel_rfl)
    subst hy
    dsimp only at hm
    obtain ⟨x11, q14, hm⟩ := obind_some hm
    refine gjU 2 (fun (y3 : Unit) => ⟨[(3, sl e_api_Leaf x2)], [(0, .box 0 [.d (.i a0.Id), .d (.u a0.Key), .d (.i a0.Delay), sl e_api_Leaf a0.L, sl eI a0.Hide, sl e_api_Leaf a0.Wait] 26)], [], 1⟩) (fun y3 => x11 = .inl y3) (by kernel_rfl) (fun Jp bk2 => ?_) fun y3 hy => ?_
    · refine gl hd (fun (p : Nat × (Int)) => let (p0, p_0) := p; ⟨[(1, .pb 0 0), (3, sl e_api_Leaf x2), (5, .d (.i p_0))], [(0, .box 0 [.d (.i a0.Id), .d (.u a0.Key), .d (.i a0.Delay), sl e_api_Leaf a0.L, sl eI a0.Hide, sl e_api_Leaf a0.Wait] 26)], [], 1⟩) (fun p => iter (m_ref24_Check_b3 a0) p.1 p.2 = some x11) (fun p => p.1) (FUEL, 0) q14 (by kernel_rfl) ?_
      rintro ⟨n2, s2⟩ q15 Jl bl2
      cases n2 with
      | zero => exact (iter_zero q15).elim
      | succ n2 =>
        obtain ⟨y4, q17, q16⟩ := iter_succ q15
        unfold m_ref24_Check_b3 at q17
        refine gi q17 (by kernel_rfl) (fun hc4 q17 => ?_) fun hc4 q17 => ?_
        · skip
          obtain ⟨x13, q19, q17⟩ := obind_some q17
          refine gidx (k := 1) (E := eI) (fun _ => rfl) (fun _ => q19) (by kernel_rfl) ?_
          obtain ⟨x14, q20, q17⟩ := obind_some q17
          refine gidxG (k := 1) (E := eI) (fun _ => rfl) (fun h => gu_t h q20) (by kernel_rfl) ?_
          obtain ⟨x15, q21, q17⟩ := obind_some q17
          refine gidxG (k := 1) (E := eI) (fun _ => rfl) (fun h => gu_t h q21) (by kernel_rfl) ?_
          obtain ⟨x16, q22, q17⟩ := obind_some q17
          refine gidxG (k := 1) (E := eI) (fun _ => rfl) (fun h => gu_t h q22) (by kernel_rfl) ?_
          refine gi q17 (by kernel_rfl) (fun hc5 q17 => ?_) fun hc5 q17 => ?_
          · skip
            cases q17
            rcases q16 with ⟨sn, e, _⟩ | e
            · cases e
            cases e
            dsimp only at hm
            have e0 := Option.some.inj hm
            subst e0
            exact gend hd (by kernel_rfl)
          have e0 := Option.some.inj q17
          subst e0
          rcases q16 with ⟨sn, e, q16'⟩ | e
          · have e := Sum.inl.inj e
            subst e
            exact gb bl2 hd (n2, _) ⟨q16', Nat.lt_succ_self _⟩ (by kernel_rfl)
          cases sum_lr e
        have e0 := Option.some.inj q17
        subst e0
        rcases q16 with ⟨sn, e, _⟩ | e
        · cases sum_rl e
        have e := Sum.inr.inj e
        subst e
        exact gb bk2 hd () rfl (by kernel_rfl)
    subst hy
    dsimp only at hm
    refine gi hm (by kernel_rfl) (fun hc6 hm => ?_) fun hc6 hm => ?_
    · skip
      have e0 := Option.some.inj hm
      subst e0
      exact gend hd (by kernel_rfl)
    have e0 := Option.some.inj hm
    subst e0
    exact gend hd (by kernel_rfl)
def m_ref24_hidden_b2 (a0 : g_api_Log) (a1 : Int) (s1 : Int) : Option ((Int) ⊕ ((Unit) ⊕ Bool)) :=
  if (decide (s1 < (a0.Hide.length : Int))) = true then
    obind (idx a0.Hide s1) fun x3 =>
    if (x3 == a1) = true then
      some (.inr (.inr true))
    else
    some (.inl (w64 (s1 + 1)))
  else
  some (.inr (.inl ()))
def m_ref24_hidden (a0 : g_api_Log) (a1 : Int) : Option Bool :=
  obind (iter (m_ref24_hidden_b2 a0 a1) FUEL 0) fun x1 => match x1 with
  | .inr r => some r
  | .inl y1 =>
  some false
theorem w_ref24_hidden {a0 : g_api_Log} {a1 : Int} {r : Bool} (hm : m_ref24_hidden a0 a1 = some r) : Sf prog 28 [ag (e_api_Log a0), .d (.i a1)] (.d (.t r)) :=
  sp call28 func28 rfl ntmps28 rfl fun D0 As η0 m0 hd => by
    unfold m_ref24_hidden at hm
    obtain ⟨x1, q1, hm⟩ := obind_some hm
    refine gjU 0 (fun (y1 : Unit) => ⟨[], [(0, .box 0 [.d (.i a0.Id), .d (.u a0.Key), .d (.i a0.Delay), sl e_api_Leaf a0.L, sl eI a0.Hide, sl e_api_Leaf a0.Wait] 26)], [], 1⟩) (fun y1 => x1 = .inl y1) (by kernel_rfl) (fun Jp bk1 => ?_) fun y1 hy => ?_
    · refine gl hd (fun (p : Nat × (Int)) => let (p0, p_0) := p; ⟨[(1, .d (.i a1)), (2, .pb 0 0), (5, .d (.i p_0))], [(0, .box 0 [.d (.i a0.Id), .d (.u a0.Key), .d (.i a0.Delay), sl e_api_Leaf a0.L, sl eI a0.Hide, sl e_api_Leaf a0.Wait] 26)], [], 1⟩) (fun p => iter (m_ref24_hidden_b2 a0 a1) p.1 p.2 = some x1) (fun p => p.1) (FUEL, 0) q1 (by kernel_rfl) ?_
      rintro ⟨n1, s1⟩ q2 Jl bl1
      cases n1 with
      | zero => exact (iter_zero q2).elim
      | succ n1 =>
        obtain ⟨y2, q4, q3⟩ := iter_succ q2
        unfold m_ref24_hidden_b2 at q4
        refine gi q4 (by kernel_rfl) (fun hc1 q4 => ?_) fun hc1 q4 => ?_
        · skip
          obtain ⟨x3, q6, q4⟩ := obind_some q4
          refine gidx (k := 1) (E := eI) (fun _ => rfl) (fun _ => q6) (by kernel_rfl) ?_
          refine gi q4 (by kernel_rfl) (fun hc2 q4 => ?_) fun hc2 q4 => ?_
          · skip
            cases q4
            rcases q3 with ⟨sn, e, _⟩ | e
            · cases e
            cases e
            dsimp only at hm
            have e0 := Option.some.inj hm
            subst e0
            exact gend hd (by kernel_rfl)
          have e0 := Option.some.inj q4
          subst e0
          rcases q3 with ⟨sn, e, q3'⟩ | e
          · have e := Sum.inl.inj e
            subst e
            exact gb bl1 hd (n1, _) ⟨q3', Nat.lt_succ_self _⟩ (by kernel_rfl)
          cases sum_lr e
        have e0 := Option.some.inj q4
        subst e0
        rcases q3 with ⟨sn, e, _⟩ | e
        · cases sum_rl e
        have e := Sum.inr.inj e
        subst e
        exact gb bk1 hd () rfl (by kernel_rfl)
    subst hy
    dsimp only at hm
    have e0 := Option.some.inj hm
    subst e0
    exact gend hd (by kernel_rfl)
def m_ref01_Of_b2 (a0 : List UInt8) (s1 : (List UInt64) × Int) (s2 : UInt64 × UInt64 × Int) : Option ((UInt64 × UInt64 × Int) ⊕ (UInt64)) :=
  if ((decide (s2.2.2 < (a0.length : Int))) && (decide (s2.2.2 < (w64 (s1.2 + 7))))) = true then
    obind (idx a0 s2.2.2) fun x7 =>
    bnd ((s2.1 + (s2.2.1 * (toU (x7.toNat : Int))))) fun x8 =>
    some (.inl (x8, (s2.2.1 * 256), (w64 (s2.2.2 + 1))))
  else
  some (.inr s2.1)
def m_ref01_Of_b1 (a0 : List UInt8) (s1 : (List UInt64) × Int) : Option (((List UInt64) × Int) ⊕ ((List UInt64))) :=
  if (decide (s1.2 < (a0.length : Int))) = true then
    obind (
      obind (iter (m_ref01_Of_b2 a0 s1) FUEL (0, 1, s1.2)) fun x5 =>
      some x5
    ) fun x4 =>
    obind (app 8 s1.1 ([x4] : List UInt64)) fun x9 =>
    some (.inl (x9, (w64 (s1.2 + 7))))
  else
  some (.inr s1.1)
def m_ref01_Of (a0 : List UInt8) : Option (List UInt64) :=
  obind (
    obind (iter (m_ref01_Of_b1 a0) FUEL (([] : List UInt64), 0)) fun x2 =>
    some x2
  ) fun x1 =>
  some x1
theorem w_ref01_Of {a0 : List UInt8} {r : List UInt64} (hm : m_ref01_Of a0 = some r) : Sp prog 126 [sl eB a0] [] 0 (is (.ow 0) [.row 0 1 _ eU r] 1) :=
  sp call126 func126 rfl ntmps126 rfl fun D0 As η0 m0 hd => by
    unfold m_ref01_Of at hm
    obtain ⟨x1, q1, hm⟩ := obind_some hm
    obtain ⟨x2, q2, q1⟩ := obind_some q1
    refine gnilU 0 eU 3 1 (by kernel_rfl) ?_
    refine gjU 0 (fun (_ : Unit) => ⟨[(3, .ow 0)], [(0, .row 0 1 _ eU x1)], [], 1⟩) (fun _ => True) (by kernel_rfl) (fun Jp bk1 => ?_) fun _ _ => ?_
    · refine gjU 0 (fun (_ : Unit) => ⟨[(3, .ow 0)], [(0, .row 0 1 _ eU x2)], [], 1⟩) (fun _ => True) (by kernel_rfl) (fun Jp bk2 => ?_) fun _ _ => ?_
      · refine gl hd (fun (p : Nat × ((List UInt64) × Int)) => let (p0, p_0, p_1) := p; ⟨[(0, sl eB a0), (3, .ow 0), (4, .d (.i p_1))], [(0, .row 0 1 _ eU p_0)], [], 1⟩) (fun p => iter (m_ref01_Of_b1 a0) p.1 p.2 = some x2) (fun p => p.1) (FUEL, (([] : List UInt64), 0)) q2 (by kernel_rfl) ?_
        rintro ⟨n1, s1⟩ q3 Jl bl1
        cases n1 with
        | zero => exact (iter_zero q3).elim
        | succ n1 =>
          obtain ⟨y1, q5, q4⟩ := iter_succ q3
          unfold m_ref01_Of_b1 at q5
          refine gi q5 (by kernel_rfl) (fun hc1 q5 => ?_) fun hc1 q5 => ?_
          · skip
            obtain ⟨x4, q7, q5⟩ := obind_some q5
            obtain ⟨x5, q8, q7⟩ := obind_some q7
            refine gjU 2 (fun (_ : Unit) => ⟨[(0, sl eB a0), (3, .ow 0), (4, .d (.i s1.2)), (5, .d (.u x4))], [(0, .row 0 1 _ eU s1.1)], [], 1⟩) (fun _ => True) (by kernel_rfl) (fun Jp bk3 => ?_) fun _ _ => ?_
            · refine gjU 2 (fun (_ : Unit) => ⟨[(0, sl eB a0), (3, .ow 0), (4, .d (.i s1.2)), (5, .d (.u x5))], [(0, .row 0 1 _ eU s1.1)], [], 1⟩) (fun _ => True) (by kernel_rfl) (fun Jp bk4 => ?_) fun _ _ => ?_
              · refine gl hd (fun (p : Nat × (UInt64 × UInt64 × Int)) => let (p0, p_0, p_1, p_2) := p; ⟨[(0, sl eB a0), (3, .ow 0), (4, .d (.i s1.2)), (5, .d (.u p_0)), (6, .d (.u p_1)), (7, .d (.i p_2))], [(0, .row 0 1 _ eU s1.1)], [], 1⟩) (fun p => iter (m_ref01_Of_b2 a0 s1) p.1 p.2 = some x5) (fun p => p.1) (FUEL, (0, 1, s1.2)) q8 (by kernel_rfl) ?_
                rintro ⟨n2, s2⟩ q9 Jl bl2
                cases n2 with
                | zero => exact (iter_zero q9).elim
                | succ n2 =>
                  obtain ⟨y2, q11, q10⟩ := iter_succ q9
                  unfold m_ref01_Of_b2 at q11
                  refine gi q11 (by kernel_rfl) (fun hc2 q11 => ?_) fun hc2 q11 => ?_
                  · skip
                    obtain ⟨x7, q13, q11⟩ := obind_some q11
                    refine gidx (k := 1) (E := eB) (fun _ => rfl) (fun _ => q13) (by kernel_rfl) ?_
                    have q11 := bnd_is q11
                    let x8 : UInt64 := ((s2.1 + (s2.2.1 * (toU (x7.toNat : Int)))))
                    have e0 := Option.some.inj q11
                    subst e0
                    rcases q10 with ⟨sn, e, q10'⟩ | e
                    · have e := Sum.inl.inj e
                      subst e
                      exact gb bl2 hd (n2, _) ⟨q10', Nat.lt_succ_self _⟩ (by kernel_rfl)
                    cases sum_lr e
                  have e0 := Option.some.inj q11
                  subst e0
                  rcases q10 with ⟨sn, e, _⟩ | e
                  · cases sum_rl e
                  have e := Sum.inr.inj e
                  subst e
                  exact gb bk4 hd () trivial (by kernel_rfl)
              have e0 := Option.some.inj q7
              subst e0
              exact gb bk3 hd () trivial (by kernel_rfl)
            refine glitF (k := 1) eU ([x4] : List UInt64) (fun _ => rfl) (by kernel_rfl) ?_
            obtain ⟨x9, q15, q5⟩ := obind_some q5
            refine gapp (k := 1) (E := eU) (fun _ => rfl) q15 (by kernel_rfl) ?_
            have e0 := Option.some.inj q5
            subst e0
            rcases q4 with ⟨sn, e, q4'⟩ | e
            · have e := Sum.inl.inj e
              subst e
              exact gb bl1 hd (n1, _) ⟨q4', Nat.lt_succ_self _⟩ (by kernel_rfl)
            cases sum_lr e
          have e0 := Option.some.inj q5
          subst e0
          rcases q4 with ⟨sn, e, _⟩ | e
          · cases sum_rl e
          have e := Sum.inr.inj e
          subst e
          exact gb bk2 hd () trivial (by kernel_rfl)
      have e0 := Option.some.inj q1
      subst e0
      exact gb bk1 hd () trivial (by kernel_rfl)
    have e0 := Option.some.inj hm
    subst e0
    exact gend hd (by kernel_rfl)
def m_ref01_Add (a0 : UInt64) (a1 : UInt64) : Option UInt64 :=
  bnd ((((a0 % 2305843009213693951) + (a1 % 2305843009213693951)) % 2305843009213693951)) fun x1 =>
  some x1
theorem w_ref01_Add {a0 : UInt64} {a1 : UInt64} {r : UInt64} (hm : m_ref01_Add a0 a1 = some r) : Sf prog 127 [.d (.u a0), .d (.u a1)] (.d (.u r)) :=
  sp call127 func127 rfl ntmps127 rfl fun D0 As η0 m0 hd => by
    unfold m_ref01_Add at hm
    have hm := bnd_is hm
    let x1 : UInt64 := ((((a0 % 2305843009213693951) + (a1 % 2305843009213693951)) % 2305843009213693951))
    have e0 := Option.some.inj hm
    subst e0
    exact gend hd (by kernel_rfl)
theorem v_ref01_Add {m : Mem} {As : List Ow} {w : World} {a0 : UInt64} {a1 : UInt64} {r : UInt64} (S : St m As w) (hm : m_ref01_Add a0 a1 = some r) :
    CallsR prog 127 #[vU a0, vU a1] w fun v w' => ∃ (M : Mem), m ≤ M ∧ St M (As) w' ∧ v = vU r := by
  refine CallsR.mono ((w_ref01_Add hm).2 none0 m As w [vU a0, vU a1] (.cons (.d (.u _)) (.cons (.d (.u _)) .nil)) (fun n h => absurd rfl h) S) ?_
  rintro v w' ⟨M, η', r', obs', n1, hle, _, ⟨rfl, rfl, rfl⟩, hdom, hR, S'⟩
  obtain rfl := hR.u_inv
  exact ⟨M, hle, S', rfl⟩
def m_ref01_Mul_b1  (s1 : UInt64 × UInt64 × UInt64) : Option ((UInt64 × UInt64 × UInt64) ⊕ (UInt64)) :=
  if (decide ((s1.2.1.toNat : Int) > 0)) = true then
    obind (
      if (((s1.2.1 % 2).toNat : Int) == 1) = true then
        obind (m_ref01_Add s1.2.2 s1.1) fun x5 =>
        some x5
      else
      some s1.2.2
    ) fun x4 =>
    obind (m_ref01_Add s1.1 s1.1) fun x6 =>
    some (.inl (x6, (s1.2.1 / 2), x4))
  else
  some (.inr s1.2.2)
def m_ref01_Mul (a0 : UInt64) (a1 : UInt64) : Option UInt64 :=
  obind (
    obind (iter m_ref01_Mul_b1 FUEL ((a0 % 2305843009213693951), (a1 % 2305843009213693951), 0)) fun x2 =>
    some x2
  ) fun x1 =>
  some x1
theorem w_ref01_Mul {a0 : UInt64} {a1 : UInt64} {r : UInt64} (hm : m_ref01_Mul a0 a1 = some r) : Sf prog 152 [.d (.u a0), .d (.u a1)] (.d (.u r)) :=
  sp call152 func152 rfl ntmps152 rfl fun D0 As η0 m0 hd => by
    unfold m_ref01_Mul at hm
    obtain ⟨x1, q1, hm⟩ := obind_some hm
    obtain ⟨x2, q2, q1⟩ := obind_some q1
    refine gjU 0 (fun (_ : Unit) => ⟨[(5, .d (.u x1))], [], [], 0⟩) (fun _ => True) (by kernel_rfl) (fun Jp bk1 => ?_) fun _ _ => ?_
    · refine gjU 0 (fun (_ : Unit) => ⟨[(5, .d (.u x2))], [], [], 0⟩) (fun _ => True) (by kernel_rfl) (fun Jp bk2 => ?_) fun _ _ => ?_
      · refine gl hd (fun (p : Nat × (UInt64 × UInt64 × UInt64)) => let (p0, p_0, p_1, p_2) := p; ⟨[(0, .d (.u p_0)), (1, .d (.u p_1)), (5, .d (.u p_2))], [], [], 0⟩) (fun p => iter m_ref01_Mul_b1 p.1 p.2 = some x2) (fun p => p.1) (FUEL, ((a0 % 2305843009213693951), (a1 % 2305843009213693951), 0)) q2 (by kernel_rfl) ?_
        rintro ⟨n1, s1⟩ q3 Jl bl1
        cases n1 with
        | zero => exact (iter_zero q3).elim
        | succ n1 =>
          obtain ⟨y1, q5, q4⟩ := iter_succ q3
          unfold m_ref01_Mul_b1 at q5
          refine gi q5 (by kernel_rfl) (fun hc1 q5 => ?_) fun hc1 q5 => ?_
          · skip
            obtain ⟨x4, q7, q5⟩ := obind_some q5
            refine gj (fun (_ : Unit) => ⟨[(0, .d (.u s1.1)), (1, .d (.u s1.2.1)), (5, .d (.u x4))], [], [], 0⟩) (fun _ => True) (by kernel_rfl) (fun Jp bk3 => ?_) fun _ _ => ?_
            · refine gi q7 (by kernel_rfl) (fun hc2 q7 => ?_) fun hc2 q7 => ?_
              · obtain ⟨x5, q8, q7⟩ := obind_some q7
                refine gc (fun _ => w_ref01_Add q8) (by kernel_rfl) ?_
                have e0 := Option.some.inj q7
                subst e0
                exact gb bk3 hd () trivial (by kernel_rfl)
              have e0 := Option.some.inj q7
              subst e0
              exact gb bk3 hd () trivial (by kernel_rfl)
            obtain ⟨x6, q9, q5⟩ := obind_some q5
            refine gc (fun _ => w_ref01_Add q9) (by kernel_rfl) ?_
            have e0 := Option.some.inj q5
            subst e0
            rcases q4 with ⟨sn, e, q4'⟩ | e
            · have e := Sum.inl.inj e
              subst e
              exact gb bl1 hd (n1, _) ⟨q4', Nat.lt_succ_self _⟩ (by kernel_rfl)
            cases sum_lr e
          have e0 := Option.some.inj q5
          subst e0
          rcases q4 with ⟨sn, e, _⟩ | e
          · cases sum_rl e
          have e := Sum.inr.inj e
          subst e
          exact gb bk2 hd () trivial (by kernel_rfl)
      have e0 := Option.some.inj q1
      subst e0
      exact gb bk1 hd () trivial (by kernel_rfl)
    have e0 := Option.some.inj hm
    subst e0
    exact gend hd (by kernel_rfl)
def m_ref02_raised_b1 (a0 : UInt64) (a1 : Int) (s1 : UInt64 × Int) : Option ((UInt64 × Int) ⊕ (UInt64)) :=
  if (decide (s1.2 < a1)) = true then
    obind (m_ref01_Mul s1.1 a0) fun x4 =>
    some (.inl (x4, (w64 (s1.2 + 1))))
  else
  some (.inr s1.1)
def m_ref02_raised (a0 : UInt64) (a1 : Int) : Option UInt64 :=
  obind (
    obind (iter (m_ref02_raised_b1 a0 a1) FUEL (1, 0)) fun x2 =>
    some x2
  ) fun x1 =>
  some x1
theorem w_ref02_raised {a0 : UInt64} {a1 : Int} {r : UInt64} (hm : m_ref02_raised a0 a1 = some r) : Sf prog 150 [.d (.u a0), .d (.i a1)] (.d (.u r)) :=
  sp call150 func150 rfl ntmps150 rfl fun D0 As η0 m0 hd => by
    unfold m_ref02_raised at hm
    obtain ⟨x1, q1, hm⟩ := obind_some hm
    obtain ⟨x2, q2, q1⟩ := obind_some q1
    refine gjU 0 (fun (_ : Unit) => ⟨[(5, .d (.u x1))], [], [], 0⟩) (fun _ => True) (by kernel_rfl) (fun Jp bk1 => ?_) fun _ _ => ?_
    · refine gjU 0 (fun (_ : Unit) => ⟨[(5, .d (.u x2))], [], [], 0⟩) (fun _ => True) (by kernel_rfl) (fun Jp bk2 => ?_) fun _ _ => ?_
      · refine gl hd (fun (p : Nat × (UInt64 × Int)) => let (p0, p_0, p_1) := p; ⟨[(0, .d (.u a0)), (1, .d (.i a1)), (5, .d (.u p_0)), (6, .d (.i p_1))], [], [], 0⟩) (fun p => iter (m_ref02_raised_b1 a0 a1) p.1 p.2 = some x2) (fun p => p.1) (FUEL, (1, 0)) q2 (by kernel_rfl) ?_
        rintro ⟨n1, s1⟩ q3 Jl bl1
        cases n1 with
        | zero => exact (iter_zero q3).elim
        | succ n1 =>
          obtain ⟨y1, q5, q4⟩ := iter_succ q3
          unfold m_ref02_raised_b1 at q5
          refine gi q5 (by kernel_rfl) (fun hc1 q5 => ?_) fun hc1 q5 => ?_
          · skip
            obtain ⟨x4, q7, q5⟩ := obind_some q5
            refine gc (fun _ => w_ref01_Mul q7) (by kernel_rfl) ?_
            have e0 := Option.some.inj q5
            subst e0
            rcases q4 with ⟨sn, e, q4'⟩ | e
            · have e := Sum.inl.inj e
              subst e
              exact gb bl1 hd (n1, _) ⟨q4', Nat.lt_succ_self _⟩ (by kernel_rfl)
            cases sum_lr e
          have e0 := Option.some.inj q5
          subst e0
          rcases q4 with ⟨sn, e, _⟩ | e
          · cases sum_rl e
          have e := Sum.inr.inj e
          subst e
          exact gb bk2 hd () trivial (by kernel_rfl)
      have e0 := Option.some.inj q1
      subst e0
      exact gb bk1 hd () trivial (by kernel_rfl)
    have e0 := Option.some.inj hm
    subst e0
    exact gend hd (by kernel_rfl)
theorem v_ref02_raised {m : Mem} {As : List Ow} {w : World} {a0 : UInt64} {a1 : Int} {r : UInt64} (S : St m As w) (hm : m_ref02_raised a0 a1 = some r) :
    CallsR prog 150 #[vU a0, vI a1] w fun v w' => ∃ (M : Mem), m ≤ M ∧ St M (As) w' ∧ v = vU r := by
  refine CallsR.mono ((w_ref02_raised hm).2 none0 m As w [vU a0, vI a1] (.cons (.d (.u _)) (.cons (.d (.i _)) .nil)) (fun n h => absurd rfl h) S) ?_
  rintro v w' ⟨M, η', r', obs', n1, hle, _, ⟨rfl, rfl, rfl⟩, hdom, hR, S'⟩
  obtain rfl := hR.u_inv
  exact ⟨M, hle, S', rfl⟩
def m_ref02_round_b4 (a0 : UInt64 × UInt64 × UInt64) (a1 : Int) (s1 : Int × UInt64 × UInt64 × UInt64) : Option ((Int × UInt64 × UInt64 × UInt64) ⊕ (UInt64 × UInt64 × UInt64)) :=
  if (decide (s1.1 < 3)) = true then
    obind (m_ref02_raised (toU (w64 ((w64 ((w64 (3 * a1)) + s1.1)) + 1))) 3) fun x4 =>
    obind (m_ref01_Add x4 7) fun x5 =>
    obind (idx [a0.1, a0.2.1, a0.2.2] s1.1) fun x6 =>
    obind (m_ref01_Add x6 x5) fun x7 =>
    obind (m_ref02_raised x7 17) fun x8 =>
    obind (idx [s1.2.1, s1.2.2.1, s1.2.2.2] s1.1) fun x9 =>
    bnd (if s1.1 = 0 then x8 else s1.2.1) fun x10 =>
    bnd (if s1.1 = 1 then x8 else s1.2.2.1) fun x11 =>
    bnd (if s1.1 = 2 then x8 else s1.2.2.2) fun x12 =>
    some (.inl ((w64 (s1.1 + 1)), x10, x11, x12))
  else
  some (.inr (s1.2.1, s1.2.2.1, s1.2.2.2))
def m_ref02_round_b5 (x14 : UInt64) (s2 : Int × UInt64 × UInt64 × UInt64) : Option ((Int × UInt64 × UInt64 × UInt64) ⊕ (UInt64 × UInt64 × UInt64)) :=
  if (decide (s2.1 < 3)) = true then
    obind (idx [s2.2.1, s2.2.2.1, s2.2.2.2] s2.1) fun x18 =>
    obind (m_ref01_Add x18 x14) fun x19 =>
    obind (idx [s2.2.1, s2.2.2.1, s2.2.2.2] s2.1) fun x20 =>
    bnd (if s2.1 = 0 then x19 else s2.2.1) fun x21 =>
    bnd (if s2.1 = 1 then x19 else s2.2.2.1) fun x22 =>
    bnd (if s2.1 = 2 then x19 else s2.2.2.2) fun x23 =>
    some (.inl ((w64 (s2.1 + 1)), x21, x22, x23))
  else
  some (.inr (s2.2.1, s2.2.2.1, s2.2.2.2))
def m_ref02_round (a0 : UInt64 × UInt64 × UInt64) (a1 : Int) : Option (UInt64 × UInt64 × UInt64) :=
  obind (
    obind (iter (m_ref02_round_b4 a0 a1) FUEL (0, 0, 0, 0)) fun x2 =>
    some (x2.1, x2.2.1, x2.2.2)
  ) fun x1 =>
  obind (m_ref01_Add x1.1 x1.2.1) fun x13 =>
  obind (m_ref01_Add x13 x1.2.2) fun x14 =>
  obind (
    obind (iter (m_ref02_round_b5 x14) FUEL (0, x1.1, x1.2.1, x1.2.2)) fun x16 =>
    some (x16.1, x16.2.1, x16.2.2)
  ) fun x15 =>
  some x15
theorem w_ref02_round {m : Mem} {As : List Ow} {w : World} {a0 : UInt64 × UInt64 × UInt64} {a1 : Int} {r : UInt64 × UInt64 × UInt64} (S : St m (As) w) (hm : m_ref02_round a0 a1 = some r) :
    CallsR Tryz.prog 144 #[.agg #[vU a0.1, vU a0.2.1, vU a0.2.2], vI a1] w fun v w' => ∃ (M : Mem), m ≤ M ∧ St M (As) w' ∧ v = .agg #[vU r.1, vU r.2.1, vU r.2.2] := by
 unfold m_ref02_round at hm
 have L0 := Mem.rfl' m
 refine callsR (args := [.agg #[vU a0.1, vU a0.2.1, vU a0.2.2], vI a1]) func144 rfl ntmps144 (nb rfl) <| ws <| s_box S rfl fun b1 w1 S1 => ?_
 replace S1 : St _ ((bx b1 [vU a0.1, vU a0.2.1, vU a0.2.2] 139) :: As) _ := S1
 clear S
 refine s_alloc S1 zeroValue139 fun b2 w2 S2 => nx <| s_alloc S2 zeroValue139 fun b3 w3 S3 => ?_
 replace S3 : St _ ((bx b3 [vU 0, vU 0, vU 0] 139) :: (bx b2 [vU 0, vU 0, vU 0] 139) :: (bx b1 [vU a0.1, vU a0.2.1, vU a0.2.2] 139) :: As) _ := S3
 clear S1 S2
 refine wpl_nil <| nrm ?_
 obtain ⟨x1, q1, hm⟩ := obind_some hm
 have L1 := Mem.rfl' m
 refine wpc_seq <| wpc_join [6, 7, 10, 11, 12, 13, 14, 15, 16, 17, 18, 19, 20, 21, 22, 23, 24, 25, 26, 27, 28, 29] (fun f' w' => ∃ (M1 : Mem), m ≤ M1 ∧ St M1 ((bx b3 [vU x1.1, vU x1.2.1, vU x1.2.2] 139) :: (bx b2 [vU 0, vU 0, vU 0] 139) :: (bx b1 [vU a0.1, vU a0.2.1, vU a0.2.2] 139) :: As) w' ∧ AllAt f' []) ?_ ?_
 · refine ws <| s_asv (v := vI 0) rfl <| wpl_nil <| nrm ?_
   obtain ⟨x2, q2, q1⟩ := obind_some q1
   have L2 := Mem.rfl' m
   refine wpc_join [6, 7, 10, 11, 12, 13, 14, 15, 16, 17, 18, 19, 20, 21, 22, 23, 24, 25, 26, 27, 28, 29] (fun f' w' => ∃ (M2 : Mem), m ≤ M2 ∧ St M2 ((bx b3 [vU x2.1, vU x2.2.1, vU x2.2.2] 139) :: (bx b2 [vU 0, vU 0, vU 0] 139) :: (bx b1 [vU a0.1, vU a0.2.1, vU a0.2.2] 139) :: As) w' ∧ AllAt f' []) ?_ ?_
   · refine wpc_block <| wpc_rounds [6, 7, 10, 11, 12, 13, 14, 15, 16, 17, 18, 19, 20, 21, 22, 23, 24, 25, 26, 27, 28, 29] (fun n1 f' w' => ∃ (s1 : Int × UInt64 × UInt64 × UInt64) (m6 : Mem), iter (m_ref02_round_b4 a0 a1) n1 s1 = some x2 ∧ m ≤ m6 ∧ St m6 ((bx b3 [vU s1.2.1, vU s1.2.2.1, vU s1.2.2.2] 139) :: (bx b2 [vU 0, vU 0, vU 0] 139) :: (bx b1 [vU a0.1, vU a0.2.1, vU a0.2.2] 139) :: As) w' ∧ AllAt f' [(6, vI s1.1)]) FUEL ⟨(0, 0, 0, 0), m, q2, L2, S3, ⟨rfl, trivial⟩⟩ ?_
     rintro n1 f1 w4 ho ⟨s1, m1, q3, L4, S4, ha⟩
     obtain ⟨u1, rfl⟩ := fr_of (N := 50) ho ha
     clear ho ha
     have L3 := Mem.rfl' m1
     clear S3
     cases n1 with
     | zero => exact (iter_zero q3).elim
     | succ n1 =>
      obtain ⟨y1, q5, q4⟩ := iter_succ q3
      unfold m_ref02_round_b4 at q5
      refine wpc_seq <| ws <| s_mvv (v := vI s1.1) rfl <| s_lss (m := s1.1) (n := 3) rfl rfl <| wpl_nil <| nrm <| wpc_if (t := (decide (s1.1 < 3))) rfl (fun hc1 => ?_) (fun hc1 => ?_)
      · replace q5 := ifT hc1 q5
        refine wpc_skip <| nrm <| wpc_seq <| wpc_block <| ws <| s_mvv (v := vI a1) rfl <| s_mulI (m := 3) (n := a1) rfl rfl <| s_mvv (v := vI s1.1) rfl <| s_addI (m := (w64 (3 * a1))) (n := s1.1) rfl rfl <| s_addI (m := (w64 ((w64 (3 * a1)) + s1.1))) (n := 1) rfl rfl <| s_convU rfl underlying3 underlying22 ?_
        obtain ⟨x4, q7, q5⟩ := obind_some q5
        refine s_call call150 (v_ref02_raised (a0 := (toU (w64 ((w64 ((w64 (3 * a1)) + s1.1)) + 1)))) (a1 := 3) S4  q7) rfl ?_
        rintro _ w5 ⟨m2, l1, S5, rfl⟩
        clear S4
        obtain ⟨x5, q8, q5⟩ := obind_some q5
        refine s_call call127 (v_ref01_Add (a0 := x4) (a1 := 7) S5  q8) rfl ?_
        rintro _ w6 ⟨m3, l2, S6, rfl⟩
        clear S5
        refine s_asv (v := vU x5) rfl <| wpl_nil <| nrm <| wpc_region <| s_mvv (v := vI s1.1) rfl <| s_mvv (v := vI s1.1) rfl ?_
        obtain ⟨x6, q9, q5⟩ := obind_some q5
        refine s_idxA (i := s1.1) rfl rfl underlying139 sizeOf22 (idx_rng q9).1 (idx_rng q9).2 <| s_ld (i := 2) (off := 0 + s1.1.toNat * 1) (cs := [vU x6]) S6 rfl rfl isAgg22 sizeOf22 (by rcases idx3 q9 with ⟨h, h'⟩ | ⟨h, h'⟩ | ⟨h, h'⟩ <;> (rw [h, h']; rfl)) (fun _ => rfl) <| s_mvv (v := vU x5) rfl ?_
        obtain ⟨x7, q10, q5⟩ := obind_some q5
        refine s_call call127 (v_ref01_Add (a0 := x6) (a1 := x5) S6  q10) rfl ?_
        rintro _ w7 ⟨m4, l3, S7, rfl⟩
        clear S6
        obtain ⟨x8, q11, q5⟩ := obind_some q5
        refine s_call call150 (v_ref02_raised (a0 := x7) (a1 := 17) S7  q11) rfl ?_
        rintro _ w8 ⟨m5, l4, S8, rfl⟩
        clear S7
        obtain ⟨x9, q12, q5⟩ := obind_some q5
        refine s_idxA (i := s1.1) rfl rfl underlying139 sizeOf22 (idx_rng q12).1 (idx_rng q12).2 ?_
        obtain ⟨x10, q13, q5⟩ := bnd_eq q5
        obtain ⟨x11, q14, q5⟩ := bnd_eq q5
        obtain ⟨x12, q15, q5⟩ := bnd_eq q5
        refine s_st (i := 0) (off := 0 + s1.1.toNat * 1) S8 rfl rfl rfl sizeOf22 (OneL.all (oneC rfl oneN)) (by rcases idx3 q12 with ⟨h, h'⟩ | ⟨h, h'⟩ | ⟨h, h'⟩ <;> (rw [h]; exact nb rfl)) fun w9 S9 => ?_
        replace S9 := St.cellsTo (i := 0) (l' := [vU x10, vU x11, vU x12]) S9 (by rcases idx3 q12 with ⟨h, h'⟩ | ⟨h, h'⟩ | ⟨h, h'⟩ <;> (simp only [q13, q14, q15, h]; rfl)) rfl
        replace S9 : St _ ((bx b3 [vU x10, vU x11, vU x12] 139) :: (bx b2 [vU 0, vU 0, vU 0] 139) :: (bx b1 [vU a0.1, vU a0.2.1, vU a0.2.2] 139) :: As) _ := S9
        clear S8
        refine wpl_nil <| nrmB <| nrm <| wpc_region <| s_mvv (v := vI s1.1) rfl <| s_addI (m := s1.1) (n := 1) rfl rfl <| s_asv (v := vI (w64 (s1.1 + 1))) rfl <| wpl_nil <| nrm ?_
        have e0 := Option.some.inj q5
        subst e0
        rcases q4 with ⟨sn, e, q4'⟩ | e
        · cases e
          replace L3 := Mem.tr L3 (mt l1 (mt l2 (mt l3 l4)))
          exact ⟨outP, _, Nat.lt_succ_self _, ⟨_, m5, q4', Mem.tr L4 L3, S9, ⟨rfl, trivial⟩⟩⟩
        · cases e
      replace q5 := ifF hc1 q5
      refine wpc_exit <| thE <| thE <| exB <| nrm ?_
      have e0 := Option.some.inj q5
      subst e0
      rcases q4 with ⟨sn, e, _⟩ | e
      · cases e
      · cases e
        exact ⟨outP, m1, Mem.tr L4 L3, S4, trivial⟩
   rintro f2 w10 ho ⟨m7, l5, S10, ha⟩
   obtain ⟨u2, rfl⟩ := fr_of (N := 50) ho ha
   clear ho ha S3
   have e0 := Option.some.inj q1
   subst e0
   replace L1 := Mem.tr L1 l5
   exact ⟨outP, m7, L1, S10, trivial⟩
 rintro f3 w11 ho ⟨m8, l6, S11, ha⟩
 obtain ⟨u3, rfl⟩ := fr_of (N := 50) ho ha
 clear S3
 refine wpc_seq ?_
 obtain ⟨x13, q16, hm⟩ := obind_some hm
 have HM : MonoAll [(30, fv (pt b3 0)), (31, fv (vU x1.1)), (32, fv (pt b3 1)), (33, fv (vU x1.2.1)), (34, fv (vU x13)), (35, fv (pt b3 2)), (36, fv (vU x1.2.2))] := ⟨mv, mv, mv, mv, mv, mv, mv, trivial⟩
 refine wpc_flowG HM 7 mixed rfl rfl rfl (rg 30 7) (fun L f M w => St M ((bx b3 [vU x1.1, vU x1.2.1, vU x1.2.2] 139) :: (bx b2 [vU 0, vU 0, vU 0] 139) :: (bx b1 [vU a0.1, vU a0.2.1, vU a0.2.2] 139) :: As) w) (St.drew S11 _) ?_ ?_
 · refine ⟨?_, ?_, ?_, ?_, ?_, ?_, ?_, trivial⟩
   · exact flp HM rfl [] (fun _ _ => trivial) (fun _ _ q => s_idxA (i := 0) rfl rfl underlying139 sizeOf22 (by decide) (by decide) q) rfl
   · exact flp HM rfl [(30, _)] (fun K _ => ⟨K 0 rfl, trivial⟩) (fun _ S13 q => s_ld (i := 0) (cs := [vU x1.1]) S13 rfl rfl isAgg22 sizeOf22 rfl (fun _ => rfl) q) rfl
   · exact flp HM rfl [] (fun _ _ => trivial) (fun _ _ q => s_idxA (i := 1) rfl rfl underlying139 sizeOf22 (by decide) (by decide) q) rfl
   · exact flp HM rfl [(32, _)] (fun K _ => ⟨K 2 rfl, trivial⟩) (fun _ S15 q => s_ld (i := 0) (cs := [vU x1.2.1]) S15 rfl rfl isAgg22 sizeOf22 rfl (fun _ => rfl) q) rfl
   · intro L f8 w16 hL hd hc ⟨m13, L13, S16, K, hO⟩
     obtain ⟨u8, rfl⟩ := fr_of (N := 50) (L := [(31, _), (33, _)]) hO ⟨K 1 (dep hd rfl), K 3 (dep hd rfl), trivial⟩
     have L14 := Mem.rfl' m13
     refine s_call call127 (v_ref01_Add (a0 := x1.1) (a1 := x1.2.1) S16  q16) rfl ?_
     rintro _ w17 ⟨m14, l7, S17, rfl⟩
     clear S16
     refine wpn ?_
     replace L14 := Mem.tr L14 l7
     exact ⟨m14, Mem.tr L13 L14, S17, facts_step HM rfl K L14 rfl rfl rfl, outP⟩
   · exact flp HM rfl [] (fun _ _ => trivial) (fun _ _ q => s_idxA (i := 2) rfl rfl underlying139 sizeOf22 (by decide) (by decide) q) rfl
   · exact flp HM rfl [(35, _)] (fun K _ => ⟨K 5 rfl, trivial⟩) (fun _ S19 q => s_ld (i := 0) (cs := [vU x1.2.2]) S19 rfl rfl isAgg22 sizeOf22 rfl (fun _ => rfl) q) rfl
 intro L f11 w20 hall ⟨m17, L19, S20, K, hO⟩
 have d4 : L 4 = true := hall 4 (by decide)
 have d6 : L 6 = true := hall 6 (by decide)
 obtain ⟨u11, rfl⟩ := fr_of (N := 50) (L := [(34, _), (36, _)]) hO ⟨K 4 d4, K 6 d6, trivial⟩
 replace S20 : St _ ((bx b3 [vU x1.1, vU x1.2.1, vU x1.2.2] 139) :: (bx b2 [vU 0, vU 0, vU 0] 139) :: (bx b1 [vU a0.1, vU a0.2.1, vU a0.2.2] 139) :: As) _ := S20
 clear S11
 obtain ⟨x14, q17, hm⟩ := obind_some hm
 refine s_call call127 (v_ref01_Add (a0 := x13) (a1 := x1.2.2) S20  q17) rfl ?_
 rintro _ w21 ⟨m18, l8, S21, rfl⟩
 clear S20
 refine s_asv (v := vU x14) rfl <| wpl_nil <| nrm ?_
 obtain ⟨x15, q18, hm⟩ := obind_some hm
 have L20 := Mem.rfl' m18
 refine wpc_seq <| wpc_join [9, 38, 39, 40, 41, 42, 43, 44, 45, 46, 47, 48] (fun f' w' => ∃ (M3 : Mem), m18 ≤ M3 ∧ St M3 ((bx b3 [vU x15.1, vU x15.2.1, vU x15.2.2] 139) :: (bx b2 [vU 0, vU 0, vU 0] 139) :: (bx b1 [vU a0.1, vU a0.2.1, vU a0.2.2] 139) :: As) w' ∧ AllAt f' []) ?_ ?_
 · refine ws <| s_asv (v := vI 0) rfl <| wpl_nil <| nrm ?_
   obtain ⟨x16, q19, q18⟩ := obind_some q18
   have L21 := Mem.rfl' m18
   refine wpc_join [9, 38, 39, 40, 41, 42, 43, 44, 45, 46, 47, 48] (fun f' w' => ∃ (M4 : Mem), m18 ≤ M4 ∧ St M4 ((bx b3 [vU x16.1, vU x16.2.1, vU x16.2.2] 139) :: (bx b2 [vU 0, vU 0, vU 0] 139) :: (bx b1 [vU a0.1, vU a0.2.1, vU a0.2.2] 139) :: As) w' ∧ AllAt f' []) ?_ ?_
   · refine wpc_block <| wpc_rounds [9, 38, 39, 40, 41, 42, 43, 44, 45, 46, 47, 48] (fun n2 f' w' => ∃ (s2 : Int × UInt64 × UInt64 × UInt64) (m21 : Mem), iter (m_ref02_round_b5 x14) n2 s2 = some x16 ∧ m18 ≤ m21 ∧ St m21 ((bx b3 [vU s2.2.1, vU s2.2.2.1, vU s2.2.2.2] 139) :: (bx b2 [vU 0, vU 0, vU 0] 139) :: (bx b1 [vU a0.1, vU a0.2.1, vU a0.2.2] 139) :: As) w' ∧ AllAt f' [(9, vI s2.1)]) FUEL ⟨(0, x1.1, x1.2.1, x1.2.2), m18, q19, L21, S21, ⟨rfl, trivial⟩⟩ ?_
     rintro n2 f12 w22 ho ⟨s2, m19, q20, L23, S22, ha⟩
     obtain ⟨u12, rfl⟩ := fr_of (N := 50) ho ha
     clear ho ha
     have L22 := Mem.rfl' m19
     clear S21
     cases n2 with
     | zero => exact (iter_zero q20).elim
     | succ n2 =>
      obtain ⟨y2, q22, q21⟩ := iter_succ q20
      unfold m_ref02_round_b5 at q22
      refine wpc_seq <| ws <| s_mvv (v := vI s2.1) rfl <| s_lss (m := s2.1) (n := 3) rfl rfl <| wpl_nil <| nrm <| wpc_if (t := (decide (s2.1 < 3))) rfl (fun hc2 => ?_) (fun hc2 => ?_)
      · replace q22 := ifT hc2 q22
        refine wpc_skip <| nrm <| wpc_seq <| wpc_block <| wpc_region <| s_mvv (v := vI s2.1) rfl <| s_mvv (v := vI s2.1) rfl ?_
        obtain ⟨x18, q24, q22⟩ := obind_some q22
        refine s_idxA (i := s2.1) rfl rfl underlying139 sizeOf22 (idx_rng q24).1 (idx_rng q24).2 <| s_ld (i := 0) (off := 0 + s2.1.toNat * 1) (cs := [vU x18]) S22 rfl rfl isAgg22 sizeOf22 (by rcases idx3 q24 with ⟨h, h'⟩ | ⟨h, h'⟩ | ⟨h, h'⟩ <;> (rw [h, h']; rfl)) (fun _ => rfl) <| s_mvv (v := vU x14) rfl ?_
        obtain ⟨x19, q25, q22⟩ := obind_some q22
        refine s_call call127 (v_ref01_Add (a0 := x18) (a1 := x14) S22  q25) rfl ?_
        rintro _ w23 ⟨m20, l9, S23, rfl⟩
        clear S22
        obtain ⟨x20, q26, q22⟩ := obind_some q22
        refine s_idxA (i := s2.1) rfl rfl underlying139 sizeOf22 (idx_rng q26).1 (idx_rng q26).2 ?_
        obtain ⟨x21, q27, q22⟩ := bnd_eq q22
        obtain ⟨x22, q28, q22⟩ := bnd_eq q22
        obtain ⟨x23, q29, q22⟩ := bnd_eq q22
        refine s_st (i := 0) (off := 0 + s2.1.toNat * 1) S23 rfl rfl rfl sizeOf22 (OneL.all (oneC rfl oneN)) (by rcases idx3 q26 with ⟨h, h'⟩ | ⟨h, h'⟩ | ⟨h, h'⟩ <;> (rw [h]; exact nb rfl)) fun w24 S24 => ?_
        replace S24 := St.cellsTo (i := 0) (l' := [vU x21, vU x22, vU x23]) S24 (by rcases idx3 q26 with ⟨h, h'⟩ | ⟨h, h'⟩ | ⟨h, h'⟩ <;> (simp only [q27, q28, q29, h]; rfl)) rfl
        replace S24 : St _ ((bx b3 [vU x21, vU x22, vU x23] 139) :: (bx b2 [vU 0, vU 0, vU 0] 139) :: (bx b1 [vU a0.1, vU a0.2.1, vU a0.2.2] 139) :: As) _ := S24
        clear S23
        refine wpl_nil <| nrmB <| nrm <| wpc_region <| s_mvv (v := vI s2.1) rfl <| s_addI (m := s2.1) (n := 1) rfl rfl <| s_asv (v := vI (w64 (s2.1 + 1))) rfl <| wpl_nil <| nrm ?_
        have e0 := Option.some.inj q22
        subst e0
        rcases q21 with ⟨sn, e, q21'⟩ | e
        · cases e
          replace L22 := Mem.tr L22 l9
          exact ⟨outP, _, Nat.lt_succ_self _, ⟨_, m20, q21', Mem.tr L23 L22, S24, ⟨rfl, trivial⟩⟩⟩
        · cases e
      replace q22 := ifF hc2 q22
      refine wpc_exit <| thE <| thE <| exB <| nrm ?_
      have e0 := Option.some.inj q22
      subst e0
      rcases q21 with ⟨sn, e, _⟩ | e
      · cases e
      · cases e
        exact ⟨outP, m19, Mem.tr L23 L22, S22, trivial⟩
   rintro f13 w25 ho ⟨m22, l10, S25, ha⟩
   obtain ⟨u13, rfl⟩ := fr_of (N := 50) ho ha
   clear ho ha S21
   have e0 := Option.some.inj q18
   subst e0
   replace L20 := Mem.tr L20 l10
   exact ⟨outP, m22, L20, S25, trivial⟩
 rintro f14 w26 ho ⟨m23, l11, S26, ha⟩
 obtain ⟨u14, rfl⟩ := fr_of (N := 50) ho ha
 clear S21
 refine ws <| s_ld (i := 0) (cs := [vU x15.1, vU x15.2.1, vU x15.2.2]) S26 rfl rfl isAgg139 sizeOf139 rfl (fun h => by cases h) <| s_stL (i := 1) S26 rfl rfl rfl sizeOf139 (oneC rfl (oneC rfl (oneC rfl oneN))) rfl fun w27 S27 => ?_
 replace S27 : St _ ((bx b3 [vU x15.1, vU x15.2.1, vU x15.2.2] 139) :: (bx b2 [vU x15.1, vU x15.2.1, vU x15.2.2] 139) :: (bx b1 [vU a0.1, vU a0.2.1, vU a0.2.2] 139) :: As) _ := S27
 clear S26
 refine wpl_nil <| nrm <| wpc_ret <| outRw fun we hpd => ?_
 replace S27 := St.pd S27 hpd
 have SR := S27
 obtain ⟨m24, l12, S28⟩ := St.drop S27 0
 replace S28 : St _ ((bx b2 [vU x15.1, vU x15.2.1, vU x15.2.2] 139) :: (bx b1 [vU a0.1, vU a0.2.1, vU a0.2.2] 139) :: As) _ := S28
 obtain ⟨m25, l13, S29⟩ := St.drop S28 0
 clear S28
 replace S29 : St _ ((bx b1 [vU a0.1, vU a0.2.1, vU a0.2.2] 139) :: As) _ := S29
 obtain ⟨m26, l14, S30⟩ := St.drop S29 0
 clear S29
 replace S30 : St _ (As) _ := S30
 have e0 := Option.some.inj hm
 subst e0
 replace L0 := Mem.tr L0 (mt l6 (mt L19 (mt l8 (mt l11 (mt l12 (mt l13 l14))))))
 exact outR [_] rfl ⟨res_box (i := 1) (off := 0) (cs := [vU x15.1, vU x15.2.1, vU x15.2.2]) SR rfl rfl isAgg139 sizeOf139 rfl (fun h => by cases h), trivial⟩ ⟨_, L0, S30, rfl⟩
theorem s_ref02_round {a0 : UInt64 × UInt64 × UInt64} {a1 : Int} {r : UInt64 × UInt64 × UInt64} (hm : m_ref02_round a0 a1 = some r) : Sf prog 144 [ag (e_a3_eU a0), .d (.i a1)] (ag (e_a3_eU r)) :=
  ⟨call144, fun η m As w vs hv0 hd S => by
    have S : St m As w := S
    obtain ⟨v0, u0, rfl, r0, hv1⟩ := RelL.cons_inv hv0
    obtain ⟨c0, rfl, g0⟩ := Br.ofA b_a3_eU r0
    obtain rfl := rep_arr3_UInt64 g0
    obtain ⟨v1, u1, rfl, r1, hv2⟩ := RelL.cons_inv hv1
    obtain rfl := r1.i_inv
    obtain rfl := RelL.nil_inv hv2
    refine CallsR.mono (w_ref02_round S  hm) ?_
    rintro v w' ⟨M, hle, S0, rfl⟩
    exact ⟨M, none0, _, _, _, hle, dom0 hd _, ⟨rfl, rfl, rfl⟩, fun n h => absurd rfl h, (Br.toA b_a3_eU (mk_arr3_UInt64)), S0⟩⟩
def m_ref02_Mix_b3  (s1 : Int × UInt64 × UInt64 × UInt64) : Option ((Int × UInt64 × UInt64 × UInt64) ⊕ (UInt64 × UInt64 × UInt64)) :=
  if (decide (s1.1 < 8)) = true then
    obind (m_ref02_round s1.2 s1.1) fun x4 =>
    some (.inl ((w64 (s1.1 + 1)), x4.1, x4.2.1, x4.2.2))
  else
  some (.inr (s1.2.1, s1.2.2.1, s1.2.2.2))
def m_ref02_Mix (a0 : UInt64 × UInt64 × UInt64) : Option (UInt64 × UInt64 × UInt64) :=
  obind (
    obind (iter m_ref02_Mix_b3 FUEL (0, a0.1, a0.2.1, a0.2.2)) fun x2 =>
    some (x2.1, x2.2.1, x2.2.2)
  ) fun x1 =>
  some x1
theorem w_ref02_Mix {a0 : UInt64 × UInt64 × UInt64} {r : UInt64 × UInt64 × UInt64} (hm : m_ref02_Mix a0 = some r) : Sf prog 128 [ag (e_a3_eU a0)] (ag (e_a3_eU r)) :=
  sp call128 func128 rfl ntmps128 rfl fun D0 As η0 m0 hd => by
    unfold m_ref02_Mix at hm
    obtain ⟨x1, q1, hm⟩ := obind_some hm
    obtain ⟨x2, q2, q1⟩ := obind_some q1
    refine gjU 0 (fun (_ : Unit) => let (y_0, y_1, y_2) := x1; ⟨[(1, .pb 0 0), (2, .pb 1 0)], [(0, .box 1 [.d (.u 0), .d (.u 0), .d (.u 0)] 139), (1, .box 0 [.d (.u y_0), .d (.u y_1), .d (.u y_2)] 139)], [], 2⟩) (fun _ => True) (by kernel_rfl) (fun Jp bk1 => ?_) fun _ _ => ?_
    · refine gjU 0 (fun (_ : Unit) => let (y_0, y_1, y_2) := x2; ⟨[(1, .pb 0 0), (2, .pb 1 0)], [(0, .box 1 [.d (.u 0), .d (.u 0), .d (.u 0)] 139), (1, .box 0 [.d (.u y_0), .d (.u y_1), .d (.u y_2)] 139)], [], 2⟩) (fun _ => True) (by kernel_rfl) (fun Jp bk2 => ?_) fun _ _ => ?_
      · refine gl hd (fun (p : Nat × (Int × UInt64 × UInt64 × UInt64)) => let (p0, p_0, p_1, p_2, p_3) := p; ⟨[(1, .pb 0 0), (2, .pb 1 0), (3, .d (.i p_0))], [(0, .box 1 [.d (.u 0), .d (.u 0), .d (.u 0)] 139), (1, .box 0 [.d (.u p_1), .d (.u p_2), .d (.u p_3)] 139)], [], 2⟩) (fun p => iter m_ref02_Mix_b3 p.1 p.2 = some x2) (fun p => p.1) (FUEL, (0, a0.1, a0.2.1, a0.2.2)) q2 (by kernel_rfl) ?_
        rintro ⟨n1, s1⟩ q3 Jl bl1
        cases n1 with
        | zero => exact (iter_zero q3).elim
        | succ n1 =>
          obtain ⟨y1, q5, q4⟩ := iter_succ q3
          unfold m_ref02_Mix_b3 at q5
          refine gi q5 (by kernel_rfl) (fun hc1 q5 => ?_) fun hc1 q5 => ?_
          · skip
            obtain ⟨x4, q7, q5⟩ := obind_some q5
            refine gc (fun _ => s_ref02_round q7) (by kernel_rfl) ?_
            have e0 := Option.some.inj q5
            subst e0
            rcases q4 with ⟨sn, e, q4'⟩ | e
            · have e := Sum.inl.inj e
              subst e
              exact gb bl1 hd (n1, _) ⟨q4', Nat.lt_succ_self _⟩ (by kernel_rfl)
            cases sum_lr e
          have e0 := Option.some.inj q5
          subst e0
          rcases q4 with ⟨sn, e, _⟩ | e
          · cases sum_rl e
          have e := Sum.inr.inj e
          subst e
          exact gb bk2 hd () trivial (by kernel_rfl)
      have e0 := Option.some.inj q1
      subst e0
      exact gb bk1 hd () trivial (by kernel_rfl)
    have e0 := Option.some.inj hm
    subst e0
    exact gend hd (by kernel_rfl)
def m_ref02_Sum_b3 (x1 : List UInt64) (s1 : Int × UInt64 × UInt64 × UInt64) : Option ((Int × UInt64 × UInt64 × UInt64) ⊕ (UInt64 × UInt64 × UInt64)) :=
  if ((decide (s1.1 < (x1.length : Int))) || (s1.1 == 0)) = true then
    obind (
      if (decide (s1.1 < (x1.length : Int))) = true then
        obind (idx x1 s1.1) fun x6 =>
        obind (m_ref01_Add s1.2.1 x6) fun x7 =>
        some x7
      else
      some s1.2.1
    ) fun x5 =>
    obind (
      if (decide ((w64 (s1.1 + 1)) < (x1.length : Int))) = true then
        obind (idx x1 (w64 (s1.1 + 1))) fun x9 =>
        obind (m_ref01_Add s1.2.2.1 x9) fun x10 =>
        some x10
      else
      some s1.2.2.1
    ) fun x8 =>
    obind (m_ref02_Mix (x5, x8, s1.2.2.2)) fun x11 =>
    some (.inl ((w64 (s1.1 + 2)), x11.1, x11.2.1, x11.2.2))
  else
  some (.inr (s1.2.1, s1.2.2.1, s1.2.2.2))
def m_ref02_Sum (a0 : List UInt8) : Option (UInt64 × UInt64) :=
  obind (m_ref01_Of a0) fun x1 =>
  obind (
    obind (iter (m_ref02_Sum_b3 x1) FUEL (0, 0, 0, (toU (a0.length : Int)))) fun x3 =>
    some (x3.1, x3.2.1, x3.2.2)
  ) fun x2 =>
  some (x2.1, x2.2.1)
theorem w_ref02_Sum {a0 : List UInt8} {r : UInt64 × UInt64} (hm : m_ref02_Sum a0 = some r) : Sf prog 101 [sl eB a0] (ag (e_a2_eU r)) :=
  sp call101 func101 rfl ntmps101 rfl fun D0 As η0 m0 hd => by
    unfold m_ref02_Sum at hm
    obtain ⟨x1, q1, hm⟩ := obind_some hm
    refine gco (w_ref01_Of q1) (by kernel_rfl) ?_
    obtain ⟨x2, q2, hm⟩ := obind_some hm
    obtain ⟨x3, q3, q2⟩ := obind_some q2
    refine gjU 0 (fun (_ : Unit) => let (y_0, y_1, y_2) := x2; ⟨[(2, .pb 0 0), (4, .pb 1 0)], [(0, .box 1 [.d (.u y_0), .d (.u y_1), .d (.u y_2)] 139), (1, .box 0 [.d (.u 0), .d (.u 0)] 34)], [], 2⟩) (fun _ => True) (by kernel_rfl) (fun Jp bk1 => ?_) fun _ _ => ?_
    · refine gjU 0 (fun (_ : Unit) => let (y_0, y_1, y_2) := x3; ⟨[(2, .pb 0 0), (4, .pb 1 0)], [(0, .box 1 [.d (.u y_0), .d (.u y_1), .d (.u y_2)] 139), (1, .box 0 [.d (.u 0), .d (.u 0)] 34)], [], 2⟩) (fun _ => True) (by kernel_rfl) (fun Jp bk2 => ?_) fun _ _ => ?_
      · refine gl hd (fun (p : Nat × (Int × UInt64 × UInt64 × UInt64)) => let (p0, p_0, p_1, p_2, p_3) := p; ⟨[(2, .pb 0 0), (3, .ow 1), (4, .pb 2 0), (5, .d (.i p_0))], [(0, .box 2 [.d (.u p_1), .d (.u p_2), .d (.u p_3)] 139), (1, .row 1 1 _ eU x1), (2, .box 0 [.d (.u 0), .d (.u 0)] 34)], [], 3⟩) (fun p => iter (m_ref02_Sum_b3 x1) p.1 p.2 = some x3) (fun p => p.1) (FUEL, (0, 0, 0, (toU (a0.length : Int)))) q3 (by kernel_rfl) ?_
        rintro ⟨n1, s1⟩ q4 Jl bl1
        cases n1 with
        | zero => exact (iter_zero q4).elim
        | succ n1 =>
          obtain ⟨y1, q6, q5⟩ := iter_succ q4
          unfold m_ref02_Sum_b3 at q6
          refine gi q6 (by kernel_rfl) (fun hc1 q6 => ?_) fun hc1 q6 => ?_
          · skip
            obtain ⟨x5, q8, q6⟩ := obind_some q6
            refine gj (fun (_ : Unit) => ⟨[(2, .pb 0 0), (3, .ow 1), (4, .pb 2 0), (5, .d (.i s1.1))], [(0, .box 2 [.d (.u x5), .d (.u s1.2.2.1), .d (.u s1.2.2.2)] 139), (1, .row 1 1 _ eU x1), (2, .box 0 [.d (.u 0), .d (.u 0)] 34)], [], 3⟩) (fun _ => True) (by kernel_rfl) (fun Jp bk3 => ?_) fun _ _ => ?_
            · refine gi q8 (by kernel_rfl) (fun hc2 q8 => ?_) fun hc2 q8 => ?_
              · obtain ⟨x6, q9, q8⟩ := obind_some q8
                refine gidxO (E := eU) (fun _ => q9) (by kernel_rfl) ?_
                refine gldO (k := 1) (fo := 0) (nn := 1) (ag := false) (E := eU) (fun _ => rfl) (fun _ => q9) (by kernel_rfl) ?_
                obtain ⟨x7, q10, q8⟩ := obind_some q8
                refine gc (fun _ => w_ref01_Add q10) (by kernel_rfl) ?_
                have e0 := Option.some.inj q8
                subst e0
                exact gb bk3 hd () trivial (by kernel_rfl)
              have e0 := Option.some.inj q8
              subst e0
              exact gb bk3 hd () trivial (by kernel_rfl)
            obtain ⟨x8, q11, q6⟩ := obind_some q6
            refine gj (fun (_ : Unit) => ⟨[(2, .pb 0 0), (3, .ow 1), (4, .pb 2 0), (5, .d (.i s1.1))], [(0, .box 2 [.d (.u x5), .d (.u x8), .d (.u s1.2.2.2)] 139), (1, .row 1 1 _ eU x1), (2, .box 0 [.d (.u 0), .d (.u 0)] 34)], [], 3⟩) (fun _ => True) (by kernel_rfl) (fun Jp bk4 => ?_) fun _ _ => ?_
            · refine gi q11 (by kernel_rfl) (fun hc3 q11 => ?_) fun hc3 q11 => ?_
              · obtain ⟨x9, q12, q11⟩ := obind_some q11
                refine gidxO (E := eU) (fun _ => q12) (by kernel_rfl) ?_
                refine gldO (k := 1) (fo := 0) (nn := 1) (ag := false) (E := eU) (fun _ => rfl) (fun _ => q12) (by kernel_rfl) ?_
                obtain ⟨x10, q13, q11⟩ := obind_some q11
                refine gc (fun _ => w_ref01_Add q13) (by kernel_rfl) ?_
                have e0 := Option.some.inj q11
                subst e0
                exact gb bk4 hd () trivial (by kernel_rfl)
              have e0 := Option.some.inj q11
              subst e0
              exact gb bk4 hd () trivial (by kernel_rfl)
            obtain ⟨x11, q14, q6⟩ := obind_some q6
            refine gc (fun _ => w_ref02_Mix q14) (by kernel_rfl) ?_
            have e0 := Option.some.inj q6
            subst e0
            rcases q5 with ⟨sn, e, q5'⟩ | e
            · have e := Sum.inl.inj e
              subst e
              exact gb bl1 hd (n1, _) ⟨q5', Nat.lt_succ_self _⟩ (by kernel_rfl)
            cases sum_lr e
          have e0 := Option.some.inj q6
          subst e0
          rcases q5 with ⟨sn, e, _⟩ | e
          · cases sum_rl e
          have e := Sum.inr.inj e
          subst e
          exact gb bk2 hd () trivial (by kernel_rfl)
      have e0 := Option.some.inj q2
      subst e0
      exact gb bk1 hd () trivial (by kernel_rfl)
    have e0 := Option.some.inj hm
    subst e0
    exact gend hd (by kernel_rfl)
def m_ref02_Eight_b1 (a0 : UInt64) (s1 : (List UInt8) × Int) : Option (((List UInt8) × Int) ⊕ ((List UInt8))) :=
  if (decide (s1.2 ≥ 0)) = true then
    obind (app 1 s1.1 ([(toB ((shrU a0 ((toU (w64 (8 * s1.2))).toNat)).toNat : Int))] : List UInt8)) fun x4 =>
    some (.inl (x4, (w64 (s1.2 - 1))))
  else
  some (.inr s1.1)
def m_ref02_Eight (a0 : UInt64) : Option (List UInt8) :=
  obind (
    obind (iter (m_ref02_Eight_b1 a0) FUEL (([] : List UInt8), 7)) fun x2 =>
    some x2
  ) fun x1 =>
  some x1
theorem w_ref02_Eight {a0 : UInt64} {r : List UInt8} (hm : m_ref02_Eight a0 = some r) : Sp prog 116 [.d (.u a0)] [] 0 (is (.ow 0) [.row 0 1 _ eB r] 1) :=
  sp call116 func116 rfl ntmps116 rfl fun D0 As η0 m0 hd => by
    unfold m_ref02_Eight at hm
    obtain ⟨x1, q1, hm⟩ := obind_some hm
    obtain ⟨x2, q2, q1⟩ := obind_some q1
    refine gnilU 0 eB 3 1 (by kernel_rfl) ?_
    refine gjU 0 (fun (_ : Unit) => ⟨[(3, .ow 0)], [(0, .row 0 1 _ eB x1)], [], 1⟩) (fun _ => True) (by kernel_rfl) (fun Jp bk1 => ?_) fun _ _ => ?_
    · refine gjU 0 (fun (_ : Unit) => ⟨[(3, .ow 0)], [(0, .row 0 1 _ eB x2)], [], 1⟩) (fun _ => True) (by kernel_rfl) (fun Jp bk2 => ?_) fun _ _ => ?_
      · refine gl hd (fun (p : Nat × ((List UInt8) × Int)) => let (p0, p_0, p_1) := p; ⟨[(0, .d (.u a0)), (3, .ow 0), (4, .d (.i p_1))], [(0, .row 0 1 _ eB p_0)], [], 1⟩) (fun p => iter (m_ref02_Eight_b1 a0) p.1 p.2 = some x2) (fun p => p.1) (FUEL, (([] : List UInt8), 7)) q2 (by kernel_rfl) ?_
        rintro ⟨n1, s1⟩ q3 Jl bl1
        cases n1 with
        | zero => exact (iter_zero q3).elim
        | succ n1 =>
          obtain ⟨y1, q5, q4⟩ := iter_succ q3
          unfold m_ref02_Eight_b1 at q5
          refine gi q5 (by kernel_rfl) (fun hc1 q5 => ?_) fun hc1 q5 => ?_
          · skip
            refine glitF (k := 1) eB ([(toB ((shrU a0 ((toU (w64 (8 * s1.2))).toNat)).toNat : Int))] : List UInt8) (fun _ => rfl) (by kernel_rfl) ?_
            obtain ⟨x4, q7, q5⟩ := obind_some q5
            refine gapp (k := 1) (E := eB) (fun _ => rfl) q7 (by kernel_rfl) ?_
            have e0 := Option.some.inj q5
            subst e0
            rcases q4 with ⟨sn, e, q4'⟩ | e
            · have e := Sum.inl.inj e
              subst e
              exact gb bl1 hd (n1, _) ⟨q4', Nat.lt_succ_self _⟩ (by kernel_rfl)
            cases sum_lr e
          have e0 := Option.some.inj q5
          subst e0
          rcases q4 with ⟨sn, e, _⟩ | e
          · cases sum_rl e
          have e := Sum.inr.inj e
          subst e
          exact gb bk2 hd () trivial (by kernel_rfl)
      have e0 := Option.some.inj q1
      subst e0
      exact gb bk1 hd () trivial (by kernel_rfl)
    have e0 := Option.some.inj hm
    subst e0
    exact gend hd (by kernel_rfl)
def m_ref02_Coded_b1 (a1 : List (List UInt8)) (s1 : (List UInt8) × Int) : Option (((List UInt8) × Int) ⊕ ((List UInt8))) :=
  if (decide (s1.2 < (a1.length : Int))) = true then
    obind (idx a1 s1.2) fun x5 =>
    obind (m_ref02_Eight (toU (x5.length : Int))) fun x6 =>
    obind (cut x6 4 (x6.length : Int)) fun x7 =>
    obind (app 1 s1.1 x7) fun x8 =>
    obind (idx a1 s1.2) fun x9 =>
    obind (app 1 x8 x9) fun x10 =>
    some (.inl (x10, (w64 (s1.2 + 1))))
  else
  some (.inr s1.1)
def m_ref02_Coded (a0 : ByteArray) (a1 : List (List UInt8)) : Option (List UInt8) :=
  obind (app 1 ([(toB (a0.size : Int))] : List UInt8) a0.data.toList) fun x1 =>
  obind (
    obind (iter (m_ref02_Coded_b1 a1) FUEL (x1, 0)) fun x3 =>
    some x3
  ) fun x2 =>
  some x2
theorem w_ref02_Coded {a0 : ByteArray} {a1 : List (List UInt8)} {r : List UInt8} (hm : m_ref02_Coded a0 a1 = some r) : Sp prog 102 [.d (.s a0), sl (eL eB) a1] [] 0 (is (.ow 0) [.row 0 1 _ eB r] 1) :=
  sp call102 func102 rfl ntmps102 rfl fun D0 As η0 m0 hd => by
    unfold m_ref02_Coded at hm
    refine glit (k := 1) eB ([(toB (a0.size : Int))] : List UInt8) (fun _ => rfl) (by kernel_rfl) ?_
    obtain ⟨x1, q1, hm⟩ := obind_some hm
    refine gapS q1 (by kernel_rfl) ?_
    obtain ⟨x2, q2, hm⟩ := obind_some hm
    obtain ⟨x3, q3, q2⟩ := obind_some q2
    refine gjU 0 (fun (_ : Unit) => ⟨[(5, .ow 0)], [(0, .row 0 1 _ eB x2)], [], 1⟩) (fun _ => True) (by kernel_rfl) (fun Jp bk1 => ?_) fun _ _ => ?_
    · refine gjU 0 (fun (_ : Unit) => ⟨[(5, .ow 0)], [(0, .row 0 1 _ eB x3)], [], 1⟩) (fun _ => True) (by kernel_rfl) (fun Jp bk2 => ?_) fun _ _ => ?_
      · refine gl hd (fun (p : Nat × ((List UInt8) × Int)) => let (p0, p_0, p_1) := p; ⟨[(1, sl (eL eB) a1), (5, .ow 0), (6, .d (.i p_1))], [(0, .row 0 1 _ eB p_0)], [], 1⟩) (fun p => iter (m_ref02_Coded_b1 a1) p.1 p.2 = some x3) (fun p => p.1) (FUEL, (x1, 0)) q3 (by kernel_rfl) ?_
        rintro ⟨n1, s1⟩ q4 Jl bl1
        cases n1 with
        | zero => exact (iter_zero q4).elim
        | succ n1 =>
          obtain ⟨y1, q6, q5⟩ := iter_succ q4
          unfold m_ref02_Coded_b1 at q6
          refine gi q6 (by kernel_rfl) (fun hc1 q6 => ?_) fun hc1 q6 => ?_
          · skip
            obtain ⟨x5, q8, q6⟩ := obind_some q6
            refine gidx (k := 1) (E := (eL eB)) (fun _ => rfl) (fun _ => q8) (by kernel_rfl) ?_
            obtain ⟨x6, q9, q6⟩ := obind_some q6
            refine gco (w_ref02_Eight q9) (by kernel_rfl) ?_
            obtain ⟨x7, q10, q6⟩ := obind_some q6
            refine gcutF (k := 1) (E := eB) (fun _ => rfl) q10 (by kernel_rfl) ?_
            obtain ⟨x8, q11, q6⟩ := obind_some q6
            refine gapp (k := 1) (E := eB) (fun _ => rfl) q11 (by kernel_rfl) ?_
            obtain ⟨x9, q12, q6⟩ := obind_some q6
            refine gidx (k := 1) (E := (eL eB)) (fun _ => rfl) (fun _ => q12) (by kernel_rfl) ?_
            obtain ⟨x10, q13, q6⟩ := obind_some q6
            refine gapp (k := 1) (E := eB) (fun _ => rfl) q13 (by kernel_rfl) ?_
            have e0 := Option.some.inj q6
            subst e0
            rcases q5 with ⟨sn, e, q5'⟩ | e
            · have e := Sum.inl.inj e
              subst e
              exact gb bl1 hd (n1, _) ⟨q5', Nat.lt_succ_self _⟩ (by kernel_rfl)
            cases sum_lr e
          have e0 := Option.some.inj q6
          subst e0
          rcases q5 with ⟨sn, e, _⟩ | e
          · cases sum_rl e
          have e := Sum.inr.inj e
          subst e
          exact gb bk2 hd () trivial (by kernel_rfl)
      have e0 := Option.some.inj q2
      subst e0
      exact gb bk1 hd () trivial (by kernel_rfl)
    have e0 := Option.some.inj hm
    subst e0
    exact gend hd (by kernel_rfl)
def m_ref02_Tagged (a0 : ByteArray) (a1 : List (List UInt8)) : Option (UInt64 × UInt64) :=
  obind (m_ref02_Coded a0 a1) fun x1 =>
  obind (m_ref02_Sum x1) fun x2 =>
  some x2
theorem w_ref02_Tagged {a0 : ByteArray} {a1 : List (List UInt8)} {r : UInt64 × UInt64} (hm : m_ref02_Tagged a0 a1 = some r) : Sf prog 63 [.d (.s a0), sl (eL eB) a1] (ag (e_a2_eU r)) :=
  sp call63 func63 rfl ntmps63 rfl fun D0 As η0 m0 hd => by
    unfold m_ref02_Tagged at hm
    obtain ⟨x1, q1, hm⟩ := obind_some hm
    refine gco (w_ref02_Coded q1) (by kernel_rfl) ?_
    obtain ⟨x2, q2, hm⟩ := obind_some hm
    refine gco (w_ref02_Sum q2) (by kernel_rfl) ?_
    have e0 := Option.some.inj hm
    subst e0
    exact gend hd (by kernel_rfl)
theorem v_ref02_Tagged {m : Mem} {As : List Ow} {w : World} {a0 : ByteArray} {a1 : List (List UInt8)} {a1v0 : Value} {r : UInt64 × UInt64} (S : St m As w) (a1h0 : SlR m a1v0 a1) (hm : m_ref02_Tagged a0 a1 = some r) :
    CallsR prog 63 #[vS a0, a1v0] w fun v w' => ∃ (M : Mem), m ≤ M ∧ St M (As) w' ∧ v = .agg #[vU r.1, vU r.2] := by
  refine CallsR.mono ((w_ref02_Tagged hm).2 none0 m As w [vS a0, a1v0] (.cons (.d (.s _)) (.cons (.d (Br.toS (Br.sl Br.b) a1h0)) .nil)) (fun n h => absurd rfl h) S) ?_
  rintro v w' ⟨M, η', r', obs', n1, hle, _, ⟨rfl, rfl, rfl⟩, hdom, hR, S'⟩
  obtain ⟨c0, rfl, g0⟩ := Br.ofA b_a2_eU hR
  obtain rfl := rep_arr2_UInt64 g0
  exact ⟨M, hle, S', rfl⟩
def m_ref08_Leaf (a0 : List UInt8) : Option (UInt64 × UInt64) :=
  obind (m_ref02_Tagged (⟨#[108, 101, 97, 102]⟩ : ByteArray) ([a0] : List (List UInt8))) fun x1 =>
  some x1
theorem w_ref08_Leaf {a0 : List UInt8} {r : UInt64 × UInt64} (hm : m_ref08_Leaf a0 = some r) : Sf prog 29 [sl eB a0] (ag (e_a2_eU r)) :=
  sp call29 func29 rfl ntmps29 rfl fun D0 As η0 m0 hd => by
    unfold m_ref08_Leaf at hm
    refine glitF (k := 1) (eL eB) ([a0] : List (List UInt8)) (fun _ => rfl) (by kernel_rfl) ?_
    obtain ⟨x1, q1, hm⟩ := obind_some hm
    refine gc (fun _ => w_ref02_Tagged q1) (by kernel_rfl) ?_
    have e0 := Option.some.inj hm
    subst e0
    exact gend hd (by kernel_rfl)
def m_ref24_Leaves_b2 (a0 : g_api_Log) (a1 : Int) (s1 : (List (UInt64 × UInt64)) × Int) : Option (((List (UInt64 × UInt64)) × Int) ⊕ ((List (UInt64 × UInt64)))) :=
  if (decide (s1.2 < (a0.L.length : Int))) = true then
    obind (
      obind (gu (a1 == 1) (m_ref24_hidden a0 s1.2)) fun x6 =>
      if ((a1 == 1) && x6) = true then
        obind (app 1 ([] : List UInt8) ([0] : List UInt8)) fun x7 =>
        some x7
      else
      some ([] : List UInt8)
    ) fun x5 =>
    obind (idx a0.L s1.2) fun x8 =>
    obind (app 1 x5 x8.Body) fun x9 =>
    obind (m_ref08_Leaf x9) fun x10 =>
    obind (app 16 s1.1 ([x10] : List (UInt64 × UInt64))) fun x11 =>
    some (.inl (x11, (w64 (s1.2 + 1))))
  else
  some (.inr s1.1)
def m_ref24_Leaves (a0 : g_api_Log) (a1 : Int) : Option ((List (UInt64 × UInt64)) × Int) :=
  obind (m_ref24_Check a0) fun x1 =>
  if (x1 != 0) = true then
    some (([] : List (UInt64 × UInt64)), x1)
  else
  if ((a1 != 0) && (a1 != 1)) = true then
    some (([] : List (UInt64 × UInt64)), 240)
  else
  obind (
    obind (iter (m_ref24_Leaves_b2 a0 a1) FUEL (([] : List (UInt64 × UInt64)), 0)) fun x3 =>
    some x3
  ) fun x2 =>
  some (x2, 0)
theorem w_ref24_Leaves {a0 : g_api_Log} {a1 : Int} {r : (List (UInt64 × UInt64)) × Int} (hm : m_ref24_Leaves a0 a1 = some r) : Sp prog 7 [ag (e_api_Log a0), .d (.i a1)] [] 0 (is (.tup [.ow 0, .d (.i r.2)]) [.row 0 2 _ e_a2_eU r.1] 1) :=
  sp call7 func7 rfl ntmps7 rfl fun D0 As η0 m0 hd => by
    unfold m_ref24_Leaves at hm
    obtain ⟨x1, q1, hm⟩ := obind_some hm
    refine gc (fun _ => w_ref24_Check q1) (by kernel_rfl) ?_
    refine gi hm (by kernel_rfl) (fun hc1 hm => ?_) fun hc1 hm => ?_
    · skip
      refine gnil e_a2_eU 4 2 (by kernel_rfl) ?_
      have e0 := Option.some.inj hm
      subst e0
      exact gend hd (by kernel_rfl)
    refine gi hm (by kernel_rfl) (fun hc2 hm => ?_) fun hc2 hm => ?_
    · skip
      refine gnil e_a2_eU 4 2 (by kernel_rfl) ?_
      have e0 := Option.some.inj hm
      subst e0
      exact gend hd (by kernel_rfl)
    obtain ⟨x2, q2, hm⟩ := obind_some hm
    obtain ⟨x3, q3, q2⟩ := obind_some q2
    refine gnilU 0 e_a2_eU 7 2 (by kernel_rfl) ?_
    refine gjU 0 (fun (_ : Unit) => ⟨[(7, .ow 1)], [(0, .row 1 2 _ e_a2_eU x2), (1, .box 0 [.d (.i a0.Id), .d (.u a0.Key), .d (.i a0.Delay), sl e_api_Leaf a0.L, sl eI a0.Hide, sl e_api_Leaf a0.Wait] 26)], [], 2⟩) (fun _ => True) (by kernel_rfl) (fun Jp bk1 => ?_) fun _ _ => ?_
    · refine gjU 0 (fun (_ : Unit) => ⟨[(7, .ow 1)], [(0, .row 1 2 _ e_a2_eU x3), (1, .box 0 [.d (.i a0.Id), .d (.u a0.Key), .d (.i a0.Delay), sl e_api_Leaf a0.L, sl eI a0.Hide, sl e_api_Leaf a0.Wait] 26)], [], 2⟩) (fun _ => True) (by kernel_rfl) (fun Jp bk2 => ?_) fun _ _ => ?_
      · refine gl hd (fun (p : Nat × ((List (UInt64 × UInt64)) × Int)) => let (p0, p_0, p_1) := p; ⟨[(1, .d (.i a1)), (2, .pb 0 0), (7, .ow 1), (8, .d (.i p_1))], [(0, .row 1 2 _ e_a2_eU p_0), (1, .box 0 [.d (.i a0.Id), .d (.u a0.Key), .d (.i a0.Delay), sl e_api_Leaf a0.L, sl eI a0.Hide, sl e_api_Leaf a0.Wait] 26)], [], 2⟩) (fun p => iter (m_ref24_Leaves_b2 a0 a1) p.1 p.2 = some x3) (fun p => p.1) (FUEL, (([] : List (UInt64 × UInt64)), 0)) q3 (by kernel_rfl) ?_
        rintro ⟨n1, s1⟩ q4 Jl bl1
        cases n1 with
        | zero => exact (iter_zero q4).elim
        | succ n1 =>
          obtain ⟨y1, q6, q5⟩ := iter_succ q4
          unfold m_ref24_Leaves_b2 at q6
          refine gi q6 (by kernel_rfl) (fun hc3 q6 => ?_) fun hc3 q6 => ?_
          · skip
            obtain ⟨x5, q8, q6⟩ := obind_some q6
            obtain ⟨x6, q9, q8⟩ := obind_some q8
            refine gcG (fun h => w_ref24_hidden (gu_t h q9)) (by kernel_rfl) ?_
            refine gj (fun (_ : Unit) => ⟨[(1, .d (.i a1)), (2, .pb 0 0), (7, .ow 1), (8, .d (.i s1.2)), (9, .ow 2)], [(0, .row 2 1 _ eB x5), (1, .row 1 2 _ e_a2_eU s1.1), (2, .box 0 [.d (.i a0.Id), .d (.u a0.Key), .d (.i a0.Delay), sl e_api_Leaf a0.L, sl eI a0.Hide, sl e_api_Leaf a0.Wait] 26)], [], 3⟩) (fun _ => True) (by kernel_rfl) (fun Jp bk3 => ?_) fun _ _ => ?_
            · refine gi q8 (by kernel_rfl) (fun hc4 q8 => ?_) fun hc4 q8 => ?_
              · refine glitF (k := 1) eB ([0] : List UInt8) (fun _ => rfl) (by kernel_rfl) ?_
                obtain ⟨x7, q10, q8⟩ := obind_some q8
                refine gapp (k := 1) (E := eB) (fun _ => rfl) q10 (by kernel_rfl) ?_
                have e0 := Option.some.inj q8
                subst e0
                exact gb bk3 hd () trivial (by kernel_rfl)
              refine gnil eB 9 1 (by kernel_rfl) ?_
              have e0 := Option.some.inj q8
              subst e0
              exact gb bk3 hd () trivial (by kernel_rfl)
            obtain ⟨x8, q11, q6⟩ := obind_some q6
            refine gidx (k := 2) (E := e_api_Leaf) (fun _ => rfl) (fun _ => q11) (by kernel_rfl) ?_
            obtain ⟨x9, q12, q6⟩ := obind_some q6
            refine gapp (k := 1) (E := eB) (fun _ => rfl) q12 (by kernel_rfl) ?_
            obtain ⟨x10, q13, q6⟩ := obind_some q6
            refine gco (w_ref08_Leaf q13) (by kernel_rfl) ?_
            refine glitF (k := 2) e_a2_eU ([x10] : List (UInt64 × UInt64)) (fun _ => rfl) (by kernel_rfl) ?_
            obtain ⟨x11, q14, q6⟩ := obind_some q6
            refine gapp (k := 2) (E := e_a2_eU) (fun _ => rfl) q14 (by kernel_rfl) ?_
            have e0 := Option.some.inj q6
            subst e0
            rcases q5 with ⟨sn, e, q5'⟩ | e
            · have e := Sum.inl.inj e
              subst e
              exact gb bl1 hd (n1, _) ⟨q5', Nat.lt_succ_self _⟩ (by kernel_rfl)
            cases sum_lr e
          have e0 := Option.some.inj q6
          subst e0
          rcases q5 with ⟨sn, e, _⟩ | e
          · cases sum_rl e
          have e := Sum.inr.inj e
          subst e
          exact gb bk2 hd () trivial (by kernel_rfl)
      have e0 := Option.some.inj q2
      subst e0
      exact gb bk1 hd () trivial (by kernel_rfl)
    have e0 := Option.some.inj hm
    subst e0
    exact gend hd (by kernel_rfl)
theorem v_ref24_Leaves {m : Mem} {As : List Ow} {w : World} {a0 : g_api_Log} {a0v3 : Value} {a0v4 : Value} {a0v5 : Value} {a1 : Int} {r : (List (UInt64 × UInt64)) × Int} (S : St m As w) (a0h3 : SlR m a0v3 a0.L) (a0h4 : SlR m a0v4 a0.Hide) (a0h5 : SlR m a0v5 a0.Wait) (hm : m_ref24_Leaves a0 a1 = some r) :
    CallsR prog 7 #[.agg #[vI a0.Id, vU a0.Key, vI a0.Delay, a0v3, a0v4, a0v5], vI a1] w fun v w' => ∃ (M : Mem), m ≤ M ∧ ∃ (rv0 : Value) (rc0 : List Value), St M ((row 2 rv0 rc0 r.1.length) :: As) w' ∧ v = .tuple #[rv0, vI r.2] ∧ RepL M rc0 r.1 := by
  refine CallsR.mono ((w_ref24_Leaves hm).2 none0 m As w [.agg #[vI a0.Id, vU a0.Key, vI a0.Delay, a0v3, a0v4, a0v5], vI a1] (.cons (Br.toA b_api_Log (mk_g_api_Log a0h3 a0h4 a0h5)) (.cons (.d (.i _)) .nil)) (fun n h => absurd rfl h) S) ?_
  rintro v w' ⟨M, η', r', obs', n1, hle, _, ⟨rfl, rfl, rfl⟩, hdom, hR, S'⟩
  obtain ⟨us, rfl, hR0⟩ := hR.tup_inv
  obtain ⟨v0, u0, rfl, q0, hR1⟩ := RelL.cons_inv hR0
  obtain ⟨v1, u1, rfl, q1, hR2⟩ := RelL.cons_inv hR1
  obtain rfl := RelL.nil_inv hR2
  obtain ⟨n0, o0⟩ := q0.ow_inv
  obtain ⟨y0, c0, k0, _, d0, _, S'⟩ := St.openRow S'
  rw [n0] at k0; obtain rfl := Option.some.inj k0
  obtain rfl := q1.i_inv
  exact ⟨M, hle, v0, c0, S', rfl, Br.ofL b_a2_eU d0⟩
def m_ref24_some (a0 : g_api_Log) (a1 : Int) (a2 : Int) : Option ((List (UInt64 × UInt64)) × Int) :=
  obind (m_ref24_Leaves a0 a1) fun x1 =>
  if (x1.2 != 0) = true then
    some (([] : List (UInt64 × UInt64)), x1.2)
  else
  if ((decide (a2 < 0)) || (decide (a2 > (x1.1.length : Int)))) = true then
    some (([] : List (UInt64 × UInt64)), 80)
  else
  if (0 : Int) ≤ a2 ∧ a2 ≤ (x1.1.length : Int) then
    some ((x1.1.take a2.toNat), 0)
  else none
theorem w_ref24_some {m : Mem} {As : List Ow} {w : World} {a0 : g_api_Log} {a0v3 : Value} {a0v4 : Value} {a0v5 : Value} {a1 : Int} {a2 : Int} {r : (List (UInt64 × UInt64)) × Int} (S : St m (As) w) (a0h3 : SlR m a0v3 a0.L) (a0h4 : SlR m a0v4 a0.Hide) (a0h5 : SlR m a0v5 a0.Wait) (hm : m_ref24_some a0 a1 a2 = some r) :
    CallsR Tryz.prog 36 #[.agg (c_api_Log a0 a0v3 a0v4 a0v5).toArray, vI a1, vI a2] w fun v w' => ∃ (M : Mem), m ≤ M ∧ ∃ (rv0 : Value) (rc0 : List Value), St M ((row 2 rv0 rc0 r.1.length) :: As) w' ∧ v = .tuple #[rv0, vI r.2] ∧ RepL M rc0 r.1 := by
 unfold m_ref24_some at hm
 have L0 := Mem.rfl' m
 refine callsR (args := [.agg (c_api_Log a0 a0v3 a0v4 a0v5).toArray, vI a1, vI a2]) func36 rfl ntmps36 (nb rfl) <| ws <| s_box S rfl fun b1 w1 S1 => ?_
 replace S1 : St _ ((bx b1 (c_api_Log a0 a0v3 a0v4 a0v5) 26) :: As) _ := S1
 clear S
 refine s_asv (v := .slice none 0 0) rfl <| s_asv (v := vI 0) rfl <| nx <| s_ld (i := 0) (cs := (c_api_Log a0 a0v3 a0v4 a0v5)) S1 rfl rfl isAgg26 sizeOf26 rfl (fun h => by cases h) <| s_mvv (v := vI a1) rfl ?_
 obtain ⟨x1, q1, hm⟩ := obind_some hm
 refine s_call call7 (v_ref24_Leaves (a0 := a0) (a1 := a1) S1 a0h3 a0h4 a0h5 q1) rfl ?_
 rintro _ w2 ⟨m1, l1, v1, c1, S2, rfl, h1⟩
 clear S1
 refine s_mvv (v := .tuple #[v1, vI x1.2]) rfl <| s_ext (i := 0) rfl rfl <| s_ext (i := 1) rfl rfl <| s_asv (v := v1) rfl <| s_asv (v := vI x1.2) rfl <| wpl_nil <| nrm <| wpc_seq <| ws <| s_mvv (v := vI x1.2) rfl <| s_neq (m := x1.2) (n := 0) rfl rfl <| wpl_nil <| nrm <| wpc_if (t := (x1.2 != 0)) rfl (fun hc1 => ?_) (fun hc1 => ?_)
 · replace hm := ifT hc1 hm
   refine ws <| s_mvv (v := vI x1.2) rfl <| s_asv (v := .slice none 0 0) rfl <| s_asv (v := vI x1.2) rfl <| wpl_nil <| nrm <| wpc_ret <| thR <| outRw fun we hpd => ?_
   replace S2 := St.pd S2 hpd
   have S3 := St.rowNil S2 2
   have h2 : RepL m1 [] ([] : List (UInt64 × UInt64)) := RepL.nil
   replace S3 : St _ ((row 2 (.slice none 0 0) [] ([] : List (UInt64 × UInt64)).length) :: (row 2 v1 c1 x1.1.length) :: (bx b1 (c_api_Log a0 a0v3 a0v4 a0v5) 26) :: As) _ := S3
   clear S2
   obtain ⟨m2, l2, S4⟩ := St.drop S3 1
   clear S3
   replace S4 : St _ ((row 2 (.slice none 0 0) [] ([] : List (UInt64 × UInt64)).length) :: (bx b1 (c_api_Log a0 a0v3 a0v4 a0v5) 26) :: As) _ := S4
   obtain ⟨m3, l3, S5⟩ := St.drop S4 1
   clear S4
   replace S5 : St _ ((row 2 (.slice none 0 0) [] ([] : List (UInt64 × UInt64)).length) :: As) _ := S5
   have e0 := Option.some.inj hm
   subst e0
   replace L0 := Mem.tr L0 (mt l1 (mt l2 l3))
   replace h2 := RepL.up (mt l2 l3) h2
   exact outR [_, _] rfl ⟨rfl, rfl, trivial⟩ ⟨_, L0, _, _, S5, rfl, h2⟩
 replace hm := ifF hc1 hm
 refine wpc_skip <| nrm <| wpc_seq <| ws <| s_mvv (v := vI a2) rfl <| s_lss (m := a2) (n := 0) rfl rfl <| s_mvv (v := vb (decide (a2 < 0))) rfl <| wpl_cut 5 [22, 23, 24, 25, 26] (fun f' w' => w' = w2 ∧ AllAt f' [(26, vb ((decide (a2 < 0)) || (decide (a2 > (x1.1.length : Int)))))]) ?_ ?_
 · rcases bool_tf (decide (a2 < 0)) with hb1 | hb1
   · exact wpl_no (d := 21) rfl rfl (cb hb1) <| wpl_no (d := 21) rfl rfl (cb hb1) <| wpl_no (d := 21) rfl rfl (cb hb1) <| wpl_no (d := 21) rfl rfl (cb hb1) <| s_pickT (cb hb1) rfl <| wpl_nil (nrm ⟨outP, rfl, congrArg Value.bool (or_t hb1), trivial⟩)
   · exact wpl_yes (d := 21) rfl rfl (cb hb1) <| s_mvv (v := vI a2) rfl <| wpl_yes (d := 21) rfl rfl (cb hb1) <| s_mvv (v := v1) rfl <| wpl_yes (d := 21) rfl rfl (cb hb1) <| s_lenO (i := 0) S2 rfl rfl underlying29 <| wpl_yes (d := 21) rfl rfl (cb hb1) <| s_gtr (m := a2) (n := (x1.1.length : Int)) rfl rfl <| s_pickF (cb hb1) rfl <| wpl_nil (nrm ⟨outP, rfl, congrArg Value.bool (or_f hb1), trivial⟩)
 rintro f1 w3 ho ⟨h3, ha⟩
 subst h3
 obtain ⟨u1, rfl⟩ := fr_of (N := 30) ho ha
 refine wpl_nil <| nrm <| wpc_if (t := ((decide (a2 < 0)) || (decide (a2 > (x1.1.length : Int))))) rfl (fun hc2 => ?_) (fun hc2 => ?_)
 · replace hm := ifT hc2 hm
   refine ws <| s_asv (v := .slice none 0 0) rfl <| s_asv (v := vI 80) rfl <| wpl_nil <| nrm <| wpc_ret <| thR <| outRw fun we hpd => ?_
   replace S2 := St.pd S2 hpd
   have S6 := St.rowNil S2 2
   have h4 : RepL m1 [] ([] : List (UInt64 × UInt64)) := RepL.nil
   replace S6 : St _ ((row 2 (.slice none 0 0) [] ([] : List (UInt64 × UInt64)).length) :: (row 2 v1 c1 x1.1.length) :: (bx b1 (c_api_Log a0 a0v3 a0v4 a0v5) 26) :: As) _ := S6
   clear S2
   obtain ⟨m4, l4, S7⟩ := St.drop S6 1
   clear S6
   replace S7 : St _ ((row 2 (.slice none 0 0) [] ([] : List (UInt64 × UInt64)).length) :: (bx b1 (c_api_Log a0 a0v3 a0v4 a0v5) 26) :: As) _ := S7
   obtain ⟨m5, l5, S8⟩ := St.drop S7 1
   clear S7
   replace S8 : St _ ((row 2 (.slice none 0 0) [] ([] : List (UInt64 × UInt64)).length) :: As) _ := S8
   have e0 := Option.some.inj hm
   subst e0
   replace L0 := Mem.tr L0 (mt l1 (mt l4 l5))
   replace h4 := RepL.up (mt l4 l5) h4
   exact outR [_, _] rfl ⟨rfl, rfl, trivial⟩ ⟨_, L0, _, _, S8, rfl, h4⟩
 replace hm := ifF hc2 hm
 refine wpc_skip <| nrm <| ws <| s_mvv (v := v1) rfl <| s_mvv (v := vI a2) rfl ?_
 obtain ⟨⟨q2, q3⟩, hm⟩ := if_some hm
 refine s_cutO (i := 0) S2 rfl rfl underlying29 sizeOf34 rfl rfl q2 q3 fun v2 S9 => ?_
 have h5 := RepL.take h1 a2.toNat
 replace S9 : St m1 ((row 2 v2 (c1.take (a2.toNat * 2)) (x1.1.take a2.toNat).length) :: (bx b1 (c_api_Log a0 a0v3 a0v4 a0v5) 26) :: As) w3 := by rw [show ((x1.1.take a2.toNat)).length = a2.toNat from by simp; omega]; exact S9
 clear S2
 refine s_asv (v := v2) rfl <| s_asv (v := vI 0) rfl <| wpl_nil <| nrm <| wpc_ret <| outRw fun we hpd => ?_
 replace S9 := St.pd S9 hpd
 obtain ⟨m6, l6, S10⟩ := St.drop S9 1
 clear S9
 replace S10 : St _ ((row 2 v2 (c1.take (a2.toNat * 2)) (x1.1.take a2.toNat).length) :: As) _ := S10
 have e0 := Option.some.inj hm
 subst e0
 replace L0 := Mem.tr L0 (mt l1 l6)
 replace h5 := RepL.up l6 h5
 exact outR [_, _] rfl ⟨rfl, rfl, trivial⟩ ⟨_, L0, _, _, S10, rfl, h5⟩
theorem s_ref24_some {a0 : g_api_Log} {a1 : Int} {a2 : Int} {r : (List (UInt64 × UInt64)) × Int} (hm : m_ref24_some a0 a1 a2 = some r) : Sp prog 36 [ag (e_api_Log a0), .d (.i a1), .d (.i a2)] [] 0 (is (.tup [.ow 0, .d (.i r.2)]) [.row 0 2 _ e_a2_eU r.1] 1) :=
  ⟨call36, fun η m As w vs hv0 hd S => by
    have S : St m As w := S
    obtain ⟨v0, u0, rfl, r0, hv1⟩ := RelL.cons_inv hv0
    obtain ⟨c0, rfl, g0⟩ := Br.ofA b_api_Log r0
    obtain ⟨z0_0, z0_1, z0_2, rfl, f0_0, f0_1, f0_2⟩ := rep_g_api_Log g0
    obtain ⟨v1, u1, rfl, r1, hv2⟩ := RelL.cons_inv hv1
    obtain rfl := r1.i_inv
    obtain ⟨v2, u2, rfl, r2, hv3⟩ := RelL.cons_inv hv2
    obtain rfl := r2.i_inv
    obtain rfl := RelL.nil_inv hv3
    refine CallsR.mono (w_ref24_some S f0_0 f0_1 f0_2 hm) ?_
    rintro v w' ⟨M, hle, y0, c0, S0, rfl, h0⟩
    exact ⟨M, (envL [y0]), _, _, _, hle, dom0 hd _, ⟨rfl, rfl, rfl⟩, envL_dom rfl, (.tup' (.cons (.ow rfl (row_one S0)) (.cons (.d (.i _)) .nil))), (St.impL S0 (sepC (Br.toR b_a2_eU rfl rfl (row_one S0) h0) fun _ h => h))⟩⟩
def m_ref08_First_b1 (a0 : Int) (s1 : Int) : Option ((Int) ⊕ (Int)) :=
  if (decide ((w64 (2 * s1)) < a0)) = true then
    some (.inl (w64 (2 * s1)))
  else
  some (.inr s1)
def m_ref08_First (a0 : Int) : Option Int :=
  obind (
    obind (iter (m_ref08_First_b1 a0) FUEL 1) fun x2 =>
    some x2
  ) fun x1 =>
  some x1
theorem w_ref08_First {a0 : Int} {r : Int} (hm : m_ref08_First a0 = some r) : Sf prog 77 [.d (.i a0)] (.d (.i r)) :=
  sp call77 func77 rfl ntmps77 rfl fun D0 As η0 m0 hd => by
    unfold m_ref08_First at hm
    obtain ⟨x1, q1, hm⟩ := obind_some hm
    obtain ⟨x2, q2, q1⟩ := obind_some q1
    refine gjU 0 (fun (_ : Unit) => ⟨[(3, .d (.i x1))], [], [], 0⟩) (fun _ => True) (by kernel_rfl) (fun Jp bk1 => ?_) fun _ _ => ?_
    · refine gjU 0 (fun (_ : Unit) => ⟨[(3, .d (.i x2))], [], [], 0⟩) (fun _ => True) (by kernel_rfl) (fun Jp bk2 => ?_) fun _ _ => ?_
      · refine gl hd (fun (p : Nat × (Int)) => let (p0, p_0) := p; ⟨[(0, .d (.i a0)), (3, .d (.i p_0))], [], [], 0⟩) (fun p => iter (m_ref08_First_b1 a0) p.1 p.2 = some x2) (fun p => p.1) (FUEL, 1) q2 (by kernel_rfl) ?_
        rintro ⟨n1, s1⟩ q3 Jl bl1
        cases n1 with
        | zero => exact (iter_zero q3).elim
        | succ n1 =>
          obtain ⟨y1, q5, q4⟩ := iter_succ q3
          unfold m_ref08_First_b1 at q5
          refine gi q5 (by kernel_rfl) (fun hc1 q5 => ?_) fun hc1 q5 => ?_
          · skip
            have e0 := Option.some.inj q5
            subst e0
            rcases q4 with ⟨sn, e, q4'⟩ | e
            · have e := Sum.inl.inj e
              subst e
              exact gb bl1 hd (n1, _) ⟨q4', Nat.lt_succ_self _⟩ (by kernel_rfl)
            cases sum_lr e
          have e0 := Option.some.inj q5
          subst e0
          rcases q4 with ⟨sn, e, _⟩ | e
          · cases sum_rl e
          have e := Sum.inr.inj e
          subst e
          exact gb bk2 hd () trivial (by kernel_rfl)
      have e0 := Option.some.inj q1
      subst e0
      exact gb bk1 hd () trivial (by kernel_rfl)
    have e0 := Option.some.inj hm
    subst e0
    exact gend hd (by kernel_rfl)
theorem v_ref08_First {m : Mem} {As : List Ow} {w : World} {a0 : Int} {r : Int} (S : St m As w) (hm : m_ref08_First a0 = some r) :
    CallsR prog 77 #[vI a0] w fun v w' => ∃ (M : Mem), m ≤ M ∧ St M (As) w' ∧ v = vI r := by
  refine CallsR.mono ((w_ref08_First hm).2 none0 m As w [vI a0] (.cons (.d (.i _)) .nil) (fun n h => absurd rfl h) S) ?_
  rintro v w' ⟨M, η', r', obs', n1, hle, _, ⟨rfl, rfl, rfl⟩, hdom, hR, S'⟩
  obtain rfl := hR.i_inv
  exact ⟨M, hle, S', rfl⟩
def m_ref02_Bytes (a0 : UInt64 × UInt64) : Option (List UInt8) :=
  obind (m_ref02_Eight a0.1) fun x1 =>
  obind (m_ref02_Eight a0.2) fun x2 =>
  obind (app 1 x1 x2) fun x3 =>
  some x3
theorem w_ref02_Bytes {a0 : UInt64 × UInt64} {r : List UInt8} (hm : m_ref02_Bytes a0 = some r) : Sp prog 86 [ag (e_a2_eU a0)] [] 0 (is (.ow 0) [.row 0 1 _ eB r] 1) :=
  sp call86 func86 rfl ntmps86 rfl fun D0 As η0 m0 hd => by
    unfold m_ref02_Bytes at hm
    obtain ⟨x1, q1, hm⟩ := obind_some hm
    refine gco (w_ref02_Eight q1) (by kernel_rfl) ?_
    obtain ⟨x2, q2, hm⟩ := obind_some hm
    refine gco (w_ref02_Eight q2) (by kernel_rfl) ?_
    obtain ⟨x3, q3, hm⟩ := obind_some hm
    refine gapp (k := 1) (E := eB) (fun _ => rfl) q3 (by kernel_rfl) ?_
    have e0 := Option.some.inj hm
    subst e0
    exact gend hd (by kernel_rfl)
def m_ref02_Pair (a0 : UInt64 × UInt64) (a1 : UInt64 × UInt64) : Option (UInt64 × UInt64) :=
  obind (m_ref02_Bytes a0) fun x1 =>
  obind (m_ref02_Bytes a1) fun x2 =>
  obind (m_ref02_Tagged (⟨#[110, 111, 100, 101]⟩ : ByteArray) ([x1, x2] : List (List UInt8))) fun x3 =>
  some x3
theorem w_ref02_Pair {a0 : UInt64 × UInt64} {a1 : UInt64 × UInt64} {r : UInt64 × UInt64} (hm : m_ref02_Pair a0 a1 = some r) : Sf prog 78 [ag (e_a2_eU a0), ag (e_a2_eU a1)] (ag (e_a2_eU r)) :=
  sp call78 func78 rfl ntmps78 rfl fun D0 As η0 m0 hd => by
    unfold m_ref02_Pair at hm
    obtain ⟨x1, q1, hm⟩ := obind_some hm
    refine gco (w_ref02_Bytes q1) (by kernel_rfl) ?_
    obtain ⟨x2, q2, hm⟩ := obind_some hm
    refine gco (w_ref02_Bytes q2) (by kernel_rfl) ?_
    refine glitV (k := 1) (eL eB) ([x1, x2] : List (List UInt8)) (fun _ => rfl) (by kernel_rfl) ?_
    obtain ⟨x3, q3, hm⟩ := obind_some hm
    refine gc (fun _ => w_ref02_Tagged q3) (by kernel_rfl) ?_
    have e0 := Option.some.inj hm
    subst e0
    exact gend hd (by kernel_rfl)
theorem v_ref02_Pair {m : Mem} {As : List Ow} {w : World} {a0 : UInt64 × UInt64} {a1 : UInt64 × UInt64} {r : UInt64 × UInt64} (S : St m As w) (hm : m_ref02_Pair a0 a1 = some r) :
    CallsR prog 78 #[.agg #[vU a0.1, vU a0.2], .agg #[vU a1.1, vU a1.2]] w fun v w' => ∃ (M : Mem), m ≤ M ∧ St M (As) w' ∧ v = .agg #[vU r.1, vU r.2] := by
  refine CallsR.mono ((w_ref02_Pair hm).2 none0 m As w [.agg #[vU a0.1, vU a0.2], .agg #[vU a1.1, vU a1.2]] (.cons (Br.toA b_a2_eU (mk_arr2_UInt64)) (.cons (Br.toA b_a2_eU (mk_arr2_UInt64)) .nil)) (fun n h => absurd rfl h) S) ?_
  rintro v w' ⟨M, η', r', obs', n1, hle, _, ⟨rfl, rfl, rfl⟩, hdom, hR, S'⟩
  obtain ⟨c0, rfl, g0⟩ := Br.ofA b_a2_eU hR
  obtain rfl := rep_arr2_UInt64 g0
  exact ⟨M, hle, S', rfl⟩
def r_ref08_Root : Nat → (List (UInt64 × UInt64)) → Option (UInt64 × UInt64)
  | 0, _ => none
  | n + 1, a0 =>
    if ((a0.length : Int) == 0) = true then
      obind (m_ref02_Tagged (⟨#[101, 109, 112, 116, 121]⟩ : ByteArray) ([] : List (List UInt8))) fun x1 =>
      some x1
    else
    if ((a0.length : Int) == 1) = true then
      obind (idx a0 0) fun x2 =>
      some x2
    else
    obind (m_ref08_First (a0.length : Int)) fun x3 =>
    obind (cut a0 0 x3) fun x4 =>
    obind (r_ref08_Root n x4) fun x5 =>
    obind (cut a0 x3 (a0.length : Int)) fun x6 =>
    obind (r_ref08_Root n x6) fun x7 =>
    obind (m_ref02_Pair x5 x7) fun x8 =>
    some x8
def m_ref08_Root (a0 : List (UInt64 × UInt64)) : Option (UInt64 × UInt64) := r_ref08_Root FUEL a0
theorem wr_ref08_Root (n : Nat) : ∀ {m : Mem} {As : List Ow} {w : World} {a0 : List (UInt64 × UInt64)} {a0v0 : Value} {r : UInt64 × UInt64} (S : St m (As) w) (a0h0 : SlR m a0v0 a0) (hm : r_ref08_Root n a0 = some r),
    CallsR Tryz.prog 37 #[a0v0] w fun v w' => ∃ (M : Mem), m ≤ M ∧ St M (As) w' ∧ v = .agg #[vU r.1, vU r.2] := by
  induction n with
  | zero => intro m As w a0 a0v0 r S a0h0 hm; cases hm
  | succ n ih =>
    intro m As w a0 a0v0 r S a0h0 hm
    unfold r_ref08_Root at hm
    have L0 := Mem.rfl' m
    refine callsR (args := [a0v0]) Tryz.func37 rfl Tryz.ntmps37 (Nat.le_of_ble_eq_true rfl) ?_
    refine wpc_seq ?_
    refine wpc_region ?_
    refine s_alloc S Tryz.zeroValue34 ?_
    intro b1 w1 S1
    replace S1 : St _ ((bx b1 [vU 0, vU 0] 34) :: As) _ := S1
    clear S
    refine wpl_nil ?_
    refine nrm ?_
    refine wpc_seq ?_
    refine wpc_seq ?_
    refine wpc_region ?_
    refine s_mvv (v := a0v0) rfl ?_
    refine s_lenR (xs := a0) rfl a0h0 Tryz.underlying29 ?_
    refine s_eql (m := (a0.length : Int)) (n := 0) rfl rfl ?_
    refine wpl_nil ?_
    refine nrm ?_
    refine wpc_if (t := ((a0.length : Int) == 0)) rfl (fun hc1 => ?_) (fun hc1 => ?_)
    · replace hm := ifT hc1 hm
      refine wpc_seq ?_
      refine wpc_region ?_
      obtain ⟨x1, q1, hm⟩ := obind_some hm
      refine s_call Tryz.call63 (v_ref02_Tagged (a0 := (⟨#[101, 109, 112, 116, 121]⟩ : ByteArray)) (a1 := ([] : List (List UInt8))) S1 (SlR.nil (a := none) (c := 0)) q1) rfl ?_
      rintro _ w2 ⟨m1, l1, S2, rfl⟩
      replace a0h0 := a0h0.up l1
      replace L0 := Mem.tr L0 l1
      clear S1
      replace S2 : St _ ((bx b1 [vU 0, vU 0] 34) :: As) _ := S2
      refine s_stL (i := 0) S2 rfl rfl rfl Tryz.sizeOf34 (oneC rfl (oneC rfl oneN)) rfl ?_
      intro w3 S3
      replace S3 : St _ ((bx b1 [vU x1.1, vU x1.2] 34) :: As) _ := S3
      clear S2
      refine wpl_nil ?_
      refine nrm ?_
      refine wpc_ret ?_
      refine thR ?_
      refine outRw ?_
      intro we hpd
      replace S3 := St.pd S3 hpd
      have SR := S3
      obtain ⟨m2, l2, S4⟩ := St.drop S3 0
      replace L0 := Mem.tr L0 l2
      replace S4 : St _ (As) _ := S4
      have e0 := Option.some.inj hm
      subst e0
      exact outR [_] rfl ⟨res_box (i := 0) (off := 0) (cs := [vU x1.1, vU x1.2]) SR rfl rfl Tryz.isAgg34 Tryz.sizeOf34 rfl (fun h => by cases h), trivial⟩ ⟨_, L0, S4, rfl⟩
    replace hm := ifF hc1 hm
    refine wpc_skip ?_
    refine nrm ?_
    refine wpc_seq ?_
    refine wpc_seq ?_
    refine wpc_region ?_
    refine s_mvv (v := a0v0) rfl ?_
    refine s_lenR (xs := a0) rfl a0h0 Tryz.underlying29 ?_
    refine s_eql (m := (a0.length : Int)) (n := 1) rfl rfl ?_
    refine wpl_nil ?_
    refine nrm ?_
    refine wpc_if (t := ((a0.length : Int) == 1)) rfl (fun hc2 => ?_) (fun hc2 => ?_)
    · replace hm := ifT hc2 hm
      refine wpc_seq ?_
      refine wpc_region ?_
      refine s_mvv (v := a0v0) rfl ?_
      obtain ⟨x2, q2, hm⟩ := obind_some hm
      refine s_idx (q := x2) (i := 0) rfl rfl a0h0 q2 Tryz.underlying29 Tryz.sizeOf34 ?_
      intro p1 c1 h1 r1
      obtain rfl := rep_arr2_UInt64 r1
      refine s_ldM (cs := [vU x2.1, vU x2.2]) S1 rfl h1 rfl Tryz.isAgg34 Tryz.sizeOf34 (fun h => by cases h) ?_
      refine s_stL (i := 0) S1 rfl rfl rfl Tryz.sizeOf34 (oneC rfl (oneC rfl oneN)) rfl ?_
      intro w4 S5
      replace S5 : St _ ((bx b1 [vU x2.1, vU x2.2] 34) :: As) _ := S5
      clear S1
      refine wpl_nil ?_
      refine nrm ?_
      refine wpc_ret ?_
      refine thR ?_
      refine outRw ?_
      intro we hpd
      replace S5 := St.pd S5 hpd
      have SR := S5
      obtain ⟨m3, l3, S6⟩ := St.drop S5 0
      replace L0 := Mem.tr L0 l3
      replace S6 : St _ (As) _ := S6
      have e0 := Option.some.inj hm
      subst e0
      exact outR [_] rfl ⟨res_box (i := 0) (off := 0) (cs := [vU x2.1, vU x2.2]) SR rfl rfl Tryz.isAgg34 Tryz.sizeOf34 rfl (fun h => by cases h), trivial⟩ ⟨_, L0, S6, rfl⟩
    replace hm := ifF hc2 hm
    refine wpc_skip ?_
    refine nrm ?_
    refine wpc_seq ?_
    refine wpc_region ?_
    refine s_mvv (v := a0v0) rfl ?_
    refine s_lenR (xs := a0) rfl a0h0 Tryz.underlying29 ?_
    obtain ⟨x3, q3, hm⟩ := obind_some hm
    refine s_call Tryz.call77 (v_ref08_First (a0 := (a0.length : Int)) S1  q3) rfl ?_
    rintro _ w5 ⟨m4, l4, S7, rfl⟩
    replace a0h0 := a0h0.up l4
    replace L0 := Mem.tr L0 l4
    clear S1
    replace S7 : St _ ((bx b1 [vU 0, vU 0] 34) :: As) _ := S7
    refine s_asv (v := vI x3) rfl ?_
    refine wpl_nil ?_
    refine nrm ?_
    refine wpc_seq ?_
    obtain ⟨x4, q4, hm⟩ := obind_some hm
    obtain ⟨x5, q5, hm⟩ := obind_some hm
    obtain ⟨x6, q6, hm⟩ := obind_some hm
    have HM : MonoAll [(17, fv a0v0), (18, fv (vI x3)), (19, fun (M : Mem) (v : Value) => ∃ (v1 : Value), v = v1 ∧ SlR M v1 x4), (20, fv (.agg #[vU x5.1, vU x5.2])), (21, fv a0v0), (22, fv (vI x3)), (23, fun (M : Mem) (v : Value) => ∃ (v3 : Value), v = v3 ∧ SlR M v3 x6)] := ⟨mv, mv, (fun _ _ _ l ⟨v1, e, h2⟩ => ⟨v1, e, h2.up l⟩), mv, mv, mv, (fun _ _ _ l ⟨v3, e, h4⟩ => ⟨v3, e, h4.up l⟩), trivial⟩
    refine wpc_flowG HM 7 mixed rfl rfl rfl [17, 18, 19, 20, 21, 22, 23] (fun L f M w => St M ((bx b1 [vU 0, vU 0] 34) :: As) w) (St.drew S7 _) ?_ ?_
    · refine ⟨?_, ?_, ?_, ?_, ?_, ?_, ?_, trivial⟩
      · exact flp HM rfl [] (fun _ _ => trivial) (fun _ _ q => s_mvv (v := a0v0) rfl q) rfl
      · exact flp HM rfl [] (fun _ _ => trivial) (fun _ _ q => s_mvv (v := vI x3) rfl q) rfl
      · intro L f3 w8 hL hd hc ⟨m7, L5, S10, K, hO⟩
        have d0 : L 0 = true := dep hd rfl
        have e1 := K 0 d0
        have d1 : L 1 = true := dep hd rfl
        have e2 := K 1 d1
        obtain ⟨u3, rfl⟩ := fr_of (N := 26) (L := [(17, a0v0), (18, vI x3)]) hO ⟨e1, e2, trivial⟩
        replace S10 : St _ ((bx b1 [vU 0, vU 0] 34) :: As) _ := S10
        replace a0h0 := a0h0.up L5
        have L6 := Mem.rfl' m7
        refine s_cut (ys := x4) (l := 0) (h := x3) rfl a0h0 Tryz.underlying29 Tryz.sizeOf34 (.inl ⟨rfl, rfl⟩) (.inr ⟨_, rfl⟩) (.inl rfl) q4 ?_
        intro v1 h2
        refine wpn ?_
        refine ⟨m7, Mem.tr L5 L6, ?_, facts_step HM rfl K L6 rfl rfl ⟨v1, rfl, h2⟩, outP⟩
        exact S10
      · intro L f4 w9 hL hd hc ⟨m8, L7, S11, K, hO⟩
        have d2 : L 2 = true := dep hd rfl
        obtain ⟨v2, e3, h3⟩ := K 2 d2
        obtain ⟨u4, rfl⟩ := fr_of (N := 26) (L := [(19, v2)]) hO ⟨e3, trivial⟩
        replace S11 : St _ ((bx b1 [vU 0, vU 0] 34) :: As) _ := S11
        replace a0h0 := a0h0.up L7
        have L8 := Mem.rfl' m8
        refine s_call Tryz.call37 (ih (a0 := x4) S11 h3 q5) rfl ?_
        rintro _ w10 ⟨m9, l5, S12, rfl⟩
        replace a0h0 := a0h0.up l5
        replace h3 := h3.up l5
        replace L8 := Mem.tr L8 l5
        clear S11
        replace S12 : St _ ((bx b1 [vU 0, vU 0] 34) :: As) _ := S12
        refine wpn ?_
        refine ⟨m9, Mem.tr L7 L8, ?_, facts_step HM rfl K L8 rfl rfl rfl, outP⟩
        exact S12
      · exact flp HM rfl [] (fun _ _ => trivial) (fun _ _ q => s_mvv (v := a0v0) rfl q) rfl
      · exact flp HM rfl [] (fun _ _ => trivial) (fun _ _ q => s_mvv (v := vI x3) rfl q) rfl
      · intro L f7 w13 hL hd hc ⟨m12, L13, S15, K, hO⟩
        have d4 : L 4 = true := dep hd rfl
        have e4 := K 4 d4
        have d5 : L 5 = true := dep hd rfl
        have e5 := K 5 d5
        obtain ⟨u7, rfl⟩ := fr_of (N := 26) (L := [(21, a0v0), (22, vI x3)]) hO ⟨e4, e5, trivial⟩
        replace S15 : St _ ((bx b1 [vU 0, vU 0] 34) :: As) _ := S15
        replace a0h0 := a0h0.up L13
        have L14 := Mem.rfl' m12
        refine s_cut (ys := x6) (l := x3) (h := (a0.length : Int)) rfl a0h0 Tryz.underlying29 Tryz.sizeOf34 (.inr ⟨_, rfl⟩) (.inl ⟨rfl, rfl⟩) (.inl rfl) q6 ?_
        intro v3 h4
        refine wpn ?_
        refine ⟨m12, Mem.tr L13 L14, ?_, facts_step HM rfl K L14 rfl rfl ⟨v3, rfl, h4⟩, outP⟩
        exact S15
    intro L f8 w14 hall ⟨m13, L15, S16, K, hO⟩
    have d3 : L 3 = true := hall 3 (by decide)
    have e6 := K 3 d3
    have d6 : L 6 = true := hall 6 (by decide)
    obtain ⟨v4, e7, h5⟩ := K 6 d6
    obtain ⟨u8, rfl⟩ := fr_of (N := 26) (L := [(20, .agg #[vU x5.1, vU x5.2]), (23, v4)]) hO ⟨e6, e7, trivial⟩
    replace S16 : St _ ((bx b1 [vU 0, vU 0] 34) :: As) _ := S16
    replace a0h0 := a0h0.up L15
    replace L0 := Mem.tr L0 L15
    clear S7
    obtain ⟨x7, q7, hm⟩ := obind_some hm
    refine s_call Tryz.call37 (ih (a0 := x6) S16 h5 q7) rfl ?_
    rintro _ w15 ⟨m14, l6, S17, rfl⟩
    replace h5 := h5.up l6
    replace L0 := Mem.tr L0 l6
    clear S16
    replace S17 : St _ ((bx b1 [vU 0, vU 0] 34) :: As) _ := S17
    obtain ⟨x8, q8, hm⟩ := obind_some hm
    refine s_call Tryz.call78 (v_ref02_Pair (a0 := x5) (a1 := x7) S17  q8) rfl ?_
    rintro _ w16 ⟨m15, l7, S18, rfl⟩
    replace L0 := Mem.tr L0 l7
    clear S17
    replace S18 : St _ ((bx b1 [vU 0, vU 0] 34) :: As) _ := S18
    refine s_stL (i := 0) S18 rfl rfl rfl Tryz.sizeOf34 (oneC rfl (oneC rfl oneN)) rfl ?_
    intro w17 S19
    replace S19 : St _ ((bx b1 [vU x8.1, vU x8.2] 34) :: As) _ := S19
    clear S18
    refine wpl_nil ?_
    refine nrm ?_
    refine wpc_ret ?_
    refine outRw ?_
    intro we hpd
    replace S19 := St.pd S19 hpd
    have SR := S19
    obtain ⟨m16, l8, S20⟩ := St.drop S19 0
    replace L0 := Mem.tr L0 l8
    replace S20 : St _ (As) _ := S20
    have e0 := Option.some.inj hm
    subst e0
    exact outR [_] rfl ⟨res_box (i := 0) (off := 0) (cs := [vU x8.1, vU x8.2]) SR rfl rfl Tryz.isAgg34 Tryz.sizeOf34 rfl (fun h => by cases h), trivial⟩ ⟨_, L0, S20, rfl⟩
theorem w_ref08_Root {m : Mem} {As : List Ow} {w : World} {a0 : List (UInt64 × UInt64)} {a0v0 : Value} {r : UInt64 × UInt64} (S : St m (As) w) (a0h0 : SlR m a0v0 a0) (hm : m_ref08_Root a0 = some r) :
    CallsR Tryz.prog 37 #[a0v0] w fun v w' => ∃ (M : Mem), m ≤ M ∧ St M (As) w' ∧ v = .agg #[vU r.1, vU r.2] := wr_ref08_Root FUEL S a0h0 hm
theorem s_ref08_Root {a0 : List (UInt64 × UInt64)} {r : UInt64 × UInt64} (hm : m_ref08_Root a0 = some r) : Sf prog 37 [sl e_a2_eU a0] (ag (e_a2_eU r)) :=
  ⟨call37, fun η m As w vs hv0 hd S => by
    have S : St m As w := S
    obtain ⟨v0, u0, rfl, r0, hv1⟩ := RelL.cons_inv hv0
    have f0 := Br.ofS b_a2_eU r0.dd
    obtain rfl := RelL.nil_inv hv1
    refine CallsR.mono (w_ref08_Root S f0 hm) ?_
    rintro v w' ⟨M, hle, S0, rfl⟩
    exact ⟨M, none0, _, _, _, hle, dom0 hd _, ⟨rfl, rfl, rfl⟩, fun n h => absurd rfl h, (Br.toA b_a2_eU (mk_arr2_UInt64)), S0⟩⟩
def m_ref03_sum (a0 : UInt64) (a1 : UInt64) (a2 : UInt64) : Option UInt64 :=
  if (decide ((a0.toNat : Int) ≥ ((a2 - a1).toNat : Int))) = true then
    some (a0 - (a2 - a1))
  else
  some (a0 + a1)
theorem w_ref03_sum {a0 : UInt64} {a1 : UInt64} {a2 : UInt64} {r : UInt64} (hm : m_ref03_sum a0 a1 a2 = some r) : Sf prog 114 [.d (.u a0), .d (.u a1), .d (.u a2)] (.d (.u r)) :=
  sp call114 func114 rfl ntmps114 rfl fun D0 As η0 m0 hd => by
    unfold m_ref03_sum at hm
    refine gi hm (by kernel_rfl) (fun hc1 hm => ?_) fun hc1 hm => ?_
    · skip
      have e0 := Option.some.inj hm
      subst e0
      exact gend hd (by kernel_rfl)
    have e0 := Option.some.inj hm
    subst e0
    exact gend hd (by kernel_rfl)
def m_ref03_times_b1 (a0 : UInt64) (a1 : UInt64) (a2 : UInt64) (s1 : UInt64 × Int) : Option ((UInt64 × Int) ⊕ (UInt64)) :=
  if (decide (s1.2 ≥ 0)) = true then
    obind (
      obind (m_ref03_sum s1.1 s1.1 a2) fun x5 =>
      if ((((shrU (a1 % a2) ((toU s1.2).toNat)) &&& 1).toNat : Int) == 1) = true then
        obind (m_ref03_sum x5 (a0 % a2) a2) fun x6 =>
        some x6
      else
      some x5
    ) fun x4 =>
    some (.inl (x4, (w64 (s1.2 - 1))))
  else
  some (.inr s1.1)
def m_ref03_times (a0 : UInt64) (a1 : UInt64) (a2 : UInt64) : Option UInt64 :=
  if a2 ≠ 0 then
    if a2 ≠ 0 then
      obind (
        obind (iter (m_ref03_times_b1 a0 a1 a2) FUEL (0, 63)) fun x2 =>
        some x2
      ) fun x1 =>
      some x1
    else none
  else none
theorem w_ref03_times {a0 : UInt64} {a1 : UInt64} {a2 : UInt64} {r : UInt64} (hm : m_ref03_times a0 a1 a2 = some r) : Sf prog 115 [.d (.u a0), .d (.u a1), .d (.u a2)] (.d (.u r)) :=
  sp call115 func115 rfl ntmps115 rfl fun D0 As η0 m0 hd => by
    unfold m_ref03_times at hm
    obtain ⟨q1, hm⟩ := if_some hm
    refine gquo (d := .u a2) (r := .u (a0 % a2)) (fun h => q1) (by kernel_rfl) ?_
    obtain ⟨q2, hm⟩ := if_some hm
    refine gquo (d := .u a2) (r := .u (a1 % a2)) (fun h => q2) (by kernel_rfl) ?_
    obtain ⟨x1, q3, hm⟩ := obind_some hm
    obtain ⟨x2, q4, q3⟩ := obind_some q3
    refine gjU 0 (fun (_ : Unit) => ⟨[(7, .d (.u x1))], [], [], 0⟩) (fun _ => True) (by kernel_rfl) (fun Jp bk1 => ?_) fun _ _ => ?_
    · refine gjU 0 (fun (_ : Unit) => ⟨[(7, .d (.u x2))], [], [], 0⟩) (fun _ => True) (by kernel_rfl) (fun Jp bk2 => ?_) fun _ _ => ?_
      · refine gl hd (fun (p : Nat × (UInt64 × Int)) => let (p0, p_0, p_1) := p; ⟨[(0, .d (.u (a0 % a2))), (1, .d (.u (a1 % a2))), (2, .d (.u a2)), (7, .d (.u p_0)), (8, .d (.i p_1))], [], [], 0⟩) (fun p => iter (m_ref03_times_b1 a0 a1 a2) p.1 p.2 = some x2) (fun p => p.1) (FUEL, (0, 63)) q4 (by kernel_rfl) ?_
        rintro ⟨n1, s1⟩ q5 Jl bl1
        cases n1 with
        | zero => exact (iter_zero q5).elim
        | succ n1 =>
          obtain ⟨y1, q7, q6⟩ := iter_succ q5
          unfold m_ref03_times_b1 at q7
          refine gi q7 (by kernel_rfl) (fun hc1 q7 => ?_) fun hc1 q7 => ?_
          · skip
            obtain ⟨x4, q9, q7⟩ := obind_some q7
            refine gjU 1 (fun (_ : Unit) => ⟨[(0, .d (.u (a0 % a2))), (1, .d (.u (a1 % a2))), (2, .d (.u a2)), (7, .d (.u x4)), (8, .d (.i s1.2))], [], [], 0⟩) (fun _ => True) (by kernel_rfl) (fun Jp bk3 => ?_) fun _ _ => ?_
            · skip
              obtain ⟨x5, q10, q9⟩ := obind_some q9
              refine gc (fun _ => w_ref03_sum q10) (by kernel_rfl) ?_
              refine gi q9 (by kernel_rfl) (fun hc2 q9 => ?_) fun hc2 q9 => ?_
              · obtain ⟨x6, q11, q9⟩ := obind_some q9
                refine gc (fun _ => w_ref03_sum q11) (by kernel_rfl) ?_
                have e0 := Option.some.inj q9
                subst e0
                exact gb bk3 hd () trivial (by kernel_rfl)
              have e0 := Option.some.inj q9
              subst e0
              exact gb bk3 hd () trivial (by kernel_rfl)
            have e0 := Option.some.inj q7
            subst e0
            rcases q6 with ⟨sn, e, q6'⟩ | e
            · have e := Sum.inl.inj e
              subst e
              exact gb bl1 hd (n1, _) ⟨q6', Nat.lt_succ_self _⟩ (by kernel_rfl)
            cases sum_lr e
          have e0 := Option.some.inj q7
          subst e0
          rcases q6 with ⟨sn, e, _⟩ | e
          · cases sum_rl e
          have e := Sum.inr.inj e
          subst e
          exact gb bk2 hd () trivial (by kernel_rfl)
      have e0 := Option.some.inj q3
      subst e0
      exact gb bk1 hd () trivial (by kernel_rfl)
    have e0 := Option.some.inj hm
    subst e0
    exact gend hd (by kernel_rfl)
def m_ref03_power_b1 (a0 : UInt64) (a1 : UInt64) (a2 : UInt64) (s1 : UInt64 × Int) : Option ((UInt64 × Int) ⊕ (UInt64)) :=
  if (decide (s1.2 ≥ 0)) = true then
    obind (
      obind (m_ref03_times s1.1 s1.1 a2) fun x5 =>
      if ((((shrU a1 ((toU s1.2).toNat)) &&& 1).toNat : Int) == 1) = true then
        obind (m_ref03_times x5 a0 a2) fun x6 =>
        some x6
      else
      some x5
    ) fun x4 =>
    some (.inl (x4, (w64 (s1.2 - 1))))
  else
  some (.inr s1.1)
def m_ref03_power (a0 : UInt64) (a1 : UInt64) (a2 : UInt64) : Option UInt64 :=
  obind (
    obind (iter (m_ref03_power_b1 a0 a1 a2) FUEL (1, 63)) fun x2 =>
    some x2
  ) fun x1 =>
  some x1
theorem w_ref03_power {a0 : UInt64} {a1 : UInt64} {a2 : UInt64} {r : UInt64} (hm : m_ref03_power a0 a1 a2 = some r) : Sf prog 113 [.d (.u a0), .d (.u a1), .d (.u a2)] (.d (.u r)) :=
  sp call113 func113 rfl ntmps113 rfl fun D0 As η0 m0 hd => by
    unfold m_ref03_power at hm
    obtain ⟨x1, q1, hm⟩ := obind_some hm
    obtain ⟨x2, q2, q1⟩ := obind_some q1
    refine gjU 0 (fun (_ : Unit) => ⟨[(7, .d (.u x1))], [], [], 0⟩) (fun _ => True) (by kernel_rfl) (fun Jp bk1 => ?_) fun _ _ => ?_
    · refine gjU 0 (fun (_ : Unit) => ⟨[(7, .d (.u x2))], [], [], 0⟩) (fun _ => True) (by kernel_rfl) (fun Jp bk2 => ?_) fun _ _ => ?_
      · refine gl hd (fun (p : Nat × (UInt64 × Int)) => let (p0, p_0, p_1) := p; ⟨[(0, .d (.u a0)), (1, .d (.u a1)), (2, .d (.u a2)), (7, .d (.u p_0)), (8, .d (.i p_1))], [], [], 0⟩) (fun p => iter (m_ref03_power_b1 a0 a1 a2) p.1 p.2 = some x2) (fun p => p.1) (FUEL, (1, 63)) q2 (by kernel_rfl) ?_
        rintro ⟨n1, s1⟩ q3 Jl bl1
        cases n1 with
        | zero => exact (iter_zero q3).elim
        | succ n1 =>
          obtain ⟨y1, q5, q4⟩ := iter_succ q3
          unfold m_ref03_power_b1 at q5
          refine gi q5 (by kernel_rfl) (fun hc1 q5 => ?_) fun hc1 q5 => ?_
          · skip
            obtain ⟨x4, q7, q5⟩ := obind_some q5
            refine gjU 1 (fun (_ : Unit) => ⟨[(0, .d (.u a0)), (1, .d (.u a1)), (2, .d (.u a2)), (7, .d (.u x4)), (8, .d (.i s1.2))], [], [], 0⟩) (fun _ => True) (by kernel_rfl) (fun Jp bk3 => ?_) fun _ _ => ?_
            · skip
              obtain ⟨x5, q8, q7⟩ := obind_some q7
              refine gc (fun _ => w_ref03_times q8) (by kernel_rfl) ?_
              refine gi q7 (by kernel_rfl) (fun hc2 q7 => ?_) fun hc2 q7 => ?_
              · obtain ⟨x6, q9, q7⟩ := obind_some q7
                refine gc (fun _ => w_ref03_times q9) (by kernel_rfl) ?_
                have e0 := Option.some.inj q7
                subst e0
                exact gb bk3 hd () trivial (by kernel_rfl)
              have e0 := Option.some.inj q7
              subst e0
              exact gb bk3 hd () trivial (by kernel_rfl)
            have e0 := Option.some.inj q5
            subst e0
            rcases q4 with ⟨sn, e, q4'⟩ | e
            · have e := Sum.inl.inj e
              subst e
              exact gb bl1 hd (n1, _) ⟨q4', Nat.lt_succ_self _⟩ (by kernel_rfl)
            cases sum_lr e
          have e0 := Option.some.inj q5
          subst e0
          rcases q4 with ⟨sn, e, _⟩ | e
          · cases sum_rl e
          have e := Sum.inr.inj e
          subst e
          exact gb bk2 hd () trivial (by kernel_rfl)
      have e0 := Option.some.inj q1
      subst e0
      exact gb bk1 hd () trivial (by kernel_rfl)
    have e0 := Option.some.inj hm
    subst e0
    exact gend hd (by kernel_rfl)
def m_ref03_Base (a0 : UInt64) : Option UInt64 :=
  obind (m_ref03_power 4 a0 2305843009213691579) fun x1 =>
  some x1
theorem w_ref03_Base {a0 : UInt64} {r : UInt64} (hm : m_ref03_Base a0 = some r) : Sf prog 83 [.d (.u a0)] (.d (.u r)) :=
  sp call83 func83 rfl ntmps83 rfl fun D0 As η0 m0 hd => by
    unfold m_ref03_Base at hm
    obtain ⟨x1, q1, hm⟩ := obind_some hm
    refine gc (fun _ => w_ref03_power q1) (by kernel_rfl) ?_
    have e0 := Option.some.inj hm
    subst e0
    exact gend hd (by kernel_rfl)
def m_ref04_right (a0 : UInt64) : Option Bool :=
  bnd (((decide ((a0.toNat : Int) ≥ 1)) && (decide ((a0.toNat : Int) < 1152921504606845789)))) fun x1 =>
  some x1
theorem w_ref04_right {a0 : UInt64} {r : Bool} (hm : m_ref04_right a0 = some r) : Sf prog 111 [.d (.u a0)] (.d (.t r)) :=
  sp call111 func111 rfl ntmps111 rfl fun D0 As η0 m0 hd => by
    unfold m_ref04_right at hm
    have hm := bnd_is hm
    let x1 : Bool := (((decide ((a0.toNat : Int) ≥ 1)) && (decide ((a0.toNat : Int) < 1152921504606845789))))
    have e0 := Option.some.inj hm
    subst e0
    exact gend hd (by kernel_rfl)
def m_ref04_Public (a0 : UInt64) : Option (UInt64 × Int) :=
  obind (m_ref04_right a0) fun x1 =>
  if (!x1) = true then
    some (0, 1)
  else
  obind (m_ref03_Base a0) fun x2 =>
  some (x2, 0)
theorem w_ref04_Public {a0 : UInt64} {r : UInt64 × Int} (hm : m_ref04_Public a0 = some r) : Sf prog 79 [.d (.u a0)] (.tup [.d (.u r.1), .d (.i r.2)]) :=
  sp call79 func79 rfl ntmps79 rfl fun D0 As η0 m0 hd => by
    unfold m_ref04_Public at hm
    obtain ⟨x1, q1, hm⟩ := obind_some hm
    refine gc (fun _ => w_ref04_right q1) (by kernel_rfl) ?_
    refine gi hm (by kernel_rfl) (fun hc1 hm => ?_) fun hc1 hm => ?_
    · skip
      have e0 := Option.some.inj hm
      subst e0
      exact gend hd (by kernel_rfl)
    obtain ⟨x2, q2, hm⟩ := obind_some hm
    refine gc (fun _ => w_ref03_Base q2) (by kernel_rfl) ?_
    have e0 := Option.some.inj hm
    subst e0
    exact gend hd (by kernel_rfl)
def m_ref02_plus (a0 : UInt64) (a1 : UInt64) (a2 : UInt64) : Option UInt64 :=
  if (decide ((a0.toNat : Int) ≥ ((a2 - a1).toNat : Int))) = true then
    some (a0 - (a2 - a1))
  else
  some (a0 + a1)
theorem w_ref02_plus {a0 : UInt64} {a1 : UInt64} {a2 : UInt64} {r : UInt64} (hm : m_ref02_plus a0 a1 a2 = some r) : Sf prog 112 [.d (.u a0), .d (.u a1), .d (.u a2)] (.d (.u r)) :=
  sp call112 func112 rfl ntmps112 rfl fun D0 As η0 m0 hd => by
    unfold m_ref02_plus at hm
    refine gi hm (by kernel_rfl) (fun hc1 hm => ?_) fun hc1 hm => ?_
    · skip
      have e0 := Option.some.inj hm
      subst e0
      exact gend hd (by kernel_rfl)
    have e0 := Option.some.inj hm
    subst e0
    exact gend hd (by kernel_rfl)
def m_ref02_Num_b2 (a1 : UInt64) (s1 : UInt64 × Int) : Option ((UInt64 × Int) ⊕ (UInt64)) :=
  if (decide (s1.2 < 61)) = true then
    obind (m_ref02_plus s1.1 s1.1 a1) fun x4 =>
    some (.inl (x4, (w64 (s1.2 + 1))))
  else
  some (.inr s1.1)
def m_ref02_Num (a0 : UInt64 × UInt64) (a1 : UInt64) : Option UInt64 :=
  if ((a1.toNat : Int) == 0) = true then
    some 0
  else
  if a1 ≠ 0 then
    obind (
      obind (iter (m_ref02_Num_b2 a1) FUEL ((a0.1 % a1), 0)) fun x2 =>
      some x2
    ) fun x1 =>
    if a1 ≠ 0 then
      obind (m_ref02_plus x1 (a0.2 % a1) a1) fun x5 =>
      some x5
    else none
  else none
theorem w_ref02_Num {a0 : UInt64 × UInt64} {a1 : UInt64} {r : UInt64} (hm : m_ref02_Num a0 a1 = some r) : Sf prog 80 [ag (e_a2_eU a0), .d (.u a1)] (.d (.u r)) :=
  sp call80 func80 rfl ntmps80 rfl fun D0 As η0 m0 hd => by
    unfold m_ref02_Num at hm
    refine gi hm (by kernel_rfl) (fun hc1 hm => ?_) fun hc1 hm => ?_
    · skip
      have e0 := Option.some.inj hm
      subst e0
      exact gend hd (by kernel_rfl)
    obtain ⟨q1, hm⟩ := if_some hm
    refine gquo (d := .u a1) (r := .u (a0.1 % a1)) (fun h => q1) (by kernel_rfl) ?_
    obtain ⟨x1, q2, hm⟩ := obind_some hm
    obtain ⟨x2, q3, q2⟩ := obind_some q2
    refine gjU 0 (fun (_ : Unit) => ⟨[(1, .d (.u a1)), (2, .pb 0 0), (5, .d (.u x1))], [(0, .box 0 [.d (.u a0.1), .d (.u a0.2)] 34)], [], 1⟩) (fun _ => True) (by kernel_rfl) (fun Jp bk1 => ?_) fun _ _ => ?_
    · refine gjU 0 (fun (_ : Unit) => ⟨[(1, .d (.u a1)), (2, .pb 0 0), (5, .d (.u x2))], [(0, .box 0 [.d (.u a0.1), .d (.u a0.2)] 34)], [], 1⟩) (fun _ => True) (by kernel_rfl) (fun Jp bk2 => ?_) fun _ _ => ?_
      · refine gl hd (fun (p : Nat × (UInt64 × Int)) => let (p0, p_0, p_1) := p; ⟨[(1, .d (.u a1)), (2, .pb 0 0), (5, .d (.u p_0)), (6, .d (.i p_1))], [(0, .box 0 [.d (.u a0.1), .d (.u a0.2)] 34)], [], 1⟩) (fun p => iter (m_ref02_Num_b2 a1) p.1 p.2 = some x2) (fun p => p.1) (FUEL, ((a0.1 % a1), 0)) q3 (by kernel_rfl) ?_
        rintro ⟨n1, s1⟩ q4 Jl bl1
        cases n1 with
        | zero => exact (iter_zero q4).elim
        | succ n1 =>
          obtain ⟨y1, q6, q5⟩ := iter_succ q4
          unfold m_ref02_Num_b2 at q6
          refine gi q6 (by kernel_rfl) (fun hc2 q6 => ?_) fun hc2 q6 => ?_
          · skip
            obtain ⟨x4, q8, q6⟩ := obind_some q6
            refine gc (fun _ => w_ref02_plus q8) (by kernel_rfl) ?_
            have e0 := Option.some.inj q6
            subst e0
            rcases q5 with ⟨sn, e, q5'⟩ | e
            · have e := Sum.inl.inj e
              subst e
              exact gb bl1 hd (n1, _) ⟨q5', Nat.lt_succ_self _⟩ (by kernel_rfl)
            cases sum_lr e
          have e0 := Option.some.inj q6
          subst e0
          rcases q5 with ⟨sn, e, _⟩ | e
          · cases sum_rl e
          have e := Sum.inr.inj e
          subst e
          exact gb bk2 hd () trivial (by kernel_rfl)
      have e0 := Option.some.inj q2
      subst e0
      exact gb bk1 hd () trivial (by kernel_rfl)
    obtain ⟨q9, hm⟩ := if_some hm
    refine gquo (d := .u a1) (r := .u (a0.2 % a1)) (fun h => q9) (by kernel_rfl) ?_
    obtain ⟨x5, q10, hm⟩ := obind_some hm
    refine gc (fun _ => w_ref02_plus q10) (by kernel_rfl) ?_
    have e0 := Option.some.inj hm
    subst e0
    exact gend hd (by kernel_rfl)
def m_ref04_Eight_b1  (s1 : UInt64 × Int × (List UInt8)) : Option ((UInt64 × Int × (List UInt8)) ⊕ ((List UInt8))) :=
  if (decide (s1.2.1 ≥ 0)) = true then
    obind (idx s1.2.2 s1.2.1) fun x4 =>
    bnd (s1.2.2.set s1.2.1.toNat (toB ((s1.1 % 256).toNat : Int))) fun x5 =>
    some (.inl ((s1.1 / 256), (w64 (s1.2.1 - 1)), x5))
  else
  some (.inr s1.2.2)
def m_ref04_Eight (a0 : UInt64) : Option (List UInt8) :=
  obind (
    obind (iter m_ref04_Eight_b1 FUEL (a0, 7, (List.replicate 8 (0 : UInt8)))) fun x2 =>
    some x2
  ) fun x1 =>
  some x1
theorem w_ref04_Eight {m : Mem} {As : List Ow} {w : World} {a0 : UInt64} {r : List UInt8} (S : St m (As) w) (hm : m_ref04_Eight a0 = some r) :
    CallsR Tryz.prog 81 #[vU a0] w fun v w' => ∃ (M : Mem), m ≤ M ∧ ∃ (rv0 : Value) (rc0 : List Value), St M ((row 1 rv0 rc0 r.length) :: As) w' ∧ v = rv0 ∧ RepL M rc0 r := by
 unfold m_ref04_Eight at hm
 have L0 := Mem.rfl' m
 refine callsR (args := [vU a0]) func81 rfl ntmps81 (nb rfl) <| ws <| s_asv (v := .slice none 0 0) rfl <| nx <| s_mk1 (k := 8) (x0 := (0 : UInt8)) (bytes := 1) (ti := Tryz.t5) S rfl rfl ⟨by decide, by decide, by decide⟩ underlying51 type5 rfl rfl rfl rfl rfl fun v1 c1 w1 S1 h1 => ?_
 replace S1 : St _ ((row 1 v1 c1 (List.replicate 8 (0 : UInt8)).length) :: As) _ := S1
 clear S
 refine s_asv (v := v1) rfl <| wpl_nil <| nrm ?_
 obtain ⟨x1, q1, hm⟩ := obind_some hm
 have L1 := Mem.rfl' m
 refine wpc_seq <| wpc_join [0, 4, 6, 7, 8, 9, 10, 11, 12, 13, 14, 15, 16, 17] (fun f' w' => ∃ (M1 : Mem) (c2 : List Value), m ≤ M1 ∧ St M1 ((row 1 v1 c2 x1.length) :: As) w' ∧ RepL M1 c2 x1 ∧ AllAt f' []) ?_ ?_
 · refine ws <| s_asv (v := vI 7) rfl <| wpl_nil <| nrm ?_
   obtain ⟨x2, q2, q1⟩ := obind_some q1
   have L2 := Mem.rfl' m
   refine wpc_join [0, 4, 6, 7, 8, 9, 10, 11, 12, 13, 14, 15, 16, 17] (fun f' w' => ∃ (M2 : Mem) (c4 : List Value), m ≤ M2 ∧ St M2 ((row 1 v1 c4 x2.length) :: As) w' ∧ RepL M2 c4 x2 ∧ AllAt f' []) ?_ ?_
   · refine wpc_block <| wpc_rounds [0, 4, 6, 7, 8, 9, 10, 11, 12, 13, 14, 15, 16, 17] (fun n1 f' w' => ∃ (s1 : UInt64 × Int × (List UInt8)) (m2 : Mem) (c3 : List Value), iter m_ref04_Eight_b1 n1 s1 = some x2 ∧ m ≤ m2 ∧ St m2 ((row 1 v1 c3 s1.2.2.length) :: As) w' ∧ RepL m2 c3 s1.2.2 ∧ AllAt f' [(0, vU s1.1), (4, vI s1.2.1)]) FUEL ⟨(a0, 7, (List.replicate 8 (0 : UInt8))), m, _, q2, L2, S1, h1, ⟨rfl, rfl, trivial⟩⟩ ?_
     rintro n1 f1 w2 ho ⟨s1, m1, c3, q3, L4, S2, h3, ha⟩
     obtain ⟨u1, rfl⟩ := fr_of (N := 19) ho ha
     clear ho ha
     have L3 := Mem.rfl' m1
     clear S1
     cases n1 with
     | zero => exact (iter_zero q3).elim
     | succ n1 =>
      obtain ⟨y1, q5, q4⟩ := iter_succ q3
      unfold m_ref04_Eight_b1 at q5
      refine wpc_seq <| ws <| s_mvv (v := vI s1.2.1) rfl <| s_geq (m := s1.2.1) (n := 0) rfl rfl <| wpl_nil <| nrm <| wpc_if (t := (decide (s1.2.1 ≥ 0))) rfl (fun hc1 => ?_) (fun hc1 => ?_)
      · replace q5 := ifT hc1 q5
        refine wpc_skip <| nrm <| wpc_seq <| wpc_block <| ws <| s_mvv (v := v1) rfl <| s_mvv (v := vI s1.2.1) rfl <| s_mvv (v := vU s1.1) rfl <| s_remU (m := s1.1) (n := 256) rfl rfl (by decide) <| s_convB rfl underlying22 underlying5 ?_
        obtain ⟨x4, q7, q5⟩ := obind_some q5
        refine s_idxO (i := 0) (j := s1.2.1) S2 rfl rfl rfl (idx_rng q7).1 (idx_rng q7).2 underlying51 sizeOf5 fun p1 h5 => ?_
        obtain ⟨x5, q8, q5⟩ := bnd_eq q5
        refine s_stOR (i := 0) (j := s1.2.1) (z := (toB ((s1.1 % 256).toNat : Int))) S2 rfl rfl h5 rfl h3 q7 sizeOf5 (oneC rfl oneN) rfl fun w3 c5 S3 h6 => ?_
        rw [← q8] at S3 h6
        replace S3 : St _ ((row 1 v1 c5 x5.length) :: As) _ := S3
        clear S2
        refine wpl_nil <| nrm <| wpc_region <| s_mvv (v := vU s1.1) rfl <| s_quoU (m := s1.1) (n := 256) rfl rfl (by decide) <| s_asv (v := vU (s1.1 / 256)) rfl <| wpl_nil <| nrmB <| nrm <| wpc_region <| s_mvv (v := vI s1.2.1) rfl <| s_subI (m := s1.2.1) (n := 1) rfl rfl <| s_asv (v := vI (w64 (s1.2.1 - 1))) rfl <| wpl_nil <| nrm ?_
        have e0 := Option.some.inj q5
        subst e0
        rcases q4 with ⟨sn, e, q4'⟩ | e
        · cases e
          exact ⟨outP, _, Nat.lt_succ_self _, ⟨_, m1, _, q4', Mem.tr L4 L3, S3, h6, ⟨rfl, rfl, trivial⟩⟩⟩
        · cases e
      replace q5 := ifF hc1 q5
      refine wpc_exit <| thE <| thE <| exB <| nrm ?_
      have e0 := Option.some.inj q5
      subst e0
      rcases q4 with ⟨sn, e, _⟩ | e
      · cases e
      · cases e
        exact ⟨outP, m1, _, Mem.tr L4 L3, S2, h3, trivial⟩
   rintro f2 w4 ho ⟨m3, c4, l1, S4, h4, ha⟩
   obtain ⟨u2, rfl⟩ := fr_of (N := 19) ho ha
   clear ho ha S1
   have e0 := Option.some.inj q1
   subst e0
   replace L1 := Mem.tr L1 l1
   exact ⟨outP, m3, _, L1, S4, h4, trivial⟩
 rintro f3 w5 ho ⟨m4, c2, l2, S5, h2, ha⟩
 obtain ⟨u3, rfl⟩ := fr_of (N := 19) ho ha
 clear S1
 refine ws <| s_mvv (v := v1) rfl <| s_asv (v := v1) rfl <| wpl_nil <| nrm <| wpc_ret <| outRw fun we hpd => ?_
 replace S5 := St.pd S5 hpd
 have e0 := Option.some.inj hm
 subst e0
 replace L0 := Mem.tr L0 l2
 exact outR [_] rfl ⟨rfl, trivial⟩ ⟨_, L0, _, _, S5, rfl, h2⟩
theorem s_ref04_Eight {a0 : UInt64} {r : List UInt8} (hm : m_ref04_Eight a0 = some r) : Sp prog 81 [.d (.u a0)] [] 0 (is (.ow 0) [.row 0 1 _ eB r] 1) :=
  ⟨call81, fun η m As w vs hv0 hd S => by
    have S : St m As w := S
    obtain ⟨v0, u0, rfl, r0, hv1⟩ := RelL.cons_inv hv0
    obtain rfl := r0.u_inv
    obtain rfl := RelL.nil_inv hv1
    refine CallsR.mono (w_ref04_Eight S  hm) ?_
    rintro v w' ⟨M, hle, y0, c0, S0, rfl, h0⟩
    exact ⟨M, (envL [v]), _, _, _, hle, dom0 hd _, ⟨rfl, rfl, rfl⟩, envL_dom rfl, (.ow rfl (row_one S0)), (St.impL S0 (sepC (Br.toR Br.b rfl rfl (row_one S0) h0) fun _ h => h))⟩⟩
end Go.Proofs.YtojlmhmiknocmaaGreat
