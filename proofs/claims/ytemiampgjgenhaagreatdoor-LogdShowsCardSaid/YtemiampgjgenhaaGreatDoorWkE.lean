/- The walks of some functions, written by program. Conditions: none. -/
import Derived.Test.YtemiampgjgenhaaGreatDoorWkD
set_option maxHeartbeats 20000000
set_option maxRecDepth 100000
set_option linter.unusedVariables false
set_option linter.unusedSimpArgs false
namespace Go.Proofs.YtemiampgjgenhaaGreatDoor
open Go Go.Gw Tryz

def m_slices_Reverse_api_Sum_api_Sum_b1  (s1 : Int × Int × (List (UInt64 × UInt64))) : Option ((Int × Int × (List (UInt64 × UInt64))) ⊕ ((List (UInt64 × UInt64)))) :=
  if (decide (s1.1 < s1.2.1)) = true then
    obind (idx s1.2.2 s1.2.1) fun x4 =>
    obind (idx s1.2.2 s1.1) fun x5 =>
    obind (idx s1.2.2 s1.1) fun x6 =>
    bnd (s1.2.2.set s1.1.toNat x4) fun x7 =>
    obind (idx x7 s1.2.1) fun x8 =>
    bnd (x7.set s1.2.1.toNat x5) fun x9 =>
    some (.inl ((w64 (s1.1 + 1)), (w64 (s1.2.1 - 1)), x9))
  else
  some (.inr s1.2.2)

def m_slices_Reverse_api_Sum_api_Sum (a0 : List (UInt64 × UInt64)) : Option (List (UInt64 × UInt64)) :=
  bnd ((w64 ((a0.length : Int) - 1))) fun x1 =>
  obind (iter m_slices_Reverse_api_Sum_api_Sum_b1 FUEL (0, x1, a0)) fun x2 =>
  some x2

theorem w_slices_Reverse_api_Sum_api_Sum {m : Mem} {As : List Ow} {w : World} {a0 : List (UInt64 × UInt64)} {a0v0 : Value} {a0c0 : List Value} {r : List (UInt64 × UInt64)} (S : St m ((row 2 a0v0 a0c0 a0.length) :: As) w) (a0h0 : RepL m a0c0 a0) (hm : m_slices_Reverse_api_Sum_api_Sum a0 = some r) :
    CallsR Tryz.prog 70 #[a0v0] w fun v w' => ∃ (M : Mem), m ≤ M ∧ ∃ (rk0 : List Value), St M ((row 2 a0v0 rk0 r.length) :: As) w' ∧ v = .tuple #[] ∧ RepL M rk0 r := by
 unfold m_slices_Reverse_api_Sum_api_Sum at hm
 have L0 := Mem.rfl' m
 refine callsR (args := [a0v0]) func70 rfl ntmps70 (nb rfl) <| ws <| s_mvv (v := a0v0) rfl <| s_lenO (i := 0) S rfl rfl underlying43 <| s_subI (m := (a0.length : Int)) (n := 1) rfl rfl <| s_asv (v := vI 0) rfl ?_
 obtain ⟨x1, q1, hm⟩ := bnd_eq hm
 refine s_asv (v := vI x1) (congrArg (fun z => vI z) q1.symm) <| wpl_nil <| nrm ?_
 obtain ⟨x2, q2, hm⟩ := obind_some hm
 have L1 := Mem.rfl' m
 refine wpc_wrap <| wpc_join [2, 3, 7, 8, 9, 10, 11, 12, 13, 14, 15, 16, 17, 18, 19, 20, 21, 22, 23, 24, 25, 26, 27] (fun f' w' => ∃ (M1 : Mem) (c2 : List Value), m ≤ M1 ∧ St M1 ((row 2 a0v0 c2 x2.length) :: As) w' ∧ RepL M1 c2 x2 ∧ AllAt f' []) ?_ ?_
 · refine wpc_block <| wpc_rounds [2, 3, 7, 8, 9, 10, 11, 12, 13, 14, 15, 16, 17, 18, 19, 20, 21, 22, 23, 24, 25, 26, 27] (fun n1 f' w' => ∃ (s1 : Int × Int × (List (UInt64 × UInt64))) (m17 : Mem) (c1 : List Value), iter m_slices_Reverse_api_Sum_api_Sum_b1 n1 s1 = some x2 ∧ m ≤ m17 ∧ St m17 ((row 2 a0v0 c1 s1.2.2.length) :: As) w' ∧ RepL m17 c1 s1.2.2 ∧ AllAt f' [(2, vI s1.1), (3, vI s1.2.1)]) FUEL ⟨(0, x1, a0), m, _, q2, L1, S, a0h0, ⟨rfl, rfl, trivial⟩⟩ ?_
   rintro n1 f1 w1 ho ⟨s1, m1, c1, q3, L3, S1, h1, ha⟩
   obtain ⟨u1, rfl⟩ := fr_of (N := 28) ho ha
   clear ho ha
   have L2 := Mem.rfl' m1
   clear S
   cases n1 with
   | zero => exact (iter_zero q3).elim
   | succ n1 =>
    obtain ⟨y1, q5, q4⟩ := iter_succ q3
    unfold m_slices_Reverse_api_Sum_api_Sum_b1 at q5
    refine wpc_seq <| ws <| s_mvv (v := vI s1.1) rfl <| s_mvv (v := vI s1.2.1) rfl <| s_lss (m := s1.1) (n := s1.2.1) rfl rfl <| wpl_nil <| nrm <| wpc_if (t := (decide (s1.1 < s1.2.1))) rfl (fun hc1 => ?_) (fun hc1 => ?_)
    · replace q5 := ifT hc1 q5
      refine wpc_skip <| nrm <| wpc_seq <| wpc_block ?_
      obtain ⟨x4, q7, q5⟩ := obind_some q5
      obtain ⟨x5, q8, q5⟩ := obind_some q5
      obtain ⟨x6, q9, q5⟩ := obind_some q5
      obtain ⟨x7, q10, q5⟩ := bnd_eq q5
      have HM : MonoAll [(14, fv a0v0), (15, fv (vI s1.1)), (16, fv a0v0), (17, fv (vI s1.2.1)), (18, fv a0v0), (19, fv (vI s1.2.1)), (20, fun (M : Mem) (v : Value) => ∃ (p1 : Value), v = p1 ∧ PtO a0v0 p1 (s1.2.1.toNat * 2)), (21, fv (.agg #[vU x4.1, vU x4.2])), (22, fv a0v0), (23, fv (vI s1.1)), (24, fun (M : Mem) (v : Value) => ∃ (p2 : Value), v = p2 ∧ PtO a0v0 p2 (s1.1.toNat * 2)), (25, fv (.agg #[vU x5.1, vU x5.2])), (26, fun (M : Mem) (v : Value) => ∃ (p3 : Value), v = p3 ∧ PtO a0v0 p3 (s1.1.toNat * 2)), (100013, fun _ _ => True)] := ⟨mv, mv, mv, mv, mv, mv, (fun _ _ _ l ⟨p1, e, h4⟩ => ⟨p1, e, h4⟩), mv, mv, mv, (fun _ _ _ l ⟨p2, e, h8⟩ => ⟨p2, e, h8⟩), mv, (fun _ _ _ l ⟨p3, e, h12⟩ => ⟨p3, e, h12⟩), (fun _ _ _ _ h => h), trivial⟩
      refine wpc_flowG HM 14 mixed rfl rfl rfl (rg 14 13) (fun L f M w => ∃ (X1 : List Ow), ((L 13 = false → (RowS M X1 2 a0v0 s1.2.2)) ∧ (L 13 = true → (RowS M X1 2 a0v0 x7))) ∧ St M ((X1 ++ As)) w) (⟨[row 2 a0v0 c1 s1.2.2.length], ⟨fun _ => ⟨_, rfl, h1⟩, fun hx => ff hx⟩, St.drew S1 _⟩) ?_ ?_
      · refine ⟨?_, ?_, ?_, ?_, ?_, ?_, ?_, ?_, ?_, ?_, ?_, ?_, ?_, ?_, trivial⟩
        · exact flp HM rfl [] (fun _ _ => trivial) (fun _ _ q => s_mvv (v := a0v0) rfl q) rfl
        · exact flp HM rfl [] (fun _ _ => trivial) (fun _ _ q => s_mvv (v := vI s1.1) rfl q) rfl
        · exact flp HM rfl [] (fun _ _ => trivial) (fun _ _ q => s_mvv (v := a0v0) rfl q) rfl
        · exact flp HM rfl [] (fun _ _ => trivial) (fun _ _ q => s_mvv (v := vI s1.2.1) rfl q) rfl
        · exact flp HM rfl [] (fun _ _ => trivial) (fun _ _ q => s_mvv (v := a0v0) rfl q) rfl
        · exact flp HM rfl [] (fun _ _ => trivial) (fun _ _ q => s_mvv (v := vI s1.2.1) rfl q) rfl
        · intro L f8 w8 hL hd hc ⟨m8, L16, ⟨X1, C7, S8⟩, K, hO⟩
          have d13 : L 13 = false := undep hc hL rfl
          obtain ⟨u8, rfl⟩ := fr_of (N := 28) (L := [(18, _), (19, _)]) hO ⟨K 4 (dep hd rfl), K 5 (dep hd rfl), trivial⟩
          obtain ⟨c3, rfl, h3⟩ := C7.1 d13
          replace h3 : RepL _ c3 s1.2.2 := h3
          replace S8 : St _ ((row 2 a0v0 c3 s1.2.2.length) :: As) _ := S8
          have L17 := Mem.rfl' m8
          exact s_idxO (i := 0) (j := s1.2.1) S8 rfl rfl rfl (idx_rng q7).1 (idx_rng q7).2 underlying43 sizeOf36 fun p1 h4 => wpn <| ⟨m8, Mem.tr L16 L17, ⟨[row 2 a0v0 c3 s1.2.2.length], ⟨fun _ => ⟨_, rfl, h3⟩, fun hx => tf hx d13⟩, S8⟩, facts_step HM rfl K L17 rfl rfl ⟨p1, rfl, h4⟩, outP⟩
        · intro L f9 w9 hL hd hc ⟨m9, L18, ⟨X1, C8, S9⟩, K, hO⟩
          obtain ⟨v1, e3, h5⟩ := K 6 (dep hd rfl)
          have d13 : L 13 = false := undep hc hL rfl
          obtain ⟨u9, rfl⟩ := fr_of (N := 28) (L := [(20, _)]) hO ⟨e3, trivial⟩
          obtain ⟨c4, rfl, h6⟩ := C8.1 d13
          replace h6 : RepL _ c4 s1.2.2 := h6
          replace S9 : St _ ((row 2 a0v0 c4 s1.2.2.length) :: As) _ := S9
          have L19 := Mem.rfl' m9
          have e4 := rep_arr2_UInt64 (RepL.getI h6 q7)
          exact s_ldO (i := 0) (off := s1.2.1.toNat * 2) (d := [vU x4.1, vU x4.2]) S9 rfl h5 rfl e4 isAgg36 sizeOf36 (fun h => by cases h) <| wpn <| ⟨m9, Mem.tr L18 L19, ⟨[row 2 a0v0 c4 s1.2.2.length], ⟨fun _ => ⟨_, rfl, h6⟩, fun hx => tf hx d13⟩, S9⟩, facts_step HM rfl K L19 rfl rfl rfl, outP⟩
        · exact flp HM rfl [] (fun _ _ => trivial) (fun _ _ q => s_mvv (v := a0v0) rfl q) rfl
        · exact flp HM rfl [] (fun _ _ => trivial) (fun _ _ q => s_mvv (v := vI s1.1) rfl q) rfl
        · intro L f12 w12 hL hd hc ⟨m12, L24, ⟨X1, C11, S12⟩, K, hO⟩
          have d11 : L 11 = false := undep hc hL rfl
          have d13 : L 13 = false := undep hc d11 rfl
          obtain ⟨u12, rfl⟩ := fr_of (N := 28) (L := [(22, _), (23, _)]) hO ⟨K 8 (dep hd rfl), K 9 (dep hd rfl), trivial⟩
          obtain ⟨c5, rfl, h7⟩ := C11.1 d13
          replace h7 : RepL _ c5 s1.2.2 := h7
          replace S12 : St _ ((row 2 a0v0 c5 s1.2.2.length) :: As) _ := S12
          have L25 := Mem.rfl' m12
          exact s_idxO (i := 0) (j := s1.1) S12 rfl rfl rfl (idx_rng q8).1 (idx_rng q8).2 underlying43 sizeOf36 fun p2 h8 => wpn <| ⟨m12, Mem.tr L24 L25, ⟨[row 2 a0v0 c5 s1.2.2.length], ⟨fun _ => ⟨_, rfl, h7⟩, fun hx => tf hx d13⟩, S12⟩, facts_step HM rfl K L25 rfl rfl ⟨p2, rfl, h8⟩, outP⟩
        · intro L f13 w13 hL hd hc ⟨m13, L26, ⟨X1, C12, S13⟩, K, hO⟩
          obtain ⟨v2, e7, h9⟩ := K 10 (dep hd rfl)
          have d13 : L 13 = false := undep hc hL rfl
          obtain ⟨u13, rfl⟩ := fr_of (N := 28) (L := [(24, _)]) hO ⟨e7, trivial⟩
          obtain ⟨c6, rfl, h10⟩ := C12.1 d13
          replace h10 : RepL _ c6 s1.2.2 := h10
          replace S13 : St _ ((row 2 a0v0 c6 s1.2.2.length) :: As) _ := S13
          have L27 := Mem.rfl' m13
          have e8 := rep_arr2_UInt64 (RepL.getI h10 q8)
          exact s_ldO (i := 0) (off := s1.1.toNat * 2) (d := [vU x5.1, vU x5.2]) S13 rfl h9 rfl e8 isAgg36 sizeOf36 (fun h => by cases h) <| wpn <| ⟨m13, Mem.tr L26 L27, ⟨[row 2 a0v0 c6 s1.2.2.length], ⟨fun _ => ⟨_, rfl, h10⟩, fun hx => tf hx d13⟩, S13⟩, facts_step HM rfl K L27 rfl rfl rfl, outP⟩
        · intro L f14 w14 hL hd hc ⟨m14, L28, ⟨X1, C13, S14⟩, K, hO⟩
          have d13 : L 13 = false := undep hc hL rfl
          obtain ⟨u14, rfl⟩ := fr_of (N := 28) (L := [(14, _), (15, _)]) hO ⟨K 0 (dep hd rfl), K 1 (dep hd rfl), trivial⟩
          obtain ⟨c7, rfl, h11⟩ := C13.1 d13
          replace h11 : RepL _ c7 s1.2.2 := h11
          replace S14 : St _ ((row 2 a0v0 c7 s1.2.2.length) :: As) _ := S14
          have L29 := Mem.rfl' m14
          exact s_idxO (i := 0) (j := s1.1) S14 rfl rfl rfl (idx_rng q9).1 (idx_rng q9).2 underlying43 sizeOf36 fun p3 h12 => wpn <| ⟨m14, Mem.tr L28 L29, ⟨[row 2 a0v0 c7 s1.2.2.length], ⟨fun _ => ⟨_, rfl, h11⟩, fun hx => tf hx d13⟩, S14⟩, facts_step HM rfl K L29 rfl rfl ⟨p3, rfl, h12⟩, outP⟩
        · intro L f15 w15 hL hd hc ⟨m15, L30, ⟨X1, C14, S15⟩, K, hO⟩
          obtain ⟨v3, e11, h13⟩ := K 12 (dep hd rfl)
          have d13 : L 13 = false := hL
          obtain ⟨u15, rfl⟩ := fr_of (N := 28) (L := [(26, _), (21, _)]) hO ⟨e11, K 7 (dep hd rfl), trivial⟩
          obtain ⟨c8, rfl, h14⟩ := C14.1 d13
          replace h14 : RepL _ c8 s1.2.2 := h14
          replace S15 : St _ ((row 2 a0v0 c8 s1.2.2.length) :: As) _ := S15
          have L31 := Mem.rfl' m15
          refine s_stOR (i := 0) (j := s1.1) (z := x4) S15 rfl rfl h13 rfl h14 q9 sizeOf36 (oneC rfl (oneC rfl oneN)) mk_arr2_UInt64 fun w16 c9 S16 h15 => ?_
          rw [← q10] at S16 h15
          replace S16 : St _ ((row 2 a0v0 c9 x7.length) :: As) _ := S16
          clear S15
          exact wpn <| ⟨m15, Mem.tr L30 L31, ⟨[row 2 a0v0 c9 x7.length], ⟨fun hx => tf rfl hx, fun _ => ⟨_, rfl, h15⟩⟩, S16⟩, facts_none HM K L31 rfl (fun _ => trivial), outP⟩
      intro L f16 w17 hall ⟨m16, L32, ⟨X1, C15, S17⟩, K, hO⟩
      have d2 : L 2 = true := hall 2 (by decide)
      have d3 : L 3 = true := hall 3 (by decide)
      have d11 : L 11 = true := hall 11 (by decide)
      have d13 : L 13 = true := hall 13 (by decide)
      obtain ⟨u16, rfl⟩ := fr_of (N := 28) (L := [(16, _), (17, _), (25, _)]) hO ⟨K 2 d2, K 3 d3, K 11 d11, trivial⟩
      replace S17 : St _ ((X1 ++ As)) _ := S17
      obtain ⟨c10, rfl, h16⟩ := C15.2 d13
      replace h16 : RepL _ c10 x7 := h16
      replace S17 : St _ ((row 2 a0v0 c10 x7.length) :: As) _ := S17
      clear S1
      obtain ⟨x8, q11, q5⟩ := obind_some q5
      refine s_idxO (i := 0) (j := s1.2.1) S17 rfl rfl rfl (idx_rng q11).1 (idx_rng q11).2 underlying43 sizeOf36 fun p4 h17 => ?_
      obtain ⟨x9, q12, q5⟩ := bnd_eq q5
      refine s_stOR (i := 0) (j := s1.2.1) (z := x5) S17 rfl rfl h17 rfl h16 q11 sizeOf36 (oneC rfl (oneC rfl oneN)) mk_arr2_UInt64 fun w18 c11 S18 h18 => ?_
      rw [← q12] at S18 h18
      replace S18 : St _ ((row 2 a0v0 c11 x9.length) :: As) _ := S18
      clear S17
      refine wpl_nil <| nrmB <| nrm <| wpc_region <| s_mvv (v := vI s1.1) rfl <| s_addI (m := s1.1) (n := 1) rfl rfl <| s_mvv (v := vI s1.2.1) rfl <| s_subI (m := s1.2.1) (n := 1) rfl rfl <| s_asv (v := vI (w64 (s1.1 + 1))) rfl <| s_asv (v := vI (w64 (s1.2.1 - 1))) rfl <| wpl_nil <| nrm ?_
      have e0 := Option.some.inj q5
      subst e0
      rcases q4 with ⟨sn, e, q4'⟩ | e
      · cases e
        replace L2 := Mem.tr L2 L32
        exact ⟨outP, _, Nat.lt_succ_self _, ⟨_, m16, _, q4', Mem.tr L3 L2, S18, h18, ⟨rfl, rfl, trivial⟩⟩⟩
      · cases e
    replace q5 := ifF hc1 q5
    refine wpc_exit <| thE <| thE <| exB <| nrm ?_
    have e0 := Option.some.inj q5
    subst e0
    rcases q4 with ⟨sn, e, _⟩ | e
    · cases e
    · cases e
      exact ⟨outP, m1, _, Mem.tr L3 L2, S1, h1, trivial⟩
 rintro f17 w19 ho ⟨m18, c2, l1, S19, h2, ha⟩
 obtain ⟨u17, rfl⟩ := fr_of (N := 28) ho ha
 clear ho ha S
 refine outNw fun we hpd => ?_
 replace S19 := St.pd S19 hpd
 have e0 := Option.some.inj hm
 subst e0
 replace L0 := Mem.tr L0 l1
 exact outR [] rfl trivial ⟨_, L0, _, S19, rfl, h2⟩

def m_merkle_Grow_b1  (s1 : (List (UInt64 × UInt64)) × Int × (List (UInt64 × UInt64)) × Bool) : Option (((List (UInt64 × UInt64)) × Int × (List (UInt64 × UInt64)) × Bool) ⊕ ((Unit) ⊕ ((List (UInt64 × UInt64)) × Int))) :=
  if (s1.2.1 == (s1.1.length : Int)) = true then
    obind (
      if (!s1.2.2.2) = true then
        obind (m_merkle_Root s1.1) fun x4 =>
        obind (app 16 s1.2.2.1 ([x4] : List (UInt64 × UInt64))) fun x5 =>
        some x5
      else
      some s1.2.2.1
    ) fun x3 =>
    obind (m_slices_Reverse_api_Sum_api_Sum x3) fun x6 =>
    some (.inr (.inr (x6, 0)))
  else
  obind (m_merkle_half (s1.1.length : Int)) fun x7 =>
  if (decide (s1.2.1 ≤ x7)) = true then
    obind (cut s1.1 x7 (s1.1.length : Int)) fun x8 =>
    obind (m_merkle_Root x8) fun x9 =>
    obind (app 16 s1.2.2.1 ([x9] : List (UInt64 × UInt64))) fun x10 =>
    obind (cut s1.1 0 x7) fun x11 =>
    some (.inl (x11, s1.2.1, x10, s1.2.2.2))
  else
  obind (cut s1.1 0 x7) fun x12 =>
  obind (m_merkle_Root x12) fun x13 =>
  obind (app 16 s1.2.2.1 ([x13] : List (UInt64 × UInt64))) fun x14 =>
  obind (cut s1.1 x7 (s1.1.length : Int)) fun x15 =>
  some (.inl (x15, (w64 (s1.2.1 - x7)), x14, false))

def m_merkle_Grow (a0 : List (UInt64 × UInt64)) (a1 : Int) : Option ((List (UInt64 × UInt64)) × Int) :=
  if (((decide ((a0.length : Int) > 256)) || (decide (a1 < 0))) || (decide (a1 > (a0.length : Int)))) = true then
    some (([] : List (UInt64 × UInt64)), 80)
  else
  if (a1 == 0) = true then
    some (([] : List (UInt64 × UInt64)), 0)
  else
  obind (iter m_merkle_Grow_b1 FUEL (a0, a1, ([] : List (UInt64 × UInt64)), true)) fun x1 => match x1 with
  | .inr r => some r
  | .inl _ => none

theorem w_merkle_Grow {m : Mem} {As : List Ow} {w : World} {a0 : List (UInt64 × UInt64)} {a0v0 : Value} {a1 : Int} {r : (List (UInt64 × UInt64)) × Int} (S : St m (As) w) (a0h0 : SlR m a0v0 a0) (hm : m_merkle_Grow a0 a1 = some r) :
    CallsR Tryz.prog 32 #[a0v0, vI a1] w fun v w' => ∃ (M : Mem), m ≤ M ∧ ∃ (rv0 : Value) (rc0 : List Value), St M ((row 2 rv0 rc0 r.1.length) :: As) w' ∧ v = .tuple #[rv0, vI r.2] ∧ RepL M rc0 r.1 := by
 unfold m_merkle_Grow at hm
 have L0 := Mem.rfl' m
 refine callsR (args := [a0v0, vI a1]) func32 rfl ntmps32 (nb rfl) <| ws <| s_asv (v := .slice none 0 0) rfl <| s_asv (v := vI 0) rfl <| wpl_nil <| nrm <| wpc_seq <| ws <| s_mvv (v := a0v0) rfl <| s_lenR (xs := a0) rfl a0h0 underlying43 <| s_gtr (m := (a0.length : Int)) (n := 256) rfl rfl <| s_mvv (v := vb (decide ((a0.length : Int) > 256))) rfl <| wpl_cut 3 [13, 14, 15] (fun f' w' => w' = w ∧ AllAt f' [(15, vb ((decide ((a0.length : Int) > 256)) || (decide (a1 < 0))))]) ?_ ?_
 · rcases bool_tf (decide ((a0.length : Int) > 256)) with hb1 | hb1
   · exact wpl_no (d := 12) rfl rfl (cb hb1) <| wpl_no (d := 12) rfl rfl (cb hb1) <| s_pickT (cb hb1) rfl <| wpl_nil (nrm ⟨outP, rfl, congrArg Value.bool (or_t hb1), trivial⟩)
   · exact wpl_yes (d := 12) rfl rfl (cb hb1) <| s_mvv (v := vI a1) rfl <| wpl_yes (d := 12) rfl rfl (cb hb1) <| s_lss (m := a1) (n := 0) rfl rfl <| s_pickF (cb hb1) rfl <| wpl_nil (nrm ⟨outP, rfl, congrArg Value.bool (or_f hb1), trivial⟩)
 rintro f1 w1 ho ⟨h1, ha⟩
 subst h1
 obtain ⟨u1, rfl⟩ := fr_of (N := 67) ho ha
 refine s_mvv (v := vb ((decide ((a0.length : Int) > 256)) || (decide (a1 < 0)))) rfl <| wpl_cut 5 [17, 18, 19, 20, 21] (fun f' w' => w' = w1 ∧ AllAt f' [(21, vb (((decide ((a0.length : Int) > 256)) || (decide (a1 < 0))) || (decide (a1 > (a0.length : Int)))))]) ?_ ?_
 · rcases bool_tf ((decide ((a0.length : Int) > 256)) || (decide (a1 < 0))) with hb2 | hb2
   · exact wpl_no (d := 16) rfl rfl (cb hb2) <| wpl_no (d := 16) rfl rfl (cb hb2) <| wpl_no (d := 16) rfl rfl (cb hb2) <| wpl_no (d := 16) rfl rfl (cb hb2) <| s_pickT (cb hb2) rfl <| wpl_nil (nrm ⟨outP, rfl, congrArg Value.bool (or_t hb2), trivial⟩)
   · exact wpl_yes (d := 16) rfl rfl (cb hb2) <| s_mvv (v := vI a1) rfl <| wpl_yes (d := 16) rfl rfl (cb hb2) <| s_mvv (v := a0v0) rfl <| wpl_yes (d := 16) rfl rfl (cb hb2) <| s_lenR (xs := a0) rfl a0h0 underlying43 <| wpl_yes (d := 16) rfl rfl (cb hb2) <| s_gtr (m := a1) (n := (a0.length : Int)) rfl rfl <| s_pickF (cb hb2) rfl <| wpl_nil (nrm ⟨outP, rfl, congrArg Value.bool (or_f hb2), trivial⟩)
 rintro f2 w2 ho ⟨h2, ha⟩
 subst h2
 obtain ⟨u2, rfl⟩ := fr_of (N := 67) ho ha
 refine wpl_nil <| nrm <| wpc_if (t := (((decide ((a0.length : Int) > 256)) || (decide (a1 < 0))) || (decide (a1 > (a0.length : Int))))) rfl (fun hc1 => ?_) (fun hc1 => ?_)
 · replace hm := ifT hc1 hm
   refine ws <| s_asv (v := .slice none 0 0) rfl <| s_asv (v := vI 80) rfl <| wpl_nil <| nrm <| wpc_ret <| thR <| outRw fun we hpd => ?_
   replace S := St.pd S hpd
   have S1 := St.rowNil S 2
   have h3 : RepL m [] ([] : List (UInt64 × UInt64)) := RepL.nil
   replace S1 : St _ ((row 2 (.slice none 0 0) [] ([] : List (UInt64 × UInt64)).length) :: As) _ := S1
   clear S
   have e0 := Option.some.inj hm
   subst e0
   exact outR [_, _] rfl ⟨rfl, rfl, trivial⟩ ⟨_, L0, _, _, S1, rfl, h3⟩
 replace hm := ifF hc1 hm
 refine wpc_skip <| nrm <| wpc_seq <| ws <| s_mvv (v := vI a1) rfl <| s_eql (m := a1) (n := 0) rfl rfl <| wpl_nil <| nrm <| wpc_if (t := (a1 == 0)) rfl (fun hc2 => ?_) (fun hc2 => ?_)
 · replace hm := ifT hc2 hm
   refine ws <| s_asv (v := .slice none 0 0) rfl <| s_asv (v := vI 0) rfl <| wpl_nil <| nrm <| wpc_ret <| thR <| outRw fun we hpd => ?_
   replace S := St.pd S hpd
   have S2 := St.rowNil S 2
   have h4 : RepL m [] ([] : List (UInt64 × UInt64)) := RepL.nil
   replace S2 : St _ ((row 2 (.slice none 0 0) [] ([] : List (UInt64 × UInt64)).length) :: As) _ := S2
   clear S
   have e0 := Option.some.inj hm
   subst e0
   exact outR [_, _] rfl ⟨rfl, rfl, trivial⟩ ⟨_, L0, _, _, S2, rfl, h4⟩
 replace hm := ifF hc2 hm
 refine wpc_skip <| nrm <| ws <| s_asv (v := .slice none 0 0) rfl <| nx <| s_asv (v := vb true) rfl <| wpl_nil <| nrm ?_
 obtain ⟨x1, q1, hm⟩ := obind_some hm
 have L1 := Mem.rfl' m
 have S3 := St.rowNil S 2
 have h7 : RepL m [] ([] : List (UInt64 × UInt64)) := RepL.nil
 replace S3 : St _ ((row 2 (.slice none 0 0) [] ([] : List (UInt64 × UInt64)).length) :: As) _ := S3
 clear S
 refine wpc_wrap <| wpc_join [0, 1, 4, 5, 6, 7, 8, 24, 25, 26, 27, 28, 29, 30, 31, 32, 33, 34, 35, 36, 37, 38, 39, 40, 41, 42, 43, 44, 45, 46, 47, 48, 49, 50, 51, 52, 53, 54, 55, 56, 57, 58, 59, 60, 61, 62, 63, 64, 65, 66] (fun _ _ => False) ?_ ?_
 · refine wpc_block <| wpc_rounds [0, 1, 4, 5, 6, 7, 8, 24, 25, 26, 27, 28, 29, 30, 31, 32, 33, 34, 35, 36, 37, 38, 39, 40, 41, 42, 43, 44, 45, 46, 47, 48, 49, 50, 51, 52, 53, 54, 55, 56, 57, 58, 59, 60, 61, 62, 63, 64, 65, 66] (fun n1 f' w' => ∃ (s1 : (List (UInt64 × UInt64)) × Int × (List (UInt64 × UInt64)) × Bool) (m11 : Mem) (v1 : Value) (v2 : Value) (c1 : List Value), iter m_merkle_Grow_b1 n1 s1 = some x1 ∧ m ≤ m11 ∧ St m11 ((row 2 v2 c1 s1.2.2.1.length) :: As) w' ∧ SlR m11 v1 s1.1 ∧ RepL m11 c1 s1.2.2.1 ∧ AllAt f' [(0, v1), (1, vI s1.2.1), (6, v2), (7, vb s1.2.2.2)]) FUEL ⟨(a0, a1, ([] : List (UInt64 × UInt64)), true), m, _, _, _, q1, L1, S3, a0h0, h7, ⟨rfl, rfl, rfl, rfl, trivial⟩⟩ ?_
   rintro n1 f3 w3 ho ⟨s1, m1, v1, v2, c1, q2, L3, S4, h5, h6, ha⟩
   obtain ⟨u3, rfl⟩ := fr_of (N := 67) ho ha
   clear ho ha
   have L2 := Mem.rfl' m1
   clear S3
   cases n1 with
   | zero => exact (iter_zero q2).elim
   | succ n1 =>
    obtain ⟨y2, q4, q3⟩ := iter_succ q2
    unfold m_merkle_Grow_b1 at q4
    refine wpc_block <| wpc_seq <| ws <| s_mvv (v := vI s1.2.1) rfl <| s_mvv (v := v1) rfl <| s_lenR (xs := s1.1) rfl h5 underlying43 <| s_eql (m := s1.2.1) (n := (s1.1.length : Int)) rfl rfl <| wpl_nil <| nrm <| wpc_if (t := (s1.2.1 == (s1.1.length : Int))) rfl (fun hc3 => ?_) (fun hc3 => ?_)
    · replace q4 := ifT hc3 q4
      obtain ⟨x3, q6, q4⟩ := obind_some q4
      have L4 := Mem.rfl' m1
      refine wpc_seq <| wpc_join [6, 28, 29, 30, 31, 32, 33, 34] (fun f' w' => ∃ (M2 : Mem) (v3 : Value) (c2 : List Value), m1 ≤ M2 ∧ St M2 ((row 2 v3 c2 x3.length) :: As) w' ∧ RepL M2 c2 x3 ∧ AllAt f' [(6, v3)]) ?_ ?_
      · refine ws <| s_mvv (v := vb s1.2.2.2) rfl <| s_not rfl <| wpl_nil <| nrm <| wpc_if (t := (!s1.2.2.2)) rfl (fun hc4 => ?_) (fun hc4 => ?_)
        · replace q6 := ifT hc4 q6
          refine wpc_region <| s_mvv (v := v2) rfl <| s_mvv (v := v1) rfl ?_
          obtain ⟨x4, q7, q6⟩ := obind_some q6
          refine s_call call27 (w_merkle_Root (a0 := s1.1) S4 h5 q7) rfl ?_
          rintro _ w4 ⟨m2, l1, S5, rfl⟩
          clear S4
          refine s_litC (parts := [.tmp 32]) (vs := [.agg #[vU x4.1, vU x4.2]]) (cls := [[vU x4.1, vU x4.2]]) (xs := ([x4] : List (UInt64 × UInt64))) (n := 1) S5 underlying43 sizeOf36 zeroValue36 rfl ⟨rfl, trivial⟩ (RepL.cons (c := [vU x4.1, vU x4.2]) (x := x4) mk_arr2_UInt64 RepL.nil) rfl rfl rfl (by decide) (by decide) fun v4 m3 w5 l2 S6 h9 => ?_
          clear S5
          obtain ⟨x5, q8, q6⟩ := obind_some q6
          replace h6 := RepL.up (mt l1 l2) h6
          refine s_app (i := 0) (zs := x5) (bytes := 16) (ti := Tryz.t36) S6 rfl rfl h6 rfl rfl h9 q8 underlying43 type36 rfl rfl rfl rfl fun v5 c3 w6 S7 h10 => ?_
          replace S7 : St _ ((row 2 v5 c3 x5.length) :: As) _ := S7
          clear S6
          refine s_asv (v := v5) rfl <| wpl_nil <| nrm ?_
          have e0 := Option.some.inj q6
          subst e0
          replace L4 := Mem.tr L4 (mt l1 l2)
          exact ⟨outP, m3, _, _, L4, S7, h10, ⟨rfl, trivial⟩⟩
        replace q6 := ifF hc4 q6
        refine wpc_skip <| nrm ?_
        have e0 := Option.some.inj q6
        subst e0
        exact ⟨outP, m1, _, _, L4, S4, h6, ⟨rfl, trivial⟩⟩
      rintro f4 w7 ho ⟨m4, v3, c2, l3, S8, h8, ha⟩
      obtain ⟨u4, rfl⟩ := fr_of (N := 67) ho ha
      clear S4
      refine ws <| s_mvv (v := v3) rfl ?_
      obtain ⟨x6, q9, q4⟩ := obind_some q4
      refine s_call call70 (w_slices_Reverse_api_Sum_api_Sum (a0 := x3) S8 h8 q9) rfl ?_
      rintro _ w8 ⟨m5, l4, c4, S9, rfl, h11⟩
      clear S8
      refine nx <| s_mvv (v := v3) rfl <| s_asv (v := v3) rfl <| s_asv (v := vI 0) rfl <| wpl_nil <| nrm <| wpc_ret <| thR <| blR <| thR <| blR <| thR <| outRw fun we hpd => ?_
      replace S9 := St.pd S9 hpd
      cases q4
      rcases q3 with ⟨sn, e, _⟩ | e
      · cases e
      cases e
      dsimp only at hm
      have e0 := Option.some.inj hm
      subst e0
      replace L2 := Mem.tr L2 (mt l3 l4)
      exact outR [_, _] rfl ⟨rfl, rfl, trivial⟩ ⟨_, (Mem.tr L0 (Mem.tr L3 L2)), _, _, S9, rfl, h11⟩
    replace q4 := ifF hc3 q4
    refine wpc_skip <| nrm <| ws <| s_mvv (v := v1) rfl <| s_lenR (xs := s1.1) rfl h5 underlying43 ?_
    obtain ⟨x7, q10, q4⟩ := obind_some q4
    refine s_call call69 (w_merkle_half (a0 := (s1.1.length : Int)) S4  q10) rfl ?_
    rintro _ w9 ⟨m6, l5, S10, rfl⟩
    clear S4
    refine s_asv (v := vI x7) rfl <| wpl_nil <| nrm <| wpc_seq <| ws <| s_mvv (v := vI s1.2.1) rfl <| s_mvv (v := vI x7) rfl <| s_leq (m := s1.2.1) (n := x7) rfl rfl <| wpl_nil <| nrm <| wpc_if (t := (decide (s1.2.1 ≤ x7))) rfl (fun hc5 => ?_) (fun hc5 => ?_)
    · replace q4 := ifT hc5 q4
      refine ws <| s_mvv (v := v2) rfl <| s_mvv (v := v1) rfl <| s_mvv (v := vI x7) rfl ?_
      obtain ⟨x8, q11, q4⟩ := obind_some q4
      refine s_cut (ys := x8) (l := x7) (h := (s1.1.length : Int)) rfl (h5.up l5) underlying43 sizeOf36 (.inr ⟨_, rfl⟩) (.inl ⟨rfl, rfl⟩) (.inl rfl) q11 fun v6 h12 => ?_
      obtain ⟨x9, q12, q4⟩ := obind_some q4
      refine s_call call27 (w_merkle_Root (a0 := x8) S10 h12 q12) rfl ?_
      rintro _ w10 ⟨m7, l6, S11, rfl⟩
      clear S10
      refine s_litC (parts := [.tmp 48]) (vs := [.agg #[vU x9.1, vU x9.2]]) (cls := [[vU x9.1, vU x9.2]]) (xs := ([x9] : List (UInt64 × UInt64))) (n := 1) S11 underlying43 sizeOf36 zeroValue36 rfl ⟨rfl, trivial⟩ (RepL.cons (c := [vU x9.1, vU x9.2]) (x := x9) mk_arr2_UInt64 RepL.nil) rfl rfl rfl (by decide) (by decide) fun v7 m8 w11 l7 S12 h13 => ?_
      clear S11
      obtain ⟨x10, q13, q4⟩ := obind_some q4
      replace h6 := RepL.up (mt l5 (mt l6 l7)) h6
      refine s_app (i := 0) (zs := x10) (bytes := 16) (ti := Tryz.t36) S12 rfl rfl h6 rfl rfl h13 q13 underlying43 type36 rfl rfl rfl rfl fun v8 c5 w12 S13 h14 => ?_
      replace S13 : St _ ((row 2 v8 c5 x10.length) :: As) _ := S13
      clear S12
      refine s_asv (v := v8) rfl <| nx <| s_mvv (v := v1) rfl <| s_mvv (v := vI x7) rfl ?_
      obtain ⟨x11, q14, q4⟩ := obind_some q4
      replace h5 := h5.up (mt l5 (mt l6 l7))
      refine s_cut (ys := x11) (l := 0) (h := x7) rfl h5 underlying43 sizeOf36 (.inl ⟨rfl, rfl⟩) (.inr ⟨_, rfl⟩) (.inl rfl) q14 fun v9 h15 => s_asv (v := v9) rfl <| wpl_nil <| nrm <| wpc_exit <| thE <| exB <| nrm ?_
      have e0 := Option.some.inj q4
      subst e0
      rcases q3 with ⟨sn, e, q3'⟩ | e
      · cases e
        replace L2 := Mem.tr L2 (mt l5 (mt l6 l7))
        exact ⟨outP, _, Nat.lt_succ_self _, ⟨_, m8, _, _, _, q3', Mem.tr L3 L2, S13, h15, h14, ⟨rfl, rfl, rfl, rfl, trivial⟩⟩⟩
      · cases e
    replace q4 := ifF hc5 q4
    refine wpc_skip <| nrm <| ws <| s_mvv (v := v2) rfl <| s_mvv (v := v1) rfl <| s_mvv (v := vI x7) rfl ?_
    obtain ⟨x12, q15, q4⟩ := obind_some q4
    refine s_cut (ys := x12) (l := 0) (h := x7) rfl (h5.up l5) underlying43 sizeOf36 (.inl ⟨rfl, rfl⟩) (.inr ⟨_, rfl⟩) (.inl rfl) q15 fun v10 h16 => ?_
    obtain ⟨x13, q16, q4⟩ := obind_some q4
    refine s_call call27 (w_merkle_Root (a0 := x12) S10 h16 q16) rfl ?_
    rintro _ w13 ⟨m9, l8, S14, rfl⟩
    clear S10
    refine s_litC (parts := [.tmp 58]) (vs := [.agg #[vU x13.1, vU x13.2]]) (cls := [[vU x13.1, vU x13.2]]) (xs := ([x13] : List (UInt64 × UInt64))) (n := 1) S14 underlying43 sizeOf36 zeroValue36 rfl ⟨rfl, trivial⟩ (RepL.cons (c := [vU x13.1, vU x13.2]) (x := x13) mk_arr2_UInt64 RepL.nil) rfl rfl rfl (by decide) (by decide) fun v11 m10 w14 l9 S15 h17 => ?_
    clear S14
    obtain ⟨x14, q17, q4⟩ := obind_some q4
    replace h6 := RepL.up (mt l5 (mt l8 l9)) h6
    refine s_app (i := 0) (zs := x14) (bytes := 16) (ti := Tryz.t36) S15 rfl rfl h6 rfl rfl h17 q17 underlying43 type36 rfl rfl rfl rfl fun v12 c6 w15 S16 h18 => ?_
    replace S16 : St _ ((row 2 v12 c6 x14.length) :: As) _ := S16
    clear S15
    refine s_asv (v := v12) rfl <| wpl_nil <| nrm <| wpc_region <| s_mvv (v := v1) rfl <| s_mvv (v := vI x7) rfl ?_
    obtain ⟨x15, q18, q4⟩ := obind_some q4
    replace h5 := h5.up (mt l5 (mt l8 l9))
    refine s_cut (ys := x15) (l := x7) (h := (s1.1.length : Int)) rfl h5 underlying43 sizeOf36 (.inr ⟨_, rfl⟩) (.inl ⟨rfl, rfl⟩) (.inl rfl) q18 fun v13 h19 => s_mvv (v := vI s1.2.1) rfl <| s_mvv (v := vI x7) rfl <| s_subI (m := s1.2.1) (n := x7) rfl rfl <| s_asv (v := v13) rfl <| s_asv (v := vI (w64 (s1.2.1 - x7))) rfl <| s_asv (v := vb false) rfl <| wpl_nil <| nrmB <| nrm ?_
    have e0 := Option.some.inj q4
    subst e0
    rcases q3 with ⟨sn, e, q3'⟩ | e
    · cases e
      replace L2 := Mem.tr L2 (mt l5 (mt l8 l9))
      exact ⟨outP, _, Nat.lt_succ_self _, ⟨_, m10, _, _, _, q3', Mem.tr L3 L2, S16, h19, h18, ⟨rfl, rfl, rfl, rfl, trivial⟩⟩⟩
    · cases e
 rintro _ _ _ hF
 exact hF.elim

def m_logd_Grow (a0 : g_api_Log) (a1 : Int) (a2 : Int) (a3 : Int) : Option ((List (UInt64 × UInt64)) × Int) :=
  obind (m_logd_first a0 a1 a3) fun x1 =>
  if (x1.2 != 0) = true then
    some (([] : List (UInt64 × UInt64)), x1.2)
  else
  obind (m_merkle_Grow x1.1 a2) fun x2 =>
  some (x2.1, x2.2)

theorem w_logd_Grow {m : Mem} {As : List Ow} {w : World} {a0 : g_api_Log} {a0v3 : Value} {a0v4 : Value} {a0v5 : Value} {a1 : Int} {a2 : Int} {a3 : Int} {r : (List (UInt64 × UInt64)) × Int} (S : St m (As) w) (a0h3 : SlR m a0v3 a0.L) (a0h4 : SlR m a0v4 a0.Hide) (a0h5 : SlR m a0v5 a0.Wait) (hm : m_logd_Grow a0 a1 a2 a3 = some r) :
    CallsR Tryz.prog 11 #[.agg (c_api_Log a0 a0v3 a0v4 a0v5).toArray, vI a1, vI a2, vI a3] w fun v w' => ∃ (M : Mem), m ≤ M ∧ ∃ (rv0 : Value) (rc0 : List Value), St M ((row 2 rv0 rc0 r.1.length) :: As) w' ∧ v = .tuple #[rv0, vI r.2] ∧ RepL M rc0 r.1 := by
 unfold m_logd_Grow at hm
 have L0 := Mem.rfl' m
 refine callsR (args := [.agg (c_api_Log a0 a0v3 a0v4 a0v5).toArray, vI a1, vI a2, vI a3]) func11 rfl ntmps11 (nb rfl) <| ws <| s_box S rfl fun b1 w1 S1 => ?_
 replace S1 : St _ ((bx b1 (c_api_Log a0 a0v3 a0v4 a0v5) 26) :: As) _ := S1
 clear S
 refine s_asv (v := .slice none 0 0) rfl <| s_asv (v := vI 0) rfl <| nx <| s_ld (i := 0) (cs := (c_api_Log a0 a0v3 a0v4 a0v5)) S1 rfl rfl isAgg26 sizeOf26 rfl (fun h => by cases h) <| s_mvv (v := vI a1) rfl <| s_mvv (v := vI a3) rfl ?_
 obtain ⟨x1, q1, hm⟩ := obind_some hm
 refine s_call call26 (w_logd_first (a0 := a0) (a1 := a1) (a2 := a3) S1 a0h3 a0h4 a0h5 q1) rfl ?_
 rintro _ w2 ⟨m1, l1, v1, c1, S2, rfl, h1⟩
 clear S1
 refine s_mvv (v := .tuple #[v1, vI x1.2]) rfl <| s_ext (i := 0) rfl rfl <| s_ext (i := 1) rfl rfl <| s_asv (v := v1) rfl <| s_asv (v := vI x1.2) rfl <| wpl_nil <| nrm <| wpc_seq <| ws <| s_mvv (v := vI x1.2) rfl <| s_neq (m := x1.2) (n := 0) rfl rfl <| wpl_nil <| nrm <| wpc_if (t := (x1.2 != 0)) rfl (fun hc1 => ?_) (fun hc1 => ?_)
 · replace hm := ifT hc1 hm
   refine ws <| s_mvv (v := vI x1.2) rfl <| s_asv (v := .slice none 0 0) rfl <| s_asv (v := vI x1.2) rfl <| wpl_nil <| nrm <| wpc_ret <| thR <| outRw fun we hpd => ?_
   replace S2 := St.pd S2 hpd
   have S3 := St.rowNil S2 2
   have h2 : RepL m1 [] ([] : List (UInt64 × UInt64)) := RepL.nil
   replace S3 : St _ ((row 2 (.slice none 0 0) [] ([] : List (UInt64 × UInt64)).length) :: (row 2 v1 c1 x1.1.length) :: (bx b1 (c_api_Log a0 a0v3 a0v4 a0v5) 26) :: As) _ := S3
   clear S2
   obtain ⟨m2, l2, S4⟩ := St.drop S3 1
   clear S3
   replace S4 : St _ ((row 2 (.slice none 0 0) [] ([] : List (UInt64 × UInt64)).length) :: (bx b1 (c_api_Log a0 a0v3 a0v4 a0v5) 26) :: As) _ := S4
   obtain ⟨m3, l3, S5⟩ := St.drop S4 1
   clear S4
   replace S5 : St _ ((row 2 (.slice none 0 0) [] ([] : List (UInt64 × UInt64)).length) :: As) _ := S5
   have e0 := Option.some.inj hm
   subst e0
   replace L0 := Mem.tr L0 (mt l1 (mt l2 l3))
   replace h2 := RepL.up (mt l2 l3) h2
   exact outR [_, _] rfl ⟨rfl, rfl, trivial⟩ ⟨_, L0, _, _, S5, rfl, h2⟩
 replace hm := ifF hc1 hm
 refine wpc_skip <| nrm <| ws <| s_mvv (v := v1) rfl <| s_mvv (v := vI a2) rfl ?_
 obtain ⟨m4, l4, h3, S6⟩ := St.rowKeepT (i := 0) S2 rfl h1 rfl
 clear S2
 obtain ⟨x2, q2, hm⟩ := obind_some hm
 refine s_call call32 (w_merkle_Grow (a0 := x1.1) (a1 := a2) S6 h3 q2) rfl ?_
 rintro _ w3 ⟨m5, l5, v2, c2, S7, rfl, h4⟩
 clear S6
 refine s_ext (i := 0) rfl rfl <| s_ext (i := 1) rfl rfl <| s_asv (v := v2) rfl <| s_asv (v := vI x2.2) rfl <| wpl_nil <| nrm <| wpc_ret <| outRw fun we hpd => ?_
 replace S7 := St.pd S7 hpd
 obtain ⟨m6, l6, S8⟩ := St.drop S7 1
 clear S7
 replace S8 : St _ ((row 2 v2 c2 x2.1.length) :: As) _ := S8
 have e0 := Option.some.inj hm
 subst e0
 replace L0 := Mem.tr L0 (mt l1 (mt l4 (mt l5 l6)))
 replace h4 := RepL.up l6 h4
 exact outR [_, _] rfl ⟨rfl, rfl, trivial⟩ ⟨_, L0, _, _, S8, rfl, h4⟩

def m_bits_OnesCount32 (a0 : UInt32) : Option Int :=
  obind (idx str_1.data.toList ((shrW a0 24).toNat : Int)) fun x1 =>
  obind (idx str_1.data.toList (((shrW a0 16) &&& 255).toNat : Int)) fun x2 =>
  obind (idx str_1.data.toList (((shrW a0 8) &&& 255).toNat : Int)) fun x3 =>
  obind (idx str_1.data.toList ((a0 &&& 255).toNat : Int)) fun x4 =>
  bnd ((w64 ((((x1 + x2) + x3) + x4).toNat : Int))) fun x5 =>
  some x5

theorem w_bits_OnesCount32 {m : Mem} {As : List Ow} {w : World} {a0 : UInt32} {r : Int} (S : St m (As) w) (hm : m_bits_OnesCount32 a0 = some r) :
    CallsR Tryz.prog 95 #[vW a0] w fun v w' => ∃ (M : Mem), m ≤ M ∧ St M (As) w' ∧ v = vI r := by
 unfold m_bits_OnesCount32 at hm
 have L0 := Mem.rfl' m
 refine callsR (args := [vW a0]) func95 rfl ntmps95 (nb rfl) <| ws <| s_asv (v := vI 0) rfl <| wpl_nil <| nrm <| wpc_seq ?_
 obtain ⟨x1, q1, hm⟩ := obind_some hm
 obtain ⟨x2, q2, hm⟩ := obind_some hm
 obtain ⟨x3, q3, hm⟩ := obind_some hm
 obtain ⟨x4, q4, hm⟩ := obind_some hm
 have HM : MonoAll [(3, fv (vW a0)), (4, fv (vW (shrW a0 24))), (5, fv (vB x1)), (6, fv (vW a0)), (7, fv (vW (shrW a0 16))), (8, fv (vW ((shrW a0 16) &&& 255))), (9, fv (vB x2)), (10, fv (vB (x1 + x2))), (11, fv (vW a0)), (12, fv (vW (shrW a0 8))), (13, fv (vW ((shrW a0 8) &&& 255))), (14, fv (vB x3)), (15, fv (vB ((x1 + x2) + x3))), (16, fv (vW a0)), (17, fv (vW (a0 &&& 255))), (18, fv (vB x4))] := ⟨mv, mv, mv, mv, mv, mv, mv, mv, mv, mv, mv, mv, mv, mv, mv, mv, trivial⟩
 refine wpc_flowG HM 16 mixed rfl rfl rfl (rg 3 16) (fun L f M w => St M (As) w) (St.drew S _) ?_ ?_
 · refine ⟨?_, ?_, ?_, ?_, ?_, ?_, ?_, ?_, ?_, ?_, ?_, ?_, ?_, ?_, ?_, ?_, trivial⟩
   · exact flp HM rfl [] (fun _ _ => trivial) (fun _ _ q => s_mvv (v := vW a0) rfl q) rfl
   · exact flp HM rfl [(3, _)] (fun K _ => ⟨K 0 rfl, trivial⟩) (fun _ _ q => s_shrW (m := a0) (n := 24) rfl rfl (by decide) q) rfl
   · exact flp HM rfl [(4, _)] (fun K _ => ⟨K 1 rfl, trivial⟩) (fun _ _ q => s_indexS (s := str_1) (i := ((shrW a0 24).toNat : Int)) rfl rfl underlying9 q1 q) rfl
   · exact flp HM rfl [] (fun _ _ => trivial) (fun _ _ q => s_mvv (v := vW a0) rfl q) rfl
   · exact flp HM rfl [(6, _)] (fun K _ => ⟨K 3 rfl, trivial⟩) (fun _ _ q => s_shrW (m := a0) (n := 16) rfl rfl (by decide) q) rfl
   · exact flp HM rfl [(7, _)] (fun K _ => ⟨K 4 rfl, trivial⟩) (fun _ _ q => s_andW (m := (shrW a0 16)) (n := 255) rfl rfl q) rfl
   · exact flp HM rfl [(8, _)] (fun K _ => ⟨K 5 rfl, trivial⟩) (fun _ _ q => s_indexS (s := str_1) (i := (((shrW a0 16) &&& 255).toNat : Int)) rfl rfl underlying9 q2 q) rfl
   · exact flp HM rfl [(5, _), (9, _)] (fun K _ => ⟨K 2 rfl, K 6 rfl, trivial⟩) (fun _ _ q => s_addB (m := x1) (n := x2) rfl rfl q) rfl
   · exact flp HM rfl [] (fun _ _ => trivial) (fun _ _ q => s_mvv (v := vW a0) rfl q) rfl
   · exact flp HM rfl [(11, _)] (fun K _ => ⟨K 8 rfl, trivial⟩) (fun _ _ q => s_shrW (m := a0) (n := 8) rfl rfl (by decide) q) rfl
   · exact flp HM rfl [(12, _)] (fun K _ => ⟨K 9 rfl, trivial⟩) (fun _ _ q => s_andW (m := (shrW a0 8)) (n := 255) rfl rfl q) rfl
   · exact flp HM rfl [(13, _)] (fun K _ => ⟨K 10 rfl, trivial⟩) (fun _ _ q => s_indexS (s := str_1) (i := (((shrW a0 8) &&& 255).toNat : Int)) rfl rfl underlying9 q3 q) rfl
   · exact flp HM rfl [(10, _), (14, _)] (fun K _ => ⟨K 7 rfl, K 11 rfl, trivial⟩) (fun _ _ q => s_addB (m := (x1 + x2)) (n := x3) rfl rfl q) rfl
   · exact flp HM rfl [] (fun _ _ => trivial) (fun _ _ q => s_mvv (v := vW a0) rfl q) rfl
   · exact flp HM rfl [(16, _)] (fun K _ => ⟨K 13 rfl, trivial⟩) (fun _ _ q => s_andW (m := a0) (n := 255) rfl rfl q) rfl
   · exact flp HM rfl [(17, _)] (fun K _ => ⟨K 14 rfl, trivial⟩) (fun _ _ q => s_indexS (s := str_1) (i := ((a0 &&& 255).toNat : Int)) rfl rfl underlying9 q4 q) rfl
 intro L f17 w17 hall ⟨m17, L33, S17, K, hO⟩
 have d12 : L 12 = true := hall 12 (by decide)
 have d15 : L 15 = true := hall 15 (by decide)
 obtain ⟨u17, rfl⟩ := fr_of (N := 21) (L := [(15, _), (18, _)]) hO ⟨K 12 d12, K 15 d15, trivial⟩
 replace S17 : St _ (As) _ := S17
 clear S
 refine s_addB (m := ((x1 + x2) + x3)) (n := x4) rfl rfl <| s_convI rfl underlying5 underlying3 ?_
 obtain ⟨x5, q5, hm⟩ := bnd_eq hm
 refine s_asv (v := vI x5) (congrArg (fun z => vI z) q5.symm) <| wpl_nil <| nrm <| wpc_ret <| outRw fun we hpd => ?_
 replace S17 := St.pd S17 hpd
 have e0 := Option.some.inj hm
 subst e0
 replace L0 := Mem.tr L0 L33
 exact outR [_] rfl ⟨rfl, trivial⟩ ⟨_, L0, S17, rfl⟩

def m_bits_OnesCount64 (a0 : UInt64) : Option Int :=
  bnd ((((shrU a0 1) &&& 6148914691236517205) + (a0 &&& 6148914691236517205))) fun x1 =>
  bnd ((((shrU x1 2) &&& 3689348814741910323) + (x1 &&& 3689348814741910323))) fun x2 =>
  bnd ((((shrU x2 4) + x2) &&& 1085102592571150095)) fun x3 =>
  bnd (((x3 + (shrU x3 8)) + (shrU (x3 + (shrU x3 8)) 16))) fun x4 =>
  bnd ((and64 (w64 ((x4 + (shrU x4 32)).toNat : Int)) 127)) fun x5 =>
  some x5

theorem w_bits_OnesCount64 {m : Mem} {As : List Ow} {w : World} {a0 : UInt64} {r : Int} (S : St m (As) w) (hm : m_bits_OnesCount64 a0 = some r) :
    CallsR Tryz.prog 96 #[vU a0] w fun v w' => ∃ (M : Mem), m ≤ M ∧ St M (As) w' ∧ v = vI r := by
 unfold m_bits_OnesCount64 at hm
 have L0 := Mem.rfl' m
 refine callsR (args := [vU a0]) func96 rfl ntmps96 (nb rfl) <| ws <| s_asv (v := vI 0) rfl <| nx <| s_mvv (v := vU a0) rfl <| s_shrU (m := a0) (n := 1) rfl rfl (by decide) <| s_andU (m := (shrU a0 1)) (n := 6148914691236517205) rfl rfl <| s_mvv (v := vU a0) rfl <| s_andU (m := a0) (n := 6148914691236517205) rfl rfl <| s_addU (m := ((shrU a0 1) &&& 6148914691236517205)) (n := (a0 &&& 6148914691236517205)) rfl rfl ?_
 obtain ⟨x1, q1, hm⟩ := bnd_eq hm
 refine s_asv (v := vU x1) (congrArg (fun z => vU z) q1.symm) <| nx <| s_mvv (v := vU x1) rfl <| s_shrU (m := x1) (n := 2) rfl rfl (by decide) <| s_andU (m := (shrU x1 2)) (n := 3689348814741910323) rfl rfl <| s_mvv (v := vU x1) rfl <| s_andU (m := x1) (n := 3689348814741910323) rfl rfl <| s_addU (m := ((shrU x1 2) &&& 3689348814741910323)) (n := (x1 &&& 3689348814741910323)) rfl rfl ?_
 obtain ⟨x2, q2, hm⟩ := bnd_eq hm
 refine s_asv (v := vU x2) (congrArg (fun z => vU z) q2.symm) <| nx <| s_mvv (v := vU x2) rfl <| s_shrU (m := x2) (n := 4) rfl rfl (by decide) <| s_mvv (v := vU x2) rfl <| s_addU (m := (shrU x2 4)) (n := x2) rfl rfl <| s_andU (m := ((shrU x2 4) + x2)) (n := 1085102592571150095) rfl rfl ?_
 obtain ⟨x3, q3, hm⟩ := bnd_eq hm
 refine s_asv (v := vU x3) (congrArg (fun z => vU z) q3.symm) <| nx <| s_mvv (v := vU x3) rfl <| s_mvv (v := vU x3) rfl <| s_shrU (m := x3) (n := 8) rfl rfl (by decide) <| s_addU (m := x3) (n := (shrU x3 8)) rfl rfl <| s_asv (v := vU (x3 + (shrU x3 8))) rfl <| nx <| s_mvv (v := vU (x3 + (shrU x3 8))) rfl <| s_mvv (v := vU (x3 + (shrU x3 8))) rfl <| s_shrU (m := (x3 + (shrU x3 8))) (n := 16) rfl rfl (by decide) <| s_addU (m := (x3 + (shrU x3 8))) (n := (shrU (x3 + (shrU x3 8)) 16)) rfl rfl ?_
 obtain ⟨x4, q4, hm⟩ := bnd_eq hm
 refine s_asv (v := vU x4) (congrArg (fun z => vU z) q4.symm) <| nx <| s_mvv (v := vU x4) rfl <| s_mvv (v := vU x4) rfl <| s_shrU (m := x4) (n := 32) rfl rfl (by decide) <| s_addU (m := x4) (n := (shrU x4 32)) rfl rfl <| s_asv (v := vU (x4 + (shrU x4 32))) rfl <| nx <| s_mvv (v := vU (x4 + (shrU x4 32))) rfl <| s_convI rfl underlying22 underlying3 <| s_andI (m := (w64 ((x4 + (shrU x4 32)).toNat : Int))) (n := 127) rfl rfl ?_
 obtain ⟨x5, q5, hm⟩ := bnd_eq hm
 refine s_asv (v := vI x5) (congrArg (fun z => vI z) q5.symm) <| wpl_nil <| nrm <| wpc_ret <| outRw fun we hpd => ?_
 replace S := St.pd S hpd
 have e0 := Option.some.inj hm
 subst e0
 exact outR [_] rfl ⟨rfl, trivial⟩ ⟨_, L0, S, rfl⟩

def m_bits_OnesCount (a0 : UInt64) : Option Int :=
  obind (m_bits_OnesCount64 a0) fun x1 =>
  some x1

theorem w_bits_OnesCount {m : Mem} {As : List Ow} {w : World} {a0 : UInt64} {r : Int} (S : St m (As) w) (hm : m_bits_OnesCount a0 = some r) :
    CallsR Tryz.prog 73 #[vU a0] w fun v w' => ∃ (M : Mem), m ≤ M ∧ St M (As) w' ∧ v = vI r := by
 unfold m_bits_OnesCount at hm
 have L0 := Mem.rfl' m
 refine callsR (args := [vU a0]) func73 rfl ntmps73 (nb rfl) <| ws <| s_asv (v := vI 0) rfl <| wpl_nil <| nrm <| wpc_seq <| wpc_false rfl <| wpc_skip <| nrm <| ws <| s_mvv (v := vU a0) rfl ?_
 obtain ⟨x1, q1, hm⟩ := obind_some hm
 refine s_call call96 (w_bits_OnesCount64 (a0 := a0) S  q1) rfl ?_
 rintro _ w1 ⟨m1, l1, S1, rfl⟩
 clear S
 refine s_asv (v := vI x1) rfl <| wpl_nil <| nrm <| wpc_ret <| outRw fun we hpd => ?_
 replace S1 := St.pd S1 hpd
 have e0 := Option.some.inj hm
 subst e0
 replace L0 := Mem.tr L0 l1
 exact outR [_] rfl ⟨rfl, trivial⟩ ⟨_, L0, S1, rfl⟩

def m_merkle_steps (a0 : Int) (a1 : Int) : Option (Int × Int) :=
  obind (m_bits_Len (toU (xor64 a0 (w64 (a1 - 1))))) fun x1 =>
  if (0 : Int) ≤ x1 then
    obind (m_bits_OnesCount (toU (shr64 a0 x1.toNat))) fun x2 =>
    some (x1, x2)
  else none

theorem w_merkle_steps {m : Mem} {As : List Ow} {w : World} {a0 : Int} {a1 : Int} {r : Int × Int} (S : St m (As) w) (hm : m_merkle_steps a0 a1 = some r) :
    CallsR Tryz.prog 34 #[vI a0, vI a1] w fun v w' => ∃ (M : Mem), m ≤ M ∧ St M (As) w' ∧ v = .tuple #[vI r.1, vI r.2] := by
 unfold m_merkle_steps at hm
 have L0 := Mem.rfl' m
 refine callsR (args := [vI a0, vI a1]) func34 rfl ntmps34 (nb rfl) <| ws <| s_asv (v := vI 0) rfl <| s_asv (v := vI 0) rfl <| nx <| s_mvv (v := vI a0) rfl <| s_mvv (v := vI a1) rfl <| s_subI (m := a1) (n := 1) rfl rfl <| s_xorI (m := a0) (n := (w64 (a1 - 1))) rfl rfl <| s_convU rfl underlying3 underlying88 ?_
 obtain ⟨x1, q1, hm⟩ := obind_some hm
 refine s_call call72 (w_bits_Len (a0 := (toU (xor64 a0 (w64 (a1 - 1))))) S  q1) rfl ?_
 rintro _ w1 ⟨m1, l1, S1, rfl⟩
 clear S
 refine s_asv (v := vI x1) rfl <| nx <| s_mvv (v := vI x1) rfl <| s_mvv (v := vI a0) rfl <| s_mvv (v := vI x1) rfl ?_
 obtain ⟨q2, hm⟩ := if_some hm
 refine s_shrI (m := a0) (n := x1) rfl rfl q2 <| s_convU rfl underlying3 underlying88 ?_
 obtain ⟨x2, q3, hm⟩ := obind_some hm
 refine s_call call73 (w_bits_OnesCount (a0 := (toU (shr64 a0 x1.toNat))) S1  q3) rfl ?_
 rintro _ w2 ⟨m2, l2, S2, rfl⟩
 clear S1
 refine s_asv (v := vI x1) rfl <| s_asv (v := vI x2) rfl <| wpl_nil <| nrm <| wpc_ret <| outRw fun we hpd => ?_
 replace S2 := St.pd S2 hpd
 have e0 := Option.some.inj hm
 subst e0
 replace L0 := Mem.tr L0 (mt l1 l2)
 exact outR [_, _] rfl ⟨rfl, rfl, trivial⟩ ⟨_, L0, S2, rfl⟩

def m_merkle_climb_b3  (s2 : Int × Int) : Option ((Int × Int) ⊕ (Int × Int)) :=
  if (((and64 s2.1 1) == 0) && (s2.1 != 0)) = true then
    some (.inl ((shr64 s2.1 1), (shr64 s2.2 1)))
  else
  some (.inr (s2.1, s2.2))

def m_merkle_climb_b1 {σ : Type} (p3 : σ → (UInt64 × UInt64) → Option (σ)) (p4 : σ → (UInt64 × UInt64) → Option (σ)) (i1 : Int) (x2 : UInt64 × UInt64) (s1 : Int × Int × σ) : Option (Int × Int × σ) :=
  obind (
    if (((and64 s1.1 1) == 0) && (s1.1 != s1.2.1)) = true then
      obind (p4 s1.2.2 x2) fun x4 =>
      some ((shr64 s1.1 1), (shr64 s1.2.1 1), x4)
    else
    obind (p3 s1.2.2 x2) fun x5 =>
    obind (
      obind (iter m_merkle_climb_b3 FUEL (s1.1, s1.2.1)) fun x7 =>
      some (x7.1, x7.2)
    ) fun x6 =>
    some ((shr64 x6.1 1), (shr64 x6.2 1), x5)
  ) fun x3 =>
  some (x3.1, x3.2.1, x3.2.2)

def m_merkle_climb {σ : Type} (a0 : Int) (a1 : Int) (a2 : List (UInt64 × UInt64)) (p3 : σ → (UInt64 × UInt64) → Option (σ)) (p4 : σ → (UInt64 × UInt64) → Option (σ)) (s0 : σ) : Option σ :=
  obind (each0 (m_merkle_climb_b1 p3 p4) a2 0 (a0, (w64 (a1 - 1)), s0)) fun x1 =>
  some x1.2.2

theorem w_merkle_climb {m : Mem} {As : List Ow} {w : World} {σ : Type} {R : σ → Mem → List Ow → Prop} {a0 : Int} {a1 : Int} {a2 : List (UInt64 × UInt64)} {a2v0 : Value} {p3 : σ → (UInt64 × UInt64) → Option (σ)} {f3 : Value} {p4 : σ → (UInt64 × UInt64) → Option (σ)} {f4 : Value} {s0 : σ} {X0 : List Ow} {r : σ} (S : St m ((X0 ++ As)) w) (hup : ∀ {s M M' X}, M ≤ M' → R s M X → R s M' X) (hX0 : R s0 m X0) (cb3 : ∀ {m' : Mem} {As' : List Ow} {w' : World} {s : σ} {X : List Ow} {b0 : UInt64 × UInt64} {r : σ}, St m' (X ++ As') w' → R s m' X → p3 s b0 = some r → CallV Tryz.prog f3 [.agg #[vU b0.1, vU b0.2]] w' fun v w'' => ∃ (M : Mem) (X' : List Ow), m' ≤ M ∧ St M (X' ++ As') w'' ∧ R r M X' ∧ v = .tuple #[]) (cb4 : ∀ {m' : Mem} {As' : List Ow} {w' : World} {s : σ} {X : List Ow} {b0 : UInt64 × UInt64} {r : σ}, St m' (X ++ As') w' → R s m' X → p4 s b0 = some r → CallV Tryz.prog f4 [.agg #[vU b0.1, vU b0.2]] w' fun v w'' => ∃ (M : Mem) (X' : List Ow), m' ≤ M ∧ St M (X' ++ As') w'' ∧ R r M X' ∧ v = .tuple #[]) (fc3 : f3.cells = #[f3]) (fc4 : f4.cells = #[f4]) (a2h0 : SlR m a2v0 a2) (hm : m_merkle_climb a0 a1 a2 p3 p4 s0 = some r) :
    CallsR Tryz.prog 35 #[vI a0, vI a1, a2v0, f3, f4] w fun v w' => ∃ (M : Mem), m ≤ M ∧ ∃ (X : List Ow), St M ((X ++ As)) w' ∧ v = .tuple #[] ∧ R r M X := by
 unfold m_merkle_climb at hm
 have L0 := Mem.rfl' m
 refine callsR (args := [vI a0, vI a1, a2v0, f3, f4]) func35 rfl ntmps35 (nb rfl) <| wpc_scope <| ws <| s_mvv (v := vI a1) rfl <| s_subI (m := a1) (n := 1) rfl rfl <| s_asv (v := vI (w64 (a1 - 1))) rfl <| wpl_nil <| nrm <| wpc_seq <| wpc_label <| nrm <| ws <| s_mvv (v := a2v0) rfl <| s_lenR (xs := a2) rfl a2h0 underlying43 <| s_mvv (v := vI 0) rfl <| wpl_nil <| nrm ?_
 obtain ⟨x1, q1, hm⟩ := obind_some hm
 have L1 := Mem.rfl' m
 refine wpc_wrap <| wpc_join [0, 10, 12, 17, 18, 19, 20, 21, 22, 23, 24, 25, 26, 27, 28, 29, 30, 31, 32, 33, 34, 35, 36, 37, 38, 39, 40, 41, 42, 43, 44, 45, 46, 47, 48, 49, 50, 51, 52, 53, 54] (fun f' w' => ∃ (M1 : Mem) (X2 : List Ow), m ≤ M1 ∧ St M1 ((X2 ++ As)) w' ∧ R x1.2.2 M1 X2 ∧ AllAt f' [(0, vI x1.1), (10, vI x1.2.1)]) ?_ ?_
 · refine wpc_block <| wpc_rounds [0, 10, 12, 17, 18, 19, 20, 21, 22, 23, 24, 25, 26, 27, 28, 29, 30, 31, 32, 33, 34, 35, 36, 37, 38, 39, 40, 41, 42, 43, 44, 45, 46, 47, 48, 49, 50, 51, 52, 53, 54] (fun n1 f' w' => ∃ (i1 : Nat) (s1 : Int × Int × σ) (m11 : Mem) (X1 : List Ow), n1 = a2.length - i1 ∧ i1 ≤ a2.length ∧ each0 (m_merkle_climb_b1 p3 p4) (a2.drop i1) (i1 : Int) s1 = some x1 ∧ m ≤ m11 ∧ St m11 ((X1 ++ As)) w' ∧ R s1.2.2 m11 X1 ∧ AllAt f' [(17, vI (i1 : Int)), (0, vI s1.1), (10, vI s1.2.1)]) a2.length ⟨0, (a0, (w64 (a1 - 1)), s0), m, _, rfl, Nat.zero_le _, q1, L1, S, hX0, ⟨rfl, rfl, rfl, trivial⟩⟩ ?_
   rintro n1 f1 w1 ho ⟨i1, s1, m1, X1, hn, hi, q2, L3, S1, h1, ha⟩
   obtain ⟨u1, rfl⟩ := fr_of (N := 55) ho ha
   clear ho ha
   have L2 := Mem.rfl' m1
   clear S
   refine ws <| s_lss (m := (i1 : Int)) (n := (a2.length : Int)) rfl rfl <| wpl_nil <| nrm <| wpc_seq <| wpc_if (t := decide ((i1 : Int) < (a2.length : Int))) rfl (fun hc3 => ?_) (fun hc3 => ?_)
   · have hlt1 : i1 < a2.length := by have := of_decide_eq_true hc3; omega
     obtain ⟨x2, y1, q5, q4, q3⟩ := each0_in q2 hlt1
     unfold m_merkle_climb_b1 at q4
     refine wpc_skip <| nrm ?_
     obtain ⟨x3, q6, q4⟩ := obind_some q4
     have L4 := Mem.rfl' m1
     refine wpc_seq <| wpc_join [0, 10, 12, 19, 20, 21, 22, 23, 24, 25, 26, 27, 28, 29, 30, 31, 32, 33, 34, 35, 36, 37, 38, 39, 40, 41, 42, 43, 44, 45, 46, 47, 48, 49, 50, 51, 52, 53] (fun f' w' => ∃ (M2 : Mem) (X3 : List Ow), m1 ≤ M2 ∧ St M2 ((X3 ++ As)) w' ∧ R x3.2.2 M2 X3 ∧ AllAt f' [(0, vI x3.1), (10, vI x3.2.1)]) ?_ ?_
     · refine wpc_block <| ws <| s_idx (q := x2) rfl rfl (a2h0.up L3) q5 underlying43 sizeOf36 fun p1 c1 h4 r1 => ?_
       obtain rfl := rep_arr2_UInt64 r1
       refine s_ldM (cs := [vU x2.1, vU x2.2]) S1 rfl h4 rfl isAgg36 sizeOf36 (fun h => by cases h) <| s_alloc S1 zeroValue36 fun b2 w2 S2 => s_stL (i := 0) S2 rfl rfl rfl sizeOf36 (oneC rfl (oneC rfl oneN)) rfl fun w3 S3 => ?_
       replace S3 : St _ ((bx b2 [vU x2.1, vU x2.2] 36) :: (X1 ++ As)) _ := S3
       clear S1 S2
       refine wpl_nil <| nrm <| wpc_seq <| ws <| s_mvv (v := vI s1.1) rfl <| s_andI (m := s1.1) (n := 1) rfl rfl <| s_eql (m := (and64 s1.1 1)) (n := 0) rfl rfl <| s_mvv (v := vb ((and64 s1.1 1) == 0)) rfl <| wpl_cut 4 [25, 26, 27, 28] (fun f' w' => w' = w3 ∧ AllAt f' [(28, vb (((and64 s1.1 1) == 0) && (s1.1 != s1.2.1)))]) ?_ ?_
       · rcases bool_tf ((and64 s1.1 1) == 0) with hb1 | hb1
         · exact wpl_yes (d := 24) rfl rfl (cb hb1) <| s_mvv (v := vI s1.1) rfl <| wpl_yes (d := 24) rfl rfl (cb hb1) <| s_mvv (v := vI s1.2.1) rfl <| wpl_yes (d := 24) rfl rfl (cb hb1) <| s_neq (m := s1.1) (n := s1.2.1) rfl rfl <| s_pickT (cb hb1) rfl <| wpl_nil (nrm ⟨outP, rfl, congrArg Value.bool (and_t hb1), trivial⟩)
         · exact wpl_no (d := 24) rfl rfl (cb hb1) <| wpl_no (d := 24) rfl rfl (cb hb1) <| wpl_no (d := 24) rfl rfl (cb hb1) <| s_pickF (cb hb1) rfl <| wpl_nil (nrm ⟨outP, rfl, congrArg Value.bool (and_f hb1), trivial⟩)
       rintro f2 w4 ho ⟨h5, ha⟩
       subst h5
       obtain ⟨u2, rfl⟩ := fr_of (N := 55) ho ha
       refine wpl_nil <| nrm <| wpc_if (t := (((and64 s1.1 1) == 0) && (s1.1 != s1.2.1))) rfl (fun hc1 => ?_) (fun hc1 => ?_)
       · replace q6 := ifT hc1 q6
         refine ws <| s_mvv (v := f4) rfl <| s_ld (i := 0) (cs := [vU x2.1, vU x2.2]) S3 rfl rfl isAgg36 sizeOf36 rfl (fun h => by cases h) ?_
         obtain ⟨x4, q7, q6⟩ := obind_some q6
         have S4 := St.absF (L := [bx b2 [vU x2.1, vU x2.2] 36]) (X := X1) (As := As) S3
         refine s_callV rfl (cb4 S4 h1 q7) rfl ?_
         rintro _ w5 ⟨m2, X4, l1, S5, h6, rfl⟩
         replace S5 := St.absF (L := X4) (X := [bx b2 [vU x2.1, vU x2.2] 36]) (As := As) S5
         clear S4
         replace S5 : St _ ((bx b2 [vU x2.1, vU x2.2] 36) :: (X4 ++ As)) _ := S5
         clear S3
         refine nx <| s_mvv (v := vI s1.1) rfl <| s_shrI (m := s1.1) (n := 1) rfl rfl (by decide) <| s_mvv (v := vI s1.2.1) rfl <| s_shrI (m := s1.2.1) (n := 1) rfl rfl (by decide) <| s_asv (v := vI (shr64 s1.1 1)) rfl <| s_asv (v := vI (shr64 s1.2.1 1)) rfl <| wpl_nil <| nrm <| wpc_exit <| thE <| exB <| nrm ?_
         obtain ⟨m3, l2, S6⟩ := St.drop S5 0
         replace h6 := hup l2 h6
         clear S5
         replace S6 : St _ ((X4 ++ As)) _ := S6
         have e0 := Option.some.inj q6
         subst e0
         replace L4 := Mem.tr L4 (mt l1 l2)
         exact ⟨outP, m3, _, L4, S6, h6, ⟨rfl, rfl, trivial⟩⟩
       replace q6 := ifF hc1 q6
       refine wpc_skip <| nrm <| ws <| s_mvv (v := f3) rfl <| s_ld (i := 0) (cs := [vU x2.1, vU x2.2]) S3 rfl rfl isAgg36 sizeOf36 rfl (fun h => by cases h) ?_
       obtain ⟨x5, q8, q6⟩ := obind_some q6
       have S7 := St.absF (L := [bx b2 [vU x2.1, vU x2.2] 36]) (X := X1) (As := As) S3
       refine s_callV rfl (cb3 S7 h1 q8) rfl ?_
       rintro _ w6 ⟨m4, X5, l3, S8, h7, rfl⟩
       replace S8 := St.absF (L := X5) (X := [bx b2 [vU x2.1, vU x2.2] 36]) (As := As) S8
       clear S7
       replace S8 : St _ ((bx b2 [vU x2.1, vU x2.2] 36) :: (X5 ++ As)) _ := S8
       clear S3
       refine wpl_nil <| nrm ?_
       obtain ⟨x6, q9, q6⟩ := obind_some q6
       have L5 := Mem.rfl' m4
       refine wpc_seq <| wpc_join [0, 10, 39, 40, 41, 42, 43, 44, 45, 46, 47, 48, 49] (fun f' w' => ∃ (M3 : Mem), m4 ≤ M3 ∧ St M3 ((bx b2 [vU x2.1, vU x2.2] 36) :: (X5 ++ As)) w' ∧ AllAt f' [(0, vI x6.1), (10, vI x6.2)]) ?_ ?_
       · obtain ⟨x7, q10, q9⟩ := obind_some q9
         have L6 := Mem.rfl' m4
         refine wpc_join [0, 10, 39, 40, 41, 42, 43, 44, 45, 46, 47, 48, 49] (fun f' w' => ∃ (M4 : Mem), m4 ≤ M4 ∧ St M4 ((bx b2 [vU x2.1, vU x2.2] 36) :: (X5 ++ As)) w' ∧ AllAt f' [(0, vI x7.1), (10, vI x7.2)]) ?_ ?_
         · refine wpc_block <| wpc_rounds [0, 10, 39, 40, 41, 42, 43, 44, 45, 46, 47, 48, 49] (fun n2 f' w' => ∃ (s2 : Int × Int) (m6 : Mem), iter m_merkle_climb_b3 n2 s2 = some x7 ∧ m4 ≤ m6 ∧ St m6 ((bx b2 [vU x2.1, vU x2.2] 36) :: (X5 ++ As)) w' ∧ AllAt f' [(0, vI s2.1), (10, vI s2.2)]) FUEL ⟨(s1.1, s1.2.1), m4, q10, L6, S8, ⟨rfl, rfl, trivial⟩⟩ ?_
           rintro n2 f3 w7 ho ⟨s2, m5, q11, L8, S9, ha⟩
           obtain ⟨u3, rfl⟩ := fr_of (N := 55) ho ha
           clear ho ha
           replace h7 := hup L8 h7
           have L7 := Mem.rfl' m5
           clear S8
           cases n2 with
           | zero => exact (iter_zero q11).elim
           | succ n2 =>
            obtain ⟨y2, q13, q12⟩ := iter_succ q11
            unfold m_merkle_climb_b3 at q13
            refine wpc_seq <| ws <| s_mvv (v := vI s2.1) rfl <| s_andI (m := s2.1) (n := 1) rfl rfl <| s_eql (m := (and64 s2.1 1)) (n := 0) rfl rfl <| s_mvv (v := vb ((and64 s2.1 1) == 0)) rfl <| wpl_cut 3 [43, 44, 45] (fun f' w' => w' = w7 ∧ AllAt f' [(45, vb (((and64 s2.1 1) == 0) && (s2.1 != 0)))]) ?_ ?_
            · rcases bool_tf ((and64 s2.1 1) == 0) with hb2 | hb2
              · exact wpl_yes (d := 42) rfl rfl (cb hb2) <| s_mvv (v := vI s2.1) rfl <| wpl_yes (d := 42) rfl rfl (cb hb2) <| s_neq (m := s2.1) (n := 0) rfl rfl <| s_pickT (cb hb2) rfl <| wpl_nil (nrm ⟨outP, rfl, congrArg Value.bool (and_t hb2), trivial⟩)
              · exact wpl_no (d := 42) rfl rfl (cb hb2) <| wpl_no (d := 42) rfl rfl (cb hb2) <| s_pickF (cb hb2) rfl <| wpl_nil (nrm ⟨outP, rfl, congrArg Value.bool (and_f hb2), trivial⟩)
            rintro f4 w8 ho ⟨h8, ha⟩
            subst h8
            obtain ⟨u4, rfl⟩ := fr_of (N := 55) ho ha
            refine wpl_nil <| nrm <| wpc_if (t := (((and64 s2.1 1) == 0) && (s2.1 != 0))) rfl (fun hc2 => ?_) (fun hc2 => ?_)
            · replace q13 := ifT hc2 q13
              refine wpc_skip <| nrm <| wpc_block <| wpc_region <| s_mvv (v := vI s2.1) rfl <| s_shrI (m := s2.1) (n := 1) rfl rfl (by decide) <| s_mvv (v := vI s2.2) rfl <| s_shrI (m := s2.2) (n := 1) rfl rfl (by decide) <| s_asv (v := vI (shr64 s2.1 1)) rfl <| s_asv (v := vI (shr64 s2.2 1)) rfl <| wpl_nil <| nrmB <| nrm ?_
              have e0 := Option.some.inj q13
              subst e0
              rcases q12 with ⟨sn, e, q12'⟩ | e
              · cases e
                exact ⟨outP, _, Nat.lt_succ_self _, ⟨_, m5, q12', Mem.tr L8 L7, S9, ⟨rfl, rfl, trivial⟩⟩⟩
              · cases e
            replace q13 := ifF hc2 q13
            refine wpc_exit <| thE <| thE <| exB <| nrm ?_
            have e0 := Option.some.inj q13
            subst e0
            rcases q12 with ⟨sn, e, _⟩ | e
            · cases e
            · cases e
              exact ⟨outP, m5, Mem.tr L8 L7, S9, ⟨rfl, rfl, trivial⟩⟩
         rintro f5 w9 ho ⟨m7, l4, S10, ha⟩
         obtain ⟨u5, rfl⟩ := fr_of (N := 55) ho ha
         clear ho ha
         replace h7 := hup l4 h7
         clear S8
         have e0 := Option.some.inj q9
         subst e0
         replace L5 := Mem.tr L5 l4
         exact ⟨outP, m7, L5, S10, ⟨rfl, rfl, trivial⟩⟩
       rintro f6 w10 ho ⟨m8, l5, S11, ha⟩
       obtain ⟨u6, rfl⟩ := fr_of (N := 55) ho ha
       replace h7 := hup l5 h7
       clear S8
       refine wpc_region <| s_mvv (v := vI x6.1) rfl <| s_shrI (m := x6.1) (n := 1) rfl rfl (by decide) <| s_mvv (v := vI x6.2) rfl <| s_shrI (m := x6.2) (n := 1) rfl rfl (by decide) <| s_asv (v := vI (shr64 x6.1 1)) rfl <| s_asv (v := vI (shr64 x6.2 1)) rfl <| wpl_nil <| nrmB <| nrm ?_
       obtain ⟨m9, l6, S12⟩ := St.drop S11 0
       replace h7 := hup l6 h7
       clear S11
       replace S12 : St _ ((X5 ++ As)) _ := S12
       have e0 := Option.some.inj q6
       subst e0
       replace L4 := Mem.tr L4 (mt l3 (mt l5 l6))
       exact ⟨outP, m9, _, L4, S12, h7, ⟨rfl, rfl, trivial⟩⟩
     rintro f7 w11 ho ⟨m10, X3, l7, S13, h3, ha⟩
     obtain ⟨u7, rfl⟩ := fr_of (N := 55) ho ha
     clear S1
     refine wpc_region <| s_addI (m := (i1 : Int)) (n := 1) rfl rfl <| s_mvv (v := vI (w64 ((i1 : Int) + 1))) rfl <| wpl_nil <| nrm ?_
     have e0 := Option.some.inj q4
     subst e0
     replace a2h0 := a2h0.up (mt L3 l7)
     replace L2 := Mem.tr L2 l7
     exact ⟨outP, _, (by omega), ⟨i1 + 1, (x3.1, x3.2.1, x3.2.2), m10, _, rfl, hlt1, q3, Mem.tr L3 L2, S13, h3, ⟨congrArg (Value.int .i64) (w64_succ hlt1 (SlR.le a2h0)), rfl, rfl, trivial⟩⟩⟩
   have hlt1 : ¬ i1 < a2.length := by have := of_decide_eq_false hc3; omega
   have e := Eq.symm (each0_out q2 hlt1)
   subst e
   exact wpc_exit <| thE <| thE <| exB <| nrm <| ⟨outP, m1, _, Mem.tr L3 L2, S1, h1, ⟨rfl, rfl, trivial⟩⟩
 rintro f8 w12 ho ⟨m12, X2, l8, S14, h2, ha⟩
 obtain ⟨u8, rfl⟩ := fr_of (N := 55) ho ha
 clear ho ha S
 refine scN <| outNw fun we hpd => ?_
 replace S14 := St.pd S14 hpd
 have e0 := Option.some.inj hm
 subst e0
 replace L0 := Mem.tr L0 l8
 exact outR [] rfl trivial ⟨_, L0, _, S14, rfl, h2⟩

def m_merkle_Check_1 (a0 : UInt64 × UInt64) (k0 : UInt64 × UInt64) : Option (UInt64 × UInt64) :=
  obind (m_hash_Pair a0 k0) fun x1 =>
  some x1

theorem w_merkle_Check_1 {m : Mem} {As : List Ow} {w : World} {a0 : UInt64 × UInt64} {kb0 : Nat} {k0 : UInt64 × UInt64} {r : UInt64 × UInt64} (S : St m ((bx kb0 [vU k0.1, vU k0.2] 36) :: As) w) (hm : m_merkle_Check_1 a0 k0 = some r) :
    CallsR Tryz.prog 36 #[.agg #[vU a0.1, vU a0.2], pt kb0 0] w fun v w' => ∃ (M : Mem), m ≤ M ∧ St M ((bx kb0 [vU r.1, vU r.2] 36) :: As) w' ∧ v = .tuple #[] := by
 unfold m_merkle_Check_1 at hm
 have L0 := Mem.rfl' m
 refine callsR (args := [.agg #[vU a0.1, vU a0.2], pt kb0 0]) func36 rfl ntmps36 (nb rfl) <| ws <| s_box S rfl fun b1 w1 S1 => ?_
 replace S1 : St _ ((bx b1 [vU a0.1, vU a0.2] 36) :: (bx kb0 [vU k0.1, vU k0.2] 36) :: As) _ := S1
 clear S
 refine wpl_nil <| nrm <| wpc_region <| s_ld (i := 0) (cs := [vU a0.1, vU a0.2]) S1 rfl rfl isAgg36 sizeOf36 rfl (fun h => by cases h) <| s_ld (i := 1) (cs := [vU k0.1, vU k0.2]) S1 rfl rfl isAgg36 sizeOf36 rfl (fun h => by cases h) ?_
 obtain ⟨x1, q1, hm⟩ := obind_some hm
 refine s_call call37 (w_hash_Pair (a0 := a0) (a1 := k0) S1  q1) rfl ?_
 rintro _ w2 ⟨m1, l1, S2, rfl⟩
 clear S1
 refine s_stL (i := 1) S2 rfl rfl rfl sizeOf36 (oneC rfl (oneC rfl oneN)) rfl fun w3 S3 => ?_
 replace S3 : St _ ((bx b1 [vU a0.1, vU a0.2] 36) :: (bx kb0 [vU x1.1, vU x1.2] 36) :: As) _ := S3
 clear S2
 refine wpl_nil <| outNw fun we hpd => ?_
 replace S3 := St.pd S3 hpd
 obtain ⟨m2, l2, S4⟩ := St.drop S3 0
 clear S3
 replace S4 : St _ ((bx kb0 [vU x1.1, vU x1.2] 36) :: As) _ := S4
 have e0 := Option.some.inj hm
 subst e0
 replace L0 := Mem.tr L0 (mt l1 l2)
 exact outR [] rfl trivial ⟨_, L0, S4, rfl⟩

def m_merkle_Check_2 (a0 : UInt64 × UInt64) (k0 : UInt64 × UInt64) : Option (UInt64 × UInt64) :=
  obind (m_hash_Pair k0 a0) fun x1 =>
  some x1

theorem w_merkle_Check_2 {m : Mem} {As : List Ow} {w : World} {a0 : UInt64 × UInt64} {kb0 : Nat} {k0 : UInt64 × UInt64} {r : UInt64 × UInt64} (S : St m ((bx kb0 [vU k0.1, vU k0.2] 36) :: As) w) (hm : m_merkle_Check_2 a0 k0 = some r) :
    CallsR Tryz.prog 38 #[.agg #[vU a0.1, vU a0.2], pt kb0 0] w fun v w' => ∃ (M : Mem), m ≤ M ∧ St M ((bx kb0 [vU r.1, vU r.2] 36) :: As) w' ∧ v = .tuple #[] := by
 unfold m_merkle_Check_2 at hm
 have L0 := Mem.rfl' m
 refine callsR (args := [.agg #[vU a0.1, vU a0.2], pt kb0 0]) func38 rfl ntmps38 (nb rfl) <| ws <| s_box S rfl fun b1 w1 S1 => ?_
 replace S1 : St _ ((bx b1 [vU a0.1, vU a0.2] 36) :: (bx kb0 [vU k0.1, vU k0.2] 36) :: As) _ := S1
 clear S
 refine wpl_nil <| nrm <| wpc_region <| s_ld (i := 1) (cs := [vU k0.1, vU k0.2]) S1 rfl rfl isAgg36 sizeOf36 rfl (fun h => by cases h) <| s_ld (i := 0) (cs := [vU a0.1, vU a0.2]) S1 rfl rfl isAgg36 sizeOf36 rfl (fun h => by cases h) ?_
 obtain ⟨x1, q1, hm⟩ := obind_some hm
 refine s_call call37 (w_hash_Pair (a0 := k0) (a1 := a0) S1  q1) rfl ?_
 rintro _ w2 ⟨m1, l1, S2, rfl⟩
 clear S1
 refine s_stL (i := 1) S2 rfl rfl rfl sizeOf36 (oneC rfl (oneC rfl oneN)) rfl fun w3 S3 => ?_
 replace S3 : St _ ((bx b1 [vU a0.1, vU a0.2] 36) :: (bx kb0 [vU x1.1, vU x1.2] 36) :: As) _ := S3
 clear S2
 refine wpl_nil <| outNw fun we hpd => ?_
 replace S3 := St.pd S3 hpd
 obtain ⟨m2, l2, S4⟩ := St.drop S3 0
 clear S3
 replace S4 : St _ ((bx kb0 [vU x1.1, vU x1.2] 36) :: As) _ := S4
 have e0 := Option.some.inj hm
 subst e0
 replace L0 := Mem.tr L0 (mt l1 l2)
 exact outR [] rfl trivial ⟨_, L0, S4, rfl⟩

def m_merkle_Check (a0 : UInt64 × UInt64) (a1 : Int) (a2 : Int) (a3 : List (UInt64 × UInt64)) (a4 : UInt64 × UInt64) : Option Int :=
  if (((decide (a1 < 0)) || (decide (a1 ≥ a2))) || (decide (a2 > 256))) = true then
    some 1
  else
  obind (m_merkle_steps a1 a2) fun x1 =>
  if ((a3.length : Int) != (w64 (x1.1 + x1.2))) = true then
    some 80
  else
  obind (m_merkle_climb a1 a2 a3 (fun (s1 : (UInt64 × UInt64)) (b4 : UInt64 × UInt64) => obind (m_merkle_Check_1 b4 (s1)) fun x2 => some x2) (fun (s2 : (UInt64 × UInt64)) (b5 : UInt64 × UInt64) => obind (m_merkle_Check_2 b5 (s2)) fun x3 => some x3) a0) fun x4 =>
  if (!eqSum x4 a4) = true then
    some 71
  else
  some 0

theorem w_merkle_Check {m : Mem} {As : List Ow} {w : World} {a0 : UInt64 × UInt64} {a1 : Int} {a2 : Int} {a3 : List (UInt64 × UInt64)} {a3v0 : Value} {a4 : UInt64 × UInt64} {r : Int} (S : St m (As) w) (a3h0 : SlR m a3v0 a3) (hm : m_merkle_Check a0 a1 a2 a3 a4 = some r) :
    CallsR Tryz.prog 13 #[.agg #[vU a0.1, vU a0.2], vI a1, vI a2, a3v0, .agg #[vU a4.1, vU a4.2]] w fun v w' => ∃ (M : Mem), m ≤ M ∧ St M (As) w' ∧ v = vI r := by
 unfold m_merkle_Check at hm
 have L0 := Mem.rfl' m
 refine callsR (args := [.agg #[vU a0.1, vU a0.2], vI a1, vI a2, a3v0, .agg #[vU a4.1, vU a4.2]]) func13 rfl ntmps13 (nb rfl) <| ws <| s_box S rfl fun b1 w1 S1 => ?_
 replace S1 : St _ ((bx b1 [vU a0.1, vU a0.2] 36) :: As) _ := S1
 clear S
 refine s_box S1 rfl fun b2 w2 S2 => ?_
 replace S2 : St _ ((bx b2 [vU a4.1, vU a4.2] 36) :: (bx b1 [vU a0.1, vU a0.2] 36) :: As) _ := S2
 clear S1
 refine s_asv (v := vI 0) rfl <| wpl_nil <| nrm <| wpc_seq <| ws <| s_mvv (v := vI a1) rfl <| s_lss (m := a1) (n := 0) rfl rfl <| s_mvv (v := vb (decide (a1 < 0))) rfl <| wpl_cut 4 [17, 18, 19, 20] (fun f' w' => w' = w2 ∧ AllAt f' [(20, vb ((decide (a1 < 0)) || (decide (a1 ≥ a2))))]) ?_ ?_
 · rcases bool_tf (decide (a1 < 0)) with hb1 | hb1
   · exact wpl_no (d := 16) rfl rfl (cb hb1) <| wpl_no (d := 16) rfl rfl (cb hb1) <| wpl_no (d := 16) rfl rfl (cb hb1) <| s_pickT (cb hb1) rfl <| wpl_nil (nrm ⟨outP, rfl, congrArg Value.bool (or_t hb1), trivial⟩)
   · exact wpl_yes (d := 16) rfl rfl (cb hb1) <| s_mvv (v := vI a1) rfl <| wpl_yes (d := 16) rfl rfl (cb hb1) <| s_mvv (v := vI a2) rfl <| wpl_yes (d := 16) rfl rfl (cb hb1) <| s_geq (m := a1) (n := a2) rfl rfl <| s_pickF (cb hb1) rfl <| wpl_nil (nrm ⟨outP, rfl, congrArg Value.bool (or_f hb1), trivial⟩)
 rintro f1 w3 ho ⟨h1, ha⟩
 subst h1
 obtain ⟨u1, rfl⟩ := fr_of (N := 47) ho ha
 refine s_mvv (v := vb ((decide (a1 < 0)) || (decide (a1 ≥ a2)))) rfl <| wpl_cut 3 [22, 23, 24] (fun f' w' => w' = w3 ∧ AllAt f' [(24, vb (((decide (a1 < 0)) || (decide (a1 ≥ a2))) || (decide (a2 > 256))))]) ?_ ?_
 · rcases bool_tf ((decide (a1 < 0)) || (decide (a1 ≥ a2))) with hb2 | hb2
   · exact wpl_no (d := 21) rfl rfl (cb hb2) <| wpl_no (d := 21) rfl rfl (cb hb2) <| s_pickT (cb hb2) rfl <| wpl_nil (nrm ⟨outP, rfl, congrArg Value.bool (or_t hb2), trivial⟩)
   · exact wpl_yes (d := 21) rfl rfl (cb hb2) <| s_mvv (v := vI a2) rfl <| wpl_yes (d := 21) rfl rfl (cb hb2) <| s_gtr (m := a2) (n := 256) rfl rfl <| s_pickF (cb hb2) rfl <| wpl_nil (nrm ⟨outP, rfl, congrArg Value.bool (or_f hb2), trivial⟩)
 rintro f2 w4 ho ⟨h2, ha⟩
 subst h2
 obtain ⟨u2, rfl⟩ := fr_of (N := 47) ho ha
 refine wpl_nil <| nrm <| wpc_if (t := (((decide (a1 < 0)) || (decide (a1 ≥ a2))) || (decide (a2 > 256)))) rfl (fun hc1 => ?_) (fun hc1 => ?_)
 · replace hm := ifT hc1 hm
   refine ws <| s_asv (v := vI 1) rfl <| wpl_nil <| nrm <| wpc_ret <| thR <| outRw fun we hpd => ?_
   replace S2 := St.pd S2 hpd
   obtain ⟨m1, l1, S3⟩ := St.drop S2 0
   clear S2
   replace S3 : St _ ((bx b1 [vU a0.1, vU a0.2] 36) :: As) _ := S3
   obtain ⟨m2, l2, S4⟩ := St.drop S3 0
   clear S3
   replace S4 : St _ (As) _ := S4
   have e0 := Option.some.inj hm
   subst e0
   replace L0 := Mem.tr L0 (mt l1 l2)
   exact outR [_] rfl ⟨rfl, trivial⟩ ⟨_, L0, S4, rfl⟩
 replace hm := ifF hc1 hm
 refine wpc_skip <| nrm <| wpc_seq <| ws <| s_mvv (v := vI a1) rfl <| s_mvv (v := vI a2) rfl ?_
 obtain ⟨x1, q1, hm⟩ := obind_some hm
 refine s_call call34 (w_merkle_steps (a0 := a1) (a1 := a2) S2  q1) rfl ?_
 rintro _ w5 ⟨m3, l3, S5, rfl⟩
 clear S2
 refine s_mvv (v := .tuple #[vI x1.1, vI x1.2]) rfl <| s_ext (i := 0) rfl rfl <| s_ext (i := 1) rfl rfl <| s_asv (v := vI x1.1) rfl <| s_asv (v := vI x1.2) rfl <| nx <| s_mvv (v := a3v0) rfl <| s_lenR (xs := a3) rfl (a3h0.up l3) underlying43 <| s_mvv (v := vI x1.1) rfl <| s_mvv (v := vI x1.2) rfl <| s_addI (m := x1.1) (n := x1.2) rfl rfl <| s_neq (m := (a3.length : Int)) (n := (w64 (x1.1 + x1.2))) rfl rfl <| wpl_nil <| nrm <| wpc_if (t := ((a3.length : Int) != (w64 (x1.1 + x1.2)))) rfl (fun hc2 => ?_) (fun hc2 => ?_)
 · replace hm := ifT hc2 hm
   refine ws <| s_asv (v := vI 80) rfl <| wpl_nil <| nrm <| wpc_ret <| thR <| outRw fun we hpd => ?_
   replace S5 := St.pd S5 hpd
   obtain ⟨m4, l4, S6⟩ := St.drop S5 0
   clear S5
   replace S6 : St _ ((bx b1 [vU a0.1, vU a0.2] 36) :: As) _ := S6
   obtain ⟨m5, l5, S7⟩ := St.drop S6 0
   clear S6
   replace S7 : St _ (As) _ := S7
   have e0 := Option.some.inj hm
   subst e0
   replace L0 := Mem.tr L0 (mt l3 (mt l4 l5))
   exact outR [_] rfl ⟨rfl, trivial⟩ ⟨_, L0, S7, rfl⟩
 replace hm := ifF hc2 hm
 refine wpc_skip <| nrm <| ws <| s_ld (i := 1) (cs := [vU a0.1, vU a0.2]) S5 rfl rfl isAgg36 sizeOf36 rfl (fun h => by cases h) <| s_alloc S5 zeroValue36 fun b3 w6 S8 => s_stL (i := 0) S8 rfl rfl rfl sizeOf36 (oneC rfl (oneC rfl oneN)) rfl fun w7 S9 => ?_
 replace S9 : St _ ((bx b3 [vU a0.1, vU a0.2] 36) :: (bx b2 [vU a4.1, vU a4.2] 36) :: (bx b1 [vU a0.1, vU a0.2] 36) :: As) _ := S9
 clear S5 S8
 refine nx <| s_mvv (v := vI a1) rfl <| s_mvv (v := vI a2) rfl <| s_mvv (v := a3v0) rfl <| s_funcC (caps := [pt b3 0]) rfl <| s_funcC (caps := [pt b3 0]) rfl ?_
 have hcb1 : ∀ {m' : Mem} {As' : List Ow} {w' : World} {s : (UInt64 × UInt64)} {X : List Ow} {b0 : UInt64 × UInt64} {r : (UInt64 × UInt64)}, St m' (X ++ As') w' → (X = [bx b3 [vU ((s).1), vU ((s).2)] 36]) → (fun (s1 : (UInt64 × UInt64)) (b4 : UInt64 × UInt64) => obind (m_merkle_Check_1 b4 (s1)) fun x2 => some x2) s b0 = some r → CallV Tryz.prog (.func (.func 36) #[] #[pt b3 0]) [.agg #[vU b0.1, vU b0.2]] w' fun v w'' => ∃ (M : Mem) (X' : List Ow), m' ≤ M ∧ St M (X' ++ As') w'' ∧ (X' = [bx b3 [vU ((r).1), vU ((r).2)] 36]) ∧ v = .tuple #[] := by
   intro m6 As1 w8 s1 X1 b4 r1 S10 h3 hm1
   subst h3
   replace S10 : St _ ((bx b3 [vU ((s1).1), vU ((s1).2)] 36) :: As1) _ := S10
   have L1 := Mem.rfl' m6
   obtain ⟨x2, q2, hm1⟩ := obind_some hm1
   refine CallV.mono (CallV.clo (pre := []) call36 rfl (w_merkle_Check_1 (a0 := b4) (k0 := (s1)) S10  q2)) ?_
   rintro _ w9 ⟨m7, l6, S11, rfl⟩
   replace L1 := Mem.tr L1 l6
   clear S10
   replace S11 : St _ ((bx b3 [vU x2.1, vU x2.2] 36) :: As1) _ := S11
   have e0 := Option.some.inj hm1
   subst e0
   exact ⟨_, [bx b3 [vU x2.1, vU x2.2] 36], L1, S11, rfl, rfl⟩
 have hcb2 : ∀ {m' : Mem} {As' : List Ow} {w' : World} {s : (UInt64 × UInt64)} {X : List Ow} {b0 : UInt64 × UInt64} {r : (UInt64 × UInt64)}, St m' (X ++ As') w' → (X = [bx b3 [vU ((s).1), vU ((s).2)] 36]) → (fun (s2 : (UInt64 × UInt64)) (b5 : UInt64 × UInt64) => obind (m_merkle_Check_2 b5 (s2)) fun x3 => some x3) s b0 = some r → CallV Tryz.prog (.func (.func 38) #[] #[pt b3 0]) [.agg #[vU b0.1, vU b0.2]] w' fun v w'' => ∃ (M : Mem) (X' : List Ow), m' ≤ M ∧ St M (X' ++ As') w'' ∧ (X' = [bx b3 [vU ((r).1), vU ((r).2)] 36]) ∧ v = .tuple #[] := by
   intro m8 As2 w10 s2 X2 b5 r2 S12 h4 hm2
   subst h4
   replace S12 : St _ ((bx b3 [vU ((s2).1), vU ((s2).2)] 36) :: As2) _ := S12
   have L2 := Mem.rfl' m8
   obtain ⟨x3, q3, hm2⟩ := obind_some hm2
   refine CallV.mono (CallV.clo (pre := []) call38 rfl (w_merkle_Check_2 (a0 := b5) (k0 := (s2)) S12  q3)) ?_
   rintro _ w11 ⟨m9, l7, S13, rfl⟩
   replace L2 := Mem.tr L2 l7
   clear S12
   replace S13 : St _ ((bx b3 [vU x3.1, vU x3.2] 36) :: As2) _ := S13
   have e0 := Option.some.inj hm2
   subst e0
   exact ⟨_, [bx b3 [vU x3.1, vU x3.2] 36], L2, S13, rfl, rfl⟩
 obtain ⟨x4, q4, hm⟩ := obind_some hm
 refine s_call call35 (w_merkle_climb (a0 := a1) (a1 := a2) (a2 := a3) (p3 := (fun (s1 : (UInt64 × UInt64)) (b4 : UInt64 × UInt64) => obind (m_merkle_Check_1 b4 (s1)) fun x2 => some x2)) (p4 := (fun (s2 : (UInt64 × UInt64)) (b5 : UInt64 × UInt64) => obind (m_merkle_Check_2 b5 (s2)) fun x3 => some x3)) (s0 := a0) (R := (fun (s : (UInt64 × UInt64)) (M : Mem) (X : List Ow) => (X = [bx b3 [vU ((s).1), vU ((s).2)] 36]))) (X0 := [bx b3 [vU a0.1, vU a0.2] 36]) (As := (bx b2 [vU a4.1, vU a4.2] 36) :: (bx b1 [vU a0.1, vU a0.2] 36) :: As) S9 (fun {_ _ _ _} _ h => h) rfl @hcb1 @hcb2 rfl rfl (a3h0.up l3) q4) rfl ?_
 rintro _ w12 ⟨m10, l8, X3, S14, rfl, rfl⟩
 clear S9
 refine wpl_nil <| nrm <| wpc_seq <| ws <| s_ld (i := 0) (cs := [vU x4.1, vU x4.2]) S14 rfl rfl isAgg36 sizeOf36 rfl (fun h => by cases h) <| s_ld (i := 1) (cs := [vU a4.1, vU a4.2]) S14 rfl rfl isAgg36 sizeOf36 rfl (fun h => by cases h) <| s_neqSum (p := x4) (q := a4) rfl rfl underlying36 underlying22 sizeOf22 isAgg22 eqGuardType36 <| wpl_nil <| nrm <| wpc_if (t := (!eqSum x4 a4)) rfl (fun hc3 => ?_) (fun hc3 => ?_)
 · replace hm := ifT hc3 hm
   refine ws <| s_asv (v := vI 71) rfl <| wpl_nil <| nrm <| wpc_ret <| thR <| outRw fun we hpd => ?_
   replace S14 := St.pd S14 hpd
   obtain ⟨m11, l9, S15⟩ := St.drop S14 0
   clear S14
   replace S15 : St _ ((bx b2 [vU a4.1, vU a4.2] 36) :: (bx b1 [vU a0.1, vU a0.2] 36) :: As) _ := S15
   obtain ⟨m12, l10, S16⟩ := St.drop S15 0
   clear S15
   replace S16 : St _ ((bx b1 [vU a0.1, vU a0.2] 36) :: As) _ := S16
   obtain ⟨m13, l11, S17⟩ := St.drop S16 0
   clear S16
   replace S17 : St _ (As) _ := S17
   have e0 := Option.some.inj hm
   subst e0
   replace L0 := Mem.tr L0 (mt l3 (mt l8 (mt l9 (mt l10 l11))))
   exact outR [_] rfl ⟨rfl, trivial⟩ ⟨_, L0, S17, rfl⟩
 replace hm := ifF hc3 hm
 refine wpc_skip <| nrm <| ws <| s_asv (v := vI 0) rfl <| wpl_nil <| nrm <| wpc_ret <| outRw fun we hpd => ?_
 replace S14 := St.pd S14 hpd
 obtain ⟨m14, l12, S18⟩ := St.drop S14 0
 clear S14
 replace S18 : St _ ((bx b2 [vU a4.1, vU a4.2] 36) :: (bx b1 [vU a0.1, vU a0.2] 36) :: As) _ := S18
 obtain ⟨m15, l13, S19⟩ := St.drop S18 0
 clear S18
 replace S19 : St _ ((bx b1 [vU a0.1, vU a0.2] 36) :: As) _ := S19
 obtain ⟨m16, l14, S20⟩ := St.drop S19 0
 clear S19
 replace S20 : St _ (As) _ := S20
 have e0 := Option.some.inj hm
 subst e0
 replace L0 := Mem.tr L0 (mt l3 (mt l8 (mt l12 (mt l13 l14))))
 exact outR [_] rfl ⟨rfl, trivial⟩ ⟨_, L0, S20, rfl⟩

def m_bits_TrailingZeros32 (a0 : UInt32) : Option Int :=
  if ((a0.toNat : Int) == 0) = true then
    some 32
  else
  obind (idx tab_0 ((shrW ((a0 &&& (toW (-(a0.toNat : Int)))) * 125613361) 27).toNat : Int)) fun x1 =>
  some (w64 (x1.toNat : Int))

theorem w_bits_TrailingZeros32 {m : Mem} {As : List Ow} {w : World} {a0 : UInt32} {r : Int} (S : St m (As) w) (T0 : PtC m (pt 0 0) (tab_0.map vB)) (hm : m_bits_TrailingZeros32 a0 = some r) :
    CallsR Tryz.prog 74 #[vW a0] w fun v w' => ∃ (M : Mem), m ≤ M ∧ St M (As) w' ∧ v = vI r := by
 unfold m_bits_TrailingZeros32 at hm
 have L0 := Mem.rfl' m
 refine callsR (args := [vW a0]) func74 rfl ntmps74 (nb rfl) <| ws <| s_asv (v := vI 0) rfl <| wpl_nil <| nrm <| wpc_seq <| ws <| s_mvv (v := vW a0) rfl <| s_eql (m := (a0.toNat : Int)) (n := 0) rfl rfl <| wpl_nil <| nrm <| wpc_if (t := ((a0.toNat : Int) == 0)) rfl (fun hc1 => ?_) (fun hc1 => ?_)
 · replace hm := ifT hc1 hm
   refine ws <| s_asv (v := vI 32) rfl <| wpl_nil <| nrm <| wpc_ret <| thR <| outRw fun we hpd => ?_
   replace S := St.pd S hpd
   have e0 := Option.some.inj hm
   subst e0
   exact outR [_] rfl ⟨rfl, trivial⟩ ⟨_, L0, S, rfl⟩
 replace hm := ifF hc1 hm
 refine wpc_skip <| nrm <| ws <| s_mvv (v := vW a0) rfl <| s_mvv (v := vW a0) rfl <| s_negW rfl <| s_andW (m := a0) (n := (toW (-(a0.toNat : Int)))) rfl rfl <| s_mulW (m := (a0 &&& (toW (-(a0.toNat : Int))))) (n := 125613361) rfl rfl <| s_shrW (m := ((a0 &&& (toW (-(a0.toNat : Int)))) * 125613361)) (n := 27) rfl rfl (by decide) ?_
 obtain ⟨x1, q1, hm⟩ := obind_some hm
 refine s_idxT (c := vB) (i := ((shrW ((a0 &&& (toW (-(a0.toNat : Int)))) * 125613361) 27).toNat : Int)) rfl rfl T0 q1 underlying140 rfl sizeOf5 fun p1 h1 => s_ldM (cs := [vB x1]) S rfl h1 rfl isAgg5 sizeOf5 (fun _ => rfl) <| s_convI rfl underlying5 underlying3 <| s_asv (v := vI (w64 (x1.toNat : Int))) rfl <| wpl_nil <| nrm <| wpc_ret <| outRw fun we hpd => ?_
 replace S := St.pd S hpd
 have e0 := Option.some.inj hm
 subst e0
 exact outR [_] rfl ⟨rfl, trivial⟩ ⟨_, L0, S, rfl⟩

def m_bits_TrailingZeros64 (a0 : UInt64) : Option Int :=
  if ((a0.toNat : Int) == 0) = true then
    some 64
  else
  obind (idx tab_1 ((shrU ((a0 &&& (toU (-(a0.toNat : Int)))) * 285870213051353865) 58).toNat : Int)) fun x1 =>
  some (w64 (x1.toNat : Int))

theorem w_bits_TrailingZeros64 {m : Mem} {As : List Ow} {w : World} {a0 : UInt64} {r : Int} (S : St m (As) w) (T1 : PtC m (pt 1 0) (tab_1.map vB)) (hm : m_bits_TrailingZeros64 a0 = some r) :
    CallsR Tryz.prog 75 #[vU a0] w fun v w' => ∃ (M : Mem), m ≤ M ∧ St M (As) w' ∧ v = vI r := by
 unfold m_bits_TrailingZeros64 at hm
 have L0 := Mem.rfl' m
 refine callsR (args := [vU a0]) func75 rfl ntmps75 (nb rfl) <| ws <| s_asv (v := vI 0) rfl <| wpl_nil <| nrm <| wpc_seq <| ws <| s_mvv (v := vU a0) rfl <| s_eql (m := (a0.toNat : Int)) (n := 0) rfl rfl <| wpl_nil <| nrm <| wpc_if (t := ((a0.toNat : Int) == 0)) rfl (fun hc1 => ?_) (fun hc1 => ?_)
 · replace hm := ifT hc1 hm
   refine ws <| s_asv (v := vI 64) rfl <| wpl_nil <| nrm <| wpc_ret <| thR <| outRw fun we hpd => ?_
   replace S := St.pd S hpd
   have e0 := Option.some.inj hm
   subst e0
   exact outR [_] rfl ⟨rfl, trivial⟩ ⟨_, L0, S, rfl⟩
 replace hm := ifF hc1 hm
 refine wpc_skip <| nrm <| ws <| s_mvv (v := vU a0) rfl <| s_mvv (v := vU a0) rfl <| s_negU rfl <| s_andU (m := a0) (n := (toU (-(a0.toNat : Int)))) rfl rfl <| s_mulU (m := (a0 &&& (toU (-(a0.toNat : Int))))) (n := 285870213051353865) rfl rfl <| s_shrU (m := ((a0 &&& (toU (-(a0.toNat : Int)))) * 285870213051353865)) (n := 58) rfl rfl (by decide) ?_
 obtain ⟨x1, q1, hm⟩ := obind_some hm
 refine s_idxT (c := vB) (i := ((shrU ((a0 &&& (toU (-(a0.toNat : Int)))) * 285870213051353865) 58).toNat : Int)) rfl rfl T1 q1 underlying141 rfl sizeOf5 fun p1 h1 => s_ldM (cs := [vB x1]) S rfl h1 rfl isAgg5 sizeOf5 (fun _ => rfl) <| s_convI rfl underlying5 underlying3 <| s_asv (v := vI (w64 (x1.toNat : Int))) rfl <| wpl_nil <| nrm <| wpc_ret <| outRw fun we hpd => ?_
 replace S := St.pd S hpd
 have e0 := Option.some.inj hm
 subst e0
 exact outR [_] rfl ⟨rfl, trivial⟩ ⟨_, L0, S, rfl⟩

def m_bits_TrailingZeros (a0 : UInt64) : Option Int :=
  obind (m_bits_TrailingZeros64 a0) fun x1 =>
  some x1

theorem w_bits_TrailingZeros {m : Mem} {As : List Ow} {w : World} {a0 : UInt64} {r : Int} (S : St m (As) w) (T1 : PtC m (pt 1 0) (tab_1.map vB)) (hm : m_bits_TrailingZeros a0 = some r) :
    CallsR Tryz.prog 39 #[vU a0] w fun v w' => ∃ (M : Mem), m ≤ M ∧ St M (As) w' ∧ v = vI r := by
 unfold m_bits_TrailingZeros at hm
 have L0 := Mem.rfl' m
 refine callsR (args := [vU a0]) func39 rfl ntmps39 (nb rfl) <| ws <| s_asv (v := vI 0) rfl <| wpl_nil <| nrm <| wpc_seq <| wpc_false rfl <| wpc_skip <| nrm <| ws <| s_mvv (v := vU a0) rfl ?_
 obtain ⟨x1, q1, hm⟩ := obind_some hm
 refine s_call call75 (w_bits_TrailingZeros64 (a0 := a0) S T1 q1) rfl ?_
 rintro _ w1 ⟨m1, l1, S1, rfl⟩
 clear S
 refine s_asv (v := vI x1) rfl <| wpl_nil <| nrm <| wpc_ret <| outRw fun we hpd => ?_
 replace S1 := St.pd S1 hpd
 have e0 := Option.some.inj hm
 subst e0
 replace L0 := Mem.tr L0 l1
 exact outR [_] rfl ⟨rfl, trivial⟩ ⟨_, L0, S1, rfl⟩

def m_merkle_CheckGrow_1 (a0 : UInt64 × UInt64) (k0 : UInt64 × UInt64) (k1 : UInt64 × UInt64) : Option ((UInt64 × UInt64) × (UInt64 × UInt64)) :=
  obind (m_hash_Pair a0 k0) fun x1 =>
  obind (m_hash_Pair a0 k1) fun x2 =>
  some (x1, x2)

theorem w_merkle_CheckGrow_1 {m : Mem} {As : List Ow} {w : World} {a0 : UInt64 × UInt64} {kb0 : Nat} {k0 : UInt64 × UInt64} {kb1 : Nat} {k1 : UInt64 × UInt64} {r : (UInt64 × UInt64) × (UInt64 × UInt64)} (S : St m ((bx kb0 [vU k0.1, vU k0.2] 36) :: (bx kb1 [vU k1.1, vU k1.2] 36) :: As) w) (hm : m_merkle_CheckGrow_1 a0 k0 k1 = some r) :
    CallsR Tryz.prog 40 #[.agg #[vU a0.1, vU a0.2], pt kb0 0, pt kb1 0] w fun v w' => ∃ (M : Mem), m ≤ M ∧ St M ((bx kb0 [vU r.1.1, vU r.1.2] 36) :: (bx kb1 [vU r.2.1, vU r.2.2] 36) :: As) w' ∧ v = .tuple #[] := by
 unfold m_merkle_CheckGrow_1 at hm
 have L0 := Mem.rfl' m
 refine callsR (args := [.agg #[vU a0.1, vU a0.2], pt kb0 0, pt kb1 0]) func40 rfl ntmps40 (nb rfl) <| ws <| s_box S rfl fun b1 w1 S1 => ?_
 replace S1 : St _ ((bx b1 [vU a0.1, vU a0.2] 36) :: (bx kb0 [vU k0.1, vU k0.2] 36) :: (bx kb1 [vU k1.1, vU k1.2] 36) :: As) _ := S1
 clear S
 refine wpl_nil <| nrm ?_
 obtain ⟨x1, q1, hm⟩ := obind_some hm
 have HM : MonoAll [(4, fv (.agg #[vU a0.1, vU a0.2])), (5, fv (.agg #[vU k0.1, vU k0.2])), (6, fv (.agg #[vU x1.1, vU x1.2])), (7, fv (.agg #[vU a0.1, vU a0.2])), (8, fv (.agg #[vU k1.1, vU k1.2]))] := ⟨mv, mv, mv, mv, mv, trivial⟩
 refine wpc_flowG HM 5 mixed rfl rfl rfl (rg 4 5) (fun L f M w => St M ((bx b1 [vU a0.1, vU a0.2] 36) :: (bx kb0 [vU k0.1, vU k0.2] 36) :: (bx kb1 [vU k1.1, vU k1.2] 36) :: As) w) (St.drew S1 _) ?_ ?_
 · refine ⟨?_, ?_, ?_, ?_, ?_, trivial⟩
   · exact flp HM rfl [] (fun _ _ => trivial) (fun _ S2 q => s_ld (i := 0) (cs := [vU a0.1, vU a0.2]) S2 rfl rfl isAgg36 sizeOf36 rfl (fun h => by cases h) q) rfl
   · exact flp HM rfl [] (fun _ _ => trivial) (fun _ S3 q => s_ld (i := 1) (cs := [vU k0.1, vU k0.2]) S3 rfl rfl isAgg36 sizeOf36 rfl (fun h => by cases h) q) rfl
   · intro L f3 w4 hL hd hc ⟨m3, L5, S4, K, hO⟩
     obtain ⟨u3, rfl⟩ := fr_of (N := 10) (L := [(4, _), (5, _)]) hO ⟨K 0 (dep hd rfl), K 1 (dep hd rfl), trivial⟩
     have L6 := Mem.rfl' m3
     refine s_call call37 (w_hash_Pair (a0 := a0) (a1 := k0) S4  q1) rfl ?_
     rintro _ w5 ⟨m4, l1, S5, rfl⟩
     clear S4
     refine wpn ?_
     replace L6 := Mem.tr L6 l1
     exact ⟨m4, Mem.tr L5 L6, S5, facts_step HM rfl K L6 rfl rfl rfl, outP⟩
   · exact flp HM rfl [] (fun _ _ => trivial) (fun _ S6 q => s_ld (i := 0) (cs := [vU a0.1, vU a0.2]) S6 rfl rfl isAgg36 sizeOf36 rfl (fun h => by cases h) q) rfl
   · exact flp HM rfl [] (fun _ _ => trivial) (fun _ S7 q => s_ld (i := 2) (cs := [vU k1.1, vU k1.2]) S7 rfl rfl isAgg36 sizeOf36 rfl (fun h => by cases h) q) rfl
 intro L f6 w8 hall ⟨m7, L11, S8, K, hO⟩
 have d2 : L 2 = true := hall 2 (by decide)
 have d3 : L 3 = true := hall 3 (by decide)
 have d4 : L 4 = true := hall 4 (by decide)
 obtain ⟨u6, rfl⟩ := fr_of (N := 10) (L := [(6, _), (7, _), (8, _)]) hO ⟨K 2 d2, K 3 d3, K 4 d4, trivial⟩
 replace S8 : St _ ((bx b1 [vU a0.1, vU a0.2] 36) :: (bx kb0 [vU k0.1, vU k0.2] 36) :: (bx kb1 [vU k1.1, vU k1.2] 36) :: As) _ := S8
 clear S1
 obtain ⟨x2, q2, hm⟩ := obind_some hm
 refine s_call call37 (w_hash_Pair (a0 := a0) (a1 := k1) S8  q2) rfl ?_
 rintro _ w9 ⟨m8, l2, S9, rfl⟩
 clear S8
 refine s_stL (i := 1) S9 rfl rfl rfl sizeOf36 (oneC rfl (oneC rfl oneN)) rfl fun w10 S10 => s_stL (i := 2) S10 rfl rfl rfl sizeOf36 (oneC rfl (oneC rfl oneN)) rfl fun w11 S11 => ?_
 replace S11 : St _ ((bx b1 [vU a0.1, vU a0.2] 36) :: (bx kb0 [vU x1.1, vU x1.2] 36) :: (bx kb1 [vU x2.1, vU x2.2] 36) :: As) _ := S11
 clear S9 S10
 refine wpl_nil <| outNw fun we hpd => ?_
 replace S11 := St.pd S11 hpd
 obtain ⟨m9, l3, S12⟩ := St.drop S11 0
 clear S11
 replace S12 : St _ ((bx kb0 [vU x1.1, vU x1.2] 36) :: (bx kb1 [vU x2.1, vU x2.2] 36) :: As) _ := S12
 have e0 := Option.some.inj hm
 subst e0
 replace L0 := Mem.tr L0 (mt L11 (mt l2 l3))
 exact outR [] rfl trivial ⟨_, L0, S12, rfl⟩

def m_merkle_CheckGrow_2 (a0 : UInt64 × UInt64) (k0 : UInt64 × UInt64) : Option (UInt64 × UInt64) :=
  obind (m_hash_Pair k0 a0) fun x1 =>
  some x1

theorem w_merkle_CheckGrow_2 {m : Mem} {As : List Ow} {w : World} {a0 : UInt64 × UInt64} {kb0 : Nat} {k0 : UInt64 × UInt64} {r : UInt64 × UInt64} (S : St m ((bx kb0 [vU k0.1, vU k0.2] 36) :: As) w) (hm : m_merkle_CheckGrow_2 a0 k0 = some r) :
    CallsR Tryz.prog 41 #[.agg #[vU a0.1, vU a0.2], pt kb0 0] w fun v w' => ∃ (M : Mem), m ≤ M ∧ St M ((bx kb0 [vU r.1, vU r.2] 36) :: As) w' ∧ v = .tuple #[] := by
 unfold m_merkle_CheckGrow_2 at hm
 have L0 := Mem.rfl' m
 refine callsR (args := [.agg #[vU a0.1, vU a0.2], pt kb0 0]) func41 rfl ntmps41 (nb rfl) <| ws <| s_box S rfl fun b1 w1 S1 => ?_
 replace S1 : St _ ((bx b1 [vU a0.1, vU a0.2] 36) :: (bx kb0 [vU k0.1, vU k0.2] 36) :: As) _ := S1
 clear S
 refine wpl_nil <| nrm <| wpc_region <| s_ld (i := 1) (cs := [vU k0.1, vU k0.2]) S1 rfl rfl isAgg36 sizeOf36 rfl (fun h => by cases h) <| s_ld (i := 0) (cs := [vU a0.1, vU a0.2]) S1 rfl rfl isAgg36 sizeOf36 rfl (fun h => by cases h) ?_
 obtain ⟨x1, q1, hm⟩ := obind_some hm
 refine s_call call37 (w_hash_Pair (a0 := k0) (a1 := a0) S1  q1) rfl ?_
 rintro _ w2 ⟨m1, l1, S2, rfl⟩
 clear S1
 refine s_stL (i := 1) S2 rfl rfl rfl sizeOf36 (oneC rfl (oneC rfl oneN)) rfl fun w3 S3 => ?_
 replace S3 : St _ ((bx b1 [vU a0.1, vU a0.2] 36) :: (bx kb0 [vU x1.1, vU x1.2] 36) :: As) _ := S3
 clear S2
 refine wpl_nil <| outNw fun we hpd => ?_
 replace S3 := St.pd S3 hpd
 obtain ⟨m2, l2, S4⟩ := St.drop S3 0
 clear S3
 replace S4 : St _ ((bx kb0 [vU x1.1, vU x1.2] 36) :: As) _ := S4
 have e0 := Option.some.inj hm
 subst e0
 replace L0 := Mem.tr L0 (mt l1 l2)
 exact outR [] rfl trivial ⟨_, L0, S4, rfl⟩

def m_merkle_CheckGrow (a0 : Int) (a1 : Int) (a2 : UInt64 × UInt64) (a3 : UInt64 × UInt64) (a4 : List (UInt64 × UInt64)) : Option Int :=
  if (((decide (a0 < 0)) || (decide (a0 > a1))) || (decide (a1 > 256))) = true then
    some 1
  else
  if ((a0 == 0) || (a0 == a1)) = true then
    bnd ((decide ((a4.length : Int) > 0))) fun x1 =>
    if x1 = true then
      some 80
    else
    obind (
      obind (gu (a0 == 0) (m_merkle_Root ([] : List (UInt64 × UInt64)))) fun x3 =>
      bnd (((a0 == 0) && (!eqSum a2 x3))) fun x4 =>
      if x4 = true then
        some x4
      else
      bnd (((decide (a0 > 0)) && (!eqSum a2 a3))) fun x5 =>
      some x5
    ) fun x2 =>
    if x2 = true then
      some 71
    else
    some 0
  else
  obind (m_merkle_steps (w64 (a0 - 1)) a1) fun x6 =>
  obind (m_bits_TrailingZeros (toU a0)) fun x7 =>
  bnd ((w64 ((w64 (x6.1 - x7)) + x6.2))) fun x8 =>
  obind (
    if (0 : Int) ≤ x7 then
      if (a0 != (shl64 1 x7.toNat)) = true then
        some (w64 (x8 + 1))
      else
      some x8
    else none
  ) fun x9 =>
  if ((a4.length : Int) != x9) = true then
    some 80
  else
  obind (
    if (0 : Int) ≤ x7 then
      if (a0 != (shl64 1 x7.toNat)) = true then
        obind (idx a4 0) fun x11 =>
        obind (cut a4 1 (a4.length : Int)) fun x12 =>
        some (x12, x11.1, x11.2)
      else
      some (a4, a2.1, a2.2)
    else none
  ) fun x10 =>
  if (0 : Int) ≤ x7 then
    if (0 : Int) ≤ x7 then
      obind (m_merkle_climb (shr64 (w64 (a0 - 1)) x7.toNat) (w64 ((shr64 (w64 (a1 - 1)) x7.toNat) + 1)) x10.1 (fun (s1 : (UInt64 × UInt64) × (UInt64 × UInt64)) (b10 : UInt64 × UInt64) => obind (m_merkle_CheckGrow_1 b10 ((s1).1) ((s1).2)) fun x13 => some (x13.1, x13.2)) (fun (s2 : (UInt64 × UInt64) × (UInt64 × UInt64)) (b11 : UInt64 × UInt64) => obind (m_merkle_CheckGrow_2 b11 ((s2).2)) fun x14 => some (((s2).1), x14)) (x10.2, x10.2)) fun x15 =>
      if ((!eqSum x15.1 a2) || (!eqSum x15.2 a3)) = true then
        some 71
      else
      some 0
    else none
  else none

theorem w_merkle_CheckGrow {m : Mem} {As : List Ow} {w : World} {a0 : Int} {a1 : Int} {a2 : UInt64 × UInt64} {a3 : UInt64 × UInt64} {a4 : List (UInt64 × UInt64)} {a4v0 : Value} {r : Int} (S : St m (As) w) (T1 : PtC m (pt 1 0) (tab_1.map vB)) (a4h0 : SlR m a4v0 a4) (hm : m_merkle_CheckGrow a0 a1 a2 a3 a4 = some r) :
    CallsR Tryz.prog 14 #[vI a0, vI a1, .agg #[vU a2.1, vU a2.2], .agg #[vU a3.1, vU a3.2], a4v0] w fun v w' => ∃ (M : Mem), m ≤ M ∧ St M (As) w' ∧ v = vI r := by
 unfold m_merkle_CheckGrow at hm
 have L0 := Mem.rfl' m
 refine callsR (args := [vI a0, vI a1, .agg #[vU a2.1, vU a2.2], .agg #[vU a3.1, vU a3.2], a4v0]) func14 rfl ntmps14 (nb rfl) <| ws <| s_box S rfl fun b1 w1 S1 => ?_
 replace S1 : St _ ((bx b1 [vU a2.1, vU a2.2] 36) :: As) _ := S1
 clear S
 refine s_box S1 rfl fun b2 w2 S2 => ?_
 replace S2 : St _ ((bx b2 [vU a3.1, vU a3.2] 36) :: (bx b1 [vU a2.1, vU a2.2] 36) :: As) _ := S2
 clear S1
 refine s_asv (v := vI 0) rfl <| wpl_nil <| nrm <| wpc_seq <| ws <| s_mvv (v := vI a0) rfl <| s_lss (m := a0) (n := 0) rfl rfl <| s_mvv (v := vb (decide (a0 < 0))) rfl <| wpl_cut 4 [21, 22, 23, 24] (fun f' w' => w' = w2 ∧ AllAt f' [(24, vb ((decide (a0 < 0)) || (decide (a0 > a1))))]) ?_ ?_
 · rcases bool_tf (decide (a0 < 0)) with hb1 | hb1
   · exact wpl_no (d := 20) rfl rfl (cb hb1) <| wpl_no (d := 20) rfl rfl (cb hb1) <| wpl_no (d := 20) rfl rfl (cb hb1) <| s_pickT (cb hb1) rfl <| wpl_nil (nrm ⟨outP, rfl, congrArg Value.bool (or_t hb1), trivial⟩)
   · exact wpl_yes (d := 20) rfl rfl (cb hb1) <| s_mvv (v := vI a0) rfl <| wpl_yes (d := 20) rfl rfl (cb hb1) <| s_mvv (v := vI a1) rfl <| wpl_yes (d := 20) rfl rfl (cb hb1) <| s_gtr (m := a0) (n := a1) rfl rfl <| s_pickF (cb hb1) rfl <| wpl_nil (nrm ⟨outP, rfl, congrArg Value.bool (or_f hb1), trivial⟩)
 rintro f1 w3 ho ⟨h1, ha⟩
 subst h1
 obtain ⟨u1, rfl⟩ := fr_of (N := 113) ho ha
 refine s_mvv (v := vb ((decide (a0 < 0)) || (decide (a0 > a1)))) rfl <| wpl_cut 3 [26, 27, 28] (fun f' w' => w' = w3 ∧ AllAt f' [(28, vb (((decide (a0 < 0)) || (decide (a0 > a1))) || (decide (a1 > 256))))]) ?_ ?_
 · rcases bool_tf ((decide (a0 < 0)) || (decide (a0 > a1))) with hb2 | hb2
   · exact wpl_no (d := 25) rfl rfl (cb hb2) <| wpl_no (d := 25) rfl rfl (cb hb2) <| s_pickT (cb hb2) rfl <| wpl_nil (nrm ⟨outP, rfl, congrArg Value.bool (or_t hb2), trivial⟩)
   · exact wpl_yes (d := 25) rfl rfl (cb hb2) <| s_mvv (v := vI a1) rfl <| wpl_yes (d := 25) rfl rfl (cb hb2) <| s_gtr (m := a1) (n := 256) rfl rfl <| s_pickF (cb hb2) rfl <| wpl_nil (nrm ⟨outP, rfl, congrArg Value.bool (or_f hb2), trivial⟩)
 rintro f2 w4 ho ⟨h2, ha⟩
 subst h2
 obtain ⟨u2, rfl⟩ := fr_of (N := 113) ho ha
 refine wpl_nil <| nrm <| wpc_if (t := (((decide (a0 < 0)) || (decide (a0 > a1))) || (decide (a1 > 256)))) rfl (fun hc1 => ?_) (fun hc1 => ?_)
 · replace hm := ifT hc1 hm
   refine ws <| s_asv (v := vI 1) rfl <| wpl_nil <| nrm <| wpc_ret <| thR <| outRw fun we hpd => ?_
   replace S2 := St.pd S2 hpd
   obtain ⟨m1, l1, S3⟩ := St.drop S2 0
   clear S2
   replace S3 : St _ ((bx b1 [vU a2.1, vU a2.2] 36) :: As) _ := S3
   obtain ⟨m2, l2, S4⟩ := St.drop S3 0
   clear S3
   replace S4 : St _ (As) _ := S4
   have e0 := Option.some.inj hm
   subst e0
   replace L0 := Mem.tr L0 (mt l1 l2)
   exact outR [_] rfl ⟨rfl, trivial⟩ ⟨_, L0, S4, rfl⟩
 replace hm := ifF hc1 hm
 refine wpc_skip <| nrm <| wpc_seq <| ws <| s_mvv (v := vI a0) rfl <| s_eql (m := a0) (n := 0) rfl rfl <| s_mvv (v := vb (a0 == 0)) rfl <| wpl_cut 4 [32, 33, 34, 35] (fun f' w' => w' = w4 ∧ AllAt f' [(35, vb ((a0 == 0) || (a0 == a1)))]) ?_ ?_
 · rcases bool_tf (a0 == 0) with hb3 | hb3
   · exact wpl_no (d := 31) rfl rfl (cb hb3) <| wpl_no (d := 31) rfl rfl (cb hb3) <| wpl_no (d := 31) rfl rfl (cb hb3) <| s_pickT (cb hb3) rfl <| wpl_nil (nrm ⟨outP, rfl, congrArg Value.bool (or_t hb3), trivial⟩)
   · exact wpl_yes (d := 31) rfl rfl (cb hb3) <| s_mvv (v := vI a0) rfl <| wpl_yes (d := 31) rfl rfl (cb hb3) <| s_mvv (v := vI a1) rfl <| wpl_yes (d := 31) rfl rfl (cb hb3) <| s_eql (m := a0) (n := a1) rfl rfl <| s_pickF (cb hb3) rfl <| wpl_nil (nrm ⟨outP, rfl, congrArg Value.bool (or_f hb3), trivial⟩)
 rintro f3 w5 ho ⟨h3, ha⟩
 subst h3
 obtain ⟨u3, rfl⟩ := fr_of (N := 113) ho ha
 refine wpl_nil <| nrm <| wpc_if (t := ((a0 == 0) || (a0 == a1))) rfl (fun hc2 => ?_) (fun hc2 => ?_)
 · replace hm := ifT hc2 hm
   refine wpc_seq <| wpc_block <| ws <| s_mvv (v := a4v0) rfl <| s_lenR (xs := a4) rfl a4h0 underlying43 <| s_gtr (m := (a4.length : Int)) (n := 0) rfl rfl ?_
   obtain ⟨x1, q1, hm⟩ := bnd_eq hm
   refine s_asv (v := vb x1) (congrArg (fun z => vb z) q1.symm) <| wpl_nil <| nrm <| wpc_if (t := x1) rfl (fun hc3 => ?_) (fun hc3 => ?_)
   · replace hm := ifT hc3 hm
     refine ws <| s_asv (v := vI 80) rfl <| wpl_nil <| nrm <| wpc_ret <| blR <| thR <| thR <| outRw fun we hpd => ?_
     replace S2 := St.pd S2 hpd
     obtain ⟨m3, l3, S5⟩ := St.drop S2 0
     clear S2
     replace S5 : St _ ((bx b1 [vU a2.1, vU a2.2] 36) :: As) _ := S5
     obtain ⟨m4, l4, S6⟩ := St.drop S5 0
     clear S5
     replace S6 : St _ (As) _ := S6
     have e0 := Option.some.inj hm
     subst e0
     replace L0 := Mem.tr L0 (mt l3 l4)
     exact outR [_] rfl ⟨rfl, trivial⟩ ⟨_, L0, S6, rfl⟩
   replace hm := ifF hc3 hm
   obtain ⟨x2, q2, hm⟩ := obind_some hm
   have L1 := Mem.rfl' m
   refine wpc_seq <| wpc_join (rg 40 15) (fun f' w' => ∃ (M1 : Mem), m ≤ M1 ∧ St M1 ((bx b2 [vU a3.1, vU a3.2] 36) :: (bx b1 [vU a2.1, vU a2.2] 36) :: As) w' ∧ AllAt f' [(40, vb x2)]) ?_ ?_
   · refine wpc_seq ?_
     obtain ⟨x3, q3, q2⟩ := obind_some q2
     have HM : MonoAll [(41, fv (vI a0)), (42, fv (vb (a0 == 0))), (43, fv (vb (a0 == 0))), (44, fc (a0 == 0) (fv (.agg #[vU a2.1, vU a2.2]))), (45, fc (a0 == 0) (fv (.agg #[vU x3.1, vU x3.2]))), (46, fc (a0 == 0) (fv (vb (!eqSum a2 x3)))), (47, fv (vb ((a0 == 0) && (!eqSum a2 x3))))] := ⟨mv, mv, mv, (mc mv), (mc mv), (mc mv), mv, trivial⟩
     refine wpc_flowG HM 7 mixed rfl rfl rfl (rg 41 7) (fun L f M w => St M ((bx b2 [vU a3.1, vU a3.2] 36) :: (bx b1 [vU a2.1, vU a2.2] 36) :: As) w) (St.drew S2 _) ?_ ?_
     · refine ⟨?_, ?_, ?_, ?_, ?_, ?_, ?_, trivial⟩
       · exact flp HM rfl [] (fun _ _ => trivial) (fun _ _ q => s_mvv (v := vI a0) rfl q) rfl
       · exact flp HM rfl [(41, _)] (fun K _ => ⟨K 0 rfl, trivial⟩) (fun _ _ q => s_eql (m := a0) (n := 0) rfl rfl q) rfl
       · exact flp HM rfl [(42, _)] (fun K _ => ⟨K 1 rfl, trivial⟩) (fun _ _ q => s_mvv (v := vb (a0 == 0)) rfl q) rfl
       · exact flg HM rfl rfl (fun K _ => K 2 rfl) [] (fun _ _ _ => trivial) (fun _ => fun _ S10 q => s_ld (i := 1) (cs := [vU a2.1, vU a2.2]) S10 rfl rfl isAgg36 sizeOf36 rfl (fun h => by cases h) q) (fun _ => rfl)
       · refine flb HM rfl rfl (fun K _ => K 2 rfl) fun hb5 => ?_
         intro L f8 w10 hL hd hc ⟨m9, L10, S11, K, hO⟩
         obtain ⟨u8, rfl⟩ := fr_of (N := 113) (L := []) hO trivial
         replace S11 : St _ ((bx b2 [vU a3.1, vU a3.2] 36) :: (bx b1 [vU a2.1, vU a2.2] 36) :: As) _ := S11
         have L11 := Mem.rfl' m9
         replace q3 := gu_t hb5 q3
         refine s_call call27 (w_merkle_Root (a0 := ([] : List (UInt64 × UInt64))) S11 (SlR.nil (a := none) (c := 0)) q3) rfl ?_
         rintro _ w11 ⟨m10, l5, S12, rfl⟩
         clear S11
         refine wpn ?_
         replace L11 := Mem.tr L11 l5
         exact ⟨m10, Mem.tr L10 L11, S12, facts_step HM rfl K L11 rfl rfl ⟨fun _ => rfl, fun hx => tf hb5 hx⟩, outP⟩
       · exact flg HM rfl rfl (fun K _ => K 2 rfl) [(44, _), (45, _)] (fun K _ hb => ⟨(K 3 rfl).1 hb, (K 4 rfl).1 hb, trivial⟩) (fun _ => fun _ _ q => s_neqSum (p := a2) (q := x3) rfl rfl underlying36 underlying22 sizeOf22 isAgg22 eqGuardType36 q) (fun _ => rfl)
       · exact flc HM rfl (a0 == 0) [(43, _), (46, _)] [(43, _)] (fun K _ hb => ⟨K 2 rfl, (K 5 rfl).1 hb, trivial⟩) (fun K _ _ => ⟨K 2 rfl, trivial⟩) (fun hb => fun _ _ q => s_pickT (cb hb) rfl q) (fun hb => fun _ _ q => s_pickF (cb hb) rfl q) (fun hb => cb (and_t hb)) (fun hb => cb (and_f hb))
     intro L f11 w14 hall ⟨m13, L17, S15, K, hO⟩
     have d6 : L 6 = true := hall 6 (by decide)
     obtain ⟨u12, rfl⟩ := fr_of (N := 113) (L := [(47, _)]) hO ⟨K 6 d6, trivial⟩
     replace S15 : St _ ((bx b2 [vU a3.1, vU a3.2] 36) :: (bx b1 [vU a2.1, vU a2.2] 36) :: As) _ := S15
     clear S2
     obtain ⟨x4, q4, q2⟩ := bnd_eq q2
     refine s_asv (v := vb x4) (congrArg (fun z => vb z) q4.symm) <| wpl_nil <| nrm <| wpc_if (t := x4) rfl (fun hc4 => ?_) (fun hc4 => ?_)
     · replace q2 := ifT hc4 q2
       refine wpc_skip <| nrm ?_
       have e0 := Option.some.inj q2
       subst e0
       replace L1 := Mem.tr L1 L17
       exact ⟨outP, m13, L1, S15, ⟨rfl, trivial⟩⟩
     replace q2 := ifF hc4 q2
     refine wpc_region <| s_mvv (v := vI a0) rfl <| s_gtr (m := a0) (n := 0) rfl rfl <| s_mvv (v := vb (decide (a0 > 0))) rfl <| wpl_cut 4 [51, 52, 53, 54] (fun f' w' => w' = w14 ∧ AllAt f' [(54, vb ((decide (a0 > 0)) && (!eqSum a2 a3)))]) ?_ ?_
     · rcases bool_tf (decide (a0 > 0)) with hb8 | hb8
       · exact wpl_yes (d := 50) rfl rfl (cb hb8) <| s_ld (i := 1) (cs := [vU a2.1, vU a2.2]) S15 rfl rfl isAgg36 sizeOf36 rfl (fun h => by cases h) <| wpl_yes (d := 50) rfl rfl (cb hb8) <| s_ld (i := 0) (cs := [vU a3.1, vU a3.2]) S15 rfl rfl isAgg36 sizeOf36 rfl (fun h => by cases h) <| wpl_yes (d := 50) rfl rfl (cb hb8) <| s_neqSum (p := a2) (q := a3) rfl rfl underlying36 underlying22 sizeOf22 isAgg22 eqGuardType36 <| s_pickT (cb hb8) rfl <| wpl_nil (nrm ⟨outP, rfl, congrArg Value.bool (and_t hb8), trivial⟩)
       · exact wpl_no (d := 50) rfl rfl (cb hb8) <| wpl_no (d := 50) rfl rfl (cb hb8) <| wpl_no (d := 50) rfl rfl (cb hb8) <| s_pickF (cb hb8) rfl <| wpl_nil (nrm ⟨outP, rfl, congrArg Value.bool (and_f hb8), trivial⟩)
     rintro f12 w15 ho ⟨h4, ha⟩
     subst h4
     obtain ⟨u13, rfl⟩ := fr_of (N := 113) ho ha
     obtain ⟨x5, q5, q2⟩ := bnd_eq q2
     refine s_asv (v := vb x5) (congrArg (fun z => vb z) q5.symm) <| wpl_nil <| nrm ?_
     have e0 := Option.some.inj q2
     subst e0
     replace L1 := Mem.tr L1 L17
     exact ⟨outP, m13, L1, S15, ⟨rfl, trivial⟩⟩
   rintro f13 w16 ho ⟨m14, l6, S16, ha⟩
   obtain ⟨u14, rfl⟩ := fr_of (N := 113) ho ha
   clear S2
   refine wpc_if (t := x2) rfl (fun hc5 => ?_) (fun hc5 => ?_)
   · replace hm := ifT hc5 hm
     refine ws <| s_asv (v := vI 71) rfl <| wpl_nil <| nrm <| wpc_ret <| blR <| thR <| thR <| outRw fun we hpd => ?_
     replace S16 := St.pd S16 hpd
     obtain ⟨m15, l7, S17⟩ := St.drop S16 0
     clear S16
     replace S17 : St _ ((bx b1 [vU a2.1, vU a2.2] 36) :: As) _ := S17
     obtain ⟨m16, l8, S18⟩ := St.drop S17 0
     clear S17
     replace S18 : St _ (As) _ := S18
     have e0 := Option.some.inj hm
     subst e0
     replace L0 := Mem.tr L0 (mt l6 (mt l7 l8))
     exact outR [_] rfl ⟨rfl, trivial⟩ ⟨_, L0, S18, rfl⟩
   replace hm := ifF hc5 hm
   refine wpc_skip <| nrmB <| nrm <| ws <| s_asv (v := vI 0) rfl <| wpl_nil <| nrm <| wpc_ret <| thR <| outRw fun we hpd => ?_
   replace S16 := St.pd S16 hpd
   obtain ⟨m17, l9, S19⟩ := St.drop S16 0
   clear S16
   replace S19 : St _ ((bx b1 [vU a2.1, vU a2.2] 36) :: As) _ := S19
   obtain ⟨m18, l10, S20⟩ := St.drop S19 0
   clear S19
   replace S20 : St _ (As) _ := S20
   have e0 := Option.some.inj hm
   subst e0
   replace L0 := Mem.tr L0 (mt l6 (mt l9 l10))
   exact outR [_] rfl ⟨rfl, trivial⟩ ⟨_, L0, S20, rfl⟩
 replace hm := ifF hc2 hm
 refine wpc_skip <| nrm <| ws <| s_mvv (v := vI a0) rfl <| s_subI (m := a0) (n := 1) rfl rfl <| s_mvv (v := vI a1) rfl ?_
 obtain ⟨x6, q6, hm⟩ := obind_some hm
 refine s_call call34 (w_merkle_steps (a0 := (w64 (a0 - 1))) (a1 := a1) S2  q6) rfl ?_
 rintro _ w17 ⟨m19, l11, S21, rfl⟩
 clear S2
 refine s_mvv (v := .tuple #[vI x6.1, vI x6.2]) rfl <| s_ext (i := 0) rfl rfl <| s_ext (i := 1) rfl rfl <| s_asv (v := vI x6.1) rfl <| s_asv (v := vI x6.2) rfl <| nx <| s_mvv (v := vI a0) rfl <| s_convU rfl underlying3 underlying88 ?_
 obtain ⟨x7, q7, hm⟩ := obind_some hm
 refine s_call call39 (w_bits_TrailingZeros (a0 := (toU a0)) S21 (T1.up l11) q7) rfl ?_
 rintro _ w18 ⟨m20, l12, S22, rfl⟩
 clear S21
 refine s_asv (v := vI x7) rfl <| nx <| s_mvv (v := vI x6.1) rfl <| s_mvv (v := vI x7) rfl <| s_subI (m := x6.1) (n := x7) rfl rfl <| s_mvv (v := vI x6.2) rfl <| s_addI (m := (w64 (x6.1 - x7))) (n := x6.2) rfl rfl ?_
 obtain ⟨x8, q8, hm⟩ := bnd_eq hm
 refine s_asv (v := vI x8) (congrArg (fun z => vI z) q8.symm) <| nx <| s_ld (i := 1) (cs := [vU a2.1, vU a2.2]) S22 rfl rfl isAgg36 sizeOf36 rfl (fun h => by cases h) <| s_alloc S22 zeroValue36 fun b3 w19 S23 => s_stL (i := 0) S23 rfl rfl rfl sizeOf36 (oneC rfl (oneC rfl oneN)) rfl fun w20 S24 => ?_
 replace S24 : St _ ((bx b3 [vU a2.1, vU a2.2] 36) :: (bx b2 [vU a3.1, vU a3.2] 36) :: (bx b1 [vU a2.1, vU a2.2] 36) :: As) _ := S24
 clear S22 S23
 refine wpl_nil <| nrm ?_
 obtain ⟨x9, q9, hm⟩ := obind_some hm
 have L18 := Mem.rfl' m20
 refine wpc_seq <| wpc_join [14, 71, 72, 73, 74, 75, 76] (fun f' w' => ∃ (M2 : Mem), m20 ≤ M2 ∧ St M2 ((bx b3 [vU a2.1, vU a2.2] 36) :: (bx b2 [vU a3.1, vU a3.2] 36) :: (bx b1 [vU a2.1, vU a2.2] 36) :: As) w' ∧ AllAt f' [(14, vI x9)]) ?_ ?_
 · refine ws <| s_mvv (v := vI a0) rfl <| s_mvv (v := vI x7) rfl ?_
   obtain ⟨q10, q9⟩ := if_some q9
   refine s_shlI (m := 1) (n := x7) rfl rfl q10 <| s_neq (m := a0) (n := (shl64 1 x7.toNat)) rfl rfl <| wpl_nil <| nrm <| wpc_if (t := (a0 != (shl64 1 x7.toNat))) rfl (fun hc6 => ?_) (fun hc6 => ?_)
   · replace q9 := ifT hc6 q9
     refine wpc_region <| s_mvv (v := vI x8) rfl <| s_addI (m := x8) (n := 1) rfl rfl <| s_asv (v := vI (w64 (x8 + 1))) rfl <| wpl_nil <| nrm ?_
     have e0 := Option.some.inj q9
     subst e0
     exact ⟨outP, m20, L18, S24, ⟨rfl, trivial⟩⟩
   replace q9 := ifF hc6 q9
   refine wpc_skip <| nrm ?_
   have e0 := Option.some.inj q9
   subst e0
   exact ⟨outP, m20, L18, S24, ⟨rfl, trivial⟩⟩
 rintro f14 w21 ho ⟨m21, l13, S25, ha⟩
 obtain ⟨u15, rfl⟩ := fr_of (N := 113) ho ha
 clear S24
 refine wpc_seq <| ws <| s_mvv (v := a4v0) rfl ?_
 replace a4h0 := a4h0.up (mt l11 (mt l12 l13))
 refine s_lenR (xs := a4) rfl a4h0 underlying43 <| s_mvv (v := vI x9) rfl <| s_neq (m := (a4.length : Int)) (n := x9) rfl rfl <| wpl_nil <| nrm <| wpc_if (t := ((a4.length : Int) != x9)) rfl (fun hc7 => ?_) (fun hc7 => ?_)
 · replace hm := ifT hc7 hm
   refine ws <| s_asv (v := vI 80) rfl <| wpl_nil <| nrm <| wpc_ret <| thR <| outRw fun we hpd => ?_
   replace S25 := St.pd S25 hpd
   obtain ⟨m22, l14, S26⟩ := St.drop S25 0
   clear S25
   replace S26 : St _ ((bx b2 [vU a3.1, vU a3.2] 36) :: (bx b1 [vU a2.1, vU a2.2] 36) :: As) _ := S26
   obtain ⟨m23, l15, S27⟩ := St.drop S26 0
   clear S26
   replace S27 : St _ ((bx b1 [vU a2.1, vU a2.2] 36) :: As) _ := S27
   obtain ⟨m24, l16, S28⟩ := St.drop S27 0
   clear S27
   replace S28 : St _ (As) _ := S28
   have e0 := Option.some.inj hm
   subst e0
   replace L0 := Mem.tr L0 (mt l11 (mt l12 (mt l13 (mt l14 (mt l15 l16)))))
   exact outR [_] rfl ⟨rfl, trivial⟩ ⟨_, L0, S28, rfl⟩
 replace hm := ifF hc7 hm
 refine wpc_skip <| nrm ?_
 obtain ⟨x10, q11, hm⟩ := obind_some hm
 have L19 := Mem.rfl' m21
 refine wpc_seq <| wpc_join [4, 81, 82, 83, 84, 85, 86, 87, 88, 89] (fun f' w' => ∃ (M3 : Mem) (v1 : Value), m21 ≤ M3 ∧ St M3 ((bx b3 [vU x10.2.1, vU x10.2.2] 36) :: (bx b2 [vU a3.1, vU a3.2] 36) :: (bx b1 [vU a2.1, vU a2.2] 36) :: As) w' ∧ SlR M3 v1 x10.1 ∧ AllAt f' [(4, v1)]) ?_ ?_
 · refine ws <| s_mvv (v := vI a0) rfl <| s_mvv (v := vI x7) rfl ?_
   obtain ⟨q12, q11⟩ := if_some q11
   refine s_shlI (m := 1) (n := x7) rfl rfl q12 <| s_neq (m := a0) (n := (shl64 1 x7.toNat)) rfl rfl <| wpl_nil <| nrm <| wpc_if (t := (a0 != (shl64 1 x7.toNat))) rfl (fun hc8 => ?_) (fun hc8 => ?_)
   · replace q11 := ifT hc8 q11
     obtain ⟨x11, q13, q11⟩ := obind_some q11
     obtain ⟨x12, q14, q11⟩ := obind_some q11
     have HM : MonoAll [(85, fv a4v0), (86, fun (M : Mem) (v : Value) => ∃ (p1 : Value), v = p1 ∧ PtC M p1 [vU x11.1, vU x11.2]), (87, fv (.agg #[vU x11.1, vU x11.2])), (88, fv a4v0), (89, fun (M : Mem) (v : Value) => ∃ (v3 : Value), v = v3 ∧ SlR M v3 x12), (100005, fun _ _ => True)] := ⟨mv, (fun _ _ _ l ⟨p1, e, h6⟩ => ⟨p1, e, h6.up l⟩), mv, mv, (fun _ _ _ l ⟨v3, e, h8⟩ => ⟨v3, e, h8.up l⟩), (fun _ _ _ _ h => h), trivial⟩
     refine wpc_flowG HM 6 mixed rfl rfl rfl (rg 85 5) (fun L f M w => St M ((bx b3 (bif L 5 then [vU x11.1, vU x11.2] else [vU a2.1, vU a2.2]) 36) :: (bx b2 [vU a3.1, vU a3.2] 36) :: (bx b1 [vU a2.1, vU a2.2] 36) :: As) w) (St.drew S25 _) ?_ ?_
     · refine ⟨?_, ?_, ?_, ?_, ?_, ?_, trivial⟩
       · exact flp HM rfl [] (fun _ _ => trivial) (fun _ _ q => s_mvv (v := a4v0) rfl q) rfl
       · intro L f16 w23 hL hd hc ⟨m26, L22, S30, K, hO⟩
         have d5 : L 5 = false := undep hc hL rfl
         replace S30 : St _ ((bx b3 (bif L 5 then [vU x11.1, vU x11.2] else [vU a2.1, vU a2.2]) 36) :: (bx b2 [vU a3.1, vU a3.2] 36) :: (bx b1 [vU a2.1, vU a2.2] 36) :: As) _ := S30
         rw [d5] at S30
         obtain ⟨u17, rfl⟩ := fr_of (N := 113) (L := [(85, _)]) hO ⟨K 0 (dep hd rfl), trivial⟩
         replace S30 : St _ ((bx b3 [vU a2.1, vU a2.2] 36) :: (bx b2 [vU a3.1, vU a3.2] 36) :: (bx b1 [vU a2.1, vU a2.2] 36) :: As) _ := S30
         have L23 := Mem.rfl' m26
         refine s_idx (q := x11) (i := 0) rfl rfl (a4h0.up L22) q13 underlying43 sizeOf36 fun p1 c1 h6 r1 => ?_
         obtain rfl := rep_arr2_UInt64 r1
         refine wpn <| ⟨m26, Mem.tr L22 L23, ?_, facts_step HM rfl K L23 rfl rfl ⟨p1, rfl, h6⟩, outP⟩
         show St _ ((bx b3 (bif L 5 then [vU x11.1, vU x11.2] else [vU a2.1, vU a2.2]) 36) :: (bx b2 [vU a3.1, vU a3.2] 36) :: (bx b1 [vU a2.1, vU a2.2] 36) :: As) _
         rw [d5]
         exact S30
       · intro L f17 w24 hL hd hc ⟨m27, L24, S31, K, hO⟩
         have d5 : L 5 = false := undep hc hL rfl
         obtain ⟨v2, e10, h7⟩ := K 1 (dep hd rfl)
         replace S31 : St _ ((bx b3 (bif L 5 then [vU x11.1, vU x11.2] else [vU a2.1, vU a2.2]) 36) :: (bx b2 [vU a3.1, vU a3.2] 36) :: (bx b1 [vU a2.1, vU a2.2] 36) :: As) _ := S31
         rw [d5] at S31
         obtain ⟨u18, rfl⟩ := fr_of (N := 113) (L := [(86, _)]) hO ⟨e10, trivial⟩
         replace S31 : St _ ((bx b3 [vU a2.1, vU a2.2] 36) :: (bx b2 [vU a3.1, vU a3.2] 36) :: (bx b1 [vU a2.1, vU a2.2] 36) :: As) _ := S31
         have L25 := Mem.rfl' m27
         refine s_ldM (cs := [vU x11.1, vU x11.2]) S31 rfl h7 rfl isAgg36 sizeOf36 (fun h => by cases h) <| wpn <| ⟨m27, Mem.tr L24 L25, ?_, facts_step HM rfl K L25 rfl rfl rfl, outP⟩
         show St _ ((bx b3 (bif L 5 then [vU x11.1, vU x11.2] else [vU a2.1, vU a2.2]) 36) :: (bx b2 [vU a3.1, vU a3.2] 36) :: (bx b1 [vU a2.1, vU a2.2] 36) :: As) _
         rw [d5]
         exact S31
       · exact flp HM rfl [] (fun _ _ => trivial) (fun _ _ q => s_mvv (v := a4v0) rfl q) rfl
       · intro L f19 w26 hL hd hc ⟨m29, L28, S33, K, hO⟩
         obtain ⟨u20, rfl⟩ := fr_of (N := 113) (L := [(88, _)]) hO ⟨K 3 (dep hd rfl), trivial⟩
         exact s_cut (ys := x12) (l := 1) (h := (a4.length : Int)) rfl (a4h0.up L28) underlying43 sizeOf36 (.inr ⟨_, rfl⟩) (.inl ⟨rfl, rfl⟩) (.inl rfl) q14 fun v3 h8 => oS HM L28 S33 rfl K rfl rfl ⟨v3, rfl, h8⟩ outP
       · intro L f20 w27 hL hd hc ⟨m30, L30, S34, K, hO⟩
         have d5 : L 5 = false := hL
         replace S34 : St _ ((bx b3 (bif L 5 then [vU x11.1, vU x11.2] else [vU a2.1, vU a2.2]) 36) :: (bx b2 [vU a3.1, vU a3.2] 36) :: (bx b1 [vU a2.1, vU a2.2] 36) :: As) _ := S34
         rw [d5] at S34
         obtain ⟨u21, rfl⟩ := fr_of (N := 113) (L := [(87, _)]) hO ⟨K 2 (dep hd rfl), trivial⟩
         replace S34 : St _ ((bx b3 [vU a2.1, vU a2.2] 36) :: (bx b2 [vU a3.1, vU a3.2] 36) :: (bx b1 [vU a2.1, vU a2.2] 36) :: As) _ := S34
         refine s_stL (i := 0) S34 rfl rfl rfl sizeOf36 (oneC rfl (oneC rfl oneN)) rfl fun w28 S35 => ?_
         replace S35 : St _ ((bx b3 [vU x11.1, vU x11.2] 36) :: (bx b2 [vU a3.1, vU a3.2] 36) :: (bx b1 [vU a2.1, vU a2.2] 36) :: As) _ := S35
         clear S34
         exact oN HM L30 S35 K rfl (fun _ => trivial) outP
     intro L f21 w29 hall ⟨m31, L32, S36, K, hO⟩
     have d5 : L 5 = true := hall 5 (by decide)
     have d4 : L 4 = true := hall 4 (by decide)
     obtain ⟨v4, e13, h9⟩ := K 4 d4
     replace S36 : St _ ((bx b3 (bif L 5 then [vU x11.1, vU x11.2] else [vU a2.1, vU a2.2]) 36) :: (bx b2 [vU a3.1, vU a3.2] 36) :: (bx b1 [vU a2.1, vU a2.2] 36) :: As) _ := S36
     rw [d5] at S36
     obtain ⟨u22, rfl⟩ := fr_of (N := 113) (L := [(89, _)]) hO ⟨e13, trivial⟩
     replace S36 : St _ ((bx b3 [vU x11.1, vU x11.2] 36) :: (bx b2 [vU a3.1, vU a3.2] 36) :: (bx b1 [vU a2.1, vU a2.2] 36) :: As) _ := S36
     clear S25
     refine s_asv (v := v4) rfl <| wpl_nil <| nrm ?_
     have e0 := Option.some.inj q11
     subst e0
     replace L19 := Mem.tr L19 L32
     exact ⟨outP, m31, _, L19, S36, h9, ⟨rfl, trivial⟩⟩
   replace q11 := ifF hc8 q11
   refine wpc_skip <| nrm ?_
   have e0 := Option.some.inj q11
   subst e0
   exact ⟨outP, m21, _, L19, S25, a4h0, ⟨rfl, trivial⟩⟩
 rintro f22 w30 ho ⟨m32, v1, l17, S37, h5, ha⟩
 obtain ⟨u23, rfl⟩ := fr_of (N := 113) ho ha
 clear S25
 refine wpc_seq ?_
 have HM : MonoAll [(90, fv (.agg #[vU x10.2.1, vU x10.2.2])), (91, fv (.agg #[vU x10.2.1, vU x10.2.2])), (16, fun (M : Mem) (v : Value) => ∃ (b4 : Nat), v = pt b4 0), (17, fun (M : Mem) (v : Value) => ∃ (b5 : Nat), v = pt b5 0), (100004, fun _ _ => True)] := ⟨mv, mv, (fun _ _ _ _ h => h), (fun _ _ _ _ h => h), (fun _ _ _ _ h => h), trivial⟩
 refine wpc_flowG HM 5 mixed rfl rfl rfl [16, 17, 90, 91] (fun L f M w => St M ((bx b3 [vU x10.2.1, vU x10.2.2] 36) :: (bx b2 [vU a3.1, vU a3.2] 36) :: (bx b1 [vU a2.1, vU a2.2] 36) :: ((bif L 2 then [bxv (f 16) (bif L 4 then [vU x10.2.1, vU x10.2.2] else z_api_Sig) 36] else []) ++ ((bif L 3 then [bxv (f 17) z_api_Sig 36] else []) ++ As))) w) (St.drew S37 _) ?_ ?_
 · refine ⟨?_, ?_, ?_, ?_, ?_, trivial⟩
   · intro L f23 w31 hL hd hc ⟨m33, L33, S38, K, hO⟩
     have d4 : L 4 = false := undep hc hL rfl
     replace S38 : St _ ((bx b3 [vU x10.2.1, vU x10.2.2] 36) :: (bx b2 [vU a3.1, vU a3.2] 36) :: (bx b1 [vU a2.1, vU a2.2] 36) :: ((bif L 2 then [bxv (f23 16) (bif L 4 then [vU x10.2.1, vU x10.2.2] else z_api_Sig) 36] else []) ++ ((bif L 3 then [bxv (f23 17) z_api_Sig 36] else []) ++ As))) _ := S38
     rw [d4] at S38
     obtain ⟨u24, rfl⟩ := fr_of (N := 113) (L := []) hO trivial
     replace S38 : St _ ((bx b3 [vU x10.2.1, vU x10.2.2] 36) :: (bx b2 [vU a3.1, vU a3.2] 36) :: (bx b1 [vU a2.1, vU a2.2] 36) :: ((bif L 2 then [bxv _ (bif false then [vU x10.2.1, vU x10.2.2] else z_api_Sig) 36] else []) ++ ((bif L 3 then [bxv _ z_api_Sig 36] else []) ++ As))) _ := S38
     have L34 := Mem.rfl' m33
     refine s_ld (i := 0) (cs := [vU x10.2.1, vU x10.2.2]) S38 rfl rfl isAgg36 sizeOf36 rfl (fun h => by cases h) <| wpn <| ⟨m33, Mem.tr L33 L34, ?_, facts_step HM rfl K L34 rfl rfl rfl, outP⟩
     show St _ ((bx b3 [vU x10.2.1, vU x10.2.2] 36) :: (bx b2 [vU a3.1, vU a3.2] 36) :: (bx b1 [vU a2.1, vU a2.2] 36) :: ((bif L 2 then [bxv _ (bif L 4 then [vU x10.2.1, vU x10.2.2] else z_api_Sig) 36] else []) ++ ((bif L 3 then [bxv _ z_api_Sig 36] else []) ++ As))) _
     rw [d4]
     exact S38
   · exact flp HM rfl [] (fun _ _ => trivial) (fun _ S39 q => s_ld (i := 0) (cs := [vU x10.2.1, vU x10.2.2]) S39 rfl rfl isAgg36 sizeOf36 rfl (fun h => by cases h) q) rfl
   · intro L f25 w33 hL hd hc ⟨m35, L37, S40, K, hO⟩
     have d2 : L 2 = false := hL
     have d4 : L 4 = false := undep hc hL rfl
     replace S40 : St _ ((bx b3 [vU x10.2.1, vU x10.2.2] 36) :: (bx b2 [vU a3.1, vU a3.2] 36) :: (bx b1 [vU a2.1, vU a2.2] 36) :: ((bif L 2 then [bxv (f25 16) (bif L 4 then [vU x10.2.1, vU x10.2.2] else z_api_Sig) 36] else []) ++ ((bif L 3 then [bxv (f25 17) z_api_Sig 36] else []) ++ As))) _ := S40
     rw [d2, d4] at S40
     obtain ⟨u26, rfl⟩ := fr_of (N := 113) (L := []) hO trivial
     replace S40 : St _ ((bx b3 [vU x10.2.1, vU x10.2.2] 36) :: (bx b2 [vU a3.1, vU a3.2] 36) :: (bx b1 [vU a2.1, vU a2.2] 36) :: ((bif L 3 then [bxv _ z_api_Sig 36] else []) ++ As)) _ := S40
     have L38 := Mem.rfl' m35
     refine s_alloc S40 zeroValue36 fun b4 w34 S41 => ?_
     replace S41 : St _ ((bx b4 z_api_Sig 36) :: (bx b3 [vU x10.2.1, vU x10.2.2] 36) :: (bx b2 [vU a3.1, vU a3.2] 36) :: (bx b1 [vU a2.1, vU a2.2] 36) :: ((bif L 3 then [bxv _ z_api_Sig 36] else []) ++ As)) _ := S41
     clear S40
     refine wpn <| ⟨m35, Mem.tr L37 L38, ?_, facts_step HM rfl K L38 rfl rfl ⟨b4, rfl⟩, outP⟩
     show St _ ((bx b3 [vU x10.2.1, vU x10.2.2] 36) :: (bx b2 [vU a3.1, vU a3.2] 36) :: (bx b1 [vU a2.1, vU a2.2] 36) :: ((bif true then [bxv _ (bif L 4 then [vU x10.2.1, vU x10.2.2] else z_api_Sig) 36] else []) ++ ((bif L 3 then [bxv _ z_api_Sig 36] else []) ++ As))) _
     rw [d4]
     have S79 : St _ ((bx b3 [vU x10.2.1, vU x10.2.2] 36) :: (bx b2 [vU a3.1, vU a3.2] 36) :: (bx b1 [vU a2.1, vU a2.2] 36) :: (bx b4 z_api_Sig 36) :: ((bif L 3 then [bxv _ z_api_Sig 36] else []) ++ As)) _ := St.perm S41 (List.Perm.trans (List.Perm.swap _ _ _) (List.Perm.trans (List.Perm.cons _ (List.Perm.swap _ _ _)) (List.Perm.cons _ (List.Perm.cons _ (List.Perm.swap _ _ _)))))
     exact S79
   · intro L f26 w35 hL hd hc ⟨m36, L39, S42, K, hO⟩
     have d3 : L 3 = false := hL
     have d4 : L 4 = false := undep hc hL rfl
     replace S42 : St _ ((bx b3 [vU x10.2.1, vU x10.2.2] 36) :: (bx b2 [vU a3.1, vU a3.2] 36) :: (bx b1 [vU a2.1, vU a2.2] 36) :: ((bif L 2 then [bxv (f26 16) (bif L 4 then [vU x10.2.1, vU x10.2.2] else z_api_Sig) 36] else []) ++ ((bif L 3 then [bxv (f26 17) z_api_Sig 36] else []) ++ As))) _ := S42
     rw [d3, d4] at S42
     obtain ⟨u27, rfl⟩ := fr_of (N := 113) (L := []) hO trivial
     replace S42 : St _ ((bx b3 [vU x10.2.1, vU x10.2.2] 36) :: (bx b2 [vU a3.1, vU a3.2] 36) :: (bx b1 [vU a2.1, vU a2.2] 36) :: ((bif L 2 then [bxv _ (bif false then [vU x10.2.1, vU x10.2.2] else z_api_Sig) 36] else []) ++ As)) _ := S42
     have L40 := Mem.rfl' m36
     refine s_alloc S42 zeroValue36 fun b5 w36 S43 => ?_
     replace S43 : St _ ((bx b5 z_api_Sig 36) :: (bx b3 [vU x10.2.1, vU x10.2.2] 36) :: (bx b2 [vU a3.1, vU a3.2] 36) :: (bx b1 [vU a2.1, vU a2.2] 36) :: ((bif L 2 then [bxv _ (bif false then [vU x10.2.1, vU x10.2.2] else z_api_Sig) 36] else []) ++ As)) _ := S43
     clear S42
     refine wpn <| ⟨m36, Mem.tr L39 L40, ?_, facts_step HM rfl K L40 rfl rfl ⟨b5, rfl⟩, outP⟩
     show St _ ((bx b3 [vU x10.2.1, vU x10.2.2] 36) :: (bx b2 [vU a3.1, vU a3.2] 36) :: (bx b1 [vU a2.1, vU a2.2] 36) :: ((bif L 2 then [bxv _ (bif L 4 then [vU x10.2.1, vU x10.2.2] else z_api_Sig) 36] else []) ++ ((bif true then [bxv _ z_api_Sig 36] else []) ++ As))) _
     rw [d4]
     have S80 : St _ ((bx b3 [vU x10.2.1, vU x10.2.2] 36) :: (bx b2 [vU a3.1, vU a3.2] 36) :: (bx b1 [vU a2.1, vU a2.2] 36) :: (bx b5 z_api_Sig 36) :: ((bif L 2 then [bxv _ (bif false then [vU x10.2.1, vU x10.2.2] else z_api_Sig) 36] else []) ++ As)) _ := St.perm S43 (List.Perm.trans (List.Perm.swap _ _ _) (List.Perm.trans (List.Perm.cons _ (List.Perm.swap _ _ _)) (List.Perm.cons _ (List.Perm.cons _ (List.Perm.swap _ _ _)))))
     have S80s := St.sw (L := [bx b3 [vU x10.2.1, vU x10.2.2] 36, bx b2 [vU a3.1, vU a3.2] 36, bx b1 [vU a2.1, vU a2.2] 36]) (X := [bx b5 z_api_Sig 36]) (Y := (bif L 2 then [bxv _ (bif false then [vU x10.2.1, vU x10.2.2] else z_api_Sig) 36] else [])) (As := As) S80
     exact S80s
   · intro L f27 w37 hL hd hc ⟨m37, L41, S44, K, hO⟩
     have d2 : L 2 = true := dep hd rfl
     have d3 : L 3 = true := dep hd rfl
     have d4 : L 4 = false := hL
     obtain ⟨b6, e14⟩ := K 2 d2
     obtain ⟨b7, e15⟩ := K 3 d3
     replace S44 : St _ ((bx b3 [vU x10.2.1, vU x10.2.2] 36) :: (bx b2 [vU a3.1, vU a3.2] 36) :: (bx b1 [vU a2.1, vU a2.2] 36) :: ((bif L 2 then [bxv (f27 16) (bif L 4 then [vU x10.2.1, vU x10.2.2] else z_api_Sig) 36] else []) ++ ((bif L 3 then [bxv (f27 17) z_api_Sig 36] else []) ++ As))) _ := S44
     rw [d2, d3, d4] at S44
     obtain ⟨u28, rfl⟩ := fr_of (N := 113) (L := [(16, _), (17, _), (90, _)]) hO ⟨e14, e15, K 0 (dep hd rfl), trivial⟩
     replace S44 : St _ ((bx b3 [vU x10.2.1, vU x10.2.2] 36) :: (bx b2 [vU a3.1, vU a3.2] 36) :: (bx b1 [vU a2.1, vU a2.2] 36) :: (bx b6 z_api_Sig 36) :: (bx b7 z_api_Sig 36) :: As) _ := S44
     have L42 := Mem.rfl' m37
     refine s_stL (i := 3) S44 rfl rfl rfl sizeOf36 (oneC rfl (oneC rfl oneN)) rfl fun w38 S45 => ?_
     replace S45 : St _ ((bx b3 [vU x10.2.1, vU x10.2.2] 36) :: (bx b2 [vU a3.1, vU a3.2] 36) :: (bx b1 [vU a2.1, vU a2.2] 36) :: (bx b6 [vU x10.2.1, vU x10.2.2] 36) :: (bx b7 z_api_Sig 36) :: As) _ := S45
     clear S44
     refine wpn <| ⟨m37, Mem.tr L41 L42, ?_, facts_none HM K L42 rfl (fun _ => trivial), outP⟩
     show St _ ((bx b3 [vU x10.2.1, vU x10.2.2] 36) :: (bx b2 [vU a3.1, vU a3.2] 36) :: (bx b1 [vU a2.1, vU a2.2] 36) :: ((bif L 2 then [bxv _ (bif true then [vU x10.2.1, vU x10.2.2] else z_api_Sig) 36] else []) ++ ((bif L 3 then [bxv _ z_api_Sig 36] else []) ++ As))) _
     rw [d2, d3]
     exact S45
 intro L f28 w39 hall ⟨m38, L43, S46, K, hO⟩
 have d2 : L 2 = true := hall 2 (by decide)
 have d3 : L 3 = true := hall 3 (by decide)
 have d4 : L 4 = true := hall 4 (by decide)
 obtain ⟨b8, e17⟩ := K 2 d2
 obtain ⟨b9, e18⟩ := K 3 d3
 have d1 : L 1 = true := hall 1 (by decide)
 replace S46 : St _ ((bx b3 [vU x10.2.1, vU x10.2.2] 36) :: (bx b2 [vU a3.1, vU a3.2] 36) :: (bx b1 [vU a2.1, vU a2.2] 36) :: ((bif L 2 then [bxv (f28 16) (bif L 4 then [vU x10.2.1, vU x10.2.2] else z_api_Sig) 36] else []) ++ ((bif L 3 then [bxv (f28 17) z_api_Sig 36] else []) ++ As))) _ := S46
 rw [d2, d3, d4] at S46
 obtain ⟨u29, rfl⟩ := fr_of (N := 113) (L := [(16, _), (17, _), (91, _)]) hO ⟨e17, e18, K 1 d1, trivial⟩
 replace S46 : St _ ((bx b3 [vU x10.2.1, vU x10.2.2] 36) :: (bx b2 [vU a3.1, vU a3.2] 36) :: (bx b1 [vU a2.1, vU a2.2] 36) :: (bx b8 [vU x10.2.1, vU x10.2.2] 36) :: (bx b9 z_api_Sig 36) :: As) _ := S46
 clear S37
 refine s_stL (i := 4) S46 rfl rfl rfl sizeOf36 (oneC rfl (oneC rfl oneN)) rfl fun w40 S47 => ?_
 replace S47 : St _ ((bx b3 [vU x10.2.1, vU x10.2.2] 36) :: (bx b2 [vU a3.1, vU a3.2] 36) :: (bx b1 [vU a2.1, vU a2.2] 36) :: (bx b8 [vU x10.2.1, vU x10.2.2] 36) :: (bx b9 [vU x10.2.1, vU x10.2.2] 36) :: As) _ := S47
 clear S46
 refine wpl_nil <| nrm <| wpc_seq ?_
 obtain ⟨q15, hm⟩ := if_some hm
 obtain ⟨q16, hm⟩ := if_some hm
 have HM : MonoAll [(92, fv (vI a0)), (93, fv (vI (w64 (a0 - 1)))), (94, fv (vI x7)), (95, fv (vI (shr64 (w64 (a0 - 1)) x7.toNat))), (96, fv (vI a1)), (97, fv (vI (w64 (a1 - 1)))), (98, fv (vI x7)), (99, fv (vI (shr64 (w64 (a1 - 1)) x7.toNat))), (100, fv (vI (w64 ((shr64 (w64 (a1 - 1)) x7.toNat) + 1)))), (101, fv v1), (102, fv (.func (.func 40) #[] #[pt b8 0, pt b9 0])), (103, fv (.func (.func 41) #[] #[pt b9 0]))] := ⟨mv, mv, mv, mv, mv, mv, mv, mv, mv, mv, mv, mv, trivial⟩
 refine wpc_flowG HM 12 mixed rfl rfl rfl (rg 92 12) (fun L f M w => St M ((bx b3 [vU x10.2.1, vU x10.2.2] 36) :: (bx b2 [vU a3.1, vU a3.2] 36) :: (bx b1 [vU a2.1, vU a2.2] 36) :: (bx b8 [vU x10.2.1, vU x10.2.2] 36) :: (bx b9 [vU x10.2.1, vU x10.2.2] 36) :: As) w) (St.drew S47 _) ?_ ?_
 · refine ⟨?_, ?_, ?_, ?_, ?_, ?_, ?_, ?_, ?_, ?_, ?_, ?_, trivial⟩
   · exact flp HM rfl [] (fun _ _ => trivial) (fun _ _ q => s_mvv (v := vI a0) rfl q) rfl
   · exact flp HM rfl [(92, _)] (fun K _ => ⟨K 0 rfl, trivial⟩) (fun _ _ q => s_subI (m := a0) (n := 1) rfl rfl q) rfl
   · exact flp HM rfl [] (fun _ _ => trivial) (fun _ _ q => s_mvv (v := vI x7) rfl q) rfl
   · exact flp HM rfl [(93, _), (94, _)] (fun K _ => ⟨K 1 rfl, K 2 rfl, trivial⟩) (fun _ _ q => s_shrI (m := (w64 (a0 - 1))) (n := x7) rfl rfl q15 q) rfl
   · exact flp HM rfl [] (fun _ _ => trivial) (fun _ _ q => s_mvv (v := vI a1) rfl q) rfl
   · exact flp HM rfl [(96, _)] (fun K _ => ⟨K 4 rfl, trivial⟩) (fun _ _ q => s_subI (m := a1) (n := 1) rfl rfl q) rfl
   · exact flp HM rfl [] (fun _ _ => trivial) (fun _ _ q => s_mvv (v := vI x7) rfl q) rfl
   · exact flp HM rfl [(97, _), (98, _)] (fun K _ => ⟨K 5 rfl, K 6 rfl, trivial⟩) (fun _ _ q => s_shrI (m := (w64 (a1 - 1))) (n := x7) rfl rfl q16 q) rfl
   · exact flp HM rfl [(99, _)] (fun K _ => ⟨K 7 rfl, trivial⟩) (fun _ _ q => s_addI (m := (shr64 (w64 (a1 - 1)) x7.toNat)) (n := 1) rfl rfl q) rfl
   · exact flp HM rfl [] (fun _ _ => trivial) (fun _ _ q => s_mvv (v := v1) rfl q) rfl
   · intro L f39 w51 hL hd hc ⟨m49, L64, S58, K, hO⟩
     obtain ⟨u40, rfl⟩ := fr_of (N := 113) (L := []) hO trivial
     exact s_funcC (caps := [pt b8 0, pt b9 0]) rfl <| oS HM L64 S58 rfl K rfl rfl rfl outP
   · intro L f40 w52 hL hd hc ⟨m50, L66, S59, K, hO⟩
     obtain ⟨u41, rfl⟩ := fr_of (N := 113) (L := []) hO trivial
     exact s_funcC (caps := [pt b9 0]) rfl <| oS HM L66 S59 rfl K rfl rfl rfl outP
 intro L f41 w53 hall ⟨m51, L68, S60, K, hO⟩
 have d3 : L 3 = true := hall 3 (by decide)
 have d8 : L 8 = true := hall 8 (by decide)
 have d9 : L 9 = true := hall 9 (by decide)
 have d10 : L 10 = true := hall 10 (by decide)
 have d11 : L 11 = true := hall 11 (by decide)
 obtain ⟨u42, rfl⟩ := fr_of (N := 113) (L := [(95, _), (100, _), (101, _), (102, _), (103, _)]) hO ⟨K 3 d3, K 8 d8, K 9 d9, K 10 d10, K 11 d11, trivial⟩
 replace S60 : St _ ((bx b3 [vU x10.2.1, vU x10.2.2] 36) :: (bx b2 [vU a3.1, vU a3.2] 36) :: (bx b1 [vU a2.1, vU a2.2] 36) :: (bx b8 [vU x10.2.1, vU x10.2.2] 36) :: (bx b9 [vU x10.2.1, vU x10.2.2] 36) :: As) _ := S60
 clear S47
 have hcb1 : ∀ {m' : Mem} {As' : List Ow} {w' : World} {s : (UInt64 × UInt64) × (UInt64 × UInt64)} {X : List Ow} {b0 : UInt64 × UInt64} {r : ((UInt64 × UInt64) × (UInt64 × UInt64))}, St m' (X ++ As') w' → (X = [bx b8 [vU (((s).1).1), vU (((s).1).2)] 36, bx b9 [vU (((s).2).1), vU (((s).2).2)] 36]) → (fun (s1 : (UInt64 × UInt64) × (UInt64 × UInt64)) (b10 : UInt64 × UInt64) => obind (m_merkle_CheckGrow_1 b10 ((s1).1) ((s1).2)) fun x13 => some (x13.1, x13.2)) s b0 = some r → CallV Tryz.prog (.func (.func 40) #[] #[pt b8 0, pt b9 0]) [.agg #[vU b0.1, vU b0.2]] w' fun v w'' => ∃ (M : Mem) (X' : List Ow), m' ≤ M ∧ St M (X' ++ As') w'' ∧ (X' = [bx b8 [vU (((r).1).1), vU (((r).1).2)] 36, bx b9 [vU (((r).2).1), vU (((r).2).2)] 36]) ∧ v = .tuple #[] := by
   intro m52 As1 w54 s1 X1 b10 r2 S61 h10 hm1
   subst h10
   replace S61 : St _ ((bx b8 [vU (((s1).1).1), vU (((s1).1).2)] 36) :: (bx b9 [vU (((s1).2).1), vU (((s1).2).2)] 36) :: As1) _ := S61
   have L69 := Mem.rfl' m52
   obtain ⟨x13, q17, hm1⟩ := obind_some hm1
   refine CallV.mono (CallV.clo (pre := []) call40 rfl (w_merkle_CheckGrow_1 (a0 := b10) (k0 := ((s1).1)) (k1 := ((s1).2)) S61  q17)) ?_
   rintro _ w55 ⟨m53, l18, S62, rfl⟩
   replace L69 := Mem.tr L69 l18
   clear S61
   replace S62 : St _ ((bx b8 [vU x13.1.1, vU x13.1.2] 36) :: (bx b9 [vU x13.2.1, vU x13.2.2] 36) :: As1) _ := S62
   have e0 := Option.some.inj hm1
   subst e0
   exact ⟨_, [bx b8 [vU x13.1.1, vU x13.1.2] 36, bx b9 [vU x13.2.1, vU x13.2.2] 36], L69, S62, rfl, rfl⟩
 have hcb2 : ∀ {m' : Mem} {As' : List Ow} {w' : World} {s : (UInt64 × UInt64) × (UInt64 × UInt64)} {X : List Ow} {b0 : UInt64 × UInt64} {r : ((UInt64 × UInt64) × (UInt64 × UInt64))}, St m' (X ++ As') w' → (X = [bx b8 [vU (((s).1).1), vU (((s).1).2)] 36, bx b9 [vU (((s).2).1), vU (((s).2).2)] 36]) → (fun (s2 : (UInt64 × UInt64) × (UInt64 × UInt64)) (b11 : UInt64 × UInt64) => obind (m_merkle_CheckGrow_2 b11 ((s2).2)) fun x14 => some (((s2).1), x14)) s b0 = some r → CallV Tryz.prog (.func (.func 41) #[] #[pt b9 0]) [.agg #[vU b0.1, vU b0.2]] w' fun v w'' => ∃ (M : Mem) (X' : List Ow), m' ≤ M ∧ St M (X' ++ As') w'' ∧ (X' = [bx b8 [vU (((r).1).1), vU (((r).1).2)] 36, bx b9 [vU (((r).2).1), vU (((r).2).2)] 36]) ∧ v = .tuple #[] := by
   intro m54 As2 w56 s2 X2 b11 r3 S63 h11 hm2
   subst h11
   replace S63 : St _ ((bx b8 [vU (((s2).1).1), vU (((s2).1).2)] 36) :: (bx b9 [vU (((s2).2).1), vU (((s2).2).2)] 36) :: As2) _ := S63
   have L70 := Mem.rfl' m54
   have S64 : St _ ((bx b9 [vU (((s2).2).1), vU (((s2).2).2)] 36) :: (bx b8 [vU (((s2).1).1), vU (((s2).1).2)] 36) :: As2) _ := St.perm S63 (List.Perm.swap _ _ _)
   clear S63
   obtain ⟨x14, q18, hm2⟩ := obind_some hm2
   refine CallV.mono (CallV.clo (pre := []) call41 rfl (w_merkle_CheckGrow_2 (a0 := b11) (k0 := ((s2).2)) S64  q18)) ?_
   rintro _ w57 ⟨m55, l19, S65, rfl⟩
   replace L70 := Mem.tr L70 l19
   clear S64
   replace S65 : St _ ((bx b9 [vU x14.1, vU x14.2] 36) :: (bx b8 [vU (((s2).1).1), vU (((s2).1).2)] 36) :: As2) _ := S65
   have S66 : St _ ((bx b8 [vU (((s2).1).1), vU (((s2).1).2)] 36) :: (bx b9 [vU x14.1, vU x14.2] 36) :: As2) _ := St.perm S65 (List.Perm.swap _ _ _)
   clear S65
   have e0 := Option.some.inj hm2
   subst e0
   exact ⟨_, [bx b8 [vU (((s2).1).1), vU (((s2).1).2)] 36, bx b9 [vU x14.1, vU x14.2] 36], L70, S66, rfl, rfl⟩
 have S67 : St _ ((bx b8 [vU x10.2.1, vU x10.2.2] 36) :: (bx b9 [vU x10.2.1, vU x10.2.2] 36) :: (bx b3 [vU x10.2.1, vU x10.2.2] 36) :: (bx b2 [vU a3.1, vU a3.2] 36) :: (bx b1 [vU a2.1, vU a2.2] 36) :: As) _ := St.perm S60 (List.Perm.trans (List.Perm.cons _ (List.Perm.cons _ (List.Perm.swap _ _ _))) (List.Perm.trans (List.Perm.cons _ (List.Perm.swap _ _ _)) (List.Perm.trans (List.Perm.swap _ _ _) (List.Perm.trans (List.Perm.cons _ (List.Perm.cons _ (List.Perm.cons _ (List.Perm.swap _ _ _)))) (List.Perm.trans (List.Perm.cons _ (List.Perm.cons _ (List.Perm.swap _ _ _))) (List.Perm.cons _ (List.Perm.swap _ _ _)))))))
 clear S60
 obtain ⟨x15, q19, hm⟩ := obind_some hm
 replace h5 := h5.up (mt L43 L68)
 refine s_call call35 (w_merkle_climb (a0 := (shr64 (w64 (a0 - 1)) x7.toNat)) (a1 := (w64 ((shr64 (w64 (a1 - 1)) x7.toNat) + 1))) (a2 := x10.1) (p3 := (fun (s1 : (UInt64 × UInt64) × (UInt64 × UInt64)) (b10 : UInt64 × UInt64) => obind (m_merkle_CheckGrow_1 b10 ((s1).1) ((s1).2)) fun x13 => some (x13.1, x13.2))) (p4 := (fun (s2 : (UInt64 × UInt64) × (UInt64 × UInt64)) (b11 : UInt64 × UInt64) => obind (m_merkle_CheckGrow_2 b11 ((s2).2)) fun x14 => some (((s2).1), x14))) (s0 := (x10.2, x10.2)) (R := (fun (s : (UInt64 × UInt64) × (UInt64 × UInt64)) (M : Mem) (X : List Ow) => (X = [bx b8 [vU (((s).1).1), vU (((s).1).2)] 36, bx b9 [vU (((s).2).1), vU (((s).2).2)] 36]))) (X0 := [bx b8 [vU x10.2.1, vU x10.2.2] 36, bx b9 [vU x10.2.1, vU x10.2.2] 36]) (As := (bx b3 [vU x10.2.1, vU x10.2.2] 36) :: (bx b2 [vU a3.1, vU a3.2] 36) :: (bx b1 [vU a2.1, vU a2.2] 36) :: As) S67 (fun {_ _ _ _} _ h => h) rfl @hcb1 @hcb2 rfl rfl h5 q19) rfl ?_
 rintro _ w58 ⟨m56, l20, X3, S68, rfl, rfl⟩
 clear S67
 refine wpl_nil <| nrm <| wpc_seq <| ws <| s_ld (i := 0) (cs := [vU x15.1.1, vU x15.1.2]) S68 rfl rfl isAgg36 sizeOf36 rfl (fun h => by cases h) <| s_ld (i := 4) (cs := [vU a2.1, vU a2.2]) S68 rfl rfl isAgg36 sizeOf36 rfl (fun h => by cases h) <| s_neqSum (p := x15.1) (q := a2) rfl rfl underlying36 underlying22 sizeOf22 isAgg22 eqGuardType36 <| s_mvv (v := vb (!eqSum x15.1 a2)) rfl <| wpl_cut 4 [109, 110, 111, 112] (fun f' w' => w' = w58 ∧ AllAt f' [(112, vb ((!eqSum x15.1 a2) || (!eqSum x15.2 a3)))]) ?_ ?_
 · rcases bool_tf (!eqSum x15.1 a2) with hb9 | hb9
   · exact wpl_no (d := 108) rfl rfl (cb hb9) <| wpl_no (d := 108) rfl rfl (cb hb9) <| wpl_no (d := 108) rfl rfl (cb hb9) <| s_pickT (cb hb9) rfl <| wpl_nil (nrm ⟨outP, rfl, congrArg Value.bool (or_t hb9), trivial⟩)
   · exact wpl_yes (d := 108) rfl rfl (cb hb9) <| s_ld (i := 1) (cs := [vU x15.2.1, vU x15.2.2]) S68 rfl rfl isAgg36 sizeOf36 rfl (fun h => by cases h) <| wpl_yes (d := 108) rfl rfl (cb hb9) <| s_ld (i := 3) (cs := [vU a3.1, vU a3.2]) S68 rfl rfl isAgg36 sizeOf36 rfl (fun h => by cases h) <| wpl_yes (d := 108) rfl rfl (cb hb9) <| s_neqSum (p := x15.2) (q := a3) rfl rfl underlying36 underlying22 sizeOf22 isAgg22 eqGuardType36 <| s_pickF (cb hb9) rfl <| wpl_nil (nrm ⟨outP, rfl, congrArg Value.bool (or_f hb9), trivial⟩)
 rintro f42 w59 ho ⟨h12, ha⟩
 subst h12
 obtain ⟨u43, rfl⟩ := fr_of (N := 113) ho ha
 refine wpl_nil <| nrm <| wpc_if (t := ((!eqSum x15.1 a2) || (!eqSum x15.2 a3))) rfl (fun hc9 => ?_) (fun hc9 => ?_)
 · replace hm := ifT hc9 hm
   refine ws <| s_asv (v := vI 71) rfl <| wpl_nil <| nrm <| wpc_ret <| thR <| outRw fun we hpd => ?_
   replace S68 := St.pd S68 hpd
   obtain ⟨m57, l21, S69⟩ := St.drop S68 0
   clear S68
   replace S69 : St _ ((bx b9 [vU x15.2.1, vU x15.2.2] 36) :: (bx b3 [vU x10.2.1, vU x10.2.2] 36) :: (bx b2 [vU a3.1, vU a3.2] 36) :: (bx b1 [vU a2.1, vU a2.2] 36) :: As) _ := S69
   obtain ⟨m58, l22, S70⟩ := St.drop S69 0
   clear S69
   replace S70 : St _ ((bx b3 [vU x10.2.1, vU x10.2.2] 36) :: (bx b2 [vU a3.1, vU a3.2] 36) :: (bx b1 [vU a2.1, vU a2.2] 36) :: As) _ := S70
   obtain ⟨m59, l23, S71⟩ := St.drop S70 0
   clear S70
   replace S71 : St _ ((bx b2 [vU a3.1, vU a3.2] 36) :: (bx b1 [vU a2.1, vU a2.2] 36) :: As) _ := S71
   obtain ⟨m60, l24, S72⟩ := St.drop S71 0
   clear S71
   replace S72 : St _ ((bx b1 [vU a2.1, vU a2.2] 36) :: As) _ := S72
   obtain ⟨m61, l25, S73⟩ := St.drop S72 0
   clear S72
   replace S73 : St _ (As) _ := S73
   have e0 := Option.some.inj hm
   subst e0
   replace L0 := Mem.tr L0 (mt l11 (mt l12 (mt l13 (mt l17 (mt L43 (mt L68 (mt l20 (mt l21 (mt l22 (mt l23 (mt l24 l25)))))))))))
   exact outR [_] rfl ⟨rfl, trivial⟩ ⟨_, L0, S73, rfl⟩
 replace hm := ifF hc9 hm
 refine wpc_skip <| nrm <| ws <| s_asv (v := vI 0) rfl <| wpl_nil <| nrm <| wpc_ret <| outRw fun we hpd => ?_
 replace S68 := St.pd S68 hpd
 obtain ⟨m62, l26, S74⟩ := St.drop S68 0
 clear S68
 replace S74 : St _ ((bx b9 [vU x15.2.1, vU x15.2.2] 36) :: (bx b3 [vU x10.2.1, vU x10.2.2] 36) :: (bx b2 [vU a3.1, vU a3.2] 36) :: (bx b1 [vU a2.1, vU a2.2] 36) :: As) _ := S74
 obtain ⟨m63, l27, S75⟩ := St.drop S74 0
 clear S74
 replace S75 : St _ ((bx b3 [vU x10.2.1, vU x10.2.2] 36) :: (bx b2 [vU a3.1, vU a3.2] 36) :: (bx b1 [vU a2.1, vU a2.2] 36) :: As) _ := S75
 obtain ⟨m64, l28, S76⟩ := St.drop S75 0
 clear S75
 replace S76 : St _ ((bx b2 [vU a3.1, vU a3.2] 36) :: (bx b1 [vU a2.1, vU a2.2] 36) :: As) _ := S76
 obtain ⟨m65, l29, S77⟩ := St.drop S76 0
 clear S76
 replace S77 : St _ ((bx b1 [vU a2.1, vU a2.2] 36) :: As) _ := S77
 obtain ⟨m66, l30, S78⟩ := St.drop S77 0
 clear S77
 replace S78 : St _ (As) _ := S78
 have e0 := Option.some.inj hm
 subst e0
 replace L0 := Mem.tr L0 (mt l11 (mt l12 (mt l13 (mt l17 (mt L43 (mt L68 (mt l20 (mt l26 (mt l27 (mt l28 (mt l29 l30)))))))))))
 exact outR [_] rfl ⟨rfl, trivial⟩ ⟨_, L0, S78, rfl⟩

def m_law24_LogdShows (a0 : g_api_Log) (a1 : Int) (a2 : Int) (a3 : Int) (a4 : Int) (a5 : Int) : Option Bool :=
  obind (m_law24_live ) fun x1 =>
  if (!x1) = true then
    some false
  else
  obind (m_law24_few a0 ([] : List UInt8)) fun x2 =>
  obind (
    if (!x2) = true then
      some true
    else
    obind (m_logd_Check a0) fun x5 =>
    some (x5 != 0)
  ) fun x4 =>
  if (((x4 || ((a0.L.length : Int) == 0)) || (decide (a5 < 0))) || (decide (a5 > 1099511627776))) = true then
    some true
  else
  if (a0.L.length : Int) ≠ 0 then
    bnd ((w64 (1 + (Int.tmod (and64 a4 65535) (a0.L.length : Int))))) fun x6 =>
    if (w64 (x6 + 1)) ≠ 0 then
      bnd ((Int.tmod (and64 a3 65535) (w64 (x6 + 1)))) fun x7 =>
      if x6 ≠ 0 then
        bnd ((Int.tmod (and64 a2 65535) x6)) fun x8 =>
        obind (m_logd_Public a0) fun x9 =>
        obind (m_logd_Head a0 (and64 a1 1) x6 a5) fun x10 =>
        obind (m_logd_Head a0 (and64 a1 1) x7 a5) fun x11 =>
        obind (m_logd_Leaves a0 (and64 a1 1)) fun x12 =>
        obind (m_logd_Prove a0 (and64 a1 1) x8 x6) fun x13 =>
        obind (m_logd_Grow a0 (and64 a1 1) x7 x6) fun x14 =>
        if (((((((x9.2 != 0) || (x10.2 != 0)) || (x11.2 != 0)) || (x12.2 != 0)) || (x13.2 != 0)) || (x14.2 != 0)) || ((x12.1.length : Int) != (a0.L.length : Int))) = true then
          some false
        else
        obind (m_logd_CheckHead x9.1 x10.1) fun x15 =>
        obind (
          if (x15 != 0) = true then
            some true
          else
          obind (m_logd_CheckHead x9.1 x11.1) fun x18 =>
          some (x18 != 0)
        ) fun x17 =>
        if ((((x17 || (x10.1.Size != x6)) || (x11.1.Size != x7)) || (x10.1.Log != a0.Id)) || (x10.1.At != a5)) = true then
          some false
        else
        obind (gu (((x13.1.Log == a0.Id) && (x13.1.At == x8)) && (x13.1.Size == x6)) (idx x12.1 x8)) fun x19 =>
        obind (gu (((x13.1.Log == a0.Id) && (x13.1.At == x8)) && (x13.1.Size == x6)) (m_merkle_Check x19 x8 x6 x13.1.Proof x10.1.Root)) fun x20 =>
        obind (gu ((((x13.1.Log == a0.Id) && (x13.1.At == x8)) && (x13.1.Size == x6)) && (x20 == 0)) (m_merkle_CheckGrow x7 x6 x11.1.Root x10.1.Root x14.1)) fun x21 =>
        bnd ((((((x13.1.Log == a0.Id) && (x13.1.At == x8)) && (x13.1.Size == x6)) && (x20 == 0)) && (x21 == 0))) fun x22 =>
        some x22
      else none
    else none
  else none

theorem w_law24_LogdShows {m : Mem} {As : List Ow} {w : World} {a0 : g_api_Log} {a0v3 : Value} {a0v4 : Value} {a0v5 : Value} {a1 : Int} {a2 : Int} {a3 : Int} {a4 : Int} {a5 : Int} {r : Bool} (S : St m (As) w) (T1 : PtC m (pt 1 0) (tab_1.map vB)) (a0h3 : SlR m a0v3 a0.L) (a0h4 : SlR m a0v4 a0.Hide) (a0h5 : SlR m a0v5 a0.Wait) (hm : m_law24_LogdShows a0 a1 a2 a3 a4 a5 = some r) :
    CallsR Tryz.prog 3 #[.agg (c_api_Log a0 a0v3 a0v4 a0v5).toArray, vI a1, vI a2, vI a3, vI a4, vI a5] w fun v w' => ∃ (M : Mem), m ≤ M ∧ St M (As) w' ∧ v = vb r := by
 unfold m_law24_LogdShows at hm
 have L0 := Mem.rfl' m
 refine callsR (args := [.agg (c_api_Log a0 a0v3 a0v4 a0v5).toArray, vI a1, vI a2, vI a3, vI a4, vI a5]) func3 rfl ntmps3 (nb rfl) <| ws <| s_box S rfl fun b1 w1 S1 => ?_
 replace S1 : St _ ((bx b1 (c_api_Log a0 a0v3 a0v4 a0v5) 26) :: As) _ := S1
 clear S
 refine s_asv (v := vb false) rfl <| wpl_nil <| nrm <| wpc_seq <| wpc_seq <| wpc_region ?_
 obtain ⟨x1, q1, hm⟩ := obind_some hm
 refine s_call call4 (w_law24_live  S1  q1) rfl ?_
 rintro _ w2 ⟨m1, l1, S2, rfl⟩
 clear S1
 refine s_not rfl <| wpl_nil <| nrm <| wpc_if (t := (!x1)) rfl (fun hc1 => ?_) (fun hc1 => ?_)
 · replace hm := ifT hc1 hm
   refine ws <| s_asv (v := vb false) rfl <| wpl_nil <| nrm <| wpc_ret <| thR <| outRw fun we hpd => ?_
   replace S2 := St.pd S2 hpd
   obtain ⟨m2, l2, S3⟩ := St.drop S2 0
   clear S2
   replace S3 : St _ (As) _ := S3
   have e0 := Option.some.inj hm
   subst e0
   replace L0 := Mem.tr L0 (mt l1 l2)
   exact outR [_] rfl ⟨rfl, trivial⟩ ⟨_, L0, S3, rfl⟩
 replace hm := ifF hc1 hm
 refine wpc_skip <| nrm <| wpc_seq <| ws <| s_ld (i := 0) (cs := (c_api_Log a0 a0v3 a0v4 a0v5)) S2 rfl rfl isAgg26 sizeOf26 rfl (fun h => by cases h) ?_
 obtain ⟨x2, q2, hm⟩ := obind_some hm
 refine s_call call5 (w_law24_few (a0 := a0) (a1 := ([] : List UInt8)) S2 (a0h3.up l1) (a0h4.up l1) (a0h5.up l1) (SlR.nil (a := none) (c := 0)) q2) rfl ?_
 rintro _ w3 ⟨m3, l3, S4, rfl⟩
 clear S2
 refine s_not rfl <| s_mvv (v := vb (!x2)) rfl ?_
 obtain ⟨x4, q4, hm⟩ := obind_some hm
 have L1 := Mem.rfl' m3
 refine wpl_cut 4 [35, 36, 37, 38] (fun f' w' => ∃ (M1 : Mem), m3 ≤ M1 ∧ St M1 ((bx b1 (c_api_Log a0 a0v3 a0v4 a0v5) 26) :: As) w' ∧ AllAt f' [(38, vb x4)]) ?_ ?_
 · rcases bool_tf (!x2) with hb1 | hb1
   · replace q4 := ifT hb1 q4
     refine wpl_no (d := 34) rfl rfl (cb hb1) <| wpl_no (d := 34) rfl rfl (cb hb1) <| wpl_no (d := 34) rfl rfl (cb hb1) <| s_pickT (cb hb1) rfl <| wpl_nil (nrm ?_)
     have e0 := Option.some.inj q4
     subst e0
     exact ⟨outP, m3, L1, S4, ⟨rfl, trivial⟩⟩
   replace q4 := ifF hb1 q4
   refine wpl_yes (d := 34) rfl rfl (cb hb1) <| s_ld (i := 0) (cs := (c_api_Log a0 a0v3 a0v4 a0v5)) S4 rfl rfl isAgg26 sizeOf26 rfl (fun h => by cases h) <| wpl_yes (d := 34) rfl rfl (cb hb1) ?_
   obtain ⟨x5, q5, q4⟩ := obind_some q4
   replace a0h3 := a0h3.up (mt l1 l3)
   replace a0h4 := a0h4.up (mt l1 l3)
   replace a0h5 := a0h5.up (mt l1 l3)
   refine s_call call6 (w_logd_Check (a0 := a0) S4 a0h3 a0h4 a0h5 q5) rfl ?_
   rintro _ w5 ⟨m5, l5, S6, rfl⟩
   clear S4
   refine wpl_yes (d := 34) rfl rfl (cb hb1) <| s_neq (m := x5) (n := 0) rfl rfl <| s_pickF (cb hb1) rfl <| wpl_nil (nrm ?_)
   have e0 := Option.some.inj q4
   subst e0
   replace L1 := Mem.tr L1 l5
   exact ⟨outP, m5, L1, S6, ⟨rfl, trivial⟩⟩
 rintro f1 w6 ho ⟨m6, l6, S7, ha⟩
 obtain ⟨u1, rfl⟩ := fr_of (N := 221) ho ha
 clear S4
 refine s_mvv (v := vb x4) rfl <| wpl_cut 5 [40, 41, 42, 43, 44] (fun f' w' => w' = w6 ∧ AllAt f' [(44, vb (x4 || ((a0.L.length : Int) == 0)))]) ?_ ?_
 · rcases bool_tf x4 with hb2 | hb2
   · exact wpl_no (d := 39) rfl rfl (cb hb2) <| wpl_no (d := 39) rfl rfl (cb hb2) <| wpl_no (d := 39) rfl rfl (cb hb2) <| wpl_no (d := 39) rfl rfl (cb hb2) <| s_pickT (cb hb2) rfl <| wpl_nil (nrm ⟨outP, rfl, congrArg Value.bool (or_t hb2), trivial⟩)
   · refine wpl_yes (d := 39) rfl rfl (cb hb2) <| s_fld (n := 0) rfl underlying26 rfl rfl sizeOf23 <| wpl_yes (d := 39) rfl rfl (cb hb2) <| s_ld (i := 0) (cs := [a0v3]) S7 rfl rfl isAgg23 sizeOf23 rfl (fun _ => rfl) <| wpl_yes (d := 39) rfl rfl (cb hb2) ?_
     replace a0h3 := a0h3.up (mt l1 (mt l3 l6))
     exact s_lenR (xs := a0.L) rfl a0h3 underlying23 <| wpl_yes (d := 39) rfl rfl (cb hb2) <| s_eql (m := (a0.L.length : Int)) (n := 0) rfl rfl <| s_pickF (cb hb2) rfl <| wpl_nil (nrm ⟨outP, rfl, congrArg Value.bool (or_f hb2), trivial⟩)
 rintro f2 w7 ho ⟨h1, ha⟩
 subst h1
 obtain ⟨u2, rfl⟩ := fr_of (N := 221) ho ha
 refine s_mvv (v := vb (x4 || ((a0.L.length : Int) == 0))) rfl <| wpl_cut 3 [46, 47, 48] (fun f' w' => w' = w7 ∧ AllAt f' [(48, vb ((x4 || ((a0.L.length : Int) == 0)) || (decide (a5 < 0))))]) ?_ ?_
 · rcases bool_tf (x4 || ((a0.L.length : Int) == 0)) with hb3 | hb3
   · exact wpl_no (d := 45) rfl rfl (cb hb3) <| wpl_no (d := 45) rfl rfl (cb hb3) <| s_pickT (cb hb3) rfl <| wpl_nil (nrm ⟨outP, rfl, congrArg Value.bool (or_t hb3), trivial⟩)
   · exact wpl_yes (d := 45) rfl rfl (cb hb3) <| s_mvv (v := vI a5) rfl <| wpl_yes (d := 45) rfl rfl (cb hb3) <| s_lss (m := a5) (n := 0) rfl rfl <| s_pickF (cb hb3) rfl <| wpl_nil (nrm ⟨outP, rfl, congrArg Value.bool (or_f hb3), trivial⟩)
 rintro f3 w8 ho ⟨h2, ha⟩
 subst h2
 obtain ⟨u3, rfl⟩ := fr_of (N := 221) ho ha
 refine s_mvv (v := vb ((x4 || ((a0.L.length : Int) == 0)) || (decide (a5 < 0)))) rfl <| wpl_cut 3 [50, 51, 52] (fun f' w' => w' = w8 ∧ AllAt f' [(52, vb (((x4 || ((a0.L.length : Int) == 0)) || (decide (a5 < 0))) || (decide (a5 > 1099511627776))))]) ?_ ?_
 · rcases bool_tf ((x4 || ((a0.L.length : Int) == 0)) || (decide (a5 < 0))) with hb4 | hb4
   · exact wpl_no (d := 49) rfl rfl (cb hb4) <| wpl_no (d := 49) rfl rfl (cb hb4) <| s_pickT (cb hb4) rfl <| wpl_nil (nrm ⟨outP, rfl, congrArg Value.bool (or_t hb4), trivial⟩)
   · exact wpl_yes (d := 49) rfl rfl (cb hb4) <| s_mvv (v := vI a5) rfl <| wpl_yes (d := 49) rfl rfl (cb hb4) <| s_gtr (m := a5) (n := 1099511627776) rfl rfl <| s_pickF (cb hb4) rfl <| wpl_nil (nrm ⟨outP, rfl, congrArg Value.bool (or_f hb4), trivial⟩)
 rintro f4 w9 ho ⟨h3, ha⟩
 subst h3
 obtain ⟨u4, rfl⟩ := fr_of (N := 221) ho ha
 refine wpl_nil <| nrm <| wpc_if (t := (((x4 || ((a0.L.length : Int) == 0)) || (decide (a5 < 0))) || (decide (a5 > 1099511627776)))) rfl (fun hc2 => ?_) (fun hc2 => ?_)
 · replace hm := ifT hc2 hm
   refine ws <| s_asv (v := vb true) rfl <| wpl_nil <| nrm <| wpc_ret <| thR <| outRw fun we hpd => ?_
   replace S7 := St.pd S7 hpd
   obtain ⟨m7, l7, S8⟩ := St.drop S7 0
   clear S7
   replace S8 : St _ (As) _ := S8
   have e0 := Option.some.inj hm
   subst e0
   replace L0 := Mem.tr L0 (mt l1 (mt l3 (mt l6 l7)))
   exact outR [_] rfl ⟨rfl, trivial⟩ ⟨_, L0, S8, rfl⟩
 replace hm := ifF hc2 hm
 refine wpc_skip <| nrm <| ws <| s_mvv (v := vI a1) rfl <| s_andI (m := a1) (n := 1) rfl rfl <| s_asv (v := vI (and64 a1 1)) rfl <| nx <| s_mvv (v := vI a4) rfl <| s_andI (m := a4) (n := 65535) rfl rfl <| s_fld (n := 0) rfl underlying26 rfl rfl sizeOf23 <| s_ld (i := 0) (cs := [a0v3]) S7 rfl rfl isAgg23 sizeOf23 rfl (fun _ => rfl) ?_
 replace a0h3 := a0h3.up (mt l1 (mt l3 l6))
 refine s_lenR (xs := a0.L) rfl a0h3 underlying23 ?_
 obtain ⟨q6, hm⟩ := if_some hm
 refine s_remI (m := (and64 a4 65535)) (n := (a0.L.length : Int)) rfl rfl q6 <| s_addI (m := 1) (n := (Int.tmod (and64 a4 65535) (a0.L.length : Int))) rfl rfl ?_
 obtain ⟨x6, q7, hm⟩ := bnd_eq hm
 refine s_asv (v := vI x6) (congrArg (fun z => vI z) q7.symm) <| nx <| s_mvv (v := vI a3) rfl <| s_andI (m := a3) (n := 65535) rfl rfl <| s_mvv (v := vI x6) rfl <| s_addI (m := x6) (n := 1) rfl rfl ?_
 obtain ⟨q8, hm⟩ := if_some hm
 refine s_remI (m := (and64 a3 65535)) (n := (w64 (x6 + 1))) rfl rfl q8 ?_
 obtain ⟨x7, q9, hm⟩ := bnd_eq hm
 refine s_asv (v := vI x7) (congrArg (fun z => vI z) q9.symm) <| nx <| s_mvv (v := vI a2) rfl <| s_andI (m := a2) (n := 65535) rfl rfl <| s_mvv (v := vI x6) rfl ?_
 obtain ⟨q10, hm⟩ := if_some hm
 refine s_remI (m := (and64 a2 65535)) (n := x6) rfl rfl q10 ?_
 obtain ⟨x8, q11, hm⟩ := bnd_eq hm
 refine s_asv (v := vI x8) (congrArg (fun z => vI z) q11.symm) <| nx <| s_ld (i := 0) (cs := (c_api_Log a0 a0v3 a0v4 a0v5)) S7 rfl rfl isAgg26 sizeOf26 rfl (fun h => by cases h) ?_
 obtain ⟨x9, q12, hm⟩ := obind_some hm
 replace a0h4 := a0h4.up (mt l1 (mt l3 l6))
 replace a0h5 := a0h5.up (mt l1 (mt l3 l6))
 refine s_call call7 (w_logd_Public (a0 := a0) S7 a0h3 a0h4 a0h5 q12) rfl ?_
 rintro _ w10 ⟨m8, l8, S9, rfl⟩
 clear S7
 refine s_mvv (v := .tuple #[.agg (c_api_Key x9.1).toArray, vI x9.2]) rfl <| s_ext (i := 0) rfl rfl <| s_ext (i := 1) rfl rfl <| s_alloc S9 zeroValue32 fun b2 w11 S10 => s_stL (i := 0) S10 rfl rfl rfl sizeOf32 (oneC rfl (oneC rfl (oneC rfl oneN))) rfl fun w12 S11 => ?_
 replace S11 : St _ ((bx b2 (c_api_Key x9.1) 32) :: (bx b1 (c_api_Log a0 a0v3 a0v4 a0v5) 26) :: As) _ := S11
 clear S9 S10
 refine s_asv (v := vI x9.2) rfl <| nx <| s_ld (i := 1) (cs := (c_api_Log a0 a0v3 a0v4 a0v5)) S11 rfl rfl isAgg26 sizeOf26 rfl (fun h => by cases h) <| s_mvv (v := vI (and64 a1 1)) rfl <| s_mvv (v := vI x6) rfl <| s_mvv (v := vI a5) rfl ?_
 obtain ⟨x10, q13, hm⟩ := obind_some hm
 refine s_call call8 (w_logd_Head (a0 := a0) (a1 := (and64 a1 1)) (a2 := x6) (a3 := a5) S11 (a0h3.up l8) (a0h4.up l8) (a0h5.up l8) q13) rfl ?_
 rintro _ w13 ⟨m9, l9, S12, rfl⟩
 clear S11
 refine s_mvv (v := .tuple #[.agg (c_api_Head x10.1).toArray, vI x10.2]) rfl <| s_ext (i := 0) rfl rfl <| s_ext (i := 1) rfl rfl <| s_alloc S12 zeroValue40 fun b3 w14 S13 => s_stL (i := 0) S13 rfl rfl rfl sizeOf40 (oneC rfl (oneC rfl (oneC rfl (oneC rfl (oneC rfl (oneC rfl (oneC rfl oneN))))))) rfl fun w15 S14 => ?_
 replace S14 : St _ ((bx b3 (c_api_Head x10.1) 40) :: (bx b2 (c_api_Key x9.1) 32) :: (bx b1 (c_api_Log a0 a0v3 a0v4 a0v5) 26) :: As) _ := S14
 clear S12 S13
 refine s_asv (v := vI x10.2) rfl <| nx <| s_ld (i := 2) (cs := (c_api_Log a0 a0v3 a0v4 a0v5)) S14 rfl rfl isAgg26 sizeOf26 rfl (fun h => by cases h) <| s_mvv (v := vI (and64 a1 1)) rfl <| s_mvv (v := vI x7) rfl <| s_mvv (v := vI a5) rfl ?_
 obtain ⟨x11, q14, hm⟩ := obind_some hm
 replace a0h3 := a0h3.up (mt l8 l9)
 replace a0h4 := a0h4.up (mt l8 l9)
 replace a0h5 := a0h5.up (mt l8 l9)
 refine s_call call8 (w_logd_Head (a0 := a0) (a1 := (and64 a1 1)) (a2 := x7) (a3 := a5) S14 a0h3 a0h4 a0h5 q14) rfl ?_
 rintro _ w16 ⟨m10, l10, S15, rfl⟩
 clear S14
 refine s_mvv (v := .tuple #[.agg (c_api_Head x11.1).toArray, vI x11.2]) rfl <| s_ext (i := 0) rfl rfl <| s_ext (i := 1) rfl rfl <| s_alloc S15 zeroValue40 fun b4 w17 S16 => s_stL (i := 0) S16 rfl rfl rfl sizeOf40 (oneC rfl (oneC rfl (oneC rfl (oneC rfl (oneC rfl (oneC rfl (oneC rfl oneN))))))) rfl fun w18 S17 => ?_
 replace S17 : St _ ((bx b4 (c_api_Head x11.1) 40) :: (bx b3 (c_api_Head x10.1) 40) :: (bx b2 (c_api_Key x9.1) 32) :: (bx b1 (c_api_Log a0 a0v3 a0v4 a0v5) 26) :: As) _ := S17
 clear S15 S16
 refine s_asv (v := vI x11.2) rfl <| nx <| s_ld (i := 3) (cs := (c_api_Log a0 a0v3 a0v4 a0v5)) S17 rfl rfl isAgg26 sizeOf26 rfl (fun h => by cases h) <| s_mvv (v := vI (and64 a1 1)) rfl ?_
 obtain ⟨x12, q15, hm⟩ := obind_some hm
 refine s_call call9 (w_logd_Leaves (a0 := a0) (a1 := (and64 a1 1)) S17 (a0h3.up l10) (a0h4.up l10) (a0h5.up l10) q15) rfl ?_
 rintro _ w19 ⟨m11, l11, v1, c1, S18, rfl, h4⟩
 clear S17
 refine s_mvv (v := .tuple #[v1, vI x12.2]) rfl <| s_ext (i := 0) rfl rfl <| s_ext (i := 1) rfl rfl <| s_asv (v := v1) rfl <| s_asv (v := vI x12.2) rfl <| nx <| s_ld (i := 4) (cs := (c_api_Log a0 a0v3 a0v4 a0v5)) S18 rfl rfl isAgg26 sizeOf26 rfl (fun h => by cases h) <| s_mvv (v := vI (and64 a1 1)) rfl <| s_mvv (v := vI x8) rfl <| s_mvv (v := vI x6) rfl ?_
 obtain ⟨x13, q16, hm⟩ := obind_some hm
 replace a0h3 := a0h3.up (mt l10 l11)
 replace a0h4 := a0h4.up (mt l10 l11)
 replace a0h5 := a0h5.up (mt l10 l11)
 refine s_call call10 (w_logd_Prove (a0 := a0) (a1 := (and64 a1 1)) (a2 := x8) (a3 := x6) S18 a0h3 a0h4 a0h5 q16) rfl ?_
 rintro _ w20 ⟨m12, l12, v2, S19, rfl, h5⟩
 clear S18
 refine s_mvv (v := .tuple #[.agg (c_api_Place x13.1 v2).toArray, vI x13.2]) rfl <| s_ext (i := 0) rfl rfl <| s_ext (i := 1) rfl rfl <| s_alloc S19 zeroValue47 fun b5 w21 S20 => s_stL (i := 0) S20 rfl rfl rfl sizeOf47 (oneC rfl (oneC rfl (oneC rfl (oneC (SlR.one h5) oneN)))) rfl fun w22 S21 => ?_
 replace S21 : St _ ((bx b5 (c_api_Place x13.1 v2) 47) :: (row 2 v1 c1 x12.1.length) :: (bx b4 (c_api_Head x11.1) 40) :: (bx b3 (c_api_Head x10.1) 40) :: (bx b2 (c_api_Key x9.1) 32) :: (bx b1 (c_api_Log a0 a0v3 a0v4 a0v5) 26) :: As) _ := S21
 clear S19 S20
 refine s_asv (v := vI x13.2) rfl <| nx <| s_ld (i := 5) (cs := (c_api_Log a0 a0v3 a0v4 a0v5)) S21 rfl rfl isAgg26 sizeOf26 rfl (fun h => by cases h) <| s_mvv (v := vI (and64 a1 1)) rfl <| s_mvv (v := vI x7) rfl <| s_mvv (v := vI x6) rfl ?_
 obtain ⟨x14, q17, hm⟩ := obind_some hm
 refine s_call call11 (w_logd_Grow (a0 := a0) (a1 := (and64 a1 1)) (a2 := x7) (a3 := x6) S21 (a0h3.up l12) (a0h4.up l12) (a0h5.up l12) q17) rfl ?_
 rintro _ w23 ⟨m13, l13, v3, c2, S22, rfl, h6⟩
 clear S21
 refine s_mvv (v := .tuple #[v3, vI x14.2]) rfl <| s_ext (i := 0) rfl rfl <| s_ext (i := 1) rfl rfl <| s_asv (v := v3) rfl <| s_asv (v := vI x14.2) rfl <| wpl_nil <| nrm <| wpc_seq <| ws <| s_mvv (v := vI x9.2) rfl <| s_neq (m := x9.2) (n := 0) rfl rfl <| s_mvv (v := vb (x9.2 != 0)) rfl <| wpl_cut 3 [117, 118, 119] (fun f' w' => w' = w23 ∧ AllAt f' [(119, vb ((x9.2 != 0) || (x10.2 != 0)))]) ?_ ?_
 · rcases bool_tf (x9.2 != 0) with hb5 | hb5
   · exact wpl_no (d := 116) rfl rfl (cb hb5) <| wpl_no (d := 116) rfl rfl (cb hb5) <| s_pickT (cb hb5) rfl <| wpl_nil (nrm ⟨outP, rfl, congrArg Value.bool (or_t hb5), trivial⟩)
   · exact wpl_yes (d := 116) rfl rfl (cb hb5) <| s_mvv (v := vI x10.2) rfl <| wpl_yes (d := 116) rfl rfl (cb hb5) <| s_neq (m := x10.2) (n := 0) rfl rfl <| s_pickF (cb hb5) rfl <| wpl_nil (nrm ⟨outP, rfl, congrArg Value.bool (or_f hb5), trivial⟩)
 rintro f5 w24 ho ⟨h7, ha⟩
 subst h7
 obtain ⟨u5, rfl⟩ := fr_of (N := 221) ho ha
 refine s_mvv (v := vb ((x9.2 != 0) || (x10.2 != 0))) rfl <| wpl_cut 3 [121, 122, 123] (fun f' w' => w' = w24 ∧ AllAt f' [(123, vb (((x9.2 != 0) || (x10.2 != 0)) || (x11.2 != 0)))]) ?_ ?_
 · rcases bool_tf ((x9.2 != 0) || (x10.2 != 0)) with hb6 | hb6
   · exact wpl_no (d := 120) rfl rfl (cb hb6) <| wpl_no (d := 120) rfl rfl (cb hb6) <| s_pickT (cb hb6) rfl <| wpl_nil (nrm ⟨outP, rfl, congrArg Value.bool (or_t hb6), trivial⟩)
   · exact wpl_yes (d := 120) rfl rfl (cb hb6) <| s_mvv (v := vI x11.2) rfl <| wpl_yes (d := 120) rfl rfl (cb hb6) <| s_neq (m := x11.2) (n := 0) rfl rfl <| s_pickF (cb hb6) rfl <| wpl_nil (nrm ⟨outP, rfl, congrArg Value.bool (or_f hb6), trivial⟩)
 rintro f6 w25 ho ⟨h8, ha⟩
 subst h8
 obtain ⟨u6, rfl⟩ := fr_of (N := 221) ho ha
 refine s_mvv (v := vb (((x9.2 != 0) || (x10.2 != 0)) || (x11.2 != 0))) rfl <| wpl_cut 3 [125, 126, 127] (fun f' w' => w' = w25 ∧ AllAt f' [(127, vb ((((x9.2 != 0) || (x10.2 != 0)) || (x11.2 != 0)) || (x12.2 != 0)))]) ?_ ?_
 · rcases bool_tf (((x9.2 != 0) || (x10.2 != 0)) || (x11.2 != 0)) with hb7 | hb7
   · exact wpl_no (d := 124) rfl rfl (cb hb7) <| wpl_no (d := 124) rfl rfl (cb hb7) <| s_pickT (cb hb7) rfl <| wpl_nil (nrm ⟨outP, rfl, congrArg Value.bool (or_t hb7), trivial⟩)
   · exact wpl_yes (d := 124) rfl rfl (cb hb7) <| s_mvv (v := vI x12.2) rfl <| wpl_yes (d := 124) rfl rfl (cb hb7) <| s_neq (m := x12.2) (n := 0) rfl rfl <| s_pickF (cb hb7) rfl <| wpl_nil (nrm ⟨outP, rfl, congrArg Value.bool (or_f hb7), trivial⟩)
 rintro f7 w26 ho ⟨h9, ha⟩
 subst h9
 obtain ⟨u7, rfl⟩ := fr_of (N := 221) ho ha
 refine s_mvv (v := vb ((((x9.2 != 0) || (x10.2 != 0)) || (x11.2 != 0)) || (x12.2 != 0))) rfl <| wpl_cut 3 [129, 130, 131] (fun f' w' => w' = w26 ∧ AllAt f' [(131, vb (((((x9.2 != 0) || (x10.2 != 0)) || (x11.2 != 0)) || (x12.2 != 0)) || (x13.2 != 0)))]) ?_ ?_
 · rcases bool_tf ((((x9.2 != 0) || (x10.2 != 0)) || (x11.2 != 0)) || (x12.2 != 0)) with hb8 | hb8
   · exact wpl_no (d := 128) rfl rfl (cb hb8) <| wpl_no (d := 128) rfl rfl (cb hb8) <| s_pickT (cb hb8) rfl <| wpl_nil (nrm ⟨outP, rfl, congrArg Value.bool (or_t hb8), trivial⟩)
   · exact wpl_yes (d := 128) rfl rfl (cb hb8) <| s_mvv (v := vI x13.2) rfl <| wpl_yes (d := 128) rfl rfl (cb hb8) <| s_neq (m := x13.2) (n := 0) rfl rfl <| s_pickF (cb hb8) rfl <| wpl_nil (nrm ⟨outP, rfl, congrArg Value.bool (or_f hb8), trivial⟩)
 rintro f8 w27 ho ⟨h10, ha⟩
 subst h10
 obtain ⟨u8, rfl⟩ := fr_of (N := 221) ho ha
 refine s_mvv (v := vb (((((x9.2 != 0) || (x10.2 != 0)) || (x11.2 != 0)) || (x12.2 != 0)) || (x13.2 != 0))) rfl <| wpl_cut 3 [133, 134, 135] (fun f' w' => w' = w27 ∧ AllAt f' [(135, vb ((((((x9.2 != 0) || (x10.2 != 0)) || (x11.2 != 0)) || (x12.2 != 0)) || (x13.2 != 0)) || (x14.2 != 0)))]) ?_ ?_
 · rcases bool_tf (((((x9.2 != 0) || (x10.2 != 0)) || (x11.2 != 0)) || (x12.2 != 0)) || (x13.2 != 0)) with hb9 | hb9
   · exact wpl_no (d := 132) rfl rfl (cb hb9) <| wpl_no (d := 132) rfl rfl (cb hb9) <| s_pickT (cb hb9) rfl <| wpl_nil (nrm ⟨outP, rfl, congrArg Value.bool (or_t hb9), trivial⟩)
   · exact wpl_yes (d := 132) rfl rfl (cb hb9) <| s_mvv (v := vI x14.2) rfl <| wpl_yes (d := 132) rfl rfl (cb hb9) <| s_neq (m := x14.2) (n := 0) rfl rfl <| s_pickF (cb hb9) rfl <| wpl_nil (nrm ⟨outP, rfl, congrArg Value.bool (or_f hb9), trivial⟩)
 rintro f9 w28 ho ⟨h11, ha⟩
 subst h11
 obtain ⟨u9, rfl⟩ := fr_of (N := 221) ho ha
 refine s_mvv (v := vb ((((((x9.2 != 0) || (x10.2 != 0)) || (x11.2 != 0)) || (x12.2 != 0)) || (x13.2 != 0)) || (x14.2 != 0))) rfl <| wpl_cut 7 [137, 138, 139, 140, 141, 142, 143] (fun f' w' => w' = w28 ∧ AllAt f' [(143, vb (((((((x9.2 != 0) || (x10.2 != 0)) || (x11.2 != 0)) || (x12.2 != 0)) || (x13.2 != 0)) || (x14.2 != 0)) || ((x12.1.length : Int) != (a0.L.length : Int))))]) ?_ ?_
 · rcases bool_tf ((((((x9.2 != 0) || (x10.2 != 0)) || (x11.2 != 0)) || (x12.2 != 0)) || (x13.2 != 0)) || (x14.2 != 0)) with hb10 | hb10
   · exact wpl_no (d := 136) rfl rfl (cb hb10) <| wpl_no (d := 136) rfl rfl (cb hb10) <| wpl_no (d := 136) rfl rfl (cb hb10) <| wpl_no (d := 136) rfl rfl (cb hb10) <| wpl_no (d := 136) rfl rfl (cb hb10) <| wpl_no (d := 136) rfl rfl (cb hb10) <| s_pickT (cb hb10) rfl <| wpl_nil (nrm ⟨outP, rfl, congrArg Value.bool (or_t hb10), trivial⟩)
   · refine wpl_yes (d := 136) rfl rfl (cb hb10) <| s_mvv (v := v1) rfl <| wpl_yes (d := 136) rfl rfl (cb hb10) <| s_lenO (i := 2) S22 rfl rfl underlying43 <| wpl_yes (d := 136) rfl rfl (cb hb10) <| s_fld (n := 0) rfl underlying26 rfl rfl sizeOf23 <| wpl_yes (d := 136) rfl rfl (cb hb10) <| s_ld (i := 6) (cs := [a0v3]) S22 rfl rfl isAgg23 sizeOf23 rfl (fun _ => rfl) <| wpl_yes (d := 136) rfl rfl (cb hb10) ?_
     replace a0h3 := a0h3.up (mt l12 l13)
     exact s_lenR (xs := a0.L) rfl a0h3 underlying23 <| wpl_yes (d := 136) rfl rfl (cb hb10) <| s_neq (m := (x12.1.length : Int)) (n := (a0.L.length : Int)) rfl rfl <| s_pickF (cb hb10) rfl <| wpl_nil (nrm ⟨outP, rfl, congrArg Value.bool (or_f hb10), trivial⟩)
 rintro f10 w29 ho ⟨h12, ha⟩
 subst h12
 obtain ⟨u10, rfl⟩ := fr_of (N := 221) ho ha
 refine wpl_nil <| nrm <| wpc_if (t := (((((((x9.2 != 0) || (x10.2 != 0)) || (x11.2 != 0)) || (x12.2 != 0)) || (x13.2 != 0)) || (x14.2 != 0)) || ((x12.1.length : Int) != (a0.L.length : Int)))) rfl (fun hc3 => ?_) (fun hc3 => ?_)
 · replace hm := ifT hc3 hm
   refine ws <| s_asv (v := vb false) rfl <| wpl_nil <| nrm <| wpc_ret <| thR <| outRw fun we hpd => ?_
   replace S22 := St.pd S22 hpd
   obtain ⟨m14, l14, S23⟩ := St.drop S22 0
   clear S22
   replace S23 : St _ ((bx b5 (c_api_Place x13.1 v2) 47) :: (row 2 v1 c1 x12.1.length) :: (bx b4 (c_api_Head x11.1) 40) :: (bx b3 (c_api_Head x10.1) 40) :: (bx b2 (c_api_Key x9.1) 32) :: (bx b1 (c_api_Log a0 a0v3 a0v4 a0v5) 26) :: As) _ := S23
   obtain ⟨m15, l15, S24⟩ := St.drop S23 0
   clear S23
   replace S24 : St _ ((row 2 v1 c1 x12.1.length) :: (bx b4 (c_api_Head x11.1) 40) :: (bx b3 (c_api_Head x10.1) 40) :: (bx b2 (c_api_Key x9.1) 32) :: (bx b1 (c_api_Log a0 a0v3 a0v4 a0v5) 26) :: As) _ := S24
   obtain ⟨m16, l16, S25⟩ := St.drop S24 0
   clear S24
   replace S25 : St _ ((bx b4 (c_api_Head x11.1) 40) :: (bx b3 (c_api_Head x10.1) 40) :: (bx b2 (c_api_Key x9.1) 32) :: (bx b1 (c_api_Log a0 a0v3 a0v4 a0v5) 26) :: As) _ := S25
   obtain ⟨m17, l17, S26⟩ := St.drop S25 0
   clear S25
   replace S26 : St _ ((bx b3 (c_api_Head x10.1) 40) :: (bx b2 (c_api_Key x9.1) 32) :: (bx b1 (c_api_Log a0 a0v3 a0v4 a0v5) 26) :: As) _ := S26
   obtain ⟨m18, l18, S27⟩ := St.drop S26 0
   clear S26
   replace S27 : St _ ((bx b2 (c_api_Key x9.1) 32) :: (bx b1 (c_api_Log a0 a0v3 a0v4 a0v5) 26) :: As) _ := S27
   obtain ⟨m19, l19, S28⟩ := St.drop S27 0
   clear S27
   replace S28 : St _ ((bx b1 (c_api_Log a0 a0v3 a0v4 a0v5) 26) :: As) _ := S28
   obtain ⟨m20, l20, S29⟩ := St.drop S28 0
   clear S28
   replace S29 : St _ (As) _ := S29
   have e0 := Option.some.inj hm
   subst e0
   replace L0 := Mem.tr L0 (mt l1 (mt l3 (mt l6 (mt l8 (mt l9 (mt l10 (mt l11 (mt l12 (mt l13 (mt l14 (mt l15 (mt l16 (mt l17 (mt l18 (mt l19 l20)))))))))))))))
   exact outR [_] rfl ⟨rfl, trivial⟩ ⟨_, L0, S29, rfl⟩
 replace hm := ifF hc3 hm
 refine wpc_skip <| nrm <| wpc_seq <| ws <| s_ld (i := 5) (cs := (c_api_Key x9.1)) S22 rfl rfl isAgg32 sizeOf32 rfl (fun h => by cases h) <| s_ld (i := 4) (cs := (c_api_Head x10.1)) S22 rfl rfl isAgg40 sizeOf40 rfl (fun h => by cases h) ?_
 obtain ⟨x15, q18, hm⟩ := obind_some hm
 refine s_call call12 (w_logd_CheckHead (a0 := x9.1) (a1 := x10.1) S22  q18) rfl ?_
 rintro _ w30 ⟨m21, l21, S30, rfl⟩
 clear S22
 refine s_neq (m := x15) (n := 0) rfl rfl <| s_mvv (v := vb (x15 != 0)) rfl ?_
 obtain ⟨x17, q20, hm⟩ := obind_some hm
 have L2 := Mem.rfl' m21
 refine wpl_cut 5 [149, 150, 151, 152, 153] (fun f' w' => ∃ (M2 : Mem), m21 ≤ M2 ∧ St M2 ((row 2 v3 c2 x14.1.length) :: (bx b5 (c_api_Place x13.1 v2) 47) :: (row 2 v1 c1 x12.1.length) :: (bx b4 (c_api_Head x11.1) 40) :: (bx b3 (c_api_Head x10.1) 40) :: (bx b2 (c_api_Key x9.1) 32) :: (bx b1 (c_api_Log a0 a0v3 a0v4 a0v5) 26) :: As) w' ∧ AllAt f' [(153, vb x17)]) ?_ ?_
 · rcases bool_tf (x15 != 0) with hb11 | hb11
   · replace q20 := ifT hb11 q20
     refine wpl_no (d := 148) rfl rfl (cb hb11) <| wpl_no (d := 148) rfl rfl (cb hb11) <| wpl_no (d := 148) rfl rfl (cb hb11) <| wpl_no (d := 148) rfl rfl (cb hb11) <| s_pickT (cb hb11) rfl <| wpl_nil (nrm ?_)
     have e0 := Option.some.inj q20
     subst e0
     exact ⟨outP, m21, L2, S30, ⟨rfl, trivial⟩⟩
   replace q20 := ifF hb11 q20
   refine wpl_yes (d := 148) rfl rfl (cb hb11) <| s_ld (i := 5) (cs := (c_api_Key x9.1)) S30 rfl rfl isAgg32 sizeOf32 rfl (fun h => by cases h) <| wpl_yes (d := 148) rfl rfl (cb hb11) <| s_ld (i := 3) (cs := (c_api_Head x11.1)) S30 rfl rfl isAgg40 sizeOf40 rfl (fun h => by cases h) <| wpl_yes (d := 148) rfl rfl (cb hb11) ?_
   obtain ⟨x18, q21, q20⟩ := obind_some q20
   refine s_call call12 (w_logd_CheckHead (a0 := x9.1) (a1 := x11.1) S30  q21) rfl ?_
   rintro _ w32 ⟨m23, l23, S32, rfl⟩
   clear S30
   refine wpl_yes (d := 148) rfl rfl (cb hb11) <| s_neq (m := x18) (n := 0) rfl rfl <| s_pickF (cb hb11) rfl <| wpl_nil (nrm ?_)
   have e0 := Option.some.inj q20
   subst e0
   replace L2 := Mem.tr L2 l23
   exact ⟨outP, m23, L2, S32, ⟨rfl, trivial⟩⟩
 rintro f11 w33 ho ⟨m24, l24, S33, ha⟩
 obtain ⟨u11, rfl⟩ := fr_of (N := 221) ho ha
 clear S30
 refine s_mvv (v := vb x17) rfl <| wpl_cut 5 [155, 156, 157, 158, 159] (fun f' w' => w' = w33 ∧ AllAt f' [(159, vb (x17 || (x10.1.Size != x6)))]) ?_ ?_
 · rcases bool_tf x17 with hb12 | hb12
   · exact wpl_no (d := 154) rfl rfl (cb hb12) <| wpl_no (d := 154) rfl rfl (cb hb12) <| wpl_no (d := 154) rfl rfl (cb hb12) <| wpl_no (d := 154) rfl rfl (cb hb12) <| s_pickT (cb hb12) rfl <| wpl_nil (nrm ⟨outP, rfl, congrArg Value.bool (or_t hb12), trivial⟩)
   · exact wpl_yes (d := 154) rfl rfl (cb hb12) <| s_fld (n := 0) rfl underlying40 rfl rfl sizeOf3 <| wpl_yes (d := 154) rfl rfl (cb hb12) <| s_ld (i := 4) (cs := [vI x10.1.Size]) S33 rfl rfl isAgg3 sizeOf3 rfl (fun _ => rfl) <| wpl_yes (d := 154) rfl rfl (cb hb12) <| s_mvv (v := vI x6) rfl <| wpl_yes (d := 154) rfl rfl (cb hb12) <| s_neq (m := x10.1.Size) (n := x6) rfl rfl <| s_pickF (cb hb12) rfl <| wpl_nil (nrm ⟨outP, rfl, congrArg Value.bool (or_f hb12), trivial⟩)
 rintro f12 w34 ho ⟨h13, ha⟩
 subst h13
 obtain ⟨u12, rfl⟩ := fr_of (N := 221) ho ha
 refine s_mvv (v := vb (x17 || (x10.1.Size != x6))) rfl <| wpl_cut 5 [161, 162, 163, 164, 165] (fun f' w' => w' = w34 ∧ AllAt f' [(165, vb ((x17 || (x10.1.Size != x6)) || (x11.1.Size != x7)))]) ?_ ?_
 · rcases bool_tf (x17 || (x10.1.Size != x6)) with hb13 | hb13
   · exact wpl_no (d := 160) rfl rfl (cb hb13) <| wpl_no (d := 160) rfl rfl (cb hb13) <| wpl_no (d := 160) rfl rfl (cb hb13) <| wpl_no (d := 160) rfl rfl (cb hb13) <| s_pickT (cb hb13) rfl <| wpl_nil (nrm ⟨outP, rfl, congrArg Value.bool (or_t hb13), trivial⟩)
   · exact wpl_yes (d := 160) rfl rfl (cb hb13) <| s_fld (n := 0) rfl underlying40 rfl rfl sizeOf3 <| wpl_yes (d := 160) rfl rfl (cb hb13) <| s_ld (i := 3) (cs := [vI x11.1.Size]) S33 rfl rfl isAgg3 sizeOf3 rfl (fun _ => rfl) <| wpl_yes (d := 160) rfl rfl (cb hb13) <| s_mvv (v := vI x7) rfl <| wpl_yes (d := 160) rfl rfl (cb hb13) <| s_neq (m := x11.1.Size) (n := x7) rfl rfl <| s_pickF (cb hb13) rfl <| wpl_nil (nrm ⟨outP, rfl, congrArg Value.bool (or_f hb13), trivial⟩)
 rintro f13 w35 ho ⟨h14, ha⟩
 subst h14
 obtain ⟨u13, rfl⟩ := fr_of (N := 221) ho ha
 refine s_mvv (v := vb ((x17 || (x10.1.Size != x6)) || (x11.1.Size != x7))) rfl <| wpl_cut 6 [167, 168, 169, 170, 171, 172] (fun f' w' => w' = w35 ∧ AllAt f' [(172, vb (((x17 || (x10.1.Size != x6)) || (x11.1.Size != x7)) || (x10.1.Log != a0.Id)))]) ?_ ?_
 · rcases bool_tf ((x17 || (x10.1.Size != x6)) || (x11.1.Size != x7)) with hb14 | hb14
   · exact wpl_no (d := 166) rfl rfl (cb hb14) <| wpl_no (d := 166) rfl rfl (cb hb14) <| wpl_no (d := 166) rfl rfl (cb hb14) <| wpl_no (d := 166) rfl rfl (cb hb14) <| wpl_no (d := 166) rfl rfl (cb hb14) <| s_pickT (cb hb14) rfl <| wpl_nil (nrm ⟨outP, rfl, congrArg Value.bool (or_t hb14), trivial⟩)
   · exact wpl_yes (d := 166) rfl rfl (cb hb14) <| s_fld (n := 0) rfl underlying40 rfl rfl sizeOf3 <| wpl_yes (d := 166) rfl rfl (cb hb14) <| s_ld (i := 4) (cs := [vI x10.1.Log]) S33 rfl rfl isAgg3 sizeOf3 rfl (fun _ => rfl) <| wpl_yes (d := 166) rfl rfl (cb hb14) <| s_fld (n := 0) rfl underlying26 rfl rfl sizeOf3 <| wpl_yes (d := 166) rfl rfl (cb hb14) <| s_ld (i := 6) (cs := [vI a0.Id]) S33 rfl rfl isAgg3 sizeOf3 rfl (fun _ => rfl) <| wpl_yes (d := 166) rfl rfl (cb hb14) <| s_neq (m := x10.1.Log) (n := a0.Id) rfl rfl <| s_pickF (cb hb14) rfl <| wpl_nil (nrm ⟨outP, rfl, congrArg Value.bool (or_f hb14), trivial⟩)
 rintro f14 w36 ho ⟨h15, ha⟩
 subst h15
 obtain ⟨u14, rfl⟩ := fr_of (N := 221) ho ha
 refine s_mvv (v := vb (((x17 || (x10.1.Size != x6)) || (x11.1.Size != x7)) || (x10.1.Log != a0.Id))) rfl <| wpl_cut 5 [174, 175, 176, 177, 178] (fun f' w' => w' = w36 ∧ AllAt f' [(178, vb ((((x17 || (x10.1.Size != x6)) || (x11.1.Size != x7)) || (x10.1.Log != a0.Id)) || (x10.1.At != a5)))]) ?_ ?_
 · rcases bool_tf (((x17 || (x10.1.Size != x6)) || (x11.1.Size != x7)) || (x10.1.Log != a0.Id)) with hb15 | hb15
   · exact wpl_no (d := 173) rfl rfl (cb hb15) <| wpl_no (d := 173) rfl rfl (cb hb15) <| wpl_no (d := 173) rfl rfl (cb hb15) <| wpl_no (d := 173) rfl rfl (cb hb15) <| s_pickT (cb hb15) rfl <| wpl_nil (nrm ⟨outP, rfl, congrArg Value.bool (or_t hb15), trivial⟩)
   · exact wpl_yes (d := 173) rfl rfl (cb hb15) <| s_fld (n := 0) rfl underlying40 rfl rfl sizeOf3 <| wpl_yes (d := 173) rfl rfl (cb hb15) <| s_ld (i := 4) (cs := [vI x10.1.At]) S33 rfl rfl isAgg3 sizeOf3 rfl (fun _ => rfl) <| wpl_yes (d := 173) rfl rfl (cb hb15) <| s_mvv (v := vI a5) rfl <| wpl_yes (d := 173) rfl rfl (cb hb15) <| s_neq (m := x10.1.At) (n := a5) rfl rfl <| s_pickF (cb hb15) rfl <| wpl_nil (nrm ⟨outP, rfl, congrArg Value.bool (or_f hb15), trivial⟩)
 rintro f15 w37 ho ⟨h16, ha⟩
 subst h16
 obtain ⟨u15, rfl⟩ := fr_of (N := 221) ho ha
 refine wpl_nil <| nrm <| wpc_if (t := ((((x17 || (x10.1.Size != x6)) || (x11.1.Size != x7)) || (x10.1.Log != a0.Id)) || (x10.1.At != a5))) rfl (fun hc4 => ?_) (fun hc4 => ?_)
 · replace hm := ifT hc4 hm
   refine ws <| s_asv (v := vb false) rfl <| wpl_nil <| nrm <| wpc_ret <| thR <| outRw fun we hpd => ?_
   replace S33 := St.pd S33 hpd
   obtain ⟨m25, l25, S34⟩ := St.drop S33 0
   clear S33
   replace S34 : St _ ((bx b5 (c_api_Place x13.1 v2) 47) :: (row 2 v1 c1 x12.1.length) :: (bx b4 (c_api_Head x11.1) 40) :: (bx b3 (c_api_Head x10.1) 40) :: (bx b2 (c_api_Key x9.1) 32) :: (bx b1 (c_api_Log a0 a0v3 a0v4 a0v5) 26) :: As) _ := S34
   obtain ⟨m26, l26, S35⟩ := St.drop S34 0
   clear S34
   replace S35 : St _ ((row 2 v1 c1 x12.1.length) :: (bx b4 (c_api_Head x11.1) 40) :: (bx b3 (c_api_Head x10.1) 40) :: (bx b2 (c_api_Key x9.1) 32) :: (bx b1 (c_api_Log a0 a0v3 a0v4 a0v5) 26) :: As) _ := S35
   obtain ⟨m27, l27, S36⟩ := St.drop S35 0
   clear S35
   replace S36 : St _ ((bx b4 (c_api_Head x11.1) 40) :: (bx b3 (c_api_Head x10.1) 40) :: (bx b2 (c_api_Key x9.1) 32) :: (bx b1 (c_api_Log a0 a0v3 a0v4 a0v5) 26) :: As) _ := S36
   obtain ⟨m28, l28, S37⟩ := St.drop S36 0
   clear S36
   replace S37 : St _ ((bx b3 (c_api_Head x10.1) 40) :: (bx b2 (c_api_Key x9.1) 32) :: (bx b1 (c_api_Log a0 a0v3 a0v4 a0v5) 26) :: As) _ := S37
   obtain ⟨m29, l29, S38⟩ := St.drop S37 0
   clear S37
   replace S38 : St _ ((bx b2 (c_api_Key x9.1) 32) :: (bx b1 (c_api_Log a0 a0v3 a0v4 a0v5) 26) :: As) _ := S38
   obtain ⟨m30, l30, S39⟩ := St.drop S38 0
   clear S38
   replace S39 : St _ ((bx b1 (c_api_Log a0 a0v3 a0v4 a0v5) 26) :: As) _ := S39
   obtain ⟨m31, l31, S40⟩ := St.drop S39 0
   clear S39
   replace S40 : St _ (As) _ := S40
   have e0 := Option.some.inj hm
   subst e0
   replace L0 := Mem.tr L0 (mt l1 (mt l3 (mt l6 (mt l8 (mt l9 (mt l10 (mt l11 (mt l12 (mt l13 (mt l21 (mt l24 (mt l25 (mt l26 (mt l27 (mt l28 (mt l29 (mt l30 l31)))))))))))))))))
   exact outR [_] rfl ⟨rfl, trivial⟩ ⟨_, L0, S40, rfl⟩
 replace hm := ifF hc4 hm
 refine wpc_skip <| nrm <| wpc_seq ?_
 replace h6 := RepL.up (mt l21 l24) h6
 obtain ⟨m32, l32, h17, S41⟩ := St.rowKeepT (i := 0) S33 rfl h6 rfl
 clear S33
 obtain ⟨x19, q22, hm⟩ := obind_some hm
 obtain ⟨x20, q23, hm⟩ := obind_some hm
 obtain ⟨x21, q24, hm⟩ := obind_some hm
 have HM : MonoAll [(179, fv (pt b5 0)), (180, fv (vI x13.1.Log)), (181, fv (pt b1 0)), (182, fv (vI a0.Id)), (183, fv (vb (x13.1.Log == a0.Id))), (184, fv (vb (x13.1.Log == a0.Id))), (185, fc (x13.1.Log == a0.Id) (fv (pt b5 1))), (186, fc (x13.1.Log == a0.Id) (fv (vI x13.1.At))), (187, fc (x13.1.Log == a0.Id) (fv (vI x8))), (188, fc (x13.1.Log == a0.Id) (fv (vb (x13.1.At == x8)))), (189, fv (vb ((x13.1.Log == a0.Id) && (x13.1.At == x8)))), (190, fv (vb ((x13.1.Log == a0.Id) && (x13.1.At == x8)))), (191, fc ((x13.1.Log == a0.Id) && (x13.1.At == x8)) (fv (pt b5 2))), (192, fc ((x13.1.Log == a0.Id) && (x13.1.At == x8)) (fv (vI x13.1.Size))), (193, fc ((x13.1.Log == a0.Id) && (x13.1.At == x8)) (fv (vI x6))), (194, fc ((x13.1.Log == a0.Id) && (x13.1.At == x8)) (fv (vb (x13.1.Size == x6)))), (195, fv (vb (((x13.1.Log == a0.Id) && (x13.1.At == x8)) && (x13.1.Size == x6)))), (196, fv (vb (((x13.1.Log == a0.Id) && (x13.1.At == x8)) && (x13.1.Size == x6)))), (197, fc (((x13.1.Log == a0.Id) && (x13.1.At == x8)) && (x13.1.Size == x6)) (fv v1)), (198, fc (((x13.1.Log == a0.Id) && (x13.1.At == x8)) && (x13.1.Size == x6)) (fv (vI x8))), (199, fc (((x13.1.Log == a0.Id) && (x13.1.At == x8)) && (x13.1.Size == x6)) (fun (M : Mem) (v : Value) => ∃ (p1 : Value), v = p1 ∧ PtO v1 p1 (x8.toNat * 2))), (200, fc (((x13.1.Log == a0.Id) && (x13.1.At == x8)) && (x13.1.Size == x6)) (fv (.agg #[vU x19.1, vU x19.2]))), (201, fc (((x13.1.Log == a0.Id) && (x13.1.At == x8)) && (x13.1.Size == x6)) (fv (vI x8))), (202, fc (((x13.1.Log == a0.Id) && (x13.1.At == x8)) && (x13.1.Size == x6)) (fv (vI x6))), (203, fc (((x13.1.Log == a0.Id) && (x13.1.At == x8)) && (x13.1.Size == x6)) (fv (pt b5 3))), (204, fc (((x13.1.Log == a0.Id) && (x13.1.At == x8)) && (x13.1.Size == x6)) (fv v2)), (205, fc (((x13.1.Log == a0.Id) && (x13.1.At == x8)) && (x13.1.Size == x6)) (fv (pt b3 2))), (206, fc (((x13.1.Log == a0.Id) && (x13.1.At == x8)) && (x13.1.Size == x6)) (fv (.agg #[vU x10.1.Root.1, vU x10.1.Root.2]))), (207, fc (((x13.1.Log == a0.Id) && (x13.1.At == x8)) && (x13.1.Size == x6)) (fv (vI x20))), (208, fc (((x13.1.Log == a0.Id) && (x13.1.At == x8)) && (x13.1.Size == x6)) (fv (vb (x20 == 0)))), (209, fv (vb ((((x13.1.Log == a0.Id) && (x13.1.At == x8)) && (x13.1.Size == x6)) && (x20 == 0)))), (210, fv (vb ((((x13.1.Log == a0.Id) && (x13.1.At == x8)) && (x13.1.Size == x6)) && (x20 == 0)))), (211, fc ((((x13.1.Log == a0.Id) && (x13.1.At == x8)) && (x13.1.Size == x6)) && (x20 == 0)) (fv (vI x7))), (212, fc ((((x13.1.Log == a0.Id) && (x13.1.At == x8)) && (x13.1.Size == x6)) && (x20 == 0)) (fv (vI x6))), (213, fc ((((x13.1.Log == a0.Id) && (x13.1.At == x8)) && (x13.1.Size == x6)) && (x20 == 0)) (fv (pt b4 2))), (214, fc ((((x13.1.Log == a0.Id) && (x13.1.At == x8)) && (x13.1.Size == x6)) && (x20 == 0)) (fv (.agg #[vU x11.1.Root.1, vU x11.1.Root.2]))), (215, fc ((((x13.1.Log == a0.Id) && (x13.1.At == x8)) && (x13.1.Size == x6)) && (x20 == 0)) (fv (pt b3 2))), (216, fc ((((x13.1.Log == a0.Id) && (x13.1.At == x8)) && (x13.1.Size == x6)) && (x20 == 0)) (fv (.agg #[vU x10.1.Root.1, vU x10.1.Root.2]))), (217, fc ((((x13.1.Log == a0.Id) && (x13.1.At == x8)) && (x13.1.Size == x6)) && (x20 == 0)) (fv v3)), (218, fc ((((x13.1.Log == a0.Id) && (x13.1.At == x8)) && (x13.1.Size == x6)) && (x20 == 0)) (fv (vI x21))), (219, fc ((((x13.1.Log == a0.Id) && (x13.1.At == x8)) && (x13.1.Size == x6)) && (x20 == 0)) (fv (vb (x21 == 0)))), (220, fv (vb (((((x13.1.Log == a0.Id) && (x13.1.At == x8)) && (x13.1.Size == x6)) && (x20 == 0)) && (x21 == 0))))] := ⟨mv, mv, mv, mv, mv, mv, (mc mv), (mc mv), (mc mv), (mc mv), mv, mv, (mc mv), (mc mv), (mc mv), (mc mv), mv, mv, (mc mv), (mc mv), (mc (fun _ _ _ l ⟨p1, e, h18⟩ => ⟨p1, e, h18⟩)), (mc mv), (mc mv), (mc mv), (mc mv), (mc mv), (mc mv), (mc mv), (mc mv), (mc mv), mv, mv, (mc mv), (mc mv), (mc mv), (mc mv), (mc mv), (mc mv), (mc mv), (mc mv), (mc mv), mv, trivial⟩
 refine wpc_flowG HM 42 mixed rfl rfl rfl (rg 179 42) (fun L f M w => St M ((bx b5 (c_api_Place x13.1 v2) 47) :: (row 2 v1 c1 x12.1.length) :: (bx b4 (c_api_Head x11.1) 40) :: (bx b3 (c_api_Head x10.1) 40) :: (bx b2 (c_api_Key x9.1) 32) :: (bx b1 (c_api_Log a0 a0v3 a0v4 a0v5) 26) :: As) w) (St.drew S41 _) ?_ ?_
 · refine ⟨?_, ?_, ?_, ?_, ?_, ?_, ?_, ?_, ?_, ?_, ?_, ?_, ?_, ?_, ?_, ?_, ?_, ?_, ?_, ?_, ?_, ?_, ?_, ?_, ?_, ?_, ?_, ?_, ?_, ?_, ?_, ?_, ?_, ?_, ?_, ?_, ?_, ?_, ?_, ?_, ?_, ?_, trivial⟩
   · exact flp HM rfl [] (fun _ _ => trivial) (fun _ _ q => s_fld (n := 0) rfl underlying47 rfl rfl sizeOf3 q) rfl
   · exact flp HM rfl [(179, _)] (fun K _ => ⟨K 0 rfl, trivial⟩) (fun _ S43 q => s_ld (i := 0) (cs := [vI x13.1.Log]) S43 rfl rfl isAgg3 sizeOf3 rfl (fun _ => rfl) q) rfl
   · exact flp HM rfl [] (fun _ _ => trivial) (fun _ _ q => s_fld (n := 0) rfl underlying26 rfl rfl sizeOf3 q) rfl
   · exact flp HM rfl [(181, _)] (fun K _ => ⟨K 2 rfl, trivial⟩) (fun _ S45 q => s_ld (i := 5) (cs := [vI a0.Id]) S45 rfl rfl isAgg3 sizeOf3 rfl (fun _ => rfl) q) rfl
   · exact flp HM rfl [(180, _), (182, _)] (fun K _ => ⟨K 1 rfl, K 3 rfl, trivial⟩) (fun _ _ q => s_eql (m := x13.1.Log) (n := a0.Id) rfl rfl q) rfl
   · exact flp HM rfl [(183, _)] (fun K _ => ⟨K 4 rfl, trivial⟩) (fun _ _ q => s_mvv (v := vb (x13.1.Log == a0.Id)) rfl q) rfl
   · exact flg HM rfl rfl (fun K _ => K 5 rfl) [] (fun _ _ _ => trivial) (fun _ => fun _ _ q => s_fld (n := 0) rfl underlying47 rfl rfl sizeOf3 q) (fun _ => rfl)
   · exact flg HM rfl rfl (fun K _ => K 5 rfl) [(185, _)] (fun K _ hb => ⟨(K 6 rfl).1 hb, trivial⟩) (fun _ => fun _ S49 q => s_ld (i := 0) (cs := [vI x13.1.At]) S49 rfl rfl isAgg3 sizeOf3 rfl (fun _ => rfl) q) (fun _ => rfl)
   · exact flg HM rfl rfl (fun K _ => K 5 rfl) [] (fun _ _ _ => trivial) (fun _ => fun _ _ q => s_mvv (v := vI x8) rfl q) (fun _ => rfl)
   · exact flg HM rfl rfl (fun K _ => K 5 rfl) [(186, _), (187, _)] (fun K _ hb => ⟨(K 7 rfl).1 hb, (K 8 rfl).1 hb, trivial⟩) (fun _ => fun _ _ q => s_eql (m := x13.1.At) (n := x8) rfl rfl q) (fun _ => rfl)
   · exact flc HM rfl (x13.1.Log == a0.Id) [(184, _), (188, _)] [(184, _)] (fun K _ hb => ⟨K 5 rfl, (K 9 rfl).1 hb, trivial⟩) (fun K _ _ => ⟨K 5 rfl, trivial⟩) (fun hb => fun _ _ q => s_pickT (cb hb) rfl q) (fun hb => fun _ _ q => s_pickF (cb hb) rfl q) (fun hb => cb (and_t hb)) (fun hb => cb (and_f hb))
   · exact flp HM rfl [(189, _)] (fun K _ => ⟨K 10 rfl, trivial⟩) (fun _ _ q => s_mvv (v := vb ((x13.1.Log == a0.Id) && (x13.1.At == x8))) rfl q) rfl
   · exact flg HM rfl rfl (fun K _ => K 11 rfl) [] (fun _ _ _ => trivial) (fun _ => fun _ _ q => s_fld (n := 0) rfl underlying47 rfl rfl sizeOf3 q) (fun _ => rfl)
   · exact flg HM rfl rfl (fun K _ => K 11 rfl) [(191, _)] (fun K _ hb => ⟨(K 12 rfl).1 hb, trivial⟩) (fun _ => fun _ S55 q => s_ld (i := 0) (cs := [vI x13.1.Size]) S55 rfl rfl isAgg3 sizeOf3 rfl (fun _ => rfl) q) (fun _ => rfl)
   · exact flg HM rfl rfl (fun K _ => K 11 rfl) [] (fun _ _ _ => trivial) (fun _ => fun _ _ q => s_mvv (v := vI x6) rfl q) (fun _ => rfl)
   · exact flg HM rfl rfl (fun K _ => K 11 rfl) [(192, _), (193, _)] (fun K _ hb => ⟨(K 13 rfl).1 hb, (K 14 rfl).1 hb, trivial⟩) (fun _ => fun _ _ q => s_eql (m := x13.1.Size) (n := x6) rfl rfl q) (fun _ => rfl)
   · exact flc HM rfl ((x13.1.Log == a0.Id) && (x13.1.At == x8)) [(190, _), (194, _)] [(190, _)] (fun K _ hb => ⟨K 11 rfl, (K 15 rfl).1 hb, trivial⟩) (fun K _ _ => ⟨K 11 rfl, trivial⟩) (fun hb => fun _ _ q => s_pickT (cb hb) rfl q) (fun hb => fun _ _ q => s_pickF (cb hb) rfl q) (fun hb => cb (and_t hb)) (fun hb => cb (and_f hb))
   · exact flp HM rfl [(195, _)] (fun K _ => ⟨K 16 rfl, trivial⟩) (fun _ _ q => s_mvv (v := vb (((x13.1.Log == a0.Id) && (x13.1.At == x8)) && (x13.1.Size == x6))) rfl q) rfl
   · exact flg HM rfl rfl (fun K _ => K 17 rfl) [] (fun _ _ _ => trivial) (fun _ => fun _ _ q => s_mvv (v := v1) rfl q) (fun _ => rfl)
   · exact flg HM rfl rfl (fun K _ => K 17 rfl) [] (fun _ _ _ => trivial) (fun _ => fun _ _ q => s_mvv (v := vI x8) rfl q) (fun _ => rfl)
   · refine flb HM rfl rfl (fun K _ => K 17 rfl) fun hb28 => ?_
     intro L f36 w58 hL hd hc ⟨m53, L45, S62, K, hO⟩
     obtain ⟨u38, rfl⟩ := fr_of (N := 221) (L := [(197, _), (198, _)]) hO ⟨(K 18 (dep hd rfl)).1 hb28, (K 19 (dep hd rfl)).1 hb28, trivial⟩
     replace S62 : St _ ((bx b5 (c_api_Place x13.1 v2) 47) :: (row 2 v1 c1 x12.1.length) :: (bx b4 (c_api_Head x11.1) 40) :: (bx b3 (c_api_Head x10.1) 40) :: (bx b2 (c_api_Key x9.1) 32) :: (bx b1 (c_api_Log a0 a0v3 a0v4 a0v5) 26) :: As) _ := S62
     replace q22 := gu_t hb28 q22
     exact s_idxO (i := 1) (j := x8) S62 rfl rfl rfl (idx_rng q22).1 (idx_rng q22).2 underlying43 sizeOf36 fun p1 h18 => oS HM L45 S62 rfl K rfl rfl ⟨fun _ => ⟨p1, rfl, h18⟩, fun hx => tf hb28 hx⟩ outP
   · refine flb HM rfl rfl (fun K _ => K 17 rfl) fun hb29 => ?_
     intro L f37 w59 hL hd hc ⟨m54, L47, S63, K, hO⟩
     obtain ⟨v4, e22, h19⟩ := (K 20 (dep hd rfl)).1 hb29
     obtain ⟨u39, rfl⟩ := fr_of (N := 221) (L := [(199, _)]) hO ⟨e22, trivial⟩
     replace S63 : St _ ((bx b5 (c_api_Place x13.1 v2) 47) :: (row 2 v1 c1 x12.1.length) :: (bx b4 (c_api_Head x11.1) 40) :: (bx b3 (c_api_Head x10.1) 40) :: (bx b2 (c_api_Key x9.1) 32) :: (bx b1 (c_api_Log a0 a0v3 a0v4 a0v5) 26) :: As) _ := S63
     replace h4 := RepL.up (mt l12 (mt l13 (mt l21 (mt l24 (mt l32 L47))))) h4
     have e23 := rep_arr2_UInt64 (RepL.getI h4 (gu_t hb29 q22))
     exact s_ldO (i := 1) (off := x8.toNat * 2) (d := [vU x19.1, vU x19.2]) S63 rfl h19 rfl e23 isAgg36 sizeOf36 (fun h => by cases h) <| oS HM L47 S63 rfl K rfl rfl ⟨fun _ => rfl, fun hx => tf hb29 hx⟩ outP
   · exact flg HM rfl rfl (fun K _ => K 17 rfl) [] (fun _ _ _ => trivial) (fun _ => fun _ _ q => s_mvv (v := vI x8) rfl q) (fun _ => rfl)
   · exact flg HM rfl rfl (fun K _ => K 17 rfl) [] (fun _ _ _ => trivial) (fun _ => fun _ _ q => s_mvv (v := vI x6) rfl q) (fun _ => rfl)
   · exact flg HM rfl rfl (fun K _ => K 17 rfl) [] (fun _ _ _ => trivial) (fun _ => fun _ _ q => s_fld (n := 0) rfl underlying47 rfl rfl sizeOf43 q) (fun _ => rfl)
   · exact flg HM rfl rfl (fun K _ => K 17 rfl) [(203, _)] (fun K _ hb => ⟨(K 24 rfl).1 hb, trivial⟩) (fun _ => fun _ S67 q => s_ld (i := 0) (cs := [v2]) S67 rfl rfl isAgg43 sizeOf43 rfl (fun _ => rfl) q) (fun _ => rfl)
   · exact flg HM rfl rfl (fun K _ => K 17 rfl) [] (fun _ _ _ => trivial) (fun _ => fun _ _ q => s_fld (n := 1) rfl underlying40 rfl rfl sizeOf36 q) (fun _ => rfl)
   · exact flg HM rfl rfl (fun K _ => K 17 rfl) [(205, _)] (fun K _ hb => ⟨(K 26 rfl).1 hb, trivial⟩) (fun _ => fun _ S69 q => s_ld (i := 3) (cs := [vU x10.1.Root.1, vU x10.1.Root.2]) S69 rfl rfl isAgg36 sizeOf36 rfl (fun h => by cases h) q) (fun _ => rfl)
   · refine flb HM rfl rfl (fun K _ => K 17 rfl) fun hb36 => ?_
     intro L f44 w66 hL hd hc ⟨m61, L61, S70, K, hO⟩
     obtain ⟨u46, rfl⟩ := fr_of (N := 221) (L := [(200, _), (201, _), (202, _), (204, _), (206, _)]) hO ⟨(K 21 (dep hd rfl)).1 hb36, (K 22 (dep hd rfl)).1 hb36, (K 23 (dep hd rfl)).1 hb36, (K 25 (dep hd rfl)).1 hb36, (K 27 (dep hd rfl)).1 hb36, trivial⟩
     replace S70 : St _ ((bx b5 (c_api_Place x13.1 v2) 47) :: (row 2 v1 c1 x12.1.length) :: (bx b4 (c_api_Head x11.1) 40) :: (bx b3 (c_api_Head x10.1) 40) :: (bx b2 (c_api_Key x9.1) 32) :: (bx b1 (c_api_Log a0 a0v3 a0v4 a0v5) 26) :: As) _ := S70
     have L62 := Mem.rfl' m61
     replace q23 := gu_t hb36 q23
     replace h5 := h5.up (mt l13 (mt l21 (mt l24 (mt l32 L61))))
     refine s_call call13 (w_merkle_Check (a0 := x19) (a1 := x8) (a2 := x6) (a3 := x13.1.Proof) (a4 := x10.1.Root) S70 h5 q23) rfl ?_
     rintro _ w67 ⟨m62, l33, S71, rfl⟩
     clear S70
     refine wpn ?_
     replace L62 := Mem.tr L62 l33
     exact ⟨m62, Mem.tr L61 L62, S71, facts_step HM rfl K L62 rfl rfl ⟨fun _ => rfl, fun hx => tf hb36 hx⟩, outP⟩
   · exact flg HM rfl rfl (fun K _ => K 17 rfl) [(207, _)] (fun K _ hb => ⟨(K 28 rfl).1 hb, trivial⟩) (fun _ => fun _ _ q => s_eql (m := x20) (n := 0) rfl rfl q) (fun _ => rfl)
   · exact flc HM rfl (((x13.1.Log == a0.Id) && (x13.1.At == x8)) && (x13.1.Size == x6)) [(196, _), (208, _)] [(196, _)] (fun K _ hb => ⟨K 17 rfl, (K 29 rfl).1 hb, trivial⟩) (fun K _ _ => ⟨K 17 rfl, trivial⟩) (fun hb => fun _ _ q => s_pickT (cb hb) rfl q) (fun hb => fun _ _ q => s_pickF (cb hb) rfl q) (fun hb => cb (and_t hb)) (fun hb => cb (and_f hb))
   · exact flp HM rfl [(209, _)] (fun K _ => ⟨K 30 rfl, trivial⟩) (fun _ _ q => s_mvv (v := vb ((((x13.1.Log == a0.Id) && (x13.1.At == x8)) && (x13.1.Size == x6)) && (x20 == 0))) rfl q) rfl
   · exact flg HM rfl rfl (fun K _ => K 31 rfl) [] (fun _ _ _ => trivial) (fun _ => fun _ _ q => s_mvv (v := vI x7) rfl q) (fun _ => rfl)
   · exact flg HM rfl rfl (fun K _ => K 31 rfl) [] (fun _ _ _ => trivial) (fun _ => fun _ _ q => s_mvv (v := vI x6) rfl q) (fun _ => rfl)
   · exact flg HM rfl rfl (fun K _ => K 31 rfl) [] (fun _ _ _ => trivial) (fun _ => fun _ _ q => s_fld (n := 1) rfl underlying40 rfl rfl sizeOf36 q) (fun _ => rfl)
   · exact flg HM rfl rfl (fun K _ => K 31 rfl) [(213, _)] (fun K _ hb => ⟨(K 34 rfl).1 hb, trivial⟩) (fun _ => fun _ S78 q => s_ld (i := 2) (cs := [vU x11.1.Root.1, vU x11.1.Root.2]) S78 rfl rfl isAgg36 sizeOf36 rfl (fun h => by cases h) q) (fun _ => rfl)
   · exact flg HM rfl rfl (fun K _ => K 31 rfl) [] (fun _ _ _ => trivial) (fun _ => fun _ _ q => s_fld (n := 1) rfl underlying40 rfl rfl sizeOf36 q) (fun _ => rfl)
   · exact flg HM rfl rfl (fun K _ => K 31 rfl) [(215, _)] (fun K _ hb => ⟨(K 36 rfl).1 hb, trivial⟩) (fun _ => fun _ S80 q => s_ld (i := 3) (cs := [vU x10.1.Root.1, vU x10.1.Root.2]) S80 rfl rfl isAgg36 sizeOf36 rfl (fun h => by cases h) q) (fun _ => rfl)
   · exact flg HM rfl rfl (fun K _ => K 31 rfl) [] (fun _ _ _ => trivial) (fun _ => fun _ _ q => s_mvv (v := v3) rfl q) (fun _ => rfl)
   · refine flb HM rfl rfl (fun K _ => K 31 rfl) fun hb46 => ?_
     intro L f55 w78 hL hd hc ⟨m73, L84, S82, K, hO⟩
     obtain ⟨u58, rfl⟩ := fr_of (N := 221) (L := [(211, _), (212, _), (214, _), (216, _), (217, _)]) hO ⟨(K 32 (dep hd rfl)).1 hb46, (K 33 (dep hd rfl)).1 hb46, (K 35 (dep hd rfl)).1 hb46, (K 37 (dep hd rfl)).1 hb46, (K 38 (dep hd rfl)).1 hb46, trivial⟩
     replace S82 : St _ ((bx b5 (c_api_Place x13.1 v2) 47) :: (row 2 v1 c1 x12.1.length) :: (bx b4 (c_api_Head x11.1) 40) :: (bx b3 (c_api_Head x10.1) 40) :: (bx b2 (c_api_Key x9.1) 32) :: (bx b1 (c_api_Log a0 a0v3 a0v4 a0v5) 26) :: As) _ := S82
     have L85 := Mem.rfl' m73
     replace q24 := gu_t hb46 q24
     replace T1 := T1.up (mt l1 (mt l3 (mt l6 (mt l8 (mt l9 (mt l10 (mt l11 (mt l12 (mt l13 (mt l21 (mt l24 (mt l32 L84))))))))))))
     refine s_call call14 (w_merkle_CheckGrow (a0 := x7) (a1 := x6) (a2 := x11.1.Root) (a3 := x10.1.Root) (a4 := x14.1) S82 T1 (h17.up L84) q24) rfl ?_
     rintro _ w79 ⟨m74, l34, S83, rfl⟩
     clear S82
     refine wpn ?_
     replace L85 := Mem.tr L85 l34
     exact ⟨m74, Mem.tr L84 L85, S83, facts_step HM rfl K L85 rfl rfl ⟨fun _ => rfl, fun hx => tf hb46 hx⟩, outP⟩
   · exact flg HM rfl rfl (fun K _ => K 31 rfl) [(218, _)] (fun K _ hb => ⟨(K 39 rfl).1 hb, trivial⟩) (fun _ => fun _ _ q => s_eql (m := x21) (n := 0) rfl rfl q) (fun _ => rfl)
   · exact flc HM rfl ((((x13.1.Log == a0.Id) && (x13.1.At == x8)) && (x13.1.Size == x6)) && (x20 == 0)) [(210, _), (219, _)] [(210, _)] (fun K _ hb => ⟨K 31 rfl, (K 40 rfl).1 hb, trivial⟩) (fun K _ _ => ⟨K 31 rfl, trivial⟩) (fun hb => fun _ _ q => s_pickT (cb hb) rfl q) (fun hb => fun _ _ q => s_pickF (cb hb) rfl q) (fun hb => cb (and_t hb)) (fun hb => cb (and_f hb))
 intro L f58 w82 hall ⟨m77, L91, S86, K, hO⟩
 have d41 : L 41 = true := hall 41 (by decide)
 obtain ⟨u62, rfl⟩ := fr_of (N := 221) (L := [(220, _)]) hO ⟨K 41 d41, trivial⟩
 replace S86 : St _ ((bx b5 (c_api_Place x13.1 v2) 47) :: (row 2 v1 c1 x12.1.length) :: (bx b4 (c_api_Head x11.1) 40) :: (bx b3 (c_api_Head x10.1) 40) :: (bx b2 (c_api_Key x9.1) 32) :: (bx b1 (c_api_Log a0 a0v3 a0v4 a0v5) 26) :: As) _ := S86
 clear S41
 obtain ⟨x22, q25, hm⟩ := bnd_eq hm
 refine s_asv (v := vb x22) (congrArg (fun z => vb z) q25.symm) <| wpl_nil <| nrm <| wpc_ret <| outRw fun we hpd => ?_
 replace S86 := St.pd S86 hpd
 obtain ⟨m78, l35, S87⟩ := St.drop S86 0
 clear S86
 replace S87 : St _ ((row 2 v1 c1 x12.1.length) :: (bx b4 (c_api_Head x11.1) 40) :: (bx b3 (c_api_Head x10.1) 40) :: (bx b2 (c_api_Key x9.1) 32) :: (bx b1 (c_api_Log a0 a0v3 a0v4 a0v5) 26) :: As) _ := S87
 obtain ⟨m79, l36, S88⟩ := St.drop S87 0
 clear S87
 replace S88 : St _ ((bx b4 (c_api_Head x11.1) 40) :: (bx b3 (c_api_Head x10.1) 40) :: (bx b2 (c_api_Key x9.1) 32) :: (bx b1 (c_api_Log a0 a0v3 a0v4 a0v5) 26) :: As) _ := S88
 obtain ⟨m80, l37, S89⟩ := St.drop S88 0
 clear S88
 replace S89 : St _ ((bx b3 (c_api_Head x10.1) 40) :: (bx b2 (c_api_Key x9.1) 32) :: (bx b1 (c_api_Log a0 a0v3 a0v4 a0v5) 26) :: As) _ := S89
 obtain ⟨m81, l38, S90⟩ := St.drop S89 0
 clear S89
 replace S90 : St _ ((bx b2 (c_api_Key x9.1) 32) :: (bx b1 (c_api_Log a0 a0v3 a0v4 a0v5) 26) :: As) _ := S90
 obtain ⟨m82, l39, S91⟩ := St.drop S90 0
 clear S90
 replace S91 : St _ ((bx b1 (c_api_Log a0 a0v3 a0v4 a0v5) 26) :: As) _ := S91
 obtain ⟨m83, l40, S92⟩ := St.drop S91 0
 clear S91
 replace S92 : St _ (As) _ := S92
 have e0 := Option.some.inj hm
 subst e0
 replace L0 := Mem.tr L0 (mt l1 (mt l3 (mt l6 (mt l8 (mt l9 (mt l10 (mt l11 (mt l12 (mt l13 (mt l21 (mt l24 (mt l32 (mt L91 (mt l35 (mt l36 (mt l37 (mt l38 (mt l39 l40))))))))))))))))))
 exact outR [_] rfl ⟨rfl, trivial⟩ ⟨_, L0, S92, rfl⟩

end Go.Proofs.YtemiampgjgenhaaGreatDoor
