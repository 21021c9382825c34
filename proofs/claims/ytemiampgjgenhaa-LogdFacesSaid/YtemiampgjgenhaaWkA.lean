/- The walks of some functions, written by program. Conditions: none. -/
import Derived.Test.YtemiampgjgenhaaGwT
set_option maxHeartbeats 20000000
set_option maxRecDepth 100000
set_option linter.unusedVariables false
set_option linter.unusedSimpArgs false
namespace Go.Proofs.Ytemiampgjgenhaa
open Go Go.Gw

def m_hash_put_b1 (a1 : UInt64) (s1 : (List UInt8) × Int) : Option (((List UInt8) × Int) ⊕ ((List UInt8))) :=
  if (decide (s1.2 ≥ 0)) = true then
    if (0 : Int) ≤ (w64 (8 * s1.2)) then
      obind (app 1 s1.1 ([(toB ((shrU a1 ((w64 (8 * s1.2)).toNat)).toNat : Int))] : List UInt8)) fun x4 =>
      some (.inl (x4, (w64 (s1.2 - 1))))
    else none
  else
  some (.inr s1.1)

def m_hash_put (a0 : List UInt8) (a1 : UInt64) (a2 : Int) : Option (List UInt8) :=
  obind (
    obind (iter (m_hash_put_b1 a1) FUEL (a0, (w64 (a2 - 1)))) fun x2 =>
    some x2
  ) fun x1 =>
  some x1

theorem w_hash_put {m : Mem} {As : List Ow} {w : World} {a0 : List UInt8} {a0v0 : Value} {a0c0 : List Value} {a1 : UInt64} {a2 : Int} {r : List UInt8} (S : St m ((row 1 a0v0 a0c0 a0.length) :: As) w) (a0h0 : RepL m a0c0 a0) (hm : m_hash_put a0 a1 a2 = some r) :
    CallsR Try.prog 57 #[a0v0, vU a1, vI a2] w fun v w' => ∃ (M : Mem), m ≤ M ∧ ∃ (rv0 : Value) (rc0 : List Value), St M ((row 1 rv0 rc0 r.length) :: As) w' ∧ v = rv0 ∧ RepL M rc0 r := by
 unfold m_hash_put at hm
 have L0 := Mem.rfl' m
 refine callsR (args := [a0v0, vU a1, vI a2]) Try.func57 rfl Try.ntmps57 (Nat.le_of_ble_eq_true rfl) <| wpc_seq <| wpc_region <| s_asv (v := .slice none 0 0) rfl <| wpl_nil <| nrm ?_
 obtain ⟨x1, q1, hm⟩ := obind_some hm
 have L1 := Mem.rfl' m
 refine wpc_seq <| wpc_join [0, 2, 7, 8, 9, 10, 11, 12, 13, 14, 15, 16, 17, 18, 19, 20] (fun f' w' => ∃ (M1 : Mem) (v1 : Value) (c1 : List Value), m ≤ M1 ∧ St M1 ((row 1 v1 c1 x1.length) :: As) w' ∧ RepL M1 c1 x1 ∧ AllAt f' [(0, v1)]) ?_ ?_
 · refine wpc_seq <| wpc_region <| s_mvv (v := vI a2) rfl <| s_subI (m := a2) (n := 1) rfl rfl <| s_asv (v := vI (w64 (a2 - 1))) rfl <| wpl_nil <| nrm ?_
   obtain ⟨x2, q2, q1⟩ := obind_some q1
   have L2 := Mem.rfl' m
   refine wpc_join [0, 2, 9, 10, 11, 12, 13, 14, 15, 16, 17, 18, 19, 20] (fun f' w' => ∃ (M2 : Mem) (v3 : Value) (c3 : List Value), m ≤ M2 ∧ St M2 ((row 1 v3 c3 x2.length) :: As) w' ∧ RepL M2 c3 x2 ∧ AllAt f' [(0, v3)]) ?_ ?_
   · refine wpc_block <| wpc_rounds [0, 2, 9, 10, 11, 12, 13, 14, 15, 16, 17, 18, 19, 20] (fun n1 f' w' => ∃ (s1 : (List UInt8) × Int) (m3 : Mem) (v2 : Value) (c2 : List Value), iter (m_hash_put_b1 a1) n1 s1 = some x2 ∧ m ≤ m3 ∧ St m3 ((row 1 v2 c2 s1.1.length) :: As) w' ∧ RepL m3 c2 s1.1 ∧ AllAt f' [(0, v2), (2, vI s1.2)]) FUEL ⟨(a0, (w64 (a2 - 1))), m, _, _, q2, L2, S, a0h0, ⟨rfl, rfl, trivial⟩⟩ ?_
     rintro n1 f1 w1 ho ⟨s1, m1, v2, c2, q3, L4, S1, h2, ha⟩
     obtain ⟨u1, rfl⟩ := fr_of (N := 22) ho ha
     clear ho ha
     have L3 := Mem.rfl' m1
     clear S
     cases n1 with
     | zero => exact (iter_zero q3).elim
     | succ n1 =>
      obtain ⟨y1, q5, q4⟩ := iter_succ q3
      unfold m_hash_put_b1 at q5
      refine wpc_seq <| wpc_seq <| wpc_region <| s_mvv (v := vI s1.2) rfl <| s_geq (m := s1.2) (n := 0) rfl rfl <| wpl_nil <| nrm <| wpc_if (t := (decide (s1.2 ≥ 0))) rfl (fun hc1 => ?_) (fun hc1 => ?_)
      · replace q5 := ifT hc1 q5
        refine wpc_skip <| nrm <| wpc_seq <| wpc_block <| wpc_region <| s_mvv (v := v2) rfl <| s_mvv (v := vU a1) rfl <| s_mvv (v := vI s1.2) rfl <| s_mulI (m := 8) (n := s1.2) rfl rfl ?_
        obtain ⟨q7, q5⟩ := if_some q5
        refine s_shrU (m := a1) (n := (w64 (8 * s1.2))) rfl rfl q7 <| s_convB rfl Try.underlying22 Try.underlying5 <| s_litC (parts := [.tmp 18]) (vs := [vB (toB ((shrU a1 ((w64 (8 * s1.2)).toNat)).toNat : Int))]) (cls := [[vB (toB ((shrU a1 ((w64 (8 * s1.2)).toNat)).toNat : Int))]]) (xs := ([(toB ((shrU a1 ((w64 (8 * s1.2)).toNat)).toNat : Int))] : List UInt8)) (n := 1) S1 Try.underlying27 Try.sizeOf5 Try.zeroValue5 rfl ⟨rfl, trivial⟩ (RepL.cons (c := [vB (toB ((shrU a1 ((w64 (8 * s1.2)).toNat)).toNat : Int))]) (x := (toB ((shrU a1 ((w64 (8 * s1.2)).toNat)).toNat : Int))) rfl RepL.nil) rfl rfl rfl (by decide) (by decide) fun v4 m2 w2 l1 S2 h4 => ?_
        replace h2 := RepL.up l1 h2
        replace L3 := Mem.tr L3 l1
        clear S1
        obtain ⟨x4, q8, q5⟩ := obind_some q5
        refine s_app (i := 0) (zs := x4) (bytes := 1) (ti := Try.t5) S2 rfl rfl h2 rfl rfl h4 q8 Try.underlying27 Try.type5 rfl rfl rfl rfl fun v5 c4 w3 S3 h5 => ?_
        replace S3 : St _ ((row 1 v5 c4 x4.length) :: As) _ := S3
        clear S2
        refine s_asv (v := v5) rfl <| wpl_nil <| nrmB <| nrm <| wpc_region <| s_mvv (v := vI s1.2) rfl <| s_subI (m := s1.2) (n := 1) rfl rfl <| s_asv (v := vI (w64 (s1.2 - 1))) rfl <| wpl_nil <| nrm ?_
        have e0 := Option.some.inj q5
        subst e0
        rcases q4 with ⟨sn, e, q4'⟩ | e
        · cases e
          exact ⟨outP, _, Nat.lt_succ_self _, ⟨_, m2, _, _, q4', Mem.tr L4 L3, S3, h5, ⟨rfl, rfl, trivial⟩⟩⟩
        · cases e
      replace q5 := ifF hc1 q5
      refine wpc_exit <| thE <| thE <| exB <| nrm ?_
      have e0 := Option.some.inj q5
      subst e0
      rcases q4 with ⟨sn, e, _⟩ | e
      · cases e
      · cases e
        exact ⟨outP, m1, _, _, Mem.tr L4 L3, S1, h2, ⟨rfl, trivial⟩⟩
   rintro f2 w4 ho ⟨m4, v3, c3, l2, S4, h3, ha⟩
   obtain ⟨u2, rfl⟩ := fr_of (N := 22) ho ha
   clear ho ha
   replace L1 := Mem.tr L1 l2
   clear S
   have e0 := Option.some.inj q1
   subst e0
   exact ⟨outP, m4, _, _, L1, S4, h3, ⟨rfl, trivial⟩⟩
 rintro f3 w5 ho ⟨m5, v1, c1, l3, S5, h1, ha⟩
 obtain ⟨u3, rfl⟩ := fr_of (N := 22) ho ha
 replace L0 := Mem.tr L0 l3
 clear S
 refine wpc_seq <| wpc_region <| s_mvv (v := v1) rfl <| s_asv (v := v1) rfl <| wpl_nil <| nrm <| wpc_ret <| outRw fun we hpd => ?_
 replace S5 := St.pd S5 hpd
 have e0 := Option.some.inj hm
 subst e0
 exact outR [_] rfl ⟨rfl, trivial⟩ ⟨_, L0, _, _, S5, rfl, h1⟩

def m_slices_Chunk_byte_byte_1_b1 {σ : Type} (p0 : σ → (List UInt8) → Option (Bool × σ)) (k0 : List UInt8) (k1 : Int) (s1 : Int × σ) : Option ((Int × σ) ⊕ ((σ) ⊕ ((List UInt8) × Int × σ))) :=
  if (decide (s1.1 < (k0.length : Int))) = true then
    obind (cut k0 s1.1 (k0.length : Int)) fun x3 =>
    obind (cut k0 s1.1 (w64 (s1.1 + (minI k1 (x3.length : Int))))) fun x4 =>
    obind (p0 s1.2 x4) fun x5 =>
    if (!x5.1) = true then
      some (.inr (.inr (k0, k1, x5.2)))
    else
    some (.inl ((w64 (s1.1 + k1)), x5.2))
  else
  some (.inr (.inl s1.2))

def m_slices_Chunk_byte_byte_1 {σ : Type} (p0 : σ → (List UInt8) → Option (Bool × σ)) (k0 : List UInt8) (k1 : Int) (s0 : σ) : Option ((List UInt8) × Int × σ) :=
  obind (iter (m_slices_Chunk_byte_byte_1_b1 p0 k0 k1) FUEL (0, s0)) fun x1 => match x1 with
  | .inr r => some r
  | .inl y1 =>
  some (k0, k1, y1)

theorem w_slices_Chunk_byte_byte_1 {m : Mem} {As : List Ow} {w : World} {σ : Type} {R : σ → Mem → List Ow → Prop} {p0 : σ → (List UInt8) → Option (Bool × σ)} {f0 : Value} {kb0 : Nat} {k0 : List UInt8} {k0v0 : Value} {kb1 : Nat} {k1 : Int} {s0 : σ} {X0 : List Ow} {r : (List UInt8) × Int × σ} (S : St m ((bx kb0 [k0v0] 27) :: (bx kb1 [vI k1] 3) :: (X0 ++ As)) w) (hup : ∀ {s M M' X}, M ≤ M' → R s M X → R s M' X) (hX0 : R s0 m X0) (cb0 : ∀ {m' : Mem} {As' : List Ow} {w' : World} {s : σ} {X : List Ow} {b0 : List UInt8} {b0v0 : Value} {r : Bool × σ}, St m' (X ++ As') w' → R s m' X → SlR m' b0v0 b0 → p0 s b0 = some r → CallV Try.prog f0 [b0v0] w' fun v w'' => ∃ (M : Mem) (X' : List Ow), m' ≤ M ∧ St M (X' ++ As') w'' ∧ R r.2 M X' ∧ v = vb r.1) (fc0 : f0.cells = #[f0]) (k0h0 : SlR m k0v0 k0) (hm : m_slices_Chunk_byte_byte_1 p0 k0 k1 s0 = some r) :
    CallsR Try.prog 102 #[f0, pt kb0 0, pt kb1 0] w fun v w' => ∃ (M : Mem), m ≤ M ∧ ∃ (rb0_0 : Value) (X : List Ow), St M ((bx kb0 [rb0_0] 27) :: (bx kb1 [vI r.2.1] 3) :: (X ++ As)) w' ∧ v = .tuple #[] ∧ SlR M rb0_0 r.1 ∧ R r.2.2 M X := by
 unfold m_slices_Chunk_byte_byte_1 at hm
 have L0 := Mem.rfl' m
 refine callsR (args := [f0, pt kb0 0, pt kb1 0]) Try.func102 rfl Try.ntmps102 (Nat.le_of_ble_eq_true rfl) <| wpc_seq <| wpc_region <| s_asv (v := vI 0) rfl <| wpl_nil <| nrm ?_
 obtain ⟨x1, q1, hm⟩ := obind_some hm
 have L1 := Mem.rfl' m
 refine wpc_wrap <| wpc_join [4, 5, 6, 7, 8, 9, 10, 11, 12, 13, 14, 15, 16, 17, 18, 19, 20, 21, 22, 23, 24, 25, 26, 27, 28, 29, 30] (fun f' w' => ∃ (M1 : Mem) (y1 : σ) (X2 : List Ow), x1 = .inl y1 ∧ m ≤ M1 ∧ St M1 ((bx kb0 [k0v0] 27) :: (bx kb1 [vI k1] 3) :: (X2 ++ As)) w' ∧ R y1 M1 X2 ∧ AllAt f' []) ?_ ?_
 · refine wpc_block <| wpc_rounds [4, 5, 6, 7, 8, 9, 10, 11, 12, 13, 14, 15, 16, 17, 18, 19, 20, 21, 22, 23, 24, 25, 26, 27, 28, 29, 30] (fun n1 f' w' => ∃ (s1 : Int × σ) (m9 : Mem) (X1 : List Ow), iter (m_slices_Chunk_byte_byte_1_b1 p0 k0 k1) n1 s1 = some x1 ∧ m ≤ m9 ∧ St m9 ((bx kb0 [k0v0] 27) :: (bx kb1 [vI k1] 3) :: (X1 ++ As)) w' ∧ R s1.2 m9 X1 ∧ AllAt f' [(4, vI s1.1)]) FUEL ⟨(0, s0), m, _, q1, L1, S, hX0, ⟨rfl, trivial⟩⟩ ?_
   rintro n1 f1 w1 ho ⟨s1, m1, X1, q2, L3, S1, h1, ha⟩
   obtain ⟨u1, rfl⟩ := fr_of (N := 31) ho ha
   clear ho ha
   replace k0h0 := k0h0.up L3
   have L2 := Mem.rfl' m1
   clear S
   cases n1 with
   | zero => exact (iter_zero q2).elim
   | succ n1 =>
    obtain ⟨y2, q4, q3⟩ := iter_succ q2
    unfold m_slices_Chunk_byte_byte_1_b1 at q4
    refine wpc_seq <| wpc_seq <| wpc_region <| s_mvv (v := vI s1.1) rfl <| s_ld (i := 0) (cs := [k0v0]) S1 rfl rfl Try.isAgg27 Try.sizeOf27 rfl (fun _ => rfl) <| s_lenR (xs := k0) rfl k0h0 Try.underlying27 <| s_lss (m := s1.1) (n := (k0.length : Int)) rfl rfl <| wpl_nil <| nrm <| wpc_if (t := (decide (s1.1 < (k0.length : Int)))) rfl (fun hc1 => ?_) (fun hc1 => ?_)
    · replace q4 := ifT hc1 q4
      refine wpc_skip <| nrm <| wpc_seq <| wpc_block <| wpc_seq ?_
      obtain ⟨x3, q6, q4⟩ := obind_some q4
      have HM : MonoAll [(13, fun (M : Mem) (v : Value) => v = vI k1), (14, fun (M : Mem) (v : Value) => v = k0v0), (15, fun (M : Mem) (v : Value) => v = vI s1.1), (16, fun (M : Mem) (v : Value) => ∃ (v1 : Value), v = v1 ∧ SlR M v1 x3), (17, fun (M : Mem) (v : Value) => v = vI (x3.length : Int))] := ⟨(fun _ _ _ _ h => h), (fun _ _ _ _ h => h), (fun _ _ _ _ h => h), (fun _ _ _ l ⟨v1, e, h3⟩ => ⟨v1, e, h3.up l⟩), (fun _ _ _ _ h => h), trivial⟩
      refine wpc_flowG HM 5 mixed rfl rfl rfl [13, 14, 15, 16, 17] (fun L f M w => St M ((bx kb0 [k0v0] 27) :: (bx kb1 [vI k1] 3) :: (X1 ++ As)) w) (St.drew S1 _) ?_ ?_
      · refine ⟨?_, ?_, ?_, ?_, ?_, trivial⟩
        · intro L f2 w2 hL hd hc ⟨m2, L4, S2, K, hO⟩
          obtain ⟨u2, rfl⟩ := fr_of (N := 31) (L := []) hO trivial
          replace h1 := hup L4 h1
          exact s_ld (i := 1) (cs := [vI k1]) S2 rfl rfl Try.isAgg3 Try.sizeOf3 rfl (fun _ => rfl) <| oS HM L4 S2 rfl K rfl rfl rfl outP
        · intro L f3 w3 hL hd hc ⟨m3, L6, S3, K, hO⟩
          obtain ⟨u3, rfl⟩ := fr_of (N := 31) (L := []) hO trivial
          replace h1 := hup L6 h1
          exact s_ld (i := 0) (cs := [k0v0]) S3 rfl rfl Try.isAgg27 Try.sizeOf27 rfl (fun _ => rfl) <| oS HM L6 S3 rfl K rfl rfl rfl outP
        · intro L f4 w4 hL hd hc ⟨m4, L8, S4, K, hO⟩
          obtain ⟨u4, rfl⟩ := fr_of (N := 31) (L := []) hO trivial
          exact s_mvv (v := vI s1.1) rfl <| oS HM L8 S4 rfl K rfl rfl rfl outP
        · intro L f5 w5 hL hd hc ⟨m5, L10, S5, K, hO⟩
          obtain ⟨u5, rfl⟩ := fr_of (N := 31) (L := [(14, _), (15, _)]) hO ⟨K 1 (dep hd rfl), K 2 (dep hd rfl), trivial⟩
          replace k0h0 := k0h0.up L10
          replace h1 := hup L10 h1
          exact s_cut (ys := x3) (l := s1.1) (h := (k0.length : Int)) rfl k0h0 Try.underlying27 Try.sizeOf5 (.inr ⟨_, rfl⟩) (.inl ⟨rfl, rfl⟩) (.inl rfl) q6 fun v1 h3 => oS HM L10 S5 rfl K rfl rfl ⟨v1, rfl, h3⟩ outP
        · intro L f6 w6 hL hd hc ⟨m6, L12, S6, K, hO⟩
          obtain ⟨v2, e3, h4⟩ := K 3 (dep hd rfl)
          obtain ⟨u6, rfl⟩ := fr_of (N := 31) (L := [(16, _)]) hO ⟨e3, trivial⟩
          replace h1 := hup L12 h1
          exact s_lenR (xs := x3) rfl h4 Try.underlying27 <| oS HM L12 S6 rfl K rfl rfl rfl outP
      intro L f7 w7 hall ⟨m7, L14, S7, K, hO⟩
      have d0 : L 0 = true := hall 0 (by decide)
      have d4 : L 4 = true := hall 4 (by decide)
      obtain ⟨u7, rfl⟩ := fr_of (N := 31) (L := [(13, _), (17, _)]) hO ⟨K 0 d0, K 4 d4, trivial⟩
      replace S7 : St _ ((bx kb0 [k0v0] 27) :: (bx kb1 [vI k1] 3) :: (X1 ++ As)) _ := S7
      replace k0h0 := k0h0.up L14
      replace h1 := hup L14 h1
      replace L2 := Mem.tr L2 L14
      clear S1
      refine s_minI rfl rfl <| s_asv (v := vI (minI k1 (x3.length : Int))) rfl <| wpl_nil <| nrm <| wpc_seq <| wpc_region <| s_mvv (v := f0) rfl <| s_ld (i := 0) (cs := [k0v0]) S7 rfl rfl Try.isAgg27 Try.sizeOf27 rfl (fun _ => rfl) <| s_mvv (v := vI s1.1) rfl <| s_mvv (v := vI s1.1) rfl <| s_mvv (v := vI (minI k1 (x3.length : Int))) rfl <| s_addI (m := s1.1) (n := (minI k1 (x3.length : Int))) rfl rfl <| s_mvv (v := vI s1.1) rfl <| s_mvv (v := vI (minI k1 (x3.length : Int))) rfl <| s_addI (m := s1.1) (n := (minI k1 (x3.length : Int))) rfl rfl ?_
      obtain ⟨x4, q7, q4⟩ := obind_some q4
      refine s_cut (ys := x4) (l := s1.1) (h := (w64 (s1.1 + (minI k1 (x3.length : Int))))) rfl k0h0 Try.underlying27 Try.sizeOf5 (.inr ⟨_, rfl⟩) (.inr ⟨_, rfl⟩) (.inr ⟨(fun h => by cases h), _, rfl⟩) q7 fun v3 h5 => ?_
      obtain ⟨x5, q8, q4⟩ := obind_some q4
      have S8 := St.absF (L := [bx kb0 [k0v0] 27, bx kb1 [vI k1] 3]) (X := X1) (As := As) S7
      refine s_callV rfl (cb0 S8 h1 h5 q8) rfl ?_
      rintro _ w8 ⟨m8, X3, l1, S9, h6, rfl⟩
      replace S9 := St.absF (L := X3) (X := [bx kb0 [k0v0] 27, bx kb1 [vI k1] 3]) (As := As) S9
      clear S8
      replace k0h0 := k0h0.up l1
      replace L2 := Mem.tr L2 l1
      replace S9 : St _ ((bx kb0 [k0v0] 27) :: (bx kb1 [vI k1] 3) :: (X3 ++ As)) _ := S9
      clear S7
      refine s_not rfl <| wpl_nil <| nrm <| wpc_if (t := (!x5.1)) rfl (fun hc2 => ?_) (fun hc2 => ?_)
      · replace q4 := ifT hc2 q4
        refine wpc_ret <| blR <| thR <| thR <| blR <| thR <| outRw fun we hpd => ?_
        replace S9 := St.pd S9 hpd
        cases q4
        rcases q3 with ⟨sn, e, _⟩ | e
        · cases e
        cases e
        dsimp only at hm
        have e0 := Option.some.inj hm
        subst e0
        exact outR [] rfl trivial ⟨_, (Mem.tr L0 (Mem.tr L3 L2)), _, _, S9, rfl, k0h0, h6⟩
      replace q4 := ifF hc2 q4
      refine wpc_skip <| nrmB <| nrm <| wpc_region <| s_mvv (v := vI s1.1) rfl <| s_ld (i := 1) (cs := [vI k1]) S9 rfl rfl Try.isAgg3 Try.sizeOf3 rfl (fun _ => rfl) <| s_addI (m := s1.1) (n := k1) rfl rfl <| s_asv (v := vI (w64 (s1.1 + k1))) rfl <| wpl_nil <| nrm ?_
      have e0 := Option.some.inj q4
      subst e0
      rcases q3 with ⟨sn, e, q3'⟩ | e
      · cases e
        exact ⟨outP, _, Nat.lt_succ_self _, ⟨_, m8, _, q3', Mem.tr L3 L2, S9, h6, ⟨rfl, trivial⟩⟩⟩
      · cases e
    replace q4 := ifF hc1 q4
    refine wpc_exit <| thE <| thE <| exB <| nrm ?_
    have e0 := Option.some.inj q4
    subst e0
    rcases q3 with ⟨sn, e, _⟩ | e
    · cases e
    · cases e
      exact ⟨outP, m1, _, _, rfl, Mem.tr L3 L2, S1, h1, trivial⟩
 rintro f8 w9 ho ⟨m10, y1, X2, rfl, l2, S10, h2, ha⟩
 obtain ⟨u8, rfl⟩ := fr_of (N := 31) ho ha
 clear ho ha
 dsimp only at hm
 replace k0h0 := k0h0.up l2
 replace L0 := Mem.tr L0 l2
 clear S
 refine outNw fun we hpd => ?_
 replace S10 := St.pd S10 hpd
 have e0 := Option.some.inj hm
 subst e0
 exact outR [] rfl trivial ⟨_, L0, _, _, S10, rfl, k0h0, h2⟩

def m_slices_Chunk_byte_byte (a0 : List UInt8) (a1 : Int) : Option ((List UInt8) × Int) :=
  obind (
    if (decide (a1 < 1)) = true then
      none
    else
    some ()
  ) fun x1 =>
  some (a0, a1)

theorem w_slices_Chunk_byte_byte {m : Mem} {As : List Ow} {w : World} {a0 : List UInt8} {a0v0 : Value} {a1 : Int} {r : (List UInt8) × Int} (S : St m (As) w) (a0h0 : SlR m a0v0 a0) (hm : m_slices_Chunk_byte_byte a0 a1 = some r) :
    CallsR Try.prog 90 #[a0v0, vI a1] w fun v w' => ∃ (M : Mem), m ≤ M ∧ ∃ (rk0_0 : Nat) (rc0_0_0 : Value) (rk0_1 : Nat), St M ((bx rk0_0 [rc0_0_0] 27) :: (bx rk0_1 [vI r.2] 3) :: As) w' ∧ v = .func (.func 102) #[] #[pt rk0_0 0, pt rk0_1 0] ∧ SlR M rc0_0_0 r.1 := by
 unfold m_slices_Chunk_byte_byte at hm
 have L0 := Mem.rfl' m
 refine callsR (args := [a0v0, vI a1]) Try.func90 rfl Try.ntmps90 (Nat.le_of_ble_eq_true rfl) <| wpc_seq <| wpc_region <| s_boxS S rfl (SlR.cells a0h0) fun b1 w1 S1 => ?_
 replace S1 : St _ ((bx b1 [a0v0] 27) :: As) _ := S1
 clear S
 refine s_box S1 rfl fun b2 w2 S2 => ?_
 replace S2 : St _ ((bx b2 [vI a1] 3) :: (bx b1 [a0v0] 27) :: As) _ := S2
 clear S1
 refine s_asv (v := .nilFunc) rfl <| wpl_nil <| nrm ?_
 obtain ⟨x1, q1, hm⟩ := obind_some hm
 have L1 := Mem.rfl' m
 refine wpc_seq <| wpc_join [5, 6, 7] (fun f' w' => ∃ (M1 : Mem), m ≤ M1 ∧ St M1 ((bx b2 [vI a1] 3) :: (bx b1 [a0v0] 27) :: As) w' ∧ AllAt f' []) ?_ ?_
 · refine wpc_seq <| wpc_region <| s_ld (i := 0) (cs := [vI a1]) S2 rfl rfl Try.isAgg3 Try.sizeOf3 rfl (fun _ => rfl) <| s_lss (m := a1) (n := 1) rfl rfl <| wpl_nil <| nrm <| wpc_if (t := (decide (a1 < 1))) rfl (fun hc1 => ?_) (fun hc1 => ?_)
   · replace q1 := ifT hc1 q1
     cases q1
   replace q1 := ifF hc1 q1
   refine wpc_skip <| nrm ?_
   have e0 := Option.some.inj q1
   subst e0
   exact ⟨outP, m, L1, S2, trivial⟩
 rintro f1 w3 ho ⟨m1, l1, S3, ha⟩
 obtain ⟨u1, rfl⟩ := fr_of (N := 9) ho ha
 replace a0h0 := a0h0.up l1
 replace L0 := Mem.tr L0 l1
 clear S2
 refine wpc_seq <| wpc_region <| s_funcC (caps := [pt b1 0, pt b2 0]) rfl <| s_asv (v := .func (.func 102) #[] #[pt b1 0, pt b2 0]) rfl <| wpl_nil <| nrm <| wpc_ret <| outRw fun we hpd => ?_
 replace S3 := St.pd S3 hpd
 have S4 : St _ ((bx b1 [a0v0] 27) :: (bx b2 [vI a1] 3) :: As) _ := St.perm S3 (List.Perm.swap _ _ _)
 have e0 := Option.some.inj hm
 subst e0
 exact outR [_] rfl ⟨rfl, trivial⟩ ⟨_, L0, _, _, _, S4, rfl, a0h0⟩

def m_field_Of_b6 (b5 : List UInt8) (i1 : Int) (s2 : UInt64) : Option (UInt64) :=
  obind (idx b5 (i1 : Int)) fun x6 =>
  if (0 : Int) ≤ (w64 (8 * (i1 : Int))) then
    bnd ((s2 ||| (shlU (toU (x6.toNat : Int)) ((w64 (8 * (i1 : Int))).toNat)))) fun x7 =>
    some x7
  else none

def m_field_Of_b4 (b5 : List UInt8) (s1 : (List UInt64)) : Option ((List UInt64)) :=
  obind (
    obind (eachN0 (m_field_Of_b6 b5) b5.length 0 0) fun x4 =>
    some x4
  ) fun x3 =>
  obind (app 8 s1 ([x3] : List UInt64)) fun x8 =>
  some x8

def m_field_Of (a0 : List UInt8) : Option (List UInt64) :=
  obind (m_slices_Chunk_byte_byte a0 7) fun x1 =>
  obind (m_slices_Chunk_byte_byte_1 (fun (s : (List UInt64)) (b0 : List UInt8) => obind (m_field_Of_b4 b0 s) fun y => some (true, y)) x1.1 x1.2 ([] : List UInt64)) fun x2 =>
  some x2.2.2

theorem w_field_Of {m : Mem} {As : List Ow} {w : World} {a0 : List UInt8} {a0v0 : Value} {r : List UInt64} (S : St m (As) w) (a0h0 : SlR m a0v0 a0) (hm : m_field_Of a0 = some r) :
    CallsR Try.prog 73 #[a0v0] w fun v w' => ∃ (M : Mem), m ≤ M ∧ ∃ (rv0 : Value) (rc0 : List Value), St M ((row 1 rv0 rc0 r.length) :: As) w' ∧ v = rv0 ∧ RepL M rc0 r := by
 unfold m_field_Of at hm
 have L0 := Mem.rfl' m
 refine callsR (args := [a0v0]) Try.func73 rfl Try.ntmps73 (Nat.le_of_ble_eq_true rfl) <| wpc_seq <| wpc_region <| s_asv (v := .slice none 0 0) rfl <| wpl_nil <| nrm <| wpc_seq <| wpc_region <| s_alloc S Try.zeroValue124 fun b1 w1 S1 => ?_
 replace S1 : St _ ((bx b1 [.slice none 0 0] 124) :: As) _ := S1
 clear S
 refine wpl_nil <| nrm <| wpc_seq <| wpc_seq <| wpc_region <| s_mvv (v := a0v0) rfl ?_
 obtain ⟨x1, q1, hm⟩ := obind_some hm
 refine s_call Try.call90 (w_slices_Chunk_byte_byte (a0 := a0) (a1 := 7) S1 a0h0 q1) rfl ?_
 rintro _ w2 ⟨m1, l1, b2, v1, b3, S2, rfl, h1⟩
 replace L0 := Mem.tr L0 l1
 clear S1
 refine wpl_nil <| nrm <| wpc_block ?_
 obtain ⟨x2, q2, hm⟩ := obind_some hm
 refine wpc_rangeFunc S2 rfl Try.call102 fun lp1 rip2 w3 h2 S3 => ?_
 replace S3 : St _ ((Lp lp1 rip2 .ready none) :: (bx b2 [v1] 27) :: (bx b3 [vI x1.2] 3) :: (bx b1 [.slice none 0 0] 124) :: As) _ := S3
 clear S2
 have S4 := St.rowNil S3 1
 have h4 : RepL m1 [] ([] : List UInt64) := RepL.nil
 replace S4 : St _ ((row 1 (.slice none 0 0) [] ([] : List UInt64).length) :: (Lp lp1 rip2 .ready none) :: (bx b2 [v1] 27) :: (bx b3 [vI x1.2] 3) :: (bx b1 [.slice none 0 0] 124) :: As) _ := S4
 clear S3
 have S5 : St _ ((bx b2 [v1] 27) :: (bx b3 [vI x1.2] 3) :: (Lp lp1 rip2 .ready none) :: (row 1 (.slice none 0 0) [] ([] : List UInt64).length) :: (bx b1 [(.slice none 0 0)] 124) :: As) _ := St.perm S4 (List.Perm.trans (List.Perm.cons _ (List.Perm.swap _ _ _)) (List.Perm.trans (List.Perm.swap _ _ _) (List.Perm.trans (List.Perm.cons _ (List.Perm.cons _ (List.Perm.swap _ _ _))) (List.Perm.trans (List.Perm.cons _ (List.Perm.swap _ _ _)) (List.Perm.cons _ (List.Perm.cons _ (List.Perm.swap _ _ _)))))))
 clear S4
 have hcb1 : ∀ {m' : Mem} {As' : List Ow} {w' : World} {s : (List UInt64)} {X : List Ow} {b0 : List UInt8} {b0v0 : Value} {r : Bool × (List UInt64)}, St m' (X ++ As') w' → (∃ (v3 : Value) (c2 : List Value), m1 ≤ m' ∧ X = Lp lp1 rip2 .ready none :: (row 1 v3 c2 (s).length) :: (bx b1 [v3] 124) :: [] ∧ RepL m' c2 (s)) → SlR m' b0v0 b0 → (fun (s : (List UInt64)) (b0 : List UInt8) => obind (m_field_Of_b4 b0 s) fun y => some (true, y)) s b0 = some r → CallV Try.prog (.func (.yield lp1) #[] #[]) [b0v0] w' fun v w'' => ∃ (M : Mem) (X' : List Ow), m' ≤ M ∧ St M (X' ++ As') w'' ∧ (∃ (v3 : Value) (c2 : List Value), m1 ≤ M ∧ X' = Lp lp1 rip2 .ready none :: (row 1 v3 c2 (r.2).length) :: (bx b1 [v3] 124) :: [] ∧ RepL M c2 (r.2)) ∧ v = vb r.1 := by
   intro m2 As1 w4 s1 X1 b5 v4 r4 S6 h6 h7 hm1
   obtain ⟨v5, c3, L2, rfl, h8⟩ := h6
   obtain ⟨y1, q3, hm1⟩ := obind_some hm1
   cases hm1
   unfold m_field_Of_b4 at q3
   replace S6 : St _ ((Lp lp1 rip2 .ready none) :: (row 1 v5 c3 s1.length) :: (bx b1 [v5] 124) :: As1) _ := S6
   have L1 := Mem.rfl' m2
   refine CallV.round h2 rfl S6 ?_
   refine wpc_region ?_
   refine s_asv (v := v4) rfl ?_
   refine wpl_nil ?_
   refine nrm ?_
   refine ⟨_, _, S6, ?_⟩
   intro w5 S7
   clear S6
   replace S7 : St _ ((Lp lp1 rip2 .busy none) :: (row 1 v5 c3 s1.length) :: (bx b1 [v5] 124) :: As1) _ := S7
   refine wpc_block ?_
   refine wpc_seq ?_
   refine wpc_region ?_
   refine s_asv (v := vU 0) rfl ?_
   refine wpl_nil ?_
   refine nrm ?_
   obtain ⟨x3, q4, q3⟩ := obind_some q3
   have L3 := Mem.rfl' m2
   refine wpc_seq ?_
   refine wpc_join [5, 6, 7, 11, 12, 13, 14, 15, 16, 17, 18, 19, 20, 21, 22, 23, 24, 25] (fun f' w' => ∃ (M1 : Mem), m2 ≤ M1 ∧ St M1 ((Lp lp1 rip2 .busy none) :: (row 1 v5 c3 s1.length) :: (bx b1 [v5] 124) :: As1) w' ∧ AllAt f' [(5, vU x3)]) ?_ ?_
   · refine wpc_seq ?_
     refine wpc_region ?_
     refine s_mvv (v := v4) rfl ?_
     refine s_lenR (xs := b5) rfl h7 Try.underlying27 ?_
     refine s_mvv (v := vI 0) rfl ?_
     refine wpl_nil ?_
     refine nrm ?_
     obtain ⟨x4, q5, q4⟩ := obind_some q4
     have L4 := Mem.rfl' m2
     refine wpc_join [5, 6, 7, 13, 14, 15, 16, 17, 18, 19, 20, 21, 22, 23, 24, 25] (fun f' w' => ∃ (M2 : Mem), m2 ≤ M2 ∧ St M2 ((Lp lp1 rip2 .busy none) :: (row 1 v5 c3 s1.length) :: (bx b1 [v5] 124) :: As1) w' ∧ AllAt f' [(5, vU x4)]) ?_ ?_
     · refine wpc_block ?_
       refine wpc_rounds [5, 6, 7, 13, 14, 15, 16, 17, 18, 19, 20, 21, 22, 23, 24, 25] (fun n1 f' w' => ∃ (i1 : Nat) (s2 : UInt64) (m4 : Mem), n1 = b5.length - i1 ∧ i1 ≤ b5.length ∧ eachN0 (m_field_Of_b6 b5) (b5.length - i1) (i1 : Int) s2 = some x4 ∧ m2 ≤ m4 ∧ St m4 ((Lp lp1 rip2 .busy none) :: (row 1 v5 c3 s1.length) :: (bx b1 [v5] 124) :: As1) w' ∧ AllAt f' [(13, vI (i1 : Int)), (5, vU s2)]) b5.length ⟨0, 0, m2, rfl, Nat.zero_le _, q5, L4, S7, ⟨rfl, rfl, trivial⟩⟩ ?_
       rintro n1 f1 w6 ho ⟨i1, s2, m3, hn, hi, q6, L6, S8, ha⟩
       obtain ⟨u1, rfl⟩ := fr_of (N := 31) ho ha
       clear ho ha
       replace h7 := h7.up L6
       replace h8 := RepL.up L6 h8
       have L5 := Mem.rfl' m3
       clear S7
       refine wpc_seq ?_
       refine wpc_region ?_
       refine s_lss (m := (i1 : Int)) (n := (b5.length : Int)) rfl rfl ?_
       refine wpl_nil ?_
       refine nrm ?_
       refine wpc_seq ?_
       refine wpc_if (t := decide ((i1 : Int) < (b5.length : Int))) rfl (fun hc1 => ?_) (fun hc1 => ?_)
       · have hlt1 : i1 < b5.length := by have := of_decide_eq_true hc1; omega
         obtain ⟨y2, q8, q7⟩ := eachN0_in q6 hlt1
         unfold m_field_Of_b6 at q8
         refine wpc_skip ?_
         refine nrm ?_
         refine wpc_seq ?_
         refine wpc_block ?_
         refine wpc_seq ?_
         refine wpc_region ?_
         refine s_mvv (v := vI (i1 : Int)) rfl ?_
         obtain ⟨x6, q10, q8⟩ := obind_some q8
         refine s_idx (q := x6) rfl rfl h7 q10 Try.underlying27 Try.sizeOf5 ?_
         intro p3 c4 h9 r5
         obtain rfl : c4 = [vB x6] := r5
         refine s_ldM (cs := [vB x6]) S8 rfl h9 rfl Try.isAgg5 Try.sizeOf5 (fun _ => rfl) ?_
         refine s_asv (v := vI (i1 : Int)) rfl ?_
         refine s_asv (v := vB x6) rfl ?_
         refine wpl_nil ?_
         refine nrm ?_
         refine wpc_region ?_
         refine s_mvv (v := vU s2) rfl ?_
         refine s_mvv (v := vB x6) rfl ?_
         refine s_convU rfl Try.underlying5 Try.underlying22 ?_
         refine s_mvv (v := vI (i1 : Int)) rfl ?_
         refine s_mulI (m := 8) (n := (i1 : Int)) rfl rfl ?_
         obtain ⟨q11, q8⟩ := if_some q8
         refine s_shlU (m := (toU (x6.toNat : Int))) (n := (w64 (8 * (i1 : Int)))) rfl rfl q11 ?_
         refine s_orU (m := s2) (n := (shlU (toU (x6.toNat : Int)) ((w64 (8 * (i1 : Int))).toNat))) rfl rfl ?_
         obtain ⟨x7, q12, q8⟩ := bnd_eq q8
         refine s_asv (v := vU x7) (congrArg (fun z => vU z) q12.symm) ?_
         refine wpl_nil ?_
         refine nrmB ?_
         refine nrm ?_
         refine wpc_region ?_
         refine s_addI (m := (i1 : Int)) (n := 1) rfl rfl ?_
         refine s_mvv (v := vI (w64 ((i1 : Int) + 1))) rfl ?_
         refine wpl_nil ?_
         refine nrm ?_
         have e0 := Option.some.inj q8
         subst e0
         exact ⟨outP, _, (by omega), ⟨i1 + 1, x7, m3, rfl, hlt1, q7, Mem.tr L6 L5, S8, ⟨congrArg (Value.int .i64) (w64_succ hlt1 (SlR.le h7)), rfl, trivial⟩⟩⟩
       have hlt1 : ¬ i1 < b5.length := by have := of_decide_eq_false hc1; omega
       have e := Eq.symm (eachN0_out q6 hlt1)
       subst e
       refine wpc_exit ?_
       refine thE ?_
       refine thE ?_
       refine exB ?_
       refine nrm ?_
       exact ⟨outP, m3, Mem.tr L6 L5, S8, ⟨rfl, trivial⟩⟩
     rintro f2 w7 ho ⟨m5, l2, S9, ha⟩
     obtain ⟨u2, rfl⟩ := fr_of (N := 31) ho ha
     clear ho ha
     replace h8 := RepL.up l2 h8
     replace L3 := Mem.tr L3 l2
     clear S7
     have e0 := Option.some.inj q4
     subst e0
     exact ⟨outP, m5, L3, S9, ⟨rfl, trivial⟩⟩
   rintro f3 w8 ho ⟨m6, l3, S10, ha⟩
   obtain ⟨u3, rfl⟩ := fr_of (N := 31) ho ha
   replace h8 := RepL.up l3 h8
   replace L1 := Mem.tr L1 l3
   clear S7
   refine wpc_region ?_
   refine s_ld (i := 2) (cs := [v5]) S10 rfl rfl Try.isAgg124 Try.sizeOf124 rfl (fun _ => rfl) ?_
   refine s_mvv (v := vU x3) rfl ?_
   refine s_litC (parts := [.tmp 27]) (vs := [vU x3]) (cls := [[vU x3]]) (xs := ([x3] : List UInt64)) (n := 1) S10 Try.underlying124 Try.sizeOf22 Try.zeroValue22 rfl ⟨rfl, trivial⟩ (RepL.cons (c := [vU x3]) (x := x3) rfl RepL.nil) rfl rfl rfl (by decide) (by decide) ?_
   intro v6 m7 w9 l4 S11 h10
   replace h8 := RepL.up l4 h8
   replace L1 := Mem.tr L1 l4
   clear S10
   obtain ⟨x8, q13, q3⟩ := obind_some q3
   refine s_app (i := 1) (zs := x8) (bytes := 8) (ti := Try.t22) S11 rfl rfl h8 rfl rfl h10 q13 Try.underlying124 Try.type22 rfl rfl rfl rfl ?_
   intro v7 c5 w10 S12 h11
   replace S12 : St _ ((Lp lp1 rip2 .busy none) :: (row 1 v7 c5 x8.length) :: (bx b1 [v5] 124) :: As1) _ := S12
   clear S11
   refine s_stS (i := 2) S12 rfl rfl rfl Try.sizeOf124 (St.rowCells (i := 1) S12 rfl) rfl ?_
   intro w11 S13
   replace S13 : St _ ((Lp lp1 rip2 .busy none) :: (row 1 v7 c5 x8.length) :: (bx b1 [v7] 124) :: As1) _ := S13
   clear S12
   refine wpl_nil ?_
   refine nrmB ?_
   have S14 : St _ ((row 1 v7 c5 x8.length) :: (Lp lp1 rip2 .busy none) :: (bx b1 [v7] 124) :: As1) _ := St.perm S13 (List.Perm.swap _ _ _)
   clear S13
   have S15 : St _ ((Lp lp1 rip2 .busy none) :: (row 1 v7 c5 x8.length) :: (bx b1 [v7] 124) :: As1) _ := St.perm S14 (List.Perm.swap _ _ _)
   clear S14
   refine ⟨_, _, S15, ?_⟩
   intro w12 S16
   have e0 := Option.some.inj q3
   subst e0
   exact ⟨_, Lp lp1 rip2 .ready none :: (row 1 v7 c5 x8.length) :: (bx b1 [v7] 124) :: [], L1, S16, ⟨_, _, Mem.tr L2 L1, rfl, h11⟩, rfl⟩
 refine CallsR.mono (w_slices_Chunk_byte_byte_1 (p0 := (fun (s : (List UInt64)) (b0 : List UInt8) => obind (m_field_Of_b4 b0 s) fun y => some (true, y))) (k0 := x1.1) (k1 := x1.2) (s0 := ([] : List UInt64)) (R := (fun (s : (List UInt64)) (M : Mem) (X : List Ow) => (∃ (v3 : Value) (c2 : List Value), m1 ≤ M ∧ X = Lp lp1 rip2 .ready none :: (row 1 v3 c2 (s).length) :: (bx b1 [v3] 124) :: [] ∧ RepL M c2 (s)))) (X0 := ((Lp lp1 rip2 .ready none) :: (row 1 (.slice none 0 0) [] ([] : List UInt64).length) :: (bx b1 [(.slice none 0 0)] 124) :: [])) (As := As) S5 (fun l h => by obtain ⟨v3, c2, Lm, e, h5⟩ := h; exact ⟨_, _, Mem.tr Lm l, e, RepL.up l h5⟩) ⟨_, _, Mem.rfl' _, rfl, h4⟩ @hcb1 rfl h1 q2) ?_
 rintro _ w13 ⟨m8, l5, v8, X2, S17, rfl, h12, ⟨v9, c6, L7, rfl, h13⟩⟩
 have S18 : St _ ((Lp lp1 rip2 .ready none) :: (bx b2 [v8] 27) :: (bx b3 [vI x2.2.1] 3) :: (row 1 v9 c6 x2.2.2.length) :: (bx b1 [v9] 124) :: As) _ := St.perm S17 (List.Perm.trans (List.Perm.cons _ (List.Perm.swap _ _ _)) (List.Perm.swap _ _ _))
 clear S17
 refine ⟨_, .ready, none, _, l5, (fun h => by cases h), S18, ?_⟩
 intro m9 w14 l6 S19
 have l7 := Mem.tr l5 l6
 replace h13 := RepL.up l6 h13
 replace L0 := Mem.tr L0 l7
 replace S19 : St _ ((bx b2 [v8] 27) :: (bx b3 [vI x2.2.1] 3) :: (row 1 v9 c6 x2.2.2.length) :: (bx b1 [v9] 124) :: As) _ := S19
 refine nrmB <| nrm <| wpc_seq <| wpc_region <| s_ld (i := 3) (cs := [v9]) S19 rfl rfl Try.isAgg124 Try.sizeOf124 rfl (fun _ => rfl) <| s_asv (v := v9) rfl <| wpl_nil <| nrm <| wpc_ret <| outRw fun we hpd => ?_
 replace S19 := St.pd S19 hpd
 obtain ⟨m10, l8, S20⟩ := St.drop S19 0
 replace h13 := RepL.up l8 h13
 replace L0 := Mem.tr L0 l8
 clear S19
 replace S20 : St _ ((bx b3 [vI x2.2.1] 3) :: (row 1 v9 c6 x2.2.2.length) :: (bx b1 [v9] 124) :: As) _ := S20
 obtain ⟨m11, l9, S21⟩ := St.drop S20 0
 replace h13 := RepL.up l9 h13
 replace L0 := Mem.tr L0 l9
 clear S20
 replace S21 : St _ ((row 1 v9 c6 x2.2.2.length) :: (bx b1 [v9] 124) :: As) _ := S21
 obtain ⟨m12, l10, S22⟩ := St.drop S21 1
 replace h13 := RepL.up l10 h13
 replace L0 := Mem.tr L0 l10
 clear S21
 replace S22 : St _ ((row 1 v9 c6 x2.2.2.length) :: As) _ := S22
 have e0 := Option.some.inj hm
 subst e0
 exact outR [_] rfl ⟨rfl, trivial⟩ ⟨_, L0, _, _, S22, rfl, h13⟩

def m_field_fold (a0 : UInt64) (a1 : UInt64) : Option UInt64 :=
  bnd (((a1 &&& 2305843009213693951) + ((shlU a0 3) ||| (shrU a1 61)))) fun x1 =>
  bnd (((x1 &&& 2305843009213693951) + (shrU x1 61))) fun x2 =>
  obind (
    if (decide ((x2.toNat : Int) ≥ 2305843009213693951)) = true then
      some (x2 - 2305843009213693951)
    else
    some x2
  ) fun x3 =>
  some x3

theorem w_field_fold {m : Mem} {As : List Ow} {w : World} {a0 : UInt64} {a1 : UInt64} {r : UInt64} (S : St m (As) w) (hm : m_field_fold a0 a1 = some r) :
    CallsR Try.prog 103 #[vU a0, vU a1] w fun v w' => ∃ (M : Mem), m ≤ M ∧ St M (As) w' ∧ v = vU r := by
 unfold m_field_fold at hm
 have L0 := Mem.rfl' m
 refine callsR (args := [vU a0, vU a1]) Try.func103 rfl Try.ntmps103 (Nat.le_of_ble_eq_true rfl) <| wpc_seq <| wpc_region <| s_asv (v := vU 0) rfl <| wpl_nil <| nrm <| wpc_seq <| wpc_region <| s_mvv (v := vU a1) rfl <| s_andU (m := a1) (n := 2305843009213693951) rfl rfl <| s_mvv (v := vU a0) rfl <| s_shlU (m := a0) (n := 3) rfl rfl (by decide) <| s_mvv (v := vU a1) rfl <| s_shrU (m := a1) (n := 61) rfl rfl (by decide) <| s_orU (m := (shlU a0 3)) (n := (shrU a1 61)) rfl rfl <| s_addU (m := (a1 &&& 2305843009213693951)) (n := ((shlU a0 3) ||| (shrU a1 61))) rfl rfl ?_
 obtain ⟨x1, q1, hm⟩ := bnd_eq hm
 refine s_asv (v := vU x1) (congrArg (fun z => vU z) q1.symm) <| wpl_nil <| nrm <| wpc_seq <| wpc_region <| s_mvv (v := vU x1) rfl <| s_andU (m := x1) (n := 2305843009213693951) rfl rfl <| s_mvv (v := vU x1) rfl <| s_shrU (m := x1) (n := 61) rfl rfl (by decide) <| s_addU (m := (x1 &&& 2305843009213693951)) (n := (shrU x1 61)) rfl rfl ?_
 obtain ⟨x2, q2, hm⟩ := bnd_eq hm
 refine s_asv (v := vU x2) (congrArg (fun z => vU z) q2.symm) <| wpl_nil <| nrm ?_
 obtain ⟨x3, q3, hm⟩ := obind_some hm
 have L1 := Mem.rfl' m
 refine wpc_seq <| wpc_join [5, 19, 20, 21, 22] (fun f' w' => ∃ (M1 : Mem), m ≤ M1 ∧ St M1 (As) w' ∧ AllAt f' [(5, vU x3)]) ?_ ?_
 · refine wpc_seq <| wpc_region <| s_mvv (v := vU x2) rfl <| s_geq (m := (x2.toNat : Int)) (n := 2305843009213693951) rfl rfl <| wpl_nil <| nrm <| wpc_if (t := (decide ((x2.toNat : Int) ≥ 2305843009213693951))) rfl (fun hc1 => ?_) (fun hc1 => ?_)
   · replace q3 := ifT hc1 q3
     refine wpc_region <| s_mvv (v := vU x2) rfl <| s_subU (m := x2) (n := 2305843009213693951) rfl rfl <| s_asv (v := vU (x2 - 2305843009213693951)) rfl <| wpl_nil <| nrm ?_
     have e0 := Option.some.inj q3
     subst e0
     exact ⟨outP, m, L1, S, ⟨rfl, trivial⟩⟩
   replace q3 := ifF hc1 q3
   refine wpc_skip <| nrm ?_
   have e0 := Option.some.inj q3
   subst e0
   exact ⟨outP, m, L1, S, ⟨rfl, trivial⟩⟩
 rintro f1 w1 ho ⟨m1, l1, S1, ha⟩
 obtain ⟨u1, rfl⟩ := fr_of (N := 24) ho ha
 replace L0 := Mem.tr L0 l1
 clear S
 refine wpc_seq <| wpc_region <| s_mvv (v := vU x3) rfl <| s_asv (v := vU x3) rfl <| wpl_nil <| nrm <| wpc_ret <| outRw fun we hpd => ?_
 replace S1 := St.pd S1 hpd
 have e0 := Option.some.inj hm
 subst e0
 exact outR [_] rfl ⟨rfl, trivial⟩ ⟨_, L0, S1, rfl⟩

def m_field_one (a0 : UInt64) : Option UInt64 :=
  obind (m_field_fold 0 a0) fun x1 =>
  some x1

theorem w_field_one {m : Mem} {As : List Ow} {w : World} {a0 : UInt64} {r : UInt64} (S : St m (As) w) (hm : m_field_one a0 = some r) :
    CallsR Try.prog 91 #[vU a0] w fun v w' => ∃ (M : Mem), m ≤ M ∧ St M (As) w' ∧ v = vU r := by
 unfold m_field_one at hm
 have L0 := Mem.rfl' m
 refine callsR (args := [vU a0]) Try.func91 rfl Try.ntmps91 (Nat.le_of_ble_eq_true rfl) <| wpc_seq <| wpc_region <| s_asv (v := vU 0) rfl <| wpl_nil <| nrm <| wpc_seq <| wpc_region <| s_mvv (v := vU a0) rfl ?_
 obtain ⟨x1, q1, hm⟩ := obind_some hm
 refine s_call Try.call103 (w_field_fold (a0 := 0) (a1 := a0) S  q1) rfl ?_
 rintro _ w1 ⟨m1, l1, S1, rfl⟩
 replace L0 := Mem.tr L0 l1
 clear S
 refine s_asv (v := vU x1) rfl <| wpl_nil <| nrm <| wpc_ret <| outRw fun we hpd => ?_
 replace S1 := St.pd S1 hpd
 have e0 := Option.some.inj hm
 subst e0
 exact outR [_] rfl ⟨rfl, trivial⟩ ⟨_, L0, S1, rfl⟩

def m_field_Add (a0 : UInt64) (a1 : UInt64) : Option UInt64 :=
  obind (m_field_one a0) fun x1 =>
  obind (m_field_one a1) fun x2 =>
  obind (m_field_one (x1 + x2)) fun x3 =>
  some x3

theorem w_field_Add {m : Mem} {As : List Ow} {w : World} {a0 : UInt64} {a1 : UInt64} {r : UInt64} (S : St m (As) w) (hm : m_field_Add a0 a1 = some r) :
    CallsR Try.prog 74 #[vU a0, vU a1] w fun v w' => ∃ (M : Mem), m ≤ M ∧ St M (As) w' ∧ v = vU r := by
 unfold m_field_Add at hm
 have L0 := Mem.rfl' m
 refine callsR (args := [vU a0, vU a1]) Try.func74 rfl Try.ntmps74 (Nat.le_of_ble_eq_true rfl) <| wpc_seq <| wpc_region <| s_asv (v := vU 0) rfl <| wpl_nil <| nrm <| wpc_seq <| wpc_region <| s_mvv (v := vU a0) rfl ?_
 obtain ⟨x1, q1, hm⟩ := obind_some hm
 refine s_call Try.call91 (w_field_one (a0 := a0) S  q1) rfl ?_
 rintro _ w1 ⟨m1, l1, S1, rfl⟩
 replace L0 := Mem.tr L0 l1
 clear S
 refine s_mvv (v := vU a1) rfl ?_
 obtain ⟨x2, q2, hm⟩ := obind_some hm
 refine s_call Try.call91 (w_field_one (a0 := a1) S1  q2) rfl ?_
 rintro _ w2 ⟨m2, l2, S2, rfl⟩
 replace L0 := Mem.tr L0 l2
 clear S1
 refine s_addU (m := x1) (n := x2) rfl rfl ?_
 obtain ⟨x3, q3, hm⟩ := obind_some hm
 refine s_call Try.call91 (w_field_one (a0 := (x1 + x2)) S2  q3) rfl ?_
 rintro _ w3 ⟨m3, l3, S3, rfl⟩
 replace L0 := Mem.tr L0 l3
 clear S2
 refine s_asv (v := vU x3) rfl <| wpl_nil <| nrm <| wpc_ret <| outRw fun we hpd => ?_
 replace S3 := St.pd S3 hpd
 have e0 := Option.some.inj hm
 subst e0
 exact outR [_] rfl ⟨rfl, trivial⟩ ⟨_, L0, S3, rfl⟩

def m_hash_state_each_b1 {σ : Type} (p1 : σ → Int → UInt64 → Option (UInt64 × σ)) (i1 : Int) (s1 : UInt64 × UInt64 × UInt64 × σ) : Option (UInt64 × UInt64 × UInt64 × σ) :=
  obind (idx [s1.1, s1.2.1, s1.2.2.1] (i1 : Int)) fun x3 =>
  obind (p1 s1.2.2.2 (i1 : Int) x3) fun x4 =>
  obind (idx [s1.1, s1.2.1, s1.2.2.1] (i1 : Int)) fun x5 =>
  bnd (if (i1 : Int) = 0 then x4.1 else s1.1) fun x6 =>
  bnd (if (i1 : Int) = 1 then x4.1 else s1.2.1) fun x7 =>
  bnd (if (i1 : Int) = 2 then x4.1 else s1.2.2.1) fun x8 =>
  some (x6, x7, x8, x4.2)

def m_hash_state_each {σ : Type} (a0 : UInt64 × UInt64 × UInt64) (p1 : σ → Int → UInt64 → Option (UInt64 × σ)) (s0 : σ) : Option ((UInt64 × UInt64 × UInt64) × σ) :=
  obind (eachN0 (m_hash_state_each_b1 p1) 3 0 (a0.1, a0.2.1, a0.2.2, s0)) fun x1 =>
  some ((x1.1, x1.2.1, x1.2.2.1), x1.2.2.2)

theorem w_hash_state_each {m : Mem} {As : List Ow} {w : World} {σ : Type} {R : σ → Mem → List Ow → Prop} {pb0 : Nat} {a0 : UInt64 × UInt64 × UInt64} {p1 : σ → Int → UInt64 → Option (UInt64 × σ)} {f1 : Value} {s0 : σ} {X0 : List Ow} {r : (UInt64 × UInt64 × UInt64) × σ} (S : St m ((bx pb0 [vU a0.1, vU a0.2.1, vU a0.2.2] 139) :: (X0 ++ As)) w) (hup : ∀ {s M M' X}, M ≤ M' → R s M X → R s M' X) (hX0 : R s0 m X0) (cb1 : ∀ {m' : Mem} {As' : List Ow} {w' : World} {s : σ} {X : List Ow} {b0 : Int} {b1 : UInt64} {r : UInt64 × σ}, St m' (X ++ As') w' → R s m' X → p1 s b0 b1 = some r → CallV Try.prog f1 [vI b0, vU b1] w' fun v w'' => ∃ (M : Mem) (X' : List Ow), m' ≤ M ∧ St M (X' ++ As') w'' ∧ R r.2 M X' ∧ v = vU r.1) (fc1 : f1.cells = #[f1]) (hm : m_hash_state_each a0 p1 s0 = some r) :
    CallsR Try.prog 92 #[pt pb0 0, f1] w fun v w' => ∃ (M : Mem), m ≤ M ∧ ∃ (X : List Ow), St M ((bx pb0 [vU r.1.1, vU r.1.2.1, vU r.1.2.2] 139) :: (X ++ As)) w' ∧ v = .tuple #[] ∧ R r.2 M X := by
 unfold m_hash_state_each at hm
 have L0 := Mem.rfl' m
 refine callsR (args := [pt pb0 0, f1]) Try.func92 rfl Try.ntmps92 (Nat.le_of_ble_eq_true rfl) <| wpc_seq <| wpc_region <| s_mvv (v := pt pb0 0) rfl <| s_mvv (v := vI 0) rfl <| wpl_nil <| nrm ?_
 obtain ⟨x1, q1, hm⟩ := obind_some hm
 have L1 := Mem.rfl' m
 refine wpc_wrap <| wpc_join [4, 5, 7, 8, 9, 10, 11, 12, 13, 14, 15, 16, 17, 18, 19, 20, 21] (fun f' w' => ∃ (M1 : Mem) (X2 : List Ow), m ≤ M1 ∧ St M1 ((bx pb0 [vU x1.1, vU x1.2.1, vU x1.2.2.1] 139) :: (X2 ++ As)) w' ∧ R x1.2.2.2 M1 X2 ∧ AllAt f' []) ?_ ?_
 · refine wpc_block <| wpc_rounds [4, 5, 7, 8, 9, 10, 11, 12, 13, 14, 15, 16, 17, 18, 19, 20, 21] (fun n1 f' w' => ∃ (i1 : Nat) (s1 : UInt64 × UInt64 × UInt64 × σ) (m17 : Mem) (X1 : List Ow), n1 = 3 - i1 ∧ i1 ≤ 3 ∧ eachN0 (m_hash_state_each_b1 p1) (3 - i1) (i1 : Int) s1 = some x1 ∧ m ≤ m17 ∧ St m17 ((bx pb0 [vU s1.1, vU s1.2.1, vU s1.2.2.1] 139) :: (X1 ++ As)) w' ∧ R s1.2.2.2 m17 X1 ∧ AllAt f' [(7, vI (i1 : Int))]) 3 ⟨0, (a0.1, a0.2.1, a0.2.2, s0), m, _, rfl, Nat.zero_le _, q1, L1, S, hX0, ⟨rfl, trivial⟩⟩ ?_
   rintro n1 f1 w1 ho ⟨i1, s1, m1, X1, hn, hi, q2, L3, S1, h1, ha⟩
   obtain ⟨u1, rfl⟩ := fr_of (N := 22) ho ha
   clear ho ha
   have L2 := Mem.rfl' m1
   clear S
   refine wpc_seq <| wpc_region <| s_lss (m := (i1 : Int)) (n := 3) rfl rfl <| wpl_nil <| nrm <| wpc_seq <| wpc_if (t := decide ((i1 : Int) < (3 : Int))) rfl (fun hc1 => ?_) (fun hc1 => ?_)
   · have hlt1 : i1 < 3 := by have := of_decide_eq_true hc1; omega
     obtain ⟨y1, q4, q3⟩ := eachN0_in q2 hlt1
     unfold m_hash_state_each_b1 at q4
     refine wpc_skip <| nrm <| wpc_seq <| wpc_block <| wpc_seq ?_
     obtain ⟨x3, q6, q4⟩ := obind_some q4
     have HM : MonoAll [(9, fun (M : Mem) (v : Value) => v = vI (i1 : Int)), (10, fun (M : Mem) (v : Value) => v = pt pb0 0), (11, fun (M : Mem) (v : Value) => v = pt pb0 (0 + (i1 : Int).toNat * 1)), (12, fun (M : Mem) (v : Value) => v = vU x3), (4, fun (M : Mem) (v : Value) => v = vI (i1 : Int))] := ⟨(fun _ _ _ _ h => h), (fun _ _ _ _ h => h), (fun _ _ _ _ h => h), (fun _ _ _ _ h => h), (fun _ _ _ _ h => h), trivial⟩
     refine wpc_flowG HM 5 mixed rfl rfl rfl [4, 9, 10, 11, 12] (fun L f M w => St M ((bx pb0 [vU s1.1, vU s1.2.1, vU s1.2.2.1] 139) :: (X1 ++ As)) w) (St.drew S1 _) ?_ ?_
     · refine ⟨?_, ?_, ?_, ?_, ?_, trivial⟩
       · intro L f2 w2 hL hd hc ⟨m2, L4, S2, K, hO⟩
         obtain ⟨u2, rfl⟩ := fr_of (N := 22) (L := []) hO trivial
         exact s_mvv (v := vI (i1 : Int)) rfl <| oS HM L4 S2 rfl K rfl rfl rfl outP
       · intro L f3 w3 hL hd hc ⟨m3, L6, S3, K, hO⟩
         obtain ⟨u3, rfl⟩ := fr_of (N := 22) (L := []) hO trivial
         exact s_nilc rfl <| oS HM L6 S3 rfl K rfl rfl rfl outP
       · intro L f4 w4 hL hd hc ⟨m4, L8, S4, K, hO⟩
         obtain ⟨u4, rfl⟩ := fr_of (N := 22) (L := [(10, _)]) hO ⟨K 1 (dep hd rfl), trivial⟩
         replace h1 := hup L8 h1
         exact s_idxA (i := (i1 : Int)) rfl rfl Try.underlying139 Try.sizeOf22 (idx_rng q6).1 (idx_rng q6).2 <| oS HM L8 S4 rfl K rfl rfl rfl outP
       · intro L f5 w5 hL hd hc ⟨m5, L10, S5, K, hO⟩
         obtain ⟨u5, rfl⟩ := fr_of (N := 22) (L := [(11, _)]) hO ⟨K 2 (dep hd rfl), trivial⟩
         replace h1 := hup L10 h1
         exact s_ld (i := 0) (off := 0 + (i1 : Int).toNat * 1) (cs := [vU x3]) S5 rfl rfl Try.isAgg22 Try.sizeOf22 (by rcases idx3 q6 with ⟨h, h'⟩ | ⟨h, h'⟩ | ⟨h, h'⟩ <;> (rw [h, h']; rfl)) (fun _ => rfl) <| oS HM L10 S5 rfl K rfl rfl rfl outP
       · intro L f6 w6 hL hd hc ⟨m6, L12, S6, K, hO⟩
         obtain ⟨u6, rfl⟩ := fr_of (N := 22) (L := [(9, _)]) hO ⟨K 0 (dep hd rfl), trivial⟩
         exact s_asv (v := vI (i1 : Int)) rfl <| oS HM L12 S6 rfl K rfl rfl rfl outP
     intro L f7 w7 hall ⟨m7, L14, S7, K, hO⟩
     have d4 : L 4 = true := hall 4 (by decide)
     have d3 : L 3 = true := hall 3 (by decide)
     obtain ⟨u7, rfl⟩ := fr_of (N := 22) (L := [(4, _), (12, _)]) hO ⟨K 4 d4, K 3 d3, trivial⟩
     replace S7 : St _ ((bx pb0 [vU s1.1, vU s1.2.1, vU s1.2.2.1] 139) :: (X1 ++ As)) _ := S7
     replace h1 := hup L14 h1
     replace L2 := Mem.tr L2 L14
     clear S1
     refine s_asv (v := vU x3) rfl <| wpl_nil <| nrm ?_
     obtain ⟨x4, q7, q4⟩ := obind_some q4
     have HM : MonoAll [(13, fun (M : Mem) (v : Value) => v = pt pb0 0), (14, fun (M : Mem) (v : Value) => v = vI (i1 : Int)), (15, fun (M : Mem) (v : Value) => v = f1), (16, fun (M : Mem) (v : Value) => v = vI (i1 : Int)), (17, fun (M : Mem) (v : Value) => v = vU x3), (18, fun (M : Mem) (v : Value) => v = vU x4.1), (19, fun (M : Mem) (v : Value) => v = pt pb0 0)] := ⟨(fun _ _ _ _ h => h), (fun _ _ _ _ h => h), (fun _ _ _ _ h => h), (fun _ _ _ _ h => h), (fun _ _ _ _ h => h), (fun _ _ _ _ h => h), (fun _ _ _ _ h => h), trivial⟩
     refine wpc_flowG HM 7 mixed rfl rfl rfl [13, 14, 15, 16, 17, 18, 19] (fun L f M w => ∃ (X3 : List Ow), ((L 5 = false → R s1.2.2.2 M X3) ∧ (L 5 = true → R x4.2 M X3)) ∧ St M ((bx pb0 [vU s1.1, vU s1.2.1, vU s1.2.2.1] 139) :: (X3 ++ As)) w) (⟨X1, ⟨fun _ => h1, fun hx => ff hx⟩, St.drew S7 _⟩) ?_ ?_
     · refine ⟨?_, ?_, ?_, ?_, ?_, ?_, ?_, trivial⟩
       · intro L f8 w8 hL hd hc ⟨m8, L15, ⟨X3, C1, S8⟩, K, hO⟩
         obtain ⟨u8, rfl⟩ := fr_of (N := 22) (L := []) hO trivial
         have L16 := Mem.rfl' m8
         exact s_mvv (v := pt pb0 0) rfl <| wpn <| ⟨m8, Mem.tr L15 L16, ⟨X3, C1, S8⟩, facts_step HM rfl K L16 rfl rfl rfl, outP⟩
       · intro L f9 w9 hL hd hc ⟨m9, L17, ⟨X3, C2, S9⟩, K, hO⟩
         obtain ⟨u9, rfl⟩ := fr_of (N := 22) (L := []) hO trivial
         have L18 := Mem.rfl' m9
         exact s_mvv (v := vI (i1 : Int)) rfl <| wpn <| ⟨m9, Mem.tr L17 L18, ⟨X3, C2, S9⟩, facts_step HM rfl K L18 rfl rfl rfl, outP⟩
       · intro L f10 w10 hL hd hc ⟨m10, L19, ⟨X3, C3, S10⟩, K, hO⟩
         obtain ⟨u10, rfl⟩ := fr_of (N := 22) (L := []) hO trivial
         have L20 := Mem.rfl' m10
         exact s_mvv (v := f1) rfl <| wpn <| ⟨m10, Mem.tr L19 L20, ⟨X3, C3, S10⟩, facts_step HM rfl K L20 rfl rfl rfl, outP⟩
       · intro L f11 w11 hL hd hc ⟨m11, L21, ⟨X3, C4, S11⟩, K, hO⟩
         obtain ⟨u11, rfl⟩ := fr_of (N := 22) (L := []) hO trivial
         have L22 := Mem.rfl' m11
         exact s_mvv (v := vI (i1 : Int)) rfl <| wpn <| ⟨m11, Mem.tr L21 L22, ⟨X3, C4, S11⟩, facts_step HM rfl K L22 rfl rfl rfl, outP⟩
       · intro L f12 w12 hL hd hc ⟨m12, L23, ⟨X3, C5, S12⟩, K, hO⟩
         obtain ⟨u12, rfl⟩ := fr_of (N := 22) (L := []) hO trivial
         have L24 := Mem.rfl' m12
         exact s_mvv (v := vU x3) rfl <| wpn <| ⟨m12, Mem.tr L23 L24, ⟨X3, C5, S12⟩, facts_step HM rfl K L24 rfl rfl rfl, outP⟩
       · intro L f13 w13 hL hd hc ⟨m13, L25, ⟨X3, C6, S13⟩, K, hO⟩
         have d5 : L 5 = false := hL
         obtain ⟨u13, rfl⟩ := fr_of (N := 22) (L := [(15, _), (16, _), (17, _)]) hO ⟨K 2 (dep hd rfl), K 3 (dep hd rfl), K 4 (dep hd rfl), trivial⟩
         have h3 := C6.1 d5
         replace S13 : St _ ((bx pb0 [vU s1.1, vU s1.2.1, vU s1.2.2.1] 139) :: (X3 ++ As)) _ := S13
         have L26 := Mem.rfl' m13
         have S14 := St.absF (L := [bx pb0 [vU s1.1, vU s1.2.1, vU s1.2.2.1] 139]) (X := X3) (As := As) S13
         refine s_callV rfl (cb1 S14 h3 q7) rfl ?_
         rintro _ w14 ⟨m14, X4, l1, S15, h4, rfl⟩
         replace S15 := St.absF (L := X4) (X := [bx pb0 [vU s1.1, vU s1.2.1, vU s1.2.2.1] 139]) (As := As) S15
         clear S14
         replace L26 := Mem.tr L26 l1
         replace S15 : St _ ((bx pb0 [vU s1.1, vU s1.2.1, vU s1.2.2.1] 139) :: (X4 ++ As)) _ := S15
         clear S13
         exact wpn <| ⟨m14, Mem.tr L25 L26, ⟨X4, ⟨fun hx => tf rfl hx, fun _ => h4⟩, S15⟩, facts_step HM rfl K L26 rfl rfl rfl, outP⟩
       · intro L f14 w15 hL hd hc ⟨m15, L27, ⟨X3, C7, S16⟩, K, hO⟩
         obtain ⟨u14, rfl⟩ := fr_of (N := 22) (L := [(13, _)]) hO ⟨K 0 (dep hd rfl), trivial⟩
         have L28 := Mem.rfl' m15
         exact s_nilc rfl <| wpn <| ⟨m15, Mem.tr L27 L28, ⟨X3, C7, S16⟩, facts_step HM rfl K L28 rfl rfl rfl, outP⟩
     intro L f15 w16 hall ⟨m16, L29, ⟨X3, C8, S17⟩, K, hO⟩
     have d1 : L 1 = true := hall 1 (by decide)
     have d5 : L 5 = true := hall 5 (by decide)
     have d6 : L 6 = true := hall 6 (by decide)
     obtain ⟨u15, rfl⟩ := fr_of (N := 22) (L := [(14, _), (18, _), (19, _)]) hO ⟨K 1 d1, K 5 d5, K 6 d6, trivial⟩
     replace S17 : St _ ((bx pb0 [vU s1.1, vU s1.2.1, vU s1.2.2.1] 139) :: (X3 ++ As)) _ := S17
     have h5 := C8.2 d5
     replace S17 : St _ ((bx pb0 [vU s1.1, vU s1.2.1, vU s1.2.2.1] 139) :: (X3 ++ As)) _ := S17
     replace L2 := Mem.tr L2 L29
     clear S7
     obtain ⟨x5, q8, q4⟩ := obind_some q4
     refine s_idxA (i := (i1 : Int)) rfl rfl Try.underlying139 Try.sizeOf22 (idx_rng q8).1 (idx_rng q8).2 ?_
     obtain ⟨x6, q9, q4⟩ := bnd_eq q4
     obtain ⟨x7, q10, q4⟩ := bnd_eq q4
     obtain ⟨x8, q11, q4⟩ := bnd_eq q4
     refine s_st (i := 0) (off := 0 + (i1 : Int).toNat * 1) S17 rfl rfl rfl Try.sizeOf22 (OneL.all (oneC rfl oneN)) (by rcases idx3 q8 with ⟨h, h'⟩ | ⟨h, h'⟩ | ⟨h, h'⟩ <;> (rw [h]; exact Nat.le_of_ble_eq_true rfl)) fun w17 S18 => ?_
     replace S18 := St.cellsTo (i := 0) (l' := [vU x6, vU x7, vU x8]) S18 (by rcases idx3 q8 with ⟨h, h'⟩ | ⟨h, h'⟩ | ⟨h, h'⟩ <;> (simp only [q9, q10, q11, h]; rfl)) rfl
     replace S18 : St _ ((bx pb0 [vU x6, vU x7, vU x8] 139) :: (X3 ++ As)) _ := S18
     clear S17
     refine wpl_nil <| nrmB <| nrm <| wpc_region <| s_addI (m := (i1 : Int)) (n := 1) rfl rfl <| s_mvv (v := vI (w64 ((i1 : Int) + 1))) rfl <| wpl_nil <| nrm ?_
     have e0 := Option.some.inj q4
     subst e0
     exact ⟨outP, _, (by omega), ⟨i1 + 1, (x6, x7, x8, x4.2), m16, _, rfl, hlt1, q3, Mem.tr L3 L2, S18, h5, ⟨congrArg (Value.int .i64) (w64_succ hlt1 (by decide)), trivial⟩⟩⟩
   have hlt1 : ¬ i1 < 3 := by have := of_decide_eq_false hc1; omega
   have e := Eq.symm (eachN0_out q2 hlt1)
   subst e
   exact wpc_exit <| thE <| thE <| exB <| nrm <| ⟨outP, m1, _, Mem.tr L3 L2, S1, h1, trivial⟩
 rintro f16 w18 ho ⟨m18, X2, l2, S19, h2, ha⟩
 obtain ⟨u16, rfl⟩ := fr_of (N := 22) ho ha
 clear ho ha
 replace L0 := Mem.tr L0 l2
 clear S
 refine outNw fun we hpd => ?_
 replace S19 := St.pd S19 hpd
 have e0 := Option.some.inj hm
 subst e0
 exact outR [] rfl trivial ⟨_, L0, _, S19, rfl, h2⟩

def m_bits_Mul64 (a0 : UInt64) (a1 : UInt64) : Option (UInt64 × UInt64) :=
  bnd (((a0 &&& 4294967295) * (a1 &&& 4294967295))) fun x1 =>
  bnd ((((shrU a0 32) * (a1 &&& 4294967295)) + (shrU x1 32))) fun x2 =>
  bnd (((x2 &&& 4294967295) + ((a0 &&& 4294967295) * (shrU a1 32)))) fun x3 =>
  bnd (((((shrU a0 32) * (shrU a1 32)) + (shrU x2 32)) + (shrU x3 32))) fun x4 =>
  some (x4, (a0 * a1))

theorem w_bits_Mul64 {m : Mem} {As : List Ow} {w : World} {a0 : UInt64} {a1 : UInt64} {r : UInt64 × UInt64} (S : St m (As) w) (hm : m_bits_Mul64 a0 a1 = some r) :
    CallsR Try.prog 85 #[vU a0, vU a1] w fun v w' => ∃ (M : Mem), m ≤ M ∧ St M (As) w' ∧ v = .tuple #[vU r.1, vU r.2] := by
 unfold m_bits_Mul64 at hm
 have L0 := Mem.rfl' m
 refine callsR (args := [vU a0, vU a1]) Try.func85 rfl Try.ntmps85 (Nat.le_of_ble_eq_true rfl) <| wpc_seq <| wpc_region <| s_asv (v := vU 0) rfl <| s_asv (v := vU 0) rfl <| wpl_nil <| nrm <| wpc_seq <| wpc_region <| s_mvv (v := vU a0) rfl <| s_andU (m := a0) (n := 4294967295) rfl rfl <| s_asv (v := vU (a0 &&& 4294967295)) rfl <| wpl_nil <| nrm <| wpc_seq <| wpc_region <| s_mvv (v := vU a0) rfl <| s_shrU (m := a0) (n := 32) rfl rfl (by decide) <| s_asv (v := vU (shrU a0 32)) rfl <| wpl_nil <| nrm <| wpc_seq <| wpc_region <| s_mvv (v := vU a1) rfl <| s_andU (m := a1) (n := 4294967295) rfl rfl <| s_asv (v := vU (a1 &&& 4294967295)) rfl <| wpl_nil <| nrm <| wpc_seq <| wpc_region <| s_mvv (v := vU a1) rfl <| s_shrU (m := a1) (n := 32) rfl rfl (by decide) <| s_asv (v := vU (shrU a1 32)) rfl <| wpl_nil <| nrm <| wpc_seq <| wpc_region <| s_mvv (v := vU (a0 &&& 4294967295)) rfl <| s_mvv (v := vU (a1 &&& 4294967295)) rfl <| s_mulU (m := (a0 &&& 4294967295)) (n := (a1 &&& 4294967295)) rfl rfl ?_
 obtain ⟨x1, q1, hm⟩ := bnd_eq hm
 refine s_asv (v := vU x1) (congrArg (fun z => vU z) q1.symm) <| wpl_nil <| nrm <| wpc_seq <| wpc_region <| s_mvv (v := vU (shrU a0 32)) rfl <| s_mvv (v := vU (a1 &&& 4294967295)) rfl <| s_mulU (m := (shrU a0 32)) (n := (a1 &&& 4294967295)) rfl rfl <| s_mvv (v := vU x1) rfl <| s_shrU (m := x1) (n := 32) rfl rfl (by decide) <| s_addU (m := ((shrU a0 32) * (a1 &&& 4294967295))) (n := (shrU x1 32)) rfl rfl ?_
 obtain ⟨x2, q2, hm⟩ := bnd_eq hm
 refine s_asv (v := vU x2) (congrArg (fun z => vU z) q2.symm) <| wpl_nil <| nrm <| wpc_seq <| wpc_region <| s_mvv (v := vU x2) rfl <| s_andU (m := x2) (n := 4294967295) rfl rfl <| s_asv (v := vU (x2 &&& 4294967295)) rfl <| wpl_nil <| nrm <| wpc_seq <| wpc_region <| s_mvv (v := vU x2) rfl <| s_shrU (m := x2) (n := 32) rfl rfl (by decide) <| s_asv (v := vU (shrU x2 32)) rfl <| wpl_nil <| nrm <| wpc_seq <| wpc_region <| s_mvv (v := vU (x2 &&& 4294967295)) rfl <| s_mvv (v := vU (a0 &&& 4294967295)) rfl <| s_mvv (v := vU (shrU a1 32)) rfl <| s_mulU (m := (a0 &&& 4294967295)) (n := (shrU a1 32)) rfl rfl <| s_addU (m := (x2 &&& 4294967295)) (n := ((a0 &&& 4294967295) * (shrU a1 32))) rfl rfl ?_
 obtain ⟨x3, q3, hm⟩ := bnd_eq hm
 refine s_asv (v := vU x3) (congrArg (fun z => vU z) q3.symm) <| wpl_nil <| nrm <| wpc_seq <| wpc_region <| s_mvv (v := vU (shrU a0 32)) rfl <| s_mvv (v := vU (shrU a1 32)) rfl <| s_mulU (m := (shrU a0 32)) (n := (shrU a1 32)) rfl rfl <| s_mvv (v := vU (shrU x2 32)) rfl <| s_addU (m := ((shrU a0 32) * (shrU a1 32))) (n := (shrU x2 32)) rfl rfl <| s_mvv (v := vU x3) rfl <| s_shrU (m := x3) (n := 32) rfl rfl (by decide) <| s_addU (m := (((shrU a0 32) * (shrU a1 32)) + (shrU x2 32))) (n := (shrU x3 32)) rfl rfl ?_
 obtain ⟨x4, q4, hm⟩ := bnd_eq hm
 refine s_asv (v := vU x4) (congrArg (fun z => vU z) q4.symm) <| wpl_nil <| nrm <| wpc_seq <| wpc_region <| s_mvv (v := vU a0) rfl <| s_mvv (v := vU a1) rfl <| s_mulU (m := a0) (n := a1) rfl rfl <| s_asv (v := vU (a0 * a1)) rfl <| wpl_nil <| nrm <| wpc_ret <| outRw fun we hpd => ?_
 replace S := St.pd S hpd
 have e0 := Option.some.inj hm
 subst e0
 exact outR [_, _] rfl ⟨rfl, rfl, trivial⟩ ⟨_, L0, S, rfl⟩

def m_field_Mul (a0 : UInt64) (a1 : UInt64) : Option UInt64 :=
  obind (m_field_one a0) fun x1 =>
  obind (m_field_one a1) fun x2 =>
  obind (m_bits_Mul64 x1 x2) fun x3 =>
  obind (m_field_fold x3.1 x3.2) fun x4 =>
  some x4

theorem w_field_Mul {m : Mem} {As : List Ow} {w : World} {a0 : UInt64} {a1 : UInt64} {r : UInt64} (S : St m (As) w) (hm : m_field_Mul a0 a1 = some r) :
    CallsR Try.prog 104 #[vU a0, vU a1] w fun v w' => ∃ (M : Mem), m ≤ M ∧ St M (As) w' ∧ v = vU r := by
 unfold m_field_Mul at hm
 have L0 := Mem.rfl' m
 refine callsR (args := [vU a0, vU a1]) Try.func104 rfl Try.ntmps104 (Nat.le_of_ble_eq_true rfl) <| wpc_seq <| wpc_region <| s_asv (v := vU 0) rfl <| wpl_nil <| nrm <| wpc_seq <| wpc_region <| s_mvv (v := vU a0) rfl ?_
 obtain ⟨x1, q1, hm⟩ := obind_some hm
 refine s_call Try.call91 (w_field_one (a0 := a0) S  q1) rfl ?_
 rintro _ w1 ⟨m1, l1, S1, rfl⟩
 replace L0 := Mem.tr L0 l1
 clear S
 refine s_mvv (v := vU a1) rfl ?_
 obtain ⟨x2, q2, hm⟩ := obind_some hm
 refine s_call Try.call91 (w_field_one (a0 := a1) S1  q2) rfl ?_
 rintro _ w2 ⟨m2, l2, S2, rfl⟩
 replace L0 := Mem.tr L0 l2
 clear S1
 obtain ⟨x3, q3, hm⟩ := obind_some hm
 refine s_call Try.call85 (w_bits_Mul64 (a0 := x1) (a1 := x2) S2  q3) rfl ?_
 rintro _ w3 ⟨m3, l3, S3, rfl⟩
 replace L0 := Mem.tr L0 l3
 clear S2
 refine s_ext (i := 0) rfl rfl <| s_ext (i := 1) rfl rfl ?_
 obtain ⟨x4, q4, hm⟩ := obind_some hm
 refine s_call Try.call103 (w_field_fold (a0 := x3.1) (a1 := x3.2) S3  q4) rfl ?_
 rintro _ w4 ⟨m4, l4, S4, rfl⟩
 replace L0 := Mem.tr L0 l4
 clear S3
 refine s_asv (v := vU x4) rfl <| wpl_nil <| nrm <| wpc_ret <| outRw fun we hpd => ?_
 replace S4 := St.pd S4 hpd
 have e0 := Option.some.inj hm
 subst e0
 exact outR [_] rfl ⟨rfl, trivial⟩ ⟨_, L0, S4, rfl⟩

def m_hash_seventeen_b1  (i1 : Int) (s1 : UInt64) : Option (UInt64) :=
  obind (m_field_Mul s1 s1) fun x4 =>
  some x4

def m_hash_seventeen (a0 : UInt64) : Option UInt64 :=
  obind (
    obind (eachN0 m_hash_seventeen_b1 4 0 a0) fun x2 =>
    some x2
  ) fun x1 =>
  obind (m_field_Mul a0 x1) fun x5 =>
  some x5

theorem w_hash_seventeen {m : Mem} {As : List Ow} {w : World} {a0 : UInt64} {r : UInt64} (S : St m (As) w) (hm : m_hash_seventeen a0 = some r) :
    CallsR Try.prog 94 #[vU a0] w fun v w' => ∃ (M : Mem), m ≤ M ∧ St M (As) w' ∧ v = vU r := by
 unfold m_hash_seventeen at hm
 have L0 := Mem.rfl' m
 refine callsR (args := [vU a0]) Try.func94 rfl Try.ntmps94 (Nat.le_of_ble_eq_true rfl) <| wpc_seq <| wpc_region <| s_asv (v := vU 0) rfl <| wpl_nil <| nrm <| wpc_seq <| wpc_region <| s_mvv (v := vU a0) rfl <| s_asv (v := vU a0) rfl <| wpl_nil <| nrm ?_
 obtain ⟨x1, q1, hm⟩ := obind_some hm
 have L1 := Mem.rfl' m
 refine wpc_seq <| wpc_join [3, 5, 6, 7, 8, 9, 10] (fun f' w' => ∃ (M1 : Mem), m ≤ M1 ∧ St M1 (As) w' ∧ AllAt f' [(3, vU x1)]) ?_ ?_
 · refine wpc_seq <| wpc_region <| s_mvv (v := vI 0) rfl <| wpl_nil <| nrm ?_
   obtain ⟨x2, q2, q1⟩ := obind_some q1
   have L2 := Mem.rfl' m
   refine wpc_join [3, 5, 6, 7, 8, 9, 10] (fun f' w' => ∃ (M2 : Mem), m ≤ M2 ∧ St M2 (As) w' ∧ AllAt f' [(3, vU x2)]) ?_ ?_
   · refine wpc_block <| wpc_rounds [3, 5, 6, 7, 8, 9, 10] (fun n1 f' w' => ∃ (i1 : Nat) (s1 : UInt64) (m3 : Mem), n1 = 4 - i1 ∧ i1 ≤ 4 ∧ eachN0 m_hash_seventeen_b1 (4 - i1) (i1 : Int) s1 = some x2 ∧ m ≤ m3 ∧ St m3 (As) w' ∧ AllAt f' [(5, vI (i1 : Int)), (3, vU s1)]) 4 ⟨0, a0, m, rfl, Nat.zero_le _, q2, L2, S, ⟨rfl, rfl, trivial⟩⟩ ?_
     rintro n1 f1 w1 ho ⟨i1, s1, m1, hn, hi, q3, L4, S1, ha⟩
     obtain ⟨u1, rfl⟩ := fr_of (N := 14) ho ha
     clear ho ha
     have L3 := Mem.rfl' m1
     clear S
     refine wpc_seq <| wpc_region <| s_lss (m := (i1 : Int)) (n := 4) rfl rfl <| wpl_nil <| nrm <| wpc_seq <| wpc_if (t := decide ((i1 : Int) < (4 : Int))) rfl (fun hc1 => ?_) (fun hc1 => ?_)
     · have hlt1 : i1 < 4 := by have := of_decide_eq_true hc1; omega
       obtain ⟨y1, q5, q4⟩ := eachN0_in q3 hlt1
       unfold m_hash_seventeen_b1 at q5
       refine wpc_skip <| nrm <| wpc_seq <| wpc_block <| wpc_region <| s_mvv (v := vU s1) rfl <| s_mvv (v := vU s1) rfl ?_
       obtain ⟨x4, q7, q5⟩ := obind_some q5
       refine s_call Try.call104 (w_field_Mul (a0 := s1) (a1 := s1) S1  q7) rfl ?_
       rintro _ w2 ⟨m2, l1, S2, rfl⟩
       replace L3 := Mem.tr L3 l1
       clear S1
       refine s_asv (v := vU x4) rfl <| wpl_nil <| nrmB <| nrm <| wpc_region <| s_addI (m := (i1 : Int)) (n := 1) rfl rfl <| s_mvv (v := vI (w64 ((i1 : Int) + 1))) rfl <| wpl_nil <| nrm ?_
       have e0 := Option.some.inj q5
       subst e0
       exact ⟨outP, _, (by omega), ⟨i1 + 1, x4, m2, rfl, hlt1, q4, Mem.tr L4 L3, S2, ⟨congrArg (Value.int .i64) (w64_succ hlt1 (by decide)), rfl, trivial⟩⟩⟩
     have hlt1 : ¬ i1 < 4 := by have := of_decide_eq_false hc1; omega
     have e := Eq.symm (eachN0_out q3 hlt1)
     subst e
     exact wpc_exit <| thE <| thE <| exB <| nrm <| ⟨outP, m1, Mem.tr L4 L3, S1, ⟨rfl, trivial⟩⟩
   rintro f2 w3 ho ⟨m4, l2, S3, ha⟩
   obtain ⟨u2, rfl⟩ := fr_of (N := 14) ho ha
   clear ho ha
   replace L1 := Mem.tr L1 l2
   clear S
   have e0 := Option.some.inj q1
   subst e0
   exact ⟨outP, m4, L1, S3, ⟨rfl, trivial⟩⟩
 rintro f3 w4 ho ⟨m5, l3, S4, ha⟩
 obtain ⟨u3, rfl⟩ := fr_of (N := 14) ho ha
 replace L0 := Mem.tr L0 l3
 clear S
 refine wpc_seq <| wpc_region <| s_mvv (v := vU a0) rfl <| s_mvv (v := vU x1) rfl ?_
 obtain ⟨x5, q8, hm⟩ := obind_some hm
 refine s_call Try.call104 (w_field_Mul (a0 := a0) (a1 := x1) S4  q8) rfl ?_
 rintro _ w5 ⟨m6, l4, S5, rfl⟩
 replace L0 := Mem.tr L0 l4
 clear S4
 refine s_asv (v := vU x5) rfl <| wpl_nil <| nrm <| wpc_ret <| outRw fun we hpd => ?_
 replace S5 := St.pd S5 hpd
 have e0 := Option.some.inj hm
 subst e0
 exact outR [_] rfl ⟨rfl, trivial⟩ ⟨_, L0, S5, rfl⟩

def m_hash_Mix_1 (a0 : Int) (a1 : UInt64) (k0 : Int) (k1 : UInt64) : Option (UInt64 × Int × UInt64) :=
  bnd ((toU (w64 ((w64 ((w64 (3 * k0)) + a0)) + 1)))) fun x1 =>
  obind (m_field_Add a1 (((x1 * x1) * x1) + 7)) fun x2 =>
  obind (m_hash_seventeen x2) fun x3 =>
  obind (m_field_Add k1 x3) fun x4 =>
  some (x3, k0, x4)

theorem w_hash_Mix_1 {m : Mem} {As : List Ow} {w : World} {a0 : Int} {a1 : UInt64} {kb0 : Nat} {k0 : Int} {kb1 : Nat} {k1 : UInt64} {r : UInt64 × Int × UInt64} (S : St m ((bx kb0 [vI k0] 3) :: (bx kb1 [vU k1] 22) :: As) w) (hm : m_hash_Mix_1 a0 a1 k0 k1 = some r) :
    CallsR Try.prog 93 #[vI a0, vU a1, pt kb0 0, pt kb1 0] w fun v w' => ∃ (M : Mem), m ≤ M ∧ St M ((bx kb0 [vI r.2.1] 3) :: (bx kb1 [vU r.2.2] 22) :: As) w' ∧ v = vU r.1 := by
 unfold m_hash_Mix_1 at hm
 have L0 := Mem.rfl' m
 refine callsR (args := [vI a0, vU a1, pt kb0 0, pt kb1 0]) Try.func93 rfl Try.ntmps93 (Nat.le_of_ble_eq_true rfl) <| wpc_seq <| wpc_region <| s_asv (v := vU 0) rfl <| wpl_nil <| nrm <| wpc_seq <| wpc_region <| s_ld (i := 0) (cs := [vI k0]) S rfl rfl Try.isAgg3 Try.sizeOf3 rfl (fun _ => rfl) <| s_mulI (m := 3) (n := k0) rfl rfl <| s_mvv (v := vI a0) rfl <| s_addI (m := (w64 (3 * k0))) (n := a0) rfl rfl <| s_addI (m := (w64 ((w64 (3 * k0)) + a0))) (n := 1) rfl rfl <| s_convU rfl Try.underlying3 Try.underlying22 ?_
 obtain ⟨x1, q1, hm⟩ := bnd_eq hm
 refine s_asv (v := vU x1) (congrArg (fun z => vU z) q1.symm) <| wpl_nil <| nrm <| wpc_seq <| wpc_region <| s_mvv (v := vU a1) rfl <| s_mvv (v := vU x1) rfl <| s_mvv (v := vU x1) rfl <| s_mulU (m := x1) (n := x1) rfl rfl <| s_mvv (v := vU x1) rfl <| s_mulU (m := (x1 * x1)) (n := x1) rfl rfl <| s_addU (m := ((x1 * x1) * x1)) (n := 7) rfl rfl ?_
 obtain ⟨x2, q2, hm⟩ := obind_some hm
 refine s_call Try.call74 (w_field_Add (a0 := a1) (a1 := (((x1 * x1) * x1) + 7)) S  q2) rfl ?_
 rintro _ w1 ⟨m1, l1, S1, rfl⟩
 replace L0 := Mem.tr L0 l1
 clear S
 obtain ⟨x3, q3, hm⟩ := obind_some hm
 refine s_call Try.call94 (w_hash_seventeen (a0 := x2) S1  q3) rfl ?_
 rintro _ w2 ⟨m2, l2, S2, rfl⟩
 replace L0 := Mem.tr L0 l2
 clear S1
 refine s_asv (v := vU x3) rfl <| wpl_nil <| nrm <| wpc_seq <| wpc_region <| s_ld (i := 1) (cs := [vU k1]) S2 rfl rfl Try.isAgg22 Try.sizeOf22 rfl (fun _ => rfl) <| s_mvv (v := vU x3) rfl ?_
 obtain ⟨x4, q4, hm⟩ := obind_some hm
 refine s_call Try.call74 (w_field_Add (a0 := k1) (a1 := x3) S2  q4) rfl ?_
 rintro _ w3 ⟨m3, l3, S3, rfl⟩
 replace L0 := Mem.tr L0 l3
 clear S2
 refine s_stL (i := 1) S3 rfl rfl rfl Try.sizeOf22 (oneC rfl oneN) rfl fun w4 S4 => ?_
 replace S4 : St _ ((bx kb0 [vI k0] 3) :: (bx kb1 [vU x4] 22) :: As) _ := S4
 clear S3
 refine wpl_nil <| nrm <| wpc_seq <| wpc_region <| s_mvv (v := vU x3) rfl <| s_asv (v := vU x3) rfl <| wpl_nil <| nrm <| wpc_ret <| outRw fun we hpd => ?_
 replace S4 := St.pd S4 hpd
 have e0 := Option.some.inj hm
 subst e0
 exact outR [_] rfl ⟨rfl, trivial⟩ ⟨_, L0, S4, rfl⟩

def m_hash_Mix_2 (a0 : Int) (a1 : UInt64) (k0 : UInt64) : Option (UInt64 × UInt64) :=
  obind (m_field_Add a1 k0) fun x1 =>
  some (x1, k0)

theorem w_hash_Mix_2 {m : Mem} {As : List Ow} {w : World} {a0 : Int} {a1 : UInt64} {kb0 : Nat} {k0 : UInt64} {r : UInt64 × UInt64} (S : St m ((bx kb0 [vU k0] 22) :: As) w) (hm : m_hash_Mix_2 a0 a1 k0 = some r) :
    CallsR Try.prog 95 #[vI a0, vU a1, pt kb0 0] w fun v w' => ∃ (M : Mem), m ≤ M ∧ St M ((bx kb0 [vU r.2] 22) :: As) w' ∧ v = vU r.1 := by
 unfold m_hash_Mix_2 at hm
 have L0 := Mem.rfl' m
 refine callsR (args := [vI a0, vU a1, pt kb0 0]) Try.func95 rfl Try.ntmps95 (Nat.le_of_ble_eq_true rfl) <| wpc_seq <| wpc_region <| s_asv (v := vU 0) rfl <| wpl_nil <| nrm <| wpc_seq <| wpc_region <| s_mvv (v := vU a1) rfl <| s_ld (i := 0) (cs := [vU k0]) S rfl rfl Try.isAgg22 Try.sizeOf22 rfl (fun _ => rfl) ?_
 obtain ⟨x1, q1, hm⟩ := obind_some hm
 refine s_call Try.call74 (w_field_Add (a0 := a1) (a1 := k0) S  q1) rfl ?_
 rintro _ w1 ⟨m1, l1, S1, rfl⟩
 replace L0 := Mem.tr L0 l1
 clear S
 refine s_asv (v := vU x1) rfl <| wpl_nil <| nrm <| wpc_ret <| outRw fun we hpd => ?_
 replace S1 := St.pd S1 hpd
 have e0 := Option.some.inj hm
 subst e0
 exact outR [_] rfl ⟨rfl, trivial⟩ ⟨_, L0, S1, rfl⟩

def m_hash_Mix_b4  (i1 : Int) (s1 : UInt64 × UInt64 × UInt64) : Option (UInt64 × UInt64 × UInt64) :=
  obind (m_hash_state_each s1 (fun (s2 : Int × UInt64) (b7 : Int) (b8 : UInt64) => obind (m_hash_Mix_1 b7 b8 ((s2).1) ((s2).2)) fun x4 => some (x4.1, (x4.2.1, x4.2.2))) ((i1 : Int), 0)) fun x5 =>
  obind (m_hash_state_each x5.1 (fun (s3 : UInt64) (b9 : Int) (b10 : UInt64) => obind (m_hash_Mix_2 b9 b10 s3) fun x6 => some (x6.1, x6.2)) x5.2.2) fun x7 =>
  some (x7.1.1, x7.1.2.1, x7.1.2.2)

def m_hash_Mix (a0 : UInt64 × UInt64 × UInt64) : Option (UInt64 × UInt64 × UInt64) :=
  obind (
    obind (eachN0 m_hash_Mix_b4 8 0 (a0.1, a0.2.1, a0.2.2)) fun x2 =>
    some (x2.1, x2.2.1, x2.2.2)
  ) fun x1 =>
  some x1

theorem w_hash_Mix {m : Mem} {As : List Ow} {w : World} {a0 : UInt64 × UInt64 × UInt64} {r : UInt64 × UInt64 × UInt64} (S : St m (As) w) (hm : m_hash_Mix a0 = some r) :
    CallsR Try.prog 75 #[.agg #[vU a0.1, vU a0.2.1, vU a0.2.2]] w fun v w' => ∃ (M : Mem), m ≤ M ∧ St M (As) w' ∧ v = .agg #[vU r.1, vU r.2.1, vU r.2.2] := by
 unfold m_hash_Mix at hm
 have L0 := Mem.rfl' m
 refine callsR (args := [.agg #[vU a0.1, vU a0.2.1, vU a0.2.2]]) Try.func75 rfl Try.ntmps75 (Nat.le_of_ble_eq_true rfl) <| wpc_seq <| wpc_region <| s_box S rfl fun b1 w1 S1 => ?_
 replace S1 : St _ ((bx b1 [vU a0.1, vU a0.2.1, vU a0.2.2] 123) :: As) _ := S1
 clear S
 refine s_alloc S1 Try.zeroValue123 fun b2 w2 S2 => ?_
 replace S2 : St _ ((bx b2 [vU 0, vU 0, vU 0] 123) :: (bx b1 [vU a0.1, vU a0.2.1, vU a0.2.2] 123) :: As) _ := S2
 clear S1
 refine wpl_nil <| nrm <| wpc_seq <| wpc_region <| s_ld (i := 1) (cs := [vU a0.1, vU a0.2.1, vU a0.2.2]) S2 rfl rfl Try.isAgg123 Try.sizeOf123 rfl (fun h => by cases h) <| s_alloc S2 Try.zeroValue139 fun b3 w3 S3 => ?_
 replace S3 : St _ ((bx b3 [vU 0, vU 0, vU 0] 139) :: (bx b2 [vU 0, vU 0, vU 0] 123) :: (bx b1 [vU a0.1, vU a0.2.1, vU a0.2.2] 123) :: As) _ := S3
 clear S2
 refine s_stL (i := 0) S3 rfl rfl rfl Try.sizeOf139 (oneC rfl (oneC rfl (oneC rfl oneN))) rfl fun w4 S4 => ?_
 replace S4 : St _ ((bx b3 [vU a0.1, vU a0.2.1, vU a0.2.2] 139) :: (bx b2 [vU 0, vU 0, vU 0] 123) :: (bx b1 [vU a0.1, vU a0.2.1, vU a0.2.2] 123) :: As) _ := S4
 clear S3
 refine wpl_nil <| nrm ?_
 obtain ⟨x1, q1, hm⟩ := obind_some hm
 have L1 := Mem.rfl' m
 refine wpc_seq <| wpc_join [4, 5, 7, 8, 9, 10, 11, 12, 13, 14] (fun f' w' => ∃ (M1 : Mem), m ≤ M1 ∧ St M1 ((bx b3 [vU x1.1, vU x1.2.1, vU x1.2.2] 139) :: (bx b2 [vU 0, vU 0, vU 0] 123) :: (bx b1 [vU a0.1, vU a0.2.1, vU a0.2.2] 123) :: As) w' ∧ AllAt f' []) ?_ ?_
 · refine wpc_seq <| wpc_region <| s_mvv (v := vI 0) rfl <| wpl_nil <| nrm ?_
   obtain ⟨x2, q2, q1⟩ := obind_some q1
   have L2 := Mem.rfl' m
   refine wpc_join [4, 5, 7, 8, 9, 10, 11, 12, 13, 14] (fun f' w' => ∃ (M2 : Mem), m ≤ M2 ∧ St M2 ((bx b3 [vU x2.1, vU x2.2.1, vU x2.2.2] 139) :: (bx b2 [vU 0, vU 0, vU 0] 123) :: (bx b1 [vU a0.1, vU a0.2.1, vU a0.2.2] 123) :: As) w' ∧ AllAt f' []) ?_ ?_
   · refine wpc_block <| wpc_rounds [4, 5, 7, 8, 9, 10, 11, 12, 13, 14] (fun n1 f' w' => ∃ (i1 : Nat) (s1 : UInt64 × UInt64 × UInt64) (m10 : Mem), n1 = 8 - i1 ∧ i1 ≤ 8 ∧ eachN0 m_hash_Mix_b4 (8 - i1) (i1 : Int) s1 = some x2 ∧ m ≤ m10 ∧ St m10 ((bx b3 [vU s1.1, vU s1.2.1, vU s1.2.2] 139) :: (bx b2 [vU 0, vU 0, vU 0] 123) :: (bx b1 [vU a0.1, vU a0.2.1, vU a0.2.2] 123) :: As) w' ∧ AllAt f' [(7, vI (i1 : Int))]) 8 ⟨0, (a0.1, a0.2.1, a0.2.2), m, rfl, Nat.zero_le _, q2, L2, S4, ⟨rfl, trivial⟩⟩ ?_
     rintro n1 f1 w5 ho ⟨i1, s1, m1, hn, hi, q3, L4, S5, ha⟩
     obtain ⟨u1, rfl⟩ := fr_of (N := 16) ho ha
     clear ho ha
     have L3 := Mem.rfl' m1
     clear S4
     refine wpc_seq <| wpc_region <| s_lss (m := (i1 : Int)) (n := 8) rfl rfl <| wpl_nil <| nrm <| wpc_seq <| wpc_if (t := decide ((i1 : Int) < (8 : Int))) rfl (fun hc1 => ?_) (fun hc1 => ?_)
     · have hlt1 : i1 < 8 := by have := of_decide_eq_true hc1; omega
       obtain ⟨y1, q5, q4⟩ := eachN0_in q3 hlt1
       unfold m_hash_Mix_b4 at q5
       refine wpc_skip <| nrm <| wpc_seq <| wpc_block <| wpc_seq <| wpc_region <| s_mvv (v := vI (i1 : Int)) rfl <| s_alloc S5 Try.zeroValue3 fun b5 w6 S6 => ?_
       replace S6 : St _ ((bx b5 [vI 0] 3) :: (bx b3 [vU s1.1, vU s1.2.1, vU s1.2.2] 139) :: (bx b2 [vU 0, vU 0, vU 0] 123) :: (bx b1 [vU a0.1, vU a0.2.1, vU a0.2.2] 123) :: As) _ := S6
       clear S5
       refine s_stL (i := 0) S6 rfl rfl rfl Try.sizeOf3 (oneC rfl oneN) rfl fun w7 S7 => ?_
       replace S7 : St _ ((bx b5 [vI (i1 : Int)] 3) :: (bx b3 [vU s1.1, vU s1.2.1, vU s1.2.2] 139) :: (bx b2 [vU 0, vU 0, vU 0] 123) :: (bx b1 [vU a0.1, vU a0.2.1, vU a0.2.2] 123) :: As) _ := S7
       clear S6
       refine wpl_nil <| nrm <| wpc_seq <| wpc_region <| s_alloc S7 Try.zeroValue22 fun b6 w8 S8 => ?_
       replace S8 : St _ ((bx b6 [vU 0] 22) :: (bx b5 [vI (i1 : Int)] 3) :: (bx b3 [vU s1.1, vU s1.2.1, vU s1.2.2] 139) :: (bx b2 [vU 0, vU 0, vU 0] 123) :: (bx b1 [vU a0.1, vU a0.2.1, vU a0.2.2] 123) :: As) _ := S8
       clear S7
       refine wpl_nil <| nrm <| wpc_seq <| wpc_region <| s_funcC (caps := [pt b5 0, pt b6 0]) rfl ?_
       have hcb1 : ∀ {m' : Mem} {As' : List Ow} {w' : World} {s : Int × UInt64} {X : List Ow} {b0 : Int} {b1 : UInt64} {r : UInt64 × (Int × UInt64)}, St m' (X ++ As') w' → (X = [bx b5 [vI ((s).1)] 3, bx b6 [vU ((s).2)] 22]) → (fun (s2 : Int × UInt64) (b7 : Int) (b8 : UInt64) => obind (m_hash_Mix_1 b7 b8 ((s2).1) ((s2).2)) fun x4 => some (x4.1, (x4.2.1, x4.2.2))) s b0 b1 = some r → CallV Try.prog (.func (.func 93) #[] #[pt b5 0, pt b6 0]) [vI b0, vU b1] w' fun v w'' => ∃ (M : Mem) (X' : List Ow), m' ≤ M ∧ St M (X' ++ As') w'' ∧ (X' = [bx b5 [vI ((r.2).1)] 3, bx b6 [vU ((r.2).2)] 22]) ∧ v = vU r.1 := by
         intro m2 As1 w9 s2 X1 b7 b8 r1 S9 h1 hm1
         subst h1
         replace S9 : St _ ((bx b5 [vI ((s2).1)] 3) :: (bx b6 [vU ((s2).2)] 22) :: As1) _ := S9
         have L5 := Mem.rfl' m2
         obtain ⟨x4, q7, hm1⟩ := obind_some hm1
         refine CallV.mono (CallV.clo (pre := []) Try.call93 rfl (w_hash_Mix_1 (a0 := b7) (a1 := b8) (k0 := ((s2).1)) (k1 := ((s2).2)) S9  q7)) ?_
         rintro _ w10 ⟨m3, l1, S10, rfl⟩
         replace L5 := Mem.tr L5 l1
         clear S9
         replace S10 : St _ ((bx b5 [vI x4.2.1] 3) :: (bx b6 [vU x4.2.2] 22) :: As1) _ := S10
         have e0 := Option.some.inj hm1
         subst e0
         exact ⟨_, [bx b5 [vI x4.2.1] 3, bx b6 [vU x4.2.2] 22], L5, S10, rfl, rfl⟩
       have S11 : St _ ((bx b3 [vU s1.1, vU s1.2.1, vU s1.2.2] 139) :: (bx b5 [vI (i1 : Int)] 3) :: (bx b6 [vU 0] 22) :: (bx b2 [vU 0, vU 0, vU 0] 123) :: (bx b1 [vU a0.1, vU a0.2.1, vU a0.2.2] 123) :: As) _ := St.perm S8 (List.Perm.trans (List.Perm.cons _ (List.Perm.swap _ _ _)) (List.Perm.trans (List.Perm.swap _ _ _) (List.Perm.cons _ (List.Perm.swap _ _ _))))
       clear S8
       obtain ⟨x5, q8, q5⟩ := obind_some q5
       refine s_call Try.call92 (w_hash_state_each (a0 := s1) (p1 := (fun (s2 : Int × UInt64) (b7 : Int) (b8 : UInt64) => obind (m_hash_Mix_1 b7 b8 ((s2).1) ((s2).2)) fun x4 => some (x4.1, (x4.2.1, x4.2.2)))) (s0 := ((i1 : Int), 0)) (R := (fun (s : Int × UInt64) (M : Mem) (X : List Ow) => (X = [bx b5 [vI ((s).1)] 3, bx b6 [vU ((s).2)] 22]))) (X0 := [bx b5 [vI (i1 : Int)] 3, bx b6 [vU 0] 22]) (As := (bx b2 [vU 0, vU 0, vU 0] 123) :: (bx b1 [vU a0.1, vU a0.2.1, vU a0.2.2] 123) :: As) S11 (fun {_ _ _ _} _ h => h) rfl @hcb1 rfl q8) rfl ?_
       rintro _ w11 ⟨m4, l2, X2, S12, rfl, rfl⟩
       replace L3 := Mem.tr L3 l2
       clear S11
       refine wpl_nil <| nrm <| wpc_region <| s_funcC (caps := [pt b6 0]) rfl ?_
       have hcb2 : ∀ {m' : Mem} {As' : List Ow} {w' : World} {s : UInt64} {X : List Ow} {b0 : Int} {b1 : UInt64} {r : UInt64 × UInt64}, St m' (X ++ As') w' → (X = [bx b6 [vU (s)] 22]) → (fun (s3 : UInt64) (b9 : Int) (b10 : UInt64) => obind (m_hash_Mix_2 b9 b10 s3) fun x6 => some (x6.1, x6.2)) s b0 b1 = some r → CallV Try.prog (.func (.func 95) #[] #[pt b6 0]) [vI b0, vU b1] w' fun v w'' => ∃ (M : Mem) (X' : List Ow), m' ≤ M ∧ St M (X' ++ As') w'' ∧ (X' = [bx b6 [vU (r.2)] 22]) ∧ v = vU r.1 := by
         intro m5 As2 w12 s3 X3 b9 b10 r2 S13 h2 hm2
         subst h2
         replace S13 : St _ ((bx b6 [vU s3] 22) :: As2) _ := S13
         have L6 := Mem.rfl' m5
         obtain ⟨x6, q9, hm2⟩ := obind_some hm2
         refine CallV.mono (CallV.clo (pre := []) Try.call95 rfl (w_hash_Mix_2 (a0 := b9) (a1 := b10) (k0 := s3) S13  q9)) ?_
         rintro _ w13 ⟨m6, l3, S14, rfl⟩
         replace L6 := Mem.tr L6 l3
         clear S13
         replace S14 : St _ ((bx b6 [vU x6.2] 22) :: As2) _ := S14
         have e0 := Option.some.inj hm2
         subst e0
         exact ⟨_, [bx b6 [vU x6.2] 22], L6, S14, rfl, rfl⟩
       have S15 : St _ ((bx b3 [vU x5.1.1, vU x5.1.2.1, vU x5.1.2.2] 139) :: (bx b6 [vU x5.2.2] 22) :: (bx b5 [vI x5.2.1] 3) :: (bx b2 [vU 0, vU 0, vU 0] 123) :: (bx b1 [vU a0.1, vU a0.2.1, vU a0.2.2] 123) :: As) _ := St.perm S12 (List.Perm.cons _ (List.Perm.swap _ _ _))
       clear S12
       obtain ⟨x7, q10, q5⟩ := obind_some q5
       refine s_call Try.call92 (w_hash_state_each (a0 := x5.1) (p1 := (fun (s3 : UInt64) (b9 : Int) (b10 : UInt64) => obind (m_hash_Mix_2 b9 b10 s3) fun x6 => some (x6.1, x6.2))) (s0 := x5.2.2) (R := (fun (s : UInt64) (M : Mem) (X : List Ow) => (X = [bx b6 [vU (s)] 22]))) (X0 := [bx b6 [vU x5.2.2] 22]) (As := (bx b5 [vI x5.2.1] 3) :: (bx b2 [vU 0, vU 0, vU 0] 123) :: (bx b1 [vU a0.1, vU a0.2.1, vU a0.2.2] 123) :: As) S15 (fun {_ _ _ _} _ h => h) rfl @hcb2 rfl q10) rfl ?_
       rintro _ w14 ⟨m7, l4, X4, S16, rfl, rfl⟩
       replace L3 := Mem.tr L3 l4
       clear S15
       refine wpl_nil <| nrmB <| nrm <| wpc_region <| s_addI (m := (i1 : Int)) (n := 1) rfl rfl <| s_mvv (v := vI (w64 ((i1 : Int) + 1))) rfl <| wpl_nil <| nrm ?_
       obtain ⟨m8, l5, S17⟩ := St.drop S16 1
       replace L3 := Mem.tr L3 l5
       clear S16
       replace S17 : St _ ((bx b3 [vU x7.1.1, vU x7.1.2.1, vU x7.1.2.2] 139) :: (bx b5 [vI x5.2.1] 3) :: (bx b2 [vU 0, vU 0, vU 0] 123) :: (bx b1 [vU a0.1, vU a0.2.1, vU a0.2.2] 123) :: As) _ := S17
       obtain ⟨m9, l6, S18⟩ := St.drop S17 1
       replace L3 := Mem.tr L3 l6
       clear S17
       replace S18 : St _ ((bx b3 [vU x7.1.1, vU x7.1.2.1, vU x7.1.2.2] 139) :: (bx b2 [vU 0, vU 0, vU 0] 123) :: (bx b1 [vU a0.1, vU a0.2.1, vU a0.2.2] 123) :: As) _ := S18
       have e0 := Option.some.inj q5
       subst e0
       exact ⟨outP, _, (by omega), ⟨i1 + 1, (x7.1.1, x7.1.2.1, x7.1.2.2), m9, rfl, hlt1, q4, Mem.tr L4 L3, S18, ⟨congrArg (Value.int .i64) (w64_succ hlt1 (by decide)), trivial⟩⟩⟩
     have hlt1 : ¬ i1 < 8 := by have := of_decide_eq_false hc1; omega
     have e := Eq.symm (eachN0_out q3 hlt1)
     subst e
     exact wpc_exit <| thE <| thE <| exB <| nrm <| ⟨outP, m1, Mem.tr L4 L3, S5, trivial⟩
   rintro f2 w15 ho ⟨m11, l7, S19, ha⟩
   obtain ⟨u2, rfl⟩ := fr_of (N := 16) ho ha
   clear ho ha
   replace L1 := Mem.tr L1 l7
   clear S4
   have e0 := Option.some.inj q1
   subst e0
   exact ⟨outP, m11, L1, S19, trivial⟩
 rintro f3 w16 ho ⟨m12, l8, S20, ha⟩
 obtain ⟨u3, rfl⟩ := fr_of (N := 16) ho ha
 replace L0 := Mem.tr L0 l8
 clear S4
 refine wpc_seq <| wpc_region <| s_ld (i := 0) (cs := [vU x1.1, vU x1.2.1, vU x1.2.2]) S20 rfl rfl Try.isAgg139 Try.sizeOf139 rfl (fun h => by cases h) <| s_stL (i := 1) S20 rfl rfl rfl Try.sizeOf123 (oneC rfl (oneC rfl (oneC rfl oneN))) rfl fun w17 S21 => ?_
 replace S21 : St _ ((bx b3 [vU x1.1, vU x1.2.1, vU x1.2.2] 139) :: (bx b2 [vU x1.1, vU x1.2.1, vU x1.2.2] 123) :: (bx b1 [vU a0.1, vU a0.2.1, vU a0.2.2] 123) :: As) _ := S21
 clear S20
 refine wpl_nil <| nrm <| wpc_ret <| outRw fun we hpd => ?_
 replace S21 := St.pd S21 hpd
 have SR := S21
 obtain ⟨m13, l9, S22⟩ := St.drop S21 0
 replace L0 := Mem.tr L0 l9
 replace S22 : St _ ((bx b2 [vU x1.1, vU x1.2.1, vU x1.2.2] 123) :: (bx b1 [vU a0.1, vU a0.2.1, vU a0.2.2] 123) :: As) _ := S22
 obtain ⟨m14, l10, S23⟩ := St.drop S22 0
 replace L0 := Mem.tr L0 l10
 clear S22
 replace S23 : St _ ((bx b1 [vU a0.1, vU a0.2.1, vU a0.2.2] 123) :: As) _ := S23
 obtain ⟨m15, l11, S24⟩ := St.drop S23 0
 replace L0 := Mem.tr L0 l11
 clear S23
 replace S24 : St _ (As) _ := S24
 have e0 := Option.some.inj hm
 subst e0
 exact outR [_] rfl ⟨res_box (i := 1) (off := 0) (cs := [vU x1.1, vU x1.2.1, vU x1.2.2]) SR rfl rfl Try.isAgg123 Try.sizeOf123 rfl (fun h => by cases h), trivial⟩ ⟨_, L0, S24, rfl⟩

def m_hash_Sum_b4 (x6 : List UInt64) (i2 : Int) (s2 : UInt64 × UInt64 × UInt64) : Option (UInt64 × UInt64 × UInt64) :=
  obind (idx x6 (i2 : Int)) fun x9 =>
  obind (idx [s2.1, s2.2.1, s2.2.2] (i2 : Int)) fun x10 =>
  obind (m_field_Add x10 x9) fun x11 =>
  obind (idx [s2.1, s2.2.1, s2.2.2] (i2 : Int)) fun x12 =>
  bnd (if (i2 : Int) = 0 then x11 else s2.1) fun x13 =>
  bnd (if (i2 : Int) = 1 then x11 else s2.2.1) fun x14 =>
  bnd (if (i2 : Int) = 2 then x11 else s2.2.2) fun x15 =>
  some (x13, x14, x15)

def m_hash_Sum_b3  (s1 : (List UInt64) × Bool × UInt64 × UInt64 × UInt64) : Option (((List UInt64) × Bool × UInt64 × UInt64 × UInt64) ⊕ (UInt64 × UInt64 × UInt64)) :=
  if (s1.2.1 || (decide ((s1.1.length : Int) > 0))) = true then
    obind (
      obind (cut s1.1 0 (minI 2 (s1.1.length : Int))) fun x6 =>
      obind (eachN0 (m_hash_Sum_b4 x6) x6.length 0 (s1.2.2.1, s1.2.2.2.1, s1.2.2.2.2)) fun x7 =>
      some (x7.1, x7.2.1, x7.2.2)
    ) fun x5 =>
    obind (cut s1.1 (minI 2 (s1.1.length : Int)) (s1.1.length : Int)) fun x16 =>
    obind (m_hash_Mix x5) fun x17 =>
    some (.inl (x16, false, x17.1, x17.2.1, x17.2.2))
  else
  some (.inr (s1.2.2.1, s1.2.2.2.1, s1.2.2.2.2))

def m_hash_Sum (a0 : List UInt8) : Option (UInt64 × UInt64) :=
  obind (m_field_Of a0) fun x1 =>
  obind (
    obind (iter m_hash_Sum_b3 FUEL (x1, true, 0, 0, (toU (a0.length : Int)))) fun x3 =>
    some (x3.1, x3.2.1, x3.2.2)
  ) fun x2 =>
  some (x2.1, x2.2.1)

theorem w_hash_Sum {m : Mem} {As : List Ow} {w : World} {a0 : List UInt8} {a0v0 : Value} {r : UInt64 × UInt64} (S : St m (As) w) (a0h0 : SlR m a0v0 a0) (hm : m_hash_Sum a0 = some r) :
    CallsR Try.prog 58 #[a0v0] w fun v w' => ∃ (M : Mem), m ≤ M ∧ St M (As) w' ∧ v = .agg #[vU r.1, vU r.2] := by
 unfold m_hash_Sum at hm
 have L0 := Mem.rfl' m
 refine callsR (args := [a0v0]) Try.func58 rfl Try.ntmps58 (Nat.le_of_ble_eq_true rfl) <| wpc_seq <| wpc_region <| s_alloc S Try.zeroValue31 fun b1 w1 S1 => ?_
 replace S1 : St _ ((bx b1 [vU 0, vU 0] 31) :: As) _ := S1
 clear S
 refine wpl_nil <| nrm <| wpc_seq <| wpc_region <| s_mvv (v := a0v0) rfl <| s_lenR (xs := a0) rfl a0h0 Try.underlying27 <| s_convU rfl Try.underlying3 Try.underlying22 <| s_build (parts := [(2, .tmp 11)]) (ps := [(2, vU (toU (a0.length : Int)), [vU (toU (a0.length : Int))])]) (cs := [vU 0, vU 0, vU (toU (a0.length : Int))]) Try.zeroValue123 (BuildPl.arr Try.underlying123 Try.sizeOf22) rfl ⟨rfl, trivial⟩ rfl <| s_alloc S1 Try.zeroValue123 fun b2 w2 S2 => ?_
 replace S2 : St _ ((bx b2 [vU 0, vU 0, vU 0] 123) :: (bx b1 [vU 0, vU 0] 31) :: As) _ := S2
 clear S1
 refine s_stL (i := 0) S2 rfl rfl rfl Try.sizeOf123 (oneC rfl (oneC rfl (oneC rfl oneN))) rfl fun w3 S3 => ?_
 replace S3 : St _ ((bx b2 [vU 0, vU 0, vU (toU (a0.length : Int))] 123) :: (bx b1 [vU 0, vU 0] 31) :: As) _ := S3
 clear S2
 refine wpl_nil <| nrm <| wpc_seq <| wpc_region <| s_mvv (v := a0v0) rfl ?_
 obtain ⟨x1, q1, hm⟩ := obind_some hm
 refine s_call Try.call73 (w_field_Of (a0 := a0) S3 a0h0 q1) rfl ?_
 rintro v1 w4 ⟨m1, l1, _, c1, S4, rfl, h1⟩
 replace L0 := Mem.tr L0 l1
 clear S3
 refine s_asv (v := v1) rfl <| wpl_nil <| nrm ?_
 obtain ⟨x2, q2, hm⟩ := obind_some hm
 have L1 := Mem.rfl' m1
 refine wpc_seq <| wpc_join [4, 5, 6, 7, 8, 15, 16, 17, 18, 19, 20, 21, 22, 23, 24, 25, 26, 27, 28, 29, 30, 31, 32, 33, 34, 35, 36, 37, 38, 39, 40, 41, 42, 43, 44, 45] (fun f' w' => ∃ (M1 : Mem), m1 ≤ M1 ∧ St M1 ((bx b2 [vU x2.1, vU x2.2.1, vU x2.2.2] 123) :: (bx b1 [vU 0, vU 0] 31) :: As) w' ∧ AllAt f' []) ?_ ?_
 · refine wpc_seq <| wpc_region <| s_asv (v := vb true) rfl <| wpl_nil <| nrm ?_
   obtain ⟨x3, q3, q2⟩ := obind_some q2
   have L2 := Mem.rfl' m1
   obtain ⟨m2, l2, h3, S5⟩ := St.rowKeepT (i := 0) S4 rfl h1 rfl
   replace L2 := Mem.tr L2 l2
   clear S4
   refine wpc_join [4, 5, 6, 7, 8, 15, 16, 17, 18, 19, 20, 21, 22, 23, 24, 25, 26, 27, 28, 29, 30, 31, 32, 33, 34, 35, 36, 37, 38, 39, 40, 41, 42, 43, 44, 45] (fun f' w' => ∃ (M2 : Mem), m1 ≤ M2 ∧ St M2 ((bx b2 [vU x3.1, vU x3.2.1, vU x3.2.2] 123) :: (bx b1 [vU 0, vU 0] 31) :: As) w' ∧ AllAt f' []) ?_ ?_
   · refine wpc_block <| wpc_rounds [4, 5, 6, 7, 8, 15, 16, 17, 18, 19, 20, 21, 22, 23, 24, 25, 26, 27, 28, 29, 30, 31, 32, 33, 34, 35, 36, 37, 38, 39, 40, 41, 42, 43, 44, 45] (fun n1 f' w' => ∃ (s1 : (List UInt64) × Bool × UInt64 × UInt64 × UInt64) (m10 : Mem) (v2 : Value), iter m_hash_Sum_b3 n1 s1 = some x3 ∧ m1 ≤ m10 ∧ St m10 ((bx b2 [vU s1.2.2.1, vU s1.2.2.2.1, vU s1.2.2.2.2] 123) :: (bx b1 [vU 0, vU 0] 31) :: As) w' ∧ SlR m10 v2 s1.1 ∧ AllAt f' [(4, v2), (5, vb s1.2.1)]) FUEL ⟨(x1, true, 0, 0, (toU (a0.length : Int))), m2, _, q3, L2, S5, h3, ⟨rfl, rfl, trivial⟩⟩ ?_
     rintro n1 f1 w5 ho ⟨s1, m3, v2, q4, L4, S6, h2, ha⟩
     obtain ⟨u1, rfl⟩ := fr_of (N := 49) ho ha
     clear ho ha
     have L3 := Mem.rfl' m3
     clear S5
     cases n1 with
     | zero => exact (iter_zero q4).elim
     | succ n1 =>
      obtain ⟨y1, q6, q5⟩ := iter_succ q4
      unfold m_hash_Sum_b3 at q6
      refine wpc_seq <| wpc_seq <| wpc_region <| s_mvv (v := vb s1.2.1) rfl <| s_mvv (v := vb s1.2.1) rfl <| wpl_cut 4 [17, 18, 19, 20] (fun f' w' => w' = w5 ∧ AllAt f' [(20, vb (s1.2.1 || (decide ((s1.1.length : Int) > 0))))]) ?_ ?_
      · rcases bool_tf s1.2.1 with hb1 | hb1
        · exact wpl_no (d := 16) rfl rfl (congrArg Value.bool hb1) <| wpl_no (d := 16) rfl rfl (congrArg Value.bool hb1) <| wpl_no (d := 16) rfl rfl (congrArg Value.bool hb1) <| s_pickT (congrArg Value.bool hb1) rfl <| wpl_nil (nrm ⟨outP, rfl, congrArg Value.bool (or_t hb1), trivial⟩)
        · exact wpl_yes (d := 16) rfl rfl (congrArg Value.bool hb1) <| s_mvv (v := v2) rfl <| wpl_yes (d := 16) rfl rfl (congrArg Value.bool hb1) <| s_lenR (xs := s1.1) rfl h2 Try.underlying124 <| wpl_yes (d := 16) rfl rfl (congrArg Value.bool hb1) <| s_gtr (m := (s1.1.length : Int)) (n := 0) rfl rfl <| s_pickF (congrArg Value.bool hb1) rfl <| wpl_nil (nrm ⟨outP, rfl, congrArg Value.bool (or_f hb1), trivial⟩)
      rintro f2 w6 ho ⟨h4, ha⟩
      subst h4
      obtain ⟨u2, rfl⟩ := fr_of (N := 49) ho ha
      refine wpl_nil <| nrm <| wpc_if (t := (s1.2.1 || (decide ((s1.1.length : Int) > 0)))) rfl (fun hc1 => ?_) (fun hc1 => ?_)
      · replace q6 := ifT hc1 q6
        refine wpc_skip <| nrm <| wpc_seq <| wpc_block <| wpc_seq <| wpc_region <| s_mvv (v := v2) rfl <| s_lenR (xs := s1.1) rfl h2 Try.underlying124 <| s_minI (m := 2) rfl rfl <| s_asv (v := vI (minI 2 (s1.1.length : Int))) rfl <| wpl_nil <| nrm ?_
        obtain ⟨x5, q8, q6⟩ := obind_some q6
        have L5 := Mem.rfl' m3
        refine wpc_seq <| wpc_join [7, 8, 24, 25, 26, 27, 28, 29, 30, 31, 32, 33, 34, 35, 36, 37, 38, 39, 40] (fun f' w' => ∃ (M3 : Mem), m3 ≤ M3 ∧ St M3 ((bx b2 [vU x5.1, vU x5.2.1, vU x5.2.2] 123) :: (bx b1 [vU 0, vU 0] 31) :: As) w' ∧ AllAt f' []) ?_ ?_
        · refine wpc_seq <| wpc_region <| s_mvv (v := v2) rfl <| s_mvv (v := vI (minI 2 (s1.1.length : Int))) rfl ?_
          obtain ⟨x6, q9, q8⟩ := obind_some q8
          refine s_cut (ys := x6) (l := 0) (h := (minI 2 (s1.1.length : Int))) rfl h2 Try.underlying124 Try.sizeOf22 (.inl ⟨rfl, rfl⟩) (.inr ⟨_, rfl⟩) (.inl rfl) q9 fun v3 h5 => s_lenR (xs := x6) rfl h5 Try.underlying124 <| s_mvv (v := vI 0) rfl <| wpl_nil <| nrm ?_
          obtain ⟨x7, q10, q8⟩ := obind_some q8
          have L6 := Mem.rfl' m3
          refine wpc_join [7, 8, 28, 29, 30, 31, 32, 33, 34, 35, 36, 37, 38, 39, 40] (fun f' w' => ∃ (M4 : Mem), m3 ≤ M4 ∧ St M4 ((bx b2 [vU x7.1, vU x7.2.1, vU x7.2.2] 123) :: (bx b1 [vU 0, vU 0] 31) :: As) w' ∧ AllAt f' []) ?_ ?_
          · refine wpc_block <| wpc_rounds [7, 8, 28, 29, 30, 31, 32, 33, 34, 35, 36, 37, 38, 39, 40] (fun n2 f' w' => ∃ (i2 : Nat) (s2 : UInt64 × UInt64 × UInt64) (m6 : Mem), n2 = x6.length - i2 ∧ i2 ≤ x6.length ∧ eachN0 (m_hash_Sum_b4 x6) (x6.length - i2) (i2 : Int) s2 = some x7 ∧ m3 ≤ m6 ∧ St m6 ((bx b2 [vU s2.1, vU s2.2.1, vU s2.2.2] 123) :: (bx b1 [vU 0, vU 0] 31) :: As) w' ∧ AllAt f' [(28, vI (i2 : Int))]) x6.length ⟨0, (s1.2.2.1, s1.2.2.2.1, s1.2.2.2.2), m3, rfl, Nat.zero_le _, q10, L6, S6, ⟨rfl, trivial⟩⟩ ?_
            rintro n2 f3 w7 ho ⟨i2, s2, m4, hn, hi, q11, L8, S7, ha⟩
            obtain ⟨u3, rfl⟩ := fr_of (N := 49) ho ha
            clear ho ha
            replace h2 := h2.up L8
            replace h5 := h5.up L8
            have L7 := Mem.rfl' m4
            clear S6
            refine wpc_seq <| wpc_region <| s_lss (m := (i2 : Int)) (n := (x6.length : Int)) rfl rfl <| wpl_nil <| nrm <| wpc_seq <| wpc_if (t := decide ((i2 : Int) < (x6.length : Int))) rfl (fun hc2 => ?_) (fun hc2 => ?_)
            · have hlt2 : i2 < x6.length := by have := of_decide_eq_true hc2; omega
              obtain ⟨y2, q13, q12⟩ := eachN0_in q11 hlt2
              unfold m_hash_Sum_b4 at q13
              refine wpc_skip <| nrm <| wpc_seq <| wpc_block <| wpc_seq <| wpc_region <| s_mvv (v := vI (i2 : Int)) rfl ?_
              obtain ⟨x9, q15, q13⟩ := obind_some q13
              refine s_idx (q := x9) rfl rfl h5 q15 Try.underlying124 Try.sizeOf22 fun p1 c2 h6 r2 => ?_
              obtain rfl : c2 = [vU x9] := r2
              refine s_ldM (cs := [vU x9]) S7 rfl h6 rfl Try.isAgg22 Try.sizeOf22 (fun _ => rfl) <| s_asv (v := vI (i2 : Int)) rfl <| s_asv (v := vU x9) rfl <| wpl_nil <| nrm <| wpc_region <| s_mvv (v := vI (i2 : Int)) rfl <| s_mvv (v := vI (i2 : Int)) rfl ?_
              obtain ⟨x10, q16, q13⟩ := obind_some q13
              refine s_idxA (i := (i2 : Int)) rfl rfl Try.underlying123 Try.sizeOf22 (idx_rng q16).1 (idx_rng q16).2 <| s_ld (i := 0) (off := 0 + (i2 : Int).toNat * 1) (cs := [vU x10]) S7 rfl rfl Try.isAgg22 Try.sizeOf22 (by rcases idx3 q16 with ⟨h, h'⟩ | ⟨h, h'⟩ | ⟨h, h'⟩ <;> (rw [h, h']; rfl)) (fun _ => rfl) <| s_mvv (v := vU x9) rfl ?_
              obtain ⟨x11, q17, q13⟩ := obind_some q13
              refine s_call Try.call74 (w_field_Add (a0 := x10) (a1 := x9) S7  q17) rfl ?_
              rintro _ w8 ⟨m5, l3, S8, rfl⟩
              replace h5 := h5.up l3
              replace L7 := Mem.tr L7 l3
              clear S7
              obtain ⟨x12, q18, q13⟩ := obind_some q13
              refine s_idxA (i := (i2 : Int)) rfl rfl Try.underlying123 Try.sizeOf22 (idx_rng q18).1 (idx_rng q18).2 ?_
              obtain ⟨x13, q19, q13⟩ := bnd_eq q13
              obtain ⟨x14, q20, q13⟩ := bnd_eq q13
              obtain ⟨x15, q21, q13⟩ := bnd_eq q13
              refine s_st (i := 0) (off := 0 + (i2 : Int).toNat * 1) S8 rfl rfl rfl Try.sizeOf22 (OneL.all (oneC rfl oneN)) (by rcases idx3 q18 with ⟨h, h'⟩ | ⟨h, h'⟩ | ⟨h, h'⟩ <;> (rw [h]; exact Nat.le_of_ble_eq_true rfl)) fun w9 S9 => ?_
              replace S9 := St.cellsTo (i := 0) (l' := [vU x13, vU x14, vU x15]) S9 (by rcases idx3 q18 with ⟨h, h'⟩ | ⟨h, h'⟩ | ⟨h, h'⟩ <;> (simp only [q19, q20, q21, h]; rfl)) rfl
              replace S9 : St _ ((bx b2 [vU x13, vU x14, vU x15] 123) :: (bx b1 [vU 0, vU 0] 31) :: As) _ := S9
              clear S8
              refine wpl_nil <| nrmB <| nrm <| wpc_region <| s_addI (m := (i2 : Int)) (n := 1) rfl rfl <| s_mvv (v := vI (w64 ((i2 : Int) + 1))) rfl <| wpl_nil <| nrm ?_
              have e0 := Option.some.inj q13
              subst e0
              exact ⟨outP, _, (by omega), ⟨i2 + 1, (x13, x14, x15), m5, rfl, hlt2, q12, Mem.tr L8 L7, S9, ⟨congrArg (Value.int .i64) (w64_succ hlt2 (SlR.le h5)), trivial⟩⟩⟩
            have hlt2 : ¬ i2 < x6.length := by have := of_decide_eq_false hc2; omega
            have e := Eq.symm (eachN0_out q11 hlt2)
            subst e
            exact wpc_exit <| thE <| thE <| exB <| nrm <| ⟨outP, m4, Mem.tr L8 L7, S7, trivial⟩
          rintro f4 w10 ho ⟨m7, l4, S10, ha⟩
          obtain ⟨u4, rfl⟩ := fr_of (N := 49) ho ha
          clear ho ha
          replace L5 := Mem.tr L5 l4
          clear S6
          have e0 := Option.some.inj q8
          subst e0
          exact ⟨outP, m7, L5, S10, trivial⟩
        rintro f5 w11 ho ⟨m8, l5, S11, ha⟩
        obtain ⟨u5, rfl⟩ := fr_of (N := 49) ho ha
        replace h2 := h2.up l5
        replace L3 := Mem.tr L3 l5
        clear S6
        refine wpc_seq <| wpc_region <| s_mvv (v := v2) rfl <| s_mvv (v := vI (minI 2 (s1.1.length : Int))) rfl ?_
        obtain ⟨x16, q22, q6⟩ := obind_some q6
        refine s_cut (ys := x16) (l := (minI 2 (s1.1.length : Int))) (h := (s1.1.length : Int)) rfl h2 Try.underlying124 Try.sizeOf22 (.inr ⟨_, rfl⟩) (.inl ⟨rfl, rfl⟩) (.inl rfl) q22 fun v4 h7 => s_asv (v := v4) rfl <| wpl_nil <| nrm <| wpc_region <| s_ld (i := 0) (cs := [vU x5.1, vU x5.2.1, vU x5.2.2]) S11 rfl rfl Try.isAgg123 Try.sizeOf123 rfl (fun h => by cases h) ?_
        obtain ⟨x17, q23, q6⟩ := obind_some q6
        refine s_call Try.call75 (w_hash_Mix (a0 := x5) S11  q23) rfl ?_
        rintro _ w12 ⟨m9, l6, S12, rfl⟩
        replace h7 := h7.up l6
        replace L3 := Mem.tr L3 l6
        clear S11
        refine s_stL (i := 0) S12 rfl rfl rfl Try.sizeOf123 (oneC rfl (oneC rfl (oneC rfl oneN))) rfl fun w13 S13 => ?_
        replace S13 : St _ ((bx b2 [vU x17.1, vU x17.2.1, vU x17.2.2] 123) :: (bx b1 [vU 0, vU 0] 31) :: As) _ := S13
        clear S12
        refine wpl_nil <| nrmB <| nrm <| wpc_region <| s_asv (v := vb false) rfl <| wpl_nil <| nrm ?_
        have e0 := Option.some.inj q6
        subst e0
        rcases q5 with ⟨sn, e, q5'⟩ | e
        · cases e
          exact ⟨outP, _, Nat.lt_succ_self _, ⟨_, m9, _, q5', Mem.tr L4 L3, S13, h7, ⟨rfl, rfl, trivial⟩⟩⟩
        · cases e
      replace q6 := ifF hc1 q6
      refine wpc_exit <| thE <| thE <| exB <| nrm ?_
      have e0 := Option.some.inj q6
      subst e0
      rcases q5 with ⟨sn, e, _⟩ | e
      · cases e
      · cases e
        exact ⟨outP, m3, Mem.tr L4 L3, S6, trivial⟩
   rintro f6 w14 ho ⟨m11, l7, S14, ha⟩
   obtain ⟨u6, rfl⟩ := fr_of (N := 49) ho ha
   clear ho ha
   replace L1 := Mem.tr L1 l7
   clear S5
   have e0 := Option.some.inj q2
   subst e0
   exact ⟨outP, m11, L1, S14, trivial⟩
 rintro f7 w15 ho ⟨m12, l8, S15, ha⟩
 obtain ⟨u7, rfl⟩ := fr_of (N := 49) ho ha
 replace L0 := Mem.tr L0 l8
 clear S4
 refine wpc_seq <| wpc_region <| s_sliceA (k := 2) (n := 3) (sz := 1) rfl Try.underlying123 Try.sizeOf22 (.inr ⟨_, rfl⟩) (by decide) <| s_toArr rfl Try.underlying31 (by decide) <| s_ld (i := 0) (cs := [vU x2.1, vU x2.2.1]) S15 rfl rfl Try.isAgg31 Try.sizeOf31 rfl (fun h => by cases h) <| s_stL (i := 1) S15 rfl rfl rfl Try.sizeOf31 (oneC rfl (oneC rfl oneN)) rfl fun w16 S16 => ?_
 replace S16 : St _ ((bx b2 [vU x2.1, vU x2.2.1, vU x2.2.2] 123) :: (bx b1 [vU x2.1, vU x2.2.1] 31) :: As) _ := S16
 clear S15
 refine wpl_nil <| nrm <| wpc_ret <| outRw fun we hpd => ?_
 replace S16 := St.pd S16 hpd
 have SR := S16
 obtain ⟨m13, l9, S17⟩ := St.drop S16 0
 replace L0 := Mem.tr L0 l9
 replace S17 : St _ ((bx b1 [vU x2.1, vU x2.2.1] 31) :: As) _ := S17
 obtain ⟨m14, l10, S18⟩ := St.drop S17 0
 replace L0 := Mem.tr L0 l10
 clear S17
 replace S18 : St _ (As) _ := S18
 have e0 := Option.some.inj hm
 subst e0
 exact outR [_] rfl ⟨res_box (i := 1) (off := 0) (cs := [vU x2.1, vU x2.2.1]) SR rfl rfl Try.isAgg31 Try.sizeOf31 rfl (fun h => by cases h), trivial⟩ ⟨_, L0, S18, rfl⟩

def m_hash_Tagged_b2  (i1 : Int) (x4 : List UInt8) (s1 : (List UInt8)) : Option ((List UInt8)) :=
  obind (m_hash_put s1 (toU (x4.length : Int)) 4) fun x5 =>
  obind (app 1 x5 x4) fun x6 =>
  some x6

def m_hash_Tagged (a0 : ByteArray) (a1 : List (List UInt8)) : Option (UInt64 × UInt64) :=
  obind (app 1 ([(toB (a0.size : Int))] : List UInt8) a0.data.toList) fun x1 =>
  obind (
    obind (each0 m_hash_Tagged_b2 a1 0 x1) fun x3 =>
    some x3
  ) fun x2 =>
  obind (m_hash_Sum x2) fun x7 =>
  some x7

theorem w_hash_Tagged {m : Mem} {As : List Ow} {w : World} {a0 : ByteArray} {a1 : List (List UInt8)} {a1v0 : Value} {r : UInt64 × UInt64} (S : St m (As) w) (a1h0 : SlR m a1v0 a1) (hm : m_hash_Tagged a0 a1 = some r) :
    CallsR Try.prog 35 #[vS a0, a1v0] w fun v w' => ∃ (M : Mem), m ≤ M ∧ St M (As) w' ∧ v = .agg #[vU r.1, vU r.2] := by
 unfold m_hash_Tagged at hm
 have L0 := Mem.rfl' m
 refine callsR (args := [vS a0, a1v0]) Try.func35 rfl Try.ntmps35 (Nat.le_of_ble_eq_true rfl) <| wpc_seq <| wpc_region <| s_alloc S Try.zeroValue31 fun b1 w1 S1 => ?_
 replace S1 : St _ ((bx b1 [vU 0, vU 0] 31) :: As) _ := S1
 clear S
 refine wpl_nil <| nrm <| wpc_seq <| wpc_region <| s_mvv (v := vS a0) rfl <| s_lenS (s := a0) rfl Try.underlying9 <| s_convB rfl Try.underlying3 Try.underlying5 <| s_litOC (parts := [.tmp 10]) (vs := [vB (toB (a0.size : Int))]) (cls := [[vB (toB (a0.size : Int))]]) (n := 1) (sz := 1) S1 Try.underlying27 Try.sizeOf5 Try.zeroValue5 rfl ⟨rfl, trivial⟩ rfl rfl (by decide) (by decide) fun v1 w2 S2 => ?_
 have h1 : RepL m [vB (toB (a0.size : Int))] ([(toB (a0.size : Int))] : List UInt8) := (RepL.cons (c := [vB (toB (a0.size : Int))]) (x := (toB (a0.size : Int))) rfl RepL.nil)
 replace S2 : St _ ((row 1 v1 [vB (toB (a0.size : Int))] ([(toB (a0.size : Int))] : List UInt8).length) :: (bx b1 [vU 0, vU 0] 31) :: As) _ := S2
 clear S1
 refine s_mvv (v := vS a0) rfl ?_
 obtain ⟨x1, q1, hm⟩ := obind_some hm
 refine s_appS (i := 0) (zs := x1) (bytes := 1) (ti := Try.t5) S2 rfl rfl h1 rfl rfl q1 Try.underlying27 Try.underlying9 Try.type5 rfl rfl rfl rfl fun v2 c1 w3 S3 h2 => ?_
 replace S3 : St _ ((row 1 v2 c1 x1.length) :: (bx b1 [vU 0, vU 0] 31) :: As) _ := S3
 clear S2
 refine s_asv (v := v2) rfl <| wpl_nil <| nrm ?_
 obtain ⟨x2, q2, hm⟩ := obind_some hm
 have L1 := Mem.rfl' m
 refine wpc_seq <| wpc_join [5, 7, 14, 15, 16, 17, 18, 19, 20, 21, 22, 23, 24, 25, 26, 27] (fun f' w' => ∃ (M1 : Mem) (v3 : Value) (c2 : List Value), m ≤ M1 ∧ St M1 ((row 1 v3 c2 x2.length) :: (bx b1 [vU 0, vU 0] 31) :: As) w' ∧ RepL M1 c2 x2 ∧ AllAt f' [(5, v3)]) ?_ ?_
 · refine wpc_seq <| wpc_region <| s_mvv (v := a1v0) rfl <| s_lenR (xs := a1) rfl a1h0 Try.underlying101 <| s_mvv (v := vI 0) rfl <| wpl_nil <| nrm ?_
   obtain ⟨x3, q3, q2⟩ := obind_some q2
   have L2 := Mem.rfl' m
   refine wpc_join [5, 7, 16, 17, 18, 19, 20, 21, 22, 23, 24, 25, 26, 27] (fun f' w' => ∃ (M2 : Mem) (v5 : Value) (c4 : List Value), m ≤ M2 ∧ St M2 ((row 1 v5 c4 x3.length) :: (bx b1 [vU 0, vU 0] 31) :: As) w' ∧ RepL M2 c4 x3 ∧ AllAt f' [(5, v5)]) ?_ ?_
   · refine wpc_block <| wpc_rounds [5, 7, 16, 17, 18, 19, 20, 21, 22, 23, 24, 25, 26, 27] (fun n1 f' w' => ∃ (i1 : Nat) (s1 : (List UInt8)) (m3 : Mem) (v4 : Value) (c3 : List Value), n1 = a1.length - i1 ∧ i1 ≤ a1.length ∧ each0 m_hash_Tagged_b2 (a1.drop i1) (i1 : Int) s1 = some x3 ∧ m ≤ m3 ∧ St m3 ((row 1 v4 c3 s1.length) :: (bx b1 [vU 0, vU 0] 31) :: As) w' ∧ RepL m3 c3 s1 ∧ AllAt f' [(16, vI (i1 : Int)), (5, v4)]) a1.length ⟨0, x1, m, _, _, rfl, Nat.zero_le _, q3, L2, S3, h2, ⟨rfl, rfl, trivial⟩⟩ ?_
     rintro n1 f1 w4 ho ⟨i1, s1, m1, v4, c3, hn, hi, q4, L4, S4, h4, ha⟩
     obtain ⟨u1, rfl⟩ := fr_of (N := 30) ho ha
     clear ho ha
     replace a1h0 := a1h0.up L4
     have L3 := Mem.rfl' m1
     clear S3
     refine wpc_seq <| wpc_region <| s_lss (m := (i1 : Int)) (n := (a1.length : Int)) rfl rfl <| wpl_nil <| nrm <| wpc_seq <| wpc_if (t := decide ((i1 : Int) < (a1.length : Int))) rfl (fun hc1 => ?_) (fun hc1 => ?_)
     · have hlt1 : i1 < a1.length := by have := of_decide_eq_true hc1; omega
       obtain ⟨x4, y1, q7, q6, q5⟩ := each0_in q4 hlt1
       unfold m_hash_Tagged_b2 at q6
       refine wpc_skip <| nrm <| wpc_seq <| wpc_block <| wpc_seq <| wpc_region <| s_idx (q := x4) rfl rfl a1h0 q7 Try.underlying101 Try.sizeOf27 fun p1 c5 h6 r5 => ?_
       obtain ⟨v6, rfl, h7⟩ := r5
       refine s_ldM (cs := [v6]) S4 rfl h6 rfl Try.isAgg27 Try.sizeOf27 (fun _ => rfl) <| s_asv (v := v6) rfl <| wpl_nil <| nrm <| wpc_region <| s_mvv (v := v4) rfl <| s_mvv (v := v6) rfl <| s_lenR (xs := x4) rfl h7 Try.underlying27 <| s_convU rfl Try.underlying3 Try.underlying22 ?_
       obtain ⟨x5, q8, q6⟩ := obind_some q6
       refine s_call Try.call57 (w_hash_put (a0 := s1) (a1 := (toU (x4.length : Int))) (a2 := 4) S4 h4 q8) rfl ?_
       rintro v7 w5 ⟨m2, l1, _, c6, S5, rfl, h8⟩
       replace a1h0 := a1h0.up l1
       replace h7 := h7.up l1
       replace L3 := Mem.tr L3 l1
       clear S4
       refine s_mvv (v := v6) rfl ?_
       obtain ⟨x6, q9, q6⟩ := obind_some q6
       refine s_app (i := 0) (zs := x6) (bytes := 1) (ti := Try.t5) S5 rfl rfl h8 rfl rfl h7 q9 Try.underlying27 Try.type5 rfl rfl rfl rfl fun v8 c7 w6 S6 h9 => ?_
       replace S6 : St _ ((row 1 v8 c7 x6.length) :: (bx b1 [vU 0, vU 0] 31) :: As) _ := S6
       clear S5
       refine s_asv (v := v8) rfl <| wpl_nil <| nrmB <| nrm <| wpc_region <| s_addI (m := (i1 : Int)) (n := 1) rfl rfl <| s_mvv (v := vI (w64 ((i1 : Int) + 1))) rfl <| wpl_nil <| nrm ?_
       have e0 := Option.some.inj q6
       subst e0
       exact ⟨outP, _, (by omega), ⟨i1 + 1, x6, m2, _, _, rfl, hlt1, q5, Mem.tr L4 L3, S6, h9, ⟨congrArg (Value.int .i64) (w64_succ hlt1 (SlR.le a1h0)), rfl, trivial⟩⟩⟩
     have hlt1 : ¬ i1 < a1.length := by have := of_decide_eq_false hc1; omega
     have e := Eq.symm (each0_out q4 hlt1)
     subst e
     exact wpc_exit <| thE <| thE <| exB <| nrm <| ⟨outP, m1, _, _, Mem.tr L4 L3, S4, h4, ⟨rfl, trivial⟩⟩
   rintro f2 w7 ho ⟨m4, v5, c4, l2, S7, h5, ha⟩
   obtain ⟨u2, rfl⟩ := fr_of (N := 30) ho ha
   clear ho ha
   replace L1 := Mem.tr L1 l2
   clear S3
   have e0 := Option.some.inj q2
   subst e0
   exact ⟨outP, m4, _, _, L1, S7, h5, ⟨rfl, trivial⟩⟩
 rintro f3 w8 ho ⟨m5, v3, c2, l3, S8, h3, ha⟩
 obtain ⟨u3, rfl⟩ := fr_of (N := 30) ho ha
 replace L0 := Mem.tr L0 l3
 clear S3
 refine wpc_seq <| wpc_region <| s_mvv (v := v3) rfl ?_
 obtain ⟨m6, l4, h10, S9⟩ := St.rowKeepT (i := 0) S8 rfl h3 rfl
 replace L0 := Mem.tr L0 l4
 clear S8
 obtain ⟨x7, q10, hm⟩ := obind_some hm
 refine s_call Try.call58 (w_hash_Sum (a0 := x2) S9 h10 q10) rfl ?_
 rintro _ w9 ⟨m7, l5, S10, rfl⟩
 replace L0 := Mem.tr L0 l5
 clear S9
 refine s_stL (i := 0) S10 rfl rfl rfl Try.sizeOf31 (oneC rfl (oneC rfl oneN)) rfl fun w10 S11 => ?_
 replace S11 : St _ ((bx b1 [vU x7.1, vU x7.2] 31) :: As) _ := S11
 clear S10
 refine wpl_nil <| nrm <| wpc_ret <| outRw fun we hpd => ?_
 replace S11 := St.pd S11 hpd
 have SR := S11
 obtain ⟨m8, l6, S12⟩ := St.drop S11 0
 replace L0 := Mem.tr L0 l6
 replace S12 : St _ (As) _ := S12
 have e0 := Option.some.inj hm
 subst e0
 exact outR [_] rfl ⟨res_box (i := 0) (off := 0) (cs := [vU x7.1, vU x7.2]) SR rfl rfl Try.isAgg31 Try.sizeOf31 rfl (fun h => by cases h), trivial⟩ ⟨_, L0, S12, rfl⟩

def m_merkle_Leaf (a0 : List UInt8) : Option (UInt64 × UInt64) :=
  obind (m_hash_Tagged (⟨#[108, 101, 97, 102]⟩ : ByteArray) ([a0] : List (List UInt8))) fun x1 =>
  some x1

theorem w_merkle_Leaf {m : Mem} {As : List Ow} {w : World} {a0 : List UInt8} {a0v0 : Value} {r : UInt64 × UInt64} (S : St m (As) w) (a0h0 : SlR m a0v0 a0) (hm : m_merkle_Leaf a0 = some r) :
    CallsR Try.prog 13 #[a0v0] w fun v w' => ∃ (M : Mem), m ≤ M ∧ St M (As) w' ∧ v = .agg #[vU r.1, vU r.2] := by
 unfold m_merkle_Leaf at hm
 have L0 := Mem.rfl' m
 refine callsR (args := [a0v0]) Try.func13 rfl Try.ntmps13 (Nat.le_of_ble_eq_true rfl) <| wpc_seq <| wpc_region <| s_alloc S Try.zeroValue31 fun b1 w1 S1 => ?_
 replace S1 : St _ ((bx b1 [vU 0, vU 0] 31) :: As) _ := S1
 clear S
 refine wpl_nil <| nrm <| wpc_seq <| wpc_region <| s_mvv (v := a0v0) rfl <| s_litC (parts := [.tmp 3]) (vs := [a0v0]) (cls := [[a0v0]]) (xs := ([a0] : List (List UInt8))) (n := 1) S1 Try.underlying101 Try.sizeOf27 Try.zeroValue27 rfl ⟨SlR.cells a0h0, trivial⟩ (RepL.cons (c := [a0v0]) (x := a0) ⟨_, rfl, a0h0⟩ RepL.nil) rfl rfl rfl (by decide) (by decide) fun v1 m1 w2 l1 S2 h1 => ?_
 replace L0 := Mem.tr L0 l1
 clear S1
 obtain ⟨x1, q1, hm⟩ := obind_some hm
 refine s_call Try.call35 (w_hash_Tagged (a0 := (⟨#[108, 101, 97, 102]⟩ : ByteArray)) (a1 := ([a0] : List (List UInt8))) S2 h1 q1) rfl ?_
 rintro _ w3 ⟨m2, l2, S3, rfl⟩
 replace L0 := Mem.tr L0 l2
 clear S2
 refine s_stL (i := 0) S3 rfl rfl rfl Try.sizeOf31 (oneC rfl (oneC rfl oneN)) rfl fun w4 S4 => ?_
 replace S4 : St _ ((bx b1 [vU x1.1, vU x1.2] 31) :: As) _ := S4
 clear S3
 refine wpl_nil <| nrm <| wpc_ret <| outRw fun we hpd => ?_
 replace S4 := St.pd S4 hpd
 have SR := S4
 obtain ⟨m3, l3, S5⟩ := St.drop S4 0
 replace L0 := Mem.tr L0 l3
 replace S5 : St _ (As) _ := S5
 have e0 := Option.some.inj hm
 subst e0
 exact outR [_] rfl ⟨res_box (i := 0) (off := 0) (cs := [vU x1.1, vU x1.2]) SR rfl rfl Try.isAgg31 Try.sizeOf31 rfl (fun h => by cases h), trivial⟩ ⟨_, L0, S5, rfl⟩

end Go.Proofs.Ytemiampgjgenhaa
