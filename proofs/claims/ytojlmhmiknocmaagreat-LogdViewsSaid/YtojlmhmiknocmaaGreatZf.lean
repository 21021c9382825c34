/- The walks of some functions, by the executor, written by program. Conditions: none. -/
import Derived.Test.YtojlmhmiknocmaaGreatZe
set_option linter.unusedSimpArgs false
set_option linter.unusedVariables false
set_option maxHeartbeats 20000000
set_option maxRecDepth 100000
namespace Go.Proofs.YtojlmhmiknocmaaGreat
open Go Go.Gw Go.Ax Tryz
def m_hash_put_b1 (a1 : UInt64) (s1 : (List UInt8) × Int) : Option (((List UInt8) × Int) ⊕ ((List UInt8))) :=
  if (decide (s1.2 ≥ 0)) = true then
    if (0 : Int) ≤ (w64 (8 * s1.2)) then
      obind (app 1 s1.1 ([(toB ((shrU a1 ((w64 (8 * s1.2)).toNat)).toNat : Int))] : List UInt8)) fun x4 =>
      some (.inl (x4, (w64 (s1.2 - 1))))
    else none
  else
  some (.inr s1.1)
def m_hash_put (a0 : List UInt8) (a1 : UInt64) (a2 : Int) : Option (List UInt8) :=
  obind (
    obind (iter (m_hash_put_b1 a1) FUEL (a0, (w64 (a2 - 1)))) fun x2 =>
    some x2
  ) fun x1 =>
  some x1
theorem w_hash_put {a0 : List UInt8} {a1 : UInt64} {a2 : Int} {r : List UInt8} (hm : m_hash_put a0 a1 a2 = some r) : Sp prog 98 [.ow 0, .d (.u a1), .d (.i a2)] [.row 0 1 _ eB a0] 1 (is (.ow 1) [.row 1 1 _ eB r] 2) :=
  sp call98 func98 rfl ntmps98 rfl fun D0 As η0 m0 hd => by
    unfold m_hash_put at hm
    obtain ⟨x1, q1, hm⟩ := obind_some hm
    obtain ⟨x2, q2, q1⟩ := obind_some q1
    refine gjU 0 (fun (_ : Unit) => ⟨[(0, .ow 1)], [(0, .row 1 1 _ eB x1)], [], 2⟩) (fun _ => True) (by kernel_rfl) (fun Jp bk1 => ?_) fun _ _ => ?_
    · refine gjU 0 (fun (_ : Unit) => ⟨[(0, .ow 1)], [(0, .row 1 1 _ eB x2)], [], 2⟩) (fun _ => True) (by kernel_rfl) (fun Jp bk2 => ?_) fun _ _ => ?_
      · refine gl hd (fun (p : Nat × ((List UInt8) × Int)) => let (p0, p_0, p_1) := p; ⟨[(0, .ow 1), (1, .d (.u a1)), (2, .d (.i p_1))], [(0, .row 1 1 _ eB p_0)], [], 2⟩) (fun p => iter (m_hash_put_b1 a1) p.1 p.2 = some x2) (fun p => p.1) (FUEL, (a0, (w64 (a2 - 1)))) q2 (by kernel_rfl) ?_
        rintro ⟨n1, s1⟩ q3 Jl bl1
        cases n1 with
        | zero => exact (iter_zero q3).elim
        | succ n1 =>
          obtain ⟨y1, q5, q4⟩ := iter_succ q3
          unfold m_hash_put_b1 at q5
          refine gi q5 (by kernel_rfl) (fun hc1 q5 => ?_) fun hc1 q5 => ?_
          · skip
            obtain ⟨q7, q5⟩ := if_some q5
            refine gsh (r := .u (shrU a1 ((w64 (8 * s1.2)).toNat))) (fun h => q7) (by kernel_rfl) ?_
            refine glitF (k := 1) eB ([(toB ((shrU a1 ((w64 (8 * s1.2)).toNat)).toNat : Int))] : List UInt8) (fun _ => rfl) (by kernel_rfl) ?_
            obtain ⟨x4, q8, q5⟩ := obind_some q5
            refine gapp (k := 1) (E := eB) (fun _ => rfl) q8 (by kernel_rfl) ?_
            have e0 := Option.some.inj q5
            subst e0
            rcases q4 with ⟨sn, e, q4'⟩ | e
            · have e := Sum.inl.inj e
              subst e
              exact gb bl1 hd (n1, _) ⟨q4', Nat.lt_succ_self _⟩ (by kernel_rfl)
            cases sum_lr e
          have e0 := Option.some.inj q5
          subst e0
          rcases q4 with ⟨sn, e, _⟩ | e
          · cases sum_rl e
          have e := Sum.inr.inj e
          subst e
          exact gb bk2 hd () trivial (by kernel_rfl)
      have e0 := Option.some.inj q1
      subst e0
      exact gb bk1 hd () trivial (by kernel_rfl)
    have e0 := Option.some.inj hm
    subst e0
    exact gend hd (by kernel_rfl)
def m_slices_Chunk_byte_byte_1_b1 {σ : Type} (p0 : σ → (List UInt8) → Option (Bool × σ)) (k0 : List UInt8) (k1 : Int) (s1 : Int × σ) : Option ((Int × σ) ⊕ ((σ) ⊕ ((List UInt8) × Int × σ))) :=
  if (decide (s1.1 < (k0.length : Int))) = true then
    obind (cut k0 s1.1 (k0.length : Int)) fun x3 =>
    obind (cut k0 s1.1 (w64 (s1.1 + (minI k1 (x3.length : Int))))) fun x4 =>
    obind (p0 s1.2 x4) fun x5 =>
    if (!x5.1) = true then
      some (.inr (.inr (k0, k1, x5.2)))
    else
    some (.inl ((w64 (s1.1 + k1)), x5.2))
  else
  some (.inr (.inl s1.2))
def m_slices_Chunk_byte_byte_1 {σ : Type} (p0 : σ → (List UInt8) → Option (Bool × σ)) (k0 : List UInt8) (k1 : Int) (s0 : σ) : Option ((List UInt8) × Int × σ) :=
  obind (iter (m_slices_Chunk_byte_byte_1_b1 p0 k0 k1) FUEL (0, s0)) fun x1 => match x1 with
  | .inr r => some r
  | .inl y1 =>
  some (k0, k1, y1)
theorem w_slices_Chunk_byte_byte_1 {m : Mem} {As : List Ow} {w : World} {σ : Type} {R : σ → Mem → List Ow → Prop} {p0 : σ → (List UInt8) → Option (Bool × σ)} {f0 : Value} {kb0 : Nat} {k0 : List UInt8} {k0v0 : Value} {kb1 : Nat} {k1 : Int} {s0 : σ} {X0 : List Ow} {r : (List UInt8) × Int × σ} (S : St m ((bx kb0 [k0v0] 51) :: (bx kb1 [vI k1] 3) :: (X0 ++ As)) w) (hup : ∀ {s M M' X}, M ≤ M' → R s M X → R s M' X) (hX0 : R s0 m X0) (cb0 : ∀ {m' : Mem} {As' : List Ow} {w' : World} {s : σ} {X : List Ow} {b0 : List UInt8} {b0v0 : Value} {r : Bool × σ}, St m' (X ++ As') w' → R s m' X → SlR m' b0v0 b0 → p0 s b0 = some r → CallV Tryz.prog f0 [b0v0] w' fun v w'' => ∃ (M : Mem) (X' : List Ow), m' ≤ M ∧ St M (X' ++ As') w'' ∧ R r.2 M X' ∧ v = vb r.1) (fc0 : f0.cells = #[f0]) (k0h0 : SlR m k0v0 k0) (hm : m_slices_Chunk_byte_byte_1 p0 k0 k1 s0 = some r) :
    CallsR Tryz.prog 147 #[f0, pt kb0 0, pt kb1 0] w fun v w' => ∃ (M : Mem), m ≤ M ∧ ∃ (rb0_0 : Value) (X : List Ow), St M ((bx kb0 [rb0_0] 51) :: (bx kb1 [vI r.2.1] 3) :: (X ++ As)) w' ∧ v = .tuple #[] ∧ SlR M rb0_0 r.1 ∧ R r.2.2 M X := by
 unfold m_slices_Chunk_byte_byte_1 at hm
 have L0 := Mem.rfl' m
 refine callsR (args := [f0, pt kb0 0, pt kb1 0]) func147 rfl ntmps147 (nb rfl) <| ws <| s_asv (v := vI 0) rfl <| wpl_nil <| nrm ?_
 obtain ⟨x1, q1, hm⟩ := obind_some hm
 have L1 := Mem.rfl' m
 refine wpc_wrap <| wpc_join (rg 4 27) (fun f' w' => ∃ (M1 : Mem) (y1 : σ) (X2 : List Ow), x1 = .inl y1 ∧ m ≤ M1 ∧ St M1 ((bx kb0 [k0v0] 51) :: (bx kb1 [vI k1] 3) :: (X2 ++ As)) w' ∧ R y1 M1 X2 ∧ AllAt f' []) ?_ ?_
 · refine wpc_block <| wpc_rounds (rg 4 27) (fun n1 f' w' => ∃ (s1 : Int × σ) (m9 : Mem) (X1 : List Ow), iter (m_slices_Chunk_byte_byte_1_b1 p0 k0 k1) n1 s1 = some x1 ∧ m ≤ m9 ∧ St m9 ((bx kb0 [k0v0] 51) :: (bx kb1 [vI k1] 3) :: (X1 ++ As)) w' ∧ R s1.2 m9 X1 ∧ AllAt f' [(4, vI s1.1)]) FUEL ⟨(0, s0), m, _, q1, L1, S, hX0, ⟨rfl, trivial⟩⟩ ?_
   rintro n1 f1 w1 ho ⟨s1, m1, X1, q2, L3, S1, h1, ha⟩
   obtain ⟨u1, rfl⟩ := fr_of (N := 31) ho ha
   clear ho ha
   have L2 := Mem.rfl' m1
   clear S
   cases n1 with
   | zero => exact (iter_zero q2).elim
   | succ n1 =>
    obtain ⟨y2, q4, q3⟩ := iter_succ q2
    unfold m_slices_Chunk_byte_byte_1_b1 at q4
    refine wpc_seq <| ws <| s_mvv (v := vI s1.1) rfl <| s_ld (i := 0) (cs := [k0v0]) S1 rfl rfl isAgg51 sizeOf51 rfl (fun _ => rfl) <| s_lenR (xs := k0) rfl (k0h0.up L3) underlying51 <| s_lss (m := s1.1) (n := (k0.length : Int)) rfl rfl <| wpl_nil <| nrm <| wpc_if (t := (decide (s1.1 < (k0.length : Int)))) rfl (fun hc1 => ?_) (fun hc1 => ?_)
    · replace q4 := ifT hc1 q4
      refine wpc_skip <| nrm <| wpc_seq <| wpc_block <| wpc_seq ?_
      obtain ⟨x3, q6, q4⟩ := obind_some q4
      have HM : MonoAll [(13, fv (vI k1)), (14, fv k0v0), (15, fv (vI s1.1)), (16, fun (M : Mem) (v : Value) => ∃ (v1 : Value), v = v1 ∧ SlR M v1 x3), (17, fv (vI (x3.length : Int)))] := ⟨mv, mv, mv, (fun _ _ _ l ⟨v1, e, h3⟩ => ⟨v1, e, h3.up l⟩), mv, trivial⟩
      refine wpc_flowG HM 5 mixed rfl rfl rfl (rg 13 5) (fun L f M w => St M ((bx kb0 [k0v0] 51) :: (bx kb1 [vI k1] 3) :: (X1 ++ As)) w) (St.drew S1 _) ?_ ?_
      · refine ⟨?_, ?_, ?_, ?_, ?_, trivial⟩
        · exact flp HM rfl [] (fun _ _ => trivial) (fun _ S2 q => s_ld (i := 1) (cs := [vI k1]) S2 rfl rfl isAgg3 sizeOf3 rfl (fun _ => rfl) q) rfl
        · exact flp HM rfl [] (fun _ _ => trivial) (fun _ S3 q => s_ld (i := 0) (cs := [k0v0]) S3 rfl rfl isAgg51 sizeOf51 rfl (fun _ => rfl) q) rfl
        · exact flp HM rfl [] (fun _ _ => trivial) (fun _ _ q => s_mvv (v := vI s1.1) rfl q) rfl
        · intro L f5 w5 hL hd hc ⟨m5, L10, S5, K, hO⟩
          obtain ⟨u5, rfl⟩ := fr_of (N := 31) (L := [(14, _), (15, _)]) hO ⟨K 1 (dep hd rfl), K 2 (dep hd rfl), trivial⟩
          replace h1 := hup L10 h1
          replace k0h0 := k0h0.up (mt L3 L10)
          exact s_cut (ys := x3) (l := s1.1) (h := (k0.length : Int)) rfl k0h0 underlying51 sizeOf5 (.inr ⟨_, rfl⟩) (.inl ⟨rfl, rfl⟩) (.inl rfl) q6 fun v1 h3 => oS HM L10 S5 rfl K rfl rfl ⟨v1, rfl, h3⟩ outP
        · intro L f6 w6 hL hd hc ⟨m6, L12, S6, K, hO⟩
          obtain ⟨v2, e3, h4⟩ := K 3 (dep hd rfl)
          obtain ⟨u6, rfl⟩ := fr_of (N := 31) (L := [(16, _)]) hO ⟨e3, trivial⟩
          replace h1 := hup L12 h1
          exact s_lenR (xs := x3) rfl h4 underlying51 <| oS HM L12 S6 rfl K rfl rfl rfl outP
      intro L f7 w7 hall ⟨m7, L14, S7, K, hO⟩
      have d0 : L 0 = true := hall 0 (by decide)
      have d4 : L 4 = true := hall 4 (by decide)
      obtain ⟨u7, rfl⟩ := fr_of (N := 31) (L := [(13, _), (17, _)]) hO ⟨K 0 d0, K 4 d4, trivial⟩
      replace S7 : St _ ((bx kb0 [k0v0] 51) :: (bx kb1 [vI k1] 3) :: (X1 ++ As)) _ := S7
      replace h1 := hup L14 h1
      clear S1
      refine s_minI rfl rfl <| s_asv (v := vI (minI k1 (x3.length : Int))) rfl <| nx <| s_mvv (v := f0) rfl <| s_ld (i := 0) (cs := [k0v0]) S7 rfl rfl isAgg51 sizeOf51 rfl (fun _ => rfl) <| s_mvv (v := vI s1.1) rfl <| s_mvv (v := vI s1.1) rfl <| s_mvv (v := vI (minI k1 (x3.length : Int))) rfl <| s_addI (m := s1.1) (n := (minI k1 (x3.length : Int))) rfl rfl <| s_mvv (v := vI s1.1) rfl <| s_mvv (v := vI (minI k1 (x3.length : Int))) rfl <| s_addI (m := s1.1) (n := (minI k1 (x3.length : Int))) rfl rfl ?_
      obtain ⟨x4, q7, q4⟩ := obind_some q4
      replace k0h0 := k0h0.up (mt L3 L14)
      refine s_cut (ys := x4) (l := s1.1) (h := (w64 (s1.1 + (minI k1 (x3.length : Int))))) rfl k0h0 underlying51 sizeOf5 (.inr ⟨_, rfl⟩) (.inr ⟨_, rfl⟩) (.inr ⟨(fun h => by cases h), _, rfl⟩) q7 fun v3 h5 => ?_
      obtain ⟨x5, q8, q4⟩ := obind_some q4
      have S8 := St.absF (L := [bx kb0 [k0v0] 51, bx kb1 [vI k1] 3]) (X := X1) (As := As) S7
      refine s_callV rfl (cb0 S8 h1 h5 q8) rfl ?_
      rintro _ w8 ⟨m8, X3, l1, S9, h6, rfl⟩
      replace S9 := St.absF (L := X3) (X := [bx kb0 [k0v0] 51, bx kb1 [vI k1] 3]) (As := As) S9
      clear S8
      replace S9 : St _ ((bx kb0 [k0v0] 51) :: (bx kb1 [vI k1] 3) :: (X3 ++ As)) _ := S9
      clear S7
      refine s_not rfl <| wpl_nil <| nrm <| wpc_if (t := (!x5.1)) rfl (fun hc2 => ?_) (fun hc2 => ?_)
      · replace q4 := ifT hc2 q4
        refine wpc_ret <| blR <| thR <| thR <| blR <| thR <| outRw fun we hpd => ?_
        replace S9 := St.pd S9 hpd
        cases q4
        rcases q3 with ⟨sn, e, _⟩ | e
        · cases e
        cases e
        dsimp only at hm
        have e0 := Option.some.inj hm
        subst e0
        replace L2 := Mem.tr L2 (mt L14 l1)
        exact outR [] rfl trivial ⟨_, (Mem.tr L0 (Mem.tr L3 L2)), _, _, S9, rfl, (k0h0.up l1), h6⟩
      replace q4 := ifF hc2 q4
      refine wpc_skip <| nrmB <| nrm <| wpc_region <| s_mvv (v := vI s1.1) rfl <| s_ld (i := 1) (cs := [vI k1]) S9 rfl rfl isAgg3 sizeOf3 rfl (fun _ => rfl) <| s_addI (m := s1.1) (n := k1) rfl rfl <| s_asv (v := vI (w64 (s1.1 + k1))) rfl <| wpl_nil <| nrm ?_
      have e0 := Option.some.inj q4
      subst e0
      rcases q3 with ⟨sn, e, q3'⟩ | e
      · cases e
        replace L2 := Mem.tr L2 (mt L14 l1)
        exact ⟨outP, _, Nat.lt_succ_self _, ⟨_, m8, _, q3', Mem.tr L3 L2, S9, h6, ⟨rfl, trivial⟩⟩⟩
      · cases e
    replace q4 := ifF hc1 q4
    refine wpc_exit <| thE <| thE <| exB <| nrm ?_
    have e0 := Option.some.inj q4
    subst e0
    rcases q3 with ⟨sn, e, _⟩ | e
    · cases e
    · cases e
      exact ⟨outP, m1, _, _, rfl, Mem.tr L3 L2, S1, h1, trivial⟩
 rintro f8 w9 ho ⟨m10, y1, X2, rfl, l2, S10, h2, ha⟩
 obtain ⟨u8, rfl⟩ := fr_of (N := 31) ho ha
 clear ho ha
 dsimp only at hm
 clear S
 refine outNw fun we hpd => ?_
 replace S10 := St.pd S10 hpd
 have e0 := Option.some.inj hm
 subst e0
 replace L0 := Mem.tr L0 l2
 exact outR [] rfl trivial ⟨_, L0, _, _, S10, rfl, (k0h0.up l2), h2⟩
def m_slices_Chunk_byte_byte (a0 : List UInt8) (a1 : Int) : Option ((List UInt8) × Int) :=
  obind (
    if (decide (a1 < 1)) = true then
      none
    else
    some ()
  ) fun x1 =>
  some (a0, a1)
theorem w_slices_Chunk_byte_byte {m : Mem} {As : List Ow} {w : World} {a0 : List UInt8} {a0v0 : Value} {a1 : Int} {r : (List UInt8) × Int} (S : St m (As) w) (a0h0 : SlR m a0v0 a0) (hm : m_slices_Chunk_byte_byte a0 a1 = some r) :
    CallsR Tryz.prog 137 #[a0v0, vI a1] w fun v w' => ∃ (M : Mem), m ≤ M ∧ ∃ (rk0_0 : Nat) (rc0_0_0 : Value) (rk0_1 : Nat), St M ((bx rk0_0 [rc0_0_0] 51) :: (bx rk0_1 [vI r.2] 3) :: As) w' ∧ v = .func (.func 147) #[] #[pt rk0_0 0, pt rk0_1 0] ∧ SlR M rc0_0_0 r.1 := by
 unfold m_slices_Chunk_byte_byte at hm
 have L0 := Mem.rfl' m
 refine callsR (args := [a0v0, vI a1]) func137 rfl ntmps137 (nb rfl) <| ws <| s_boxS S rfl (SlR.cells a0h0) fun b1 w1 S1 => ?_
 replace S1 : St _ ((bx b1 [a0v0] 51) :: As) _ := S1
 clear S
 refine s_box S1 rfl fun b2 w2 S2 => ?_
 replace S2 : St _ ((bx b2 [vI a1] 3) :: (bx b1 [a0v0] 51) :: As) _ := S2
 clear S1
 refine s_asv (v := .nilFunc) rfl <| wpl_nil <| nrm ?_
 obtain ⟨x1, q1, hm⟩ := obind_some hm
 have L1 := Mem.rfl' m
 refine wpc_seq <| wpc_join [5, 6, 7] (fun f' w' => ∃ (M1 : Mem), m ≤ M1 ∧ St M1 ((bx b2 [vI a1] 3) :: (bx b1 [a0v0] 51) :: As) w' ∧ AllAt f' []) ?_ ?_
 · refine ws <| s_ld (i := 0) (cs := [vI a1]) S2 rfl rfl isAgg3 sizeOf3 rfl (fun _ => rfl) <| s_lss (m := a1) (n := 1) rfl rfl <| wpl_nil <| nrm <| wpc_if (t := (decide (a1 < 1))) rfl (fun hc1 => ?_) (fun hc1 => ?_)
   · replace q1 := ifT hc1 q1
     cases q1
   replace q1 := ifF hc1 q1
   refine wpc_skip <| nrm ?_
   have e0 := Option.some.inj q1
   subst e0
   exact ⟨outP, m, L1, S2, trivial⟩
 rintro f1 w3 ho ⟨m1, l1, S3, ha⟩
 obtain ⟨u1, rfl⟩ := fr_of (N := 9) ho ha
 clear S2
 refine ws <| s_funcC (caps := [pt b1 0, pt b2 0]) rfl <| s_asv (v := .func (.func 147) #[] #[pt b1 0, pt b2 0]) rfl <| wpl_nil <| nrm <| wpc_ret <| outRw fun we hpd => ?_
 replace S3 := St.pd S3 hpd
 have S4 : St _ ((bx b1 [a0v0] 51) :: (bx b2 [vI a1] 3) :: As) _ := St.perm S3 (List.Perm.swap _ _ _)
 have e0 := Option.some.inj hm
 subst e0
 replace L0 := Mem.tr L0 l1
 exact outR [_] rfl ⟨rfl, trivial⟩ ⟨_, L0, _, _, _, S4, rfl, (a0h0.up l1)⟩
def m_field_Of_b6 (b5 : List UInt8) (i1 : Int) (s2 : UInt64) : Option (UInt64) :=
  obind (idx b5 (i1 : Int)) fun x6 =>
  if (0 : Int) ≤ (w64 (8 * (i1 : Int))) then
    bnd ((s2 ||| (shlU (toU (x6.toNat : Int)) ((w64 (8 * (i1 : Int))).toNat)))) fun x7 =>
    some x7
  else none
def m_field_Of_b4 (b5 : List UInt8) (s1 : (List UInt64)) : Option ((List UInt64)) :=
  obind (
    obind (eachN0 (m_field_Of_b6 b5) b5.length 0 0) fun x4 =>
    some x4
  ) fun x3 =>
  obind (app 8 s1 ([x3] : List UInt64)) fun x8 =>
  some x8
def m_field_Of (a0 : List UInt8) : Option (List UInt64) :=
  obind (m_slices_Chunk_byte_byte a0 7) fun x1 =>
  obind (m_slices_Chunk_byte_byte_1 (fun (s : (List UInt64)) (b0 : List UInt8) => obind (m_field_Of_b4 b0 s) fun y => some (true, y)) x1.1 x1.2 ([] : List UInt64)) fun x2 =>
  some x2.2.2
theorem w_field_Of {m : Mem} {As : List Ow} {w : World} {a0 : List UInt8} {a0v0 : Value} {r : List UInt64} (S : St m (As) w) (a0h0 : SlR m a0v0 a0) (hm : m_field_Of a0 = some r) :
    CallsR Tryz.prog 120 #[a0v0] w fun v w' => ∃ (M : Mem), m ≤ M ∧ ∃ (rv0 : Value) (rc0 : List Value), St M ((row 1 rv0 rc0 r.length) :: As) w' ∧ v = rv0 ∧ RepL M rc0 r := by
 unfold m_field_Of at hm
 have L0 := Mem.rfl' m
 refine callsR (args := [a0v0]) func120 rfl ntmps120 (nb rfl) <| ws <| s_asv (v := .slice none 0 0) rfl <| nx <| s_alloc S zeroValue140 fun b1 w1 S1 => ?_
 replace S1 : St _ ((bx b1 [.slice none 0 0] 140) :: As) _ := S1
 clear S
 refine wpl_nil <| nrm <| wpc_seq <| ws <| s_mvv (v := a0v0) rfl ?_
 obtain ⟨x1, q1, hm⟩ := obind_some hm
 refine s_call call137 (w_slices_Chunk_byte_byte (a0 := a0) (a1 := 7) S1 a0h0 q1) rfl ?_
 rintro _ w2 ⟨m1, l1, b2, v1, b3, S2, rfl, h1⟩
 clear S1
 refine wpl_nil <| nrm <| wpc_block ?_
 obtain ⟨x2, q2, hm⟩ := obind_some hm
 refine wpc_rangeFunc S2 rfl call147 fun lp1 rip2 w3 h2 S3 => ?_
 replace S3 : St _ ((Lp lp1 rip2 .ready none) :: (bx b2 [v1] 51) :: (bx b3 [vI x1.2] 3) :: (bx b1 [.slice none 0 0] 140) :: As) _ := S3
 clear S2
 have S4 := St.rowNil S3 1
 have h4 : RepL m1 [] ([] : List UInt64) := RepL.nil
 replace S4 : St _ ((row 1 (.slice none 0 0) [] ([] : List UInt64).length) :: (Lp lp1 rip2 .ready none) :: (bx b2 [v1] 51) :: (bx b3 [vI x1.2] 3) :: (bx b1 [.slice none 0 0] 140) :: As) _ := S4
 clear S3
 have S5 : St _ ((bx b2 [v1] 51) :: (bx b3 [vI x1.2] 3) :: (Lp lp1 rip2 .ready none) :: (row 1 (.slice none 0 0) [] ([] : List UInt64).length) :: (bx b1 [(.slice none 0 0)] 140) :: As) _ := St.perm S4 (List.Perm.trans (List.Perm.cons _ (List.Perm.swap _ _ _)) (List.Perm.trans (List.Perm.swap _ _ _) (List.Perm.trans (List.Perm.cons _ (List.Perm.cons _ (List.Perm.swap _ _ _))) (List.Perm.trans (List.Perm.cons _ (List.Perm.swap _ _ _)) (List.Perm.cons _ (List.Perm.cons _ (List.Perm.swap _ _ _)))))))
 clear S4
 have hcb1 : ∀ {m' : Mem} {As' : List Ow} {w' : World} {s : (List UInt64)} {X : List Ow} {b0 : List UInt8} {b0v0 : Value} {r : Bool × (List UInt64)}, St m' (X ++ As') w' → (∃ (v3 : Value) (c2 : List Value), m1 ≤ m' ∧ X = Lp lp1 rip2 .ready none :: (row 1 v3 c2 (s).length) :: (bx b1 [v3] 140) :: [] ∧ RepL m' c2 (s)) → SlR m' b0v0 b0 → (fun (s : (List UInt64)) (b0 : List UInt8) => obind (m_field_Of_b4 b0 s) fun y => some (true, y)) s b0 = some r → CallV Tryz.prog (.func (.yield lp1) #[] #[]) [b0v0] w' fun v w'' => ∃ (M : Mem) (X' : List Ow), m' ≤ M ∧ St M (X' ++ As') w'' ∧ (∃ (v3 : Value) (c2 : List Value), m1 ≤ M ∧ X' = Lp lp1 rip2 .ready none :: (row 1 v3 c2 (r.2).length) :: (bx b1 [v3] 140) :: [] ∧ RepL M c2 (r.2)) ∧ v = vb r.1 := by
   intro m2 As1 w4 s1 X1 b5 v4 r4 S6 h6 h7 hm1
   obtain ⟨v5, c3, L2, rfl, h8⟩ := h6
   obtain ⟨y1, q3, hm1⟩ := obind_some hm1
   cases hm1
   unfold m_field_Of_b4 at q3
   replace S6 : St _ ((Lp lp1 rip2 .ready none) :: (row 1 v5 c3 s1.length) :: (bx b1 [v5] 140) :: As1) _ := S6
   have L1 := Mem.rfl' m2
   refine CallV.round h2 rfl S6 ?_
   refine wpc_region ?_
   refine s_asv (v := v4) rfl ?_
   refine wpl_nil ?_
   refine nrm ?_
   refine ⟨_, _, S6, ?_⟩
   intro w5 S7
   clear S6
   replace S7 : St _ ((Lp lp1 rip2 .busy none) :: (row 1 v5 c3 s1.length) :: (bx b1 [v5] 140) :: As1) _ := S7
   refine wpc_block ?_
   refine wpc_seq ?_
   refine wpc_region ?_
   refine s_asv (v := vU 0) rfl ?_
   refine wpl_nil ?_
   refine nrm ?_
   obtain ⟨x3, q4, q3⟩ := obind_some q3
   have L3 := Mem.rfl' m2
   refine wpc_seq ?_
   refine wpc_join [5, 6, 7, 11, 12, 13, 14, 15, 16, 17, 18, 19, 20, 21, 22, 23, 24, 25] (fun f' w' => ∃ (M1 : Mem), m2 ≤ M1 ∧ St M1 ((Lp lp1 rip2 .busy none) :: (row 1 v5 c3 s1.length) :: (bx b1 [v5] 140) :: As1) w' ∧ AllAt f' [(5, vU x3)]) ?_ ?_
   · refine wpc_seq ?_
     refine wpc_region ?_
     refine s_mvv (v := v4) rfl ?_
     refine s_lenR (xs := b5) rfl h7 underlying51 ?_
     refine s_mvv (v := vI 0) rfl ?_
     refine wpl_nil ?_
     refine nrm ?_
     obtain ⟨x4, q5, q4⟩ := obind_some q4
     have L4 := Mem.rfl' m2
     refine wpc_join [5, 6, 7, 13, 14, 15, 16, 17, 18, 19, 20, 21, 22, 23, 24, 25] (fun f' w' => ∃ (M2 : Mem), m2 ≤ M2 ∧ St M2 ((Lp lp1 rip2 .busy none) :: (row 1 v5 c3 s1.length) :: (bx b1 [v5] 140) :: As1) w' ∧ AllAt f' [(5, vU x4)]) ?_ ?_
     · refine wpc_block ?_
       refine wpc_rounds [5, 6, 7, 13, 14, 15, 16, 17, 18, 19, 20, 21, 22, 23, 24, 25] (fun n1 f' w' => ∃ (i1 : Nat) (s2 : UInt64) (m4 : Mem), n1 = b5.length - i1 ∧ i1 ≤ b5.length ∧ eachN0 (m_field_Of_b6 b5) (b5.length - i1) (i1 : Int) s2 = some x4 ∧ m2 ≤ m4 ∧ St m4 ((Lp lp1 rip2 .busy none) :: (row 1 v5 c3 s1.length) :: (bx b1 [v5] 140) :: As1) w' ∧ AllAt f' [(13, vI (i1 : Int)), (5, vU s2)]) b5.length ⟨0, 0, m2, rfl, Nat.zero_le _, q5, L4, S7, ⟨rfl, rfl, trivial⟩⟩ ?_
       rintro n1 f1 w6 ho ⟨i1, s2, m3, hn, hi, q6, L6, S8, ha⟩
       obtain ⟨u1, rfl⟩ := fr_of (N := 31) ho ha
       clear ho ha
       replace h7 := h7.up L6
       replace h8 := RepL.up L6 h8
       have L5 := Mem.rfl' m3
       clear S7
       refine wpc_seq ?_
       refine wpc_region ?_
       refine s_lss (m := (i1 : Int)) (n := (b5.length : Int)) rfl rfl ?_
       refine wpl_nil ?_
       refine nrm ?_
       refine wpc_seq ?_
       refine wpc_if (t := decide ((i1 : Int) < (b5.length : Int))) rfl (fun hc1 => ?_) (fun hc1 => ?_)
       · have hlt1 : i1 < b5.length := by have := of_decide_eq_true hc1; omega
         obtain ⟨y2, q8, q7⟩ := eachN0_in q6 hlt1
         unfold m_field_Of_b6 at q8
         refine wpc_skip ?_
         refine nrm ?_
         refine wpc_seq ?_
         refine wpc_block ?_
         refine wpc_seq ?_
         refine wpc_region ?_
         refine s_mvv (v := vI (i1 : Int)) rfl ?_
         obtain ⟨x6, q10, q8⟩ := obind_some q8
         refine s_idx (q := x6) rfl rfl h7 q10 underlying51 sizeOf5 ?_
         intro p3 c4 h9 r5
         obtain rfl : c4 = [vB x6] := r5
         refine s_ldM (cs := [vB x6]) S8 rfl h9 rfl isAgg5 sizeOf5 (fun _ => rfl) ?_
         refine s_asv (v := vI (i1 : Int)) rfl ?_
         refine s_asv (v := vB x6) rfl ?_
         refine wpl_nil ?_
         refine nrm ?_
         refine wpc_region ?_
         refine s_mvv (v := vU s2) rfl ?_
         refine s_mvv (v := vB x6) rfl ?_
         refine s_convU rfl underlying5 underlying22 ?_
         refine s_mvv (v := vI (i1 : Int)) rfl ?_
         refine s_mulI (m := 8) (n := (i1 : Int)) rfl rfl ?_
         obtain ⟨q11, q8⟩ := if_some q8
         refine s_shlU (m := (toU (x6.toNat : Int))) (n := (w64 (8 * (i1 : Int)))) rfl rfl q11 ?_
         refine s_orU (m := s2) (n := (shlU (toU (x6.toNat : Int)) ((w64 (8 * (i1 : Int))).toNat))) rfl rfl ?_
         obtain ⟨x7, q12, q8⟩ := bnd_eq q8
         refine s_asv (v := vU x7) (congrArg (fun z => vU z) q12.symm) ?_
         refine wpl_nil ?_
         refine nrmB ?_
         refine nrm ?_
         refine wpc_region ?_
         refine s_addI (m := (i1 : Int)) (n := 1) rfl rfl ?_
         refine s_mvv (v := vI (w64 ((i1 : Int) + 1))) rfl ?_
         refine wpl_nil ?_
         refine nrm ?_
         have e0 := Option.some.inj q8
         subst e0
         exact ⟨outP, _, (by omega), ⟨i1 + 1, x7, m3, rfl, hlt1, q7, Mem.tr L6 L5, S8, ⟨congrArg (Value.int .i64) (w64_succ hlt1 (SlR.le h7)), rfl, trivial⟩⟩⟩
       have hlt1 : ¬ i1 < b5.length := by have := of_decide_eq_false hc1; omega
       have e := Eq.symm (eachN0_out q6 hlt1)
       subst e
       refine wpc_exit ?_
       refine thE ?_
       refine thE ?_
       refine exB ?_
       refine nrm ?_
       exact ⟨outP, m3, Mem.tr L6 L5, S8, ⟨rfl, trivial⟩⟩
     rintro f2 w7 ho ⟨m5, l2, S9, ha⟩
     obtain ⟨u2, rfl⟩ := fr_of (N := 31) ho ha
     clear ho ha
     replace h8 := RepL.up l2 h8
     replace L3 := Mem.tr L3 l2
     clear S7
     have e0 := Option.some.inj q4
     subst e0
     exact ⟨outP, m5, L3, S9, ⟨rfl, trivial⟩⟩
   rintro f3 w8 ho ⟨m6, l3, S10, ha⟩
   obtain ⟨u3, rfl⟩ := fr_of (N := 31) ho ha
   replace h8 := RepL.up l3 h8
   replace L1 := Mem.tr L1 l3
   clear S7
   refine wpc_region ?_
   refine s_ld (i := 2) (cs := [v5]) S10 rfl rfl isAgg140 sizeOf140 rfl (fun _ => rfl) ?_
   refine s_mvv (v := vU x3) rfl ?_
   refine s_litC (parts := [.tmp 27]) (vs := [vU x3]) (cls := [[vU x3]]) (xs := ([x3] : List UInt64)) (n := 1) S10 underlying140 sizeOf22 zeroValue22 rfl ⟨rfl, trivial⟩ (RepL.cons (c := [vU x3]) (x := x3) rfl RepL.nil) rfl rfl rfl (by decide) (by decide) ?_
   intro v6 m7 w9 l4 S11 h10
   replace h8 := RepL.up l4 h8
   replace L1 := Mem.tr L1 l4
   clear S10
   obtain ⟨x8, q13, q3⟩ := obind_some q3
   refine s_app (i := 1) (zs := x8) (bytes := 8) (ti := Tryz.t22) S11 rfl rfl h8 rfl rfl h10 q13 underlying140 type22 rfl rfl rfl rfl ?_
   intro v7 c5 w10 S12 h11
   replace S12 : St _ ((Lp lp1 rip2 .busy none) :: (row 1 v7 c5 x8.length) :: (bx b1 [v5] 140) :: As1) _ := S12
   clear S11
   refine s_stS (i := 2) S12 rfl rfl rfl sizeOf140 (St.rowCells (i := 1) S12 rfl) rfl ?_
   intro w11 S13
   replace S13 : St _ ((Lp lp1 rip2 .busy none) :: (row 1 v7 c5 x8.length) :: (bx b1 [v7] 140) :: As1) _ := S13
   clear S12
   refine wpl_nil ?_
   refine nrmB ?_
   have S14 : St _ ((row 1 v7 c5 x8.length) :: (Lp lp1 rip2 .busy none) :: (bx b1 [v7] 140) :: As1) _ := St.perm S13 (List.Perm.swap _ _ _)
   clear S13
   have S15 : St _ ((Lp lp1 rip2 .busy none) :: (row 1 v7 c5 x8.length) :: (bx b1 [v7] 140) :: As1) _ := St.perm S14 (List.Perm.swap _ _ _)
   clear S14
   refine ⟨_, _, S15, ?_⟩
   intro w12 S16
   have e0 := Option.some.inj q3
   subst e0
   exact ⟨_, Lp lp1 rip2 .ready none :: (row 1 v7 c5 x8.length) :: (bx b1 [v7] 140) :: [], L1, S16, ⟨_, _, Mem.tr L2 L1, rfl, h11⟩, rfl⟩
 refine CallsR.mono (w_slices_Chunk_byte_byte_1 (p0 := (fun (s : (List UInt64)) (b0 : List UInt8) => obind (m_field_Of_b4 b0 s) fun y => some (true, y))) (k0 := x1.1) (k1 := x1.2) (s0 := ([] : List UInt64)) (R := (fun (s : (List UInt64)) (M : Mem) (X : List Ow) => (∃ (v3 : Value) (c2 : List Value), m1 ≤ M ∧ X = Lp lp1 rip2 .ready none :: (row 1 v3 c2 (s).length) :: (bx b1 [v3] 140) :: [] ∧ RepL M c2 (s)))) (X0 := ((Lp lp1 rip2 .ready none) :: (row 1 (.slice none 0 0) [] ([] : List UInt64).length) :: (bx b1 [(.slice none 0 0)] 140) :: [])) (As := As) S5 (fun l h => by obtain ⟨v3, c2, Lm, e, h5⟩ := h; exact ⟨_, _, Mem.tr Lm l, e, RepL.up l h5⟩) ⟨_, _, Mem.rfl' _, rfl, h4⟩ @hcb1 rfl h1 q2) ?_
 rintro _ w13 ⟨m8, l5, v8, X2, S17, rfl, h12, ⟨v9, c6, L7, rfl, h13⟩⟩
 have S18 : St _ ((Lp lp1 rip2 .ready none) :: (bx b2 [v8] 51) :: (bx b3 [vI x2.2.1] 3) :: (row 1 v9 c6 x2.2.2.length) :: (bx b1 [v9] 140) :: As) _ := St.perm S17 (List.Perm.trans (List.Perm.cons _ (List.Perm.swap _ _ _)) (List.Perm.swap _ _ _))
 clear S17
 refine ⟨_, .ready, none, _, l5, (fun h => by cases h), S18, ?_⟩
 intro m9 w14 l6 S19
 have l7 := Mem.tr l5 l6
 replace S19 : St _ ((bx b2 [v8] 51) :: (bx b3 [vI x2.2.1] 3) :: (row 1 v9 c6 x2.2.2.length) :: (bx b1 [v9] 140) :: As) _ := S19
 refine nrmB <| nrm <| ws <| s_ld (i := 3) (cs := [v9]) S19 rfl rfl isAgg140 sizeOf140 rfl (fun _ => rfl) <| s_asv (v := v9) rfl <| wpl_nil <| nrm <| wpc_ret <| outRw fun we hpd => ?_
 replace S19 := St.pd S19 hpd
 obtain ⟨m10, l8, S20⟩ := St.drop S19 0
 clear S19
 replace S20 : St _ ((bx b3 [vI x2.2.1] 3) :: (row 1 v9 c6 x2.2.2.length) :: (bx b1 [v9] 140) :: As) _ := S20
 obtain ⟨m11, l9, S21⟩ := St.drop S20 0
 clear S20
 replace S21 : St _ ((row 1 v9 c6 x2.2.2.length) :: (bx b1 [v9] 140) :: As) _ := S21
 obtain ⟨m12, l10, S22⟩ := St.drop S21 1
 clear S21
 replace S22 : St _ ((row 1 v9 c6 x2.2.2.length) :: As) _ := S22
 have e0 := Option.some.inj hm
 subst e0
 replace L0 := Mem.tr L0 (mt l1 (mt l7 (mt l8 (mt l9 l10))))
 replace h13 := RepL.up (mt l6 (mt l8 (mt l9 l10))) h13
 exact outR [_] rfl ⟨rfl, trivial⟩ ⟨_, L0, _, _, S22, rfl, h13⟩
def m_field_fold (a0 : UInt64) (a1 : UInt64) : Option UInt64 :=
  bnd (((a1 &&& 2305843009213693951) + ((shlU a0 3) ||| (shrU a1 61)))) fun x1 =>
  bnd (((x1 &&& 2305843009213693951) + (shrU x1 61))) fun x2 =>
  obind (
    if (decide ((x2.toNat : Int) ≥ 2305843009213693951)) = true then
      some (x2 - 2305843009213693951)
    else
    some x2
  ) fun x3 =>
  some x3
theorem w_field_fold {a0 : UInt64} {a1 : UInt64} {r : UInt64} (hm : m_field_fold a0 a1 = some r) : Sf prog 148 [.d (.u a0), .d (.u a1)] (.d (.u r)) :=
  sp call148 func148 rfl ntmps148 rfl fun D0 As η0 m0 hd => by
    unfold m_field_fold at hm
    have hm := bnd_is hm
    let x1 : UInt64 := (((a1 &&& 2305843009213693951) + ((shlU a0 3) ||| (shrU a1 61))))
    have hm := bnd_is hm
    let x2 : UInt64 := (((x1 &&& 2305843009213693951) + (shrU x1 61)))
    obtain ⟨x3, q3, hm⟩ := obind_some hm
    refine gj (fun (_ : Unit) => ⟨[(5, .d (.u x3))], [], [], 0⟩) (fun _ => True) (by kernel_rfl) (fun Jp bk1 => ?_) fun _ _ => ?_
    · refine gi q3 (by kernel_rfl) (fun hc1 q3 => ?_) fun hc1 q3 => ?_
      · skip
        have e0 := Option.some.inj q3
        subst e0
        exact gb bk1 hd () trivial (by kernel_rfl)
      have e0 := Option.some.inj q3
      subst e0
      exact gb bk1 hd () trivial (by kernel_rfl)
    have e0 := Option.some.inj hm
    subst e0
    exact gend hd (by kernel_rfl)
def m_field_one (a0 : UInt64) : Option UInt64 :=
  obind (m_field_fold 0 a0) fun x1 =>
  some x1
theorem w_field_one {a0 : UInt64} {r : UInt64} (hm : m_field_one a0 = some r) : Sf prog 138 [.d (.u a0)] (.d (.u r)) :=
  sp call138 func138 rfl ntmps138 rfl fun D0 As η0 m0 hd => by
    unfold m_field_one at hm
    obtain ⟨x1, q1, hm⟩ := obind_some hm
    refine gc (fun _ => w_field_fold q1) (by kernel_rfl) ?_
    have e0 := Option.some.inj hm
    subst e0
    exact gend hd (by kernel_rfl)
def m_field_Add (a0 : UInt64) (a1 : UInt64) : Option UInt64 :=
  obind (m_field_one a0) fun x1 =>
  obind (m_field_one a1) fun x2 =>
  obind (m_field_one (x1 + x2)) fun x3 =>
  some x3
theorem w_field_Add {a0 : UInt64} {a1 : UInt64} {r : UInt64} (hm : m_field_Add a0 a1 = some r) : Sf prog 121 [.d (.u a0), .d (.u a1)] (.d (.u r)) :=
  sp call121 func121 rfl ntmps121 rfl fun D0 As η0 m0 hd => by
    unfold m_field_Add at hm
    obtain ⟨x1, q1, hm⟩ := obind_some hm
    refine gc (fun _ => w_field_one q1) (by kernel_rfl) ?_
    obtain ⟨x2, q2, hm⟩ := obind_some hm
    refine gc (fun _ => w_field_one q2) (by kernel_rfl) ?_
    obtain ⟨x3, q3, hm⟩ := obind_some hm
    refine gc (fun _ => w_field_one q3) (by kernel_rfl) ?_
    have e0 := Option.some.inj hm
    subst e0
    exact gend hd (by kernel_rfl)
theorem v_field_Add {m : Mem} {As : List Ow} {w : World} {a0 : UInt64} {a1 : UInt64} {r : UInt64} (S : St m As w) (hm : m_field_Add a0 a1 = some r) :
    CallsR prog 121 #[vU a0, vU a1] w fun v w' => ∃ (M : Mem), m ≤ M ∧ St M (As) w' ∧ v = vU r := by
  refine CallsR.mono ((w_field_Add hm).2 none0 m As w [vU a0, vU a1] (.cons (.d (.u _)) (.cons (.d (.u _)) .nil)) (fun n h => absurd rfl h) S) ?_
  rintro v w' ⟨M, η', r', obs', n1, hle, _, ⟨rfl, rfl, rfl⟩, hdom, hR, S'⟩
  obtain rfl := hR.u_inv
  exact ⟨M, hle, S', rfl⟩
def m_hash_state_each_b1 {σ : Type} (p1 : σ → Int → UInt64 → Option (UInt64 × σ)) (i1 : Int) (s1 : UInt64 × UInt64 × UInt64 × σ) : Option (UInt64 × UInt64 × UInt64 × σ) :=
  obind (idx [s1.1, s1.2.1, s1.2.2.1] (i1 : Int)) fun x3 =>
  obind (p1 s1.2.2.2 (i1 : Int) x3) fun x4 =>
  obind (idx [s1.1, s1.2.1, s1.2.2.1] (i1 : Int)) fun x5 =>
  bnd (if (i1 : Int) = 0 then x4.1 else s1.1) fun x6 =>
  bnd (if (i1 : Int) = 1 then x4.1 else s1.2.1) fun x7 =>
  bnd (if (i1 : Int) = 2 then x4.1 else s1.2.2.1) fun x8 =>
  some (x6, x7, x8, x4.2)
def m_hash_state_each {σ : Type} (a0 : UInt64 × UInt64 × UInt64) (p1 : σ → Int → UInt64 → Option (UInt64 × σ)) (s0 : σ) : Option ((UInt64 × UInt64 × UInt64) × σ) :=
  obind (eachN0 (m_hash_state_each_b1 p1) 3 0 (a0.1, a0.2.1, a0.2.2, s0)) fun x1 =>
  some ((x1.1, x1.2.1, x1.2.2.1), x1.2.2.2)
theorem w_hash_state_each {m : Mem} {As : List Ow} {w : World} {σ : Type} {R : σ → Mem → List Ow → Prop} {pb0 : Nat} {a0 : UInt64 × UInt64 × UInt64} {p1 : σ → Int → UInt64 → Option (UInt64 × σ)} {f1 : Value} {s0 : σ} {X0 : List Ow} {r : (UInt64 × UInt64 × UInt64) × σ} (S : St m ((bx pb0 [vU a0.1, vU a0.2.1, vU a0.2.2] 154) :: (X0 ++ As)) w) (hup : ∀ {s M M' X}, M ≤ M' → R s M X → R s M' X) (hX0 : R s0 m X0) (cb1 : ∀ {m' : Mem} {As' : List Ow} {w' : World} {s : σ} {X : List Ow} {b0 : Int} {b1 : UInt64} {r : UInt64 × σ}, St m' (X ++ As') w' → R s m' X → p1 s b0 b1 = some r → CallV Tryz.prog f1 [vI b0, vU b1] w' fun v w'' => ∃ (M : Mem) (X' : List Ow), m' ≤ M ∧ St M (X' ++ As') w'' ∧ R r.2 M X' ∧ v = vU r.1) (fc1 : f1.cells = #[f1]) (hm : m_hash_state_each a0 p1 s0 = some r) :
    CallsR Tryz.prog 139 #[pt pb0 0, f1] w fun v w' => ∃ (M : Mem), m ≤ M ∧ ∃ (X : List Ow), St M ((bx pb0 [vU r.1.1, vU r.1.2.1, vU r.1.2.2] 154) :: (X ++ As)) w' ∧ v = .tuple #[] ∧ R r.2 M X := by
 unfold m_hash_state_each at hm
 have L0 := Mem.rfl' m
 refine callsR (args := [pt pb0 0, f1]) func139 rfl ntmps139 (nb rfl) <| ws <| s_mvv (v := pt pb0 0) rfl <| s_mvv (v := vI 0) rfl <| wpl_nil <| nrm ?_
 obtain ⟨x1, q1, hm⟩ := obind_some hm
 have L1 := Mem.rfl' m
 refine wpc_wrap <| wpc_join [4, 5, 7, 8, 9, 10, 11, 12, 13, 14, 15, 16, 17, 18, 19, 20, 21] (fun f' w' => ∃ (M1 : Mem) (X2 : List Ow), m ≤ M1 ∧ St M1 ((bx pb0 [vU x1.1, vU x1.2.1, vU x1.2.2.1] 154) :: (X2 ++ As)) w' ∧ R x1.2.2.2 M1 X2 ∧ AllAt f' []) ?_ ?_
 · refine wpc_block <| wpc_rounds [4, 5, 7, 8, 9, 10, 11, 12, 13, 14, 15, 16, 17, 18, 19, 20, 21] (fun n1 f' w' => ∃ (i1 : Nat) (s1 : UInt64 × UInt64 × UInt64 × σ) (m17 : Mem) (X1 : List Ow), n1 = 3 - i1 ∧ i1 ≤ 3 ∧ eachN0 (m_hash_state_each_b1 p1) (3 - i1) (i1 : Int) s1 = some x1 ∧ m ≤ m17 ∧ St m17 ((bx pb0 [vU s1.1, vU s1.2.1, vU s1.2.2.1] 154) :: (X1 ++ As)) w' ∧ R s1.2.2.2 m17 X1 ∧ AllAt f' [(7, vI (i1 : Int))]) 3 ⟨0, (a0.1, a0.2.1, a0.2.2, s0), m, _, rfl, Nat.zero_le _, q1, L1, S, hX0, ⟨rfl, trivial⟩⟩ ?_
   rintro n1 f1 w1 ho ⟨i1, s1, m1, X1, hn, hi, q2, L3, S1, h1, ha⟩
   obtain ⟨u1, rfl⟩ := fr_of (N := 22) ho ha
   clear ho ha
   have L2 := Mem.rfl' m1
   clear S
   refine ws <| s_lss (m := (i1 : Int)) (n := 3) rfl rfl <| wpl_nil <| nrm <| wpc_seq <| wpc_if (t := decide ((i1 : Int) < (3 : Int))) rfl (fun hc1 => ?_) (fun hc1 => ?_)
   · have hlt1 : i1 < 3 := by have := of_decide_eq_true hc1; omega
     obtain ⟨y1, q4, q3⟩ := eachN0_in q2 hlt1
     unfold m_hash_state_each_b1 at q4
     refine wpc_skip <| nrm <| wpc_seq <| wpc_block <| wpc_seq ?_
     obtain ⟨x3, q6, q4⟩ := obind_some q4
     have HM : MonoAll [(9, fv (vI (i1 : Int))), (10, fv (pt pb0 0)), (11, fv (pt pb0 (0 + (i1 : Int).toNat * 1))), (12, fv (vU x3)), (4, fv (vI (i1 : Int)))] := ⟨mv, mv, mv, mv, mv, trivial⟩
     refine wpc_flowG HM 5 mixed rfl rfl rfl [4, 9, 10, 11, 12] (fun L f M w => St M ((bx pb0 [vU s1.1, vU s1.2.1, vU s1.2.2.1] 154) :: (X1 ++ As)) w) (St.drew S1 _) ?_ ?_
     · refine ⟨?_, ?_, ?_, ?_, ?_, trivial⟩
       · exact flp HM rfl [] (fun _ _ => trivial) (fun _ _ q => s_mvv (v := vI (i1 : Int)) rfl q) rfl
       · exact flp HM rfl [] (fun _ _ => trivial) (fun _ _ q => s_nilc rfl q) rfl
       · exact flp HM rfl [(10, _)] (fun K _ => ⟨K 1 rfl, trivial⟩) (fun _ _ q => s_idxA (i := (i1 : Int)) rfl rfl underlying154 sizeOf22 (idx_rng q6).1 (idx_rng q6).2 q) rfl
       · exact flp HM rfl [(11, _)] (fun K _ => ⟨K 2 rfl, trivial⟩) (fun _ S5 q => s_ld (i := 0) (off := 0 + (i1 : Int).toNat * 1) (cs := [vU x3]) S5 rfl rfl isAgg22 sizeOf22 (by rcases idx3 q6 with ⟨h, h'⟩ | ⟨h, h'⟩ | ⟨h, h'⟩ <;> (rw [h, h']; rfl)) (fun _ => rfl) q) rfl
       · exact flp HM rfl [(9, _)] (fun K _ => ⟨K 0 rfl, trivial⟩) (fun _ _ q => s_asv (v := vI (i1 : Int)) rfl q) rfl
     intro L f7 w7 hall ⟨m7, L14, S7, K, hO⟩
     have d4 : L 4 = true := hall 4 (by decide)
     have d3 : L 3 = true := hall 3 (by decide)
     obtain ⟨u7, rfl⟩ := fr_of (N := 22) (L := [(4, _), (12, _)]) hO ⟨K 4 d4, K 3 d3, trivial⟩
     replace S7 : St _ ((bx pb0 [vU s1.1, vU s1.2.1, vU s1.2.2.1] 154) :: (X1 ++ As)) _ := S7
     replace h1 := hup L14 h1
     clear S1
     refine s_asv (v := vU x3) rfl <| wpl_nil <| nrm ?_
     obtain ⟨x4, q7, q4⟩ := obind_some q4
     have HM : MonoAll [(13, fv (pt pb0 0)), (14, fv (vI (i1 : Int))), (15, fv f1), (16, fv (vI (i1 : Int))), (17, fv (vU x3)), (18, fv (vU x4.1)), (19, fv (pt pb0 0))] := ⟨mv, mv, mv, mv, mv, mv, mv, trivial⟩
     refine wpc_flowG HM 7 mixed rfl rfl rfl (rg 13 7) (fun L f M w => ∃ (X3 : List Ow), ((L 5 = false → R s1.2.2.2 M X3) ∧ (L 5 = true → R x4.2 M X3)) ∧ St M ((bx pb0 [vU s1.1, vU s1.2.1, vU s1.2.2.1] 154) :: (X3 ++ As)) w) (⟨X1, ⟨fun _ => h1, fun hx => ff hx⟩, St.drew S7 _⟩) ?_ ?_
     · refine ⟨?_, ?_, ?_, ?_, ?_, ?_, ?_, trivial⟩
       · exact flp HM rfl [] (fun _ _ => trivial) (fun _ _ q => s_mvv (v := pt pb0 0) rfl q) rfl
       · exact flp HM rfl [] (fun _ _ => trivial) (fun _ _ q => s_mvv (v := vI (i1 : Int)) rfl q) rfl
       · exact flp HM rfl [] (fun _ _ => trivial) (fun _ _ q => s_mvv (v := f1) rfl q) rfl
       · exact flp HM rfl [] (fun _ _ => trivial) (fun _ _ q => s_mvv (v := vI (i1 : Int)) rfl q) rfl
       · exact flp HM rfl [] (fun _ _ => trivial) (fun _ _ q => s_mvv (v := vU x3) rfl q) rfl
       · intro L f13 w13 hL hd hc ⟨m13, L25, ⟨X3, C6, S13⟩, K, hO⟩
         have d5 : L 5 = false := hL
         obtain ⟨u13, rfl⟩ := fr_of (N := 22) (L := [(15, _), (16, _), (17, _)]) hO ⟨K 2 (dep hd rfl), K 3 (dep hd rfl), K 4 (dep hd rfl), trivial⟩
         have h3 := C6.1 d5
         replace S13 : St _ ((bx pb0 [vU s1.1, vU s1.2.1, vU s1.2.2.1] 154) :: (X3 ++ As)) _ := S13
         have L26 := Mem.rfl' m13
         have S14 := St.absF (L := [bx pb0 [vU s1.1, vU s1.2.1, vU s1.2.2.1] 154]) (X := X3) (As := As) S13
         refine s_callV rfl (cb1 S14 h3 q7) rfl ?_
         rintro _ w14 ⟨m14, X4, l1, S15, h4, rfl⟩
         replace S15 := St.absF (L := X4) (X := [bx pb0 [vU s1.1, vU s1.2.1, vU s1.2.2.1] 154]) (As := As) S15
         clear S14
         replace S15 : St _ ((bx pb0 [vU s1.1, vU s1.2.1, vU s1.2.2.1] 154) :: (X4 ++ As)) _ := S15
         clear S13
         refine wpn ?_
         replace L26 := Mem.tr L26 l1
         exact ⟨m14, Mem.tr L25 L26, ⟨X4, ⟨fun hx => tf rfl hx, fun _ => h4⟩, S15⟩, facts_step HM rfl K L26 rfl rfl rfl, outP⟩
       · exact flp HM rfl [(13, _)] (fun K _ => ⟨K 0 rfl, trivial⟩) (fun _ _ q => s_nilc rfl q) rfl
     intro L f15 w16 hall ⟨m16, L29, ⟨X3, C8, S17⟩, K, hO⟩
     have d1 : L 1 = true := hall 1 (by decide)
     have d5 : L 5 = true := hall 5 (by decide)
     have d6 : L 6 = true := hall 6 (by decide)
     obtain ⟨u15, rfl⟩ := fr_of (N := 22) (L := [(14, _), (18, _), (19, _)]) hO ⟨K 1 d1, K 5 d5, K 6 d6, trivial⟩
     replace S17 : St _ ((bx pb0 [vU s1.1, vU s1.2.1, vU s1.2.2.1] 154) :: (X3 ++ As)) _ := S17
     have h5 := C8.2 d5
     replace S17 : St _ ((bx pb0 [vU s1.1, vU s1.2.1, vU s1.2.2.1] 154) :: (X3 ++ As)) _ := S17
     clear S7
     obtain ⟨x5, q8, q4⟩ := obind_some q4
     refine s_idxA (i := (i1 : Int)) rfl rfl underlying154 sizeOf22 (idx_rng q8).1 (idx_rng q8).2 ?_
     obtain ⟨x6, q9, q4⟩ := bnd_eq q4
     obtain ⟨x7, q10, q4⟩ := bnd_eq q4
     obtain ⟨x8, q11, q4⟩ := bnd_eq q4
     refine s_st (i := 0) (off := 0 + (i1 : Int).toNat * 1) S17 rfl rfl rfl sizeOf22 (OneL.all (oneC rfl oneN)) (by rcases idx3 q8 with ⟨h, h'⟩ | ⟨h, h'⟩ | ⟨h, h'⟩ <;> (rw [h]; exact nb rfl)) fun w17 S18 => ?_
     replace S18 := St.cellsTo (i := 0) (l' := [vU x6, vU x7, vU x8]) S18 (by rcases idx3 q8 with ⟨h, h'⟩ | ⟨h, h'⟩ | ⟨h, h'⟩ <;> (simp only [q9, q10, q11, h]; rfl)) rfl
     replace S18 : St _ ((bx pb0 [vU x6, vU x7, vU x8] 154) :: (X3 ++ As)) _ := S18
     clear S17
     refine wpl_nil <| nrmB <| nrm <| wpc_region <| s_addI (m := (i1 : Int)) (n := 1) rfl rfl <| s_mvv (v := vI (w64 ((i1 : Int) + 1))) rfl <| wpl_nil <| nrm ?_
     have e0 := Option.some.inj q4
     subst e0
     replace L2 := Mem.tr L2 (mt L14 L29)
     exact ⟨outP, _, (by omega), ⟨i1 + 1, (x6, x7, x8, x4.2), m16, _, rfl, hlt1, q3, Mem.tr L3 L2, S18, h5, ⟨congrArg (Value.int .i64) (w64_succ hlt1 (by decide)), trivial⟩⟩⟩
   have hlt1 : ¬ i1 < 3 := by have := of_decide_eq_false hc1; omega
   have e := Eq.symm (eachN0_out q2 hlt1)
   subst e
   exact wpc_exit <| thE <| thE <| exB <| nrm <| ⟨outP, m1, _, Mem.tr L3 L2, S1, h1, trivial⟩
 rintro f16 w18 ho ⟨m18, X2, l2, S19, h2, ha⟩
 obtain ⟨u16, rfl⟩ := fr_of (N := 22) ho ha
 clear ho ha S
 refine outNw fun we hpd => ?_
 replace S19 := St.pd S19 hpd
 have e0 := Option.some.inj hm
 subst e0
 replace L0 := Mem.tr L0 l2
 exact outR [] rfl trivial ⟨_, L0, _, S19, rfl, h2⟩
def m_bits_Mul64 (a0 : UInt64) (a1 : UInt64) : Option (UInt64 × UInt64) :=
  bnd (((a0 &&& 4294967295) * (a1 &&& 4294967295))) fun x1 =>
  bnd ((((shrU a0 32) * (a1 &&& 4294967295)) + (shrU x1 32))) fun x2 =>
  bnd (((x2 &&& 4294967295) + ((a0 &&& 4294967295) * (shrU a1 32)))) fun x3 =>
  bnd (((((shrU a0 32) * (shrU a1 32)) + (shrU x2 32)) + (shrU x3 32))) fun x4 =>
  some (x4, (a0 * a1))
theorem w_bits_Mul64 {a0 : UInt64} {a1 : UInt64} {r : UInt64 × UInt64} (hm : m_bits_Mul64 a0 a1 = some r) : Sf prog 131 [.d (.u a0), .d (.u a1)] (.tup [.d (.u r.1), .d (.u r.2)]) :=
  sp call131 func131 rfl ntmps131 rfl fun D0 As η0 m0 hd => by
    unfold m_bits_Mul64 at hm
    have hm := bnd_is hm
    let x1 : UInt64 := (((a0 &&& 4294967295) * (a1 &&& 4294967295)))
    have hm := bnd_is hm
    let x2 : UInt64 := ((((shrU a0 32) * (a1 &&& 4294967295)) + (shrU x1 32)))
    have hm := bnd_is hm
    let x3 : UInt64 := (((x2 &&& 4294967295) + ((a0 &&& 4294967295) * (shrU a1 32))))
    have hm := bnd_is hm
    let x4 : UInt64 := (((((shrU a0 32) * (shrU a1 32)) + (shrU x2 32)) + (shrU x3 32)))
    have e0 := Option.some.inj hm
    subst e0
    exact gend hd (by kernel_rfl)
theorem v_bits_Mul64 {m : Mem} {As : List Ow} {w : World} {a0 : UInt64} {a1 : UInt64} {r : UInt64 × UInt64} (S : St m As w) (hm : m_bits_Mul64 a0 a1 = some r) :
    CallsR prog 131 #[vU a0, vU a1] w fun v w' => ∃ (M : Mem), m ≤ M ∧ St M (As) w' ∧ v = .tuple #[vU r.1, vU r.2] := by
  refine CallsR.mono ((w_bits_Mul64 hm).2 none0 m As w [vU a0, vU a1] (.cons (.d (.u _)) (.cons (.d (.u _)) .nil)) (fun n h => absurd rfl h) S) ?_
  rintro v w' ⟨M, η', r', obs', n1, hle, _, ⟨rfl, rfl, rfl⟩, hdom, hR, S'⟩
  obtain ⟨us, rfl, hR0⟩ := hR.tup_inv
  obtain ⟨v0, u0, rfl, q0, hR1⟩ := RelL.cons_inv hR0
  obtain ⟨v1, u1, rfl, q1, hR2⟩ := RelL.cons_inv hR1
  obtain rfl := RelL.nil_inv hR2
  obtain rfl := q0.u_inv
  obtain rfl := q1.u_inv
  exact ⟨M, hle, S', rfl⟩
def m_field_Mul (a0 : UInt64) (a1 : UInt64) : Option UInt64 :=
  obind (m_field_one a0) fun x1 =>
  obind (m_field_one a1) fun x2 =>
  obind (m_bits_Mul64 x1 x2) fun x3 =>
  obind (m_field_fold x3.1 x3.2) fun x4 =>
  some x4
theorem w_field_Mul {a0 : UInt64} {a1 : UInt64} {r : UInt64} (hm : m_field_Mul a0 a1 = some r) : Sf prog 149 [.d (.u a0), .d (.u a1)] (.d (.u r)) :=
  sp call149 func149 rfl ntmps149 rfl fun D0 As η0 m0 hd => by
    unfold m_field_Mul at hm
    obtain ⟨x1, q1, hm⟩ := obind_some hm
    refine gc (fun _ => w_field_one q1) (by kernel_rfl) ?_
    obtain ⟨x2, q2, hm⟩ := obind_some hm
    refine gc (fun _ => w_field_one q2) (by kernel_rfl) ?_
    obtain ⟨x3, q3, hm⟩ := obind_some hm
    refine gc (fun _ => w_bits_Mul64 q3) (by kernel_rfl) ?_
    obtain ⟨x4, q4, hm⟩ := obind_some hm
    refine gc (fun _ => w_field_fold q4) (by kernel_rfl) ?_
    have e0 := Option.some.inj hm
    subst e0
    exact gend hd (by kernel_rfl)
def m_hash_seventeen_b1  (i1 : Int) (s1 : UInt64) : Option (UInt64) :=
  obind (m_field_Mul s1 s1) fun x4 =>
  some x4
def m_hash_seventeen (a0 : UInt64) : Option UInt64 :=
  obind (
    obind (eachN0 m_hash_seventeen_b1 4 0 a0) fun x2 =>
    some x2
  ) fun x1 =>
  obind (m_field_Mul a0 x1) fun x5 =>
  some x5
theorem w_hash_seventeen {a0 : UInt64} {r : UInt64} (hm : m_hash_seventeen a0 = some r) : Sf prog 141 [.d (.u a0)] (.d (.u r)) :=
  sp call141 func141 rfl ntmps141 rfl fun D0 As η0 m0 hd => by
    unfold m_hash_seventeen at hm
    obtain ⟨x1, q1, hm⟩ := obind_some hm
    obtain ⟨x2, q2, q1⟩ := obind_some q1
    refine gjU 0 (fun (_ : Unit) => ⟨[(0, .d (.u a0)), (3, .d (.u x1))], [], [], 0⟩) (fun _ => True) (by kernel_rfl) (fun Jp bk1 => ?_) fun _ _ => ?_
    · refine gjU 0 (fun (_ : Unit) => ⟨[(0, .d (.u a0)), (3, .d (.u x2))], [], [], 0⟩) (fun _ => True) (by kernel_rfl) (fun Jp bk2 => ?_) fun _ _ => ?_
      · refine gl hd (fun (p : Int × (UInt64)) => let (p0, p_0) := p; ⟨[(0, .d (.u a0)), (3, .d (.u p_0)), (5, .d (.i p0))], [], [], 0⟩) (fun p => ∃ i : Nat, p.1 = (i : Int) ∧ i ≤ 4 ∧ eachN0 m_hash_seventeen_b1 (4 - i) (i : Int) p.2 = some x2) (fun p => 4 - p.1.toNat) (0, a0) ⟨0, rfl, Nat.zero_le _, q2⟩ (by kernel_rfl) ?_
        rintro ⟨_, s1⟩ ⟨i1, rfl, hi, q3⟩ Jl bl1
        refine gi' (b := decide ((i1 : Int) < (4 : Int))) (by kernel_rfl) (fun hc1 => ?_) fun hc1 => ?_
        · have hlt1 : i1 < 4 := by have := of_decide_eq_true hc1; omega
          obtain ⟨y1, q5, q4⟩ := eachN0_in q3 hlt1
          unfold m_hash_seventeen_b1 at q5
          obtain ⟨x4, q7, q5⟩ := obind_some q5
          refine gc (fun _ => w_field_Mul q7) (by kernel_rfl) ?_
          have e0 := Option.some.inj q5
          subst e0
          exact gb bl1 hd (w64 ((i1 : Int) + 1), x4) ⟨⟨i1 + 1, w64_succ hlt1 (by decide), by omega, q4⟩, mu_lt hlt1 (by decide)⟩ (by kernel_rfl)
        have hlt1 : ¬ i1 < 4 := by have := of_decide_eq_false hc1; omega
        have e := Eq.symm (eachN0_out q3 hlt1)
        subst e
        exact gb bk2 hd () trivial (by kernel_rfl)
      have e0 := Option.some.inj q1
      subst e0
      exact gb bk1 hd () trivial (by kernel_rfl)
    obtain ⟨x5, q8, hm⟩ := obind_some hm
    refine gc (fun _ => w_field_Mul q8) (by kernel_rfl) ?_
    have e0 := Option.some.inj hm
    subst e0
    exact gend hd (by kernel_rfl)
theorem v_hash_seventeen {m : Mem} {As : List Ow} {w : World} {a0 : UInt64} {r : UInt64} (S : St m As w) (hm : m_hash_seventeen a0 = some r) :
    CallsR prog 141 #[vU a0] w fun v w' => ∃ (M : Mem), m ≤ M ∧ St M (As) w' ∧ v = vU r := by
  refine CallsR.mono ((w_hash_seventeen hm).2 none0 m As w [vU a0] (.cons (.d (.u _)) .nil) (fun n h => absurd rfl h) S) ?_
  rintro v w' ⟨M, η', r', obs', n1, hle, _, ⟨rfl, rfl, rfl⟩, hdom, hR, S'⟩
  obtain rfl := hR.u_inv
  exact ⟨M, hle, S', rfl⟩
def m_hash_Mix_1 (a0 : Int) (a1 : UInt64) (k0 : Int) (k1 : UInt64) : Option (UInt64 × Int × UInt64) :=
  bnd ((toU (w64 ((w64 ((w64 (3 * k0)) + a0)) + 1)))) fun x1 =>
  obind (m_field_Add a1 (((x1 * x1) * x1) + 7)) fun x2 =>
  obind (m_hash_seventeen x2) fun x3 =>
  obind (m_field_Add k1 x3) fun x4 =>
  some (x3, k0, x4)
theorem w_hash_Mix_1 {m : Mem} {As : List Ow} {w : World} {a0 : Int} {a1 : UInt64} {kb0 : Nat} {k0 : Int} {kb1 : Nat} {k1 : UInt64} {r : UInt64 × Int × UInt64} (S : St m ((bx kb0 [vI k0] 3) :: (bx kb1 [vU k1] 22) :: As) w) (hm : m_hash_Mix_1 a0 a1 k0 k1 = some r) :
    CallsR Tryz.prog 140 #[vI a0, vU a1, pt kb0 0, pt kb1 0] w fun v w' => ∃ (M : Mem), m ≤ M ∧ St M ((bx kb0 [vI r.2.1] 3) :: (bx kb1 [vU r.2.2] 22) :: As) w' ∧ v = vU r.1 := by
 unfold m_hash_Mix_1 at hm
 have L0 := Mem.rfl' m
 refine callsR (args := [vI a0, vU a1, pt kb0 0, pt kb1 0]) func140 rfl ntmps140 (nb rfl) <| ws <| s_asv (v := vU 0) rfl <| nx <| s_ld (i := 0) (cs := [vI k0]) S rfl rfl isAgg3 sizeOf3 rfl (fun _ => rfl) <| s_mulI (m := 3) (n := k0) rfl rfl <| s_mvv (v := vI a0) rfl <| s_addI (m := (w64 (3 * k0))) (n := a0) rfl rfl <| s_addI (m := (w64 ((w64 (3 * k0)) + a0))) (n := 1) rfl rfl <| s_convU rfl underlying3 underlying22 ?_
 obtain ⟨x1, q1, hm⟩ := bnd_eq hm
 refine s_asv (v := vU x1) (congrArg (fun z => vU z) q1.symm) <| nx <| s_mvv (v := vU a1) rfl <| s_mvv (v := vU x1) rfl <| s_mvv (v := vU x1) rfl <| s_mulU (m := x1) (n := x1) rfl rfl <| s_mvv (v := vU x1) rfl <| s_mulU (m := (x1 * x1)) (n := x1) rfl rfl <| s_addU (m := ((x1 * x1) * x1)) (n := 7) rfl rfl ?_
 obtain ⟨x2, q2, hm⟩ := obind_some hm
 refine s_call call121 (v_field_Add (a0 := a1) (a1 := (((x1 * x1) * x1) + 7)) S  q2) rfl ?_
 rintro _ w1 ⟨m1, l1, S1, rfl⟩
 clear S
 obtain ⟨x3, q3, hm⟩ := obind_some hm
 refine s_call call141 (v_hash_seventeen (a0 := x2) S1  q3) rfl ?_
 rintro _ w2 ⟨m2, l2, S2, rfl⟩
 clear S1
 refine s_asv (v := vU x3) rfl <| nx <| s_ld (i := 1) (cs := [vU k1]) S2 rfl rfl isAgg22 sizeOf22 rfl (fun _ => rfl) <| s_mvv (v := vU x3) rfl ?_
 obtain ⟨x4, q4, hm⟩ := obind_some hm
 refine s_call call121 (v_field_Add (a0 := k1) (a1 := x3) S2  q4) rfl ?_
 rintro _ w3 ⟨m3, l3, S3, rfl⟩
 clear S2
 refine s_stL (i := 1) S3 rfl rfl rfl sizeOf22 (oneC rfl oneN) rfl fun w4 S4 => ?_
 replace S4 : St _ ((bx kb0 [vI k0] 3) :: (bx kb1 [vU x4] 22) :: As) _ := S4
 clear S3
 refine nx <| s_mvv (v := vU x3) rfl <| s_asv (v := vU x3) rfl <| wpl_nil <| nrm <| wpc_ret <| outRw fun we hpd => ?_
 replace S4 := St.pd S4 hpd
 have e0 := Option.some.inj hm
 subst e0
 replace L0 := Mem.tr L0 (mt l1 (mt l2 l3))
 exact outR [_] rfl ⟨rfl, trivial⟩ ⟨_, L0, S4, rfl⟩
def m_hash_Mix_2 (a0 : Int) (a1 : UInt64) (k0 : UInt64) : Option (UInt64 × UInt64) :=
  obind (m_field_Add a1 k0) fun x1 =>
  some (x1, k0)
theorem w_hash_Mix_2 {m : Mem} {As : List Ow} {w : World} {a0 : Int} {a1 : UInt64} {kb0 : Nat} {k0 : UInt64} {r : UInt64 × UInt64} (S : St m ((bx kb0 [vU k0] 22) :: As) w) (hm : m_hash_Mix_2 a0 a1 k0 = some r) :
    CallsR Tryz.prog 142 #[vI a0, vU a1, pt kb0 0] w fun v w' => ∃ (M : Mem), m ≤ M ∧ St M ((bx kb0 [vU r.2] 22) :: As) w' ∧ v = vU r.1 := by
 unfold m_hash_Mix_2 at hm
 have L0 := Mem.rfl' m
 refine callsR (args := [vI a0, vU a1, pt kb0 0]) func142 rfl ntmps142 (nb rfl) <| ws <| s_asv (v := vU 0) rfl <| nx <| s_mvv (v := vU a1) rfl <| s_ld (i := 0) (cs := [vU k0]) S rfl rfl isAgg22 sizeOf22 rfl (fun _ => rfl) ?_
 obtain ⟨x1, q1, hm⟩ := obind_some hm
 refine s_call call121 (v_field_Add (a0 := a1) (a1 := k0) S  q1) rfl ?_
 rintro _ w1 ⟨m1, l1, S1, rfl⟩
 clear S
 refine s_asv (v := vU x1) rfl <| wpl_nil <| nrm <| wpc_ret <| outRw fun we hpd => ?_
 replace S1 := St.pd S1 hpd
 have e0 := Option.some.inj hm
 subst e0
 replace L0 := Mem.tr L0 l1
 exact outR [_] rfl ⟨rfl, trivial⟩ ⟨_, L0, S1, rfl⟩
def m_hash_Mix_b4  (i1 : Int) (s1 : UInt64 × UInt64 × UInt64) : Option (UInt64 × UInt64 × UInt64) :=
  obind (m_hash_state_each s1 (fun (s2 : Int × UInt64) (b7 : Int) (b8 : UInt64) => obind (m_hash_Mix_1 b7 b8 ((s2).1) ((s2).2)) fun x4 => some (x4.1, (x4.2.1, x4.2.2))) ((i1 : Int), 0)) fun x5 =>
  obind (m_hash_state_each x5.1 (fun (s3 : UInt64) (b9 : Int) (b10 : UInt64) => obind (m_hash_Mix_2 b9 b10 s3) fun x6 => some (x6.1, x6.2)) x5.2.2) fun x7 =>
  some (x7.1.1, x7.1.2.1, x7.1.2.2)
def m_hash_Mix (a0 : UInt64 × UInt64 × UInt64) : Option (UInt64 × UInt64 × UInt64) :=
  obind (
    obind (eachN0 m_hash_Mix_b4 8 0 (a0.1, a0.2.1, a0.2.2)) fun x2 =>
    some (x2.1, x2.2.1, x2.2.2)
  ) fun x1 =>
  some x1
theorem w_hash_Mix {m : Mem} {As : List Ow} {w : World} {a0 : UInt64 × UInt64 × UInt64} {r : UInt64 × UInt64 × UInt64} (S : St m (As) w) (hm : m_hash_Mix a0 = some r) :
    CallsR Tryz.prog 122 #[.agg #[vU a0.1, vU a0.2.1, vU a0.2.2]] w fun v w' => ∃ (M : Mem), m ≤ M ∧ St M (As) w' ∧ v = .agg #[vU r.1, vU r.2.1, vU r.2.2] := by
 unfold m_hash_Mix at hm
 have L0 := Mem.rfl' m
 refine callsR (args := [.agg #[vU a0.1, vU a0.2.1, vU a0.2.2]]) func122 rfl ntmps122 (nb rfl) <| ws <| s_box S rfl fun b1 w1 S1 => ?_
 replace S1 : St _ ((bx b1 [vU a0.1, vU a0.2.1, vU a0.2.2] 139) :: As) _ := S1
 clear S
 refine s_alloc S1 zeroValue139 fun b2 w2 S2 => ?_
 replace S2 : St _ ((bx b2 [vU 0, vU 0, vU 0] 139) :: (bx b1 [vU a0.1, vU a0.2.1, vU a0.2.2] 139) :: As) _ := S2
 clear S1
 refine nx <| s_ld (i := 1) (cs := [vU a0.1, vU a0.2.1, vU a0.2.2]) S2 rfl rfl isAgg139 sizeOf139 rfl (fun h => by cases h) <| s_alloc S2 zeroValue154 fun b3 w3 S3 => s_stL (i := 0) S3 rfl rfl rfl sizeOf154 (oneC rfl (oneC rfl (oneC rfl oneN))) rfl fun w4 S4 => ?_
 replace S4 : St _ ((bx b3 [vU a0.1, vU a0.2.1, vU a0.2.2] 154) :: (bx b2 [vU 0, vU 0, vU 0] 139) :: (bx b1 [vU a0.1, vU a0.2.1, vU a0.2.2] 139) :: As) _ := S4
 clear S2 S3
 refine wpl_nil <| nrm ?_
 obtain ⟨x1, q1, hm⟩ := obind_some hm
 have L1 := Mem.rfl' m
 refine wpc_seq <| wpc_join [4, 5, 7, 8, 9, 10, 11, 12, 13, 14] (fun f' w' => ∃ (M1 : Mem), m ≤ M1 ∧ St M1 ((bx b3 [vU x1.1, vU x1.2.1, vU x1.2.2] 154) :: (bx b2 [vU 0, vU 0, vU 0] 139) :: (bx b1 [vU a0.1, vU a0.2.1, vU a0.2.2] 139) :: As) w' ∧ AllAt f' []) ?_ ?_
 · refine ws <| s_mvv (v := vI 0) rfl <| wpl_nil <| nrm ?_
   obtain ⟨x2, q2, q1⟩ := obind_some q1
   have L2 := Mem.rfl' m
   refine wpc_join [4, 5, 7, 8, 9, 10, 11, 12, 13, 14] (fun f' w' => ∃ (M2 : Mem), m ≤ M2 ∧ St M2 ((bx b3 [vU x2.1, vU x2.2.1, vU x2.2.2] 154) :: (bx b2 [vU 0, vU 0, vU 0] 139) :: (bx b1 [vU a0.1, vU a0.2.1, vU a0.2.2] 139) :: As) w' ∧ AllAt f' []) ?_ ?_
   · refine wpc_block <| wpc_rounds [4, 5, 7, 8, 9, 10, 11, 12, 13, 14] (fun n1 f' w' => ∃ (i1 : Nat) (s1 : UInt64 × UInt64 × UInt64) (m10 : Mem), n1 = 8 - i1 ∧ i1 ≤ 8 ∧ eachN0 m_hash_Mix_b4 (8 - i1) (i1 : Int) s1 = some x2 ∧ m ≤ m10 ∧ St m10 ((bx b3 [vU s1.1, vU s1.2.1, vU s1.2.2] 154) :: (bx b2 [vU 0, vU 0, vU 0] 139) :: (bx b1 [vU a0.1, vU a0.2.1, vU a0.2.2] 139) :: As) w' ∧ AllAt f' [(7, vI (i1 : Int))]) 8 ⟨0, (a0.1, a0.2.1, a0.2.2), m, rfl, Nat.zero_le _, q2, L2, S4, ⟨rfl, trivial⟩⟩ ?_
     rintro n1 f1 w5 ho ⟨i1, s1, m1, hn, hi, q3, L4, S5, ha⟩
     obtain ⟨u1, rfl⟩ := fr_of (N := 16) ho ha
     clear ho ha
     have L3 := Mem.rfl' m1
     clear S4
     refine ws <| s_lss (m := (i1 : Int)) (n := 8) rfl rfl <| wpl_nil <| nrm <| wpc_seq <| wpc_if (t := decide ((i1 : Int) < (8 : Int))) rfl (fun hc1 => ?_) (fun hc1 => ?_)
     · have hlt1 : i1 < 8 := by have := of_decide_eq_true hc1; omega
       obtain ⟨y1, q5, q4⟩ := eachN0_in q3 hlt1
       unfold m_hash_Mix_b4 at q5
       refine wpc_skip <| nrm <| wpc_seq <| wpc_block <| ws <| s_mvv (v := vI (i1 : Int)) rfl <| s_alloc S5 zeroValue3 fun b5 w6 S6 => s_stL (i := 0) S6 rfl rfl rfl sizeOf3 (oneC rfl oneN) rfl fun w7 S7 => nx <| s_alloc S7 zeroValue22 fun b6 w8 S8 => ?_
       replace S8 : St _ ((bx b6 [vU 0] 22) :: (bx b5 [vI (i1 : Int)] 3) :: (bx b3 [vU s1.1, vU s1.2.1, vU s1.2.2] 154) :: (bx b2 [vU 0, vU 0, vU 0] 139) :: (bx b1 [vU a0.1, vU a0.2.1, vU a0.2.2] 139) :: As) _ := S8
       clear S5 S6 S7
       refine nx <| s_funcC (caps := [pt b5 0, pt b6 0]) rfl ?_
       have hcb1 : ∀ {m' : Mem} {As' : List Ow} {w' : World} {s : Int × UInt64} {X : List Ow} {b0 : Int} {b1 : UInt64} {r : UInt64 × (Int × UInt64)}, St m' (X ++ As') w' → (X = [bx b5 [vI ((s).1)] 3, bx b6 [vU ((s).2)] 22]) → (fun (s2 : Int × UInt64) (b7 : Int) (b8 : UInt64) => obind (m_hash_Mix_1 b7 b8 ((s2).1) ((s2).2)) fun x4 => some (x4.1, (x4.2.1, x4.2.2))) s b0 b1 = some r → CallV Tryz.prog (.func (.func 140) #[] #[pt b5 0, pt b6 0]) [vI b0, vU b1] w' fun v w'' => ∃ (M : Mem) (X' : List Ow), m' ≤ M ∧ St M (X' ++ As') w'' ∧ (X' = [bx b5 [vI ((r.2).1)] 3, bx b6 [vU ((r.2).2)] 22]) ∧ v = vU r.1 := by
         intro m2 As1 w9 s2 X1 b7 b8 r1 S9 h1 hm1
         subst h1
         replace S9 : St _ ((bx b5 [vI ((s2).1)] 3) :: (bx b6 [vU ((s2).2)] 22) :: As1) _ := S9
         have L5 := Mem.rfl' m2
         obtain ⟨x4, q7, hm1⟩ := obind_some hm1
         refine CallV.mono (CallV.clo (pre := []) call140 rfl (w_hash_Mix_1 (a0 := b7) (a1 := b8) (k0 := ((s2).1)) (k1 := ((s2).2)) S9  q7)) ?_
         rintro _ w10 ⟨m3, l1, S10, rfl⟩
         replace L5 := Mem.tr L5 l1
         clear S9
         replace S10 : St _ ((bx b5 [vI x4.2.1] 3) :: (bx b6 [vU x4.2.2] 22) :: As1) _ := S10
         have e0 := Option.some.inj hm1
         subst e0
         exact ⟨_, [bx b5 [vI x4.2.1] 3, bx b6 [vU x4.2.2] 22], L5, S10, rfl, rfl⟩
       have S11 : St _ ((bx b3 [vU s1.1, vU s1.2.1, vU s1.2.2] 154) :: (bx b5 [vI (i1 : Int)] 3) :: (bx b6 [vU 0] 22) :: (bx b2 [vU 0, vU 0, vU 0] 139) :: (bx b1 [vU a0.1, vU a0.2.1, vU a0.2.2] 139) :: As) _ := St.perm S8 (List.Perm.trans (List.Perm.cons _ (List.Perm.swap _ _ _)) (List.Perm.trans (List.Perm.swap _ _ _) (List.Perm.cons _ (List.Perm.swap _ _ _))))
       clear S8
       obtain ⟨x5, q8, q5⟩ := obind_some q5
       refine s_call call139 (w_hash_state_each (a0 := s1) (p1 := (fun (s2 : Int × UInt64) (b7 : Int) (b8 : UInt64) => obind (m_hash_Mix_1 b7 b8 ((s2).1) ((s2).2)) fun x4 => some (x4.1, (x4.2.1, x4.2.2)))) (s0 := ((i1 : Int), 0)) (R := (fun (s : Int × UInt64) (M : Mem) (X : List Ow) => (X = [bx b5 [vI ((s).1)] 3, bx b6 [vU ((s).2)] 22]))) (X0 := [bx b5 [vI (i1 : Int)] 3, bx b6 [vU 0] 22]) (As := (bx b2 [vU 0, vU 0, vU 0] 139) :: (bx b1 [vU a0.1, vU a0.2.1, vU a0.2.2] 139) :: As) S11 (fun {_ _ _ _} _ h => h) rfl @hcb1 rfl q8) rfl ?_
       rintro _ w11 ⟨m4, l2, X2, S12, rfl, rfl⟩
       clear S11
       refine wpl_nil <| nrm <| wpc_region <| s_funcC (caps := [pt b6 0]) rfl ?_
       have hcb2 : ∀ {m' : Mem} {As' : List Ow} {w' : World} {s : UInt64} {X : List Ow} {b0 : Int} {b1 : UInt64} {r : UInt64 × UInt64}, St m' (X ++ As') w' → (X = [bx b6 [vU (s)] 22]) → (fun (s3 : UInt64) (b9 : Int) (b10 : UInt64) => obind (m_hash_Mix_2 b9 b10 s3) fun x6 => some (x6.1, x6.2)) s b0 b1 = some r → CallV Tryz.prog (.func (.func 142) #[] #[pt b6 0]) [vI b0, vU b1] w' fun v w'' => ∃ (M : Mem) (X' : List Ow), m' ≤ M ∧ St M (X' ++ As') w'' ∧ (X' = [bx b6 [vU (r.2)] 22]) ∧ v = vU r.1 := by
         intro m5 As2 w12 s3 X3 b9 b10 r2 S13 h2 hm2
         subst h2
         replace S13 : St _ ((bx b6 [vU s3] 22) :: As2) _ := S13
         have L6 := Mem.rfl' m5
         obtain ⟨x6, q9, hm2⟩ := obind_some hm2
         refine CallV.mono (CallV.clo (pre := []) call142 rfl (w_hash_Mix_2 (a0 := b9) (a1 := b10) (k0 := s3) S13  q9)) ?_
         rintro _ w13 ⟨m6, l3, S14, rfl⟩
         replace L6 := Mem.tr L6 l3
         clear S13
         replace S14 : St _ ((bx b6 [vU x6.2] 22) :: As2) _ := S14
         have e0 := Option.some.inj hm2
         subst e0
         exact ⟨_, [bx b6 [vU x6.2] 22], L6, S14, rfl, rfl⟩
       have S15 : St _ ((bx b3 [vU x5.1.1, vU x5.1.2.1, vU x5.1.2.2] 154) :: (bx b6 [vU x5.2.2] 22) :: (bx b5 [vI x5.2.1] 3) :: (bx b2 [vU 0, vU 0, vU 0] 139) :: (bx b1 [vU a0.1, vU a0.2.1, vU a0.2.2] 139) :: As) _ := St.perm S12 (List.Perm.cons _ (List.Perm.swap _ _ _))
       clear S12
       obtain ⟨x7, q10, q5⟩ := obind_some q5
       refine s_call call139 (w_hash_state_each (a0 := x5.1) (p1 := (fun (s3 : UInt64) (b9 : Int) (b10 : UInt64) => obind (m_hash_Mix_2 b9 b10 s3) fun x6 => some (x6.1, x6.2))) (s0 := x5.2.2) (R := (fun (s : UInt64) (M : Mem) (X : List Ow) => (X = [bx b6 [vU (s)] 22]))) (X0 := [bx b6 [vU x5.2.2] 22]) (As := (bx b5 [vI x5.2.1] 3) :: (bx b2 [vU 0, vU 0, vU 0] 139) :: (bx b1 [vU a0.1, vU a0.2.1, vU a0.2.2] 139) :: As) S15 (fun {_ _ _ _} _ h => h) rfl @hcb2 rfl q10) rfl ?_
       rintro _ w14 ⟨m7, l4, X4, S16, rfl, rfl⟩
       clear S15
       refine wpl_nil <| nrmB <| nrm <| wpc_region <| s_addI (m := (i1 : Int)) (n := 1) rfl rfl <| s_mvv (v := vI (w64 ((i1 : Int) + 1))) rfl <| wpl_nil <| nrm ?_
       obtain ⟨m8, l5, S17⟩ := St.drop S16 1
       clear S16
       replace S17 : St _ ((bx b3 [vU x7.1.1, vU x7.1.2.1, vU x7.1.2.2] 154) :: (bx b5 [vI x5.2.1] 3) :: (bx b2 [vU 0, vU 0, vU 0] 139) :: (bx b1 [vU a0.1, vU a0.2.1, vU a0.2.2] 139) :: As) _ := S17
       obtain ⟨m9, l6, S18⟩ := St.drop S17 1
       clear S17
       replace S18 : St _ ((bx b3 [vU x7.1.1, vU x7.1.2.1, vU x7.1.2.2] 154) :: (bx b2 [vU 0, vU 0, vU 0] 139) :: (bx b1 [vU a0.1, vU a0.2.1, vU a0.2.2] 139) :: As) _ := S18
       have e0 := Option.some.inj q5
       subst e0
       replace L3 := Mem.tr L3 (mt l2 (mt l4 (mt l5 l6)))
       exact ⟨outP, _, (by omega), ⟨i1 + 1, (x7.1.1, x7.1.2.1, x7.1.2.2), m9, rfl, hlt1, q4, Mem.tr L4 L3, S18, ⟨congrArg (Value.int .i64) (w64_succ hlt1 (by decide)), trivial⟩⟩⟩
     have hlt1 : ¬ i1 < 8 := by have := of_decide_eq_false hc1; omega
     have e := Eq.symm (eachN0_out q3 hlt1)
     subst e
     exact wpc_exit <| thE <| thE <| exB <| nrm <| ⟨outP, m1, Mem.tr L4 L3, S5, trivial⟩
   rintro f2 w15 ho ⟨m11, l7, S19, ha⟩
   obtain ⟨u2, rfl⟩ := fr_of (N := 16) ho ha
   clear ho ha S4
   have e0 := Option.some.inj q1
   subst e0
   replace L1 := Mem.tr L1 l7
   exact ⟨outP, m11, L1, S19, trivial⟩
 rintro f3 w16 ho ⟨m12, l8, S20, ha⟩
 obtain ⟨u3, rfl⟩ := fr_of (N := 16) ho ha
 clear S4
 refine ws <| s_ld (i := 0) (cs := [vU x1.1, vU x1.2.1, vU x1.2.2]) S20 rfl rfl isAgg154 sizeOf154 rfl (fun h => by cases h) <| s_stL (i := 1) S20 rfl rfl rfl sizeOf139 (oneC rfl (oneC rfl (oneC rfl oneN))) rfl fun w17 S21 => ?_
 replace S21 : St _ ((bx b3 [vU x1.1, vU x1.2.1, vU x1.2.2] 154) :: (bx b2 [vU x1.1, vU x1.2.1, vU x1.2.2] 139) :: (bx b1 [vU a0.1, vU a0.2.1, vU a0.2.2] 139) :: As) _ := S21
 clear S20
 refine wpl_nil <| nrm <| wpc_ret <| outRw fun we hpd => ?_
 replace S21 := St.pd S21 hpd
 have SR := S21
 obtain ⟨m13, l9, S22⟩ := St.drop S21 0
 replace S22 : St _ ((bx b2 [vU x1.1, vU x1.2.1, vU x1.2.2] 139) :: (bx b1 [vU a0.1, vU a0.2.1, vU a0.2.2] 139) :: As) _ := S22
 obtain ⟨m14, l10, S23⟩ := St.drop S22 0
 clear S22
 replace S23 : St _ ((bx b1 [vU a0.1, vU a0.2.1, vU a0.2.2] 139) :: As) _ := S23
 obtain ⟨m15, l11, S24⟩ := St.drop S23 0
 clear S23
 replace S24 : St _ (As) _ := S24
 have e0 := Option.some.inj hm
 subst e0
 replace L0 := Mem.tr L0 (mt l8 (mt l9 (mt l10 l11)))
 exact outR [_] rfl ⟨res_box (i := 1) (off := 0) (cs := [vU x1.1, vU x1.2.1, vU x1.2.2]) SR rfl rfl isAgg139 sizeOf139 rfl (fun h => by cases h), trivial⟩ ⟨_, L0, S24, rfl⟩
def m_hash_Sum_b4 (x6 : List UInt64) (i2 : Int) (s2 : UInt64 × UInt64 × UInt64) : Option (UInt64 × UInt64 × UInt64) :=
  obind (idx x6 (i2 : Int)) fun x9 =>
  obind (idx [s2.1, s2.2.1, s2.2.2] (i2 : Int)) fun x10 =>
  obind (m_field_Add x10 x9) fun x11 =>
  obind (idx [s2.1, s2.2.1, s2.2.2] (i2 : Int)) fun x12 =>
  bnd (if (i2 : Int) = 0 then x11 else s2.1) fun x13 =>
  bnd (if (i2 : Int) = 1 then x11 else s2.2.1) fun x14 =>
  bnd (if (i2 : Int) = 2 then x11 else s2.2.2) fun x15 =>
  some (x13, x14, x15)
def m_hash_Sum_b3  (s1 : (List UInt64) × Bool × UInt64 × UInt64 × UInt64) : Option (((List UInt64) × Bool × UInt64 × UInt64 × UInt64) ⊕ (UInt64 × UInt64 × UInt64)) :=
  if (s1.2.1 || (decide ((s1.1.length : Int) > 0))) = true then
    obind (
      obind (cut s1.1 0 (minI 2 (s1.1.length : Int))) fun x6 =>
      obind (eachN0 (m_hash_Sum_b4 x6) x6.length 0 (s1.2.2.1, s1.2.2.2.1, s1.2.2.2.2)) fun x7 =>
      some (x7.1, x7.2.1, x7.2.2)
    ) fun x5 =>
    obind (cut s1.1 (minI 2 (s1.1.length : Int)) (s1.1.length : Int)) fun x16 =>
    obind (m_hash_Mix x5) fun x17 =>
    some (.inl (x16, false, x17.1, x17.2.1, x17.2.2))
  else
  some (.inr (s1.2.2.1, s1.2.2.2.1, s1.2.2.2.2))
def m_hash_Sum (a0 : List UInt8) : Option (UInt64 × UInt64) :=
  obind (m_field_Of a0) fun x1 =>
  obind (
    obind (iter m_hash_Sum_b3 FUEL (x1, true, 0, 0, (toU (a0.length : Int)))) fun x3 =>
    some (x3.1, x3.2.1, x3.2.2)
  ) fun x2 =>
  some (x2.1, x2.2.1)
theorem w_hash_Sum {m : Mem} {As : List Ow} {w : World} {a0 : List UInt8} {a0v0 : Value} {r : UInt64 × UInt64} (S : St m (As) w) (a0h0 : SlR m a0v0 a0) (hm : m_hash_Sum a0 = some r) :
    CallsR Tryz.prog 99 #[a0v0] w fun v w' => ∃ (M : Mem), m ≤ M ∧ St M (As) w' ∧ v = .agg #[vU r.1, vU r.2] := by
 unfold m_hash_Sum at hm
 have L0 := Mem.rfl' m
 refine callsR (args := [a0v0]) func99 rfl ntmps99 (nb rfl) <| ws <| s_alloc S zeroValue34 fun b1 w1 S1 => ?_
 replace S1 : St _ ((bx b1 z_api_Sig 34) :: As) _ := S1
 clear S
 refine nx <| s_mvv (v := a0v0) rfl <| s_lenR (xs := a0) rfl a0h0 underlying51 <| s_convU rfl underlying3 underlying22 <| s_build (parts := [(2, .tmp 11)]) (ps := [(2, vU (toU (a0.length : Int)), [vU (toU (a0.length : Int))])]) (cs := [vU 0, vU 0, vU (toU (a0.length : Int))]) zeroValue139 (BuildPl.arr underlying139 sizeOf22) rfl ⟨rfl, trivial⟩ rfl <| s_alloc S1 zeroValue139 fun b2 w2 S2 => s_stL (i := 0) S2 rfl rfl rfl sizeOf139 (oneC rfl (oneC rfl (oneC rfl oneN))) rfl fun w3 S3 => ?_
 replace S3 : St _ ((bx b2 [vU 0, vU 0, vU (toU (a0.length : Int))] 139) :: (bx b1 z_api_Sig 34) :: As) _ := S3
 clear S1 S2
 refine nx <| s_mvv (v := a0v0) rfl ?_
 obtain ⟨x1, q1, hm⟩ := obind_some hm
 refine s_call call120 (w_field_Of (a0 := a0) S3 a0h0 q1) rfl ?_
 rintro v1 w4 ⟨m1, l1, _, c1, S4, rfl, h1⟩
 clear S3
 refine s_asv (v := v1) rfl <| wpl_nil <| nrm ?_
 obtain ⟨x2, q2, hm⟩ := obind_some hm
 have L1 := Mem.rfl' m1
 refine wpc_seq <| wpc_join [4, 5, 6, 7, 8, 15, 16, 17, 18, 19, 20, 21, 22, 23, 24, 25, 26, 27, 28, 29, 30, 31, 32, 33, 34, 35, 36, 37, 38, 39, 40, 41, 42, 43, 44, 45] (fun f' w' => ∃ (M1 : Mem), m1 ≤ M1 ∧ St M1 ((bx b2 [vU x2.1, vU x2.2.1, vU x2.2.2] 139) :: (bx b1 z_api_Sig 34) :: As) w' ∧ AllAt f' []) ?_ ?_
 · refine ws <| s_asv (v := vb true) rfl <| wpl_nil <| nrm ?_
   obtain ⟨x3, q3, q2⟩ := obind_some q2
   have L2 := Mem.rfl' m1
   obtain ⟨m2, l2, h3, S5⟩ := St.rowKeepT (i := 0) S4 rfl h1 rfl
   clear S4
   refine wpc_join [4, 5, 6, 7, 8, 15, 16, 17, 18, 19, 20, 21, 22, 23, 24, 25, 26, 27, 28, 29, 30, 31, 32, 33, 34, 35, 36, 37, 38, 39, 40, 41, 42, 43, 44, 45] (fun f' w' => ∃ (M2 : Mem), m1 ≤ M2 ∧ St M2 ((bx b2 [vU x3.1, vU x3.2.1, vU x3.2.2] 139) :: (bx b1 z_api_Sig 34) :: As) w' ∧ AllAt f' []) ?_ ?_
   · refine wpc_block ?_
     replace L2 := Mem.tr L2 l2
     refine wpc_rounds [4, 5, 6, 7, 8, 15, 16, 17, 18, 19, 20, 21, 22, 23, 24, 25, 26, 27, 28, 29, 30, 31, 32, 33, 34, 35, 36, 37, 38, 39, 40, 41, 42, 43, 44, 45] (fun n1 f' w' => ∃ (s1 : (List UInt64) × Bool × UInt64 × UInt64 × UInt64) (m10 : Mem) (v2 : Value), iter m_hash_Sum_b3 n1 s1 = some x3 ∧ m1 ≤ m10 ∧ St m10 ((bx b2 [vU s1.2.2.1, vU s1.2.2.2.1, vU s1.2.2.2.2] 139) :: (bx b1 z_api_Sig 34) :: As) w' ∧ SlR m10 v2 s1.1 ∧ AllAt f' [(4, v2), (5, vb s1.2.1)]) FUEL ⟨(x1, true, 0, 0, (toU (a0.length : Int))), m2, _, q3, L2, S5, h3, ⟨rfl, rfl, trivial⟩⟩ ?_
     rintro n1 f1 w5 ho ⟨s1, m3, v2, q4, L4, S6, h2, ha⟩
     obtain ⟨u1, rfl⟩ := fr_of (N := 49) ho ha
     clear ho ha
     have L3 := Mem.rfl' m3
     clear S5
     cases n1 with
     | zero => exact (iter_zero q4).elim
     | succ n1 =>
      obtain ⟨y1, q6, q5⟩ := iter_succ q4
      unfold m_hash_Sum_b3 at q6
      refine wpc_seq <| ws <| s_mvv (v := vb s1.2.1) rfl <| s_mvv (v := vb s1.2.1) rfl <| wpl_cut 4 [17, 18, 19, 20] (fun f' w' => w' = w5 ∧ AllAt f' [(20, vb (s1.2.1 || (decide ((s1.1.length : Int) > 0))))]) ?_ ?_
      · rcases bool_tf s1.2.1 with hb1 | hb1
        · exact wpl_no (d := 16) rfl rfl (cb hb1) <| wpl_no (d := 16) rfl rfl (cb hb1) <| wpl_no (d := 16) rfl rfl (cb hb1) <| s_pickT (cb hb1) rfl <| wpl_nil (nrm ⟨outP, rfl, congrArg Value.bool (or_t hb1), trivial⟩)
        · exact wpl_yes (d := 16) rfl rfl (cb hb1) <| s_mvv (v := v2) rfl <| wpl_yes (d := 16) rfl rfl (cb hb1) <| s_lenR (xs := s1.1) rfl h2 underlying140 <| wpl_yes (d := 16) rfl rfl (cb hb1) <| s_gtr (m := (s1.1.length : Int)) (n := 0) rfl rfl <| s_pickF (cb hb1) rfl <| wpl_nil (nrm ⟨outP, rfl, congrArg Value.bool (or_f hb1), trivial⟩)
      rintro f2 w6 ho ⟨h4, ha⟩
      subst h4
      obtain ⟨u2, rfl⟩ := fr_of (N := 49) ho ha
      refine wpl_nil <| nrm <| wpc_if (t := (s1.2.1 || (decide ((s1.1.length : Int) > 0)))) rfl (fun hc1 => ?_) (fun hc1 => ?_)
      · replace q6 := ifT hc1 q6
        refine wpc_skip <| nrm <| wpc_seq <| wpc_block <| ws <| s_mvv (v := v2) rfl <| s_lenR (xs := s1.1) rfl h2 underlying140 <| s_minI (m := 2) rfl rfl <| s_asv (v := vI (minI 2 (s1.1.length : Int))) rfl <| wpl_nil <| nrm ?_
        obtain ⟨x5, q8, q6⟩ := obind_some q6
        have L5 := Mem.rfl' m3
        refine wpc_seq <| wpc_join [7, 8, 24, 25, 26, 27, 28, 29, 30, 31, 32, 33, 34, 35, 36, 37, 38, 39, 40] (fun f' w' => ∃ (M3 : Mem), m3 ≤ M3 ∧ St M3 ((bx b2 [vU x5.1, vU x5.2.1, vU x5.2.2] 139) :: (bx b1 z_api_Sig 34) :: As) w' ∧ AllAt f' []) ?_ ?_
        · refine ws <| s_mvv (v := v2) rfl <| s_mvv (v := vI (minI 2 (s1.1.length : Int))) rfl ?_
          obtain ⟨x6, q9, q8⟩ := obind_some q8
          refine s_cut (ys := x6) (l := 0) (h := (minI 2 (s1.1.length : Int))) rfl h2 underlying140 sizeOf22 (.inl ⟨rfl, rfl⟩) (.inr ⟨_, rfl⟩) (.inl rfl) q9 fun v3 h5 => s_lenR (xs := x6) rfl h5 underlying140 <| s_mvv (v := vI 0) rfl <| wpl_nil <| nrm ?_
          obtain ⟨x7, q10, q8⟩ := obind_some q8
          have L6 := Mem.rfl' m3
          refine wpc_join [7, 8, 28, 29, 30, 31, 32, 33, 34, 35, 36, 37, 38, 39, 40] (fun f' w' => ∃ (M4 : Mem), m3 ≤ M4 ∧ St M4 ((bx b2 [vU x7.1, vU x7.2.1, vU x7.2.2] 139) :: (bx b1 z_api_Sig 34) :: As) w' ∧ AllAt f' []) ?_ ?_
          · refine wpc_block <| wpc_rounds [7, 8, 28, 29, 30, 31, 32, 33, 34, 35, 36, 37, 38, 39, 40] (fun n2 f' w' => ∃ (i2 : Nat) (s2 : UInt64 × UInt64 × UInt64) (m6 : Mem), n2 = x6.length - i2 ∧ i2 ≤ x6.length ∧ eachN0 (m_hash_Sum_b4 x6) (x6.length - i2) (i2 : Int) s2 = some x7 ∧ m3 ≤ m6 ∧ St m6 ((bx b2 [vU s2.1, vU s2.2.1, vU s2.2.2] 139) :: (bx b1 z_api_Sig 34) :: As) w' ∧ AllAt f' [(28, vI (i2 : Int))]) x6.length ⟨0, (s1.2.2.1, s1.2.2.2.1, s1.2.2.2.2), m3, rfl, Nat.zero_le _, q10, L6, S6, ⟨rfl, trivial⟩⟩ ?_
            rintro n2 f3 w7 ho ⟨i2, s2, m4, hn, hi, q11, L8, S7, ha⟩
            obtain ⟨u3, rfl⟩ := fr_of (N := 49) ho ha
            clear ho ha
            have L7 := Mem.rfl' m4
            clear S6
            refine ws <| s_lss (m := (i2 : Int)) (n := (x6.length : Int)) rfl rfl <| wpl_nil <| nrm <| wpc_seq <| wpc_if (t := decide ((i2 : Int) < (x6.length : Int))) rfl (fun hc2 => ?_) (fun hc2 => ?_)
            · have hlt2 : i2 < x6.length := by have := of_decide_eq_true hc2; omega
              obtain ⟨y2, q13, q12⟩ := eachN0_in q11 hlt2
              unfold m_hash_Sum_b4 at q13
              refine wpc_skip <| nrm <| wpc_seq <| wpc_block <| ws <| s_mvv (v := vI (i2 : Int)) rfl ?_
              obtain ⟨x9, q15, q13⟩ := obind_some q13
              refine s_idx (q := x9) rfl rfl (h5.up L8) q15 underlying140 sizeOf22 fun p1 c2 h6 r2 => ?_
              obtain rfl : c2 = [vU x9] := r2
              refine s_ldM (cs := [vU x9]) S7 rfl h6 rfl isAgg22 sizeOf22 (fun _ => rfl) <| s_asv (v := vI (i2 : Int)) rfl <| s_asv (v := vU x9) rfl <| wpl_nil <| nrm <| wpc_region <| s_mvv (v := vI (i2 : Int)) rfl <| s_mvv (v := vI (i2 : Int)) rfl ?_
              obtain ⟨x10, q16, q13⟩ := obind_some q13
              refine s_idxA (i := (i2 : Int)) rfl rfl underlying139 sizeOf22 (idx_rng q16).1 (idx_rng q16).2 <| s_ld (i := 0) (off := 0 + (i2 : Int).toNat * 1) (cs := [vU x10]) S7 rfl rfl isAgg22 sizeOf22 (by rcases idx3 q16 with ⟨h, h'⟩ | ⟨h, h'⟩ | ⟨h, h'⟩ <;> (rw [h, h']; rfl)) (fun _ => rfl) <| s_mvv (v := vU x9) rfl ?_
              obtain ⟨x11, q17, q13⟩ := obind_some q13
              refine s_call call121 (v_field_Add (a0 := x10) (a1 := x9) S7  q17) rfl ?_
              rintro _ w8 ⟨m5, l3, S8, rfl⟩
              clear S7
              obtain ⟨x12, q18, q13⟩ := obind_some q13
              refine s_idxA (i := (i2 : Int)) rfl rfl underlying139 sizeOf22 (idx_rng q18).1 (idx_rng q18).2 ?_
              obtain ⟨x13, q19, q13⟩ := bnd_eq q13
              obtain ⟨x14, q20, q13⟩ := bnd_eq q13
              obtain ⟨x15, q21, q13⟩ := bnd_eq q13
              refine s_st (i := 0) (off := 0 + (i2 : Int).toNat * 1) S8 rfl rfl rfl sizeOf22 (OneL.all (oneC rfl oneN)) (by rcases idx3 q18 with ⟨h, h'⟩ | ⟨h, h'⟩ | ⟨h, h'⟩ <;> (rw [h]; exact nb rfl)) fun w9 S9 => ?_
              replace S9 := St.cellsTo (i := 0) (l' := [vU x13, vU x14, vU x15]) S9 (by rcases idx3 q18 with ⟨h, h'⟩ | ⟨h, h'⟩ | ⟨h, h'⟩ <;> (simp only [q19, q20, q21, h]; rfl)) rfl
              replace S9 : St _ ((bx b2 [vU x13, vU x14, vU x15] 139) :: (bx b1 z_api_Sig 34) :: As) _ := S9
              clear S8
              refine wpl_nil <| nrmB <| nrm <| wpc_region <| s_addI (m := (i2 : Int)) (n := 1) rfl rfl <| s_mvv (v := vI (w64 ((i2 : Int) + 1))) rfl <| wpl_nil <| nrm ?_
              have e0 := Option.some.inj q13
              subst e0
              replace h5 := h5.up (mt L8 l3)
              replace L7 := Mem.tr L7 l3
              exact ⟨outP, _, (by omega), ⟨i2 + 1, (x13, x14, x15), m5, rfl, hlt2, q12, Mem.tr L8 L7, S9, ⟨congrArg (Value.int .i64) (w64_succ hlt2 (SlR.le h5)), trivial⟩⟩⟩
            have hlt2 : ¬ i2 < x6.length := by have := of_decide_eq_false hc2; omega
            have e := Eq.symm (eachN0_out q11 hlt2)
            subst e
            exact wpc_exit <| thE <| thE <| exB <| nrm <| ⟨outP, m4, Mem.tr L8 L7, S7, trivial⟩
          rintro f4 w10 ho ⟨m7, l4, S10, ha⟩
          obtain ⟨u4, rfl⟩ := fr_of (N := 49) ho ha
          clear ho ha S6
          have e0 := Option.some.inj q8
          subst e0
          replace L5 := Mem.tr L5 l4
          exact ⟨outP, m7, L5, S10, trivial⟩
        rintro f5 w11 ho ⟨m8, l5, S11, ha⟩
        obtain ⟨u5, rfl⟩ := fr_of (N := 49) ho ha
        clear S6
        refine ws <| s_mvv (v := v2) rfl <| s_mvv (v := vI (minI 2 (s1.1.length : Int))) rfl ?_
        obtain ⟨x16, q22, q6⟩ := obind_some q6
        refine s_cut (ys := x16) (l := (minI 2 (s1.1.length : Int))) (h := (s1.1.length : Int)) rfl (h2.up l5) underlying140 sizeOf22 (.inr ⟨_, rfl⟩) (.inl ⟨rfl, rfl⟩) (.inl rfl) q22 fun v4 h7 => s_asv (v := v4) rfl <| wpl_nil <| nrm <| wpc_region <| s_ld (i := 0) (cs := [vU x5.1, vU x5.2.1, vU x5.2.2]) S11 rfl rfl isAgg139 sizeOf139 rfl (fun h => by cases h) ?_
        obtain ⟨x17, q23, q6⟩ := obind_some q6
        refine s_call call122 (w_hash_Mix (a0 := x5) S11  q23) rfl ?_
        rintro _ w12 ⟨m9, l6, S12, rfl⟩
        clear S11
        refine s_stL (i := 0) S12 rfl rfl rfl sizeOf139 (oneC rfl (oneC rfl (oneC rfl oneN))) rfl fun w13 S13 => ?_
        replace S13 : St _ ((bx b2 [vU x17.1, vU x17.2.1, vU x17.2.2] 139) :: (bx b1 z_api_Sig 34) :: As) _ := S13
        clear S12
        refine wpl_nil <| nrmB <| nrm <| wpc_region <| s_asv (v := vb false) rfl <| wpl_nil <| nrm ?_
        have e0 := Option.some.inj q6
        subst e0
        rcases q5 with ⟨sn, e, q5'⟩ | e
        · cases e
          replace L3 := Mem.tr L3 (mt l5 l6)
          exact ⟨outP, _, Nat.lt_succ_self _, ⟨_, m9, _, q5', Mem.tr L4 L3, S13, (h7.up l6), ⟨rfl, rfl, trivial⟩⟩⟩
        · cases e
      replace q6 := ifF hc1 q6
      refine wpc_exit <| thE <| thE <| exB <| nrm ?_
      have e0 := Option.some.inj q6
      subst e0
      rcases q5 with ⟨sn, e, _⟩ | e
      · cases e
      · cases e
        exact ⟨outP, m3, Mem.tr L4 L3, S6, trivial⟩
   rintro f6 w14 ho ⟨m11, l7, S14, ha⟩
   obtain ⟨u6, rfl⟩ := fr_of (N := 49) ho ha
   clear ho ha S5
   have e0 := Option.some.inj q2
   subst e0
   replace L1 := Mem.tr L1 l7
   exact ⟨outP, m11, L1, S14, trivial⟩
 rintro f7 w15 ho ⟨m12, l8, S15, ha⟩
 obtain ⟨u7, rfl⟩ := fr_of (N := 49) ho ha
 clear S4
 refine ws <| s_sliceA (k := 2) (n := 3) (sz := 1) rfl underlying139 sizeOf22 (.inr ⟨_, rfl⟩) (by decide) <| s_toArr rfl underlying34 (by decide) <| s_ld (i := 0) (cs := [vU x2.1, vU x2.2.1]) S15 rfl rfl isAgg34 sizeOf34 rfl (fun h => by cases h) <| s_stL (i := 1) S15 rfl rfl rfl sizeOf34 (oneC rfl (oneC rfl oneN)) rfl fun w16 S16 => ?_
 replace S16 : St _ ((bx b2 [vU x2.1, vU x2.2.1, vU x2.2.2] 139) :: (bx b1 [vU x2.1, vU x2.2.1] 34) :: As) _ := S16
 clear S15
 refine wpl_nil <| nrm <| wpc_ret <| outRw fun we hpd => ?_
 replace S16 := St.pd S16 hpd
 have SR := S16
 obtain ⟨m13, l9, S17⟩ := St.drop S16 0
 replace S17 : St _ ((bx b1 [vU x2.1, vU x2.2.1] 34) :: As) _ := S17
 obtain ⟨m14, l10, S18⟩ := St.drop S17 0
 clear S17
 replace S18 : St _ (As) _ := S18
 have e0 := Option.some.inj hm
 subst e0
 replace L0 := Mem.tr L0 (mt l1 (mt l8 (mt l9 l10)))
 exact outR [_] rfl ⟨res_box (i := 1) (off := 0) (cs := [vU x2.1, vU x2.2.1]) SR rfl rfl isAgg34 sizeOf34 rfl (fun h => by cases h), trivial⟩ ⟨_, L0, S18, rfl⟩
theorem s_hash_Sum {a0 : List UInt8} {r : UInt64 × UInt64} (hm : m_hash_Sum a0 = some r) : Sf prog 99 [sl eB a0] (ag (e_a2_eU r)) :=
  ⟨call99, fun η m As w vs hv0 hd S => by
    have S : St m As w := S
    obtain ⟨v0, u0, rfl, r0, hv1⟩ := RelL.cons_inv hv0
    have f0 := Br.ofS Br.b r0.dd
    obtain rfl := RelL.nil_inv hv1
    refine CallsR.mono (w_hash_Sum S f0 hm) ?_
    rintro v w' ⟨M, hle, S0, rfl⟩
    exact ⟨M, none0, _, _, _, hle, dom0 hd _, ⟨rfl, rfl, rfl⟩, fun n h => absurd rfl h, (Br.toA b_a2_eU (mk_arr2_UInt64)), S0⟩⟩
def m_hash_Tagged_b2  (i1 : Int) (x4 : List UInt8) (s1 : (List UInt8)) : Option ((List UInt8)) :=
  obind (m_hash_put s1 (toU (x4.length : Int)) 4) fun x5 =>
  obind (app 1 x5 x4) fun x6 =>
  some x6
def m_hash_Tagged (a0 : ByteArray) (a1 : List (List UInt8)) : Option (UInt64 × UInt64) :=
  obind (app 1 ([(toB (a0.size : Int))] : List UInt8) a0.data.toList) fun x1 =>
  obind (
    obind (each0 m_hash_Tagged_b2 a1 0 x1) fun x3 =>
    some x3
  ) fun x2 =>
  obind (m_hash_Sum x2) fun x7 =>
  some x7
theorem w_hash_Tagged {a0 : ByteArray} {a1 : List (List UInt8)} {r : UInt64 × UInt64} (hm : m_hash_Tagged a0 a1 = some r) : Sf prog 57 [.d (.s a0), sl (eL eB) a1] (ag (e_a2_eU r)) :=
  sp call57 func57 rfl ntmps57 rfl fun D0 As η0 m0 hd => by
    unfold m_hash_Tagged at hm
    refine glit (k := 1) eB ([(toB (a0.size : Int))] : List UInt8) (fun _ => rfl) (by kernel_rfl) ?_
    obtain ⟨x1, q1, hm⟩ := obind_some hm
    refine gapS q1 (by kernel_rfl) ?_
    obtain ⟨x2, q2, hm⟩ := obind_some hm
    obtain ⟨x3, q3, q2⟩ := obind_some q2
    refine glen 0 (E := (eL eB)) (xs := a1) 14 (by kernel_rfl) fun hle1 => ?_
    refine gjU 0 (fun (_ : Unit) => ⟨[(4, .pb 0 0), (5, .ow 1)], [(0, .row 1 1 _ eB x2), (1, .box 0 [.d (.u 0), .d (.u 0)] 34)], [], 2⟩) (fun _ => True) (by kernel_rfl) (fun Jp bk1 => ?_) fun _ _ => ?_
    · refine gjU 0 (fun (_ : Unit) => ⟨[(4, .pb 0 0), (5, .ow 1)], [(0, .row 1 1 _ eB x3), (1, .box 0 [.d (.u 0), .d (.u 0)] 34)], [], 2⟩) (fun _ => True) (by kernel_rfl) (fun Jp bk2 => ?_) fun _ _ => ?_
      · refine gl hd (fun (p : Int × ((List UInt8))) => let (p0, p_0) := p; ⟨[(4, .pb 0 0), (5, .ow 1), (14, sl (eL eB) a1), (15, .d (.i (a1.length : Int))), (16, .d (.i p0))], [(0, .row 1 1 _ eB p_0), (1, .box 0 [.d (.u 0), .d (.u 0)] 34)], [], 2⟩) (fun p => ∃ i : Nat, p.1 = (i : Int) ∧ i ≤ a1.length ∧ each0 m_hash_Tagged_b2 (a1.drop i) (i : Int) p.2 = some x3) (fun p => a1.length - p.1.toNat) (0, x1) ⟨0, rfl, Nat.zero_le _, q3⟩ (by kernel_rfl) ?_
        rintro ⟨_, s1⟩ ⟨i1, rfl, hi, q4⟩ Jl bl1
        refine gi' (b := decide ((i1 : Int) < (a1.length : Int))) (by kernel_rfl) (fun hc1 => ?_) fun hc1 => ?_
        · have hlt1 : i1 < a1.length := by have := of_decide_eq_true hc1; omega
          obtain ⟨x4, y1, q7, q6, q5⟩ := each0_in q4 hlt1
          unfold m_hash_Tagged_b2 at q6
          refine gidx (k := 1) (E := (eL eB)) (fun _ => rfl) (fun _ => q7) (by kernel_rfl) ?_
          obtain ⟨x5, q8, q6⟩ := obind_some q6
          refine gco (w_hash_put q8) (by kernel_rfl) ?_
          obtain ⟨x6, q9, q6⟩ := obind_some q6
          refine gapp (k := 1) (E := eB) (fun _ => rfl) q9 (by kernel_rfl) ?_
          have e0 := Option.some.inj q6
          subst e0
          exact gb bl1 hd (w64 ((i1 : Int) + 1), x6) ⟨⟨i1 + 1, w64_succ hlt1 hle1, by omega, q5⟩, mu_lt hlt1 hle1⟩ (by kernel_rfl)
        have hlt1 : ¬ i1 < a1.length := by have := of_decide_eq_false hc1; omega
        have e := Eq.symm (each0_out q4 hlt1)
        subst e
        exact gb bk2 hd () trivial (by kernel_rfl)
      have e0 := Option.some.inj q2
      subst e0
      exact gb bk1 hd () trivial (by kernel_rfl)
    obtain ⟨x7, q10, hm⟩ := obind_some hm
    refine gco (s_hash_Sum q10) (by kernel_rfl) ?_
    have e0 := Option.some.inj hm
    subst e0
    exact gend hd (by kernel_rfl)
theorem v_hash_Tagged {m : Mem} {As : List Ow} {w : World} {a0 : ByteArray} {a1 : List (List UInt8)} {a1v0 : Value} {r : UInt64 × UInt64} (S : St m As w) (a1h0 : SlR m a1v0 a1) (hm : m_hash_Tagged a0 a1 = some r) :
    CallsR prog 57 #[vS a0, a1v0] w fun v w' => ∃ (M : Mem), m ≤ M ∧ St M (As) w' ∧ v = .agg #[vU r.1, vU r.2] := by
  refine CallsR.mono ((w_hash_Tagged hm).2 none0 m As w [vS a0, a1v0] (.cons (.d (.s _)) (.cons (.d (Br.toS (Br.sl Br.b) a1h0)) .nil)) (fun n h => absurd rfl h) S) ?_
  rintro v w' ⟨M, η', r', obs', n1, hle, _, ⟨rfl, rfl, rfl⟩, hdom, hR, S'⟩
  obtain ⟨c0, rfl, g0⟩ := Br.ofA b_a2_eU hR
  obtain rfl := rep_arr2_UInt64 g0
  exact ⟨M, hle, S', rfl⟩
def m_merkle_Leaf (a0 : List UInt8) : Option (UInt64 × UInt64) :=
  obind (m_hash_Tagged (⟨#[108, 101, 97, 102]⟩ : ByteArray) ([a0] : List (List UInt8))) fun x1 =>
  some x1
theorem w_merkle_Leaf {a0 : List UInt8} {r : UInt64 × UInt64} (hm : m_merkle_Leaf a0 = some r) : Sf prog 21 [sl eB a0] (ag (e_a2_eU r)) :=
  sp call21 func21 rfl ntmps21 rfl fun D0 As η0 m0 hd => by
    unfold m_merkle_Leaf at hm
    refine glitF (k := 1) (eL eB) ([a0] : List (List UInt8)) (fun _ => rfl) (by kernel_rfl) ?_
    obtain ⟨x1, q1, hm⟩ := obind_some hm
    refine gc (fun _ => w_hash_Tagged q1) (by kernel_rfl) ?_
    have e0 := Option.some.inj hm
    subst e0
    exact gend hd (by kernel_rfl)
def m_logd_number (a0 : Int) : Option Bool :=
  bnd (((decide (a0 ≥ 0)) && (decide (a0 ≤ 1099511627776)))) fun x1 =>
  some x1
theorem w_logd_number {a0 : Int} {r : Bool} (hm : m_logd_number a0 = some r) : Sf prog 31 [.d (.i a0)] (.d (.t r)) :=
  sp call31 func31 rfl ntmps31 rfl fun D0 As η0 m0 hd => by
    unfold m_logd_number at hm
    have hm := bnd_is hm
    let x1 : Bool := (((decide (a0 ≥ 0)) && (decide (a0 ≤ 1099511627776))))
    have e0 := Option.some.inj hm
    subst e0
    exact gend hd (by kernel_rfl)
theorem v_logd_number {m : Mem} {As : List Ow} {w : World} {a0 : Int} {r : Bool} (S : St m As w) (hm : m_logd_number a0 = some r) :
    CallsR prog 31 #[vI a0] w fun v w' => ∃ (M : Mem), m ≤ M ∧ St M (As) w' ∧ v = vb r := by
  refine CallsR.mono ((w_logd_number hm).2 none0 m As w [vI a0] (.cons (.d (.i _)) .nil) (fun n h => absurd rfl h) S) ?_
  rintro v w' ⟨M, η', r', obs', n1, hle, _, ⟨rfl, rfl, rfl⟩, hdom, hR, S'⟩
  obtain rfl := hR.t_inv
  exact ⟨M, hle, S', rfl⟩
def m_logd_isBody (a0 : List UInt8) : Option Bool :=
  bnd (((decide ((a0.length : Int) > 0)) && (decide ((a0.length : Int) ≤ 2048)))) fun x1 =>
  some x1
theorem w_logd_isBody {a0 : List UInt8} {r : Bool} (hm : m_logd_isBody a0 = some r) : Sf prog 46 [sl eB a0] (.d (.t r)) :=
  sp call46 func46 rfl ntmps46 rfl fun D0 As η0 m0 hd => by
    unfold m_logd_isBody at hm
    have hm := bnd_is hm
    let x1 : Bool := (((decide ((a0.length : Int) > 0)) && (decide ((a0.length : Int) ≤ 2048))))
    have e0 := Option.some.inj hm
    subst e0
    exact gend hd (by kernel_rfl)
theorem v_logd_isBody {m : Mem} {As : List Ow} {w : World} {a0 : List UInt8} {a0v0 : Value} {r : Bool} (S : St m As w) (a0h0 : SlR m a0v0 a0) (hm : m_logd_isBody a0 = some r) :
    CallsR prog 46 #[a0v0] w fun v w' => ∃ (M : Mem), m ≤ M ∧ St M (As) w' ∧ v = vb r := by
  refine CallsR.mono ((w_logd_isBody hm).2 none0 m As w [a0v0] (.cons (.d (Br.toS Br.b a0h0)) .nil) (fun n h => absurd rfl h) S) ?_
  rintro v w' ⟨M, η', r', obs', n1, hle, _, ⟨rfl, rfl, rfl⟩, hdom, hR, S'⟩
  obtain rfl := hR.t_inv
  exact ⟨M, hle, S', rfl⟩
def m_slices_Grow_api_Leaf_api_Leaf_nil (a1 : Int) : Option (List g_api_Leaf) :=
  obind (
    if (decide (a1 < 0)) = true then
      none
    else
    some ()
  ) fun x1 =>
  obind (
    bnd ((w64 (a1 - (w64 (0 - ((0 : Nat) : Int)))))) fun x3 =>
    if (decide (x3 > 0)) = true then
      if 0 ≤ x3 ∧ x3 * 32 ≤ 140737488355328 ∧ x3 ≤ 140737488355328 then
        some ([] : List g_api_Leaf)
      else none
    else
    some ([] : List g_api_Leaf)
  ) fun x2 =>
  some x2
theorem w_slices_Grow_api_Leaf_api_Leaf_nil {m : Mem} {As : List Ow} {w : World} {a1 : Int} {r : List g_api_Leaf} (S : St m (As) w) (hm : m_slices_Grow_api_Leaf_api_Leaf_nil a1 = some r) :
    CallsR Tryz.prog 117 #[.slice none 0 0, vI a1] w fun v w' => ∃ (M : Mem), m ≤ M ∧ ∃ (rv0 : Value) (rc0 : List Value), St M ((row 2 rv0 rc0 r.length) :: As) w' ∧ v = rv0 ∧ RepL M rc0 r := by
 unfold m_slices_Grow_api_Leaf_api_Leaf_nil at hm
 have L0 := Mem.rfl' m
 refine callsR (args := [.slice none 0 0, vI a1]) func117 rfl ntmps117 (nb rfl) <| ws <| s_asv (v := .slice none 0 0) rfl <| wpl_nil <| nrm ?_
 obtain ⟨x1, q1, hm⟩ := obind_some hm
 have L1 := Mem.rfl' m
 refine wpc_seq <| wpc_join [5, 6, 7] (fun f' w' => ∃ (M1 : Mem), m ≤ M1 ∧ St M1 (As) w' ∧ AllAt f' []) ?_ ?_
 · refine ws <| s_mvv (v := vI a1) rfl <| s_lss (m := a1) (n := 0) rfl rfl <| wpl_nil <| nrm <| wpc_if (t := (decide (a1 < 0))) rfl (fun hc1 => ?_) (fun hc1 => ?_)
   · replace q1 := ifT hc1 q1
     cases q1
   replace q1 := ifF hc1 q1
   refine wpc_skip <| nrm ?_
   have e0 := Option.some.inj q1
   subst e0
   exact ⟨outP, m, L1, S, trivial⟩
 rintro f1 w1 ho ⟨m1, l1, S1, ha⟩
 obtain ⟨u1, rfl⟩ := fr_of (N := 27) ho ha
 clear S
 obtain ⟨x2, q2, hm⟩ := obind_some hm
 have L2 := Mem.rfl' m1
 refine wpc_seq <| wpc_join [0, 1, 8, 9, 10, 11, 12, 13, 14, 15, 16, 17, 18, 19, 20, 21, 22, 23, 24, 25] (fun f' w' => ∃ (M2 : Mem) (v1 : Value) (c1 : List Value), m1 ≤ M2 ∧ St M2 ((row 2 v1 c1 x2.length) :: As) w' ∧ RepL M2 c1 x2 ∧ AllAt f' [(0, v1)]) ?_ ?_
 · refine ws <| s_mvv (v := vI a1) rfl <| s_mvv (v := .slice none 0 0) rfl <| s_capNil rfl underlying23 <| s_mvv (v := .slice none 0 0) rfl <| s_len (n := 0) rfl underlying23 <| s_subI (m := 0) (n := ((0 : Nat) : Int)) rfl rfl <| s_subI (m := a1) (n := (w64 (0 - ((0 : Nat) : Int)))) rfl rfl ?_
   obtain ⟨x3, q3, q2⟩ := bnd_eq q2
   refine s_asv (v := vI x3) (congrArg (fun z => vI z) q3.symm) <| nx <| s_mvv (v := vI x3) rfl <| s_gtr (m := x3) (n := 0) rfl rfl <| wpl_nil <| nrm <| wpc_if (t := (decide (x3 > 0))) rfl (fun hc2 => ?_) (fun hc2 => ?_)
   · replace q2 := ifT hc2 q2
     refine wpc_region <| s_mvv (v := .slice none 0 0) rfl <| s_mvv (v := .slice none 0 0) rfl <| s_capNil rfl underlying23 <| s_cutN rfl underlying23 sizeOf67 rfl <| s_mvv (v := vI x3) rfl ?_
     obtain ⟨q4, q2⟩ := if_some q2
     refine s_appN (bytes := 32) (sz := 2) (k := x3) (ti := Tryz.t67) S1 rfl rfl q4 underlying23 underlying3 type67 rfl rfl rfl rfl fun v2 c2 w2 S2 => ?_
     replace S2 : St _ ((row 2 v2 c2 x3.toNat) :: As) _ := S2
     clear S1
     refine s_mvv (v := .slice none 0 0) rfl <| s_len (n := 0) rfl underlying23 <| s_cutO (i := 0) S2 rfl rfl underlying23 sizeOf67 rfl (j := 0) rfl (Int.le_refl 0) (Int.natCast_nonneg _) fun v3 S3 => ?_
     rw [show c2.take ((0 : Int).toNat * 2) = [] from by simp] at S3
     have h2 : RepL m1 [] ([] : List g_api_Leaf) := RepL.nil
     replace S3 : St _ ((row 2 v3 [] ([] : List g_api_Leaf).length) :: As) _ := S3
     clear S2
     refine s_asv (v := v3) rfl <| wpl_nil <| nrm ?_
     have e0 := Option.some.inj q2
     subst e0
     exact ⟨outP, m1, _, _, L2, S3, h2, ⟨rfl, trivial⟩⟩
   replace q2 := ifF hc2 q2
   refine wpc_skip <| nrm ?_
   have S4 := St.rowNil S1 2
   have h3 : RepL m1 [] ([] : List g_api_Leaf) := RepL.nil
   replace S4 : St _ ((row 2 (.slice none 0 0) [] ([] : List g_api_Leaf).length) :: As) _ := S4
   clear S1
   have e0 := Option.some.inj q2
   subst e0
   exact ⟨outP, m1, _, _, L2, S4, h3, ⟨rfl, trivial⟩⟩
 rintro f2 w3 ho ⟨m2, v1, c1, l2, S5, h1, ha⟩
 obtain ⟨u2, rfl⟩ := fr_of (N := 27) ho ha
 clear S1
 refine ws <| s_mvv (v := v1) rfl <| s_asv (v := v1) rfl <| wpl_nil <| nrm <| wpc_ret <| outRw fun we hpd => ?_
 replace S5 := St.pd S5 hpd
 have e0 := Option.some.inj hm
 subst e0
 replace L0 := Mem.tr L0 (mt l1 l2)
 exact outR [_] rfl ⟨rfl, trivial⟩ ⟨_, L0, _, _, S5, rfl, h1⟩
def m_slices_Concat_api_Leaf_api_Leaf_b1  (i1 : Int) (x3 : List g_api_Leaf) (s1 : Int) : Option (Int) :=
  obind (
    bnd ((w64 (s1 + (x3.length : Int)))) fun x5 =>
    if (decide (x5 < 0)) = true then
      none
    else
    some x5
  ) fun x4 =>
  some x4
def m_slices_Concat_api_Leaf_api_Leaf_b2  (i2 : Int) (x9 : List g_api_Leaf) (s2 : (List g_api_Leaf)) : Option ((List g_api_Leaf)) :=
  obind (app 32 s2 x9) fun x10 =>
  some x10
def m_slices_Concat_api_Leaf_api_Leaf (a0 : List (List g_api_Leaf)) : Option (List g_api_Leaf) :=
  obind (
    obind (each0 m_slices_Concat_api_Leaf_api_Leaf_b1 a0 0 0) fun x2 =>
    some x2
  ) fun x1 =>
  obind (m_slices_Grow_api_Leaf_api_Leaf_nil x1) fun x6 =>
  obind (
    obind (each0 m_slices_Concat_api_Leaf_api_Leaf_b2 a0 0 x6) fun x8 =>
    some x8
  ) fun x7 =>
  some x7
theorem w_slices_Concat_api_Leaf_api_Leaf {m : Mem} {As : List Ow} {w : World} {a0 : List (List g_api_Leaf)} {a0v0 : Value} {r : List g_api_Leaf} (S : St m (As) w) (a0h0 : SlR m a0v0 a0) (hm : m_slices_Concat_api_Leaf_api_Leaf a0 = some r) :
    CallsR Tryz.prog 93 #[a0v0] w fun v w' => ∃ (M : Mem), m ≤ M ∧ ∃ (rv0 : Value) (rc0 : List Value), St M ((row 2 rv0 rc0 r.length) :: As) w' ∧ v = rv0 ∧ RepL M rc0 r := by
 unfold m_slices_Concat_api_Leaf_api_Leaf at hm
 have L0 := Mem.rfl' m
 refine callsR (args := [a0v0]) func93 rfl ntmps93 (nb rfl) <| ws <| s_asv (v := .slice none 0 0) rfl <| nx <| s_asv (v := vI 0) rfl <| wpl_nil <| nrm ?_
 obtain ⟨x1, q1, hm⟩ := obind_some hm
 have L1 := Mem.rfl' m
 refine wpc_seq <| wpc_join [3, 5, 9, 10, 11, 12, 13, 14, 15, 16, 17, 18, 19, 20, 21, 22] (fun f' w' => ∃ (M1 : Mem), m ≤ M1 ∧ St M1 (As) w' ∧ AllAt f' [(3, vI x1)]) ?_ ?_
 · refine ws <| s_mvv (v := a0v0) rfl <| s_lenR (xs := a0) rfl a0h0 underlying137 <| s_mvv (v := vI 0) rfl <| wpl_nil <| nrm ?_
   obtain ⟨x2, q2, q1⟩ := obind_some q1
   have L2 := Mem.rfl' m
   refine wpc_join [3, 5, 11, 12, 13, 14, 15, 16, 17, 18, 19, 20, 21, 22] (fun f' w' => ∃ (M2 : Mem), m ≤ M2 ∧ St M2 (As) w' ∧ AllAt f' [(3, vI x2)]) ?_ ?_
   · refine wpc_block <| wpc_rounds [3, 5, 11, 12, 13, 14, 15, 16, 17, 18, 19, 20, 21, 22] (fun n1 f' w' => ∃ (i1 : Nat) (s1 : Int) (m3 : Mem), n1 = a0.length - i1 ∧ i1 ≤ a0.length ∧ each0 m_slices_Concat_api_Leaf_api_Leaf_b1 (a0.drop i1) (i1 : Int) s1 = some x2 ∧ m ≤ m3 ∧ St m3 (As) w' ∧ AllAt f' [(11, vI (i1 : Int)), (3, vI s1)]) a0.length ⟨0, 0, m, rfl, Nat.zero_le _, q2, L2, S, ⟨rfl, rfl, trivial⟩⟩ ?_
     rintro n1 f1 w1 ho ⟨i1, s1, m1, hn, hi, q3, L4, S1, ha⟩
     obtain ⟨u1, rfl⟩ := fr_of (N := 36) ho ha
     clear ho ha
     have L3 := Mem.rfl' m1
     clear S
     refine ws <| s_lss (m := (i1 : Int)) (n := (a0.length : Int)) rfl rfl <| wpl_nil <| nrm <| wpc_seq <| wpc_if (t := decide ((i1 : Int) < (a0.length : Int))) rfl (fun hc2 => ?_) (fun hc2 => ?_)
     · have hlt1 : i1 < a0.length := by have := of_decide_eq_true hc2; omega
       obtain ⟨x3, y1, q6, q5, q4⟩ := each0_in q3 hlt1
       unfold m_slices_Concat_api_Leaf_api_Leaf_b1 at q5
       refine wpc_skip <| nrm ?_
       obtain ⟨x4, q7, q5⟩ := obind_some q5
       have L5 := Mem.rfl' m1
       refine wpc_seq <| wpc_join [3, 5, 13, 14, 15, 16, 17, 18, 19, 20, 21] (fun f' w' => ∃ (M3 : Mem), m1 ≤ M3 ∧ St M3 (As) w' ∧ AllAt f' [(3, vI x4)]) ?_ ?_
       · refine wpc_block <| ws <| s_idx (q := x3) rfl rfl (a0h0.up L4) q6 underlying137 sizeOf23 fun p1 c1 h1 r1 => ?_
         obtain ⟨v1, rfl, h2⟩ := r1
         refine s_ldM (cs := [v1]) S1 rfl h1 rfl isAgg23 sizeOf23 (fun _ => rfl) <| s_asv (v := v1) rfl <| nx <| s_mvv (v := vI s1) rfl <| s_mvv (v := v1) rfl <| s_lenR (xs := x3) rfl h2 underlying23 <| s_addI (m := s1) (n := (x3.length : Int)) rfl rfl ?_
         obtain ⟨x5, q8, q7⟩ := bnd_eq q7
         refine s_asv (v := vI x5) (congrArg (fun z => vI z) q8.symm) <| nx <| s_mvv (v := vI x5) rfl <| s_lss (m := x5) (n := 0) rfl rfl <| wpl_nil <| nrm <| wpc_if (t := (decide (x5 < 0))) rfl (fun hc1 => ?_) (fun hc1 => ?_)
         · replace q7 := ifT hc1 q7
           cases q7
         replace q7 := ifF hc1 q7
         refine wpc_skip <| nrmB <| nrm ?_
         have e0 := Option.some.inj q7
         subst e0
         exact ⟨outP, m1, L5, S1, ⟨rfl, trivial⟩⟩
       rintro f2 w2 ho ⟨m2, l1, S2, ha⟩
       obtain ⟨u2, rfl⟩ := fr_of (N := 36) ho ha
       clear S1
       refine wpc_region <| s_addI (m := (i1 : Int)) (n := 1) rfl rfl <| s_mvv (v := vI (w64 ((i1 : Int) + 1))) rfl <| wpl_nil <| nrm ?_
       have e0 := Option.some.inj q5
       subst e0
       replace a0h0 := a0h0.up (mt L4 l1)
       replace L3 := Mem.tr L3 l1
       exact ⟨outP, _, (by omega), ⟨i1 + 1, x4, m2, rfl, hlt1, q4, Mem.tr L4 L3, S2, ⟨congrArg (Value.int .i64) (w64_succ hlt1 (SlR.le a0h0)), rfl, trivial⟩⟩⟩
     have hlt1 : ¬ i1 < a0.length := by have := of_decide_eq_false hc2; omega
     have e := Eq.symm (each0_out q3 hlt1)
     subst e
     exact wpc_exit <| thE <| thE <| exB <| nrm <| ⟨outP, m1, Mem.tr L4 L3, S1, ⟨rfl, trivial⟩⟩
   rintro f3 w3 ho ⟨m4, l2, S3, ha⟩
   obtain ⟨u3, rfl⟩ := fr_of (N := 36) ho ha
   clear ho ha S
   have e0 := Option.some.inj q1
   subst e0
   replace L1 := Mem.tr L1 l2
   exact ⟨outP, m4, L1, S3, ⟨rfl, trivial⟩⟩
 rintro f4 w4 ho ⟨m5, l3, S4, ha⟩
 obtain ⟨u4, rfl⟩ := fr_of (N := 36) ho ha
 clear S
 refine ws <| s_mvv (v := vI x1) rfl ?_
 obtain ⟨x6, q9, hm⟩ := obind_some hm
 refine s_call call117 (w_slices_Grow_api_Leaf_api_Leaf_nil (a1 := x1) S4  q9) rfl ?_
 rintro v2 w5 ⟨m6, l4, _, c2, S5, rfl, h3⟩
 clear S4
 refine s_asv (v := v2) rfl <| wpl_nil <| nrm ?_
 obtain ⟨x7, q10, hm⟩ := obind_some hm
 have L6 := Mem.rfl' m6
 refine wpc_seq <| wpc_join [6, 8, 25, 26, 27, 28, 29, 30, 31, 32, 33, 34] (fun f' w' => ∃ (M4 : Mem) (v3 : Value) (c3 : List Value), m6 ≤ M4 ∧ St M4 ((row 2 v3 c3 x7.length) :: As) w' ∧ RepL M4 c3 x7 ∧ AllAt f' [(6, v3)]) ?_ ?_
 · refine ws <| s_mvv (v := a0v0) rfl ?_
   replace a0h0 := a0h0.up (mt l3 l4)
   refine s_lenR (xs := a0) rfl a0h0 underlying137 <| s_mvv (v := vI 0) rfl <| wpl_nil <| nrm ?_
   obtain ⟨x8, q11, q10⟩ := obind_some q10
   have L7 := Mem.rfl' m6
   refine wpc_join [6, 8, 27, 28, 29, 30, 31, 32, 33, 34] (fun f' w' => ∃ (M5 : Mem) (v5 : Value) (c5 : List Value), m6 ≤ M5 ∧ St M5 ((row 2 v5 c5 x8.length) :: As) w' ∧ RepL M5 c5 x8 ∧ AllAt f' [(6, v5)]) ?_ ?_
   · refine wpc_block <| wpc_rounds [6, 8, 27, 28, 29, 30, 31, 32, 33, 34] (fun n2 f' w' => ∃ (i2 : Nat) (s2 : (List g_api_Leaf)) (m8 : Mem) (v4 : Value) (c4 : List Value), n2 = a0.length - i2 ∧ i2 ≤ a0.length ∧ each0 m_slices_Concat_api_Leaf_api_Leaf_b2 (a0.drop i2) (i2 : Int) s2 = some x8 ∧ m6 ≤ m8 ∧ St m8 ((row 2 v4 c4 s2.length) :: As) w' ∧ RepL m8 c4 s2 ∧ AllAt f' [(27, vI (i2 : Int)), (6, v4)]) a0.length ⟨0, x6, m6, _, _, rfl, Nat.zero_le _, q11, L7, S5, h3, ⟨rfl, rfl, trivial⟩⟩ ?_
     rintro n2 f5 w6 ho ⟨i2, s2, m7, v4, c4, hn, hi, q12, L9, S6, h5, ha⟩
     obtain ⟨u5, rfl⟩ := fr_of (N := 36) ho ha
     clear ho ha
     have L8 := Mem.rfl' m7
     clear S5
     refine ws <| s_lss (m := (i2 : Int)) (n := (a0.length : Int)) rfl rfl <| wpl_nil <| nrm <| wpc_seq <| wpc_if (t := decide ((i2 : Int) < (a0.length : Int))) rfl (fun hc3 => ?_) (fun hc3 => ?_)
     · have hlt2 : i2 < a0.length := by have := of_decide_eq_true hc3; omega
       obtain ⟨x9, y2, q15, q14, q13⟩ := each0_in q12 hlt2
       unfold m_slices_Concat_api_Leaf_api_Leaf_b2 at q14
       refine wpc_skip <| nrm <| wpc_seq <| wpc_block <| ws <| s_idx (q := x9) rfl rfl (a0h0.up L9) q15 underlying137 sizeOf23 fun p2 c6 h7 r6 => ?_
       obtain ⟨v6, rfl, h8⟩ := r6
       refine s_ldM (cs := [v6]) S6 rfl h7 rfl isAgg23 sizeOf23 (fun _ => rfl) <| s_asv (v := v6) rfl <| wpl_nil <| nrm <| wpc_region <| s_mvv (v := v4) rfl <| s_mvv (v := v6) rfl ?_
       obtain ⟨x10, q16, q14⟩ := obind_some q14
       refine s_app (i := 0) (zs := x10) (bytes := 32) (ti := Tryz.t67) S6 rfl rfl h5 rfl rfl h8 q16 underlying23 type67 rfl rfl rfl rfl fun v7 c7 w7 S7 h9 => ?_
       replace S7 : St _ ((row 2 v7 c7 x10.length) :: As) _ := S7
       clear S6
       refine s_asv (v := v7) rfl <| wpl_nil <| nrmB <| nrm <| wpc_region <| s_addI (m := (i2 : Int)) (n := 1) rfl rfl <| s_mvv (v := vI (w64 ((i2 : Int) + 1))) rfl <| wpl_nil <| nrm ?_
       have e0 := Option.some.inj q14
       subst e0
       exact ⟨outP, _, (by omega), ⟨i2 + 1, x10, m7, _, _, rfl, hlt2, q13, Mem.tr L9 L8, S7, h9, ⟨congrArg (Value.int .i64) (w64_succ hlt2 (SlR.le (a0h0.up L9))), rfl, trivial⟩⟩⟩
     have hlt2 : ¬ i2 < a0.length := by have := of_decide_eq_false hc3; omega
     have e := Eq.symm (each0_out q12 hlt2)
     subst e
     exact wpc_exit <| thE <| thE <| exB <| nrm <| ⟨outP, m7, _, _, Mem.tr L9 L8, S6, h5, ⟨rfl, trivial⟩⟩
   rintro f6 w8 ho ⟨m9, v5, c5, l5, S8, h6, ha⟩
   obtain ⟨u6, rfl⟩ := fr_of (N := 36) ho ha
   clear ho ha S5
   have e0 := Option.some.inj q10
   subst e0
   replace L6 := Mem.tr L6 l5
   exact ⟨outP, m9, _, _, L6, S8, h6, ⟨rfl, trivial⟩⟩
 rintro f7 w9 ho ⟨m10, v3, c3, l6, S9, h4, ha⟩
 obtain ⟨u7, rfl⟩ := fr_of (N := 36) ho ha
 clear S5
 refine ws <| s_mvv (v := v3) rfl <| s_asv (v := v3) rfl <| wpl_nil <| nrm <| wpc_ret <| outRw fun we hpd => ?_
 replace S9 := St.pd S9 hpd
 have e0 := Option.some.inj hm
 subst e0
 replace L0 := Mem.tr L0 (mt l3 (mt l4 l6))
 exact outR [_] rfl ⟨rfl, trivial⟩ ⟨_, L0, _, _, S9, rfl, h4⟩
theorem s_slices_Concat_api_Leaf_api_Leaf {a0 : List (List g_api_Leaf)} {r : List g_api_Leaf} (hm : m_slices_Concat_api_Leaf_api_Leaf a0 = some r) : Sp prog 93 [sl (eL e_api_Leaf) a0] [] 0 (is (.ow 0) [.row 0 2 _ e_api_Leaf r] 1) :=
  ⟨call93, fun η m As w vs hv0 hd S => by
    have S : St m As w := S
    obtain ⟨v0, u0, rfl, r0, hv1⟩ := RelL.cons_inv hv0
    have f0 := Br.ofS (Br.sl b_api_Leaf) r0.dd
    obtain rfl := RelL.nil_inv hv1
    refine CallsR.mono (w_slices_Concat_api_Leaf_api_Leaf S f0 hm) ?_
    rintro v w' ⟨M, hle, y0, c0, S0, rfl, h0⟩
    exact ⟨M, (envL [v]), _, _, _, hle, dom0 hd _, ⟨rfl, rfl, rfl⟩, envL_dom rfl, (.ow rfl (row_one S0)), (St.impL S0 (sepC (Br.toR b_api_Leaf rfl rfl (row_one S0) h0) fun _ h => h))⟩⟩
def m_logd_all (a0 : g_api_Log) : Option (List g_api_Leaf) :=
  obind (m_slices_Concat_api_Leaf_api_Leaf ([a0.L, a0.Wait] : List (List g_api_Leaf))) fun x1 =>
  some x1
theorem w_logd_all {a0 : g_api_Log} {r : List g_api_Leaf} (hm : m_logd_all a0 = some r) : Sp prog 47 [ag (e_api_Log a0)] [] 0 (is (.ow 0) [.row 0 2 _ e_api_Leaf r] 1) :=
  sp call47 func47 rfl ntmps47 rfl fun D0 As η0 m0 hd => by
    unfold m_logd_all at hm
    refine glitF (k := 1) (eL e_api_Leaf) ([a0.L, a0.Wait] : List (List g_api_Leaf)) (fun _ => rfl) (by kernel_rfl) ?_
    obtain ⟨x1, q1, hm⟩ := obind_some hm
    refine gco (s_slices_Concat_api_Leaf_api_Leaf q1) (by kernel_rfl) ?_
    have e0 := Option.some.inj hm
    subst e0
    exact gend hd (by kernel_rfl)
theorem v_logd_all {m : Mem} {As : List Ow} {w : World} {a0 : g_api_Log} {a0v3 : Value} {a0v4 : Value} {a0v5 : Value} {r : List g_api_Leaf} (S : St m As w) (a0h3 : SlR m a0v3 a0.L) (a0h4 : SlR m a0v4 a0.Hide) (a0h5 : SlR m a0v5 a0.Wait) (hm : m_logd_all a0 = some r) :
    CallsR prog 47 #[.agg #[vI a0.Id, vU a0.Key, vI a0.Delay, a0v3, a0v4, a0v5]] w fun v w' => ∃ (M : Mem), m ≤ M ∧ ∃ (rv0 : Value) (rc0 : List Value), St M ((row 2 rv0 rc0 r.length) :: As) w' ∧ v = rv0 ∧ RepL M rc0 r := by
  refine CallsR.mono ((w_logd_all hm).2 none0 m As w [.agg #[vI a0.Id, vU a0.Key, vI a0.Delay, a0v3, a0v4, a0v5]] (.cons (Br.toA b_api_Log (mk_g_api_Log a0h3 a0h4 a0h5)) .nil) (fun n h => absurd rfl h) S) ?_
  rintro v w' ⟨M, η', r', obs', n1, hle, _, ⟨rfl, rfl, rfl⟩, hdom, hR, S'⟩
  obtain ⟨n0, o0⟩ := hR.ow_inv
  obtain ⟨y0, c0, k0, _, d0, _, S'⟩ := St.openRow S'
  rw [n0] at k0; obtain rfl := Option.some.inj k0
  exact ⟨M, hle, v, c0, S', rfl, Br.ofL b_api_Leaf d0⟩
def m_logd_Check_b3  (i1 : Int) (x4 : g_api_Leaf) (s1 : (List (ByteArray × Bool))) : Option (((List (ByteArray × Bool))) ⊕ Int) :=
  obind (m_logd_isBody x4.Body) fun x5 =>
  obind (
    if (!x5) = true then
      some true
    else
    obind (m_logd_number x4.At) fun x8 =>
    some (!x8)
  ) fun x7 =>
  if (x7 || (lkB s1 (bs x4.Body))) = true then
    some (.inr 1)
  else
  if (lkI s1 (bs x4.Body) 0).isNone = true then
    some (.inl (s1 ++ [((bs x4.Body), true)]))
  else none
def m_logd_Check_b5 (a0 : g_api_Log) (i2 : Int) (x10 : Int) (s2 : Int) : Option ((Int) ⊕ Int) :=
  if ((decide (x10 ≤ s2)) || (decide (x10 ≥ (a0.L.length : Int)))) = true then
    some (.inr 1)
  else
  some (.inl x10)
def m_logd_Check (a0 : g_api_Log) : Option Int :=
  obind (m_logd_number a0.Id) fun x1 =>
  if (((((!x1) || ((a0.Key.toNat : Int) == 0)) || (decide ((a0.Key.toNat : Int) ≥ 1152921504606845789))) || (decide (a0.Delay < 0))) || (decide (a0.Delay > 1000))) = true then
    some 1
  else
  obind (m_logd_all a0) fun x2 =>
  obind (eachR m_logd_Check_b3 x2 0 ([] : List (ByteArray × Bool))) fun x3 => match x3 with
  | .inr r => some r
  | .inl y1 =>
  obind (eachR (m_logd_Check_b5 a0) a0.Hide 0 (-1)) fun x9 => match x9 with
  | .inr r => some r
  | .inl y3 =>
  if (decide ((y1.length : Int) > 256)) = true then
    some 2
  else
  some 0
theorem w_logd_Check {m : Mem} {As : List Ow} {w : World} {a0 : g_api_Log} {a0v3 : Value} {a0v4 : Value} {a0v5 : Value} {r : Int} (S : St m (As) w) (a0h3 : SlR m a0v3 a0.L) (a0h4 : SlR m a0v4 a0.Hide) (a0h5 : SlR m a0v5 a0.Wait) (hm : m_logd_Check a0 = some r) :
    CallsR Tryz.prog 24 #[.agg (c_api_Log a0 a0v3 a0v4 a0v5).toArray] w fun v w' => ∃ (M : Mem), m ≤ M ∧ St M (As) w' ∧ v = vI r := by
 unfold m_logd_Check at hm
 have L0 := Mem.rfl' m
 refine callsR (args := [.agg (c_api_Log a0 a0v3 a0v4 a0v5).toArray]) func24 rfl ntmps24 (nb rfl) <| ws <| s_box S rfl fun b1 w1 S1 => ?_
 replace S1 : St _ ((bx b1 (c_api_Log a0 a0v3 a0v4 a0v5) 26) :: As) _ := S1
 clear S
 refine s_asv (v := vI 0) rfl <| wpl_nil <| nrm <| wpc_seq <| ws <| s_fld (n := 0) rfl underlying26 rfl rfl sizeOf3 <| s_ld (i := 0) (cs := [vI a0.Id]) S1 rfl rfl isAgg3 sizeOf3 rfl (fun _ => rfl) ?_
 obtain ⟨x1, q1, hm⟩ := obind_some hm
 refine s_call call31 (v_logd_number (a0 := a0.Id) S1  q1) rfl ?_
 rintro _ w2 ⟨m1, l1, S2, rfl⟩
 clear S1
 refine s_not rfl <| s_mvv (v := vb (!x1)) rfl <| wpl_cut 4 [14, 15, 16, 17] (fun f' w' => w' = w2 ∧ AllAt f' [(17, vb ((!x1) || ((a0.Key.toNat : Int) == 0)))]) ?_ ?_
 · rcases bool_tf (!x1) with hb1 | hb1
   · exact wpl_no (d := 13) rfl rfl (cb hb1) <| wpl_no (d := 13) rfl rfl (cb hb1) <| wpl_no (d := 13) rfl rfl (cb hb1) <| s_pickT (cb hb1) rfl <| wpl_nil (nrm ⟨outP, rfl, congrArg Value.bool (or_t hb1), trivial⟩)
   · exact wpl_yes (d := 13) rfl rfl (cb hb1) <| s_fld (n := 0) rfl underlying26 rfl rfl sizeOf22 <| wpl_yes (d := 13) rfl rfl (cb hb1) <| s_ld (i := 0) (cs := [vU a0.Key]) S2 rfl rfl isAgg22 sizeOf22 rfl (fun _ => rfl) <| wpl_yes (d := 13) rfl rfl (cb hb1) <| s_eql (m := (a0.Key.toNat : Int)) (n := 0) rfl rfl <| s_pickF (cb hb1) rfl <| wpl_nil (nrm ⟨outP, rfl, congrArg Value.bool (or_f hb1), trivial⟩)
 rintro f1 w3 ho ⟨h1, ha⟩
 subst h1
 obtain ⟨u1, rfl⟩ := fr_of (N := 85) ho ha
 refine s_mvv (v := vb ((!x1) || ((a0.Key.toNat : Int) == 0))) rfl <| wpl_cut 4 [19, 20, 21, 22] (fun f' w' => w' = w3 ∧ AllAt f' [(22, vb (((!x1) || ((a0.Key.toNat : Int) == 0)) || (decide ((a0.Key.toNat : Int) ≥ 1152921504606845789))))]) ?_ ?_
 · rcases bool_tf ((!x1) || ((a0.Key.toNat : Int) == 0)) with hb2 | hb2
   · exact wpl_no (d := 18) rfl rfl (cb hb2) <| wpl_no (d := 18) rfl rfl (cb hb2) <| wpl_no (d := 18) rfl rfl (cb hb2) <| s_pickT (cb hb2) rfl <| wpl_nil (nrm ⟨outP, rfl, congrArg Value.bool (or_t hb2), trivial⟩)
   · exact wpl_yes (d := 18) rfl rfl (cb hb2) <| s_fld (n := 0) rfl underlying26 rfl rfl sizeOf22 <| wpl_yes (d := 18) rfl rfl (cb hb2) <| s_ld (i := 0) (cs := [vU a0.Key]) S2 rfl rfl isAgg22 sizeOf22 rfl (fun _ => rfl) <| wpl_yes (d := 18) rfl rfl (cb hb2) <| s_geq (m := (a0.Key.toNat : Int)) (n := 1152921504606845789) rfl rfl <| s_pickF (cb hb2) rfl <| wpl_nil (nrm ⟨outP, rfl, congrArg Value.bool (or_f hb2), trivial⟩)
 rintro f2 w4 ho ⟨h2, ha⟩
 subst h2
 obtain ⟨u2, rfl⟩ := fr_of (N := 85) ho ha
 refine s_mvv (v := vb (((!x1) || ((a0.Key.toNat : Int) == 0)) || (decide ((a0.Key.toNat : Int) ≥ 1152921504606845789)))) rfl <| wpl_cut 4 [24, 25, 26, 27] (fun f' w' => w' = w4 ∧ AllAt f' [(27, vb ((((!x1) || ((a0.Key.toNat : Int) == 0)) || (decide ((a0.Key.toNat : Int) ≥ 1152921504606845789))) || (decide (a0.Delay < 0))))]) ?_ ?_
 · rcases bool_tf (((!x1) || ((a0.Key.toNat : Int) == 0)) || (decide ((a0.Key.toNat : Int) ≥ 1152921504606845789))) with hb3 | hb3
   · exact wpl_no (d := 23) rfl rfl (cb hb3) <| wpl_no (d := 23) rfl rfl (cb hb3) <| wpl_no (d := 23) rfl rfl (cb hb3) <| s_pickT (cb hb3) rfl <| wpl_nil (nrm ⟨outP, rfl, congrArg Value.bool (or_t hb3), trivial⟩)
   · exact wpl_yes (d := 23) rfl rfl (cb hb3) <| s_fld (n := 0) rfl underlying26 rfl rfl sizeOf3 <| wpl_yes (d := 23) rfl rfl (cb hb3) <| s_ld (i := 0) (cs := [vI a0.Delay]) S2 rfl rfl isAgg3 sizeOf3 rfl (fun _ => rfl) <| wpl_yes (d := 23) rfl rfl (cb hb3) <| s_lss (m := a0.Delay) (n := 0) rfl rfl <| s_pickF (cb hb3) rfl <| wpl_nil (nrm ⟨outP, rfl, congrArg Value.bool (or_f hb3), trivial⟩)
 rintro f3 w5 ho ⟨h3, ha⟩
 subst h3
 obtain ⟨u3, rfl⟩ := fr_of (N := 85) ho ha
 refine s_mvv (v := vb ((((!x1) || ((a0.Key.toNat : Int) == 0)) || (decide ((a0.Key.toNat : Int) ≥ 1152921504606845789))) || (decide (a0.Delay < 0)))) rfl <| wpl_cut 4 [29, 30, 31, 32] (fun f' w' => w' = w5 ∧ AllAt f' [(32, vb (((((!x1) || ((a0.Key.toNat : Int) == 0)) || (decide ((a0.Key.toNat : Int) ≥ 1152921504606845789))) || (decide (a0.Delay < 0))) || (decide (a0.Delay > 1000))))]) ?_ ?_
 · rcases bool_tf ((((!x1) || ((a0.Key.toNat : Int) == 0)) || (decide ((a0.Key.toNat : Int) ≥ 1152921504606845789))) || (decide (a0.Delay < 0))) with hb4 | hb4
   · exact wpl_no (d := 28) rfl rfl (cb hb4) <| wpl_no (d := 28) rfl rfl (cb hb4) <| wpl_no (d := 28) rfl rfl (cb hb4) <| s_pickT (cb hb4) rfl <| wpl_nil (nrm ⟨outP, rfl, congrArg Value.bool (or_t hb4), trivial⟩)
   · exact wpl_yes (d := 28) rfl rfl (cb hb4) <| s_fld (n := 0) rfl underlying26 rfl rfl sizeOf3 <| wpl_yes (d := 28) rfl rfl (cb hb4) <| s_ld (i := 0) (cs := [vI a0.Delay]) S2 rfl rfl isAgg3 sizeOf3 rfl (fun _ => rfl) <| wpl_yes (d := 28) rfl rfl (cb hb4) <| s_gtr (m := a0.Delay) (n := 1000) rfl rfl <| s_pickF (cb hb4) rfl <| wpl_nil (nrm ⟨outP, rfl, congrArg Value.bool (or_f hb4), trivial⟩)
 rintro f4 w6 ho ⟨h4, ha⟩
 subst h4
 obtain ⟨u4, rfl⟩ := fr_of (N := 85) ho ha
 refine wpl_nil <| nrm <| wpc_if (t := (((((!x1) || ((a0.Key.toNat : Int) == 0)) || (decide ((a0.Key.toNat : Int) ≥ 1152921504606845789))) || (decide (a0.Delay < 0))) || (decide (a0.Delay > 1000)))) rfl (fun hc1 => ?_) (fun hc1 => ?_)
 · replace hm := ifT hc1 hm
   refine ws <| s_asv (v := vI 1) rfl <| wpl_nil <| nrm <| wpc_ret <| thR <| outRw fun we hpd => ?_
   replace S2 := St.pd S2 hpd
   obtain ⟨m2, l2, S3⟩ := St.drop S2 0
   clear S2
   replace S3 : St _ (As) _ := S3
   have e0 := Option.some.inj hm
   subst e0
   replace L0 := Mem.tr L0 (mt l1 l2)
   exact outR [_] rfl ⟨rfl, trivial⟩ ⟨_, L0, S3, rfl⟩
 replace hm := ifF hc1 hm
 refine wpc_skip <| nrm <| ws <| s_makeMap S2 fun b2 w7 S4 => ?_
 clear S2
 refine s_asv (v := .map (some b2)) rfl <| wpl_nil <| nrm <| wpc_seq <| ws <| s_ld (i := 1) (cs := (c_api_Log a0 a0v3 a0v4 a0v5)) S4 rfl rfl isAgg26 sizeOf26 rfl (fun h => by cases h) ?_
 obtain ⟨x2, q2, hm⟩ := obind_some hm
 refine s_call call47 (v_logd_all (a0 := a0) S4 (a0h3.up l1) (a0h4.up l1) (a0h5.up l1) q2) rfl ?_
 rintro v1 w8 ⟨m3, l3, _, c1, S5, rfl, h5⟩
 clear S4
 refine s_lenO (i := 0) S5 rfl rfl underlying23 <| s_mvv (v := vI 0) rfl <| wpl_nil <| nrm ?_
 obtain ⟨m4, l4, h6, S6⟩ := St.rowKeepT (i := 0) S5 rfl h5 rfl
 clear S5
 obtain ⟨x3, q3, hm⟩ := obind_some hm
 have L1 := Mem.rfl' m4
 refine wpc_join [2, 5, 37, 38, 39, 40, 41, 42, 43, 44, 45, 46, 47, 48, 49, 50, 51, 52, 53, 54, 55, 56, 57, 58, 59, 60, 61, 62] (fun f' w' => ∃ (M1 : Mem) (y1 : (List (ByteArray × Bool))), x3 = .inl y1 ∧ m4 ≤ M1 ∧ St M1 ((mpS b2 y1) :: (bx b1 (c_api_Log a0 a0v3 a0v4 a0v5) 26) :: As) w' ∧ AllAt f' []) ?_ ?_
 · refine wpc_block <| wpc_rounds [2, 5, 37, 38, 39, 40, 41, 42, 43, 44, 45, 46, 47, 48, 49, 50, 51, 52, 53, 54, 55, 56, 57, 58, 59, 60, 61, 62] (fun n1 f' w' => ∃ (i1 : Nat) (s1 : (List (ByteArray × Bool))) (m14 : Mem), n1 = x2.length - i1 ∧ i1 ≤ x2.length ∧ eachR m_logd_Check_b3 (x2.drop i1) (i1 : Int) s1 = some x3 ∧ m4 ≤ m14 ∧ St m14 ((mpS b2 s1) :: (bx b1 (c_api_Log a0 a0v3 a0v4 a0v5) 26) :: As) w' ∧ AllAt f' [(37, vI (i1 : Int))]) x2.length ⟨0, ([] : List (ByteArray × Bool)), m4, rfl, Nat.zero_le _, q3, L1, S6, ⟨rfl, trivial⟩⟩ ?_
   rintro n1 f5 w9 ho ⟨i1, s1, m5, hn, hi, q4, L3, S7, ha⟩
   obtain ⟨u5, rfl⟩ := fr_of (N := 85) ho ha
   clear ho ha
   have L2 := Mem.rfl' m5
   clear S6
   refine ws <| s_lss (m := (i1 : Int)) (n := (x2.length : Int)) rfl rfl <| wpl_nil <| nrm <| wpc_seq <| wpc_if (t := decide ((i1 : Int) < (x2.length : Int))) rfl (fun hc3 => ?_) (fun hc3 => ?_)
   · have hlt1 : i1 < x2.length := by have := of_decide_eq_true hc3; omega
     obtain ⟨x4, y2, q7, q6, q5⟩ := eachR_in q4 hlt1
     unfold m_logd_Check_b3 at q6
     refine wpc_skip <| nrm <| wpc_seq <| wpc_block <| ws <| s_idx (q := x4) rfl rfl (h6.up L3) q7 underlying23 sizeOf67 fun p1 c2 h7 r2 => ?_
     obtain ⟨v2, rfl, h8⟩ := rep_g_api_Leaf r2
     refine s_ldM (cs := (c_api_Leaf x4 v2)) S7 rfl h7 rfl isAgg67 sizeOf67 (fun h => by cases h) <| s_alloc S7 zeroValue67 fun b4 w10 S8 => s_stL (i := 0) S8 rfl rfl rfl sizeOf67 (oneC (SlR.one h8) (oneC rfl oneN)) rfl fun w11 S9 => ?_
     replace S9 : St _ ((bx b4 (c_api_Leaf x4 v2) 67) :: (mpS b2 s1) :: (bx b1 (c_api_Log a0 a0v3 a0v4 a0v5) 26) :: As) _ := S9
     clear S7 S8
     refine wpl_nil <| nrm <| wpc_seq <| ws <| s_fld (n := 0) rfl underlying67 rfl rfl sizeOf51 <| s_ld (i := 0) (cs := [v2]) S9 rfl rfl isAgg51 sizeOf51 rfl (fun _ => rfl) ?_
     obtain ⟨x5, q8, q6⟩ := obind_some q6
     refine s_call call46 (v_logd_isBody (a0 := x4.Body) S9 h8 q8) rfl ?_
     rintro _ w12 ⟨m6, l5, S10, rfl⟩
     clear S9
     refine s_not rfl <| s_mvv (v := vb (!x5)) rfl ?_
     obtain ⟨x7, q10, q6⟩ := obind_some q6
     have L4 := Mem.rfl' m6
     refine wpl_cut 5 [46, 47, 48, 49, 50] (fun f' w' => ∃ (M2 : Mem), m6 ≤ M2 ∧ St M2 ((bx b4 (c_api_Leaf x4 v2) 67) :: (mpS b2 s1) :: (bx b1 (c_api_Log a0 a0v3 a0v4 a0v5) 26) :: As) w' ∧ AllAt f' [(50, vb x7)]) ?_ ?_
     · rcases bool_tf (!x5) with hb5 | hb5
       · replace q10 := ifT hb5 q10
         refine wpl_no (d := 45) rfl rfl (cb hb5) <| wpl_no (d := 45) rfl rfl (cb hb5) <| wpl_no (d := 45) rfl rfl (cb hb5) <| wpl_no (d := 45) rfl rfl (cb hb5) <| s_pickT (cb hb5) rfl <| wpl_nil (nrm ?_)
         have e0 := Option.some.inj q10
         subst e0
         exact ⟨outP, m6, L4, S10, ⟨rfl, trivial⟩⟩
       replace q10 := ifF hb5 q10
       refine wpl_yes (d := 45) rfl rfl (cb hb5) <| s_fld (n := 0) rfl underlying67 rfl rfl sizeOf3 <| wpl_yes (d := 45) rfl rfl (cb hb5) <| s_ld (i := 0) (cs := [vI x4.At]) S10 rfl rfl isAgg3 sizeOf3 rfl (fun _ => rfl) <| wpl_yes (d := 45) rfl rfl (cb hb5) ?_
       obtain ⟨x8, q11, q10⟩ := obind_some q10
       refine s_call call31 (v_logd_number (a0 := x4.At) S10  q11) rfl ?_
       rintro _ w14 ⟨m8, l7, S12, rfl⟩
       clear S10
       refine wpl_yes (d := 45) rfl rfl (cb hb5) <| s_not rfl <| s_pickF (cb hb5) rfl <| wpl_nil (nrm ?_)
       have e0 := Option.some.inj q10
       subst e0
       replace L4 := Mem.tr L4 l7
       exact ⟨outP, m8, L4, S12, ⟨rfl, trivial⟩⟩
     rintro f6 w15 ho ⟨m9, l8, S13, ha⟩
     obtain ⟨u6, rfl⟩ := fr_of (N := 85) ho ha
     clear S10
     refine s_mvv (v := vb x7) rfl <| wpl_cut 6 [52, 53, 54, 55, 56, 57] (fun f' w' => w' = w15 ∧ AllAt f' [(57, vb (x7 || (lkB s1 (bs x4.Body))))]) ?_ ?_
     · rcases bool_tf x7 with hb6 | hb6
       · exact wpl_no (d := 51) rfl rfl (cb hb6) <| wpl_no (d := 51) rfl rfl (cb hb6) <| wpl_no (d := 51) rfl rfl (cb hb6) <| wpl_no (d := 51) rfl rfl (cb hb6) <| wpl_no (d := 51) rfl rfl (cb hb6) <| s_pickT (cb hb6) rfl <| wpl_nil (nrm ⟨outP, rfl, congrArg Value.bool (or_t hb6), trivial⟩)
       · refine wpl_yes (d := 51) rfl rfl (cb hb6) <| s_mvv (v := .map (some b2)) rfl <| wpl_yes (d := 51) rfl rfl (cb hb6) <| s_fld (n := 0) rfl underlying67 rfl rfl sizeOf51 <| wpl_yes (d := 51) rfl rfl (cb hb6) <| s_ld (i := 0) (cs := [v2]) S13 rfl rfl isAgg51 sizeOf51 rfl (fun _ => rfl) <| wpl_yes (d := 51) rfl rfl (cb hb6) ?_
         replace h8 := h8.up (mt l5 l8)
         exact s_bytesS (xs := x4.Body) (t2' := 5) S13 rfl h8 underlying51 underlying5 underlying9 <| wpl_yes (d := 51) rfl rfl (cb hb6) <| s_lookupS (i := 1) (k := (bs x4.Body)) S13 rfl rfl rfl underlying94 underlying9 zeroValue4 <| s_pickF (cb hb6) rfl <| wpl_nil (nrm ⟨outP, rfl, congrArg Value.bool (or_f hb6), trivial⟩)
     rintro f7 w16 ho ⟨h9, ha⟩
     subst h9
     obtain ⟨u7, rfl⟩ := fr_of (N := 85) ho ha
     refine wpl_nil <| nrm <| wpc_if (t := (x7 || (lkB s1 (bs x4.Body)))) rfl (fun hc2 => ?_) (fun hc2 => ?_)
     · replace q6 := ifT hc2 q6
       refine ws <| s_asv (v := vI 1) rfl <| wpl_nil <| nrm <| wpc_ret <| thR <| blR <| thR <| thR <| blR <| thR <| outRw fun we hpd => ?_
       replace S13 := St.pd S13 hpd
       obtain ⟨m10, l9, S14⟩ := St.drop S13 0
       clear S13
       replace S14 : St _ ((mpS b2 s1) :: (bx b1 (c_api_Log a0 a0v3 a0v4 a0v5) 26) :: As) _ := S14
       obtain ⟨m11, l10, S15⟩ := St.drop S14 0
       clear S14
       replace S15 : St _ ((bx b1 (c_api_Log a0 a0v3 a0v4 a0v5) 26) :: As) _ := S15
       obtain ⟨m12, l11, S16⟩ := St.drop S15 0
       clear S15
       replace S16 : St _ (As) _ := S16
       cases q6
       rcases q5 with ⟨sn, e, _⟩ | ⟨tn, e, e2⟩
       · cases e
       cases e
       cases e2
       dsimp only at hm
       have e0 := Option.some.inj hm
       subst e0
       replace L0 := Mem.tr L0 (mt l1 (mt l3 l4))
       replace L2 := Mem.tr L2 (mt l5 (mt l8 (mt l9 (mt l10 l11))))
       exact outR [_] rfl ⟨rfl, trivial⟩ ⟨_, (Mem.tr L0 (Mem.tr L3 L2)), S16, rfl⟩
     replace q6 := ifF hc2 q6
     refine wpc_skip <| nrm <| wpc_region <| s_mvv (v := .map (some b2)) rfl <| s_fld (n := 0) rfl underlying67 rfl rfl sizeOf51 <| s_ld (i := 0) (cs := [v2]) S13 rfl rfl isAgg51 sizeOf51 rfl (fun _ => rfl) ?_
     replace h8 := h8.up (mt l5 l8)
     refine s_bytesS (xs := x4.Body) (t2' := 5) S13 rfl h8 underlying51 underlying5 underlying9 ?_
     obtain ⟨q12, q6⟩ := if_some q6
     refine s_mapUpdS (i := 1) (k := (bs x4.Body)) (u := true) S13 rfl rfl rfl rfl underlying94 underlying9 q12 fun w17 S17 => ?_
     replace S17 : St _ ((bx b4 (c_api_Leaf x4 v2) 67) :: (mpS b2 (s1 ++ [((bs x4.Body), true)])) :: (bx b1 (c_api_Log a0 a0v3 a0v4 a0v5) 26) :: As) _ := S17
     clear S13
     refine wpl_nil <| nrmB <| nrm <| wpc_region <| s_addI (m := (i1 : Int)) (n := 1) rfl rfl <| s_mvv (v := vI (w64 ((i1 : Int) + 1))) rfl <| wpl_nil <| nrm ?_
     obtain ⟨m13, l12, S18⟩ := St.drop S17 0
     clear S17
     replace S18 : St _ ((mpS b2 (s1 ++ [((bs x4.Body), true)])) :: (bx b1 (c_api_Log a0 a0v3 a0v4 a0v5) 26) :: As) _ := S18
     have e0 := Option.some.inj q6
     subst e0
     rcases q5 with ⟨sn, e, q5'⟩ | ⟨tn, e, _⟩
     · cases e
       replace h6 := h6.up (mt L3 (mt l5 (mt l8 l12)))
       replace L2 := Mem.tr L2 (mt l5 (mt l8 l12))
       exact ⟨outP, _, (by omega), ⟨i1 + 1, _, m13, rfl, hlt1, q5', Mem.tr L3 L2, S18, ⟨congrArg (Value.int .i64) (w64_succ hlt1 (SlR.le h6)), trivial⟩⟩⟩
     · cases e
   have hlt1 : ¬ i1 < x2.length := by have := of_decide_eq_false hc3; omega
   have e := eachR_out q4 hlt1
   cases e
   exact wpc_exit <| thE <| thE <| exB <| nrm <| ⟨outP, m5, _, rfl, Mem.tr L3 L2, S7, trivial⟩
 rintro f8 w18 ho ⟨m15, y1, rfl, l13, S19, ha⟩
 obtain ⟨u8, rfl⟩ := fr_of (N := 85) ho ha
 clear ho ha
 dsimp only at hm
 clear S6
 refine ws <| s_asv (v := vI (-1)) rfl <| wpl_nil <| nrm <| wpc_seq <| ws <| s_fld (n := 0) rfl underlying26 rfl rfl sizeOf24 <| s_ld (i := 1) (cs := [a0v4]) S19 rfl rfl isAgg24 sizeOf24 rfl (fun _ => rfl) ?_
 replace a0h4 := a0h4.up (mt l1 (mt l3 (mt l4 l13)))
 refine s_lenR (xs := a0.Hide) rfl a0h4 underlying24 <| s_mvv (v := vI 0) rfl <| wpl_nil <| nrm ?_
 obtain ⟨x9, q13, hm⟩ := obind_some hm
 have L5 := Mem.rfl' m15
 refine wpc_join [2, 6, 8, 66, 67, 68, 69, 70, 71, 72, 73, 74, 75, 76, 77, 78, 79, 80, 81] (fun f' w' => ∃ (M3 : Mem) (y3 : Int), x9 = .inl y3 ∧ m15 ≤ M3 ∧ St M3 ((mpS b2 y1) :: (bx b1 (c_api_Log a0 a0v3 a0v4 a0v5) 26) :: As) w' ∧ AllAt f' [(6, vI y3)]) ?_ ?_
 · refine wpc_block <| wpc_rounds [2, 6, 8, 66, 67, 68, 69, 70, 71, 72, 73, 74, 75, 76, 77, 78, 79, 80, 81] (fun n2 f' w' => ∃ (i2 : Nat) (s2 : Int) (m19 : Mem), n2 = a0.Hide.length - i2 ∧ i2 ≤ a0.Hide.length ∧ eachR (m_logd_Check_b5 a0) (a0.Hide.drop i2) (i2 : Int) s2 = some x9 ∧ m15 ≤ m19 ∧ St m19 ((mpS b2 y1) :: (bx b1 (c_api_Log a0 a0v3 a0v4 a0v5) 26) :: As) w' ∧ AllAt f' [(66, vI (i2 : Int)), (6, vI s2)]) a0.Hide.length ⟨0, (-1), m15, rfl, Nat.zero_le _, q13, L5, S19, ⟨rfl, rfl, trivial⟩⟩ ?_
   rintro n2 f9 w19 ho ⟨i2, s2, m16, hn, hi, q14, L7, S20, ha⟩
   obtain ⟨u9, rfl⟩ := fr_of (N := 85) ho ha
   clear ho ha
   have L6 := Mem.rfl' m16
   clear S19
   refine ws <| s_lss (m := (i2 : Int)) (n := (a0.Hide.length : Int)) rfl rfl <| wpl_nil <| nrm <| wpc_seq <| wpc_if (t := decide ((i2 : Int) < (a0.Hide.length : Int))) rfl (fun hc5 => ?_) (fun hc5 => ?_)
   · have hlt2 : i2 < a0.Hide.length := by have := of_decide_eq_true hc5; omega
     obtain ⟨x10, y4, q17, q16, q15⟩ := eachR_in q14 hlt2
     unfold m_logd_Check_b5 at q16
     refine wpc_skip <| nrm <| wpc_seq <| wpc_block <| ws <| s_idx (q := x10) rfl rfl (a0h4.up L7) q17 underlying24 sizeOf3 fun p2 c3 h10 r3 => ?_
     obtain rfl : c3 = [vI x10] := r3
     refine s_ldM (cs := [vI x10]) S20 rfl h10 rfl isAgg3 sizeOf3 (fun _ => rfl) <| s_asv (v := vI x10) rfl <| wpl_nil <| nrm <| wpc_seq <| ws <| s_mvv (v := vI x10) rfl <| s_mvv (v := vI s2) rfl <| s_leq (m := x10) (n := s2) rfl rfl <| s_mvv (v := vb (decide (x10 ≤ s2))) rfl <| wpl_cut 6 [74, 75, 76, 77, 78, 79] (fun f' w' => w' = w19 ∧ AllAt f' [(79, vb ((decide (x10 ≤ s2)) || (decide (x10 ≥ (a0.L.length : Int)))))]) ?_ ?_
     · rcases bool_tf (decide (x10 ≤ s2)) with hb7 | hb7
       · exact wpl_no (d := 73) rfl rfl (cb hb7) <| wpl_no (d := 73) rfl rfl (cb hb7) <| wpl_no (d := 73) rfl rfl (cb hb7) <| wpl_no (d := 73) rfl rfl (cb hb7) <| wpl_no (d := 73) rfl rfl (cb hb7) <| s_pickT (cb hb7) rfl <| wpl_nil (nrm ⟨outP, rfl, congrArg Value.bool (or_t hb7), trivial⟩)
       · refine wpl_yes (d := 73) rfl rfl (cb hb7) <| s_mvv (v := vI x10) rfl <| wpl_yes (d := 73) rfl rfl (cb hb7) <| s_fld (n := 0) rfl underlying26 rfl rfl sizeOf23 <| wpl_yes (d := 73) rfl rfl (cb hb7) <| s_ld (i := 1) (cs := [a0v3]) S20 rfl rfl isAgg23 sizeOf23 rfl (fun _ => rfl) <| wpl_yes (d := 73) rfl rfl (cb hb7) ?_
         replace a0h3 := a0h3.up (mt l1 (mt l3 (mt l4 (mt l13 L7))))
         exact s_lenR (xs := a0.L) rfl a0h3 underlying23 <| wpl_yes (d := 73) rfl rfl (cb hb7) <| s_geq (m := x10) (n := (a0.L.length : Int)) rfl rfl <| s_pickF (cb hb7) rfl <| wpl_nil (nrm ⟨outP, rfl, congrArg Value.bool (or_f hb7), trivial⟩)
     rintro f10 w20 ho ⟨h11, ha⟩
     subst h11
     obtain ⟨u10, rfl⟩ := fr_of (N := 85) ho ha
     refine wpl_nil <| nrm <| wpc_if (t := ((decide (x10 ≤ s2)) || (decide (x10 ≥ (a0.L.length : Int))))) rfl (fun hc4 => ?_) (fun hc4 => ?_)
     · replace q16 := ifT hc4 q16
       refine ws <| s_asv (v := vI 1) rfl <| wpl_nil <| nrm <| wpc_ret <| thR <| blR <| thR <| thR <| blR <| thR <| outRw fun we hpd => ?_
       replace S20 := St.pd S20 hpd
       obtain ⟨m17, l14, S21⟩ := St.drop S20 0
       clear S20
       replace S21 : St _ ((bx b1 (c_api_Log a0 a0v3 a0v4 a0v5) 26) :: As) _ := S21
       obtain ⟨m18, l15, S22⟩ := St.drop S21 0
       clear S21
       replace S22 : St _ (As) _ := S22
       cases q16
       rcases q15 with ⟨sn, e, _⟩ | ⟨tn, e, e2⟩
       · cases e
       cases e
       cases e2
       dsimp only at hm
       have e0 := Option.some.inj hm
       subst e0
       replace L0 := Mem.tr L0 (mt l1 (mt l3 (mt l4 l13)))
       replace L6 := Mem.tr L6 (mt l14 l15)
       exact outR [_] rfl ⟨rfl, trivial⟩ ⟨_, (Mem.tr L0 (Mem.tr L7 L6)), S22, rfl⟩
     replace q16 := ifF hc4 q16
     refine wpc_skip <| nrm <| wpc_region <| s_mvv (v := vI x10) rfl <| s_asv (v := vI x10) rfl <| wpl_nil <| nrmB <| nrm <| wpc_region <| s_addI (m := (i2 : Int)) (n := 1) rfl rfl <| s_mvv (v := vI (w64 ((i2 : Int) + 1))) rfl <| wpl_nil <| nrm ?_
     have e0 := Option.some.inj q16
     subst e0
     rcases q15 with ⟨sn, e, q15'⟩ | ⟨tn, e, _⟩
     · cases e
       exact ⟨outP, _, (by omega), ⟨i2 + 1, _, m16, rfl, hlt2, q15', Mem.tr L7 L6, S20, ⟨congrArg (Value.int .i64) (w64_succ hlt2 (SlR.le (a0h4.up L7))), rfl, trivial⟩⟩⟩
     · cases e
   have hlt2 : ¬ i2 < a0.Hide.length := by have := of_decide_eq_false hc5; omega
   have e := eachR_out q14 hlt2
   cases e
   exact wpc_exit <| thE <| thE <| exB <| nrm <| ⟨outP, m16, _, rfl, Mem.tr L7 L6, S20, ⟨rfl, trivial⟩⟩
 rintro f11 w21 ho ⟨m20, y3, rfl, l16, S23, ha⟩
 obtain ⟨u11, rfl⟩ := fr_of (N := 85) ho ha
 clear ho ha
 dsimp only at hm
 clear S19
 refine wpc_seq <| ws <| s_mvv (v := .map (some b2)) rfl <| s_lenMap (i := 0) S23 rfl rfl underlying94 <| s_gtr (m := (y1.length : Int)) (n := 256) rfl rfl <| wpl_nil <| nrm <| wpc_if (t := (decide ((y1.length : Int) > 256))) rfl (fun hc6 => ?_) (fun hc6 => ?_)
 · replace hm := ifT hc6 hm
   refine ws <| s_asv (v := vI 2) rfl <| wpl_nil <| nrm <| wpc_ret <| thR <| outRw fun we hpd => ?_
   replace S23 := St.pd S23 hpd
   obtain ⟨m21, l17, S24⟩ := St.drop S23 0
   clear S23
   replace S24 : St _ ((bx b1 (c_api_Log a0 a0v3 a0v4 a0v5) 26) :: As) _ := S24
   obtain ⟨m22, l18, S25⟩ := St.drop S24 0
   clear S24
   replace S25 : St _ (As) _ := S25
   have e0 := Option.some.inj hm
   subst e0
   replace L0 := Mem.tr L0 (mt l1 (mt l3 (mt l4 (mt l13 (mt l16 (mt l17 l18))))))
   exact outR [_] rfl ⟨rfl, trivial⟩ ⟨_, L0, S25, rfl⟩
 replace hm := ifF hc6 hm
 refine wpc_skip <| nrm <| ws <| s_asv (v := vI 0) rfl <| wpl_nil <| nrm <| wpc_ret <| outRw fun we hpd => ?_
 replace S23 := St.pd S23 hpd
 obtain ⟨m23, l19, S26⟩ := St.drop S23 0
 clear S23
 replace S26 : St _ ((bx b1 (c_api_Log a0 a0v3 a0v4 a0v5) 26) :: As) _ := S26
 obtain ⟨m24, l20, S27⟩ := St.drop S26 0
 clear S26
 replace S27 : St _ (As) _ := S27
 have e0 := Option.some.inj hm
 subst e0
 replace L0 := Mem.tr L0 (mt l1 (mt l3 (mt l4 (mt l13 (mt l16 (mt l19 l20))))))
 exact outR [_] rfl ⟨rfl, trivial⟩ ⟨_, L0, S27, rfl⟩
theorem s_logd_Check {a0 : g_api_Log} {r : Int} (hm : m_logd_Check a0 = some r) : Sf prog 24 [ag (e_api_Log a0)] (.d (.i r)) :=
  ⟨call24, fun η m As w vs hv0 hd S => by
    have S : St m As w := S
    obtain ⟨v0, u0, rfl, r0, hv1⟩ := RelL.cons_inv hv0
    obtain ⟨c0, rfl, g0⟩ := Br.ofA b_api_Log r0
    obtain ⟨z0_0, z0_1, z0_2, rfl, f0_0, f0_1, f0_2⟩ := rep_g_api_Log g0
    obtain rfl := RelL.nil_inv hv1
    refine CallsR.mono (w_logd_Check S f0_0 f0_1 f0_2 hm) ?_
    rintro v w' ⟨M, hle, S0, rfl⟩
    exact ⟨M, none0, _, _, _, hle, dom0 hd _, ⟨rfl, rfl, rfl⟩, fun n h => absurd rfl h, (.d (.i _)), S0⟩⟩
def m_slices_Grow_byte_byte_nil (a1 : Int) : Option (List UInt8) :=
  obind (
    if (decide (a1 < 0)) = true then
      none
    else
    some ()
  ) fun x1 =>
  obind (
    bnd ((w64 (a1 - (w64 (0 - ((0 : Nat) : Int)))))) fun x3 =>
    if (decide (x3 > 0)) = true then
      if 0 ≤ x3 ∧ x3 * 1 ≤ 140737488355328 ∧ x3 ≤ 140737488355328 then
        some ([] : List UInt8)
      else none
    else
    some ([] : List UInt8)
  ) fun x2 =>
  some x2
theorem w_slices_Grow_byte_byte_nil {m : Mem} {As : List Ow} {w : World} {a1 : Int} {r : List UInt8} (S : St m (As) w) (hm : m_slices_Grow_byte_byte_nil a1 = some r) :
    CallsR Tryz.prog 59 #[.slice none 0 0, vI a1] w fun v w' => ∃ (M : Mem), m ≤ M ∧ ∃ (rv0 : Value) (rc0 : List Value), St M ((row 1 rv0 rc0 r.length) :: As) w' ∧ v = rv0 ∧ RepL M rc0 r := by
 unfold m_slices_Grow_byte_byte_nil at hm
 have L0 := Mem.rfl' m
 refine callsR (args := [.slice none 0 0, vI a1]) func59 rfl ntmps59 (nb rfl) <| ws <| s_asv (v := .slice none 0 0) rfl <| wpl_nil <| nrm ?_
 obtain ⟨x1, q1, hm⟩ := obind_some hm
 have L1 := Mem.rfl' m
 refine wpc_seq <| wpc_join [5, 6, 7] (fun f' w' => ∃ (M1 : Mem), m ≤ M1 ∧ St M1 (As) w' ∧ AllAt f' []) ?_ ?_
 · refine ws <| s_mvv (v := vI a1) rfl <| s_lss (m := a1) (n := 0) rfl rfl <| wpl_nil <| nrm <| wpc_if (t := (decide (a1 < 0))) rfl (fun hc1 => ?_) (fun hc1 => ?_)
   · replace q1 := ifT hc1 q1
     cases q1
   replace q1 := ifF hc1 q1
   refine wpc_skip <| nrm ?_
   have e0 := Option.some.inj q1
   subst e0
   exact ⟨outP, m, L1, S, trivial⟩
 rintro f1 w1 ho ⟨m1, l1, S1, ha⟩
 obtain ⟨u1, rfl⟩ := fr_of (N := 27) ho ha
 clear S
 obtain ⟨x2, q2, hm⟩ := obind_some hm
 have L2 := Mem.rfl' m1
 refine wpc_seq <| wpc_join [0, 1, 8, 9, 10, 11, 12, 13, 14, 15, 16, 17, 18, 19, 20, 21, 22, 23, 24, 25] (fun f' w' => ∃ (M2 : Mem) (v1 : Value) (c1 : List Value), m1 ≤ M2 ∧ St M2 ((row 1 v1 c1 x2.length) :: As) w' ∧ RepL M2 c1 x2 ∧ AllAt f' [(0, v1)]) ?_ ?_
 · refine ws <| s_mvv (v := vI a1) rfl <| s_mvv (v := .slice none 0 0) rfl <| s_capNil rfl underlying51 <| s_mvv (v := .slice none 0 0) rfl <| s_len (n := 0) rfl underlying51 <| s_subI (m := 0) (n := ((0 : Nat) : Int)) rfl rfl <| s_subI (m := a1) (n := (w64 (0 - ((0 : Nat) : Int)))) rfl rfl ?_
   obtain ⟨x3, q3, q2⟩ := bnd_eq q2
   refine s_asv (v := vI x3) (congrArg (fun z => vI z) q3.symm) <| nx <| s_mvv (v := vI x3) rfl <| s_gtr (m := x3) (n := 0) rfl rfl <| wpl_nil <| nrm <| wpc_if (t := (decide (x3 > 0))) rfl (fun hc2 => ?_) (fun hc2 => ?_)
   · replace q2 := ifT hc2 q2
     refine wpc_region <| s_mvv (v := .slice none 0 0) rfl <| s_mvv (v := .slice none 0 0) rfl <| s_capNil rfl underlying51 <| s_cutN rfl underlying51 sizeOf5 rfl <| s_mvv (v := vI x3) rfl ?_
     obtain ⟨q4, q2⟩ := if_some q2
     refine s_appN (bytes := 1) (sz := 1) (k := x3) (ti := Tryz.t5) S1 rfl rfl q4 underlying51 underlying3 type5 rfl rfl rfl rfl fun v2 c2 w2 S2 => ?_
     replace S2 : St _ ((row 1 v2 c2 x3.toNat) :: As) _ := S2
     clear S1
     refine s_mvv (v := .slice none 0 0) rfl <| s_len (n := 0) rfl underlying51 <| s_cutO (i := 0) S2 rfl rfl underlying51 sizeOf5 rfl (j := 0) rfl (Int.le_refl 0) (Int.natCast_nonneg _) fun v3 S3 => ?_
     rw [show c2.take ((0 : Int).toNat * 1) = [] from by simp] at S3
     have h2 : RepL m1 [] ([] : List UInt8) := RepL.nil
     replace S3 : St _ ((row 1 v3 [] ([] : List UInt8).length) :: As) _ := S3
     clear S2
     refine s_asv (v := v3) rfl <| wpl_nil <| nrm ?_
     have e0 := Option.some.inj q2
     subst e0
     exact ⟨outP, m1, _, _, L2, S3, h2, ⟨rfl, trivial⟩⟩
   replace q2 := ifF hc2 q2
   refine wpc_skip <| nrm ?_
   have S4 := St.rowNil S1 1
   have h3 : RepL m1 [] ([] : List UInt8) := RepL.nil
   replace S4 : St _ ((row 1 (.slice none 0 0) [] ([] : List UInt8).length) :: As) _ := S4
   clear S1
   have e0 := Option.some.inj q2
   subst e0
   exact ⟨outP, m1, _, _, L2, S4, h3, ⟨rfl, trivial⟩⟩
 rintro f2 w3 ho ⟨m2, v1, c1, l2, S5, h1, ha⟩
 obtain ⟨u2, rfl⟩ := fr_of (N := 27) ho ha
 clear S1
 refine ws <| s_mvv (v := v1) rfl <| s_asv (v := v1) rfl <| wpl_nil <| nrm <| wpc_ret <| outRw fun we hpd => ?_
 replace S5 := St.pd S5 hpd
 have e0 := Option.some.inj hm
 subst e0
 replace L0 := Mem.tr L0 (mt l1 l2)
 exact outR [_] rfl ⟨rfl, trivial⟩ ⟨_, L0, _, _, S5, rfl, h1⟩
def m_slices_Concat_byte_byte_b1  (i1 : Int) (x3 : List UInt8) (s1 : Int) : Option (Int) :=
  obind (
    bnd ((w64 (s1 + (x3.length : Int)))) fun x5 =>
    if (decide (x5 < 0)) = true then
      none
    else
    some x5
  ) fun x4 =>
  some x4
def m_slices_Concat_byte_byte_b2  (i2 : Int) (x9 : List UInt8) (s2 : (List UInt8)) : Option ((List UInt8)) :=
  obind (app 1 s2 x9) fun x10 =>
  some x10
def m_slices_Concat_byte_byte (a0 : List (List UInt8)) : Option (List UInt8) :=
  obind (
    obind (each0 m_slices_Concat_byte_byte_b1 a0 0 0) fun x2 =>
    some x2
  ) fun x1 =>
  obind (m_slices_Grow_byte_byte_nil x1) fun x6 =>
  obind (
    obind (each0 m_slices_Concat_byte_byte_b2 a0 0 x6) fun x8 =>
    some x8
  ) fun x7 =>
  some x7
theorem w_slices_Concat_byte_byte {m : Mem} {As : List Ow} {w : World} {a0 : List (List UInt8)} {a0v0 : Value} {r : List UInt8} (S : St m (As) w) (a0h0 : SlR m a0v0 a0) (hm : m_slices_Concat_byte_byte a0 = some r) :
    CallsR Tryz.prog 26 #[a0v0] w fun v w' => ∃ (M : Mem), m ≤ M ∧ ∃ (rv0 : Value) (rc0 : List Value), St M ((row 1 rv0 rc0 r.length) :: As) w' ∧ v = rv0 ∧ RepL M rc0 r := by
 unfold m_slices_Concat_byte_byte at hm
 have L0 := Mem.rfl' m
 refine callsR (args := [a0v0]) func26 rfl ntmps26 (nb rfl) <| ws <| s_asv (v := .slice none 0 0) rfl <| nx <| s_asv (v := vI 0) rfl <| wpl_nil <| nrm ?_
 obtain ⟨x1, q1, hm⟩ := obind_some hm
 have L1 := Mem.rfl' m
 refine wpc_seq <| wpc_join [3, 5, 9, 10, 11, 12, 13, 14, 15, 16, 17, 18, 19, 20, 21, 22] (fun f' w' => ∃ (M1 : Mem), m ≤ M1 ∧ St M1 (As) w' ∧ AllAt f' [(3, vI x1)]) ?_ ?_
 · refine ws <| s_mvv (v := a0v0) rfl <| s_lenR (xs := a0) rfl a0h0 underlying95 <| s_mvv (v := vI 0) rfl <| wpl_nil <| nrm ?_
   obtain ⟨x2, q2, q1⟩ := obind_some q1
   have L2 := Mem.rfl' m
   refine wpc_join [3, 5, 11, 12, 13, 14, 15, 16, 17, 18, 19, 20, 21, 22] (fun f' w' => ∃ (M2 : Mem), m ≤ M2 ∧ St M2 (As) w' ∧ AllAt f' [(3, vI x2)]) ?_ ?_
   · refine wpc_block <| wpc_rounds [3, 5, 11, 12, 13, 14, 15, 16, 17, 18, 19, 20, 21, 22] (fun n1 f' w' => ∃ (i1 : Nat) (s1 : Int) (m3 : Mem), n1 = a0.length - i1 ∧ i1 ≤ a0.length ∧ each0 m_slices_Concat_byte_byte_b1 (a0.drop i1) (i1 : Int) s1 = some x2 ∧ m ≤ m3 ∧ St m3 (As) w' ∧ AllAt f' [(11, vI (i1 : Int)), (3, vI s1)]) a0.length ⟨0, 0, m, rfl, Nat.zero_le _, q2, L2, S, ⟨rfl, rfl, trivial⟩⟩ ?_
     rintro n1 f1 w1 ho ⟨i1, s1, m1, hn, hi, q3, L4, S1, ha⟩
     obtain ⟨u1, rfl⟩ := fr_of (N := 36) ho ha
     clear ho ha
     have L3 := Mem.rfl' m1
     clear S
     refine ws <| s_lss (m := (i1 : Int)) (n := (a0.length : Int)) rfl rfl <| wpl_nil <| nrm <| wpc_seq <| wpc_if (t := decide ((i1 : Int) < (a0.length : Int))) rfl (fun hc2 => ?_) (fun hc2 => ?_)
     · have hlt1 : i1 < a0.length := by have := of_decide_eq_true hc2; omega
       obtain ⟨x3, y1, q6, q5, q4⟩ := each0_in q3 hlt1
       unfold m_slices_Concat_byte_byte_b1 at q5
       refine wpc_skip <| nrm ?_
       obtain ⟨x4, q7, q5⟩ := obind_some q5
       have L5 := Mem.rfl' m1
       refine wpc_seq <| wpc_join [3, 5, 13, 14, 15, 16, 17, 18, 19, 20, 21] (fun f' w' => ∃ (M3 : Mem), m1 ≤ M3 ∧ St M3 (As) w' ∧ AllAt f' [(3, vI x4)]) ?_ ?_
       · refine wpc_block <| ws <| s_idx (q := x3) rfl rfl (a0h0.up L4) q6 underlying95 sizeOf51 fun p1 c1 h1 r1 => ?_
         obtain ⟨v1, rfl, h2⟩ := r1
         refine s_ldM (cs := [v1]) S1 rfl h1 rfl isAgg51 sizeOf51 (fun _ => rfl) <| s_asv (v := v1) rfl <| nx <| s_mvv (v := vI s1) rfl <| s_mvv (v := v1) rfl <| s_lenR (xs := x3) rfl h2 underlying51 <| s_addI (m := s1) (n := (x3.length : Int)) rfl rfl ?_
         obtain ⟨x5, q8, q7⟩ := bnd_eq q7
         refine s_asv (v := vI x5) (congrArg (fun z => vI z) q8.symm) <| nx <| s_mvv (v := vI x5) rfl <| s_lss (m := x5) (n := 0) rfl rfl <| wpl_nil <| nrm <| wpc_if (t := (decide (x5 < 0))) rfl (fun hc1 => ?_) (fun hc1 => ?_)
         · replace q7 := ifT hc1 q7
           cases q7
         replace q7 := ifF hc1 q7
         refine wpc_skip <| nrmB <| nrm ?_
         have e0 := Option.some.inj q7
         subst e0
         exact ⟨outP, m1, L5, S1, ⟨rfl, trivial⟩⟩
       rintro f2 w2 ho ⟨m2, l1, S2, ha⟩
       obtain ⟨u2, rfl⟩ := fr_of (N := 36) ho ha
       clear S1
       refine wpc_region <| s_addI (m := (i1 : Int)) (n := 1) rfl rfl <| s_mvv (v := vI (w64 ((i1 : Int) + 1))) rfl <| wpl_nil <| nrm ?_
       have e0 := Option.some.inj q5
       subst e0
       replace a0h0 := a0h0.up (mt L4 l1)
       replace L3 := Mem.tr L3 l1
       exact ⟨outP, _, (by omega), ⟨i1 + 1, x4, m2, rfl, hlt1, q4, Mem.tr L4 L3, S2, ⟨congrArg (Value.int .i64) (w64_succ hlt1 (SlR.le a0h0)), rfl, trivial⟩⟩⟩
     have hlt1 : ¬ i1 < a0.length := by have := of_decide_eq_false hc2; omega
     have e := Eq.symm (each0_out q3 hlt1)
     subst e
     exact wpc_exit <| thE <| thE <| exB <| nrm <| ⟨outP, m1, Mem.tr L4 L3, S1, ⟨rfl, trivial⟩⟩
   rintro f3 w3 ho ⟨m4, l2, S3, ha⟩
   obtain ⟨u3, rfl⟩ := fr_of (N := 36) ho ha
   clear ho ha S
   have e0 := Option.some.inj q1
   subst e0
   replace L1 := Mem.tr L1 l2
   exact ⟨outP, m4, L1, S3, ⟨rfl, trivial⟩⟩
 rintro f4 w4 ho ⟨m5, l3, S4, ha⟩
 obtain ⟨u4, rfl⟩ := fr_of (N := 36) ho ha
 clear S
 refine ws <| s_mvv (v := vI x1) rfl ?_
 obtain ⟨x6, q9, hm⟩ := obind_some hm
 refine s_call call59 (w_slices_Grow_byte_byte_nil (a1 := x1) S4  q9) rfl ?_
 rintro v2 w5 ⟨m6, l4, _, c2, S5, rfl, h3⟩
 clear S4
 refine s_asv (v := v2) rfl <| wpl_nil <| nrm ?_
 obtain ⟨x7, q10, hm⟩ := obind_some hm
 have L6 := Mem.rfl' m6
 refine wpc_seq <| wpc_join [6, 8, 25, 26, 27, 28, 29, 30, 31, 32, 33, 34] (fun f' w' => ∃ (M4 : Mem) (v3 : Value) (c3 : List Value), m6 ≤ M4 ∧ St M4 ((row 1 v3 c3 x7.length) :: As) w' ∧ RepL M4 c3 x7 ∧ AllAt f' [(6, v3)]) ?_ ?_
 · refine ws <| s_mvv (v := a0v0) rfl ?_
   replace a0h0 := a0h0.up (mt l3 l4)
   refine s_lenR (xs := a0) rfl a0h0 underlying95 <| s_mvv (v := vI 0) rfl <| wpl_nil <| nrm ?_
   obtain ⟨x8, q11, q10⟩ := obind_some q10
   have L7 := Mem.rfl' m6
   refine wpc_join [6, 8, 27, 28, 29, 30, 31, 32, 33, 34] (fun f' w' => ∃ (M5 : Mem) (v5 : Value) (c5 : List Value), m6 ≤ M5 ∧ St M5 ((row 1 v5 c5 x8.length) :: As) w' ∧ RepL M5 c5 x8 ∧ AllAt f' [(6, v5)]) ?_ ?_
   · refine wpc_block <| wpc_rounds [6, 8, 27, 28, 29, 30, 31, 32, 33, 34] (fun n2 f' w' => ∃ (i2 : Nat) (s2 : (List UInt8)) (m8 : Mem) (v4 : Value) (c4 : List Value), n2 = a0.length - i2 ∧ i2 ≤ a0.length ∧ each0 m_slices_Concat_byte_byte_b2 (a0.drop i2) (i2 : Int) s2 = some x8 ∧ m6 ≤ m8 ∧ St m8 ((row 1 v4 c4 s2.length) :: As) w' ∧ RepL m8 c4 s2 ∧ AllAt f' [(27, vI (i2 : Int)), (6, v4)]) a0.length ⟨0, x6, m6, _, _, rfl, Nat.zero_le _, q11, L7, S5, h3, ⟨rfl, rfl, trivial⟩⟩ ?_
     rintro n2 f5 w6 ho ⟨i2, s2, m7, v4, c4, hn, hi, q12, L9, S6, h5, ha⟩
     obtain ⟨u5, rfl⟩ := fr_of (N := 36) ho ha
     clear ho ha
     have L8 := Mem.rfl' m7
     clear S5
     refine ws <| s_lss (m := (i2 : Int)) (n := (a0.length : Int)) rfl rfl <| wpl_nil <| nrm <| wpc_seq <| wpc_if (t := decide ((i2 : Int) < (a0.length : Int))) rfl (fun hc3 => ?_) (fun hc3 => ?_)
     · have hlt2 : i2 < a0.length := by have := of_decide_eq_true hc3; omega
       obtain ⟨x9, y2, q15, q14, q13⟩ := each0_in q12 hlt2
       unfold m_slices_Concat_byte_byte_b2 at q14
       refine wpc_skip <| nrm <| wpc_seq <| wpc_block <| ws <| s_idx (q := x9) rfl rfl (a0h0.up L9) q15 underlying95 sizeOf51 fun p2 c6 h7 r6 => ?_
       obtain ⟨v6, rfl, h8⟩ := r6
       refine s_ldM (cs := [v6]) S6 rfl h7 rfl isAgg51 sizeOf51 (fun _ => rfl) <| s_asv (v := v6) rfl <| wpl_nil <| nrm <| wpc_region <| s_mvv (v := v4) rfl <| s_mvv (v := v6) rfl ?_
       obtain ⟨x10, q16, q14⟩ := obind_some q14
       refine s_app (i := 0) (zs := x10) (bytes := 1) (ti := Tryz.t5) S6 rfl rfl h5 rfl rfl h8 q16 underlying51 type5 rfl rfl rfl rfl fun v7 c7 w7 S7 h9 => ?_
       replace S7 : St _ ((row 1 v7 c7 x10.length) :: As) _ := S7
       clear S6
       refine s_asv (v := v7) rfl <| wpl_nil <| nrmB <| nrm <| wpc_region <| s_addI (m := (i2 : Int)) (n := 1) rfl rfl <| s_mvv (v := vI (w64 ((i2 : Int) + 1))) rfl <| wpl_nil <| nrm ?_
       have e0 := Option.some.inj q14
       subst e0
       exact ⟨outP, _, (by omega), ⟨i2 + 1, x10, m7, _, _, rfl, hlt2, q13, Mem.tr L9 L8, S7, h9, ⟨congrArg (Value.int .i64) (w64_succ hlt2 (SlR.le (a0h0.up L9))), rfl, trivial⟩⟩⟩
     have hlt2 : ¬ i2 < a0.length := by have := of_decide_eq_false hc3; omega
     have e := Eq.symm (each0_out q12 hlt2)
     subst e
     exact wpc_exit <| thE <| thE <| exB <| nrm <| ⟨outP, m7, _, _, Mem.tr L9 L8, S6, h5, ⟨rfl, trivial⟩⟩
   rintro f6 w8 ho ⟨m9, v5, c5, l5, S8, h6, ha⟩
   obtain ⟨u6, rfl⟩ := fr_of (N := 36) ho ha
   clear ho ha S5
   have e0 := Option.some.inj q10
   subst e0
   replace L6 := Mem.tr L6 l5
   exact ⟨outP, m9, _, _, L6, S8, h6, ⟨rfl, trivial⟩⟩
 rintro f7 w9 ho ⟨m10, v3, c3, l6, S9, h4, ha⟩
 obtain ⟨u7, rfl⟩ := fr_of (N := 36) ho ha
 clear S5
 refine ws <| s_mvv (v := v3) rfl <| s_asv (v := v3) rfl <| wpl_nil <| nrm <| wpc_ret <| outRw fun we hpd => ?_
 replace S9 := St.pd S9 hpd
 have e0 := Option.some.inj hm
 subst e0
 replace L0 := Mem.tr L0 (mt l3 (mt l4 l6))
 exact outR [_] rfl ⟨rfl, trivial⟩ ⟨_, L0, _, _, S9, rfl, h4⟩
theorem s_slices_Concat_byte_byte {a0 : List (List UInt8)} {r : List UInt8} (hm : m_slices_Concat_byte_byte a0 = some r) : Sp prog 26 [sl (eL eB) a0] [] 0 (is (.ow 0) [.row 0 1 _ eB r] 1) :=
  ⟨call26, fun η m As w vs hv0 hd S => by
    have S : St m As w := S
    obtain ⟨v0, u0, rfl, r0, hv1⟩ := RelL.cons_inv hv0
    have f0 := Br.ofS (Br.sl Br.b) r0.dd
    obtain rfl := RelL.nil_inv hv1
    refine CallsR.mono (w_slices_Concat_byte_byte S f0 hm) ?_
    rintro v w' ⟨M, hle, y0, c0, S0, rfl, h0⟩
    exact ⟨M, (envL [v]), _, _, _, hle, dom0 hd _, ⟨rfl, rfl, rfl⟩, envL_dom rfl, (.ow rfl (row_one S0)), (St.impL S0 (sepC (Br.toR Br.b rfl rfl (row_one S0) h0) fun _ h => h))⟩⟩
def m_logd_Leaves_b2 (a0 : g_api_Log) (a1 : Int) (i1 : Int) (s1 : (List Int) × (List (UInt64 × UInt64))) : Option ((List Int) × (List (UInt64 × UInt64))) :=
  obind (idx a0.L (i1 : Int)) fun x5 =>
  obind (
    obind (gu (decide ((s1.1.length : Int) > 0)) (idx s1.1 0)) fun x7 =>
    if ((decide ((s1.1.length : Int) > 0)) && (x7 == (i1 : Int))) = true then
      obind (cut s1.1 1 (s1.1.length : Int)) fun x8 =>
      if (a1 == 1) = true then
        obind (m_slices_Concat_byte_byte ([([0] : List UInt8), x5.Body] : List (List UInt8))) fun x9 =>
        some (x8, x9)
      else
      some (x8, x5.Body)
    else
    some (s1.1, x5.Body)
  ) fun x6 =>
  obind (m_merkle_Leaf x6.2) fun x10 =>
  obind (app 16 s1.2 ([x10] : List (UInt64 × UInt64))) fun x11 =>
  some (x6.1, x11)
def m_logd_Leaves (a0 : g_api_Log) (a1 : Int) : Option ((List (UInt64 × UInt64)) × Int) :=
  obind (m_logd_Check a0) fun x1 =>
  if (x1 != 0) = true then
    some (([] : List (UInt64 × UInt64)), x1)
  else
  if ((a1 != 0) && (a1 != 1)) = true then
    some (([] : List (UInt64 × UInt64)), 240)
  else
  obind (
    obind (eachN0 (m_logd_Leaves_b2 a0 a1) a0.L.length 0 (a0.Hide, ([] : List (UInt64 × UInt64)))) fun x3 =>
    some x3.2
  ) fun x2 =>
  some (x2, 0)
theorem w_logd_Leaves {a0 : g_api_Log} {a1 : Int} {r : (List (UInt64 × UInt64)) × Int} (hm : m_logd_Leaves a0 a1 = some r) : Sp prog 6 [ag (e_api_Log a0), .d (.i a1)] [] 0 (is (.tup [.ow 0, .d (.i r.2)]) [.row 0 2 _ e_a2_eU r.1] 1) :=
  sp call6 func6 rfl ntmps6 rfl fun D0 As η0 m0 hd => by
    unfold m_logd_Leaves at hm
    obtain ⟨x1, q1, hm⟩ := obind_some hm
    refine gc (fun _ => s_logd_Check q1) (by kernel_rfl) ?_
    refine gi hm (by kernel_rfl) (fun hc1 hm => ?_) fun hc1 hm => ?_
    · skip
      refine gnil e_a2_eU 4 2 (by kernel_rfl) ?_
      have e0 := Option.some.inj hm
      subst e0
      exact gend hd (by kernel_rfl)
    refine gi hm (by kernel_rfl) (fun hc2 hm => ?_) fun hc2 hm => ?_
    · skip
      refine gnil e_a2_eU 4 2 (by kernel_rfl) ?_
      have e0 := Option.some.inj hm
      subst e0
      exact gend hd (by kernel_rfl)
    obtain ⟨x2, q2, hm⟩ := obind_some hm
    obtain ⟨x3, q3, q2⟩ := obind_some q2
    refine gnilU 0 e_a2_eU 8 2 (by kernel_rfl) ?_
    refine glen 0 (E := e_api_Leaf) (xs := a0.L) 26 (by kernel_rfl) fun hle1 => ?_
    refine gjU 0 (fun (_ : Unit) => ⟨[(8, .ow 1)], [(0, .row 1 2 _ e_a2_eU x2), (1, .box 0 [.d (.i a0.Id), .d (.u a0.Key), .d (.i a0.Delay), sl e_api_Leaf a0.L, sl eI a0.Hide, sl e_api_Leaf a0.Wait] 26)], [], 2⟩) (fun _ => True) (by kernel_rfl) (fun Jp bk1 => ?_) fun _ _ => ?_
    · refine gjU 0 (fun (_ : Unit) => let (y_0, y_1) := x3; ⟨[(7, sl eI y_0), (8, .ow 1)], [(0, .row 1 2 _ e_a2_eU y_1), (1, .box 0 [.d (.i a0.Id), .d (.u a0.Key), .d (.i a0.Delay), sl e_api_Leaf a0.L, sl eI a0.Hide, sl e_api_Leaf a0.Wait] 26)], [], 2⟩) (fun _ => True) (by kernel_rfl) (fun Jp bk2 => ?_) fun _ _ => ?_
      · refine gl hd (fun (p : Int × ((List Int) × (List (UInt64 × UInt64)))) => let (p0, p_0, p_1) := p; ⟨[(1, .d (.i a1)), (7, sl eI p_0), (8, .ow 1), (26, sl e_api_Leaf a0.L), (27, .d (.i (a0.L.length : Int))), (28, .d (.i p0))], [(0, .row 1 2 _ e_a2_eU p_1), (1, .box 0 [.d (.i a0.Id), .d (.u a0.Key), .d (.i a0.Delay), sl e_api_Leaf a0.L, sl eI a0.Hide, sl e_api_Leaf a0.Wait] 26)], [], 2⟩) (fun p => ∃ i : Nat, p.1 = (i : Int) ∧ i ≤ a0.L.length ∧ eachN0 (m_logd_Leaves_b2 a0 a1) (a0.L.length - i) (i : Int) p.2 = some x3) (fun p => a0.L.length - p.1.toNat) (0, (a0.Hide, ([] : List (UInt64 × UInt64)))) ⟨0, rfl, Nat.zero_le _, q3⟩ (by kernel_rfl) ?_
        rintro ⟨_, s1⟩ ⟨i1, rfl, hi, q4⟩ Jl bl1
        refine gi' (b := decide ((i1 : Int) < (a0.L.length : Int))) (by kernel_rfl) (fun hc5 => ?_) fun hc5 => ?_
        · have hlt1 : i1 < a0.L.length := by have := of_decide_eq_true hc5; omega
          obtain ⟨y1, q6, q5⟩ := eachN0_in q4 hlt1
          unfold m_logd_Leaves_b2 at q6
          obtain ⟨x5, q8, q6⟩ := obind_some q6
          refine gidx (k := 2) (E := e_api_Leaf) (fun _ => rfl) (fun _ => q8) (by kernel_rfl) ?_
          obtain ⟨x6, q9, q6⟩ := obind_some q6
          obtain ⟨x7, q10, q9⟩ := obind_some q9
          refine gidxG (k := 1) (E := eI) (fun _ => rfl) (fun h => gu_t h q10) (by kernel_rfl) ?_
          refine gj (fun (_ : Unit) => let (y_0, y_1) := x6; ⟨[(1, .d (.i a1)), (7, sl eI y_0), (8, .ow 1), (11, sl eB y_1), (26, sl e_api_Leaf a0.L), (27, .d (.i (a0.L.length : Int))), (28, .d (.i (i1 : Int)))], [(0, .box 2 [sl eB x5.Body, .d (.i x5.At)] 67), (1, .row 1 2 _ e_a2_eU s1.2), (2, .box 0 [.d (.i a0.Id), .d (.u a0.Key), .d (.i a0.Delay), sl e_api_Leaf a0.L, sl eI a0.Hide, sl e_api_Leaf a0.Wait] 26)], [], 3⟩) (fun _ => True) (by kernel_rfl) (fun Jp bk3 => ?_) fun _ _ => ?_
          · refine gi q9 (by kernel_rfl) (fun hc3 q9 => ?_) fun hc3 q9 => ?_
            · skip
              obtain ⟨x8, q11, q9⟩ := obind_some q9
              refine gcut (k := 1) (E := eI) (fun _ => rfl) (fun _ => q11) (by kernel_rfl) ?_
              refine gi q9 (by kernel_rfl) (fun hc4 q9 => ?_) fun hc4 q9 => ?_
              · refine glitF (k := 1) eB ([0] : List UInt8) (fun _ => rfl) (by kernel_rfl) ?_
                refine glitF (k := 1) (eL eB) ([([0] : List UInt8), x5.Body] : List (List UInt8)) (fun _ => rfl) (by kernel_rfl) ?_
                obtain ⟨x9, q12, q9⟩ := obind_some q9
                refine gco (s_slices_Concat_byte_byte q12) (by kernel_rfl) ?_
                have e0 := Option.some.inj q9
                subst e0
                exact gb bk3 hd () trivial (by kernel_rfl)
              have e0 := Option.some.inj q9
              subst e0
              exact gb bk3 hd () trivial (by kernel_rfl)
            have e0 := Option.some.inj q9
            subst e0
            exact gb bk3 hd () trivial (by kernel_rfl)
          obtain ⟨x10, q13, q6⟩ := obind_some q6
          refine gc (fun _ => w_merkle_Leaf q13) (by kernel_rfl) ?_
          refine glitF (k := 2) e_a2_eU ([x10] : List (UInt64 × UInt64)) (fun _ => rfl) (by kernel_rfl) ?_
          obtain ⟨x11, q14, q6⟩ := obind_some q6
          refine gapp (k := 2) (E := e_a2_eU) (fun _ => rfl) q14 (by kernel_rfl) ?_
          have e0 := Option.some.inj q6
          subst e0
          exact gb bl1 hd (w64 ((i1 : Int) + 1), (x6.1, x11)) ⟨⟨i1 + 1, w64_succ hlt1 hle1, by omega, q5⟩, mu_lt hlt1 hle1⟩ (by kernel_rfl)
        have hlt1 : ¬ i1 < a0.L.length := by have := of_decide_eq_false hc5; omega
        have e := Eq.symm (eachN0_out q4 hlt1)
        subst e
        exact gb bk2 hd () trivial (by kernel_rfl)
      have e0 := Option.some.inj q2
      subst e0
      exact gb bk1 hd () trivial (by kernel_rfl)
    have e0 := Option.some.inj hm
    subst e0
    exact gend hd (by kernel_rfl)
theorem v_logd_Leaves {m : Mem} {As : List Ow} {w : World} {a0 : g_api_Log} {a0v3 : Value} {a0v4 : Value} {a0v5 : Value} {a1 : Int} {r : (List (UInt64 × UInt64)) × Int} (S : St m As w) (a0h3 : SlR m a0v3 a0.L) (a0h4 : SlR m a0v4 a0.Hide) (a0h5 : SlR m a0v5 a0.Wait) (hm : m_logd_Leaves a0 a1 = some r) :
    CallsR prog 6 #[.agg #[vI a0.Id, vU a0.Key, vI a0.Delay, a0v3, a0v4, a0v5], vI a1] w fun v w' => ∃ (M : Mem), m ≤ M ∧ ∃ (rv0 : Value) (rc0 : List Value), St M ((row 2 rv0 rc0 r.1.length) :: As) w' ∧ v = .tuple #[rv0, vI r.2] ∧ RepL M rc0 r.1 := by
  refine CallsR.mono ((w_logd_Leaves hm).2 none0 m As w [.agg #[vI a0.Id, vU a0.Key, vI a0.Delay, a0v3, a0v4, a0v5], vI a1] (.cons (Br.toA b_api_Log (mk_g_api_Log a0h3 a0h4 a0h5)) (.cons (.d (.i _)) .nil)) (fun n h => absurd rfl h) S) ?_
  rintro v w' ⟨M, η', r', obs', n1, hle, _, ⟨rfl, rfl, rfl⟩, hdom, hR, S'⟩
  obtain ⟨us, rfl, hR0⟩ := hR.tup_inv
  obtain ⟨v0, u0, rfl, q0, hR1⟩ := RelL.cons_inv hR0
  obtain ⟨v1, u1, rfl, q1, hR2⟩ := RelL.cons_inv hR1
  obtain rfl := RelL.nil_inv hR2
  obtain ⟨n0, o0⟩ := q0.ow_inv
  obtain ⟨y0, c0, k0, _, d0, _, S'⟩ := St.openRow S'
  rw [n0] at k0; obtain rfl := Option.some.inj k0
  obtain rfl := q1.i_inv
  exact ⟨M, hle, v0, c0, S', rfl, Br.ofL b_a2_eU d0⟩
def m_logd_first (a0 : g_api_Log) (a1 : Int) (a2 : Int) : Option ((List (UInt64 × UInt64)) × Int) :=
  obind (m_logd_Leaves a0 a1) fun x1 =>
  if (x1.2 != 0) = true then
    some (([] : List (UInt64 × UInt64)), x1.2)
  else
  if ((decide (a2 < 0)) || (decide (a2 > (x1.1.length : Int)))) = true then
    some (([] : List (UInt64 × UInt64)), 80)
  else
  if (0 : Int) ≤ a2 ∧ a2 ≤ (x1.1.length : Int) then
    some ((x1.1.take a2.toNat), 0)
  else none
theorem w_logd_first {m : Mem} {As : List Ow} {w : World} {a0 : g_api_Log} {a0v3 : Value} {a0v4 : Value} {a0v5 : Value} {a1 : Int} {a2 : Int} {r : (List (UInt64 × UInt64)) × Int} (S : St m (As) w) (a0h3 : SlR m a0v3 a0.L) (a0h4 : SlR m a0v4 a0.Hide) (a0h5 : SlR m a0v5 a0.Wait) (hm : m_logd_first a0 a1 a2 = some r) :
    CallsR Tryz.prog 30 #[.agg (c_api_Log a0 a0v3 a0v4 a0v5).toArray, vI a1, vI a2] w fun v w' => ∃ (M : Mem), m ≤ M ∧ ∃ (rv0 : Value) (rc0 : List Value), St M ((row 2 rv0 rc0 r.1.length) :: As) w' ∧ v = .tuple #[rv0, vI r.2] ∧ RepL M rc0 r.1 := by
 unfold m_logd_first at hm
 have L0 := Mem.rfl' m
 refine callsR (args := [.agg (c_api_Log a0 a0v3 a0v4 a0v5).toArray, vI a1, vI a2]) func30 rfl ntmps30 (nb rfl) <| ws <| s_box S rfl fun b1 w1 S1 => ?_
 replace S1 : St _ ((bx b1 (c_api_Log a0 a0v3 a0v4 a0v5) 26) :: As) _ := S1
 clear S
 refine s_asv (v := .slice none 0 0) rfl <| s_asv (v := vI 0) rfl <| nx <| s_ld (i := 0) (cs := (c_api_Log a0 a0v3 a0v4 a0v5)) S1 rfl rfl isAgg26 sizeOf26 rfl (fun h => by cases h) <| s_mvv (v := vI a1) rfl ?_
 obtain ⟨x1, q1, hm⟩ := obind_some hm
 refine s_call call6 (v_logd_Leaves (a0 := a0) (a1 := a1) S1 a0h3 a0h4 a0h5 q1) rfl ?_
 rintro _ w2 ⟨m1, l1, v1, c1, S2, rfl, h1⟩
 clear S1
 refine s_mvv (v := .tuple #[v1, vI x1.2]) rfl <| s_ext (i := 0) rfl rfl <| s_ext (i := 1) rfl rfl <| s_asv (v := v1) rfl <| s_asv (v := vI x1.2) rfl <| wpl_nil <| nrm <| wpc_seq <| ws <| s_mvv (v := vI x1.2) rfl <| s_neq (m := x1.2) (n := 0) rfl rfl <| wpl_nil <| nrm <| wpc_if (t := (x1.2 != 0)) rfl (fun hc1 => ?_) (fun hc1 => ?_)
 · replace hm := ifT hc1 hm
   refine ws <| s_mvv (v := vI x1.2) rfl <| s_asv (v := .slice none 0 0) rfl <| s_asv (v := vI x1.2) rfl <| wpl_nil <| nrm <| wpc_ret <| thR <| outRw fun we hpd => ?_
   replace S2 := St.pd S2 hpd
   have S3 := St.rowNil S2 2
   have h2 : RepL m1 [] ([] : List (UInt64 × UInt64)) := RepL.nil
   replace S3 : St _ ((row 2 (.slice none 0 0) [] ([] : List (UInt64 × UInt64)).length) :: (row 2 v1 c1 x1.1.length) :: (bx b1 (c_api_Log a0 a0v3 a0v4 a0v5) 26) :: As) _ := S3
   clear S2
   obtain ⟨m2, l2, S4⟩ := St.drop S3 1
   clear S3
   replace S4 : St _ ((row 2 (.slice none 0 0) [] ([] : List (UInt64 × UInt64)).length) :: (bx b1 (c_api_Log a0 a0v3 a0v4 a0v5) 26) :: As) _ := S4
   obtain ⟨m3, l3, S5⟩ := St.drop S4 1
   clear S4
   replace S5 : St _ ((row 2 (.slice none 0 0) [] ([] : List (UInt64 × UInt64)).length) :: As) _ := S5
   have e0 := Option.some.inj hm
   subst e0
   replace L0 := Mem.tr L0 (mt l1 (mt l2 l3))
   replace h2 := RepL.up (mt l2 l3) h2
   exact outR [_, _] rfl ⟨rfl, rfl, trivial⟩ ⟨_, L0, _, _, S5, rfl, h2⟩
 replace hm := ifF hc1 hm
 refine wpc_skip <| nrm <| wpc_seq <| ws <| s_mvv (v := vI a2) rfl <| s_lss (m := a2) (n := 0) rfl rfl <| s_mvv (v := vb (decide (a2 < 0))) rfl <| wpl_cut 5 [22, 23, 24, 25, 26] (fun f' w' => w' = w2 ∧ AllAt f' [(26, vb ((decide (a2 < 0)) || (decide (a2 > (x1.1.length : Int)))))]) ?_ ?_
 · rcases bool_tf (decide (a2 < 0)) with hb1 | hb1
   · exact wpl_no (d := 21) rfl rfl (cb hb1) <| wpl_no (d := 21) rfl rfl (cb hb1) <| wpl_no (d := 21) rfl rfl (cb hb1) <| wpl_no (d := 21) rfl rfl (cb hb1) <| s_pickT (cb hb1) rfl <| wpl_nil (nrm ⟨outP, rfl, congrArg Value.bool (or_t hb1), trivial⟩)
   · exact wpl_yes (d := 21) rfl rfl (cb hb1) <| s_mvv (v := vI a2) rfl <| wpl_yes (d := 21) rfl rfl (cb hb1) <| s_mvv (v := v1) rfl <| wpl_yes (d := 21) rfl rfl (cb hb1) <| s_lenO (i := 0) S2 rfl rfl underlying29 <| wpl_yes (d := 21) rfl rfl (cb hb1) <| s_gtr (m := a2) (n := (x1.1.length : Int)) rfl rfl <| s_pickF (cb hb1) rfl <| wpl_nil (nrm ⟨outP, rfl, congrArg Value.bool (or_f hb1), trivial⟩)
 rintro f1 w3 ho ⟨h3, ha⟩
 subst h3
 obtain ⟨u1, rfl⟩ := fr_of (N := 30) ho ha
 refine wpl_nil <| nrm <| wpc_if (t := ((decide (a2 < 0)) || (decide (a2 > (x1.1.length : Int))))) rfl (fun hc2 => ?_) (fun hc2 => ?_)
 · replace hm := ifT hc2 hm
   refine ws <| s_asv (v := .slice none 0 0) rfl <| s_asv (v := vI 80) rfl <| wpl_nil <| nrm <| wpc_ret <| thR <| outRw fun we hpd => ?_
   replace S2 := St.pd S2 hpd
   have S6 := St.rowNil S2 2
   have h4 : RepL m1 [] ([] : List (UInt64 × UInt64)) := RepL.nil
   replace S6 : St _ ((row 2 (.slice none 0 0) [] ([] : List (UInt64 × UInt64)).length) :: (row 2 v1 c1 x1.1.length) :: (bx b1 (c_api_Log a0 a0v3 a0v4 a0v5) 26) :: As) _ := S6
   clear S2
   obtain ⟨m4, l4, S7⟩ := St.drop S6 1
   clear S6
   replace S7 : St _ ((row 2 (.slice none 0 0) [] ([] : List (UInt64 × UInt64)).length) :: (bx b1 (c_api_Log a0 a0v3 a0v4 a0v5) 26) :: As) _ := S7
   obtain ⟨m5, l5, S8⟩ := St.drop S7 1
   clear S7
   replace S8 : St _ ((row 2 (.slice none 0 0) [] ([] : List (UInt64 × UInt64)).length) :: As) _ := S8
   have e0 := Option.some.inj hm
   subst e0
   replace L0 := Mem.tr L0 (mt l1 (mt l4 l5))
   replace h4 := RepL.up (mt l4 l5) h4
   exact outR [_, _] rfl ⟨rfl, rfl, trivial⟩ ⟨_, L0, _, _, S8, rfl, h4⟩
 replace hm := ifF hc2 hm
 refine wpc_skip <| nrm <| ws <| s_mvv (v := v1) rfl <| s_mvv (v := vI a2) rfl ?_
 obtain ⟨⟨q2, q3⟩, hm⟩ := if_some hm
 refine s_cutO (i := 0) S2 rfl rfl underlying29 sizeOf34 rfl rfl q2 q3 fun v2 S9 => ?_
 have h5 := RepL.take h1 a2.toNat
 replace S9 : St m1 ((row 2 v2 (c1.take (a2.toNat * 2)) (x1.1.take a2.toNat).length) :: (bx b1 (c_api_Log a0 a0v3 a0v4 a0v5) 26) :: As) w3 := by rw [show ((x1.1.take a2.toNat)).length = a2.toNat from by simp; omega]; exact S9
 clear S2
 refine s_asv (v := v2) rfl <| s_asv (v := vI 0) rfl <| wpl_nil <| nrm <| wpc_ret <| outRw fun we hpd => ?_
 replace S9 := St.pd S9 hpd
 obtain ⟨m6, l6, S10⟩ := St.drop S9 1
 clear S9
 replace S10 : St _ ((row 2 v2 (c1.take (a2.toNat * 2)) (x1.1.take a2.toNat).length) :: As) _ := S10
 have e0 := Option.some.inj hm
 subst e0
 replace L0 := Mem.tr L0 (mt l1 l6)
 replace h5 := RepL.up l6 h5
 exact outR [_, _] rfl ⟨rfl, rfl, trivial⟩ ⟨_, L0, _, _, S10, rfl, h5⟩
theorem s_logd_first {a0 : g_api_Log} {a1 : Int} {a2 : Int} {r : (List (UInt64 × UInt64)) × Int} (hm : m_logd_first a0 a1 a2 = some r) : Sp prog 30 [ag (e_api_Log a0), .d (.i a1), .d (.i a2)] [] 0 (is (.tup [.ow 0, .d (.i r.2)]) [.row 0 2 _ e_a2_eU r.1] 1) :=
  ⟨call30, fun η m As w vs hv0 hd S => by
    have S : St m As w := S
    obtain ⟨v0, u0, rfl, r0, hv1⟩ := RelL.cons_inv hv0
    obtain ⟨c0, rfl, g0⟩ := Br.ofA b_api_Log r0
    obtain ⟨z0_0, z0_1, z0_2, rfl, f0_0, f0_1, f0_2⟩ := rep_g_api_Log g0
    obtain ⟨v1, u1, rfl, r1, hv2⟩ := RelL.cons_inv hv1
    obtain rfl := r1.i_inv
    obtain ⟨v2, u2, rfl, r2, hv3⟩ := RelL.cons_inv hv2
    obtain rfl := r2.i_inv
    obtain rfl := RelL.nil_inv hv3
    refine CallsR.mono (w_logd_first S f0_0 f0_1 f0_2 hm) ?_
    rintro v w' ⟨M, hle, y0, c0, S0, rfl, h0⟩
    exact ⟨M, (envL [y0]), _, _, _, hle, dom0 hd _, ⟨rfl, rfl, rfl⟩, envL_dom rfl, (.tup' (.cons (.ow rfl (row_one S0)) (.cons (.d (.i _)) .nil))), (St.impL S0 (sepC (Br.toR b_a2_eU rfl rfl (row_one S0) h0) fun _ h => h))⟩⟩
def m_hash_Bytes_b2 (a0 : UInt64 × UInt64) (i1 : Int) (s1 : (List UInt8)) : Option ((List UInt8)) :=
  obind (idx [a0.1, a0.2] (i1 : Int)) fun x4 =>
  obind (m_hash_put s1 x4 8) fun x5 =>
  some x5
def m_hash_Bytes (a0 : UInt64 × UInt64) : Option (List UInt8) :=
  obind (
    obind (eachN0 (m_hash_Bytes_b2 a0) 2 0 ([] : List UInt8)) fun x2 =>
    some x2
  ) fun x1 =>
  some x1
theorem w_hash_Bytes {a0 : UInt64 × UInt64} {r : List UInt8} (hm : m_hash_Bytes a0 = some r) : Sp prog 76 [ag (e_a2_eU a0)] [] 0 (is (.ow 0) [.row 0 1 _ eB r] 1) :=
  sp call76 func76 rfl ntmps76 rfl fun D0 As η0 m0 hd => by
    unfold m_hash_Bytes at hm
    obtain ⟨x1, q1, hm⟩ := obind_some hm
    obtain ⟨x2, q2, q1⟩ := obind_some q1
    refine gnilU 0 eB 3 1 (by kernel_rfl) ?_
    refine gjU 0 (fun (_ : Unit) => ⟨[(3, .ow 1)], [(0, .row 1 1 _ eB x1), (1, .box 0 [.d (.u a0.1), .d (.u a0.2)] 34)], [], 2⟩) (fun _ => True) (by kernel_rfl) (fun Jp bk1 => ?_) fun _ _ => ?_
    · refine gjU 0 (fun (_ : Unit) => ⟨[(3, .ow 1)], [(0, .row 1 1 _ eB x2), (1, .box 0 [.d (.u a0.1), .d (.u a0.2)] 34)], [], 2⟩) (fun _ => True) (by kernel_rfl) (fun Jp bk2 => ?_) fun _ _ => ?_
      · refine gl hd (fun (p : Int × ((List UInt8))) => let (p0, p_0) := p; ⟨[(3, .ow 1), (6, .agg [.d (.u a0.1), .d (.u a0.2)]), (7, .d (.i p0))], [(0, .row 1 1 _ eB p_0), (1, .box 0 [.d (.u a0.1), .d (.u a0.2)] 34)], [], 2⟩) (fun p => ∃ i : Nat, p.1 = (i : Int) ∧ i ≤ 2 ∧ eachN0 (m_hash_Bytes_b2 a0) (2 - i) (i : Int) p.2 = some x2) (fun p => 2 - p.1.toNat) (0, ([] : List UInt8)) ⟨0, rfl, Nat.zero_le _, q2⟩ (by kernel_rfl) ?_
        rintro ⟨_, s1⟩ ⟨i1, rfl, hi, q3⟩ Jl bl1
        refine gi' (b := decide ((i1 : Int) < (2 : Int))) (by kernel_rfl) (fun hc1 => ?_) fun hc1 => ?_
        · have hlt1 : i1 < 2 := by have := of_decide_eq_true hc1; omega
          obtain ⟨y1, q5, q4⟩ := eachN0_in q3 hlt1
          unfold m_hash_Bytes_b2 at q5
          obtain ⟨x4, q7, q5⟩ := obind_some q5
          refine gidxV (k := 1) (ag := false) (E := eU) ([a0.1, a0.2] : List UInt64) (fun _ => rfl) (fun _ => q7) (by kernel_rfl) ?_
          obtain ⟨x5, q8, q5⟩ := obind_some q5
          refine gco (w_hash_put q8) (by kernel_rfl) ?_
          have e0 := Option.some.inj q5
          subst e0
          exact gb bl1 hd (w64 ((i1 : Int) + 1), x5) ⟨⟨i1 + 1, w64_succ hlt1 (by decide), by omega, q4⟩, mu_lt hlt1 (by decide)⟩ (by kernel_rfl)
        have hlt1 : ¬ i1 < 2 := by have := of_decide_eq_false hc1; omega
        have e := Eq.symm (eachN0_out q3 hlt1)
        subst e
        exact gb bk2 hd () trivial (by kernel_rfl)
      have e0 := Option.some.inj q1
      subst e0
      exact gb bk1 hd () trivial (by kernel_rfl)
    have e0 := Option.some.inj hm
    subst e0
    exact gend hd (by kernel_rfl)
def m_hash_Pair (a0 : UInt64 × UInt64) (a1 : UInt64 × UInt64) : Option (UInt64 × UInt64) :=
  obind (m_hash_Bytes a0) fun x1 =>
  obind (m_hash_Bytes a1) fun x2 =>
  obind (m_hash_Tagged (⟨#[110, 111, 100, 101]⟩ : ByteArray) ([x1, x2] : List (List UInt8))) fun x3 =>
  some x3
theorem w_hash_Pair {a0 : UInt64 × UInt64} {a1 : UInt64 × UInt64} {r : UInt64 × UInt64} (hm : m_hash_Pair a0 a1 = some r) : Sf prog 67 [ag (e_a2_eU a0), ag (e_a2_eU a1)] (ag (e_a2_eU r)) :=
  sp call67 func67 rfl ntmps67 rfl fun D0 As η0 m0 hd => by
    unfold m_hash_Pair at hm
    obtain ⟨x1, q1, hm⟩ := obind_some hm
    refine gco (w_hash_Bytes q1) (by kernel_rfl) ?_
    obtain ⟨x2, q2, hm⟩ := obind_some hm
    refine gco (w_hash_Bytes q2) (by kernel_rfl) ?_
    refine glitV (k := 1) (eL eB) ([x1, x2] : List (List UInt8)) (fun _ => rfl) (by kernel_rfl) ?_
    obtain ⟨x3, q3, hm⟩ := obind_some hm
    refine gc (fun _ => w_hash_Tagged q3) (by kernel_rfl) ?_
    have e0 := Option.some.inj hm
    subst e0
    exact gend hd (by kernel_rfl)
theorem v_hash_Pair {m : Mem} {As : List Ow} {w : World} {a0 : UInt64 × UInt64} {a1 : UInt64 × UInt64} {r : UInt64 × UInt64} (S : St m As w) (hm : m_hash_Pair a0 a1 = some r) :
    CallsR prog 67 #[.agg #[vU a0.1, vU a0.2], .agg #[vU a1.1, vU a1.2]] w fun v w' => ∃ (M : Mem), m ≤ M ∧ St M (As) w' ∧ v = .agg #[vU r.1, vU r.2] := by
  refine CallsR.mono ((w_hash_Pair hm).2 none0 m As w [.agg #[vU a0.1, vU a0.2], .agg #[vU a1.1, vU a1.2]] (.cons (Br.toA b_a2_eU (mk_arr2_UInt64)) (.cons (Br.toA b_a2_eU (mk_arr2_UInt64)) .nil)) (fun n h => absurd rfl h) S) ?_
  rintro v w' ⟨M, η', r', obs', n1, hle, _, ⟨rfl, rfl, rfl⟩, hdom, hR, S'⟩
  obtain ⟨c0, rfl, g0⟩ := Br.ofA b_a2_eU hR
  obtain rfl := rep_arr2_UInt64 g0
  exact ⟨M, hle, S', rfl⟩
def m_bits_Len64 (a0 : UInt64) : Option Int :=
  obind (
    if (decide ((a0.toNat : Int) ≥ 4294967296)) = true then
      some ((shrU a0 32), 32)
    else
    some (a0, 0)
  ) fun x1 =>
  obind (
    if (decide ((x1.1.toNat : Int) ≥ 65536)) = true then
      some ((shrU x1.1 16), (w64 (x1.2 + 16)))
    else
    some (x1.1, x1.2)
  ) fun x2 =>
  obind (
    if (decide ((x2.1.toNat : Int) ≥ 256)) = true then
      some ((shrU x2.1 8), (w64 (x2.2 + 8)))
    else
    some (x2.1, x2.2)
  ) fun x3 =>
  obind (idx str_0.data.toList ((toB (x3.1.toNat : Int)).toNat : Int)) fun x4 =>
  bnd ((w64 (x3.2 + (w64 (x4.toNat : Int))))) fun x5 =>
  some x5
theorem w_bits_Len64 {a0 : UInt64} {r : Int} (hm : m_bits_Len64 a0 = some r) : Sf prog 130 [.d (.u a0)] (.d (.i r)) :=
  sp call130 func130 rfl ntmps130 rfl fun D0 As η0 m0 hd => by
    unfold m_bits_Len64 at hm
    obtain ⟨x1, q1, hm⟩ := obind_some hm
    refine gj (fun (_ : Unit) => let (y_0, y_1) := x1; ⟨[(0, .d (.u y_0)), (2, .d (.i y_1))], [], [], 0⟩) (fun _ => True) (by kernel_rfl) (fun Jp bk1 => ?_) fun _ _ => ?_
    · refine gi q1 (by kernel_rfl) (fun hc1 q1 => ?_) fun hc1 q1 => ?_
      · skip
        have e0 := Option.some.inj q1
        subst e0
        exact gb bk1 hd () trivial (by kernel_rfl)
      have e0 := Option.some.inj q1
      subst e0
      exact gb bk1 hd () trivial (by kernel_rfl)
    obtain ⟨x2, q2, hm⟩ := obind_some hm
    refine gj (fun (_ : Unit) => let (y_0, y_1) := x2; ⟨[(0, .d (.u y_0)), (2, .d (.i y_1))], [], [], 0⟩) (fun _ => True) (by kernel_rfl) (fun Jp bk2 => ?_) fun _ _ => ?_
    · refine gi q2 (by kernel_rfl) (fun hc2 q2 => ?_) fun hc2 q2 => ?_
      · skip
        have e0 := Option.some.inj q2
        subst e0
        exact gb bk2 hd () trivial (by kernel_rfl)
      have e0 := Option.some.inj q2
      subst e0
      exact gb bk2 hd () trivial (by kernel_rfl)
    obtain ⟨x3, q3, hm⟩ := obind_some hm
    refine gj (fun (_ : Unit) => let (y_0, y_1) := x3; ⟨[(0, .d (.u y_0)), (2, .d (.i y_1))], [], [], 0⟩) (fun _ => True) (by kernel_rfl) (fun Jp bk3 => ?_) fun _ _ => ?_
    · refine gi q3 (by kernel_rfl) (fun hc3 q3 => ?_) fun hc3 q3 => ?_
      · skip
        have e0 := Option.some.inj q3
        subst e0
        exact gb bk3 hd () trivial (by kernel_rfl)
      have e0 := Option.some.inj q3
      subst e0
      exact gb bk3 hd () trivial (by kernel_rfl)
    obtain ⟨x4, q4, hm⟩ := obind_some hm
    refine gidxS (fun _ => q4) (by kernel_rfl) ?_
    have hm := bnd_is hm
    let x5 : Int := ((w64 (x3.2 + (w64 (x4.toNat : Int)))))
    have e0 := Option.some.inj hm
    subst e0
    exact gend hd (by kernel_rfl)
theorem v_bits_Len64 {m : Mem} {As : List Ow} {w : World} {a0 : UInt64} {r : Int} (S : St m As w) (hm : m_bits_Len64 a0 = some r) :
    CallsR prog 130 #[vU a0] w fun v w' => ∃ (M : Mem), m ≤ M ∧ St M (As) w' ∧ v = vI r := by
  refine CallsR.mono ((w_bits_Len64 hm).2 none0 m As w [vU a0] (.cons (.d (.u _)) .nil) (fun n h => absurd rfl h) S) ?_
  rintro v w' ⟨M, η', r', obs', n1, hle, _, ⟨rfl, rfl, rfl⟩, hdom, hR, S'⟩
  obtain rfl := hR.i_inv
  exact ⟨M, hle, S', rfl⟩
def m_bits_Len (a0 : UInt64) : Option Int :=
  obind (m_bits_Len64 a0) fun x1 =>
  some x1
theorem w_bits_Len {a0 : UInt64} {r : Int} (hm : m_bits_Len a0 = some r) : Sf prog 105 [.d (.u a0)] (.d (.i r)) :=
  sp call105 func105 rfl ntmps105 rfl fun D0 As η0 m0 hd => by
    unfold m_bits_Len at hm
    refine gi' (b := false) (by kernel_rfl) (fun h => by cases h) (fun _ => ?_)
    obtain ⟨x1, q1, hm⟩ := obind_some hm
    refine gc (fun _ => w_bits_Len64 q1) (by kernel_rfl) ?_
    have e0 := Option.some.inj hm
    subst e0
    exact gend hd (by kernel_rfl)
theorem v_bits_Len {m : Mem} {As : List Ow} {w : World} {a0 : UInt64} {r : Int} (S : St m As w) (hm : m_bits_Len a0 = some r) :
    CallsR prog 105 #[vU a0] w fun v w' => ∃ (M : Mem), m ≤ M ∧ St M (As) w' ∧ v = vI r := by
  refine CallsR.mono ((w_bits_Len hm).2 none0 m As w [vU a0] (.cons (.d (.u _)) .nil) (fun n h => absurd rfl h) S) ?_
  rintro v w' ⟨M, η', r', obs', n1, hle, _, ⟨rfl, rfl, rfl⟩, hdom, hR, S'⟩
  obtain rfl := hR.i_inv
  exact ⟨M, hle, S', rfl⟩
def m_slices_Clone_api_Sum_api_Sum (a0 : List (UInt64 × UInt64)) : Option (List (UInt64 × UInt64)) :=
  obind (app 16 ([] : List (UInt64 × UInt64)) a0) fun x1 =>
  some x1
theorem w_slices_Clone_api_Sum_api_Sum {m : Mem} {As : List Ow} {w : World} {a0 : List (UInt64 × UInt64)} {a0v0 : Value} {r : List (UInt64 × UInt64)} (S : St m (As) w) (a0h0 : SlR m a0v0 a0) (hm : m_slices_Clone_api_Sum_api_Sum a0 = some r) :
    CallsR Tryz.prog 106 #[a0v0] w fun v w' => ∃ (M : Mem), m ≤ M ∧ ∃ (rv0 : Value) (rc0 : List Value), St M ((row 2 rv0 rc0 r.length) :: As) w' ∧ v = rv0 ∧ RepL M rc0 r := by
 unfold m_slices_Clone_api_Sum_api_Sum at hm
 have L0 := Mem.rfl' m
 refine callsR (args := [a0v0]) func106 rfl ntmps106 (nb rfl) <| ws <| s_asv (v := .slice none 0 0) rfl <| wpl_nil <| nrm <| wpc_seq <| ws <| s_mvv (v := a0v0) rfl <| s_eqlNil rfl rfl a0h0 underlying29 <| wpl_nil <| nrm <| wpc_if (t := (isNilV a0v0)) rfl (fun hc1 => ?_) (fun hc1 => ?_)
 · have he1 : a0 = [] := SlR.nilOf a0h0 hc1
   rw [he1] at hm
   replace hm : (some ([] : List (UInt64 × UInt64))) = some _ := hm
   refine ws <| s_asv (v := .slice none 0 0) rfl <| wpl_nil <| nrm <| wpc_ret <| thR <| outRw fun we hpd => ?_
   replace S := St.pd S hpd
   have S1 := St.rowNil S 2
   have h1 : RepL m [] ([] : List (UInt64 × UInt64)) := RepL.nil
   replace S1 : St _ ((row 2 (.slice none 0 0) [] ([] : List (UInt64 × UInt64)).length) :: As) _ := S1
   clear S
   have e0 := Option.some.inj hm
   subst e0
   exact outR [_] rfl ⟨rfl, trivial⟩ ⟨_, L0, _, _, S1, rfl, h1⟩
 refine wpc_skip <| nrm <| ws <| s_litOC (parts := []) (vs := []) (cls := []) (n := 0) (sz := 2) S underlying29 sizeOf34 zeroValue34 rfl trivial rfl rfl (by decide) (by decide) fun v1 w1 S2 => ?_
 have h2 : RepL m [] ([] : List (UInt64 × UInt64)) := RepL.nil
 replace S2 : St _ ((row 2 v1 [] ([] : List (UInt64 × UInt64)).length) :: As) _ := S2
 clear S
 refine s_mvv (v := a0v0) rfl ?_
 obtain ⟨x1, q1, hm⟩ := obind_some hm
 refine s_app (i := 0) (zs := x1) (bytes := 16) (ti := Tryz.t34) S2 rfl rfl h2 rfl rfl a0h0 q1 underlying29 type34 rfl rfl rfl rfl fun v2 c1 w2 S3 h3 => ?_
 replace S3 : St _ ((row 2 v2 c1 x1.length) :: As) _ := S3
 clear S2
 refine s_asv (v := v2) rfl <| wpl_nil <| nrm <| wpc_ret <| outRw fun we hpd => ?_
 replace S3 := St.pd S3 hpd
 have e0 := Option.some.inj hm
 subst e0
 exact outR [_] rfl ⟨rfl, trivial⟩ ⟨_, L0, _, _, S3, rfl, h3⟩
def m_merkle_parts_1_b3  (i3 : Int) (s3 : (List (UInt64 × UInt64))) : Option ((List (UInt64 × UInt64))) :=
  obind (idx s3 (w64 (2 * (i3 : Int)))) fun x14 =>
  obind (idx s3 (w64 ((w64 (2 * (i3 : Int))) + 1))) fun x15 =>
  obind (m_hash_Pair x14 x15) fun x16 =>
  obind (idx s3 (i3 : Int)) fun x17 =>
  bnd (s3.set (i3 : Int).toNat x16) fun x18 =>
  some x18
def m_merkle_parts_1_b2  (s2 : (List (UInt64 × UInt64))) : Option (((List (UInt64 × UInt64))) ⊕ ((List (UInt64 × UInt64)))) :=
  if (decide ((s2.length : Int) > 1)) = true then
    obind (
      bnd (w64 (Int.tdiv (s2.length : Int) 2)) fun x11 =>
      obind (eachN0 m_merkle_parts_1_b3 (Int.toNat x11) 0 s2) fun x12 =>
      some x12
    ) fun x10 =>
    bnd (w64 (Int.tdiv (x10.length : Int) 2)) fun x19 =>
    if (0 : Int) ≤ x19 ∧ x19 ≤ (x10.length : Int) then
      some (.inl (x10.take x19.toNat))
    else none
  else
  some (.inr s2)
def m_merkle_parts_1_b1 {σ : Type} (p0 : σ → g_merkle_part → Option (Bool × σ)) (s1 : (List (UInt64 × UInt64)) × σ) : Option (((List (UInt64 × UInt64)) × σ) ⊕ (((List (UInt64 × UInt64)) × σ) ⊕ ((List (UInt64 × UInt64)) × σ))) :=
  if (decide ((s1.1.length : Int) > 0)) = true then
    obind (m_bits_Len (toU (s1.1.length : Int))) fun x3 =>
    if (0 : Int) ≤ (w64 (x3 - 1)) then
      bnd ((shl64 1 ((w64 (x3 - 1)).toNat))) fun x4 =>
      obind (cut s1.1 0 x4) fun x5 =>
      obind (m_slices_Clone_api_Sum_api_Sum x5) fun x6 =>
      obind (
        obind (iter m_merkle_parts_1_b2 FUEL x6) fun x8 =>
        some x8
      ) fun x7 =>
      obind (idx x7 0) fun x20 =>
      obind (p0 s1.2 (⟨x4, x20⟩ : g_merkle_part)) fun x21 =>
      if (!x21.1) = true then
        some (.inr (.inr (s1.1, x21.2)))
      else
      obind (cut s1.1 x4 (s1.1.length : Int)) fun x22 =>
      some (.inl (x22, x21.2))
    else none
  else
  some (.inr (.inl (s1.1, s1.2)))
def m_merkle_parts_1 {σ : Type} (p0 : σ → g_merkle_part → Option (Bool × σ)) (k0 : List (UInt64 × UInt64)) (s0 : σ) : Option ((List (UInt64 × UInt64)) × σ) :=
  obind (iter (m_merkle_parts_1_b1 p0) FUEL (k0, s0)) fun x1 => match x1 with
  | .inr r => some r
  | .inl y1 =>
  some (y1.1, y1.2)
theorem w_merkle_parts_1 {m : Mem} {As : List Ow} {w : World} {σ : Type} {R : σ → Mem → List Ow → Prop} {p0 : σ → g_merkle_part → Option (Bool × σ)} {f0 : Value} {kb0 : Nat} {k0 : List (UInt64 × UInt64)} {k0v0 : Value} {s0 : σ} {X0 : List Ow} {r : (List (UInt64 × UInt64)) × σ} (S : St m ((bx kb0 [k0v0] 29) :: (X0 ++ As)) w) (hup : ∀ {s M M' X}, M ≤ M' → R s M X → R s M' X) (hX0 : R s0 m X0) (cb0 : ∀ {m' : Mem} {As' : List Ow} {w' : World} {s : σ} {X : List Ow} {b0 : g_merkle_part} {r : Bool × σ}, St m' (X ++ As') w' → R s m' X → p0 s b0 = some r → CallV Tryz.prog f0 [.agg (c_merkle_part b0).toArray] w' fun v w'' => ∃ (M : Mem) (X' : List Ow), m' ≤ M ∧ St M (X' ++ As') w'' ∧ R r.2 M X' ∧ v = vb r.1) (fc0 : f0.cells = #[f0]) (k0h0 : SlR m k0v0 k0) (hm : m_merkle_parts_1 p0 k0 s0 = some r) :
    CallsR Tryz.prog 104 #[f0, pt kb0 0] w fun v w' => ∃ (M : Mem), m ≤ M ∧ ∃ (rb0_0 : Value) (X : List Ow), St M ((bx kb0 [rb0_0] 29) :: (X ++ As)) w' ∧ v = .tuple #[] ∧ SlR M rb0_0 r.1 ∧ R r.2 M X := by
 unfold m_merkle_parts_1 at hm
 have L0 := Mem.rfl' m
 refine callsR (args := [f0, pt kb0 0]) func104 rfl ntmps104 (nb rfl) ?_
 obtain ⟨x1, q1, hm⟩ := obind_some hm
 have L1 := Mem.rfl' m
 refine wpc_wrap <| wpc_join (rg 3 57) (fun f' w' => ∃ (M1 : Mem) (y1 : (List (UInt64 × UInt64)) × σ) (v2 : Value) (X2 : List Ow), x1 = .inl y1 ∧ m ≤ M1 ∧ St M1 ((bx kb0 [v2] 29) :: (X2 ++ As)) w' ∧ SlR M1 v2 y1.1 ∧ R y1.2 M1 X2 ∧ AllAt f' []) ?_ ?_
 · refine wpc_block <| wpc_rounds (rg 3 57) (fun n1 f' w' => ∃ (s1 : (List (UInt64 × UInt64)) × σ) (m31 : Mem) (v1 : Value) (X1 : List Ow), iter (m_merkle_parts_1_b1 p0) n1 s1 = some x1 ∧ m ≤ m31 ∧ St m31 ((bx kb0 [v1] 29) :: (X1 ++ As)) w' ∧ SlR m31 v1 s1.1 ∧ R s1.2 m31 X1 ∧ AllAt f' []) FUEL ⟨(k0, s0), m, _, _, q1, L1, S, k0h0, hX0, trivial⟩ ?_
   rintro n1 f1 w1 ho ⟨s1, m1, v1, X1, q2, L3, S1, h1, h2, ha⟩
   obtain ⟨u1, rfl⟩ := fr_of (N := 60) ho ha
   clear ho ha
   have L2 := Mem.rfl' m1
   clear S
   cases n1 with
   | zero => exact (iter_zero q2).elim
   | succ n1 =>
    obtain ⟨y2, q4, q3⟩ := iter_succ q2
    unfold m_merkle_parts_1_b1 at q4
    refine wpc_seq <| ws <| s_ld (i := 0) (cs := [v1]) S1 rfl rfl isAgg29 sizeOf29 rfl (fun _ => rfl) <| s_lenR (xs := s1.1) rfl h1 underlying29 <| s_gtr (m := (s1.1.length : Int)) (n := 0) rfl rfl <| wpl_nil <| nrm <| wpc_if (t := (decide ((s1.1.length : Int) > 0))) rfl (fun hc1 => ?_) (fun hc1 => ?_)
    · replace q4 := ifT hc1 q4
      refine wpc_skip <| nrm <| wpc_block <| ws <| s_ld (i := 0) (cs := [v1]) S1 rfl rfl isAgg29 sizeOf29 rfl (fun _ => rfl) <| s_lenR (xs := s1.1) rfl h1 underlying29 <| s_convU rfl underlying3 underlying123 ?_
      obtain ⟨x3, q6, q4⟩ := obind_some q4
      refine s_call call105 (v_bits_Len (a0 := (toU (s1.1.length : Int))) S1  q6) rfl ?_
      rintro _ w2 ⟨m2, l1, S2, rfl⟩
      replace h2 := hup l1 h2
      clear S1
      refine s_subI (m := x3) (n := 1) rfl rfl ?_
      obtain ⟨q7, q4⟩ := if_some q4
      refine s_shlI (m := 1) (n := (w64 (x3 - 1))) rfl rfl q7 ?_
      obtain ⟨x4, q8, q4⟩ := bnd_eq q4
      refine s_asv (v := vI x4) (congrArg (fun z => vI z) q8.symm) <| nx <| s_ld (i := 0) (cs := [v1]) S2 rfl rfl isAgg29 sizeOf29 rfl (fun _ => rfl) <| s_mvv (v := vI x4) rfl ?_
      obtain ⟨x5, q9, q4⟩ := obind_some q4
      refine s_cut (ys := x5) (l := 0) (h := x4) rfl (h1.up l1) underlying29 sizeOf34 (.inl ⟨rfl, rfl⟩) (.inr ⟨_, rfl⟩) (.inl rfl) q9 fun v3 h5 => ?_
      obtain ⟨x6, q10, q4⟩ := obind_some q4
      refine s_call call106 (w_slices_Clone_api_Sum_api_Sum (a0 := x5) S2 h5 q10) rfl ?_
      rintro v4 w3 ⟨m3, l2, _, c1, S3, rfl, h6⟩
      replace h2 := hup l2 h2
      clear S2
      refine s_asv (v := v4) rfl <| wpl_nil <| nrm ?_
      obtain ⟨x7, q11, q4⟩ := obind_some q4
      have L4 := Mem.rfl' m3
      refine wpc_seq <| wpc_join [4, 5, 19, 20, 21, 22, 23, 24, 25, 26, 27, 28, 29, 30, 31, 32, 33, 34, 35, 36, 37, 38, 39, 40, 41, 42, 43, 44, 45, 46, 47, 48] (fun f' w' => ∃ (M2 : Mem) (v5 : Value) (c2 : List Value), m3 ≤ M2 ∧ St M2 ((row 2 v5 c2 x7.length) :: (bx kb0 [v1] 29) :: (X1 ++ As)) w' ∧ RepL M2 c2 x7 ∧ AllAt f' [(4, v5)]) ?_ ?_
      · obtain ⟨x8, q12, q11⟩ := obind_some q11
        have L5 := Mem.rfl' m3
        refine wpc_join [4, 5, 19, 20, 21, 22, 23, 24, 25, 26, 27, 28, 29, 30, 31, 32, 33, 34, 35, 36, 37, 38, 39, 40, 41, 42, 43, 44, 45, 46, 47, 48] (fun f' w' => ∃ (M3 : Mem) (v7 : Value) (c4 : List Value), m3 ≤ M3 ∧ St M3 ((row 2 v7 c4 x8.length) :: (bx kb0 [v1] 29) :: (X1 ++ As)) w' ∧ RepL M3 c4 x8 ∧ AllAt f' [(4, v7)]) ?_ ?_
        · refine wpc_block <| wpc_rounds [4, 5, 19, 20, 21, 22, 23, 24, 25, 26, 27, 28, 29, 30, 31, 32, 33, 34, 35, 36, 37, 38, 39, 40, 41, 42, 43, 44, 45, 46, 47, 48] (fun n2 f' w' => ∃ (s2 : (List (UInt64 × UInt64))) (m25 : Mem) (v6 : Value) (c3 : List Value), iter m_merkle_parts_1_b2 n2 s2 = some x8 ∧ m3 ≤ m25 ∧ St m25 ((row 2 v6 c3 s2.length) :: (bx kb0 [v1] 29) :: (X1 ++ As)) w' ∧ RepL m25 c3 s2 ∧ AllAt f' [(4, v6)]) FUEL ⟨x6, m3, _, _, q12, L5, S3, h6, ⟨rfl, trivial⟩⟩ ?_
          rintro n2 f2 w4 ho ⟨s2, m4, v6, c3, q13, L7, S4, h8, ha⟩
          obtain ⟨u2, rfl⟩ := fr_of (N := 60) ho ha
          clear ho ha
          replace h2 := hup L7 h2
          have L6 := Mem.rfl' m4
          clear S3
          cases n2 with
          | zero => exact (iter_zero q13).elim
          | succ n2 =>
           obtain ⟨y3, q15, q14⟩ := iter_succ q13
           unfold m_merkle_parts_1_b2 at q15
           refine wpc_seq <| ws <| s_mvv (v := v6) rfl <| s_lenO (i := 0) S4 rfl rfl underlying29 <| s_gtr (m := (s2.length : Int)) (n := 1) rfl rfl <| wpl_nil <| nrm <| wpc_if (t := (decide ((s2.length : Int) > 1))) rfl (fun hc2 => ?_) (fun hc2 => ?_)
           · replace q15 := ifT hc2 q15
             refine wpc_skip <| nrm <| wpc_block ?_
             obtain ⟨x10, q17, q15⟩ := obind_some q15
             have L8 := Mem.rfl' m4
             refine wpc_seq <| wpc_join [5, 22, 23, 24, 25, 26, 27, 28, 29, 30, 31, 32, 33, 34, 35, 36, 37, 38, 39, 40, 41, 42, 43] (fun f' w' => ∃ (M4 : Mem) (c5 : List Value), m4 ≤ M4 ∧ St M4 ((row 2 v6 c5 x10.length) :: (bx kb0 [v1] 29) :: (X1 ++ As)) w' ∧ RepL M4 c5 x10 ∧ AllAt f' []) ?_ ?_
             · refine ws <| s_mvv (v := v6) rfl <| s_lenO (i := 0) S4 rfl rfl underlying29 <| s_quoI (m := (s2.length : Int)) (n := 2) rfl rfl (by decide) ?_
               obtain ⟨x11, q18, q17⟩ := bnd_eq q17
               refine s_re (congrArg (fun z => vI z) q18.symm) <| s_mvv (v := vI 0) rfl <| wpl_nil <| nrm ?_
               obtain ⟨x12, q19, q17⟩ := obind_some q17
               have L9 := Mem.rfl' m4
               refine wpc_join [5, 25, 26, 27, 28, 29, 30, 31, 32, 33, 34, 35, 36, 37, 38, 39, 40, 41, 42, 43] (fun f' w' => ∃ (M5 : Mem) (c7 : List Value), m4 ≤ M5 ∧ St M5 ((row 2 v6 c7 x12.length) :: (bx kb0 [v1] 29) :: (X1 ++ As)) w' ∧ RepL M5 c7 x12 ∧ AllAt f' []) ?_ ?_
               · refine wpc_block <| wpc_rounds [5, 25, 26, 27, 28, 29, 30, 31, 32, 33, 34, 35, 36, 37, 38, 39, 40, 41, 42, 43] (fun n3 f' w' => ∃ (i3 : Nat) (s3 : (List (UInt64 × UInt64))) (m22 : Mem) (c6 : List Value), n3 = (Int.toNat x11) - i3 ∧ i3 ≤ (Int.toNat x11) ∧ eachN0 m_merkle_parts_1_b3 ((Int.toNat x11) - i3) (i3 : Int) s3 = some x12 ∧ m4 ≤ m22 ∧ St m22 ((row 2 v6 c6 s3.length) :: (bx kb0 [v1] 29) :: (X1 ++ As)) w' ∧ RepL m22 c6 s3 ∧ AllAt f' [(25, vI (i3 : Int))]) (Int.toNat x11) ⟨0, s2, m4, _, rfl, Nat.zero_le _, q19, L9, S4, h8, ⟨rfl, trivial⟩⟩ ?_
                 rintro n3 f3 w5 ho ⟨i3, s3, m5, c6, hn, hi, q20, L11, S5, h11, ha⟩
                 obtain ⟨u3, rfl⟩ := fr_of (N := 60) ho ha
                 clear ho ha
                 replace h2 := hup L11 h2
                 have L10 := Mem.rfl' m5
                 clear S4
                 refine ws <| s_lss (m := (i3 : Int)) (n := x11) rfl rfl <| wpl_nil <| nrm <| wpc_seq <| wpc_if (t := decide ((i3 : Int) < x11)) rfl (fun hc3 => ?_) (fun hc3 => ?_)
                 · have hlt3 : i3 < (Int.toNat x11) := by have := of_decide_eq_true hc3; omega
                   obtain ⟨y4, q22, q21⟩ := eachN0_in q20 hlt3
                   unfold m_merkle_parts_1_b3 at q22
                   refine wpc_skip <| nrm <| wpc_seq <| wpc_block <| ws <| s_mvv (v := vI (i3 : Int)) rfl <| s_asv (v := vI (i3 : Int)) rfl <| wpl_nil <| nrm ?_
                   obtain ⟨x14, q24, q22⟩ := obind_some q22
                   obtain ⟨x15, q25, q22⟩ := obind_some q22
                   obtain ⟨x16, q26, q22⟩ := obind_some q22
                   have HM : MonoAll [(28, fv v6), (29, fv (vI (i3 : Int))), (30, fv v6), (31, fv (vI (i3 : Int))), (32, fv (vI (w64 (2 * (i3 : Int))))), (33, fun (M : Mem) (v : Value) => ∃ (p1 : Value), v = p1 ∧ PtO v6 p1 ((w64 (2 * (i3 : Int))).toNat * 2)), (34, fv (.agg #[vU x14.1, vU x14.2])), (35, fv v6), (36, fv (vI (i3 : Int))), (37, fv (vI (w64 (2 * (i3 : Int))))), (38, fv (vI (w64 ((w64 (2 * (i3 : Int))) + 1)))), (39, fun (M : Mem) (v : Value) => ∃ (p2 : Value), v = p2 ∧ PtO v6 p2 ((w64 ((w64 (2 * (i3 : Int))) + 1)).toNat * 2)), (40, fv (.agg #[vU x15.1, vU x15.2])), (41, fv (.agg #[vU x16.1, vU x16.2]))] := ⟨mv, mv, mv, mv, mv, (fun _ _ _ l ⟨p1, e, h13⟩ => ⟨p1, e, h13⟩), mv, mv, mv, mv, mv, (fun _ _ _ l ⟨p2, e, h15⟩ => ⟨p2, e, h15⟩), mv, mv, trivial⟩
                   refine wpc_flowG HM 14 mixed rfl rfl rfl (rg 28 14) (fun L f M w => St M ((row 2 v6 c6 s3.length) :: (bx kb0 [v1] 29) :: (X1 ++ As)) w) (St.drew S5 _) ?_ ?_
                   · refine ⟨?_, ?_, ?_, ?_, ?_, ?_, ?_, ?_, ?_, ?_, ?_, ?_, ?_, ?_, trivial⟩
                     · exact flp HM rfl [] (fun _ _ => trivial) (fun _ _ q => s_mvv (v := v6) rfl q) rfl
                     · exact flp HM rfl [] (fun _ _ => trivial) (fun _ _ q => s_mvv (v := vI (i3 : Int)) rfl q) rfl
                     · exact flp HM rfl [] (fun _ _ => trivial) (fun _ _ q => s_mvv (v := v6) rfl q) rfl
                     · exact flp HM rfl [] (fun _ _ => trivial) (fun _ _ q => s_mvv (v := vI (i3 : Int)) rfl q) rfl
                     · exact flp HM rfl [(31, _)] (fun K _ => ⟨K 3 rfl, trivial⟩) (fun _ _ q => s_mulI (m := 2) (n := (i3 : Int)) rfl rfl q) rfl
                     · intro L f9 w11 hL hd hc ⟨m11, L22, S11, K, hO⟩
                       obtain ⟨u9, rfl⟩ := fr_of (N := 60) (L := [(30, _), (32, _)]) hO ⟨K 2 (dep hd rfl), K 4 (dep hd rfl), trivial⟩
                       replace h2 := hup L22 h2
                       exact s_idxO (i := 0) (j := (w64 (2 * (i3 : Int)))) S11 rfl rfl rfl (idx_rng q24).1 (idx_rng q24).2 underlying29 sizeOf34 fun p1 h13 => oS HM L22 S11 rfl K rfl rfl ⟨p1, rfl, h13⟩ outP
                     · intro L f10 w12 hL hd hc ⟨m12, L24, S12, K, hO⟩
                       obtain ⟨v8, e4, h14⟩ := K 5 (dep hd rfl)
                       obtain ⟨u10, rfl⟩ := fr_of (N := 60) (L := [(33, _)]) hO ⟨e4, trivial⟩
                       replace h2 := hup L24 h2
                       replace h11 := RepL.up L24 h11
                       have e5 := rep_arr2_UInt64 (RepL.getI h11 q24)
                       exact s_ldO (i := 0) (off := (w64 (2 * (i3 : Int))).toNat * 2) (d := [vU x14.1, vU x14.2]) S12 rfl h14 rfl e5 isAgg34 sizeOf34 (fun h => by cases h) <| oS HM L24 S12 rfl K rfl rfl rfl outP
                     · exact flp HM rfl [] (fun _ _ => trivial) (fun _ _ q => s_mvv (v := v6) rfl q) rfl
                     · exact flp HM rfl [] (fun _ _ => trivial) (fun _ _ q => s_mvv (v := vI (i3 : Int)) rfl q) rfl
                     · exact flp HM rfl [(36, _)] (fun K _ => ⟨K 8 rfl, trivial⟩) (fun _ _ q => s_mulI (m := 2) (n := (i3 : Int)) rfl rfl q) rfl
                     · exact flp HM rfl [(37, _)] (fun K _ => ⟨K 9 rfl, trivial⟩) (fun _ _ q => s_addI (m := (w64 (2 * (i3 : Int)))) (n := 1) rfl rfl q) rfl
                     · intro L f15 w17 hL hd hc ⟨m17, L34, S17, K, hO⟩
                       obtain ⟨u15, rfl⟩ := fr_of (N := 60) (L := [(35, _), (38, _)]) hO ⟨K 7 (dep hd rfl), K 10 (dep hd rfl), trivial⟩
                       replace h2 := hup L34 h2
                       exact s_idxO (i := 0) (j := (w64 ((w64 (2 * (i3 : Int))) + 1))) S17 rfl rfl rfl (idx_rng q25).1 (idx_rng q25).2 underlying29 sizeOf34 fun p2 h15 => oS HM L34 S17 rfl K rfl rfl ⟨p2, rfl, h15⟩ outP
                     · intro L f16 w18 hL hd hc ⟨m18, L36, S18, K, hO⟩
                       obtain ⟨v9, e10, h16⟩ := K 11 (dep hd rfl)
                       obtain ⟨u16, rfl⟩ := fr_of (N := 60) (L := [(39, _)]) hO ⟨e10, trivial⟩
                       replace h2 := hup L36 h2
                       replace h11 := RepL.up L36 h11
                       have e11 := rep_arr2_UInt64 (RepL.getI h11 q25)
                       exact s_ldO (i := 0) (off := (w64 ((w64 (2 * (i3 : Int))) + 1)).toNat * 2) (d := [vU x15.1, vU x15.2]) S18 rfl h16 rfl e11 isAgg34 sizeOf34 (fun h => by cases h) <| oS HM L36 S18 rfl K rfl rfl rfl outP
                     · intro L f17 w19 hL hd hc ⟨m19, L38, S19, K, hO⟩
                       obtain ⟨u17, rfl⟩ := fr_of (N := 60) (L := [(34, _), (40, _)]) hO ⟨K 6 (dep hd rfl), K 12 (dep hd rfl), trivial⟩
                       replace h2 := hup L38 h2
                       have L39 := Mem.rfl' m19
                       refine s_call call67 (v_hash_Pair (a0 := x14) (a1 := x15) S19  q26) rfl ?_
                       rintro _ w20 ⟨m20, l3, S20, rfl⟩
                       clear S19
                       refine wpn ?_
                       replace L39 := Mem.tr L39 l3
                       exact ⟨m20, Mem.tr L38 L39, S20, facts_step HM rfl K L39 rfl rfl rfl, outP⟩
                   intro L f18 w21 hall ⟨m21, L40, S21, K, hO⟩
                   have d0 : L 0 = true := hall 0 (by decide)
                   have d1 : L 1 = true := hall 1 (by decide)
                   have d13 : L 13 = true := hall 13 (by decide)
                   obtain ⟨u18, rfl⟩ := fr_of (N := 60) (L := [(28, _), (29, _), (41, _)]) hO ⟨K 0 d0, K 1 d1, K 13 d13, trivial⟩
                   replace S21 : St _ ((row 2 v6 c6 s3.length) :: (bx kb0 [v1] 29) :: (X1 ++ As)) _ := S21
                   replace h2 := hup L40 h2
                   clear S5
                   obtain ⟨x17, q27, q22⟩ := obind_some q22
                   refine s_idxO (i := 0) (j := (i3 : Int)) S21 rfl rfl rfl (idx_rng q27).1 (idx_rng q27).2 underlying29 sizeOf34 fun p3 h17 => ?_
                   obtain ⟨x18, q28, q22⟩ := bnd_eq q22
                   replace h11 := RepL.up L40 h11
                   refine s_stOR (i := 0) (j := (i3 : Int)) (z := x16) S21 rfl rfl h17 rfl h11 q27 sizeOf34 (oneC rfl (oneC rfl oneN)) mk_arr2_UInt64 fun w22 c8 S22 h18 => ?_
                   rw [← q28] at S22 h18
                   replace S22 : St _ ((row 2 v6 c8 x18.length) :: (bx kb0 [v1] 29) :: (X1 ++ As)) _ := S22
                   clear S21
                   refine wpl_nil <| nrmB <| nrm <| wpc_region <| s_addI (m := (i3 : Int)) (n := 1) rfl rfl <| s_mvv (v := vI (w64 ((i3 : Int) + 1))) rfl <| wpl_nil <| nrm ?_
                   have e0 := Option.some.inj q22
                   subst e0
                   replace L10 := Mem.tr L10 L40
                   exact ⟨outP, _, (by omega), ⟨i3 + 1, x18, m21, _, rfl, hlt3, q21, Mem.tr L11 L10, S22, h18, ⟨congrArg (Value.int .i64) (w64_succ hlt3 (by rw [q18]; exact w64_toNat_le _)), trivial⟩⟩⟩
                 have hlt3 : ¬ i3 < (Int.toNat x11) := by have := of_decide_eq_false hc3; omega
                 have e := Eq.symm (eachN0_out q20 hlt3)
                 subst e
                 exact wpc_exit <| thE <| thE <| exB <| nrm <| ⟨outP, m5, _, Mem.tr L11 L10, S5, h11, trivial⟩
               rintro f19 w23 ho ⟨m23, c7, l4, S23, h12, ha⟩
               obtain ⟨u19, rfl⟩ := fr_of (N := 60) ho ha
               clear ho ha
               replace h2 := hup l4 h2
               clear S4
               have e0 := Option.some.inj q17
               subst e0
               replace L8 := Mem.tr L8 l4
               exact ⟨outP, m23, _, L8, S23, h12, trivial⟩
             rintro f20 w24 ho ⟨m24, c5, l5, S24, h10, ha⟩
             obtain ⟨u20, rfl⟩ := fr_of (N := 60) ho ha
             replace h2 := hup l5 h2
             clear S4
             refine wpc_region <| s_mvv (v := v6) rfl <| s_mvv (v := v6) rfl <| s_lenO (i := 0) S24 rfl rfl underlying29 <| s_quoI (m := (x10.length : Int)) (n := 2) rfl rfl (by decide) ?_
             obtain ⟨x19, q29, q15⟩ := bnd_eq q15
             refine s_re (congrArg (fun z => vI z) q29.symm) ?_
             obtain ⟨⟨q30, q31⟩, q15⟩ := if_some q15
             refine s_cutO (i := 0) S24 rfl rfl underlying29 sizeOf34 rfl rfl q30 q31 fun v10 S25 => ?_
             have h19 := RepL.take h10 x19.toNat
             replace S25 : St m24 ((row 2 v10 (c5.take (x19.toNat * 2)) (x10.take x19.toNat).length) :: (bx kb0 [v1] 29) :: (X1 ++ As)) w24 := by rw [show ((x10.take x19.toNat)).length = x19.toNat from by simp; omega]; exact S25
             clear S24
             refine s_asv (v := v10) rfl <| wpl_nil <| nrmB <| nrm ?_
             have e0 := Option.some.inj q15
             subst e0
             rcases q14 with ⟨sn, e, q14'⟩ | e
             · cases e
               replace L6 := Mem.tr L6 l5
               exact ⟨outP, _, Nat.lt_succ_self _, ⟨_, m24, _, _, q14', Mem.tr L7 L6, S25, h19, ⟨rfl, trivial⟩⟩⟩
             · cases e
           replace q15 := ifF hc2 q15
           refine wpc_exit <| thE <| thE <| exB <| nrm ?_
           have e0 := Option.some.inj q15
           subst e0
           rcases q14 with ⟨sn, e, _⟩ | e
           · cases e
           · cases e
             exact ⟨outP, m4, _, _, Mem.tr L7 L6, S4, h8, ⟨rfl, trivial⟩⟩
        rintro f21 w25 ho ⟨m26, v7, c4, l6, S26, h9, ha⟩
        obtain ⟨u21, rfl⟩ := fr_of (N := 60) ho ha
        clear ho ha
        replace h2 := hup l6 h2
        clear S3
        have e0 := Option.some.inj q11
        subst e0
        replace L4 := Mem.tr L4 l6
        exact ⟨outP, m26, _, _, L4, S26, h9, ⟨rfl, trivial⟩⟩
      rintro f22 w26 ho ⟨m27, v5, c2, l7, S27, h7, ha⟩
      obtain ⟨u22, rfl⟩ := fr_of (N := 60) ho ha
      replace h2 := hup l7 h2
      clear S3
      refine wpc_seq <| ws <| s_mvv (v := f0) rfl <| s_mvv (v := vI x4) rfl <| s_mvv (v := v5) rfl ?_
      obtain ⟨x20, q32, q4⟩ := obind_some q4
      refine s_idxO (i := 0) (j := 0) S27 rfl rfl rfl (idx_rng q32).1 (idx_rng q32).2 underlying29 sizeOf34 fun p4 h20 => ?_
      have e17 := rep_arr2_UInt64 (RepL.getI h7 q32)
      refine s_ldO (i := 0) (off := (0 : Int).toNat * 2) (d := [vU x20.1, vU x20.2]) S27 rfl h20 rfl e17 isAgg34 sizeOf34 (fun h => by cases h) <| s_build (parts := [(0, .tmp 50), (1, .tmp 53)]) (ps := [(0, vI x4, [vI x4]), (1, .agg #[vU x20.1, vU x20.2], [vU x20.1, vU x20.2])]) (cs := [vI x4, vU x20.1, vU x20.2]) zeroValue101 (BuildPl.str (ss := [1, 2]) underlying101 ⟨sizeOf3, sizeOf34, trivial⟩) rfl ⟨rfl, rfl, trivial⟩ rfl ?_
      obtain ⟨x21, q33, q4⟩ := obind_some q4
      have S28 := St.absF (L := [row 2 v5 c2 x7.length, bx kb0 [v1] 29]) (X := X1) (As := As) S27
      refine s_callV rfl (cb0 S28 h2 q33) rfl ?_
      rintro _ w27 ⟨m28, X3, l8, S29, h21, rfl⟩
      replace S29 := St.absF (L := X3) (X := [row 2 v5 c2 x7.length, bx kb0 [v1] 29]) (As := As) S29
      clear S28
      replace S29 : St _ ((row 2 v5 c2 x7.length) :: (bx kb0 [v1] 29) :: (X3 ++ As)) _ := S29
      clear S27
      refine s_not rfl <| wpl_nil <| nrm <| wpc_if (t := (!x21.1)) rfl (fun hc4 => ?_) (fun hc4 => ?_)
      · replace q4 := ifT hc4 q4
        refine wpc_ret <| thR <| blR <| thR <| blR <| thR <| outRw fun we hpd => ?_
        replace S29 := St.pd S29 hpd
        obtain ⟨m29, l9, S30⟩ := St.drop S29 0
        replace h21 := hup l9 h21
        clear S29
        replace S30 : St _ ((bx kb0 [v1] 29) :: (X3 ++ As)) _ := S30
        cases q4
        rcases q3 with ⟨sn, e, _⟩ | e
        · cases e
        cases e
        dsimp only at hm
        have e0 := Option.some.inj hm
        subst e0
        replace h1 := h1.up (mt l1 (mt l2 (mt l7 (mt l8 l9))))
        replace L2 := Mem.tr L2 (mt l1 (mt l2 (mt l7 (mt l8 l9))))
        exact outR [] rfl trivial ⟨_, (Mem.tr L0 (Mem.tr L3 L2)), _, _, S30, rfl, h1, h21⟩
      replace q4 := ifF hc4 q4
      refine wpc_skip <| nrm <| wpc_region <| s_ld (i := 1) (cs := [v1]) S29 rfl rfl isAgg29 sizeOf29 rfl (fun _ => rfl) <| s_mvv (v := vI x4) rfl ?_
      obtain ⟨x22, q34, q4⟩ := obind_some q4
      replace h1 := h1.up (mt l1 (mt l2 (mt l7 l8)))
      refine s_cut (ys := x22) (l := x4) (h := (s1.1.length : Int)) rfl h1 underlying29 sizeOf34 (.inr ⟨_, rfl⟩) (.inl ⟨rfl, rfl⟩) (.inl rfl) q34 fun v11 h22 => s_stS (i := 1) S29 rfl rfl rfl sizeOf29 ⟨SlR.cells h22, SlR.one h22⟩ rfl fun w28 S31 => ?_
      replace S31 : St _ ((row 2 v5 c2 x7.length) :: (bx kb0 [v11] 29) :: (X3 ++ As)) _ := S31
      clear S29
      refine wpl_nil <| nrmB <| nrm ?_
      obtain ⟨m30, l10, S32⟩ := St.drop S31 0
      replace h21 := hup l10 h21
      clear S31
      replace S32 : St _ ((bx kb0 [v11] 29) :: (X3 ++ As)) _ := S32
      have e0 := Option.some.inj q4
      subst e0
      rcases q3 with ⟨sn, e, q3'⟩ | e
      · cases e
        replace L2 := Mem.tr L2 (mt l1 (mt l2 (mt l7 (mt l8 l10))))
        exact ⟨outP, _, Nat.lt_succ_self _, ⟨_, m30, _, _, q3', Mem.tr L3 L2, S32, (h22.up l10), h21, trivial⟩⟩
      · cases e
    replace q4 := ifF hc1 q4
    refine wpc_exit <| thE <| thE <| exB <| nrm ?_
    have e0 := Option.some.inj q4
    subst e0
    rcases q3 with ⟨sn, e, _⟩ | e
    · cases e
    · cases e
      exact ⟨outP, m1, _, _, _, rfl, Mem.tr L3 L2, S1, h1, h2, trivial⟩
 rintro f23 w29 ho ⟨m32, y1, v2, X2, rfl, l11, S33, h3, h4, ha⟩
 obtain ⟨u23, rfl⟩ := fr_of (N := 60) ho ha
 clear ho ha
 dsimp only at hm
 clear S
 refine outNw fun we hpd => ?_
 replace S33 := St.pd S33 hpd
 have e0 := Option.some.inj hm
 subst e0
 replace L0 := Mem.tr L0 l11
 exact outR [] rfl trivial ⟨_, L0, _, _, S33, rfl, h3, h4⟩
def m_merkle_parts (a0 : List (UInt64 × UInt64)) : Option (List (UInt64 × UInt64)) :=
  some a0
theorem w_merkle_parts {m : Mem} {As : List Ow} {w : World} {a0 : List (UInt64 × UInt64)} {a0v0 : Value} {r : (List (UInt64 × UInt64))} (S : St m (As) w) (a0h0 : SlR m a0v0 a0) (hm : m_merkle_parts a0 = some r) :
    CallsR Tryz.prog 65 #[a0v0] w fun v w' => ∃ (M : Mem), m ≤ M ∧ ∃ (rk0_0 : Nat) (rc0_0_0 : Value), St M ((bx rk0_0 [rc0_0_0] 29) :: As) w' ∧ v = .func (.func 104) #[] #[pt rk0_0 0] ∧ SlR M rc0_0_0 r := by
 unfold m_merkle_parts at hm
 have L0 := Mem.rfl' m
 refine callsR (args := [a0v0]) func65 rfl ntmps65 (nb rfl) <| ws <| s_boxS S rfl (SlR.cells a0h0) fun b1 w1 S1 => ?_
 replace S1 : St _ ((bx b1 [a0v0] 29) :: As) _ := S1
 clear S
 refine s_asv (v := .nilFunc) rfl <| nx <| s_funcC (caps := [pt b1 0]) rfl <| s_asv (v := .func (.func 104) #[] #[pt b1 0]) rfl <| wpl_nil <| nrm <| wpc_ret <| outRw fun we hpd => ?_
 replace S1 := St.pd S1 hpd
 have e0 := Option.some.inj hm
 subst e0
 exact outR [_] rfl ⟨rfl, trivial⟩ ⟨_, L0, _, _, S1, rfl, a0h0⟩
def m_slices_Reverse_merkle_part_merkle_part_b1  (s1 : Int × Int × (List g_merkle_part)) : Option ((Int × Int × (List g_merkle_part)) ⊕ ((List g_merkle_part))) :=
  if (decide (s1.1 < s1.2.1)) = true then
    obind (idx s1.2.2 s1.2.1) fun x4 =>
    obind (idx s1.2.2 s1.1) fun x5 =>
    obind (idx s1.2.2 s1.1) fun x6 =>
    bnd (s1.2.2.set s1.1.toNat x4) fun x7 =>
    obind (idx x7 s1.2.1) fun x8 =>
    bnd (x7.set s1.2.1.toNat x5) fun x9 =>
    some (.inl ((w64 (s1.1 + 1)), (w64 (s1.2.1 - 1)), x9))
  else
  some (.inr s1.2.2)
def m_slices_Reverse_merkle_part_merkle_part (a0 : List g_merkle_part) : Option (List g_merkle_part) :=
  bnd ((w64 ((a0.length : Int) - 1))) fun x1 =>
  obind (iter m_slices_Reverse_merkle_part_merkle_part_b1 FUEL (0, x1, a0)) fun x2 =>
  some x2
theorem w_slices_Reverse_merkle_part_merkle_part {m : Mem} {As : List Ow} {w : World} {a0 : List g_merkle_part} {a0v0 : Value} {a0c0 : List Value} {r : List g_merkle_part} (S : St m ((row 3 a0v0 a0c0 a0.length) :: As) w) (a0h0 : RepL m a0c0 a0) (hm : m_slices_Reverse_merkle_part_merkle_part a0 = some r) :
    CallsR Tryz.prog 66 #[a0v0] w fun v w' => ∃ (M : Mem), m ≤ M ∧ ∃ (rk0 : List Value), St M ((row 3 a0v0 rk0 r.length) :: As) w' ∧ v = .tuple #[] ∧ RepL M rk0 r := by
 unfold m_slices_Reverse_merkle_part_merkle_part at hm
 have L0 := Mem.rfl' m
 refine callsR (args := [a0v0]) func66 rfl ntmps66 (nb rfl) <| ws <| s_mvv (v := a0v0) rfl <| s_lenO (i := 0) S rfl rfl underlying98 <| s_subI (m := (a0.length : Int)) (n := 1) rfl rfl <| s_asv (v := vI 0) rfl ?_
 obtain ⟨x1, q1, hm⟩ := bnd_eq hm
 refine s_asv (v := vI x1) (congrArg (fun z => vI z) q1.symm) <| wpl_nil <| nrm ?_
 obtain ⟨x2, q2, hm⟩ := obind_some hm
 have L1 := Mem.rfl' m
 refine wpc_wrap <| wpc_join [2, 3, 7, 8, 9, 10, 11, 12, 13, 14, 15, 16, 17, 18, 19, 20, 21, 22, 23, 24, 25, 26, 27] (fun f' w' => ∃ (M1 : Mem) (c2 : List Value), m ≤ M1 ∧ St M1 ((row 3 a0v0 c2 x2.length) :: As) w' ∧ RepL M1 c2 x2 ∧ AllAt f' []) ?_ ?_
 · refine wpc_block <| wpc_rounds [2, 3, 7, 8, 9, 10, 11, 12, 13, 14, 15, 16, 17, 18, 19, 20, 21, 22, 23, 24, 25, 26, 27] (fun n1 f' w' => ∃ (s1 : Int × Int × (List g_merkle_part)) (m17 : Mem) (c1 : List Value), iter m_slices_Reverse_merkle_part_merkle_part_b1 n1 s1 = some x2 ∧ m ≤ m17 ∧ St m17 ((row 3 a0v0 c1 s1.2.2.length) :: As) w' ∧ RepL m17 c1 s1.2.2 ∧ AllAt f' [(2, vI s1.1), (3, vI s1.2.1)]) FUEL ⟨(0, x1, a0), m, _, q2, L1, S, a0h0, ⟨rfl, rfl, trivial⟩⟩ ?_
   rintro n1 f1 w1 ho ⟨s1, m1, c1, q3, L3, S1, h1, ha⟩
   obtain ⟨u1, rfl⟩ := fr_of (N := 28) ho ha
   clear ho ha
   have L2 := Mem.rfl' m1
   clear S
   cases n1 with
   | zero => exact (iter_zero q3).elim
   | succ n1 =>
    obtain ⟨y1, q5, q4⟩ := iter_succ q3
    unfold m_slices_Reverse_merkle_part_merkle_part_b1 at q5
    refine wpc_seq <| ws <| s_mvv (v := vI s1.1) rfl <| s_mvv (v := vI s1.2.1) rfl <| s_lss (m := s1.1) (n := s1.2.1) rfl rfl <| wpl_nil <| nrm <| wpc_if (t := (decide (s1.1 < s1.2.1))) rfl (fun hc1 => ?_) (fun hc1 => ?_)
    · replace q5 := ifT hc1 q5
      refine wpc_skip <| nrm <| wpc_seq <| wpc_block ?_
      obtain ⟨x4, q7, q5⟩ := obind_some q5
      obtain ⟨x5, q8, q5⟩ := obind_some q5
      obtain ⟨x6, q9, q5⟩ := obind_some q5
      obtain ⟨x7, q10, q5⟩ := bnd_eq q5
      have HM : MonoAll [(14, fv a0v0), (15, fv (vI s1.1)), (16, fv a0v0), (17, fv (vI s1.2.1)), (18, fv a0v0), (19, fv (vI s1.2.1)), (20, fun (M : Mem) (v : Value) => ∃ (p1 : Value), v = p1 ∧ PtO a0v0 p1 (s1.2.1.toNat * 3)), (21, fv (.agg (c_merkle_part x4).toArray)), (22, fv a0v0), (23, fv (vI s1.1)), (24, fun (M : Mem) (v : Value) => ∃ (p2 : Value), v = p2 ∧ PtO a0v0 p2 (s1.1.toNat * 3)), (25, fv (.agg (c_merkle_part x5).toArray)), (26, fun (M : Mem) (v : Value) => ∃ (p3 : Value), v = p3 ∧ PtO a0v0 p3 (s1.1.toNat * 3)), (100013, fun _ _ => True)] := ⟨mv, mv, mv, mv, mv, mv, (fun _ _ _ l ⟨p1, e, h4⟩ => ⟨p1, e, h4⟩), mv, mv, mv, (fun _ _ _ l ⟨p2, e, h8⟩ => ⟨p2, e, h8⟩), mv, (fun _ _ _ l ⟨p3, e, h12⟩ => ⟨p3, e, h12⟩), (fun _ _ _ _ h => h), trivial⟩
      refine wpc_flowG HM 14 mixed rfl rfl rfl (rg 14 13) (fun L f M w => ∃ (X1 : List Ow), ((L 13 = false → (RowS M X1 3 a0v0 s1.2.2)) ∧ (L 13 = true → (RowS M X1 3 a0v0 x7))) ∧ St M ((X1 ++ As)) w) (⟨[row 3 a0v0 c1 s1.2.2.length], ⟨fun _ => ⟨_, rfl, h1⟩, fun hx => ff hx⟩, St.drew S1 _⟩) ?_ ?_
      · refine ⟨?_, ?_, ?_, ?_, ?_, ?_, ?_, ?_, ?_, ?_, ?_, ?_, ?_, ?_, trivial⟩
        · exact flp HM rfl [] (fun _ _ => trivial) (fun _ _ q => s_mvv (v := a0v0) rfl q) rfl
        · exact flp HM rfl [] (fun _ _ => trivial) (fun _ _ q => s_mvv (v := vI s1.1) rfl q) rfl
        · exact flp HM rfl [] (fun _ _ => trivial) (fun _ _ q => s_mvv (v := a0v0) rfl q) rfl
        · exact flp HM rfl [] (fun _ _ => trivial) (fun _ _ q => s_mvv (v := vI s1.2.1) rfl q) rfl
        · exact flp HM rfl [] (fun _ _ => trivial) (fun _ _ q => s_mvv (v := a0v0) rfl q) rfl
        · exact flp HM rfl [] (fun _ _ => trivial) (fun _ _ q => s_mvv (v := vI s1.2.1) rfl q) rfl
        · intro L f8 w8 hL hd hc ⟨m8, L16, ⟨X1, C7, S8⟩, K, hO⟩
          have d13 : L 13 = false := undep hc hL rfl
          obtain ⟨u8, rfl⟩ := fr_of (N := 28) (L := [(18, _), (19, _)]) hO ⟨K 4 (dep hd rfl), K 5 (dep hd rfl), trivial⟩
          obtain ⟨c3, rfl, h3⟩ := C7.1 d13
          replace h3 : RepL _ c3 s1.2.2 := h3
          replace S8 : St _ ((row 3 a0v0 c3 s1.2.2.length) :: As) _ := S8
          have L17 := Mem.rfl' m8
          exact s_idxO (i := 0) (j := s1.2.1) S8 rfl rfl rfl (idx_rng q7).1 (idx_rng q7).2 underlying98 sizeOf101 fun p1 h4 => wpn <| ⟨m8, Mem.tr L16 L17, ⟨[row 3 a0v0 c3 s1.2.2.length], ⟨fun _ => ⟨_, rfl, h3⟩, fun hx => tf hx d13⟩, S8⟩, facts_step HM rfl K L17 rfl rfl ⟨p1, rfl, h4⟩, outP⟩
        · intro L f9 w9 hL hd hc ⟨m9, L18, ⟨X1, C8, S9⟩, K, hO⟩
          obtain ⟨v1, e3, h5⟩ := K 6 (dep hd rfl)
          have d13 : L 13 = false := undep hc hL rfl
          obtain ⟨u9, rfl⟩ := fr_of (N := 28) (L := [(20, _)]) hO ⟨e3, trivial⟩
          obtain ⟨c4, rfl, h6⟩ := C8.1 d13
          replace h6 : RepL _ c4 s1.2.2 := h6
          replace S9 : St _ ((row 3 a0v0 c4 s1.2.2.length) :: As) _ := S9
          have L19 := Mem.rfl' m9
          have e4 := rep_g_merkle_part (RepL.getI h6 q7)
          exact s_ldO (i := 0) (off := s1.2.1.toNat * 3) (d := (c_merkle_part x4)) S9 rfl h5 rfl e4 isAgg101 sizeOf101 (fun h => by cases h) <| wpn <| ⟨m9, Mem.tr L18 L19, ⟨[row 3 a0v0 c4 s1.2.2.length], ⟨fun _ => ⟨_, rfl, h6⟩, fun hx => tf hx d13⟩, S9⟩, facts_step HM rfl K L19 rfl rfl rfl, outP⟩
        · exact flp HM rfl [] (fun _ _ => trivial) (fun _ _ q => s_mvv (v := a0v0) rfl q) rfl
        · exact flp HM rfl [] (fun _ _ => trivial) (fun _ _ q => s_mvv (v := vI s1.1) rfl q) rfl
        · intro L f12 w12 hL hd hc ⟨m12, L24, ⟨X1, C11, S12⟩, K, hO⟩
          have d11 : L 11 = false := undep hc hL rfl
          have d13 : L 13 = false := undep hc d11 rfl
          obtain ⟨u12, rfl⟩ := fr_of (N := 28) (L := [(22, _), (23, _)]) hO ⟨K 8 (dep hd rfl), K 9 (dep hd rfl), trivial⟩
          obtain ⟨c5, rfl, h7⟩ := C11.1 d13
          replace h7 : RepL _ c5 s1.2.2 := h7
          replace S12 : St _ ((row 3 a0v0 c5 s1.2.2.length) :: As) _ := S12
          have L25 := Mem.rfl' m12
          exact s_idxO (i := 0) (j := s1.1) S12 rfl rfl rfl (idx_rng q8).1 (idx_rng q8).2 underlying98 sizeOf101 fun p2 h8 => wpn <| ⟨m12, Mem.tr L24 L25, ⟨[row 3 a0v0 c5 s1.2.2.length], ⟨fun _ => ⟨_, rfl, h7⟩, fun hx => tf hx d13⟩, S12⟩, facts_step HM rfl K L25 rfl rfl ⟨p2, rfl, h8⟩, outP⟩
        · intro L f13 w13 hL hd hc ⟨m13, L26, ⟨X1, C12, S13⟩, K, hO⟩
          obtain ⟨v2, e7, h9⟩ := K 10 (dep hd rfl)
          have d13 : L 13 = false := undep hc hL rfl
          obtain ⟨u13, rfl⟩ := fr_of (N := 28) (L := [(24, _)]) hO ⟨e7, trivial⟩
          obtain ⟨c6, rfl, h10⟩ := C12.1 d13
          replace h10 : RepL _ c6 s1.2.2 := h10
          replace S13 : St _ ((row 3 a0v0 c6 s1.2.2.length) :: As) _ := S13
          have L27 := Mem.rfl' m13
          have e8 := rep_g_merkle_part (RepL.getI h10 q8)
          exact s_ldO (i := 0) (off := s1.1.toNat * 3) (d := (c_merkle_part x5)) S13 rfl h9 rfl e8 isAgg101 sizeOf101 (fun h => by cases h) <| wpn <| ⟨m13, Mem.tr L26 L27, ⟨[row 3 a0v0 c6 s1.2.2.length], ⟨fun _ => ⟨_, rfl, h10⟩, fun hx => tf hx d13⟩, S13⟩, facts_step HM rfl K L27 rfl rfl rfl, outP⟩
        · intro L f14 w14 hL hd hc ⟨m14, L28, ⟨X1, C13, S14⟩, K, hO⟩
          have d13 : L 13 = false := undep hc hL rfl
          obtain ⟨u14, rfl⟩ := fr_of (N := 28) (L := [(14, _), (15, _)]) hO ⟨K 0 (dep hd rfl), K 1 (dep hd rfl), trivial⟩
          obtain ⟨c7, rfl, h11⟩ := C13.1 d13
          replace h11 : RepL _ c7 s1.2.2 := h11
          replace S14 : St _ ((row 3 a0v0 c7 s1.2.2.length) :: As) _ := S14
          have L29 := Mem.rfl' m14
          exact s_idxO (i := 0) (j := s1.1) S14 rfl rfl rfl (idx_rng q9).1 (idx_rng q9).2 underlying98 sizeOf101 fun p3 h12 => wpn <| ⟨m14, Mem.tr L28 L29, ⟨[row 3 a0v0 c7 s1.2.2.length], ⟨fun _ => ⟨_, rfl, h11⟩, fun hx => tf hx d13⟩, S14⟩, facts_step HM rfl K L29 rfl rfl ⟨p3, rfl, h12⟩, outP⟩
        · intro L f15 w15 hL hd hc ⟨m15, L30, ⟨X1, C14, S15⟩, K, hO⟩
          obtain ⟨v3, e11, h13⟩ := K 12 (dep hd rfl)
          have d13 : L 13 = false := hL
          obtain ⟨u15, rfl⟩ := fr_of (N := 28) (L := [(26, _), (21, _)]) hO ⟨e11, K 7 (dep hd rfl), trivial⟩
          obtain ⟨c8, rfl, h14⟩ := C14.1 d13
          replace h14 : RepL _ c8 s1.2.2 := h14
          replace S15 : St _ ((row 3 a0v0 c8 s1.2.2.length) :: As) _ := S15
          have L31 := Mem.rfl' m15
          refine s_stOR (i := 0) (j := s1.1) (z := x4) S15 rfl rfl h13 rfl h14 q9 sizeOf101 (oneC rfl (oneC rfl (oneC rfl oneN))) mk_g_merkle_part fun w16 c9 S16 h15 => ?_
          rw [← q10] at S16 h15
          replace S16 : St _ ((row 3 a0v0 c9 x7.length) :: As) _ := S16
          clear S15
          exact wpn <| ⟨m15, Mem.tr L30 L31, ⟨[row 3 a0v0 c9 x7.length], ⟨fun hx => tf rfl hx, fun _ => ⟨_, rfl, h15⟩⟩, S16⟩, facts_none HM K L31 rfl (fun _ => trivial), outP⟩
      intro L f16 w17 hall ⟨m16, L32, ⟨X1, C15, S17⟩, K, hO⟩
      have d2 : L 2 = true := hall 2 (by decide)
      have d3 : L 3 = true := hall 3 (by decide)
      have d11 : L 11 = true := hall 11 (by decide)
      have d13 : L 13 = true := hall 13 (by decide)
      obtain ⟨u16, rfl⟩ := fr_of (N := 28) (L := [(16, _), (17, _), (25, _)]) hO ⟨K 2 d2, K 3 d3, K 11 d11, trivial⟩
      replace S17 : St _ ((X1 ++ As)) _ := S17
      obtain ⟨c10, rfl, h16⟩ := C15.2 d13
      replace h16 : RepL _ c10 x7 := h16
      replace S17 : St _ ((row 3 a0v0 c10 x7.length) :: As) _ := S17
      clear S1
      obtain ⟨x8, q11, q5⟩ := obind_some q5
      refine s_idxO (i := 0) (j := s1.2.1) S17 rfl rfl rfl (idx_rng q11).1 (idx_rng q11).2 underlying98 sizeOf101 fun p4 h17 => ?_
      obtain ⟨x9, q12, q5⟩ := bnd_eq q5
      refine s_stOR (i := 0) (j := s1.2.1) (z := x5) S17 rfl rfl h17 rfl h16 q11 sizeOf101 (oneC rfl (oneC rfl (oneC rfl oneN))) mk_g_merkle_part fun w18 c11 S18 h18 => ?_
      rw [← q12] at S18 h18
      replace S18 : St _ ((row 3 a0v0 c11 x9.length) :: As) _ := S18
      clear S17
      refine wpl_nil <| nrmB <| nrm <| wpc_region <| s_mvv (v := vI s1.1) rfl <| s_addI (m := s1.1) (n := 1) rfl rfl <| s_mvv (v := vI s1.2.1) rfl <| s_subI (m := s1.2.1) (n := 1) rfl rfl <| s_asv (v := vI (w64 (s1.1 + 1))) rfl <| s_asv (v := vI (w64 (s1.2.1 - 1))) rfl <| wpl_nil <| nrm ?_
      have e0 := Option.some.inj q5
      subst e0
      rcases q4 with ⟨sn, e, q4'⟩ | e
      · cases e
        replace L2 := Mem.tr L2 L32
        exact ⟨outP, _, Nat.lt_succ_self _, ⟨_, m16, _, q4', Mem.tr L3 L2, S18, h18, ⟨rfl, rfl, trivial⟩⟩⟩
      · cases e
    replace q5 := ifF hc1 q5
    refine wpc_exit <| thE <| thE <| exB <| nrm ?_
    have e0 := Option.some.inj q5
    subst e0
    rcases q4 with ⟨sn, e, _⟩ | e
    · cases e
    · cases e
      exact ⟨outP, m1, _, Mem.tr L3 L2, S1, h1, trivial⟩
 rintro f17 w19 ho ⟨m18, c2, l1, S19, h2, ha⟩
 obtain ⟨u17, rfl⟩ := fr_of (N := 28) ho ha
 clear ho ha S
 refine outNw fun we hpd => ?_
 replace S19 := St.pd S19 hpd
 have e0 := Option.some.inj hm
 subst e0
 replace L0 := Mem.tr L0 l1
 exact outR [] rfl trivial ⟨_, L0, _, S19, rfl, h2⟩
def m_slices_AppendSeq_merkle_part_merkle_part_104_b2 (b3 : g_merkle_part) (s1 : (List g_merkle_part)) : Option ((List g_merkle_part)) :=
  obind (app 24 s1 ([b3] : List g_merkle_part)) fun x2 =>
  some x2
def m_slices_AppendSeq_merkle_part_merkle_part_104 (a0 : List g_merkle_part) (k0 : List (UInt64 × UInt64)) : Option ((List g_merkle_part) × (List (UInt64 × UInt64))) :=
  obind (m_merkle_parts_1 (fun (s : (List g_merkle_part)) (b0 : g_merkle_part) => obind (m_slices_AppendSeq_merkle_part_merkle_part_104_b2 b0 s) fun y => some (true, y)) k0 a0) fun x1 =>
  some (x1.2, x1.1)
theorem w_slices_AppendSeq_merkle_part_merkle_part_104 {m : Mem} {As : List Ow} {w : World} {a0 : List g_merkle_part} {a0v0 : Value} {a0c0 : List Value} {kb0 : Nat} {k0 : List (UInt64 × UInt64)} {k0v0 : Value} {r : (List g_merkle_part) × (List (UInt64 × UInt64))} (S : St m ((row 3 a0v0 a0c0 a0.length) :: (bx kb0 [k0v0] 29) :: As) w) (a0h0 : RepL m a0c0 a0) (k0h0 : SlR m k0v0 k0) (hm : m_slices_AppendSeq_merkle_part_merkle_part_104 a0 k0 = some r) :
    CallsR Tryz.prog 103 #[a0v0, .func (.func 104) #[] #[pt kb0 0]] w fun v w' => ∃ (M : Mem), m ≤ M ∧ ∃ (rv0 : Value) (rc0 : List Value) (rb0_0 : Value), St M ((row 3 rv0 rc0 r.1.length) :: (bx kb0 [rb0_0] 29) :: As) w' ∧ v = rv0 ∧ RepL M rc0 r.1 ∧ SlR M rb0_0 r.2 := by
 unfold m_slices_AppendSeq_merkle_part_merkle_part_104 at hm
 have L0 := Mem.rfl' m
 refine callsR (args := [a0v0, .func (.func 104) #[] #[pt kb0 0]]) func103 rfl ntmps103 (nb rfl) <| ws <| s_boxS S rfl (St.rowCells (i := 0) S rfl).1 fun b1 w1 S1 => ?_
 replace S1 : St _ ((bx b1 [a0v0] 98) :: (row 3 a0v0 a0c0 a0.length) :: (bx kb0 [k0v0] 29) :: As) _ := S1
 clear S
 refine s_asv (v := .slice none 0 0) rfl <| wpl_nil <| nrm <| wpc_seq <| ws <| s_mvv (v := .func (.func 104) #[] #[pt kb0 0]) rfl <| wpl_nil <| nrm <| wpc_block ?_
 have S2 : St _ ((bx kb0 [k0v0] 29) :: (bx b1 [a0v0] 98) :: (row 3 a0v0 a0c0 a0.length) :: As) _ := St.perm S1 (List.Perm.trans (List.Perm.cons _ (List.Perm.swap _ _ _)) (List.Perm.swap _ _ _))
 clear S1
 obtain ⟨x1, q1, hm⟩ := obind_some hm
 refine wpc_rangeFunc S2 rfl call104 fun lp1 rip2 w2 h1 S3 => ?_
 replace S3 : St _ ((Lp lp1 rip2 .ready none) :: (bx kb0 [k0v0] 29) :: (bx b1 [a0v0] 98) :: (row 3 a0v0 a0c0 a0.length) :: As) _ := S3
 clear S2
 have S4 : St _ ((row 3 a0v0 a0c0 a0.length) :: (Lp lp1 rip2 .ready none) :: (bx kb0 [k0v0] 29) :: (bx b1 [a0v0] 98) :: As) _ := St.perm S3 (List.Perm.trans (List.Perm.cons _ (List.Perm.cons _ (List.Perm.swap _ _ _))) (List.Perm.trans (List.Perm.cons _ (List.Perm.swap _ _ _)) (List.Perm.swap _ _ _)))
 clear S3
 have S5 : St _ ((bx kb0 [k0v0] 29) :: (Lp lp1 rip2 .ready none) :: (row 3 a0v0 a0c0 a0.length) :: (bx b1 [a0v0] 98) :: As) _ := St.perm S4 (List.Perm.trans (List.Perm.cons _ (List.Perm.swap _ _ _)) (List.Perm.trans (List.Perm.swap _ _ _) (List.Perm.cons _ (List.Perm.swap _ _ _))))
 clear S4
 have hcb1 : ∀ {m' : Mem} {As' : List Ow} {w' : World} {s : (List g_merkle_part)} {X : List Ow} {b0 : g_merkle_part} {r : Bool × (List g_merkle_part)}, St m' (X ++ As') w' → (∃ (v2 : Value) (c2 : List Value), m ≤ m' ∧ X = Lp lp1 rip2 .ready none :: (row 3 v2 c2 (s).length) :: (bx b1 [v2] 98) :: [] ∧ RepL m' c2 (s)) → (fun (s : (List g_merkle_part)) (b0 : g_merkle_part) => obind (m_slices_AppendSeq_merkle_part_merkle_part_104_b2 b0 s) fun y => some (true, y)) s b0 = some r → CallV Tryz.prog (.func (.yield lp1) #[] #[]) [.agg (c_merkle_part b0).toArray] w' fun v w'' => ∃ (M : Mem) (X' : List Ow), m' ≤ M ∧ St M (X' ++ As') w'' ∧ (∃ (v2 : Value) (c2 : List Value), m ≤ M ∧ X' = Lp lp1 rip2 .ready none :: (row 3 v2 c2 (r.2).length) :: (bx b1 [v2] 98) :: [] ∧ RepL M c2 (r.2)) ∧ v = vb r.1 := by
   intro m1 As1 w3 s1 X1 b3 r3 S6 h4 hm1
   obtain ⟨v3, c3, L2, rfl, h5⟩ := h4
   obtain ⟨y1, q2, hm1⟩ := obind_some hm1
   cases hm1
   unfold m_slices_AppendSeq_merkle_part_merkle_part_104_b2 at q2
   replace S6 : St _ ((Lp lp1 rip2 .ready none) :: (row 3 v3 c3 s1.length) :: (bx b1 [v3] 98) :: As1) _ := S6
   have L1 := Mem.rfl' m1
   refine CallV.round h1 rfl S6 ?_
   refine wpc_region ?_
   refine s_alloc S6 zeroValue101 ?_
   intro b4 w4 S7
   replace S7 : St _ ((bx b4 z_merkle_part 101) :: (Lp lp1 rip2 .ready none) :: (row 3 v3 c3 s1.length) :: (bx b1 [v3] 98) :: As1) _ := S7
   clear S6
   refine s_stL (i := 0) S7 rfl rfl rfl sizeOf101 (oneC rfl (oneC rfl (oneC rfl oneN))) rfl ?_
   intro w5 S8
   replace S8 : St _ ((bx b4 (c_merkle_part b3) 101) :: (Lp lp1 rip2 .ready none) :: (row 3 v3 c3 s1.length) :: (bx b1 [v3] 98) :: As1) _ := S8
   clear S7
   refine wpl_nil ?_
   refine nrm ?_
   have S9 : St _ ((Lp lp1 rip2 .ready none) :: (bx b4 (c_merkle_part b3) 101) :: (row 3 v3 c3 s1.length) :: (bx b1 [v3] 98) :: As1) _ := St.perm S8 (List.Perm.swap _ _ _)
   clear S8
   refine ⟨_, _, S9, ?_⟩
   intro w6 S10
   clear S9
   replace S10 : St _ ((Lp lp1 rip2 .busy none) :: (bx b4 (c_merkle_part b3) 101) :: (row 3 v3 c3 s1.length) :: (bx b1 [v3] 98) :: As1) _ := S10
   refine wpc_block ?_
   refine wpc_region ?_
   refine s_ld (i := 3) (cs := [v3]) S10 rfl rfl isAgg98 sizeOf98 rfl (fun _ => rfl) ?_
   refine s_ld (i := 1) (cs := (c_merkle_part b3)) S10 rfl rfl isAgg101 sizeOf101 rfl (fun h => by cases h) ?_
   refine s_litC (parts := [.tmp 9]) (vs := [.agg (c_merkle_part b3).toArray]) (cls := [(c_merkle_part b3)]) (xs := ([b3] : List g_merkle_part)) (n := 1) S10 underlying98 sizeOf101 zeroValue101 rfl ⟨rfl, trivial⟩ (RepL.cons (c := (c_merkle_part b3)) (x := b3) mk_g_merkle_part RepL.nil) rfl rfl rfl (by decide) (by decide) ?_
   intro v4 m2 w7 l1 S11 h6
   replace h5 := RepL.up l1 h5
   replace L1 := Mem.tr L1 l1
   clear S10
   obtain ⟨x2, q3, q2⟩ := obind_some q2
   refine s_app (i := 2) (zs := x2) (bytes := 24) (ti := Tryz.t101) S11 rfl rfl h5 rfl rfl h6 q3 underlying98 type101 rfl rfl rfl rfl ?_
   intro v5 c4 w8 S12 h7
   replace S12 : St _ ((Lp lp1 rip2 .busy none) :: (bx b4 (c_merkle_part b3) 101) :: (row 3 v5 c4 x2.length) :: (bx b1 [v3] 98) :: As1) _ := S12
   clear S11
   refine s_stS (i := 3) S12 rfl rfl rfl sizeOf98 (St.rowCells (i := 2) S12 rfl) rfl ?_
   intro w9 S13
   replace S13 : St _ ((Lp lp1 rip2 .busy none) :: (bx b4 (c_merkle_part b3) 101) :: (row 3 v5 c4 x2.length) :: (bx b1 [v5] 98) :: As1) _ := S13
   clear S12
   refine wpl_nil ?_
   refine nrmB ?_
   obtain ⟨m3, l2, S14⟩ := St.drop S13 1
   replace h7 := RepL.up l2 h7
   replace L1 := Mem.tr L1 l2
   clear S13
   replace S14 : St _ ((Lp lp1 rip2 .busy none) :: (row 3 v5 c4 x2.length) :: (bx b1 [v5] 98) :: As1) _ := S14
   have S15 : St _ ((row 3 v5 c4 x2.length) :: (Lp lp1 rip2 .busy none) :: (bx b1 [v5] 98) :: As1) _ := St.perm S14 (List.Perm.swap _ _ _)
   clear S14
   have S16 : St _ ((Lp lp1 rip2 .busy none) :: (row 3 v5 c4 x2.length) :: (bx b1 [v5] 98) :: As1) _ := St.perm S15 (List.Perm.swap _ _ _)
   clear S15
   refine ⟨_, _, S16, ?_⟩
   intro w10 S17
   have e0 := Option.some.inj q2
   subst e0
   exact ⟨_, Lp lp1 rip2 .ready none :: (row 3 v5 c4 x2.length) :: (bx b1 [v5] 98) :: [], L1, S17, ⟨_, _, Mem.tr L2 L1, rfl, h7⟩, rfl⟩
 refine CallsR.mono (w_merkle_parts_1 (p0 := (fun (s : (List g_merkle_part)) (b0 : g_merkle_part) => obind (m_slices_AppendSeq_merkle_part_merkle_part_104_b2 b0 s) fun y => some (true, y))) (k0 := k0) (s0 := a0) (R := (fun (s : (List g_merkle_part)) (M : Mem) (X : List Ow) => (∃ (v2 : Value) (c2 : List Value), m ≤ M ∧ X = Lp lp1 rip2 .ready none :: (row 3 v2 c2 (s).length) :: (bx b1 [v2] 98) :: [] ∧ RepL M c2 (s)))) (X0 := ((Lp lp1 rip2 .ready none) :: (row 3 a0v0 a0c0 a0.length) :: (bx b1 [a0v0] 98) :: [])) (As := As) S5 (fun l h => by obtain ⟨v2, c2, Lm, e, h3⟩ := h; exact ⟨_, _, Mem.tr Lm l, e, RepL.up l h3⟩) ⟨_, _, Mem.rfl' _, rfl, a0h0⟩ @hcb1 rfl k0h0 q1) ?_
 rintro _ w11 ⟨m4, l3, v6, X2, S18, rfl, h8, ⟨v7, c5, L3, rfl, h9⟩⟩
 have S19 : St _ ((Lp lp1 rip2 .ready none) :: (bx kb0 [v6] 29) :: (row 3 v7 c5 x1.2.length) :: (bx b1 [v7] 98) :: As) _ := St.perm S18 (List.Perm.swap _ _ _)
 clear S18
 refine ⟨_, .ready, none, _, l3, (fun h => by cases h), S19, ?_⟩
 intro m5 w12 l4 S20
 have l5 := Mem.tr l3 l4
 replace S20 : St _ ((bx kb0 [v6] 29) :: (row 3 v7 c5 x1.2.length) :: (bx b1 [v7] 98) :: As) _ := S20
 refine nrmB <| nrm <| ws <| s_ld (i := 2) (cs := [v7]) S20 rfl rfl isAgg98 sizeOf98 rfl (fun _ => rfl) <| s_asv (v := v7) rfl <| wpl_nil <| nrm <| wpc_ret <| outRw fun we hpd => ?_
 replace S20 := St.pd S20 hpd
 obtain ⟨m6, l6, S21⟩ := St.drop S20 2
 clear S20
 replace S21 : St _ ((bx kb0 [v6] 29) :: (row 3 v7 c5 x1.2.length) :: As) _ := S21
 have S22 : St _ ((row 3 v7 c5 x1.2.length) :: (bx kb0 [v6] 29) :: As) _ := St.perm S21 (List.Perm.swap _ _ _)
 have e0 := Option.some.inj hm
 subst e0
 replace h8 := h8.up (mt l4 l6)
 replace h9 := RepL.up (mt l4 l6) h9
 replace L0 := Mem.tr L0 (mt l5 l6)
 exact outR [_] rfl ⟨rfl, trivial⟩ ⟨_, L0, _, _, _, S22, rfl, h9, h8⟩
def m_slices_Collect_merkle_part_104 (k0 : List (UInt64 × UInt64)) : Option ((List g_merkle_part) × (List (UInt64 × UInt64))) :=
  obind (m_slices_AppendSeq_merkle_part_merkle_part_104 ([] : List g_merkle_part) k0) fun x1 =>
  some (x1.1, x1.2)
theorem w_slices_Collect_merkle_part_104 {m : Mem} {As : List Ow} {w : World} {kb0 : Nat} {k0 : List (UInt64 × UInt64)} {k0v0 : Value} {r : (List g_merkle_part) × (List (UInt64 × UInt64))} (S : St m ((bx kb0 [k0v0] 29) :: As) w) (k0h0 : SlR m k0v0 k0) (hm : m_slices_Collect_merkle_part_104 k0 = some r) :
    CallsR Tryz.prog 64 #[.func (.func 104) #[] #[pt kb0 0]] w fun v w' => ∃ (M : Mem), m ≤ M ∧ ∃ (rv0 : Value) (rc0 : List Value) (rb0_0 : Value), St M ((row 3 rv0 rc0 r.1.length) :: (bx kb0 [rb0_0] 29) :: As) w' ∧ v = rv0 ∧ RepL M rc0 r.1 ∧ SlR M rb0_0 r.2 := by
 unfold m_slices_Collect_merkle_part_104 at hm
 have L0 := Mem.rfl' m
 refine callsR (args := [.func (.func 104) #[] #[pt kb0 0]]) func64 rfl ntmps64 (nb rfl) <| ws <| s_asv (v := .slice none 0 0) rfl <| nx <| s_mvv (v := .func (.func 104) #[] #[pt kb0 0]) rfl ?_
 have S1 := St.rowNil S 3
 have h1 : RepL m [] ([] : List g_merkle_part) := RepL.nil
 replace S1 : St _ ((row 3 (.slice none 0 0) [] ([] : List g_merkle_part).length) :: (bx kb0 [k0v0] 29) :: As) _ := S1
 clear S
 obtain ⟨x1, q1, hm⟩ := obind_some hm
 refine s_call call103 (w_slices_AppendSeq_merkle_part_merkle_part_104 (a0 := ([] : List g_merkle_part)) (k0 := k0) S1 h1 k0h0 q1) rfl ?_
 rintro v1 w1 ⟨m1, l1, _, c1, v2, S2, rfl, h2, h3⟩
 clear S1
 refine s_asv (v := v1) rfl <| wpl_nil <| nrm <| wpc_ret <| outRw fun we hpd => ?_
 replace S2 := St.pd S2 hpd
 have e0 := Option.some.inj hm
 subst e0
 replace L0 := Mem.tr L0 l1
 exact outR [_] rfl ⟨rfl, trivial⟩ ⟨_, L0, _, _, _, S2, rfl, h2, h3⟩
def m_merkle_Root_b4  (i1 : Int) (x9 : g_merkle_part) (s1 : UInt64 × UInt64) : Option (UInt64 × UInt64) :=
  obind (m_hash_Pair x9.root_ s1) fun x10 =>
  some (x10.1, x10.2)
def m_merkle_Root (a0 : List (UInt64 × UInt64)) : Option (UInt64 × UInt64) :=
  obind (m_merkle_parts a0) fun x1 =>
  obind (m_slices_Collect_merkle_part_104 x1) fun x2 =>
  if ((x2.1.length : Int) == 0) = true then
    obind (m_hash_Tagged (⟨#[101, 109, 112, 116, 121]⟩ : ByteArray) ([] : List (List UInt8))) fun x3 =>
    some x3
  else
  obind (m_slices_Reverse_merkle_part_merkle_part x2.1) fun x4 =>
  obind (idx x4 0) fun x5 =>
  obind (
    obind (cut x4 1 (x4.length : Int)) fun x7 =>
    obind (each0 m_merkle_Root_b4 x7 0 (x5.root_.1, x5.root_.2)) fun x8 =>
    some (x8.1, x8.2)
  ) fun x6 =>
  some x6
theorem w_merkle_Root {m : Mem} {As : List Ow} {w : World} {a0 : List (UInt64 × UInt64)} {a0v0 : Value} {r : UInt64 × UInt64} (S : St m (As) w) (a0h0 : SlR m a0v0 a0) (hm : m_merkle_Root a0 = some r) :
    CallsR Tryz.prog 32 #[a0v0] w fun v w' => ∃ (M : Mem), m ≤ M ∧ St M (As) w' ∧ v = .agg #[vU r.1, vU r.2] := by
 unfold m_merkle_Root at hm
 have L0 := Mem.rfl' m
 refine callsR (args := [a0v0]) func32 rfl ntmps32 (nb rfl) <| ws <| s_alloc S zeroValue34 fun b1 w1 S1 => ?_
 replace S1 : St _ ((bx b1 z_api_Sig 34) :: As) _ := S1
 clear S
 refine nx <| s_mvv (v := a0v0) rfl ?_
 obtain ⟨x1, q1, hm⟩ := obind_some hm
 refine s_call call65 (w_merkle_parts (a0 := a0) S1 a0h0 q1) rfl ?_
 rintro _ w2 ⟨m1, l1, b2, v1, S2, rfl, h1⟩
 clear S1
 obtain ⟨x2, q2, hm⟩ := obind_some hm
 refine s_call call64 (w_slices_Collect_merkle_part_104 (k0 := x1) S2 h1 q2) rfl ?_
 rintro v2 w3 ⟨m2, l2, _, c1, v3, S3, rfl, h2, h3⟩
 clear S2
 refine s_asv (v := v2) rfl <| wpl_nil <| nrm <| wpc_seq <| ws <| s_mvv (v := v2) rfl <| s_lenO (i := 0) S3 rfl rfl underlying98 <| s_eql (m := (x2.1.length : Int)) (n := 0) rfl rfl <| wpl_nil <| nrm <| wpc_if (t := ((x2.1.length : Int) == 0)) rfl (fun hc1 => ?_) (fun hc1 => ?_)
 · replace hm := ifT hc1 hm
   refine wpc_seq <| wpc_region ?_
   obtain ⟨x3, q3, hm⟩ := obind_some hm
   refine s_call call57 (v_hash_Tagged (a0 := (⟨#[101, 109, 112, 116, 121]⟩ : ByteArray)) (a1 := ([] : List (List UInt8))) S3 (SlR.nil (a := none) (c := 0)) q3) rfl ?_
   rintro _ w4 ⟨m3, l3, S4, rfl⟩
   clear S3
   refine s_stL (i := 2) S4 rfl rfl rfl sizeOf34 (oneC rfl (oneC rfl oneN)) rfl fun w5 S5 => ?_
   replace S5 : St _ ((row 3 v2 c1 x2.1.length) :: (bx b2 [v3] 29) :: (bx b1 [vU x3.1, vU x3.2] 34) :: As) _ := S5
   clear S4
   refine wpl_nil <| nrm <| wpc_ret <| thR <| outRw fun we hpd => ?_
   replace S5 := St.pd S5 hpd
   have SR := S5
   obtain ⟨m4, l4, S6⟩ := St.drop S5 0
   replace S6 : St _ ((bx b2 [v3] 29) :: (bx b1 [vU x3.1, vU x3.2] 34) :: As) _ := S6
   obtain ⟨m5, l5, S7⟩ := St.drop S6 0
   clear S6
   replace S7 : St _ ((bx b1 [vU x3.1, vU x3.2] 34) :: As) _ := S7
   obtain ⟨m6, l6, S8⟩ := St.drop S7 0
   clear S7
   replace S8 : St _ (As) _ := S8
   have e0 := Option.some.inj hm
   subst e0
   replace L0 := Mem.tr L0 (mt l1 (mt l2 (mt l3 (mt l4 (mt l5 l6)))))
   exact outR [_] rfl ⟨res_box (i := 2) (off := 0) (cs := [vU x3.1, vU x3.2]) SR rfl rfl isAgg34 sizeOf34 rfl (fun h => by cases h), trivial⟩ ⟨_, L0, S8, rfl⟩
 replace hm := ifF hc1 hm
 refine wpc_skip <| nrm <| ws <| s_mvv (v := v2) rfl ?_
 obtain ⟨x4, q4, hm⟩ := obind_some hm
 refine s_call call66 (w_slices_Reverse_merkle_part_merkle_part (a0 := x2.1) S3 h2 q4) rfl ?_
 rintro _ w6 ⟨m7, l7, c2, S9, rfl, h4⟩
 clear S3
 refine nx <| s_mvv (v := v2) rfl ?_
 obtain ⟨x5, q5, hm⟩ := obind_some hm
 refine s_idxO (i := 0) (j := 0) S9 rfl rfl rfl (idx_rng q5).1 (idx_rng q5).2 underlying98 sizeOf101 fun p1 h5 => s_fldO (n := 1) rfl h5 underlying101 rfl rfl sizeOf34 fun p2 h6 => ?_
 have e1 := rep_g_merkle_part (RepL.getI h4 q5)
 refine s_ldO (i := 0) (off := (0 : Int).toNat * 3 + 1) (d := [vU x5.root_.1, vU x5.root_.2]) S9 rfl h6 rfl (drop_sub e1 rfl (nb rfl)) isAgg34 sizeOf34 (fun h => by cases h) <| s_alloc S9 zeroValue34 fun b3 w7 S10 => s_stL (i := 0) S10 rfl rfl rfl sizeOf34 (oneC rfl (oneC rfl oneN)) rfl fun w8 S11 => ?_
 replace S11 : St _ ((bx b3 [vU x5.root_.1, vU x5.root_.2] 34) :: (row 3 v2 c2 x4.length) :: (bx b2 [v3] 29) :: (bx b1 z_api_Sig 34) :: As) _ := S11
 clear S9 S10
 refine wpl_nil <| nrm ?_
 obtain ⟨x6, q6, hm⟩ := obind_some hm
 have L1 := Mem.rfl' m7
 refine wpc_seq <| wpc_join [6, 20, 21, 22, 23, 24, 25, 26, 27, 28, 29, 30, 31] (fun f' w' => ∃ (M1 : Mem), m7 ≤ M1 ∧ St M1 ((bx b3 [vU x6.1, vU x6.2] 34) :: (bx b2 [v3] 29) :: (bx b1 z_api_Sig 34) :: As) w' ∧ AllAt f' []) ?_ ?_
 · refine ws <| s_mvv (v := v2) rfl ?_
   obtain ⟨m8, l8, h7, S12⟩ := St.rowKeepT (i := 1) S11 rfl h4 rfl
   clear S11
   obtain ⟨x7, q7, q6⟩ := obind_some q6
   refine s_cut (ys := x7) (l := 1) (h := (x4.length : Int)) rfl h7 underlying98 sizeOf101 (.inr ⟨_, rfl⟩) (.inl ⟨rfl, rfl⟩) (.inl rfl) q7 fun v4 h8 => s_lenR (xs := x7) rfl h8 underlying98 <| s_mvv (v := vI 0) rfl <| wpl_nil <| nrm ?_
   obtain ⟨x8, q8, q6⟩ := obind_some q6
   have L2 := Mem.rfl' m8
   refine wpc_join [6, 23, 24, 25, 26, 27, 28, 29, 30, 31] (fun f' w' => ∃ (M2 : Mem), m8 ≤ M2 ∧ St M2 ((bx b3 [vU x8.1, vU x8.2] 34) :: (bx b2 [v3] 29) :: (bx b1 z_api_Sig 34) :: As) w' ∧ AllAt f' []) ?_ ?_
   · refine wpc_block <| wpc_rounds [6, 23, 24, 25, 26, 27, 28, 29, 30, 31] (fun n1 f' w' => ∃ (i1 : Nat) (s1 : UInt64 × UInt64) (m12 : Mem), n1 = x7.length - i1 ∧ i1 ≤ x7.length ∧ each0 m_merkle_Root_b4 (x7.drop i1) (i1 : Int) s1 = some x8 ∧ m8 ≤ m12 ∧ St m12 ((bx b3 [vU s1.1, vU s1.2] 34) :: (bx b2 [v3] 29) :: (bx b1 z_api_Sig 34) :: As) w' ∧ AllAt f' [(23, vI (i1 : Int))]) x7.length ⟨0, (x5.root_.1, x5.root_.2), m8, rfl, Nat.zero_le _, q8, L2, S12, ⟨rfl, trivial⟩⟩ ?_
     rintro n1 f1 w9 ho ⟨i1, s1, m9, hn, hi, q9, L4, S13, ha⟩
     obtain ⟨u1, rfl⟩ := fr_of (N := 33) ho ha
     clear ho ha
     have L3 := Mem.rfl' m9
     clear S12
     refine ws <| s_lss (m := (i1 : Int)) (n := (x7.length : Int)) rfl rfl <| wpl_nil <| nrm <| wpc_seq <| wpc_if (t := decide ((i1 : Int) < (x7.length : Int))) rfl (fun hc2 => ?_) (fun hc2 => ?_)
     · have hlt1 : i1 < x7.length := by have := of_decide_eq_true hc2; omega
       obtain ⟨x9, y1, q12, q11, q10⟩ := each0_in q9 hlt1
       unfold m_merkle_Root_b4 at q11
       refine wpc_skip <| nrm <| wpc_seq <| wpc_block <| ws <| s_idx (q := x9) rfl rfl (h8.up L4) q12 underlying98 sizeOf101 fun p3 c3 h9 r2 => ?_
       obtain rfl := rep_g_merkle_part r2
       refine s_ldM (cs := (c_merkle_part x9)) S13 rfl h9 rfl isAgg101 sizeOf101 (fun h => by cases h) <| s_alloc S13 zeroValue101 fun b5 w10 S14 => s_stL (i := 0) S14 rfl rfl rfl sizeOf101 (oneC rfl (oneC rfl (oneC rfl oneN))) rfl fun w11 S15 => ?_
       replace S15 : St _ ((bx b5 (c_merkle_part x9) 101) :: (bx b3 [vU s1.1, vU s1.2] 34) :: (bx b2 [v3] 29) :: (bx b1 z_api_Sig 34) :: As) _ := S15
       clear S13 S14
       refine wpl_nil <| nrm <| wpc_region <| s_fld (n := 1) rfl underlying101 rfl rfl sizeOf34 <| s_ld (i := 0) (cs := [vU x9.root_.1, vU x9.root_.2]) S15 rfl rfl isAgg34 sizeOf34 rfl (fun h => by cases h) <| s_ld (i := 1) (cs := [vU s1.1, vU s1.2]) S15 rfl rfl isAgg34 sizeOf34 rfl (fun h => by cases h) ?_
       obtain ⟨x10, q13, q11⟩ := obind_some q11
       refine s_call call67 (v_hash_Pair (a0 := x9.root_) (a1 := s1) S15  q13) rfl ?_
       rintro _ w12 ⟨m10, l9, S16, rfl⟩
       clear S15
       refine s_stL (i := 1) S16 rfl rfl rfl sizeOf34 (oneC rfl (oneC rfl oneN)) rfl fun w13 S17 => ?_
       replace S17 : St _ ((bx b5 (c_merkle_part x9) 101) :: (bx b3 [vU x10.1, vU x10.2] 34) :: (bx b2 [v3] 29) :: (bx b1 z_api_Sig 34) :: As) _ := S17
       clear S16
       refine wpl_nil <| nrmB <| nrm <| wpc_region <| s_addI (m := (i1 : Int)) (n := 1) rfl rfl <| s_mvv (v := vI (w64 ((i1 : Int) + 1))) rfl <| wpl_nil <| nrm ?_
       obtain ⟨m11, l10, S18⟩ := St.drop S17 0
       clear S17
       replace S18 : St _ ((bx b3 [vU x10.1, vU x10.2] 34) :: (bx b2 [v3] 29) :: (bx b1 z_api_Sig 34) :: As) _ := S18
       have e0 := Option.some.inj q11
       subst e0
       replace h8 := h8.up (mt L4 (mt l9 l10))
       replace L3 := Mem.tr L3 (mt l9 l10)
       exact ⟨outP, _, (by omega), ⟨i1 + 1, (x10.1, x10.2), m11, rfl, hlt1, q10, Mem.tr L4 L3, S18, ⟨congrArg (Value.int .i64) (w64_succ hlt1 (SlR.le h8)), trivial⟩⟩⟩
     have hlt1 : ¬ i1 < x7.length := by have := of_decide_eq_false hc2; omega
     have e := Eq.symm (each0_out q9 hlt1)
     subst e
     exact wpc_exit <| thE <| thE <| exB <| nrm <| ⟨outP, m9, Mem.tr L4 L3, S13, trivial⟩
   rintro f2 w14 ho ⟨m13, l11, S19, ha⟩
   obtain ⟨u2, rfl⟩ := fr_of (N := 33) ho ha
   clear ho ha S12
   have e0 := Option.some.inj q6
   subst e0
   replace L1 := Mem.tr L1 (mt l8 l11)
   exact ⟨outP, m13, L1, S19, trivial⟩
 rintro f3 w15 ho ⟨m14, l12, S20, ha⟩
 obtain ⟨u3, rfl⟩ := fr_of (N := 33) ho ha
 clear S11
 refine ws <| s_ld (i := 0) (cs := [vU x6.1, vU x6.2]) S20 rfl rfl isAgg34 sizeOf34 rfl (fun h => by cases h) <| s_stL (i := 2) S20 rfl rfl rfl sizeOf34 (oneC rfl (oneC rfl oneN)) rfl fun w16 S21 => ?_
 replace S21 : St _ ((bx b3 [vU x6.1, vU x6.2] 34) :: (bx b2 [v3] 29) :: (bx b1 [vU x6.1, vU x6.2] 34) :: As) _ := S21
 clear S20
 refine wpl_nil <| nrm <| wpc_ret <| outRw fun we hpd => ?_
 replace S21 := St.pd S21 hpd
 have SR := S21
 obtain ⟨m15, l13, S22⟩ := St.drop S21 0
 replace S22 : St _ ((bx b2 [v3] 29) :: (bx b1 [vU x6.1, vU x6.2] 34) :: As) _ := S22
 obtain ⟨m16, l14, S23⟩ := St.drop S22 0
 clear S22
 replace S23 : St _ ((bx b1 [vU x6.1, vU x6.2] 34) :: As) _ := S23
 obtain ⟨m17, l15, S24⟩ := St.drop S23 0
 clear S23
 replace S24 : St _ (As) _ := S24
 have e0 := Option.some.inj hm
 subst e0
 replace L0 := Mem.tr L0 (mt l1 (mt l2 (mt l7 (mt l12 (mt l13 (mt l14 l15))))))
 exact outR [_] rfl ⟨res_box (i := 2) (off := 0) (cs := [vU x6.1, vU x6.2]) SR rfl rfl isAgg34 sizeOf34 rfl (fun h => by cases h), trivial⟩ ⟨_, L0, S24, rfl⟩
theorem s_merkle_Root {a0 : List (UInt64 × UInt64)} {r : UInt64 × UInt64} (hm : m_merkle_Root a0 = some r) : Sf prog 32 [sl e_a2_eU a0] (ag (e_a2_eU r)) :=
  ⟨call32, fun η m As w vs hv0 hd S => by
    have S : St m As w := S
    obtain ⟨v0, u0, rfl, r0, hv1⟩ := RelL.cons_inv hv0
    have f0 := Br.ofS b_a2_eU r0.dd
    obtain rfl := RelL.nil_inv hv1
    refine CallsR.mono (w_merkle_Root S f0 hm) ?_
    rintro v w' ⟨M, hle, S0, rfl⟩
    exact ⟨M, none0, _, _, _, hle, dom0 hd _, ⟨rfl, rfl, rfl⟩, fun n h => absurd rfl h, (Br.toA b_a2_eU (mk_arr2_UInt64)), S0⟩⟩
def m_bits_LeadingZeros64 (a0 : UInt64) : Option Int :=
  obind (m_bits_Len64 a0) fun x1 =>
  some (w64 (64 - x1))
theorem w_bits_LeadingZeros64 {a0 : UInt64} {r : Int} (hm : m_bits_LeadingZeros64 a0 = some r) : Sf prog 145 [.d (.u a0)] (.d (.i r)) :=
  sp call145 func145 rfl ntmps145 rfl fun D0 As η0 m0 hd => by
    unfold m_bits_LeadingZeros64 at hm
    obtain ⟨x1, q1, hm⟩ := obind_some hm
    refine gc (fun _ => w_bits_Len64 q1) (by kernel_rfl) ?_
    have e0 := Option.some.inj hm
    subst e0
    exact gend hd (by kernel_rfl)
def m_bits_Div64_b1 (x4 : UInt64) (x5 : UInt64) (x7 : UInt64) (s1 : UInt64 × UInt64) : Option ((UInt64 × UInt64) ⊕ (UInt64)) :=
  if ((decide ((s1.1.toNat : Int) ≥ 4294967296)) || (decide (((s1.1 * x5).toNat : Int) > (((4294967296 * s1.2) + x7).toNat : Int)))) = true then
    if (decide (((s1.2 + x4).toNat : Int) ≥ 4294967296)) = true then
      some (.inr (s1.1 - 1))
    else
    some (.inl ((s1.1 - 1), (s1.2 + x4)))
  else
  some (.inr s1.1)
def m_bits_Div64_b2 (x4 : UInt64) (x5 : UInt64) (x8 : UInt64) (s2 : UInt64 × UInt64) : Option ((UInt64 × UInt64) ⊕ (UInt64)) :=
  if ((decide ((s2.2.toNat : Int) ≥ 4294967296)) || (decide (((s2.2 * x5).toNat : Int) > (((4294967296 * s2.1) + x8).toNat : Int)))) = true then
    if (decide (((s2.1 + x4).toNat : Int) ≥ 4294967296)) = true then
      some (.inr (s2.2 - 1))
    else
    some (.inl ((s2.1 + x4), (s2.2 - 1)))
  else
  some (.inr s2.2)
def m_bits_Div64 (a0 : UInt64) (a1 : UInt64) (a2 : UInt64) : Option (UInt64 × UInt64) :=
  obind (
    if ((a2.toNat : Int) == 0) = true then
      none
    else
    some ()
  ) fun x1 =>
  obind (
    if (decide ((a2.toNat : Int) ≤ (a0.toNat : Int))) = true then
      none
    else
    some ()
  ) fun x2 =>
  if ((a0.toNat : Int) == 0) = true then
    if a2 ≠ 0 then
      if a2 ≠ 0 then
        some ((a1 / a2), (a1 % a2))
      else none
    else none
  else
  obind (m_bits_LeadingZeros64 a2) fun x3 =>
  bnd ((shrU (shlU a2 ((toU x3).toNat)) 32)) fun x4 =>
  bnd (((shlU a2 ((toU x3).toNat)) &&& 4294967295)) fun x5 =>
  bnd (((shlU a0 ((toU x3).toNat)) ||| (shrU a1 ((64 - (toU x3)).toNat)))) fun x6 =>
  bnd ((shrU (shlU a1 ((toU x3).toNat)) 32)) fun x7 =>
  bnd (((shlU a1 ((toU x3).toNat)) &&& 4294967295)) fun x8 =>
  if x4 ≠ 0 then
    obind (
      obind (iter (m_bits_Div64_b1 x4 x5 x7) FUEL ((x6 / x4), (x6 - ((x6 / x4) * x4)))) fun x10 =>
      some x10
    ) fun x9 =>
    bnd ((((x6 * 4294967296) + x7) - (x9 * (shlU a2 ((toU x3).toNat))))) fun x12 =>
    if x4 ≠ 0 then
      obind (
        obind (iter (m_bits_Div64_b2 x4 x5 x8) FUEL ((x12 - ((x12 / x4) * x4)), (x12 / x4))) fun x14 =>
        some x14
      ) fun x13 =>
      bnd ((shrU (((x12 * 4294967296) + x8) - (x13 * (shlU a2 ((toU x3).toNat)))) ((toU x3).toNat))) fun x16 =>
      some (((x9 * 4294967296) + x13), x16)
    else none
  else none
theorem w_bits_Div64 {a0 : UInt64} {a1 : UInt64} {a2 : UInt64} {r : UInt64 × UInt64} (hm : m_bits_Div64 a0 a1 a2 = some r) : Sf prog 133 [.d (.u a0), .d (.u a1), .d (.u a2)] (.tup [.d (.u r.1), .d (.u r.2)]) :=
  sp call133 func133 rfl ntmps133 rfl fun D0 As η0 m0 hd => by
    unfold m_bits_Div64 at hm
    obtain ⟨x1, q1, hm⟩ := obind_some hm
    refine gj (fun (_ : Unit) => ⟨[(0, .d (.u a0)), (1, .d (.u a1)), (2, .d (.u a2))], [], [], 0⟩) (fun _ => True) (by kernel_rfl) (fun Jp bk1 => ?_) fun _ _ => ?_
    · refine gi q1 (by kernel_rfl) (fun hc1 q1 => ?_) fun hc1 q1 => ?_
      · cases q1
      have e0 := Option.some.inj q1
      subst e0
      exact gb bk1 hd () trivial (by kernel_rfl)
    obtain ⟨x2, q2, hm⟩ := obind_some hm
    refine gj (fun (_ : Unit) => ⟨[(0, .d (.u a0)), (1, .d (.u a1)), (2, .d (.u a2))], [], [], 0⟩) (fun _ => True) (by kernel_rfl) (fun Jp bk2 => ?_) fun _ _ => ?_
    · refine gi q2 (by kernel_rfl) (fun hc2 q2 => ?_) fun hc2 q2 => ?_
      · cases q2
      have e0 := Option.some.inj q2
      subst e0
      exact gb bk2 hd () trivial (by kernel_rfl)
    refine gi hm (by kernel_rfl) (fun hc3 hm => ?_) fun hc3 hm => ?_
    · skip
      obtain ⟨q3, hm⟩ := if_some hm
      refine gquo (d := .u a2) (r := .u (a1 / a2)) (fun h => q3) (by kernel_rfl) ?_
      obtain ⟨q4, hm⟩ := if_some hm
      refine gquo (d := .u a2) (r := .u (a1 % a2)) (fun h => q4) (by kernel_rfl) ?_
      have e0 := Option.some.inj hm
      subst e0
      exact gend hd (by kernel_rfl)
    obtain ⟨x3, q5, hm⟩ := obind_some hm
    refine gc (fun _ => w_bits_LeadingZeros64 q5) (by kernel_rfl) ?_
    have hm := bnd_is hm
    let x4 : UInt64 := ((shrU (shlU a2 ((toU x3).toNat)) 32))
    have hm := bnd_is hm
    let x5 : UInt64 := (((shlU a2 ((toU x3).toNat)) &&& 4294967295))
    have hm := bnd_is hm
    let x6 : UInt64 := (((shlU a0 ((toU x3).toNat)) ||| (shrU a1 ((64 - (toU x3)).toNat))))
    have hm := bnd_is hm
    let x7 : UInt64 := ((shrU (shlU a1 ((toU x3).toNat)) 32))
    have hm := bnd_is hm
    let x8 : UInt64 := (((shlU a1 ((toU x3).toNat)) &&& 4294967295))
    obtain ⟨q11, hm⟩ := if_some hm
    refine gquo (d := .u x4) (r := .u (x6 / x4)) (fun h => q11) (by kernel_rfl) ?_
    obtain ⟨x9, q12, hm⟩ := obind_some hm
    obtain ⟨x10, q13, q12⟩ := obind_some q12
    refine gjU 0 (fun (_ : Unit) => ⟨[(2, .d (.u (shlU a2 ((toU x3).toNat)))), (8, .d (.u (toU x3))), (9, .d (.u x4)), (10, .d (.u x5)), (11, .d (.u x6)), (13, .d (.u x7)), (14, .d (.u x8)), (15, .d (.u x9))], [], [], 0⟩) (fun _ => True) (by kernel_rfl) (fun Jp bk3 => ?_) fun _ _ => ?_
    · refine gjU 0 (fun (_ : Unit) => ⟨[(2, .d (.u (shlU a2 ((toU x3).toNat)))), (8, .d (.u (toU x3))), (9, .d (.u x4)), (10, .d (.u x5)), (11, .d (.u x6)), (13, .d (.u x7)), (14, .d (.u x8)), (15, .d (.u x10))], [], [], 0⟩) (fun _ => True) (by kernel_rfl) (fun Jp bk4 => ?_) fun _ _ => ?_
      · refine gl hd (fun (p : Nat × (UInt64 × UInt64)) => let (p0, p_0, p_1) := p; ⟨[(2, .d (.u (shlU a2 ((toU x3).toNat)))), (8, .d (.u (toU x3))), (9, .d (.u x4)), (10, .d (.u x5)), (11, .d (.u x6)), (13, .d (.u x7)), (14, .d (.u x8)), (15, .d (.u p_0)), (16, .d (.u p_1))], [], [], 0⟩) (fun p => iter (m_bits_Div64_b1 x4 x5 x7) p.1 p.2 = some x10) (fun p => p.1) (FUEL, ((x6 / x4), (x6 - ((x6 / x4) * x4)))) q13 (by kernel_rfl) ?_
        rintro ⟨n1, s1⟩ q14 Jl bl1
        cases n1 with
        | zero => exact (iter_zero q14).elim
        | succ n1 =>
          obtain ⟨y1, q16, q15⟩ := iter_succ q14
          unfold m_bits_Div64_b1 at q16
          refine gi q16 (by kernel_rfl) (fun hc4 q16 => ?_) fun hc4 q16 => ?_
          · skip
            refine gi q16 (by kernel_rfl) (fun hc5 q16 => ?_) fun hc5 q16 => ?_
            · skip
              have e0 := Option.some.inj q16
              subst e0
              rcases q15 with ⟨sn, e, _⟩ | e
              · cases sum_rl e
              have e := Sum.inr.inj e
              subst e
              exact gb bk4 hd () trivial (by kernel_rfl)
            have e0 := Option.some.inj q16
            subst e0
            rcases q15 with ⟨sn, e, q15'⟩ | e
            · have e := Sum.inl.inj e
              subst e
              exact gb bl1 hd (n1, _) ⟨q15', Nat.lt_succ_self _⟩ (by kernel_rfl)
            cases sum_lr e
          have e0 := Option.some.inj q16
          subst e0
          rcases q15 with ⟨sn, e, _⟩ | e
          · cases sum_rl e
          have e := Sum.inr.inj e
          subst e
          exact gb bk4 hd () trivial (by kernel_rfl)
      have e0 := Option.some.inj q12
      subst e0
      exact gb bk3 hd () trivial (by kernel_rfl)
    have hm := bnd_is hm
    let x12 : UInt64 := ((((x6 * 4294967296) + x7) - (x9 * (shlU a2 ((toU x3).toNat)))))
    obtain ⟨q19, hm⟩ := if_some hm
    refine gquo (d := .u x4) (r := .u (x12 / x4)) (fun h => q19) (by kernel_rfl) ?_
    obtain ⟨x13, q20, hm⟩ := obind_some hm
    obtain ⟨x14, q21, q20⟩ := obind_some q20
    refine gjU 2 (fun (_ : Unit) => ⟨[(2, .d (.u (shlU a2 ((toU x3).toNat)))), (8, .d (.u (toU x3))), (14, .d (.u x8)), (15, .d (.u x9)), (17, .d (.u x12)), (18, .d (.u x13))], [], [], 0⟩) (fun _ => True) (by kernel_rfl) (fun Jp bk5 => ?_) fun _ _ => ?_
    · refine gjU 2 (fun (_ : Unit) => ⟨[(2, .d (.u (shlU a2 ((toU x3).toNat)))), (8, .d (.u (toU x3))), (14, .d (.u x8)), (15, .d (.u x9)), (17, .d (.u x12)), (18, .d (.u x14))], [], [], 0⟩) (fun _ => True) (by kernel_rfl) (fun Jp bk6 => ?_) fun _ _ => ?_
      · refine gl hd (fun (p : Nat × (UInt64 × UInt64)) => let (p0, p_0, p_1) := p; ⟨[(2, .d (.u (shlU a2 ((toU x3).toNat)))), (8, .d (.u (toU x3))), (9, .d (.u x4)), (10, .d (.u x5)), (14, .d (.u x8)), (15, .d (.u x9)), (16, .d (.u p_0)), (17, .d (.u x12)), (18, .d (.u p_1))], [], [], 0⟩) (fun p => iter (m_bits_Div64_b2 x4 x5 x8) p.1 p.2 = some x14) (fun p => p.1) (FUEL, ((x12 - ((x12 / x4) * x4)), (x12 / x4))) q21 (by kernel_rfl) ?_
        rintro ⟨n2, s2⟩ q22 Jl bl2
        cases n2 with
        | zero => exact (iter_zero q22).elim
        | succ n2 =>
          obtain ⟨y2, q24, q23⟩ := iter_succ q22
          unfold m_bits_Div64_b2 at q24
          refine gi q24 (by kernel_rfl) (fun hc6 q24 => ?_) fun hc6 q24 => ?_
          · skip
            refine gi q24 (by kernel_rfl) (fun hc7 q24 => ?_) fun hc7 q24 => ?_
            · skip
              have e0 := Option.some.inj q24
              subst e0
              rcases q23 with ⟨sn, e, _⟩ | e
              · cases sum_rl e
              have e := Sum.inr.inj e
              subst e
              exact gb bk6 hd () trivial (by kernel_rfl)
            have e0 := Option.some.inj q24
            subst e0
            rcases q23 with ⟨sn, e, q23'⟩ | e
            · have e := Sum.inl.inj e
              subst e
              exact gb bl2 hd (n2, _) ⟨q23', Nat.lt_succ_self _⟩ (by kernel_rfl)
            cases sum_lr e
          have e0 := Option.some.inj q24
          subst e0
          rcases q23 with ⟨sn, e, _⟩ | e
          · cases sum_rl e
          have e := Sum.inr.inj e
          subst e
          exact gb bk6 hd () trivial (by kernel_rfl)
      have e0 := Option.some.inj q20
      subst e0
      exact gb bk5 hd () trivial (by kernel_rfl)
    have hm := bnd_is hm
    let x16 : UInt64 := ((shrU (((x12 * 4294967296) + x8) - (x13 * (shlU a2 ((toU x3).toNat)))) ((toU x3).toNat)))
    have e0 := Option.some.inj hm
    subst e0
    exact gend hd (by kernel_rfl)
def m_bits_Rem64 (a0 : UInt64) (a1 : UInt64) (a2 : UInt64) : Option UInt64 :=
  if a2 ≠ 0 then
    obind (m_bits_Div64 (a0 % a2) a1 a2) fun x1 =>
    some x1.2
  else none
theorem w_bits_Rem64 {a0 : UInt64} {a1 : UInt64} {a2 : UInt64} {r : UInt64} (hm : m_bits_Rem64 a0 a1 a2 = some r) : Sf prog 135 [.d (.u a0), .d (.u a1), .d (.u a2)] (.d (.u r)) :=
  sp call135 func135 rfl ntmps135 rfl fun D0 As η0 m0 hd => by
    unfold m_bits_Rem64 at hm
    obtain ⟨q1, hm⟩ := if_some hm
    refine gquo (d := .u a2) (r := .u (a0 % a2)) (fun h => q1) (by kernel_rfl) ?_
    obtain ⟨x1, q2, hm⟩ := obind_some hm
    refine gc (fun _ => w_bits_Div64 q2) (by kernel_rfl) ?_
    have e0 := Option.some.inj hm
    subst e0
    exact gend hd (by kernel_rfl)
theorem v_bits_Rem64 {m : Mem} {As : List Ow} {w : World} {a0 : UInt64} {a1 : UInt64} {a2 : UInt64} {r : UInt64} (S : St m As w) (hm : m_bits_Rem64 a0 a1 a2 = some r) :
    CallsR prog 135 #[vU a0, vU a1, vU a2] w fun v w' => ∃ (M : Mem), m ≤ M ∧ St M (As) w' ∧ v = vU r := by
  refine CallsR.mono ((w_bits_Rem64 hm).2 none0 m As w [vU a0, vU a1, vU a2] (.cons (.d (.u _)) (.cons (.d (.u _)) (.cons (.d (.u _)) .nil))) (fun n h => absurd rfl h) S) ?_
  rintro v w' ⟨M, η', r', obs', n1, hle, _, ⟨rfl, rfl, rfl⟩, hdom, hR, S'⟩
  obtain rfl := hR.u_inv
  exact ⟨M, hle, S', rfl⟩
def m_cyclic_ring_mul (a0 : UInt64) (a1 : UInt64) (a2 : UInt64) : Option UInt64 :=
  obind (m_bits_Mul64 a1 a2) fun x1 =>
  obind (m_bits_Rem64 x1.1 x1.2 a0) fun x2 =>
  some x2
theorem w_cyclic_ring_mul {m : Mem} {As : List Ow} {w : World} {a0 : UInt64} {a1 : UInt64} {a2 : UInt64} {r : UInt64} (S : St m (As) w) (hm : m_cyclic_ring_mul a0 a1 a2 = some r) :
    CallsR Tryz.prog 110 #[vU a0, vU a1, vU a2] w fun v w' => ∃ (M : Mem), m ≤ M ∧ St M (As) w' ∧ v = vU r := by
 unfold m_cyclic_ring_mul at hm
 have L0 := Mem.rfl' m
 refine callsR (args := [vU a0, vU a1, vU a2]) func110 rfl ntmps110 (nb rfl) <| ws <| s_asv (v := vU 0) rfl <| nx <| s_mvv (v := vU a1) rfl <| s_mvv (v := vU a2) rfl ?_
 obtain ⟨x1, q1, hm⟩ := obind_some hm
 refine s_call call131 (v_bits_Mul64 (a0 := a1) (a1 := a2) S  q1) rfl ?_
 rintro _ w1 ⟨m1, l1, S1, rfl⟩
 clear S
 refine s_mvv (v := .tuple #[vU x1.1, vU x1.2]) rfl <| s_ext (i := 0) rfl rfl <| s_ext (i := 1) rfl rfl <| s_asv (v := vU x1.1) rfl <| s_asv (v := vU x1.2) rfl <| nx <| s_mvv (v := vU x1.1) rfl <| s_mvv (v := vU x1.2) rfl <| s_mvv (v := vU a0) rfl ?_
 obtain ⟨x2, q2, hm⟩ := obind_some hm
 refine s_call call135 (v_bits_Rem64 (a0 := x1.1) (a1 := x1.2) (a2 := a0) S1  q2) rfl ?_
 rintro _ w2 ⟨m2, l2, S2, rfl⟩
 clear S1
 refine s_asv (v := vU x2) rfl <| wpl_nil <| nrm <| wpc_ret <| outRw fun we hpd => ?_
 replace S2 := St.pd S2 hpd
 have e0 := Option.some.inj hm
 subst e0
 replace L0 := Mem.tr L0 (mt l1 l2)
 exact outR [_] rfl ⟨rfl, trivial⟩ ⟨_, L0, S2, rfl⟩
theorem s_cyclic_ring_mul {a0 : UInt64} {a1 : UInt64} {a2 : UInt64} {r : UInt64} (hm : m_cyclic_ring_mul a0 a1 a2 = some r) : Sf prog 110 [.d (.u a0), .d (.u a1), .d (.u a2)] (.d (.u r)) :=
  ⟨call110, fun η m As w vs hv0 hd S => by
    have S : St m As w := S
    obtain ⟨v0, u0, rfl, r0, hv1⟩ := RelL.cons_inv hv0
    obtain rfl := r0.u_inv
    obtain ⟨v1, u1, rfl, r1, hv2⟩ := RelL.cons_inv hv1
    obtain rfl := r1.u_inv
    obtain ⟨v2, u2, rfl, r2, hv3⟩ := RelL.cons_inv hv2
    obtain rfl := r2.u_inv
    obtain rfl := RelL.nil_inv hv3
    refine CallsR.mono (w_cyclic_ring_mul S  hm) ?_
    rintro v w' ⟨M, hle, S0, rfl⟩
    exact ⟨M, none0, _, _, _, hle, dom0 hd _, ⟨rfl, rfl, rfl⟩, fun n h => absurd rfl h, (.d (.u _)), S0⟩⟩
def m_cyclic_places_1_b1 {σ : Type} (p0 : σ → Bool → Option (Bool × σ)) (k0 : UInt64) (s1 : Int × σ) : Option ((Int × σ) ⊕ ((σ) ⊕ (UInt64 × σ))) :=
  if (decide (s1.1 ≥ 0)) = true then
    if (0 : Int) ≤ s1.1 then
      obind (p0 s1.2 (((k0 &&& (shlU 1 s1.1.toNat)).toNat : Int) != 0)) fun x4 =>
      if (!x4.1) = true then
        some (.inr (.inr (k0, x4.2)))
      else
      some (.inl ((w64 (s1.1 - 1)), x4.2))
    else none
  else
  some (.inr (.inl s1.2))
end Go.Proofs.YtojlmhmiknocmaaGreat
