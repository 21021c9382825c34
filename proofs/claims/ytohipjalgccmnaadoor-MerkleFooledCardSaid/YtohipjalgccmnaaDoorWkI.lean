/- The walks of some functions, written by program. Conditions: none. -/
import Derived.Test.YtohipjalgccmnaaDoorWkM
set_option maxHeartbeats 20000000
set_option maxRecDepth 100000
set_option linter.unusedVariables false
set_option linter.unusedSimpArgs false
namespace Go.Proofs.YtohipjalgccmnaaDoor
open Go Go.Gw

def r_law08_fooled : Nat → (List (UInt64 × UInt64)) → (UInt64 × UInt64) → Int → (List (UInt64 × UInt64)) → Option ((UInt64 × UInt64) × Bool)
  | 0, _, _, _, _ => none
  | n + 1, a0, a1, a2, a3 =>
    if ((decide ((a0.length : Int) < 2)) || ((a3.length : Int) == 0)) = true then
      some (a1, false)
    else
    obind (m_law08_first (a0.length : Int)) fun x1 =>
    bnd ((w64 ((a3.length : Int) - 1))) fun x2 =>
    obind (cut a0 0 x1) fun x3 =>
    obind (m_merkle_Root x3) fun x4 =>
    obind (cut a0 x1 (a0.length : Int)) fun x5 =>
    obind (m_merkle_Root x5) fun x6 =>
    if (decide (a2 < x1)) = true then
      obind (cut a0 0 x1) fun x7 =>
      obind (cut a3 0 x2) fun x8 =>
      obind (r_law08_fooled n x7 a1 a2 x8) fun x9 =>
      obind (idx a3 x2) fun x10 =>
      obind (m_hash_Pair x9.1 x10) fun x11 =>
      obind (gu (!x9.2) (idx a3 x2)) fun x12 =>
      obind (gu (!x9.2) (m_law08_unlike x9.1 x12 x4 x6)) fun x13 =>
      some (x11, (x9.2 || x13))
    else
    obind (cut a0 x1 (a0.length : Int)) fun x14 =>
    obind (cut a3 0 x2) fun x15 =>
    obind (r_law08_fooled n x14 a1 (w64 (a2 - x1)) x15) fun x16 =>
    obind (idx a3 x2) fun x17 =>
    obind (m_hash_Pair x17 x16.1) fun x18 =>
    obind (gu (!x16.2) (idx a3 x2)) fun x19 =>
    obind (gu (!x16.2) (m_law08_unlike x19 x16.1 x4 x6)) fun x20 =>
    some (x18, (x16.2 || x20))

def m_law08_fooled (a0 : List (UInt64 × UInt64)) (a1 : UInt64 × UInt64) (a2 : Int) (a3 : List (UInt64 × UInt64)) : Option ((UInt64 × UInt64) × Bool) := r_law08_fooled FUEL a0 a1 a2 a3

theorem wr_law08_fooled (n : Nat) : ∀ {m : Mem} {As : List Ow} {w : World} {a0 : List (UInt64 × UInt64)} {a0v0 : Value} {a1 : UInt64 × UInt64} {a2 : Int} {a3 : List (UInt64 × UInt64)} {a3v0 : Value} {r : (UInt64 × UInt64) × Bool} (S : St m (As) w) (a0h0 : SlR m a0v0 a0) (a3h0 : SlR m a3v0 a3) (hm : r_law08_fooled n a0 a1 a2 a3 = some r),
    CallsR Tryd.prog 27 #[a0v0, .agg #[vU a1.1, vU a1.2], vI a2, a3v0] w fun v w' => ∃ (M : Mem), m ≤ M ∧ St M (As) w' ∧ v = .tuple #[.agg #[vU r.1.1, vU r.1.2], vb r.2] := by
  induction n with
  | zero => intro m As w a0 a0v0 a1 a2 a3 a3v0 r S a0h0 a3h0 hm; cases hm
  | succ n ih =>
    intro m As w a0 a0v0 a1 a2 a3 a3v0 r S a0h0 a3h0 hm
    unfold r_law08_fooled at hm
    have L0 := Mem.rfl' m
    refine callsR (args := [a0v0, .agg #[vU a1.1, vU a1.2], vI a2, a3v0]) Tryd.func27 rfl Tryd.ntmps27 (Nat.le_of_ble_eq_true rfl) ?_
    refine wpc_seq ?_
    refine wpc_region ?_
    refine s_box S rfl ?_
    intro b1 w1 S1
    replace S1 : St _ ((bx b1 [vU a1.1, vU a1.2] 27) :: As) _ := S1
    clear S
    refine s_alloc S1 Tryd.zeroValue27 ?_
    intro b2 w2 S2
    replace S2 : St _ ((bx b2 [vU 0, vU 0] 27) :: (bx b1 [vU a1.1, vU a1.2] 27) :: As) _ := S2
    clear S1
    refine s_asv (v := vb false) rfl ?_
    refine wpl_nil ?_
    refine nrm ?_
    refine wpc_seq ?_
    refine wpc_seq ?_
    refine wpc_region ?_
    refine s_mvv (v := a0v0) rfl ?_
    refine s_lenR (xs := a0) rfl a0h0 Tryd.underlying22 ?_
    refine s_lss (m := (a0.length : Int)) (n := 2) rfl rfl ?_
    refine s_mvv (v := vb (decide ((a0.length : Int) < 2))) rfl ?_
    refine wpl_cut 4 [22, 23, 24, 25] (fun f' w' => w' = w2 ∧ AllAt f' [(25, vb ((decide ((a0.length : Int) < 2)) || ((a3.length : Int) == 0)))]) ?_ ?_
    · rcases bool_tf (decide ((a0.length : Int) < 2)) with hb1 | hb1
      · refine wpl_no (d := 21) rfl rfl (congrArg Value.bool hb1) ?_
        refine wpl_no (d := 21) rfl rfl (congrArg Value.bool hb1) ?_
        refine wpl_no (d := 21) rfl rfl (congrArg Value.bool hb1) ?_
        refine s_pickT (congrArg Value.bool hb1) rfl ?_
        exact wpl_nil (nrm ⟨outP, rfl, congrArg Value.bool (or_t hb1), trivial⟩)
      · refine wpl_yes (d := 21) rfl rfl (congrArg Value.bool hb1) ?_
        refine s_mvv (v := a3v0) rfl ?_
        refine wpl_yes (d := 21) rfl rfl (congrArg Value.bool hb1) ?_
        refine s_lenR (xs := a3) rfl a3h0 Tryd.underlying22 ?_
        refine wpl_yes (d := 21) rfl rfl (congrArg Value.bool hb1) ?_
        refine s_eql (m := (a3.length : Int)) (n := 0) rfl rfl ?_
        refine s_pickF (congrArg Value.bool hb1) rfl ?_
        exact wpl_nil (nrm ⟨outP, rfl, congrArg Value.bool (or_f hb1), trivial⟩)
    rintro f1 w3 ho ⟨h1, ha⟩
    subst h1
    obtain ⟨u1, rfl⟩ := fr_of (N := 104) ho ha
    refine wpl_nil ?_
    refine nrm ?_
    refine wpc_if (t := ((decide ((a0.length : Int) < 2)) || ((a3.length : Int) == 0))) rfl (fun hc1 => ?_) (fun hc1 => ?_)
    · replace hm := ifT hc1 hm
      refine wpc_seq ?_
      refine wpc_region ?_
      refine s_ld (i := 1) (cs := [vU a1.1, vU a1.2]) S2 rfl rfl Tryd.isAgg27 Tryd.sizeOf27 rfl (fun h => by cases h) ?_
      refine s_stL (i := 0) S2 rfl rfl rfl Tryd.sizeOf27 (oneC rfl (oneC rfl oneN)) rfl ?_
      intro w4 S3
      replace S3 : St _ ((bx b2 [vU a1.1, vU a1.2] 27) :: (bx b1 [vU a1.1, vU a1.2] 27) :: As) _ := S3
      clear S2
      refine s_asv (v := vb false) rfl ?_
      refine wpl_nil ?_
      refine nrm ?_
      refine wpc_ret ?_
      refine thR ?_
      refine outRw ?_
      intro we hpd
      replace S3 := St.pd S3 hpd
      have SR := S3
      obtain ⟨m1, l1, S4⟩ := St.drop S3 0
      replace L0 := Mem.tr L0 l1
      replace S4 : St _ ((bx b1 [vU a1.1, vU a1.2] 27) :: As) _ := S4
      obtain ⟨m2, l2, S5⟩ := St.drop S4 0
      replace L0 := Mem.tr L0 l2
      clear S4
      replace S5 : St _ (As) _ := S5
      have e0 := Option.some.inj hm
      subst e0
      exact outR [_, _] rfl ⟨res_box (i := 0) (off := 0) (cs := [vU a1.1, vU a1.2]) SR rfl rfl Tryd.isAgg27 Tryd.sizeOf27 rfl (fun h => by cases h), rfl, trivial⟩ ⟨_, L0, S5, rfl⟩
    replace hm := ifF hc1 hm
    refine wpc_skip ?_
    refine nrm ?_
    refine wpc_seq ?_
    refine wpc_region ?_
    refine s_mvv (v := a0v0) rfl ?_
    refine s_lenR (xs := a0) rfl a0h0 Tryd.underlying22 ?_
    obtain ⟨x1, q1, hm⟩ := obind_some hm
    refine s_call Tryd.call53 (w_law08_first (a0 := (a0.length : Int)) S2  q1) rfl ?_
    rintro _ w5 ⟨m3, l3, S6, rfl⟩
    replace a0h0 := a0h0.up l3
    replace a3h0 := a3h0.up l3
    replace L0 := Mem.tr L0 l3
    clear S2
    replace S6 : St _ ((bx b2 [vU 0, vU 0] 27) :: (bx b1 [vU a1.1, vU a1.2] 27) :: As) _ := S6
    refine s_asv (v := vI x1) rfl ?_
    refine wpl_nil ?_
    refine nrm ?_
    refine wpc_seq ?_
    refine wpc_region ?_
    refine s_mvv (v := a3v0) rfl ?_
    refine s_lenR (xs := a3) rfl a3h0 Tryd.underlying22 ?_
    refine s_subI (m := (a3.length : Int)) (n := 1) rfl rfl ?_
    obtain ⟨x2, q2, hm⟩ := bnd_eq hm
    refine s_asv (v := vI x2) (congrArg (fun z => vI z) q2.symm) ?_
    refine wpl_nil ?_
    refine nrm ?_
    refine wpc_seq ?_
    obtain ⟨x3, q3, hm⟩ := obind_some hm
    obtain ⟨x4, q4, hm⟩ := obind_some hm
    obtain ⟨x5, q5, hm⟩ := obind_some hm
    obtain ⟨x6, q6, hm⟩ := obind_some hm
    have HM : MonoAll [(33, fun (M : Mem) (v : Value) => v = a0v0), (34, fun (M : Mem) (v : Value) => v = vI x1), (35, fun (M : Mem) (v : Value) => ∃ (v1 : Value), v = v1 ∧ SlR M v1 x3), (36, fun (M : Mem) (v : Value) => v = .agg #[vU x4.1, vU x4.2]), (37, fun (M : Mem) (v : Value) => v = a0v0), (38, fun (M : Mem) (v : Value) => v = vI x1), (39, fun (M : Mem) (v : Value) => ∃ (v3 : Value), v = v3 ∧ SlR M v3 x5), (40, fun (M : Mem) (v : Value) => v = .agg #[vU x6.1, vU x6.2]), (12, fun (M : Mem) (v : Value) => ∃ (b3 : Nat), v = pt b3 0), (13, fun (M : Mem) (v : Value) => ∃ (b4 : Nat), v = pt b4 0)] := ⟨(fun _ _ _ _ h => h), (fun _ _ _ _ h => h), (fun _ _ _ l ⟨v1, e, h2⟩ => ⟨v1, e, h2.up l⟩), (fun _ _ _ _ h => h), (fun _ _ _ _ h => h), (fun _ _ _ _ h => h), (fun _ _ _ l ⟨v3, e, h4⟩ => ⟨v3, e, h4.up l⟩), (fun _ _ _ _ h => h), (fun _ _ _ _ h => h), (fun _ _ _ _ h => h), trivial⟩
    refine wpc_flowG HM 10 mixed rfl rfl rfl [12, 13, 33, 34, 35, 36, 37, 38, 39, 40] (fun L f M w => St M ((bx b2 [vU 0, vU 0] 27) :: (bx b1 [vU a1.1, vU a1.2] 27) :: ((bif L 8 then [bxv (f 12) [vU 0, vU 0] 27] else []) ++ ((bif L 9 then [bxv (f 13) [vU 0, vU 0] 27] else []) ++ As))) w) (St.drew S6 _) ?_ ?_
    · refine ⟨?_, ?_, ?_, ?_, ?_, ?_, ?_, ?_, ?_, ?_, trivial⟩
      · intro L f2 w6 hL hd hc ⟨m4, L1, S7, K, hO⟩
        obtain ⟨u2, rfl⟩ := fr_of (N := 104) (L := []) hO trivial
        replace S7 : St _ ((bx b2 [vU 0, vU 0] 27) :: (bx b1 [vU a1.1, vU a1.2] 27) :: ((bif L 8 then [bxv _ [vU 0, vU 0] 27] else []) ++ ((bif L 9 then [bxv _ [vU 0, vU 0] 27] else []) ++ As))) _ := S7
        have L2 := Mem.rfl' m4
        refine s_mvv (v := a0v0) rfl ?_
        refine wpn ?_
        refine ⟨m4, Mem.tr L1 L2, ?_, facts_step HM rfl K L2 rfl rfl rfl, outP⟩
        exact S7
      · intro L f3 w7 hL hd hc ⟨m5, L3, S8, K, hO⟩
        obtain ⟨u3, rfl⟩ := fr_of (N := 104) (L := []) hO trivial
        replace S8 : St _ ((bx b2 [vU 0, vU 0] 27) :: (bx b1 [vU a1.1, vU a1.2] 27) :: ((bif L 8 then [bxv _ [vU 0, vU 0] 27] else []) ++ ((bif L 9 then [bxv _ [vU 0, vU 0] 27] else []) ++ As))) _ := S8
        have L4 := Mem.rfl' m5
        refine s_mvv (v := vI x1) rfl ?_
        refine wpn ?_
        refine ⟨m5, Mem.tr L3 L4, ?_, facts_step HM rfl K L4 rfl rfl rfl, outP⟩
        exact S8
      · intro L f4 w8 hL hd hc ⟨m6, L5, S9, K, hO⟩
        have d0 : L 0 = true := dep hd rfl
        have e1 := K 0 d0
        have d1 : L 1 = true := dep hd rfl
        have e2 := K 1 d1
        obtain ⟨u4, rfl⟩ := fr_of (N := 104) (L := [(33, a0v0), (34, vI x1)]) hO ⟨e1, e2, trivial⟩
        replace S9 : St _ ((bx b2 [vU 0, vU 0] 27) :: (bx b1 [vU a1.1, vU a1.2] 27) :: ((bif L 8 then [bxv _ [vU 0, vU 0] 27] else []) ++ ((bif L 9 then [bxv _ [vU 0, vU 0] 27] else []) ++ As))) _ := S9
        replace a0h0 := a0h0.up L5
        replace a3h0 := a3h0.up L5
        have L6 := Mem.rfl' m6
        refine s_cut (ys := x3) (l := 0) (h := x1) rfl a0h0 Tryd.underlying22 Tryd.sizeOf27 (.inl ⟨rfl, rfl⟩) (.inr ⟨_, rfl⟩) (.inl rfl) q3 ?_
        intro v1 h2
        refine wpn ?_
        refine ⟨m6, Mem.tr L5 L6, ?_, facts_step HM rfl K L6 rfl rfl ⟨v1, rfl, h2⟩, outP⟩
        exact S9
      · intro L f5 w9 hL hd hc ⟨m7, L7, S10, K, hO⟩
        have d2 : L 2 = true := dep hd rfl
        obtain ⟨v2, e3, h3⟩ := K 2 d2
        obtain ⟨u5, rfl⟩ := fr_of (N := 104) (L := [(35, v2)]) hO ⟨e3, trivial⟩
        replace S10 : St _ ((bx b2 [vU 0, vU 0] 27) :: (bx b1 [vU a1.1, vU a1.2] 27) :: ((bif L 8 then [bxv _ [vU 0, vU 0] 27] else []) ++ ((bif L 9 then [bxv _ [vU 0, vU 0] 27] else []) ++ As))) _ := S10
        replace a0h0 := a0h0.up L7
        replace a3h0 := a3h0.up L7
        have L8 := Mem.rfl' m7
        refine s_call Tryd.call13 (w_merkle_Root (a0 := x3) S10 h3 q4) rfl ?_
        rintro _ w10 ⟨m8, l4, S11, rfl⟩
        replace a0h0 := a0h0.up l4
        replace a3h0 := a3h0.up l4
        replace h3 := h3.up l4
        replace L8 := Mem.tr L8 l4
        clear S10
        replace S11 : St _ ((bx b2 [vU 0, vU 0] 27) :: (bx b1 [vU a1.1, vU a1.2] 27) :: ((bif L 8 then [bxv _ [vU 0, vU 0] 27] else []) ++ ((bif L 9 then [bxv _ [vU 0, vU 0] 27] else []) ++ As))) _ := S11
        refine wpn ?_
        refine ⟨m8, Mem.tr L7 L8, ?_, facts_step HM rfl K L8 rfl rfl rfl, outP⟩
        exact S11
      · intro L f6 w11 hL hd hc ⟨m9, L9, S12, K, hO⟩
        obtain ⟨u6, rfl⟩ := fr_of (N := 104) (L := []) hO trivial
        replace S12 : St _ ((bx b2 [vU 0, vU 0] 27) :: (bx b1 [vU a1.1, vU a1.2] 27) :: ((bif L 8 then [bxv _ [vU 0, vU 0] 27] else []) ++ ((bif L 9 then [bxv _ [vU 0, vU 0] 27] else []) ++ As))) _ := S12
        have L10 := Mem.rfl' m9
        refine s_mvv (v := a0v0) rfl ?_
        refine wpn ?_
        refine ⟨m9, Mem.tr L9 L10, ?_, facts_step HM rfl K L10 rfl rfl rfl, outP⟩
        exact S12
      · intro L f7 w12 hL hd hc ⟨m10, L11, S13, K, hO⟩
        obtain ⟨u7, rfl⟩ := fr_of (N := 104) (L := []) hO trivial
        replace S13 : St _ ((bx b2 [vU 0, vU 0] 27) :: (bx b1 [vU a1.1, vU a1.2] 27) :: ((bif L 8 then [bxv _ [vU 0, vU 0] 27] else []) ++ ((bif L 9 then [bxv _ [vU 0, vU 0] 27] else []) ++ As))) _ := S13
        have L12 := Mem.rfl' m10
        refine s_mvv (v := vI x1) rfl ?_
        refine wpn ?_
        refine ⟨m10, Mem.tr L11 L12, ?_, facts_step HM rfl K L12 rfl rfl rfl, outP⟩
        exact S13
      · intro L f8 w13 hL hd hc ⟨m11, L13, S14, K, hO⟩
        have d4 : L 4 = true := dep hd rfl
        have e4 := K 4 d4
        have d5 : L 5 = true := dep hd rfl
        have e5 := K 5 d5
        obtain ⟨u8, rfl⟩ := fr_of (N := 104) (L := [(37, a0v0), (38, vI x1)]) hO ⟨e4, e5, trivial⟩
        replace S14 : St _ ((bx b2 [vU 0, vU 0] 27) :: (bx b1 [vU a1.1, vU a1.2] 27) :: ((bif L 8 then [bxv _ [vU 0, vU 0] 27] else []) ++ ((bif L 9 then [bxv _ [vU 0, vU 0] 27] else []) ++ As))) _ := S14
        replace a0h0 := a0h0.up L13
        replace a3h0 := a3h0.up L13
        have L14 := Mem.rfl' m11
        refine s_cut (ys := x5) (l := x1) (h := (a0.length : Int)) rfl a0h0 Tryd.underlying22 Tryd.sizeOf27 (.inr ⟨_, rfl⟩) (.inl ⟨rfl, rfl⟩) (.inl rfl) q5 ?_
        intro v3 h4
        refine wpn ?_
        refine ⟨m11, Mem.tr L13 L14, ?_, facts_step HM rfl K L14 rfl rfl ⟨v3, rfl, h4⟩, outP⟩
        exact S14
      · intro L f9 w14 hL hd hc ⟨m12, L15, S15, K, hO⟩
        have d6 : L 6 = true := dep hd rfl
        obtain ⟨v4, e6, h5⟩ := K 6 d6
        obtain ⟨u9, rfl⟩ := fr_of (N := 104) (L := [(39, v4)]) hO ⟨e6, trivial⟩
        replace S15 : St _ ((bx b2 [vU 0, vU 0] 27) :: (bx b1 [vU a1.1, vU a1.2] 27) :: ((bif L 8 then [bxv _ [vU 0, vU 0] 27] else []) ++ ((bif L 9 then [bxv _ [vU 0, vU 0] 27] else []) ++ As))) _ := S15
        replace a0h0 := a0h0.up L15
        replace a3h0 := a3h0.up L15
        have L16 := Mem.rfl' m12
        refine s_call Tryd.call13 (w_merkle_Root (a0 := x5) S15 h5 q6) rfl ?_
        rintro _ w15 ⟨m13, l5, S16, rfl⟩
        replace a0h0 := a0h0.up l5
        replace a3h0 := a3h0.up l5
        replace h5 := h5.up l5
        replace L16 := Mem.tr L16 l5
        clear S15
        replace S16 : St _ ((bx b2 [vU 0, vU 0] 27) :: (bx b1 [vU a1.1, vU a1.2] 27) :: ((bif L 8 then [bxv _ [vU 0, vU 0] 27] else []) ++ ((bif L 9 then [bxv _ [vU 0, vU 0] 27] else []) ++ As))) _ := S16
        refine wpn ?_
        refine ⟨m13, Mem.tr L15 L16, ?_, facts_step HM rfl K L16 rfl rfl rfl, outP⟩
        exact S16
      · intro L f10 w16 hL hd hc ⟨m14, L17, S17, K, hO⟩
        have d8 : L 8 = false := hL
        replace S17 : St _ ((bx b2 [vU 0, vU 0] 27) :: (bx b1 [vU a1.1, vU a1.2] 27) :: ((bif L 8 then [bxv (f10 12) [vU 0, vU 0] 27] else []) ++ ((bif L 9 then [bxv (f10 13) [vU 0, vU 0] 27] else []) ++ As))) _ := S17
        rw [d8] at S17
        obtain ⟨u10, rfl⟩ := fr_of (N := 104) (L := []) hO trivial
        replace S17 : St _ ((bx b2 [vU 0, vU 0] 27) :: (bx b1 [vU a1.1, vU a1.2] 27) :: ((bif L 9 then [bxv _ [vU 0, vU 0] 27] else []) ++ As)) _ := S17
        replace a0h0 := a0h0.up L17
        replace a3h0 := a3h0.up L17
        have L18 := Mem.rfl' m14
        refine s_alloc S17 Tryd.zeroValue27 ?_
        intro b3 w17 S18
        replace S18 : St _ ((bx b3 [vU 0, vU 0] 27) :: (bx b2 [vU 0, vU 0] 27) :: (bx b1 [vU a1.1, vU a1.2] 27) :: ((bif L 9 then [bxv _ [vU 0, vU 0] 27] else []) ++ As)) _ := S18
        clear S17
        refine wpn ?_
        refine ⟨m14, Mem.tr L17 L18, ?_, facts_step HM rfl K L18 rfl rfl ⟨b3, rfl⟩, outP⟩
        have S118 : St _ ((bx b2 [vU 0, vU 0] 27) :: (bx b1 [vU a1.1, vU a1.2] 27) :: (bx b3 [vU 0, vU 0] 27) :: ((bif L 9 then [bxv _ [vU 0, vU 0] 27] else []) ++ As)) _ := St.perm S18 (List.Perm.trans (List.Perm.swap _ _ _) (List.Perm.cons _ (List.Perm.swap _ _ _)))
        exact S118
      · intro L f11 w18 hL hd hc ⟨m15, L19, S19, K, hO⟩
        have d9 : L 9 = false := hL
        replace S19 : St _ ((bx b2 [vU 0, vU 0] 27) :: (bx b1 [vU a1.1, vU a1.2] 27) :: ((bif L 8 then [bxv (f11 12) [vU 0, vU 0] 27] else []) ++ ((bif L 9 then [bxv (f11 13) [vU 0, vU 0] 27] else []) ++ As))) _ := S19
        rw [d9] at S19
        obtain ⟨u11, rfl⟩ := fr_of (N := 104) (L := []) hO trivial
        replace S19 : St _ ((bx b2 [vU 0, vU 0] 27) :: (bx b1 [vU a1.1, vU a1.2] 27) :: ((bif L 8 then [bxv _ [vU 0, vU 0] 27] else []) ++ As)) _ := S19
        replace a0h0 := a0h0.up L19
        replace a3h0 := a3h0.up L19
        have L20 := Mem.rfl' m15
        refine s_alloc S19 Tryd.zeroValue27 ?_
        intro b4 w19 S20
        replace S20 : St _ ((bx b4 [vU 0, vU 0] 27) :: (bx b2 [vU 0, vU 0] 27) :: (bx b1 [vU a1.1, vU a1.2] 27) :: ((bif L 8 then [bxv _ [vU 0, vU 0] 27] else []) ++ As)) _ := S20
        clear S19
        refine wpn ?_
        refine ⟨m15, Mem.tr L19 L20, ?_, facts_step HM rfl K L20 rfl rfl ⟨b4, rfl⟩, outP⟩
        have S119 : St _ ((bx b2 [vU 0, vU 0] 27) :: (bx b1 [vU a1.1, vU a1.2] 27) :: (bx b4 [vU 0, vU 0] 27) :: ((bif L 8 then [bxv _ [vU 0, vU 0] 27] else []) ++ As)) _ := St.perm S20 (List.Perm.trans (List.Perm.swap _ _ _) (List.Perm.cons _ (List.Perm.swap _ _ _)))
        have S119s := St.sw (L := [bx b2 [vU 0, vU 0] 27, bx b1 [vU a1.1, vU a1.2] 27]) (X := [bx b4 [vU 0, vU 0] 27]) (Y := (bif L 8 then [bxv _ [vU 0, vU 0] 27] else [])) (As := As) S119
        exact S119s
    intro L f12 w20 hall ⟨m16, L21, S21, K, hO⟩
    have d8 : L 8 = true := hall 8 (by decide)
    have d9 : L 9 = true := hall 9 (by decide)
    obtain ⟨b5, e7⟩ := K 8 d8
    obtain ⟨b6, e8⟩ := K 9 d9
    have d3 : L 3 = true := hall 3 (by decide)
    have e9 := K 3 d3
    have d7 : L 7 = true := hall 7 (by decide)
    have e10 := K 7 d7
    replace S21 : St _ ((bx b2 [vU 0, vU 0] 27) :: (bx b1 [vU a1.1, vU a1.2] 27) :: ((bif L 8 then [bxv (f12 12) [vU 0, vU 0] 27] else []) ++ ((bif L 9 then [bxv (f12 13) [vU 0, vU 0] 27] else []) ++ As))) _ := S21
    rw [d8, d9] at S21
    obtain ⟨u12, rfl⟩ := fr_of (N := 104) (L := [(12, pt b5 0), (13, pt b6 0), (36, .agg #[vU x4.1, vU x4.2]), (40, .agg #[vU x6.1, vU x6.2])]) hO ⟨e7, e8, e9, e10, trivial⟩
    replace S21 : St _ ((bx b2 [vU 0, vU 0] 27) :: (bx b1 [vU a1.1, vU a1.2] 27) :: (bx b5 [vU 0, vU 0] 27) :: (bx b6 [vU 0, vU 0] 27) :: As) _ := S21
    replace a0h0 := a0h0.up L21
    replace a3h0 := a3h0.up L21
    replace L0 := Mem.tr L0 L21
    clear S6
    refine s_stL (i := 2) S21 rfl rfl rfl Tryd.sizeOf27 (oneC rfl (oneC rfl oneN)) rfl ?_
    intro w21 S22
    replace S22 : St _ ((bx b2 [vU 0, vU 0] 27) :: (bx b1 [vU a1.1, vU a1.2] 27) :: (bx b5 [vU x4.1, vU x4.2] 27) :: (bx b6 [vU 0, vU 0] 27) :: As) _ := S22
    clear S21
    refine s_stL (i := 3) S22 rfl rfl rfl Tryd.sizeOf27 (oneC rfl (oneC rfl oneN)) rfl ?_
    intro w22 S23
    replace S23 : St _ ((bx b2 [vU 0, vU 0] 27) :: (bx b1 [vU a1.1, vU a1.2] 27) :: (bx b5 [vU x4.1, vU x4.2] 27) :: (bx b6 [vU x6.1, vU x6.2] 27) :: As) _ := S23
    clear S22
    refine wpl_nil ?_
    refine nrm ?_
    refine wpc_seq ?_
    refine wpc_seq ?_
    refine wpc_region ?_
    refine s_mvv (v := vI a2) rfl ?_
    refine s_mvv (v := vI x1) rfl ?_
    refine s_lss (m := a2) (n := x1) rfl rfl ?_
    refine wpl_nil ?_
    refine nrm ?_
    refine wpc_if (t := (decide (a2 < x1))) rfl (fun hc2 => ?_) (fun hc2 => ?_)
    · replace hm := ifT hc2 hm
      refine wpc_seq ?_
      obtain ⟨x7, q7, hm⟩ := obind_some hm
      obtain ⟨x8, q8, hm⟩ := obind_some hm
      obtain ⟨x9, q9, hm⟩ := obind_some hm
      have HM : MonoAll [(45, fun (M : Mem) (v : Value) => v = a0v0), (46, fun (M : Mem) (v : Value) => v = vI x1), (47, fun (M : Mem) (v : Value) => ∃ (v5 : Value), v = v5 ∧ SlR M v5 x7), (48, fun (M : Mem) (v : Value) => v = .agg #[vU a1.1, vU a1.2]), (49, fun (M : Mem) (v : Value) => v = vI a2), (50, fun (M : Mem) (v : Value) => v = a3v0), (51, fun (M : Mem) (v : Value) => v = vI x2), (52, fun (M : Mem) (v : Value) => ∃ (v6 : Value), v = v6 ∧ SlR M v6 x8), (53, fun (M : Mem) (v : Value) => v = .tuple #[.agg #[vU x9.1.1, vU x9.1.2], vb x9.2]), (44, fun (M : Mem) (v : Value) => v = .tuple #[.agg #[vU x9.1.1, vU x9.1.2], vb x9.2]), (54, fun (M : Mem) (v : Value) => v = .agg #[vU x9.1.1, vU x9.1.2]), (55, fun (M : Mem) (v : Value) => v = vb x9.2), (14, fun (M : Mem) (v : Value) => ∃ (b7 : Nat), v = pt b7 0), (100013, fun _ _ => True)] := ⟨(fun _ _ _ _ h => h), (fun _ _ _ _ h => h), (fun _ _ _ l ⟨v5, e, h6⟩ => ⟨v5, e, h6.up l⟩), (fun _ _ _ _ h => h), (fun _ _ _ _ h => h), (fun _ _ _ _ h => h), (fun _ _ _ _ h => h), (fun _ _ _ l ⟨v6, e, h7⟩ => ⟨v6, e, h7.up l⟩), (fun _ _ _ _ h => h), (fun _ _ _ _ h => h), (fun _ _ _ _ h => h), (fun _ _ _ _ h => h), (fun _ _ _ _ h => h), (fun _ _ _ _ h => h), trivial⟩
      refine wpc_flowG HM 14 mixed rfl rfl rfl [14, 44, 45, 46, 47, 48, 49, 50, 51, 52, 53, 54, 55] (fun L f M w => St M ((bx b2 [vU 0, vU 0] 27) :: (bx b1 [vU a1.1, vU a1.2] 27) :: (bx b5 [vU x4.1, vU x4.2] 27) :: (bx b6 [vU x6.1, vU x6.2] 27) :: ((bif L 12 then [bxv (f 14) (bif L 13 then [vU x9.1.1, vU x9.1.2] else [vU 0, vU 0]) 27] else []) ++ As)) w) (St.drew S23 _) ?_ ?_
      · refine ⟨?_, ?_, ?_, ?_, ?_, ?_, ?_, ?_, ?_, ?_, ?_, ?_, ?_, ?_, trivial⟩
        · intro L f13 w23 hL hd hc ⟨m17, L22, S24, K, hO⟩
          have d13 : L 13 = false := undep hc hL rfl
          replace S24 : St _ ((bx b2 [vU 0, vU 0] 27) :: (bx b1 [vU a1.1, vU a1.2] 27) :: (bx b5 [vU x4.1, vU x4.2] 27) :: (bx b6 [vU x6.1, vU x6.2] 27) :: ((bif L 12 then [bxv (f13 14) (bif L 13 then [vU x9.1.1, vU x9.1.2] else [vU 0, vU 0]) 27] else []) ++ As)) _ := S24
          rw [d13] at S24
          obtain ⟨u13, rfl⟩ := fr_of (N := 104) (L := []) hO trivial
          replace S24 : St _ ((bx b2 [vU 0, vU 0] 27) :: (bx b1 [vU a1.1, vU a1.2] 27) :: (bx b5 [vU x4.1, vU x4.2] 27) :: (bx b6 [vU x6.1, vU x6.2] 27) :: ((bif L 12 then [bxv _ (bif false then [vU x9.1.1, vU x9.1.2] else [vU 0, vU 0]) 27] else []) ++ As)) _ := S24
          have L23 := Mem.rfl' m17
          refine s_mvv (v := a0v0) rfl ?_
          refine wpn ?_
          refine ⟨m17, Mem.tr L22 L23, ?_, facts_step HM rfl K L23 rfl rfl rfl, outP⟩
          show St _ ((bx b2 [vU 0, vU 0] 27) :: (bx b1 [vU a1.1, vU a1.2] 27) :: (bx b5 [vU x4.1, vU x4.2] 27) :: (bx b6 [vU x6.1, vU x6.2] 27) :: ((bif L 12 then [bxv _ (bif L 13 then [vU x9.1.1, vU x9.1.2] else [vU 0, vU 0]) 27] else []) ++ As)) _
          rw [d13]
          exact S24
        · intro L f14 w24 hL hd hc ⟨m18, L24, S25, K, hO⟩
          have d13 : L 13 = false := undep hc hL rfl
          replace S25 : St _ ((bx b2 [vU 0, vU 0] 27) :: (bx b1 [vU a1.1, vU a1.2] 27) :: (bx b5 [vU x4.1, vU x4.2] 27) :: (bx b6 [vU x6.1, vU x6.2] 27) :: ((bif L 12 then [bxv (f14 14) (bif L 13 then [vU x9.1.1, vU x9.1.2] else [vU 0, vU 0]) 27] else []) ++ As)) _ := S25
          rw [d13] at S25
          obtain ⟨u14, rfl⟩ := fr_of (N := 104) (L := []) hO trivial
          replace S25 : St _ ((bx b2 [vU 0, vU 0] 27) :: (bx b1 [vU a1.1, vU a1.2] 27) :: (bx b5 [vU x4.1, vU x4.2] 27) :: (bx b6 [vU x6.1, vU x6.2] 27) :: ((bif L 12 then [bxv _ (bif false then [vU x9.1.1, vU x9.1.2] else [vU 0, vU 0]) 27] else []) ++ As)) _ := S25
          have L25 := Mem.rfl' m18
          refine s_mvv (v := vI x1) rfl ?_
          refine wpn ?_
          refine ⟨m18, Mem.tr L24 L25, ?_, facts_step HM rfl K L25 rfl rfl rfl, outP⟩
          show St _ ((bx b2 [vU 0, vU 0] 27) :: (bx b1 [vU a1.1, vU a1.2] 27) :: (bx b5 [vU x4.1, vU x4.2] 27) :: (bx b6 [vU x6.1, vU x6.2] 27) :: ((bif L 12 then [bxv _ (bif L 13 then [vU x9.1.1, vU x9.1.2] else [vU 0, vU 0]) 27] else []) ++ As)) _
          rw [d13]
          exact S25
        · intro L f15 w25 hL hd hc ⟨m19, L26, S26, K, hO⟩
          have d13 : L 13 = false := undep hc hL rfl
          have d0 : L 0 = true := dep hd rfl
          have e11 := K 0 d0
          have d1 : L 1 = true := dep hd rfl
          have e12 := K 1 d1
          replace S26 : St _ ((bx b2 [vU 0, vU 0] 27) :: (bx b1 [vU a1.1, vU a1.2] 27) :: (bx b5 [vU x4.1, vU x4.2] 27) :: (bx b6 [vU x6.1, vU x6.2] 27) :: ((bif L 12 then [bxv (f15 14) (bif L 13 then [vU x9.1.1, vU x9.1.2] else [vU 0, vU 0]) 27] else []) ++ As)) _ := S26
          rw [d13] at S26
          obtain ⟨u15, rfl⟩ := fr_of (N := 104) (L := [(45, a0v0), (46, vI x1)]) hO ⟨e11, e12, trivial⟩
          replace S26 : St _ ((bx b2 [vU 0, vU 0] 27) :: (bx b1 [vU a1.1, vU a1.2] 27) :: (bx b5 [vU x4.1, vU x4.2] 27) :: (bx b6 [vU x6.1, vU x6.2] 27) :: ((bif L 12 then [bxv _ (bif false then [vU x9.1.1, vU x9.1.2] else [vU 0, vU 0]) 27] else []) ++ As)) _ := S26
          replace a0h0 := a0h0.up L26
          replace a3h0 := a3h0.up L26
          have L27 := Mem.rfl' m19
          refine s_cut (ys := x7) (l := 0) (h := x1) rfl a0h0 Tryd.underlying22 Tryd.sizeOf27 (.inl ⟨rfl, rfl⟩) (.inr ⟨_, rfl⟩) (.inl rfl) q7 ?_
          intro v5 h6
          refine wpn ?_
          refine ⟨m19, Mem.tr L26 L27, ?_, facts_step HM rfl K L27 rfl rfl ⟨v5, rfl, h6⟩, outP⟩
          show St _ ((bx b2 [vU 0, vU 0] 27) :: (bx b1 [vU a1.1, vU a1.2] 27) :: (bx b5 [vU x4.1, vU x4.2] 27) :: (bx b6 [vU x6.1, vU x6.2] 27) :: ((bif L 12 then [bxv _ (bif L 13 then [vU x9.1.1, vU x9.1.2] else [vU 0, vU 0]) 27] else []) ++ As)) _
          rw [d13]
          exact S26
        · intro L f16 w26 hL hd hc ⟨m20, L28, S27, K, hO⟩
          have d13 : L 13 = false := undep hc hL rfl
          replace S27 : St _ ((bx b2 [vU 0, vU 0] 27) :: (bx b1 [vU a1.1, vU a1.2] 27) :: (bx b5 [vU x4.1, vU x4.2] 27) :: (bx b6 [vU x6.1, vU x6.2] 27) :: ((bif L 12 then [bxv (f16 14) (bif L 13 then [vU x9.1.1, vU x9.1.2] else [vU 0, vU 0]) 27] else []) ++ As)) _ := S27
          rw [d13] at S27
          obtain ⟨u16, rfl⟩ := fr_of (N := 104) (L := []) hO trivial
          replace S27 : St _ ((bx b2 [vU 0, vU 0] 27) :: (bx b1 [vU a1.1, vU a1.2] 27) :: (bx b5 [vU x4.1, vU x4.2] 27) :: (bx b6 [vU x6.1, vU x6.2] 27) :: ((bif L 12 then [bxv _ (bif false then [vU x9.1.1, vU x9.1.2] else [vU 0, vU 0]) 27] else []) ++ As)) _ := S27
          replace a0h0 := a0h0.up L28
          replace a3h0 := a3h0.up L28
          have L29 := Mem.rfl' m20
          refine s_ld (i := 1) (cs := [vU a1.1, vU a1.2]) S27 rfl rfl Tryd.isAgg27 Tryd.sizeOf27 rfl (fun h => by cases h) ?_
          refine wpn ?_
          refine ⟨m20, Mem.tr L28 L29, ?_, facts_step HM rfl K L29 rfl rfl rfl, outP⟩
          show St _ ((bx b2 [vU 0, vU 0] 27) :: (bx b1 [vU a1.1, vU a1.2] 27) :: (bx b5 [vU x4.1, vU x4.2] 27) :: (bx b6 [vU x6.1, vU x6.2] 27) :: ((bif L 12 then [bxv _ (bif L 13 then [vU x9.1.1, vU x9.1.2] else [vU 0, vU 0]) 27] else []) ++ As)) _
          rw [d13]
          exact S27
        · intro L f17 w27 hL hd hc ⟨m21, L30, S28, K, hO⟩
          have d13 : L 13 = false := undep hc hL rfl
          replace S28 : St _ ((bx b2 [vU 0, vU 0] 27) :: (bx b1 [vU a1.1, vU a1.2] 27) :: (bx b5 [vU x4.1, vU x4.2] 27) :: (bx b6 [vU x6.1, vU x6.2] 27) :: ((bif L 12 then [bxv (f17 14) (bif L 13 then [vU x9.1.1, vU x9.1.2] else [vU 0, vU 0]) 27] else []) ++ As)) _ := S28
          rw [d13] at S28
          obtain ⟨u17, rfl⟩ := fr_of (N := 104) (L := []) hO trivial
          replace S28 : St _ ((bx b2 [vU 0, vU 0] 27) :: (bx b1 [vU a1.1, vU a1.2] 27) :: (bx b5 [vU x4.1, vU x4.2] 27) :: (bx b6 [vU x6.1, vU x6.2] 27) :: ((bif L 12 then [bxv _ (bif false then [vU x9.1.1, vU x9.1.2] else [vU 0, vU 0]) 27] else []) ++ As)) _ := S28
          have L31 := Mem.rfl' m21
          refine s_mvv (v := vI a2) rfl ?_
          refine wpn ?_
          refine ⟨m21, Mem.tr L30 L31, ?_, facts_step HM rfl K L31 rfl rfl rfl, outP⟩
          show St _ ((bx b2 [vU 0, vU 0] 27) :: (bx b1 [vU a1.1, vU a1.2] 27) :: (bx b5 [vU x4.1, vU x4.2] 27) :: (bx b6 [vU x6.1, vU x6.2] 27) :: ((bif L 12 then [bxv _ (bif L 13 then [vU x9.1.1, vU x9.1.2] else [vU 0, vU 0]) 27] else []) ++ As)) _
          rw [d13]
          exact S28
        · intro L f18 w28 hL hd hc ⟨m22, L32, S29, K, hO⟩
          have d13 : L 13 = false := undep hc hL rfl
          replace S29 : St _ ((bx b2 [vU 0, vU 0] 27) :: (bx b1 [vU a1.1, vU a1.2] 27) :: (bx b5 [vU x4.1, vU x4.2] 27) :: (bx b6 [vU x6.1, vU x6.2] 27) :: ((bif L 12 then [bxv (f18 14) (bif L 13 then [vU x9.1.1, vU x9.1.2] else [vU 0, vU 0]) 27] else []) ++ As)) _ := S29
          rw [d13] at S29
          obtain ⟨u18, rfl⟩ := fr_of (N := 104) (L := []) hO trivial
          replace S29 : St _ ((bx b2 [vU 0, vU 0] 27) :: (bx b1 [vU a1.1, vU a1.2] 27) :: (bx b5 [vU x4.1, vU x4.2] 27) :: (bx b6 [vU x6.1, vU x6.2] 27) :: ((bif L 12 then [bxv _ (bif false then [vU x9.1.1, vU x9.1.2] else [vU 0, vU 0]) 27] else []) ++ As)) _ := S29
          have L33 := Mem.rfl' m22
          refine s_mvv (v := a3v0) rfl ?_
          refine wpn ?_
          refine ⟨m22, Mem.tr L32 L33, ?_, facts_step HM rfl K L33 rfl rfl rfl, outP⟩
          show St _ ((bx b2 [vU 0, vU 0] 27) :: (bx b1 [vU a1.1, vU a1.2] 27) :: (bx b5 [vU x4.1, vU x4.2] 27) :: (bx b6 [vU x6.1, vU x6.2] 27) :: ((bif L 12 then [bxv _ (bif L 13 then [vU x9.1.1, vU x9.1.2] else [vU 0, vU 0]) 27] else []) ++ As)) _
          rw [d13]
          exact S29
        · intro L f19 w29 hL hd hc ⟨m23, L34, S30, K, hO⟩
          have d13 : L 13 = false := undep hc hL rfl
          replace S30 : St _ ((bx b2 [vU 0, vU 0] 27) :: (bx b1 [vU a1.1, vU a1.2] 27) :: (bx b5 [vU x4.1, vU x4.2] 27) :: (bx b6 [vU x6.1, vU x6.2] 27) :: ((bif L 12 then [bxv (f19 14) (bif L 13 then [vU x9.1.1, vU x9.1.2] else [vU 0, vU 0]) 27] else []) ++ As)) _ := S30
          rw [d13] at S30
          obtain ⟨u19, rfl⟩ := fr_of (N := 104) (L := []) hO trivial
          replace S30 : St _ ((bx b2 [vU 0, vU 0] 27) :: (bx b1 [vU a1.1, vU a1.2] 27) :: (bx b5 [vU x4.1, vU x4.2] 27) :: (bx b6 [vU x6.1, vU x6.2] 27) :: ((bif L 12 then [bxv _ (bif false then [vU x9.1.1, vU x9.1.2] else [vU 0, vU 0]) 27] else []) ++ As)) _ := S30
          have L35 := Mem.rfl' m23
          refine s_mvv (v := vI x2) rfl ?_
          refine wpn ?_
          refine ⟨m23, Mem.tr L34 L35, ?_, facts_step HM rfl K L35 rfl rfl rfl, outP⟩
          show St _ ((bx b2 [vU 0, vU 0] 27) :: (bx b1 [vU a1.1, vU a1.2] 27) :: (bx b5 [vU x4.1, vU x4.2] 27) :: (bx b6 [vU x6.1, vU x6.2] 27) :: ((bif L 12 then [bxv _ (bif L 13 then [vU x9.1.1, vU x9.1.2] else [vU 0, vU 0]) 27] else []) ++ As)) _
          rw [d13]
          exact S30
        · intro L f20 w30 hL hd hc ⟨m24, L36, S31, K, hO⟩
          have d13 : L 13 = false := undep hc hL rfl
          have d5 : L 5 = true := dep hd rfl
          have e13 := K 5 d5
          have d6 : L 6 = true := dep hd rfl
          have e14 := K 6 d6
          replace S31 : St _ ((bx b2 [vU 0, vU 0] 27) :: (bx b1 [vU a1.1, vU a1.2] 27) :: (bx b5 [vU x4.1, vU x4.2] 27) :: (bx b6 [vU x6.1, vU x6.2] 27) :: ((bif L 12 then [bxv (f20 14) (bif L 13 then [vU x9.1.1, vU x9.1.2] else [vU 0, vU 0]) 27] else []) ++ As)) _ := S31
          rw [d13] at S31
          obtain ⟨u20, rfl⟩ := fr_of (N := 104) (L := [(50, a3v0), (51, vI x2)]) hO ⟨e13, e14, trivial⟩
          replace S31 : St _ ((bx b2 [vU 0, vU 0] 27) :: (bx b1 [vU a1.1, vU a1.2] 27) :: (bx b5 [vU x4.1, vU x4.2] 27) :: (bx b6 [vU x6.1, vU x6.2] 27) :: ((bif L 12 then [bxv _ (bif false then [vU x9.1.1, vU x9.1.2] else [vU 0, vU 0]) 27] else []) ++ As)) _ := S31
          replace a0h0 := a0h0.up L36
          replace a3h0 := a3h0.up L36
          have L37 := Mem.rfl' m24
          refine s_cut (ys := x8) (l := 0) (h := x2) rfl a3h0 Tryd.underlying22 Tryd.sizeOf27 (.inl ⟨rfl, rfl⟩) (.inr ⟨_, rfl⟩) (.inl rfl) q8 ?_
          intro v6 h7
          refine wpn ?_
          refine ⟨m24, Mem.tr L36 L37, ?_, facts_step HM rfl K L37 rfl rfl ⟨v6, rfl, h7⟩, outP⟩
          show St _ ((bx b2 [vU 0, vU 0] 27) :: (bx b1 [vU a1.1, vU a1.2] 27) :: (bx b5 [vU x4.1, vU x4.2] 27) :: (bx b6 [vU x6.1, vU x6.2] 27) :: ((bif L 12 then [bxv _ (bif L 13 then [vU x9.1.1, vU x9.1.2] else [vU 0, vU 0]) 27] else []) ++ As)) _
          rw [d13]
          exact S31
        · intro L f21 w31 hL hd hc ⟨m25, L38, S32, K, hO⟩
          have d13 : L 13 = false := undep hc hL rfl
          have d2 : L 2 = true := dep hd rfl
          obtain ⟨v7, e15, h8⟩ := K 2 d2
          have d3 : L 3 = true := dep hd rfl
          have e16 := K 3 d3
          have d4 : L 4 = true := dep hd rfl
          have e17 := K 4 d4
          have d7 : L 7 = true := dep hd rfl
          obtain ⟨v8, e18, h9⟩ := K 7 d7
          replace S32 : St _ ((bx b2 [vU 0, vU 0] 27) :: (bx b1 [vU a1.1, vU a1.2] 27) :: (bx b5 [vU x4.1, vU x4.2] 27) :: (bx b6 [vU x6.1, vU x6.2] 27) :: ((bif L 12 then [bxv (f21 14) (bif L 13 then [vU x9.1.1, vU x9.1.2] else [vU 0, vU 0]) 27] else []) ++ As)) _ := S32
          rw [d13] at S32
          obtain ⟨u21, rfl⟩ := fr_of (N := 104) (L := [(47, v7), (48, .agg #[vU a1.1, vU a1.2]), (49, vI a2), (52, v8)]) hO ⟨e15, e16, e17, e18, trivial⟩
          replace S32 : St _ ((bx b2 [vU 0, vU 0] 27) :: (bx b1 [vU a1.1, vU a1.2] 27) :: (bx b5 [vU x4.1, vU x4.2] 27) :: (bx b6 [vU x6.1, vU x6.2] 27) :: ((bif L 12 then [bxv _ (bif false then [vU x9.1.1, vU x9.1.2] else [vU 0, vU 0]) 27] else []) ++ As)) _ := S32
          replace a0h0 := a0h0.up L38
          replace a3h0 := a3h0.up L38
          have L39 := Mem.rfl' m25
          refine s_call Tryd.call27 (ih (a0 := x7) (a1 := a1) (a2 := a2) (a3 := x8) S32 h8 h9 q9) rfl ?_
          rintro _ w32 ⟨m26, l6, S33, rfl⟩
          replace a0h0 := a0h0.up l6
          replace a3h0 := a3h0.up l6
          replace h8 := h8.up l6
          replace h9 := h9.up l6
          replace L39 := Mem.tr L39 l6
          clear S32
          replace S33 : St _ ((bx b2 [vU 0, vU 0] 27) :: (bx b1 [vU a1.1, vU a1.2] 27) :: (bx b5 [vU x4.1, vU x4.2] 27) :: (bx b6 [vU x6.1, vU x6.2] 27) :: ((bif L 12 then [bxv _ (bif false then [vU x9.1.1, vU x9.1.2] else [vU 0, vU 0]) 27] else []) ++ As)) _ := S33
          refine wpn ?_
          refine ⟨m26, Mem.tr L38 L39, ?_, facts_step HM rfl K L39 rfl rfl rfl, outP⟩
          show St _ ((bx b2 [vU 0, vU 0] 27) :: (bx b1 [vU a1.1, vU a1.2] 27) :: (bx b5 [vU x4.1, vU x4.2] 27) :: (bx b6 [vU x6.1, vU x6.2] 27) :: ((bif L 12 then [bxv _ (bif L 13 then [vU x9.1.1, vU x9.1.2] else [vU 0, vU 0]) 27] else []) ++ As)) _
          rw [d13]
          exact S33
        · intro L f22 w33 hL hd hc ⟨m27, L40, S34, K, hO⟩
          have d13 : L 13 = false := undep hc hL rfl
          have d8 : L 8 = true := dep hd rfl
          have e19 := K 8 d8
          replace S34 : St _ ((bx b2 [vU 0, vU 0] 27) :: (bx b1 [vU a1.1, vU a1.2] 27) :: (bx b5 [vU x4.1, vU x4.2] 27) :: (bx b6 [vU x6.1, vU x6.2] 27) :: ((bif L 12 then [bxv (f22 14) (bif L 13 then [vU x9.1.1, vU x9.1.2] else [vU 0, vU 0]) 27] else []) ++ As)) _ := S34
          rw [d13] at S34
          obtain ⟨u22, rfl⟩ := fr_of (N := 104) (L := [(53, .tuple #[.agg #[vU x9.1.1, vU x9.1.2], vb x9.2])]) hO ⟨e19, trivial⟩
          replace S34 : St _ ((bx b2 [vU 0, vU 0] 27) :: (bx b1 [vU a1.1, vU a1.2] 27) :: (bx b5 [vU x4.1, vU x4.2] 27) :: (bx b6 [vU x6.1, vU x6.2] 27) :: ((bif L 12 then [bxv _ (bif false then [vU x9.1.1, vU x9.1.2] else [vU 0, vU 0]) 27] else []) ++ As)) _ := S34
          have L41 := Mem.rfl' m27
          refine s_mvv (v := .tuple #[.agg #[vU x9.1.1, vU x9.1.2], vb x9.2]) rfl ?_
          refine wpn ?_
          refine ⟨m27, Mem.tr L40 L41, ?_, facts_step HM rfl K L41 rfl rfl rfl, outP⟩
          show St _ ((bx b2 [vU 0, vU 0] 27) :: (bx b1 [vU a1.1, vU a1.2] 27) :: (bx b5 [vU x4.1, vU x4.2] 27) :: (bx b6 [vU x6.1, vU x6.2] 27) :: ((bif L 12 then [bxv _ (bif L 13 then [vU x9.1.1, vU x9.1.2] else [vU 0, vU 0]) 27] else []) ++ As)) _
          rw [d13]
          exact S34
        · intro L f23 w34 hL hd hc ⟨m28, L42, S35, K, hO⟩
          have d13 : L 13 = false := undep hc hL rfl
          have d9 : L 9 = true := dep hd rfl
          have e20 := K 9 d9
          replace S35 : St _ ((bx b2 [vU 0, vU 0] 27) :: (bx b1 [vU a1.1, vU a1.2] 27) :: (bx b5 [vU x4.1, vU x4.2] 27) :: (bx b6 [vU x6.1, vU x6.2] 27) :: ((bif L 12 then [bxv (f23 14) (bif L 13 then [vU x9.1.1, vU x9.1.2] else [vU 0, vU 0]) 27] else []) ++ As)) _ := S35
          rw [d13] at S35
          obtain ⟨u23, rfl⟩ := fr_of (N := 104) (L := [(44, .tuple #[.agg #[vU x9.1.1, vU x9.1.2], vb x9.2])]) hO ⟨e20, trivial⟩
          replace S35 : St _ ((bx b2 [vU 0, vU 0] 27) :: (bx b1 [vU a1.1, vU a1.2] 27) :: (bx b5 [vU x4.1, vU x4.2] 27) :: (bx b6 [vU x6.1, vU x6.2] 27) :: ((bif L 12 then [bxv _ (bif false then [vU x9.1.1, vU x9.1.2] else [vU 0, vU 0]) 27] else []) ++ As)) _ := S35
          have L43 := Mem.rfl' m28
          refine s_ext (i := 0) rfl rfl ?_
          refine wpn ?_
          refine ⟨m28, Mem.tr L42 L43, ?_, facts_step HM rfl K L43 rfl rfl rfl, outP⟩
          show St _ ((bx b2 [vU 0, vU 0] 27) :: (bx b1 [vU a1.1, vU a1.2] 27) :: (bx b5 [vU x4.1, vU x4.2] 27) :: (bx b6 [vU x6.1, vU x6.2] 27) :: ((bif L 12 then [bxv _ (bif L 13 then [vU x9.1.1, vU x9.1.2] else [vU 0, vU 0]) 27] else []) ++ As)) _
          rw [d13]
          exact S35
        · intro L f24 w35 hL hd hc ⟨m29, L44, S36, K, hO⟩
          have d9 : L 9 = true := dep hd rfl
          have e21 := K 9 d9
          obtain ⟨u24, rfl⟩ := fr_of (N := 104) (L := [(44, .tuple #[.agg #[vU x9.1.1, vU x9.1.2], vb x9.2])]) hO ⟨e21, trivial⟩
          replace S36 : St _ ((bx b2 [vU 0, vU 0] 27) :: (bx b1 [vU a1.1, vU a1.2] 27) :: (bx b5 [vU x4.1, vU x4.2] 27) :: (bx b6 [vU x6.1, vU x6.2] 27) :: ((bif L 12 then [bxv _ (bif L 13 then [vU x9.1.1, vU x9.1.2] else [vU 0, vU 0]) 27] else []) ++ As)) _ := S36
          have L45 := Mem.rfl' m29
          refine s_ext (i := 1) rfl rfl ?_
          refine wpn ?_
          refine ⟨m29, Mem.tr L44 L45, ?_, facts_step HM rfl K L45 rfl rfl rfl, outP⟩
          exact S36
        · intro L f25 w36 hL hd hc ⟨m30, L46, S37, K, hO⟩
          have d12 : L 12 = false := hL
          have d13 : L 13 = false := undep hc hL rfl
          replace S37 : St _ ((bx b2 [vU 0, vU 0] 27) :: (bx b1 [vU a1.1, vU a1.2] 27) :: (bx b5 [vU x4.1, vU x4.2] 27) :: (bx b6 [vU x6.1, vU x6.2] 27) :: ((bif L 12 then [bxv (f25 14) (bif L 13 then [vU x9.1.1, vU x9.1.2] else [vU 0, vU 0]) 27] else []) ++ As)) _ := S37
          rw [d12, d13] at S37
          obtain ⟨u25, rfl⟩ := fr_of (N := 104) (L := []) hO trivial
          replace S37 : St _ ((bx b2 [vU 0, vU 0] 27) :: (bx b1 [vU a1.1, vU a1.2] 27) :: (bx b5 [vU x4.1, vU x4.2] 27) :: (bx b6 [vU x6.1, vU x6.2] 27) :: As) _ := S37
          replace a0h0 := a0h0.up L46
          replace a3h0 := a3h0.up L46
          have L47 := Mem.rfl' m30
          refine s_alloc S37 Tryd.zeroValue27 ?_
          intro b7 w37 S38
          replace S38 : St _ ((bx b7 [vU 0, vU 0] 27) :: (bx b2 [vU 0, vU 0] 27) :: (bx b1 [vU a1.1, vU a1.2] 27) :: (bx b5 [vU x4.1, vU x4.2] 27) :: (bx b6 [vU x6.1, vU x6.2] 27) :: As) _ := S38
          clear S37
          refine wpn ?_
          refine ⟨m30, Mem.tr L46 L47, ?_, facts_step HM rfl K L47 rfl rfl ⟨b7, rfl⟩, outP⟩
          show St _ ((bx b2 [vU 0, vU 0] 27) :: (bx b1 [vU a1.1, vU a1.2] 27) :: (bx b5 [vU x4.1, vU x4.2] 27) :: (bx b6 [vU x6.1, vU x6.2] 27) :: ((bif true then [bxv _ (bif L 13 then [vU x9.1.1, vU x9.1.2] else [vU 0, vU 0]) 27] else []) ++ As)) _
          rw [d13]
          have S69 : St _ ((bx b2 [vU 0, vU 0] 27) :: (bx b1 [vU a1.1, vU a1.2] 27) :: (bx b5 [vU x4.1, vU x4.2] 27) :: (bx b6 [vU x6.1, vU x6.2] 27) :: (bx b7 [vU 0, vU 0] 27) :: As) _ := St.perm S38 (List.Perm.trans (List.Perm.swap _ _ _) (List.Perm.trans (List.Perm.cons _ (List.Perm.swap _ _ _)) (List.Perm.trans (List.Perm.cons _ (List.Perm.cons _ (List.Perm.swap _ _ _))) (List.Perm.cons _ (List.Perm.cons _ (List.Perm.cons _ (List.Perm.swap _ _ _)))))))
          exact S69
        · intro L f26 w38 hL hd hc ⟨m31, L48, S39, K, hO⟩
          have d12 : L 12 = true := dep hd rfl
          have d13 : L 13 = false := hL
          obtain ⟨b8, e22⟩ := K 12 d12
          have d10 : L 10 = true := dep hd rfl
          have e23 := K 10 d10
          replace S39 : St _ ((bx b2 [vU 0, vU 0] 27) :: (bx b1 [vU a1.1, vU a1.2] 27) :: (bx b5 [vU x4.1, vU x4.2] 27) :: (bx b6 [vU x6.1, vU x6.2] 27) :: ((bif L 12 then [bxv (f26 14) (bif L 13 then [vU x9.1.1, vU x9.1.2] else [vU 0, vU 0]) 27] else []) ++ As)) _ := S39
          rw [d12, d13] at S39
          obtain ⟨u26, rfl⟩ := fr_of (N := 104) (L := [(14, pt b8 0), (54, .agg #[vU x9.1.1, vU x9.1.2])]) hO ⟨e22, e23, trivial⟩
          replace S39 : St _ ((bx b2 [vU 0, vU 0] 27) :: (bx b1 [vU a1.1, vU a1.2] 27) :: (bx b5 [vU x4.1, vU x4.2] 27) :: (bx b6 [vU x6.1, vU x6.2] 27) :: (bx b8 [vU 0, vU 0] 27) :: As) _ := S39
          replace a0h0 := a0h0.up L48
          replace a3h0 := a3h0.up L48
          have L49 := Mem.rfl' m31
          refine s_stL (i := 4) S39 rfl rfl rfl Tryd.sizeOf27 (oneC rfl (oneC rfl oneN)) rfl ?_
          intro w39 S40
          replace S40 : St _ ((bx b2 [vU 0, vU 0] 27) :: (bx b1 [vU a1.1, vU a1.2] 27) :: (bx b5 [vU x4.1, vU x4.2] 27) :: (bx b6 [vU x6.1, vU x6.2] 27) :: (bx b8 [vU x9.1.1, vU x9.1.2] 27) :: As) _ := S40
          clear S39
          refine wpn ?_
          refine ⟨m31, Mem.tr L48 L49, ?_, facts_none HM K L49 rfl (fun _ => trivial), outP⟩
          show St _ ((bx b2 [vU 0, vU 0] 27) :: (bx b1 [vU a1.1, vU a1.2] 27) :: (bx b5 [vU x4.1, vU x4.2] 27) :: (bx b6 [vU x6.1, vU x6.2] 27) :: ((bif L 12 then [bxv _ (bif true then [vU x9.1.1, vU x9.1.2] else [vU 0, vU 0]) 27] else []) ++ As)) _
          rw [d12]
          exact S40
      intro L f27 w40 hall ⟨m32, L50, S41, K, hO⟩
      have d12 : L 12 = true := hall 12 (by decide)
      have d13 : L 13 = true := hall 13 (by decide)
      obtain ⟨b9, e24⟩ := K 12 d12
      have d11 : L 11 = true := hall 11 (by decide)
      have e25 := K 11 d11
      replace S41 : St _ ((bx b2 [vU 0, vU 0] 27) :: (bx b1 [vU a1.1, vU a1.2] 27) :: (bx b5 [vU x4.1, vU x4.2] 27) :: (bx b6 [vU x6.1, vU x6.2] 27) :: ((bif L 12 then [bxv (f27 14) (bif L 13 then [vU x9.1.1, vU x9.1.2] else [vU 0, vU 0]) 27] else []) ++ As)) _ := S41
      rw [d12, d13] at S41
      obtain ⟨u27, rfl⟩ := fr_of (N := 104) (L := [(14, pt b9 0), (55, vb x9.2)]) hO ⟨e24, e25, trivial⟩
      replace S41 : St _ ((bx b2 [vU 0, vU 0] 27) :: (bx b1 [vU a1.1, vU a1.2] 27) :: (bx b5 [vU x4.1, vU x4.2] 27) :: (bx b6 [vU x6.1, vU x6.2] 27) :: (bx b9 [vU x9.1.1, vU x9.1.2] 27) :: As) _ := S41
      replace a0h0 := a0h0.up L50
      replace a3h0 := a3h0.up L50
      replace L0 := Mem.tr L0 L50
      clear S23
      refine s_asv (v := vb x9.2) rfl ?_
      refine wpl_nil ?_
      refine nrm ?_
      refine wpc_seq ?_
      obtain ⟨x10, q10, hm⟩ := obind_some hm
      obtain ⟨x11, q11, hm⟩ := obind_some hm
      obtain ⟨x12, q12, hm⟩ := obind_some hm
      obtain ⟨x13, q13, hm⟩ := obind_some hm
      have HM : MonoAll [(56, fun (M : Mem) (v : Value) => v = .agg #[vU x9.1.1, vU x9.1.2]), (57, fun (M : Mem) (v : Value) => v = a3v0), (58, fun (M : Mem) (v : Value) => v = vI x2), (59, fun (M : Mem) (v : Value) => ∃ (p1 : Value), v = p1 ∧ PtC M p1 [vU x10.1, vU x10.2]), (60, fun (M : Mem) (v : Value) => v = .agg #[vU x10.1, vU x10.2]), (61, fun (M : Mem) (v : Value) => v = .agg #[vU x11.1, vU x11.2]), (62, fun (M : Mem) (v : Value) => v = vb x9.2), (63, fun (M : Mem) (v : Value) => v = vb x9.2), (64, fun (M : Mem) (v : Value) => ((!x9.2) = true → v = .agg #[vU x9.1.1, vU x9.1.2]) ∧ ((!x9.2) = false → v = undef)), (65, fun (M : Mem) (v : Value) => ((!x9.2) = true → v = a3v0) ∧ ((!x9.2) = false → v = undef)), (66, fun (M : Mem) (v : Value) => ((!x9.2) = true → v = vI x2) ∧ ((!x9.2) = false → v = undef)), (67, fun (M : Mem) (v : Value) => ((!x9.2) = true → ∃ (p2 : Value), v = p2 ∧ PtC M p2 [vU x12.1, vU x12.2]) ∧ ((!x9.2) = false → v = undef)), (68, fun (M : Mem) (v : Value) => ((!x9.2) = true → v = .agg #[vU x12.1, vU x12.2]) ∧ ((!x9.2) = false → v = undef)), (69, fun (M : Mem) (v : Value) => ((!x9.2) = true → v = .agg #[vU x4.1, vU x4.2]) ∧ ((!x9.2) = false → v = undef)), (70, fun (M : Mem) (v : Value) => ((!x9.2) = true → v = .agg #[vU x6.1, vU x6.2]) ∧ ((!x9.2) = false → v = undef)), (71, fun (M : Mem) (v : Value) => ((!x9.2) = true → v = vb x13) ∧ ((!x9.2) = false → v = undef)), (72, fun (M : Mem) (v : Value) => v = vb (x9.2 || x13)), (100017, fun _ _ => True)] := ⟨(fun _ _ _ _ h => h), (fun _ _ _ _ h => h), (fun _ _ _ _ h => h), (fun _ _ _ l ⟨p1, e, h10⟩ => ⟨p1, e, h10.up l⟩), (fun _ _ _ _ h => h), (fun _ _ _ _ h => h), (fun _ _ _ _ h => h), (fun _ _ _ _ h => h), (fun _ _ _ _ h => h), (fun _ _ _ _ h => h), (fun _ _ _ _ h => h), (fun _ _ _ l h => ⟨fun c => let ⟨p2, e, h12⟩ := h.1 c; ⟨p2, e, h12.up l⟩, h.2⟩), (fun _ _ _ _ h => h), (fun _ _ _ _ h => h), (fun _ _ _ _ h => h), (fun _ _ _ _ h => h), (fun _ _ _ _ h => h), (fun _ _ _ _ h => h), trivial⟩
      refine wpc_flowG HM 18 mixed rfl rfl rfl [56, 57, 58, 59, 60, 61, 62, 63, 64, 65, 66, 67, 68, 69, 70, 71, 72] (fun L f M w => St M ((bx b2 (bif L 17 then [vU x11.1, vU x11.2] else [vU 0, vU 0]) 27) :: (bx b1 [vU a1.1, vU a1.2] 27) :: (bx b5 [vU x4.1, vU x4.2] 27) :: (bx b6 [vU x6.1, vU x6.2] 27) :: (bx b9 [vU x9.1.1, vU x9.1.2] 27) :: As) w) (St.drew S41 _) ?_ ?_
      · refine ⟨?_, ?_, ?_, ?_, ?_, ?_, ?_, ?_, ?_, ?_, ?_, ?_, ?_, ?_, ?_, ?_, ?_, ?_, trivial⟩
        · intro L f28 w41 hL hd hc ⟨m33, L51, S42, K, hO⟩
          have d17 : L 17 = false := undep hc hL rfl
          replace S42 : St _ ((bx b2 (bif L 17 then [vU x11.1, vU x11.2] else [vU 0, vU 0]) 27) :: (bx b1 [vU a1.1, vU a1.2] 27) :: (bx b5 [vU x4.1, vU x4.2] 27) :: (bx b6 [vU x6.1, vU x6.2] 27) :: (bx b9 [vU x9.1.1, vU x9.1.2] 27) :: As) _ := S42
          rw [d17] at S42
          obtain ⟨u28, rfl⟩ := fr_of (N := 104) (L := []) hO trivial
          replace S42 : St _ ((bx b2 [vU 0, vU 0] 27) :: (bx b1 [vU a1.1, vU a1.2] 27) :: (bx b5 [vU x4.1, vU x4.2] 27) :: (bx b6 [vU x6.1, vU x6.2] 27) :: (bx b9 [vU x9.1.1, vU x9.1.2] 27) :: As) _ := S42
          replace a3h0 := a3h0.up L51
          have L52 := Mem.rfl' m33
          refine s_ld (i := 4) (cs := [vU x9.1.1, vU x9.1.2]) S42 rfl rfl Tryd.isAgg27 Tryd.sizeOf27 rfl (fun h => by cases h) ?_
          refine wpn ?_
          refine ⟨m33, Mem.tr L51 L52, ?_, facts_step HM rfl K L52 rfl rfl rfl, outP⟩
          show St _ ((bx b2 (bif L 17 then [vU x11.1, vU x11.2] else [vU 0, vU 0]) 27) :: (bx b1 [vU a1.1, vU a1.2] 27) :: (bx b5 [vU x4.1, vU x4.2] 27) :: (bx b6 [vU x6.1, vU x6.2] 27) :: (bx b9 [vU x9.1.1, vU x9.1.2] 27) :: As) _
          rw [d17]
          exact S42
        · intro L f29 w42 hL hd hc ⟨m34, L53, S43, K, hO⟩
          have d17 : L 17 = false := undep hc hL rfl
          replace S43 : St _ ((bx b2 (bif L 17 then [vU x11.1, vU x11.2] else [vU 0, vU 0]) 27) :: (bx b1 [vU a1.1, vU a1.2] 27) :: (bx b5 [vU x4.1, vU x4.2] 27) :: (bx b6 [vU x6.1, vU x6.2] 27) :: (bx b9 [vU x9.1.1, vU x9.1.2] 27) :: As) _ := S43
          rw [d17] at S43
          obtain ⟨u29, rfl⟩ := fr_of (N := 104) (L := []) hO trivial
          replace S43 : St _ ((bx b2 [vU 0, vU 0] 27) :: (bx b1 [vU a1.1, vU a1.2] 27) :: (bx b5 [vU x4.1, vU x4.2] 27) :: (bx b6 [vU x6.1, vU x6.2] 27) :: (bx b9 [vU x9.1.1, vU x9.1.2] 27) :: As) _ := S43
          have L54 := Mem.rfl' m34
          refine s_mvv (v := a3v0) rfl ?_
          refine wpn ?_
          refine ⟨m34, Mem.tr L53 L54, ?_, facts_step HM rfl K L54 rfl rfl rfl, outP⟩
          show St _ ((bx b2 (bif L 17 then [vU x11.1, vU x11.2] else [vU 0, vU 0]) 27) :: (bx b1 [vU a1.1, vU a1.2] 27) :: (bx b5 [vU x4.1, vU x4.2] 27) :: (bx b6 [vU x6.1, vU x6.2] 27) :: (bx b9 [vU x9.1.1, vU x9.1.2] 27) :: As) _
          rw [d17]
          exact S43
        · intro L f30 w43 hL hd hc ⟨m35, L55, S44, K, hO⟩
          have d17 : L 17 = false := undep hc hL rfl
          replace S44 : St _ ((bx b2 (bif L 17 then [vU x11.1, vU x11.2] else [vU 0, vU 0]) 27) :: (bx b1 [vU a1.1, vU a1.2] 27) :: (bx b5 [vU x4.1, vU x4.2] 27) :: (bx b6 [vU x6.1, vU x6.2] 27) :: (bx b9 [vU x9.1.1, vU x9.1.2] 27) :: As) _ := S44
          rw [d17] at S44
          obtain ⟨u30, rfl⟩ := fr_of (N := 104) (L := []) hO trivial
          replace S44 : St _ ((bx b2 [vU 0, vU 0] 27) :: (bx b1 [vU a1.1, vU a1.2] 27) :: (bx b5 [vU x4.1, vU x4.2] 27) :: (bx b6 [vU x6.1, vU x6.2] 27) :: (bx b9 [vU x9.1.1, vU x9.1.2] 27) :: As) _ := S44
          have L56 := Mem.rfl' m35
          refine s_mvv (v := vI x2) rfl ?_
          refine wpn ?_
          refine ⟨m35, Mem.tr L55 L56, ?_, facts_step HM rfl K L56 rfl rfl rfl, outP⟩
          show St _ ((bx b2 (bif L 17 then [vU x11.1, vU x11.2] else [vU 0, vU 0]) 27) :: (bx b1 [vU a1.1, vU a1.2] 27) :: (bx b5 [vU x4.1, vU x4.2] 27) :: (bx b6 [vU x6.1, vU x6.2] 27) :: (bx b9 [vU x9.1.1, vU x9.1.2] 27) :: As) _
          rw [d17]
          exact S44
        · intro L f31 w44 hL hd hc ⟨m36, L57, S45, K, hO⟩
          have d17 : L 17 = false := undep hc hL rfl
          have d1 : L 1 = true := dep hd rfl
          have e26 := K 1 d1
          have d2 : L 2 = true := dep hd rfl
          have e27 := K 2 d2
          replace S45 : St _ ((bx b2 (bif L 17 then [vU x11.1, vU x11.2] else [vU 0, vU 0]) 27) :: (bx b1 [vU a1.1, vU a1.2] 27) :: (bx b5 [vU x4.1, vU x4.2] 27) :: (bx b6 [vU x6.1, vU x6.2] 27) :: (bx b9 [vU x9.1.1, vU x9.1.2] 27) :: As) _ := S45
          rw [d17] at S45
          obtain ⟨u31, rfl⟩ := fr_of (N := 104) (L := [(57, a3v0), (58, vI x2)]) hO ⟨e26, e27, trivial⟩
          replace S45 : St _ ((bx b2 [vU 0, vU 0] 27) :: (bx b1 [vU a1.1, vU a1.2] 27) :: (bx b5 [vU x4.1, vU x4.2] 27) :: (bx b6 [vU x6.1, vU x6.2] 27) :: (bx b9 [vU x9.1.1, vU x9.1.2] 27) :: As) _ := S45
          replace a3h0 := a3h0.up L57
          have L58 := Mem.rfl' m36
          refine s_idx (q := x10) rfl rfl a3h0 q10 Tryd.underlying22 Tryd.sizeOf27 ?_
          intro p1 c1 h10 r1
          obtain rfl := rep_arr2_UInt64 r1
          refine wpn ?_
          refine ⟨m36, Mem.tr L57 L58, ?_, facts_step HM rfl K L58 rfl rfl ⟨p1, rfl, h10⟩, outP⟩
          show St _ ((bx b2 (bif L 17 then [vU x11.1, vU x11.2] else [vU 0, vU 0]) 27) :: (bx b1 [vU a1.1, vU a1.2] 27) :: (bx b5 [vU x4.1, vU x4.2] 27) :: (bx b6 [vU x6.1, vU x6.2] 27) :: (bx b9 [vU x9.1.1, vU x9.1.2] 27) :: As) _
          rw [d17]
          exact S45
        · intro L f32 w45 hL hd hc ⟨m37, L59, S46, K, hO⟩
          have d17 : L 17 = false := undep hc hL rfl
          have d3 : L 3 = true := dep hd rfl
          obtain ⟨v9, e28, h11⟩ := K 3 d3
          replace S46 : St _ ((bx b2 (bif L 17 then [vU x11.1, vU x11.2] else [vU 0, vU 0]) 27) :: (bx b1 [vU a1.1, vU a1.2] 27) :: (bx b5 [vU x4.1, vU x4.2] 27) :: (bx b6 [vU x6.1, vU x6.2] 27) :: (bx b9 [vU x9.1.1, vU x9.1.2] 27) :: As) _ := S46
          rw [d17] at S46
          obtain ⟨u32, rfl⟩ := fr_of (N := 104) (L := [(59, v9)]) hO ⟨e28, trivial⟩
          replace S46 : St _ ((bx b2 [vU 0, vU 0] 27) :: (bx b1 [vU a1.1, vU a1.2] 27) :: (bx b5 [vU x4.1, vU x4.2] 27) :: (bx b6 [vU x6.1, vU x6.2] 27) :: (bx b9 [vU x9.1.1, vU x9.1.2] 27) :: As) _ := S46
          replace a3h0 := a3h0.up L59
          have L60 := Mem.rfl' m37
          refine s_ldM (cs := [vU x10.1, vU x10.2]) S46 rfl h11 rfl Tryd.isAgg27 Tryd.sizeOf27 (fun h => by cases h) ?_
          refine wpn ?_
          refine ⟨m37, Mem.tr L59 L60, ?_, facts_step HM rfl K L60 rfl rfl rfl, outP⟩
          show St _ ((bx b2 (bif L 17 then [vU x11.1, vU x11.2] else [vU 0, vU 0]) 27) :: (bx b1 [vU a1.1, vU a1.2] 27) :: (bx b5 [vU x4.1, vU x4.2] 27) :: (bx b6 [vU x6.1, vU x6.2] 27) :: (bx b9 [vU x9.1.1, vU x9.1.2] 27) :: As) _
          rw [d17]
          exact S46
        · intro L f33 w46 hL hd hc ⟨m38, L61, S47, K, hO⟩
          have d17 : L 17 = false := undep hc hL rfl
          have d0 : L 0 = true := dep hd rfl
          have e29 := K 0 d0
          have d4 : L 4 = true := dep hd rfl
          have e30 := K 4 d4
          replace S47 : St _ ((bx b2 (bif L 17 then [vU x11.1, vU x11.2] else [vU 0, vU 0]) 27) :: (bx b1 [vU a1.1, vU a1.2] 27) :: (bx b5 [vU x4.1, vU x4.2] 27) :: (bx b6 [vU x6.1, vU x6.2] 27) :: (bx b9 [vU x9.1.1, vU x9.1.2] 27) :: As) _ := S47
          rw [d17] at S47
          obtain ⟨u33, rfl⟩ := fr_of (N := 104) (L := [(56, .agg #[vU x9.1.1, vU x9.1.2]), (60, .agg #[vU x10.1, vU x10.2])]) hO ⟨e29, e30, trivial⟩
          replace S47 : St _ ((bx b2 [vU 0, vU 0] 27) :: (bx b1 [vU a1.1, vU a1.2] 27) :: (bx b5 [vU x4.1, vU x4.2] 27) :: (bx b6 [vU x6.1, vU x6.2] 27) :: (bx b9 [vU x9.1.1, vU x9.1.2] 27) :: As) _ := S47
          replace a3h0 := a3h0.up L61
          have L62 := Mem.rfl' m38
          refine s_call Tryd.call29 (w_hash_Pair (a0 := x9.1) (a1 := x10) S47  q11) rfl ?_
          rintro _ w47 ⟨m39, l7, S48, rfl⟩
          replace a3h0 := a3h0.up l7
          replace L62 := Mem.tr L62 l7
          clear S47
          replace S48 : St _ ((bx b2 [vU 0, vU 0] 27) :: (bx b1 [vU a1.1, vU a1.2] 27) :: (bx b5 [vU x4.1, vU x4.2] 27) :: (bx b6 [vU x6.1, vU x6.2] 27) :: (bx b9 [vU x9.1.1, vU x9.1.2] 27) :: As) _ := S48
          refine wpn ?_
          refine ⟨m39, Mem.tr L61 L62, ?_, facts_step HM rfl K L62 rfl rfl rfl, outP⟩
          show St _ ((bx b2 (bif L 17 then [vU x11.1, vU x11.2] else [vU 0, vU 0]) 27) :: (bx b1 [vU a1.1, vU a1.2] 27) :: (bx b5 [vU x4.1, vU x4.2] 27) :: (bx b6 [vU x6.1, vU x6.2] 27) :: (bx b9 [vU x9.1.1, vU x9.1.2] 27) :: As) _
          rw [d17]
          exact S48
        · intro L f34 w48 hL hd hc ⟨m40, L63, S49, K, hO⟩
          have d7 : L 7 = false := undep hc hL rfl
          have d15 : L 15 = false := undep hc d7 rfl
          have d17 : L 17 = false := undep hc d15 rfl
          replace S49 : St _ ((bx b2 (bif L 17 then [vU x11.1, vU x11.2] else [vU 0, vU 0]) 27) :: (bx b1 [vU a1.1, vU a1.2] 27) :: (bx b5 [vU x4.1, vU x4.2] 27) :: (bx b6 [vU x6.1, vU x6.2] 27) :: (bx b9 [vU x9.1.1, vU x9.1.2] 27) :: As) _ := S49
          rw [d17] at S49
          obtain ⟨u34, rfl⟩ := fr_of (N := 104) (L := []) hO trivial
          replace S49 : St _ ((bx b2 [vU 0, vU 0] 27) :: (bx b1 [vU a1.1, vU a1.2] 27) :: (bx b5 [vU x4.1, vU x4.2] 27) :: (bx b6 [vU x6.1, vU x6.2] 27) :: (bx b9 [vU x9.1.1, vU x9.1.2] 27) :: As) _ := S49
          have L64 := Mem.rfl' m40
          refine s_mvv (v := vb x9.2) rfl ?_
          refine wpn ?_
          refine ⟨m40, Mem.tr L63 L64, ?_, facts_step HM rfl K L64 rfl rfl rfl, outP⟩
          show St _ ((bx b2 (bif L 17 then [vU x11.1, vU x11.2] else [vU 0, vU 0]) 27) :: (bx b1 [vU a1.1, vU a1.2] 27) :: (bx b5 [vU x4.1, vU x4.2] 27) :: (bx b6 [vU x6.1, vU x6.2] 27) :: (bx b9 [vU x9.1.1, vU x9.1.2] 27) :: As) _
          rw [d17]
          exact S49
        · intro L f35 w49 hL hd hc ⟨m41, L65, S50, K, hO⟩
          have d15 : L 15 = false := undep hc hL rfl
          have d17 : L 17 = false := undep hc d15 rfl
          have d6 : L 6 = true := dep hd rfl
          have e31 := K 6 d6
          replace S50 : St _ ((bx b2 (bif L 17 then [vU x11.1, vU x11.2] else [vU 0, vU 0]) 27) :: (bx b1 [vU a1.1, vU a1.2] 27) :: (bx b5 [vU x4.1, vU x4.2] 27) :: (bx b6 [vU x6.1, vU x6.2] 27) :: (bx b9 [vU x9.1.1, vU x9.1.2] 27) :: As) _ := S50
          rw [d17] at S50
          obtain ⟨u35, rfl⟩ := fr_of (N := 104) (L := [(62, vb x9.2)]) hO ⟨e31, trivial⟩
          replace S50 : St _ ((bx b2 [vU 0, vU 0] 27) :: (bx b1 [vU a1.1, vU a1.2] 27) :: (bx b5 [vU x4.1, vU x4.2] 27) :: (bx b6 [vU x6.1, vU x6.2] 27) :: (bx b9 [vU x9.1.1, vU x9.1.2] 27) :: As) _ := S50
          have L66 := Mem.rfl' m41
          refine s_mvv (v := vb x9.2) rfl ?_
          refine wpn ?_
          refine ⟨m41, Mem.tr L65 L66, ?_, facts_step HM rfl K L66 rfl rfl rfl, outP⟩
          show St _ ((bx b2 (bif L 17 then [vU x11.1, vU x11.2] else [vU 0, vU 0]) 27) :: (bx b1 [vU a1.1, vU a1.2] 27) :: (bx b5 [vU x4.1, vU x4.2] 27) :: (bx b6 [vU x6.1, vU x6.2] 27) :: (bx b9 [vU x9.1.1, vU x9.1.2] 27) :: As) _
          rw [d17]
          exact S50
        · intro L f36 w50 hL hd hc ⟨m42, L67, S51, K, hO⟩
          rcases bool_tf x9.2 with hb2 | hb2
          · have d15 : L 15 = false := undep hc hL rfl
            have d17 : L 17 = false := undep hc d15 rfl
            have d7 : L 7 = true := dep hd rfl
            have e33 := K 7 d7
            replace S51 : St _ ((bx b2 (bif L 17 then [vU x11.1, vU x11.2] else [vU 0, vU 0]) 27) :: (bx b1 [vU a1.1, vU a1.2] 27) :: (bx b5 [vU x4.1, vU x4.2] 27) :: (bx b6 [vU x6.1, vU x6.2] 27) :: (bx b9 [vU x9.1.1, vU x9.1.2] 27) :: As) _ := S51
            rw [d17] at S51
            obtain ⟨u37, rfl⟩ := fr_of (N := 104) (L := [(63, vb x9.2)]) hO ⟨e33, trivial⟩
            replace S51 : St _ ((bx b2 [vU 0, vU 0] 27) :: (bx b1 [vU a1.1, vU a1.2] 27) :: (bx b5 [vU x4.1, vU x4.2] 27) :: (bx b6 [vU x6.1, vU x6.2] 27) :: (bx b9 [vU x9.1.1, vU x9.1.2] 27) :: As) _ := S51
            have L69 := Mem.rfl' m42
            refine wpl_no (d := 63) rfl rfl (congrArg Value.bool hb2) ?_
            refine wpn ?_
            refine ⟨m42, Mem.tr L67 L69, ?_, facts_step HM rfl K L69 rfl rfl ⟨fun hx => tf hx (not_f hb2), fun _ => rfl⟩, outP⟩
            show St _ ((bx b2 (bif L 17 then [vU x11.1, vU x11.2] else [vU 0, vU 0]) 27) :: (bx b1 [vU a1.1, vU a1.2] 27) :: (bx b5 [vU x4.1, vU x4.2] 27) :: (bx b6 [vU x6.1, vU x6.2] 27) :: (bx b9 [vU x9.1.1, vU x9.1.2] 27) :: As) _
            rw [d17]
            exact S51
          have d15 : L 15 = false := undep hc hL rfl
          have d17 : L 17 = false := undep hc d15 rfl
          have d7 : L 7 = true := dep hd rfl
          have e32 := K 7 d7
          replace S51 : St _ ((bx b2 (bif L 17 then [vU x11.1, vU x11.2] else [vU 0, vU 0]) 27) :: (bx b1 [vU a1.1, vU a1.2] 27) :: (bx b5 [vU x4.1, vU x4.2] 27) :: (bx b6 [vU x6.1, vU x6.2] 27) :: (bx b9 [vU x9.1.1, vU x9.1.2] 27) :: As) _ := S51
          rw [d17] at S51
          obtain ⟨u36, rfl⟩ := fr_of (N := 104) (L := [(63, vb x9.2)]) hO ⟨e32, trivial⟩
          replace S51 : St _ ((bx b2 [vU 0, vU 0] 27) :: (bx b1 [vU a1.1, vU a1.2] 27) :: (bx b5 [vU x4.1, vU x4.2] 27) :: (bx b6 [vU x6.1, vU x6.2] 27) :: (bx b9 [vU x9.1.1, vU x9.1.2] 27) :: As) _ := S51
          replace a3h0 := a3h0.up L67
          have L68 := Mem.rfl' m42
          refine wpl_yes (d := 63) rfl rfl (congrArg Value.bool hb2) ?_
          refine s_ld (i := 4) (cs := [vU x9.1.1, vU x9.1.2]) S51 rfl rfl Tryd.isAgg27 Tryd.sizeOf27 rfl (fun h => by cases h) ?_
          refine wpn ?_
          refine ⟨m42, Mem.tr L67 L68, ?_, facts_step HM rfl K L68 rfl rfl ⟨fun _ => rfl, fun hx => tf (not_t hb2) hx⟩, outP⟩
          show St _ ((bx b2 (bif L 17 then [vU x11.1, vU x11.2] else [vU 0, vU 0]) 27) :: (bx b1 [vU a1.1, vU a1.2] 27) :: (bx b5 [vU x4.1, vU x4.2] 27) :: (bx b6 [vU x6.1, vU x6.2] 27) :: (bx b9 [vU x9.1.1, vU x9.1.2] 27) :: As) _
          rw [d17]
          exact S51
        · intro L f37 w51 hL hd hc ⟨m43, L70, S52, K, hO⟩
          rcases bool_tf x9.2 with hb3 | hb3
          · have d11 : L 11 = false := undep hc hL rfl
            have d12 : L 12 = false := undep hc d11 rfl
            have d15 : L 15 = false := undep hc d12 rfl
            have d17 : L 17 = false := undep hc d15 rfl
            have d7 : L 7 = true := dep hd rfl
            have e35 := K 7 d7
            replace S52 : St _ ((bx b2 (bif L 17 then [vU x11.1, vU x11.2] else [vU 0, vU 0]) 27) :: (bx b1 [vU a1.1, vU a1.2] 27) :: (bx b5 [vU x4.1, vU x4.2] 27) :: (bx b6 [vU x6.1, vU x6.2] 27) :: (bx b9 [vU x9.1.1, vU x9.1.2] 27) :: As) _ := S52
            rw [d17] at S52
            obtain ⟨u39, rfl⟩ := fr_of (N := 104) (L := [(63, vb x9.2)]) hO ⟨e35, trivial⟩
            replace S52 : St _ ((bx b2 [vU 0, vU 0] 27) :: (bx b1 [vU a1.1, vU a1.2] 27) :: (bx b5 [vU x4.1, vU x4.2] 27) :: (bx b6 [vU x6.1, vU x6.2] 27) :: (bx b9 [vU x9.1.1, vU x9.1.2] 27) :: As) _ := S52
            have L72 := Mem.rfl' m43
            refine wpl_no (d := 63) rfl rfl (congrArg Value.bool hb3) ?_
            refine wpn ?_
            refine ⟨m43, Mem.tr L70 L72, ?_, facts_step HM rfl K L72 rfl rfl ⟨fun hx => tf hx (not_f hb3), fun _ => rfl⟩, outP⟩
            show St _ ((bx b2 (bif L 17 then [vU x11.1, vU x11.2] else [vU 0, vU 0]) 27) :: (bx b1 [vU a1.1, vU a1.2] 27) :: (bx b5 [vU x4.1, vU x4.2] 27) :: (bx b6 [vU x6.1, vU x6.2] 27) :: (bx b9 [vU x9.1.1, vU x9.1.2] 27) :: As) _
            rw [d17]
            exact S52
          have d11 : L 11 = false := undep hc hL rfl
          have d12 : L 12 = false := undep hc d11 rfl
          have d15 : L 15 = false := undep hc d12 rfl
          have d17 : L 17 = false := undep hc d15 rfl
          have d7 : L 7 = true := dep hd rfl
          have e34 := K 7 d7
          replace S52 : St _ ((bx b2 (bif L 17 then [vU x11.1, vU x11.2] else [vU 0, vU 0]) 27) :: (bx b1 [vU a1.1, vU a1.2] 27) :: (bx b5 [vU x4.1, vU x4.2] 27) :: (bx b6 [vU x6.1, vU x6.2] 27) :: (bx b9 [vU x9.1.1, vU x9.1.2] 27) :: As) _ := S52
          rw [d17] at S52
          obtain ⟨u38, rfl⟩ := fr_of (N := 104) (L := [(63, vb x9.2)]) hO ⟨e34, trivial⟩
          replace S52 : St _ ((bx b2 [vU 0, vU 0] 27) :: (bx b1 [vU a1.1, vU a1.2] 27) :: (bx b5 [vU x4.1, vU x4.2] 27) :: (bx b6 [vU x6.1, vU x6.2] 27) :: (bx b9 [vU x9.1.1, vU x9.1.2] 27) :: As) _ := S52
          have L71 := Mem.rfl' m43
          refine wpl_yes (d := 63) rfl rfl (congrArg Value.bool hb3) ?_
          refine s_mvv (v := a3v0) rfl ?_
          refine wpn ?_
          refine ⟨m43, Mem.tr L70 L71, ?_, facts_step HM rfl K L71 rfl rfl ⟨fun _ => rfl, fun hx => tf (not_t hb3) hx⟩, outP⟩
          show St _ ((bx b2 (bif L 17 then [vU x11.1, vU x11.2] else [vU 0, vU 0]) 27) :: (bx b1 [vU a1.1, vU a1.2] 27) :: (bx b5 [vU x4.1, vU x4.2] 27) :: (bx b6 [vU x6.1, vU x6.2] 27) :: (bx b9 [vU x9.1.1, vU x9.1.2] 27) :: As) _
          rw [d17]
          exact S52
        · intro L f38 w52 hL hd hc ⟨m44, L73, S53, K, hO⟩
          rcases bool_tf x9.2 with hb4 | hb4
          · have d11 : L 11 = false := undep hc hL rfl
            have d12 : L 12 = false := undep hc d11 rfl
            have d15 : L 15 = false := undep hc d12 rfl
            have d17 : L 17 = false := undep hc d15 rfl
            have d7 : L 7 = true := dep hd rfl
            have e37 := K 7 d7
            replace S53 : St _ ((bx b2 (bif L 17 then [vU x11.1, vU x11.2] else [vU 0, vU 0]) 27) :: (bx b1 [vU a1.1, vU a1.2] 27) :: (bx b5 [vU x4.1, vU x4.2] 27) :: (bx b6 [vU x6.1, vU x6.2] 27) :: (bx b9 [vU x9.1.1, vU x9.1.2] 27) :: As) _ := S53
            rw [d17] at S53
            obtain ⟨u41, rfl⟩ := fr_of (N := 104) (L := [(63, vb x9.2)]) hO ⟨e37, trivial⟩
            replace S53 : St _ ((bx b2 [vU 0, vU 0] 27) :: (bx b1 [vU a1.1, vU a1.2] 27) :: (bx b5 [vU x4.1, vU x4.2] 27) :: (bx b6 [vU x6.1, vU x6.2] 27) :: (bx b9 [vU x9.1.1, vU x9.1.2] 27) :: As) _ := S53
            have L75 := Mem.rfl' m44
            refine wpl_no (d := 63) rfl rfl (congrArg Value.bool hb4) ?_
            refine wpn ?_
            refine ⟨m44, Mem.tr L73 L75, ?_, facts_step HM rfl K L75 rfl rfl ⟨fun hx => tf hx (not_f hb4), fun _ => rfl⟩, outP⟩
            show St _ ((bx b2 (bif L 17 then [vU x11.1, vU x11.2] else [vU 0, vU 0]) 27) :: (bx b1 [vU a1.1, vU a1.2] 27) :: (bx b5 [vU x4.1, vU x4.2] 27) :: (bx b6 [vU x6.1, vU x6.2] 27) :: (bx b9 [vU x9.1.1, vU x9.1.2] 27) :: As) _
            rw [d17]
            exact S53
          have d11 : L 11 = false := undep hc hL rfl
          have d12 : L 12 = false := undep hc d11 rfl
          have d15 : L 15 = false := undep hc d12 rfl
          have d17 : L 17 = false := undep hc d15 rfl
          have d7 : L 7 = true := dep hd rfl
          have e36 := K 7 d7
          replace S53 : St _ ((bx b2 (bif L 17 then [vU x11.1, vU x11.2] else [vU 0, vU 0]) 27) :: (bx b1 [vU a1.1, vU a1.2] 27) :: (bx b5 [vU x4.1, vU x4.2] 27) :: (bx b6 [vU x6.1, vU x6.2] 27) :: (bx b9 [vU x9.1.1, vU x9.1.2] 27) :: As) _ := S53
          rw [d17] at S53
          obtain ⟨u40, rfl⟩ := fr_of (N := 104) (L := [(63, vb x9.2)]) hO ⟨e36, trivial⟩
          replace S53 : St _ ((bx b2 [vU 0, vU 0] 27) :: (bx b1 [vU a1.1, vU a1.2] 27) :: (bx b5 [vU x4.1, vU x4.2] 27) :: (bx b6 [vU x6.1, vU x6.2] 27) :: (bx b9 [vU x9.1.1, vU x9.1.2] 27) :: As) _ := S53
          have L74 := Mem.rfl' m44
          refine wpl_yes (d := 63) rfl rfl (congrArg Value.bool hb4) ?_
          refine s_mvv (v := vI x2) rfl ?_
          refine wpn ?_
          refine ⟨m44, Mem.tr L73 L74, ?_, facts_step HM rfl K L74 rfl rfl ⟨fun _ => rfl, fun hx => tf (not_t hb4) hx⟩, outP⟩
          show St _ ((bx b2 (bif L 17 then [vU x11.1, vU x11.2] else [vU 0, vU 0]) 27) :: (bx b1 [vU a1.1, vU a1.2] 27) :: (bx b5 [vU x4.1, vU x4.2] 27) :: (bx b6 [vU x6.1, vU x6.2] 27) :: (bx b9 [vU x9.1.1, vU x9.1.2] 27) :: As) _
          rw [d17]
          exact S53
        · intro L f39 w53 hL hd hc ⟨m45, L76, S54, K, hO⟩
          rcases bool_tf x9.2 with hb5 | hb5
          · have d12 : L 12 = false := undep hc hL rfl
            have d15 : L 15 = false := undep hc d12 rfl
            have d17 : L 17 = false := undep hc d15 rfl
            have d7 : L 7 = true := dep hd rfl
            have e41 := K 7 d7
            replace S54 : St _ ((bx b2 (bif L 17 then [vU x11.1, vU x11.2] else [vU 0, vU 0]) 27) :: (bx b1 [vU a1.1, vU a1.2] 27) :: (bx b5 [vU x4.1, vU x4.2] 27) :: (bx b6 [vU x6.1, vU x6.2] 27) :: (bx b9 [vU x9.1.1, vU x9.1.2] 27) :: As) _ := S54
            rw [d17] at S54
            obtain ⟨u43, rfl⟩ := fr_of (N := 104) (L := [(63, vb x9.2)]) hO ⟨e41, trivial⟩
            replace S54 : St _ ((bx b2 [vU 0, vU 0] 27) :: (bx b1 [vU a1.1, vU a1.2] 27) :: (bx b5 [vU x4.1, vU x4.2] 27) :: (bx b6 [vU x6.1, vU x6.2] 27) :: (bx b9 [vU x9.1.1, vU x9.1.2] 27) :: As) _ := S54
            have L78 := Mem.rfl' m45
            refine wpl_no (d := 63) rfl rfl (congrArg Value.bool hb5) ?_
            refine wpn ?_
            refine ⟨m45, Mem.tr L76 L78, ?_, facts_step HM rfl K L78 rfl rfl ⟨fun hx => tf hx (not_f hb5), fun _ => rfl⟩, outP⟩
            show St _ ((bx b2 (bif L 17 then [vU x11.1, vU x11.2] else [vU 0, vU 0]) 27) :: (bx b1 [vU a1.1, vU a1.2] 27) :: (bx b5 [vU x4.1, vU x4.2] 27) :: (bx b6 [vU x6.1, vU x6.2] 27) :: (bx b9 [vU x9.1.1, vU x9.1.2] 27) :: As) _
            rw [d17]
            exact S54
          have d12 : L 12 = false := undep hc hL rfl
          have d15 : L 15 = false := undep hc d12 rfl
          have d17 : L 17 = false := undep hc d15 rfl
          have d7 : L 7 = true := dep hd rfl
          have e38 := K 7 d7
          have d9 : L 9 = true := dep hd rfl
          have e39 := (K 9 d9).1 (not_t hb5)
          have d10 : L 10 = true := dep hd rfl
          have e40 := (K 10 d10).1 (not_t hb5)
          replace S54 : St _ ((bx b2 (bif L 17 then [vU x11.1, vU x11.2] else [vU 0, vU 0]) 27) :: (bx b1 [vU a1.1, vU a1.2] 27) :: (bx b5 [vU x4.1, vU x4.2] 27) :: (bx b6 [vU x6.1, vU x6.2] 27) :: (bx b9 [vU x9.1.1, vU x9.1.2] 27) :: As) _ := S54
          rw [d17] at S54
          obtain ⟨u42, rfl⟩ := fr_of (N := 104) (L := [(63, vb x9.2), (65, a3v0), (66, vI x2)]) hO ⟨e38, e39, e40, trivial⟩
          replace S54 : St _ ((bx b2 [vU 0, vU 0] 27) :: (bx b1 [vU a1.1, vU a1.2] 27) :: (bx b5 [vU x4.1, vU x4.2] 27) :: (bx b6 [vU x6.1, vU x6.2] 27) :: (bx b9 [vU x9.1.1, vU x9.1.2] 27) :: As) _ := S54
          replace a3h0 := a3h0.up L76
          have L77 := Mem.rfl' m45
          refine wpl_yes (d := 63) rfl rfl (congrArg Value.bool hb5) ?_
          replace q12 := gu_t (not_t hb5) q12
          refine s_idx (q := x12) rfl rfl a3h0 q12 Tryd.underlying22 Tryd.sizeOf27 ?_
          intro p2 c2 h12 r2
          obtain rfl := rep_arr2_UInt64 r2
          refine wpn ?_
          refine ⟨m45, Mem.tr L76 L77, ?_, facts_step HM rfl K L77 rfl rfl ⟨fun _ => ⟨p2, rfl, h12⟩, fun hx => tf (not_t hb5) hx⟩, outP⟩
          show St _ ((bx b2 (bif L 17 then [vU x11.1, vU x11.2] else [vU 0, vU 0]) 27) :: (bx b1 [vU a1.1, vU a1.2] 27) :: (bx b5 [vU x4.1, vU x4.2] 27) :: (bx b6 [vU x6.1, vU x6.2] 27) :: (bx b9 [vU x9.1.1, vU x9.1.2] 27) :: As) _
          rw [d17]
          exact S54
        · intro L f40 w54 hL hd hc ⟨m46, L79, S55, K, hO⟩
          rcases bool_tf x9.2 with hb6 | hb6
          · have d15 : L 15 = false := undep hc hL rfl
            have d17 : L 17 = false := undep hc d15 rfl
            have d7 : L 7 = true := dep hd rfl
            have e44 := K 7 d7
            replace S55 : St _ ((bx b2 (bif L 17 then [vU x11.1, vU x11.2] else [vU 0, vU 0]) 27) :: (bx b1 [vU a1.1, vU a1.2] 27) :: (bx b5 [vU x4.1, vU x4.2] 27) :: (bx b6 [vU x6.1, vU x6.2] 27) :: (bx b9 [vU x9.1.1, vU x9.1.2] 27) :: As) _ := S55
            rw [d17] at S55
            obtain ⟨u45, rfl⟩ := fr_of (N := 104) (L := [(63, vb x9.2)]) hO ⟨e44, trivial⟩
            replace S55 : St _ ((bx b2 [vU 0, vU 0] 27) :: (bx b1 [vU a1.1, vU a1.2] 27) :: (bx b5 [vU x4.1, vU x4.2] 27) :: (bx b6 [vU x6.1, vU x6.2] 27) :: (bx b9 [vU x9.1.1, vU x9.1.2] 27) :: As) _ := S55
            have L81 := Mem.rfl' m46
            refine wpl_no (d := 63) rfl rfl (congrArg Value.bool hb6) ?_
            refine wpn ?_
            refine ⟨m46, Mem.tr L79 L81, ?_, facts_step HM rfl K L81 rfl rfl ⟨fun hx => tf hx (not_f hb6), fun _ => rfl⟩, outP⟩
            show St _ ((bx b2 (bif L 17 then [vU x11.1, vU x11.2] else [vU 0, vU 0]) 27) :: (bx b1 [vU a1.1, vU a1.2] 27) :: (bx b5 [vU x4.1, vU x4.2] 27) :: (bx b6 [vU x6.1, vU x6.2] 27) :: (bx b9 [vU x9.1.1, vU x9.1.2] 27) :: As) _
            rw [d17]
            exact S55
          have d15 : L 15 = false := undep hc hL rfl
          have d17 : L 17 = false := undep hc d15 rfl
          have d7 : L 7 = true := dep hd rfl
          have e42 := K 7 d7
          have d11 : L 11 = true := dep hd rfl
          obtain ⟨v10, e43, h13⟩ := (K 11 d11).1 (not_t hb6)
          replace S55 : St _ ((bx b2 (bif L 17 then [vU x11.1, vU x11.2] else [vU 0, vU 0]) 27) :: (bx b1 [vU a1.1, vU a1.2] 27) :: (bx b5 [vU x4.1, vU x4.2] 27) :: (bx b6 [vU x6.1, vU x6.2] 27) :: (bx b9 [vU x9.1.1, vU x9.1.2] 27) :: As) _ := S55
          rw [d17] at S55
          obtain ⟨u44, rfl⟩ := fr_of (N := 104) (L := [(63, vb x9.2), (67, v10)]) hO ⟨e42, e43, trivial⟩
          replace S55 : St _ ((bx b2 [vU 0, vU 0] 27) :: (bx b1 [vU a1.1, vU a1.2] 27) :: (bx b5 [vU x4.1, vU x4.2] 27) :: (bx b6 [vU x6.1, vU x6.2] 27) :: (bx b9 [vU x9.1.1, vU x9.1.2] 27) :: As) _ := S55
          replace a3h0 := a3h0.up L79
          have L80 := Mem.rfl' m46
          refine wpl_yes (d := 63) rfl rfl (congrArg Value.bool hb6) ?_
          refine s_ldM (cs := [vU x12.1, vU x12.2]) S55 rfl h13 rfl Tryd.isAgg27 Tryd.sizeOf27 (fun h => by cases h) ?_
          refine wpn ?_
          refine ⟨m46, Mem.tr L79 L80, ?_, facts_step HM rfl K L80 rfl rfl ⟨fun _ => rfl, fun hx => tf (not_t hb6) hx⟩, outP⟩
          show St _ ((bx b2 (bif L 17 then [vU x11.1, vU x11.2] else [vU 0, vU 0]) 27) :: (bx b1 [vU a1.1, vU a1.2] 27) :: (bx b5 [vU x4.1, vU x4.2] 27) :: (bx b6 [vU x6.1, vU x6.2] 27) :: (bx b9 [vU x9.1.1, vU x9.1.2] 27) :: As) _
          rw [d17]
          exact S55
        · intro L f41 w55 hL hd hc ⟨m47, L82, S56, K, hO⟩
          rcases bool_tf x9.2 with hb7 | hb7
          · have d15 : L 15 = false := undep hc hL rfl
            have d17 : L 17 = false := undep hc d15 rfl
            have d7 : L 7 = true := dep hd rfl
            have e46 := K 7 d7
            replace S56 : St _ ((bx b2 (bif L 17 then [vU x11.1, vU x11.2] else [vU 0, vU 0]) 27) :: (bx b1 [vU a1.1, vU a1.2] 27) :: (bx b5 [vU x4.1, vU x4.2] 27) :: (bx b6 [vU x6.1, vU x6.2] 27) :: (bx b9 [vU x9.1.1, vU x9.1.2] 27) :: As) _ := S56
            rw [d17] at S56
            obtain ⟨u47, rfl⟩ := fr_of (N := 104) (L := [(63, vb x9.2)]) hO ⟨e46, trivial⟩
            replace S56 : St _ ((bx b2 [vU 0, vU 0] 27) :: (bx b1 [vU a1.1, vU a1.2] 27) :: (bx b5 [vU x4.1, vU x4.2] 27) :: (bx b6 [vU x6.1, vU x6.2] 27) :: (bx b9 [vU x9.1.1, vU x9.1.2] 27) :: As) _ := S56
            have L84 := Mem.rfl' m47
            refine wpl_no (d := 63) rfl rfl (congrArg Value.bool hb7) ?_
            refine wpn ?_
            refine ⟨m47, Mem.tr L82 L84, ?_, facts_step HM rfl K L84 rfl rfl ⟨fun hx => tf hx (not_f hb7), fun _ => rfl⟩, outP⟩
            show St _ ((bx b2 (bif L 17 then [vU x11.1, vU x11.2] else [vU 0, vU 0]) 27) :: (bx b1 [vU a1.1, vU a1.2] 27) :: (bx b5 [vU x4.1, vU x4.2] 27) :: (bx b6 [vU x6.1, vU x6.2] 27) :: (bx b9 [vU x9.1.1, vU x9.1.2] 27) :: As) _
            rw [d17]
            exact S56
          have d15 : L 15 = false := undep hc hL rfl
          have d17 : L 17 = false := undep hc d15 rfl
          have d7 : L 7 = true := dep hd rfl
          have e45 := K 7 d7
          replace S56 : St _ ((bx b2 (bif L 17 then [vU x11.1, vU x11.2] else [vU 0, vU 0]) 27) :: (bx b1 [vU a1.1, vU a1.2] 27) :: (bx b5 [vU x4.1, vU x4.2] 27) :: (bx b6 [vU x6.1, vU x6.2] 27) :: (bx b9 [vU x9.1.1, vU x9.1.2] 27) :: As) _ := S56
          rw [d17] at S56
          obtain ⟨u46, rfl⟩ := fr_of (N := 104) (L := [(63, vb x9.2)]) hO ⟨e45, trivial⟩
          replace S56 : St _ ((bx b2 [vU 0, vU 0] 27) :: (bx b1 [vU a1.1, vU a1.2] 27) :: (bx b5 [vU x4.1, vU x4.2] 27) :: (bx b6 [vU x6.1, vU x6.2] 27) :: (bx b9 [vU x9.1.1, vU x9.1.2] 27) :: As) _ := S56
          replace a3h0 := a3h0.up L82
          have L83 := Mem.rfl' m47
          refine wpl_yes (d := 63) rfl rfl (congrArg Value.bool hb7) ?_
          refine s_ld (i := 2) (cs := [vU x4.1, vU x4.2]) S56 rfl rfl Tryd.isAgg27 Tryd.sizeOf27 rfl (fun h => by cases h) ?_
          refine wpn ?_
          refine ⟨m47, Mem.tr L82 L83, ?_, facts_step HM rfl K L83 rfl rfl ⟨fun _ => rfl, fun hx => tf (not_t hb7) hx⟩, outP⟩
          show St _ ((bx b2 (bif L 17 then [vU x11.1, vU x11.2] else [vU 0, vU 0]) 27) :: (bx b1 [vU a1.1, vU a1.2] 27) :: (bx b5 [vU x4.1, vU x4.2] 27) :: (bx b6 [vU x6.1, vU x6.2] 27) :: (bx b9 [vU x9.1.1, vU x9.1.2] 27) :: As) _
          rw [d17]
          exact S56
        · intro L f42 w56 hL hd hc ⟨m48, L85, S57, K, hO⟩
          rcases bool_tf x9.2 with hb8 | hb8
          · have d15 : L 15 = false := undep hc hL rfl
            have d17 : L 17 = false := undep hc d15 rfl
            have d7 : L 7 = true := dep hd rfl
            have e48 := K 7 d7
            replace S57 : St _ ((bx b2 (bif L 17 then [vU x11.1, vU x11.2] else [vU 0, vU 0]) 27) :: (bx b1 [vU a1.1, vU a1.2] 27) :: (bx b5 [vU x4.1, vU x4.2] 27) :: (bx b6 [vU x6.1, vU x6.2] 27) :: (bx b9 [vU x9.1.1, vU x9.1.2] 27) :: As) _ := S57
            rw [d17] at S57
            obtain ⟨u49, rfl⟩ := fr_of (N := 104) (L := [(63, vb x9.2)]) hO ⟨e48, trivial⟩
            replace S57 : St _ ((bx b2 [vU 0, vU 0] 27) :: (bx b1 [vU a1.1, vU a1.2] 27) :: (bx b5 [vU x4.1, vU x4.2] 27) :: (bx b6 [vU x6.1, vU x6.2] 27) :: (bx b9 [vU x9.1.1, vU x9.1.2] 27) :: As) _ := S57
            have L87 := Mem.rfl' m48
            refine wpl_no (d := 63) rfl rfl (congrArg Value.bool hb8) ?_
            refine wpn ?_
            refine ⟨m48, Mem.tr L85 L87, ?_, facts_step HM rfl K L87 rfl rfl ⟨fun hx => tf hx (not_f hb8), fun _ => rfl⟩, outP⟩
            show St _ ((bx b2 (bif L 17 then [vU x11.1, vU x11.2] else [vU 0, vU 0]) 27) :: (bx b1 [vU a1.1, vU a1.2] 27) :: (bx b5 [vU x4.1, vU x4.2] 27) :: (bx b6 [vU x6.1, vU x6.2] 27) :: (bx b9 [vU x9.1.1, vU x9.1.2] 27) :: As) _
            rw [d17]
            exact S57
          have d15 : L 15 = false := undep hc hL rfl
          have d17 : L 17 = false := undep hc d15 rfl
          have d7 : L 7 = true := dep hd rfl
          have e47 := K 7 d7
          replace S57 : St _ ((bx b2 (bif L 17 then [vU x11.1, vU x11.2] else [vU 0, vU 0]) 27) :: (bx b1 [vU a1.1, vU a1.2] 27) :: (bx b5 [vU x4.1, vU x4.2] 27) :: (bx b6 [vU x6.1, vU x6.2] 27) :: (bx b9 [vU x9.1.1, vU x9.1.2] 27) :: As) _ := S57
          rw [d17] at S57
          obtain ⟨u48, rfl⟩ := fr_of (N := 104) (L := [(63, vb x9.2)]) hO ⟨e47, trivial⟩
          replace S57 : St _ ((bx b2 [vU 0, vU 0] 27) :: (bx b1 [vU a1.1, vU a1.2] 27) :: (bx b5 [vU x4.1, vU x4.2] 27) :: (bx b6 [vU x6.1, vU x6.2] 27) :: (bx b9 [vU x9.1.1, vU x9.1.2] 27) :: As) _ := S57
          replace a3h0 := a3h0.up L85
          have L86 := Mem.rfl' m48
          refine wpl_yes (d := 63) rfl rfl (congrArg Value.bool hb8) ?_
          refine s_ld (i := 3) (cs := [vU x6.1, vU x6.2]) S57 rfl rfl Tryd.isAgg27 Tryd.sizeOf27 rfl (fun h => by cases h) ?_
          refine wpn ?_
          refine ⟨m48, Mem.tr L85 L86, ?_, facts_step HM rfl K L86 rfl rfl ⟨fun _ => rfl, fun hx => tf (not_t hb8) hx⟩, outP⟩
          show St _ ((bx b2 (bif L 17 then [vU x11.1, vU x11.2] else [vU 0, vU 0]) 27) :: (bx b1 [vU a1.1, vU a1.2] 27) :: (bx b5 [vU x4.1, vU x4.2] 27) :: (bx b6 [vU x6.1, vU x6.2] 27) :: (bx b9 [vU x9.1.1, vU x9.1.2] 27) :: As) _
          rw [d17]
          exact S57
        · intro L f43 w57 hL hd hc ⟨m49, L88, S58, K, hO⟩
          rcases bool_tf x9.2 with hb9 | hb9
          · have d17 : L 17 = false := undep hc hL rfl
            have d7 : L 7 = true := dep hd rfl
            have e54 := K 7 d7
            replace S58 : St _ ((bx b2 (bif L 17 then [vU x11.1, vU x11.2] else [vU 0, vU 0]) 27) :: (bx b1 [vU a1.1, vU a1.2] 27) :: (bx b5 [vU x4.1, vU x4.2] 27) :: (bx b6 [vU x6.1, vU x6.2] 27) :: (bx b9 [vU x9.1.1, vU x9.1.2] 27) :: As) _ := S58
            rw [d17] at S58
            obtain ⟨u51, rfl⟩ := fr_of (N := 104) (L := [(63, vb x9.2)]) hO ⟨e54, trivial⟩
            replace S58 : St _ ((bx b2 [vU 0, vU 0] 27) :: (bx b1 [vU a1.1, vU a1.2] 27) :: (bx b5 [vU x4.1, vU x4.2] 27) :: (bx b6 [vU x6.1, vU x6.2] 27) :: (bx b9 [vU x9.1.1, vU x9.1.2] 27) :: As) _ := S58
            have L90 := Mem.rfl' m49
            refine wpl_no (d := 63) rfl rfl (congrArg Value.bool hb9) ?_
            refine wpn ?_
            refine ⟨m49, Mem.tr L88 L90, ?_, facts_step HM rfl K L90 rfl rfl ⟨fun hx => tf hx (not_f hb9), fun _ => rfl⟩, outP⟩
            show St _ ((bx b2 (bif L 17 then [vU x11.1, vU x11.2] else [vU 0, vU 0]) 27) :: (bx b1 [vU a1.1, vU a1.2] 27) :: (bx b5 [vU x4.1, vU x4.2] 27) :: (bx b6 [vU x6.1, vU x6.2] 27) :: (bx b9 [vU x9.1.1, vU x9.1.2] 27) :: As) _
            rw [d17]
            exact S58
          have d17 : L 17 = false := undep hc hL rfl
          have d7 : L 7 = true := dep hd rfl
          have e49 := K 7 d7
          have d8 : L 8 = true := dep hd rfl
          have e50 := (K 8 d8).1 (not_t hb9)
          have d12 : L 12 = true := dep hd rfl
          have e51 := (K 12 d12).1 (not_t hb9)
          have d13 : L 13 = true := dep hd rfl
          have e52 := (K 13 d13).1 (not_t hb9)
          have d14 : L 14 = true := dep hd rfl
          have e53 := (K 14 d14).1 (not_t hb9)
          replace S58 : St _ ((bx b2 (bif L 17 then [vU x11.1, vU x11.2] else [vU 0, vU 0]) 27) :: (bx b1 [vU a1.1, vU a1.2] 27) :: (bx b5 [vU x4.1, vU x4.2] 27) :: (bx b6 [vU x6.1, vU x6.2] 27) :: (bx b9 [vU x9.1.1, vU x9.1.2] 27) :: As) _ := S58
          rw [d17] at S58
          obtain ⟨u50, rfl⟩ := fr_of (N := 104) (L := [(63, vb x9.2), (64, .agg #[vU x9.1.1, vU x9.1.2]), (68, .agg #[vU x12.1, vU x12.2]), (69, .agg #[vU x4.1, vU x4.2]), (70, .agg #[vU x6.1, vU x6.2])]) hO ⟨e49, e50, e51, e52, e53, trivial⟩
          replace S58 : St _ ((bx b2 [vU 0, vU 0] 27) :: (bx b1 [vU a1.1, vU a1.2] 27) :: (bx b5 [vU x4.1, vU x4.2] 27) :: (bx b6 [vU x6.1, vU x6.2] 27) :: (bx b9 [vU x9.1.1, vU x9.1.2] 27) :: As) _ := S58
          replace a3h0 := a3h0.up L88
          have L89 := Mem.rfl' m49
          refine wpl_yes (d := 63) rfl rfl (congrArg Value.bool hb9) ?_
          replace q13 := gu_t (not_t hb9) q13
          refine s_call Tryd.call54 (w_law08_unlike (a0 := x9.1) (a1 := x12) (a2 := x4) (a3 := x6) S58  q13) rfl ?_
          rintro _ w58 ⟨m50, l8, S59, rfl⟩
          replace a3h0 := a3h0.up l8
          replace L89 := Mem.tr L89 l8
          clear S58
          replace S59 : St _ ((bx b2 [vU 0, vU 0] 27) :: (bx b1 [vU a1.1, vU a1.2] 27) :: (bx b5 [vU x4.1, vU x4.2] 27) :: (bx b6 [vU x6.1, vU x6.2] 27) :: (bx b9 [vU x9.1.1, vU x9.1.2] 27) :: As) _ := S59
          refine wpn ?_
          refine ⟨m50, Mem.tr L88 L89, ?_, facts_step HM rfl K L89 rfl rfl ⟨fun _ => rfl, fun hx => tf (not_t hb9) hx⟩, outP⟩
          show St _ ((bx b2 (bif L 17 then [vU x11.1, vU x11.2] else [vU 0, vU 0]) 27) :: (bx b1 [vU a1.1, vU a1.2] 27) :: (bx b5 [vU x4.1, vU x4.2] 27) :: (bx b6 [vU x6.1, vU x6.2] 27) :: (bx b9 [vU x9.1.1, vU x9.1.2] 27) :: As) _
          rw [d17]
          exact S59
        · intro L f44 w59 hL hd hc ⟨m51, L91, S60, K, hO⟩
          rcases bool_tf x9.2 with hb10 | hb10
          · have d7 : L 7 = true := dep hd rfl
            have e55 := K 7 d7
            obtain ⟨u52, rfl⟩ := fr_of (N := 104) (L := [(63, vb x9.2)]) hO ⟨e55, trivial⟩
            replace S60 : St _ ((bx b2 (bif L 17 then [vU x11.1, vU x11.2] else [vU 0, vU 0]) 27) :: (bx b1 [vU a1.1, vU a1.2] 27) :: (bx b5 [vU x4.1, vU x4.2] 27) :: (bx b6 [vU x6.1, vU x6.2] 27) :: (bx b9 [vU x9.1.1, vU x9.1.2] 27) :: As) _ := S60
            have L92 := Mem.rfl' m51
            refine s_pickT (congrArg Value.bool hb10) rfl ?_
            refine wpn ?_
            refine ⟨m51, Mem.tr L91 L92, ?_, facts_step HM rfl K L92 rfl rfl (congrArg Value.bool (or_t hb10)), outP⟩
            exact S60
          · have d7 : L 7 = true := dep hd rfl
            have e56 := K 7 d7
            have d15 : L 15 = true := dep hd rfl
            have e57 := (K 15 d15).1 (not_t hb10)
            obtain ⟨u53, rfl⟩ := fr_of (N := 104) (L := [(63, vb x9.2), (71, vb x13)]) hO ⟨e56, e57, trivial⟩
            replace S60 : St _ ((bx b2 (bif L 17 then [vU x11.1, vU x11.2] else [vU 0, vU 0]) 27) :: (bx b1 [vU a1.1, vU a1.2] 27) :: (bx b5 [vU x4.1, vU x4.2] 27) :: (bx b6 [vU x6.1, vU x6.2] 27) :: (bx b9 [vU x9.1.1, vU x9.1.2] 27) :: As) _ := S60
            have L93 := Mem.rfl' m51
            refine s_pickF (congrArg Value.bool hb10) rfl ?_
            refine wpn ?_
            refine ⟨m51, Mem.tr L91 L93, ?_, facts_step HM rfl K L93 rfl rfl (congrArg Value.bool (or_f hb10)), outP⟩
            exact S60
        · intro L f45 w60 hL hd hc ⟨m52, L94, S61, K, hO⟩
          have d17 : L 17 = false := hL
          have d5 : L 5 = true := dep hd rfl
          have e58 := K 5 d5
          replace S61 : St _ ((bx b2 (bif L 17 then [vU x11.1, vU x11.2] else [vU 0, vU 0]) 27) :: (bx b1 [vU a1.1, vU a1.2] 27) :: (bx b5 [vU x4.1, vU x4.2] 27) :: (bx b6 [vU x6.1, vU x6.2] 27) :: (bx b9 [vU x9.1.1, vU x9.1.2] 27) :: As) _ := S61
          rw [d17] at S61
          obtain ⟨u54, rfl⟩ := fr_of (N := 104) (L := [(61, .agg #[vU x11.1, vU x11.2])]) hO ⟨e58, trivial⟩
          replace S61 : St _ ((bx b2 [vU 0, vU 0] 27) :: (bx b1 [vU a1.1, vU a1.2] 27) :: (bx b5 [vU x4.1, vU x4.2] 27) :: (bx b6 [vU x6.1, vU x6.2] 27) :: (bx b9 [vU x9.1.1, vU x9.1.2] 27) :: As) _ := S61
          replace a3h0 := a3h0.up L94
          have L95 := Mem.rfl' m52
          refine s_stL (i := 0) S61 rfl rfl rfl Tryd.sizeOf27 (oneC rfl (oneC rfl oneN)) rfl ?_
          intro w61 S62
          replace S62 : St _ ((bx b2 [vU x11.1, vU x11.2] 27) :: (bx b1 [vU a1.1, vU a1.2] 27) :: (bx b5 [vU x4.1, vU x4.2] 27) :: (bx b6 [vU x6.1, vU x6.2] 27) :: (bx b9 [vU x9.1.1, vU x9.1.2] 27) :: As) _ := S62
          clear S61
          refine wpn ?_
          refine ⟨m52, Mem.tr L94 L95, ?_, facts_none HM K L95 rfl (fun _ => trivial), outP⟩
          exact S62
      intro L f46 w62 hall ⟨m53, L96, S63, K, hO⟩
      have d17 : L 17 = true := hall 17 (by decide)
      have d16 : L 16 = true := hall 16 (by decide)
      have e59 := K 16 d16
      replace S63 : St _ ((bx b2 (bif L 17 then [vU x11.1, vU x11.2] else [vU 0, vU 0]) 27) :: (bx b1 [vU a1.1, vU a1.2] 27) :: (bx b5 [vU x4.1, vU x4.2] 27) :: (bx b6 [vU x6.1, vU x6.2] 27) :: (bx b9 [vU x9.1.1, vU x9.1.2] 27) :: As) _ := S63
      rw [d17] at S63
      obtain ⟨u55, rfl⟩ := fr_of (N := 104) (L := [(72, vb (x9.2 || x13))]) hO ⟨e59, trivial⟩
      replace S63 : St _ ((bx b2 [vU x11.1, vU x11.2] 27) :: (bx b1 [vU a1.1, vU a1.2] 27) :: (bx b5 [vU x4.1, vU x4.2] 27) :: (bx b6 [vU x6.1, vU x6.2] 27) :: (bx b9 [vU x9.1.1, vU x9.1.2] 27) :: As) _ := S63
      replace a3h0 := a3h0.up L96
      replace L0 := Mem.tr L0 L96
      clear S41
      refine s_asv (v := vb (x9.2 || x13)) rfl ?_
      refine wpl_nil ?_
      refine nrm ?_
      refine wpc_ret ?_
      refine thR ?_
      refine outRw ?_
      intro we hpd
      replace S63 := St.pd S63 hpd
      have SR := S63
      obtain ⟨m54, l9, S64⟩ := St.drop S63 0
      replace L0 := Mem.tr L0 l9
      replace S64 : St _ ((bx b1 [vU a1.1, vU a1.2] 27) :: (bx b5 [vU x4.1, vU x4.2] 27) :: (bx b6 [vU x6.1, vU x6.2] 27) :: (bx b9 [vU x9.1.1, vU x9.1.2] 27) :: As) _ := S64
      obtain ⟨m55, l10, S65⟩ := St.drop S64 0
      replace L0 := Mem.tr L0 l10
      clear S64
      replace S65 : St _ ((bx b5 [vU x4.1, vU x4.2] 27) :: (bx b6 [vU x6.1, vU x6.2] 27) :: (bx b9 [vU x9.1.1, vU x9.1.2] 27) :: As) _ := S65
      obtain ⟨m56, l11, S66⟩ := St.drop S65 0
      replace L0 := Mem.tr L0 l11
      clear S65
      replace S66 : St _ ((bx b6 [vU x6.1, vU x6.2] 27) :: (bx b9 [vU x9.1.1, vU x9.1.2] 27) :: As) _ := S66
      obtain ⟨m57, l12, S67⟩ := St.drop S66 0
      replace L0 := Mem.tr L0 l12
      clear S66
      replace S67 : St _ ((bx b9 [vU x9.1.1, vU x9.1.2] 27) :: As) _ := S67
      obtain ⟨m58, l13, S68⟩ := St.drop S67 0
      replace L0 := Mem.tr L0 l13
      clear S67
      replace S68 : St _ (As) _ := S68
      have e0 := Option.some.inj hm
      subst e0
      exact outR [_, _] rfl ⟨res_box (i := 0) (off := 0) (cs := [vU x11.1, vU x11.2]) SR rfl rfl Tryd.isAgg27 Tryd.sizeOf27 rfl (fun h => by cases h), rfl, trivial⟩ ⟨_, L0, S68, rfl⟩
    replace hm := ifF hc2 hm
    refine wpc_skip ?_
    refine nrm ?_
    refine wpc_seq ?_
    obtain ⟨x14, q14, hm⟩ := obind_some hm
    obtain ⟨x15, q15, hm⟩ := obind_some hm
    obtain ⟨x16, q16, hm⟩ := obind_some hm
    have HM : MonoAll [(74, fun (M : Mem) (v : Value) => v = a0v0), (75, fun (M : Mem) (v : Value) => v = vI x1), (76, fun (M : Mem) (v : Value) => ∃ (v11 : Value), v = v11 ∧ SlR M v11 x14), (77, fun (M : Mem) (v : Value) => v = .agg #[vU a1.1, vU a1.2]), (78, fun (M : Mem) (v : Value) => v = vI a2), (79, fun (M : Mem) (v : Value) => v = vI x1), (80, fun (M : Mem) (v : Value) => v = vI (w64 (a2 - x1))), (81, fun (M : Mem) (v : Value) => v = a3v0), (82, fun (M : Mem) (v : Value) => v = vI x2), (83, fun (M : Mem) (v : Value) => ∃ (v12 : Value), v = v12 ∧ SlR M v12 x15), (84, fun (M : Mem) (v : Value) => v = .tuple #[.agg #[vU x16.1.1, vU x16.1.2], vb x16.2]), (73, fun (M : Mem) (v : Value) => v = .tuple #[.agg #[vU x16.1.1, vU x16.1.2], vb x16.2]), (85, fun (M : Mem) (v : Value) => v = .agg #[vU x16.1.1, vU x16.1.2]), (86, fun (M : Mem) (v : Value) => v = vb x16.2), (16, fun (M : Mem) (v : Value) => ∃ (b10 : Nat), v = pt b10 0), (100015, fun _ _ => True)] := ⟨(fun _ _ _ _ h => h), (fun _ _ _ _ h => h), (fun _ _ _ l ⟨v11, e, h14⟩ => ⟨v11, e, h14.up l⟩), (fun _ _ _ _ h => h), (fun _ _ _ _ h => h), (fun _ _ _ _ h => h), (fun _ _ _ _ h => h), (fun _ _ _ _ h => h), (fun _ _ _ _ h => h), (fun _ _ _ l ⟨v12, e, h15⟩ => ⟨v12, e, h15.up l⟩), (fun _ _ _ _ h => h), (fun _ _ _ _ h => h), (fun _ _ _ _ h => h), (fun _ _ _ _ h => h), (fun _ _ _ _ h => h), (fun _ _ _ _ h => h), trivial⟩
    refine wpc_flowG HM 16 mixed rfl rfl rfl [16, 73, 74, 75, 76, 77, 78, 79, 80, 81, 82, 83, 84, 85, 86] (fun L f M w => St M ((bx b2 [vU 0, vU 0] 27) :: (bx b1 [vU a1.1, vU a1.2] 27) :: (bx b5 [vU x4.1, vU x4.2] 27) :: (bx b6 [vU x6.1, vU x6.2] 27) :: ((bif L 14 then [bxv (f 16) (bif L 15 then [vU x16.1.1, vU x16.1.2] else [vU 0, vU 0]) 27] else []) ++ As)) w) (St.drew S23 _) ?_ ?_
    · refine ⟨?_, ?_, ?_, ?_, ?_, ?_, ?_, ?_, ?_, ?_, ?_, ?_, ?_, ?_, ?_, ?_, trivial⟩
      · intro L f47 w63 hL hd hc ⟨m59, L97, S70, K, hO⟩
        have d15 : L 15 = false := undep hc hL rfl
        replace S70 : St _ ((bx b2 [vU 0, vU 0] 27) :: (bx b1 [vU a1.1, vU a1.2] 27) :: (bx b5 [vU x4.1, vU x4.2] 27) :: (bx b6 [vU x6.1, vU x6.2] 27) :: ((bif L 14 then [bxv (f47 16) (bif L 15 then [vU x16.1.1, vU x16.1.2] else [vU 0, vU 0]) 27] else []) ++ As)) _ := S70
        rw [d15] at S70
        obtain ⟨u56, rfl⟩ := fr_of (N := 104) (L := []) hO trivial
        replace S70 : St _ ((bx b2 [vU 0, vU 0] 27) :: (bx b1 [vU a1.1, vU a1.2] 27) :: (bx b5 [vU x4.1, vU x4.2] 27) :: (bx b6 [vU x6.1, vU x6.2] 27) :: ((bif L 14 then [bxv _ (bif false then [vU x16.1.1, vU x16.1.2] else [vU 0, vU 0]) 27] else []) ++ As)) _ := S70
        have L98 := Mem.rfl' m59
        refine s_mvv (v := a0v0) rfl ?_
        refine wpn ?_
        refine ⟨m59, Mem.tr L97 L98, ?_, facts_step HM rfl K L98 rfl rfl rfl, outP⟩
        show St _ ((bx b2 [vU 0, vU 0] 27) :: (bx b1 [vU a1.1, vU a1.2] 27) :: (bx b5 [vU x4.1, vU x4.2] 27) :: (bx b6 [vU x6.1, vU x6.2] 27) :: ((bif L 14 then [bxv _ (bif L 15 then [vU x16.1.1, vU x16.1.2] else [vU 0, vU 0]) 27] else []) ++ As)) _
        rw [d15]
        exact S70
      · intro L f48 w64 hL hd hc ⟨m60, L99, S71, K, hO⟩
        have d15 : L 15 = false := undep hc hL rfl
        replace S71 : St _ ((bx b2 [vU 0, vU 0] 27) :: (bx b1 [vU a1.1, vU a1.2] 27) :: (bx b5 [vU x4.1, vU x4.2] 27) :: (bx b6 [vU x6.1, vU x6.2] 27) :: ((bif L 14 then [bxv (f48 16) (bif L 15 then [vU x16.1.1, vU x16.1.2] else [vU 0, vU 0]) 27] else []) ++ As)) _ := S71
        rw [d15] at S71
        obtain ⟨u57, rfl⟩ := fr_of (N := 104) (L := []) hO trivial
        replace S71 : St _ ((bx b2 [vU 0, vU 0] 27) :: (bx b1 [vU a1.1, vU a1.2] 27) :: (bx b5 [vU x4.1, vU x4.2] 27) :: (bx b6 [vU x6.1, vU x6.2] 27) :: ((bif L 14 then [bxv _ (bif false then [vU x16.1.1, vU x16.1.2] else [vU 0, vU 0]) 27] else []) ++ As)) _ := S71
        have L100 := Mem.rfl' m60
        refine s_mvv (v := vI x1) rfl ?_
        refine wpn ?_
        refine ⟨m60, Mem.tr L99 L100, ?_, facts_step HM rfl K L100 rfl rfl rfl, outP⟩
        show St _ ((bx b2 [vU 0, vU 0] 27) :: (bx b1 [vU a1.1, vU a1.2] 27) :: (bx b5 [vU x4.1, vU x4.2] 27) :: (bx b6 [vU x6.1, vU x6.2] 27) :: ((bif L 14 then [bxv _ (bif L 15 then [vU x16.1.1, vU x16.1.2] else [vU 0, vU 0]) 27] else []) ++ As)) _
        rw [d15]
        exact S71
      · intro L f49 w65 hL hd hc ⟨m61, L101, S72, K, hO⟩
        have d15 : L 15 = false := undep hc hL rfl
        have d0 : L 0 = true := dep hd rfl
        have e60 := K 0 d0
        have d1 : L 1 = true := dep hd rfl
        have e61 := K 1 d1
        replace S72 : St _ ((bx b2 [vU 0, vU 0] 27) :: (bx b1 [vU a1.1, vU a1.2] 27) :: (bx b5 [vU x4.1, vU x4.2] 27) :: (bx b6 [vU x6.1, vU x6.2] 27) :: ((bif L 14 then [bxv (f49 16) (bif L 15 then [vU x16.1.1, vU x16.1.2] else [vU 0, vU 0]) 27] else []) ++ As)) _ := S72
        rw [d15] at S72
        obtain ⟨u58, rfl⟩ := fr_of (N := 104) (L := [(74, a0v0), (75, vI x1)]) hO ⟨e60, e61, trivial⟩
        replace S72 : St _ ((bx b2 [vU 0, vU 0] 27) :: (bx b1 [vU a1.1, vU a1.2] 27) :: (bx b5 [vU x4.1, vU x4.2] 27) :: (bx b6 [vU x6.1, vU x6.2] 27) :: ((bif L 14 then [bxv _ (bif false then [vU x16.1.1, vU x16.1.2] else [vU 0, vU 0]) 27] else []) ++ As)) _ := S72
        replace a0h0 := a0h0.up L101
        replace a3h0 := a3h0.up L101
        have L102 := Mem.rfl' m61
        refine s_cut (ys := x14) (l := x1) (h := (a0.length : Int)) rfl a0h0 Tryd.underlying22 Tryd.sizeOf27 (.inr ⟨_, rfl⟩) (.inl ⟨rfl, rfl⟩) (.inl rfl) q14 ?_
        intro v11 h14
        refine wpn ?_
        refine ⟨m61, Mem.tr L101 L102, ?_, facts_step HM rfl K L102 rfl rfl ⟨v11, rfl, h14⟩, outP⟩
        show St _ ((bx b2 [vU 0, vU 0] 27) :: (bx b1 [vU a1.1, vU a1.2] 27) :: (bx b5 [vU x4.1, vU x4.2] 27) :: (bx b6 [vU x6.1, vU x6.2] 27) :: ((bif L 14 then [bxv _ (bif L 15 then [vU x16.1.1, vU x16.1.2] else [vU 0, vU 0]) 27] else []) ++ As)) _
        rw [d15]
        exact S72
      · intro L f50 w66 hL hd hc ⟨m62, L103, S73, K, hO⟩
        have d15 : L 15 = false := undep hc hL rfl
        replace S73 : St _ ((bx b2 [vU 0, vU 0] 27) :: (bx b1 [vU a1.1, vU a1.2] 27) :: (bx b5 [vU x4.1, vU x4.2] 27) :: (bx b6 [vU x6.1, vU x6.2] 27) :: ((bif L 14 then [bxv (f50 16) (bif L 15 then [vU x16.1.1, vU x16.1.2] else [vU 0, vU 0]) 27] else []) ++ As)) _ := S73
        rw [d15] at S73
        obtain ⟨u59, rfl⟩ := fr_of (N := 104) (L := []) hO trivial
        replace S73 : St _ ((bx b2 [vU 0, vU 0] 27) :: (bx b1 [vU a1.1, vU a1.2] 27) :: (bx b5 [vU x4.1, vU x4.2] 27) :: (bx b6 [vU x6.1, vU x6.2] 27) :: ((bif L 14 then [bxv _ (bif false then [vU x16.1.1, vU x16.1.2] else [vU 0, vU 0]) 27] else []) ++ As)) _ := S73
        replace a0h0 := a0h0.up L103
        replace a3h0 := a3h0.up L103
        have L104 := Mem.rfl' m62
        refine s_ld (i := 1) (cs := [vU a1.1, vU a1.2]) S73 rfl rfl Tryd.isAgg27 Tryd.sizeOf27 rfl (fun h => by cases h) ?_
        refine wpn ?_
        refine ⟨m62, Mem.tr L103 L104, ?_, facts_step HM rfl K L104 rfl rfl rfl, outP⟩
        show St _ ((bx b2 [vU 0, vU 0] 27) :: (bx b1 [vU a1.1, vU a1.2] 27) :: (bx b5 [vU x4.1, vU x4.2] 27) :: (bx b6 [vU x6.1, vU x6.2] 27) :: ((bif L 14 then [bxv _ (bif L 15 then [vU x16.1.1, vU x16.1.2] else [vU 0, vU 0]) 27] else []) ++ As)) _
        rw [d15]
        exact S73
      · intro L f51 w67 hL hd hc ⟨m63, L105, S74, K, hO⟩
        have d15 : L 15 = false := undep hc hL rfl
        replace S74 : St _ ((bx b2 [vU 0, vU 0] 27) :: (bx b1 [vU a1.1, vU a1.2] 27) :: (bx b5 [vU x4.1, vU x4.2] 27) :: (bx b6 [vU x6.1, vU x6.2] 27) :: ((bif L 14 then [bxv (f51 16) (bif L 15 then [vU x16.1.1, vU x16.1.2] else [vU 0, vU 0]) 27] else []) ++ As)) _ := S74
        rw [d15] at S74
        obtain ⟨u60, rfl⟩ := fr_of (N := 104) (L := []) hO trivial
        replace S74 : St _ ((bx b2 [vU 0, vU 0] 27) :: (bx b1 [vU a1.1, vU a1.2] 27) :: (bx b5 [vU x4.1, vU x4.2] 27) :: (bx b6 [vU x6.1, vU x6.2] 27) :: ((bif L 14 then [bxv _ (bif false then [vU x16.1.1, vU x16.1.2] else [vU 0, vU 0]) 27] else []) ++ As)) _ := S74
        have L106 := Mem.rfl' m63
        refine s_mvv (v := vI a2) rfl ?_
        refine wpn ?_
        refine ⟨m63, Mem.tr L105 L106, ?_, facts_step HM rfl K L106 rfl rfl rfl, outP⟩
        show St _ ((bx b2 [vU 0, vU 0] 27) :: (bx b1 [vU a1.1, vU a1.2] 27) :: (bx b5 [vU x4.1, vU x4.2] 27) :: (bx b6 [vU x6.1, vU x6.2] 27) :: ((bif L 14 then [bxv _ (bif L 15 then [vU x16.1.1, vU x16.1.2] else [vU 0, vU 0]) 27] else []) ++ As)) _
        rw [d15]
        exact S74
      · intro L f52 w68 hL hd hc ⟨m64, L107, S75, K, hO⟩
        have d15 : L 15 = false := undep hc hL rfl
        replace S75 : St _ ((bx b2 [vU 0, vU 0] 27) :: (bx b1 [vU a1.1, vU a1.2] 27) :: (bx b5 [vU x4.1, vU x4.2] 27) :: (bx b6 [vU x6.1, vU x6.2] 27) :: ((bif L 14 then [bxv (f52 16) (bif L 15 then [vU x16.1.1, vU x16.1.2] else [vU 0, vU 0]) 27] else []) ++ As)) _ := S75
        rw [d15] at S75
        obtain ⟨u61, rfl⟩ := fr_of (N := 104) (L := []) hO trivial
        replace S75 : St _ ((bx b2 [vU 0, vU 0] 27) :: (bx b1 [vU a1.1, vU a1.2] 27) :: (bx b5 [vU x4.1, vU x4.2] 27) :: (bx b6 [vU x6.1, vU x6.2] 27) :: ((bif L 14 then [bxv _ (bif false then [vU x16.1.1, vU x16.1.2] else [vU 0, vU 0]) 27] else []) ++ As)) _ := S75
        have L108 := Mem.rfl' m64
        refine s_mvv (v := vI x1) rfl ?_
        refine wpn ?_
        refine ⟨m64, Mem.tr L107 L108, ?_, facts_step HM rfl K L108 rfl rfl rfl, outP⟩
        show St _ ((bx b2 [vU 0, vU 0] 27) :: (bx b1 [vU a1.1, vU a1.2] 27) :: (bx b5 [vU x4.1, vU x4.2] 27) :: (bx b6 [vU x6.1, vU x6.2] 27) :: ((bif L 14 then [bxv _ (bif L 15 then [vU x16.1.1, vU x16.1.2] else [vU 0, vU 0]) 27] else []) ++ As)) _
        rw [d15]
        exact S75
      · intro L f53 w69 hL hd hc ⟨m65, L109, S76, K, hO⟩
        have d15 : L 15 = false := undep hc hL rfl
        have d4 : L 4 = true := dep hd rfl
        have e62 := K 4 d4
        have d5 : L 5 = true := dep hd rfl
        have e63 := K 5 d5
        replace S76 : St _ ((bx b2 [vU 0, vU 0] 27) :: (bx b1 [vU a1.1, vU a1.2] 27) :: (bx b5 [vU x4.1, vU x4.2] 27) :: (bx b6 [vU x6.1, vU x6.2] 27) :: ((bif L 14 then [bxv (f53 16) (bif L 15 then [vU x16.1.1, vU x16.1.2] else [vU 0, vU 0]) 27] else []) ++ As)) _ := S76
        rw [d15] at S76
        obtain ⟨u62, rfl⟩ := fr_of (N := 104) (L := [(78, vI a2), (79, vI x1)]) hO ⟨e62, e63, trivial⟩
        replace S76 : St _ ((bx b2 [vU 0, vU 0] 27) :: (bx b1 [vU a1.1, vU a1.2] 27) :: (bx b5 [vU x4.1, vU x4.2] 27) :: (bx b6 [vU x6.1, vU x6.2] 27) :: ((bif L 14 then [bxv _ (bif false then [vU x16.1.1, vU x16.1.2] else [vU 0, vU 0]) 27] else []) ++ As)) _ := S76
        have L110 := Mem.rfl' m65
        refine s_subI (m := a2) (n := x1) rfl rfl ?_
        refine wpn ?_
        refine ⟨m65, Mem.tr L109 L110, ?_, facts_step HM rfl K L110 rfl rfl rfl, outP⟩
        show St _ ((bx b2 [vU 0, vU 0] 27) :: (bx b1 [vU a1.1, vU a1.2] 27) :: (bx b5 [vU x4.1, vU x4.2] 27) :: (bx b6 [vU x6.1, vU x6.2] 27) :: ((bif L 14 then [bxv _ (bif L 15 then [vU x16.1.1, vU x16.1.2] else [vU 0, vU 0]) 27] else []) ++ As)) _
        rw [d15]
        exact S76
      · intro L f54 w70 hL hd hc ⟨m66, L111, S77, K, hO⟩
        have d15 : L 15 = false := undep hc hL rfl
        replace S77 : St _ ((bx b2 [vU 0, vU 0] 27) :: (bx b1 [vU a1.1, vU a1.2] 27) :: (bx b5 [vU x4.1, vU x4.2] 27) :: (bx b6 [vU x6.1, vU x6.2] 27) :: ((bif L 14 then [bxv (f54 16) (bif L 15 then [vU x16.1.1, vU x16.1.2] else [vU 0, vU 0]) 27] else []) ++ As)) _ := S77
        rw [d15] at S77
        obtain ⟨u63, rfl⟩ := fr_of (N := 104) (L := []) hO trivial
        replace S77 : St _ ((bx b2 [vU 0, vU 0] 27) :: (bx b1 [vU a1.1, vU a1.2] 27) :: (bx b5 [vU x4.1, vU x4.2] 27) :: (bx b6 [vU x6.1, vU x6.2] 27) :: ((bif L 14 then [bxv _ (bif false then [vU x16.1.1, vU x16.1.2] else [vU 0, vU 0]) 27] else []) ++ As)) _ := S77
        have L112 := Mem.rfl' m66
        refine s_mvv (v := a3v0) rfl ?_
        refine wpn ?_
        refine ⟨m66, Mem.tr L111 L112, ?_, facts_step HM rfl K L112 rfl rfl rfl, outP⟩
        show St _ ((bx b2 [vU 0, vU 0] 27) :: (bx b1 [vU a1.1, vU a1.2] 27) :: (bx b5 [vU x4.1, vU x4.2] 27) :: (bx b6 [vU x6.1, vU x6.2] 27) :: ((bif L 14 then [bxv _ (bif L 15 then [vU x16.1.1, vU x16.1.2] else [vU 0, vU 0]) 27] else []) ++ As)) _
        rw [d15]
        exact S77
      · intro L f55 w71 hL hd hc ⟨m67, L113, S78, K, hO⟩
        have d15 : L 15 = false := undep hc hL rfl
        replace S78 : St _ ((bx b2 [vU 0, vU 0] 27) :: (bx b1 [vU a1.1, vU a1.2] 27) :: (bx b5 [vU x4.1, vU x4.2] 27) :: (bx b6 [vU x6.1, vU x6.2] 27) :: ((bif L 14 then [bxv (f55 16) (bif L 15 then [vU x16.1.1, vU x16.1.2] else [vU 0, vU 0]) 27] else []) ++ As)) _ := S78
        rw [d15] at S78
        obtain ⟨u64, rfl⟩ := fr_of (N := 104) (L := []) hO trivial
        replace S78 : St _ ((bx b2 [vU 0, vU 0] 27) :: (bx b1 [vU a1.1, vU a1.2] 27) :: (bx b5 [vU x4.1, vU x4.2] 27) :: (bx b6 [vU x6.1, vU x6.2] 27) :: ((bif L 14 then [bxv _ (bif false then [vU x16.1.1, vU x16.1.2] else [vU 0, vU 0]) 27] else []) ++ As)) _ := S78
        have L114 := Mem.rfl' m67
        refine s_mvv (v := vI x2) rfl ?_
        refine wpn ?_
        refine ⟨m67, Mem.tr L113 L114, ?_, facts_step HM rfl K L114 rfl rfl rfl, outP⟩
        show St _ ((bx b2 [vU 0, vU 0] 27) :: (bx b1 [vU a1.1, vU a1.2] 27) :: (bx b5 [vU x4.1, vU x4.2] 27) :: (bx b6 [vU x6.1, vU x6.2] 27) :: ((bif L 14 then [bxv _ (bif L 15 then [vU x16.1.1, vU x16.1.2] else [vU 0, vU 0]) 27] else []) ++ As)) _
        rw [d15]
        exact S78
      · intro L f56 w72 hL hd hc ⟨m68, L115, S79, K, hO⟩
        have d15 : L 15 = false := undep hc hL rfl
        have d7 : L 7 = true := dep hd rfl
        have e64 := K 7 d7
        have d8 : L 8 = true := dep hd rfl
        have e65 := K 8 d8
        replace S79 : St _ ((bx b2 [vU 0, vU 0] 27) :: (bx b1 [vU a1.1, vU a1.2] 27) :: (bx b5 [vU x4.1, vU x4.2] 27) :: (bx b6 [vU x6.1, vU x6.2] 27) :: ((bif L 14 then [bxv (f56 16) (bif L 15 then [vU x16.1.1, vU x16.1.2] else [vU 0, vU 0]) 27] else []) ++ As)) _ := S79
        rw [d15] at S79
        obtain ⟨u65, rfl⟩ := fr_of (N := 104) (L := [(81, a3v0), (82, vI x2)]) hO ⟨e64, e65, trivial⟩
        replace S79 : St _ ((bx b2 [vU 0, vU 0] 27) :: (bx b1 [vU a1.1, vU a1.2] 27) :: (bx b5 [vU x4.1, vU x4.2] 27) :: (bx b6 [vU x6.1, vU x6.2] 27) :: ((bif L 14 then [bxv _ (bif false then [vU x16.1.1, vU x16.1.2] else [vU 0, vU 0]) 27] else []) ++ As)) _ := S79
        replace a0h0 := a0h0.up L115
        replace a3h0 := a3h0.up L115
        have L116 := Mem.rfl' m68
        refine s_cut (ys := x15) (l := 0) (h := x2) rfl a3h0 Tryd.underlying22 Tryd.sizeOf27 (.inl ⟨rfl, rfl⟩) (.inr ⟨_, rfl⟩) (.inl rfl) q15 ?_
        intro v12 h15
        refine wpn ?_
        refine ⟨m68, Mem.tr L115 L116, ?_, facts_step HM rfl K L116 rfl rfl ⟨v12, rfl, h15⟩, outP⟩
        show St _ ((bx b2 [vU 0, vU 0] 27) :: (bx b1 [vU a1.1, vU a1.2] 27) :: (bx b5 [vU x4.1, vU x4.2] 27) :: (bx b6 [vU x6.1, vU x6.2] 27) :: ((bif L 14 then [bxv _ (bif L 15 then [vU x16.1.1, vU x16.1.2] else [vU 0, vU 0]) 27] else []) ++ As)) _
        rw [d15]
        exact S79
      · intro L f57 w73 hL hd hc ⟨m69, L117, S80, K, hO⟩
        have d15 : L 15 = false := undep hc hL rfl
        have d2 : L 2 = true := dep hd rfl
        obtain ⟨v13, e66, h16⟩ := K 2 d2
        have d3 : L 3 = true := dep hd rfl
        have e67 := K 3 d3
        have d6 : L 6 = true := dep hd rfl
        have e68 := K 6 d6
        have d9 : L 9 = true := dep hd rfl
        obtain ⟨v14, e69, h17⟩ := K 9 d9
        replace S80 : St _ ((bx b2 [vU 0, vU 0] 27) :: (bx b1 [vU a1.1, vU a1.2] 27) :: (bx b5 [vU x4.1, vU x4.2] 27) :: (bx b6 [vU x6.1, vU x6.2] 27) :: ((bif L 14 then [bxv (f57 16) (bif L 15 then [vU x16.1.1, vU x16.1.2] else [vU 0, vU 0]) 27] else []) ++ As)) _ := S80
        rw [d15] at S80
        obtain ⟨u66, rfl⟩ := fr_of (N := 104) (L := [(76, v13), (77, .agg #[vU a1.1, vU a1.2]), (80, vI (w64 (a2 - x1))), (83, v14)]) hO ⟨e66, e67, e68, e69, trivial⟩
        replace S80 : St _ ((bx b2 [vU 0, vU 0] 27) :: (bx b1 [vU a1.1, vU a1.2] 27) :: (bx b5 [vU x4.1, vU x4.2] 27) :: (bx b6 [vU x6.1, vU x6.2] 27) :: ((bif L 14 then [bxv _ (bif false then [vU x16.1.1, vU x16.1.2] else [vU 0, vU 0]) 27] else []) ++ As)) _ := S80
        replace a0h0 := a0h0.up L117
        replace a3h0 := a3h0.up L117
        have L118 := Mem.rfl' m69
        refine s_call Tryd.call27 (ih (a0 := x14) (a1 := a1) (a2 := (w64 (a2 - x1))) (a3 := x15) S80 h16 h17 q16) rfl ?_
        rintro _ w74 ⟨m70, l14, S81, rfl⟩
        replace a0h0 := a0h0.up l14
        replace a3h0 := a3h0.up l14
        replace h16 := h16.up l14
        replace h17 := h17.up l14
        replace L118 := Mem.tr L118 l14
        clear S80
        replace S81 : St _ ((bx b2 [vU 0, vU 0] 27) :: (bx b1 [vU a1.1, vU a1.2] 27) :: (bx b5 [vU x4.1, vU x4.2] 27) :: (bx b6 [vU x6.1, vU x6.2] 27) :: ((bif L 14 then [bxv _ (bif false then [vU x16.1.1, vU x16.1.2] else [vU 0, vU 0]) 27] else []) ++ As)) _ := S81
        refine wpn ?_
        refine ⟨m70, Mem.tr L117 L118, ?_, facts_step HM rfl K L118 rfl rfl rfl, outP⟩
        show St _ ((bx b2 [vU 0, vU 0] 27) :: (bx b1 [vU a1.1, vU a1.2] 27) :: (bx b5 [vU x4.1, vU x4.2] 27) :: (bx b6 [vU x6.1, vU x6.2] 27) :: ((bif L 14 then [bxv _ (bif L 15 then [vU x16.1.1, vU x16.1.2] else [vU 0, vU 0]) 27] else []) ++ As)) _
        rw [d15]
        exact S81
      · intro L f58 w75 hL hd hc ⟨m71, L119, S82, K, hO⟩
        have d15 : L 15 = false := undep hc hL rfl
        have d10 : L 10 = true := dep hd rfl
        have e70 := K 10 d10
        replace S82 : St _ ((bx b2 [vU 0, vU 0] 27) :: (bx b1 [vU a1.1, vU a1.2] 27) :: (bx b5 [vU x4.1, vU x4.2] 27) :: (bx b6 [vU x6.1, vU x6.2] 27) :: ((bif L 14 then [bxv (f58 16) (bif L 15 then [vU x16.1.1, vU x16.1.2] else [vU 0, vU 0]) 27] else []) ++ As)) _ := S82
        rw [d15] at S82
        obtain ⟨u67, rfl⟩ := fr_of (N := 104) (L := [(84, .tuple #[.agg #[vU x16.1.1, vU x16.1.2], vb x16.2])]) hO ⟨e70, trivial⟩
        replace S82 : St _ ((bx b2 [vU 0, vU 0] 27) :: (bx b1 [vU a1.1, vU a1.2] 27) :: (bx b5 [vU x4.1, vU x4.2] 27) :: (bx b6 [vU x6.1, vU x6.2] 27) :: ((bif L 14 then [bxv _ (bif false then [vU x16.1.1, vU x16.1.2] else [vU 0, vU 0]) 27] else []) ++ As)) _ := S82
        have L120 := Mem.rfl' m71
        refine s_mvv (v := .tuple #[.agg #[vU x16.1.1, vU x16.1.2], vb x16.2]) rfl ?_
        refine wpn ?_
        refine ⟨m71, Mem.tr L119 L120, ?_, facts_step HM rfl K L120 rfl rfl rfl, outP⟩
        show St _ ((bx b2 [vU 0, vU 0] 27) :: (bx b1 [vU a1.1, vU a1.2] 27) :: (bx b5 [vU x4.1, vU x4.2] 27) :: (bx b6 [vU x6.1, vU x6.2] 27) :: ((bif L 14 then [bxv _ (bif L 15 then [vU x16.1.1, vU x16.1.2] else [vU 0, vU 0]) 27] else []) ++ As)) _
        rw [d15]
        exact S82
      · intro L f59 w76 hL hd hc ⟨m72, L121, S83, K, hO⟩
        have d15 : L 15 = false := undep hc hL rfl
        have d11 : L 11 = true := dep hd rfl
        have e71 := K 11 d11
        replace S83 : St _ ((bx b2 [vU 0, vU 0] 27) :: (bx b1 [vU a1.1, vU a1.2] 27) :: (bx b5 [vU x4.1, vU x4.2] 27) :: (bx b6 [vU x6.1, vU x6.2] 27) :: ((bif L 14 then [bxv (f59 16) (bif L 15 then [vU x16.1.1, vU x16.1.2] else [vU 0, vU 0]) 27] else []) ++ As)) _ := S83
        rw [d15] at S83
        obtain ⟨u68, rfl⟩ := fr_of (N := 104) (L := [(73, .tuple #[.agg #[vU x16.1.1, vU x16.1.2], vb x16.2])]) hO ⟨e71, trivial⟩
        replace S83 : St _ ((bx b2 [vU 0, vU 0] 27) :: (bx b1 [vU a1.1, vU a1.2] 27) :: (bx b5 [vU x4.1, vU x4.2] 27) :: (bx b6 [vU x6.1, vU x6.2] 27) :: ((bif L 14 then [bxv _ (bif false then [vU x16.1.1, vU x16.1.2] else [vU 0, vU 0]) 27] else []) ++ As)) _ := S83
        have L122 := Mem.rfl' m72
        refine s_ext (i := 0) rfl rfl ?_
        refine wpn ?_
        refine ⟨m72, Mem.tr L121 L122, ?_, facts_step HM rfl K L122 rfl rfl rfl, outP⟩
        show St _ ((bx b2 [vU 0, vU 0] 27) :: (bx b1 [vU a1.1, vU a1.2] 27) :: (bx b5 [vU x4.1, vU x4.2] 27) :: (bx b6 [vU x6.1, vU x6.2] 27) :: ((bif L 14 then [bxv _ (bif L 15 then [vU x16.1.1, vU x16.1.2] else [vU 0, vU 0]) 27] else []) ++ As)) _
        rw [d15]
        exact S83
      · intro L f60 w77 hL hd hc ⟨m73, L123, S84, K, hO⟩
        have d11 : L 11 = true := dep hd rfl
        have e72 := K 11 d11
        obtain ⟨u69, rfl⟩ := fr_of (N := 104) (L := [(73, .tuple #[.agg #[vU x16.1.1, vU x16.1.2], vb x16.2])]) hO ⟨e72, trivial⟩
        replace S84 : St _ ((bx b2 [vU 0, vU 0] 27) :: (bx b1 [vU a1.1, vU a1.2] 27) :: (bx b5 [vU x4.1, vU x4.2] 27) :: (bx b6 [vU x6.1, vU x6.2] 27) :: ((bif L 14 then [bxv _ (bif L 15 then [vU x16.1.1, vU x16.1.2] else [vU 0, vU 0]) 27] else []) ++ As)) _ := S84
        have L124 := Mem.rfl' m73
        refine s_ext (i := 1) rfl rfl ?_
        refine wpn ?_
        refine ⟨m73, Mem.tr L123 L124, ?_, facts_step HM rfl K L124 rfl rfl rfl, outP⟩
        exact S84
      · intro L f61 w78 hL hd hc ⟨m74, L125, S85, K, hO⟩
        have d14 : L 14 = false := hL
        have d15 : L 15 = false := undep hc hL rfl
        replace S85 : St _ ((bx b2 [vU 0, vU 0] 27) :: (bx b1 [vU a1.1, vU a1.2] 27) :: (bx b5 [vU x4.1, vU x4.2] 27) :: (bx b6 [vU x6.1, vU x6.2] 27) :: ((bif L 14 then [bxv (f61 16) (bif L 15 then [vU x16.1.1, vU x16.1.2] else [vU 0, vU 0]) 27] else []) ++ As)) _ := S85
        rw [d14, d15] at S85
        obtain ⟨u70, rfl⟩ := fr_of (N := 104) (L := []) hO trivial
        replace S85 : St _ ((bx b2 [vU 0, vU 0] 27) :: (bx b1 [vU a1.1, vU a1.2] 27) :: (bx b5 [vU x4.1, vU x4.2] 27) :: (bx b6 [vU x6.1, vU x6.2] 27) :: As) _ := S85
        replace a0h0 := a0h0.up L125
        replace a3h0 := a3h0.up L125
        have L126 := Mem.rfl' m74
        refine s_alloc S85 Tryd.zeroValue27 ?_
        intro b10 w79 S86
        replace S86 : St _ ((bx b10 [vU 0, vU 0] 27) :: (bx b2 [vU 0, vU 0] 27) :: (bx b1 [vU a1.1, vU a1.2] 27) :: (bx b5 [vU x4.1, vU x4.2] 27) :: (bx b6 [vU x6.1, vU x6.2] 27) :: As) _ := S86
        clear S85
        refine wpn ?_
        refine ⟨m74, Mem.tr L125 L126, ?_, facts_step HM rfl K L126 rfl rfl ⟨b10, rfl⟩, outP⟩
        show St _ ((bx b2 [vU 0, vU 0] 27) :: (bx b1 [vU a1.1, vU a1.2] 27) :: (bx b5 [vU x4.1, vU x4.2] 27) :: (bx b6 [vU x6.1, vU x6.2] 27) :: ((bif true then [bxv _ (bif L 15 then [vU x16.1.1, vU x16.1.2] else [vU 0, vU 0]) 27] else []) ++ As)) _
        rw [d15]
        have S117 : St _ ((bx b2 [vU 0, vU 0] 27) :: (bx b1 [vU a1.1, vU a1.2] 27) :: (bx b5 [vU x4.1, vU x4.2] 27) :: (bx b6 [vU x6.1, vU x6.2] 27) :: (bx b10 [vU 0, vU 0] 27) :: As) _ := St.perm S86 (List.Perm.trans (List.Perm.swap _ _ _) (List.Perm.trans (List.Perm.cons _ (List.Perm.swap _ _ _)) (List.Perm.trans (List.Perm.cons _ (List.Perm.cons _ (List.Perm.swap _ _ _))) (List.Perm.cons _ (List.Perm.cons _ (List.Perm.cons _ (List.Perm.swap _ _ _)))))))
        exact S117
      · intro L f62 w80 hL hd hc ⟨m75, L127, S87, K, hO⟩
        have d14 : L 14 = true := dep hd rfl
        have d15 : L 15 = false := hL
        obtain ⟨b11, e73⟩ := K 14 d14
        have d12 : L 12 = true := dep hd rfl
        have e74 := K 12 d12
        replace S87 : St _ ((bx b2 [vU 0, vU 0] 27) :: (bx b1 [vU a1.1, vU a1.2] 27) :: (bx b5 [vU x4.1, vU x4.2] 27) :: (bx b6 [vU x6.1, vU x6.2] 27) :: ((bif L 14 then [bxv (f62 16) (bif L 15 then [vU x16.1.1, vU x16.1.2] else [vU 0, vU 0]) 27] else []) ++ As)) _ := S87
        rw [d14, d15] at S87
        obtain ⟨u71, rfl⟩ := fr_of (N := 104) (L := [(16, pt b11 0), (85, .agg #[vU x16.1.1, vU x16.1.2])]) hO ⟨e73, e74, trivial⟩
        replace S87 : St _ ((bx b2 [vU 0, vU 0] 27) :: (bx b1 [vU a1.1, vU a1.2] 27) :: (bx b5 [vU x4.1, vU x4.2] 27) :: (bx b6 [vU x6.1, vU x6.2] 27) :: (bx b11 [vU 0, vU 0] 27) :: As) _ := S87
        replace a0h0 := a0h0.up L127
        replace a3h0 := a3h0.up L127
        have L128 := Mem.rfl' m75
        refine s_stL (i := 4) S87 rfl rfl rfl Tryd.sizeOf27 (oneC rfl (oneC rfl oneN)) rfl ?_
        intro w81 S88
        replace S88 : St _ ((bx b2 [vU 0, vU 0] 27) :: (bx b1 [vU a1.1, vU a1.2] 27) :: (bx b5 [vU x4.1, vU x4.2] 27) :: (bx b6 [vU x6.1, vU x6.2] 27) :: (bx b11 [vU x16.1.1, vU x16.1.2] 27) :: As) _ := S88
        clear S87
        refine wpn ?_
        refine ⟨m75, Mem.tr L127 L128, ?_, facts_none HM K L128 rfl (fun _ => trivial), outP⟩
        show St _ ((bx b2 [vU 0, vU 0] 27) :: (bx b1 [vU a1.1, vU a1.2] 27) :: (bx b5 [vU x4.1, vU x4.2] 27) :: (bx b6 [vU x6.1, vU x6.2] 27) :: ((bif L 14 then [bxv _ (bif true then [vU x16.1.1, vU x16.1.2] else [vU 0, vU 0]) 27] else []) ++ As)) _
        rw [d14]
        exact S88
    intro L f63 w82 hall ⟨m76, L129, S89, K, hO⟩
    have d14 : L 14 = true := hall 14 (by decide)
    have d15 : L 15 = true := hall 15 (by decide)
    obtain ⟨b12, e75⟩ := K 14 d14
    have d13 : L 13 = true := hall 13 (by decide)
    have e76 := K 13 d13
    replace S89 : St _ ((bx b2 [vU 0, vU 0] 27) :: (bx b1 [vU a1.1, vU a1.2] 27) :: (bx b5 [vU x4.1, vU x4.2] 27) :: (bx b6 [vU x6.1, vU x6.2] 27) :: ((bif L 14 then [bxv (f63 16) (bif L 15 then [vU x16.1.1, vU x16.1.2] else [vU 0, vU 0]) 27] else []) ++ As)) _ := S89
    rw [d14, d15] at S89
    obtain ⟨u72, rfl⟩ := fr_of (N := 104) (L := [(16, pt b12 0), (86, vb x16.2)]) hO ⟨e75, e76, trivial⟩
    replace S89 : St _ ((bx b2 [vU 0, vU 0] 27) :: (bx b1 [vU a1.1, vU a1.2] 27) :: (bx b5 [vU x4.1, vU x4.2] 27) :: (bx b6 [vU x6.1, vU x6.2] 27) :: (bx b12 [vU x16.1.1, vU x16.1.2] 27) :: As) _ := S89
    replace a0h0 := a0h0.up L129
    replace a3h0 := a3h0.up L129
    replace L0 := Mem.tr L0 L129
    clear S23
    refine s_asv (v := vb x16.2) rfl ?_
    refine wpl_nil ?_
    refine nrm ?_
    refine wpc_seq ?_
    obtain ⟨x17, q17, hm⟩ := obind_some hm
    obtain ⟨x18, q18, hm⟩ := obind_some hm
    obtain ⟨x19, q19, hm⟩ := obind_some hm
    obtain ⟨x20, q20, hm⟩ := obind_some hm
    have HM : MonoAll [(87, fun (M : Mem) (v : Value) => v = a3v0), (88, fun (M : Mem) (v : Value) => v = vI x2), (89, fun (M : Mem) (v : Value) => ∃ (p3 : Value), v = p3 ∧ PtC M p3 [vU x17.1, vU x17.2]), (90, fun (M : Mem) (v : Value) => v = .agg #[vU x17.1, vU x17.2]), (91, fun (M : Mem) (v : Value) => v = .agg #[vU x16.1.1, vU x16.1.2]), (92, fun (M : Mem) (v : Value) => v = .agg #[vU x18.1, vU x18.2]), (93, fun (M : Mem) (v : Value) => v = vb x16.2), (94, fun (M : Mem) (v : Value) => v = vb x16.2), (95, fun (M : Mem) (v : Value) => ((!x16.2) = true → v = a3v0) ∧ ((!x16.2) = false → v = undef)), (96, fun (M : Mem) (v : Value) => ((!x16.2) = true → v = vI x2) ∧ ((!x16.2) = false → v = undef)), (97, fun (M : Mem) (v : Value) => ((!x16.2) = true → ∃ (p4 : Value), v = p4 ∧ PtC M p4 [vU x19.1, vU x19.2]) ∧ ((!x16.2) = false → v = undef)), (98, fun (M : Mem) (v : Value) => ((!x16.2) = true → v = .agg #[vU x19.1, vU x19.2]) ∧ ((!x16.2) = false → v = undef)), (99, fun (M : Mem) (v : Value) => ((!x16.2) = true → v = .agg #[vU x16.1.1, vU x16.1.2]) ∧ ((!x16.2) = false → v = undef)), (100, fun (M : Mem) (v : Value) => ((!x16.2) = true → v = .agg #[vU x4.1, vU x4.2]) ∧ ((!x16.2) = false → v = undef)), (101, fun (M : Mem) (v : Value) => ((!x16.2) = true → v = .agg #[vU x6.1, vU x6.2]) ∧ ((!x16.2) = false → v = undef)), (102, fun (M : Mem) (v : Value) => ((!x16.2) = true → v = vb x20) ∧ ((!x16.2) = false → v = undef)), (103, fun (M : Mem) (v : Value) => v = vb (x16.2 || x20)), (100017, fun _ _ => True)] := ⟨(fun _ _ _ _ h => h), (fun _ _ _ _ h => h), (fun _ _ _ l ⟨p3, e, h18⟩ => ⟨p3, e, h18.up l⟩), (fun _ _ _ _ h => h), (fun _ _ _ _ h => h), (fun _ _ _ _ h => h), (fun _ _ _ _ h => h), (fun _ _ _ _ h => h), (fun _ _ _ _ h => h), (fun _ _ _ _ h => h), (fun _ _ _ l h => ⟨fun c => let ⟨p4, e, h20⟩ := h.1 c; ⟨p4, e, h20.up l⟩, h.2⟩), (fun _ _ _ _ h => h), (fun _ _ _ _ h => h), (fun _ _ _ _ h => h), (fun _ _ _ _ h => h), (fun _ _ _ _ h => h), (fun _ _ _ _ h => h), (fun _ _ _ _ h => h), trivial⟩
    refine wpc_flowG HM 18 mixed rfl rfl rfl [87, 88, 89, 90, 91, 92, 93, 94, 95, 96, 97, 98, 99, 100, 101, 102, 103] (fun L f M w => St M ((bx b2 (bif L 17 then [vU x18.1, vU x18.2] else [vU 0, vU 0]) 27) :: (bx b1 [vU a1.1, vU a1.2] 27) :: (bx b5 [vU x4.1, vU x4.2] 27) :: (bx b6 [vU x6.1, vU x6.2] 27) :: (bx b12 [vU x16.1.1, vU x16.1.2] 27) :: As) w) (St.drew S89 _) ?_ ?_
    · refine ⟨?_, ?_, ?_, ?_, ?_, ?_, ?_, ?_, ?_, ?_, ?_, ?_, ?_, ?_, ?_, ?_, ?_, ?_, trivial⟩
      · intro L f64 w83 hL hd hc ⟨m77, L130, S90, K, hO⟩
        have d17 : L 17 = false := undep hc hL rfl
        replace S90 : St _ ((bx b2 (bif L 17 then [vU x18.1, vU x18.2] else [vU 0, vU 0]) 27) :: (bx b1 [vU a1.1, vU a1.2] 27) :: (bx b5 [vU x4.1, vU x4.2] 27) :: (bx b6 [vU x6.1, vU x6.2] 27) :: (bx b12 [vU x16.1.1, vU x16.1.2] 27) :: As) _ := S90
        rw [d17] at S90
        obtain ⟨u73, rfl⟩ := fr_of (N := 104) (L := []) hO trivial
        replace S90 : St _ ((bx b2 [vU 0, vU 0] 27) :: (bx b1 [vU a1.1, vU a1.2] 27) :: (bx b5 [vU x4.1, vU x4.2] 27) :: (bx b6 [vU x6.1, vU x6.2] 27) :: (bx b12 [vU x16.1.1, vU x16.1.2] 27) :: As) _ := S90
        have L131 := Mem.rfl' m77
        refine s_mvv (v := a3v0) rfl ?_
        refine wpn ?_
        refine ⟨m77, Mem.tr L130 L131, ?_, facts_step HM rfl K L131 rfl rfl rfl, outP⟩
        show St _ ((bx b2 (bif L 17 then [vU x18.1, vU x18.2] else [vU 0, vU 0]) 27) :: (bx b1 [vU a1.1, vU a1.2] 27) :: (bx b5 [vU x4.1, vU x4.2] 27) :: (bx b6 [vU x6.1, vU x6.2] 27) :: (bx b12 [vU x16.1.1, vU x16.1.2] 27) :: As) _
        rw [d17]
        exact S90
      · intro L f65 w84 hL hd hc ⟨m78, L132, S91, K, hO⟩
        have d17 : L 17 = false := undep hc hL rfl
        replace S91 : St _ ((bx b2 (bif L 17 then [vU x18.1, vU x18.2] else [vU 0, vU 0]) 27) :: (bx b1 [vU a1.1, vU a1.2] 27) :: (bx b5 [vU x4.1, vU x4.2] 27) :: (bx b6 [vU x6.1, vU x6.2] 27) :: (bx b12 [vU x16.1.1, vU x16.1.2] 27) :: As) _ := S91
        rw [d17] at S91
        obtain ⟨u74, rfl⟩ := fr_of (N := 104) (L := []) hO trivial
        replace S91 : St _ ((bx b2 [vU 0, vU 0] 27) :: (bx b1 [vU a1.1, vU a1.2] 27) :: (bx b5 [vU x4.1, vU x4.2] 27) :: (bx b6 [vU x6.1, vU x6.2] 27) :: (bx b12 [vU x16.1.1, vU x16.1.2] 27) :: As) _ := S91
        have L133 := Mem.rfl' m78
        refine s_mvv (v := vI x2) rfl ?_
        refine wpn ?_
        refine ⟨m78, Mem.tr L132 L133, ?_, facts_step HM rfl K L133 rfl rfl rfl, outP⟩
        show St _ ((bx b2 (bif L 17 then [vU x18.1, vU x18.2] else [vU 0, vU 0]) 27) :: (bx b1 [vU a1.1, vU a1.2] 27) :: (bx b5 [vU x4.1, vU x4.2] 27) :: (bx b6 [vU x6.1, vU x6.2] 27) :: (bx b12 [vU x16.1.1, vU x16.1.2] 27) :: As) _
        rw [d17]
        exact S91
      · intro L f66 w85 hL hd hc ⟨m79, L134, S92, K, hO⟩
        have d17 : L 17 = false := undep hc hL rfl
        have d0 : L 0 = true := dep hd rfl
        have e77 := K 0 d0
        have d1 : L 1 = true := dep hd rfl
        have e78 := K 1 d1
        replace S92 : St _ ((bx b2 (bif L 17 then [vU x18.1, vU x18.2] else [vU 0, vU 0]) 27) :: (bx b1 [vU a1.1, vU a1.2] 27) :: (bx b5 [vU x4.1, vU x4.2] 27) :: (bx b6 [vU x6.1, vU x6.2] 27) :: (bx b12 [vU x16.1.1, vU x16.1.2] 27) :: As) _ := S92
        rw [d17] at S92
        obtain ⟨u75, rfl⟩ := fr_of (N := 104) (L := [(87, a3v0), (88, vI x2)]) hO ⟨e77, e78, trivial⟩
        replace S92 : St _ ((bx b2 [vU 0, vU 0] 27) :: (bx b1 [vU a1.1, vU a1.2] 27) :: (bx b5 [vU x4.1, vU x4.2] 27) :: (bx b6 [vU x6.1, vU x6.2] 27) :: (bx b12 [vU x16.1.1, vU x16.1.2] 27) :: As) _ := S92
        replace a3h0 := a3h0.up L134
        have L135 := Mem.rfl' m79
        refine s_idx (q := x17) rfl rfl a3h0 q17 Tryd.underlying22 Tryd.sizeOf27 ?_
        intro p3 c3 h18 r3
        obtain rfl := rep_arr2_UInt64 r3
        refine wpn ?_
        refine ⟨m79, Mem.tr L134 L135, ?_, facts_step HM rfl K L135 rfl rfl ⟨p3, rfl, h18⟩, outP⟩
        show St _ ((bx b2 (bif L 17 then [vU x18.1, vU x18.2] else [vU 0, vU 0]) 27) :: (bx b1 [vU a1.1, vU a1.2] 27) :: (bx b5 [vU x4.1, vU x4.2] 27) :: (bx b6 [vU x6.1, vU x6.2] 27) :: (bx b12 [vU x16.1.1, vU x16.1.2] 27) :: As) _
        rw [d17]
        exact S92
      · intro L f67 w86 hL hd hc ⟨m80, L136, S93, K, hO⟩
        have d17 : L 17 = false := undep hc hL rfl
        have d2 : L 2 = true := dep hd rfl
        obtain ⟨v15, e79, h19⟩ := K 2 d2
        replace S93 : St _ ((bx b2 (bif L 17 then [vU x18.1, vU x18.2] else [vU 0, vU 0]) 27) :: (bx b1 [vU a1.1, vU a1.2] 27) :: (bx b5 [vU x4.1, vU x4.2] 27) :: (bx b6 [vU x6.1, vU x6.2] 27) :: (bx b12 [vU x16.1.1, vU x16.1.2] 27) :: As) _ := S93
        rw [d17] at S93
        obtain ⟨u76, rfl⟩ := fr_of (N := 104) (L := [(89, v15)]) hO ⟨e79, trivial⟩
        replace S93 : St _ ((bx b2 [vU 0, vU 0] 27) :: (bx b1 [vU a1.1, vU a1.2] 27) :: (bx b5 [vU x4.1, vU x4.2] 27) :: (bx b6 [vU x6.1, vU x6.2] 27) :: (bx b12 [vU x16.1.1, vU x16.1.2] 27) :: As) _ := S93
        replace a3h0 := a3h0.up L136
        have L137 := Mem.rfl' m80
        refine s_ldM (cs := [vU x17.1, vU x17.2]) S93 rfl h19 rfl Tryd.isAgg27 Tryd.sizeOf27 (fun h => by cases h) ?_
        refine wpn ?_
        refine ⟨m80, Mem.tr L136 L137, ?_, facts_step HM rfl K L137 rfl rfl rfl, outP⟩
        show St _ ((bx b2 (bif L 17 then [vU x18.1, vU x18.2] else [vU 0, vU 0]) 27) :: (bx b1 [vU a1.1, vU a1.2] 27) :: (bx b5 [vU x4.1, vU x4.2] 27) :: (bx b6 [vU x6.1, vU x6.2] 27) :: (bx b12 [vU x16.1.1, vU x16.1.2] 27) :: As) _
        rw [d17]
        exact S93
      · intro L f68 w87 hL hd hc ⟨m81, L138, S94, K, hO⟩
        have d17 : L 17 = false := undep hc hL rfl
        replace S94 : St _ ((bx b2 (bif L 17 then [vU x18.1, vU x18.2] else [vU 0, vU 0]) 27) :: (bx b1 [vU a1.1, vU a1.2] 27) :: (bx b5 [vU x4.1, vU x4.2] 27) :: (bx b6 [vU x6.1, vU x6.2] 27) :: (bx b12 [vU x16.1.1, vU x16.1.2] 27) :: As) _ := S94
        rw [d17] at S94
        obtain ⟨u77, rfl⟩ := fr_of (N := 104) (L := []) hO trivial
        replace S94 : St _ ((bx b2 [vU 0, vU 0] 27) :: (bx b1 [vU a1.1, vU a1.2] 27) :: (bx b5 [vU x4.1, vU x4.2] 27) :: (bx b6 [vU x6.1, vU x6.2] 27) :: (bx b12 [vU x16.1.1, vU x16.1.2] 27) :: As) _ := S94
        replace a3h0 := a3h0.up L138
        have L139 := Mem.rfl' m81
        refine s_ld (i := 4) (cs := [vU x16.1.1, vU x16.1.2]) S94 rfl rfl Tryd.isAgg27 Tryd.sizeOf27 rfl (fun h => by cases h) ?_
        refine wpn ?_
        refine ⟨m81, Mem.tr L138 L139, ?_, facts_step HM rfl K L139 rfl rfl rfl, outP⟩
        show St _ ((bx b2 (bif L 17 then [vU x18.1, vU x18.2] else [vU 0, vU 0]) 27) :: (bx b1 [vU a1.1, vU a1.2] 27) :: (bx b5 [vU x4.1, vU x4.2] 27) :: (bx b6 [vU x6.1, vU x6.2] 27) :: (bx b12 [vU x16.1.1, vU x16.1.2] 27) :: As) _
        rw [d17]
        exact S94
      · intro L f69 w88 hL hd hc ⟨m82, L140, S95, K, hO⟩
        have d17 : L 17 = false := undep hc hL rfl
        have d3 : L 3 = true := dep hd rfl
        have e80 := K 3 d3
        have d4 : L 4 = true := dep hd rfl
        have e81 := K 4 d4
        replace S95 : St _ ((bx b2 (bif L 17 then [vU x18.1, vU x18.2] else [vU 0, vU 0]) 27) :: (bx b1 [vU a1.1, vU a1.2] 27) :: (bx b5 [vU x4.1, vU x4.2] 27) :: (bx b6 [vU x6.1, vU x6.2] 27) :: (bx b12 [vU x16.1.1, vU x16.1.2] 27) :: As) _ := S95
        rw [d17] at S95
        obtain ⟨u78, rfl⟩ := fr_of (N := 104) (L := [(90, .agg #[vU x17.1, vU x17.2]), (91, .agg #[vU x16.1.1, vU x16.1.2])]) hO ⟨e80, e81, trivial⟩
        replace S95 : St _ ((bx b2 [vU 0, vU 0] 27) :: (bx b1 [vU a1.1, vU a1.2] 27) :: (bx b5 [vU x4.1, vU x4.2] 27) :: (bx b6 [vU x6.1, vU x6.2] 27) :: (bx b12 [vU x16.1.1, vU x16.1.2] 27) :: As) _ := S95
        replace a3h0 := a3h0.up L140
        have L141 := Mem.rfl' m82
        refine s_call Tryd.call29 (w_hash_Pair (a0 := x17) (a1 := x16.1) S95  q18) rfl ?_
        rintro _ w89 ⟨m83, l15, S96, rfl⟩
        replace a3h0 := a3h0.up l15
        replace L141 := Mem.tr L141 l15
        clear S95
        replace S96 : St _ ((bx b2 [vU 0, vU 0] 27) :: (bx b1 [vU a1.1, vU a1.2] 27) :: (bx b5 [vU x4.1, vU x4.2] 27) :: (bx b6 [vU x6.1, vU x6.2] 27) :: (bx b12 [vU x16.1.1, vU x16.1.2] 27) :: As) _ := S96
        refine wpn ?_
        refine ⟨m83, Mem.tr L140 L141, ?_, facts_step HM rfl K L141 rfl rfl rfl, outP⟩
        show St _ ((bx b2 (bif L 17 then [vU x18.1, vU x18.2] else [vU 0, vU 0]) 27) :: (bx b1 [vU a1.1, vU a1.2] 27) :: (bx b5 [vU x4.1, vU x4.2] 27) :: (bx b6 [vU x6.1, vU x6.2] 27) :: (bx b12 [vU x16.1.1, vU x16.1.2] 27) :: As) _
        rw [d17]
        exact S96
      · intro L f70 w90 hL hd hc ⟨m84, L142, S97, K, hO⟩
        have d7 : L 7 = false := undep hc hL rfl
        have d15 : L 15 = false := undep hc d7 rfl
        have d17 : L 17 = false := undep hc d15 rfl
        replace S97 : St _ ((bx b2 (bif L 17 then [vU x18.1, vU x18.2] else [vU 0, vU 0]) 27) :: (bx b1 [vU a1.1, vU a1.2] 27) :: (bx b5 [vU x4.1, vU x4.2] 27) :: (bx b6 [vU x6.1, vU x6.2] 27) :: (bx b12 [vU x16.1.1, vU x16.1.2] 27) :: As) _ := S97
        rw [d17] at S97
        obtain ⟨u79, rfl⟩ := fr_of (N := 104) (L := []) hO trivial
        replace S97 : St _ ((bx b2 [vU 0, vU 0] 27) :: (bx b1 [vU a1.1, vU a1.2] 27) :: (bx b5 [vU x4.1, vU x4.2] 27) :: (bx b6 [vU x6.1, vU x6.2] 27) :: (bx b12 [vU x16.1.1, vU x16.1.2] 27) :: As) _ := S97
        have L143 := Mem.rfl' m84
        refine s_mvv (v := vb x16.2) rfl ?_
        refine wpn ?_
        refine ⟨m84, Mem.tr L142 L143, ?_, facts_step HM rfl K L143 rfl rfl rfl, outP⟩
        show St _ ((bx b2 (bif L 17 then [vU x18.1, vU x18.2] else [vU 0, vU 0]) 27) :: (bx b1 [vU a1.1, vU a1.2] 27) :: (bx b5 [vU x4.1, vU x4.2] 27) :: (bx b6 [vU x6.1, vU x6.2] 27) :: (bx b12 [vU x16.1.1, vU x16.1.2] 27) :: As) _
        rw [d17]
        exact S97
      · intro L f71 w91 hL hd hc ⟨m85, L144, S98, K, hO⟩
        have d15 : L 15 = false := undep hc hL rfl
        have d17 : L 17 = false := undep hc d15 rfl
        have d6 : L 6 = true := dep hd rfl
        have e82 := K 6 d6
        replace S98 : St _ ((bx b2 (bif L 17 then [vU x18.1, vU x18.2] else [vU 0, vU 0]) 27) :: (bx b1 [vU a1.1, vU a1.2] 27) :: (bx b5 [vU x4.1, vU x4.2] 27) :: (bx b6 [vU x6.1, vU x6.2] 27) :: (bx b12 [vU x16.1.1, vU x16.1.2] 27) :: As) _ := S98
        rw [d17] at S98
        obtain ⟨u80, rfl⟩ := fr_of (N := 104) (L := [(93, vb x16.2)]) hO ⟨e82, trivial⟩
        replace S98 : St _ ((bx b2 [vU 0, vU 0] 27) :: (bx b1 [vU a1.1, vU a1.2] 27) :: (bx b5 [vU x4.1, vU x4.2] 27) :: (bx b6 [vU x6.1, vU x6.2] 27) :: (bx b12 [vU x16.1.1, vU x16.1.2] 27) :: As) _ := S98
        have L145 := Mem.rfl' m85
        refine s_mvv (v := vb x16.2) rfl ?_
        refine wpn ?_
        refine ⟨m85, Mem.tr L144 L145, ?_, facts_step HM rfl K L145 rfl rfl rfl, outP⟩
        show St _ ((bx b2 (bif L 17 then [vU x18.1, vU x18.2] else [vU 0, vU 0]) 27) :: (bx b1 [vU a1.1, vU a1.2] 27) :: (bx b5 [vU x4.1, vU x4.2] 27) :: (bx b6 [vU x6.1, vU x6.2] 27) :: (bx b12 [vU x16.1.1, vU x16.1.2] 27) :: As) _
        rw [d17]
        exact S98
      · intro L f72 w92 hL hd hc ⟨m86, L146, S99, K, hO⟩
        rcases bool_tf x16.2 with hb11 | hb11
        · have d10 : L 10 = false := undep hc hL rfl
          have d11 : L 11 = false := undep hc d10 rfl
          have d15 : L 15 = false := undep hc d11 rfl
          have d17 : L 17 = false := undep hc d15 rfl
          have d7 : L 7 = true := dep hd rfl
          have e84 := K 7 d7
          replace S99 : St _ ((bx b2 (bif L 17 then [vU x18.1, vU x18.2] else [vU 0, vU 0]) 27) :: (bx b1 [vU a1.1, vU a1.2] 27) :: (bx b5 [vU x4.1, vU x4.2] 27) :: (bx b6 [vU x6.1, vU x6.2] 27) :: (bx b12 [vU x16.1.1, vU x16.1.2] 27) :: As) _ := S99
          rw [d17] at S99
          obtain ⟨u82, rfl⟩ := fr_of (N := 104) (L := [(94, vb x16.2)]) hO ⟨e84, trivial⟩
          replace S99 : St _ ((bx b2 [vU 0, vU 0] 27) :: (bx b1 [vU a1.1, vU a1.2] 27) :: (bx b5 [vU x4.1, vU x4.2] 27) :: (bx b6 [vU x6.1, vU x6.2] 27) :: (bx b12 [vU x16.1.1, vU x16.1.2] 27) :: As) _ := S99
          have L148 := Mem.rfl' m86
          refine wpl_no (d := 94) rfl rfl (congrArg Value.bool hb11) ?_
          refine wpn ?_
          refine ⟨m86, Mem.tr L146 L148, ?_, facts_step HM rfl K L148 rfl rfl ⟨fun hx => tf hx (not_f hb11), fun _ => rfl⟩, outP⟩
          show St _ ((bx b2 (bif L 17 then [vU x18.1, vU x18.2] else [vU 0, vU 0]) 27) :: (bx b1 [vU a1.1, vU a1.2] 27) :: (bx b5 [vU x4.1, vU x4.2] 27) :: (bx b6 [vU x6.1, vU x6.2] 27) :: (bx b12 [vU x16.1.1, vU x16.1.2] 27) :: As) _
          rw [d17]
          exact S99
        have d10 : L 10 = false := undep hc hL rfl
        have d11 : L 11 = false := undep hc d10 rfl
        have d15 : L 15 = false := undep hc d11 rfl
        have d17 : L 17 = false := undep hc d15 rfl
        have d7 : L 7 = true := dep hd rfl
        have e83 := K 7 d7
        replace S99 : St _ ((bx b2 (bif L 17 then [vU x18.1, vU x18.2] else [vU 0, vU 0]) 27) :: (bx b1 [vU a1.1, vU a1.2] 27) :: (bx b5 [vU x4.1, vU x4.2] 27) :: (bx b6 [vU x6.1, vU x6.2] 27) :: (bx b12 [vU x16.1.1, vU x16.1.2] 27) :: As) _ := S99
        rw [d17] at S99
        obtain ⟨u81, rfl⟩ := fr_of (N := 104) (L := [(94, vb x16.2)]) hO ⟨e83, trivial⟩
        replace S99 : St _ ((bx b2 [vU 0, vU 0] 27) :: (bx b1 [vU a1.1, vU a1.2] 27) :: (bx b5 [vU x4.1, vU x4.2] 27) :: (bx b6 [vU x6.1, vU x6.2] 27) :: (bx b12 [vU x16.1.1, vU x16.1.2] 27) :: As) _ := S99
        have L147 := Mem.rfl' m86
        refine wpl_yes (d := 94) rfl rfl (congrArg Value.bool hb11) ?_
        refine s_mvv (v := a3v0) rfl ?_
        refine wpn ?_
        refine ⟨m86, Mem.tr L146 L147, ?_, facts_step HM rfl K L147 rfl rfl ⟨fun _ => rfl, fun hx => tf (not_t hb11) hx⟩, outP⟩
        show St _ ((bx b2 (bif L 17 then [vU x18.1, vU x18.2] else [vU 0, vU 0]) 27) :: (bx b1 [vU a1.1, vU a1.2] 27) :: (bx b5 [vU x4.1, vU x4.2] 27) :: (bx b6 [vU x6.1, vU x6.2] 27) :: (bx b12 [vU x16.1.1, vU x16.1.2] 27) :: As) _
        rw [d17]
        exact S99
      · intro L f73 w93 hL hd hc ⟨m87, L149, S100, K, hO⟩
        rcases bool_tf x16.2 with hb12 | hb12
        · have d10 : L 10 = false := undep hc hL rfl
          have d11 : L 11 = false := undep hc d10 rfl
          have d15 : L 15 = false := undep hc d11 rfl
          have d17 : L 17 = false := undep hc d15 rfl
          have d7 : L 7 = true := dep hd rfl
          have e86 := K 7 d7
          replace S100 : St _ ((bx b2 (bif L 17 then [vU x18.1, vU x18.2] else [vU 0, vU 0]) 27) :: (bx b1 [vU a1.1, vU a1.2] 27) :: (bx b5 [vU x4.1, vU x4.2] 27) :: (bx b6 [vU x6.1, vU x6.2] 27) :: (bx b12 [vU x16.1.1, vU x16.1.2] 27) :: As) _ := S100
          rw [d17] at S100
          obtain ⟨u84, rfl⟩ := fr_of (N := 104) (L := [(94, vb x16.2)]) hO ⟨e86, trivial⟩
          replace S100 : St _ ((bx b2 [vU 0, vU 0] 27) :: (bx b1 [vU a1.1, vU a1.2] 27) :: (bx b5 [vU x4.1, vU x4.2] 27) :: (bx b6 [vU x6.1, vU x6.2] 27) :: (bx b12 [vU x16.1.1, vU x16.1.2] 27) :: As) _ := S100
          have L151 := Mem.rfl' m87
          refine wpl_no (d := 94) rfl rfl (congrArg Value.bool hb12) ?_
          refine wpn ?_
          refine ⟨m87, Mem.tr L149 L151, ?_, facts_step HM rfl K L151 rfl rfl ⟨fun hx => tf hx (not_f hb12), fun _ => rfl⟩, outP⟩
          show St _ ((bx b2 (bif L 17 then [vU x18.1, vU x18.2] else [vU 0, vU 0]) 27) :: (bx b1 [vU a1.1, vU a1.2] 27) :: (bx b5 [vU x4.1, vU x4.2] 27) :: (bx b6 [vU x6.1, vU x6.2] 27) :: (bx b12 [vU x16.1.1, vU x16.1.2] 27) :: As) _
          rw [d17]
          exact S100
        have d10 : L 10 = false := undep hc hL rfl
        have d11 : L 11 = false := undep hc d10 rfl
        have d15 : L 15 = false := undep hc d11 rfl
        have d17 : L 17 = false := undep hc d15 rfl
        have d7 : L 7 = true := dep hd rfl
        have e85 := K 7 d7
        replace S100 : St _ ((bx b2 (bif L 17 then [vU x18.1, vU x18.2] else [vU 0, vU 0]) 27) :: (bx b1 [vU a1.1, vU a1.2] 27) :: (bx b5 [vU x4.1, vU x4.2] 27) :: (bx b6 [vU x6.1, vU x6.2] 27) :: (bx b12 [vU x16.1.1, vU x16.1.2] 27) :: As) _ := S100
        rw [d17] at S100
        obtain ⟨u83, rfl⟩ := fr_of (N := 104) (L := [(94, vb x16.2)]) hO ⟨e85, trivial⟩
        replace S100 : St _ ((bx b2 [vU 0, vU 0] 27) :: (bx b1 [vU a1.1, vU a1.2] 27) :: (bx b5 [vU x4.1, vU x4.2] 27) :: (bx b6 [vU x6.1, vU x6.2] 27) :: (bx b12 [vU x16.1.1, vU x16.1.2] 27) :: As) _ := S100
        have L150 := Mem.rfl' m87
        refine wpl_yes (d := 94) rfl rfl (congrArg Value.bool hb12) ?_
        refine s_mvv (v := vI x2) rfl ?_
        refine wpn ?_
        refine ⟨m87, Mem.tr L149 L150, ?_, facts_step HM rfl K L150 rfl rfl ⟨fun _ => rfl, fun hx => tf (not_t hb12) hx⟩, outP⟩
        show St _ ((bx b2 (bif L 17 then [vU x18.1, vU x18.2] else [vU 0, vU 0]) 27) :: (bx b1 [vU a1.1, vU a1.2] 27) :: (bx b5 [vU x4.1, vU x4.2] 27) :: (bx b6 [vU x6.1, vU x6.2] 27) :: (bx b12 [vU x16.1.1, vU x16.1.2] 27) :: As) _
        rw [d17]
        exact S100
      · intro L f74 w94 hL hd hc ⟨m88, L152, S101, K, hO⟩
        rcases bool_tf x16.2 with hb13 | hb13
        · have d11 : L 11 = false := undep hc hL rfl
          have d15 : L 15 = false := undep hc d11 rfl
          have d17 : L 17 = false := undep hc d15 rfl
          have d7 : L 7 = true := dep hd rfl
          have e90 := K 7 d7
          replace S101 : St _ ((bx b2 (bif L 17 then [vU x18.1, vU x18.2] else [vU 0, vU 0]) 27) :: (bx b1 [vU a1.1, vU a1.2] 27) :: (bx b5 [vU x4.1, vU x4.2] 27) :: (bx b6 [vU x6.1, vU x6.2] 27) :: (bx b12 [vU x16.1.1, vU x16.1.2] 27) :: As) _ := S101
          rw [d17] at S101
          obtain ⟨u86, rfl⟩ := fr_of (N := 104) (L := [(94, vb x16.2)]) hO ⟨e90, trivial⟩
          replace S101 : St _ ((bx b2 [vU 0, vU 0] 27) :: (bx b1 [vU a1.1, vU a1.2] 27) :: (bx b5 [vU x4.1, vU x4.2] 27) :: (bx b6 [vU x6.1, vU x6.2] 27) :: (bx b12 [vU x16.1.1, vU x16.1.2] 27) :: As) _ := S101
          have L154 := Mem.rfl' m88
          refine wpl_no (d := 94) rfl rfl (congrArg Value.bool hb13) ?_
          refine wpn ?_
          refine ⟨m88, Mem.tr L152 L154, ?_, facts_step HM rfl K L154 rfl rfl ⟨fun hx => tf hx (not_f hb13), fun _ => rfl⟩, outP⟩
          show St _ ((bx b2 (bif L 17 then [vU x18.1, vU x18.2] else [vU 0, vU 0]) 27) :: (bx b1 [vU a1.1, vU a1.2] 27) :: (bx b5 [vU x4.1, vU x4.2] 27) :: (bx b6 [vU x6.1, vU x6.2] 27) :: (bx b12 [vU x16.1.1, vU x16.1.2] 27) :: As) _
          rw [d17]
          exact S101
        have d11 : L 11 = false := undep hc hL rfl
        have d15 : L 15 = false := undep hc d11 rfl
        have d17 : L 17 = false := undep hc d15 rfl
        have d7 : L 7 = true := dep hd rfl
        have e87 := K 7 d7
        have d8 : L 8 = true := dep hd rfl
        have e88 := (K 8 d8).1 (not_t hb13)
        have d9 : L 9 = true := dep hd rfl
        have e89 := (K 9 d9).1 (not_t hb13)
        replace S101 : St _ ((bx b2 (bif L 17 then [vU x18.1, vU x18.2] else [vU 0, vU 0]) 27) :: (bx b1 [vU a1.1, vU a1.2] 27) :: (bx b5 [vU x4.1, vU x4.2] 27) :: (bx b6 [vU x6.1, vU x6.2] 27) :: (bx b12 [vU x16.1.1, vU x16.1.2] 27) :: As) _ := S101
        rw [d17] at S101
        obtain ⟨u85, rfl⟩ := fr_of (N := 104) (L := [(94, vb x16.2), (95, a3v0), (96, vI x2)]) hO ⟨e87, e88, e89, trivial⟩
        replace S101 : St _ ((bx b2 [vU 0, vU 0] 27) :: (bx b1 [vU a1.1, vU a1.2] 27) :: (bx b5 [vU x4.1, vU x4.2] 27) :: (bx b6 [vU x6.1, vU x6.2] 27) :: (bx b12 [vU x16.1.1, vU x16.1.2] 27) :: As) _ := S101
        replace a3h0 := a3h0.up L152
        have L153 := Mem.rfl' m88
        refine wpl_yes (d := 94) rfl rfl (congrArg Value.bool hb13) ?_
        replace q19 := gu_t (not_t hb13) q19
        refine s_idx (q := x19) rfl rfl a3h0 q19 Tryd.underlying22 Tryd.sizeOf27 ?_
        intro p4 c4 h20 r4
        obtain rfl := rep_arr2_UInt64 r4
        refine wpn ?_
        refine ⟨m88, Mem.tr L152 L153, ?_, facts_step HM rfl K L153 rfl rfl ⟨fun _ => ⟨p4, rfl, h20⟩, fun hx => tf (not_t hb13) hx⟩, outP⟩
        show St _ ((bx b2 (bif L 17 then [vU x18.1, vU x18.2] else [vU 0, vU 0]) 27) :: (bx b1 [vU a1.1, vU a1.2] 27) :: (bx b5 [vU x4.1, vU x4.2] 27) :: (bx b6 [vU x6.1, vU x6.2] 27) :: (bx b12 [vU x16.1.1, vU x16.1.2] 27) :: As) _
        rw [d17]
        exact S101
      · intro L f75 w95 hL hd hc ⟨m89, L155, S102, K, hO⟩
        rcases bool_tf x16.2 with hb14 | hb14
        · have d15 : L 15 = false := undep hc hL rfl
          have d17 : L 17 = false := undep hc d15 rfl
          have d7 : L 7 = true := dep hd rfl
          have e93 := K 7 d7
          replace S102 : St _ ((bx b2 (bif L 17 then [vU x18.1, vU x18.2] else [vU 0, vU 0]) 27) :: (bx b1 [vU a1.1, vU a1.2] 27) :: (bx b5 [vU x4.1, vU x4.2] 27) :: (bx b6 [vU x6.1, vU x6.2] 27) :: (bx b12 [vU x16.1.1, vU x16.1.2] 27) :: As) _ := S102
          rw [d17] at S102
          obtain ⟨u88, rfl⟩ := fr_of (N := 104) (L := [(94, vb x16.2)]) hO ⟨e93, trivial⟩
          replace S102 : St _ ((bx b2 [vU 0, vU 0] 27) :: (bx b1 [vU a1.1, vU a1.2] 27) :: (bx b5 [vU x4.1, vU x4.2] 27) :: (bx b6 [vU x6.1, vU x6.2] 27) :: (bx b12 [vU x16.1.1, vU x16.1.2] 27) :: As) _ := S102
          have L157 := Mem.rfl' m89
          refine wpl_no (d := 94) rfl rfl (congrArg Value.bool hb14) ?_
          refine wpn ?_
          refine ⟨m89, Mem.tr L155 L157, ?_, facts_step HM rfl K L157 rfl rfl ⟨fun hx => tf hx (not_f hb14), fun _ => rfl⟩, outP⟩
          show St _ ((bx b2 (bif L 17 then [vU x18.1, vU x18.2] else [vU 0, vU 0]) 27) :: (bx b1 [vU a1.1, vU a1.2] 27) :: (bx b5 [vU x4.1, vU x4.2] 27) :: (bx b6 [vU x6.1, vU x6.2] 27) :: (bx b12 [vU x16.1.1, vU x16.1.2] 27) :: As) _
          rw [d17]
          exact S102
        have d15 : L 15 = false := undep hc hL rfl
        have d17 : L 17 = false := undep hc d15 rfl
        have d7 : L 7 = true := dep hd rfl
        have e91 := K 7 d7
        have d10 : L 10 = true := dep hd rfl
        obtain ⟨v16, e92, h21⟩ := (K 10 d10).1 (not_t hb14)
        replace S102 : St _ ((bx b2 (bif L 17 then [vU x18.1, vU x18.2] else [vU 0, vU 0]) 27) :: (bx b1 [vU a1.1, vU a1.2] 27) :: (bx b5 [vU x4.1, vU x4.2] 27) :: (bx b6 [vU x6.1, vU x6.2] 27) :: (bx b12 [vU x16.1.1, vU x16.1.2] 27) :: As) _ := S102
        rw [d17] at S102
        obtain ⟨u87, rfl⟩ := fr_of (N := 104) (L := [(94, vb x16.2), (97, v16)]) hO ⟨e91, e92, trivial⟩
        replace S102 : St _ ((bx b2 [vU 0, vU 0] 27) :: (bx b1 [vU a1.1, vU a1.2] 27) :: (bx b5 [vU x4.1, vU x4.2] 27) :: (bx b6 [vU x6.1, vU x6.2] 27) :: (bx b12 [vU x16.1.1, vU x16.1.2] 27) :: As) _ := S102
        replace a3h0 := a3h0.up L155
        have L156 := Mem.rfl' m89
        refine wpl_yes (d := 94) rfl rfl (congrArg Value.bool hb14) ?_
        refine s_ldM (cs := [vU x19.1, vU x19.2]) S102 rfl h21 rfl Tryd.isAgg27 Tryd.sizeOf27 (fun h => by cases h) ?_
        refine wpn ?_
        refine ⟨m89, Mem.tr L155 L156, ?_, facts_step HM rfl K L156 rfl rfl ⟨fun _ => rfl, fun hx => tf (not_t hb14) hx⟩, outP⟩
        show St _ ((bx b2 (bif L 17 then [vU x18.1, vU x18.2] else [vU 0, vU 0]) 27) :: (bx b1 [vU a1.1, vU a1.2] 27) :: (bx b5 [vU x4.1, vU x4.2] 27) :: (bx b6 [vU x6.1, vU x6.2] 27) :: (bx b12 [vU x16.1.1, vU x16.1.2] 27) :: As) _
        rw [d17]
        exact S102
      · intro L f76 w96 hL hd hc ⟨m90, L158, S103, K, hO⟩
        rcases bool_tf x16.2 with hb15 | hb15
        · have d15 : L 15 = false := undep hc hL rfl
          have d17 : L 17 = false := undep hc d15 rfl
          have d7 : L 7 = true := dep hd rfl
          have e95 := K 7 d7
          replace S103 : St _ ((bx b2 (bif L 17 then [vU x18.1, vU x18.2] else [vU 0, vU 0]) 27) :: (bx b1 [vU a1.1, vU a1.2] 27) :: (bx b5 [vU x4.1, vU x4.2] 27) :: (bx b6 [vU x6.1, vU x6.2] 27) :: (bx b12 [vU x16.1.1, vU x16.1.2] 27) :: As) _ := S103
          rw [d17] at S103
          obtain ⟨u90, rfl⟩ := fr_of (N := 104) (L := [(94, vb x16.2)]) hO ⟨e95, trivial⟩
          replace S103 : St _ ((bx b2 [vU 0, vU 0] 27) :: (bx b1 [vU a1.1, vU a1.2] 27) :: (bx b5 [vU x4.1, vU x4.2] 27) :: (bx b6 [vU x6.1, vU x6.2] 27) :: (bx b12 [vU x16.1.1, vU x16.1.2] 27) :: As) _ := S103
          have L160 := Mem.rfl' m90
          refine wpl_no (d := 94) rfl rfl (congrArg Value.bool hb15) ?_
          refine wpn ?_
          refine ⟨m90, Mem.tr L158 L160, ?_, facts_step HM rfl K L160 rfl rfl ⟨fun hx => tf hx (not_f hb15), fun _ => rfl⟩, outP⟩
          show St _ ((bx b2 (bif L 17 then [vU x18.1, vU x18.2] else [vU 0, vU 0]) 27) :: (bx b1 [vU a1.1, vU a1.2] 27) :: (bx b5 [vU x4.1, vU x4.2] 27) :: (bx b6 [vU x6.1, vU x6.2] 27) :: (bx b12 [vU x16.1.1, vU x16.1.2] 27) :: As) _
          rw [d17]
          exact S103
        have d15 : L 15 = false := undep hc hL rfl
        have d17 : L 17 = false := undep hc d15 rfl
        have d7 : L 7 = true := dep hd rfl
        have e94 := K 7 d7
        replace S103 : St _ ((bx b2 (bif L 17 then [vU x18.1, vU x18.2] else [vU 0, vU 0]) 27) :: (bx b1 [vU a1.1, vU a1.2] 27) :: (bx b5 [vU x4.1, vU x4.2] 27) :: (bx b6 [vU x6.1, vU x6.2] 27) :: (bx b12 [vU x16.1.1, vU x16.1.2] 27) :: As) _ := S103
        rw [d17] at S103
        obtain ⟨u89, rfl⟩ := fr_of (N := 104) (L := [(94, vb x16.2)]) hO ⟨e94, trivial⟩
        replace S103 : St _ ((bx b2 [vU 0, vU 0] 27) :: (bx b1 [vU a1.1, vU a1.2] 27) :: (bx b5 [vU x4.1, vU x4.2] 27) :: (bx b6 [vU x6.1, vU x6.2] 27) :: (bx b12 [vU x16.1.1, vU x16.1.2] 27) :: As) _ := S103
        replace a3h0 := a3h0.up L158
        have L159 := Mem.rfl' m90
        refine wpl_yes (d := 94) rfl rfl (congrArg Value.bool hb15) ?_
        refine s_ld (i := 4) (cs := [vU x16.1.1, vU x16.1.2]) S103 rfl rfl Tryd.isAgg27 Tryd.sizeOf27 rfl (fun h => by cases h) ?_
        refine wpn ?_
        refine ⟨m90, Mem.tr L158 L159, ?_, facts_step HM rfl K L159 rfl rfl ⟨fun _ => rfl, fun hx => tf (not_t hb15) hx⟩, outP⟩
        show St _ ((bx b2 (bif L 17 then [vU x18.1, vU x18.2] else [vU 0, vU 0]) 27) :: (bx b1 [vU a1.1, vU a1.2] 27) :: (bx b5 [vU x4.1, vU x4.2] 27) :: (bx b6 [vU x6.1, vU x6.2] 27) :: (bx b12 [vU x16.1.1, vU x16.1.2] 27) :: As) _
        rw [d17]
        exact S103
      · intro L f77 w97 hL hd hc ⟨m91, L161, S104, K, hO⟩
        rcases bool_tf x16.2 with hb16 | hb16
        · have d15 : L 15 = false := undep hc hL rfl
          have d17 : L 17 = false := undep hc d15 rfl
          have d7 : L 7 = true := dep hd rfl
          have e97 := K 7 d7
          replace S104 : St _ ((bx b2 (bif L 17 then [vU x18.1, vU x18.2] else [vU 0, vU 0]) 27) :: (bx b1 [vU a1.1, vU a1.2] 27) :: (bx b5 [vU x4.1, vU x4.2] 27) :: (bx b6 [vU x6.1, vU x6.2] 27) :: (bx b12 [vU x16.1.1, vU x16.1.2] 27) :: As) _ := S104
          rw [d17] at S104
          obtain ⟨u92, rfl⟩ := fr_of (N := 104) (L := [(94, vb x16.2)]) hO ⟨e97, trivial⟩
          replace S104 : St _ ((bx b2 [vU 0, vU 0] 27) :: (bx b1 [vU a1.1, vU a1.2] 27) :: (bx b5 [vU x4.1, vU x4.2] 27) :: (bx b6 [vU x6.1, vU x6.2] 27) :: (bx b12 [vU x16.1.1, vU x16.1.2] 27) :: As) _ := S104
          have L163 := Mem.rfl' m91
          refine wpl_no (d := 94) rfl rfl (congrArg Value.bool hb16) ?_
          refine wpn ?_
          refine ⟨m91, Mem.tr L161 L163, ?_, facts_step HM rfl K L163 rfl rfl ⟨fun hx => tf hx (not_f hb16), fun _ => rfl⟩, outP⟩
          show St _ ((bx b2 (bif L 17 then [vU x18.1, vU x18.2] else [vU 0, vU 0]) 27) :: (bx b1 [vU a1.1, vU a1.2] 27) :: (bx b5 [vU x4.1, vU x4.2] 27) :: (bx b6 [vU x6.1, vU x6.2] 27) :: (bx b12 [vU x16.1.1, vU x16.1.2] 27) :: As) _
          rw [d17]
          exact S104
        have d15 : L 15 = false := undep hc hL rfl
        have d17 : L 17 = false := undep hc d15 rfl
        have d7 : L 7 = true := dep hd rfl
        have e96 := K 7 d7
        replace S104 : St _ ((bx b2 (bif L 17 then [vU x18.1, vU x18.2] else [vU 0, vU 0]) 27) :: (bx b1 [vU a1.1, vU a1.2] 27) :: (bx b5 [vU x4.1, vU x4.2] 27) :: (bx b6 [vU x6.1, vU x6.2] 27) :: (bx b12 [vU x16.1.1, vU x16.1.2] 27) :: As) _ := S104
        rw [d17] at S104
        obtain ⟨u91, rfl⟩ := fr_of (N := 104) (L := [(94, vb x16.2)]) hO ⟨e96, trivial⟩
        replace S104 : St _ ((bx b2 [vU 0, vU 0] 27) :: (bx b1 [vU a1.1, vU a1.2] 27) :: (bx b5 [vU x4.1, vU x4.2] 27) :: (bx b6 [vU x6.1, vU x6.2] 27) :: (bx b12 [vU x16.1.1, vU x16.1.2] 27) :: As) _ := S104
        replace a3h0 := a3h0.up L161
        have L162 := Mem.rfl' m91
        refine wpl_yes (d := 94) rfl rfl (congrArg Value.bool hb16) ?_
        refine s_ld (i := 2) (cs := [vU x4.1, vU x4.2]) S104 rfl rfl Tryd.isAgg27 Tryd.sizeOf27 rfl (fun h => by cases h) ?_
        refine wpn ?_
        refine ⟨m91, Mem.tr L161 L162, ?_, facts_step HM rfl K L162 rfl rfl ⟨fun _ => rfl, fun hx => tf (not_t hb16) hx⟩, outP⟩
        show St _ ((bx b2 (bif L 17 then [vU x18.1, vU x18.2] else [vU 0, vU 0]) 27) :: (bx b1 [vU a1.1, vU a1.2] 27) :: (bx b5 [vU x4.1, vU x4.2] 27) :: (bx b6 [vU x6.1, vU x6.2] 27) :: (bx b12 [vU x16.1.1, vU x16.1.2] 27) :: As) _
        rw [d17]
        exact S104
      · intro L f78 w98 hL hd hc ⟨m92, L164, S105, K, hO⟩
        rcases bool_tf x16.2 with hb17 | hb17
        · have d15 : L 15 = false := undep hc hL rfl
          have d17 : L 17 = false := undep hc d15 rfl
          have d7 : L 7 = true := dep hd rfl
          have e99 := K 7 d7
          replace S105 : St _ ((bx b2 (bif L 17 then [vU x18.1, vU x18.2] else [vU 0, vU 0]) 27) :: (bx b1 [vU a1.1, vU a1.2] 27) :: (bx b5 [vU x4.1, vU x4.2] 27) :: (bx b6 [vU x6.1, vU x6.2] 27) :: (bx b12 [vU x16.1.1, vU x16.1.2] 27) :: As) _ := S105
          rw [d17] at S105
          obtain ⟨u94, rfl⟩ := fr_of (N := 104) (L := [(94, vb x16.2)]) hO ⟨e99, trivial⟩
          replace S105 : St _ ((bx b2 [vU 0, vU 0] 27) :: (bx b1 [vU a1.1, vU a1.2] 27) :: (bx b5 [vU x4.1, vU x4.2] 27) :: (bx b6 [vU x6.1, vU x6.2] 27) :: (bx b12 [vU x16.1.1, vU x16.1.2] 27) :: As) _ := S105
          have L166 := Mem.rfl' m92
          refine wpl_no (d := 94) rfl rfl (congrArg Value.bool hb17) ?_
          refine wpn ?_
          refine ⟨m92, Mem.tr L164 L166, ?_, facts_step HM rfl K L166 rfl rfl ⟨fun hx => tf hx (not_f hb17), fun _ => rfl⟩, outP⟩
          show St _ ((bx b2 (bif L 17 then [vU x18.1, vU x18.2] else [vU 0, vU 0]) 27) :: (bx b1 [vU a1.1, vU a1.2] 27) :: (bx b5 [vU x4.1, vU x4.2] 27) :: (bx b6 [vU x6.1, vU x6.2] 27) :: (bx b12 [vU x16.1.1, vU x16.1.2] 27) :: As) _
          rw [d17]
          exact S105
        have d15 : L 15 = false := undep hc hL rfl
        have d17 : L 17 = false := undep hc d15 rfl
        have d7 : L 7 = true := dep hd rfl
        have e98 := K 7 d7
        replace S105 : St _ ((bx b2 (bif L 17 then [vU x18.1, vU x18.2] else [vU 0, vU 0]) 27) :: (bx b1 [vU a1.1, vU a1.2] 27) :: (bx b5 [vU x4.1, vU x4.2] 27) :: (bx b6 [vU x6.1, vU x6.2] 27) :: (bx b12 [vU x16.1.1, vU x16.1.2] 27) :: As) _ := S105
        rw [d17] at S105
        obtain ⟨u93, rfl⟩ := fr_of (N := 104) (L := [(94, vb x16.2)]) hO ⟨e98, trivial⟩
        replace S105 : St _ ((bx b2 [vU 0, vU 0] 27) :: (bx b1 [vU a1.1, vU a1.2] 27) :: (bx b5 [vU x4.1, vU x4.2] 27) :: (bx b6 [vU x6.1, vU x6.2] 27) :: (bx b12 [vU x16.1.1, vU x16.1.2] 27) :: As) _ := S105
        replace a3h0 := a3h0.up L164
        have L165 := Mem.rfl' m92
        refine wpl_yes (d := 94) rfl rfl (congrArg Value.bool hb17) ?_
        refine s_ld (i := 3) (cs := [vU x6.1, vU x6.2]) S105 rfl rfl Tryd.isAgg27 Tryd.sizeOf27 rfl (fun h => by cases h) ?_
        refine wpn ?_
        refine ⟨m92, Mem.tr L164 L165, ?_, facts_step HM rfl K L165 rfl rfl ⟨fun _ => rfl, fun hx => tf (not_t hb17) hx⟩, outP⟩
        show St _ ((bx b2 (bif L 17 then [vU x18.1, vU x18.2] else [vU 0, vU 0]) 27) :: (bx b1 [vU a1.1, vU a1.2] 27) :: (bx b5 [vU x4.1, vU x4.2] 27) :: (bx b6 [vU x6.1, vU x6.2] 27) :: (bx b12 [vU x16.1.1, vU x16.1.2] 27) :: As) _
        rw [d17]
        exact S105
      · intro L f79 w99 hL hd hc ⟨m93, L167, S106, K, hO⟩
        rcases bool_tf x16.2 with hb18 | hb18
        · have d17 : L 17 = false := undep hc hL rfl
          have d7 : L 7 = true := dep hd rfl
          have e105 := K 7 d7
          replace S106 : St _ ((bx b2 (bif L 17 then [vU x18.1, vU x18.2] else [vU 0, vU 0]) 27) :: (bx b1 [vU a1.1, vU a1.2] 27) :: (bx b5 [vU x4.1, vU x4.2] 27) :: (bx b6 [vU x6.1, vU x6.2] 27) :: (bx b12 [vU x16.1.1, vU x16.1.2] 27) :: As) _ := S106
          rw [d17] at S106
          obtain ⟨u96, rfl⟩ := fr_of (N := 104) (L := [(94, vb x16.2)]) hO ⟨e105, trivial⟩
          replace S106 : St _ ((bx b2 [vU 0, vU 0] 27) :: (bx b1 [vU a1.1, vU a1.2] 27) :: (bx b5 [vU x4.1, vU x4.2] 27) :: (bx b6 [vU x6.1, vU x6.2] 27) :: (bx b12 [vU x16.1.1, vU x16.1.2] 27) :: As) _ := S106
          have L169 := Mem.rfl' m93
          refine wpl_no (d := 94) rfl rfl (congrArg Value.bool hb18) ?_
          refine wpn ?_
          refine ⟨m93, Mem.tr L167 L169, ?_, facts_step HM rfl K L169 rfl rfl ⟨fun hx => tf hx (not_f hb18), fun _ => rfl⟩, outP⟩
          show St _ ((bx b2 (bif L 17 then [vU x18.1, vU x18.2] else [vU 0, vU 0]) 27) :: (bx b1 [vU a1.1, vU a1.2] 27) :: (bx b5 [vU x4.1, vU x4.2] 27) :: (bx b6 [vU x6.1, vU x6.2] 27) :: (bx b12 [vU x16.1.1, vU x16.1.2] 27) :: As) _
          rw [d17]
          exact S106
        have d17 : L 17 = false := undep hc hL rfl
        have d7 : L 7 = true := dep hd rfl
        have e100 := K 7 d7
        have d11 : L 11 = true := dep hd rfl
        have e101 := (K 11 d11).1 (not_t hb18)
        have d12 : L 12 = true := dep hd rfl
        have e102 := (K 12 d12).1 (not_t hb18)
        have d13 : L 13 = true := dep hd rfl
        have e103 := (K 13 d13).1 (not_t hb18)
        have d14 : L 14 = true := dep hd rfl
        have e104 := (K 14 d14).1 (not_t hb18)
        replace S106 : St _ ((bx b2 (bif L 17 then [vU x18.1, vU x18.2] else [vU 0, vU 0]) 27) :: (bx b1 [vU a1.1, vU a1.2] 27) :: (bx b5 [vU x4.1, vU x4.2] 27) :: (bx b6 [vU x6.1, vU x6.2] 27) :: (bx b12 [vU x16.1.1, vU x16.1.2] 27) :: As) _ := S106
        rw [d17] at S106
        obtain ⟨u95, rfl⟩ := fr_of (N := 104) (L := [(94, vb x16.2), (98, .agg #[vU x19.1, vU x19.2]), (99, .agg #[vU x16.1.1, vU x16.1.2]), (100, .agg #[vU x4.1, vU x4.2]), (101, .agg #[vU x6.1, vU x6.2])]) hO ⟨e100, e101, e102, e103, e104, trivial⟩
        replace S106 : St _ ((bx b2 [vU 0, vU 0] 27) :: (bx b1 [vU a1.1, vU a1.2] 27) :: (bx b5 [vU x4.1, vU x4.2] 27) :: (bx b6 [vU x6.1, vU x6.2] 27) :: (bx b12 [vU x16.1.1, vU x16.1.2] 27) :: As) _ := S106
        replace a3h0 := a3h0.up L167
        have L168 := Mem.rfl' m93
        refine wpl_yes (d := 94) rfl rfl (congrArg Value.bool hb18) ?_
        replace q20 := gu_t (not_t hb18) q20
        refine s_call Tryd.call54 (w_law08_unlike (a0 := x19) (a1 := x16.1) (a2 := x4) (a3 := x6) S106  q20) rfl ?_
        rintro _ w100 ⟨m94, l16, S107, rfl⟩
        replace a3h0 := a3h0.up l16
        replace L168 := Mem.tr L168 l16
        clear S106
        replace S107 : St _ ((bx b2 [vU 0, vU 0] 27) :: (bx b1 [vU a1.1, vU a1.2] 27) :: (bx b5 [vU x4.1, vU x4.2] 27) :: (bx b6 [vU x6.1, vU x6.2] 27) :: (bx b12 [vU x16.1.1, vU x16.1.2] 27) :: As) _ := S107
        refine wpn ?_
        refine ⟨m94, Mem.tr L167 L168, ?_, facts_step HM rfl K L168 rfl rfl ⟨fun _ => rfl, fun hx => tf (not_t hb18) hx⟩, outP⟩
        show St _ ((bx b2 (bif L 17 then [vU x18.1, vU x18.2] else [vU 0, vU 0]) 27) :: (bx b1 [vU a1.1, vU a1.2] 27) :: (bx b5 [vU x4.1, vU x4.2] 27) :: (bx b6 [vU x6.1, vU x6.2] 27) :: (bx b12 [vU x16.1.1, vU x16.1.2] 27) :: As) _
        rw [d17]
        exact S107
      · intro L f80 w101 hL hd hc ⟨m95, L170, S108, K, hO⟩
        rcases bool_tf x16.2 with hb19 | hb19
        · have d7 : L 7 = true := dep hd rfl
          have e106 := K 7 d7
          obtain ⟨u97, rfl⟩ := fr_of (N := 104) (L := [(94, vb x16.2)]) hO ⟨e106, trivial⟩
          replace S108 : St _ ((bx b2 (bif L 17 then [vU x18.1, vU x18.2] else [vU 0, vU 0]) 27) :: (bx b1 [vU a1.1, vU a1.2] 27) :: (bx b5 [vU x4.1, vU x4.2] 27) :: (bx b6 [vU x6.1, vU x6.2] 27) :: (bx b12 [vU x16.1.1, vU x16.1.2] 27) :: As) _ := S108
          have L171 := Mem.rfl' m95
          refine s_pickT (congrArg Value.bool hb19) rfl ?_
          refine wpn ?_
          refine ⟨m95, Mem.tr L170 L171, ?_, facts_step HM rfl K L171 rfl rfl (congrArg Value.bool (or_t hb19)), outP⟩
          exact S108
        · have d7 : L 7 = true := dep hd rfl
          have e107 := K 7 d7
          have d15 : L 15 = true := dep hd rfl
          have e108 := (K 15 d15).1 (not_t hb19)
          obtain ⟨u98, rfl⟩ := fr_of (N := 104) (L := [(94, vb x16.2), (102, vb x20)]) hO ⟨e107, e108, trivial⟩
          replace S108 : St _ ((bx b2 (bif L 17 then [vU x18.1, vU x18.2] else [vU 0, vU 0]) 27) :: (bx b1 [vU a1.1, vU a1.2] 27) :: (bx b5 [vU x4.1, vU x4.2] 27) :: (bx b6 [vU x6.1, vU x6.2] 27) :: (bx b12 [vU x16.1.1, vU x16.1.2] 27) :: As) _ := S108
          have L172 := Mem.rfl' m95
          refine s_pickF (congrArg Value.bool hb19) rfl ?_
          refine wpn ?_
          refine ⟨m95, Mem.tr L170 L172, ?_, facts_step HM rfl K L172 rfl rfl (congrArg Value.bool (or_f hb19)), outP⟩
          exact S108
      · intro L f81 w102 hL hd hc ⟨m96, L173, S109, K, hO⟩
        have d17 : L 17 = false := hL
        have d5 : L 5 = true := dep hd rfl
        have e109 := K 5 d5
        replace S109 : St _ ((bx b2 (bif L 17 then [vU x18.1, vU x18.2] else [vU 0, vU 0]) 27) :: (bx b1 [vU a1.1, vU a1.2] 27) :: (bx b5 [vU x4.1, vU x4.2] 27) :: (bx b6 [vU x6.1, vU x6.2] 27) :: (bx b12 [vU x16.1.1, vU x16.1.2] 27) :: As) _ := S109
        rw [d17] at S109
        obtain ⟨u99, rfl⟩ := fr_of (N := 104) (L := [(92, .agg #[vU x18.1, vU x18.2])]) hO ⟨e109, trivial⟩
        replace S109 : St _ ((bx b2 [vU 0, vU 0] 27) :: (bx b1 [vU a1.1, vU a1.2] 27) :: (bx b5 [vU x4.1, vU x4.2] 27) :: (bx b6 [vU x6.1, vU x6.2] 27) :: (bx b12 [vU x16.1.1, vU x16.1.2] 27) :: As) _ := S109
        replace a3h0 := a3h0.up L173
        have L174 := Mem.rfl' m96
        refine s_stL (i := 0) S109 rfl rfl rfl Tryd.sizeOf27 (oneC rfl (oneC rfl oneN)) rfl ?_
        intro w103 S110
        replace S110 : St _ ((bx b2 [vU x18.1, vU x18.2] 27) :: (bx b1 [vU a1.1, vU a1.2] 27) :: (bx b5 [vU x4.1, vU x4.2] 27) :: (bx b6 [vU x6.1, vU x6.2] 27) :: (bx b12 [vU x16.1.1, vU x16.1.2] 27) :: As) _ := S110
        clear S109
        refine wpn ?_
        refine ⟨m96, Mem.tr L173 L174, ?_, facts_none HM K L174 rfl (fun _ => trivial), outP⟩
        exact S110
    intro L f82 w104 hall ⟨m97, L175, S111, K, hO⟩
    have d17 : L 17 = true := hall 17 (by decide)
    have d16 : L 16 = true := hall 16 (by decide)
    have e110 := K 16 d16
    replace S111 : St _ ((bx b2 (bif L 17 then [vU x18.1, vU x18.2] else [vU 0, vU 0]) 27) :: (bx b1 [vU a1.1, vU a1.2] 27) :: (bx b5 [vU x4.1, vU x4.2] 27) :: (bx b6 [vU x6.1, vU x6.2] 27) :: (bx b12 [vU x16.1.1, vU x16.1.2] 27) :: As) _ := S111
    rw [d17] at S111
    obtain ⟨u100, rfl⟩ := fr_of (N := 104) (L := [(103, vb (x16.2 || x20))]) hO ⟨e110, trivial⟩
    replace S111 : St _ ((bx b2 [vU x18.1, vU x18.2] 27) :: (bx b1 [vU a1.1, vU a1.2] 27) :: (bx b5 [vU x4.1, vU x4.2] 27) :: (bx b6 [vU x6.1, vU x6.2] 27) :: (bx b12 [vU x16.1.1, vU x16.1.2] 27) :: As) _ := S111
    replace a3h0 := a3h0.up L175
    replace L0 := Mem.tr L0 L175
    clear S89
    refine s_asv (v := vb (x16.2 || x20)) rfl ?_
    refine wpl_nil ?_
    refine nrm ?_
    refine wpc_ret ?_
    refine outRw ?_
    intro we hpd
    replace S111 := St.pd S111 hpd
    have SR := S111
    obtain ⟨m98, l17, S112⟩ := St.drop S111 0
    replace L0 := Mem.tr L0 l17
    replace S112 : St _ ((bx b1 [vU a1.1, vU a1.2] 27) :: (bx b5 [vU x4.1, vU x4.2] 27) :: (bx b6 [vU x6.1, vU x6.2] 27) :: (bx b12 [vU x16.1.1, vU x16.1.2] 27) :: As) _ := S112
    obtain ⟨m99, l18, S113⟩ := St.drop S112 0
    replace L0 := Mem.tr L0 l18
    clear S112
    replace S113 : St _ ((bx b5 [vU x4.1, vU x4.2] 27) :: (bx b6 [vU x6.1, vU x6.2] 27) :: (bx b12 [vU x16.1.1, vU x16.1.2] 27) :: As) _ := S113
    obtain ⟨m100, l19, S114⟩ := St.drop S113 0
    replace L0 := Mem.tr L0 l19
    clear S113
    replace S114 : St _ ((bx b6 [vU x6.1, vU x6.2] 27) :: (bx b12 [vU x16.1.1, vU x16.1.2] 27) :: As) _ := S114
    obtain ⟨m101, l20, S115⟩ := St.drop S114 0
    replace L0 := Mem.tr L0 l20
    clear S114
    replace S115 : St _ ((bx b12 [vU x16.1.1, vU x16.1.2] 27) :: As) _ := S115
    obtain ⟨m102, l21, S116⟩ := St.drop S115 0
    replace L0 := Mem.tr L0 l21
    clear S115
    replace S116 : St _ (As) _ := S116
    have e0 := Option.some.inj hm
    subst e0
    exact outR [_, _] rfl ⟨res_box (i := 0) (off := 0) (cs := [vU x18.1, vU x18.2]) SR rfl rfl Tryd.isAgg27 Tryd.sizeOf27 rfl (fun h => by cases h), rfl, trivial⟩ ⟨_, L0, S116, rfl⟩

theorem w_law08_fooled {m : Mem} {As : List Ow} {w : World} {a0 : List (UInt64 × UInt64)} {a0v0 : Value} {a1 : UInt64 × UInt64} {a2 : Int} {a3 : List (UInt64 × UInt64)} {a3v0 : Value} {r : (UInt64 × UInt64) × Bool} (S : St m (As) w) (a0h0 : SlR m a0v0 a0) (a3h0 : SlR m a3v0 a3) (hm : m_law08_fooled a0 a1 a2 a3 = some r) :
    CallsR Tryd.prog 27 #[a0v0, .agg #[vU a1.1, vU a1.2], vI a2, a3v0] w fun v w' => ∃ (M : Mem), m ≤ M ∧ St M (As) w' ∧ v = .tuple #[.agg #[vU r.1.1, vU r.1.2], vb r.2] := wr_law08_fooled FUEL S a0h0 a3h0 hm

def m_law08_MerkleFooled (a0 : List (UInt64 × UInt64)) (a1 : Int) (a2 : UInt64 × UInt64) (a3 : List (UInt64 × UInt64)) : Option Bool :=
  obind (m_law08_live ) fun x1 =>
  if (!x1) = true then
    some false
  else
  if ((((decide ((a0.length : Int) > 40)) || (decide ((a3.length : Int) > 40))) || (decide (a1 < 0))) || (decide (a1 ≥ (a0.length : Int)))) = true then
    some x1
  else
  obind (m_merkle_Root a0) fun x2 =>
  obind (m_merkle_Check a2 a1 (a0.length : Int) a3 x2) fun x3 =>
  obind (gu (!(x3 != 0)) (idx a0 a1)) fun x4 =>
  if ((x3 != 0) || (eqSum a2 x4)) = true then
    some x1
  else
  obind (m_law08_fooled a0 a2 a1 a3) fun x5 =>
  some (x1 && x5.2)

theorem w_law08_MerkleFooled {m : Mem} {As : List Ow} {w : World} {a0 : List (UInt64 × UInt64)} {a0v0 : Value} {a1 : Int} {a2 : UInt64 × UInt64} {a3 : List (UInt64 × UInt64)} {a3v0 : Value} {r : Bool} (S : St m (As) w) (T1 : PtC m (pt 1 0) (tab_1.map vB)) (a0h0 : SlR m a0v0 a0) (a3h0 : SlR m a3v0 a3) (hm : m_law08_MerkleFooled a0 a1 a2 a3 = some r) :
    CallsR Tryd.prog 8 #[a0v0, vI a1, .agg #[vU a2.1, vU a2.2], a3v0] w fun v w' => ∃ (M : Mem), m ≤ M ∧ St M (As) w' ∧ v = vb r := by
  unfold m_law08_MerkleFooled at hm
  have L0 := Mem.rfl' m
  refine callsR (args := [a0v0, vI a1, .agg #[vU a2.1, vU a2.2], a3v0]) Tryd.func8 rfl Tryd.ntmps8 (Nat.le_of_ble_eq_true rfl) ?_
  refine wpc_seq ?_
  refine wpc_region ?_
  refine s_box S rfl ?_
  intro b1 w1 S1
  replace S1 : St _ ((bx b1 [vU a2.1, vU a2.2] 27) :: As) _ := S1
  clear S
  refine s_asv (v := vb false) rfl ?_
  refine wpl_nil ?_
  refine nrm ?_
  refine wpc_seq ?_
  refine wpc_region ?_
  obtain ⟨x1, q1, hm⟩ := obind_some hm
  refine s_call Tryd.call12 (w_law08_live  S1 T1 q1) rfl ?_
  rintro _ w2 ⟨m1, l1, S2, rfl⟩
  replace a0h0 := a0h0.up l1
  replace a3h0 := a3h0.up l1
  replace T1 := T1.up l1
  replace L0 := Mem.tr L0 l1
  clear S1
  replace S2 : St _ ((bx b1 [vU a2.1, vU a2.2] 27) :: As) _ := S2
  refine s_asv (v := vb x1) rfl ?_
  refine wpl_nil ?_
  refine nrm ?_
  refine wpc_seq ?_
  refine wpc_seq ?_
  refine wpc_region ?_
  refine s_mvv (v := vb x1) rfl ?_
  refine s_not rfl ?_
  refine wpl_nil ?_
  refine nrm ?_
  refine wpc_if (t := (!x1)) rfl (fun hc1 => ?_) (fun hc1 => ?_)
  · replace hm := ifT hc1 hm
    refine wpc_seq ?_
    refine wpc_region ?_
    refine s_asv (v := vb false) rfl ?_
    refine wpl_nil ?_
    refine nrm ?_
    refine wpc_ret ?_
    refine thR ?_
    refine outRw ?_
    intro we hpd
    replace S2 := St.pd S2 hpd
    obtain ⟨m2, l2, S3⟩ := St.drop S2 0
    replace T1 := T1.up l2
    replace L0 := Mem.tr L0 l2
    clear S2
    replace S3 : St _ (As) _ := S3
    have e0 := Option.some.inj hm
    subst e0
    exact outR [_] rfl ⟨rfl, trivial⟩ ⟨_, L0, S3, rfl⟩
  replace hm := ifF hc1 hm
  refine wpc_skip ?_
  refine nrm ?_
  refine wpc_seq ?_
  refine wpc_seq ?_
  refine wpc_region ?_
  refine s_mvv (v := a0v0) rfl ?_
  refine s_lenR (xs := a0) rfl a0h0 Tryd.underlying22 ?_
  refine s_gtr (m := (a0.length : Int)) (n := 40) rfl rfl ?_
  refine s_mvv (v := vb (decide ((a0.length : Int) > 40))) rfl ?_
  refine wpl_cut 4 [19, 20, 21, 22] (fun f' w' => w' = w2 ∧ AllAt f' [(22, vb ((decide ((a0.length : Int) > 40)) || (decide ((a3.length : Int) > 40))))]) ?_ ?_
  · rcases bool_tf (decide ((a0.length : Int) > 40)) with hb1 | hb1
    · refine wpl_no (d := 18) rfl rfl (congrArg Value.bool hb1) ?_
      refine wpl_no (d := 18) rfl rfl (congrArg Value.bool hb1) ?_
      refine wpl_no (d := 18) rfl rfl (congrArg Value.bool hb1) ?_
      refine s_pickT (congrArg Value.bool hb1) rfl ?_
      exact wpl_nil (nrm ⟨outP, rfl, congrArg Value.bool (or_t hb1), trivial⟩)
    · refine wpl_yes (d := 18) rfl rfl (congrArg Value.bool hb1) ?_
      refine s_mvv (v := a3v0) rfl ?_
      refine wpl_yes (d := 18) rfl rfl (congrArg Value.bool hb1) ?_
      refine s_lenR (xs := a3) rfl a3h0 Tryd.underlying22 ?_
      refine wpl_yes (d := 18) rfl rfl (congrArg Value.bool hb1) ?_
      refine s_gtr (m := (a3.length : Int)) (n := 40) rfl rfl ?_
      refine s_pickF (congrArg Value.bool hb1) rfl ?_
      exact wpl_nil (nrm ⟨outP, rfl, congrArg Value.bool (or_f hb1), trivial⟩)
  rintro f1 w3 ho ⟨h1, ha⟩
  subst h1
  obtain ⟨u1, rfl⟩ := fr_of (N := 64) ho ha
  refine s_mvv (v := vb ((decide ((a0.length : Int) > 40)) || (decide ((a3.length : Int) > 40)))) rfl ?_
  refine wpl_cut 3 [24, 25, 26] (fun f' w' => w' = w3 ∧ AllAt f' [(26, vb (((decide ((a0.length : Int) > 40)) || (decide ((a3.length : Int) > 40))) || (decide (a1 < 0))))]) ?_ ?_
  · rcases bool_tf ((decide ((a0.length : Int) > 40)) || (decide ((a3.length : Int) > 40))) with hb2 | hb2
    · refine wpl_no (d := 23) rfl rfl (congrArg Value.bool hb2) ?_
      refine wpl_no (d := 23) rfl rfl (congrArg Value.bool hb2) ?_
      refine s_pickT (congrArg Value.bool hb2) rfl ?_
      exact wpl_nil (nrm ⟨outP, rfl, congrArg Value.bool (or_t hb2), trivial⟩)
    · refine wpl_yes (d := 23) rfl rfl (congrArg Value.bool hb2) ?_
      refine s_mvv (v := vI a1) rfl ?_
      refine wpl_yes (d := 23) rfl rfl (congrArg Value.bool hb2) ?_
      refine s_lss (m := a1) (n := 0) rfl rfl ?_
      refine s_pickF (congrArg Value.bool hb2) rfl ?_
      exact wpl_nil (nrm ⟨outP, rfl, congrArg Value.bool (or_f hb2), trivial⟩)
  rintro f2 w4 ho ⟨h2, ha⟩
  subst h2
  obtain ⟨u2, rfl⟩ := fr_of (N := 64) ho ha
  refine s_mvv (v := vb (((decide ((a0.length : Int) > 40)) || (decide ((a3.length : Int) > 40))) || (decide (a1 < 0)))) rfl ?_
  refine wpl_cut 5 [28, 29, 30, 31, 32] (fun f' w' => w' = w4 ∧ AllAt f' [(32, vb ((((decide ((a0.length : Int) > 40)) || (decide ((a3.length : Int) > 40))) || (decide (a1 < 0))) || (decide (a1 ≥ (a0.length : Int)))))]) ?_ ?_
  · rcases bool_tf (((decide ((a0.length : Int) > 40)) || (decide ((a3.length : Int) > 40))) || (decide (a1 < 0))) with hb3 | hb3
    · refine wpl_no (d := 27) rfl rfl (congrArg Value.bool hb3) ?_
      refine wpl_no (d := 27) rfl rfl (congrArg Value.bool hb3) ?_
      refine wpl_no (d := 27) rfl rfl (congrArg Value.bool hb3) ?_
      refine wpl_no (d := 27) rfl rfl (congrArg Value.bool hb3) ?_
      refine s_pickT (congrArg Value.bool hb3) rfl ?_
      exact wpl_nil (nrm ⟨outP, rfl, congrArg Value.bool (or_t hb3), trivial⟩)
    · refine wpl_yes (d := 27) rfl rfl (congrArg Value.bool hb3) ?_
      refine s_mvv (v := vI a1) rfl ?_
      refine wpl_yes (d := 27) rfl rfl (congrArg Value.bool hb3) ?_
      refine s_mvv (v := a0v0) rfl ?_
      refine wpl_yes (d := 27) rfl rfl (congrArg Value.bool hb3) ?_
      refine s_lenR (xs := a0) rfl a0h0 Tryd.underlying22 ?_
      refine wpl_yes (d := 27) rfl rfl (congrArg Value.bool hb3) ?_
      refine s_geq (m := a1) (n := (a0.length : Int)) rfl rfl ?_
      refine s_pickF (congrArg Value.bool hb3) rfl ?_
      exact wpl_nil (nrm ⟨outP, rfl, congrArg Value.bool (or_f hb3), trivial⟩)
  rintro f3 w5 ho ⟨h3, ha⟩
  subst h3
  obtain ⟨u3, rfl⟩ := fr_of (N := 64) ho ha
  refine wpl_nil ?_
  refine nrm ?_
  refine wpc_if (t := ((((decide ((a0.length : Int) > 40)) || (decide ((a3.length : Int) > 40))) || (decide (a1 < 0))) || (decide (a1 ≥ (a0.length : Int))))) rfl (fun hc2 => ?_) (fun hc2 => ?_)
  · replace hm := ifT hc2 hm
    refine wpc_seq ?_
    refine wpc_region ?_
    refine s_mvv (v := vb x1) rfl ?_
    refine s_asv (v := vb x1) rfl ?_
    refine wpl_nil ?_
    refine nrm ?_
    refine wpc_ret ?_
    refine thR ?_
    refine outRw ?_
    intro we hpd
    replace S2 := St.pd S2 hpd
    obtain ⟨m3, l3, S4⟩ := St.drop S2 0
    replace T1 := T1.up l3
    replace L0 := Mem.tr L0 l3
    clear S2
    replace S4 : St _ (As) _ := S4
    have e0 := Option.some.inj hm
    subst e0
    exact outR [_] rfl ⟨rfl, trivial⟩ ⟨_, L0, S4, rfl⟩
  replace hm := ifF hc2 hm
  refine wpc_skip ?_
  refine nrm ?_
  refine wpc_seq ?_
  refine wpc_seq ?_
  obtain ⟨x2, q2, hm⟩ := obind_some hm
  obtain ⟨x3, q3, hm⟩ := obind_some hm
  obtain ⟨x4, q4, hm⟩ := obind_some hm
  have HM : MonoAll [(34, fun (M : Mem) (v : Value) => v = .agg #[vU a2.1, vU a2.2]), (35, fun (M : Mem) (v : Value) => v = vI a1), (36, fun (M : Mem) (v : Value) => v = a0v0), (37, fun (M : Mem) (v : Value) => v = vI (a0.length : Int)), (38, fun (M : Mem) (v : Value) => v = a3v0), (39, fun (M : Mem) (v : Value) => v = a0v0), (40, fun (M : Mem) (v : Value) => v = .agg #[vU x2.1, vU x2.2]), (41, fun (M : Mem) (v : Value) => v = vI x3), (42, fun (M : Mem) (v : Value) => v = vb (x3 != 0)), (43, fun (M : Mem) (v : Value) => v = vb (x3 != 0)), (44, fun (M : Mem) (v : Value) => ((!(x3 != 0)) = true → v = .agg #[vU a2.1, vU a2.2]) ∧ ((!(x3 != 0)) = false → v = undef)), (45, fun (M : Mem) (v : Value) => ((!(x3 != 0)) = true → v = a0v0) ∧ ((!(x3 != 0)) = false → v = undef)), (46, fun (M : Mem) (v : Value) => ((!(x3 != 0)) = true → v = vI a1) ∧ ((!(x3 != 0)) = false → v = undef)), (47, fun (M : Mem) (v : Value) => ((!(x3 != 0)) = true → ∃ (p1 : Value), v = p1 ∧ PtC M p1 [vU x4.1, vU x4.2]) ∧ ((!(x3 != 0)) = false → v = undef)), (48, fun (M : Mem) (v : Value) => ((!(x3 != 0)) = true → v = .agg #[vU x4.1, vU x4.2]) ∧ ((!(x3 != 0)) = false → v = undef)), (49, fun (M : Mem) (v : Value) => ((!(x3 != 0)) = true → v = vb (eqSum a2 x4)) ∧ ((!(x3 != 0)) = false → v = undef)), (50, fun (M : Mem) (v : Value) => v = vb ((x3 != 0) || (eqSum a2 x4)))] := ⟨(fun _ _ _ _ h => h), (fun _ _ _ _ h => h), (fun _ _ _ _ h => h), (fun _ _ _ _ h => h), (fun _ _ _ _ h => h), (fun _ _ _ _ h => h), (fun _ _ _ _ h => h), (fun _ _ _ _ h => h), (fun _ _ _ _ h => h), (fun _ _ _ _ h => h), (fun _ _ _ _ h => h), (fun _ _ _ _ h => h), (fun _ _ _ _ h => h), (fun _ _ _ l h => ⟨fun c => let ⟨p1, e, h4⟩ := h.1 c; ⟨p1, e, h4.up l⟩, h.2⟩), (fun _ _ _ _ h => h), (fun _ _ _ _ h => h), (fun _ _ _ _ h => h), trivial⟩
  refine wpc_flowG HM 17 mixed rfl rfl rfl [34, 35, 36, 37, 38, 39, 40, 41, 42, 43, 44, 45, 46, 47, 48, 49, 50] (fun L f M w => St M ((bx b1 [vU a2.1, vU a2.2] 27) :: As) w) (St.drew S2 _) ?_ ?_
  · refine ⟨?_, ?_, ?_, ?_, ?_, ?_, ?_, ?_, ?_, ?_, ?_, ?_, ?_, ?_, ?_, ?_, ?_, trivial⟩
    · intro L f4 w6 hL hd hc ⟨m4, L1, S5, K, hO⟩
      obtain ⟨u4, rfl⟩ := fr_of (N := 64) (L := []) hO trivial
      replace S5 : St _ ((bx b1 [vU a2.1, vU a2.2] 27) :: As) _ := S5
      replace a0h0 := a0h0.up L1
      replace a3h0 := a3h0.up L1
      replace T1 := T1.up L1
      have L2 := Mem.rfl' m4
      refine s_ld (i := 0) (cs := [vU a2.1, vU a2.2]) S5 rfl rfl Tryd.isAgg27 Tryd.sizeOf27 rfl (fun h => by cases h) ?_
      refine wpn ?_
      refine ⟨m4, Mem.tr L1 L2, ?_, facts_step HM rfl K L2 rfl rfl rfl, outP⟩
      exact S5
    · intro L f5 w7 hL hd hc ⟨m5, L3, S6, K, hO⟩
      obtain ⟨u5, rfl⟩ := fr_of (N := 64) (L := []) hO trivial
      replace S6 : St _ ((bx b1 [vU a2.1, vU a2.2] 27) :: As) _ := S6
      have L4 := Mem.rfl' m5
      refine s_mvv (v := vI a1) rfl ?_
      refine wpn ?_
      refine ⟨m5, Mem.tr L3 L4, ?_, facts_step HM rfl K L4 rfl rfl rfl, outP⟩
      exact S6
    · intro L f6 w8 hL hd hc ⟨m6, L5, S7, K, hO⟩
      obtain ⟨u6, rfl⟩ := fr_of (N := 64) (L := []) hO trivial
      replace S7 : St _ ((bx b1 [vU a2.1, vU a2.2] 27) :: As) _ := S7
      have L6 := Mem.rfl' m6
      refine s_mvv (v := a0v0) rfl ?_
      refine wpn ?_
      refine ⟨m6, Mem.tr L5 L6, ?_, facts_step HM rfl K L6 rfl rfl rfl, outP⟩
      exact S7
    · intro L f7 w9 hL hd hc ⟨m7, L7, S8, K, hO⟩
      have d2 : L 2 = true := dep hd rfl
      have e1 := K 2 d2
      obtain ⟨u7, rfl⟩ := fr_of (N := 64) (L := [(36, a0v0)]) hO ⟨e1, trivial⟩
      replace S8 : St _ ((bx b1 [vU a2.1, vU a2.2] 27) :: As) _ := S8
      replace a0h0 := a0h0.up L7
      replace a3h0 := a3h0.up L7
      replace T1 := T1.up L7
      have L8 := Mem.rfl' m7
      refine s_lenR (xs := a0) rfl a0h0 Tryd.underlying22 ?_
      refine wpn ?_
      refine ⟨m7, Mem.tr L7 L8, ?_, facts_step HM rfl K L8 rfl rfl rfl, outP⟩
      exact S8
    · intro L f8 w10 hL hd hc ⟨m8, L9, S9, K, hO⟩
      obtain ⟨u8, rfl⟩ := fr_of (N := 64) (L := []) hO trivial
      replace S9 : St _ ((bx b1 [vU a2.1, vU a2.2] 27) :: As) _ := S9
      have L10 := Mem.rfl' m8
      refine s_mvv (v := a3v0) rfl ?_
      refine wpn ?_
      refine ⟨m8, Mem.tr L9 L10, ?_, facts_step HM rfl K L10 rfl rfl rfl, outP⟩
      exact S9
    · intro L f9 w11 hL hd hc ⟨m9, L11, S10, K, hO⟩
      obtain ⟨u9, rfl⟩ := fr_of (N := 64) (L := []) hO trivial
      replace S10 : St _ ((bx b1 [vU a2.1, vU a2.2] 27) :: As) _ := S10
      have L12 := Mem.rfl' m9
      refine s_mvv (v := a0v0) rfl ?_
      refine wpn ?_
      refine ⟨m9, Mem.tr L11 L12, ?_, facts_step HM rfl K L12 rfl rfl rfl, outP⟩
      exact S10
    · intro L f10 w12 hL hd hc ⟨m10, L13, S11, K, hO⟩
      have d5 : L 5 = true := dep hd rfl
      have e2 := K 5 d5
      obtain ⟨u10, rfl⟩ := fr_of (N := 64) (L := [(39, a0v0)]) hO ⟨e2, trivial⟩
      replace S11 : St _ ((bx b1 [vU a2.1, vU a2.2] 27) :: As) _ := S11
      replace a0h0 := a0h0.up L13
      replace a3h0 := a3h0.up L13
      replace T1 := T1.up L13
      have L14 := Mem.rfl' m10
      refine s_call Tryd.call13 (w_merkle_Root (a0 := a0) S11 a0h0 q2) rfl ?_
      rintro _ w13 ⟨m11, l4, S12, rfl⟩
      replace a0h0 := a0h0.up l4
      replace a3h0 := a3h0.up l4
      replace T1 := T1.up l4
      replace L14 := Mem.tr L14 l4
      clear S11
      replace S12 : St _ ((bx b1 [vU a2.1, vU a2.2] 27) :: As) _ := S12
      refine wpn ?_
      refine ⟨m11, Mem.tr L13 L14, ?_, facts_step HM rfl K L14 rfl rfl rfl, outP⟩
      exact S12
    · intro L f11 w14 hL hd hc ⟨m12, L15, S13, K, hO⟩
      have d0 : L 0 = true := dep hd rfl
      have e3 := K 0 d0
      have d1 : L 1 = true := dep hd rfl
      have e4 := K 1 d1
      have d3 : L 3 = true := dep hd rfl
      have e5 := K 3 d3
      have d4 : L 4 = true := dep hd rfl
      have e6 := K 4 d4
      have d6 : L 6 = true := dep hd rfl
      have e7 := K 6 d6
      obtain ⟨u11, rfl⟩ := fr_of (N := 64) (L := [(34, .agg #[vU a2.1, vU a2.2]), (35, vI a1), (37, vI (a0.length : Int)), (38, a3v0), (40, .agg #[vU x2.1, vU x2.2])]) hO ⟨e3, e4, e5, e6, e7, trivial⟩
      replace S13 : St _ ((bx b1 [vU a2.1, vU a2.2] 27) :: As) _ := S13
      replace a0h0 := a0h0.up L15
      replace a3h0 := a3h0.up L15
      replace T1 := T1.up L15
      have L16 := Mem.rfl' m12
      refine s_call Tryd.call21 (w_merkle_Check (a0 := a2) (a1 := a1) (a2 := (a0.length : Int)) (a3 := a3) (a4 := x2) S13 a3h0 q3) rfl ?_
      rintro _ w15 ⟨m13, l5, S14, rfl⟩
      replace a0h0 := a0h0.up l5
      replace a3h0 := a3h0.up l5
      replace T1 := T1.up l5
      replace L16 := Mem.tr L16 l5
      clear S13
      replace S14 : St _ ((bx b1 [vU a2.1, vU a2.2] 27) :: As) _ := S14
      refine wpn ?_
      refine ⟨m13, Mem.tr L15 L16, ?_, facts_step HM rfl K L16 rfl rfl rfl, outP⟩
      exact S14
    · intro L f12 w16 hL hd hc ⟨m14, L17, S15, K, hO⟩
      have d7 : L 7 = true := dep hd rfl
      have e8 := K 7 d7
      obtain ⟨u12, rfl⟩ := fr_of (N := 64) (L := [(41, vI x3)]) hO ⟨e8, trivial⟩
      replace S15 : St _ ((bx b1 [vU a2.1, vU a2.2] 27) :: As) _ := S15
      have L18 := Mem.rfl' m14
      refine s_neq (m := x3) (n := 0) rfl rfl ?_
      refine wpn ?_
      refine ⟨m14, Mem.tr L17 L18, ?_, facts_step HM rfl K L18 rfl rfl rfl, outP⟩
      exact S15
    · intro L f13 w17 hL hd hc ⟨m15, L19, S16, K, hO⟩
      have d8 : L 8 = true := dep hd rfl
      have e9 := K 8 d8
      obtain ⟨u13, rfl⟩ := fr_of (N := 64) (L := [(42, vb (x3 != 0))]) hO ⟨e9, trivial⟩
      replace S16 : St _ ((bx b1 [vU a2.1, vU a2.2] 27) :: As) _ := S16
      have L20 := Mem.rfl' m15
      refine s_mvv (v := vb (x3 != 0)) rfl ?_
      refine wpn ?_
      refine ⟨m15, Mem.tr L19 L20, ?_, facts_step HM rfl K L20 rfl rfl rfl, outP⟩
      exact S16
    · intro L f14 w18 hL hd hc ⟨m16, L21, S17, K, hO⟩
      rcases bool_tf (x3 != 0) with hb4 | hb4
      · have d9 : L 9 = true := dep hd rfl
        have e11 := K 9 d9
        obtain ⟨u15, rfl⟩ := fr_of (N := 64) (L := [(43, vb (x3 != 0))]) hO ⟨e11, trivial⟩
        replace S17 : St _ ((bx b1 [vU a2.1, vU a2.2] 27) :: As) _ := S17
        have L23 := Mem.rfl' m16
        refine wpl_no (d := 43) rfl rfl (congrArg Value.bool hb4) ?_
        refine wpn ?_
        refine ⟨m16, Mem.tr L21 L23, ?_, facts_step HM rfl K L23 rfl rfl ⟨fun hx => tf hx (not_f hb4), fun _ => rfl⟩, outP⟩
        exact S17
      have d9 : L 9 = true := dep hd rfl
      have e10 := K 9 d9
      obtain ⟨u14, rfl⟩ := fr_of (N := 64) (L := [(43, vb (x3 != 0))]) hO ⟨e10, trivial⟩
      replace S17 : St _ ((bx b1 [vU a2.1, vU a2.2] 27) :: As) _ := S17
      replace a0h0 := a0h0.up L21
      replace a3h0 := a3h0.up L21
      replace T1 := T1.up L21
      have L22 := Mem.rfl' m16
      refine wpl_yes (d := 43) rfl rfl (congrArg Value.bool hb4) ?_
      refine s_ld (i := 0) (cs := [vU a2.1, vU a2.2]) S17 rfl rfl Tryd.isAgg27 Tryd.sizeOf27 rfl (fun h => by cases h) ?_
      refine wpn ?_
      refine ⟨m16, Mem.tr L21 L22, ?_, facts_step HM rfl K L22 rfl rfl ⟨fun _ => rfl, fun hx => tf (not_t hb4) hx⟩, outP⟩
      exact S17
    · intro L f15 w19 hL hd hc ⟨m17, L24, S18, K, hO⟩
      rcases bool_tf (x3 != 0) with hb5 | hb5
      · have d9 : L 9 = true := dep hd rfl
        have e13 := K 9 d9
        obtain ⟨u17, rfl⟩ := fr_of (N := 64) (L := [(43, vb (x3 != 0))]) hO ⟨e13, trivial⟩
        replace S18 : St _ ((bx b1 [vU a2.1, vU a2.2] 27) :: As) _ := S18
        have L26 := Mem.rfl' m17
        refine wpl_no (d := 43) rfl rfl (congrArg Value.bool hb5) ?_
        refine wpn ?_
        refine ⟨m17, Mem.tr L24 L26, ?_, facts_step HM rfl K L26 rfl rfl ⟨fun hx => tf hx (not_f hb5), fun _ => rfl⟩, outP⟩
        exact S18
      have d9 : L 9 = true := dep hd rfl
      have e12 := K 9 d9
      obtain ⟨u16, rfl⟩ := fr_of (N := 64) (L := [(43, vb (x3 != 0))]) hO ⟨e12, trivial⟩
      replace S18 : St _ ((bx b1 [vU a2.1, vU a2.2] 27) :: As) _ := S18
      have L25 := Mem.rfl' m17
      refine wpl_yes (d := 43) rfl rfl (congrArg Value.bool hb5) ?_
      refine s_mvv (v := a0v0) rfl ?_
      refine wpn ?_
      refine ⟨m17, Mem.tr L24 L25, ?_, facts_step HM rfl K L25 rfl rfl ⟨fun _ => rfl, fun hx => tf (not_t hb5) hx⟩, outP⟩
      exact S18
    · intro L f16 w20 hL hd hc ⟨m18, L27, S19, K, hO⟩
      rcases bool_tf (x3 != 0) with hb6 | hb6
      · have d9 : L 9 = true := dep hd rfl
        have e15 := K 9 d9
        obtain ⟨u19, rfl⟩ := fr_of (N := 64) (L := [(43, vb (x3 != 0))]) hO ⟨e15, trivial⟩
        replace S19 : St _ ((bx b1 [vU a2.1, vU a2.2] 27) :: As) _ := S19
        have L29 := Mem.rfl' m18
        refine wpl_no (d := 43) rfl rfl (congrArg Value.bool hb6) ?_
        refine wpn ?_
        refine ⟨m18, Mem.tr L27 L29, ?_, facts_step HM rfl K L29 rfl rfl ⟨fun hx => tf hx (not_f hb6), fun _ => rfl⟩, outP⟩
        exact S19
      have d9 : L 9 = true := dep hd rfl
      have e14 := K 9 d9
      obtain ⟨u18, rfl⟩ := fr_of (N := 64) (L := [(43, vb (x3 != 0))]) hO ⟨e14, trivial⟩
      replace S19 : St _ ((bx b1 [vU a2.1, vU a2.2] 27) :: As) _ := S19
      have L28 := Mem.rfl' m18
      refine wpl_yes (d := 43) rfl rfl (congrArg Value.bool hb6) ?_
      refine s_mvv (v := vI a1) rfl ?_
      refine wpn ?_
      refine ⟨m18, Mem.tr L27 L28, ?_, facts_step HM rfl K L28 rfl rfl ⟨fun _ => rfl, fun hx => tf (not_t hb6) hx⟩, outP⟩
      exact S19
    · intro L f17 w21 hL hd hc ⟨m19, L30, S20, K, hO⟩
      rcases bool_tf (x3 != 0) with hb7 | hb7
      · have d9 : L 9 = true := dep hd rfl
        have e19 := K 9 d9
        obtain ⟨u21, rfl⟩ := fr_of (N := 64) (L := [(43, vb (x3 != 0))]) hO ⟨e19, trivial⟩
        replace S20 : St _ ((bx b1 [vU a2.1, vU a2.2] 27) :: As) _ := S20
        have L32 := Mem.rfl' m19
        refine wpl_no (d := 43) rfl rfl (congrArg Value.bool hb7) ?_
        refine wpn ?_
        refine ⟨m19, Mem.tr L30 L32, ?_, facts_step HM rfl K L32 rfl rfl ⟨fun hx => tf hx (not_f hb7), fun _ => rfl⟩, outP⟩
        exact S20
      have d9 : L 9 = true := dep hd rfl
      have e16 := K 9 d9
      have d11 : L 11 = true := dep hd rfl
      have e17 := (K 11 d11).1 (not_t hb7)
      have d12 : L 12 = true := dep hd rfl
      have e18 := (K 12 d12).1 (not_t hb7)
      obtain ⟨u20, rfl⟩ := fr_of (N := 64) (L := [(43, vb (x3 != 0)), (45, a0v0), (46, vI a1)]) hO ⟨e16, e17, e18, trivial⟩
      replace S20 : St _ ((bx b1 [vU a2.1, vU a2.2] 27) :: As) _ := S20
      replace a0h0 := a0h0.up L30
      replace a3h0 := a3h0.up L30
      replace T1 := T1.up L30
      have L31 := Mem.rfl' m19
      refine wpl_yes (d := 43) rfl rfl (congrArg Value.bool hb7) ?_
      replace q4 := gu_t (not_t hb7) q4
      refine s_idx (q := x4) rfl rfl a0h0 q4 Tryd.underlying22 Tryd.sizeOf27 ?_
      intro p1 c1 h4 r1
      obtain rfl := rep_arr2_UInt64 r1
      refine wpn ?_
      refine ⟨m19, Mem.tr L30 L31, ?_, facts_step HM rfl K L31 rfl rfl ⟨fun _ => ⟨p1, rfl, h4⟩, fun hx => tf (not_t hb7) hx⟩, outP⟩
      exact S20
    · intro L f18 w22 hL hd hc ⟨m20, L33, S21, K, hO⟩
      rcases bool_tf (x3 != 0) with hb8 | hb8
      · have d9 : L 9 = true := dep hd rfl
        have e22 := K 9 d9
        obtain ⟨u23, rfl⟩ := fr_of (N := 64) (L := [(43, vb (x3 != 0))]) hO ⟨e22, trivial⟩
        replace S21 : St _ ((bx b1 [vU a2.1, vU a2.2] 27) :: As) _ := S21
        have L35 := Mem.rfl' m20
        refine wpl_no (d := 43) rfl rfl (congrArg Value.bool hb8) ?_
        refine wpn ?_
        refine ⟨m20, Mem.tr L33 L35, ?_, facts_step HM rfl K L35 rfl rfl ⟨fun hx => tf hx (not_f hb8), fun _ => rfl⟩, outP⟩
        exact S21
      have d9 : L 9 = true := dep hd rfl
      have e20 := K 9 d9
      have d13 : L 13 = true := dep hd rfl
      obtain ⟨v1, e21, h5⟩ := (K 13 d13).1 (not_t hb8)
      obtain ⟨u22, rfl⟩ := fr_of (N := 64) (L := [(43, vb (x3 != 0)), (47, v1)]) hO ⟨e20, e21, trivial⟩
      replace S21 : St _ ((bx b1 [vU a2.1, vU a2.2] 27) :: As) _ := S21
      replace a0h0 := a0h0.up L33
      replace a3h0 := a3h0.up L33
      replace T1 := T1.up L33
      have L34 := Mem.rfl' m20
      refine wpl_yes (d := 43) rfl rfl (congrArg Value.bool hb8) ?_
      refine s_ldM (cs := [vU x4.1, vU x4.2]) S21 rfl h5 rfl Tryd.isAgg27 Tryd.sizeOf27 (fun h => by cases h) ?_
      refine wpn ?_
      refine ⟨m20, Mem.tr L33 L34, ?_, facts_step HM rfl K L34 rfl rfl ⟨fun _ => rfl, fun hx => tf (not_t hb8) hx⟩, outP⟩
      exact S21
    · intro L f19 w23 hL hd hc ⟨m21, L36, S22, K, hO⟩
      rcases bool_tf (x3 != 0) with hb9 | hb9
      · have d9 : L 9 = true := dep hd rfl
        have e26 := K 9 d9
        obtain ⟨u25, rfl⟩ := fr_of (N := 64) (L := [(43, vb (x3 != 0))]) hO ⟨e26, trivial⟩
        replace S22 : St _ ((bx b1 [vU a2.1, vU a2.2] 27) :: As) _ := S22
        have L38 := Mem.rfl' m21
        refine wpl_no (d := 43) rfl rfl (congrArg Value.bool hb9) ?_
        refine wpn ?_
        refine ⟨m21, Mem.tr L36 L38, ?_, facts_step HM rfl K L38 rfl rfl ⟨fun hx => tf hx (not_f hb9), fun _ => rfl⟩, outP⟩
        exact S22
      have d9 : L 9 = true := dep hd rfl
      have e23 := K 9 d9
      have d10 : L 10 = true := dep hd rfl
      have e24 := (K 10 d10).1 (not_t hb9)
      have d14 : L 14 = true := dep hd rfl
      have e25 := (K 14 d14).1 (not_t hb9)
      obtain ⟨u24, rfl⟩ := fr_of (N := 64) (L := [(43, vb (x3 != 0)), (44, .agg #[vU a2.1, vU a2.2]), (48, .agg #[vU x4.1, vU x4.2])]) hO ⟨e23, e24, e25, trivial⟩
      replace S22 : St _ ((bx b1 [vU a2.1, vU a2.2] 27) :: As) _ := S22
      replace a0h0 := a0h0.up L36
      replace a3h0 := a3h0.up L36
      replace T1 := T1.up L36
      have L37 := Mem.rfl' m21
      refine wpl_yes (d := 43) rfl rfl (congrArg Value.bool hb9) ?_
      refine s_eqlSum (p := a2) (q := x4) rfl rfl Tryd.underlying27 Tryd.underlying25 Tryd.sizeOf25 Tryd.isAgg25 Tryd.eqGuardType27 ?_
      refine wpn ?_
      refine ⟨m21, Mem.tr L36 L37, ?_, facts_step HM rfl K L37 rfl rfl ⟨fun _ => rfl, fun hx => tf (not_t hb9) hx⟩, outP⟩
      exact S22
    · intro L f20 w24 hL hd hc ⟨m22, L39, S23, K, hO⟩
      rcases bool_tf (x3 != 0) with hb10 | hb10
      · have d9 : L 9 = true := dep hd rfl
        have e27 := K 9 d9
        obtain ⟨u26, rfl⟩ := fr_of (N := 64) (L := [(43, vb (x3 != 0))]) hO ⟨e27, trivial⟩
        replace S23 : St _ ((bx b1 [vU a2.1, vU a2.2] 27) :: As) _ := S23
        have L40 := Mem.rfl' m22
        refine s_pickT (congrArg Value.bool hb10) rfl ?_
        refine wpn ?_
        refine ⟨m22, Mem.tr L39 L40, ?_, facts_step HM rfl K L40 rfl rfl (congrArg Value.bool (or_t hb10)), outP⟩
        exact S23
      · have d9 : L 9 = true := dep hd rfl
        have e28 := K 9 d9
        have d15 : L 15 = true := dep hd rfl
        have e29 := (K 15 d15).1 (not_t hb10)
        obtain ⟨u27, rfl⟩ := fr_of (N := 64) (L := [(43, vb (x3 != 0)), (49, vb (eqSum a2 x4))]) hO ⟨e28, e29, trivial⟩
        replace S23 : St _ ((bx b1 [vU a2.1, vU a2.2] 27) :: As) _ := S23
        have L41 := Mem.rfl' m22
        refine s_pickF (congrArg Value.bool hb10) rfl ?_
        refine wpn ?_
        refine ⟨m22, Mem.tr L39 L41, ?_, facts_step HM rfl K L41 rfl rfl (congrArg Value.bool (or_f hb10)), outP⟩
        exact S23
  intro L f21 w25 hall ⟨m23, L42, S24, K, hO⟩
  have d16 : L 16 = true := hall 16 (by decide)
  have e30 := K 16 d16
  obtain ⟨u28, rfl⟩ := fr_of (N := 64) (L := [(50, vb ((x3 != 0) || (eqSum a2 x4)))]) hO ⟨e30, trivial⟩
  replace S24 : St _ ((bx b1 [vU a2.1, vU a2.2] 27) :: As) _ := S24
  replace a0h0 := a0h0.up L42
  replace a3h0 := a3h0.up L42
  replace T1 := T1.up L42
  replace L0 := Mem.tr L0 L42
  clear S2
  refine wpl_nil ?_
  refine nrm ?_
  refine wpc_if (t := ((x3 != 0) || (eqSum a2 x4))) rfl (fun hc3 => ?_) (fun hc3 => ?_)
  · replace hm := ifT hc3 hm
    refine wpc_seq ?_
    refine wpc_region ?_
    refine s_mvv (v := vb x1) rfl ?_
    refine s_asv (v := vb x1) rfl ?_
    refine wpl_nil ?_
    refine nrm ?_
    refine wpc_ret ?_
    refine thR ?_
    refine outRw ?_
    intro we hpd
    replace S24 := St.pd S24 hpd
    obtain ⟨m24, l6, S25⟩ := St.drop S24 0
    replace T1 := T1.up l6
    replace L0 := Mem.tr L0 l6
    clear S24
    replace S25 : St _ (As) _ := S25
    have e0 := Option.some.inj hm
    subst e0
    exact outR [_] rfl ⟨rfl, trivial⟩ ⟨_, L0, S25, rfl⟩
  replace hm := ifF hc3 hm
  refine wpc_skip ?_
  refine nrm ?_
  refine wpc_seq ?_
  refine wpc_region ?_
  refine s_mvv (v := a0v0) rfl ?_
  refine s_ld (i := 0) (cs := [vU a2.1, vU a2.2]) S24 rfl rfl Tryd.isAgg27 Tryd.sizeOf27 rfl (fun h => by cases h) ?_
  refine s_mvv (v := vI a1) rfl ?_
  refine s_mvv (v := a3v0) rfl ?_
  obtain ⟨x5, q5, hm⟩ := obind_some hm
  refine s_call Tryd.call27 (w_law08_fooled (a0 := a0) (a1 := a2) (a2 := a1) (a3 := a3) S24 a0h0 a3h0 q5) rfl ?_
  rintro _ w26 ⟨m25, l7, S26, rfl⟩
  replace a0h0 := a0h0.up l7
  replace a3h0 := a3h0.up l7
  replace T1 := T1.up l7
  replace L0 := Mem.tr L0 l7
  clear S24
  replace S26 : St _ ((bx b1 [vU a2.1, vU a2.2] 27) :: As) _ := S26
  refine s_mvv (v := .tuple #[.agg #[vU x5.1.1, vU x5.1.2], vb x5.2]) rfl ?_
  refine s_ext (i := 0) rfl rfl ?_
  refine s_ext (i := 1) rfl rfl ?_
  refine s_alloc S26 Tryd.zeroValue27 ?_
  intro b2 w27 S27
  replace S27 : St _ ((bx b2 [vU 0, vU 0] 27) :: (bx b1 [vU a2.1, vU a2.2] 27) :: As) _ := S27
  clear S26
  refine s_stL (i := 0) S27 rfl rfl rfl Tryd.sizeOf27 (oneC rfl (oneC rfl oneN)) rfl ?_
  intro w28 S28
  replace S28 : St _ ((bx b2 [vU x5.1.1, vU x5.1.2] 27) :: (bx b1 [vU a2.1, vU a2.2] 27) :: As) _ := S28
  clear S27
  refine s_asv (v := vb x5.2) rfl ?_
  refine wpl_nil ?_
  refine nrm ?_
  refine wpc_seq ?_
  refine wpc_region ?_
  refine s_mvv (v := vb x1) rfl ?_
  refine s_mvv (v := vb x1) rfl ?_
  refine wpl_cut 2 [62, 63] (fun f' w' => w' = w28 ∧ AllAt f' [(63, vb (x1 && x5.2))]) ?_ ?_
  · rcases bool_tf x1 with hb11 | hb11
    · refine wpl_yes (d := 61) rfl rfl (congrArg Value.bool hb11) ?_
      refine s_mvv (v := vb x5.2) rfl ?_
      refine s_pickT (congrArg Value.bool hb11) rfl ?_
      exact wpl_nil (nrm ⟨outP, rfl, congrArg Value.bool (and_t hb11), trivial⟩)
    · refine wpl_no (d := 61) rfl rfl (congrArg Value.bool hb11) ?_
      refine s_pickF (congrArg Value.bool hb11) rfl ?_
      exact wpl_nil (nrm ⟨outP, rfl, congrArg Value.bool (and_f hb11), trivial⟩)
  rintro f22 w29 ho ⟨h6, ha⟩
  subst h6
  obtain ⟨u29, rfl⟩ := fr_of (N := 64) ho ha
  refine s_asv (v := vb (x1 && x5.2)) rfl ?_
  refine wpl_nil ?_
  refine nrm ?_
  refine wpc_ret ?_
  refine outRw ?_
  intro we hpd
  replace S28 := St.pd S28 hpd
  obtain ⟨m26, l8, S29⟩ := St.drop S28 0
  replace T1 := T1.up l8
  replace L0 := Mem.tr L0 l8
  clear S28
  replace S29 : St _ ((bx b1 [vU a2.1, vU a2.2] 27) :: As) _ := S29
  obtain ⟨m27, l9, S30⟩ := St.drop S29 0
  replace T1 := T1.up l9
  replace L0 := Mem.tr L0 l9
  clear S29
  replace S30 : St _ (As) _ := S30
  have e0 := Option.some.inj hm
  subst e0
  exact outR [_] rfl ⟨rfl, trivial⟩ ⟨_, L0, S30, rfl⟩

end Go.Proofs.YtohipjalgccmnaaDoor
