/- The walks of some functions, written by program. Conditions: none. -/
import Derived.Test.YtemiampgjgenhaaWkF
set_option maxHeartbeats 20000000
set_option maxRecDepth 100000
set_option linter.unusedVariables false
set_option linter.unusedSimpArgs false
namespace Go.Proofs.Ytemiampgjgenhaa
open Go Go.Gw

def m_law24_LogdPromises_b6 (x3 : g_api_Log × g_api_Promise × Int) (x7 : (List (UInt64 × UInt64)) × Int) (x8 : (List (UInt64 × UInt64)) × Int) (s1 : Bool × Int) : Option ((Bool × Int) ⊕ ((Bool) ⊕ Bool)) :=
  if (decide (s1.2 < (x8.1.length : Int))) = true then
    obind (gu (!s1.1) (idx x8.1 s1.2)) fun x11 =>
    bnd ((s1.1 || (eqSum x11 x3.2.1.Leaf))) fun x12 =>
    obind (gu (decide (s1.2 < (x7.1.length : Int))) (idx x8.1 s1.2)) fun x13 =>
    obind (gu (decide (s1.2 < (x7.1.length : Int))) (idx x7.1 s1.2)) fun x14 =>
    if ((decide (s1.2 < (x7.1.length : Int))) && (!eqSum x13 x14)) = true then
      some (.inr (.inr false))
    else
    some (.inl (x12, (w64 (s1.2 + 1))))
  else
  some (.inr (.inl s1.1))

def m_law24_LogdPromises (a0 : g_api_Log) (a1 : List UInt8) (a2 : Int) : Option Bool :=
  obind (m_law24_live ) fun x1 =>
  if (!x1) = true then
    some false
  else
  obind (m_law24_few a0 a1) fun x2 =>
  if (!x2) = true then
    some true
  else
  obind (m_logd_Add a0 a1 a2) fun x3 =>
  if (x3.2.2 != 0) = true then
    bnd (((eq_api_Promise x3.2.1 (⟨0, 0, (0, 0), (⟨0, 0⟩ : g_api_Sig)⟩ : g_api_Promise)) && ((w64 ((x3.1.L.length : Int) + (x3.1.Wait.length : Int))) == 0))) fun x4 =>
    some x4
  else
  obind (m_logd_Public x3.1) fun x5 =>
  obind (m_logd_Merge x3.1) fun x6 =>
  obind (m_logd_Leaves a0 0) fun x7 =>
  obind (m_logd_Leaves x6.1 0) fun x8 =>
  if (((((((x5.2 != 0) || (x6.2 != 0)) || (x7.2 != 0)) || (x8.2 != 0)) || ((x6.1.Wait.length : Int) != 0)) || ((x8.1.length : Int) != (w64 ((x3.1.L.length : Int) + (x3.1.Wait.length : Int))))) || (decide ((x8.1.length : Int) < (x7.1.length : Int)))) = true then
    some false
  else
  obind (iter (m_law24_LogdPromises_b6 x3 x7 x8) FUEL (false, 0)) fun x9 => match x9 with
  | .inr r => some r
  | .inl y1 =>
  obind (gu y1 (m_merkle_Leaf a1)) fun x15 =>
  obind (gu (y1 && (eqSum x3.2.1.Leaf x15)) (m_logd_CheckPromise x5.1 x3.2.1)) fun x16 =>
  bnd (((y1 && (eqSum x3.2.1.Leaf x15)) && (x16 == 0))) fun x17 =>
  some x17

theorem w_law24_LogdPromises {m : Mem} {As : List Ow} {w : World} {a0 : g_api_Log} {a0v3 : Value} {a0v4 : Value} {a0v5 : Value} {a1 : List UInt8} {a1v0 : Value} {a2 : Int} {r : Bool} (S : St m (As) w) (a0h3 : SlR m a0v3 a0.L) (a0h4 : SlR m a0v4 a0.Hide) (a0h5 : SlR m a0v5 a0.Wait) (a1h0 : SlR m a1v0 a1) (hm : m_law24_LogdPromises a0 a1 a2 = some r) :
    CallsR Try.prog 3 #[.agg #[vI a0.Id, vU a0.Key, vI a0.Delay, a0v3, a0v4, a0v5], a1v0, vI a2] w fun v w' => ∃ (M : Mem), m ≤ M ∧ St M (As) w' ∧ v = vb r := by
 unfold m_law24_LogdPromises at hm
 have L0 := Mem.rfl' m
 refine callsR (args := [.agg #[vI a0.Id, vU a0.Key, vI a0.Delay, a0v3, a0v4, a0v5], a1v0, vI a2]) Try.func3 rfl Try.ntmps3 (Nat.le_of_ble_eq_true rfl) <| wpc_seq <| wpc_region <| s_box S rfl fun b1 w1 S1 => ?_
 replace S1 : St _ ((bx b1 [vI a0.Id, vU a0.Key, vI a0.Delay, a0v3, a0v4, a0v5] 26) :: As) _ := S1
 clear S
 refine s_asv (v := vb false) rfl <| wpl_nil <| nrm <| wpc_seq <| wpc_seq <| wpc_region ?_
 obtain ⟨x1, q1, hm⟩ := obind_some hm
 refine s_call Try.call7 (w_law24_live  S1  q1) rfl ?_
 rintro _ w2 ⟨m1, l1, S2, rfl⟩
 replace a1h0 := a1h0.up l1
 replace a0h3 := a0h3.up l1
 replace a0h4 := a0h4.up l1
 replace a0h5 := a0h5.up l1
 replace L0 := Mem.tr L0 l1
 clear S1
 refine s_not rfl <| wpl_nil <| nrm <| wpc_if (t := (!x1)) rfl (fun hc1 => ?_) (fun hc1 => ?_)
 · replace hm := ifT hc1 hm
   refine wpc_seq <| wpc_region <| s_asv (v := vb false) rfl <| wpl_nil <| nrm <| wpc_ret <| thR <| outRw fun we hpd => ?_
   replace S2 := St.pd S2 hpd
   obtain ⟨m2, l2, S3⟩ := St.drop S2 0
   replace L0 := Mem.tr L0 l2
   clear S2
   replace S3 : St _ (As) _ := S3
   have e0 := Option.some.inj hm
   subst e0
   exact outR [_] rfl ⟨rfl, trivial⟩ ⟨_, L0, S3, rfl⟩
 replace hm := ifF hc1 hm
 refine wpc_skip <| nrm <| wpc_seq <| wpc_seq <| wpc_region <| s_ld (i := 0) (cs := [vI a0.Id, vU a0.Key, vI a0.Delay, a0v3, a0v4, a0v5]) S2 rfl rfl Try.isAgg26 Try.sizeOf26 rfl (fun h => by cases h) <| s_mvv (v := a1v0) rfl ?_
 obtain ⟨x2, q2, hm⟩ := obind_some hm
 refine s_call Try.call8 (w_law24_few (a0 := a0) (a1 := a1) S2 a0h3 a0h4 a0h5 a1h0 q2) rfl ?_
 rintro _ w3 ⟨m3, l3, S4, rfl⟩
 replace a1h0 := a1h0.up l3
 replace a0h3 := a0h3.up l3
 replace a0h4 := a0h4.up l3
 replace a0h5 := a0h5.up l3
 replace L0 := Mem.tr L0 l3
 clear S2
 refine s_not rfl <| wpl_nil <| nrm <| wpc_if (t := (!x2)) rfl (fun hc2 => ?_) (fun hc2 => ?_)
 · replace hm := ifT hc2 hm
   refine wpc_seq <| wpc_region <| s_asv (v := vb true) rfl <| wpl_nil <| nrm <| wpc_ret <| thR <| outRw fun we hpd => ?_
   replace S4 := St.pd S4 hpd
   obtain ⟨m4, l4, S5⟩ := St.drop S4 0
   replace L0 := Mem.tr L0 l4
   clear S4
   replace S5 : St _ (As) _ := S5
   have e0 := Option.some.inj hm
   subst e0
   exact outR [_] rfl ⟨rfl, trivial⟩ ⟨_, L0, S5, rfl⟩
 replace hm := ifF hc2 hm
 refine wpc_skip <| nrm <| wpc_seq <| wpc_region <| s_ld (i := 0) (cs := [vI a0.Id, vU a0.Key, vI a0.Delay, a0v3, a0v4, a0v5]) S4 rfl rfl Try.isAgg26 Try.sizeOf26 rfl (fun h => by cases h) <| s_mvv (v := a1v0) rfl <| s_mvv (v := vI a2) rfl ?_
 obtain ⟨x3, q3, hm⟩ := obind_some hm
 refine s_call Try.call9 (w_logd_Add (a0 := a0) (a1 := a1) (a2 := a2) S4 a0h3 a0h4 a0h5 a1h0 q3) rfl ?_
 rintro _ w4 ⟨m5, l5, v1, v2, v3, S6, rfl, h1, h2, h3⟩
 replace a1h0 := a1h0.up l5
 replace a0h3 := a0h3.up l5
 replace a0h4 := a0h4.up l5
 replace a0h5 := a0h5.up l5
 replace L0 := Mem.tr L0 l5
 clear S4
 refine s_mvv (v := .tuple #[.agg #[vI x3.1.Id, vU x3.1.Key, vI x3.1.Delay, v1, v2, v3], .agg #[vI x3.2.1.Log, vI x3.2.1.At, vU x3.2.1.Leaf.1, vU x3.2.1.Leaf.2, vU x3.2.1.Sig.E, vU x3.2.1.Sig.S], vI x3.2.2]) rfl <| s_ext (i := 0) rfl rfl <| s_ext (i := 1) rfl rfl <| s_ext (i := 2) rfl rfl <| s_alloc S6 Try.zeroValue26 fun b2 w5 S7 => ?_
 replace S7 : St _ ((bx b2 [vI 0, vU 0, vI 0, .slice none 0 0, .slice none 0 0, .slice none 0 0] 26) :: (bx b1 [vI a0.Id, vU a0.Key, vI a0.Delay, a0v3, a0v4, a0v5] 26) :: As) _ := S7
 clear S6
 refine s_alloc S7 Try.zeroValue35 fun b3 w6 S8 => ?_
 replace S8 : St _ ((bx b3 [vI 0, vI 0, vU 0, vU 0, vU 0, vU 0] 35) :: (bx b2 [vI 0, vU 0, vI 0, .slice none 0 0, .slice none 0 0, .slice none 0 0] 26) :: (bx b1 [vI a0.Id, vU a0.Key, vI a0.Delay, a0v3, a0v4, a0v5] 26) :: As) _ := S8
 clear S7
 refine s_stL (i := 1) S8 rfl rfl rfl Try.sizeOf26 (oneC rfl (oneC rfl (oneC rfl (oneC (SlR.one h1) (oneC (SlR.one h2) (oneC (SlR.one h3) oneN)))))) rfl fun w7 S9 => ?_
 replace S9 : St _ ((bx b3 [vI 0, vI 0, vU 0, vU 0, vU 0, vU 0] 35) :: (bx b2 [vI x3.1.Id, vU x3.1.Key, vI x3.1.Delay, v1, v2, v3] 26) :: (bx b1 [vI a0.Id, vU a0.Key, vI a0.Delay, a0v3, a0v4, a0v5] 26) :: As) _ := S9
 clear S8
 refine s_stL (i := 0) S9 rfl rfl rfl Try.sizeOf35 (oneC rfl (oneC rfl (oneC rfl (oneC rfl (oneC rfl (oneC rfl oneN)))))) rfl fun w8 S10 => ?_
 replace S10 : St _ ((bx b3 [vI x3.2.1.Log, vI x3.2.1.At, vU x3.2.1.Leaf.1, vU x3.2.1.Leaf.2, vU x3.2.1.Sig.E, vU x3.2.1.Sig.S] 35) :: (bx b2 [vI x3.1.Id, vU x3.1.Key, vI x3.1.Delay, v1, v2, v3] 26) :: (bx b1 [vI a0.Id, vU a0.Key, vI a0.Delay, a0v3, a0v4, a0v5] 26) :: As) _ := S10
 clear S9
 refine s_asv (v := vI x3.2.2) rfl <| wpl_nil <| nrm <| wpc_seq <| wpc_seq <| wpc_region <| s_mvv (v := vI x3.2.2) rfl <| s_neq (m := x3.2.2) (n := 0) rfl rfl <| wpl_nil <| nrm <| wpc_if (t := (x3.2.2 != 0)) rfl (fun hc3 => ?_) (fun hc3 => ?_)
 · replace hm := ifT hc3 hm
   refine wpc_seq <| wpc_region <| s_ld (i := 0) (cs := [vI x3.2.1.Log, vI x3.2.1.At, vU x3.2.1.Leaf.1, vU x3.2.1.Leaf.2, vU x3.2.1.Sig.E, vU x3.2.1.Sig.S]) S10 rfl rfl Try.isAgg35 Try.sizeOf35 rfl (fun h => by cases h) <| s_build (parts := []) (ps := []) (cs := [vI 0, vI 0, vU 0, vU 0, vU 0, vU 0]) Try.zeroValue35 (BuildPl.str (ss := [1, 1, 2, 2]) Try.underlying35 ⟨Try.sizeOf3, Try.sizeOf3, Try.sizeOf31, Try.sizeOf33, trivial⟩) rfl trivial rfl <| s_eqlA (cs := [vI x3.2.1.Log, vI x3.2.1.At, vU x3.2.1.Leaf.1, vU x3.2.1.Leaf.2, vU x3.2.1.Sig.E, vU x3.2.1.Sig.S]) (ds := [vI 0, vI 0, vU 0, vU 0, vU 0, vU 0]) rfl rfl (eqv_api_Promise (p := x3.2.1) (q := (⟨0, 0, (0, 0), (⟨0, 0⟩ : g_api_Sig)⟩ : g_api_Promise))) rfl Try.eqGuardType35 <| s_mvv (v := vb (eq_api_Promise x3.2.1 (⟨0, 0, (0, 0), (⟨0, 0⟩ : g_api_Sig)⟩ : g_api_Promise))) rfl <| wpl_cut 9 [40, 41, 42, 43, 44, 45, 46, 47, 48] (fun f' w' => w' = w8 ∧ AllAt f' [(48, vb ((eq_api_Promise x3.2.1 (⟨0, 0, (0, 0), (⟨0, 0⟩ : g_api_Sig)⟩ : g_api_Promise)) && ((w64 ((x3.1.L.length : Int) + (x3.1.Wait.length : Int))) == 0)))]) ?_ ?_
   · rcases bool_tf (eq_api_Promise x3.2.1 (⟨0, 0, (0, 0), (⟨0, 0⟩ : g_api_Sig)⟩ : g_api_Promise)) with hb1 | hb1
     · exact wpl_yes (d := 39) rfl rfl (congrArg Value.bool hb1) <| s_fld (n := 0) rfl Try.underlying26 rfl rfl Try.sizeOf23 <| wpl_yes (d := 39) rfl rfl (congrArg Value.bool hb1) <| s_ld (i := 1) (cs := [v1]) S10 rfl rfl Try.isAgg23 Try.sizeOf23 rfl (fun _ => rfl) <| wpl_yes (d := 39) rfl rfl (congrArg Value.bool hb1) <| s_lenR (xs := x3.1.L) rfl h1 Try.underlying23 <| wpl_yes (d := 39) rfl rfl (congrArg Value.bool hb1) <| s_fld (n := 0) rfl Try.underlying26 rfl rfl Try.sizeOf23 <| wpl_yes (d := 39) rfl rfl (congrArg Value.bool hb1) <| s_ld (i := 1) (cs := [v3]) S10 rfl rfl Try.isAgg23 Try.sizeOf23 rfl (fun _ => rfl) <| wpl_yes (d := 39) rfl rfl (congrArg Value.bool hb1) <| s_lenR (xs := x3.1.Wait) rfl h3 Try.underlying23 <| wpl_yes (d := 39) rfl rfl (congrArg Value.bool hb1) <| s_addI (m := (x3.1.L.length : Int)) (n := (x3.1.Wait.length : Int)) rfl rfl <| wpl_yes (d := 39) rfl rfl (congrArg Value.bool hb1) <| s_eql (m := (w64 ((x3.1.L.length : Int) + (x3.1.Wait.length : Int)))) (n := 0) rfl rfl <| s_pickT (congrArg Value.bool hb1) rfl <| wpl_nil (nrm ⟨outP, rfl, congrArg Value.bool (and_t hb1), trivial⟩)
     · exact wpl_no (d := 39) rfl rfl (congrArg Value.bool hb1) <| wpl_no (d := 39) rfl rfl (congrArg Value.bool hb1) <| wpl_no (d := 39) rfl rfl (congrArg Value.bool hb1) <| wpl_no (d := 39) rfl rfl (congrArg Value.bool hb1) <| wpl_no (d := 39) rfl rfl (congrArg Value.bool hb1) <| wpl_no (d := 39) rfl rfl (congrArg Value.bool hb1) <| wpl_no (d := 39) rfl rfl (congrArg Value.bool hb1) <| wpl_no (d := 39) rfl rfl (congrArg Value.bool hb1) <| s_pickF (congrArg Value.bool hb1) rfl <| wpl_nil (nrm ⟨outP, rfl, congrArg Value.bool (and_f hb1), trivial⟩)
   rintro f1 w9 ho ⟨h4, ha⟩
   subst h4
   obtain ⟨u1, rfl⟩ := fr_of (N := 153) ho ha
   obtain ⟨x4, q4, hm⟩ := bnd_eq hm
   refine s_asv (v := vb x4) (congrArg (fun z => vb z) q4.symm) <| wpl_nil <| nrm <| wpc_ret <| thR <| outRw fun we hpd => ?_
   replace S10 := St.pd S10 hpd
   obtain ⟨m6, l6, S11⟩ := St.drop S10 0
   replace a0h3 := a0h3.up l6
   replace a0h4 := a0h4.up l6
   replace a0h5 := a0h5.up l6
   replace L0 := Mem.tr L0 l6
   clear S10
   replace S11 : St _ ((bx b2 [vI x3.1.Id, vU x3.1.Key, vI x3.1.Delay, v1, v2, v3] 26) :: (bx b1 [vI a0.Id, vU a0.Key, vI a0.Delay, a0v3, a0v4, a0v5] 26) :: As) _ := S11
   obtain ⟨m7, l7, S12⟩ := St.drop S11 0
   replace L0 := Mem.tr L0 l7
   clear S11
   replace S12 : St _ ((bx b1 [vI a0.Id, vU a0.Key, vI a0.Delay, a0v3, a0v4, a0v5] 26) :: As) _ := S12
   obtain ⟨m8, l8, S13⟩ := St.drop S12 0
   replace L0 := Mem.tr L0 l8
   clear S12
   replace S13 : St _ (As) _ := S13
   have e0 := Option.some.inj hm
   subst e0
   exact outR [_] rfl ⟨rfl, trivial⟩ ⟨_, L0, S13, rfl⟩
 replace hm := ifF hc3 hm
 refine wpc_skip <| nrm <| wpc_seq <| wpc_region <| s_ld (i := 1) (cs := [vI x3.1.Id, vU x3.1.Key, vI x3.1.Delay, v1, v2, v3]) S10 rfl rfl Try.isAgg26 Try.sizeOf26 rfl (fun h => by cases h) ?_
 obtain ⟨x5, q5, hm⟩ := obind_some hm
 refine s_call Try.call10 (w_logd_Public (a0 := x3.1) S10 h1 h2 h3 q5) rfl ?_
 rintro _ w10 ⟨m9, l9, S14, rfl⟩
 replace a1h0 := a1h0.up l9
 replace h1 := h1.up l9
 replace h2 := h2.up l9
 replace h3 := h3.up l9
 replace a0h3 := a0h3.up l9
 replace a0h4 := a0h4.up l9
 replace a0h5 := a0h5.up l9
 replace L0 := Mem.tr L0 l9
 clear S10
 refine s_mvv (v := .tuple #[.agg #[vI x5.1.Log, vU x5.1.Key, vI x5.1.Delay], vI x5.2]) rfl <| s_ext (i := 0) rfl rfl <| s_ext (i := 1) rfl rfl <| s_alloc S14 Try.zeroValue40 fun b4 w11 S15 => ?_
 replace S15 : St _ ((bx b4 [vI 0, vU 0, vI 0] 40) :: (bx b3 [vI x3.2.1.Log, vI x3.2.1.At, vU x3.2.1.Leaf.1, vU x3.2.1.Leaf.2, vU x3.2.1.Sig.E, vU x3.2.1.Sig.S] 35) :: (bx b2 [vI x3.1.Id, vU x3.1.Key, vI x3.1.Delay, v1, v2, v3] 26) :: (bx b1 [vI a0.Id, vU a0.Key, vI a0.Delay, a0v3, a0v4, a0v5] 26) :: As) _ := S15
 clear S14
 refine s_stL (i := 0) S15 rfl rfl rfl Try.sizeOf40 (oneC rfl (oneC rfl (oneC rfl oneN))) rfl fun w12 S16 => ?_
 replace S16 : St _ ((bx b4 [vI x5.1.Log, vU x5.1.Key, vI x5.1.Delay] 40) :: (bx b3 [vI x3.2.1.Log, vI x3.2.1.At, vU x3.2.1.Leaf.1, vU x3.2.1.Leaf.2, vU x3.2.1.Sig.E, vU x3.2.1.Sig.S] 35) :: (bx b2 [vI x3.1.Id, vU x3.1.Key, vI x3.1.Delay, v1, v2, v3] 26) :: (bx b1 [vI a0.Id, vU a0.Key, vI a0.Delay, a0v3, a0v4, a0v5] 26) :: As) _ := S16
 clear S15
 refine s_asv (v := vI x5.2) rfl <| wpl_nil <| nrm <| wpc_seq <| wpc_region <| s_ld (i := 2) (cs := [vI x3.1.Id, vU x3.1.Key, vI x3.1.Delay, v1, v2, v3]) S16 rfl rfl Try.isAgg26 Try.sizeOf26 rfl (fun h => by cases h) ?_
 obtain ⟨x6, q6, hm⟩ := obind_some hm
 refine s_call Try.call11 (w_logd_Merge (a0 := x3.1) S16 h1 h2 h3 q6) rfl ?_
 rintro _ w13 ⟨m10, l10, v4, v5, v6, S17, rfl, h5, h6, h7⟩
 replace a1h0 := a1h0.up l10
 replace h1 := h1.up l10
 replace h2 := h2.up l10
 replace h3 := h3.up l10
 replace a0h3 := a0h3.up l10
 replace a0h4 := a0h4.up l10
 replace a0h5 := a0h5.up l10
 replace L0 := Mem.tr L0 l10
 clear S16
 refine s_mvv (v := .tuple #[.agg #[vI x6.1.Id, vU x6.1.Key, vI x6.1.Delay, v4, v5, v6], vI x6.2]) rfl <| s_ext (i := 0) rfl rfl <| s_ext (i := 1) rfl rfl <| s_alloc S17 Try.zeroValue26 fun b5 w14 S18 => ?_
 replace S18 : St _ ((bx b5 [vI 0, vU 0, vI 0, .slice none 0 0, .slice none 0 0, .slice none 0 0] 26) :: (bx b4 [vI x5.1.Log, vU x5.1.Key, vI x5.1.Delay] 40) :: (bx b3 [vI x3.2.1.Log, vI x3.2.1.At, vU x3.2.1.Leaf.1, vU x3.2.1.Leaf.2, vU x3.2.1.Sig.E, vU x3.2.1.Sig.S] 35) :: (bx b2 [vI x3.1.Id, vU x3.1.Key, vI x3.1.Delay, v1, v2, v3] 26) :: (bx b1 [vI a0.Id, vU a0.Key, vI a0.Delay, a0v3, a0v4, a0v5] 26) :: As) _ := S18
 clear S17
 refine s_stL (i := 0) S18 rfl rfl rfl Try.sizeOf26 (oneC rfl (oneC rfl (oneC rfl (oneC (SlR.one h5) (oneC (SlR.one h6) (oneC (SlR.one h7) oneN)))))) rfl fun w15 S19 => ?_
 replace S19 : St _ ((bx b5 [vI x6.1.Id, vU x6.1.Key, vI x6.1.Delay, v4, v5, v6] 26) :: (bx b4 [vI x5.1.Log, vU x5.1.Key, vI x5.1.Delay] 40) :: (bx b3 [vI x3.2.1.Log, vI x3.2.1.At, vU x3.2.1.Leaf.1, vU x3.2.1.Leaf.2, vU x3.2.1.Sig.E, vU x3.2.1.Sig.S] 35) :: (bx b2 [vI x3.1.Id, vU x3.1.Key, vI x3.1.Delay, v1, v2, v3] 26) :: (bx b1 [vI a0.Id, vU a0.Key, vI a0.Delay, a0v3, a0v4, a0v5] 26) :: As) _ := S19
 clear S18
 refine s_asv (v := vI x6.2) rfl <| wpl_nil <| nrm <| wpc_seq <| wpc_region <| s_ld (i := 4) (cs := [vI a0.Id, vU a0.Key, vI a0.Delay, a0v3, a0v4, a0v5]) S19 rfl rfl Try.isAgg26 Try.sizeOf26 rfl (fun h => by cases h) ?_
 obtain ⟨x7, q7, hm⟩ := obind_some hm
 refine s_call Try.call12 (w_logd_Leaves (a0 := a0) (a1 := 0) S19 a0h3 a0h4 a0h5 q7) rfl ?_
 rintro _ w16 ⟨m11, l11, v7, c1, S20, rfl, h8⟩
 replace a1h0 := a1h0.up l11
 replace a0h3 := a0h3.up l11
 replace a0h4 := a0h4.up l11
 replace a0h5 := a0h5.up l11
 replace h5 := h5.up l11
 replace h6 := h6.up l11
 replace h7 := h7.up l11
 replace h1 := h1.up l11
 replace h2 := h2.up l11
 replace h3 := h3.up l11
 replace L0 := Mem.tr L0 l11
 clear S19
 refine s_mvv (v := .tuple #[v7, vI x7.2]) rfl <| s_ext (i := 0) rfl rfl <| s_ext (i := 1) rfl rfl <| s_asv (v := v7) rfl <| s_asv (v := vI x7.2) rfl <| wpl_nil <| nrm <| wpc_seq <| wpc_region <| s_ld (i := 1) (cs := [vI x6.1.Id, vU x6.1.Key, vI x6.1.Delay, v4, v5, v6]) S20 rfl rfl Try.isAgg26 Try.sizeOf26 rfl (fun h => by cases h) ?_
 obtain ⟨x8, q8, hm⟩ := obind_some hm
 refine s_call Try.call12 (w_logd_Leaves (a0 := x6.1) (a1 := 0) S20 h5 h6 h7 q8) rfl ?_
 rintro _ w17 ⟨m12, l12, v8, c2, S21, rfl, h9⟩
 replace a1h0 := a1h0.up l12
 replace h8 := RepL.up l12 h8
 replace h5 := h5.up l12
 replace h6 := h6.up l12
 replace h7 := h7.up l12
 replace h1 := h1.up l12
 replace h2 := h2.up l12
 replace h3 := h3.up l12
 replace a0h3 := a0h3.up l12
 replace a0h4 := a0h4.up l12
 replace a0h5 := a0h5.up l12
 replace L0 := Mem.tr L0 l12
 clear S20
 refine s_mvv (v := .tuple #[v8, vI x8.2]) rfl <| s_ext (i := 0) rfl rfl <| s_ext (i := 1) rfl rfl <| s_asv (v := v8) rfl <| s_asv (v := vI x8.2) rfl <| wpl_nil <| nrm <| wpc_seq <| wpc_seq <| wpc_region <| s_mvv (v := vI x5.2) rfl <| s_neq (m := x5.2) (n := 0) rfl rfl <| s_mvv (v := vb (x5.2 != 0)) rfl <| wpl_cut 3 [72, 73, 74] (fun f' w' => w' = w17 ∧ AllAt f' [(74, vb ((x5.2 != 0) || (x6.2 != 0)))]) ?_ ?_
 · rcases bool_tf (x5.2 != 0) with hb2 | hb2
   · exact wpl_no (d := 71) rfl rfl (congrArg Value.bool hb2) <| wpl_no (d := 71) rfl rfl (congrArg Value.bool hb2) <| s_pickT (congrArg Value.bool hb2) rfl <| wpl_nil (nrm ⟨outP, rfl, congrArg Value.bool (or_t hb2), trivial⟩)
   · exact wpl_yes (d := 71) rfl rfl (congrArg Value.bool hb2) <| s_mvv (v := vI x6.2) rfl <| wpl_yes (d := 71) rfl rfl (congrArg Value.bool hb2) <| s_neq (m := x6.2) (n := 0) rfl rfl <| s_pickF (congrArg Value.bool hb2) rfl <| wpl_nil (nrm ⟨outP, rfl, congrArg Value.bool (or_f hb2), trivial⟩)
 rintro f2 w18 ho ⟨h10, ha⟩
 subst h10
 obtain ⟨u2, rfl⟩ := fr_of (N := 153) ho ha
 refine s_mvv (v := vb ((x5.2 != 0) || (x6.2 != 0))) rfl <| wpl_cut 3 [76, 77, 78] (fun f' w' => w' = w18 ∧ AllAt f' [(78, vb (((x5.2 != 0) || (x6.2 != 0)) || (x7.2 != 0)))]) ?_ ?_
 · rcases bool_tf ((x5.2 != 0) || (x6.2 != 0)) with hb3 | hb3
   · exact wpl_no (d := 75) rfl rfl (congrArg Value.bool hb3) <| wpl_no (d := 75) rfl rfl (congrArg Value.bool hb3) <| s_pickT (congrArg Value.bool hb3) rfl <| wpl_nil (nrm ⟨outP, rfl, congrArg Value.bool (or_t hb3), trivial⟩)
   · exact wpl_yes (d := 75) rfl rfl (congrArg Value.bool hb3) <| s_mvv (v := vI x7.2) rfl <| wpl_yes (d := 75) rfl rfl (congrArg Value.bool hb3) <| s_neq (m := x7.2) (n := 0) rfl rfl <| s_pickF (congrArg Value.bool hb3) rfl <| wpl_nil (nrm ⟨outP, rfl, congrArg Value.bool (or_f hb3), trivial⟩)
 rintro f3 w19 ho ⟨h11, ha⟩
 subst h11
 obtain ⟨u3, rfl⟩ := fr_of (N := 153) ho ha
 refine s_mvv (v := vb (((x5.2 != 0) || (x6.2 != 0)) || (x7.2 != 0))) rfl <| wpl_cut 3 [80, 81, 82] (fun f' w' => w' = w19 ∧ AllAt f' [(82, vb ((((x5.2 != 0) || (x6.2 != 0)) || (x7.2 != 0)) || (x8.2 != 0)))]) ?_ ?_
 · rcases bool_tf (((x5.2 != 0) || (x6.2 != 0)) || (x7.2 != 0)) with hb4 | hb4
   · exact wpl_no (d := 79) rfl rfl (congrArg Value.bool hb4) <| wpl_no (d := 79) rfl rfl (congrArg Value.bool hb4) <| s_pickT (congrArg Value.bool hb4) rfl <| wpl_nil (nrm ⟨outP, rfl, congrArg Value.bool (or_t hb4), trivial⟩)
   · exact wpl_yes (d := 79) rfl rfl (congrArg Value.bool hb4) <| s_mvv (v := vI x8.2) rfl <| wpl_yes (d := 79) rfl rfl (congrArg Value.bool hb4) <| s_neq (m := x8.2) (n := 0) rfl rfl <| s_pickF (congrArg Value.bool hb4) rfl <| wpl_nil (nrm ⟨outP, rfl, congrArg Value.bool (or_f hb4), trivial⟩)
 rintro f4 w20 ho ⟨h12, ha⟩
 subst h12
 obtain ⟨u4, rfl⟩ := fr_of (N := 153) ho ha
 refine s_mvv (v := vb ((((x5.2 != 0) || (x6.2 != 0)) || (x7.2 != 0)) || (x8.2 != 0))) rfl <| wpl_cut 5 [84, 85, 86, 87, 88] (fun f' w' => w' = w20 ∧ AllAt f' [(88, vb (((((x5.2 != 0) || (x6.2 != 0)) || (x7.2 != 0)) || (x8.2 != 0)) || ((x6.1.Wait.length : Int) != 0)))]) ?_ ?_
 · rcases bool_tf ((((x5.2 != 0) || (x6.2 != 0)) || (x7.2 != 0)) || (x8.2 != 0)) with hb5 | hb5
   · exact wpl_no (d := 83) rfl rfl (congrArg Value.bool hb5) <| wpl_no (d := 83) rfl rfl (congrArg Value.bool hb5) <| wpl_no (d := 83) rfl rfl (congrArg Value.bool hb5) <| wpl_no (d := 83) rfl rfl (congrArg Value.bool hb5) <| s_pickT (congrArg Value.bool hb5) rfl <| wpl_nil (nrm ⟨outP, rfl, congrArg Value.bool (or_t hb5), trivial⟩)
   · exact wpl_yes (d := 83) rfl rfl (congrArg Value.bool hb5) <| s_fld (n := 0) rfl Try.underlying26 rfl rfl Try.sizeOf23 <| wpl_yes (d := 83) rfl rfl (congrArg Value.bool hb5) <| s_ld (i := 2) (cs := [v6]) S21 rfl rfl Try.isAgg23 Try.sizeOf23 rfl (fun _ => rfl) <| wpl_yes (d := 83) rfl rfl (congrArg Value.bool hb5) <| s_lenR (xs := x6.1.Wait) rfl h7 Try.underlying23 <| wpl_yes (d := 83) rfl rfl (congrArg Value.bool hb5) <| s_neq (m := (x6.1.Wait.length : Int)) (n := 0) rfl rfl <| s_pickF (congrArg Value.bool hb5) rfl <| wpl_nil (nrm ⟨outP, rfl, congrArg Value.bool (or_f hb5), trivial⟩)
 rintro f5 w21 ho ⟨h13, ha⟩
 subst h13
 obtain ⟨u5, rfl⟩ := fr_of (N := 153) ho ha
 refine s_mvv (v := vb (((((x5.2 != 0) || (x6.2 != 0)) || (x7.2 != 0)) || (x8.2 != 0)) || ((x6.1.Wait.length : Int) != 0))) rfl <| wpl_cut 11 [90, 91, 92, 93, 94, 95, 96, 97, 98, 99, 100] (fun f' w' => w' = w21 ∧ AllAt f' [(100, vb ((((((x5.2 != 0) || (x6.2 != 0)) || (x7.2 != 0)) || (x8.2 != 0)) || ((x6.1.Wait.length : Int) != 0)) || ((x8.1.length : Int) != (w64 ((x3.1.L.length : Int) + (x3.1.Wait.length : Int))))))]) ?_ ?_
 · rcases bool_tf (((((x5.2 != 0) || (x6.2 != 0)) || (x7.2 != 0)) || (x8.2 != 0)) || ((x6.1.Wait.length : Int) != 0)) with hb6 | hb6
   · exact wpl_no (d := 89) rfl rfl (congrArg Value.bool hb6) <| wpl_no (d := 89) rfl rfl (congrArg Value.bool hb6) <| wpl_no (d := 89) rfl rfl (congrArg Value.bool hb6) <| wpl_no (d := 89) rfl rfl (congrArg Value.bool hb6) <| wpl_no (d := 89) rfl rfl (congrArg Value.bool hb6) <| wpl_no (d := 89) rfl rfl (congrArg Value.bool hb6) <| wpl_no (d := 89) rfl rfl (congrArg Value.bool hb6) <| wpl_no (d := 89) rfl rfl (congrArg Value.bool hb6) <| wpl_no (d := 89) rfl rfl (congrArg Value.bool hb6) <| wpl_no (d := 89) rfl rfl (congrArg Value.bool hb6) <| s_pickT (congrArg Value.bool hb6) rfl <| wpl_nil (nrm ⟨outP, rfl, congrArg Value.bool (or_t hb6), trivial⟩)
   · exact wpl_yes (d := 89) rfl rfl (congrArg Value.bool hb6) <| s_mvv (v := v8) rfl <| wpl_yes (d := 89) rfl rfl (congrArg Value.bool hb6) <| s_lenO (i := 0) S21 rfl rfl Try.underlying45 <| wpl_yes (d := 89) rfl rfl (congrArg Value.bool hb6) <| s_fld (n := 0) rfl Try.underlying26 rfl rfl Try.sizeOf23 <| wpl_yes (d := 89) rfl rfl (congrArg Value.bool hb6) <| s_ld (i := 5) (cs := [v1]) S21 rfl rfl Try.isAgg23 Try.sizeOf23 rfl (fun _ => rfl) <| wpl_yes (d := 89) rfl rfl (congrArg Value.bool hb6) <| s_lenR (xs := x3.1.L) rfl h1 Try.underlying23 <| wpl_yes (d := 89) rfl rfl (congrArg Value.bool hb6) <| s_fld (n := 0) rfl Try.underlying26 rfl rfl Try.sizeOf23 <| wpl_yes (d := 89) rfl rfl (congrArg Value.bool hb6) <| s_ld (i := 5) (cs := [v3]) S21 rfl rfl Try.isAgg23 Try.sizeOf23 rfl (fun _ => rfl) <| wpl_yes (d := 89) rfl rfl (congrArg Value.bool hb6) <| s_lenR (xs := x3.1.Wait) rfl h3 Try.underlying23 <| wpl_yes (d := 89) rfl rfl (congrArg Value.bool hb6) <| s_addI (m := (x3.1.L.length : Int)) (n := (x3.1.Wait.length : Int)) rfl rfl <| wpl_yes (d := 89) rfl rfl (congrArg Value.bool hb6) <| s_neq (m := (x8.1.length : Int)) (n := (w64 ((x3.1.L.length : Int) + (x3.1.Wait.length : Int)))) rfl rfl <| s_pickF (congrArg Value.bool hb6) rfl <| wpl_nil (nrm ⟨outP, rfl, congrArg Value.bool (or_f hb6), trivial⟩)
 rintro f6 w22 ho ⟨h14, ha⟩
 subst h14
 obtain ⟨u6, rfl⟩ := fr_of (N := 153) ho ha
 refine s_mvv (v := vb ((((((x5.2 != 0) || (x6.2 != 0)) || (x7.2 != 0)) || (x8.2 != 0)) || ((x6.1.Wait.length : Int) != 0)) || ((x8.1.length : Int) != (w64 ((x3.1.L.length : Int) + (x3.1.Wait.length : Int)))))) rfl <| wpl_cut 6 [102, 103, 104, 105, 106, 107] (fun f' w' => w' = w22 ∧ AllAt f' [(107, vb (((((((x5.2 != 0) || (x6.2 != 0)) || (x7.2 != 0)) || (x8.2 != 0)) || ((x6.1.Wait.length : Int) != 0)) || ((x8.1.length : Int) != (w64 ((x3.1.L.length : Int) + (x3.1.Wait.length : Int))))) || (decide ((x8.1.length : Int) < (x7.1.length : Int)))))]) ?_ ?_
 · rcases bool_tf ((((((x5.2 != 0) || (x6.2 != 0)) || (x7.2 != 0)) || (x8.2 != 0)) || ((x6.1.Wait.length : Int) != 0)) || ((x8.1.length : Int) != (w64 ((x3.1.L.length : Int) + (x3.1.Wait.length : Int))))) with hb7 | hb7
   · exact wpl_no (d := 101) rfl rfl (congrArg Value.bool hb7) <| wpl_no (d := 101) rfl rfl (congrArg Value.bool hb7) <| wpl_no (d := 101) rfl rfl (congrArg Value.bool hb7) <| wpl_no (d := 101) rfl rfl (congrArg Value.bool hb7) <| wpl_no (d := 101) rfl rfl (congrArg Value.bool hb7) <| s_pickT (congrArg Value.bool hb7) rfl <| wpl_nil (nrm ⟨outP, rfl, congrArg Value.bool (or_t hb7), trivial⟩)
   · exact wpl_yes (d := 101) rfl rfl (congrArg Value.bool hb7) <| s_mvv (v := v8) rfl <| wpl_yes (d := 101) rfl rfl (congrArg Value.bool hb7) <| s_lenO (i := 0) S21 rfl rfl Try.underlying45 <| wpl_yes (d := 101) rfl rfl (congrArg Value.bool hb7) <| s_mvv (v := v7) rfl <| wpl_yes (d := 101) rfl rfl (congrArg Value.bool hb7) <| s_lenO (i := 1) S21 rfl rfl Try.underlying45 <| wpl_yes (d := 101) rfl rfl (congrArg Value.bool hb7) <| s_lss (m := (x8.1.length : Int)) (n := (x7.1.length : Int)) rfl rfl <| s_pickF (congrArg Value.bool hb7) rfl <| wpl_nil (nrm ⟨outP, rfl, congrArg Value.bool (or_f hb7), trivial⟩)
 rintro f7 w23 ho ⟨h15, ha⟩
 subst h15
 obtain ⟨u7, rfl⟩ := fr_of (N := 153) ho ha
 refine wpl_nil <| nrm <| wpc_if (t := (((((((x5.2 != 0) || (x6.2 != 0)) || (x7.2 != 0)) || (x8.2 != 0)) || ((x6.1.Wait.length : Int) != 0)) || ((x8.1.length : Int) != (w64 ((x3.1.L.length : Int) + (x3.1.Wait.length : Int))))) || (decide ((x8.1.length : Int) < (x7.1.length : Int))))) rfl (fun hc4 => ?_) (fun hc4 => ?_)
 · replace hm := ifT hc4 hm
   refine wpc_seq <| wpc_region <| s_asv (v := vb false) rfl <| wpl_nil <| nrm <| wpc_ret <| thR <| outRw fun we hpd => ?_
   replace S21 := St.pd S21 hpd
   obtain ⟨m13, l13, S22⟩ := St.drop S21 0
   replace h5 := h5.up l13
   replace h6 := h6.up l13
   replace h7 := h7.up l13
   replace h1 := h1.up l13
   replace h2 := h2.up l13
   replace h3 := h3.up l13
   replace a0h3 := a0h3.up l13
   replace a0h4 := a0h4.up l13
   replace a0h5 := a0h5.up l13
   replace L0 := Mem.tr L0 l13
   clear S21
   replace S22 : St _ ((row 2 v7 c1 x7.1.length) :: (bx b5 [vI x6.1.Id, vU x6.1.Key, vI x6.1.Delay, v4, v5, v6] 26) :: (bx b4 [vI x5.1.Log, vU x5.1.Key, vI x5.1.Delay] 40) :: (bx b3 [vI x3.2.1.Log, vI x3.2.1.At, vU x3.2.1.Leaf.1, vU x3.2.1.Leaf.2, vU x3.2.1.Sig.E, vU x3.2.1.Sig.S] 35) :: (bx b2 [vI x3.1.Id, vU x3.1.Key, vI x3.1.Delay, v1, v2, v3] 26) :: (bx b1 [vI a0.Id, vU a0.Key, vI a0.Delay, a0v3, a0v4, a0v5] 26) :: As) _ := S22
   obtain ⟨m14, l14, S23⟩ := St.drop S22 0
   replace h1 := h1.up l14
   replace h2 := h2.up l14
   replace h3 := h3.up l14
   replace a0h3 := a0h3.up l14
   replace a0h4 := a0h4.up l14
   replace a0h5 := a0h5.up l14
   replace L0 := Mem.tr L0 l14
   clear S22
   replace S23 : St _ ((bx b5 [vI x6.1.Id, vU x6.1.Key, vI x6.1.Delay, v4, v5, v6] 26) :: (bx b4 [vI x5.1.Log, vU x5.1.Key, vI x5.1.Delay] 40) :: (bx b3 [vI x3.2.1.Log, vI x3.2.1.At, vU x3.2.1.Leaf.1, vU x3.2.1.Leaf.2, vU x3.2.1.Sig.E, vU x3.2.1.Sig.S] 35) :: (bx b2 [vI x3.1.Id, vU x3.1.Key, vI x3.1.Delay, v1, v2, v3] 26) :: (bx b1 [vI a0.Id, vU a0.Key, vI a0.Delay, a0v3, a0v4, a0v5] 26) :: As) _ := S23
   obtain ⟨m15, l15, S24⟩ := St.drop S23 0
   replace h1 := h1.up l15
   replace h2 := h2.up l15
   replace h3 := h3.up l15
   replace a0h3 := a0h3.up l15
   replace a0h4 := a0h4.up l15
   replace a0h5 := a0h5.up l15
   replace L0 := Mem.tr L0 l15
   clear S23
   replace S24 : St _ ((bx b4 [vI x5.1.Log, vU x5.1.Key, vI x5.1.Delay] 40) :: (bx b3 [vI x3.2.1.Log, vI x3.2.1.At, vU x3.2.1.Leaf.1, vU x3.2.1.Leaf.2, vU x3.2.1.Sig.E, vU x3.2.1.Sig.S] 35) :: (bx b2 [vI x3.1.Id, vU x3.1.Key, vI x3.1.Delay, v1, v2, v3] 26) :: (bx b1 [vI a0.Id, vU a0.Key, vI a0.Delay, a0v3, a0v4, a0v5] 26) :: As) _ := S24
   obtain ⟨m16, l16, S25⟩ := St.drop S24 0
   replace h1 := h1.up l16
   replace h2 := h2.up l16
   replace h3 := h3.up l16
   replace a0h3 := a0h3.up l16
   replace a0h4 := a0h4.up l16
   replace a0h5 := a0h5.up l16
   replace L0 := Mem.tr L0 l16
   clear S24
   replace S25 : St _ ((bx b3 [vI x3.2.1.Log, vI x3.2.1.At, vU x3.2.1.Leaf.1, vU x3.2.1.Leaf.2, vU x3.2.1.Sig.E, vU x3.2.1.Sig.S] 35) :: (bx b2 [vI x3.1.Id, vU x3.1.Key, vI x3.1.Delay, v1, v2, v3] 26) :: (bx b1 [vI a0.Id, vU a0.Key, vI a0.Delay, a0v3, a0v4, a0v5] 26) :: As) _ := S25
   obtain ⟨m17, l17, S26⟩ := St.drop S25 0
   replace a0h3 := a0h3.up l17
   replace a0h4 := a0h4.up l17
   replace a0h5 := a0h5.up l17
   replace L0 := Mem.tr L0 l17
   clear S25
   replace S26 : St _ ((bx b2 [vI x3.1.Id, vU x3.1.Key, vI x3.1.Delay, v1, v2, v3] 26) :: (bx b1 [vI a0.Id, vU a0.Key, vI a0.Delay, a0v3, a0v4, a0v5] 26) :: As) _ := S26
   obtain ⟨m18, l18, S27⟩ := St.drop S26 0
   replace L0 := Mem.tr L0 l18
   clear S26
   replace S27 : St _ ((bx b1 [vI a0.Id, vU a0.Key, vI a0.Delay, a0v3, a0v4, a0v5] 26) :: As) _ := S27
   obtain ⟨m19, l19, S28⟩ := St.drop S27 0
   replace L0 := Mem.tr L0 l19
   clear S27
   replace S28 : St _ (As) _ := S28
   have e0 := Option.some.inj hm
   subst e0
   exact outR [_] rfl ⟨rfl, trivial⟩ ⟨_, L0, S28, rfl⟩
 replace hm := ifF hc4 hm
 refine wpc_skip <| nrm <| wpc_seq <| wpc_region <| s_asv (v := vb false) rfl <| wpl_nil <| nrm <| wpc_seq <| wpc_seq <| wpc_region <| s_asv (v := vI 0) rfl <| wpl_nil <| nrm ?_
 obtain ⟨x9, q9, hm⟩ := obind_some hm
 have L1 := Mem.rfl' m12
 refine wpc_join [6, 18, 19, 108, 109, 110, 111, 112, 113, 114, 115, 116, 117, 118, 119, 120, 121, 122, 123, 124, 125, 126, 127, 128, 129, 130, 131, 132, 133, 134, 135, 136, 137, 138] (fun f' w' => ∃ (M1 : Mem) (y1 : Bool), x9 = .inl y1 ∧ m12 ≤ M1 ∧ St M1 ((bx b5 [vI x6.1.Id, vU x6.1.Key, vI x6.1.Delay, v4, v5, v6] 26) :: (bx b4 [vI x5.1.Log, vU x5.1.Key, vI x5.1.Delay] 40) :: (bx b3 [vI x3.2.1.Log, vI x3.2.1.At, vU x3.2.1.Leaf.1, vU x3.2.1.Leaf.2, vU x3.2.1.Sig.E, vU x3.2.1.Sig.S] 35) :: (bx b2 [vI x3.1.Id, vU x3.1.Key, vI x3.1.Delay, v1, v2, v3] 26) :: (bx b1 [vI a0.Id, vU a0.Key, vI a0.Delay, a0v3, a0v4, a0v5] 26) :: As) w' ∧ AllAt f' [(18, vb y1)]) ?_ ?_
 · refine wpc_block <| wpc_rounds [6, 18, 19, 108, 109, 110, 111, 112, 113, 114, 115, 116, 117, 118, 119, 120, 121, 122, 123, 124, 125, 126, 127, 128, 129, 130, 131, 132, 133, 134, 135, 136, 137, 138] (fun n1 f' w' => ∃ (s1 : Bool × Int) (m57 : Mem), iter (m_law24_LogdPromises_b6 x3 x7 x8) n1 s1 = some x9 ∧ m12 ≤ m57 ∧ St m57 ((row 2 v8 c2 x8.1.length) :: (row 2 v7 c1 x7.1.length) :: (bx b5 [vI x6.1.Id, vU x6.1.Key, vI x6.1.Delay, v4, v5, v6] 26) :: (bx b4 [vI x5.1.Log, vU x5.1.Key, vI x5.1.Delay] 40) :: (bx b3 [vI x3.2.1.Log, vI x3.2.1.At, vU x3.2.1.Leaf.1, vU x3.2.1.Leaf.2, vU x3.2.1.Sig.E, vU x3.2.1.Sig.S] 35) :: (bx b2 [vI x3.1.Id, vU x3.1.Key, vI x3.1.Delay, v1, v2, v3] 26) :: (bx b1 [vI a0.Id, vU a0.Key, vI a0.Delay, a0v3, a0v4, a0v5] 26) :: As) w' ∧ AllAt f' [(18, vb s1.1), (19, vI s1.2)]) FUEL ⟨(false, 0), m12, q9, L1, S21, ⟨rfl, rfl, trivial⟩⟩ ?_
   rintro n1 f8 w24 ho ⟨s1, m20, q10, L3, S29, ha⟩
   obtain ⟨u8, rfl⟩ := fr_of (N := 153) ho ha
   clear ho ha
   replace a1h0 := a1h0.up L3
   replace h8 := RepL.up L3 h8
   replace h9 := RepL.up L3 h9
   replace h5 := h5.up L3
   replace h6 := h6.up L3
   replace h7 := h7.up L3
   replace h1 := h1.up L3
   replace h2 := h2.up L3
   replace h3 := h3.up L3
   replace a0h3 := a0h3.up L3
   replace a0h4 := a0h4.up L3
   replace a0h5 := a0h5.up L3
   have L2 := Mem.rfl' m20
   clear S21
   cases n1 with
   | zero => exact (iter_zero q10).elim
   | succ n1 =>
    obtain ⟨y2, q12, q11⟩ := iter_succ q10
    unfold m_law24_LogdPromises_b6 at q12
    refine wpc_seq <| wpc_seq <| wpc_region <| s_mvv (v := vI s1.2) rfl <| s_mvv (v := v8) rfl <| s_lenO (i := 0) S29 rfl rfl Try.underlying45 <| s_lss (m := s1.2) (n := (x8.1.length : Int)) rfl rfl <| wpl_nil <| nrm <| wpc_if (t := (decide (s1.2 < (x8.1.length : Int)))) rfl (fun hc5 => ?_) (fun hc5 => ?_)
    · replace q12 := ifT hc5 q12
      refine wpc_skip <| nrm <| wpc_seq <| wpc_block <| wpc_seq ?_
      obtain ⟨x11, q14, q12⟩ := obind_some q12
      have HM : MonoAll [(114, fun (M : Mem) (v : Value) => v = vb s1.1), (115, fun (M : Mem) (v : Value) => v = vb s1.1), (116, fun (M : Mem) (v : Value) => ((!s1.1) = true → v = v8) ∧ ((!s1.1) = false → v = undef)), (117, fun (M : Mem) (v : Value) => ((!s1.1) = true → v = vI s1.2) ∧ ((!s1.1) = false → v = undef)), (118, fun (M : Mem) (v : Value) => ((!s1.1) = true → ∃ (p1 : Value), v = p1 ∧ PtO v8 p1 (s1.2.toNat * 2)) ∧ ((!s1.1) = false → v = undef)), (119, fun (M : Mem) (v : Value) => ((!s1.1) = true → v = .agg #[vU x11.1, vU x11.2]) ∧ ((!s1.1) = false → v = undef)), (120, fun (M : Mem) (v : Value) => ((!s1.1) = true → v = pt b3 2) ∧ ((!s1.1) = false → v = undef)), (121, fun (M : Mem) (v : Value) => ((!s1.1) = true → v = .agg #[vU x3.2.1.Leaf.1, vU x3.2.1.Leaf.2]) ∧ ((!s1.1) = false → v = undef)), (122, fun (M : Mem) (v : Value) => ((!s1.1) = true → v = vb (eqSum x11 x3.2.1.Leaf)) ∧ ((!s1.1) = false → v = undef)), (123, fun (M : Mem) (v : Value) => v = vb (s1.1 || (eqSum x11 x3.2.1.Leaf)))] := ⟨(fun _ _ _ _ h => h), (fun _ _ _ _ h => h), (fun _ _ _ _ h => h), (fun _ _ _ _ h => h), (fun _ _ _ l h => ⟨fun c => let ⟨p1, e, h16⟩ := h.1 c; ⟨p1, e, h16⟩, h.2⟩), (fun _ _ _ _ h => h), (fun _ _ _ _ h => h), (fun _ _ _ _ h => h), (fun _ _ _ _ h => h), (fun _ _ _ _ h => h), trivial⟩
      refine wpc_flowG HM 10 mixed rfl rfl rfl [114, 115, 116, 117, 118, 119, 120, 121, 122, 123] (fun L f M w => St M ((row 2 v8 c2 x8.1.length) :: (row 2 v7 c1 x7.1.length) :: (bx b5 [vI x6.1.Id, vU x6.1.Key, vI x6.1.Delay, v4, v5, v6] 26) :: (bx b4 [vI x5.1.Log, vU x5.1.Key, vI x5.1.Delay] 40) :: (bx b3 [vI x3.2.1.Log, vI x3.2.1.At, vU x3.2.1.Leaf.1, vU x3.2.1.Leaf.2, vU x3.2.1.Sig.E, vU x3.2.1.Sig.S] 35) :: (bx b2 [vI x3.1.Id, vU x3.1.Key, vI x3.1.Delay, v1, v2, v3] 26) :: (bx b1 [vI a0.Id, vU a0.Key, vI a0.Delay, a0v3, a0v4, a0v5] 26) :: As) w) (St.drew S29 _) ?_ ?_
      · refine ⟨?_, ?_, ?_, ?_, ?_, ?_, ?_, ?_, ?_, ?_, trivial⟩
        · intro L f9 w25 hL hd hc ⟨m21, L4, S30, K, hO⟩
          obtain ⟨u9, rfl⟩ := fr_of (N := 153) (L := []) hO trivial
          exact s_mvv (v := vb s1.1) rfl <| oS HM L4 S30 rfl K rfl rfl rfl outP
        · intro L f10 w26 hL hd hc ⟨m22, L6, S31, K, hO⟩
          obtain ⟨u10, rfl⟩ := fr_of (N := 153) (L := [(114, _)]) hO ⟨K 0 (dep hd rfl), trivial⟩
          exact s_mvv (v := vb s1.1) rfl <| oS HM L6 S31 rfl K rfl rfl rfl outP
        · intro L f11 w27 hL hd hc ⟨m23, L8, S32, K, hO⟩
          rcases bool_tf s1.1 with hb8 | hb8
          · obtain ⟨u12, rfl⟩ := fr_of (N := 153) (L := [(115, _)]) hO ⟨K 1 (dep hd rfl), trivial⟩
            exact wpl_no (d := 115) rfl rfl (congrArg Value.bool hb8) <| oS HM L8 S32 rfl K rfl rfl ⟨fun hx => tf hx (not_f hb8), fun _ => rfl⟩ outP
          obtain ⟨u11, rfl⟩ := fr_of (N := 153) (L := [(115, _)]) hO ⟨K 1 (dep hd rfl), trivial⟩
          exact wpl_yes (d := 115) rfl rfl (congrArg Value.bool hb8) <| s_mvv (v := v8) rfl <| oS HM L8 S32 rfl K rfl rfl ⟨fun _ => rfl, fun hx => tf (not_t hb8) hx⟩ outP
        · intro L f12 w28 hL hd hc ⟨m24, L11, S33, K, hO⟩
          rcases bool_tf s1.1 with hb9 | hb9
          · obtain ⟨u14, rfl⟩ := fr_of (N := 153) (L := [(115, _)]) hO ⟨K 1 (dep hd rfl), trivial⟩
            exact wpl_no (d := 115) rfl rfl (congrArg Value.bool hb9) <| oS HM L11 S33 rfl K rfl rfl ⟨fun hx => tf hx (not_f hb9), fun _ => rfl⟩ outP
          obtain ⟨u13, rfl⟩ := fr_of (N := 153) (L := [(115, _)]) hO ⟨K 1 (dep hd rfl), trivial⟩
          exact wpl_yes (d := 115) rfl rfl (congrArg Value.bool hb9) <| s_mvv (v := vI s1.2) rfl <| oS HM L11 S33 rfl K rfl rfl ⟨fun _ => rfl, fun hx => tf (not_t hb9) hx⟩ outP
        · intro L f13 w29 hL hd hc ⟨m25, L14, S34, K, hO⟩
          rcases bool_tf s1.1 with hb10 | hb10
          · obtain ⟨u16, rfl⟩ := fr_of (N := 153) (L := [(115, _)]) hO ⟨K 1 (dep hd rfl), trivial⟩
            exact wpl_no (d := 115) rfl rfl (congrArg Value.bool hb10) <| oS HM L14 S34 rfl K rfl rfl ⟨fun hx => tf hx (not_f hb10), fun _ => rfl⟩ outP
          obtain ⟨u15, rfl⟩ := fr_of (N := 153) (L := [(115, _), (116, _), (117, _)]) hO ⟨K 1 (dep hd rfl), (K 2 (dep hd rfl)).1 (not_t hb10), (K 3 (dep hd rfl)).1 (not_t hb10), trivial⟩
          refine wpl_yes (d := 115) rfl rfl (congrArg Value.bool hb10) ?_
          replace q14 := gu_t (not_t hb10) q14
          exact s_idxO (i := 0) (j := s1.2) S34 rfl rfl rfl (idx_rng q14).1 (idx_rng q14).2 Try.underlying45 Try.sizeOf31 fun p1 h16 => oS HM L14 S34 rfl K rfl rfl ⟨fun _ => ⟨p1, rfl, h16⟩, fun hx => tf (not_t hb10) hx⟩ outP
        · intro L f14 w30 hL hd hc ⟨m26, L17, S35, K, hO⟩
          rcases bool_tf s1.1 with hb11 | hb11
          · obtain ⟨u18, rfl⟩ := fr_of (N := 153) (L := [(115, _)]) hO ⟨K 1 (dep hd rfl), trivial⟩
            exact wpl_no (d := 115) rfl rfl (congrArg Value.bool hb11) <| oS HM L17 S35 rfl K rfl rfl ⟨fun hx => tf hx (not_f hb11), fun _ => rfl⟩ outP
          obtain ⟨v9, e11, h17⟩ := (K 4 (dep hd rfl)).1 (not_t hb11)
          obtain ⟨u17, rfl⟩ := fr_of (N := 153) (L := [(115, _), (118, _)]) hO ⟨K 1 (dep hd rfl), e11, trivial⟩
          replace h9 := RepL.up L17 h9
          refine wpl_yes (d := 115) rfl rfl (congrArg Value.bool hb11) ?_
          have e12 := rep_arr2_UInt64 (RepL.getI h9 (gu_t (not_t hb11) q14))
          exact s_ldO (i := 0) (off := s1.2.toNat * 2) (d := [vU x11.1, vU x11.2]) S35 rfl h17 rfl e12 Try.isAgg31 Try.sizeOf31 (fun h => by cases h) <| oS HM L17 S35 rfl K rfl rfl ⟨fun _ => rfl, fun hx => tf (not_t hb11) hx⟩ outP
        · intro L f15 w31 hL hd hc ⟨m27, L20, S36, K, hO⟩
          rcases bool_tf s1.1 with hb12 | hb12
          · obtain ⟨u20, rfl⟩ := fr_of (N := 153) (L := [(115, _)]) hO ⟨K 1 (dep hd rfl), trivial⟩
            exact wpl_no (d := 115) rfl rfl (congrArg Value.bool hb12) <| oS HM L20 S36 rfl K rfl rfl ⟨fun hx => tf hx (not_f hb12), fun _ => rfl⟩ outP
          obtain ⟨u19, rfl⟩ := fr_of (N := 153) (L := [(115, _)]) hO ⟨K 1 (dep hd rfl), trivial⟩
          exact wpl_yes (d := 115) rfl rfl (congrArg Value.bool hb12) <| s_fld (n := 1) rfl Try.underlying35 rfl rfl Try.sizeOf31 <| oS HM L20 S36 rfl K rfl rfl ⟨fun _ => rfl, fun hx => tf (not_t hb12) hx⟩ outP
        · intro L f16 w32 hL hd hc ⟨m28, L23, S37, K, hO⟩
          rcases bool_tf s1.1 with hb13 | hb13
          · obtain ⟨u22, rfl⟩ := fr_of (N := 153) (L := [(115, _)]) hO ⟨K 1 (dep hd rfl), trivial⟩
            exact wpl_no (d := 115) rfl rfl (congrArg Value.bool hb13) <| oS HM L23 S37 rfl K rfl rfl ⟨fun hx => tf hx (not_f hb13), fun _ => rfl⟩ outP
          obtain ⟨u21, rfl⟩ := fr_of (N := 153) (L := [(115, _), (120, _)]) hO ⟨K 1 (dep hd rfl), (K 6 (dep hd rfl)).1 (not_t hb13), trivial⟩
          exact wpl_yes (d := 115) rfl rfl (congrArg Value.bool hb13) <| s_ld (i := 4) (cs := [vU x3.2.1.Leaf.1, vU x3.2.1.Leaf.2]) S37 rfl rfl Try.isAgg31 Try.sizeOf31 rfl (fun h => by cases h) <| oS HM L23 S37 rfl K rfl rfl ⟨fun _ => rfl, fun hx => tf (not_t hb13) hx⟩ outP
        · intro L f17 w33 hL hd hc ⟨m29, L26, S38, K, hO⟩
          rcases bool_tf s1.1 with hb14 | hb14
          · obtain ⟨u24, rfl⟩ := fr_of (N := 153) (L := [(115, _)]) hO ⟨K 1 (dep hd rfl), trivial⟩
            exact wpl_no (d := 115) rfl rfl (congrArg Value.bool hb14) <| oS HM L26 S38 rfl K rfl rfl ⟨fun hx => tf hx (not_f hb14), fun _ => rfl⟩ outP
          obtain ⟨u23, rfl⟩ := fr_of (N := 153) (L := [(115, _), (119, _), (121, _)]) hO ⟨K 1 (dep hd rfl), (K 5 (dep hd rfl)).1 (not_t hb14), (K 7 (dep hd rfl)).1 (not_t hb14), trivial⟩
          exact wpl_yes (d := 115) rfl rfl (congrArg Value.bool hb14) <| s_eqlSum (p := x11) (q := x3.2.1.Leaf) rfl rfl Try.underlying31 Try.underlying22 Try.sizeOf22 Try.isAgg22 Try.eqGuardType31 <| oS HM L26 S38 rfl K rfl rfl ⟨fun _ => rfl, fun hx => tf (not_t hb14) hx⟩ outP
        · intro L f18 w34 hL hd hc ⟨m30, L29, S39, K, hO⟩
          rcases bool_tf s1.1 with hb15 | hb15
          · obtain ⟨u25, rfl⟩ := fr_of (N := 153) (L := [(115, _)]) hO ⟨K 1 (dep hd rfl), trivial⟩
            exact s_pickT (congrArg Value.bool hb15) rfl <| oS HM L29 S39 rfl K rfl rfl (congrArg Value.bool (or_t hb15)) outP
          · obtain ⟨u26, rfl⟩ := fr_of (N := 153) (L := [(115, _), (122, _)]) hO ⟨K 1 (dep hd rfl), (K 8 (dep hd rfl)).1 (not_t hb15), trivial⟩
            exact s_pickF (congrArg Value.bool hb15) rfl <| oS HM L29 S39 rfl K rfl rfl (congrArg Value.bool (or_f hb15)) outP
      intro L f19 w35 hall ⟨m31, L32, S40, K, hO⟩
      have d9 : L 9 = true := hall 9 (by decide)
      obtain ⟨u27, rfl⟩ := fr_of (N := 153) (L := [(123, _)]) hO ⟨K 9 d9, trivial⟩
      replace S40 : St _ ((row 2 v8 c2 x8.1.length) :: (row 2 v7 c1 x7.1.length) :: (bx b5 [vI x6.1.Id, vU x6.1.Key, vI x6.1.Delay, v4, v5, v6] 26) :: (bx b4 [vI x5.1.Log, vU x5.1.Key, vI x5.1.Delay] 40) :: (bx b3 [vI x3.2.1.Log, vI x3.2.1.At, vU x3.2.1.Leaf.1, vU x3.2.1.Leaf.2, vU x3.2.1.Sig.E, vU x3.2.1.Sig.S] 35) :: (bx b2 [vI x3.1.Id, vU x3.1.Key, vI x3.1.Delay, v1, v2, v3] 26) :: (bx b1 [vI a0.Id, vU a0.Key, vI a0.Delay, a0v3, a0v4, a0v5] 26) :: As) _ := S40
      replace a1h0 := a1h0.up L32
      replace h8 := RepL.up L32 h8
      replace h9 := RepL.up L32 h9
      replace h5 := h5.up L32
      replace h6 := h6.up L32
      replace h7 := h7.up L32
      replace h1 := h1.up L32
      replace h2 := h2.up L32
      replace h3 := h3.up L32
      replace a0h3 := a0h3.up L32
      replace a0h4 := a0h4.up L32
      replace a0h5 := a0h5.up L32
      replace L2 := Mem.tr L2 L32
      clear S29
      obtain ⟨x12, q15, q12⟩ := bnd_eq q12
      refine s_asv (v := vb x12) (congrArg (fun z => vb z) q15.symm) <| wpl_nil <| nrm <| wpc_seq ?_
      obtain ⟨x13, q16, q12⟩ := obind_some q12
      obtain ⟨x14, q17, q12⟩ := obind_some q12
      have HM : MonoAll [(124, fun (M : Mem) (v : Value) => v = vI s1.2), (125, fun (M : Mem) (v : Value) => v = v7), (126, fun (M : Mem) (v : Value) => v = vI (x7.1.length : Int)), (127, fun (M : Mem) (v : Value) => v = vb (decide (s1.2 < (x7.1.length : Int)))), (128, fun (M : Mem) (v : Value) => v = vb (decide (s1.2 < (x7.1.length : Int)))), (129, fun (M : Mem) (v : Value) => ((decide (s1.2 < (x7.1.length : Int))) = true → v = v8) ∧ ((decide (s1.2 < (x7.1.length : Int))) = false → v = undef)), (130, fun (M : Mem) (v : Value) => ((decide (s1.2 < (x7.1.length : Int))) = true → v = vI s1.2) ∧ ((decide (s1.2 < (x7.1.length : Int))) = false → v = undef)), (131, fun (M : Mem) (v : Value) => ((decide (s1.2 < (x7.1.length : Int))) = true → ∃ (p2 : Value), v = p2 ∧ PtO v8 p2 (s1.2.toNat * 2)) ∧ ((decide (s1.2 < (x7.1.length : Int))) = false → v = undef)), (132, fun (M : Mem) (v : Value) => ((decide (s1.2 < (x7.1.length : Int))) = true → v = .agg #[vU x13.1, vU x13.2]) ∧ ((decide (s1.2 < (x7.1.length : Int))) = false → v = undef)), (133, fun (M : Mem) (v : Value) => ((decide (s1.2 < (x7.1.length : Int))) = true → v = v7) ∧ ((decide (s1.2 < (x7.1.length : Int))) = false → v = undef)), (134, fun (M : Mem) (v : Value) => ((decide (s1.2 < (x7.1.length : Int))) = true → v = vI s1.2) ∧ ((decide (s1.2 < (x7.1.length : Int))) = false → v = undef)), (135, fun (M : Mem) (v : Value) => ((decide (s1.2 < (x7.1.length : Int))) = true → ∃ (p3 : Value), v = p3 ∧ PtO v7 p3 (s1.2.toNat * 2)) ∧ ((decide (s1.2 < (x7.1.length : Int))) = false → v = undef)), (136, fun (M : Mem) (v : Value) => ((decide (s1.2 < (x7.1.length : Int))) = true → v = .agg #[vU x14.1, vU x14.2]) ∧ ((decide (s1.2 < (x7.1.length : Int))) = false → v = undef)), (137, fun (M : Mem) (v : Value) => ((decide (s1.2 < (x7.1.length : Int))) = true → v = vb (!eqSum x13 x14)) ∧ ((decide (s1.2 < (x7.1.length : Int))) = false → v = undef)), (138, fun (M : Mem) (v : Value) => v = vb ((decide (s1.2 < (x7.1.length : Int))) && (!eqSum x13 x14)))] := ⟨(fun _ _ _ _ h => h), (fun _ _ _ _ h => h), (fun _ _ _ _ h => h), (fun _ _ _ _ h => h), (fun _ _ _ _ h => h), (fun _ _ _ _ h => h), (fun _ _ _ _ h => h), (fun _ _ _ l h => ⟨fun c => let ⟨p2, e, h18⟩ := h.1 c; ⟨p2, e, h18⟩, h.2⟩), (fun _ _ _ _ h => h), (fun _ _ _ _ h => h), (fun _ _ _ _ h => h), (fun _ _ _ l h => ⟨fun c => let ⟨p3, e, h20⟩ := h.1 c; ⟨p3, e, h20⟩, h.2⟩), (fun _ _ _ _ h => h), (fun _ _ _ _ h => h), (fun _ _ _ _ h => h), trivial⟩
      refine wpc_flowG HM 15 mixed rfl rfl rfl [124, 125, 126, 127, 128, 129, 130, 131, 132, 133, 134, 135, 136, 137, 138] (fun L f M w => St M ((row 2 v8 c2 x8.1.length) :: (row 2 v7 c1 x7.1.length) :: (bx b5 [vI x6.1.Id, vU x6.1.Key, vI x6.1.Delay, v4, v5, v6] 26) :: (bx b4 [vI x5.1.Log, vU x5.1.Key, vI x5.1.Delay] 40) :: (bx b3 [vI x3.2.1.Log, vI x3.2.1.At, vU x3.2.1.Leaf.1, vU x3.2.1.Leaf.2, vU x3.2.1.Sig.E, vU x3.2.1.Sig.S] 35) :: (bx b2 [vI x3.1.Id, vU x3.1.Key, vI x3.1.Delay, v1, v2, v3] 26) :: (bx b1 [vI a0.Id, vU a0.Key, vI a0.Delay, a0v3, a0v4, a0v5] 26) :: As) w) (St.drew S40 _) ?_ ?_
      · refine ⟨?_, ?_, ?_, ?_, ?_, ?_, ?_, ?_, ?_, ?_, ?_, ?_, ?_, ?_, ?_, trivial⟩
        · intro L f20 w36 hL hd hc ⟨m32, L33, S41, K, hO⟩
          obtain ⟨u28, rfl⟩ := fr_of (N := 153) (L := []) hO trivial
          exact s_mvv (v := vI s1.2) rfl <| oS HM L33 S41 rfl K rfl rfl rfl outP
        · intro L f21 w37 hL hd hc ⟨m33, L35, S42, K, hO⟩
          obtain ⟨u29, rfl⟩ := fr_of (N := 153) (L := []) hO trivial
          exact s_mvv (v := v7) rfl <| oS HM L35 S42 rfl K rfl rfl rfl outP
        · intro L f22 w38 hL hd hc ⟨m34, L37, S43, K, hO⟩
          obtain ⟨u30, rfl⟩ := fr_of (N := 153) (L := [(125, _)]) hO ⟨K 1 (dep hd rfl), trivial⟩
          exact s_lenO (i := 1) S43 rfl rfl Try.underlying45 <| oS HM L37 S43 rfl K rfl rfl rfl outP
        · intro L f23 w39 hL hd hc ⟨m35, L39, S44, K, hO⟩
          obtain ⟨u31, rfl⟩ := fr_of (N := 153) (L := [(124, _), (126, _)]) hO ⟨K 0 (dep hd rfl), K 2 (dep hd rfl), trivial⟩
          exact s_lss (m := s1.2) (n := (x7.1.length : Int)) rfl rfl <| oS HM L39 S44 rfl K rfl rfl rfl outP
        · intro L f24 w40 hL hd hc ⟨m36, L41, S45, K, hO⟩
          obtain ⟨u32, rfl⟩ := fr_of (N := 153) (L := [(127, _)]) hO ⟨K 3 (dep hd rfl), trivial⟩
          exact s_mvv (v := vb (decide (s1.2 < (x7.1.length : Int)))) rfl <| oS HM L41 S45 rfl K rfl rfl rfl outP
        · intro L f25 w41 hL hd hc ⟨m37, L43, S46, K, hO⟩
          rcases bool_tf (decide (s1.2 < (x7.1.length : Int))) with hb16 | hb16
          · obtain ⟨u33, rfl⟩ := fr_of (N := 153) (L := [(128, _)]) hO ⟨K 4 (dep hd rfl), trivial⟩
            exact wpl_yes (d := 128) rfl rfl (congrArg Value.bool hb16) <| s_mvv (v := v8) rfl <| oS HM L43 S46 rfl K rfl rfl ⟨fun _ => rfl, fun hx => tf hb16 hx⟩ outP
          obtain ⟨u34, rfl⟩ := fr_of (N := 153) (L := [(128, _)]) hO ⟨K 4 (dep hd rfl), trivial⟩
          exact wpl_no (d := 128) rfl rfl (congrArg Value.bool hb16) <| oS HM L43 S46 rfl K rfl rfl ⟨fun hx => tf hx hb16, fun _ => rfl⟩ outP
        · intro L f26 w42 hL hd hc ⟨m38, L46, S47, K, hO⟩
          rcases bool_tf (decide (s1.2 < (x7.1.length : Int))) with hb17 | hb17
          · obtain ⟨u35, rfl⟩ := fr_of (N := 153) (L := [(128, _)]) hO ⟨K 4 (dep hd rfl), trivial⟩
            exact wpl_yes (d := 128) rfl rfl (congrArg Value.bool hb17) <| s_mvv (v := vI s1.2) rfl <| oS HM L46 S47 rfl K rfl rfl ⟨fun _ => rfl, fun hx => tf hb17 hx⟩ outP
          obtain ⟨u36, rfl⟩ := fr_of (N := 153) (L := [(128, _)]) hO ⟨K 4 (dep hd rfl), trivial⟩
          exact wpl_no (d := 128) rfl rfl (congrArg Value.bool hb17) <| oS HM L46 S47 rfl K rfl rfl ⟨fun hx => tf hx hb17, fun _ => rfl⟩ outP
        · intro L f27 w43 hL hd hc ⟨m39, L49, S48, K, hO⟩
          rcases bool_tf (decide (s1.2 < (x7.1.length : Int))) with hb18 | hb18
          · obtain ⟨u37, rfl⟩ := fr_of (N := 153) (L := [(128, _), (129, _), (130, _)]) hO ⟨K 4 (dep hd rfl), (K 5 (dep hd rfl)).1 hb18, (K 6 (dep hd rfl)).1 hb18, trivial⟩
            refine wpl_yes (d := 128) rfl rfl (congrArg Value.bool hb18) ?_
            replace q16 := gu_t hb18 q16
            exact s_idxO (i := 0) (j := s1.2) S48 rfl rfl rfl (idx_rng q16).1 (idx_rng q16).2 Try.underlying45 Try.sizeOf31 fun p2 h18 => oS HM L49 S48 rfl K rfl rfl ⟨fun _ => ⟨p2, rfl, h18⟩, fun hx => tf hb18 hx⟩ outP
          obtain ⟨u38, rfl⟩ := fr_of (N := 153) (L := [(128, _)]) hO ⟨K 4 (dep hd rfl), trivial⟩
          exact wpl_no (d := 128) rfl rfl (congrArg Value.bool hb18) <| oS HM L49 S48 rfl K rfl rfl ⟨fun hx => tf hx hb18, fun _ => rfl⟩ outP
        · intro L f28 w44 hL hd hc ⟨m40, L52, S49, K, hO⟩
          rcases bool_tf (decide (s1.2 < (x7.1.length : Int))) with hb19 | hb19
          · obtain ⟨v10, e40, h19⟩ := (K 7 (dep hd rfl)).1 hb19
            obtain ⟨u39, rfl⟩ := fr_of (N := 153) (L := [(128, _), (131, _)]) hO ⟨K 4 (dep hd rfl), e40, trivial⟩
            replace h9 := RepL.up L52 h9
            refine wpl_yes (d := 128) rfl rfl (congrArg Value.bool hb19) ?_
            have e41 := rep_arr2_UInt64 (RepL.getI h9 (gu_t hb19 q16))
            exact s_ldO (i := 0) (off := s1.2.toNat * 2) (d := [vU x13.1, vU x13.2]) S49 rfl h19 rfl e41 Try.isAgg31 Try.sizeOf31 (fun h => by cases h) <| oS HM L52 S49 rfl K rfl rfl ⟨fun _ => rfl, fun hx => tf hb19 hx⟩ outP
          obtain ⟨u40, rfl⟩ := fr_of (N := 153) (L := [(128, _)]) hO ⟨K 4 (dep hd rfl), trivial⟩
          exact wpl_no (d := 128) rfl rfl (congrArg Value.bool hb19) <| oS HM L52 S49 rfl K rfl rfl ⟨fun hx => tf hx hb19, fun _ => rfl⟩ outP
        · intro L f29 w45 hL hd hc ⟨m41, L55, S50, K, hO⟩
          rcases bool_tf (decide (s1.2 < (x7.1.length : Int))) with hb20 | hb20
          · obtain ⟨u41, rfl⟩ := fr_of (N := 153) (L := [(128, _)]) hO ⟨K 4 (dep hd rfl), trivial⟩
            exact wpl_yes (d := 128) rfl rfl (congrArg Value.bool hb20) <| s_mvv (v := v7) rfl <| oS HM L55 S50 rfl K rfl rfl ⟨fun _ => rfl, fun hx => tf hb20 hx⟩ outP
          obtain ⟨u42, rfl⟩ := fr_of (N := 153) (L := [(128, _)]) hO ⟨K 4 (dep hd rfl), trivial⟩
          exact wpl_no (d := 128) rfl rfl (congrArg Value.bool hb20) <| oS HM L55 S50 rfl K rfl rfl ⟨fun hx => tf hx hb20, fun _ => rfl⟩ outP
        · intro L f30 w46 hL hd hc ⟨m42, L58, S51, K, hO⟩
          rcases bool_tf (decide (s1.2 < (x7.1.length : Int))) with hb21 | hb21
          · obtain ⟨u43, rfl⟩ := fr_of (N := 153) (L := [(128, _)]) hO ⟨K 4 (dep hd rfl), trivial⟩
            exact wpl_yes (d := 128) rfl rfl (congrArg Value.bool hb21) <| s_mvv (v := vI s1.2) rfl <| oS HM L58 S51 rfl K rfl rfl ⟨fun _ => rfl, fun hx => tf hb21 hx⟩ outP
          obtain ⟨u44, rfl⟩ := fr_of (N := 153) (L := [(128, _)]) hO ⟨K 4 (dep hd rfl), trivial⟩
          exact wpl_no (d := 128) rfl rfl (congrArg Value.bool hb21) <| oS HM L58 S51 rfl K rfl rfl ⟨fun hx => tf hx hb21, fun _ => rfl⟩ outP
        · intro L f31 w47 hL hd hc ⟨m43, L61, S52, K, hO⟩
          rcases bool_tf (decide (s1.2 < (x7.1.length : Int))) with hb22 | hb22
          · obtain ⟨u45, rfl⟩ := fr_of (N := 153) (L := [(128, _), (133, _), (134, _)]) hO ⟨K 4 (dep hd rfl), (K 9 (dep hd rfl)).1 hb22, (K 10 (dep hd rfl)).1 hb22, trivial⟩
            refine wpl_yes (d := 128) rfl rfl (congrArg Value.bool hb22) ?_
            replace q17 := gu_t hb22 q17
            exact s_idxO (i := 1) (j := s1.2) S52 rfl rfl rfl (idx_rng q17).1 (idx_rng q17).2 Try.underlying45 Try.sizeOf31 fun p3 h20 => oS HM L61 S52 rfl K rfl rfl ⟨fun _ => ⟨p3, rfl, h20⟩, fun hx => tf hb22 hx⟩ outP
          obtain ⟨u46, rfl⟩ := fr_of (N := 153) (L := [(128, _)]) hO ⟨K 4 (dep hd rfl), trivial⟩
          exact wpl_no (d := 128) rfl rfl (congrArg Value.bool hb22) <| oS HM L61 S52 rfl K rfl rfl ⟨fun hx => tf hx hb22, fun _ => rfl⟩ outP
        · intro L f32 w48 hL hd hc ⟨m44, L64, S53, K, hO⟩
          rcases bool_tf (decide (s1.2 < (x7.1.length : Int))) with hb23 | hb23
          · obtain ⟨v11, e52, h21⟩ := (K 11 (dep hd rfl)).1 hb23
            obtain ⟨u47, rfl⟩ := fr_of (N := 153) (L := [(128, _), (135, _)]) hO ⟨K 4 (dep hd rfl), e52, trivial⟩
            replace h8 := RepL.up L64 h8
            refine wpl_yes (d := 128) rfl rfl (congrArg Value.bool hb23) ?_
            have e53 := rep_arr2_UInt64 (RepL.getI h8 (gu_t hb23 q17))
            exact s_ldO (i := 1) (off := s1.2.toNat * 2) (d := [vU x14.1, vU x14.2]) S53 rfl h21 rfl e53 Try.isAgg31 Try.sizeOf31 (fun h => by cases h) <| oS HM L64 S53 rfl K rfl rfl ⟨fun _ => rfl, fun hx => tf hb23 hx⟩ outP
          obtain ⟨u48, rfl⟩ := fr_of (N := 153) (L := [(128, _)]) hO ⟨K 4 (dep hd rfl), trivial⟩
          exact wpl_no (d := 128) rfl rfl (congrArg Value.bool hb23) <| oS HM L64 S53 rfl K rfl rfl ⟨fun hx => tf hx hb23, fun _ => rfl⟩ outP
        · intro L f33 w49 hL hd hc ⟨m45, L67, S54, K, hO⟩
          rcases bool_tf (decide (s1.2 < (x7.1.length : Int))) with hb24 | hb24
          · obtain ⟨u49, rfl⟩ := fr_of (N := 153) (L := [(128, _), (132, _), (136, _)]) hO ⟨K 4 (dep hd rfl), (K 8 (dep hd rfl)).1 hb24, (K 12 (dep hd rfl)).1 hb24, trivial⟩
            exact wpl_yes (d := 128) rfl rfl (congrArg Value.bool hb24) <| s_neqSum (p := x13) (q := x14) rfl rfl Try.underlying31 Try.underlying22 Try.sizeOf22 Try.isAgg22 Try.eqGuardType31 <| oS HM L67 S54 rfl K rfl rfl ⟨fun _ => rfl, fun hx => tf hb24 hx⟩ outP
          obtain ⟨u50, rfl⟩ := fr_of (N := 153) (L := [(128, _)]) hO ⟨K 4 (dep hd rfl), trivial⟩
          exact wpl_no (d := 128) rfl rfl (congrArg Value.bool hb24) <| oS HM L67 S54 rfl K rfl rfl ⟨fun hx => tf hx hb24, fun _ => rfl⟩ outP
        · intro L f34 w50 hL hd hc ⟨m46, L70, S55, K, hO⟩
          rcases bool_tf (decide (s1.2 < (x7.1.length : Int))) with hb25 | hb25
          · obtain ⟨u51, rfl⟩ := fr_of (N := 153) (L := [(128, _), (137, _)]) hO ⟨K 4 (dep hd rfl), (K 13 (dep hd rfl)).1 hb25, trivial⟩
            exact s_pickT (congrArg Value.bool hb25) rfl <| oS HM L70 S55 rfl K rfl rfl (congrArg Value.bool (and_t hb25)) outP
          · obtain ⟨u52, rfl⟩ := fr_of (N := 153) (L := [(128, _)]) hO ⟨K 4 (dep hd rfl), trivial⟩
            exact s_pickF (congrArg Value.bool hb25) rfl <| oS HM L70 S55 rfl K rfl rfl (congrArg Value.bool (and_f hb25)) outP
      intro L f35 w51 hall ⟨m47, L73, S56, K, hO⟩
      have d14 : L 14 = true := hall 14 (by decide)
      obtain ⟨u53, rfl⟩ := fr_of (N := 153) (L := [(138, _)]) hO ⟨K 14 d14, trivial⟩
      replace S56 : St _ ((row 2 v8 c2 x8.1.length) :: (row 2 v7 c1 x7.1.length) :: (bx b5 [vI x6.1.Id, vU x6.1.Key, vI x6.1.Delay, v4, v5, v6] 26) :: (bx b4 [vI x5.1.Log, vU x5.1.Key, vI x5.1.Delay] 40) :: (bx b3 [vI x3.2.1.Log, vI x3.2.1.At, vU x3.2.1.Leaf.1, vU x3.2.1.Leaf.2, vU x3.2.1.Sig.E, vU x3.2.1.Sig.S] 35) :: (bx b2 [vI x3.1.Id, vU x3.1.Key, vI x3.1.Delay, v1, v2, v3] 26) :: (bx b1 [vI a0.Id, vU a0.Key, vI a0.Delay, a0v3, a0v4, a0v5] 26) :: As) _ := S56
      replace h8 := RepL.up L73 h8
      replace h5 := h5.up L73
      replace h6 := h6.up L73
      replace h7 := h7.up L73
      replace h1 := h1.up L73
      replace h2 := h2.up L73
      replace h3 := h3.up L73
      replace a0h3 := a0h3.up L73
      replace a0h4 := a0h4.up L73
      replace a0h5 := a0h5.up L73
      replace L2 := Mem.tr L2 L73
      clear S40
      refine wpl_nil <| nrm <| wpc_if (t := ((decide (s1.2 < (x7.1.length : Int))) && (!eqSum x13 x14))) rfl (fun hc6 => ?_) (fun hc6 => ?_)
      · replace q12 := ifT hc6 q12
        refine wpc_seq <| wpc_region <| s_asv (v := vb false) rfl <| wpl_nil <| nrm <| wpc_ret <| blR <| thR <| thR <| blR <| thR <| outRw fun we hpd => ?_
        replace S56 := St.pd S56 hpd
        obtain ⟨m48, l20, S57⟩ := St.drop S56 0
        replace h5 := h5.up l20
        replace h6 := h6.up l20
        replace h7 := h7.up l20
        replace h1 := h1.up l20
        replace h2 := h2.up l20
        replace h3 := h3.up l20
        replace a0h3 := a0h3.up l20
        replace a0h4 := a0h4.up l20
        replace a0h5 := a0h5.up l20
        replace L2 := Mem.tr L2 l20
        clear S56
        replace S57 : St _ ((row 2 v7 c1 x7.1.length) :: (bx b5 [vI x6.1.Id, vU x6.1.Key, vI x6.1.Delay, v4, v5, v6] 26) :: (bx b4 [vI x5.1.Log, vU x5.1.Key, vI x5.1.Delay] 40) :: (bx b3 [vI x3.2.1.Log, vI x3.2.1.At, vU x3.2.1.Leaf.1, vU x3.2.1.Leaf.2, vU x3.2.1.Sig.E, vU x3.2.1.Sig.S] 35) :: (bx b2 [vI x3.1.Id, vU x3.1.Key, vI x3.1.Delay, v1, v2, v3] 26) :: (bx b1 [vI a0.Id, vU a0.Key, vI a0.Delay, a0v3, a0v4, a0v5] 26) :: As) _ := S57
        obtain ⟨m49, l21, S58⟩ := St.drop S57 0
        replace h1 := h1.up l21
        replace h2 := h2.up l21
        replace h3 := h3.up l21
        replace a0h3 := a0h3.up l21
        replace a0h4 := a0h4.up l21
        replace a0h5 := a0h5.up l21
        replace L2 := Mem.tr L2 l21
        clear S57
        replace S58 : St _ ((bx b5 [vI x6.1.Id, vU x6.1.Key, vI x6.1.Delay, v4, v5, v6] 26) :: (bx b4 [vI x5.1.Log, vU x5.1.Key, vI x5.1.Delay] 40) :: (bx b3 [vI x3.2.1.Log, vI x3.2.1.At, vU x3.2.1.Leaf.1, vU x3.2.1.Leaf.2, vU x3.2.1.Sig.E, vU x3.2.1.Sig.S] 35) :: (bx b2 [vI x3.1.Id, vU x3.1.Key, vI x3.1.Delay, v1, v2, v3] 26) :: (bx b1 [vI a0.Id, vU a0.Key, vI a0.Delay, a0v3, a0v4, a0v5] 26) :: As) _ := S58
        obtain ⟨m50, l22, S59⟩ := St.drop S58 0
        replace h1 := h1.up l22
        replace h2 := h2.up l22
        replace h3 := h3.up l22
        replace a0h3 := a0h3.up l22
        replace a0h4 := a0h4.up l22
        replace a0h5 := a0h5.up l22
        replace L2 := Mem.tr L2 l22
        clear S58
        replace S59 : St _ ((bx b4 [vI x5.1.Log, vU x5.1.Key, vI x5.1.Delay] 40) :: (bx b3 [vI x3.2.1.Log, vI x3.2.1.At, vU x3.2.1.Leaf.1, vU x3.2.1.Leaf.2, vU x3.2.1.Sig.E, vU x3.2.1.Sig.S] 35) :: (bx b2 [vI x3.1.Id, vU x3.1.Key, vI x3.1.Delay, v1, v2, v3] 26) :: (bx b1 [vI a0.Id, vU a0.Key, vI a0.Delay, a0v3, a0v4, a0v5] 26) :: As) _ := S59
        obtain ⟨m51, l23, S60⟩ := St.drop S59 0
        replace h1 := h1.up l23
        replace h2 := h2.up l23
        replace h3 := h3.up l23
        replace a0h3 := a0h3.up l23
        replace a0h4 := a0h4.up l23
        replace a0h5 := a0h5.up l23
        replace L2 := Mem.tr L2 l23
        clear S59
        replace S60 : St _ ((bx b3 [vI x3.2.1.Log, vI x3.2.1.At, vU x3.2.1.Leaf.1, vU x3.2.1.Leaf.2, vU x3.2.1.Sig.E, vU x3.2.1.Sig.S] 35) :: (bx b2 [vI x3.1.Id, vU x3.1.Key, vI x3.1.Delay, v1, v2, v3] 26) :: (bx b1 [vI a0.Id, vU a0.Key, vI a0.Delay, a0v3, a0v4, a0v5] 26) :: As) _ := S60
        obtain ⟨m52, l24, S61⟩ := St.drop S60 0
        replace a0h3 := a0h3.up l24
        replace a0h4 := a0h4.up l24
        replace a0h5 := a0h5.up l24
        replace L2 := Mem.tr L2 l24
        clear S60
        replace S61 : St _ ((bx b2 [vI x3.1.Id, vU x3.1.Key, vI x3.1.Delay, v1, v2, v3] 26) :: (bx b1 [vI a0.Id, vU a0.Key, vI a0.Delay, a0v3, a0v4, a0v5] 26) :: As) _ := S61
        obtain ⟨m53, l25, S62⟩ := St.drop S61 0
        replace L2 := Mem.tr L2 l25
        clear S61
        replace S62 : St _ ((bx b1 [vI a0.Id, vU a0.Key, vI a0.Delay, a0v3, a0v4, a0v5] 26) :: As) _ := S62
        obtain ⟨m54, l26, S63⟩ := St.drop S62 0
        replace L2 := Mem.tr L2 l26
        clear S62
        replace S63 : St _ (As) _ := S63
        cases q12
        rcases q11 with ⟨sn, e, _⟩ | e
        · cases e
        cases e
        dsimp only at hm
        have e0 := Option.some.inj hm
        subst e0
        exact outR [_] rfl ⟨rfl, trivial⟩ ⟨_, (Mem.tr L0 (Mem.tr L3 L2)), S63, rfl⟩
      replace q12 := ifF hc6 q12
      refine wpc_skip <| nrmB <| nrm <| wpc_region <| s_mvv (v := vI s1.2) rfl <| s_addI (m := s1.2) (n := 1) rfl rfl <| s_asv (v := vI (w64 (s1.2 + 1))) rfl <| wpl_nil <| nrm ?_
      have e0 := Option.some.inj q12
      subst e0
      rcases q11 with ⟨sn, e, q11'⟩ | e
      · cases e
        exact ⟨outP, _, Nat.lt_succ_self _, ⟨_, m47, q11', Mem.tr L3 L2, S56, ⟨rfl, rfl, trivial⟩⟩⟩
      · cases e
    replace q12 := ifF hc5 q12
    refine wpc_exit <| thE <| thE <| exB <| nrm ?_
    obtain ⟨m55, l27, S64⟩ := St.drop S29 0
    replace a1h0 := a1h0.up l27
    replace h8 := RepL.up l27 h8
    replace h9 := RepL.up l27 h9
    replace h5 := h5.up l27
    replace h6 := h6.up l27
    replace h7 := h7.up l27
    replace h1 := h1.up l27
    replace h2 := h2.up l27
    replace h3 := h3.up l27
    replace a0h3 := a0h3.up l27
    replace a0h4 := a0h4.up l27
    replace a0h5 := a0h5.up l27
    replace L2 := Mem.tr L2 l27
    clear S29
    replace S64 : St _ ((row 2 v7 c1 x7.1.length) :: (bx b5 [vI x6.1.Id, vU x6.1.Key, vI x6.1.Delay, v4, v5, v6] 26) :: (bx b4 [vI x5.1.Log, vU x5.1.Key, vI x5.1.Delay] 40) :: (bx b3 [vI x3.2.1.Log, vI x3.2.1.At, vU x3.2.1.Leaf.1, vU x3.2.1.Leaf.2, vU x3.2.1.Sig.E, vU x3.2.1.Sig.S] 35) :: (bx b2 [vI x3.1.Id, vU x3.1.Key, vI x3.1.Delay, v1, v2, v3] 26) :: (bx b1 [vI a0.Id, vU a0.Key, vI a0.Delay, a0v3, a0v4, a0v5] 26) :: As) _ := S64
    obtain ⟨m56, l28, S65⟩ := St.drop S64 0
    replace L2 := Mem.tr L2 l28
    clear S64
    replace S65 : St _ ((bx b5 [vI x6.1.Id, vU x6.1.Key, vI x6.1.Delay, v4, v5, v6] 26) :: (bx b4 [vI x5.1.Log, vU x5.1.Key, vI x5.1.Delay] 40) :: (bx b3 [vI x3.2.1.Log, vI x3.2.1.At, vU x3.2.1.Leaf.1, vU x3.2.1.Leaf.2, vU x3.2.1.Sig.E, vU x3.2.1.Sig.S] 35) :: (bx b2 [vI x3.1.Id, vU x3.1.Key, vI x3.1.Delay, v1, v2, v3] 26) :: (bx b1 [vI a0.Id, vU a0.Key, vI a0.Delay, a0v3, a0v4, a0v5] 26) :: As) _ := S65
    have e0 := Option.some.inj q12
    subst e0
    rcases q11 with ⟨sn, e, _⟩ | e
    · cases e
    · cases e
      exact ⟨outP, m56, _, rfl, Mem.tr L3 L2, S65, ⟨rfl, trivial⟩⟩
 rintro f36 w52 ho ⟨m58, y1, rfl, l29, S66, ha⟩
 obtain ⟨u54, rfl⟩ := fr_of (N := 153) ho ha
 clear ho ha
 dsimp only at hm
 replace a1h0 := a1h0.up l29
 replace h5 := h5.up l29
 replace h6 := h6.up l29
 replace h7 := h7.up l29
 replace h1 := h1.up l29
 replace h2 := h2.up l29
 replace h3 := h3.up l29
 replace a0h3 := a0h3.up l29
 replace a0h4 := a0h4.up l29
 replace a0h5 := a0h5.up l29
 replace L0 := Mem.tr L0 l29
 clear S21
 refine wpc_seq ?_
 obtain ⟨x15, q18, hm⟩ := obind_some hm
 obtain ⟨x16, q19, hm⟩ := obind_some hm
 have HM : MonoAll [(139, fun (M : Mem) (v : Value) => v = vb y1), (140, fun (M : Mem) (v : Value) => v = vb y1), (141, fun (M : Mem) (v : Value) => (y1 = true → v = pt b3 2) ∧ (y1 = false → v = undef)), (142, fun (M : Mem) (v : Value) => (y1 = true → v = .agg #[vU x3.2.1.Leaf.1, vU x3.2.1.Leaf.2]) ∧ (y1 = false → v = undef)), (143, fun (M : Mem) (v : Value) => (y1 = true → v = a1v0) ∧ (y1 = false → v = undef)), (144, fun (M : Mem) (v : Value) => (y1 = true → v = .agg #[vU x15.1, vU x15.2]) ∧ (y1 = false → v = undef)), (145, fun (M : Mem) (v : Value) => (y1 = true → v = vb (eqSum x3.2.1.Leaf x15)) ∧ (y1 = false → v = undef)), (146, fun (M : Mem) (v : Value) => v = vb (y1 && (eqSum x3.2.1.Leaf x15))), (147, fun (M : Mem) (v : Value) => v = vb (y1 && (eqSum x3.2.1.Leaf x15))), (148, fun (M : Mem) (v : Value) => ((y1 && (eqSum x3.2.1.Leaf x15)) = true → v = .agg #[vI x5.1.Log, vU x5.1.Key, vI x5.1.Delay]) ∧ ((y1 && (eqSum x3.2.1.Leaf x15)) = false → v = undef)), (149, fun (M : Mem) (v : Value) => ((y1 && (eqSum x3.2.1.Leaf x15)) = true → v = .agg #[vI x3.2.1.Log, vI x3.2.1.At, vU x3.2.1.Leaf.1, vU x3.2.1.Leaf.2, vU x3.2.1.Sig.E, vU x3.2.1.Sig.S]) ∧ ((y1 && (eqSum x3.2.1.Leaf x15)) = false → v = undef)), (150, fun (M : Mem) (v : Value) => ((y1 && (eqSum x3.2.1.Leaf x15)) = true → v = vI x16) ∧ ((y1 && (eqSum x3.2.1.Leaf x15)) = false → v = undef)), (151, fun (M : Mem) (v : Value) => ((y1 && (eqSum x3.2.1.Leaf x15)) = true → v = vb (x16 == 0)) ∧ ((y1 && (eqSum x3.2.1.Leaf x15)) = false → v = undef)), (152, fun (M : Mem) (v : Value) => v = vb ((y1 && (eqSum x3.2.1.Leaf x15)) && (x16 == 0)))] := ⟨(fun _ _ _ _ h => h), (fun _ _ _ _ h => h), (fun _ _ _ _ h => h), (fun _ _ _ _ h => h), (fun _ _ _ _ h => h), (fun _ _ _ _ h => h), (fun _ _ _ _ h => h), (fun _ _ _ _ h => h), (fun _ _ _ _ h => h), (fun _ _ _ _ h => h), (fun _ _ _ _ h => h), (fun _ _ _ _ h => h), (fun _ _ _ _ h => h), (fun _ _ _ _ h => h), trivial⟩
 refine wpc_flowG HM 14 mixed rfl rfl rfl [139, 140, 141, 142, 143, 144, 145, 146, 147, 148, 149, 150, 151, 152] (fun L f M w => St M ((bx b5 [vI x6.1.Id, vU x6.1.Key, vI x6.1.Delay, v4, v5, v6] 26) :: (bx b4 [vI x5.1.Log, vU x5.1.Key, vI x5.1.Delay] 40) :: (bx b3 [vI x3.2.1.Log, vI x3.2.1.At, vU x3.2.1.Leaf.1, vU x3.2.1.Leaf.2, vU x3.2.1.Sig.E, vU x3.2.1.Sig.S] 35) :: (bx b2 [vI x3.1.Id, vU x3.1.Key, vI x3.1.Delay, v1, v2, v3] 26) :: (bx b1 [vI a0.Id, vU a0.Key, vI a0.Delay, a0v3, a0v4, a0v5] 26) :: As) w) (St.drew S66 _) ?_ ?_
 · refine ⟨?_, ?_, ?_, ?_, ?_, ?_, ?_, ?_, ?_, ?_, ?_, ?_, ?_, ?_, trivial⟩
   · intro L f37 w53 hL hd hc ⟨m59, L74, S67, K, hO⟩
     obtain ⟨u55, rfl⟩ := fr_of (N := 153) (L := []) hO trivial
     exact s_mvv (v := vb y1) rfl <| oS HM L74 S67 rfl K rfl rfl rfl outP
   · intro L f38 w54 hL hd hc ⟨m60, L76, S68, K, hO⟩
     obtain ⟨u56, rfl⟩ := fr_of (N := 153) (L := [(139, _)]) hO ⟨K 0 (dep hd rfl), trivial⟩
     exact s_mvv (v := vb y1) rfl <| oS HM L76 S68 rfl K rfl rfl rfl outP
   · intro L f39 w55 hL hd hc ⟨m61, L78, S69, K, hO⟩
     rcases bool_tf y1 with hb26 | hb26
     · obtain ⟨u57, rfl⟩ := fr_of (N := 153) (L := [(140, _)]) hO ⟨K 1 (dep hd rfl), trivial⟩
       exact wpl_yes (d := 140) rfl rfl (congrArg Value.bool hb26) <| s_fld (n := 1) rfl Try.underlying35 rfl rfl Try.sizeOf31 <| oS HM L78 S69 rfl K rfl rfl ⟨fun _ => rfl, fun hx => tf hb26 hx⟩ outP
     obtain ⟨u58, rfl⟩ := fr_of (N := 153) (L := [(140, _)]) hO ⟨K 1 (dep hd rfl), trivial⟩
     exact wpl_no (d := 140) rfl rfl (congrArg Value.bool hb26) <| oS HM L78 S69 rfl K rfl rfl ⟨fun hx => tf hx hb26, fun _ => rfl⟩ outP
   · intro L f40 w56 hL hd hc ⟨m62, L81, S70, K, hO⟩
     rcases bool_tf y1 with hb27 | hb27
     · obtain ⟨u59, rfl⟩ := fr_of (N := 153) (L := [(140, _), (141, _)]) hO ⟨K 1 (dep hd rfl), (K 2 (dep hd rfl)).1 hb27, trivial⟩
       exact wpl_yes (d := 140) rfl rfl (congrArg Value.bool hb27) <| s_ld (i := 2) (cs := [vU x3.2.1.Leaf.1, vU x3.2.1.Leaf.2]) S70 rfl rfl Try.isAgg31 Try.sizeOf31 rfl (fun h => by cases h) <| oS HM L81 S70 rfl K rfl rfl ⟨fun _ => rfl, fun hx => tf hb27 hx⟩ outP
     obtain ⟨u60, rfl⟩ := fr_of (N := 153) (L := [(140, _)]) hO ⟨K 1 (dep hd rfl), trivial⟩
     exact wpl_no (d := 140) rfl rfl (congrArg Value.bool hb27) <| oS HM L81 S70 rfl K rfl rfl ⟨fun hx => tf hx hb27, fun _ => rfl⟩ outP
   · intro L f41 w57 hL hd hc ⟨m63, L84, S71, K, hO⟩
     rcases bool_tf y1 with hb28 | hb28
     · obtain ⟨u61, rfl⟩ := fr_of (N := 153) (L := [(140, _)]) hO ⟨K 1 (dep hd rfl), trivial⟩
       exact wpl_yes (d := 140) rfl rfl (congrArg Value.bool hb28) <| s_mvv (v := a1v0) rfl <| oS HM L84 S71 rfl K rfl rfl ⟨fun _ => rfl, fun hx => tf hb28 hx⟩ outP
     obtain ⟨u62, rfl⟩ := fr_of (N := 153) (L := [(140, _)]) hO ⟨K 1 (dep hd rfl), trivial⟩
     exact wpl_no (d := 140) rfl rfl (congrArg Value.bool hb28) <| oS HM L84 S71 rfl K rfl rfl ⟨fun hx => tf hx hb28, fun _ => rfl⟩ outP
   · intro L f42 w58 hL hd hc ⟨m64, L87, S72, K, hO⟩
     rcases bool_tf y1 with hb29 | hb29
     · obtain ⟨u63, rfl⟩ := fr_of (N := 153) (L := [(140, _), (143, _)]) hO ⟨K 1 (dep hd rfl), (K 4 (dep hd rfl)).1 hb29, trivial⟩
       replace a1h0 := a1h0.up L87
       replace h5 := h5.up L87
       replace h6 := h6.up L87
       replace h7 := h7.up L87
       replace h1 := h1.up L87
       replace h2 := h2.up L87
       replace h3 := h3.up L87
       replace a0h3 := a0h3.up L87
       replace a0h4 := a0h4.up L87
       replace a0h5 := a0h5.up L87
       have L88 := Mem.rfl' m64
       refine wpl_yes (d := 140) rfl rfl (congrArg Value.bool hb29) ?_
       replace q18 := gu_t hb29 q18
       refine s_call Try.call13 (w_merkle_Leaf (a0 := a1) S72 a1h0 q18) rfl ?_
       rintro _ w59 ⟨m65, l30, S73, rfl⟩
       replace L88 := Mem.tr L88 l30
       clear S72
       exact wpn <| ⟨m65, Mem.tr L87 L88, S73, facts_step HM rfl K L88 rfl rfl ⟨fun _ => rfl, fun hx => tf hb29 hx⟩, outP⟩
     obtain ⟨u64, rfl⟩ := fr_of (N := 153) (L := [(140, _)]) hO ⟨K 1 (dep hd rfl), trivial⟩
     exact wpl_no (d := 140) rfl rfl (congrArg Value.bool hb29) <| oS HM L87 S72 rfl K rfl rfl ⟨fun hx => tf hx hb29, fun _ => rfl⟩ outP
   · intro L f43 w60 hL hd hc ⟨m66, L90, S74, K, hO⟩
     rcases bool_tf y1 with hb30 | hb30
     · obtain ⟨u65, rfl⟩ := fr_of (N := 153) (L := [(140, _), (142, _), (144, _)]) hO ⟨K 1 (dep hd rfl), (K 3 (dep hd rfl)).1 hb30, (K 5 (dep hd rfl)).1 hb30, trivial⟩
       exact wpl_yes (d := 140) rfl rfl (congrArg Value.bool hb30) <| s_eqlSum (p := x3.2.1.Leaf) (q := x15) rfl rfl Try.underlying31 Try.underlying22 Try.sizeOf22 Try.isAgg22 Try.eqGuardType31 <| oS HM L90 S74 rfl K rfl rfl ⟨fun _ => rfl, fun hx => tf hb30 hx⟩ outP
     obtain ⟨u66, rfl⟩ := fr_of (N := 153) (L := [(140, _)]) hO ⟨K 1 (dep hd rfl), trivial⟩
     exact wpl_no (d := 140) rfl rfl (congrArg Value.bool hb30) <| oS HM L90 S74 rfl K rfl rfl ⟨fun hx => tf hx hb30, fun _ => rfl⟩ outP
   · intro L f44 w61 hL hd hc ⟨m67, L93, S75, K, hO⟩
     rcases bool_tf y1 with hb31 | hb31
     · obtain ⟨u67, rfl⟩ := fr_of (N := 153) (L := [(140, _), (145, _)]) hO ⟨K 1 (dep hd rfl), (K 6 (dep hd rfl)).1 hb31, trivial⟩
       exact s_pickT (congrArg Value.bool hb31) rfl <| oS HM L93 S75 rfl K rfl rfl (congrArg Value.bool (and_t hb31)) outP
     · obtain ⟨u68, rfl⟩ := fr_of (N := 153) (L := [(140, _)]) hO ⟨K 1 (dep hd rfl), trivial⟩
       exact s_pickF (congrArg Value.bool hb31) rfl <| oS HM L93 S75 rfl K rfl rfl (congrArg Value.bool (and_f hb31)) outP
   · intro L f45 w62 hL hd hc ⟨m68, L96, S76, K, hO⟩
     obtain ⟨u69, rfl⟩ := fr_of (N := 153) (L := [(146, _)]) hO ⟨K 7 (dep hd rfl), trivial⟩
     exact s_mvv (v := vb (y1 && (eqSum x3.2.1.Leaf x15))) rfl <| oS HM L96 S76 rfl K rfl rfl rfl outP
   · intro L f46 w63 hL hd hc ⟨m69, L98, S77, K, hO⟩
     rcases bool_tf (y1 && (eqSum x3.2.1.Leaf x15)) with hb32 | hb32
     · obtain ⟨u70, rfl⟩ := fr_of (N := 153) (L := [(147, _)]) hO ⟨K 8 (dep hd rfl), trivial⟩
       exact wpl_yes (d := 147) rfl rfl (congrArg Value.bool hb32) <| s_ld (i := 1) (cs := [vI x5.1.Log, vU x5.1.Key, vI x5.1.Delay]) S77 rfl rfl Try.isAgg40 Try.sizeOf40 rfl (fun h => by cases h) <| oS HM L98 S77 rfl K rfl rfl ⟨fun _ => rfl, fun hx => tf hb32 hx⟩ outP
     obtain ⟨u71, rfl⟩ := fr_of (N := 153) (L := [(147, _)]) hO ⟨K 8 (dep hd rfl), trivial⟩
     exact wpl_no (d := 147) rfl rfl (congrArg Value.bool hb32) <| oS HM L98 S77 rfl K rfl rfl ⟨fun hx => tf hx hb32, fun _ => rfl⟩ outP
   · intro L f47 w64 hL hd hc ⟨m70, L101, S78, K, hO⟩
     rcases bool_tf (y1 && (eqSum x3.2.1.Leaf x15)) with hb33 | hb33
     · obtain ⟨u72, rfl⟩ := fr_of (N := 153) (L := [(147, _)]) hO ⟨K 8 (dep hd rfl), trivial⟩
       exact wpl_yes (d := 147) rfl rfl (congrArg Value.bool hb33) <| s_ld (i := 2) (cs := [vI x3.2.1.Log, vI x3.2.1.At, vU x3.2.1.Leaf.1, vU x3.2.1.Leaf.2, vU x3.2.1.Sig.E, vU x3.2.1.Sig.S]) S78 rfl rfl Try.isAgg35 Try.sizeOf35 rfl (fun h => by cases h) <| oS HM L101 S78 rfl K rfl rfl ⟨fun _ => rfl, fun hx => tf hb33 hx⟩ outP
     obtain ⟨u73, rfl⟩ := fr_of (N := 153) (L := [(147, _)]) hO ⟨K 8 (dep hd rfl), trivial⟩
     exact wpl_no (d := 147) rfl rfl (congrArg Value.bool hb33) <| oS HM L101 S78 rfl K rfl rfl ⟨fun hx => tf hx hb33, fun _ => rfl⟩ outP
   · intro L f48 w65 hL hd hc ⟨m71, L104, S79, K, hO⟩
     rcases bool_tf (y1 && (eqSum x3.2.1.Leaf x15)) with hb34 | hb34
     · obtain ⟨u74, rfl⟩ := fr_of (N := 153) (L := [(147, _), (148, _), (149, _)]) hO ⟨K 8 (dep hd rfl), (K 9 (dep hd rfl)).1 hb34, (K 10 (dep hd rfl)).1 hb34, trivial⟩
       replace a1h0 := a1h0.up L104
       replace h5 := h5.up L104
       replace h6 := h6.up L104
       replace h7 := h7.up L104
       replace h1 := h1.up L104
       replace h2 := h2.up L104
       replace h3 := h3.up L104
       replace a0h3 := a0h3.up L104
       replace a0h4 := a0h4.up L104
       replace a0h5 := a0h5.up L104
       have L105 := Mem.rfl' m71
       refine wpl_yes (d := 147) rfl rfl (congrArg Value.bool hb34) ?_
       replace q19 := gu_t hb34 q19
       refine s_call Try.call14 (w_logd_CheckPromise (a0 := x5.1) (a1 := x3.2.1) S79  q19) rfl ?_
       rintro _ w66 ⟨m72, l31, S80, rfl⟩
       replace L105 := Mem.tr L105 l31
       clear S79
       exact wpn <| ⟨m72, Mem.tr L104 L105, S80, facts_step HM rfl K L105 rfl rfl ⟨fun _ => rfl, fun hx => tf hb34 hx⟩, outP⟩
     obtain ⟨u75, rfl⟩ := fr_of (N := 153) (L := [(147, _)]) hO ⟨K 8 (dep hd rfl), trivial⟩
     exact wpl_no (d := 147) rfl rfl (congrArg Value.bool hb34) <| oS HM L104 S79 rfl K rfl rfl ⟨fun hx => tf hx hb34, fun _ => rfl⟩ outP
   · intro L f49 w67 hL hd hc ⟨m73, L107, S81, K, hO⟩
     rcases bool_tf (y1 && (eqSum x3.2.1.Leaf x15)) with hb35 | hb35
     · obtain ⟨u76, rfl⟩ := fr_of (N := 153) (L := [(147, _), (150, _)]) hO ⟨K 8 (dep hd rfl), (K 11 (dep hd rfl)).1 hb35, trivial⟩
       exact wpl_yes (d := 147) rfl rfl (congrArg Value.bool hb35) <| s_eql (m := x16) (n := 0) rfl rfl <| oS HM L107 S81 rfl K rfl rfl ⟨fun _ => rfl, fun hx => tf hb35 hx⟩ outP
     obtain ⟨u77, rfl⟩ := fr_of (N := 153) (L := [(147, _)]) hO ⟨K 8 (dep hd rfl), trivial⟩
     exact wpl_no (d := 147) rfl rfl (congrArg Value.bool hb35) <| oS HM L107 S81 rfl K rfl rfl ⟨fun hx => tf hx hb35, fun _ => rfl⟩ outP
   · intro L f50 w68 hL hd hc ⟨m74, L110, S82, K, hO⟩
     rcases bool_tf (y1 && (eqSum x3.2.1.Leaf x15)) with hb36 | hb36
     · obtain ⟨u78, rfl⟩ := fr_of (N := 153) (L := [(147, _), (151, _)]) hO ⟨K 8 (dep hd rfl), (K 12 (dep hd rfl)).1 hb36, trivial⟩
       exact s_pickT (congrArg Value.bool hb36) rfl <| oS HM L110 S82 rfl K rfl rfl (congrArg Value.bool (and_t hb36)) outP
     · obtain ⟨u79, rfl⟩ := fr_of (N := 153) (L := [(147, _)]) hO ⟨K 8 (dep hd rfl), trivial⟩
       exact s_pickF (congrArg Value.bool hb36) rfl <| oS HM L110 S82 rfl K rfl rfl (congrArg Value.bool (and_f hb36)) outP
 intro L f51 w69 hall ⟨m75, L113, S83, K, hO⟩
 have d13 : L 13 = true := hall 13 (by decide)
 obtain ⟨u80, rfl⟩ := fr_of (N := 153) (L := [(152, _)]) hO ⟨K 13 d13, trivial⟩
 replace S83 : St _ ((bx b5 [vI x6.1.Id, vU x6.1.Key, vI x6.1.Delay, v4, v5, v6] 26) :: (bx b4 [vI x5.1.Log, vU x5.1.Key, vI x5.1.Delay] 40) :: (bx b3 [vI x3.2.1.Log, vI x3.2.1.At, vU x3.2.1.Leaf.1, vU x3.2.1.Leaf.2, vU x3.2.1.Sig.E, vU x3.2.1.Sig.S] 35) :: (bx b2 [vI x3.1.Id, vU x3.1.Key, vI x3.1.Delay, v1, v2, v3] 26) :: (bx b1 [vI a0.Id, vU a0.Key, vI a0.Delay, a0v3, a0v4, a0v5] 26) :: As) _ := S83
 replace h1 := h1.up L113
 replace h2 := h2.up L113
 replace h3 := h3.up L113
 replace a0h3 := a0h3.up L113
 replace a0h4 := a0h4.up L113
 replace a0h5 := a0h5.up L113
 replace L0 := Mem.tr L0 L113
 clear S66
 obtain ⟨x17, q20, hm⟩ := bnd_eq hm
 refine s_asv (v := vb x17) (congrArg (fun z => vb z) q20.symm) <| wpl_nil <| nrm <| wpc_ret <| outRw fun we hpd => ?_
 replace S83 := St.pd S83 hpd
 obtain ⟨m76, l32, S84⟩ := St.drop S83 0
 replace h1 := h1.up l32
 replace h2 := h2.up l32
 replace h3 := h3.up l32
 replace a0h3 := a0h3.up l32
 replace a0h4 := a0h4.up l32
 replace a0h5 := a0h5.up l32
 replace L0 := Mem.tr L0 l32
 clear S83
 replace S84 : St _ ((bx b4 [vI x5.1.Log, vU x5.1.Key, vI x5.1.Delay] 40) :: (bx b3 [vI x3.2.1.Log, vI x3.2.1.At, vU x3.2.1.Leaf.1, vU x3.2.1.Leaf.2, vU x3.2.1.Sig.E, vU x3.2.1.Sig.S] 35) :: (bx b2 [vI x3.1.Id, vU x3.1.Key, vI x3.1.Delay, v1, v2, v3] 26) :: (bx b1 [vI a0.Id, vU a0.Key, vI a0.Delay, a0v3, a0v4, a0v5] 26) :: As) _ := S84
 obtain ⟨m77, l33, S85⟩ := St.drop S84 0
 replace h1 := h1.up l33
 replace h2 := h2.up l33
 replace h3 := h3.up l33
 replace a0h3 := a0h3.up l33
 replace a0h4 := a0h4.up l33
 replace a0h5 := a0h5.up l33
 replace L0 := Mem.tr L0 l33
 clear S84
 replace S85 : St _ ((bx b3 [vI x3.2.1.Log, vI x3.2.1.At, vU x3.2.1.Leaf.1, vU x3.2.1.Leaf.2, vU x3.2.1.Sig.E, vU x3.2.1.Sig.S] 35) :: (bx b2 [vI x3.1.Id, vU x3.1.Key, vI x3.1.Delay, v1, v2, v3] 26) :: (bx b1 [vI a0.Id, vU a0.Key, vI a0.Delay, a0v3, a0v4, a0v5] 26) :: As) _ := S85
 obtain ⟨m78, l34, S86⟩ := St.drop S85 0
 replace a0h3 := a0h3.up l34
 replace a0h4 := a0h4.up l34
 replace a0h5 := a0h5.up l34
 replace L0 := Mem.tr L0 l34
 clear S85
 replace S86 : St _ ((bx b2 [vI x3.1.Id, vU x3.1.Key, vI x3.1.Delay, v1, v2, v3] 26) :: (bx b1 [vI a0.Id, vU a0.Key, vI a0.Delay, a0v3, a0v4, a0v5] 26) :: As) _ := S86
 obtain ⟨m79, l35, S87⟩ := St.drop S86 0
 replace L0 := Mem.tr L0 l35
 clear S86
 replace S87 : St _ ((bx b1 [vI a0.Id, vU a0.Key, vI a0.Delay, a0v3, a0v4, a0v5] 26) :: As) _ := S87
 obtain ⟨m80, l36, S88⟩ := St.drop S87 0
 replace L0 := Mem.tr L0 l36
 clear S87
 replace S88 : St _ (As) _ := S88
 have e0 := Option.some.inj hm
 subst e0
 exact outR [_] rfl ⟨rfl, trivial⟩ ⟨_, L0, S88, rfl⟩

end Go.Proofs.Ytemiampgjgenhaa
