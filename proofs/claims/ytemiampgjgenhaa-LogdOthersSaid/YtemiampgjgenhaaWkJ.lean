/- The walks of some functions, written by program. Conditions: none. -/
import Derived.Test.YtemiampgjgenhaaWkF
set_option maxHeartbeats 20000000
set_option maxRecDepth 100000
set_option linter.unusedVariables false
set_option linter.unusedSimpArgs false
namespace Go.Proofs.Ytemiampgjgenhaa
open Go Go.Gw

def m_law24_LogdOthers (a0 : g_api_Log) (a1 : List UInt8) (a2 : Int) (a3 : Int) : Option Bool :=
  obind (m_law24_live ) fun x1 =>
  if (!x1) = true then
    some false
  else
  obind (m_law24_few a0 a1) fun x2 =>
  if (!x2) = true then
    some true
  else
  obind (m_logd_Add a0 a1 a2) fun x3 =>
  if (x3.2.2 != 0) = true then
    some true
  else
  obind (m_logd_Public x3.1) fun x4 =>
  obind (m_logd_Head x3.1 0 (x3.1.L.length : Int) a2) fun x5 =>
  obind (
    if ((x4.2 != 0) || (x5.2 != 0)) = true then
      some true
    else
    obind (m_logd_CheckHead x4.1 x5.1) fun x8 =>
    some (x8 != 0)
  ) fun x7 =>
  if x7 = true then
    some false
  else
  obind (
    if (a3 != a0.Id) = true then
      obind (m_logd_CheckPromise (⟨a3, x4.1.Key, x4.1.Delay⟩ : g_api_Key) x3.2.1) fun x10 =>
      if (x10 != 240) = true then
        some true
      else
      obind (m_logd_CheckHead (⟨a3, x4.1.Key, x4.1.Delay⟩ : g_api_Key) x5.1) fun x11 =>
      some (x11 != 240)
    else
    some false
  ) fun x9 =>
  if x9 = true then
    some false
  else
  obind (m_logd_CheckPromise x4.1 (⟨x3.2.1.Log, (-1), x3.2.1.Leaf, x3.2.1.Sig⟩ : g_api_Promise)) fun x12 =>
  obind (
    if (x12 == 1) = true then
      obind (m_logd_CheckHead x4.1 (⟨x5.1.Log, (-1), x5.1.Root, x5.1.At, x5.1.Sig⟩ : g_api_Head)) fun x15 =>
      some (x15 == 1)
    else
    some false
  ) fun x14 =>
  some x14

theorem w_law24_LogdOthers {m : Mem} {As : List Ow} {w : World} {a0 : g_api_Log} {a0v3 : Value} {a0v4 : Value} {a0v5 : Value} {a1 : List UInt8} {a1v0 : Value} {a2 : Int} {a3 : Int} {r : Bool} (S : St m (As) w) (a0h3 : SlR m a0v3 a0.L) (a0h4 : SlR m a0v4 a0.Hide) (a0h5 : SlR m a0v5 a0.Wait) (a1h0 : SlR m a1v0 a1) (hm : m_law24_LogdOthers a0 a1 a2 a3 = some r) :
    CallsR Try.prog 6 #[.agg #[vI a0.Id, vU a0.Key, vI a0.Delay, a0v3, a0v4, a0v5], a1v0, vI a2, vI a3] w fun v w' => ∃ (M : Mem), m ≤ M ∧ St M (As) w' ∧ v = vb r := by
 unfold m_law24_LogdOthers at hm
 have L0 := Mem.rfl' m
 refine callsR (args := [.agg #[vI a0.Id, vU a0.Key, vI a0.Delay, a0v3, a0v4, a0v5], a1v0, vI a2, vI a3]) Try.func6 rfl Try.ntmps6 (Nat.le_of_ble_eq_true rfl) <| wpc_seq <| wpc_region <| s_box S rfl fun b1 w1 S1 => ?_
 replace S1 : St _ ((bx b1 [vI a0.Id, vU a0.Key, vI a0.Delay, a0v3, a0v4, a0v5] 26) :: As) _ := S1
 clear S
 refine s_asv (v := vb false) rfl <| wpl_nil <| nrm <| wpc_seq <| wpc_seq <| wpc_region ?_
 obtain ⟨x1, q1, hm⟩ := obind_some hm
 refine s_call Try.call7 (w_law24_live  S1  q1) rfl ?_
 rintro _ w2 ⟨m1, l1, S2, rfl⟩
 replace a1h0 := a1h0.up l1
 replace a0h3 := a0h3.up l1
 replace a0h4 := a0h4.up l1
 replace a0h5 := a0h5.up l1
 replace L0 := Mem.tr L0 l1
 clear S1
 refine s_not rfl <| wpl_nil <| nrm <| wpc_if (t := (!x1)) rfl (fun hc1 => ?_) (fun hc1 => ?_)
 · replace hm := ifT hc1 hm
   refine wpc_seq <| wpc_region <| s_asv (v := vb false) rfl <| wpl_nil <| nrm <| wpc_ret <| thR <| outRw fun we hpd => ?_
   replace S2 := St.pd S2 hpd
   obtain ⟨m2, l2, S3⟩ := St.drop S2 0
   replace L0 := Mem.tr L0 l2
   clear S2
   replace S3 : St _ (As) _ := S3
   have e0 := Option.some.inj hm
   subst e0
   exact outR [_] rfl ⟨rfl, trivial⟩ ⟨_, L0, S3, rfl⟩
 replace hm := ifF hc1 hm
 refine wpc_skip <| nrm <| wpc_seq <| wpc_seq <| wpc_region <| s_ld (i := 0) (cs := [vI a0.Id, vU a0.Key, vI a0.Delay, a0v3, a0v4, a0v5]) S2 rfl rfl Try.isAgg26 Try.sizeOf26 rfl (fun h => by cases h) <| s_mvv (v := a1v0) rfl ?_
 obtain ⟨x2, q2, hm⟩ := obind_some hm
 refine s_call Try.call8 (w_law24_few (a0 := a0) (a1 := a1) S2 a0h3 a0h4 a0h5 a1h0 q2) rfl ?_
 rintro _ w3 ⟨m3, l3, S4, rfl⟩
 replace a1h0 := a1h0.up l3
 replace a0h3 := a0h3.up l3
 replace a0h4 := a0h4.up l3
 replace a0h5 := a0h5.up l3
 replace L0 := Mem.tr L0 l3
 clear S2
 refine s_not rfl <| wpl_nil <| nrm <| wpc_if (t := (!x2)) rfl (fun hc2 => ?_) (fun hc2 => ?_)
 · replace hm := ifT hc2 hm
   refine wpc_seq <| wpc_region <| s_asv (v := vb true) rfl <| wpl_nil <| nrm <| wpc_ret <| thR <| outRw fun we hpd => ?_
   replace S4 := St.pd S4 hpd
   obtain ⟨m4, l4, S5⟩ := St.drop S4 0
   replace L0 := Mem.tr L0 l4
   clear S4
   replace S5 : St _ (As) _ := S5
   have e0 := Option.some.inj hm
   subst e0
   exact outR [_] rfl ⟨rfl, trivial⟩ ⟨_, L0, S5, rfl⟩
 replace hm := ifF hc2 hm
 refine wpc_skip <| nrm <| wpc_seq <| wpc_region <| s_ld (i := 0) (cs := [vI a0.Id, vU a0.Key, vI a0.Delay, a0v3, a0v4, a0v5]) S4 rfl rfl Try.isAgg26 Try.sizeOf26 rfl (fun h => by cases h) <| s_mvv (v := a1v0) rfl <| s_mvv (v := vI a2) rfl ?_
 obtain ⟨x3, q3, hm⟩ := obind_some hm
 refine s_call Try.call9 (w_logd_Add (a0 := a0) (a1 := a1) (a2 := a2) S4 a0h3 a0h4 a0h5 a1h0 q3) rfl ?_
 rintro _ w4 ⟨m5, l5, v1, v2, v3, S6, rfl, h1, h2, h3⟩
 replace a0h3 := a0h3.up l5
 replace a0h4 := a0h4.up l5
 replace a0h5 := a0h5.up l5
 replace L0 := Mem.tr L0 l5
 clear S4
 refine s_mvv (v := .tuple #[.agg #[vI x3.1.Id, vU x3.1.Key, vI x3.1.Delay, v1, v2, v3], .agg #[vI x3.2.1.Log, vI x3.2.1.At, vU x3.2.1.Leaf.1, vU x3.2.1.Leaf.2, vU x3.2.1.Sig.E, vU x3.2.1.Sig.S], vI x3.2.2]) rfl <| s_ext (i := 0) rfl rfl <| s_ext (i := 1) rfl rfl <| s_ext (i := 2) rfl rfl <| s_alloc S6 Try.zeroValue26 fun b2 w5 S7 => ?_
 replace S7 : St _ ((bx b2 [vI 0, vU 0, vI 0, .slice none 0 0, .slice none 0 0, .slice none 0 0] 26) :: (bx b1 [vI a0.Id, vU a0.Key, vI a0.Delay, a0v3, a0v4, a0v5] 26) :: As) _ := S7
 clear S6
 refine s_alloc S7 Try.zeroValue35 fun b3 w6 S8 => ?_
 replace S8 : St _ ((bx b3 [vI 0, vI 0, vU 0, vU 0, vU 0, vU 0] 35) :: (bx b2 [vI 0, vU 0, vI 0, .slice none 0 0, .slice none 0 0, .slice none 0 0] 26) :: (bx b1 [vI a0.Id, vU a0.Key, vI a0.Delay, a0v3, a0v4, a0v5] 26) :: As) _ := S8
 clear S7
 refine s_stL (i := 1) S8 rfl rfl rfl Try.sizeOf26 (oneC rfl (oneC rfl (oneC rfl (oneC (SlR.one h1) (oneC (SlR.one h2) (oneC (SlR.one h3) oneN)))))) rfl fun w7 S9 => ?_
 replace S9 : St _ ((bx b3 [vI 0, vI 0, vU 0, vU 0, vU 0, vU 0] 35) :: (bx b2 [vI x3.1.Id, vU x3.1.Key, vI x3.1.Delay, v1, v2, v3] 26) :: (bx b1 [vI a0.Id, vU a0.Key, vI a0.Delay, a0v3, a0v4, a0v5] 26) :: As) _ := S9
 clear S8
 refine s_stL (i := 0) S9 rfl rfl rfl Try.sizeOf35 (oneC rfl (oneC rfl (oneC rfl (oneC rfl (oneC rfl (oneC rfl oneN)))))) rfl fun w8 S10 => ?_
 replace S10 : St _ ((bx b3 [vI x3.2.1.Log, vI x3.2.1.At, vU x3.2.1.Leaf.1, vU x3.2.1.Leaf.2, vU x3.2.1.Sig.E, vU x3.2.1.Sig.S] 35) :: (bx b2 [vI x3.1.Id, vU x3.1.Key, vI x3.1.Delay, v1, v2, v3] 26) :: (bx b1 [vI a0.Id, vU a0.Key, vI a0.Delay, a0v3, a0v4, a0v5] 26) :: As) _ := S10
 clear S9
 refine s_asv (v := vI x3.2.2) rfl <| wpl_nil <| nrm <| wpc_seq <| wpc_seq <| wpc_region <| s_mvv (v := vI x3.2.2) rfl <| s_neq (m := x3.2.2) (n := 0) rfl rfl <| wpl_nil <| nrm <| wpc_if (t := (x3.2.2 != 0)) rfl (fun hc3 => ?_) (fun hc3 => ?_)
 · replace hm := ifT hc3 hm
   refine wpc_seq <| wpc_region <| s_asv (v := vb true) rfl <| wpl_nil <| nrm <| wpc_ret <| thR <| outRw fun we hpd => ?_
   replace S10 := St.pd S10 hpd
   obtain ⟨m6, l6, S11⟩ := St.drop S10 0
   replace a0h3 := a0h3.up l6
   replace a0h4 := a0h4.up l6
   replace a0h5 := a0h5.up l6
   replace L0 := Mem.tr L0 l6
   clear S10
   replace S11 : St _ ((bx b2 [vI x3.1.Id, vU x3.1.Key, vI x3.1.Delay, v1, v2, v3] 26) :: (bx b1 [vI a0.Id, vU a0.Key, vI a0.Delay, a0v3, a0v4, a0v5] 26) :: As) _ := S11
   obtain ⟨m7, l7, S12⟩ := St.drop S11 0
   replace L0 := Mem.tr L0 l7
   clear S11
   replace S12 : St _ ((bx b1 [vI a0.Id, vU a0.Key, vI a0.Delay, a0v3, a0v4, a0v5] 26) :: As) _ := S12
   obtain ⟨m8, l8, S13⟩ := St.drop S12 0
   replace L0 := Mem.tr L0 l8
   clear S12
   replace S13 : St _ (As) _ := S13
   have e0 := Option.some.inj hm
   subst e0
   exact outR [_] rfl ⟨rfl, trivial⟩ ⟨_, L0, S13, rfl⟩
 replace hm := ifF hc3 hm
 refine wpc_skip <| nrm <| wpc_seq <| wpc_region <| s_ld (i := 1) (cs := [vI x3.1.Id, vU x3.1.Key, vI x3.1.Delay, v1, v2, v3]) S10 rfl rfl Try.isAgg26 Try.sizeOf26 rfl (fun h => by cases h) ?_
 obtain ⟨x4, q4, hm⟩ := obind_some hm
 refine s_call Try.call10 (w_logd_Public (a0 := x3.1) S10 h1 h2 h3 q4) rfl ?_
 rintro _ w9 ⟨m9, l9, S14, rfl⟩
 replace h1 := h1.up l9
 replace h2 := h2.up l9
 replace h3 := h3.up l9
 replace a0h3 := a0h3.up l9
 replace a0h4 := a0h4.up l9
 replace a0h5 := a0h5.up l9
 replace L0 := Mem.tr L0 l9
 clear S10
 refine s_mvv (v := .tuple #[.agg #[vI x4.1.Log, vU x4.1.Key, vI x4.1.Delay], vI x4.2]) rfl <| s_ext (i := 0) rfl rfl <| s_ext (i := 1) rfl rfl <| s_alloc S14 Try.zeroValue40 fun b4 w10 S15 => ?_
 replace S15 : St _ ((bx b4 [vI 0, vU 0, vI 0] 40) :: (bx b3 [vI x3.2.1.Log, vI x3.2.1.At, vU x3.2.1.Leaf.1, vU x3.2.1.Leaf.2, vU x3.2.1.Sig.E, vU x3.2.1.Sig.S] 35) :: (bx b2 [vI x3.1.Id, vU x3.1.Key, vI x3.1.Delay, v1, v2, v3] 26) :: (bx b1 [vI a0.Id, vU a0.Key, vI a0.Delay, a0v3, a0v4, a0v5] 26) :: As) _ := S15
 clear S14
 refine s_stL (i := 0) S15 rfl rfl rfl Try.sizeOf40 (oneC rfl (oneC rfl (oneC rfl oneN))) rfl fun w11 S16 => ?_
 replace S16 : St _ ((bx b4 [vI x4.1.Log, vU x4.1.Key, vI x4.1.Delay] 40) :: (bx b3 [vI x3.2.1.Log, vI x3.2.1.At, vU x3.2.1.Leaf.1, vU x3.2.1.Leaf.2, vU x3.2.1.Sig.E, vU x3.2.1.Sig.S] 35) :: (bx b2 [vI x3.1.Id, vU x3.1.Key, vI x3.1.Delay, v1, v2, v3] 26) :: (bx b1 [vI a0.Id, vU a0.Key, vI a0.Delay, a0v3, a0v4, a0v5] 26) :: As) _ := S16
 clear S15
 refine s_asv (v := vI x4.2) rfl <| wpl_nil <| nrm <| wpc_seq <| wpc_region <| s_ld (i := 2) (cs := [vI x3.1.Id, vU x3.1.Key, vI x3.1.Delay, v1, v2, v3]) S16 rfl rfl Try.isAgg26 Try.sizeOf26 rfl (fun h => by cases h) <| s_fld (n := 0) rfl Try.underlying26 rfl rfl Try.sizeOf23 <| s_ld (i := 2) (cs := [v1]) S16 rfl rfl Try.isAgg23 Try.sizeOf23 rfl (fun _ => rfl) <| s_lenR (xs := x3.1.L) rfl h1 Try.underlying23 <| s_mvv (v := vI a2) rfl ?_
 obtain ⟨x5, q5, hm⟩ := obind_some hm
 refine s_call Try.call17 (w_logd_Head (a0 := x3.1) (a1 := 0) (a2 := (x3.1.L.length : Int)) (a3 := a2) S16 h1 h2 h3 q5) rfl ?_
 rintro _ w12 ⟨m10, l10, S17, rfl⟩
 replace h1 := h1.up l10
 replace h2 := h2.up l10
 replace h3 := h3.up l10
 replace a0h3 := a0h3.up l10
 replace a0h4 := a0h4.up l10
 replace a0h5 := a0h5.up l10
 replace L0 := Mem.tr L0 l10
 clear S16
 refine s_mvv (v := .tuple #[.agg #[vI x5.1.Log, vI x5.1.Size, vU x5.1.Root.1, vU x5.1.Root.2, vI x5.1.At, vU x5.1.Sig.E, vU x5.1.Sig.S], vI x5.2]) rfl <| s_ext (i := 0) rfl rfl <| s_ext (i := 1) rfl rfl <| s_alloc S17 Try.zeroValue57 fun b5 w13 S18 => ?_
 replace S18 : St _ ((bx b5 [vI 0, vI 0, vU 0, vU 0, vI 0, vU 0, vU 0] 57) :: (bx b4 [vI x4.1.Log, vU x4.1.Key, vI x4.1.Delay] 40) :: (bx b3 [vI x3.2.1.Log, vI x3.2.1.At, vU x3.2.1.Leaf.1, vU x3.2.1.Leaf.2, vU x3.2.1.Sig.E, vU x3.2.1.Sig.S] 35) :: (bx b2 [vI x3.1.Id, vU x3.1.Key, vI x3.1.Delay, v1, v2, v3] 26) :: (bx b1 [vI a0.Id, vU a0.Key, vI a0.Delay, a0v3, a0v4, a0v5] 26) :: As) _ := S18
 clear S17
 refine s_stL (i := 0) S18 rfl rfl rfl Try.sizeOf57 (oneC rfl (oneC rfl (oneC rfl (oneC rfl (oneC rfl (oneC rfl (oneC rfl oneN))))))) rfl fun w14 S19 => ?_
 replace S19 : St _ ((bx b5 [vI x5.1.Log, vI x5.1.Size, vU x5.1.Root.1, vU x5.1.Root.2, vI x5.1.At, vU x5.1.Sig.E, vU x5.1.Sig.S] 57) :: (bx b4 [vI x4.1.Log, vU x4.1.Key, vI x4.1.Delay] 40) :: (bx b3 [vI x3.2.1.Log, vI x3.2.1.At, vU x3.2.1.Leaf.1, vU x3.2.1.Leaf.2, vU x3.2.1.Sig.E, vU x3.2.1.Sig.S] 35) :: (bx b2 [vI x3.1.Id, vU x3.1.Key, vI x3.1.Delay, v1, v2, v3] 26) :: (bx b1 [vI a0.Id, vU a0.Key, vI a0.Delay, a0v3, a0v4, a0v5] 26) :: As) _ := S19
 clear S18
 refine s_asv (v := vI x5.2) rfl <| wpl_nil <| nrm <| wpc_seq <| wpc_seq <| wpc_region <| s_mvv (v := vI x4.2) rfl <| s_neq (m := x4.2) (n := 0) rfl rfl <| s_mvv (v := vb (x4.2 != 0)) rfl <| wpl_cut 3 [50, 51, 52] (fun f' w' => w' = w14 ∧ AllAt f' [(52, vb ((x4.2 != 0) || (x5.2 != 0)))]) ?_ ?_
 · rcases bool_tf (x4.2 != 0) with hb1 | hb1
   · exact wpl_no (d := 49) rfl rfl (congrArg Value.bool hb1) <| wpl_no (d := 49) rfl rfl (congrArg Value.bool hb1) <| s_pickT (congrArg Value.bool hb1) rfl <| wpl_nil (nrm ⟨outP, rfl, congrArg Value.bool (or_t hb1), trivial⟩)
   · exact wpl_yes (d := 49) rfl rfl (congrArg Value.bool hb1) <| s_mvv (v := vI x5.2) rfl <| wpl_yes (d := 49) rfl rfl (congrArg Value.bool hb1) <| s_neq (m := x5.2) (n := 0) rfl rfl <| s_pickF (congrArg Value.bool hb1) rfl <| wpl_nil (nrm ⟨outP, rfl, congrArg Value.bool (or_f hb1), trivial⟩)
 rintro f1 w15 ho ⟨h4, ha⟩
 subst h4
 obtain ⟨u1, rfl⟩ := fr_of (N := 90) ho ha
 refine s_mvv (v := vb ((x4.2 != 0) || (x5.2 != 0))) rfl ?_
 obtain ⟨x7, q7, hm⟩ := obind_some hm
 have L1 := Mem.rfl' m10
 refine wpl_cut 5 [54, 55, 56, 57, 58] (fun f' w' => ∃ (M1 : Mem), m10 ≤ M1 ∧ St M1 ((bx b5 [vI x5.1.Log, vI x5.1.Size, vU x5.1.Root.1, vU x5.1.Root.2, vI x5.1.At, vU x5.1.Sig.E, vU x5.1.Sig.S] 57) :: (bx b4 [vI x4.1.Log, vU x4.1.Key, vI x4.1.Delay] 40) :: (bx b3 [vI x3.2.1.Log, vI x3.2.1.At, vU x3.2.1.Leaf.1, vU x3.2.1.Leaf.2, vU x3.2.1.Sig.E, vU x3.2.1.Sig.S] 35) :: (bx b2 [vI x3.1.Id, vU x3.1.Key, vI x3.1.Delay, v1, v2, v3] 26) :: (bx b1 [vI a0.Id, vU a0.Key, vI a0.Delay, a0v3, a0v4, a0v5] 26) :: As) w' ∧ AllAt f' [(58, vb x7)]) ?_ ?_
 · rcases bool_tf ((x4.2 != 0) || (x5.2 != 0)) with hb2 | hb2
   · replace q7 := ifT hb2 q7
     refine wpl_no (d := 53) rfl rfl (congrArg Value.bool hb2) <| wpl_no (d := 53) rfl rfl (congrArg Value.bool hb2) <| wpl_no (d := 53) rfl rfl (congrArg Value.bool hb2) <| wpl_no (d := 53) rfl rfl (congrArg Value.bool hb2) <| s_pickT (congrArg Value.bool hb2) rfl <| wpl_nil (nrm ?_)
     have e0 := Option.some.inj q7
     subst e0
     exact ⟨outP, m10, L1, S19, ⟨rfl, trivial⟩⟩
   replace q7 := ifF hb2 q7
   refine wpl_yes (d := 53) rfl rfl (congrArg Value.bool hb2) <| s_ld (i := 1) (cs := [vI x4.1.Log, vU x4.1.Key, vI x4.1.Delay]) S19 rfl rfl Try.isAgg40 Try.sizeOf40 rfl (fun h => by cases h) <| wpl_yes (d := 53) rfl rfl (congrArg Value.bool hb2) <| s_ld (i := 0) (cs := [vI x5.1.Log, vI x5.1.Size, vU x5.1.Root.1, vU x5.1.Root.2, vI x5.1.At, vU x5.1.Sig.E, vU x5.1.Sig.S]) S19 rfl rfl Try.isAgg57 Try.sizeOf57 rfl (fun h => by cases h) <| wpl_yes (d := 53) rfl rfl (congrArg Value.bool hb2) ?_
   obtain ⟨x8, q8, q7⟩ := obind_some q7
   refine s_call Try.call20 (w_logd_CheckHead (a0 := x4.1) (a1 := x5.1) S19  q8) rfl ?_
   rintro _ w17 ⟨m12, l12, S21, rfl⟩
   replace L1 := Mem.tr L1 l12
   clear S19
   refine wpl_yes (d := 53) rfl rfl (congrArg Value.bool hb2) <| s_neq (m := x8) (n := 0) rfl rfl <| s_pickF (congrArg Value.bool hb2) rfl <| wpl_nil (nrm ?_)
   have e0 := Option.some.inj q7
   subst e0
   exact ⟨outP, m12, L1, S21, ⟨rfl, trivial⟩⟩
 rintro f2 w18 ho ⟨m13, l13, S22, ha⟩
 obtain ⟨u2, rfl⟩ := fr_of (N := 90) ho ha
 replace h1 := h1.up l13
 replace h2 := h2.up l13
 replace h3 := h3.up l13
 replace a0h3 := a0h3.up l13
 replace a0h4 := a0h4.up l13
 replace a0h5 := a0h5.up l13
 replace L0 := Mem.tr L0 l13
 clear S19
 refine wpl_nil <| nrm <| wpc_if (t := x7) rfl (fun hc4 => ?_) (fun hc4 => ?_)
 · replace hm := ifT hc4 hm
   refine wpc_seq <| wpc_region <| s_asv (v := vb false) rfl <| wpl_nil <| nrm <| wpc_ret <| thR <| outRw fun we hpd => ?_
   replace S22 := St.pd S22 hpd
   obtain ⟨m14, l14, S23⟩ := St.drop S22 0
   replace h1 := h1.up l14
   replace h2 := h2.up l14
   replace h3 := h3.up l14
   replace a0h3 := a0h3.up l14
   replace a0h4 := a0h4.up l14
   replace a0h5 := a0h5.up l14
   replace L0 := Mem.tr L0 l14
   clear S22
   replace S23 : St _ ((bx b4 [vI x4.1.Log, vU x4.1.Key, vI x4.1.Delay] 40) :: (bx b3 [vI x3.2.1.Log, vI x3.2.1.At, vU x3.2.1.Leaf.1, vU x3.2.1.Leaf.2, vU x3.2.1.Sig.E, vU x3.2.1.Sig.S] 35) :: (bx b2 [vI x3.1.Id, vU x3.1.Key, vI x3.1.Delay, v1, v2, v3] 26) :: (bx b1 [vI a0.Id, vU a0.Key, vI a0.Delay, a0v3, a0v4, a0v5] 26) :: As) _ := S23
   obtain ⟨m15, l15, S24⟩ := St.drop S23 0
   replace h1 := h1.up l15
   replace h2 := h2.up l15
   replace h3 := h3.up l15
   replace a0h3 := a0h3.up l15
   replace a0h4 := a0h4.up l15
   replace a0h5 := a0h5.up l15
   replace L0 := Mem.tr L0 l15
   clear S23
   replace S24 : St _ ((bx b3 [vI x3.2.1.Log, vI x3.2.1.At, vU x3.2.1.Leaf.1, vU x3.2.1.Leaf.2, vU x3.2.1.Sig.E, vU x3.2.1.Sig.S] 35) :: (bx b2 [vI x3.1.Id, vU x3.1.Key, vI x3.1.Delay, v1, v2, v3] 26) :: (bx b1 [vI a0.Id, vU a0.Key, vI a0.Delay, a0v3, a0v4, a0v5] 26) :: As) _ := S24
   obtain ⟨m16, l16, S25⟩ := St.drop S24 0
   replace a0h3 := a0h3.up l16
   replace a0h4 := a0h4.up l16
   replace a0h5 := a0h5.up l16
   replace L0 := Mem.tr L0 l16
   clear S24
   replace S25 : St _ ((bx b2 [vI x3.1.Id, vU x3.1.Key, vI x3.1.Delay, v1, v2, v3] 26) :: (bx b1 [vI a0.Id, vU a0.Key, vI a0.Delay, a0v3, a0v4, a0v5] 26) :: As) _ := S25
   obtain ⟨m17, l17, S26⟩ := St.drop S25 0
   replace L0 := Mem.tr L0 l17
   clear S25
   replace S26 : St _ ((bx b1 [vI a0.Id, vU a0.Key, vI a0.Delay, a0v3, a0v4, a0v5] 26) :: As) _ := S26
   obtain ⟨m18, l18, S27⟩ := St.drop S26 0
   replace L0 := Mem.tr L0 l18
   clear S26
   replace S27 : St _ (As) _ := S27
   have e0 := Option.some.inj hm
   subst e0
   exact outR [_] rfl ⟨rfl, trivial⟩ ⟨_, L0, S27, rfl⟩
 replace hm := ifF hc4 hm
 refine wpc_skip <| nrm <| wpc_seq <| wpc_region <| s_ld (i := 1) (cs := [vI x4.1.Log, vU x4.1.Key, vI x4.1.Delay]) S22 rfl rfl Try.isAgg40 Try.sizeOf40 rfl (fun h => by cases h) <| s_alloc S22 Try.zeroValue40 fun b6 w19 S28 => ?_
 replace S28 : St _ ((bx b6 [vI 0, vU 0, vI 0] 40) :: (bx b5 [vI x5.1.Log, vI x5.1.Size, vU x5.1.Root.1, vU x5.1.Root.2, vI x5.1.At, vU x5.1.Sig.E, vU x5.1.Sig.S] 57) :: (bx b4 [vI x4.1.Log, vU x4.1.Key, vI x4.1.Delay] 40) :: (bx b3 [vI x3.2.1.Log, vI x3.2.1.At, vU x3.2.1.Leaf.1, vU x3.2.1.Leaf.2, vU x3.2.1.Sig.E, vU x3.2.1.Sig.S] 35) :: (bx b2 [vI x3.1.Id, vU x3.1.Key, vI x3.1.Delay, v1, v2, v3] 26) :: (bx b1 [vI a0.Id, vU a0.Key, vI a0.Delay, a0v3, a0v4, a0v5] 26) :: As) _ := S28
 clear S22
 refine s_stL (i := 0) S28 rfl rfl rfl Try.sizeOf40 (oneC rfl (oneC rfl (oneC rfl oneN))) rfl fun w20 S29 => ?_
 replace S29 : St _ ((bx b6 [vI x4.1.Log, vU x4.1.Key, vI x4.1.Delay] 40) :: (bx b5 [vI x5.1.Log, vI x5.1.Size, vU x5.1.Root.1, vU x5.1.Root.2, vI x5.1.At, vU x5.1.Sig.E, vU x5.1.Sig.S] 57) :: (bx b4 [vI x4.1.Log, vU x4.1.Key, vI x4.1.Delay] 40) :: (bx b3 [vI x3.2.1.Log, vI x3.2.1.At, vU x3.2.1.Leaf.1, vU x3.2.1.Leaf.2, vU x3.2.1.Sig.E, vU x3.2.1.Sig.S] 35) :: (bx b2 [vI x3.1.Id, vU x3.1.Key, vI x3.1.Delay, v1, v2, v3] 26) :: (bx b1 [vI a0.Id, vU a0.Key, vI a0.Delay, a0v3, a0v4, a0v5] 26) :: As) _ := S29
 clear S28
 refine wpl_nil <| nrm <| wpc_seq <| wpc_region <| s_mvv (v := vI a3) rfl <| s_fld (n := 0) rfl Try.underlying40 rfl rfl Try.sizeOf3 <| s_stL (i := 0) S29 rfl rfl rfl Try.sizeOf3 (oneC rfl oneN) rfl fun w21 S30 => ?_
 replace S30 : St _ ((bx b6 [vI a3, vU x4.1.Key, vI x4.1.Delay] 40) :: (bx b5 [vI x5.1.Log, vI x5.1.Size, vU x5.1.Root.1, vU x5.1.Root.2, vI x5.1.At, vU x5.1.Sig.E, vU x5.1.Sig.S] 57) :: (bx b4 [vI x4.1.Log, vU x4.1.Key, vI x4.1.Delay] 40) :: (bx b3 [vI x3.2.1.Log, vI x3.2.1.At, vU x3.2.1.Leaf.1, vU x3.2.1.Leaf.2, vU x3.2.1.Sig.E, vU x3.2.1.Sig.S] 35) :: (bx b2 [vI x3.1.Id, vU x3.1.Key, vI x3.1.Delay, v1, v2, v3] 26) :: (bx b1 [vI a0.Id, vU a0.Key, vI a0.Delay, a0v3, a0v4, a0v5] 26) :: As) _ := S30
 clear S29
 refine wpl_nil <| nrm <| wpc_seq <| wpc_seq <| wpc_region <| s_mvv (v := vI a3) rfl <| s_fld (n := 0) rfl Try.underlying26 rfl rfl Try.sizeOf3 <| s_ld (i := 5) (cs := [vI a0.Id]) S30 rfl rfl Try.isAgg3 Try.sizeOf3 rfl (fun _ => rfl) <| s_neq (m := a3) (n := a0.Id) rfl rfl <| s_mvv (v := vb (a3 != a0.Id)) rfl ?_
 obtain ⟨x9, q9, hm⟩ := obind_some hm
 have L2 := Mem.rfl' m13
 refine wpl_cut 11 [67, 68, 69, 70, 71, 72, 73, 74, 75, 76, 77] (fun f' w' => ∃ (M2 : Mem), m13 ≤ M2 ∧ St M2 ((bx b6 [vI a3, vU x4.1.Key, vI x4.1.Delay] 40) :: (bx b5 [vI x5.1.Log, vI x5.1.Size, vU x5.1.Root.1, vU x5.1.Root.2, vI x5.1.At, vU x5.1.Sig.E, vU x5.1.Sig.S] 57) :: (bx b4 [vI x4.1.Log, vU x4.1.Key, vI x4.1.Delay] 40) :: (bx b3 [vI x3.2.1.Log, vI x3.2.1.At, vU x3.2.1.Leaf.1, vU x3.2.1.Leaf.2, vU x3.2.1.Sig.E, vU x3.2.1.Sig.S] 35) :: (bx b2 [vI x3.1.Id, vU x3.1.Key, vI x3.1.Delay, v1, v2, v3] 26) :: (bx b1 [vI a0.Id, vU a0.Key, vI a0.Delay, a0v3, a0v4, a0v5] 26) :: As) w' ∧ AllAt f' [(77, vb x9)]) ?_ ?_
 · rcases bool_tf (a3 != a0.Id) with hb3 | hb3
   · replace q9 := ifT hb3 q9
     refine wpl_yes (d := 66) rfl rfl (congrArg Value.bool hb3) <| s_ld (i := 0) (cs := [vI a3, vU x4.1.Key, vI x4.1.Delay]) S30 rfl rfl Try.isAgg40 Try.sizeOf40 rfl (fun h => by cases h) <| wpl_yes (d := 66) rfl rfl (congrArg Value.bool hb3) <| s_ld (i := 3) (cs := [vI x3.2.1.Log, vI x3.2.1.At, vU x3.2.1.Leaf.1, vU x3.2.1.Leaf.2, vU x3.2.1.Sig.E, vU x3.2.1.Sig.S]) S30 rfl rfl Try.isAgg35 Try.sizeOf35 rfl (fun h => by cases h) <| wpl_yes (d := 66) rfl rfl (congrArg Value.bool hb3) ?_
     obtain ⟨x10, q10, q9⟩ := obind_some q9
     refine s_call Try.call14 (w_logd_CheckPromise (a0 := (⟨a3, x4.1.Key, x4.1.Delay⟩ : g_api_Key)) (a1 := x3.2.1) S30  q10) rfl ?_
     rintro _ w22 ⟨m19, l19, S31, rfl⟩
     replace h1 := h1.up l19
     replace h2 := h2.up l19
     replace h3 := h3.up l19
     replace a0h3 := a0h3.up l19
     replace a0h4 := a0h4.up l19
     replace a0h5 := a0h5.up l19
     replace L2 := Mem.tr L2 l19
     clear S30
     refine wpl_yes (d := 66) rfl rfl (congrArg Value.bool hb3) <| s_neq (m := x10) (n := 240) rfl rfl <| wpl_yes (d := 66) rfl rfl (congrArg Value.bool hb3) <| s_mvv (v := vb (x10 != 240)) rfl ?_
     rcases bool_tf (x10 != 240) with hb4 | hb4
     · replace q9 := ifT hb4 q9
       refine wpl_no (d := 71) rfl rfl (congrArg Value.bool hb4) <| wpl_no (d := 71) rfl rfl (congrArg Value.bool hb4) <| wpl_no (d := 71) rfl rfl (congrArg Value.bool hb4) <| wpl_no (d := 71) rfl rfl (congrArg Value.bool hb4) <| wpl_yes (d := 66) rfl rfl (congrArg Value.bool hb3) <| s_pickT (congrArg Value.bool hb4) rfl <| s_pickT (congrArg Value.bool hb3) rfl <| wpl_nil (nrm ?_)
       have e0 := Option.some.inj q9
       subst e0
       exact ⟨outP, m19, L2, S31, ⟨rfl, trivial⟩⟩
     replace q9 := ifF hb4 q9
     refine wpl_yes (d := 71) rfl rfl (congrArg Value.bool hb4) <| s_ld (i := 0) (cs := [vI a3, vU x4.1.Key, vI x4.1.Delay]) S31 rfl rfl Try.isAgg40 Try.sizeOf40 rfl (fun h => by cases h) <| wpl_yes (d := 71) rfl rfl (congrArg Value.bool hb4) <| s_ld (i := 1) (cs := [vI x5.1.Log, vI x5.1.Size, vU x5.1.Root.1, vU x5.1.Root.2, vI x5.1.At, vU x5.1.Sig.E, vU x5.1.Sig.S]) S31 rfl rfl Try.isAgg57 Try.sizeOf57 rfl (fun h => by cases h) <| wpl_yes (d := 71) rfl rfl (congrArg Value.bool hb4) ?_
     obtain ⟨x11, q11, q9⟩ := obind_some q9
     refine s_call Try.call20 (w_logd_CheckHead (a0 := (⟨a3, x4.1.Key, x4.1.Delay⟩ : g_api_Key)) (a1 := x5.1) S31  q11) rfl ?_
     rintro _ w23 ⟨m20, l20, S32, rfl⟩
     replace L2 := Mem.tr L2 l20
     clear S31
     refine wpl_yes (d := 71) rfl rfl (congrArg Value.bool hb4) <| s_neq (m := x11) (n := 240) rfl rfl <| wpl_yes (d := 66) rfl rfl (congrArg Value.bool hb3) <| s_pickF (congrArg Value.bool hb4) rfl <| s_pickT (congrArg Value.bool hb3) rfl <| wpl_nil (nrm ?_)
     have e0 := Option.some.inj q9
     subst e0
     exact ⟨outP, m20, L2, S32, ⟨rfl, trivial⟩⟩
   replace q9 := ifF hb3 q9
   refine wpl_no (d := 66) rfl rfl (congrArg Value.bool hb3) <| wpl_no (d := 66) rfl rfl (congrArg Value.bool hb3) <| wpl_no (d := 66) rfl rfl (congrArg Value.bool hb3) <| wpl_no (d := 66) rfl rfl (congrArg Value.bool hb3) <| wpl_no (d := 66) rfl rfl (congrArg Value.bool hb3) <| wpl_no' (d := 71) rfl rfl rfl <| wpl_no' (d := 71) rfl rfl rfl <| wpl_no' (d := 71) rfl rfl rfl <| wpl_no' (d := 71) rfl rfl rfl <| wpl_no (d := 66) rfl rfl (congrArg Value.bool hb3) <| s_pickF (congrArg Value.bool hb3) rfl <| wpl_nil (nrm ?_)
   have e0 := Option.some.inj q9
   subst e0
   exact ⟨outP, m13, L2, S30, ⟨rfl, trivial⟩⟩
 rintro f3 w24 ho ⟨m21, l21, S33, ha⟩
 obtain ⟨u3, rfl⟩ := fr_of (N := 90) ho ha
 replace h1 := h1.up l21
 replace h2 := h2.up l21
 replace h3 := h3.up l21
 replace a0h3 := a0h3.up l21
 replace a0h4 := a0h4.up l21
 replace a0h5 := a0h5.up l21
 replace L0 := Mem.tr L0 l21
 clear S30
 refine wpl_nil <| nrm <| wpc_if (t := x9) rfl (fun hc5 => ?_) (fun hc5 => ?_)
 · replace hm := ifT hc5 hm
   refine wpc_seq <| wpc_region <| s_asv (v := vb false) rfl <| wpl_nil <| nrm <| wpc_ret <| thR <| outRw fun we hpd => ?_
   replace S33 := St.pd S33 hpd
   obtain ⟨m22, l22, S34⟩ := St.drop S33 0
   replace h1 := h1.up l22
   replace h2 := h2.up l22
   replace h3 := h3.up l22
   replace a0h3 := a0h3.up l22
   replace a0h4 := a0h4.up l22
   replace a0h5 := a0h5.up l22
   replace L0 := Mem.tr L0 l22
   clear S33
   replace S34 : St _ ((bx b5 [vI x5.1.Log, vI x5.1.Size, vU x5.1.Root.1, vU x5.1.Root.2, vI x5.1.At, vU x5.1.Sig.E, vU x5.1.Sig.S] 57) :: (bx b4 [vI x4.1.Log, vU x4.1.Key, vI x4.1.Delay] 40) :: (bx b3 [vI x3.2.1.Log, vI x3.2.1.At, vU x3.2.1.Leaf.1, vU x3.2.1.Leaf.2, vU x3.2.1.Sig.E, vU x3.2.1.Sig.S] 35) :: (bx b2 [vI x3.1.Id, vU x3.1.Key, vI x3.1.Delay, v1, v2, v3] 26) :: (bx b1 [vI a0.Id, vU a0.Key, vI a0.Delay, a0v3, a0v4, a0v5] 26) :: As) _ := S34
   obtain ⟨m23, l23, S35⟩ := St.drop S34 0
   replace h1 := h1.up l23
   replace h2 := h2.up l23
   replace h3 := h3.up l23
   replace a0h3 := a0h3.up l23
   replace a0h4 := a0h4.up l23
   replace a0h5 := a0h5.up l23
   replace L0 := Mem.tr L0 l23
   clear S34
   replace S35 : St _ ((bx b4 [vI x4.1.Log, vU x4.1.Key, vI x4.1.Delay] 40) :: (bx b3 [vI x3.2.1.Log, vI x3.2.1.At, vU x3.2.1.Leaf.1, vU x3.2.1.Leaf.2, vU x3.2.1.Sig.E, vU x3.2.1.Sig.S] 35) :: (bx b2 [vI x3.1.Id, vU x3.1.Key, vI x3.1.Delay, v1, v2, v3] 26) :: (bx b1 [vI a0.Id, vU a0.Key, vI a0.Delay, a0v3, a0v4, a0v5] 26) :: As) _ := S35
   obtain ⟨m24, l24, S36⟩ := St.drop S35 0
   replace h1 := h1.up l24
   replace h2 := h2.up l24
   replace h3 := h3.up l24
   replace a0h3 := a0h3.up l24
   replace a0h4 := a0h4.up l24
   replace a0h5 := a0h5.up l24
   replace L0 := Mem.tr L0 l24
   clear S35
   replace S36 : St _ ((bx b3 [vI x3.2.1.Log, vI x3.2.1.At, vU x3.2.1.Leaf.1, vU x3.2.1.Leaf.2, vU x3.2.1.Sig.E, vU x3.2.1.Sig.S] 35) :: (bx b2 [vI x3.1.Id, vU x3.1.Key, vI x3.1.Delay, v1, v2, v3] 26) :: (bx b1 [vI a0.Id, vU a0.Key, vI a0.Delay, a0v3, a0v4, a0v5] 26) :: As) _ := S36
   obtain ⟨m25, l25, S37⟩ := St.drop S36 0
   replace a0h3 := a0h3.up l25
   replace a0h4 := a0h4.up l25
   replace a0h5 := a0h5.up l25
   replace L0 := Mem.tr L0 l25
   clear S36
   replace S37 : St _ ((bx b2 [vI x3.1.Id, vU x3.1.Key, vI x3.1.Delay, v1, v2, v3] 26) :: (bx b1 [vI a0.Id, vU a0.Key, vI a0.Delay, a0v3, a0v4, a0v5] 26) :: As) _ := S37
   obtain ⟨m26, l26, S38⟩ := St.drop S37 0
   replace L0 := Mem.tr L0 l26
   clear S37
   replace S38 : St _ ((bx b1 [vI a0.Id, vU a0.Key, vI a0.Delay, a0v3, a0v4, a0v5] 26) :: As) _ := S38
   obtain ⟨m27, l27, S39⟩ := St.drop S38 0
   replace L0 := Mem.tr L0 l27
   clear S38
   replace S39 : St _ (As) _ := S39
   have e0 := Option.some.inj hm
   subst e0
   exact outR [_] rfl ⟨rfl, trivial⟩ ⟨_, L0, S39, rfl⟩
 replace hm := ifF hc5 hm
 refine wpc_skip <| nrm <| wpc_seq <| wpc_region <| s_fld (n := 0) rfl Try.underlying35 rfl rfl Try.sizeOf3 <| s_stL (i := 3) S33 rfl rfl rfl Try.sizeOf3 (oneC rfl oneN) rfl fun w25 S40 => ?_
 replace S40 : St _ ((bx b6 [vI a3, vU x4.1.Key, vI x4.1.Delay] 40) :: (bx b5 [vI x5.1.Log, vI x5.1.Size, vU x5.1.Root.1, vU x5.1.Root.2, vI x5.1.At, vU x5.1.Sig.E, vU x5.1.Sig.S] 57) :: (bx b4 [vI x4.1.Log, vU x4.1.Key, vI x4.1.Delay] 40) :: (bx b3 [vI x3.2.1.Log, vI (-1), vU x3.2.1.Leaf.1, vU x3.2.1.Leaf.2, vU x3.2.1.Sig.E, vU x3.2.1.Sig.S] 35) :: (bx b2 [vI x3.1.Id, vU x3.1.Key, vI x3.1.Delay, v1, v2, v3] 26) :: (bx b1 [vI a0.Id, vU a0.Key, vI a0.Delay, a0v3, a0v4, a0v5] 26) :: As) _ := S40
 clear S33
 refine wpl_nil <| nrm <| wpc_seq <| wpc_region <| s_fld (n := 0) rfl Try.underlying57 rfl rfl Try.sizeOf3 <| s_stL (i := 1) S40 rfl rfl rfl Try.sizeOf3 (oneC rfl oneN) rfl fun w26 S41 => ?_
 replace S41 : St _ ((bx b6 [vI a3, vU x4.1.Key, vI x4.1.Delay] 40) :: (bx b5 [vI x5.1.Log, vI (-1), vU x5.1.Root.1, vU x5.1.Root.2, vI x5.1.At, vU x5.1.Sig.E, vU x5.1.Sig.S] 57) :: (bx b4 [vI x4.1.Log, vU x4.1.Key, vI x4.1.Delay] 40) :: (bx b3 [vI x3.2.1.Log, vI (-1), vU x3.2.1.Leaf.1, vU x3.2.1.Leaf.2, vU x3.2.1.Sig.E, vU x3.2.1.Sig.S] 35) :: (bx b2 [vI x3.1.Id, vU x3.1.Key, vI x3.1.Delay, v1, v2, v3] 26) :: (bx b1 [vI a0.Id, vU a0.Key, vI a0.Delay, a0v3, a0v4, a0v5] 26) :: As) _ := S41
 clear S40
 refine wpl_nil <| nrm <| wpc_seq <| wpc_region <| s_ld (i := 2) (cs := [vI x4.1.Log, vU x4.1.Key, vI x4.1.Delay]) S41 rfl rfl Try.isAgg40 Try.sizeOf40 rfl (fun h => by cases h) <| s_ld (i := 3) (cs := [vI x3.2.1.Log, vI (-1), vU x3.2.1.Leaf.1, vU x3.2.1.Leaf.2, vU x3.2.1.Sig.E, vU x3.2.1.Sig.S]) S41 rfl rfl Try.isAgg35 Try.sizeOf35 rfl (fun h => by cases h) ?_
 obtain ⟨x12, q12, hm⟩ := obind_some hm
 refine s_call Try.call14 (w_logd_CheckPromise (a0 := x4.1) (a1 := (⟨x3.2.1.Log, (-1), x3.2.1.Leaf, x3.2.1.Sig⟩ : g_api_Promise)) S41  q12) rfl ?_
 rintro _ w27 ⟨m28, l28, S42, rfl⟩
 replace h1 := h1.up l28
 replace h2 := h2.up l28
 replace h3 := h3.up l28
 replace a0h3 := a0h3.up l28
 replace a0h4 := a0h4.up l28
 replace a0h5 := a0h5.up l28
 replace L0 := Mem.tr L0 l28
 clear S41
 refine s_eql (m := x12) (n := 1) rfl rfl <| s_mvv (v := vb (x12 == 1)) rfl ?_
 obtain ⟨x14, q14, hm⟩ := obind_some hm
 have L3 := Mem.rfl' m28
 refine wpl_cut 5 [85, 86, 87, 88, 89] (fun f' w' => ∃ (M3 : Mem), m28 ≤ M3 ∧ St M3 ((bx b6 [vI a3, vU x4.1.Key, vI x4.1.Delay] 40) :: (bx b5 [vI x5.1.Log, vI (-1), vU x5.1.Root.1, vU x5.1.Root.2, vI x5.1.At, vU x5.1.Sig.E, vU x5.1.Sig.S] 57) :: (bx b4 [vI x4.1.Log, vU x4.1.Key, vI x4.1.Delay] 40) :: (bx b3 [vI x3.2.1.Log, vI (-1), vU x3.2.1.Leaf.1, vU x3.2.1.Leaf.2, vU x3.2.1.Sig.E, vU x3.2.1.Sig.S] 35) :: (bx b2 [vI x3.1.Id, vU x3.1.Key, vI x3.1.Delay, v1, v2, v3] 26) :: (bx b1 [vI a0.Id, vU a0.Key, vI a0.Delay, a0v3, a0v4, a0v5] 26) :: As) w' ∧ AllAt f' [(89, vb x14)]) ?_ ?_
 · rcases bool_tf (x12 == 1) with hb5 | hb5
   · replace q14 := ifT hb5 q14
     refine wpl_yes (d := 84) rfl rfl (congrArg Value.bool hb5) <| s_ld (i := 2) (cs := [vI x4.1.Log, vU x4.1.Key, vI x4.1.Delay]) S42 rfl rfl Try.isAgg40 Try.sizeOf40 rfl (fun h => by cases h) <| wpl_yes (d := 84) rfl rfl (congrArg Value.bool hb5) <| s_ld (i := 1) (cs := [vI x5.1.Log, vI (-1), vU x5.1.Root.1, vU x5.1.Root.2, vI x5.1.At, vU x5.1.Sig.E, vU x5.1.Sig.S]) S42 rfl rfl Try.isAgg57 Try.sizeOf57 rfl (fun h => by cases h) <| wpl_yes (d := 84) rfl rfl (congrArg Value.bool hb5) ?_
     obtain ⟨x15, q15, q14⟩ := obind_some q14
     refine s_call Try.call20 (w_logd_CheckHead (a0 := x4.1) (a1 := (⟨x5.1.Log, (-1), x5.1.Root, x5.1.At, x5.1.Sig⟩ : g_api_Head)) S42  q15) rfl ?_
     rintro _ w29 ⟨m30, l30, S44, rfl⟩
     replace L3 := Mem.tr L3 l30
     clear S42
     refine wpl_yes (d := 84) rfl rfl (congrArg Value.bool hb5) <| s_eql (m := x15) (n := 1) rfl rfl <| s_pickT (congrArg Value.bool hb5) rfl <| wpl_nil (nrm ?_)
     have e0 := Option.some.inj q14
     subst e0
     exact ⟨outP, m30, L3, S44, ⟨rfl, trivial⟩⟩
   replace q14 := ifF hb5 q14
   refine wpl_no (d := 84) rfl rfl (congrArg Value.bool hb5) <| wpl_no (d := 84) rfl rfl (congrArg Value.bool hb5) <| wpl_no (d := 84) rfl rfl (congrArg Value.bool hb5) <| wpl_no (d := 84) rfl rfl (congrArg Value.bool hb5) <| s_pickF (congrArg Value.bool hb5) rfl <| wpl_nil (nrm ?_)
   have e0 := Option.some.inj q14
   subst e0
   exact ⟨outP, m28, L3, S42, ⟨rfl, trivial⟩⟩
 rintro f4 w30 ho ⟨m31, l31, S45, ha⟩
 obtain ⟨u4, rfl⟩ := fr_of (N := 90) ho ha
 replace h1 := h1.up l31
 replace h2 := h2.up l31
 replace h3 := h3.up l31
 replace a0h3 := a0h3.up l31
 replace a0h4 := a0h4.up l31
 replace a0h5 := a0h5.up l31
 replace L0 := Mem.tr L0 l31
 clear S42
 refine s_asv (v := vb x14) rfl <| wpl_nil <| nrm <| wpc_ret <| outRw fun we hpd => ?_
 replace S45 := St.pd S45 hpd
 obtain ⟨m32, l32, S46⟩ := St.drop S45 0
 replace h1 := h1.up l32
 replace h2 := h2.up l32
 replace h3 := h3.up l32
 replace a0h3 := a0h3.up l32
 replace a0h4 := a0h4.up l32
 replace a0h5 := a0h5.up l32
 replace L0 := Mem.tr L0 l32
 clear S45
 replace S46 : St _ ((bx b5 [vI x5.1.Log, vI (-1), vU x5.1.Root.1, vU x5.1.Root.2, vI x5.1.At, vU x5.1.Sig.E, vU x5.1.Sig.S] 57) :: (bx b4 [vI x4.1.Log, vU x4.1.Key, vI x4.1.Delay] 40) :: (bx b3 [vI x3.2.1.Log, vI (-1), vU x3.2.1.Leaf.1, vU x3.2.1.Leaf.2, vU x3.2.1.Sig.E, vU x3.2.1.Sig.S] 35) :: (bx b2 [vI x3.1.Id, vU x3.1.Key, vI x3.1.Delay, v1, v2, v3] 26) :: (bx b1 [vI a0.Id, vU a0.Key, vI a0.Delay, a0v3, a0v4, a0v5] 26) :: As) _ := S46
 obtain ⟨m33, l33, S47⟩ := St.drop S46 0
 replace h1 := h1.up l33
 replace h2 := h2.up l33
 replace h3 := h3.up l33
 replace a0h3 := a0h3.up l33
 replace a0h4 := a0h4.up l33
 replace a0h5 := a0h5.up l33
 replace L0 := Mem.tr L0 l33
 clear S46
 replace S47 : St _ ((bx b4 [vI x4.1.Log, vU x4.1.Key, vI x4.1.Delay] 40) :: (bx b3 [vI x3.2.1.Log, vI (-1), vU x3.2.1.Leaf.1, vU x3.2.1.Leaf.2, vU x3.2.1.Sig.E, vU x3.2.1.Sig.S] 35) :: (bx b2 [vI x3.1.Id, vU x3.1.Key, vI x3.1.Delay, v1, v2, v3] 26) :: (bx b1 [vI a0.Id, vU a0.Key, vI a0.Delay, a0v3, a0v4, a0v5] 26) :: As) _ := S47
 obtain ⟨m34, l34, S48⟩ := St.drop S47 0
 replace h1 := h1.up l34
 replace h2 := h2.up l34
 replace h3 := h3.up l34
 replace a0h3 := a0h3.up l34
 replace a0h4 := a0h4.up l34
 replace a0h5 := a0h5.up l34
 replace L0 := Mem.tr L0 l34
 clear S47
 replace S48 : St _ ((bx b3 [vI x3.2.1.Log, vI (-1), vU x3.2.1.Leaf.1, vU x3.2.1.Leaf.2, vU x3.2.1.Sig.E, vU x3.2.1.Sig.S] 35) :: (bx b2 [vI x3.1.Id, vU x3.1.Key, vI x3.1.Delay, v1, v2, v3] 26) :: (bx b1 [vI a0.Id, vU a0.Key, vI a0.Delay, a0v3, a0v4, a0v5] 26) :: As) _ := S48
 obtain ⟨m35, l35, S49⟩ := St.drop S48 0
 replace a0h3 := a0h3.up l35
 replace a0h4 := a0h4.up l35
 replace a0h5 := a0h5.up l35
 replace L0 := Mem.tr L0 l35
 clear S48
 replace S49 : St _ ((bx b2 [vI x3.1.Id, vU x3.1.Key, vI x3.1.Delay, v1, v2, v3] 26) :: (bx b1 [vI a0.Id, vU a0.Key, vI a0.Delay, a0v3, a0v4, a0v5] 26) :: As) _ := S49
 obtain ⟨m36, l36, S50⟩ := St.drop S49 0
 replace L0 := Mem.tr L0 l36
 clear S49
 replace S50 : St _ ((bx b1 [vI a0.Id, vU a0.Key, vI a0.Delay, a0v3, a0v4, a0v5] 26) :: As) _ := S50
 obtain ⟨m37, l37, S51⟩ := St.drop S50 0
 replace L0 := Mem.tr L0 l37
 clear S50
 replace S51 : St _ (As) _ := S51
 have e0 := Option.some.inj hm
 subst e0
 exact outR [_] rfl ⟨rfl, trivial⟩ ⟨_, L0, S51, rfl⟩

end Go.Proofs.Ytemiampgjgenhaa
