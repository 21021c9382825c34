/- The walks of some functions, written by program. Conditions: none. -/
import Derived.Test.YtemiampgjgenhaaGreatWkG
set_option maxHeartbeats 20000000
set_option maxRecDepth 100000
set_option linter.unusedVariables false
set_option linter.unusedSimpArgs false
namespace Go.Proofs.YtemiampgjgenhaaGreat
open Go Go.Gw Tryz

def m_ref24_PromBytes (a0 : g_api_Promise) : Option (List UInt8) :=
  obind (m_ref04_Eight (toU a0.Log)) fun x1 =>
  obind (app 1 ([112, 114, 111, 109, 105, 115, 101] : List UInt8) x1) fun x2 =>
  obind (m_ref04_Eight (toU a0.At)) fun x3 =>
  obind (app 1 x2 x3) fun x4 =>
  obind (m_ref02_Bytes a0.Leaf) fun x5 =>
  obind (app 1 x4 x5) fun x6 =>
  some x6

theorem w_ref24_PromBytes {m : Mem} {As : List Ow} {w : World} {a0 : g_api_Promise} {r : List UInt8} (S : St m (As) w) (hm : m_ref24_PromBytes a0 = some r) :
    CallsR Tryz.prog 59 #[.agg (c_api_Promise a0).toArray] w fun v w' => ∃ (M : Mem), m ≤ M ∧ ∃ (rv0 : Value) (rc0 : List Value), St M ((row 1 rv0 rc0 r.length) :: As) w' ∧ v = rv0 ∧ RepL M rc0 r := by
 unfold m_ref24_PromBytes at hm
 have L0 := Mem.rfl' m
 refine callsR (args := [.agg (c_api_Promise a0).toArray]) func59 rfl ntmps59 (nb rfl) <| ws <| s_box S rfl fun b1 w1 S1 => ?_
 replace S1 : St _ ((bx b1 (c_api_Promise a0) 45) :: As) _ := S1
 clear S
 refine s_asv (v := .slice none 0 0) rfl <| nx <| s_litOC (parts := [.const (.int .u8 112), .const (.int .u8 114), .const (.int .u8 111), .const (.int .u8 109), .const (.int .u8 105), .const (.int .u8 115), .const (.int .u8 101)]) (vs := [vB 112, vB 114, vB 111, vB 109, vB 105, vB 115, vB 101]) (cls := [[vB 112], [vB 114], [vB 111], [vB 109], [vB 105], [vB 115], [vB 101]]) (n := 7) (sz := 1) S1 underlying27 sizeOf5 zeroValue5 rfl ⟨rfl, rfl, rfl, rfl, rfl, rfl, rfl, trivial⟩ rfl rfl (by decide) (by decide) fun v1 w2 S2 => ?_
 have h1 : RepL m [vB 112, vB 114, vB 111, vB 109, vB 105, vB 115, vB 101] ([112, 114, 111, 109, 105, 115, 101] : List UInt8) := (RepL.cons (c := [vB 112]) (x := 112) rfl (RepL.cons (c := [vB 114]) (x := 114) rfl (RepL.cons (c := [vB 111]) (x := 111) rfl (RepL.cons (c := [vB 109]) (x := 109) rfl (RepL.cons (c := [vB 105]) (x := 105) rfl (RepL.cons (c := [vB 115]) (x := 115) rfl (RepL.cons (c := [vB 101]) (x := 101) rfl RepL.nil)))))))
 replace S2 : St _ ((row 1 v1 [vB 112, vB 114, vB 111, vB 109, vB 105, vB 115, vB 101] ([112, 114, 111, 109, 105, 115, 101] : List UInt8).length) :: (bx b1 (c_api_Promise a0) 45) :: As) _ := S2
 clear S1
 refine s_mark (i := 0) S2 rfl rfl (nb rfl) underlying27 underlying5 fun w3 S3 => ?_
 clear S2
 refine s_asv (v := v1) rfl <| nx <| s_mvv (v := v1) rfl <| s_fld (n := 0) rfl underlying45 rfl rfl sizeOf3 <| s_ld (i := 1) (cs := [vI a0.Log]) S3 rfl rfl isAgg3 sizeOf3 rfl (fun _ => rfl) <| s_convU rfl underlying3 underlying22 ?_
 obtain ⟨x1, q1, hm⟩ := obind_some hm
 refine s_call call93 (w_ref04_Eight (a0 := (toU a0.Log)) S3  q1) rfl ?_
 rintro v2 w4 ⟨m1, l1, _, c1, S4, rfl, h2⟩
 clear S3
 obtain ⟨m2, l2, h3, S5⟩ := St.rowKeepT (i := 0) S4 rfl h2 rfl
 clear S4
 obtain ⟨x2, q2, hm⟩ := obind_some hm
 replace h1 := RepL.up (mt l1 l2) h1
 refine s_app (i := 0) (zs := x2) (bytes := 1) (ti := Tryz.t5) S5 rfl rfl h1 rfl rfl h3 q2 underlying27 type5 rfl rfl rfl rfl fun v3 c2 w5 S6 h4 => ?_
 replace S6 : St _ ((row 1 v3 c2 x2.length) :: (bx b1 (c_api_Promise a0) 45) :: As) _ := S6
 clear S5
 refine s_asv (v := v3) rfl <| nx <| s_mvv (v := v3) rfl <| s_fld (n := 0) rfl underlying45 rfl rfl sizeOf3 <| s_ld (i := 1) (cs := [vI a0.At]) S6 rfl rfl isAgg3 sizeOf3 rfl (fun _ => rfl) <| s_convU rfl underlying3 underlying22 ?_
 obtain ⟨x3, q3, hm⟩ := obind_some hm
 refine s_call call93 (w_ref04_Eight (a0 := (toU a0.At)) S6  q3) rfl ?_
 rintro v4 w6 ⟨m3, l3, _, c3, S7, rfl, h5⟩
 clear S6
 obtain ⟨m4, l4, h6, S8⟩ := St.rowKeepT (i := 0) S7 rfl h5 rfl
 clear S7
 obtain ⟨x4, q4, hm⟩ := obind_some hm
 replace h4 := RepL.up (mt l3 l4) h4
 refine s_app (i := 0) (zs := x4) (bytes := 1) (ti := Tryz.t5) S8 rfl rfl h4 rfl rfl h6 q4 underlying27 type5 rfl rfl rfl rfl fun v5 c4 w7 S9 h7 => ?_
 replace S9 : St _ ((row 1 v5 c4 x4.length) :: (bx b1 (c_api_Promise a0) 45) :: As) _ := S9
 clear S8
 refine s_asv (v := v5) rfl <| nx <| s_mvv (v := v5) rfl <| s_fld (n := 1) rfl underlying45 rfl rfl sizeOf41 <| s_ld (i := 1) (cs := [vU a0.Leaf.1, vU a0.Leaf.2]) S9 rfl rfl isAgg41 sizeOf41 rfl (fun h => by cases h) ?_
 obtain ⟨x5, q5, hm⟩ := obind_some hm
 refine s_call call97 (w_ref02_Bytes (a0 := a0.Leaf) S9  q5) rfl ?_
 rintro v6 w8 ⟨m5, l5, _, c5, S10, rfl, h8⟩
 clear S9
 obtain ⟨m6, l6, h9, S11⟩ := St.rowKeepT (i := 0) S10 rfl h8 rfl
 clear S10
 obtain ⟨x6, q6, hm⟩ := obind_some hm
 replace h7 := RepL.up (mt l5 l6) h7
 refine s_app (i := 0) (zs := x6) (bytes := 1) (ti := Tryz.t5) S11 rfl rfl h7 rfl rfl h9 q6 underlying27 type5 rfl rfl rfl rfl fun v7 c6 w9 S12 h10 => ?_
 replace S12 : St _ ((row 1 v7 c6 x6.length) :: (bx b1 (c_api_Promise a0) 45) :: As) _ := S12
 clear S11
 refine s_asv (v := v7) rfl <| wpl_nil <| nrm <| wpc_ret <| outRw fun we hpd => ?_
 replace S12 := St.pd S12 hpd
 obtain ⟨m7, l7, S13⟩ := St.drop S12 1
 clear S12
 replace S13 : St _ ((row 1 v7 c6 x6.length) :: As) _ := S13
 have e0 := Option.some.inj hm
 subst e0
 replace L0 := Mem.tr L0 (mt l1 (mt l2 (mt l3 (mt l4 (mt l5 (mt l6 l7))))))
 replace h10 := RepL.up l7 h10
 exact outR [_] rfl ⟨rfl, trivial⟩ ⟨_, L0, _, _, S13, rfl, h10⟩

end Go.Proofs.YtemiampgjgenhaaGreat
