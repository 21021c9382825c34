/- The law LogdViews: it tells true of every input, and leaves its arguments as they were. Conditions: none. -/
import Derived.Test.YtojlmhmiknocmaaGreatZb
import Derived.Test.YtojlmhmiknocmaaGreatZi
import Derived.Test.YtojlmhmiknocmaaGreatZj
import Derived.Test.YtojlmhmiknocmaaGreatRows
import Derived.WalkKit
import Derived.ProofKit
import Derived.OpenShut
import Derived.Deep.DeepHandedRow
import Derived.Lib.LaidTab
import Derived.SevenTiedAt
import Derived.Stop.LaidErr
set_option linter.unusedSimpArgs false
set_option linter.unusedVariables false
set_option maxHeartbeats 2000000
set_option maxRecDepth 100000
namespace Go.Proofs.YtojlmhmiknocmaaGreat.lawLogdViews
open Go Go.Gw Go.ChangeShapes Go.WideShapes Go.ChangeAt Go.RowKit
theorem own : ownKnob Tryz.prog.godebug = none := by kernel_rfl
theorem rd3 : Rd Tryz.prog 3 (Int) := Rd.int Tryz.underlying3
theorem rd22 : Rd Tryz.prog 22 (UInt64) := Rd.u64 Tryz.underlying22
theorem rd5 : Rd Tryz.prog 5 (UInt8) := Rd.u8 Tryz.underlying5
theorem rd51 : Rd Tryz.prog 51 (List UInt8) := Rd.slice Tryz.underlying51 rd5 (by kernel_rfl) (by decide)
theorem rd67 : Rd Tryz.prog 67 (g_api_Leaf) := Rd.struct Tryz.underlying67 (RdFs.more rfl rd51 (by kernel_rfl) (RdFs.last rfl rd3 (by kernel_rfl))) (by kernel_rfl) (fun b => ⟨b.1, b.2⟩) (fun h => h)
theorem rd23 : Rd Tryz.prog 23 (List g_api_Leaf) := Rd.slice Tryz.underlying23 rd67 (by kernel_rfl) (by decide)
theorem rd24 : Rd Tryz.prog 24 (List Int) := Rd.slice Tryz.underlying24 rd3 (by kernel_rfl) (by decide)
theorem rd26 : Rd Tryz.prog 26 (g_api_Log) := Rd.struct Tryz.underlying26 (RdFs.more rfl rd3 (by kernel_rfl) (RdFs.more rfl rd22 (by kernel_rfl) (RdFs.more rfl rd3 (by kernel_rfl) (RdFs.more rfl rd23 (by kernel_rfl) (RdFs.more rfl rd24 (by kernel_rfl) (RdFs.last rfl rd23 (by kernel_rfl))))))) (by kernel_rfl) (fun b => ⟨b.1, b.2.1, b.2.2.1, b.2.2.2.1, b.2.2.2.2.1, b.2.2.2.2.2⟩) (fun h => h)
theorem rp_g_api_Log {m : Mem} {cs : List Value} {x : g_api_Log} (h : GoT.rep m cs x) : ∃ v1, ∃ v2, ∃ v3, cs = [vI x.Id, vU x.Key, vI x.Delay, v1, v2, v3] ∧ SlR m v1 x.L ∧ SlR m v2 x.Hide ∧ SlR m v3 x.Wait := by
  obtain ⟨_, _, rfl, rfl, ⟨_, _, rfl, rfl, ⟨_, _, rfl, rfl, ⟨_, _, rfl, ⟨v1, rfl, h1⟩, ⟨_, _, rfl, ⟨v2, rfl, h2⟩, ⟨v3, rfl, h3⟩⟩⟩⟩⟩⟩ := h
  exact ⟨v1, v2, v3, rfl, h1, h2, h3⟩
theorem contract (H : Type) (enc : TypeId × Value → H) (W : World) (base : Nat) (args : Array Value) (ds gs : List (DataW H)) (before : List MemPlace)
    (hval : ∀ (j : Nat) t v, Tryz.f3.params[j]? = some t → args[j]? = some v → Value.okWide Tryz.prog W .any base t v)
    (hW : DataW.Whole enc Tryz.prog Tryz.f3.params.toList Rows.logdViewsSpec.vars false W args.toList ds gs before) (hL : laidMetH Tryz.prog Rows.logdViewsRow.laid W) :
    Calls Tryz.prog 3 args W fun e W' => ∃ v, e = .returned v ∧ Rows.logdViewsSpec.post enc Tryz.prog Tryz.f3 false true false false W args v W' := by
  have hW' := hW
  obtain ⟨p, q, hA0, hV, rfl, hfz, hnd⟩ := hW
  obtain ⟨rfl, rfl⟩ := trodVars_none hV
  rw [List.append_nil] at hW'
  have hA : DataW.TrodAll enc Tryz.prog W 0 (fun _ => true) true Tryz.f3.params.toList args.toList ds p := hA0
  have hA1 := hA
  have hpl : Tryz.f3.params.toList = [26, 3, 3, 3, 3] := by rw [Tryz.params3]
  rw [hpl] at hA1
  obtain ⟨v0, w0, d0, e0, p0, q0, ha0, he0, hp0, h0, r0⟩ := trodAll_cons hA1
  obtain ⟨v1, w1, d1, e1, p1, q1, ha1, he1, hp1, h1, r1⟩ := trodAll_cons r0
  obtain ⟨v2, w2, d2, e2, p2, q2, ha2, he2, hp2, h2, r2⟩ := trodAll_cons r1
  obtain ⟨v3, w3, d3, e3, p3, q3, ha3, he3, hp3, h3, r3⟩ := trodAll_cons r2
  obtain ⟨v4, w4, d4, e4, p4, q4, ha4, he4, hp4, h4, r4⟩ := trodAll_cons r3
  obtain ⟨z1, z2, z3⟩ := trodAll_nil r4
  obtain rfl : args = #[v0, v1, v2, v3, v4] := by
    apply Array.ext'; rw [ha0, ha1, ha2, ha3, ha4, z1]
  obtain rfl : ds = [d0, d1, d2, d3, d4] := by rw [he0, he1, he2, he3, he4, z2]
  rw [Tryz.params3] at hval
  obtain ⟨c0, rfl, _⟩ := okWide_struct Tryz.underlying26 (hval 0 26 v0 rfl rfl)
  obtain ⟨a0, s0⟩ := rd26.openA h0
  obtain ⟨z0_0, z0_1, z0_2, o0, y0_0, y0_1, y0_2⟩ := rp_g_api_Log s0
  obtain rfl := arr_of o0
  obtain ⟨a1, rfl, _, _, _⟩ := open_int Tryz.underlying3 (hval 1 3 v1 rfl rfl) h1
  obtain ⟨a2, rfl, _, _, _⟩ := open_int Tryz.underlying3 (hval 2 3 v2 rfl rfl) h2
  obtain ⟨a3, rfl, _, _, _⟩ := open_int Tryz.underlying3 (hval 3 3 v3 rfl rfl) h3
  obtain ⟨a4, rfl, _, _, _⟩ := open_int Tryz.underlying3 (hval 4 3 v4 rfl rfl) h4
  have hc := v_law24_LogdViews (St.of W) y0_0 y0_1 y0_2 (views_true a0 a1 a2 a3 a4)
  refine Calls.mono hc ?_
  rintro e W' ⟨v, rfl, hk, M, hle, S, rfl⟩
  refine ⟨.bool true, rfl, post_true (tb := 4) (by kernel_rfl) (by kernel_rfl) rfl (by kernel_rfl) Tryz.underlying4 hW' hA rfl rfl rfl hle S hk⟩
noncomputable def laidWorld (os : Os) : World :=
  { World.holding Tryz.prog os ⟨#[], #[], []⟩ with heap := (World.holding Tryz.prog os ⟨#[], #[], []⟩).heap }
theorem laid_met (os : Os) : laidMet Tryz.prog Rows.logdViewsRow.laid ((laidWorld os).forCall (fun _ _ => 0) ⟨#[], #[(.agg #[.int .i64 0, .int .u64 0, .int .i64 0, .slice none 0 0, .slice none 0 0, .slice none 0 0] : Value), (.int .i64 0 : Value), (.int .i64 0 : Value), (.int .i64 0 : Value), (.int .i64 0 : Value)], []⟩).memory :=
  laidMet_of_run' 8 (by kernel_rfl) (by kernel_rfl)
theorem reads (os : Os) {H : Type} (enc : TypeId × Value → H) : ∃ places, DataW.whole enc Tryz.prog ((laidWorld os).forCall (fun _ _ => 0) ⟨#[], #[(.agg #[.int .i64 0, .int .u64 0, .int .i64 0, .slice none 0 0, .slice none 0 0, .slice none 0 0] : Value), (.int .i64 0 : Value), (.int .i64 0 : Value), (.int .i64 0 : Value), (.int .i64 0 : Value)], []⟩).memory Tryz.f3.params.toList Rows.logdViewsSpec.vars false #[(.agg #[.int .i64 0, .int .u64 0, .int .i64 0, .slice none 0 0, .slice none 0 0, .slice none 0 0] : Value), (.int .i64 0 : Value), (.int .i64 0 : Value), (.int .i64 0 : Value), (.int .i64 0 : Value)].toList 8 = some ([.agg [.lit (.int .i64 0), .lit (.int .u64 0), .lit (.int .i64 0), .nil, .nil, .nil], .lit (.int .i64 0), .lit (.int .i64 0), .lit (.int .i64 0), .lit (.int .i64 0)], [], places) :=
  ⟨[], by kernel_rfl⟩
theorem lifted (os : Os) (started : os.Started) (H : Type) (enc : TypeId × Value → H) (F : Stop.Interp) :
    ReturnsInHanded {} Tryz.checked os 3 .any ((OpenSpec.ofChange Rows.logdViewsSpec).preRow enc Tryz.prog Tryz.f3 Rows.logdViewsRow.domain false Rows.logdViewsRow.laid) (((OpenSpec.ofChange Rows.logdViewsSpec).at F).post enc Tryz.prog Tryz.f3 false true false false) := by
  obtain ⟨places, hx⟩ := reads os enc
  refine returnsInHanded_of_row (C := Tryz.checked) (s := OpenSpec.ofChange Rows.logdViewsSpec) own started (by kernel_rfl) Tryz.func3
    (witness_row_at (enc := enc) (C := Tryz.checked) false (laidWorld os) #[(.agg #[.int .i64 0, .int .u64 0, .int .i64 0, .slice none 0 0, .slice none 0 0, .slice none 0 0] : Value), (.int .i64 0 : Value), (.int .i64 0 : Value), (.int .i64 0 : Value), (.int .i64 0 : Value)] rfl (by kernel_rfl) (by kernel_rfl) (by kernel_rfl)
      (OpenSpec.preRow_of_cond 8 hx (by kernel_rfl) (fun k hk => by cases hk) (by kernel_rfl) (laid_met os))) ?_
  intro W base args ds gs before hval hW _ _ _ hL _ _
  exact contract H enc W base args ds gs before hval hW hL
theorem said : Rows.LogdViewsSaid :=
  OpenClaim.holds_of_cond 3 Tryz.f3 rfl rfl rfl rfl rfl rfl rfl ⟨rfl, rfl, rfl, rfl, rfl⟩ rfl rfl rfl rfl rfl (by kernel_rfl) Tryz.func3 (by kernel_rfl)
    (of_decide_eq_true (by kernel_rfl)) (by unfold Func.isWrapper; first | (rw [if_pos (by decide +kernel)]; kernel_rfl) | (rw [if_neg (by decide +kernel)]; exact ⟨rfl, rfl⟩))
    (fun os started H enc _ F => by rw [OpenClaim.pre_eq_preRow]; exact lifted os started H enc F)
end Go.Proofs.YtojlmhmiknocmaaGreat.lawLogdViews
