/- The law LogdSigned: it tells true of every input, and leaves its arguments as they were. Conditions: none. -/
import Derived.Test.YtemiampgjgenhaaGreatGwJ
import Derived.Test.YtemiampgjgenhaaGreatLwS
import Derived.Test.YtemiampgjgenhaaGreatRows
import Derived.WalkKit
import Derived.ProofKit
import Derived.OpenShut
import Derived.Deep.DeepHandedRow
import Derived.Lib.LaidTab
import Derived.SevenTiedAt
import Derived.Stop.LaidErr
set_option linter.unusedSimpArgs false
set_option linter.unusedVariables false
set_option maxHeartbeats 2000000
set_option maxRecDepth 100000
namespace Go.Proofs.YtemiampgjgenhaaGreat.lawLogdSigned
open Go Go.Gw Go.ChangeShapes Go.WideShapes Go.ChangeAt Go.RowKit

theorem own : ownKnob Tryz.prog.godebug = none := by kernel_rfl
theorem rd3 : Rd Tryz.prog 3 (Int) := Rd.int Tryz.underlying3
theorem rd22 : Rd Tryz.prog 22 (UInt64) := Rd.u64 Tryz.underlying22
theorem rd34 : Rd Tryz.prog 34 (g_api_Key) := Rd.struct Tryz.underlying34 (RdFs.more rfl rd3 (by kernel_rfl) (RdFs.more rfl rd22 (by kernel_rfl) (RdFs.last rfl rd3 (by kernel_rfl)))) (by kernel_rfl) (fun b => ⟨b.1, b.2.1, b.2.2⟩) (fun h => h)
theorem rd41 : Rd Tryz.prog 41 (UInt64 × UInt64) := Rd.arr2 Tryz.underlying41 rd22 (by kernel_rfl) (by kernel_rfl)
theorem rd43 : Rd Tryz.prog 43 (g_api_Sig) := Rd.struct Tryz.underlying43 (RdFs.more rfl rd22 (by kernel_rfl) (RdFs.last rfl rd22 (by kernel_rfl))) (by kernel_rfl) (fun b => ⟨b.1, b.2⟩) (fun h => h)
theorem rd45 : Rd Tryz.prog 45 (g_api_Promise) := Rd.struct Tryz.underlying45 (RdFs.more rfl rd3 (by kernel_rfl) (RdFs.more rfl rd3 (by kernel_rfl) (RdFs.more rfl rd41 (by kernel_rfl) (RdFs.last rfl rd43 (by kernel_rfl))))) (by kernel_rfl) (fun b => ⟨b.1, b.2.1, b.2.2.1, b.2.2.2⟩) (fun h => h)
theorem rd51 : Rd Tryz.prog 51 (g_api_Head) := Rd.struct Tryz.underlying51 (RdFs.more rfl rd3 (by kernel_rfl) (RdFs.more rfl rd3 (by kernel_rfl) (RdFs.more rfl rd41 (by kernel_rfl) (RdFs.more rfl rd3 (by kernel_rfl) (RdFs.last rfl rd43 (by kernel_rfl)))))) (by kernel_rfl) (fun b => ⟨b.1, b.2.1, b.2.2.1, b.2.2.2.1, b.2.2.2.2⟩) (fun h => h)
theorem rp_g_api_Key {m : Mem} {cs : List Value} {x : g_api_Key} (h : GoT.rep m cs x) : cs = [vI x.Log, vU x.Key, vI x.Delay] := by
  obtain ⟨_, _, rfl, rfl, ⟨_, _, rfl, rfl, rfl⟩⟩ := h
  exact rfl
theorem rp_g_api_Head {m : Mem} {cs : List Value} {x : g_api_Head} (h : GoT.rep m cs x) : cs = [vI x.Log, vI x.Size, vU x.Root.1, vU x.Root.2, vI x.At, vU x.Sig.E, vU x.Sig.S] := by
  obtain ⟨_, _, rfl, rfl, ⟨_, _, rfl, rfl, ⟨_, _, rfl, ⟨_, _, rfl, rfl, rfl⟩, ⟨_, _, rfl, rfl, ⟨_, _, rfl, rfl, rfl⟩⟩⟩⟩⟩ := h
  exact rfl
theorem rp_g_api_Promise {m : Mem} {cs : List Value} {x : g_api_Promise} (h : GoT.rep m cs x) : cs = [vI x.Log, vI x.At, vU x.Leaf.1, vU x.Leaf.2, vU x.Sig.E, vU x.Sig.S] := by
  obtain ⟨_, _, rfl, rfl, ⟨_, _, rfl, rfl, ⟨_, _, rfl, ⟨_, _, rfl, rfl, rfl⟩, ⟨_, _, rfl, rfl, rfl⟩⟩⟩⟩ := h
  exact rfl

theorem contract (H : Type) (enc : TypeId × Value → H) (W : World) (base : Nat) (args : Array Value) (ds gs : List (DataW H)) (before : List MemPlace)
    (hval : ∀ (j : Nat) t v, Tryz.f5.params[j]? = some t → args[j]? = some v → Value.okWide Tryz.prog W .any base t v)
    (hW : DataW.Whole enc Tryz.prog Tryz.f5.params.toList Rows.logdSignedSpec.vars false W args.toList ds gs before) (hL : laidMetH Tryz.prog Rows.logdSignedRow.laid W) :
    Calls Tryz.prog 5 args W fun e W' => ∃ v, e = .returned v ∧ Rows.logdSignedSpec.post enc Tryz.prog Tryz.f5 false true false false W args v W' := by
  have hW' := hW
  obtain ⟨p, q, hA0, hV, rfl, hfz, hnd⟩ := hW
  obtain ⟨rfl, rfl⟩ := trodVars_none hV
  rw [List.append_nil] at hW'
  have hA : DataW.TrodAll enc Tryz.prog W 0 (fun _ => true) true Tryz.f5.params.toList args.toList ds p := hA0
  have hA1 := hA
  have hpl : Tryz.f5.params.toList = [34, 45, 51] := by rw [Tryz.params5]
  rw [hpl] at hA1
  obtain ⟨v0, w0, d0, e0, p0, q0, ha0, he0, hp0, h0, r0⟩ := trodAll_cons hA1
  obtain ⟨v1, w1, d1, e1, p1, q1, ha1, he1, hp1, h1, r1⟩ := trodAll_cons r0
  obtain ⟨v2, w2, d2, e2, p2, q2, ha2, he2, hp2, h2, r2⟩ := trodAll_cons r1
  obtain ⟨z1, z2, z3⟩ := trodAll_nil r2
  obtain rfl : args = #[v0, v1, v2] := by
    apply Array.ext'; rw [ha0, ha1, ha2, z1]
  obtain rfl : ds = [d0, d1, d2] := by rw [he0, he1, he2, z2]
  rw [Tryz.params5] at hval
  obtain ⟨c0, rfl, _⟩ := okWide_struct Tryz.underlying34 (hval 0 34 v0 rfl rfl)
  obtain ⟨a0, s0⟩ := rd34.openA h0
  obtain rfl := arr_of (rp_g_api_Key s0)
  obtain ⟨c1, rfl, _⟩ := okWide_struct Tryz.underlying45 (hval 1 45 v1 rfl rfl)
  obtain ⟨a1, s1⟩ := rd45.openA h1
  obtain rfl := arr_of (rp_g_api_Promise s1)
  obtain ⟨c2, rfl, _⟩ := okWide_struct Tryz.underlying51 (hval 2 51 v2 rfl rfl)
  obtain ⟨a2, s2⟩ := rd51.openA h2
  obtain rfl := arr_of (rp_g_api_Head s2)
  have hc := w_law24_LogdSigned (St.of W)  (signed_true a0 a1 a2)
  refine Calls.mono hc ?_
  rintro e W' ⟨v, rfl, hk, M, hle, S, rfl⟩
  refine ⟨.bool true, rfl, post_true (tb := 4) (by kernel_rfl) (by kernel_rfl) rfl (by kernel_rfl) Tryz.underlying4 hW' hA rfl rfl rfl hle S hk⟩

/-- A world for the witness: the tables hold what their initialisers lay. -/
noncomputable def laidWorld (os : Os) : World :=
  { World.holding Tryz.prog os ⟨#[], #[], []⟩ with heap := (World.holding Tryz.prog os ⟨#[], #[], []⟩).heap }
theorem laid_met (os : Os) : laidMet Tryz.prog Rows.logdSignedRow.laid ((laidWorld os).forCall (fun _ _ => 0) ⟨#[], #[(.agg #[.int .i64 0, .int .u64 0, .int .i64 0] : Value), (.agg #[.int .i64 0, .int .i64 0, .int .u64 0, .int .u64 0, .int .u64 0, .int .u64 0] : Value), (.agg #[.int .i64 0, .int .i64 0, .int .u64 0, .int .u64 0, .int .i64 0, .int .u64 0, .int .u64 0] : Value)], []⟩).memory :=
  laidMet_of_run' 8 (by kernel_rfl) (by kernel_rfl)
theorem reads (os : Os) {H : Type} (enc : TypeId × Value → H) : ∃ places, DataW.whole enc Tryz.prog ((laidWorld os).forCall (fun _ _ => 0) ⟨#[], #[(.agg #[.int .i64 0, .int .u64 0, .int .i64 0] : Value), (.agg #[.int .i64 0, .int .i64 0, .int .u64 0, .int .u64 0, .int .u64 0, .int .u64 0] : Value), (.agg #[.int .i64 0, .int .i64 0, .int .u64 0, .int .u64 0, .int .i64 0, .int .u64 0, .int .u64 0] : Value)], []⟩).memory Tryz.f5.params.toList Rows.logdSignedSpec.vars false #[(.agg #[.int .i64 0, .int .u64 0, .int .i64 0] : Value), (.agg #[.int .i64 0, .int .i64 0, .int .u64 0, .int .u64 0, .int .u64 0, .int .u64 0] : Value), (.agg #[.int .i64 0, .int .i64 0, .int .u64 0, .int .u64 0, .int .i64 0, .int .u64 0, .int .u64 0] : Value)].toList 8 = some ([.agg [.lit (.int .i64 0), .lit (.int .u64 0), .lit (.int .i64 0)], .agg [.lit (.int .i64 0), .lit (.int .i64 0), .agg [.lit (.int .u64 0), .lit (.int .u64 0)], .agg [.lit (.int .u64 0), .lit (.int .u64 0)]], .agg [.lit (.int .i64 0), .lit (.int .i64 0), .agg [.lit (.int .u64 0), .lit (.int .u64 0)], .lit (.int .i64 0), .agg [.lit (.int .u64 0), .lit (.int .u64 0)]]], [], places) :=
  ⟨[], by kernel_rfl⟩
theorem lifted (os : Os) (started : os.Started) (H : Type) (enc : TypeId × Value → H) (F : Stop.Interp) :
    ReturnsInHanded {} Tryz.checked os 5 .any ((OpenSpec.ofChange Rows.logdSignedSpec).preRow enc Tryz.prog Tryz.f5 Rows.logdSignedRow.domain false Rows.logdSignedRow.laid) (((OpenSpec.ofChange Rows.logdSignedSpec).at F).post enc Tryz.prog Tryz.f5 false true false false) := by
  obtain ⟨places, hx⟩ := reads os enc
  refine returnsInHanded_of_row (C := Tryz.checked) (s := OpenSpec.ofChange Rows.logdSignedSpec) own started (by kernel_rfl) Tryz.func5
    (witness_row_at (enc := enc) (C := Tryz.checked) false (laidWorld os) #[(.agg #[.int .i64 0, .int .u64 0, .int .i64 0] : Value), (.agg #[.int .i64 0, .int .i64 0, .int .u64 0, .int .u64 0, .int .u64 0, .int .u64 0] : Value), (.agg #[.int .i64 0, .int .i64 0, .int .u64 0, .int .u64 0, .int .i64 0, .int .u64 0, .int .u64 0] : Value)] rfl (by kernel_rfl) (by kernel_rfl) (by kernel_rfl)
      (OpenSpec.preRow_of_cond 8 hx (by kernel_rfl) (fun k hk => by cases hk) (by kernel_rfl) (laid_met os))) ?_
  intro W base args ds gs before hval hW _ _ _ hL _ _
  exact contract H enc W base args ds gs before hval hW hL
theorem said : Rows.LogdSignedSaid :=
  OpenClaim.holds_of_cond 5 Tryz.f5 rfl rfl rfl rfl rfl rfl rfl ⟨rfl, rfl, rfl, rfl, rfl⟩ rfl rfl rfl rfl rfl (by kernel_rfl) Tryz.func5 (by kernel_rfl)
    (of_decide_eq_true (by kernel_rfl)) (by unfold Func.isWrapper; first | (rw [if_pos (by decide +kernel)]; kernel_rfl) | (rw [if_neg (by decide +kernel)]; exact ⟨rfl, rfl⟩))
    (fun os started H enc _ F => by rw [OpenClaim.pre_eq_preRow]; exact lifted os started H enc F)
end Go.Proofs.YtemiampgjgenhaaGreat.lawLogdSigned
