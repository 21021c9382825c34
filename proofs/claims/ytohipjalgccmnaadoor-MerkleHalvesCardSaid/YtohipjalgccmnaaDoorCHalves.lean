/- The law MerkleHalves: it tells true of every input, and leaves its arguments as they were. Conditions: none. -/
import Derived.Test.YtohipjalgccmnaaDoorGwJ
import Derived.Test.YtohipjalgccmnaaDoorPf
import Derived.Test.YtohipjalgccmnaaDoorCards
import Derived.Test.YtohipjalgccmnaaDoorTie
import Derived.WalkKit
import Derived.ProofKit
import Derived.OpenShut
import Derived.Deep.DeepHandedRow
import Derived.Lib.LaidTab
import Derived.SevenTiedAt
import Derived.Stop.LaidErr
set_option linter.unusedSimpArgs false
set_option linter.unusedVariables false
set_option maxHeartbeats 2000000
set_option maxRecDepth 100000
namespace Go.Proofs.YtohipjalgccmnaaDoor.lawMerkleHalves
open Go Go.Gw Go.ChangeShapes Go.WideShapes Go.ChangeAt Go.RowKit

theorem own : ownKnob Tryd.prog.godebug = none := by kernel_rfl
theorem gTab1 : Tryd.prog.globalNamed "math/bits.deBruijn64tab" = some 1 := by kernel_rfl
theorem gTabType1 : (Tryd.prog.globals[1]?).map (·.type) = some 91 := by kernel_rfl
theorem table1 {W : World} (h : laidMetH Tryd.prog Rows.merkleHalvesRow.laid W) : PtC (memOf W) (pt 1 0) (tab_1.map vB) :=
  tab_of (Lib.tabIs_of_head (k := .u8) (zs := [0, 1, 56, 2, 57, 49, 28, 3, 61, 58, 42, 50, 38, 29, 17, 4, 62, 47, 59, 36, 45, 43, 51, 22, 53, 39, 33, 30, 24, 18, 12, 5, 63, 55, 48, 27, 60, 41, 37, 16, 46, 35, 44, 21, 52, 32, 23, 11, 54, 26, 40, 15, 34, 20, 31, 10, 25, 14, 19, 9, 13, 8, 7, 6]) gTab1 gTabType1 Tryd.underlying91 Tryd.underlying5 (by kernel_rfl) (by kernel_rfl) (laidMet.tail h)) gTab1 (by kernel_rfl)
theorem rd25 : Rd Tryd.prog 25 (UInt64) := Rd.u64 Tryd.underlying25
theorem rd27 : Rd Tryd.prog 27 (UInt64 × UInt64) := Rd.arr2 Tryd.underlying27 rd25 (by kernel_rfl) (by kernel_rfl)
theorem rd22 : Rd Tryd.prog 22 (List (UInt64 × UInt64)) := Rd.slice Tryd.underlying22 rd27 (by kernel_rfl) (by decide)
theorem rd3 : Rd Tryd.prog 3 (Int) := Rd.int Tryd.underlying3

theorem contract (H : Type) (enc : TypeId × Value → H) (W : World) (base : Nat) (args : Array Value) (ds gs : List (DataW H)) (before : List MemPlace)
    (hval : ∀ (j : Nat) t v, Tryd.f10.params[j]? = some t → args[j]? = some v → Value.okWide Tryd.prog W .any base t v)
    (hW : DataW.Whole enc Tryd.prog Tryd.f10.params.toList Rows.merkleHalvesSpec.vars false W args.toList ds gs before) (hL : laidMetH Tryd.prog Rows.merkleHalvesRow.laid W) :
    Calls Tryd.prog 10 args W fun e W' => ∃ v, e = .returned v ∧ Rows.merkleHalvesSpec.post enc Tryd.prog Tryd.f10 false true false false W args v W' := by
  have hW' := hW
  obtain ⟨p, q, hA0, hV, rfl, hfz, hnd⟩ := hW
  obtain ⟨rfl, rfl⟩ := trodVars_none hV
  rw [List.append_nil] at hW'
  have hA : DataW.TrodAll enc Tryd.prog W 0 (fun _ => true) true Tryd.f10.params.toList args.toList ds p := hA0
  have hA1 := hA
  have hpl : Tryd.f10.params.toList = [22, 22, 3] := by rw [Tryd.params10]
  rw [hpl] at hA1
  obtain ⟨v0, w0, d0, e0, p0, q0, ha0, he0, hp0, h0, r0⟩ := trodAll_cons hA1
  obtain ⟨v1, w1, d1, e1, p1, q1, ha1, he1, hp1, h1, r1⟩ := trodAll_cons r0
  obtain ⟨v2, w2, d2, e2, p2, q2, ha2, he2, hp2, h2, r2⟩ := trodAll_cons r1
  obtain ⟨z1, z2, z3⟩ := trodAll_nil r2
  obtain rfl : args = #[v0, v1, v2] := by
    apply Array.ext'; rw [ha0, ha1, ha2, z1]
  obtain rfl : ds = [d0, d1, d2] := by rw [he0, he1, he2, z2]
  rw [Tryd.params10] at hval
  obtain ⟨x0, l0, c0, rfl⟩ := okWide_slice Tryd.underlying22 (hval 0 22 v0 rfl rfl)
  obtain ⟨a0, s0⟩ := rd22.openS h0
  obtain ⟨x1, l1, c1, rfl⟩ := okWide_slice Tryd.underlying22 (hval 1 22 v1 rfl rfl)
  obtain ⟨a1, s1⟩ := rd22.openS h1
  obtain ⟨a2, rfl, _, _, _⟩ := open_int Tryd.underlying3 (hval 2 3 v2 rfl rfl) h2
  have hc := w_law08_MerkleHalves (St.of W) (table1 hL) s0 s1 (halves_true a0 a1 a2)
  refine Calls.mono hc ?_
  rintro e W' ⟨v, rfl, hk, M, hle, S, rfl⟩
  refine ⟨.bool true, rfl, post_true (tb := 4) (by kernel_rfl) (by kernel_rfl) rfl (by kernel_rfl) Tryd.underlying4 hW' hA rfl rfl rfl hle S hk⟩

/-- A world for the witness: the tables hold what their initialisers lay. -/
noncomputable def laidWorld (os : Os) : World :=
  { World.holding Tryd.prog os ⟨#[], #[], []⟩ with heap := (((World.holding Tryd.prog os ⟨#[], #[], []⟩).heap.modify 0 fun | .cells _ t fr => .cells #[.int .u8 0, .int .u8 1, .int .u8 28, .int .u8 2, .int .u8 29, .int .u8 14, .int .u8 24, .int .u8 3, .int .u8 30, .int .u8 22, .int .u8 20, .int .u8 15, .int .u8 25, .int .u8 17, .int .u8 4, .int .u8 8, .int .u8 31, .int .u8 27, .int .u8 13, .int .u8 23, .int .u8 21, .int .u8 19, .int .u8 16, .int .u8 7, .int .u8 26, .int .u8 12, .int .u8 18, .int .u8 6, .int .u8 11, .int .u8 5, .int .u8 10, .int .u8 9] t fr | o => o).modify 1 fun | .cells _ t fr => .cells #[.int .u8 0, .int .u8 1, .int .u8 56, .int .u8 2, .int .u8 57, .int .u8 49, .int .u8 28, .int .u8 3, .int .u8 61, .int .u8 58, .int .u8 42, .int .u8 50, .int .u8 38, .int .u8 29, .int .u8 17, .int .u8 4, .int .u8 62, .int .u8 47, .int .u8 59, .int .u8 36, .int .u8 45, .int .u8 43, .int .u8 51, .int .u8 22, .int .u8 53, .int .u8 39, .int .u8 33, .int .u8 30, .int .u8 24, .int .u8 18, .int .u8 12, .int .u8 5, .int .u8 63, .int .u8 55, .int .u8 48, .int .u8 27, .int .u8 60, .int .u8 41, .int .u8 37, .int .u8 16, .int .u8 46, .int .u8 35, .int .u8 44, .int .u8 21, .int .u8 52, .int .u8 32, .int .u8 23, .int .u8 11, .int .u8 54, .int .u8 26, .int .u8 40, .int .u8 15, .int .u8 34, .int .u8 20, .int .u8 31, .int .u8 10, .int .u8 25, .int .u8 14, .int .u8 19, .int .u8 9, .int .u8 13, .int .u8 8, .int .u8 7, .int .u8 6] t fr | o => o) }
theorem laid_met (os : Os) : laidMet Tryd.prog Rows.merkleHalvesRow.laid ((laidWorld os).forCall (fun _ _ => 0) ⟨#[], #[(.slice none 0 0 : Value), (.slice none 0 0 : Value), (.int .i64 0 : Value)], []⟩).memory :=
  laidMet_of_run' 8 (by kernel_rfl) (by kernel_rfl)
theorem reads (os : Os) {H : Type} (enc : TypeId × Value → H) : ∃ places, DataW.whole enc Tryd.prog ((laidWorld os).forCall (fun _ _ => 0) ⟨#[], #[(.slice none 0 0 : Value), (.slice none 0 0 : Value), (.int .i64 0 : Value)], []⟩).memory Tryd.f10.params.toList Rows.merkleHalvesSpec.vars false #[(.slice none 0 0 : Value), (.slice none 0 0 : Value), (.int .i64 0 : Value)].toList 8 = some ([.nil, .nil, .lit (.int .i64 0)], [], places) :=
  ⟨[], by kernel_rfl⟩
theorem lifted (os : Os) (started : os.Started) (H : Type) (enc : TypeId × Value → H) (F : Stop.Interp) :
    ReturnsInHanded {} Tryd.checked os 10 .any ((OpenSpec.ofChange Rows.merkleHalvesSpec).preRow enc Tryd.prog Tryd.f10 Rows.merkleHalvesRow.domain false Rows.merkleHalvesRow.laid) (((OpenSpec.ofChange Rows.merkleHalvesSpec).at F).post enc Tryd.prog Tryd.f10 false true false false) := by
  obtain ⟨places, hx⟩ := reads os enc
  refine returnsInHanded_of_row (C := Tryd.checked) (s := OpenSpec.ofChange Rows.merkleHalvesSpec) own started (by kernel_rfl) Tryd.func10
    (witness_row_at (enc := enc) (C := Tryd.checked) false (laidWorld os) #[(.slice none 0 0 : Value), (.slice none 0 0 : Value), (.int .i64 0 : Value)] rfl (by kernel_rfl) (by kernel_rfl) (by kernel_rfl)
      (OpenSpec.preRow_of_cond 8 hx (by kernel_rfl) (fun k hk => by cases hk) (by kernel_rfl) (laid_met os))) ?_
  intro W base args ds gs before hval hW _ _ _ hL _ _
  exact contract H enc W base args ds gs before hval hW hL
theorem said : Rows.MerkleHalvesSaid :=
  OpenClaim.holds_of_cond 10 Tryd.f10 rfl rfl rfl rfl rfl rfl rfl ⟨rfl, rfl, rfl, rfl, rfl⟩ rfl rfl rfl rfl rfl (by kernel_rfl) Tryd.func10 (by kernel_rfl)
    (of_decide_eq_true (by kernel_rfl)) (by unfold Func.isWrapper; first | (rw [if_pos (by decide +kernel)]; kernel_rfl) | (rw [if_neg (by decide +kernel)]; exact ⟨rfl, rfl⟩))
    (fun os started H enc _ F => by rw [OpenClaim.pre_eq_preRow]; exact lifted os started H enc F)
theorem plain (f : FuncId) (fn : Func) (hf : Tryd.pinned.checked.prog.funcNamed "greatseal/greatseallaw08.MerkleHalves" = some f) (hfn : Tryd.pinned.checked.prog.funcs[f]? = some fn) :
    false = Tryd.pinned.checked.prog.looks [] ∧ ∀ (j : Nat) t, fn.params[j]? = some t → Tryd.pinned.checked.prog.wantsStandIn t = false := by
  obtain rfl : f = 10 := Option.some.inj ((show Tryd.prog.funcNamed "greatseal/greatseallaw08.MerkleHalves" = some 10 by kernel_rfl).symm.trans hf) |>.symm
  obtain rfl : fn = Tryd.f10 := (Option.some.inj (Tryd.func10.symm.trans hfn)).symm
  refine ⟨by kernel_rfl, fun j t ht => ?_⟩
  rw [Tryd.params10] at ht
  have hm : t ∈ [22, 22, 3] := by simpa using Array.mem_of_getElem? ht
  have hall : ([22, 22, 3].all fun u => !Tryd.prog.wantsStandIn u) = true := by kernel_rfl
  exact (show Tryd.prog.wantsStandIn t = false by simpa using List.all_eq_true.1 hall t hm)
theorem card : Rows.MerkleHalvesCardSaid :=
  Claim7.holds_tied_plain_at .later [] _ _ _ _ said (fun _ h => by cases h) (by kernel_rfl) (fun _ h => by cases h) merkleHalves_row_tie rfl ⟨rfl, rfl⟩ (by kernel_rfl) rfl plain (by kernel_rfl)
end Go.Proofs.YtohipjalgccmnaaDoor.lawMerkleHalves
