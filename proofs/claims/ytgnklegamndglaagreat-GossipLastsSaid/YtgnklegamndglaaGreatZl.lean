/- Several texts, one behind the other. Conditions: none. -/
import Derived.Test.YtgnklegamndglaaGreatZh
import Derived.Test.YtgnklegamndglaaGreatZi
import Derived.Test.YtgnklegamndglaaGreatZj
import Derived.KernelRfl
import Derived.Test.YtgnklegamndglaaGreatZb
import Derived.Test.YtgnklegamndglaaGreatZk
import Derived.Test.YtgnklegamndglaaGreatRows
import Derived.WalkKit
import Derived.ProofKit
import Derived.OpenShut
import Derived.Deep.DeepHandedRow
import Derived.Lib.LaidTab
import Derived.SevenTiedAt
import Derived.Stop.LaidErr
set_option linter.unusedSimpArgs false
set_option linter.unusedVariables false
set_option maxHeartbeats 20000000
set_option maxRecDepth 100000
section
namespace Go.Proofs.YtgnklegamndglaaGreat
open Go Go.Gw
theorem iter_run {σ τ : Type} {step : σ → Option (σ ⊕ τ)} (st : Nat → σ) {t : τ} : ∀ (j k n : Nat), (∀ i, i < j → step (st (k + i)) = some (.inl (st (k + i + 1)))) → step (st (k + j)) = some (.inr t) → j < n → iter step n (st k) = some t := by
  intro j
  induction j with
  | zero =>
    intro k n _ h hn
    obtain ⟨n, rfl⟩ : ∃ q, n = q + 1 := ⟨n - 1, by omega⟩
    have h : step (st k) = some (.inr t) := h
    simp only [iter, h, obind_some']
  | succ j ih =>
    intro k n hs h hn
    obtain ⟨n, rfl⟩ : ∃ q, n = q + 1 := ⟨n - 1, by omega⟩
    have h0 : step (st k) = some (.inl (st (k + 1))) := hs 0 (by omega)
    simp only [iter, h0, obind_some']
    refine ih (k + 1) n (fun i hi => ?_) ?_ (by omega)
    · have := hs (i + 1) (by omega)
      rw [show k + (i + 1) = k + 1 + i from by omega] at this
      exact this
    · rw [show k + (j + 1) = k + 1 + j from by omega] at h
      exact h
def sgn (a b : Int) : Int := if a < b then -1 else if b < a then 1 else 0
theorem cmp_int_eq (a b : Int) : m_cmp_Compare_int a b = some (sgn a b) := by
  unfold m_cmp_Compare_int m_cmp_isNaN_int sgn
  by_cases h1 : a < b
  · simp [obind, bnd, h1]
  · by_cases h2 : b < a
    · simp [obind, bnd, h1, h2]
    · simp [obind, bnd, h1, h2]
theorem row2_eq (a b : Int) : m_gossip_row [a, b] = some (if a = 0 then b else a) := by
  unfold m_gossip_row m_cmp_Or_int
  by_cases h1 : a = 0
  · by_cases h2 : b = 0
    · simp [eachR, m_cmp_Or_int_b1, obind, h1, h2]
    · simp [eachR, m_cmp_Or_int_b1, obind, h1, h2]
  · simp [eachR, m_cmp_Or_int_b1, obind, h1]
end Go.Proofs.YtgnklegamndglaaGreat
end
section
namespace Go.Proofs.YtgnklegamndglaaGreat
open Go Go.Gw
abbrev S8 : Type := Bool × Int × Int × UInt64 × UInt64 × Int × UInt64 × UInt64
def pk8 (p : Bool × g_api_Head) : S8 := (p.1, p.2.Log, p.2.Size, p.2.Root.1, p.2.Root.2, p.2.At, p.2.Sig.E, p.2.Sig.S)
def lateB (x h : g_api_Head) : Bool := decide ((if sgn x.Size h.Size = 0 then sgn x.At h.At else sgn x.Size h.Size) ≥ 0)
def lastF (a : Int) (p : Bool × g_api_Head) (x : g_api_Head) : Bool × g_api_Head := bif (x.Log == a) && (!p.1 || lateB x p.2) then (true, x) else p
theorem last_step (a i : Int) (x : g_api_Head) (p : Bool × g_api_Head) : m_gossip_Last_b3 a i x (pk8 p) = some (pk8 (lastF a p x)) := by
  obtain ⟨b, h⟩ := p
  unfold m_gossip_Last_b3 lastF pk8 lateB
  dsimp only
  cases hx : x.Log == a
  · simp [gu, obind]
  · cases b
    · simp [gu, obind]
    · simp only [gu, Bool.true_and, Bool.not_true, Bool.not_false, cond_true, cmp_int_eq, obind_some', row2_eq, Bool.false_or]
      cases hd : decide ((if sgn x.Size h.Size = 0 then sgn x.At h.At else sgn x.Size h.Size) ≥ 0) <;> simp [obind]
theorem last_loop (a : Int) : ∀ (xs : List g_api_Head) (i : Int) (p : Bool × g_api_Head), each0 (m_gossip_Last_b3 a) xs i (pk8 p) = some (pk8 (xs.foldl (lastF a) p)) := by
  intro xs
  induction xs with
  | nil => intro i p; rfl
  | cons x xs ih => intro i p; simp only [each0, last_step, obind_some', ih, List.foldl_cons]
def noHead : g_api_Head := ⟨0, 0, (0, 0), 0, (⟨0, 0⟩ : g_api_Sig)⟩
def lastV (l : List g_api_Head) (a : Int) : Bool × g_api_Head := l.foldl (lastF a) (false, noHead)
theorem last_eq (a0 : g_api_Pool) (a : Int) : m_gossip_Last a0 a = some ((lastV a0.L a).2, (lastV a0.L a).1) := by
  have h := last_loop a a0.L 0 (false, noHead)
  unfold m_gossip_Last
  rw [show ((false, 0, 0, 0, 0, 0, 0, 0) : S8) = pk8 (false, noHead) from rfl, h]
  rfl
def later (x h : g_api_Head) : Prop := h.Size < x.Size ∨ (h.Size = x.Size ∧ h.At < x.At)
theorem lateB_iff (x h : g_api_Head) : lateB x h = true ↔ ¬ later h x := by
  unfold lateB later sgn
  simp only [decide_eq_true_eq]
  split <;> split <;> (try split) <;> (try split) <;> omega
theorem lastV_ok (a : Int) : ∀ (xs ys : List g_api_Head) (p : Bool × g_api_Head), (p.1 = true → p.2 ∈ ys ∧ p.2.Log = a ∧ ∀ y ∈ ys, y.Log = a → ¬ later y p.2) → (p.1 = false → ∀ y ∈ ys, y.Log ≠ a) →
    let q := xs.foldl (lastF a) p
    (q.1 = true → q.2 ∈ ys ++ xs ∧ q.2.Log = a ∧ ∀ y ∈ ys ++ xs, y.Log = a → ¬ later y q.2) ∧ (q.1 = false → ∀ y ∈ ys ++ xs, y.Log ≠ a) := by
  intro xs
  induction xs with
  | nil => intro ys p h1 h2; simpa using ⟨h1, h2⟩
  | cons x xs ih =>
    intro ys p h1 h2
    have := ih (ys ++ [x]) (lastF a p x) ?_ ?_
    · simpa using this
    · obtain ⟨b, h⟩ := p
      unfold lastF
      dsimp only at *
      cases hx : x.Log == a
      · have hx' : x.Log ≠ a := by simpa using hx
        simp only [Bool.false_and, cond_false]
        intro hb
        obtain ⟨k1, k2, k3⟩ := h1 hb
        refine ⟨by simp [k1], k2, fun y hy hl => ?_⟩
        rcases List.mem_append.1 hy with q | q
        · exact k3 y q hl
        · rw [List.mem_singleton.1 q] at hl; exact absurd hl hx'
      · have hx' : x.Log = a := by simpa using hx
        cases b
        · intro _
          refine ⟨by simp, hx', fun y hy hl => ?_⟩
          rcases List.mem_append.1 hy with q | q
          · exact absurd hl (h2 rfl y q)
          · rw [List.mem_singleton.1 q]; simp only [later]; simp
        · obtain ⟨k1, k2, k3⟩ := h1 rfl
          cases hl : lateB x h
          · simp only [Bool.true_and, Bool.not_true, Bool.false_or, cond_false]
            intro _
            have hlt : later h x := by
              apply Classical.byContradiction
              intro q
              rw [(lateB_iff x h).2 q] at hl; cases hl
            refine ⟨by simp [k1], k2, fun y hy hl' => ?_⟩
            rcases List.mem_append.1 hy with q | q
            · exact k3 y q hl'
            · rw [List.mem_singleton.1 q]; unfold later at *; omega
          · simp only [Bool.true_and, Bool.not_true, Bool.false_or, cond_true]
            intro _
            have hn := (lateB_iff x h).1 hl
            refine ⟨by simp, hx', fun y hy hl' => ?_⟩
            rcases List.mem_append.1 hy with q | q
            · have := k3 y q hl'; unfold later at *; omega
            · rw [List.mem_singleton.1 q]; unfold later; omega
    · obtain ⟨b, h⟩ := p
      unfold lastF
      dsimp only at *
      cases hx : x.Log == a
      · have hx' : x.Log ≠ a := by simpa using hx
        simp only [Bool.false_and, cond_false]
        intro hb y hy
        rcases List.mem_append.1 hy with q | q
        · exact h2 hb y q
        · rw [List.mem_singleton.1 q]; exact hx'
      · cases b
        · intro q; cases q
        · cases hl : lateB x h
          · intro q; cases q
          · intro q; cases q
end Go.Proofs.YtgnklegamndglaaGreat
end
section
namespace Go.Proofs.YtgnklegamndglaaGreat
open Go Go.Gw
theorem live28_true : m_law28_live = some true := by kernel_rfl
end Go.Proofs.YtgnklegamndglaaGreat
end
section
namespace Go.Proofs.YtgnklegamndglaaGreat
open Go Go.Gw
theorem idx_at {α : Type} {l : List α} {i : Nat} (h : i < l.length) : idx l (i : Int) = some l[i] := idx_nat (List.getElem?_eq_getElem h)
theorem w64_suc {i n : Nat} (h : i < n) (hn : n ≤ 100000) : w64 ((i : Int) + 1) = ((i + 1 : Nat) : Int) := by rw [w64_in (by omega) (by omega)]; omega
def placeB (h x : g_api_Head) : Bool := (((x.Log == h.Log) && (x.Size == h.Size)) && (eqSum x.Root h.Root)) && (x.At == h.At)
theorem place_step {l : List g_api_Head} {h : g_api_Head} {i : Nat} (hi : i < l.length) (hn : l.length ≤ 100000) : m_law28_place_b2 l h (i : Int) = some (if placeB h l[i] = true then .inr (.inr true) else .inl ((i + 1 : Nat) : Int)) := by
  unfold m_law28_place_b2 placeB
  rw [if_pos (by simpa using hi), idx_at hi, obind_some', w64_suc hi hn]
  cases h1 : l[i].Log == h.Log
  · simp [gu, obind]
  cases h2 : l[i].Size == h.Size
  · simp [gu, obind, h2]
  cases h3 : eqSum l[i].Root h.Root
  · simp [gu, obind, h2, h3]
  cases h4 : l[i].At == h.At <;> simp [gu, obind, h2, h3, h4]
theorem placeB_self (h : g_api_Head) : placeB h h = true := by simp [placeB, eqSum]
theorem place_mem {l : List g_api_Head} {h : g_api_Head} (hm : h ∈ l) (hn : l.length ≤ 100000) : m_law28_place l h = some true := by
  have hj : l.findIdx (placeB h) < l.length := List.findIdx_lt_length_of_exists ⟨h, hm, placeB_self h⟩
  unfold m_law28_place
  have := iter_run (step := m_law28_place_b2 l h) (fun i => (i : Int)) (t := .inr true) (l.findIdx (placeB h)) 0 FUEL (fun i hi => ?_) ?_ (by unfold FUEL; omega)
  · rw [show ((0 : Nat) : Int) = 0 from rfl] at this
    rw [this]; rfl
  · have hlt : i < l.length := by omega
    have := List.not_of_lt_findIdx hi
    simp only [Nat.zero_add]
    rw [place_step hlt hn, if_neg (by simpa using this)]
  · simp only [Nat.zero_add]
    rw [place_step hj hn, if_pos (List.findIdx_getElem (w := hj))]
def anyB (a : Int) (l : List g_api_Head) (i : Nat) : Bool := (l.take i).any fun x => x.Log == a
theorem anyB_succ {a : Int} {l : List g_api_Head} {i : Nat} (h : i < l.length) : anyB a l (i + 1) = (anyB a l i || (l[i].Log == a)) := by
  unfold anyB
  rw [List.take_succ_eq_append_getElem h, List.any_append]; simp
theorem lasts_true (a0 : g_api_Pool) (a1 : Int) : m_law28_GossipLasts a0 a1 = some true := by
  unfold m_law28_GossipLasts
  rw [live28_true, obind_some', if_neg (by decide)]
  by_cases hl : a0.L.length ≤ 30
  · rw [if_neg (by simp; omega), last_eq, obind_some']
    have hV := lastV_ok a1 a0.L [] (false, noHead) (fun h => by cases h) (fun _ _ h => by cases h)
    simp only [List.nil_append] at hV
    rw [show List.foldl (lastF a1) (false, noHead) a0.L = lastV a0.L a1 from rfl] at hV
    generalize lastV a0.L a1 = q at hV
    obtain ⟨f, h⟩ := q
    obtain ⟨k1, k2⟩ := hV
    have hit : iter (m_law28_GossipLasts_b3 a0 a1 (h, f)) FUEL (false, 0) = some (.inl (anyB a1 a0.L a0.L.length)) := by
      have := iter_run (step := m_law28_GossipLasts_b3 a0 a1 (h, f)) (fun i => (anyB a1 a0.L i, (i : Int))) (t := .inl (anyB a1 a0.L a0.L.length)) a0.L.length 0 FUEL (fun i hi => ?_) ?_ (by unfold FUEL; omega)
      · exact this
      · simp only [Nat.zero_add]
        unfold m_law28_GossipLasts_b3
        rw [if_pos (by simpa using hi), idx_at hi, obind_some', w64_suc hi (by omega), anyB_succ hi, if_neg ?_]
        intro hc
        simp only [Bool.and_eq_true, Bool.or_eq_true, beq_iff_eq, decide_eq_true_eq, Bool.not_eq_true'] at hc
        obtain ⟨c1, c2⟩ := hc
        have hmem : a0.L[i] ∈ a0.L := List.getElem_mem hi
        rcases c2 with (c2 | c2) | c2
        · exact k2 c2 _ hmem c1
        · cases f
          · exact k2 rfl _ hmem c1
          · exact (k1 rfl).2.2 _ hmem c1 (.inl c2)
        · cases f
          · exact k2 rfl _ hmem c1
          · exact (k1 rfl).2.2 _ hmem c1 (.inr ⟨c2.1.symm, c2.2⟩)
      · simp only [Nat.zero_add]
        unfold m_law28_GossipLasts_b3
        rw [if_neg (by simp)]
    rw [hit, obind_some']
    have hany : anyB a1 a0.L a0.L.length = f := by
      unfold anyB
      rw [List.take_length]
      cases f
      · rw [List.any_eq_false]; intro x hx; simpa using k2 rfl x hx
      · rw [List.any_eq_true]; exact ⟨h, (k1 rfl).1, by simpa using (k1 rfl).2.1⟩
    simp only [hany]
    cases f
    · simp [gu, obind, bnd]
    · obtain ⟨m1, m2, _⟩ := k1 rfl
      have m2 : h.Log = a1 := m2
      simp [gu, place_mem m1 (by omega), obind, bnd, m2]
  · rw [if_pos (by simp; omega)]
end Go.Proofs.YtgnklegamndglaaGreat
end
section
namespace Go.Proofs.YtgnklegamndglaaGreat.lawGossipLasts
open Go Go.Gw Go.ChangeShapes Go.WideShapes Go.ChangeAt Go.RowKit
theorem own : ownKnob Tryz.prog.godebug = none := by kernel_rfl
theorem rd3 : Rd Tryz.prog 3 (Int) := Rd.int Tryz.underlying3
theorem rd25 : Rd Tryz.prog 25 (UInt64) := Rd.u64 Tryz.underlying25
theorem rd27 : Rd Tryz.prog 27 (UInt64 × UInt64) := Rd.arr2 Tryz.underlying27 rd25 (by kernel_rfl) (by kernel_rfl)
theorem rd29 : Rd Tryz.prog 29 (g_api_Sig) := Rd.struct Tryz.underlying29 (RdFs.more rfl rd25 (by kernel_rfl) (RdFs.last rfl rd25 (by kernel_rfl))) (by kernel_rfl) (fun b => ⟨b.1, b.2⟩) (fun h => h)
theorem rd31 : Rd Tryz.prog 31 (g_api_Head) := Rd.struct Tryz.underlying31 (RdFs.more rfl rd3 (by kernel_rfl) (RdFs.more rfl rd3 (by kernel_rfl) (RdFs.more rfl rd27 (by kernel_rfl) (RdFs.more rfl rd3 (by kernel_rfl) (RdFs.last rfl rd29 (by kernel_rfl)))))) (by kernel_rfl) (fun b => ⟨b.1, b.2.1, b.2.2.1, b.2.2.2.1, b.2.2.2.2⟩) (fun h => h)
theorem rd22 : Rd Tryz.prog 22 (List g_api_Head) := Rd.slice Tryz.underlying22 rd31 (by kernel_rfl) (by decide)
theorem rd24 : Rd Tryz.prog 24 (g_api_Pool) := Rd.struct Tryz.underlying24 (RdFs.last rfl rd22 (by kernel_rfl)) (by kernel_rfl) (fun b => ⟨b⟩) (fun h => h)
theorem rp_g_api_Pool {m : Mem} {cs : List Value} {x : g_api_Pool} (h : GoT.rep m cs x) : ∃ v1, cs = [v1] ∧ SlR m v1 x.L := by
  obtain ⟨v1, rfl, h1⟩ := h
  exact ⟨v1, rfl, h1⟩
theorem contract (H : Type) (enc : TypeId × Value → H) (W : World) (base : Nat) (args : Array Value) (ds gs : List (DataW H)) (before : List MemPlace)
    (hval : ∀ (j : Nat) t v, Tryz.f9.params[j]? = some t → args[j]? = some v → Value.okWide Tryz.prog W .any base t v)
    (hW : DataW.Whole enc Tryz.prog Tryz.f9.params.toList Rows.gossipLastsSpec.vars false W args.toList ds gs before) (hL : laidMetH Tryz.prog Rows.gossipLastsRow.laid W) :
    Calls Tryz.prog 9 args W fun e W' => ∃ v, e = .returned v ∧ Rows.gossipLastsSpec.post enc Tryz.prog Tryz.f9 false true false false W args v W' := by
  have hW' := hW
  obtain ⟨p, q, hA0, hV, rfl, hfz, hnd⟩ := hW
  obtain ⟨rfl, rfl⟩ := trodVars_none hV
  rw [List.append_nil] at hW'
  have hA : DataW.TrodAll enc Tryz.prog W 0 (fun _ => true) true Tryz.f9.params.toList args.toList ds p := hA0
  have hA1 := hA
  have hpl : Tryz.f9.params.toList = [24, 3] := by rw [Tryz.params9]
  rw [hpl] at hA1
  obtain ⟨v0, w0, d0, e0, p0, q0, ha0, he0, hp0, h0, r0⟩ := trodAll_cons hA1
  obtain ⟨v1, w1, d1, e1, p1, q1, ha1, he1, hp1, h1, r1⟩ := trodAll_cons r0
  obtain ⟨z1, z2, z3⟩ := trodAll_nil r1
  obtain rfl : args = #[v0, v1] := by
    apply Array.ext'; rw [ha0, ha1, z1]
  obtain rfl : ds = [d0, d1] := by rw [he0, he1, z2]
  rw [Tryz.params9] at hval
  obtain ⟨c0, rfl, _⟩ := okWide_struct Tryz.underlying24 (hval 0 24 v0 rfl rfl)
  obtain ⟨a0, s0⟩ := rd24.openA h0
  obtain ⟨z0_0, o0, y0_0⟩ := rp_g_api_Pool s0
  obtain rfl := arr_of o0
  obtain ⟨a1, rfl, _, _, _⟩ := open_int Tryz.underlying3 (hval 1 3 v1 rfl rfl) h1
  have hc := v_law28_GossipLasts (St.of W) y0_0 (lasts_true a0 a1)
  refine Calls.mono hc ?_
  rintro e W' ⟨v, rfl, hk, M, hle, S, rfl⟩
  refine ⟨.bool true, rfl, post_true (tb := 4) (by kernel_rfl) (by kernel_rfl) rfl (by kernel_rfl) Tryz.underlying4 hW' hA rfl rfl rfl hle S hk⟩
noncomputable def laidWorld (os : Os) : World :=
  { World.holding Tryz.prog os ⟨#[], #[], []⟩ with heap := (World.holding Tryz.prog os ⟨#[], #[], []⟩).heap }
theorem laid_met (os : Os) : laidMet Tryz.prog Rows.gossipLastsRow.laid ((laidWorld os).forCall (fun _ _ => 0) ⟨#[], #[(.agg #[.slice none 0 0] : Value), (.int .i64 0 : Value)], []⟩).memory :=
  laidMet_of_run' 8 (by kernel_rfl) (by kernel_rfl)
theorem reads (os : Os) {H : Type} (enc : TypeId × Value → H) : ∃ places, DataW.whole enc Tryz.prog ((laidWorld os).forCall (fun _ _ => 0) ⟨#[], #[(.agg #[.slice none 0 0] : Value), (.int .i64 0 : Value)], []⟩).memory Tryz.f9.params.toList Rows.gossipLastsSpec.vars false #[(.agg #[.slice none 0 0] : Value), (.int .i64 0 : Value)].toList 8 = some ([.agg [.nil], .lit (.int .i64 0)], [], places) :=
  ⟨[], by kernel_rfl⟩
theorem lifted (os : Os) (started : os.Started) (H : Type) (enc : TypeId × Value → H) (F : Stop.Interp) :
    ReturnsInHanded {} Tryz.checked os 9 .any ((OpenSpec.ofChange Rows.gossipLastsSpec).preRow enc Tryz.prog Tryz.f9 Rows.gossipLastsRow.domain false Rows.gossipLastsRow.laid) (((OpenSpec.ofChange Rows.gossipLastsSpec).at F).post enc Tryz.prog Tryz.f9 false true false false) := by
  obtain ⟨places, hx⟩ := reads os enc
  refine returnsInHanded_of_row (C := Tryz.checked) (s := OpenSpec.ofChange Rows.gossipLastsSpec) own started (by kernel_rfl) Tryz.func9
    (witness_row_at (enc := enc) (C := Tryz.checked) false (laidWorld os) #[(.agg #[.slice none 0 0] : Value), (.int .i64 0 : Value)] rfl (by kernel_rfl) (by kernel_rfl) (by kernel_rfl)
      (OpenSpec.preRow_of_cond 8 hx (by kernel_rfl) (fun k hk => by cases hk) (by kernel_rfl) (laid_met os))) ?_
  intro W base args ds gs before hval hW _ _ _ hL _ _
  exact contract H enc W base args ds gs before hval hW hL
theorem said : Rows.GossipLastsSaid :=
  OpenClaim.holds_of_cond 9 Tryz.f9 rfl rfl rfl rfl rfl rfl rfl ⟨rfl, rfl, rfl, rfl, rfl⟩ rfl rfl rfl rfl rfl (by kernel_rfl) Tryz.func9 (by kernel_rfl)
    (of_decide_eq_true (by kernel_rfl)) (by unfold Func.isWrapper; first | (rw [if_pos (by decide +kernel)]; kernel_rfl) | (rw [if_neg (by decide +kernel)]; exact ⟨rfl, rfl⟩))
    (fun os started H enc _ F => by rw [OpenClaim.pre_eq_preRow]; exact lifted os started H enc F)
end Go.Proofs.YtgnklegamndglaaGreat.lawGossipLasts
end
