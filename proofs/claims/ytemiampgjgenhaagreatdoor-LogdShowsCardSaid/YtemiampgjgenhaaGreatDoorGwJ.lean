/- How a walk's contract becomes what a row says: arguments as they are read, and the world behind the call. Conditions: none. -/
import Derived.Test.YtemiampgjgenhaaGreatDoorGwI
import Derived.ProofKit
import Derived.OpenShut
import Derived.WideKeyArgs
import Derived.ChangeArms
import Derived.ChangeSame
import Derived.RowKit
import Derived.Lib.LaidTab
set_option linter.unusedSimpArgs false
set_option linter.unusedVariables false
set_option maxHeartbeats 2000000
namespace Go.Gw
open Go Go.ChangeShapes Go.WideShapes Go.ChangeAt Go.RowKit

def isDfr : Obj → Bool
  | .deferred (some []) => true
  | _ => false
theorem isDfr_ne {o : Obj} (h : isDfr o = false) : o ≠ dfr := by rintro rfl; cases h
theorem isDfr_eq {o : Obj} (h : isDfr o = true) : o = dfr := by
  unfold isDfr at h
  split at h
  · rfl
  · cases h
/-- All that lies in a world, but for empty blocks of deferred calls. -/
def memOf (w : World) : Mem := { heap := fun k => (w.heap[k]?).bind fun o => bif isDfr o then none else some o, os := w.os, tape := w.tape, output := w.output }
theorem memOf_some {w : World} {k : Nat} {o : Obj} (h : w.heap[k]? = some o) (hd : isDfr o = false) : (memOf w).heap k = some o := by simp [memOf, h, hd]
theorem memOf_of {w : World} {k : Nat} {o : Obj} (h : (memOf w).heap k = some o) : w.heap[k]? = some o ∧ isDfr o = false := by
  simp only [memOf] at h
  cases e : w.heap[k]? with
  | none => rw [e] at h; cases h
  | some x =>
    rw [e] at h
    simp only [Option.bind_some] at h
    cases hx : isDfr x with
    | true => rw [hx] at h; cases h
    | false => rw [hx] at h; cases h; exact ⟨rfl, hx⟩
theorem memOf_cells {w : World} {k : Nat} {l : Array Value} {e : TypeId} {fr : Nat × Nat} (h : w.heap[k]? = some (.cells l e fr)) : (memOf w).heap k = some (.cells l e fr) := memOf_some h rfl
theorem St.of (w : World) : St (memOf w) [] w := by
  refine ⟨rfl, rfl, rfl, PH.emp, rfl, PH.disj_emp _, fun k o h => (memOf_of h).1, PH.agree_emp w, ?_⟩
  rw [PH.join_emp]
  intro b h
  have := (memOf_of h).2
  cases this

section
variable {W W' : World} {M : Mem} {As : List Ow}
theorem kept_heap (hle : memOf W ≤ M) (S : St M As W') (k : Kd W W') {i : Nat} {o : Obj} (h : W.heap[i]? = some o) : W'.heap[i]? = some o := by
  cases hd : isDfr o with
  | true => have := isDfr_eq hd; subst this; exact k.same i h
  | false => exact S.mem (hle.heap i o (memOf_some h hd))
theorem kept_eq (hle : memOf W ≤ M) (S : St M As W') (k : Kd W W') {i : Nat} (h : i < W.heap.size) : W'.heap[i]? = W.heap[i]? := by
  obtain ⟨o, ho⟩ : ∃ o, W.heap[i]? = some o := ⟨W.heap[i], by simp [h]⟩
  rw [ho]; exact kept_heap hle S k ho
theorem kept_but (hle : memOf W ≤ M) (S : St M As W') (k : Kd W W') (may : MemPlace → Prop) : W.keptBut W' may := by
  refine ⟨S.os.trans hle.os, S.output.trans hle.output, fun i hi => ?_⟩
  rw [kept_eq hle S k hi]
  obtain ⟨o, ho⟩ : ∃ o, W.heap[i]? = some o := ⟨W.heap[i], by simp [hi]⟩
  rw [ho]
  cases o <;> first | exact ⟨rfl, rfl, rfl, fun _ _ => rfl⟩ | exact .inr ⟨rfl, rfl⟩ | rfl
theorem kept_at (hle : memOf W ≤ M) (S : St M As W') (k : Kd W W') {p : MemPlace} (hp : p.block < W.heap.size) : W.sameAt W' p := by
  cases p with
  | cell b off => show W'.cell? _ = W.cell? _; simp only [World.cell?]; rw [kept_eq hle S k (show b < W.heap.size from hp)]
  | map b => exact kept_eq hle S k (show b < W.heap.size from hp)
theorem kept_frozen (hle : memOf W ≤ M) (S : St M As W') (k : Kd W W') {b off : Nat} (hp : b < W.heap.size) : W'.frozen? ⟨b, off, none⟩ = W.frozen? ⟨b, off, none⟩ := by
  simp only [World.frozen?]; rw [kept_eq hle S k hp]
end

/-- What is read of an argument is a thing of this type. -/
class Rd (P : Program) (t : TypeId) (α : Type) [GoT α] : Prop where
  rd : ∀ {H : Type} {enc : TypeId × Value → H} {w : World} {sp : Nat → Bool} {fuel : Nat} {cs : List Value} {x : DataW H × List MemPlace}, DataW.trod enc P w 0 sp true fuel t cs = some x → ∃ a : α, GoT.rep (memOf w) cs a

theorem Rd.int {P : Program} {t : TypeId} (h : P.underlying t = some (.int .i64)) : Rd P t Int := ⟨fun hx => by
  obtain ⟨n, rfl, _, _⟩ := DataW.trod_int h hx; exact ⟨n, rfl⟩⟩
theorem Rd.bool {P : Program} {t : TypeId} (h : P.underlying t = some .bool) : Rd P t Bool := ⟨fun hx => by
  obtain ⟨n, rfl, _⟩ := DataW.trod_bool h hx; exact ⟨n, rfl⟩⟩
theorem Rd.u64 {P : Program} {t : TypeId} (h : P.underlying t = some (.int .u64)) : Rd P t UInt64 := ⟨fun hx => by
  obtain ⟨n, rfl, _, hw⟩ := DataW.trod_int h hx
  simp only [Lit.wf, Bool.and_eq_true, decide_eq_true_eq] at hw
  have h0 : 0 ≤ n := hw.1
  have h1 : n ≤ 18446744073709551615 := hw.2
  refine ⟨UInt64.ofNat n.toNat, ?_⟩
  show [Value.int .u64 n] = [vU _]
  simp only [vU, UInt64.toNat_ofNat']
  congr 2; omega⟩
theorem Rd.u8 {P : Program} {t : TypeId} (h : P.underlying t = some (.int .u8)) : Rd P t UInt8 := ⟨fun hx => by
  obtain ⟨n, rfl, _, hw⟩ := DataW.trod_int h hx
  simp only [Lit.wf, Bool.and_eq_true, decide_eq_true_eq] at hw
  have h0 : 0 ≤ n := hw.1
  have h1 : n ≤ 255 := hw.2
  refine ⟨UInt8.ofNat n.toNat, ?_⟩
  show [Value.int .u8 n] = [vB _]
  simp only [vB, UInt8.toNat_ofNat']
  congr 2; omega⟩
theorem Rd.arr2 {P : Program} {t e : TypeId} {α : Type} [GoT α] (h : P.underlying t = some (.array 2 e)) (he : Rd P e α) (hs : P.cellsOf e = GoT.sz α) (ht : P.cellsOf t = 2 * GoT.sz α) : Rd P t (α × α) := ⟨fun hx => by
  rename_i cs x
  obtain ⟨xs, m, _, _, hl, hn, hi⟩ := DataW.trod_array h hx
  match xs, hn with
  | [y, z], _ =>
    have h0 := hi 0 (by omega); have h1 := hi 1 (by omega)
    obtain ⟨a, ha⟩ := he.rd h0
    obtain ⟨b, hb⟩ := he.rd h1
    rw [hs] at ha hb
    simp only [Nat.zero_mul, List.drop_zero, Nat.one_mul] at ha hb
    refine ⟨(a, b), _, _, ?_, ha, hb⟩
    rw [List.take_of_length_le (l := cs.drop (GoT.sz α)) (by simp; omega), List.take_append_drop]⟩
/-- What is read of a struct's fields, from an offset on. -/
structure RdFs (P : Program) (fs : List Field) (off : Nat) (α : Type) [GoT α] : Prop where
  rd : ∀ {H : Type} {enc : TypeId × Value → H} {w : World} {sp : Nat → Bool} {fuel : Nat} {cs : List Value}, (∀ f, f ∈ fs → ∃ x, DataW.trod enc P w 0 sp true fuel f.type ((cs.drop f.offset).take (P.cellsOf f.type)) = some x) → cs.length = off + GoT.sz α → ∃ a : α, GoT.rep (memOf w) (cs.drop off) a
theorem RdFs.last {P : Program} {f : Field} {off : Nat} {α : Type} [GoT α] (ho : f.offset = off) (R : Rd P f.type α) (hs : P.cellsOf f.type = GoT.sz α) : RdFs P [f] off α := ⟨fun {H enc w sp fuel cs} h hl => by
  obtain ⟨x, hx⟩ := h f (by simp)
  rw [ho, hs, List.take_of_length_le (by simp; omega)] at hx
  exact R.rd hx⟩
theorem RdFs.more {P : Program} {f : Field} {fs : List Field} {off : Nat} {α β : Type} [GoT α] [GoT β] (ho : f.offset = off) (R : Rd P f.type α) (hs : P.cellsOf f.type = GoT.sz α) (Rs : RdFs P fs (off + GoT.sz α) β) : RdFs P (f :: fs) off (α × β) := ⟨fun {H enc w sp fuel cs} h hl => by
  obtain ⟨x, hx⟩ := h f (by simp)
  rw [ho, hs] at hx
  obtain ⟨a, ha⟩ := R.rd hx
  obtain ⟨b, hb⟩ := Rs.rd (fun g hg => h g (by simp [hg])) (by rw [hl]; show off + (GoT.sz α + GoT.sz β) = _; omega)
  refine ⟨(a, b), _, _, ?_, ha, hb⟩
  rw [← List.drop_drop, List.take_append_drop]⟩
theorem Rd.struct {P : Program} {t : TypeId} {fs : Array Field} {α β : Type} [GoT α] [GoT β] (h : P.underlying t = some (.struct fs)) (Rs : RdFs P fs.toList 0 β) (ht : P.cellsOf t = GoT.sz β) (mk : β → α) (hm : ∀ {m : Mem} {cs : List Value} {b : β}, GoT.rep m cs b → GoT.rep m cs (mk b)) : Rd P t α := ⟨fun {H enc w sp fuel cs x} hx => by
  obtain ⟨xs, n, _, _, hl, hn, hi⟩ := DataW.trod_struct h hx
  obtain ⟨b, hb⟩ := Rs.rd (cs := cs) (fun f hf => by
    obtain ⟨i, hi'⟩ := List.getElem?_of_mem hf
    have hi2 : fs[i]? = some f := by simpa using hi'
    have hlt : i < xs.length := by
      have := (Array.getElem?_eq_some_iff.1 hi2).1; omega
    exact ⟨xs[i], by rw [hi i f hi2]; simp [hlt]⟩) (by rw [hl, ht]; omega)
  exact ⟨mk b, hm (by simpa using hb)⟩⟩
theorem Rd.str {P : Program} {t : TypeId} (h : P.underlying t = some .string) : Rd P t ByteArray := ⟨fun hx => by
  obtain ⟨s, rfl, _, _⟩ := DataW.trod_string h hx; exact ⟨s, rfl⟩⟩
theorem cells_of {w : World} {a : Addr} {n : Nat} {cs : List Value} (h : w.cells? 0 a n = some cs) : cs.length = n ∧ ∀ i v, cs[i]? = some v → w.cell? (a.add i) = some v := by
  unfold World.cells? at h
  rw [if_pos (Nat.zero_le _)] at h
  have hl := Lib.mapM_length h
  simp at hl
  refine ⟨hl, fun i v hv => ?_⟩
  have hi : i < n := by
    have := (List.getElem?_eq_some_iff.1 hv).1; omega
  obtain ⟨b, hb, hf⟩ := Lib.mapM_at h i i (by simp [hi])
  rw [hv] at hb; cases hb; exact hf
theorem RepL.build {α : Type} [GoT α] {m : Mem} {n : Nat} {g : Nat → List Value} : ∀ (k : Nat), (∀ i, i < k → ∃ a : α, GoT.rep m (g i) a) → ∃ (cs : List Value) (xs : List α), RepL m cs xs ∧ xs.length = k ∧ cs = ((List.range k).map g).flatten := by
  intro k
  induction k with
  | zero => intro _; exact ⟨[], [], rfl, rfl, rfl⟩
  | succ k ih =>
    intro h
    obtain ⟨cs, xs, hr, hl, hc⟩ := ih fun i hi => h i (by omega)
    obtain ⟨a, ha⟩ := h k (by omega)
    refine ⟨cs ++ g k, xs ++ [a], hr.append ⟨g k, [], by simp, ha, rfl⟩, by simp [hl], ?_⟩
    rw [List.range_succ, List.map_append, List.flatten_append, ← hc]
    simp
theorem Rd.slice {P : Program} {t e : TypeId} {α : Type} [GoT α] (h : P.underlying t = some (.slice e)) (he : Rd P e α) (hs : P.cellsOf e = GoT.sz α) (h1 : 1 ≤ GoT.sz α) : Rd P t (List α) := ⟨fun hx => by
  rename_i w sp fuel cs x
  rcases DataW.trod_slice h hx with ⟨rfl, _⟩ | ⟨a, len, cap, elems, rest, n, _, rfl, _, _, hlc, hcm, hel, hi, _, _⟩
  · exact ⟨[], _, rfl, SlR.nil⟩
  · rw [hs] at hi
    by_cases h0 : len = 0
    · subst h0; exact ⟨[], _, rfl, SlR.nil⟩
    · have hcell : ∀ i, i < len → ∃ c, w.cells? 0 (a.add (i * GoT.sz α)) (GoT.sz α) = some c ∧ ∃ q : α, GoT.rep (memOf w) c q := fun i hil => by
        have := hi i hil
        have hsome : elems[i]? = some elems[i] := by simp
        rw [hsome] at this
        obtain ⟨c, hc, ht⟩ := Option.bind_eq_some_iff.1 this
        exact ⟨c, hc, he.rd ht⟩
      obtain ⟨g, hg⟩ : ∃ g : Nat → List Value, ∀ i, i < len → w.cells? 0 (a.add (i * GoT.sz α)) (GoT.sz α) = some (g i) ∧ ∃ q : α, GoT.rep (memOf w) (g i) q :=
        ⟨fun i => if hil : i < len then (hcell i hil).choose else [], fun i hil => by simp only [dif_pos hil]; exact (hcell i hil).choose_spec⟩
      obtain ⟨cs, xs, hr, hl, hc⟩ := RepL.build (n := len) (g := g) len fun i hil => (hg i hil).2
      subst hl
      refine ⟨xs, _, rfl, cs, ⟨?_, by simp only [maxLen] at hcm; omega, ?_⟩, hr⟩
      · exact hr.length
      · right
        obtain ⟨hg0, _⟩ := hg 0 (by omega)
        obtain ⟨hl0, hc0⟩ := cells_of hg0
        have hv0 : w.cell? ((a.add (0 * GoT.sz α)).add 0) = some (g 0)[0] := hc0 0 _ (by simp)
        have ea : (a.add (0 * GoT.sz α)).add 0 = a := by simp [Addr.add]
        rw [ea] at hv0
        obtain ⟨b, off, spot⟩ := a
        simp only [World.cell?] at hv0
        split at hv0
        · rename_i l e' fr hb
          cases spot with
          | some z => simp at hv0
          | none =>
            refine ⟨b, off, cap, l, e', fr, rfl, hlc, memOf_cells hb, fun j v hj => ?_⟩
            have hjl : j < xs.length * GoT.sz α := by
              have := (List.getElem?_eq_some_iff.1 hj).1
              rw [hr.length] at this; exact this
            have hq : j / GoT.sz α < xs.length := Nat.div_lt_of_lt_mul (by rwa [Nat.mul_comm])
            obtain ⟨hgj, _⟩ := hg _ hq
            obtain ⟨hlj, hcj⟩ := cells_of hgj
            have hm : j % GoT.sz α < GoT.sz α := Nat.mod_lt _ (by omega)
            have hjj : cs[j]? = (g (j / GoT.sz α))[j % GoT.sz α]? := by
              rw [hc]
              have key : ∀ (k : Nat), (∀ i, i < k → (g i).length = GoT.sz α) → ∀ j, j < k * GoT.sz α → (((List.range k).map g).flatten)[j]? = (g (j / GoT.sz α))[j % GoT.sz α]? := by
                intro k
                induction k with
                | zero => intro _ j hj; omega
                | succ k ih =>
                  intro hlen j hj
                  rw [List.range_succ, List.map_append, List.flatten_append]
                  have hlk : (((List.range k).map g).flatten).length = k * GoT.sz α := by
                    clear ih hj
                    induction k with
                    | zero => simp
                    | succ k ih2 => rw [List.range_succ, List.map_append, List.flatten_append, List.length_append, ih2 (fun i hi => hlen i (by omega))]; simp [hlen k (by omega), Nat.succ_mul]
                  by_cases hjk : j < k * GoT.sz α
                  · rw [List.getElem?_append_left (by omega)]; exact ih (fun i hi => hlen i (by omega)) j hjk
                  · rw [List.getElem?_append_right (by omega), hlk]
                    rw [Nat.succ_mul] at hj
                    have e1 : j / GoT.sz α = k := by
                      apply Nat.div_eq_of_lt_le <;> first | omega | (rw [Nat.succ_mul]; omega)
                    have e2 : j % GoT.sz α = j - k * GoT.sz α := by
                      have := Nat.div_add_mod j (GoT.sz α); rw [e1, Nat.mul_comm] at this; omega
                    rw [e1, e2]; simp
              exact key _ (fun i hi => (cells_of (hg i hi).1).1) j hjl
            rw [hjj] at hj
            have := hcj _ v hj
            simp only [World.cell?] at this
            have e3 : ((⟨b, off, none⟩ : Addr).add (j / GoT.sz α * GoT.sz α)).add (j % GoT.sz α) = ⟨b, off + j, none⟩ := by
              have := Nat.div_add_mod j (GoT.sz α)
              rw [addr_add, addr_add]
              congr 1
              rw [Nat.mul_comm] at this; omega
            rw [e3] at this
            simp only [hb] at this
            simpa using this
        · cases hv0⟩

/-- A table. -/
theorem ptc_tab {α : Type} {c : α → Value} {w : World} {g : Nat} {xs : List α} {l : Array Value} {e : TypeId} {fr : Nat × Nat} (h : w.heap[g]? = some (.cells l e fr)) (hl : l.toList = xs.map c) : PtC (memOf w) (pt g 0) (xs.map c) :=
  ⟨g, 0, l, e, fr, rfl, memOf_cells h, fun i x hx => by rw [← hl] at hx; simpa using hx⟩

theorem tab_of {P : Program} {W : World} {name : String} {k : IntKind} {zs : List Int} {g : Nat} {α : Type} {c : α → Value} {xs : List α} (h : Lib.TabIs P W name k zs) (hg : P.globalNamed name = some g) (hz : zs.map (fun z => Value.int k z) = xs.map c) : PtC (memOf W) (pt g 0) (xs.map c) := by
  unfold Lib.TabIs World.var? at h
  rw [hg] at h
  simp only [Option.bind_some] at h
  split at h
  · rename_i cs e fr hh
    refine ptc_tab hh ?_
    have := Option.some.inj h
    rw [this, ← hz]
  · cases h
theorem okWide_arr {P : Program} {w : World} {r : Reach} {base : Nat} {t e : TypeId} {n : Nat} {v : Value} (ht : P.underlying t = some (.array n e)) (h : Value.okWide P w r base t v) : ∃ cs, v = .agg cs := by
  simp only [Value.okWide, ht] at h
  obtain ⟨cs, e, _⟩ := h; exact ⟨cs, e⟩
theorem arr_of {c : Array Value} {l : List Value} (h : c.toList = l) : c = l.toArray := by rw [← h]
theorem Rd.openC {P : Program} {t : TypeId} {α : Type} [GoT α] (R : Rd P t α) {H : Type} {enc : TypeId × Value → H} {W : World} {sp : Nat → Bool} {v : Value} {d : DataW H} {ps : List MemPlace} (hc : v.cells = #[v]) (h : DataW.Trod enc P W 0 sp true t v d ps) : ∃ a : α, GoT.rep (memOf W) [v] a := by
  obtain ⟨n, hn⟩ := h
  rw [hc] at hn
  exact R.rd hn
theorem Rd.openA {P : Program} {t : TypeId} {α : Type} [GoT α] (R : Rd P t α) {H : Type} {enc : TypeId × Value → H} {W : World} {sp : Nat → Bool} {cs : Array Value} {d : DataW H} {ps : List MemPlace} (h : DataW.Trod enc P W 0 sp true t (.agg cs) d ps) : ∃ a : α, GoT.rep (memOf W) cs.toList a := by
  obtain ⟨n, hn⟩ := h
  exact R.rd hn
theorem Rd.openS {P : Program} {t : TypeId} {α : Type} [GoT α] (R : Rd P t (List α)) {H : Type} {enc : TypeId × Value → H} {W : World} {sp : Nat → Bool} {a : Option Addr} {l c : Nat} {d : DataW H} {ps : List MemPlace} (h : DataW.Trod enc P W 0 sp true t (.slice a l c) d ps) : ∃ xs : List α, SlR (memOf W) (.slice a l c) xs := by
  obtain ⟨xs, v, e, hs⟩ := R.openC rfl h
  cases e
  exact ⟨xs, hs⟩

section
variable {H : Type} {enc : TypeId × Value → H} {P : Program} {W W' : World} {M : Mem}
theorem trodAll_stays (hl : laidOutB P = true) (hle : memOf W ≤ M) (S : St M [] W') (k : Kd W W') : ∀ {ts : List TypeId} {vs : List Value} {ds : List (DataW H)} {ps : List MemPlace}, (ts.all fun t => P.readableRec t && decide (t < P.types.size)) = true →
    DataW.TrodAll enc P W 0 (fun _ => true) true ts vs ds ps → (∀ p ∈ ps, p.block < W.heap.size) → ∀ sp : Nat → Bool, (∀ p ∈ ps, sp p.block = true) → DataW.TrodAll enc P W' 0 sp true ts vs ds ps := by
  intro ts
  induction ts with
  | nil => intro vs ds ps _ h _ sp _; obtain ⟨rfl, rfl, rfl⟩ := trodAll_nil h; exact trodAll_mk0
  | cons t ts ih =>
    intro vs ds ps hr h hlt sp hsp
    obtain ⟨v, vs, d, ds, p, q, rfl, rfl, rfl, h1, h2⟩ := trodAll_cons h
    simp only [List.all_cons, Bool.and_eq_true, decide_eq_true_eq] at hr
    exact trodAll_cons_mk (WideElems.Trod_stays hl hr.1.1 hr.1.2 h1 (fun p hp => kept_at hle S k (hlt p (by simp [hp]))) (fun p hp => hsp p (by simp [hp])))
      (ih hr.2 h2 (fun p hp => hlt p (by simp [hp])) sp (fun p hp => hsp p (by simp [hp])))

/-- A law that has told true, and has left all as it was. -/
theorem post_true {f : Func} {s : ChangeSpec} {args : Array Value} {ds : List (DataW H)} {before : List MemPlace} {tb : TypeId} (hl : laidOutB P = true) (hr : (f.params.toList.all fun t => P.readableRec t && decide (t < P.types.size)) = true)
    (hv : s.vars = []) (hres : f.resultTypes = #[tb]) (hb : P.underlying tb = some .bool)
    (hW : DataW.Whole enc P f.params.toList s.vars false W args.toList ds [] before) (hA : DataW.TrodAll enc P W 0 (fun _ => true) true f.params.toList args.toList ds before)
    (hs : (s.fn H ds).results = [.lit (.bool true)]) (ha : (s.fn H ds).args = ds) (hvs : (s.fn H ds).vars = [])
    (hle : memOf W ≤ M) (S : St M [] W') (k : Kd W W') : s.post enc P f false true false false W args (.bool true) W' := by
  have hlt : ∀ p ∈ before, p.block < W.heap.size := fun p hp => hW.lt p hp
  have hres' : ∀ (b : Nat) (sp : Nat → Bool) (hd : Bool), DataW.TrodAll enc P W' b sp hd f.resultTypes.toList ((Value.bool true).resultList f.resultTypes.size) [.lit (.bool true)] [] := fun b sp hd => by
    rw [hres]; exact trodAll_cons_mk (shut_bool hb true) trodAll_mk0
  have hargs : ∀ sp : Nat → Bool, (∀ p ∈ before, sp p.block = true) → DataW.TrodAll enc P W' 0 sp true f.params.toList args.toList ds before := fun sp hsp => trodAll_stays hl hle S k hr hA hlt sp hsp
  have hvars : ∀ sp : Nat → Bool, DataW.TrodVars enc P W' sp s.vars [] [] := fun sp => by rw [hv]; rfl
  have hold : ∀ p ∈ before, (fun b => decide (b < W.heap.size)) p.block = true := fun p hp => by simpa using hlt p hp
  refine ⟨ds, [], before, [], before, [], hW, by rw [List.append_nil, hs]; exact hres' _ _ _, by rw [List.append_nil, ha]; exact hargs _ hold, by rw [List.append_nil, hvs]; exact hvars _, World.keptBut_mono (fun p hp => ⟨hp, ?_⟩) (kept_but hle S k (· ∈ before)), fun _ => ?_⟩
  · exact Or.inr (Or.inl hp)
  · obtain ⟨_, _, _, _, _, hz, hn⟩ := hW
    refine ⟨ok_one hres rfl (okWide_bool_mk hb _), _, _, ([] ++ before) ++ [], ⟨[] ++ before, [], trodAll_append (hargs _ (fun _ _ => rfl)) (hres' _ _ _), hvars _, rfl, ?_, ?_⟩, ?_⟩
    · intro b off hp
      have hp' : MemPlace.cell b off ∈ before := by simpa using hp
      rw [kept_frozen (b := b) (off := off) hle S k (show b < W.heap.size from hlt _ hp')]
      exact hz b off hp'
    · intro ha
      have := hn ha
      simpa using this
    · intro p hp _
      simpa using hp
end
end Go.Gw
