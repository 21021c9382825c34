/- More steps: sums compared, lengths of texts. Conditions: none. -/
import Derived.Test.YtemiampgjgenhaaGreatDoorGwG
set_option linter.unusedSimpArgs false
set_option linter.unusedVariables false
namespace Go.Gw
open Go

section
variable {ρ : Option Nat} {P : Program} {N : Nat} {D : World} {ops : Array Oper} {rest : List Oper} {Q : Post} {f : Fr} {w w' : World} {v : Value}
variable {dst : Option Nat} {ty t t' t2 : TypeId} {pos : String} {af : Array Edge} {x y c a b : Operand} {m : Mem} {As : List Ow}

theorem equ_d (d : Nat) {p q : UInt64} (hu : P.underlying t = some (.int .u64)) : (Op.equalIn (d + 1) t (vU p) (vU q)).run P w = .ok (p == q) w := by
  have : ((p.toNat : Int) == (q.toNat : Int)) = (p == q) := by
    rw [Bool.eq_iff_iff]; simp only [beq_iff_eq]
    constructor
    · intro h; exact UInt64.toNat_inj.1 (by omega)
    · rintro rfl; rfl
  simp [Op.equalIn, run_underlying hu, vU, this]
theorem eqSum_d (d : Nat) {e : TypeId} {a b c k : UInt64} (hu : P.underlying t = some (.array 2 e)) (he : P.underlying e = some (.int .u64)) (hs : ∀ w, (sizeOf e).run P w = .ok 1 w) (ha : ∀ w, (isAgg e).run P w = .ok false w) :
    (Op.equalIn (d + 2) t (.agg #[vU a, vU b]) (.agg #[vU c, vU k])).run P w = .ok (eqSum (a, b) (c, k)) w := by
  have h1 : ∀ (p q : UInt64) w, (Op.equalIn (d + 1) e (vU p) (vU q)).run P w = .ok (p == q) w := fun p q w => equ_d d he
  unfold Op.equalIn
  simp [run_underlying hu, hs, part, ha, eqSum, List.range'_succ, h1]
  by_cases h : a = c <;> by_cases h' : b = k <;> simp [h, h']
theorem eqSum_r {e : TypeId} {p q : UInt64 × UInt64} (hu : P.underlying t = some (.array 2 e)) (he : P.underlying e = some (.int .u64)) (hs : ∀ w, (sizeOf e).run P w = .ok 1 w) (ha : ∀ w, (isAgg e).run P w = .ok false w) :
    (Op.equal t (.agg #[vU p.1, vU p.2]) (.agg #[vU q.1, vU q.2])).run P w = .ok (eqSum p q) w := eqSum_d 9998 hu he hs ha
theorem s_eqlSum {e : TypeId} {p q : UInt64 × UInt64} (hx : ev f x = .agg #[vU p.1, vU p.2]) (hy : ev f y = .agg #[vU q.1, vU q.2]) (hu : P.underlying t = some (.array 2 e)) (he : P.underlying e = some (.int .u64)) (hs : ∀ w, (sizeOf e).run P w = .ok 1 w)
    (ha : ∀ w, (isAgg e).run P w = .ok false w) (hg : P.eqGuardType P.depth t = false) (h : wpl ρ P N D ops rest Q (upo N f dst (.bool (eqSum p q))) w) :
    wpl ρ P N D ops (⟨dst, .binOp .eql t x y t', ty, pos, af, none⟩ :: rest) Q f w :=
  wpl_eql hx hy (by simp [eqGuard, hg]) (by simp only [binOp, Sem.run_bind, eqSum_r hu he hs ha, Result.andThen_ok, Sem.run_pure]) h
theorem s_neqSum {e : TypeId} {p q : UInt64 × UInt64} (hx : ev f x = .agg #[vU p.1, vU p.2]) (hy : ev f y = .agg #[vU q.1, vU q.2]) (hu : P.underlying t = some (.array 2 e)) (he : P.underlying e = some (.int .u64)) (hs : ∀ w, (sizeOf e).run P w = .ok 1 w)
    (ha : ∀ w, (isAgg e).run P w = .ok false w) (hg : P.eqGuardType P.depth t = false) (h : wpl ρ P N D ops rest Q (upo N f dst (.bool (!eqSum p q))) w) :
    wpl ρ P N D ops (⟨dst, .binOp .neq t x y t', ty, pos, af, none⟩ :: rest) Q f w :=
  wpl_neq hx hy (by simp [eqGuard, hg]) (by simp only [binOp, Sem.run_bind, eqSum_r hu he hs ha, Result.andThen_ok, Sem.run_pure]) h
theorem s_lenS {s : ByteArray} (hx : ev f x = vS s) (hu : P.underlying t = some .string) (h : wpl ρ P N D ops rest Q (upo N f dst (vI s.size)) w) :
    wpl ρ P N D ops (⟨dst, .call { callee := .builtin .len, args := #[x], argTypes := #[t] }, ty, pos, af, none⟩ :: rest) Q f w :=
  wpl_val (v := vI s.size) (w' := w) rfl (fun _ e => by cases e) (by simp [execOp, resolve, invoke, builtin, Builtin.len_, hx, run_underlying hu, goInt]) h
theorem s_negU {p : UInt64} (hx : ev f x = vU p) (h : wpl ρ P N D ops rest Q (upo N f dst (vU (toU (-(p.toNat : Int))))) w) :
    wpl ρ P N D ops (⟨dst, .unOp .neg t x, ty, pos, af, none⟩ :: rest) Q f w :=
  wpl_val (v := vU (toU (-(p.toNat : Int)))) (w' := w) rfl (fun _ e => by cases e) (by simp [execOp, hx, Op.unary, Op.intArith, wrapU]) h
theorem s_negW {p : UInt32} (hx : ev f x = vW p) (h : wpl ρ P N D ops rest Q (upo N f dst (vW (toW (-(p.toNat : Int))))) w) :
    wpl ρ P N D ops (⟨dst, .unOp .neg t x, ty, pos, af, none⟩ :: rest) Q f w :=
  wpl_val (v := vW (toW (-(p.toNat : Int)))) (w' := w) rfl (fun _ e => by cases e) (by simp [execOp, hx, Op.unary, Op.intArith, wrapW]) h
theorem s_lenA {n : Nat} {e : TypeId} (hu : P.underlying t = some (.array n e)) (h : wpl ρ P N D ops rest Q (upo N f dst (vI n)) w) :
    wpl ρ P N D ops (⟨dst, .call { callee := .builtin .len, args := #[x], argTypes := #[t] }, ty, pos, af, none⟩ :: rest) Q f w :=
  wpl_val (v := vI n) (w' := w) rfl (fun _ e => by cases e) (by simp [execOp, resolve, invoke, builtin, Builtin.len_, run_underlying hu, goInt]) h
theorem s_eqlS {p q : ByteArray} (hx : ev f x = vS p) (hy : ev f y = vS q) (h : wpl ρ P N D ops rest Q (upo N f dst (.bool (p.toList == q.toList))) w) :
    wpl ρ P N D ops (⟨dst, .binOp .eql t x y t', ty, pos, af, none⟩ :: rest) Q f w :=
  wpl_eql hx hy (by simp [eqGuard]) (by simp [binOp, Op.stringOp]) h
theorem s_neqS {p q : ByteArray} (hx : ev f x = vS p) (hy : ev f y = vS q) (h : wpl ρ P N D ops rest Q (upo N f dst (.bool (!(p.toList == q.toList)))) w) :
    wpl ρ P N D ops (⟨dst, .binOp .neq t x y t', ty, pos, af, none⟩ :: rest) Q f w :=
  wpl_neq hx hy (by simp [eqGuard]) (by simp [binOp, Op.stringOp]) h

/-! ### parts of data that are no variable -/
theorem run_part {cs d : List Value} {e : TypeId} {o sz : Nat} {agg : Bool} (ha : ∀ w, (isAgg e).run P w = .ok agg w) (hs : ∀ w, (sizeOf e).run P w = .ok sz w) (hd : (cs.drop o).take sz = d) (hl : d.length = sz) (h1 : agg = false → sz = 1) :
    (part e cs.toArray o).run P w = .ok (pk agg d) w := by
  cases agg with
  | true =>
    simp only [part, Sem.run_bind, ha, Result.andThen_ok, if_true, hs, Sem.run_pure, pk, cond_true]
    congr 2
    rw [← hd]
    apply Array.toList_inj.1
    simp [List.drop_take]
  | false =>
    have := h1 rfl
    subst this
    simp only [part, Sem.run_bind, ha, Result.andThen_ok, Bool.false_eq_true, if_false, pk, cond_false]
    cases d with
    | nil => simp at hl
    | cons a r =>
      have : r = [] := by simpa using hl
      subst this
      have e0 : cs[o]? = some a := by
        have := congrArg (·[0]?) hd
        simpa using this
      simp [e0]
theorem s_index {cs d : List Value} {n sz : Nat} {e : TypeId} {agg : Bool} {k : IntKind} {i : Int} (hx : ev f x = .agg cs.toArray) (hi : ev f y = .int k i) (h0 : 0 ≤ i) (hn : i < n) (hu : P.underlying t = some (.array n e))
    (ha : ∀ w, (isAgg e).run P w = .ok agg w) (hs : ∀ w, (sizeOf e).run P w = .ok sz w) (hd : (cs.drop (i.toNat * sz)).take sz = d) (hl : d.length = sz) (h1 : agg = false → sz = 1)
    (h : wpl ρ P N D ops rest Q (upo N f dst (pk agg d)) w) : wpl ρ P N D ops (⟨dst, .index t x y, ty, pos, af, none⟩ :: rest) Q f w :=
  wpl_val (v := pk agg d) (w' := w) rfl (fun _ e => by cases e) (by
    simp only [execOp, hx, hi, Instr.index, asIntOf, Sem.run_bind, Sem.run_pure, Result.andThen_ok, run_underlying hu, if_pos (And.intro h0 hn), hs, run_part ha hs hd hl h1]) h
theorem s_field {cs d : List Value} {fs : Array Field} {fd : Field} {i sz : Nat} {agg : Bool} (hx : ev f x = .agg cs.toArray) (hu : P.underlying t = some (.struct fs)) (hi : fs[i]? = some fd)
    (ha : ∀ w, (isAgg fd.type).run P w = .ok agg w) (hs : ∀ w, (sizeOf fd.type).run P w = .ok sz w) (hd : (cs.drop fd.offset).take sz = d) (hl : d.length = sz) (h1 : agg = false → sz = 1)
    (h : wpl ρ P N D ops rest Q (upo N f dst (pk agg d)) w) : wpl ρ P N D ops (⟨dst, .field t x i, ty, pos, af, none⟩ :: rest) Q f w :=
  wpl_val (v := pk agg d) (w' := w) rfl (fun _ e => by cases e) (by
    simp only [execOp, hx, Instr.field, asAgg, Sem.run_bind, Sem.run_pure, Result.andThen_ok, run_underlying hu, hi, run_part ha hs hd hl h1]) h
theorem s_indexS {s : ByteArray} {k : IntKind} {i : Int} {b : UInt8} (hx : ev f x = vS s) (hi : ev f y = .int k i) (hu : P.underlying t = some .string) (q : idx s.data.toList i = some b)
    (h : wpl ρ P N D ops rest Q (upo N f dst (vB b)) w) : wpl ρ P N D ops (⟨dst, .index t x y, ty, pos, af, none⟩ :: rest) Q f w :=
  wpl_val (v := vB b) (w' := w) rfl (fun _ e => by cases e) (by
    have h0 : 0 ≤ i := by
      unfold idx at q; split at q
      · assumption
      · cases q
    have e : s[i.toNat]? = some b := by
      unfold idx at q; rw [if_pos h0] at q
      rw [Array.getElem?_toList] at q
      exact q
    simp only [execOp, hx, hi, Instr.index, asIntOf, Sem.run_bind, Sem.run_pure, Result.andThen_ok, run_underlying hu, if_pos h0, e]) h

/-! ### structs and arrays that are built -/
def fillL (place : Nat → Option (Nat × Nat)) (cells : List Value) : List (Nat × Value × List Value) → Option (List Value)
  | [] => some cells
  | p :: rest =>
    match place p.1 with
    | none => none
    | some q => bif Nat.beq p.2.2.length q.2 && Nat.ble (q.1 + p.2.2.length) cells.length then fillL place (cells.take q.1 ++ p.2.2 ++ cells.drop (q.1 + p.2.2.length)) rest else none
def PartsOk : List (Nat × Value × List Value) → Prop
  | [] => True
  | p :: r => p.2.1.cells = p.2.2.toArray ∧ PartsOk r
theorem fill_ok {place : Nat → Option (Nat × Nat)} : ∀ (ps : List (Nat × Value × List Value)) (cells out : List Value), PartsOk ps → fillL place cells ps = some out → Instr.fill place cells.toArray (ps.map fun p => (p.1, p.2.1)) = some out.toArray := by
  intro ps
  induction ps with
  | nil => intro cells out _ h; simp only [fillL, Option.some.injEq] at h; subst h; rfl
  | cons p ps ih =>
    intro cells out hp h
    obtain ⟨hc, hr⟩ := hp
    simp only [fillL] at h
    simp only [List.map_cons, Instr.fill]
    cases hpl : place p.1 with
    | none => rw [hpl] at h; cases h
    | some q =>
      obtain ⟨off, size⟩ := q
      rw [hpl] at h
      simp only at h
      cases hb : Nat.beq p.2.2.length size && Nat.ble (off + p.2.2.length) cells.length with
      | false => rw [hb] at h; cases h
      | true =>
        rw [hb, cond_true] at h
        simp only [Bool.and_eq_true, Nat.beq_eq, Nat.ble_eq] at hb
        have hsz : p.2.1.cells.size = p.2.2.length := by rw [hc]; simp
        simp only
        rw [if_neg (by simp [hsz, hb.1]; have := hb.2; omega)]
        have e := foldl_set p.2.2 (cells.take off) ((cells.drop off).take p.2.2.length) (cells.drop (off + p.2.2.length)) (by simp; omega)
        have ec : cells.take off ++ (cells.drop off).take p.2.2.length ++ cells.drop (off + p.2.2.length) = cells := by
          rw [← List.drop_drop, List.append_assoc, List.take_append_drop, List.take_append_drop]
        rw [ec] at e
        have e2 : p.2.1.cells.zipIdx.foldl (fun (cs : Array Value) (p : Value × Nat) => cs.setIfInBounds (off + p.2) p.1) cells.toArray = (cells.take off ++ p.2.2 ++ cells.drop (off + p.2.2.length)).toArray := by
          rw [hc, ← e, ← Array.foldl_toList]
          have : (cells.take off).length = off := by simp; omega
          rw [this]
          congr 1
          simp
        rw [e2]
        exact ih _ _ hr h
theorem SlR.cells {α : Type} [GoT α] {xs : List α} (h : SlR m v xs) : v.cells = #[v] := by
  obtain ⟨a, c, rfl⟩ := h.val; rfl

def AllSz (P : Program) : List Field → List Nat → Prop
  | [], [] => True
  | fd :: r, s :: q => (∀ w, (sizeOf fd.type).run P w = .ok s w) ∧ AllSz P r q
  | _, _ => False
theorem run_places : ∀ (fs : List Field) (ss : List Nat), AllSz P fs ss → ∀ w, (fs.mapM fun fd => (do pure (fd.offset, ← sizeOf fd.type) : Sem (Nat × Nat))).run P w = .ok (List.zipWith (fun (fd : Field) s => (fd.offset, s)) fs ss) w := by
  intro fs
  induction fs with
  | nil => intro ss h w; cases ss with
    | nil => rfl
    | cons s q => cases h
  | cons fd r ih => intro ss h w; cases ss with
    | nil => cases h
    | cons s q =>
      have h1 := h.1
      have h2 := ih q h.2
      simp only [List.mapM_cons, Sem.run_bind, h1, Result.andThen_ok, Sem.run_pure, h2, List.zipWith_cons_cons]
def BuildPl (P : Program) (t : TypeId) (place : Nat → Option (Nat × Nat)) : Prop :=
  (∃ fs ss, P.underlying t = some (.struct fs) ∧ AllSz P fs.toList ss ∧ ∀ i, place i = (List.zipWith (fun (fd : Field) s => (fd.offset, s)) fs.toList ss)[i]?) ∨
    ∃ n e sz, P.underlying t = some (.array n e) ∧ (∀ w, (sizeOf e).run P w = .ok sz w) ∧ ∀ i, place i = some (i * sz, sz)
theorem BuildPl.str {fs : Array Field} {ss : List Nat} (hu : P.underlying t = some (.struct fs)) (hs : AllSz P fs.toList ss) : BuildPl P t (fun i => (List.zipWith (fun (fd : Field) s => (fd.offset, s)) fs.toList ss)[i]?) :=
  .inl ⟨fs, ss, hu, hs, fun _ => rfl⟩
theorem BuildPl.arr {n sz : Nat} {e : TypeId} (hu : P.underlying t = some (.array n e)) (hs : ∀ w, (sizeOf e).run P w = .ok sz w) : BuildPl P t (fun i => some (i * sz, sz)) :=
  .inr ⟨n, e, sz, hu, hs, fun _ => rfl⟩
theorem run_build {place : Nat → Option (Nat × Nat)} {z : Value} {ps : List (Nat × Value × List Value)} {cs : List Value} (hz : ∀ w, (zeroValue t).run P w = .ok z w) (hpl : BuildPl P t place) (ho : PartsOk ps)
    (hf : fillL place z.cells.toList ps = some cs) : (Instr.build t (ps.map fun p => (p.1, p.2.1)).toArray).run P w = .ok (.agg cs.toArray) w := by
  have hk := fill_ok ps z.cells.toList cs ho hf
  rw [Array.toArray_toList] at hk
  rcases hpl with ⟨fs, ss, hu, hs, hp⟩ | ⟨n, e, sz, hu, hs, hp⟩
  · have hm := run_places fs.toList ss hs w
    have e1 : place = fun i => (List.zipWith (fun (fd : Field) s => (fd.offset, s)) fs.toList ss).toArray[i]? := by funext i; rw [hp]; simp
    rw [e1] at hk
    have hm' : (fs.mapM fun fd => (do pure (fd.offset, ← sizeOf fd.type) : Sem (Nat × Nat))).run P w = .ok (List.zipWith (fun (fd : Field) s => (fd.offset, s)) fs.toList ss).toArray w := by
      rw [Array.mapM_eq_mapM_toList]
      simp only [map_eq_pure_bind, Sem.run_bind, hm, Result.andThen_ok, Sem.run_pure]
    simp only [Instr.build, Sem.run_bind, hz, Result.andThen_ok, run_underlying hu]
    simp only [bind_pure_comp] at hm' ⊢
    simp only [Sem.run_bind, hm', Result.andThen_ok, hk, Sem.run_pure]
  · have e1 : place = fun i => some (i * sz, sz) := by funext i; rw [hp]
    rw [e1] at hk
    simp only [Instr.build, Sem.run_bind, hz, Result.andThen_ok, run_underlying hu, hs, hk, Sem.run_pure]
theorem s_build {parts : List (Nat × Operand)} {place : Nat → Option (Nat × Nat)} {z : Value} {ps : List (Nat × Value × List Value)} {cs : List Value} (hz : ∀ w, (zeroValue t).run P w = .ok z w) (hpl : BuildPl P t place) (hp : parts.map (fun p => (p.1, ev f p.2)) = ps.map (fun p => (p.1, p.2.1)))
    (ho : PartsOk ps) (hf : fillL place z.cells.toList ps = some cs) (h : wpl ρ P N D ops rest Q (upo N f dst (.agg cs.toArray)) w) :
    wpl ρ P N D ops (⟨dst, .build t parts.toArray, ty, pos, af, none⟩ :: rest) Q f w :=
  wpl_val (v := .agg cs.toArray) (w' := w) rfl (fun _ e => by cases e) (by
    have e : (parts.toArray.map fun (i, x) => (i, ev f x)) = (ps.map fun p => (p.1, p.2.1)).toArray := by rw [← hp]; simp
    simp only [execOp, Sem.run_bind, e, run_build hz hpl ho hf, Result.andThen_ok, Sem.run_pure]) h
end

/-! ### places that are told by a number that is not known -/
theorem idx_cons {α : Type} {a x : α} {l : List α} {j : Int} (q : idx (a :: l) j = some x) : (j = 0 ∧ x = a) ∨ idx l (j - 1) = some x := by
  unfold idx at q ⊢
  split at q
  · rename_i h
    by_cases e : j = 0
    · subst e; simp at q; exact .inl ⟨rfl, q.symm⟩
    · right
      have : j.toNat = (j - 1).toNat + 1 := by omega
      rw [this, List.getElem?_cons_succ] at q
      rw [if_pos (by omega)]; exact q
  · cases q
theorem idx_nil {α : Type} {x : α} {j : Int} (q : idx ([] : List α) j = some x) : False := by
  unfold idx at q
  split at q <;> simp at q
theorem idx_rng {α : Type} {x : α} {l : List α} {j : Int} (q : idx l j = some x) : 0 ≤ j ∧ j < (l.length : Int) := by
  unfold idx at q
  split at q
  · rename_i h
    have := (List.getElem?_eq_some_iff.1 q).1
    omega
  · cases q
theorem idx1 {α : Type} {x a : α} {j : Int} (q : idx [a] j = some x) : (j = 0 ∧ x = a) := by
  rcases idx_cons q with h | q
  · exact h
  · exact (idx_nil q).elim
theorem idx2 {α : Type} {x a b : α} {j : Int} (q : idx [a, b] j = some x) : (j = 0 ∧ x = a) ∨ (j = 1 ∧ x = b) := by
  rcases idx_cons q with h | q
  · exact .inl h
  · rcases idx1 q with ⟨h, e⟩
    · exact .inr (⟨by omega, e⟩)
theorem idx3 {α : Type} {x a b c : α} {j : Int} (q : idx [a, b, c] j = some x) : (j = 0 ∧ x = a) ∨ (j = 1 ∧ x = b) ∨ (j = 2 ∧ x = c) := by
  rcases idx_cons q with h | q
  · exact .inl h
  · rcases idx2 q with ⟨h, e⟩ | ⟨h, e⟩
    · exact .inr (.inl ⟨by omega, e⟩)
    · exact .inr (.inr (⟨by omega, e⟩))
theorem idx4 {α : Type} {x a b c d : α} {j : Int} (q : idx [a, b, c, d] j = some x) : (j = 0 ∧ x = a) ∨ (j = 1 ∧ x = b) ∨ (j = 2 ∧ x = c) ∨ (j = 3 ∧ x = d) := by
  rcases idx_cons q with h | q
  · exact .inl h
  · rcases idx3 q with ⟨h, e⟩ | ⟨h, e⟩ | ⟨h, e⟩
    · exact .inr (.inl ⟨by omega, e⟩)
    · exact .inr (.inr (.inl ⟨by omega, e⟩))
    · exact .inr (.inr (.inr (⟨by omega, e⟩)))
theorem St.cellsTo {m : Mem} {As : List Ow} {w : World} {i b : Nat} {l l' : List Value} {t : TypeId} {Bs : List Ow} (h : St m (As.set i (bx b l t)) w) (e : l = l') (hb : As.set i (bx b l' t) = Bs) : St m Bs w := by
  subst e; subst hb; exact h

/-! ### one's own slices by what they hold -/
section
variable {α : Type} [GoT α] {m : Mem} {cs : List Value} {xs : List α} {x y : α} {j : Int}
theorem RepL.getI (h : RepL m cs xs) (q : idx xs j = some x) : GoT.rep m ((cs.drop (j.toNat * GoT.sz α)).take (GoT.sz α)) x := by
  refine h.get (i := j.toNat) ?_
  unfold idx at q
  split at q
  · exact q
  · cases q
theorem RepL.inb (h : RepL m cs xs) (q : idx xs j = some x) : j.toNat * GoT.sz α + GoT.sz α ≤ cs.length := by
  have := idx_rng q
  rw [h.length, ← Nat.succ_mul]
  exact Nat.mul_le_mul_right _ (by omega)
theorem RepL.set (h : RepL m cs xs) {i : Nat} (hi : i < xs.length) {c : List Value} (hc : GoT.rep m c y) : RepL m (cs.take (i * GoT.sz α) ++ c ++ cs.drop (i * GoT.sz α + GoT.sz α)) (xs.set i y) := by
  rw [List.set_eq_take_append_cons_drop, if_pos hi, List.append_assoc]
  refine (h.take i).append (RepL.cons hc ?_)
  have := h.drop (i + 1)
  rwa [Nat.succ_mul] at this
theorem drop_sub {l c d : List Value} {o n k : Nat} (e : (l.drop o).take n = c) (hk : (c.drop k).take d.length = d) (hl : k + d.length ≤ n) : (l.drop (o + k)).take d.length = d := by
  rw [← e] at hk
  rw [List.drop_take, List.drop_drop, List.take_take, Nat.min_eq_left (by omega)] at hk
  exact hk
end
section
variable {ρ : Option Nat} {P : Program} {N : Nat} {D : World} {ops : Array Oper} {rest : List Oper} {Q : Post} {f : Fr} {w w' : World} {v : Value}
variable {dst : Option Nat} {ty t t' t2 : TypeId} {pos : String} {af : Array Edge} {x y c a b : Operand} {m : Mem} {As : List Ow}
theorem s_stOR {α : Type} [GoT α] {xs : List α} {z0 z : α} {j : Int} {i : Nat} {cs : List Value} {p u : Value} (hS : St m As w) (hx : ev f x = p) (hy : ev f y = u) (hp : PtO v p (j.toNat * GoT.sz α)) (hA : As[i]? = some (row (GoT.sz α) v cs xs.length))
    (hr : RepL m cs xs) (q : idx xs j = some z0) (hs : ∀ w, (sizeOf t).run P w = .ok u.cells.size w) (h1 : OneL u.cells.toList) (hz : GoT.rep m u.cells.toList z)
    (h : ∀ w' cs', St m (As.set i (row (GoT.sz α) v cs' (xs.set j.toNat z).length)) w' → RepL m cs' (xs.set j.toNat z) → wpl ρ P N D ops rest Q (upo N f dst undef) w') :
    wpl ρ P N D ops (⟨dst, .store t x y, ty, pos, af, none⟩ :: rest) Q f w := by
  have hlen : u.cells.size = GoT.sz α := by have := GoT.len hz; simpa using this
  have hb := hr.inb q
  refine s_stO hS hx hy hp hA hs h1.all (by rw [hlen]; exact hb) fun w' hS' => ?_
  refine h w' _ (by rw [List.length_set]; exact hS') ?_
  have := hr.set (y := z) (i := j.toNat) (by have := idx_rng q; omega) hz
  rw [hlen]; exact this
theorem s_fldO {off fo n : Nat} {p : Value} {fs : Array Field} {fd : Field} {i : Nat} (hx : ev f x = p) (hp : PtO v p off) (hu : P.underlying t = some (.struct fs)) (hi : fs[i]? = some fd) (ho : fd.offset = fo) (hs : ∀ w, (sizeOf fd.type).run P w = .ok (n + 1) w)
    (h : ∀ p', PtO v p' (off + fo) → wpl ρ P N D ops rest Q (upo N f dst p') w) : wpl ρ P N D ops (⟨dst, .fieldAddr t x i, ty, pos, af, none⟩ :: rest) Q f w := by
  obtain ⟨b, n', c', rfl, rfl⟩ := hp
  exact s_fld hx hu hi ho hs (h _ ⟨b, _, _, rfl, rfl⟩)
end

/-! ### literals whose parts are slices, too -/
def CellsAre : List Value → List (List Value) → Prop
  | [], [] => True
  | v :: vs, c :: cs => v.cells = c.toArray ∧ CellsAre vs cs
  | _, _ => False
def lenB (n : Nat) : List (List Value) → Bool
  | [] => true
  | c :: cs => Nat.beq c.length n && lenB n cs
theorem CellsAre.flat : ∀ {vs : List Value} {cs : List (List Value)}, CellsAre vs cs → (vs.flatMap fun v => v.cells.toList) = cs.flatten
  | [], [], _ => rfl
  | v :: vs, c :: cs, h => by rw [List.flatMap_cons, List.flatten_cons, CellsAre.flat h.2, h.1]
theorem CellsAre.size {n : Nat} : ∀ {vs : List Value} {cs : List (List Value)}, CellsAre vs cs → lenB n cs = true → ∀ v ∈ vs, v.cells.size = n
  | [], [], _, _, _, hv => by cases hv
  | u :: vs, c :: cs, h, hl, v, hv => by
    simp only [lenB, Bool.and_eq_true, Nat.beq_eq] at hl
    rcases List.mem_cons.1 hv with rfl | hv
    · rw [h.1]; simpa using hl.1
    · exact CellsAre.size h.2 hl.2 v hv
section
variable {ρ : Option Nat} {P : Program} {N : Nat} {D : World} {ops : Array Oper} {rest : List Oper} {Q : Post} {f : Fr} {w w' : World} {v : Value}
variable {dst : Option Nat} {ty t t' t2 : TypeId} {pos : String} {af : Array Edge} {x y c a b : Operand} {m : Mem} {As : List Ow}
theorem s_litC {α : Type} [GoT α] {e : TypeId} {n : Nat} {z : Value} {parts : List Operand} {vs : List Value} {cls : List (List Value)} {xs : List α} (hS : St m As w) (ht : P.underlying t = some (.slice e)) (hs : ∀ w, (sizeOf e).run P w = .ok (GoT.sz α) w) (hz : ∀ w, (zeroValue e).run P w = .ok z w)
    (hp : parts.map (ev f) = vs) (hc : CellsAre vs cls) (hr : RepL m cls.flatten xs) (hv : lenB (GoT.sz α) cls = true) (hn : n = vs.length) (hl : vs.length = xs.length) (hb : n * GoT.sz α ≤ 16777216) (h0 : 1 ≤ GoT.sz α)
    (h : ∀ v m' w', m ≤ m' → St m' As w' → SlR m' v xs → wpl ρ P N D ops rest Q (upo N f dst v) w') :
    wpl ρ P N D ops (⟨dst, .buildSlice t n ((parts.zipIdx 0).map fun p => (p.2, p.1)).toArray, ty, pos, af, none⟩ :: rest) Q f w :=
  s_lit hS ht hs hz hp (by rw [hc.flat]; exact hr) (hc.size hv) hn hl hb h0 h
theorem s_litOC {e : TypeId} {sz n : Nat} {z : Value} {parts : List Operand} {vs : List Value} {cls : List (List Value)} (hS : St m As w) (ht : P.underlying t = some (.slice e)) (hs : ∀ w, (sizeOf e).run P w = .ok sz w) (hz : ∀ w, (zeroValue e).run P w = .ok z w)
    (hp : parts.map (ev f) = vs) (hc : CellsAre vs cls) (hv : lenB sz cls = true) (hn : n = vs.length) (hb : n * sz ≤ 16777216) (h0 : 1 ≤ sz)
    (h : ∀ v w', St m (row sz v cls.flatten n :: As) w' → wpl ρ P N D ops rest Q (upo N f dst v) w') :
    wpl ρ P N D ops (⟨dst, .buildSlice t n ((parts.zipIdx 0).map fun p => (p.2, p.1)).toArray, ty, pos, af, none⟩ :: rest) Q f w :=
  s_litO hS ht hs hz hp (hc.size hv) hn hb h0 (by rw [hc.flat]; exact h)
end
end Go.Gw
