/- The steps that read and write memory: variables of a call's own, slices that are only read, literals. Conditions: none. -/
import Derived.Test.YtemiampgjgenhaaGreatDoorGwB
set_option linter.unusedSimpArgs false
set_option linter.unusedVariables false
namespace Go.Gw
open Go

def cel (l : List Value) (e : TypeId) : Obj := .cells l.toArray e (0, 0)
abbrev pt (b off : Nat) : Value := .pointer (some ⟨b, off, none⟩)
abbrev bx (b : Nat) (l : List Value) (e : TypeId) : Ow := blk b (cel l e)

theorem addr_add (b off n : Nat) : (⟨b, off, none⟩ : Addr).add n = ⟨b, off + n, none⟩ := by
  unfold Addr.add; split <;> simp_all

/-- How data of a type lie in cells. -/
class GoT (α : Type) where
  sz : Nat
  rep : Mem → List Value → α → Prop
  len : ∀ {m cs x}, rep m cs x → cs.length = sz
  up : ∀ {m m' cs x}, m ≤ m' → rep m cs x → rep m' cs x
  one : ∀ {m cs x}, rep m cs x → ∀ v ∈ cs, v.oneCell' = true

instance : GoT Int where
  sz := 1
  rep _ cs n := cs = [vI n]
  len h := by rw [h]; rfl
  up _ h := h
  one h v hv := by rw [h] at hv; simp at hv; rw [hv]; rfl
instance : GoT UInt64 where
  sz := 1
  rep _ cs n := cs = [vU n]
  len h := by rw [h]; rfl
  up _ h := h
  one h v hv := by rw [h] at hv; simp at hv; rw [hv]; rfl
instance : GoT UInt8 where
  sz := 1
  rep _ cs n := cs = [vB n]
  len h := by rw [h]; rfl
  up _ h := h
  one h v hv := by rw [h] at hv; simp at hv; rw [hv]; rfl
instance : GoT Bool where
  sz := 1
  rep _ cs n := cs = [vb n]
  len h := by rw [h]; rfl
  up _ h := h
  one h v hv := by rw [h] at hv; simp at hv; rw [hv]; rfl
instance : GoT ByteArray where
  sz := 1
  rep _ cs n := cs = [vS n]
  len h := by rw [h]; rfl
  up _ h := h
  one h v hv := by rw [h] at hv; simp at hv; rw [hv]; rfl
instance {α β : Type} [GoT α] [GoT β] : GoT (α × β) where
  sz := GoT.sz α + GoT.sz β
  rep m cs x := ∃ a b, cs = a ++ b ∧ GoT.rep m a x.1 ∧ GoT.rep m b x.2
  len := by rintro m cs x ⟨a, b, rfl, h1, h2⟩; rw [List.length_append, GoT.len h1, GoT.len h2]
  up := by rintro m m' cs x l ⟨a, b, rfl, h1, h2⟩; exact ⟨a, b, rfl, GoT.up l h1, GoT.up l h2⟩
  one := by
    rintro m cs x ⟨a, b, rfl, h1, h2⟩ v hv
    rcases List.mem_append.1 hv with h | h
    · exact GoT.one h1 v h
    · exact GoT.one h2 v h

/-- Cells of what never changes. -/
def PtC (m : Mem) (p : Value) (cs : List Value) : Prop :=
  ∃ b off l e fr, p = pt b off ∧ m.heap b = some (.cells l e fr) ∧ ∀ i x, cs[i]? = some x → l[off + i]? = some x
theorem PtC.up {m m' : Mem} {p : Value} {cs : List Value} (h : PtC m p cs) (l : m ≤ m') : PtC m' p cs :=
  let ⟨b, off, a, e, fr, h1, h2, h3⟩ := h; ⟨b, off, a, e, fr, h1, l.heap _ _ h2, h3⟩

/-- A slice that is only read: n elements, of so many cells each. -/
def SlC (m : Mem) (sz : Nat) (v : Value) (cs : List Value) (n : Nat) : Prop :=
  cs.length = n * sz ∧ n ≤ 9223372036854775807 ∧ ((n = 0 ∧ ∃ a c, v = .slice a 0 c) ∨
    ∃ b off cap l e fr, v = .slice (some ⟨b, off, none⟩) n cap ∧ n ≤ cap ∧ m.heap b = some (.cells l e fr) ∧ ∀ i x, cs[i]? = some x → l[off + i]? = some x)
theorem SlC.up {m m' : Mem} {sz : Nat} {v : Value} {cs : List Value} {n : Nat} (h : SlC m sz v cs n) (l : m ≤ m') : SlC m' sz v cs n := by
  obtain ⟨hl, hb, h | ⟨b, off, cap, a, e, fr, h1, h2, h3, h4⟩⟩ := h
  · exact ⟨hl, hb, .inl h⟩
  · exact ⟨hl, hb, .inr ⟨b, off, cap, a, e, fr, h1, h2, l.heap _ _ h3, h4⟩⟩
theorem SlC.val {m : Mem} {sz : Nat} {v : Value} {cs : List Value} {n : Nat} (h : SlC m sz v cs n) : ∃ a c, v = .slice a n c := by
  obtain ⟨_, _, ⟨rfl, a, c, rfl⟩ | ⟨b, off, cap, a, e, fr, rfl, _⟩⟩ := h
  · exact ⟨a, c, rfl⟩
  · exact ⟨_, cap, rfl⟩
theorem SlC.one {m : Mem} {sz : Nat} {v : Value} {cs : List Value} {n : Nat} (h : SlC m sz v cs n) : v.oneCell' = true := by
  obtain ⟨a, c, rfl⟩ := h.val; rfl

def RepL {α : Type} [GoT α] (m : Mem) : List Value → List α → Prop
  | cs, [] => cs = []
  | cs, x :: xs => ∃ c d, cs = c ++ d ∧ GoT.rep m c x ∧ RepL m d xs

section
variable {α : Type} [GoT α] {m m' : Mem}
theorem RepL.up {cs : List Value} {xs : List α} (l : m ≤ m') (h : RepL m cs xs) : RepL m' cs xs := by
  induction xs generalizing cs with
  | nil => exact h
  | cons x xs ih => obtain ⟨c, d, e, h1, h2⟩ := h; exact ⟨c, d, e, GoT.up l h1, ih h2⟩
theorem RepL.nil : RepL (α := α) m [] [] := rfl
theorem RepL.cons {c d : List Value} {x : α} {xs : List α} (h : GoT.rep m c x) (k : RepL m d xs) : RepL m (c ++ d) (x :: xs) := ⟨c, d, rfl, h, k⟩
theorem RepL.append {c d : List Value} {xs ys : List α} (h : RepL m c xs) (k : RepL m d ys) : RepL m (c ++ d) (xs ++ ys) := by
  induction xs generalizing c with
  | nil => cases h; exact k
  | cons x xs ih => obtain ⟨a, b, rfl, h1, h2⟩ := h; exact ⟨a, b ++ d, by simp, h1, ih h2⟩
theorem RepL.single {c : List Value} {x : α} (h : GoT.rep m c x) : RepL m c [x] := ⟨c, [], by simp, h, rfl⟩
theorem RepL.length {cs : List Value} {xs : List α} (h : RepL m cs xs) : cs.length = xs.length * GoT.sz α := by
  induction xs generalizing cs with
  | nil => cases h; simp
  | cons x xs ih =>
    obtain ⟨a, b, rfl, h1, h2⟩ := h
    rw [List.length_append, GoT.len h1, ih h2, List.length_cons, Nat.succ_mul, Nat.add_comm]
theorem RepL.one {cs : List Value} {xs : List α} (h : RepL m cs xs) : ∀ v ∈ cs, v.oneCell' = true := by
  induction xs generalizing cs with
  | nil => cases h; simp
  | cons x xs ih =>
    obtain ⟨a, b, rfl, h1, h2⟩ := h
    intro v hv
    rcases List.mem_append.1 hv with k | k
    · exact GoT.one h1 v k
    · exact ih h2 v k
theorem RepL.drop {cs : List Value} {xs : List α} (h : RepL m cs xs) (n : Nat) : RepL m (cs.drop (n * GoT.sz α)) (xs.drop n) := by
  induction n generalizing cs xs with
  | zero => simpa using h
  | succ n ih =>
    cases xs with
    | nil => cases h; simp [RepL]
    | cons x xs =>
      obtain ⟨a, b, rfl, h1, h2⟩ := h
      have := ih h2
      rw [Nat.succ_mul, Nat.add_comm, ← List.drop_drop, List.drop_left' (GoT.len h1)]
      exact this
theorem RepL.take {cs : List Value} {xs : List α} (h : RepL m cs xs) (n : Nat) : RepL m (cs.take (n * GoT.sz α)) (xs.take n) := by
  induction n generalizing cs xs with
  | zero => simp [RepL]
  | succ n ih =>
    cases xs with
    | nil => cases h; simp [RepL]
    | cons x xs =>
      obtain ⟨a, b, rfl, h1, h2⟩ := h
      refine ⟨a, b.take (n * GoT.sz α), ?_, h1, ih h2⟩
      rw [Nat.succ_mul, Nat.add_comm, ← GoT.len h1, List.take_length_add_append, GoT.len h1]
theorem RepL.get {cs : List Value} {xs : List α} (h : RepL m cs xs) {i : Nat} {x : α} (hi : xs[i]? = some x) :
    GoT.rep m ((cs.drop (i * GoT.sz α)).take (GoT.sz α)) x := by
  have hd := h.drop i
  have hlt := (List.getElem?_eq_some_iff.1 hi).1
  rw [List.drop_eq_getElem_cons hlt] at hd
  obtain ⟨a, b, e, h1, _⟩ := hd
  rw [e, List.take_left' (GoT.len h1), (List.getElem?_eq_some_iff.1 hi).2.symm]
  exact h1
end

/-- A slice that is only read, and what it holds. -/
def SlR {α : Type} [GoT α] (m : Mem) (v : Value) (xs : List α) : Prop := ∃ cs, SlC m (GoT.sz α) v cs xs.length ∧ RepL m cs xs
theorem SlR.up {α : Type} [GoT α] {m m' : Mem} {v : Value} {xs : List α} (h : SlR m v xs) (l : m ≤ m') : SlR m' v xs :=
  let ⟨cs, h1, h2⟩ := h; ⟨cs, h1.up l, h2.up l⟩
theorem SlR.nil {α : Type} [GoT α] {m : Mem} {a : Option Addr} {c : Nat} : SlR (α := α) m (.slice a 0 c) [] :=
  ⟨[], ⟨by simp, by simp, .inl ⟨rfl, a, c, rfl⟩⟩, rfl⟩
theorem SlR.le {α : Type} [GoT α] {m : Mem} {v : Value} {xs : List α} (h : SlR m v xs) : xs.length ≤ 9223372036854775807 :=
  let ⟨_, h1, _⟩ := h; h1.2.1
theorem SlR.val {α : Type} [GoT α] {m : Mem} {v : Value} {xs : List α} (h : SlR m v xs) : ∃ a c, v = .slice a xs.length c :=
  let ⟨_, h1, _⟩ := h; h1.val

instance {α : Type} [GoT α] : GoT (List α) where
  sz := 1
  rep m cs xs := ∃ v, cs = [v] ∧ SlR m v xs
  len := by rintro m cs x ⟨v, rfl, _⟩; rfl
  up := by rintro m m' cs x l ⟨v, rfl, h⟩; exact ⟨v, rfl, h.up l⟩
  one := by
    rintro m cs x ⟨v, rfl, h⟩ u hu
    simp at hu; subst hu
    obtain ⟨cs, h1, _⟩ := h; exact h1.one

def pk (agg : Bool) (cs : List Value) : Value := bif agg then .agg cs.toArray else cs.headD undef

/-! ### what a model asks -/
def idx {α : Type} (xs : List α) (i : Int) : Option α := if 0 ≤ i then xs[i.toNat]? else none
def cut {α : Type} (xs : List α) (lo hi : Int) : Option (List α) := if 0 ≤ lo ∧ lo ≤ hi ∧ hi ≤ xs.length then some ((xs.drop lo.toNat).take (hi.toNat - lo.toNat)) else none
def obind {α β : Type} (x : Option α) (k : α → Option β) : Option β :=
  match x with
  | some a => k a
  | none => none
@[simp] theorem obind_some' {α β : Type} (a : α) (k : α → Option β) : obind (some a) k = k a := rfl
@[simp] theorem obind_none {α β : Type} (k : α → Option β) : obind none k = none := rfl
theorem obind_some {α β : Type} {x : Option α} {k : α → Option β} {r : β} (h : obind x k = some r) : ∃ a, x = some a ∧ k a = some r := by
  cases x with
  | none => cases h
  | some a => exact ⟨a, rfl, h⟩
theorem if_some {β : Type} {c : Prop} [Decidable c] {x : Option β} {r : β} (h : (if c then x else none) = some r) : c ∧ x = some r := by
  split at h
  · rename_i hc; exact ⟨hc, h⟩
  · cases h

/-! ### cells in the world -/
theorem cell_of {w : World} {b off : Nat} {l : Array Value} {e : TypeId} {fr : Nat × Nat} {x : Value} (h : w.heap[b]? = some (.cells l e fr)) (hx : l[off]? = some x) : w.cell? ⟨b, off, none⟩ = some x := by
  simp [World.cell?, h, hx]

theorem run_loadCellsFrom {P : Program} {w : World} {b off : Nat} {l : Array Value} {e : TypeId} {fr : Nat × Nat} (hb : w.heap[b]? = some (.cells l e fr)) (cs : List Value) :
    ∀ (i : Nat) (acc : Array Value), (∀ j x, cs[j]? = some x → l[off + i + j]? = some x) → (loadCellsFrom ⟨b, off, none⟩ i cs.length acc).run P w = .ok (acc ++ cs.toArray) w := by
  induction cs with
  | nil => intro i acc _; simp [loadCellsFrom]
  | cons c cs ih =>
    intro i acc h
    have h0 : w.cell? ⟨b, off + i, none⟩ = some c := cell_of hb (by simpa using h 0 c rfl)
    have ih' := ih (i + 1) (acc.push c) (fun j x hx => by have := h (j + 1) x (by simpa using hx); rw [← this]; congr 1; omega)
    simp only [List.length_cons, loadCellsFrom, addr_add, Sem.run_bind, load, Sem.run, h0, Result.andThen_ok, ih']
    simp

theorem run_loadVar {P : Program} {w : World} {b off : Nat} {l : Array Value} {e : TypeId} {fr : Nat × Nat} {t : TypeId} {agg : Bool} (hb : w.heap[b]? = some (.cells l e fr)) (cs : List Value) (hc : ∀ j x, cs[j]? = some x → l[off + j]? = some x)
    (ha : ∀ w, (isAgg t).run P w = .ok agg w) (hs : ∀ w, (sizeOf t).run P w = .ok cs.length w) (h1 : agg = false → cs.length = 1) : (loadVar t ⟨b, off, none⟩).run P w = .ok (pk agg cs) w := by
  cases agg
  · match cs, h1 rfl with
    | [c], _ =>
      have h0 : w.cell? ⟨b, off, none⟩ = some c := cell_of hb (by simpa using hc 0 c rfl)
      simp [loadVar, ha, load, Sem.run, h0, pk]
  · have := run_loadCellsFrom (P := P) hb cs 0 #[] (by simpa using hc)
    simp [loadVar, ha, hs, loadCells, this, pk]

/-- No cell of a block of so many is marked. -/
def frOk (fr : Nat × Nat) (n : Nat) : Prop := fr.1 = fr.2 ∨ n ≤ fr.1
theorem frOk.no {fr : Nat × Nat} {n k : Nat} (h : frOk fr n) (hk : k < n) : (decide (fr.1 ≤ k) && decide (k < fr.2)) = false := by
  rw [← Bool.not_eq_true, Bool.and_eq_true, decide_eq_true_eq, decide_eq_true_eq]
  rcases h with h | h <;> omega

theorem run_storeCellsF {P : Program} {w : World} {b off : Nat} {e : TypeId} {fr : Nat × Nat} (cs : List Value) (h1 : ∀ v ∈ cs, v.oneCell' = true) :
    ∀ (l : List Value) (i : Nat), off + i + cs.length ≤ l.length → frOk fr l.length → w.heap[b]? = some (.cells l.toArray e fr) →
      (storeCells ⟨b, off, none⟩ cs i).run P w = .ok () { w with heap := w.heap.setIfInBounds b (.cells (l.take (off + i) ++ cs ++ l.drop (off + i + cs.length)).toArray e fr) } := by
  induction cs generalizing w with
  | nil =>
    intro l i hl _ hb
    have : w.heap.setIfInBounds b (.cells l.toArray e fr) = w.heap := by
      apply Array.ext_getElem?
      intro k
      rw [Array.getElem?_setIfInBounds]
      split
      · rename_i h; subst h; rw [hb]; rw [if_pos (Array.getElem?_eq_some_iff.1 hb).1]
      · rfl
    simp only [storeCells, List.append_nil, List.length_nil, Nat.add_zero, List.take_append_drop, this]
    rfl
  | cons c cs ih =>
    intro l i hl hfr hb
    simp only [List.length_cons] at hl
    have hc : c.oneCell' = true := h1 c (by simp)
    have hlt : off + i < l.length := by omega
    have h0 : w.cell? ⟨b, off + i, none⟩ = some l[off + i] := cell_of hb (by simp [hlt])
    have hf : w.frozen? ⟨b, off + i, none⟩ = false := by
      have := hfr.no hlt
      simp only [World.frozen?, hb]; exact this
    have hw : w.setCell ⟨b, off + i, none⟩ c = { w with heap := w.heap.setIfInBounds b (.cells (l.set (off + i) c).toArray e fr) } := by
      simp only [World.setCell]
      congr 1
      apply Array.ext_getElem?
      intro k
      rw [Array.getElem?_modify, Array.getElem?_setIfInBounds]
      split
      · rename_i h; subst h
        rw [hb, if_pos (Array.getElem?_eq_some_iff.1 hb).1]
        simp
      · rfl
    have hst : (store ⟨b, off + i, none⟩ c).run P w = .ok () (w.setCell ⟨b, off + i, none⟩ c) := by
      unfold store
      cases c <;> first | (simp [Value.oneCell'] at hc; done) | simp [Sem.run, h0, hf]
    have hb' : (w.setCell ⟨b, off + i, none⟩ c).heap[b]? = some (.cells (l.set (off + i) c).toArray e fr) := by
      rw [hw]; simp [(Array.getElem?_eq_some_iff.1 hb).1]
    have ih' := ih (w := w.setCell ⟨b, off + i, none⟩ c) (fun v hv => h1 v (by simp [hv])) (l.set (off + i) c) (i + 1) (by simp; omega) (by simpa using hfr) hb'
    simp only [storeCells, addr_add, Sem.run_bind, hst, Result.andThen_ok, ih']
    rw [hw]
    congr 2
    apply Array.ext_getElem?
    intro k
    simp only [Array.getElem?_setIfInBounds, Array.size_setIfInBounds]
    split
    · rename_i h; subst h
      split
      · congr 3
        rw [show off + (i + 1) = (off + i) + 1 from by omega]
        rw [List.take_set, List.take_succ_eq_append_getElem hlt, List.drop_set_of_lt (by omega)]
        rw [List.set_append_right _ _ (by simp; omega)]
        simp [Nat.min_eq_left (Nat.le_of_lt hlt)]
        congr 1; omega
      · rfl
    · rfl

theorem run_storeCells {P : Program} {w : World} {b off : Nat} {e : TypeId} (cs : List Value) (h1 : ∀ v ∈ cs, v.oneCell' = true)
    (l : List Value) (i : Nat) (hl : off + i + cs.length ≤ l.length) (hb : w.heap[b]? = some (cel l e)) :
      (storeCells ⟨b, off, none⟩ cs i).run P w = .ok () { w with heap := w.heap.setIfInBounds b (cel (l.take (off + i) ++ cs ++ l.drop (off + i + cs.length)) e) } :=
  run_storeCellsF cs h1 l i hl (.inl rfl) hb

section
variable {ρ : Option Nat} {P : Program} {N : Nat} {D : World} {ops : Array Oper} {rest : List Oper} {Q : Post} {f : Fr} {w w' : World} {v : Value}
variable {dst : Option Nat} {ty t t' : TypeId} {pos : String} {af : Array Edge} {x y c a b : Operand} {m : Mem} {As : List Ow}

/-- A variable of the call's own, zero. -/
theorem s_alloc {e : TypeId} {z : Value} (hS : St m As w) (hz : ∀ w, (zeroValue e).run P w = .ok z w)
    (h : ∀ b w', St m (bx b z.cells.toList e :: As) w' → wpl ρ P N D ops rest Q (upo N f dst (pt b 0)) w') :
    wpl ρ P N D ops (⟨dst, .alloc e, ty, pos, af, none⟩ :: rest) Q f w :=
  wpl_val (v := pt w.heap.size 0) (w' := w.alloc (cel z.cells.toList e)) rfl (fun _ e => by cases e) (by
    simp only [execOp, Instr.alloc, newVar, newRow, newObj, Sem.run_bind, hz, Result.andThen_ok, Sem.run, Sem.run_pure]
    rfl) (h _ _ (hS.push _ cells_nd)) (Kd.push _ _)
theorem s_box {e : TypeId} {u : Value} (hS : St m As w) (hx : ev f x = u)
    (h : ∀ b w', St m (bx b u.cells.toList e :: As) w' → wpl ρ P N D ops rest Q (upo N f dst (pt b 0)) w') :
    wpl ρ P N D ops (⟨dst, .box e x, ty, pos, af, none⟩ :: rest) Q f w :=
  wpl_val (v := pt w.heap.size 0) (w' := w.alloc (cel u.cells.toList e)) rfl (fun _ e => by cases e) (by
    simp only [execOp, hx, Instr.box, newVar, newRow, newObj, Sem.run_bind, Result.andThen_ok, Sem.run, Sem.run_pure]
    rfl) (h _ _ (hS.push _ cells_nd)) (Kd.push _ _)

/-- A variable of the call's own is read. -/
theorem s_ld {i b off : Nat} {l cs : List Value} {e : TypeId} {agg : Bool} (hS : St m As w) (hx : ev f x = pt b off) (hi : As[i]? = some (bx b l e))
    (ha : ∀ w, (isAgg t).run P w = .ok agg w) (hs : ∀ w, (sizeOf t).run P w = .ok cs.length w) (hc : (l.drop off).take cs.length = cs) (h1 : agg = false → cs.length = 1)
    (h : wpl ρ P N D ops rest Q (upo N f dst (pk agg cs)) w) :
    wpl ρ P N D ops (⟨dst, .load t x, ty, pos, af, none⟩ :: rest) Q f w :=
  wpl_val (v := pk agg cs) (w' := w) rfl (fun _ e => by cases e) (by
    have hl := run_loadVar (P := P) (off := off) (t := t) (hS.blk hi) cs (fun j x hx => by
      rw [← hc] at hx
      simp only [List.getElem?_take, List.getElem?_drop] at hx
      split at hx
      · simpa using hx
      · cases hx) ha hs h1
    simp [execOp, hx, Instr.loadAt, Instr.sureAddr, hl]) h

/-- What never changes is read. -/
theorem s_ldM {cs : List Value} {p : Value} {d : List Value} {agg : Bool} (hS : St m As w) (hx : ev f x = p) (hp : PtC m p d) (hc : d.take cs.length = cs)
    (ha : ∀ w, (isAgg t).run P w = .ok agg w) (hs : ∀ w, (sizeOf t).run P w = .ok cs.length w) (h1 : agg = false → cs.length = 1)
    (h : wpl ρ P N D ops rest Q (upo N f dst (pk agg cs)) w) :
    wpl ρ P N D ops (⟨dst, .load t x, ty, pos, af, none⟩ :: rest) Q f w := by
  obtain ⟨b, off, l, e, fr, rfl, hb, hcc⟩ := hp
  refine wpl_val (v := pk agg cs) (w' := w) rfl (fun _ e => by cases e) ?_ h
  have hl := run_loadVar (P := P) (off := off) (t := t) (hS.mem hb) cs (fun j x hx => by
    rw [← hc] at hx
    simp only [List.getElem?_take] at hx
    split at hx
    · exact hcc _ _ hx
    · cases hx) ha hs h1
  simp [execOp, hx, Instr.loadAt, Instr.sureAddr, hl]

/-- A variable of the call's own is written. -/
theorem s_st {i b off : Nat} {l : List Value} {e : TypeId} {u : Value} (hS : St m As w) (hx : ev f x = pt b off) (hy : ev f y = u) (hi : As[i]? = some (bx b l e))
    (hs : ∀ w, (sizeOf t).run P w = .ok u.cells.size w) (h1 : ∀ c ∈ u.cells.toList, c.oneCell' = true) (hl : off + u.cells.size ≤ l.length)
    (h : ∀ w', St m (As.set i (bx b (l.take off ++ u.cells.toList ++ l.drop (off + u.cells.size)) e)) w' → wpl ρ P N D ops rest Q (upo N f dst undef) w') :
    wpl ρ P N D ops (⟨dst, .store t x y, ty, pos, af, none⟩ :: rest) Q f w := by
  have hst := run_storeCells (P := P) (off := off) u.cells.toList h1 l 0 (by simpa using hl) (hS.blk hi)
  simp only [Nat.add_zero, Array.length_toList] at hst
  refine wpl_skipv (w' := { w with heap := w.heap.setIfInBounds b (cel (l.take off ++ u.cells.toList ++ l.drop (off + u.cells.size)) e) }) rfl (fun _ e => by cases e) ?_ (h _ (hS.put hi _ _ rfl rfl rfl rfl cells_nd)) (Kd.set (hS.blk hi) cells_nd rfl)
  simp [execOp, hx, hy, Instr.storeAt, Instr.sureAddr, storeVar, hs, hst]

theorem s_len {n cap : Nat} {ao : Option Addr} {e : TypeId} (hx : ev f x = .slice ao n cap) (hu : P.underlying t = some (.slice e)) (h : wpl ρ P N D ops rest Q (upo N f dst (vI n)) w) :
    wpl ρ P N D ops (⟨dst, .call { callee := .builtin .len, args := #[x], argTypes := #[t] }, ty, pos, af, none⟩ :: rest) Q f w :=
  wpl_val (v := vI n) (w' := w) rfl (fun _ e => by cases e) (by simp [execOp, resolve, invoke, builtin, Builtin.len_, hx, run_underlying hu, goInt]) h
/-- The length of a slice that is only read. -/
theorem s_lenR {α : Type} [GoT α] {xs : List α} {e : TypeId} (hx : ev f x = v) (hs : SlR m v xs) (hu : P.underlying t = some (.slice e)) (h : wpl ρ P N D ops rest Q (upo N f dst (vI xs.length)) w) :
    wpl ρ P N D ops (⟨dst, .call { callee := .builtin .len, args := #[x], argTypes := #[t] }, ty, pos, af, none⟩ :: rest) Q f w := by
  obtain ⟨a, c, rfl⟩ := hs.val
  exact s_len hx hu h

theorem s_fld {b off o : Nat} {fs : Array Field} {fd : Field} {n i : Nat} (hx : ev f x = pt b off) (hu : P.underlying t = some (.struct fs)) (hf : fs[i]? = some fd) (ho : fd.offset = o)
    (hs : ∀ w, (sizeOf fd.type).run P w = .ok (n + 1) w) (h : wpl ρ P N D ops rest Q (upo N f dst (pt b (off + o))) w) :
    wpl ρ P N D ops (⟨dst, .fieldAddr t x i, ty, pos, af, none⟩ :: rest) Q f w :=
  wpl_val (v := pt b (off + o)) (w' := w) rfl (fun _ e => by cases e) (by
    subst ho
    simp [execOp, hx, Instr.fieldAt, Instr.sureAddr, run_underlying hu, hf, fieldPlace, hs, addr_add]) h

/-- An element's place in an array. -/
theorem s_idxA {b off n sz : Nat} {e : TypeId} {k : IntKind} {i : Int} (hx : ev f x = pt b off) (hi : ev f y = .int k i) (hu : P.underlying t = some (.array n e)) (hs : ∀ w, (sizeOf e).run P w = .ok sz w)
    (h0 : 0 ≤ i) (hn : i < n) (h : wpl ρ P N D ops rest Q (upo N f dst (pt b (off + i.toNat * sz))) w) :
    wpl ρ P N D ops (⟨dst, .indexAddr t x y, ty, pos, af, none⟩ :: rest) Q f w :=
  wpl_val (v := pt b (off + i.toNat * sz)) (w' := w) rfl (fun _ e => by cases e) (by
    simp only [execOp, hx, hi, Instr.indexAt, asIntOf, Sem.run_bind, Sem.run_pure, Result.andThen_ok, run_underlying hu, Instr.sureAddr]
    simp [h0, hn, hs, addr_add]) h

/-- An element's place in a slice that is only read. -/
theorem s_idx {α : Type} [GoT α] {xs : List α} {q : α} {e : TypeId} {k : IntKind} {i : Int} (hx : ev f x = v) (hi : ev f y = .int k i) (hv : SlR m v xs) (hq : idx xs i = some q) (hu : P.underlying t = some (.slice e))
    (hs : ∀ w, (sizeOf e).run P w = .ok (GoT.sz α) w) (h : ∀ p cs, PtC m p cs → GoT.rep m cs q → wpl ρ P N D ops rest Q (upo N f dst p) w) :
    wpl ρ P N D ops (⟨dst, .indexAddr t x y, ty, pos, af, none⟩ :: rest) Q f w := by
  obtain ⟨h0, hq⟩ := if_some hq
  have hlt : i.toNat < xs.length := (List.getElem?_eq_some_iff.1 hq).1
  obtain ⟨cs, ⟨hl, _, ⟨hn, _⟩ | ⟨b, off, cap, l, e', fr, rfl, hcap, hb, hcc⟩⟩, hr⟩ := hv
  · omega
  · refine wpl_val (v := pt b (off + i.toNat * GoT.sz α)) (w' := w) rfl (fun _ e => by cases e) ?_ (h _ ((cs.drop (i.toNat * GoT.sz α)).take (GoT.sz α)) ⟨b, _, l, e', fr, rfl, hb, fun j x hx => ?_⟩ (hr.get hq))
    · simp only [execOp, hx, hi, Instr.indexAt, asIntOf, Sem.run_bind, Sem.run_pure, Result.andThen_ok, run_underlying hu]
      have : i < xs.length := by omega
      simp [h0, this, hs, addr_add]
    · simp only [List.getElem?_take, List.getElem?_drop] at hx
      split at hx
      · rw [Nat.add_assoc]; exact hcc _ _ hx
      · cases hx

/-- A place within what never changes. -/
theorem s_fldM {p : Value} {d : List Value} {o : Nat} {fs : Array Field} {fd : Field} {n i : Nat} (hx : ev f x = p) (hp : PtC m p d) (hu : P.underlying t = some (.struct fs)) (hf : fs[i]? = some fd) (ho : fd.offset = o)
    (hs : ∀ w, (sizeOf fd.type).run P w = .ok (n + 1) w) (h : ∀ p', PtC m p' (d.drop o) → wpl ρ P N D ops rest Q (upo N f dst p') w) :
    wpl ρ P N D ops (⟨dst, .fieldAddr t x i, ty, pos, af, none⟩ :: rest) Q f w := by
  obtain ⟨b, off, l, e, fr, rfl, hb, hcc⟩ := hp
  refine s_fld hx hu hf ho hs (h _ ⟨b, off + o, l, e, fr, rfl, hb, fun j x hx => ?_⟩)
  simp only [List.getElem?_drop] at hx
  rw [Nat.add_assoc]; exact hcc _ _ hx

theorem s_slice {xv u : Value} {lo hi mx : Option Operand} {e : TypeId} (hx : ev f x = xv) (hu : P.underlying t = some (.slice e))
    (hr : (Instr.slice t xv (lo.map (ev f)) (hi.map (ev f)) (mx.map (ev f))).run P w = .ok u w) (h : wpl ρ P N D ops rest Q (upo N f dst u) w) :
    wpl ρ P N D ops (⟨dst, .slice t x lo hi mx, ty, pos, af, none⟩ :: rest) Q f w :=
  wpl_val (v := u) (w' := w) rfl (fun _ e => by cases e) (by simp [execOp, hx, Instr.sliceAt, run_underlying hu, hr]) h

theorem run_slice {e : TypeId} {ao : Option Addr} {len cap sz : Nat} {lo hi mx : Option Value} {l h M : Nat} (hu : P.underlying t = some (.slice e)) (hs : ∀ w, (sizeOf e).run P w = .ok sz w)
    (hlo : (lo = none ∧ l = 0) ∨ ∃ k, lo = some (.int k l)) (hhi : (hi = none ∧ h = len) ∨ ∃ k, hi = some (.int k h)) (hm : (mx = none ∧ M = cap) ∨ (∃ k, mx = some (.int k M)) ∧ hi ≠ none) (h1 : l ≤ h) (h2 : h ≤ M) (h3 : M ≤ cap) :
    (Instr.slice t (.slice ao len cap) lo hi mx).run P w = .ok (.slice (if M = l then ao else ao.map (·.add (l * sz))) (h - l) (M - l)) w := by
  have hb : (Instr.sliceBounds true len cap lo hi mx).run P w = .ok (l, h, M) w := by
    unfold Instr.sliceBounds
    have sb : ∀ (k : IntKind) (n y : Nat) (c : BoundsCode), n ≤ y → (Instr.sliceBound (.int k n) y c).run P w = .ok n w := by
      intro k n y c hle
      have h1 : (0 : Int) ≤ (n : Int) := by omega
      have h2 : (n : Int) ≤ (y : Int) := by omega
      simp [Instr.sliceBound, asIntOf, h2]
    rcases hm with ⟨rfl, rfl⟩ | ⟨⟨k3, rfl⟩, hne⟩
    · rcases hhi with ⟨rfl, rfl⟩ | ⟨k2, rfl⟩ <;> rcases hlo with ⟨rfl, rfl⟩ | ⟨k1, rfl⟩ <;> simp [sb _ _ _ _ h1, sb _ _ _ _ h2]
    · rcases hhi with ⟨rfl, rfl⟩ | ⟨k2, rfl⟩
      · exact absurd rfl hne
      · rcases hlo with ⟨rfl, rfl⟩ | ⟨k1, rfl⟩ <;> simp [sb _ _ _ _ h1, sb _ _ _ _ h2, sb _ _ _ _ h3]
  simp [Instr.slice, run_underlying hu, hb, hs]

/-- A part of a slice that is only read. -/
theorem s_cut {α : Type} [GoT α] {xs ys : List α} {lo hi mx : Option Operand} {e : TypeId} {l h : Int} (hx : ev f x = v) (hv : SlR m v xs) (hu : P.underlying t = some (.slice e)) (hs : ∀ w, (sizeOf e).run P w = .ok (GoT.sz α) w)
    (hlo : (lo = none ∧ l = 0) ∨ ∃ k, lo.map (ev f) = some (.int k l)) (hhi : (hi = none ∧ h = xs.length) ∨ ∃ k, hi.map (ev f) = some (.int k h)) (hm : mx = none ∨ hi ≠ none ∧ ∃ k, mx.map (ev f) = some (.int k h)) (hq : cut xs l h = some ys)
    (hh : ∀ v', SlR m v' ys → wpl ρ P N D ops rest Q (upo N f dst v') w) :
    wpl ρ P N D ops (⟨dst, .slice t x lo hi mx, ty, pos, af, none⟩ :: rest) Q f w := by
  obtain ⟨⟨h0, h1, h2⟩, hq⟩ := if_some hq
  obtain ⟨l, rfl⟩ := Int.eq_ofNat_of_zero_le h0
  obtain ⟨h, rfl⟩ := Int.eq_ofNat_of_zero_le (Int.le_trans h0 h1)
  have h1 : l ≤ h := by omega
  have h2 : h ≤ xs.length := by omega
  simp only [Int.toNat_natCast, Option.some.injEq] at hq
  obtain ⟨cs, hc, hr⟩ := hv
  have hlo' : (lo.map (ev f) = none ∧ l = 0) ∨ ∃ k, lo.map (ev f) = some (.int k l) := by
    rcases hlo with ⟨rfl, e⟩ | e
    · exact .inl ⟨rfl, by omega⟩
    · exact .inr e
  have hhi' : (hi.map (ev f) = none ∧ h = xs.length) ∨ ∃ k, hi.map (ev f) = some (.int k h) := by
    rcases hhi with ⟨rfl, e⟩ | e
    · exact .inl ⟨rfl, by omega⟩
    · exact .inr e
  have hlen : ys.length = h - l := by rw [← hq]; simp; omega
  have hbd := hc.2.1
  have hcs : ((cs.drop (l * GoT.sz α)).take ((h - l) * GoT.sz α)).length = ys.length * GoT.sz α := by
    have hn : (h - l) * GoT.sz α ≤ xs.length * GoT.sz α - l * GoT.sz α := by rw [← Nat.sub_mul]; exact Nat.mul_le_mul_right _ (by omega)
    rw [List.length_take, List.length_drop, hr.length, hlen, Nat.min_eq_left hn]
  have hrep : RepL m ((cs.drop (l * GoT.sz α)).take ((h - l) * GoT.sz α)) ys := hq ▸ (hr.drop l).take (h - l)
  have key : ∀ (ao : Option Addr) (cap : Nat), v = .slice ao xs.length cap → xs.length ≤ cap → (xs.length = 0 ∨ ∃ b off a e fr, ao = some ⟨b, off, none⟩ ∧ m.heap b = some (.cells a e fr) ∧ ∀ i x, cs[i]? = some x → a[off + i]? = some x) →
      wpl ρ P N D ops (⟨dst, .slice t x lo hi mx, ty, pos, af, none⟩ :: rest) Q f w := by
    intro ao cap hv hle hao
    subst hv
    have go : ∀ M, (mx.map (ev f) = none ∧ M = cap) ∨ (∃ k, mx.map (ev f) = some (.int k M)) ∧ hi.map (ev f) ≠ none → h ≤ M → M ≤ cap →
        wpl ρ P N D ops (⟨dst, .slice t x lo hi mx, ty, pos, af, none⟩ :: rest) Q f w := by
      intro M hM hhM hMc
      have hrun := run_slice (P := P) (w := w) (ao := ao) (len := xs.length) (cap := cap) hu hs hlo' hhi' hM h1 hhM hMc
      refine s_slice hx hu hrun (hh _ ⟨_, ⟨hcs, by omega, ?_⟩, hrep⟩)
      by_cases hz : h - l = 0
      · exact .inl ⟨by omega, _, _, by rw [hz]⟩
      · rcases hao with hao | ⟨b, off, a, e', fr, rfl, hb, hcc⟩
        · omega
        · refine .inr ⟨b, off + l * GoT.sz α, M - l, a, e', fr, ?_, by omega, hb, fun i x hx => ?_⟩
          · rw [if_neg (by omega), hlen]; simp [addr_add]
          · simp only [List.getElem?_take, List.getElem?_drop] at hx
            split at hx
            · rw [Nat.add_assoc]; exact hcc _ _ hx
            · cases hx
    rcases hm with rfl | ⟨hne, k, hk⟩
    · exact go cap (.inl ⟨rfl, rfl⟩) (by omega) (Nat.le_refl _)
    · exact go h (.inr ⟨⟨k, hk⟩, by cases hi <;> simp_all⟩) (Nat.le_refl _) (by omega)
  obtain ⟨hl, hbd, ⟨hn, a, cap, rfl⟩ | ⟨b, off, cap, a, e', fr, rfl, hcap, hb, hcc⟩⟩ := hc
  · exact key a cap (by rw [hn]) (by omega) (.inl hn)
  · exact key _ cap rfl hcap (.inr ⟨b, off, a, e', fr, rfl, hb, hcc⟩)
end
end Go.Gw
