/- The ground of all walks of this seat: a small logic of memory (a part that only grows, and parts that are owned), frames as functions, and the rules by which code is stepped through. Conditions: none. -/
import Derived.WalkKit
import Derived.RangeFuncNested
import Derived.RangeFuncLeaves
import Derived.RangeFuncRecord
set_option linter.unusedSimpArgs false
set_option linter.unusedVariables false
namespace Go.Gw
open Go

/-! ### memory -/

abbrev PH := Nat → Option Obj

/-- The part of memory that never changes any more, and what stands beside the heap. -/
structure Mem where
  heap : PH
  os : Os
  tape : Nat → Question → Nat
  output : Array (Nat × ByteArray)

structure Mem.Le (m m' : Mem) : Prop where
  os : m'.os = m.os
  tape : m'.tape = m.tape
  output : m'.output = m.output
  heap : ∀ k o, m.heap k = some o → m'.heap k = some o

instance : LE Mem := ⟨Mem.Le⟩

theorem Mem.rfl' (m : Mem) : m ≤ m := ⟨rfl, rfl, rfl, fun _ _ h => h⟩
theorem Mem.tr {a b c : Mem} (h : a ≤ b) (k : b ≤ c) : a ≤ c :=
  ⟨k.os.trans h.os, k.tape.trans h.tape, k.output.trans h.output, fun i o hi => k.heap i o (h.heap i o hi)⟩

abbrev Ow := PH → Prop

def PH.emp : PH := fun _ => none
def PH.one (b : Nat) (o : Obj) : PH := fun k => if k = b then some o else none
def PH.disj (a b : PH) : Prop := ∀ k, a k = none ∨ b k = none
def PH.join (a b : PH) : PH := fun k => (a k).or (b k)
def PH.agree (h : PH) (w : World) : Prop := ∀ k o, h k = some o → w.heap[k]? = some o

theorem PH.disj_symm {a b : PH} (h : a.disj b) : b.disj a := fun k => (h k).symm
theorem PH.join_comm {a b : PH} (h : a.disj b) : a.join b = b.join a := by
  funext k
  rcases h k with e | e <;> simp [PH.join, e]
theorem PH.join_assoc (a b c : PH) : (a.join b).join c = a.join (b.join c) := by
  funext k; simp [PH.join, Option.or_assoc]
theorem PH.join_emp (a : PH) : a.join PH.emp = a := by funext k; simp [PH.join, PH.emp]
theorem PH.emp_join (a : PH) : PH.emp.join a = a := by funext k; simp [PH.join, PH.emp]
theorem PH.disj_emp (a : PH) : a.disj PH.emp := fun _ => .inr rfl
theorem PH.disj_join {a b c : PH} : a.disj (b.join c) ↔ a.disj b ∧ a.disj c := by
  constructor
  · intro h
    refine ⟨fun k => ?_, fun k => ?_⟩ <;> rcases h k with e | e
    · exact .inl e
    · simp [PH.join] at e; exact .inr e.1
    · exact .inl e
    · simp [PH.join] at e; exact .inr e.2
  · rintro ⟨h, h'⟩ k
    rcases h k with e | e
    · exact .inl e
    · rcases h' k with e' | e'
      · exact .inl e'
      · exact .inr (by simp [PH.join, e, e'])
theorem PH.join_disj {a b c : PH} : (a.join b).disj c ↔ a.disj c ∧ b.disj c := by
  constructor
  · intro h; have := PH.disj_join.1 (PH.disj_symm h); exact ⟨PH.disj_symm this.1, PH.disj_symm this.2⟩
  · rintro ⟨h, h'⟩; exact PH.disj_symm (PH.disj_join.2 ⟨PH.disj_symm h, PH.disj_symm h'⟩)
theorem PH.agree_join {a b : PH} {w : World} (h : a.disj b) : (a.join b).agree w ↔ a.agree w ∧ b.agree w := by
  constructor
  · intro g
    refine ⟨fun k o e => g k o (by simp [PH.join, e]), fun k o e => g k o ?_⟩
    rcases h k with e' | e'
    · simp [PH.join, e, e']
    · rw [e'] at e; cases e
  · rintro ⟨g, g'⟩ k o e
    simp only [PH.join] at e
    cases ha : a k with
    | some x => rw [ha] at e; simp at e; exact e ▸ g k x ha
    | none => rw [ha] at e; simp at e; exact g' k o e
theorem PH.agree_emp (w : World) : PH.emp.agree w := fun k o h => by simp [PH.emp] at h
theorem PH.agree_one {b : Nat} {o : Obj} {w : World} : (PH.one b o).agree w ↔ w.heap[b]? = some o := by
  constructor
  · intro h; exact h b o (by simp [PH.one])
  · intro h k x e
    simp only [PH.one] at e
    split at e
    · rename_i hk; subst hk; cases e; exact h
    · cases e
theorem PH.lt_of_agree {h : PH} {w : World} (g : h.agree w) {k : Nat} {o : Obj} (e : h k = some o) : k < w.heap.size :=
  (Array.getElem?_eq_some_iff.1 (g k o e)).1
theorem PH.disj_fresh {h : PH} {w : World} (g : h.agree w) {b : Nat} (hb : w.heap.size ≤ b) (o : Obj) : h.disj (PH.one b o) := by
  intro k
  by_cases hk : k = b
  · subst hk
    cases e : h k with
    | none => exact .inl rfl
    | some x => have := PH.lt_of_agree g e; omega
  · exact .inr (by simp [PH.one, hk])

/-- A block for the deferred calls of a range over a function, with none in it. -/
def dfr : Obj := .deferred (some [])
def Nd (p : PH) : Prop := ∀ b, p b ≠ some dfr
theorem Nd.one {b : Nat} {o : Obj} (h : o ≠ dfr) : Nd (PH.one b o) := fun k e => by
  simp only [PH.one] at e
  split at e
  · cases e; exact h rfl
  · cases e
theorem Nd.emp : Nd PH.emp := fun _ e => by cases e
theorem Nd.join {a b : PH} (ha : Nd a) (hb : Nd b) : Nd (a.join b) := fun k e => by
  simp only [PH.join] at e
  cases h : a k with
  | some x => rw [h] at e; simp at e; subst e; exact ha k h
  | none => rw [h] at e; simp at e; exact hb k e
theorem Nd.left {a b : PH} (h : Nd (a.join b)) : Nd a := fun k e => h k (by simp [PH.join, e])
theorem Nd.right {a b : PH} (d : a.disj b) (h : Nd (a.join b)) : Nd b := fun k e => by
  rcases d k with q | q
  · exact h k (by simp [PH.join, e, q])
  · rw [q] at e; cases e
theorem cells_nd {l : Array Value} {e : TypeId} {fr : Nat × Nat} : Obj.cells l e fr ≠ dfr := fun h => by cases h
/-- Such blocks stay. -/
structure Kd (w w' : World) : Prop where
  size : w.heap.size ≤ w'.heap.size
  same : ∀ b : Nat, w.heap[b]? = some dfr → w'.heap[b]? = some dfr
theorem Kd.rfl' (w : World) : Kd w w := ⟨Nat.le_refl _, fun _ h => h⟩
theorem Kd.tr {a b c : World} (h : Kd a b) (k : Kd b c) : Kd a c := ⟨Nat.le_trans h.size k.size, fun i e => k.same i (h.same i e)⟩
theorem Kd.push (w : World) (o : Obj) : Kd w (w.alloc o) := ⟨by show w.heap.size ≤ (w.heap.push o).size; simp, fun b e => by
  show (w.heap.push o)[b]? = _
  have := (Array.getElem?_eq_some_iff.1 e).1
  rw [Array.getElem?_push, if_neg (by omega)]; exact e⟩
theorem Kd.heap {w w' : World} (h : w'.heap = w.heap) : Kd w w' := ⟨by rw [h]; exact Nat.le_refl _, fun b e => by rw [h]; exact e⟩
theorem Kd.set {w w' : World} {b : Nat} {o o' : Obj} (hb : w.heap[b]? = some o) (ho : o ≠ dfr) (h : w'.heap = w.heap.setIfInBounds b o') : Kd w w' := ⟨by rw [h]; simp, fun k e => by
  rw [h]
  by_cases q : k = b
  · subst q; rw [hb] at e; cases e; exact absurd rfl ho
  · rw [Array.getElem?_setIfInBounds_ne (Ne.symm q)]; exact e⟩
/-- Worlds that are alike but for such blocks, which are shut in the second. -/
structure Pd (w w' : World) : Prop where
  os : w'.os = w.os
  tape : w'.tape = w.tape
  output : w'.output = w.output
  heap : ∀ (k : Nat) (o : Obj), o ≠ dfr → w.heap[k]? = some o → w'.heap[k]? = some o
theorem Pd.rfl' (w : World) : Pd w w := ⟨rfl, rfl, rfl, fun _ _ _ h => h⟩
theorem Pd.tr {a b c : World} (h : Pd a b) (k : Pd b c) : Pd a c := ⟨k.os.trans h.os, k.tape.trans h.tape, k.output.trans h.output, fun i o n e => k.heap i o n (h.heap i o n e)⟩

def sepL : List Ow → Ow
  | [] => fun h => h = PH.emp
  | A :: As => fun h => ∃ h1 h2, A h1 ∧ sepL As h2 ∧ h1.disj h2 ∧ h = h1.join h2

/-- The world: 'm' lies in it and what is owned beside it. -/
structure St (m : Mem) (As : List Ow) (w : World) : Prop where
  os : w.os = m.os
  tape : w.tape = m.tape
  output : w.output = m.output
  own : ∃ h, sepL As h ∧ m.heap.disj h ∧ m.heap.agree w ∧ h.agree w ∧ Nd (m.heap.join h)

def blk (b : Nat) (o : Obj) : Ow := fun h => h = PH.one b o

section
variable {m m' : Mem} {As Bs : List Ow} {A B : Ow} {w w' : World}

theorem sepL_swap {h : PH} (H : sepL (A :: B :: As) h) : sepL (B :: A :: As) h := by
  obtain ⟨h1, _, ha, ⟨h2, h3, hb, hs, d23, rfl⟩, d, rfl⟩ := H
  obtain ⟨d12, d13⟩ := PH.disj_join.1 d
  refine ⟨h2, h1.join h3, hb, ⟨h1, h3, ha, hs, d13, rfl⟩, PH.disj_join.2 ⟨PH.disj_symm d12, d23⟩, ?_⟩
  rw [← PH.join_assoc, ← PH.join_assoc, PH.join_comm d12]

theorem sepL_perm (p : As.Perm Bs) : ∀ {h : PH}, sepL As h → sepL Bs h := by
  induction p with
  | nil => exact fun h => h
  | cons x _ ih => rintro h ⟨h1, h2, a, b, c, d⟩; exact ⟨h1, h2, a, ih b, c, d⟩
  | swap x y l => exact sepL_swap
  | trans _ _ ih1 ih2 => exact fun h => ih2 (ih1 h)

theorem St.perm (h : St m As w) (p : As.Perm Bs) : St m Bs w :=
  let ⟨x, s, d, g, g', n⟩ := h.own; ⟨h.os, h.tape, h.output, x, sepL_perm p s, d, g, g', n⟩
theorem St.pd (h : St m As w) (p : Pd w w') : St m As w' :=
  let ⟨x, s, d, g, g', n⟩ := h.own
  ⟨p.os.trans h.os, p.tape.trans h.tape, p.output.trans h.output, x, s, d, fun k o e => p.heap k o (fun q => n.left k (q ▸ e)) (g k o e), fun k o e => p.heap k o (fun q => n.right d k (q ▸ e)) (g' k o e), n⟩

theorem perm_set {i : Nat} (hi : As[i]? = some A) : As.Perm (A :: As.eraseIdx i) := by
  induction As generalizing i with
  | nil => simp at hi
  | cons B As ih =>
    cases i with
    | zero => simp at hi; subst hi; exact List.Perm.refl _
    | succ i =>
      simp at hi
      exact ((ih hi).cons B).trans (List.Perm.swap A B _)

theorem perm_set' {i : Nat} (hi : As[i]? = some A) (A' : Ow) : (A' :: As.eraseIdx i).Perm (As.set i A') := by
  have hlt := (List.getElem?_eq_some_iff.1 hi).1
  have h : (As.set i A')[i]? = some A' := by simp [hlt]
  have := perm_set h
  rw [List.eraseIdx_set_eq] at this
  exact this.symm

/-- One of the owned parts is taken out, and put back otherwise. -/
theorem St.take (h : St m As w) {i : Nat} (hi : As[i]? = some A) :
    ∃ h1, A h1 ∧ h1.agree w ∧ m.heap.disj h1 ∧ ∀ (A' : Ow) (h1' : PH) (w' : World), A' h1' →
      (∀ k, h1' k ≠ none → h1 k ≠ none ∨ w.heap.size ≤ k) → h1'.agree w' → (∀ k, k < w.heap.size → h1 k = none → w'.heap[k]? = w.heap[k]?) →
      w'.os = w.os → w'.tape = w.tape → w'.output = w.output → (Nd h1 → Nd h1') → St m (As.set i A') w' := by
  obtain ⟨x, s, d, g, g', nd⟩ := h.own
  obtain ⟨h1, h2, a, b, c, rfl⟩ := sepL_perm (perm_set hi) s
  obtain ⟨g1, g2⟩ := (PH.agree_join c).1 g'
  obtain ⟨d1, d2⟩ := PH.disj_join.1 d
  refine ⟨h1, a, g1, d1, fun A' h1' w' ha' hsub hag hsame ho ht hu hnd => ?_⟩
  have old : ∀ (p : PH), p.agree w → p.disj h1 → p.agree w' := fun p gp dp k o e => by
    rw [hsame k (PH.lt_of_agree gp e) ((dp k).resolve_left (by simp [e]))]; exact gp k o e
  have dj : ∀ (p : PH), p.agree w → p.disj h1 → p.disj h1' := fun p gp dp k => by
    cases e : p k with
    | none => exact .inl rfl
    | some o =>
      refine .inr ?_
      cases e' : h1' k with
      | none => rfl
      | some o' =>
        rcases hsub k (by simp [e']) with q | q
        · exact absurd ((dp k).resolve_left (by simp [e])) q
        · have := PH.lt_of_agree gp e; omega
  have dm := dj _ g d1
  have dd := dj _ g2 (PH.disj_symm c)
  refine ⟨ho.trans h.os, ht.trans h.tape, hu.trans h.output, h1'.join h2, sepL_perm (perm_set' hi A') ⟨h1', h2, ha', b, PH.disj_symm dd, rfl⟩, PH.disj_join.2 ⟨dm, d2⟩, old _ g d1, (PH.agree_join (PH.disj_symm dd)).2 ⟨hag, old _ g2 (PH.disj_symm c)⟩, nd.left.join ((hnd (nd.right d).left).join ((nd.right d).right c))⟩

/-- What is owned is read. -/
theorem St.blk (h : St m As w) {i b : Nat} {o : Obj} (hi : As[i]? = some (blk b o)) : w.heap[b]? = some o := by
  obtain ⟨h1, a, g, _⟩ := h.take hi
  cases a
  exact PH.agree_one.1 g

theorem St.mem (h : St m As w) {b : Nat} {o : Obj} (hb : m.heap b = some o) : w.heap[b]? = some o :=
  let ⟨_, _, _, g, _⟩ := h.own; g b o hb
theorem St.nd (h : St m As w) {i b : Nat} {o : Obj} (hi : As[i]? = some (Gw.blk b o)) : o ≠ dfr := by
  obtain ⟨x, s, d, g, g', nd⟩ := h.own
  obtain ⟨h1, h2, a, _, c, rfl⟩ := sepL_perm (perm_set hi) s
  cases a
  intro e
  exact (nd.right d).left b (by simp [PH.one, e])

/-- A block that is owned is written. -/
theorem St.put (h : St m As w) {i b : Nat} {o : Obj} (hi : As[i]? = some (Gw.blk b o)) (o' : Obj) (w' : World) (hn : w'.heap = w.heap.setIfInBounds b o')
    (h1 : w'.os = w.os) (h2 : w'.tape = w.tape) (h3 : w'.output = w.output) (hd : o' ≠ dfr) : St m (As.set i (Gw.blk b o')) w' := by
  obtain ⟨p, a, g, _, back⟩ := h.take hi
  cases a
  have hb := PH.agree_one.1 g
  have hlt := (Array.getElem?_eq_some_iff.1 hb).1
  refine back _ (PH.one b o') w' rfl ?_ ?_ ?_ h1 h2 h3 (fun _ => .one hd)
  · intro k hk
    simp only [PH.one] at hk ⊢
    split at hk
    · rename_i e; left; simp [e]
    · exact absurd rfl hk
  · rw [PH.agree_one, hn]; simp [hlt]
  · intro k _ hk
    rw [hn]
    simp only [PH.one] at hk
    split at hk
    · cases hk
    · rename_i e; rw [Array.getElem?_setIfInBounds_ne (by omega)]

/-- New blocks, owned. -/
theorem St.push (h : St m As w) (o : Obj) (hd : o ≠ dfr) : St m (Gw.blk w.heap.size o :: As) (w.alloc o) := by
  obtain ⟨x, s, d, g, g', nd⟩ := h.own
  have keep : ∀ (p : PH), p.agree w → p.agree (w.alloc o) := fun p gp k y e => by
    show (w.heap.push o)[k]? = _
    rw [Array.getElem?_push, if_neg (by have := PH.lt_of_agree gp e; omega)]; exact gp k y e
  have fr := PH.disj_symm (PH.disj_fresh g' (Nat.le_refl _) o)
  refine ⟨h.os, h.tape, h.output, (PH.one w.heap.size o).join x, ⟨_, x, rfl, s, fr, rfl⟩, PH.disj_join.2 ⟨PH.disj_fresh g (Nat.le_refl _) o, d⟩, keep _ g, (PH.agree_join fr).2 ⟨PH.agree_one.2 ?_, keep _ g'⟩, nd.left.join ((Nd.one hd).join (nd.right d))⟩
  show (w.heap.push o)[w.heap.size]? = _
  simp

/-- What was owned becomes a part of what never changes. -/
theorem St.keep (h : St m As w) {i : Nat} (hi : As[i]? = some A) : ∃ h1 m', A h1 ∧ m ≤ m' ∧ (∀ k o, h1 k = some o → m'.heap k = some o) ∧ St m' (As.eraseIdx i) w := by
  obtain ⟨x, s, d, g, g', nd⟩ := h.own
  obtain ⟨h1, h2, a, b, c, rfl⟩ := sepL_perm (perm_set hi) s
  obtain ⟨g1, g2⟩ := (PH.agree_join c).1 g'
  obtain ⟨d1, d2⟩ := PH.disj_join.1 d
  refine ⟨h1, { m with heap := m.heap.join h1 }, a, ⟨rfl, rfl, rfl, fun k o e => by simp [PH.join, e]⟩, fun k o e => ?_, h.os, h.tape, h.output, h2, b, PH.join_disj.2 ⟨d2, c⟩, (PH.agree_join d1).2 ⟨g, g1⟩, g2, by rw [PH.join_assoc]; exact nd⟩
  rcases d1 k with e' | e'
  · simp [PH.join, e, e']
  · rw [e'] at e; cases e

/-- A new block that never changes. -/
theorem St.lay (h : St m As w) (o : Obj) (hd : o ≠ dfr) : ∃ m', m ≤ m' ∧ m'.heap w.heap.size = some o ∧ St m' As (w.alloc o) := by
  obtain ⟨h1, m', a, le, hk, s⟩ := (h.push o hd).keep (i := 0) rfl
  cases a
  exact ⟨m', le, hk _ _ (by simp [PH.one]), s⟩

theorem St.drew (h : St m As w) (n : Nat) : St m As { w with drawn := n } := ⟨h.os, h.tape, h.output, h.own⟩

/-- Owned parts that are not wanted any more. -/
theorem St.drop (h : St m As w) (i : Nat) : ∃ m', m ≤ m' ∧ St m' (As.eraseIdx i) w := by
  by_cases hi : i < As.length
  · obtain ⟨_, m', _, le, _, s⟩ := h.keep (i := i) (A := As[i]) (by simp [hi])
    exact ⟨m', le, s⟩
  · exact ⟨m, Mem.rfl' m, by rwa [List.eraseIdx_of_length_le (by omega)]⟩

theorem St.dropN (n : Nat) : ∀ {As : List Ow} {m : Mem}, St m As w → ∃ m', m ≤ m' ∧ St m' (As.drop n) w := by
  induction n with
  | zero => exact fun {As m} h => ⟨m, Mem.rfl' m, by simpa using h⟩
  | succ n ih =>
    intro As m h
    cases As with
    | nil => exact ⟨m, Mem.rfl' m, by simpa using h⟩
    | cons A As =>
      obtain ⟨m1, l1, s1⟩ := h.drop 0
      obtain ⟨m2, l2, s2⟩ := ih (by simpa using s1)
      exact ⟨m2, Mem.tr l1 l2, by simpa using s2⟩
end

/-! ### frames -/

abbrev Fr := Nat → Value

def ev (f : Fr) : Operand → Value
  | .tmp t => f t
  | .const v => v
  | .global g => .pointer (some ⟨g, 0, none⟩)
  | .func k => .func (.func k) #[] #[]

def up (N : Nat) (f : Fr) (d : Nat) (v : Value) : Fr := fun t => bif Nat.beq t d && Nat.blt d N then v else f t

def upo (N : Nat) (f : Fr) (d : Option Nat) (v : Value) : Fr :=
  match d with
  | some d => up N f d v
  | none => f

structure Sim (N : Nat) (a : Act) (f : Fr) : Prop where
  size : a.tmps.size = N
  at_ : ∀ t, a.tmps.getD t undef = f t

abbrev Post := Exit → Fr → World → Prop

def mark (b : Nat) : Deferred := { target := .collected b, args := #[] }
/-- What is deferred are marks of blocks that lie there; and the blocks that lay in D lie there still. -/
structure Okd (D : World) (a : Act) (w : World) : Prop where
  keep : Kd D w
  marks : ∃ E : List Nat, a.defers = E.map mark ∧ E.Nodup ∧ ∀ b ∈ E, D.heap.size ≤ b ∧ w.heap[b]? = some dfr
theorem Okd.up {D : World} {a : Act} {w w' : World} (h : Okd D a w) (k : Kd w w') : Okd D a w' :=
  let ⟨E, e, n, l⟩ := h.marks; ⟨h.keep.tr k, E, e, n, fun b hb => ⟨(l b hb).1, k.same b (l b hb).2⟩⟩
theorem Okd.put {D : World} {a : Act} {w : World} (h : Okd D a w) (d : Option Nat) (v : Value) : Okd D (a.put d v) w := by
  cases d with
  | none => exact h
  | some d => exact ⟨h.keep, h.marks⟩
theorem Okd.nil {a : Act} {w : World} (h : a.defers = []) : Okd w a w := ⟨Kd.rfl' w, [], h, List.nodup_nil, fun b hb => by cases hb⟩

def lift (N : Nat) (D : World) (Q : Post) : Exit → Act → World → Prop := fun e a w => ∃ f, (Sim N a f ∧ Okd D a w) ∧ Q e f w

theorem Sim.eval {N : Nat} {a : Act} {f : Fr} (h : Sim N a f) : a.eval = ev f := by
  funext x
  cases x with
  | tmp t => exact h.at_ t
  | _ => rfl

theorem Sim.put {N : Nat} {a : Act} {f : Fr} (h : Sim N a f) (d : Option Nat) (v : Value) : Sim N (a.put d v) (upo N f d v) := by
  cases d with
  | none => exact h
  | some d =>
    refine ⟨by simp [Act.put, h.size], fun t => ?_⟩
    have ht := h.at_ t
    have hs := h.size
    simp only [Act.put, upo, up]
    by_cases e : t = d
    · subst e
      by_cases hlt : t < N
      · have : (Nat.beq t t && Nat.blt t N) = true := by simp [Nat.blt_eq, hlt]
        rw [this]; simp [hs, hlt]
      · have : (Nat.beq t t && Nat.blt t N) = false := by simp only [Nat.blt, Bool.and_eq_false_iff]; right; rw [← Bool.not_eq_true, Nat.ble_eq]; omega
        rw [this]; rw [← ht]; simp [hs, hlt]
    · have : (Nat.beq t d && Nat.blt d N) = false := by simp [e]
      rw [this]; rw [← ht]; simp [Array.getElem?_setIfInBounds_ne (Ne.symm e)]

/-- Nothing is fenced; the frame may be that of a round of a range over a function. -/
def FW (ρ : Option Nat) : Fence := { fn := fun _ => True, depth := none, alive := false, round := ρ }

theorem calls_FW {ρ : Option Nat} {n : Nat} {P : Program} {k : FuncId} {args : Array Value} {w : World} {R : Ending → World → Prop} (h : Calls P k args w R) : CallsIn (FW ρ) n P k args w R := by
  have := (callsIn_wide (n := n)).2 h
  exact ⟨trivial, this.2⟩
theorem calls_of_FW {ρ : Option Nat} {n : Nat} {P : Program} {k : FuncId} {args : Array Value} {w : World} {R : Ending → World → Prop} (h : CallsIn (FW ρ) n P k args w R) : Calls P k args w R :=
  (callsIn_wide (n := n)).1 ⟨trivial, h.2⟩

/-- Operations one by one, in the order in which they stand. -/
def wpO (ρ : Option Nat) (P : Program) (ops : Array Oper) (Q : Exit → Act → World → Prop) : List Oper → Act → World → Prop
  | [], a, w => Q .normal a w
  | o :: rest, a, w => if Region.wanted o (yielded ops a.tmps) then o.uponIn (FW ρ) 0 P a (wpO ρ P ops Q rest) Q ((o.semAt ρ a.eval).run P w) else wpO ρ P ops Q rest (a.put o.dst undef) w

theorem wpO_ops {ρ : Option Nat} {P : Program} {ops : Array Oper} {Q : Exit → Act → World → Prop} (l : List Oper) : ∀ k, (∀ j, l[j]? = ops[k + j]?) → ∀ a w, wpO ρ P ops Q l a w → wpOpsIn (FW ρ) 0 P ops Q (List.range' k l.length) a w := by
  induction l with
  | nil => intro k _ a w h; simpa [wpOpsIn, wpO] using h
  | cons o l ih =>
    intro k h a w hw
    have h0 : ops[k]? = some o := by simpa using (h 0).symm
    have ih' := ih (k + 1) (fun j => by have := h (j + 1); simpa [Nat.add_assoc, Nat.add_comm 1 j] using this)
    simp only [List.length_cons, List.range'_succ, wpOpsIn, h0]
    unfold wpO at hw
    split
    · rename_i hy
      rw [if_pos hy] at hw
      refine ⟨fun _ _ => trivial, ?_⟩
      have hr : (FW ρ).round = ρ := rfl
      rw [hr]
      generalize (o.semAt ρ a.eval).run P w = r at *
      cases r with
      | ok n w' =>
        cases n <;> simp only [Oper.uponIn] at hw ⊢ <;>
          first
            | exact ih' _ _ hw
            | exact ⟨hw.1, CallsIn.mono hw.2 (fun e w'' he => by cases e <;> first | exact ih' _ _ he | exact he)⟩
            | exact ⟨hw.1, RowsIn.mono hw.2 (fun _ _ he => ih' _ _ he)⟩
            | exact ⟨hw.1, RoundIn.mono hw.2 (fun e w'' he => by cases e <;> first | exact ih' _ _ he | exact he)⟩
      | halt x w' => cases x <;> simp only [Oper.uponIn] at hw ⊢ <;> exact hw
    · rename_i hy
      rw [if_neg hy] at hw
      exact ⟨fun _ _ => trivial, ih' _ _ hw⟩

/-- A list of operations. -/
def wpl (ρ : Option Nat) (P : Program) (N : Nat) (D : World) (ops : Array Oper) (l : List Oper) (Q : Post) (f : Fr) (w : World) : Prop :=
  ∀ a, Sim N a f ∧ Okd D a w → wpO ρ P ops (lift N D Q) l a w

def wpc (ρ : Option Nat) (P : Program) (N : Nat) (D : World) (c : Code) (Q : Post) (f : Fr) (w : World) : Prop :=
  ∀ a, Sim N a f ∧ Okd D a w → c.wpIn (FW ρ) 0 P (lift N D Q) a w

/-- A call that returns. -/
def CallsR (P : Program) (k : FuncId) (args : Array Value) (w : World) (R : Value → World → Prop) : Prop :=
  Calls P k args w fun e w' => ∃ v, e = .returned v ∧ Kd w w' ∧ R v w'

theorem CallsR.mono {P : Program} {k : FuncId} {args : Array Value} {w : World} {R R' : Value → World → Prop} (h : CallsR P k args w R)
    (hr : ∀ v w', R v w' → R' v w') : CallsR P k args w R' :=
  Calls.mono h fun _ _ ⟨v, e, k, r⟩ => ⟨v, e, k, hr _ _ r⟩

/-- A round that returns. -/
def RoundR (P : Program) (l : Nat) (fn : FuncId) (tmps : Array Value) (assign body : Code) (w : World) (R : Value → World → Prop) : Prop :=
  RoundIn (FW none) 0 P l fn tmps assign body w fun e w' => ∃ v, e = .returned v ∧ Kd w w' ∧ R v w'

theorem RoundR.mono {P : Program} {l : Nat} {fn : FuncId} {tmps : Array Value} {assign body : Code} {w : World} {R R' : Value → World → Prop} (h : RoundR P l fn tmps assign body w R)
    (hr : ∀ v w', R v w' → R' v w') : RoundR P l fn tmps assign body w R' :=
  RoundIn.mono h fun _ _ ⟨v, e, k, r⟩ => ⟨v, e, k, hr _ _ r⟩

section
variable {ρ : Option Nat} {P : Program} {N : Nat} {D : World} {ops : Array Oper} {rest : List Oper} {o : Oper} {Q : Post} {f : Fr} {w w' : World} {v : Value}

def plainOp (o : Oper) : Prop := ∀ c, o.op ≠ .defer c

theorem wpl_nil (h : Q .normal f w) : wpl ρ P N D ops [] Q f w := fun _ ha => ⟨f, ha, h⟩

theorem wpO_plain {Q : Exit → Act → World → Prop} {a : Act} (hg : o.guard = none) (hp : plainOp o) (h : o.uponIn (FW ρ) 0 P a (wpO ρ P ops Q rest) Q ((execOp a.eval o).run P w)) : wpO ρ P ops Q (o :: rest) a w := by
  unfold wpO
  rw [if_pos (by simp [Region.wanted, hg]), Oper.semAt_eq _ _ _ hp]
  exact h

theorem wpl_val (hg : o.guard = none) (hp : plainOp o) (hr : (execOp (ev f) o).run P w = .ok (.value v) w') (h : wpl ρ P N D ops rest Q (upo N f o.dst v) w')
    (kd : Kd w w' := by exact Kd.rfl' _) :
    wpl ρ P N D ops (o :: rest) Q f w := fun a ha => by
  refine wpO_plain hg hp ?_
  rw [ha.1.eval, hr]
  exact h _ ⟨ha.1.put _ _, (ha.2.up kd).put _ _⟩

theorem wpl_skipv (hg : o.guard = none) (hp : plainOp o) (hr : (execOp (ev f) o).run P w = .ok .skip w') (h : wpl ρ P N D ops rest Q (upo N f o.dst undef) w')
    (kd : Kd w w' := by exact Kd.rfl' _) :
    wpl ρ P N D ops (o :: rest) Q f w := fun a ha => by
  refine wpO_plain hg hp ?_
  rw [ha.1.eval, hr]
  exact h _ ⟨ha.1.put _ _, (ha.2.up kd).put _ _⟩

theorem wpl_call {k : FuncId} {args : Array Value} {R : Value → World → Prop} (hg : o.guard = none) (hp : plainOp o) (hr : (execOp (ev f) o).run P w = .ok (.enter k args) w')
    (hc : CallsR P k args w' R) (h : ∀ v w2, R v w2 → wpl ρ P N D ops rest Q (upo N f o.dst v) w2) (kd : Kd w w' := by exact Kd.rfl' _) :
    wpl ρ P N D ops (o :: rest) Q f w := fun a ha => by
  refine wpO_plain hg hp ?_
  rw [ha.1.eval, hr]
  refine ⟨(fun h => by cases h), CallsIn.mono (calls_FW hc) ?_⟩
  rintro _ w2 ⟨v, rfl, k, hR⟩
  exact h v w2 hR _ ⟨ha.1.put _ _, (ha.2.up (kd.tr k)).put _ _⟩

theorem wpl_round {l : Nat} {fn : FuncId} {tmps : Array Value} {assign body : Code} {R : Value → World → Prop} (hg : o.guard = none) (hp : plainOp o) (hr : (execOp (ev f) o).run P w = .ok (.round l fn tmps assign body) w')
    (hc : RoundR P l fn tmps assign body w' R) (h : ∀ v w2, R v w2 → wpl ρ P N D ops rest Q (upo N f o.dst v) w2) (kd : Kd w w' := by exact Kd.rfl' _) :
    wpl ρ P N D ops (o :: rest) Q f w := fun a ha => by
  refine wpO_plain hg hp ?_
  rw [ha.1.eval, hr]
  refine ⟨(fun h => by cases h), ?_⟩
  have hc' : RoundIn (FW ρ) 0 P l fn tmps assign body w' (fun e w2 => ∃ v, e = .returned v ∧ Kd w' w2 ∧ R v w2) := hc
  refine RoundIn.mono hc' ?_
  rintro _ w2 ⟨v, rfl, k, hR⟩
  exact h v w2 hR _ ⟨ha.1.put _ _, (ha.2.up (kd.tr k)).put _ _⟩

theorem yielded_of {a : Act} {j d : Nat} {b : Bool} (ha : Sim N a f) (hd : (ops[j]?).bind (·.dst) = some d) (hf : f d = .bool b) : yielded ops a.tmps j = some b := by
  have e := ha.at_ d
  rw [hf] at e
  simp only [yielded, hd, Option.bind_some]
  simp only [Array.getD_eq_getD_getElem?] at e
  cases ht : a.tmps[d]? with
  | none => rw [ht] at e; simp [undef] at e
  | some x => rw [ht] at e; simp at e; subst e; rfl

/-- A guarded operation, whose guard says yes. -/
theorem wpl_yes {j d : Nat} {b : Bool} (hg : o.guard = some (j, b)) (hd : (ops[j]?).bind (·.dst) = some d) (hf : f d = .bool b)
    (h : wpl ρ P N D ops ({ o with guard := none } :: rest) Q f w) : wpl ρ P N D ops (o :: rest) Q f w := fun a ha => by
  have h' := h a ha
  have hy := yielded_of ha.1 hd hf
  unfold wpO at h' ⊢
  simp only [Region.wanted, hg, hy, beq_self_eq_true, if_true] at h' ⊢
  exact h'

theorem wpl_no {j d : Nat} {b : Bool} (hg : o.guard = some (j, b)) (hd : (ops[j]?).bind (·.dst) = some d) (hf : f d = .bool (!b))
    (h : wpl ρ P N D ops rest Q (upo N f o.dst undef) w) : wpl ρ P N D ops (o :: rest) Q f w := fun a ha => by
  have hy := yielded_of ha.1 hd hf
  unfold wpO
  have : Region.wanted o (yielded ops a.tmps) = false := by
    simp only [Region.wanted, hg, hy]; cases b <;> rfl
  rw [this]
  exact h _ ⟨ha.1.put _ _, ha.2.put _ _⟩

/-- The guard's own value was never made: what hangs on it is not made either. -/
theorem wpl_no' {j d : Nat} {b : Bool} (hg : o.guard = some (j, b)) (hd : (ops[j]?).bind (·.dst) = some d) (hf : f d = undef)
    (h : wpl ρ P N D ops rest Q (upo N f o.dst undef) w) : wpl ρ P N D ops (o :: rest) Q f w := fun a ha => by
  have hy : yielded ops a.tmps j = none := by
    have e := ha.1.at_ d
    rw [hf] at e
    simp only [yielded, hd, Option.bind_some]
    simp only [Array.getD_eq_getD_getElem?] at e
    cases ht : a.tmps[d]? with
    | none => rfl
    | some x => rw [ht] at e; simp at e; subst e; rfl
  unfold wpO
  have : Region.wanted o (yielded ops a.tmps) = false := by
    simp only [Region.wanted, hg, hy]; cases b <;> rfl
  rw [this]
  exact h _ ⟨ha.1.put _ _, ha.2.put _ _⟩

theorem wpO_mono {Q Q' : Exit → Act → World → Prop} (hq : ∀ e a w, Q e a w → Q' e a w) : ∀ (l : List Oper) (a : Act) (w : World), wpO ρ P ops Q l a w → wpO ρ P ops Q' l a w := by
  intro l
  induction l with
  | nil => exact fun a w h => hq _ _ _ h
  | cons o l ih =>
    intro a w h
    unfold wpO at h ⊢
    split
    · rename_i hw
      rw [if_pos hw] at h
      generalize (o.semAt ρ a.eval).run P w = r at *
      have lo : LetsOut Q → LetsOut Q' := fun ⟨x, y, z⟩ => ⟨x, y, hq _ _ _ z⟩
      cases r with
      | ok n w' =>
        cases n <;> simp only [Oper.uponIn] at h ⊢ <;>
          first
            | exact ih _ _ h
            | exact ⟨h.1, CallsIn.mono h.2 (fun e w'' he => by cases e <;> first | exact ih _ _ he | exact hq _ _ _ he | exact lo he)⟩
            | exact ⟨h.1, RowsIn.mono h.2 (fun _ _ he => ih _ _ he)⟩
            | exact ⟨h.1, RoundIn.mono h.2 (fun e w'' he => by cases e <;> first | exact ih _ _ he | exact hq _ _ _ he | exact lo he)⟩
      | halt x w' => cases x <;> simp only [Oper.uponIn] at h ⊢ <;> exact hq _ _ _ h
    · rename_i hw; rw [if_neg hw] at h; exact ih _ _ h

theorem wpl_mono {Q' : Post} {l : List Oper} (hq : ∀ e f w, Q e f w → Q' e f w) (h : wpl ρ P N D ops l Q f w) : wpl ρ P N D ops l Q' f w :=
  fun a ha => wpO_mono (fun _ _ _ ⟨f, s, q⟩ => ⟨f, s, hq _ _ _ q⟩) l a w (h a ha)

theorem wpO_append {Q : Exit → Act → World → Prop} (l1 l2 : List Oper) : ∀ (a : Act) (w : World), wpO ρ P ops (Exit.then (fun a w => wpO ρ P ops Q l2 a w) Q) l1 a w → (LetsOut (Exit.then (fun a w => wpO ρ P ops Q l2 a w) Q) → LetsOut Q) → wpO ρ P ops Q (l1 ++ l2) a w := by
  induction l1 with
  | nil => exact fun a w h _ => h
  | cons o l ih =>
    intro a w h lo
    rw [List.cons_append]
    unfold wpO at h ⊢
    split
    · rename_i hw
      rw [if_pos hw] at h
      generalize (o.semAt ρ a.eval).run P w = r at *
      cases r with
      | ok n w' =>
        cases n <;> simp only [Oper.uponIn] at h ⊢ <;>
          first
            | exact ih _ _ h lo
            | exact ⟨h.1, CallsIn.mono h.2 (fun e w'' he => by cases e <;> first | exact ih _ _ he lo | exact he | exact lo he)⟩
            | exact ⟨h.1, RowsIn.mono h.2 (fun _ _ he => ih _ _ he lo)⟩
            | exact ⟨h.1, RoundIn.mono h.2 (fun e w'' he => by cases e <;> first | exact ih _ _ he lo | exact he | exact lo he)⟩
      | halt x w' => cases x <;> simp only [Oper.uponIn] at h ⊢ <;> exact h
    · rename_i hw; rw [if_neg hw] at h; exact ih _ _ h lo

/-! ### code -/

def thenF (K : Fr → World → Prop) (Q : Post) : Post
  | .normal, f, w => K f w
  | e, f, w => Q e f w

def inBlk (id : Nat) (Q : Post) : Post
  | .exit id', f, w => bif Nat.beq id' id then Q .normal f w else Q (.exit id') f w
  | e, f, w => Q e f w

theorem wpc_mono {c : Code} {Q' : Post} (hq : ∀ e f w, Q e f w → Q' e f w) (h : wpc ρ P N D c Q f w) : wpc ρ P N D c Q' f w :=
  fun a ha => wpIn_mono (h a ha) fun _ _ _ ⟨f, s, q⟩ => ⟨f, s, hq _ _ _ q⟩

theorem wpc_region {id : Nat} {l : List Oper} (h : wpl ρ P N D l.toArray l Q f w) : wpc ρ P N D (.region id l.toArray false) Q f w :=
  fun a ha => wpIn_region (by
    have := wpO_ops l 0 (ops := l.toArray) (fun j => by simp) a w (h a ha)
    rw [List.range_eq_range']
    simpa using this)

theorem wpc_seq {x y : Code} (h : wpc ρ P N D x (thenF (fun f w => wpc ρ P N D y Q f w) Q) f w) : wpc ρ P N D (.seq x y) Q f w := fun a ha => by
  refine wpIn_seq (wpIn_mono (h a ha) ?_)
  rintro e a' w' ⟨f', s, q⟩
  cases e with
  | normal => exact q a' s
  | _ => exact ⟨f', s, q⟩

theorem wpc_skip (h : Q .normal f w) : wpc ρ P N D .skip Q f w := fun _ ha => wpIn_skip ⟨f, ha, h⟩
theorem wpc_label {l : Nat} (h : Q .normal f w) : wpc ρ P N D (.label l) Q f w := fun _ ha => wpIn_label ⟨f, ha, h⟩
theorem wpc_exit {id : Nat} (h : Q (.exit id) f w) : wpc ρ P N D (.exit id) Q f w := fun _ ha => wpIn_exit ⟨f, ha, h⟩
theorem wpc_ret (h : Q .ret f w) : wpc ρ P N D .ret Q f w := fun _ ha => wpIn_ret ⟨f, ha, h⟩

theorem wpc_if {c : Operand} {x y : Code} {t : Bool} (hc : ev f c = .bool t) (ht : t = true → wpc ρ P N D x Q f w) (hf : t = false → wpc ρ P N D y Q f w) :
    wpc ρ P N D (.cond c x y) Q f w := fun a ha => by
  refine wpIn_cond_split (t := t) (by rw [ha.1.eval]; exact hc) (fun e => ht e a ha) (fun e => hf e a ha)

theorem wpc_true {c : Operand} {x y : Code} (hc : ev f c = .bool true) (h : wpc ρ P N D x Q f w) : wpc ρ P N D (.cond c x y) Q f w :=
  wpc_if hc (fun _ => h) (fun e => by cases e)
theorem wpc_false {c : Operand} {x y : Code} (hc : ev f c = .bool false) (h : wpc ρ P N D y Q f w) : wpc ρ P N D (.cond c x y) Q f w :=
  wpc_if hc (fun e => by cases e) (fun _ => h)

theorem wpc_block {id : Nat} {c : Code} (h : wpc ρ P N D c (inBlk id Q) f w) : wpc ρ P N D (.block id c) Q f w := fun a ha => by
  refine wpIn_block (wpIn_mono (h a ha) ?_)
  rintro e a' w' ⟨f', s, q⟩
  cases e with
  | exit id' =>
    simp only [Exit.inBlock]
    simp only [inBlk] at q
    by_cases e : id' = id
    · subst e
      rw [if_pos rfl]
      simp at q
      exact ⟨f', s, q⟩
    · rw [if_neg e]
      have : Nat.beq id' id = false := by rw [← Bool.not_eq_true, Nat.beq_eq]; exact e
      rw [this] at q
      exact ⟨f', s, q⟩
  | _ => exact ⟨f', s, q⟩

/-- A loop, round by round: what is left to do is a relation of a number that falls. -/
theorem wpc_loop {c : Code} (I : Nat → Fr → World → Prop) (n : Nat) (h0 : I n f w)
    (round : ∀ n f w, I n f w → wpc ρ P N D c (thenF (fun f' w' => ∃ n', n' < n ∧ I n' f' w') Q) f w) : wpc ρ P N D (.loop c) Q f w := by
  intro a ha b k cs hro hb hr
  have go : ∀ n f w, I n f w → ∀ a, Sim N a f ∧ Okd D a w → ∃ e a' w', lift N D Q e a' w' ∧ ArrivesIn (Machine.fenced P (FW ρ)) P (lone (b.atR a (.code c :: .inLoop c :: k)) cs w) b k cs e a' w' := by
    intro n
    induction n using Nat.strongRecOn with
    | _ n ih =>
      intro f w hI a ha
      obtain ⟨e, a1, w1, ⟨f1, s1, hq⟩, harr⟩ := round n f w hI a ha b (.inLoop c :: k) cs hro hb hr
      cases e with
      | normal =>
        obtain ⟨n', hlt, hI'⟩ := hq
        obtain ⟨e2, a2, w2, hq2, harr2⟩ := ih n' hlt f1 w1 hI' a1 s1
        exact ⟨e2, a2, w2, hq2, .of_steps (StepsIn.trans harr (.one (fenced_calm hb hr rfl) stepR_inLoop)) harr2⟩
      | exit id => exact ⟨_, a1, w1, ⟨f1, s1, hq⟩, .pass (x := .inLoop c) rfl (fun _ _ => .inl (by simp)) harr⟩
      | goto l => exact ⟨_, a1, w1, ⟨f1, s1, hq⟩, .pass (x := .inLoop c) rfl (fun _ _ => .inl (by simp)) harr⟩
      | ret => exact ⟨_, a1, w1, ⟨f1, s1, hq⟩, .pass (x := .inLoop c) rfl (fun _ _ => .inl (by simp)) harr⟩
      | panic ch => exact ⟨_, a1, w1, ⟨f1, s1, hq⟩, .pass (x := .inLoop c) rfl (fun _ _ => .inl (by simp)) harr⟩
      | outgrown => exact ⟨_, a1, w1, ⟨f1, s1, hq⟩, .pass (x := .inLoop c) rfl (fun _ _ => .inl (by simp)) harr⟩
  obtain ⟨e, a', w', hq, harr⟩ := go n f w h0 a ha
  exact ⟨e, a', w', hq, .of_steps (.one (fenced_calm hb hr rfl) stepR_loop) harr⟩

/-- Ways that meet again: what holds where they do. -/
theorem wpc_cut {c : Code} {K : Fr → World → Prop} (R : Fr → World → Prop) (h : wpc ρ P N D c (thenF R Q) f w) (hk : ∀ f w, R f w → K f w) : wpc ρ P N D c (thenF K Q) f w :=
  wpc_mono (fun e f w q => by cases e <;> first | exact hk _ _ q | exact q) h

/-! ### calls -/

def f0 (args : List Value) : Fr := fun t => args.getD t undef

/-- What a function hands back, when it ends (behind which the marked blocks are shut). -/
def outF (P : Program) (N : Nat) (fn : Func) (R : Value → World → Prop) : Post
  | .normal, f, w | .ret, f, w => ∀ w', Pd w w' → ∃ v, (∀ a, Sim N a f → (results fn a.tmps).run P w' = .ok v w') ∧ R v w'
  | _, _, _ => False

theorem leaves_marks {fn : Func} {tmps : Array Value} {R : Value → World → Prop} {w0 : World} : ∀ (E : List Nat) (w : World), Kd w0 w → E.Nodup → (∀ b ∈ E, w0.heap.size ≤ b ∧ w.heap[b]? = some dfr) →
    (∀ w', Pd w w' → ∃ v, (results fn tmps).run P w' = .ok v w' ∧ R v w') →
    LeavesInM (FW none) 0 P fn tmps (fun e w' => ∃ v, e = .returned v ∧ Kd w0 w' ∧ R v w') (E.map mark) .returning w := by
  intro E
  induction E with
  | nil =>
    intro w hk _ _ h
    obtain ⟨v, hr, hR⟩ := h w (Pd.rfl' w)
    exact ⟨v, hr, v, rfl, hk, hR⟩
  | cons b E ih =>
    intro w hk hn hl h
    obtain ⟨hb1, hb2⟩ := hl b (by simp)
    have hlt := (Array.getElem?_eq_some_iff.1 hb2).1
    have hpd : Pd w (w.putObj b (.deferred none)) := ⟨rfl, rfl, rfl, fun k o ho e => by
      by_cases q : k = b
      · subst q; rw [hb2] at e; cases e; exact absurd rfl ho
      · rw [World.putObj_heap_other q]; exact e⟩
    refine ⟨by simp, .inl ⟨b, w.putObj b (.deferred none), rfl, run_takeDeferred hb2, ?_⟩⟩
    refine ih _ ⟨by simpa using hk.size, fun k e => ?_⟩ (List.nodup_cons.1 hn).2 (fun c hc => ⟨(hl c (by simp [hc])).1, ?_⟩) (fun w' p => h w' (hpd.tr p))
    · have := (Array.getElem?_eq_some_iff.1 e).1
      rw [World.putObj_heap_other (by omega)]; exact hk.same k e
    · have : c ≠ b := fun q => (List.nodup_cons.1 hn).1 (q ▸ hc)
      rw [World.putObj_heap_other this]; exact (hl c (by simp [hc])).2

theorem callsR {k : FuncId} {fn : Func} {c : Code} {args : List Value} {R : Value → World → Prop} (hf : P.funcs[k]? = some fn) (hb : fn.body = some c) (hN : fn.ntmps = N)
    (hle : args.length ≤ N) (h : wpc none P N w c (outF P N fn R) (f0 args) w) : CallsR P k args.toArray w R := by
  refine calls_of_FW (ρ := none) (n := 0) (callsIn_of_wp_marks hf hb trivial ?_)
  have hs : Sim N { tmps := args.toArray ++ Array.replicate (fn.ntmps - args.toArray.size) undef, defers := [] } (f0 args) := by
    refine ⟨by simp [hN]; omega, fun t => ?_⟩
    simp only [f0, Array.getD_eq_getD_getElem?, List.getD_eq_getElem?_getD, Array.getElem?_append]
    split
    · simp
    · rename_i h1
      simp at h1
      rw [List.getElem?_eq_none h1]
      rw [Array.getElem?_replicate]
      split <;> rfl
  refine wpIn_mono (h _ ⟨hs, Okd.nil rfl⟩) ?_
  rintro e a w' ⟨f', ⟨s, ok⟩, q⟩
  obtain ⟨E, hE, hn, hl⟩ := ok.marks
  cases e with
  | normal =>
    show LeavesInM _ _ _ _ _ _ a.defers _ _
    rw [hE]
    exact leaves_marks E w' ok.keep hn hl (fun w'' p => let ⟨v, hr, hR⟩ := q w'' p; ⟨v, hr a s, hR⟩)
  | ret =>
    show LeavesInM _ _ _ _ _ _ a.defers _ _
    rw [hE]
    exact leaves_marks E w' ok.keep hn hl (fun w'' p => let ⟨v, hr, hR⟩ := q w'' p; ⟨v, hr a s, hR⟩)
  | exit id => exact q.elim
  | goto l => exact q.elim
  | panic ch => exact q.elim
  | outgrown => exact q.elim
end
end Go.Gw
