/- The steps on slices that a call makes itself: literals, append, stores into them, and giving them up to what never changes. Conditions: none. -/
import Derived.Test.YtemiampgjgenhaaGreatDoorGwC
set_option linter.unusedSimpArgs false
set_option linter.unusedVariables false
namespace Go.Gw
open Go

/-- A slice of the call's own: it alone has its array. -/
def row (sz : Nat) (v : Value) (cs : List Value) (n : Nat) : Ow := fun h =>
  (v = .slice none 0 0 ∧ cs = [] ∧ n = 0 ∧ h = PH.emp) ∨
  ∃ b cap l e fr, v = .slice (some ⟨b, 0, none⟩) n cap ∧ h = PH.one b (.cells l e fr) ∧ cs.length = n * sz ∧ l.toList.take (n * sz) = cs ∧ l.size = cap * sz ∧ n ≤ cap ∧ cap ≤ maxLen ∧ frOk fr l.size

theorem row.nil {sz : Nat} : row sz (.slice none 0 0) [] 0 PH.emp := .inl ⟨rfl, rfl, rfl, rfl⟩

section
variable {P : Program} {w : World} {m : Mem} {As : List Ow}

theorem St.take' {A : Ow} (h : St m As w) {i : Nat} (hi : As[i]? = some A) : ∃ h1, A h1 ∧ h1.agree w := let ⟨h1, a, g, _⟩ := h.take hi; ⟨h1, a, g⟩

theorem St.rowVal {i sz n : Nat} {v : Value} {cs : List Value} (h : St m As w) (hi : As[i]? = some (row sz v cs n)) : (∃ a c, v = .slice a n c) ∧ cs.length = n * sz := by
  obtain ⟨h1, ⟨rfl, rfl, rfl, _⟩ | ⟨b, cap, l, e, fr, rfl, _, hc, _⟩, _⟩ := h.take' hi
  · exact ⟨⟨_, _, rfl⟩, by simp⟩
  · exact ⟨⟨_, _, rfl⟩, hc⟩

/-- A nil slice is one of the call's own. -/
theorem St.rowNil (h : St m As w) (sz : Nat) : St m (row sz (.slice none 0 0) [] 0 :: As) w := by
  obtain ⟨x, s, d, g, g', nd⟩ := h.own
  exact ⟨h.os, h.tape, h.output, x, ⟨PH.emp, x, row.nil, s, fun _ => .inl rfl, (PH.emp_join x).symm⟩, d, g, g', nd⟩

/-- A slice of the call's own is given up: from now on it is only read. -/
theorem St.rowKeep {i sz n : Nat} {v : Value} {cs : List Value} (h : St m As w) (hi : As[i]? = some (row sz v cs n)) : ∃ m', m ≤ m' ∧ SlC m' sz v cs n ∧ St m' (As.eraseIdx i) w := by
  obtain ⟨h1, m', ha, le, hk, s⟩ := h.keep hi
  refine ⟨m', le, ?_, s⟩
  rcases ha with ⟨rfl, rfl, rfl, _⟩ | ⟨b, cap, l, e, fr, rfl, rfl, hc, ht, hl, hn, hcm, _⟩
  · exact ⟨by simp, by simp, .inl ⟨rfl, _, _, rfl⟩⟩
  · refine ⟨hc, by simp only [maxLen] at hcm; omega, .inr ⟨b, 0, cap, l, e, fr, rfl, hn, hk _ _ (by simp [PH.one]), fun j x hx => ?_⟩⟩
    rw [← ht, List.getElem?_take] at hx
    split at hx
    · simpa using hx
    · cases hx

theorem St.rowKeepT {α : Type} [GoT α] {i n : Nat} {v : Value} {cs : List Value} {xs : List α} (h : St m As w) (hi : As[i]? = some (row (GoT.sz α) v cs n)) (hr : RepL m cs xs) (hn : n = xs.length) :
    ∃ m', m ≤ m' ∧ SlR m' v xs ∧ St m' (As.eraseIdx i) w := by
  subst hn
  obtain ⟨m', le, hc, s⟩ := h.rowKeep hi
  exact ⟨m', le, ⟨cs, hc, hr.up le⟩, s⟩

/-- A variable of the call's own is given up: from now on it is only read. -/
theorem St.bxKeep {i b : Nat} {l : List Value} {e : TypeId} (h : St m As w) (hi : As[i]? = some (bx b l e)) : ∃ m', m ≤ m' ∧ PtC m' (pt b 0) l ∧ St m' (As.eraseIdx i) w := by
  obtain ⟨h1, m', ha, le, hk, s⟩ := h.keep hi
  cases ha
  exact ⟨m', le, ⟨b, 0, l.toArray, e, (0, 0), rfl, hk _ _ (by simp [PH.one, cel]), fun j x hx => by simpa using hx⟩, s⟩

/-- A whole array of the call's own, as a slice. -/
theorem St.bxRow {i b sz n : Nat} {l : List Value} {e : TypeId} (h : St m As w) (hi : As[i]? = some (bx b l e)) (hl : l.length = n * sz) (hn : n ≤ maxLen) : St m (As.set i (row sz (.slice (some ⟨b, 0, none⟩) n n) l n)) w := by
  obtain ⟨h1, ha, hg, _, back⟩ := h.take hi
  refine back _ h1 w (.inr ⟨b, n, l.toArray, e, (0, 0), rfl, ha, hl, ?_, by simpa using hl, Nat.le_refl _, hn, .inl rfl⟩) (fun k hk => .inl hk) hg (fun _ _ _ => rfl) rfl rfl rfl id
  rw [← hl]; simp

theorem heap_alloc_self (w : World) (o : Obj) : (w.alloc o).heap[w.heap.size]? = some o := by show (w.heap.push o)[_]? = _; simp
theorem heap_alloc_lt (w : World) (o : Obj) {k : Nat} (h : k < w.heap.size) : (w.alloc o).heap[k]? = w.heap[k]? := by
  show (w.heap.push o)[k]? = _; rw [Array.getElem?_push, if_neg (by omega)]

/-- append. -/
theorem run_app {i sz n k bytes : Nat} {v z src : Value} {cs ds : List Value} {t t2 ty e : TypeId} {d2 : TypeDesc} {ti : TypeInfo}
    (ht : P.underlying t = some (.slice e)) (h2 : P.underlying t2 = some d2) (hd : (∃ e2, d2 = .slice e2) ∨ d2 = .string) (hi : P.info? e = some ti) (hz : ti.zero = some z) (hsz : ti.size = sz) (hby : ti.bytes = bytes) (hzs : z.cells.size = sz)
    (hlen : ∀ w, (Builtin.lenOf src).run P w = .ok k w) (hf : ∀ j, (Builtin.firstCells sz k src).run P { w with drawn := j } = .ok ds.toArray { w with drawn := j }) (hds : ds.length = k * sz) (h1 : ∀ u ∈ ds, u.oneCell' = true)
    (hb : (n + k) * bytes ≤ 140737488355328) (h63 : n + k ≤ 140737488355328) (hS : St m As w) (hA : As[i]? = some (row sz v cs n)) :
    ∃ v' w', (Builtin.append_ #[t, t2] ty #[v, src]).run P w = .ok v' w' ∧ St m (As.set i (row sz v' (cs ++ ds) (n + k))) w' ∧ Kd w w' := by
  subst hsz hby
  obtain ⟨p, ha, hg, _, back⟩ := hS.take hA
  have hf0 : (Builtin.firstCells ti.size k src).run P w = .ok ds.toArray w := hf w.drawn
  have hf1 : (Builtin.firstCells ti.size k src).run P w.drew = .ok ds.toArray w.drew := hf _
  have hun : ∀ w, (underlying t).run P w = .ok (.slice e) w := fun w => run_underlying ht w
  have hu2 : ∀ w, (underlying t2).run P w = .ok d2 w := fun w => run_underlying h2 w
  have grow : ∀ (base : Option Addr) (cap : Nat), v = .slice base n cap → cap < n + k → cs.length = n * ti.size → (Builtin.firstCells ti.size n v).run P w.drew = .ok cs.toArray w.drew →
      ∃ v' w', (Builtin.append_ #[t, t2] ty #[v, src]).run P w = .ok v' w' ∧ St m (As.set i (row ti.size v' (cs ++ ds) (n + k))) w' ∧ Kd w w' := by
    intro base cap hv hcap hcl hfo
    subst hv
    have hfit := growslice_fits hcap hb
    have hn : ¬ (n + k ≤ cap) := by omega
    have h63' : ¬ (9223372036854775807 < ((n : Int) + (k : Int))) := by omega
    have h48' : ¬ (281474976710656 < Builtin.nextslicecap (n + k) cap * ti.bytes) := by omega
    have hge := grownCap_ge w (n + k) cap e
    have hcm : grownCap w (n + k) cap e ≤ maxLen := grownCap_le_maxLen w (n + k) cap e (by simp only [maxLen]; omega)
    refine ⟨.slice (some ⟨w.heap.size, 0, none⟩) (n + k) (grownCap w (n + k) cap e), w.drew.alloc (.cells (cs.toArray ++ ds.toArray ++ Builtin.zeroCells z.cells (grownCap w (n + k) cap e - (n + k))) e), ?_, ?_⟩
    · rcases hd with ⟨e2, rfl⟩ | rfl <;> simp [Builtin.append_, hun, hu2, sizeOf, typeInfo, zeroValue, hi, hz, hlen, hn, h63', h48', Question.forced, hfo, hf1, newRow, grownCap]
      all_goals (congr 2; apply Array.ext'; simp)
    · refine ⟨?_, (Kd.push w.drew _).size, (Kd.push w.drew _).same⟩
      refine back _ (PH.one w.heap.size (.cells (cs.toArray ++ ds.toArray ++ Builtin.zeroCells z.cells (grownCap w (n + k) cap e - (n + k))) e (0, 0))) _ (.inr ⟨w.heap.size, _, _, e, (0, 0), rfl, rfl, ?_, ?_, ?_, hge, hcm, .inl rfl⟩) ?_ ?_ ?_ rfl rfl rfl (fun _ => .one cells_nd)
      · rw [List.length_append, hcl, hds, Nat.add_mul]
      · have e1 : (n + k) * ti.size = (cs ++ ds).length := by rw [List.length_append, hcl, hds, Nat.add_mul]
        have e2 : (cs.toArray ++ ds.toArray ++ Builtin.zeroCells z.cells (grownCap w (n + k) cap e - (n + k))).toList = (cs ++ ds) ++ (Builtin.zeroCells z.cells (grownCap w (n + k) cap e - (n + k))).toList := by simp
        rw [e1, e2]; exact List.take_left
      · simp only [Array.size_append, List.size_toArray, size_zeroCells, hzs, hcl, hds, ← Nat.add_mul]
        congr 1; omega
      · intro q hq; simp only [PH.one] at hq; split at hq
        · rename_i hq; right; omega
        · exact absurd rfl hq
      · rw [PH.agree_one]; exact heap_alloc_self w.drew _
      · intro q hq _; exact heap_alloc_lt w.drew _ hq
  rcases ha with ⟨rfl, rfl, rfl, rfl⟩ | ⟨b, cap, l, e', fr, rfl, rfl, hc, htk, hl, hn, hcm, hfr⟩
  · by_cases hk : k = 0
    · subst hk
      have : ds = [] := List.eq_nil_of_length_eq_zero (by simpa using hds)
      subst this
      refine ⟨.slice none 0 0, w, ?_, ?_⟩
      · rcases hd with ⟨e2, rfl⟩ | rfl <;> simp [Builtin.append_, hun, hu2, sizeOf, typeInfo, hi, hlen, hf0]
      · exact ⟨back _ PH.emp w (.inl ⟨rfl, by simp, rfl, rfl⟩) (fun _ h => absurd rfl h) (PH.agree_emp w) (fun _ _ _ => rfl) rfl rfl rfl (fun _ => .emp), Kd.rfl' w⟩
    · exact grow none 0 rfl (by omega) (by simp) (by simp [Builtin.firstCells])
  · have hbw : w.heap[b]? = some (.cells l e' fr) := PH.agree_one.1 hg
    have hfo : ∀ w', w'.heap = w.heap → (Builtin.firstCells ti.size n (.slice (some ⟨b, 0, none⟩) n cap)).run P w' = .ok cs.toArray w' := by
      intro w' hw'
      have hb' : w'.heap[b]? = some (.cells l e' fr) := by rw [hw']; exact hbw
      have := run_loadCellsFrom (P := P) (off := 0) hb' cs 0 #[] (fun j x hx => by
        rw [← htk, List.getElem?_take] at hx
        split at hx
        · simpa using hx
        · cases hx)
      simp only [Builtin.firstCells, loadCells, ← hc, this]
      simp
    by_cases hroom : n + k ≤ cap
    · have hfit : n * ti.size + ds.length ≤ l.size := by rw [hds, hl, ← Nat.add_mul]; exact Nat.mul_le_mul_right _ hroom
      have hst := run_storeCellsF (P := P) (off := n * ti.size) (e := e') (fr := fr) ds h1 l.toList 0 (by simpa using hfit) (by simpa using hfr) (by simpa using hbw)
      simp only [Nat.add_zero] at hst
      refine ⟨.slice (some ⟨b, 0, none⟩) (n + k) cap, { w with heap := w.heap.setIfInBounds b (.cells (l.toList.take (n * ti.size) ++ ds ++ l.toList.drop (n * ti.size + ds.length)).toArray e' fr) }, ?_, ?_⟩
      · rcases hd with ⟨e2, rfl⟩ | rfl <;> simp [Builtin.append_, hun, hu2, sizeOf, typeInfo, hi, hlen, hroom, hf0, addr_add, hst]
      · have hlt := (Array.getElem?_eq_some_iff.1 hbw).1
        refine ⟨?_, Kd.set hbw cells_nd rfl⟩
        refine back _ (PH.one b (.cells (l.toList.take (n * ti.size) ++ ds ++ l.toList.drop (n * ti.size + ds.length)).toArray e' fr)) _ (.inr ⟨b, cap, _, e', fr, rfl, rfl, ?_, ?_, ?_, hroom, hcm, ?_⟩) ?_ ?_ ?_ rfl rfl rfl (fun _ => .one cells_nd)
        · rw [List.length_append, hc, hds, Nat.add_mul]
        · have e1 : (n + k) * ti.size = (cs ++ ds).length := by rw [List.length_append, hc, hds, Nat.add_mul]
          simp only [htk, e1]; exact List.take_left
        · simp only [List.size_toArray, List.length_append, List.length_take, List.length_drop, Array.length_toList]; omega
        · have e1 : (l.toList.take (n * ti.size) ++ ds ++ l.toList.drop (n * ti.size + ds.length)).toArray.size = l.size := by
            simp only [List.size_toArray, List.length_append, List.length_take, List.length_drop, Array.length_toList]; omega
          rw [e1]; exact hfr
        · intro q hq; left; simp only [PH.one] at hq ⊢
          by_cases e : q = b
          · rw [if_pos e]; simp
          · rw [if_neg e] at hq; exact absurd rfl hq
        · rw [PH.agree_one]; simp [hlt]
        · intro q _ hq; simp only [PH.one] at hq
          split at hq
          · cases hq
          · rename_i hne; rw [Array.getElem?_setIfInBounds_ne (by omega)]
    · exact grow _ cap rfl (by omega) hc (hfo w.drew rfl)

theorem run_firstCellsR {sz n : Nat} {v : Value} {cs : List Value} (hS : St m As w) (hv : SlC m sz v cs n) (j : Nat) : (Builtin.firstCells sz n v).run P { w with drawn := j } = .ok cs.toArray { w with drawn := j } := by
  obtain ⟨hl, _, ⟨rfl, a, c, rfl⟩ | ⟨b, off, cap, l, e, fr, rfl, hn, hb, hc⟩⟩ := hv
  · have : cs = [] := List.eq_nil_of_length_eq_zero (by simpa using hl)
    subst this
    cases a <;> simp [Builtin.firstCells, loadCells, loadCellsFrom]
  · have hb' : ({ w with drawn := j } : World).heap[b]? = some (.cells l e fr) := hS.mem hb
    have := run_loadCellsFrom (P := P) (off := off) hb' cs 0 #[] (by simpa using hc)
    simp only [Builtin.firstCells, loadCells, ← hl, this]
    simp
theorem run_lenOf {n c : Nat} {a : Option Addr} (w : World) : (Builtin.lenOf (.slice a n c)).run P w = .ok n w := by simp [Builtin.lenOf]
end

/-- What a model asks of append: that there is room. -/
def app {α : Type} (bytes : Nat) (xs ys : List α) : Option (List α) := if (xs.length + ys.length) * bytes ≤ 140737488355328 ∧ xs.length + ys.length ≤ 140737488355328 then some (xs ++ ys) else none

section
variable {ρ : Option Nat} {P : Program} {N : Nat} {D : World} {ops : Array Oper} {rest : List Oper} {Q : Post} {f : Fr} {w w' : World} {v : Value}
variable {dst : Option Nat} {ty t t' t2 : TypeId} {pos : String} {af : Array Edge} {x y c a b : Operand} {m : Mem} {As : List Ow}

/-- append of a slice that is only read. -/
theorem s_app {α : Type} [GoT α] {i n bytes : Nat} {z u : Value} {cs : List Value} {xs ys zs : List α} {e : TypeId} {ti : TypeInfo} (hS : St m As w) (hx : ev f x = v) (hA : As[i]? = some (row (GoT.sz α) v cs n)) (hr : RepL m cs xs) (hn : n = xs.length)
    (hy : ev f y = u) (hv : SlR m u ys) (hq : app bytes xs ys = some zs)
    (ht : P.underlying t = some (.slice e)) (hi : P.info? e = some ti) (hz : ti.zero = some z) (hsz : ti.size = GoT.sz α) (hby : ti.bytes = bytes) (hzs : z.cells.size = GoT.sz α)
    (h : ∀ v' cs' w', St m (As.set i (row (GoT.sz α) v' cs' zs.length)) w' → RepL m cs' zs → wpl ρ P N D ops rest Q (upo N f dst v') w') :
    wpl ρ P N D ops (⟨dst, .call { callee := .builtin .append, args := #[x, y], argTypes := #[t, t] }, ty, pos, af, none⟩ :: rest) Q f w := by
  subst hn
  obtain ⟨⟨hb, h63⟩, hq⟩ := if_some hq
  cases hq
  obtain ⟨ds, hc, hr2⟩ := hv
  obtain ⟨a, c, rfl⟩ := hc.val
  obtain ⟨v', w', hrun, hS', kd⟩ := run_app (P := P) (ty := ty) (t2 := t) ht ht (.inl ⟨_, rfl⟩) hi hz hsz hby hzs (src := .slice a ys.length c) (fun w => run_lenOf w) (fun j => run_firstCellsR hS hc j) hc.1 hr2.one hb h63 hS hA
  refine wpl_val (v := v') (w' := w') rfl (fun _ e => by cases e) ?_ (h v' _ w' (by simpa using hS') (hr.append hr2)) kd
  simp [execOp, resolve, invoke, builtin, hx, hy, hrun]

/-- append of one's own slice, that is given up. -/
theorem s_appS {i n bytes : Nat} {z : Value} {s : ByteArray} {cs : List Value} {xs zs : List UInt8} {e : TypeId} {ti : TypeInfo} (hS : St m As w) (hx : ev f x = v) (hA : As[i]? = some (row 1 v cs n)) (hr : RepL m cs xs) (hn : n = xs.length)
    (hy : ev f y = .string s) (hq : app bytes xs s.data.toList = some zs)
    (ht : P.underlying t = some (.slice e)) (ht2 : P.underlying t2 = some .string) (hi : P.info? e = some ti) (hz : ti.zero = some z) (hsz : ti.size = 1) (hby : ti.bytes = bytes) (hzs : z.cells.size = 1)
    (h : ∀ v' cs' w', St m (As.set i (row 1 v' cs' zs.length)) w' → RepL m cs' zs → wpl ρ P N D ops rest Q (upo N f dst v') w') :
    wpl ρ P N D ops (⟨dst, .call { callee := .builtin .append, args := #[x, y], argTypes := #[t, t2] }, ty, pos, af, none⟩ :: rest) Q f w := by
  subst hn
  obtain ⟨⟨hb, h63⟩, hq⟩ := if_some hq
  cases hq
  have rb : ∀ l : List UInt8, RepL m (l.map vB) l := by
    intro l
    induction l with
    | nil => rfl
    | cons c l ih => exact ⟨[vB c], l.map vB, rfl, rfl, ih⟩
  have hsl : s.data.toList.length = s.size := by simp
  obtain ⟨v', w', hrun, hS', kd⟩ := run_app (P := P) (ty := ty) (t2 := t2) (ds := s.data.toList.map vB) ht ht2 (.inr rfl) hi hz hsz hby hzs (src := .string s) (k := s.size) (fun w => by simp [Builtin.lenOf])
    (fun j => by
      have : (Array.map (fun b : UInt8 => Value.int IntKind.u8 (b.toNat : Int)) s.data).extract 0 s.size = Array.map (fun b : UInt8 => Value.int IntKind.u8 (b.toNat : Int)) s.data := by
        have hs : s.size = (Array.map (fun b : UInt8 => Value.int IntKind.u8 (b.toNat : Int)) s.data).size := by rw [Array.size_map]; rfl
        rw [hs, Array.extract_size]
      have e : Array.map (fun b : UInt8 => Value.int IntKind.u8 (b.toNat : Int)) s.data = (s.data.toList.map vB).toArray := by
        apply Array.ext_getElem?; intro i; simp
      simp [Builtin.firstCells, this, e])
    (by simp) (rb _).one (by rw [hsl] at hb; exact hb) (by rw [hsl] at h63; exact h63) hS hA
  refine wpl_val (v := v') (w' := w') rfl (fun _ e => by cases e) ?_ (h v' _ w' (by simpa using hS') (hr.append (rb _))) kd
  simp [execOp, resolve, invoke, builtin, hx, hy, hrun]

/-! ### literals -/
theorem foldl_set (cs : List Value) : ∀ (pre zs post : List Value), zs.length = cs.length →
    (cs.zipIdx).foldl (fun (a : Array Value) (p : Value × Nat) => a.setIfInBounds (pre.length + p.2) p.1) (pre ++ zs ++ post).toArray = (pre ++ cs ++ post).toArray := by
  suffices H : ∀ (cs pre zs post : List Value) (k : Nat), zs.length = cs.length → (cs.zipIdx k).foldl (fun (a : Array Value) (p : Value × Nat) => a.setIfInBounds (pre.length + (p.2 - k)) p.1) (pre ++ zs ++ post).toArray = (pre ++ cs ++ post).toArray by
    intro pre zs post h; simpa using H cs pre zs post 0 h
  intro cs
  induction cs with
  | nil => intro pre zs post k h; have : zs = [] := List.eq_nil_of_length_eq_zero h; subst this; simp
  | cons c cs ih =>
    intro pre zs post k h
    match zs, h with
    | z :: zs, h =>
      simp only [List.zipIdx_cons, List.foldl_cons, Nat.sub_self, Nat.add_zero]
      have e : (pre ++ z :: zs ++ post).toArray.setIfInBounds pre.length c = ((pre ++ [c]) ++ zs ++ post).toArray := by simp
      rw [e]
      have := ih (pre ++ [c]) zs post (k + 1) (by simpa using h)
      simp only [List.append_assoc, List.singleton_append] at this ⊢
      rw [← this]
      have fe : ∀ (L : List (Value × Nat)) (a : Array Value), (∀ p ∈ L, k < p.2) → L.foldl (fun (a : Array Value) (p : Value × Nat) => a.setIfInBounds (pre.length + (p.2 - k)) p.1) a = L.foldl (fun (a : Array Value) (p : Value × Nat) => a.setIfInBounds ((pre ++ [c]).length + (p.2 - (k + 1))) p.1) a := by
        intro L
        induction L with
        | nil => intro a _; rfl
        | cons q L ihL =>
          intro a hq
          have hk := hq q (by simp)
          simp only [List.foldl_cons]
          rw [ihL _ (fun p hp => hq p (by simp [hp]))]
          congr 2
          simp; omega
      apply fe
      intro p hp
      have := (List.mem_zipIdx hp).1
      omega

theorem fill_seq (sz : Nat) (vs : List Value) (hv : ∀ v ∈ vs, v.cells.size = sz) : ∀ (pre zs : List Value) (k : Nat), pre.length = k * sz → zs.length = vs.length * sz →
    Instr.fill (fun i => some (i * sz, sz)) (pre ++ zs).toArray (vs.zipIdx k |>.map fun p => (p.2, p.1)) = some (pre ++ vs.flatMap fun v => v.cells.toList).toArray := by
  induction vs with
  | nil => intro pre zs k h1 h2; have : zs = [] := List.eq_nil_of_length_eq_zero (by simpa using h2); subst this; simp [Instr.fill]
  | cons v vs ih =>
    intro pre zs k h1 h2
    have hvs := hv v (by simp)
    simp only [List.length_cons, Nat.succ_mul] at h2
    have hz : zs = zs.take sz ++ zs.drop sz := by simp
    have hlt : (zs.take sz).length = v.cells.toList.length := by simp [hvs]; omega
    simp only [List.zipIdx_cons, List.map_cons, Instr.fill]
    rw [if_neg (by simp [hvs, h1]; omega)]
    have fs := foldl_set v.cells.toList pre (zs.take sz) (zs.drop sz) hlt
    rw [List.append_assoc, ← hz] at fs
    have e : v.cells.zipIdx.foldl (fun (cs : Array Value) (p : Value × Nat) => cs.setIfInBounds (k * sz + p.2) p.1) (pre ++ zs).toArray = (pre ++ v.cells.toList ++ zs.drop sz).toArray := by
      rw [← fs, ← h1]
      rw [← Array.foldl_toList]
      congr 1
      simp
    rw [e]
    have := ih (fun u hu => hv u (by simp [hu])) (pre ++ v.cells.toList) (zs.drop sz) (k + 1) (by simp [h1, hvs, Nat.succ_mul]) (by simp; omega)
    rw [this]
    simp

/-- A slice's literal. -/
theorem run_buildSlice {e : TypeId} {sz n : Nat} {z : Value} {vs : List Value} (ht : P.underlying t = some (.slice e)) (hs : ∀ w, (sizeOf e).run P w = .ok sz w) (hz : ∀ w, (zeroValue e).run P w = .ok z w) (hv : ∀ v ∈ vs, v.cells.size = sz) (hn : n = vs.length) (hb : n * sz ≤ 16777216) :
    (Instr.buildSlice t n ((vs.zipIdx 0).map fun p => (p.2, p.1)).toArray).run P w = .ok (.slice (some ⟨w.heap.size, 0, none⟩) n n) (w.alloc (.cells (vs.flatMap fun v => v.cells.toList).toArray e)) := by
  have hb' : ¬ (16777216 < n * sz) := by omega
  have key : ∀ zz : Array Value, Instr.fill (fun i => some (i * sz, sz)) ((Array.range (n * sz)).map (zz[· % zz.size]!)) ((vs.zipIdx 0).map fun p => (p.2, p.1)) = some (vs.flatMap fun v => v.cells.toList).toArray := by
    intro zz
    have := fill_seq sz vs hv [] ((Array.range (n * sz)).map (zz[· % zz.size]!)).toList 0 (by simp) (by simp [hn])
    rw [List.nil_append, Array.toArray_toList, List.nil_append] at this
    exact this
  have hb2 : ¬ (n * sz > 2 ^ 24) := by omega
  by_cases h0 : n * sz = 0
  · have k0 := key #[]
    have hb0 : ¬ (0 > 2 ^ 24) := by omega
    simp only [Instr.buildSlice, Sem.run_bind, run_underlying ht, Result.andThen_ok, hs, hb0, if_false, h0, if_true, Sem.run_pure] at k0 ⊢
    rw [k0]
    simp [newRow]
  · have k0 := key z.cells
    simp only [Instr.buildSlice, Sem.run_bind, run_underlying ht, Result.andThen_ok, hs, hb2, if_false, h0, Sem.run_pure, hz]
    rw [k0]
    simp [newRow]

theorem s_litO {e : TypeId} {sz n : Nat} {z : Value} {parts : List Operand} {vs : List Value} (hS : St m As w) (ht : P.underlying t = some (.slice e)) (hs : ∀ w, (sizeOf e).run P w = .ok sz w) (hz : ∀ w, (zeroValue e).run P w = .ok z w)
    (hp : parts.map (ev f) = vs) (hv : ∀ v ∈ vs, v.cells.size = sz) (hn : n = vs.length) (hb : n * sz ≤ 16777216) (h0 : 1 ≤ sz)
    (h : ∀ v w', St m (row sz v (vs.flatMap fun v => v.cells.toList) n :: As) w' → wpl ρ P N D ops rest Q (upo N f dst v) w') :
    wpl ρ P N D ops (⟨dst, .buildSlice t n ((parts.zipIdx 0).map fun p => (p.2, p.1)).toArray, ty, pos, af, none⟩ :: rest) Q f w := by
  have hr := run_buildSlice (P := P) (w := w) ht hs hz hv hn hb
  have hm : (((parts.zipIdx 0).map fun p => (p.2, p.1)).toArray.map fun (i, x) => (i, ev f x)) = ((vs.zipIdx 0).map fun p => (p.2, p.1)).toArray := by
    subst hp
    simp only [List.map_toArray, List.map_map]
    congr 1
    have : ∀ (l : List Operand) (k : Nat), (l.zipIdx k).map ((fun (x : Nat × Operand) => match x with | (i, x) => (i, ev f x)) ∘ fun p => (p.2, p.1)) = ((l.map (ev f)).zipIdx k).map fun p => (p.2, p.1) := by
      intro l
      induction l with
      | nil => intro k; rfl
      | cons x l ih => intro k; simp [ih]
    exact this parts 0
  have hfl : (vs.flatMap fun v => v.cells.toList).length = n * sz := by
    subst hn
    clear h hm hp hr hb
    induction vs with
    | nil => simp
    | cons v vs ih => simp [ih (fun u hu => hv u (by simp [hu])), hv v (by simp), Nat.succ_mul, Nat.add_comm]
  refine wpl_val (v := .slice (some ⟨w.heap.size, 0, none⟩) n n) (w' := w.alloc (.cells (vs.flatMap fun v => v.cells.toList).toArray e)) rfl (fun _ e => by cases e) ?_ (h _ _ ?_) (Kd.push _ _)
  · simp only [execOp, hm, Sem.run_bind, hr, Result.andThen_ok, Sem.run_pure]
  · have hS' := (hS.push (.cells (vs.flatMap fun v => v.cells.toList).toArray e) cells_nd).take (i := 0) rfl
    obtain ⟨h1, ha, hg, _, back⟩ := hS'
    cases ha
    refine back _ _ _ (.inr ⟨w.heap.size, n, _, e, (0, 0), rfl, rfl, hfl, ?_, ?_, Nat.le_refl _, ?_, .inl rfl⟩) (fun k hk => .inl hk) hg (fun _ _ _ => rfl) rfl rfl rfl id
    · rw [← hfl]; exact List.take_length
    · simpa using hfl
    · have : n * 1 ≤ n * sz := Nat.mul_le_mul_left _ h0
      simp only [maxLen]; omega
end
end Go.Gw
