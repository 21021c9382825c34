/- More steps: small numbers, closures, callbacks, ranges over functions. Conditions: none. -/
import Derived.Test.YtemiampgjgenhaaGreatDoorGwH
set_option linter.unusedSimpArgs false
set_option linter.unusedVariables false
namespace Go.Gw
open Go

section
variable {ρ : Option Nat} {P : Program} {N : Nat} {D : World} {ops : Array Oper} {rest : List Oper} {Q : Post} {f : Fr} {w w' : World} {v : Value}
variable {dst : Option Nat} {ty t t' t2 : TypeId} {pos : String} {af : Array Edge} {x y c a b : Operand} {m m' : Mem} {As : List Ow}

theorem s_addB {m n : UInt8} (hx : ev f x = vB m) (hy : ev f y = vB n) (h : wpl ρ P N D ops rest Q (upo N f dst (vB (m + n))) w) :
    wpl ρ P N D ops (⟨dst, .binOp .add t x y t', ty, pos, af, none⟩ :: rest) Q f w :=
  s_bin hx hy (by simp only [binOp, Op.intArith, ne_eq, not_true_eq_false, if_false, Sem.run_pure, wrap_u8, vB, UInt8.toNat_add]; rfl) h
theorem s_mulB {m n : UInt8} (hx : ev f x = vB m) (hy : ev f y = vB n) (h : wpl ρ P N D ops rest Q (upo N f dst (vB (m * n))) w) :
    wpl ρ P N D ops (⟨dst, .binOp .mul t x y t', ty, pos, af, none⟩ :: rest) Q f w :=
  s_bin hx hy (by simp only [binOp, Op.intArith, ne_eq, not_true_eq_false, if_false, Sem.run_pure, wrap_u8, vB, UInt8.toNat_mul]; rfl) h
theorem s_subB {m n : UInt8} (hx : ev f x = vB m) (hy : ev f y = vB n) (h : wpl ρ P N D ops rest Q (upo N f dst (vB (m - n))) w) :
    wpl ρ P N D ops (⟨dst, .binOp .sub t x y t', ty, pos, af, none⟩ :: rest) Q f w :=
  s_bin hx hy (by
    simp only [binOp, Op.intArith, ne_eq, not_true_eq_false, if_false, Sem.run_pure, wrap_u8, vB, UInt8.toNat_sub]
    have := m.toNat_lt; have := n.toNat_lt
    congr 2; omega) h
theorem s_addW {m n : UInt32} (hx : ev f x = vW m) (hy : ev f y = vW n) (h : wpl ρ P N D ops rest Q (upo N f dst (vW (m + n))) w) :
    wpl ρ P N D ops (⟨dst, .binOp .add t x y t', ty, pos, af, none⟩ :: rest) Q f w :=
  s_bin hx hy (by simp only [binOp, Op.intArith, ne_eq, not_true_eq_false, if_false, Sem.run_pure, wrap_u32, vW, UInt32.toNat_add]; rfl) h
theorem s_mulW {m n : UInt32} (hx : ev f x = vW m) (hy : ev f y = vW n) (h : wpl ρ P N D ops rest Q (upo N f dst (vW (m * n))) w) :
    wpl ρ P N D ops (⟨dst, .binOp .mul t x y t', ty, pos, af, none⟩ :: rest) Q f w :=
  s_bin hx hy (by simp only [binOp, Op.intArith, ne_eq, not_true_eq_false, if_false, Sem.run_pure, wrap_u32, vW, UInt32.toNat_mul]; rfl) h

theorem s_boxS {e : TypeId} {u : Value} (hS : St m As w) (hx : ev f x = u) (hu : u.cells = #[u])
    (h : ∀ b w', St m (bx b [u] e :: As) w' → wpl ρ P N D ops rest Q (upo N f dst (pt b 0)) w') :
    wpl ρ P N D ops (⟨dst, .box e x, ty, pos, af, none⟩ :: rest) Q f w :=
  s_box hS hx fun b w' S => h b w' (by rw [hu] at S; exact S)
theorem s_funcP {k : FuncId} {ys xs : List Operand} {pre caps : List Value} (hy : ys.map (ev f) = pre) (hx : xs.map (ev f) = caps) (h : wpl ρ P N D ops rest Q (upo N f dst (.func (.func k) pre.toArray caps.toArray)) w) :
    wpl ρ P N D ops (⟨dst, .makeFunc (.func k) ys.toArray xs.toArray, ty, pos, af, none⟩ :: rest) Q f w := s_func (by
  rw [show xs.toArray.map (ev f) = caps.toArray from by rw [← hx]; simp, show ys.toArray.map (ev f) = pre.toArray from by rw [← hy]; simp]; exact h)
theorem s_funcC {k : FuncId} {xs : List Operand} {caps : List Value} (hx : xs.map (ev f) = caps) (h : wpl ρ P N D ops rest Q (upo N f dst (.func (.func k) #[] caps.toArray)) w) :
    wpl ρ P N D ops (⟨dst, .makeFunc (.func k) #[] xs.toArray, ty, pos, af, none⟩ :: rest) Q f w := s_func (by
  rw [show xs.toArray.map (ev f) = caps.toArray from by rw [← hx]; simp, Array.map_empty]; exact h)
theorem St.rowCells {i sz n : Nat} {v : Value} {cs : List Value} (h : St m As w) (hi : As[i]? = some (row sz v cs n)) : v.cells = #[v] ∧ v.oneCell' = true := by
  obtain ⟨⟨a, c, rfl⟩, _⟩ := h.rowVal hi
  exact ⟨rfl, rfl⟩
theorem s_stS {i b off : Nat} {l : List Value} {e : TypeId} {u : Value} (hS : St m As w) (hx : ev f x = pt b off) (hy : ev f y = u) (hi : As[i]? = some (bx b l e))
    (hs : ∀ w, (sizeOf t).run P w = .ok 1 w) (hu : u.cells = #[u] ∧ u.oneCell' = true) (hl : Nat.ble (off + 1) l.length = true)
    (h : ∀ w', St m (As.set i (bx b (l.take off ++ [u] ++ l.drop (off + 1)) e)) w' → wpl ρ P N D ops rest Q (upo N f dst undef) w') :
    wpl ρ P N D ops (⟨dst, .store t x y, ty, pos, af, none⟩ :: rest) Q f w :=
  s_st hS hx hy hi (by rw [hu.1]; exact hs) (by rw [hu.1]; intro c hc; simp at hc; subst hc; exact hu.2) (by rw [hu.1]; exact Nat.le_of_ble_eq_true hl) (by rw [hu.1]; exact h)
/-! ### slices of arrays, and back -/
theorem s_sliceA {b off n k sz : Nat} {hi : Option Operand} {e : TypeId} (hx : ev f x = pt b off) (hu : P.underlying t = some (.array n e)) (hs : ∀ w, (sizeOf e).run P w = .ok sz w)
    (hh : (hi.map (ev f) = none ∧ k = n) ∨ ∃ j, hi.map (ev f) = some (.int j k)) (hle : k ≤ n) (h : wpl ρ P N D ops rest Q (upo N f dst (.slice (some ⟨b, off, none⟩) k n)) w) :
    wpl ρ P N D ops (⟨dst, .slice t x none hi none, ty, pos, af, none⟩ :: rest) Q f w := by
  refine wpl_val (v := .slice (some ⟨b, off, none⟩) k n) (w' := w) rfl (fun _ e => by cases e) ?_ h
  have hb : ∀ w, (Instr.sliceBounds false n n none (hi.map (ev f)) none).run P w = .ok (0, k, n) w := by
    intro w
    have h2 : (k : Int) ≤ (n : Int) := by omega
    have h1 : (0 : Int) ≤ (k : Int) := by omega
    rcases hh with ⟨e, rfl⟩ | ⟨j, e⟩ <;> rw [e] <;> simp [Instr.sliceBounds, Instr.sliceBound, asIntOf, h1, h2, hle]
  simp only [execOp, hx, Instr.sliceAt, Sem.run_bind, run_underlying hu, Result.andThen_ok, Instr.sureAddr, Sem.run_pure, Option.map_none, hb, hs]
  by_cases h0 : n = 0
  · simp [h0]
  · simp [addr_add]
theorem s_toArr {b off n k c : Nat} {e : TypeId} (hx : ev f x = .slice (some ⟨b, off, none⟩) k c) (hu : P.underlying t = some (.array n e)) (hn : n ≤ k) (h : wpl ρ P N D ops rest Q (upo N f dst (pt b off)) w) :
    wpl ρ P N D ops (⟨dst, .sliceToArrayPointer t x, ty, pos, af, none⟩ :: rest) Q f w := by
  refine wpl_val (v := pt b off) (w' := w) rfl (fun _ e => by cases e) ?_ h
  simp only [execOp, hx, Instr.arrayAt, Sem.run_bind, run_underlying hu, Result.andThen_ok]
  rw [if_neg (by omega)]; simp

theorem s_re {u v : Value} {l : List Oper} {d : Option Nat} (h : u = v) (k : wpl ρ P N D ops l Q (upo N f d v) w) : wpl ρ P N D ops l Q (upo N f d u) w := h ▸ k
theorem outP {ds : List Nat} {F g : Fr} (h : Out ds F g := by repeat (first | with_reducible exact Out.refl | ((with_reducible refine Out.uq ?_ ?_); rotate_left; exact rfl) | ((with_reducible refine Out.hv ?_ ?_); rotate_left; exact rfl) | ((with_reducible refine Out.upsC ?_ ?_); rotate_left; exact rfl) | with_reducible refine Out.ups0 ?_ | with_reducible refine Out.none ?_)) : Out ds F g := h
abbrev RowS {α : Type} [GoT α] (M : Mem) (X : List Ow) (sz : Nat) (v : Value) (xs : List α) : Prop := ∃ cs, X = [row sz v cs xs.length] ∧ RepL M cs xs
theorem RowS.up {α : Type} [GoT α] {M M' : Mem} {X : List Ow} {sz : Nat} {v : Value} {xs : List α} (l : M ≤ M') (h : RowS M X sz v xs) : RowS M' X sz v xs := let ⟨cs, e, r⟩ := h; ⟨cs, e, RepL.up l r⟩
theorem wpn {K : Fr → World → Prop} (h : K f w) : wpl ρ P N D ops [] (thenF K Q) f w := wpl_nil h
def AllO (p : Nat → Oper → Prop) : Nat → Nat → List Oper → Prop
  | 0, _, _ => True
  | _ + 1, _, [] => True
  | k + 1, i, o :: l => p i o ∧ AllO p k (i + 1) l
theorem AllO.at {p : Nat → Oper → Prop} {k : Nat} : ∀ {i : Nat} {l : List Oper}, AllO p k i l → ∀ {j : Nat} {o : Oper}, j < k → l[j]? = some o → p (i + j) o := by
  induction k with
  | zero => intro i l _ j o h; omega
  | succ k ih =>
    intro i l h j o hj ho
    cases l with
    | nil => simp at ho
    | cons a l =>
      cases j with
      | zero => simp at ho; subst ho; exact h.1
      | succ j => have := ih h.2 (j := j) (o := o) (by omega) (by simpa using ho); rw [show i + (j + 1) = i + 1 + j from by omega]; exact this
theorem wpc_flowG {id : Nat} {l : List Oper} {m : Mem} {Fs : FactL} (HM : MonoAll Fs) (k : Nat) (hm : P.follows .mixedOrders = true) (hb : backL 0 l = true) (hf : forcedB l k = true) (hk : Nat.ble k l.length = true)
    (ds : List Nat) (Ψ : (Nat → Bool) → Fr → Mem → World → Prop) (h0 : Ψ (fun _ => false) f m { w with drawn := w.drawn + 1 })
    (hstep : AllO (fun i o => ∀ L f' w, L i = false → depsOk l.toArray L i = true → (∀ k, L k = true → depsOk l.toArray L k = true) → flowI Ψ Fs ds f m L f' w →
      wpl ρ P N D l.toArray [o] (thenF (flowI Ψ Fs ds f m (setL L i)) Q) f' w) k 0 l)
    (hend : ∀ L f' w, (∀ i, i < k → L i = true) → flowI Ψ Fs ds f m L f' w → wpl ρ P N D l.toArray (l.drop k) Q f' w) : wpc ρ P N D (.region id l.toArray true) Q f w :=
  wpc_flowF hm (List.range k) rfl hb hf hk Fs ds Ψ h0 (by
    have : ∀ is : List Nat, (∀ i ∈ is, i < k) → AllI (fun i => ∀ o L f' w, l[i]? = some o → L i = false → depsOk l.toArray L i = true → (∀ k, L k = true → depsOk l.toArray L k = true) → flowI Ψ Fs ds f m L f' w →
        wpl ρ P N D l.toArray [o] (thenF (flowI Ψ Fs ds f m (setL L i)) Q) f' w) is := by
      intro is
      induction is with
      | nil => intro _; trivial
      | cons i is ih =>
        intro h
        refine ⟨fun o L f' w ho => ?_, ih fun j hj => h j (by simp [hj])⟩
        have := AllO.at hstep (h i (by simp)) ho
        rw [Nat.zero_add] at this
        exact this L f' w
    exact this _ fun i hi => List.mem_range.1 hi) hend
/-! ### tables -/
theorem s_idxT {α : Type} {c : α → Value} {xs : List α} {q : α} {n : Nat} {e : TypeId} {k : IntKind} {i : Int} (hx : ev f x = v) (hi : ev f y = .int k i) (hv : PtC m v (xs.map c)) (hq : idx xs i = some q) (hu : P.underlying t = some (.array n e)) (hn : xs.length = n)
    (hs : ∀ w, (sizeOf e).run P w = .ok 1 w) (h : ∀ p, PtC m p [c q] → wpl ρ P N D ops rest Q (upo N f dst p) w) :
    wpl ρ P N D ops (⟨dst, .indexAddr t x y, ty, pos, af, none⟩ :: rest) Q f w := by
  obtain ⟨h0, hq⟩ := if_some hq
  have hlt : i.toNat < xs.length := (List.getElem?_eq_some_iff.1 hq).1
  obtain ⟨b, off, l, e', fr, rfl, hb, hc⟩ := hv
  refine wpl_val (v := pt b (off + i.toNat * 1)) (w' := w) rfl (fun _ e => by cases e) ?_ (h _ ⟨b, _, l, e', fr, rfl, hb, fun j x hj => ?_⟩)
  · simp only [execOp, hx, hi, Instr.indexAt, asIntOf, Sem.run_bind, Sem.run_pure, Result.andThen_ok, run_underlying hu, Instr.sureAddr]
    have : i < (n : Int) := by omega
    simp [h0, this, hs, addr_add]
  · cases j with
    | zero =>
      simp at hj; subst hj
      have := hc i.toNat (c q) (by rw [List.getElem?_map, hq]; rfl)
      simpa using this
    | succ j => simp at hj

/-! ### is a slice nil? -/
def isNilV : Value → Bool
  | .slice none _ _ => true
  | _ => false
theorem SlR.nilOf {α : Type} [GoT α] {xs : List α} (h : SlR m v xs) (hn : isNilV v = true) : xs = [] := by
  obtain ⟨cs, ⟨_, _, ⟨h0, _⟩ | ⟨b, off, cap, l, e, fr, rfl, _⟩⟩, _⟩ := h
  · exact List.eq_nil_of_length_eq_zero h0
  · cases hn
theorem s_eqlNil {α : Type} [GoT α] {xs : List α} {n c : Nat} {e : TypeId} (hx : ev f x = v) (hy : ev f y = .slice none n c) (hv : SlR m v xs) (hu : P.underlying t = some (.slice e)) (h : wpl ρ P N D ops rest Q (upo N f dst (.bool (isNilV v))) w) :
    wpl ρ P N D ops (⟨dst, .binOp .eql t x y t', ty, pos, af, none⟩ :: rest) Q f w := by
  obtain ⟨a, k, rfl⟩ := hv.val
  refine wpl_val (v := .bool (isNilV (.slice a xs.length k))) (w' := w) rfl (fun _ e => by cases e) ?_ h
  simp only [execOp, hx, hy]
  have hq : (Op.equal t (.slice a xs.length k) (.slice none n c)).run P w = .ok (isNilV (.slice a xs.length k)) w := by
    show (Op.equalIn (9999 + 1) _ _ _).run P w = _
    unfold Op.equalIn
    cases a <;> simp [run_underlying hu, isNilV]
  have hg : (eqGuard .eql t x y (.slice a xs.length k) (.slice none n c)).run P w = .ok () w := by simp [eqGuard]
  simp [hg, binOp, hq]

/-! ### bytes that are seen as a string's -/
theorem s_mark {i n : Nat} {cs : List Value} {e : TypeId} (hS : St m As w) (hx : ev f x = v) (hA : As[i]? = some (row 1 v cs n)) (hn : 1 ≤ n) (ht : P.underlying t = some (.slice e)) (he : P.underlying e = some (.int .u8))
    (h : ∀ w', St m (As.set i (row 1 v cs n)) w' → wpl ρ P N D ops rest Q (upo N f dst v) w') :
    wpl ρ P N D ops (⟨dst, .convert t t x, ty, pos, af, none⟩ :: rest) Q f w := by
  obtain ⟨q, ha, hg, _, back⟩ := hS.take hA
  rcases ha with ⟨_, _, h0, _⟩ | ⟨b, cap, l, e', fr, rfl, rfl, hcl, htk, hls, hnc, hcm, hfr⟩
  · omega
  · have hb := PH.agree_one.1 hg
    have hlt := (Array.getElem?_eq_some_iff.1 hb).1
    obtain ⟨lo, hi⟩ := fr
    have hw : w.freeze ⟨b, l.size, none⟩ 1 = { w with heap := w.heap.setIfInBounds b (.cells l e' (if lo == hi then (l.size, l.size + 1) else (min lo l.size, max hi (l.size + 1)))) } := by
      have hbg : w.heap[b] = .cells l e' (lo, hi) := (Array.getElem?_eq_some_iff.1 hb).2
      simp only [World.freeze]
      rw [if_neg (by omega)]
      congr 1
      apply Array.ext_getElem?
      intro k
      rw [Array.getElem?_modify, Array.getElem?_setIfInBounds]
      by_cases hk : b = k
      · subst hk; simp [hlt, hbg]
      · simp [hk]
    have hrun : (convert t t (.slice (some ⟨b, 0, none⟩) n cap)).run P w = .ok (.slice (some ⟨b, 0, none⟩) n cap) (w.freeze ⟨b, l.size, none⟩ 1) := by
      simp [convert, run_underlying ht, run_underlying he, markStringish, World.shape?, hb]
    refine wpl_val (v := .slice (some ⟨b, 0, none⟩) n cap) (w' := w.freeze ⟨b, l.size, none⟩ 1) rfl (fun _ e => by cases e) (by simp only [execOp, hx, hrun]; simp [hrun]) ?_ ?_
    · refine h _ (back _ (PH.one b (.cells l e' (if lo == hi then (l.size, l.size + 1) else (min lo l.size, max hi (l.size + 1))))) _ (.inr ⟨b, cap, l, e', _, rfl, rfl, hcl, htk, hls, hnc, hcm, ?_⟩) ?_ ?_ ?_ (by rw [hw]) (by rw [hw]) (by rw [hw]) (fun _ => .one cells_nd))
      · split
        · right; exact Nat.le_refl _
        · rename_i hne
          rcases hfr with h | h
          · exact absurd (by simpa using h) hne
          · right; show l.size ≤ min lo l.size; have : l.size ≤ lo := h; omega
      · intro k hk; left; simp only [PH.one] at hk ⊢
        by_cases e : k = b
        · rw [if_pos e]; simp
        · rw [if_neg e] at hk; exact absurd rfl hk
      · rw [PH.agree_one, hw]; simp [hlt]
      · intro k _ hk; simp only [PH.one] at hk
        split at hk
        · cases hk
        · rename_i hne; rw [hw, Array.getElem?_setIfInBounds_ne (by omega)]
    · exact Kd.set hb cells_nd (by rw [hw])

/-! ### closures -/
theorem s_callC {k : FuncId} {caps : List Value} {xs : List Operand} {ats : Array TypeId} {vs all : List Value} {R : Value → World → Prop} (hg : ev f x = .func (.func k) #[] caps.toArray)
    (hk : ∀ (args : Array Value) w, (callFunc k args).run P w = .ok (.enter k args) w) (hc : CallsR P k all.toArray w R) (hx : xs.map (ev f) = vs) (ha : vs ++ caps = all)
    (h : ∀ v w2, R v w2 → wpl ρ P N D ops rest Q (upo N f dst v) w2) :
    wpl ρ P N D ops (⟨dst, .call { callee := .value x, args := xs.toArray, argTypes := ats }, ty, pos, af, none⟩ :: rest) Q f w :=
  s_callV hg (.inl ⟨k, #[], caps.toArray, rfl, hk, by rw [show #[] ++ vs.toArray ++ caps.toArray = all.toArray from by rw [← ha]; simp]; exact hc⟩) hx h

/-- A closure, as a callback. -/
theorem CallV.clo {k : FuncId} {pre caps vs all : List Value} {R : Value → World → Prop} (hk : ∀ (args : Array Value) w, (callFunc k args).run P w = .ok (.enter k args) w) (ha : pre ++ vs ++ caps = all) (hc : CallsR P k all.toArray w R) :
    CallV P (.func (.func k) pre.toArray caps.toArray) vs w R :=
  .inl ⟨k, pre.toArray, caps.toArray, rfl, hk, by rw [show pre.toArray ++ vs.toArray ++ caps.toArray = all.toArray from by rw [← ha]; simp]; exact hc⟩

/-! ### parts that a callback owns -/
theorem St.absF {L X : List Ow} (h : St m (L ++ (X ++ As)) w) : St m (X ++ (L ++ As)) w := h.perm (by
  rw [← List.append_assoc, ← List.append_assoc]; exact List.Perm.append_right _ List.perm_append_comm)
theorem St.sw {L X Y : List Ow} (h : St m (L ++ (X ++ (Y ++ As))) w) : St m (L ++ (Y ++ (X ++ As))) w := h.perm (by
  refine List.Perm.append_left _ ?_
  rw [← List.append_assoc, ← List.append_assoc]; exact List.Perm.append_right _ List.perm_append_comm)
theorem St.assoc {X Y : List Ow} (h : St m ((X ++ Y) ++ As) w) : St m (X ++ (Y ++ As)) w := by rwa [List.append_assoc] at h
theorem St.assoc' {X Y : List Ow} (h : St m (X ++ (Y ++ As)) w) : St m ((X ++ Y) ++ As) w := by rwa [List.append_assoc]
def catT : List (List Ow) → List Ow → List Ow
  | [], R => R
  | X :: T, R => X ++ catT T R
theorem catT_app (T : List (List Ow)) (R : List Ow) : catT T R = catT T [] ++ R := by
  induction T with
  | nil => rfl
  | cons X T ih => simp only [catT]; rw [ih, List.append_assoc]
theorem St.swN {L X Y : List Ow} {T : List (List Ow)} (h : St m (L ++ catT T (X ++ (Y ++ As))) w) : St m (L ++ catT T (Y ++ (X ++ As))) w := h.perm (by
  rw [catT_app, catT_app T (Y ++ (X ++ As))]
  refine List.Perm.append_left _ (List.Perm.append_left _ ?_)
  rw [← List.append_assoc, ← List.append_assoc]; exact List.Perm.append_right _ List.perm_append_comm)
theorem ff {C : Prop} (h : false = true) : C := by cases h
theorem not_f {b : Bool} (h : b = true) : (!b) = false := by rw [h]; rfl
theorem and_fl {a b : Bool} (h : a = false) : (a && b) = false := by rw [h]; rfl
theorem and_fr {a b : Bool} (h : b = false) : (a && b) = false := by rw [h]; cases a <;> rfl
theorem tf {b : Bool} {C : Prop} (h : b = true) (k : b = false) : C := by rw [h] at k; cases k
theorem not_t {b : Bool} (h : b = false) : (!b) = true := by rw [h]; rfl
theorem and_tt {a b : Bool} (h : a = true) (k : b = true) : (a && b) = true := by rw [h, k]; rfl
theorem and_l {a b : Bool} (h : (a && b) = true) : a = true := by cases a <;> first | rfl | cases h
theorem and_r {a b : Bool} (h : (a && b) = true) : b = true := by cases b <;> first | rfl | (cases a <;> cases h)
theorem of_not_t {b : Bool} (h : (!b) = true) : b = false := by cases b <;> first | rfl | cases h
end

/-! ### a scope without jumps to labels -/
def noG (Q : Post) : Post
  | .goto _, _, _ => False
  | e, f, w => Q e f w
section
variable {ρ : Option Nat} {P : Program} {N : Nat} {D : World} {Q : Post} {f : Fr} {w : World}
theorem wpc_wrap {c : Code} (h : wpc ρ P N D c (thenF (fun f w => Q .normal f w) Q) f w) : wpc ρ P N D c Q f w :=
  wpc_mono (fun e f w q => by cases e <;> exact q) h
theorem scN (h : Q .normal f w) : noG Q .normal f w := h
theorem scE {id : Nat} (h : Q (.exit id) f w) : noG Q (.exit id) f w := h
theorem scR (h : Q .ret f w) : noG Q .ret f w := h
theorem wpc_scope {c : Code} (h : wpc ρ P N D c (noG Q) f w) : wpc ρ P N D (.scope c) Q f w := by
  intro a ha b k cs hro hb hr
  obtain ⟨e, a1, w1, ⟨f1, s1, hq⟩, harr⟩ := h a ha b (.inScope c :: k) cs hro hb hr
  have s0 : StepsIn (Machine.fenced P (FW ρ)) P (lone (b.atR a (.code (.scope c) :: k)) cs w) (lone (b.atR a (.code c :: .inScope c :: k)) cs w) :=
    .one (fenced_calm hb hr rfl) (step_lone_go (by simp [stepG, stepG.exec, Frame.atR]))
  cases e with
  | normal => exact ⟨.normal, a1, w1, ⟨f1, s1, hq⟩, StepsIn.trans (StepsIn.trans s0 harr) (.one (fenced_calm (fr := b.atR a1 (.inScope c :: k)) hb hr rfl) (step_lone_go (by simp [stepG, stepG.exec, Frame.atR])))⟩
  | exit id => exact ⟨.exit id, a1, w1, ⟨f1, s1, hq⟩, .of_steps s0 ⟨fun k' hk => harr.1 k' (by simpa [exitTo] using hk), fun h0 hk => harr.2 h0 (by simpa [exitTo] using hk)⟩⟩
  | goto l => exact hq.elim
  | ret => exact ⟨_, a1, w1, ⟨f1, s1, hq⟩, .of_steps s0 ⟨harr.1, fun h => by obtain ⟨k1, hk⟩ := harr.2 h; exact ⟨_, hk⟩⟩⟩
  | panic ch => exact ⟨_, a1, w1, ⟨f1, s1, hq⟩, .of_steps s0 harr⟩
  | outgrown => exact ⟨_, a1, w1, ⟨f1, s1, hq⟩, .of_steps s0 harr⟩
end

/-! ### ranges over functions -/
/-- What the record of a loop holds that never changes. -/
structure RecI where
  fn : FuncId
  tmps : Array Value
  params : Array Tmp
  assign : Code
  body : Code
  defers : Nat
def RecI.obj (i : RecI) (st : LoopState) (j : Option Code) : Obj := .loop { state := st, pending := j, fn := i.fn, tmps := i.tmps, params := i.params, assign := i.assign, body := i.body, defers := i.defers }
/-- The record of a loop, owned. -/
def Lp (l : Nat) (i : RecI) (st : LoopState) (j : Option Code) : Ow := blk l (i.obj st j)
theorem RecI.nd {i : RecI} {st : LoopState} {j : Option Code} : i.obj st j ≠ dfr := fun h => by cases h

def upz (N : Nat) (f : Fr) : List Nat → List Value → Fr
  | t :: ts, v :: vs => upz N (up N f t v) ts vs
  | _, _ => f

theorem sim_zip {N : Nat} (ts : List Nat) : ∀ (vs : List Value) (tmps : Array Value) (f : Fr), Sim N { tmps := tmps, defers := [] } f →
    Sim N { tmps := (ts.zip vs).foldl (fun tmps (p : Nat × Value) => tmps.setIfInBounds p.1 p.2) tmps, defers := [] } (upz N f ts vs) := by
  induction ts with
  | nil => intro vs tmps f h; simpa [upz] using h
  | cons t ts ih =>
    intro vs tmps f h
    cases vs with
    | nil => simpa [upz] using h
    | cons v vs =>
      simp only [List.zip_cons_cons, List.foldl_cons, upz]
      exact ih vs _ _ (h.put (some t) v)

/-- What a round's frame is. -/
structure RecI.Ok (i : RecI) (N : Nat) (f : Fr) (ps : List Nat) (assign body : Code) : Prop where
  sim : Sim N { tmps := i.tmps, defers := [] } f
  params : i.params = ps.toArray
  assign : i.assign = assign
  body : i.body = body

section
variable {ρ : Option Nat} {P : Program} {N : Nat} {D : World} {Q : Post} {f : Fr} {w w' : World} {v : Value} {m m' : Mem} {As Bs : List Ow}

theorem St.lp {l k : Nat} {i : RecI} {st : LoopState} {j : Option Code} (h : St m As w) (hk : As[k]? = some (Lp l i st j)) : w.heap[l]? = some (i.obj st j) := h.blk hk

theorem St.lpPut {l : Nat} {i : RecI} {st st' : LoopState} {j j' : Option Code} (h : St m (Lp l i st j :: As) w) : St m (Lp l i st' j' :: As) (w.putObj l (i.obj st' j')) :=
  St.put h (i := 0) rfl _ _ rfl rfl rfl rfl RecI.nd
theorem Kd.lp {l : Nat} {i : RecI} {st : LoopState} {j : Option Code} {o : Obj} (h : w.heap[l]? = some (i.obj st j)) : Kd w (w.putObj l o) := Kd.set h RecI.nd rfl

/-- How a round is left. -/
def roundF (l : Nat) (i : RecI) (R : Bool → World → Prop) : Post
  | .normal, _, w => ∃ M Bs, St M (Lp l i .busy none :: Bs) w ∧ ∀ w', St M (Lp l i .ready none :: Bs) w' → R true w'
  | .ret, _, w => ∃ M Bs, St M (Lp l i .busy none :: Bs) w ∧ ∀ w', St M (Lp l i .done (some .ret) :: Bs) w' → R false w'
  | .exit id, _, w => ∃ M Bs, St M (Lp l i .busy none :: Bs) w ∧ ∀ w', St M (Lp l i .done (some (.exit id)) :: Bs) w' → R false w'
  | _, _, _ => False

theorem endRound_lp {l : Nat} {i : RecI} (j : Option Code) (h : w.heap[l]? = some (i.obj .busy none)) :
    (Instr.endRound l j).run P w = .ok (.bool j.isNone) (w.putObj l (i.obj (if j.isNone then .ready else .done) j)) := by
  have := run_endRound (P := P) j h
  exact this

/-- A round of a range over a function, as a callback. -/
theorem CallV.round {l : Nat} {i : RecI} {ps : List Nat} {assign body : Code} {vs : List Value} {R : Value → World → Prop} (hi : i.Ok N f ps assign body) (hl : vs.length = ps.length) (S : St m (Lp l i .ready none :: As) w)
    (h : wpc (some l) P N w assign (thenF (fun f1 w1 => ∃ M Bs, St M (Lp l i .ready none :: Bs) w1 ∧ ∀ w2, St M (Lp l i .busy none :: Bs) w2 → wpc (some l) P N w body (roundF l i fun b w3 => R (.bool b) w3) f1 w2) (fun _ _ _ => False)) (upz N f ps vs) w) :
    CallV P (.func (.yield l) #[] #[]) vs w R := by
  obtain ⟨fn, tmps, params, as', bo', dd⟩ := i
  obtain ⟨sim, e1, e2, e3⟩ := hi
  simp only at sim e1 e2 e3
  subst e1 e2 e3
  have hw := S.lp (k := 0) rfl
  have hy := run_yield (P := P) (args := vs.toArray) hw (by simp [hl])
  refine .inr ⟨l, _, _, _, _, rfl, hy, ?_⟩
  refine roundIn_of_wpIn trivial ?_
  have hz : (ps.toArray.zip vs.toArray).foldl (fun tmps (t, a) => tmps.setIfInBounds t a) tmps = (ps.zip vs).foldl (fun tmps (p : Nat × Value) => tmps.setIfInBounds p.1 p.2) tmps := by
    simp
  simp only [hz]
  refine wpIn_mono (h _ ⟨sim_zip ps vs tmps f sim, Okd.nil rfl⟩) ?_
  rintro e a1 w1 ⟨f1, ⟨s1, ok1⟩, q⟩
  cases e with
  | normal =>
    obtain ⟨M, Bs, S1, hb⟩ := q
    have h1 := S1.lp (k := 0) rfl
    refine ⟨_, run_beginRound h1 rfl, ?_⟩
    have S2 : St M (Lp l _ .busy none :: Bs) _ := S1.lpPut
    have k1 : Kd w1 _ := Kd.lp h1 (o := RecI.obj ⟨fn, tmps, ps.toArray, as', bo', dd⟩ .busy none)
    refine wpIn_mono (hb _ S2 a1 ⟨s1, ok1.up k1⟩) ?_
    · rintro e a3 w3 ⟨f3, ⟨s3, ok3⟩, q⟩
      cases e with
      | normal =>
        obtain ⟨M3, Bs3, S3, hR⟩ := q
        have h3 := S3.lp (k := 0) rfl
        exact ⟨_, _, endRound_lp none h3, _, rfl, ok3.keep.tr (Kd.lp h3), hR _ S3.lpPut⟩
      | ret =>
        obtain ⟨M3, Bs3, S3, hR⟩ := q
        have h3 := S3.lp (k := 0) rfl
        exact ⟨_, _, endRound_lp (some .ret) h3, _, rfl, ok3.keep.tr (Kd.lp h3), hR _ S3.lpPut⟩
      | exit id =>
        obtain ⟨M3, Bs3, S3, hR⟩ := q
        have h3 := S3.lp (k := 0) rfl
        exact ⟨_, _, endRound_lp (some (.exit id)) h3, _, rfl, ok3.keep.tr (Kd.lp h3), hR _ S3.lpPut⟩
      | goto l => exact q.elim
      | panic ch => exact q.elim
      | outgrown => exact q.elim
  | exit id => exact q.elim
  | goto l => exact q.elim
  | ret => exact q.elim
  | panic ch => exact q.elim
  | outgrown => exact q.elim

/-- What is left when the function that was ranged over has ended. -/
def rangeF (ρ : Option Nat) (P : Program) (N : Nat) (D : World) (Q : Post) (f : Fr) (l : Nat) (i : RecI) (m : Mem) : Value → World → Prop := fun _ w2 =>
  ∃ M st j Bs, m ≤ M ∧ st ≠ .busy ∧ St M (Lp l i st j :: Bs) w2 ∧ ∀ M' w3, M ≤ M' → St M' Bs w3 → (match j with | none => Q .normal f w3 | some c => wpc ρ P N D c Q f w3)

theorem range_end {l : Nat} {i : RecI} {a : Act} {Q : Post} {f : Fr} {D w0 w2 : World} {v : Value} (hs : Sim N a f) (ok : Okd D a w0) (k : Kd w0 w2) (h : rangeF ρ P N D Q f l i m v w2) : rangePost (FW ρ) 0 P l (lift N D Q) a (.returned v) w2 := by
  obtain ⟨M, st, j, Bs, _, hb, S, hq⟩ := h
  have h2 := S.lp (k := 0) rfl
  obtain ⟨M', le, S'⟩ := (S.lpPut (st' := .exhausted) (j' := j)).drop 0
  have k2 := k.tr (Kd.lp h2 (o := i.obj .exhausted j))
  have hq' := hq M' _ le S'
  refine ⟨j, _, run_endLoop (P := P) h2 hb, ?_⟩
  cases j with
  | none => exact ⟨f, ⟨hs, ok.up k2⟩, hq'⟩
  | some c => exact hq' a ⟨hs, ok.up k2⟩

/-- A range over a function, outside of rounds. -/
theorem wpc_rangeFunc {g : Operand} {ps : List Nat} {assign body : Code} {gf : FuncId} {caps : List Value} (hS : St m As w) (hg : ev f g = .func (.func gf) #[] caps.toArray) (eg : ∀ (args : Array Value) w, (callFunc gf args).run P w = .ok (.enter gf args) w)
    (h : ∀ l i w1, RecI.Ok i N f ps assign body → St m (Lp l i .ready none :: As) w1 → CallsR P gf (.func (.yield l) #[] #[] :: caps).toArray w1 (rangeF none P N D Q f l i m)) :
    wpc none P N D (.rangeFunc g ps.toArray assign body) Q f w := fun a ha => by
  refine wpIn_rangeFunc ?_
  intro fn hfn
  have S1 := hS.push (.loop { state := .ready, pending := none, fn, tmps := a.tmps, params := ps.toArray, assign, body, defers := w.heap.size }) (fun h => by cases h)
  have hS1 : St m (Lp (w.heap.size + 1) ⟨fn, a.tmps, ps.toArray, assign, body, w.heap.size⟩ .ready none :: As) ((w.alloc (.deferred (some []))).alloc (.loop { state := .ready, pending := none, fn, tmps := a.tmps, params := ps.toArray, assign, body, defers := w.heap.size })) := by
    have hS0 : St m As (w.alloc (.deferred (some []))) := by
      obtain ⟨x, s, d, g, g', n⟩ := hS.own
      have keep : ∀ (p : PH), p.agree w → p.agree (w.alloc (.deferred (some []))) := fun p gp k y e => by
        show (w.heap.push _)[k]? = _
        rw [Array.getElem?_push, if_neg (by have := PH.lt_of_agree gp e; omega)]; exact gp k y e
      exact ⟨hS.os, hS.tape, hS.output, x, s, d, keep _ g, keep _ g', n⟩
    have := hS0.push (.loop { state := .ready, pending := none, fn, tmps := a.tmps, params := ps.toArray, assign, body, defers := w.heap.size }) (fun h => by cases h)
    rw [World.size_alloc] at this
    exact this
  have hc := h _ ⟨fn, a.tmps, ps.toArray, assign, body, w.heap.size⟩ _ ⟨⟨ha.1.size, ha.1.at_⟩, rfl, rfl, rfl⟩ hS1
  have k1 : Kd w ((w.alloc (.deferred (some []))).alloc (.loop { state := .ready, pending := none, fn, tmps := a.tmps, params := ps.toArray, assign, body, defers := w.heap.size })) := (Kd.push _ _).tr (Kd.push _ _)
  refine ⟨w.heap.size + 1, [mark w.heap.size], ((w.alloc (.deferred (some []))).alloc (.loop { state := .ready, pending := none, fn, tmps := a.tmps, params := ps.toArray, assign, body, defers := w.heap.size })), { target := .fn (.func gf) caps.toArray, args := #[.func (.yield (w.heap.size + 1)) #[] #[]] }, ((w.alloc (.deferred (some []))).alloc (.loop { state := .ready, pending := none, fn, tmps := a.tmps, params := ps.toArray, assign, body, defers := w.heap.size })), gf,
    #[.func (.yield (w.heap.size + 1)) #[] #[]] ++ caps.toArray, ((w.alloc (.deferred (some []))).alloc (.loop { state := .ready, pending := none, fn, tmps := a.tmps, params := ps.toArray, assign, body, defers := w.heap.size })), run_enterLoop_outer _ _ _ _ _, ?_, fun _ _ => trivial, ?_, (fun h => by cases h), ?_⟩
  · simp only [resolve, ha.1.eval, rangeCall, hg]
    simp [go_sem]
    rfl
  · simp [invoke, go_sem, eg]
  · have e : #[Value.func (.yield (w.heap.size + 1)) #[] #[]] ++ caps.toArray = (Value.func (.yield (w.heap.size + 1)) #[] #[] :: caps).toArray := by simp
    rw [e]
    refine CallsIn.mono (calls_FW hc) ?_
    rintro _ w2 ⟨v, rfl, k, hR⟩
    obtain ⟨E, hE, hn, hl⟩ := ha.2.marks
    refine range_end (w0 := (w.alloc (.deferred (some []))).alloc (.loop { state := .ready, pending := none, fn, tmps := a.tmps, params := ps.toArray, assign, body, defers := w.heap.size })) (a := { tmps := a.tmps, defers := [mark w.heap.size] ++ a.defers }) ⟨ha.1.size, ha.1.at_⟩ ⟨ha.2.keep.tr k1, w.heap.size :: E, by simp [hE], ?_, ?_⟩ k hR
    · refine List.nodup_cons.2 ⟨fun hm => ?_, hn⟩
      have := (Array.getElem?_eq_some_iff.1 (hl _ hm).2).1; omega
    · intro b hb
      rcases List.mem_cons.1 hb with rfl | hb
      · refine ⟨ha.2.keep.size, ?_⟩
        have := (Kd.push (w.alloc (.deferred (some []))) (.loop { state := .ready, pending := none, fn, tmps := a.tmps, params := ps.toArray, assign, body, defers := w.heap.size })).same w.heap.size (World.alloc_heap_new w _)
        exact this
      · exact ⟨(hl b hb).1, k1.same b (hl b hb).2⟩

/-- A range over a function within a round of another. -/
theorem wpc_rangeFuncN {l0 n0 : Nat} {i0 : RecI} {st0 : LoopState} {j0 : Option Code} {g : Operand} {ps : List Nat} {assign body : Code} {gf : FuncId} {caps : List Value} (hS : St m As w) (hl0 : As[n0]? = some (Lp l0 i0 st0 j0)) (hg : ev f g = .func (.func gf) #[] caps.toArray) (eg : ∀ (args : Array Value) w, (callFunc gf args).run P w = .ok (.enter gf args) w)
    (h : ∀ l i w1, RecI.Ok i N f ps assign body → St m (Lp l i .ready none :: As) w1 → CallsR P gf (.func (.yield l) #[] #[] :: caps).toArray w1 (rangeF (some l0) P N D Q f l i m)) :
    wpc (some l0) P N D (.rangeFunc g ps.toArray assign body) Q f w := fun a ha => by
  refine wpIn_rangeFunc ?_
  intro fn hfn
  have h0 := hS.lp hl0
  have hS1 : St m (Lp w.heap.size ⟨fn, a.tmps, ps.toArray, assign, body, i0.defers⟩ .ready none :: As) (w.alloc (.loop { state := .ready, pending := none, fn, tmps := a.tmps, params := ps.toArray, assign, body, defers := i0.defers })) :=
    hS.push (.loop { state := .ready, pending := none, fn, tmps := a.tmps, params := ps.toArray, assign, body, defers := i0.defers }) (fun h => by cases h)
  have hc := h _ ⟨fn, a.tmps, ps.toArray, assign, body, i0.defers⟩ _ ⟨⟨ha.1.size, ha.1.at_⟩, rfl, rfl, rfl⟩ hS1
  refine ⟨w.heap.size, [], (w.alloc (.loop { state := .ready, pending := none, fn, tmps := a.tmps, params := ps.toArray, assign, body, defers := i0.defers })), { target := .fn (.func gf) caps.toArray, args := #[.func (.yield w.heap.size) #[] #[]] }, (w.alloc (.loop { state := .ready, pending := none, fn, tmps := a.tmps, params := ps.toArray, assign, body, defers := i0.defers })), gf,
    #[.func (.yield w.heap.size) #[] #[]] ++ caps.toArray, (w.alloc (.loop { state := .ready, pending := none, fn, tmps := a.tmps, params := ps.toArray, assign, body, defers := i0.defers })), run_enterLoop_inner h0 _ _ _ _ _, ?_, fun _ _ => trivial, ?_, (fun h => by cases h), ?_⟩
  · simp only [resolve, ha.1.eval, rangeCall, hg]
    simp [go_sem]
    rfl
  · simp [invoke, go_sem, eg]
  · have e : #[Value.func (.yield w.heap.size) #[] #[]] ++ caps.toArray = (Value.func (.yield w.heap.size) #[] #[] :: caps).toArray := by simp
    rw [e]
    refine CallsIn.mono (calls_FW hc) ?_
    rintro _ w2 ⟨v, rfl, k, hR⟩
    exact range_end (a := { tmps := a.tmps, defers := [] ++ a.defers }) ⟨ha.1.size, ha.1.at_⟩ (ha.2.up (Kd.push _ _)) k hR
end

/-! ### operations of a drawn region -/
abbrev fv (u : Value) : Mem → Value → Prop := fun _ v => v = u
abbrev fc (c : Bool) (A : Mem → Value → Prop) : Mem → Value → Prop := fun M v => (c = true → A M v) ∧ (c = false → v = undef)
theorem mv {u : Value} : ∀ m M v, m ≤ M → fv u m v → fv u M v := fun _ _ _ _ h => h
theorem mc {c : Bool} {A : Mem → Value → Prop} (h : ∀ m M v, m ≤ M → A m v → A M v) : ∀ m M v, m ≤ M → fc c A m v → fc c A M v := fun m M v l k => ⟨fun q => h m M v l (k.1 q), k.2⟩
def rg (a : Nat) : Nat → List Nat
  | 0 => []
  | n + 1 => a :: rg (a + 1) n
theorem mt {a b c : Mem} (h : a ≤ b) (k : b ≤ c) : a ≤ c := Mem.tr h k
theorem cb {a b : Bool} (h : a = b) : Value.bool a = Value.bool b := congrArg Value.bool h
theorem nb {a b : Nat} (h : Nat.ble a b = true) : a ≤ b := Nat.le_of_ble_eq_true h
section
variable {ρ : Option Nat} {P : Program} {N : Nat} {D : World} {Q Q' : Post} {f : Fr} {w : World}
theorem ws {id : Nat} {l : List Oper} {c : Code} (h : wpl ρ P N D l.toArray l (thenF (fun f w => wpc ρ P N D c Q f w) Q) f w) : wpc ρ P N D (.seq (.region id l.toArray false) c) Q f w := wpc_seq (wpc_region h)
theorem nx {id : Nat} {ops : Array Oper} {l : List Oper} {c : Code} (h : wpl ρ P N D l.toArray l (thenF (fun f w => wpc ρ P N D c Q f w) Q) f w) : wpl ρ P N D ops [] (thenF (fun f w => wpc ρ P N D (.seq (.region id l.toArray false) c) Q f w) Q') f w := wpl_nil (nrm (ws h))
end
theorem not_tf {b : Bool} (h : (!b) = true) : b = false := by cases b <;> first | rfl | cases h
section
variable {ρ : Option Nat} {P : Program} {N : Nat} {D : World} {Q : Post}
variable {Ψ : (Nat → Bool) → Fr → Mem → World → Prop} {Fs : FactL} {ds : List Nat} {f0 : Fr} {m : Mem} {l : List Oper} {o : Oper} {i d : Nat} {φ A : Mem → Value → Prop} {v : Value} {c : Bool}
abbrev FlG (ρ : Option Nat) (P : Program) (N : Nat) (D : World) (Q : Post) (Ψ : (Nat → Bool) → Fr → Mem → World → Prop) (Fs : FactL) (ds : List Nat) (f0 : Fr) (m : Mem) (l : List Oper) (i : Nat) (o : Oper) : Prop :=
  ∀ L f' w, L i = false → depsOk l.toArray L i = true → (∀ k, L k = true → depsOk l.toArray L k = true) → flowI Ψ Fs ds f0 m L f' w → wpl ρ P N D l.toArray [o] (thenF (flowI Ψ Fs ds f0 m (setL L i)) Q) f' w
/-- What is known of the slots ahead of operation i: of what it comes behind, and of what that comes behind. -/
abbrev FlF (Fs : FactL) (l : List Oper) (i : Nat) (R : Fr → Prop) : Prop :=
  ∀ {M f}, (∀ j, isDep l.toArray i j = true → factOf Fs j M f) → (∀ k j, isDep l.toArray i k = true → isDep l.toArray k j = true → factOf Fs j M f) → R f
abbrev FlS (ρ : Option Nat) (P : Program) (N : Nat) (D : World) (Ψ : (Nat → Bool) → Fr → Mem → World → Prop) (ds : List Nat) (f0 : Fr) (m : Mem) (l : List Oper) (d : Nat) (o : Oper) (Lr : List (Nat × Value)) (v : Value) : Prop :=
  ∀ {L M u w} {Q : Post}, m ≤ M → Ψ L (ups N (hv f0 ds u) Lr) M w → wpl ρ P N D l.toArray [] Q (upo N (ups N (hv f0 ds u) Lr) (some d) v) w → wpl ρ P N D l.toArray [o] Q (ups N (hv f0 ds u) Lr) w
theorem FlF.at {R : Fr → Prop} {L : Nat → Bool} {f : Fr} {M : Mem} (h : FlF Fs l i R) (hd : depsOk l.toArray L i = true) (hc : ∀ k, L k = true → depsOk l.toArray L k = true) (K : ∀ j, L j = true → factOf Fs j M f) : R f :=
  h (fun j hj => K j (dep hd hj)) fun k j hk hj => K j (dep (hc k (dep hd hk)) hj)
theorem flp (HM : MonoAll Fs) (hi : Fs[i]? = some (d, φ)) (Lr : List (Nat × Value)) (hf : FlF Fs l i fun f => AllAt f Lr)
    (hs : FlS ρ P N D Ψ ds f0 m l d o Lr v) (hφ : ∀ {M}, φ M v) (hn : nodupB (Fs.map (·.1)) = true := by exact rfl) (hd : Nat.blt d N = true := by exact rfl) (hm : memb d ds = true := by exact rfl)
    (hψ : ∀ {v L f M w}, Ψ L f M w → Ψ (setL L i) (upo N f (some d) v) M w := by exact fun h => h) : FlG ρ P N D Q Ψ Fs ds f0 m l i o := by
  rintro L f' w hL hd' hc ⟨M, l1, S, K, hO⟩
  obtain ⟨u, rfl⟩ := fr_of (N := N) hO (hf.at hd' hc K)
  exact hs l1 S (wpn ⟨M, l1, hψ S, facts_step HM hn K (Mem.rfl' M) hi hd hφ, Out.uq hO hm⟩)
theorem flc (HM : MonoAll Fs) (hi : Fs[i]? = some (d, φ)) (c : Bool) (L1 L0 : List (Nat × Value)) (hf1 : FlF Fs l i fun f => c = true → AllAt f L1) (hf0 : FlF Fs l i fun f => c = false → AllAt f L0) {v0 : Value}
    (hs1 : c = true → FlS ρ P N D Ψ ds f0 m l d o L1 v) (hs0 : c = false → FlS ρ P N D Ψ ds f0 m l d o L0 v0) (hφ1 : c = true → ∀ {M}, φ M v) (hφ0 : c = false → ∀ {M}, φ M v0)
    (hn : nodupB (Fs.map (·.1)) = true := by exact rfl) (hd : Nat.blt d N = true := by exact rfl) (hm : memb d ds = true := by exact rfl)
    (hψ : ∀ {v L f M w}, Ψ L f M w → Ψ (setL L i) (upo N f (some d) v) M w := by exact fun h => h) : FlG ρ P N D Q Ψ Fs ds f0 m l i o := by
  rintro L f' w hL hd' hc ⟨M, l1, S, K, hO⟩
  cases hb : c with
  | true =>
    obtain ⟨u, rfl⟩ := fr_of (N := N) hO (FlF.at hf1 hd' hc K hb)
    exact hs1 hb l1 S (wpn ⟨M, l1, hψ S, facts_step HM hn K (Mem.rfl' M) hi hd (hφ1 hb), Out.uq hO hm⟩)
  | false =>
    obtain ⟨u, rfl⟩ := fr_of (N := N) hO (FlF.at hf0 hd' hc K hb)
    exact hs0 hb l1 S (wpn ⟨M, l1, hψ S, facts_step HM hn K (Mem.rfl' M) hi hd (hφ0 hb), Out.uq hO hm⟩)
section
variable {j g : Nat} {ty : TypeId} {pos : String} {af : Array Edge} {op : Op} {C e : Bool}
/-- An operation under a condition: what is left is that it is done. -/
theorem flb (HM : MonoAll Fs) (hi : Fs[i]? = some (d, fc c A)) (hj : (l[j]?).bind (·.dst) = some g) (hg : FlF Fs l i fun f => f g = .bool c)
    (h : c = true → FlG ρ P N D Q Ψ Fs ds f0 m l i ⟨some d, op, ty, pos, af, none⟩) (hn : nodupB (Fs.map (·.1)) = true := by exact rfl) (hd : Nat.blt d N = true := by exact rfl) (hm : memb d ds = true := by exact rfl)
    (hψ : c = false → ∀ {v L f M w}, Ψ L f M w → Ψ (setL L i) (upo N f (some d) v) M w := by exact fun _ => fun h => h) : FlG ρ P N D Q Ψ Fs ds f0 m l i ⟨some d, op, ty, pos, af, some (j, true)⟩ := by
  rintro L f' w hL hd' hc I
  have I' := I
  obtain ⟨M, l1, S, K, hO⟩ := I'
  have hgf := hg.at hd' hc K
  have hj' : (l.toArray[j]?).bind (·.dst) = some g := by simpa using hj
  cases hb : c with
  | true => rw [hb] at hgf; exact wpl_yes rfl hj' hgf (h hb L f' w hL hd' hc I)
  | false =>
    rw [hb] at hgf
    exact wpl_no rfl hj' hgf (wpn ⟨M, l1, hψ hb S, facts_step HM hn K (Mem.rfl' M) hi hd ⟨fun hx => tf hx hb, fun _ => rfl⟩, Out.uq hO hm⟩)
theorem flbn (HM : MonoAll Fs) (hi : Fs[i]? = some (d, fc (!c) A)) (hj : (l[j]?).bind (·.dst) = some g) (hg : FlF Fs l i fun f => f g = .bool c)
    (h : c = false → FlG ρ P N D Q Ψ Fs ds f0 m l i ⟨some d, op, ty, pos, af, none⟩) (hn : nodupB (Fs.map (·.1)) = true := by exact rfl) (hd : Nat.blt d N = true := by exact rfl) (hm : memb d ds = true := by exact rfl)
    (hψ : (!c) = false → ∀ {v L f M w}, Ψ L f M w → Ψ (setL L i) (upo N f (some d) v) M w := by exact fun _ => fun h => h) : FlG ρ P N D Q Ψ Fs ds f0 m l i ⟨some d, op, ty, pos, af, some (j, false)⟩ := by
  rintro L f' w hL hd' hc I
  have I' := I
  obtain ⟨M, l1, S, K, hO⟩ := I'
  have hgf := hg.at hd' hc K
  have hj' : (l.toArray[j]?).bind (·.dst) = some g := by simpa using hj
  cases hb : c with
  | false => rw [hb] at hgf; exact wpl_yes rfl hj' hgf (h hb L f' w hL hd' hc I)
  | true =>
    rw [hb] at hgf
    exact wpl_no rfl hj' hgf (wpn ⟨M, l1, hψ (by rw [hb]; rfl) S, facts_step HM hn K (Mem.rfl' M) hi hd ⟨fun hx => tf hx (by rw [hb]; rfl), fun _ => rfl⟩, Out.uq hO hm⟩)
/-- The same, where the condition itself is made under one. -/
theorem flbC (HM : MonoAll Fs) (hi : Fs[i]? = some (d, fc (C && e) A)) (hj : (l[j]?).bind (·.dst) = some g) (hg : FlF Fs l i fun f => (C = true → f g = .bool e) ∧ (C = false → f g = undef))
    (h : C = true → e = true → FlG ρ P N D Q Ψ Fs ds f0 m l i ⟨some d, op, ty, pos, af, none⟩) (hn : nodupB (Fs.map (·.1)) = true := by exact rfl) (hd : Nat.blt d N = true := by exact rfl) (hm : memb d ds = true := by exact rfl)
    (hψ : (C && e) = false → ∀ {v L f M w}, Ψ L f M w → Ψ (setL L i) (upo N f (some d) v) M w := by exact fun _ => fun h => h) : FlG ρ P N D Q Ψ Fs ds f0 m l i ⟨some d, op, ty, pos, af, some (j, true)⟩ := by
  rintro L f' w hL hd' hc I
  have I' := I
  obtain ⟨M, l1, S, K, hO⟩ := I'
  obtain ⟨g1, g0⟩ := hg.at hd' hc K
  have hj' : (l.toArray[j]?).bind (·.dst) = some g := by simpa using hj
  have no : (C && e) = false → flowI Ψ Fs ds f0 m (setL L i) (upo N f' (some d) undef) w := fun hb => ⟨M, l1, hψ hb S, facts_step HM hn K (Mem.rfl' M) hi hd ⟨fun hx => tf hx hb, fun _ => rfl⟩, Out.uq hO hm⟩
  cases hC : C with
  | false => exact wpl_no' rfl hj' (g0 hC) (wpn (no (and_fl hC)))
  | true =>
    have hgf := g1 hC
    cases hb : e with
    | true => rw [hb] at hgf; exact wpl_yes rfl hj' hgf (h hC hb L f' w hL hd' hc I)
    | false => rw [hb] at hgf; exact wpl_no rfl hj' hgf (wpn (no (and_fr hb)))
theorem flbCn (HM : MonoAll Fs) (hi : Fs[i]? = some (d, fc (C && !e) A)) (hj : (l[j]?).bind (·.dst) = some g) (hg : FlF Fs l i fun f => (C = true → f g = .bool e) ∧ (C = false → f g = undef))
    (h : C = true → e = false → FlG ρ P N D Q Ψ Fs ds f0 m l i ⟨some d, op, ty, pos, af, none⟩) (hn : nodupB (Fs.map (·.1)) = true := by exact rfl) (hd : Nat.blt d N = true := by exact rfl) (hm : memb d ds = true := by exact rfl)
    (hψ : (C && !e) = false → ∀ {v L f M w}, Ψ L f M w → Ψ (setL L i) (upo N f (some d) v) M w := by exact fun _ => fun h => h) : FlG ρ P N D Q Ψ Fs ds f0 m l i ⟨some d, op, ty, pos, af, some (j, false)⟩ := by
  rintro L f' w hL hd' hc I
  have I' := I
  obtain ⟨M, l1, S, K, hO⟩ := I'
  obtain ⟨g1, g0⟩ := hg.at hd' hc K
  have hj' : (l.toArray[j]?).bind (·.dst) = some g := by simpa using hj
  have no : (C && !e) = false → flowI Ψ Fs ds f0 m (setL L i) (upo N f' (some d) undef) w := fun hb => ⟨M, l1, hψ hb S, facts_step HM hn K (Mem.rfl' M) hi hd ⟨fun hx => tf hx hb, fun _ => rfl⟩, Out.uq hO hm⟩
  cases hC : C with
  | false => exact wpl_no' rfl hj' (g0 hC) (wpn (no (and_fl hC)))
  | true =>
    have hgf := g1 hC
    cases hb : e with
    | false => rw [hb] at hgf; exact wpl_yes rfl hj' hgf (h hC hb L f' w hL hd' hc I)
    | true => rw [hb] at hgf; exact wpl_no rfl hj' hgf (wpn (no (and_fr (not_f hb))))
theorem flg (HM : MonoAll Fs) (hi : Fs[i]? = some (d, fc c A)) (hj : (l[j]?).bind (·.dst) = some g) (hg : FlF Fs l i fun f => f g = .bool c)
    (Lr : List (Nat × Value)) (hf : FlF Fs l i fun f => c = true → AllAt f Lr) (hs : c = true → FlS ρ P N D Ψ ds f0 m l d ⟨some d, op, ty, pos, af, none⟩ Lr v) (hφ : c = true → ∀ {M}, A M v)
    (hn : nodupB (Fs.map (·.1)) = true := by exact rfl) (hd : Nat.blt d N = true := by exact rfl) (hm : memb d ds = true := by exact rfl)
    (hψ : ∀ {v L f M w}, Ψ L f M w → Ψ (setL L i) (upo N f (some d) v) M w := by exact fun h => h) : FlG ρ P N D Q Ψ Fs ds f0 m l i ⟨some d, op, ty, pos, af, some (j, true)⟩ :=
  flb HM hi hj hg (fun hb => by
    rintro L f' w hL hd' hc ⟨M, l1, S, K, hO⟩
    obtain ⟨u, rfl⟩ := fr_of (N := N) hO (FlF.at hf hd' hc K hb)
    exact hs hb l1 S (wpn ⟨M, l1, hψ S, facts_step HM hn K (Mem.rfl' M) hi hd ⟨fun _ => hφ hb, fun hx => tf hb hx⟩, Out.uq hO hm⟩)) hn hd hm (fun _ => hψ)
theorem flgn (HM : MonoAll Fs) (hi : Fs[i]? = some (d, fc (!c) A)) (hj : (l[j]?).bind (·.dst) = some g) (hg : FlF Fs l i fun f => f g = .bool c)
    (Lr : List (Nat × Value)) (hf : FlF Fs l i fun f => c = false → AllAt f Lr) (hs : c = false → FlS ρ P N D Ψ ds f0 m l d ⟨some d, op, ty, pos, af, none⟩ Lr v) (hφ : c = false → ∀ {M}, A M v)
    (hn : nodupB (Fs.map (·.1)) = true := by exact rfl) (hd : Nat.blt d N = true := by exact rfl) (hm : memb d ds = true := by exact rfl)
    (hψ : ∀ {v L f M w}, Ψ L f M w → Ψ (setL L i) (upo N f (some d) v) M w := by exact fun h => h) : FlG ρ P N D Q Ψ Fs ds f0 m l i ⟨some d, op, ty, pos, af, some (j, false)⟩ :=
  flbn HM hi hj hg (fun hb => by
    rintro L f' w hL hd' hc ⟨M, l1, S, K, hO⟩
    obtain ⟨u, rfl⟩ := fr_of (N := N) hO (FlF.at hf hd' hc K hb)
    exact hs hb l1 S (wpn ⟨M, l1, hψ S, facts_step HM hn K (Mem.rfl' M) hi hd ⟨fun _ => hφ hb, fun hx => tf (not_t hb) hx⟩, Out.uq hO hm⟩)) hn hd hm (fun _ => hψ)
theorem flgC (HM : MonoAll Fs) (hi : Fs[i]? = some (d, fc (C && e) A)) (hj : (l[j]?).bind (·.dst) = some g) (hg : FlF Fs l i fun f => (C = true → f g = .bool e) ∧ (C = false → f g = undef))
    (Lr : List (Nat × Value)) (hf : FlF Fs l i fun f => C = true → e = true → AllAt f Lr) (hs : C = true → e = true → FlS ρ P N D Ψ ds f0 m l d ⟨some d, op, ty, pos, af, none⟩ Lr v) (hφ : C = true → e = true → ∀ {M}, A M v)
    (hn : nodupB (Fs.map (·.1)) = true := by exact rfl) (hd : Nat.blt d N = true := by exact rfl) (hm : memb d ds = true := by exact rfl)
    (hψ : ∀ {v L f M w}, Ψ L f M w → Ψ (setL L i) (upo N f (some d) v) M w := by exact fun h => h) : FlG ρ P N D Q Ψ Fs ds f0 m l i ⟨some d, op, ty, pos, af, some (j, true)⟩ :=
  flbC HM hi hj hg (fun hC hb => by
    rintro L f' w hL hd' hc ⟨M, l1, S, K, hO⟩
    obtain ⟨u, rfl⟩ := fr_of (N := N) hO (FlF.at hf hd' hc K hC hb)
    exact hs hC hb l1 S (wpn ⟨M, l1, hψ S, facts_step HM hn K (Mem.rfl' M) hi hd ⟨fun _ => hφ hC hb, fun hx => tf (and_tt hC hb) hx⟩, Out.uq hO hm⟩)) hn hd hm (fun _ => hψ)
theorem flgCn (HM : MonoAll Fs) (hi : Fs[i]? = some (d, fc (C && !e) A)) (hj : (l[j]?).bind (·.dst) = some g) (hg : FlF Fs l i fun f => (C = true → f g = .bool e) ∧ (C = false → f g = undef))
    (Lr : List (Nat × Value)) (hf : FlF Fs l i fun f => C = true → e = false → AllAt f Lr) (hs : C = true → e = false → FlS ρ P N D Ψ ds f0 m l d ⟨some d, op, ty, pos, af, none⟩ Lr v) (hφ : C = true → e = false → ∀ {M}, A M v)
    (hn : nodupB (Fs.map (·.1)) = true := by exact rfl) (hd : Nat.blt d N = true := by exact rfl) (hm : memb d ds = true := by exact rfl)
    (hψ : ∀ {v L f M w}, Ψ L f M w → Ψ (setL L i) (upo N f (some d) v) M w := by exact fun h => h) : FlG ρ P N D Q Ψ Fs ds f0 m l i ⟨some d, op, ty, pos, af, some (j, false)⟩ :=
  flbCn HM hi hj hg (fun hC hb => by
    rintro L f' w hL hd' hc ⟨M, l1, S, K, hO⟩
    obtain ⟨u, rfl⟩ := fr_of (N := N) hO (FlF.at hf hd' hc K hC hb)
    exact hs hC hb l1 S (wpn ⟨M, l1, hψ S, facts_step HM hn K (Mem.rfl' M) hi hd ⟨fun _ => hφ hC hb, fun hx => tf (and_tt hC (not_t hb)) hx⟩, Out.uq hO hm⟩)) hn hd hm (fun _ => hψ)
end
end
end Go.Gw
