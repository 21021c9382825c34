/- Several texts, one behind the other. Conditions: none. -/
import Derived.Test.YtgnklegamndglaaGreatZa
import Derived.ProofKit
import Derived.OpenShut
import Derived.WideKeyArgs
import Derived.ChangeArms
import Derived.ChangeSame
import Derived.RowKit
import Derived.Lib.LaidTab
import Derived.Laws.Externs
import Derived.Laws.BytesString
import Derived.MapKept
import Derived.Laws.MakeOwn
import Derived.Laws.StructEq
set_option linter.unusedSimpArgs false
set_option linter.unusedVariables false
set_option maxHeartbeats 2000000
section
namespace Go.Gw
open Go
section
variable {ρ : Option Nat} {P : Program} {N : Nat} {D : World} {ops : Array Oper} {rest : List Oper} {Q : Post} {f : Fr} {w w' : World} {v : Value}
variable {dst : Option Nat} {ty t t' t2 : TypeId} {pos : String} {af : Array Edge} {x y c a b : Operand} {m m' : Mem} {As : List Ow}
theorem s_addB {m n : UInt8} (hx : ev f x = vB m) (hy : ev f y = vB n) (h : wpl ρ P N D ops rest Q (upo N f dst (vB (m + n))) w) :
    wpl ρ P N D ops (⟨dst, .binOp .add t x y t', ty, pos, af, none⟩ :: rest) Q f w :=
  s_bin hx hy (by simp only [binOp, Op.intArith, ne_eq, not_true_eq_false, if_false, Sem.run_pure, wrap_u8, vB, UInt8.toNat_add]; rfl) h
theorem s_mulB {m n : UInt8} (hx : ev f x = vB m) (hy : ev f y = vB n) (h : wpl ρ P N D ops rest Q (upo N f dst (vB (m * n))) w) :
    wpl ρ P N D ops (⟨dst, .binOp .mul t x y t', ty, pos, af, none⟩ :: rest) Q f w :=
  s_bin hx hy (by simp only [binOp, Op.intArith, ne_eq, not_true_eq_false, if_false, Sem.run_pure, wrap_u8, vB, UInt8.toNat_mul]; rfl) h
theorem s_subB {m n : UInt8} (hx : ev f x = vB m) (hy : ev f y = vB n) (h : wpl ρ P N D ops rest Q (upo N f dst (vB (m - n))) w) :
    wpl ρ P N D ops (⟨dst, .binOp .sub t x y t', ty, pos, af, none⟩ :: rest) Q f w :=
  s_bin hx hy (by
    simp only [binOp, Op.intArith, ne_eq, not_true_eq_false, if_false, Sem.run_pure, wrap_u8, vB, UInt8.toNat_sub]
    have := m.toNat_lt; have := n.toNat_lt
    congr 2; omega) h
theorem s_addW {m n : UInt32} (hx : ev f x = vW m) (hy : ev f y = vW n) (h : wpl ρ P N D ops rest Q (upo N f dst (vW (m + n))) w) :
    wpl ρ P N D ops (⟨dst, .binOp .add t x y t', ty, pos, af, none⟩ :: rest) Q f w :=
  s_bin hx hy (by simp only [binOp, Op.intArith, ne_eq, not_true_eq_false, if_false, Sem.run_pure, wrap_u32, vW, UInt32.toNat_add]; rfl) h
theorem s_boxS {e : TypeId} {u : Value} (hS : St m As w) (hx : ev f x = u) (hu : u.cells = #[u])
    (h : ∀ b w', St m (bx b [u] e :: As) w' → wpl ρ P N D ops rest Q (upo N f dst (pt b 0)) w') :
    wpl ρ P N D ops (⟨dst, .box e x, ty, pos, af, none⟩ :: rest) Q f w :=
  s_box hS hx fun b w' S => h b w' (by rw [hu] at S; exact S)
theorem s_funcP {k : FuncId} {ys xs : List Operand} {pre caps : List Value} (hy : ys.map (ev f) = pre) (hx : xs.map (ev f) = caps) (h : wpl ρ P N D ops rest Q (upo N f dst (.func (.func k) pre.toArray caps.toArray)) w) :
    wpl ρ P N D ops (⟨dst, .makeFunc (.func k) ys.toArray xs.toArray, ty, pos, af, none⟩ :: rest) Q f w := s_func (by
  rw [show xs.toArray.map (ev f) = caps.toArray from by rw [← hx]; simp, show ys.toArray.map (ev f) = pre.toArray from by rw [← hy]; simp]; exact h)
theorem s_funcC {k : FuncId} {xs : List Operand} {caps : List Value} (hx : xs.map (ev f) = caps) (h : wpl ρ P N D ops rest Q (upo N f dst (.func (.func k) #[] caps.toArray)) w) :
    wpl ρ P N D ops (⟨dst, .makeFunc (.func k) #[] xs.toArray, ty, pos, af, none⟩ :: rest) Q f w := s_func (by
  rw [show xs.toArray.map (ev f) = caps.toArray from by rw [← hx]; simp, Array.map_empty]; exact h)
theorem St.rowCells {i sz n : Nat} {v : Value} {cs : List Value} (h : St m As w) (hi : As[i]? = some (row sz v cs n)) : v.cells = #[v] ∧ v.oneCell' = true := by
  obtain ⟨⟨a, c, rfl⟩, _⟩ := h.rowVal hi
  exact ⟨rfl, rfl⟩
theorem s_stS {i b off : Nat} {l : List Value} {e : TypeId} {u : Value} (hS : St m As w) (hx : ev f x = pt b off) (hy : ev f y = u) (hi : As[i]? = some (bx b l e))
    (hs : ∀ w, (sizeOf t).run P w = .ok 1 w) (hu : u.cells = #[u] ∧ u.oneCell' = true) (hl : Nat.ble (off + 1) l.length = true)
    (h : ∀ w', St m (As.set i (bx b (l.take off ++ [u] ++ l.drop (off + 1)) e)) w' → wpl ρ P N D ops rest Q (upo N f dst undef) w') :
    wpl ρ P N D ops (⟨dst, .store t x y, ty, pos, af, none⟩ :: rest) Q f w :=
  s_st hS hx hy hi (by rw [hu.1]; exact hs) (by rw [hu.1]; intro c hc; simp at hc; subst hc; exact hu.2) (by rw [hu.1]; exact Nat.le_of_ble_eq_true hl) (by rw [hu.1]; exact h)
theorem s_sliceA {b off n k sz : Nat} {hi : Option Operand} {e : TypeId} (hx : ev f x = pt b off) (hu : P.underlying t = some (.array n e)) (hs : ∀ w, (sizeOf e).run P w = .ok sz w)
    (hh : (hi.map (ev f) = none ∧ k = n) ∨ ∃ j, hi.map (ev f) = some (.int j k)) (hle : k ≤ n) (h : wpl ρ P N D ops rest Q (upo N f dst (.slice (some ⟨b, off, none⟩) k n)) w) :
    wpl ρ P N D ops (⟨dst, .slice t x none hi none, ty, pos, af, none⟩ :: rest) Q f w := by
  refine wpl_val (v := .slice (some ⟨b, off, none⟩) k n) (w' := w) rfl (fun _ e => by cases e) ?_ h
  have hb : ∀ w, (Instr.sliceBounds false n n none (hi.map (ev f)) none).run P w = .ok (0, k, n) w := by
    intro w
    have h2 : (k : Int) ≤ (n : Int) := by omega
    have h1 : (0 : Int) ≤ (k : Int) := by omega
    rcases hh with ⟨e, rfl⟩ | ⟨j, e⟩ <;> rw [e] <;> simp [Instr.sliceBounds, Instr.sliceBound, asIntOf, h1, h2, hle]
  simp only [execOp, hx, Instr.sliceAt, Sem.run_bind, run_underlying hu, Result.andThen_ok, Instr.sureAddr, Sem.run_pure, Option.map_none, hb, hs]
  by_cases h0 : n = 0
  · simp [h0]
  · simp [addr_add]
theorem s_toArr {b off n k c : Nat} {e : TypeId} (hx : ev f x = .slice (some ⟨b, off, none⟩) k c) (hu : P.underlying t = some (.array n e)) (hn : n ≤ k) (h : wpl ρ P N D ops rest Q (upo N f dst (pt b off)) w) :
    wpl ρ P N D ops (⟨dst, .sliceToArrayPointer t x, ty, pos, af, none⟩ :: rest) Q f w := by
  refine wpl_val (v := pt b off) (w' := w) rfl (fun _ e => by cases e) ?_ h
  simp only [execOp, hx, Instr.arrayAt, Sem.run_bind, run_underlying hu, Result.andThen_ok]
  rw [if_neg (by omega)]; simp
theorem s_re {u v : Value} {l : List Oper} {d : Option Nat} (h : u = v) (k : wpl ρ P N D ops l Q (upo N f d v) w) : wpl ρ P N D ops l Q (upo N f d u) w := h ▸ k
theorem outP {ds : List Nat} {F g : Fr} (h : Out ds F g := by repeat (first | with_reducible exact Out.refl | ((with_reducible refine Out.uq ?_ ?_); rotate_left; exact rfl) | ((with_reducible refine Out.hv ?_ ?_); rotate_left; exact rfl) | ((with_reducible refine Out.upsC ?_ ?_); rotate_left; exact rfl) | with_reducible refine Out.ups0 ?_ | with_reducible refine Out.none ?_)) : Out ds F g := h
abbrev RowS {α : Type} [GoT α] (M : Mem) (X : List Ow) (sz : Nat) (v : Value) (xs : List α) : Prop := ∃ cs, X = [row sz v cs xs.length] ∧ RepL M cs xs
theorem RowS.up {α : Type} [GoT α] {M M' : Mem} {X : List Ow} {sz : Nat} {v : Value} {xs : List α} (l : M ≤ M') (h : RowS M X sz v xs) : RowS M' X sz v xs := let ⟨cs, e, r⟩ := h; ⟨cs, e, RepL.up l r⟩
theorem wpn {K : Fr → World → Prop} (h : K f w) : wpl ρ P N D ops [] (thenF K Q) f w := wpl_nil h
def AllO (p : Nat → Oper → Prop) : Nat → Nat → List Oper → Prop
  | 0, _, _ => True
  | _ + 1, _, [] => True
  | k + 1, i, o :: l => p i o ∧ AllO p k (i + 1) l
theorem AllO.at {p : Nat → Oper → Prop} {k : Nat} : ∀ {i : Nat} {l : List Oper}, AllO p k i l → ∀ {j : Nat} {o : Oper}, j < k → l[j]? = some o → p (i + j) o := by
  induction k with
  | zero => intro i l _ j o h; omega
  | succ k ih =>
    intro i l h j o hj ho
    cases l with
    | nil => simp at ho
    | cons a l =>
      cases j with
      | zero => simp at ho; subst ho; exact h.1
      | succ j => have := ih h.2 (j := j) (o := o) (by omega) (by simpa using ho); rw [show i + (j + 1) = i + 1 + j from by omega]; exact this
theorem wpc_flowG {id : Nat} {l : List Oper} {m : Mem} {Fs : FactL} (HM : MonoAll Fs) (k : Nat) (hm : P.follows .mixedOrders = true) (hb : backL 0 l = true) (hf : forcedB l k = true) (hk : Nat.ble k l.length = true)
    (ds : List Nat) (Ψ : (Nat → Bool) → Fr → Mem → World → Prop) (h0 : Ψ (fun _ => false) f m { w with drawn := w.drawn + 1 })
    (hstep : AllO (fun i o => ∀ L f' w, L i = false → depsOk l.toArray L i = true → (∀ k, L k = true → depsOk l.toArray L k = true) → flowI Ψ Fs ds f m L f' w →
      wpl ρ P N D l.toArray [o] (thenF (flowI Ψ Fs ds f m (setL L i)) Q) f' w) k 0 l)
    (hend : ∀ L f' w, (∀ i, i < k → L i = true) → flowI Ψ Fs ds f m L f' w → wpl ρ P N D l.toArray (l.drop k) Q f' w) : wpc ρ P N D (.region id l.toArray true) Q f w :=
  wpc_flowF hm (List.range k) rfl hb hf hk Fs ds Ψ h0 (by
    have : ∀ is : List Nat, (∀ i ∈ is, i < k) → AllI (fun i => ∀ o L f' w, l[i]? = some o → L i = false → depsOk l.toArray L i = true → (∀ k, L k = true → depsOk l.toArray L k = true) → flowI Ψ Fs ds f m L f' w →
        wpl ρ P N D l.toArray [o] (thenF (flowI Ψ Fs ds f m (setL L i)) Q) f' w) is := by
      intro is
      induction is with
      | nil => intro _; trivial
      | cons i is ih =>
        intro h
        refine ⟨fun o L f' w ho => ?_, ih fun j hj => h j (by simp [hj])⟩
        have := AllO.at hstep (h i (by simp)) ho
        rw [Nat.zero_add] at this
        exact this L f' w
    exact this _ fun i hi => List.mem_range.1 hi) hend
def isNilV : Value → Bool
  | .slice none _ _ => true
  | _ => false
theorem SlR.nilOf {α : Type} [GoT α] {xs : List α} (h : SlR m v xs) (hn : isNilV v = true) : xs = [] := by
  obtain ⟨cs, ⟨_, _, ⟨h0, _⟩ | ⟨b, off, cap, l, e, fr, rfl, _⟩⟩, _⟩ := h
  · exact List.eq_nil_of_length_eq_zero h0
  · cases hn
theorem s_eqlNil {α : Type} [GoT α] {xs : List α} {n c : Nat} {e : TypeId} (hx : ev f x = v) (hy : ev f y = .slice none n c) (hv : SlR m v xs) (hu : P.underlying t = some (.slice e)) (h : wpl ρ P N D ops rest Q (upo N f dst (.bool (isNilV v))) w) :
    wpl ρ P N D ops (⟨dst, .binOp .eql t x y t', ty, pos, af, none⟩ :: rest) Q f w := by
  obtain ⟨a, k, rfl⟩ := hv.val
  refine wpl_val (v := .bool (isNilV (.slice a xs.length k))) (w' := w) rfl (fun _ e => by cases e) ?_ h
  simp only [execOp, hx, hy]
  have hq : (Op.equal t (.slice a xs.length k) (.slice none n c)).run P w = .ok (isNilV (.slice a xs.length k)) w := by
    show (Op.equalIn (9999 + 1) _ _ _).run P w = _
    unfold Op.equalIn
    cases a <;> simp [run_underlying hu, isNilV]
  have hg : (eqGuard .eql t x y (.slice a xs.length k) (.slice none n c)).run P w = .ok () w := by simp [eqGuard]
  simp [hg, binOp, hq]
theorem s_mark {i n : Nat} {cs : List Value} {e : TypeId} (hS : St m As w) (hx : ev f x = v) (hA : As[i]? = some (row 1 v cs n)) (hn : 1 ≤ n) (ht : P.underlying t = some (.slice e)) (he : P.underlying e = some (.int .u8))
    (h : ∀ w', St m (As.set i (row 1 v cs n)) w' → wpl ρ P N D ops rest Q (upo N f dst v) w') :
    wpl ρ P N D ops (⟨dst, .convert t t x, ty, pos, af, none⟩ :: rest) Q f w := by
  obtain ⟨q, ha, hg, _, back⟩ := hS.take hA
  rcases ha with ⟨_, _, h0, _⟩ | ⟨b, cap, l, e', fr, rfl, rfl, hcl, htk, hls, hnc, hcm, hfr⟩
  · omega
  · have hb := PH.agree_one.1 hg
    have hlt := (Array.getElem?_eq_some_iff.1 hb).1
    obtain ⟨lo, hi⟩ := fr
    have hw : w.freeze ⟨b, l.size, none⟩ 1 = { w with heap := w.heap.setIfInBounds b (.cells l e' (if lo == hi then (l.size, l.size + 1) else (min lo l.size, max hi (l.size + 1)))) } := by
      have hbg : w.heap[b] = .cells l e' (lo, hi) := (Array.getElem?_eq_some_iff.1 hb).2
      simp only [World.freeze]
      rw [if_neg (by omega)]
      congr 1
      apply Array.ext_getElem?
      intro k
      rw [Array.getElem?_modify, Array.getElem?_setIfInBounds]
      by_cases hk : b = k
      · subst hk; simp [hlt, hbg]
      · simp [hk]
    have hrun : (convert t t (.slice (some ⟨b, 0, none⟩) n cap)).run P w = .ok (.slice (some ⟨b, 0, none⟩) n cap) (w.freeze ⟨b, l.size, none⟩ 1) := by
      simp [convert, run_underlying ht, run_underlying he, markStringish, World.shape?, hb]
    refine wpl_val (v := .slice (some ⟨b, 0, none⟩) n cap) (w' := w.freeze ⟨b, l.size, none⟩ 1) rfl (fun _ e => by cases e) (by simp only [execOp, hx, hrun]; simp [hrun]) ?_ ?_
    · refine h _ (back _ (PH.one b (.cells l e' (if lo == hi then (l.size, l.size + 1) else (min lo l.size, max hi (l.size + 1))))) _ (.inr ⟨b, cap, l, e', _, rfl, rfl, hcl, htk, hls, hnc, hcm, ?_⟩) ?_ ?_ ?_ (by rw [hw]) (by rw [hw]) (by rw [hw]) (fun _ => .one cells_nd))
      · refine ⟨?_, .inr rfl⟩
        split
        · right; exact Nat.le_refl _
        · rename_i hne
          rcases hfr.1 with h | h
          · exact absurd (by simpa using h) hne
          · right; show l.size ≤ min lo l.size; have : l.size ≤ lo := h; omega
      · intro k hk; left; simp only [PH.one] at hk ⊢
        by_cases e : k = b
        · rw [if_pos e]; simp
        · rw [if_neg e] at hk; exact absurd rfl hk
      · rw [PH.agree_one, hw]; simp [hlt]
      · intro k _ hk; simp only [PH.one] at hk
        split at hk
        · cases hk
        · rename_i hne; rw [hw, Array.getElem?_setIfInBounds_ne (by omega)]
    · exact Kd.set hb cells_nd (by rw [hw])
theorem s_callC {k : FuncId} {caps : List Value} {xs : List Operand} {ats : Array TypeId} {vs all : List Value} {R : Value → World → Prop} (hg : ev f x = .func (.func k) #[] caps.toArray)
    (hk : ∀ (args : Array Value) w, (callFunc k args).run P w = .ok (.enter k args) w) (hc : CallsR P k all.toArray w R) (hx : xs.map (ev f) = vs) (ha : vs ++ caps = all)
    (h : ∀ v w2, R v w2 → wpl ρ P N D ops rest Q (upo N f dst v) w2) :
    wpl ρ P N D ops (⟨dst, .call { callee := .value x, args := xs.toArray, argTypes := ats }, ty, pos, af, none⟩ :: rest) Q f w :=
  s_callV hg (.inl ⟨k, #[], caps.toArray, rfl, hk, by rw [show #[] ++ vs.toArray ++ caps.toArray = all.toArray from by rw [← ha]; simp]; exact hc⟩) hx h
theorem CallV.clo {k : FuncId} {pre caps vs all : List Value} {R : Value → World → Prop} (hk : ∀ (args : Array Value) w, (callFunc k args).run P w = .ok (.enter k args) w) (ha : pre ++ vs ++ caps = all) (hc : CallsR P k all.toArray w R) :
    CallV P (.func (.func k) pre.toArray caps.toArray) vs w R :=
  .inl ⟨k, pre.toArray, caps.toArray, rfl, hk, by rw [show pre.toArray ++ vs.toArray ++ caps.toArray = all.toArray from by rw [← ha]; simp]; exact hc⟩
theorem St.absF {L X : List Ow} (h : St m (L ++ (X ++ As)) w) : St m (X ++ (L ++ As)) w := h.perm (by
  rw [← List.append_assoc, ← List.append_assoc]; exact List.Perm.append_right _ List.perm_append_comm)
def catT : List (List Ow) → List Ow → List Ow
  | [], R => R
  | X :: T, R => X ++ catT T R
theorem ff {C : Prop} (h : false = true) : C := by cases h
theorem tf {b : Bool} {C : Prop} (h : b = true) (k : b = false) : C := by rw [h] at k; cases k
end
def noG (Q : Post) : Post
  | .goto _, _, _ => False
  | e, f, w => Q e f w
section
variable {ρ : Option Nat} {P : Program} {N : Nat} {D : World} {Q : Post} {f : Fr} {w : World}
theorem wpc_wrap {c : Code} (h : wpc ρ P N D c (thenF (fun f w => Q .normal f w) Q) f w) : wpc ρ P N D c Q f w :=
  wpc_mono (fun e f w q => by cases e <;> exact q) h
theorem scN (h : Q .normal f w) : noG Q .normal f w := h
theorem scE {id : Nat} (h : Q (.exit id) f w) : noG Q (.exit id) f w := h
theorem scR (h : Q .ret f w) : noG Q .ret f w := h
theorem wpc_scope {c : Code} (h : wpc ρ P N D c (noG Q) f w) : wpc ρ P N D (.scope c) Q f w := by
  intro a ha b k cs hro hb hr
  obtain ⟨e, a1, w1, ⟨f1, s1, hq⟩, harr⟩ := h a ha b (.inScope c :: k) cs hro hb hr
  have s0 : StepsIn (Machine.fenced P (FW ρ)) P (lone (b.atR a (.code (.scope c) :: k)) cs w) (lone (b.atR a (.code c :: .inScope c :: k)) cs w) :=
    .one (fenced_calm hb hr rfl) (step_lone_go (by simp [stepG, stepG.exec, Frame.atR]))
  cases e with
  | normal => exact ⟨.normal, a1, w1, ⟨f1, s1, hq⟩, StepsIn.trans (StepsIn.trans s0 harr) (.one (fenced_calm (fr := b.atR a1 (.inScope c :: k)) hb hr rfl) (step_lone_go (by simp [stepG, stepG.exec, Frame.atR])))⟩
  | exit id => exact ⟨.exit id, a1, w1, ⟨f1, s1, hq⟩, .of_steps s0 ⟨fun k' hk => harr.1 k' (by simpa [exitTo] using hk), fun h0 hk => harr.2 h0 (by simpa [exitTo] using hk)⟩⟩
  | goto l => exact hq.elim
  | ret => exact ⟨_, a1, w1, ⟨f1, s1, hq⟩, .of_steps s0 ⟨harr.1, fun h => by obtain ⟨k1, hk⟩ := harr.2 h; exact ⟨_, hk⟩⟩⟩
  | panic ch => exact ⟨_, a1, w1, ⟨f1, s1, hq⟩, .of_steps s0 harr⟩
  | outgrown => exact ⟨_, a1, w1, ⟨f1, s1, hq⟩, .of_steps s0 harr⟩
end
structure RecI where
  fn : FuncId
  tmps : Array Value
  params : Array Tmp
  assign : Code
  body : Code
  defers : Nat
def RecI.obj (i : RecI) (st : LoopState) (j : Option Code) : Obj := .loop { state := st, pending := j, fn := i.fn, tmps := i.tmps, params := i.params, assign := i.assign, body := i.body, defers := i.defers }
def Lp (l : Nat) (i : RecI) (st : LoopState) (j : Option Code) : Ow := blk l (i.obj st j)
theorem RecI.nd {i : RecI} {st : LoopState} {j : Option Code} : i.obj st j ≠ dfr := fun h => by cases h
def upz (N : Nat) (f : Fr) : List Nat → List Value → Fr
  | t :: ts, v :: vs => upz N (up N f t v) ts vs
  | _, _ => f
theorem sim_zip {N : Nat} (ts : List Nat) : ∀ (vs : List Value) (tmps : Array Value) (f : Fr), Sim N { tmps := tmps, defers := [] } f →
    Sim N { tmps := (ts.zip vs).foldl (fun tmps (p : Nat × Value) => tmps.setIfInBounds p.1 p.2) tmps, defers := [] } (upz N f ts vs) := by
  induction ts with
  | nil => intro vs tmps f h; simpa [upz] using h
  | cons t ts ih =>
    intro vs tmps f h
    cases vs with
    | nil => simpa [upz] using h
    | cons v vs =>
      simp only [List.zip_cons_cons, List.foldl_cons, upz]
      exact ih vs _ _ (h.put (some t) v)
structure RecI.Ok (i : RecI) (N : Nat) (f : Fr) (ps : List Nat) (assign body : Code) : Prop where
  sim : Sim N { tmps := i.tmps, defers := [] } f
  params : i.params = ps.toArray
  assign : i.assign = assign
  body : i.body = body
section
variable {ρ : Option Nat} {P : Program} {N : Nat} {D : World} {Q : Post} {f : Fr} {w w' : World} {v : Value} {m m' : Mem} {As Bs : List Ow}
theorem St.lp {l k : Nat} {i : RecI} {st : LoopState} {j : Option Code} (h : St m As w) (hk : As[k]? = some (Lp l i st j)) : w.heap[l]? = some (i.obj st j) := h.blk hk
theorem St.lpPut {l : Nat} {i : RecI} {st st' : LoopState} {j j' : Option Code} (h : St m (Lp l i st j :: As) w) : St m (Lp l i st' j' :: As) (w.putObj l (i.obj st' j')) :=
  St.put h (i := 0) rfl _ _ rfl rfl rfl rfl RecI.nd
theorem Kd.lp {l : Nat} {i : RecI} {st : LoopState} {j : Option Code} {o : Obj} (h : w.heap[l]? = some (i.obj st j)) : Kd w (w.putObj l o) := Kd.set h RecI.nd rfl
def roundF (l : Nat) (i : RecI) (R : Bool → World → Prop) : Post
  | .normal, _, w => ∃ M Bs, St M (Lp l i .busy none :: Bs) w ∧ ∀ w', St M (Lp l i .ready none :: Bs) w' → R true w'
  | .ret, _, w => ∃ M Bs, St M (Lp l i .busy none :: Bs) w ∧ ∀ w', St M (Lp l i .done (some .ret) :: Bs) w' → R false w'
  | .exit id, _, w => ∃ M Bs, St M (Lp l i .busy none :: Bs) w ∧ ∀ w', St M (Lp l i .done (some (.exit id)) :: Bs) w' → R false w'
  | _, _, _ => False
theorem endRound_lp {l : Nat} {i : RecI} (j : Option Code) (h : w.heap[l]? = some (i.obj .busy none)) :
    (Instr.endRound l j).run P w = .ok (.bool j.isNone) (w.putObj l (i.obj (if j.isNone then .ready else .done) j)) := by
  have := run_endRound (P := P) j h
  exact this
theorem CallV.round {l : Nat} {i : RecI} {ps : List Nat} {assign body : Code} {vs : List Value} {R : Value → World → Prop} (hi : i.Ok N f ps assign body) (hl : vs.length = ps.length) (S : St m (Lp l i .ready none :: As) w)
    (h : wpc (some l) P N w assign (thenF (fun f1 w1 => ∃ M Bs, St M (Lp l i .ready none :: Bs) w1 ∧ ∀ w2, St M (Lp l i .busy none :: Bs) w2 → wpc (some l) P N w body (roundF l i fun b w3 => R (.bool b) w3) f1 w2) (fun _ _ _ => False)) (upz N f ps vs) w) :
    CallV P (.func (.yield l) #[] #[]) vs w R := by
  obtain ⟨fn, tmps, params, as', bo', dd⟩ := i
  obtain ⟨sim, e1, e2, e3⟩ := hi
  simp only at sim e1 e2 e3
  subst e1 e2 e3
  have hw := S.lp (k := 0) rfl
  have hy := run_yield (P := P) (args := vs.toArray) hw (by simp [hl])
  refine .inr ⟨l, _, _, _, _, rfl, hy, ?_⟩
  refine roundIn_of_wpIn trivial ?_
  have hz : (ps.toArray.zip vs.toArray).foldl (fun tmps (t, a) => tmps.setIfInBounds t a) tmps = (ps.zip vs).foldl (fun tmps (p : Nat × Value) => tmps.setIfInBounds p.1 p.2) tmps := by
    simp
  simp only [hz]
  refine wpIn_mono (h _ ⟨sim_zip ps vs tmps f sim, Okd.nil rfl⟩) ?_
  rintro e a1 w1 ⟨f1, ⟨s1, ok1⟩, q⟩
  cases e with
  | normal =>
    obtain ⟨M, Bs, S1, hb⟩ := q
    have h1 := S1.lp (k := 0) rfl
    refine ⟨_, run_beginRound h1 rfl, ?_⟩
    have S2 : St M (Lp l _ .busy none :: Bs) _ := S1.lpPut
    have k1 : Kd w1 _ := Kd.lp h1 (o := RecI.obj ⟨fn, tmps, ps.toArray, as', bo', dd⟩ .busy none)
    refine wpIn_mono (hb _ S2 a1 ⟨s1, ok1.up k1⟩) ?_
    · rintro e a3 w3 ⟨f3, ⟨s3, ok3⟩, q⟩
      cases e with
      | normal =>
        obtain ⟨M3, Bs3, S3, hR⟩ := q
        have h3 := S3.lp (k := 0) rfl
        exact ⟨_, _, endRound_lp none h3, _, rfl, ok3.keep.tr (Kd.lp h3), hR _ S3.lpPut⟩
      | ret =>
        obtain ⟨M3, Bs3, S3, hR⟩ := q
        have h3 := S3.lp (k := 0) rfl
        exact ⟨_, _, endRound_lp (some .ret) h3, _, rfl, ok3.keep.tr (Kd.lp h3), hR _ S3.lpPut⟩
      | exit id =>
        obtain ⟨M3, Bs3, S3, hR⟩ := q
        have h3 := S3.lp (k := 0) rfl
        exact ⟨_, _, endRound_lp (some (.exit id)) h3, _, rfl, ok3.keep.tr (Kd.lp h3), hR _ S3.lpPut⟩
      | goto l => exact q.elim
      | panic ch => exact q.elim
      | outgrown => exact q.elim
  | exit id => exact q.elim
  | goto l => exact q.elim
  | ret => exact q.elim
  | panic ch => exact q.elim
  | outgrown => exact q.elim
def rangeF (ρ : Option Nat) (P : Program) (N : Nat) (D : World) (Q : Post) (f : Fr) (l : Nat) (i : RecI) (m : Mem) : Value → World → Prop := fun _ w2 =>
  ∃ M st j Bs, m ≤ M ∧ st ≠ .busy ∧ St M (Lp l i st j :: Bs) w2 ∧ ∀ M' w3, M ≤ M' → St M' Bs w3 → (match j with | none => Q .normal f w3 | some c => wpc ρ P N D c Q f w3)
theorem range_end {l : Nat} {i : RecI} {a : Act} {Q : Post} {f : Fr} {D w0 w2 : World} {v : Value} (hs : Sim N a f) (ok : Okd D a w0) (k : Kd w0 w2) (h : rangeF ρ P N D Q f l i m v w2) : rangePost (FW ρ) 0 P l (lift N D Q) a (.returned v) w2 := by
  obtain ⟨M, st, j, Bs, _, hb, S, hq⟩ := h
  have h2 := S.lp (k := 0) rfl
  obtain ⟨M', le, S'⟩ := (S.lpPut (st' := .exhausted) (j' := j)).drop 0
  have k2 := k.tr (Kd.lp h2 (o := i.obj .exhausted j))
  have hq' := hq M' _ le S'
  refine ⟨j, _, run_endLoop (P := P) h2 hb, ?_⟩
  cases j with
  | none => exact ⟨f, ⟨hs, ok.up k2⟩, hq'⟩
  | some c => exact hq' a ⟨hs, ok.up k2⟩
theorem wpc_rangeFunc {g : Operand} {ps : List Nat} {assign body : Code} {gf : FuncId} {caps : List Value} (hS : St m As w) (hg : ev f g = .func (.func gf) #[] caps.toArray) (eg : ∀ (args : Array Value) w, (callFunc gf args).run P w = .ok (.enter gf args) w)
    (h : ∀ l i w1, RecI.Ok i N f ps assign body → St m (Lp l i .ready none :: As) w1 → CallsR P gf (.func (.yield l) #[] #[] :: caps).toArray w1 (rangeF none P N D Q f l i m)) :
    wpc none P N D (.rangeFunc g ps.toArray assign body) Q f w := fun a ha => by
  refine wpIn_rangeFunc ?_
  intro fn hfn
  have S1 := hS.push (.loop { state := .ready, pending := none, fn, tmps := a.tmps, params := ps.toArray, assign, body, defers := w.heap.size }) (fun h => by cases h)
  have hS1 : St m (Lp (w.heap.size + 1) ⟨fn, a.tmps, ps.toArray, assign, body, w.heap.size⟩ .ready none :: As) ((w.alloc (.deferred (some []))).alloc (.loop { state := .ready, pending := none, fn, tmps := a.tmps, params := ps.toArray, assign, body, defers := w.heap.size })) := by
    have hS0 : St m As (w.alloc (.deferred (some []))) := by
      obtain ⟨x, s, d, g, g', n⟩ := hS.own
      have keep : ∀ (p : PH), p.agree w → p.agree (w.alloc (.deferred (some []))) := fun p gp k y e => by
        show (w.heap.push _)[k]? = _
        rw [Array.getElem?_push, if_neg (by have := PH.lt_of_agree gp e; omega)]; exact gp k y e
      exact ⟨hS.os, hS.tape, hS.output, x, s, d, keep _ g, keep _ g', n⟩
    have := hS0.push (.loop { state := .ready, pending := none, fn, tmps := a.tmps, params := ps.toArray, assign, body, defers := w.heap.size }) (fun h => by cases h)
    rw [World.size_alloc] at this
    exact this
  have hc := h _ ⟨fn, a.tmps, ps.toArray, assign, body, w.heap.size⟩ _ ⟨⟨ha.1.size, ha.1.at_⟩, rfl, rfl, rfl⟩ hS1
  have k1 : Kd w ((w.alloc (.deferred (some []))).alloc (.loop { state := .ready, pending := none, fn, tmps := a.tmps, params := ps.toArray, assign, body, defers := w.heap.size })) := (Kd.push _ _).tr (Kd.push _ _)
  refine ⟨w.heap.size + 1, [mark w.heap.size], ((w.alloc (.deferred (some []))).alloc (.loop { state := .ready, pending := none, fn, tmps := a.tmps, params := ps.toArray, assign, body, defers := w.heap.size })), { target := .fn (.func gf) caps.toArray, args := #[.func (.yield (w.heap.size + 1)) #[] #[]] }, ((w.alloc (.deferred (some []))).alloc (.loop { state := .ready, pending := none, fn, tmps := a.tmps, params := ps.toArray, assign, body, defers := w.heap.size })), gf,
    #[.func (.yield (w.heap.size + 1)) #[] #[]] ++ caps.toArray, ((w.alloc (.deferred (some []))).alloc (.loop { state := .ready, pending := none, fn, tmps := a.tmps, params := ps.toArray, assign, body, defers := w.heap.size })), run_enterLoop_outer _ _ _ _ _, ?_, fun _ _ => trivial, ?_, (fun h => by cases h), ?_⟩
  · simp only [resolve, ha.1.eval, rangeCall, hg]
    simp [go_sem]
    rfl
  · simp [invoke, go_sem, eg]
  · have e : #[Value.func (.yield (w.heap.size + 1)) #[] #[]] ++ caps.toArray = (Value.func (.yield (w.heap.size + 1)) #[] #[] :: caps).toArray := by simp
    rw [e]
    refine CallsIn.mono (calls_FW hc) ?_
    rintro _ w2 ⟨v, rfl, k, hR⟩
    obtain ⟨E, hE, hn, hl⟩ := ha.2.marks
    refine range_end (w0 := (w.alloc (.deferred (some []))).alloc (.loop { state := .ready, pending := none, fn, tmps := a.tmps, params := ps.toArray, assign, body, defers := w.heap.size })) (a := { tmps := a.tmps, defers := [mark w.heap.size] ++ a.defers }) ⟨ha.1.size, ha.1.at_⟩ ⟨ha.2.keep.tr k1, w.heap.size :: E, by simp [hE], ?_, ?_⟩ k hR
    · refine List.nodup_cons.2 ⟨fun hm => ?_, hn⟩
      have := (Array.getElem?_eq_some_iff.1 (hl _ hm).2).1; omega
    · intro b hb
      rcases List.mem_cons.1 hb with rfl | hb
      · refine ⟨ha.2.keep.size, ?_⟩
        have := (Kd.push (w.alloc (.deferred (some []))) (.loop { state := .ready, pending := none, fn, tmps := a.tmps, params := ps.toArray, assign, body, defers := w.heap.size })).same w.heap.size (World.alloc_heap_new w _)
        exact this
      · exact ⟨(hl b hb).1, k1.same b (hl b hb).2⟩
end
def cl (v : Value) (j : Nat) : Value :=
  match v with
  | .agg cs => cs.toList.getD j undef
  | _ => undef
abbrev fv (u : Value) : Mem → Value → Prop := fun _ v => v = u
abbrev fc (c : Bool) (A : Mem → Value → Prop) : Mem → Value → Prop := fun M v => (c = true → A M v) ∧ (c = false → v = undef)
theorem mv {u : Value} : ∀ m M v, m ≤ M → fv u m v → fv u M v := fun _ _ _ _ h => h
theorem mc {c : Bool} {A : Mem → Value → Prop} (h : ∀ m M v, m ≤ M → A m v → A M v) : ∀ m M v, m ≤ M → fc c A m v → fc c A M v := fun m M v l k => ⟨fun q => h m M v l (k.1 q), k.2⟩
def rg (a : Nat) : Nat → List Nat
  | 0 => []
  | n + 1 => a :: rg (a + 1) n
theorem mt {a b c : Mem} (h : a ≤ b) (k : b ≤ c) : a ≤ c := Mem.tr h k
theorem cb {a b : Bool} (h : a = b) : Value.bool a = Value.bool b := congrArg Value.bool h
theorem nb {a b : Nat} (h : Nat.ble a b = true) : a ≤ b := Nat.le_of_ble_eq_true h
section
variable {ρ : Option Nat} {P : Program} {N : Nat} {D : World} {Q Q' : Post} {f : Fr} {w : World}
theorem ws {id : Nat} {l : List Oper} {c : Code} (h : wpl ρ P N D l.toArray l (thenF (fun f w => wpc ρ P N D c Q f w) Q) f w) : wpc ρ P N D (.seq (.region id l.toArray false) c) Q f w := wpc_seq (wpc_region h)
theorem nx {id : Nat} {ops : Array Oper} {l : List Oper} {c : Code} (h : wpl ρ P N D l.toArray l (thenF (fun f w => wpc ρ P N D c Q f w) Q) f w) : wpl ρ P N D ops [] (thenF (fun f w => wpc ρ P N D (.seq (.region id l.toArray false) c) Q f w) Q') f w := wpl_nil (nrm (ws h))
end
section
variable {ρ : Option Nat} {P : Program} {N : Nat} {D : World} {Q : Post}
variable {Ψ : (Nat → Bool) → Fr → Mem → World → Prop} {Fs : FactL} {ds : List Nat} {f0 : Fr} {m : Mem} {l : List Oper} {o : Oper} {i d : Nat} {φ A : Mem → Value → Prop} {v : Value} {c : Bool}
abbrev FlG (ρ : Option Nat) (P : Program) (N : Nat) (D : World) (Q : Post) (Ψ : (Nat → Bool) → Fr → Mem → World → Prop) (Fs : FactL) (ds : List Nat) (f0 : Fr) (m : Mem) (l : List Oper) (i : Nat) (o : Oper) : Prop :=
  ∀ L f' w, L i = false → depsOk l.toArray L i = true → (∀ k, L k = true → depsOk l.toArray L k = true) → flowI Ψ Fs ds f0 m L f' w → wpl ρ P N D l.toArray [o] (thenF (flowI Ψ Fs ds f0 m (setL L i)) Q) f' w
abbrev FlF (Fs : FactL) (l : List Oper) (i : Nat) (R : Fr → Prop) : Prop :=
  ∀ {M f}, (∀ j, isDep l.toArray i j = true → factOf Fs j M f) → (∀ k j, isDep l.toArray i k = true → isDep l.toArray k j = true → factOf Fs j M f) → R f
abbrev FlS (ρ : Option Nat) (P : Program) (N : Nat) (D : World) (Ψ : (Nat → Bool) → Fr → Mem → World → Prop) (ds : List Nat) (f0 : Fr) (m : Mem) (l : List Oper) (d : Nat) (o : Oper) (Lr : List (Nat × Value)) (v : Value) : Prop :=
  ∀ {L M u w} {Q : Post}, m ≤ M → Ψ L (ups N (hv f0 ds u) Lr) M w → wpl ρ P N D l.toArray [] Q (upo N (ups N (hv f0 ds u) Lr) (some d) v) w → wpl ρ P N D l.toArray [o] Q (ups N (hv f0 ds u) Lr) w
theorem FlF.at {R : Fr → Prop} {L : Nat → Bool} {f : Fr} {M : Mem} (h : FlF Fs l i R) (hd : depsOk l.toArray L i = true) (hc : ∀ k, L k = true → depsOk l.toArray L k = true) (K : ∀ j, L j = true → factOf Fs j M f) : R f :=
  h (fun j hj => K j (dep hd hj)) fun k j hk hj => K j (dep (hc k (dep hd hk)) hj)
theorem flp (HM : MonoAll Fs) (hi : Fs[i]? = some (d, φ)) (Lr : List (Nat × Value)) (hf : FlF Fs l i fun f => AllAt f Lr)
    (hs : FlS ρ P N D Ψ ds f0 m l d o Lr v) (hφ : ∀ {M}, φ M v) (hn : nodupB (Fs.map (·.1)) = true := by exact rfl) (hd : Nat.blt d N = true := by exact rfl) (hm : memb d ds = true := by exact rfl)
    (hψ : ∀ {v L f M w}, Ψ L f M w → Ψ (setL L i) (upo N f (some d) v) M w := by exact fun h => h) : FlG ρ P N D Q Ψ Fs ds f0 m l i o := by
  rintro L f' w hL hd' hc ⟨M, l1, S, K, hO⟩
  obtain ⟨u, rfl⟩ := fr_of (N := N) hO (hf.at hd' hc K)
  exact hs l1 S (wpn ⟨M, l1, hψ S, facts_step HM hn K (Mem.rfl' M) hi hd hφ, Out.uq hO hm⟩)
theorem flc (HM : MonoAll Fs) (hi : Fs[i]? = some (d, φ)) (c : Bool) (L1 L0 : List (Nat × Value)) (hf1 : FlF Fs l i fun f => c = true → AllAt f L1) (hf0 : FlF Fs l i fun f => c = false → AllAt f L0) {v0 : Value}
    (hs1 : c = true → FlS ρ P N D Ψ ds f0 m l d o L1 v) (hs0 : c = false → FlS ρ P N D Ψ ds f0 m l d o L0 v0) (hφ1 : c = true → ∀ {M}, φ M v) (hφ0 : c = false → ∀ {M}, φ M v0)
    (hn : nodupB (Fs.map (·.1)) = true := by exact rfl) (hd : Nat.blt d N = true := by exact rfl) (hm : memb d ds = true := by exact rfl)
    (hψ : ∀ {v L f M w}, Ψ L f M w → Ψ (setL L i) (upo N f (some d) v) M w := by exact fun h => h) : FlG ρ P N D Q Ψ Fs ds f0 m l i o := by
  rintro L f' w hL hd' hc ⟨M, l1, S, K, hO⟩
  cases hb : c with
  | true =>
    obtain ⟨u, rfl⟩ := fr_of (N := N) hO (FlF.at hf1 hd' hc K hb)
    exact hs1 hb l1 S (wpn ⟨M, l1, hψ S, facts_step HM hn K (Mem.rfl' M) hi hd (hφ1 hb), Out.uq hO hm⟩)
  | false =>
    obtain ⟨u, rfl⟩ := fr_of (N := N) hO (FlF.at hf0 hd' hc K hb)
    exact hs0 hb l1 S (wpn ⟨M, l1, hψ S, facts_step HM hn K (Mem.rfl' M) hi hd (hφ0 hb), Out.uq hO hm⟩)
section
variable {j g : Nat} {ty : TypeId} {pos : String} {af : Array Edge} {op : Op} {C e : Bool}
theorem flb (HM : MonoAll Fs) (hi : Fs[i]? = some (d, fc c A)) (hj : (l[j]?).bind (·.dst) = some g) (hg : FlF Fs l i fun f => f g = .bool c)
    (h : c = true → FlG ρ P N D Q Ψ Fs ds f0 m l i ⟨some d, op, ty, pos, af, none⟩) (hn : nodupB (Fs.map (·.1)) = true := by exact rfl) (hd : Nat.blt d N = true := by exact rfl) (hm : memb d ds = true := by exact rfl)
    (hψ : c = false → ∀ {v L f M w}, Ψ L f M w → Ψ (setL L i) (upo N f (some d) v) M w := by exact fun _ => fun h => h) : FlG ρ P N D Q Ψ Fs ds f0 m l i ⟨some d, op, ty, pos, af, some (j, true)⟩ := by
  rintro L f' w hL hd' hc I
  have I' := I
  obtain ⟨M, l1, S, K, hO⟩ := I'
  have hgf := hg.at hd' hc K
  have hj' : (l.toArray[j]?).bind (·.dst) = some g := by simpa using hj
  cases hb : c with
  | true => rw [hb] at hgf; exact wpl_yes rfl hj' hgf (h hb L f' w hL hd' hc I)
  | false =>
    rw [hb] at hgf
    exact wpl_no rfl hj' hgf (wpn ⟨M, l1, hψ hb S, facts_step HM hn K (Mem.rfl' M) hi hd ⟨fun hx => tf hx hb, fun _ => rfl⟩, Out.uq hO hm⟩)
theorem flg (HM : MonoAll Fs) (hi : Fs[i]? = some (d, fc c A)) (hj : (l[j]?).bind (·.dst) = some g) (hg : FlF Fs l i fun f => f g = .bool c)
    (Lr : List (Nat × Value)) (hf : FlF Fs l i fun f => c = true → AllAt f Lr) (hs : c = true → FlS ρ P N D Ψ ds f0 m l d ⟨some d, op, ty, pos, af, none⟩ Lr v) (hφ : c = true → ∀ {M}, A M v)
    (hn : nodupB (Fs.map (·.1)) = true := by exact rfl) (hd : Nat.blt d N = true := by exact rfl) (hm : memb d ds = true := by exact rfl)
    (hψ : ∀ {v L f M w}, Ψ L f M w → Ψ (setL L i) (upo N f (some d) v) M w := by exact fun h => h) : FlG ρ P N D Q Ψ Fs ds f0 m l i ⟨some d, op, ty, pos, af, some (j, true)⟩ :=
  flb HM hi hj hg (fun hb => by
    rintro L f' w hL hd' hc ⟨M, l1, S, K, hO⟩
    obtain ⟨u, rfl⟩ := fr_of (N := N) hO (FlF.at hf hd' hc K hb)
    exact hs hb l1 S (wpn ⟨M, l1, hψ S, facts_step HM hn K (Mem.rfl' M) hi hd ⟨fun _ => hφ hb, fun hx => tf hb hx⟩, Out.uq hO hm⟩)) hn hd hm (fun _ => hψ)
end
end
end Go.Gw
end
section
namespace Go.Gw
open Go Go.ChangeShapes Go.WideShapes Go.ChangeAt Go.RowKit
def isDfr : Obj → Bool
  | .deferred (some []) => true
  | _ => false
theorem isDfr_eq {o : Obj} (h : isDfr o = true) : o = dfr := by
  unfold isDfr at h
  split at h
  · rfl
  · cases h
def memOf (w : World) : Mem := { heap := fun k => (w.heap[k]?).bind fun o => bif isDfr o then none else some o, os := w.os, tape := w.tape, output := w.output }
theorem memOf_some {w : World} {k : Nat} {o : Obj} (h : w.heap[k]? = some o) (hd : isDfr o = false) : (memOf w).heap k = some o := by simp [memOf, h, hd]
theorem memOf_of {w : World} {k : Nat} {o : Obj} (h : (memOf w).heap k = some o) : w.heap[k]? = some o ∧ isDfr o = false := by
  simp only [memOf] at h
  cases e : w.heap[k]? with
  | none => rw [e] at h; cases h
  | some x =>
    rw [e] at h
    simp only [Option.bind_some] at h
    cases hx : isDfr x with
    | true => rw [hx] at h; cases h
    | false => rw [hx] at h; cases h; exact ⟨rfl, hx⟩
theorem memOf_cells {w : World} {k : Nat} {l : Array Value} {e : TypeId} {fr : Nat × Nat} (h : w.heap[k]? = some (.cells l e fr)) : (memOf w).heap k = some (.cells l e fr) := memOf_some h rfl
theorem St.of (w : World) : St (memOf w) [] w := by
  refine ⟨rfl, rfl, rfl, PH.emp, rfl, PH.disj_emp _, fun k o h => (memOf_of h).1, PH.agree_emp w, ?_⟩
  rw [PH.join_emp]
  intro b h
  have := (memOf_of h).2
  cases this
section
variable {W W' : World} {M : Mem} {As : List Ow}
theorem kept_heap (hle : memOf W ≤ M) (S : St M As W') (k : Kd W W') {i : Nat} {o : Obj} (h : W.heap[i]? = some o) : W'.heap[i]? = some o := by
  cases hd : isDfr o with
  | true => have := isDfr_eq hd; subst this; exact k.same i h
  | false => exact S.mem (hle.heap i o (memOf_some h hd))
theorem kept_eq (hle : memOf W ≤ M) (S : St M As W') (k : Kd W W') {i : Nat} (h : i < W.heap.size) : W'.heap[i]? = W.heap[i]? := by
  obtain ⟨o, ho⟩ : ∃ o, W.heap[i]? = some o := ⟨W.heap[i], by simp [h]⟩
  rw [ho]; exact kept_heap hle S k ho
theorem kept_but (hle : memOf W ≤ M) (S : St M As W') (k : Kd W W') (may : MemPlace → Prop) : W.keptBut W' may := by
  refine ⟨S.os.trans hle.os, S.output.trans hle.output, fun i hi => ?_⟩
  rw [kept_eq hle S k hi]
  obtain ⟨o, ho⟩ : ∃ o, W.heap[i]? = some o := ⟨W.heap[i], by simp [hi]⟩
  rw [ho]
  cases o <;> first | exact ⟨rfl, rfl, rfl, fun _ _ => rfl⟩ | exact .inr ⟨rfl, rfl⟩ | rfl
theorem kept_at (hle : memOf W ≤ M) (S : St M As W') (k : Kd W W') {p : MemPlace} (hp : p.block < W.heap.size) : W.sameAt W' p := by
  cases p with
  | cell b off => show W'.cell? _ = W.cell? _; simp only [World.cell?]; rw [kept_eq hle S k (show b < W.heap.size from hp)]
  | map b => exact kept_eq hle S k (show b < W.heap.size from hp)
theorem kept_frozen (hle : memOf W ≤ M) (S : St M As W') (k : Kd W W') {b off : Nat} (hp : b < W.heap.size) : W'.frozen? ⟨b, off, none⟩ = W.frozen? ⟨b, off, none⟩ := by
  simp only [World.frozen?]; rw [kept_eq hle S k hp]
end
class Rd (P : Program) (t : TypeId) (α : Type) [GoT α] : Prop where
  rd : ∀ {H : Type} {enc : TypeId × Value → H} {w : World} {sp : Nat → Bool} {fuel : Nat} {cs : List Value} {x : DataW H × List MemPlace}, DataW.trod enc P w 0 sp true fuel t cs = some x → ∃ a : α, GoT.rep (memOf w) cs a
theorem Rd.int {P : Program} {t : TypeId} (h : P.underlying t = some (.int .i64)) : Rd P t Int := ⟨fun hx => by
  obtain ⟨n, rfl, _, _⟩ := DataW.trod_int h hx; exact ⟨n, rfl⟩⟩
theorem Rd.bool {P : Program} {t : TypeId} (h : P.underlying t = some .bool) : Rd P t Bool := ⟨fun hx => by
  obtain ⟨n, rfl, _⟩ := DataW.trod_bool h hx; exact ⟨n, rfl⟩⟩
theorem Rd.u64 {P : Program} {t : TypeId} (h : P.underlying t = some (.int .u64)) : Rd P t UInt64 := ⟨fun hx => by
  obtain ⟨n, rfl, _, hw⟩ := DataW.trod_int h hx
  simp only [Lit.wf, Bool.and_eq_true, decide_eq_true_eq] at hw
  have h0 : 0 ≤ n := hw.1
  have h1 : n ≤ 18446744073709551615 := hw.2
  refine ⟨UInt64.ofNat n.toNat, ?_⟩
  show [Value.int .u64 n] = [vU _]
  simp only [vU, UInt64.toNat_ofNat']
  congr 2; omega⟩
theorem Rd.u8 {P : Program} {t : TypeId} (h : P.underlying t = some (.int .u8)) : Rd P t UInt8 := ⟨fun hx => by
  obtain ⟨n, rfl, _, hw⟩ := DataW.trod_int h hx
  simp only [Lit.wf, Bool.and_eq_true, decide_eq_true_eq] at hw
  have h0 : 0 ≤ n := hw.1
  have h1 : n ≤ 255 := hw.2
  refine ⟨UInt8.ofNat n.toNat, ?_⟩
  show [Value.int .u8 n] = [vB _]
  simp only [vB, UInt8.toNat_ofNat']
  congr 2; omega⟩
theorem Rd.arr2 {P : Program} {t e : TypeId} {α : Type} [GoT α] (h : P.underlying t = some (.array 2 e)) (he : Rd P e α) (hs : P.cellsOf e = GoT.sz α) (ht : P.cellsOf t = 2 * GoT.sz α) : Rd P t (α × α) := ⟨fun hx => by
  rename_i cs x
  obtain ⟨xs, m, _, _, hl, hn, hi⟩ := DataW.trod_array h hx
  match xs, hn with
  | [y, z], _ =>
    have h0 := hi 0 (by omega); have h1 := hi 1 (by omega)
    obtain ⟨a, ha⟩ := he.rd h0
    obtain ⟨b, hb⟩ := he.rd h1
    rw [hs] at ha hb
    simp only [Nat.zero_mul, List.drop_zero, Nat.one_mul] at ha hb
    refine ⟨(a, b), _, _, ?_, ha, hb⟩
    rw [List.take_of_length_le (l := cs.drop (GoT.sz α)) (by simp; omega), List.take_append_drop]⟩
structure RdFs (P : Program) (fs : List Field) (off : Nat) (α : Type) [GoT α] : Prop where
  rd : ∀ {H : Type} {enc : TypeId × Value → H} {w : World} {sp : Nat → Bool} {fuel : Nat} {cs : List Value}, (∀ f, f ∈ fs → ∃ x, DataW.trod enc P w 0 sp true fuel f.type ((cs.drop f.offset).take (P.cellsOf f.type)) = some x) → cs.length = off + GoT.sz α → ∃ a : α, GoT.rep (memOf w) (cs.drop off) a
theorem RdFs.last {P : Program} {f : Field} {off : Nat} {α : Type} [GoT α] (ho : f.offset = off) (R : Rd P f.type α) (hs : P.cellsOf f.type = GoT.sz α) : RdFs P [f] off α := ⟨fun {H enc w sp fuel cs} h hl => by
  obtain ⟨x, hx⟩ := h f (by simp)
  rw [ho, hs, List.take_of_length_le (by simp; omega)] at hx
  exact R.rd hx⟩
theorem RdFs.more {P : Program} {f : Field} {fs : List Field} {off : Nat} {α β : Type} [GoT α] [GoT β] (ho : f.offset = off) (R : Rd P f.type α) (hs : P.cellsOf f.type = GoT.sz α) (Rs : RdFs P fs (off + GoT.sz α) β) : RdFs P (f :: fs) off (α × β) := ⟨fun {H enc w sp fuel cs} h hl => by
  obtain ⟨x, hx⟩ := h f (by simp)
  rw [ho, hs] at hx
  obtain ⟨a, ha⟩ := R.rd hx
  obtain ⟨b, hb⟩ := Rs.rd (fun g hg => h g (by simp [hg])) (by rw [hl]; show off + (GoT.sz α + GoT.sz β) = _; omega)
  refine ⟨(a, b), _, _, ?_, ha, hb⟩
  rw [← List.drop_drop, List.take_append_drop]⟩
theorem Rd.struct {P : Program} {t : TypeId} {fs : Array Field} {α β : Type} [GoT α] [GoT β] (h : P.underlying t = some (.struct fs)) (Rs : RdFs P fs.toList 0 β) (ht : P.cellsOf t = GoT.sz β) (mk : β → α) (hm : ∀ {m : Mem} {cs : List Value} {b : β}, GoT.rep m cs b → GoT.rep m cs (mk b)) : Rd P t α := ⟨fun {H enc w sp fuel cs x} hx => by
  obtain ⟨xs, n, _, _, hl, hn, hi⟩ := DataW.trod_struct h hx
  obtain ⟨b, hb⟩ := Rs.rd (cs := cs) (fun f hf => by
    obtain ⟨i, hi'⟩ := List.getElem?_of_mem hf
    have hi2 : fs[i]? = some f := by simpa using hi'
    have hlt : i < xs.length := by
      have := (Array.getElem?_eq_some_iff.1 hi2).1; omega
    exact ⟨xs[i], by rw [hi i f hi2]; simp [hlt]⟩) (by rw [hl, ht]; omega)
  exact ⟨mk b, hm (by simpa using hb)⟩⟩
theorem Rd.str {P : Program} {t : TypeId} (h : P.underlying t = some .string) : Rd P t ByteArray := ⟨fun hx => by
  obtain ⟨s, rfl, _, _⟩ := DataW.trod_string h hx; exact ⟨s, rfl⟩⟩
theorem cells_of {w : World} {a : Addr} {n : Nat} {cs : List Value} (h : w.cells? 0 a n = some cs) : cs.length = n ∧ ∀ i v, cs[i]? = some v → w.cell? (a.add i) = some v := by
  unfold World.cells? at h
  rw [if_pos (Nat.zero_le _)] at h
  have hl := Lib.mapM_length h
  simp at hl
  refine ⟨hl, fun i v hv => ?_⟩
  have hi : i < n := by
    have := (List.getElem?_eq_some_iff.1 hv).1; omega
  obtain ⟨b, hb, hf⟩ := Lib.mapM_at h i i (by simp [hi])
  rw [hv] at hb; cases hb; exact hf
theorem RepL.build {α : Type} [GoT α] {m : Mem} {n : Nat} {g : Nat → List Value} : ∀ (k : Nat), (∀ i, i < k → ∃ a : α, GoT.rep m (g i) a) → ∃ (cs : List Value) (xs : List α), RepL m cs xs ∧ xs.length = k ∧ cs = ((List.range k).map g).flatten := by
  intro k
  induction k with
  | zero => intro _; exact ⟨[], [], rfl, rfl, rfl⟩
  | succ k ih =>
    intro h
    obtain ⟨cs, xs, hr, hl, hc⟩ := ih fun i hi => h i (by omega)
    obtain ⟨a, ha⟩ := h k (by omega)
    refine ⟨cs ++ g k, xs ++ [a], hr.append ⟨g k, [], by simp, ha, rfl⟩, by simp [hl], ?_⟩
    rw [List.range_succ, List.map_append, List.flatten_append, ← hc]
    simp
theorem Rd.slice {P : Program} {t e : TypeId} {α : Type} [GoT α] (h : P.underlying t = some (.slice e)) (he : Rd P e α) (hs : P.cellsOf e = GoT.sz α) (h1 : 1 ≤ GoT.sz α) : Rd P t (List α) := ⟨fun hx => by
  rename_i w sp fuel cs x
  rcases DataW.trod_slice h hx with ⟨rfl, _⟩ | ⟨a, len, cap, elems, rest, n, _, rfl, _, _, hlc, hcm, hel, hi, _, _⟩
  · exact ⟨[], _, rfl, SlR.nil⟩
  · rw [hs] at hi
    by_cases h0 : len = 0
    · subst h0; exact ⟨[], _, rfl, SlR.nil⟩
    · have hcell : ∀ i, i < len → ∃ c, w.cells? 0 (a.add (i * GoT.sz α)) (GoT.sz α) = some c ∧ ∃ q : α, GoT.rep (memOf w) c q := fun i hil => by
        have := hi i hil
        have hsome : elems[i]? = some elems[i] := by simp
        rw [hsome] at this
        obtain ⟨c, hc, ht⟩ := Option.bind_eq_some_iff.1 this
        exact ⟨c, hc, he.rd ht⟩
      obtain ⟨g, hg⟩ : ∃ g : Nat → List Value, ∀ i, i < len → w.cells? 0 (a.add (i * GoT.sz α)) (GoT.sz α) = some (g i) ∧ ∃ q : α, GoT.rep (memOf w) (g i) q :=
        ⟨fun i => if hil : i < len then (hcell i hil).choose else [], fun i hil => by simp only [dif_pos hil]; exact (hcell i hil).choose_spec⟩
      obtain ⟨cs, xs, hr, hl, hc⟩ := RepL.build (n := len) (g := g) len fun i hil => (hg i hil).2
      subst hl
      refine ⟨xs, _, rfl, cs, ⟨?_, by simp only [maxLen] at hcm; omega, ?_⟩, hr⟩
      · exact hr.length
      · right
        obtain ⟨hg0, _⟩ := hg 0 (by omega)
        obtain ⟨hl0, hc0⟩ := cells_of hg0
        have hv0 : w.cell? ((a.add (0 * GoT.sz α)).add 0) = some (g 0)[0] := hc0 0 _ (by simp)
        have ea : (a.add (0 * GoT.sz α)).add 0 = a := by simp [Addr.add]
        rw [ea] at hv0
        obtain ⟨b, off, spot⟩ := a
        simp only [World.cell?] at hv0
        split at hv0
        · rename_i l e' fr hb
          cases spot with
          | some z => simp at hv0
          | none =>
            refine ⟨b, off, cap, l, e', fr, rfl, hlc, memOf_cells hb, fun j v hj => ?_⟩
            have hjl : j < xs.length * GoT.sz α := by
              have := (List.getElem?_eq_some_iff.1 hj).1
              rw [hr.length] at this; exact this
            have hq : j / GoT.sz α < xs.length := Nat.div_lt_of_lt_mul (by rwa [Nat.mul_comm])
            obtain ⟨hgj, _⟩ := hg _ hq
            obtain ⟨hlj, hcj⟩ := cells_of hgj
            have hm : j % GoT.sz α < GoT.sz α := Nat.mod_lt _ (by omega)
            have hjj : cs[j]? = (g (j / GoT.sz α))[j % GoT.sz α]? := by
              rw [hc]
              have key : ∀ (k : Nat), (∀ i, i < k → (g i).length = GoT.sz α) → ∀ j, j < k * GoT.sz α → (((List.range k).map g).flatten)[j]? = (g (j / GoT.sz α))[j % GoT.sz α]? := by
                intro k
                induction k with
                | zero => intro _ j hj; omega
                | succ k ih =>
                  intro hlen j hj
                  rw [List.range_succ, List.map_append, List.flatten_append]
                  have hlk : (((List.range k).map g).flatten).length = k * GoT.sz α := by
                    clear ih hj
                    induction k with
                    | zero => simp
                    | succ k ih2 => rw [List.range_succ, List.map_append, List.flatten_append, List.length_append, ih2 (fun i hi => hlen i (by omega))]; simp [hlen k (by omega), Nat.succ_mul]
                  by_cases hjk : j < k * GoT.sz α
                  · rw [List.getElem?_append_left (by omega)]; exact ih (fun i hi => hlen i (by omega)) j hjk
                  · rw [List.getElem?_append_right (by omega), hlk]
                    rw [Nat.succ_mul] at hj
                    have e1 : j / GoT.sz α = k := by
                      apply Nat.div_eq_of_lt_le <;> first | omega | (rw [Nat.succ_mul]; omega)
                    have e2 : j % GoT.sz α = j - k * GoT.sz α := by
                      have := Nat.div_add_mod j (GoT.sz α); rw [e1, Nat.mul_comm] at this; omega
                    rw [e1, e2]; simp
              exact key _ (fun i hi => (cells_of (hg i hi).1).1) j hjl
            rw [hjj] at hj
            have := hcj _ v hj
            simp only [World.cell?] at this
            have e3 : ((⟨b, off, none⟩ : Addr).add (j / GoT.sz α * GoT.sz α)).add (j % GoT.sz α) = ⟨b, off + j, none⟩ := by
              have := Nat.div_add_mod j (GoT.sz α)
              rw [addr_add, addr_add]
              congr 1
              rw [Nat.mul_comm] at this; omega
            rw [e3] at this
            simp only [hb] at this
            simpa using this
        · cases hv0⟩
theorem arr_of {c : Array Value} {l : List Value} (h : c.toList = l) : c = l.toArray := by rw [← h]
theorem Rd.openC {P : Program} {t : TypeId} {α : Type} [GoT α] (R : Rd P t α) {H : Type} {enc : TypeId × Value → H} {W : World} {sp : Nat → Bool} {v : Value} {d : DataW H} {ps : List MemPlace} (hc : v.cells = #[v]) (h : DataW.Trod enc P W 0 sp true t v d ps) : ∃ a : α, GoT.rep (memOf W) [v] a := by
  obtain ⟨n, hn⟩ := h
  rw [hc] at hn
  exact R.rd hn
theorem Rd.openA {P : Program} {t : TypeId} {α : Type} [GoT α] (R : Rd P t α) {H : Type} {enc : TypeId × Value → H} {W : World} {sp : Nat → Bool} {cs : Array Value} {d : DataW H} {ps : List MemPlace} (h : DataW.Trod enc P W 0 sp true t (.agg cs) d ps) : ∃ a : α, GoT.rep (memOf W) cs.toList a := by
  obtain ⟨n, hn⟩ := h
  exact R.rd hn
theorem Rd.openS {P : Program} {t : TypeId} {α : Type} [GoT α] (R : Rd P t (List α)) {H : Type} {enc : TypeId × Value → H} {W : World} {sp : Nat → Bool} {a : Option Addr} {l c : Nat} {d : DataW H} {ps : List MemPlace} (h : DataW.Trod enc P W 0 sp true t (.slice a l c) d ps) : ∃ xs : List α, SlR (memOf W) (.slice a l c) xs := by
  obtain ⟨xs, v, e, hs⟩ := R.openC rfl h
  cases e
  exact ⟨xs, hs⟩
section
variable {H : Type} {enc : TypeId × Value → H} {P : Program} {W W' : World} {M : Mem}
theorem trodAll_stays (hl : laidOutB P = true) (hle : memOf W ≤ M) (S : St M [] W') (k : Kd W W') : ∀ {ts : List TypeId} {vs : List Value} {ds : List (DataW H)} {ps : List MemPlace}, (ts.all fun t => P.readableRec t && decide (t < P.types.size)) = true →
    DataW.TrodAll enc P W 0 (fun _ => true) true ts vs ds ps → (∀ p ∈ ps, p.block < W.heap.size) → ∀ sp : Nat → Bool, (∀ p ∈ ps, sp p.block = true) → DataW.TrodAll enc P W' 0 sp true ts vs ds ps := by
  intro ts
  induction ts with
  | nil => intro vs ds ps _ h _ sp _; obtain ⟨rfl, rfl, rfl⟩ := trodAll_nil h; exact trodAll_mk0
  | cons t ts ih =>
    intro vs ds ps hr h hlt sp hsp
    obtain ⟨v, vs, d, ds, p, q, rfl, rfl, rfl, h1, h2⟩ := trodAll_cons h
    simp only [List.all_cons, Bool.and_eq_true, decide_eq_true_eq] at hr
    exact trodAll_cons_mk (WideElems.Trod_stays hl hr.1.1 hr.1.2 h1 (fun p hp => kept_at hle S k (hlt p (by simp [hp]))) (fun p hp => hsp p (by simp [hp])))
      (ih hr.2 h2 (fun p hp => hlt p (by simp [hp])) sp (fun p hp => hsp p (by simp [hp])))
theorem post_true {f : Func} {s : ChangeSpec} {args : Array Value} {ds : List (DataW H)} {before : List MemPlace} {tb : TypeId} (hl : laidOutB P = true) (hr : (f.params.toList.all fun t => P.readableRec t && decide (t < P.types.size)) = true)
    (hv : s.vars = []) (hres : f.resultTypes = #[tb]) (hb : P.underlying tb = some .bool)
    (hW : DataW.Whole enc P f.params.toList s.vars false W args.toList ds [] before) (hA : DataW.TrodAll enc P W 0 (fun _ => true) true f.params.toList args.toList ds before)
    (hs : (s.fn H ds).results = [.lit (.bool true)]) (ha : (s.fn H ds).args = ds) (hvs : (s.fn H ds).vars = [])
    (hle : memOf W ≤ M) (S : St M [] W') (k : Kd W W') : s.post enc P f false true false false W args (.bool true) W' := by
  have hlt : ∀ p ∈ before, p.block < W.heap.size := fun p hp => hW.lt p hp
  have hres' : ∀ (b : Nat) (sp : Nat → Bool) (hd : Bool), DataW.TrodAll enc P W' b sp hd f.resultTypes.toList ((Value.bool true).resultList f.resultTypes.size) [.lit (.bool true)] [] := fun b sp hd => by
    rw [hres]; exact trodAll_cons_mk (shut_bool hb true) trodAll_mk0
  have hargs : ∀ sp : Nat → Bool, (∀ p ∈ before, sp p.block = true) → DataW.TrodAll enc P W' 0 sp true f.params.toList args.toList ds before := fun sp hsp => trodAll_stays hl hle S k hr hA hlt sp hsp
  have hvars : ∀ sp : Nat → Bool, DataW.TrodVars enc P W' sp s.vars [] [] := fun sp => by rw [hv]; rfl
  have hold : ∀ p ∈ before, (fun b => decide (b < W.heap.size)) p.block = true := fun p hp => by simpa using hlt p hp
  refine ⟨ds, [], before, [], before, [], hW, by rw [List.append_nil, hs]; exact hres' _ _ _, by rw [List.append_nil, ha]; exact hargs _ hold, by rw [List.append_nil, hvs]; exact hvars _, World.keptBut_mono (fun p hp => ⟨hp, ?_⟩) (kept_but hle S k (· ∈ before)), fun _ => ?_⟩
  · exact Or.inr (Or.inl hp)
  · obtain ⟨_, _, _, _, _, hz, hn⟩ := hW
    refine ⟨ok_one hres rfl (okWide_bool_mk hb _), _, _, ([] ++ before) ++ [], ⟨[] ++ before, [], trodAll_append (hargs _ (fun _ _ => rfl)) (hres' _ _ _), hvars _, rfl, ?_, ?_⟩, ?_⟩
    · intro b off hp
      have hp' : MemPlace.cell b off ∈ before := by simpa using hp
      rw [kept_frozen (b := b) (off := off) hle S k (show b < W.heap.size from hlt _ hp')]
      exact hz b off hp'
    · intro ha
      have := hn ha
      simpa using this
    · intro p hp _
      simpa using hp
end
end Go.Gw
end
section
namespace Go.Gw
open Go Go.MapKept
def bs (xs : List UInt8) : ByteArray := ⟨xs.toArray⟩
def eqS (p q : ByteArray) : Bool := p.data.toList == q.data.toList
theorem eqS_iff {p q : ByteArray} : eqS p q = true ↔ p = q := by
  obtain ⟨⟨p⟩⟩ := p; obtain ⟨⟨q⟩⟩ := q
  simp [eqS]
theorem eqS_beq (p q : ByteArray) : (p == q) = eqS p q := by
  rw [Bool.eq_iff_iff, eqS_iff]
  obtain ⟨p⟩ := p; obtain ⟨q⟩ := q
  constructor
  · intro h
    have e : p = q := by simpa using (show (p == q) = true from h)
    rw [e]
  · intro h
    cases h
    show (p == p) = true
    simp
theorem toList_loop (s : ByteArray) : ∀ (n i : Nat) (r : List UInt8), s.size ≤ i + n → i ≤ s.size → ByteArray.toList.loop s i r = r.reverse ++ s.data.toList.drop i := by
  intro n
  induction n with
  | zero =>
    intro i r h h2
    unfold ByteArray.toList.loop
    rw [if_neg (by omega), List.drop_eq_nil_of_le (by simp; show s.size ≤ i; omega)]; simp
  | succ n ih =>
    intro i r h h2
    unfold ByteArray.toList.loop
    by_cases hlt : i < s.size
    · have hl : i < s.data.toList.length := by simpa using hlt
      rw [if_pos hlt, ih (i + 1) _ (by omega) (by omega), List.drop_eq_getElem_cons hl]
      have : s.get! i = s.data.toList[i] := by
        show s.data[i]! = _
        rw [getElem!_pos s.data i (by simpa using hlt)]; simp
      simp [this]
    · rw [if_neg hlt, List.drop_eq_nil_of_le (by simp; show s.size ≤ i; omega)]; simp
theorem toList_eq (s : ByteArray) : s.toList = s.data.toList := by
  unfold ByteArray.toList
  rw [toList_loop s s.size 0 [] (by omega) (by omega)]; simp
def carryU (a b : UInt64) : UInt64 := UInt64.ofNat ((a.toNat + b.toNat) / 18446744073709551616)
theorem repB {m : Mem} : ∀ {xs : List UInt8} {cs : List Value}, RepL m cs xs → cs = xs.map vB := by
  intro xs
  induction xs with
  | nil => intro cs h; exact h
  | cons x xs ih => rintro cs ⟨c, d, rfl, h1, h2⟩; rw [ih h2]; have : c = [vB x] := h1; rw [this]; rfl
section
variable {ρ : Option Nat} {P : Program} {N : Nat} {D : World} {ops : Array Oper} {rest : List Oper} {Q : Post} {f : Fr} {w w' : World} {v : Value}
variable {dst : Option Nat} {ty t t' t2 : TypeId} {pos : String} {af : Array Edge} {x y c a b : Operand} {m : Mem} {As : List Ow}
theorem s_eqlT {p q : ByteArray} (hx : ev f x = vS p) (hy : ev f y = vS q) (h : wpl ρ P N D ops rest Q (upo N f dst (.bool (eqS p q))) w) :
    wpl ρ P N D ops (⟨dst, .binOp .eql t x y t', ty, pos, af, none⟩ :: rest) Q f w := by
  refine s_eqlS (p := p) (q := q) hx hy ?_
  rw [toList_eq, toList_eq]
  exact h
theorem s_neqT {p q : ByteArray} (hx : ev f x = vS p) (hy : ev f y = vS q) (h : wpl ρ P N D ops rest Q (upo N f dst (.bool (!eqS p q))) w) :
    wpl ρ P N D ops (⟨dst, .binOp .neq t x y t', ty, pos, af, none⟩ :: rest) Q f w := by
  refine s_neqS (p := p) (q := q) hx hy ?_
  rw [toList_eq, toList_eq]
  exact h
theorem s_add64 {k : FuncId} {fn : Func} {p q : UInt64} {ats : Array TypeId} (hf : P.funcs[k]? = some fn) (hname : (fn.name == "runtime.NumGoroutine") = false) (hb : fn.body.isNone = true) (hn : Extern.findNext fn = none)
    (he : Extern.find fn = some add64Entry) (hx : ev f x = vU p) (hy : ev f y = vU q) (hz : ev f c = .int .u64 0)
    (h : wpl ρ P N D ops rest Q (upo N f dst (.tuple #[vU (p + q), vU (carryU p q)])) w) :
    wpl ρ P N D ops (⟨dst, .call { callee := .value (.func k), args := #[x, y, c], argTypes := ats }, ty, pos, af, none⟩ :: rest) Q f w := by
  refine wpl_val (v := .tuple #[vU (p + q), vU (carryU p q)]) (w' := w) rfl (fun _ e => by cases e) ?_ h
  have hr := run_callFunc_extern hf hname hb hn he #[vU p, vU q, .int .u64 0] w
  have hp := p.toNat_lt
  have hq := q.toNat_lt
  rw [run_add64 _ _ _ (by omega) (by omega) (by omega) (by omega)] at hr
  have e1 : ((p.toNat : Int) + (q.toNat : Int) + 0) % 18446744073709551616 = ((p + q).toNat : Int) := by rw [UInt64.toNat_add]; omega
  have e2 : ((p.toNat : Int) + (q.toNat : Int) + 0) / 18446744073709551616 = ((carryU p q).toNat : Int) := by
    unfold carryU
    rw [UInt64.toNat_ofNat']
    omega
  rw [e1, e2] at hr
  simp only [ev] at hx hy hz
  simp only [execOp, resolve, invoke, Deferred.ofValue, List.map_toArray, List.map_cons, List.map_nil, ev, hx, hy, hz, Sem.run_bind, Sem.run_pure, Result.andThen_ok, Array.empty_append, Array.append_empty, hr, Result.andThen]
theorem run_bytesS {xs : List UInt8} (hS : St m As w) (hv : SlR m v xs) : (Conv.bytesToString v).run P w = .ok (.string (bs xs)) w := by
  obtain ⟨cs, hc, hr⟩ := hv
  have e := repB hr
  subst e
  have hf := run_firstCellsR (P := P) hS hc w.drawn
  obtain ⟨hl, _, ⟨h0, a, c, rfl⟩ | ⟨b, off, cap, l, ee, fr, rfl, hn, hb, hcc⟩⟩ := hc
  · have : xs = [] := List.eq_nil_of_length_eq_zero h0
    subst this
    cases a with
    | none => simp [Conv.bytesToString, bs, Sem.run_pure]; rfl
    | some a =>
      have := run_bytesToString (P := P) w a 0 c [] (by simp [loadCells, loadCellsFrom])
      exact this
  · have hld : (loadCells ⟨b, off, none⟩ xs.length).run P w = .ok ((xs.map (fun b => (b.toNat : Int))).map (Value.int .u8)).toArray w := by
      have := run_loadCellsFrom (P := P) (off := off) (hS.mem hb) (xs.map vB) 0 #[] (by simpa using hcc)
      simp only [List.length_map] at this
      simp only [loadCells, this]
      simp
    rw [run_bytesToString w _ _ _ _ hld]
    congr 2
    have : ∀ (ys : List UInt8) (s : ByteArray), (ys.map (fun b => (b.toNat : Int))).foldl (fun r n => r.push (UInt8.ofNat n.toNat)) s = ⟨s.data ++ ys.toArray⟩ := by
      intro ys
      induction ys with
      | nil => intro s; simp
      | cons y ys ih => intro s; simp only [List.map_cons, List.foldl_cons, ih]; simp [ByteArray.push]
    rw [this]
    simp [bs]
theorem s_bytesS {xs : List UInt8} {e t2' : TypeId} (hS : St m As w) (hx : ev f x = v) (hv : SlR m v xs) (hu : P.underlying t = some (.slice e)) (he : P.underlying e = some (.int .u8)) (hd : P.underlying t2 = some .string)
    (h : wpl ρ P N D ops rest Q (upo N f dst (vS (bs xs))) w) :
    wpl ρ P N D ops (⟨dst, .convert t t2 x, ty, pos, af, none⟩ :: rest) Q f w := by
  refine wpl_val (v := vS (bs xs)) (w' := w) rfl (fun _ e => by cases e) ?_ h
  have hr := run_bytesS (P := P) hS hv
  obtain ⟨a, c, rfl⟩ := hv.val
  simp only [execOp, hx, convert, Sem.run_bind, run_underlying hu, run_underlying hd, run_underlying he, Result.andThen_ok, hr, Sem.run_pure]
section
variable {Ψ : (Nat → Bool) → Fr → Mem → World → Prop} {Fs : FactL} {ds : List Nat} {f0 : Fr} {L : Nat → Bool} {M : Mem} {i d : Nat} {φ : Mem → Value → Prop}
theorem oS (hm : MonoAll Fs) (l : m ≤ M) (S : Ψ (setL L i) (upo N f (some d) v) M w) (hnd : nodupB (Fs.map (·.1)) = true) (K : ∀ j, L j = true → factOf Fs j M f) (hi : Fs[i]? = some (d, φ)) (hd : Nat.blt d N = true) (hφ : φ M v)
    (ho : Out ds (upo N f (some d) v) f0) : wpl ρ P N D ops [] (thenF (flowI Ψ Fs ds f0 m (setL L i)) Q) (upo N f (some d) v) w := wpn ⟨M, l, S, facts_step hm hnd K (Mem.rfl' M) hi hd hφ, ho⟩
end
theorem St.imp0 {A B : Ow} (hS : St m (A :: As) w) (hi : ∀ h, A h → B h) : St m (B :: As) w := by
  obtain ⟨x, ⟨h1, h2, a, b, c, d⟩, d1, g, g', nd⟩ := hS.own
  exact ⟨hS.os, hS.tape, hS.output, x, ⟨h1, h2, hi _ a, b, c, d⟩, d1, g, g', nd⟩
theorem s_ofS {s : ByteArray} {zs : List UInt8} {e : TypeId} (hS : St m As w) (hx : ev f x = vS s) (hq : app 1 ([] : List UInt8) s.data.toList = some zs)
    (hu : P.underlying t = some .string) (hd : P.underlying t2 = some (.slice e)) (he : P.underlying e = some (.int .u8))
    (h : ∀ v' cs' w', St m (row 1 v' cs' zs.length :: As) w' → RepL m cs' zs → wpl ρ P N D ops rest Q (upo N f dst v') w') :
    wpl ρ P N D ops (⟨dst, .convert t t2 x, ty, pos, af, none⟩ :: rest) Q f w := by
  obtain ⟨⟨hb, h63⟩, hq⟩ := if_some hq
  simp only [List.length_nil, Nat.zero_add, Nat.mul_one, List.nil_append, Array.length_toList] at hb h63 hq
  cases hq
  have hge := grownCap_ge w s.size 0 e
  have hcm : grownCap w s.size 0 e ≤ maxLen := grownCap_le_maxLen w s.size 0 e (by simp only [maxLen]; show s.size ≤ _; have : s.size = s.data.size := rfl; omega)
  generalize hL : (s.data.map (fun b => Value.int .u8 (b.toNat : Int)) ++ Array.replicate (grownCap w s.size 0 e - s.size) (Value.int .u8 0)) = L
  have hsz : L.size = grownCap w s.size 0 e := by
    rw [← hL, Array.size_append, Array.size_map, Array.size_replicate]
    have : s.size = s.data.size := rfl
    omega
  have hlist : L.toList.take s.size = s.data.toList.map vB := by
    rw [← hL, Array.toList_append, Array.toList_map]
    have e1 : s.size = (s.data.toList.map (fun b : UInt8 => Value.int .u8 (b.toNat : Int))).length := by rw [List.length_map, Array.length_toList]; rfl
    rw [e1, List.take_left]
  have S1 := (hS.drew (w.drawn + 1)).push (.cells L e (0, 0)) cells_nd
  have hfz : (w.drew.alloc (.cells L e (0, 0))).freeze ⟨w.heap.size, L.size, none⟩ 1 = { w.drew.alloc (.cells L e (0, 0)) with heap := (w.heap.push (.cells L e (0, 0))).setIfInBounds w.heap.size (.cells L e (L.size, L.size + 1)) } := by
    simp only [World.freeze]
    rw [if_neg (by omega)]
    refine congrArg (fun z => { w.drew.alloc (.cells L e (0, 0)) with heap := z }) ?_
    apply Array.ext_getElem?
    intro k
    show ((w.heap.push _).modify _ _)[k]? = _
    rw [Array.getElem?_modify, Array.getElem?_setIfInBounds]
    by_cases hk : w.heap.size = k
    · subst hk; simp
    · simp [hk]
  have S2 := St.put S1 (i := 0) (b := w.heap.size) (o := .cells L e (0, 0)) rfl (.cells L e (L.size, L.size + 1)) { w.drew.alloc (.cells L e (0, 0)) with heap := (w.heap.push (.cells L e (0, 0))).setIfInBounds w.heap.size (.cells L e (L.size, L.size + 1)) } rfl rfl rfl rfl cells_nd
  have S3 : St m (row 1 (.slice (some ⟨w.heap.size, 0, none⟩) s.size (grownCap w s.size 0 e)) (s.data.toList.map vB) s.size :: As) { w.drew.alloc (.cells L e (0, 0)) with heap := (w.heap.push (.cells L e (0, 0))).setIfInBounds w.heap.size (.cells L e (L.size, L.size + 1)) } := by
    refine St.imp0 (A := blk w.heap.size (.cells L e (L.size, L.size + 1))) S2 fun h hh => ?_
    refine .inr ⟨w.heap.size, grownCap w s.size 0 e, L, e, (L.size, L.size + 1), rfl, hh, ?_, ?_, by rw [hsz]; omega, hge, hcm, .inr (Nat.le_refl _), .inr rfl⟩
    · rw [List.length_map, Array.length_toList]; show s.size = _; omega
    · rw [Nat.mul_one]; exact hlist
  refine wpl_val (v := .slice (some ⟨w.heap.size, 0, none⟩) s.size (grownCap w s.size 0 e)) (w' := { w.drew.alloc (.cells L e (0, 0)) with heap := (w.heap.push (.cells L e (0, 0))).setIfInBounds w.heap.size (.cells L e (L.size, L.size + 1)) }) rfl (fun _ e => by cases e) ?_ (h _ (s.data.toList.map vB) _ (by rw [Array.length_toList]; exact S3) ?_) ?_
  · have hsh : (w.drew.alloc (.cells L e (0, 0))).shape? w.heap.size = some (e, L.size) := by
      simp only [World.shape?]
      have : (w.drew.alloc (.cells L e (0, 0))).heap[w.heap.size]? = some (.cells L e (0, 0)) := heap_alloc_self w.drew _
      rw [this]
    rw [← hfz, ← hL]
    rw [← hL] at hsh
    simp only [grownCap] at hsh
    simp [execOp, hx, convert, run_underlying hu, run_underlying hd, run_underlying he, Conv.stringToBytes, Question.forced, newRow, markStringish, hsh, grownCap]
  · induction s.data.toList with
    | nil => exact RepL.nil
    | cons b l ih => exact RepL.cons (c := [vB b]) (x := b) rfl ih
  · have K2 : Kd (w.drew.alloc (.cells L e (0, 0))) { w.drew.alloc (.cells L e (0, 0)) with heap := (w.heap.push (.cells L e (0, 0))).setIfInBounds w.heap.size (.cells L e (L.size, L.size + 1)) } := Kd.set (b := w.heap.size) (heap_alloc_self w.drew _) cells_nd rfl
    have K1 : Kd w w.drew := Kd.heap rfl
    exact K1.tr ((Kd.push w.drew (.cells L e (0, 0))).tr K2)
def lkI : List (ByteArray × Bool) → ByteArray → Nat → Option (Nat × Bool)
  | [], _, _ => none
  | p :: r, k, i => if eqS k p.1 = true then some (i, p.2) else lkI r k (i + 1)
def lkB (kv : List (ByteArray × Bool)) (k : ByteArray) : Bool := ((lkI kv k 0).map (·.2)).getD false
def mpS (b : Nat) (kv : List (ByteArray × Bool)) : Ow := fun h => ∃ ms c, h = PH.one b (.map ms c) ∧ ms.toList.map (fun e => (e.key, e.val)) = kv.map (fun p => (vS p.1, vb p.2))
theorem map_nd {ms : Array MapEntry} {c : Nat} : Obj.map ms c ≠ dfr := fun h => by cases h
theorem findNow_S (k : ByteArray) : ∀ (l : List MapEntry) (kv : List (ByteArray × Bool)) (i : Nat), l.map (fun e => (e.key, e.val)) = kv.map (fun p => (vS p.1, vb p.2)) →
    Instr.findNow .string (vS k) l i = some ((lkI kv k i).map fun p => (p.1, vb p.2)) := by
  intro l
  induction l with
  | nil => intro kv i h; cases kv with
    | nil => rfl
    | cons p r => simp at h
  | cons e l ih =>
    intro kv i h
    cases kv with
    | nil => simp at h
    | cons p r =>
      simp only [List.map_cons, List.cons.injEq, Prod.mk.injEq] at h
      obtain ⟨⟨h1, h2⟩, h3⟩ := h
      have hs : Instr.sameNow .string (vS k) e.key = some (eqS k p.1) := by rw [h1, ← eqS_beq]; rfl
      simp only [Instr.findNow, hs, lkI]
      cases hq : eqS k p.1 with
      | true => simp [h2]
      | false => simp only [Bool.false_eq_true, if_false]; exact ih r (i + 1) h3
theorem St.map (hS : St m As w) {i b : Nat} {kv : List (ByteArray × Bool)} (hA : As[i]? = some (mpS b kv)) : ∃ ms c, w.heap[b]? = some (.map ms c) ∧ ms.toList.map (fun e => (e.key, e.val)) = kv.map (fun p => (vS p.1, vb p.2)) ∧
    ∀ (ms' : Array MapEntry) (c' : Nat) (kv' : List (ByteArray × Bool)) (w' : World), ms'.toList.map (fun e => (e.key, e.val)) = kv'.map (fun p => (vS p.1, vb p.2)) → w'.heap = w.heap.setIfInBounds b (.map ms' c') → w'.os = w.os → w'.tape = w.tape → w'.output = w.output →
      St m (As.set i (mpS b kv')) w' := by
  obtain ⟨h1, ⟨ms, c, rfl, hk⟩, hg, _, back⟩ := hS.take hA
  have hb := PH.agree_one.1 hg
  have hlt := (Array.getElem?_eq_some_iff.1 hb).1
  refine ⟨ms, c, hb, hk, fun ms' c' kv' w' hk' hw h2 h3 h4 => ?_⟩
  refine back (mpS b kv') (PH.one b (.map ms' c')) w' ⟨ms', c', rfl, hk'⟩ ?_ ?_ ?_ h2 h3 h4 (fun _ => .one map_nd)
  · intro k hk; left; simp only [PH.one] at hk ⊢
    split at hk
    · rename_i e; simp [e]
    · exact absurd rfl hk
  · rw [PH.agree_one, hw]; simp [hlt]
  · intro k _ hk; simp only [PH.one] at hk
    split at hk
    · cases hk
    · rename_i e; rw [hw, Array.getElem?_setIfInBounds_ne (by omega)]
theorem s_makeMap (hS : St m As w) (h : ∀ b w', St m (mpS b [] :: As) w' → wpl ρ P N D ops rest Q (upo N f dst (.map (some b))) w') :
    wpl ρ P N D ops (⟨dst, .makeMap t none, ty, pos, af, none⟩ :: rest) Q f w := by
  have S1 := (hS.push (.map #[] 0) map_nd).imp0 (B := mpS w.heap.size []) fun h hh => ⟨#[], 0, hh, rfl⟩
  refine wpl_val (v := .map (some w.heap.size)) (w' := w.alloc (.map #[] 0)) rfl (fun _ e => by cases e) ?_ (h _ _ S1) (Kd.push _ _)
  simp only [execOp, Instr.makeMap, Option.map_none, newObj, Sem.run_bind, Result.andThen_ok, Sem.run, Sem.run_pure]
  rfl
theorem s_lookupS {i b : Nat} {k : ByteArray} {kv : List (ByteArray × Bool)} {kt et : TypeId} (hS : St m As w) (hx : ev f x = .map (some b)) (hy : ev f y = vS k) (hA : As[i]? = some (mpS b kv))
    (hu : P.underlying t = some (.map kt et)) (hk : P.underlying kt = some .string) (hz : ∀ w, (zeroValue et).run P w = .ok (.bool false) w)
    (h : wpl ρ P N D ops rest Q (upo N f dst (vb (lkB kv k))) w) :
    wpl ρ P N D ops (⟨dst, .lookup t x y false, ty, pos, af, none⟩ :: rest) Q f w := by
  obtain ⟨ms, c, hb, hm, _⟩ := hS.map hA
  refine wpl_val (v := vb (lkB kv k)) (w' := w) rfl (fun _ e => by cases e) ?_ h
  have hf := MapKept.run_findKey (w := w) hk (findNow_S k ms.toList kv 0 hm)
  have hc := MapKept.run_checkKey (P := P) (w := w) hk (k := vS k) trivial ms.isEmpty 9999
  have hc' : (Instr.checkKey ms.isEmpty 10000 kt (vS k)).run P w = .ok () w := hc
  simp only [execOp, hx, hy, Instr.lookup, Sem.run_bind, run_underlying hu, Result.andThen_ok, MapKept.run_getObj_map hb, Sem.run_pure, hc', hf]
  unfold lkB
  cases lkI kv k 0 with
  | none => simp [hz]
  | some p => simp
theorem s_mapUpdS {i b : Nat} {k : ByteArray} {kv : List (ByteArray × Bool)} {u : Bool} {kt et : TypeId} (hS : St m As w) (hx : ev f x = .map (some b)) (hy : ev f y = vS k) (hc : ev f c = vb u) (hA : As[i]? = some (mpS b kv))
    (hu : P.underlying t = some (.map kt et)) (hk : P.underlying kt = some .string) (hn : (lkI kv k 0).isNone = true)
    (h : ∀ w', St m (As.set i (mpS b (kv ++ [(k, u)]))) w' → wpl ρ P N D ops rest Q (upo N f dst undef) w') :
    wpl ρ P N D ops (⟨dst, .mapUpdate t x y c, ty, pos, af, none⟩ :: rest) Q f w := by
  obtain ⟨ms, cl, hb, hm, back⟩ := hS.map hA
  have hnone : lkI kv k 0 = none := by simpa using hn
  have hf := MapKept.run_findKey (w := w) hk (findNow_S k ms.toList kv 0 hm)
  rw [hnone] at hf
  have hck := MapKept.run_checkKey (P := P) (w := w) hk (k := vS k) trivial false 9999
  have hc' : (Instr.checkKey false 10000 kt (vS k)).run P w = .ok () w := hck
  refine wpl_skipv (w' := { w with heap := w.heap.setIfInBounds b (.map (ms.push { key := vS k, val := vb u, born := cl }) (cl + 1)) }) rfl (fun _ e => by cases e) ?_ (h _ (back _ (cl + 1) _ _ ?_ rfl rfl rfl rfl)) (Kd.set hb map_nd rfl)
  · simp [execOp, hx, hy, hc, Instr.mapUpdate, run_underlying hu, MapKept.run_getObj_map hb, hc', hf, MapKept.run_setObj_map _ hb]
  · simp [hm]
theorem s_lenMap {i b : Nat} {kv : List (ByteArray × Bool)} {kt et : TypeId} (hS : St m As w) (hx : ev f x = .map (some b)) (hA : As[i]? = some (mpS b kv)) (hu : P.underlying t = some (.map kt et))
    (h : wpl ρ P N D ops rest Q (upo N f dst (vI kv.length)) w) :
    wpl ρ P N D ops (⟨dst, .call { callee := .builtin .len, args := #[x], argTypes := #[t] }, ty, pos, af, none⟩ :: rest) Q f w := by
  obtain ⟨ms, cl, hb, hm, back⟩ := hS.map hA
  have hl : ms.size = kv.length := by have := congrArg List.length hm; simpa using this
  refine wpl_val (v := vI kv.length) (w' := w) rfl (fun _ e => by cases e) ?_ h
  simp [execOp, resolve, invoke, builtin, Builtin.len_, hx, run_underlying hu, goInt, MapKept.run_getObj_map hb, hl]
theorem s_capNil {e : TypeId} (hx : ev f x = .slice none 0 0) (hu : P.underlying t = some (.slice e)) (h : wpl ρ P N D ops rest Q (upo N f dst (vI 0)) w) :
    wpl ρ P N D ops (⟨dst, .call { callee := .builtin .cap, args := #[x], argTypes := #[t] }, ty, pos, af, none⟩ :: rest) Q f w :=
  wpl_val (v := vI 0) (w' := w) rfl (fun _ e => by cases e) (by simp [execOp, resolve, invoke, builtin, Builtin.cap_, hx, run_underlying hu, goInt]) h
theorem s_appN {sz bytes : Nat} {k : Int} {z : Value} {e : TypeId} {ti : TypeInfo} {ik : IntKind} (hS : St m As w) (hx : ev f x = .slice none 0 0) (hy : ev f y = vI k) (hq : 0 ≤ k ∧ k * bytes ≤ 140737488355328 ∧ k ≤ 140737488355328)
    (ht : P.underlying t = some (.slice e)) (ht2 : P.underlying t2 = some (.int ik)) (hi : P.info? e = some ti) (hz : ti.zero = some z) (hsz : ti.size = sz) (hby : ti.bytes = bytes) (hzs : z.cells.size = sz)
    (h : ∀ v' cs' w', St m (row sz v' cs' k.toNat :: As) w' → wpl ρ P N D ops rest Q (upo N f dst v') w') :
    wpl ρ P N D ops (⟨dst, .call { callee := .builtin .append, args := #[x, y], argTypes := #[t, t2] }, ty, pos, af, none⟩ :: rest) Q f w := by
  obtain ⟨h0, hb, h63⟩ := hq
  obtain ⟨n, rfl⟩ := Int.eq_ofNat_of_zero_le h0
  subst hsz hby
  rw [Int.toNat_natCast] at h
  have hun : ∀ w, (underlying t).run P w = .ok (.slice e) w := fun w => run_underlying ht w
  have hu2 : ∀ w, (underlying t2).run P w = .ok (.int ik) w := fun w => run_underlying ht2 w
  have hw : IntKind.i64.wrap (n : Int) = (n : Int) := by rw [wrap_i64, w64_in (by omega) (by omega)]
  by_cases hn : n = 0
  · subst hn
    refine wpl_val (v := .slice none 0 0) (w' := w) rfl (fun _ e => by cases e) ?_ (h _ [] _ (hS.rowNil ti.size))
    have hw0 : IntKind.i64.wrap 0 = 0 := hw
    simp [execOp, resolve, invoke, builtin, hx, hy, Builtin.append_, hun, hu2, sizeOf, typeInfo, hi, asInt, asIntOf, hw0]
  · have hge := grownCap_ge w n 0 e
    have hcm : grownCap w n 0 e ≤ maxLen := grownCap_le_maxLen w n 0 e (by simp only [maxLen]; omega)
    have hbn : n * ti.bytes ≤ 140737488355328 := by
      have : ((n * ti.bytes : Nat) : Int) ≤ 140737488355328 := by rw [Int.natCast_mul]; exact hb
      omega
    have hfit := growslice_fits (need := n) (old := 0) (by omega) hbn
    have hl0 : ¬ ((n : Int) < 0) := by omega
    have hl1 : ¬ (281474976710656 < (n : Int) * (ti.bytes : Int)) := by omega
    have hl2 : ¬ (n ≤ 0) := by omega
    have hl3 : ¬ (9223372036854775807 < (n : Int)) := by omega
    have hl4 : ¬ (281474976710656 < Builtin.nextslicecap n 0 * ti.bytes) := by omega
    have S1 := ((hS.drew (w.drawn + 1)).push (.cells ((if n * ti.size = 0 then #[] else Builtin.zeroCells z.cells n) ++ Builtin.zeroCells z.cells (grownCap w n 0 e - n)) e (0, 0)) cells_nd).imp0
      (B := row ti.size (.slice (some ⟨w.heap.size, 0, none⟩) n (grownCap w n 0 e)) (((if n * ti.size = 0 then #[] else Builtin.zeroCells z.cells n) ++ Builtin.zeroCells z.cells (grownCap w n 0 e - n)).toList.take (n * ti.size)) n) fun q hh => by
        have e1 : ((if n * ti.size = 0 then #[] else Builtin.zeroCells z.cells n) : Array Value).size = n * ti.size := by
          split
          · rename_i hz0; rw [hz0]; rfl
          · rw [size_zeroCells, hzs]
        refine .inr ⟨w.heap.size, grownCap w n 0 e, _, e, (0, 0), rfl, hh, ?_, rfl, ?_, hge, hcm, .inl rfl, .inl rfl⟩
        · rw [List.length_take, Array.length_toList, Array.size_append, e1]; omega
        · rw [Array.size_append, e1, size_zeroCells, hzs, ← Nat.add_mul]; congr 1; omega
    refine wpl_val (v := .slice (some ⟨w.heap.size, 0, none⟩) n (grownCap w n 0 e)) (w' := w.drew.alloc (.cells ((if n * ti.size = 0 then #[] else Builtin.zeroCells z.cells n) ++ Builtin.zeroCells z.cells (grownCap w n 0 e - n)) e (0, 0))) rfl (fun _ e => by cases e) ?_ (h _ _ _ S1) ((Kd.heap rfl : Kd w w.drew).tr (Kd.push w.drew _))
    by_cases hz0 : n * ti.size = 0
    · have hz0' : n = 0 ∨ ti.size = 0 := Nat.mul_eq_zero.1 hz0
      simp [execOp, resolve, invoke, builtin, hx, hy, Builtin.append_, hun, hu2, sizeOf, typeInfo, zeroValue, hi, hz, asInt, asIntOf, hw, hl0, hl1, hl2, hl3, hl4, Question.forced, Builtin.firstCells, newRow, grownCap, hz0', hz0, hn]
    · have hz0' : ¬ (n = 0 ∨ ti.size = 0) := fun q => hz0 (Nat.mul_eq_zero.2 q)
      have hz1 : ti.size ≠ 0 := fun q => hz0' (.inr q)
      simp [execOp, resolve, invoke, builtin, hx, hy, Builtin.append_, hun, hu2, sizeOf, typeInfo, zeroValue, hi, hz, asInt, asIntOf, hw, hl0, hl1, hl2, hl3, hl4, Question.forced, Builtin.firstCells, newRow, grownCap, hn, hz0, hz1]
theorem RepL.replicate {α : Type} [GoT α] {m : Mem} {z : Value} {x : α} (h : GoT.rep m [z] x) : ∀ n : Nat, RepL m (List.replicate n z) (List.replicate n x)
  | 0 => rfl
  | n + 1 => ⟨[z], List.replicate n z, rfl, h, RepL.replicate h n⟩
theorem s_idxAM {n sz : Nat} {e : TypeId} {k : IntKind} {i : Int} {cs : List Value} (hx : ev f x = v) (hi : ev f y = .int k i) (hv : PtC m v cs) (hu : P.underlying t = some (.array n e)) (hs : ∀ w, (sizeOf e).run P w = .ok sz w) (h0 : 0 ≤ i) (h1 : i < n)
    (h : ∀ p, PtC m p (cs.drop (i.toNat * sz)) → wpl ρ P N D ops rest Q (upo N f dst p) w) :
    wpl ρ P N D ops (⟨dst, .indexAddr t x y, ty, pos, af, none⟩ :: rest) Q f w := by
  obtain ⟨b, off, l, e', fr, rfl, hb, hc⟩ := hv
  refine wpl_val (v := pt b (off + i.toNat * sz)) (w' := w) rfl (fun _ e => by cases e) ?_ (h _ ⟨b, _, l, e', fr, rfl, hb, fun j x hj => ?_⟩)
  · simp only [execOp, hx, hi, Instr.indexAt, asIntOf, Sem.run_bind, Sem.run_pure, Result.andThen_ok, run_underlying hu, Instr.sureAddr]
    simp [h0, h1, hs, addr_add]
  · have := hc (i.toNat * sz + j) x (by simpa using hj)
    rw [Nat.add_assoc]; exact this
theorem PtC.off {b k : Nat} {cs : List Value} (h : PtC m (pt b 0) cs) : PtC m (pt b k) (cs.drop k) := by
  obtain ⟨b', off, l, e', fr, e, hb, hc⟩ := h
  cases e
  exact ⟨b, k, l, e', fr, rfl, hb, fun j x hj => by have := hc (k + j) x (by simpa using hj); simpa using this⟩
theorem s_sliceM {α : Type} [GoT α] {n : Nat} {e : TypeId} {cs ds : List Value} {xs : List α} (hx : ev f x = v) (hv : PtC m v (cs ++ ds)) (hr : RepL m cs xs) (hn : xs.length = n) (hb : n ≤ 9223372036854775807) (hu : P.underlying t = some (.array n e)) (hs : ∀ w, (sizeOf e).run P w = .ok (GoT.sz α) w)
    (h : ∀ u, SlR m u xs → wpl ρ P N D ops rest Q (upo N f dst u) w) :
    wpl ρ P N D ops (⟨dst, .slice t x none none none, ty, pos, af, none⟩ :: rest) Q f w := by
  subst hn
  obtain ⟨b, off, l, e', fr, rfl, hb', hc⟩ := hv
  refine s_sliceA (k := xs.length) (n := xs.length) (sz := GoT.sz α) hx hu hs (.inl ⟨rfl, rfl⟩) (Nat.le_refl _) (h _ ⟨cs, ⟨hr.length, hb, ?_⟩, hr⟩)
  right
  refine ⟨b, off, xs.length, l, e', fr, rfl, Nat.le_refl _, hb', fun i y hy => hc i y ?_⟩
  have := (List.getElem?_eq_some_iff.1 hy).1
  rw [List.getElem?_append_left this]; exact hy
theorem idx5 {α : Type} {x a b c d e : α} {j : Int} (q : idx [a, b, c, d, e] j = some x) : (j = 0 ∧ x = a) ∨ (j = 1 ∧ x = b) ∨ (j = 2 ∧ x = c) ∨ (j = 3 ∧ x = d) ∨ (j = 4 ∧ x = e) := by
  rcases idx_cons q with h | q
  · exact .inl h
  · rcases idx4 q with ⟨h, e⟩ | ⟨h, e⟩ | ⟨h, e⟩ | ⟨h, e⟩
    · exact .inr (.inl ⟨by omega, e⟩)
    · exact .inr (.inr (.inl ⟨by omega, e⟩))
    · exact .inr (.inr (.inr (.inl ⟨by omega, e⟩)))
    · exact .inr (.inr (.inr (.inr ⟨by omega, e⟩)))
theorem idx8 {α : Type} {x a b c d e g h k : α} {j : Int} (q : idx [a, b, c, d, e, g, h, k] j = some x) : (j = 0 ∧ x = a) ∨ (j = 1 ∧ x = b) ∨ (j = 2 ∧ x = c) ∨ (j = 3 ∧ x = d) ∨ (j = 4 ∧ x = e) ∨ (j = 5 ∧ x = g) ∨ (j = 6 ∧ x = h) ∨ (j = 7 ∧ x = k) := by
  rcases idx_cons q with h | q
  · exact .inl h
  rcases idx_cons q with h | q
  · exact .inr (.inl ⟨by omega, h.2⟩)
  rcases idx_cons q with h | q
  · exact .inr (.inr (.inl ⟨by omega, h.2⟩))
  rcases idx5 q with ⟨h, e⟩ | ⟨h, e⟩ | ⟨h, e⟩ | ⟨h, e⟩ | ⟨h, e⟩
  · exact .inr (.inr (.inr (.inl ⟨by omega, e⟩)))
  · exact .inr (.inr (.inr (.inr (.inl ⟨by omega, e⟩))))
  · exact .inr (.inr (.inr (.inr (.inr (.inl ⟨by omega, e⟩)))))
  · exact .inr (.inr (.inr (.inr (.inr (.inr (.inl ⟨by omega, e⟩))))))
  · exact .inr (.inr (.inr (.inr (.inr (.inr (.inr ⟨by omega, e⟩))))))
theorem s_cutN {sz : Nat} {hi : Operand} {e : TypeId} {k : IntKind} (hx : ev f x = .slice none 0 0) (hu : P.underlying t = some (.slice e)) (hs : ∀ w, (sizeOf e).run P w = .ok sz w) (hj : ev f hi = .int k 0)
    (h : wpl ρ P N D ops rest Q (upo N f dst (.slice none 0 0)) w) :
    wpl ρ P N D ops (⟨dst, .slice t x none (some hi) none, ty, pos, af, none⟩ :: rest) Q f w := by
  have hrun := run_slice (P := P) (w := w) (t := t) (ao := none) (len := 0) (cap := 0) (lo := none) (hi := some (.int k ((0 : Nat) : Int))) (mx := none) hu hs (.inl ⟨rfl, rfl⟩) (.inr ⟨k, rfl⟩) (.inl ⟨rfl, rfl⟩) (Nat.le_refl 0) (Nat.le_refl 0) (Nat.le_refl 0)
  refine s_slice hx hu (u := .slice none 0 0) ?_ h
  simp only [Option.map_none, Option.map_some, hj]
  simpa using hrun
theorem s_cutX {i sz n : Nat} {cs : List Value} {lo : Operand} {e : TypeId} {k : IntKind} {j : Int} (hS : St m As w) (hx : ev f x = v) (hA : As[i]? = some (row sz v cs n)) (hu : P.underlying t = some (.slice e)) (hs : ∀ w, (sizeOf e).run P w = .ok sz w)
    (hj : ev f lo = .int k j) (h0 : 0 ≤ j) (hn : j ≤ n) (h : ∀ v', wpl ρ P N D ops rest Q (upo N f dst v') w) :
    wpl ρ P N D ops (⟨dst, .slice t x (some lo) none none, ty, pos, af, none⟩ :: rest) Q f w := by
  obtain ⟨j, rfl⟩ := Int.eq_ofNat_of_zero_le h0
  obtain ⟨q, ha, hg, _, back⟩ := hS.take hA
  rcases ha with ⟨rfl, rfl, rfl, rfl⟩ | ⟨b, cap, l, e', fr, rfl, rfl, hcl, htk, hls, hnc, hcm, hfr⟩
  · have hrun := run_slice (P := P) (w := w) (t := t) (ao := none) (len := 0) (cap := 0) (lo := some (.int k (j : Int))) (hi := none) (mx := none) hu hs (.inr ⟨k, rfl⟩) (.inl ⟨rfl, rfl⟩) (.inl ⟨rfl, rfl⟩) (by omega) (Nat.le_refl 0) (Nat.le_refl 0)
    exact s_slice hx hu (by simp only [Option.map_none, Option.map_some, hj]; exact hrun) (h _)
  · have hrun := run_slice (P := P) (w := w) (t := t) (ao := some ⟨b, 0, none⟩) (len := n) (cap := cap) (lo := some (.int k (j : Int))) (hi := none) (mx := none) hu hs (.inr ⟨k, rfl⟩) (.inl ⟨rfl, rfl⟩) (.inl ⟨rfl, rfl⟩) (by omega) hnc (Nat.le_refl cap)
    exact s_slice hx hu (by simp only [Option.map_none, Option.map_some, hj]; exact hrun) (h _)
def EqV (P : Program) (k : Nat) (t : TypeId) (u v : Value) (b : Bool) : Prop := ∀ d w, (Op.equalIn (d + k) t u v).run P w = .ok b w
theorem EqV.mono {k k' : Nat} {u v : Value} {r : Bool} (h : EqV P k t u v r) (hk : k ≤ k') : EqV P k' t u v r := fun d w => by
  have := h (d + (k' - k)) w
  rwa [show d + (k' - k) + k = d + k' from by omega] at this
theorem EqV.int {p q : Int} {k : IntKind} (hu : P.underlying t = some (.int k)) : EqV P 1 t (.int k p) (.int k q) (p == q) := fun d w => by simp [Op.equalIn, run_underlying hu]
theorem EqV.u64 {p q : UInt64} (hu : P.underlying t = some (.int .u64)) : EqV P 1 t (vU p) (vU q) (p == q) := fun d w => equ_d d hu
theorem EqV.bool {p q : Bool} (hu : P.underlying t = some .bool) : EqV P 1 t (vb p) (vb q) (p == q) := fun d w => by simp [Op.equalIn, run_underlying hu]
theorem EqV.str {p q : ByteArray} (hu : P.underlying t = some .string) : EqV P 1 t (vS p) (vS q) (eqS p q) := fun d w => by simp [Op.equalIn, run_underlying hu, eqS_beq]
theorem EqV.sum {e : TypeId} {p q : UInt64 × UInt64} (hu : P.underlying t = some (.array 2 e)) (he : P.underlying e = some (.int .u64)) (hs : ∀ w, (sizeOf e).run P w = .ok 1 w) (ha : ∀ w, (isAgg e).run P w = .ok false w) :
    EqV P 2 t (.agg #[vU p.1, vU p.2]) (.agg #[vU q.1, vU q.2]) (eqSum p q) := fun d w => eqSum_d d hu he hs ha
def FdE (P : Program) (k : Nat) (xs ys : Array Value) : List Field → List Bool → Prop
  | [], [] => True
  | f :: fs, b :: bs => (f.name ≠ "_" ∧ ∃ u v, (∀ w, (part f.type xs f.offset).run P w = .ok u w) ∧ (∀ w, (part f.type ys f.offset).run P w = .ok v w) ∧ EqV P k f.type u v b) ∧ FdE P k xs ys fs bs
  | _, _ => False
theorem eqFields_all {k d : Nat} {xs ys : Array Value} : ∀ {fs : List Field} {bs : List Bool}, FdE P k xs ys fs bs → ∀ w, (Op.eqFields (d + k) xs ys fs).run P w = .ok (bs.all id) w
  | [], [], _, w => by simp [Op.eqFields]
  | f :: fs, b :: bs, ⟨⟨hn, u, v, hu, hv, he⟩, h⟩, w => by
    simp only [Op.eqFields, hn, ne_eq, not_false_eq_true, if_true, Sem.run_bind, hu, hv, he d, Result.andThen_ok]
    cases b
    · simp
    · simp only [Bool.not_true, Bool.false_eq_true, if_false, eqFields_all h w]
      simp
  | [], _ :: _, h, _ => h.elim
  | _ :: _, [], h, _ => h.elim
theorem EqV.struct {k : Nat} {fs : Array Field} {cs ds : List Value} {bs : List Bool} (hu : P.underlying t = some (.struct fs)) (hp : P.stoodInHeld t = false) (h : FdE P k cs.toArray ds.toArray fs.toList bs) : EqV P (k + 1) t (.agg cs.toArray) (.agg ds.toArray) (bs.all id) := fun d w => by
  have hf : P.fieldsOf t = fs := by simp [Program.fieldsOf, hu]
  have := run_equalIn_struct (P := P) w (d + k) t cs.toArray ds.toArray (by rw [hf]; exact hu) hp
  rw [show d + (k + 1) = d + k + 1 from rfl, this, hf]
  exact eqFields_all h w
theorem fd1 {cs : List Value} {e : TypeId} {o : Nat} {u : Value} (ha : ∀ w, (isAgg e).run P w = .ok false w) (hs : ∀ w, (sizeOf e).run P w = .ok 1 w) (hd : (cs.drop o).take 1 = [u]) : ∀ w, (part e cs.toArray o).run P w = .ok u w := fun w => run_part (d := [u]) ha hs hd rfl (fun _ => rfl)
theorem fdA {cs d : List Value} {e : TypeId} {o sz : Nat} (ha : ∀ w, (isAgg e).run P w = .ok true w) (hs : ∀ w, (sizeOf e).run P w = .ok sz w) (hd : (cs.drop o).take sz = d) (hl : d.length = sz) : ∀ w, (part e cs.toArray o).run P w = .ok (.agg d.toArray) w := fun w => run_part ha hs hd hl (fun h => by cases h)
theorem s_eqlD {k : Nat} {u v : Value} {r : Bool} (hx : ev f x = u) (hy : ev f y = v) (he : EqV P k t u v r) (hk : k ≤ 10000) (hb : (binOp .eql t u v).run P w = ((Op.equal t u v).run P w).andThen fun r w => .ok (.bool r) w) (hg : (eqGuard .eql t x y u v).run P w = .ok () w)
    (h : wpl ρ P N D ops rest Q (upo N f dst (.bool r)) w) : wpl ρ P N D ops (⟨dst, .binOp .eql t x y t', ty, pos, af, none⟩ :: rest) Q f w := by
  have e1 : (Op.equal t u v).run P w = .ok r w := by
    have := he (10000 - k) w
    rwa [show 10000 - k + k = 10000 from by omega] at this
  exact wpl_eql hx hy hg (by rw [hb, e1]; rfl) h
theorem s_eqlA {k : Nat} {cs ds : List Value} {r : Bool} (hx : ev f x = .agg cs.toArray) (hy : ev f y = .agg ds.toArray) (he : EqV P k t (.agg cs.toArray) (.agg ds.toArray) r) (hk : Nat.ble k 10000 = true) (hg : P.eqGuardType P.depth t = false)
    (h : wpl ρ P N D ops rest Q (upo N f dst (.bool r)) w) : wpl ρ P N D ops (⟨dst, .binOp .eql t x y t', ty, pos, af, none⟩ :: rest) Q f w :=
  s_eqlD hx hy he (Nat.le_of_ble_eq_true hk) (by simp [binOp, Sem.run_bind]) (by simp [eqGuard, hg]) h
theorem s_neqA {k : Nat} {cs ds : List Value} {r : Bool} (hx : ev f x = .agg cs.toArray) (hy : ev f y = .agg ds.toArray) (he : EqV P k t (.agg cs.toArray) (.agg ds.toArray) r) (hk : Nat.ble k 10000 = true) (hg : P.eqGuardType P.depth t = false)
    (h : wpl ρ P N D ops rest Q (upo N f dst (.bool (!r))) w) : wpl ρ P N D ops (⟨dst, .binOp .neq t x y t', ty, pos, af, none⟩ :: rest) Q f w := by
  have e1 : (Op.equal t (.agg cs.toArray) (.agg ds.toArray)).run P w = .ok r w := by
    have := he (10000 - k) w
    rwa [show 10000 - k + k = 10000 from by have := Nat.le_of_ble_eq_true hk; omega] at this
  exact wpl_neq hx hy (by simp [eqGuard, hg]) (by simp [binOp, Sem.run_bind, e1]) h
end
end Go.Gw
end
