/- Regions that draw their order: whatever the order, what each operation tells stays. Conditions: none. -/
import Derived.Test.YtemiampgjgenhaaGreatDoorGwF
import Derived.OrdersIn
set_option linter.unusedSimpArgs false
set_option linter.unusedVariables false
namespace Go.Gw
open Go

def depsOk (ops : Array Oper) (L : Nat → Bool) (i : Nat) : Bool := ((ops[i]?).map (·.after.all fun e => !Region.binds .any e || L e.on)).getD false
def isDep (ops : Array Oper) (i j : Nat) : Bool := ((ops[i]?).map (·.after.toList.any fun e => Region.binds .any e && Nat.beq e.on j)).getD false
def setL (L : Nat → Bool) (i : Nat) : Nat → Bool := fun j => bif Nat.beq j i then true else L j
def backL (k : Nat) : List Oper → Bool
  | [] => true
  | o :: l => (o.after.toList.all fun e => !Region.binds .any e || Nat.blt e.on k) && backL (k + 1) l

theorem dep {ops : Array Oper} {L : Nat → Bool} {i j : Nat} (h : depsOk ops L i = true) (hd : isDep ops i j = true) : L j = true := by
  unfold depsOk at h; unfold isDep at hd
  cases e : ops[i]? with
  | none => rw [e] at h; cases h
  | some o =>
    rw [e] at h hd
    simp only [Option.map_some, Option.getD_some] at h hd
    rw [List.any_eq_true] at hd
    obtain ⟨x, hx, hb⟩ := hd
    rw [Array.all_eq_true_iff_forall_mem] at h
    have := h x (by simpa using hx)
    simp only [Bool.and_eq_true, Nat.beq_eq] at hb
    rw [hb.1, Bool.not_true, Bool.false_or, hb.2] at this
    exact this
theorem undep {ops : Array Oper} {L : Nat → Bool} {i k : Nat} (hc : ∀ k, L k = true → depsOk ops L k = true) (hi : L i = false) (hd : isDep ops k i = true) : L k = false := by
  cases e : L k with
  | false => rfl
  | true => rw [dep (hc k e) hd] at hi; cases hi

theorem beq_ne {a b : Nat} (h : a ≠ b) : Nat.beq a b = false := by
  cases e : Nat.beq a b with
  | false => rfl
  | true => exact absurd (Nat.eq_of_beq_eq_true e) h
theorem setL_self {L : Nat → Bool} {i : Nat} : setL L i i = true := by simp [setL]
theorem setL_of {L : Nat → Bool} {i j : Nat} (h : L j = true) : setL L i j = true := by simp [setL, h]
theorem setL_ne {L : Nat → Bool} {i j : Nat} (h : Nat.beq j i = false) : setL L i j = L j := by simp [setL, h]
theorem depsOk_mono {ops : Array Oper} {L L' : Nat → Bool} {i : Nat} (hl : ∀ j, L j = true → L' j = true) (h : depsOk ops L i = true) : depsOk ops L' i = true := by
  unfold depsOk at *
  cases e : ops[i]? with
  | none => rw [e] at h; cases h
  | some o =>
    rw [e] at h
    simp only [Option.map_some, Option.getD_some] at h ⊢
    rw [Array.all_eq_true_iff_forall_mem] at h ⊢
    intro x hx
    have := h x hx
    simp only [Bool.or_eq_true] at this ⊢
    exact this.imp id (hl _)

theorem backL_at {k i : Nat} {l : List Oper} {o : Oper} (h : backL k l = true) (hi : l[i]? = some o) : ∀ e ∈ o.after, Region.binds .any e = true → e.on < k + i := by
  induction l generalizing k i with
  | nil => simp at hi
  | cons a l ih =>
    simp only [backL, Bool.and_eq_true] at h
    cases i with
    | zero =>
      simp only [List.getElem?_cons_zero, Option.some.injEq] at hi
      subst hi
      intro e he hb
      have := List.all_eq_true.1 h.1 e (by simpa using he)
      rw [hb] at this
      simpa [Nat.blt_eq] using this
    | succ i =>
      simp only [List.getElem?_cons_succ] at hi
      intro e he hb
      have := ih h.2 hi e he hb
      omega

def cntF (L : Nat → Bool) : Nat → Nat
  | 0 => 0
  | n + 1 => cntF L n + (bif L n then 0 else 1)
theorem cntF_set {L : Nat → Bool} {i n : Nat} (hi : i < n) (hL : L i = false) : cntF L n = cntF (setL L i) n + 1 := by
  induction n with
  | zero => omega
  | succ n ih =>
    simp only [cntF]
    by_cases e : i = n
    · subst e
      have : ∀ m, m ≤ i → cntF (setL L i) m = cntF L m := by
        intro m hm
        induction m with
        | zero => rfl
        | succ m ihm => simp only [cntF]; rw [ihm (by omega), setL_ne (beq_ne (by omega))]
      rw [this i (Nat.le_refl _), setL_self, hL]; simp
    · rw [ih (by omega), setL_ne (j := n) (beq_ne (by omega))]; omega
theorem cntF_zero {L : Nat → Bool} {n : Nat} (h : cntF L n = 0) : ∀ i, i < n → L i = true := by
  induction n with
  | zero => intro i hi; omega
  | succ n ih =>
    simp only [cntF] at h
    intro i hi
    by_cases e : i = n
    · subst e
      cases k : L i with
      | true => rfl
      | false => rw [k] at h; simp at h
    · exact ih (by omega) i (by omega)
theorem cntF_false : ∀ n, cntF (fun _ => false) n = n
  | 0 => rfl
  | n + 1 => by simp [cntF, cntF_false n]

/-- One operation at an activation. -/
def wpO1 (ρ : Option Nat) (P : Program) (ops : Array Oper) (o : Oper) (K : Act → World → Prop) (Q : Exit → Act → World → Prop) (a : Act) (w : World) : Prop :=
  if Region.wanted o (yielded ops a.tmps) then o.uponIn (FW ρ) 0 P a K Q ((o.semAt ρ a.eval).run P w) else K (a.put o.dst undef) w

section
variable {ρ : Option Nat} {P : Program} {N : Nat} {D : World} {ops : Array Oper} {o : Oper}

theorem wpO1_op {Q : Exit → Act → World → Prop} {K K' : Act → World → Prop} {a : Act} {w : World} (hk : ∀ a w, K a w → K' a w) (h : wpO1 ρ P ops o K Q a w) :
    if Region.wanted o (yielded ops a.tmps) then o.wpIn (FW ρ) 0 P a w K' Q else (∀ f, o.about P w a.eval = some f → (FW ρ).fn f) ∧ K' (a.put o.dst undef) w := by
  unfold wpO1 at h
  split
  · rename_i hw
    rw [if_pos hw] at h
    refine ⟨fun _ _ => trivial, ?_⟩
    have hr : (FW ρ).round = ρ := rfl
    rw [hr]
    generalize (o.semAt ρ a.eval).run P w = r at *
    cases r with
    | ok n w' =>
      cases n <;> simp only [Oper.uponIn] at h ⊢ <;>
        first
          | exact hk _ _ h
          | exact ⟨h.1, CallsIn.mono h.2 (fun e w'' he => by cases e <;> first | exact hk _ _ he | exact he)⟩
          | exact ⟨h.1, RowsIn.mono h.2 (fun _ _ he => hk _ _ he)⟩
          | exact ⟨h.1, RoundIn.mono h.2 (fun e w'' he => by cases e <;> first | exact hk _ _ he | exact he)⟩
    | halt x w' => cases x <;> simp only [Oper.uponIn] at h ⊢ <;> exact h
  · rename_i hw
    rw [if_neg hw] at h
    exact ⟨fun _ _ => trivial, hk _ _ h⟩
theorem wpO1_mono {Q : Exit → Act → World → Prop} {K K' : Act → World → Prop} {a : Act} {w : World} (hk : ∀ a w, K a w → K' a w) (h : wpO1 ρ P ops o K Q a w) : wpO1 ρ P ops o K' Q a w := by
  have := wpO1_op hk h
  unfold wpO1
  split
  · rename_i hw; rw [if_pos hw] at this; exact this.2
  · rename_i hw; rw [if_neg hw] at this; exact this.2
theorem wpO1_of {Q : Post} {K : Fr → World → Prop} {a : Act} {w : World} (h : wpO ρ P ops (lift N D (thenF K Q)) [o] a w) : wpO1 ρ P ops o (fun a w => ∃ f, (Sim N a f ∧ Okd D a w) ∧ K f w) (lift N D Q) a w := by
  unfold wpO at h
  unfold wpO1
  split
  · rename_i hw
    rw [if_pos hw] at h
    have lo : LetsOut (lift N D (thenF K Q)) → LetsOut (lift N D Q) := fun ⟨x, y, z⟩ => ⟨x, y, z⟩
    generalize (o.semAt ρ a.eval).run P w = r at *
    cases r with
    | ok n w' =>
      cases n <;> simp only [Oper.uponIn, wpO] at h ⊢ <;>
        first
          | exact h
          | exact ⟨h.1, CallsIn.mono h.2 (fun e w'' he => by cases e <;> first | exact he | exact lo he)⟩
          | exact ⟨h.1, RowsIn.mono h.2 (fun _ _ he => he)⟩
          | exact ⟨h.1, RoundIn.mono h.2 (fun e w'' he => by cases e <;> first | exact he | exact lo he)⟩
    | halt x w' => cases x <;> simp only [Oper.uponIn] at h ⊢ <;> exact h
  · rename_i hw
    rw [if_neg hw] at h
    exact h

theorem flow_any {Q : Exit → Act → World → Prop} (hb : backL 0 ops.toList = true) (I : (Nat → Bool) → Act → World → Prop)
    (hstep : ∀ i o L a w, ops[i]? = some o → L i = false → depsOk ops L i = true → (∀ k, L k = true → depsOk ops L k = true) → I L a w → wpO1 ρ P ops o (I (setL L i)) Q a w)
    (hend : ∀ L a w, (∀ i, i < ops.size → L i = true) → I L a w → Q .normal a w) :
    ∀ (fuel : Nat) (listed : Array Bool) (L : Nat → Bool) (a : Act) (w : World), listed.size = ops.size → (∀ j, listed.getD j false = L j) → cntF L ops.size ≤ fuel → (∀ k, L k = true → depsOk ops L k = true) →
      I L a w → wpAnyIn (FW ρ) 0 P .any ops Q fuel listed a w := by
  have rdy : ∀ (listed : Array Bool) (L : Nat → Bool), listed.size = ops.size → (∀ j, listed.getD j false = L j) → ∀ i, i ∈ Region.ready .any ops listed ↔ (i < ops.size ∧ L i = false ∧ depsOk ops L i = true) := by
    intro listed L hsz hL i
    unfold Region.ready depsOk
    rw [List.mem_filter, List.mem_range]
    refine and_congr_right fun hi => ?_
    have e1 : listed.getD i true = L i := by
      rw [← hL i]
      simp only [Array.getD_eq_getD_getElem?]
      rw [Array.getElem?_eq_getElem (by omega)]; rfl
    have e2 : (fun e : Edge => !Region.binds .any e || listed.getD e.on false) = fun e => !Region.binds .any e || L e.on := by
      funext e; rw [hL]
    rw [e1, e2, Bool.and_eq_true]
    cases L i <;> simp
  have noneLeft : ∀ (L : Nat → Bool), (∀ i, ¬ (i < ops.size ∧ L i = false ∧ depsOk ops L i = true)) → ∀ i, i < ops.size → L i = true := by
    intro L hn i
    induction i using Nat.strongRecOn with
    | _ i ih =>
      intro hi
      cases e : L i with
      | true => rfl
      | false =>
        exfalso
        refine hn i ⟨hi, e, ?_⟩
        unfold depsOk
        rw [Array.getElem?_eq_getElem hi]
        simp only [Option.map_some, Option.getD_some]
        rw [Array.all_eq_true_iff_forall_mem]
        intro x hx
        cases hbx : Region.binds .any x with
        | false => rfl
        | true =>
          have hlt := backL_at hb (i := i) (o := ops[i]) (by simp [hi]) x hx hbx
          rw [ih x.on (by omega) (by omega)]
          simp
  intro fuel
  induction fuel with
  | zero =>
    intro listed L a w hsz hL hc hcl hI
    have hall := cntF_zero (by omega : cntF L ops.size = 0)
    refine ⟨?_, hend L a w hall hI⟩
    rw [List.eq_nil_iff_forall_not_mem]
    intro i hi
    have := (rdy listed L hsz hL i).1 hi
    rw [hall i this.1] at this
    cases this.2.1
  | succ fuel ih =>
    intro listed L a w hsz hL hc hcl hI
    refine ⟨fun h0 => hend L a w (noneLeft L fun i hi => ?_) hI, fun i hi => ?_⟩
    · have := (rdy listed L hsz hL i).2 hi
      rw [h0] at this; cases this
    · obtain ⟨h1, h2, h3⟩ := (rdy listed L hsz hL i).1 hi
      unfold wpOpIn
      rw [Array.getElem?_eq_getElem h1]
      refine wpO1_op (K := I (setL L i)) (fun a' w' hI' => ?_) (hstep i ops[i] L a w (Array.getElem?_eq_getElem h1) h2 h3 hcl hI)
      refine ih _ (setL L i) a' w' (by simp [hsz]) (fun j => ?_) (by have := cntF_set h1 h2; omega) (fun k hk => ?_) hI'
      · simp only [setL, Array.getD_eq_getD_getElem?, Array.getElem?_setIfInBounds]
        by_cases e : i = j
        · subst e; simp [hsz, h1]
        · rw [if_neg e]
          have : Nat.beq j i = false := beq_ne fun h => e h.symm
          rw [this, cond_false, ← hL j]; simp
      · cases e : Nat.beq k i with
        | true =>
          have e : k = i := by simpa using e
          subst e; exact depsOk_mono (fun j hj => setL_of hj) h3
        | false => rw [setL_ne e] at hk; exact depsOk_mono (fun j hj => setL_of hj) (hcl k hk)

end

/-! ### a forced tail -/
def msk (A : List Nat) : List Edge → Nat
  | [] => 0
  | e :: es => bif Region.binds .any e then (1 <<< e.on) ||| A.getD e.on 0 ||| msk A es else msk A es
def msks : List Oper → List Nat → List Nat
  | [], A => A
  | o :: l, A => msks l (A ++ [msk A o.after.toList])
def fullB (k : Nat) (A : List Nat) : Bool := (List.range A.length).all fun i => Nat.blt i k || Nat.beq (A.getD i 0 + 1) (1 <<< i)
def forcedB (l : List Oper) (k : Nat) : Bool := fullB k (msks l [])

def Anc (ops : Array Oper) (i m : Nat) : Prop := ∀ L : Nat → Bool, depsOk ops L i = true → (∀ k, L k = true → depsOk ops L k = true) → ∀ j, m.testBit j = true → L j = true
theorem msk_anc {ops : Array Oper} {A : List Nat} (hA : ∀ i m, A[i]? = some m → Anc ops i m) {i : Nat} {o : Oper} (ho : ops[i]? = some o) : Anc ops i (msk A o.after.toList) := by
  intro L hd hc
  have hall : ∀ e ∈ o.after.toList, Region.binds .any e = true → L e.on = true := by
    intro e he hb
    unfold depsOk at hd
    rw [ho] at hd
    simp only [Option.map_some, Option.getD_some] at hd
    rw [Array.all_eq_true_iff_forall_mem] at hd
    have := hd e (by simpa using he)
    rw [hb] at this
    simpa using this
  generalize o.after.toList = es at hall
  induction es with
  | nil => intro j hj; simp [msk] at hj
  | cons e es ih =>
    intro j hj
    simp only [msk] at hj
    have ih' := ih (fun e' he' => hall e' (List.mem_cons_of_mem _ he')) j
    cases hb : Region.binds .any e with
    | false => rw [hb] at hj; exact ih' hj
    | true =>
      rw [hb, cond_true] at hj
      have hL := hall e (List.mem_cons_self ..) hb
      simp only [Nat.testBit_or, Bool.or_eq_true] at hj
      rcases hj with (hj | hj) | hj
      · have : e.on = j := by
          rw [Nat.one_shiftLeft, Nat.testBit_two_pow] at hj
          simpa using hj
        rw [← this]; exact hL
      · rw [List.getD_eq_getElem?_getD] at hj
        cases hg : A[e.on]? with
        | none => rw [hg] at hj; simp at hj
        | some m => rw [hg] at hj; exact hA _ _ hg L (hc _ hL) hc j hj
      · exact ih' hj
theorem msks_anc {ops : Array Oper} : ∀ (l : List Oper) (A : List Nat), (∀ j, l[j]? = ops[A.length + j]?) → (∀ i m, A[i]? = some m → Anc ops i m) → ∀ i m, (msks l A)[i]? = some m → Anc ops i m := by
  intro l
  induction l with
  | nil => intro A _ hA; exact hA
  | cons o l ih =>
    intro A hl hA
    simp only [msks]
    refine ih _ (fun j => ?_) (fun i m hi => ?_)
    · have := hl (j + 1)
      simp only [List.getElem?_cons_succ] at this
      rw [this, List.length_append]; simp only [List.length_singleton]; congr 1; omega
    · rw [List.getElem?_append] at hi
      split at hi
      · exact hA i m hi
      · have : i = A.length := by
          cases h : i - A.length with
          | zero => omega
          | succ n => rw [h] at hi; simp at hi
        subst this
        simp only [Nat.sub_self, List.getElem?_cons_zero, Option.some.injEq] at hi
        subst hi
        exact msk_anc hA (by simpa using (hl 0).symm)
theorem msks_length : ∀ (l : List Oper) (A : List Nat), (msks l A).length = A.length + l.length := by
  intro l
  induction l with
  | nil => intro A; rfl
  | cons o l ih => intro A; simp only [msks, ih, List.length_append, List.length_cons, List.length_nil]; omega
theorem forced {l : List Oper} {k i : Nat} {L : Nat → Bool} (h : forcedB l k = true) (hk : k ≤ i) (hi : i < l.length) (hd : depsOk l.toArray L i = true) (hc : ∀ k, L k = true → depsOk l.toArray L k = true) :
    ∀ j, j < i → L j = true := by
  intro j hj
  have hlen : (msks l []).length = l.length := by simp [msks_length]
  have ha := msks_anc (ops := l.toArray) l [] (fun j => by simp) (fun i m h => by simp at h) i ((msks l [])[i]'(by omega)) (by simp)
  have := List.all_eq_true.1 h i (by simp [hlen, hi])
  simp only [Bool.or_eq_true, Nat.blt_eq, Nat.beq_eq] at this
  rcases this with this | this
  · omega
  · refine ha L hd hc j ?_
    rw [List.getD_eq_getElem?_getD, List.getElem?_eq_getElem (by omega), Option.getD_some, Nat.one_shiftLeft] at this
    have e : (msks l [])[i]'(by omega) = 2 ^ i - 1 := by omega
    rw [e, Nat.testBit_two_pow_sub_one]
    simpa using hj

section
variable {ρ : Option Nat} {P : Program} {N : Nat} {D : World} {Q : Post} {f : Fr} {w : World}

/-- The first k operations come in whatever order their edges leave; the others one by one. -/
theorem wpc_flow {id k : Nat} {l : List Oper} (hm : P.follows .mixedOrders = true) (hb : backL 0 l = true) (hf : forcedB l k = true) (hk : k ≤ l.length) (I : (Nat → Bool) → Fr → World → Prop)
    (h0 : I (fun _ => false) f { w with drawn := w.drawn + 1 })
    (hstep : ∀ i o L f w, i < k → l[i]? = some o → L i = false → depsOk l.toArray L i = true → (∀ k, L k = true → depsOk l.toArray L k = true) → I L f w → wpl ρ P N D l.toArray [o] (thenF (I (setL L i)) Q) f w)
    (hend : ∀ L f w, (∀ i, i < k → L i = true) → I L f w → wpl ρ P N D l.toArray (l.drop k) Q f w) : wpc ρ P N D (.region id l.toArray true) Q f w := fun a ha => by
  refine wpIn_region_any hm (flow_any (ρ := ρ) (by simpa using hb)
    (fun L a w => ((∀ i, k ≤ i → L i = false) ∧ ∃ f, (Sim N a f ∧ Okd D a w) ∧ I L f w) ∨ (∃ j, k ≤ j ∧ (∀ i, L i = decide (i < j)) ∧ wpO ρ P l.toArray (lift N D Q) (l.drop j) a w)) ?_ ?_ _ _ (fun _ => false) a _ (by simp)
    (fun j => by simp [Array.getD_eq_getD_getElem?, Array.getElem?_replicate]; split <;> rfl) (by rw [cntF_false]; exact Nat.le_refl _) (fun _ h => by cases h) (.inl ⟨fun _ _ => rfl, f, ⟨ha.1, ha.2.up (Kd.heap rfl)⟩, h0⟩))
  · rintro i o L a w ho hL hd hc hI
    have ho' : l[i]? = some o := by simpa using ho
    have hil : i < l.length := by
      rcases Nat.lt_or_ge i l.length with h | h
      · exact h
      · rw [List.getElem?_eq_none h] at ho'; cases ho'
    have tail : ∀ j, k ≤ i → (∀ x, L x = decide (x < j)) → i = j → wpO ρ P l.toArray (lift N D Q) (l.drop j) a w →
        wpO1 ρ P l.toArray o (fun a w => ((∀ x, k ≤ x → setL L i x = false) ∧ ∃ f, (Sim N a f ∧ Okd D a w) ∧ I (setL L i) f w) ∨ (∃ j, k ≤ j ∧ (∀ x, setL L i x = decide (x < j)) ∧ wpO ρ P l.toArray (lift N D Q) (l.drop j) a w)) (lift N D Q) a w := by
      rintro j hki hx rfl hw
      have hd : l.drop i = o :: l.drop (i + 1) := by
        rw [List.drop_eq_getElem_cons hil]
        rw [List.getElem?_eq_getElem hil] at ho'; cases ho'; rfl
      rw [hd] at hw
      refine wpO1_mono (fun a' w' h => .inr ⟨i + 1, by omega, fun x => ?_, h⟩) (show wpO1 ρ P l.toArray o (wpO ρ P l.toArray (lift N D Q) (l.drop (i + 1))) (lift N D Q) a w from hw)
      by_cases hxi : x = i
      · subst hxi; simp [setL]
      · rw [setL_ne (beq_ne hxi), hx x]; simp only [decide_eq_decide]; omega
    rcases hI with ⟨hno, f, hs, hI⟩ | ⟨j, hkj, hx, hw⟩
    · rcases Nat.lt_or_ge i k with h | h
      · refine wpO1_mono ?_ (wpO1_of (hstep i o L f w h ho' hL hd hc hI a hs))
        exact fun a' w' h' => .inl ⟨fun x hx => by rw [setL_ne (beq_ne (by omega))]; exact hno x hx, h'⟩
      · have hall := forced hf h hil hd hc
        have : i = k := by
          rcases Nat.lt_or_ge k i with h' | h'
          · have := hall k h'; rw [hno k (Nat.le_refl _)] at this; cases this
          · omega
        refine tail k h (fun x => ?_) this (hend L f w (fun x hx => hall x (by omega)) hI a hs)
        rcases Nat.lt_or_ge x k with hx | hx
        · rw [hall x (by omega)]; simp [hx]
        · rw [hno x hx]; simp; omega
    · have hji : j ≤ i := by
        rw [hx i] at hL
        have := of_decide_eq_false hL; omega
      have : i = j := by
        rcases Nat.lt_or_ge j i with h | h
        · have := forced hf (by omega) hil hd hc j h
          rw [hx j] at this; simp at this
        · omega
      exact tail j (by omega) hx this hw
  · rintro L a w hall hI
    rcases hI with ⟨hno, f, hs, hI⟩ | ⟨j, hkj, hx, hw⟩
    · have hkl : k = l.length := by
        rcases Nat.lt_or_ge k l.length with h | h
        · have := hall k (by simpa using h); rw [hno k (Nat.le_refl _)] at this; cases this
        · omega
      have := hend L f w (fun i hi => hall i (by simp; omega)) hI a hs
      rw [List.drop_eq_nil_of_le (by omega)] at this
      exact this
    · have hjl : l.length ≤ j := by
        rcases Nat.lt_or_ge j l.length with h | h
        · have := hall j (by simpa using h); rw [hx j] at this; simp at this
        · exact h
      rw [List.drop_eq_nil_of_le hjl] at hw
      exact hw
end

/-! ### what each operation tells -/
abbrev FactL := List (Nat × (Mem → Value → Prop))
def factOf (Fs : FactL) (i : Nat) (m : Mem) (f : Fr) : Prop :=
  match Fs[i]? with
  | some p => p.2 m (f p.1)
  | none => True
def MonoAll : FactL → Prop
  | [] => True
  | p :: r => (∀ m M v, m ≤ M → p.2 m v → p.2 M v) ∧ MonoAll r
theorem MonoAll.at {Fs : FactL} (h : MonoAll Fs) {i : Nat} {p : Nat × (Mem → Value → Prop)} (hi : Fs[i]? = some p) : ∀ m M v, m ≤ M → p.2 m v → p.2 M v := by
  induction Fs generalizing i with
  | nil => simp at hi
  | cons a r ih =>
    cases i with
    | zero => simp at hi; subst hi; exact h.1
    | succ i => exact ih h.2 (by simpa using hi)
def nodupB : List Nat → Bool
  | [] => true
  | a :: r => !memb a r && nodupB r
theorem memb_at {l : List Nat} {i d : Nat} (h : l[i]? = some d) : memb d l = true := by
  induction l generalizing i with
  | nil => simp at h
  | cons a l ih =>
    simp only [memb]
    cases i with
    | zero => simp at h; subst h; simp
    | succ i => rw [ih (by simpa using h)]; cases Nat.beq d a <;> rfl
theorem nodupB_at {l : List Nat} (h : nodupB l = true) : ∀ {i j d : Nat}, l[i]? = some d → l[j]? = some d → i = j := by
  induction l with
  | nil => intro i j d hi; simp at hi
  | cons a l ih =>
    simp only [nodupB, Bool.and_eq_true, Bool.not_eq_true'] at h
    intro i j d hi hj
    cases i with
    | zero =>
      cases j with
      | zero => rfl
      | succ j => simp at hi hj; subst hi; rw [memb_at (i := j) (by simpa using hj)] at h; cases h.1
    | succ i =>
      cases j with
      | zero => simp at hi hj; subst hj; rw [memb_at (i := i) (by simpa using hi)] at h; cases h.1
      | succ j => exact congrArg (· + 1) (ih h.2 (d := d) (by simpa using hi) (by simpa using hj))
theorem facts_up {Fs : FactL} {L : Nat → Bool} {f : Fr} {m M : Mem} (hm : MonoAll Fs) (K : ∀ j, L j = true → factOf Fs j m f) (l : m ≤ M) : ∀ j, L j = true → factOf Fs j M f := by
  intro j hj
  have := K j hj
  unfold factOf at *
  split
  · rename_i p hp; rw [hp] at this; exact hm.at hp _ _ _ l this
  · trivial
theorem facts_step {Fs : FactL} {L : Nat → Bool} {f : Fr} {m M : Mem} {N i d : Nat} {v : Value} {φ : Mem → Value → Prop} (hm : MonoAll Fs) (hnd : nodupB (Fs.map (·.1)) = true)
    (K : ∀ j, L j = true → factOf Fs j m f) (l : m ≤ M) (hi : Fs[i]? = some (d, φ)) (hd : Nat.blt d N = true) (hφ : φ M v) : ∀ j, setL L i j = true → factOf Fs j M (upo N f (some d) v) := by
  intro j hj
  have hv : ∀ t, t ≠ d → up N f d v t = f t := fun t ht => by simp only [up]; rw [beq_ne ht]; rfl
  cases e : Nat.beq j i with
  | true =>
    have : j = i := by simpa using e
    subst this
    unfold factOf
    rw [hi]
    simp only [upo, up, hd, Nat.beq_refl, Bool.and_self, cond_true]
    exact hφ
  | false =>
    rw [setL_ne e] at hj
    have hk := facts_up hm K l j hj
    unfold factOf at *
    split
    · rename_i p hp
      rw [hp] at hk
      have hne : p.1 ≠ d := fun h => by
        have := nodupB_at hnd (i := j) (j := i) (d := d) (by simp [hp, h]) (by simp [hi])
        subst this; simp at e
      simp only [upo]
      rw [hv _ hne]
      exact hk
    · trivial
theorem facts_none {Fs : FactL} {L : Nat → Bool} {f : Fr} {m M : Mem} {N i d : Nat} {v : Value} {φ : Mem → Value → Prop} (hm : MonoAll Fs)
    (K : ∀ j, L j = true → factOf Fs j m f) (l : m ≤ M) (hi : Fs[i]? = some (d, φ)) (hφ : ∀ v, φ M v) : ∀ j, setL L i j = true → factOf Fs j M (upo N f none v) := by
  intro j hj
  cases e : Nat.beq j i with
  | true =>
    have : j = i := by simpa using e
    subst this
    unfold factOf
    rw [hi]
    exact hφ _
  | false =>
    rw [setL_ne e] at hj
    exact facts_up hm K l j hj

/-! ### as the walks use it -/
def bxv (v : Value) (cs : List Value) (t : TypeId) : Ow :=
  match v with
  | .pointer (some a) => bx a.block cs t
  | _ => bx 0 cs t
def AllI (p : Nat → Prop) : List Nat → Prop
  | [] => True
  | i :: r => p i ∧ AllI p r
theorem AllI.at {p : Nat → Prop} {l : List Nat} (h : AllI p l) {i : Nat} (hi : i ∈ l) : p i := by
  induction l with
  | nil => cases hi
  | cons a l ih =>
    rcases List.mem_cons.1 hi with rfl | hi
    · exact h.1
    · exact ih h.2 hi
abbrev flowI (Ψ : (Nat → Bool) → Fr → Mem → World → Prop) (Fs : FactL) (ds : List Nat) (f0 : Fr) (m : Mem) : (Nat → Bool) → Fr → World → Prop :=
  fun L f w => ∃ M, m ≤ M ∧ Ψ L f M w ∧ (∀ j, L j = true → factOf Fs j M f) ∧ Out ds f f0

def gu {α : Type} [Inhabited α] (c : Bool) (o : Option α) : Option α := bif c then o else some default
theorem gu_t {α : Type} [Inhabited α] {c : Bool} {o : Option α} {x : α} (hc : c = true) (h : gu c o = some x) : o = some x := by rw [gu, hc] at h; exact h

section
variable {ρ : Option Nat} {P : Program} {N : Nat} {D : World} {Q : Post} {f : Fr} {w : World}
theorem wpc_flowF {id k : Nat} {l : List Oper} {m : Mem} (hm : P.follows .mixedOrders = true) (is : List Nat) (his : is = List.range k) (hb : backL 0 l = true) (hf : forcedB l k = true) (hk : Nat.ble k l.length = true)
    (Fs : FactL) (ds : List Nat) (Ψ : (Nat → Bool) → Fr → Mem → World → Prop) (h0 : Ψ (fun _ => false) f m { w with drawn := w.drawn + 1 })
    (hstep : AllI (fun i => ∀ o L f' w, l[i]? = some o → L i = false → depsOk l.toArray L i = true → (∀ k, L k = true → depsOk l.toArray L k = true) → flowI Ψ Fs ds f m L f' w →
      wpl ρ P N D l.toArray [o] (thenF (flowI Ψ Fs ds f m (setL L i)) Q) f' w) is)
    (hend : ∀ L f' w, (∀ i, i < k → L i = true) → flowI Ψ Fs ds f m L f' w → wpl ρ P N D l.toArray (l.drop k) Q f' w) : wpc ρ P N D (.region id l.toArray true) Q f w :=
  wpc_flow hm hb hf (Nat.le_of_ble_eq_true hk) (flowI Ψ Fs ds f m) ⟨m, Mem.rfl' m, h0, fun _ h => Bool.noConfusion (show false = true from h), Out.refl⟩
    (fun i o L f' w hi ho hL hd hc hI => hstep.at (by rw [his]; exact List.mem_range.2 hi) o L f' w ho hL hd hc hI) hend
end
end Go.Gw
