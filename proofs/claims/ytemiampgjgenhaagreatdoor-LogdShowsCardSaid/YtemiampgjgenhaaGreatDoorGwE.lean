/- Ways that meet, loops, calls, and slices of one's own that are read and written. Conditions: none. -/
import Derived.Test.YtemiampgjgenhaaGreatDoorGwD
set_option linter.unusedSimpArgs false
set_option linter.unusedVariables false
namespace Go.Gw
open Go

/-! ### frames that are known in part -/
def memb (t : Nat) : List Nat → Bool
  | [] => false
  | d :: ds => bif Nat.beq t d then true else memb t ds
def hv (f : Fr) (ds : List Nat) (u : Fr) : Fr := fun t => bif memb t ds then u t else f t
def ups (N : Nat) (f : Fr) : List (Nat × Value) → Fr
  | [] => f
  | p :: L => up N (ups N f L) p.1 p.2
def AllAt (f : Fr) : List (Nat × Value) → Prop
  | [] => True
  | p :: L => f p.1 = p.2 ∧ AllAt f L
/-- F is f but for these slots. -/
def Out (ds : List Nat) (F f : Fr) : Prop := ∀ t, memb t ds = false → F t = f t

theorem Out.refl {ds : List Nat} {f : Fr} : Out ds f f := fun _ _ => rfl
theorem Out.trans {ds : List Nat} {a b c : Fr} (h : Out ds a b) (k : Out ds b c) : Out ds a c := fun t e => (h t e).trans (k t e)
theorem Out.up {ds : List Nat} {F f : Fr} {N d : Nat} {v : Value} (h : Out ds F f) (hd : memb d ds = true) : Out ds (up N F d v) f := fun t e => by
  have : Nat.beq t d = false := by
    rw [← Bool.not_eq_true, Nat.beq_eq]
    rintro rfl
    rw [hd] at e; cases e
  simp only [Gw.up, this, Bool.false_and, cond_false]
  exact h t e
theorem Out.uq {ds : List Nat} {F f : Fr} {N d : Nat} {v : Value} (h : Out ds F f) (hd : memb d ds = true) : Out ds (upo N F (some d) v) f := Out.up h hd
theorem Out.none {ds : List Nat} {F f : Fr} {N : Nat} {v : Value} (h : Out ds F f) : Out ds (upo N F none v) f := h
def subs : List Nat → List Nat → Bool
  | [], _ => true
  | a :: as, bs => memb a bs && subs as bs
theorem memb_sub {as bs : List Nat} (h : subs as bs = true) {t : Nat} (ht : memb t as = true) : memb t bs = true := by
  induction as with
  | nil => simp [memb] at ht
  | cons a as ih =>
    simp only [subs, Bool.and_eq_true] at h
    simp only [memb] at ht
    cases e : Nat.beq t a with
    | true => rw [Nat.beq_eq] at e; subst e; exact h.1
    | false => rw [e] at ht; exact ih h.2 ht
theorem Out.hv {ds as : List Nat} {F f u : Fr} (h : Out ds F f) (hs : subs as ds = true) : Out ds (hv F as u) f := fun t e => by
  have : memb t as = false := by
    cases k : memb t as with
    | false => rfl
    | true => rw [memb_sub hs k] at e; cases e
  simp only [Gw.hv, this, cond_false]
  exact h t e
theorem Out.ups0 {ds : List Nat} {F f : Fr} {N : Nat} (h : Out ds F f) : Out ds (ups N F []) f := h
theorem Out.upsC {ds : List Nat} {F f : Fr} {N d : Nat} {v : Value} {L : List (Nat × Value)} (h : Out ds (ups N F L) f) (hd : memb d ds = true) : Out ds (ups N F ((d, v) :: L)) f := Out.up h hd
theorem up_self {N d : Nat} {f : Fr} {v : Value} (h : f d = v) : up N f d v = f := by
  funext t
  simp only [up]
  cases e : Nat.beq t d && Nat.blt d N with
  | false => rfl
  | true => simp only [Bool.and_eq_true, Nat.beq_eq] at e; rw [e.1, cond_true, h]
theorem fr_of {N : Nat} {ds : List Nat} {F f : Fr} {L : List (Nat × Value)} (ho : Out ds F f) (ha : AllAt F L) : ∃ u, F = ups N (hv f ds u) L := by
  refine ⟨F, ?_⟩
  have h1 : hv f ds F = F := by
    funext t
    simp only [hv]
    cases e : memb t ds with
    | true => rfl
    | false => exact (ho t e).symm
  rw [h1]
  induction L with
  | nil => rfl
  | cons p L ih => simp only [ups]; rw [← ih ha.2]; exact (up_self ha.1).symm

section
variable {ρ : Option Nat} {P : Program} {N : Nat} {D : World} {ops : Array Oper} {rest : List Oper} {Q : Post} {f : Fr} {w w' : World} {v : Value} {K : Fr → World → Prop}

/-! ### what is left to do -/
theorem nrm (h : K f w) : thenF K Q .normal f w := h
theorem thE {id : Nat} (h : Q (.exit id) f w) : thenF K Q (.exit id) f w := h
theorem thR (h : Q .ret f w) : thenF K Q .ret f w := h
theorem nrmB {id : Nat} (h : Q .normal f w) : inBlk id Q .normal f w := h
theorem blR {id : Nat} (h : Q .ret f w) : inBlk id Q .ret f w := h
theorem exB {id : Nat} (h : Q .normal f w) : inBlk id Q (.exit id) f w := by simp only [inBlk, Nat.beq_refl, cond_true]; exact h
theorem exN {id id' : Nat} (hne : Nat.beq id' id = false) (h : Q (.exit id') f w) : inBlk id Q (.exit id') f w := by simp only [inBlk, hne, cond_false]; exact h

/-- Ways that meet: what is known where they do. -/
theorem wpc_join {c : Code} (ds : List Nat) (R : Fr → World → Prop) (h : wpc ρ P N D c (thenF (fun f' w' => Out ds f' f ∧ R f' w') Q) f w)
    (hk : ∀ f' w', Out ds f' f → R f' w' → K f' w') : wpc ρ P N D c (thenF K Q) f w :=
  wpc_mono (fun e f w q => by cases e <;> first | exact hk _ _ q.1 q.2 | exact q) h

/-- Ways that meet within a list of operations. -/
theorem wpl_cut {l : List Oper} (k : Nat) (ds : List Nat) (R : Fr → World → Prop) (h : wpl ρ P N D ops (l.take k) (thenF (fun f' w' => Out ds f' f ∧ R f' w') Q) f w)
    (hk : ∀ f' w', Out ds f' f → R f' w' → wpl ρ P N D ops (l.drop k) Q f' w') : wpl ρ P N D ops l Q f w := fun a ha => by
  have h' := h a ha
  rw [← List.take_append_drop k l]
  refine wpO_append _ _ a w (wpO_mono ?_ _ a w h') ?_
  · rintro e a' w' ⟨f', s, q⟩
    cases e with
    | normal => exact hk f' w' q.1 q.2 a' s
    | _ => exact ⟨f', s, q⟩
  · rintro ⟨a', w', h⟩
    exact ⟨a', w', h⟩

/-- A loop: what is left falls, and all but these slots stay. -/
theorem wpc_rounds {c : Code} (ds : List Nat) (I : Nat → Fr → World → Prop) (n : Nat) (h0 : I n f w)
    (round : ∀ n f' w', Out ds f' f → I n f' w' → wpc ρ P N D c (thenF (fun f'' w'' => Out ds f'' f' ∧ ∃ n', n' < n ∧ I n' f'' w'') Q) f' w') : wpc ρ P N D (.loop c) Q f w := by
  refine wpc_loop (fun n f' w' => Out ds f' f ∧ I n f' w') n ⟨Out.refl, h0⟩ ?_
  rintro n f' w' ⟨ho, hI⟩
  refine wpc_mono ?_ (round n f' w' ho hI)
  intro e f'' w'' q
  cases e with
  | normal => obtain ⟨ho', n', hlt, hI'⟩ := q; exact ⟨n', hlt, ho'.trans ho, hI'⟩
  | _ => exact q
end

/-! ### what a model asks of loops -/
def iter {σ τ : Type} (step : σ → Option (σ ⊕ τ)) : Nat → σ → Option τ
  | 0, _ => none
  | n + 1, s => obind (step s) fun r => match r with | .inl s' => iter step n s' | .inr t => some t
def FUEL : Nat := 18446744073709551616
def eachR {α σ τ : Type} (body : Int → α → σ → Option (σ ⊕ τ)) : List α → Int → σ → Option (σ ⊕ τ)
  | [], _, s => some (.inl s)
  | x :: xs, i, s => obind (body i x s) fun r => match r with | .inl s' => eachR body xs (i + 1) s' | .inr t => some (.inr t)
def eachN {σ τ : Type} (body : Int → σ → Option (σ ⊕ τ)) : Nat → Int → σ → Option (σ ⊕ τ)
  | 0, _, s => some (.inl s)
  | n + 1, i, s => obind (body i s) fun r => match r with | .inl s' => eachN body n (i + 1) s' | .inr t => some (.inr t)
def bnd {α β : Type} (a : α) (k : α → β) : β := k a
theorem bnd_eq {α β : Type} {a : α} {k : α → β} {r : β} (h : bnd a k = r) : ∃ x, x = a ∧ k x = r := ⟨a, rfl, h⟩

theorem iter_zero {σ τ : Type} {step : σ → Option (σ ⊕ τ)} {s : σ} {t : τ} (h : iter step 0 s = some t) : False := by cases h
theorem iter_succ {σ τ : Type} {step : σ → Option (σ ⊕ τ)} {n : Nat} {s : σ} {t : τ} (h : iter step (n + 1) s = some t) : ∃ r, step s = some r ∧ ((∃ s', r = .inl s' ∧ iter step n s' = some t) ∨ r = .inr t) := by
  obtain ⟨r, h1, h2⟩ := obind_some h
  refine ⟨r, h1, ?_⟩
  cases r with
  | inl s' => exact .inl ⟨s', rfl, h2⟩
  | inr t' => exact .inr (by cases h2; rfl)
theorem iter_mono {σ τ : Type} {step : σ → Option (σ ⊕ τ)} {n m : Nat} {s : σ} {t : τ} (h : iter step n s = some t) (hle : n ≤ m) : iter step m s = some t := by
  induction n generalizing m s with
  | zero => cases h
  | succ n ih =>
    obtain ⟨m, rfl⟩ : ∃ k, m = k + 1 := ⟨m - 1, by omega⟩
    obtain ⟨r, h1, ⟨s', rfl, h2⟩ | rfl⟩ := iter_succ h
    · simp only [iter, h1, obind_some']; exact ih h2 (by omega)
    · simp only [iter, h1, obind_some']

theorem drop_cons {α : Type} {xs : List α} {i : Nat} (hi : i < xs.length) : ∃ x, xs[i]? = some x ∧ xs.drop i = x :: xs.drop (i + 1) :=
  ⟨xs[i], by simp [hi], List.drop_eq_getElem_cons hi⟩
theorem idx_nat {α : Type} {xs : List α} {i : Nat} {x : α} (h : xs[i]? = some x) : idx xs (i : Int) = some x := by
  simp [idx, h]
/-- One round of a range over a slice. -/
theorem eachR_in {α σ τ : Type} {body : Int → α → σ → Option (σ ⊕ τ)} {xs : List α} {i : Nat} {s : σ} {t : σ ⊕ τ} (h : eachR body (xs.drop i) i s = some t) (hi : i < xs.length) :
    ∃ x y, idx xs (i : Int) = some x ∧ body i x s = some y ∧ ((∃ s', y = .inl s' ∧ eachR body (xs.drop (i + 1)) ((i + 1 : Nat) : Int) s' = some t) ∨ ∃ q, y = .inr q ∧ t = .inr q) := by
  obtain ⟨x, hx, hd⟩ := drop_cons hi
  rw [hd] at h
  obtain ⟨y, h1, h2⟩ := obind_some h
  refine ⟨x, y, idx_nat hx, h1, ?_⟩
  cases y with
  | inl s' => exact .inl ⟨s', rfl, h2⟩
  | inr q => exact .inr ⟨q, rfl, by cases h2; rfl⟩
theorem eachR_out {α σ τ : Type} {body : Int → α → σ → Option (σ ⊕ τ)} {xs : List α} {i : Nat} {s : σ} {t : σ ⊕ τ} (h : eachR body (xs.drop i) i s = some t) (hi : ¬ i < xs.length) : t = .inl s := by
  rw [List.drop_eq_nil_of_le (by omega)] at h
  cases h; rfl
theorem eachN_in {σ τ : Type} {body : Int → σ → Option (σ ⊕ τ)} {n i : Nat} {s : σ} {t : σ ⊕ τ} (h : eachN body (n - i) i s = some t) (hi : i < n) :
    ∃ y, body i s = some y ∧ ((∃ s', y = .inl s' ∧ eachN body (n - (i + 1)) ((i + 1 : Nat) : Int) s' = some t) ∨ ∃ q, y = .inr q ∧ t = .inr q) := by
  obtain ⟨k, hk⟩ : ∃ k, n - i = k + 1 := ⟨n - i - 1, by omega⟩
  rw [hk] at h
  obtain ⟨y, h1, h2⟩ := obind_some h
  refine ⟨y, h1, ?_⟩
  cases y with
  | inl s' => exact .inl ⟨s', rfl, by rw [show n - (i + 1) = k from by omega]; exact h2⟩
  | inr q => exact .inr ⟨q, rfl, by cases h2; rfl⟩
theorem eachN_out {σ τ : Type} {body : Int → σ → Option (σ ⊕ τ)} {n i : Nat} {s : σ} {t : σ ⊕ τ} (h : eachN body (n - i) i s = some t) (hi : ¬ i < n) : t = .inl s := by
  rw [show n - i = 0 from by omega] at h
  cases h; rfl
theorem w64_succ {i n : Nat} (hi : i < n) (hn : n ≤ 9223372036854775807) : w64 ((i : Int) + 1) = ((i + 1 : Nat) : Int) := by rw [w64_in (by omega) (by omega)]; rfl

section
variable {ρ : Option Nat} {P : Program} {N : Nat} {D : World} {ops : Array Oper} {rest : List Oper} {Q : Post} {f : Fr} {w w' : World} {v : Value}
variable {dst : Option Nat} {ty t t' t2 : TypeId} {pos : String} {af : Array Edge} {x y c a b : Operand} {m : Mem} {As : List Ow}

/-! ### calls -/
theorem s_call {k : FuncId} {xs : List Operand} {ats : Array TypeId} {vs : List Value} {R : Value → World → Prop} (hk : ∀ (args : Array Value) w, (callFunc k args).run P w = .ok (.enter k args) w) (hc : CallsR P k vs.toArray w R) (hx : xs.map (ev f) = vs)
    (h : ∀ v w2, R v w2 → wpl ρ P N D ops rest Q (upo N f dst v) w2) :
    wpl ρ P N D ops (⟨dst, .call { callee := .value (.func k), args := xs.toArray, argTypes := ats }, ty, pos, af, none⟩ :: rest) Q f w :=
  wpl_call rfl (fun _ e => by cases e) (w' := w) (k := k) (args := vs.toArray) (by
    subst hx
    simp [execOp, resolve, invoke, ev, Deferred.ofValue, hk]) hc h

/-- A function value is called. -/
def CallV (P : Program) (g : Value) (vs : List Value) (w : World) (R : Value → World → Prop) : Prop :=
  (∃ k fst caps, g = .func (.func k) fst caps ∧ (∀ (args : Array Value) w, (callFunc k args).run P w = .ok (.enter k args) w) ∧ CallsR P k (fst ++ vs.toArray ++ caps) w R) ∨
  ∃ l fn tmps assign body, g = .func (.yield l) #[] #[] ∧ (Instr.yield l vs.toArray).run P w = .ok (.round l fn tmps assign body) w ∧ RoundR P l fn tmps assign body w R

theorem CallV.mono {g : Value} {vs : List Value} {R R' : Value → World → Prop} (h : CallV P g vs w R) (hr : ∀ v w', R v w' → R' v w') : CallV P g vs w R' := by
  rcases h with ⟨k, fst, caps, h1, h2, h3⟩ | ⟨l, fn, tmps, assign, body, h1, h2, h3⟩
  · exact .inl ⟨k, fst, caps, h1, h2, h3.mono hr⟩
  · exact .inr ⟨l, fn, tmps, assign, body, h1, h2, h3.mono hr⟩

theorem s_callV {g : Value} {xs : List Operand} {ats : Array TypeId} {vs : List Value} {R : Value → World → Prop} (hg : ev f x = g) (hc : CallV P g vs w R) (hx : xs.map (ev f) = vs)
    (h : ∀ v w2, R v w2 → wpl ρ P N D ops rest Q (upo N f dst v) w2) :
    wpl ρ P N D ops (⟨dst, .call { callee := .value x, args := xs.toArray, argTypes := ats }, ty, pos, af, none⟩ :: rest) Q f w := by
  subst hx
  rcases hc with ⟨k, fst, caps, rfl, h2, h3⟩ | ⟨l, fn, tmps, assign, body, rfl, h2, h3⟩
  · refine wpl_call rfl (fun _ e => by cases e) (w' := w) ?_ h3 h
    simp [execOp, resolve, invoke, hg, Deferred.ofValue, h2]
  · refine wpl_round rfl (fun _ e => by cases e) (w' := w) ?_ h3 h
    have : xs.toArray.map (ev f) = (xs.map (ev f)).toArray := by simp
    simp only [execOp, resolve, hg, Deferred.ofValue, invoke, Sem.run_bind, Sem.run_pure, Result.andThen_ok, Array.empty_append, this, h2]

/-! ### results that lie in a variable -/
theorem run_results {rs : List ResultVar} {vs : List Value} {w : World} {tmps : Array Value}
    (h : ∀ (i : Nat) (r : ResultVar) (u : Value), rs[i]? = some r → vs[i]? = some u → (match r with | .tmp t => tmps.getD t undef = u | .cell a t => ∃ ad, tmps.getD a undef = .pointer (some ad) ∧ (loadVar t ad).run P w = .ok u w)) (hl : rs.length = vs.length) :
    (rs.mapM (m := Sem) fun (r : ResultVar) => match r with | .tmp t => pure (tmps.getD t undef) | .cell a t => do loadVar t (← asAddr (tmps.getD a undef))).run P w = .ok vs w := by
  induction rs generalizing vs with
  | nil => have : vs = [] := List.eq_nil_of_length_eq_zero hl.symm; subst this; simp
  | cons r rs ih =>
    match vs, hl with
    | u :: vs, hl =>
      have h0 := h 0 r u rfl rfl
      have ih' := ih (vs := vs) (fun i r u h1 h2 => h (i + 1) r u (by simpa using h1) (by simpa using h2)) (by simpa using hl)
      rw [List.mapM_cons]
      cases r with
      | tmp t =>
        have e0 : tmps.getD t undef = u := h0
        simp only [Sem.run_bind, Sem.run_pure, Result.andThen_ok, e0, ih']
      | cell a t =>
        obtain ⟨ad, e1, e2⟩ := h0
        have e3 : (asAddr (tmps.getD a undef)).run P w = .ok ad w := by rw [e1]; rfl
        simp only [Sem.run_bind, Sem.run_pure, Result.andThen_ok, e3, e2, ih']

/-- What a result is: a slot's, or what lies at one's own variable. -/
def ResAt (P : Program) (w : World) (f : Fr) : List ResultVar → List Value → Prop
  | [], [] => True
  | .tmp t :: rs, u :: vs => f t = u ∧ ResAt P w f rs vs
  | .cell a t :: rs, u :: vs => (∃ ad, f a = .pointer (some ad) ∧ (loadVar t ad).run P w = .ok u w) ∧ ResAt P w f rs vs
  | _, _ => False
theorem ResAt.len {rs : List ResultVar} {vs : List Value} (h : ResAt P w f rs vs) : rs.length = vs.length := by
  induction rs generalizing vs with
  | nil => cases vs with
    | nil => rfl
    | cons u vs => exact h.elim
  | cons r rs ih =>
    cases vs with
    | nil => cases r <;> exact h.elim
    | cons u vs => cases r <;> (simp; exact ih h.2)
theorem ResAt.get {rs : List ResultVar} {vs : List Value} (h : ResAt P w f rs vs) : ∀ (i : Nat) (r : ResultVar) (u : Value), rs[i]? = some r → vs[i]? = some u → (match r with | .tmp t => f t = u | .cell a t => ∃ ad, f a = .pointer (some ad) ∧ (loadVar t ad).run P w = .ok u w) := by
  induction rs generalizing vs with
  | nil => intro i r u h1; simp at h1
  | cons q rs ih =>
    cases vs with
    | nil => cases q <;> exact h.elim
    | cons u vs =>
      intro i r u' h1 h2
      cases i with
      | zero => simp at h1 h2; subst h1; subst h2; cases q <;> exact h.1
      | succ i => simp at h1 h2; cases q <;> exact ih h.2 i r u' h1 h2
def tup (vs : List Value) : Value := match vs with | [v] => v | vs => .tuple vs.toArray
theorem run_resAt {fn : Func} {rs : List ResultVar} {vs : List Value} (hr : fn.results = rs.toArray) (h : ResAt P w f rs vs) {a : Act} (ha : Sim N a f) : (results fn a.tmps).run P w = .ok (tup vs) w := by
  have hm := run_results (P := P) (w := w) (tmps := a.tmps) (rs := rs) (vs := vs) (fun i r u h1 h2 => by
    have := h.get i r u h1 h2
    cases r with
    | tmp t => exact (ha.at_ t).trans this
    | cell q t => obtain ⟨ad, e1, e2⟩ := this; exact ⟨ad, (ha.at_ q).trans e1, e2⟩) h.len
  have : (fn.results.mapM (m := Sem) fun (r : ResultVar) => match r with | .tmp t => pure (a.tmps.getD t undef) | .cell q t => do loadVar t (← asAddr (a.tmps.getD q undef))).run P w = .ok vs.toArray w := by
    rw [hr, List.mapM_toArray]
    simp only [Sem.run_bind, map_eq_pure_bind]
    rw [hm]
    simp
  have e : (results fn a.tmps).run P w = (Result.ok vs.toArray w).andThen fun vs w' => (pure (if h : vs.size = 1 then vs[0] else .tuple vs) : Sem Value).run P w' := by
    rw [← this]; exact Sem.run_bind' P _ _ w
  rw [e]
  match vs with
  | [] => simp [tup]
  | [v] => simp [tup]
  | a :: b :: l => simp [tup]

def outE (P : Program) (N : Nat) (fn : Func) (R : Value → World → Prop) (f : Fr) (w : World) : Prop := ∃ v, (∀ a, Sim N a f → (results fn a.tmps).run P w = .ok v w) ∧ R v w
theorem outRw {fn : Func} {R : Value → World → Prop} (h : ∀ w', Pd w w' → outE P N fn R f w') : outF P N fn R .ret f w := h
theorem outNw {fn : Func} {R : Value → World → Prop} (h : ∀ w', Pd w w' → outE P N fn R f w') : outF P N fn R .normal f w := h
theorem outR {fn : Func} {R : Value → World → Prop} {rs : List ResultVar} (vs : List Value) (hr : fn.results = rs.toArray) (h : ResAt P w f rs vs) (hR : R (tup vs) w) : outE P N fn R f w :=
  ⟨tup vs, fun _ ha => run_resAt hr h ha, hR⟩
theorem res_box {i b off : Nat} {l cs : List Value} {e : TypeId} {agg : Bool} {a : Nat} (hS : St m As w) (hx : f a = pt b off) (hi : As[i]? = some (bx b l e))
    (ha : ∀ w, (isAgg t).run P w = .ok agg w) (hs : ∀ w, (sizeOf t).run P w = .ok cs.length w) (hc : (l.drop off).take cs.length = cs) (h1 : agg = false → cs.length = 1) :
    ∃ ad, f a = .pointer (some ad) ∧ (loadVar t ad).run P w = .ok (pk agg cs) w :=
  ⟨_, hx, run_loadVar (P := P) (off := off) (t := t) (hS.blk hi) cs (fun j x hx => by
      rw [← hc] at hx
      simp only [List.getElem?_take, List.getElem?_drop] at hx
      split at hx
      · simpa using hx
      · cases hx) ha hs h1⟩

/-! ### one's own slices: length, places, loads, stores, shorter ones -/
theorem s_lenO {i sz n : Nat} {cs : List Value} {e : TypeId} (hS : St m As w) (hx : ev f x = v) (hA : As[i]? = some (row sz v cs n)) (hu : P.underlying t = some (.slice e)) (h : wpl ρ P N D ops rest Q (upo N f dst (vI n)) w) :
    wpl ρ P N D ops (⟨dst, .call { callee := .builtin .len, args := #[x], argTypes := #[t] }, ty, pos, af, none⟩ :: rest) Q f w := by
  obtain ⟨⟨a, c, rfl⟩, _⟩ := hS.rowVal hA
  exact s_len hx hu h

/-- A place in a slice of one's own. -/
def PtO (v p : Value) (off : Nat) : Prop := ∃ b n c, v = .slice (some ⟨b, 0, none⟩) n c ∧ p = pt b off

theorem s_idxO {i sz n : Nat} {cs : List Value} {e : TypeId} {k : IntKind} {j : Int} (hS : St m As w) (hx : ev f x = v) (hj : ev f y = .int k j) (hA : As[i]? = some (row sz v cs n)) (h0 : 0 ≤ j) (hn : j < n) (hu : P.underlying t = some (.slice e))
    (hs : ∀ w, (sizeOf e).run P w = .ok sz w) (h : ∀ p, PtO v p (j.toNat * sz) → wpl ρ P N D ops rest Q (upo N f dst p) w) :
    wpl ρ P N D ops (⟨dst, .indexAddr t x y, ty, pos, af, none⟩ :: rest) Q f w := by
  obtain ⟨h1, ⟨rfl, _, rfl, _⟩ | ⟨b, cap, l, e', fr, rfl, _⟩, _⟩ := hS.take' hA
  · omega
  · refine wpl_val (v := pt b (j.toNat * sz)) (w' := w) rfl (fun _ e => by cases e) ?_ (h _ ⟨b, _, _, rfl, rfl⟩)
    simp only [execOp, hx, hj, Instr.indexAt, asIntOf, Sem.run_bind, Sem.run_pure, Result.andThen_ok, run_underlying hu]
    simp [h0, hn, hs, addr_add]

theorem s_ldO {i sz n off : Nat} {cs d : List Value} {p : Value} {agg : Bool} (hS : St m As w) (hx : ev f x = p) (hp : PtO v p off) (hA : As[i]? = some (row sz v cs n)) (hc : (cs.drop off).take d.length = d)
    (ha : ∀ w, (isAgg t).run P w = .ok agg w) (hs : ∀ w, (sizeOf t).run P w = .ok d.length w) (h1 : agg = false → d.length = 1)
    (h : wpl ρ P N D ops rest Q (upo N f dst (pk agg d)) w) :
    wpl ρ P N D ops (⟨dst, .load t x, ty, pos, af, none⟩ :: rest) Q f w := by
  obtain ⟨b, n', c', rfl, rfl⟩ := hp
  obtain ⟨q, ⟨h0, _⟩ | ⟨b', cap, l, e', fr, h0, rfl, hcl, htk, _⟩, hg⟩ := hS.take' hA
  · cases h0
  · cases h0
    have hb := PH.agree_one.1 hg
    refine wpl_val (v := pk agg d) (w' := w) rfl (fun _ e => by cases e) ?_ h
    have hl := run_loadVar (P := P) (off := off) (t := t) hb d (fun j x hx => by
      rw [← hc] at hx
      simp only [List.getElem?_take, List.getElem?_drop] at hx
      split at hx
      · rw [← htk, List.getElem?_take] at hx
        split at hx
        · simpa using hx
        · cases hx
      · cases hx) ha hs h1
    simp [execOp, hx, Instr.loadAt, Instr.sureAddr, hl]

theorem s_stO {i sz n off : Nat} {cs : List Value} {p u : Value} (hS : St m As w) (hx : ev f x = p) (hy : ev f y = u) (hp : PtO v p off) (hA : As[i]? = some (row sz v cs n))
    (hs : ∀ w, (sizeOf t).run P w = .ok u.cells.size w) (h1 : ∀ c ∈ u.cells.toList, c.oneCell' = true) (hl : off + u.cells.size ≤ cs.length)
    (h : ∀ w', St m (As.set i (row sz v (cs.take off ++ u.cells.toList ++ cs.drop (off + u.cells.size)) n)) w' → wpl ρ P N D ops rest Q (upo N f dst undef) w') :
    wpl ρ P N D ops (⟨dst, .store t x y, ty, pos, af, none⟩ :: rest) Q f w := by
  obtain ⟨b, n', c', rfl, rfl⟩ := hp
  obtain ⟨q, ha, hg, _, back⟩ := hS.take hA
  rcases ha with ⟨h0, _⟩ | ⟨b', cap, l, e', fr, h0, rfl, hcl, htk, hls, hnc, hcm, hfr⟩
  · cases h0
  · cases h0
    have hb := PH.agree_one.1 hg
    have hlt := (Array.getElem?_eq_some_iff.1 hb).1
    have hle : cs.length ≤ l.size := by rw [hcl, hls]; exact Nat.mul_le_mul_right _ hnc
    have hst := run_storeCellsF (P := P) (off := off) (e := e') (fr := fr) u.cells.toList h1 l.toList 0 (by simpa using Nat.le_trans hl hle) (by simpa using hfr) (by simpa using hb)
    simp only [Nat.add_zero, Array.length_toList] at hst
    have hsize : (l.toList.take off ++ u.cells.toList ++ l.toList.drop (off + u.cells.size)).toArray.size = l.size := by
      simp only [List.size_toArray, List.length_append, List.length_take, List.length_drop, Array.length_toList]; omega
    refine wpl_skipv (w' := { w with heap := w.heap.setIfInBounds b (.cells (l.toList.take off ++ u.cells.toList ++ l.toList.drop (off + u.cells.size)).toArray e' fr) }) rfl (fun _ e => by cases e) ?_ (h _ ?_) (Kd.set hb cells_nd rfl)
    · simp [execOp, hx, hy, Instr.storeAt, Instr.sureAddr, storeVar, hs, hst]
    · refine back _ (PH.one b (.cells (l.toList.take off ++ u.cells.toList ++ l.toList.drop (off + u.cells.size)).toArray e' fr)) _ (.inr ⟨b, _, _, e', fr, rfl, rfl, ?_, ?_, hsize.trans hls, hnc, hcm, by rw [hsize]; exact hfr⟩) ?_ ?_ ?_ rfl rfl rfl (fun _ => .one cells_nd)
      · rw [← hcl]; simp only [List.length_append, List.length_take, List.length_drop, Array.length_toList]; omega
      · simp only [← htk]
        apply List.ext_getElem?
        intro j
        have hcl' : n * sz ≤ l.toList.length := by simp; omega
        have hl' : off + u.cells.size ≤ n * sz := by omega
        simp only [List.getElem?_take, List.getElem?_append, List.length_append, List.length_take, List.length_drop, Array.length_toList, List.getElem?_drop, Array.getElem?_toList]
        repeat' split
        all_goals first
          | rfl
          | (exfalso; omega)
          | (congr 1; omega)
      · intro k hk; left; simp only [PH.one] at hk ⊢
        by_cases e : k = b
        · rw [if_pos e]; simp
        · rw [if_neg e] at hk; exact absurd rfl hk
      · rw [PH.agree_one]; simp [hlt]
      · intro k _ hk; simp only [PH.one] at hk
        split at hk
        · cases hk
        · rename_i hne; rw [Array.getElem?_setIfInBounds_ne (by omega)]

/-- One's own slice, shorter. -/
theorem s_cutO {i sz n : Nat} {cs : List Value} {lo : Option Operand} {hi : Operand} {e : TypeId} {k : IntKind} {j : Int} (hS : St m As w) (hx : ev f x = v) (hA : As[i]? = some (row sz v cs n)) (hu : P.underlying t = some (.slice e)) (hs : ∀ w, (sizeOf e).run P w = .ok sz w)
    (hlo : lo = none) (hj : ev f hi = .int k j) (h0 : 0 ≤ j) (hn : j ≤ n)
    (h : ∀ v', St m (As.set i (row sz v' (cs.take (j.toNat * sz)) j.toNat)) w → wpl ρ P N D ops rest Q (upo N f dst v') w) :
    wpl ρ P N D ops (⟨dst, .slice t x lo (some hi) none, ty, pos, af, none⟩ :: rest) Q f w := by
  obtain ⟨j, rfl⟩ := Int.eq_ofNat_of_zero_le h0
  subst hlo
  simp only [Int.toNat_natCast] at h
  obtain ⟨q, ha, hg, _, back⟩ := hS.take hA
  rcases ha with ⟨rfl, rfl, rfl, rfl⟩ | ⟨b, cap, l, e', fr, rfl, rfl, hcl, htk, hls, hnc, hcm, hfr⟩
  · have hj0 : j = 0 := by omega
    subst hj0
    have hrun := run_slice (P := P) (w := w) (t := t) (ao := none) (len := 0) (cap := 0) (lo := none) (hi := some (.int k ((0 : Nat) : Int))) (mx := none) hu hs (.inl ⟨rfl, rfl⟩) (.inr ⟨k, rfl⟩) (.inl ⟨rfl, rfl⟩) (Nat.le_refl 0) (Nat.le_refl 0) (Nat.le_refl 0)
    refine s_slice hx hu (u := .slice none 0 0) ?_ (h _ (back _ PH.emp w (.inl ⟨rfl, by simp, rfl, rfl⟩) (fun _ h => absurd rfl h) (PH.agree_emp w) (fun _ _ _ => rfl) rfl rfl rfl (fun _ => .emp)))
    simp only [Option.map_none, Option.map_some, hj]
    simpa using hrun
  · have hrun := run_slice (P := P) (w := w) (t := t) (ao := some ⟨b, 0, none⟩) (len := n) (cap := cap) (lo := none) (hi := some (.int k (j : Int))) (mx := none) hu hs (.inl ⟨rfl, rfl⟩) (.inr ⟨k, rfl⟩) (.inl ⟨rfl, rfl⟩) (Nat.zero_le j) (by omega) (Nat.le_refl _)
    refine s_slice hx hu (u := .slice (some ⟨b, 0, none⟩) j cap) ?_ (h _ (back _ (PH.one b (.cells l e' fr)) w (.inr ⟨b, cap, l, e', fr, rfl, rfl, ?_, ?_, hls, by omega, hcm, hfr⟩) (fun k hk => .inl hk) hg (fun _ _ _ => rfl) rfl rfl rfl (fun _ => .one cells_nd)))
    · simp only [Option.map_none, Option.map_some, hj]
      simpa [addr_add] using hrun
    · rw [List.length_take, hcl, Nat.min_eq_left (Nat.mul_le_mul_right _ (by omega))]
    · rw [← htk, List.take_take, Nat.min_eq_left (Nat.mul_le_mul_right _ (by omega))]
end

/-! ### odds and ends that texts by program lean on -/
def OneL : List Value → Prop
  | [] => True
  | c :: cs => c.oneCell' = true ∧ OneL cs
theorem oneN : OneL [] := trivial
theorem oneC {c : Value} {cs : List Value} (h : c.oneCell' = true) (t : OneL cs) : OneL (c :: cs) := ⟨h, t⟩
theorem OneL.all {cs : List Value} (h : OneL cs) : ∀ c ∈ cs, c.oneCell' = true := by
  induction cs with
  | nil => intro c hc; cases hc
  | cons a cs ih =>
    intro c hc
    rcases List.mem_cons.1 hc with rfl | hc
    · exact h.1
    · exact ih h.2 c hc
theorem SlR.one {α : Type} [GoT α] {m : Mem} {v : Value} {xs : List α} (h : SlR m v xs) : v.oneCell' = true := let ⟨_, h1, _⟩ := h; h1.one
theorem and_t {b e : Bool} (h : b = true) : e = (b && e) := by rw [h]; rfl
theorem and_f {b e : Bool} (h : b = false) : false = (b && e) := by rw [h]; rfl
theorem or_t {b e : Bool} (h : b = true) : true = (b || e) := by rw [h]; rfl
theorem or_f {b e : Bool} (h : b = false) : e = (b || e) := by rw [h]; rfl
theorem bool_tf (b : Bool) : b = true ∨ b = false := by cases b <;> simp
theorem ifT {β : Type} {b : Bool} {x y : Option β} {r : β} (h : b = true) (hm : (if b = true then x else y) = some r) : x = some r := by rw [if_pos h] at hm; exact hm
theorem ifF {β : Type} {b : Bool} {x y : Option β} {r : β} (h : b = false) (hm : (if b = true then x else y) = some r) : y = some r := by rw [if_neg (by rw [h]; exact Bool.false_ne_true)] at hm; exact hm

section
variable {ρ : Option Nat} {P : Program} {N : Nat} {D : World} {ops : Array Oper} {rest : List Oper} {Q : Post} {f : Fr} {w w' : World} {v : Value}
variable {dst : Option Nat} {ty t t' t2 : TypeId} {pos : String} {af : Array Edge} {x y c a b : Operand} {m : Mem} {As : List Ow}

theorem s_stL {i b off : Nat} {l : List Value} {e : TypeId} {u : Value} (hS : St m As w) (hx : ev f x = pt b off) (hy : ev f y = u) (hi : As[i]? = some (bx b l e))
    (hs : ∀ w, (sizeOf t).run P w = .ok u.cells.size w) (h1 : OneL u.cells.toList) (hl : Nat.ble (off + u.cells.size) l.length = true)
    (h : ∀ w', St m (As.set i (bx b (l.take off ++ u.cells.toList ++ l.drop (off + u.cells.size)) e)) w' → wpl ρ P N D ops rest Q (upo N f dst undef) w') :
    wpl ρ P N D ops (⟨dst, .store t x y, ty, pos, af, none⟩ :: rest) Q f w := s_st hS hx hy hi hs h1.all (Nat.le_of_ble_eq_true hl) h

/-- A literal that is only read. -/
theorem s_lit {α : Type} [GoT α] {e : TypeId} {n : Nat} {z : Value} {parts : List Operand} {vs : List Value} {xs : List α} (hS : St m As w) (ht : P.underlying t = some (.slice e)) (hs : ∀ w, (sizeOf e).run P w = .ok (GoT.sz α) w) (hz : ∀ w, (zeroValue e).run P w = .ok z w)
    (hp : parts.map (ev f) = vs) (hr : RepL m (vs.flatMap fun v => v.cells.toList) xs) (hv : ∀ v ∈ vs, v.cells.size = GoT.sz α) (hn : n = vs.length) (hl : vs.length = xs.length) (hb : n * GoT.sz α ≤ 16777216) (h0 : 1 ≤ GoT.sz α)
    (h : ∀ v m' w', m ≤ m' → St m' As w' → SlR m' v xs → wpl ρ P N D ops rest Q (upo N f dst v) w') :
    wpl ρ P N D ops (⟨dst, .buildSlice t n ((parts.zipIdx 0).map fun p => (p.2, p.1)).toArray, ty, pos, af, none⟩ :: rest) Q f w :=
  s_litO hS ht hs hz hp hv hn hb h0 fun v w' hS' => by
    obtain ⟨m', le, hs', S'⟩ := hS'.rowKeepT (i := 0) rfl hr (by omega)
    exact h v m' w' le S' hs'

/-- A call of a function that hands back something, after which what is left of its own is dropped. -/
theorem St.drop1 {A : Ow} (h : St m (A :: As) w) : ∃ m', m ≤ m' ∧ St m' As w := h.drop 0
end
end Go.Gw
