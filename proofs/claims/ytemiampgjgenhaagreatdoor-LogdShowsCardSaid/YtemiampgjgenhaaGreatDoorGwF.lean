/- More steps: parts of structs and arrays, texts, the lesser and the greater of two. Conditions: none. -/
import Derived.Test.YtemiampgjgenhaaGreatDoorGwE
set_option linter.unusedSimpArgs false
set_option linter.unusedVariables false
namespace Go.Gw
open Go

def minI (m n : Int) : Int := if n < m then n else m
def maxI (m n : Int) : Int := if n > m then n else m
def minU (m n : UInt64) : UInt64 := if n < m then n else m
def maxU (m n : UInt64) : UInt64 := if n > m then n else m
def eqSum (p q : UInt64 × UInt64) : Bool := p.1 == q.1 && p.2 == q.2
theorem w64_toNat_le (n : Int) : (w64 n).toNat ≤ 9223372036854775807 := by have := w64_le n; omega

def each0 {α σ : Type} (body : Int → α → σ → Option σ) : List α → Int → σ → Option σ
  | [], _, s => some s
  | x :: xs, i, s => obind (body i x s) fun s' => each0 body xs (i + 1) s'
def eachN0 {σ : Type} (body : Int → σ → Option σ) : Nat → Int → σ → Option σ
  | 0, _, s => some s
  | n + 1, i, s => obind (body i s) fun s' => eachN0 body n (i + 1) s'
theorem each0_in {α σ : Type} {body : Int → α → σ → Option σ} {xs : List α} {i : Nat} {s t : σ} (h : each0 body (xs.drop i) i s = some t) (hi : i < xs.length) :
    ∃ x s', idx xs (i : Int) = some x ∧ body i x s = some s' ∧ each0 body (xs.drop (i + 1)) ((i + 1 : Nat) : Int) s' = some t := by
  obtain ⟨x, hx, hd⟩ := drop_cons hi
  rw [hd] at h
  obtain ⟨y, h1, h2⟩ := obind_some h
  exact ⟨x, y, idx_nat hx, h1, h2⟩
theorem each0_out {α σ : Type} {body : Int → α → σ → Option σ} {xs : List α} {i : Nat} {s t : σ} (h : each0 body (xs.drop i) i s = some t) (hi : ¬ i < xs.length) : t = s := by
  rw [List.drop_eq_nil_of_le (by omega)] at h
  cases h; rfl
theorem eachN0_in {σ : Type} {body : Int → σ → Option σ} {n i : Nat} {s t : σ} (h : eachN0 body (n - i) i s = some t) (hi : i < n) :
    ∃ s', body i s = some s' ∧ eachN0 body (n - (i + 1)) ((i + 1 : Nat) : Int) s' = some t := by
  obtain ⟨k, hk⟩ : ∃ k, n - i = k + 1 := ⟨n - i - 1, by omega⟩
  rw [hk] at h
  obtain ⟨y, h1, h2⟩ := obind_some h
  exact ⟨y, h1, by rw [show n - (i + 1) = k from by omega]; exact h2⟩
theorem eachN0_out {σ : Type} {body : Int → σ → Option σ} {n i : Nat} {s t : σ} (h : eachN0 body (n - i) i s = some t) (hi : ¬ i < n) : t = s := by
  rw [show n - i = 0 from by omega] at h
  cases h; rfl

section
variable {ρ : Option Nat} {P : Program} {N : Nat} {D : World} {ops : Array Oper} {rest : List Oper} {Q : Post} {f : Fr} {w w' : World} {v : Value}
variable {dst : Option Nat} {ty t t' t2 : TypeId} {pos : String} {af : Array Edge} {x y c a b : Operand} {m : Mem} {As : List Ow}

theorem s_nilc {b off : Nat} (hx : ev f x = pt b off) (h : wpl ρ P N D ops rest Q (upo N f dst (pt b off)) w) : wpl ρ P N D ops (⟨dst, .nilCheck x, ty, pos, af, none⟩ :: rest) Q f w :=
  wpl_val (v := pt b off) (w' := w) rfl (fun _ e => by cases e) (by simp [execOp, hx]) h
theorem s_minI {m n : Int} (hx : ev f x = vI m) (hy : ev f y = vI n) {ats : Array TypeId} (h : wpl ρ P N D ops rest Q (upo N f dst (vI (minI m n))) w) :
    wpl ρ P N D ops (⟨dst, .call { callee := .builtin .min, args := #[x, y], argTypes := ats }, ty, pos, af, none⟩ :: rest) Q f w :=
  wpl_val (v := vI (minI m n)) (w' := w) rfl (fun _ e => by cases e) (by simp [execOp, resolve, invoke, builtin, hx, hy, Builtin.min_, Builtin.min2, minI]) h
theorem s_maxI {m n : Int} (hx : ev f x = vI m) (hy : ev f y = vI n) {ats : Array TypeId} (h : wpl ρ P N D ops rest Q (upo N f dst (vI (maxI m n))) w) :
    wpl ρ P N D ops (⟨dst, .call { callee := .builtin .max, args := #[x, y], argTypes := ats }, ty, pos, af, none⟩ :: rest) Q f w :=
  wpl_val (v := vI (maxI m n)) (w' := w) rfl (fun _ e => by cases e) (by simp [execOp, resolve, invoke, builtin, hx, hy, Builtin.max_, Builtin.max2, maxI]) h
theorem ltU {m n : UInt64} : ((n.toNat : Int) < (m.toNat : Int)) ↔ n < m := by rw [UInt64.lt_iff_toNat_lt]; omega
theorem s_minU {m n : UInt64} (hx : ev f x = vU m) (hy : ev f y = vU n) {ats : Array TypeId} (h : wpl ρ P N D ops rest Q (upo N f dst (vU (minU m n))) w) :
    wpl ρ P N D ops (⟨dst, .call { callee := .builtin .min, args := #[x, y], argTypes := ats }, ty, pos, af, none⟩ :: rest) Q f w :=
  wpl_val (v := vU (minU m n)) (w' := w) rfl (fun _ e => by cases e) (by
    simp only [execOp, resolve, invoke, builtin, List.map_toArray, List.map_cons, List.map_nil, hx, hy, Sem.run_bind, Sem.run_pure, Result.andThen_ok, Builtin.min_, List.foldlM_cons, List.foldlM_nil, Builtin.min2, minU, ltU]
    split <;> rfl) h
theorem s_maxU {m n : UInt64} (hx : ev f x = vU m) (hy : ev f y = vU n) {ats : Array TypeId} (h : wpl ρ P N D ops rest Q (upo N f dst (vU (maxU m n))) w) :
    wpl ρ P N D ops (⟨dst, .call { callee := .builtin .max, args := #[x, y], argTypes := ats }, ty, pos, af, none⟩ :: rest) Q f w :=
  wpl_val (v := vU (maxU m n)) (w' := w) rfl (fun _ e => by cases e) (by
    simp only [execOp, resolve, invoke, builtin, List.map_toArray, List.map_cons, List.map_nil, hx, hy, Sem.run_bind, Sem.run_pure, Result.andThen_ok, Builtin.max_, List.foldlM_cons, List.foldlM_nil, Builtin.max2, maxU, gt_iff_lt, ltU]
    split <;> rfl) h

/-! ### comparisons of other data -/
theorem wpl_eql {r : Bool} {vx vy : Value} (hx : ev f x = vx) (hy : ev f y = vy) (hg : (eqGuard .eql t x y vx vy).run P w = .ok () w) (he : (binOp .eql t vx vy).run P w = .ok (.bool r) w)
    (h : wpl ρ P N D ops rest Q (upo N f dst (.bool r)) w) : wpl ρ P N D ops (⟨dst, .binOp .eql t x y t', ty, pos, af, none⟩ :: rest) Q f w :=
  wpl_val (v := .bool r) (w' := w) rfl (fun _ e => by cases e) (by simp only [execOp, hx, hy, Sem.run_bind, hg, Result.andThen_ok, he, Sem.run_pure]) h
theorem wpl_neq {r : Bool} {vx vy : Value} (hx : ev f x = vx) (hy : ev f y = vy) (hg : (eqGuard .neq t x y vx vy).run P w = .ok () w) (he : (binOp .neq t vx vy).run P w = .ok (.bool r) w)
    (h : wpl ρ P N D ops rest Q (upo N f dst (.bool r)) w) : wpl ρ P N D ops (⟨dst, .binOp .neq t x y t', ty, pos, af, none⟩ :: rest) Q f w :=
  wpl_val (v := .bool r) (w' := w) rfl (fun _ e => by cases e) (by simp only [execOp, hx, hy, Sem.run_bind, hg, Result.andThen_ok, he, Sem.run_pure]) h
theorem eqlb_d (d : Nat) {p q : Bool} (hu : P.underlying t = some .bool) : (Op.equalIn (d + 1) t (.bool p) (.bool q)).run P w = .ok (p == q) w := by
  simp [Op.equalIn, run_underlying hu]
theorem eqlb {p q : Bool} (hu : P.underlying t = some .bool) : (Op.equal t (.bool p) (.bool q)).run P w = .ok (p == q) w := eqlb_d 9999 hu
theorem s_eqlb {p q : Bool} (hu : P.underlying t = some .bool) (hx : ev f x = .bool p) (hy : ev f y = .bool q) (h : wpl ρ P N D ops rest Q (upo N f dst (.bool (p == q))) w) :
    wpl ρ P N D ops (⟨dst, .binOp .eql t x y t', ty, pos, af, none⟩ :: rest) Q f w :=
  wpl_eql hx hy (by simp [eqGuard]) (by simp only [binOp, Sem.run_bind, eqlb hu, Result.andThen_ok, Sem.run_pure]) h
theorem s_neqb {p q : Bool} (hu : P.underlying t = some .bool) (hx : ev f x = .bool p) (hy : ev f y = .bool q) (h : wpl ρ P N D ops rest Q (upo N f dst (.bool (p != q))) w) :
    wpl ρ P N D ops (⟨dst, .binOp .neq t x y t', ty, pos, af, none⟩ :: rest) Q f w :=
  wpl_neq hx hy (by simp [eqGuard]) (by simp only [binOp, Sem.run_bind, eqlb hu, Result.andThen_ok, Sem.run_pure]; rfl) h
end
end Go.Gw
