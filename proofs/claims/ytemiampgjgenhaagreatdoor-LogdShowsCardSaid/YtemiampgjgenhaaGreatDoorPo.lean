/- How a tree grows: what is told of two roots at once. Conditions: none. -/
import Derived.Test.YtemiampgjgenhaaGreatDoorPh
set_option linter.unusedSimpArgs false
set_option linter.unusedVariables false
set_option maxHeartbeats 2000000
set_option maxRecDepth 100000
namespace Go.Proofs.YtemiampgjgenhaaGreatDoor
open Go Go.Gw

theorem obind_t {α β : Type} {x : Option α} {y : α} {k : α → Option β} {r : Option β} (h : x = some y) (h2 : k y = r) : obind x k = r := by rw [h]; exact h2
theorem gu_t {α : Type} [Inhabited α] {c : Bool} (o : Option α) (h : c = true) : gu c o = o := by rw [h]; rfl
theorem gu_f {α : Type} [Inhabited α] {c : Bool} (o : Option α) (h : c = false) : gu c o = some default := by rw [h]; rfl
theorem both_app {ds : List Bool} {ps : List Sm} (h : ds.length = ps.length) (d : Bool) (p : Sm) (x : Sm × Sm) : both (ds ++ [d]) (ps ++ [p]) x = if d then (ppair p (both ds ps x).1, ppair p (both ds ps x).2) else ((both ds ps x).1, ppair (both ds ps x).2 p) := goD_app _ _ d p ds ps x h
theorem rl_of {e : Bool} {xs : List Sm} {m : Nat} (hx : xs.length = m + (if e then 1 else 0)) : m = (restG e xs).length := by
  cases e with
  | false => simpa [restG] using hx.symm
  | true => simp [restG, hx]
theorem rest_app {e : Bool} {xs : List Sm} {p : Sm} (hx : e = true → xs ≠ []) : restG e (xs ++ [p]) = restG e xs ++ [p] := by
  cases e with
  | false => rfl
  | true =>
    match xs, hx with
    | [], hx => exact absurd rfl (hx rfl)
    | y :: ys, _ => rfl
theorem start_app {e : Bool} {a : Sm} {xs : List Sm} {p : Sm} (hx : e = true → xs ≠ []) : startG e a (xs ++ [p]) = startG e a xs := by
  cases e with
  | false => rfl
  | true =>
    match xs, hx with
    | [], hx => exact absurd rfl (hx rfl)
    | y :: ys, _ => rfl
def bothG (f s : Nat) (known : Bool) (a : Sm) (ps : List Sm) : Sm × Sm :=
  both (gd f s known).2 (restG (gd f s known).1 ps) (startG (gd f s known).1 a ps, startG (gd f s known).1 a ps)
theorem bothG_lo {f s : Nat} (h : 2 ≤ s) (hf : f ≤ hp s) (known : Bool) (a : Sm) {qs : List Sm} {p : Sm} (hl : qs.length = (gd f (hp s) known).2.length + (if (gd f (hp s) known).1 then 1 else 0)) :
    bothG f s known a (qs ++ [p]) = ((bothG f (hp s) known a qs).1, ppair (bothG f (hp s) known a qs).2 p) := by
  have hne : (gd f (hp s) known).1 = true → qs ≠ [] := by intro e q; rw [q, e] at hl; simp at hl
  unfold bothG
  rw [gd_lo h hf]
  dsimp only
  rw [rest_app hne, start_app hne, both_app (rl_of hl)]
  rfl
theorem bothG_hi {f s : Nat} (h : 2 ≤ s) (hf : hp s < f) (hn : f ≠ s) (known : Bool) (a : Sm) {qs : List Sm} {p : Sm} (hl : qs.length = (gd (f - hp s) (s - hp s) false).2.length + (if (gd (f - hp s) (s - hp s) false).1 then 1 else 0)) :
    bothG f s known a (qs ++ [p]) = (ppair p (bothG (f - hp s) (s - hp s) false a qs).1, ppair p (bothG (f - hp s) (s - hp s) false a qs).2) := by
  have hne : (gd (f - hp s) (s - hp s) false).1 = true → qs ≠ [] := by intro e q; rw [q, e] at hl; simp at hl
  unfold bothG
  rw [gd_hi h hf hn]
  dsimp only
  rw [rest_app hne, start_app hne, both_app (rl_of hl)]
  rfl
theorem root_take {l : List Sm} {f : Nat} (h3 : 2 ≤ l.length) (hf : hp l.length < f) (h : f ≤ l.length) : rootR (l.take f) = ppair (rootR (l.take (hp l.length))) (rootR ((l.drop (hp l.length)).take (f - hp l.length))) := by
  obtain ⟨j, hj, j1, j2⟩ := hp_spec h3
  have hpos := hp_pos l.length
  have hlf : (l.take f).length = f := by simp; omega
  have hh : hp f = hp l.length := by rw [hj]; exact hp_eq (by omega) (by omega)
  have e1 : (l.take f).take (hp l.length) = l.take (hp l.length) := by rw [List.take_take, Nat.min_eq_left (by omega)]
  have e2 : (l.take f).drop (hp l.length) = (l.drop (hp l.length)).take (f - hp l.length) := by rw [List.drop_take]
  rw [rootR_two (l := l.take f) (by omega), hlf, hh, e1, e2]
theorem gd_len : ∀ (n f s : Nat) (known : Bool), s ≤ n → (gd f s known).2.length ≤ n := by
  intro n
  induction n with
  | zero => intro f s known h; rw [gd, dif_pos (by omega)]; simp
  | succ n ih =>
    intro f s known h
    by_cases h2 : 2 ≤ s ∧ f ≠ s
    · have hlt := hp_lt h2.1
      have hpos := hp_pos s
      by_cases hf : f ≤ hp s
      · have := ih f (hp s) known (by omega)
        rw [gd_lo h2.1 hf]; simp; omega
      · have := ih (f - hp s) (s - hp s) false (by omega)
        rw [gd_hi h2.1 (by omega) h2.2]; simp; omega
    · rw [gd, dif_pos (by omega)]; simp
end Go.Proofs.YtemiampgjgenhaaGreatDoor
