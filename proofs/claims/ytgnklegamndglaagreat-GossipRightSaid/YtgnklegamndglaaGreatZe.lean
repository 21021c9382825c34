/- Several texts, one behind the other. Conditions: none. -/
import Derived.Test.YtgnklegamndglaaGreatProg
import Derived.Test.YtgnklegamndglaaGreatZd
set_option linter.unusedSimpArgs false
set_option linter.unusedVariables false
set_option maxHeartbeats 20000000
set_option maxRecDepth 100000
section
namespace Go.Proofs.YtgnklegamndglaaGreat
open Go Go.Gw Go.Ax Tryz
theorem mixed : prog.follows .mixedOrders = true := rfl
structure G (ρ : Option Nat) (N : Nat) (D0 : World) (Q : Post) (As : List Ow) (η0 : Env) (m0 : Mem) (cf : Cf) : Prop where
  h : Ax.Go ρ prog N D0 Q As η0 m0 cf
abbrev ag (l : List D) : AV := .agg (l.map .d)
abbrev sl {α : Type} (E : α → List D) (xs : List α) : AV := .d (.sl α E xs)
abbrev eI (n : Int) : List D := [.i n]
abbrev eU (n : UInt64) : List D := [.u n]
abbrev eW (n : UInt32) : List D := [.w n]
abbrev eB (n : UInt8) : List D := [.b n]
abbrev eR (n : Int) : List D := [.r n]
abbrev eT (n : Bool) : List D := [.t n]
abbrev eS (n : ByteArray) : List D := [.s n]
abbrev eL {α : Type} (E : α → List D) (xs : List α) : List D := [.sl α E xs]
section
variable {ρ : Option Nat} {N : Nat} {D0 : World} {Q : Post} {As : List Ow} {η0 : Env} {m0 : Mem} {cf : Cf}
theorem sp {k : FuncId} {fn : Func} {c : Code} {args : List AV} {obs : List AObj} {n0 : Nat} {Po : AV → List AObj → Nat → Prop} (hc : ∀ (a : Array Value) w, (callFunc k a).run prog w = .ok (.enter k a) w) (hf : prog.funcs[k]? = some fn) (hb : fn.body = some c) (hN : fn.ntmps = N)
    (hle : Nat.ble args.length N = true) (h : ∀ D0 As η0 m0, (∀ n, η0 n ≠ none → n < n0) → G none N D0 (outF prog N fn (PostR As η0 m0 Po)) As η0 m0 ⟨initS args obs n0, .code c, []⟩) : Sp prog k args obs n0 Po :=
  sp_of hc hf hb hN hle fun a b c d e => (h a b c d e).h
theorem gc {k : FuncId} {ea : List AV} {r : AV} (hs : gOf (adv prog N 100000 cf).1 = true → Sf prog k ea r)
    (e : (callP (adv prog N 100000 cf).1 ea, ea.all (okA 0), ((adv prog N 100000 cf).2 ++ esOf (adv prog N 100000 cf).1).map (·.1)) = (some (k, ea), true, ((adv prog N 100000 cf).2 ++ esOf (adv prog N 100000 cf).1).map (·.2)))
    (g : G ρ N D0 Q As η0 m0 (pushV N (adv prog N 100000 cf).1 r)) : G ρ N D0 Q As η0 m0 cf := ⟨go_call mixed hs e g.h⟩
theorem gco {k : FuncId} {ea : List AV} {eobs obs' : List AObj} {n0 n1 : Nat} {r : AV} (hs : Sp prog k ea eobs n0 (is r obs' n1))
    (e : (callK (adv prog N 100000 cf).1 ea eobs n0, okA n1 r && (obs'.all (okO n1) && Nat.ble n0 n1), ((adv prog N 100000 cf).2 ++ esOf (adv prog N 100000 cf).1).map (·.1)) =
      (some (k, (callW (adv prog N 100000 cf).1 ea eobs).1, (callW (adv prog N 100000 cf).1 ea eobs).2, true), true, ((adv prog N 100000 cf).2 ++ esOf (adv prog N 100000 cf).1).map (·.2)))
    (g : G ρ N D0 Q As η0 m0 (pushC N (adv prog N 100000 cf).1 ea eobs n0 r obs' n1)) : G ρ N D0 Q As η0 m0 cf := ⟨go_callO mixed hs e g.h⟩
theorem gi {β : Type} {b : Bool} {x y : Option β} {r : β} (hm : (if b = true then x else y) = some r) (e : (condK (adv prog N 100000 cf).1, ((adv prog N 100000 cf).2).map (·.1)) = (some b, ((adv prog N 100000 cf).2).map (·.2)))
    (h1 : b = true → x = some r → G ρ N D0 Q As η0 m0 (way true (adv prog N 100000 cf).1)) (h0 : b = false → y = some r → G ρ N D0 Q As η0 m0 (way false (adv prog N 100000 cf).1)) : G ρ N D0 Q As η0 m0 cf :=
  ⟨go_if mixed e (fun h => (h1 h (by rw [h] at hm; exact hm)).h) fun h => (h0 h (by rw [h] at hm; exact hm)).h⟩
theorem gi' {b : Bool} (e : (condK (adv prog N 100000 cf).1, ((adv prog N 100000 cf).2).map (·.1)) = (some b, ((adv prog N 100000 cf).2).map (·.2)))
    (h1 : b = true → G ρ N D0 Q As η0 m0 (way true (adv prog N 100000 cf).1)) (h0 : b = false → G ρ N D0 Q As η0 m0 (way false (adv prog N 100000 cf).1)) : G ρ N D0 Q As η0 m0 cf :=
  ⟨go_if mixed e (fun h => (h1 h).h) fun h => (h0 h).h⟩
theorem gidx {k : Nat} {α : Type} {E : α → List D} {xs : List α} {j : Int} {x : α} (hE : ∀ x, (E x).length = k) (hq : gOf (adv prog N 100000 cf).1 = true → idx xs j = some x)
    (e : ((idxK prog (adv prog N 100000 cf).1).map (fun r => (r.1, r.2.1, r.2.2.1)), ((adv prog N 100000 cf).2 ++ esOf (adv prog N 100000 cf).1).map (·.1)) = (some (.sl α E xs, j, k), ((adv prog N 100000 cf).2 ++ esOf (adv prog N 100000 cf).1).map (·.2)))
    (g : G ρ N D0 Q As η0 m0 (pushVR N (adv prog N 100000 cf).1 (.d (.pf (E x))) (idxT prog (adv prog N 100000 cf).1))) : G ρ N D0 Q As η0 m0 cf := ⟨go_idx mixed hE hq e g.h⟩
theorem gcut {k : Nat} {α : Type} {E : α → List D} {xs ys : List α} {lo hi : Int} (hE : ∀ x, (E x).length = k) (hq : gOf (adv prog N 100000 cf).1 = true → cut xs lo hi = some ys)
    (e : ((cutK prog (adv prog N 100000 cf).1).map (fun r => (r.1, r.2.1, r.2.2.1, r.2.2.2.1, r.2.2.2.2.1)), ((adv prog N 100000 cf).2 ++ esOf (adv prog N 100000 cf).1).map (·.1)) = (some (.sl α E xs, lo, hi, hi, k), ((adv prog N 100000 cf).2 ++ esOf (adv prog N 100000 cf).1).map (·.2)))
    (g : G ρ N D0 Q As η0 m0 (pushVR N (adv prog N 100000 cf).1 (.d (.sl α E ys)) (cutT prog (adv prog N 100000 cf).1))) : G ρ N D0 Q As η0 m0 cf := ⟨go_cut mixed hE hq e g.h⟩
theorem gquo {d r : D} (hq : gOf (adv prog N 100000 cf).1 = true → nzD d)
    (e : (quoK (adv prog N 100000 cf).1, ((adv prog N 100000 cf).2 ++ esOf (adv prog N 100000 cf).1).map (·.1)) = (some (.d d, r), ((adv prog N 100000 cf).2 ++ esOf (adv prog N 100000 cf).1).map (·.2)))
    (g : G ρ N D0 Q As η0 m0 (pushVR N (adv prog N 100000 cf).1 (.d r) [])) : G ρ N D0 Q As η0 m0 cf := ⟨go_quo mixed hq e g.h⟩
theorem gsh {c : Int} {r : D} (hq : gOf (adv prog N 100000 cf).1 = true → 0 ≤ c)
    (e : (shK (adv prog N 100000 cf).1, ((adv prog N 100000 cf).2 ++ esOf (adv prog N 100000 cf).1).map (·.1)) = (some (c, r), ((adv prog N 100000 cf).2 ++ esOf (adv prog N 100000 cf).1).map (·.2)))
    (g : G ρ N D0 Q As η0 m0 (pushVR N (adv prog N 100000 cf).1 (.d r) [])) : G ρ N D0 Q As η0 m0 cf := ⟨go_sh mixed hq e g.h⟩
theorem gidxS {s : ByteArray} {j : Int} {b : UInt8} (hq : gOf (adv prog N 100000 cf).1 = true → idx s.data.toList j = some b)
    (e : (idxSK prog (adv prog N 100000 cf).1, ((adv prog N 100000 cf).2 ++ esOf (adv prog N 100000 cf).1).map (·.1)) = (some (.d (.s s), j, true), ((adv prog N 100000 cf).2 ++ esOf (adv prog N 100000 cf).1).map (·.2)))
    (g : G ρ N D0 Q As η0 m0 (pushVR N (adv prog N 100000 cf).1 (.d (.b b)) [])) : G ρ N D0 Q As η0 m0 cf := ⟨go_idxS mixed hq e g.h⟩
theorem gadd64 {k : FuncId} {fn : Func} {p q : UInt64} (hf : prog.funcs[k]? = some fn) (hname : (fn.name == "runtime.NumGoroutine") = false) (hb : fn.body.isNone = true)
    (hx : Extern.findNext fn = none) (he : Extern.find fn = some add64Entry)
    (e : (add64K (adv prog N 100000 cf).1, ((adv prog N 100000 cf).2 ++ esOf (adv prog N 100000 cf).1).map (·.1)) = (some (k, .d (.u p), .d (.u q), true), ((adv prog N 100000 cf).2 ++ esOf (adv prog N 100000 cf).1).map (·.2)))
    (g : G ρ N D0 Q As η0 m0 (pushVR N (adv prog N 100000 cf).1 (.tup [.d (.u (p + q)), .d (.u (carryU p q))]) [])) : G ρ N D0 Q As η0 m0 cf := ⟨go_add64 mixed hf hname hb hx he e g.h⟩
theorem gofS {s : ByteArray} {zs : List UInt8} (hq : app 1 ([] : List UInt8) s.data.toList = some zs)
    (e : (ofSK prog (adv prog N 100000 cf).1, ((adv prog N 100000 cf).2 ++ esOf (adv prog N 100000 cf).1).map (·.1)) = (some (.d (.s s), true), ((adv prog N 100000 cf).2 ++ esOf (adv prog N 100000 cf).1).map (·.2)))
    (g : G ρ N D0 Q As η0 m0 (push N (adv prog N 100000 cf).1 (rowS (adv prog N 100000 cf).1.s 1 UInt8 byE zs))) : G ρ N D0 Q As η0 m0 cf := ⟨go_ofS mixed hq e g.h⟩
theorem gapS {b : Nat} {s : ByteArray} {xs zs : List UInt8} (hq : app b xs s.data.toList = some zs)
    (e : ((apSP prog (adv prog N 100000 cf).1).map (·.2), ((adv prog N 100000 cf).2 ++ esOf (adv prog N 100000 cf).1).map (·.1)) = (some (.sl UInt8 byE xs, .d (.s s), b, true), ((adv prog N 100000 cf).2 ++ esOf (adv prog N 100000 cf).1).map (·.2)))
    (g : G ρ N D0 Q As η0 m0 (push N (adv prog N 100000 cf).1 (apST prog (adv prog N 100000 cf).1 zs))) : G ρ N D0 Q As η0 m0 cf := ⟨go_apS mixed hq e g.h⟩
theorem glit {k : Nat} {α : Type} (E : α → List D) (xs : List α) (hE : ∀ x, (E x).length = k)
    (e : (litK prog (adv prog N 100000 cf).1, ((adv prog N 100000 cf).2 ++ esOf (adv prog N 100000 cf).1).map (·.1)) = (some ((xs.flatMap E).map .d, xs.length, k, true), ((adv prog N 100000 cf).2 ++ esOf (adv prog N 100000 cf).1).map (·.2)))
    (g : G ρ N D0 Q As η0 m0 (push N (adv prog N 100000 cf).1 (rowS (adv prog N 100000 cf).1.s k α E xs))) : G ρ N D0 Q As η0 m0 cf := ⟨go_lit mixed hE e g.h⟩
theorem glitF {k : Nat} {α : Type} (E : α → List D) (xs : List α) (hE : ∀ x, (E x).length = k)
    (e : (litG prog (adv prog N 100000 cf).1, ((adv prog N 100000 cf).2 ++ esOf (adv prog N 100000 cf).1).map (·.1)) = (some ((xs.flatMap E).map .d, xs.length, k, true), ((adv prog N 100000 cf).2 ++ esOf (adv prog N 100000 cf).1).map (·.2)))
    (g : G ρ N D0 Q As η0 m0 (pushVR N (adv prog N 100000 cf).1 (.d (.sl α E xs)) [])) : G ρ N D0 Q As η0 m0 cf := ⟨go_litG mixed hE e g.h⟩
theorem glitFc {k : Nat} {α : Type} (E : α → List D) (xs : List α) (hE : ∀ x, (E x).length = k)
    (e : ((litG prog (adv prog N 100000 cf).1).map (fun r => ((cvL [] ((xs.flatMap E).map .d) r.1).1, r.2)), ((adv prog N 100000 cf).2 ++ esOf (adv prog N 100000 cf).1).map (·.1)) = (some ((xs.flatMap E).map .d, xs.length, k, true), ((adv prog N 100000 cf).2 ++ esOf (adv prog N 100000 cf).1).map (·.2)))
    (g : G ρ N D0 Q As η0 m0 (pushVR N (adv prog N 100000 cf).1 (.d (.sl α E xs)) [])) : G ρ N D0 Q As η0 m0 cf := ⟨go_litGc mixed hE e g.h⟩
theorem glitV {k : Nat} {α : Type} (E : α → List D) (xs : List α) (hE : ∀ x, (E x).length = k)
    (e : (litVK prog (adv prog N 100000 cf).1, ((adv prog N 100000 cf).2 ++ esOf (adv prog N 100000 cf).1).map (·.1)) = (some ((xs.flatMap E).map .d, xs.length, k, true), ((adv prog N 100000 cf).2 ++ esOf (adv prog N 100000 cf).1).map (·.2)))
    (g : G ρ N D0 Q As η0 m0 (push N (adv prog N 100000 cf).1 (litVS prog (adv prog N 100000 cf).1 α E xs))) : G ρ N D0 Q As η0 m0 cf := ⟨go_litV mixed hE e g.h⟩
theorem sum_lr {α β : Type} {a : α} {b : β} (h : (Sum.inl a : α ⊕ β) = .inr b) : False := by cases h
theorem sum_rl {α β : Type} {a : α} {b : β} (h : (Sum.inr b : α ⊕ β) = .inl a) : False := by cases h
theorem bnd_is {α β : Type} {a : α} {k : α → β} {r : β} (h : bnd a k = r) : k a = r := h
theorem gidxO {α : Type} {E : α → List D} {xs : List α} {j : Int} {x : α} (hq : gOf (adv prog N 100000 cf).1 = true → idx xs j = some x)
    (e : ((idxOP prog (adv prog N 100000 cf).1).map (fun r => (r.1, r.2.1, r.2.2.2.2.1)), ((adv prog N 100000 cf).2 ++ esOf (adv prog N 100000 cf).1).map (·.1)) = (some (.sl α E xs, j, true), ((adv prog N 100000 cf).2 ++ esOf (adv prog N 100000 cf).1).map (·.2)))
    (g : G ρ N D0 Q As η0 m0 (pushVR N (adv prog N 100000 cf).1 (idxOV prog (adv prog N 100000 cf).1) (idxOT prog (adv prog N 100000 cf).1))) : G ρ N D0 Q As η0 m0 cf := ⟨go_idxO mixed hq e g.h⟩
theorem gldO {k fo nn : Nat} {ag : Bool} {α : Type} {E : α → List D} {xs : List α} {j : Int} {x : α} (hE : ∀ x, (E x).length = k) (hq : gOf (adv prog N 100000 cf).1 = true → idx xs j = some x)
    (e : ((ldOP prog (adv prog N 100000 cf).1).map (fun r => (r.1, r.2.1, r.2.2.1, r.2.2.2.1, r.2.2.2.2.1, r.2.2.2.2.2.1, r.2.2.2.2.2.2.1)), ((adv prog N 100000 cf).2 ++ esOf (adv prog N 100000 cf).1).map (·.1)) = (some (.sl α E xs, j, fo, nn, ag, k, true), ((adv prog N 100000 cf).2 ++ esOf (adv prog N 100000 cf).1).map (·.2)))
    (g : G ρ N D0 Q As η0 m0 (pushVR N (adv prog N 100000 cf).1 (pkA ag ((((E x).drop fo).take nn).map .d)) (ldOT prog (adv prog N 100000 cf).1))) : G ρ N D0 Q As η0 m0 cf := ⟨go_ldO mixed hE hq e g.h⟩
theorem gstO {k : Nat} {α : Type} {E : α → List D} {xs : List α} {j : Int} {z0 : α} (z : α) (hE : ∀ x, (E x).length = k) (hq : idx xs j = some z0)
    (e : ((stOP prog (adv prog N 100000 cf).1).map (fun r => (r.1, r.2.1, r.2.2.1, r.2.2.2.1, r.2.2.2.2.1, r.2.2.2.2.2.1)), ((adv prog N 100000 cf).2 ++ esOf (adv prog N 100000 cf).1).map (·.1)) = (some (.sl α E xs, j, 0, (E z).map .d, k, true), ((adv prog N 100000 cf).2 ++ esOf (adv prog N 100000 cf).1).map (·.2)))
    (g : G ρ N D0 Q As η0 m0 (push N (adv prog N 100000 cf).1 (stOS prog (adv prog N 100000 cf).1 k α E (xs.set j.toNat z)))) : G ρ N D0 Q As η0 m0 cf := ⟨go_stO mixed hE hq e g.h⟩
theorem gidxOG {c : Bool} {α : Type} {E : α → List D} {xs : List α} {j : Int} {x : α} (hq : c = true → idx xs j = some x)
    (e : (gOf (adv prog N 100000 cf).1, (idxOP prog (adv prog N 100000 cf).1).map (fun r => (r.1, r.2.1, r.2.2.2.2.1)), ((adv prog N 100000 cf).2 ++ esOf (adv prog N 100000 cf).1).map (·.1)) = (c, some (.sl α E xs, j, true), ((adv prog N 100000 cf).2 ++ esOf (adv prog N 100000 cf).1).map (·.2)))
    (g : G ρ N D0 Q As η0 m0 (pushVR N (adv prog N 100000 cf).1 (idxOV prog (adv prog N 100000 cf).1) (idxOT prog (adv prog N 100000 cf).1))) : G ρ N D0 Q As η0 m0 cf := gidxO (fun h => hq (Eq.trans (Eq.symm (congrArg Prod.fst e)) h)) (congrArg Prod.snd e) g
theorem gldOG {c : Bool} {k fo nn : Nat} {ag : Bool} {α : Type} {E : α → List D} {xs : List α} {j : Int} {x : α} (hE : ∀ x, (E x).length = k) (hq : c = true → idx xs j = some x)
    (e : (gOf (adv prog N 100000 cf).1, (ldOP prog (adv prog N 100000 cf).1).map (fun r => (r.1, r.2.1, r.2.2.1, r.2.2.2.1, r.2.2.2.2.1, r.2.2.2.2.2.1, r.2.2.2.2.2.2.1)), ((adv prog N 100000 cf).2 ++ esOf (adv prog N 100000 cf).1).map (·.1)) = (c, some (.sl α E xs, j, fo, nn, ag, k, true), ((adv prog N 100000 cf).2 ++ esOf (adv prog N 100000 cf).1).map (·.2)))
    (g : G ρ N D0 Q As η0 m0 (pushVR N (adv prog N 100000 cf).1 (pkA ag ((((E x).drop fo).take nn).map .d)) (ldOT prog (adv prog N 100000 cf).1))) : G ρ N D0 Q As η0 m0 cf := gldO hE (fun h => hq (Eq.trans (Eq.symm (congrArg Prod.fst e)) h)) (congrArg Prod.snd e) g
theorem gidxV {k : Nat} {ag : Bool} {α : Type} {E : α → List D} (xs : List α) {j : Int} {x : α} (hE : ∀ x, (E x).length = k) (hq : gOf (adv prog N 100000 cf).1 = true → idx xs j = some x)
    (e : (idxVP prog (adv prog N 100000 cf).1, ((adv prog N 100000 cf).2 ++ esOf (adv prog N 100000 cf).1).map (·.1)) = (some ((xs.flatMap E).map .d, j, xs.length, k, ag, true), ((adv prog N 100000 cf).2 ++ esOf (adv prog N 100000 cf).1).map (·.2)))
    (g : G ρ N D0 Q As η0 m0 (pushVR N (adv prog N 100000 cf).1 (pkA ag ((E x).map .d)) [])) : G ρ N D0 Q As η0 m0 cf := ⟨go_idxV mixed xs hE hq e g.h⟩
theorem gapp {k b : Nat} {α : Type} {E : α → List D} {xs ys zs : List α} (hE : ∀ x, (E x).length = k) (hq : app b xs ys = some zs)
    (e : (appK prog (adv prog N 100000 cf).1, ((adv prog N 100000 cf).2 ++ esOf (adv prog N 100000 cf).1).map (·.1)) = (some (.sl α E xs, .sl α E ys, b, k, true), ((adv prog N 100000 cf).2 ++ esOf (adv prog N 100000 cf).1).map (·.2)))
    (g : G ρ N D0 Q As η0 m0 (push N (adv prog N 100000 cf).1 (appS prog (adv prog N 100000 cf).1.s (adv prog N 100000 cf).1 k α E zs))) : G ρ N D0 Q As η0 m0 cf := ⟨go_app mixed hE hq e g.h⟩
theorem gend {fn : Func} {n0 n1 : Nat} {er : AV} {eobs : List AObj} (hd : ∀ n, η0 n ≠ none → n < n0)
    (e : (endL prog fn (adv prog N 100000 cf).1 er eobs n0 n1, (endP prog fn (adv prog N 100000 cf).1 er eobs).isSome, ((adv prog N 100000 cf).2).map (·.1)) = (endR prog fn (adv prog N 100000 cf).1 er eobs, true, ((adv prog N 100000 cf).2).map (·.2))) :
    G ρ N D0 (outF prog N fn (PostR As η0 m0 (is er eobs n1))) As η0 m0 cf := ⟨go_fin mixed hd e ⟨rfl, rfl, rfl⟩⟩
theorem gb {n0 : Nat} {ι : Type} {J : ι → AS} {ok : ι → Prop} {Jp : Fr → World → Prop} (bk : Bk As η0 m0 J ok Jp) (hd : ∀ n, η0 n ≠ none → n < n0) (x : ι) (hx : ok x)
    (e : (backK (adv prog N 100000 cf).1, vwL (adv prog N 100000 cf).1.s (J x) n0, (vwP (adv prog N 100000 cf).1.s (J x)).isSome, ((adv prog N 100000 cf).2).map (·.1)) = (some Jp, vwR (adv prog N 100000 cf).1.s (J x), true, ((adv prog N 100000 cf).2).map (·.2))) :
    G ρ N D0 Q As η0 m0 cf := ⟨go_backB mixed bk x hx hd e⟩
theorem gjU (id : Nat) {ι : Type} (J : ι → AS) (ok : ι → Prop) (e : (isCode (advU id prog N 100000 cf).1, ((advU id prog N 100000 cf).2).map (·.1)) = (true, ((advU id prog N 100000 cf).2).map (·.2)))
    (h1 : ∀ Jp, Bk As η0 m0 J ok Jp → G ρ N D0 Q As η0 m0 (ctnC (advU id prog N 100000 cf).1 Jp)) (h2 : ∀ x, ok x → G ρ N D0 Q As η0 m0 ⟨J x, .pop, (advU id prog N 100000 cf).1.K⟩) : G ρ N D0 Q As η0 m0 cf := ⟨go_joinU mixed J ok e (h1 _ ⟨fun _ _ h => h⟩).h fun x hx => (h2 x hx).h⟩
theorem gj {ι : Type} (J : ι → AS) (ok : ι → Prop) (e : (isCode (adv prog N 100000 cf).1, ((adv prog N 100000 cf).2).map (·.1)) = (true, ((adv prog N 100000 cf).2).map (·.2)))
    (h1 : ∀ Jp, Bk As η0 m0 J ok Jp → G ρ N D0 Q As η0 m0 (ctnC (adv prog N 100000 cf).1 Jp)) (h2 : ∀ x, ok x → G ρ N D0 Q As η0 m0 ⟨J x, .pop, (adv prog N 100000 cf).1.K⟩) : G ρ N D0 Q As η0 m0 cf := ⟨go_join mixed J ok e (h1 _ ⟨fun _ _ h => h⟩).h fun x hx => (h2 x hx).h⟩
theorem gl {n0 : Nat} {ι : Type} (hd : ∀ n, η0 n ≠ none → n < n0) (J : ι → AS) (pre : ι → Prop) (μ : ι → Nat) (x0 : ι) (hx : pre x0)
    (e : ((loopOf (adv prog N 100000 cf).1).isSome, vwL (adv prog N 100000 cf).1.s (J x0) n0, (vwP (adv prog N 100000 cf).1.s (J x0)).isSome, ((adv prog N 100000 cf).2).map (·.1)) = (true, vwR (adv prog N 100000 cf).1.s (J x0), true, ((adv prog N 100000 cf).2).map (·.2)))
    (h : ∀ x, pre x → ∀ Jp, Bk As η0 m0 J (fun y => pre y ∧ μ y < μ x) Jp → G ρ N D0 Q As η0 m0 (rndC (adv prog N 100000 cf).1 (J x) Jp)) : G ρ N D0 Q As η0 m0 cf := ⟨go_loop mixed J pre μ x0 hx hd e fun x hx => (h x hx _ ⟨fun _ _ h => h⟩).h⟩
theorem mu_lt {n i : Nat} (hlt : i < n) (hn : n ≤ 9223372036854775807) : n - (w64 ((i : Int) + 1)).toNat < n - ((i : Int)).toNat := by
  rw [w64_succ hlt hn]; omega
theorem glen (id : Nat) {α : Type} {E : α → List D} {xs : List α} (t : Nat) (e : (isCode (advU id prog N 100000 cf).1, lenK (advU id prog N 100000 cf).1.s t, ((advU id prog N 100000 cf).2).map (·.1)) = (true, some (.sl α E xs), ((advU id prog N 100000 cf).2).map (·.2)))
    (h : xs.length ≤ 9223372036854775807 → G ρ N D0 Q As η0 m0 (advU id prog N 100000 cf).1) : G ρ N D0 Q As η0 m0 cf := ⟨go_len mixed t e fun q => (h q).h⟩
theorem gnil {α : Type} (E : α → List D) (t sz : Nat)
    (e : (plainMd (adv prog N 100000 cf).1, isNilA (get (adv prog N 100000 cf).1.s.sl t), ((adv prog N 100000 cf).2).map (·.1)) = (true, true, ((adv prog N 100000 cf).2).map (·.2)))
    (g : G ρ N D0 Q As η0 m0 (nilC (adv prog N 100000 cf).1 t sz α E)) : G ρ N D0 Q As η0 m0 cf := ⟨go_nil mixed t sz e g.h⟩
theorem gnilU (id : Nat) {α : Type} (E : α → List D) (t sz : Nat)
    (e : (plainMd (advU id prog N 100000 cf).1, isNilA (get (advU id prog N 100000 cf).1.s.sl t), ((advU id prog N 100000 cf).2).map (·.1)) = (true, true, ((advU id prog N 100000 cf).2).map (·.2)))
    (g : G ρ N D0 Q As η0 m0 (nilC (advU id prog N 100000 cf).1 t sz α E)) : G ρ N D0 Q As η0 m0 cf := ⟨go_nilU mixed t sz e g.h⟩
theorem gcG {c : Bool} {k : FuncId} {ea : List AV} {r : AV} (hs : c = true → Sf prog k ea r)
    (e : (gOf (adv prog N 100000 cf).1, callP (adv prog N 100000 cf).1 ea, ea.all (okA 0), ((adv prog N 100000 cf).2 ++ esOf (adv prog N 100000 cf).1).map (·.1)) = (c, some (k, ea), true, ((adv prog N 100000 cf).2 ++ esOf (adv prog N 100000 cf).1).map (·.2)))
    (g : G ρ N D0 Q As η0 m0 (pushV N (adv prog N 100000 cf).1 r)) : G ρ N D0 Q As η0 m0 cf := gc (fun h => hs (Eq.trans (Eq.symm (congrArg Prod.fst e)) h)) (congrArg Prod.snd e) g
theorem gidxG {c : Bool} {k : Nat} {α : Type} {E : α → List D} {xs : List α} {j : Int} {x : α} (hE : ∀ x, (E x).length = k) (hq : c = true → idx xs j = some x)
    (e : (gOf (adv prog N 100000 cf).1, (idxK prog (adv prog N 100000 cf).1).map (fun r => (r.1, r.2.1, r.2.2.1)), ((adv prog N 100000 cf).2 ++ esOf (adv prog N 100000 cf).1).map (·.1)) = (c, some (.sl α E xs, j, k), ((adv prog N 100000 cf).2 ++ esOf (adv prog N 100000 cf).1).map (·.2)))
    (g : G ρ N D0 Q As η0 m0 (pushVR N (adv prog N 100000 cf).1 (.d (.pf (E x))) (idxT prog (adv prog N 100000 cf).1))) : G ρ N D0 Q As η0 m0 cf := gidx hE (fun h => hq (Eq.trans (Eq.symm (congrArg Prod.fst e)) h)) (congrArg Prod.snd e) g
end
end Go.Proofs.YtgnklegamndglaaGreat
end
section
namespace Go.Ax
open Go Go.Gw
structure Br (α : Type) [GoT α] (E : α → List D) : Prop where
  to : ∀ {m : Mem} {cs : List Value} {x : α}, GoT.rep m cs x → FRL m (E x) cs
  of : ∀ {m : Mem} {cs : List Value} {x : α}, FRL m (E x) cs → GoT.rep m cs x
  len : ∀ x, (E x).length = GoT.sz α
theorem FRL.c1 {m : Mem} {d : D} {v : Value} (h : FR m d v) : FRL m [d] [v] := .cons h .nil
theorem FRL.c1_inv {m : Mem} {d : D} {cs : List Value} (h : FRL m [d] cs) : ∃ v, cs = [v] ∧ FR m d v := by
  obtain ⟨v, us, rfl, h1, h2⟩ := h.cons_inv
  have := h2.nil_inv; subst this
  exact ⟨v, rfl, h1⟩
theorem FR.i_inv {m : Mem} {n} {v : Value} (h : FR m (.i n) v) : v = vI n := by cases h; rfl
theorem FR.u_inv {m : Mem} {n} {v : Value} (h : FR m (.u n) v) : v = vU n := by cases h; rfl
theorem FR.b_inv {m : Mem} {n} {v : Value} (h : FR m (.b n) v) : v = vB n := by cases h; rfl
theorem FR.t_inv {m : Mem} {n} {v : Value} (h : FR m (.t n) v) : v = vb n := by cases h; rfl
theorem FR.s_inv {m : Mem} {n} {v : Value} (h : FR m (.s n) v) : v = vS n := by cases h; rfl
theorem Br.i : Br Int (fun n => [.i n]) := ⟨fun h => by have h : _ = _ := h; subst h; exact .c1 (.i _), fun h => by obtain ⟨v, rfl, g⟩ := FRL.c1_inv h; exact congrArg (fun z => [z]) g.i_inv, fun _ => rfl⟩
theorem Br.u : Br UInt64 (fun n => [.u n]) := ⟨fun h => by have h : _ = _ := h; subst h; exact .c1 (.u _), fun h => by obtain ⟨v, rfl, g⟩ := FRL.c1_inv h; exact congrArg (fun z => [z]) g.u_inv, fun _ => rfl⟩
theorem Br.b : Br UInt8 (fun n => [.b n]) := ⟨fun h => by have h : _ = _ := h; subst h; exact .c1 (.b _), fun h => by obtain ⟨v, rfl, g⟩ := FRL.c1_inv h; exact congrArg (fun z => [z]) g.b_inv, fun _ => rfl⟩
theorem Br.t : Br Bool (fun n => [.t n]) := ⟨fun h => by have h : _ = _ := h; subst h; exact .c1 (.t _), fun h => by obtain ⟨v, rfl, g⟩ := FRL.c1_inv h; exact congrArg (fun z => [z]) g.t_inv, fun _ => rfl⟩
theorem Br.s : Br ByteArray (fun n => [.s n]) := ⟨fun h => by have h : _ = _ := h; subst h; exact .c1 (.s _), fun h => by obtain ⟨v, rfl, g⟩ := FRL.c1_inv h; exact congrArg (fun z => [z]) g.s_inv, fun _ => rfl⟩
theorem Br.pair {α β : Type} [GoT α] [GoT β] {E : α → List D} {F : β → List D} (a : Br α E) (b : Br β F) : Br (α × β) (fun x => E x.1 ++ F x.2) :=
  ⟨fun ⟨c, d, e, h1, h2⟩ => by subst e; exact (a.to h1).append (b.to h2), fun {m cs x} h => by
    have h1 := h.take (E x.1).length
    have h2 := h.drop (E x.1).length
    rw [List.take_left] at h1
    rw [List.drop_left] at h2
    exact ⟨_, _, (List.take_append_drop _ _).symm, a.of h1, b.of h2⟩, fun x => by
    rw [List.length_append, a.len, b.len]; rfl⟩
section
variable {α : Type} [GoT α] {E : α → List D} {m : Mem} {v : Value}
theorem Br.toL (b : Br α E) : ∀ {xs : List α} {cs : List Value}, RepL m cs xs → FRL m (xs.flatMap E) cs
  | [], cs, h => by have h : cs = [] := h; subst h; exact .nil
  | x :: xs, cs, ⟨c, d, e, h1, h2⟩ => by subst e; rw [List.flatMap_cons]; exact (b.to h1).append (b.toL h2)
theorem Br.ofL (b : Br α E) : ∀ {xs : List α} {cs : List Value}, FRL m (xs.flatMap E) cs → RepL m cs xs
  | [], cs, h => show cs = [] from FRL.nil_inv (by simpa using h)
  | x :: xs, cs, h => by
    rw [List.flatMap_cons] at h
    have h1 := h.take (E x).length
    have h2 := h.drop (E x).length
    rw [List.take_left] at h1
    rw [List.drop_left] at h2
    exact ⟨_, _, (List.take_append_drop _ _).symm, b.of h1, b.ofL h2⟩
theorem Br.toS (b : Br α E) {xs : List α} (h : SlR m v xs) : FR m (.sl α E xs) v := by
  obtain ⟨cs, h1, h2⟩ := h
  have := b.toL h2
  exact .sl h1 (fun x _ => b.len x) this.1 this.2
theorem Br.ofS (b : Br α E) {xs : List α} (h : FR m (.sl α E xs) v) : SlR m v xs := by
  cases h with
  | @sl _ _ _ sz' _ cs h hE' hl hr =>
    refine ⟨cs, ?_, b.ofL ⟨hl, hr⟩⟩
    cases xs with
    | nil =>
      have : cs = [] := by simp at hl; exact List.length_eq_zero_iff.1 hl.symm
      subst this
      exact ⟨by simp, h.2.1, h.2.2⟩
    | cons x xs =>
      have : sz' = GoT.sz α := by rw [← hE' x List.mem_cons_self, b.len x]
      subst this; exact h
theorem Br.sl (b : Br α E) : Br (List α) (fun xs => [.sl α E xs]) :=
  ⟨fun ⟨v, e, h⟩ => by subst e; exact .c1 (b.toS h), fun h => by obtain ⟨v, rfl, g⟩ := FRL.c1_inv h; exact ⟨v, rfl, b.ofS g⟩, fun _ => rfl⟩
theorem Br.mk' {β : Type} [GoT β] {F : β → List D} (b : Br β F) (E : α → List D) (f : α → β) (hr : ∀ (m : Mem) (cs : List Value) (x : α), GoT.rep m cs x = GoT.rep m cs (f x)) (hE : ∀ x, F (f x) = E x) (hs : GoT.sz α = GoT.sz β) : Br α E :=
  ⟨fun h => by rw [← hE]; rw [hr] at h; exact b.to h, fun h => by rw [← hE] at h; rw [hr]; exact b.of h, fun x => by rw [← hE, b.len, hs]⟩
theorem Br.toA (b : Br α E) {η : Env} {x : α} {cs : List Value} (h : GoT.rep m cs x) : Rel η m (.agg ((E x).map .d)) (.agg cs.toArray) := by
  have := RelL.ofD (η := η) (b.to h)
  exact .agg this.1 this.2
theorem RelL.toD {η : Env} {ds : List D} {vs : List Value} (h : RelL η m (ds.map .d) vs) : FRL m ds vs := by
  refine ⟨by simpa using h.1, fun k d u a b => ?_⟩
  exact (h.2 k (.d d) u (by simp [a]) b).dd
theorem Br.ofA (b : Br α E) {η : Env} {x : α} {v : Value} (h : Rel η m (.agg ((E x).map .d)) v) : ∃ cs, v = .agg cs.toArray ∧ GoT.rep m cs x := by
  obtain ⟨vs, rfl, g⟩ := h.agg_inv
  exact ⟨vs, rfl, b.of (RelL.toD g)⟩
theorem Br.toR (b : Br α E) {η : Env} {n sz : Nat} {cs : List Value} {xs : List α} (hs : GoT.sz α = sz) (hn : η n = some v) (h1 : v.oneCell' = true) (h : RepL m cs xs) : ∀ x, Gw.row sz v cs xs.length x → rep η m (.row n sz α E xs) x :=
  fun x hx => ⟨v, cs, hn, h1, b.toL h, fun x _ => (b.len x).trans hs, hx⟩
end
theorem sepC {A B : Ow} {As Bs : List Ow} (h : ∀ x, A x → B x) (k : ∀ x, sepL As x → sepL Bs x) : ∀ x, sepL (A :: As) x → sepL (B :: Bs) x :=
  fun x ⟨h1, h2, a, s, d, e⟩ => ⟨h1, h2, h h1 a, k h2 s, d, e⟩
theorem _root_.Go.Gw.St.impL {m : Mem} {As Bs : List Ow} {w : World} (S : St m As w) (h : ∀ x, sepL As x → sepL Bs x) : St m Bs w := by
  obtain ⟨x, sx, rx⟩ := S.own
  exact ⟨S.os, S.tape, S.output, x, h x sx, rx⟩
theorem Rel.tup' {η : Env} {m : Mem} {cs : List AV} {vs : List Value} (h : RelL η m cs vs) : Rel η m (.tup cs) (.tuple vs.toArray) := .tup h.1 h.2
def envL (l : List Value) : Env := fun n => l[n]?
theorem envL_dom {l : List Value} {k : Nat} (hk : l.length = k) : ∀ n, envL l n ≠ none → n < k := by
  intro n h
  rcases Nat.lt_or_ge n l.length with q | q
  · omega
  · exact absurd (List.getElem?_eq_none q) h
theorem dom0 {η : Env} (hd : ∀ n, η n ≠ none → n < 0) (η' : Env) : η.le η' := fun n v h => absurd (hd n (by rw [h]; simp)) (by omega)
def cvR (ob : List Tok) : AV → AV → AV
  | .tup es, .tup az => .tup (cvV ob es az).1
  | e, a => (cvA ob e a).1
theorem cvR_rel {ob : List Tok} {η : Env} {m : Mem} (k : ∀ ns, Kn ob η m ns) {e a : AV} {v : Value} (r : Rel η m a v) : Rel η m (cvR ob e a) v := by
  unfold cvR
  split
  · obtain ⟨vs, rfl, h⟩ := r.tup_inv
    exact .tup' (cvV_rel (k _) h)
  · exact cvA_rel (k _) r
theorem Sp.fz {P : Program} {k : FuncId} {args : List AV} {er er' : AV} {eobs : List AObj} {n1 : Nat} (h : Sp P k args [] 0 (is er eobs n1))
    (e : ((enO 0 eobs).all (fun p => isRow p.2), okA 0 er', cvR (enO 0 eobs) er' er) = (true, true, er')) : Sf P k args er' := by
  simp only [Prod.mk.injEq] at e
  obtain ⟨e1, e2, e3⟩ := e
  refine ⟨h.1, fun η m As w vs hv hd S => CallsR.mono (h.2 η m As w vs hv hd S) ?_⟩
  rintro v w' ⟨M, η', r, obs', n1', hle, hη, ⟨rfl, rfl, rfl⟩, hdom, hR, S'⟩
  rw [← enO_reps (k := 0)] at S'
  obtain ⟨M2, l2, K, S2⟩ := freezeL e1 S'
  have KN : ∀ ns, Kn (enO 0 obs') η' M2 ns := fun ns n hn d hd => by
    obtain ⟨p, hf, hp, _, hnm⟩ := frD_datum hd
    obtain ⟨v, a, b⟩ := K p (find_nm hf)
    rw [hnm] at a; rw [hp] at b; exact ⟨v, a, b⟩
  have hr := cvR_rel KN (e := er') (hR.up Env.le_refl l2)
  rw [e3] at hr
  exact ⟨M2, none0, er', [], 0, Mem.tr hle l2, dom0 hd _, ⟨rfl, rfl, rfl⟩, fun n h => absurd rfl h, okA_rel (fun k hk => absurd hk (by omega)) e2 hr, S2⟩
end Go.Ax
end
