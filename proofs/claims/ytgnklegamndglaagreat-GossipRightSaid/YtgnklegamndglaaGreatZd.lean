/- Several texts, one behind the other. Conditions: none. -/
import Derived.Test.YtgnklegamndglaaGreatZc
set_option linter.unusedSimpArgs false
set_option linter.unusedVariables false
section
namespace Go.Ax
open Go Go.Gw
def resT (ob : List Tok) : AV → Option (D × List Tok)
  | .d d => some (d, [])
  | .ow n => match find n ob with
    | some (i, .fr k d) => bif Nat.beq k n then some (d, [(i, .fr k d)]) else none
    | _ => none
  | _ => none
theorem resT_ok {ob : List Tok} {a : AV} {d : D} {ts : List Tok} (h : resT ob a = some (d, ts)) {η : Env} {m : Mem} {As : List Ow} {w : World} {v : Value} (S : St m (reps η m ts ++ As) w) (r : Rel η m a v) : FR m d v := by
  unfold resT at h
  split at h
  · cases h; exact r.dd
  · rename_i n
    split at h
    · rename_i i k d' hf
      cases hb : Nat.beq k n
      · rw [hb] at h; cases h
      · rw [hb] at h; cases h
        have := Nat.eq_of_beq_eq_true hb; subst this
        obtain ⟨⟨u, h1, h2⟩, _⟩ := St.openFr S
        have := r.ow_inv.1
        rw [h1] at this; cases this; exact h2
    · cases h
  · cases h
theorem resT_sub {ob : List Tok} {a : AV} {d : D} {ts : List Tok} (h : resT ob a = some (d, ts)) : (∀ p ∈ ts, p ∈ ob) ∧ (tids ts).Nodup := by
  unfold resT at h
  split at h
  · cases h; exact ⟨fun _ h => (by cases h), List.nodup_nil⟩
  · split at h
    · rename_i i k d' hf
      cases hb : Nat.beq k _
      · rw [hb] at h; cases h
      · rw [hb] at h; cases h
        exact ⟨fun p hp => by simp at hp; subst hp; exact find_nm hf, by simp [tids]⟩
    · cases h
  · cases h
def pushVR (N : Nat) (cf : Cf) (v : AV) (rd : List Tok) : Cf :=
  match opAt cf with
  | some a => match a.g with
    | none => push N cf ⟨v, rd, [], [], cf.s.nx, []⟩
    | some (g, w, p) => push N cf ⟨.gd g w p v, rd, [], [], cf.s.nx, []⟩
  | none => cf
section
variable {ρ : Option Nat} {P : Program} {N : Nat} {D0 : World} {Q : Post} {As : List Ow} {η0 : Env} {m0 : Mem}
theorem rd_sok {s : AS} {v : AV} {es : Eqs} {rd : List Tok} (h : (∀ p ∈ rd, p ∈ s.ob) ∧ (tids rd).Nodup) : StpOk s ⟨v, rd, [], [], s.nx, es⟩ := ⟨fun x hx => h.1 x (by simpa using hx), by simpa using h.2, by simp [tids], fun t ht => by simp [tids] at ht⟩
theorem go_valR {cf : Cf} {a : OpAt} {v : AV} {rd : List Tok} (ha : opAt cf = some a) (he : EqsOk a.es) (hrd : (∀ p ∈ rd, p ∈ cf.s.ob) ∧ (tids rd).Nodup)
    (ht : (∀ q, a.g = some q → q.2.2 = true) → Tri ρ P N D0 a.l.toArray { a.o with guard := none } cf.s.fz a.sl cf.s.nx ⟨v, rd, [], [], cf.s.nx, []⟩)
    (g : Go ρ P N D0 Q As η0 m0 (pushVR N cf v rd)) : Go ρ P N D0 Q As η0 m0 cf := by
  obtain ⟨s, md, K⟩ := cf
  have ha0 := ha
  unfold opAt at ha
  split at ha <;> first | cases ha | skip
  rename_i dr l o rest h hmd
  simp only at hmd; subst hmd
  split at ha
  · rename_i hg
    cases ha
    have e : { o with guard := none } = o := by obtain ⟨a, b, c, d, e, f⟩ := o; simp only at hg; subst hg; rfl
    rw [show pushVR N ⟨s, .ops dr l (o :: rest) h, K⟩ v rd = push N ⟨s, .ops dr l (o :: rest) h, K⟩ ⟨v, rd, [], [], s.nx, []⟩ by unfold pushVR; rw [ha0]] at g
    refine ⟨_, ?_, rd_sok hrd, g⟩
    have hr : rds l.toArray o = opT o.op := by simp [rds, hg]
    rw [hr]
    have := ht (fun q hq => by cases hq)
    rw [e] at this
    exact this
  · rename_i j w hg
    split at ha
    · cases ha
    · rename_i gs hd
      split at ha
      · rename_i v' hk
        cases hb : beqB v' w
        · rw [hb] at ha; cases ha
        · rw [hb] at ha
          simp only [cond_true] at ha
          cases ha
          rw [show pushVR N ⟨s, .ops dr l (o :: rest) h, K⟩ v rd = push N ⟨s, .ops dr l (o :: rest) h, K⟩ ⟨v, rd, [], [], s.nx, []⟩ by unfold pushVR; rw [ha0]] at g
          exact ⟨_, tri_kn hg hd hk hb (ht (fun q hq => by cases hq)), rd_sok hrd, g⟩
      split at ha
      · cases ha
      · rename_i p ctx hi
        cases ha
        rw [show pushVR N ⟨s, .ops dr l (o :: rest) h, K⟩ v rd = push N ⟨s, .ops dr l (o :: rest) h, K⟩ ⟨.gd gs w p v, rd, [], [], s.nx, []⟩ by unfold pushVR; rw [ha0]] at g
        refine ⟨_, ?_, rd_sok hrd, g⟩
        exact tri_es (tri_guard hg hd hi he fun hp => ht fun q hq => by cases hq; exact hp)
theorem gOf_of {cf : Cf} {a : OpAt} (ha : opAt cf = some a) (h : ∀ q, a.g = some q → q.2.2 = true) : gOf cf = true := by
  unfold gOf; rw [ha]
  obtain ⟨l, o, gg, sl, es⟩ := a
  cases gg with
  | none => rfl
  | some q => exact h q rfl
theorem esOf_of {cf : Cf} {a : OpAt} (ha : opAt cf = some a) : esOf cf = a.es := by unfold esOf; rw [ha]
def idxK (P : Program) (cf : Cf) : Option (D × Int × Nat × List Tok) :=
  match opAt cf with
  | some a => match a.o.op with
    | .indexAddr t x y => match resT cf.s.ob (aev a.sl x), toIv a.sl y, P.underlying t with
      | some (d, ts), some (_, j), some (.slice e) => match tinf P e with
        | some i => some (d, j, i.sz, ts)
        | none => none
      | _, _, _ => none
    | _ => none
  | none => none
def idxT (P : Program) (cf : Cf) : List Tok := match idxK P cf with | some (_, _, _, ts) => ts | none => []
theorem go_idx (hm : P.follows .mixedOrders = true) {n k : Nat} {cf : Cf} {α : Type} {E : α → List D} {xs : List α} {j : Int} {x : α} (hE : ∀ x, (E x).length = k) (hq : gOf (adv P N n cf).1 = true → idx xs j = some x)
    (e : ((idxK P (adv P N n cf).1).map (fun r => (r.1, r.2.1, r.2.2.1)), ((adv P N n cf).2 ++ esOf (adv P N n cf).1).map (·.1)) = (some (.sl α E xs, j, k), ((adv P N n cf).2 ++ esOf (adv P N n cf).1).map (·.2)))
    (g : Go ρ P N D0 Q As η0 m0 (pushVR N (adv P N n cf).1 (.d (.pf (E x))) (idxT P (adv P N n cf).1))) : Go ρ P N D0 Q As η0 m0 cf := by
  simp only [Prod.mk.injEq] at e
  obtain ⟨e1, e3⟩ := e
  obtain ⟨he1, he2⟩ := EqsOk.two e3
  refine adv_ok hm he1 ?_
  generalize (adv P N n cf).1 = c0 at *
  cases hk : idxK P c0 with
  | none => rw [hk] at e1; cases e1
  | some r =>
    have hT : idxT P c0 = r.2.2.2 := by unfold idxT; rw [hk]
    rw [hT] at g
    rw [hk] at e1
    simp only [Option.map_some, Option.some.injEq, Prod.mk.injEq] at e1
    obtain ⟨e1, e2, e4⟩ := e1
    unfold idxK at hk
    split at hk
    · rename_i a ha
      rw [esOf_of ha] at he2
      split at hk
      · rename_i t x' y hop
        split at hk
        · rename_i d ts kk jj e' h1 h2 h3
          split at hk
          · rename_i i hi
            cases hk
            simp only at e1 e2 e4 g
            subst e1 e2
            refine go_valR ha he2 (resT_sub h1) (fun hp => ?_) g
            have q := hq (gOf_of ha hp)
            obtain ⟨l, ⟨dst, op, ty, pos, af, gd⟩, gg, sl, es⟩ := a
            simp only at hop ⊢; subst hop
            refine ⟨Nat.le_refl _, fun rest Q η m f w As hr hz hn S hk => ?_⟩
            have S' : St m (reps η m ts ++ As) w := S
            have hf := resT_ok h1 S' (aev_rel hr x')
            letI := gotE E k
            refine s_idx (q := x) rfl (toIv_val h2 hr) (of_sl hf hE) q h3 (by rw [← e4]; exact tinf_sz hi) fun p cs hp hrep => ?_
            exact hk η m w p Env.le_refl (Mem.rfl' m) (fun n h => .inl h) (.d (.pf hp (PtC.isPt hp) hrep.1.1 hrep.1.2)) S
          · cases hk
        · cases hk
      · cases hk
    · cases hk
def dlen : D → Int
  | .sl _ _ xs => (xs.length : Int)
  | _ => 0
def cutK (P : Program) (cf : Cf) : Option (D × Int × Int × Int × Nat × List Tok) :=
  match opAt cf with
  | some a => match a.o.op with
    | .slice t x lo hi mx => match resT cf.s.ob (aev a.sl x), P.underlying t with
      | some (d, ts), some (.slice e) => match tinf P e with
        | some i =>
          let l : Option Int := match lo with | none => some 0 | some o => (toIv a.sl o).map (·.2)
          let h : Option Int := match hi with | none => some (dlen d) | some o => (toIv a.sl o).map (·.2)
          let m : Option Int := match mx with | none => h | some o => match hi with | none => none | some _ => (toIv a.sl o).map (·.2)
          match l, h, m with
          | some l, some h, some m => some (d, l, h, m, i.sz, ts)
          | _, _, _ => none
        | none => none
      | _, _ => none
    | _ => none
  | none => none
def cutT (P : Program) (cf : Cf) : List Tok := match cutK P cf with | some (_, _, _, _, _, ts) => ts | none => []
theorem go_cut (hm : P.follows .mixedOrders = true) {n k : Nat} {cf : Cf} {α : Type} {E : α → List D} {xs ys : List α} {lo hi : Int} (hE : ∀ x, (E x).length = k) (hq : gOf (adv P N n cf).1 = true → cut xs lo hi = some ys)
    (e : ((cutK P (adv P N n cf).1).map (fun r => (r.1, r.2.1, r.2.2.1, r.2.2.2.1, r.2.2.2.2.1)), ((adv P N n cf).2 ++ esOf (adv P N n cf).1).map (·.1)) = (some (.sl α E xs, lo, hi, hi, k), ((adv P N n cf).2 ++ esOf (adv P N n cf).1).map (·.2)))
    (g : Go ρ P N D0 Q As η0 m0 (pushVR N (adv P N n cf).1 (.d (.sl α E ys)) (cutT P (adv P N n cf).1))) : Go ρ P N D0 Q As η0 m0 cf := by
  simp only [Prod.mk.injEq] at e
  obtain ⟨e1, e3⟩ := e
  obtain ⟨he1, he2⟩ := EqsOk.two e3
  refine adv_ok hm he1 ?_
  generalize (adv P N n cf).1 = c0 at *
  cases hk : cutK P c0 with
  | none => rw [hk] at e1; cases e1
  | some r =>
    have hT : cutT P c0 = r.2.2.2.2.2 := by unfold cutT; rw [hk]
    rw [hT] at g
    rw [hk] at e1
    simp only [Option.map_some, Option.some.injEq, Prod.mk.injEq] at e1
    obtain ⟨e1, e2, e4, e5, e6⟩ := e1
    unfold cutK at hk
    split at hk
    · rename_i a ha
      rw [esOf_of ha] at he2
      split at hk
      · rename_i t x' lo' hi' mx' hop
        split at hk
        · rename_i d ts e' h1 h3
          split at hk
          · rename_i i hti
            simp only at hk
            split at hk
            · rename_i l h m hl hh hmm
              cases hk
              simp only at e1 e2 e4 e5 e6 g
              subst e1 e2 e4 e5
              refine go_valR ha he2 (resT_sub h1) (fun hp => ?_) g
              have q := hq (gOf_of ha hp)
              obtain ⟨ll, ⟨dst, op, ty, pos, af, gd⟩, gg, sl, es⟩ := a
              simp only at hop hl hh hmm ⊢; subst hop
              refine ⟨Nat.le_refl _, fun rest Q η m' f w As hr hz hn S hk => ?_⟩
              have S' : St m' (reps η m' ts ++ As) w := S
              have hf := resT_ok h1 S' (aev_rel hr x')
              letI := gotE E k
              refine s_cut rfl (of_sl hf hE) h3 (by rw [← e6]; exact tinf_sz hti) ?_ ?_ ?_ q fun v' hv' => hk η m' w v' Env.le_refl (Mem.rfl' m') (fun n h => .inl h) (.d (to_sl hv')) S
              · cases lo' with
                | none => simp only [Option.some.injEq] at hl; exact .inl ⟨rfl, hl.symm⟩
                | some o =>
                  simp only [Option.map_eq_some_iff] at hl
                  obtain ⟨⟨kk, jj⟩, hj, rfl⟩ := hl
                  exact .inr ⟨kk, by simp only [Option.map_some]; rw [toIv_val hj hr]⟩
              · cases hi' with
                | none => simp only [Option.some.injEq] at hh; exact .inl ⟨rfl, hh.symm⟩
                | some o =>
                  simp only [Option.map_eq_some_iff] at hh
                  obtain ⟨⟨kk, jj⟩, hj, rfl⟩ := hh
                  exact .inr ⟨kk, by simp only [Option.map_some]; rw [toIv_val hj hr]⟩
              · cases mx' with
                | none => exact .inl rfl
                | some o =>
                  cases hi' with
                  | none => simp at hmm
                  | some o2 =>
                    simp only [Option.map_eq_some_iff] at hmm
                    obtain ⟨⟨kk, jj⟩, hj, rfl⟩ := hmm
                    exact .inr ⟨by simp, kk, by simp only [Option.map_some]; rw [toIv_val hj hr]⟩
            · cases hk
          · cases hk
        · cases hk
      · cases hk
    · cases hk
def nzD : D → Prop
  | .i n => n ≠ 0
  | .u n => n ≠ 0
  | _ => False
def quoK (cf : Cf) : Option (AV × D) :=
  match opAt cf with
  | some a => match a.o.op with
    | .binOp op _ x y _ => match quoV op (aev a.sl x) (aev a.sl y) with
      | some r => some (aev a.sl y, r)
      | none => none
    | _ => none
  | none => none
theorem go_quo (hm : P.follows .mixedOrders = true) {n : Nat} {cf : Cf} {d r : D} (hq : gOf (adv P N n cf).1 = true → nzD d)
    (e : (quoK (adv P N n cf).1, ((adv P N n cf).2 ++ esOf (adv P N n cf).1).map (·.1)) = (some (.d d, r), ((adv P N n cf).2 ++ esOf (adv P N n cf).1).map (·.2)))
    (g : Go ρ P N D0 Q As η0 m0 (pushVR N (adv P N n cf).1 (.d r) [])) : Go ρ P N D0 Q As η0 m0 cf := by
  simp only [Prod.mk.injEq] at e
  obtain ⟨e1, e3⟩ := e
  obtain ⟨he1, he2⟩ := EqsOk.two e3
  refine adv_ok hm he1 ?_
  generalize (adv P N n cf).1 = c0 at *
  unfold quoK at e1
  split at e1
  · rename_i a ha
    rw [esOf_of ha] at he2
    split at e1
    · rename_i op t x y t' hop
      split at e1
      · rename_i r' hr'
        simp only [Option.some.injEq, Prod.mk.injEq] at e1
        obtain ⟨ed, rfl⟩ := e1
        refine go_valR (rd := []) ha he2 ⟨fun _ h => (by cases h), List.nodup_nil⟩ (fun hp => ?_) g
        have q := hq (gOf_of ha hp)
        obtain ⟨l, ⟨dst, op', ty, pos, af, gd⟩, gg, sl, es⟩ := a
        simp only at hop ed hr' ⊢; subst hop
        refine ⟨Nat.le_refl _, fun rest Q η m f w As hr hz hn S hk => ?_⟩
        have ry := aev_rel hr y
        rw [ed] at ry hr'
        have fin : ∀ u, Rel η m (.d r') u → wpl ρ P N D0 l.toArray rest Q (upo N f dst u) w := fun u hu => hk η m w u Env.le_refl (Mem.rfl' m) (fun n h => .inl h) hu S
        cases d <;> simp only [nzD] at q
        · exact quo_ok hr' (aev_rel hr x) ry ry.i_inv q fin
        · rename_i nn
          exact quo_ok hr' (aev_rel hr x) ry ry.u_inv (fun e => q (by rw [← UInt64.toNat_inj]; simpa using e)) fin
      · cases e1
    · cases e1
  · cases e1
def shK (cf : Cf) : Option (Int × D) :=
  match opAt cf with
  | some a => match a.o.op with
    | .binOp op _ x y _ => match toIv a.sl y with
      | some (k, n) => match shV op (aev a.sl x) k n with
        | some r => some (n, r)
        | none => none
      | none => none
    | _ => none
  | none => none
theorem go_sh (hm : P.follows .mixedOrders = true) {n : Nat} {cf : Cf} {c : Int} {r : D} (hq : gOf (adv P N n cf).1 = true → 0 ≤ c)
    (e : (shK (adv P N n cf).1, ((adv P N n cf).2 ++ esOf (adv P N n cf).1).map (·.1)) = (some (c, r), ((adv P N n cf).2 ++ esOf (adv P N n cf).1).map (·.2)))
    (g : Go ρ P N D0 Q As η0 m0 (pushVR N (adv P N n cf).1 (.d r) [])) : Go ρ P N D0 Q As η0 m0 cf := by
  simp only [Prod.mk.injEq] at e
  obtain ⟨e1, e3⟩ := e
  obtain ⟨he1, he2⟩ := EqsOk.two e3
  refine adv_ok hm he1 ?_
  generalize (adv P N n cf).1 = c0 at *
  unfold shK at e1
  split at e1
  · rename_i a ha
    rw [esOf_of ha] at he2
    split at e1
    · rename_i op t x y t' hop
      split at e1
      · rename_i k nn hy
        split at e1
        · rename_i r' hr'
          simp only [Option.some.injEq, Prod.mk.injEq] at e1
          obtain ⟨rfl, rfl⟩ := e1
          refine go_valR (rd := []) ha he2 ⟨fun _ h => (by cases h), List.nodup_nil⟩ (fun hp => ?_) g
          have q := hq (gOf_of ha hp)
          obtain ⟨l, ⟨dst, op', ty, pos, af, gd⟩, gg, sl, es⟩ := a
          simp only at hop hy hr' ⊢; subst hop
          refine ⟨Nat.le_refl _, fun rest Q η m f w As hr hz hn S hk => ?_⟩
          exact sh_ok hr' (aev_rel hr x) (toIv_val hy hr) q fun u hu => hk η m w u Env.le_refl (Mem.rfl' m) (fun n h => .inl h) hu S
        · cases e1
      · cases e1
    · cases e1
  · cases e1
end
end Go.Ax
end
section
namespace Go.Ax
open Go Go.Gw
theorem plan_ok {ob : List Tok} {k : FuncId} {as ea : List AV} {eobs : List AObj} {p : Plan} (hp : planB ob k as ea eobs = some p) {η : Env} {m : Mem} {w : World} {As : List Ow} {vs : List Value}
    (o5 : p.fr.all (fun p => isFr p.2) = true) (o6 : p.fw.all (fun p => isRow p.2) = true) (hv : RelL η m as vs) (S : St m (reps η m ((p.ut ++ p.fw) ++ p.fr) ++ As) w) :
    ∃ m1, m ≤ m1 ∧ RelL η m1 p.as vs ∧ St m1 (p.objs.map (rep η m1) ++ As) w := by
  unfold planB at hp
  simp only at hp
  split at hp
  · rename_i ut hut
    have hplan := Option.some.inj hp
    clear hp
    have pas : p.as = (cvV ob ea as).1 := by rw [← hplan]
    have pobj : p.objs = (cvOs ob eobs ut).1 := by rw [← hplan]
    have put : p.ut = ut := by rw [← hplan]
    have pfw : p.fw = (toksOf ob ((cvV ob ea as).2 ++ (cvOs ob eobs ut).2) []).filter (fun p => isRow p.2) := by rw [← hplan]
    have pfr : p.fr = (toksOf ob ((cvV ob ea as).2 ++ (cvOs ob eobs ut).2) []).filter (fun p => !isRow p.2) := by rw [← hplan]
    clear hplan
    rw [reps_app, reps_app, List.append_assoc, List.append_assoc] at S
    have S1 := S.perm (List.perm_append_comm_assoc (reps η m p.ut) (reps η m p.fw) _)
    obtain ⟨m1, l1, K1, S2⟩ := freezeL o6 S1
    have S3 := St.ru Env.le_refl l1 S2
    have S4 := S3.perm (List.perm_append_comm_assoc (reps η m1 p.ut) (reps η m p.fr) _)
    have S5 := St.ru Env.le_refl l1 S4
    obtain ⟨K2, S6⟩ := frFacts o5 S5
    have KN : Kn ob η m1 ((cvV ob ea as).2 ++ (cvOs ob eobs ut).2) := by
      intro j hj d hd
      obtain ⟨q, hf, hq, hrf, hnm⟩ := frD_datum hd
      have hmem := toksOf_has hf hj (seen := []) rfl
      rcases hrf with h | h
      · have : q ∈ p.fw := by rw [pfw]; simp only [List.mem_filter]; exact ⟨hmem, h⟩
        obtain ⟨v, y1, y2⟩ := K1 q this
        rw [hnm] at y1; rw [hq] at y2; exact ⟨v, y1, y2⟩
      · have : q ∈ p.fr := by
          rw [pfr]; simp only [List.mem_filter]
          refine ⟨hmem, ?_⟩
          cases hq2 : q.2 <;> rw [hq2] at h <;> first | rfl | cases h
        obtain ⟨v, y1, y2⟩ := K2 q this
        rw [hnm] at y1; rw [hq] at y2; exact ⟨v, y1, y2⟩
    obtain ⟨kn1, kn2⟩ := Kn.app KN
    refine ⟨m1, l1, by rw [pas]; exact cvV_rel kn1 (hv.up Env.le_refl l1), ?_⟩
    rw [pobj]
    rw [put] at S6
    obtain ⟨x, sx, rx⟩ := S6.own
    exact ⟨S6.os, S6.tape, S6.output, x, cvOs_rep kn2 sx, rx⟩
  · cases hp
theorem plan_sub {ob : List Tok} {k : FuncId} {as ea : List AV} {eobs : List AObj} {p : Plan} (hp : planB ob k as ea eobs = some p) : ∀ q ∈ (p.ut ++ p.fw) ++ p.fr, q ∈ ob := by
  unfold planB at hp
  simp only at hp
  split at hp
  · rename_i ut hut
    have hplan := Option.some.inj hp
    intro q hq
    rw [← hplan] at hq
    simp only at hq
    rcases List.mem_append.1 hq with h | h
    · rcases List.mem_append.1 h with h | h
      · exact findM_sub hut q h
      · exact toksOf_sub (List.mem_filter.1 h).1
    · exact toksOf_sub (List.mem_filter.1 h).1
  · cases hp
def asV (s t : AS) : List AV := t.sl.map fun p => get s.sl p.1
def vwP (s t : AS) : Option Plan := planB s.ob 0 (asV s t) (t.sl.map (·.2)) (t.ob.map (·.2))
def fixB (mt : Mt) : Nat → Bool
  | 0 => true
  | n + 1 => Nat.beq (mtGet mt n n) n && fixB mt n
theorem fixB_at {mt : Mt} : ∀ {n : Nat}, fixB mt n = true → ∀ j, j < n → mtGet mt j j = j
  | 0, _, j, h => by omega
  | n + 1, h, j, hj => by
    simp only [fixB, Bool.and_eq_true] at h
    by_cases e : j = n
    · subst e; exact Nat.eq_of_beq_eq_true h.1
    · exact fixB_at h.2 j (by omega)
def ltAll (n : Nat) : List Nat → Bool
  | [] => true
  | a :: l => Nat.blt a n && ltAll n l
theorem ltAll_at {n : Nat} : ∀ {l : List Nat}, ltAll n l = true → ∀ t ∈ l, t < n
  | [], _, _, h => by cases h
  | a :: l, h, t, ht => by
    simp only [ltAll, Bool.and_eq_true] at h
    rcases List.mem_cons.1 ht with e | e
    · subst e; exact blt_lt h.1
    · exact ltAll_at h.2 t e
def okVw (p : Plan) (t : AS) (n0 : Nat) : Bool :=
  (t.sl.map (·.2)).all (okA t.nx) && ((t.ob.map (·.2)).all (okO t.nx) && (nodN (tids ((p.ut ++ p.fw) ++ p.fr)) && (fixB p.mt n0 && (Nat.ble n0 t.nx && (p.fr.all (fun p => isFr p.2) && (p.fw.all (fun p => isRow p.2) && (nodN (tids t.ob) && ltAll t.nx (tids t.ob))))))))
def isNilF : Fz → Bool
  | [] => true
  | _ => false
def vwL (s t : AS) (n0 : Nat) : Option (List AV × List AObj × Bool × Bool) :=
  match vwP s t with
  | some p => some (p.as, p.objs, okVw p t n0, isNilF t.fz)
  | none => none
def vwR (s t : AS) : Option (List AV × List AObj × Bool × Bool) :=
  match vwP s t with
  | some p => some ((t.sl.map (·.2)).map (renA fun j => mtGet p.mt j j), (t.ob.map (·.2)).map (renO fun j => mtGet p.mt j j), true, true)
  | none => none
theorem get_all {η : Env} {m : Mem} {f : Fr} : ∀ {l : Sl}, RelL η m (l.map (·.2)) (l.map fun p => f p.1) → ∀ t, Rel η m (get l t) (f t)
  | [], _, t => .any _
  | p :: l, h, t => by
    obtain ⟨v, us, e, h1, h2⟩ := h.cons_inv
    simp only [List.map_cons, List.cons.injEq] at e
    obtain ⟨rfl, rfl⟩ := e
    show Rel η m (bif Nat.beq p.1 t then p.2 else get l t) (f t)
    cases hb : Nat.beq p.1 t
    · exact get_all h2 t
    · have := Nat.eq_of_beq_eq_true hb; rw [this] at h1; exact h1
theorem view_ok {s t : AS} {n0 : Nat} (e : vwL s t n0 = vwR s t) (hne : (vwP s t).isSome = true) {As : List Ow} {η0 η : Env} {m : Mem} {f : Fr} {w : World} (hd : ∀ n, η0 n ≠ none → n < n0) (hle : η0.le η) (g : Gm As s η m f w) :
    ∃ η' m', m ≤ m' ∧ η0.le η' ∧ Gm As t η' m' f w := by
  cases hp : vwP s t with
  | none => rw [hp] at hne; cases hne
  | some p =>
    unfold vwL vwR at e
    rw [hp] at e
    simp only [Option.some.injEq, Prod.mk.injEq] at e
    obtain ⟨e1, e2, e3, e4⟩ := e
    simp only [okVw, Bool.and_eq_true] at e3
    obtain ⟨o1, o2, o3, o4, o5, o6, o7, o8, o9⟩ := e3
    have S := St.rp g.st (less_perm g.wf.nd (nodN_ok o3) (plan_sub hp))
    rw [reps_app, List.append_assoc] at S
    have hv : RelL η m (asV s t) (t.sl.map fun p => f p.1) := ⟨by simp [asV], fun k c u a b => by
      simp only [asV, List.getElem?_map, Option.map_eq_some_iff] at a b
      obtain ⟨x, hx, rfl⟩ := a
      obtain ⟨y, hy, rfl⟩ := b
      rw [hx] at hy; cases hy
      exact g.slr _⟩
    obtain ⟨m1, l1, r1, S1⟩ := plan_ok hp o6 o7 hv S
    rw [e1] at r1
    rw [e2] at S1
    let φ : Nat → Nat := fun j => mtGet p.mt j j
    let η1 : Env := fun j => if j < t.nx then η (φ j) else none
    have hη1 : ∀ j, j < t.nx → η (φ j) = η1 j := fun j hj => (if_pos hj).symm
    -- the rest is let go
    have S2 := S1.perm (show ((t.ob.map (·.2)).map (renO φ)).map (rep η m1) ++ (reps η m (less (tids (p.ut ++ p.fw ++ p.fr)) s.ob) ++ As) |>.Perm (reps η m (less (tids (p.ut ++ p.fw ++ p.fr)) s.ob) ++ (((t.ob.map (·.2)).map (renO φ)).map (rep η m1) ++ As)) from List.perm_append_comm_assoc _ _ _)
    obtain ⟨m2, l2, S3⟩ := St.dropN (reps η m (less (tids (p.ut ++ p.fw ++ p.fr)) s.ob)).length S2
    rw [List.drop_left] at S3
    have S4 : St m2 (reps η1 m2 t.ob ++ As) w := by
      have S3' := St.mapUp (obs := (t.ob.map (·.2)).map (renO φ)) Env.le_refl l2 S3
      refine S3'.imp (by simp [reps]) fun i A B ha hb x hx => ?_
      rw [List.getElem?_append] at ha hb
      simp only [List.length_map, reps] at ha hb
      split at ha
      · rename_i q
        rw [if_pos q] at hb
        simp only [List.getElem?_map, Option.map_eq_some_iff] at ha hb
        obtain ⟨o', ⟨o, ⟨tk, htk, rfl⟩, rfl⟩, rfl⟩ := ha
        obtain ⟨tk', htk', rfl⟩ := hb
        rw [htk] at htk'; cases htk'
        exact renO_of hη1 (List.all_eq_true.1 o2 tk.2 (List.mem_map_of_mem (List.mem_of_getElem? htk))) hx
      · rename_i q
        rw [if_neg q] at hb
        rw [ha] at hb; cases hb; exact hx
    refine ⟨η1, m2, Mem.tr l1 l2, fun k v hv => ?_, get_all (renL_of hη1 o1 (r1.up Env.le_refl l2)), ?_, fun k hk => ?_, S4, nodN_ok o8, fun x hx => ltAll_at o9 x hx⟩
    · have hlt := hd k (by rw [hv]; simp)
      show (if _ then _ else _) = _
      rw [if_pos (Nat.lt_of_lt_of_le hlt (Nat.le_of_ble_eq_true o5))]
      show η (mtGet p.mt k k) = some v
      rw [fixB_at o4 k hlt]; exact hle _ _ hv
    · intro k d hk
      cases hz : t.fz with
      | nil => rw [hz] at hk; cases hk
      | cons _ _ => rw [hz] at e4; cases e4
    · have : (if k < t.nx then η (φ k) else none) ≠ none := hk
      split at this
      · assumption
      · exact absurd rfl this
def Rl (As : List Ow) (η0 : Env) (m0 : Mem) {ι : Type} (J : ι → AS) (ok : ι → Prop) : Fr → World → Prop :=
  fun f w => ∃ x, ok x ∧ ∃ η m, η0.le η ∧ m0 ≤ m ∧ Gm As (J x) η m f w
def backK (cf : Cf) : Option (Fr → World → Prop) :=
  match cf.md, cf.K with
  | .pop, .ctn J :: _ => some J
  | _, _ => none
section
variable {ρ : Option Nat} {P : Program} {N : Nat} {D0 : World} {Q : Post} {As : List Ow} {η0 : Env} {m0 : Mem}
def ctnC (cf : Cf) (J : Fr → World → Prop) : Cf := ⟨cf.s, cf.md, .ctn J :: cf.K⟩
def isCode (cf : Cf) : Bool := match cf.md with | .code _ => true | _ => false
theorem go_join (hm : P.follows .mixedOrders = true) {n : Nat} {cf : Cf} {ι : Type} (J : ι → AS) (ok : ι → Prop) (e : (isCode (adv P N n cf).1, ((adv P N n cf).2).map (·.1)) = (true, ((adv P N n cf).2).map (·.2)))
    (h1 : Go ρ P N D0 Q As η0 m0 (ctnC (adv P N n cf).1 (Rl As η0 m0 J ok))) (h2 : ∀ x, ok x → Go ρ P N D0 Q As η0 m0 ⟨J x, .pop, (adv P N n cf).1.K⟩) : Go ρ P N D0 Q As η0 m0 cf := by
  simp only [Prod.mk.injEq] at e
  obtain ⟨e1, e3⟩ := e
  refine adv_ok hm (.of e3) ?_
  generalize (adv P N n cf).1 = c0 at *
  obtain ⟨s, md, K⟩ := c0
  unfold isCode at e1
  split at e1
  · rename_i c hmd
    simp only at hmd; subst hmd
    intro η m f w a1 a2 g
    refine wpc_mono (fun ex f' w' q => ?_) (h1 η m f w a1 a2 g)
    cases ex with
    | normal =>
      obtain ⟨x, hx, η', m', b1, b2, g'⟩ := q
      exact h2 x hx η' m' f' w' b1 b2 g'
    | _ => exact q
  · cases e1
def loopOf (cf : Cf) : Option Code := match cf.md with | .code (.loop c) => some c | _ => none
def rndC (cf : Cf) (s : AS) (J : Fr → World → Prop) : Cf :=
  match cf.md with
  | .code (.loop c) => ⟨s, .code c, .ctn J :: cf.K⟩
  | _ => cf
theorem go_loop (hm : P.follows .mixedOrders = true) {n n0 : Nat} {cf : Cf} {ι : Type} (J : ι → AS) (pre : ι → Prop) (μ : ι → Nat) (x0 : ι) (hx : pre x0) (hd : ∀ n, η0 n ≠ none → n < n0)
    (e : ((loopOf (adv P N n cf).1).isSome, vwL (adv P N n cf).1.s (J x0) n0, (vwP (adv P N n cf).1.s (J x0)).isSome, ((adv P N n cf).2).map (·.1)) = (true, vwR (adv P N n cf).1.s (J x0), true, ((adv P N n cf).2).map (·.2)))
    (h : ∀ x, pre x → Go ρ P N D0 Q As η0 m0 (rndC (adv P N n cf).1 (J x) (Rl As η0 m0 J fun y => pre y ∧ μ y < μ x))) : Go ρ P N D0 Q As η0 m0 cf := by
  simp only [Prod.mk.injEq] at e
  obtain ⟨e1, e2, e4, e3⟩ := e
  refine adv_ok hm (.of e3) ?_
  generalize (adv P N n cf).1 = c0 at *
  obtain ⟨s, md, K⟩ := c0
  cases md with
  | code c =>
    cases c with
    | loop c =>
      intro η m f w a1 a2 g
      obtain ⟨η', m', l, le, g'⟩ := view_ok e2 e4 hd a1 g
      refine wpc_loop (fun k f w => ∃ x, (pre x ∧ μ x = k) ∧ ∃ η m, η0.le η ∧ m0 ≤ m ∧ Gm As (J x) η m f w) (μ x0) ⟨x0, ⟨hx, rfl⟩, η', m', le, Mem.tr a2 l, g'⟩ ?_
      rintro k f w ⟨x, ⟨hp, rfl⟩, η2, m2, b1, b2, g2⟩
      refine wpc_mono (fun ex f' w' q => ?_) (h x hp η2 m2 f w b1 b2 g2)
      cases ex with
      | normal =>
        obtain ⟨y, ⟨hy, hlt⟩, η3, m3, c1, c2, g3⟩ := q
        exact ⟨μ y, hlt, y, ⟨hy, rfl⟩, η3, m3, c1, c2, g3⟩
      | _ => exact q
    | _ => cases e1
  | _ => cases e1
end
def atBlk (id : Nat) (cf : Cf) : Bool := match cf.md with | .code (.block i _) => Nat.beq i id | _ => false
def advU (id : Nat) (P : Program) (N : Nat) : Nat → Cf → Cf × Eqs
  | 0, cf => (cf, [])
  | n + 1, cf => bif atBlk id cf then (cf, []) else match nxt P N cf with
    | some r => let q := advU id P N n r.1; (q.1, r.2 ++ q.2)
    | none => (cf, [])
section
variable {ρ : Option Nat} {P : Program} {N : Nat} {D0 : World} {Q : Post} {As : List Ow} {η0 : Env} {m0 : Mem}
theorem advU_ok {id : Nat} (hm : P.follows .mixedOrders = true) : ∀ {n : Nat} {cf : Cf}, EqsOk (advU id P N n cf).2 → Go ρ P N D0 Q As η0 m0 (advU id P N n cf).1 → Go ρ P N D0 Q As η0 m0 cf
  | 0, _, _, g => g
  | n + 1, cf, he, g => by
    cases hb : atBlk id cf with
    | true =>
      have e : advU id P N (n + 1) cf = (cf, []) := by simp only [advU, hb, cond_true]
      rw [e] at g; exact g
    | false =>
      cases hr : nxt P N cf with
      | none =>
        have e : advU id P N (n + 1) cf = (cf, []) := by simp only [advU, hr, hb, cond_false]
        rw [e] at g; exact g
      | some r =>
        have e : advU id P N (n + 1) cf = ((advU id P N n r.1).1, r.2 ++ (advU id P N n r.1).2) := by simp only [advU, hr, hb, cond_false]
        rw [e] at g he
        have he' := EqsOk.app.1 he
        exact nxt_ok hm hr he'.1 (advU_ok hm (n := n) he'.2 g)
theorem go_joinU {id : Nat} (hm : P.follows .mixedOrders = true) {n : Nat} {cf : Cf} {ι : Type} (J : ι → AS) (ok : ι → Prop) (e : (isCode (advU id P N n cf).1, ((advU id P N n cf).2).map (·.1)) = (true, ((advU id P N n cf).2).map (·.2)))
    (h1 : Go ρ P N D0 Q As η0 m0 (ctnC (advU id P N n cf).1 (Rl As η0 m0 J ok))) (h2 : ∀ x, ok x → Go ρ P N D0 Q As η0 m0 ⟨J x, .pop, (advU id P N n cf).1.K⟩) : Go ρ P N D0 Q As η0 m0 cf := by
  simp only [Prod.mk.injEq] at e
  obtain ⟨e1, e3⟩ := e
  refine advU_ok hm (.of e3) ?_
  refine go_join (n := 0) hm J ok ?_ h1 h2
  simp only [adv, e1, List.map_nil]
end
structure Bk (As : List Ow) (η0 : Env) (m0 : Mem) {ι : Type} (J : ι → AS) (ok : ι → Prop) (Jp : Fr → World → Prop) : Prop where
  h : ∀ f w, Rl As η0 m0 J ok f w → Jp f w
section
variable {ρ : Option Nat} {P : Program} {N : Nat} {D0 : World} {Q : Post} {As : List Ow} {η0 : Env} {m0 : Mem}
theorem go_backB (hm : P.follows .mixedOrders = true) {n n0 : Nat} {cf : Cf} {ι : Type} {J : ι → AS} {ok : ι → Prop} {Jp : Fr → World → Prop} (bk : Bk As η0 m0 J ok Jp) (x : ι) (hx : ok x) (hd : ∀ n, η0 n ≠ none → n < n0)
    (e : (backK (adv P N n cf).1, vwL (adv P N n cf).1.s (J x) n0, (vwP (adv P N n cf).1.s (J x)).isSome, ((adv P N n cf).2).map (·.1)) = (some Jp, vwR (adv P N n cf).1.s (J x), true, ((adv P N n cf).2).map (·.2))) :
    Go ρ P N D0 Q As η0 m0 cf := by
  simp only [Prod.mk.injEq] at e
  obtain ⟨e1, e2, e4, e3⟩ := e
  refine adv_ok hm (.of e3) ?_
  generalize (adv P N n cf).1 = c0 at *
  obtain ⟨s, md, K⟩ := c0
  unfold backK at e1
  split at e1
  · rename_i J' K' hmd hK
    simp only at hmd hK; subst hmd hK
    cases e1
    intro η m f w a1 a2 g
    obtain ⟨η', m', l, le, g'⟩ := view_ok e2 e4 hd a1 g
    exact nrm (bk.h _ _ ⟨x, hx, η', m', le, Mem.tr a2 l, g'⟩)
  · cases e1
def lenK (s : AS) (t : Nat) : Option D :=
  match get s.sl t with
  | .d d => some d
  | .ow n => frD s.ob n
  | _ => none
theorem lenK_le {s : AS} {η : Env} {m : Mem} {f : Fr} {w : World} {t : Nat} {α : Type} {E : α → List D} {xs : List α} (h : lenK s t = some (.sl α E xs)) (g : Gm As s η m f w) : xs.length ≤ 9223372036854775807 := by
  have r := g.slr t
  have of : ∀ {m : Mem} {v : Value}, FR m (.sl α E xs) v → xs.length ≤ 9223372036854775807 := fun h => by cases h with | sl h => exact h.2.1
  unfold lenK at h
  split at h
  · rename_i d hd
    cases h
    rw [hd] at r
    exact of r.dd
  · rename_i n hn
    obtain ⟨q, hf, hq, hrf, hnm⟩ := frD_datum h
    have hmem := find_nm hf
    obtain ⟨l1, l2, el⟩ := List.append_of_mem hmem
    have S' : St m (reps η m (q :: (l1 ++ l2)) ++ As) w := St.rp g.st (by rw [el]; exact List.perm_middle)
    obtain ⟨i, o⟩ := q
    cases o with
    | box => rcases hrf with h | h <;> cases h
    | row k sz α' E' xs' =>
      simp only [datum] at hq
      cases hq
      obtain ⟨v, cs, h1, h2, h3, h4, S2⟩ := St.openRow S'
      obtain ⟨⟨a, c, rfl⟩, _⟩ := St.rowVal (i := 0) S2 rfl
      obtain ⟨p, hp, _⟩ := St.take' S2 (i := 0) rfl
      rcases hp with ⟨_, _, h0, _⟩ | ⟨b, cap, l, e, fr, _, _, _, _, _, h6, h7, _⟩
      · omega
      · have : maxLen ≤ 9223372036854775807 := by decide
        omega
    | fr k d =>
      simp only [datum] at hq
      cases hq
      obtain ⟨⟨v, h1, h2⟩, _⟩ := St.openFr S'
      exact of h2
  · cases h
theorem go_len {id : Nat} (hm : P.follows .mixedOrders = true) {n : Nat} {cf : Cf} {α : Type} {E : α → List D} {xs : List α} (t : Nat)
    (e : (isCode (advU id P N n cf).1, lenK (advU id P N n cf).1.s t, ((advU id P N n cf).2).map (·.1)) = (true, some (.sl α E xs), ((advU id P N n cf).2).map (·.2)))
    (h : xs.length ≤ 9223372036854775807 → Go ρ P N D0 Q As η0 m0 (advU id P N n cf).1) : Go ρ P N D0 Q As η0 m0 cf := by
  simp only [Prod.mk.injEq] at e
  obtain ⟨e1, e2, e3⟩ := e
  refine advU_ok hm (.of e3) ?_
  generalize (advU id P N n cf).1 = c0 at *
  obtain ⟨s, md, K⟩ := c0
  unfold isCode at e1
  split at e1
  · rename_i c hmd
    simp only at hmd; subst hmd
    exact fun η m f w a1 a2 g => h (lenK_le e2 g) η m f w a1 a2 g
  · cases e1
def isNilA : AV → Bool
  | .d (.v (.slice none 0 0)) => true
  | _ => false
def nilS (s : AS) (t sz : Nat) (α : Type) (E : α → List D) : AS := ⟨(t, .ow s.nx) :: s.sl, s.ob ++ [(s.nx, .row s.nx sz α E [])], s.fz, s.nx + 1⟩
theorem nil_gm {s : AS} {η : Env} {m : Mem} {f : Fr} {w : World} {t sz : Nat} {α : Type} {E : α → List D} (h : isNilA (get s.sl t) = true) (g : Gm As s η m f w) :
    ∃ η', η.le η' ∧ Gm As (nilS s t sz α E) η' m f w := by
  have r := g.slr t
  have hv : f t = .slice none 0 0 := by
    generalize get s.sl t = a at *
    unfold isNilA at h
    split at h
    · have := r.dd; generalize f t = u at this; cases this; rfl
    · cases h
  have h0 : η s.nx = none := by
    cases q : η s.nx with
    | none => rfl
    | some v => have := g.dom s.nx (by rw [q]; simp); omega
  have le := Env.le_put (v := .slice none 0 0) h0
  refine ⟨η.put s.nx (.slice none 0 0), le, fun u => ?_, g.fz.up le (Mem.rfl' m), fun n hn => ?_, ?_, ?_, fun x hx => ?_⟩
  · show Rel _ m (bif Nat.beq t u then .ow s.nx else get s.sl u) (f u)
    cases hb : Nat.beq t u
    · exact (g.slr u).up le (Mem.rfl' m)
    · have := Nat.eq_of_beq_eq_true hb; subst this
      rw [hv]; exact .ow Env.put_self rfl
  · rcases Env.put_dom hn with q | q
    · exact Nat.lt_succ_of_lt (g.dom n q)
    · subst q; exact Nat.lt_succ_self _
  · have S := St.rowNil (St.ru le (Mem.rfl' m) g.st) sz
    have T := St.closeRow (η := η.put s.nx (.slice none 0 0)) (n := s.nx) (E := E) (xs := []) Env.put_self rfl (by simpa using FRL.nil) (fun _ h => by cases h) S
    show St m (reps _ m (s.ob ++ [_]) ++ As) w
    rw [reps_app, List.append_assoc]
    exact T.perm (List.perm_middle.symm)
  · show (tids (s.ob ++ [_])).Nodup
    simp only [tids, List.map_append, List.map_cons, List.map_nil]
    refine List.nodup_append.2 ⟨g.wf.nd, by simp, fun a ha b hb e => ?_⟩
    simp at hb
    have := g.wf.lt a ha
    omega
  · show x < s.nx + 1
    have hx' : x ∈ tids (s.ob ++ [(s.nx, AObj.row s.nx sz α E [])]) := hx
    simp only [tids, List.map_append, List.map_cons, List.map_nil, List.mem_append, List.mem_singleton] at hx'
    rcases hx' with q | q
    · exact Nat.lt_succ_of_lt (g.wf.lt x q)
    · omega
def plainMd (cf : Cf) : Bool := match cf.md with | .ops .. => false | _ => true
def nilC (cf : Cf) (t sz : Nat) (α : Type) (E : α → List D) : Cf := ⟨nilS cf.s t sz α E, cf.md, cf.K⟩
theorem nil_go {cf : Cf} {t sz : Nat} {α : Type} {E : α → List D} (hp : plainMd cf = true) (h : isNilA (get cf.s.sl t) = true) (g : Go ρ P N D0 Q As η0 m0 (nilC cf t sz α E)) : Go ρ P N D0 Q As η0 m0 cf := by
  obtain ⟨s, md, K⟩ := cf
  have key : ∀ {R : Fr → World → Prop}, Al As η0 m0 (nilS s t sz α E) R → Al As η0 m0 s R := fun k η m f w a1 a2 gm =>
    let ⟨η', le, gm'⟩ := nil_gm h gm; k η' m f w (Env.le_tr a1 le) a2 gm'
  cases md with
  | ops => cases hp
  | code c => exact key g
  | pop => exact key g
  | ext id => exact key g
  | ret => exact key g
theorem go_nil (hm : P.follows .mixedOrders = true) {n : Nat} {cf : Cf} {α : Type} {E : α → List D} (t sz : Nat)
    (e : (plainMd (adv P N n cf).1, isNilA (get (adv P N n cf).1.s.sl t), ((adv P N n cf).2).map (·.1)) = (true, true, ((adv P N n cf).2).map (·.2)))
    (g : Go ρ P N D0 Q As η0 m0 (nilC (adv P N n cf).1 t sz α E)) : Go ρ P N D0 Q As η0 m0 cf := by
  simp only [Prod.mk.injEq] at e
  exact adv_ok hm (.of e.2.2) (nil_go e.1 e.2.1 g)
theorem go_nilU {id : Nat} (hm : P.follows .mixedOrders = true) {n : Nat} {cf : Cf} {α : Type} {E : α → List D} (t sz : Nat)
    (e : (plainMd (advU id P N n cf).1, isNilA (get (advU id P N n cf).1.s.sl t), ((advU id P N n cf).2).map (·.1)) = (true, true, ((advU id P N n cf).2).map (·.2)))
    (g : Go ρ P N D0 Q As η0 m0 (nilC (advU id P N n cf).1 t sz α E)) : Go ρ P N D0 Q As η0 m0 cf := by
  simp only [Prod.mk.injEq] at e
  exact advU_ok hm (.of e.2.2) (nil_go e.1 e.2.1 g)
end
end Go.Ax
end
section
namespace Go.Ax
open Go Go.Gw
theorem FRL.ofRel {η : Env} {m : Mem} {ds : List D} {vs : List Value} (h : RelL η m (ds.map .d) vs) : FRL m ds vs :=
  ⟨by simpa using h.1, fun k d u a b => (h.2 k (.d d) u (by simp [a]) b).dd⟩
def seqB : Nat → List (Nat × Operand) → Bool
  | _, [] => true
  | k, p :: l => Nat.beq p.1 k && seqB (k + 1) l
theorem seqB_eq : ∀ {l : List (Nat × Operand)} {k : Nat}, seqB k l = true → l = ((l.map (·.2)).zipIdx k).map fun p => (p.2, p.1)
  | [], _, _ => rfl
  | (i, o) :: l, k, h => by
    simp only [seqB, Bool.and_eq_true] at h
    have e : i = k := Nat.eq_of_beq_eq_true h.1
    subst e
    simp only [List.map_cons, List.zipIdx_cons]
    rw [← seqB_eq h.2]
def cellsP (fz : Fz) (sl : Sl) (sz : Nat) : List (Nat × Operand) → Option (List AV)
  | [] => some []
  | p :: l => match cellsA (rv fz sl p.2), cellsP fz sl sz l with
    | some c, some r => bif Nat.beq c.length sz then some (c ++ r) else none
    | _, _ => none
theorem cellsP_ok {fz : Fz} {sl : Sl} {sz : Nat} {η : Env} {m : Mem} {f : Fr} (hr : ∀ t, Rel η m (get sl t) (f t)) (hz : fzOk η m fz) : ∀ {l : List (Nat × Operand)} {cs : List AV}, cellsP fz sl sz l = some cs →
    ∃ cls : List (List Value), CellsAre ((l.map (·.2)).map (ev f)) cls ∧ lenB sz cls = true ∧ RelL η m cs cls.flatten
  | [], cs, h => by cases h; exact ⟨[], trivial, rfl, .nil⟩
  | p :: l, cs, h => by
    unfold cellsP at h
    split at h
    · rename_i c r h1 h2
      cases hb : Nat.beq c.length sz
      · rw [hb] at h; cases h
      · rw [hb] at h; cases h
        obtain ⟨cls, a1, a2, a3⟩ := cellsP_ok hr hz h2
        obtain ⟨b1, b2⟩ := cells_rel h1 (rv_rel hz hr p.2)
        refine ⟨(ev f p.2).cells.toList :: cls, ⟨by simp, a1⟩, ?_, ?_⟩
        · show (Nat.beq _ sz && lenB sz cls) = true
          rw [a2, ← b1.1, hb]; rfl
        · rw [List.flatten_cons]; exact b1.append a3
    · cases h
def litK (P : Program) (cf : Cf) : Option (List AV × Nat × Nat × Bool) :=
  match opAt cf with
  | some a => match a.g, a.o.op with
    | none, .buildSlice t n parts => match P.underlying t with
      | some (.slice e) => match tinf P e with
        | some i => match i.z, cellsP cf.s.fz a.sl i.sz parts.toList with
          | some _, some cs => some (cs, n, i.sz, seqB 0 parts.toList && (Nat.beq n parts.toList.length && (Nat.ble (n * i.sz) 16777216 && Nat.ble 1 i.sz)))
          | _, _ => none
        | none => none
      | _ => none
    | _, _ => none
  | none => none
def rowS (s : AS) (sz : Nat) (α : Type) (E : α → List D) (xs : List α) : Stp := ⟨.ow s.nx, [], [], [(s.nx, .row s.nx sz α E xs)], s.nx + 1, []⟩
section
variable {ρ : Option Nat} {P : Program} {N : Nat} {D0 : World} {Q : Post} {As : List Ow} {η0 : Env} {m0 : Mem}
theorem lit_run {cf : Cf} {α : Type} {E : α → List D} {xs : List α} {k : Nat} (hE : ∀ x, (E x).length = k) (e1 : litK P cf = some ((xs.flatMap E).map .d, xs.length, k, true)) :
    ∃ a, opAt cf = some a ∧ a.g = none ∧ ∀ (rest : List Oper) (Q : Post) (η : Env) (m : Mem) (f : Fr) (w : World) (As : List Ow), (∀ t, Rel η m (get a.sl t) (f t)) → fzOk η m cf.s.fz → St m As w →
      (∀ (v : Value) (w' : World) (cs : List Value), FRL m (xs.flatMap E) cs → St m (Gw.row k v cs xs.length :: As) w' → wpl ρ P N D0 a.l.toArray rest Q (upo N f a.o.dst v) w') → wpl ρ P N D0 a.l.toArray (a.o :: rest) Q f w := by
  unfold litK at e1
  split at e1
  · rename_i a ha
    split at e1
    · rename_i t n parts hg hop
      split at e1
      · rename_i e hu
        split at e1
        · rename_i i hi
          split at e1
          · rename_i z cs hz hcs
            simp only [Option.some.injEq, Prod.mk.injEq, Bool.and_eq_true] at e1
            obtain ⟨ec, en, ek, b1, b2, b3, b4⟩ := e1
            refine ⟨a, ha, hg, ?_⟩
            have hgd := none_guard ha hg
            obtain ⟨l, ⟨dst, op, ty, pos, af, gd⟩, gg, sl, es⟩ := a
            simp only at hop hgd hcs ⊢; subst hop hgd
            intro rest Q η m f w As hr hfz S hk
            obtain ⟨cls, a1, a2, a3⟩ := cellsP_ok hr hfz hcs
            have hp := seqB_eq b1
            have e0 : parts = (((parts.toList.map (·.2)).zipIdx 0).map fun p => (p.2, p.1)).toArray := by
              rw [← hp]
            rw [e0]
            have hlen : ((parts.toList.map (·.2)).map (ev f)).length = n := by simp; exact (Nat.eq_of_beq_eq_true b2).symm
            refine s_litOC (vs := (parts.toList.map (·.2)).map (ev f)) (cls := cls) S hu (tinf_sz hi) (tinf_z hi hz) rfl a1 a2 hlen.symm (Nat.le_of_ble_eq_true b3) (Nat.le_of_ble_eq_true b4) fun v w' S' => ?_
            rw [ek, en] at S'
            refine hk v w' cls.flatten ?_ S'
            rw [ec] at a3
            exact FRL.ofRel a3
          · cases e1
        · cases e1
      · cases e1
    · cases e1
  · cases e1
theorem row_one {sz n : Nat} {v : Value} {cs : List Value} {m : Mem} {As : List Ow} {w : World} (S : St m (Gw.row sz v cs n :: As) w) : v.oneCell' = true := by
  obtain ⟨⟨a, c, rfl⟩, _⟩ := St.rowVal (i := 0) S rfl
  rfl
theorem new_sok {s : AS} {v : AV} {o : AObj} : StpOk s ⟨v, [], [], [(s.nx, o)], s.nx + 1, []⟩ :=
  ⟨fun x hx => by simp at hx, by simp [tids], by simp [tids], fun t ht => by simp [tids] at ht; subst ht; exact ⟨Nat.le_refl _, Nat.lt_succ_self _⟩⟩
theorem go_lit (hm : P.follows .mixedOrders = true) {n k : Nat} {cf : Cf} {α : Type} {E : α → List D} {xs : List α} (hE : ∀ x, (E x).length = k)
    (e : (litK P (adv P N n cf).1, ((adv P N n cf).2 ++ esOf (adv P N n cf).1).map (·.1)) = (some ((xs.flatMap E).map .d, xs.length, k, true), ((adv P N n cf).2 ++ esOf (adv P N n cf).1).map (·.2)))
    (g : Go ρ P N D0 Q As η0 m0 (push N (adv P N n cf).1 (rowS (adv P N n cf).1.s k α E xs))) : Go ρ P N D0 Q As η0 m0 cf := by
  simp only [Prod.mk.injEq] at e
  obtain ⟨e1, e3⟩ := e
  obtain ⟨he1, -⟩ := EqsOk.two e3
  refine adv_ok hm he1 ?_
  generalize (adv P N n cf).1 = c0 at *
  obtain ⟨a, ha, hg, run⟩ := lit_run (ρ := ρ) (N := N) (D0 := D0) hE e1
  refine go_push ha hg ⟨Nat.le_succ _, fun rest Q η m f w As hr hz hn S hk => ?_⟩ new_sok g
  refine run rest Q η m f w As hr hz S fun v w' cs hc S' => ?_
  have h0 := hn c0.s.nx (Nat.le_refl _) (Nat.lt_succ_self _)
  have h1 := row_one S'
  refine hk (η.put c0.s.nx v) m w' v (Env.le_put h0) (Mem.rfl' m) (fun n q => ?_) (.ow Env.put_self h1) (St.closeRow Env.put_self h1 hc (fun x _ => hE x) S')
  rcases Env.put_dom q with q | q
  · exact .inl q
  · subst q; exact .inr ⟨Nat.le_refl _, Nat.lt_succ_self _⟩
def litG (P : Program) (cf : Cf) : Option (List AV × Nat × Nat × Bool) :=
  match opAt cf with
  | some a => match a.o.op with
    | .buildSlice t n parts => match P.underlying t with
      | some (.slice e) => match tinf P e with
        | some i => match i.z, cellsP cf.s.fz a.sl i.sz parts.toList with
          | some _, some cs => some (cs, n, i.sz, seqB 0 parts.toList && (Nat.beq n parts.toList.length && (Nat.ble (n * i.sz) 16777216 && Nat.ble 1 i.sz)))
          | _, _ => none
        | none => none
      | _ => none
    | _ => none
  | none => none
theorem go_litG (hm : P.follows .mixedOrders = true) {n k : Nat} {cf : Cf} {α : Type} {E : α → List D} {xs : List α} (hE : ∀ x, (E x).length = k)
    (e : (litG P (adv P N n cf).1, ((adv P N n cf).2 ++ esOf (adv P N n cf).1).map (·.1)) = (some ((xs.flatMap E).map .d, xs.length, k, true), ((adv P N n cf).2 ++ esOf (adv P N n cf).1).map (·.2)))
    (g : Go ρ P N D0 Q As η0 m0 (pushVR N (adv P N n cf).1 (.d (.sl α E xs)) [])) : Go ρ P N D0 Q As η0 m0 cf := by
  simp only [Prod.mk.injEq] at e
  obtain ⟨e1, e3⟩ := e
  obtain ⟨he1, he2⟩ := EqsOk.two e3
  refine adv_ok hm he1 ?_
  generalize (adv P N n cf).1 = c0 at *
  unfold litG at e1
  split at e1
  · rename_i a ha
    rw [esOf_of ha] at he2
    split at e1
    · rename_i t n parts hop
      split at e1
      · rename_i e hu
        split at e1
        · rename_i i hi
          split at e1
          · rename_i z cs hz hcs
            simp only [Option.some.injEq, Prod.mk.injEq, Bool.and_eq_true] at e1
            obtain ⟨ec, en, ek, b1, b2, b3, b4⟩ := e1
            refine go_valR (rd := []) ha he2 ⟨fun _ h => (by cases h), List.nodup_nil⟩ (fun _ => ?_) g
            obtain ⟨l, ⟨dst, op, ty, pos, af, gd⟩, gg, sl, es⟩ := a
            simp only at hop hcs ⊢; subst hop
            refine ⟨Nat.le_refl _, fun rest Q η m f w As hr hfz hn S hk => ?_⟩
            obtain ⟨cls, a1, a2, a3⟩ := cellsP_ok hr hfz hcs
            have hp := seqB_eq b1
            have e0 : parts = (((parts.toList.map (·.2)).zipIdx 0).map fun p => (p.2, p.1)).toArray := by
              rw [← hp]
            rw [e0]
            have hlen : ((parts.toList.map (·.2)).map (ev f)).length = n := by simp; exact (Nat.eq_of_beq_eq_true b2).symm
            have S0 : St m As w := S
            refine s_litOC (vs := (parts.toList.map (·.2)).map (ev f)) (cls := cls) S0 hu (tinf_sz hi) (tinf_z hi hz) rfl a1 a2 hlen.symm (Nat.le_of_ble_eq_true b3) (Nat.le_of_ble_eq_true b4) fun v w' S' => ?_
            rw [ek, en] at S'
            rw [ec] at a3
            letI := gotE E k
            obtain ⟨m1, l1, h5, S2⟩ := St.rowKeepT (i := 0) S' rfl (repE (FRL.ofRel a3) fun x _ => hE x) rfl
            exact hk η m1 w' v Env.le_refl l1 (fun n h => .inl h) (.d (to_sl h5)) S2
          · cases e1
        · cases e1
      · cases e1
    · cases e1
  · cases e1
structure AppP : Type 1 where
  use : List Tok
  rd : List Tok
  fw : List Tok
  x : D
  y : D
  by_ : Nat
  sz : Nat
def nilOf : D → D
  | .sl α E _ => .sl α E []
  | d => d
def srcT (ob : List Tok) : AV → Option (D × List Tok × List Tok)
  | .d (.sl α E xs) => some (.sl α E xs, [], [])
  | .ow n => match find n ob with
    | some (i, .fr k d) => bif Nat.beq k n then some (d, [(i, .fr k d)], []) else none
    | some (i, .row k sz α E xs) => bif Nat.beq k n then some (.sl α E xs, [], [(i, .row k sz α E xs)]) else none
    | _ => none
  | _ => none
def appP (P : Program) (cf : Cf) : Option AppP :=
  match opAt cf with
  | some a => match a.g, a.o.op with
    | none, .call c => match c.callee, c.args.toList, c.argTypes.toList with
      | .builtin .append, [x, y], [t, t2] => match P.underlying t, P.underlying t2, srcT cf.s.ob (aev a.sl y) with
        | some (.slice e), some (.slice _), some (dy, rd, fw) => match tinf P e with
          | some i => match i.z with
            | some z => bif Nat.beq z.cells.toList.length i.sz && Nat.beq t t2 then
              match aev a.sl x with
              | .ow n => match find n cf.s.ob with
                | some (j, .row k sz α E xs) => bif Nat.beq k n && Nat.beq sz i.sz then some ⟨[(j, .row k sz α E xs)], rd, fw, .sl α E xs, dy, i.by_, i.sz⟩ else none
                | _ => none
              | .d (.v (.slice none 0 0)) => some ⟨[], rd, fw, nilOf dy, dy, i.by_, i.sz⟩
              | _ => none
              else none
            | none => none
          | none => none
        | _, _, _ => none
      | _, _, _ => none
    | _, _ => none
  | none => none
def appK (P : Program) (cf : Cf) : Option (D × D × Nat × Nat × Bool) :=
  match appP P cf with
  | some p => some (p.x, p.y, p.by_, p.sz, nodN (tids ((p.use ++ p.fw) ++ p.rd)) && (p.rd.all (fun p => isFr p.2) && p.fw.all (fun p => isRow p.2)))
  | none => none
def appS (P : Program) (s : AS) (cf : Cf) (sz : Nat) (α : Type) (E : α → List D) (zs : List α) : Stp :=
  match appP P cf with
  | some p => ⟨.ow s.nx, p.rd, p.use ++ p.fw, enO s.nx (.row s.nx sz α E zs :: asFr p.fw), s.nx + (1 + (asFr p.fw).length), []⟩
  | none => rowS s sz α E zs
theorem srcT_ok {ob : List Tok} {a : AV} {d : D} {rd fw : List Tok} (h : srcT ob a = some (d, rd, fw)) {η : Env} {m : Mem} {v : Value} (r : Rel η m a v)
    (k1 : ∀ p ∈ fw, ∃ v, η p.2.nm = some v ∧ FR m (datum p.2) v) (k2 : ∀ p ∈ rd, ∃ v, η p.2.nm = some v ∧ FR m (datum p.2) v) : FR m d v := by
  unfold srcT at h
  split at h
  · cases h; exact r.dd
  · rename_i n
    split at h
    · rename_i i k d' hf
      cases hb : Nat.beq k n
      · rw [hb] at h; cases h
      · rw [hb] at h; cases h
        have := Nat.eq_of_beq_eq_true hb; subst this
        obtain ⟨u, h1, h2⟩ := k2 _ List.mem_cons_self
        have := r.ow_inv.1
        rw [show (AObj.fr k d).nm = k from rfl] at h1
        rw [h1] at this; cases this; exact h2
    · rename_i i k sz α E xs hf
      cases hb : Nat.beq k n
      · rw [hb] at h; cases h
      · rw [hb] at h; cases h
        have := Nat.eq_of_beq_eq_true hb; subst this
        obtain ⟨u, h1, h2⟩ := k1 _ List.mem_cons_self
        have := r.ow_inv.1
        rw [show (AObj.row k sz α E xs).nm = k from rfl] at h1
        rw [h1] at this; cases this; exact h2
    · cases h
  · cases h
theorem srcT_sub {ob : List Tok} {a : AV} {d : D} {rd fw : List Tok} (h : srcT ob a = some (d, rd, fw)) : ∀ p ∈ fw ++ rd, p ∈ ob := by
  unfold srcT at h
  split at h
  · cases h; intro p hp; simp at hp
  · split at h
    · rename_i i k d' hf
      cases hb : Nat.beq k _
      · rw [hb] at h; cases h
      · rw [hb] at h; cases h
        intro p hp; simp at hp; subst hp; exact find_nm hf
    · rename_i i k sz α E xs hf
      cases hb : Nat.beq k _
      · rw [hb] at h; cases h
      · rw [hb] at h; cases h
        intro p hp; simp at hp; subst hp; exact find_nm hf
    · cases h
  · cases h
theorem go_app (hm : P.follows .mixedOrders = true) {n k b : Nat} {cf : Cf} {α : Type} {E : α → List D} {xs ys zs : List α} (hE : ∀ x, (E x).length = k) (hq : app b xs ys = some zs)
    (e : (appK P (adv P N n cf).1, ((adv P N n cf).2 ++ esOf (adv P N n cf).1).map (·.1)) = (some (.sl α E xs, .sl α E ys, b, k, true), ((adv P N n cf).2 ++ esOf (adv P N n cf).1).map (·.2)))
    (g : Go ρ P N D0 Q As η0 m0 (push N (adv P N n cf).1 (appS P (adv P N n cf).1.s (adv P N n cf).1 k α E zs))) : Go ρ P N D0 Q As η0 m0 cf := by
  simp only [Prod.mk.injEq] at e
  obtain ⟨e1, e3⟩ := e
  obtain ⟨he1, -⟩ := EqsOk.two e3
  refine adv_ok hm he1 ?_
  generalize (adv P N n cf).1 = c0 at *
  cases hp : appP P c0 with
  | none => unfold appK at e1; rw [hp] at e1; cases e1
  | some p =>
    unfold appK at e1
    rw [hp] at e1
    simp only [Option.some.injEq, Prod.mk.injEq, Bool.and_eq_true] at e1
    obtain ⟨ex, ey, eb, ek, o1, o2, o3⟩ := e1
    have gS : appS P c0.s c0 k α E zs = ⟨.ow c0.s.nx, p.rd, p.use ++ p.fw, enO c0.s.nx (.row c0.s.nx k α E zs :: asFr p.fw), c0.s.nx + (1 + (asFr p.fw).length), []⟩ := by unfold appS; rw [hp]
    rw [gS] at g
    have hp0 := hp
    unfold appP at hp
    split at hp
    · rename_i a ha
      split at hp
      · rename_i c hg hop
        split at hp
        · rename_i x y t t2 hce hargs hats
          split at hp
          · rename_i e' e2 dy rd fw hu hu2 hsrc
            split at hp
            · rename_i i hi
              split at hp
              · rename_i z hz
                cases hb : Nat.beq z.cells.toList.length i.sz && Nat.beq t t2
                · rw [hb] at hp; cases hp
                · rw [hb] at hp
                  simp only [cond_true] at hp
                  simp only [Bool.and_eq_true] at hb
                  have hzs : z.cells.size = i.sz := by rw [← Array.length_toList]; exact Nat.eq_of_beq_eq_true hb.1
                  have htt := Nat.eq_of_beq_eq_true hb.2
                  subst htt
                  have hgd := none_guard ha hg
                  have ssub := srcT_sub hsrc
                  -- the thing that is added to
                  have key : ∃ src : List Tok, p.use = src ∧ p.rd = rd ∧ p.fw = fw ∧ p.y = dy ∧ p.by_ = i.by_ ∧ p.sz = i.sz ∧ (∀ q ∈ src, q ∈ c0.s.ob) ∧
                      ∀ (η : Env) (m : Mem) (f : Fr) (w : World) (As : List Ow), (∀ t, Rel η m (get a.sl t) (f t)) → St m (reps η m src ++ As) w → ∃ cs, FRL m (xs.flatMap E) cs ∧ St m (Gw.row k (ev f x) cs xs.length :: As) w := by
                    split at hp
                    · rename_i nn hx
                      split at hp
                      · rename_i j kk sz α' E' xs' hf
                        cases hb2 : Nat.beq kk nn && Nat.beq sz i.sz
                        · rw [hb2] at hp; cases hp
                        · rw [hb2] at hp; cases hp
                          simp only [Bool.and_eq_true] at hb2
                          have := Nat.eq_of_beq_eq_true hb2.1; subst this
                          have hsz := Nat.eq_of_beq_eq_true hb2.2
                          refine ⟨_, rfl, rfl, rfl, rfl, rfl, rfl, fun q hq => by simp at hq; subst hq; exact find_nm hf, fun η m f w As hr S => ?_⟩
                          simp only at ex ek
                          cases ex
                          obtain ⟨v, cs, h1, h2, h3, h4, S1⟩ := St.openRow S
                          have rx := aev_rel hr x; rw [hx] at rx
                          have := rx.ow_inv.1
                          rw [h1] at this; cases this
                          rw [hsz, ek] at S1
                          exact ⟨cs, h3, S1⟩
                      · cases hp
                    · rename_i hx
                      cases hp
                      refine ⟨_, rfl, rfl, rfl, rfl, rfl, rfl, fun q hq => by simp at hq, fun η m f w As hr S => ?_⟩
                      have rx := aev_rel hr x; rw [hx] at rx
                      have hv : ev f x = .slice none 0 0 := by
                        have := rx.dd
                        generalize ev f x = u at this
                        cases this; rfl
                      have hxs : xs = [] := by
                        simp only at ex ey
                        rw [ey] at ex
                        simp only [nilOf] at ex
                        cases ex; rfl
                      subst hxs
                      rw [hv]
                      exact ⟨[], by simpa using FRL.nil, St.rowNil S k⟩
                    · cases hp
                  obtain ⟨src, p1, p2, p3, p4, p5, p6, sub, run⟩ := key
                  rw [p4] at ey
                  rw [p5] at eb
                  rw [p6] at ek
                  rw [p1, p2, p3] at g o1
                  rw [p2] at o2
                  rw [p3] at o3
                  subst ey eb
                  refine go_push ha hg ?_ ?_ g
                  · obtain ⟨l, ⟨dst, op, ty, pos, af, gd⟩, gg, sl, es⟩ := a
                    obtain ⟨ce, cx, ct⟩ := c
                    obtain ⟨cx⟩ := cx
                    obtain ⟨ct⟩ := ct
                    simp only at hop hgd hce hargs hats hsrc run ⊢; subst hop hgd hce hargs hats
                    refine ⟨Nat.le_add_right _ _, fun rest Q η m f w As hr hfz hn S hk => ?_⟩
                    simp only at S hk hn
                    rw [reps_app, reps_app, List.append_assoc, List.append_assoc] at S
                    have S1 := S.perm (List.perm_append_comm_assoc (reps η m src) (reps η m fw) _)
                    obtain ⟨m1, l1, K1, S2⟩ := freezeL o3 S1
                    have S3 := St.ru Env.le_refl l1 S2
                    have S4 := S3.perm (List.perm_append_comm_assoc (reps η m1 src) (reps η m rd) _)
                    have S5 := St.ru Env.le_refl l1 S4
                    obtain ⟨K2, S6⟩ := frFacts o2 S5
                    have hr1 : ∀ t, Rel η m1 (get sl t) (f t) := fun t => (hr t).up Env.le_refl l1
                    have hy := srcT_ok hsrc (aev_rel hr1 y) K1 K2
                    obtain ⟨cs, hc, S7⟩ := run η m1 f w As hr1 S6
                    letI := gotE E k
                    have tb := tinf_split hi
                    refine s_app (α := α) (i := 0) (ti := i.inf) (z := z) S7 rfl rfl (repE hc fun x _ => hE x) rfl rfl (of_sl hy hE) hq hu (tinf_info hi) (by rw [← tb.2.2.2.2.1]; exact hz) (by rw [← tb.2.2.2.1]; exact ek) (by rw [← tb.2.2.2.2.2]) (by rw [hzs]; exact ek) fun v' cs' w' S8 hrep => ?_
                    have hrep' := repE' hrep
                    have h0 := hn c0.s.nx (Nat.le_refl _) (by omega)
                    have S9 : St m1 (Gw.row k v' cs' zs.length :: As) w' := S8
                    have h1 := row_one S9
                    have le2 := Env.le_put (v := v') h0
                    refine hk (η.put c0.s.nx v') m1 w' v' le2 l1 (fun q hq => ?_) (.ow Env.put_self h1) ?_
                    · rcases Env.put_dom hq with q1 | q1
                      · exact .inl q1
                      · subst q1; exact .inr ⟨Nat.le_refl _, by omega⟩
                    · rw [reps_app, List.append_assoc, enO_reps]
                      show St m1 (rep _ m1 (.row c0.s.nx k α E zs) :: ((asFr fw).map (rep _ m1) ++ (reps _ m1 rd ++ As))) w'
                      have F1 : ∀ q ∈ fw, ∃ v, (η.put c0.s.nx v') q.2.nm = some v ∧ FR m1 (datum q.2) v := fun q hq => let ⟨v, a, b⟩ := K1 q hq; ⟨v, le2 _ _ a, b⟩
                      have F2 : ∀ q ∈ rd, ∃ v, (η.put c0.s.nx v') q.2.nm = some v ∧ FR m1 (datum q.2) v := fun q hq => let ⟨v, a, b⟩ := K2 q hq; ⟨v, le2 _ _ a, b⟩
                      have T1 := St.closeRow (η := η.put c0.s.nx v') (n := c0.s.nx) Env.put_self h1 hrep'.1 hrep'.2 S9
                      have T2 := closeFrs F1 (closeFrT o2 F2 T1)
                      exact T2.perm ((List.Perm.append_left _ List.perm_middle).trans List.perm_middle)
                  · refine ⟨fun q hq => ?_, nodN_ok o1, ?_, fun t ht => ?_⟩
                    · simp only at hq
                      rcases List.mem_append.1 hq with h | h
                      · rcases List.mem_append.1 h with h | h
                        · exact sub q h
                        · exact ssub q (List.mem_append_left _ h)
                      · exact ssub q (List.mem_append_right _ h)
                    · simp only; rw [enO_tids]; exact List.nodup_range'
                    · simp only at ht ⊢
                      rw [enO_tids, List.mem_range'] at ht
                      obtain ⟨i2, hi2, rfl⟩ := ht
                      simp only [List.length_cons] at hi2
                      omega
              · cases hp
            · cases hp
          · cases hp
        · cases hp
      · cases hp
    · cases hp
end
end Go.Ax
end
section
namespace Go.Ax
open Go Go.Gw
def partsE (n : Nat) (er : AV) : List AV := bif Nat.beq n 1 then [er] else tupE er
def endP (P : Program) (fn : Func) (cf : Cf) (er : AV) (eobs : List AObj) : Option Plan :=
  bif atEnd cf then
    match resVs P cf.s fn.results.toList with
    | some vs => planB cf.s.ob 0 vs (partsE fn.results.toList.length er) eobs
    | none => none
  else none
def isTup : AV → Bool
  | .tup _ => true
  | _ => false
def okEnd (p : Plan) (len : Nat) (er : AV) (eobs : List AObj) (n0 n1 : Nat) : Bool :=
  (partsE len er).all (okA n1) && (eobs.all (okO n1) && (nodN (tids ((p.ut ++ p.fw) ++ p.fr)) && (fixB p.mt n0 && (Nat.ble n0 n1 && (p.fr.all (fun p => isFr p.2) && (p.fw.all (fun p => isRow p.2) && (Nat.beq len 1 || isTup er)))))))
def endL (P : Program) (fn : Func) (cf : Cf) (er : AV) (eobs : List AObj) (n0 n1 : Nat) : Option (List AV × List AObj × Bool) :=
  match endP P fn cf er eobs with
  | some p => some (p.as, p.objs, okEnd p fn.results.toList.length er eobs n0 n1)
  | none => none
def endR (P : Program) (fn : Func) (cf : Cf) (er : AV) (eobs : List AObj) : Option (List AV × List AObj × Bool) :=
  match endP P fn cf er eobs with
  | some p => some ((partsE fn.results.toList.length er).map (renA fun j => mtGet p.mt j j), eobs.map (renO fun j => mtGet p.mt j j), true)
  | none => none
section
variable {P : Program} {N : Nat} {As : List Ow} {η0 : Env} {m0 : Mem}
theorem resVs_len {s : AS} : ∀ {rs : List ResultVar} {vs : List AV}, resVs P s rs = some vs → vs.length = rs.length
  | [], vs, h => by cases h; rfl
  | r :: rs, vs, h => by
    unfold resVs at h
    split at h
    · rename_i a b h1 h2; cases h; simp [resVs_len h2]
    · cases h
theorem go_fin (hm : P.follows .mixedOrders = true) {ρ : Option Nat} {D0 : World} {fn : Func} {n n0 n1 : Nat} {cf : Cf} {er : AV} {eobs : List AObj} {Po : AV → List AObj → Nat → Prop} (hd : ∀ n, η0 n ≠ none → n < n0)
    (e : (endL P fn (adv P N n cf).1 er eobs n0 n1, (endP P fn (adv P N n cf).1 er eobs).isSome, ((adv P N n cf).2).map (·.1)) = (endR P fn (adv P N n cf).1 er eobs, true, ((adv P N n cf).2).map (·.2))) (hp : Po er eobs n1) :
    Go ρ P N D0 (outF P N fn (PostR As η0 m0 Po)) As η0 m0 cf := by
  simp only [Prod.mk.injEq] at e
  obtain ⟨e1, e2, e3⟩ := e
  refine adv_ok hm (.of e3) ?_
  generalize (adv P N n cf).1 = c0 at *
  obtain ⟨s, md, K⟩ := c0
  cases hpl : endP P fn ⟨s, md, K⟩ er eobs with
  | none => rw [hpl] at e2; cases e2
  | some p =>
    unfold endL endR at e1
    rw [hpl] at e1
    simp only [Option.some.injEq, Prod.mk.injEq] at e1
    obtain ⟨ea, eo, ef⟩ := e1
    simp only [okEnd, Bool.and_eq_true] at ef
    obtain ⟨o1, o2, o3, o4, o5, o6, o7, o8⟩ := ef
    unfold endP at hpl
    cases hb : atEnd ⟨s, md, K⟩
    · rw [hb] at hpl; cases hpl
    · rw [hb] at hpl
      simp only [cond_true] at hpl
      split at hpl
      · rename_i vs hvs
        have main : ∀ η m f w, η0.le η → m0 ≤ m → Gm As s η m f w → ∀ w', Pd w w' → outE P N fn (PostR As η0 m0 Po) f w' := by
          intro η m f w a1 a2 g w' hpd
          have S0 := St.pd g.st hpd
          obtain ⟨us, r1, r2⟩ := res_ok g.slr S0 hvs
          have S := St.rp S0 (less_perm g.wf.nd (nodN_ok o3) (plan_sub hpl))
          rw [reps_app, List.append_assoc] at S
          obtain ⟨m1, l1, r3, S1⟩ := plan_ok hpl o6 o7 r2 S
          rw [ea] at r3
          rw [eo] at S1
          let φ : Nat → Nat := fun j => mtGet p.mt j j
          let η1 : Env := fun j => if j < n1 then η (φ j) else none
          have hη1 : ∀ j, j < n1 → η (φ j) = η1 j := fun j hj => (if_pos hj).symm
          have S2 := S1.perm (show (eobs.map (renO φ)).map (rep η m1) ++ (reps η m (less (tids (p.ut ++ p.fw ++ p.fr)) s.ob) ++ As) |>.Perm (reps η m (less (tids (p.ut ++ p.fw ++ p.fr)) s.ob) ++ ((eobs.map (renO φ)).map (rep η m1) ++ As)) from List.perm_append_comm_assoc _ _ _)
          obtain ⟨m2, l2, S3⟩ := St.dropN (reps η m (less (tids (p.ut ++ p.fw ++ p.fr)) s.ob)).length S2
          rw [List.drop_left] at S3
          have S4 : St m2 (eobs.map (rep η1 m2) ++ As) w' := by
            have S3' := St.mapUp (obs := eobs.map (renO φ)) Env.le_refl l2 S3
            refine S3'.imp (by simp) fun i A B ha hb x hx => ?_
            rw [List.getElem?_append] at ha hb
            simp only [List.length_map] at ha hb
            split at ha
            · rename_i q
              rw [if_pos q] at hb
              simp only [List.getElem?_map, Option.map_eq_some_iff] at ha hb
              obtain ⟨o', ⟨o, ho, rfl⟩, rfl⟩ := ha
              obtain ⟨o2', ho', rfl⟩ := hb
              rw [ho] at ho'; cases ho'
              exact renO_of hη1 (List.all_eq_true.1 o2 o (List.mem_of_getElem? ho)) hx
            · rename_i q
              rw [if_neg q] at hb
              rw [ha] at hb; cases hb; exact hx
          have r4 := renL_of hη1 o1 (r3.up Env.le_refl l2)
          have hlen := resVs_len hvs
          have hus : us.length = fn.results.toList.length := by rw [← r2.1, hlen]
          have hR : Rel η1 m2 er (tup us) := by
            unfold partsE at r4
            cases hl : Nat.beq fn.results.toList.length 1
            · rw [hl] at r4
              simp only [cond_false] at r4
              rw [hl] at o8
              simp only [Bool.false_or] at o8
              have hne : us.length ≠ 1 := by intro q; rw [hus] at q; rw [q] at hl; cases hl
              have : tup us = .tuple us.toArray := by
                unfold tup
                split
                · simp at hne
                · rfl
              rw [this]
              cases er with
              | tup l => exact .tup r4.1 r4.2
              | _ => cases o8
            · rw [hl] at r4
              simp only [cond_true] at r4
              obtain ⟨v, us', e5, h1, h2⟩ := r4.cons_inv
              have := h2.nil_inv; subst this
              subst e5
              exact h1
          refine outR us (by rw [Array.toArray_toList]) r1 ⟨m2, η1, er, eobs, n1, Mem.tr a2 (Mem.tr l1 l2), fun k v hv => ?_, hp, fun k hk => ?_, hR, S4⟩
          · have hlt := hd k (by rw [hv]; simp)
            show (if _ then _ else _) = _
            rw [if_pos (Nat.lt_of_lt_of_le hlt (Nat.le_of_ble_eq_true o5))]
            show η (mtGet p.mt k k) = some v
            rw [fixB_at o4 k hlt]; exact a1 _ _ hv
          · have : (if k < n1 then η (φ k) else none) ≠ none := hk
            split at this
            · assumption
            · exact absurd rfl this
        unfold atEnd at hb
        split at hb
        · rename_i hmd hK
          simp only at hmd hK; subst hmd hK
          exact fun η m f w a1 a2 g => outRw (main η m f w a1 a2 g)
        · rename_i hmd hK
          simp only at hmd hK; subst hmd hK
          exact fun η m f w a1 a2 g => outNw (main η m f w a1 a2 g)
        · cases hb
      · cases hpl
end
end Go.Ax
end
section
namespace Go.Ax
open Go Go.Gw
section
variable {ρ : Option Nat} {P : Program} {N : Nat} {D0 : World} {Q : Post} {As : List Ow} {η0 : Env} {m0 : Mem}
theorem tup2 {η : Env} {m : Mem} (p q : UInt64) : Rel η m (.tup [.d (.u p), .d (.u q)]) (.tuple #[vU p, vU q]) :=
  have h : RelL η m [.d (.u p), .d (.u q)] [vU p, vU q] := RelL.cons (.d (.u p)) (RelL.cons (.d (.u q)) RelL.nil)
  .tup h.1 h.2
theorem nil_rd {s : AS} : (∀ p ∈ ([] : List Tok), p ∈ s.ob) ∧ (tids []).Nodup := ⟨fun _ h => (by cases h), List.nodup_nil⟩
def isStr (P : Program) (t : TypeId) : Bool := match P.underlying t with | some .string => true | _ => false
theorem isStr_ok {t : TypeId} (h : isStr P t = true) : P.underlying t = some .string := by
  unfold isStr at h
  split at h
  · assumption
  · cases h
def idxSK (P : Program) (cf : Cf) : Option (AV × Int × Bool) :=
  match opAt cf with
  | some a => match a.o.op with
    | .index t x y => match toIv a.sl y with
      | some (_, j) => some (aev a.sl x, j, isStr P t)
      | none => none
    | _ => none
  | none => none
theorem go_idxS (hm : P.follows .mixedOrders = true) {n : Nat} {cf : Cf} {s : ByteArray} {j : Int} {b : UInt8} (hq : gOf (adv P N n cf).1 = true → idx s.data.toList j = some b)
    (e : (idxSK P (adv P N n cf).1, ((adv P N n cf).2 ++ esOf (adv P N n cf).1).map (·.1)) = (some (.d (.s s), j, true), ((adv P N n cf).2 ++ esOf (adv P N n cf).1).map (·.2)))
    (g : Go ρ P N D0 Q As η0 m0 (pushVR N (adv P N n cf).1 (.d (.b b)) [])) : Go ρ P N D0 Q As η0 m0 cf := by
  simp only [Prod.mk.injEq] at e
  obtain ⟨e1, e3⟩ := e
  obtain ⟨he1, he2⟩ := EqsOk.two e3
  refine adv_ok hm he1 ?_
  generalize (adv P N n cf).1 = c0 at *
  unfold idxSK at e1
  split at e1
  · rename_i a ha
    rw [esOf_of ha] at he2
    split at e1
    · rename_i t x y hop
      split at e1
      · rename_i kk jj hj
        simp only [Option.some.injEq, Prod.mk.injEq] at e1
        obtain ⟨ed, rfl, hs⟩ := e1
        refine go_valR (rd := []) ha he2 nil_rd (fun hp => ?_) g
        have q := hq (gOf_of ha hp)
        obtain ⟨l, ⟨dst, op', ty, pos, af, gd⟩, gg, sl, es⟩ := a
        simp only at hop ed hj ⊢; subst hop
        refine ⟨Nat.le_refl _, fun rest Q η m f w As hr hz hn S hk => ?_⟩
        have rx := aev_rel hr x
        rw [ed] at rx
        have hx : ev f x = vS s := by
          have := rx.dd
          generalize ev f x = u at this
          cases this; rfl
        exact s_indexS hx (toIv_val hj hr) (isStr_ok hs) q (hk η m w _ Env.le_refl (Mem.rfl' m) (fun n h => .inl h) (.d (.b b)) S)
      · cases e1
    · cases e1
  · cases e1
def add64K (cf : Cf) : Option (FuncId × AV × AV × Bool) :=
  match opAt cf with
  | some a => match a.o.op with
    | .call c => match c.callee, c.args.toList with
      | .value (.func k), [x, y, z] => some (k, aev a.sl x, aev a.sl y, match toIv a.sl z with | some (.u64, j) => j == 0 | _ => false)
      | _, _ => none
    | _ => none
  | none => none
theorem go_add64 (hm : P.follows .mixedOrders = true) {n : Nat} {cf : Cf} {k : FuncId} {fn : Func} {p q : UInt64} (hf : P.funcs[k]? = some fn) (hname : (fn.name == "runtime.NumGoroutine") = false) (hb : fn.body.isNone = true)
    (hx : Extern.findNext fn = none) (he : Extern.find fn = some add64Entry)
    (e : (add64K (adv P N n cf).1, ((adv P N n cf).2 ++ esOf (adv P N n cf).1).map (·.1)) = (some (k, .d (.u p), .d (.u q), true), ((adv P N n cf).2 ++ esOf (adv P N n cf).1).map (·.2)))
    (g : Go ρ P N D0 Q As η0 m0 (pushVR N (adv P N n cf).1 (.tup [.d (.u (p + q)), .d (.u (carryU p q))]) [])) : Go ρ P N D0 Q As η0 m0 cf := by
  simp only [Prod.mk.injEq] at e
  obtain ⟨e1, e3⟩ := e
  obtain ⟨he1, he2⟩ := EqsOk.two e3
  refine adv_ok hm he1 ?_
  generalize (adv P N n cf).1 = c0 at *
  unfold add64K at e1
  split at e1
  · rename_i a ha
    rw [esOf_of ha] at he2
    split at e1
    · rename_i c hop
      split at e1
      · rename_i k' x y z hc hargs
        simp only [Option.some.injEq, Prod.mk.injEq] at e1
        obtain ⟨rfl, ex, ey, ez⟩ := e1
        refine go_valR (rd := []) ha he2 nil_rd (fun hp => ?_) g
        obtain ⟨l, ⟨dst, op', ty, pos, af, gd⟩, gg, sl, es⟩ := a
        obtain ⟨cc, cas, cts⟩ := c
        simp only at hop ex ey ez hc hargs ⊢; subst hop hc
        have ha' : cas = #[x, y, z] := by apply Array.toList_inj.mp; rw [hargs]
        subst ha'
        refine ⟨Nat.le_refl _, fun rest Q η m f w As hr hz hn S hk => ?_⟩
        have rx := aev_rel hr x
        have ry := aev_rel hr y
        rw [ex] at rx
        rw [ey] at ry
        have h0 : ev f z = .int .u64 0 := by
          split at ez
          · rename_i j hj
            have := toIv_val hj hr
            rw [this]
            simp only [beq_iff_eq] at ez
            rw [ez]
          · cases ez
        exact s_add64 hf hname hb hx he rx.u_inv ry.u_inv h0 (hk η m w _ Env.le_refl (Mem.rfl' m) (fun n h => .inl h) (tup2 _ _) S)
      · cases e1
    · cases e1
  · cases e1
abbrev byE : UInt8 → List D := fun x => [.b x]
theorem byRep : ∀ {m : Mem} {xs : List UInt8} {cs : List Value}, @RepL UInt8 (gotE byE 1) m cs xs → RepL m cs xs
  | _, [], _, h => h
  | m, x :: xs, cs, h => by
    obtain ⟨c, d, h1, h2, h3⟩ := h
    refine ⟨c, d, h1, ?_, byRep h3⟩
    obtain ⟨v, us, e1, e2, e3⟩ := FRL.cons_inv h2.1
    have := FRL.nil_inv e3
    subst this
    show c = [vB x]
    rw [e1]
    generalize v = u at *
    cases e2; rfl
theorem byFRL : ∀ {m : Mem} {xs : List UInt8} {cs : List Value}, RepL m cs xs → FRL m (xs.flatMap byE) cs
  | m, [], cs, h => by
    have : cs = [] := h
    subst this; exact .nil
  | m, x :: xs, cs, h => by
    obtain ⟨c, d, h1, h2, h3⟩ := h
    have : c = [vB x] := h2
    subst this h1
    exact .cons (.b x) (byFRL h3)
def bsK (P : Program) (cf : Cf) : Option (D × Bool × List Tok) :=
  match opAt cf with
  | some a => match a.o.op with
    | .convert t t2 x => match resT cf.s.ob (aev a.sl x) with
      | some (d, ts) => some (d, isU8s P t && isStr P t2, ts)
      | none => none
    | _ => none
  | none => none
def bsT (P : Program) (cf : Cf) : List Tok := match bsK P cf with | some (_, _, ts) => ts | none => []
def bsFP (P : Program) (cf : Cf) : Option (D × Bool × List Tok) :=
  match opAt cf with
  | some a => match a.g, a.o.op with
    | none, .convert t t2 x => match srcT cf.s.ob (aev a.sl x) with
      | some (d, [], fw) => some (d, isU8s P t && (isStr P t2 && (nodN (tids fw) && fw.all (fun p => isRow p.2))), fw)
      | _ => none
    | _, _ => none
  | none => none
def bsFS (P : Program) (cf : Cf) (b : ByteArray) : Stp := match bsFP P cf with
  | some (_, _, fw) => ⟨.d (.s b), [], fw, enO cf.s.nx (asFr fw), cf.s.nx + (asFr fw).length, []⟩
  | none => ⟨.d (.s b), [], [], [], cf.s.nx, []⟩
def ofSK (P : Program) (cf : Cf) : Option (AV × Bool) :=
  match opAt cf with
  | some a => match a.g, a.o.op with
    | none, .convert t t2 x => some (aev a.sl x, isStr P t && isU8s P t2)
    | _, _ => none
  | none => none
theorem go_ofS (hm : P.follows .mixedOrders = true) {n : Nat} {cf : Cf} {s : ByteArray} {zs : List UInt8} (hq : app 1 ([] : List UInt8) s.data.toList = some zs)
    (e : (ofSK P (adv P N n cf).1, ((adv P N n cf).2 ++ esOf (adv P N n cf).1).map (·.1)) = (some (.d (.s s), true), ((adv P N n cf).2 ++ esOf (adv P N n cf).1).map (·.2)))
    (g : Go ρ P N D0 Q As η0 m0 (push N (adv P N n cf).1 (rowS (adv P N n cf).1.s 1 UInt8 byE zs))) : Go ρ P N D0 Q As η0 m0 cf := by
  simp only [Prod.mk.injEq] at e
  obtain ⟨e1, e3⟩ := e
  obtain ⟨he1, -⟩ := EqsOk.two e3
  refine adv_ok hm he1 ?_
  generalize (adv P N n cf).1 = c0 at *
  unfold ofSK at e1
  split at e1
  · rename_i a ha
    split at e1
    · rename_i t t2 x hg hop
      simp only [Option.some.injEq, Prod.mk.injEq, Bool.and_eq_true] at e1
      obtain ⟨ex, e4, e5⟩ := e1
      have hgd := none_guard ha hg
      refine go_push ha hg ?_ new_sok g
      obtain ⟨l, ⟨dst, op, ty, pos, af, gd⟩, gg, sl, es⟩ := a
      simp only at hop hgd ex ⊢; subst hop hgd
      refine ⟨Nat.le_succ _, fun rest Q η m f w As hr hz hn S hk => ?_⟩
      have rx := aev_rel hr x
      rw [ex] at rx
      have hx : ev f x = vS s := by
        have := rx.dd
        generalize ev f x = u at this
        cases this; rfl
      obtain ⟨e, u1, u2⟩ := isU8s_ok e5
      refine s_ofS S hx hq (isStr_ok e4) u1 u2 fun v' cs' w' S' hrep => ?_
      have h0 := hn c0.s.nx (Nat.le_refl _) (Nat.lt_succ_self _)
      have h1 := row_one S'
      refine hk (η.put c0.s.nx v') m w' v' (Env.le_put h0) (Mem.rfl' m) (fun n q => ?_) (.ow Env.put_self h1) (St.closeRow Env.put_self h1 (byFRL hrep) (fun x _ => rfl) S')
      rcases Env.put_dom q with q | q
      · exact .inl q
      · subst q; exact .inr ⟨Nat.le_refl _, Nat.lt_succ_self _⟩
    · cases e1
  · cases e1
def apSP (P : Program) (cf : Cf) : Option (List Tok × D × AV × Nat × Bool) :=
  match opAt cf with
  | some a => match a.g, a.o.op with
    | none, .call c => match c.callee, c.args.toList, c.argTypes.toList with
      | .builtin .append, [x, y], [t, t2] => match P.underlying t with
        | some (.slice e) => match tinf P e with
          | some i => match i.z with
            | some z => match aev a.sl x with
              | .ow n => match find n cf.s.ob with
                | some (j, .row k sz α E xs) => some ([(j, .row k sz α E xs)], .sl α E xs, aev a.sl y, i.by_, Nat.beq z.cells.toList.length 1 && (Nat.beq i.sz 1 && (Nat.beq k n && (Nat.beq sz 1 && isStr P t2))))
                | _ => none
              | _ => none
            | none => none
          | none => none
        | _ => none
      | _, _, _ => none
    | _, _ => none
  | none => none
def apST (P : Program) (cf : Cf) (zs : List UInt8) : Stp := match apSP P cf with
  | some (use, _) => ⟨.ow cf.s.nx, [], use, [(cf.s.nx, .row cf.s.nx 1 UInt8 byE zs)], cf.s.nx + 1, []⟩
  | none => rowS cf.s 1 UInt8 byE zs
theorem go_apS (hm : P.follows .mixedOrders = true) {n b : Nat} {cf : Cf} {s : ByteArray} {xs zs : List UInt8} (hq : app b xs s.data.toList = some zs)
    (e : ((apSP P (adv P N n cf).1).map (·.2), ((adv P N n cf).2 ++ esOf (adv P N n cf).1).map (·.1)) = (some (.sl UInt8 byE xs, .d (.s s), b, true), ((adv P N n cf).2 ++ esOf (adv P N n cf).1).map (·.2)))
    (g : Go ρ P N D0 Q As η0 m0 (push N (adv P N n cf).1 (apST P (adv P N n cf).1 zs))) : Go ρ P N D0 Q As η0 m0 cf := by
  simp only [Prod.mk.injEq] at e
  obtain ⟨e1, e3⟩ := e
  obtain ⟨he1, -⟩ := EqsOk.two e3
  refine adv_ok hm he1 ?_
  generalize (adv P N n cf).1 = c0 at *
  cases hk : apSP P c0 with
  | none => rw [hk] at e1; cases e1
  | some r =>
    have hT : apST P c0 zs = ⟨.ow c0.s.nx, [], r.1, [(c0.s.nx, .row c0.s.nx 1 UInt8 byE zs)], c0.s.nx + 1, []⟩ := by unfold apST; rw [hk]
    rw [hT] at g
    rw [hk] at e1
    simp only [Option.map_some, Option.some.injEq] at e1
    unfold apSP at hk
    split at hk
    · rename_i a ha
      split at hk
      · rename_i c hg hop
        split at hk
        · rename_i x y t t2 hce hargs hats
          split at hk
          · rename_i e' hu
            split at hk
            · rename_i i hi
              split at hk
              · rename_i z hz
                split at hk
                · rename_i nn hx
                  split at hk
                  · rename_i j kk sz α E' xs' hf
                    cases hk
                    simp only [Prod.mk.injEq, Bool.and_eq_true] at e1 g
                    obtain ⟨ex, ey, eb, b1, b2, b3, b4, b5⟩ := e1
                    have hgd := none_guard ha hg
                    have hkn := Nat.eq_of_beq_eq_true b3; subst hkn
                    have hs1 := Nat.eq_of_beq_eq_true b4
                    have hz1 := Nat.eq_of_beq_eq_true b1
                    have hi1 := Nat.eq_of_beq_eq_true b2
                    subst eb hs1
                    cases ex
                    refine go_push ha hg ?_ ?_ g
                    · obtain ⟨l, ⟨dst, op, ty, pos, af, gd⟩, gg, sl, es⟩ := a
                      obtain ⟨ce, cx, ct⟩ := c
                      obtain ⟨cx⟩ := cx
                      obtain ⟨ct⟩ := ct
                      simp only at hop hgd hce hargs hats hx ey ⊢; subst hop hgd hce hargs hats
                      refine ⟨Nat.le_succ _, fun rest Q η m f w As hr hfz hn S hk => ?_⟩
                      simp only at S hk hn
                      obtain ⟨v, cs, h1, h2, h3, h4, S1⟩ := St.openRow S
                      have rx := aev_rel hr x; rw [hx] at rx
                      have hv := rx.ow_inv.1
                      rw [h1] at hv; cases hv
                      have ry := aev_rel hr y
                      rw [ey] at ry
                      have hy : ev f y = vS s := by
                        have := ry.dd
                        generalize ev f y = u at this
                        cases this; rfl
                      have tb := tinf_split hi
                      refine s_appS (i := 0) (ti := i.inf) (z := z) S1 rfl rfl (byRep (repE h3 fun _ _ => rfl)) rfl hy hq hu (isStr_ok b5) (tinf_info hi) (by rw [← tb.2.2.2.2.1]; exact hz) (by rw [← tb.2.2.2.1]; exact hi1) (by rw [← tb.2.2.2.2.2]) (by rw [← Array.length_toList]; exact hz1) fun v' cs' w' S8 hrep => ?_
                      have h0 := hn c0.s.nx (Nat.le_refl _) (Nat.lt_succ_self _)
                      have S9 : St m (Gw.row 1 v' cs' zs.length :: As) w' := S8
                      have h1' := row_one S9
                      refine hk (η.put c0.s.nx v') m w' v' (Env.le_put h0) (Mem.rfl' m) (fun q hq => ?_) (.ow Env.put_self h1') (St.closeRow Env.put_self h1' (byFRL hrep) (fun x _ => rfl) S9)
                      rcases Env.put_dom hq with q1 | q1
                      · exact .inl q1
                      · subst q1; exact .inr ⟨Nat.le_refl _, Nat.lt_succ_self _⟩
                    · refine ⟨fun q hq => ?_, by simp [tids], by simp [tids], fun t ht => by simp [tids] at ht; subst ht; exact ⟨Nat.le_refl _, Nat.lt_succ_self _⟩⟩
                      simp only [List.append_nil, List.mem_singleton] at hq
                      subst hq
                      exact find_nm hf
                  · cases hk
                · cases hk
              · cases hk
            · cases hk
          · cases hk
        · cases hk
      · cases hk
    · cases hk
def fwOk (fw : List Tok) : Bool := nodN (tids fw) && fw.all (fun p => isRow p.2)
def fwS (cf : Cf) (v : AV) (fw : List Tok) : Stp := ⟨v, [], fw, enO cf.s.nx (asFr fw), cf.s.nx + (asFr fw).length, []⟩
def cutFK (P : Program) (cf : Cf) : Option (D × Int × Int × Int × Nat × Bool × List Tok) :=
  match opAt cf with
  | some a => match a.g, a.o.op with
    | none, .slice t x lo hi mx => match srcT cf.s.ob (aev a.sl x), P.underlying t with
      | some (d, [], fw), some (.slice e) => match tinf P e with
        | some i =>
          let l : Option Int := match lo with | none => some 0 | some o => (toIv a.sl o).map (·.2)
          let h : Option Int := match hi with | none => some (dlen d) | some o => (toIv a.sl o).map (·.2)
          let m : Option Int := match mx with | none => h | some o => match hi with | none => none | some _ => (toIv a.sl o).map (·.2)
          match l, h, m with
          | some l, some h, some m => some (d, l, h, m, i.sz, fwOk fw, fw)
          | _, _, _ => none
        | none => none
      | _, _ => none
    | _, _ => none
  | none => none
def cutFT (P : Program) (cf : Cf) : List Tok := match cutFK P cf with | some (_, _, _, _, _, _, ts) => ts | none => []
def idxFK (P : Program) (cf : Cf) : Option (D × Int × Nat × Bool × List Tok) :=
  match opAt cf with
  | some a => match a.g, a.o.op with
    | none, .indexAddr t x y => match srcT cf.s.ob (aev a.sl x), toIv a.sl y, P.underlying t with
      | some (d, [], fw), some (_, j), some (.slice e) => match tinf P e with
        | some i => some (d, j, i.sz, fwOk fw, fw)
        | none => none
      | _, _, _ => none
    | _, _ => none
  | none => none
def idxFT (P : Program) (cf : Cf) : List Tok := match idxFK P cf with | some (_, _, _, _, ts) => ts | none => []
end
end Go.Ax
end
section
namespace Go.Ax
open Go Go.Gw
def cellsV (ob : List Tok) : List AV → List AV × List Tok × List Tok
  | [] => ([], [], [])
  | c :: l => match srcT ob c with
    | some (d, g, h) => (.d d :: (cellsV ob l).1, g ++ (cellsV ob l).2.1, h ++ (cellsV ob l).2.2)
    | none => (c :: (cellsV ob l).1, (cellsV ob l).2.1, (cellsV ob l).2.2)
theorem cellsV_ok {ob : List Tok} {η : Env} {m : Mem} : ∀ {cs : List AV} {vs : List Value}, RelL η m cs vs → (∀ p ∈ (cellsV ob cs).2.2, ∃ v, η p.2.nm = some v ∧ FR m (datum p.2) v) → (∀ p ∈ (cellsV ob cs).2.1, ∃ v, η p.2.nm = some v ∧ FR m (datum p.2) v) → RelL η m (cellsV ob cs).1 vs
  | [], vs, r, _, _ => r
  | c :: l, vs, r, k1, k2 => by
    obtain ⟨v, us, rfl, r1, r2⟩ := r.cons_inv
    unfold cellsV at *
    split at k1
    · rename_i d g h e
      rw [e] at k2
      simp only at k1 k2 ⊢
      exact .cons (.d (srcT_ok e r1 (fun q hq => k1 q (List.mem_append_left _ hq)) (fun q hq => k2 q (List.mem_append_left _ hq)))) (cellsV_ok r2 (fun q hq => k1 q (List.mem_append_right _ hq)) (fun q hq => k2 q (List.mem_append_right _ hq)))
    · rename_i e
      rw [e] at k2
      simp only at k1 k2 ⊢
      exact .cons r1 (cellsV_ok r2 k1 k2)
theorem cellsV_sub {ob : List Tok} : ∀ {cs : List AV}, ∀ p ∈ (cellsV ob cs).2.2 ++ (cellsV ob cs).2.1, p ∈ ob
  | [], p, hp => by simp [cellsV] at hp
  | c :: l, p, hp => by
    have ih := cellsV_sub (ob := ob) (cs := l) p
    unfold cellsV at hp
    simp only [List.mem_append] at ih
    split at hp
    · rename_i d g h e
      have i2 := srcT_sub e p
      simp only [List.mem_append] at hp i2
      rcases hp with (q | q) | (q | q)
      · exact i2 (.inl q)
      · exact ih (.inl q)
      · exact i2 (.inr q)
      · exact ih (.inr q)
    · simp only [List.mem_append] at hp; exact ih hp
def cellsW (ob : List Tok) (sl : Sl) (sz : Nat) : List (Nat × Operand) → Option (List AV × List Tok × List Tok)
  | [] => some ([], [], [])
  | p :: l => match cellsW ob sl sz l with
    | some (r, rd, fw) => match cellsA (aev sl p.2) with
      | some c => bif Nat.beq c.length sz then some ((cellsV ob c).1 ++ r, (cellsV ob c).2.1 ++ rd, (cellsV ob c).2.2 ++ fw) else none
      | none => none
    | none => none
theorem cellsW_ok {ob : List Tok} {sl : Sl} {sz : Nat} {η : Env} {m : Mem} {f : Fr} (hr : ∀ t, Rel η m (get sl t) (f t)) : ∀ {l : List (Nat × Operand)} {cs : List AV} {rd fw : List Tok}, cellsW ob sl sz l = some (cs, rd, fw) →
    (∀ p ∈ fw, ∃ v, η p.2.nm = some v ∧ FR m (datum p.2) v) → (∀ p ∈ rd, ∃ v, η p.2.nm = some v ∧ FR m (datum p.2) v) →
    ∃ cls : List (List Value), CellsAre ((l.map (·.2)).map (ev f)) cls ∧ lenB sz cls = true ∧ RelL η m cs cls.flatten
  | [], cs, rd, fw, h, _, _ => by cases h; exact ⟨[], trivial, rfl, .nil⟩
  | p :: l, cs, rd, fw, h, k1, k2 => by
    unfold cellsW at h
    split at h
    · rename_i r rd' fw' h1
      split at h
      · rename_i c h2
        cases hb : Nat.beq c.length sz
        · rw [hb] at h; cases h
        · rw [hb] at h; cases h
          obtain ⟨cls, a1, a2, a3⟩ := cellsW_ok hr h1 (fun q hq => k1 q (List.mem_append_right _ hq)) (fun q hq => k2 q (List.mem_append_right _ hq))
          obtain ⟨b1, b2⟩ := cells_rel h2 (aev_rel hr p.2)
          refine ⟨(ev f p.2).cells.toList :: cls, ⟨by simp, a1⟩, ?_, ?_⟩
          · show (Nat.beq _ sz && lenB sz cls) = true
            rw [a2, ← b1.1, hb]; rfl
          · rw [List.flatten_cons]; exact (cellsV_ok b1 (fun q hq => k1 q (List.mem_append_left _ hq)) (fun q hq => k2 q (List.mem_append_left _ hq))).append a3
      · cases h
    · cases h
theorem cellsW_sub {ob : List Tok} {sl : Sl} {sz : Nat} : ∀ {l : List (Nat × Operand)} {cs : List AV} {rd fw : List Tok}, cellsW ob sl sz l = some (cs, rd, fw) → ∀ p ∈ fw ++ rd, p ∈ ob
  | [], cs, rd, fw, h => by cases h; intro p hp; simp at hp
  | p :: l, cs, rd, fw, h => by
    unfold cellsW at h
    split at h
    · rename_i r rd' fw' h1
      split at h
      · rename_i c h2
        cases hb : Nat.beq c.length sz
        · rw [hb] at h; cases h
        · rw [hb] at h; cases h
          intro q hq
          have i1 := cellsW_sub h1 q
          have i2 := cellsV_sub (ob := ob) (cs := c) q
          simp only [List.mem_append] at hq i1 i2
          rcases hq with (e | e) | (e | e)
          · exact i2 (.inl e)
          · exact i1 (.inl e)
          · exact i2 (.inr e)
          · exact i1 (.inr e)
      · cases h
    · cases h
def litVP (P : Program) (cf : Cf) : Option (List AV × Nat × Nat × Bool × List Tok × List Tok) :=
  match opAt cf with
  | some a => match a.g, a.o.op with
    | none, .buildSlice t n parts => match P.underlying t with
      | some (.slice e) => match tinf P e with
        | some i => match i.z, cellsW cf.s.ob a.sl i.sz parts.toList with
          | some _, some (cs, rd, fw) => some (cs, n, i.sz, (seqB 0 parts.toList && (Nat.beq n parts.toList.length && (Nat.ble (n * i.sz) 16777216 && Nat.ble 1 i.sz))) && (nodN (tids (fw ++ rd)) && (rd.all (fun p => isFr p.2) && fw.all (fun p => isRow p.2))), rd, fw)
          | _, _ => none
        | none => none
      | _ => none
    | _, _ => none
  | none => none
def litVK (P : Program) (cf : Cf) : Option (List AV × Nat × Nat × Bool) := (litVP P cf).map fun r => (r.1, r.2.1, r.2.2.1, r.2.2.2.1)
def litVS (P : Program) (cf : Cf) (α : Type) (E : α → List D) (xs : List α) : Stp :=
  match litVP P cf with
  | some (_, _, _, _, rd, fw) => ⟨.d (.sl α E xs), rd, fw, enO cf.s.nx (asFr fw), cf.s.nx + (asFr fw).length, []⟩
  | none => ⟨.d (.sl α E xs), [], [], [], cf.s.nx, []⟩
def litVO (P : Program) (cf : Cf) (sz : Nat) (α : Type) (E : α → List D) (xs : List α) : Stp :=
  match litVP P cf with
  | some (_, _, _, _, rd, fw) => ⟨.ow cf.s.nx, rd, fw, enO cf.s.nx (.row cf.s.nx sz α E xs :: asFr fw), cf.s.nx + (1 + (asFr fw).length), []⟩
  | none => rowS cf.s sz α E xs
section
variable {ρ : Option Nat} {P : Program} {N : Nat} {D0 : World} {Q : Post} {As : List Ow} {η0 : Env} {m0 : Mem}
theorem litV_run {k : Nat} {cf : Cf} {α : Type} {E : α → List D} {xs : List α} (hE : ∀ x, (E x).length = k) (e : litVK P cf = some ((xs.flatMap E).map .d, xs.length, k, true)) :
    ∃ (a : OpAt) (rd fw : List Tok), opAt cf = some a ∧ a.g = none ∧ (∀ α' (E' : α' → List D) xs', litVS P cf α' E' xs' = ⟨.d (.sl α' E' xs'), rd, fw, enO cf.s.nx (asFr fw), cf.s.nx + (asFr fw).length, []⟩) ∧
      (∀ sz α' (E' : α' → List D) xs', litVO P cf sz α' E' xs' = ⟨.ow cf.s.nx, rd, fw, enO cf.s.nx (.row cf.s.nx sz α' E' xs' :: asFr fw), cf.s.nx + (1 + (asFr fw).length), []⟩) ∧ (∀ p ∈ fw ++ rd, p ∈ cf.s.ob) ∧ (tids (fw ++ rd)).Nodup ∧ rd.all (fun p => isFr p.2) = true ∧
      ∀ rest Q η m f w As, (∀ t, Rel η m (get a.sl t) (f t)) → St m (reps η m (fw ++ rd) ++ As) w →
        (∀ (m1 : Mem) v w' cs, m ≤ m1 → (∀ p ∈ fw, ∃ v, η p.2.nm = some v ∧ FR m1 (datum p.2) v) → (∀ p ∈ rd, ∃ v, η p.2.nm = some v ∧ FR m1 (datum p.2) v) → FRL m1 (xs.flatMap E) cs → St m1 (Gw.row k v cs xs.length :: As) w' → wpl ρ P N D0 a.l.toArray rest Q (upo N f a.o.dst v) w') →
        wpl ρ P N D0 a.l.toArray (a.o :: rest) Q f w := by
  unfold litVK at e
  cases hp : litVP P cf with
  | none => rw [hp] at e; cases e
  | some r =>
    obtain ⟨cs, n, sz, b, rd, fw⟩ := r
    rw [hp] at e
    simp only [Option.map_some, Option.some.injEq, Prod.mk.injEq] at e
    obtain ⟨ec, en, ek, eb⟩ := e
    have hp0 := hp
    unfold litVP at hp
    split at hp
    · rename_i a ha
      split at hp
      · rename_i t n' parts hg hop
        split at hp
        · rename_i e hu
          split at hp
          · rename_i i hi
            split at hp
            · rename_i z cs' rd' fw' hz hcs
              simp only [Option.some.injEq, Prod.mk.injEq] at hp
              obtain ⟨q1, q2, q3, q4, q5, q6⟩ := hp
              subst q1 q2 q3 q5 q6
              rw [← q4] at eb
              simp only [Bool.and_eq_true] at eb
              obtain ⟨⟨b1, b2, b3, b4⟩, o1, o2, o3⟩ := eb
              have hgd := none_guard ha hg
              refine ⟨a, rd', fw', ha, hg, fun _ _ _ => by unfold litVS; rw [hp0], fun _ _ _ _ => by unfold litVO; rw [hp0], cellsW_sub hcs, nodN_ok o1, o2, ?_⟩
              obtain ⟨l, ⟨dst, op, ty, pos, af, gd⟩, gg, sl, es⟩ := a
              simp only at hop hgd hcs ⊢; subst hop hgd
              intro rest Q η m f w As hr S hk
              rw [reps_app, List.append_assoc] at S
              obtain ⟨m1, l1, K1, S2⟩ := freezeL o3 S
              have S3 := St.ru Env.le_refl l1 S2
              obtain ⟨K2, S4⟩ := frFacts o2 S3
              have hr1 : ∀ t, Rel η m1 (get sl t) (f t) := fun t => (hr t).up Env.le_refl l1
              obtain ⟨cls, a1, a2, a3⟩ := cellsW_ok hr1 hcs K1 K2
              have hps := seqB_eq b1
              have e0 : parts = (((parts.toList.map (·.2)).zipIdx 0).map fun p => (p.2, p.1)).toArray := by
                rw [← hps]
              rw [e0]
              have hlen : ((parts.toList.map (·.2)).map (ev f)).length = n' := by simp; exact (Nat.eq_of_beq_eq_true b2).symm
              refine s_litOC (vs := (parts.toList.map (·.2)).map (ev f)) (cls := cls) S4 hu (tinf_sz hi) (tinf_z hi hz) rfl a1 a2 hlen.symm (Nat.le_of_ble_eq_true b3) (Nat.le_of_ble_eq_true b4) fun v w' S' => ?_
              rw [ek, en] at S'
              rw [ec] at a3
              exact hk m1 v w' _ l1 K1 K2 (FRL.ofRel a3) S'
            · cases hp
          · cases hp
        · cases hp
      · cases hp
    · cases hp
theorem go_litV (hm : P.follows .mixedOrders = true) {n k : Nat} {cf : Cf} {α : Type} {E : α → List D} {xs : List α} (hE : ∀ x, (E x).length = k)
    (e : (litVK P (adv P N n cf).1, ((adv P N n cf).2 ++ esOf (adv P N n cf).1).map (·.1)) = (some ((xs.flatMap E).map .d, xs.length, k, true), ((adv P N n cf).2 ++ esOf (adv P N n cf).1).map (·.2)))
    (g : Go ρ P N D0 Q As η0 m0 (push N (adv P N n cf).1 (litVS P (adv P N n cf).1 α E xs))) : Go ρ P N D0 Q As η0 m0 cf := by
  simp only [Prod.mk.injEq] at e
  obtain ⟨e1, e3⟩ := e
  obtain ⟨he1, -⟩ := EqsOk.two e3
  refine adv_ok hm he1 ?_
  generalize (adv P N n cf).1 = c0 at *
  obtain ⟨a, rd, fw, ha, hg, hS, -, hsub, hnd, ho2, run⟩ := litV_run (ρ := ρ) (N := N) (D0 := D0) hE e1
  rw [hS] at g
  refine go_push ha hg ⟨Nat.le_add_right _ _, fun rest Q η m f w As hr hz hn S hk => ?_⟩ ⟨hsub, hnd, ?_, fun t ht => ?_⟩ g
  · refine run rest Q η m f w As hr S fun m1 v w' cs l1 K1 K2 hc S' => ?_
    letI := gotE E k
    obtain ⟨m2, l2, h5, S2⟩ := St.rowKeepT (i := 0) S' rfl (repE hc fun x _ => hE x) rfl
    have F1 : ∀ p ∈ fw, ∃ v, η p.2.nm = some v ∧ FR m2 (datum p.2) v := fun p hp => let ⟨v, a, b⟩ := K1 p hp; ⟨v, a, b.up l2⟩
    have F2 : ∀ p ∈ rd, ∃ v, η p.2.nm = some v ∧ FR m2 (datum p.2) v := fun p hp => let ⟨v, a, b⟩ := K2 p hp; ⟨v, a, b.up l2⟩
    refine hk η m2 w' v Env.le_refl (Mem.tr l1 l2) (fun n h => .inl h) (.d (to_sl h5)) ?_
    rw [reps_app, List.append_assoc, enO_reps]
    exact closeFrs F1 (closeFrT ho2 F2 S2)
  · simp only; rw [enO_tids]; exact List.nodup_range'
  · simp only at ht ⊢
    rw [enO_tids, List.mem_range'] at ht
    obtain ⟨i2, hi2, rfl⟩ := ht
    omega
theorem oneL_of : ∀ {L : List Value}, (∀ v ∈ L, v.oneCell' = true) → OneL L
  | [], _ => trivial
  | a :: l, h => ⟨h a List.mem_cons_self, oneL_of fun v hv => h v (List.mem_cons_of_mem _ hv)⟩
def rowOf (ob : List Tok) (n : Nat) : Option (D × Nat × Tok) :=
  match find n ob with
  | some (i, .row k sz α E xs) => bif Nat.beq k n then some (.sl α E xs, sz, (i, .row k sz α E xs)) else none
  | _ => none
theorem rowOf_ok {ob : List Tok} {n sz : Nat} {d : D} {p : Tok} (h : rowOf ob n = some (d, sz, p)) : p ∈ ob ∧ ∃ i α E xs, d = .sl α E xs ∧ p = (i, AObj.row n sz α E xs) := by
  unfold rowOf at h
  split at h
  · rename_i i k sz' α E xs hf
    cases hb : Nat.beq k n
    · rw [hb] at h; cases h
    · rw [hb] at h; cases h
      have := Nat.eq_of_beq_eq_true hb; subst this
      exact ⟨find_nm hf, i, α, E, xs, rfl, rfl⟩
  · cases h
def idxOP (P : Program) (cf : Cf) : Option (D × Int × Nat × Nat × Bool × Tok) :=
  match opAt cf with
  | some a => match a.o.op with
    | .indexAddr t x y => match aev a.sl x, toIv a.sl y, P.underlying t with
      | .ow n, some (_, j), some (.slice e) => match tinf P e, rowOf cf.s.ob n with
        | some i, some (d, sz, p) => some (d, j, sz, n, Nat.beq i.sz sz, p)
        | _, _ => none
      | _, _, _ => none
    | _ => none
  | none => none
def idxOT (P : Program) (cf : Cf) : List Tok := match idxOP P cf with | some (_, _, _, _, _, p) => [p] | none => []
def idxOV (P : Program) (cf : Cf) : AV := match idxOP P cf with | some (_, j, sz, n, _, _) => .pe n j sz 0 | none => .any
theorem go_idxO (hm : P.follows .mixedOrders = true) {n : Nat} {cf : Cf} {α : Type} {E : α → List D} {xs : List α} {j : Int} {x : α} (hq : gOf (adv P N n cf).1 = true → idx xs j = some x)
    (e : ((idxOP P (adv P N n cf).1).map (fun r => (r.1, r.2.1, r.2.2.2.2.1)), ((adv P N n cf).2 ++ esOf (adv P N n cf).1).map (·.1)) = (some (.sl α E xs, j, true), ((adv P N n cf).2 ++ esOf (adv P N n cf).1).map (·.2)))
    (g : Go ρ P N D0 Q As η0 m0 (pushVR N (adv P N n cf).1 (idxOV P (adv P N n cf).1) (idxOT P (adv P N n cf).1))) : Go ρ P N D0 Q As η0 m0 cf := by
  simp only [Prod.mk.injEq] at e
  obtain ⟨e1, e3⟩ := e
  obtain ⟨he1, he2⟩ := EqsOk.two e3
  refine adv_ok hm he1 ?_
  generalize (adv P N n cf).1 = c0 at *
  cases hk : idxOP P c0 with
  | none => rw [hk] at e1; cases e1
  | some r =>
    obtain ⟨d, j', sz, nn, ok, p⟩ := r
    have hT : idxOT P c0 = [p] := by unfold idxOT; rw [hk]
    have hV : idxOV P c0 = .pe nn j' sz 0 := by unfold idxOV; rw [hk]
    rw [hT, hV] at g
    rw [hk] at e1
    simp only [Option.map_some, Option.some.injEq, Prod.mk.injEq] at e1
    obtain ⟨e1, e2, e4⟩ := e1
    subst e1 e2 e4
    unfold idxOP at hk
    split at hk
    · rename_i a ha
      rw [esOf_of ha] at he2
      split at hk
      · rename_i t x' y hop
        split at hk
        · rename_i n' kk jj e' h1 h2 h3
          split at hk
          · rename_i i d' sz' p' hi hrow
            simp only [Option.some.injEq, Prod.mk.injEq] at hk
            obtain ⟨q1, q2, q3, q4, q5, q6⟩ := hk
            subst q1 q2 q3 q4 q6
            obtain ⟨hmem, i0, α', E', xs', hd, hp⟩ := rowOf_ok hrow
            cases hd; subst hp
            refine go_valR ha he2 ⟨fun x hx => by simp at hx; subst hx; exact hmem, by simp [tids]⟩ (fun hp => ?_) g
            have q := hq (gOf_of ha hp)
            obtain ⟨l, ⟨dst, op, ty, pos, af, gd⟩, gg, sl, es⟩ := a
            simp only at hop ⊢; subst hop
            refine ⟨Nat.le_refl _, fun rest Q η m f w As hr hz hn S hk => ?_⟩
            have S' : St m (rep η m (.row n' sz' α E xs) :: As) w := S
            obtain ⟨v, cs, a1, a2, a3, a4, S1⟩ := St.openRow S'
            have rx := aev_rel hr x'; rw [h1] at rx
            have ex := rx.ow_inv.1
            rw [a1] at ex
            have hr2 := idx_rng q
            refine s_idxO (i := 0) (j := jj) S1 (Option.some.inj ex).symm (toIv_val h2 hr) rfl hr2.1 hr2.2 h3 (by rw [← Nat.eq_of_beq_eq_true q5]; exact tinf_sz hi) fun p hp => ?_
            exact hk η m w p Env.le_refl (Mem.rfl' m) (fun n h => .inl h) (.pe a1 hp) S
          · cases hk
        · cases hk
      · cases hk
    · cases hk
def ldOP (P : Program) (cf : Cf) : Option (D × Int × Nat × Nat × Bool × Nat × Bool × Tok) :=
  match opAt cf with
  | some a => match a.o.op with
    | .load t x => match aev a.sl x, tinf P t with
      | .pe n j sz fo, some i => match rowOf cf.s.ob n with
        | some (d, sz', p) => some (d, j, fo, i.sz, i.agg, sz, Nat.beq sz sz' && (Nat.ble (fo + i.sz) sz && (i.agg || Nat.beq i.sz 1)), p)
        | none => none
      | _, _ => none
    | _ => none
  | none => none
def ldOT (P : Program) (cf : Cf) : List Tok := match ldOP P cf with | some (_, _, _, _, _, _, _, p) => [p] | none => []
theorem go_ldO (hm : P.follows .mixedOrders = true) {n k fo nn : Nat} {ag : Bool} {cf : Cf} {α : Type} {E : α → List D} {xs : List α} {j : Int} {x : α} (hE : ∀ x, (E x).length = k) (hq : gOf (adv P N n cf).1 = true → idx xs j = some x)
    (e : ((ldOP P (adv P N n cf).1).map (fun r => (r.1, r.2.1, r.2.2.1, r.2.2.2.1, r.2.2.2.2.1, r.2.2.2.2.2.1, r.2.2.2.2.2.2.1)), ((adv P N n cf).2 ++ esOf (adv P N n cf).1).map (·.1)) = (some (.sl α E xs, j, fo, nn, ag, k, true), ((adv P N n cf).2 ++ esOf (adv P N n cf).1).map (·.2)))
    (g : Go ρ P N D0 Q As η0 m0 (pushVR N (adv P N n cf).1 (pkA ag ((((E x).drop fo).take nn).map .d)) (ldOT P (adv P N n cf).1))) : Go ρ P N D0 Q As η0 m0 cf := by
  simp only [Prod.mk.injEq] at e
  obtain ⟨e1, e3⟩ := e
  obtain ⟨he1, he2⟩ := EqsOk.two e3
  refine adv_ok hm he1 ?_
  generalize (adv P N n cf).1 = c0 at *
  cases hk : ldOP P c0 with
  | none => rw [hk] at e1; cases e1
  | some r =>
    obtain ⟨d, j', fo', nn', ag', k', ok, p⟩ := r
    have hT : ldOT P c0 = [p] := by unfold ldOT; rw [hk]
    rw [hT] at g
    rw [hk] at e1
    simp only [Option.map_some, Option.some.injEq, Prod.mk.injEq] at e1
    obtain ⟨e1, e2, e4, e5, e6, e7, e8⟩ := e1
    subst e1 e2 e4 e5 e6 e7 e8
    unfold ldOP at hk
    split at hk
    · rename_i a ha
      rw [esOf_of ha] at he2
      split at hk
      · rename_i t x' hop
        split at hk
        · rename_i n' jj sz fo2 i h1 hi
          split at hk
          · rename_i d' sz' p' hrow
            simp only [Option.some.injEq, Prod.mk.injEq] at hk
            obtain ⟨q1, q2, q3, q4, q5, q6, q7, q8⟩ := hk
            subst q1 q2 q3 q4 q5 q6 q8
            simp only [Bool.and_eq_true, Bool.or_eq_true] at q7
            obtain ⟨b1, b2, b3⟩ := q7
            have b1 := Nat.eq_of_beq_eq_true b1
            have b2 := Nat.le_of_ble_eq_true b2
            obtain ⟨hmem, i0, α', E', xs', hd, hp⟩ := rowOf_ok hrow
            cases hd; subst hp
            subst b1
            refine go_valR ha he2 ⟨fun x hx => by simp at hx; subst hx; exact hmem, by simp [tids]⟩ (fun hp => ?_) g
            have q := hq (gOf_of ha hp)
            obtain ⟨l, ⟨dst, op, ty, pos, af, gd⟩, gg, sl, es⟩ := a
            simp only at hop ⊢; subst hop
            refine ⟨Nat.le_refl _, fun rest Q η m f w As hr hz hn S hk => ?_⟩
            have S' : St m (rep η m (.row n' sz α E xs) :: As) w := S
            obtain ⟨v, cs, a1, a2, a3, a4, S1⟩ := St.openRow S'
            have rx := aev_rel hr x'; rw [h1] at rx
            obtain ⟨v', hv', hp'⟩ := rx.pe_inv
            rw [a1] at hv'; cases hv'
            letI := gotE E sz
            have hrep : GoT.rep m ((cs.drop (jj.toNat * sz)).take sz) x := RepL.getI (repE a3 a4) q
            have hf : FRL m (E x) ((cs.drop (jj.toNat * sz)).take sz) := hrep.1
            have hseg := (hf.drop fo2).take i.sz
            have hd : ((((cs.drop (jj.toNat * sz)).take sz).drop fo2).take i.sz) = (cs.drop (jj.toNat * sz + fo2)).take i.sz := by
              rw [List.drop_take, List.take_take, List.drop_drop, Nat.min_eq_left (by omega)]
            have hlE : (((E x).drop fo2).take i.sz).length = i.sz := by rw [List.length_take, List.length_drop, hE x]; omega
            have hlen : ((cs.drop (jj.toNat * sz + fo2)).take i.sz).length = i.sz := by rw [← hd, ← hseg.1, hlE]
            have h1' : i.agg = false → i.sz = 1 := fun e => by
              rcases b3 with z | z
              · rw [e] at z; cases z
              · exact Nat.eq_of_beq_eq_true z
            rw [hd] at hseg
            refine s_ldO (i := 0) (d := (cs.drop (jj.toNat * sz + fo2)).take i.sz) S1 rfl hp' rfl (by rw [hlen]) (tinf_agg hi) (by rw [hlen]; exact tinf_sz hi) (fun e => by rw [hlen, h1' e]) ?_
            exact hk η m w _ Env.le_refl (Mem.rfl' m) (fun n h => .inl h) (pkA_rel (.ofD hseg) fun e => by rw [List.length_map, hlE, h1' e]) S
          · cases hk
        · cases hk
      · cases hk
    · cases hk
def stOP (P : Program) (cf : Cf) : Option (D × Int × Nat × List AV × Nat × Bool × Nat × Tok × List Tok × List Tok) :=
  match opAt cf with
  | some a => match a.g, a.o.op with
    | none, .store t x y => match aev a.sl x, cellsA (aev a.sl y), tinf P t with
      | .pe n j sz fo, some ds, some i => match rowOf cf.s.ob n with
        | some (d, sz', p) => some (d, j, fo, (cellsV cf.s.ob ds).1, sz, (Nat.beq sz sz' && Nat.beq i.sz ds.length) && (nodN (tids ((p :: (cellsV cf.s.ob ds).2.2) ++ (cellsV cf.s.ob ds).2.1)) && ((cellsV cf.s.ob ds).2.1.all (fun p => isFr p.2) && (cellsV cf.s.ob ds).2.2.all (fun p => isRow p.2))), n, p, (cellsV cf.s.ob ds).2.1, (cellsV cf.s.ob ds).2.2)
        | none => none
      | _, _, _ => none
    | _, _ => none
  | none => none
def stOS (P : Program) (cf : Cf) (sz : Nat) (α : Type) (E : α → List D) (xs : List α) : Stp :=
  match stOP P cf with
  | some (_, _, _, _, _, _, n, p, rd, fw) => ⟨.no, rd, p :: fw, enO cf.s.nx (.row n sz α E xs :: asFr fw), cf.s.nx + (1 + (asFr fw).length), []⟩
  | none => rowS cf.s sz α E xs
theorem go_stO (hm : P.follows .mixedOrders = true) {n k : Nat} {cf : Cf} {α : Type} {E : α → List D} {xs : List α} {j : Int} {z0 z : α} (hE : ∀ x, (E x).length = k) (hq : idx xs j = some z0)
    (e : ((stOP P (adv P N n cf).1).map (fun r => (r.1, r.2.1, r.2.2.1, r.2.2.2.1, r.2.2.2.2.1, r.2.2.2.2.2.1)), ((adv P N n cf).2 ++ esOf (adv P N n cf).1).map (·.1)) = (some (.sl α E xs, j, 0, (E z).map .d, k, true), ((adv P N n cf).2 ++ esOf (adv P N n cf).1).map (·.2)))
    (g : Go ρ P N D0 Q As η0 m0 (push N (adv P N n cf).1 (stOS P (adv P N n cf).1 k α E (xs.set j.toNat z)))) : Go ρ P N D0 Q As η0 m0 cf := by
  simp only [Prod.mk.injEq] at e
  obtain ⟨e1, e3⟩ := e
  obtain ⟨he1, -⟩ := EqsOk.two e3
  refine adv_ok hm he1 ?_
  generalize (adv P N n cf).1 = c0 at *
  cases hk : stOP P c0 with
  | none => rw [hk] at e1; cases e1
  | some r =>
    obtain ⟨d, j', fo, ds, k', ok, nn, p, rd, fw⟩ := r
    have hS : stOS P c0 k α E (xs.set j.toNat z) = ⟨.no, rd, p :: fw, enO c0.s.nx (.row nn k α E (xs.set j.toNat z) :: asFr fw), c0.s.nx + (1 + (asFr fw).length), []⟩ := by unfold stOS; rw [hk]
    rw [hS] at g
    rw [hk] at e1
    simp only [Option.map_some, Option.some.injEq, Prod.mk.injEq] at e1
    obtain ⟨e1, e2, e4, e5, e6, e7⟩ := e1
    subst e1 e2 e4 e6 e7
    unfold stOP at hk
    split at hk
    · rename_i a ha
      split at hk
      · rename_i t x y hg hop
        split at hk
        · rename_i n' jj sz fo2 ds0 i h1 h2 hi
          split at hk
          · rename_i d' sz' p' hrow
            simp only [Option.some.injEq, Prod.mk.injEq] at hk
            obtain ⟨q1, q2, q3, q4, q5, q6, q7, q8, q9, q10⟩ := hk
            subst q1 q2 q3 q5 q7 q8 q9 q10
            simp only [Bool.and_eq_true] at q6
            obtain ⟨⟨b1, b2⟩, b3, b4, b5⟩ := q6
            have b1 := Nat.eq_of_beq_eq_true b1
            have b2 := Nat.eq_of_beq_eq_true b2
            obtain ⟨hmem, i0, α', E', xs', hd, hp⟩ := rowOf_ok hrow
            cases hd; subst hp
            subst b1
            have hgd := none_guard ha hg
            have csub := cellsV_sub (ob := c0.s.ob) (cs := ds0)
            refine go_push ha hg ?_ ?_ g
            · obtain ⟨l, ⟨dst, op, ty, pos, af, gd⟩, gg, sl, es⟩ := a
              simp only at hop hgd h1 h2 ⊢; subst hop hgd
              refine ⟨Nat.le_add_right _ _, fun rest Q η m f w As hr hfz hn S hk => ?_⟩
              simp only at S hk hn
              rw [reps_app, List.append_assoc] at S
              have S0 : St m (rep η m (.row n' sz α E xs) :: (reps η m (cellsV c0.s.ob ds0).2.2 ++ (reps η m (cellsV c0.s.ob ds0).2.1 ++ As))) w := S
              have S1 := S0.perm List.perm_middle.symm
              obtain ⟨m1, l1, K1, S2⟩ := freezeL b5 S1
              obtain ⟨v, cs, a1, a2, a3, a4, S3⟩ := St.openRow (m := m1) (St.imp0 S2 fun h hh => rep.up Env.le_refl l1 hh)
              have S4 := S3.perm List.perm_middle.symm
              have S5 := St.ru Env.le_refl l1 S4
              obtain ⟨K2, S6⟩ := frFacts b4 S5
              have hr1 : ∀ t, Rel η m1 (get sl t) (f t) := fun t => (hr t).up Env.le_refl l1
              obtain ⟨c1, c2⟩ := cells_rel h2 (aev_rel hr1 y)
              have c3 := cellsV_ok c1 K1 K2
              rw [q4, e5] at c3
              have c4 := FRL.ofRel c3
              have rx := aev_rel hr1 x; rw [h1] at rx
              obtain ⟨v', hv', hp'⟩ := rx.pe_inv
              rw [a1] at hv'; cases hv'
              letI := gotE E sz
              have hsz : (ev f y).cells.size = ds0.length := by rw [c1.1]; simp
              refine s_stOR (α := α) (i := 0) (z := z) S6 rfl rfl (by rw [Nat.add_zero] at hp'; exact hp') rfl (repE a3 a4) hq (by rw [hsz, ← b2]; exact tinf_sz hi) (oneL_of c4.one) ⟨c4, hE z⟩ fun w' cs' S7 hrep => ?_
              have hrep' := repE' hrep
              refine hk η m1 w' undef Env.le_refl l1 (fun n h => .inl h) .no ?_
              rw [reps_app, List.append_assoc, enO_reps]
              show St m1 (rep η m1 (.row n' sz α E (xs.set jj.toNat z)) :: ((asFr (cellsV c0.s.ob ds0).2.2).map (rep η m1) ++ (reps η m1 (cellsV c0.s.ob ds0).2.1 ++ As))) w'
              have T1 := St.closeRow (η := η) (n := n') a1 a2 hrep'.1 hrep'.2 S7
              have T2 := closeFrs K1 (closeFrT b4 K2 T1)
              exact T2.perm ((List.Perm.append_left _ List.perm_middle).trans List.perm_middle)
            · refine ⟨fun q hq => ?_, nodN_ok b3, ?_, fun t ht => ?_⟩
              · simp only [List.cons_append, List.mem_cons] at hq
                rcases hq with h | h
                · subst h; exact hmem
                · exact csub q h
              · simp only; rw [enO_tids]; exact List.nodup_range'
              · simp only at ht ⊢
                rw [enO_tids, List.mem_range'] at ht
                obtain ⟨i2, hi2, rfl⟩ := ht
                simp only [List.length_cons] at hi2
                omega
          · cases hk
        · cases hk
      · cases hk
    · cases hk
def PS (a b : Sl) : Prop := ∀ (t : Nat) (η : Env) (m : Mem) (v : Value), Rel η m (get a t) v → Rel η m (get b t) v
theorem PS.rst {a b : Sl} (p : PS a b) : ∀ (ts : List Nat), PS (rst ts a) (rst ts b)
  | [], _, _, _, _, _ => .any _
  | x :: ts, t, η, m, v, h => by
    have h' : Rel η m (bif Nat.beq x t then get a x else get (Ax.rst ts a) t) v := h
    show Rel η m (bif Nat.beq x t then get b x else get (Ax.rst ts b) t) v
    cases hb : Nat.beq x t
    · rw [hb] at h'; exact PS.rst p ts t η m v h'
    · rw [hb] at h'; exact p x η m v h'
theorem PS.setS {a b : Sl} (p : PS a b) (N : Nat) (d : Option Nat) (x : AV) : PS (setS N a d x) (setS N b d x) := fun t η m v h => by
  cases d with
  | none => exact p t η m v h
  | some d =>
    unfold Ax.setS at *
    cases hb : Nat.blt d N
    · simp only [hb, cond_false] at h ⊢; exact p t η m v h
    · simp only [hb, cond_true, get] at h ⊢
      cases hq : Nat.beq d t
      · rw [hq] at h; exact p t η m v h
      · rw [hq] at h; exact h
def setK (g : Nat) (v : Bool) (cf : Cf) : Cf := ⟨⟨(g, .d (.v (.bool v))) :: cf.s.sl, cf.s.ob, cf.s.fz, cf.s.nx⟩, cf.md, cf.K⟩
def atG (g : Nat) (cf : Cf) : Bool :=
  match cf.md with
  | .ops _ l (o :: _) _ => match o.guard with
    | some (j, _) => match dstOf l.toArray j with
      | some g' => Nat.beq g' g
      | none => false
    | none => false
  | _ => false
def advG (g : Nat) (P : Program) (N : Nat) : Nat → Cf → Cf × Eqs
  | 0, cf => (cf, [])
  | n + 1, cf => bif atG g cf then (cf, []) else match nxt P N cf with
    | some r => let q := advG g P N n r.1; (q.1, r.2 ++ q.2)
    | none => (cf, [])
def idxVP (P : Program) (cf : Cf) : Option (List AV × Int × Nat × Nat × Bool × Bool) :=
  match opAt cf with
  | some a => match a.o.op with
    | .index t x y => match aev a.sl x, toIv a.sl y, P.underlying t with
      | .agg cs, some (_, j), some (.array n e) => match tinf P e with
        | some i => some (cs, j, n, i.sz, i.agg, i.agg || Nat.beq i.sz 1)
        | none => none
      | _, _, _ => none
    | _ => none
  | none => none
theorem go_idxV (hm : P.follows .mixedOrders = true) {n k : Nat} {ag : Bool} {cf : Cf} {α : Type} {E : α → List D} (xs : List α) {j : Int} {x : α} (hE : ∀ x, (E x).length = k) (hq : gOf (adv P N n cf).1 = true → idx xs j = some x)
    (e : (idxVP P (adv P N n cf).1, ((adv P N n cf).2 ++ esOf (adv P N n cf).1).map (·.1)) = (some ((xs.flatMap E).map .d, j, xs.length, k, ag, true), ((adv P N n cf).2 ++ esOf (adv P N n cf).1).map (·.2)))
    (g : Go ρ P N D0 Q As η0 m0 (pushVR N (adv P N n cf).1 (pkA ag ((E x).map .d)) [])) : Go ρ P N D0 Q As η0 m0 cf := by
  simp only [Prod.mk.injEq] at e
  obtain ⟨e1, e3⟩ := e
  obtain ⟨he1, he2⟩ := EqsOk.two e3
  refine adv_ok hm he1 ?_
  generalize (adv P N n cf).1 = c0 at *
  unfold idxVP at e1
  split at e1
  · rename_i a ha
    rw [esOf_of ha] at he2
    split at e1
    · rename_i t x' y hop
      split at e1
      · rename_i cs kk jj n' e' h1 h2 h3
        split at e1
        · rename_i i hi
          simp only [Option.some.injEq, Prod.mk.injEq, Bool.or_eq_true] at e1
          obtain ⟨q1, q2, q3, q4, q5, q6⟩ := e1
          subst q1 q2 q3 q4 q5
          refine go_valR (rd := []) ha he2 ⟨fun _ h => (by cases h), List.nodup_nil⟩ (fun hp => ?_) g
          have q := hq (gOf_of ha hp)
          obtain ⟨l, ⟨dst, op, ty, pos, af, gd⟩, gg, sl, es⟩ := a
          simp only at hop h1 h2 ⊢; subst hop
          refine ⟨Nat.le_refl _, fun rest Q η m f w As hr hz hn S hk => ?_⟩
          have rx := aev_rel hr x'; rw [h1] at rx
          obtain ⟨vs, ev_, rl⟩ := rx.agg_inv
          letI := gotE E i.sz
          have hrep : GoT.rep m ((vs.drop (jj.toNat * i.sz)).take i.sz) x := RepL.getI (repE (FRL.ofRel rl) fun x _ => hE x) q
          have h1' : i.agg = false → i.sz = 1 := fun e => by
            rcases q6 with z | z
            · rw [e] at z; cases z
            · exact Nat.eq_of_beq_eq_true z
          have hr2 := idx_rng q
          have hl : ((vs.drop (jj.toNat * i.sz)).take i.sz).length = i.sz := by rw [← hrep.1.1, hE]
          exact s_index ev_ (toIv_val h2 hr) hr2.1 hr2.2 h3 (tinf_agg hi) (tinf_sz hi) rfl hl h1' (hk η m w _ Env.le_refl (Mem.rfl' m) (fun n h => .inl h) (pkA_rel (.ofD hrep.1) fun e => by rw [List.length_map, hE, h1' e]) S)
        · cases e1
      · cases e1
    · cases e1
  · cases e1
theorem go_litGc (hm : P.follows .mixedOrders = true) {n k : Nat} {cf : Cf} {α : Type} {E : α → List D} {xs : List α} (hE : ∀ x, (E x).length = k)
    (e : ((litG P (adv P N n cf).1).map (fun r => ((cvL [] ((xs.flatMap E).map .d) r.1).1, r.2)), ((adv P N n cf).2 ++ esOf (adv P N n cf).1).map (·.1)) = (some ((xs.flatMap E).map .d, xs.length, k, true), ((adv P N n cf).2 ++ esOf (adv P N n cf).1).map (·.2)))
    (g : Go ρ P N D0 Q As η0 m0 (pushVR N (adv P N n cf).1 (.d (.sl α E xs)) [])) : Go ρ P N D0 Q As η0 m0 cf := by
  simp only [Prod.mk.injEq] at e
  obtain ⟨e1, e3⟩ := e
  obtain ⟨he1, he2⟩ := EqsOk.two e3
  refine adv_ok hm he1 ?_
  generalize (adv P N n cf).1 = c0 at *
  unfold litG at e1
  split at e1
  · rename_i a ha
    rw [esOf_of ha] at he2
    split at e1
    · rename_i t n parts hop
      split at e1
      · rename_i e hu
        split at e1
        · rename_i i hi
          split at e1
          · rename_i z cs hz hcs
            simp only [Option.map_some, Option.some.injEq, Prod.mk.injEq, Bool.and_eq_true] at e1
            obtain ⟨ec, en, ek, b1, b2, b3, b4⟩ := e1
            refine go_valR (rd := []) ha he2 ⟨fun _ h => (by cases h), List.nodup_nil⟩ (fun _ => ?_) g
            obtain ⟨l, ⟨dst, op, ty, pos, af, gd⟩, gg, sl, es⟩ := a
            simp only at hop hcs ⊢; subst hop
            refine ⟨Nat.le_refl _, fun rest Q η m f w As hr hfz hn S hk => ?_⟩
            obtain ⟨cls, a1, a2, a3⟩ := cellsP_ok hr hfz hcs
            have hp := seqB_eq b1
            have e0 : parts = (((parts.toList.map (·.2)).zipIdx 0).map fun p => (p.2, p.1)).toArray := by
              rw [← hp]
            rw [e0]
            have hlen : ((parts.toList.map (·.2)).map (ev f)).length = n := by simp; exact (Nat.eq_of_beq_eq_true b2).symm
            have S0 : St m As w := S
            refine s_litOC (vs := (parts.toList.map (·.2)).map (ev f)) (cls := cls) S0 hu (tinf_sz hi) (tinf_z hi hz) rfl a1 a2 hlen.symm (Nat.le_of_ble_eq_true b3) (Nat.le_of_ble_eq_true b4) fun v w' S' => ?_
            rw [ek, en] at S'
            replace a3 := cvL_rel (ob := []) (es := (xs.flatMap E).map .d) (fun n _ d hd => by simp [frD, find] at hd) a3
            rw [ec] at a3
            letI := gotE E k
            obtain ⟨m1, l1, h5, S2⟩ := St.rowKeepT (i := 0) S' rfl (repE (FRL.ofRel a3) fun x _ => hE x) rfl
            exact hk η m1 w' v Env.le_refl l1 (fun n h => .inl h) (.d (to_sl h5)) S2
          · cases e1
        · cases e1
      · cases e1
    · cases e1
  · cases e1
end
end Go.Ax
end
