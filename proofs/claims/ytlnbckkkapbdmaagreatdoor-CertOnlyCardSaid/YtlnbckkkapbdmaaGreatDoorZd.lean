/- Several texts, one behind the other. Conditions: none. -/
import Derived.Test.YtlnbckkkapbdmaaGreatDoorZc
import Derived.Lib.Bytealg
import Derived.RecoverIn
set_option linter.unusedSimpArgs false
set_option linter.unusedVariables false
section
namespace Go.Ax
open Go Go.Gw
def datum : AObj → D
  | .row _ _ α E xs=> .sl α E xs
  | .fr _ d=> d
  | .box ..=> .v undef
  | .hp ..=> .v undef
def frD (ob : List Tok) (n : Nat) : Option D :=
  match find n ob with
  | some (_,.row k _ α E xs)=> bif Nat.beq k n then some (.sl α E xs) else none
  | some (_,.fr k d)=> bif Nat.beq k n then some d else none
  | _=> none
def cv1 (ob : List Tok) : AV → AV → AV × List Nat
  | .any,_=> (.any,[])
  | .d (.sl α E _),.d (.v (.slice none 0 0))=> (.d (.sl α E []),[])
  | .d _,.ow n=> match frD ob n with
    | some d=> (.d d,[n])
    | none=> (.ow n,[])
  | _,a=> (a,[])
def cvL (ob : List Tok) : List AV → List AV → List AV × List Nat
  | e :: es,a :: as=> let x:= cv1 ob e a; let y:= cvL ob es as; (x.1 :: y.1,x.2 ++ y.2)
  | _,as=> (as,[])
def cvA (ob : List Tok) : AV → AV → AV × List Nat
  | .agg es,.agg as=> let x:= cvL ob es as; (.agg x.1,x.2)
  | e,a=> cv1 ob e a
def cvV (ob : List Tok) : List AV → List AV → List AV × List Nat
  | e :: es,a :: as=> let x:= cvA ob e a; let y:= cvV ob es as; (x.1 :: y.1,x.2 ++ y.2)
  | _,as=> (as,[])
def cvO (ob : List Tok) : AObj → AObj → AObj × List Nat
  | .box _ es _,.box n cs t=> let x:= cvV ob es cs; (.box n x.1 t,x.2)
  | _,a=> (a,[])
def cvOs (ob : List Tok) : List AObj → List Tok → List AObj × List Nat
  | e :: es,p :: ps=> let x:= cvO ob e p.2; let y:= cvOs ob es ps; (x.1 :: y.1,x.2 ++ y.2)
  | _,ps=> (ps.map (·.2),[])
def Kn (ob : List Tok) (η : Env) (m : Mem) (ns : List Nat) : Prop:= ∀ n ∈ ns,∀ d,frD ob n = some d → ∃ v,η n = some v ∧ FR m d v
section
variable {ob : List Tok} {η : Env} {m : Mem}
theorem Kn.app {a b : List Nat} (h : Kn ob η m (a ++ b)) : Kn ob η m a ∧ Kn ob η m b:= ⟨fun n hn=> h n (List.mem_append_left _ hn),fun n hn=> h n (List.mem_append_right _ hn)⟩
theorem cv1_rel {e a : AV} {v : Value} (k : Kn ob η m (cv1 ob e a).2) (r : Rel η m a v) : Rel η m (cv1 ob e a).1 v:= by
  unfold cv1 at *
  split
  · exact .any _
  · cases r with
    | d h=> cases h with
      | v _ _=> exact .d nil_sl
  · rename_i n
    simp only at k
    split at k
    · rename_i d hd
      obtain ⟨u,h1,h2⟩:= k n (by simp) d hd
      have:= r.ow_inv.1
      rw [h1] at this; cases this
      exact .d h2
    · exact r
  · exact r
theorem cvL_rel : ∀ {es as : List AV} {vs : List Value},Kn ob η m (cvL ob es as).2 → RelL η m as vs → RelL η m (cvL ob es as).1 vs
  | [],as,vs,_,r=> by unfold cvL; exact r
  | _ :: _,[],vs,_,r=> by unfold cvL; exact r
  | e :: es,a :: as,vs,k,r=> by
    obtain ⟨v,us,rfl,h1,h2⟩:= r.cons_inv
    have k':= Kn.app k
    exact .cons (cv1_rel k'.1 h1) (cvL_rel k'.2 h2)
theorem cvA_rel {e a : AV} {v : Value} (k : Kn ob η m (cvA ob e a).2) (r : Rel η m a v) : Rel η m (cvA ob e a).1 v:= by
  unfold cvA at *
  split
  · obtain ⟨vs,rfl,h⟩:= r.agg_inv
    have:= cvL_rel k h
    exact .agg this.1 this.2
  · rename_i h
    refine cv1_rel ?_ r
    split at k
    · exact absurd rfl (h _ _ rfl)
    · exact k
theorem cvV_rel : ∀ {es as : List AV} {vs : List Value},Kn ob η m (cvV ob es as).2 → RelL η m as vs → RelL η m (cvV ob es as).1 vs
  | [],as,vs,_,r=> by unfold cvV; exact r
  | _ :: _,[],vs,_,r=> by unfold cvV; exact r
  | e :: es,a :: as,vs,k,r=> by
    obtain ⟨v,us,rfl,h1,h2⟩:= r.cons_inv
    have k':= Kn.app k
    exact .cons (cvA_rel k'.1 h1) (cvV_rel k'.2 h2)
theorem cvO_rep {e o : AObj} {x : PH} (k : Kn ob η m (cvO ob e o).2) (r : rep η m o x) : rep η m (cvO ob e o).1 x:= by
  cases e <;> cases o <;> first | exact r | skip
  obtain ⟨b,vs,p,q,z,u⟩:= r
  exact ⟨b,vs,p,cvV_rel k q,z,u⟩
theorem cvOs_rep : ∀ {es : List AObj} {ps : List Tok} {h : PH} {B : List Ow},Kn ob η m (cvOs ob es ps).2 → sepL (reps η m ps ++ B) h → sepL ((cvOs ob es ps).1.map (rep η m) ++ B) h
  | [],ps,h,B,_,S=> by unfold cvOs; simpa [reps,List.map_map,Function.comp_def] using S
  | _ :: _,[],h,B,_,S=> by unfold cvOs; simpa [reps] using S
  | e :: es,p :: ps,h,B,k,⟨h1,h2,a,s,d,x⟩=> by
    have k':= Kn.app k
    exact ⟨h1,h2,cvO_rep k'.1 a,cvOs_rep k'.2 s,d,x⟩
end
def isRow : AObj → Bool
  | .row ..=> true
  | _=> false
def isFr : AObj → Bool
  | .fr ..=> true
  | _=> false
section
variable {η : Env} {As : List Ow} {w : World}
theorem freezeL : ∀ {ps : List Tok} {m : Mem},ps.all (fun p=> isRow p.2) = true → St m (reps η m ps ++ As) w → ∃ m',m ≤ m' ∧ (∀ p ∈ ps,∃ v,η p.2.nm = some v ∧ FR m' (datum p.2) v) ∧ St m' As w
  | [],m,_,S=> ⟨m,Mem.rfl' m,(fun _ h=> by cases h),S⟩
  | (i,.row n sz α E xs) :: ps,m,h,S=> by
    obtain ⟨v,cs,h1,h2,h3,h4,S1⟩:= St.openRow S
    letI:= gotE E sz
    obtain ⟨m1,l1,h5,S2⟩:= St.rowKeepT (i:= 0) S1 rfl (repE h3 h4) rfl
    have S3:= St.ru (l:= ps) Env.le_refl l1 S2
    obtain ⟨m2,l2,h6,S4⟩:= freezeL (ps:= ps) (by simp only [List.all_cons,Bool.and_eq_true] at h; exact h.2) S3
    refine ⟨m2,Mem.tr l1 l2,fun p hp=> ?_,S4⟩
    rcases List.mem_cons.1 hp with q | q
    · subst q; exact ⟨v,h1,(to_sl h5).up l2⟩
    · exact h6 p q
  | (i,.box ..) :: ps,m,h,S=> by simp [isRow] at h
  | (i,.fr ..) :: ps,m,h,S=> by simp [isRow] at h
  | (i,.hp ..) :: ps,m,h,S=> by simp [isRow] at h
theorem frFacts : ∀ {ps : List Tok} {m : Mem},ps.all (fun p=> isFr p.2) = true → St m (reps η m ps ++ As) w → (∀ p ∈ ps,∃ v,η p.2.nm = some v ∧ FR m (datum p.2) v) ∧ St m As w
  | [],m,_,S=> ⟨(fun _ h=> by cases h),S⟩
  | (i,.fr n d) :: ps,m,h,S=> by
    obtain ⟨⟨v,h1,h2⟩,S1⟩:= St.openFr S
    obtain ⟨h3,S2⟩:= frFacts (ps:= ps) (by simp only [List.all_cons,Bool.and_eq_true] at h; exact h.2) S1
    refine ⟨fun p hp=> ?_,S2⟩
    rcases List.mem_cons.1 hp with q | q
    · subst q; exact ⟨v,h1,h2⟩
    · exact h3 p q
  | (i,.box ..) :: ps,m,h,S=> by simp [isFr] at h
  | (i,.row ..) :: ps,m,h,S=> by simp [isFr] at h
  | (i,.hp ..) :: ps,m,h,S=> by simp [isFr] at h
def asFr : List Tok → List AObj
  | []=> []
  | p :: l=> .fr p.2.nm (datum p.2) :: asFr l
theorem closeFrs {m : Mem} : ∀ {ps : List Tok},(∀ p ∈ ps,∃ v,η p.2.nm = some v ∧ FR m (datum p.2) v) → St m As w → St m ((asFr ps).map (rep η m) ++ As) w
  | [],_,S=> S
  | p :: ps,h,S=> by
    obtain ⟨v,h1,h2⟩:= h p List.mem_cons_self
    exact St.closeFr h1 h2 (closeFrs (fun q hq=> h q (List.mem_cons_of_mem _ hq)) S)
theorem closeFrT {m : Mem} : ∀ {ps : List Tok},ps.all (fun p=> isFr p.2) = true → (∀ p ∈ ps,∃ v,η p.2.nm = some v ∧ FR m (datum p.2) v) → St m As w → St m (reps η m ps ++ As) w
  | [],_,_,S=> S
  | (i,.fr n d) :: ps,k,h,S=> by
    obtain ⟨v,h1,h2⟩:= h _ List.mem_cons_self
    exact St.closeFr h1 h2 (closeFrT (by simp only [List.all_cons,Bool.and_eq_true] at k; exact k.2) (fun q hq=> h q (List.mem_cons_of_mem _ hq)) S)
  | (i,.box ..) :: ps,k,h,S=> by simp [isFr] at k
  | (i,.row ..) :: ps,k,h,S=> by simp [isFr] at k
  | (i,.hp ..) :: ps,k,h,S=> by simp [isFr] at k
end
def toksOf (ob : List Tok) : List Nat → List Nat → List Tok
  | [],_=> []
  | n :: ns,seen=> bif memN n seen then toksOf ob ns seen else match find n ob with
    | some p=> p :: toksOf ob ns (n :: seen)
    | none=> toksOf ob ns (n :: seen)
structure Plan : Type 1 where
  k : FuncId
  as : List AV
  objs : List AObj
  ut : List Tok
  fw : List Tok
  fr : List Tok
  mt : Mt
def findM (ob : List Tok) (mt : Mt) : List AObj → Option (List Tok)
  | []=> some []
  | o :: l=> match find (mtGet mt o.nm o.nm) ob,findM ob mt l with
    | some p,some r=> some (p :: r)
    | _,_=> none
def planB (ob : List Tok) (k : FuncId) (as ea : List AV) (eobs : List AObj) : Option Plan :=
  let mt:= mtO ob eobs (mtO ob eobs (mtL mtA ea as))
  match findM ob mt eobs with
  | some ut =>
    let c:= cvV ob ea as
    let o:= cvOs ob eobs ut
    let ts:= toksOf ob (c.2 ++ o.2) []
    some ⟨k,c.1,o.1,ut,ts.filter (fun p=> isRow p.2),ts.filter (fun p=> !isRow p.2),mt⟩
  | none=> none
def planC (cf : Cf) (ea : List AV) (eobs : List AObj) : Option Plan :=
  match opAt cf with
  | some a=> match a.g,a.o.op with
    | none,.call c=> match calleeA cf.s.fz a.sl c with
      | some (k,as)=> planB cf.s.ob k as ea eobs
      | none=> none
    | _,_=> none
  | none=> none
def covers (ns : List Nat) : Nat → Bool
  | 0=> true
  | n + 1=> memN n ns && covers ns n
theorem covers_at {ns : List Nat} : ∀ {n : Nat},covers ns n = true → ∀ j,j < n → j ∈ ns
  | 0,_,j,h=> by omega
  | n + 1,h,j,hj=> by
    simp only [covers,Bool.and_eq_true] at h
    by_cases e : j = n
    · subst e; exact memN_iff.1 h.1
    · exact covers_at h.2 j (by omega)
def known (ob : List Tok) (ts : List Tok) : List Nat → Bool
  | []=> true
  | n :: ns=> (match find n ob with | some p=> memN p.1 (tids ts) && Nat.beq p.2.nm n | none=> true) && known ob ts ns
def okPlan (ob : List Tok) (p : Plan) (ea : List AV) (eobs : List AObj) (n0 : Nat) : Bool :=
  ea.all (okA n0) && (eobs.all (okO n0) && (nodN (tids ((p.ut ++ p.fw) ++ p.fr)) && (covers (eobs.map (·.nm)) n0 && (p.fr.all (fun p=> isFr p.2) && (p.fw.all (fun p=> isRow p.2) && true)))))
def bk (φ : Nat → Nat) (nx n0 : Nat) : Nat → Nat:= fun j=> bif Nat.blt j n0 then φ j else nx + (j - n0)
def stpC (s : AS) (p : Plan) (n0 : Nat) (r : AV) (obs' : List AObj) (n1 : Nat) : Stp :=
  let φ:= bk (fun j=> mtGet p.mt j 0) s.nx n0
  let md:= obs'.map (renO φ) ++ asFr p.fw
  ⟨renA φ r,p.fr,p.ut ++ p.fw,enO (s.nx + (n1 - n0)) md,s.nx + (n1 - n0) + md.length,[]⟩
def pushC (N : Nat) (cf : Cf) (ea : List AV) (eobs : List AObj) (n0 : Nat) (r : AV) (obs' : List AObj) (n1 : Nat) : Cf :=
  match planC cf ea eobs with
  | some p=> push N cf (stpC cf.s p n0 r obs' n1)
  | none=> cf
def callK (cf : Cf) (ea : List AV) (eobs : List AObj) (n0 : Nat) : Option (FuncId × List AV × List AObj × Bool) :=
  match planC cf ea eobs with
  | some p=> some (p.k,p.as,p.objs,okPlan cf.s.ob p ea eobs n0)
  | none=> none
def callW (cf : Cf) (ea : List AV) (eobs : List AObj) : List AV × List AObj :=
  match planC cf ea eobs with
  | some p=> (ea.map (renA fun j=> mtGet p.mt j 0),eobs.map (renO fun j=> mtGet p.mt j 0))
  | none=> ([],[])
theorem toksOf_sub {ob : List Tok} : ∀ {ns seen : List Nat} {p : Tok},p ∈ toksOf ob ns seen → p ∈ ob
  | [],_,_,h=> by cases h
  | n :: ns,seen,p,h=> by
    unfold toksOf at h
    cases hb : memN n seen
    · rw [hb] at h
      simp only [cond_false] at h
      split at h
      · rename_i q hq
        rcases List.mem_cons.1 h with e | e
        · subst e; exact find_nm hq
        · exact toksOf_sub e
      · exact toksOf_sub h
    · rw [hb] at h; exact toksOf_sub h
theorem toksOf_has {ob : List Tok} {n : Nat} {p : Tok} (hf : find n ob = some p) : ∀ {ns seen : List Nat},n ∈ ns → memN n seen = false → p ∈ toksOf ob ns seen
  | [],_,h,_=> by cases h
  | a :: ns,seen,h,hs=> by
    unfold toksOf
    by_cases e : n = a
    · subst e
      rw [hs]
      simp only [cond_false,hf]
      exact List.mem_cons_self
    · have h' : n ∈ ns:= by
        rcases List.mem_cons.1 h with q | q
        · exact absurd q e
        · exact q
      have hs' : memN n (a :: seen) = false:= by
        unfold memN
        rw [Gw.beq_ne (Ne.symm e)]; exact hs
      cases hb : memN a seen
      · simp only [cond_false]
        split
        · exact List.mem_cons_of_mem _ (toksOf_has hf h' hs')
        · exact toksOf_has hf h' hs'
      · exact toksOf_has hf h' hs
theorem findM_sub {ob : List Tok} {mt : Mt} : ∀ {es : List AObj} {ps : List Tok},findM ob mt es = some ps → ∀ p ∈ ps,p ∈ ob
  | [],ps,h,p,hp=> by cases h; cases hp
  | e :: es,ps,h,p,hp=> by
    unfold findM at h
    split at h
    · rename_i a b h1 h2; cases h
      rcases List.mem_cons.1 hp with q | q
      · subst q; exact find_nm h1
      · exact findM_sub h2 p q
    · cases h
theorem find_nmEq {n : Nat} : ∀ {l : List Tok} {q : Tok},find n l = some q → q.2.nm = n
  | [],_,h=> by cases h
  | p :: l,q,h=> by
    unfold find at h
    cases hb : Nat.beq p.2.nm n
    · rw [hb] at h; exact find_nmEq h
    · rw [hb] at h; cases h; exact Nat.eq_of_beq_eq_true hb
theorem frD_datum {ob : List Tok} {n : Nat} {d : D} (h : frD ob n = some d) : ∃ p,find n ob = some p ∧ datum p.2 = d ∧ (isRow p.2 = true ∨ isFr p.2 = true) ∧ p.2.nm = n:= by
  unfold frD at h
  split at h
  · rename_i i k sz α E xs hf
    cases hb : Nat.beq k n
    · rw [hb] at h; cases h
    · rw [hb] at h; cases h; exact ⟨_,hf,rfl,.inl rfl,find_nmEq hf⟩
  · rename_i i k d' hf
    cases hb : Nat.beq k n
    · rw [hb] at h; cases h
    · rw [hb] at h; cases h; exact ⟨_,hf,rfl,.inr rfl,find_nmEq hf⟩
  · cases h
theorem defs_of {η : Env} {m : Mem} {As : List Ow} {w : World} : ∀ {os : List AObj},St m (os.map (rep η m) ++ As) w → ∀ o ∈ os,∃ v,η o.nm = some v
  | [],_,_,h=> by cases h
  | a :: os,S,o,h=> by
    obtain ⟨x,⟨h1,h2,ha,hs,d,e⟩,d1,g,g',nd⟩:= S.own
    rcases List.mem_cons.1 h with q | q
    · subst q; exact rep_def ha
    · have S2 : St m (os.map (rep η m) ++ (rep η m a :: As)) w:= S.perm List.perm_middle.symm
      exact defs_of S2 o q
section
variable {ρ : Option Nat} {P : Program} {N : Nat} {D0 : Dw} {Q : Post} {As : List Ow} {η0 : Env} {m0 : Mem}
theorem go_push {cf : Cf} {a : OpAt} {r : Stp} (ha : opAt cf = some a) (hg : a.g = none) (ht : Tri ρ P N D0 a.l.toArray a.o cf.s.fz a.sl cf.s.nx r) (hs : StpOk cf.s r) (g : Go ρ P N D0 Q As η0 m0 (push N cf r)) : Go ρ P N D0 Q As η0 m0 cf:= by
  obtain ⟨s,md,K⟩:= cf
  unfold opAt at ha
  split at ha <;> first | cases ha | skip
  rename_i dr l o rest h hmd
  simp only at hmd; subst hmd
  split at ha
  · rename_i hgd
    cases ha
    refine go_cons ?_ hs g
    have hr : rds l.toArray o = opT o.op:= by simp [rds,hgd]
    rw [hr]; exact ht
  · rename_i j w hgd
    split at ha
    · cases ha
    · rename_i gs hd
      split at ha
      · rename_i v' hk
        cases hb : beqB v' w
        · rw [hb] at ha; cases ha
        · rw [hb] at ha
          simp only [cond_true] at ha
          cases ha
          exact go_cons (tri_kn hgd hd hk hb ht) hs g
      split at ha
      · cases ha
      · cases ha; cases hg
theorem none_guard {cf : Cf} {a : OpAt} (ha : opAt cf = some a) (hg : a.g = none) : a.o.guard = none:= by
  unfold opAt at ha
  split at ha <;> first | cases ha | skip
  split at ha
  · rename_i hh; cases ha; exact hh
  · rename_i j w hgd
    split at ha
    · cases ha
    · split at ha
      · rename_i v' hk
        cases hb : beqB v' w
        · rw [hb] at ha; cases ha
        · rw [hb] at ha
          simp only [cond_true] at ha
          cases ha; rfl
      split at ha
      · cases ha
      · cases ha; cases hg
theorem go_callO (hm : P.follows .mixedOrders = true) {n : Nat} {cf : Cf} {k : FuncId} {ea : List AV} {eobs obs' : List AObj} {n0 n1 : Nat} {r : AV} (hs : Sp P k ea eobs n0 (is r obs' n1))
    (e : (callK (adv P N n cf).1 ea eobs n0,okA n1 r && (obs'.all (okO n1) && Nat.ble n0 n1),((adv P N n cf).2 ++ esOf (adv P N n cf).1).map (·.1)) =
      (some (k,(callW (adv P N n cf).1 ea eobs).1,(callW (adv P N n cf).1 ea eobs).2,true),true,((adv P N n cf).2 ++ esOf (adv P N n cf).1).map (·.2)))
    (g : Go ρ P N D0 Q As η0 m0 (pushC N (adv P N n cf).1 ea eobs n0 r obs' n1)) : Go ρ P N D0 Q As η0 m0 cf:= by
  simp only [Prod.mk.injEq] at e
  obtain ⟨e1,e2,e3⟩:= e
  obtain ⟨he1,-⟩:= EqsOk.two e3
  refine adv_ok hm he1 ?_
  generalize (adv P N n cf).1 = c0 at *
  unfold callK callW at e1
  unfold pushC at g
  cases hp : planC c0 ea eobs with
  | none=> rw [hp] at e1; cases e1
  | some p =>
    rw [hp] at e1 g
    simp only [Option.some.injEq,Prod.mk.injEq] at e1 g
    obtain ⟨ek,eas,eobj,eok⟩:= e1
    unfold planC at hp
    split at hp
    · rename_i a ha
      split at hp
      · rename_i c hg hop
        split at hp
        · rename_i k' as hc
          unfold planB at hp
          simp only at hp
          split at hp
          · rename_i ut hut
            -- what the plan says
            have hplan:= Option.some.inj hp
            clear hp
            have pk' : p.k = k':= by rw [← hplan]
            have pas : p.as = (cvV c0.s.ob ea as).1:= by rw [← hplan]
            have pobj : p.objs = (cvOs c0.s.ob eobs ut).1:= by rw [← hplan]
            have put : p.ut = ut:= by rw [← hplan]
            have pfw : p.fw = (toksOf c0.s.ob ((cvV c0.s.ob ea as).2 ++ (cvOs c0.s.ob eobs ut).2) []).filter (fun p=> isRow p.2):= by rw [← hplan]
            have pfr : p.fr = (toksOf c0.s.ob ((cvV c0.s.ob ea as).2 ++ (cvOs c0.s.ob eobs ut).2) []).filter (fun p=> !isRow p.2):= by rw [← hplan]
            clear hplan
            simp only [okPlan,Bool.and_eq_true] at eok
            obtain ⟨o1,o2,o3,o4,o5,o6,-⟩:= eok
            simp only [Bool.and_eq_true] at e2
            obtain ⟨x1,x2,x3⟩:= e2
            have x3:= Nat.le_of_ble_eq_true x3
            have hnd:= nodN_ok o3
            have hS:= hs.2
            subst ek
            refine go_push ha hg ?_ ?_ g
            · -- the triple
              have hgd0:= none_guard ha hg
              obtain ⟨l,⟨dst,op,ty,pos,af,gd⟩,gg,sl,es⟩:= a
              simp only at hgd0
              simp only at hop hg; subst hop hg
              have hgd : gd = none:= hgd0
              subst hgd
              refine ⟨by show c0.s.nx ≤ c0.s.nx + (n1 - n0) + _; omega,fun rest Q η m f w As hr hz hn S hk=> ?_⟩
              simp only [stpC] at S hk hn ⊢
              -- rows are given up
              rw [reps_app,reps_app,List.append_assoc,List.append_assoc] at S
              have S1:= S.perm (List.perm_append_comm_assoc (reps η m p.ut) (reps η m p.fw) _)
              obtain ⟨m1,l1,K1,S2⟩:= freezeL o6 S1
              have S3:= St.ru Env.le_refl l1 S2
              have S4:= S3.perm (List.perm_append_comm_assoc (reps η m1 p.ut) (reps η m p.fr) _)
              have S5:= St.ru Env.le_refl l1 S4
              obtain ⟨K2,S6⟩:= frFacts o5 S5
              have KN : Kn c0.s.ob η m1 ((cvV c0.s.ob ea as).2 ++ (cvOs c0.s.ob eobs ut).2):= by
                intro j hj d hd
                obtain ⟨q,hf,hq,hrf,hnm⟩:= frD_datum hd
                have hmem:= toksOf_has hf hj (seen:= []) rfl
                rcases hrf with h | h
                · have : q ∈ p.fw:= by rw [pfw]; simp only [List.mem_filter]; exact ⟨hmem,h⟩
                  obtain ⟨v,y1,y2⟩:= K1 q this
                  rw [hnm] at y1; rw [hq] at y2; exact ⟨v,y1,y2⟩
                · have : q ∈ p.fr:= by
                    rw [pfr]; simp only [List.mem_filter]
                    refine ⟨hmem,?_⟩
                    cases hq2 : q.2 <;> rw [hq2] at h <;> first | rfl | cases h
                  obtain ⟨v,y1,y2⟩:= K2 q this
                  rw [hnm] at y1; rw [hq] at y2; exact ⟨v,y1,y2⟩
              obtain ⟨kn1,kn2⟩:= Kn.app KN
              have S7 : St m1 (p.objs.map (rep η m1) ++ As) w:= by
                rw [pobj]
                rw [put] at S6
                obtain ⟨x,sx,rx⟩:= S6.own
                exact ⟨S6.os,S6.tape,S6.output,x,cvOs_rep kn2 sx,rx⟩
              let φ : Nat → Nat:= fun j=> mtGet p.mt j 0
              let η1 : Env:= fun j=> if j < n0 then η (φ j) else none
              have hη1 : ∀ j,j < n0 → η (φ j) = η1 j:= fun j hj=> (if_pos hj).symm
              have S8 : St m1 (eobs.map (rep η1 m1) ++ As) w:= by
                rw [eobj] at S7
                refine S7.imp (by simp) fun i A B ha hb x hx=> ?_
                rw [List.getElem?_append] at ha hb
                simp only [List.length_map] at ha hb
                split at ha
                · rename_i q
                  rw [if_pos q] at hb
                  simp only [List.getElem?_map,Option.map_eq_some_iff] at ha hb
                  obtain ⟨o',⟨o,ho,rfl⟩,rfl⟩:= ha
                  obtain ⟨o2',ho',rfl⟩:= hb
                  rw [ho] at ho'; cases ho'
                  exact renO_of hη1 (List.all_eq_true.1 o2 o (List.mem_of_getElem? ho)) hx
                · rename_i q
                  rw [if_neg q] at hb
                  rw [ha] at hb; cases hb; exact hx
              have hdef : ∀ j,j < n0 → ∃ v,η1 j = some v:= fun j hj=> by
                have:= covers_at o4 j hj
                simp only [List.mem_map] at this
                obtain ⟨o,ho,rfl⟩:= this
                exact defs_of S8 o ho
              refine callee_run (η:= η) (m:= m) hc (by rw [← pk']; exact hs.1) hr hz (fun vs hv=> ?_) (R:= fun v w'=> ∃ (M : Mem) (η' : Env) (r' : AV) (obs2 : List AObj) (n2 : Nat),m1 ≤ M ∧ η1.le η' ∧ is r obs' n1 r' obs2 n2 ∧ (∀ n,η' n ≠ none → n < n2) ∧ Rel η' M r' v ∧ St M (obs2.map (rep η' M) ++ As) w') ?_
              · rw [← pk']
                have:= cvV_rel kn1 (hv.up Env.le_refl l1)
                rw [← pas,eas] at this
                exact hS η1 m1 As w vs (renL_of hη1 o1 this) (fun j hj=> by
                  by_cases q : j < n0
                  · exact q
                  · exact absurd (if_neg q) hj) S8
              · rintro v w2 ⟨M,η',r',obs2,n2,l2,le,⟨rfl,rfl,rfl⟩,hdom,hR,S9⟩
                let η2 : Env:= fun c=> if c0.s.nx ≤ c ∧ c < c0.s.nx + (n2 - n0) then η' (n0 + (c - c0.s.nx)) else η c
                have hle : η.le η2:= fun c u hu=> by
                  show (if _ then _ else _) = _
                  split
                  · rename_i q
                    have:= hn c q.1 (by omega)
                    rw [this] at hu; cases hu
                  · exact hu
                have hbk : ∀ j,j < n2 → ∀ u,η' j = some u → η2 (bk φ c0.s.nx n0 j) = some u:= by
                  intro j hj u hu
                  unfold bk
                  cases hb : Nat.blt j n0
                  · have hge : n0 ≤ j:= by
                      rcases Nat.lt_or_ge j n0 with q | q
                      · have : Nat.blt j n0 = true:= by simp [Nat.blt_eq,q]
                        rw [hb] at this; cases this
                      · exact q
                    simp only [cond_false]
                    show (if _ then _ else _) = _
                    rw [if_pos ⟨by omega,by omega⟩]
                    have : n0 + (c0.s.nx + (j - n0) - c0.s.nx) = j:= by omega
                    rw [this]; exact hu
                  · have hlt:= blt_lt hb
                    simp only [cond_true]
                    obtain ⟨u0,hu0⟩:= hdef j hlt
                    have:= le j u0 hu0
                    rw [hu] at this; cases this
                    have h1 : η (φ j) = some u:= by rw [hη1 j hlt]; exact hu0
                    exact hle _ _ h1
                refine hk η2 M w2 v hle (Mem.tr l1 l2) (fun c hc2=> ?_) (renA_to hbk x1 hR) ?_
                · have : (if c0.s.nx ≤ c ∧ c < c0.s.nx + (n2 - n0) then η' (n0 + (c - c0.s.nx)) else η c) ≠ none:= hc2
                  split at this
                  · rename_i q; exact .inr ⟨q.1,by omega⟩
                  · exact .inl this
                · rw [reps_app,List.append_assoc,enO_reps,List.map_append,List.append_assoc]
                  have T1 : St M ((obs2.map (renO (bk φ c0.s.nx n0))).map (rep η2 M) ++ As) w2:= by
                    refine S9.imp (by simp) fun i A B ha hb x hx=> ?_
                    rw [List.getElem?_append] at ha hb
                    simp only [List.length_map] at ha hb
                    split at ha
                    · rename_i q
                      rw [if_pos q] at hb
                      simp only [List.getElem?_map,Option.map_eq_some_iff] at ha hb
                      obtain ⟨o,ho,rfl⟩:= ha
                      obtain ⟨o2',⟨o',ho',rfl⟩,rfl⟩:= hb
                      rw [ho] at ho'; cases ho'
                      exact renO_to hbk (List.all_eq_true.1 x2 o (List.mem_of_getElem? ho)) hx
                    · rename_i q
                      rw [if_neg q] at hb
                      rw [ha] at hb; cases hb; exact hx
                  have F1 : ∀ q ∈ p.fw,∃ v,η2 q.2.nm = some v ∧ FR M (datum q.2) v:= fun q hq=> let ⟨v,a,b⟩:= K1 q hq; ⟨v,hle _ _ a,b.up l2⟩
                  have F2 : ∀ q ∈ p.fr,∃ v,η2 q.2.nm = some v ∧ FR M (datum q.2) v:= fun q hq=> let ⟨v,a,b⟩:= K2 q hq; ⟨v,hle _ _ a,b.up l2⟩
                  have T2:= closeFrs F1 (closeFrT o5 F2 T1)
                  refine T2.perm ?_
                  exact (List.Perm.append_left _ (List.perm_append_comm_assoc _ _ _)).trans (List.perm_append_comm_assoc _ _ _)
            · -- the things
              refine ⟨fun q hq=> ?_,?_,?_,fun t ht=> ?_⟩
              · simp only [stpC] at hq
                rcases List.mem_append.1 hq with h | h
                · rcases List.mem_append.1 h with h | h
                  · rw [put] at h; exact findM_sub hut q h
                  · rw [pfw] at h; exact toksOf_sub (List.mem_filter.1 h).1
                · rw [pfr] at h; exact toksOf_sub (List.mem_filter.1 h).1
              · exact hnd
              · simp only [stpC]; rw [enO_tids]; exact List.nodup_range'
              · simp only [stpC] at ht ⊢
                rw [enO_tids,List.mem_range'] at ht
                obtain ⟨i,hi,rfl⟩:= ht
                omega
          · cases hp
        · cases hp
      · cases hp
    · cases hp
end
end Go.Ax
end
section
namespace Go.Ax
open Go Go.Gw
def resT (ob : List Tok) : AV → Option (D × List Tok)
  | .d d=> some (d,[])
  | .ow n=> match find n ob with
    | some (i,.fr k d)=> bif Nat.beq k n then some (d,[(i,.fr k d)]) else none
    | _=> none
  | _=> none
theorem resT_ok {ob : List Tok} {a : AV} {d : D} {ts : List Tok} (h : resT ob a = some (d,ts)) {η : Env} {m : Mem} {As : List Ow} {w : World} {v : Value} (S : St m (reps η m ts ++ As) w) (r : Rel η m a v) : FR m d v:= by
  unfold resT at h
  split at h
  · cases h; exact r.dd
  · rename_i n
    split at h
    · rename_i i k d' hf
      cases hb : Nat.beq k n
      · rw [hb] at h; cases h
      · rw [hb] at h; cases h
        have:= Nat.eq_of_beq_eq_true hb; subst this
        obtain ⟨⟨u,h1,h2⟩,_⟩:= St.openFr S
        have:= r.ow_inv.1
        rw [h1] at this; cases this; exact h2
    · cases h
  · cases h
theorem resT_sub {ob : List Tok} {a : AV} {d : D} {ts : List Tok} (h : resT ob a = some (d,ts)) : (∀ p ∈ ts,p ∈ ob) ∧ (tids ts).Nodup:= by
  unfold resT at h
  split at h
  · cases h; exact ⟨fun _ h=> (by cases h),List.nodup_nil⟩
  · split at h
    · rename_i i k d' hf
      cases hb : Nat.beq k _
      · rw [hb] at h; cases h
      · rw [hb] at h; cases h
        exact ⟨fun p hp=> by simp at hp; subst hp; exact find_nm hf,by simp [tids]⟩
    · cases h
  · cases h
def pushVR (N : Nat) (cf : Cf) (v : AV) (rd : List Tok) : Cf :=
  match opAt cf with
  | some a=> match a.g with
    | none=> push N cf ⟨v,rd,[],[],cf.s.nx,[]⟩
    | some (g,w,p)=> push N cf ⟨.gd g w p v,rd,[],[],cf.s.nx,[]⟩
  | none=> cf
section
variable {ρ : Option Nat} {P : Program} {N : Nat} {D0 : Dw} {Q : Post} {As : List Ow} {η0 : Env} {m0 : Mem}
theorem rd_sok {s : AS} {v : AV} {es : Eqs} {rd : List Tok} (h : (∀ p ∈ rd,p ∈ s.ob) ∧ (tids rd).Nodup) : StpOk s ⟨v,rd,[],[],s.nx,es⟩:= ⟨fun x hx=> h.1 x (by simpa using hx),by simpa using h.2,by simp [tids],fun t ht=> by simp [tids] at ht⟩
theorem go_valR {cf : Cf} {a : OpAt} {v : AV} {rd : List Tok} (ha : opAt cf = some a) (he : EqsOk a.es) (hrd : (∀ p ∈ rd,p ∈ cf.s.ob) ∧ (tids rd).Nodup)
    (ht : (∀ q,a.g = some q → q.2.2 = true) → Tri ρ P N D0 a.l.toArray { a.o with guard:= none } cf.s.fz a.sl cf.s.nx ⟨v,rd,[],[],cf.s.nx,[]⟩)
    (g : Go ρ P N D0 Q As η0 m0 (pushVR N cf v rd)) : Go ρ P N D0 Q As η0 m0 cf:= by
  obtain ⟨s,md,K⟩:= cf
  have ha0:= ha
  unfold opAt at ha
  split at ha <;> first | cases ha | skip
  rename_i dr l o rest h hmd
  simp only at hmd; subst hmd
  split at ha
  · rename_i hg
    cases ha
    have e : { o with guard:= none } = o:= by obtain ⟨a,b,c,d,e,f⟩:= o; simp only at hg; subst hg; rfl
    rw [show pushVR N ⟨s,.ops dr l (o :: rest) h,K⟩ v rd = push N ⟨s,.ops dr l (o :: rest) h,K⟩ ⟨v,rd,[],[],s.nx,[]⟩ by unfold pushVR; rw [ha0]] at g
    refine go_cons ?_ (rd_sok hrd) g
    have hr : rds l.toArray o = opT o.op:= by simp [rds,hg]
    rw [hr]
    have:= ht (fun q hq=> by cases hq)
    rw [e] at this
    exact this
  · rename_i j w hg
    split at ha
    · cases ha
    · rename_i gs hd
      split at ha
      · rename_i v' hk
        cases hb : beqB v' w
        · rw [hb] at ha; cases ha
        · rw [hb] at ha
          simp only [cond_true] at ha
          cases ha
          rw [show pushVR N ⟨s,.ops dr l (o :: rest) h,K⟩ v rd = push N ⟨s,.ops dr l (o :: rest) h,K⟩ ⟨v,rd,[],[],s.nx,[]⟩ by unfold pushVR; rw [ha0]] at g
          exact go_cons (tri_kn hg hd hk hb (ht (fun q hq=> by cases hq))) (rd_sok hrd) g
      split at ha
      · cases ha
      · rename_i p ctx hi
        cases ha
        rw [show pushVR N ⟨s,.ops dr l (o :: rest) h,K⟩ v rd = push N ⟨s,.ops dr l (o :: rest) h,K⟩ ⟨.gd gs w p v,rd,[],[],s.nx,[]⟩ by unfold pushVR; rw [ha0]] at g
        refine go_cons ?_ (rd_sok hrd) g
        exact tri_es (tri_guard hg hd hi he fun hp=> ht fun q hq=> by cases hq; exact hp)
theorem gOf_of {cf : Cf} {a : OpAt} (ha : opAt cf = some a) (h : ∀ q,a.g = some q → q.2.2 = true) : gOf cf = true:= by
  unfold gOf; rw [ha]
  obtain ⟨l,o,gg,sl,es⟩:= a
  cases gg with
  | none=> rfl
  | some q=> exact h q rfl
theorem esOf_of {cf : Cf} {a : OpAt} (ha : opAt cf = some a) : esOf cf = a.es:= by unfold esOf; rw [ha]
def idxK (P : Program) (cf : Cf) : Option (D × Int × Nat × List Tok) :=
  match opAt cf with
  | some a=> match a.o.op with
    | .indexAddr t x y=> match resT cf.s.ob (aev a.sl x),toIv a.sl y,P.underlying t with
      | some (d,ts),some (_,j),some (.slice e)=> match tinf P e with
        | some i=> some (d,j,i.sz,ts)
        | none=> none
      | _,_,_=> none
    | _=> none
  | none=> none
def idxT (P : Program) (cf : Cf) : List Tok:= match idxK P cf with | some (_,_,_,ts)=> ts | none=> []
theorem go_idx (hm : P.follows .mixedOrders = true) {n k : Nat} {cf : Cf} {α : Type} {E : α → List D} {xs : List α} {j : Int} {x : α} (hE : ∀ x,(E x).length = k) (hq : gOf (adv P N n cf).1 = true → idx xs j = some x)
    (e : ((idxK P (adv P N n cf).1).map (fun r=> (r.1,r.2.1,r.2.2.1)),((adv P N n cf).2 ++ esOf (adv P N n cf).1).map (·.1)) = (some (.sl α E xs,j,k),((adv P N n cf).2 ++ esOf (adv P N n cf).1).map (·.2)))
    (g : Go ρ P N D0 Q As η0 m0 (pushVR N (adv P N n cf).1 (.d (.pf (E x))) (idxT P (adv P N n cf).1))) : Go ρ P N D0 Q As η0 m0 cf:= by
  simp only [Prod.mk.injEq] at e
  obtain ⟨e1,e3⟩:= e
  obtain ⟨he1,he2⟩:= EqsOk.two e3
  refine adv_ok hm he1 ?_
  generalize (adv P N n cf).1 = c0 at *
  cases hk : idxK P c0 with
  | none=> rw [hk] at e1; cases e1
  | some r =>
    have hT : idxT P c0 = r.2.2.2:= by unfold idxT; rw [hk]
    rw [hT] at g
    rw [hk] at e1
    simp only [Option.map_some,Option.some.injEq,Prod.mk.injEq] at e1
    obtain ⟨e1,e2,e4⟩:= e1
    unfold idxK at hk
    split at hk
    · rename_i a ha
      rw [esOf_of ha] at he2
      split at hk
      · rename_i t x' y hop
        split at hk
        · rename_i d ts kk jj e' h1 h2 h3
          split at hk
          · rename_i i hi
            cases hk
            simp only at e1 e2 e4 g
            subst e1 e2
            refine go_valR ha he2 (resT_sub h1) (fun hp=> ?_) g
            have q:= hq (gOf_of ha hp)
            obtain ⟨l,⟨dst,op,ty,pos,af,gd⟩,gg,sl,es⟩:= a
            simp only at hop ⊢; subst hop
            refine ⟨Nat.le_refl _,fun rest Q η m f w As hr hz hn S hk=> ?_⟩
            have S' : St m (reps η m ts ++ As) w:= S
            have hf:= resT_ok h1 S' (aev_rel hr x')
            letI:= gotE E k
            refine s_idx (q:= x) rfl (toIv_val h2 hr) (of_sl hf hE) q h3 (by rw [← e4]; exact tinf_sz hi) fun p cs hp hrep=> ?_
            exact hk η m w p Env.le_refl (Mem.rfl' m) (fun n h=> .inl h) (.d (.pf hp (PtC.isPt hp) hrep.1.1 hrep.1.2)) S
          · cases hk
        · cases hk
      · cases hk
    · cases hk
def dlen : D → Int
  | .sl _ _ xs=> (xs.length : Int)
  | _=> 0
def cutK (P : Program) (cf : Cf) : Option (D × Int × Int × Int × Nat × List Tok) :=
  match opAt cf with
  | some a=> match a.o.op with
    | .slice t x lo hi mx=> match resT cf.s.ob (aev a.sl x),P.underlying t with
      | some (d,ts),some (.slice e)=> match tinf P e with
        | some i =>
          let l : Option Int:= match lo with | none=> some 0 | some o=> (toIv a.sl o).map (·.2)
          let h : Option Int:= match hi with | none=> some (dlen d) | some o=> (toIv a.sl o).map (·.2)
          let m : Option Int:= match mx with | none=> h | some o=> match hi with | none=> none | some _=> (toIv a.sl o).map (·.2)
          match l,h,m with
          | some l,some h,some m=> some (d,l,h,m,i.sz,ts)
          | _,_,_=> none
        | none=> none
      | _,_=> none
    | _=> none
  | none=> none
def cutT (P : Program) (cf : Cf) : List Tok:= match cutK P cf with | some (_,_,_,_,_,ts)=> ts | none=> []
theorem go_cut (hm : P.follows .mixedOrders = true) {n k : Nat} {cf : Cf} {α : Type} {E : α → List D} {xs ys : List α} {lo hi : Int} (hE : ∀ x,(E x).length = k) (hq : gOf (adv P N n cf).1 = true → cut xs lo hi = some ys)
    (e : ((cutK P (adv P N n cf).1).map (fun r=> (r.1,r.2.1,r.2.2.1,r.2.2.2.1,r.2.2.2.2.1)),((adv P N n cf).2 ++ esOf (adv P N n cf).1).map (·.1)) = (some (.sl α E xs,lo,hi,hi,k),((adv P N n cf).2 ++ esOf (adv P N n cf).1).map (·.2)))
    (g : Go ρ P N D0 Q As η0 m0 (pushVR N (adv P N n cf).1 (.d (.sl α E ys)) (cutT P (adv P N n cf).1))) : Go ρ P N D0 Q As η0 m0 cf:= by
  simp only [Prod.mk.injEq] at e
  obtain ⟨e1,e3⟩:= e
  obtain ⟨he1,he2⟩:= EqsOk.two e3
  refine adv_ok hm he1 ?_
  generalize (adv P N n cf).1 = c0 at *
  cases hk : cutK P c0 with
  | none=> rw [hk] at e1; cases e1
  | some r =>
    have hT : cutT P c0 = r.2.2.2.2.2:= by unfold cutT; rw [hk]
    rw [hT] at g
    rw [hk] at e1
    simp only [Option.map_some,Option.some.injEq,Prod.mk.injEq] at e1
    obtain ⟨e1,e2,e4,e5,e6⟩:= e1
    unfold cutK at hk
    split at hk
    · rename_i a ha
      rw [esOf_of ha] at he2
      split at hk
      · rename_i t x' lo' hi' mx' hop
        split at hk
        · rename_i d ts e' h1 h3
          split at hk
          · rename_i i hti
            simp only at hk
            split at hk
            · rename_i l h m hl hh hmm
              cases hk
              simp only at e1 e2 e4 e5 e6 g
              subst e1 e2 e4 e5
              refine go_valR ha he2 (resT_sub h1) (fun hp=> ?_) g
              have q:= hq (gOf_of ha hp)
              obtain ⟨ll,⟨dst,op,ty,pos,af,gd⟩,gg,sl,es⟩:= a
              simp only at hop hl hh hmm ⊢; subst hop
              refine ⟨Nat.le_refl _,fun rest Q η m' f w As hr hz hn S hk=> ?_⟩
              have S' : St m' (reps η m' ts ++ As) w:= S
              have hf:= resT_ok h1 S' (aev_rel hr x')
              letI:= gotE E k
              refine s_cut rfl (of_sl hf hE) h3 (by rw [← e6]; exact tinf_sz hti) ?_ ?_ ?_ q fun v' hv'=> hk η m' w v' Env.le_refl (Mem.rfl' m') (fun n h=> .inl h) (.d (to_sl hv')) S
              · cases lo' with
                | none=> simp only [Option.some.injEq] at hl; exact .inl ⟨rfl,hl.symm⟩
                | some o =>
                  simp only [Option.map_eq_some_iff] at hl
                  obtain ⟨⟨kk,jj⟩,hj,rfl⟩:= hl
                  exact .inr ⟨kk,by simp only [Option.map_some]; rw [toIv_val hj hr]⟩
              · cases hi' with
                | none=> simp only [Option.some.injEq] at hh; exact .inl ⟨rfl,hh.symm⟩
                | some o =>
                  simp only [Option.map_eq_some_iff] at hh
                  obtain ⟨⟨kk,jj⟩,hj,rfl⟩:= hh
                  exact .inr ⟨kk,by simp only [Option.map_some]; rw [toIv_val hj hr]⟩
              · cases mx' with
                | none=> exact .inl rfl
                | some o =>
                  cases hi' with
                  | none=> simp at hmm
                  | some o2 =>
                    simp only [Option.map_eq_some_iff] at hmm
                    obtain ⟨⟨kk,jj⟩,hj,rfl⟩:= hmm
                    exact .inr ⟨by simp,kk,by simp only [Option.map_some]; rw [toIv_val hj hr]⟩
            · cases hk
          · cases hk
        · cases hk
      · cases hk
    · cases hk
def nzD : D → Prop
  | .i n=> n ≠ 0
  | .u n=> n ≠ 0
  | _=> False
def quoK (cf : Cf) : Option (AV × D) :=
  match opAt cf with
  | some a=> match a.o.op with
    | .binOp op _ x y _=> match quoV op (aev a.sl x) (aev a.sl y) with
      | some r=> some (aev a.sl y,r)
      | none=> none
    | _=> none
  | none=> none
def shK (cf : Cf) : Option (Int × D) :=
  match opAt cf with
  | some a=> match a.o.op with
    | .binOp op _ x y _=> match toIv a.sl y with
      | some (k,n)=> match shV op (aev a.sl x) k n with
        | some r=> some (n,r)
        | none=> none
      | none=> none
    | _=> none
  | none=> none
theorem go_sh (hm : P.follows .mixedOrders = true) {n : Nat} {cf : Cf} {c : Int} {r : D} (hq : gOf (adv P N n cf).1 = true → 0 ≤ c)
    (e : (shK (adv P N n cf).1,((adv P N n cf).2 ++ esOf (adv P N n cf).1).map (·.1)) = (some (c,r),((adv P N n cf).2 ++ esOf (adv P N n cf).1).map (·.2)))
    (g : Go ρ P N D0 Q As η0 m0 (pushVR N (adv P N n cf).1 (.d r) [])) : Go ρ P N D0 Q As η0 m0 cf:= by
  simp only [Prod.mk.injEq] at e
  obtain ⟨e1,e3⟩:= e
  obtain ⟨he1,he2⟩:= EqsOk.two e3
  refine adv_ok hm he1 ?_
  generalize (adv P N n cf).1 = c0 at *
  unfold shK at e1
  split at e1
  · rename_i a ha
    rw [esOf_of ha] at he2
    split at e1
    · rename_i op t x y t' hop
      split at e1
      · rename_i k nn hy
        split at e1
        · rename_i r' hr'
          simp only [Option.some.injEq,Prod.mk.injEq] at e1
          obtain ⟨rfl,rfl⟩:= e1
          refine go_valR (rd:= []) ha he2 ⟨fun _ h=> (by cases h),List.nodup_nil⟩ (fun hp=> ?_) g
          have q:= hq (gOf_of ha hp)
          obtain ⟨l,⟨dst,op',ty,pos,af,gd⟩,gg,sl,es⟩:= a
          simp only at hop hy hr' ⊢; subst hop
          refine ⟨Nat.le_refl _,fun rest Q η m f w As hr hz hn S hk=> ?_⟩
          exact sh_ok hr' (aev_rel hr x) (toIv_val hy hr) q fun u hu=> hk η m w u Env.le_refl (Mem.rfl' m) (fun n h=> .inl h) hu S
        · cases e1
      · cases e1
    · cases e1
  · cases e1
end
end Go.Ax
end
section
namespace Go.Ax
open Go Go.Gw
theorem plan_ok {ob : List Tok} {k : FuncId} {as ea : List AV} {eobs : List AObj} {p : Plan} (hp : planB ob k as ea eobs = some p) {η : Env} {m : Mem} {w : World} {As : List Ow} {vs : List Value}
    (o5 : p.fr.all (fun p=> isFr p.2) = true) (o6 : p.fw.all (fun p=> isRow p.2) = true) (hv : RelL η m as vs) (S : St m (reps η m ((p.ut ++ p.fw) ++ p.fr) ++ As) w) :
    ∃ m1,m ≤ m1 ∧ RelL η m1 p.as vs ∧ St m1 (p.objs.map (rep η m1) ++ As) w:= by
  unfold planB at hp
  simp only at hp
  split at hp
  · rename_i ut hut
    have hplan:= Option.some.inj hp
    clear hp
    have pas : p.as = (cvV ob ea as).1:= by rw [← hplan]
    have pobj : p.objs = (cvOs ob eobs ut).1:= by rw [← hplan]
    have put : p.ut = ut:= by rw [← hplan]
    have pfw : p.fw = (toksOf ob ((cvV ob ea as).2 ++ (cvOs ob eobs ut).2) []).filter (fun p=> isRow p.2):= by rw [← hplan]
    have pfr : p.fr = (toksOf ob ((cvV ob ea as).2 ++ (cvOs ob eobs ut).2) []).filter (fun p=> !isRow p.2):= by rw [← hplan]
    clear hplan
    rw [reps_app,reps_app,List.append_assoc,List.append_assoc] at S
    have S1:= S.perm (List.perm_append_comm_assoc (reps η m p.ut) (reps η m p.fw) _)
    obtain ⟨m1,l1,K1,S2⟩:= freezeL o6 S1
    have S3:= St.ru Env.le_refl l1 S2
    have S4:= S3.perm (List.perm_append_comm_assoc (reps η m1 p.ut) (reps η m p.fr) _)
    have S5:= St.ru Env.le_refl l1 S4
    obtain ⟨K2,S6⟩:= frFacts o5 S5
    have KN : Kn ob η m1 ((cvV ob ea as).2 ++ (cvOs ob eobs ut).2):= by
      intro j hj d hd
      obtain ⟨q,hf,hq,hrf,hnm⟩:= frD_datum hd
      have hmem:= toksOf_has hf hj (seen:= []) rfl
      rcases hrf with h | h
      · have : q ∈ p.fw:= by rw [pfw]; simp only [List.mem_filter]; exact ⟨hmem,h⟩
        obtain ⟨v,y1,y2⟩:= K1 q this
        rw [hnm] at y1; rw [hq] at y2; exact ⟨v,y1,y2⟩
      · have : q ∈ p.fr:= by
          rw [pfr]; simp only [List.mem_filter]
          refine ⟨hmem,?_⟩
          cases hq2 : q.2 <;> rw [hq2] at h <;> first | rfl | cases h
        obtain ⟨v,y1,y2⟩:= K2 q this
        rw [hnm] at y1; rw [hq] at y2; exact ⟨v,y1,y2⟩
    obtain ⟨kn1,kn2⟩:= Kn.app KN
    refine ⟨m1,l1,by rw [pas]; exact cvV_rel kn1 (hv.up Env.le_refl l1),?_⟩
    rw [pobj]
    rw [put] at S6
    obtain ⟨x,sx,rx⟩:= S6.own
    exact ⟨S6.os,S6.tape,S6.output,x,cvOs_rep kn2 sx,rx⟩
  · cases hp
theorem plan_sub {ob : List Tok} {k : FuncId} {as ea : List AV} {eobs : List AObj} {p : Plan} (hp : planB ob k as ea eobs = some p) : ∀ q ∈ (p.ut ++ p.fw) ++ p.fr,q ∈ ob:= by
  unfold planB at hp
  simp only at hp
  split at hp
  · rename_i ut hut
    have hplan:= Option.some.inj hp
    intro q hq
    rw [← hplan] at hq
    simp only at hq
    rcases List.mem_append.1 hq with h | h
    · rcases List.mem_append.1 h with h | h
      · exact findM_sub hut q h
      · exact toksOf_sub (List.mem_filter.1 h).1
    · exact toksOf_sub (List.mem_filter.1 h).1
  · cases hp
def asV (s t : AS) : List AV:= t.sl.map fun p=> get s.sl p.1
def vwP (s t : AS) : Option Plan:= planB s.ob 0 (asV s t) (t.sl.map (·.2)) (t.ob.map (·.2))
def fixB (mt : Mt) : Nat → Bool
  | 0=> true
  | n + 1=> Nat.beq (mtGet mt n n) n && fixB mt n
theorem fixB_at {mt : Mt} : ∀ {n : Nat},fixB mt n = true → ∀ j,j < n → mtGet mt j j = j
  | 0,_,j,h=> by omega
  | n + 1,h,j,hj=> by
    simp only [fixB,Bool.and_eq_true] at h
    by_cases e : j = n
    · subst e; exact Nat.eq_of_beq_eq_true h.1
    · exact fixB_at h.2 j (by omega)
def ltAll (n : Nat) : List Nat → Bool
  | []=> true
  | a :: l=> Nat.blt a n && ltAll n l
theorem ltAll_at {n : Nat} : ∀ {l : List Nat},ltAll n l = true → ∀ t ∈ l,t < n
  | [],_,_,h=> by cases h
  | a :: l,h,t,ht=> by
    simp only [ltAll,Bool.and_eq_true] at h
    rcases List.mem_cons.1 ht with e | e
    · subst e; exact blt_lt h.1
    · exact ltAll_at h.2 t e
def okVw (p : Plan) (t : AS) (n0 : Nat) : Bool :=
  (t.sl.map (·.2)).all (okA t.nx) && ((t.ob.map (·.2)).all (okO t.nx) && (nodN (tids ((p.ut ++ p.fw) ++ p.fr)) && (fixB p.mt n0 && (Nat.ble n0 t.nx && (p.fr.all (fun p=> isFr p.2) && (p.fw.all (fun p=> isRow p.2) && (nodN (tids t.ob) && ltAll t.nx (tids t.ob))))))))
def isNilF : Fz → Bool
  | []=> true
  | _=> false
def vwL (s t : AS) (n0 : Nat) : Option (List AV × List AObj × Bool × Bool) :=
  match vwP s t with
  | some p=> some (p.as,p.objs,okVw p t n0,isNilF t.fz)
  | none=> none
def vwR (s t : AS) : Option (List AV × List AObj × Bool × Bool) :=
  match vwP s t with
  | some p=> some ((t.sl.map (·.2)).map (renA fun j=> mtGet p.mt j j),(t.ob.map (·.2)).map (renO fun j=> mtGet p.mt j j),true,true)
  | none=> none
theorem get_all {η : Env} {m : Mem} {f : Fr} : ∀ {l : Sl},RelL η m (l.map (·.2)) (l.map fun p=> f p.1) → ∀ t,Rel η m (get l t) (f t)
  | [],_,t=> .any _
  | p :: l,h,t=> by
    obtain ⟨v,us,e,h1,h2⟩:= h.cons_inv
    simp only [List.map_cons,List.cons.injEq] at e
    obtain ⟨rfl,rfl⟩:= e
    show Rel η m (bif Nat.beq p.1 t then p.2 else get l t) (f t)
    cases hb : Nat.beq p.1 t
    · exact get_all h2 t
    · have:= Nat.eq_of_beq_eq_true hb; rw [this] at h1; exact h1
theorem view_ok {s t : AS} {n0 : Nat} (e : vwL s t n0 = vwR s t) (hne : (vwP s t).isSome = true) {As : List Ow} {η0 η : Env} {m : Mem} {f : Fr} {w : World} (hd : ∀ n,η0 n ≠ none → n < n0) (hle : η0.le η) (g : Gm As s η m f w) :
    ∃ η' m',m ≤ m' ∧ η0.le η' ∧ Gm As t η' m' f w:= by
  cases hp : vwP s t with
  | none=> rw [hp] at hne; cases hne
  | some p =>
    unfold vwL vwR at e
    rw [hp] at e
    simp only [Option.some.injEq,Prod.mk.injEq] at e
    obtain ⟨e1,e2,e3,e4⟩:= e
    simp only [okVw,Bool.and_eq_true] at e3
    obtain ⟨o1,o2,o3,o4,o5,o6,o7,o8,o9⟩:= e3
    have S:= St.rp g.st (less_perm g.wf.nd (nodN_ok o3) (plan_sub hp))
    rw [reps_app,List.append_assoc] at S
    have hv : RelL η m (asV s t) (t.sl.map fun p=> f p.1):= ⟨by simp [asV],fun k c u a b=> by
      simp only [asV,List.getElem?_map,Option.map_eq_some_iff] at a b
      obtain ⟨x,hx,rfl⟩:= a
      obtain ⟨y,hy,rfl⟩:= b
      rw [hx] at hy; cases hy
      exact g.slr _⟩
    obtain ⟨m1,l1,r1,S1⟩:= plan_ok hp o6 o7 hv S
    rw [e1] at r1
    rw [e2] at S1
    let φ : Nat → Nat:= fun j=> mtGet p.mt j j
    let η1 : Env:= fun j=> if j < t.nx then η (φ j) else none
    have hη1 : ∀ j,j < t.nx → η (φ j) = η1 j:= fun j hj=> (if_pos hj).symm
    -- the rest is let go
    have S2:= S1.perm (show ((t.ob.map (·.2)).map (renO φ)).map (rep η m1) ++ (reps η m (less (tids (p.ut ++ p.fw ++ p.fr)) s.ob) ++ As) |>.Perm (reps η m (less (tids (p.ut ++ p.fw ++ p.fr)) s.ob) ++ (((t.ob.map (·.2)).map (renO φ)).map (rep η m1) ++ As)) from List.perm_append_comm_assoc _ _ _)
    obtain ⟨m2,l2,S3⟩:= St.dropN (reps η m (less (tids (p.ut ++ p.fw ++ p.fr)) s.ob)).length S2
    rw [List.drop_left] at S3
    have S4 : St m2 (reps η1 m2 t.ob ++ As) w:= by
      have S3':= St.mapUp (obs:= (t.ob.map (·.2)).map (renO φ)) Env.le_refl l2 S3
      refine S3'.imp (by simp [reps]) fun i A B ha hb x hx=> ?_
      rw [List.getElem?_append] at ha hb
      simp only [List.length_map,reps] at ha hb
      split at ha
      · rename_i q
        rw [if_pos q] at hb
        simp only [List.getElem?_map,Option.map_eq_some_iff] at ha hb
        obtain ⟨o',⟨o,⟨tk,htk,rfl⟩,rfl⟩,rfl⟩:= ha
        obtain ⟨tk',htk',rfl⟩:= hb
        rw [htk] at htk'; cases htk'
        exact renO_of hη1 (List.all_eq_true.1 o2 tk.2 (List.mem_map_of_mem (List.mem_of_getElem? htk))) hx
      · rename_i q
        rw [if_neg q] at hb
        rw [ha] at hb; cases hb; exact hx
    refine ⟨η1,m2,Mem.tr l1 l2,fun k v hv=> ?_,get_all (renL_of hη1 o1 (r1.up Env.le_refl l2)),?_,fun k hk=> ?_,S4,nodN_ok o8,fun x hx=> ltAll_at o9 x hx⟩
    · have hlt:= hd k (by rw [hv]; simp)
      show (if _ then _ else _) = _
      rw [if_pos (Nat.lt_of_lt_of_le hlt (Nat.le_of_ble_eq_true o5))]
      show η (mtGet p.mt k k) = some v
      rw [fixB_at o4 k hlt]; exact hle _ _ hv
    · intro k d hk
      cases hz : t.fz with
      | nil=> rw [hz] at hk; cases hk
      | cons _ _=> rw [hz] at e4; cases e4
    · have : (if k < t.nx then η (φ k) else none) ≠ none:= hk
      split at this
      · assumption
      · exact absurd rfl this
def Rl (As : List Ow) (η0 : Env) (m0 : Mem) {ι : Type} (J : ι → AS) (ok : ι → Prop) : Fr → World → Prop :=
  fun f w=> ∃ x,ok x ∧ ∃ η m,η0.le η ∧ m0 ≤ m ∧ Gm As (J x) η m f w
def backK (cf : Cf) : Option (Fr → World → Prop) :=
  match cf.md,cf.K with
  | .pop,.ctn J :: _=> some J
  | _,_=> none
section
variable {ρ : Option Nat} {P : Program} {N : Nat} {D0 : Dw} {Q : Post} {As : List Ow} {η0 : Env} {m0 : Mem}
def ctnC (cf : Cf) (J : Fr → World → Prop) : Cf:= ⟨cf.s,cf.md,.ctn J :: cf.K⟩
def isCode (cf : Cf) : Bool:= match cf.md with | .code _=> true | _=> false
theorem go_join (hm : P.follows .mixedOrders = true) {n : Nat} {cf : Cf} {ι : Type} (J : ι → AS) (ok : ι → Prop) (e : (isCode (adv P N n cf).1,((adv P N n cf).2).map (·.1)) = (true,((adv P N n cf).2).map (·.2)))
    (h1 : Go ρ P N D0 Q As η0 m0 (ctnC (adv P N n cf).1 (Rl As η0 m0 J ok))) (h2 : ∀ x,ok x → Go ρ P N D0 Q As η0 m0 ⟨J x,.pop,(adv P N n cf).1.K⟩) : Go ρ P N D0 Q As η0 m0 cf:= by
  simp only [Prod.mk.injEq] at e
  obtain ⟨e1,e3⟩:= e
  refine adv_ok hm (.of e3) ?_
  generalize (adv P N n cf).1 = c0 at *
  obtain ⟨s,md,K⟩:= c0
  unfold isCode at e1
  split at e1
  · rename_i c hmd
    simp only at hmd; subst hmd
    intro η m f w a1 a2 g
    refine wpc_mono (fun ex f' w' q=> ?_) (h1 η m f w a1 a2 g)
    cases ex with
    | normal =>
      obtain ⟨x,hx,η',m',b1,b2,g'⟩:= q
      exact h2 x hx η' m' f' w' b1 b2 g'
    | _=> exact q
  · cases e1
def loopOf (cf : Cf) : Option Code:= match cf.md with | .code (.loop c)=> some c | _=> none
def rndC (cf : Cf) (s : AS) (J : Fr → World → Prop) : Cf :=
  match cf.md with
  | .code (.loop c)=> ⟨s,.code c,.ctn J :: cf.K⟩
  | _=> cf
theorem go_loop (hm : P.follows .mixedOrders = true) {n n0 : Nat} {cf : Cf} {ι : Type} (J : ι → AS) (pre : ι → Prop) (μ : ι → Nat) (x0 : ι) (hx : pre x0) (hd : ∀ n,η0 n ≠ none → n < n0)
    (e : ((loopOf (adv P N n cf).1).isSome,vwL (adv P N n cf).1.s (J x0) n0,(vwP (adv P N n cf).1.s (J x0)).isSome,((adv P N n cf).2).map (·.1)) = (true,vwR (adv P N n cf).1.s (J x0),true,((adv P N n cf).2).map (·.2)))
    (h : ∀ x,pre x → Go ρ P N D0 Q As η0 m0 (rndC (adv P N n cf).1 (J x) (Rl As η0 m0 J fun y=> pre y ∧ μ y < μ x))) : Go ρ P N D0 Q As η0 m0 cf:= by
  simp only [Prod.mk.injEq] at e
  obtain ⟨e1,e2,e4,e3⟩:= e
  refine adv_ok hm (.of e3) ?_
  generalize (adv P N n cf).1 = c0 at *
  obtain ⟨s,md,K⟩:= c0
  cases md with
  | code c =>
    cases c with
    | loop c =>
      intro η m f w a1 a2 g
      obtain ⟨η',m',l,le,g'⟩:= view_ok e2 e4 hd a1 g
      refine wpc_loop (fun k f w=> ∃ x,(pre x ∧ μ x = k) ∧ ∃ η m,η0.le η ∧ m0 ≤ m ∧ Gm As (J x) η m f w) (μ x0) ⟨x0,⟨hx,rfl⟩,η',m',le,Mem.tr a2 l,g'⟩ ?_
      rintro k f w ⟨x,⟨hp,rfl⟩,η2,m2,b1,b2,g2⟩
      refine wpc_mono (fun ex f' w' q=> ?_) (h x hp η2 m2 f w b1 b2 g2)
      cases ex with
      | normal =>
        obtain ⟨y,⟨hy,hlt⟩,η3,m3,c1,c2,g3⟩:= q
        exact ⟨μ y,hlt,y,⟨hy,rfl⟩,η3,m3,c1,c2,g3⟩
      | _=> exact q
    | _=> cases e1
  | _=> cases e1
end
def atBlk (id : Nat) (cf : Cf) : Bool:= match cf.md with | .code (.block i _)=> Nat.beq i id | _=> false
def advU (id : Nat) (P : Program) (N : Nat) : Nat → Cf → Cf × Eqs
  | 0,cf=> (cf,[])
  | n + 1,cf=> bif atBlk id cf then (cf,[]) else match nxt P N cf with
    | some r=> let q:= advU id P N n r.1; (q.1,r.2 ++ q.2)
    | none=> (cf,[])
section
variable {ρ : Option Nat} {P : Program} {N : Nat} {D0 : Dw} {Q : Post} {As : List Ow} {η0 : Env} {m0 : Mem}
theorem advU_ok {id : Nat} (hm : P.follows .mixedOrders = true) : ∀ {n : Nat} {cf : Cf},EqsOk (advU id P N n cf).2 → Go ρ P N D0 Q As η0 m0 (advU id P N n cf).1 → Go ρ P N D0 Q As η0 m0 cf
  | 0,_,_,g=> g
  | n + 1,cf,he,g=> by
    cases hb : atBlk id cf with
    | true =>
      have e : advU id P N (n + 1) cf = (cf,[]):= by simp only [advU,hb,cond_true]
      rw [e] at g; exact g
    | false =>
      cases hr : nxt P N cf with
      | none =>
        have e : advU id P N (n + 1) cf = (cf,[]):= by simp only [advU,hr,hb,cond_false]
        rw [e] at g; exact g
      | some r =>
        have e : advU id P N (n + 1) cf = ((advU id P N n r.1).1,r.2 ++ (advU id P N n r.1).2):= by simp only [advU,hr,hb,cond_false]
        rw [e] at g he
        have he':= EqsOk.app.1 he
        exact nxt_ok hm hr he'.1 (advU_ok hm (n:= n) he'.2 g)
theorem go_joinU {id : Nat} (hm : P.follows .mixedOrders = true) {n : Nat} {cf : Cf} {ι : Type} (J : ι → AS) (ok : ι → Prop) (e : (isCode (advU id P N n cf).1,((advU id P N n cf).2).map (·.1)) = (true,((advU id P N n cf).2).map (·.2)))
    (h1 : Go ρ P N D0 Q As η0 m0 (ctnC (advU id P N n cf).1 (Rl As η0 m0 J ok))) (h2 : ∀ x,ok x → Go ρ P N D0 Q As η0 m0 ⟨J x,.pop,(advU id P N n cf).1.K⟩) : Go ρ P N D0 Q As η0 m0 cf:= by
  simp only [Prod.mk.injEq] at e
  obtain ⟨e1,e3⟩:= e
  refine advU_ok hm (.of e3) ?_
  refine go_join (n:= 0) hm J ok ?_ h1 h2
  simp only [adv,e1,List.map_nil]
end
structure Bk (As : List Ow) (η0 : Env) (m0 : Mem) {ι : Type} (J : ι → AS) (ok : ι → Prop) (Jp : Fr → World → Prop) : Prop where
  h : ∀ f w,Rl As η0 m0 J ok f w → Jp f w
section
variable {ρ : Option Nat} {P : Program} {N : Nat} {D0 : Dw} {Q : Post} {As : List Ow} {η0 : Env} {m0 : Mem}
theorem go_backB (hm : P.follows .mixedOrders = true) {n n0 : Nat} {cf : Cf} {ι : Type} {J : ι → AS} {ok : ι → Prop} {Jp : Fr → World → Prop} (bk : Bk As η0 m0 J ok Jp) (x : ι) (hx : ok x) (hd : ∀ n,η0 n ≠ none → n < n0)
    (e : (backK (adv P N n cf).1,vwL (adv P N n cf).1.s (J x) n0,(vwP (adv P N n cf).1.s (J x)).isSome,((adv P N n cf).2).map (·.1)) = (some Jp,vwR (adv P N n cf).1.s (J x),true,((adv P N n cf).2).map (·.2))) :
    Go ρ P N D0 Q As η0 m0 cf:= by
  simp only [Prod.mk.injEq] at e
  obtain ⟨e1,e2,e4,e3⟩:= e
  refine adv_ok hm (.of e3) ?_
  generalize (adv P N n cf).1 = c0 at *
  obtain ⟨s,md,K⟩:= c0
  unfold backK at e1
  split at e1
  · rename_i J' K' hmd hK
    simp only at hmd hK; subst hmd hK
    cases e1
    intro η m f w a1 a2 g
    obtain ⟨η',m',l,le,g'⟩:= view_ok e2 e4 hd a1 g
    exact nrm (bk.h _ _ ⟨x,hx,η',m',le,Mem.tr a2 l,g'⟩)
  · cases e1
def lenK (s : AS) (t : Nat) : Option D :=
  match get s.sl t with
  | .d d=> some d
  | .ow n=> frD s.ob n
  | _=> none
theorem lenK_le {s : AS} {η : Env} {m : Mem} {f : Fr} {w : World} {t : Nat} {α : Type} {E : α → List D} {xs : List α} (h : lenK s t = some (.sl α E xs)) (g : Gm As s η m f w) : xs.length ≤ 9223372036854775807:= by
  have r:= g.slr t
  have of : ∀ {m : Mem} {v : Value},FR m (.sl α E xs) v → xs.length ≤ 9223372036854775807:= fun h=> by cases h with | sl h=> exact h.2.1
  unfold lenK at h
  split at h
  · rename_i d hd
    cases h
    rw [hd] at r
    exact of r.dd
  · rename_i n hn
    obtain ⟨q,hf,hq,hrf,hnm⟩:= frD_datum h
    have hmem:= find_nm hf
    obtain ⟨l1,l2,el⟩:= List.append_of_mem hmem
    have S' : St m (reps η m (q :: (l1 ++ l2)) ++ As) w:= St.rp g.st (by rw [el]; exact List.perm_middle)
    obtain ⟨i,o⟩:= q
    cases o with
    | box=> rcases hrf with h | h <;> cases h
    | hp=> rcases hrf with h | h <;> cases h
    | row k sz α' E' xs' =>
      simp only [datum] at hq
      cases hq
      obtain ⟨v,cs,h1,h2,h3,h4,S2⟩:= St.openRow S'
      obtain ⟨⟨a,c,rfl⟩,_⟩:= St.rowVal (i:= 0) S2 rfl
      obtain ⟨p,hp,_⟩:= St.take' S2 (i:= 0) rfl
      rcases hp with ⟨_,_,h0,_⟩ | ⟨b,cap,l,e,fr,_,_,_,_,_,h6,h7,_⟩
      · omega
      · have : maxLen ≤ 9223372036854775807:= by decide
        omega
    | fr k d =>
      simp only [datum] at hq
      cases hq
      obtain ⟨⟨v,h1,h2⟩,_⟩:= St.openFr S'
      exact of h2
  · cases h
theorem go_len {id : Nat} (hm : P.follows .mixedOrders = true) {n : Nat} {cf : Cf} {α : Type} {E : α → List D} {xs : List α} (t : Nat)
    (e : (isCode (advU id P N n cf).1,lenK (advU id P N n cf).1.s t,((advU id P N n cf).2).map (·.1)) = (true,some (.sl α E xs),((advU id P N n cf).2).map (·.2)))
    (h : xs.length ≤ 9223372036854775807 → Go ρ P N D0 Q As η0 m0 (advU id P N n cf).1) : Go ρ P N D0 Q As η0 m0 cf:= by
  simp only [Prod.mk.injEq] at e
  obtain ⟨e1,e2,e3⟩:= e
  refine advU_ok hm (.of e3) ?_
  generalize (advU id P N n cf).1 = c0 at *
  obtain ⟨s,md,K⟩:= c0
  unfold isCode at e1
  split at e1
  · rename_i c hmd
    simp only at hmd; subst hmd
    exact fun η m f w a1 a2 g=> h (lenK_le e2 g) η m f w a1 a2 g
  · cases e1
def isNilA : AV → Bool
  | .d (.v (.slice none 0 0))=> true
  | _=> false
def nilS (s : AS) (t sz : Nat) (α : Type) (E : α → List D) : AS:= ⟨(t,.ow s.nx) :: s.sl,s.ob ++ [(s.nx,.row s.nx sz α E [])],s.fz,s.nx + 1⟩
theorem nil_gm {s : AS} {η : Env} {m : Mem} {f : Fr} {w : World} {t sz : Nat} {α : Type} {E : α → List D} (h : isNilA (get s.sl t) = true) (g : Gm As s η m f w) :
    ∃ η',η.le η' ∧ Gm As (nilS s t sz α E) η' m f w:= by
  have r:= g.slr t
  have hv : f t = .slice none 0 0:= by
    generalize get s.sl t = a at *
    unfold isNilA at h
    split at h
    · have:= r.dd; generalize f t = u at this; cases this; rfl
    · cases h
  have h0 : η s.nx = none:= by
    cases q : η s.nx with
    | none=> rfl
    | some v=> have:= g.dom s.nx (by rw [q]; simp); omega
  have le:= Env.le_put (v:= .slice none 0 0) h0
  refine ⟨η.put s.nx (.slice none 0 0),le,fun u=> ?_,g.fz.up le (Mem.rfl' m),fun n hn=> ?_,?_,?_,fun x hx=> ?_⟩
  · show Rel _ m (bif Nat.beq t u then .ow s.nx else get s.sl u) (f u)
    cases hb : Nat.beq t u
    · exact (g.slr u).up le (Mem.rfl' m)
    · have:= Nat.eq_of_beq_eq_true hb; subst this
      rw [hv]; exact .ow Env.put_self rfl
  · rcases Env.put_dom hn with q | q
    · exact Nat.lt_succ_of_lt (g.dom n q)
    · subst q; exact Nat.lt_succ_self _
  · have S:= St.rowNil (St.ru le (Mem.rfl' m) g.st) sz
    have T:= St.closeRow (η:= η.put s.nx (.slice none 0 0)) (n:= s.nx) (E:= E) (xs:= []) Env.put_self rfl (by simpa using FRL.nil) (fun _ h=> by cases h) S
    show St m (reps _ m (s.ob ++ [_]) ++ As) w
    rw [reps_app,List.append_assoc]
    exact T.perm (List.perm_middle.symm)
  · show (tids (s.ob ++ [_])).Nodup
    simp only [tids,List.map_append,List.map_cons,List.map_nil]
    refine List.nodup_append.2 ⟨g.wf.nd,by simp,fun a ha b hb e=> ?_⟩
    simp at hb
    have:= g.wf.lt a ha
    omega
  · show x < s.nx + 1
    have hx' : x ∈ tids (s.ob ++ [(s.nx,AObj.row s.nx sz α E [])]):= hx
    simp only [tids,List.map_append,List.map_cons,List.map_nil,List.mem_append,List.mem_singleton] at hx'
    rcases hx' with q | q
    · exact Nat.lt_succ_of_lt (g.wf.lt x q)
    · omega
def plainMd (cf : Cf) : Bool:= match cf.md with | .ops ..=> false | _=> true
def nilC (cf : Cf) (t sz : Nat) (α : Type) (E : α → List D) : Cf:= ⟨nilS cf.s t sz α E,cf.md,cf.K⟩
theorem nil_go {cf : Cf} {t sz : Nat} {α : Type} {E : α → List D} (hp : plainMd cf = true) (h : isNilA (get cf.s.sl t) = true) (g : Go ρ P N D0 Q As η0 m0 (nilC cf t sz α E)) : Go ρ P N D0 Q As η0 m0 cf:= by
  obtain ⟨s,md,K⟩:= cf
  have key : ∀ {R : Fr → World → Prop},Al As η0 m0 (nilS s t sz α E) R → Al As η0 m0 s R:= fun k η m f w a1 a2 gm =>
    let ⟨η',le,gm'⟩:= nil_gm h gm; k η' m f w (Env.le_tr a1 le) a2 gm'
  cases md with
  | ops=> cases hp
  | code c=> exact key g
  | pop=> exact key g
  | ext id=> exact key g
  | ret=> exact key g
theorem go_nil (hm : P.follows .mixedOrders = true) {n : Nat} {cf : Cf} {α : Type} {E : α → List D} (t sz : Nat)
    (e : (plainMd (adv P N n cf).1,isNilA (get (adv P N n cf).1.s.sl t),((adv P N n cf).2).map (·.1)) = (true,true,((adv P N n cf).2).map (·.2)))
    (g : Go ρ P N D0 Q As η0 m0 (nilC (adv P N n cf).1 t sz α E)) : Go ρ P N D0 Q As η0 m0 cf:= by
  simp only [Prod.mk.injEq] at e
  exact adv_ok hm (.of e.2.2) (nil_go e.1 e.2.1 g)
theorem go_nilU {id : Nat} (hm : P.follows .mixedOrders = true) {n : Nat} {cf : Cf} {α : Type} {E : α → List D} (t sz : Nat)
    (e : (plainMd (advU id P N n cf).1,isNilA (get (advU id P N n cf).1.s.sl t),((advU id P N n cf).2).map (·.1)) = (true,true,((advU id P N n cf).2).map (·.2)))
    (g : Go ρ P N D0 Q As η0 m0 (nilC (advU id P N n cf).1 t sz α E)) : Go ρ P N D0 Q As η0 m0 cf:= by
  simp only [Prod.mk.injEq] at e
  exact advU_ok hm (.of e.2.2) (nil_go e.1 e.2.1 g)
end
end Go.Ax
end
section
namespace Go.Ax
open Go Go.Gw
def seqB : Nat → List (Nat × Operand) → Bool
  | _,[]=> true
  | k,p :: l=> Nat.beq p.1 k && seqB (k + 1) l
theorem seqB_eq : ∀ {l : List (Nat × Operand)} {k : Nat},seqB k l = true → l = ((l.map (·.2)).zipIdx k).map fun p=> (p.2,p.1)
  | [],_,_=> rfl
  | (i,o) :: l,k,h=> by
    simp only [seqB,Bool.and_eq_true] at h
    have e : i = k:= Nat.eq_of_beq_eq_true h.1
    subst e
    simp only [List.map_cons,List.zipIdx_cons]
    rw [← seqB_eq h.2]
def cellsP (fz : Fz) (sl : Sl) (sz : Nat) : List (Nat × Operand) → Option (List AV)
  | []=> some []
  | p :: l=> match cellsA (rv fz sl p.2),cellsP fz sl sz l with
    | some c,some r=> bif Nat.beq c.length sz then some (c ++ r) else none
    | _,_=> none
theorem cellsP_ok {fz : Fz} {sl : Sl} {sz : Nat} {η : Env} {m : Mem} {f : Fr} (hr : ∀ t,Rel η m (get sl t) (f t)) (hz : fzOk η m fz) : ∀ {l : List (Nat × Operand)} {cs : List AV},cellsP fz sl sz l = some cs →
    ∃ cls : List (List Value),CellsAre ((l.map (·.2)).map (ev f)) cls ∧ lenB sz cls = true ∧ RelL η m cs cls.flatten
  | [],cs,h=> by cases h; exact ⟨[],trivial,rfl,.nil⟩
  | p :: l,cs,h=> by
    unfold cellsP at h
    split at h
    · rename_i c r h1 h2
      cases hb : Nat.beq c.length sz
      · rw [hb] at h; cases h
      · rw [hb] at h; cases h
        obtain ⟨cls,a1,a2,a3⟩:= cellsP_ok hr hz h2
        obtain ⟨b1,b2⟩:= cells_rel h1 (rv_rel hz hr p.2)
        refine ⟨(ev f p.2).cells.toList :: cls,⟨by simp,a1⟩,?_,?_⟩
        · show (Nat.beq _ sz && lenB sz cls) = true
          rw [a2,← b1.1,hb]; rfl
        · rw [List.flatten_cons]; exact b1.append a3
    · cases h
def litK (P : Program) (cf : Cf) : Option (List AV × Nat × Nat × Bool) :=
  match opAt cf with
  | some a=> match a.g,a.o.op with
    | none,.buildSlice t n parts=> match P.underlying t with
      | some (.slice e)=> match tinf P e with
        | some i=> match i.z,cellsP cf.s.fz a.sl i.sz parts.toList with
          | some _,some cs=> some (cs,n,i.sz,seqB 0 parts.toList && (Nat.beq n parts.toList.length && (Nat.ble (n * i.sz) 16777216 && Nat.ble 1 i.sz)))
          | _,_=> none
        | none=> none
      | _=> none
    | _,_=> none
  | none=> none
def rowS (s : AS) (sz : Nat) (α : Type) (E : α → List D) (xs : List α) : Stp:= ⟨.ow s.nx,[],[],[(s.nx,.row s.nx sz α E xs)],s.nx + 1,[]⟩
section
variable {ρ : Option Nat} {P : Program} {N : Nat} {D0 : Dw} {Q : Post} {As : List Ow} {η0 : Env} {m0 : Mem}
theorem lit_run {cf : Cf} {α : Type} {E : α → List D} {xs : List α} {k : Nat} (hE : ∀ x,(E x).length = k) (e1 : litK P cf = some ((xs.flatMap E).map dv,xs.length,k,true)) :
    ∃ a,opAt cf = some a ∧ a.g = none ∧ ∀ (rest : List Oper) (Q : Post) (η : Env) (m : Mem) (f : Fr) (w : World) (As : List Ow),(∀ t,Rel η m (get a.sl t) (f t)) → fzOk η m cf.s.fz → St m As w →
      (∀ (v : Value) (w' : World) (cs : List Value),FRL m (xs.flatMap E) cs → St m (Gw.row k v cs xs.length :: As) w' → wpl ρ P N D0 a.l.toArray rest Q (upo N f a.o.dst v) w') → wpl ρ P N D0 a.l.toArray (a.o :: rest) Q f w:= by
  unfold litK at e1
  split at e1
  · rename_i a ha
    split at e1
    · rename_i t n parts hg hop
      split at e1
      · rename_i e hu
        split at e1
        · rename_i i hi
          split at e1
          · rename_i z cs hz hcs
            simp only [Option.some.injEq,Prod.mk.injEq,Bool.and_eq_true] at e1
            obtain ⟨ec,en,ek,b1,b2,b3,b4⟩:= e1
            refine ⟨a,ha,hg,?_⟩
            have hgd:= none_guard ha hg
            obtain ⟨l,⟨dst,op,ty,pos,af,gd⟩,gg,sl,es⟩:= a
            simp only at hop hgd hcs ⊢; subst hop hgd
            intro rest Q η m f w As hr hfz S hk
            obtain ⟨cls,a1,a2,a3⟩:= cellsP_ok hr hfz hcs
            have hp:= seqB_eq b1
            have e0 : parts = (((parts.toList.map (·.2)).zipIdx 0).map fun p=> (p.2,p.1)).toArray:= by
              rw [← hp]
            rw [e0]
            have hlen : ((parts.toList.map (·.2)).map (ev f)).length = n:= by simp; exact (Nat.eq_of_beq_eq_true b2).symm
            refine s_litOC (vs:= (parts.toList.map (·.2)).map (ev f)) (cls:= cls) S hu (tinf_sz hi) (tinf_z hi hz) rfl a1 a2 hlen.symm (Nat.le_of_ble_eq_true b3) (Nat.le_of_ble_eq_true b4) fun v w' S'=> ?_
            rw [ek,en] at S'
            refine hk v w' cls.flatten ?_ S'
            rw [ec] at a3
            exact FRL.ofRelv a3
          · cases e1
        · cases e1
      · cases e1
    · cases e1
  · cases e1
theorem row_one {sz n : Nat} {v : Value} {cs : List Value} {m : Mem} {As : List Ow} {w : World} (S : St m (Gw.row sz v cs n :: As) w) : v.oneCell' = true:= by
  obtain ⟨⟨a,c,rfl⟩,_⟩:= St.rowVal (i:= 0) S rfl
  rfl
theorem new_sok {s : AS} {v : AV} {o : AObj} : StpOk s ⟨v,[],[],[(s.nx,o)],s.nx + 1,[]⟩ :=
  ⟨fun x hx=> by simp at hx,by simp [tids],by simp [tids],fun t ht=> by simp [tids] at ht; subst ht; exact ⟨Nat.le_refl _,Nat.lt_succ_self _⟩⟩
theorem go_lit (hm : P.follows .mixedOrders = true) {n k : Nat} {cf : Cf} {α : Type} {E : α → List D} {xs : List α} (hE : ∀ x,(E x).length = k)
    (e : (litK P (adv P N n cf).1,((adv P N n cf).2 ++ esOf (adv P N n cf).1).map (·.1)) = (some ((xs.flatMap E).map dv,xs.length,k,true),((adv P N n cf).2 ++ esOf (adv P N n cf).1).map (·.2)))
    (g : Go ρ P N D0 Q As η0 m0 (push N (adv P N n cf).1 (rowS (adv P N n cf).1.s k α E xs))) : Go ρ P N D0 Q As η0 m0 cf:= by
  simp only [Prod.mk.injEq] at e
  obtain ⟨e1,e3⟩:= e
  obtain ⟨he1,-⟩:= EqsOk.two e3
  refine adv_ok hm he1 ?_
  generalize (adv P N n cf).1 = c0 at *
  obtain ⟨a,ha,hg,run⟩:= lit_run (ρ:= ρ) (N:= N) (D0:= D0) hE e1
  refine go_push ha hg ⟨Nat.le_succ _,fun rest Q η m f w As hr hz hn S hk=> ?_⟩ new_sok g
  refine run rest Q η m f w As hr hz S fun v w' cs hc S'=> ?_
  have h0:= hn c0.s.nx (Nat.le_refl _) (Nat.lt_succ_self _)
  have h1:= row_one S'
  refine hk (η.put c0.s.nx v) m w' v (Env.le_put h0) (Mem.rfl' m) (fun n q=> ?_) (.ow Env.put_self h1) (St.closeRow Env.put_self h1 hc (fun x _=> hE x) S')
  rcases Env.put_dom q with q | q
  · exact .inl q
  · subst q; exact .inr ⟨Nat.le_refl _,Nat.lt_succ_self _⟩
def litG (P : Program) (cf : Cf) : Option (List AV × Nat × Nat × Bool) :=
  match opAt cf with
  | some a=> match a.o.op with
    | .buildSlice t n parts=> match P.underlying t with
      | some (.slice e)=> match tinf P e with
        | some i=> match i.z,cellsP cf.s.fz a.sl i.sz parts.toList with
          | some _,some cs=> some (cs,n,i.sz,seqB 0 parts.toList && (Nat.beq n parts.toList.length && (Nat.ble (n * i.sz) 16777216 && Nat.ble 1 i.sz)))
          | _,_=> none
        | none=> none
      | _=> none
    | _=> none
  | none=> none
theorem go_litG (hm : P.follows .mixedOrders = true) {n k : Nat} {cf : Cf} {α : Type} {E : α → List D} {xs : List α} (hE : ∀ x,(E x).length = k)
    (e : (litG P (adv P N n cf).1,((adv P N n cf).2 ++ esOf (adv P N n cf).1).map (·.1)) = (some ((xs.flatMap E).map dv,xs.length,k,true),((adv P N n cf).2 ++ esOf (adv P N n cf).1).map (·.2)))
    (g : Go ρ P N D0 Q As η0 m0 (pushVR N (adv P N n cf).1 (.d (.sl α E xs)) [])) : Go ρ P N D0 Q As η0 m0 cf:= by
  simp only [Prod.mk.injEq] at e
  obtain ⟨e1,e3⟩:= e
  obtain ⟨he1,he2⟩:= EqsOk.two e3
  refine adv_ok hm he1 ?_
  generalize (adv P N n cf).1 = c0 at *
  unfold litG at e1
  split at e1
  · rename_i a ha
    rw [esOf_of ha] at he2
    split at e1
    · rename_i t n parts hop
      split at e1
      · rename_i e hu
        split at e1
        · rename_i i hi
          split at e1
          · rename_i z cs hz hcs
            simp only [Option.some.injEq,Prod.mk.injEq,Bool.and_eq_true] at e1
            obtain ⟨ec,en,ek,b1,b2,b3,b4⟩:= e1
            refine go_valR (rd:= []) ha he2 ⟨fun _ h=> (by cases h),List.nodup_nil⟩ (fun _=> ?_) g
            obtain ⟨l,⟨dst,op,ty,pos,af,gd⟩,gg,sl,es⟩:= a
            simp only at hop hcs ⊢; subst hop
            refine ⟨Nat.le_refl _,fun rest Q η m f w As hr hfz hn S hk=> ?_⟩
            obtain ⟨cls,a1,a2,a3⟩:= cellsP_ok hr hfz hcs
            have hp:= seqB_eq b1
            have e0 : parts = (((parts.toList.map (·.2)).zipIdx 0).map fun p=> (p.2,p.1)).toArray:= by
              rw [← hp]
            rw [e0]
            have hlen : ((parts.toList.map (·.2)).map (ev f)).length = n:= by simp; exact (Nat.eq_of_beq_eq_true b2).symm
            have S0 : St m As w:= S
            refine s_litOC (vs:= (parts.toList.map (·.2)).map (ev f)) (cls:= cls) S0 hu (tinf_sz hi) (tinf_z hi hz) rfl a1 a2 hlen.symm (Nat.le_of_ble_eq_true b3) (Nat.le_of_ble_eq_true b4) fun v w' S'=> ?_
            rw [ek,en] at S'
            rw [ec] at a3
            letI:= gotE E k
            obtain ⟨m1,l1,h5,S2⟩:= St.rowKeepT (i:= 0) S' rfl (repE (FRL.ofRelv a3) fun x _=> hE x) rfl
            exact hk η m1 w' v Env.le_refl l1 (fun n h=> .inl h) (.d (to_sl h5)) S2
          · cases e1
        · cases e1
      · cases e1
    · cases e1
  · cases e1
structure AppP : Type 1 where
  use : List Tok
  rd : List Tok
  fw : List Tok
  x : D
  y : D
  by_ : Nat
  sz : Nat
def nilOf : D → D
  | .sl α E _=> .sl α E []
  | d=> d
def srcT (ob : List Tok) : AV → Option (D × List Tok × List Tok)
  | .d (.sl α E xs)=> some (.sl α E xs,[],[])
  | .ow n=> match find n ob with
    | some (i,.fr k d)=> bif Nat.beq k n then some (d,[(i,.fr k d)],[]) else none
    | some (i,.row k sz α E xs)=> bif Nat.beq k n then some (.sl α E xs,[],[(i,.row k sz α E xs)]) else none
    | _=> none
  | _=> none
def appP (P : Program) (cf : Cf) : Option AppP :=
  match opAt cf with
  | some a=> match a.g,a.o.op with
    | none,.call c=> match c.callee,c.args.toList,c.argTypes.toList with
      | .builtin .append,[x,y],[t,t2]=> match P.underlying t,P.underlying t2,srcT cf.s.ob (aev a.sl y) with
        | some (.slice e),some (.slice _),some (dy,rd,fw)=> match tinf P e with
          | some i=> match i.z with
            | some z=> bif Nat.beq z.cells.toList.length i.sz && Nat.beq t t2 then
              match aev a.sl x with
              | .ow n=> match find n cf.s.ob with
                | some (j,.row k sz α E xs)=> bif Nat.beq k n && Nat.beq sz i.sz then some ⟨[(j,.row k sz α E xs)],rd,fw,.sl α E xs,dy,i.by_,i.sz⟩ else none
                | _=> none
              | .d (.v (.slice none 0 0))=> some ⟨[],rd,fw,nilOf dy,dy,i.by_,i.sz⟩
              | _=> none
              else none
            | none=> none
          | none=> none
        | _,_,_=> none
      | _,_,_=> none
    | _,_=> none
  | none=> none
def appK (P : Program) (cf : Cf) : Option (D × D × Nat × Nat × Bool) :=
  match appP P cf with
  | some p=> some (p.x,p.y,p.by_,p.sz,nodN (tids ((p.use ++ p.fw) ++ p.rd)) && (p.rd.all (fun p=> isFr p.2) && p.fw.all (fun p=> isRow p.2)))
  | none=> none
def appS (P : Program) (s : AS) (cf : Cf) (sz : Nat) (α : Type) (E : α → List D) (zs : List α) : Stp :=
  match appP P cf with
  | some p=> ⟨.ow s.nx,p.rd,p.use ++ p.fw,enO s.nx (.row s.nx sz α E zs :: asFr p.fw),s.nx + (1 + (asFr p.fw).length),[]⟩
  | none=> rowS s sz α E zs
theorem srcT_ok {ob : List Tok} {a : AV} {d : D} {rd fw : List Tok} (h : srcT ob a = some (d,rd,fw)) {η : Env} {m : Mem} {v : Value} (r : Rel η m a v)
    (k1 : ∀ p ∈ fw,∃ v,η p.2.nm = some v ∧ FR m (datum p.2) v) (k2 : ∀ p ∈ rd,∃ v,η p.2.nm = some v ∧ FR m (datum p.2) v) : FR m d v:= by
  unfold srcT at h
  split at h
  · cases h; exact r.dd
  · rename_i n
    split at h
    · rename_i i k d' hf
      cases hb : Nat.beq k n
      · rw [hb] at h; cases h
      · rw [hb] at h; cases h
        have:= Nat.eq_of_beq_eq_true hb; subst this
        obtain ⟨u,h1,h2⟩:= k2 _ List.mem_cons_self
        have:= r.ow_inv.1
        rw [show (AObj.fr k d).nm = k from rfl] at h1
        rw [h1] at this; cases this; exact h2
    · rename_i i k sz α E xs hf
      cases hb : Nat.beq k n
      · rw [hb] at h; cases h
      · rw [hb] at h; cases h
        have:= Nat.eq_of_beq_eq_true hb; subst this
        obtain ⟨u,h1,h2⟩:= k1 _ List.mem_cons_self
        have:= r.ow_inv.1
        rw [show (AObj.row k sz α E xs).nm = k from rfl] at h1
        rw [h1] at this; cases this; exact h2
    · cases h
  · cases h
theorem srcT_sub {ob : List Tok} {a : AV} {d : D} {rd fw : List Tok} (h : srcT ob a = some (d,rd,fw)) : ∀ p ∈ fw ++ rd,p ∈ ob:= by
  unfold srcT at h
  split at h
  · cases h; intro p hp; simp at hp
  · split at h
    · rename_i i k d' hf
      cases hb : Nat.beq k _
      · rw [hb] at h; cases h
      · rw [hb] at h; cases h
        intro p hp; simp at hp; subst hp; exact find_nm hf
    · rename_i i k sz α E xs hf
      cases hb : Nat.beq k _
      · rw [hb] at h; cases h
      · rw [hb] at h; cases h
        intro p hp; simp at hp; subst hp; exact find_nm hf
    · cases h
  · cases h
theorem go_app (hm : P.follows .mixedOrders = true) {n k b : Nat} {cf : Cf} {α : Type} {E : α → List D} {xs ys zs : List α} (hE : ∀ x,(E x).length = k) (hq : app b xs ys = some zs)
    (e : (appK P (adv P N n cf).1,((adv P N n cf).2 ++ esOf (adv P N n cf).1).map (·.1)) = (some (.sl α E xs,.sl α E ys,b,k,true),((adv P N n cf).2 ++ esOf (adv P N n cf).1).map (·.2)))
    (g : Go ρ P N D0 Q As η0 m0 (push N (adv P N n cf).1 (appS P (adv P N n cf).1.s (adv P N n cf).1 k α E zs))) : Go ρ P N D0 Q As η0 m0 cf:= by
  simp only [Prod.mk.injEq] at e
  obtain ⟨e1,e3⟩:= e
  obtain ⟨he1,-⟩:= EqsOk.two e3
  refine adv_ok hm he1 ?_
  generalize (adv P N n cf).1 = c0 at *
  cases hp : appP P c0 with
  | none=> unfold appK at e1; rw [hp] at e1; cases e1
  | some p =>
    unfold appK at e1
    rw [hp] at e1
    simp only [Option.some.injEq,Prod.mk.injEq,Bool.and_eq_true] at e1
    obtain ⟨ex,ey,eb,ek,o1,o2,o3⟩:= e1
    have gS : appS P c0.s c0 k α E zs = ⟨.ow c0.s.nx,p.rd,p.use ++ p.fw,enO c0.s.nx (.row c0.s.nx k α E zs :: asFr p.fw),c0.s.nx + (1 + (asFr p.fw).length),[]⟩:= by unfold appS; rw [hp]
    rw [gS] at g
    have hp0:= hp
    unfold appP at hp
    split at hp
    · rename_i a ha
      split at hp
      · rename_i c hg hop
        split at hp
        · rename_i x y t t2 hce hargs hats
          split at hp
          · rename_i e' e2 dy rd fw hu hu2 hsrc
            split at hp
            · rename_i i hi
              split at hp
              · rename_i z hz
                cases hb : Nat.beq z.cells.toList.length i.sz && Nat.beq t t2
                · rw [hb] at hp; cases hp
                · rw [hb] at hp
                  simp only [cond_true] at hp
                  simp only [Bool.and_eq_true] at hb
                  have hzs : z.cells.size = i.sz:= by rw [← Array.length_toList]; exact Nat.eq_of_beq_eq_true hb.1
                  have htt:= Nat.eq_of_beq_eq_true hb.2
                  subst htt
                  have hgd:= none_guard ha hg
                  have ssub:= srcT_sub hsrc
                  -- the thing that is added to
                  have key : ∃ src : List Tok,p.use = src ∧ p.rd = rd ∧ p.fw = fw ∧ p.y = dy ∧ p.by_ = i.by_ ∧ p.sz = i.sz ∧ (∀ q ∈ src,q ∈ c0.s.ob) ∧
                      ∀ (η : Env) (m : Mem) (f : Fr) (w : World) (As : List Ow),(∀ t,Rel η m (get a.sl t) (f t)) → St m (reps η m src ++ As) w → ∃ cs,FRL m (xs.flatMap E) cs ∧ St m (Gw.row k (ev f x) cs xs.length :: As) w:= by
                    split at hp
                    · rename_i nn hx
                      split at hp
                      · rename_i j kk sz α' E' xs' hf
                        cases hb2 : Nat.beq kk nn && Nat.beq sz i.sz
                        · rw [hb2] at hp; cases hp
                        · rw [hb2] at hp; cases hp
                          simp only [Bool.and_eq_true] at hb2
                          have:= Nat.eq_of_beq_eq_true hb2.1; subst this
                          have hsz:= Nat.eq_of_beq_eq_true hb2.2
                          refine ⟨_,rfl,rfl,rfl,rfl,rfl,rfl,fun q hq=> by simp at hq; subst hq; exact find_nm hf,fun η m f w As hr S=> ?_⟩
                          simp only at ex ek
                          cases ex
                          obtain ⟨v,cs,h1,h2,h3,h4,S1⟩:= St.openRow S
                          have rx:= aev_rel hr x; rw [hx] at rx
                          have:= rx.ow_inv.1
                          rw [h1] at this; cases this
                          rw [hsz,ek] at S1
                          exact ⟨cs,h3,S1⟩
                      · cases hp
                    · rename_i hx
                      cases hp
                      refine ⟨_,rfl,rfl,rfl,rfl,rfl,rfl,fun q hq=> by simp at hq,fun η m f w As hr S=> ?_⟩
                      have rx:= aev_rel hr x; rw [hx] at rx
                      have hv : ev f x = .slice none 0 0:= by
                        have:= rx.dd
                        generalize ev f x = u at this
                        cases this; rfl
                      have hxs : xs = []:= by
                        simp only at ex ey
                        rw [ey] at ex
                        simp only [nilOf] at ex
                        cases ex; rfl
                      subst hxs
                      rw [hv]
                      exact ⟨[],by simpa using FRL.nil,St.rowNil S k⟩
                    · cases hp
                  obtain ⟨src,p1,p2,p3,p4,p5,p6,sub,run⟩:= key
                  rw [p4] at ey
                  rw [p5] at eb
                  rw [p6] at ek
                  rw [p1,p2,p3] at g o1
                  rw [p2] at o2
                  rw [p3] at o3
                  subst ey eb
                  refine go_push ha hg ?_ ?_ g
                  · obtain ⟨l,⟨dst,op,ty,pos,af,gd⟩,gg,sl,es⟩:= a
                    obtain ⟨ce,cx,ct⟩:= c
                    obtain ⟨cx⟩:= cx
                    obtain ⟨ct⟩:= ct
                    simp only at hop hgd hce hargs hats hsrc run ⊢; subst hop hgd hce hargs hats
                    refine ⟨Nat.le_add_right _ _,fun rest Q η m f w As hr hfz hn S hk=> ?_⟩
                    simp only at S hk hn
                    rw [reps_app,reps_app,List.append_assoc,List.append_assoc] at S
                    have S1:= S.perm (List.perm_append_comm_assoc (reps η m src) (reps η m fw) _)
                    obtain ⟨m1,l1,K1,S2⟩:= freezeL o3 S1
                    have S3:= St.ru Env.le_refl l1 S2
                    have S4:= S3.perm (List.perm_append_comm_assoc (reps η m1 src) (reps η m rd) _)
                    have S5:= St.ru Env.le_refl l1 S4
                    obtain ⟨K2,S6⟩:= frFacts o2 S5
                    have hr1 : ∀ t,Rel η m1 (get sl t) (f t):= fun t=> (hr t).up Env.le_refl l1
                    have hy:= srcT_ok hsrc (aev_rel hr1 y) K1 K2
                    obtain ⟨cs,hc,S7⟩:= run η m1 f w As hr1 S6
                    letI:= gotE E k
                    have tb:= tinf_split hi
                    refine s_app (α:= α) (i:= 0) (ti:= i.inf) (z:= z) S7 rfl rfl (repE hc fun x _=> hE x) rfl rfl (of_sl hy hE) hq hu (tinf_info hi) (by rw [← tb.2.2.2.2.1]; exact hz) (by rw [← tb.2.2.2.1]; exact ek) (by rw [← tb.2.2.2.2.2]) (by rw [hzs]; exact ek) fun v' cs' w' S8 hrep=> ?_
                    have hrep':= repE' hrep
                    have h0:= hn c0.s.nx (Nat.le_refl _) (by omega)
                    have S9 : St m1 (Gw.row k v' cs' zs.length :: As) w':= S8
                    have h1:= row_one S9
                    have le2:= Env.le_put (v:= v') h0
                    refine hk (η.put c0.s.nx v') m1 w' v' le2 l1 (fun q hq=> ?_) (.ow Env.put_self h1) ?_
                    · rcases Env.put_dom hq with q1 | q1
                      · exact .inl q1
                      · subst q1; exact .inr ⟨Nat.le_refl _,by omega⟩
                    · rw [reps_app,List.append_assoc,enO_reps]
                      show St m1 (rep _ m1 (.row c0.s.nx k α E zs) :: ((asFr fw).map (rep _ m1) ++ (reps _ m1 rd ++ As))) w'
                      have F1 : ∀ q ∈ fw,∃ v,(η.put c0.s.nx v') q.2.nm = some v ∧ FR m1 (datum q.2) v:= fun q hq=> let ⟨v,a,b⟩:= K1 q hq; ⟨v,le2 _ _ a,b⟩
                      have F2 : ∀ q ∈ rd,∃ v,(η.put c0.s.nx v') q.2.nm = some v ∧ FR m1 (datum q.2) v:= fun q hq=> let ⟨v,a,b⟩:= K2 q hq; ⟨v,le2 _ _ a,b⟩
                      have T1:= St.closeRow (η:= η.put c0.s.nx v') (n:= c0.s.nx) Env.put_self h1 hrep'.1 hrep'.2 S9
                      have T2:= closeFrs F1 (closeFrT o2 F2 T1)
                      exact T2.perm ((List.Perm.append_left _ List.perm_middle).trans List.perm_middle)
                  · refine ⟨fun q hq=> ?_,nodN_ok o1,?_,fun t ht=> ?_⟩
                    · simp only at hq
                      rcases List.mem_append.1 hq with h | h
                      · rcases List.mem_append.1 h with h | h
                        · exact sub q h
                        · exact ssub q (List.mem_append_left _ h)
                      · exact ssub q (List.mem_append_right _ h)
                    · simp only; rw [enO_tids]; exact List.nodup_range'
                    · simp only at ht ⊢
                      rw [enO_tids,List.mem_range'] at ht
                      obtain ⟨i2,hi2,rfl⟩:= ht
                      simp only [List.length_cons] at hi2
                      omega
              · cases hp
            · cases hp
          · cases hp
        · cases hp
      · cases hp
    · cases hp
end
end Go.Ax
end
section
namespace Go.Ax
open Go Go.Gw
def partsE (n : Nat) (er : AV) : List AV:= bif Nat.beq n 1 then [er] else tupE er
def endP (P : Program) (fn : Func) (cf : Cf) (er : AV) (eobs : List AObj) : Option Plan :=
  bif atEnd cf then
    match resVs P cf.s fn.results.toList with
    | some vs=> planB cf.s.ob 0 vs (partsE fn.results.toList.length er) eobs
    | none=> none
  else none
def isTup : AV → Bool
  | .tup _=> true
  | _=> false
def okEnd (p : Plan) (len : Nat) (er : AV) (eobs : List AObj) (n0 n1 : Nat) : Bool :=
  (partsE len er).all (okA n1) && (eobs.all (okO n1) && (nodN (tids ((p.ut ++ p.fw) ++ p.fr)) && (fixB p.mt n0 && (Nat.ble n0 n1 && (p.fr.all (fun p=> isFr p.2) && (p.fw.all (fun p=> isRow p.2) && (Nat.beq len 1 || isTup er)))))))
def endL (P : Program) (fn : Func) (cf : Cf) (er : AV) (eobs : List AObj) (n0 n1 : Nat) : Option (List AV × List AObj × Bool) :=
  match endP P fn cf er eobs with
  | some p=> some (p.as,p.objs,okEnd p fn.results.toList.length er eobs n0 n1)
  | none=> none
def endR (P : Program) (fn : Func) (cf : Cf) (er : AV) (eobs : List AObj) : Option (List AV × List AObj × Bool) :=
  match endP P fn cf er eobs with
  | some p=> some ((partsE fn.results.toList.length er).map (renA fun j=> mtGet p.mt j j),eobs.map (renO fun j=> mtGet p.mt j j),true)
  | none=> none
section
variable {P : Program} {N : Nat} {As : List Ow} {η0 : Env} {m0 : Mem}
theorem resVs_len {s : AS} : ∀ {rs : List ResultVar} {vs : List AV},resVs P s rs = some vs → vs.length = rs.length
  | [],vs,h=> by cases h; rfl
  | r :: rs,vs,h=> by
    unfold resVs at h
    split at h
    · rename_i a b h1 h2; cases h; simp [resVs_len h2]
    · cases h
theorem go_fin (hm : P.follows .mixedOrders = true) {ρ : Option Nat} {D0 : Dw} {fn : Func} {n n0 n1 : Nat} {cf : Cf} {er : AV} {eobs : List AObj} {Po : AV → List AObj → Nat → Prop} (hd : ∀ n,η0 n ≠ none → n < n0)
    (e : (endL P fn (adv P N n cf).1 er eobs n0 n1,(endP P fn (adv P N n cf).1 er eobs).isSome,((adv P N n cf).2).map (·.1)) = (endR P fn (adv P N n cf).1 er eobs,true,((adv P N n cf).2).map (·.2))) (hp : Po er eobs n1) :
    Go ρ P N D0 (outF P N fn (PostR As η0 m0 Po)) As η0 m0 cf:= by
  simp only [Prod.mk.injEq] at e
  obtain ⟨e1,e2,e3⟩:= e
  refine adv_ok hm (.of e3) ?_
  generalize (adv P N n cf).1 = c0 at *
  obtain ⟨s,md,K⟩:= c0
  cases hpl : endP P fn ⟨s,md,K⟩ er eobs with
  | none=> rw [hpl] at e2; cases e2
  | some p =>
    unfold endL endR at e1
    rw [hpl] at e1
    simp only [Option.some.injEq,Prod.mk.injEq] at e1
    obtain ⟨ea,eo,ef⟩:= e1
    simp only [okEnd,Bool.and_eq_true] at ef
    obtain ⟨o1,o2,o3,o4,o5,o6,o7,o8⟩:= ef
    unfold endP at hpl
    cases hb : atEnd ⟨s,md,K⟩
    · rw [hb] at hpl; cases hpl
    · rw [hb] at hpl
      simp only [cond_true] at hpl
      split at hpl
      · rename_i vs hvs
        have main : ∀ η m f w,η0.le η → m0 ≤ m → Gm As s η m f w → ∀ w',Pd w w' → outE P N fn (PostR As η0 m0 Po) f w':= by
          intro η m f w a1 a2 g w' hpd
          have S0:= St.pd g.st hpd
          obtain ⟨us,r1,r2⟩:= res_ok g.slr S0 hvs
          have S:= St.rp S0 (less_perm g.wf.nd (nodN_ok o3) (plan_sub hpl))
          rw [reps_app,List.append_assoc] at S
          obtain ⟨m1,l1,r3,S1⟩:= plan_ok hpl o6 o7 r2 S
          rw [ea] at r3
          rw [eo] at S1
          let φ : Nat → Nat:= fun j=> mtGet p.mt j j
          let η1 : Env:= fun j=> if j < n1 then η (φ j) else none
          have hη1 : ∀ j,j < n1 → η (φ j) = η1 j:= fun j hj=> (if_pos hj).symm
          have S2:= S1.perm (show (eobs.map (renO φ)).map (rep η m1) ++ (reps η m (less (tids (p.ut ++ p.fw ++ p.fr)) s.ob) ++ As) |>.Perm (reps η m (less (tids (p.ut ++ p.fw ++ p.fr)) s.ob) ++ ((eobs.map (renO φ)).map (rep η m1) ++ As)) from List.perm_append_comm_assoc _ _ _)
          obtain ⟨m2,l2,S3⟩:= St.dropN (reps η m (less (tids (p.ut ++ p.fw ++ p.fr)) s.ob)).length S2
          rw [List.drop_left] at S3
          have S4 : St m2 (eobs.map (rep η1 m2) ++ As) w':= by
            have S3':= St.mapUp (obs:= eobs.map (renO φ)) Env.le_refl l2 S3
            refine S3'.imp (by simp) fun i A B ha hb x hx=> ?_
            rw [List.getElem?_append] at ha hb
            simp only [List.length_map] at ha hb
            split at ha
            · rename_i q
              rw [if_pos q] at hb
              simp only [List.getElem?_map,Option.map_eq_some_iff] at ha hb
              obtain ⟨o',⟨o,ho,rfl⟩,rfl⟩:= ha
              obtain ⟨o2',ho',rfl⟩:= hb
              rw [ho] at ho'; cases ho'
              exact renO_of hη1 (List.all_eq_true.1 o2 o (List.mem_of_getElem? ho)) hx
            · rename_i q
              rw [if_neg q] at hb
              rw [ha] at hb; cases hb; exact hx
          have r4:= renL_of hη1 o1 (r3.up Env.le_refl l2)
          have hlen:= resVs_len hvs
          have hus : us.length = fn.results.toList.length:= by rw [← r2.1,hlen]
          have hR : Rel η1 m2 er (tup us):= by
            unfold partsE at r4
            cases hl : Nat.beq fn.results.toList.length 1
            · rw [hl] at r4
              simp only [cond_false] at r4
              rw [hl] at o8
              simp only [Bool.false_or] at o8
              have hne : us.length ≠ 1:= by intro q; rw [hus] at q; rw [q] at hl; cases hl
              have : tup us = .tuple us.toArray:= by
                unfold tup
                split
                · simp at hne
                · rfl
              rw [this]
              cases er with
              | tup l=> exact .tup r4.1 r4.2
              | _=> cases o8
            · rw [hl] at r4
              simp only [cond_true] at r4
              obtain ⟨v,us',e5,h1,h2⟩:= r4.cons_inv
              have:= h2.nil_inv; subst this
              subst e5
              exact h1
          refine outR us (by rw [Array.toArray_toList]) r1 ⟨m2,η1,er,eobs,n1,Mem.tr a2 (Mem.tr l1 l2),fun k v hv=> ?_,hp,fun k hk=> ?_,hR,S4⟩
          · have hlt:= hd k (by rw [hv]; simp)
            show (if _ then _ else _) = _
            rw [if_pos (Nat.lt_of_lt_of_le hlt (Nat.le_of_ble_eq_true o5))]
            show η (mtGet p.mt k k) = some v
            rw [fixB_at o4 k hlt]; exact a1 _ _ hv
          · have : (if k < n1 then η (φ k) else none) ≠ none:= hk
            split at this
            · assumption
            · exact absurd rfl this
        unfold atEnd at hb
        split at hb
        · rename_i hmd hK
          simp only at hmd hK; subst hmd hK
          exact fun η m f w a1 a2 g=> outRw (main η m f w a1 a2 g)
        · rename_i hmd hK
          simp only at hmd hK; subst hmd hK
          exact fun η m f w a1 a2 g=> outNw (main η m f w a1 a2 g)
        · cases hb
      · cases hpl
end
end Go.Ax
end
section
namespace Go.Ax
open Go Go.Gw
section
variable {ρ : Option Nat} {P : Program} {N : Nat} {D0 : Dw} {Q : Post} {As : List Ow} {η0 : Env} {m0 : Mem}
theorem nil_rd {s : AS} : (∀ p ∈ ([] : List Tok),p ∈ s.ob) ∧ (tids []).Nodup:= ⟨fun _ h=> (by cases h),List.nodup_nil⟩
def isStr (P : Program) (t : TypeId) : Bool:= match P.underlying t with | some .string=> true | _=> false
theorem isStr_ok {t : TypeId} (h : isStr P t = true) : P.underlying t = some .string:= by
  unfold isStr at h
  split at h
  · assumption
  · cases h
def idxSK (P : Program) (cf : Cf) : Option (AV × Int × Bool) :=
  match opAt cf with
  | some a=> match a.o.op with
    | .index t x y=> match toIv a.sl y with
      | some (_,j)=> some (aev a.sl x,j,isStr P t)
      | none=> none
    | _=> none
  | none=> none
theorem go_idxS (hm : P.follows .mixedOrders = true) {n : Nat} {cf : Cf} {s : ByteArray} {j : Int} {b : UInt8} (hq : gOf (adv P N n cf).1 = true → idx s.data.toList j = some b)
    (e : (idxSK P (adv P N n cf).1,((adv P N n cf).2 ++ esOf (adv P N n cf).1).map (·.1)) = (some (.d (.s s),j,true),((adv P N n cf).2 ++ esOf (adv P N n cf).1).map (·.2)))
    (g : Go ρ P N D0 Q As η0 m0 (pushVR N (adv P N n cf).1 (.d (.b b)) [])) : Go ρ P N D0 Q As η0 m0 cf:= by
  simp only [Prod.mk.injEq] at e
  obtain ⟨e1,e3⟩:= e
  obtain ⟨he1,he2⟩:= EqsOk.two e3
  refine adv_ok hm he1 ?_
  generalize (adv P N n cf).1 = c0 at *
  unfold idxSK at e1
  split at e1
  · rename_i a ha
    rw [esOf_of ha] at he2
    split at e1
    · rename_i t x y hop
      split at e1
      · rename_i kk jj hj
        simp only [Option.some.injEq,Prod.mk.injEq] at e1
        obtain ⟨ed,rfl,hs⟩:= e1
        refine go_valR (rd:= []) ha he2 nil_rd (fun hp=> ?_) g
        have q:= hq (gOf_of ha hp)
        obtain ⟨l,⟨dst,op',ty,pos,af,gd⟩,gg,sl,es⟩:= a
        simp only at hop ed hj ⊢; subst hop
        refine ⟨Nat.le_refl _,fun rest Q η m f w As hr hz hn S hk=> ?_⟩
        have rx:= aev_rel hr x
        rw [ed] at rx
        have hx : ev f x = vS s:= by
          have:= rx.dd
          generalize ev f x = u at this
          cases this; rfl
        exact s_indexS hx (toIv_val hj hr) (isStr_ok hs) q (hk η m w _ Env.le_refl (Mem.rfl' m) (fun n h=> .inl h) (.d (.b b)) S)
      · cases e1
    · cases e1
  · cases e1
def add64K (cf : Cf) : Option (FuncId × AV × AV × Bool) :=
  match opAt cf with
  | some a=> match a.o.op with
    | .call c=> match c.callee,c.args.toList with
      | .value (.func k),[x,y,z]=> some (k,aev a.sl x,aev a.sl y,match toIv a.sl z with | some (.u64,j)=> j == 0 | _=> false)
      | _,_=> none
    | _=> none
  | none=> none
abbrev byE : UInt8 → List D:= fun x=> [.b x]
theorem byRep : ∀ {m : Mem} {xs : List UInt8} {cs : List Value},@RepL UInt8 (gotE byE 1) m cs xs → RepL m cs xs
  | _,[],_,h=> h
  | m,x :: xs,cs,h=> by
    obtain ⟨c,d,h1,h2,h3⟩:= h
    refine ⟨c,d,h1,?_,byRep h3⟩
    obtain ⟨v,us,e1,e2,e3⟩:= FRL.cons_inv h2.1
    have:= FRL.nil_inv e3
    subst this
    show c = [vB x]
    rw [e1]
    generalize v = u at *
    cases e2; rfl
theorem bySl {m : Mem} {v : Value} {xs : List UInt8} (h : FR m (.sl UInt8 byE xs) v) : SlR m v xs:= by
  obtain ⟨cs,h1,h2⟩:= of_sl (sz:= 1) h (fun _=> rfl)
  exact ⟨cs,h1,byRep h2⟩
theorem byFRL : ∀ {m : Mem} {xs : List UInt8} {cs : List Value},RepL m cs xs → FRL m (xs.flatMap byE) cs
  | m,[],cs,h=> by
    have : cs = []:= h
    subst this; exact .nil
  | m,x :: xs,cs,h=> by
    obtain ⟨c,d,h1,h2,h3⟩:= h
    have : c = [vB x]:= h2
    subst this h1
    exact .cons (.b x) (byFRL h3)
def bsK (P : Program) (cf : Cf) : Option (D × Bool × List Tok) :=
  match opAt cf with
  | some a=> match a.o.op with
    | .convert t t2 x=> match resT cf.s.ob (aev a.sl x) with
      | some (d,ts)=> some (d,isU8s P t && isStr P t2,ts)
      | none=> none
    | _=> none
  | none=> none
def bsT (P : Program) (cf : Cf) : List Tok:= match bsK P cf with | some (_,_,ts)=> ts | none=> []
theorem go_bs (hm : P.follows .mixedOrders = true) {n : Nat} {cf : Cf} {xs : List UInt8}
    (e : ((bsK P (adv P N n cf).1).map (fun r=> (r.1,r.2.1)),((adv P N n cf).2 ++ esOf (adv P N n cf).1).map (·.1)) = (some (.sl UInt8 byE xs,true),((adv P N n cf).2 ++ esOf (adv P N n cf).1).map (·.2)))
    (g : Go ρ P N D0 Q As η0 m0 (pushVR N (adv P N n cf).1 (.d (.s (bs xs))) (bsT P (adv P N n cf).1))) : Go ρ P N D0 Q As η0 m0 cf:= by
  simp only [Prod.mk.injEq] at e
  obtain ⟨e1,e3⟩:= e
  obtain ⟨he1,he2⟩:= EqsOk.two e3
  refine adv_ok hm he1 ?_
  generalize (adv P N n cf).1 = c0 at *
  cases hk : bsK P c0 with
  | none=> rw [hk] at e1; cases e1
  | some r =>
    have hT : bsT P c0 = r.2.2:= by unfold bsT; rw [hk]
    rw [hT] at g
    rw [hk] at e1
    simp only [Option.map_some,Option.some.injEq,Prod.mk.injEq] at e1
    obtain ⟨e1,e2⟩:= e1
    unfold bsK at hk
    split at hk
    · rename_i a ha
      rw [esOf_of ha] at he2
      split at hk
      · rename_i t t2 x' hop
        split at hk
        · rename_i d ts h1
          cases hk
          simp only [Bool.and_eq_true] at e1 e2 g
          subst e1
          refine go_valR ha he2 (resT_sub h1) (fun hp=> ?_) g
          obtain ⟨l,⟨dst,op,ty,pos,af,gd⟩,gg,sl,es⟩:= a
          simp only at hop ⊢; subst hop
          refine ⟨Nat.le_refl _,fun rest Q η m f w As hr hz hn S hk=> ?_⟩
          have S' : St m (reps η m ts ++ As) w:= S
          have hf:= bySl (resT_ok h1 S' (aev_rel hr x'))
          obtain ⟨e,u1,u2⟩:= isU8s_ok e2.1
          exact s_bytesS (t2':= t2) S rfl hf u1 u2 (isStr_ok e2.2) (hk η m w _ Env.le_refl (Mem.rfl' m) (fun n h=> .inl h) (.d (.s _)) S)
        · cases hk
      · cases hk
    · cases hk
def bsFP (P : Program) (cf : Cf) : Option (D × Bool × List Tok) :=
  match opAt cf with
  | some a=> match a.g,a.o.op with
    | none,.convert t t2 x=> match srcT cf.s.ob (aev a.sl x) with
      | some (d,[],fw)=> some (d,isU8s P t && (isStr P t2 && (nodN (tids fw) && fw.all (fun p=> isRow p.2))),fw)
      | _=> none
    | _,_=> none
  | none=> none
def bsFS (P : Program) (cf : Cf) (b : ByteArray) : Stp:= match bsFP P cf with
  | some (_,_,fw)=> ⟨.d (.s b),[],fw,enO cf.s.nx (asFr fw),cf.s.nx + (asFr fw).length,[]⟩
  | none=> ⟨.d (.s b),[],[],[],cf.s.nx,[]⟩
def ofSK (P : Program) (cf : Cf) : Option (AV × Bool) :=
  match opAt cf with
  | some a=> match a.g,a.o.op with
    | none,.convert t t2 x=> some (aev a.sl x,isStr P t && isU8s P t2)
    | _,_=> none
  | none=> none
theorem go_ofS (hm : P.follows .mixedOrders = true) {n : Nat} {cf : Cf} {s : ByteArray} {zs : List UInt8} (hq : app 1 ([] : List UInt8) s.data.toList = some zs)
    (e : (ofSK P (adv P N n cf).1,((adv P N n cf).2 ++ esOf (adv P N n cf).1).map (·.1)) = (some (.d (.s s),true),((adv P N n cf).2 ++ esOf (adv P N n cf).1).map (·.2)))
    (g : Go ρ P N D0 Q As η0 m0 (push N (adv P N n cf).1 (rowS (adv P N n cf).1.s 1 UInt8 byE zs))) : Go ρ P N D0 Q As η0 m0 cf:= by
  simp only [Prod.mk.injEq] at e
  obtain ⟨e1,e3⟩:= e
  obtain ⟨he1,-⟩:= EqsOk.two e3
  refine adv_ok hm he1 ?_
  generalize (adv P N n cf).1 = c0 at *
  unfold ofSK at e1
  split at e1
  · rename_i a ha
    split at e1
    · rename_i t t2 x hg hop
      simp only [Option.some.injEq,Prod.mk.injEq,Bool.and_eq_true] at e1
      obtain ⟨ex,e4,e5⟩:= e1
      have hgd:= none_guard ha hg
      refine go_push ha hg ?_ new_sok g
      obtain ⟨l,⟨dst,op,ty,pos,af,gd⟩,gg,sl,es⟩:= a
      simp only at hop hgd ex ⊢; subst hop hgd
      refine ⟨Nat.le_succ _,fun rest Q η m f w As hr hz hn S hk=> ?_⟩
      have rx:= aev_rel hr x
      rw [ex] at rx
      have hx : ev f x = vS s:= by
        have:= rx.dd
        generalize ev f x = u at this
        cases this; rfl
      obtain ⟨e,u1,u2⟩:= isU8s_ok e5
      refine s_ofS S hx hq (isStr_ok e4) u1 u2 fun v' cs' w' S' hrep=> ?_
      have h0:= hn c0.s.nx (Nat.le_refl _) (Nat.lt_succ_self _)
      have h1:= row_one S'
      refine hk (η.put c0.s.nx v') m w' v' (Env.le_put h0) (Mem.rfl' m) (fun n q=> ?_) (.ow Env.put_self h1) (St.closeRow Env.put_self h1 (byFRL hrep) (fun x _=> rfl) S')
      rcases Env.put_dom q with q | q
      · exact .inl q
      · subst q; exact .inr ⟨Nat.le_refl _,Nat.lt_succ_self _⟩
    · cases e1
  · cases e1
def apSP (P : Program) (cf : Cf) : Option (List Tok × D × AV × Nat × Bool) :=
  match opAt cf with
  | some a=> match a.g,a.o.op with
    | none,.call c=> match c.callee,c.args.toList,c.argTypes.toList with
      | .builtin .append,[x,y],[t,t2]=> match P.underlying t with
        | some (.slice e)=> match tinf P e with
          | some i=> match i.z with
            | some z=> match aev a.sl x with
              | .ow n=> match find n cf.s.ob with
                | some (j,.row k sz α E xs)=> some ([(j,.row k sz α E xs)],.sl α E xs,aev a.sl y,i.by_,Nat.beq z.cells.toList.length 1 && (Nat.beq i.sz 1 && (Nat.beq k n && (Nat.beq sz 1 && isStr P t2))))
                | _=> none
              | _=> none
            | none=> none
          | none=> none
        | _=> none
      | _,_,_=> none
    | _,_=> none
  | none=> none
def apST (P : Program) (cf : Cf) (zs : List UInt8) : Stp:= match apSP P cf with
  | some (use,_)=> ⟨.ow cf.s.nx,[],use,[(cf.s.nx,.row cf.s.nx 1 UInt8 byE zs)],cf.s.nx + 1,[]⟩
  | none=> rowS cf.s 1 UInt8 byE zs
theorem go_apS (hm : P.follows .mixedOrders = true) {n b : Nat} {cf : Cf} {s : ByteArray} {xs zs : List UInt8} (hq : app b xs s.data.toList = some zs)
    (e : ((apSP P (adv P N n cf).1).map (·.2),((adv P N n cf).2 ++ esOf (adv P N n cf).1).map (·.1)) = (some (.sl UInt8 byE xs,.d (.s s),b,true),((adv P N n cf).2 ++ esOf (adv P N n cf).1).map (·.2)))
    (g : Go ρ P N D0 Q As η0 m0 (push N (adv P N n cf).1 (apST P (adv P N n cf).1 zs))) : Go ρ P N D0 Q As η0 m0 cf:= by
  simp only [Prod.mk.injEq] at e
  obtain ⟨e1,e3⟩:= e
  obtain ⟨he1,-⟩:= EqsOk.two e3
  refine adv_ok hm he1 ?_
  generalize (adv P N n cf).1 = c0 at *
  cases hk : apSP P c0 with
  | none=> rw [hk] at e1; cases e1
  | some r =>
    have hT : apST P c0 zs = ⟨.ow c0.s.nx,[],r.1,[(c0.s.nx,.row c0.s.nx 1 UInt8 byE zs)],c0.s.nx + 1,[]⟩:= by unfold apST; rw [hk]
    rw [hT] at g
    rw [hk] at e1
    simp only [Option.map_some,Option.some.injEq] at e1
    unfold apSP at hk
    split at hk
    · rename_i a ha
      split at hk
      · rename_i c hg hop
        split at hk
        · rename_i x y t t2 hce hargs hats
          split at hk
          · rename_i e' hu
            split at hk
            · rename_i i hi
              split at hk
              · rename_i z hz
                split at hk
                · rename_i nn hx
                  split at hk
                  · rename_i j kk sz α E' xs' hf
                    cases hk
                    simp only [Prod.mk.injEq,Bool.and_eq_true] at e1 g
                    obtain ⟨ex,ey,eb,b1,b2,b3,b4,b5⟩:= e1
                    have hgd:= none_guard ha hg
                    have hkn:= Nat.eq_of_beq_eq_true b3; subst hkn
                    have hs1:= Nat.eq_of_beq_eq_true b4
                    have hz1:= Nat.eq_of_beq_eq_true b1
                    have hi1:= Nat.eq_of_beq_eq_true b2
                    subst eb hs1
                    cases ex
                    refine go_push ha hg ?_ ?_ g
                    · obtain ⟨l,⟨dst,op,ty,pos,af,gd⟩,gg,sl,es⟩:= a
                      obtain ⟨ce,cx,ct⟩:= c
                      obtain ⟨cx⟩:= cx
                      obtain ⟨ct⟩:= ct
                      simp only at hop hgd hce hargs hats hx ey ⊢; subst hop hgd hce hargs hats
                      refine ⟨Nat.le_succ _,fun rest Q η m f w As hr hfz hn S hk=> ?_⟩
                      simp only at S hk hn
                      obtain ⟨v,cs,h1,h2,h3,h4,S1⟩:= St.openRow S
                      have rx:= aev_rel hr x; rw [hx] at rx
                      have hv:= rx.ow_inv.1
                      rw [h1] at hv; cases hv
                      have ry:= aev_rel hr y
                      rw [ey] at ry
                      have hy : ev f y = vS s:= by
                        have:= ry.dd
                        generalize ev f y = u at this
                        cases this; rfl
                      have tb:= tinf_split hi
                      refine s_appS (i:= 0) (ti:= i.inf) (z:= z) S1 rfl rfl (byRep (repE h3 fun _ _=> rfl)) rfl hy hq hu (isStr_ok b5) (tinf_info hi) (by rw [← tb.2.2.2.2.1]; exact hz) (by rw [← tb.2.2.2.1]; exact hi1) (by rw [← tb.2.2.2.2.2]) (by rw [← Array.length_toList]; exact hz1) fun v' cs' w' S8 hrep=> ?_
                      have h0:= hn c0.s.nx (Nat.le_refl _) (Nat.lt_succ_self _)
                      have S9 : St m (Gw.row 1 v' cs' zs.length :: As) w':= S8
                      have h1':= row_one S9
                      refine hk (η.put c0.s.nx v') m w' v' (Env.le_put h0) (Mem.rfl' m) (fun q hq=> ?_) (.ow Env.put_self h1') (St.closeRow Env.put_self h1' (byFRL hrep) (fun x _=> rfl) S9)
                      rcases Env.put_dom hq with q1 | q1
                      · exact .inl q1
                      · subst q1; exact .inr ⟨Nat.le_refl _,Nat.lt_succ_self _⟩
                    · refine ⟨fun q hq=> ?_,by simp [tids],by simp [tids],fun t ht=> by simp [tids] at ht; subst ht; exact ⟨Nat.le_refl _,Nat.lt_succ_self _⟩⟩
                      simp only [List.append_nil,List.mem_singleton] at hq
                      subst hq
                      exact find_nm hf
                  · cases hk
                · cases hk
              · cases hk
            · cases hk
          · cases hk
        · cases hk
      · cases hk
    · cases hk
def fwOk (fw : List Tok) : Bool:= nodN (tids fw) && fw.all (fun p=> isRow p.2)
def fwS (cf : Cf) (v : AV) (fw : List Tok) : Stp:= ⟨v,[],fw,enO cf.s.nx (asFr fw),cf.s.nx + (asFr fw).length,[]⟩
def cutFK (P : Program) (cf : Cf) : Option (D × Int × Int × Int × Nat × Bool × List Tok) :=
  match opAt cf with
  | some a=> match a.g,a.o.op with
    | none,.slice t x lo hi mx=> match srcT cf.s.ob (aev a.sl x),P.underlying t with
      | some (d,[],fw),some (.slice e)=> match tinf P e with
        | some i =>
          let l : Option Int:= match lo with | none=> some 0 | some o=> (toIv a.sl o).map (·.2)
          let h : Option Int:= match hi with | none=> some (dlen d) | some o=> (toIv a.sl o).map (·.2)
          let m : Option Int:= match mx with | none=> h | some o=> match hi with | none=> none | some _=> (toIv a.sl o).map (·.2)
          match l,h,m with
          | some l,some h,some m=> some (d,l,h,m,i.sz,fwOk fw,fw)
          | _,_,_=> none
        | none=> none
      | _,_=> none
    | _,_=> none
  | none=> none
def cutFT (P : Program) (cf : Cf) : List Tok:= match cutFK P cf with | some (_,_,_,_,_,_,ts)=> ts | none=> []
def idxFK (P : Program) (cf : Cf) : Option (D × Int × Nat × Bool × List Tok) :=
  match opAt cf with
  | some a=> match a.g,a.o.op with
    | none,.indexAddr t x y=> match srcT cf.s.ob (aev a.sl x),toIv a.sl y,P.underlying t with
      | some (d,[],fw),some (_,j),some (.slice e)=> match tinf P e with
        | some i=> some (d,j,i.sz,fwOk fw,fw)
        | none=> none
      | _,_,_=> none
    | _,_=> none
  | none=> none
def idxFT (P : Program) (cf : Cf) : List Tok:= match idxFK P cf with | some (_,_,_,_,ts)=> ts | none=> []
end
end Go.Ax
end
section
namespace Go.Ax
open Go Go.Gw
def cellsV (ob : List Tok) : List AV → List AV × List Tok × List Tok
  | []=> ([],[],[])
  | c :: l=> match srcT ob c with
    | some (d,g,h)=> (.d d :: (cellsV ob l).1,g ++ (cellsV ob l).2.1,h ++ (cellsV ob l).2.2)
    | none=> (c :: (cellsV ob l).1,(cellsV ob l).2.1,(cellsV ob l).2.2)
theorem cellsV_ok {ob : List Tok} {η : Env} {m : Mem} : ∀ {cs : List AV} {vs : List Value},RelL η m cs vs → (∀ p ∈ (cellsV ob cs).2.2,∃ v,η p.2.nm = some v ∧ FR m (datum p.2) v) → (∀ p ∈ (cellsV ob cs).2.1,∃ v,η p.2.nm = some v ∧ FR m (datum p.2) v) → RelL η m (cellsV ob cs).1 vs
  | [],vs,r,_,_=> r
  | c :: l,vs,r,k1,k2=> by
    obtain ⟨v,us,rfl,r1,r2⟩:= r.cons_inv
    unfold cellsV at *
    split at k1
    · rename_i d g h e
      rw [e] at k2
      simp only at k1 k2 ⊢
      exact .cons (.d (srcT_ok e r1 (fun q hq=> k1 q (List.mem_append_left _ hq)) (fun q hq=> k2 q (List.mem_append_left _ hq)))) (cellsV_ok r2 (fun q hq=> k1 q (List.mem_append_right _ hq)) (fun q hq=> k2 q (List.mem_append_right _ hq)))
    · rename_i e
      rw [e] at k2
      simp only at k1 k2 ⊢
      exact .cons r1 (cellsV_ok r2 k1 k2)
theorem cellsV_sub {ob : List Tok} : ∀ {cs : List AV},∀ p ∈ (cellsV ob cs).2.2 ++ (cellsV ob cs).2.1,p ∈ ob
  | [],p,hp=> by simp [cellsV] at hp
  | c :: l,p,hp=> by
    have ih:= cellsV_sub (ob:= ob) (cs:= l) p
    unfold cellsV at hp
    simp only [List.mem_append] at ih
    split at hp
    · rename_i d g h e
      have i2:= srcT_sub e p
      simp only [List.mem_append] at hp i2
      rcases hp with (q | q) | (q | q)
      · exact i2 (.inl q)
      · exact ih (.inl q)
      · exact i2 (.inr q)
      · exact ih (.inr q)
    · simp only [List.mem_append] at hp; exact ih hp
def cellsW (ob : List Tok) (sl : Sl) (sz : Nat) : List (Nat × Operand) → Option (List AV × List Tok × List Tok)
  | []=> some ([],[],[])
  | p :: l=> match cellsW ob sl sz l with
    | some (r,rd,fw)=> match cellsA (aev sl p.2) with
      | some c=> bif Nat.beq c.length sz then some ((cellsV ob c).1 ++ r,(cellsV ob c).2.1 ++ rd,(cellsV ob c).2.2 ++ fw) else none
      | none=> none
    | none=> none
def litVP (P : Program) (cf : Cf) : Option (List AV × Nat × Nat × Bool × List Tok × List Tok) :=
  match opAt cf with
  | some a=> match a.g,a.o.op with
    | none,.buildSlice t n parts=> match P.underlying t with
      | some (.slice e)=> match tinf P e with
        | some i=> match i.z,cellsW cf.s.ob a.sl i.sz parts.toList with
          | some _,some (cs,rd,fw)=> some (cs,n,i.sz,(seqB 0 parts.toList && (Nat.beq n parts.toList.length && (Nat.ble (n * i.sz) 16777216 && Nat.ble 1 i.sz))) && (nodN (tids (fw ++ rd)) && (rd.all (fun p=> isFr p.2) && fw.all (fun p=> isRow p.2))),rd,fw)
          | _,_=> none
        | none=> none
      | _=> none
    | _,_=> none
  | none=> none
def litVK (P : Program) (cf : Cf) : Option (List AV × Nat × Nat × Bool):= (litVP P cf).map fun r=> (r.1,r.2.1,r.2.2.1,r.2.2.2.1)
def litVS (P : Program) (cf : Cf) (α : Type) (E : α → List D) (xs : List α) : Stp :=
  match litVP P cf with
  | some (_,_,_,_,rd,fw)=> ⟨.d (.sl α E xs),rd,fw,enO cf.s.nx (asFr fw),cf.s.nx + (asFr fw).length,[]⟩
  | none=> ⟨.d (.sl α E xs),[],[],[],cf.s.nx,[]⟩
def litVO (P : Program) (cf : Cf) (sz : Nat) (α : Type) (E : α → List D) (xs : List α) : Stp :=
  match litVP P cf with
  | some (_,_,_,_,rd,fw)=> ⟨.ow cf.s.nx,rd,fw,enO cf.s.nx (.row cf.s.nx sz α E xs :: asFr fw),cf.s.nx + (1 + (asFr fw).length),[]⟩
  | none=> rowS cf.s sz α E xs
section
variable {ρ : Option Nat} {P : Program} {N : Nat} {D0 : Dw} {Q : Post} {As : List Ow} {η0 : Env} {m0 : Mem}
theorem oneL_of : ∀ {L : List Value},(∀ v ∈ L,v.oneCell' = true) → OneL L
  | [],_=> trivial
  | a :: l,h=> ⟨h a List.mem_cons_self,oneL_of fun v hv=> h v (List.mem_cons_of_mem _ hv)⟩
def rowOf (ob : List Tok) (n : Nat) : Option (D × Nat × Tok) :=
  match find n ob with
  | some (i,.row k sz α E xs)=> bif Nat.beq k n then some (.sl α E xs,sz,(i,.row k sz α E xs)) else none
  | _=> none
theorem rowOf_ok {ob : List Tok} {n sz : Nat} {d : D} {p : Tok} (h : rowOf ob n = some (d,sz,p)) : p ∈ ob ∧ ∃ i α E xs,d = .sl α E xs ∧ p = (i,AObj.row n sz α E xs):= by
  unfold rowOf at h
  split at h
  · rename_i i k sz' α E xs hf
    cases hb : Nat.beq k n
    · rw [hb] at h; cases h
    · rw [hb] at h; cases h
      have:= Nat.eq_of_beq_eq_true hb; subst this
      exact ⟨find_nm hf,i,α,E,xs,rfl,rfl⟩
  · cases h
def idxOP (P : Program) (cf : Cf) : Option (D × Int × Nat × Nat × Bool × Tok) :=
  match opAt cf with
  | some a=> match a.o.op with
    | .indexAddr t x y=> match aev a.sl x,toIv a.sl y,P.underlying t with
      | .ow n,some (_,j),some (.slice e)=> match tinf P e,rowOf cf.s.ob n with
        | some i,some (d,sz,p)=> some (d,j,sz,n,Nat.beq i.sz sz,p)
        | _,_=> none
      | _,_,_=> none
    | _=> none
  | none=> none
def idxOT (P : Program) (cf : Cf) : List Tok:= match idxOP P cf with | some (_,_,_,_,_,p)=> [p] | none=> []
def idxOV (P : Program) (cf : Cf) : AV:= match idxOP P cf with | some (_,j,sz,n,_,_)=> .pe n j sz 0 | none=> .any
theorem go_idxO (hm : P.follows .mixedOrders = true) {n : Nat} {cf : Cf} {α : Type} {E : α → List D} {xs : List α} {j : Int} {x : α} (hq : gOf (adv P N n cf).1 = true → idx xs j = some x)
    (e : ((idxOP P (adv P N n cf).1).map (fun r=> (r.1,r.2.1,r.2.2.2.2.1)),((adv P N n cf).2 ++ esOf (adv P N n cf).1).map (·.1)) = (some (.sl α E xs,j,true),((adv P N n cf).2 ++ esOf (adv P N n cf).1).map (·.2)))
    (g : Go ρ P N D0 Q As η0 m0 (pushVR N (adv P N n cf).1 (idxOV P (adv P N n cf).1) (idxOT P (adv P N n cf).1))) : Go ρ P N D0 Q As η0 m0 cf:= by
  simp only [Prod.mk.injEq] at e
  obtain ⟨e1,e3⟩:= e
  obtain ⟨he1,he2⟩:= EqsOk.two e3
  refine adv_ok hm he1 ?_
  generalize (adv P N n cf).1 = c0 at *
  cases hk : idxOP P c0 with
  | none=> rw [hk] at e1; cases e1
  | some r =>
    obtain ⟨d,j',sz,nn,ok,p⟩:= r
    have hT : idxOT P c0 = [p]:= by unfold idxOT; rw [hk]
    have hV : idxOV P c0 = .pe nn j' sz 0:= by unfold idxOV; rw [hk]
    rw [hT,hV] at g
    rw [hk] at e1
    simp only [Option.map_some,Option.some.injEq,Prod.mk.injEq] at e1
    obtain ⟨e1,e2,e4⟩:= e1
    subst e1 e2 e4
    unfold idxOP at hk
    split at hk
    · rename_i a ha
      rw [esOf_of ha] at he2
      split at hk
      · rename_i t x' y hop
        split at hk
        · rename_i n' kk jj e' h1 h2 h3
          split at hk
          · rename_i i d' sz' p' hi hrow
            simp only [Option.some.injEq,Prod.mk.injEq] at hk
            obtain ⟨q1,q2,q3,q4,q5,q6⟩:= hk
            subst q1 q2 q3 q4 q6
            obtain ⟨hmem,i0,α',E',xs',hd,hp⟩:= rowOf_ok hrow
            cases hd; subst hp
            refine go_valR ha he2 ⟨fun x hx=> by simp at hx; subst hx; exact hmem,by simp [tids]⟩ (fun hp=> ?_) g
            have q:= hq (gOf_of ha hp)
            obtain ⟨l,⟨dst,op,ty,pos,af,gd⟩,gg,sl,es⟩:= a
            simp only at hop ⊢; subst hop
            refine ⟨Nat.le_refl _,fun rest Q η m f w As hr hz hn S hk=> ?_⟩
            have S' : St m (rep η m (.row n' sz' α E xs) :: As) w:= S
            obtain ⟨v,cs,a1,a2,a3,a4,S1⟩:= St.openRow S'
            have rx:= aev_rel hr x'; rw [h1] at rx
            have ex:= rx.ow_inv.1
            rw [a1] at ex
            have hr2:= idx_rng q
            refine s_idxO (i:= 0) (j:= jj) S1 (Option.some.inj ex).symm (toIv_val h2 hr) rfl hr2.1 hr2.2 h3 (by rw [← Nat.eq_of_beq_eq_true q5]; exact tinf_sz hi) fun p hp=> ?_
            exact hk η m w p Env.le_refl (Mem.rfl' m) (fun n h=> .inl h) (.pe a1 hp) S
          · cases hk
        · cases hk
      · cases hk
    · cases hk
def ldOP (P : Program) (cf : Cf) : Option (D × Int × Nat × Nat × Bool × Nat × Bool × Tok) :=
  match opAt cf with
  | some a=> match a.o.op with
    | .load t x=> match aev a.sl x,tinf P t with
      | .pe n j sz fo,some i=> match rowOf cf.s.ob n with
        | some (d,sz',p)=> some (d,j,fo,i.sz,i.agg,sz,Nat.beq sz sz' && (Nat.ble (fo + i.sz) sz && (i.agg || Nat.beq i.sz 1)),p)
        | none=> none
      | _,_=> none
    | _=> none
  | none=> none
def ldOT (P : Program) (cf : Cf) : List Tok:= match ldOP P cf with | some (_,_,_,_,_,_,_,p)=> [p] | none=> []
def stOP (P : Program) (cf : Cf) : Option (D × Int × Nat × List AV × Nat × Bool × Nat × Tok × List Tok × List Tok) :=
  match opAt cf with
  | some a=> match a.g,a.o.op with
    | none,.store t x y=> match aev a.sl x,cellsA (aev a.sl y),tinf P t with
      | .pe n j sz fo,some ds,some i=> match rowOf cf.s.ob n with
        | some (d,sz',p)=> some (d,j,fo,(cellsV cf.s.ob ds).1,sz,(Nat.beq sz sz' && Nat.beq i.sz ds.length) && (nodN (tids ((p :: (cellsV cf.s.ob ds).2.2) ++ (cellsV cf.s.ob ds).2.1)) && ((cellsV cf.s.ob ds).2.1.all (fun p=> isFr p.2) && (cellsV cf.s.ob ds).2.2.all (fun p=> isRow p.2))),n,p,(cellsV cf.s.ob ds).2.1,(cellsV cf.s.ob ds).2.2)
        | none=> none
      | _,_,_=> none
    | _,_=> none
  | none=> none
def stOS (P : Program) (cf : Cf) (sz : Nat) (α : Type) (E : α → List D) (xs : List α) : Stp :=
  match stOP P cf with
  | some (_,_,_,_,_,_,n,p,rd,fw)=> ⟨.no,rd,p :: fw,enO cf.s.nx (.row n sz α E xs :: asFr fw),cf.s.nx + (1 + (asFr fw).length),[]⟩
  | none=> rowS cf.s sz α E xs
theorem go_stO (hm : P.follows .mixedOrders = true) {n k : Nat} {cf : Cf} {α : Type} {E : α → List D} {xs : List α} {j : Int} {z0 z : α} (hE : ∀ x,(E x).length = k) (hq : idx xs j = some z0)
    (e : ((stOP P (adv P N n cf).1).map (fun r=> (r.1,r.2.1,r.2.2.1,r.2.2.2.1,r.2.2.2.2.1,r.2.2.2.2.2.1)),((adv P N n cf).2 ++ esOf (adv P N n cf).1).map (·.1)) = (some (.sl α E xs,j,0,(E z).map dv,k,true),((adv P N n cf).2 ++ esOf (adv P N n cf).1).map (·.2)))
    (g : Go ρ P N D0 Q As η0 m0 (push N (adv P N n cf).1 (stOS P (adv P N n cf).1 k α E (xs.set j.toNat z)))) : Go ρ P N D0 Q As η0 m0 cf:= by
  simp only [Prod.mk.injEq] at e
  obtain ⟨e1,e3⟩:= e
  obtain ⟨he1,-⟩:= EqsOk.two e3
  refine adv_ok hm he1 ?_
  generalize (adv P N n cf).1 = c0 at *
  cases hk : stOP P c0 with
  | none=> rw [hk] at e1; cases e1
  | some r =>
    obtain ⟨d,j',fo,ds,k',ok,nn,p,rd,fw⟩:= r
    have hS : stOS P c0 k α E (xs.set j.toNat z) = ⟨.no,rd,p :: fw,enO c0.s.nx (.row nn k α E (xs.set j.toNat z) :: asFr fw),c0.s.nx + (1 + (asFr fw).length),[]⟩:= by unfold stOS; rw [hk]
    rw [hS] at g
    rw [hk] at e1
    simp only [Option.map_some,Option.some.injEq,Prod.mk.injEq] at e1
    obtain ⟨e1,e2,e4,e5,e6,e7⟩:= e1
    subst e1 e2 e4 e6 e7
    unfold stOP at hk
    split at hk
    · rename_i a ha
      split at hk
      · rename_i t x y hg hop
        split at hk
        · rename_i n' jj sz fo2 ds0 i h1 h2 hi
          split at hk
          · rename_i d' sz' p' hrow
            simp only [Option.some.injEq,Prod.mk.injEq] at hk
            obtain ⟨q1,q2,q3,q4,q5,q6,q7,q8,q9,q10⟩:= hk
            subst q1 q2 q3 q5 q7 q8 q9 q10
            simp only [Bool.and_eq_true] at q6
            obtain ⟨⟨b1,b2⟩,b3,b4,b5⟩:= q6
            have b1:= Nat.eq_of_beq_eq_true b1
            have b2:= Nat.eq_of_beq_eq_true b2
            obtain ⟨hmem,i0,α',E',xs',hd,hp⟩:= rowOf_ok hrow
            cases hd; subst hp
            subst b1
            have hgd:= none_guard ha hg
            have csub:= cellsV_sub (ob:= c0.s.ob) (cs:= ds0)
            refine go_push ha hg ?_ ?_ g
            · obtain ⟨l,⟨dst,op,ty,pos,af,gd⟩,gg,sl,es⟩:= a
              simp only at hop hgd h1 h2 ⊢; subst hop hgd
              refine ⟨Nat.le_add_right _ _,fun rest Q η m f w As hr hfz hn S hk=> ?_⟩
              simp only at S hk hn
              rw [reps_app,List.append_assoc] at S
              have S0 : St m (rep η m (.row n' sz α E xs) :: (reps η m (cellsV c0.s.ob ds0).2.2 ++ (reps η m (cellsV c0.s.ob ds0).2.1 ++ As))) w:= S
              have S1:= S0.perm List.perm_middle.symm
              obtain ⟨m1,l1,K1,S2⟩:= freezeL b5 S1
              obtain ⟨v,cs,a1,a2,a3,a4,S3⟩:= St.openRow (m:= m1) (St.imp0 S2 fun h hh=> rep.up Env.le_refl l1 hh)
              have S4:= S3.perm List.perm_middle.symm
              have S5:= St.ru Env.le_refl l1 S4
              obtain ⟨K2,S6⟩:= frFacts b4 S5
              have hr1 : ∀ t,Rel η m1 (get sl t) (f t):= fun t=> (hr t).up Env.le_refl l1
              obtain ⟨c1,c2⟩:= cells_rel h2 (aev_rel hr1 y)
              have c3:= cellsV_ok c1 K1 K2
              rw [q4,e5] at c3
              have c4:= FRL.ofRelv c3
              have rx:= aev_rel hr1 x; rw [h1] at rx
              obtain ⟨v',hv',hp'⟩:= rx.pe_inv
              rw [a1] at hv'; cases hv'
              letI:= gotE E sz
              have hsz : (ev f y).cells.size = ds0.length:= by rw [c1.1]; simp
              refine s_stOR (α:= α) (i:= 0) (z:= z) S6 rfl rfl (by rw [Nat.add_zero] at hp'; exact hp') rfl (repE a3 a4) hq (by rw [hsz,← b2]; exact tinf_sz hi) (oneL_of c4.one) ⟨c4,hE z⟩ fun w' cs' S7 hrep=> ?_
              have hrep':= repE' hrep
              refine hk η m1 w' undef Env.le_refl l1 (fun n h=> .inl h) .no ?_
              rw [reps_app,List.append_assoc,enO_reps]
              show St m1 (rep η m1 (.row n' sz α E (xs.set jj.toNat z)) :: ((asFr (cellsV c0.s.ob ds0).2.2).map (rep η m1) ++ (reps η m1 (cellsV c0.s.ob ds0).2.1 ++ As))) w'
              have T1:= St.closeRow (η:= η) (n:= n') a1 a2 hrep'.1 hrep'.2 S7
              have T2:= closeFrs K1 (closeFrT b4 K2 T1)
              exact T2.perm ((List.Perm.append_left _ List.perm_middle).trans List.perm_middle)
            · refine ⟨fun q hq=> ?_,nodN_ok b3,?_,fun t ht=> ?_⟩
              · simp only [List.cons_append,List.mem_cons] at hq
                rcases hq with h | h
                · subst h; exact hmem
                · exact csub q h
              · simp only; rw [enO_tids]; exact List.nodup_range'
              · simp only at ht ⊢
                rw [enO_tids,List.mem_range'] at ht
                obtain ⟨i2,hi2,rfl⟩:= ht
                simp only [List.length_cons] at hi2
                omega
          · cases hk
        · cases hk
      · cases hk
    · cases hk
def PS (a b : Sl) : Prop:= ∀ (t : Nat) (η : Env) (m : Mem) (v : Value),Rel η m (get a t) v → Rel η m (get b t) v
theorem PS.rst {a b : Sl} (p : PS a b) : ∀ (ts : List Nat),PS (rst ts a) (rst ts b)
  | [],_,_,_,_,_=> .any _
  | x :: ts,t,η,m,v,h=> by
    have h' : Rel η m (bif Nat.beq x t then get a x else get (Ax.rst ts a) t) v:= h
    show Rel η m (bif Nat.beq x t then get b x else get (Ax.rst ts b) t) v
    cases hb : Nat.beq x t
    · rw [hb] at h'; exact PS.rst p ts t η m v h'
    · rw [hb] at h'; exact p x η m v h'
theorem PS.setS {a b : Sl} (p : PS a b) (N : Nat) (d : Option Nat) (x : AV) : PS (setS N a d x) (setS N b d x):= fun t η m v h=> by
  cases d with
  | none=> exact p t η m v h
  | some d =>
    unfold Ax.setS at *
    cases hb : Nat.blt d N
    · simp only [hb,cond_false] at h ⊢; exact p t η m v h
    · simp only [hb,cond_true,get] at h ⊢
      cases hq : Nat.beq d t
      · rw [hq] at h; exact p t η m v h
      · rw [hq] at h; exact h
def setK (g : Nat) (v : Bool) (cf : Cf) : Cf:= ⟨⟨(g,.d (.v (.bool v))) :: cf.s.sl,cf.s.ob,cf.s.fz,cf.s.nx⟩,cf.md,cf.K⟩
def atG (g : Nat) (cf : Cf) : Bool :=
  match cf.md with
  | .ops _ l (o :: _) _=> match o.guard with
    | some (j,_)=> match dstOf l.toArray j with
      | some g'=> Nat.beq g' g
      | none=> false
    | none=> false
  | _=> false
def advG (g : Nat) (P : Program) (N : Nat) : Nat → Cf → Cf × Eqs
  | 0,cf=> (cf,[])
  | n + 1,cf=> bif atG g cf then (cf,[]) else match nxt P N cf with
    | some r=> let q:= advG g P N n r.1; (q.1,r.2 ++ q.2)
    | none=> (cf,[])
def idxVP (P : Program) (cf : Cf) : Option (List AV × Int × Nat × Nat × Bool × Bool) :=
  match opAt cf with
  | some a=> match a.o.op with
    | .index t x y=> match aev a.sl x,toIv a.sl y,P.underlying t with
      | .agg cs,some (_,j),some (.array n e)=> match tinf P e with
        | some i=> some (cs,j,n,i.sz,i.agg,i.agg || Nat.beq i.sz 1)
        | none=> none
      | _,_,_=> none
    | _=> none
  | none=> none
end
end Go.Ax
end
section
namespace Go.Ax
open Go Go.Gw
section
variable {ρ : Option Nat} {P : Program} {N : Nat} {D0 : Dw} {Q : Post} {As : List Ow} {η0 : Env} {m0 : Mem}
def hpOf (ob : List Tok) (n : Nat) : Option (Nat × HK) :=
  match find n ob with
  | some (i,.hp k q)=> bif Nat.beq k n then some (i,q) else none
  | _=> none
theorem hpOf_ok {ob : List Tok} {n i : Nat} {q : HK} (h : hpOf ob n = some (i,q)) : (i,AObj.hp n q) ∈ ob:= by
  unfold hpOf at h
  split at h
  · rename_i i' k q' hf
    cases hb : Nat.beq k n
    · rw [hb] at h; cases h
    · rw [hb] at h; cases h
      have:= Nat.eq_of_beq_eq_true hb; subst this
      exact find_nm hf
  · cases h
theorem St.openHp {η : Env} {m : Mem} {n : Nat} {q : HK} {As : List Ow} {w : World} (h : St m (rep η m (.hp n q) :: As) w) : ∃ b,η n = some (hkV q b) ∧ St m (hkO q b :: As) w:= by
  obtain ⟨x,hx,hr⟩:= h.own
  obtain ⟨h1,h2,⟨b,hb,ho⟩,s,d,e⟩:= hx
  exact ⟨b,hb,⟨h.os,h.tape,h.output,x,⟨h1,h2,ho,s,d,e⟩,hr⟩⟩
theorem St.closeHp {η : Env} {m : Mem} {n b : Nat} {q : HK} {As : List Ow} {w : World} (a : η n = some (hkV q b)) (h : St m (hkO q b :: As) w) : St m (rep η m (.hp n q) :: As) w :=
  St.imp0 h fun x hx=> ⟨b,a,hx⟩
def mkmK (cf : Cf) : Bool :=
  match opAt cf with
  | some a=> match a.g,a.o.op with
    | none,.makeMap _ none=> true
    | _,_=> false
  | none=> false
theorem go_mkm (hm : P.follows .mixedOrders = true) {n : Nat} {cf : Cf}
    (e : (mkmK (adv P N n cf).1,((adv P N n cf).2 ++ esOf (adv P N n cf).1).map (·.1)) = (true,((adv P N n cf).2 ++ esOf (adv P N n cf).1).map (·.2)))
    (g : Go ρ P N D0 Q As η0 m0 (push N (adv P N n cf).1 ⟨.ow (adv P N n cf).1.s.nx,[],[],[((adv P N n cf).1.s.nx,.hp (adv P N n cf).1.s.nx (.mp []))],(adv P N n cf).1.s.nx + 1,[]⟩)) : Go ρ P N D0 Q As η0 m0 cf:= by
  simp only [Prod.mk.injEq] at e
  obtain ⟨e1,e3⟩:= e
  obtain ⟨he1,-⟩:= EqsOk.two e3
  refine adv_ok hm he1 ?_
  generalize (adv P N n cf).1 = c0 at *
  unfold mkmK at e1
  split at e1
  · rename_i a ha
    split at e1
    · rename_i t hg hop
      have hgd:= none_guard ha hg
      refine go_push ha hg ?_ new_sok g
      obtain ⟨l,⟨dst,op,ty,pos,af,gd⟩,gg,sl,es⟩:= a
      simp only at hop hgd ⊢; subst hop hgd
      refine ⟨Nat.le_succ _,fun rest Q η m f w As hr hz hn S hk=> ?_⟩
      refine s_makeMap S fun b w' S'=> ?_
      have h0:= hn c0.s.nx (Nat.le_refl _) (Nat.lt_succ_self _)
      refine hk (η.put c0.s.nx (.map (some b))) m w' _ (Env.le_put h0) (Mem.rfl' m) (fun n q=> ?_) (.ow Env.put_self rfl) (St.closeHp (q:= .mp []) (b:= b) Env.put_self S')
      rcases Env.put_dom q with q | q
      · exact .inl q
      · subst q; exact .inr ⟨Nat.le_refl _,Nat.lt_succ_self _⟩
    · cases e1
  · cases e1
def isMapSB (P : Program) (t : TypeId) : Option TypeId :=
  match P.underlying t with
  | some (.map k e)=> match P.underlying k,tinf P e with
    | some .string,some i=> match i.z with
      | some (.bool false)=> some e
      | _=> none
    | _,_=> none
  | _=> none
theorem isMapSB_ok {t e : TypeId} (h : isMapSB P t = some e) : ∃ k,P.underlying t = some (.map k e) ∧ P.underlying k = some .string ∧ ∀ w,(zeroValue e).run P w = .ok (.bool false) w:= by
  unfold isMapSB at h
  split at h
  · rename_i k e' h1
    split at h
    · rename_i i h2 h3
      split at h
      · rename_i hz; cases h; exact ⟨k,h1,h2,tinf_z h3 hz⟩
      · cases h
    · cases h
  · cases h
def lkK (P : Program) (cf : Cf) : Option (List (ByteArray × Bool) × ByteArray × List Tok) :=
  match opAt cf with
  | some a=> match a.o.op with
    | .lookup t x y false=> match isMapSB P t,aev a.sl x,aev a.sl y with
      | some _,.ow n,.d (.s k)=> match hpOf cf.s.ob n with
        | some (i,.mp kv)=> some (kv,k,[(i,.hp n (.mp kv))])
        | _=> none
      | _,_,_=> none
    | _=> none
  | none=> none
def lkV (P : Program) (cf : Cf) : AV:= match lkK P cf with | some (kv,k,_)=> .d (.t (lkB kv k)) | none=> .any
def lkT (P : Program) (cf : Cf) : List Tok:= match lkK P cf with | some (_,_,l)=> l | none=> []
theorem one_rd {s : AS} {p : Tok} (h : p ∈ s.ob) : (∀ q ∈ [p],q ∈ s.ob) ∧ (tids [p]).Nodup:= ⟨fun q hq=> by simp at hq; subst hq; exact h,by simp [tids]⟩
theorem go_lk (hm : P.follows .mixedOrders = true) {n : Nat} {cf : Cf} (kv : List (ByteArray × Bool)) (k : ByteArray)
    (e : ((lkK P (adv P N n cf).1).map (fun r=> (r.1,r.2.1)),((adv P N n cf).2 ++ esOf (adv P N n cf).1).map (·.1)) = (some (kv,k),((adv P N n cf).2 ++ esOf (adv P N n cf).1).map (·.2)))
    (g : Go ρ P N D0 Q As η0 m0 (pushVR N (adv P N n cf).1 (.d (.t (lkB kv k))) (lkT P (adv P N n cf).1))) : Go ρ P N D0 Q As η0 m0 cf:= by
  simp only [Prod.mk.injEq] at e
  obtain ⟨e1,e3⟩:= e
  obtain ⟨he1,he2⟩:= EqsOk.two e3
  refine adv_ok hm he1 ?_
  generalize (adv P N n cf).1 = c0 at *
  cases hq : lkK P c0 with
  | none=> rw [hq] at e1; cases e1
  | some r =>
    obtain ⟨kv',k',rd⟩:= r
    have hT : lkT P c0 = rd:= by unfold lkT; rw [hq]
    rw [hT] at g
    rw [hq] at e1
    simp only [Option.map_some,Option.some.injEq,Prod.mk.injEq] at e1
    obtain ⟨e4,e5⟩:= e1
    subst e4 e5
    unfold lkK at hq
    split at hq
    · rename_i a ha
      rw [esOf_of ha] at he2
      split at hq
      · rename_i t x y hop
        split at hq
        · rename_i et nn kk ht hx hy
          split at hq
          · rename_i i kv2 hh
            simp only [Option.some.injEq,Prod.mk.injEq] at hq
            obtain ⟨rfl,rfl,rfl⟩:= hq
            refine go_valR ha he2 (one_rd (hpOf_ok hh)) (fun hp=> ?_) g
            obtain ⟨l,⟨dst,op',ty,pos,af,gd⟩,gg,sl,es⟩:= a
            simp only at hop hx hy ⊢; subst hop
            refine ⟨Nat.le_refl _,fun rest Q η m f w As hr hz hn S hk=> ?_⟩
            obtain ⟨kt,t1,t2,t3⟩:= isMapSB_ok ht
            have rx:= aev_rel hr x
            rw [hx] at rx
            obtain ⟨ex,_⟩:= rx.ow_inv
            have ry:= aev_rel hr y
            rw [hy] at ry
            have S0 : St m (rep η m (.hp nn (.mp kv2)) :: As) w:= S
            obtain ⟨b,hb,S1⟩:= St.openHp S0
            rw [ex] at hb
            have hxv : ev f x = .map (some b):= Option.some.inj hb
            exact s_lookupS (i:= 0) S1 hxv ry.s_inv rfl t1 t2 t3 (hk η m w _ Env.le_refl (Mem.rfl' m) (fun n h=> .inl h) (.d (.t _)) (St.closeHp (by rw [ex,hxv]; rfl) S1))
          · cases hq
        · cases hq
      · cases hq
    · cases hq
def upK (P : Program) (cf : Cf) : Option (List (ByteArray × Bool) × ByteArray × Bool × Nat × Nat) :=
  match opAt cf with
  | some a=> match a.g,a.o.op with
    | none,.mapUpdate t x y c=> match isMapSB P t,aev a.sl x,aev a.sl y,aev a.sl c with
      | some _,.ow n,.d (.s k),.d (.t u)=> match hpOf cf.s.ob n with
        | some (i,.mp kv)=> some (kv,k,u,i,n)
        | _=> none
      | _,_,_,_=> none
    | _,_=> none
  | none=> none
def upS (P : Program) (cf : Cf) : Stp :=
  match upK P cf with
  | some (kv,k,u,i,n)=> ⟨.no,[],[(i,.hp n (.mp kv))],[(cf.s.nx,.hp n (.mp (kv ++ [(k,u)])))],cf.s.nx + 1,[]⟩
  | none=> ⟨.any,[],[],[],cf.s.nx,[]⟩
theorem swap_sok {s : AS} {v : AV} {p : Tok} {o : AObj} (h : p ∈ s.ob) : StpOk s ⟨v,[],[p],[(s.nx,o)],s.nx + 1,[]⟩ :=
  ⟨fun x hx=> by simp at hx; subst hx; exact h,by simp [tids],by simp [tids],fun t ht=> by simp [tids] at ht; subst ht; exact ⟨Nat.le_refl _,Nat.lt_succ_self _⟩⟩
theorem go_up (hm : P.follows .mixedOrders = true) {n : Nat} {cf : Cf} {kv : List (ByteArray × Bool)} {k : ByteArray} (hn : (lkI kv k 0).isNone = true)
    (e : ((upK P (adv P N n cf).1).map (fun r=> (r.1,r.2.1)),((adv P N n cf).2 ++ esOf (adv P N n cf).1).map (·.1)) = (some (kv,k),((adv P N n cf).2 ++ esOf (adv P N n cf).1).map (·.2)))
    (g : Go ρ P N D0 Q As η0 m0 (push N (adv P N n cf).1 (upS P (adv P N n cf).1))) : Go ρ P N D0 Q As η0 m0 cf:= by
  simp only [Prod.mk.injEq] at e
  obtain ⟨e1,e3⟩:= e
  obtain ⟨he1,-⟩:= EqsOk.two e3
  refine adv_ok hm he1 ?_
  generalize (adv P N n cf).1 = c0 at *
  cases hq : upK P c0 with
  | none=> rw [hq] at e1; cases e1
  | some r =>
    obtain ⟨kv',k',u,i,nn⟩:= r
    have hT : upS P c0 = ⟨.no,[],[(i,.hp nn (.mp kv'))],[(c0.s.nx,.hp nn (.mp (kv' ++ [(k',u)])))],c0.s.nx + 1,[]⟩:= by unfold upS; rw [hq]
    rw [hT] at g
    rw [hq] at e1
    simp only [Option.map_some,Option.some.injEq,Prod.mk.injEq] at e1
    obtain ⟨e4,e5⟩:= e1
    subst e4 e5
    unfold upK at hq
    split at hq
    · rename_i a ha
      split at hq
      · rename_i t x y c hg hop
        split at hq
        · rename_i et n2 kk u2 ht hx hy hc
          split at hq
          · rename_i i2 kv2 hh
            simp only [Option.some.injEq,Prod.mk.injEq] at hq
            obtain ⟨rfl,rfl,rfl,rfl,rfl⟩:= hq
            have hgd:= none_guard ha hg
            refine go_push ha hg ?_ (swap_sok (hpOf_ok hh)) g
            obtain ⟨l,⟨dst,op',ty,pos,af,gd⟩,gg,sl,es⟩:= a
            simp only at hop hx hy hc hgd ⊢; subst hop hgd
            refine ⟨Nat.le_succ _,fun rest Q η m f w As hr hz hn' S hk=> ?_⟩
            obtain ⟨kt,t1,t2,t3⟩:= isMapSB_ok ht
            have rx:= aev_rel hr x
            rw [hx] at rx
            obtain ⟨ex,_⟩:= rx.ow_inv
            have ry:= aev_rel hr y
            rw [hy] at ry
            have rc:= aev_rel hr c
            rw [hc] at rc
            have S0 : St m (rep η m (.hp n2 (.mp kv2)) :: As) w:= S
            obtain ⟨b,hb,S1⟩:= St.openHp S0
            rw [ex] at hb
            have hxv : ev f x = .map (some b):= Option.some.inj hb
            refine s_mapUpdS (i:= 0) S1 hxv ry.s_inv rc.t_inv rfl t1 t2 hn fun w' S'=> ?_
            exact hk η m w' _ Env.le_refl (Mem.rfl' m) (fun n h=> .inl h) .no (St.closeHp (q:= .mp (kv2 ++ [(kk,u2)])) (b:= b) (by rw [ex,hxv]; rfl) S')
          · cases hq
        · cases hq
      · cases hq
    · cases hq
theorem iter_nd {s : ByteArray} {p : Nat} : Obj.stringIter s p ≠ dfr:= fun h=> by cases h
def rngK (P : Program) (cf : Cf) : Option ByteArray :=
  match opAt cf with
  | some a=> match a.g,a.o.op with
    | none,.range t x=> match isStr P t,aev a.sl x with
      | true,.d (.s k)=> some k
      | _,_=> none
    | _,_=> none
  | none=> none
theorem go_rng (hm : P.follows .mixedOrders = true) {n : Nat} {cf : Cf} (k : ByteArray)
    (e : (rngK P (adv P N n cf).1,((adv P N n cf).2 ++ esOf (adv P N n cf).1).map (·.1)) = (some k,((adv P N n cf).2 ++ esOf (adv P N n cf).1).map (·.2)))
    (g : Go ρ P N D0 Q As η0 m0 (push N (adv P N n cf).1 ⟨.ow (adv P N n cf).1.s.nx,[],[],[((adv P N n cf).1.s.nx,.hp (adv P N n cf).1.s.nx (.it k 0))],(adv P N n cf).1.s.nx + 1,[]⟩)) : Go ρ P N D0 Q As η0 m0 cf:= by
  simp only [Prod.mk.injEq] at e
  obtain ⟨e1,e3⟩:= e
  obtain ⟨he1,-⟩:= EqsOk.two e3
  refine adv_ok hm he1 ?_
  generalize (adv P N n cf).1 = c0 at *
  unfold rngK at e1
  split at e1
  · rename_i a ha
    split at e1
    · rename_i t x hg hop
      split at e1
      · rename_i k' hs hx
        cases e1
        have hgd:= none_guard ha hg
        refine go_push ha hg ?_ new_sok g
        obtain ⟨l,⟨dst,op,ty,pos,af,gd⟩,gg,sl,es⟩:= a
        simp only at hop hgd hx ⊢; subst hop hgd
        refine ⟨Nat.le_succ _,fun rest Q η m f w As hr hz hn S hk=> ?_⟩
        have rx:= aev_rel hr x
        rw [hx] at rx
        have hxv:= rx.s_inv
        have S1:= (S.push (.stringIter k 0) iter_nd).imp0 (B:= hkO (.it k 0) w.heap.size) fun h hh=> hh
        have h0:= hn c0.s.nx (Nat.le_refl _) (Nat.lt_succ_self _)
        refine wpl_val (v:= pt w.heap.size 0) (w':= w.alloc (.stringIter k 0)) rfl (fun _ e=> by cases e) ?_ ?_ (Kd.push _ _)
        · simp only [execOp,Instr.range,hxv,run_underlying (isStr_ok hs),newObj,Sem.run_bind,Result.andThen_ok,Sem.run,Sem.run_pure]
          rfl
        · refine hk (η.put c0.s.nx (pt w.heap.size 0)) m _ _ (Env.le_put h0) (Mem.rfl' m) (fun n q=> ?_) (.ow Env.put_self rfl) (St.closeHp (q:= .it k 0) (b:= w.heap.size) Env.put_self S1)
          rcases Env.put_dom q with q | q
          · exact .inl q
          · subst q; exact .inr ⟨Nat.le_refl _,Nat.lt_succ_self _⟩
      · cases e1
    · cases e1
  · cases e1
theorem St.iter {m : Mem} {As : List Ow} {w : World} {b : Nat} {s : ByteArray} {pos : Nat} (hS : St m (hkO (.it s pos) b :: As) w) : w.heap[b]? = some (.stringIter s pos) ∧
    ∀ pos',St m (hkO (.it s pos') b :: As) { w with heap:= w.heap.setIfInBounds b (.stringIter s pos') }:= by
  obtain ⟨h1,rfl,hg,_,back⟩:= hS.take (i:= 0) rfl
  have hb:= PH.agree_one.1 hg
  have hlt:= (Array.getElem?_eq_some_iff.1 hb).1
  refine ⟨hb,fun pos'=> ?_⟩
  refine back (hkO (.it s pos') b) (PH.one b (.stringIter s pos')) _ rfl ?_ ?_ ?_ rfl rfl rfl (fun _=> .one iter_nd)
  · intro k hk; left; simp only [PH.one] at hk ⊢
    split at hk
    · rename_i e; simp [e]
    · exact absurd rfl hk
  · rw [PH.agree_one]; simp [hlt]
  · intro k _ hk; simp only [PH.one] at hk
    split at hk
    · cases hk
    · rename_i e; rw [Array.getElem?_setIfInBounds_ne (by omega)]
theorem next_any (w : World) (k : Nat) (s : ByteArray) (pos : Nat) (ty : TypeId) (hk : w.heap[k]? = some (.stringIter s pos)) (h : pos < s.size) :
    (Instr.next (.pointer (some ⟨k,0,none⟩)) true ty).run P w = .ok (.tuple #[.bool true,.int .i64 pos,.int .i32 (Utf8.decode s pos).1]) { w with heap:= w.heap.setIfInBounds k (.stringIter s (pos + (Utf8.decode s pos).2)) }:= by
  simp only [Instr.next,getObj,setObj,Sem.run_bind,Sem.run,hk,Result.andThen,h,if_true]
  simp [goInt]
theorem next_end (w : World) (k : Nat) (s : ByteArray) (pos : Nat) (ty : TypeId) (hk : w.heap[k]? = some (.stringIter s pos)) (h : ¬ pos < s.size) :
    (Instr.next (.pointer (some ⟨k,0,none⟩)) true ty).run P w = .ok (.tuple #[.bool false]) w:= by
  simp [Instr.next,getObj,Sem.run,hk,h]
def nxK (cf : Cf) : Option (ByteArray × Nat × Nat × Nat) :=
  match opAt cf with
  | some a=> match a.g,a.o.op with
    | none,.next x true=> match aev a.sl x with
      | .ow n=> match hpOf cf.s.ob n with
        | some (i,.it s pos)=> some (s,pos,i,n)
        | _=> none
      | _=> none
    | _,_=> none
  | none=> none
def nxS (cf : Cf) : Stp :=
  match nxK cf with
  | some (s,pos,i,n)=> ⟨.tup [.d (.t true),.d (.i (pos : Int)),.d (.r ((Utf8.decode s pos).1 : Int))],[],[(i,.hp n (.it s pos))],[(cf.s.nx,.hp n (.it s (pos + (Utf8.decode s pos).2)))],cf.s.nx + 1,[]⟩
  | none=> ⟨.any,[],[],[],cf.s.nx,[]⟩
def nxE (cf : Cf) : Stp :=
  match nxK cf with
  | some (s,pos,i,n)=> ⟨.tup [.d (.t false)],[(i,.hp n (.it s pos))],[],[],cf.s.nx,[]⟩
  | none=> ⟨.any,[],[],[],cf.s.nx,[]⟩
theorem go_nx (hm : P.follows .mixedOrders = true) {n : Nat} {cf : Cf} {s : ByteArray} {pos : Nat}
    (e : ((nxK (adv P N n cf).1).map (fun r=> (r.1,r.2.1)),((adv P N n cf).2 ++ esOf (adv P N n cf).1).map (·.1)) = (some (s,pos),((adv P N n cf).2 ++ esOf (adv P N n cf).1).map (·.2)))
    (g1 : pos < s.size → Go ρ P N D0 Q As η0 m0 (push N (adv P N n cf).1 (nxS (adv P N n cf).1))) (g2 : ¬ pos < s.size → Go ρ P N D0 Q As η0 m0 (push N (adv P N n cf).1 (nxE (adv P N n cf).1))) : Go ρ P N D0 Q As η0 m0 cf:= by
  simp only [Prod.mk.injEq] at e
  obtain ⟨e1,e3⟩:= e
  obtain ⟨he1,-⟩:= EqsOk.two e3
  refine adv_ok hm he1 ?_
  generalize (adv P N n cf).1 = c0 at *
  cases hq : nxK c0 with
  | none=> rw [hq] at e1; cases e1
  | some r =>
    obtain ⟨s',pos',i,nn⟩:= r
    have hT : nxS c0 = ⟨.tup [.d (.t true),.d (.i (pos' : Int)),.d (.r ((Utf8.decode s' pos').1 : Int))],[],[(i,.hp nn (.it s' pos'))],[(c0.s.nx,.hp nn (.it s' (pos' + (Utf8.decode s' pos').2)))],c0.s.nx + 1,[]⟩:= by unfold nxS; rw [hq]
    have hT2 : nxE c0 = ⟨.tup [.d (.t false)],[(i,.hp nn (.it s' pos'))],[],[],c0.s.nx,[]⟩:= by unfold nxE; rw [hq]
    rw [hT] at g1
    rw [hT2] at g2
    rw [hq] at e1
    simp only [Option.map_some,Option.some.injEq,Prod.mk.injEq] at e1
    obtain ⟨e4,e5⟩:= e1
    subst e4 e5
    unfold nxK at hq
    split at hq
    · rename_i a ha
      split at hq
      · rename_i x hg hop
        split at hq
        · rename_i n2 hx
          split at hq
          · rename_i i2 s2 p2 hh
            simp only [Option.some.injEq,Prod.mk.injEq] at hq
            obtain ⟨rfl,rfl,rfl,rfl⟩:= hq
            have hgd:= none_guard ha hg
            by_cases hlt : p2 < s2.size
            · refine go_push ha hg ?_ (swap_sok (hpOf_ok hh)) (g1 hlt)
              obtain ⟨l,⟨dst,op',ty,ps,af,gd⟩,gg,sl,es⟩:= a
              simp only at hop hx hgd ⊢; subst hop hgd
              refine ⟨Nat.le_succ _,fun rest Q η m f w As hr hz hn' S hk=> ?_⟩
              have rx:= aev_rel hr x
              rw [hx] at rx
              obtain ⟨ex,_⟩:= rx.ow_inv
              have S0 : St m (rep η m (.hp n2 (.it s2 p2)) :: As) w:= S
              obtain ⟨b,hb,S1⟩:= St.openHp S0
              rw [ex] at hb
              have hxv : ev f x = pt b 0:= Option.some.inj hb
              obtain ⟨hbb,S2⟩:= St.iter S1
              refine wpl_val (v:= .tuple #[.bool true,.int .i64 p2,.int .i32 (Utf8.decode s2 p2).1]) (w':= { w with heap:= w.heap.setIfInBounds b (.stringIter s2 (p2 + (Utf8.decode s2 p2).2)) }) rfl (fun _ e=> by cases e) ?_ ?_ (Kd.set hbb iter_nd rfl)
              · simp only [execOp,hxv]
                rw [Sem.run_bind,next_any w b s2 p2 _ hbb hlt]
                rfl
              · refine hk η m _ _ Env.le_refl (Mem.rfl' m) (fun n h=> .inl h) ?_ (St.closeHp (q:= .it s2 (p2 + (Utf8.decode s2 p2).2)) (b:= b) (by rw [ex,hxv]; rfl) (S2 _))
                have h : RelL η m [.d (.t true),.d (.i (p2 : Int)),.d (.r ((Utf8.decode s2 p2).1 : Int))] [vb true,vI (p2 : Int),vR ((Utf8.decode s2 p2).1 : Int)]:= RelL.cons (.d (.t _)) (RelL.cons (.d (.i _)) (RelL.cons (.d (.r _)) RelL.nil))
                exact .tup h.1 h.2
            · refine go_push ha hg ?_ (one_stp (hpOf_ok hh)) (g2 hlt)
              obtain ⟨l,⟨dst,op',ty,ps,af,gd⟩,gg,sl,es⟩:= a
              simp only at hop hx hgd ⊢; subst hop hgd
              refine ⟨Nat.le_refl _,fun rest Q η m f w As hr hz hn' S hk=> ?_⟩
              have rx:= aev_rel hr x
              rw [hx] at rx
              obtain ⟨ex,_⟩:= rx.ow_inv
              have S0 : St m (rep η m (.hp n2 (.it s2 p2)) :: As) w:= S
              obtain ⟨b,hb,S1⟩:= St.openHp S0
              rw [ex] at hb
              have hxv : ev f x = pt b 0:= Option.some.inj hb
              obtain ⟨hbb,S2⟩:= St.iter S1
              refine wpl_val (v:= .tuple #[.bool false]) (w':= w) rfl (fun _ e=> by cases e) ?_ ?_
              · simp only [execOp,hxv]
                rw [Sem.run_bind,next_end w b s2 p2 _ hbb hlt]
                rfl
              · refine hk η m _ _ Env.le_refl (Mem.rfl' m) (fun n h=> .inl h) ?_ S
                have h : RelL η m [.d (.t false)] [vb false]:= RelL.cons (.d (.t _)) RelL.nil
                exact .tup h.1 h.2
          · cases hq
        · cases hq
      · cases hq
    · cases hq
def cutS (s : ByteArray) (lo hi : Int) : Option ByteArray:= if 0 ≤ lo ∧ lo ≤ hi ∧ hi ≤ (s.size : Int) then some (s.extract lo.toNat hi.toNat) else none
def cutSK (P : Program) (cf : Cf) : Option (ByteArray × Int × Int) :=
  match opAt cf with
  | some a=> match a.o.op with
    | .slice t x lo hi none=> match isStr P t,aev a.sl x with
      | true,.d (.s s) =>
        let l : Option Int:= match lo with | none=> some 0 | some o=> (toIv a.sl o).map (·.2)
        let h : Option Int:= match hi with | none=> some (s.size : Int) | some o=> (toIv a.sl o).map (·.2)
        match l,h with
        | some l,some h=> some (s,l,h)
        | _,_=> none
      | _,_=> none
    | _=> none
  | none=> none
theorem run_cutS {t : TypeId} {s z : ByteArray} {lo hi : Option Value} {l h : Int} {w : World} (hu : P.underlying t = some .string)
    (hlo : (lo = none ∧ l = 0) ∨ ∃ k,lo = some (.int k l)) (hhi : (hi = none ∧ h = (s.size : Int)) ∨ ∃ k,hi = some (.int k h)) (hq : cutS s l h = some z) :
    (Instr.slice t (.string s) lo hi none).run P w = .ok (.string z) w:= by
  unfold cutS at hq
  split at hq
  · rename_i hc
    obtain ⟨h1,h2,h3⟩:= hc
    cases hq
    have hl0 : l ≤ (h.toNat : Int):= by omega
    have hs0 : h ≤ (s.size : Int):= h3
    have hh0 : 0 ≤ h:= by omega
    rcases hlo with ⟨rfl,rfl⟩ | ⟨k,rfl⟩ <;> rcases hhi with ⟨rfl,rfl⟩ | ⟨k',rfl⟩
    · simp [Instr.slice,Instr.sliceBounds,Instr.sliceBound,run_underlying hu,Sem.run_bind]
    · simp [Instr.slice,Instr.sliceBounds,Instr.sliceBound,run_underlying hu,Sem.run_bind,asIntOf,hh0,hs0]
    · simp [Instr.slice,Instr.sliceBounds,Instr.sliceBound,run_underlying hu,Sem.run_bind,asIntOf,h1,h2]
    · simp [Instr.slice,Instr.sliceBounds,Instr.sliceBound,run_underlying hu,Sem.run_bind,asIntOf,hh0,hs0,h1,hl0]
      intro hc; omega
  · cases hq
theorem go_cutS (hm : P.follows .mixedOrders = true) {n : Nat} {cf : Cf} {s z : ByteArray} {lo hi : Int} (hq : gOf (adv P N n cf).1 = true → cutS s lo hi = some z)
    (e : (cutSK P (adv P N n cf).1,((adv P N n cf).2 ++ esOf (adv P N n cf).1).map (·.1)) = (some (s,lo,hi),((adv P N n cf).2 ++ esOf (adv P N n cf).1).map (·.2)))
    (g : Go ρ P N D0 Q As η0 m0 (pushVR N (adv P N n cf).1 (.d (.s z)) [])) : Go ρ P N D0 Q As η0 m0 cf:= by
  simp only [Prod.mk.injEq] at e
  obtain ⟨e1,e3⟩:= e
  obtain ⟨he1,he2⟩:= EqsOk.two e3
  refine adv_ok hm he1 ?_
  generalize (adv P N n cf).1 = c0 at *
  unfold cutSK at e1
  split at e1
  · rename_i a ha
    rw [esOf_of ha] at he2
    split at e1
    · rename_i t x lo' hi' hop
      split at e1
      · rename_i s0 hs hx
        simp only at e1
        split at e1
        · rename_i l h hl hh
          simp only [Option.some.injEq,Prod.mk.injEq] at e1
          obtain ⟨rfl,rfl,rfl⟩:= e1
          refine go_valR (rd:= []) ha he2 nil_rd (fun hp=> ?_) g
          have q:= hq (gOf_of ha hp)
          obtain ⟨ll,⟨dst,op',ty,pos,af,gd⟩,gg,sl,es⟩:= a
          simp only at hop hx hl hh ⊢; subst hop
          refine ⟨Nat.le_refl _,fun rest Q η m f w As hr hz hn S hk=> ?_⟩
          have rx:= aev_rel hr x
          rw [hx] at rx
          have hxv : ev f x = vS s0:= rx.s_inv
          refine wpl_val (v:= vS z) (w':= w) rfl (fun _ e=> by cases e) ?_ (hk η m w _ Env.le_refl (Mem.rfl' m) (fun n h=> .inl h) (.d (.s z)) S)
          have key : (Instr.slice t (.string s0) (lo'.map (ev f)) (hi'.map (ev f)) none).run P w = .ok (.string z) w:= by
           refine run_cutS (isStr_ok hs) ?_ ?_ q
           · cases lo' with
            | none=> simp only [Option.some.injEq] at hl; exact .inl ⟨rfl,hl.symm⟩
            | some o =>
              simp only [Option.map_eq_some_iff] at hl
              obtain ⟨⟨kk,jj⟩,hj,rfl⟩:= hl
              exact .inr ⟨kk,by simp only [Option.map_some]; rw [toIv_val hj hr]⟩
           · cases hi' with
             | none=> simp only [Option.some.injEq] at hh; exact .inl ⟨rfl,hh.symm⟩
             | some o =>
               simp only [Option.map_eq_some_iff] at hh
               obtain ⟨⟨kk,jj⟩,hj,rfl⟩:= hh
               exact .inr ⟨kk,by simp only [Option.map_some]; rw [toIv_val hj hr]⟩
          simp [execOp,hxv,Instr.sliceAt,run_underlying (isStr_ok hs),key]
        · cases e1
      · cases e1
    · cases e1
  · cases e1
def tabOf : Operand → Option (List D)
  | .global g=> gtGet GT g
  | _=> none
theorem tabOf_ok {x : Operand} {ds : List D} (h : tabOf x = some ds) {m : Mem} {As : List Ow} {w : World} (S : St m As w) {f : Fr} : ∃ cs,PtC m (ev f x) cs ∧ FRL m ds cs:= by
  unfold tabOf at h
  split at h
  · rename_i g
    obtain ⟨vs,h1,h2⟩:= gt_ok h
    obtain ⟨l,e,fr,hb,hc⟩:= S.tape.2 _ h1
    exact ⟨vs,⟨g,0,l,e,fr,rfl,hb,fun i x hx=> by rw [Nat.zero_add]; exact hc i x hx⟩,h2 m⟩
  · cases h
def slGK (P : Program) (cf : Cf) : Option (List D × Nat × Nat × Bool) :=
  match opAt cf with
  | some a=> match a.o.op with
    | .slice t x none none none=> match tabOf x,P.underlying t with
      | some ds,some (.array n e)=> match tinf P e with
        | some i=> some (ds,i.sz,n,Nat.ble n 1000000)
        | none=> none
      | _,_=> none
    | _=> none
  | none=> none
theorem go_slG (hm : P.follows .mixedOrders = true) {n k : Nat} {cf : Cf} {α : Type} {E : α → List D} (xs : List α) (hE : ∀ x,(E x).length = k)
    (e : (slGK P (adv P N n cf).1,((adv P N n cf).2 ++ esOf (adv P N n cf).1).map (·.1)) = (some (xs.flatMap E,k,xs.length,true),((adv P N n cf).2 ++ esOf (adv P N n cf).1).map (·.2)))
    (g : Go ρ P N D0 Q As η0 m0 (pushVR N (adv P N n cf).1 (.d (.sl α E xs)) [])) : Go ρ P N D0 Q As η0 m0 cf:= by
  simp only [Prod.mk.injEq] at e
  obtain ⟨e1,e3⟩:= e
  obtain ⟨he1,he2⟩:= EqsOk.two e3
  refine adv_ok hm he1 ?_
  generalize (adv P N n cf).1 = c0 at *
  unfold slGK at e1
  split at e1
  · rename_i a ha
    rw [esOf_of ha] at he2
    split at e1
    · rename_i t x hop
      split at e1
      · rename_i ds nn ee hx hu
        split at e1
        · rename_i i hi
          simp only [Option.some.injEq,Prod.mk.injEq] at e1
          obtain ⟨rfl,hk,rfl,hle⟩:= e1
          refine go_valR (rd:= []) ha he2 nil_rd (fun hp=> ?_) g
          obtain ⟨ll,⟨dst,op',ty,pos,af,gd⟩,gg,sl,es⟩:= a
          simp only at hop ⊢; subst hop
          refine ⟨Nat.le_refl _,fun rest Q η m f w As hr hz hn S hk'=> ?_⟩
          obtain ⟨cs,hp1,hp2⟩:= tabOf_ok hx S (f:= f)
          letI:= gotE E k
          have hle:= Nat.le_of_ble_eq_true hle
          refine s_sliceM (α:= α) (cs:= cs) (ds:= []) (xs:= xs) rfl (by rw [List.append_nil]; exact hp1) (repE hp2 fun x _=> hE x) rfl (by omega) hu (fun w=> by have:= tinf_sz hi w; rw [hk] at this; exact this) fun u hu'=> ?_
          exact hk' η m w u Env.le_refl (Mem.rfl' m) (fun n h=> .inl h) (.d (to_sl hu')) S
        · cases e1
      · cases e1
    · cases e1
  · cases e1
def idGK (P : Program) (cf : Cf) : Option (List D × Int × Nat × Nat) :=
  match opAt cf with
  | some a=> match a.o.op with
    | .indexAddr t x y=> match tabOf x,P.underlying t,toIv a.sl y with
      | some ds,some (.array n e),some (_,j)=> match tinf P e with
        | some i=> some (ds,j,i.sz,n)
        | none=> none
      | _,_,_=> none
    | _=> none
  | none=> none
theorem go_idG (hm : P.follows .mixedOrders = true) {n k : Nat} {cf : Cf} {α : Type} {E : α → List D} (xs : List α) {j : Int} {z : α} (hE : ∀ x,(E x).length = k) (hq : gOf (adv P N n cf).1 = true → idx xs j = some z)
    (e : (idGK P (adv P N n cf).1,((adv P N n cf).2 ++ esOf (adv P N n cf).1).map (·.1)) = (some (xs.flatMap E,j,k,xs.length),((adv P N n cf).2 ++ esOf (adv P N n cf).1).map (·.2)))
    (g : Go ρ P N D0 Q As η0 m0 (pushVR N (adv P N n cf).1 (.d (.pf (E z))) [])) : Go ρ P N D0 Q As η0 m0 cf:= by
  simp only [Prod.mk.injEq] at e
  obtain ⟨e1,e3⟩:= e
  obtain ⟨he1,he2⟩:= EqsOk.two e3
  refine adv_ok hm he1 ?_
  generalize (adv P N n cf).1 = c0 at *
  unfold idGK at e1
  split at e1
  · rename_i a ha
    rw [esOf_of ha] at he2
    split at e1
    · rename_i t x y hop
      split at e1
      · rename_i ds nn ee kk jj hx hu hj
        split at e1
        · rename_i i hi
          simp only [Option.some.injEq,Prod.mk.injEq] at e1
          obtain ⟨rfl,rfl,hk,rfl⟩:= e1
          refine go_valR (rd:= []) ha he2 nil_rd (fun hp=> ?_) g
          have q:= hq (gOf_of ha hp)
          obtain ⟨ll,⟨dst,op',ty,pos,af,gd⟩,gg,sl,es⟩:= a
          simp only at hop hj ⊢; subst hop
          refine ⟨Nat.le_refl _,fun rest Q η m f w As hr hz hn S hk'=> ?_⟩
          obtain ⟨cs,hp1,hp2⟩:= tabOf_ok hx S (f:= f)
          letI:= gotE E k
          have hrep : GoT.rep m ((cs.drop (jj.toNat * k)).take k) z:= RepL.getI (repE hp2 fun x _=> hE x) q
          obtain ⟨q1,q2⟩:= if_some q
          have hlt : jj.toNat < xs.length:= (List.getElem?_eq_some_iff.1 q2).1
          refine s_idxAM (sz:= k) rfl (toIv_val hj hr) hp1 hu (fun w=> by have:= tinf_sz hi w; rw [hk] at this; exact this) q1 (by omega) fun p hp=> ?_
          obtain ⟨b,off,l,e',fr,rfl,hb,hc⟩:= hp
          refine hk' η m w _ Env.le_refl (Mem.rfl' m) (fun n h=> .inl h) (.d (.pf ⟨b,off,l,e',fr,rfl,hb,fun i x hx=> hc i x ?_⟩ rfl hrep.1.1 hrep.1.2)) S
          rw [List.getElem?_take] at hx
          split at hx
          · exact hx
          · cases hx
        · cases e1
      · cases e1
    · cases e1
  · cases e1
def dynP (cf : Cf) : Option (Value × List AV) :=
  match opAt cf with
  | some a=> match a.o.op with
    | .call c=> match c.callee with
      | .value (.tmp t)=> match get a.sl t with
        | .d (.v x)=> some (x,c.args.toList.map (aev a.sl))
        | _=> none
      | _=> none
    | _=> none
  | none=> none
theorem go_dyn (hm : P.follows .mixedOrders = true) {n : Nat} {cf : Cf} {x : Int} {ea : List AV} {r : AV} (hs : gOf (adv P N n cf).1 = true → ∃ k : Nat,x = (k : Int) ∧ Sf P k ea r)
    (e : ((dynP (adv P N n cf).1).map (fun p=> (p.1,zipV (adv P N n cf).1.s.fz ea p.2)),ea.all (okA 0),((adv P N n cf).2 ++ esOf (adv P N n cf).1).map (·.1)) = (some (fnV x,ea),true,((adv P N n cf).2 ++ esOf (adv P N n cf).1).map (·.2)))
    (g : Go ρ P N D0 Q As η0 m0 (pushV N (adv P N n cf).1 r)) : Go ρ P N D0 Q As η0 m0 cf:= by
  simp only [Prod.mk.injEq] at e
  obtain ⟨e1,e2,e3⟩:= e
  obtain ⟨he1,he2⟩:= EqsOk.two e3
  refine adv_ok hm he1 ?_
  generalize (adv P N n cf).1 = c0 at *
  cases hq : dynP c0 with
  | none=> rw [hq] at e1; cases e1
  | some p =>
    rw [hq] at e1
    simp only [Option.map_some,Option.some.injEq,Prod.mk.injEq] at e1
    obtain ⟨e4,e5⟩:= e1
    unfold dynP at hq
    split at hq
    · rename_i a ha
      have hes : esOf c0 = a.es:= by unfold esOf; rw [ha]
      rw [hes] at he2
      refine go_val ha he2 (fun hp=> ?_) g
      have hg : gOf c0 = true:= by
        unfold gOf; rw [ha]
        obtain ⟨l,o,gg,sl,es⟩:= a
        cases gg with
        | none=> rfl
        | some q=> exact hp q rfl
      obtain ⟨k,hxk,hS⟩:= hs hg
      obtain ⟨l,⟨dst,op,ty,pos,af,gd⟩,gg,sl,es⟩:= a
      simp only at hq ⊢
      split at hq
      · rename_i c
        obtain ⟨ce,xs,ts⟩:= c
        obtain ⟨xs⟩:= xs
        simp only at hq
        split at hq
        · rename_i t
          split at hq
          · rename_i v hv
            cases hq
            simp only at e4 e5
            subst e4
            refine ⟨Nat.le_refl _,fun rest Q η m f w As hr hz hn St0 hk=> ?_⟩
            have rt:= hr t
            rw [hv,hxk] at rt
            have hval : f t = .func (.func k) #[] #[]:= by
              have:= rt.dd
              generalize f t = u at this
              cases this; rfl
            have ra:= RelL.map_aev hr xs
            refine s_callV (x:= .tmp t) (g:= .func (.func k) #[] #[]) (R:= fun v w'=> ∃ (M : Mem) (η' : Env) (r' : AV) (obs' : List AObj) (n1 : Nat),m ≤ M ∧ none0.le η' ∧ is r [] 0 r' obs' n1 ∧ (∀ n,η' n ≠ none → n < n1) ∧ Rel η' M r' v ∧ St M (obs'.map (rep η' M) ++ As) w') hval (CallV.clo (pre:= []) (caps:= []) hS.1 rfl (by
              simp only [List.nil_append,List.append_nil]
              refine hS.2 none0 m As w _ ?_ (fun n h=> absurd rfl h) St0
              have h1:= zipV_rel (es:= ea) hz ra
              exact okL_rel (η:= η) (n:= 0) (fun k h=> absurd h (by omega)) e2 (by rw [e5] at h1; exact h1))) rfl ?_
            rintro v w2 ⟨M,η',r',obs',n1,hle,_,⟨rfl,rfl,rfl⟩,hdom,hR,S⟩
            have hη : η'.le η:= fun n u h=> by have:= hdom n (by rw [h]; simp); omega
            exact hk η M w2 v Env.le_refl hle (fun n h=> .inl h) (hR.up hη (Mem.rfl' M)) S
          · cases hq
        · cases hq
      · cases hq
    · cases hq
def nilBK (s : AS) (t j : Nat) : Option (Nat × Nat × List AV × TypeId) :=
  match get s.sl t with
  | .pb n 0=> match find n s.ob with
    | some (i,.box k cs ty)=> match cs[j]? with
      | some a=> bif Nat.beq k n && isNilA a then some (i,n,cs,ty) else none
      | none=> none
    | _=> none
  | _=> none
def setTok (i : Nat) (o : AObj) (ob : List Tok) : List Tok:= ob.map fun p=> bif Nat.beq p.1 i then (i,o) else p
def nilBS (s : AS) (t j sz : Nat) (α : Type) (E : α → List D) : AS :=
  match nilBK s t j with
  | some (i,n,cs,ty)=> ⟨s.sl,setTok i (.box n (cs.set j (.ow s.nx)) ty) s.ob ++ [(s.nx,.row s.nx sz α E [])],s.fz,s.nx + 1⟩
  | none=> s
theorem setTok_tids {i : Nat} {o : AObj} : ∀ {ob : List Tok},tids (setTok i o ob) = tids ob
  | []=> rfl
  | p :: l=> by
    show (bif Nat.beq p.1 i then (i,o) else p).1 :: tids (setTok i o l) = p.1 :: tids l
    rw [setTok_tids]
    cases hb : Nat.beq p.1 i
    · rfl
    · have:= Nat.eq_of_beq_eq_true hb; simp [this]
theorem setTok_none {i : Nat} {o : AObj} : ∀ {ob : List Tok},i ∉ tids ob → setTok i o ob = ob
  | [],_=> rfl
  | p :: l,h=> by
    have h1 : p.1 ≠ i:= fun e=> h (by rw [← e]; exact List.mem_cons_self)
    have h2 : i ∉ tids l:= fun e=> h (List.mem_cons_of_mem _ e)
    show (bif Nat.beq p.1 i then (i,o) else p) :: setTok i o l = p :: l
    rw [setTok_none h2]
    cases hb : Nat.beq p.1 i
    · rfl
    · exact absurd (Nat.eq_of_beq_eq_true hb) h1
theorem setTok_at {i : Nat} {o q : AObj} {ob : List Tok} (hn : (tids ob).Nodup) (h : (i,q) ∈ ob) : ∃ l1 l2,ob = l1 ++ (i,q) :: l2 ∧ setTok i o ob = l1 ++ (i,o) :: l2:= by
  obtain ⟨l1,l2,rfl⟩:= List.append_of_mem h
  refine ⟨l1,l2,rfl,?_⟩
  have hn' : (tids l1 ++ i :: tids l2).Nodup:= by simpa [tids] using hn
  obtain ⟨n1,n2,n3⟩:= List.nodup_append.1 hn'
  have a1 : i ∉ tids l1:= fun e=> n3 i e i List.mem_cons_self rfl
  have a2 : i ∉ tids l2:= (List.nodup_cons.1 n2).1
  have e1:= setTok_none (o:= o) a1
  have e2:= setTok_none (o:= o) a2
  unfold setTok at *
  rw [List.map_append,List.map_cons,e1,e2]
  simp
theorem nilB_gm {s : AS} {η : Env} {m : Mem} {f : Fr} {w : World} {t j sz : Nat} {α : Type} {E : α → List D} (h : (nilBK s t j).isSome = true) (g : Gm As s η m f w) :
    ∃ η',η.le η' ∧ Gm As (nilBS s t j sz α E) η' m f w:= by
  cases hk : nilBK s t j with
  | none=> rw [hk] at h; cases h
  | some r =>
    obtain ⟨i,n,cs,ty⟩:= r
    have hS : nilBS s t j sz α E = ⟨s.sl,setTok i (.box n (cs.set j (.ow s.nx)) ty) s.ob ++ [(s.nx,.row s.nx sz α E [])],s.fz,s.nx + 1⟩:= by unfold nilBS; rw [hk]
    rw [hS]
    unfold nilBK at hk
    split at hk
    · rename_i n' hsl
      split at hk
      · rename_i i' k' cs' ty' hf
        split at hk
        · rename_i a ha
          cases hb : Nat.beq k' n' && isNilA a
          · rw [hb] at hk; cases hk
          · rw [hb] at hk
            simp only [cond_true,Option.some.injEq,Prod.mk.injEq] at hk
            obtain ⟨rfl,rfl,rfl,rfl⟩:= hk
            simp only [Bool.and_eq_true] at hb
            have hkn:= Nat.eq_of_beq_eq_true hb.1
            subst hkn
            have h0 : η s.nx = none:= by
              cases q : η s.nx with
              | none=> rfl
              | some v=> have:= g.dom s.nx (by rw [q]; simp); omega
            have le:= Env.le_put (v:= .slice none 0 0) h0
            obtain ⟨l1,l2,e1,e2⟩:= setTok_at (o:= .box k' (cs'.set j (.ow s.nx)) ty') g.wf.nd (find_nm hf)
            refine ⟨η.put s.nx (.slice none 0 0),le,fun u=> (g.slr u).up le (Mem.rfl' m),g.fz.up le (Mem.rfl' m),fun x hx=> ?_,?_,?_,fun x hx=> ?_⟩
            · rcases Env.put_dom hx with q | q
              · exact Nat.lt_succ_of_lt (g.dom x q)
              · subst q; exact Nat.lt_succ_self _
            · have S0:= St.ru le (Mem.rfl' m) g.st
              rw [e1] at S0
              have S1:= St.rp S0 (List.perm_middle (a:= (i',AObj.box k' cs' ty')) (l₁:= l1) (l₂:= l2))
              have S2 : St m (rep (η.put s.nx (.slice none 0 0)) m (.box k' (cs'.set j (.ow s.nx)) ty') :: (reps (η.put s.nx (.slice none 0 0)) m (l1 ++ l2) ++ As)) w:= by
                refine St.imp0 S1 fun x hx=> ?_
                obtain ⟨b,vs,q1,q2,q3,q4⟩:= hx
                refine ⟨b,vs,q1,⟨by rw [List.length_set]; exact q2.1,fun k c u hc hu=> ?_⟩,q3,q4⟩
                rw [List.getElem?_set] at hc
                split at hc
                · rename_i e; subst e
                  split at hc
                  · cases hc
                    have hr:= q2.2 _ a u ha hu
                    have hu0 : u = .slice none 0 0:= by
                      have hb2:= hb.2
                      unfold isNilA at hb2
                      split at hb2
                      · have:= hr.dd; cases this; rfl
                      · cases hb2
                    rw [hu0]; exact .ow Env.put_self rfl
                  · cases hc
                · exact q2.2 k c u hc hu
              have T:= St.closeRow (η:= η.put s.nx (.slice none 0 0)) (n:= s.nx) (E:= E) (xs:= []) Env.put_self rfl (by simpa using FRL.nil) (fun _ h=> by cases h) (St.rowNil S2 sz)
              show St m (reps _ m (setTok i' _ s.ob ++ [_]) ++ As) w
              rw [e2,reps_app,List.append_assoc]
              have T2 : St m (rep (η.put s.nx (.slice none 0 0)) m (.row s.nx sz α E []) :: (reps (η.put s.nx (.slice none 0 0)) m (l1 ++ (i',.box k' (cs'.set j (.ow s.nx)) ty') :: l2) ++ As)) w:= by
                refine T.perm (List.Perm.cons _ ?_)
                rw [reps_app,reps_app,reps_cons,List.append_assoc,List.append_assoc]
                exact List.perm_middle.symm
              exact T2.perm (List.perm_middle.symm)
            · show (tids (setTok i' _ s.ob ++ [_])).Nodup
              simp only [tids,List.map_append,List.map_cons,List.map_nil]
              have e3:= setTok_tids (i:= i') (o:= .box k' (cs'.set j (.ow s.nx)) ty') (ob:= s.ob)
              unfold tids at e3
              rw [e3]
              refine List.nodup_append.2 ⟨g.wf.nd,by simp,fun a ha b hb e=> ?_⟩
              simp at hb
              have:= g.wf.lt a ha
              omega
            · have hx' : x ∈ tids (setTok i' (.box k' (cs'.set j (.ow s.nx)) ty') s.ob ++ [(s.nx,AObj.row s.nx sz α E [])]):= hx
              unfold tids at hx'
              rw [List.map_append,List.mem_append] at hx'
              have e3:= setTok_tids (i:= i') (o:= .box k' (cs'.set j (.ow s.nx)) ty') (ob:= s.ob)
              unfold tids at e3
              rcases hx' with q | q
              · rw [e3] at q; exact Nat.lt_succ_of_lt (g.wf.lt x q)
              · simp at q; subst q; exact Nat.lt_succ_self _
        · cases hk
      · cases hk
    · cases hk
def nilBC (cf : Cf) (t j sz : Nat) (α : Type) (E : α → List D) : Cf:= ⟨nilBS cf.s t j sz α E,cf.md,cf.K⟩
theorem nilB_go {cf : Cf} {t j sz : Nat} {α : Type} {E : α → List D} (hp : plainMd cf = true) (h : (nilBK cf.s t j).isSome = true) (g : Go ρ P N D0 Q As η0 m0 (nilBC cf t j sz α E)) : Go ρ P N D0 Q As η0 m0 cf:= by
  obtain ⟨s,md,K⟩:= cf
  have key : ∀ {R : Fr → World → Prop},Al As η0 m0 (nilBS s t j sz α E) R → Al As η0 m0 s R:= fun k η m f w a1 a2 gm =>
    let ⟨η',le,gm'⟩:= nilB_gm h gm; k η' m f w (Env.le_tr a1 le) a2 gm'
  cases md with
  | ops=> cases hp
  | code c=> exact key g
  | pop=> exact key g
  | ext id=> exact key g
  | ret=> exact key g
theorem go_nilBU {id : Nat} (hm : P.follows .mixedOrders = true) {n : Nat} {cf : Cf} {α : Type} {E : α → List D} (t j sz : Nat)
    (e : (plainMd (advU id P N n cf).1,(nilBK (advU id P N n cf).1.s t j).isSome,((advU id P N n cf).2).map (·.1)) = (true,true,((advU id P N n cf).2).map (·.2)))
    (g : Go ρ P N D0 Q As η0 m0 (nilBC (advU id P N n cf).1 t j sz α E)) : Go ρ P N D0 Q As η0 m0 cf:= by
  simp only [Prod.mk.injEq] at e
  exact advU_ok hm (.of e.2.2) (nilB_go e.1 e.2.1 g)
end
end Go.Ax
end
section
namespace Go.Ax
open Go Go.Gw
def atD (d : Nat) (cf : Cf) : Bool:= match cf.md with
  | .ops _ _ (o :: _) _=> match o.dst with | some k=> Nat.beq k d | none=> false
  | _=> false
def advD (d : Nat) (P : Program) (N : Nat) : Nat → Cf → Cf × Eqs
  | 0,cf=> (cf,[])
  | n + 1,cf=> bif atD d cf then (cf,[]) else match nxt P N cf with
    | some r=> let q:= advD d P N n r.1; (q.1,r.2 ++ q.2)
    | none=> (cf,[])
def allD : List AV → Option (List D)
  | []=> some []
  | .d x :: l=> match allD l with
    | some r=> some (x :: r)
    | none=> none
  | _=> none
def boxFK (cf : Cf) : Option (List D) :=
  match opAt cf with
  | some a=> match a.o.op with
    | .box e x=> match cellsA (rv cf.s.fz a.sl x) with
      | some cs=> allD cs
      | none=> none
    | _=> none
  | none=> none
def slMK (P : Program) (cf : Cf) : Option (List D × Nat × Nat × Bool) :=
  match opAt cf with
  | some a=> match a.o.op with
    | .slice t x none none none=> match aev a.sl x,P.underlying t with
      | .d (.pf ds),some (.array n e)=> match tinf P e with
        | some i=> some (ds.take (n * i.sz),i.sz,n,Nat.ble n 1000000)
        | none=> none
      | _,_=> none
    | _=> none
  | none=> none
theorem allD_rel {η : Env} {m : Mem} : ∀ {cs : List AV} {ds : List D} {vs : List Value},allD cs = some ds → RelL η m cs vs → FRL m ds vs
  | [],ds,vs,h,r=> by cases h; have:= r.nil_inv; subst this; exact FRL.nil
  | .d x :: l,ds,vs,h,r=> by
    obtain ⟨v,us,rfl,a,b⟩:= r.cons_inv
    unfold allD at h
    split at h
    · rename_i q hq
      cases h
      exact FRL.cons a.dd (allD_rel hq b)
    · cases h
  | .any :: l,ds,vs,h,r=> by simp [allD] at h
  | .no :: l,ds,vs,h,r=> by simp [allD] at h
  | .pb _ _ :: l,ds,vs,h,r=> by simp [allD] at h
  | .pe _ _ _ _ :: l,ds,vs,h,r=> by simp [allD] at h
  | .ow _ :: l,ds,vs,h,r=> by simp [allD] at h
  | .ab _ :: l,ds,vs,h,r=> by simp [allD] at h
  | .agg _ :: l,ds,vs,h,r=> by simp [allD] at h
  | .tup _ :: l,ds,vs,h,r=> by simp [allD] at h
  | .fn _ _ _ :: l,ds,vs,h,r=> by simp [allD] at h
  | .gd _ _ _ _ :: l,ds,vs,h,r=> by simp [allD] at h
section
variable {ρ : Option Nat} {P : Program} {N : Nat} {D0 : Dw} {Q : Post} {As : List Ow} {η0 : Env} {m0 : Mem}
theorem advD_ok {d : Nat} (hm : P.follows .mixedOrders = true) : ∀ {n : Nat} {cf : Cf},EqsOk (advD d P N n cf).2 → Go ρ P N D0 Q As η0 m0 (advD d P N n cf).1 → Go ρ P N D0 Q As η0 m0 cf
  | 0,_,_,g=> g
  | n + 1,cf,he,g=> by
    cases hb : atD d cf with
    | true =>
      have e : advD d P N (n + 1) cf = (cf,[]):= by simp only [advD,hb,cond_true]
      rw [e] at g; exact g
    | false =>
      cases hr : nxt P N cf with
      | none =>
        have e : advD d P N (n + 1) cf = (cf,[]):= by simp only [advD,hr,hb,cond_false]
        rw [e] at g; exact g
      | some r =>
        have e : advD d P N (n + 1) cf = ((advD d P N n r.1).1,r.2 ++ (advD d P N n r.1).2):= by simp only [advD,hr,hb,cond_false]
        rw [e] at g he
        have he':= EqsOk.app.1 he
        exact nxt_ok hm hr he'.1 (advD_ok hm (n:= n) he'.2 g)
theorem go_boxF (d : Nat) (ds : List D) (hm : P.follows .mixedOrders = true) {n : Nat} {cf : Cf}
    (e : (boxFK (advD d P N n cf).1,((advD d P N n cf).2 ++ esOf (advD d P N n cf).1).map (·.1)) = (some ds,((advD d P N n cf).2 ++ esOf (advD d P N n cf).1).map (·.2)))
    (g : Go ρ P N D0 Q As η0 m0 (pushVR N (advD d P N n cf).1 (.d (.pf ds)) [])) : Go ρ P N D0 Q As η0 m0 cf:= by
  simp only [Prod.mk.injEq] at e
  obtain ⟨e1,e3⟩:= e
  obtain ⟨he1,he2⟩:= EqsOk.two e3
  refine advD_ok hm he1 ?_
  generalize (advD d P N n cf).1 = c0 at *
  unfold boxFK at e1
  split at e1
  · rename_i a ha
    rw [esOf_of ha] at he2
    split at e1
    · rename_i t x hop
      split at e1
      · rename_i cs hc
        refine go_valR (rd:= []) ha he2 nil_rd (fun hp=> ?_) g
        obtain ⟨ll,⟨dst,op',ty,pos,af,gd⟩,gg,sl,es⟩:= a
        simp only at hop hc ⊢; subst hop
        refine ⟨Nat.le_refl _,fun rest Q η m f w As hr hz hn S hk'=> ?_⟩
        obtain ⟨hl,hh⟩:= cells_rel hc (rv_rel hz hr x)
        have hf:= allD_rel e1 hl
        refine s_box S rfl fun b w' S'=> ?_
        obtain ⟨m',le,hp',S2⟩:= St.bxKeep (i:= 0) S' rfl
        exact hk' η m' w' (pt b 0) Env.le_refl le (fun n h=> .inl h) (.d (.pf hp' rfl (hf.up le).1 (hf.up le).2)) (St.ru Env.le_refl le S2)
      · cases e1
    · cases e1
  · cases e1
theorem go_slM (hm : P.follows .mixedOrders = true) {n k : Nat} {cf : Cf} {α : Type} {E : α → List D} (xs : List α) (hE : ∀ x,(E x).length = k)
    (e : (slMK P (adv P N n cf).1,((adv P N n cf).2 ++ esOf (adv P N n cf).1).map (·.1)) = (some (xs.flatMap E,k,xs.length,true),((adv P N n cf).2 ++ esOf (adv P N n cf).1).map (·.2)))
    (g : Go ρ P N D0 Q As η0 m0 (pushVR N (adv P N n cf).1 (.d (.sl α E xs)) [])) : Go ρ P N D0 Q As η0 m0 cf:= by
  simp only [Prod.mk.injEq] at e
  obtain ⟨e1,e3⟩:= e
  obtain ⟨he1,he2⟩:= EqsOk.two e3
  refine adv_ok hm he1 ?_
  generalize (adv P N n cf).1 = c0 at *
  unfold slMK at e1
  split at e1
  · rename_i a ha
    rw [esOf_of ha] at he2
    split at e1
    · rename_i t x hop
      split at e1
      · rename_i ds nn ee hx hu
        split at e1
        · rename_i i hi
          simp only [Option.some.injEq,Prod.mk.injEq] at e1
          obtain ⟨hd,hk,rfl,hle⟩:= e1
          refine go_valR (rd:= []) ha he2 nil_rd (fun hp=> ?_) g
          obtain ⟨ll,⟨dst,op',ty,pos,af,gd⟩,gg,sl,es⟩:= a
          simp only at hop hx ⊢; subst hop
          refine ⟨Nat.le_refl _,fun rest Q η m f w As hr hz hn S hk'=> ?_⟩
          have rx:= aev_rel hr x
          rw [hx] at rx
          obtain ⟨cs,hp1,hp2⟩:= FRL.ptc (n:= 0) rx.dd
          letI:= gotE E k
          have hle:= Nat.le_of_ble_eq_true hle
          have ht:= hp2.take (xs.length * i.sz)
          rw [hd] at ht
          refine s_sliceM (α:= α) (cs:= cs.take (xs.length * i.sz)) (ds:= cs.drop (xs.length * i.sz)) (xs:= xs) rfl (by rw [List.take_append_drop]; exact hp1) (repE ht fun x _=> hE x) rfl (by omega) hu (fun w=> by have:= tinf_sz hi w; rw [hk] at this; exact this) fun u hu'=> ?_
          exact hk' η m w u Env.le_refl (Mem.rfl' m) (fun n h=> .inl h) (.d (to_sl hu')) S
        · cases e1
      · cases e1
    · cases e1
  · cases e1
end
def cntS (s : ByteArray) (c : UInt8) : Int:= (Lib.countByte s.data.toList c : Nat)
def ixbS (s : ByteArray) (c : UInt8) : Int:= Lib.indexByte s.data.toList c
structure ExtSB (P : Program) (fn : Func) (F : ByteArray → UInt8 → Int) : Prop where
  hname : (fn.name == "runtime.NumGoroutine") = false
  hb : fn.body.isNone = true
  hn : Extern.findNext fn = none
  he : ∃ E,Extern.find fn = some E ∧ ∀ s c w,(E #[vS s,vB c]).run P w = .ok (vI (F s c)) w
theorem extCnt {P : Program} {fn : Func} (hname : (fn.name == "runtime.NumGoroutine") = false) (hb : fn.body.isNone = true) (hn : Extern.findNext fn = none) (he : Extern.find fn = some Extern.BytealgCount.count) : ExtSB P fn cntS :=
  ⟨hname,hb,hn,_,he,fun s c w=> by
    have:= Lib.run_countString (P:= P) s (c.toNat : Int) w
    rw [show ((c.toNat : Int).toNat).toUInt8 = c by simp] at this
    exact this⟩
theorem extIxb {P : Program} {fn : Func} (hname : (fn.name == "runtime.NumGoroutine") = false) (hb : fn.body.isNone = true) (hn : Extern.findNext fn = none) (he : Extern.find fn = some Extern.BytealgIndexByte.indexByte) : ExtSB P fn ixbS :=
  ⟨hname,hb,hn,_,he,fun s c w=> by
    have:= Lib.run_indexByteString (P:= P) s (c.toNat : Int) w
    rw [show ((c.toNat : Int).toNat).toUInt8 = c by simp] at this
    exact this⟩
def extK (cf : Cf) : Option (FuncId × AV × AV) :=
  match opAt cf with
  | some a=> match a.o.op with
    | .call c=> match c.callee,c.args.toList with
      | .value (.func k),[x,y]=> some (k,aev a.sl x,aev a.sl y)
      | _,_=> none
    | _=> none
  | none=> none
section
variable {ρ : Option Nat} {P : Program} {N : Nat} {D0 : Dw} {Q : Post} {As : List Ow} {η0 : Env} {m0 : Mem}
variable {ops : Array Oper} {rest : List Oper} {f : Fr} {w w' : World} {dst : Option Nat} {ty : TypeId} {pos : String} {af : Array Edge} {x y : Operand}
theorem s_extSB {k : FuncId} {fn : Func} {F : ByteArray → UInt8 → Int} {p : ByteArray} {q : UInt8} {ats : Array TypeId} (hf : P.funcs[k]? = some fn) (hE : ExtSB P fn F) (hx : ev f x = vS p) (hy : ev f y = vB q)
    (h : wpl ρ P N D0 ops rest Q (upo N f dst (vI (F p q))) w) :
    wpl ρ P N D0 ops (⟨dst,.call { callee:= .value (.func k),args:= #[x,y],argTypes:= ats },ty,pos,af,none⟩ :: rest) Q f w:= by
  obtain ⟨hname,hb,hn,E,he,hr0⟩:= hE
  refine wpl_val (v:= vI (F p q)) (w':= w) rfl (fun _ e=> by cases e) ?_ h
  have hr:= run_callFunc_extern hf hname hb hn he #[vS p,vB q] w
  rw [hr0] at hr
  simp only [ev] at hx hy
  simp only [execOp,resolve,invoke,Deferred.ofValue,List.map_toArray,List.map_cons,List.map_nil,ev,hx,hy,Sem.run_bind,Sem.run_pure,Result.andThen_ok,Array.empty_append,Array.append_empty,hr,Result.andThen]
theorem go_ext (hm : P.follows .mixedOrders = true) {n : Nat} {cf : Cf} {k : FuncId} {fn : Func} {F : ByteArray → UInt8 → Int} {p : ByteArray} {q : UInt8} (hf : P.funcs[k]? = some fn) (hE : ExtSB P fn F)
    (e : (extK (adv P N n cf).1,((adv P N n cf).2 ++ esOf (adv P N n cf).1).map (·.1)) = (some (k,.d (.s p),.d (.b q)),((adv P N n cf).2 ++ esOf (adv P N n cf).1).map (·.2)))
    (g : Go ρ P N D0 Q As η0 m0 (pushVR N (adv P N n cf).1 (.d (.i (F p q))) [])) : Go ρ P N D0 Q As η0 m0 cf:= by
  simp only [Prod.mk.injEq] at e
  obtain ⟨e1,e3⟩:= e
  obtain ⟨he1,he2⟩:= EqsOk.two e3
  refine adv_ok hm he1 ?_
  generalize (adv P N n cf).1 = c0 at *
  unfold extK at e1
  split at e1
  · rename_i a ha
    rw [esOf_of ha] at he2
    split at e1
    · rename_i c hop
      split at e1
      · rename_i k' x y hc hargs
        simp only [Option.some.injEq,Prod.mk.injEq] at e1
        obtain ⟨rfl,ex,ey⟩:= e1
        refine go_valR (rd:= []) ha he2 nil_rd (fun hp=> ?_) g
        obtain ⟨l,⟨dst,op',ty,pos,af,gd⟩,gg,sl,es⟩:= a
        obtain ⟨cc,cas,cts⟩:= c
        simp only at hop ex ey hc hargs ⊢; subst hop hc
        have ha' : cas = #[x,y]:= by apply Array.toList_inj.mp; rw [hargs]
        subst ha'
        refine ⟨Nat.le_refl _,fun rest Q η m f w As hr hz hn S hk=> ?_⟩
        have rx:= aev_rel hr x
        have ry:= aev_rel hr y
        rw [ex] at rx
        rw [ey] at ry
        exact s_extSB hf hE rx.s_inv ry.b_inv (hk η m w _ Env.le_refl (Mem.rfl' m) (fun n h=> .inl h) (.d (.i _)) S)
      · cases e1
    · cases e1
  · cases e1
theorem s_cutSt {t : TypeId} {s z : ByteArray} {lo hi : Option Operand} {l h : Int} (hx : ev f x = vS s) (hu : P.underlying t = some .string)
    (hlo : (lo = none ∧ l = 0) ∨ ∃ o k,lo = some o ∧ ev f o = .int k l) (hhi : (hi = none ∧ h = (s.size : Int)) ∨ ∃ o k,hi = some o ∧ ev f o = .int k h) (hq : cutS s l h = some z)
    (hk : wpl ρ P N D0 ops rest Q (upo N f dst (vS z)) w) : wpl ρ P N D0 ops (⟨dst,.slice t x lo hi none,ty,pos,af,none⟩ :: rest) Q f w:= by
  refine wpl_val (v:= vS z) (w':= w) rfl (fun _ e=> by cases e) ?_ hk
  have key : (Instr.slice t (.string s) (lo.map (ev f)) (hi.map (ev f)) none).run P w = .ok (.string z) w:= by
    refine run_cutS hu ?_ ?_ hq
    · rcases hlo with ⟨rfl,rfl⟩ | ⟨o,k,rfl,e⟩
      · exact .inl ⟨rfl,rfl⟩
      · exact .inr ⟨k,by simp only [Option.map_some,e]⟩
    · rcases hhi with ⟨rfl,rfl⟩ | ⟨o,k,rfl,e⟩
      · exact .inl ⟨rfl,rfl⟩
      · exact .inr ⟨k,by simp only [Option.map_some,e]⟩
  simp [execOp,hx,Instr.sliceAt,run_underlying hu,key]
end
end Go.Ax
end
section
namespace Go.Ax
open Go Go.Gw
section
variable {ρ : Option Nat} {P : Program} {N : Nat} {D0 : Dw} {Q Q' : Post} {As : List Ow} {η0 : Env} {m0 : Mem}
theorem pk_mono (hq : ∀ e f w,Q e f w → Q' e f w) : ∀ {K : List Kt} {e : Exit} {f : Fr} {w : World},pk ρ P N D0 Q K e f w → pk ρ P N D0 Q' K e f w
  | [],e,f,w,h=> hq e f w h
  | .code c :: K,e,f,w,h=> by
    cases e with
    | normal=> exact wpc_mono (fun e f w q=> pk_mono hq q) h
    | _=> exact pk_mono hq (K:= K) h
  | .blk id :: K,e,f,w,h=> by
    cases e with
    | exit id' =>
      simp only [pk,inBlk] at h ⊢
      cases hb : Nat.beq id' id
      · rw [hb] at h; exact pk_mono hq (K:= K) h
      · rw [hb] at h; exact pk_mono hq (K:= K) h
    | _=> exact pk_mono hq (K:= K) h
  | .scp :: K,e,f,w,h=> by
    cases e with
    | goto l=> exact h.elim
    | _=> exact pk_mono hq (K:= K) h
  | .ctn J :: K,e,f,w,h=> by
    cases e with
    | normal=> exact h
    | _=> exact pk_mono hq (K:= K) h
theorem FT_mono {ops : Array Oper} {F F' : AS → List (Oper × Stp) → Prop} (hF : ∀ s h,F s h → F' s h) : ∀ {l : List Oper} {s : AS} {h : List (Oper × Stp)},FT ρ P N D0 ops F l s h → FT ρ P N D0 ops F' l s h
  | [],s,h,g=> hF s h g
  | o :: l,s,h,⟨r,t1,t2,t3⟩=> ⟨r,t1,t2,FT_mono hF t3⟩
theorem Go.mono (hq : ∀ e f w,Q e f w → Q' e f w) {cf : Cf} (h : Go ρ P N D0 Q As η0 m0 cf) : Go ρ P N D0 Q' As η0 m0 cf:= by
  obtain ⟨s,md,K⟩:= cf
  cases md with
  | code c=> exact fun η m f w a b g=> wpc_mono (fun e f w q=> pk_mono hq q) (h η m f w a b g)
  | pop=> exact fun η m f w a b g=> pk_mono hq (h η m f w a b g)
  | ext id=> exact fun η m f w a b g=> pk_mono hq (h η m f w a b g)
  | ret=> exact fun η m f w a b g=> pk_mono hq (h η m f w a b g)
  | ops dr l rest hh =>
    rcases h with h | ⟨hd,h⟩ | ⟨hd,h⟩
    · exact .inl (FT_mono (fun s h F=> ⟨F.1,fun η m f w a b g=> pk_mono hq (F.2 η m f w a b g)⟩) h)
    · exact .inr (.inl ⟨hd,fun η m f w a b g=> wpl_mono (fun e f w q=> pk_mono hq q) (h η m f w a b g)⟩)
    · obtain ⟨rs,bad,k,p,h1,h2,h3,h4,h5,h6,h7,h8,h9⟩:= h
      exact .inr (.inr ⟨hd,rs,bad,k,p,h1,h2,h3,h4,h5,h6,h7,h8,fun η m f w Bs a b c d=> wpl_mono (fun e f w q=> match e,q with | .normal,q=> q.elim | .exit _,q=> pk_mono hq q | .goto _,q=> pk_mono hq q | .ret,q=> pk_mono hq q | .panic _,q=> pk_mono hq q | .outgrown,q=> pk_mono hq q) (h9 η m f w Bs a b c d)⟩)
theorem pkP {ch : List PanicEntry} {f : Fr} {w : World} (h : Q (.panic ch) f w) : ∀ {K : List Kt},pk ρ P N D0 Q K (.panic ch) f w
  | []=> h
  | .code _ :: K=> pkP (K:= K) h
  | .blk _ :: K=> pkP (K:= K) h
  | .scp :: K=> pkP (K:= K) h
  | .ctn _ :: K=> pkP (K:= K) h
end
def chn (ov : Value) : List PanicEntry:= [{ v:= ov,recovered:= false }]
def CallsB (P : Program) (k : FuncId) (args : Array Value) (w : World) (ov : Value) (R : Value → World → Prop) (X : World → Prop) : Prop :=
  Calls P k args w fun e w'=> (∃ v,e = .returned v ∧ Kd w w' ∧ R v w') ∨ (e = .panicked (chn ov) ∧ Kd w w' ∧ X w')
theorem CallsB.ret {P : Program} {k : FuncId} {args : Array Value} {w : World} {ov : Value} {R : Value → World → Prop} {X : World → Prop} (h : CallsB P k args w ov R X) (hx : ∀ w',¬ X w') : CallsR P k args w R :=
  Calls.mono h fun e w' q=> by
    rcases q with q | ⟨_,_,q⟩
    · exact q
    · exact absurd q (hx w')
def outB (P : Program) (N : Nat) (fn : Func) (R : Value → World → Prop) (ov : Value) (X : World → Prop) : Post:= fun e f w =>
  match e with
  | .panic ch=> ch = chn ov ∧ ∀ w',Pd w w' → X w'
  | e=> outF P N fn R e f w
section
variable {ρ : Option Nat} {P : Program} {N : Nat} {D0 : Dw} {Q : Post} {As : List Ow} {η0 : Env} {m0 : Mem}
theorem outB_of {fn : Func} {R : Value → World → Prop} {ov : Value} {X : World → Prop} (e : Exit) (f : Fr) (w : World) (h : outF P N fn R e f w) : outB P N fn R ov X e f w:= by
  cases e with
  | panic ch=> exact h.elim
  | _=> exact h
theorem leaves_marksG {fn : Func} {tmps : Array Value} {R : Ending → World → Prop} {w0 : World} {u : FrameMode} {ds : List Deferred} (hu : u ≠ .run) : ∀ (E : List Nat) (w : World),Kd w0 w → E.Nodup → (∀ b ∈ E,w0.heap.size ≤ b ∧ w.heap[b]? = some dfr) →
    (∀ w',Pd w w' → Kd w0 w' → LeavesInM (FW none) 0 P fn tmps R ds u w') → LeavesInM (FW none) 0 P fn tmps R (E.map Gw.mark ++ ds) u w:= by
  intro E
  induction E with
  | nil=> exact fun w hk _ _ h=> h w (Pd.rfl' w) hk
  | cons b E ih =>
    intro w hk hn hl h
    obtain ⟨hb1,hb2⟩:= hl b (by simp)
    have hlt:= (Array.getElem?_eq_some_iff.1 hb2).1
    have hpd : Pd w (w.putObj b (.deferred none)):= ⟨rfl,rfl,rfl,fun k o ho e=> by
      by_cases q : k = b
      · subst q; rw [hb2] at e; cases e; exact absurd rfl ho
      · rw [World.putObj_heap_other q]; exact e⟩
    refine ⟨hu,.inl ⟨b,w.putObj b (.deferred none),rfl,run_takeDeferred hb2,?_⟩⟩
    refine ih _ ⟨by simpa using hk.size,fun k e=> ?_⟩ (List.nodup_cons.1 hn).2 (fun c hc=> ⟨(hl c (by simp [hc])).1,?_⟩) (fun w' p=> h w' (hpd.tr p))
    · have:= (Array.getElem?_eq_some_iff.1 e).1
      rw [World.putObj_heap_other (by omega)]; exact hk.same k e
    · have : c ≠ b:= fun q=> (List.nodup_cons.1 hn).1 (q ▸ hc)
      rw [World.putObj_heap_other this]; exact (hl c (by simp [hc])).2
theorem sim0 {fn : Func} {args : List Value} (hN : fn.ntmps = N) (hle : args.length ≤ N) : Sim N { tmps:= args.toArray ++ Array.replicate (fn.ntmps - args.toArray.size) undef,defers:= [] } (f0 args):= by
  refine ⟨by simp [hN]; omega,fun t=> ?_⟩
  simp only [f0,Array.getD_eq_getD_getElem?,List.getD_eq_getElem?_getD,Array.getElem?_append]
  split
  · simp
  · rename_i h1
    simp at h1
    rw [List.getElem?_eq_none h1]
    rw [Array.getElem?_replicate]
    split <;> rfl
theorem callsB {k : FuncId} {fn : Func} {c : Code} {args : List Value} {R : Value → World → Prop} {ov : Value} {X : World → Prop} {w : World} (hf : P.funcs[k]? = some fn) (hb : fn.body = some c) (hN : fn.ntmps = N)
    (hle : args.length ≤ N) (h : wpc none P N (w,[],false) c (outB P N fn R ov X) (f0 args) w) : CallsB P k args.toArray w ov R X:= by
  refine calls_of_FW (ρ:= none) (n:= 0) (callsIn_of_wp_marks hf hb trivial ?_)
  refine wpIn_mono (h _ ⟨sim0 hN hle,Okd.nil rfl⟩) ?_
  rintro e a w' ⟨f',⟨s,ok⟩,q⟩
  obtain ⟨E,hE,-,hn,hl⟩:= ok.marks
  have fin : (∀ w'',Pd w' w'' → ∃ v,(∀ a,Sim N a f' → (results fn a.tmps).run P w'' = .ok v w'') ∧ R v w'') →
      LeavesInM (FW none) 0 P fn a.tmps (fun e w'=> (∃ v,e = .returned v ∧ Kd w w' ∧ R v w') ∨ (e = .panicked (chn ov) ∧ Kd w w' ∧ X w')) a.defers .returning w':= fun q=> by
    rw [hE]
    refine leaves_marksG (by simp) E w' ok.keep hn hl fun w'' p k=> ?_
    obtain ⟨v,hr,hR⟩:= q w'' p
    exact ⟨v,hr a s,.inl ⟨v,rfl,k,hR⟩⟩
  cases e with
  | normal=> exact fin q
  | ret=> exact fin q
  | exit id=> exact q.elim
  | goto l=> exact q.elim
  | panic ch =>
    obtain ⟨rfl,hX⟩:= q
    show LeavesInM _ _ _ _ _ _ a.defers _ _
    rw [hE]
    exact leaves_marksG (by simp) E w' ok.keep hn hl fun w'' p k=> Or.inr ⟨rfl,k,hX w'' p⟩
  | outgrown=> exact q.elim
def Sb (P : Program) (k : FuncId) (args : List AV) (obs : List AObj) (n0 : Nat) (ov : Value) (Po : AV → List AObj → Nat → Prop) (Xp : Prop) : Prop :=
  (∀ (a : Array Value) w,(callFunc k a).run P w = .ok (.enter k a) w) ∧
  ∀ (η : Env) (m : Mem) (As : List Ow) (w : World) (vs : List Value),RelL η m args vs → (∀ n,η n ≠ none → n < n0) → St m (obs.map (rep η m) ++ As) w →
    CallsB P k vs.toArray w ov (fun v w'=> ∃ (M : Mem) (η' : Env) (r : AV) (obs' : List AObj) (n1 : Nat),m ≤ M ∧ η.le η' ∧ Po r obs' n1 ∧ (∀ n,η' n ≠ none → n < n1) ∧ Rel η' M r v ∧ St M (obs'.map (rep η' M) ++ As) w')
      (fun w'=> Xp ∧ ∃ M,m ≤ M ∧ St M As w')
def Pos {β : Type} (x : Option β) (A : β → AV) (O : β → List AObj) (n1 : Nat) : AV → List AObj → Nat → Prop:= fun a o n=> ∃ r,x = some r ∧ a = A r ∧ o = O r ∧ n = n1
theorem Sb.sp {k : FuncId} {args : List AV} {obs : List AObj} {n0 n1 : Nat} {ov : Value} {β : Type} {r : β} {A : β → AV} {O : β → List AObj} (h : Sb P k args obs n0 ov (Pos (some r) A O n1) (some r = none)) : Sp P k args obs n0 (is (A r) (O r) n1) :=
  ⟨h.1,fun η m As w vs a b c=> CallsR.mono ((h.2 η m As w vs a b c).ret fun w' q=> by cases q.1) fun v w' ⟨M,η',r',obs',n',q1,q2,⟨r2,e,e1,e2,e3⟩,q4,q5,q6⟩=> by
    cases e
    exact ⟨M,η',r',obs',n',q1,q2,⟨e1,e2,e3⟩,q4,q5,q6⟩⟩
def PostX (As : List Ow) (m0 : Mem) (Xp : Prop) : World → Prop:= fun w'=> Xp ∧ ∃ M,m0 ≤ M ∧ St M As w'
theorem sb_of {k : FuncId} {fn : Func} {c : Code} {args : List AV} {obs : List AObj} {n0 : Nat} {ov : Value} {Po : AV → List AObj → Nat → Prop} {Xp : Prop} (hc : ∀ (a : Array Value) w,(callFunc k a).run P w = .ok (.enter k a) w) (hf : P.funcs[k]? = some fn) (hb : fn.body = some c) (hN : fn.ntmps = N)
    (hle : Nat.ble args.length N = true) (h : ∀ D0 As η0 m0,(∀ n,η0 n ≠ none → n < n0) → Go none P N D0 (outB P N fn (PostR As η0 m0 Po) ov (PostX As m0 Xp)) As η0 m0 ⟨initS args obs n0,.code c,[]⟩) : Sb P k args obs n0 ov Po Xp:= by
  refine ⟨hc,fun η m As w vs hv hd S=> ?_⟩
  refine callsB hf hb hN (by rw [← hv.1]; exact Nat.le_of_ble_eq_true hle) ?_
  exact h (w,[],false) As η m hd η m (f0 vs) w Env.le_refl (Mem.rfl' m) (init_gm hv hd S)
variable {ops : Array Oper} {rest : List Oper} {o : Oper} {f : Fr} {w w' : World}
theorem wpl_callB {k : FuncId} {args : Array Value} {ov : Value} {R : Value → World → Prop} {X : World → Prop} (hg : o.guard = none) (hp : plainOp o) (hr : (execOp (ev f) o).run P w = .ok (.enter k args) w')
    (hc : CallsB P k args w' ov R X) (h : ∀ v w2,R v w2 → wpl ρ P N D0 ops rest Q (upo N f o.dst v) w2) (hx : ∀ w2,X w2 → Q (.panic (chn ov)) f w2) (kd : Kd w w':= by exact Kd.rfl' _) :
    wpl ρ P N D0 ops (o :: rest) Q f w:= fun a ha=> by
  refine wpO_plain hg hp ?_
  rw [ha.1.eval,hr]
  refine ⟨(fun h=> by cases h),CallsIn.mono (calls_FW hc) ?_⟩
  rintro e w2 (⟨v,rfl,k,hR⟩ | ⟨rfl,k,hX⟩)
  · exact h v w2 hR _ ⟨ha.1.put _ _,(ha.2.up (kd.tr k)).put _ _⟩
  · exact ⟨f,⟨ha.1,ha.2.up (kd.tr k)⟩,hx w2 hX⟩
def plainO (cf : Cf) : Bool:= match cf.md with | .ops false _ (o :: _) _=> o.guard.isNone | _=> false
def panS (cf : Cf) (ea : List AV) (eobs : List AObj) : AS :=
  match planC cf ea eobs with
  | some p=> { cf.s with ob:= less (tids ((p.ut ++ p.fw) ++ p.fr)) cf.s.ob }
  | none=> cf.s
theorem callee_runB {fz : Fz} {sl : Sl} {c : Call} {k : FuncId} {as : List AV} {η : Env} {m : Mem} {dst : Option Nat} {ty : TypeId} {pos : String} {af : Array Edge} {R : Value → World → Prop} {ov : Value} {X : World → Prop}
    (h : calleeA fz sl c = some (k,as)) (hk : ∀ (a : Array Value) w,(callFunc k a).run P w = .ok (.enter k a) w) (hr : ∀ t,Rel η m (get sl t) (f t)) (hz : fzOk η m fz)
    (hc : ∀ vs,RelL η m as vs → CallsB P k vs.toArray w ov R X) (hn : ∀ v w2,R v w2 → wpl ρ P N D0 ops rest Q (upo N f dst v) w2) (hx : ∀ w2,X w2 → Q (.panic (chn ov)) f w2) :
    wpl ρ P N D0 ops (⟨dst,.call c,ty,pos,af,none⟩ :: rest) Q f w:= by
  obtain ⟨ce,xs,ts⟩:= c
  obtain ⟨xs⟩:= xs
  have ra:= RelL.map_aev hr xs
  unfold calleeA at h
  simp only at h
  split at h
  · cases h
    refine wpl_callB rfl (fun _ e=> by cases e) (w':= w) (k:= k) ?_ (hc _ ra) hn hx
    simp [execOp,resolve,invoke,ev,Deferred.ofValue,hk]
  · rename_i x hx'
    split at h
    · rename_i k' ps cs hv
      cases h
      have rx:= rv_rel hz hr x
      rw [hv] at rx
      obtain ⟨us,vs,e,h1,h2⟩:= rx.fn_inv
      have hcc:= hc _ (h1.append (ra.append h2))
      refine wpl_callB rfl (fun _ e=> by cases e) (w':= w) (k:= k) ?_ hcc hn hx
      have e2 : us.toArray ++ (xs.map (ev f)).toArray ++ vs.toArray = (us ++ (List.map (ev f) xs ++ vs)).toArray:= by simp
      simp [execOp,resolve,invoke,e,Deferred.ofValue,hk,e2]
    · cases h
  · cases h
theorem go_pan (hm : P.follows .mixedOrders = true) {n : Nat} {cf : Cf} {k : FuncId} {ea : List AV} {eobs : List AObj} {n0 : Nat} {ov : Value} {Po : AV → List AObj → Nat → Prop} {Xp : Prop} (hs : Sb P k ea eobs n0 ov Po Xp) (hP : ∀ a o n,¬ Po a o n)
    (e : (callK (adv P N n cf).1 ea eobs n0,plainO (adv P N n cf).1,((adv P N n cf).2 ++ esOf (adv P N n cf).1).map (·.1)) =
      (some (k,(callW (adv P N n cf).1 ea eobs).1,(callW (adv P N n cf).1 ea eobs).2,true),true,((adv P N n cf).2 ++ esOf (adv P N n cf).1).map (·.2)))
    (hQ : Al As η0 m0 (panS (adv P N n cf).1 ea eobs) fun f w=> Xp → Q (.panic (chn ov)) f w) : Go ρ P N D0 Q As η0 m0 cf:= by
  simp only [Prod.mk.injEq] at e
  obtain ⟨e1,e2,e3⟩:= e
  obtain ⟨he1,-⟩:= EqsOk.two e3
  refine adv_ok hm he1 ?_
  generalize (adv P N n cf).1 = c0 at *
  obtain ⟨s,md,K⟩:= c0
  unfold plainO at e2
  split at e2
  · rename_i l o rest h hmd
    simp only at hmd; subst hmd
    have hg : o.guard = none:= by simpa using e2
    unfold callK callW at e1
    unfold panS at hQ
    cases hp : planC ⟨s,.ops false l (o :: rest) h,K⟩ ea eobs with
    | none=> rw [hp] at e1; cases e1
    | some p =>
      rw [hp] at e1 hQ
      simp only [Option.some.injEq,Prod.mk.injEq] at e1
      obtain ⟨ek,eas,eobj,eok⟩:= e1
      unfold planC opAt at hp
      simp only [hg] at hp
      split at hp
      · rename_i _ c _ hop
        split at hp
        · rename_i k' as hc
          simp only [okPlan,Bool.and_eq_true] at eok
          obtain ⟨o1,o2,o3,o4,o5,o6,-⟩:= eok
          have hpk : p.k = k':= by
            unfold planB at hp
            simp only at hp
            split at hp
            · have:= Option.some.inj hp; rw [← this]
            · cases hp
          obtain ⟨dst,op,ty,pos,af,gd⟩:= o
          simp only at hg hop; subst hg hop
          refine .inr (.inl ⟨rfl,fun η m f w a b gm=> ?_⟩)
          have S:= St.rp gm.st (less_perm gm.wf.nd (nodN_ok o3) (plan_sub hp))
          rw [reps_app,List.append_assoc] at S
          have hr:= rst_rel (ts:= opT (.call c)) (fun t _=> gm.slr t)
          refine callee_runB (η:= η) (m:= m) (X:= fun w'=> Xp ∧ ∃ M,m ≤ M ∧ St M (reps η m (less (tids ((p.ut ++ p.fw) ++ p.fr)) s.ob) ++ As) w') (R:= fun _ _=> False) (ov:= ov) hc (by rw [← hpk,ek]; exact hs.1) hr gm.fz (fun vs hv=> ?_) (fun v w2 q=> q.elim) fun w2 q=> ?_
          · obtain ⟨m1,l1,r1,S1⟩:= plan_ok hp o5 o6 hv S
            rw [eas] at r1
            rw [eobj] at S1
            let φ : Nat → Nat:= fun j=> mtGet p.mt j 0
            let η1 : Env:= fun j=> if j < n0 then η (φ j) else none
            have hη1 : ∀ j,j < n0 → η (φ j) = η1 j:= fun j hj=> (if_pos hj).symm
            have S8 : St m1 (eobs.map (rep η1 m1) ++ (reps η m (less (tids ((p.ut ++ p.fw) ++ p.fr)) s.ob) ++ As)) w:= by
              refine S1.imp (by simp) fun i A B ha hb x hx=> ?_
              rw [List.getElem?_append] at ha hb
              simp only [List.length_map] at ha hb
              split at ha
              · rename_i q
                rw [if_pos q] at hb
                simp only [List.getElem?_map,Option.map_eq_some_iff] at ha hb
                obtain ⟨o',⟨o,ho,rfl⟩,rfl⟩:= ha
                obtain ⟨o2',ho',rfl⟩:= hb
                rw [ho] at ho'; cases ho'
                exact renO_of hη1 (List.all_eq_true.1 o2 o (List.mem_of_getElem? ho)) hx
              · rename_i q
                rw [if_neg q] at hb
                rw [ha] at hb; cases hb; exact hx
            rw [← hpk,ek]
            refine Calls.mono (hs.2 η1 m1 _ w vs (renL_of hη1 o1 r1) (fun j hj=> by
              by_cases q : j < n0
              · exact q
              · exact absurd (if_neg q) hj) S8) fun e w' q=> ?_
            rcases q with ⟨v,_,_,M,η',r,obs',n1,_,_,hpo,_⟩ | ⟨q1,q2,q3,M,q4,q5⟩
            · exact absurd hpo (hP _ _ _)
            · exact .inr ⟨q1,q2,q3,M,Mem.tr l1 q4,q5⟩
          · obtain ⟨hX,M,le,S2⟩:= q
            refine pkP (hQ η M f w2 a (Mem.tr b le) ⟨fun t=> (gm.slr t).up Env.le_refl le,gm.fz.up Env.le_refl le,gm.dom,St.ru Env.le_refl le S2,?_,fun t ht=> ?_⟩ hX)
            · simp only [tids,less]; exact List.Nodup.sublist (List.Sublist.map _ List.filter_sublist) gm.wf.nd
            · refine gm.wf.lt t ?_
              simp only [tids,less,List.mem_map,List.mem_filter] at ht ⊢
              obtain ⟨q,⟨hq,_⟩,e⟩:= ht; exact ⟨q,hq,e⟩
        · cases hp
      · cases hp
  · cases e2
theorem st_tail {m : Mem} {Bs : List Ow} {w : World} (S : St m (Bs ++ As) w) : ∃ M,m ≤ M ∧ St M As w:= by
  obtain ⟨M,l,h⟩:= St.dropN Bs.length S
  exact ⟨M,l,by rwa [List.drop_left] at h⟩
theorem go_panB (hm : P.follows .mixedOrders = true) {n : Nat} {cf : Cf} {k : FuncId} {ea : List AV} {eobs : List AObj} {n0 : Nat} {ov : Value} {Po : AV → List AObj → Nat → Prop} {Xp : Prop} {fn : Func} {R : Value → World → Prop} {Xq : Prop} (hs : Sb P k ea eobs n0 ov Po Xp) (hP : ∀ a o n,¬ Po a o n) (hx : Xq)
    (e : (callK (adv P N n cf).1 ea eobs n0,plainO (adv P N n cf).1,((adv P N n cf).2 ++ esOf (adv P N n cf).1).map (·.1)) =
      (some (k,(callW (adv P N n cf).1 ea eobs).1,(callW (adv P N n cf).1 ea eobs).2,true),true,((adv P N n cf).2 ++ esOf (adv P N n cf).1).map (·.2))) : Go ρ P N D0 (outB P N fn R ov (PostX As m0 Xq)) As η0 m0 cf :=
  go_pan hm hs hP e fun η m f w a b gm _=> ⟨rfl,fun w' pd=> ⟨hx,let ⟨M,l,h⟩:= st_tail (St.pd gm.st pd); ⟨M,Mem.tr b l,h⟩⟩⟩
theorem pos_none {β : Type} {A : β → AV} {O : β → List AObj} {n1 : Nat} (a : AV) (o : List AObj) (n : Nat) : ¬ Pos (none : Option β) A O n1 a o n:= fun ⟨_,e,_⟩=> by cases e
def restB (P : Program) (N : Nat) (l : List Oper) (k : Nat) : Nat → AS → List Oper → Option (Hist × Eqs)
  | _,_,[]=> some ([],[])
  | i,s,o :: rest =>
    bif anc (msks l []) i k then
      match restB P N l k (i + 1) (after N s o ⟨.any,[],[],[],s.nx,[]⟩) rest with
      | some q=> some ((o,⟨.any,[],[],[],s.nx,[]⟩) :: q.1,q.2)
      | none=> none
    else match stepG P l.toArray s.fz s.sl s.ob s.nx o with
      | some r=> match restB P N l k (i + 1) (after N s o r) rest with
        | some q=> some ((o,r) :: q.1,r.es ++ q.2)
        | none=> none
      | none=> none
theorem restB_ok {l : List Oper} {k : Nat} : ∀ {rest : List Oper} {i : Nat} {s : AS} {q : Hist × Eqs},restB P N l k i s rest = some q → EqsOk q.2 →
    q.1.map (·.1) = rest ∧ Ch0 N s q.1 ∧ ∀ j p,q.1[j]? = some p → anc (msks l []) (i + j) k = false → Tri ρ P N D0 l.toArray p.1 s.fz (rst (rds l.toArray p.1) (runS N s (q.1.take j)).sl) (runS N s (q.1.take j)).nx p.2
  | [],i,s,q,h,he=> by
    cases h
    exact ⟨rfl,trivial,fun j p h=> by simp at h⟩
  | o :: rest,i,s,q,h,he=> by
    unfold restB at h
    cases hb : anc (msks l []) i k
    · rw [hb] at h
      simp only [cond_false] at h
      split at h
      · rename_i r hr
        split at h
        · rename_i q' hq
          cases h
          have he':= EqsOk.app.1 he
          obtain ⟨h1,h2,h3⟩:= restB_ok hq he'.2
          have ht:= stepG_ok (ρ:= ρ) (N:= N) (D0:= D0) hr he'.1
          refine ⟨by simp [h1],⟨ht.1,stepG_sok hr,h2⟩,fun j p hj ha=> ?_⟩
          cases j with
          | zero=> simp at hj; subst hj; exact ht
          | succ j=> exact h3 j p (by simpa using hj) (by rw [show i + 1 + j = i + (j + 1) from by omega]; exact ha)
        · cases h
      · cases h
    · rw [hb] at h
      simp only [cond_true] at h
      split at h
      · rename_i q' hq
        cases h
        obtain ⟨h1,h2,h3⟩:= restB_ok hq he
        refine ⟨by simp [h1],⟨Nat.le_refl _,⟨fun x hx=> by simp at hx,by simp [tids],by simp [tids],fun t ht=> by simp [tids] at ht⟩,h2⟩,fun j p hj ha=> ?_⟩
        cases j with
        | zero =>
          rw [Nat.add_zero,hb] at ha
          cases ha
        | succ j=> exact h3 j p (by simpa using hj) (by rw [show i + 1 + j = i + (j + 1) from by omega]; exact ha)
      · cases h
def panR (s : AS) (p : Plan) : Stp:= ⟨.any,(p.ut ++ p.fw) ++ p.fr,[],[],s.nx,[]⟩
def panD (P : Program) (N : Nat) (cf : Cf) (ea : List AV) (eobs : List AObj) : Option (Bool × Eqs) :=
  match cf.md,planC cf ea eobs with
  | .ops true l (o :: rest) h,some p=> match restB P N l h.length (h.length + 1) (after N cf.s o (panR cf.s p)) rest with
    | some q=> some (o.guard.isNone && flowB l (h ++ (o,panR cf.s p) :: q.1),q.2)
    | none=> none
  | _,_=> none
def panE (P : Program) (N : Nat) (cf : Cf) (ea : List AV) (eobs : List AObj) : Eqs:= match panD P N cf ea eobs with | some q=> q.2 | none=> []
theorem go_panD (hm : P.follows .mixedOrders = true) {n : Nat} {cf : Cf} {k : FuncId} {ea : List AV} {eobs : List AObj} {n0 : Nat} {ov : Value} {Po : AV → List AObj → Nat → Prop} {Xp : Prop} {fn : Func} {R : Value → World → Prop} {Xq : Prop} (hs : Sb P k ea eobs n0 ov Po Xp) (hP : ∀ a o n,¬ Po a o n) (hx : Xq)
    (e : (callK (adv P N n cf).1 ea eobs n0,(panD P N (adv P N n cf).1 ea eobs).map (·.1),((adv P N n cf).2 ++ (esOf (adv P N n cf).1 ++ panE P N (adv P N n cf).1 ea eobs)).map (·.1)) =
      (some (k,(callW (adv P N n cf).1 ea eobs).1,(callW (adv P N n cf).1 ea eobs).2,true),some true,((adv P N n cf).2 ++ (esOf (adv P N n cf).1 ++ panE P N (adv P N n cf).1 ea eobs)).map (·.2))) : Go ρ P N D0 (outB P N fn R ov (PostX As m0 Xq)) As η0 m0 cf:= by
  simp only [Prod.mk.injEq] at e
  obtain ⟨e1,e2,e3⟩:= e
  obtain ⟨he1,he2⟩:= EqsOk.two e3
  have he3:= (EqsOk.app.1 he2).2
  refine adv_ok hm he1 ?_
  clear e3 he1 he2
  generalize (adv P N n cf).1 = c0 at *
  obtain ⟨s,md,K⟩:= c0
  unfold panE at he3
  unfold panD at e2 he3
  split at e2
  · rename_i l o rest h p hmd hp
    simp only at hmd; subst hmd
    simp only [hp] at he3
    split at e2
    · rename_i q hq
      simp only [hq] at he3
      simp only [Option.map_some,Option.some.injEq,Bool.and_eq_true] at e2
      obtain ⟨hg',hfl⟩:= e2
      have hg : o.guard = none:= by simpa using hg'
      unfold callK callW at e1
      rw [hp] at e1
      simp only [Option.some.injEq,Prod.mk.injEq] at e1
      obtain ⟨ek,eas,eobj,eok⟩:= e1
      obtain ⟨r1,r2,r3⟩:= restB_ok (ρ:= ρ) (D0:= D0) hq he3
      unfold planC opAt at hp
      simp only [hg] at hp
      split at hp
      · rename_i _ c _ hop
        split at hp
        · rename_i k' as hc
          simp only [okPlan,Bool.and_eq_true] at eok
          obtain ⟨o1,o2,o3,o4,o5,o6,-⟩:= eok
          have hpk : p.k = k':= by
            unfold planB at hp
            simp only at hp
            split at hp
            · have:= Option.some.inj hp; rw [← this]
            · cases hp
          have hnd:= nodN_ok o3
          refine .inr (.inr ⟨rfl,(o,panR s p) :: q.1,fun i=> match i with | 0=> true | i + 1=> anc (msks l []) (h.length + (i + 1)) h.length,0,(o,panR s p),by simp [r1],⟨Nat.le_refl _,⟨fun x hx=> plan_sub hp x (by simpa [panR] using hx),by simpa [panR] using hnd,by simp [tids,panR],fun t ht=> by simp [tids,panR] at ht⟩,r2⟩,?_,hfl,rfl,rfl,?_,rfl,?_⟩)
          · intro i r hr hb
            cases i with
            | zero=> cases hb
            | succ i=> exact r3 i r (by simpa using hr) (by rw [show h.length + 1 + i = h.length + (i + 1) from by omega]; exact hb)
          · intro i _ hb
            cases i with
            | zero=> exact .inl rfl
            | succ i=> exact .inr hb
          · intro η m f w Bs hrel hz hm0 S
            obtain ⟨dst,op,ty,pos,af,gd⟩:= o
            simp only at hg hop; subst hg hop
            have hr : ∀ t,Rel η m (get (rst (opT (.call c)) s.sl) t) (f t):= hrel
            have S : St m (reps η m ((p.ut ++ p.fw) ++ p.fr) ++ (Bs ++ As)) w:= S
            refine callee_runB (η:= η) (m:= m) (X:= fun w'=> ∃ M,m ≤ M ∧ St M (Bs ++ As) w') (R:= fun _ _=> False) (ov:= ov) hc (by rw [← hpk,ek]; exact hs.1) hr hz (fun vs hv=> ?_) (fun v w2 q=> q.elim) fun w2 q=> ?_
            · obtain ⟨m1,l1,r1,S1⟩:= plan_ok hp o5 o6 hv S
              rw [eas] at r1
              rw [eobj] at S1
              let φ : Nat → Nat:= fun j=> mtGet p.mt j 0
              let η1 : Env:= fun j=> if j < n0 then η (φ j) else none
              have hη1 : ∀ j,j < n0 → η (φ j) = η1 j:= fun j hj=> (if_pos hj).symm
              have S8 : St m1 (eobs.map (rep η1 m1) ++ (Bs ++ As)) w:= by
                refine S1.imp (by simp) fun i A B ha hb x hx=> ?_
                rw [List.getElem?_append] at ha hb
                simp only [List.length_map] at ha hb
                split at ha
                · rename_i q
                  rw [if_pos q] at hb
                  simp only [List.getElem?_map,Option.map_eq_some_iff] at ha hb
                  obtain ⟨o',⟨o,ho,rfl⟩,rfl⟩:= ha
                  obtain ⟨o2',ho',rfl⟩:= hb
                  rw [ho] at ho'; cases ho'
                  exact renO_of hη1 (List.all_eq_true.1 o2 o (List.mem_of_getElem? ho)) hx
                · rename_i q
                  rw [if_neg q] at hb
                  rw [ha] at hb; cases hb; exact hx
              rw [← hpk,ek]
              refine Calls.mono (hs.2 η1 m1 _ w vs (renL_of hη1 o1 r1) (fun j hj=> by
                by_cases q : j < n0
                · exact q
                · exact absurd (if_neg q) hj) S8) fun e w' q=> ?_
              rcases q with ⟨v,_,_,M,η',r,obs',n1,_,_,hpo,_⟩ | ⟨q1,q2,q3,M,q4,q5⟩
              · exact absurd hpo (hP _ _ _)
              · exact .inr ⟨q1,q2,M,Mem.tr l1 q4,q5⟩
            · obtain ⟨M,le,S2⟩:= q
              refine pkP (Q:= outB P N fn R ov (PostX As m0 Xq)) ⟨rfl,fun w' pd=> ⟨hx,?_⟩⟩
              obtain ⟨M2,l2,h2⟩:= st_tail (St.pd S2 pd)
              exact ⟨M2,Mem.tr hm0 (Mem.tr le l2),h2⟩
        · cases hp
      · cases hp
    · cases e2
  · cases e2
end
def throwK (N : Nat) (cf : Cf) : Option TypeId :=
  match cf.md with
  | .ops false l [⟨some d,.makeInterface t x,_,_,_,none⟩,⟨none,.panic (.tmp d'),_,_,_,none⟩] _ =>
    bif Nat.beq d' d && Nat.blt d N then match aev cf.s.sl x with
      | .agg []=> some t
      | _=> none
    else none
  | _=> none
section
variable {ρ : Option Nat} {P : Program} {N : Nat} {D0 : Dw} {Q : Post} {As : List Ow} {η0 : Env} {m0 : Mem}
variable {ops : Array Oper} {rest : List Oper} {o : Oper} {f : Fr} {w w' : World}
theorem wpl_panic {v : Value} (hg : o.guard = none) (hp : plainOp o) (hr : (execOp (ev f) o).run P w = .halt (.panic v) w) (h : Q (.panic (chn v)) f w) : wpl ρ P N D0 ops (o :: rest) Q f w:= fun a ha=> by
  refine wpO_plain hg hp ?_
  rw [ha.1.eval,hr]
  exact ⟨f,ha,h⟩
theorem go_throw (hm : P.follows .mixedOrders = true) {n : Nat} {cf : Cf} {t : TypeId} {fn : Func} {R : Value → World → Prop} {Xq : Prop} (hc : P.concrete t = true) (hx : Xq)
    (e : (throwK N (adv P N n cf).1,((adv P N n cf).2).map (·.1)) = (some t,((adv P N n cf).2).map (·.2))) : Go ρ P N D0 (outB P N fn R (.iface t (.agg #[])) (PostX As m0 Xq)) As η0 m0 cf:= by
  simp only [Prod.mk.injEq] at e
  obtain ⟨e1,e3⟩:= e
  refine adv_ok hm (.of e3) ?_
  generalize (adv P N n cf).1 = c0 at *
  obtain ⟨s,md,K⟩:= c0
  unfold throwK at e1
  split at e1
  · rename_i l d tt x ty pos af d' ty' pos' af' h hmd
    simp only at hmd; subst hmd
    cases hb : Nat.beq d' d && Nat.blt d N
    · rw [hb] at e1; cases e1
    · rw [hb] at e1
      simp only [cond_true] at e1
      simp only [Bool.and_eq_true,Nat.beq_eq] at hb
      obtain ⟨rfl,hlt⟩:= hb
      split at e1
      · rename_i hx'
        cases e1
        refine .inr (.inl ⟨rfl,fun η m f w a b gm=> ?_⟩)
        have rx:= aev_rel gm.slr x
        rw [hx'] at rx
        obtain ⟨vs,ex,hl⟩:= rx.agg_inv
        have:= hl.nil_inv; subst this
        refine wpl_val (v:= .iface t (.agg #[])) (w':= w) rfl (fun _ e=> by cases e) (by have:= run_makeInterface (P:= P) (w:= w) t (.agg #[]) hc; simp [execOp,ex,this]) ?_
        have e0 : upo N f (some d') (.iface t (.agg #[])) d' = .iface t (.agg #[]):= by
          simp [upo,up,hlt]
        refine wpl_panic rfl (fun _ e=> by cases e) ?_ (pkP ⟨rfl,fun w' pd=> ⟨hx,let ⟨M,l,h⟩:= st_tail (St.pd gm.st pd); ⟨M,Mem.tr b l,h⟩⟩⟩)
        simp [execOp,ev,e0,Instr.panic,Sem.run_bind,go_sem]
      · cases e1
  · cases e1
end
section
variable {ρ : Option Nat} {P : Program} {N : Nat} {D0 : Dw} {Q : Post} {As : List Ow} {η0 : Env} {m0 : Mem}
def outG (Je : Fr → World → Prop) (ov : Value) (Jx : Fr → World → Prop) : Post:= fun e f w =>
  match e with
  | .normal=> Je f w
  | .ret=> Je f w
  | .panic ch=> ch = chn ov ∧ Jx f w
  | _=> False
theorem go_retG (hm : P.follows .mixedOrders = true) {n n0 : Nat} {cf : Cf} {ι : Type} {J : ι → AS} {ok : ι → Prop} {ov : Value} {Jx : Fr → World → Prop} (x : ι) (hx : ok x) (hd : ∀ n,η0 n ≠ none → n < n0)
    (e : (atEnd (adv P N n cf).1,vwL (adv P N n cf).1.s (J x) n0,(vwP (adv P N n cf).1.s (J x)).isSome,((adv P N n cf).2).map (·.1)) = (true,vwR (adv P N n cf).1.s (J x),true,((adv P N n cf).2).map (·.2))) :
    Go ρ P N D0 (outG (Rl As η0 m0 J ok) ov Jx) As η0 m0 cf:= by
  simp only [Prod.mk.injEq] at e
  obtain ⟨e1,e2,e4,e3⟩:= e
  refine adv_ok hm (.of e3) ?_
  generalize (adv P N n cf).1 = c0 at *
  obtain ⟨s,md,K⟩:= c0
  unfold atEnd at e1
  split at e1
  · rename_i hmd hK
    simp only at hmd hK; subst hmd hK
    intro η m f w a1 a2 g
    obtain ⟨η',m',l,le,g'⟩:= view_ok e2 e4 hd a1 g
    exact ⟨x,hx,η',m',le,Mem.tr a2 l,g'⟩
  · rename_i hmd hK
    simp only at hmd hK; subst hmd hK
    intro η m f w a1 a2 g
    obtain ⟨η',m',l,le,g'⟩:= view_ok e2 e4 hd a1 g
    exact ⟨x,hx,η',m',le,Mem.tr a2 l,g'⟩
  · cases e1
theorem go_panG (hm : P.follows .mixedOrders = true) {n : Nat} {cf : Cf} {k : FuncId} {ea : List AV} {eobs : List AObj} {n0 n1 : Nat} {ov : Value} {Po : AV → List AObj → Nat → Prop} {Xp : Prop} {Je : Fr → World → Prop} {J : AS} {ok : Prop}
    (hs : Sb P k ea eobs n0 ov Po Xp) (hP : ∀ a o n,¬ Po a o n) (hx : ok) (hd : ∀ n,η0 n ≠ none → n < n1)
    (e : (callK (adv P N n cf).1 ea eobs n0,plainO (adv P N n cf).1,((adv P N n cf).2 ++ esOf (adv P N n cf).1).map (·.1)) =
      (some (k,(callW (adv P N n cf).1 ea eobs).1,(callW (adv P N n cf).1 ea eobs).2,true),true,((adv P N n cf).2 ++ esOf (adv P N n cf).1).map (·.2)))
    (e2 : (vwL (panS (adv P N n cf).1 ea eobs) J n1,(vwP (panS (adv P N n cf).1 ea eobs) J).isSome) = (vwR (panS (adv P N n cf).1 ea eobs) J,true)) :
    Go ρ P N D0 (outG Je ov (Rl As η0 m0 (fun _ : Unit=> J) (fun _=> ok))) As η0 m0 cf:= by
  simp only [Prod.mk.injEq] at e2
  refine go_pan hm hs hP e fun η m f w a b gm _=> ?_
  obtain ⟨η',m',l,le,g'⟩:= view_ok e2.1 e2.2 hd a gm
  exact ⟨rfl,(),hx,η',m',le,Mem.tr b l,g'⟩
theorem wpIn_sqx {x y : Code} {Qa : Exit → Act → World → Prop} {K : Fr → World → Prop} {Qx : Post} {f : Fr} {w : World} {a : Act} (h : wpc ρ P N D0 x (thenF K Qx) f w) (ha : Sim N a f ∧ Okd D0 a w)
    (hK : ∀ f' w' a',K f' w' → Sim N a' f' ∧ Okd D0 a' w' → y.wpIn (FW ρ) 0 P Qa a' w') (hQ : ∀ e f' w' a',e ≠ .normal → Qx e f' w' → Sim N a' f' ∧ Okd D0 a' w' → Qa e a' w') : (Code.seq x y).wpIn (FW ρ) 0 P Qa a w:= by
  refine wpIn_seq (wpIn_mono (h a ha) ?_)
  rintro e a' w' ⟨f',s,q⟩
  cases e with
  | normal=> exact hK f' w' a' q s
  | exit id=> exact hQ _ f' w' a' (by simp) q s
  | goto l=> exact hQ _ f' w' a' (by simp) q s
  | ret=> exact hQ _ f' w' a' (by simp) q s
  | panic ch=> exact hQ _ f' w' a' (by simp) q s
  | outgrown=> exact hQ _ f' w' a' (by simp) q s
def okM (P : Program) (fn : Func) (w : World) (R : Value → World → Prop) : Exit → Act → World → Prop:= bodyPostM (FW none) 0 P fn fun e w'=> ∃ v,e = .returned v ∧ Kd w w' ∧ R v w'
theorem okM_of {fn : Func} {w w1 : World} {R : Value → World → Prop} {e : Exit} {a : Act} {f : Fr} (q : outF P N fn R e f w1) (s : Sim N a f ∧ Okd (w,[],true) a w1) : okM P fn w R e a w1:= by
  have hd : a.defers = []:= s.2.just rfl
  cases e with
  | normal =>
    show LeavesInM _ _ _ _ _ _ a.defers _ _
    rw [hd]
    obtain ⟨v,hr,hR⟩:= q w1 (Pd.rfl' w1)
    exact ⟨v,hr a s.1,v,rfl,s.2.keep,hR⟩
  | ret =>
    show LeavesInM _ _ _ _ _ _ a.defers _ _
    rw [hd]
    obtain ⟨v,hr,hR⟩:= q w1 (Pd.rfl' w1)
    exact ⟨v,hr a s.1,v,rfl,s.2.keep,hR⟩
  | exit id=> exact q.elim
  | goto l=> exact q.elim
  | panic ch=> exact q.elim
  | outgrown=> exact q.elim
theorem get_of {k kd d id : Nat} {fn : Func} {R0 R1 C2 REST : Code} {ty1 ty2 : TypeId} {pos1 pos2 : String} {af1 af2 : Array Edge} {args : List AV} {r : AV} {ov : Value} {J1 : AS} {ι : Type} {JE : ι → AS} {okE : ι → Prop} {ok1 okX : Prop} {zd : List D} {nc : Nat} {tc te : TypeId} {ev0 : D}
    (hc : ∀ (a : Array Value) w,(callFunc k a).run P w = .ok (.enter k a) w) (hcd : ∀ (a : Array Value) w,(callFunc kd a).run P w = .ok (.enter kd a) w) (hf : P.funcs[k]? = some fn)
    (hb : fn.body = some (.seq R0 (.seq R1 (.seq C2 (.seq (.region id #[⟨some d,.makeFunc (.func kd) #[] #[.tmp 4,.tmp 5],ty1,pos1,af1,none⟩,⟨none,.defer ⟨.value (.tmp d),#[],#[]⟩,ty2,pos2,af2,none⟩] false) REST)))))
    (hN : fn.ntmps = N) (hle : Nat.ble args.length N = true) (hdN : Nat.blt d N = true) (h45 : Nat.beq 4 d = false ∧ Nat.beq 5 d = false)
    (hJ : (get J1.sl d,get J1.sl 4,get J1.sl 5) = (.any,.pb 0 0,.pb 1 0)) 
    (h1 : ∀ D0 As η0 m0 Jp,(∀ n,η0 n ≠ none → n < 0) → Bk As η0 m0 (fun _ : Unit=> J1) (fun _=> ok1) Jp → Go none P N D0 (outF P N fn (PostR As η0 m0 (is r [] 0))) As η0 m0 ⟨initS args [] 0,.code R0,[.code R1,.code C2,.ctn Jp]⟩)
    (h2 : ok1 → ∀ D0 As η0 m0,(∀ n,η0 n ≠ none → n < 2) → Go none P N D0 (outG (Rl As η0 m0 JE okE) ov (Rl As η0 m0 (fun _ : Unit=> ⟨[(4,.pb 0 0),(5,.pb 1 0)],[(0,.box 0 (List.replicate nc .any) tc),(1,.box 1 [.any] te)],[],2⟩) (fun _=> okX))) As η0 m0 ⟨J1,.code REST,[]⟩)
    (h3 : ∀ i,okE i → ∀ D0 As η0 m0,(∀ n,η0 n ≠ none → n < 0) → Go none P N D0 (outF P N fn (PostR As η0 m0 (is r [] 0))) As η0 m0 ⟨JE i,.ret,[]⟩)
    (hE : ∀ i,okE i → (get (JE i).sl 4,get (JE i).sl 5) = (.pb 0 0,.pb 1 0))
    (h4 : okX → ∀ D0 As η0 m0,(∀ n,η0 n ≠ none → n < 0) → Go none P N D0 (outF P N fn (PostR As η0 m0 (is r [] 0))) As η0 m0 ⟨⟨[(4,.pb 0 0),(5,.pb 1 0)],[(0,.box 0 (zd.map .d) tc),(1,.box 1 [.d ev0] te)],[],2⟩,.ret,[]⟩)
    (hD1 : ∀ (a b : Value) (w : World),CallsDIn (FW none) 0 P kd #[a,b] .returning w fun e u' w'=> ∃ v,e = .returned v ∧ u' = .returning ∧ w' = w)
    (hD2 : ∀ (m : Mem) (As : List Ow) (w : World) (bc be : Nat) (cs es : List Value),cs.length = nc → es.length = 1 → (∀ v ∈ cs,v.oneCell' = true) → (∀ v ∈ es,v.oneCell' = true) → St m (bx bc cs tc :: bx be es te :: As) w →
      CallsDIn (FW none) 0 P kd #[pt bc 0,pt be 0] (.panicking (chn ov)) w fun e u' w'=> ∃ v,e = .returned v ∧ u' = .panicking [{ v:= ov,recovered:= true }] ∧ Kd w w' ∧
        ∃ M zs ze,m ≤ M ∧ FRL M zd zs ∧ FR M ev0 ze ∧ St M (bx bc zs tc :: bx be [ze] te :: As) w') : Sf P k args r:= by
  refine ⟨hc,fun η m As w vs hv hd S=> ?_⟩
  have hη : ∀ n,η n = none:= fun n=> by
    cases q : η n with
    | none=> rfl
    | some v=> exact absurd (hd n (by rw [q]; simp)) (by omega)
  refine calls_of_FW (ρ:= none) (n:= 0) (callsIn_of_wp_marks hf hb trivial ?_)
  have hle' : vs.length ≤ N:= by rw [← hv.1]; exact Nat.le_of_ble_eq_true hle
  have a0 : Sim N { tmps:= vs.toArray ++ Array.replicate (fn.ntmps - vs.toArray.size) undef,defers:= [] } (f0 vs) ∧ Okd (w,[],true) { tmps:= vs.toArray ++ Array.replicate (fn.ntmps - vs.toArray.size) undef,defers:= [] } w :=
    ⟨sim0 hN hle',Okd.base (a:= { tmps:= vs.toArray ++ Array.replicate (fn.ntmps - vs.toArray.size) undef,defers:= [] }) (Kd.rfl' w)⟩
  have g1:= h1 (w,[],true) As η m _ hd ⟨fun _ _ h=> h⟩ η m (f0 vs) w Env.le_refl (Mem.rfl' m) (init_gm hv hd S)
  refine wpIn_sqx g1 a0 (fun f1 w1 a1 q1 s1=> wpIn_sqx q1 s1 (fun f2 w2 a2 q2 s2=> wpIn_sqx q2 s2 (fun f3 w3 a3 q3 s3=> ?_) fun e f' w' a' hne q s=> okM_of (by cases e <;> first | exact absurd rfl hne | exact q) s) fun e f' w' a' hne q s=> okM_of (by cases e <;> first | exact absurd rfl hne | exact q) s) fun e f' w' a' hne q s=> okM_of (by cases e <;> first | exact absurd rfl hne | exact q) s
  -- what is deferred
  obtain ⟨_,hok,η3,m3,le3,l3,gm3⟩:= q3
  simp only [Prod.mk.injEq] at hJ
  obtain ⟨hJd,hJ4,hJ5⟩:= hJ
  have r4:= gm3.slr 4
  rw [hJ4] at r4
  obtain ⟨bc,e4,v4⟩:= r4.pb_inv
  have r5:= gm3.slr 5
  rw [hJ5] at r5
  obtain ⟨be,e5,v5⟩:= r5.pb_inv
  have hd3 : a3.defers = []:= s3.2.just rfl
  let fv : Value:= .func (.func kd) #[] #[pt bc 0,pt be 0]
  let dd : Deferred:= { target:= .fn (.func kd) #[pt bc 0,pt be 0],args:= #[] }
  have hdN':= blt_lt hdN
  let a4 : Act:= a3.put (some d) fv
  let a5 : Act:= { a4 with defers:= dd :: a4.defers }
  let f5 : Fr:= upo N f3 (some d) fv
  have sim4 : Sim N a4 f5:= s3.1.put (some d) fv
  have sim5 : Sim N a5 f5:= ⟨sim4.size,sim4.at_⟩
  have ed : ev f5 (.tmp d) = fv:= by
    show up N f3 d fv d = fv
    simp only [up,Nat.beq_refl,Bool.true_and,hdN,cond_true]
  refine wpIn_seq (wpIn_region ?_)
  show wpOpsIn (FW none) 0 P _ _ (List.range 2) a3 w3
  rw [List.range_eq_range']
  refine wpO_ops [⟨some d,.makeFunc (.func kd) #[] #[.tmp 4,.tmp 5],ty1,pos1,af1,none⟩,⟨none,.defer ⟨.value (.tmp d),#[],#[]⟩,ty2,pos2,af2,none⟩] 0 (fun j=> by simp) a3 w3 ?_
  unfold wpO
  rw [if_pos (by simp [Region.wanted])]
  rw [Oper.semAt_eq _ _ _ (fun c e=> by cases e)]
  rw [show (execOp a3.eval ⟨some d,.makeFunc (.func kd) #[] #[.tmp 4,.tmp 5],ty1,pos1,af1,none⟩).run P w3 = .ok (.value fv) w3 by
    rw [s3.1.eval]; simp [execOp,Instr.makeFunc,ev,v4,v5,fv]]
  show wpO none P _ _ [_] a4 w3
  unfold wpO
  rw [if_pos (by simp [Region.wanted])]
  rw [Oper.semAt_none]
  rw [show (execOp a4.eval ⟨none,.defer ⟨.value (.tmp d),#[],#[]⟩,ty2,pos2,af2,none⟩).run P w3 = .ok (.defer dd) w3 by
    rw [sim4.eval]; simp [execOp,resolve,ed,Deferred.ofValue,fv,dd]]
  show REST.wpIn (FW none) 0 P (okM P fn w _) a5 w3
  have gm5 : Gm As J1 η3 m3 f5 w3:= ⟨fun t=> by
    cases hb : Nat.beq t d && Nat.blt d N
    · have e : f5 t = f3 t:= by show up N f3 d fv t = _; simp only [up,hb,cond_false]
      rw [e]; exact gm3.slr t
    · simp only [Bool.and_eq_true,Nat.beq_eq] at hb
      obtain ⟨rfl,_⟩:= hb
      rw [hJd]; exact .any _,gm3.fz,gm3.dom,gm3.st,gm3.wf⟩
  have cle : (cutE η3 2).le η3:= fun n v h=> by unfold cutE at h; split at h; exact h; cases h
  have g2:= h2 hok (w3,a5.defers,true) As (cutE η3 2) m3 (fun n h=> by unfold cutE at h; split at h; assumption; exact absurd rfl h) η3 m3 f5 w3 cle (Mem.rfl' m3) gm5
  have k3:= s3.2.keep
  have hinv : ∀ w',(invoke dd.target dd.args).run P w' = .ok (.enter kd #[pt bc 0,pt be 0]) w':= fun w'=> by
    simp [dd,invoke,hcd]
  refine wpIn_mono (g2 a5 ⟨sim5,Okd.base (Kd.rfl' w3)⟩) ?_
  have fin : ∀ (a6 : Act) (w6 : World) (f6 : Fr),Sim N a6 f6 ∧ Okd (w3,a5.defers,true) a6 w6 → Rl As (cutE η3 2) m3 JE okE f6 w6 → LeavesInM (FW none) 0 P fn a6.tmps (fun e w'=> ∃ v,e = .returned v ∧ Kd w w' ∧ PostR As η m (is r [] 0) v w') a6.defers .returning w6:= by
    rintro a6 w6 f6 s6 ⟨i,hi,η6,m6,le6,l6,gm6⟩
    have hd6 : a6.defers = [dd]:= by rw [s6.2.just rfl]; show dd :: a3.defers = _; rw [hd3]
    rw [hd6]
    refine ⟨by simp,.inr ⟨(fun h=> by cases h),.func kd,#[pt bc 0,pt be 0],kd,#[pt bc 0,pt be 0],rfl,hinv w6,fun _ _=> trivial,?_⟩⟩
    refine CallsDIn.mono (hD1 _ _ w6) ?_
    rintro e u' w' ⟨v,rfl,rfl,rfl⟩
    have g3:= h3 i hi (w,[],true) As η m hd η6 m6 f6 w' (fun n v h=> by rw [hη] at h; cases h) (Mem.tr l3 l6) gm6
    obtain ⟨v,hr,hR⟩:= g3 w' (Pd.rfl' w')
    exact ⟨v,hr a6 s6.1,v,rfl,k3.tr s6.2.keep,hR⟩
  rintro e a6 w6 ⟨f6,s6,q⟩
  cases e with
  | normal=> exact fin a6 w6 f6 s6 q
  | ret=> exact fin a6 w6 f6 s6 q
  | exit id=> exact q.elim
  | goto l=> exact q.elim
  | outgrown=> exact q.elim
  | panic ch =>
    obtain ⟨rfl,_,hx,η6,m6,le6,l6,gm6⟩:= q
    have hd6 : a6.defers = [dd]:= by rw [s6.2.just rfl]; show dd :: a3.defers = _; rw [hd3]
    show LeavesInM _ _ _ _ _ _ a6.defers _ _
    rw [hd6]
    have e0 : η6 0 = some (pt bc 0):= le6 0 _ (by show (if _ then _ else _) = _; rw [if_pos (by omega)]; exact e4)
    have e1 : η6 1 = some (pt be 0):= le6 1 _ (by show (if _ then _ else _) = _; rw [if_pos (by omega)]; exact e5)
    obtain ⟨b0,cs,q0,q1,q2,S1⟩:= St.openBox gm6.st
    rw [e0] at q0; obtain rfl : bc = b0:= by have:= Option.some.inj q0; simpa using this
    have S2:= S1.perm (List.Perm.swap _ _ _)
    obtain ⟨b1,es,p0,p1,p2,S3⟩:= St.openBox S2
    rw [e1] at p0; obtain rfl : be = b1:= by have:= Option.some.inj p0; simpa using this
    have S4:= S3.perm (List.Perm.swap _ _ _)
    refine ⟨by simp,.inr ⟨(fun h=> by cases h),.func kd,#[pt bc 0,pt be 0],kd,#[pt bc 0,pt be 0],rfl,hinv w6,fun _ _=> trivial,?_⟩⟩
    refine CallsDIn.mono (hD2 m6 As w6 bc be cs es (by have:= q1.1; simpa using this.symm) (by have:= p1.1; simpa using this.symm) q2 p2 S4) ?_
    rintro e u' w' ⟨v,rfl,rfl,kk,M,zs,ze,l7,hz1,hz3,S5⟩
    have S6:= St.closeBox e0 (RelL.ofD hz1) hz1.one S5
    have S7:= S6.perm (List.Perm.swap _ _ _)
    have S8:= St.closeBox (cs:= [.d ev0]) e1 (.cons (.d hz3) .nil) (fun v hv=> by simp at hv; subst hv; exact hz3.one) S7
    have S9:= S8.perm (List.Perm.swap _ _ _)
    have gm7 : Gm As ⟨[(4,.pb 0 0),(5,.pb 1 0)],[(0,.box 0 (zd.map .d) tc),(1,.box 1 [.d ev0] te)],[],2⟩ η6 M f6 w':= ⟨fun t=> (gm6.slr t).up Env.le_refl l7,gm6.fz.up Env.le_refl l7,gm6.dom,S9,gm6.wf.nd,gm6.wf.lt⟩
    have g4:= h4 hx (w,[],true) As η m hd η6 M f6 w' (fun n v h=> by rw [hη] at h; cases h) (Mem.tr l3 (Mem.tr l6 l7)) gm7
    obtain ⟨v,hr,hR⟩:= g4 w' (Pd.rfl' w')
    exact ⟨v,hr a6 s6.1,v,rfl,(k3.tr s6.2.keep).tr kk,hR⟩
theorem allD_map : ∀ {zd : List D},allD (zd.map .d) = some zd
  | []=> rfl
  | a :: l=> by simp only [List.map_cons,allD,allD_map]
theorem wS_val {ops : Array Oper} {Qs : Exit → Act → List Frame → World → Prop} {i : Nat} {rest : List Nat} {o : Oper} {a : Act} {cs : List Frame} {w w' : World} {v : Value} (ho : ops[i]? = some o) (hg : o.guard = none) (hr : (execOp a.eval o).run P w = .ok (.value v) w')
    (h : wpOpsSIn (FW none) 0 P ops Qs rest (a.put o.dst v) cs w') : wpOpsSIn (FW none) 0 P ops Qs (i :: rest) a cs w:= by
  unfold wpOpsSIn
  rw [ho]
  refine ⟨fun _ _=> trivial,?_⟩
  rw [if_pos (by simp [Region.wanted,hg]),hr]
  exact h
theorem wS_rec {ops : Array Oper} {Qs : Exit → Act → List Frame → World → Prop} {i : Nat} {rest : List Nat} {o : Oper} {a : Act} {cs cs' : List Frame} {w w' : World} {v : Value} (ho : ops[i]? = some o) (hg : o.guard = none) (hr : (execOp a.eval o).run P w = .ok .recover w')
    (he : (match recoverD cs with | some (x,c2)=> (x,c2) | none=> (.nilIface,cs)) = (v,cs')) (h : wpOpsSIn (FW none) 0 P ops Qs rest (a.put o.dst v) cs' w') : wpOpsSIn (FW none) 0 P ops Qs (i :: rest) a cs w:= by
  unfold wpOpsSIn
  rw [ho]
  refine ⟨fun _ _=> trivial,?_⟩
  rw [if_pos (by simp [Region.wanted,hg]),hr]
  cases hrc : recoverD cs with
  | none=> rw [hrc] at he; simp only [Prod.mk.injEq] at he; obtain ⟨rfl,rfl⟩:= he; exact h
  | some p=> rw [hrc] at he; simp only [Prod.mk.injEq] at he; obtain ⟨rfl,rfl⟩:= he; exact h
theorem recov_of {kd id t1 t2 : Nat} {fd : Func} {REST : Code} {cts : Array TypeId} {ty1 ty2 : TypeId} {pos1 pos2 : String} {af1 af2 : Array Edge} {args : List Value} {u u' : FrameMode} {v : Value} {w : World} {R : World → Prop}
    (hf : P.funcs[kd]? = some fd) (hb : fd.body = some (.seq (.region id #[⟨some t1,.call ⟨.builtin .recover,#[],cts⟩,ty1,pos1,af1,none⟩,⟨some t2,.assign (.tmp t1),ty2,pos2,af2,none⟩] false) REST)) (hN : fd.ntmps = N) (hr0 : fd.results = #[])
    (hle : args.length ≤ N) (h1 : Nat.blt t1 N = true)
    (hv : ∀ (c₀ : Frame) (cs : List Frame),c₀.mode = u → recoverD (c₀ :: cs) = some (v,{ c₀ with mode:= u' } :: cs) ∨ (recoverD (c₀ :: cs) = none ∧ v = .nilIface ∧ u' = u))
    (h : wpc none P N (w,[],true) REST (fun e f w'=> (e = .normal ∨ e = .ret) ∧ R w') (upo N (upo N (f0 args) (some t1) v) (some t2) v) w) :
    CallsDIn (FW none) 0 P kd args.toArray u w fun e u2 w'=> ∃ x,e = .returned x ∧ u2 = u' ∧ Kd w w' ∧ R w':= by
  refine callsDIn_of_wpSIn hf hb trivial fun c₀ cs hu=> ?_
  let a0 : Act:= { tmps:= args.toArray ++ Array.replicate (fd.ntmps - args.toArray.size) undef,defers:= [] }
  have s0 : Sim N a0 (f0 args):= sim0 hN hle
  let a2 : Act:= (a0.put (some t1) v).put (some t2) v
  have s2 : Sim N a2 (upo N (upo N (f0 args) (some t1) v) (some t2) v):= (s0.put (some t1) v).put (some t2) v
  have hcs : ∃ cs',(match recoverD (c₀ :: cs) with | some (x,c2)=> (x,c2) | none=> (.nilIface,c₀ :: cs)) = (v,cs') ∧ cs' = { c₀ with mode:= u' } :: cs:= by
    rcases hv c₀ cs hu with e | ⟨e,rfl,rfl⟩
    · exact ⟨_,by rw [e],rfl⟩
    · refine ⟨_,by rw [e],?_⟩
      subst hu; rfl
  obtain ⟨cs',he,hcs'⟩:= hcs
  have ev1 : (a0.put (some t1) v).eval (.tmp t1) = v:= by
    rw [(s0.put (some t1) v).eval]
    show up N (f0 args) t1 v t1 = v
    simp only [up,Nat.beq_refl,Bool.true_and,h1,cond_true]
  have key : REST.wpSIn (FW none) 0 P (bodyPostS P fd c₀ cs fun e u2 w'=> ∃ x,e = .returned x ∧ u2 = u' ∧ Kd w w' ∧ R w') a2 cs' w:= by
    refine wpSIn_of_wpIn rfl (wpIn_mono (h a2 ⟨s2,Kd.rfl' w,[],rfl,fun _=> rfl,List.nodup_nil,fun b hb=> by cases hb⟩) ?_)
    rintro e a w' ⟨f,⟨s,ok⟩,hk,hR⟩
    have hd : a.defers = []:= ok.just rfl
    have hres : (results fd a.tmps).run P w' = .ok (.tuple #[]) w':= by simp [results,hr0]
    rcases hk with rfl | rfl
    · exact ⟨hd,u',hcs',_,hres,_,rfl,rfl,ok.keep,hR⟩
    · exact ⟨hd,u',hcs',_,hres,_,rfl,rfl,ok.keep,hR⟩
  refine wpSIn_seq (wpSIn_region ?_)
  show wpOpsSIn (FW none) 0 P _ _ [0,1] a0 (c₀ :: cs) w
  have r1 : (execOp a0.eval ⟨some t1,.call ⟨.builtin .recover,#[],cts⟩,ty1,pos1,af1,none⟩).run P w = .ok .recover w:= by
    simp [execOp,resolve,invoke,go_sem]
  have r2 : (execOp (a0.put (some t1) v).eval ⟨some t2,.assign (.tmp t1),ty2,pos2,af2,none⟩).run P w = .ok (.value v) w:= by
    show (Sem.run P (pure (Next.value ((a0.put (some t1) v).eval (.tmp t1)))) w) = _
    rw [ev1]; rfl
  exact wS_rec rfl rfl r1 he (wS_val rfl rfl r2 key)
theorem two_boxes {η0 η : Env} {m : Mem} {f : Fr} {w : World} {bc be : Nat} {zd : List D} {d : D} {tc te : TypeId} (h0 : η0 0 = some (pt bc 0)) (h1 : η0 1 = some (pt be 0)) (le : η0.le η)
    (gm : Gm As ⟨[],[(0,.box 0 (zd.map .d) tc),(1,.box 1 [.d d] te)],[],2⟩ η m f w) : ∃ zs ze,FRL m zd zs ∧ FR m d ze ∧ St m (bx bc zs tc :: bx be [ze] te :: As) w:= by
  obtain ⟨b0,cs,q0,q1,q2,S1⟩:= St.openBox gm.st
  rw [le 0 _ h0] at q0; obtain rfl : bc = b0:= by have:= Option.some.inj q0; simpa using this
  have S2:= S1.perm (List.Perm.swap _ _ _)
  obtain ⟨b1,es,p0,p1,p2,S3⟩:= St.openBox S2
  rw [le 1 _ h1] at p0; obtain rfl : be = b1:= by have:= Option.some.inj p0; simpa using this
  have S4:= S3.perm (List.Perm.swap _ _ _)
  obtain ⟨ze,us,rfl,a1,a2⟩:= p1.cons_inv
  have:= a2.nil_inv; subst this
  exact ⟨cs,ze,allD_rel allD_map q1,a1.dd,S4⟩
end
end Go.Ax
end
