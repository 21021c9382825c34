/- Several texts, one behind the other. Conditions: none. -/
import Derived.Test.YtbajlmaijjcbmaaGreatDoorZc
import Derived.Lib.Bytealg
import Derived.RecoverIn
set_option linter.unusedSimpArgs false
set_option linter.unusedVariables false
section
namespace Go.Ax
open Go Go.Gw
def GM:AObj→D
 | .row _ _ α E xs=> .sl α E xs
 | .fr _ d=>d
 | .box .. => .v undef
 | .hp .. => .v undef
def frD (ob:List Tok)(n:Nat):Option D:=match find n ob with|some (_,.row k _ α E xs)=>bif Nat.beq k n then some (.sl α E xs)else none|some (_,.fr k d)=>bif Nat.beq k n then some d else none|_=>none
def cv1 (ob:List Tok):AV→AV→AV×List Nat
 | .any,_=>(.any,[])
 | .d (.sl α E _),.d (.v (.slice none 0 0))=>(.d (.sl α E []),[])
 | .d _,.ow n=>match frD ob n with
  |some d=>(.d d,[n])
  |none=>(.ow n,[])
 | .d (.op false ds),.d (.v (.pointer none))=>(.d (.op false ds),[])
 | .d (.op true _),.d (.pf ds)=>(.d (.op true ds),[])
 |_,a=>(a,[])
def cvL (ob:List Tok):List AV→List AV→List AV×List Nat
 |e::es,a::as=>let x:=cv1 ob e a; let y:=cvL ob es as; (x.1::y.1,x.2++y.2)
 |_,as=>(as,[])
def cvA (ob:List Tok):AV→AV→AV×List Nat
 | .agg es,.agg as=>let x:=cvL ob es as; (.agg x.1,x.2)
 |e,a=>cv1 ob e a
def cvV (ob:List Tok):List AV→List AV→List AV×List Nat
 |e::es,a::as=>let x:=cvA ob e a; let y:=cvV ob es as; (x.1::y.1,x.2++y.2)
 |_,as=>(as,[])
def cvO (ob:List Tok):AObj→AObj→AObj×List Nat
 | .box _ es _,.box n cs t=>let x:=cvV ob es cs; (.box n x.1 t,x.2)
 |_,a=>(a,[])
def Q3 (ob:List Tok):List AObj→List Tok→List AObj×List Nat
 |e::es,p::ps=>let x:=cvO ob e p.2; let y:=Q3 ob es ps; (x.1::y.1,x.2++y.2)
 |_,ps=>(ps.map (·.2),[])
def Kn (ob:List Tok)(η:Env)(m:Mem)(ns:List Nat):Prop:= ∀n∈ns,∀d,frD ob n=some d→∃v,η n=some v∧FR m d v
section
variable {ob:List Tok}{η:Env}{m:Mem}
theorem Kn.app {a b:List Nat}(h:Kn ob η m (a++b)):Kn ob η m a∧Kn ob η m b:=⟨fun n hn=>h n (List.mem_append_left _ hn),fun n hn=>h n (List.mem_append_right _ hn)⟩
theorem Ur {e a:AV}{v:Value}(k:Kn ob η m (cv1 ob e a).2)(r:Rel η m a v):Rel η m (cv1 ob e a).1 v:=by
 unfold cv1 at*;split
 ·exact .any _
 ·cases r with
  |d h=>cases h with
   |v _ _=>exact .d WK
 ·rename_i n;simp only at k;split at k
  ·rename_i d hd;obtain⟨u,h1,h2⟩:=k n (by simp) d hd;have:=r.ow_inv.1;rw[h1]at this; cases this;exact .d h2
  ·exact r
 ·cases r with
  |d h=>cases h with
   |v _ _=>exact .d .op0
 ·exact .d (.op1 r.dd)
 ·exact r
theorem NL: ∀{es as:List AV} {vs:List Value},Kn ob η m (cvL ob es as).2→Bo η m as vs→Bo η m (cvL ob es as).1 vs
 | [],as,vs,_,r=>by unfold cvL; exact r
 |_::_,[],vs,_,r=>by unfold cvL; exact r
 |e::es,a::as,vs,k,r=>by
  obtain⟨v,us,rfl,h1,h2⟩:=r.cons_inv;have k':=Kn.app k;exact .cons (Ur k'.1 h1) (NL k'.2 h2)
theorem Uq {e a:AV}{v:Value}(k:Kn ob η m (cvA ob e a).2)(r:Rel η m a v):Rel η m (cvA ob e a).1 v:=by
 unfold cvA at*;split
 ·obtain⟨vs,rfl,h⟩:=r.agg_inv;have:=NL k h;exact .agg this.1 this.2
 ·rename_i h;refine Ur ?_ r;split at k
  ·exact absurd rfl (h _ _ rfl)
  ·exact k
theorem Ln: ∀{es as:List AV} {vs:List Value},Kn ob η m (cvV ob es as).2→Bo η m as vs→Bo η m (cvV ob es as).1 vs
 | [],as,vs,_,r=>by unfold cvV; exact r
 |_::_,[],vs,_,r=>by unfold cvV; exact r
 |e::es,a::as,vs,k,r=>by
  obtain⟨v,us,rfl,h1,h2⟩:=r.cons_inv;have k':=Kn.app k;exact .cons (Uq k'.1 h1) (Ln k'.2 h2)
theorem YX {e o:AObj}{x:PH}(k:Kn ob η m (cvO ob e o).2)(r:rep η m o x):rep η m (cvO ob e o).1 x:=by
 cases e<;>cases o<;>first|exact r|skip
 obtain⟨b,vs,p,q,z,u⟩:=r;exact⟨b,vs,p,Ln k q,z,u⟩
theorem NK: ∀{es:List AObj} {ps:List Tok} {h:PH} {B:List Ow},Kn ob η m (Q3 ob es ps).2→sepL (reps η m ps++B) h→sepL ((Q3 ob es ps).1.map (rep η m)++B) h
 | [],ps,h,B,_,S=>by unfold Q3; simpa[reps,List.map_map,Function.comp_def]using S
 |_::_,[],h,B,_,S=>by unfold Q3; simpa[reps]using S
 |e::es,p::ps,h,B,k,⟨h1,h2,a,s,d,x⟩=>by
  have k':=Kn.app k;exact⟨h1,h2,YX k'.1 a,NK k'.2 s,d,x⟩
end
def GZ:AObj→Bool
 | .row .. =>true
 |_=>false
def OP:AObj→Bool
 | .fr .. =>true
 |_=>false
section
variable {η:Env}{As:List Ow}{w:World}
theorem H2: ∀{ps:List Tok} {m:Mem},ps.all (fun p=>GZ p.2)=true→St m (reps η m ps++As) w→∃m',m≤m'∧(∀p∈ps,∃v,η p.2.nm=some v∧FR m' (GM p.2) v)∧St m' As w
 | [],m,_,S=>⟨m,Mem.rfl' m,(fun _ h=>by cases h),S⟩
 |(i,.row n sz α E xs)::ps,m,h,S=>by
  obtain⟨v,cs,h1,h2,h3,h4,S1⟩:=St.openRow S;letI:=Ki E sz;obtain⟨m1,l1,h5,S2⟩:=St.rowKeepT (i:=0) S1 rfl (QB h3 h4) rfl;have S3:=St.ru (l:=ps) Env.le_refl l1 S2;obtain⟨m2,l2,h6,S4⟩:=H2 (ps:=ps) (by simp only[List.all_cons,Bool.and_eq_true]at h; exact h.2) S3;refine⟨m2,Mem.tr l1 l2,fun p hp=> ?_,S4⟩;rcases List.mem_cons.1 hp with q|q
  ·subst q; exact⟨v,h1,(On h5).up l2⟩
  ·exact h6 p q
 |(i,.box ..)::ps,m,h,S=>by simp[GZ]at h
 |(i,.fr ..)::ps,m,h,S=>by simp[GZ]at h
 |(i,.hp ..)::ps,m,h,S=>by simp[GZ]at h
theorem IF: ∀{ps:List Tok} {m:Mem},ps.all (fun p=>OP p.2)=true→St m (reps η m ps++As) w→(∀p∈ps,∃v,η p.2.nm=some v∧FR m (GM p.2) v)∧St m As w
 | [],m,_,S=>⟨(fun _ h=>by cases h),S⟩
 |(i,.fr n d)::ps,m,h,S=>by
  obtain⟨⟨v,h1,h2⟩,S1⟩:=St.openFr S;obtain⟨h3,S2⟩:=IF (ps:=ps) (by simp only[List.all_cons,Bool.and_eq_true]at h; exact h.2) S1;refine⟨fun p hp=> ?_,S2⟩;rcases List.mem_cons.1 hp with q|q
  ·subst q; exact⟨v,h1,h2⟩
  ·exact h3 p q
 |(i,.box ..)::ps,m,h,S=>by simp[OP]at h
 |(i,.row ..)::ps,m,h,S=>by simp[OP]at h
 |(i,.hp ..)::ps,m,h,S=>by simp[OP]at h
def Jq:List Tok→List AObj
 | []=> []
 |p::l=> .fr p.2.nm (GM p.2)::Jq l
theorem Il {m:Mem}: ∀{ps:List Tok},(∀p∈ps,∃v,η p.2.nm=some v∧FR m (GM p.2) v)→St m As w→St m ((Jq ps).map (rep η m)++As) w
 | [],_,S=>S
 |p::ps,h,S=>by
  obtain⟨v,h1,h2⟩:=h p List.mem_cons_self;exact St.closeFr h1 h2 (Il (fun q hq=>h q (List.mem_cons_of_mem _ hq)) S)
theorem Im {m:Mem}: ∀{ps:List Tok},ps.all (fun p=>OP p.2)=true→(∀p∈ps,∃v,η p.2.nm=some v∧FR m (GM p.2) v)→St m As w→St m (reps η m ps++As) w
 | [],_,_,S=>S
 |(i,.fr n d)::ps,k,h,S=>by
  obtain⟨v,h1,h2⟩:=h _ List.mem_cons_self;exact St.closeFr h1 h2 (Im (by simp only[List.all_cons,Bool.and_eq_true]at k; exact k.2) (fun q hq=>h q (List.mem_cons_of_mem _ hq)) S)
 |(i,.box ..)::ps,k,h,S=>by simp[OP]at k
 |(i,.row ..)::ps,k,h,S=>by simp[OP]at k
 |(i,.hp ..)::ps,k,h,S=>by simp[OP]at k
end
def Hz (ob:List Tok):List Nat→List Nat→List Tok
 | [],_=> []
 |n::ns,seen=>bif DB n seen then Hz ob ns seen else match find n ob with
  |some p=>p::Hz ob ns (n::seen)
  |none=>Hz ob ns (n::seen)
structure UL:Type 1 where
 k:FuncId
 as:List AV
 objs:List AObj
 ut:List Tok
 fw:List Tok
 fr:List Tok
 mt:Mt
def VY (ob:List Tok)(mt:Mt):List AObj→Option (List Tok)
 | []=>some []
 |o::l=>match find (HU mt o.nm o.nm) ob,VY ob mt l with
  |some p,some r=>some (p::r)
  |_,_=>none
def OE (ob:List Tok)(k:FuncId)(as ea:List AV)(eobs:List AObj):Option UL:=
 let mt:=mtO ob eobs (mtO ob eobs (mtL mtA ea as))
 match VY ob mt eobs with
 |some ut=>
  let c:=cvV ob ea as
  let o:=Q3 ob eobs ut
  let ts:=Hz ob (c.2++o.2) []
  some ⟨k,c.1,o.1,ut,ts.filter (fun p=>GZ p.2),ts.filter (fun p=> !GZ p.2),mt⟩
 |none=>none
def PF (cf:Cf)(ea:List AV)(eobs:List AObj):Option UL:=
 match EF cf with
 |some a=>match a.g,a.o.op with
  |none,.call c=>match NR cf.s.fz a.sl c with
   |some (k,as)=>OE cf.s.ob k as ea eobs
   |none=>none
  |_,_=>none
 |none=>none
def Q7 (ns:List Nat):Nat→Bool
 |0=>true
 |n+1=>DB n ns&&Q7 ns n
theorem O2 {ns:List Nat}: ∀{n:Nat},Q7 ns n=true→∀j,j<n→j∈ns
 |0,_,j,h=>by omega
 |n+1,h,j,hj=>by
  simp only[Q7,Bool.and_eq_true]at h;by_cases e:j=n
  ·subst e; exact D5.1 h.1
  ·exact O2 h.2 j (by omega)
def known (ob:List Tok)(ts:List Tok):List Nat→Bool
 | []=>true
 |n::ns=>(match find n ob with|some p=>DB p.1 (tids ts)&&Nat.beq p.2.nm n|none=>true)&&known ob ts ns
def WH (ob:List Tok)(p:UL)(ea:List AV)(eobs:List AObj)(n0:Nat):Bool:=ea.all (okA n0)&&(eobs.all (okO n0)&&(NX (tids ((p.ut++p.fw)++p.fr))&&(Q7 (eobs.map (·.nm)) n0&&(p.fr.all (fun p=>OP p.2)&&(p.fw.all (fun p=>GZ p.2)&&true)))))
def bk (φ:Nat→Nat)(nx n0:Nat):Nat→Nat:=fun j=>bif Nat.blt j n0 then φ j else nx+(j-n0)
def stpC (s:AS)(p:UL)(n0:Nat)(r:AV)(obs':List AObj)(n1:Nat):Stp:=
 let φ:=bk (fun j=>HU p.mt j 0) s.nx n0
 let md:=obs'.map (RG φ)++Jq p.fw
 ⟨UT φ r,p.fr,p.ut++p.fw,enO (s.nx+(n1-n0)) md,s.nx+(n1-n0)+md.length,[]⟩
def XS (N:Nat)(cf:Cf)(ea:List AV)(eobs:List AObj)(n0:Nat)(r:AV)(obs':List AObj)(n1:Nat):Cf:=match PF cf ea eobs with|some p=>push N cf (stpC cf.s p n0 r obs' n1)|none=>cf
def Y4 (cf:Cf)(ea:List AV)(eobs:List AObj)(n0:Nat):Option (FuncId×List AV×List AObj×Bool):=match PF cf ea eobs with|some p=>some (p.k,p.as,p.objs,WH cf.s.ob p ea eobs n0)|none=>none
def UB (cf:Cf)(ea:List AV)(eobs:List AObj):List AV×List AObj:=match PF cf ea eobs with|some p=>(ea.map (UT fun j=>HU p.mt j 0),eobs.map (RG fun j=>HU p.mt j 0))|none=>([],[])
theorem Fm {ob:List Tok}: ∀{ns seen:List Nat} {p:Tok},p∈Hz ob ns seen→p∈ob
 | [],_,_,h=>by cases h
 |n::ns,seen,p,h=>by
  unfold Hz at h;cases hb:DB n seen
  ·rw[hb]at h;simp only[cond_false]at h;split at h
   ·rename_i q hq;rcases List.mem_cons.1 h with e|e
    ·subst e; exact Ex hq
    ·exact Fm e
   ·exact Fm h
  ·rw[hb]at h; exact Fm h
theorem G6 {ob:List Tok}{n:Nat}{p:Tok}(hf:find n ob=some p): ∀{ns seen:List Nat},n∈ns→DB n seen=false→p∈Hz ob ns seen
 | [],_,h,_=>by cases h
 |a::ns,seen,h,hs=>by
  unfold Hz;by_cases e:n=a
  ·subst e;rw[hs];simp only[cond_false,hf];exact List.mem_cons_self
  ·have h':n∈ns:=by
    rcases List.mem_cons.1 h with q|q
    ·exact absurd q e
    ·exact q
   have hs':DB n (a::seen)=false:=by
    unfold DB;rw[Gw.beq_ne (Ne.symm e)]; exact hs
   cases hb:DB a seen
   ·simp only[cond_false];split
    ·exact List.mem_cons_of_mem _ (G6 hf h' hs')
    ·exact G6 hf h' hs'
   ·exact G6 hf h' hs
theorem Lh {ob:List Tok}{mt:Mt}: ∀{es:List AObj} {ps:List Tok},VY ob mt es=some ps→∀p∈ps,p∈ob
 | [],ps,h,p,hp=>by cases h; cases hp
 |e::es,ps,h,p,hp=>by
  unfold VY at h;split at h
  ·rename_i a b h1 h2; cases h;rcases List.mem_cons.1 hp with q|q
   ·subst q; exact Ex h1
   ·exact Lh h2 p q
  ·cases h
theorem Lg {n:Nat}: ∀{l:List Tok} {q:Tok},find n l=some q→q.2.nm=n
 | [],_,h=>by cases h
 |p::l,q,h=>by
  unfold find at h;cases hb:Nat.beq p.2.nm n
  ·rw[hb]at h; exact Lg h
  ·rw[hb]at h; cases h; exact Nat.eq_of_beq_eq_true hb
theorem Jg {ob:List Tok}{n:Nat}{d:D}(h:frD ob n=some d): ∃p,find n ob=some p∧GM p.2=d∧(GZ p.2=true∨OP p.2=true)∧p.2.nm=n:=by
 unfold frD at h;split at h
 ·rename_i i k sz α E xs hf;cases hb:Nat.beq k n
  ·rw[hb]at h; cases h
  ·rw[hb]at h; cases h; exact⟨_,hf,rfl,.inl rfl,Lg hf⟩
 ·rename_i i k d' hf;cases hb:Nat.beq k n
  ·rw[hb]at h; cases h
  ·rw[hb]at h; cases h; exact⟨_,hf,rfl,.inr rfl,Lg hf⟩
 ·cases h
theorem Up {η:Env}{m:Mem}{As:List Ow}{w:World}: ∀{os:List AObj},St m (os.map (rep η m)++As) w→∀o∈os,∃v,η o.nm=some v
 | [],_,_,h=>by cases h
 |a::os,S,o,h=>by
  obtain⟨x,⟨h1,h2,ha,hs,d,e⟩,d1,g,g',nd⟩:=S.own;rcases List.mem_cons.1 h with q|q
  ·subst q; exact XN ha
  ·have S2:St m (os.map (rep η m)++(rep η m a::As)) w:=S.perm List.perm_middle.symm;exact Up S2 o q
section
variable {ρ:Option Nat}{P:Program}{N:Nat}{D0:Dw}{Q:C5}{As:List Ow}{η0:Env}{m0:Mem}
theorem E2 {cf:Cf}{a:Xh}{r:Stp}(ha:EF cf=some a)(hg:a.g=none)(ht:Tri ρ P N D0 a.l.toArray a.o cf.s.fz a.sl cf.s.nx r)(hs:HC cf.s r)(g:Go ρ P N D0 Q As η0 m0 (push N cf r)):Go ρ P N D0 Q As η0 m0 cf:=by
 obtain⟨s,md,K⟩:=cf;unfold EF at ha;split at ha<;>first|cases ha|skip
 rename_i dr l o rest h hmd;simp only at hmd; subst hmd;split at ha
 ·rename_i hgd;cases ha;refine Hv ?_ hs g;have hr:rds l.toArray o=opT o.op:=by simp[rds,hgd]
  rw[hr]; exact ht
 ·rename_i j w hgd;split at ha
  ·cases ha
  ·rename_i gs hd;split at ha
   ·rename_i v' hk;cases hb:RS v' w
    ·rw[hb]at ha; cases ha
    ·rw[hb]at ha;simp only[cond_true]at ha;cases ha;exact Hv (Ql hgd hd hk hb ht) hs g
   split at ha
   ·cases ha
   ·cases ha; cases hg
theorem Cr {cf:Cf}{a:Xh}(ha:EF cf=some a)(hg:a.g=none):a.o.guard=none:=by
 unfold EF at ha;split at ha<;>first|cases ha|skip
 split at ha
 ·rename_i hh; cases ha; exact hh
 ·rename_i j w hgd;split at ha
  ·cases ha
  ·split at ha
   ·rename_i v' hk;cases hb:RS v' w
    ·rw[hb]at ha; cases ha
    ·rw[hb]at ha;simp only[cond_true]at ha;cases ha; rfl
   split at ha
   ·cases ha
   ·cases ha; cases hg
theorem VQ (hm:P.follows .mixedOrders=true){n:Nat}{cf:Cf}{k:FuncId}{ea:List AV}{eobs obs':List AObj}{n0 n1:Nat}{r:AV}(hs:Sp P k ea eobs n0 (is r obs' n1))
  (e:(Y4 (adv P N n cf).1 ea eobs n0,okA n1 r&&(obs'.all (okO n1)&&Nat.ble n0 n1),((adv P N n cf).2++A3 (adv P N n cf).1).map (·.1))=
   (some (k,(UB (adv P N n cf).1 ea eobs).1,(UB (adv P N n cf).1 ea eobs).2,true),true,((adv P N n cf).2++A3 (adv P N n cf).1).map (·.2)))
  (g:Go ρ P N D0 Q As η0 m0 (XS N (adv P N n cf).1 ea eobs n0 r obs' n1)):Go ρ P N D0 Q As η0 m0 cf:=by
 simp only[Prod.mk.injEq]at e;obtain⟨e1,e2,e3⟩:=e;obtain⟨he1,-⟩:=EqsOk.two e3;refine BA hm he1 ?_;generalize (adv P N n cf).1=c0 at*;unfold Y4 UB at e1;unfold XS at g;cases hp:PF c0 ea eobs with
 |none=>rw[hp]at e1; cases e1
 |some p=>
  rw[hp]at e1 g;simp only[Option.some.injEq,Prod.mk.injEq]at e1 g;obtain⟨ek,eas,eobj,eok⟩:=e1;unfold PF at hp;split at hp
  ·rename_i a ha;split at hp
   ·rename_i c hg hop;split at hp
    ·rename_i k' as hc;unfold OE at hp;simp only at hp;split at hp
     ·rename_i ut hut;have hplan:=Option.some.inj hp;clear hp;have pk':p.k=k':=by rw[←hplan]
      have pas:p.as=(cvV c0.s.ob ea as).1:=by rw[←hplan]
      have pobj:p.objs=(Q3 c0.s.ob eobs ut).1:=by rw[←hplan]
      have put:p.ut=ut:=by rw[←hplan]
      have pfw:p.fw=(Hz c0.s.ob ((cvV c0.s.ob ea as).2++(Q3 c0.s.ob eobs ut).2) []).filter (fun p=>GZ p.2):=by rw[←hplan]
      have pfr:p.fr=(Hz c0.s.ob ((cvV c0.s.ob ea as).2++(Q3 c0.s.ob eobs ut).2) []).filter (fun p=> !GZ p.2):=by rw[←hplan]
      clear hplan;simp only[WH,Bool.and_eq_true]at eok;obtain⟨o1,o2,o3,o4,o5,o6,-⟩:=eok;simp only[Bool.and_eq_true]at e2;obtain⟨x1,x2,x3⟩:=e2;have x3:=Nat.le_of_ble_eq_true x3;have hnd:=FY o3;have hS:=hs.2;subst ek;refine E2 ha hg ?_ ?_ g
      ·
        have hgd0:=Cr ha hg;obtain⟨l,⟨dst,op,ty,pos,af,gd⟩,gg,sl,es⟩:=a;simp only at hgd0;simp only at hop hg; subst hop hg;have hgd:gd=none:=hgd0;subst hgd;refine⟨by show c0.s.nx≤c0.s.nx+(n1-n0)+_; omega,fun rest Q η m f w As hr hz hn S hk=> ?_⟩;simp only[stpC]at S hk hn⊢;rw[Be,Be,List.append_assoc,List.append_assoc]at S;have S1:=S.perm (List.perm_append_comm_assoc (reps η m p.ut) (reps η m p.fw) _);obtain⟨m1,l1,K1,S2⟩:=H2 o6 S1;have S3:=St.ru Env.le_refl l1 S2;have S4:=S3.perm (List.perm_append_comm_assoc (reps η m1 p.ut) (reps η m p.fr) _);have S5:=St.ru Env.le_refl l1 S4;obtain⟨K2,S6⟩:=IF o5 S5;have KN:Kn c0.s.ob η m1 ((cvV c0.s.ob ea as).2++(Q3 c0.s.ob eobs ut).2):=by
         intro j hj d hd;obtain⟨q,hf,hq,hrf,hnm⟩:=Jg hd;have hmem:=G6 hf hj (seen:=[]) rfl;rcases hrf with h|h
         ·have:q∈p.fw:=by rw[pfw]; simp only[List.mem_filter]; exact⟨hmem,h⟩
          obtain⟨v,y1,y2⟩:=K1 q this;rw[hnm]at y1; rw[hq]at y2; exact⟨v,y1,y2⟩
         ·have:q∈p.fr:=by
           rw[pfr]; simp only[List.mem_filter];refine⟨hmem,?_⟩;cases hq2:q.2<;>rw[hq2]at h<;>first|rfl|cases h
          obtain⟨v,y1,y2⟩:=K2 q this;rw[hnm]at y1; rw[hq]at y2; exact⟨v,y1,y2⟩
        obtain⟨kn1,kn2⟩:=Kn.app KN;have S7:St m1 (p.objs.map (rep η m1)++As) w:=by
         rw[pobj];rw[put]at S6;obtain⟨x,sx,rx⟩:=S6.own;exact⟨S6.os,S6.tape,S6.output,x,NK kn2 sx,rx⟩
        let φ:Nat→Nat:=fun j=>HU p.mt j 0;let η1:Env:=fun j=>if j<n0 then η (φ j)else none;have hη1: ∀j,j<n0→η (φ j)=η1 j:=fun j hj=>(if_pos hj).symm;have S8:St m1 (eobs.map (rep η1 m1)++As) w:=by
         rw[eobj]at S7;refine S7.imp (by simp) fun i A B ha hb x hx=> ?_;rw[List.getElem?_append]at ha hb;simp only[List.length_map]at ha hb;split at ha
         ·rename_i q;rw[if_pos q]at hb;simp only[List.getElem?_map,Option.map_eq_some_iff]at ha hb;obtain⟨o',⟨o,ho,rfl⟩,rfl⟩:=ha;obtain⟨o2',ho',rfl⟩:=hb;rw[ho]at ho'; cases ho';exact PD hη1 (List.all_eq_true.1 o2 o (List.mem_of_getElem? ho)) hx
         ·rename_i q;rw[if_neg q]at hb;rw[ha]at hb; cases hb; exact hx
        have hdef: ∀j,j<n0→∃v,η1 j=some v:=fun j hj=>by
         have:=O2 o4 j hj;simp only[List.mem_map]at this;obtain⟨o,ho,rfl⟩:=this;exact Up S8 o ho
        refine Mu (η:=η) (m:=m) hc (by rw[←pk']; exact hs.1) hr hz (fun vs hv=> ?_) (R:=fun v w'=> ∃(M:Mem) (η':Env) (r':AV) (obs2:List AObj) (n2:Nat),m1≤M∧η1.le η'∧is r obs' n1 r' obs2 n2∧(∀n,η' n≠none→n<n2)∧Rel η' M r' v∧St M (obs2.map (rep η' M)++As) w') ?_
        ·rw[←pk'];have:=Ln kn1 (hv.up Env.le_refl l1);rw[←pas,eas]at this;exact hS η1 m1 As w vs (Ni hη1 o1 this) (fun j hj=>by
          by_cases q:j<n0
          ·exact q
          ·exact absurd (if_neg q) hj) S8
        ·rintro v w2 ⟨M,η',r',obs2,n2,l2,le,⟨rfl,rfl,rfl⟩,hdom,hR,S9⟩;let η2:Env:=fun c=>if c0.s.nx≤c∧c<c0.s.nx+(n2-n0)then η' (n0+(c-c0.s.nx))else η c;have hle:η.le η2:=fun c u hu=>by
          show(if _ then _ else _)=_;split
          ·rename_i q;have:=hn c q.1 (by omega);rw[this]at hu; cases hu
          ·exact hu
         have hbk: ∀j,j<n2→∀u,η' j=some u→η2 (bk φ c0.s.nx n0 j)=some u:=by
          intro j hj u hu;unfold bk;cases hb:Nat.blt j n0
          ·have hge:n0≤j:=by
            rcases Nat.lt_or_ge j n0 with q|q
            ·have:Nat.blt j n0=true:=by simp[Nat.blt_eq,q]
             rw[hb]at this; cases this
            ·exact q
           simp only[cond_false];show(if _ then _ else _)=_;rw[if_pos ⟨by omega,by omega⟩];have:n0+(c0.s.nx+(j-n0)-c0.s.nx)=j:=by omega
           rw[this]; exact hu
          ·have hlt:=CQ hb;simp only[cond_true];obtain⟨u0,hu0⟩:=hdef j hlt;have:=le j u0 hu0;rw[hu]at this; cases this;have h1:η (φ j)=some u:=by rw[hη1 j hlt]; exact hu0
           exact hle _ _ h1
         refine hk η2 M w2 v hle (Mem.tr l1 l2) (fun c hc2=> ?_) (SY hbk x1 hR) ?_
         ·have:(if c0.s.nx≤c∧c<c0.s.nx+(n2-n0)then η' (n0+(c-c0.s.nx))else η c)≠none:=hc2;split at this
          ·rename_i q; exact .inr ⟨q.1,by omega⟩
          ·exact .inl this
         ·rw[Be,List.append_assoc,GW,List.map_append,List.append_assoc];have T1:St M ((obs2.map (RG (bk φ c0.s.nx n0))).map (rep η2 M)++As) w2:=by
           refine S9.imp (by simp) fun i A B ha hb x hx=> ?_;rw[List.getElem?_append]at ha hb;simp only[List.length_map]at ha hb;split at ha
           ·rename_i q;rw[if_pos q]at hb;simp only[List.getElem?_map,Option.map_eq_some_iff]at ha hb;obtain⟨o,ho,rfl⟩:=ha;obtain⟨o2',⟨o',ho',rfl⟩,rfl⟩:=hb;rw[ho]at ho'; cases ho';exact XO hbk (List.all_eq_true.1 x2 o (List.mem_of_getElem? ho)) hx
           ·rename_i q;rw[if_neg q]at hb;rw[ha]at hb; cases hb; exact hx
          have F1: ∀q∈p.fw,∃v,η2 q.2.nm=some v∧FR M (GM q.2) v:=fun q hq=>let ⟨v,a,b⟩:=K1 q hq; ⟨v,hle _ _ a,b.up l2⟩;have F2: ∀q∈p.fr,∃v,η2 q.2.nm=some v∧FR M (GM q.2) v:=fun q hq=>let ⟨v,a,b⟩:=K2 q hq; ⟨v,hle _ _ a,b.up l2⟩;have T2:=Il F1 (Im o5 F2 T1);refine T2.perm ?_;exact(List.Perm.append_left _ (List.perm_append_comm_assoc _ _ _)).trans (List.perm_append_comm_assoc _ _ _)
      ·
        refine⟨fun q hq=> ?_,?_,?_,fun t ht=> ?_⟩
        ·simp only[stpC]at hq;rcases List.mem_append.1 hq with h|h
         ·rcases List.mem_append.1 h with h|h
          ·rw[put]at h; exact Lh hut q h
          ·rw[pfw]at h; exact Fm (List.mem_filter.1 h).1
         ·rw[pfr]at h; exact Fm (List.mem_filter.1 h).1
        ·exact hnd
        ·simp only[stpC]; rw[Ec]; exact List.nodup_range'
        ·simp only[stpC]at ht⊢;rw[Ec,List.mem_range']at ht;obtain⟨i,hi,rfl⟩:=ht;omega
     ·cases hp
    ·cases hp
   ·cases hp
  ·cases hp
end
end Go.Ax
end
section
namespace Go.Ax
open Go Go.Gw
def XM (ob:List Tok):AV→Option (D×List Tok)
 | .d d=>some (d,[])
 | .ow n=>match find n ob with
  |some (i,.fr k d)=>bif Nat.beq k n then some (d,[(i,.fr k d)])else none
  |_=>none
 |_=>none
theorem SO {ob:List Tok}{a:AV}{d:D}{ts:List Tok}(h:XM ob a=some (d,ts)){η:Env}{m:Mem}{As:List Ow}{w:World}{v:Value}(S:St m (reps η m ts++As) w)(r:Rel η m a v):FR m d v:=by
 unfold XM at h;split at h
 ·cases h; exact r.dd
 ·rename_i n;split at h
  ·rename_i i k d' hf;cases hb:Nat.beq k n
   ·rw[hb]at h; cases h
   ·rw[hb]at h; cases h;have:=Nat.eq_of_beq_eq_true hb; subst this;obtain⟨⟨u,h1,h2⟩,_⟩:=St.openFr S;have:=r.ow_inv.1;rw[h1]at this; cases this; exact h2
  ·cases h
 ·cases h
theorem QA {ob:List Tok}{a:AV}{d:D}{ts:List Tok}(h:XM ob a=some (d,ts)):(∀p∈ts,p∈ob)∧(tids ts).Nodup:=by
 unfold XM at h;split at h
 ·cases h; exact⟨fun _ h=>(by cases h),List.nodup_nil⟩
 ·split at h
  ·rename_i i k d' hf;cases hb:Nat.beq k _
   ·rw[hb]at h; cases h
   ·rw[hb]at h; cases h;exact⟨fun p hp=>by simp at hp; subst hp; exact Ex hf,by simp[tids]⟩
  ·cases h
 ·cases h
def A9 (N:Nat)(cf:Cf)(v:AV)(rd:List Tok):Cf:=
 match EF cf with
 |some a=>match a.g with
  |none=>push N cf ⟨v,rd,[],[],cf.s.nx,[]⟩
  |some (g,w,p)=>push N cf ⟨.gd g w p v,rd,[],[],cf.s.nx,[]⟩
 |none=>cf
section
variable {ρ:Option Nat}{P:Program}{N:Nat}{D0:Dw}{Q:C5}{As:List Ow}{η0:Env}{m0:Mem}
theorem Tc {s:AS}{v:AV}{es:Eqs}{rd:List Tok}(h:(∀p∈rd,p∈s.ob)∧(tids rd).Nodup):HC s ⟨v,rd,[],[],s.nx,es⟩:=⟨fun x hx=>h.1 x (by simpa using hx),by simpa using h.2,by simp[tids],fun t ht=>by simp[tids]at ht⟩
theorem CT {cf:Cf}{a:Xh}{v:AV}{rd:List Tok}(ha:EF cf=some a)(he:EqsOk a.es)(hrd:(∀p∈rd,p∈cf.s.ob)∧(tids rd).Nodup)
  (ht:(∀q,a.g=some q→q.2.2=true)→Tri ρ P N D0 a.l.toArray {a.o with guard:=none} cf.s.fz a.sl cf.s.nx ⟨v,rd,[],[],cf.s.nx,[]⟩)
  (g:Go ρ P N D0 Q As η0 m0 (A9 N cf v rd)):Go ρ P N D0 Q As η0 m0 cf:=by
 obtain⟨s,md,K⟩:=cf;have ha0:=ha;unfold EF at ha;split at ha<;>first|cases ha|skip
 rename_i dr l o rest h hmd;simp only at hmd; subst hmd;split at ha
 ·rename_i hg;cases ha;have e:{o with guard:=none}=o:=by obtain⟨a,b,c,d,e,f⟩:=o; simp only at hg; subst hg; rfl
  rw[show A9 N ⟨s,.ops dr l (o::rest) h,K⟩ v rd=push N ⟨s,.ops dr l (o::rest) h,K⟩ ⟨v,rd,[],[],s.nx,[]⟩ by unfold A9; rw[ha0]]at g;refine Hv ?_ (Tc hrd) g;have hr:rds l.toArray o=opT o.op:=by simp[rds,hg]
  rw[hr];have:=ht (fun q hq=>by cases hq);rw[e]at this;exact this
 ·rename_i j w hg;split at ha
  ·cases ha
  ·rename_i gs hd;split at ha
   ·rename_i v' hk;cases hb:RS v' w
    ·rw[hb]at ha; cases ha
    ·rw[hb]at ha;simp only[cond_true]at ha;cases ha;rw[show A9 N ⟨s,.ops dr l (o::rest) h,K⟩ v rd=push N ⟨s,.ops dr l (o::rest) h,K⟩ ⟨v,rd,[],[],s.nx,[]⟩ by unfold A9; rw[ha0]]at g;exact Hv (Ql hg hd hk hb (ht (fun q hq=>by cases hq))) (Tc hrd) g
   split at ha
   ·cases ha
   ·rename_i p ctx hi;cases ha;rw[show A9 N ⟨s,.ops dr l (o::rest) h,K⟩ v rd=push N ⟨s,.ops dr l (o::rest) h,K⟩ ⟨.gd gs w p v,rd,[],[],s.nx,[]⟩ by unfold A9; rw[ha0]]at g;refine Hv ?_ (Tc hrd) g;exact Wl (KM hg hd hi he fun hp=>ht fun q hq=>by cases hq; exact hp)
theorem H0 {cf:Cf}{a:Xh}(ha:EF cf=some a)(h: ∀q,a.g=some q→q.2.2=true):gOf cf=true:=by
 unfold gOf; rw[ha];obtain⟨l,o,gg,sl,es⟩:=a;cases gg with
 |none=>rfl
 |some q=>exact h q rfl
theorem CU {cf:Cf}{a:Xh}(ha:EF cf=some a):A3 cf=a.es:=by unfold A3; rw[ha]
def idxK (P:Program)(cf:Cf):Option (D×Int×Nat×List Tok):=
 match EF cf with
 |some a=>match a.o.op with
  | .indexAddr t x y=>match XM cf.s.ob (aev a.sl x),Jo a.sl y,P.underlying t with
   |some (d,ts),some (_,j),some (.slice e)=>match HA P e with
    |some i=>some (d,j,i.sz,ts)
    |none=>none
   |_,_,_=>none
  |_=>none
 |none=>none
def idxT (P:Program)(cf:Cf):List Tok:=match idxK P cf with|some (_,_,_,ts)=>ts|none=> []
theorem go_idx (hm:P.follows .mixedOrders=true){n k:Nat}{cf:Cf}{α:Type}{E:α→List D}{xs:List α}{j:Int}{x:α}(hE: ∀x,(E x).length=k)(hq:gOf (adv P N n cf).1=true→idx xs j=some x)
  (e:((idxK P (adv P N n cf).1).map (fun r=>(r.1,r.2.1,r.2.2.1)),((adv P N n cf).2++A3 (adv P N n cf).1).map (·.1))=(some (.sl α E xs,j,k),((adv P N n cf).2++A3 (adv P N n cf).1).map (·.2)))
  (g:Go ρ P N D0 Q As η0 m0 (A9 N (adv P N n cf).1 (.d (.pf (E x))) (idxT P (adv P N n cf).1))):Go ρ P N D0 Q As η0 m0 cf:=by
 simp only[Prod.mk.injEq]at e;obtain⟨e1,e3⟩:=e;obtain⟨he1,he2⟩:=EqsOk.two e3;refine BA hm he1 ?_;generalize (adv P N n cf).1=c0 at*;cases hk:idxK P c0 with
 |none=>rw[hk]at e1; cases e1
 |some r=>
  have hT:idxT P c0=r.2.2.2:=by unfold idxT; rw[hk]
  rw[hT]at g;rw[hk]at e1;simp only[Option.map_some,Option.some.injEq,Prod.mk.injEq]at e1;obtain⟨e1,e2,e4⟩:=e1;unfold idxK at hk;split at hk
  ·rename_i a ha;rw[CU ha]at he2;split at hk
   ·rename_i t x' y hop;split at hk
    ·rename_i d ts kk jj e' h1 h2 h3;split at hk
     ·rename_i i hi;cases hk;simp only at e1 e2 e4 g;subst e1 e2;refine CT ha he2 (QA h1) (fun hp=> ?_) g;have q:=hq (H0 ha hp);obtain⟨l,⟨dst,op,ty,pos,af,gd⟩,gg,sl,es⟩:=a;simp only at hop⊢; subst hop;refine⟨Nat.le_refl _,fun rest Q η m f w As hr hz hn S hk=> ?_⟩;have S':St m (reps η m ts++As) w:=S;have hf:=SO h1 S' (Ao hr x');letI:=Ki E k;refine SI (q:=x) rfl (BR h2 hr) (RK hf hE) q h3 (by rw[←e4]; exact Cc hi) fun p cs hp hrep=> ?_;exact hk η m w p Env.le_refl (Mem.rfl' m) (fun n h=> .inl h) (.d (.pf hp (PtC.isPt hp) hrep.1.1 hrep.1.2)) S
     ·cases hk
    ·cases hk
   ·cases hk
  ·cases hk
def dlen:D→Int
 | .sl _ _ xs=>(xs.length:Int)
 |_=>0
def cutK (P:Program)(cf:Cf):Option (D×Int×Int×Int×Nat×List Tok):=
 match EF cf with
 |some a=>match a.o.op with
  | .slice t x lo hi mx=>match XM cf.s.ob (aev a.sl x),P.underlying t with
   |some (d,ts),some (.slice e)=>match HA P e with
    |some i=>
     let l:Option Int:=match lo with|none=>some 0|some o=>(Jo a.sl o).map (·.2)
     let h:Option Int:=match hi with|none=>some (dlen d)|some o=>(Jo a.sl o).map (·.2)
     let m:Option Int:=match mx with|none=>h|some o=>match hi with|none=>none|some _=>(Jo a.sl o).map (·.2)
     match l,h,m with
     |some l,some h,some m=>some (d,l,h,m,i.sz,ts)
     |_,_,_=>none
    |none=>none
   |_,_=>none
  |_=>none
 |none=>none
def cutT (P:Program)(cf:Cf):List Tok:=match cutK P cf with|some (_,_,_,_,_,ts)=>ts|none=> []
theorem go_cut (hm:P.follows .mixedOrders=true){n k:Nat}{cf:Cf}{α:Type}{E:α→List D}{xs ys:List α}{lo hi:Int}(hE: ∀x,(E x).length=k)(hq:gOf (adv P N n cf).1=true→cut xs lo hi=some ys)
  (e:((cutK P (adv P N n cf).1).map (fun r=>(r.1,r.2.1,r.2.2.1,r.2.2.2.1,r.2.2.2.2.1)),((adv P N n cf).2++A3 (adv P N n cf).1).map (·.1))=(some (.sl α E xs,lo,hi,hi,k),((adv P N n cf).2++A3 (adv P N n cf).1).map (·.2)))
  (g:Go ρ P N D0 Q As η0 m0 (A9 N (adv P N n cf).1 (.d (.sl α E ys)) (cutT P (adv P N n cf).1))):Go ρ P N D0 Q As η0 m0 cf:=by
 simp only[Prod.mk.injEq]at e;obtain⟨e1,e3⟩:=e;obtain⟨he1,he2⟩:=EqsOk.two e3;refine BA hm he1 ?_;generalize (adv P N n cf).1=c0 at*;cases hk:cutK P c0 with
 |none=>rw[hk]at e1; cases e1
 |some r=>
  have hT:cutT P c0=r.2.2.2.2.2:=by unfold cutT; rw[hk]
  rw[hT]at g;rw[hk]at e1;simp only[Option.map_some,Option.some.injEq,Prod.mk.injEq]at e1;obtain⟨e1,e2,e4,e5,e6⟩:=e1;unfold cutK at hk;split at hk
  ·rename_i a ha;rw[CU ha]at he2;split at hk
   ·rename_i t x' lo' hi' mx' hop;split at hk
    ·rename_i d ts e' h1 h3;split at hk
     ·rename_i i hti;simp only at hk;split at hk
      ·rename_i l h m hl hh hmm;cases hk;simp only at e1 e2 e4 e5 e6 g;subst e1 e2 e4 e5;refine CT ha he2 (QA h1) (fun hp=> ?_) g;have q:=hq (H0 ha hp);obtain⟨ll,⟨dst,op,ty,pos,af,gd⟩,gg,sl,es⟩:=a;simp only at hop hl hh hmm⊢; subst hop;refine⟨Nat.le_refl _,fun rest Q η m' f w As hr hz hn S hk=> ?_⟩;have S':St m' (reps η m' ts++As) w:=S;have hf:=SO h1 S' (Ao hr x');letI:=Ki E k;refine RD rfl (RK hf hE) h3 (by rw[←e6]; exact Cc hti) ?_ ?_ ?_ q fun v' hv'=>hk η m' w v' Env.le_refl (Mem.rfl' m') (fun n h=> .inl h) (.d (On hv')) S
       ·cases lo' with
        |none=>simp only[Option.some.injEq]at hl; exact .inl ⟨rfl,hl.symm⟩
        |some o=>
         simp only[Option.map_eq_some_iff]at hl;obtain⟨⟨kk,jj⟩,hj,rfl⟩:=hl;exact .inr ⟨kk,by simp only[Option.map_some]; rw[BR hj hr]⟩
       ·cases hi' with
        |none=>simp only[Option.some.injEq]at hh; exact .inl ⟨rfl,hh.symm⟩
        |some o=>
         simp only[Option.map_eq_some_iff]at hh;obtain⟨⟨kk,jj⟩,hj,rfl⟩:=hh;exact .inr ⟨kk,by simp only[Option.map_some]; rw[BR hj hr]⟩
       ·cases mx' with
        |none=>exact .inl rfl
        |some o=>
         cases hi' with
         |none=>simp at hmm
         |some o2=>
          simp only[Option.map_eq_some_iff]at hmm;obtain⟨⟨kk,jj⟩,hj,rfl⟩:=hmm;exact .inr ⟨by simp,kk,by simp only[Option.map_some]; rw[BR hj hr]⟩
      ·cases hk
     ·cases hk
    ·cases hk
   ·cases hk
  ·cases hk
def nzD:D→Prop
 | .i n=>n≠0
 | .u n=>n≠0
 |_=>False
def quoK (cf:Cf):Option (AV×D):=
 match EF cf with
 |some a=>match a.o.op with
  | .binOp op _ x y _=>match quoV op (aev a.sl x) (aev a.sl y)with
   |some r=>some (aev a.sl y,r)
   |none=>none
  |_=>none
 |none=>none
theorem go_quo (hm:P.follows .mixedOrders=true){n:Nat}{cf:Cf}{d r:D}(hq:gOf (adv P N n cf).1=true→nzD d)
  (e:(quoK (adv P N n cf).1,((adv P N n cf).2++A3 (adv P N n cf).1).map (·.1))=(some (.d d,r),((adv P N n cf).2++A3 (adv P N n cf).1).map (·.2)))
  (g:Go ρ P N D0 Q As η0 m0 (A9 N (adv P N n cf).1 (.d r) [])):Go ρ P N D0 Q As η0 m0 cf:=by
 simp only[Prod.mk.injEq]at e;obtain⟨e1,e3⟩:=e;obtain⟨he1,he2⟩:=EqsOk.two e3;refine BA hm he1 ?_;generalize (adv P N n cf).1=c0 at*;unfold quoK at e1;split at e1
 ·rename_i a ha;rw[CU ha]at he2;split at e1
  ·rename_i op t x y t' hop;split at e1
   ·rename_i r' hr';simp only[Option.some.injEq,Prod.mk.injEq]at e1;obtain⟨ed,rfl⟩:=e1;refine CT (rd:=[]) ha he2 ⟨fun _ h=>(by cases h),List.nodup_nil⟩ (fun hp=> ?_) g;have q:=hq (H0 ha hp);obtain⟨l,⟨dst,op',ty,pos,af,gd⟩,gg,sl,es⟩:=a;simp only at hop ed hr'⊢; subst hop;refine⟨Nat.le_refl _,fun rest Q η m f w As hr hz hn S hk=> ?_⟩;have ry:=Ao hr y;rw[ed]at ry hr';have fin: ∀u,Rel η m (.d r') u→wpl ρ P N D0 l.toArray rest Q (upo N f dst u) w:=fun u hu=>hk η m w u Env.le_refl (Mem.rfl' m) (fun n h=> .inl h) hu S;cases d<;>simp only[nzD]at q
    ·exact Te hr' (Ao hr x) ry ry.i_inv q fin
    ·rename_i nn;exact Te hr' (Ao hr x) ry ry.u_inv (fun e=>q (by rw[←UInt64.toNat_inj]; simpa using e)) fin
   ·cases e1
  ·cases e1
 ·cases e1
def shK (cf:Cf):Option (Int×D):=
 match EF cf with
 |some a=>match a.o.op with
  | .binOp op _ x y _=>match Jo a.sl y with
   |some (k,n)=>match shV op (aev a.sl x) k n with
    |some r=>some (n,r)
    |none=>none
   |none=>none
  |_=>none
 |none=>none
theorem go_sh (hm:P.follows .mixedOrders=true){n:Nat}{cf:Cf}{c:Int}{r:D}(hq:gOf (adv P N n cf).1=true→0≤c)
  (e:(shK (adv P N n cf).1,((adv P N n cf).2++A3 (adv P N n cf).1).map (·.1))=(some (c,r),((adv P N n cf).2++A3 (adv P N n cf).1).map (·.2)))
  (g:Go ρ P N D0 Q As η0 m0 (A9 N (adv P N n cf).1 (.d r) [])):Go ρ P N D0 Q As η0 m0 cf:=by
 simp only[Prod.mk.injEq]at e;obtain⟨e1,e3⟩:=e;obtain⟨he1,he2⟩:=EqsOk.two e3;refine BA hm he1 ?_;generalize (adv P N n cf).1=c0 at*;unfold shK at e1;split at e1
 ·rename_i a ha;rw[CU ha]at he2;split at e1
  ·rename_i op t x y t' hop;split at e1
   ·rename_i k nn hy;split at e1
    ·rename_i r' hr';simp only[Option.some.injEq,Prod.mk.injEq]at e1;obtain⟨rfl,rfl⟩:=e1;refine CT (rd:=[]) ha he2 ⟨fun _ h=>(by cases h),List.nodup_nil⟩ (fun hp=> ?_) g;have q:=hq (H0 ha hp);obtain⟨l,⟨dst,op',ty,pos,af,gd⟩,gg,sl,es⟩:=a;simp only at hop hy hr'⊢; subst hop;refine⟨Nat.le_refl _,fun rest Q η m f w As hr hz hn S hk=> ?_⟩;exact sh_ok hr' (Ao hr x) (BR hy hr) q fun u hu=>hk η m w u Env.le_refl (Mem.rfl' m) (fun n h=> .inl h) hu S
    ·cases e1
   ·cases e1
  ·cases e1
 ·cases e1
end
end Go.Ax
end
section
namespace Go.Ax
open Go Go.Gw
theorem Tj {ob:List Tok}{k:FuncId}{as ea:List AV}{eobs:List AObj}{p:UL}(hp:OE ob k as ea eobs=some p){η:Env}{m:Mem}{w:World}{As:List Ow}{vs:List Value}
  (o5:p.fr.all (fun p=>OP p.2)=true) (o6:p.fw.all (fun p=>GZ p.2)=true) (hv:Bo η m as vs) (S:St m (reps η m ((p.ut++p.fw)++p.fr)++As) w):
  ∃m1,m≤m1∧Bo η m1 p.as vs∧St m1 (p.objs.map (rep η m1)++As) w:=by
 unfold OE at hp;simp only at hp;split at hp
 ·rename_i ut hut;have hplan:=Option.some.inj hp;clear hp;have pas:p.as=(cvV ob ea as).1:=by rw[←hplan]
  have pobj:p.objs=(Q3 ob eobs ut).1:=by rw[←hplan]
  have put:p.ut=ut:=by rw[←hplan]
  have pfw:p.fw=(Hz ob ((cvV ob ea as).2++(Q3 ob eobs ut).2) []).filter (fun p=>GZ p.2):=by rw[←hplan]
  have pfr:p.fr=(Hz ob ((cvV ob ea as).2++(Q3 ob eobs ut).2) []).filter (fun p=> !GZ p.2):=by rw[←hplan]
  clear hplan;rw[Be,Be,List.append_assoc,List.append_assoc]at S;have S1:=S.perm (List.perm_append_comm_assoc (reps η m p.ut) (reps η m p.fw) _);obtain⟨m1,l1,K1,S2⟩:=H2 o6 S1;have S3:=St.ru Env.le_refl l1 S2;have S4:=S3.perm (List.perm_append_comm_assoc (reps η m1 p.ut) (reps η m p.fr) _);have S5:=St.ru Env.le_refl l1 S4;obtain⟨K2,S6⟩:=IF o5 S5;have KN:Kn ob η m1 ((cvV ob ea as).2++(Q3 ob eobs ut).2):=by
   intro j hj d hd;obtain⟨q,hf,hq,hrf,hnm⟩:=Jg hd;have hmem:=G6 hf hj (seen:=[]) rfl;rcases hrf with h|h
   ·have:q∈p.fw:=by rw[pfw]; simp only[List.mem_filter]; exact⟨hmem,h⟩
    obtain⟨v,y1,y2⟩:=K1 q this;rw[hnm]at y1; rw[hq]at y2; exact⟨v,y1,y2⟩
   ·have:q∈p.fr:=by
     rw[pfr]; simp only[List.mem_filter];refine⟨hmem,?_⟩;cases hq2:q.2<;>rw[hq2]at h<;>first|rfl|cases h
    obtain⟨v,y1,y2⟩:=K2 q this;rw[hnm]at y1; rw[hq]at y2; exact⟨v,y1,y2⟩
  obtain⟨kn1,kn2⟩:=Kn.app KN;refine⟨m1,l1,by rw[pas]; exact Ln kn1 (hv.up Env.le_refl l1),?_⟩;rw[pobj];rw[put]at S6;obtain⟨x,sx,rx⟩:=S6.own;exact⟨S6.os,S6.tape,S6.output,x,NK kn2 sx,rx⟩
 ·cases hp
theorem QG {ob:List Tok}{k:FuncId}{as ea:List AV}{eobs:List AObj}{p:UL}(hp:OE ob k as ea eobs=some p): ∀q∈(p.ut++p.fw)++p.fr,q∈ob:=by
 unfold OE at hp;simp only at hp;split at hp
 ·rename_i ut hut;have hplan:=Option.some.inj hp;intro q hq;rw[←hplan]at hq;simp only at hq;rcases List.mem_append.1 hq with h|h
  ·rcases List.mem_append.1 h with h|h
   ·exact Lh hut q h
   ·exact Fm (List.mem_filter.1 h).1
  ·exact Fm (List.mem_filter.1 h).1
 ·cases hp
def asV (s t:AS):List AV:=t.sl.map fun p=>get s.sl p.1
def vwP (s t:AS):Option UL:=OE s.ob 0 (asV s t) (t.sl.map (·.2)) (t.ob.map (·.2))
def fixB (mt:Mt):Nat→Bool
 |0=>true
 |n+1=>Nat.beq (HU mt n n) n&&fixB mt n
theorem P4 {mt:Mt}: ∀{n:Nat},fixB mt n=true→∀j,j<n→HU mt j j=j
 |0,_,j,h=>by omega
 |n+1,h,j,hj=>by
  simp only[fixB,Bool.and_eq_true]at h;by_cases e:j=n
  ·subst e; exact Nat.eq_of_beq_eq_true h.1
  ·exact P4 h.2 j (by omega)
def Ny (n:Nat):List Nat→Bool
 | []=>true
 |a::l=>Nat.blt a n&&Ny n l
theorem I9 {n:Nat}: ∀{l:List Nat},Ny n l=true→∀t∈l,t<n
 | [],_,_,h=>by cases h
 |a::l,h,t,ht=>by
  simp only[Ny,Bool.and_eq_true]at h;rcases List.mem_cons.1 ht with e|e
  ·subst e; exact CQ h.1
  ·exact I9 h.2 t e
def okVw (p:UL)(t:AS)(n0:Nat):Bool:=(t.sl.map (·.2)).all (okA t.nx)&&((t.ob.map (·.2)).all (okO t.nx)&&(NX (tids ((p.ut++p.fw)++p.fr))&&(fixB p.mt n0&&(Nat.ble n0 t.nx&&(p.fr.all (fun p=>OP p.2)&&(p.fw.all (fun p=>GZ p.2)&&(NX (tids t.ob)&&Ny t.nx (tids t.ob))))))))
def isNilF:Fz→Bool
 | []=>true
 |_=>false
def vwL (s t:AS)(n0:Nat):Option (List AV×List AObj×Bool×Bool):=match vwP s t with|some p=>some (p.as,p.objs,okVw p t n0,isNilF t.fz)|none=>none
def vwR (s t:AS):Option (List AV×List AObj×Bool×Bool):=match vwP s t with|some p=>some ((t.sl.map (·.2)).map (UT fun j=>HU p.mt j j),(t.ob.map (·.2)).map (RG fun j=>HU p.mt j j),true,true)|none=>none
theorem T8 {η:Env}{m:Mem}{f:Fr}: ∀{l:Sl},Bo η m (l.map (·.2)) (l.map fun p=>f p.1)→∀t,Rel η m (get l t) (f t)
 | [],_,t=> .any _
 |p::l,h,t=>by
  obtain⟨v,us,e,h1,h2⟩:=h.cons_inv;simp only[List.map_cons,List.cons.injEq]at e;obtain⟨rfl,rfl⟩:=e;show Rel η m (bif Nat.beq p.1 t then p.2 else get l t) (f t);cases hb:Nat.beq p.1 t
  ·exact T8 h2 t
  ·have:=Nat.eq_of_beq_eq_true hb; rw[this]at h1; exact h1
theorem MW {s t:AS}{n0:Nat}(e:vwL s t n0=vwR s t)(hne:(vwP s t).isSome=true){As:List Ow}{η0 η:Env}{m:Mem}{f:Fr}{w:World}(hd: ∀n,η0 n≠none→n<n0)(hle:η0.le η)(g:Gm As s η m f w):
  ∃η' m',m≤m'∧η0.le η'∧Gm As t η' m' f w:=by
 cases hp:vwP s t with
 |none=>rw[hp]at hne; cases hne
 |some p=>
  unfold vwL vwR at e;rw[hp]at e;simp only[Option.some.injEq,Prod.mk.injEq]at e;obtain⟨e1,e2,e3,e4⟩:=e;simp only[okVw,Bool.and_eq_true]at e3;obtain⟨o1,o2,o3,o4,o5,o6,o7,o8,o9⟩:=e3;have S:=St.rp g.st (GC g.wf.nd (FY o3) (QG hp));rw[Be,List.append_assoc]at S;have hv:Bo η m (asV s t) (t.sl.map fun p=>f p.1):=⟨by simp[asV],fun k c u a b=>by
   simp only[asV,List.getElem?_map,Option.map_eq_some_iff]at a b;obtain⟨x,hx,rfl⟩:=a;obtain⟨y,hy,rfl⟩:=b;rw[hx]at hy; cases hy;exact g.slr _⟩
  obtain⟨m1,l1,r1,S1⟩:=Tj hp o6 o7 hv S;rw[e1]at r1;rw[e2]at S1;let φ:Nat→Nat:=fun j=>HU p.mt j j;let η1:Env:=fun j=>if j<t.nx then η (φ j)else none;have hη1: ∀j,j<t.nx→η (φ j)=η1 j:=fun j hj=>(if_pos hj).symm;have S2:=S1.perm (show((t.ob.map (·.2)).map (RG φ)).map (rep η m1)++(reps η m (C4 (tids (p.ut++p.fw++p.fr)) s.ob)++As)|>.Perm (reps η m (C4 (tids (p.ut++p.fw++p.fr)) s.ob)++(((t.ob.map (·.2)).map (RG φ)).map (rep η m1)++As))from List.perm_append_comm_assoc _ _ _);obtain⟨m2,l2,S3⟩:=St.dropN (reps η m (C4 (tids (p.ut++p.fw++p.fr)) s.ob)).length S2;rw[List.drop_left]at S3;have S4:St m2 (reps η1 m2 t.ob++As) w:=by
   have S3':=St.mapUp (obs:=(t.ob.map (·.2)).map (RG φ)) Env.le_refl l2 S3;refine S3'.imp (by simp[reps]) fun i A B ha hb x hx=> ?_;rw[List.getElem?_append]at ha hb;simp only[List.length_map,reps]at ha hb;split at ha
   ·rename_i q;rw[if_pos q]at hb;simp only[List.getElem?_map,Option.map_eq_some_iff]at ha hb;obtain⟨o',⟨o,⟨tk,htk,rfl⟩,rfl⟩,rfl⟩:=ha;obtain⟨tk',htk',rfl⟩:=hb;rw[htk]at htk'; cases htk';exact PD hη1 (List.all_eq_true.1 o2 tk.2 (List.mem_map_of_mem (List.mem_of_getElem? htk))) hx
   ·rename_i q;rw[if_neg q]at hb;rw[ha]at hb; cases hb; exact hx
  refine⟨η1,m2,Mem.tr l1 l2,fun k v hv=> ?_,T8 (Ni hη1 o1 (r1.up Env.le_refl l2)),?_,fun k hk=> ?_,S4,FY o8,fun x hx=>I9 o9 x hx⟩
  ·have hlt:=hd k (by rw[hv]; simp);show(if _ then _ else _)=_;rw[if_pos (Nat.lt_of_lt_of_le hlt (Nat.le_of_ble_eq_true o5))];show η (HU p.mt k k)=some v;rw[P4 o4 k hlt]; exact hle _ _ hv
  ·intro k d hk;cases hz:t.fz with
   |nil=>rw[hz]at hk; cases hk
   |cons _ _=>rw[hz]at e4; cases e4
  ·have:(if k<t.nx then η (φ k)else none)≠none:=hk;split at this
   ·assumption
   ·exact absurd rfl this
def Rl (As:List Ow)(η0:Env)(m0:Mem){ι:Type}(J:ι→AS)(ok:ι→Prop):Fr→World→Prop:=fun f w=> ∃x,ok x∧∃η m,η0.le η∧m0≤m∧Gm As (J x) η m f w
def Zc (cf:Cf):Option (Fr→World→Prop):=match cf.md,cf.K with| .pop,.ctn J::_=>some J|_,_=>none
section
variable {ρ:Option Nat}{P:Program}{N:Nat}{D0:Dw}{Q:C5}{As:List Ow}{η0:Env}{m0:Mem}
def ctnC (cf:Cf)(J:Fr→World→Prop):Cf:=⟨cf.s,cf.md,.ctn J::cf.K⟩
def JX (cf:Cf):Bool:=match cf.md with| .code _=>true|_=>false
theorem T5 (hm:P.follows .mixedOrders=true){n:Nat}{cf:Cf}{ι:Type}(J:ι→AS)(ok:ι→Prop)(e:(JX (adv P N n cf).1,((adv P N n cf).2).map (·.1))=(true,((adv P N n cf).2).map (·.2)))
  (h1:Go ρ P N D0 Q As η0 m0 (ctnC (adv P N n cf).1 (Rl As η0 m0 J ok))) (h2: ∀x,ok x→Go ρ P N D0 Q As η0 m0 ⟨J x,.pop,(adv P N n cf).1.K⟩):Go ρ P N D0 Q As η0 m0 cf:=by
 simp only[Prod.mk.injEq]at e;obtain⟨e1,e3⟩:=e;refine BA hm (.of e3) ?_;generalize (adv P N n cf).1=c0 at*;obtain⟨s,md,K⟩:=c0;unfold JX at e1;split at e1
 ·rename_i c hmd;simp only at hmd; subst hmd;intro η m f w a1 a2 g;refine F6 (fun ex f' w' q=> ?_) (h1 η m f w a1 a2 g);cases ex with
  |normal=>
   obtain⟨x,hx,η',m',b1,b2,g'⟩:=q;exact h2 x hx η' m' f' w' b1 b2 g'
  |_=>exact q
 ·cases e1
def WO (cf:Cf):Option Code:=match cf.md with| .code (.loop c)=>some c|_=>none
def rndC (cf:Cf)(s:AS)(J:Fr→World→Prop):Cf:=match cf.md with| .code (.loop c)=>⟨s,.code c,.ctn J::cf.K⟩|_=>cf
theorem Yy (hm:P.follows .mixedOrders=true){n n0:Nat}{cf:Cf}{ι:Type}(J:ι→AS)(pre:ι→Prop)(μ:ι→Nat)(x0:ι)(hx:pre x0)(hd: ∀n,η0 n≠none→n<n0)
  (e:((WO (adv P N n cf).1).isSome,vwL (adv P N n cf).1.s (J x0) n0,(vwP (adv P N n cf).1.s (J x0)).isSome,((adv P N n cf).2).map (·.1))=(true,vwR (adv P N n cf).1.s (J x0),true,((adv P N n cf).2).map (·.2)))
  (h: ∀x,pre x→Go ρ P N D0 Q As η0 m0 (rndC (adv P N n cf).1 (J x) (Rl As η0 m0 J fun y=>pre y∧μ y<μ x))):Go ρ P N D0 Q As η0 m0 cf:=by
 simp only[Prod.mk.injEq]at e;obtain⟨e1,e2,e4,e3⟩:=e;refine BA hm (.of e3) ?_;generalize (adv P N n cf).1=c0 at*;obtain⟨s,md,K⟩:=c0;cases md with
 |code c=>
  cases c with
  |loop c=>
   intro η m f w a1 a2 g;obtain⟨η',m',l,le,g'⟩:=MW e2 e4 hd a1 g;refine Qi (fun k f w=> ∃x,(pre x∧μ x=k)∧∃η m,η0.le η∧m0≤m∧Gm As (J x) η m f w) (μ x0) ⟨x0,⟨hx,rfl⟩,η',m',le,Mem.tr a2 l,g'⟩ ?_;rintro k f w ⟨x,⟨hp,rfl⟩,η2,m2,b1,b2,g2⟩;refine F6 (fun ex f' w' q=> ?_) (h x hp η2 m2 f w b1 b2 g2);cases ex with
   |normal=>
    obtain⟨y,⟨hy,hlt⟩,η3,m3,c1,c2,g3⟩:=q;exact⟨μ y,hlt,y,⟨hy,rfl⟩,η3,m3,c1,c2,g3⟩
   |_=>exact q
  |_=>cases e1
 |_=>cases e1
end
def atBlk (id:Nat)(cf:Cf):Bool:=match cf.md with| .code (.block i _)=>Nat.beq i id|_=>false
def FU (id:Nat)(P:Program)(N:Nat):Nat→Cf→Cf×Eqs
 |0,cf=>(cf,[])
 |n+1,cf=>bif atBlk id cf then(cf,[])else match nxt P N cf with
  |some r=>let q:=FU id P N n r.1; (q.1,r.2++q.2)
  |none=>(cf,[])
section
variable {ρ:Option Nat}{P:Program}{N:Nat}{D0:Dw}{Q:C5}{As:List Ow}{η0:Env}{m0:Mem}
theorem Lu {id:Nat}(hm:P.follows .mixedOrders=true): ∀{n:Nat} {cf:Cf},EqsOk (FU id P N n cf).2→Go ρ P N D0 Q As η0 m0 (FU id P N n cf).1→Go ρ P N D0 Q As η0 m0 cf
 |0,_,_,g=>g
 |n+1,cf,he,g=>by
  cases hb:atBlk id cf with
  |true=>
   have e:FU id P N (n+1) cf=(cf,[]):=by simp only[FU,hb,cond_true]
   rw[e]at g; exact g
  |false=>
   cases hr:nxt P N cf with
   |none=>
    have e:FU id P N (n+1) cf=(cf,[]):=by simp only[FU,hr,hb,cond_false]
    rw[e]at g; exact g
   |some r=>
    have e:FU id P N (n+1) cf=((FU id P N n r.1).1,r.2++(FU id P N n r.1).2):=by simp only[FU,hr,hb,cond_false]
    rw[e]at g he;have he':=EqsOk.app.1 he;exact OG hm hr he'.1 (Lu hm (n:=n) he'.2 g)
theorem VP {id:Nat}(hm:P.follows .mixedOrders=true){n:Nat}{cf:Cf}{ι:Type}(J:ι→AS)(ok:ι→Prop)(e:(JX (FU id P N n cf).1,((FU id P N n cf).2).map (·.1))=(true,((FU id P N n cf).2).map (·.2)))
  (h1:Go ρ P N D0 Q As η0 m0 (ctnC (FU id P N n cf).1 (Rl As η0 m0 J ok))) (h2: ∀x,ok x→Go ρ P N D0 Q As η0 m0 ⟨J x,.pop,(FU id P N n cf).1.K⟩):Go ρ P N D0 Q As η0 m0 cf:=by
 simp only[Prod.mk.injEq]at e;obtain⟨e1,e3⟩:=e;refine Lu hm (.of e3) ?_;refine T5 (n:=0) hm J ok ?_ h1 h2;simp only[adv,e1,List.map_nil]
end
structure Bk (As:List Ow)(η0:Env)(m0:Mem){ι:Type}(J:ι→AS)(ok:ι→Prop)(Jp:Fr→World→Prop):Prop where
 h: ∀f w,Rl As η0 m0 J ok f w→Jp f w
section
variable {ρ:Option Nat}{P:Program}{N:Nat}{D0:Dw}{Q:C5}{As:List Ow}{η0:Env}{m0:Mem}
theorem VR (hm:P.follows .mixedOrders=true){n n0:Nat}{cf:Cf}{ι:Type}{J:ι→AS}{ok:ι→Prop}{Jp:Fr→World→Prop}(bk:Bk As η0 m0 J ok Jp)(x:ι)(hx:ok x)(hd: ∀n,η0 n≠none→n<n0)
  (e:(Zc (adv P N n cf).1,vwL (adv P N n cf).1.s (J x) n0,(vwP (adv P N n cf).1.s (J x)).isSome,((adv P N n cf).2).map (·.1))=(some Jp,vwR (adv P N n cf).1.s (J x),true,((adv P N n cf).2).map (·.2))):
  Go ρ P N D0 Q As η0 m0 cf:=by
 simp only[Prod.mk.injEq]at e;obtain⟨e1,e2,e4,e3⟩:=e;refine BA hm (.of e3) ?_;generalize (adv P N n cf).1=c0 at*;obtain⟨s,md,K⟩:=c0;unfold Zc at e1;split at e1
 ·rename_i J' K' hmd hK;simp only at hmd hK; subst hmd hK;cases e1;intro η m f w a1 a2 g;obtain⟨η',m',l,le,g'⟩:=MW e2 e4 hd a1 g;exact nrm (bk.h _ _ ⟨x,hx,η',m',le,Mem.tr a2 l,g'⟩)
 ·cases e1
def lenK (s:AS)(t:Nat):Option D:=match get s.sl t with| .d d=>some d| .ow n=>frD s.ob n|_=>none
theorem Yl {s:AS}{η:Env}{m:Mem}{f:Fr}{w:World}{t:Nat}{α:Type}{E:α→List D}{xs:List α}(h:lenK s t=some (.sl α E xs))(g:Gm As s η m f w):xs.length≤9223372036854775807:=by
 have r:=g.slr t;have of: ∀{m:Mem} {v:Value},FR m (.sl α E xs) v→xs.length≤9223372036854775807:=fun h=>by cases h with|sl h=>exact h.2.1
 unfold lenK at h;split at h
 ·rename_i d hd;cases h;rw[hd]at r;exact of r.dd
 ·rename_i n hn;obtain⟨q,hf,hq,hrf,hnm⟩:=Jg h;have hmem:=Ex hf;obtain⟨l1,l2,el⟩:=List.append_of_mem hmem;have S':St m (reps η m (q::(l1++l2))++As) w:=St.rp g.st (by rw[el]; exact List.perm_middle);obtain⟨i,o⟩:=q;cases o with
  |box=>rcases hrf with h|h<;>cases h
  |hp=>rcases hrf with h|h<;>cases h
  |row k sz α' E' xs'=>
   simp only[GM]at hq;cases hq;obtain⟨v,cs,h1,h2,h3,h4,S2⟩:=St.openRow S';obtain⟨⟨a,c,rfl⟩,_⟩:=St.rowVal (i:=0) S2 rfl;obtain⟨p,hp,_⟩:=St.take' S2 (i:=0) rfl;rcases hp with ⟨_,_,h0,_⟩|⟨b,cap,l,e,fr,_,_,_,_,_,h6,h7,_⟩
   ·omega
   ·have:maxLen≤9223372036854775807:=by decide
    omega
  |fr k d=>
   simp only[GM]at hq;cases hq;obtain⟨⟨v,h1,h2⟩,_⟩:=St.openFr S';exact of h2
 ·cases h
theorem go_len {id:Nat}(hm:P.follows .mixedOrders=true){n:Nat}{cf:Cf}{α:Type}{E:α→List D}{xs:List α}(t:Nat)
  (e:(JX (FU id P N n cf).1,lenK (FU id P N n cf).1.s t,((FU id P N n cf).2).map (·.1))=(true,some (.sl α E xs),((FU id P N n cf).2).map (·.2)))
  (h:xs.length≤9223372036854775807→Go ρ P N D0 Q As η0 m0 (FU id P N n cf).1):Go ρ P N D0 Q As η0 m0 cf:=by
 simp only[Prod.mk.injEq]at e;obtain⟨e1,e2,e3⟩:=e;refine Lu hm (.of e3) ?_;generalize (FU id P N n cf).1=c0 at*;obtain⟨s,md,K⟩:=c0;unfold JX at e1;split at e1
 ·rename_i c hmd;simp only at hmd; subst hmd;exact fun η m f w a1 a2 g=>h (Yl e2 g) η m f w a1 a2 g
 ·cases e1
def Iu:AV→Bool
 | .d (.v (.slice none 0 0))=>true
 |_=>false
def nilS (s:AS)(t sz:Nat)(α:Type)(E:α→List D):AS:=⟨(t,.ow s.nx)::s.sl,s.ob++[(s.nx,.row s.nx sz α E [])],s.fz,s.nx+1⟩
theorem nil_gm {s:AS}{η:Env}{m:Mem}{f:Fr}{w:World}{t sz:Nat}{α:Type}{E:α→List D}(h:Iu (get s.sl t)=true)(g:Gm As s η m f w):
  ∃η',η.le η'∧Gm As (nilS s t sz α E) η' m f w:=by
 have r:=g.slr t;have hv:f t= .slice none 0 0:=by
  generalize get s.sl t=a at*;unfold Iu at h;split at h
  ·have:=r.dd; generalize f t=u at this; cases this; rfl
  ·cases h
 have h0:η s.nx=none:=by
  cases q:η s.nx with
  |none=>rfl
  |some v=>have:=g.dom s.nx (by rw[q]; simp); omega
 have le:=Env.le_put (v:= .slice none 0 0) h0;refine⟨η.put s.nx (.slice none 0 0),le,fun u=> ?_,g.fz.up le (Mem.rfl' m),fun n hn=> ?_,?_,?_,fun x hx=> ?_⟩
 ·show Rel _ m (bif Nat.beq t u then .ow s.nx else get s.sl u) (f u);cases hb:Nat.beq t u
  ·exact(g.slr u).up le (Mem.rfl' m)
  ·have:=Nat.eq_of_beq_eq_true hb; subst this;rw[hv]; exact .ow Env.put_self rfl
 ·rcases Env.put_dom hn with q|q
  ·exact Nat.lt_succ_of_lt (g.dom n q)
  ·subst q; exact Nat.lt_succ_self _
 ·have S:=St.rowNil (St.ru le (Mem.rfl' m) g.st) sz;have T:=St.closeRow (η:=η.put s.nx (.slice none 0 0)) (n:=s.nx) (E:=E) (xs:=[]) Env.put_self rfl (by simpa using FRL.nil) (fun _ h=>by cases h) S;show St m (reps _ m (s.ob++[_])++As) w;rw[Be,List.append_assoc];exact T.perm (List.perm_middle.symm)
 ·show(tids (s.ob++[_])).Nodup;simp only[tids,List.map_append,List.map_cons,List.map_nil];refine List.nodup_append.2 ⟨g.wf.nd,by simp,fun a ha b hb e=> ?_⟩;simp at hb;have:=g.wf.lt a ha;omega
 ·show x<s.nx+1;have hx':x∈tids (s.ob++[(s.nx,AObj.row s.nx sz α E [])]):=hx;simp only[tids,List.map_append,List.map_cons,List.map_nil,List.mem_append,List.mem_singleton]at hx';rcases hx' with q|q
  ·exact Nat.lt_succ_of_lt (g.wf.lt x q)
  ·omega
def HT (cf:Cf):Bool:=match cf.md with| .ops .. =>false|_=>true
def nilC (cf:Cf)(t sz:Nat)(α:Type)(E:α→List D):Cf:=⟨nilS cf.s t sz α E,cf.md,cf.K⟩
theorem WL {cf:Cf}{t sz:Nat}{α:Type}{E:α→List D}(hp:HT cf=true)(h:Iu (get cf.s.sl t)=true)(g:Go ρ P N D0 Q As η0 m0 (nilC cf t sz α E)):Go ρ P N D0 Q As η0 m0 cf:=by
 obtain⟨s,md,K⟩:=cf;have key: ∀{R:Fr→World→Prop},Al As η0 m0 (nilS s t sz α E) R→Al As η0 m0 s R:=fun k η m f w a1 a2 gm=>
  let ⟨η',le,gm'⟩:=nil_gm h gm; k η' m f w (Env.le_tr a1 le) a2 gm'
 cases md with
 |ops=>cases hp
 |code c=>exact key g
 |pop=>exact key g
 |ext id=>exact key g
 |ret=>exact key g
theorem go_nil (hm:P.follows .mixedOrders=true){n:Nat}{cf:Cf}{α:Type}{E:α→List D}(t sz:Nat)
  (e:(HT (adv P N n cf).1,Iu (get (adv P N n cf).1.s.sl t),((adv P N n cf).2).map (·.1))=(true,true,((adv P N n cf).2).map (·.2)))
  (g:Go ρ P N D0 Q As η0 m0 (nilC (adv P N n cf).1 t sz α E)):Go ρ P N D0 Q As η0 m0 cf:=by
 simp only[Prod.mk.injEq]at e;exact BA hm (.of e.2.2) (WL e.1 e.2.1 g)
theorem Yx {id:Nat}(hm:P.follows .mixedOrders=true){n:Nat}{cf:Cf}{α:Type}{E:α→List D}(t sz:Nat)
  (e:(HT (FU id P N n cf).1,Iu (get (FU id P N n cf).1.s.sl t),((FU id P N n cf).2).map (·.1))=(true,true,((FU id P N n cf).2).map (·.2)))
  (g:Go ρ P N D0 Q As η0 m0 (nilC (FU id P N n cf).1 t sz α E)):Go ρ P N D0 Q As η0 m0 cf:=by
 simp only[Prod.mk.injEq]at e;exact Lu hm (.of e.2.2) (WL e.1 e.2.1 g)
end
end Go.Ax
end
section
namespace Go.Ax
open Go Go.Gw
def seqB:Nat→List (Nat×Operand)→Bool
 |_,[]=>true
 |k,p::l=>Nat.beq p.1 k&&seqB (k+1) l
theorem KS: ∀{l:List (Nat×Operand)} {k:Nat},seqB k l=true→l=((l.map (·.2)).zipIdx k).map fun p=>(p.2,p.1)
 | [],_,_=>rfl
 |(i,o)::l,k,h=>by
  simp only[seqB,Bool.and_eq_true]at h;have e:i=k:=Nat.eq_of_beq_eq_true h.1;subst e;simp only[List.map_cons,List.zipIdx_cons];rw[←KS h.2]
def O5 (fz:Fz)(sl:Sl)(sz:Nat):List (Nat×Operand)→Option (List AV)
 | []=>some []
 |p::l=>match Jk (rv fz sl p.2),O5 fz sl sz l with
  |some c,some r=>bif Nat.beq c.length sz then some (c++r)else none
  |_,_=>none
theorem Jj {fz:Fz}{sl:Sl}{sz:Nat}{η:Env}{m:Mem}{f:Fr}(hr: ∀t,Rel η m (get sl t) (f t))(hz:fzOk η m fz): ∀{l:List (Nat×Operand)} {cs:List AV},O5 fz sl sz l=some cs→
  ∃cls:List (List Value),E6 ((l.map (·.2)).map (ev f)) cls∧K8 sz cls=true∧Bo η m cs cls.flatten
 | [],cs,h=>by cases h; exact⟨[],trivial,rfl,.nil⟩
 |p::l,cs,h=>by
  unfold O5 at h;split at h
  ·rename_i c r h1 h2;cases hb:Nat.beq c.length sz
   ·rw[hb]at h; cases h
   ·rw[hb]at h; cases h;obtain⟨cls,a1,a2,a3⟩:=Jj hr hz h2;obtain⟨b1,b2⟩:=FQ h1 (I1 hz hr p.2);refine⟨(ev f p.2).cells.toList::cls,⟨by simp,a1⟩,?_,?_⟩
    ·show(Nat.beq _ sz&&K8 sz cls)=true;rw[a2,←b1.1,hb]; rfl
    ·rw[List.flatten_cons]; exact b1.append a3
  ·cases h
def litK (P:Program)(cf:Cf):Option (List AV×Nat×Nat×Bool):=
 match EF cf with
 |some a=>match a.g,a.o.op with
  |none,.buildSlice t n parts=>match P.underlying t with
   |some (.slice e)=>match HA P e with
    |some i=>match i.z,O5 cf.s.fz a.sl i.sz parts.toList with
     |some _,some cs=>some (cs,n,i.sz,seqB 0 parts.toList&&(Nat.beq n parts.toList.length&&(Nat.ble (n*i.sz) 16777216&&Nat.ble 1 i.sz)))
     |_,_=>none
    |none=>none
   |_=>none
  |_,_=>none
 |none=>none
def Wx (s:AS)(sz:Nat)(α:Type)(E:α→List D)(xs:List α):Stp:=⟨.ow s.nx,[],[],[(s.nx,.row s.nx sz α E xs)],s.nx+1,[]⟩
section
variable {ρ:Option Nat}{P:Program}{N:Nat}{D0:Dw}{Q:C5}{As:List Ow}{η0:Env}{m0:Mem}
theorem Yj {cf:Cf}{α:Type}{E:α→List D}{xs:List α}{k:Nat}(hE: ∀x,(E x).length=k)(e1:litK P cf=some ((xs.flatMap E).map dv,xs.length,k,true)):
  ∃a,EF cf=some a∧a.g=none∧∀(rest:List Oper) (Q:C5) (η:Env) (m:Mem) (f:Fr) (w:World) (As:List Ow),(∀t,Rel η m (get a.sl t) (f t))→fzOk η m cf.s.fz→St m As w→
   (∀(v:Value) (w':World) (cs:List Value),FRL m (xs.flatMap E) cs→St m (Gw.row k v cs xs.length::As) w'→wpl ρ P N D0 a.l.toArray rest Q (upo N f a.o.dst v) w')→wpl ρ P N D0 a.l.toArray (a.o::rest) Q f w:=by
 unfold litK at e1;split at e1
 ·rename_i a ha;split at e1
  ·rename_i t n parts hg hop;split at e1
   ·rename_i e hu;split at e1
    ·rename_i i hi;split at e1
     ·rename_i z cs hz hcs;simp only[Option.some.injEq,Prod.mk.injEq,Bool.and_eq_true]at e1;obtain⟨ec,en,ek,b1,b2,b3,b4⟩:=e1;refine⟨a,ha,hg,?_⟩;have hgd:=Cr ha hg;obtain⟨l,⟨dst,op,ty,pos,af,gd⟩,gg,sl,es⟩:=a;simp only at hop hgd hcs⊢; subst hop hgd;intro rest Q η m f w As hr hfz S hk;obtain⟨cls,a1,a2,a3⟩:=Jj hr hfz hcs;have hp:=KS b1;have e0:parts=(((parts.toList.map (·.2)).zipIdx 0).map fun p=>(p.2,p.1)).toArray:=by
       rw[←hp]
      rw[e0];have hlen:((parts.toList.map (·.2)).map (ev f)).length=n:=by simp; exact(Nat.eq_of_beq_eq_true b2).symm
      refine HQ (vs:=(parts.toList.map (·.2)).map (ev f)) (cls:=cls) S hu (Cc hi) (LS hi hz) rfl a1 a2 hlen.symm (Nat.le_of_ble_eq_true b3) (Nat.le_of_ble_eq_true b4) fun v w' S'=> ?_;rw[ek,en]at S';refine hk v w' cls.flatten ?_ S';rw[ec]at a3;exact FRL.ofRelv a3
     ·cases e1
    ·cases e1
   ·cases e1
  ·cases e1
 ·cases e1
theorem Ei {sz n:Nat}{v:Value}{cs:List Value}{m:Mem}{As:List Ow}{w:World}(S:St m (Gw.row sz v cs n::As) w):v.oneCell'=true:=by
 obtain⟨⟨a,c,rfl⟩,_⟩:=St.rowVal (i:=0) S rfl;rfl
theorem Nr {s:AS}{v:AV}{o:AObj}:HC s ⟨v,[],[],[(s.nx,o)],s.nx+1,[]⟩:=
 ⟨fun x hx=>by simp at hx,by simp[tids],by simp[tids],fun t ht=>by simp[tids]at ht; subst ht; exact⟨Nat.le_refl _,Nat.lt_succ_self _⟩⟩
theorem go_lit (hm:P.follows .mixedOrders=true){n k:Nat}{cf:Cf}{α:Type}{E:α→List D}{xs:List α}(hE: ∀x,(E x).length=k)
  (e:(litK P (adv P N n cf).1,((adv P N n cf).2++A3 (adv P N n cf).1).map (·.1))=(some ((xs.flatMap E).map dv,xs.length,k,true),((adv P N n cf).2++A3 (adv P N n cf).1).map (·.2)))
  (g:Go ρ P N D0 Q As η0 m0 (push N (adv P N n cf).1 (Wx (adv P N n cf).1.s k α E xs))):Go ρ P N D0 Q As η0 m0 cf:=by
 simp only[Prod.mk.injEq]at e;obtain⟨e1,e3⟩:=e;obtain⟨he1,-⟩:=EqsOk.two e3;refine BA hm he1 ?_;generalize (adv P N n cf).1=c0 at*;obtain⟨a,ha,hg,run⟩:=Yj (ρ:=ρ) (N:=N) (D0:=D0) hE e1;refine E2 ha hg ⟨Nat.le_succ _,fun rest Q η m f w As hr hz hn S hk=> ?_⟩ Nr g;refine run rest Q η m f w As hr hz S fun v w' cs hc S'=> ?_;have h0:=hn c0.s.nx (Nat.le_refl _) (Nat.lt_succ_self _);have h1:=Ei S';refine hk (η.put c0.s.nx v) m w' v (Env.le_put h0) (Mem.rfl' m) (fun n q=> ?_) (.ow Env.put_self h1) (St.closeRow Env.put_self h1 hc (fun x _=>hE x) S');rcases Env.put_dom q with q|q
 ·exact .inl q
 ·subst q; exact .inr ⟨Nat.le_refl _,Nat.lt_succ_self _⟩
def litG (P:Program)(cf:Cf):Option (List AV×Nat×Nat×Bool):=
 match EF cf with
 |some a=>match a.o.op with
  | .buildSlice t n parts=>match P.underlying t with
   |some (.slice e)=>match HA P e with
    |some i=>match i.z,O5 cf.s.fz a.sl i.sz parts.toList with
     |some _,some cs=>some (cs,n,i.sz,seqB 0 parts.toList&&(Nat.beq n parts.toList.length&&(Nat.ble (n*i.sz) 16777216&&Nat.ble 1 i.sz)))
     |_,_=>none
    |none=>none
   |_=>none
  |_=>none
 |none=>none
theorem YA (hm:P.follows .mixedOrders=true){n k:Nat}{cf:Cf}{α:Type}{E:α→List D}{xs:List α}(hE: ∀x,(E x).length=k)
  (e:(litG P (adv P N n cf).1,((adv P N n cf).2++A3 (adv P N n cf).1).map (·.1))=(some ((xs.flatMap E).map dv,xs.length,k,true),((adv P N n cf).2++A3 (adv P N n cf).1).map (·.2)))
  (g:Go ρ P N D0 Q As η0 m0 (A9 N (adv P N n cf).1 (.d (.sl α E xs)) [])):Go ρ P N D0 Q As η0 m0 cf:=by
 simp only[Prod.mk.injEq]at e;obtain⟨e1,e3⟩:=e;obtain⟨he1,he2⟩:=EqsOk.two e3;refine BA hm he1 ?_;generalize (adv P N n cf).1=c0 at*;unfold litG at e1;split at e1
 ·rename_i a ha;rw[CU ha]at he2;split at e1
  ·rename_i t n parts hop;split at e1
   ·rename_i e hu;split at e1
    ·rename_i i hi;split at e1
     ·rename_i z cs hz hcs;simp only[Option.some.injEq,Prod.mk.injEq,Bool.and_eq_true]at e1;obtain⟨ec,en,ek,b1,b2,b3,b4⟩:=e1;refine CT (rd:=[]) ha he2 ⟨fun _ h=>(by cases h),List.nodup_nil⟩ (fun _=> ?_) g;obtain⟨l,⟨dst,op,ty,pos,af,gd⟩,gg,sl,es⟩:=a;simp only at hop hcs⊢; subst hop;refine⟨Nat.le_refl _,fun rest Q η m f w As hr hfz hn S hk=> ?_⟩;obtain⟨cls,a1,a2,a3⟩:=Jj hr hfz hcs;have hp:=KS b1;have e0:parts=(((parts.toList.map (·.2)).zipIdx 0).map fun p=>(p.2,p.1)).toArray:=by
       rw[←hp]
      rw[e0];have hlen:((parts.toList.map (·.2)).map (ev f)).length=n:=by simp; exact(Nat.eq_of_beq_eq_true b2).symm
      have S0:St m As w:=S;refine HQ (vs:=(parts.toList.map (·.2)).map (ev f)) (cls:=cls) S0 hu (Cc hi) (LS hi hz) rfl a1 a2 hlen.symm (Nat.le_of_ble_eq_true b3) (Nat.le_of_ble_eq_true b4) fun v w' S'=> ?_;rw[ek,en]at S';rw[ec]at a3;letI:=Ki E k;obtain⟨m1,l1,h5,S2⟩:=St.rowKeepT (i:=0) S' rfl (QB (FRL.ofRelv a3) fun x _=>hE x) rfl;exact hk η m1 w' v Env.le_refl l1 (fun n h=> .inl h) (.d (On h5)) S2
     ·cases e1
    ·cases e1
   ·cases e1
  ·cases e1
 ·cases e1
structure AppP:Type 1 where
 use:List Tok
 rd:List Tok
 fw:List Tok
 x:D
 y:D
 by_:Nat
 sz:Nat
def nilOf:D→D
 | .sl α E _=> .sl α E []
 |d=>d
def neD:D→Bool
 | .sl _ _ (_::_)=>true
 |_=>false
def Vb (ob:List Tok):AV→Option (D×List Tok×List Tok)
 | .d (.sl α E xs)=>some (.sl α E xs,[],[])
 | .ow n=>match find n ob with
  |some (i,.fr k d)=>bif Nat.beq k n then some (d,[(i,.fr k d)],[])else none
  |some (i,.row k sz α E xs)=>bif Nat.beq k n then some (.sl α E xs,[],[(i,.row k sz α E xs)])else none
  |_=>none
 |_=>none
def appP (P:Program)(cf:Cf):Option AppP:=
 match EF cf with
 |some a=>match a.g,a.o.op with
  |none,.call c=>match c.callee,c.args.toList,c.argTypes.toList with
   | .builtin .append,[x,y],[t,t2]=>match P.underlying t,P.underlying t2,Vb cf.s.ob (aev a.sl y)with
    |some (.slice e),some (.slice _),some (dy,rd,fw)=>match HA P e with
     |some i=>match i.z with
      |some z=>bif Nat.beq z.cells.toList.length i.sz&&Nat.beq t t2 then
       match aev a.sl x with
       | .ow n=>match find n cf.s.ob with
        |some (j,.row k sz α E xs)=>bif Nat.beq k n&&Nat.beq sz i.sz then some ⟨[(j,.row k sz α E xs)],rd,fw,.sl α E xs,dy,i.by_,i.sz⟩else none
        |_=>none
       | .d (.v (.slice none 0 0))=>some ⟨[],rd,fw,nilOf dy,dy,i.by_,i.sz⟩
       | .d (.kp α E xs)=>bif neD dy then some ⟨[],rd,fw,.sl α E xs,dy,i.by_,i.sz⟩else none
       |_=>none
       else none
      |none=>none
     |none=>none
    |_,_,_=>none
   |_,_,_=>none
  |_,_=>none
 |none=>none
def appK (P:Program)(cf:Cf):Option (D×D×Nat×Nat×Bool):=match appP P cf with|some p=>some (p.x,p.y,p.by_,p.sz,NX (tids ((p.use++p.fw)++p.rd))&&(p.rd.all (fun p=>OP p.2)&&p.fw.all (fun p=>GZ p.2)))|none=>none
def appS (P:Program)(s:AS)(cf:Cf)(sz:Nat)(α:Type)(E:α→List D)(zs:List α):Stp:=match appP P cf with|some p=>⟨.ow s.nx,p.rd,p.use++p.fw,enO s.nx (.row s.nx sz α E zs::Jq p.fw),s.nx+(1+(Jq p.fw).length),[]⟩|none=>Wx s sz α E zs
theorem Ss {ob:List Tok}{a:AV}{d:D}{rd fw:List Tok}(h:Vb ob a=some (d,rd,fw)){η:Env}{m:Mem}{v:Value}(r:Rel η m a v)
  (k1: ∀p∈fw,∃v,η p.2.nm=some v∧FR m (GM p.2) v) (k2: ∀p∈rd,∃v,η p.2.nm=some v∧FR m (GM p.2) v):FR m d v:=by
 unfold Vb at h;split at h
 ·cases h; exact r.dd
 ·rename_i n;split at h
  ·rename_i i k d' hf;cases hb:Nat.beq k n
   ·rw[hb]at h; cases h
   ·rw[hb]at h; cases h;have:=Nat.eq_of_beq_eq_true hb; subst this;obtain⟨u,h1,h2⟩:=k2 _ List.mem_cons_self;have:=r.ow_inv.1;rw[show(AObj.fr k d).nm=k from rfl]at h1;rw[h1]at this; cases this; exact h2
  ·rename_i i k sz α E xs hf;cases hb:Nat.beq k n
   ·rw[hb]at h; cases h
   ·rw[hb]at h; cases h;have:=Nat.eq_of_beq_eq_true hb; subst this;obtain⟨u,h1,h2⟩:=k1 _ List.mem_cons_self;have:=r.ow_inv.1;rw[show(AObj.row k sz α E xs).nm=k from rfl]at h1;rw[h1]at this; cases this; exact h2
  ·cases h
 ·cases h
theorem Qq {ob:List Tok}{a:AV}{d:D}{rd fw:List Tok}(h:Vb ob a=some (d,rd,fw)): ∀p∈fw++rd,p∈ob:=by
 unfold Vb at h;split at h
 ·cases h; intro p hp; simp at hp
 ·split at h
  ·rename_i i k d' hf;cases hb:Nat.beq k _
   ·rw[hb]at h; cases h
   ·rw[hb]at h; cases h;intro p hp; simp at hp; subst hp; exact Ex hf
  ·rename_i i k sz α E xs hf;cases hb:Nat.beq k _
   ·rw[hb]at h; cases h
   ·rw[hb]at h; cases h;intro p hp; simp at hp; subst hp; exact Ex hf
  ·cases h
 ·cases h
theorem Ve {P:Program}{m:Mem}{As:List Ow}{w:World}{sz n k c bytes:Nat}{a0:Option Addr}{z src:Value}{cs ds:List Value}{t ty e:TypeId}{ti:TypeInfo}
  (ht:P.underlying t=some (.slice e)) (hi:P.info? e=some ti) (hz:ti.zero=some z) (hsz:ti.size=sz) (hby:ti.bytes=bytes) (hzs:z.cells.size=sz)
  (hlen: ∀w,(Builtin.lenOf src).run P w= .ok k w) (hf: ∀j,(Builtin.firstCells sz k src).run P {w with drawn:=j}= .ok ds.toArray {w with drawn:=j}) (hds:ds.length=k*sz)
  (hb:(n+k)*bytes≤140737488355328) (h63:n+k≤140737488355328) (hS:St m As w) (hv:SlC m sz (.slice a0 n c) cs n) (hcap:c<n+k):
  ∃v' w',(Builtin.append_ #[t,t] ty #[.slice a0 n c,src]).run P w= .ok v' w'∧St m (Gw.row sz v' (cs++ds) (n+k)::As) w'∧Kd w w':=by
 subst hsz hby;have hcl:cs.length=n*ti.size:=hv.1;have hf1:(Builtin.firstCells ti.size k src).run P w.drew= .ok ds.toArray w.drew:=hf _;have hfo:(Builtin.firstCells ti.size n (.slice a0 n c)).run P w.drew= .ok cs.toArray w.drew:=Gt hS hv _;have hun: ∀w,(underlying t).run P w= .ok (.slice e) w:=fun w=>run_underlying ht w;have hfit:=growslice_fits hcap hb;have hn: ¬(n+k≤c):=by omega
 have h63': ¬(9223372036854775807<((n:Int)+(k:Int))):=by omega
 have h48': ¬(281474976710656<Builtin.nextslicecap (n+k) c*ti.bytes):=by omega
 have hge:=grownCap_ge w (n+k) c e;have hcm:grownCap w (n+k) c e≤maxLen:=grownCap_le_maxLen w (n+k) c e (by simp only[maxLen]; omega);refine⟨.slice (some ⟨w.heap.size,0,none⟩) (n+k) (grownCap w (n+k) c e),w.drew.alloc (.cells (cs.toArray++ds.toArray++Builtin.zeroCells z.cells (grownCap w (n+k) c e-(n+k))) e),?_,?_,?_⟩
 ·simp[Builtin.append_,hun,sizeOf,typeInfo,zeroValue,hi,hz,hlen,hn,h63',h48',Question.forced,hfo,hf1,newRow,grownCap]
  all_goals (congr 2; apply Array.ext'; simp)
 ·have S1:=(hS.drew (w.drawn+1)).push (.cells (cs.toArray++ds.toArray++Builtin.zeroCells z.cells (grownCap w (n+k) c e-(n+k))) e) CC;refine St.to S1 fun h hh=> .inr ⟨w.heap.size,_,_,e,(0,0),rfl,hh,?_,?_,?_,hge,hcm,.inl rfl,.inl rfl⟩
  ·rw[List.length_append,hcl,hds,Nat.add_mul]
  ·have e1:(n+k)*ti.size=(cs++ds).length:=by rw[List.length_append,hcl,hds,Nat.add_mul]
   have e2:(cs.toArray++ds.toArray++Builtin.zeroCells z.cells (grownCap w (n+k) c e-(n+k))).toList=(cs++ds)++(Builtin.zeroCells z.cells (grownCap w (n+k) c e-(n+k))).toList:=by simp
   rw[e1,e2]; exact List.take_left
  ·simp only[Array.size_append,List.size_toArray,size_zeroCells,hzs,hcl,hds,←Nat.add_mul];congr 1; omega
 ·exact⟨(Kd.push w.drew _).size,(Kd.push w.drew _).same⟩
def AppAt (P:Program)(m:Mem){α:Type}(E:α→List D)(k:Nat)(v:Value)(xs ys:List α)(As:List Ow)(w:World):Prop:=(∃cs,FRL m (xs.flatMap E) cs∧St m (Gw.row k v cs xs.length::As) w)∨(FR m (.kp α E xs) v∧0<ys.length∧St m As w)
theorem s_appA {ρ:Option Nat}{P:Program}{N:Nat}{D0:Dw}{ops:Array Oper}{rest:List Oper}{Q:C5}{f:Fr}{w:World}{dst:Option Nat}{ty t:TypeId}{pos:String}{af:Array Edge}{x y:Operand}{m:Mem}{As:List Ow}
  {α:Type} {E:α→List D} {k bytes:Nat} {xs ys zs:List α} {v u z:Value} {e:TypeId} {ti:TypeInfo} (hE: ∀x,(E x).length=k) (hA:AppAt P m E k v xs ys As w) (hx:ev f x=v) (hy:ev f y=u) (hv: @SlR α (Ki E k) m u ys) (hq:app bytes xs ys=some zs)
  (ht:P.underlying t=some (.slice e)) (hi:P.info? e=some ti) (hz:ti.zero=some z) (hsz:ti.size=k) (hby:ti.bytes=bytes) (hzs:z.cells.size=k)
  (h: ∀v' cs' w',St m (Gw.row k v' cs' zs.length::As) w'→ @By α (Ki E k) m cs' zs→wpl ρ P N D0 ops rest Q (upo N f dst v') w'):
  wpl ρ P N D0 ops (⟨dst,.call {callee:= .builtin .append,args:= #[x,y],argTypes:= #[t,t]},ty,pos,af,none⟩::rest) Q f w:=by
 letI:=Ki E k;rcases hA with ⟨cs,hc,S⟩|⟨hk,h0,S⟩
 ·exact Py (α:=α) (i:=0) (ti:=ti) (z:=z) S hx rfl (QB hc fun x _=>hE x) rfl hy hv hq ht hi hz hsz hby hzs fun v' cs' w' S8 hr=>h v' cs' w' S8 hr
 ·cases hk with
  |kp hsl hc0=>
   obtain⟨cs,h1,h2⟩: ∃cs,SlC m k v cs xs.length∧By m cs xs:=RK hsl hE;obtain⟨a0,c0,rfl⟩:=h1.val;have hc1:=hc0 _ _ _ rfl;obtain⟨⟨hb,h63⟩,hq⟩:=Cg hq;cases hq;obtain⟨ds,hc,hr2⟩:=hv;obtain⟨a,c,rfl⟩:=hc.val;obtain⟨v',w',hrun,hS',kd⟩:=Ve (P:=P) (ty:=ty) ht hi hz hsz hby hzs (src:= .slice a ys.length c) (fun w=>OB w) (fun j=>Gt S hc j) hc.1 hb h63 S h1 (by omega);refine Av (v:=v') (w':=w') rfl (fun _ e=>by cases e) ?_ (h v' _ w' (by simpa using hS') (h2.append hr2)) kd;simp[execOp,resolve,invoke,builtin,hx,hy,hrun]
theorem go_app (hm:P.follows .mixedOrders=true){n k b:Nat}{cf:Cf}{α:Type}{E:α→List D}{xs ys zs:List α}(hE: ∀x,(E x).length=k)(hq:app b xs ys=some zs)
  (e:(appK P (adv P N n cf).1,((adv P N n cf).2++A3 (adv P N n cf).1).map (·.1))=(some (.sl α E xs,.sl α E ys,b,k,true),((adv P N n cf).2++A3 (adv P N n cf).1).map (·.2)))
  (g:Go ρ P N D0 Q As η0 m0 (push N (adv P N n cf).1 (appS P (adv P N n cf).1.s (adv P N n cf).1 k α E zs))):Go ρ P N D0 Q As η0 m0 cf:=by
 simp only[Prod.mk.injEq]at e;obtain⟨e1,e3⟩:=e;obtain⟨he1,-⟩:=EqsOk.two e3;refine BA hm he1 ?_;generalize (adv P N n cf).1=c0 at*;cases hp:appP P c0 with
 |none=>unfold appK at e1; rw[hp]at e1; cases e1
 |some p=>
  unfold appK at e1;rw[hp]at e1;simp only[Option.some.injEq,Prod.mk.injEq,Bool.and_eq_true]at e1;obtain⟨ex,ey,eb,ek,o1,o2,o3⟩:=e1;have gS:appS P c0.s c0 k α E zs=⟨.ow c0.s.nx,p.rd,p.use++p.fw,enO c0.s.nx (.row c0.s.nx k α E zs::Jq p.fw),c0.s.nx+(1+(Jq p.fw).length),[]⟩:=by unfold appS; rw[hp]
  rw[gS]at g;have hp0:=hp;unfold appP at hp;split at hp
  ·rename_i a ha;split at hp
   ·rename_i c hg hop;split at hp
    ·rename_i x y t t2 hce hargs hats;split at hp
     ·rename_i e' e2 dy rd fw hu hu2 hsrc;split at hp
      ·rename_i i hi;split at hp
       ·rename_i z hz;cases hb:Nat.beq z.cells.toList.length i.sz&&Nat.beq t t2
        ·rw[hb]at hp; cases hp
        ·rw[hb]at hp;simp only[cond_true]at hp;simp only[Bool.and_eq_true]at hb;have hzs:z.cells.size=i.sz:=by rw[←Array.length_toList]; exact Nat.eq_of_beq_eq_true hb.1
         have htt:=Nat.eq_of_beq_eq_true hb.2;subst htt;have hgd:=Cr ha hg;have ssub:=Qq hsrc;have key: ∃src:List Tok,p.use=src∧p.rd=rd∧p.fw=fw∧p.y=dy∧p.by_=i.by_∧p.sz=i.sz∧(∀q∈src,q∈c0.s.ob)∧
           ∀(η:Env) (m:Mem) (f:Fr) (w:World) (As:List Ow),(∀t,Rel η m (get a.sl t) (f t))→St m (reps η m src++As) w→AppAt P m E k (ev f x) xs ys As w:=by
          split at hp
          ·rename_i nn hx;split at hp
           ·rename_i j kk sz α' E' xs' hf;cases hb2:Nat.beq kk nn&&Nat.beq sz i.sz
            ·rw[hb2]at hp; cases hp
            ·rw[hb2]at hp; cases hp;simp only[Bool.and_eq_true]at hb2;have:=Nat.eq_of_beq_eq_true hb2.1; subst this;have hsz:=Nat.eq_of_beq_eq_true hb2.2;refine⟨_,rfl,rfl,rfl,rfl,rfl,rfl,fun q hq=>by simp at hq; subst hq; exact Ex hf,fun η m f w As hr S=> ?_⟩;simp only at ex ek;cases ex;obtain⟨v,cs,h1,h2,h3,h4,S1⟩:=St.openRow S;have rx:=Ao hr x; rw[hx]at rx;have:=rx.ow_inv.1;rw[h1]at this; cases this;rw[hsz,ek]at S1;exact .inl ⟨cs,h3,S1⟩
           ·cases hp
          ·rename_i hx;cases hp;refine⟨_,rfl,rfl,rfl,rfl,rfl,rfl,fun q hq=>by simp at hq,fun η m f w As hr S=> ?_⟩;have rx:=Ao hr x; rw[hx]at rx;have hv:ev f x= .slice none 0 0:=by
            have:=rx.dd;generalize ev f x=u at this;cases this; rfl
           have hxs:xs=[]:=by
            simp only at ex ey;rw[ey]at ex;simp only[nilOf]at ex;cases ex; rfl
           subst hxs;rw[hv];exact .inl ⟨[],by simpa using FRL.nil,St.rowNil S k⟩
          ·rename_i α' E' xs' hx;cases hb3:neD dy
           ·rw[hb3]at hp; cases hp
           ·rw[hb3]at hp; cases hp;refine⟨_,rfl,rfl,rfl,rfl,rfl,rfl,fun q hq=>by simp at hq,fun η m f w As hr S=> ?_⟩;simp only at ex ey;cases ex;have rx:=Ao hr x; rw[hx]at rx;refine .inr ⟨rx.dd,?_,S⟩;subst ey;cases ys with
            |nil=>cases hb3
            |cons y ys=>simp
          ·cases hp
         obtain⟨src,p1,p2,p3,p4,p5,p6,sub,run⟩:=key;rw[p4]at ey;rw[p5]at eb;rw[p6]at ek;rw[p1,p2,p3]at g o1;rw[p2]at o2;rw[p3]at o3;subst ey eb;refine E2 ha hg ?_ ?_ g
         ·obtain⟨l,⟨dst,op,ty,pos,af,gd⟩,gg,sl,es⟩:=a;obtain⟨ce,cx,ct⟩:=c;obtain⟨cx⟩:=cx;obtain⟨ct⟩:=ct;simp only at hop hgd hce hargs hats hsrc run⊢; subst hop hgd hce hargs hats;refine⟨Nat.le_add_right _ _,fun rest Q η m f w As hr hfz hn S hk=> ?_⟩;simp only at S hk hn;rw[Be,Be,List.append_assoc,List.append_assoc]at S;have S1:=S.perm (List.perm_append_comm_assoc (reps η m src) (reps η m fw) _);obtain⟨m1,l1,K1,S2⟩:=H2 o3 S1;have S3:=St.ru Env.le_refl l1 S2;have S4:=S3.perm (List.perm_append_comm_assoc (reps η m1 src) (reps η m rd) _);have S5:=St.ru Env.le_refl l1 S4;obtain⟨K2,S6⟩:=IF o2 S5;have hr1: ∀t,Rel η m1 (get sl t) (f t):=fun t=>(hr t).up Env.le_refl l1;have hy:=Ss hsrc (Ao hr1 y) K1 K2;have R7:=run η m1 f w As hr1 S6;letI:=Ki E k;have tb:=Gg hi;refine s_appA (α:=α) (ti:=i.inf) (z:=z) hE R7 rfl rfl (RK hy hE) hq hu (Oq hi) (by rw[←tb.2.2.2.2.1]; exact hz) (by rw[←tb.2.2.2.1]; exact ek) (by rw[←tb.2.2.2.2.2]) (by rw[hzs]; exact ek) fun v' cs' w' S8 hrep=> ?_;have hrep':=SV hrep;have h0:=hn c0.s.nx (Nat.le_refl _) (by omega);have S9:St m1 (Gw.row k v' cs' zs.length::As) w':=S8;have h1:=Ei S9;have le2:=Env.le_put (v:=v') h0;refine hk (η.put c0.s.nx v') m1 w' v' le2 l1 (fun q hq=> ?_) (.ow Env.put_self h1) ?_
          ·rcases Env.put_dom hq with q1|q1
           ·exact .inl q1
           ·subst q1; exact .inr ⟨Nat.le_refl _,by omega⟩
          ·rw[Be,List.append_assoc,GW];show St m1 (rep _ m1 (.row c0.s.nx k α E zs)::((Jq fw).map (rep _ m1)++(reps _ m1 rd++As))) w';have F1: ∀q∈fw,∃v,(η.put c0.s.nx v') q.2.nm=some v∧FR m1 (GM q.2) v:=fun q hq=>let ⟨v,a,b⟩:=K1 q hq; ⟨v,le2 _ _ a,b⟩;have F2: ∀q∈rd,∃v,(η.put c0.s.nx v') q.2.nm=some v∧FR m1 (GM q.2) v:=fun q hq=>let ⟨v,a,b⟩:=K2 q hq; ⟨v,le2 _ _ a,b⟩;have T1:=St.closeRow (η:=η.put c0.s.nx v') (n:=c0.s.nx) Env.put_self h1 hrep'.1 hrep'.2 S9;have T2:=Il F1 (Im o2 F2 T1);exact T2.perm ((List.Perm.append_left _ List.perm_middle).trans List.perm_middle)
         ·refine⟨fun q hq=> ?_,FY o1,?_,fun t ht=> ?_⟩
          ·simp only at hq;rcases List.mem_append.1 hq with h|h
           ·rcases List.mem_append.1 h with h|h
            ·exact sub q h
            ·exact ssub q (List.mem_append_left _ h)
           ·exact ssub q (List.mem_append_right _ h)
          ·simp only; rw[Ec]; exact List.nodup_range'
          ·simp only at ht⊢;rw[Ec,List.mem_range']at ht;obtain⟨i2,hi2,rfl⟩:=ht;simp only[List.length_cons]at hi2;omega
       ·cases hp
      ·cases hp
     ·cases hp
    ·cases hp
   ·cases hp
  ·cases hp
end
end Go.Ax
end
section
namespace Go.Ax
open Go Go.Gw
def QI (n:Nat)(er:AV):List AV:=bif Nat.beq n 1 then [er]else tupE er
def endP (P:Program)(fn:Func)(cf:Cf)(er:AV)(eobs:List AObj):Option UL:=bif Wg cf then match PC P cf.s fn.results.toList with|some vs=>OE cf.s.ob 0 vs (QI fn.results.toList.length er) eobs|none=>none else none
def isTup:AV→Bool
 | .tup _=>true
 |_=>false
def okEnd (p:UL)(len:Nat)(er:AV)(eobs:List AObj)(n0 n1:Nat):Bool:=(QI len er).all (okA n1)&&(eobs.all (okO n1)&&(NX (tids ((p.ut++p.fw)++p.fr))&&(fixB p.mt n0&&(Nat.ble n0 n1&&(p.fr.all (fun p=>OP p.2)&&(p.fw.all (fun p=>GZ p.2)&&(Nat.beq len 1||isTup er)))))))
def endL (P:Program)(fn:Func)(cf:Cf)(er:AV)(eobs:List AObj)(n0 n1:Nat):Option (List AV×List AObj×Bool):=match endP P fn cf er eobs with|some p=>some (p.as,p.objs,okEnd p fn.results.toList.length er eobs n0 n1)|none=>none
def endR (P:Program)(fn:Func)(cf:Cf)(er:AV)(eobs:List AObj):Option (List AV×List AObj×Bool):=match endP P fn cf er eobs with|some p=>some ((QI fn.results.toList.length er).map (UT fun j=>HU p.mt j j),eobs.map (RG fun j=>HU p.mt j j),true)|none=>none
section
variable {P:Program}{N:Nat}{As:List Ow}{η0:Env}{m0:Mem}
theorem OD {s:AS}: ∀{rs:List ResultVar} {vs:List AV},PC P s rs=some vs→vs.length=rs.length
 | [],vs,h=>by cases h; rfl
 |r::rs,vs,h=>by
  unfold PC at h;split at h
  ·rename_i a b h1 h2; cases h; simp[OD h2]
  ·cases h
theorem go_fin (hm:P.follows .mixedOrders=true){ρ:Option Nat}{D0:Dw}{fn:Func}{n n0 n1:Nat}{cf:Cf}{er:AV}{eobs:List AObj}{Po:AV→List AObj→Nat→Prop}(hd: ∀n,η0 n≠none→n<n0)
  (e:(endL P fn (adv P N n cf).1 er eobs n0 n1,(endP P fn (adv P N n cf).1 er eobs).isSome,((adv P N n cf).2).map (·.1))=(endR P fn (adv P N n cf).1 er eobs,true,((adv P N n cf).2).map (·.2))) (hp:Po er eobs n1):
  Go ρ P N D0 (UW P N fn (NW As η0 m0 Po)) As η0 m0 cf:=by
 simp only[Prod.mk.injEq]at e;obtain⟨e1,e2,e3⟩:=e;refine BA hm (.of e3) ?_;generalize (adv P N n cf).1=c0 at*;obtain⟨s,md,K⟩:=c0;cases hpl:endP P fn ⟨s,md,K⟩ er eobs with
 |none=>rw[hpl]at e2; cases e2
 |some p=>
  unfold endL endR at e1;rw[hpl]at e1;simp only[Option.some.injEq,Prod.mk.injEq]at e1;obtain⟨ea,eo,ef⟩:=e1;simp only[okEnd,Bool.and_eq_true]at ef;obtain⟨o1,o2,o3,o4,o5,o6,o7,o8⟩:=ef;unfold endP at hpl;cases hb:Wg ⟨s,md,K⟩
  ·rw[hb]at hpl; cases hpl
  ·rw[hb]at hpl;simp only[cond_true]at hpl;split at hpl
   ·rename_i vs hvs;have main: ∀η m f w,η0.le η→m0≤m→Gm As s η m f w→∀w',Pd w w'→outE P N fn (NW As η0 m0 Po) f w':=by
     intro η m f w a1 a2 g w' hpd;have S0:=St.pd g.st hpd;obtain⟨us,r1,r2⟩:=Wz g.slr S0 hvs;have S:=St.rp S0 (GC g.wf.nd (FY o3) (QG hpl));rw[Be,List.append_assoc]at S;obtain⟨m1,l1,r3,S1⟩:=Tj hpl o6 o7 r2 S;rw[ea]at r3;rw[eo]at S1;let φ:Nat→Nat:=fun j=>HU p.mt j j;let η1:Env:=fun j=>if j<n1 then η (φ j)else none;have hη1: ∀j,j<n1→η (φ j)=η1 j:=fun j hj=>(if_pos hj).symm;have S2:=S1.perm (show(eobs.map (RG φ)).map (rep η m1)++(reps η m (C4 (tids (p.ut++p.fw++p.fr)) s.ob)++As)|>.Perm (reps η m (C4 (tids (p.ut++p.fw++p.fr)) s.ob)++((eobs.map (RG φ)).map (rep η m1)++As))from List.perm_append_comm_assoc _ _ _);obtain⟨m2,l2,S3⟩:=St.dropN (reps η m (C4 (tids (p.ut++p.fw++p.fr)) s.ob)).length S2;rw[List.drop_left]at S3;have S4:St m2 (eobs.map (rep η1 m2)++As) w':=by
      have S3':=St.mapUp (obs:=eobs.map (RG φ)) Env.le_refl l2 S3;refine S3'.imp (by simp) fun i A B ha hb x hx=> ?_;rw[List.getElem?_append]at ha hb;simp only[List.length_map]at ha hb;split at ha
      ·rename_i q;rw[if_pos q]at hb;simp only[List.getElem?_map,Option.map_eq_some_iff]at ha hb;obtain⟨o',⟨o,ho,rfl⟩,rfl⟩:=ha;obtain⟨o2',ho',rfl⟩:=hb;rw[ho]at ho'; cases ho';exact PD hη1 (List.all_eq_true.1 o2 o (List.mem_of_getElem? ho)) hx
      ·rename_i q;rw[if_neg q]at hb;rw[ha]at hb; cases hb; exact hx
     have r4:=Ni hη1 o1 (r3.up Env.le_refl l2);have hlen:=OD hvs;have hus:us.length=fn.results.toList.length:=by rw[←r2.1,hlen]
     have hR:Rel η1 m2 er (tup us):=by
      unfold QI at r4;cases hl:Nat.beq fn.results.toList.length 1
      ·rw[hl]at r4;simp only[cond_false]at r4;rw[hl]at o8;simp only[Bool.false_or]at o8;have hne:us.length≠1:=by intro q; rw[hus]at q; rw[q]at hl; cases hl
       have:tup us= .tuple us.toArray:=by
        unfold tup;split
        ·simp at hne
        ·rfl
       rw[this];cases er with
       |tup l=>exact .tup r4.1 r4.2
       |_=>cases o8
      ·rw[hl]at r4;simp only[cond_true]at r4;obtain⟨v,us',e5,h1,h2⟩:=r4.cons_inv;have:=h2.nil_inv; subst this;subst e5;exact h1
     refine Hh us (by rw[Array.toArray_toList]) r1 ⟨m2,η1,er,eobs,n1,Mem.tr a2 (Mem.tr l1 l2),fun k v hv=> ?_,hp,fun k hk=> ?_,hR,S4⟩
     ·have hlt:=hd k (by rw[hv]; simp);show(if _ then _ else _)=_;rw[if_pos (Nat.lt_of_lt_of_le hlt (Nat.le_of_ble_eq_true o5))];show η (HU p.mt k k)=some v;rw[P4 o4 k hlt]; exact a1 _ _ hv
     ·have:(if k<n1 then η (φ k)else none)≠none:=hk;split at this
      ·assumption
      ·exact absurd rfl this
    unfold Wg at hb;split at hb
    ·rename_i hmd hK;simp only at hmd hK; subst hmd hK;exact fun η m f w a1 a2 g=>DL (main η m f w a1 a2 g)
    ·rename_i hmd hK;simp only at hmd hK; subst hmd hK;exact fun η m f w a1 a2 g=>RJ (main η m f w a1 a2 g)
    ·cases hb
   ·cases hpl
end
end Go.Ax
end
section
namespace Go.Ax
open Go Go.Gw
section
variable {ρ:Option Nat}{P:Program}{N:Nat}{D0:Dw}{Q:C5}{As:List Ow}{η0:Env}{m0:Mem}
theorem tup2 {η:Env}{m:Mem}(p q:UInt64):Rel η m (.tup [.d (.u p),.d (.u q)]) (.tuple #[vU p,vU q]):=
 have h:Bo η m [.d (.u p),.d (.u q)] [vU p,vU q]:=Bo.cons (.d (.u p)) (Bo.cons (.d (.u q)) Bo.nil)
 .tup h.1 h.2
theorem HB {s:AS}:(∀p∈([]:List Tok),p∈s.ob)∧(tids []).Nodup:=⟨fun _ h=>(by cases h),List.nodup_nil⟩
def NC (P:Program)(t:TypeId):Bool:=match P.underlying t with|some .string=>true|_=>false
theorem Ih {t:TypeId}(h:NC P t=true):P.underlying t=some .string:=by
 unfold NC at h;split at h
 ·assumption
 ·cases h
def Yq (P:Program)(cf:Cf):Option (AV×Int×Bool):=
 match EF cf with
 |some a=>match a.o.op with
  | .index t x y=>match Jo a.sl y with
   |some (_,j)=>some (aev a.sl x,j,NC P t)
   |none=>none
  |_=>none
 |none=>none
theorem YB (hm:P.follows .mixedOrders=true){n:Nat}{cf:Cf}{s:ByteArray}{j:Int}{b:UInt8}(hq:gOf (adv P N n cf).1=true→idx s.data.toList j=some b)
  (e:(Yq P (adv P N n cf).1,((adv P N n cf).2++A3 (adv P N n cf).1).map (·.1))=(some (.d (.s s),j,true),((adv P N n cf).2++A3 (adv P N n cf).1).map (·.2)))
  (g:Go ρ P N D0 Q As η0 m0 (A9 N (adv P N n cf).1 (.d (.b b)) [])):Go ρ P N D0 Q As η0 m0 cf:=by
 simp only[Prod.mk.injEq]at e;obtain⟨e1,e3⟩:=e;obtain⟨he1,he2⟩:=EqsOk.two e3;refine BA hm he1 ?_;generalize (adv P N n cf).1=c0 at*;unfold Yq at e1;split at e1
 ·rename_i a ha;rw[CU ha]at he2;split at e1
  ·rename_i t x y hop;split at e1
   ·rename_i kk jj hj;simp only[Option.some.injEq,Prod.mk.injEq]at e1;obtain⟨ed,rfl,hs⟩:=e1;refine CT (rd:=[]) ha he2 HB (fun hp=> ?_) g;have q:=hq (H0 ha hp);obtain⟨l,⟨dst,op',ty,pos,af,gd⟩,gg,sl,es⟩:=a;simp only at hop ed hj⊢; subst hop;refine⟨Nat.le_refl _,fun rest Q η m f w As hr hz hn S hk=> ?_⟩;have rx:=Ao hr x;rw[ed]at rx;have hx:ev f x=vS s:=by
     have:=rx.dd;generalize ev f x=u at this;cases this; rfl
    exact Vd hx (BR hj hr) (Ih hs) q (hk η m w _ Env.le_refl (Mem.rfl' m) (fun n h=> .inl h) (.d (.b b)) S)
   ·cases e1
  ·cases e1
 ·cases e1
def UK (cf:Cf):Option (FuncId×AV×AV×Bool):=
 match EF cf with
 |some a=>match a.o.op with
  | .call c=>match c.callee,c.args.toList with
   | .value (.func k),[x,y,z]=>some (k,aev a.sl x,aev a.sl y,match Jo a.sl z with|some (.u64,j)=>j==0|_=>false)
   |_,_=>none
  |_=>none
 |none=>none
theorem VS (hm:P.follows .mixedOrders=true){n:Nat}{cf:Cf}{k:FuncId}{fn:Func}{p q:UInt64}(hf:P.funcs[k]? =some fn)(hname:(fn.name== "runtime.NumGoroutine")=false)(hb:fn.body.isNone=true)
  (hx:Extern.findNext fn=none) (he:Extern.find fn=some add64Entry)
  (e:(UK (adv P N n cf).1,((adv P N n cf).2++A3 (adv P N n cf).1).map (·.1))=(some (k,.d (.u p),.d (.u q),true),((adv P N n cf).2++A3 (adv P N n cf).1).map (·.2)))
  (g:Go ρ P N D0 Q As η0 m0 (A9 N (adv P N n cf).1 (.tup [.d (.u (p+q)),.d (.u (GG p q))]) [])):Go ρ P N D0 Q As η0 m0 cf:=by
 simp only[Prod.mk.injEq]at e;obtain⟨e1,e3⟩:=e;obtain⟨he1,he2⟩:=EqsOk.two e3;refine BA hm he1 ?_;generalize (adv P N n cf).1=c0 at*;unfold UK at e1;split at e1
 ·rename_i a ha;rw[CU ha]at he2;split at e1
  ·rename_i c hop;split at e1
   ·rename_i k' x y z hc hargs;simp only[Option.some.injEq,Prod.mk.injEq]at e1;obtain⟨rfl,ex,ey,ez⟩:=e1;refine CT (rd:=[]) ha he2 HB (fun hp=> ?_) g;obtain⟨l,⟨dst,op',ty,pos,af,gd⟩,gg,sl,es⟩:=a;obtain⟨cc,cas,cts⟩:=c;simp only at hop ex ey ez hc hargs⊢; subst hop hc;have ha':cas= #[x,y,z]:=by apply Array.toList_inj.mp; rw[hargs]
    subst ha';refine⟨Nat.le_refl _,fun rest Q η m f w As hr hz hn S hk=> ?_⟩;have rx:=Ao hr x;have ry:=Ao hr y;rw[ex]at rx;rw[ey]at ry;have h0:ev f z= .int .u64 0:=by
     split at ez
     ·rename_i j hj;have:=BR hj hr;rw[this];simp only[beq_iff_eq]at ez;rw[ez]
     ·cases ez
    exact XK hf hname hb hx he rx.u_inv ry.u_inv h0 (hk η m w _ Env.le_refl (Mem.rfl' m) (fun n h=> .inl h) (tup2 _ _) S)
   ·cases e1
  ·cases e1
 ·cases e1
abbrev byE:UInt8→List D:=fun x=> [.b x]
theorem byRep: ∀{m:Mem} {xs:List UInt8} {cs:List Value}, @By UInt8 (Ki byE 1) m cs xs→By m cs xs
 |_,[],_,h=>h
 |m,x::xs,cs,h=>by
  obtain⟨c,d,h1,h2,h3⟩:=h;refine⟨c,d,h1,?_,byRep h3⟩;obtain⟨v,us,e1,e2,e3⟩:=FRL.cons_inv h2.1;have:=FRL.nil_inv e3;subst this;show c=[vB x];rw[e1];generalize v=u at*;cases e2; rfl
theorem Y5: ∀{m:Mem} {xs:List UInt8} {cs:List Value},By m cs xs→FRL m (xs.flatMap byE) cs
 |m,[],cs,h=>by
  have:cs=[]:=h;subst this; exact .nil
 |m,x::xs,cs,h=>by
  obtain⟨c,d,h1,h2,h3⟩:=h;have:c=[vB x]:=h2;subst this h1;exact .cons (.b x) (Y5 h3)
def bsK (P:Program)(cf:Cf):Option (D×Bool×List Tok):=
 match EF cf with
 |some a=>match a.o.op with
  | .convert t t2 x=>match XM cf.s.ob (aev a.sl x)with
   |some (d,ts)=>some (d,OO P t&&NC P t2,ts)
   |none=>none
  |_=>none
 |none=>none
def bsT (P:Program)(cf:Cf):List Tok:=match bsK P cf with|some (_,_,ts)=>ts|none=> []
def bsFP (P:Program)(cf:Cf):Option (D×Bool×List Tok):=
 match EF cf with
 |some a=>match a.g,a.o.op with
  |none,.convert t t2 x=>match Vb cf.s.ob (aev a.sl x)with
   |some (d,[],fw)=>some (d,OO P t&&(NC P t2&&(NX (tids fw)&&fw.all (fun p=>GZ p.2))),fw)
   |_=>none
  |_,_=>none
 |none=>none
def bsFS (P:Program)(cf:Cf)(b:ByteArray):Stp:=match bsFP P cf with|some (_,_,fw)=>⟨.d (.s b),[],fw,enO cf.s.nx (Jq fw),cf.s.nx+(Jq fw).length,[]⟩|none=>⟨.d (.s b),[],[],[],cf.s.nx,[]⟩
def ofSK (P:Program)(cf:Cf):Option (AV×Bool):=
 match EF cf with
 |some a=>match a.g,a.o.op with
  |none,.convert t t2 x=>some (aev a.sl x,NC P t&&OO P t2)
  |_,_=>none
 |none=>none
theorem go_ofS (hm:P.follows .mixedOrders=true){n:Nat}{cf:Cf}{s:ByteArray}{zs:List UInt8}(hq:app 1 ([]:List UInt8) s.data.toList=some zs)
  (e:(ofSK P (adv P N n cf).1,((adv P N n cf).2++A3 (adv P N n cf).1).map (·.1))=(some (.d (.s s),true),((adv P N n cf).2++A3 (adv P N n cf).1).map (·.2)))
  (g:Go ρ P N D0 Q As η0 m0 (push N (adv P N n cf).1 (Wx (adv P N n cf).1.s 1 UInt8 byE zs))):Go ρ P N D0 Q As η0 m0 cf:=by
 simp only[Prod.mk.injEq]at e;obtain⟨e1,e3⟩:=e;obtain⟨he1,-⟩:=EqsOk.two e3;refine BA hm he1 ?_;generalize (adv P N n cf).1=c0 at*;unfold ofSK at e1;split at e1
 ·rename_i a ha;split at e1
  ·rename_i t t2 x hg hop;simp only[Option.some.injEq,Prod.mk.injEq,Bool.and_eq_true]at e1;obtain⟨ex,e4,e5⟩:=e1;have hgd:=Cr ha hg;refine E2 ha hg ?_ Nr g;obtain⟨l,⟨dst,op,ty,pos,af,gd⟩,gg,sl,es⟩:=a;simp only at hop hgd ex⊢; subst hop hgd;refine⟨Nat.le_succ _,fun rest Q η m f w As hr hz hn S hk=> ?_⟩;have rx:=Ao hr x;rw[ex]at rx;have hx:ev f x=vS s:=by
    have:=rx.dd;generalize ev f x=u at this;cases this; rfl
   obtain⟨e,u1,u2⟩:=QS e5;refine s_ofS S hx hq (Ih e4) u1 u2 fun v' cs' w' S' hrep=> ?_;have h0:=hn c0.s.nx (Nat.le_refl _) (Nat.lt_succ_self _);have h1:=Ei S';refine hk (η.put c0.s.nx v') m w' v' (Env.le_put h0) (Mem.rfl' m) (fun n q=> ?_) (.ow Env.put_self h1) (St.closeRow Env.put_self h1 (Y5 hrep) (fun x _=>rfl) S');rcases Env.put_dom q with q|q
   ·exact .inl q
   ·subst q; exact .inr ⟨Nat.le_refl _,Nat.lt_succ_self _⟩
  ·cases e1
 ·cases e1
def apSP (P:Program)(cf:Cf):Option (List Tok×D×AV×Nat×Bool):=
 match EF cf with
 |some a=>match a.g,a.o.op with
  |none,.call c=>match c.callee,c.args.toList,c.argTypes.toList with
   | .builtin .append,[x,y],[t,t2]=>match P.underlying t with
    |some (.slice e)=>match HA P e with
     |some i=>match i.z with
      |some z=>match aev a.sl x with
       | .ow n=>match find n cf.s.ob with
        |some (j,.row k sz α E xs)=>some ([(j,.row k sz α E xs)],.sl α E xs,aev a.sl y,i.by_,Nat.beq z.cells.toList.length 1&&(Nat.beq i.sz 1&&(Nat.beq k n&&(Nat.beq sz 1&&NC P t2))))
        |_=>none
       |_=>none
      |none=>none
     |none=>none
    |_=>none
   |_,_,_=>none
  |_,_=>none
 |none=>none
def apST (P:Program)(cf:Cf)(zs:List UInt8):Stp:=match apSP P cf with|some (use,_)=>⟨.ow cf.s.nx,[],use,[(cf.s.nx,.row cf.s.nx 1 UInt8 byE zs)],cf.s.nx+1,[]⟩|none=>Wx cf.s 1 UInt8 byE zs
theorem go_apS (hm:P.follows .mixedOrders=true){n b:Nat}{cf:Cf}{s:ByteArray}{xs zs:List UInt8}(hq:app b xs s.data.toList=some zs)
  (e:((apSP P (adv P N n cf).1).map (·.2),((adv P N n cf).2++A3 (adv P N n cf).1).map (·.1))=(some (.sl UInt8 byE xs,.d (.s s),b,true),((adv P N n cf).2++A3 (adv P N n cf).1).map (·.2)))
  (g:Go ρ P N D0 Q As η0 m0 (push N (adv P N n cf).1 (apST P (adv P N n cf).1 zs))):Go ρ P N D0 Q As η0 m0 cf:=by
 simp only[Prod.mk.injEq]at e;obtain⟨e1,e3⟩:=e;obtain⟨he1,-⟩:=EqsOk.two e3;refine BA hm he1 ?_;generalize (adv P N n cf).1=c0 at*;cases hk:apSP P c0 with
 |none=>rw[hk]at e1; cases e1
 |some r=>
  have hT:apST P c0 zs=⟨.ow c0.s.nx,[],r.1,[(c0.s.nx,.row c0.s.nx 1 UInt8 byE zs)],c0.s.nx+1,[]⟩:=by unfold apST; rw[hk]
  rw[hT]at g;rw[hk]at e1;simp only[Option.map_some,Option.some.injEq]at e1;unfold apSP at hk;split at hk
  ·rename_i a ha;split at hk
   ·rename_i c hg hop;split at hk
    ·rename_i x y t t2 hce hargs hats;split at hk
     ·rename_i e' hu;split at hk
      ·rename_i i hi;split at hk
       ·rename_i z hz;split at hk
        ·rename_i nn hx;split at hk
         ·rename_i j kk sz α E' xs' hf;cases hk;simp only[Prod.mk.injEq,Bool.and_eq_true]at e1 g;obtain⟨ex,ey,eb,b1,b2,b3,b4,b5⟩:=e1;have hgd:=Cr ha hg;have hkn:=Nat.eq_of_beq_eq_true b3; subst hkn;have hs1:=Nat.eq_of_beq_eq_true b4;have hz1:=Nat.eq_of_beq_eq_true b1;have hi1:=Nat.eq_of_beq_eq_true b2;subst eb hs1;cases ex;refine E2 ha hg ?_ ?_ g
          ·obtain⟨l,⟨dst,op,ty,pos,af,gd⟩,gg,sl,es⟩:=a;obtain⟨ce,cx,ct⟩:=c;obtain⟨cx⟩:=cx;obtain⟨ct⟩:=ct;simp only at hop hgd hce hargs hats hx ey⊢; subst hop hgd hce hargs hats;refine⟨Nat.le_succ _,fun rest Q η m f w As hr hfz hn S hk=> ?_⟩;simp only at S hk hn;obtain⟨v,cs,h1,h2,h3,h4,S1⟩:=St.openRow S;have rx:=Ao hr x; rw[hx]at rx;have hv:=rx.ow_inv.1;rw[h1]at hv; cases hv;have ry:=Ao hr y;rw[ey]at ry;have hy:ev f y=vS s:=by
            have:=ry.dd;generalize ev f y=u at this;cases this; rfl
           have tb:=Gg hi;refine s_appS (i:=0) (ti:=i.inf) (z:=z) S1 rfl rfl (byRep (QB h3 fun _ _=>rfl)) rfl hy hq hu (Ih b5) (Oq hi) (by rw[←tb.2.2.2.2.1]; exact hz) (by rw[←tb.2.2.2.1]; exact hi1) (by rw[←tb.2.2.2.2.2]) (by rw[←Array.length_toList]; exact hz1) fun v' cs' w' S8 hrep=> ?_;have h0:=hn c0.s.nx (Nat.le_refl _) (Nat.lt_succ_self _);have S9:St m (Gw.row 1 v' cs' zs.length::As) w':=S8;have h1':=Ei S9;refine hk (η.put c0.s.nx v') m w' v' (Env.le_put h0) (Mem.rfl' m) (fun q hq=> ?_) (.ow Env.put_self h1') (St.closeRow Env.put_self h1' (Y5 hrep) (fun x _=>rfl) S9);rcases Env.put_dom hq with q1|q1
           ·exact .inl q1
           ·subst q1; exact .inr ⟨Nat.le_refl _,Nat.lt_succ_self _⟩
          ·refine⟨fun q hq=> ?_,by simp[tids],by simp[tids],fun t ht=>by simp[tids]at ht; subst ht; exact⟨Nat.le_refl _,Nat.lt_succ_self _⟩⟩;simp only[List.append_nil,List.mem_singleton]at hq;subst hq;exact Ex hf
         ·cases hk
        ·cases hk
       ·cases hk
      ·cases hk
     ·cases hk
    ·cases hk
   ·cases hk
  ·cases hk
def fwOk (fw:List Tok):Bool:=NX (tids fw)&&fw.all (fun p=>GZ p.2)
def fwS (cf:Cf)(v:AV)(fw:List Tok):Stp:=⟨v,[],fw,enO cf.s.nx (Jq fw),cf.s.nx+(Jq fw).length,[]⟩
def cutFK (P:Program)(cf:Cf):Option (D×Int×Int×Int×Nat×Bool×List Tok):=
 match EF cf with
 |some a=>match a.g,a.o.op with
  |none,.slice t x lo hi mx=>match Vb cf.s.ob (aev a.sl x),P.underlying t with
   |some (d,[],fw),some (.slice e)=>match HA P e with
    |some i=>
     let l:Option Int:=match lo with|none=>some 0|some o=>(Jo a.sl o).map (·.2)
     let h:Option Int:=match hi with|none=>some (dlen d)|some o=>(Jo a.sl o).map (·.2)
     let m:Option Int:=match mx with|none=>h|some o=>match hi with|none=>none|some _=>(Jo a.sl o).map (·.2)
     match l,h,m with
     |some l,some h,some m=>some (d,l,h,m,i.sz,fwOk fw,fw)
     |_,_,_=>none
    |none=>none
   |_,_=>none
  |_,_=>none
 |none=>none
def cutFT (P:Program)(cf:Cf):List Tok:=match cutFK P cf with|some (_,_,_,_,_,_,ts)=>ts|none=> []
def idxFK (P:Program)(cf:Cf):Option (D×Int×Nat×Bool×List Tok):=
 match EF cf with
 |some a=>match a.g,a.o.op with
  |none,.indexAddr t x y=>match Vb cf.s.ob (aev a.sl x),Jo a.sl y,P.underlying t with
   |some (d,[],fw),some (_,j),some (.slice e)=>match HA P e with
    |some i=>some (d,j,i.sz,fwOk fw,fw)
    |none=>none
   |_,_,_=>none
  |_,_=>none
 |none=>none
def idxFT (P:Program)(cf:Cf):List Tok:=match idxFK P cf with|some (_,_,_,_,ts)=>ts|none=> []
end
end Go.Ax
end
section
namespace Go.Ax
open Go Go.Gw
def Cq (ob:List Tok):List AV→List AV×List Tok×List Tok
 | []=>([],[],[])
 |c::l=>match Vb ob c with
  |some (d,g,h)=>(.d d::(Cq ob l).1,g++(Cq ob l).2.1,h++(Cq ob l).2.2)
  |none=>(c::(Cq ob l).1,(Cq ob l).2.1,(Cq ob l).2.2)
theorem H6 {ob:List Tok}{η:Env}{m:Mem}: ∀{cs:List AV} {vs:List Value},Bo η m cs vs→(∀p∈(Cq ob cs).2.2,∃v,η p.2.nm=some v∧FR m (GM p.2) v)→(∀p∈(Cq ob cs).2.1,∃v,η p.2.nm=some v∧FR m (GM p.2) v)→Bo η m (Cq ob cs).1 vs
 | [],vs,r,_,_=>r
 |c::l,vs,r,k1,k2=>by
  obtain⟨v,us,rfl,r1,r2⟩:=r.cons_inv;unfold Cq at*;split at k1
  ·rename_i d g h e;rw[e]at k2;simp only at k1 k2⊢;exact .cons (.d (Ss e r1 (fun q hq=>k1 q (List.mem_append_left _ hq)) (fun q hq=>k2 q (List.mem_append_left _ hq)))) (H6 r2 (fun q hq=>k1 q (List.mem_append_right _ hq)) (fun q hq=>k2 q (List.mem_append_right _ hq)))
  ·rename_i e;rw[e]at k2;simp only at k1 k2⊢;exact .cons r1 (H6 r2 k1 k2)
theorem Io {ob:List Tok}: ∀{cs:List AV},∀p∈(Cq ob cs).2.2++(Cq ob cs).2.1,p∈ob
 | [],p,hp=>by simp[Cq]at hp
 |c::l,p,hp=>by
  have ih:=Io (ob:=ob) (cs:=l) p;unfold Cq at hp;simp only[List.mem_append]at ih;split at hp
  ·rename_i d g h e;have i2:=Qq e p;simp only[List.mem_append]at hp i2;rcases hp with (q|q)|(q|q)
   ·exact i2 (.inl q)
   ·exact ih (.inl q)
   ·exact i2 (.inr q)
   ·exact ih (.inr q)
  ·simp only[List.mem_append]at hp; exact ih hp
def Ms (ob:List Tok)(sl:Sl)(sz:Nat):List (Nat×Operand)→Option (List AV×List Tok×List Tok)
 | []=>some ([],[],[])
 |p::l=>match Ms ob sl sz l with
  |some (r,rd,fw)=>match Jk (aev sl p.2)with
   |some c=>bif Nat.beq c.length sz then some ((Cq ob c).1++r,(Cq ob c).2.1++rd,(Cq ob c).2.2++fw)else none
   |none=>none
  |none=>none
theorem O4 {ob:List Tok}{sl:Sl}{sz:Nat}{η:Env}{m:Mem}{f:Fr}(hr: ∀t,Rel η m (get sl t) (f t)): ∀{l:List (Nat×Operand)} {cs:List AV} {rd fw:List Tok},Ms ob sl sz l=some (cs,rd,fw)→
  (∀p∈fw,∃v,η p.2.nm=some v∧FR m (GM p.2) v)→(∀p∈rd,∃v,η p.2.nm=some v∧FR m (GM p.2) v)→
  ∃cls:List (List Value),E6 ((l.map (·.2)).map (ev f)) cls∧K8 sz cls=true∧Bo η m cs cls.flatten
 | [],cs,rd,fw,h,_,_=>by cases h; exact⟨[],trivial,rfl,.nil⟩
 |p::l,cs,rd,fw,h,k1,k2=>by
  unfold Ms at h;split at h
  ·rename_i r rd' fw' h1;split at h
   ·rename_i c h2;cases hb:Nat.beq c.length sz
    ·rw[hb]at h; cases h
    ·rw[hb]at h; cases h;obtain⟨cls,a1,a2,a3⟩:=O4 hr h1 (fun q hq=>k1 q (List.mem_append_right _ hq)) (fun q hq=>k2 q (List.mem_append_right _ hq));obtain⟨b1,b2⟩:=FQ h2 (Ao hr p.2);refine⟨(ev f p.2).cells.toList::cls,⟨by simp,a1⟩,?_,?_⟩
     ·show(Nat.beq _ sz&&K8 sz cls)=true;rw[a2,←b1.1,hb]; rfl
     ·rw[List.flatten_cons]; exact(H6 b1 (fun q hq=>k1 q (List.mem_append_left _ hq)) (fun q hq=>k2 q (List.mem_append_left _ hq))).append a3
   ·cases h
  ·cases h
theorem Mr {ob:List Tok}{sl:Sl}{sz:Nat}: ∀{l:List (Nat×Operand)} {cs:List AV} {rd fw:List Tok},Ms ob sl sz l=some (cs,rd,fw)→∀p∈fw++rd,p∈ob
 | [],cs,rd,fw,h=>by cases h; intro p hp; simp at hp
 |p::l,cs,rd,fw,h=>by
  unfold Ms at h;split at h
  ·rename_i r rd' fw' h1;split at h
   ·rename_i c h2;cases hb:Nat.beq c.length sz
    ·rw[hb]at h; cases h
    ·rw[hb]at h; cases h;intro q hq;have i1:=Mr h1 q;have i2:=Io (ob:=ob) (cs:=c) q;simp only[List.mem_append]at hq i1 i2;rcases hq with (e|e)|(e|e)
     ·exact i2 (.inl e)
     ·exact i1 (.inl e)
     ·exact i2 (.inr e)
     ·exact i1 (.inr e)
   ·cases h
  ·cases h
def TF (P:Program)(cf:Cf):Option (List AV×Nat×Nat×Bool×List Tok×List Tok):=
 match EF cf with
 |some a=>match a.g,a.o.op with
  |none,.buildSlice t n parts=>match P.underlying t with
   |some (.slice e)=>match HA P e with
    |some i=>match i.z,Ms cf.s.ob a.sl i.sz parts.toList with
     |some _,some (cs,rd,fw)=>some (cs,n,i.sz,(seqB 0 parts.toList&&(Nat.beq n parts.toList.length&&(Nat.ble (n*i.sz) 16777216&&Nat.ble 1 i.sz)))&&(NX (tids (fw++rd))&&(rd.all (fun p=>OP p.2)&&fw.all (fun p=>GZ p.2))),rd,fw)
     |_,_=>none
    |none=>none
   |_=>none
  |_,_=>none
 |none=>none
def VA (P:Program)(cf:Cf):Option (List AV×Nat×Nat×Bool):=(TF P cf).map fun r=>(r.1,r.2.1,r.2.2.1,r.2.2.2.1)
def Vz (P:Program)(cf:Cf)(α:Type)(E:α→List D)(xs:List α):Stp:=match TF P cf with|some (_,_,_,_,rd,fw)=>⟨.d (.sl α E xs),rd,fw,enO cf.s.nx (Jq fw),cf.s.nx+(Jq fw).length,[]⟩|none=>⟨.d (.sl α E xs),[],[],[],cf.s.nx,[]⟩
def litVO (P:Program)(cf:Cf)(sz:Nat)(α:Type)(E:α→List D)(xs:List α):Stp:=match TF P cf with|some (_,_,_,_,rd,fw)=>⟨.ow cf.s.nx,rd,fw,enO cf.s.nx (.row cf.s.nx sz α E xs::Jq fw),cf.s.nx+(1+(Jq fw).length),[]⟩|none=>Wx cf.s sz α E xs
section
variable {ρ:Option Nat}{P:Program}{N:Nat}{D0:Dw}{Q:C5}{As:List Ow}{η0:Env}{m0:Mem}
theorem Vy {k:Nat}{cf:Cf}{α:Type}{E:α→List D}{xs:List α}(hE: ∀x,(E x).length=k)(e:VA P cf=some ((xs.flatMap E).map dv,xs.length,k,true)):
  ∃(a:Xh) (rd fw:List Tok),EF cf=some a∧a.g=none∧(∀α' (E':α'→List D) xs',Vz P cf α' E' xs'=⟨.d (.sl α' E' xs'),rd,fw,enO cf.s.nx (Jq fw),cf.s.nx+(Jq fw).length,[]⟩)∧
   (∀sz α' (E':α'→List D) xs',litVO P cf sz α' E' xs'=⟨.ow cf.s.nx,rd,fw,enO cf.s.nx (.row cf.s.nx sz α' E' xs'::Jq fw),cf.s.nx+(1+(Jq fw).length),[]⟩)∧(∀p∈fw++rd,p∈cf.s.ob)∧(tids (fw++rd)).Nodup∧rd.all (fun p=>OP p.2)=true∧
   ∀rest Q η m f w As,(∀t,Rel η m (get a.sl t) (f t))→St m (reps η m (fw++rd)++As) w→
    (∀(m1:Mem) v w' cs,m≤m1→(∀p∈fw,∃v,η p.2.nm=some v∧FR m1 (GM p.2) v)→(∀p∈rd,∃v,η p.2.nm=some v∧FR m1 (GM p.2) v)→FRL m1 (xs.flatMap E) cs→St m1 (Gw.row k v cs xs.length::As) w'→wpl ρ P N D0 a.l.toArray rest Q (upo N f a.o.dst v) w')→
    wpl ρ P N D0 a.l.toArray (a.o::rest) Q f w:=by
 unfold VA at e;cases hp:TF P cf with
 |none=>rw[hp]at e; cases e
 |some r=>
  obtain⟨cs,n,sz,b,rd,fw⟩:=r;rw[hp]at e;simp only[Option.map_some,Option.some.injEq,Prod.mk.injEq]at e;obtain⟨ec,en,ek,eb⟩:=e;have hp0:=hp;unfold TF at hp;split at hp
  ·rename_i a ha;split at hp
   ·rename_i t n' parts hg hop;split at hp
    ·rename_i e hu;split at hp
     ·rename_i i hi;split at hp
      ·rename_i z cs' rd' fw' hz hcs;simp only[Option.some.injEq,Prod.mk.injEq]at hp;obtain⟨q1,q2,q3,q4,q5,q6⟩:=hp;subst q1 q2 q3 q5 q6;rw[←q4]at eb;simp only[Bool.and_eq_true]at eb;obtain⟨⟨b1,b2,b3,b4⟩,o1,o2,o3⟩:=eb;have hgd:=Cr ha hg;refine⟨a,rd',fw',ha,hg,fun _ _ _=>by unfold Vz; rw[hp0],fun _ _ _ _=>by unfold litVO; rw[hp0],Mr hcs,FY o1,o2,?_⟩;obtain⟨l,⟨dst,op,ty,pos,af,gd⟩,gg,sl,es⟩:=a;simp only at hop hgd hcs⊢; subst hop hgd;intro rest Q η m f w As hr S hk;rw[Be,List.append_assoc]at S;obtain⟨m1,l1,K1,S2⟩:=H2 o3 S;have S3:=St.ru Env.le_refl l1 S2;obtain⟨K2,S4⟩:=IF o2 S3;have hr1: ∀t,Rel η m1 (get sl t) (f t):=fun t=>(hr t).up Env.le_refl l1;obtain⟨cls,a1,a2,a3⟩:=O4 hr1 hcs K1 K2;have hps:=KS b1;have e0:parts=(((parts.toList.map (·.2)).zipIdx 0).map fun p=>(p.2,p.1)).toArray:=by
        rw[←hps]
       rw[e0];have hlen:((parts.toList.map (·.2)).map (ev f)).length=n':=by simp; exact(Nat.eq_of_beq_eq_true b2).symm
       refine HQ (vs:=(parts.toList.map (·.2)).map (ev f)) (cls:=cls) S4 hu (Cc hi) (LS hi hz) rfl a1 a2 hlen.symm (Nat.le_of_ble_eq_true b3) (Nat.le_of_ble_eq_true b4) fun v w' S'=> ?_;rw[ek,en]at S';rw[ec]at a3;exact hk m1 v w' _ l1 K1 K2 (FRL.ofRelv a3) S'
      ·cases hp
     ·cases hp
    ·cases hp
   ·cases hp
  ·cases hp
theorem Yz (hm:P.follows .mixedOrders=true){n k:Nat}{cf:Cf}{α:Type}{E:α→List D}{xs:List α}(hE: ∀x,(E x).length=k)
  (e:(VA P (adv P N n cf).1,((adv P N n cf).2++A3 (adv P N n cf).1).map (·.1))=(some ((xs.flatMap E).map dv,xs.length,k,true),((adv P N n cf).2++A3 (adv P N n cf).1).map (·.2)))
  (g:Go ρ P N D0 Q As η0 m0 (push N (adv P N n cf).1 (Vz P (adv P N n cf).1 α E xs))):Go ρ P N D0 Q As η0 m0 cf:=by
 simp only[Prod.mk.injEq]at e;obtain⟨e1,e3⟩:=e;obtain⟨he1,-⟩:=EqsOk.two e3;refine BA hm he1 ?_;generalize (adv P N n cf).1=c0 at*;obtain⟨a,rd,fw,ha,hg,hS,-,hsub,hnd,ho2,run⟩:=Vy (ρ:=ρ) (N:=N) (D0:=D0) hE e1;rw[hS]at g;refine E2 ha hg ⟨Nat.le_add_right _ _,fun rest Q η m f w As hr hz hn S hk=> ?_⟩ ⟨hsub,hnd,?_,fun t ht=> ?_⟩ g
 ·refine run rest Q η m f w As hr S fun m1 v w' cs l1 K1 K2 hc S'=> ?_;letI:=Ki E k;obtain⟨m2,l2,h5,S2⟩:=St.rowKeepT (i:=0) S' rfl (QB hc fun x _=>hE x) rfl;have F1: ∀p∈fw,∃v,η p.2.nm=some v∧FR m2 (GM p.2) v:=fun p hp=>let ⟨v,a,b⟩:=K1 p hp; ⟨v,a,b.up l2⟩;have F2: ∀p∈rd,∃v,η p.2.nm=some v∧FR m2 (GM p.2) v:=fun p hp=>let ⟨v,a,b⟩:=K2 p hp; ⟨v,a,b.up l2⟩;refine hk η m2 w' v Env.le_refl (Mem.tr l1 l2) (fun n h=> .inl h) (.d (On h5)) ?_;rw[Be,List.append_assoc,GW];exact Il F1 (Im ho2 F2 S2)
 ·simp only; rw[Ec]; exact List.nodup_range'
 ·simp only at ht⊢;rw[Ec,List.mem_range']at ht;obtain⟨i2,hi2,rfl⟩:=ht;omega
theorem PJ: ∀{L:List Value},(∀v∈L,v.oneCell'=true)→RT L
 | [],_=>trivial
 |a::l,h=>⟨h a List.mem_cons_self,PJ fun v hv=>h v (List.mem_cons_of_mem _ hv)⟩
def SN (ob:List Tok)(n:Nat):Option (D×Nat×Tok):=match find n ob with|some (i,.row k sz α E xs)=>bif Nat.beq k n then some (.sl α E xs,sz,(i,.row k sz α E xs))else none|_=>none
theorem Kc {ob:List Tok}{n sz:Nat}{d:D}{p:Tok}(h:SN ob n=some (d,sz,p)):p∈ob∧∃i α E xs,d= .sl α E xs∧p=(i,AObj.row n sz α E xs):=by
 unfold SN at h;split at h
 ·rename_i i k sz' α E xs hf;cases hb:Nat.beq k n
  ·rw[hb]at h; cases h
  ·rw[hb]at h; cases h;have:=Nat.eq_of_beq_eq_true hb; subst this;exact⟨Ex hf,i,α,E,xs,rfl,rfl⟩
 ·cases h
def P0 (P:Program)(cf:Cf):Option (D×Int×Nat×Nat×Bool×Tok):=
 match EF cf with
 |some a=>match a.o.op with
  | .indexAddr t x y=>match aev a.sl x,Jo a.sl y,P.underlying t with
   | .ow n,some (_,j),some (.slice e)=>match HA P e,SN cf.s.ob n with
    |some i,some (d,sz,p)=>some (d,j,sz,n,Nat.beq i.sz sz,p)
    |_,_=>none
   |_,_,_=>none
  |_=>none
 |none=>none
def TZ (P:Program)(cf:Cf):List Tok:=match P0 P cf with|some (_,_,_,_,_,p)=> [p]|none=> []
def TY (P:Program)(cf:Cf):AV:=match P0 P cf with|some (_,j,sz,n,_,_)=> .pe n j sz 0|none=> .any
theorem YC (hm:P.follows .mixedOrders=true){n:Nat}{cf:Cf}{α:Type}{E:α→List D}{xs:List α}{j:Int}{x:α}(hq:gOf (adv P N n cf).1=true→idx xs j=some x)
  (e:((P0 P (adv P N n cf).1).map (fun r=>(r.1,r.2.1,r.2.2.2.2.1)),((adv P N n cf).2++A3 (adv P N n cf).1).map (·.1))=(some (.sl α E xs,j,true),((adv P N n cf).2++A3 (adv P N n cf).1).map (·.2)))
  (g:Go ρ P N D0 Q As η0 m0 (A9 N (adv P N n cf).1 (TY P (adv P N n cf).1) (TZ P (adv P N n cf).1))):Go ρ P N D0 Q As η0 m0 cf:=by
 simp only[Prod.mk.injEq]at e;obtain⟨e1,e3⟩:=e;obtain⟨he1,he2⟩:=EqsOk.two e3;refine BA hm he1 ?_;generalize (adv P N n cf).1=c0 at*;cases hk:P0 P c0 with
 |none=>rw[hk]at e1; cases e1
 |some r=>
  obtain⟨d,j',sz,nn,ok,p⟩:=r;have hT:TZ P c0=[p]:=by unfold TZ; rw[hk]
  have hV:TY P c0= .pe nn j' sz 0:=by unfold TY; rw[hk]
  rw[hT,hV]at g;rw[hk]at e1;simp only[Option.map_some,Option.some.injEq,Prod.mk.injEq]at e1;obtain⟨e1,e2,e4⟩:=e1;subst e1 e2 e4;unfold P0 at hk;split at hk
  ·rename_i a ha;rw[CU ha]at he2;split at hk
   ·rename_i t x' y hop;split at hk
    ·rename_i n' kk jj e' h1 h2 h3;split at hk
     ·rename_i i d' sz' p' hi hrow;simp only[Option.some.injEq,Prod.mk.injEq]at hk;obtain⟨q1,q2,q3,q4,q5,q6⟩:=hk;subst q1 q2 q3 q4 q6;obtain⟨hmem,i0,α',E',xs',hd,hp⟩:=Kc hrow;cases hd; subst hp;refine CT ha he2 ⟨fun x hx=>by simp at hx; subst hx; exact hmem,by simp[tids]⟩ (fun hp=> ?_) g;have q:=hq (H0 ha hp);obtain⟨l,⟨dst,op,ty,pos,af,gd⟩,gg,sl,es⟩:=a;simp only at hop⊢; subst hop;refine⟨Nat.le_refl _,fun rest Q η m f w As hr hz hn S hk=> ?_⟩;have S':St m (rep η m (.row n' sz' α E xs)::As) w:=S;obtain⟨v,cs,a1,a2,a3,a4,S1⟩:=St.openRow S';have rx:=Ao hr x'; rw[h1]at rx;have ex:=rx.ow_inv.1;rw[a1]at ex;have hr2:=Ew q;refine s_idxO (i:=0) (j:=jj) S1 (Option.some.inj ex).symm (BR h2 hr) rfl hr2.1 hr2.2 h3 (by rw[←Nat.eq_of_beq_eq_true q5]; exact Cc hi) fun p hp=> ?_;exact hk η m w p Env.le_refl (Mem.rfl' m) (fun n h=> .inl h) (.pe a1 hp) S
     ·cases hk
    ·cases hk
   ·cases hk
  ·cases hk
def ldOP (P:Program)(cf:Cf):Option (D×Int×Nat×Nat×Bool×Nat×Bool×Tok):=
 match EF cf with
 |some a=>match a.o.op with
  | .load t x=>match aev a.sl x,HA P t with
   | .pe n j sz fo,some i=>match SN cf.s.ob n with
    |some (d,sz',p)=>some (d,j,fo,i.sz,i.agg,sz,Nat.beq sz sz'&&(Nat.ble (fo+i.sz) sz&&(i.agg||Nat.beq i.sz 1)),p)
    |none=>none
   |_,_=>none
  |_=>none
 |none=>none
def ldOT (P:Program)(cf:Cf):List Tok:=match ldOP P cf with|some (_,_,_,_,_,_,_,p)=> [p]|none=> []
theorem go_ldO (hm:P.follows .mixedOrders=true){n k fo nn:Nat}{ag:Bool}{cf:Cf}{α:Type}{E:α→List D}{xs:List α}{j:Int}{x:α}(hE: ∀x,(E x).length=k)(hq:gOf (adv P N n cf).1=true→idx xs j=some x)
  (e:((ldOP P (adv P N n cf).1).map (fun r=>(r.1,r.2.1,r.2.2.1,r.2.2.2.1,r.2.2.2.2.1,r.2.2.2.2.2.1,r.2.2.2.2.2.2.1)),((adv P N n cf).2++A3 (adv P N n cf).1).map (·.1))=(some (.sl α E xs,j,fo,nn,ag,k,true),((adv P N n cf).2++A3 (adv P N n cf).1).map (·.2)))
  (g:Go ρ P N D0 Q As η0 m0 (A9 N (adv P N n cf).1 (pkA ag ((((E x).drop fo).take nn).map .d)) (ldOT P (adv P N n cf).1))):Go ρ P N D0 Q As η0 m0 cf:=by
 simp only[Prod.mk.injEq]at e;obtain⟨e1,e3⟩:=e;obtain⟨he1,he2⟩:=EqsOk.two e3;refine BA hm he1 ?_;generalize (adv P N n cf).1=c0 at*;cases hk:ldOP P c0 with
 |none=>rw[hk]at e1; cases e1
 |some r=>
  obtain⟨d,j',fo',nn',ag',k',ok,p⟩:=r;have hT:ldOT P c0=[p]:=by unfold ldOT; rw[hk]
  rw[hT]at g;rw[hk]at e1;simp only[Option.map_some,Option.some.injEq,Prod.mk.injEq]at e1;obtain⟨e1,e2,e4,e5,e6,e7,e8⟩:=e1;subst e1 e2 e4 e5 e6 e7 e8;unfold ldOP at hk;split at hk
  ·rename_i a ha;rw[CU ha]at he2;split at hk
   ·rename_i t x' hop;split at hk
    ·rename_i n' jj sz fo2 i h1 hi;split at hk
     ·rename_i d' sz' p' hrow;simp only[Option.some.injEq,Prod.mk.injEq]at hk;obtain⟨q1,q2,q3,q4,q5,q6,q7,q8⟩:=hk;subst q1 q2 q3 q4 q5 q6 q8;simp only[Bool.and_eq_true,Bool.or_eq_true]at q7;obtain⟨b1,b2,b3⟩:=q7;have b1:=Nat.eq_of_beq_eq_true b1;have b2:=Nat.le_of_ble_eq_true b2;obtain⟨hmem,i0,α',E',xs',hd,hp⟩:=Kc hrow;cases hd; subst hp;subst b1;refine CT ha he2 ⟨fun x hx=>by simp at hx; subst hx; exact hmem,by simp[tids]⟩ (fun hp=> ?_) g;have q:=hq (H0 ha hp);obtain⟨l,⟨dst,op,ty,pos,af,gd⟩,gg,sl,es⟩:=a;simp only at hop⊢; subst hop;refine⟨Nat.le_refl _,fun rest Q η m f w As hr hz hn S hk=> ?_⟩;have S':St m (rep η m (.row n' sz α E xs)::As) w:=S;obtain⟨v,cs,a1,a2,a3,a4,S1⟩:=St.openRow S';have rx:=Ao hr x'; rw[h1]at rx;obtain⟨v',hv',hp'⟩:=rx.pe_inv;rw[a1]at hv'; cases hv';letI:=Ki E sz;have hrep:GoT.rep m ((cs.drop (jj.toNat*sz)).take sz) x:=By.getI (QB a3 a4) q;have hf:FRL m (E x) ((cs.drop (jj.toNat*sz)).take sz):=hrep.1;have hseg:=(hf.drop fo2).take i.sz;have hd:((((cs.drop (jj.toNat*sz)).take sz).drop fo2).take i.sz)=(cs.drop (jj.toNat*sz+fo2)).take i.sz:=by
       rw[List.drop_take,List.take_take,List.drop_drop,Nat.min_eq_left (by omega)]
      have hlE:(((E x).drop fo2).take i.sz).length=i.sz:=by rw[List.length_take,List.length_drop,hE x]; omega
      have hlen:((cs.drop (jj.toNat*sz+fo2)).take i.sz).length=i.sz:=by rw[←hd,←hseg.1,hlE]
      have h1':i.agg=false→i.sz=1:=fun e=>by
       rcases b3 with z|z
       ·rw[e]at z; cases z
       ·exact Nat.eq_of_beq_eq_true z
      rw[hd]at hseg;refine s_ldO (i:=0) (d:=(cs.drop (jj.toNat*sz+fo2)).take i.sz) S1 rfl hp' rfl (by rw[hlen]) (IY hi) (by rw[hlen]; exact Cc hi) (fun e=>by rw[hlen,h1' e]) ?_;exact hk η m w _ Env.le_refl (Mem.rfl' m) (fun n h=> .inl h) (Nn (.ofD hseg) fun e=>by rw[List.length_map,hlE,h1' e]) S
     ·cases hk
    ·cases hk
   ·cases hk
  ·cases hk
def Va (P:Program)(cf:Cf):Option (D×Int×Nat×List AV×Nat×Bool×Nat×Tok×List Tok×List Tok):=
 match EF cf with
 |some a=>match a.g,a.o.op with
  |none,.store t x y=>match aev a.sl x,Jk (aev a.sl y),HA P t with
   | .pe n j sz fo,some ds,some i=>match SN cf.s.ob n with
    |some (d,sz',p)=>some (d,j,fo,(Cq cf.s.ob ds).1,sz,(Nat.beq sz sz'&&Nat.beq i.sz ds.length)&&(NX (tids ((p::(Cq cf.s.ob ds).2.2)++(Cq cf.s.ob ds).2.1))&&((Cq cf.s.ob ds).2.1.all (fun p=>OP p.2)&&(Cq cf.s.ob ds).2.2.all (fun p=>GZ p.2))),n,p,(Cq cf.s.ob ds).2.1,(Cq cf.s.ob ds).2.2)
    |none=>none
   |_,_,_=>none
  |_,_=>none
 |none=>none
def Wn (P:Program)(cf:Cf)(sz:Nat)(α:Type)(E:α→List D)(xs:List α):Stp:=match Va P cf with|some (_,_,_,_,_,_,n,p,rd,fw)=>⟨.no,rd,p::fw,enO cf.s.nx (.row n sz α E xs::Jq fw),cf.s.nx+(1+(Jq fw).length),[]⟩|none=>Wx cf.s sz α E xs
theorem go_stO (hm:P.follows .mixedOrders=true){n k:Nat}{cf:Cf}{α:Type}{E:α→List D}{xs:List α}{j:Int}{z0 z:α}(hE: ∀x,(E x).length=k)(hq:idx xs j=some z0)
  (e:((Va P (adv P N n cf).1).map (fun r=>(r.1,r.2.1,r.2.2.1,r.2.2.2.1,r.2.2.2.2.1,r.2.2.2.2.2.1)),((adv P N n cf).2++A3 (adv P N n cf).1).map (·.1))=(some (.sl α E xs,j,0,(E z).map dv,k,true),((adv P N n cf).2++A3 (adv P N n cf).1).map (·.2)))
  (g:Go ρ P N D0 Q As η0 m0 (push N (adv P N n cf).1 (Wn P (adv P N n cf).1 k α E (xs.set j.toNat z)))):Go ρ P N D0 Q As η0 m0 cf:=by
 simp only[Prod.mk.injEq]at e;obtain⟨e1,e3⟩:=e;obtain⟨he1,-⟩:=EqsOk.two e3;refine BA hm he1 ?_;generalize (adv P N n cf).1=c0 at*;cases hk:Va P c0 with
 |none=>rw[hk]at e1; cases e1
 |some r=>
  obtain⟨d,j',fo,ds,k',ok,nn,p,rd,fw⟩:=r;have hS:Wn P c0 k α E (xs.set j.toNat z)=⟨.no,rd,p::fw,enO c0.s.nx (.row nn k α E (xs.set j.toNat z)::Jq fw),c0.s.nx+(1+(Jq fw).length),[]⟩:=by unfold Wn; rw[hk]
  rw[hS]at g;rw[hk]at e1;simp only[Option.map_some,Option.some.injEq,Prod.mk.injEq]at e1;obtain⟨e1,e2,e4,e5,e6,e7⟩:=e1;subst e1 e2 e4 e6 e7;unfold Va at hk;split at hk
  ·rename_i a ha;split at hk
   ·rename_i t x y hg hop;split at hk
    ·rename_i n' jj sz fo2 ds0 i h1 h2 hi;split at hk
     ·rename_i d' sz' p' hrow;simp only[Option.some.injEq,Prod.mk.injEq]at hk;obtain⟨q1,q2,q3,q4,q5,q6,q7,q8,q9,q10⟩:=hk;subst q1 q2 q3 q5 q7 q8 q9 q10;simp only[Bool.and_eq_true]at q6;obtain⟨⟨b1,b2⟩,b3,b4,b5⟩:=q6;have b1:=Nat.eq_of_beq_eq_true b1;have b2:=Nat.eq_of_beq_eq_true b2;obtain⟨hmem,i0,α',E',xs',hd,hp⟩:=Kc hrow;cases hd; subst hp;subst b1;have hgd:=Cr ha hg;have csub:=Io (ob:=c0.s.ob) (cs:=ds0);refine E2 ha hg ?_ ?_ g
      ·obtain⟨l,⟨dst,op,ty,pos,af,gd⟩,gg,sl,es⟩:=a;simp only at hop hgd h1 h2⊢; subst hop hgd;refine⟨Nat.le_add_right _ _,fun rest Q η m f w As hr hfz hn S hk=> ?_⟩;simp only at S hk hn;rw[Be,List.append_assoc]at S;have S0:St m (rep η m (.row n' sz α E xs)::(reps η m (Cq c0.s.ob ds0).2.2++(reps η m (Cq c0.s.ob ds0).2.1++As))) w:=S;have S1:=S0.perm List.perm_middle.symm;obtain⟨m1,l1,K1,S2⟩:=H2 b5 S1;obtain⟨v,cs,a1,a2,a3,a4,S3⟩:=St.openRow (m:=m1) (St.imp0 S2 fun h hh=>rep.up Env.le_refl l1 hh);have S4:=S3.perm List.perm_middle.symm;have S5:=St.ru Env.le_refl l1 S4;obtain⟨K2,S6⟩:=IF b4 S5;have hr1: ∀t,Rel η m1 (get sl t) (f t):=fun t=>(hr t).up Env.le_refl l1;obtain⟨c1,c2⟩:=FQ h2 (Ao hr1 y);have c3:=H6 c1 K1 K2;rw[q4,e5]at c3;have c4:=FRL.ofRelv c3;have rx:=Ao hr1 x; rw[h1]at rx;obtain⟨v',hv',hp'⟩:=rx.pe_inv;rw[a1]at hv'; cases hv';letI:=Ki E sz;have hsz:(ev f y).cells.size=ds0.length:=by rw[c1.1]; simp
       refine Wo (α:=α) (i:=0) (z:=z) S6 rfl rfl (by rw[Nat.add_zero]at hp'; exact hp') rfl (QB a3 a4) hq (by rw[hsz,←b2]; exact Cc hi) (PJ c4.one) ⟨c4,hE z⟩ fun w' cs' S7 hrep=> ?_;have hrep':=SV hrep;refine hk η m1 w' undef Env.le_refl l1 (fun n h=> .inl h) .no ?_;rw[Be,List.append_assoc,GW];show St m1 (rep η m1 (.row n' sz α E (xs.set jj.toNat z))::((Jq (Cq c0.s.ob ds0).2.2).map (rep η m1)++(reps η m1 (Cq c0.s.ob ds0).2.1++As))) w';have T1:=St.closeRow (η:=η) (n:=n') a1 a2 hrep'.1 hrep'.2 S7;have T2:=Il K1 (Im b4 K2 T1);exact T2.perm ((List.Perm.append_left _ List.perm_middle).trans List.perm_middle)
      ·refine⟨fun q hq=> ?_,FY b3,?_,fun t ht=> ?_⟩
       ·simp only[List.cons_append,List.mem_cons]at hq;rcases hq with h|h
        ·subst h; exact hmem
        ·exact csub q h
       ·simp only; rw[Ec]; exact List.nodup_range'
       ·simp only at ht⊢;rw[Ec,List.mem_range']at ht;obtain⟨i2,hi2,rfl⟩:=ht;simp only[List.length_cons]at hi2;omega
     ·cases hk
    ·cases hk
   ·cases hk
  ·cases hk
def PS (a b:Sl):Prop:= ∀(t:Nat) (η:Env) (m:Mem) (v:Value),Rel η m (get a t) v→Rel η m (get b t) v
theorem PS.rst {a b:Sl}(p:PS a b): ∀(ts:List Nat),PS (rst ts a) (rst ts b)
 | [],_,_,_,_,_=> .any _
 |x::ts,t,η,m,v,h=>by
  have h':Rel η m (bif Nat.beq x t then get a x else get (Ax.rst ts a) t) v:=h;show Rel η m (bif Nat.beq x t then get b x else get (Ax.rst ts b) t) v;cases hb:Nat.beq x t
  ·rw[hb]at h'; exact PS.rst p ts t η m v h'
  ·rw[hb]at h'; exact p x η m v h'
theorem PS.setS {a b:Sl}(p:PS a b)(N:Nat)(d:Option Nat)(x:AV):PS (setS N a d x) (setS N b d x):=fun t η m v h=>by
 cases d with
 |none=>exact p t η m v h
 |some d=>
  unfold Ax.setS at*;cases hb:Nat.blt d N
  ·simp only[hb,cond_false]at h⊢; exact p t η m v h
  ·simp only[hb,cond_true,get]at h⊢;cases hq:Nat.beq d t
   ·rw[hq]at h; exact p t η m v h
   ·rw[hq]at h; exact h
theorem Xi {ops:Array Oper}{F:AS→List (Oper×Stp)→Prop}(hF: ∀(a b:Sl) ob fz nx h,PS a b→F ⟨b,ob,fz,nx⟩ h→F ⟨a,ob,fz,nx⟩ h):
  ∀{l:List Oper} {a b:Sl} {ob:List Tok} {fz:Fz} {nx:Nat} {h:List (Oper×Stp)},PS a b→FT ρ P N D0 ops F l ⟨b,ob,fz,nx⟩ h→FT ρ P N D0 ops F l ⟨a,ob,fz,nx⟩ h
 | [],a,b,ob,fz,nx,h,p,g=>hF a b ob fz nx h p g
 |o::l,a,b,ob,fz,nx,h,p,⟨r,t1,t2,t3⟩=>
  ⟨r,⟨t1.1,fun rest Q η m f w As hr=>t1.2 rest Q η m f w As fun t=>(p.rst _) t η m _ (hr t)⟩,⟨t2.sub,t2.nd,t2.mnd,t2.mlt⟩,Xi hF (p.setS N o.dst r.v) t3⟩
theorem Pz: ∀{rs:D2} {a b:Sl} {ob:List Tok} {fz:Fz} {nx:Nat},PS a b→PS (E7 N ⟨a,ob,fz,nx⟩ rs).sl (E7 N ⟨b,ob,fz,nx⟩ rs).sl∧(E7 N ⟨a,ob,fz,nx⟩ rs).nx=(E7 N ⟨b,ob,fz,nx⟩ rs).nx
 | [],_,_,_,_,_,p=>⟨p,rfl⟩
 |r::rs,a,b,ob,fz,nx,p=>Pz (rs:=rs) (p.setS N r.1.dst r.2.v)
theorem W7: ∀{rs:D2} {a b:Sl} {ob:List Tok} {fz:Fz} {nx:Nat},Ch0 N ⟨b,ob,fz,nx⟩ rs→Ch0 N ⟨a,ob,fz,nx⟩ rs
 | [],_,_,_,_,_,_=>trivial
 |r::rs,a,b,ob,fz,nx,c=>⟨c.1,⟨c.2.1.sub,c.2.1.nd,c.2.1.mnd,c.2.1.mlt⟩,W7 (rs:=rs) (b:=Ax.setS N b r.1.dst r.2.v) c.2.2⟩
theorem FP_sub {a b:Sl}{ob:List Tok}{fz:Fz}{nx:Nat}{Q:C5}{l rest:List Oper}{h:D2}(p:PS a b)(g:FP ρ P N D0 As m0 Q l rest ⟨b,ob,fz,nx⟩ h):FP ρ P N D0 As m0 Q l rest ⟨a,ob,fz,nx⟩ h:=by
 obtain⟨rs,bad,k,q,h1,h2,h3,h4,h5,h6,h7,h8,h9⟩:=g;refine⟨rs,bad,k,q,h1,W7 h2,fun i r hr hb=> ?_,h4,h5,h6,h7,h8,?_⟩
 ·obtain⟨t1,t2⟩:=h3 i r hr hb;obtain⟨p1,p2⟩:=Pz (N:=N) (rs:=rs.take i) (ob:=ob) (fz:=fz) (nx:=nx) p;rw[p2];exact⟨t1,fun rest Q η m f w As hr=>t2 rest Q η m f w As fun t=>(p1.rst _) t η m _ (hr t)⟩
 ·obtain⟨p1,p2⟩:=Pz (N:=N) (rs:=rs.take k) (ob:=ob) (fz:=fz) (nx:=nx) p;exact fun η m f w Bs x y z u=>h9 η m f w Bs (fun t=>(p1.rst _) t η m _ (x t)) y z u
def setK (g:Nat)(v:Bool)(cf:Cf):Cf:=⟨⟨(g,.d (.v (.bool v)))::cf.s.sl,cf.s.ob,cf.s.fz,cf.s.nx⟩,cf.md,cf.K⟩
theorem Mm {a b:Sl}{ob:List Tok}{fz:Fz}{nx:Nat}(p:PS a b){η:Env}{m:Mem}{f:Fr}{w:World}(g:Gm As ⟨a,ob,fz,nx⟩ η m f w):Gm As ⟨b,ob,fz,nx⟩ η m f w:=
 ⟨fun t=>p t η m _ (g.slr t),g.fz,g.dom,g.st,⟨g.wf.nd,g.wf.lt⟩⟩
theorem Sw {g:Nat}{v:Bool}{cf:Cf}(h:get cf.s.sl g= .d (.t v))(k:Go ρ P N D0 Q As η0 m0 (setK g v cf)):Go ρ P N D0 Q As η0 m0 cf:=by
 obtain⟨⟨sl,ob,fz,nx⟩,md,K⟩:=cf;have p:PS sl ((g,.d (.v (.bool v)))::sl):=fun t η m u r=>by
  show Rel η m (bif Nat.beq g t then _ else get sl t) u;cases hb:Nat.beq g t
  ·exact r
  ·have:=Nat.eq_of_beq_eq_true hb; subst this;simp only at h;rw[h]at r;rw[r.t_inv];exact .d (.v _ rfl)
 cases md with
 |code c=>exact fun η m f w a b gm=>k η m f w a b (Mm p gm)
 |pop=>exact fun η m f w a b gm=>k η m f w a b (Mm p gm)
 |ext id=>exact fun η m f w a b gm=>k η m f w a b (Mm p gm)
 |ret=>exact fun η m f w a b gm=>k η m f w a b (Mm p gm)
 |ops dr l rest hh=>
  rcases k with k|⟨hd,k⟩|⟨hd,k⟩;rotate_right
  ·exact .inr (.inr ⟨hd,FP_sub p k⟩)
  ·exact .inl (Xi (fun a b ob fz nx h p F=>⟨F.1,fun η m f w x y gm=>F.2 η m f w x y (Mm p gm)⟩) p k)
  ·exact .inr (.inl ⟨hd,fun η m f w a b gm=>k η m f w a b (Mm p gm)⟩)
def atG (g:Nat)(cf:Cf):Bool:=
 match cf.md with
 | .ops _ l (o::_) _=>match o.guard with
  |some (j,_)=>match P7 l.toArray j with
   |some g'=>Nat.beq g' g
   |none=>false
  |none=>false
 |_=>false
def LL (g:Nat)(P:Program)(N:Nat):Nat→Cf→Cf×Eqs
 |0,cf=>(cf,[])
 |n+1,cf=>bif atG g cf then(cf,[])else match nxt P N cf with
  |some r=>let q:=LL g P N n r.1; (q.1,r.2++q.2)
  |none=>(cf,[])
theorem UI {id:Nat}(hm:P.follows .mixedOrders=true): ∀{n:Nat} {cf:Cf},EqsOk (LL id P N n cf).2→Go ρ P N D0 Q As η0 m0 (LL id P N n cf).1→Go ρ P N D0 Q As η0 m0 cf
 |0,_,_,g=>g
 |n+1,cf,he,g=>by
  cases hb:atG id cf with
  |true=>
   have e:LL id P N (n+1) cf=(cf,[]):=by simp only[LL,hb,cond_true]
   rw[e]at g; exact g
  |false=>
   cases hr:nxt P N cf with
   |none=>
    have e:LL id P N (n+1) cf=(cf,[]):=by simp only[LL,hr,hb,cond_false]
    rw[e]at g; exact g
   |some r=>
    have e:LL id P N (n+1) cf=((LL id P N n r.1).1,r.2++(LL id P N n r.1).2):=by simp only[LL,hr,hb,cond_false]
    rw[e]at g he;have he':=EqsOk.app.1 he;exact OG hm hr he'.1 (UI hm (n:=n) he'.2 g)
theorem go_spl {g:Nat}(hm:P.follows .mixedOrders=true){n:Nat}{cf:Cf}{b:Bool}(e:(get (LL g P N n cf).1.s.sl g,((LL g P N n cf).2).map (·.1))=(.d (.t b),((LL g P N n cf).2).map (·.2)))
  (h1:b=true→Go ρ P N D0 Q As η0 m0 (setK g true (LL g P N n cf).1)) (h0:b=false→Go ρ P N D0 Q As η0 m0 (setK g false (LL g P N n cf).1)):Go ρ P N D0 Q As η0 m0 cf:=by
 simp only[Prod.mk.injEq]at e;obtain⟨e1,e3⟩:=e;refine UI hm (.of e3) ?_;cases b with
 |true=>exact Sw e1 (h1 rfl)
 |false=>exact Sw e1 (h0 rfl)
def idxVP (P:Program)(cf:Cf):Option (List AV×Int×Nat×Nat×Bool×Bool):=
 match EF cf with
 |some a=>match a.o.op with
  | .index t x y=>match aev a.sl x,Jo a.sl y,P.underlying t with
   | .agg cs,some (_,j),some (.array n e)=>match HA P e with
    |some i=>some (cs,j,n,i.sz,i.agg,i.agg||Nat.beq i.sz 1)
    |none=>none
   |_,_,_=>none
  |_=>none
 |none=>none
theorem VO (hm:P.follows .mixedOrders=true){n k:Nat}{cf:Cf}{α:Type}{E:α→List D}{xs:List α}(hE: ∀x,(E x).length=k)
  (e:((litG P (adv P N n cf).1).map (fun r=>((cvL [] ((xs.flatMap E).map dv) r.1).1,r.2)),((adv P N n cf).2++A3 (adv P N n cf).1).map (·.1))=(some ((xs.flatMap E).map dv,xs.length,k,true),((adv P N n cf).2++A3 (adv P N n cf).1).map (·.2)))
  (g:Go ρ P N D0 Q As η0 m0 (A9 N (adv P N n cf).1 (.d (.sl α E xs)) [])):Go ρ P N D0 Q As η0 m0 cf:=by
 simp only[Prod.mk.injEq]at e;obtain⟨e1,e3⟩:=e;obtain⟨he1,he2⟩:=EqsOk.two e3;refine BA hm he1 ?_;generalize (adv P N n cf).1=c0 at*;unfold litG at e1;split at e1
 ·rename_i a ha;rw[CU ha]at he2;split at e1
  ·rename_i t n parts hop;split at e1
   ·rename_i e hu;split at e1
    ·rename_i i hi;split at e1
     ·rename_i z cs hz hcs;simp only[Option.map_some,Option.some.injEq,Prod.mk.injEq,Bool.and_eq_true]at e1;obtain⟨ec,en,ek,b1,b2,b3,b4⟩:=e1;refine CT (rd:=[]) ha he2 ⟨fun _ h=>(by cases h),List.nodup_nil⟩ (fun _=> ?_) g;obtain⟨l,⟨dst,op,ty,pos,af,gd⟩,gg,sl,es⟩:=a;simp only at hop hcs⊢; subst hop;refine⟨Nat.le_refl _,fun rest Q η m f w As hr hfz hn S hk=> ?_⟩;obtain⟨cls,a1,a2,a3⟩:=Jj hr hfz hcs;have hp:=KS b1;have e0:parts=(((parts.toList.map (·.2)).zipIdx 0).map fun p=>(p.2,p.1)).toArray:=by
       rw[←hp]
      rw[e0];have hlen:((parts.toList.map (·.2)).map (ev f)).length=n:=by simp; exact(Nat.eq_of_beq_eq_true b2).symm
      have S0:St m As w:=S;refine HQ (vs:=(parts.toList.map (·.2)).map (ev f)) (cls:=cls) S0 hu (Cc hi) (LS hi hz) rfl a1 a2 hlen.symm (Nat.le_of_ble_eq_true b3) (Nat.le_of_ble_eq_true b4) fun v w' S'=> ?_;rw[ek,en]at S';replace a3:=NL (ob:=[]) (es:=(xs.flatMap E).map dv) (fun n _ d hd=>by simp[frD,find]at hd) a3;rw[ec]at a3;letI:=Ki E k;obtain⟨m1,l1,h5,S2⟩:=St.rowKeepT (i:=0) S' rfl (QB (FRL.ofRelv a3) fun x _=>hE x) rfl;exact hk η m1 w' v Env.le_refl l1 (fun n h=> .inl h) (.d (On h5)) S2
     ·cases e1
    ·cases e1
   ·cases e1
  ·cases e1
 ·cases e1
end
end Go.Ax
end
section
namespace Go.Ax
open Go Go.Gw
section
variable {ρ:Option Nat}{P:Program}{N:Nat}{D0:Dw}{Q:C5}{As:List Ow}{η0:Env}{m0:Mem}
def T0 (ob:List Tok)(n:Nat):Option (Nat×HK):=match find n ob with|some (i,.hp k q)=>bif Nat.beq k n then some (i,q)else none|_=>none
theorem Lc {ob:List Tok}{n i:Nat}{q:HK}(h:T0 ob n=some (i,q)):(i,AObj.hp n q)∈ob:=by
 unfold T0 at h;split at h
 ·rename_i i' k q' hf;cases hb:Nat.beq k n
  ·rw[hb]at h; cases h
  ·rw[hb]at h; cases h;have:=Nat.eq_of_beq_eq_true hb; subst this;exact Ex hf
 ·cases h
theorem St.openHp {η:Env}{m:Mem}{n:Nat}{q:HK}{As:List Ow}{w:World}(h:St m (rep η m (.hp n q)::As) w): ∃b,η n=some (hkV q b)∧St m (hkO q m b::As) w:=by
 obtain⟨x,hx,hr⟩:=h.own;obtain⟨h1,h2,⟨b,hb,ho⟩,s,d,e⟩:=hx;exact⟨b,hb,⟨h.os,h.tape,h.output,x,⟨h1,h2,ho,s,d,e⟩,hr⟩⟩
theorem St.closeHp {η:Env}{m:Mem}{n b:Nat}{q:HK}{As:List Ow}{w:World}(a:η n=some (hkV q b))(h:St m (hkO q m b::As) w):St m (rep η m (.hp n q)::As) w:=
 St.imp0 h fun x hx=>⟨b,a,hx⟩
def mkmK (cf:Cf):Bool:=
 match EF cf with
 |some a=>match a.g,a.o.op with
  |none,.makeMap _ none=>true
  |_,_=>false
 |none=>false
theorem go_mkm (hm:P.follows .mixedOrders=true){n:Nat}{cf:Cf}
  (e:(mkmK (adv P N n cf).1,((adv P N n cf).2++A3 (adv P N n cf).1).map (·.1))=(true,((adv P N n cf).2++A3 (adv P N n cf).1).map (·.2)))
  (g:Go ρ P N D0 Q As η0 m0 (push N (adv P N n cf).1 ⟨.ow (adv P N n cf).1.s.nx,[],[],[((adv P N n cf).1.s.nx,.hp (adv P N n cf).1.s.nx (.mp []))],(adv P N n cf).1.s.nx+1,[]⟩)):Go ρ P N D0 Q As η0 m0 cf:=by
 simp only[Prod.mk.injEq]at e;obtain⟨e1,e3⟩:=e;obtain⟨he1,-⟩:=EqsOk.two e3;refine BA hm he1 ?_;generalize (adv P N n cf).1=c0 at*;unfold mkmK at e1;split at e1
 ·rename_i a ha;split at e1
  ·rename_i t hg hop;have hgd:=Cr ha hg;refine E2 ha hg ?_ Nr g;obtain⟨l,⟨dst,op,ty,pos,af,gd⟩,gg,sl,es⟩:=a;simp only at hop hgd⊢; subst hop hgd;refine⟨Nat.le_succ _,fun rest Q η m f w As hr hz hn S hk=> ?_⟩;refine SE S fun b w' S'=> ?_;have h0:=hn c0.s.nx (Nat.le_refl _) (Nat.lt_succ_self _);refine hk (η.put c0.s.nx (.map (some b))) m w' _ (Env.le_put h0) (Mem.rfl' m) (fun n q=> ?_) (.ow Env.put_self rfl) (St.closeHp (q:= .mp []) (b:=b) Env.put_self S');rcases Env.put_dom q with q|q
   ·exact .inl q
   ·subst q; exact .inr ⟨Nat.le_refl _,Nat.lt_succ_self _⟩
  ·cases e1
 ·cases e1
def ND (P:Program)(t:TypeId):Option TypeId:=
 match P.underlying t with
 |some (.map k e)=>match P.underlying k,HA P e with
  |some .string,some i=>match i.z with
   |some (.bool false)=>some e
   |_=>none
  |_,_=>none
 |_=>none
theorem Mk {t e:TypeId}(h:ND P t=some e): ∃k,P.underlying t=some (.map k e)∧P.underlying k=some .string∧∀w,(zeroValue e).run P w= .ok (.bool false) w:=by
 unfold ND at h;split at h
 ·rename_i k e' h1;split at h
  ·rename_i i h2 h3;split at h
   ·rename_i hz; cases h; exact⟨k,h1,h2,LS h3 hz⟩
   ·cases h
  ·cases h
 ·cases h
def lkK (P:Program)(cf:Cf):Option (List (ByteArray×Bool)×ByteArray×List Tok):=
 match EF cf with
 |some a=>match a.o.op with
  | .lookup t x y false=>match ND P t,aev a.sl x,aev a.sl y with
   |some _,.ow n,.d (.s k)=>match T0 cf.s.ob n with
    |some (i,.mp kv)=>some (kv,k,[(i,.hp n (.mp kv))])
    |_=>none
   |_,_,_=>none
  |_=>none
 |none=>none
def lkV (P:Program)(cf:Cf):AV:=match lkK P cf with|some (kv,k,_)=> .d (.t (lkB kv k))|none=> .any
def lkT (P:Program)(cf:Cf):List Tok:=match lkK P cf with|some (_,_,l)=>l|none=> []
theorem one_rd {s:AS}{p:Tok}(h:p∈s.ob):(∀q∈[p],q∈s.ob)∧(tids [p]).Nodup:=⟨fun q hq=>by simp at hq; subst hq; exact h,by simp[tids]⟩
theorem go_lk (hm:P.follows .mixedOrders=true){n:Nat}{cf:Cf}(kv:List (ByteArray×Bool))(k:ByteArray)
  (e:((lkK P (adv P N n cf).1).map (fun r=>(r.1,r.2.1)),((adv P N n cf).2++A3 (adv P N n cf).1).map (·.1))=(some (kv,k),((adv P N n cf).2++A3 (adv P N n cf).1).map (·.2)))
  (g:Go ρ P N D0 Q As η0 m0 (A9 N (adv P N n cf).1 (.d (.t (lkB kv k))) (lkT P (adv P N n cf).1))):Go ρ P N D0 Q As η0 m0 cf:=by
 simp only[Prod.mk.injEq]at e;obtain⟨e1,e3⟩:=e;obtain⟨he1,he2⟩:=EqsOk.two e3;refine BA hm he1 ?_;generalize (adv P N n cf).1=c0 at*;cases hq:lkK P c0 with
 |none=>rw[hq]at e1; cases e1
 |some r=>
  obtain⟨kv',k',rd⟩:=r;have hT:lkT P c0=rd:=by unfold lkT; rw[hq]
  rw[hT]at g;rw[hq]at e1;simp only[Option.map_some,Option.some.injEq,Prod.mk.injEq]at e1;obtain⟨e4,e5⟩:=e1;subst e4 e5;unfold lkK at hq;split at hq
  ·rename_i a ha;rw[CU ha]at he2;split at hq
   ·rename_i t x y hop;split at hq
    ·rename_i et nn kk ht hx hy;split at hq
     ·rename_i i kv2 hh;simp only[Option.some.injEq,Prod.mk.injEq]at hq;obtain⟨rfl,rfl,rfl⟩:=hq;refine CT ha he2 (one_rd (Lc hh)) (fun hp=> ?_) g;obtain⟨l,⟨dst,op',ty,pos,af,gd⟩,gg,sl,es⟩:=a;simp only at hop hx hy⊢; subst hop;refine⟨Nat.le_refl _,fun rest Q η m f w As hr hz hn S hk=> ?_⟩;obtain⟨kt,t1,t2,t3⟩:=Mk ht;have rx:=Ao hr x;rw[hx]at rx;obtain⟨ex,_⟩:=rx.ow_inv;have ry:=Ao hr y;rw[hy]at ry;have S0:St m (rep η m (.hp nn (.mp kv2))::As) w:=S;obtain⟨b,hb,S1⟩:=St.openHp S0;rw[ex]at hb;have hxv:ev f x= .map (some b):=Option.some.inj hb;exact SF (i:=0) S1 hxv ry.s_inv rfl t1 t2 t3 (hk η m w _ Env.le_refl (Mem.rfl' m) (fun n h=> .inl h) (.d (.t _)) (St.closeHp (by rw[ex,hxv]; rfl) S1))
     ·cases hq
    ·cases hq
   ·cases hq
  ·cases hq
def lnK (P:Program)(cf:Cf):Option (List (ByteArray×Bool)×List Tok):=
 match EF cf with
 |some a=>match a.o.op with
  | .call ⟨.builtin .len,⟨[x]⟩,⟨[t]⟩⟩=>match P.underlying t,aev a.sl x with
   |some (.map _ _),.ow n=>match T0 cf.s.ob n with
    |some (i,.mp kv)=>some (kv,[(i,.hp n (.mp kv))])
    |_=>none
   |_,_=>none
  |_=>none
 |none=>none
def lnT (P:Program)(cf:Cf):List Tok:=match lnK P cf with|some (_,l)=>l|none=> []
def upK (P:Program)(cf:Cf):Option (List (ByteArray×Bool)×ByteArray×Bool×Nat×Nat):=
 match EF cf with
 |some a=>match a.g,a.o.op with
  |none,.mapUpdate t x y c=>match ND P t,aev a.sl x,aev a.sl y,aev a.sl c with
   |some _,.ow n,.d (.s k),.d (.t u)=>match T0 cf.s.ob n with
    |some (i,.mp kv)=>some (kv,k,u,i,n)
    |_=>none
   |_,_,_,_=>none
  |_,_=>none
 |none=>none
def upS (P:Program)(cf:Cf):Stp:=match upK P cf with|some (kv,k,u,i,n)=>⟨.no,[],[(i,.hp n (.mp kv))],[(cf.s.nx,.hp n (.mp (kv++[(k,u)])))],cf.s.nx+1,[]⟩|none=>⟨.any,[],[],[],cf.s.nx,[]⟩
theorem M7 {s:AS}{v:AV}{p:Tok}{o:AObj}(h:p∈s.ob):HC s ⟨v,[],[p],[(s.nx,o)],s.nx+1,[]⟩:=
 ⟨fun x hx=>by simp at hx; subst hx; exact h,by simp[tids],by simp[tids],fun t ht=>by simp[tids]at ht; subst ht; exact⟨Nat.le_refl _,Nat.lt_succ_self _⟩⟩
theorem go_up (hm:P.follows .mixedOrders=true){n:Nat}{cf:Cf}{kv:List (ByteArray×Bool)}{k:ByteArray}(hn:(lkI kv k 0).isNone=true)
  (e:((upK P (adv P N n cf).1).map (fun r=>(r.1,r.2.1)),((adv P N n cf).2++A3 (adv P N n cf).1).map (·.1))=(some (kv,k),((adv P N n cf).2++A3 (adv P N n cf).1).map (·.2)))
  (g:Go ρ P N D0 Q As η0 m0 (push N (adv P N n cf).1 (upS P (adv P N n cf).1))):Go ρ P N D0 Q As η0 m0 cf:=by
 simp only[Prod.mk.injEq]at e;obtain⟨e1,e3⟩:=e;obtain⟨he1,-⟩:=EqsOk.two e3;refine BA hm he1 ?_;generalize (adv P N n cf).1=c0 at*;cases hq:upK P c0 with
 |none=>rw[hq]at e1; cases e1
 |some r=>
  obtain⟨kv',k',u,i,nn⟩:=r;have hT:upS P c0=⟨.no,[],[(i,.hp nn (.mp kv'))],[(c0.s.nx,.hp nn (.mp (kv'++[(k',u)])))],c0.s.nx+1,[]⟩:=by unfold upS; rw[hq]
  rw[hT]at g;rw[hq]at e1;simp only[Option.map_some,Option.some.injEq,Prod.mk.injEq]at e1;obtain⟨e4,e5⟩:=e1;subst e4 e5;unfold upK at hq;split at hq
  ·rename_i a ha;split at hq
   ·rename_i t x y c hg hop;split at hq
    ·rename_i et n2 kk u2 ht hx hy hc;split at hq
     ·rename_i i2 kv2 hh;simp only[Option.some.injEq,Prod.mk.injEq]at hq;obtain⟨rfl,rfl,rfl,rfl,rfl⟩:=hq;have hgd:=Cr ha hg;refine E2 ha hg ?_ (M7 (Lc hh)) g;obtain⟨l,⟨dst,op',ty,pos,af,gd⟩,gg,sl,es⟩:=a;simp only at hop hx hy hc hgd⊢; subst hop hgd;refine⟨Nat.le_succ _,fun rest Q η m f w As hr hz hn' S hk=> ?_⟩;obtain⟨kt,t1,t2,t3⟩:=Mk ht;have rx:=Ao hr x;rw[hx]at rx;obtain⟨ex,_⟩:=rx.ow_inv;have ry:=Ao hr y;rw[hy]at ry;have rc:=Ao hr c;rw[hc]at rc;have S0:St m (rep η m (.hp n2 (.mp kv2))::As) w:=S;obtain⟨b,hb,S1⟩:=St.openHp S0;rw[ex]at hb;have hxv:ev f x= .map (some b):=Option.some.inj hb;refine SD (i:=0) S1 hxv ry.s_inv rc.t_inv rfl t1 t2 hn fun w' S'=> ?_;exact hk η m w' _ Env.le_refl (Mem.rfl' m) (fun n h=> .inl h) .no (St.closeHp (q:= .mp (kv2++[(kk,u2)])) (b:=b) (by rw[ex,hxv]; rfl) S')
     ·cases hq
    ·cases hq
   ·cases hq
  ·cases hq
theorem PX {s:ByteArray}{p:Nat}:Obj.stringIter s p≠dfr:=fun h=>by cases h
def rngK (P:Program)(cf:Cf):Option ByteArray:=
 match EF cf with
 |some a=>match a.g,a.o.op with
  |none,.range t x=>match NC P t,aev a.sl x with
   |true,.d (.s k)=>some k
   |_,_=>none
  |_,_=>none
 |none=>none
theorem go_rng (hm:P.follows .mixedOrders=true){n:Nat}{cf:Cf}(k:ByteArray)
  (e:(rngK P (adv P N n cf).1,((adv P N n cf).2++A3 (adv P N n cf).1).map (·.1))=(some k,((adv P N n cf).2++A3 (adv P N n cf).1).map (·.2)))
  (g:Go ρ P N D0 Q As η0 m0 (push N (adv P N n cf).1 ⟨.ow (adv P N n cf).1.s.nx,[],[],[((adv P N n cf).1.s.nx,.hp (adv P N n cf).1.s.nx (.it k 0))],(adv P N n cf).1.s.nx+1,[]⟩)):Go ρ P N D0 Q As η0 m0 cf:=by
 simp only[Prod.mk.injEq]at e;obtain⟨e1,e3⟩:=e;obtain⟨he1,-⟩:=EqsOk.two e3;refine BA hm he1 ?_;generalize (adv P N n cf).1=c0 at*;unfold rngK at e1;split at e1
 ·rename_i a ha;split at e1
  ·rename_i t x hg hop;split at e1
   ·rename_i k' hs hx;cases e1;have hgd:=Cr ha hg;refine E2 ha hg ?_ Nr g;obtain⟨l,⟨dst,op,ty,pos,af,gd⟩,gg,sl,es⟩:=a;simp only at hop hgd hx⊢; subst hop hgd;refine⟨Nat.le_succ _,fun rest Q η m f w As hr hz hn S hk=> ?_⟩;have rx:=Ao hr x;rw[hx]at rx;have hxv:=rx.s_inv;have S1:=(S.push (.stringIter k 0) PX).imp0 (B:=hkO (.it k 0) m w.heap.size) fun h hh=>hh;have h0:=hn c0.s.nx (Nat.le_refl _) (Nat.lt_succ_self _);refine Av (v:=pt w.heap.size 0) (w':=w.alloc (.stringIter k 0)) rfl (fun _ e=>by cases e) ?_ ?_ (Kd.push _ _)
    ·simp only[execOp,Instr.range,hxv,run_underlying (Ih hs),newObj,Sem.run_bind,Result.andThen_ok,Sem.run,Sem.run_pure];rfl
    ·refine hk (η.put c0.s.nx (pt w.heap.size 0)) m _ _ (Env.le_put h0) (Mem.rfl' m) (fun n q=> ?_) (.ow Env.put_self rfl) (St.closeHp (q:= .it k 0) (b:=w.heap.size) Env.put_self S1);rcases Env.put_dom q with q|q
     ·exact .inl q
     ·subst q; exact .inr ⟨Nat.le_refl _,Nat.lt_succ_self _⟩
   ·cases e1
  ·cases e1
 ·cases e1
theorem St.iter {m:Mem}{As:List Ow}{w:World}{b:Nat}{s:ByteArray}{pos:Nat}(hS:St m (hkO (.it s pos) m b::As) w):w.heap[b]? =some (.stringIter s pos)∧
  ∀pos',St m (hkO (.it s pos') m b::As) {w with heap:=w.heap.setIfInBounds b (.stringIter s pos')}:=by
 obtain⟨h1,rfl,hg,_,back⟩:=hS.take (i:=0) rfl;have hb:=PH.agree_one.1 hg;have hlt:=(Array.getElem?_eq_some_iff.1 hb).1;refine⟨hb,fun pos'=> ?_⟩;refine back (hkO (.it s pos') m b) (PH.one b (.stringIter s pos')) _ rfl ?_ ?_ ?_ rfl rfl rfl (fun _=> .one PX)
 ·intro k hk; left; simp only[PH.one]at hk⊢;split at hk
  ·rename_i e; simp[e]
  ·exact absurd rfl hk
 ·rw[PH.agree_one]; simp[hlt]
 ·intro k _ hk; simp only[PH.one]at hk;split at hk
  ·cases hk
  ·rename_i e; rw[Array.getElem?_setIfInBounds_ne (by omega)]
theorem Vp (w:World)(k:Nat)(s:ByteArray)(pos:Nat)(ty:TypeId)(hk:w.heap[k]? =some (.stringIter s pos))(h:pos<s.size):
  (Instr.next (.pointer (some ⟨k,0,none⟩)) true ty).run P w= .ok (.tuple #[.bool true,.int .i64 pos,.int .i32 (Utf8.decode s pos).1]) {w with heap:=w.heap.setIfInBounds k (.stringIter s (pos+(Utf8.decode s pos).2))}:=by
 simp only[Instr.next,getObj,setObj,Sem.run_bind,Sem.run,hk,Result.andThen,h,if_true];simp[goInt]
theorem Vo (w:World)(k:Nat)(s:ByteArray)(pos:Nat)(ty:TypeId)(hk:w.heap[k]? =some (.stringIter s pos))(h: ¬pos<s.size):
  (Instr.next (.pointer (some ⟨k,0,none⟩)) true ty).run P w= .ok (.tuple #[.bool false]) w:=by
 simp[Instr.next,getObj,Sem.run,hk,h]
def nxK (cf:Cf):Option (ByteArray×Nat×Nat×Nat):=
 match EF cf with
 |some a=>match a.g,a.o.op with
  |none,.next x true=>match aev a.sl x with
   | .ow n=>match T0 cf.s.ob n with
    |some (i,.it s pos)=>some (s,pos,i,n)
    |_=>none
   |_=>none
  |_,_=>none
 |none=>none
def nxS (cf:Cf):Stp:=match nxK cf with|some (s,pos,i,n)=>⟨.tup [.d (.t true),.d (.i (pos:Int)),.d (.r ((Utf8.decode s pos).1:Int))],[],[(i,.hp n (.it s pos))],[(cf.s.nx,.hp n (.it s (pos+(Utf8.decode s pos).2)))],cf.s.nx+1,[]⟩|none=>⟨.any,[],[],[],cf.s.nx,[]⟩
def nxE (cf:Cf):Stp:=match nxK cf with|some (s,pos,i,n)=>⟨.tup [.d (.t false)],[(i,.hp n (.it s pos))],[],[],cf.s.nx,[]⟩|none=>⟨.any,[],[],[],cf.s.nx,[]⟩
theorem go_nx (hm:P.follows .mixedOrders=true){n:Nat}{cf:Cf}{s:ByteArray}{pos:Nat}
  (e:((nxK (adv P N n cf).1).map (fun r=>(r.1,r.2.1)),((adv P N n cf).2++A3 (adv P N n cf).1).map (·.1))=(some (s,pos),((adv P N n cf).2++A3 (adv P N n cf).1).map (·.2)))
  (g1:pos<s.size→Go ρ P N D0 Q As η0 m0 (push N (adv P N n cf).1 (nxS (adv P N n cf).1))) (g2: ¬pos<s.size→Go ρ P N D0 Q As η0 m0 (push N (adv P N n cf).1 (nxE (adv P N n cf).1))):Go ρ P N D0 Q As η0 m0 cf:=by
 simp only[Prod.mk.injEq]at e;obtain⟨e1,e3⟩:=e;obtain⟨he1,-⟩:=EqsOk.two e3;refine BA hm he1 ?_;generalize (adv P N n cf).1=c0 at*;cases hq:nxK c0 with
 |none=>rw[hq]at e1; cases e1
 |some r=>
  obtain⟨s',pos',i,nn⟩:=r;have hT:nxS c0=⟨.tup [.d (.t true),.d (.i (pos':Int)),.d (.r ((Utf8.decode s' pos').1:Int))],[],[(i,.hp nn (.it s' pos'))],[(c0.s.nx,.hp nn (.it s' (pos'+(Utf8.decode s' pos').2)))],c0.s.nx+1,[]⟩:=by unfold nxS; rw[hq]
  have hT2:nxE c0=⟨.tup [.d (.t false)],[(i,.hp nn (.it s' pos'))],[],[],c0.s.nx,[]⟩:=by unfold nxE; rw[hq]
  rw[hT]at g1;rw[hT2]at g2;rw[hq]at e1;simp only[Option.map_some,Option.some.injEq,Prod.mk.injEq]at e1;obtain⟨e4,e5⟩:=e1;subst e4 e5;unfold nxK at hq;split at hq
  ·rename_i a ha;split at hq
   ·rename_i x hg hop;split at hq
    ·rename_i n2 hx;split at hq
     ·rename_i i2 s2 p2 hh;simp only[Option.some.injEq,Prod.mk.injEq]at hq;obtain⟨rfl,rfl,rfl,rfl⟩:=hq;have hgd:=Cr ha hg;by_cases hlt:p2<s2.size
      ·refine E2 ha hg ?_ (M7 (Lc hh)) (g1 hlt);obtain⟨l,⟨dst,op',ty,ps,af,gd⟩,gg,sl,es⟩:=a;simp only at hop hx hgd⊢; subst hop hgd;refine⟨Nat.le_succ _,fun rest Q η m f w As hr hz hn' S hk=> ?_⟩;have rx:=Ao hr x;rw[hx]at rx;obtain⟨ex,_⟩:=rx.ow_inv;have S0:St m (rep η m (.hp n2 (.it s2 p2))::As) w:=S;obtain⟨b,hb,S1⟩:=St.openHp S0;rw[ex]at hb;have hxv:ev f x=pt b 0:=Option.some.inj hb;obtain⟨hbb,S2⟩:=St.iter S1;refine Av (v:= .tuple #[.bool true,.int .i64 p2,.int .i32 (Utf8.decode s2 p2).1]) (w':={w with heap:=w.heap.setIfInBounds b (.stringIter s2 (p2+(Utf8.decode s2 p2).2))}) rfl (fun _ e=>by cases e) ?_ ?_ (Kd.set hbb PX rfl)
       ·simp only[execOp,hxv];rw[Sem.run_bind,Vp w b s2 p2 _ hbb hlt];rfl
       ·refine hk η m _ _ Env.le_refl (Mem.rfl' m) (fun n h=> .inl h) ?_ (St.closeHp (q:= .it s2 (p2+(Utf8.decode s2 p2).2)) (b:=b) (by rw[ex,hxv]; rfl) (S2 _));have h:Bo η m [.d (.t true),.d (.i (p2:Int)),.d (.r ((Utf8.decode s2 p2).1:Int))] [vb true,vI (p2:Int),vR ((Utf8.decode s2 p2).1:Int)]:=Bo.cons (.d (.t _)) (Bo.cons (.d (.i _)) (Bo.cons (.d (.r _)) Bo.nil));exact .tup h.1 h.2
      ·refine E2 ha hg ?_ (Np (Lc hh)) (g2 hlt);obtain⟨l,⟨dst,op',ty,ps,af,gd⟩,gg,sl,es⟩:=a;simp only at hop hx hgd⊢; subst hop hgd;refine⟨Nat.le_refl _,fun rest Q η m f w As hr hz hn' S hk=> ?_⟩;have rx:=Ao hr x;rw[hx]at rx;obtain⟨ex,_⟩:=rx.ow_inv;have S0:St m (rep η m (.hp n2 (.it s2 p2))::As) w:=S;obtain⟨b,hb,S1⟩:=St.openHp S0;rw[ex]at hb;have hxv:ev f x=pt b 0:=Option.some.inj hb;obtain⟨hbb,S2⟩:=St.iter S1;refine Av (v:= .tuple #[.bool false]) (w':=w) rfl (fun _ e=>by cases e) ?_ ?_
       ·simp only[execOp,hxv];rw[Sem.run_bind,Vo w b s2 p2 _ hbb hlt];rfl
       ·refine hk η m _ _ Env.le_refl (Mem.rfl' m) (fun n h=> .inl h) ?_ S;have h:Bo η m [.d (.t false)] [vb false]:=Bo.cons (.d (.t _)) Bo.nil;exact .tup h.1 h.2
     ·cases hq
    ·cases hq
   ·cases hq
  ·cases hq
def LI (s:ByteArray)(lo hi:Int):Option ByteArray:=if 0≤lo∧lo≤hi∧hi≤(s.size:Int)then some (s.extract lo.toNat hi.toNat)else none
def V4 (P:Program)(cf:Cf):Option (ByteArray×Int×Int):=
 match EF cf with
 |some a=>match a.o.op with
  | .slice t x lo hi none=>match NC P t,aev a.sl x with
   |true,.d (.s s)=>
    let l:Option Int:=match lo with|none=>some 0|some o=>(Jo a.sl o).map (·.2)
    let h:Option Int:=match hi with|none=>some (s.size:Int)|some o=>(Jo a.sl o).map (·.2)
    match l,h with
    |some l,some h=>some (s,l,h)
    |_,_=>none
   |_,_=>none
  |_=>none
 |none=>none
theorem Qy {t:TypeId}{s z:ByteArray}{lo hi:Option Value}{l h:Int}{w:World}(hu:P.underlying t=some .string)
  (hlo:(lo=none∧l=0)∨∃k,lo=some (.int k l)) (hhi:(hi=none∧h=(s.size:Int))∨∃k,hi=some (.int k h)) (hq:LI s l h=some z):
  (Instr.slice t (.string s) lo hi none).run P w= .ok (.string z) w:=by
 unfold LI at hq;split at hq
 ·rename_i hc;obtain⟨h1,h2,h3⟩:=hc;cases hq;have hl0:l≤(h.toNat:Int):=by omega
  have hs0:h≤(s.size:Int):=h3;have hh0:0≤h:=by omega
  rcases hlo with ⟨rfl,rfl⟩|⟨k,rfl⟩<;>rcases hhi with ⟨rfl,rfl⟩|⟨k',rfl⟩
  ·simp[Instr.slice,Instr.sliceBounds,Instr.sliceBound,run_underlying hu,Sem.run_bind]
  ·simp[Instr.slice,Instr.sliceBounds,Instr.sliceBound,run_underlying hu,Sem.run_bind,asIntOf,hh0,hs0]
  ·simp[Instr.slice,Instr.sliceBounds,Instr.sliceBound,run_underlying hu,Sem.run_bind,asIntOf,h1,h2]
  ·simp[Instr.slice,Instr.sliceBounds,Instr.sliceBound,run_underlying hu,Sem.run_bind,asIntOf,hh0,hs0,h1,hl0];intro hc; omega
 ·cases hq
theorem YD (hm:P.follows .mixedOrders=true){n:Nat}{cf:Cf}{s z:ByteArray}{lo hi:Int}(hq:gOf (adv P N n cf).1=true→LI s lo hi=some z)
  (e:(V4 P (adv P N n cf).1,((adv P N n cf).2++A3 (adv P N n cf).1).map (·.1))=(some (s,lo,hi),((adv P N n cf).2++A3 (adv P N n cf).1).map (·.2)))
  (g:Go ρ P N D0 Q As η0 m0 (A9 N (adv P N n cf).1 (.d (.s z)) [])):Go ρ P N D0 Q As η0 m0 cf:=by
 simp only[Prod.mk.injEq]at e;obtain⟨e1,e3⟩:=e;obtain⟨he1,he2⟩:=EqsOk.two e3;refine BA hm he1 ?_;generalize (adv P N n cf).1=c0 at*;unfold V4 at e1;split at e1
 ·rename_i a ha;rw[CU ha]at he2;split at e1
  ·rename_i t x lo' hi' hop;split at e1
   ·rename_i s0 hs hx;simp only at e1;split at e1
    ·rename_i l h hl hh;simp only[Option.some.injEq,Prod.mk.injEq]at e1;obtain⟨rfl,rfl,rfl⟩:=e1;refine CT (rd:=[]) ha he2 HB (fun hp=> ?_) g;have q:=hq (H0 ha hp);obtain⟨ll,⟨dst,op',ty,pos,af,gd⟩,gg,sl,es⟩:=a;simp only at hop hx hl hh⊢; subst hop;refine⟨Nat.le_refl _,fun rest Q η m f w As hr hz hn S hk=> ?_⟩;have rx:=Ao hr x;rw[hx]at rx;have hxv:ev f x=vS s0:=rx.s_inv;refine Av (v:=vS z) (w':=w) rfl (fun _ e=>by cases e) ?_ (hk η m w _ Env.le_refl (Mem.rfl' m) (fun n h=> .inl h) (.d (.s z)) S);have key:(Instr.slice t (.string s0) (lo'.map (ev f)) (hi'.map (ev f)) none).run P w= .ok (.string z) w:=by
      refine Qy (Ih hs) ?_ ?_ q
      · cases lo' with
       |none=>simp only[Option.some.injEq]at hl; exact .inl ⟨rfl,hl.symm⟩
       |some o=>
         simp only[Option.map_eq_some_iff]at hl;obtain⟨⟨kk,jj⟩,hj,rfl⟩:=hl;exact .inr ⟨kk,by simp only[Option.map_some]; rw[BR hj hr]⟩
      · cases hi' with
        |none=>simp only[Option.some.injEq]at hh; exact .inl ⟨rfl,hh.symm⟩
        |some o=>
          simp only[Option.map_eq_some_iff]at hh;obtain⟨⟨kk,jj⟩,hj,rfl⟩:=hh;exact .inr ⟨kk,by simp only[Option.map_some]; rw[BR hj hr]⟩
     simp[execOp,hxv,Instr.sliceAt,run_underlying (Ih hs),key]
    ·cases e1
   ·cases e1
  ·cases e1
 ·cases e1
def Xa (x y:ByteArray):Option ByteArray:=if x.size+y.size≤9223372036854775807 then some (x++y)else none
def catK (cf:Cf):Option (ByteArray×ByteArray):=
 match EF cf with
 |some a=>match a.o.op with
  | .binOp .add _ x y _=>match aev a.sl x,aev a.sl y with
   | .d (.s p),.d (.s q)=>some (p,q)
   |_,_=>none
  |_=>none
 |none=>none
theorem go_cat (hm:P.follows .mixedOrders=true){n:Nat}{cf:Cf}{x y z:ByteArray}(hq:gOf (adv P N n cf).1=true→Xa x y=some z)
  (e:(catK (adv P N n cf).1,((adv P N n cf).2++A3 (adv P N n cf).1).map (·.1))=(some (x,y),((adv P N n cf).2++A3 (adv P N n cf).1).map (·.2)))
  (g:Go ρ P N D0 Q As η0 m0 (A9 N (adv P N n cf).1 (.d (.s z)) [])):Go ρ P N D0 Q As η0 m0 cf:=by
 simp only[Prod.mk.injEq]at e;obtain⟨e1,e3⟩:=e;obtain⟨he1,he2⟩:=EqsOk.two e3;refine BA hm he1 ?_;generalize (adv P N n cf).1=c0 at*;unfold catK at e1;split at e1
 ·rename_i a ha;rw[CU ha]at he2;split at e1
  ·rename_i t xo yo t' hop;split at e1
   ·rename_i p0 q0 hx hy;simp only[Option.some.injEq,Prod.mk.injEq]at e1;obtain⟨rfl,rfl⟩:=e1;refine CT (rd:=[]) ha he2 HB (fun hp=> ?_) g;have q:=hq (H0 ha hp);obtain⟨ll,⟨dst,op',ty,pos,af,gd⟩,gg,sl,es⟩:=a;simp only at hop hx hy⊢; subst hop;refine⟨Nat.le_refl _,fun rest Q η m f w As hr hz hn S hk=> ?_⟩;have rx:=Ao hr xo;rw[hx]at rx;have ry:=Ao hr yo;rw[hy]at ry;have hxv:ev f xo=vS p0:=rx.s_inv;have hyv:ev f yo=vS q0:=ry.s_inv;refine Av (v:=vS z) (w':=w) rfl (fun _ e=>by cases e) ?_ (hk η m w _ Env.le_refl (Mem.rfl' m) (fun n h=> .inl h) (.d (.s z)) S);unfold Xa at q;split at q
    ·rename_i hc;cases q;have hc': ¬((9223372036854775807:Int)<(p0.size:Int)+(q0.size:Int)):=by omega
     simp[execOp,hxv,hyv,eqGuard,binOp,Op.stringOp,hc']
    ·cases q
   ·cases e1
  ·cases e1
 ·cases e1
def U5:Operand→Option (List D)
 | .global g=>VK GT g
 |_=>none
theorem Qp {x:Operand}{ds:List D}(h:U5 x=some ds){m:Mem}{As:List Ow}{w:World}(S:St m As w){f:Fr}: ∃cs,PtC m (ev f x) cs∧FRL m ds cs:=by
 unfold U5 at h;split at h
 ·rename_i g;obtain⟨vs,h1,h2⟩:=gt_ok h;obtain⟨l,e,fr,hb,hc⟩:=S.tape.2 _ h1;exact⟨vs,⟨g,0,l,e,fr,rfl,hb,fun i x hx=>by rw[Nat.zero_add]; exact hc i x hx⟩,h2 m⟩
 ·cases h
def slGK (P:Program)(cf:Cf):Option (List D×Nat×Nat×Bool):=
 match EF cf with
 |some a=>match a.o.op with
  | .slice t x none none none=>match U5 x,P.underlying t with
   |some ds,some (.array n e)=>match HA P e with
    |some i=>some (ds,i.sz,n,Nat.ble n 1000000)
    |none=>none
   |_,_=>none
  |_=>none
 |none=>none
theorem go_slG (hm:P.follows .mixedOrders=true){n k:Nat}{cf:Cf}{α:Type}{E:α→List D}(xs:List α)(hE: ∀x,(E x).length=k)
  (e:(slGK P (adv P N n cf).1,((adv P N n cf).2++A3 (adv P N n cf).1).map (·.1))=(some (xs.flatMap E,k,xs.length,true),((adv P N n cf).2++A3 (adv P N n cf).1).map (·.2)))
  (g:Go ρ P N D0 Q As η0 m0 (A9 N (adv P N n cf).1 (.d (.sl α E xs)) [])):Go ρ P N D0 Q As η0 m0 cf:=by
 simp only[Prod.mk.injEq]at e;obtain⟨e1,e3⟩:=e;obtain⟨he1,he2⟩:=EqsOk.two e3;refine BA hm he1 ?_;generalize (adv P N n cf).1=c0 at*;unfold slGK at e1;split at e1
 ·rename_i a ha;rw[CU ha]at he2;split at e1
  ·rename_i t x hop;split at e1
   ·rename_i ds nn ee hx hu;split at e1
    ·rename_i i hi;simp only[Option.some.injEq,Prod.mk.injEq]at e1;obtain⟨rfl,hk,rfl,hle⟩:=e1;refine CT (rd:=[]) ha he2 HB (fun hp=> ?_) g;obtain⟨ll,⟨dst,op',ty,pos,af,gd⟩,gg,sl,es⟩:=a;simp only at hop⊢; subst hop;refine⟨Nat.le_refl _,fun rest Q η m f w As hr hz hn S hk'=> ?_⟩;obtain⟨cs,hp1,hp2⟩:=Qp hx S (f:=f);letI:=Ki E k;have hle:=Nat.le_of_ble_eq_true hle;refine Qw (α:=α) (cs:=cs) (ds:=[]) (xs:=xs) rfl (by rw[List.append_nil]; exact hp1) (QB hp2 fun x _=>hE x) rfl (by omega) hu (fun w=>by have:=Cc hi w; rw[hk]at this; exact this) fun u hu'=> ?_;exact hk' η m w u Env.le_refl (Mem.rfl' m) (fun n h=> .inl h) (.d (On hu')) S
    ·cases e1
   ·cases e1
  ·cases e1
 ·cases e1
def idGK (P:Program)(cf:Cf):Option (List D×Int×Nat×Nat):=
 match EF cf with
 |some a=>match a.o.op with
  | .indexAddr t x y=>match U5 x,P.underlying t,Jo a.sl y with
   |some ds,some (.array n e),some (_,j)=>match HA P e with
    |some i=>some (ds,j,i.sz,n)
    |none=>none
   |_,_,_=>none
  |_=>none
 |none=>none
theorem go_idG (hm:P.follows .mixedOrders=true){n k:Nat}{cf:Cf}{α:Type}{E:α→List D}(xs:List α){j:Int}{z:α}(hE: ∀x,(E x).length=k)(hq:gOf (adv P N n cf).1=true→idx xs j=some z)
  (e:(idGK P (adv P N n cf).1,((adv P N n cf).2++A3 (adv P N n cf).1).map (·.1))=(some (xs.flatMap E,j,k,xs.length),((adv P N n cf).2++A3 (adv P N n cf).1).map (·.2)))
  (g:Go ρ P N D0 Q As η0 m0 (A9 N (adv P N n cf).1 (.d (.pf (E z))) [])):Go ρ P N D0 Q As η0 m0 cf:=by
 simp only[Prod.mk.injEq]at e;obtain⟨e1,e3⟩:=e;obtain⟨he1,he2⟩:=EqsOk.two e3;refine BA hm he1 ?_;generalize (adv P N n cf).1=c0 at*;unfold idGK at e1;split at e1
 ·rename_i a ha;rw[CU ha]at he2;split at e1
  ·rename_i t x y hop;split at e1
   ·rename_i ds nn ee kk jj hx hu hj;split at e1
    ·rename_i i hi;simp only[Option.some.injEq,Prod.mk.injEq]at e1;obtain⟨rfl,rfl,hk,rfl⟩:=e1;refine CT (rd:=[]) ha he2 HB (fun hp=> ?_) g;have q:=hq (H0 ha hp);obtain⟨ll,⟨dst,op',ty,pos,af,gd⟩,gg,sl,es⟩:=a;simp only at hop hj⊢; subst hop;refine⟨Nat.le_refl _,fun rest Q η m f w As hr hz hn S hk'=> ?_⟩;obtain⟨cs,hp1,hp2⟩:=Qp hx S (f:=f);letI:=Ki E k;have hrep:GoT.rep m ((cs.drop (jj.toNat*k)).take k) z:=By.getI (QB hp2 fun x _=>hE x) q;obtain⟨q1,q2⟩:=Cg q;have hlt:jj.toNat<xs.length:=(List.getElem?_eq_some_iff.1 q2).1;refine SH (sz:=k) rfl (BR hj hr) hp1 hu (fun w=>by have:=Cc hi w; rw[hk]at this; exact this) q1 (by omega) fun p hp=> ?_;obtain⟨b,off,l,e',fr,rfl,hb,hc⟩:=hp;refine hk' η m w _ Env.le_refl (Mem.rfl' m) (fun n h=> .inl h) (.d (.pf ⟨b,off,l,e',fr,rfl,hb,fun i x hx=>hc i x ?_⟩ rfl hrep.1.1 hrep.1.2)) S;rw[List.getElem?_take]at hx;split at hx
     ·exact hx
     ·cases hx
    ·cases e1
   ·cases e1
  ·cases e1
 ·cases e1
def dynP (cf:Cf):Option (Value×List AV):=
 match EF cf with
 |some a=>match a.o.op with
  | .call c=>match c.callee with
   | .value (.tmp t)=>match get a.sl t with
    | .d (.v x)=>some (x,c.args.toList.map (aev a.sl))
    |_=>none
   |_=>none
  |_=>none
 |none=>none
theorem go_dyn (hm:P.follows .mixedOrders=true){n:Nat}{cf:Cf}{x:Int}{ea:List AV}{r:AV}(hs:gOf (adv P N n cf).1=true→∃k:Nat,x=(k:Int)∧Sf P k ea r)
  (e:((dynP (adv P N n cf).1).map (fun p=>(p.1,RX (adv P N n cf).1.s.fz ea p.2)),ea.all (okA 0),((adv P N n cf).2++A3 (adv P N n cf).1).map (·.1))=(some (fnV x,ea),true,((adv P N n cf).2++A3 (adv P N n cf).1).map (·.2)))
  (g:Go ρ P N D0 Q As η0 m0 (IC N (adv P N n cf).1 r)):Go ρ P N D0 Q As η0 m0 cf:=by
 simp only[Prod.mk.injEq]at e;obtain⟨e1,e2,e3⟩:=e;obtain⟨he1,he2⟩:=EqsOk.two e3;refine BA hm he1 ?_;generalize (adv P N n cf).1=c0 at*;cases hq:dynP c0 with
 |none=>rw[hq]at e1; cases e1
 |some p=>
  rw[hq]at e1;simp only[Option.map_some,Option.some.injEq,Prod.mk.injEq]at e1;obtain⟨e4,e5⟩:=e1;unfold dynP at hq;split at hq
  ·rename_i a ha;have hes:A3 c0=a.es:=by unfold A3; rw[ha]
   rw[hes]at he2;refine T4 ha he2 (fun hp=> ?_) g;have hg:gOf c0=true:=by
    unfold gOf; rw[ha];obtain⟨l,o,gg,sl,es⟩:=a;cases gg with
    |none=>rfl
    |some q=>exact hp q rfl
   obtain⟨k,hxk,hS⟩:=hs hg;obtain⟨l,⟨dst,op,ty,pos,af,gd⟩,gg,sl,es⟩:=a;simp only at hq⊢;split at hq
   ·rename_i c;obtain⟨ce,xs,ts⟩:=c;obtain⟨xs⟩:=xs;simp only at hq;split at hq
    ·rename_i t;split at hq
     ·rename_i v hv;cases hq;simp only at e4 e5;subst e4;refine⟨Nat.le_refl _,fun rest Q η m f w As hr hz hn St0 hk=> ?_⟩;have rt:=hr t;rw[hv,hxk]at rt;have hval:f t= .func (.func k) #[] #[]:=by
       have:=rt.dd;generalize f t=u at this;cases this; rfl
      have ra:=Bo.map_aev hr xs;refine FX (x:= .tmp t) (g:= .func (.func k) #[] #[]) (R:=fun v w'=> ∃(M:Mem) (η':Env) (r':AV) (obs':List AObj) (n1:Nat),m≤M∧none0.le η'∧is r [] 0 r' obs' n1∧(∀n,η' n≠none→n<n1)∧Rel η' M r' v∧St M (obs'.map (rep η' M)++As) w') hval (DJ.clo (pre:=[]) (caps:=[]) hS.1 rfl (by
       simp only[List.nil_append,List.append_nil];refine hS.2 none0 m As w _ ?_ (fun n h=>absurd rfl h) St0;have h1:=H8 (es:=ea) hz ra;exact JH (η:=η) (n:=0) (fun k h=>absurd h (by omega)) e2 (by rw[e5]at h1; exact h1))) rfl ?_
      rintro v w2 ⟨M,η',r',obs',n1,hle,_,⟨rfl,rfl,rfl⟩,hdom,hR,S⟩;have hη:η'.le η:=fun n u h=>by have:=hdom n (by rw[h]; simp); omega
      exact hk η M w2 v Env.le_refl hle (fun n h=> .inl h) (hR.up hη (Mem.rfl' M)) S
     ·cases hq
    ·cases hq
   ·cases hq
  ·cases hq
def dycP (cf:Cf):Option (Nat×List D×List AV):=
 match EF cf with
 |some a=>match a.o.op with
  | .call c=>match c.callee with
   | .value (.tmp t)=>match get a.sl t with
    | .d (.cl k ds)=>some (k,ds,c.args.toList.map (aev a.sl))
    |_=>none
   |_=>none
  |_=>none
 |none=>none
theorem go_dyc (hm:P.follows .mixedOrders=true){n k:Nat}{ds:List D}{cf:Cf}{ea:List AV}{r:AV}(hs:gOf (adv P N n cf).1=true→Sf P k (.agg (ds.map dv)::ea) r)
  (e:((dycP (adv P N n cf).1).map (fun p=>(p.1,p.2.1,RX (adv P N n cf).1.s.fz ea p.2.2)),ea.all (okA 0),((adv P N n cf).2++A3 (adv P N n cf).1).map (·.1))=(some (k,ds,ea),true,((adv P N n cf).2++A3 (adv P N n cf).1).map (·.2)))
  (g:Go ρ P N D0 Q As η0 m0 (IC N (adv P N n cf).1 r)):Go ρ P N D0 Q As η0 m0 cf:=by
 simp only[Prod.mk.injEq]at e;obtain⟨e1,e2,e3⟩:=e;obtain⟨he1,he2⟩:=EqsOk.two e3;refine BA hm he1 ?_;generalize (adv P N n cf).1=c0 at*;cases hq:dycP c0 with
 |none=>rw[hq]at e1; cases e1
 |some p=>
  rw[hq]at e1;simp only[Option.map_some,Option.some.injEq,Prod.mk.injEq]at e1;obtain⟨e4,e4',e5⟩:=e1;unfold dycP at hq;split at hq
  ·rename_i a ha;have hes:A3 c0=a.es:=by unfold A3; rw[ha]
   rw[hes]at he2;refine T4 ha he2 (fun hp=> ?_) g;have hg:gOf c0=true:=by
    unfold gOf; rw[ha];obtain⟨l,o,gg,sl,es⟩:=a;cases gg with
    |none=>rfl
    |some q=>exact hp q rfl
   have hS:=hs hg;obtain⟨l,⟨dst,op,ty,pos,af,gd⟩,gg,sl,es⟩:=a;simp only at hq⊢;split at hq
   ·rename_i c;obtain⟨ce,xs,ts⟩:=c;obtain⟨xs⟩:=xs;simp only at hq;split at hq
    ·rename_i t;split at hq
     ·rename_i k' ds' hv;cases hq;simp only at e4 e4' e5;subst e4 e4';refine⟨Nat.le_refl _,fun rest Q η m f w As hr hz hn St0 hk=> ?_⟩;have rt:=hr t;rw[hv]at rt;obtain⟨cs,hval,hfr⟩: ∃cs,f t= .func (.func k') #[.agg cs.toArray] #[]∧FRL m ds' cs:=by
       have:=rt.dd;generalize f t=u at this;cases this with
       |cl hl hr'=>exact⟨_,rfl,hl,hr'⟩
      have ra:=Bo.map_aev hr xs;refine FX (x:= .tmp t) (g:= .func (.func k') #[.agg cs.toArray] #[]) (R:=fun v w'=> ∃(M:Mem) (η':Env) (r':AV) (obs':List AObj) (n1:Nat),m≤M∧none0.le η'∧is r [] 0 r' obs' n1∧(∀n,η' n≠none→n<n1)∧Rel η' M r' v∧St M (obs'.map (rep η' M)++As) w') hval (DJ.clo (pre:=[.agg cs.toArray]) (caps:=[]) hS.1 rfl (by
       simp only[List.singleton_append,List.append_nil];refine hS.2 none0 m As w _ ?_ (fun n h=>absurd rfl h) St0;have h1:=H8 (es:=ea) hz ra;have h2:Bo none0 m ea (xs.map (ev f)):=JH (η:=η) (n:=0) (fun k h=>absurd h (by omega)) e2 (by rw[e5]at h1; exact h1);have h3:Rel none0 m (.agg (ds'.map dv)) (.agg cs.toArray):=by
        have:=Bo.ofDv (η:=none0) hfr;exact .agg this.1 this.2
       exact .cons h3 h2)) rfl ?_
      rintro v w2 ⟨M,η',r',obs',n1,hle,_,⟨rfl,rfl,rfl⟩,hdom,hR,S⟩;have hη:η'.le η:=fun n u h=>by have:=hdom n (by rw[h]; simp); omega
      exact hk η M w2 v Env.le_refl hle (fun n h=> .inl h) (hR.up hη (Mem.rfl' M)) S
     ·cases hq
    ·cases hq
   ·cases hq
  ·cases hq
def PM (s:AS)(t j:Nat):Option (Nat×Nat×List AV×TypeId):=
 match get s.sl t with
 | .pb n 0=>match find n s.ob with
  |some (i,.box k cs ty)=>match cs[j]? with
   |some a=>bif Nat.beq k n&&Iu a then some (i,n,cs,ty)else none
   |none=>none
  |_=>none
 |_=>none
def HN (i:Nat)(o:AObj)(ob:List Tok):List Tok:=ob.map fun p=>bif Nat.beq p.1 i then(i,o)else p
def Ty (s:AS)(t j sz:Nat)(α:Type)(E:α→List D):AS:=match PM s t j with|some (i,n,cs,ty)=>⟨s.sl,HN i (.box n (cs.set j (.ow s.nx)) ty) s.ob++[(s.nx,.row s.nx sz α E [])],s.fz,s.nx+1⟩|none=>s
theorem Iz {i:Nat}{o:AObj}: ∀{ob:List Tok},tids (HN i o ob)=tids ob
 | []=>rfl
 |p::l=>by
  show(bif Nat.beq p.1 i then(i,o)else p).1::tids (HN i o l)=p.1::tids l;rw[Iz];cases hb:Nat.beq p.1 i
  ·rfl
  ·have:=Nat.eq_of_beq_eq_true hb; simp[this]
theorem IA {i:Nat}{o:AObj}: ∀{ob:List Tok},i∉tids ob→HN i o ob=ob
 | [],_=>rfl
 |p::l,h=>by
  have h1:p.1≠i:=fun e=>h (by rw[←e]; exact List.mem_cons_self);have h2:i∉tids l:=fun e=>h (List.mem_cons_of_mem _ e);show(bif Nat.beq p.1 i then(i,o)else p)::HN i o l=p::l;rw[IA h2];cases hb:Nat.beq p.1 i
  ·rfl
  ·exact absurd (Nat.eq_of_beq_eq_true hb) h1
theorem Sv {i:Nat}{o q:AObj}{ob:List Tok}(hn:(tids ob).Nodup)(h:(i,q)∈ob): ∃l1 l2,ob=l1++(i,q)::l2∧HN i o ob=l1++(i,o)::l2:=by
 obtain⟨l1,l2,rfl⟩:=List.append_of_mem h;refine⟨l1,l2,rfl,?_⟩;have hn':(tids l1++i::tids l2).Nodup:=by simpa[tids]using hn
 obtain⟨n1,n2,n3⟩:=List.nodup_append.1 hn';have a1:i∉tids l1:=fun e=>n3 i e i List.mem_cons_self rfl;have a2:i∉tids l2:=(List.nodup_cons.1 n2).1;have e1:=IA (o:=o) a1;have e2:=IA (o:=o) a2;unfold HN at*;rw[List.map_append,List.map_cons,e1,e2];simp
theorem Ye {s:AS}{η:Env}{m:Mem}{f:Fr}{w:World}{t j sz:Nat}{α:Type}{E:α→List D}(h:(PM s t j).isSome=true)(g:Gm As s η m f w):
  ∃η',η.le η'∧Gm As (Ty s t j sz α E) η' m f w:=by
 cases hk:PM s t j with
 |none=>rw[hk]at h; cases h
 |some r=>
  obtain⟨i,n,cs,ty⟩:=r;have hS:Ty s t j sz α E=⟨s.sl,HN i (.box n (cs.set j (.ow s.nx)) ty) s.ob++[(s.nx,.row s.nx sz α E [])],s.fz,s.nx+1⟩:=by unfold Ty; rw[hk]
  rw[hS];unfold PM at hk;split at hk
  ·rename_i n' hsl;split at hk
   ·rename_i i' k' cs' ty' hf;split at hk
    ·rename_i a ha;cases hb:Nat.beq k' n'&&Iu a
     ·rw[hb]at hk; cases hk
     ·rw[hb]at hk;simp only[cond_true,Option.some.injEq,Prod.mk.injEq]at hk;obtain⟨rfl,rfl,rfl,rfl⟩:=hk;simp only[Bool.and_eq_true]at hb;have hkn:=Nat.eq_of_beq_eq_true hb.1;subst hkn;have h0:η s.nx=none:=by
       cases q:η s.nx with
       |none=>rfl
       |some v=>have:=g.dom s.nx (by rw[q]; simp); omega
      have le:=Env.le_put (v:= .slice none 0 0) h0;obtain⟨l1,l2,e1,e2⟩:=Sv (o:= .box k' (cs'.set j (.ow s.nx)) ty') g.wf.nd (Ex hf);refine⟨η.put s.nx (.slice none 0 0),le,fun u=>(g.slr u).up le (Mem.rfl' m),g.fz.up le (Mem.rfl' m),fun x hx=> ?_,?_,?_,fun x hx=> ?_⟩
      ·rcases Env.put_dom hx with q|q
       ·exact Nat.lt_succ_of_lt (g.dom x q)
       ·subst q; exact Nat.lt_succ_self _
      ·have S0:=St.ru le (Mem.rfl' m) g.st;rw[e1]at S0;have S1:=St.rp S0 (List.perm_middle (a:=(i',AObj.box k' cs' ty')) (l₁:=l1) (l₂:=l2));have S2:St m (rep (η.put s.nx (.slice none 0 0)) m (.box k' (cs'.set j (.ow s.nx)) ty')::(reps (η.put s.nx (.slice none 0 0)) m (l1++l2)++As)) w:=by
        refine St.imp0 S1 fun x hx=> ?_;obtain⟨b,vs,q1,q2,q3,q4⟩:=hx;refine⟨b,vs,q1,⟨by rw[List.length_set]; exact q2.1,fun k c u hc hu=> ?_⟩,q3,q4⟩;rw[List.getElem?_set]at hc;split at hc
        ·rename_i e; subst e;split at hc
         ·cases hc;have hr:=q2.2 _ a u ha hu;have hu0:u= .slice none 0 0:=by
           have hb2:=hb.2;unfold Iu at hb2;split at hb2
           ·have:=hr.dd; cases this; rfl
           ·cases hb2
          rw[hu0]; exact .ow Env.put_self rfl
         ·cases hc
        ·exact q2.2 k c u hc hu
       have T:=St.closeRow (η:=η.put s.nx (.slice none 0 0)) (n:=s.nx) (E:=E) (xs:=[]) Env.put_self rfl (by simpa using FRL.nil) (fun _ h=>by cases h) (St.rowNil S2 sz);show St m (reps _ m (HN i' _ s.ob++[_])++As) w;rw[e2,Be,List.append_assoc];have T2:St m (rep (η.put s.nx (.slice none 0 0)) m (.row s.nx sz α E [])::(reps (η.put s.nx (.slice none 0 0)) m (l1++(i',.box k' (cs'.set j (.ow s.nx)) ty')::l2)++As)) w:=by
        refine T.perm (List.Perm.cons _ ?_);rw[Be,Be,SQ,List.append_assoc,List.append_assoc];exact List.perm_middle.symm
       exact T2.perm (List.perm_middle.symm)
      ·show(tids (HN i' _ s.ob++[_])).Nodup;simp only[tids,List.map_append,List.map_cons,List.map_nil];have e3:=Iz (i:=i') (o:= .box k' (cs'.set j (.ow s.nx)) ty') (ob:=s.ob);unfold tids at e3;rw[e3];refine List.nodup_append.2 ⟨g.wf.nd,by simp,fun a ha b hb e=> ?_⟩;simp at hb;have:=g.wf.lt a ha;omega
      ·have hx':x∈tids (HN i' (.box k' (cs'.set j (.ow s.nx)) ty') s.ob++[(s.nx,AObj.row s.nx sz α E [])]):=hx;unfold tids at hx';rw[List.map_append,List.mem_append]at hx';have e3:=Iz (i:=i') (o:= .box k' (cs'.set j (.ow s.nx)) ty') (ob:=s.ob);unfold tids at e3;rcases hx' with q|q
       ·rw[e3]at q; exact Nat.lt_succ_of_lt (g.wf.lt x q)
       ·simp at q; subst q; exact Nat.lt_succ_self _
    ·cases hk
   ·cases hk
  ·cases hk
def Yf (cf:Cf)(t j sz:Nat)(α:Type)(E:α→List D):Cf:=⟨Ty cf.s t j sz α E,cf.md,cf.K⟩
theorem Yd {cf:Cf}{t j sz:Nat}{α:Type}{E:α→List D}(hp:HT cf=true)(h:(PM cf.s t j).isSome=true)(g:Go ρ P N D0 Q As η0 m0 (Yf cf t j sz α E)):Go ρ P N D0 Q As η0 m0 cf:=by
 obtain⟨s,md,K⟩:=cf;have key: ∀{R:Fr→World→Prop},Al As η0 m0 (Ty s t j sz α E) R→Al As η0 m0 s R:=fun k η m f w a1 a2 gm=>
  let ⟨η',le,gm'⟩:=Ye h gm; k η' m f w (Env.le_tr a1 le) a2 gm'
 cases md with
 |ops=>cases hp
 |code c=>exact key g
 |pop=>exact key g
 |ext id=>exact key g
 |ret=>exact key g
theorem VN {id:Nat}(hm:P.follows .mixedOrders=true){n:Nat}{cf:Cf}{α:Type}{E:α→List D}(t j sz:Nat)
  (e:(HT (FU id P N n cf).1,(PM (FU id P N n cf).1.s t j).isSome,((FU id P N n cf).2).map (·.1))=(true,true,((FU id P N n cf).2).map (·.2)))
  (g:Go ρ P N D0 Q As η0 m0 (Yf (FU id P N n cf).1 t j sz α E)):Go ρ P N D0 Q As η0 m0 cf:=by
 simp only[Prod.mk.injEq]at e;exact Lu hm (.of e.2.2) (Yd e.1 e.2.1 g)
end
end Go.Ax
end
section
namespace Go.Ax
open Go Go.Gw
def atD (d:Nat)(cf:Cf):Bool:=match cf.md with
 | .ops _ _ (o::_) _=>match o.dst with|some k=>Nat.beq k d|none=>false
 |_=>false
def Kl (d:Nat)(P:Program)(N:Nat):Nat→Cf→Cf×Eqs
 |0,cf=>(cf,[])
 |n+1,cf=>bif atD d cf then(cf,[])else match nxt P N cf with
  |some r=>let q:=Kl d P N n r.1; (q.1,r.2++q.2)
  |none=>(cf,[])
def Rh:List AV→Option (List D)
 | []=>some []
 | .d x::l=>match Rh l with
  |some r=>some (x::r)
  |none=>none
 |_=>none
def Y6 (cf:Cf):Option (List D):=
 match EF cf with
 |some a=>match a.o.op with
  | .box e x=>match Jk (rv cf.s.fz a.sl x)with
   |some cs=>Rh cs
   |none=>none
  |_=>none
 |none=>none
def slMK (P:Program)(cf:Cf):Option (List D×Nat×Nat×Bool):=
 match EF cf with
 |some a=>match a.o.op with
  | .slice t x none none none=>match aev a.sl x,P.underlying t with
   | .d (.pf ds),some (.array n e)=>match HA P e with
    |some i=>some (ds.take (n*i.sz),i.sz,n,Nat.ble n 1000000)
    |none=>none
   |_,_=>none
  |_=>none
 |none=>none
theorem Rg {η:Env}{m:Mem}: ∀{cs:List AV} {ds:List D} {vs:List Value},Rh cs=some ds→Bo η m cs vs→FRL m ds vs
 | [],ds,vs,h,r=>by cases h; have:=r.nil_inv; subst this; exact FRL.nil
 | .d x::l,ds,vs,h,r=>by
  obtain⟨v,us,rfl,a,b⟩:=r.cons_inv;unfold Rh at h;split at h
  ·rename_i q hq;cases h;exact FRL.cons a.dd (Rg hq b)
  ·cases h
 | .any::l,ds,vs,h,r=>by simp[Rh]at h
 | .no::l,ds,vs,h,r=>by simp[Rh]at h
 | .pb _ _::l,ds,vs,h,r=>by simp[Rh]at h
 | .pe _ _ _ _::l,ds,vs,h,r=>by simp[Rh]at h
 | .ow _::l,ds,vs,h,r=>by simp[Rh]at h
 | .ab _::l,ds,vs,h,r=>by simp[Rh]at h
 | .agg _::l,ds,vs,h,r=>by simp[Rh]at h
 | .tup _::l,ds,vs,h,r=>by simp[Rh]at h
 | .fn _ _ _::l,ds,vs,h,r=>by simp[Rh]at h
 | .gd _ _ _ _::l,ds,vs,h,r=>by simp[Rh]at h
section
variable {ρ:Option Nat}{P:Program}{N:Nat}{D0:Dw}{Q:C5}{As:List Ow}{η0:Env}{m0:Mem}
theorem UJ {d:Nat}(hm:P.follows .mixedOrders=true): ∀{n:Nat} {cf:Cf},EqsOk (Kl d P N n cf).2→Go ρ P N D0 Q As η0 m0 (Kl d P N n cf).1→Go ρ P N D0 Q As η0 m0 cf
 |0,_,_,g=>g
 |n+1,cf,he,g=>by
  cases hb:atD d cf with
  |true=>
   have e:Kl d P N (n+1) cf=(cf,[]):=by simp only[Kl,hb,cond_true]
   rw[e]at g; exact g
  |false=>
   cases hr:nxt P N cf with
   |none=>
    have e:Kl d P N (n+1) cf=(cf,[]):=by simp only[Kl,hr,hb,cond_false]
    rw[e]at g; exact g
   |some r=>
    have e:Kl d P N (n+1) cf=((Kl d P N n r.1).1,r.2++(Kl d P N n r.1).2):=by simp only[Kl,hr,hb,cond_false]
    rw[e]at g he;have he':=EqsOk.app.1 he;exact OG hm hr he'.1 (UJ hm (n:=n) he'.2 g)
theorem YG (d:Nat)(ds:List D)(hm:P.follows .mixedOrders=true){n:Nat}{cf:Cf}
  (e:(Y6 (Kl d P N n cf).1,((Kl d P N n cf).2++A3 (Kl d P N n cf).1).map (·.1))=(some ds,((Kl d P N n cf).2++A3 (Kl d P N n cf).1).map (·.2)))
  (g:Go ρ P N D0 Q As η0 m0 (A9 N (Kl d P N n cf).1 (.d (.pf ds)) [])):Go ρ P N D0 Q As η0 m0 cf:=by
 simp only[Prod.mk.injEq]at e;obtain⟨e1,e3⟩:=e;obtain⟨he1,he2⟩:=EqsOk.two e3;refine UJ hm he1 ?_;generalize (Kl d P N n cf).1=c0 at*;unfold Y6 at e1;split at e1
 ·rename_i a ha;rw[CU ha]at he2;split at e1
  ·rename_i t x hop;split at e1
   ·rename_i cs hc;refine CT (rd:=[]) ha he2 HB (fun hp=> ?_) g;obtain⟨ll,⟨dst,op',ty,pos,af,gd⟩,gg,sl,es⟩:=a;simp only at hop hc⊢; subst hop;refine⟨Nat.le_refl _,fun rest Q η m f w As hr hz hn S hk'=> ?_⟩;obtain⟨hl,hh⟩:=FQ hc (I1 hz hr x);have hf:=Rg e1 hl;refine J5 S rfl fun b w' S'=> ?_;obtain⟨m',le,hp',S2⟩:=St.bxKeep (i:=0) S' rfl;exact hk' η m' w' (pt b 0) Env.le_refl le (fun n h=> .inl h) (.d (.pf hp' rfl (hf.up le).1 (hf.up le).2)) (St.ru Env.le_refl le S2)
   ·cases e1
  ·cases e1
 ·cases e1
theorem go_slM (hm:P.follows .mixedOrders=true){n k:Nat}{cf:Cf}{α:Type}{E:α→List D}(xs:List α)(hE: ∀x,(E x).length=k)
  (e:(slMK P (adv P N n cf).1,((adv P N n cf).2++A3 (adv P N n cf).1).map (·.1))=(some (xs.flatMap E,k,xs.length,true),((adv P N n cf).2++A3 (adv P N n cf).1).map (·.2)))
  (g:Go ρ P N D0 Q As η0 m0 (A9 N (adv P N n cf).1 (.d (.sl α E xs)) [])):Go ρ P N D0 Q As η0 m0 cf:=by
 simp only[Prod.mk.injEq]at e;obtain⟨e1,e3⟩:=e;obtain⟨he1,he2⟩:=EqsOk.two e3;refine BA hm he1 ?_;generalize (adv P N n cf).1=c0 at*;unfold slMK at e1;split at e1
 ·rename_i a ha;rw[CU ha]at he2;split at e1
  ·rename_i t x hop;split at e1
   ·rename_i ds nn ee hx hu;split at e1
    ·rename_i i hi;simp only[Option.some.injEq,Prod.mk.injEq]at e1;obtain⟨hd,hk,rfl,hle⟩:=e1;refine CT (rd:=[]) ha he2 HB (fun hp=> ?_) g;obtain⟨ll,⟨dst,op',ty,pos,af,gd⟩,gg,sl,es⟩:=a;simp only at hop hx⊢; subst hop;refine⟨Nat.le_refl _,fun rest Q η m f w As hr hz hn S hk'=> ?_⟩;have rx:=Ao hr x;rw[hx]at rx;obtain⟨cs,hp1,hp2⟩:=FRL.ptc (n:=0) rx.dd;letI:=Ki E k;have hle:=Nat.le_of_ble_eq_true hle;have ht:=hp2.take (xs.length*i.sz);rw[hd]at ht;refine Qw (α:=α) (cs:=cs.take (xs.length*i.sz)) (ds:=cs.drop (xs.length*i.sz)) (xs:=xs) rfl (by rw[List.take_append_drop]; exact hp1) (QB ht fun x _=>hE x) rfl (by omega) hu (fun w=>by have:=Cc hi w; rw[hk]at this; exact this) fun u hu'=> ?_;exact hk' η m w u Env.le_refl (Mem.rfl' m) (fun n h=> .inl h) (.d (On hu')) S
    ·cases e1
   ·cases e1
  ·cases e1
 ·cases e1
end
def cntS (s:ByteArray)(c:UInt8):Int:=(Lib.countByte s.data.toList c:Nat)
def TR (s:ByteArray)(c:UInt8):Int:=Lib.indexByte s.data.toList c
structure UN (P:Program)(fn:Func)(F:ByteArray→UInt8→Int):Prop where
 hname:(fn.name== "runtime.NumGoroutine")=false
 hb:fn.body.isNone=true
 hn:Extern.findNext fn=none
 he: ∃E,Extern.find fn=some E∧∀s c w,(E #[vS s,vB c]).run P w= .ok (vI (F s c)) w
theorem extCnt {P:Program}{fn:Func}(hname:(fn.name== "runtime.NumGoroutine")=false)(hb:fn.body.isNone=true)(hn:Extern.findNext fn=none)(he:Extern.find fn=some Extern.BytealgCount.count):UN P fn cntS:=
 ⟨hname,hb,hn,_,he,fun s c w=>by
  have:=Lib.run_countString (P:=P) s (c.toNat:Int) w;rw[show((c.toNat:Int).toNat).toUInt8=c by simp]at this;exact this⟩
theorem extIxb {P:Program}{fn:Func}(hname:(fn.name== "runtime.NumGoroutine")=false)(hb:fn.body.isNone=true)(hn:Extern.findNext fn=none)(he:Extern.find fn=some Extern.BytealgIndexByte.indexByte):UN P fn TR:=
 ⟨hname,hb,hn,_,he,fun s c w=>by
  have:=Lib.run_indexByteString (P:=P) s (c.toNat:Int) w;rw[show((c.toNat:Int).toNat).toUInt8=c by simp]at this;exact this⟩
def extK (cf:Cf):Option (FuncId×AV×AV):=
 match EF cf with
 |some a=>match a.o.op with
  | .call c=>match c.callee,c.args.toList with
   | .value (.func k),[x,y]=>some (k,aev a.sl x,aev a.sl y)
   |_,_=>none
  |_=>none
 |none=>none
section
variable {ρ:Option Nat}{P:Program}{N:Nat}{D0:Dw}{Q:C5}{As:List Ow}{η0:Env}{m0:Mem}
variable {ops:Array Oper}{rest:List Oper}{f:Fr}{w w':World}{dst:Option Nat}{ty:TypeId}{pos:String}{af:Array Edge}{x y:Operand}
theorem XG {k:FuncId}{fn:Func}{F:ByteArray→UInt8→Int}{p:ByteArray}{q:UInt8}{ats:Array TypeId}(hf:P.funcs[k]? =some fn)(hE:UN P fn F)(hx:ev f x=vS p)(hy:ev f y=vB q)
  (h:wpl ρ P N D0 ops rest Q (upo N f dst (vI (F p q))) w):
  wpl ρ P N D0 ops (⟨dst,.call {callee:= .value (.func k),args:= #[x,y],argTypes:=ats},ty,pos,af,none⟩::rest) Q f w:=by
 obtain⟨hname,hb,hn,E,he,hr0⟩:=hE;refine Av (v:=vI (F p q)) (w':=w) rfl (fun _ e=>by cases e) ?_ h;have hr:=run_callFunc_extern hf hname hb hn he #[vS p,vB q] w;rw[hr0]at hr;simp only[ev]at hx hy;simp only[execOp,resolve,invoke,Deferred.ofValue,List.map_toArray,List.map_cons,List.map_nil,ev,hx,hy,Sem.run_bind,Sem.run_pure,Result.andThen_ok,Array.empty_append,Array.append_empty,hr,Result.andThen]
theorem go_ext (hm:P.follows .mixedOrders=true){n:Nat}{cf:Cf}{k:FuncId}{fn:Func}{F:ByteArray→UInt8→Int}{p:ByteArray}{q:UInt8}(hf:P.funcs[k]? =some fn)(hE:UN P fn F)
  (e:(extK (adv P N n cf).1,((adv P N n cf).2++A3 (adv P N n cf).1).map (·.1))=(some (k,.d (.s p),.d (.b q)),((adv P N n cf).2++A3 (adv P N n cf).1).map (·.2)))
  (g:Go ρ P N D0 Q As η0 m0 (A9 N (adv P N n cf).1 (.d (.i (F p q))) [])):Go ρ P N D0 Q As η0 m0 cf:=by
 simp only[Prod.mk.injEq]at e;obtain⟨e1,e3⟩:=e;obtain⟨he1,he2⟩:=EqsOk.two e3;refine BA hm he1 ?_;generalize (adv P N n cf).1=c0 at*;unfold extK at e1;split at e1
 ·rename_i a ha;rw[CU ha]at he2;split at e1
  ·rename_i c hop;split at e1
   ·rename_i k' x y hc hargs;simp only[Option.some.injEq,Prod.mk.injEq]at e1;obtain⟨rfl,ex,ey⟩:=e1;refine CT (rd:=[]) ha he2 HB (fun hp=> ?_) g;obtain⟨l,⟨dst,op',ty,pos,af,gd⟩,gg,sl,es⟩:=a;obtain⟨cc,cas,cts⟩:=c;simp only at hop ex ey hc hargs⊢; subst hop hc;have ha':cas= #[x,y]:=by apply Array.toList_inj.mp; rw[hargs]
    subst ha';refine⟨Nat.le_refl _,fun rest Q η m f w As hr hz hn S hk=> ?_⟩;have rx:=Ao hr x;have ry:=Ao hr y;rw[ex]at rx;rw[ey]at ry;exact XG hf hE rx.s_inv ry.b_inv (hk η m w _ Env.le_refl (Mem.rfl' m) (fun n h=> .inl h) (.d (.i _)) S)
   ·cases e1
  ·cases e1
 ·cases e1
theorem SK {t:TypeId}{s z:ByteArray}{lo hi:Option Operand}{l h:Int}(hx:ev f x=vS s)(hu:P.underlying t=some .string)
  (hlo:(lo=none∧l=0)∨∃o k,lo=some o∧ev f o= .int k l) (hhi:(hi=none∧h=(s.size:Int))∨∃o k,hi=some o∧ev f o= .int k h) (hq:LI s l h=some z)
  (hk:wpl ρ P N D0 ops rest Q (upo N f dst (vS z)) w):wpl ρ P N D0 ops (⟨dst,.slice t x lo hi none,ty,pos,af,none⟩::rest) Q f w:=by
 refine Av (v:=vS z) (w':=w) rfl (fun _ e=>by cases e) ?_ hk;have key:(Instr.slice t (.string s) (lo.map (ev f)) (hi.map (ev f)) none).run P w= .ok (.string z) w:=by
  refine Qy hu ?_ ?_ hq
  ·rcases hlo with ⟨rfl,rfl⟩|⟨o,k,rfl,e⟩
   ·exact .inl ⟨rfl,rfl⟩
   ·exact .inr ⟨k,by simp only[Option.map_some,e]⟩
  ·rcases hhi with ⟨rfl,rfl⟩|⟨o,k,rfl,e⟩
   ·exact .inl ⟨rfl,rfl⟩
   ·exact .inr ⟨k,by simp only[Option.map_some,e]⟩
 simp[execOp,hx,Instr.sliceAt,run_underlying hu,key]
end
end Go.Ax
end
section
namespace Go.Ax
open Go Go.Gw
section
variable {ρ:Option Nat}{P:Program}{N:Nat}{D0:Dw}{Q Q':C5}{As:List Ow}{η0:Env}{m0:Mem}
theorem DA (hq: ∀e f w,Q e f w→Q' e f w): ∀{K:List Kt} {e:Exit} {f:Fr} {w:World},pk ρ P N D0 Q K e f w→pk ρ P N D0 Q' K e f w
 | [],e,f,w,h=>hq e f w h
 | .code c::K,e,f,w,h=>by
  cases e with
  |normal=>exact F6 (fun e f w q=>DA hq q) h
  |_=>exact DA hq (K:=K) h
 | .blk id::K,e,f,w,h=>by
  cases e with
  |exit id'=>
   simp only[pk,LG]at h⊢;cases hb:Nat.beq id' id
   ·rw[hb]at h; exact DA hq (K:=K) h
   ·rw[hb]at h; exact DA hq (K:=K) h
  |_=>exact DA hq (K:=K) h
 | .scp::K,e,f,w,h=>by
  cases e with
  |goto l=>exact h.elim
  |_=>exact DA hq (K:=K) h
 | .ctn J::K,e,f,w,h=>by
  cases e with
  |normal=>exact h
  |_=>exact DA hq (K:=K) h
theorem UM {ops:Array Oper}{F F':AS→List (Oper×Stp)→Prop}(hF: ∀s h,F s h→F' s h): ∀{l:List Oper} {s:AS} {h:List (Oper×Stp)},FT ρ P N D0 ops F l s h→FT ρ P N D0 ops F' l s h
 | [],s,h,g=>hF s h g
 |o::l,s,h,⟨r,t1,t2,t3⟩=>⟨r,t1,t2,UM hF t3⟩
theorem Go.mono (hq: ∀e f w,Q e f w→Q' e f w){cf:Cf}(h:Go ρ P N D0 Q As η0 m0 cf):Go ρ P N D0 Q' As η0 m0 cf:=by
 obtain⟨s,md,K⟩:=cf;cases md with
 |code c=>exact fun η m f w a b g=>F6 (fun e f w q=>DA hq q) (h η m f w a b g)
 |pop=>exact fun η m f w a b g=>DA hq (h η m f w a b g)
 |ext id=>exact fun η m f w a b g=>DA hq (h η m f w a b g)
 |ret=>exact fun η m f w a b g=>DA hq (h η m f w a b g)
 |ops dr l rest hh=>
  rcases h with h|⟨hd,h⟩|⟨hd,h⟩
  ·exact .inl (UM (fun s h F=>⟨F.1,fun η m f w a b g=>DA hq (F.2 η m f w a b g)⟩) h)
  ·exact .inr (.inl ⟨hd,fun η m f w a b g=>MB (fun e f w q=>DA hq q) (h η m f w a b g)⟩)
  ·obtain⟨rs,bad,k,p,h1,h2,h3,h4,h5,h6,h7,h8,h9⟩:=h;exact .inr (.inr ⟨hd,rs,bad,k,p,h1,h2,h3,h4,h5,h6,h7,h8,fun η m f w Bs a b c d=>MB (fun e f w q=>match e,q with| .normal,q=>q.elim| .exit _,q=>DA hq q| .goto _,q=>DA hq q| .ret,q=>DA hq q| .panic _,q=>DA hq q| .outgrown,q=>DA hq q) (h9 η m f w Bs a b c d)⟩)
end
def chn (ov:Value):List PanicEntry:=[{v:=ov,recovered:=false}]
def Rj (P:Program)(k:FuncId)(args:Array Value)(w:World)(ov:Value)(R:Value→World→Prop)(X:World→Prop):Prop:=Calls P k args w fun e w'=>(∃v,e= .returned v∧Kd w w'∧R v w')∨(e= .panicked (chn ov)∧Kd w w'∧X w')
theorem Rj.ret {P:Program}{k:FuncId}{args:Array Value}{w:World}{ov:Value}{R:Value→World→Prop}{X:World→Prop}(h:Rj P k args w ov R X)(hx: ∀w',¬X w'):AB P k args w R:=
 Calls.mono h fun e w' q=>by
  rcases q with q|⟨_,_,q⟩
  ·exact q
  ·exact absurd q (hx w')
def outB (P:Program)(N:Nat)(fn:Func)(R:Value→World→Prop)(ov:Value)(X:World→Prop):C5:=fun e f w=>match e with| .panic ch=>ch=chn ov∧∀w',Pd w w'→X w'|e=>UW P N fn R e f w
section
variable {ρ:Option Nat}{P:Program}{N:Nat}{D0:Dw}{Q:C5}{As:List Ow}{η0:Env}{m0:Mem}
theorem Jc {fn:Func}{tmps:Array Value}{R:Ending→World→Prop}{w0:World}{u:FrameMode}{ds:List Deferred}(hu:u≠ .run): ∀(E:List Nat) (w:World),Kd w0 w→E.Nodup→(∀b∈E,w0.heap.size≤b∧w.heap[b]? =some dfr)→
  (∀w',Pd w w'→Kd w0 w'→LeavesInM (FW none) 0 P fn tmps R ds u w')→LeavesInM (FW none) 0 P fn tmps R (E.map Gw.mark++ds) u w:=by
 intro E;induction E with
 |nil=>exact fun w hk _ _ h=>h w (Pd.rfl' w) hk
 |cons b E ih=>
  intro w hk hn hl h;obtain⟨hb1,hb2⟩:=hl b (by simp);have hlt:=(Array.getElem?_eq_some_iff.1 hb2).1;have hpd:Pd w (w.putObj b (.deferred none)):=⟨rfl,rfl,rfl,fun k o ho e=>by
   by_cases q:k=b
   ·subst q; rw[hb2]at e; cases e; exact absurd rfl ho
   ·rw[World.putObj_heap_other q]; exact e⟩
  refine⟨hu,.inl ⟨b,w.putObj b (.deferred none),rfl,run_takeDeferred hb2,?_⟩⟩;refine ih _ ⟨by simpa using hk.size,fun k e=> ?_⟩ (List.nodup_cons.1 hn).2 (fun c hc=>⟨(hl c (by simp[hc])).1,?_⟩) (fun w' p=>h w' (hpd.tr p))
  ·have:=(Array.getElem?_eq_some_iff.1 e).1;rw[World.putObj_heap_other (by omega)]; exact hk.same k e
  ·have:c≠b:=fun q=>(List.nodup_cons.1 hn).1 (q▸hc);rw[World.putObj_heap_other this]; exact(hl c (by simp[hc])).2
theorem sim0 {fn:Func}{args:List Value}(hN:fn.ntmps=N)(hle:args.length≤N):Sim N {tmps:=args.toArray++Array.replicate (fn.ntmps-args.toArray.size) undef,defers:=[]} (f0 args):=by
 refine⟨by simp[hN]; omega,fun t=> ?_⟩;simp only[f0,Array.getD_eq_getD_getElem?,List.getD_eq_getElem?_getD,Array.getElem?_append];split
 ·simp
 ·rename_i h1;simp at h1;rw[List.getElem?_eq_none h1];rw[Array.getElem?_replicate];split<;>rfl
theorem callsB {k:FuncId}{fn:Func}{c:Code}{args:List Value}{R:Value→World→Prop}{ov:Value}{X:World→Prop}{w:World}(hf:P.funcs[k]? =some fn)(hb:fn.body=some c)(hN:fn.ntmps=N)
  (hle:args.length≤N) (h:wpc none P N (w,[],false) c (outB P N fn R ov X) (f0 args) w):Rj P k args.toArray w ov R X:=by
 refine Lq (ρ:=none) (n:=0) (callsIn_of_wp_marks hf hb trivial ?_);refine wpIn_mono (h _ ⟨sim0 hN hle,Okd.nil rfl⟩) ?_;rintro e a w' ⟨f',⟨s,ok⟩,q⟩;obtain⟨E,hE,-,hn,hl⟩:=ok.marks;have fin:(∀w'',Pd w' w''→∃v,(∀a,Sim N a f'→(results fn a.tmps).run P w''= .ok v w'')∧R v w'')→
   LeavesInM (FW none) 0 P fn a.tmps (fun e w'=>(∃v,e= .returned v∧Kd w w'∧R v w')∨(e= .panicked (chn ov)∧Kd w w'∧X w')) a.defers .returning w':=fun q=>by
  rw[hE];refine Jc (by simp) E w' ok.keep hn hl fun w'' p k=> ?_;obtain⟨v,hr,hR⟩:=q w'' p;exact⟨v,hr a s,.inl ⟨v,rfl,k,hR⟩⟩
 cases e with
 |normal=>exact fin q
 |ret=>exact fin q
 |exit id=>exact q.elim
 |goto l=>exact q.elim
 |panic ch=>
  obtain⟨rfl,hX⟩:=q;show LeavesInM _ _ _ _ _ _ a.defers _ _;rw[hE];exact Jc (by simp) E w' ok.keep hn hl fun w'' p k=>Or.inr ⟨rfl,k,hX w'' p⟩
 |outgrown=>exact q.elim
def Sb (P:Program)(k:FuncId)(args:List AV)(obs:List AObj)(n0:Nat)(ov:Value)(Po:AV→List AObj→Nat→Prop)(Xp:Prop):Prop:=(∀(a:Array Value) w,(callFunc k a).run P w= .ok (.enter k a) w)∧∀(η:Env) (m:Mem) (As:List Ow) (w:World) (vs:List Value),Bo η m args vs→(∀n,η n≠none→n<n0)→St m (obs.map (rep η m)++As) w→Rj P k vs.toArray w ov (fun v w'=> ∃(M:Mem) (η':Env) (r:AV) (obs':List AObj) (n1:Nat),m≤M∧η.le η'∧Po r obs' n1∧(∀n,η' n≠none→n<n1)∧Rel η' M r v∧St M (obs'.map (rep η' M)++As) w') (fun w'=>Xp∧∃M,m≤M∧St M As w')
def Pos {β:Type}(x:Option β)(A:β→AV)(O:β→List AObj)(n1:Nat):AV→List AObj→Nat→Prop:=fun a o n=> ∃r,x=some r∧a=A r∧o=O r∧n=n1
theorem Sb.sp {k:FuncId}{args:List AV}{obs:List AObj}{n0 n1:Nat}{ov:Value}{β:Type}{r:β}{A:β→AV}{O:β→List AObj}(h:Sb P k args obs n0 ov (Pos (some r) A O n1) (some r=none)):Sp P k args obs n0 (is (A r) (O r) n1):=
 ⟨h.1,fun η m As w vs a b c=>AB.mono ((h.2 η m As w vs a b c).ret fun w' q=>by cases q.1) fun v w' ⟨M,η',r',obs',n',q1,q2,⟨r2,e,e1,e2,e3⟩,q4,q5,q6⟩=>by
  cases e;exact⟨M,η',r',obs',n',q1,q2,⟨e1,e2,e3⟩,q4,q5,q6⟩⟩
def PostX (As:List Ow)(m0:Mem)(Xp:Prop):World→Prop:=fun w'=>Xp∧∃M,m0≤M∧St M As w'
theorem sb_of {k:FuncId}{fn:Func}{c:Code}{args:List AV}{obs:List AObj}{n0:Nat}{ov:Value}{Po:AV→List AObj→Nat→Prop}{Xp:Prop}(hc: ∀(a:Array Value) w,(callFunc k a).run P w= .ok (.enter k a) w)(hf:P.funcs[k]? =some fn)(hb:fn.body=some c)(hN:fn.ntmps=N)
  (hle:Nat.ble args.length N=true) (h: ∀D0 As η0 m0,(∀n,η0 n≠none→n<n0)→Go none P N D0 (outB P N fn (NW As η0 m0 Po) ov (PostX As m0 Xp)) As η0 m0 ⟨OQ args obs n0,.code c,[]⟩):Sb P k args obs n0 ov Po Xp:=by
 refine⟨hc,fun η m As w vs hv hd S=> ?_⟩;refine callsB hf hb hN (by rw[←hv.1]; exact Nat.le_of_ble_eq_true hle) ?_;exact h (w,[],false) As η m hd η m (f0 vs) w Env.le_refl (Mem.rfl' m) (PZ hv hd S)
variable {ops:Array Oper}{rest:List Oper}{o:Oper}{f:Fr}{w w':World}
def plainO (cf:Cf):Bool:=match cf.md with| .ops false _ (o::_) _=>o.guard.isNone|_=>false
def panS (cf:Cf)(ea:List AV)(eobs:List AObj):AS:=match PF cf ea eobs with|some p=>{cf.s with ob:=C4 (tids ((p.ut++p.fw)++p.fr)) cf.s.ob}|none=>cf.s
def XL (P:Program)(N:Nat)(l:List Oper)(k:Nat):Nat→AS→List Oper→Option (D2×Eqs)
 |_,_,[]=>some ([],[])
 |i,s,o::rest=>
  bif anc (LZ l []) i k then
   match XL P N l k (i+1) (after N s o ⟨.any,[],[],[],s.nx,[]⟩) rest with
   |some q=>some ((o,⟨.any,[],[],[],s.nx,[]⟩)::q.1,q.2)
   |none=>none
  else match stepG P l.toArray s.fz s.sl s.ob s.nx o with
   |some r=>match XL P N l k (i+1) (after N s o r) rest with
    |some q=>some ((o,r)::q.1,r.es++q.2)
    |none=>none
   |none=>none
def panR (s:AS)(p:UL):Stp:=⟨.any,(p.ut++p.fw)++p.fr,[],[],s.nx,[]⟩
def panD (P:Program)(N:Nat)(cf:Cf)(ea:List AV)(eobs:List AObj):Option (Bool×Eqs):=
 match cf.md,PF cf ea eobs with
 | .ops true l (o::rest) h,some p=>match XL P N l h.length (h.length+1) (after N cf.s o (panR cf.s p)) rest with
  |some q=>some (o.guard.isNone&&OV l (h++(o,panR cf.s p)::q.1),q.2)
  |none=>none
 |_,_=>none
def panE (P:Program)(N:Nat)(cf:Cf)(ea:List AV)(eobs:List AObj):Eqs:=match panD P N cf ea eobs with|some q=>q.2|none=> []
end
def throwK (N:Nat)(cf:Cf):Option TypeId:=
 match cf.md with
 | .ops false l [⟨some d,.makeInterface t x,_,_,_,none⟩,⟨none,.panic (.tmp d'),_,_,_,none⟩] _=>
  bif Nat.beq d' d&&Nat.blt d N then match aev cf.s.sl x with
   | .agg []=>some t
   |_=>none
  else none
 |_=>none
section
variable {ρ:Option Nat}{P:Program}{N:Nat}{D0:Dw}{Q:C5}{As:List Ow}{η0:Env}{m0:Mem}
variable {ops:Array Oper}{rest:List Oper}{o:Oper}{f:Fr}{w w':World}
end
section
variable {ρ:Option Nat}{P:Program}{N:Nat}{D0:Dw}{Q:C5}{As:List Ow}{η0:Env}{m0:Mem}
def outG (Je:Fr→World→Prop)(ov:Value)(Jx:Fr→World→Prop):C5:=fun e f w=>match e with| .normal=>Je f w| .ret=>Je f w| .panic ch=>ch=chn ov∧Jx f w|_=>False
def okM (P:Program)(fn:Func)(w:World)(R:Value→World→Prop):Exit→Act→World→Prop:=bodyPostM (FW none) 0 P fn fun e w'=> ∃v,e= .returned v∧Kd w w'∧R v w'
end
end Go.Ax
end
section
namespace Go.Ax
open Go Go.Gw
section
variable {κ γ:Type}
end
section
variable {ρ:Option Nat}{P:Program}{N:Nat}{D0:Dw}{Q:C5}{As:List Ow}{η0:Env}{m0:Mem}
def ckF (P:Program)(E:TypeId→AV→Bool):List Field→List AV→Bool
 | [],_=>true
 |fd::r,cs=>bif fd.name== "_" then false else
  match PI P fd.type cs fd.offset with
  |some a=>E fd.type a&&ckF P E r cs
  |none=>false
def ckT (P:Program):Nat→TypeId→AV→Bool
 |0,_,_=>false
 |f+1,t,a=>
  match P.underlying t,a with
  |some (.struct fs),.agg cs=>ckF P (ckT P f) fs.toList cs
  |some (.array 2 e),.agg [.d (.u p),.d (.u q)]=>match P.underlying e,HA P e with
   |some (.int .u64),some i=>Nat.beq i.sz 1&& !i.agg
   |_,_=>false
  |some (.int .i64),.d (.i _)=>true
  |some (.int .u64),.d (.u _)=>true
  |some .bool,.d (.t _)=>true
  |some .string,.d (.s _)=>true
  |_,_=>false
def wideK (P:Program)(k:TypeId):Bool:=match P.underlying k with|some (.array _ _)|some (.struct _)=>true|_=>false
structure MG:Type 1 where
 κ:Type
 γ:Type
 K:κ→List D
 c:γ→D
 kv:List (κ×γ)
def lkgK (P:Program)(cf:Cf):Option (MG×AV×TypeId×TypeId×Bool):=
 match EF cf with
 |some a=>match a.o.op with
  | .lookup t x y ok=>match P.underlying t,aev a.sl x with
   |some (.map kt et),.ow n=>match T0 cf.s.ob n with
    |some (_,.mg κ γ K c kv)=>some (⟨κ,γ,K,c,kv⟩,aev a.sl y,kt,et,ok)
    |_=>none
   |_,_=>none
  |_=>none
 |none=>none
def lkgT (P:Program)(cf:Cf):List Tok:=
 match EF cf with
 |some a=>match a.o.op with
  | .lookup t x y ok=>match aev a.sl x with
   | .ow n=>match T0 cf.s.ob n with
    |some (i,q)=> [(i,.hp n q)]
    |_=> []
   |_=> []
  |_=> []
 |none=> []
def zOk (P:Program)(et:TypeId)(d:D):Bool:=
 match HA P et with
 |some i=>match i.z,d with
  |some (.bool b),.t p=> !p&& !b
  |some (.int .i64 k),.i n=>k==n
  |_,_=>false
 |none=>false
def ansG {γ:Type}(c:γ→D)(z:γ)(r:Option γ)(ok:Bool):AV:=bif ok then .tup [.d (c (r.getD z)),.d (.t r.isSome)]else .d (c (r.getD z))
def upgK (P:Program)(cf:Cf):Option (MG×AV×AV×TypeId):=
 match EF cf with
 |some a=>match a.g,a.o.op with
  |none,.mapUpdate t x y v=>match P.underlying t,aev a.sl x with
   |some (.map kt et),.ow n=>match T0 cf.s.ob n with
    |some (_,.mg κ γ K c kv)=>some (⟨κ,γ,K,c,kv⟩,aev a.sl y,aev a.sl v,kt)
    |_=>none
   |_,_=>none
  |_,_=>none
 |none=>none
def upgS {κ γ:Type}(K:κ→List D)(c:γ→D)(kv:List (κ×γ))(cf:Cf):Stp:=
 match EF cf with
 |some a=>match a.o.op with
  | .mapUpdate t x y v=>match aev a.sl x with
   | .ow n=>match T0 cf.s.ob n with
    |some (i,q)=>⟨.no,[],[(i,.hp n q)],[(cf.s.nx,.hp n (.mg κ γ K c kv))],cf.s.nx+1,[]⟩
    |_=>⟨.any,[],[],[],cf.s.nx,[]⟩
   |_=>⟨.any,[],[],[],cf.s.nx,[]⟩
  |_=>⟨.any,[],[],[],cf.s.nx,[]⟩
 |none=>⟨.any,[],[],[],cf.s.nx,[]⟩
end
end Go.Ax
end
