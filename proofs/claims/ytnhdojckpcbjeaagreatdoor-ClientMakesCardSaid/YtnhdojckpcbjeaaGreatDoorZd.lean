/- Several texts, one behind the other. Conditions: none. -/
import Derived.Test.YtnhdojckpcbjeaaGreatDoorZc
import Derived.KernelRfl
import Derived.Lib.Bytealg
set_option linter.unusedSimpArgs false
set_option linter.unusedVariables false
section
namespace Go.Ax
open Go Go.Gw
@[reducible] def TJ {α:Type}(E:α->List D)(sz:Nat):GoT α where
 sz:=sz
 rep m cs x:=FRL m (E x) cs/\(E x).length=sz
 len h:=by rw[<-h.1.1,h.2]
 up l h:=⟨h.1.up l,h.2⟩
 one h:=h.1.one
section
variable {α:Type}{E:α->List D}{m:Mem}{v:Value}{sz:Nat}
theorem AdL: ∀{xs:List α} {cs:List Value},FRL m (xs.flatMap E) cs->(∀x∈xs,(E x).length=sz)-> @Cl α (TJ E sz) m cs xs
 | [],cs,h,_=>show cs=[]from FRL.nil_inv (by simpa using h)
 |x::xs,cs,h,hE=>by
  rw[AoK]at h;have h1:=h.take (E x).length;have h2:=h.drop (E x).length;rw[List.take_left]at h1;rw[List.drop_left]at h2;exact⟨_,_,(List.take_append_drop _ _).symm,⟨h1,hE x Aoe⟩,AdL h2 λy hy=>hE y (Aok _ hy)⟩
theorem Afv: ∀{xs:List α} {cs:List Value}, @Cl α (TJ E sz) m cs xs->FRL m (xs.flatMap E) cs/\∀x∈xs,(E x).length=sz
 | [],cs,h=>by
  have:cs=[]:=h;subst this; exact⟨.nil,λ_ h=>by cases h⟩
 |x::xs,cs,⟨c,d,e,h1,h2⟩=>by
  subst e;have ih:=Afv h2;refine⟨by rw[AoK]; exact h1.1.append ih.1,λy hy=> ?_⟩;rcases Aom.1 hy with q|q
  ·subst q; exact h1.2
  ·exact ih.2 y q
theorem Zq {xs:List α}(h: @SlR α (TJ E sz) m v xs):FR m (.sl α E xs) v:=by
 obtain⟨cs,h1,h2⟩:=h;have:=Afv h2;exact .sl h1 this.2 this.1.1 this.1.2
theorem Abt {xs:List α}(h:FR m (.sl α E xs) v)(hE: ∀x,(E x).length=sz): @SlR α (TJ E sz) m v xs:=by
 cases h with
 | @sl _ _ _ sz' _ cs h hE' hl hr=>
  refine⟨cs,?_,AdL ⟨hl,hr⟩ λx _=>hE x⟩;cases xs with
  |nil=>
   have:cs=[]:=by simp at hl; exact List.length_eq_zero_iff.1 hl.symm
   subst this;exact⟨by simp,h.2.1,h.2.2⟩
  |cons x xs=>
   have:sz'=sz:=by rw[<-hE' x Aoe,hE x]
   subst this; exact h
end
def AhJ (φ:Nat->Nat):AV->AV
 | .pb n o=> .pb (φ n) o
 | .ow n=> .ow (φ n)
 | .ab n=> .ab (φ n)
 | .bs n o k c=> .bs (φ n) o k c
 |a=>a
def renB (φ:Nat->Nat):AV->AV
 | .agg cs=> .agg (cs.map (AhJ φ))
 |a=>AhJ φ a
def Ael (φ:Nat->Nat):AV->AV
 | .tup cs=> .tup (cs.map (renB φ))
 | .fn f ps cs=> .fn f (ps.map (AhJ φ)) (cs.map (AhJ φ))
 |a=>renB φ a
def ZF (φ:Nat->Nat):AObj->AObj
 | .box n cs t=> .box (φ n) (cs.map (Ael φ)) t
 | .row n sz α E xs=> .row (φ n) sz α E xs
 | .fr n d=> .fr (φ n) d
 | .hp n k=> .hp (φ n) k
section
variable {U u5:Env}{m:Mem}{φ:Nat->Nat}{n:Nat}
theorem Afz (h: ∀k,k<n->∀u,u5 k=some u->U (φ k)=some u){a:AV}{v:Value}(ho:ok0 n a=true)(r:Rel u5 m a v):Rel U m (AhJ φ a) v:=by
 cases r<;>simp only[ok0,reduceCtorEq]at ho
 ·rename_i h1; exact .d h1
 ·exact .any _
 ·exact .no
 ·rename_i h1; exact .pb (h _ (Da ho) _ h1)
 ·rename_i h1; exact .bs (h _ (Da ho) _ h1)
 ·rename_i h2 h1; exact .ow (h _ (Da ho) _ h2) h1
 ·rename_i h2 h1; exact .ab (h _ (Da ho) _ h2) h1
theorem XV (h: ∀k,k<n->∀u,u5 k=some u->U (φ k)=some u){cs:List AV}{vs:List Value}(ho:cs.all (ok0 n)=true)(r:BB u5 m cs vs):BB U m (cs.map (AhJ φ)) vs:=
 ⟨by simpa using r.1,λk c u a b=>by
  simp only[Aoz,AnZ]at a;obtain⟨c',hc,rfl⟩:=a;exact Afz h (Aoj.1 ho c' (Aoh hc)) (r.2 k c' u hc b)⟩
theorem Afx (h: ∀k,k<n->∀u,u5 k=some u->U (φ k)=some u){a:AV}{v:Value}(ho:okB n a=true)(r:Rel u5 m a v):Rel U m (renB φ a) v:=by
 cases a
 case agg cs=>
  obtain⟨vs,rfl,k⟩:=r.agg_inv;have:=XV h ho k;exact .agg this.1 this.2
 all_goals exact Afz h (by exact ho) r
theorem Abo (h: ∀k,k<n->∀u,u5 k=some u->U (φ k)=some u){a:AV}{v:Value}(ho:okA n a=true)(r:Rel u5 m a v):Rel U m (Ael φ a) v:=by
 cases a
 case tup cs=>
  obtain⟨vs,rfl,k⟩:=r.tup_inv;refine .tup (by simpa using k.1) λi c u a b=> ?_;simp only[Aoz,AnZ]at a;obtain⟨c',hc,rfl⟩:=a;exact Afx h (Aoj.1 ho c' (Aoh hc)) (k.2 i c' u hc b)
 case fn f ps cs=>
  simp only[okA,AnP]at ho;obtain⟨us,vs,rfl,h1,h2⟩:=r.fn_inv;have a:=XV h ho.1 h1;have b:=XV h ho.2 h2;exact .fn a.1 b.1 a.2 b.2
 all_goals exact Afx h (by exact ho) r
theorem AfA (h: ∀k,k<n->U (φ k)=u5 k){a:AV}{v:Value}(ho:ok0 n a=true)(r:Rel U m (AhJ φ a) v):Rel u5 m a v:=by
 cases a<;>simp only[ok0,reduceCtorEq]at ho<;>simp only[AhJ]at r
 ·exact .d r.dd
 ·exact .any _
 ·cases r; exact .no
 ·obtain⟨b,h1,rfl⟩:=r.pb_inv; exact .pb (by rw[<-h _ (Da ho)]; exact h1)
 ·obtain⟨b,h1,rfl⟩:=r.bs_inv; exact .bs (by rw[<-h _ (Da ho)]; exact h1)
 ·obtain⟨h1,h2⟩:=r.ow_inv; exact .ow (by rw[<-h _ (Da ho)]; exact h1) h2
 ·obtain⟨h1,h2⟩:=r.ab_inv; exact .ab (by rw[<-h _ (Da ho)]; exact h1) h2
theorem XW (h: ∀k,k<n->U (φ k)=u5 k){cs:List AV}{vs:List Value}(ho:cs.all (ok0 n)=true)(r:BB U m (cs.map (AhJ φ)) vs):BB u5 m cs vs:=
 ⟨by simpa using r.1,λk c u a b=>AfA h (Aoj.1 ho c (Aoh a)) (r.2 k (AhJ φ c) u (by simp[a]) b)⟩
theorem Afy (h: ∀k,k<n->U (φ k)=u5 k){a:AV}{v:Value}(ho:okB n a=true)(r:Rel U m (renB φ a) v):Rel u5 m a v:=by
 cases a
 case agg cs=>
  obtain⟨vs,rfl,k⟩:=r.agg_inv;have:=XW h ho k;exact .agg this.1 this.2
 all_goals exact AfA h (by exact ho) r
theorem Amf (h: ∀k,k<n->U (φ k)=u5 k){a:AV}{v:Value}(ho:okA n a=true)(r:Rel U m (Ael φ a) v):Rel u5 m a v:=by
 cases a
 case tup cs=>
  obtain⟨vs,rfl,k⟩:=r.tup_inv;refine .tup (by simpa using k.1) λi c u a b=> ?_;exact Afy h (Aoj.1 ho c (Aoh a)) (k.2 i (renB φ c) u (by simp[a]) b)
 case fn f ps cs=>
  simp only[okA,AnP]at ho;obtain⟨us,vs,rfl,h1,h2⟩:=r.fn_inv;have a:=XW h ho.1 h1;have b:=XW h ho.2 h2;exact .fn a.1 b.1 a.2 b.2
 all_goals exact Afy h (by exact ho) r
theorem XU (h: ∀k,k<n->U (φ k)=u5 k){cs:List AV}{vs:List Value}(ho:cs.all (okA n)=true)(r:BB U m (cs.map (Ael φ)) vs):BB u5 m cs vs:=
 ⟨by simpa using r.1,λk c u a b=>Amf h (Aoj.1 ho c (Aoh a)) (r.2 k (Ael φ c) u (by simp[a]) b)⟩
theorem Afw (h: ∀k,k<n->∀u,u5 k=some u->U (φ k)=some u){cs:List AV}{vs:List Value}(ho:cs.all (okA n)=true)(r:BB u5 m cs vs):BB U m (cs.map (Ael φ)) vs:=
 ⟨by simpa using r.1,λk c u a b=>by
  simp only[Aoz,AnZ]at a;obtain⟨c',hc,rfl⟩:=a;exact Abo h (Aoj.1 ho c' (Aoh hc)) (r.2 k c' u hc b)⟩
theorem Abn (h: ∀k,k<n->U (φ k)=u5 k){o:AObj}{x:PH}(ho:okO n o=true)(r:rep U m (ZF φ o) x):rep u5 m o x:=by
 cases o with
 |box nm cs t=>
  simp only[okO,AnP]at ho;obtain⟨b,vs,p,q,z,u⟩:=r;exact⟨b,vs,by rw[<-h _ (Da ho.1)]; exact p,XU h ho.2 q,z,u⟩
 |row nm sz α E xs=>
  simp only[okO]at ho;obtain⟨v,cs,p,r⟩:=r;exact⟨v,cs,by rw[<-h _ (Da ho)]; exact p,r⟩
 |fr nm d=>
  simp only[okO]at ho;obtain⟨v,p,r⟩:=r;exact⟨v,by rw[<-h _ (Da ho)]; exact p,r⟩
 |hp nm d=>
  simp only[okO]at ho;obtain⟨v,p,r⟩:=r;exact⟨v,by rw[<-h _ (Da ho)]; exact p,r⟩
theorem Abm (h: ∀k,k<n->∀u,u5 k=some u->U (φ k)=some u){o:AObj}{x:PH}(ho:okO n o=true)(r:rep u5 m o x):rep U m (ZF φ o) x:=by
 cases o with
 |box nm cs t=>
  simp only[okO,AnP]at ho;obtain⟨b,vs,p,q,z,u⟩:=r;exact⟨b,vs,h _ (Da ho.1) _ p,Afw h ho.2 q,z,u⟩
 |row nm sz α E xs=>
  simp only[okO]at ho;obtain⟨v,cs,p,r⟩:=r;exact⟨v,cs,h _ (Da ho) _ p,r⟩
 |fr nm d=>
  simp only[okO]at ho;obtain⟨v,p,r⟩:=r;exact⟨v,h _ (Da ho) _ p,r⟩
 |hp nm d=>
  simp only[okO]at ho;obtain⟨v,p,r⟩:=r;exact⟨v,h _ (Da ho) _ p,r⟩
theorem Ame {o:AObj}{x:PH}(r:rep U m o x): ∃v,U o.nm=some v:=by
 cases o with
 |box=>obtain⟨b,vs,p,_⟩:=r; exact⟨_,p⟩
 |row=>obtain⟨v,cs,p,_⟩:=r; exact⟨_,p⟩
 |fr=>obtain⟨v,p,_⟩:=r; exact⟨_,p⟩
 |hp=>obtain⟨v,p,_⟩:=r; exact⟨_,p⟩
end
abbrev Mt:=List (Nat×Nat)
def mt0:AV->AV->Mt
 | .pb k _,.pb n _=> [(k,n)]
 | .bs k _ _ _,.bs n _ _ _=> [(k,n)]
 | .ow k,.ow n=> [(k,n)]
 | .ab k,.ab n=> [(k,n)]
 |_,_=> []
def mtL (f:AV->AV->Mt):List AV->List AV->Mt
 |e::es,a::as=>f e a++mtL f es as
 |_,_=> []
def mtA:AV->AV->Mt
 | .agg es,.agg as=>mtL mt0 es as
 | .tup es,.tup as=>mtL (λe a=>match e,a with| .agg es,.agg as=>mtL mt0 es as|e,a=>mt0 e a) es as
 | .fn _ ps cs,.fn _ ps' cs'=>mtL mt0 ps ps'++mtL mt0 cs cs'
 |e,a=>mt0 e a
def Oq:Mt->Nat->Nat->Nat
 | [],_,d=>d
 |p::l,k,d=>bif Nat.beq p.1 k then p.2 else Oq l k d
def mtO (ob:List Tok):List AObj->Mt->Mt
 | [],m=>m
 | .box k es _::l,m=>(match find (Oq m k k) ob with
  |some (_,.box _ cs _)=>mtO ob l (m++mtL mtA es cs)
  |_=>mtO ob l m)
 |_::l,m=>mtO ob l m
def KU:AObj->D
 | .row _ _ α E xs=> .sl α E xs
 | .fr _ d=>d
 | .box .. => .v undef
 | .hp .. => .v undef
def frD (ob:List Tok)(n:Nat):Option D:=match find n ob with|some (_,.row k _ α E xs)=>bif Nat.beq k n then some (.sl α E xs)else none|some (_,.fr k d)=>bif Nat.beq k n then some d else none|_=>none
def cv1 (ob:List Tok):AV->AV->AV×List Nat
 | .any,_=>(.any,[])
 | .d (.sl α E _),.d (.v (.slice none 0 0))=>(.d (.sl α E []),[])
 | .d _,.ow n=>match frD ob n with
  |some d=>(.d d,[n])
  |none=>(.ow n,[])
 | .d (.op false ds),.d (.v (.pointer none))=>(.d (.op false ds),[])
 | .d (.op true _),.d (.pf ds)=>(.d (.op true ds),[])
 |_,a=>(a,[])
def cvL (ob:List Tok):List AV->List AV->List AV×List Nat
 |e::es,a::as=>let x:=cv1 ob e a; let y:=cvL ob es as; (x.1::y.1,x.2++y.2)
 |_,as=>(as,[])
def cvA (ob:List Tok):AV->AV->AV×List Nat
 | .agg es,.agg as=>let x:=cvL ob es as; (.agg x.1,x.2)
 |e,a=>cv1 ob e a
def cvV (ob:List Tok):List AV->List AV->List AV×List Nat
 |e::es,a::as=>let x:=cvA ob e a; let y:=cvV ob es as; (x.1::y.1,x.2++y.2)
 |_,as=>(as,[])
def cvO (ob:List Tok):AObj->AObj->AObj×List Nat
 | .box _ es _,.box n cs t=>let x:=cvV ob es cs; (.box n x.1 t,x.2)
 |_,a=>(a,[])
def Ac5 (ob:List Tok):List AObj->List Tok->List AObj×List Nat
 |e::es,p::ps=>let x:=cvO ob e p.2; let y:=Ac5 ob es ps; (x.1::y.1,x.2++y.2)
 |_,ps=>(ps.map (·.2),[])
def Kn (ob:List Tok)(U:Env)(m:Mem)(ns:List Nat):Prop:= ∀n∈ns,∀d,frD ob n=some d->∃v,U n=some v/\FR m d v
section
variable {ob:List Tok}{U:Env}{m:Mem}
theorem Kn.app {a b:List Nat}(h:Kn ob U m (a++b)):Kn ob U m a/\Kn ob U m b:=⟨λn hn=>h n (List.mem_append_left _ hn),λn hn=>h n (List.mem_append_right _ hn)⟩
theorem AgY {e a:AV}{v:Value}(k:Kn ob U m (cv1 ob e a).2)(r:Rel U m a v):Rel U m (cv1 ob e a).1 v:=by
 unfold cv1 at*;split
 ·exact .any _
 ·cases r with
  |d h=>cases h with
   |v _ _=>exact .d AkB
 ·rename_i n;simp only at k;split at k
  ·rename_i d hd;obtain⟨u,h1,h2⟩:=k n (by simp) d hd;have:=r.ow_inv.1;rw[h1]at this; cases this;exact .d h2
  ·exact r
 ·cases r with
  |d h=>cases h with
   |v _ _=>exact .d .op0
 ·exact .d (.op1 r.dd)
 ·exact r
theorem AgW: ∀{es as:List AV} {vs:List Value},Kn ob U m (cvL ob es as).2->BB U m as vs->BB U m (cvL ob es as).1 vs
 | [],as,vs,_,r=>by unfold cvL; exact r
 |_::_,[],vs,_,r=>by unfold cvL; exact r
 |e::es,a::as,vs,k,r=>by
  obtain⟨v,us,rfl,h1,h2⟩:=r.cons_inv;have k':=Kn.app k;exact .cons (AgY k'.1 h1) (AgW k'.2 h2)
theorem AgX {e a:AV}{v:Value}(k:Kn ob U m (cvA ob e a).2)(r:Rel U m a v):Rel U m (cvA ob e a).1 v:=by
 unfold cvA at*;split
 ·obtain⟨vs,rfl,h⟩:=r.agg_inv;have:=AgW k h;exact .agg this.1 this.2
 ·rename_i h;refine AgY ?_ r;split at k
  ·exact absurd rfl (h _ _ rfl)
  ·exact k
theorem Ve: ∀{es as:List AV} {vs:List Value},Kn ob U m (cvV ob es as).2->BB U m as vs->BB U m (cvV ob es as).1 vs
 | [],as,vs,_,r=>by unfold cvV; exact r
 |_::_,[],vs,_,r=>by unfold cvV; exact r
 |e::es,a::as,vs,k,r=>by
  obtain⟨v,us,rfl,h1,h2⟩:=r.cons_inv;have k':=Kn.app k;exact .cons (AgX k'.1 h1) (Ve k'.2 h2)
theorem Anu {e o:AObj}{x:PH}(k:Kn ob U m (cvO ob e o).2)(r:rep U m o x):rep U m (cvO ob e o).1 x:=by
 cases e<;>cases o<;>first|exact r|skip
 obtain⟨b,vs,p,q,z,u⟩:=r;exact⟨b,vs,p,Ve k q,z,u⟩
theorem Yw: ∀{es:List AObj} {ps:List Tok} {h:PH} {B:List Ow},Kn ob U m (Ac5 ob es ps).2->sepL (reps U m ps++B) h->sepL ((Ac5 ob es ps).1.map (rep U m)++B) h
 | [],ps,h,B,_,S=>by unfold Ac5; simpa[reps,List.map_map,Function.comp_def]using S
 |_::_,[],h,B,_,S=>by unfold Ac5; simpa[reps]using S
 |e::es,p::ps,h,B,k,⟨h1,h2,a,s,d,x⟩=>by
  have k':=Kn.app k;exact⟨h1,h2,Anu k'.1 a,Yw k'.2 s,d,x⟩
end
def Mp:AObj->Bool
 | .row .. =>true
 |_=>false
def Z4:AObj->Bool
 | .fr .. =>true
 |_=>false
section
variable {U:Env}{As:List Ow}{w:World}
theorem OM: ∀{ps:List Tok} {m:Mem},ps.all (λp=>Mp p.2)=true->St m (reps U m ps++As) w->∃m',m<=m'/\(∀p∈ps,∃v,U p.2.nm=some v/\FR m' (KU p.2) v)/\St m' As w
 | [],m,_,S=>⟨m,Mem.rfl' m,(λ_ h=>by cases h),S⟩
 |(i,.row n sz α E xs)::ps,m,h,S=>by
  obtain⟨v,cs,h1,h2,h3,h4,S1⟩:=St.openRow S;letI:=TJ E sz;obtain⟨m1,l1,h5,S2⟩:=St.rowKeepT (i:=0) S1 rfl (AdL h3 h4) rfl;have S3:=St.ru (l:=ps) Env.le_refl l1 S2;obtain⟨m2,l2,h6,S4⟩:=OM (ps:=ps) (by simp only[AoE,AnP]at h; exact h.2) S3;refine⟨m2,Mem.tr l1 l2,λp hp=> ?_,S4⟩;rcases Aom.1 hp with q|q
  ·subst q; exact⟨v,h1,(Zq h5).up l2⟩
  ·exact h6 p q
 |(i,.box ..)::ps,m,h,S=>by simp[Mp]at h
 |(i,.fr ..)::ps,m,h,S=>by simp[Mp]at h
 |(i,.hp ..)::ps,m,h,S=>by simp[Mp]at h
theorem Sd: ∀{ps:List Tok} {m:Mem},ps.all (λp=>Z4 p.2)=true->St m (reps U m ps++As) w->(∀p∈ps,∃v,U p.2.nm=some v/\FR m (KU p.2) v)/\St m As w
 | [],m,_,S=>⟨(λ_ h=>by cases h),S⟩
 |(i,.fr n d)::ps,m,h,S=>by
  obtain⟨⟨v,h1,h2⟩,S1⟩:=St.openFr S;obtain⟨h3,S2⟩:=Sd (ps:=ps) (by simp only[AoE,AnP]at h; exact h.2) S1;refine⟨λp hp=> ?_,S2⟩;rcases Aom.1 hp with q|q
  ·subst q; exact⟨v,h1,h2⟩
  ·exact h3 p q
 |(i,.box ..)::ps,m,h,S=>by simp[Z4]at h
 |(i,.row ..)::ps,m,h,S=>by simp[Z4]at h
 |(i,.hp ..)::ps,m,h,S=>by simp[Z4]at h
def Vk:List Tok->List AObj
 | []=> []
 |p::l=> .fr p.2.nm (KU p.2)::Vk l
theorem O6 {m:Mem}: ∀{ps:List Tok},(∀p∈ps,∃v,U p.2.nm=some v/\FR m (KU p.2) v)->St m As w->St m ((Vk ps).map (rep U m)++As) w
 | [],_,S=>S
 |p::ps,h,S=>by
  obtain⟨v,h1,h2⟩:=h p Aoe;exact St.closeFr h1 h2 (O6 (λq hq=>h q (Aok _ hq)) S)
theorem Rv {m:Mem}: ∀{ps:List Tok},ps.all (λp=>Z4 p.2)=true->(∀p∈ps,∃v,U p.2.nm=some v/\FR m (KU p.2) v)->St m As w->St m (reps U m ps++As) w
 | [],_,_,S=>S
 |(i,.fr n d)::ps,k,h,S=>by
  obtain⟨v,h1,h2⟩:=h _ Aoe;exact St.closeFr h1 h2 (Rv (by simp only[AoE,AnP]at k; exact k.2) (λq hq=>h q (Aok _ hq)) S)
 |(i,.box ..)::ps,k,h,S=>by simp[Z4]at k
 |(i,.row ..)::ps,k,h,S=>by simp[Z4]at k
 |(i,.hp ..)::ps,k,h,S=>by simp[Z4]at k
end
def Nv (ob:List Tok):List Nat->List Nat->List Tok
 | [],_=> []
 |n::ns,seen=>bif Fa n seen then Nv ob ns seen else match find n ob with
  |some p=>p::Nv ob ns (n::seen)
  |none=>Nv ob ns (n::seen)
structure AhR:Type 1 where
 k:FuncId
 as:List AV
 objs:List AObj
 ut:List Tok
 fw:List Tok
 fr:List Tok
 mt:Mt
def Ajz (ob:List Tok)(mt:Mt):List AObj->Option (List Tok)
 | []=>some []
 |o::l=>match find (Oq mt o.nm o.nm) ob,Ajz ob mt l with
  |some p,some r=>some (p::r)
  |_,_=>none
def ZI (ob:List Tok)(k:FuncId)(as ea:List AV)(eobs:List AObj):Option AhR:=
 let mt:=mtO ob eobs (mtO ob eobs (mtL mtA ea as))
 match Ajz ob mt eobs with
 |some ut=>
  let c:=cvV ob ea as
  let o:=Ac5 ob eobs ut
  let ts:=Nv ob (c.2++o.2) []
  some ⟨k,c.1,o.1,ut,ts.filter (λp=>Mp p.2),ts.filter (λp=> !Mp p.2),mt⟩
 |none=>none
def AfR (cf:Cf)(ea:List AV)(eobs:List AObj):Option AhR:=
 match Hk cf with
 |some a=>match a.g,a.o.op with
  |none,.call c=>match YE cf.s.fz a.sl c with
   |some (k,as)=>ZI cf.s.ob k as ea eobs
   |none=>none
  |_,_=>none
 |none=>none
def Ac9 (ns:List Nat):Nat->Bool
 |0=>true
 |n+1=>Fa n ns&&Ac9 ns n
theorem Aas {ns:List Nat}: ∀{n:Nat},Ac9 ns n=true->∀j,j<n->j∈ns
 |0,_,j,h=>by omega
 |n+1,h,j,hj=>by
  simp only[Ac9,AnP]at h;by_cases e:j=n
  ·subst e; exact Ga.1 h.1
  ·exact Aas h.2 j (by omega)
def known (ob:List Tok)(ts:List Tok):List Nat->Bool
 | []=>true
 |n::ns=>(match find n ob with|some p=>Fa p.1 (tids ts)&&Nat.beq p.2.nm n|none=>true)&&known ob ts ns
def Akz (ob:List Tok)(p:AhR)(ea:List AV)(eobs:List AObj)(n0:Nat):Bool:=ea.all (okA n0)&&(eobs.all (okO n0)&&(Abu (tids ((p.ut++p.fw)++p.fr))&&(Ac9 (eobs.map (·.nm)) n0&&(p.fr.all (λp=>Z4 p.2)&&(p.fw.all (λp=>Mp p.2)&&true)))))
def bk (φ:Nat->Nat)(nx n0:Nat):Nat->Nat:=λj=>bif Nat.blt j n0 then φ j else nx+(j-n0)
def stpC (s:AS)(p:AhR)(n0:Nat)(r:AV)(obs':List AObj)(n1:Nat):Stp:=
 let φ:=bk (λj=>Oq p.mt j 0) s.nx n0
 let md:=obs'.map (ZF φ)++Vk p.fw
 ⟨Ael φ r,p.fr,p.ut++p.fw,enO (s.nx+(n1-n0)) md,s.nx+(n1-n0)+md.length,[]⟩
def Aix (N:Nat)(cf:Cf)(ea:List AV)(eobs:List AObj)(n0:Nat)(r:AV)(obs':List AObj)(n1:Nat):Cf:=match AfR cf ea eobs with|some p=>push N cf (stpC cf.s p n0 r obs' n1)|none=>cf
def Aj0 (cf:Cf)(ea:List AV)(eobs:List AObj)(n0:Nat):Option (FuncId×List AV×List AObj×Bool):=match AfR cf ea eobs with|some p=>some (p.k,p.as,p.objs,Akz cf.s.ob p ea eobs n0)|none=>none
def AbW (cf:Cf)(ea:List AV)(eobs:List AObj):List AV×List AObj:=match AfR cf ea eobs with|some p=>(ea.map (Ael λj=>Oq p.mt j 0),eobs.map (ZF λj=>Oq p.mt j 0))|none=>([],[])
theorem Iy {ob:List Tok}: ∀{ns seen:List Nat} {p:Tok},p∈Nv ob ns seen->p∈ob
 | [],_,_,h=>by cases h
 |n::ns,seen,p,h=>by
  unfold Nv at h;cases hb:Fa n seen
  ·rw[hb]at h;simp only[cond_false]at h;split at h
   ·rename_i q hq;rcases Aom.1 h with e|e
    ·subst e; exact F5 hq
    ·exact Iy e
   ·exact Iy h
  ·rw[hb]at h; exact Iy h
theorem LQ {ob:List Tok}{n:Nat}{p:Tok}(hf:find n ob=some p): ∀{ns seen:List Nat},n∈ns->Fa n seen=false->p∈Nv ob ns seen
 | [],_,h,_=>by cases h
 |a::ns,seen,h,hs=>by
  unfold Nv;by_cases e:n=a
  ·subst e;rw[hs];simp only[cond_false,hf];exact Aoe
  ·have h':n∈ns:=by
    rcases Aom.1 h with q|q
    ·exact absurd q e
    ·exact q
   have hs':Fa n (a::seen)=false:=by
    unfold Fa;rw[Gw.beq_ne (Ne.symm e)]; exact hs
   cases hb:Fa a seen
   ·simp only[cond_false];split
    ·exact Aok _ (LQ hf h' hs')
    ·exact LQ hf h' hs'
   ·exact LQ hf h' hs
theorem U9 {ob:List Tok}{mt:Mt}: ∀{es:List AObj} {ps:List Tok},Ajz ob mt es=some ps->∀p∈ps,p∈ob
 | [],ps,h,p,hp=>by cases h; cases hp
 |e::es,ps,h,p,hp=>by
  unfold Ajz at h;split at h
  ·rename_i a b h1 h2; cases h;rcases Aom.1 hp with q|q
   ·subst q; exact F5 h1
   ·exact U9 h2 p q
  ·cases h
theorem U8 {n:Nat}: ∀{l:List Tok} {q:Tok},find n l=some q->q.2.nm=n
 | [],_,h=>by cases h
 |p::l,q,h=>by
  unfold find at h;cases hb:Nat.beq p.2.nm n
  ·rw[hb]at h; exact U8 h
  ·rw[hb]at h; cases h; exact AnS hb
theorem Rr {ob:List Tok}{n:Nat}{d:D}(h:frD ob n=some d): ∃p,find n ob=some p/\KU p.2=d/\(Mp p.2=true\/Z4 p.2=true)/\p.2.nm=n:=by
 unfold frD at h;split at h
 ·rename_i i k sz α E xs hf;cases hb:Nat.beq k n
  ·rw[hb]at h; cases h
  ·rw[hb]at h; cases h; exact⟨_,hf,rfl,.inl rfl,U8 hf⟩
 ·rename_i i k d' hf;cases hb:Nat.beq k n
  ·rw[hb]at h; cases h
  ·rw[hb]at h; cases h; exact⟨_,hf,rfl,.inr rfl,U8 hf⟩
 ·cases h
theorem AbP {U:Env}{m:Mem}{As:List Ow}{w:World}: ∀{os:List AObj},St m (os.map (rep U m)++As) w->∀o∈os,∃v,U o.nm=some v
 | [],_,_,h=>by cases h
 |a::os,S,o,h=>by
  obtain⟨x,⟨h1,h2,ha,hs,d,e⟩,d1,g,g',nd⟩:=S.own;rcases Aom.1 h with q|q
  ·subst q; exact Ame ha
  ·have S2:St m (os.map (rep U m)++(rep U m a::As)) w:=S.perm List.perm_middle.symm;exact AbP S2 o q
section
variable {ρ:Option Nat}{P:Program}{N:Nat}{D0:Dw}{Q:DP}{As:List Ow}{u4:Env}{m0:Mem}
theorem D9 {cf:Cf}{a:Aj8}{r:Stp}(ha:Hk cf=some a)(hg:a.g=none)(ht:Tri ρ P N D0 a.l.toArray a.o cf.s.fz a.sl cf.s.nx r)(hs:Nt cf.s r)(g:Go ρ P N D0 Q As u4 m0 (push N cf r)):Go ρ P N D0 Q As u4 m0 cf:=by
 obtain⟨s,md,K⟩:=cf;unfold Hk at ha;split at ha<;>first|cases ha|skip
 rename_i dr l o rest h hmd;simp only at hmd; subst hmd;split at ha
 ·rename_i hgd;cases ha;refine Nn ?_ hs g;have hr:rds l.toArray o=opT o.op:=by simp[rds,hgd]
  rw[hr]; exact ht
 ·rename_i j w hgd;split at ha
  ·cases ha
  ·rename_i gs hd;split at ha
   ·rename_i v' hk;cases hb:Aee v' w
    ·rw[hb]at ha; cases ha
    ·rw[hb]at ha;simp only[cond_true]at ha;cases ha;exact Nn (Ab9 hgd hd hk hb ht) hs g
   split at ha
   ·cases ha
   ·cases ha; cases hg
theorem By {cf:Cf}{a:Aj8}(ha:Hk cf=some a)(hg:a.g=none):a.o.guard=none:=by
 unfold Hk at ha;split at ha<;>first|cases ha|skip
 split at ha
 ·rename_i hh; cases ha; exact hh
 ·rename_i j w hgd;split at ha
  ·cases ha
  ·split at ha
   ·rename_i v' hk;cases hb:Aee v' w
    ·rw[hb]at ha; cases ha
    ·rw[hb]at ha;simp only[cond_true]at ha;cases ha; rfl
   split at ha
   ·cases ha
   ·cases ha; cases hg
theorem gco {cf:Cf}{k:FuncId}{ea:List AV}{eobs obs':List AObj}{n0 n1:Nat}{r:AV}(hs:Sp P k ea eobs n0 (is r obs' n1))(g:Go ρ P N D0 Q As u4 m0 (Aix N (aC P N cf) ea eobs n0 r obs' n1))
  (e:(Aj0 (aC P N cf) ea eobs n0,okA n1 r&&(obs'.all (okO n1)&&Nat.ble n0 n1),(aL P N cf))=
   (some (k,(AbW (aC P N cf) ea eobs).1,(AbW (aC P N cf) ea eobs).2,true),true,(aR P N cf)):=by kernel_rfl) (hm:P.follows .mixedOrders=true:=by rfl):Go ρ P N D0 Q As u4 m0 cf:=by
 simp only[AnQ]at e;obtain⟨e1,e2,e3⟩:=e;obtain⟨he1,-⟩:=LI e3;refine AP hm he1 ?_;generalize aC P N cf=c0 at*;unfold Aj0 AbW at e1;unfold Aix at g;cases hp:AfR c0 ea eobs with
 |none=>rw[hp]at e1; cases e1
 |some p=>
  rw[hp]at e1 g;simp only[AnU,AnQ]at e1 g;obtain⟨ek,eas,eobj,eok⟩:=e1;unfold AfR at hp;split at hp
  ·rename_i a ha;split at hp
   ·rename_i c hg hop;split at hp
    ·rename_i k' as hc;unfold ZI at hp;simp only at hp;split at hp
     ·rename_i ut hut;have hplan:=AnO hp;clear hp;have pk':p.k=k':=by rw[<-hplan]
      have pas:p.as=(cvV c0.s.ob ea as).1:=by rw[<-hplan]
      have pobj:p.objs=(Ac5 c0.s.ob eobs ut).1:=by rw[<-hplan]
      have put:p.ut=ut:=by rw[<-hplan]
      have pfw:p.fw=(Nv c0.s.ob ((cvV c0.s.ob ea as).2++(Ac5 c0.s.ob eobs ut).2) []).filter (λp=>Mp p.2):=by rw[<-hplan]
      have pfr:p.fr=(Nv c0.s.ob ((cvV c0.s.ob ea as).2++(Ac5 c0.s.ob eobs ut).2) []).filter (λp=> !Mp p.2):=by rw[<-hplan]
      clear hplan;simp only[Akz,AnP]at eok;obtain⟨o1,o2,o3,o4,o5,o6,-⟩:=eok;simp only[AnP]at e2;obtain⟨x1,x2,x3⟩:=e2;have x3:=An5 x3;have hnd:=Jq o3;have hS:=hs.2;subst ek;refine D9 ha hg ?_ ?_ g
      ·
        have hgd0:=By ha hg;obtain⟨l,⟨dst,op,ty,pos,af,gd⟩,gg,sl,es⟩:=a;simp only at hgd0;simp only at hop hg; subst hop hg;have hgd:gd=none:=hgd0;subst hgd;refine⟨by show c0.s.nx<=c0.s.nx+(n1-n0)+_; omega,λrest Q U m f w As hr hz hn S hk=> ?_⟩;simp only[stpC]at S hk hn⊢;rw[Be,Be,An3,An3]at S;have S1:=S.perm (An6 (reps U m p.ut) (reps U m p.fw) _);obtain⟨m1,l1,K1,S2⟩:=OM o6 S1;have S3:=St.ru Env.le_refl l1 S2;have S4:=S3.perm (An6 (reps U m1 p.ut) (reps U m p.fr) _);have S5:=St.ru Env.le_refl l1 S4;obtain⟨K2,S6⟩:=Sd o5 S5;have KN:Kn c0.s.ob U m1 ((cvV c0.s.ob ea as).2++(Ac5 c0.s.ob eobs ut).2):=by
         intro j hj d hd;obtain⟨q,hf,hq,hrf,hnm⟩:=Rr hd;have hmem:=LQ hf hj (seen:=[]) rfl;rcases hrf with h|h
         ·have:q∈p.fw:=by rw[pfw]; simp only[List.mem_filter]; exact⟨hmem,h⟩
          obtain⟨v,y1,y2⟩:=K1 q this;rw[hnm]at y1; rw[hq]at y2; exact⟨v,y1,y2⟩
         ·have:q∈p.fr:=by
           rw[pfr]; simp only[List.mem_filter];refine⟨hmem,?_⟩;cases hq2:q.2<;>rw[hq2]at h<;>first|rfl|cases h
          obtain⟨v,y1,y2⟩:=K2 q this;rw[hnm]at y1; rw[hq]at y2; exact⟨v,y1,y2⟩
        obtain⟨kn1,kn2⟩:=Kn.app KN;have S7:St m1 (p.objs.map (rep U m1)++As) w:=by
         rw[pobj];rw[put]at S6;obtain⟨x,sx,rx⟩:=S6.own;exact⟨S6.os,S6.tape,S6.output,x,Yw kn2 sx,rx⟩
        let φ:Nat->Nat:=λj=>Oq p.mt j 0;let uu:Env:=λj=>if j<n0 then U (φ j)else none;have hη1: ∀j,j<n0->U (φ j)=uu j:=λj hj=>(AnT hj).symm;have S8:St m1 (eobs.map (rep uu m1)++As) w:=by
         rw[eobj]at S7;refine S7.imp (by simp) λi A B ha hb x hx=> ?_;rw[List.getElem?_append]at ha hb;simp only[AoB]at ha hb;split at ha
         ·rename_i q;rw[AnT q]at hb;simp only[Aoz,AnZ]at ha hb;obtain⟨o',⟨o,ho,rfl⟩,rfl⟩:=ha;obtain⟨o2',ho',rfl⟩:=hb;rw[ho]at ho'; cases ho';exact Abn hη1 (Aoj.1 o2 o (Aoh ho)) hx
         ·rename_i q;rw[AnW q]at hb;rw[ha]at hb; cases hb; exact hx
        have hdef: ∀j,j<n0->∃v,uu j=some v:=λj hj=>by
         have:=Aas o4 j hj;simp only[List.mem_map]at this;obtain⟨o,ho,rfl⟩:=this;exact AbP S8 o ho
        refine WL (U:=U) (m:=m) hc (by rw[<-pk']; exact hs.1) hr hz (λvs hv=> ?_) (R:=λv w'=> ∃(M:Mem) (u5:Env) (r':AV) (obs2:List AObj) (n2:Nat),m1<=M/\uu.le u5/\is r obs' n1 r' obs2 n2/\(∀n,u5 n≠none->n<n2)/\Rel u5 M r' v/\St M (obs2.map (rep u5 M)++As) w') ?_
        ·rw[<-pk'];have:=Ve kn1 (hv.up Env.le_refl l1);rw[<-pas,eas]at this;exact hS uu m1 As w vs (XU hη1 o1 this) (λj hj=>by
          by_cases q:j<n0
          ·exact q
          ·exact absurd (AnW q) hj) S8
        ·rintro v w2 ⟨M,u5,r',obs2,n2,l2,le,⟨rfl,rfl,rfl⟩,hdom,hR,S9⟩;let uv:Env:=λc=>if c0.s.nx<=c/\c<c0.s.nx+(n2-n0)then u5 (n0+(c-c0.s.nx))else U c;have hle:U.le uv:=λc u hu=>by
          show(if _ then _ else _)=_;split
          ·rename_i q;have:=hn c q.1 (by omega);rw[this]at hu; cases hu
          ·exact hu
         have hbk: ∀j,j<n2->∀u,u5 j=some u->uv (bk φ c0.s.nx n0 j)=some u:=by
          intro j hj u hu;unfold bk;cases hb:Nat.blt j n0
          ·have hge:n0<=j:=by
            rcases Nat.lt_or_ge j n0 with q|q
            ·have:Nat.blt j n0=true:=by simp[Nat.blt_eq,q]
             rw[hb]at this; cases this
            ·exact q
           simp only[cond_false];show(if _ then _ else _)=_;rw[AnT ⟨by omega,by omega⟩];have:n0+(c0.s.nx+(j-n0)-c0.s.nx)=j:=by omega
           rw[this]; exact hu
          ·have hlt:=Da hb;simp only[cond_true];obtain⟨u0,hu0⟩:=hdef j hlt;have:=le j u0 hu0;rw[hu]at this; cases this;have h1:U (φ j)=some u:=by rw[hη1 j hlt]; exact hu0
           exact hle _ _ h1
         refine hk uv M w2 v hle (Mem.tr l1 l2) (λc hc2=> ?_) (Abo hbk x1 hR) ?_
         ·have:(if c0.s.nx<=c/\c<c0.s.nx+(n2-n0)then u5 (n0+(c-c0.s.nx))else U c)≠none:=hc2;split at this
          ·rename_i q; exact .inr ⟨q.1,by omega⟩
          ·exact .inl this
         ·rw[Be,An3,Lw,AoH,An3];have T1:St M ((obs2.map (ZF (bk φ c0.s.nx n0))).map (rep uv M)++As) w2:=by
           refine S9.imp (by simp) λi A B ha hb x hx=> ?_;rw[List.getElem?_append]at ha hb;simp only[AoB]at ha hb;split at ha
           ·rename_i q;rw[AnT q]at hb;simp only[Aoz,AnZ]at ha hb;obtain⟨o,ho,rfl⟩:=ha;obtain⟨o2',⟨o',ho',rfl⟩,rfl⟩:=hb;rw[ho]at ho'; cases ho';exact Abm hbk (Aoj.1 x2 o (Aoh ho)) hx
           ·rename_i q;rw[AnW q]at hb;rw[ha]at hb; cases hb; exact hx
          have F1: ∀q∈p.fw,∃v,uv q.2.nm=some v/\FR M (KU q.2) v:=λq hq=>let ⟨v,a,b⟩:=K1 q hq; ⟨v,hle _ _ a,b.up l2⟩;have F2: ∀q∈p.fr,∃v,uv q.2.nm=some v/\FR M (KU q.2) v:=λq hq=>let ⟨v,a,b⟩:=K2 q hq; ⟨v,hle _ _ a,b.up l2⟩;have T2:=O6 F1 (Rv o5 F2 T1);refine T2.perm ?_;exact(Aor _ (An6 _ _ _)).trans (An6 _ _ _)
      ·
        refine⟨λq hq=> ?_,?_,?_,λt ht=> ?_⟩
        ·simp only[stpC]at hq;rcases Aol.1 hq with h|h
         ·rcases Aol.1 h with h|h
          ·rw[put]at h; exact U9 hut q h
          ·rw[pfw]at h; exact Iy (List.mem_filter.1 h).1
         ·rw[pfr]at h; exact Iy (List.mem_filter.1 h).1
        ·exact hnd
        ·simp only[stpC]; rw[Gs]; exact List.nodup_range'
        ·simp only[stpC]at ht⊢;rw[Gs,List.mem_range']at ht;obtain⟨i,hi,rfl⟩:=ht;omega
     ·cases hp
    ·cases hp
   ·cases hp
  ·cases hp
end
def Amd (ob:List Tok):AV->Option (D×List Tok)
 | .d d=>some (d,[])
 | .ow n=>match find n ob with
  |some (i,.fr k d)=>bif Nat.beq k n then some (d,[(i,.fr k d)])else none
  |_=>none
 |_=>none
theorem Abl {ob:List Tok}{a:AV}{d:D}{ts:List Tok}(h:Amd ob a=some (d,ts)){U:Env}{m:Mem}{As:List Ow}{w:World}{v:Value}(S:St m (reps U m ts++As) w)(r:Rel U m a v):FR m d v:=by
 unfold Amd at h;split at h
 ·cases h; exact r.dd
 ·rename_i n;split at h
  ·rename_i i k d' hf;cases hb:Nat.beq k n
   ·rw[hb]at h; cases h
   ·rw[hb]at h; cases h;have:=AnS hb; subst this;obtain⟨⟨u,h1,h2⟩,_⟩:=St.openFr S;have:=r.ow_inv.1;rw[h1]at this; cases this; exact h2
  ·cases h
 ·cases h
theorem XT {ob:List Tok}{a:AV}{d:D}{ts:List Tok}(h:Amd ob a=some (d,ts)):(∀p∈ts,p∈ob)/\(tids ts).Nodup:=by
 unfold Amd at h;split at h
 ·cases h; exact⟨λ_ h=>(by cases h),List.nodup_nil⟩
 ·split at h
  ·rename_i i k d' hf;cases hb:Nat.beq k _
   ·rw[hb]at h; cases h
   ·rw[hb]at h; cases h;exact⟨λp hp=>by simp at hp; subst hp; exact F5 hf,by simp[tids]⟩
  ·cases h
 ·cases h
def CH (N:Nat)(cf:Cf)(v:AV)(rd:List Tok):Cf:=
 match Hk cf with
 |some a=>match a.g with
  |none=>push N cf ⟨v,rd,[],[],cf.s.nx,[]⟩
  |some (g,w,p)=>push N cf ⟨.gd g w p v,rd,[],[],cf.s.nx,[]⟩
 |none=>cf
section
variable {ρ:Option Nat}{P:Program}{N:Nat}{D0:Dw}{Q:DP}{As:List Ow}{u4:Env}{m0:Mem}
theorem AfC {s:AS}{v:AV}{es:Eqs}{rd:List Tok}(h:(∀p∈rd,p∈s.ob)/\(tids rd).Nodup):Nt s ⟨v,rd,[],[],s.nx,es⟩:=⟨λx hx=>h.1 x (by simpa using hx),by simpa using h.2,by simp[tids],λt ht=>by simp[tids]at ht⟩
theorem DJ {cf:Cf}{a:Aj8}{v:AV}{rd:List Tok}(ha:Hk cf=some a)(he:EqsOk a.es)(hrd:(∀p∈rd,p∈cf.s.ob)/\(tids rd).Nodup)
  (ht:(∀q,a.g=some q->q.2.2=true)->Tri ρ P N D0 a.l.toArray {a.o with guard:=none} cf.s.fz a.sl cf.s.nx ⟨v,rd,[],[],cf.s.nx,[]⟩)
  (g:Go ρ P N D0 Q As u4 m0 (CH N cf v rd)):Go ρ P N D0 Q As u4 m0 cf:=by
 obtain⟨s,md,K⟩:=cf;have ha0:=ha;unfold Hk at ha;split at ha<;>first|cases ha|skip
 rename_i dr l o rest h hmd;simp only at hmd; subst hmd;split at ha
 ·rename_i hg;cases ha;have e:{o with guard:=none}=o:=by obtain⟨a,b,c,d,e,f⟩:=o; simp only at hg; subst hg; rfl
  rw[show CH N ⟨s,.ops dr l (o::rest) h,K⟩ v rd=push N ⟨s,.ops dr l (o::rest) h,K⟩ ⟨v,rd,[],[],s.nx,[]⟩ by unfold CH; rw[ha0]]at g;refine Nn ?_ (AfC hrd) g;have hr:rds l.toArray o=opT o.op:=by simp[rds,hg]
  rw[hr];have:=ht (λq hq=>by cases hq);rw[e]at this;exact this
 ·rename_i j w hg;split at ha
  ·cases ha
  ·rename_i gs hd;split at ha
   ·rename_i v' hk;cases hb:Aee v' w
    ·rw[hb]at ha; cases ha
    ·rw[hb]at ha;simp only[cond_true]at ha;cases ha;rw[show CH N ⟨s,.ops dr l (o::rest) h,K⟩ v rd=push N ⟨s,.ops dr l (o::rest) h,K⟩ ⟨v,rd,[],[],s.nx,[]⟩ by unfold CH; rw[ha0]]at g;exact Nn (Ab9 hg hd hk hb (ht (λq hq=>by cases hq))) (AfC hrd) g
   split at ha
   ·cases ha
   ·rename_i p ctx hi;cases ha;rw[show CH N ⟨s,.ops dr l (o::rest) h,K⟩ v rd=push N ⟨s,.ops dr l (o::rest) h,K⟩ ⟨.gd gs w p v,rd,[],[],s.nx,[]⟩ by unfold CH; rw[ha0]]at g;refine Nn ?_ (AfC hrd) g;exact Akg (Ui hg hd hi he λhp=>ht λq hq=>by cases hq; exact hp)
theorem NK {cf:Cf}{a:Aj8}(ha:Hk cf=some a)(h: ∀q,a.g=some q->q.2.2=true):gOf cf=true:=by
 unfold gOf; rw[ha];obtain⟨l,o,gg,sl,es⟩:=a;cases gg with
 |none=>rfl
 |some q=>exact h q rfl
theorem DK {cf:Cf}{a:Aj8}(ha:Hk cf=some a):AbL cf=a.es:=by unfold AbL; rw[ha]
def AmP (P:Program)(cf:Cf):Option (D×Int×Nat×List Tok):=
 match Hk cf with
 |some a=>match a.o.op with
  | .indexAddr t x y=>match Amd cf.s.ob (aev a.sl x),RV a.sl y,P.underlying t with
   |some (d,ts),some (_,j),some (.slice e)=>match KR P e with
    |some i=>some (d,j,i.sz,ts)
    |none=>none
   |_,_,_=>none
  |_=>none
 |none=>none
def idxT (P:Program)(cf:Cf):List Tok:=match AmP P cf with|some (_,_,_,ts)=>ts|none=> []
theorem gidx {k:Nat}{cf:Cf}{α:Type}{E:α->List D}{xs:List α}{j:Int}{x:α}(hE: ∀x,(E x).length=k)(hq:gOf (aC P N cf)=true->idx xs j=some x)(g:Go ρ P N D0 Q As u4 m0 (CH N (aC P N cf) (.d (.pf (E x))) (idxT P (aC P N cf))))
  (e:((AmP P (aC P N cf)).map (λr=>(r.1,r.2.1,r.2.2.1)),(aL P N cf))=(some (.sl α E xs,j,k),(aR P N cf)):=by kernel_rfl) (hm:P.follows .mixedOrders=true:=by rfl):Go ρ P N D0 Q As u4 m0 cf:=by
 simp only[AnQ]at e;obtain⟨e1,e3⟩:=e;obtain⟨he1,he2⟩:=LI e3;refine AP hm he1 ?_;generalize aC P N cf=c0 at*;cases hk:AmP P c0 with
 |none=>rw[hk]at e1; cases e1
 |some r=>
  have hT:idxT P c0=r.2.2.2:=by unfold idxT; rw[hk]
  rw[hT]at g;rw[hk]at e1;simp only[Aoa,AnU,AnQ]at e1;obtain⟨e1,e2,e4⟩:=e1;unfold AmP at hk;split at hk
  ·rename_i a ha;rw[DK ha]at he2;split at hk
   ·rename_i t x' y hop;split at hk
    ·rename_i d ts kk jj e' h1 h2 h3;split at hk
     ·rename_i i hi;cases hk;simp only at e1 e2 e4 g;subst e1 e2;refine DJ ha he2 (XT h1) (λhp=> ?_) g;have q:=hq (NK ha hp);obtain⟨l,⟨dst,op,ty,pos,af,gd⟩,gg,sl,es⟩:=a;simp only at hop⊢; subst hop;refine⟨AnX _,λrest Q U m f w As hr hz hn S hk=> ?_⟩;have S':St m (reps U m ts++As) w:=S;have hf:=Abl h1 S' (Ap hr x');letI:=TJ E k;refine s_idx (q:=x) rfl (BO h2 hr) (Abt hf hE) q h3 (by rw[<-e4]; exact BM hi) λp cs hp hrep=> ?_;exact hk U m w p Env.le_refl (Mem.rfl' m) (λn h=> .inl h) (.d (.pf hp (PtC.isPt hp) hrep.1.1 hrep.1.2)) S
     ·cases hk
    ·cases hk
   ·cases hk
  ·cases hk
def dlen:D->Int
 | .sl _ _ xs=>(xs.length:Int)
 |_=>0
def cutK (P:Program)(cf:Cf):Option (D×Int×Int×Int×Nat×List Tok):=
 match Hk cf with
 |some a=>match a.o.op with
  | .slice t x lo hi mx=>match Amd cf.s.ob (aev a.sl x),P.underlying t with
   |some (d,ts),some (.slice e)=>match KR P e with
    |some i=>
     let l:Option Int:=match lo with|none=>some 0|some o=>(RV a.sl o).map (·.2)
     let h:Option Int:=match hi with|none=>some (dlen d)|some o=>(RV a.sl o).map (·.2)
     let m:Option Int:=match mx with|none=>h|some o=>match hi with|none=>none|some _=>(RV a.sl o).map (·.2)
     match l,h,m with
     |some l,some h,some m=>some (d,l,h,m,i.sz,ts)
     |_,_,_=>none
    |none=>none
   |_,_=>none
  |_=>none
 |none=>none
def cutT (P:Program)(cf:Cf):List Tok:=match cutK P cf with|some (_,_,_,_,_,ts)=>ts|none=> []
theorem gcut {k:Nat}{cf:Cf}{α:Type}{E:α->List D}{xs ys:List α}{lo hi:Int}(hE: ∀x,(E x).length=k)(hq:gOf (aC P N cf)=true->cut xs lo hi=some ys)(g:Go ρ P N D0 Q As u4 m0 (CH N (aC P N cf) (.d (.sl α E ys)) (cutT P (aC P N cf))))
  (e:((cutK P (aC P N cf)).map (λr=>(r.1,r.2.1,r.2.2.1,r.2.2.2.1,r.2.2.2.2.1)),(aL P N cf))=(some (.sl α E xs,lo,hi,hi,k),(aR P N cf)):=by kernel_rfl) (hm:P.follows .mixedOrders=true:=by rfl):Go ρ P N D0 Q As u4 m0 cf:=by
 simp only[AnQ]at e;obtain⟨e1,e3⟩:=e;obtain⟨he1,he2⟩:=LI e3;refine AP hm he1 ?_;generalize aC P N cf=c0 at*;cases hk:cutK P c0 with
 |none=>rw[hk]at e1; cases e1
 |some r=>
  have hT:cutT P c0=r.2.2.2.2.2:=by unfold cutT; rw[hk]
  rw[hT]at g;rw[hk]at e1;simp only[Aoa,AnU,AnQ]at e1;obtain⟨e1,e2,e4,e5,e6⟩:=e1;unfold cutK at hk;split at hk
  ·rename_i a ha;rw[DK ha]at he2;split at hk
   ·rename_i t x' lo' hi' mx' hop;split at hk
    ·rename_i d ts e' h1 h3;split at hk
     ·rename_i i hti;simp only at hk;split at hk
      ·rename_i l h m hl hh hmm;cases hk;simp only at e1 e2 e4 e5 e6 g;subst e1 e2 e4 e5;refine DJ ha he2 (XT h1) (λhp=> ?_) g;have q:=hq (NK ha hp);obtain⟨ll,⟨dst,op,ty,pos,af,gd⟩,gg,sl,es⟩:=a;simp only at hop hl hh hmm⊢; subst hop;refine⟨AnX _,λrest Q U m' f w As hr hz hn S hk=> ?_⟩;have S':St m' (reps U m' ts++As) w:=S;have hf:=Abl h1 S' (Ap hr x');letI:=TJ E k;refine Ain rfl (Abt hf hE) h3 (by rw[<-e6]; exact BM hti) ?_ ?_ ?_ q λv' hv'=>hk U m' w v' Env.le_refl (Mem.rfl' m') (λn h=> .inl h) (.d (Zq hv')) S
       ·cases lo' with
        |none=>simp only[AnU]at hl; exact .inl ⟨rfl,hl.symm⟩
        |some o=>
         simp only[AnZ]at hl;obtain⟨⟨kk,jj⟩,hj,rfl⟩:=hl;exact .inr ⟨kk,by simp only[Aoa]; rw[BO hj hr]⟩
       ·cases hi' with
        |none=>simp only[AnU]at hh; exact .inl ⟨rfl,hh.symm⟩
        |some o=>
         simp only[AnZ]at hh;obtain⟨⟨kk,jj⟩,hj,rfl⟩:=hh;exact .inr ⟨kk,by simp only[Aoa]; rw[BO hj hr]⟩
       ·cases mx' with
        |none=>exact .inl rfl
        |some o=>
         cases hi' with
         |none=>simp at hmm
         |some o2=>
          simp only[AnZ]at hmm;obtain⟨⟨kk,jj⟩,hj,rfl⟩:=hmm;exact .inr ⟨by simp,kk,by simp only[Aoa]; rw[BO hj hr]⟩
      ·cases hk
     ·cases hk
    ·cases hk
   ·cases hk
  ·cases hk
def nzD:D->Prop
 | .i n=>n≠0
 | .u n=>n≠0
 |_=>False
def quoK (cf:Cf):Option (AV×D):=
 match Hk cf with
 |some a=>match a.o.op with
  | .binOp op _ x y _=>match quoV op (aev a.sl x) (aev a.sl y)with
   |some r=>some (aev a.sl y,r)
   |none=>none
  |_=>none
 |none=>none
theorem AcV {cf:Cf}{d r:D}(hq:gOf (aC P N cf)=true->nzD d)(g:Go ρ P N D0 Q As u4 m0 (CH N (aC P N cf) (.d r) []))
  (e:(quoK (aC P N cf),(aL P N cf))=(some (.d d,r),(aR P N cf)):=by kernel_rfl) (hm:P.follows .mixedOrders=true:=by rfl):Go ρ P N D0 Q As u4 m0 cf:=by
 simp only[AnQ]at e;obtain⟨e1,e3⟩:=e;obtain⟨he1,he2⟩:=LI e3;refine AP hm he1 ?_;generalize aC P N cf=c0 at*;unfold quoK at e1;split at e1
 ·rename_i a ha;rw[DK ha]at he2;split at e1
  ·rename_i op t x y t' hop;split at e1
   ·rename_i r' hr';simp only[AnU,AnQ]at e1;obtain⟨ed,rfl⟩:=e1;refine DJ (rd:=[]) ha he2 ⟨λ_ h=>(by cases h),List.nodup_nil⟩ (λhp=> ?_) g;have q:=hq (NK ha hp);obtain⟨l,⟨dst,op',ty,pos,af,gd⟩,gg,sl,es⟩:=a;simp only at hop ed hr'⊢; subst hop;refine⟨AnX _,λrest Q U m f w As hr hz hn S hk=> ?_⟩;have ry:=Ap hr y;rw[ed]at ry hr';have fin: ∀u,Rel U m (.d r') u->wpl ρ P N D0 l.toArray rest Q (upo N f dst u) w:=λu hu=>hk U m w u Env.le_refl (Mem.rfl' m) (λn h=> .inl h) hu S;cases d<;>simp only[nzD]at q
    ·exact AfF hr' (Ap hr x) ry ry.i_inv q fin
    ·rename_i nn;exact AfF hr' (Ap hr x) ry ry.u_inv (λe=>q (by rw[<-UInt64.toNat_inj]; simpa using e)) fin
   ·cases e1
  ·cases e1
 ·cases e1
def shK (cf:Cf):Option (Int×D):=
 match Hk cf with
 |some a=>match a.o.op with
  | .binOp op _ x y _=>match RV a.sl y with
   |some (k,n)=>match shV op (aev a.sl x) k n with
    |some r=>some (n,r)
    |none=>none
   |none=>none
  |_=>none
 |none=>none
theorem gsh {cf:Cf}{c:Int}{r:D}(hq:gOf (aC P N cf)=true->0<=c)(g:Go ρ P N D0 Q As u4 m0 (CH N (aC P N cf) (.d r) []))
  (e:(shK (aC P N cf),(aL P N cf))=(some (c,r),(aR P N cf)):=by kernel_rfl) (hm:P.follows .mixedOrders=true:=by rfl):Go ρ P N D0 Q As u4 m0 cf:=by
 simp only[AnQ]at e;obtain⟨e1,e3⟩:=e;obtain⟨he1,he2⟩:=LI e3;refine AP hm he1 ?_;generalize aC P N cf=c0 at*;unfold shK at e1;split at e1
 ·rename_i a ha;rw[DK ha]at he2;split at e1
  ·rename_i op t x y t' hop;split at e1
   ·rename_i k nn hy;split at e1
    ·rename_i r' hr';simp only[AnU,AnQ]at e1;obtain⟨rfl,rfl⟩:=e1;refine DJ (rd:=[]) ha he2 ⟨λ_ h=>(by cases h),List.nodup_nil⟩ (λhp=> ?_) g;have q:=hq (NK ha hp);obtain⟨l,⟨dst,op',ty,pos,af,gd⟩,gg,sl,es⟩:=a;simp only at hop hy hr'⊢; subst hop;refine⟨AnX _,λrest Q U m f w As hr hz hn S hk=> ?_⟩;exact sh_ok hr' (Ap hr x) (BO hy hr) q λu hu=>hk U m w u Env.le_refl (Mem.rfl' m) (λn h=> .inl h) hu S
    ·cases e1
   ·cases e1
  ·cases e1
 ·cases e1
end
theorem AfQ {ob:List Tok}{k:FuncId}{as ea:List AV}{eobs:List AObj}{p:AhR}(hp:ZI ob k as ea eobs=some p){U:Env}{m:Mem}{w:World}{As:List Ow}{vs:List Value}
  (o5:p.fr.all (λp=>Z4 p.2)=true) (o6:p.fw.all (λp=>Mp p.2)=true) (hv:BB U m as vs) (S:St m (reps U m ((p.ut++p.fw)++p.fr)++As) w):
  ∃m1,m<=m1/\BB U m1 p.as vs/\St m1 (p.objs.map (rep U m1)++As) w:=by
 unfold ZI at hp;simp only at hp;split at hp
 ·rename_i ut hut;have hplan:=AnO hp;clear hp;have pas:p.as=(cvV ob ea as).1:=by rw[<-hplan]
  have pobj:p.objs=(Ac5 ob eobs ut).1:=by rw[<-hplan]
  have put:p.ut=ut:=by rw[<-hplan]
  have pfw:p.fw=(Nv ob ((cvV ob ea as).2++(Ac5 ob eobs ut).2) []).filter (λp=>Mp p.2):=by rw[<-hplan]
  have pfr:p.fr=(Nv ob ((cvV ob ea as).2++(Ac5 ob eobs ut).2) []).filter (λp=> !Mp p.2):=by rw[<-hplan]
  clear hplan;rw[Be,Be,An3,An3]at S;have S1:=S.perm (An6 (reps U m p.ut) (reps U m p.fw) _);obtain⟨m1,l1,K1,S2⟩:=OM o6 S1;have S3:=St.ru Env.le_refl l1 S2;have S4:=S3.perm (An6 (reps U m1 p.ut) (reps U m p.fr) _);have S5:=St.ru Env.le_refl l1 S4;obtain⟨K2,S6⟩:=Sd o5 S5;have KN:Kn ob U m1 ((cvV ob ea as).2++(Ac5 ob eobs ut).2):=by
   intro j hj d hd;obtain⟨q,hf,hq,hrf,hnm⟩:=Rr hd;have hmem:=LQ hf hj (seen:=[]) rfl;rcases hrf with h|h
   ·have:q∈p.fw:=by rw[pfw]; simp only[List.mem_filter]; exact⟨hmem,h⟩
    obtain⟨v,y1,y2⟩:=K1 q this;rw[hnm]at y1; rw[hq]at y2; exact⟨v,y1,y2⟩
   ·have:q∈p.fr:=by
     rw[pfr]; simp only[List.mem_filter];refine⟨hmem,?_⟩;cases hq2:q.2<;>rw[hq2]at h<;>first|rfl|cases h
    obtain⟨v,y1,y2⟩:=K2 q this;rw[hnm]at y1; rw[hq]at y2; exact⟨v,y1,y2⟩
  obtain⟨kn1,kn2⟩:=Kn.app KN;refine⟨m1,l1,by rw[pas]; exact Ve kn1 (hv.up Env.le_refl l1),?_⟩;rw[pobj];rw[put]at S6;obtain⟨x,sx,rx⟩:=S6.own;exact⟨S6.os,S6.tape,S6.output,x,Yw kn2 sx,rx⟩
 ·cases hp
theorem AcB {ob:List Tok}{k:FuncId}{as ea:List AV}{eobs:List AObj}{p:AhR}(hp:ZI ob k as ea eobs=some p): ∀q∈(p.ut++p.fw)++p.fr,q∈ob:=by
 unfold ZI at hp;simp only at hp;split at hp
 ·rename_i ut hut;have hplan:=AnO hp;intro q hq;rw[<-hplan]at hq;simp only at hq;rcases Aol.1 hq with h|h
  ·rcases Aol.1 h with h|h
   ·exact U9 hut q h
   ·exact Iy (List.mem_filter.1 h).1
  ·exact Iy (List.mem_filter.1 h).1
 ·cases hp
def asV (s t:AS):List AV:=t.sl.map λp=>get s.sl p.1
def vwP (s t:AS):Option AhR:=ZI s.ob 0 (asV s t) (t.sl.map (·.2)) (t.ob.map (·.2))
def fixB (mt:Mt):Nat->Bool
 |0=>true
 |n+1=>Nat.beq (Oq mt n n) n&&fixB mt n
theorem AbK {mt:Mt}: ∀{n:Nat},fixB mt n=true->∀j,j<n->Oq mt j j=j
 |0,_,j,h=>by omega
 |n+1,h,j,hj=>by
  simp only[fixB,AnP]at h;by_cases e:j=n
  ·subst e; exact AnS h.1
  ·exact AbK h.2 j (by omega)
def ZR (n:Nat):List Nat->Bool
 | []=>true
 |a::l=>Nat.blt a n&&ZR n l
theorem Ro {n:Nat}: ∀{l:List Nat},ZR n l=true->∀t∈l,t<n
 | [],_,_,h=>by cases h
 |a::l,h,t,ht=>by
  simp only[ZR,AnP]at h;rcases Aom.1 ht with e|e
  ·subst e; exact Da h.1
  ·exact Ro h.2 t e
def okVw (p:AhR)(t:AS)(n0:Nat):Bool:=(t.sl.map (·.2)).all (okA t.nx)&&((t.ob.map (·.2)).all (okO t.nx)&&(Abu (tids ((p.ut++p.fw)++p.fr))&&(fixB p.mt n0&&(Nat.ble n0 t.nx&&(p.fr.all (λp=>Z4 p.2)&&(p.fw.all (λp=>Mp p.2)&&(Abu (tids t.ob)&&ZR t.nx (tids t.ob))))))))
def isNilF:Fz->Bool
 | []=>true
 |_=>false
def vwL (s t:AS)(n0:Nat):Option (List AV×List AObj×Bool×Bool):=match vwP s t with|some p=>some (p.as,p.objs,okVw p t n0,isNilF t.fz)|none=>none
def vwR (s t:AS):Option (List AV×List AObj×Bool×Bool):=match vwP s t with|some p=>some ((t.sl.map (·.2)).map (Ael λj=>Oq p.mt j j),(t.ob.map (·.2)).map (ZF λj=>Oq p.mt j j),true,true)|none=>none
theorem AgC {U:Env}{m:Mem}{f:Fr}: ∀{l:Sl},BB U m (l.map (·.2)) (l.map λp=>f p.1)->∀t,Rel U m (get l t) (f t)
 | [],_,t=> .any _
 |p::l,h,t=>by
  obtain⟨v,us,e,h1,h2⟩:=h.cons_inv;simp only[AoG,List.cons.injEq]at e;obtain⟨rfl,rfl⟩:=e;show Rel U m (bif Nat.beq p.1 t then p.2 else get l t) (f t);cases hb:Nat.beq p.1 t
  ·exact AgC h2 t
  ·have:=AnS hb; rw[this]at h1; exact h1
theorem XB {s t:AS}{n0:Nat}(e:vwL s t n0=vwR s t)(hne:(vwP s t).isSome=true){As:List Ow}{u4 U:Env}{m:Mem}{f:Fr}{w:World}(hd: ∀n,u4 n≠none->n<n0)(hle:u4.le U)(g:Gm As s U m f w):
  ∃u5 m',m<=m'/\u4.le u5/\Gm As t u5 m' f w:=by
 cases hp:vwP s t with
 |none=>rw[hp]at hne; cases hne
 |some p=>
  unfold vwL vwR at e;rw[hp]at e;simp only[AnU,AnQ]at e;obtain⟨e1,e2,e3,e4⟩:=e;simp only[okVw,AnP]at e3;obtain⟨o1,o2,o3,o4,o5,o6,o7,o8,o9⟩:=e3;have S:=St.rp g.st (KK g.wf.nd (Jq o3) (AcB hp));rw[Be,An3]at S;have hv:BB U m (asV s t) (t.sl.map λp=>f p.1):=⟨by simp[asV],λk c u a b=>by
   simp only[asV,Aoz,AnZ]at a b;obtain⟨x,hx,rfl⟩:=a;obtain⟨y,hy,rfl⟩:=b;rw[hx]at hy; cases hy;exact g.slr _⟩
  obtain⟨m1,l1,r1,S1⟩:=AfQ hp o6 o7 hv S;rw[e1]at r1;rw[e2]at S1;let φ:Nat->Nat:=λj=>Oq p.mt j j;let uu:Env:=λj=>if j<t.nx then U (φ j)else none;have hη1: ∀j,j<t.nx->U (φ j)=uu j:=λj hj=>(AnT hj).symm;have S2:=S1.perm (show((t.ob.map (·.2)).map (ZF φ)).map (rep U m1)++(reps U m (Ek (tids (p.ut++p.fw++p.fr)) s.ob)++As)|>.Perm (reps U m (Ek (tids (p.ut++p.fw++p.fr)) s.ob)++(((t.ob.map (·.2)).map (ZF φ)).map (rep U m1)++As))from An6 _ _ _);obtain⟨m2,l2,S3⟩:=St.dropN (reps U m (Ek (tids (p.ut++p.fw++p.fr)) s.ob)).length S2;rw[List.drop_left]at S3;have S4:St m2 (reps uu m2 t.ob++As) w:=by
   have S3':=St.mapUp (obs:=(t.ob.map (·.2)).map (ZF φ)) Env.le_refl l2 S3;refine S3'.imp (by simp[reps]) λi A B ha hb x hx=> ?_;rw[List.getElem?_append]at ha hb;simp only[AoB,reps]at ha hb;split at ha
   ·rename_i q;rw[AnT q]at hb;simp only[Aoz,AnZ]at ha hb;obtain⟨o',⟨o,⟨tk,htk,rfl⟩,rfl⟩,rfl⟩:=ha;obtain⟨tk',htk',rfl⟩:=hb;rw[htk]at htk'; cases htk';exact Abn hη1 (Aoj.1 o2 tk.2 (List.mem_map_of_mem (Aoh htk))) hx
   ·rename_i q;rw[AnW q]at hb;rw[ha]at hb; cases hb; exact hx
  refine⟨uu,m2,Mem.tr l1 l2,λk v hv=> ?_,AgC (XU hη1 o1 (r1.up Env.le_refl l2)),?_,λk hk=> ?_,S4,Jq o8,λx hx=>Ro o9 x hx⟩
  ·have hlt:=hd k (by rw[hv]; simp);show(if _ then _ else _)=_;rw[AnT (AoU hlt (An5 o5))];show U (Oq p.mt k k)=some v;rw[AbK o4 k hlt]; exact hle _ _ hv
  ·intro k d hk;cases hz:t.fz with
   |nil=>rw[hz]at hk; cases hk
   |cons _ _=>rw[hz]at e4; cases e4
  ·have:(if k<t.nx then U (φ k)else none)≠none:=hk;split at this
   ·assumption
   ·exact absurd rfl this
def Rl (As:List Ow)(u4:Env)(m0:Mem){ι:Type}(J:ι->AS)(ok:ι->Prop):Fr->World->Prop:=λf w=> ∃x,ok x/\∃U m,u4.le U/\m0<=m/\Gm As (J x) U m f w
def Aef (cf:Cf):Option (Fr->World->Prop):=match cf.md,cf.K with| .pop,.ctn J::_=>some J|_,_=>none
section
variable {ρ:Option Nat}{P:Program}{N:Nat}{D0:Dw}{Q:DP}{As:List Ow}{u4:Env}{m0:Mem}
def ctnC (cf:Cf)(J:Fr->World->Prop):Cf:=⟨cf.s,cf.md,.ctn J::cf.K⟩
def SL (cf:Cf):Bool:=match cf.md with| .code _=>true|_=>false
theorem Agy (hm:P.follows .mixedOrders=true){n:Nat}{cf:Cf}{ι:Type}(J:ι->AS)(ok:ι->Prop)(e:(SL (adv P N n cf).1,((adv P N n cf).2).map (·.1))=(true,((adv P N n cf).2).map (·.2)))
  (h1:Go ρ P N D0 Q As u4 m0 (ctnC (adv P N n cf).1 (Rl As u4 m0 J ok))) (h2: ∀x,ok x->Go ρ P N D0 Q As u4 m0 ⟨J x,.pop,(adv P N n cf).1.K⟩):Go ρ P N D0 Q As u4 m0 cf:=by
 simp only[AnQ]at e;obtain⟨e1,e3⟩:=e;refine Vl hm (.of e3) ?_;generalize (adv P N n cf).1=c0 at*;obtain⟨s,md,K⟩:=c0;unfold SL at e1;split at e1
 ·rename_i c hmd;simp only at hmd; subst hmd;intro U m f w a1 a2 g;refine Mu (λex f' w' q=> ?_) (h1 U m f w a1 a2 g);cases ex with
  |normal=>
   obtain⟨x,hx,u5,m',b1,b2,g'⟩:=q;exact h2 x hx u5 m' f' w' b1 b2 g'
  |_=>exact q
 ·cases e1
def AcO (cf:Cf):Option Code:=match cf.md with| .code (.loop c)=>some c|_=>none
def rndC (cf:Cf)(s:AS)(J:Fr->World->Prop):Cf:=match cf.md with| .code (.loop c)=>⟨s,.code c,.ctn J::cf.K⟩|_=>cf
theorem Am3 (hm:P.follows .mixedOrders=true){n n0:Nat}{cf:Cf}{ι:Type}(J:ι->AS)(pre:ι->Prop)(μ:ι->Nat)(x0:ι)(hx:pre x0)(hd: ∀n,u4 n≠none->n<n0)
  (e:((AcO (adv P N n cf).1).isSome,vwL (adv P N n cf).1.s (J x0) n0,(vwP (adv P N n cf).1.s (J x0)).isSome,((adv P N n cf).2).map (·.1))=(true,vwR (adv P N n cf).1.s (J x0),true,((adv P N n cf).2).map (·.2)))
  (h: ∀x,pre x->Go ρ P N D0 Q As u4 m0 (rndC (adv P N n cf).1 (J x) (Rl As u4 m0 J λy=>pre y/\μ y<μ x))):Go ρ P N D0 Q As u4 m0 cf:=by
 simp only[AnQ]at e;obtain⟨e1,e2,e4,e3⟩:=e;refine Vl hm (.of e3) ?_;generalize (adv P N n cf).1=c0 at*;obtain⟨s,md,K⟩:=c0;cases md with
 |code c=>
  cases c with
  |loop c=>
   intro U m f w a1 a2 g;obtain⟨u5,m',l,le,g'⟩:=XB e2 e4 hd a1 g;refine AhU (λk f w=> ∃x,(pre x/\μ x=k)/\∃U m,u4.le U/\m0<=m/\Gm As (J x) U m f w) (μ x0) ⟨x0,⟨hx,rfl⟩,u5,m',le,Mem.tr a2 l,g'⟩ ?_;rintro k f w ⟨x,⟨hp,rfl⟩,uv,m2,b1,b2,g2⟩;refine Mu (λex f' w' q=> ?_) (h x hp uv m2 f w b1 b2 g2);cases ex with
   |normal=>
    obtain⟨y,⟨hy,hlt⟩,uw,m3,c1,c2,g3⟩:=q;exact⟨μ y,hlt,y,⟨hy,rfl⟩,uw,m3,c1,c2,g3⟩
   |_=>exact q
  |_=>cases e1
 |_=>cases e1
end
def atBlk (id:Nat)(cf:Cf):Bool:=match cf.md with| .code (.block i _)=>Nat.beq i id|_=>false
def LJ (id:Nat)(P:Program)(N:Nat):Nat->Cf->Cf×Eqs
 |0,cf=>(cf,[])
 |n+1,cf=>bif atBlk id cf then(cf,[])else match nxt P N cf with
  |some r=>let q:=LJ id P N n r.1; (q.1,r.2++q.2)
  |none=>(cf,[])
section
variable {ρ:Option Nat}{P:Program}{N:Nat}{D0:Dw}{Q:DP}{As:List Ow}{u4:Env}{m0:Mem}
theorem Vm {id:Nat}(hm:P.follows .mixedOrders=true): ∀{n:Nat} {cf:Cf},EqsOk (LJ id P N n cf).2->Go ρ P N D0 Q As u4 m0 (LJ id P N n cf).1->Go ρ P N D0 Q As u4 m0 cf
 |0,_,_,g=>g
 |n+1,cf,he,g=>by
  cases hb:atBlk id cf with
  |true=>
   have e:LJ id P N (n+1) cf=(cf,[]):=by simp only[LJ,hb,cond_true]
   rw[e]at g; exact g
  |false=>
   cases hr:nxt P N cf with
   |none=>
    have e:LJ id P N (n+1) cf=(cf,[]):=by simp only[LJ,hr,hb,cond_false]
    rw[e]at g; exact g
   |some r=>
    have e:LJ id P N (n+1) cf=((LJ id P N n r.1).1,r.2++(LJ id P N n r.1).2):=by simp only[LJ,hr,hb,cond_false]
    rw[e]at g he;have he':=EqsOk.app.1 he;exact ZM hm hr he'.1 (Vm hm (n:=n) he'.2 g)
theorem Ajs {id:Nat}(hm:P.follows .mixedOrders=true){n:Nat}{cf:Cf}{ι:Type}(J:ι->AS)(ok:ι->Prop)(e:(SL (LJ id P N n cf).1,((LJ id P N n cf).2).map (·.1))=(true,((LJ id P N n cf).2).map (·.2)))
  (h1:Go ρ P N D0 Q As u4 m0 (ctnC (LJ id P N n cf).1 (Rl As u4 m0 J ok))) (h2: ∀x,ok x->Go ρ P N D0 Q As u4 m0 ⟨J x,.pop,(LJ id P N n cf).1.K⟩):Go ρ P N D0 Q As u4 m0 cf:=by
 simp only[AnQ]at e;obtain⟨e1,e3⟩:=e;refine Vm hm (.of e3) ?_;refine Agy (n:=0) hm J ok ?_ h1 h2;simp only[adv,e1,List.map_nil]
end
structure Bk (As:List Ow)(u4:Env)(m0:Mem){ι:Type}(J:ι->AS)(ok:ι->Prop)(Jp:Fr->World->Prop):Prop where
 h: ∀f w,Rl As u4 m0 J ok f w->Jp f w
section
variable {ρ:Option Nat}{P:Program}{N:Nat}{D0:Dw}{Q:DP}{As:List Ow}{u4:Env}{m0:Mem}
theorem gb {n0:Nat}{cf:Cf}{ι:Type}{J:ι->AS}{ok:ι->Prop}{Jp:Fr->World->Prop}(bk:Bk As u4 m0 J ok Jp)(hd: ∀n,u4 n≠none->n<n0)(x:ι)(hx:ok x)
  (e:(Aef (aC P N cf),vwL (aC P N cf).s (J x) n0,(vwP (aC P N cf).s (J x)).isSome,(bL P N cf))=(some Jp,vwR (aC P N cf).s (J x),true,(bR P N cf)):=by kernel_rfl) (hm:P.follows .mixedOrders=true:=by rfl):
  Go ρ P N D0 Q As u4 m0 cf:=by
 simp only[AnQ]at e;obtain⟨e1,e2,e4,e3⟩:=e;refine AP hm (.of e3) ?_;generalize aC P N cf=c0 at*;obtain⟨s,md,K⟩:=c0;unfold Aef at e1;split at e1
 ·rename_i J' K' hmd hK;simp only at hmd hK; subst hmd hK;cases e1;intro U m f w a1 a2 g;obtain⟨u5,m',l,le,g'⟩:=XB e2 e4 hd a1 g;exact nrm (bk.h _ _ ⟨x,hx,u5,m',le,Mem.tr a2 l,g'⟩)
 ·cases e1
def lenK (s:AS)(t:Nat):Option D:=match get s.sl t with| .d d=>some d| .ow n=>frD s.ob n|_=>none
theorem AmG {s:AS}{U:Env}{m:Mem}{f:Fr}{w:World}{t:Nat}{α:Type}{E:α->List D}{xs:List α}(h:lenK s t=some (.sl α E xs))(g:Gm As s U m f w):xs.length<=9223372036854775807:=by
 have r:=g.slr t;have of: ∀{m:Mem} {v:Value},FR m (.sl α E xs) v->xs.length<=9223372036854775807:=λh=>by cases h with|sl h=>exact h.2.1
 unfold lenK at h;split at h
 ·rename_i d hd;cases h;rw[hd]at r;exact of r.dd
 ·rename_i n hn;obtain⟨q,hf,hq,hrf,hnm⟩:=Rr h;have hmem:=F5 hf;obtain⟨l1,l2,el⟩:=List.append_of_mem hmem;have S':St m (reps U m (q::(l1++l2))++As) w:=St.rp g.st (by rw[el]; exact AoX);obtain⟨i,o⟩:=q;cases o with
  |box=>rcases hrf with h|h<;>cases h
  |hp=>rcases hrf with h|h<;>cases h
  |row k sz α' E' xs'=>
   simp only[KU]at hq;cases hq;obtain⟨v,cs,h1,h2,h3,h4,S2⟩:=St.openRow S';obtain⟨⟨a,c,rfl⟩,_⟩:=St.rowVal (i:=0) S2 rfl;obtain⟨p,hp,_⟩:=St.take' S2 (i:=0) rfl;rcases hp with ⟨_,_,h0,_⟩|⟨b,cap,l,e,fr,_,_,_,_,_,h6,h7,_⟩
   ·omega
   ·have:maxLen<=9223372036854775807:=by decide
    omega
  |fr k d=>
   simp only[KU]at hq;cases hq;obtain⟨⟨v,h1,h2⟩,_⟩:=St.openFr S';exact of h2
 ·cases h
theorem go_len {id:Nat}(hm:P.follows .mixedOrders=true){n:Nat}{cf:Cf}{α:Type}{E:α->List D}{xs:List α}(t:Nat)
  (e:(SL (LJ id P N n cf).1,lenK (LJ id P N n cf).1.s t,((LJ id P N n cf).2).map (·.1))=(true,some (.sl α E xs),((LJ id P N n cf).2).map (·.2)))
  (h:xs.length<=9223372036854775807->Go ρ P N D0 Q As u4 m0 (LJ id P N n cf).1):Go ρ P N D0 Q As u4 m0 cf:=by
 simp only[AnQ]at e;obtain⟨e1,e2,e3⟩:=e;refine Vm hm (.of e3) ?_;generalize (LJ id P N n cf).1=c0 at*;obtain⟨s,md,K⟩:=c0;unfold SL at e1;split at e1
 ·rename_i c hmd;simp only at hmd; subst hmd;exact λU m f w a1 a2 g=>h (AmG e2 g) U m f w a1 a2 g
 ·cases e1
def SK:AV->Bool
 | .d (.v (.slice none 0 0))=>true
 |_=>false
def nilS (s:AS)(t sz:Nat)(α:Type)(E:α->List D):AS:=⟨(t,.ow s.nx)::s.sl,s.ob++[(s.nx,.row s.nx sz α E [])],s.fz,s.nx+1⟩
theorem nil_gm {s:AS}{U:Env}{m:Mem}{f:Fr}{w:World}{t sz:Nat}{α:Type}{E:α->List D}(h:SK (get s.sl t)=true)(g:Gm As s U m f w):
  ∃u5,U.le u5/\Gm As (nilS s t sz α E) u5 m f w:=by
 have r:=g.slr t;have hv:f t= .slice none 0 0:=by
  generalize get s.sl t=a at*;unfold SK at h;split at h
  ·have:=r.dd; generalize f t=u at this; cases this; rfl
  ·cases h
 have h0:U s.nx=none:=by
  cases q:U s.nx with
  |none=>rfl
  |some v=>have:=g.dom s.nx (by rw[q]; simp); omega
 have le:=Env.le_put (v:= .slice none 0 0) h0;refine⟨U.put s.nx (.slice none 0 0),le,λu=> ?_,g.fz.up le (Mem.rfl' m),λn hn=> ?_,?_,?_,λx hx=> ?_⟩
 ·show Rel _ m (bif Nat.beq t u then .ow s.nx else get s.sl u) (f u);cases hb:Nat.beq t u
  ·exact(g.slr u).up le (Mem.rfl' m)
  ·have:=AnS hb; subst this;rw[hv]; exact .ow Env.put_self rfl
 ·rcases Env.put_dom hn with q|q
  ·exact Nat.lt_succ_of_lt (g.dom n q)
  ·subst q; exact Aoc _
 ·have S:=St.rowNil (St.ru le (Mem.rfl' m) g.st) sz;have T:=St.closeRow (U:=U.put s.nx (.slice none 0 0)) (n:=s.nx) (E:=E) (xs:=[]) Env.put_self rfl (by simpa using FRL.nil) (λ_ h=>by cases h) S;show St m (reps _ m (s.ob++[_])++As) w;rw[Be,An3];exact T.perm (List.perm_middle.symm)
 ·show(tids (s.ob++[_])).Nodup;simp only[tids,AoH,AoG,List.map_nil];refine List.nodup_append.2 ⟨g.wf.nd,by simp,λa ha b hb e=> ?_⟩;simp at hb;have:=g.wf.lt a ha;omega
 ·show x<s.nx+1;have hx':x∈tids (s.ob++[(s.nx,AObj.row s.nx sz α E [])]):=hx;simp only[tids,AoH,AoG,List.map_nil,Aol,List.mem_singleton]at hx';rcases hx' with q|q
  ·exact Nat.lt_succ_of_lt (g.wf.lt x q)
  ·omega
def MN (cf:Cf):Bool:=match cf.md with| .ops .. =>false|_=>true
def nilC (cf:Cf)(t sz:Nat)(α:Type)(E:α->List D):Cf:=⟨nilS cf.s t sz α E,cf.md,cf.K⟩
theorem AkC {cf:Cf}{t sz:Nat}{α:Type}{E:α->List D}(hp:MN cf=true)(h:SK (get cf.s.sl t)=true)(g:Go ρ P N D0 Q As u4 m0 (nilC cf t sz α E)):Go ρ P N D0 Q As u4 m0 cf:=by
 obtain⟨s,md,K⟩:=cf;have key: ∀{R:Fr->World->Prop},Al As u4 m0 (nilS s t sz α E) R->Al As u4 m0 s R:=λk U m f w a1 a2 gm=>
  let ⟨u5,le,gm'⟩:=nil_gm h gm; k u5 m f w (Env.le_tr a1 le) a2 gm'
 cases md with
 |ops=>cases hp
 |code c=>exact key g
 |pop=>exact key g
 |ext id=>exact key g
 |ret=>exact key g
theorem Tr {cf:Cf}{α:Type}(E:α->List D)(t sz:Nat)(g:Go ρ P N D0 Q As u4 m0 (nilC (aC P N cf) t sz α E))
  (e:(MN (aC P N cf),SK (get (aC P N cf).s.sl t),(bL P N cf))=(true,true,(bR P N cf)):=by kernel_rfl) (hm:P.follows .mixedOrders=true:=by rfl):Go ρ P N D0 Q As u4 m0 cf:=by
 simp only[AnQ]at e;exact AP hm (.of e.2.2) (AkC e.1 e.2.1 g)
theorem U4 {cf:Cf}{α:Type}(id:Nat)(E:α->List D)(t sz:Nat)(g:Go ρ P N D0 Q As u4 m0 (nilC (LJ id P N 100000 cf).1 t sz α E))
  (e:(MN (LJ id P N 100000 cf).1,SK (get (LJ id P N 100000 cf).1.s.sl t),((LJ id P N 100000 cf).2).map (·.1))=(true,true,((LJ id P N 100000 cf).2).map (·.2)):=by kernel_rfl) (hm:P.follows .mixedOrders=true:=by rfl):Go ρ P N D0 Q As u4 m0 cf:=by
 simp only[AnQ]at e;exact Vm hm (.of e.2.2) (AkC e.1 e.2.1 g)
end
def Aki:Nat->List (Nat×Operand)->Bool
 |_,[]=>true
 |k,p::l=>Nat.beq p.1 k&&Aki (k+1) l
theorem Ut: ∀{l:List (Nat×Operand)} {k:Nat},Aki k l=true->l=((l.map (·.2)).zipIdx k).map λp=>(p.2,p.1)
 | [],_,_=>rfl
 |(i,o)::l,k,h=>by
  simp only[Aki,AnP]at h;have e:i=k:=AnS h.1;subst e;simp only[AoG,List.zipIdx_cons];rw[<-Ut h.2]
def Aau (fz:Fz)(sl:Sl)(sz:Nat):List (Nat×Operand)->Option (List AV)
 | []=>some []
 |p::l=>match PF (rv fz sl p.2),Aau fz sl sz l with
  |some c,some r=>bif Nat.beq c.length sz then some (c++r)else none
  |_,_=>none
theorem Vg {fz:Fz}{sl:Sl}{sz:Nat}{U:Env}{m:Mem}{f:Fr}(hr: ∀t,Rel U m (get sl t) (f t))(hz:fzOk U m fz): ∀{l:List (Nat×Operand)} {cs:List AV},Aau fz sl sz l=some cs->
  ∃cls:List (List Value),Ih ((l.map (·.2)).map (ev f)) cls/\U0 sz cls=true/\BB U m cs cls.flatten
 | [],cs,h=>by cases h; exact⟨[],trivial,rfl,.nil⟩
 |p::l,cs,h=>by
  unfold Aau at h;split at h
  ·rename_i c r h1 h2;cases hb:Nat.beq c.length sz
   ·rw[hb]at h; cases h
   ·rw[hb]at h; cases h;obtain⟨cls,a1,a2,a3⟩:=Vg hr hz h2;obtain⟨b1,b2⟩:=Jn h1 (Om hz hr p.2);refine⟨(ev f p.2).cells.toList::cls,⟨by simp,a1⟩,?_,?_⟩
    ·show(Nat.beq _ sz&&U0 sz cls)=true;rw[a2,<-b1.1,hb]; rfl
    ·rw[List.flatten_cons]; exact b1.append a3
  ·cases h
def litK (P:Program)(cf:Cf):Option (List AV×Nat×Nat×Bool):=
 match Hk cf with
 |some a=>match a.g,a.o.op with
  |none,.buildSlice t n parts=>match P.underlying t with
   |some (.slice e)=>match KR P e with
    |some i=>match i.z,Aau cf.s.fz a.sl i.sz parts.toList with
     |some _,some cs=>some (cs,n,i.sz,Aki 0 parts.toList&&(Nat.beq n parts.toList.length&&(Nat.ble (n*i.sz) 16777216&&Nat.ble 1 i.sz)))
     |_,_=>none
    |none=>none
   |_=>none
  |_,_=>none
 |none=>none
def Aku (s:AS)(sz:Nat)(α:Type)(E:α->List D)(xs:List α):Stp:=⟨.ow s.nx,[],[],[(s.nx,.row s.nx sz α E xs)],s.nx+1,[]⟩
section
variable {ρ:Option Nat}{P:Program}{N:Nat}{D0:Dw}{Q:DP}{As:List Ow}{u4:Env}{m0:Mem}
theorem AmC {cf:Cf}{α:Type}{E:α->List D}{xs:List α}{k:Nat}(hE: ∀x,(E x).length=k)(e1:litK P cf=some ((xs.flatMap E).map dv,xs.length,k,true)):
  ∃a,Hk cf=some a/\a.g=none/\∀(rest:List Oper) (Q:DP) (U:Env) (m:Mem) (f:Fr) (w:World) (As:List Ow),(∀t,Rel U m (get a.sl t) (f t))->fzOk U m cf.s.fz->St m As w->
   (∀(v:Value) (w':World) (cs:List Value),FRL m (xs.flatMap E) cs->St m (Gw.row k v cs xs.length::As) w'->wpl ρ P N D0 a.l.toArray rest Q (upo N f a.o.dst v) w')->wpl ρ P N D0 a.l.toArray (a.o::rest) Q f w:=by
 unfold litK at e1;split at e1
 ·rename_i a ha;split at e1
  ·rename_i t n parts hg hop;split at e1
   ·rename_i e hu;split at e1
    ·rename_i i hi;split at e1
     ·rename_i z cs hz hcs;simp only[AnU,AnQ,AnP]at e1;obtain⟨ec,en,ek,b1,b2,b3,b4⟩:=e1;refine⟨a,ha,hg,?_⟩;have hgd:=By ha hg;obtain⟨l,⟨dst,op,ty,pos,af,gd⟩,gg,sl,es⟩:=a;simp only at hop hgd hcs⊢; subst hop hgd;intro rest Q U m f w As hr hfz S hk;obtain⟨cls,a1,a2,a3⟩:=Vg hr hfz hcs;have hp:=Ut b1;have e0:parts=(((parts.toList.map (·.2)).zipIdx 0).map λp=>(p.2,p.1)).toArray:=by
       rw[<-hp]
      rw[e0];have hlen:((parts.toList.map (·.2)).map (ev f)).length=n:=by simp; exact(AnS b2).symm
      refine Abg (vs:=(parts.toList.map (·.2)).map (ev f)) (cls:=cls) S hu (BM hi) (Sy hi hz) rfl a1 a2 hlen.symm (An5 b3) (An5 b4) λv w' S'=> ?_;rw[ek,en]at S';refine hk v w' cls.flatten ?_ S';rw[ec]at a3;exact FRL.ofRelv a3
     ·cases e1
    ·cases e1
   ·cases e1
  ·cases e1
 ·cases e1
theorem Kl {sz n:Nat}{v:Value}{cs:List Value}{m:Mem}{As:List Ow}{w:World}(S:St m (Gw.row sz v cs n::As) w):v.oneCell'=true:=by
 obtain⟨⟨a,c,rfl⟩,_⟩:=St.rowVal (i:=0) S rfl;rfl
theorem R1 {s:AS}{v:AV}{o:AObj}:Nt s ⟨v,[],[],[(s.nx,o)],s.nx+1,[]⟩:=
 ⟨λx hx=>by simp at hx,by simp[tids],by simp[tids],λt ht=>by simp[tids]at ht; subst ht; exact⟨AnX _,Aoc _⟩⟩
theorem Sa {k:Nat}{cf:Cf}{α:Type}(E:α->List D)(xs:List α)(hE: ∀x,(E x).length=k)(g:Go ρ P N D0 Q As u4 m0 (push N (aC P N cf) (Aku (aC P N cf).s k α E xs)))
  (e:(litK P (aC P N cf),(aL P N cf))=(some ((xs.flatMap E).map dv,xs.length,k,true),(aR P N cf)):=by kernel_rfl) (hm:P.follows .mixedOrders=true:=by rfl):Go ρ P N D0 Q As u4 m0 cf:=by
 simp only[AnQ]at e;obtain⟨e1,e3⟩:=e;obtain⟨he1,-⟩:=LI e3;refine AP hm he1 ?_;generalize aC P N cf=c0 at*;obtain⟨a,ha,hg,run⟩:=AmC (ρ:=ρ) (N:=N) (D0:=D0) hE e1;refine D9 ha hg ⟨AoO _,λrest Q U m f w As hr hz hn S hk=> ?_⟩ R1 g;refine run rest Q U m f w As hr hz S λv w' cs hc S'=> ?_;have h0:=hn c0.s.nx (AnX _) (Aoc _);have h1:=Kl S';refine hk (U.put c0.s.nx v) m w' v (Env.le_put h0) (Mem.rfl' m) (λn q=> ?_) (.ow Env.put_self h1) (St.closeRow Env.put_self h1 hc (λx _=>hE x) S');rcases Env.put_dom q with q|q
 ·exact .inl q
 ·subst q; exact .inr ⟨AnX _,Aoc _⟩
def litG (P:Program)(cf:Cf):Option (List AV×Nat×Nat×Bool):=
 match Hk cf with
 |some a=>match a.o.op with
  | .buildSlice t n parts=>match P.underlying t with
   |some (.slice e)=>match KR P e with
    |some i=>match i.z,Aau cf.s.fz a.sl i.sz parts.toList with
     |some _,some cs=>some (cs,n,i.sz,Aki 0 parts.toList&&(Nat.beq n parts.toList.length&&(Nat.ble (n*i.sz) 16777216&&Nat.ble 1 i.sz)))
     |_,_=>none
    |none=>none
   |_=>none
  |_=>none
 |none=>none
theorem glitF {k:Nat}{cf:Cf}{α:Type}(E:α->List D)(xs:List α)(hE: ∀x,(E x).length=k)(g:Go ρ P N D0 Q As u4 m0 (CH N (aC P N cf) (.d (.sl α E xs)) []))
  (e:(litG P (aC P N cf),(aL P N cf))=(some ((xs.flatMap E).map dv,xs.length,k,true),(aR P N cf)):=by kernel_rfl) (hm:P.follows .mixedOrders=true:=by rfl):Go ρ P N D0 Q As u4 m0 cf:=by
 simp only[AnQ]at e;obtain⟨e1,e3⟩:=e;obtain⟨he1,he2⟩:=LI e3;refine AP hm he1 ?_;generalize aC P N cf=c0 at*;unfold litG at e1;split at e1
 ·rename_i a ha;rw[DK ha]at he2;split at e1
  ·rename_i t n parts hop;split at e1
   ·rename_i e hu;split at e1
    ·rename_i i hi;split at e1
     ·rename_i z cs hz hcs;simp only[AnU,AnQ,AnP]at e1;obtain⟨ec,en,ek,b1,b2,b3,b4⟩:=e1;refine DJ (rd:=[]) ha he2 ⟨λ_ h=>(by cases h),List.nodup_nil⟩ (λ_=> ?_) g;obtain⟨l,⟨dst,op,ty,pos,af,gd⟩,gg,sl,es⟩:=a;simp only at hop hcs⊢; subst hop;refine⟨AnX _,λrest Q U m f w As hr hfz hn S hk=> ?_⟩;obtain⟨cls,a1,a2,a3⟩:=Vg hr hfz hcs;have hp:=Ut b1;have e0:parts=(((parts.toList.map (·.2)).zipIdx 0).map λp=>(p.2,p.1)).toArray:=by
       rw[<-hp]
      rw[e0];have hlen:((parts.toList.map (·.2)).map (ev f)).length=n:=by simp; exact(AnS b2).symm
      have S0:St m As w:=S;refine Abg (vs:=(parts.toList.map (·.2)).map (ev f)) (cls:=cls) S0 hu (BM hi) (Sy hi hz) rfl a1 a2 hlen.symm (An5 b3) (An5 b4) λv w' S'=> ?_;rw[ek,en]at S';rw[ec]at a3;letI:=TJ E k;obtain⟨m1,l1,h5,S2⟩:=St.rowKeepT (i:=0) S' rfl (AdL (FRL.ofRelv a3) λx _=>hE x) rfl;exact hk U m1 w' v Env.le_refl l1 (λn h=> .inl h) (.d (Zq h5)) S2
     ·cases e1
    ·cases e1
   ·cases e1
  ·cases e1
 ·cases e1
structure AppP:Type 1 where
 use:List Tok
 rd:List Tok
 fw:List Tok
 x:D
 y:D
 by_:Nat
 sz:Nat
def nilOf:D->D
 | .sl α E _=> .sl α E []
 |d=>d
def neD:D->Bool
 | .sl _ _ (_::_)=>true
 |_=>false
def Akh (ob:List Tok):AV->Option (D×List Tok×List Tok)
 | .d (.sl α E xs)=>some (.sl α E xs,[],[])
 | .ow n=>match find n ob with
  |some (i,.fr k d)=>bif Nat.beq k n then some (d,[(i,.fr k d)],[])else none
  |some (i,.row k sz α E xs)=>bif Nat.beq k n then some (.sl α E xs,[],[(i,.row k sz α E xs)])else none
  |_=>none
 |_=>none
def appP (P:Program)(cf:Cf):Option AppP:=
 match Hk cf with
 |some a=>match a.g,a.o.op with
  |none,.call c=>match c.callee,c.args.toList,c.argTypes.toList with
   | .builtin .append,[x,y],[t,t2]=>match P.underlying t,P.underlying t2,Akh cf.s.ob (aev a.sl y)with
    |some (.slice e),some (.slice _),some (dy,rd,fw)=>match KR P e with
     |some i=>match i.z with
      |some z=>bif Nat.beq z.cells.toList.length i.sz&&Nat.beq t t2 then
       match aev a.sl x with
       | .ow n=>match find n cf.s.ob with
        |some (j,.row k sz α E xs)=>bif Nat.beq k n&&Nat.beq sz i.sz then some ⟨[(j,.row k sz α E xs)],rd,fw,.sl α E xs,dy,i.by_,i.sz⟩else none
        |_=>none
       | .d (.v (.slice none 0 0))=>some ⟨[],rd,fw,nilOf dy,dy,i.by_,i.sz⟩
       | .d (.kp α E xs)=>bif neD dy then some ⟨[],rd,fw,.sl α E xs,dy,i.by_,i.sz⟩else none
       |_=>none
       else none
      |none=>none
     |none=>none
    |_,_,_=>none
   |_,_,_=>none
  |_,_=>none
 |none=>none
def appK (P:Program)(cf:Cf):Option (D×D×Nat×Nat×Bool):=match appP P cf with|some p=>some (p.x,p.y,p.by_,p.sz,Abu (tids ((p.use++p.fw)++p.rd))&&(p.rd.all (λp=>Z4 p.2)&&p.fw.all (λp=>Mp p.2)))|none=>none
def appS (P:Program)(s:AS)(cf:Cf)(sz:Nat)(α:Type)(E:α->List D)(zs:List α):Stp:=match appP P cf with|some p=>⟨.ow s.nx,p.rd,p.use++p.fw,enO s.nx (.row s.nx sz α E zs::Vk p.fw),s.nx+(1+(Vk p.fw).length),[]⟩|none=>Aku s sz α E zs
theorem Abb {ob:List Tok}{a:AV}{d:D}{rd fw:List Tok}(h:Akh ob a=some (d,rd,fw)){U:Env}{m:Mem}{v:Value}(r:Rel U m a v)
  (k1: ∀p∈fw,∃v,U p.2.nm=some v/\FR m (KU p.2) v) (k2: ∀p∈rd,∃v,U p.2.nm=some v/\FR m (KU p.2) v):FR m d v:=by
 unfold Akh at h;split at h
 ·cases h; exact r.dd
 ·rename_i n;split at h
  ·rename_i i k d' hf;cases hb:Nat.beq k n
   ·rw[hb]at h; cases h
   ·rw[hb]at h; cases h;have:=AnS hb; subst this;obtain⟨u,h1,h2⟩:=k2 _ Aoe;have:=r.ow_inv.1;rw[show(AObj.fr k d).nm=k from rfl]at h1;rw[h1]at this; cases this; exact h2
  ·rename_i i k sz α E xs hf;cases hb:Nat.beq k n
   ·rw[hb]at h; cases h
   ·rw[hb]at h; cases h;have:=AnS hb; subst this;obtain⟨u,h1,h2⟩:=k1 _ Aoe;have:=r.ow_inv.1;rw[show(AObj.row k sz α E xs).nm=k from rfl]at h1;rw[h1]at this; cases this; exact h2
  ·cases h
 ·cases h
theorem XI {ob:List Tok}{a:AV}{d:D}{rd fw:List Tok}(h:Akh ob a=some (d,rd,fw)): ∀p∈fw++rd,p∈ob:=by
 unfold Akh at h;split at h
 ·cases h; intro p hp; simp at hp
 ·split at h
  ·rename_i i k d' hf;cases hb:Nat.beq k _
   ·rw[hb]at h; cases h
   ·rw[hb]at h; cases h;intro p hp; simp at hp; subst hp; exact F5 hf
  ·rename_i i k sz α E xs hf;cases hb:Nat.beq k _
   ·rw[hb]at h; cases h
   ·rw[hb]at h; cases h;intro p hp; simp at hp; subst hp; exact F5 hf
  ·cases h
 ·cases h
theorem Air {P:Program}{m:Mem}{As:List Ow}{w:World}{sz n k c bytes:Nat}{a0:Option Addr}{z src:Value}{cs ds:List Value}{t ty e:TypeId}{ti:TypeInfo}
  (ht:P.underlying t=some (.slice e)) (hi:P.info? e=some ti) (hz:ti.zero=some z) (hsz:ti.size=sz) (hby:ti.bytes=bytes) (hzs:z.cells.size=sz)
  (hlen: ∀w,(Builtin.lenOf src).run P w= .ok k w) (hf: ∀j,(Builtin.firstCells sz k src).run P {w with drawn:=j}= .ok ds.toArray {w with drawn:=j}) (hds:ds.length=k*sz)
  (hb:(n+k)*bytes<=140737488355328) (h63:n+k<=140737488355328) (hS:St m As w) (hv:SlC m sz (.slice a0 n c) cs n) (hcap:c<n+k):
  ∃v' w',(Builtin.append_ #[t,t] ty #[.slice a0 n c,src]).run P w= .ok v' w'/\St m (Gw.row sz v' (cs++ds) (n+k)::As) w'/\Kd w w':=by
 subst hsz hby;have hcl:cs.length=n*ti.size:=hv.1;have hf1:(Builtin.firstCells ti.size k src).run P w.drew= .ok ds.toArray w.drew:=hf _;have hfo:(Builtin.firstCells ti.size n (.slice a0 n c)).run P w.drew= .ok cs.toArray w.drew:=En hS hv _;have hun: ∀w,(underlying t).run P w= .ok (.slice e) w:=λw=>An0 ht w;have hfit:=growslice_fits hcap hb;have hn: ¬(n+k<=c):=by omega
 have h63': ¬(9223372036854775807<((n:Int)+(k:Int))):=by omega
 have h48': ¬(281474976710656<Builtin.nextslicecap (n+k) c*ti.bytes):=by omega
 have hge:=grownCap_ge w (n+k) c e;have hcm:grownCap w (n+k) c e<=maxLen:=grownCap_le_maxLen w (n+k) c e (by simp only[maxLen]; omega);refine⟨.slice (some ⟨w.heap.size,0,none⟩) (n+k) (grownCap w (n+k) c e),w.drew.alloc (.cells (cs.toArray++ds.toArray++Builtin.zeroCells z.cells (grownCap w (n+k) c e-(n+k))) e),?_,?_,?_⟩
 ·simp[Builtin.append_,hun,sizeOf,typeInfo,zeroValue,hi,hz,hlen,hn,h63',h48',Question.forced,hfo,hf1,newRow,grownCap]
  all_goals (congr 2; apply Array.ext'; simp)
 ·have S1:=(hS.drew (w.drawn+1)).push (.cells (cs.toArray++ds.toArray++Builtin.zeroCells z.cells (grownCap w (n+k) c e-(n+k))) e) CF;refine St.to S1 λh hh=> .inr ⟨w.heap.size,_,_,e,(0,0),rfl,hh,?_,?_,?_,hge,hcm,.inl rfl,.inl rfl⟩
  ·rw[AnY,hcl,hds,Nat.add_mul]
  ·have e1:(n+k)*ti.size=(cs++ds).length:=by rw[AnY,hcl,hds,Nat.add_mul]
   have e2:(cs.toArray++ds.toArray++Builtin.zeroCells z.cells (grownCap w (n+k) c e-(n+k))).toList=(cs++ds)++(Builtin.zeroCells z.cells (grownCap w (n+k) c e-(n+k))).toList:=by simp
   rw[e1,e2]; exact List.take_left
  ·simp only[Array.size_append,List.size_toArray,size_zeroCells,hzs,hcl,hds,<-Nat.add_mul];congr 1; omega
 ·exact⟨(Kd.push w.drew _).size,(Kd.push w.drew _).same⟩
def AppAt (P:Program)(m:Mem){α:Type}(E:α->List D)(k:Nat)(v:Value)(xs ys:List α)(As:List Ow)(w:World):Prop:=(∃cs,FRL m (xs.flatMap E) cs/\St m (Gw.row k v cs xs.length::As) w)\/(FR m (.kp α E xs) v/\0<ys.length/\St m As w)
theorem s_appA {ρ:Option Nat}{P:Program}{N:Nat}{D0:Dw}{ops:Array Oper}{rest:List Oper}{Q:DP}{f:Fr}{w:World}{dst:Option Nat}{ty t:TypeId}{pos:String}{af:Array Edge}{x y:Operand}{m:Mem}{As:List Ow}
  {α:Type} {E:α->List D} {k bytes:Nat} {xs ys zs:List α} {v u z:Value} {e:TypeId} {ti:TypeInfo} (hE: ∀x,(E x).length=k) (hA:AppAt P m E k v xs ys As w) (hx:ev f x=v) (hy:ev f y=u) (hv: @SlR α (TJ E k) m u ys) (hq:app bytes xs ys=some zs)
  (ht:P.underlying t=some (.slice e)) (hi:P.info? e=some ti) (hz:ti.zero=some z) (hsz:ti.size=k) (hby:ti.bytes=bytes) (hzs:z.cells.size=k)
  (h: ∀v' cs' w',St m (Gw.row k v' cs' zs.length::As) w'-> @Cl α (TJ E k) m cs' zs->wpl ρ P N D0 ops rest Q (upo N f dst v') w'):
  wpl ρ P N D0 ops (⟨dst,.call {callee:= .builtin .append,args:= #[x,y],argTypes:= #[t,t]},ty,pos,af,none⟩::rest) Q f w:=by
 letI:=TJ E k;rcases hA with ⟨cs,hc,S⟩|⟨hk,h0,S⟩
 ·exact Al6 (α:=α) (i:=0) (ti:=ti) (z:=z) S hx rfl (AdL hc λx _=>hE x) rfl hy hv hq ht hi hz hsz hby hzs λv' cs' w' S8 hr=>h v' cs' w' S8 hr
 ·cases hk with
  |kp hsl hc0=>
   obtain⟨cs,h1,h2⟩: ∃cs,SlC m k v cs xs.length/\Cl m cs xs:=Abt hsl hE;obtain⟨a0,c0,rfl⟩:=h1.val;have hc1:=hc0 _ _ _ rfl;obtain⟨⟨hb,h63⟩,hq⟩:=A2 hq;cases hq;obtain⟨ds,hc,hr2⟩:=hv;obtain⟨a,c,rfl⟩:=hc.val;obtain⟨v',w',hrun,hS',kd⟩:=Air (P:=P) (ty:=ty) ht hi hz hsz hby hzs (src:= .slice a ys.length c) (λw=>LU w) (λj=>En S hc j) hc.1 hb h63 S h1 (by omega);refine AA (v:=v') (w':=w') rfl (λ_ e=>by cases e) ?_ (h v' _ w' (by simpa using hS') (h2.append hr2)) kd;simp[execOp,resolve,invoke,builtin,hx,hy,hrun]
theorem gapp {k b:Nat}{cf:Cf}{α:Type}{E:α->List D}{xs ys zs:List α}(hE: ∀x,(E x).length=k)(hq:app b xs ys=some zs)(g:Go ρ P N D0 Q As u4 m0 (push N (aC P N cf) (appS P (aC P N cf).s (aC P N cf) k α E zs)))
  (e:(appK P (aC P N cf),(aL P N cf))=(some (.sl α E xs,.sl α E ys,b,k,true),(aR P N cf)):=by kernel_rfl) (hm:P.follows .mixedOrders=true:=by rfl):Go ρ P N D0 Q As u4 m0 cf:=by
 simp only[AnQ]at e;obtain⟨e1,e3⟩:=e;obtain⟨he1,-⟩:=LI e3;refine AP hm he1 ?_;generalize aC P N cf=c0 at*;cases hp:appP P c0 with
 |none=>unfold appK at e1; rw[hp]at e1; cases e1
 |some p=>
  unfold appK at e1;rw[hp]at e1;simp only[AnU,AnQ,AnP]at e1;obtain⟨ex,ey,eb,ek,o1,o2,o3⟩:=e1;have gS:appS P c0.s c0 k α E zs=⟨.ow c0.s.nx,p.rd,p.use++p.fw,enO c0.s.nx (.row c0.s.nx k α E zs::Vk p.fw),c0.s.nx+(1+(Vk p.fw).length),[]⟩:=by unfold appS; rw[hp]
  rw[gS]at g;have hp0:=hp;unfold appP at hp;split at hp
  ·rename_i a ha;split at hp
   ·rename_i c hg hop;split at hp
    ·rename_i x y t t2 hce hargs hats;split at hp
     ·rename_i e' e2 dy rd fw hu hu2 hsrc;split at hp
      ·rename_i i hi;split at hp
       ·rename_i z hz;cases hb:Nat.beq z.cells.toList.length i.sz&&Nat.beq t t2
        ·rw[hb]at hp; cases hp
        ·rw[hb]at hp;simp only[cond_true]at hp;simp only[AnP]at hb;have hzs:z.cells.size=i.sz:=by rw[<-Array.length_toList]; exact AnS hb.1
         have htt:=AnS hb.2;subst htt;have hgd:=By ha hg;have ssub:=XI hsrc;have key: ∃src:List Tok,p.use=src/\p.rd=rd/\p.fw=fw/\p.y=dy/\p.by_=i.by_/\p.sz=i.sz/\(∀q∈src,q∈c0.s.ob)/\
           ∀(U:Env) (m:Mem) (f:Fr) (w:World) (As:List Ow),(∀t,Rel U m (get a.sl t) (f t))->St m (reps U m src++As) w->AppAt P m E k (ev f x) xs ys As w:=by
          split at hp
          ·rename_i nn hx;split at hp
           ·rename_i j kk sz α' E' xs' hf;cases hb2:Nat.beq kk nn&&Nat.beq sz i.sz
            ·rw[hb2]at hp; cases hp
            ·rw[hb2]at hp; cases hp;simp only[AnP]at hb2;have:=AnS hb2.1; subst this;have hsz:=AnS hb2.2;refine⟨_,rfl,rfl,rfl,rfl,rfl,rfl,λq hq=>by simp at hq; subst hq; exact F5 hf,λU m f w As hr S=> ?_⟩;simp only at ex ek;cases ex;obtain⟨v,cs,h1,h2,h3,h4,S1⟩:=St.openRow S;have rx:=Ap hr x; rw[hx]at rx;have:=rx.ow_inv.1;rw[h1]at this; cases this;rw[hsz,ek]at S1;exact .inl ⟨cs,h3,S1⟩
           ·cases hp
          ·rename_i hx;cases hp;refine⟨_,rfl,rfl,rfl,rfl,rfl,rfl,λq hq=>by simp at hq,λU m f w As hr S=> ?_⟩;have rx:=Ap hr x; rw[hx]at rx;have hv:ev f x= .slice none 0 0:=by
            have:=rx.dd;generalize ev f x=u at this;cases this; rfl
           have hxs:xs=[]:=by
            simp only at ex ey;rw[ey]at ex;simp only[nilOf]at ex;cases ex; rfl
           subst hxs;rw[hv];exact .inl ⟨[],by simpa using FRL.nil,St.rowNil S k⟩
          ·rename_i α' E' xs' hx;cases hb3:neD dy
           ·rw[hb3]at hp; cases hp
           ·rw[hb3]at hp; cases hp;refine⟨_,rfl,rfl,rfl,rfl,rfl,rfl,λq hq=>by simp at hq,λU m f w As hr S=> ?_⟩;simp only at ex ey;cases ex;have rx:=Ap hr x; rw[hx]at rx;refine .inr ⟨rx.dd,?_,S⟩;subst ey;cases ys with
            |nil=>cases hb3
            |cons y ys=>simp
          ·cases hp
         obtain⟨src,p1,p2,p3,p4,p5,p6,sub,run⟩:=key;rw[p4]at ey;rw[p5]at eb;rw[p6]at ek;rw[p1,p2,p3]at g o1;rw[p2]at o2;rw[p3]at o3;subst ey eb;refine D9 ha hg ?_ ?_ g
         ·obtain⟨l,⟨dst,op,ty,pos,af,gd⟩,gg,sl,es⟩:=a;obtain⟨ce,cx,ct⟩:=c;obtain⟨cx⟩:=cx;obtain⟨ct⟩:=ct;simp only at hop hgd hce hargs hats hsrc run⊢; subst hop hgd hce hargs hats;refine⟨Nat.le_add_right _ _,λrest Q U m f w As hr hfz hn S hk=> ?_⟩;simp only at S hk hn;rw[Be,Be,An3,An3]at S;have S1:=S.perm (An6 (reps U m src) (reps U m fw) _);obtain⟨m1,l1,K1,S2⟩:=OM o3 S1;have S3:=St.ru Env.le_refl l1 S2;have S4:=S3.perm (An6 (reps U m1 src) (reps U m rd) _);have S5:=St.ru Env.le_refl l1 S4;obtain⟨K2,S6⟩:=Sd o2 S5;have hr1: ∀t,Rel U m1 (get sl t) (f t):=λt=>(hr t).up Env.le_refl l1;have hy:=Abb hsrc (Ap hr1 y) K1 K2;have R7:=run U m1 f w As hr1 S6;letI:=TJ E k;have tb:=Iz hi;refine s_appA (α:=α) (ti:=i.inf) (z:=z) hE R7 rfl rfl (Abt hy hE) hq hu (Zr hi) (by rw[<-tb.2.2.2.2.1]; exact hz) (by rw[<-tb.2.2.2.1]; exact ek) (by rw[<-tb.2.2.2.2.2]) (by rw[hzs]; exact ek) λv' cs' w' S8 hrep=> ?_;have hrep':=Afv hrep;have h0:=hn c0.s.nx (AnX _) (by omega);have S9:St m1 (Gw.row k v' cs' zs.length::As) w':=S8;have h1:=Kl S9;have le2:=Env.le_put (v:=v') h0;refine hk (U.put c0.s.nx v') m1 w' v' le2 l1 (λq hq=> ?_) (.ow Env.put_self h1) ?_
          ·rcases Env.put_dom hq with q1|q1
           ·exact .inl q1
           ·subst q1; exact .inr ⟨AnX _,by omega⟩
          ·rw[Be,An3,Lw];show St m1 (rep _ m1 (.row c0.s.nx k α E zs)::((Vk fw).map (rep _ m1)++(reps _ m1 rd++As))) w';have F1: ∀q∈fw,∃v,(U.put c0.s.nx v') q.2.nm=some v/\FR m1 (KU q.2) v:=λq hq=>let ⟨v,a,b⟩:=K1 q hq; ⟨v,le2 _ _ a,b⟩;have F2: ∀q∈rd,∃v,(U.put c0.s.nx v') q.2.nm=some v/\FR m1 (KU q.2) v:=λq hq=>let ⟨v,a,b⟩:=K2 q hq; ⟨v,le2 _ _ a,b⟩;have T1:=St.closeRow (U:=U.put c0.s.nx v') (n:=c0.s.nx) Env.put_self h1 hrep'.1 hrep'.2 S9;have T2:=O6 F1 (Rv o2 F2 T1);exact T2.perm ((Aor _ AoX).trans AoX)
         ·refine⟨λq hq=> ?_,Jq o1,?_,λt ht=> ?_⟩
          ·simp only at hq;rcases Aol.1 hq with h|h
           ·rcases Aol.1 h with h|h
            ·exact sub q h
            ·exact ssub q (List.mem_append_left _ h)
           ·exact ssub q (List.mem_append_right _ h)
          ·simp only; rw[Gs]; exact List.nodup_range'
          ·simp only at ht⊢;rw[Gs,List.mem_range']at ht;obtain⟨i2,hi2,rfl⟩:=ht;simp only[AnR]at hi2;omega
       ·cases hp
      ·cases hp
     ·cases hp
    ·cases hp
   ·cases hp
  ·cases hp
end
def AcD (n:Nat)(er:AV):List AV:=bif Nat.beq n 1 then [er]else tupE er
def Ano (P:Program)(fn:Func)(cf:Cf)(er:AV)(eobs:List AObj):Option AhR:=bif AnK cf then match AdH P cf.s fn.results.toList with|some vs=>ZI cf.s.ob 0 vs (AcD fn.results.toList.length er) eobs|none=>none else none
def isTup:AV->Bool
 | .tup _=>true
 |_=>false
def okEnd (p:AhR)(len:Nat)(er:AV)(eobs:List AObj)(n0 n1:Nat):Bool:=(AcD len er).all (okA n1)&&(eobs.all (okO n1)&&(Abu (tids ((p.ut++p.fw)++p.fr))&&(fixB p.mt n0&&(Nat.ble n0 n1&&(p.fr.all (λp=>Z4 p.2)&&(p.fw.all (λp=>Mp p.2)&&(Nat.beq len 1||isTup er)))))))
def endL (P:Program)(fn:Func)(cf:Cf)(er:AV)(eobs:List AObj)(n0 n1:Nat):Option (List AV×List AObj×Bool):=match Ano P fn cf er eobs with|some p=>some (p.as,p.objs,okEnd p fn.results.toList.length er eobs n0 n1)|none=>none
def endR (P:Program)(fn:Func)(cf:Cf)(er:AV)(eobs:List AObj):Option (List AV×List AObj×Bool):=match Ano P fn cf er eobs with|some p=>some ((AcD fn.results.toList.length er).map (Ael λj=>Oq p.mt j j),eobs.map (ZF λj=>Oq p.mt j j),true)|none=>none
section
variable {P:Program}{N:Nat}{As:List Ow}{u4:Env}{m0:Mem}
theorem ZE {s:AS}: ∀{rs:List ResultVar} {vs:List AV},AdH P s rs=some vs->vs.length=rs.length
 | [],vs,h=>by cases h; rfl
 |r::rs,vs,h=>by
  unfold AdH at h;split at h
  ·rename_i a b h1 h2; cases h; simp[ZE h2]
  ·cases h
theorem go_fin (hm:P.follows .mixedOrders=true){ρ:Option Nat}{D0:Dw}{fn:Func}{n n0 n1:Nat}{cf:Cf}{er:AV}{eobs:List AObj}{Po:AV->List AObj->Nat->Prop}(hd: ∀n,u4 n≠none->n<n0)
  (e:(endL P fn (adv P N n cf).1 er eobs n0 n1,(Ano P fn (adv P N n cf).1 er eobs).isSome,((adv P N n cf).2).map (·.1))=(endR P fn (adv P N n cf).1 er eobs,true,((adv P N n cf).2).map (·.2))) (hp:Po er eobs n1):
  Go ρ P N D0 (AdQ P N fn (Tu As u4 m0 Po)) As u4 m0 cf:=by
 simp only[AnQ]at e;obtain⟨e1,e2,e3⟩:=e;refine Vl hm (.of e3) ?_;generalize (adv P N n cf).1=c0 at*;obtain⟨s,md,K⟩:=c0;cases hpl:Ano P fn ⟨s,md,K⟩ er eobs with
 |none=>rw[hpl]at e2; cases e2
 |some p=>
  unfold endL endR at e1;rw[hpl]at e1;simp only[AnU,AnQ]at e1;obtain⟨ea,eo,ef⟩:=e1;simp only[okEnd,AnP]at ef;obtain⟨o1,o2,o3,o4,o5,o6,o7,o8⟩:=ef;unfold Ano at hpl;cases hb:AnK ⟨s,md,K⟩
  ·rw[hb]at hpl; cases hpl
  ·rw[hb]at hpl;simp only[cond_true]at hpl;split at hpl
   ·rename_i vs hvs;have main: ∀U m f w,u4.le U->m0<=m->Gm As s U m f w->∀w',Pd w w'->outE P N fn (Tu As u4 m0 Po) f w':=by
     intro U m f w a1 a2 g w' hpd;have S0:=St.pd g.st hpd;obtain⟨us,r1,r2⟩:=Akv g.slr S0 hvs;have S:=St.rp S0 (KK g.wf.nd (Jq o3) (AcB hpl));rw[Be,An3]at S;obtain⟨m1,l1,r3,S1⟩:=AfQ hpl o6 o7 r2 S;rw[ea]at r3;rw[eo]at S1;let φ:Nat->Nat:=λj=>Oq p.mt j j;let uu:Env:=λj=>if j<n1 then U (φ j)else none;have hη1: ∀j,j<n1->U (φ j)=uu j:=λj hj=>(AnT hj).symm;have S2:=S1.perm (show(eobs.map (ZF φ)).map (rep U m1)++(reps U m (Ek (tids (p.ut++p.fw++p.fr)) s.ob)++As)|>.Perm (reps U m (Ek (tids (p.ut++p.fw++p.fr)) s.ob)++((eobs.map (ZF φ)).map (rep U m1)++As))from An6 _ _ _);obtain⟨m2,l2,S3⟩:=St.dropN (reps U m (Ek (tids (p.ut++p.fw++p.fr)) s.ob)).length S2;rw[List.drop_left]at S3;have S4:St m2 (eobs.map (rep uu m2)++As) w':=by
      have S3':=St.mapUp (obs:=eobs.map (ZF φ)) Env.le_refl l2 S3;refine S3'.imp (by simp) λi A B ha hb x hx=> ?_;rw[List.getElem?_append]at ha hb;simp only[AoB]at ha hb;split at ha
      ·rename_i q;rw[AnT q]at hb;simp only[Aoz,AnZ]at ha hb;obtain⟨o',⟨o,ho,rfl⟩,rfl⟩:=ha;obtain⟨o2',ho',rfl⟩:=hb;rw[ho]at ho'; cases ho';exact Abn hη1 (Aoj.1 o2 o (Aoh ho)) hx
      ·rename_i q;rw[AnW q]at hb;rw[ha]at hb; cases hb; exact hx
     have r4:=XU hη1 o1 (r3.up Env.le_refl l2);have hlen:=ZE hvs;have hus:us.length=fn.results.toList.length:=by rw[<-r2.1,hlen]
     have hR:Rel uu m2 er (tup us):=by
      unfold AcD at r4;cases hl:Nat.beq fn.results.toList.length 1
      ·rw[hl]at r4;simp only[cond_false]at r4;rw[hl]at o8;simp only[AoM]at o8;have hne:us.length≠1:=by intro q; rw[hus]at q; rw[q]at hl; cases hl
       have:tup us= .tuple us.toArray:=by
        unfold tup;split
        ·simp at hne
        ·rfl
       rw[this];cases er with
       |tup l=>exact .tup r4.1 r4.2
       |_=>cases o8
      ·rw[hl]at r4;simp only[cond_true]at r4;obtain⟨v,us',e5,h1,h2⟩:=r4.cons_inv;have:=h2.nil_inv; subst this;subst e5;exact h1
     refine Aeo us (by rw[Array.toArray_toList]) r1 ⟨m2,uu,er,eobs,n1,Mem.tr a2 (Mem.tr l1 l2),λk v hv=> ?_,hp,λk hk=> ?_,hR,S4⟩
     ·have hlt:=hd k (by rw[hv]; simp);show(if _ then _ else _)=_;rw[AnT (AoU hlt (An5 o5))];show U (Oq p.mt k k)=some v;rw[AbK o4 k hlt]; exact a1 _ _ hv
     ·have:(if k<n1 then U (φ k)else none)≠none:=hk;split at this
      ·assumption
      ·exact absurd rfl this
    unfold AnK at hb;split at hb
    ·rename_i hmd hK;simp only at hmd hK; subst hmd hK;exact λU m f w a1 a2 g=>UJ (main U m f w a1 a2 g)
    ·rename_i hmd hK;simp only at hmd hK; subst hmd hK;exact λU m f w a1 a2 g=>outNw (main U m f w a1 a2 g)
    ·cases hb
   ·cases hpl
end
section
variable {ρ:Option Nat}{P:Program}{N:Nat}{D0:Dw}{Q:DP}{As:List Ow}{u4:Env}{m0:Mem}
theorem tup2 {U:Env}{m:Mem}(p q:UInt64):Rel U m (.tup [.d (.u p),.d (.u q)]) (.tuple #[vU p,vU q]):=
 have h:BB U m [.d (.u p),.d (.u q)] [vU p,vU q]:=BB.cons (.d (.u p)) (BB.cons (.d (.u q)) BB.nil)
 .tup h.1 h.2
theorem Q6 {s:AS}:(∀p∈([]:List Tok),p∈s.ob)/\(tids []).Nodup:=⟨λ_ h=>(by cases h),List.nodup_nil⟩
def Z3 (P:Program)(t:TypeId):Bool:=match P.underlying t with|some .string=>true|_=>false
theorem Nl {t:TypeId}(h:Z3 P t=true):P.underlying t=some .string:=by
 unfold Z3 at h;split at h
 ·assumption
 ·cases h
def AmO (P:Program)(cf:Cf):Option (AV×Int×Bool):=
 match Hk cf with
 |some a=>match a.o.op with
  | .index t x y=>match RV a.sl y with
   |some (_,j)=>some (aev a.sl x,j,Z3 P t)
   |none=>none
  |_=>none
 |none=>none
theorem Aab {cf:Cf}{s:ByteArray}{j:Int}{b:UInt8}(hq:gOf (aC P N cf)=true->idx s.data.toList j=some b)(g:Go ρ P N D0 Q As u4 m0 (CH N (aC P N cf) (.d (.b b)) []))
  (e:(AmO P (aC P N cf),(aL P N cf))=(some (.d (.s s),j,true),(aR P N cf)):=by kernel_rfl) (hm:P.follows .mixedOrders=true:=by rfl):Go ρ P N D0 Q As u4 m0 cf:=by
 simp only[AnQ]at e;obtain⟨e1,e3⟩:=e;obtain⟨he1,he2⟩:=LI e3;refine AP hm he1 ?_;generalize aC P N cf=c0 at*;unfold AmO at e1;split at e1
 ·rename_i a ha;rw[DK ha]at he2;split at e1
  ·rename_i t x y hop;split at e1
   ·rename_i kk jj hj;simp only[AnU,AnQ]at e1;obtain⟨ed,rfl,hs⟩:=e1;refine DJ (rd:=[]) ha he2 Q6 (λhp=> ?_) g;have q:=hq (NK ha hp);obtain⟨l,⟨dst,op',ty,pos,af,gd⟩,gg,sl,es⟩:=a;simp only at hop ed hj⊢; subst hop;refine⟨AnX _,λrest Q U m f w As hr hz hn S hk=> ?_⟩;have rx:=Ap hr x;rw[ed]at rx;have hx:ev f x=vS s:=by
     have:=rx.dd;generalize ev f x=u at this;cases this; rfl
    exact Ail hx (BO hj hr) (Nl hs) q (hk U m w _ Env.le_refl (Mem.rfl' m) (λn h=> .inl h) (.d (.b b)) S)
   ·cases e1
  ·cases e1
 ·cases e1
def Alp (cf:Cf):Option (FuncId×AV×AV×Bool):=
 match Hk cf with
 |some a=>match a.o.op with
  | .call c=>match c.callee,c.args.toList with
   | .value (.func k),[x,y,z]=>some (k,aev a.sl x,aev a.sl y,match RV a.sl z with|some (.u64,j)=>j==0|_=>false)
   |_,_=>none
  |_=>none
 |none=>none
theorem AkX {cf:Cf}{k:FuncId}{fn:Func}{p q:UInt64}(hf:P.funcs[k]? =some fn)(g:Go ρ P N D0 Q As u4 m0 (CH N (aC P N cf) (.tup [.d (.u (p+q)),.d (.u (Lx p q))]) []))
  (hname:(fn.name== "runtime.NumGoroutine")=false:=by kernel_rfl) (hb:fn.body.isNone=true:=by kernel_rfl) (hx:Extern.findNext fn=none:=by kernel_rfl) (he:Extern.find fn=some add64Entry:=by kernel_rfl) (e:(Alp (aC P N cf),(aL P N cf))=(some (k,.d (.u p),.d (.u q),true),(aR P N cf)):=by kernel_rfl) (hm:P.follows .mixedOrders=true:=by rfl):Go ρ P N D0 Q As u4 m0 cf:=by
 simp only[AnQ]at e;obtain⟨e1,e3⟩:=e;obtain⟨he1,he2⟩:=LI e3;refine AP hm he1 ?_;generalize aC P N cf=c0 at*;unfold Alp at e1;split at e1
 ·rename_i a ha;rw[DK ha]at he2;split at e1
  ·rename_i c hop;split at e1
   ·rename_i k' x y z hc hargs;simp only[AnU,AnQ]at e1;obtain⟨rfl,ex,ey,ez⟩:=e1;refine DJ (rd:=[]) ha he2 Q6 (λhp=> ?_) g;obtain⟨l,⟨dst,op',ty,pos,af,gd⟩,gg,sl,es⟩:=a;obtain⟨cc,cas,cts⟩:=c;simp only at hop ex ey ez hc hargs⊢; subst hop hc;have ha':cas= #[x,y,z]:=by apply Array.toList_inj.mp; rw[hargs]
    subst ha';refine⟨AnX _,λrest Q U m f w As hr hz hn S hk=> ?_⟩;have rx:=Ap hr x;have ry:=Ap hr y;rw[ex]at rx;rw[ey]at ry;have h0:ev f z= .int .u64 0:=by
     split at ez
     ·rename_i j hj;have:=BO hj hr;rw[this];simp only[Aou]at ez;rw[ez]
     ·cases ez
    exact Al7 hf hname hb hx he rx.u_inv ry.u_inv h0 (hk U m w _ Env.le_refl (Mem.rfl' m) (λn h=> .inl h) (tup2 _ _) S)
   ·cases e1
  ·cases e1
 ·cases e1
abbrev byE:UInt8->List D:=λx=> [.b x]
theorem AnE: ∀{m:Mem} {xs:List UInt8} {cs:List Value}, @Cl UInt8 (TJ byE 1) m cs xs->Cl m cs xs
 |_,[],_,h=>h
 |m,x::xs,cs,h=>by
  obtain⟨c,d,h1,h2,h3⟩:=h;refine⟨c,d,h1,?_,AnE h3⟩;obtain⟨v,us,e1,e2,e3⟩:=FRL.cons_inv h2.1;have:=FRL.nil_inv e3;subst this;show c=[vB x];rw[e1];generalize v=u at*;cases e2; rfl
theorem bySl {m:Mem}{v:Value}{xs:List UInt8}(h:FR m (.sl UInt8 byE xs) v):SlR m v xs:=by
 obtain⟨cs,h1,h2⟩:=Abt (sz:=1) h (λ_=>rfl);exact⟨cs,h1,AnE h2⟩
theorem AnF: ∀{m:Mem} {xs:List UInt8} {cs:List Value},Cl m cs xs->FRL m (xs.flatMap byE) cs
 |m,[],cs,h=>by
  have:cs=[]:=h;subst this; exact .nil
 |m,x::xs,cs,h=>by
  obtain⟨c,d,h1,h2,h3⟩:=h;have:c=[vB x]:=h2;subst this h1;exact .cons (.b x) (AnF h3)
def bsK (P:Program)(cf:Cf):Option (D×Bool×List Tok):=
 match Hk cf with
 |some a=>match a.o.op with
  | .convert t t2 x=>match Amd cf.s.ob (aev a.sl x)with
   |some (d,ts)=>some (d,AbG P t&&Z3 P t2,ts)
   |none=>none
  |_=>none
 |none=>none
def bsT (P:Program)(cf:Cf):List Tok:=match bsK P cf with|some (_,_,ts)=>ts|none=> []
theorem gbs {cf:Cf}{xs:List UInt8}(g:Go ρ P N D0 Q As u4 m0 (CH N (aC P N cf) (.d (.s (bs xs))) (bsT P (aC P N cf))))
  (e:((bsK P (aC P N cf)).map (λr=>(r.1,r.2.1)),(aL P N cf))=(some (.sl UInt8 byE xs,true),(aR P N cf)):=by kernel_rfl) (hm:P.follows .mixedOrders=true:=by rfl):Go ρ P N D0 Q As u4 m0 cf:=by
 simp only[AnQ]at e;obtain⟨e1,e3⟩:=e;obtain⟨he1,he2⟩:=LI e3;refine AP hm he1 ?_;generalize aC P N cf=c0 at*;cases hk:bsK P c0 with
 |none=>rw[hk]at e1; cases e1
 |some r=>
  have hT:bsT P c0=r.2.2:=by unfold bsT; rw[hk]
  rw[hT]at g;rw[hk]at e1;simp only[Aoa,AnU,AnQ]at e1;obtain⟨e1,e2⟩:=e1;unfold bsK at hk;split at hk
  ·rename_i a ha;rw[DK ha]at he2;split at hk
   ·rename_i t t2 x' hop;split at hk
    ·rename_i d ts h1;cases hk;simp only[AnP]at e1 e2 g;subst e1;refine DJ ha he2 (XT h1) (λhp=> ?_) g;obtain⟨l,⟨dst,op,ty,pos,af,gd⟩,gg,sl,es⟩:=a;simp only at hop⊢; subst hop;refine⟨AnX _,λrest Q U m f w As hr hz hn S hk=> ?_⟩;have S':St m (reps U m ts++As) w:=S;have hf:=bySl (Abl h1 S' (Ap hr x'));obtain⟨e,u1,u2⟩:=Yh e2.1;exact Aio (t2':=t2) S rfl hf u1 u2 (Nl e2.2) (hk U m w _ Env.le_refl (Mem.rfl' m) (λn h=> .inl h) (.d (.s _)) S)
    ·cases hk
   ·cases hk
  ·cases hk
def ofSK (P:Program)(cf:Cf):Option (AV×Bool):=
 match Hk cf with
 |some a=>match a.g,a.o.op with
  |none,.convert t t2 x=>some (aev a.sl x,Z3 P t&&AbG P t2)
  |_,_=>none
 |none=>none
theorem gofS {cf:Cf}{s:ByteArray}{zs:List UInt8}(hq:app 1 ([]:List UInt8) s.data.toList=some zs)(g:Go ρ P N D0 Q As u4 m0 (push N (aC P N cf) (Aku (aC P N cf).s 1 UInt8 byE zs)))
  (e:(ofSK P (aC P N cf),(aL P N cf))=(some (.d (.s s),true),(aR P N cf)):=by kernel_rfl) (hm:P.follows .mixedOrders=true:=by rfl):Go ρ P N D0 Q As u4 m0 cf:=by
 simp only[AnQ]at e;obtain⟨e1,e3⟩:=e;obtain⟨he1,-⟩:=LI e3;refine AP hm he1 ?_;generalize aC P N cf=c0 at*;unfold ofSK at e1;split at e1
 ·rename_i a ha;split at e1
  ·rename_i t t2 x hg hop;simp only[AnU,AnQ,AnP]at e1;obtain⟨ex,e4,e5⟩:=e1;have hgd:=By ha hg;refine D9 ha hg ?_ R1 g;obtain⟨l,⟨dst,op,ty,pos,af,gd⟩,gg,sl,es⟩:=a;simp only at hop hgd ex⊢; subst hop hgd;refine⟨AoO _,λrest Q U m f w As hr hz hn S hk=> ?_⟩;have rx:=Ap hr x;rw[ex]at rx;have hx:ev f x=vS s:=by
    have:=rx.dd;generalize ev f x=u at this;cases this; rfl
   obtain⟨e,u1,u2⟩:=Yh e5;refine s_ofS S hx hq (Nl e4) u1 u2 λv' cs' w' S' hrep=> ?_;have h0:=hn c0.s.nx (AnX _) (Aoc _);have h1:=Kl S';refine hk (U.put c0.s.nx v') m w' v' (Env.le_put h0) (Mem.rfl' m) (λn q=> ?_) (.ow Env.put_self h1) (St.closeRow Env.put_self h1 (AnF hrep) (λx _=>rfl) S');rcases Env.put_dom q with q|q
   ·exact .inl q
   ·subst q; exact .inr ⟨AnX _,Aoc _⟩
  ·cases e1
 ·cases e1
def apSP (P:Program)(cf:Cf):Option (List Tok×D×AV×Nat×Bool):=
 match Hk cf with
 |some a=>match a.g,a.o.op with
  |none,.call c=>match c.callee,c.args.toList,c.argTypes.toList with
   | .builtin .append,[x,y],[t,t2]=>match P.underlying t with
    |some (.slice e)=>match KR P e with
     |some i=>match i.z with
      |some z=>match aev a.sl x with
       | .ow n=>match find n cf.s.ob with
        |some (j,.row k sz α E xs)=>some ([(j,.row k sz α E xs)],.sl α E xs,aev a.sl y,i.by_,Nat.beq z.cells.toList.length 1&&(Nat.beq i.sz 1&&(Nat.beq k n&&(Nat.beq sz 1&&Z3 P t2))))
        |_=>none
       |_=>none
      |none=>none
     |none=>none
    |_=>none
   |_,_,_=>none
  |_,_=>none
 |none=>none
def apST (P:Program)(cf:Cf)(zs:List UInt8):Stp:=match apSP P cf with|some (use,_)=>⟨.ow cf.s.nx,[],use,[(cf.s.nx,.row cf.s.nx 1 UInt8 byE zs)],cf.s.nx+1,[]⟩|none=>Aku cf.s 1 UInt8 byE zs
theorem gapS {b:Nat}{cf:Cf}{s:ByteArray}{xs zs:List UInt8}(hq:app b xs s.data.toList=some zs)(g:Go ρ P N D0 Q As u4 m0 (push N (aC P N cf) (apST P (aC P N cf) zs)))
  (e:((apSP P (aC P N cf)).map (·.2),(aL P N cf))=(some (.sl UInt8 byE xs,.d (.s s),b,true),(aR P N cf)):=by kernel_rfl) (hm:P.follows .mixedOrders=true:=by rfl):Go ρ P N D0 Q As u4 m0 cf:=by
 simp only[AnQ]at e;obtain⟨e1,e3⟩:=e;obtain⟨he1,-⟩:=LI e3;refine AP hm he1 ?_;generalize aC P N cf=c0 at*;cases hk:apSP P c0 with
 |none=>rw[hk]at e1; cases e1
 |some r=>
  have hT:apST P c0 zs=⟨.ow c0.s.nx,[],r.1,[(c0.s.nx,.row c0.s.nx 1 UInt8 byE zs)],c0.s.nx+1,[]⟩:=by unfold apST; rw[hk]
  rw[hT]at g;rw[hk]at e1;simp only[Aoa,AnU]at e1;unfold apSP at hk;split at hk
  ·rename_i a ha;split at hk
   ·rename_i c hg hop;split at hk
    ·rename_i x y t t2 hce hargs hats;split at hk
     ·rename_i e' hu;split at hk
      ·rename_i i hi;split at hk
       ·rename_i z hz;split at hk
        ·rename_i nn hx;split at hk
         ·rename_i j kk sz α E' xs' hf;cases hk;simp only[AnQ,AnP]at e1 g;obtain⟨ex,ey,eb,b1,b2,b3,b4,b5⟩:=e1;have hgd:=By ha hg;have hkn:=AnS b3; subst hkn;have hs1:=AnS b4;have hz1:=AnS b1;have hi1:=AnS b2;subst eb hs1;cases ex;refine D9 ha hg ?_ ?_ g
          ·obtain⟨l,⟨dst,op,ty,pos,af,gd⟩,gg,sl,es⟩:=a;obtain⟨ce,cx,ct⟩:=c;obtain⟨cx⟩:=cx;obtain⟨ct⟩:=ct;simp only at hop hgd hce hargs hats hx ey⊢; subst hop hgd hce hargs hats;refine⟨AoO _,λrest Q U m f w As hr hfz hn S hk=> ?_⟩;simp only at S hk hn;obtain⟨v,cs,h1,h2,h3,h4,S1⟩:=St.openRow S;have rx:=Ap hr x; rw[hx]at rx;have hv:=rx.ow_inv.1;rw[h1]at hv; cases hv;have ry:=Ap hr y;rw[ey]at ry;have hy:ev f y=vS s:=by
            have:=ry.dd;generalize ev f y=u at this;cases this; rfl
           have tb:=Iz hi;refine s_appS (i:=0) (ti:=i.inf) (z:=z) S1 rfl rfl (AnE (AdL h3 λ_ _=>rfl)) rfl hy hq hu (Nl b5) (Zr hi) (by rw[<-tb.2.2.2.2.1]; exact hz) (by rw[<-tb.2.2.2.1]; exact hi1) (by rw[<-tb.2.2.2.2.2]) (by rw[<-Array.length_toList]; exact hz1) λv' cs' w' S8 hrep=> ?_;have h0:=hn c0.s.nx (AnX _) (Aoc _);have S9:St m (Gw.row 1 v' cs' zs.length::As) w':=S8;have h1':=Kl S9;refine hk (U.put c0.s.nx v') m w' v' (Env.le_put h0) (Mem.rfl' m) (λq hq=> ?_) (.ow Env.put_self h1') (St.closeRow Env.put_self h1' (AnF hrep) (λx _=>rfl) S9);rcases Env.put_dom hq with q1|q1
           ·exact .inl q1
           ·subst q1; exact .inr ⟨AnX _,Aoc _⟩
          ·refine⟨λq hq=> ?_,by simp[tids],by simp[tids],λt ht=>by simp[tids]at ht; subst ht; exact⟨AnX _,Aoc _⟩⟩;simp only[AoC,List.mem_singleton]at hq;subst hq;exact F5 hf
         ·cases hk
        ·cases hk
       ·cases hk
      ·cases hk
     ·cases hk
    ·cases hk
   ·cases hk
  ·cases hk
def fwOk (fw:List Tok):Bool:=Abu (tids fw)&&fw.all (λp=>Mp p.2)
def fwS (cf:Cf)(v:AV)(fw:List Tok):Stp:=⟨v,[],fw,enO cf.s.nx (Vk fw),cf.s.nx+(Vk fw).length,[]⟩
theorem Am2 {cf:Cf}{a:Aj8}{v:AV}{x:Operand}{d:D}{fw:List Tok}(ha:Hk cf=some a)(hg:a.g=none)(hs:Akh cf.s.ob (aev a.sl x)=some (d,[],fw))(ho:fwOk fw=true)
  (ht: ∀rest Q U m f w As,(∀t,Rel U m (get a.sl t) (f t))->FR m d (ev f x)->St m As w->(∀u,Rel U m v u->wpl ρ P N D0 a.l.toArray rest Q (upo N f a.o.dst u) w)->wpl ρ P N D0 a.l.toArray ({a.o with guard:=none}::rest) Q f w)
  (g:Go ρ P N D0 Q As u4 m0 (push N cf (fwS cf v fw))):Go ρ P N D0 Q As u4 m0 cf:=by
 unfold fwOk at ho;simp only[AnP]at ho;obtain⟨e5,e6⟩:=ho;have hgd:=By ha hg;refine D9 ha hg ?_ ?_ g
 ·obtain⟨l,⟨dst,op,ty,pos,af,gd⟩,gg,sl,es⟩:=a;simp only at hgd ht⊢; subst hgd;refine⟨Nat.le_add_right _ _,λrest Q U m f w As hr hz hn S hk=> ?_⟩;simp only[fwS]at S hk hn;have S':St m (reps U m fw++As) w:=by simpa using S
  obtain⟨m1,l1,K1,S2⟩:=OM e6 S';have hr1: ∀t,Rel U m1 (get sl t) (f t):=λt=>(hr t).up Env.le_refl l1;have hf:=Abb hs (Ap hr1 x) K1 (λp hp=>by cases hp);refine ht rest Q U m1 f w _ hr1 hf S2 λu hu=>hk U m1 w u Env.le_refl l1 (λn h=> .inl h) hu ?_;rw[AoC,Lw];exact O6 K1 S2
 ·refine⟨λq hq=> ?_,by simpa[fwS]using Jq e5,?_,λt ht=> ?_⟩
  ·exact XI hs q (by simpa[fwS]using hq)
  ·simp only[fwS]; rw[Gs]; exact List.nodup_range'
  ·simp only[fwS]at ht⊢;rw[Gs,List.mem_range']at ht;obtain⟨i2,hi2,rfl⟩:=ht;omega
def AjT (P:Program)(cf:Cf):Option (D×Int×Int×Int×Nat×Bool×List Tok):=
 match Hk cf with
 |some a=>match a.g,a.o.op with
  |none,.slice t x lo hi mx=>match Akh cf.s.ob (aev a.sl x),P.underlying t with
   |some (d,[],fw),some (.slice e)=>match KR P e with
    |some i=>
     let l:Option Int:=match lo with|none=>some 0|some o=>(RV a.sl o).map (·.2)
     let h:Option Int:=match hi with|none=>some (dlen d)|some o=>(RV a.sl o).map (·.2)
     let m:Option Int:=match mx with|none=>h|some o=>match hi with|none=>none|some _=>(RV a.sl o).map (·.2)
     match l,h,m with
     |some l,some h,some m=>some (d,l,h,m,i.sz,fwOk fw,fw)
     |_,_,_=>none
    |none=>none
   |_,_=>none
  |_,_=>none
 |none=>none
def Anz (P:Program)(cf:Cf):List Tok:=match AjT P cf with|some (_,_,_,_,_,_,ts)=>ts|none=> []
theorem gcutF {k:Nat}{cf:Cf}{α:Type}{E:α->List D}{xs ys:List α}{lo hi:Int}(hE: ∀x,(E x).length=k)(q:cut xs lo hi=some ys)(g:Go ρ P N D0 Q As u4 m0 (push N (aC P N cf) (fwS (aC P N cf) (.d (.sl α E ys)) (Anz P (aC P N cf)))))
  (e:((AjT P (aC P N cf)).map (λr=>(r.1,r.2.1,r.2.2.1,r.2.2.2.1,r.2.2.2.2.1,r.2.2.2.2.2.1)),(aL P N cf))=(some (.sl α E xs,lo,hi,hi,k,true),(aR P N cf)):=by kernel_rfl) (hm:P.follows .mixedOrders=true:=by rfl):Go ρ P N D0 Q As u4 m0 cf:=by
 simp only[AnQ]at e;obtain⟨e1,e3⟩:=e;obtain⟨he1,-⟩:=LI e3;refine AP hm he1 ?_;generalize aC P N cf=c0 at*;cases hk:AjT P c0 with
 |none=>rw[hk]at e1; cases e1
 |some r=>
  have hT:Anz P c0=r.2.2.2.2.2.2:=by unfold Anz; rw[hk]
  rw[hT]at g;rw[hk]at e1;simp only[Aoa,AnU,AnQ]at e1;obtain⟨e1,e2,e4,e5,e6,e7⟩:=e1;unfold AjT at hk;split at hk
  ·rename_i a ha;split at hk
   ·rename_i t x' lo' hi' mx' hg hop;split at hk
    ·rename_i d fw e' h1 h3;split at hk
     ·rename_i i hti;simp only at hk;split at hk
      ·rename_i l h m hl hh hmm;cases hk;simp only at e1 e2 e4 e5 e6 e7 g;subst e1 e2 e4 e5;refine Am2 ha hg h1 e7 ?_ g;obtain⟨ll,⟨dst,op,ty,pos,af,gd⟩,gg,sl,es⟩:=a;simp only at hop hl hh hmm⊢; subst hop;intro rest Q U m' f w As hr hf S hk;letI:=TJ E k;refine Ain rfl (Abt hf hE) h3 (by rw[<-e6]; exact BM hti) ?_ ?_ ?_ q λv' hv'=>hk v' (.d (Zq hv'))
       ·cases lo' with
        |none=>simp only[AnU]at hl; exact .inl ⟨rfl,hl.symm⟩
        |some o=>
         simp only[AnZ]at hl;obtain⟨⟨kk,jj⟩,hj,rfl⟩:=hl;exact .inr ⟨kk,by simp only[Aoa]; rw[BO hj hr]⟩
       ·cases hi' with
        |none=>simp only[AnU]at hh; exact .inl ⟨rfl,hh.symm⟩
        |some o=>
         simp only[AnZ]at hh;obtain⟨⟨kk,jj⟩,hj,rfl⟩:=hh;exact .inr ⟨kk,by simp only[Aoa]; rw[BO hj hr]⟩
       ·cases mx' with
        |none=>exact .inl rfl
        |some o=>
         cases hi' with
         |none=>simp at hmm
         |some o2=>
          simp only[AnZ]at hmm;obtain⟨⟨kk,jj⟩,hj,rfl⟩:=hmm;exact .inr ⟨by simp,kk,by simp only[Aoa]; rw[BO hj hr]⟩
      ·cases hk
     ·cases hk
    ·cases hk
   ·cases hk
  ·cases hk
end
def Ed (ob:List Tok):List AV->List AV×List Tok×List Tok
 | []=>([],[],[])
 |c::l=>match Akh ob c with
  |some (d,g,h)=>(.d d::(Ed ob l).1,g++(Ed ob l).2.1,h++(Ed ob l).2.2)
  |none=>(c::(Ed ob l).1,(Ed ob l).2.1,(Ed ob l).2.2)
theorem Rw {ob:List Tok}{U:Env}{m:Mem}: ∀{cs:List AV} {vs:List Value},BB U m cs vs->(∀p∈(Ed ob cs).2.2,∃v,U p.2.nm=some v/\FR m (KU p.2) v)->(∀p∈(Ed ob cs).2.1,∃v,U p.2.nm=some v/\FR m (KU p.2) v)->BB U m (Ed ob cs).1 vs
 | [],vs,r,_,_=>r
 |c::l,vs,r,k1,k2=>by
  obtain⟨v,us,rfl,r1,r2⟩:=r.cons_inv;unfold Ed at*;split at k1
  ·rename_i d g h e;rw[e]at k2;simp only at k1 k2⊢;exact .cons (.d (Abb e r1 (λq hq=>k1 q (List.mem_append_left _ hq)) (λq hq=>k2 q (List.mem_append_left _ hq)))) (Rw r2 (λq hq=>k1 q (List.mem_append_right _ hq)) (λq hq=>k2 q (List.mem_append_right _ hq)))
  ·rename_i e;rw[e]at k2;simp only at k1 k2⊢;exact .cons r1 (Rw r2 k1 k2)
theorem Sh {ob:List Tok}: ∀{cs:List AV},∀p∈(Ed ob cs).2.2++(Ed ob cs).2.1,p∈ob
 | [],p,hp=>by simp[Ed]at hp
 |c::l,p,hp=>by
  have ih:=Sh (ob:=ob) (cs:=l) p;unfold Ed at hp;simp only[Aol]at ih;split at hp
  ·rename_i d g h e;have i2:=XI e p;simp only[Aol]at hp i2;rcases hp with (q|q)|(q|q)
   ·exact i2 (.inl q)
   ·exact ih (.inl q)
   ·exact i2 (.inr q)
   ·exact ih (.inr q)
  ·simp only[Aol]at hp; exact ih hp
def WK (ob:List Tok)(sl:Sl)(sz:Nat):List (Nat×Operand)->Option (List AV×List Tok×List Tok)
 | []=>some ([],[],[])
 |p::l=>match WK ob sl sz l with
  |some (r,rd,fw)=>match PF (aev sl p.2)with
   |some c=>bif Nat.beq c.length sz then some ((Ed ob c).1++r,(Ed ob c).2.1++rd,(Ed ob c).2.2++fw)else none
   |none=>none
  |none=>none
theorem Aat {ob:List Tok}{sl:Sl}{sz:Nat}{U:Env}{m:Mem}{f:Fr}(hr: ∀t,Rel U m (get sl t) (f t)): ∀{l:List (Nat×Operand)} {cs:List AV} {rd fw:List Tok},WK ob sl sz l=some (cs,rd,fw)->
  (∀p∈fw,∃v,U p.2.nm=some v/\FR m (KU p.2) v)->(∀p∈rd,∃v,U p.2.nm=some v/\FR m (KU p.2) v)->
  ∃cls:List (List Value),Ih ((l.map (·.2)).map (ev f)) cls/\U0 sz cls=true/\BB U m cs cls.flatten
 | [],cs,rd,fw,h,_,_=>by cases h; exact⟨[],trivial,rfl,.nil⟩
 |p::l,cs,rd,fw,h,k1,k2=>by
  unfold WK at h;split at h
  ·rename_i r rd' fw' h1;split at h
   ·rename_i c h2;cases hb:Nat.beq c.length sz
    ·rw[hb]at h; cases h
    ·rw[hb]at h; cases h;obtain⟨cls,a1,a2,a3⟩:=Aat hr h1 (λq hq=>k1 q (List.mem_append_right _ hq)) (λq hq=>k2 q (List.mem_append_right _ hq));obtain⟨b1,b2⟩:=Jn h2 (Ap hr p.2);refine⟨(ev f p.2).cells.toList::cls,⟨by simp,a1⟩,?_,?_⟩
     ·show(Nat.beq _ sz&&U0 sz cls)=true;rw[a2,<-b1.1,hb]; rfl
     ·rw[List.flatten_cons]; exact(Rw b1 (λq hq=>k1 q (List.mem_append_left _ hq)) (λq hq=>k2 q (List.mem_append_left _ hq))).append a3
   ·cases h
  ·cases h
theorem WJ {ob:List Tok}{sl:Sl}{sz:Nat}: ∀{l:List (Nat×Operand)} {cs:List AV} {rd fw:List Tok},WK ob sl sz l=some (cs,rd,fw)->∀p∈fw++rd,p∈ob
 | [],cs,rd,fw,h=>by cases h; intro p hp; simp at hp
 |p::l,cs,rd,fw,h=>by
  unfold WK at h;split at h
  ·rename_i r rd' fw' h1;split at h
   ·rename_i c h2;cases hb:Nat.beq c.length sz
    ·rw[hb]at h; cases h
    ·rw[hb]at h; cases h;intro q hq;have i1:=WJ h1 q;have i2:=Sh (ob:=ob) (cs:=c) q;simp only[Aol]at hq i1 i2;rcases hq with (e|e)|(e|e)
     ·exact i2 (.inl e)
     ·exact i1 (.inl e)
     ·exact i2 (.inr e)
     ·exact i1 (.inr e)
   ·cases h
  ·cases h
def Agb (P:Program)(cf:Cf):Option (List AV×Nat×Nat×Bool×List Tok×List Tok):=
 match Hk cf with
 |some a=>match a.g,a.o.op with
  |none,.buildSlice t n parts=>match P.underlying t with
   |some (.slice e)=>match KR P e with
    |some i=>match i.z,WK cf.s.ob a.sl i.sz parts.toList with
     |some _,some (cs,rd,fw)=>some (cs,n,i.sz,(Aki 0 parts.toList&&(Nat.beq n parts.toList.length&&(Nat.ble (n*i.sz) 16777216&&Nat.ble 1 i.sz)))&&(Abu (tids (fw++rd))&&(rd.all (λp=>Z4 p.2)&&fw.all (λp=>Mp p.2))),rd,fw)
     |_,_=>none
    |none=>none
   |_=>none
  |_,_=>none
 |none=>none
def AmE (P:Program)(cf:Cf):Option (List AV×Nat×Nat×Bool):=(Agb P cf).map λr=>(r.1,r.2.1,r.2.2.1,r.2.2.2.1)
def AmD (P:Program)(cf:Cf)(α:Type)(E:α->List D)(xs:List α):Stp:=match Agb P cf with|some (_,_,_,_,rd,fw)=>⟨.d (.sl α E xs),rd,fw,enO cf.s.nx (Vk fw),cf.s.nx+(Vk fw).length,[]⟩|none=>⟨.d (.sl α E xs),[],[],[],cf.s.nx,[]⟩
def litVO (P:Program)(cf:Cf)(sz:Nat)(α:Type)(E:α->List D)(xs:List α):Stp:=match Agb P cf with|some (_,_,_,_,rd,fw)=>⟨.ow cf.s.nx,rd,fw,enO cf.s.nx (.row cf.s.nx sz α E xs::Vk fw),cf.s.nx+(1+(Vk fw).length),[]⟩|none=>Aku cf.s sz α E xs
section
variable {ρ:Option Nat}{P:Program}{N:Nat}{D0:Dw}{Q:DP}{As:List Ow}{u4:Env}{m0:Mem}
theorem Ai1 {k:Nat}{cf:Cf}{α:Type}{E:α->List D}{xs:List α}(hE: ∀x,(E x).length=k)(e:AmE P cf=some ((xs.flatMap E).map dv,xs.length,k,true)):
  ∃(a:Aj8) (rd fw:List Tok),Hk cf=some a/\a.g=none/\(∀α' (E':α'->List D) xs',AmD P cf α' E' xs'=⟨.d (.sl α' E' xs'),rd,fw,enO cf.s.nx (Vk fw),cf.s.nx+(Vk fw).length,[]⟩)/\
   (∀sz α' (E':α'->List D) xs',litVO P cf sz α' E' xs'=⟨.ow cf.s.nx,rd,fw,enO cf.s.nx (.row cf.s.nx sz α' E' xs'::Vk fw),cf.s.nx+(1+(Vk fw).length),[]⟩)/\(∀p∈fw++rd,p∈cf.s.ob)/\(tids (fw++rd)).Nodup/\rd.all (λp=>Z4 p.2)=true/\
   ∀rest Q U m f w As,(∀t,Rel U m (get a.sl t) (f t))->St m (reps U m (fw++rd)++As) w->
    (∀(m1:Mem) v w' cs,m<=m1->(∀p∈fw,∃v,U p.2.nm=some v/\FR m1 (KU p.2) v)->(∀p∈rd,∃v,U p.2.nm=some v/\FR m1 (KU p.2) v)->FRL m1 (xs.flatMap E) cs->St m1 (Gw.row k v cs xs.length::As) w'->wpl ρ P N D0 a.l.toArray rest Q (upo N f a.o.dst v) w')->
    wpl ρ P N D0 a.l.toArray (a.o::rest) Q f w:=by
 unfold AmE at e;cases hp:Agb P cf with
 |none=>rw[hp]at e; cases e
 |some r=>
  obtain⟨cs,n,sz,b,rd,fw⟩:=r;rw[hp]at e;simp only[Aoa,AnU,AnQ]at e;obtain⟨ec,en,ek,eb⟩:=e;have hp0:=hp;unfold Agb at hp;split at hp
  ·rename_i a ha;split at hp
   ·rename_i t n' parts hg hop;split at hp
    ·rename_i e hu;split at hp
     ·rename_i i hi;split at hp
      ·rename_i z cs' rd' fw' hz hcs;simp only[AnU,AnQ]at hp;obtain⟨q1,q2,q3,q4,q5,q6⟩:=hp;subst q1 q2 q3 q5 q6;rw[<-q4]at eb;simp only[AnP]at eb;obtain⟨⟨b1,b2,b3,b4⟩,o1,o2,o3⟩:=eb;have hgd:=By ha hg;refine⟨a,rd',fw',ha,hg,λ_ _ _=>by unfold AmD; rw[hp0],λ_ _ _ _=>by unfold litVO; rw[hp0],WJ hcs,Jq o1,o2,?_⟩;obtain⟨l,⟨dst,op,ty,pos,af,gd⟩,gg,sl,es⟩:=a;simp only at hop hgd hcs⊢; subst hop hgd;intro rest Q U m f w As hr S hk;rw[Be,An3]at S;obtain⟨m1,l1,K1,S2⟩:=OM o3 S;have S3:=St.ru Env.le_refl l1 S2;obtain⟨K2,S4⟩:=Sd o2 S3;have hr1: ∀t,Rel U m1 (get sl t) (f t):=λt=>(hr t).up Env.le_refl l1;obtain⟨cls,a1,a2,a3⟩:=Aat hr1 hcs K1 K2;have hps:=Ut b1;have e0:parts=(((parts.toList.map (·.2)).zipIdx 0).map λp=>(p.2,p.1)).toArray:=by
        rw[<-hps]
       rw[e0];have hlen:((parts.toList.map (·.2)).map (ev f)).length=n':=by simp; exact(AnS b2).symm
       refine Abg (vs:=(parts.toList.map (·.2)).map (ev f)) (cls:=cls) S4 hu (BM hi) (Sy hi hz) rfl a1 a2 hlen.symm (An5 b3) (An5 b4) λv w' S'=> ?_;rw[ek,en]at S';rw[ec]at a3;exact hk m1 v w' _ l1 K1 K2 (FRL.ofRelv a3) S'
      ·cases hp
     ·cases hp
    ·cases hp
   ·cases hp
  ·cases hp
theorem Yo {k:Nat}{cf:Cf}{α:Type}(E:α->List D)(xs:List α)(hE: ∀x,(E x).length=k)(g:Go ρ P N D0 Q As u4 m0 (push N (aC P N cf) (AmD P (aC P N cf) α E xs)))
  (e:(AmE P (aC P N cf),(aL P N cf))=(some ((xs.flatMap E).map dv,xs.length,k,true),(aR P N cf)):=by kernel_rfl) (hm:P.follows .mixedOrders=true:=by rfl):Go ρ P N D0 Q As u4 m0 cf:=by
 simp only[AnQ]at e;obtain⟨e1,e3⟩:=e;obtain⟨he1,-⟩:=LI e3;refine AP hm he1 ?_;generalize aC P N cf=c0 at*;obtain⟨a,rd,fw,ha,hg,hS,-,hsub,hnd,ho2,run⟩:=Ai1 (ρ:=ρ) (N:=N) (D0:=D0) hE e1;rw[hS]at g;refine D9 ha hg ⟨Nat.le_add_right _ _,λrest Q U m f w As hr hz hn S hk=> ?_⟩ ⟨hsub,hnd,?_,λt ht=> ?_⟩ g
 ·refine run rest Q U m f w As hr S λm1 v w' cs l1 K1 K2 hc S'=> ?_;letI:=TJ E k;obtain⟨m2,l2,h5,S2⟩:=St.rowKeepT (i:=0) S' rfl (AdL hc λx _=>hE x) rfl;have F1: ∀p∈fw,∃v,U p.2.nm=some v/\FR m2 (KU p.2) v:=λp hp=>let ⟨v,a,b⟩:=K1 p hp; ⟨v,a,b.up l2⟩;have F2: ∀p∈rd,∃v,U p.2.nm=some v/\FR m2 (KU p.2) v:=λp hp=>let ⟨v,a,b⟩:=K2 p hp; ⟨v,a,b.up l2⟩;refine hk U m2 w' v Env.le_refl (Mem.tr l1 l2) (λn h=> .inl h) (.d (Zq h5)) ?_;rw[Be,An3,Lw];exact O6 F1 (Rv ho2 F2 S2)
 ·simp only; rw[Gs]; exact List.nodup_range'
 ·simp only at ht⊢;rw[Gs,List.mem_range']at ht;obtain⟨i2,hi2,rfl⟩:=ht;omega
theorem AfW: ∀{L:List Value},(∀v∈L,v.oneCell'=true)->Aj9 L
 | [],_=>trivial
 |a::l,h=>⟨h a Aoe,AfW λv hv=>h v (Aok _ hv)⟩
def Afm (ob:List Tok)(n:Nat):Option (D×Nat×Tok):=match find n ob with|some (i,.row k sz α E xs)=>bif Nat.beq k n then some (.sl α E xs,sz,(i,.row k sz α E xs))else none|_=>none
theorem XP {ob:List Tok}{n sz:Nat}{d:D}{p:Tok}(h:Afm ob n=some (d,sz,p)):p∈ob/\∃i α E xs,d= .sl α E xs/\p=(i,AObj.row n sz α E xs):=by
 unfold Afm at h;split at h
 ·rename_i i k sz' α E xs hf;cases hb:Nat.beq k n
  ·rw[hb]at h; cases h
  ·rw[hb]at h; cases h;have:=AnS hb; subst this;exact⟨F5 hf,i,α,E,xs,rfl,rfl⟩
 ·cases h
def AdZ (P:Program)(cf:Cf):Option (D×Int×Nat×Nat×Bool×Tok):=
 match Hk cf with
 |some a=>match a.o.op with
  | .indexAddr t x y=>match aev a.sl x,RV a.sl y,P.underlying t with
   | .ow n,some (_,j),some (.slice e)=>match KR P e,Afm cf.s.ob n with
    |some i,some (d,sz,p)=>some (d,j,sz,n,Nat.beq i.sz sz,p)
    |_,_=>none
   |_,_,_=>none
  |_=>none
 |none=>none
def Ajk (P:Program)(cf:Cf):List Tok:=match AdZ P cf with|some (_,_,_,_,_,p)=> [p]|none=> []
def Ajj (P:Program)(cf:Cf):AV:=match AdZ P cf with|some (_,j,sz,n,_,_)=> .pe n j sz 0|none=> .any
theorem Jk {cf:Cf}{α:Type}{E:α->List D}{xs:List α}{j:Int}{x:α}(hq:gOf (aC P N cf)=true->idx xs j=some x)(g:Go ρ P N D0 Q As u4 m0 (CH N (aC P N cf) (Ajj P (aC P N cf)) (Ajk P (aC P N cf))))
  (e:((AdZ P (aC P N cf)).map (λr=>(r.1,r.2.1,r.2.2.2.2.1)),(aL P N cf))=(some (.sl α E xs,j,true),(aR P N cf)):=by kernel_rfl) (hm:P.follows .mixedOrders=true:=by rfl):Go ρ P N D0 Q As u4 m0 cf:=by
 simp only[AnQ]at e;obtain⟨e1,e3⟩:=e;obtain⟨he1,he2⟩:=LI e3;refine AP hm he1 ?_;generalize aC P N cf=c0 at*;cases hk:AdZ P c0 with
 |none=>rw[hk]at e1; cases e1
 |some r=>
  obtain⟨d,j',sz,nn,ok,p⟩:=r;have hT:Ajk P c0=[p]:=by unfold Ajk; rw[hk]
  have hV:Ajj P c0= .pe nn j' sz 0:=by unfold Ajj; rw[hk]
  rw[hT,hV]at g;rw[hk]at e1;simp only[Aoa,AnU,AnQ]at e1;obtain⟨e1,e2,e4⟩:=e1;subst e1 e2 e4;unfold AdZ at hk;split at hk
  ·rename_i a ha;rw[DK ha]at he2;split at hk
   ·rename_i t x' y hop;split at hk
    ·rename_i n' kk jj e' h1 h2 h3;split at hk
     ·rename_i i d' sz' p' hi hrow;simp only[AnU,AnQ]at hk;obtain⟨q1,q2,q3,q4,q5,q6⟩:=hk;subst q1 q2 q3 q4 q6;obtain⟨hmem,i0,α',E',xs',hd,hp⟩:=XP hrow;cases hd; subst hp;refine DJ ha he2 ⟨λx hx=>by simp at hx; subst hx; exact hmem,by simp[tids]⟩ (λhp=> ?_) g;have q:=hq (NK ha hp);obtain⟨l,⟨dst,op,ty,pos,af,gd⟩,gg,sl,es⟩:=a;simp only at hop⊢; subst hop;refine⟨AnX _,λrest Q U m f w As hr hz hn S hk=> ?_⟩;have S':St m (rep U m (.row n' sz' α E xs)::As) w:=S;obtain⟨v,cs,a1,a2,a3,a4,S1⟩:=St.openRow S';have rx:=Ap hr x'; rw[h1]at rx;have ex:=rx.ow_inv.1;rw[a1]at ex;have hr2:=Ql q;refine s_idxO (i:=0) (j:=jj) S1 (AnO ex).symm (BO h2 hr) rfl hr2.1 hr2.2 h3 (by rw[<-AnS q5]; exact BM hi) λp hp=> ?_;exact hk U m w p Env.le_refl (Mem.rfl' m) (λn h=> .inl h) (.pe a1 hp) S
     ·cases hk
    ·cases hk
   ·cases hk
  ·cases hk
def ldOP (P:Program)(cf:Cf):Option (D×Int×Nat×Nat×Bool×Nat×Bool×Tok):=
 match Hk cf with
 |some a=>match a.o.op with
  | .load t x=>match aev a.sl x,KR P t with
   | .pe n j sz fo,some i=>match Afm cf.s.ob n with
    |some (d,sz',p)=>some (d,j,fo,i.sz,i.agg,sz,Nat.beq sz sz'&&(Nat.ble (fo+i.sz) sz&&(i.agg||Nat.beq i.sz 1)),p)
    |none=>none
   |_,_=>none
  |_=>none
 |none=>none
def ldOT (P:Program)(cf:Cf):List Tok:=match ldOP P cf with|some (_,_,_,_,_,_,_,p)=> [p]|none=> []
theorem AaD {k fo nn:Nat}{ag:Bool}{cf:Cf}{α:Type}{E:α->List D}{xs:List α}{j:Int}{x:α}(hE: ∀x,(E x).length=k)(hq:gOf (aC P N cf)=true->idx xs j=some x)(g:Go ρ P N D0 Q As u4 m0 (CH N (aC P N cf) (pkA ag ((((E x).drop fo).take nn).map .d)) (ldOT P (aC P N cf))))
  (e:((ldOP P (aC P N cf)).map (λr=>(r.1,r.2.1,r.2.2.1,r.2.2.2.1,r.2.2.2.2.1,r.2.2.2.2.2.1,r.2.2.2.2.2.2.1)),(aL P N cf))=(some (.sl α E xs,j,fo,nn,ag,k,true),(aR P N cf)):=by kernel_rfl) (hm:P.follows .mixedOrders=true:=by rfl):Go ρ P N D0 Q As u4 m0 cf:=by
 simp only[AnQ]at e;obtain⟨e1,e3⟩:=e;obtain⟨he1,he2⟩:=LI e3;refine AP hm he1 ?_;generalize aC P N cf=c0 at*;cases hk:ldOP P c0 with
 |none=>rw[hk]at e1; cases e1
 |some r=>
  obtain⟨d,j',fo',nn',ag',k',ok,p⟩:=r;have hT:ldOT P c0=[p]:=by unfold ldOT; rw[hk]
  rw[hT]at g;rw[hk]at e1;simp only[Aoa,AnU,AnQ]at e1;obtain⟨e1,e2,e4,e5,e6,e7,e8⟩:=e1;subst e1 e2 e4 e5 e6 e7 e8;unfold ldOP at hk;split at hk
  ·rename_i a ha;rw[DK ha]at he2;split at hk
   ·rename_i t x' hop;split at hk
    ·rename_i n' jj sz fo2 i h1 hi;split at hk
     ·rename_i d' sz' p' hrow;simp only[AnU,AnQ]at hk;obtain⟨q1,q2,q3,q4,q5,q6,q7,q8⟩:=hk;subst q1 q2 q3 q4 q5 q6 q8;simp only[AnP,Aox]at q7;obtain⟨b1,b2,b3⟩:=q7;have b1:=AnS b1;have b2:=An5 b2;obtain⟨hmem,i0,α',E',xs',hd,hp⟩:=XP hrow;cases hd; subst hp;subst b1;refine DJ ha he2 ⟨λx hx=>by simp at hx; subst hx; exact hmem,by simp[tids]⟩ (λhp=> ?_) g;have q:=hq (NK ha hp);obtain⟨l,⟨dst,op,ty,pos,af,gd⟩,gg,sl,es⟩:=a;simp only at hop⊢; subst hop;refine⟨AnX _,λrest Q U m f w As hr hz hn S hk=> ?_⟩;have S':St m (rep U m (.row n' sz α E xs)::As) w:=S;obtain⟨v,cs,a1,a2,a3,a4,S1⟩:=St.openRow S';have rx:=Ap hr x'; rw[h1]at rx;obtain⟨v',hv',hp'⟩:=rx.pe_inv;rw[a1]at hv'; cases hv';letI:=TJ E sz;have hrep:GoT.rep m ((cs.drop (jj.toNat*sz)).take sz) x:=Cl.getI (AdL a3 a4) q;have hf:FRL m (E x) ((cs.drop (jj.toNat*sz)).take sz):=hrep.1;have hseg:=(hf.drop fo2).take i.sz;have hd:((((cs.drop (jj.toNat*sz)).take sz).drop fo2).take i.sz)=(cs.drop (jj.toNat*sz+fo2)).take i.sz:=by
       rw[List.drop_take,List.take_take,AoP,Nat.min_eq_left (by omega)]
      have hlE:(((E x).drop fo2).take i.sz).length=i.sz:=by rw[Aod,AoF,hE x]; omega
      have hlen:((cs.drop (jj.toNat*sz+fo2)).take i.sz).length=i.sz:=by rw[<-hd,<-hseg.1,hlE]
      have h1':i.agg=false->i.sz=1:=λe=>by
       rcases b3 with z|z
       ·rw[e]at z; cases z
       ·exact AnS z
      rw[hd]at hseg;refine s_ldO (i:=0) (d:=(cs.drop (jj.toNat*sz+fo2)).take i.sz) S1 rfl hp' rfl (by rw[hlen]) (K4 hi) (by rw[hlen]; exact BM hi) (λe=>by rw[hlen,h1' e]) ?_;exact hk U m w _ Env.le_refl (Mem.rfl' m) (λn h=> .inl h) (UH (.ofD hseg) λe=>by rw[AoB,hlE,h1' e]) S
     ·cases hk
    ·cases hk
   ·cases hk
  ·cases hk
def stOP (P:Program)(cf:Cf):Option (D×Int×Nat×List AV×Nat×Bool×Nat×Tok×List Tok×List Tok):=
 match Hk cf with
 |some a=>match a.g,a.o.op with
  |none,.store t x y=>match aev a.sl x,PF (aev a.sl y),KR P t with
   | .pe n j sz fo,some ds,some i=>match Afm cf.s.ob n with
    |some (d,sz',p)=>some (d,j,fo,(Ed cf.s.ob ds).1,sz,(Nat.beq sz sz'&&Nat.beq i.sz ds.length)&&(Abu (tids ((p::(Ed cf.s.ob ds).2.2)++(Ed cf.s.ob ds).2.1))&&((Ed cf.s.ob ds).2.1.all (λp=>Z4 p.2)&&(Ed cf.s.ob ds).2.2.all (λp=>Mp p.2))),n,p,(Ed cf.s.ob ds).2.1,(Ed cf.s.ob ds).2.2)
    |none=>none
   |_,_,_=>none
  |_,_=>none
 |none=>none
def stOS (P:Program)(cf:Cf)(sz:Nat)(α:Type)(E:α->List D)(xs:List α):Stp:=match stOP P cf with|some (_,_,_,_,_,_,n,p,rd,fw)=>⟨.no,rd,p::fw,enO cf.s.nx (.row n sz α E xs::Vk fw),cf.s.nx+(1+(Vk fw).length),[]⟩|none=>Aku cf.s sz α E xs
theorem AhO {k:Nat}{cf:Cf}{α:Type}{E:α->List D}{xs:List α}{j:Int}{z0:α}(z:α)(hE: ∀x,(E x).length=k)(hq:idx xs j=some z0)(g:Go ρ P N D0 Q As u4 m0 (push N (aC P N cf) (stOS P (aC P N cf) k α E (xs.set j.toNat z))))
  (e:((stOP P (aC P N cf)).map (λr=>(r.1,r.2.1,r.2.2.1,r.2.2.2.1,r.2.2.2.2.1,r.2.2.2.2.2.1)),(aL P N cf))=(some (.sl α E xs,j,0,(E z).map dv,k,true),(aR P N cf)):=by kernel_rfl) (hm:P.follows .mixedOrders=true:=by rfl):Go ρ P N D0 Q As u4 m0 cf:=by
 simp only[AnQ]at e;obtain⟨e1,e3⟩:=e;obtain⟨he1,-⟩:=LI e3;refine AP hm he1 ?_;generalize aC P N cf=c0 at*;cases hk:stOP P c0 with
 |none=>rw[hk]at e1; cases e1
 |some r=>
  obtain⟨d,j',fo,ds,k',ok,nn,p,rd,fw⟩:=r;have hS:stOS P c0 k α E (xs.set j.toNat z)=⟨.no,rd,p::fw,enO c0.s.nx (.row nn k α E (xs.set j.toNat z)::Vk fw),c0.s.nx+(1+(Vk fw).length),[]⟩:=by unfold stOS; rw[hk]
  rw[hS]at g;rw[hk]at e1;simp only[Aoa,AnU,AnQ]at e1;obtain⟨e1,e2,e4,e5,e6,e7⟩:=e1;subst e1 e2 e4 e6 e7;unfold stOP at hk;split at hk
  ·rename_i a ha;split at hk
   ·rename_i t x y hg hop;split at hk
    ·rename_i n' jj sz fo2 ds0 i h1 h2 hi;split at hk
     ·rename_i d' sz' p' hrow;simp only[AnU,AnQ]at hk;obtain⟨q1,q2,q3,q4,q5,q6,q7,q8,q9,q10⟩:=hk;subst q1 q2 q3 q5 q7 q8 q9 q10;simp only[AnP]at q6;obtain⟨⟨b1,b2⟩,b3,b4,b5⟩:=q6;have b1:=AnS b1;have b2:=AnS b2;obtain⟨hmem,i0,α',E',xs',hd,hp⟩:=XP hrow;cases hd; subst hp;subst b1;have hgd:=By ha hg;have csub:=Sh (ob:=c0.s.ob) (cs:=ds0);refine D9 ha hg ?_ ?_ g
      ·obtain⟨l,⟨dst,op,ty,pos,af,gd⟩,gg,sl,es⟩:=a;simp only at hop hgd h1 h2⊢; subst hop hgd;refine⟨Nat.le_add_right _ _,λrest Q U m f w As hr hfz hn S hk=> ?_⟩;simp only at S hk hn;rw[Be,An3]at S;have S0:St m (rep U m (.row n' sz α E xs)::(reps U m (Ed c0.s.ob ds0).2.2++(reps U m (Ed c0.s.ob ds0).2.1++As))) w:=S;have S1:=S0.perm List.perm_middle.symm;obtain⟨m1,l1,K1,S2⟩:=OM b5 S1;obtain⟨v,cs,a1,a2,a3,a4,S3⟩:=St.openRow (m:=m1) (St.imp0 S2 λh hh=>rep.up Env.le_refl l1 hh);have S4:=S3.perm List.perm_middle.symm;have S5:=St.ru Env.le_refl l1 S4;obtain⟨K2,S6⟩:=Sd b4 S5;have hr1: ∀t,Rel U m1 (get sl t) (f t):=λt=>(hr t).up Env.le_refl l1;obtain⟨c1,c2⟩:=Jn h2 (Ap hr1 y);have c3:=Rw c1 K1 K2;rw[q4,e5]at c3;have c4:=FRL.ofRelv c3;have rx:=Ap hr1 x; rw[h1]at rx;obtain⟨v',hv',hp'⟩:=rx.pe_inv;rw[a1]at hv'; cases hv';letI:=TJ E sz;have hsz:(ev f y).cells.size=ds0.length:=by rw[c1.1]; simp
       refine s_stOR (α:=α) (i:=0) (z:=z) S6 rfl rfl (by rw[AoT]at hp'; exact hp') rfl (AdL a3 a4) hq (by rw[hsz,<-b2]; exact BM hi) (AfW c4.one) ⟨c4,hE z⟩ λw' cs' S7 hrep=> ?_;have hrep':=Afv hrep;refine hk U m1 w' undef Env.le_refl l1 (λn h=> .inl h) .no ?_;rw[Be,An3,Lw];show St m1 (rep U m1 (.row n' sz α E (xs.set jj.toNat z))::((Vk (Ed c0.s.ob ds0).2.2).map (rep U m1)++(reps U m1 (Ed c0.s.ob ds0).2.1++As))) w';have T1:=St.closeRow (U:=U) (n:=n') a1 a2 hrep'.1 hrep'.2 S7;have T2:=O6 K1 (Rv b4 K2 T1);exact T2.perm ((Aor _ AoX).trans AoX)
      ·refine⟨λq hq=> ?_,Jq b3,?_,λt ht=> ?_⟩
       ·simp only[List.cons_append,Aom]at hq;rcases hq with h|h
        ·subst h; exact hmem
        ·exact csub q h
       ·simp only; rw[Gs]; exact List.nodup_range'
       ·simp only at ht⊢;rw[Gs,List.mem_range']at ht;obtain⟨i2,hi2,rfl⟩:=ht;simp only[AnR]at hi2;omega
     ·cases hk
    ·cases hk
   ·cases hk
  ·cases hk
def PS (a b:Sl):Prop:= ∀(t:Nat) (U:Env) (m:Mem) (v:Value),Rel U m (get a t) v->Rel U m (get b t) v
theorem PS.rst {a b:Sl}(p:PS a b): ∀(ts:List Nat),PS (rst ts a) (rst ts b)
 | [],_,_,_,_,_=> .any _
 |x::ts,t,U,m,v,h=>by
  have h':Rel U m (bif Nat.beq x t then get a x else get (Ax.rst ts a) t) v:=h;show Rel U m (bif Nat.beq x t then get b x else get (Ax.rst ts b) t) v;cases hb:Nat.beq x t
  ·rw[hb]at h'; exact PS.rst p ts t U m v h'
  ·rw[hb]at h'; exact p x U m v h'
theorem PS.setS {a b:Sl}(p:PS a b)(N:Nat)(d:Option Nat)(x:AV):PS (setS N a d x) (setS N b d x):=λt U m v h=>by
 cases d with
 |none=>exact p t U m v h
 |some d=>
  unfold Ax.setS at*;cases hb:Nat.blt d N
  ·simp only[hb,cond_false]at h⊢; exact p t U m v h
  ·simp only[hb,cond_true,get]at h⊢;cases hq:Nat.beq d t
   ·rw[hq]at h; exact p t U m v h
   ·rw[hq]at h; exact h
theorem Alq {ops:Array Oper}{F:AS->List (Oper×Stp)->Prop}(hF: ∀(a b:Sl) ob fz nx h,PS a b->F ⟨b,ob,fz,nx⟩ h->F ⟨a,ob,fz,nx⟩ h):
  ∀{l:List Oper} {a b:Sl} {ob:List Tok} {fz:Fz} {nx:Nat} {h:List (Oper×Stp)},PS a b->FT ρ P N D0 ops F l ⟨b,ob,fz,nx⟩ h->FT ρ P N D0 ops F l ⟨a,ob,fz,nx⟩ h
 | [],a,b,ob,fz,nx,h,p,g=>hF a b ob fz nx h p g
 |o::l,a,b,ob,fz,nx,h,p,⟨r,t1,t2,t3⟩=>
  ⟨r,⟨t1.1,λrest Q U m f w As hr=>t1.2 rest Q U m f w As λt=>(p.rst _) t U m _ (hr t)⟩,⟨t2.sub,t2.nd,t2.mnd,t2.mlt⟩,Alq hF (p.setS N o.dst r.v) t3⟩
theorem Abi: ∀{rs:F7} {a b:Sl} {ob:List Tok} {fz:Fz} {nx:Nat},PS a b->PS (Ii N ⟨a,ob,fz,nx⟩ rs).sl (Ii N ⟨b,ob,fz,nx⟩ rs).sl/\(Ii N ⟨a,ob,fz,nx⟩ rs).nx=(Ii N ⟨b,ob,fz,nx⟩ rs).nx
 | [],_,_,_,_,_,p=>⟨p,rfl⟩
 |r::rs,a,b,ob,fz,nx,p=>Abi (rs:=rs) (p.setS N r.1.dst r.2.v)
theorem Ald: ∀{rs:F7} {a b:Sl} {ob:List Tok} {fz:Fz} {nx:Nat},Ch0 N ⟨b,ob,fz,nx⟩ rs->Ch0 N ⟨a,ob,fz,nx⟩ rs
 | [],_,_,_,_,_,_=>trivial
 |r::rs,a,b,ob,fz,nx,c=>⟨c.1,⟨c.2.1.sub,c.2.1.nd,c.2.1.mnd,c.2.1.mlt⟩,Ald (rs:=rs) (b:=Ax.setS N b r.1.dst r.2.v) c.2.2⟩
theorem FP_sub {a b:Sl}{ob:List Tok}{fz:Fz}{nx:Nat}{Q:DP}{l rest:List Oper}{h:F7}(p:PS a b)(g:FP ρ P N D0 As m0 Q l rest ⟨b,ob,fz,nx⟩ h):FP ρ P N D0 As m0 Q l rest ⟨a,ob,fz,nx⟩ h:=by
 obtain⟨rs,bad,k,q,h1,h2,h3,h4,h5,h6,h7,h8,h9⟩:=g;refine⟨rs,bad,k,q,h1,Ald h2,λi r hr hb=> ?_,h4,h5,h6,h7,h8,?_⟩
 ·obtain⟨t1,t2⟩:=h3 i r hr hb;obtain⟨p1,p2⟩:=Abi (N:=N) (rs:=rs.take i) (ob:=ob) (fz:=fz) (nx:=nx) p;rw[p2];exact⟨t1,λrest Q U m f w As hr=>t2 rest Q U m f w As λt=>(p1.rst _) t U m _ (hr t)⟩
 ·obtain⟨p1,p2⟩:=Abi (N:=N) (rs:=rs.take k) (ob:=ob) (fz:=fz) (nx:=nx) p;exact λU m f w Bs x y z u=>h9 U m f w Bs (λt=>(p1.rst _) t U m _ (x t)) y z u
def setK (g:Nat)(v:Bool)(cf:Cf):Cf:=⟨⟨(g,.d (.v (.bool v)))::cf.s.sl,cf.s.ob,cf.s.fz,cf.s.nx⟩,cf.md,cf.K⟩
theorem WB {a b:Sl}{ob:List Tok}{fz:Fz}{nx:Nat}(p:PS a b){U:Env}{m:Mem}{f:Fr}{w:World}(g:Gm As ⟨a,ob,fz,nx⟩ U m f w):Gm As ⟨b,ob,fz,nx⟩ U m f w:=
 ⟨λt=>p t U m _ (g.slr t),g.fz,g.dom,g.st,⟨g.wf.nd,g.wf.lt⟩⟩
theorem Ae2 {g:Nat}{v:Bool}{cf:Cf}(h:get cf.s.sl g= .d (.t v))(k:Go ρ P N D0 Q As u4 m0 (setK g v cf)):Go ρ P N D0 Q As u4 m0 cf:=by
 obtain⟨⟨sl,ob,fz,nx⟩,md,K⟩:=cf;have p:PS sl ((g,.d (.v (.bool v)))::sl):=λt U m u r=>by
  show Rel U m (bif Nat.beq g t then _ else get sl t) u;cases hb:Nat.beq g t
  ·exact r
  ·have:=AnS hb; subst this;simp only at h;rw[h]at r;rw[r.t_inv];exact .d (.v _ rfl)
 cases md with
 |code c=>exact λU m f w a b gm=>k U m f w a b (WB p gm)
 |pop=>exact λU m f w a b gm=>k U m f w a b (WB p gm)
 |ext id=>exact λU m f w a b gm=>k U m f w a b (WB p gm)
 |ret=>exact λU m f w a b gm=>k U m f w a b (WB p gm)
 |ops dr l rest hh=>
  rcases k with k|⟨hd,k⟩|⟨hd,k⟩;rotate_right
  ·exact .inr (.inr ⟨hd,FP_sub p k⟩)
  ·exact .inl (Alq (λa b ob fz nx h p F=>⟨F.1,λU m f w x y gm=>F.2 U m f w x y (WB p gm)⟩) p k)
  ·exact .inr (.inl ⟨hd,λU m f w a b gm=>k U m f w a b (WB p gm)⟩)
def atG (g:Nat)(cf:Cf):Bool:=
 match cf.md with
 | .ops _ l (o::_) _=>match o.guard with
  |some (j,_)=>match AbO l.toArray j with
   |some g'=>Nat.beq g' g
   |none=>false
  |none=>false
 |_=>false
def VX (g:Nat)(P:Program)(N:Nat):Nat->Cf->Cf×Eqs
 |0,cf=>(cf,[])
 |n+1,cf=>bif atG g cf then(cf,[])else match nxt P N cf with
  |some r=>let q:=VX g P N n r.1; (q.1,r.2++q.2)
  |none=>(cf,[])
theorem Ahx {id:Nat}(hm:P.follows .mixedOrders=true): ∀{n:Nat} {cf:Cf},EqsOk (VX id P N n cf).2->Go ρ P N D0 Q As u4 m0 (VX id P N n cf).1->Go ρ P N D0 Q As u4 m0 cf
 |0,_,_,g=>g
 |n+1,cf,he,g=>by
  cases hb:atG id cf with
  |true=>
   have e:VX id P N (n+1) cf=(cf,[]):=by simp only[VX,hb,cond_true]
   rw[e]at g; exact g
  |false=>
   cases hr:nxt P N cf with
   |none=>
    have e:VX id P N (n+1) cf=(cf,[]):=by simp only[VX,hr,hb,cond_false]
    rw[e]at g; exact g
   |some r=>
    have e:VX id P N (n+1) cf=((VX id P N n r.1).1,r.2++(VX id P N n r.1).2):=by simp only[VX,hr,hb,cond_false]
    rw[e]at g he;have he':=EqsOk.app.1 he;exact ZM hm hr he'.1 (Ahx hm (n:=n) he'.2 g)
theorem go_spl {g:Nat}(hm:P.follows .mixedOrders=true){n:Nat}{cf:Cf}{b:Bool}(e:(get (VX g P N n cf).1.s.sl g,((VX g P N n cf).2).map (·.1))=(.d (.t b),((VX g P N n cf).2).map (·.2)))
  (h1:b=true->Go ρ P N D0 Q As u4 m0 (setK g true (VX g P N n cf).1)) (h0:b=false->Go ρ P N D0 Q As u4 m0 (setK g false (VX g P N n cf).1)):Go ρ P N D0 Q As u4 m0 cf:=by
 simp only[AnQ]at e;obtain⟨e1,e3⟩:=e;refine Ahx hm (.of e3) ?_;cases b with
 |true=>exact Ae2 e1 (h1 rfl)
 |false=>exact Ae2 e1 (h0 rfl)
def idxVP (P:Program)(cf:Cf):Option (List AV×Int×Nat×Nat×Bool×Bool):=
 match Hk cf with
 |some a=>match a.o.op with
  | .index t x y=>match aev a.sl x,RV a.sl y,P.underlying t with
   | .agg cs,some (_,j),some (.array n e)=>match KR P e with
    |some i=>some (cs,j,n,i.sz,i.agg,i.agg||Nat.beq i.sz 1)
    |none=>none
   |_,_,_=>none
  |_=>none
 |none=>none
theorem gidxV {k:Nat}{ag:Bool}{cf:Cf}{α:Type}{E:α->List D}{j:Int}{x:α}(xs:List α)(hE: ∀x,(E x).length=k)(hq:gOf (aC P N cf)=true->idx xs j=some x)(g:Go ρ P N D0 Q As u4 m0 (CH N (aC P N cf) (pkA ag ((E x).map .d)) []))
  (e:(idxVP P (aC P N cf),(aL P N cf))=(some ((xs.flatMap E).map dv,j,xs.length,k,ag,true),(aR P N cf)):=by kernel_rfl) (hm:P.follows .mixedOrders=true:=by rfl):Go ρ P N D0 Q As u4 m0 cf:=by
 simp only[AnQ]at e;obtain⟨e1,e3⟩:=e;obtain⟨he1,he2⟩:=LI e3;refine AP hm he1 ?_;generalize aC P N cf=c0 at*;unfold idxVP at e1;split at e1
 ·rename_i a ha;rw[DK ha]at he2;split at e1
  ·rename_i t x' y hop;split at e1
   ·rename_i cs kk jj n' e' h1 h2 h3;split at e1
    ·rename_i i hi;simp only[AnU,AnQ,Aox]at e1;obtain⟨q1,q2,q3,q4,q5,q6⟩:=e1;subst q1 q2 q3 q4 q5;refine DJ (rd:=[]) ha he2 ⟨λ_ h=>(by cases h),List.nodup_nil⟩ (λhp=> ?_) g;have q:=hq (NK ha hp);obtain⟨l,⟨dst,op,ty,pos,af,gd⟩,gg,sl,es⟩:=a;simp only at hop h1 h2⊢; subst hop;refine⟨AnX _,λrest Q U m f w As hr hz hn S hk=> ?_⟩;have rx:=Ap hr x'; rw[h1]at rx;obtain⟨vs,ev_,rl⟩:=rx.agg_inv;letI:=TJ E i.sz;have hrep:GoT.rep m ((vs.drop (jj.toNat*i.sz)).take i.sz) x:=Cl.getI (AdL (FRL.ofRelv rl) λx _=>hE x) q;have h1':i.agg=false->i.sz=1:=λe=>by
      rcases q6 with z|z
      ·rw[e]at z; cases z
      ·exact AnS z
     have hr2:=Ql q;have hl:((vs.drop (jj.toNat*i.sz)).take i.sz).length=i.sz:=by rw[<-hrep.1.1,hE]
     exact Afb ev_ (BO h2 hr) hr2.1 hr2.2 h3 (K4 hi) (BM hi) rfl hl h1' (hk U m w _ Env.le_refl (Mem.rfl' m) (λn h=> .inl h) (UH (.ofD hrep.1) λe=>by rw[AoB,hE,h1' e]) S)
    ·cases e1
   ·cases e1
  ·cases e1
 ·cases e1
end
section
variable {ρ:Option Nat}{P:Program}{N:Nat}{D0:Dw}{Q:DP}{As:List Ow}{u4:Env}{m0:Mem}
def Agv (ob:List Tok)(n:Nat):Option (Nat×HK):=match find n ob with|some (i,.hp k q)=>bif Nat.beq k n then some (i,q)else none|_=>none
theorem OJ {ob:List Tok}{n i:Nat}{q:HK}(h:Agv ob n=some (i,q)):(i,AObj.hp n q)∈ob:=by
 unfold Agv at h;split at h
 ·rename_i i' k q' hf;cases hb:Nat.beq k n
  ·rw[hb]at h; cases h
  ·rw[hb]at h; cases h;have:=AnS hb; subst this;exact F5 hf
 ·cases h
theorem St.openHp {U:Env}{m:Mem}{n:Nat}{q:HK}{As:List Ow}{w:World}(h:St m (rep U m (.hp n q)::As) w): ∃b,U n=some (hkV q b)/\St m (hkO q m b::As) w:=by
 obtain⟨x,hx,hr⟩:=h.own;obtain⟨h1,h2,⟨b,hb,ho⟩,s,d,e⟩:=hx;exact⟨b,hb,⟨h.os,h.tape,h.output,x,⟨h1,h2,ho,s,d,e⟩,hr⟩⟩
theorem St.closeHp {U:Env}{m:Mem}{n b:Nat}{q:HK}{As:List Ow}{w:World}(a:U n=some (hkV q b))(h:St m (hkO q m b::As) w):St m (rep U m (.hp n q)::As) w:=
 St.imp0 h λx hx=>⟨b,a,hx⟩
def mkmK (cf:Cf):Bool:=
 match Hk cf with
 |some a=>match a.g,a.o.op with
  |none,.makeMap _ none=>true
  |_,_=>false
 |none=>false
theorem gmkm {cf:Cf}(g:Go ρ P N D0 Q As u4 m0 (push N (aC P N cf) ⟨.ow (aC P N cf).s.nx,[],[],[((aC P N cf).s.nx,.hp (aC P N cf).s.nx (.mp []))],(aC P N cf).s.nx+1,[]⟩))
  (e:(mkmK (aC P N cf),(aL P N cf))=(true,(aR P N cf)):=by kernel_rfl) (hm:P.follows .mixedOrders=true:=by rfl):Go ρ P N D0 Q As u4 m0 cf:=by
 simp only[AnQ]at e;obtain⟨e1,e3⟩:=e;obtain⟨he1,-⟩:=LI e3;refine AP hm he1 ?_;generalize aC P N cf=c0 at*;unfold mkmK at e1;split at e1
 ·rename_i a ha;split at e1
  ·rename_i t hg hop;have hgd:=By ha hg;refine D9 ha hg ?_ R1 g;obtain⟨l,⟨dst,op,ty,pos,af,gd⟩,gg,sl,es⟩:=a;simp only at hop hgd⊢; subst hop hgd;refine⟨AoO _,λrest Q U m f w As hr hz hn S hk=> ?_⟩;refine Zw S λb w' S'=> ?_;have h0:=hn c0.s.nx (AnX _) (Aoc _);refine hk (U.put c0.s.nx (.map (some b))) m w' _ (Env.le_put h0) (Mem.rfl' m) (λn q=> ?_) (.ow Env.put_self rfl) (St.closeHp (q:= .mp []) (b:=b) Env.put_self S');rcases Env.put_dom q with q|q
   ·exact .inl q
   ·subst q; exact .inr ⟨AnX _,Aoc _⟩
  ·cases e1
 ·cases e1
def Yi (P:Program)(t:TypeId):Option TypeId:=
 match P.underlying t with
 |some (.map k e)=>match P.underlying k,KR P e with
  |some .string,some i=>match i.z with
   |some (.bool false)=>some e
   |_=>none
  |_,_=>none
 |_=>none
theorem Wz {t e:TypeId}(h:Yi P t=some e): ∃k,P.underlying t=some (.map k e)/\P.underlying k=some .string/\∀w,(zeroValue e).run P w= .ok (.bool false) w:=by
 unfold Yi at h;split at h
 ·rename_i k e' h1;split at h
  ·rename_i i h2 h3;split at h
   ·rename_i hz; cases h; exact⟨k,h1,h2,Sy h3 hz⟩
   ·cases h
  ·cases h
 ·cases h
def lkK (P:Program)(cf:Cf):Option (List (ByteArray×Bool)×ByteArray×List Tok):=
 match Hk cf with
 |some a=>match a.o.op with
  | .lookup t x y false=>match Yi P t,aev a.sl x,aev a.sl y with
   |some _,.ow n,.d (.s k)=>match Agv cf.s.ob n with
    |some (i,.mp kv)=>some (kv,k,[(i,.hp n (.mp kv))])
    |_=>none
   |_,_,_=>none
  |_=>none
 |none=>none
def lkT (P:Program)(cf:Cf):List Tok:=match lkK P cf with|some (_,_,l)=>l|none=> []
theorem AfV {s:AS}{p:Tok}(h:p∈s.ob):(∀q∈[p],q∈s.ob)/\(tids [p]).Nodup:=⟨λq hq=>by simp at hq; subst hq; exact h,by simp[tids]⟩
theorem glk {cf:Cf}(kv:List (ByteArray×Bool))(k:ByteArray)(g:Go ρ P N D0 Q As u4 m0 (CH N (aC P N cf) (.d (.t (lkB kv k))) (lkT P (aC P N cf))))
  (e:((lkK P (aC P N cf)).map (λr=>(r.1,r.2.1)),(aL P N cf))=(some (kv,k),(aR P N cf)):=by kernel_rfl) (hm:P.follows .mixedOrders=true:=by rfl):Go ρ P N D0 Q As u4 m0 cf:=by
 simp only[AnQ]at e;obtain⟨e1,e3⟩:=e;obtain⟨he1,he2⟩:=LI e3;refine AP hm he1 ?_;generalize aC P N cf=c0 at*;cases hq:lkK P c0 with
 |none=>rw[hq]at e1; cases e1
 |some r=>
  obtain⟨kv',k',rd⟩:=r;have hT:lkT P c0=rd:=by unfold lkT; rw[hq]
  rw[hT]at g;rw[hq]at e1;simp only[Aoa,AnU,AnQ]at e1;obtain⟨e4,e5⟩:=e1;subst e4 e5;unfold lkK at hq;split at hq
  ·rename_i a ha;rw[DK ha]at he2;split at hq
   ·rename_i t x y hop;split at hq
    ·rename_i et nn kk ht hx hy;split at hq
     ·rename_i i kv2 hh;simp only[AnU,AnQ]at hq;obtain⟨rfl,rfl,rfl⟩:=hq;refine DJ ha he2 (AfV (OJ hh)) (λhp=> ?_) g;obtain⟨l,⟨dst,op',ty,pos,af,gd⟩,gg,sl,es⟩:=a;simp only at hop hx hy⊢; subst hop;refine⟨AnX _,λrest Q U m f w As hr hz hn S hk=> ?_⟩;obtain⟨kt,t1,t2,t3⟩:=Wz ht;have rx:=Ap hr x;rw[hx]at rx;obtain⟨ex,_⟩:=rx.ow_inv;have ry:=Ap hr y;rw[hy]at ry;have S0:St m (rep U m (.hp nn (.mp kv2))::As) w:=S;obtain⟨b,hb,S1⟩:=St.openHp S0;rw[ex]at hb;have hxv:ev f x= .map (some b):=AnO hb;exact Afa (i:=0) S1 hxv ry.s_inv rfl t1 t2 t3 (hk U m w _ Env.le_refl (Mem.rfl' m) (λn h=> .inl h) (.d (.t _)) (St.closeHp (by rw[ex,hxv]; rfl) S1))
     ·cases hq
    ·cases hq
   ·cases hq
  ·cases hq
def lnK (P:Program)(cf:Cf):Option (List (ByteArray×Bool)×List Tok):=
 match Hk cf with
 |some a=>match a.o.op with
  | .call ⟨.builtin .len,⟨[x]⟩,⟨[t]⟩⟩=>match P.underlying t,aev a.sl x with
   |some (.map _ _),.ow n=>match Agv cf.s.ob n with
    |some (i,.mp kv)=>some (kv,[(i,.hp n (.mp kv))])
    |_=>none
   |_,_=>none
  |_=>none
 |none=>none
def lnT (P:Program)(cf:Cf):List Tok:=match lnK P cf with|some (_,l)=>l|none=> []
theorem gln {cf:Cf}(kv:List (ByteArray×Bool))(g:Go ρ P N D0 Q As u4 m0 (CH N (aC P N cf) (.d (.i (kv.length:Int))) (lnT P (aC P N cf))))
  (e:((lnK P (aC P N cf)).map (λr=>r.1),(aL P N cf))=(some kv,(aR P N cf)):=by kernel_rfl) (hm:P.follows .mixedOrders=true:=by rfl):Go ρ P N D0 Q As u4 m0 cf:=by
 simp only[AnQ]at e;obtain⟨e1,e3⟩:=e;obtain⟨he1,he2⟩:=LI e3;refine AP hm he1 ?_;generalize aC P N cf=c0 at*;cases hq:lnK P c0 with
 |none=>rw[hq]at e1; cases e1
 |some r=>
  obtain⟨kv',rd⟩:=r;have hT:lnT P c0=rd:=by unfold lnT; rw[hq]
  rw[hT]at g;rw[hq]at e1;simp only[Aoa,AnU]at e1;subst e1;unfold lnK at hq;split at hq
  ·rename_i a ha;rw[DK ha]at he2;split at hq
   ·rename_i x t hop;split at hq
    ·rename_i kt et nn hu hx;split at hq
     ·rename_i i kv2 hh;simp only[AnU,AnQ]at hq;obtain⟨rfl,rfl⟩:=hq;refine DJ ha he2 (AfV (OJ hh)) (λhp=> ?_) g;obtain⟨l,⟨dst,op',ty,pos,af,gd⟩,gg,sl,es⟩:=a;simp only at hop hx⊢; subst hop;refine⟨AnX _,λrest Q U m f w As hr hz hn S hk=> ?_⟩;have rx:=Ap hr x;rw[hx]at rx;obtain⟨ex,_⟩:=rx.ow_inv;have S0:St m (rep U m (.hp nn (.mp kv2))::As) w:=S;obtain⟨b,hb,S1⟩:=St.openHp S0;rw[ex]at hb;have hxv:ev f x= .map (some b):=AnO hb;exact Aik (i:=0) S1 hxv rfl hu (hk U m w _ Env.le_refl (Mem.rfl' m) (λn h=> .inl h) (.d (.i _)) (St.closeHp (by rw[ex,hxv]; rfl) S1))
     ·cases hq
    ·cases hq
   ·cases hq
  ·cases hq
def upK (P:Program)(cf:Cf):Option (List (ByteArray×Bool)×ByteArray×Bool×Nat×Nat):=
 match Hk cf with
 |some a=>match a.g,a.o.op with
  |none,.mapUpdate t x y c=>match Yi P t,aev a.sl x,aev a.sl y,aev a.sl c with
   |some _,.ow n,.d (.s k),.d (.t u)=>match Agv cf.s.ob n with
    |some (i,.mp kv)=>some (kv,k,u,i,n)
    |_=>none
   |_,_,_,_=>none
  |_,_=>none
 |none=>none
def upS (P:Program)(cf:Cf):Stp:=match upK P cf with|some (kv,k,u,i,n)=>⟨.no,[],[(i,.hp n (.mp kv))],[(cf.s.nx,.hp n (.mp (kv++[(k,u)])))],cf.s.nx+1,[]⟩|none=>⟨.any,[],[],[],cf.s.nx,[]⟩
theorem OY {s:AS}{v:AV}{p:Tok}{o:AObj}(h:p∈s.ob):Nt s ⟨v,[],[p],[(s.nx,o)],s.nx+1,[]⟩:=
 ⟨λx hx=>by simp at hx; subst hx; exact h,by simp[tids],by simp[tids],λt ht=>by simp[tids]at ht; subst ht; exact⟨AnX _,Aoc _⟩⟩
theorem gup {cf:Cf}{kv:List (ByteArray×Bool)}{k:ByteArray}(hn:(lkI kv k 0).isNone=true)(g:Go ρ P N D0 Q As u4 m0 (push N (aC P N cf) (upS P (aC P N cf))))
  (e:((upK P (aC P N cf)).map (λr=>(r.1,r.2.1)),(aL P N cf))=(some (kv,k),(aR P N cf)):=by kernel_rfl) (hm:P.follows .mixedOrders=true:=by rfl):Go ρ P N D0 Q As u4 m0 cf:=by
 simp only[AnQ]at e;obtain⟨e1,e3⟩:=e;obtain⟨he1,-⟩:=LI e3;refine AP hm he1 ?_;generalize aC P N cf=c0 at*;cases hq:upK P c0 with
 |none=>rw[hq]at e1; cases e1
 |some r=>
  obtain⟨kv',k',u,i,nn⟩:=r;have hT:upS P c0=⟨.no,[],[(i,.hp nn (.mp kv'))],[(c0.s.nx,.hp nn (.mp (kv'++[(k',u)])))],c0.s.nx+1,[]⟩:=by unfold upS; rw[hq]
  rw[hT]at g;rw[hq]at e1;simp only[Aoa,AnU,AnQ]at e1;obtain⟨e4,e5⟩:=e1;subst e4 e5;unfold upK at hq;split at hq
  ·rename_i a ha;split at hq
   ·rename_i t x y c hg hop;split at hq
    ·rename_i et n2 kk u2 ht hx hy hc;split at hq
     ·rename_i i2 kv2 hh;simp only[AnU,AnQ]at hq;obtain⟨rfl,rfl,rfl,rfl,rfl⟩:=hq;have hgd:=By ha hg;refine D9 ha hg ?_ (OY (OJ hh)) g;obtain⟨l,⟨dst,op',ty,pos,af,gd⟩,gg,sl,es⟩:=a;simp only at hop hx hy hc hgd⊢; subst hop hgd;refine⟨AoO _,λrest Q U m f w As hr hz hn' S hk=> ?_⟩;obtain⟨kt,t1,t2,t3⟩:=Wz ht;have rx:=Ap hr x;rw[hx]at rx;obtain⟨ex,_⟩:=rx.ow_inv;have ry:=Ap hr y;rw[hy]at ry;have rc:=Ap hr c;rw[hc]at rc;have S0:St m (rep U m (.hp n2 (.mp kv2))::As) w:=S;obtain⟨b,hb,S1⟩:=St.openHp S0;rw[ex]at hb;have hxv:ev f x= .map (some b):=AnO hb;refine Ae8 (i:=0) S1 hxv ry.s_inv rc.t_inv rfl t1 t2 hn λw' S'=> ?_;exact hk U m w' _ Env.le_refl (Mem.rfl' m) (λn h=> .inl h) .no (St.closeHp (q:= .mp (kv2++[(kk,u2)])) (b:=b) (by rw[ex,hxv]; rfl) S')
     ·cases hq
    ·cases hq
   ·cases hq
  ·cases hq
theorem AbF {s:ByteArray}{p:Nat}:Obj.stringIter s p≠dfr:=λh=>by cases h
def rngK (P:Program)(cf:Cf):Option ByteArray:=
 match Hk cf with
 |some a=>match a.g,a.o.op with
  |none,.range t x=>match Z3 P t,aev a.sl x with
   |true,.d (.s k)=>some k
   |_,_=>none
  |_,_=>none
 |none=>none
theorem grng {cf:Cf}(k:ByteArray)(g:Go ρ P N D0 Q As u4 m0 (push N (aC P N cf) ⟨.ow (aC P N cf).s.nx,[],[],[((aC P N cf).s.nx,.hp (aC P N cf).s.nx (.it k 0))],(aC P N cf).s.nx+1,[]⟩))
  (e:(rngK P (aC P N cf),(aL P N cf))=(some k,(aR P N cf)):=by kernel_rfl) (hm:P.follows .mixedOrders=true:=by rfl):Go ρ P N D0 Q As u4 m0 cf:=by
 simp only[AnQ]at e;obtain⟨e1,e3⟩:=e;obtain⟨he1,-⟩:=LI e3;refine AP hm he1 ?_;generalize aC P N cf=c0 at*;unfold rngK at e1;split at e1
 ·rename_i a ha;split at e1
  ·rename_i t x hg hop;split at e1
   ·rename_i k' hs hx;cases e1;have hgd:=By ha hg;refine D9 ha hg ?_ R1 g;obtain⟨l,⟨dst,op,ty,pos,af,gd⟩,gg,sl,es⟩:=a;simp only at hop hgd hx⊢; subst hop hgd;refine⟨AoO _,λrest Q U m f w As hr hz hn S hk=> ?_⟩;have rx:=Ap hr x;rw[hx]at rx;have hxv:=rx.s_inv;have S1:=(S.push (.stringIter k 0) AbF).imp0 (B:=hkO (.it k 0) m w.heap.size) λh hh=>hh;have h0:=hn c0.s.nx (AnX _) (Aoc _);refine AA (v:=pt w.heap.size 0) (w':=w.alloc (.stringIter k 0)) rfl (λ_ e=>by cases e) ?_ ?_ (Kd.push _ _)
    ·simp only[execOp,Instr.range,hxv,An0 (Nl hs),newObj,An9,An4,Sem.run,An8];rfl
    ·refine hk (U.put c0.s.nx (pt w.heap.size 0)) m _ _ (Env.le_put h0) (Mem.rfl' m) (λn q=> ?_) (.ow Env.put_self rfl) (St.closeHp (q:= .it k 0) (b:=w.heap.size) Env.put_self S1);rcases Env.put_dom q with q|q
     ·exact .inl q
     ·subst q; exact .inr ⟨AnX _,Aoc _⟩
   ·cases e1
  ·cases e1
 ·cases e1
theorem St.iter {m:Mem}{As:List Ow}{w:World}{b:Nat}{s:ByteArray}{pos:Nat}(hS:St m (hkO (.it s pos) m b::As) w):w.heap[b]? =some (.stringIter s pos)/\
  ∀pos',St m (hkO (.it s pos') m b::As) {w with heap:=w.heap.setIfInBounds b (.stringIter s pos')}:=by
 obtain⟨h1,rfl,hg,_,back⟩:=hS.take (i:=0) rfl;have hb:=PH.agree_one.1 hg;have hlt:=(Aoi.1 hb).1;refine⟨hb,λpos'=> ?_⟩;refine back (hkO (.it s pos') m b) (PH.one b (.stringIter s pos')) _ rfl ?_ ?_ ?_ rfl rfl rfl (λ_=> .one AbF)
 ·intro k hk; left; simp only[PH.one]at hk⊢;split at hk
  ·rename_i e; simp[e]
  ·exact absurd rfl hk
 ·rw[PH.agree_one]; simp[hlt]
 ·intro k _ hk; simp only[PH.one]at hk;split at hk
  ·cases hk
  ·rename_i e; rw[Array.getElem?_setIfInBounds_ne (by omega)]
theorem AiM (w:World)(k:Nat)(s:ByteArray)(pos:Nat)(ty:TypeId)(hk:w.heap[k]? =some (.stringIter s pos))(h:pos<s.size):
  (Instr.next (.pointer (some ⟨k,0,none⟩)) true ty).run P w= .ok (.tuple #[.bool true,.int .i64 pos,.int .i32 (Utf8.decode s pos).1]) {w with heap:=w.heap.setIfInBounds k (.stringIter s (pos+(Utf8.decode s pos).2))}:=by
 simp only[Instr.next,getObj,setObj,An9,Sem.run,hk,Result.andThen,h,if_true];simp[goInt]
theorem AiL (w:World)(k:Nat)(s:ByteArray)(pos:Nat)(ty:TypeId)(hk:w.heap[k]? =some (.stringIter s pos))(h: ¬pos<s.size):
  (Instr.next (.pointer (some ⟨k,0,none⟩)) true ty).run P w= .ok (.tuple #[.bool false]) w:=by
 simp[Instr.next,getObj,Sem.run,hk,h]
def nxK (cf:Cf):Option (ByteArray×Nat×Nat×Nat):=
 match Hk cf with
 |some a=>match a.g,a.o.op with
  |none,.next x true=>match aev a.sl x with
   | .ow n=>match Agv cf.s.ob n with
    |some (i,.it s pos)=>some (s,pos,i,n)
    |_=>none
   |_=>none
  |_,_=>none
 |none=>none
def nxS (cf:Cf):Stp:=match nxK cf with|some (s,pos,i,n)=>⟨.tup [.d (.t true),.d (.i (pos:Int)),.d (.r ((Utf8.decode s pos).1:Int))],[],[(i,.hp n (.it s pos))],[(cf.s.nx,.hp n (.it s (pos+(Utf8.decode s pos).2)))],cf.s.nx+1,[]⟩|none=>⟨.any,[],[],[],cf.s.nx,[]⟩
def nxE (cf:Cf):Stp:=match nxK cf with|some (s,pos,i,n)=>⟨.tup [.d (.t false)],[(i,.hp n (.it s pos))],[],[],cf.s.nx,[]⟩|none=>⟨.any,[],[],[],cf.s.nx,[]⟩
theorem go_nx (hm:P.follows .mixedOrders=true){n:Nat}{cf:Cf}{s:ByteArray}{pos:Nat}
  (e:((nxK (adv P N n cf).1).map (λr=>(r.1,r.2.1)),((adv P N n cf).2++AbL (adv P N n cf).1).map (·.1))=(some (s,pos),((adv P N n cf).2++AbL (adv P N n cf).1).map (·.2)))
  (g1:pos<s.size->Go ρ P N D0 Q As u4 m0 (push N (adv P N n cf).1 (nxS (adv P N n cf).1))) (g2: ¬pos<s.size->Go ρ P N D0 Q As u4 m0 (push N (adv P N n cf).1 (nxE (adv P N n cf).1))):Go ρ P N D0 Q As u4 m0 cf:=by
 simp only[AnQ]at e;obtain⟨e1,e3⟩:=e;obtain⟨he1,-⟩:=EqsOk.two e3;refine Vl hm he1 ?_;generalize (adv P N n cf).1=c0 at*;cases hq:nxK c0 with
 |none=>rw[hq]at e1; cases e1
 |some r=>
  obtain⟨s',pos',i,nn⟩:=r;have hT:nxS c0=⟨.tup [.d (.t true),.d (.i (pos':Int)),.d (.r ((Utf8.decode s' pos').1:Int))],[],[(i,.hp nn (.it s' pos'))],[(c0.s.nx,.hp nn (.it s' (pos'+(Utf8.decode s' pos').2)))],c0.s.nx+1,[]⟩:=by unfold nxS; rw[hq]
  have hT2:nxE c0=⟨.tup [.d (.t false)],[(i,.hp nn (.it s' pos'))],[],[],c0.s.nx,[]⟩:=by unfold nxE; rw[hq]
  rw[hT]at g1;rw[hT2]at g2;rw[hq]at e1;simp only[Aoa,AnU,AnQ]at e1;obtain⟨e4,e5⟩:=e1;subst e4 e5;unfold nxK at hq;split at hq
  ·rename_i a ha;split at hq
   ·rename_i x hg hop;split at hq
    ·rename_i n2 hx;split at hq
     ·rename_i i2 s2 p2 hh;simp only[AnU,AnQ]at hq;obtain⟨rfl,rfl,rfl,rfl⟩:=hq;have hgd:=By ha hg;by_cases hlt:p2<s2.size
      ·refine D9 ha hg ?_ (OY (OJ hh)) (g1 hlt);obtain⟨l,⟨dst,op',ty,ps,af,gd⟩,gg,sl,es⟩:=a;simp only at hop hx hgd⊢; subst hop hgd;refine⟨AoO _,λrest Q U m f w As hr hz hn' S hk=> ?_⟩;have rx:=Ap hr x;rw[hx]at rx;obtain⟨ex,_⟩:=rx.ow_inv;have S0:St m (rep U m (.hp n2 (.it s2 p2))::As) w:=S;obtain⟨b,hb,S1⟩:=St.openHp S0;rw[ex]at hb;have hxv:ev f x=pt b 0:=AnO hb;obtain⟨hbb,S2⟩:=St.iter S1;refine AA (v:= .tuple #[.bool true,.int .i64 p2,.int .i32 (Utf8.decode s2 p2).1]) (w':={w with heap:=w.heap.setIfInBounds b (.stringIter s2 (p2+(Utf8.decode s2 p2).2))}) rfl (λ_ e=>by cases e) ?_ ?_ (Kd.set hbb AbF rfl)
       ·simp only[execOp,hxv];rw[An9,AiM w b s2 p2 _ hbb hlt];rfl
       ·refine hk U m _ _ Env.le_refl (Mem.rfl' m) (λn h=> .inl h) ?_ (St.closeHp (q:= .it s2 (p2+(Utf8.decode s2 p2).2)) (b:=b) (by rw[ex,hxv]; rfl) (S2 _));have h:BB U m [.d (.t true),.d (.i (p2:Int)),.d (.r ((Utf8.decode s2 p2).1:Int))] [vb true,vI (p2:Int),vR ((Utf8.decode s2 p2).1:Int)]:=BB.cons (.d (.t _)) (BB.cons (.d (.i _)) (BB.cons (.d (.r _)) BB.nil));exact .tup h.1 h.2
      ·refine D9 ha hg ?_ (X2 (OJ hh)) (g2 hlt);obtain⟨l,⟨dst,op',ty,ps,af,gd⟩,gg,sl,es⟩:=a;simp only at hop hx hgd⊢; subst hop hgd;refine⟨AnX _,λrest Q U m f w As hr hz hn' S hk=> ?_⟩;have rx:=Ap hr x;rw[hx]at rx;obtain⟨ex,_⟩:=rx.ow_inv;have S0:St m (rep U m (.hp n2 (.it s2 p2))::As) w:=S;obtain⟨b,hb,S1⟩:=St.openHp S0;rw[ex]at hb;have hxv:ev f x=pt b 0:=AnO hb;obtain⟨hbb,S2⟩:=St.iter S1;refine AA (v:= .tuple #[.bool false]) (w':=w) rfl (λ_ e=>by cases e) ?_ ?_
       ·simp only[execOp,hxv];rw[An9,AiL w b s2 p2 _ hbb hlt];rfl
       ·refine hk U m _ _ Env.le_refl (Mem.rfl' m) (λn h=> .inl h) ?_ S;have h:BB U m [.d (.t false)] [vb false]:=BB.cons (.d (.t _)) BB.nil;exact .tup h.1 h.2
     ·cases hq
    ·cases hq
   ·cases hq
  ·cases hq
def Ts (s:ByteArray)(lo hi:Int):Option ByteArray:=if 0<=lo/\lo<=hi/\hi<=(s.size:Int)then some (s.extract lo.toNat hi.toNat)else none
def Anv (P:Program)(cf:Cf):Option (ByteArray×Int×Int):=
 match Hk cf with
 |some a=>match a.o.op with
  | .slice t x lo hi none=>match Z3 P t,aev a.sl x with
   |true,.d (.s s)=>
    let l:Option Int:=match lo with|none=>some 0|some o=>(RV a.sl o).map (·.2)
    let h:Option Int:=match hi with|none=>some (s.size:Int)|some o=>(RV a.sl o).map (·.2)
    match l,h with
    |some l,some h=>some (s,l,h)
    |_,_=>none
   |_,_=>none
  |_=>none
 |none=>none
theorem Aip {t:TypeId}{s z:ByteArray}{lo hi:Option Value}{l h:Int}{w:World}(hu:P.underlying t=some .string)
  (hlo:(lo=none/\l=0)\/∃k,lo=some (.int k l)) (hhi:(hi=none/\h=(s.size:Int))\/∃k,hi=some (.int k h)) (hq:Ts s l h=some z):
  (Instr.slice t (.string s) lo hi none).run P w= .ok (.string z) w:=by
 unfold Ts at hq;split at hq
 ·rename_i hc;obtain⟨h1,h2,h3⟩:=hc;cases hq;have hl0:l<=(h.toNat:Int):=by omega
  have hs0:h<=(s.size:Int):=h3;have hh0:0<=h:=by omega
  rcases hlo with ⟨rfl,rfl⟩|⟨k,rfl⟩<;>rcases hhi with ⟨rfl,rfl⟩|⟨k',rfl⟩
  ·simp[Instr.slice,Instr.sliceBounds,Instr.sliceBound,An0 hu,An9]
  ·simp[Instr.slice,Instr.sliceBounds,Instr.sliceBound,An0 hu,An9,asIntOf,hh0,hs0]
  ·simp[Instr.slice,Instr.sliceBounds,Instr.sliceBound,An0 hu,An9,asIntOf,h1,h2]
  ·simp[Instr.slice,Instr.sliceBounds,Instr.sliceBound,An0 hu,An9,asIntOf,hh0,hs0,h1,hl0];intro hc; omega
 ·cases hq
theorem VT {cf:Cf}{s z:ByteArray}{lo hi:Int}(hq:gOf (aC P N cf)=true->Ts s lo hi=some z)(g:Go ρ P N D0 Q As u4 m0 (CH N (aC P N cf) (.d (.s z)) []))
  (e:(Anv P (aC P N cf),(aL P N cf))=(some (s,lo,hi),(aR P N cf)):=by kernel_rfl) (hm:P.follows .mixedOrders=true:=by rfl):Go ρ P N D0 Q As u4 m0 cf:=by
 simp only[AnQ]at e;obtain⟨e1,e3⟩:=e;obtain⟨he1,he2⟩:=LI e3;refine AP hm he1 ?_;generalize aC P N cf=c0 at*;unfold Anv at e1;split at e1
 ·rename_i a ha;rw[DK ha]at he2;split at e1
  ·rename_i t x lo' hi' hop;split at e1
   ·rename_i s0 hs hx;simp only at e1;split at e1
    ·rename_i l h hl hh;simp only[AnU,AnQ]at e1;obtain⟨rfl,rfl,rfl⟩:=e1;refine DJ (rd:=[]) ha he2 Q6 (λhp=> ?_) g;have q:=hq (NK ha hp);obtain⟨ll,⟨dst,op',ty,pos,af,gd⟩,gg,sl,es⟩:=a;simp only at hop hx hl hh⊢; subst hop;refine⟨AnX _,λrest Q U m f w As hr hz hn S hk=> ?_⟩;have rx:=Ap hr x;rw[hx]at rx;have hxv:ev f x=vS s0:=rx.s_inv;refine AA (v:=vS z) (w':=w) rfl (λ_ e=>by cases e) ?_ (hk U m w _ Env.le_refl (Mem.rfl' m) (λn h=> .inl h) (.d (.s z)) S);have key:(Instr.slice t (.string s0) (lo'.map (ev f)) (hi'.map (ev f)) none).run P w= .ok (.string z) w:=by
      refine Aip (Nl hs) ?_ ?_ q
      · cases lo' with
       |none=>simp only[AnU]at hl; exact .inl ⟨rfl,hl.symm⟩
       |some o=>
         simp only[AnZ]at hl;obtain⟨⟨kk,jj⟩,hj,rfl⟩:=hl;exact .inr ⟨kk,by simp only[Aoa]; rw[BO hj hr]⟩
      · cases hi' with
        |none=>simp only[AnU]at hh; exact .inl ⟨rfl,hh.symm⟩
        |some o=>
          simp only[AnZ]at hh;obtain⟨⟨kk,jj⟩,hj,rfl⟩:=hh;exact .inr ⟨kk,by simp only[Aoa]; rw[BO hj hr]⟩
     simp[execOp,hxv,Instr.sliceAt,An0 (Nl hs),key]
    ·cases e1
   ·cases e1
  ·cases e1
 ·cases e1
def Ah5:Operand->Option (List D)
 | .global g=>Ajp GT g
 |_=>none
theorem Acf {x:Operand}{ds:List D}(h:Ah5 x=some ds){m:Mem}{As:List Ow}{w:World}(S:St m As w){f:Fr}: ∃cs,PtC m (ev f x) cs/\FRL m ds cs:=by
 unfold Ah5 at h;split at h
 ·rename_i g;obtain⟨vs,h1,h2⟩:=gt_ok h;obtain⟨l,e,fr,hb,hc⟩:=S.tape.2 _ h1;exact⟨vs,⟨g,0,l,e,fr,rfl,hb,λi x hx=>by rw[AoA]; exact hc i x hx⟩,h2 m⟩
 ·cases h
def slGK (P:Program)(cf:Cf):Option (List D×Nat×Nat×Bool):=
 match Hk cf with
 |some a=>match a.o.op with
  | .slice t x none none none=>match Ah5 x,P.underlying t with
   |some ds,some (.array n e)=>match KR P e with
    |some i=>some (ds,i.sz,n,Nat.ble n 1000000)
    |none=>none
   |_,_=>none
  |_=>none
 |none=>none
theorem gslG {k:Nat}{cf:Cf}{α:Type}{E:α->List D}(xs:List α)(hE: ∀x,(E x).length=k)(g:Go ρ P N D0 Q As u4 m0 (CH N (aC P N cf) (.d (.sl α E xs)) []))
  (e:(slGK P (aC P N cf),(aL P N cf))=(some (xs.flatMap E,k,xs.length,true),(aR P N cf)):=by kernel_rfl) (hm:P.follows .mixedOrders=true:=by rfl):Go ρ P N D0 Q As u4 m0 cf:=by
 simp only[AnQ]at e;obtain⟨e1,e3⟩:=e;obtain⟨he1,he2⟩:=LI e3;refine AP hm he1 ?_;generalize aC P N cf=c0 at*;unfold slGK at e1;split at e1
 ·rename_i a ha;rw[DK ha]at he2;split at e1
  ·rename_i t x hop;split at e1
   ·rename_i ds nn ee hx hu;split at e1
    ·rename_i i hi;simp only[AnU,AnQ]at e1;obtain⟨rfl,hk,rfl,hle⟩:=e1;refine DJ (rd:=[]) ha he2 Q6 (λhp=> ?_) g;obtain⟨ll,⟨dst,op',ty,pos,af,gd⟩,gg,sl,es⟩:=a;simp only at hop⊢; subst hop;refine⟨AnX _,λrest Q U m f w As hr hz hn S hk'=> ?_⟩;obtain⟨cs,hp1,hp2⟩:=Acf hx S (f:=f);letI:=TJ E k;have hle:=An5 hle;refine Acp (α:=α) (cs:=cs) (ds:=[]) (xs:=xs) rfl (by rw[AoC]; exact hp1) (AdL hp2 λx _=>hE x) rfl (by omega) hu (λw=>by have:=BM hi w; rw[hk]at this; exact this) λu hu'=> ?_;exact hk' U m w u Env.le_refl (Mem.rfl' m) (λn h=> .inl h) (.d (Zq hu')) S
    ·cases e1
   ·cases e1
  ·cases e1
 ·cases e1
def idGK (P:Program)(cf:Cf):Option (List D×Int×Nat×Nat):=
 match Hk cf with
 |some a=>match a.o.op with
  | .indexAddr t x y=>match Ah5 x,P.underlying t,RV a.sl y with
   |some ds,some (.array n e),some (_,j)=>match KR P e with
    |some i=>some (ds,j,i.sz,n)
    |none=>none
   |_,_,_=>none
  |_=>none
 |none=>none
theorem gidG {k:Nat}{cf:Cf}{α:Type}{E:α->List D}{j:Int}{z:α}(xs:List α)(hE: ∀x,(E x).length=k)(hq:gOf (aC P N cf)=true->idx xs j=some z)(g:Go ρ P N D0 Q As u4 m0 (CH N (aC P N cf) (.d (.pf (E z))) []))
  (e:(idGK P (aC P N cf),(aL P N cf))=(some (xs.flatMap E,j,k,xs.length),(aR P N cf)):=by kernel_rfl) (hm:P.follows .mixedOrders=true:=by rfl):Go ρ P N D0 Q As u4 m0 cf:=by
 simp only[AnQ]at e;obtain⟨e1,e3⟩:=e;obtain⟨he1,he2⟩:=LI e3;refine AP hm he1 ?_;generalize aC P N cf=c0 at*;unfold idGK at e1;split at e1
 ·rename_i a ha;rw[DK ha]at he2;split at e1
  ·rename_i t x y hop;split at e1
   ·rename_i ds nn ee kk jj hx hu hj;split at e1
    ·rename_i i hi;simp only[AnU,AnQ]at e1;obtain⟨rfl,rfl,hk,rfl⟩:=e1;refine DJ (rd:=[]) ha he2 Q6 (λhp=> ?_) g;have q:=hq (NK ha hp);obtain⟨ll,⟨dst,op',ty,pos,af,gd⟩,gg,sl,es⟩:=a;simp only at hop hj⊢; subst hop;refine⟨AnX _,λrest Q U m f w As hr hz hn S hk'=> ?_⟩;obtain⟨cs,hp1,hp2⟩:=Acf hx S (f:=f);letI:=TJ E k;have hrep:GoT.rep m ((cs.drop (jj.toNat*k)).take k) z:=Cl.getI (AdL hp2 λx _=>hE x) q;obtain⟨q1,q2⟩:=A2 q;have hlt:jj.toNat<xs.length:=(An2.1 q2).1;refine Afc (sz:=k) rfl (BO hj hr) hp1 hu (λw=>by have:=BM hi w; rw[hk]at this; exact this) q1 (by omega) λp hp=> ?_;obtain⟨b,off,l,e',fr,rfl,hb,hc⟩:=hp;refine hk' U m w _ Env.le_refl (Mem.rfl' m) (λn h=> .inl h) (.d (.pf ⟨b,off,l,e',fr,rfl,hb,λi x hx=>hc i x ?_⟩ rfl hrep.1.1 hrep.1.2)) S;rw[List.getElem?_take]at hx;split at hx
     ·exact hx
     ·cases hx
    ·cases e1
   ·cases e1
  ·cases e1
 ·cases e1
def dynP (cf:Cf):Option (Value×List AV):=
 match Hk cf with
 |some a=>match a.o.op with
  | .call c=>match c.callee with
   | .value (.tmp t)=>match get a.sl t with
    | .d (.v x)=>some (x,c.args.toList.map (aev a.sl))
    |_=>none
   |_=>none
  |_=>none
 |none=>none
theorem gdyn {cf:Cf}{x:Int}{ea:List AV}{r:AV}(hs:gOf (aC P N cf)=true->∃k:Nat,x=(k:Int)/\Sf P k ea r)(g:Go ρ P N D0 Q As u4 m0 (P4 N (aC P N cf) r))
  (e:((dynP (aC P N cf)).map (λp=>(p.1,Akd (aC P N cf).s.fz ea p.2)),ea.all (okA 0),(aL P N cf))=(some (fnV x,ea),true,(aR P N cf)):=by kernel_rfl) (hm:P.follows .mixedOrders=true:=by rfl):Go ρ P N D0 Q As u4 m0 cf:=by
 simp only[AnQ]at e;obtain⟨e1,e2,e3⟩:=e;obtain⟨he1,he2⟩:=LI e3;refine AP hm he1 ?_;generalize aC P N cf=c0 at*;cases hq:dynP c0 with
 |none=>rw[hq]at e1; cases e1
 |some p=>
  rw[hq]at e1;simp only[Aoa,AnU,AnQ]at e1;obtain⟨e4,e5⟩:=e1;unfold dynP at hq;split at hq
  ·rename_i a ha;have hes:AbL c0=a.es:=by unfold AbL; rw[ha]
   rw[hes]at he2;refine Agx ha he2 (λhp=> ?_) g;have hg:gOf c0=true:=by
    unfold gOf; rw[ha];obtain⟨l,o,gg,sl,es⟩:=a;cases gg with
    |none=>rfl
    |some q=>exact hp q rfl
   obtain⟨k,hxk,hS⟩:=hs hg;obtain⟨l,⟨dst,op,ty,pos,af,gd⟩,gg,sl,es⟩:=a;simp only at hq⊢;split at hq
   ·rename_i c;obtain⟨ce,xs,ts⟩:=c;obtain⟨xs⟩:=xs;simp only at hq;split at hq
    ·rename_i t;split at hq
     ·rename_i v hv;cases hq;simp only at e4 e5;subst e4;refine⟨AnX _,λrest Q U m f w As hr hz hn St0 hk=> ?_⟩;have rt:=hr t;rw[hv,hxk]at rt;have hval:f t= .func (.func k) #[] #[]:=by
       have:=rt.dd;generalize f t=u at this;cases this; rfl
      have ra:=BB.map_aev hr xs;refine RY (x:= .tmp t) (g:= .func (.func k) #[] #[]) (R:=λv w'=> ∃(M:Mem) (u5:Env) (r':AV) (obs':List AObj) (n1:Nat),m<=M/\none0.le u5/\is r [] 0 r' obs' n1/\(∀n,u5 n≠none->n<n1)/\Rel u5 M r' v/\St M (obs'.map (rep u5 M)++As) w') hval (RA.clo (pre:=[]) (caps:=[]) hS.1 rfl (by
       simp only[AoJ,AoC];refine hS.2 none0 m As w _ ?_ (λn h=>absurd rfl h) St0;have h1:=OS (es:=ea) hz ra;exact P6 (U:=U) (n:=0) (λk h=>absurd h (by omega)) e2 (by rw[e5]at h1; exact h1))) rfl ?_
      rintro v w2 ⟨M,u5,r',obs',n1,hle,_,⟨rfl,rfl,rfl⟩,hdom,hR,S⟩;have hη:u5.le U:=λn u h=>by have:=hdom n (by rw[h]; simp); omega
      exact hk U M w2 v Env.le_refl hle (λn h=> .inl h) (hR.up hη (Mem.rfl' M)) S
     ·cases hq
    ·cases hq
   ·cases hq
  ·cases hq
def dycP (cf:Cf):Option (Nat×List D×List AV):=
 match Hk cf with
 |some a=>match a.o.op with
  | .call c=>match c.callee with
   | .value (.tmp t)=>match get a.sl t with
    | .d (.cl k ds)=>some (k,ds,c.args.toList.map (aev a.sl))
    |_=>none
   |_=>none
  |_=>none
 |none=>none
theorem gdyc {k:Nat}{ds:List D}{cf:Cf}{ea:List AV}{r:AV}(hs:gOf (aC P N cf)=true->Sf P k (.agg (ds.map dv)::ea) r)(g:Go ρ P N D0 Q As u4 m0 (P4 N (aC P N cf) r))
  (e:((dycP (aC P N cf)).map (λp=>(p.1,p.2.1,Akd (aC P N cf).s.fz ea p.2.2)),ea.all (okA 0),(aL P N cf))=(some (k,ds,ea),true,(aR P N cf)):=by kernel_rfl) (hm:P.follows .mixedOrders=true:=by rfl):Go ρ P N D0 Q As u4 m0 cf:=by
 simp only[AnQ]at e;obtain⟨e1,e2,e3⟩:=e;obtain⟨he1,he2⟩:=LI e3;refine AP hm he1 ?_;generalize aC P N cf=c0 at*;cases hq:dycP c0 with
 |none=>rw[hq]at e1; cases e1
 |some p=>
  rw[hq]at e1;simp only[Aoa,AnU,AnQ]at e1;obtain⟨e4,e4',e5⟩:=e1;unfold dycP at hq;split at hq
  ·rename_i a ha;have hes:AbL c0=a.es:=by unfold AbL; rw[ha]
   rw[hes]at he2;refine Agx ha he2 (λhp=> ?_) g;have hg:gOf c0=true:=by
    unfold gOf; rw[ha];obtain⟨l,o,gg,sl,es⟩:=a;cases gg with
    |none=>rfl
    |some q=>exact hp q rfl
   have hS:=hs hg;obtain⟨l,⟨dst,op,ty,pos,af,gd⟩,gg,sl,es⟩:=a;simp only at hq⊢;split at hq
   ·rename_i c;obtain⟨ce,xs,ts⟩:=c;obtain⟨xs⟩:=xs;simp only at hq;split at hq
    ·rename_i t;split at hq
     ·rename_i k' ds' hv;cases hq;simp only at e4 e4' e5;subst e4 e4';refine⟨AnX _,λrest Q U m f w As hr hz hn St0 hk=> ?_⟩;have rt:=hr t;rw[hv]at rt;obtain⟨cs,hval,hfr⟩: ∃cs,f t= .func (.func k') #[.agg cs.toArray] #[]/\FRL m ds' cs:=by
       have:=rt.dd;generalize f t=u at this;cases this with
       |cl hl hr'=>exact⟨_,rfl,hl,hr'⟩
      have ra:=BB.map_aev hr xs;refine RY (x:= .tmp t) (g:= .func (.func k') #[.agg cs.toArray] #[]) (R:=λv w'=> ∃(M:Mem) (u5:Env) (r':AV) (obs':List AObj) (n1:Nat),m<=M/\none0.le u5/\is r [] 0 r' obs' n1/\(∀n,u5 n≠none->n<n1)/\Rel u5 M r' v/\St M (obs'.map (rep u5 M)++As) w') hval (RA.clo (pre:=[.agg cs.toArray]) (caps:=[]) hS.1 rfl (by
       simp only[List.singleton_append,AoC];refine hS.2 none0 m As w _ ?_ (λn h=>absurd rfl h) St0;have h1:=OS (es:=ea) hz ra;have h2:BB none0 m ea (xs.map (ev f)):=P6 (U:=U) (n:=0) (λk h=>absurd h (by omega)) e2 (by rw[e5]at h1; exact h1);have h3:Rel none0 m (.agg (ds'.map dv)) (.agg cs.toArray):=by
        have:=BB.ofDv (U:=none0) hfr;exact .agg this.1 this.2
       exact .cons h3 h2)) rfl ?_
      rintro v w2 ⟨M,u5,r',obs',n1,hle,_,⟨rfl,rfl,rfl⟩,hdom,hR,S⟩;have hη:u5.le U:=λn u h=>by have:=hdom n (by rw[h]; simp); omega
      exact hk U M w2 v Env.le_refl hle (λn h=> .inl h) (hR.up hη (Mem.rfl' M)) S
     ·cases hq
    ·cases hq
   ·cases hq
  ·cases hq
def Abv (s:AS)(t j:Nat):Option (Nat×Nat×List AV×TypeId):=
 match get s.sl t with
 | .pb n 0=>match find n s.ob with
  |some (i,.box k cs ty)=>match cs[j]? with
   |some a=>bif Nat.beq k n&&SK a then some (i,n,cs,ty)else none
   |none=>none
  |_=>none
 |_=>none
def Oh (i:Nat)(o:AObj)(ob:List Tok):List Tok:=ob.map λp=>bif Nat.beq p.1 i then(i,o)else p
def Af5 (s:AS)(t j sz:Nat)(α:Type)(E:α->List D):AS:=match Abv s t j with|some (i,n,cs,ty)=>⟨s.sl,Oh i (.box n (cs.set j (.ow s.nx)) ty) s.ob++[(s.nx,.row s.nx sz α E [])],s.fz,s.nx+1⟩|none=>s
theorem PX {i:Nat}{o:AObj}: ∀{ob:List Tok},tids (Oh i o ob)=tids ob
 | []=>rfl
 |p::l=>by
  show(bif Nat.beq p.1 i then(i,o)else p).1::tids (Oh i o l)=p.1::tids l;rw[PX];cases hb:Nat.beq p.1 i
  ·rfl
  ·have:=AnS hb; simp[this]
theorem PY {i:Nat}{o:AObj}: ∀{ob:List Tok},i∉tids ob->Oh i o ob=ob
 | [],_=>rfl
 |p::l,h=>by
  have h1:p.1≠i:=λe=>h (by rw[<-e]; exact Aoe);have h2:i∉tids l:=λe=>h (Aok _ e);show(bif Nat.beq p.1 i then(i,o)else p)::Oh i o l=p::l;rw[PY h2];cases hb:Nat.beq p.1 i
  ·rfl
  ·exact absurd (AnS hb) h1
theorem Ae1 {i:Nat}{o q:AObj}{ob:List Tok}(hn:(tids ob).Nodup)(h:(i,q)∈ob): ∃l1 l2,ob=l1++(i,q)::l2/\Oh i o ob=l1++(i,o)::l2:=by
 obtain⟨l1,l2,rfl⟩:=List.append_of_mem h;refine⟨l1,l2,rfl,?_⟩;have hn':(tids l1++i::tids l2).Nodup:=by simpa[tids]using hn
 obtain⟨n1,n2,n3⟩:=List.nodup_append.1 hn';have a1:i∉tids l1:=λe=>n3 i e i Aoe rfl;have a2:i∉tids l2:=(List.nodup_cons.1 n2).1;have e1:=PY (o:=o) a1;have e2:=PY (o:=o) a2;unfold Oh at*;rw[AoH,AoG,e1,e2];simp
theorem Amt {s:AS}{U:Env}{m:Mem}{f:Fr}{w:World}{t j sz:Nat}{α:Type}{E:α->List D}(h:(Abv s t j).isSome=true)(g:Gm As s U m f w):
  ∃u5,U.le u5/\Gm As (Af5 s t j sz α E) u5 m f w:=by
 cases hk:Abv s t j with
 |none=>rw[hk]at h; cases h
 |some r=>
  obtain⟨i,n,cs,ty⟩:=r;have hS:Af5 s t j sz α E=⟨s.sl,Oh i (.box n (cs.set j (.ow s.nx)) ty) s.ob++[(s.nx,.row s.nx sz α E [])],s.fz,s.nx+1⟩:=by unfold Af5; rw[hk]
  rw[hS];unfold Abv at hk;split at hk
  ·rename_i n' hsl;split at hk
   ·rename_i i' k' cs' ty' hf;split at hk
    ·rename_i a ha;cases hb:Nat.beq k' n'&&SK a
     ·rw[hb]at hk; cases hk
     ·rw[hb]at hk;simp only[cond_true,AnU,AnQ]at hk;obtain⟨rfl,rfl,rfl,rfl⟩:=hk;simp only[AnP]at hb;have hkn:=AnS hb.1;subst hkn;have h0:U s.nx=none:=by
       cases q:U s.nx with
       |none=>rfl
       |some v=>have:=g.dom s.nx (by rw[q]; simp); omega
      have le:=Env.le_put (v:= .slice none 0 0) h0;obtain⟨l1,l2,e1,e2⟩:=Ae1 (o:= .box k' (cs'.set j (.ow s.nx)) ty') g.wf.nd (F5 hf);refine⟨U.put s.nx (.slice none 0 0),le,λu=>(g.slr u).up le (Mem.rfl' m),g.fz.up le (Mem.rfl' m),λx hx=> ?_,?_,?_,λx hx=> ?_⟩
      ·rcases Env.put_dom hx with q|q
       ·exact Nat.lt_succ_of_lt (g.dom x q)
       ·subst q; exact Aoc _
      ·have S0:=St.ru le (Mem.rfl' m) g.st;rw[e1]at S0;have S1:=St.rp S0 (AoX (a:=(i',AObj.box k' cs' ty')) (l₁:=l1) (l₂:=l2));have S2:St m (rep (U.put s.nx (.slice none 0 0)) m (.box k' (cs'.set j (.ow s.nx)) ty')::(reps (U.put s.nx (.slice none 0 0)) m (l1++l2)++As)) w:=by
        refine St.imp0 S1 λx hx=> ?_;obtain⟨b,vs,q1,q2,q3,q4⟩:=hx;refine⟨b,vs,q1,⟨by rw[List.length_set]; exact q2.1,λk c u hc hu=> ?_⟩,q3,q4⟩;rw[List.getElem?_set]at hc;split at hc
        ·rename_i e; subst e;split at hc
         ·cases hc;have hr:=q2.2 _ a u ha hu;have hu0:u= .slice none 0 0:=by
           have hb2:=hb.2;unfold SK at hb2;split at hb2
           ·have:=hr.dd; cases this; rfl
           ·cases hb2
          rw[hu0]; exact .ow Env.put_self rfl
         ·cases hc
        ·exact q2.2 k c u hc hu
       have T:=St.closeRow (U:=U.put s.nx (.slice none 0 0)) (n:=s.nx) (E:=E) (xs:=[]) Env.put_self rfl (by simpa using FRL.nil) (λ_ h=>by cases h) (St.rowNil S2 sz);show St m (reps _ m (Oh i' _ s.ob++[_])++As) w;rw[e2,Be,An3];have T2:St m (rep (U.put s.nx (.slice none 0 0)) m (.row s.nx sz α E [])::(reps (U.put s.nx (.slice none 0 0)) m (l1++(i',.box k' (cs'.set j (.ow s.nx)) ty')::l2)++As)) w:=by
        refine T.perm (List.Perm.cons _ ?_);rw[Be,Be,Afs,An3,An3];exact List.perm_middle.symm
       exact T2.perm (List.perm_middle.symm)
      ·show(tids (Oh i' _ s.ob++[_])).Nodup;simp only[tids,AoH,AoG,List.map_nil];have e3:=PX (i:=i') (o:= .box k' (cs'.set j (.ow s.nx)) ty') (ob:=s.ob);unfold tids at e3;rw[e3];refine List.nodup_append.2 ⟨g.wf.nd,by simp,λa ha b hb e=> ?_⟩;simp at hb;have:=g.wf.lt a ha;omega
      ·have hx':x∈tids (Oh i' (.box k' (cs'.set j (.ow s.nx)) ty') s.ob++[(s.nx,AObj.row s.nx sz α E [])]):=hx;unfold tids at hx';rw[AoH,Aol]at hx';have e3:=PX (i:=i') (o:= .box k' (cs'.set j (.ow s.nx)) ty') (ob:=s.ob);unfold tids at e3;rcases hx' with q|q
       ·rw[e3]at q; exact Nat.lt_succ_of_lt (g.wf.lt x q)
       ·simp at q; subst q; exact Aoc _
    ·cases hk
   ·cases hk
  ·cases hk
def Amu (cf:Cf)(t j sz:Nat)(α:Type)(E:α->List D):Cf:=⟨Af5 cf.s t j sz α E,cf.md,cf.K⟩
theorem Af4 {cf:Cf}{t j sz:Nat}{α:Type}{E:α->List D}(hp:MN cf=true)(h:(Abv cf.s t j).isSome=true)(g:Go ρ P N D0 Q As u4 m0 (Amu cf t j sz α E)):Go ρ P N D0 Q As u4 m0 cf:=by
 obtain⟨s,md,K⟩:=cf;have key: ∀{R:Fr->World->Prop},Al As u4 m0 (Af5 s t j sz α E) R->Al As u4 m0 s R:=λk U m f w a1 a2 gm=>
  let ⟨u5,le,gm'⟩:=Amt h gm; k u5 m f w (Env.le_tr a1 le) a2 gm'
 cases md with
 |ops=>cases hp
 |code c=>exact key g
 |pop=>exact key g
 |ext id=>exact key g
 |ret=>exact key g
theorem Aju {cf:Cf}{α:Type}(E:α->List D)(t j sz:Nat)(g:Go ρ P N D0 Q As u4 m0 (Amu (aC P N cf) t j sz α E))
  (e:(MN (aC P N cf),(Abv (aC P N cf).s t j).isSome,(bL P N cf))=(true,true,(bR P N cf)):=by kernel_rfl) (hm:P.follows .mixedOrders=true:=by rfl):Go ρ P N D0 Q As u4 m0 cf:=by
 simp only[AnQ]at e;exact AP hm (.of e.2.2) (Af4 e.1 e.2.1 g)
theorem Agz {cf:Cf}{α:Type}(id:Nat)(E:α->List D)(t j sz:Nat)(g:Go ρ P N D0 Q As u4 m0 (Amu (LJ id P N 100000 cf).1 t j sz α E))
  (e:(MN (LJ id P N 100000 cf).1,(Abv (LJ id P N 100000 cf).1.s t j).isSome,((LJ id P N 100000 cf).2).map (·.1))=(true,true,((LJ id P N 100000 cf).2).map (·.2)):=by kernel_rfl) (hm:P.follows .mixedOrders=true:=by rfl):Go ρ P N D0 Q As u4 m0 cf:=by
 simp only[AnQ]at e;exact Vm hm (.of e.2.2) (Af4 e.1 e.2.1 g)
end
def atD (d:Nat)(cf:Cf):Bool:=match cf.md with
 | .ops _ _ (o::_) _=>match o.dst with|some k=>Nat.beq k d|none=>false
 |_=>false
def YP (d:Nat)(P:Program)(N:Nat):Nat->Cf->Cf×Eqs
 |0,cf=>(cf,[])
 |n+1,cf=>bif atD d cf then(cf,[])else match nxt P N cf with
  |some r=>let q:=YP d P N n r.1; (q.1,r.2++q.2)
  |none=>(cf,[])
def AaE:List AV->Option (List D)
 | []=>some []
 | .d x::l=>match AaE l with
  |some r=>some (x::r)
  |none=>none
 |_=>none
def boxFK (cf:Cf):Option (List D):=
 match Hk cf with
 |some a=>match a.o.op with
  | .box e x=>match PF (rv cf.s.fz a.sl x)with
   |some cs=>AaE cs
   |none=>none
  |_=>none
 |none=>none
def slMK (P:Program)(cf:Cf):Option (List D×Nat×Nat×Bool):=
 match Hk cf with
 |some a=>match a.o.op with
  | .slice t x none none none=>match aev a.sl x,P.underlying t with
   | .d (.pf ds),some (.array n e)=>match KR P e with
    |some i=>some (ds.take (n*i.sz),i.sz,n,Nat.ble n 1000000)
    |none=>none
   |_,_=>none
  |_=>none
 |none=>none
theorem Adk {U:Env}{m:Mem}: ∀{cs:List AV} {ds:List D} {vs:List Value},AaE cs=some ds->BB U m cs vs->FRL m ds vs
 | [],ds,vs,h,r=>by cases h; have:=r.nil_inv; subst this; exact FRL.nil
 | .d x::l,ds,vs,h,r=>by
  obtain⟨v,us,rfl,a,b⟩:=r.cons_inv;unfold AaE at h;split at h
  ·rename_i q hq;cases h;exact FRL.cons a.dd (Adk hq b)
  ·cases h
 | .any::l,ds,vs,h,r=>by simp[AaE]at h
 | .no::l,ds,vs,h,r=>by simp[AaE]at h
 | .pb _ _::l,ds,vs,h,r=>by simp[AaE]at h
 | .pe _ _ _ _::l,ds,vs,h,r=>by simp[AaE]at h
 | .pa _ _ _ _::l,ds,vs,h,r=>by simp[AaE]at h
 | .bs _ _ _ _::l,ds,vs,h,r=>by simp[AaE]at h
 | .ow _::l,ds,vs,h,r=>by simp[AaE]at h
 | .ab _::l,ds,vs,h,r=>by simp[AaE]at h
 | .agg _::l,ds,vs,h,r=>by simp[AaE]at h
 | .tup _::l,ds,vs,h,r=>by simp[AaE]at h
 | .fn _ _ _::l,ds,vs,h,r=>by simp[AaE]at h
 | .gd _ _ _ _::l,ds,vs,h,r=>by simp[AaE]at h
section
variable {ρ:Option Nat}{P:Program}{N:Nat}{D0:Dw}{Q:DP}{As:List Ow}{u4:Env}{m0:Mem}
theorem Ahy {d:Nat}(hm:P.follows .mixedOrders=true): ∀{n:Nat} {cf:Cf},EqsOk (YP d P N n cf).2->Go ρ P N D0 Q As u4 m0 (YP d P N n cf).1->Go ρ P N D0 Q As u4 m0 cf
 |0,_,_,g=>g
 |n+1,cf,he,g=>by
  cases hb:atD d cf with
  |true=>
   have e:YP d P N (n+1) cf=(cf,[]):=by simp only[YP,hb,cond_true]
   rw[e]at g; exact g
  |false=>
   cases hr:nxt P N cf with
   |none=>
    have e:YP d P N (n+1) cf=(cf,[]):=by simp only[YP,hr,hb,cond_false]
    rw[e]at g; exact g
   |some r=>
    have e:YP d P N (n+1) cf=((YP d P N n r.1).1,r.2++(YP d P N n r.1).2):=by simp only[YP,hr,hb,cond_false]
    rw[e]at g he;have he':=EqsOk.app.1 he;exact ZM hm hr he'.1 (Ahy hm (n:=n) he'.2 g)
theorem Am4 {cf:Cf}(d:Nat)(ds:List D)(g:Go ρ P N D0 Q As u4 m0 (CH N (YP d P N 100000 cf).1 (.d (.pf ds)) []))
  (e:(boxFK (YP d P N 100000 cf).1,((YP d P N 100000 cf).2++AbL (YP d P N 100000 cf).1).map (·.1))=(some ds,((YP d P N 100000 cf).2++AbL (YP d P N 100000 cf).1).map (·.2)):=by kernel_rfl) (hm:P.follows .mixedOrders=true:=by rfl):Go ρ P N D0 Q As u4 m0 cf:=by
 simp only[AnQ]at e;obtain⟨e1,e3⟩:=e;obtain⟨he1,he2⟩:=EqsOk.two e3;refine Ahy hm he1 ?_;generalize (YP d P N 100000 cf).1=c0 at*;unfold boxFK at e1;split at e1
 ·rename_i a ha;rw[DK ha]at he2;split at e1
  ·rename_i t x hop;split at e1
   ·rename_i cs hc;refine DJ (rd:=[]) ha he2 Q6 (λhp=> ?_) g;obtain⟨ll,⟨dst,op',ty,pos,af,gd⟩,gg,sl,es⟩:=a;simp only at hop hc⊢; subst hop;refine⟨AnX _,λrest Q U m f w As hr hz hn S hk'=> ?_⟩;obtain⟨hl,hh⟩:=Jn hc (Om hz hr x);have hf:=Adk e1 hl;refine s_box S rfl λb w' S'=> ?_;obtain⟨m',le,hp',S2⟩:=St.bxKeep (i:=0) S' rfl;exact hk' U m' w' (pt b 0) Env.le_refl le (λn h=> .inl h) (.d (.pf hp' rfl (hf.up le).1 (hf.up le).2)) (St.ru Env.le_refl le S2)
   ·cases e1
  ·cases e1
 ·cases e1
theorem gslM {k:Nat}{cf:Cf}{α:Type}{E:α->List D}(xs:List α)(hE: ∀x,(E x).length=k)(g:Go ρ P N D0 Q As u4 m0 (CH N (aC P N cf) (.d (.sl α E xs)) []))
  (e:(slMK P (aC P N cf),(aL P N cf))=(some (xs.flatMap E,k,xs.length,true),(aR P N cf)):=by kernel_rfl) (hm:P.follows .mixedOrders=true:=by rfl):Go ρ P N D0 Q As u4 m0 cf:=by
 simp only[AnQ]at e;obtain⟨e1,e3⟩:=e;obtain⟨he1,he2⟩:=LI e3;refine AP hm he1 ?_;generalize aC P N cf=c0 at*;unfold slMK at e1;split at e1
 ·rename_i a ha;rw[DK ha]at he2;split at e1
  ·rename_i t x hop;split at e1
   ·rename_i ds nn ee hx hu;split at e1
    ·rename_i i hi;simp only[AnU,AnQ]at e1;obtain⟨hd,hk,rfl,hle⟩:=e1;refine DJ (rd:=[]) ha he2 Q6 (λhp=> ?_) g;obtain⟨ll,⟨dst,op',ty,pos,af,gd⟩,gg,sl,es⟩:=a;simp only at hop hx⊢; subst hop;refine⟨AnX _,λrest Q U m f w As hr hz hn S hk'=> ?_⟩;have rx:=Ap hr x;rw[hx]at rx;obtain⟨cs,hp1,hp2⟩:=FRL.ptc (n:=0) rx.dd;letI:=TJ E k;have hle:=An5 hle;have ht:=hp2.take (xs.length*i.sz);rw[hd]at ht;refine Acp (α:=α) (cs:=cs.take (xs.length*i.sz)) (ds:=cs.drop (xs.length*i.sz)) (xs:=xs) rfl (by rw[List.take_append_drop]; exact hp1) (AdL ht λx _=>hE x) rfl (by omega) hu (λw=>by have:=BM hi w; rw[hk]at this; exact this) λu hu'=> ?_;exact hk' U m w u Env.le_refl (Mem.rfl' m) (λn h=> .inl h) (.d (Zq hu')) S
    ·cases e1
   ·cases e1
  ·cases e1
 ·cases e1
end
def cntS (s:ByteArray)(c:UInt8):Int:=(Lib.countByte s.data.toList c:Nat)
def AkK (s:ByteArray)(c:UInt8):Int:=Lib.indexByte s.data.toList c
structure Akc (P:Program)(fn:Func)(F:ByteArray->UInt8->Int):Prop where
 hname:(fn.name== "runtime.NumGoroutine")=false
 hb:fn.body.isNone=true
 hn:Extern.findNext fn=none
 he: ∃E,Extern.find fn=some E/\∀s c w,(E #[vS s,vB c]).run P w= .ok (vI (F s c)) w
theorem extCnt {P:Program}{fn:Func}(hname:(fn.name== "runtime.NumGoroutine")=false)(hb:fn.body.isNone=true)(hn:Extern.findNext fn=none)(he:Extern.find fn=some Extern.BytealgCount.count):Akc P fn cntS:=
 ⟨hname,hb,hn,_,he,λs c w=>by
  have:=Lib.run_countString (P:=P) s (c.toNat:Int) w;rw[show((c.toNat:Int).toNat).toUInt8=c by simp]at this;exact this⟩
theorem extIxb {P:Program}{fn:Func}(hname:(fn.name== "runtime.NumGoroutine")=false)(hb:fn.body.isNone=true)(hn:Extern.findNext fn=none)(he:Extern.find fn=some Extern.BytealgIndexByte.indexByte):Akc P fn AkK:=
 ⟨hname,hb,hn,_,he,λs c w=>by
  have:=Lib.run_indexByteString (P:=P) s (c.toNat:Int) w;rw[show((c.toNat:Int).toNat).toUInt8=c by simp]at this;exact this⟩
def extK (cf:Cf):Option (FuncId×AV×AV):=
 match Hk cf with
 |some a=>match a.o.op with
  | .call c=>match c.callee,c.args.toList with
   | .value (.func k),[x,y]=>some (k,aev a.sl x,aev a.sl y)
   |_,_=>none
  |_=>none
 |none=>none
section
variable {ρ:Option Nat}{P:Program}{N:Nat}{D0:Dw}{Q:DP}{As:List Ow}{u4:Env}{m0:Mem}
variable {ops:Array Oper}{rest:List Oper}{f:Fr}{w w':World}{dst:Option Nat}{ty:TypeId}{pos:String}{af:Array Edge}{x y:Operand}
theorem Al0 {k:FuncId}{fn:Func}{F:ByteArray->UInt8->Int}{p:ByteArray}{q:UInt8}{ats:Array TypeId}(hf:P.funcs[k]? =some fn)(hE:Akc P fn F)(hx:ev f x=vS p)(hy:ev f y=vB q)
  (h:wpl ρ P N D0 ops rest Q (upo N f dst (vI (F p q))) w):
  wpl ρ P N D0 ops (⟨dst,.call {callee:= .value (.func k),args:= #[x,y],argTypes:=ats},ty,pos,af,none⟩::rest) Q f w:=by
 obtain⟨hname,hb,hn,E,he,hr0⟩:=hE;refine AA (v:=vI (F p q)) (w':=w) rfl (λ_ e=>by cases e) ?_ h;have hr:=run_callFunc_extern hf hname hb hn he #[vS p,vB q] w;rw[hr0]at hr;simp only[ev]at hx hy;simp only[execOp,resolve,invoke,Deferred.ofValue,List.map_toArray,AoG,List.map_nil,ev,hx,hy,An9,An8,An4,Array.empty_append,Array.append_empty,hr,Result.andThen]
theorem gext {cf:Cf}{k:FuncId}{fn:Func}{F:ByteArray->UInt8->Int}{p:ByteArray}{q:UInt8}(hf:P.funcs[k]? =some fn)(hE:Akc P fn F)(g:Go ρ P N D0 Q As u4 m0 (CH N (aC P N cf) (.d (.i (F p q))) []))
  (e:(extK (aC P N cf),(aL P N cf))=(some (k,.d (.s p),.d (.b q)),(aR P N cf)):=by kernel_rfl) (hm:P.follows .mixedOrders=true:=by rfl):Go ρ P N D0 Q As u4 m0 cf:=by
 simp only[AnQ]at e;obtain⟨e1,e3⟩:=e;obtain⟨he1,he2⟩:=LI e3;refine AP hm he1 ?_;generalize aC P N cf=c0 at*;unfold extK at e1;split at e1
 ·rename_i a ha;rw[DK ha]at he2;split at e1
  ·rename_i c hop;split at e1
   ·rename_i k' x y hc hargs;simp only[AnU,AnQ]at e1;obtain⟨rfl,ex,ey⟩:=e1;refine DJ (rd:=[]) ha he2 Q6 (λhp=> ?_) g;obtain⟨l,⟨dst,op',ty,pos,af,gd⟩,gg,sl,es⟩:=a;obtain⟨cc,cas,cts⟩:=c;simp only at hop ex ey hc hargs⊢; subst hop hc;have ha':cas= #[x,y]:=by apply Array.toList_inj.mp; rw[hargs]
    subst ha';refine⟨AnX _,λrest Q U m f w As hr hz hn S hk=> ?_⟩;have rx:=Ap hr x;have ry:=Ap hr y;rw[ex]at rx;rw[ey]at ry;exact Al0 hf hE rx.s_inv ry.b_inv (hk U m w _ Env.le_refl (Mem.rfl' m) (λn h=> .inl h) (.d (.i _)) S)
   ·cases e1
  ·cases e1
 ·cases e1
end
end Go.Ax
end
