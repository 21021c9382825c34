/- Several texts, one behind the other. Conditions: none. -/
import Derived.Test.YtnhdojckpcbjeaaGreatDoorZc
import Derived.KernelRfl
import Derived.Lib.Bytealg
set_option linter.unusedSimpArgs false
set_option linter.unusedVariables false
section
namespace Go.Ax
open Go Go.Gw
@[reducible] def QO {α:Type}(E:α→List D)(sz:Nat):GoT α where
 sz:=sz
 rep m cs x:=FRL m (E x) cs∧(E x).length=sz
 len h:=by rw[←h.1.1,h.2]
 up l h:=⟨h.1.up l,h.2⟩
 one h:=h.1.one
section
variable {α:Type}{E:α→List D}{m:Mem}{v:Value}{sz:Nat}
theorem Aat: ∀{xs:List α} {cs:List Value},FRL m (xs.flatMap E) cs→(∀x∈xs,(E x).length=sz)→ @CI α (QO E sz) m cs xs
 | [],cs,h,_=>show cs=[]from FRL.nil_inv (by simpa using h)
 |x::xs,cs,h,hE=>by
  rw[Ami]at h;have h1:=h.take (E x).length;have h2:=h.drop (E x).length;rw[List.take_left]at h1;rw[List.drop_left]at h2;exact⟨_,_,(List.take_append_drop _ _).symm,⟨h1,hE x AlZ⟩,Aat h2 fun y hy=>hE y (Al4 _ hy)⟩
theorem Acr: ∀{xs:List α} {cs:List Value}, @CI α (QO E sz) m cs xs→FRL m (xs.flatMap E) cs∧∀x∈xs,(E x).length=sz
 | [],cs,h=>by
  have:cs=[]:=h;subst this; exact⟨.nil,fun _ h=>by cases h⟩
 |x::xs,cs,⟨c,d,e,h1,h2⟩=>by
  subst e;have ih:=Acr h2;refine⟨by rw[Ami]; exact h1.1.append ih.1,fun y hy=> ?_⟩;rcases Al6.1 hy with q|q
  ·subst q; exact h1.2
  ·exact ih.2 y q
theorem V5 {xs:List α}(h: @SlR α (QO E sz) m v xs):FR m (.sl α E xs) v:=by
 obtain⟨cs,h1,h2⟩:=h;have:=Acr h2;exact .sl h1 this.2 this.1.1 this.1.2
theorem X1 {xs:List α}(h:FR m (.sl α E xs) v)(hE: ∀x,(E x).length=sz): @SlR α (QO E sz) m v xs:=by
 cases h with
 | @sl _ _ _ sz' _ cs h hE' hl hr=>
  refine⟨cs,?_,Aat ⟨hl,hr⟩ fun x _=>hE x⟩;cases xs with
  |nil=>
   have:cs=[]:=by simp at hl; exact List.length_eq_zero_iff.1 hl.symm
   subst this;exact⟨by simp,h.2.1,h.2.2⟩
  |cons x xs=>
   have:sz'=sz:=by rw[←hE' x AlZ,hE x]
   subst this; exact h
end
def AeT (φ:Nat→Nat):AV→AV
 | .pb n o=> .pb (φ n) o
 | .ow n=> .ow (φ n)
 | .ab n=> .ab (φ n)
 | .bs n o k c=> .bs (φ n) o k c
 |a=>a
def renB (φ:Nat→Nat):AV→AV
 | .agg cs=> .agg (cs.map (AeT φ))
 |a=>AeT φ a
def Abg (φ:Nat→Nat):AV→AV
 | .tup cs=> .tup (cs.map (renB φ))
 | .fn f ps cs=> .fn f (ps.map (AeT φ)) (cs.map (AeT φ))
 |a=>renB φ a
def Wl (φ:Nat→Nat):AObj→AObj
 | .box n cs t=> .box (φ n) (cs.map (Abg φ)) t
 | .row n sz α E xs=> .row (φ n) sz α E xs
 | .fr n d=> .fr (φ n) d
 | .hp n k=> .hp (φ n) k
section
variable {η η':Env}{m:Mem}{φ:Nat→Nat}{n:Nat}
theorem Acw (h: ∀k,k<n→∀u,η' k=some u→η (φ k)=some u){a:AV}{v:Value}(ho:ok0 n a=true)(r:Rel η' m a v):Rel η m (AeT φ a) v:=by
 cases r<;>simp only[ok0,reduceCtorEq]at ho
 ·rename_i h1; exact .d h1
 ·exact .any _
 ·exact .no
 ·rename_i h1; exact .pb (h _ (Da ho) _ h1)
 ·rename_i h1; exact .bs (h _ (Da ho) _ h1)
 ·rename_i h2 h1; exact .ow (h _ (Da ho) _ h2) h1
 ·rename_i h2 h1; exact .ab (h _ (Da ho) _ h2) h1
theorem UM (h: ∀k,k<n→∀u,η' k=some u→η (φ k)=some u){cs:List AV}{vs:List Value}(ho:cs.all (ok0 n)=true)(r:B5 η' m cs vs):B5 η m (cs.map (AeT φ)) vs:=
 ⟨by simpa using r.1,fun k c u a b=>by
  simp only[Ame,AlN]at a;obtain⟨c',hc,rfl⟩:=a;exact Acw h (AlW.1 ho c' (Amh hc)) (r.2 k c' u hc b)⟩
theorem Acu (h: ∀k,k<n→∀u,η' k=some u→η (φ k)=some u){a:AV}{v:Value}(ho:okB n a=true)(r:Rel η' m a v):Rel η m (renB φ a) v:=by
 cases a
 case agg cs=>
  obtain⟨vs,rfl,k⟩:=r.agg_inv;have:=UM h ho k;exact .agg this.1 this.2
 all_goals exact Acw h (by exact ho) r
theorem XR (h: ∀k,k<n→∀u,η' k=some u→η (φ k)=some u){a:AV}{v:Value}(ho:okA n a=true)(r:Rel η' m a v):Rel η m (Abg φ a) v:=by
 cases a
 case tup cs=>
  obtain⟨vs,rfl,k⟩:=r.tup_inv;refine .tup (by simpa using k.1) fun i c u a b=> ?_;simp only[Ame,AlN]at a;obtain⟨c',hc,rfl⟩:=a;exact Acu h (AlW.1 ho c' (Amh hc)) (k.2 i c' u hc b)
 case fn f ps cs=>
  simp only[okA,AlD]at ho;obtain⟨us,vs,rfl,h1,h2⟩:=r.fn_inv;have a:=UM h ho.1 h1;have b:=UM h ho.2 h2;exact .fn a.1 b.1 a.2 b.2
 all_goals exact Acu h (by exact ho) r
theorem Acx (h: ∀k,k<n→η (φ k)=η' k){a:AV}{v:Value}(ho:ok0 n a=true)(r:Rel η m (AeT φ a) v):Rel η' m a v:=by
 cases a<;>simp only[ok0,reduceCtorEq]at ho<;>simp only[AeT]at r
 ·exact .d r.dd
 ·exact .any _
 ·cases r; exact .no
 ·obtain⟨b,h1,rfl⟩:=r.pb_inv; exact .pb (by rw[←h _ (Da ho)]; exact h1)
 ·obtain⟨b,h1,rfl⟩:=r.bs_inv; exact .bs (by rw[←h _ (Da ho)]; exact h1)
 ·obtain⟨h1,h2⟩:=r.ow_inv; exact .ow (by rw[←h _ (Da ho)]; exact h1) h2
 ·obtain⟨h1,h2⟩:=r.ab_inv; exact .ab (by rw[←h _ (Da ho)]; exact h1) h2
theorem UN (h: ∀k,k<n→η (φ k)=η' k){cs:List AV}{vs:List Value}(ho:cs.all (ok0 n)=true)(r:B5 η m (cs.map (AeT φ)) vs):B5 η' m cs vs:=
 ⟨by simpa using r.1,fun k c u a b=>Acx h (AlW.1 ho c (Amh a)) (r.2 k (AeT φ c) u (by simp[a]) b)⟩
theorem Acv (h: ∀k,k<n→η (φ k)=η' k){a:AV}{v:Value}(ho:okB n a=true)(r:Rel η m (renB φ a) v):Rel η' m a v:=by
 cases a
 case agg cs=>
  obtain⟨vs,rfl,k⟩:=r.agg_inv;have:=UN h ho k;exact .agg this.1 this.2
 all_goals exact Acx h (by exact ho) r
theorem AjE (h: ∀k,k<n→η (φ k)=η' k){a:AV}{v:Value}(ho:okA n a=true)(r:Rel η m (Abg φ a) v):Rel η' m a v:=by
 cases a
 case tup cs=>
  obtain⟨vs,rfl,k⟩:=r.tup_inv;refine .tup (by simpa using k.1) fun i c u a b=> ?_;exact Acv h (AlW.1 ho c (Amh a)) (k.2 i (renB φ c) u (by simp[a]) b)
 case fn f ps cs=>
  simp only[okA,AlD]at ho;obtain⟨us,vs,rfl,h1,h2⟩:=r.fn_inv;have a:=UN h ho.1 h1;have b:=UN h ho.2 h2;exact .fn a.1 b.1 a.2 b.2
 all_goals exact Acv h (by exact ho) r
theorem UL (h: ∀k,k<n→η (φ k)=η' k){cs:List AV}{vs:List Value}(ho:cs.all (okA n)=true)(r:B5 η m (cs.map (Abg φ)) vs):B5 η' m cs vs:=
 ⟨by simpa using r.1,fun k c u a b=>AjE h (AlW.1 ho c (Amh a)) (r.2 k (Abg φ c) u (by simp[a]) b)⟩
theorem Acs (h: ∀k,k<n→∀u,η' k=some u→η (φ k)=some u){cs:List AV}{vs:List Value}(ho:cs.all (okA n)=true)(r:B5 η' m cs vs):B5 η m (cs.map (Abg φ)) vs:=
 ⟨by simpa using r.1,fun k c u a b=>by
  simp only[Ame,AlN]at a;obtain⟨c',hc,rfl⟩:=a;exact XR h (AlW.1 ho c' (Amh hc)) (r.2 k c' u hc b)⟩
theorem XQ (h: ∀k,k<n→η (φ k)=η' k){o:AObj}{x:PH}(ho:okO n o=true)(r:rep η m (Wl φ o) x):rep η' m o x:=by
 cases o with
 |box nm cs t=>
  simp only[okO,AlD]at ho;obtain⟨b,vs,p,q,z,u⟩:=r;exact⟨b,vs,by rw[←h _ (Da ho.1)]; exact p,UL h ho.2 q,z,u⟩
 |row nm sz α E xs=>
  simp only[okO]at ho;obtain⟨v,cs,p,r⟩:=r;exact⟨v,cs,by rw[←h _ (Da ho)]; exact p,r⟩
 |fr nm d=>
  simp only[okO]at ho;obtain⟨v,p,r⟩:=r;exact⟨v,by rw[←h _ (Da ho)]; exact p,r⟩
 |hp nm d=>
  simp only[okO]at ho;obtain⟨v,p,r⟩:=r;exact⟨v,by rw[←h _ (Da ho)]; exact p,r⟩
theorem XP (h: ∀k,k<n→∀u,η' k=some u→η (φ k)=some u){o:AObj}{x:PH}(ho:okO n o=true)(r:rep η' m o x):rep η m (Wl φ o) x:=by
 cases o with
 |box nm cs t=>
  simp only[okO,AlD]at ho;obtain⟨b,vs,p,q,z,u⟩:=r;exact⟨b,vs,h _ (Da ho.1) _ p,Acs h ho.2 q,z,u⟩
 |row nm sz α E xs=>
  simp only[okO]at ho;obtain⟨v,cs,p,r⟩:=r;exact⟨v,cs,h _ (Da ho) _ p,r⟩
 |fr nm d=>
  simp only[okO]at ho;obtain⟨v,p,r⟩:=r;exact⟨v,h _ (Da ho) _ p,r⟩
 |hp nm d=>
  simp only[okO]at ho;obtain⟨v,p,r⟩:=r;exact⟨v,h _ (Da ho) _ p,r⟩
theorem AjD {o:AObj}{x:PH}(r:rep η m o x): ∃v,η o.nm=some v:=by
 cases o with
 |box=>obtain⟨b,vs,p,_⟩:=r; exact⟨_,p⟩
 |row=>obtain⟨v,cs,p,_⟩:=r; exact⟨_,p⟩
 |fr=>obtain⟨v,p,_⟩:=r; exact⟨_,p⟩
 |hp=>obtain⟨v,p,_⟩:=r; exact⟨_,p⟩
end
abbrev Mt:=List (Nat×Nat)
def mt0:AV→AV→Mt
 | .pb k _,.pb n _=> [(k,n)]
 | .bs k _ _ _,.bs n _ _ _=> [(k,n)]
 | .ow k,.ow n=> [(k,n)]
 | .ab k,.ab n=> [(k,n)]
 |_,_=> []
def mtL (f:AV→AV→Mt):List AV→List AV→Mt
 |e::es,a::as=>f e a++mtL f es as
 |_,_=> []
def mtA:AV→AV→Mt
 | .agg es,.agg as=>mtL mt0 es as
 | .tup es,.tup as=>mtL (fun e a=>match e,a with| .agg es,.agg as=>mtL mt0 es as|e,a=>mt0 e a) es as
 | .fn _ ps cs,.fn _ ps' cs'=>mtL mt0 ps ps'++mtL mt0 cs cs'
 |e,a=>mt0 e a
def MN:Mt→Nat→Nat→Nat
 | [],_,d=>d
 |p::l,k,d=>bif Nat.beq p.1 k then p.2 else MN l k d
def mtO (ob:List Tok):List AObj→Mt→Mt
 | [],m=>m
 | .box k es _::l,m=>(match find (MN m k k) ob with
  |some (_,.box _ cs _)=>mtO ob l (m++mtL mtA es cs)
  |_=>mtO ob l m)
 |_::l,m=>mtO ob l m
def Kg:AObj→D
 | .row _ _ α E xs=> .sl α E xs
 | .fr _ d=>d
 | .box .. => .v undef
 | .hp .. => .v undef
def frD (ob:List Tok)(n:Nat):Option D:=match find n ob with|some (_,.row k _ α E xs)=>bif Nat.beq k n then some (.sl α E xs)else none|some (_,.fr k d)=>bif Nat.beq k n then some d else none|_=>none
def cv1 (ob:List Tok):AV→AV→AV×List Nat
 | .any,_=>(.any,[])
 | .d (.sl α E _),.d (.v (.slice none 0 0))=>(.d (.sl α E []),[])
 | .d _,.ow n=>match frD ob n with
  |some d=>(.d d,[n])
  |none=>(.ow n,[])
 | .d (.op false ds),.d (.v (.pointer none))=>(.d (.op false ds),[])
 | .d (.op true _),.d (.pf ds)=>(.d (.op true ds),[])
 |_,a=>(a,[])
def cvL (ob:List Tok):List AV→List AV→List AV×List Nat
 |e::es,a::as=>let x:=cv1 ob e a; let y:=cvL ob es as; (x.1::y.1,x.2++y.2)
 |_,as=>(as,[])
def cvA (ob:List Tok):AV→AV→AV×List Nat
 | .agg es,.agg as=>let x:=cvL ob es as; (.agg x.1,x.2)
 |e,a=>cv1 ob e a
def cvV (ob:List Tok):List AV→List AV→List AV×List Nat
 |e::es,a::as=>let x:=cvA ob e a; let y:=cvV ob es as; (x.1::y.1,x.2++y.2)
 |_,as=>(as,[])
def cvO (ob:List Tok):AObj→AObj→AObj×List Nat
 | .box _ es _,.box n cs t=>let x:=cvV ob es cs; (.box n x.1 t,x.2)
 |_,a=>(a,[])
def ZO (ob:List Tok):List AObj→List Tok→List AObj×List Nat
 |e::es,p::ps=>let x:=cvO ob e p.2; let y:=ZO ob es ps; (x.1::y.1,x.2++y.2)
 |_,ps=>(ps.map (·.2),[])
def Kn (ob:List Tok)(η:Env)(m:Mem)(ns:List Nat):Prop:= ∀n∈ns,∀d,frD ob n=some d→∃v,η n=some v∧FR m d v
section
variable {ob:List Tok}{η:Env}{m:Mem}
theorem Kn.app {a b:List Nat}(h:Kn ob η m (a++b)):Kn ob η m a∧Kn ob η m b:=⟨fun n hn=>h n (List.mem_append_left _ hn),fun n hn=>h n (List.mem_append_right _ hn)⟩
theorem Aeb {e a:AV}{v:Value}(k:Kn ob η m (cv1 ob e a).2)(r:Rel η m a v):Rel η m (cv1 ob e a).1 v:=by
 unfold cv1 at*;split
 ·exact .any _
 ·cases r with
  |d h=>cases h with
   |v _ _=>exact .d AhV
 ·rename_i n;simp only at k;split at k
  ·rename_i d hd;obtain⟨u,h1,h2⟩:=k n (by simp) d hd;have:=r.ow_inv.1;rw[h1]at this; cases this;exact .d h2
  ·exact r
 ·cases r with
  |d h=>cases h with
   |v _ _=>exact .d .op0
 ·exact .d (.op1 r.dd)
 ·exact r
theorem Ad9: ∀{es as:List AV} {vs:List Value},Kn ob η m (cvL ob es as).2→B5 η m as vs→B5 η m (cvL ob es as).1 vs
 | [],as,vs,_,r=>by unfold cvL; exact r
 |_::_,[],vs,_,r=>by unfold cvL; exact r
 |e::es,a::as,vs,k,r=>by
  obtain⟨v,us,rfl,h1,h2⟩:=r.cons_inv;have k':=Kn.app k;exact .cons (Aeb k'.1 h1) (Ad9 k'.2 h2)
theorem Aea {e a:AV}{v:Value}(k:Kn ob η m (cvA ob e a).2)(r:Rel η m a v):Rel η m (cvA ob e a).1 v:=by
 unfold cvA at*;split
 ·obtain⟨vs,rfl,h⟩:=r.agg_inv;have:=Ad9 k h;exact .agg this.1 this.2
 ·rename_i h;refine Aeb ?_ r;split at k
  ·exact absurd rfl (h _ _ rfl)
  ·exact k
theorem Se: ∀{es as:List AV} {vs:List Value},Kn ob η m (cvV ob es as).2→B5 η m as vs→B5 η m (cvV ob es as).1 vs
 | [],as,vs,_,r=>by unfold cvV; exact r
 |_::_,[],vs,_,r=>by unfold cvV; exact r
 |e::es,a::as,vs,k,r=>by
  obtain⟨v,us,rfl,h1,h2⟩:=r.cons_inv;have k':=Kn.app k;exact .cons (Aea k'.1 h1) (Se k'.2 h2)
theorem Ak4 {e o:AObj}{x:PH}(k:Kn ob η m (cvO ob e o).2)(r:rep η m o x):rep η m (cvO ob e o).1 x:=by
 cases e<;>cases o<;>first|exact r|skip
 obtain⟨b,vs,p,q,z,u⟩:=r;exact⟨b,vs,p,Se k q,z,u⟩
theorem Vp: ∀{es:List AObj} {ps:List Tok} {h:PH} {B:List Ow},Kn ob η m (ZO ob es ps).2→sepL (reps η m ps++B) h→sepL ((ZO ob es ps).1.map (rep η m)++B) h
 | [],ps,h,B,_,S=>by unfold ZO; simpa[reps,List.map_map,Function.comp_def]using S
 |_::_,[],h,B,_,S=>by unfold ZO; simpa[reps]using S
 |e::es,p::ps,h,B,k,⟨h1,h2,a,s,d,x⟩=>by
  have k':=Kn.app k;exact⟨h1,h2,Ak4 k'.1 a,Vp k'.2 s,d,x⟩
end
def Ln:AObj→Bool
 | .row .. =>true
 |_=>false
def WG:AObj→Bool
 | .fr .. =>true
 |_=>false
section
variable {η:Env}{As:List Ow}{w:World}
theorem M7: ∀{ps:List Tok} {m:Mem},ps.all (fun p=>Ln p.2)=true→St m (reps η m ps++As) w→∃m',m≤m'∧(∀p∈ps,∃v,η p.2.nm=some v∧FR m' (Kg p.2) v)∧St m' As w
 | [],m,_,S=>⟨m,Mem.rfl' m,(fun _ h=>by cases h),S⟩
 |(i,.row n sz α E xs)::ps,m,h,S=>by
  obtain⟨v,cs,h1,h2,h3,h4,S1⟩:=St.openRow S;letI:=QO E sz;obtain⟨m1,l1,h5,S2⟩:=St.rowKeepT (i:=0) S1 rfl (Aat h3 h4) rfl;have S3:=St.ru (l:=ps) Env.le_refl l1 S2;obtain⟨m2,l2,h6,S4⟩:=M7 (ps:=ps) (by simp only[Amt,AlD]at h; exact h.2) S3;refine⟨m2,Mem.tr l1 l2,fun p hp=> ?_,S4⟩;rcases Al6.1 hp with q|q
  ·subst q; exact⟨v,h1,(V5 h5).up l2⟩
  ·exact h6 p q
 |(i,.box ..)::ps,m,h,S=>by simp[Ln]at h
 |(i,.fr ..)::ps,m,h,S=>by simp[Ln]at h
 |(i,.hp ..)::ps,m,h,S=>by simp[Ln]at h
theorem PM: ∀{ps:List Tok} {m:Mem},ps.all (fun p=>WG p.2)=true→St m (reps η m ps++As) w→(∀p∈ps,∃v,η p.2.nm=some v∧FR m (Kg p.2) v)∧St m As w
 | [],m,_,S=>⟨(fun _ h=>by cases h),S⟩
 |(i,.fr n d)::ps,m,h,S=>by
  obtain⟨⟨v,h1,h2⟩,S1⟩:=St.openFr S;obtain⟨h3,S2⟩:=PM (ps:=ps) (by simp only[Amt,AlD]at h; exact h.2) S1;refine⟨fun p hp=> ?_,S2⟩;rcases Al6.1 hp with q|q
  ·subst q; exact⟨v,h1,h2⟩
  ·exact h3 p q
 |(i,.box ..)::ps,m,h,S=>by simp[WG]at h
 |(i,.row ..)::ps,m,h,S=>by simp[WG]at h
 |(i,.hp ..)::ps,m,h,S=>by simp[WG]at h
def Sw:List Tok→List AObj
 | []=> []
 |p::l=> .fr p.2.nm (Kg p.2)::Sw l
theorem Nw {m:Mem}: ∀{ps:List Tok},(∀p∈ps,∃v,η p.2.nm=some v∧FR m (Kg p.2) v)→St m As w→St m ((Sw ps).map (rep η m)++As) w
 | [],_,S=>S
 |p::ps,h,S=>by
  obtain⟨v,h1,h2⟩:=h p AlZ;exact St.closeFr h1 h2 (Nw (fun q hq=>h q (Al4 _ hq)) S)
theorem O5 {m:Mem}: ∀{ps:List Tok},ps.all (fun p=>WG p.2)=true→(∀p∈ps,∃v,η p.2.nm=some v∧FR m (Kg p.2) v)→St m As w→St m (reps η m ps++As) w
 | [],_,_,S=>S
 |(i,.fr n d)::ps,k,h,S=>by
  obtain⟨v,h1,h2⟩:=h _ AlZ;exact St.closeFr h1 h2 (O5 (by simp only[Amt,AlD]at k; exact k.2) (fun q hq=>h q (Al4 _ hq)) S)
 |(i,.box ..)::ps,k,h,S=>by simp[WG]at k
 |(i,.row ..)::ps,k,h,S=>by simp[WG]at k
 |(i,.hp ..)::ps,k,h,S=>by simp[WG]at k
end
def L7 (ob:List Tok):List Nat→List Nat→List Tok
 | [],_=> []
 |n::ns,seen=>bif Fe n seen then L7 ob ns seen else match find n ob with
  |some p=>p::L7 ob ns (n::seen)
  |none=>L7 ob ns (n::seen)
structure Ae3:Type 1 where
 k:FuncId
 as:List AV
 objs:List AObj
 ut:List Tok
 fw:List Tok
 fr:List Tok
 mt:Mt
def AgT (ob:List Tok)(mt:Mt):List AObj→Option (List Tok)
 | []=>some []
 |o::l=>match find (MN mt o.nm o.nm) ob,AgT ob mt l with
  |some p,some r=>some (p::r)
  |_,_=>none
def Wp (ob:List Tok)(k:FuncId)(as ea:List AV)(eobs:List AObj):Option Ae3:=
 let mt:=mtO ob eobs (mtO ob eobs (mtL mtA ea as))
 match AgT ob mt eobs with
 |some ut=>
  let c:=cvV ob ea as
  let o:=ZO ob eobs ut
  let ts:=L7 ob (c.2++o.2) []
  some ⟨k,c.1,o.1,ut,ts.filter (fun p=>Ln p.2),ts.filter (fun p=> !Ln p.2),mt⟩
 |none=>none
def AcL (cf:Cf)(ea:List AV)(eobs:List AObj):Option Ae3:=
 match Hf cf with
 |some a=>match a.g,a.o.op with
  |none,.call c=>match Vx cf.s.fz a.sl c with
   |some (k,as)=>Wp cf.s.ob k as ea eobs
   |none=>none
  |_,_=>none
 |none=>none
def ZR (ns:List Nat):Nat→Bool
 |0=>true
 |n+1=>Fe n ns&&ZR ns n
theorem W3 {ns:List Nat}: ∀{n:Nat},ZR ns n=true→∀j,j<n→j∈ns
 |0,_,j,h=>by omega
 |n+1,h,j,hj=>by
  simp only[ZR,AlD]at h;by_cases e:j=n
  ·subst e; exact Gh.1 h.1
  ·exact W3 h.2 j (by omega)
def Ado (ob:List Tok)(ts:List Tok):List Nat→Bool
 | []=>true
 |n::ns=>(match find n ob with|some p=>Fe p.1 (tids ts)&&Nat.beq p.2.nm n|none=>true)&&Ado ob ts ns
def AhR (ob:List Tok)(p:Ae3)(ea:List AV)(eobs:List AObj)(n0:Nat):Bool:=ea.all (okA n0)&&(eobs.all (okO n0)&&(X2 (tids ((p.ut++p.fw)++p.fr))&&(ZR (eobs.map (·.nm)) n0&&(p.fr.all (fun p=>WG p.2)&&(p.fw.all (fun p=>Ln p.2)&&true)))))
def bk (φ:Nat→Nat)(nx n0:Nat):Nat→Nat:=fun j=>bif Nat.blt j n0 then φ j else nx+(j-n0)
def stpC (s:AS)(p:Ae3)(n0:Nat)(r:AV)(obs':List AObj)(n1:Nat):Stp:=
 let φ:=bk (fun j=>MN p.mt j 0) s.nx n0
 let md:=obs'.map (Wl φ)++Sw p.fw
 ⟨Abg φ r,p.fr,p.ut++p.fw,enO (s.nx+(n1-n0)) md,s.nx+(n1-n0)+md.length,[]⟩
def AfE (N:Nat)(cf:Cf)(ea:List AV)(eobs:List AObj)(n0:Nat)(r:AV)(obs':List AObj)(n1:Nat):Cf:=match AcL cf ea eobs with|some p=>push N cf (stpC cf.s p n0 r obs' n1)|none=>cf
def Ahe (cf:Cf)(ea:List AV)(eobs:List AObj)(n0:Nat):Option (FuncId×List AV×List AObj×Bool):=match AcL cf ea eobs with|some p=>some (p.k,p.as,p.objs,AhR cf.s.ob p ea eobs n0)|none=>none
def YC (cf:Cf)(ea:List AV)(eobs:List AObj):List AV×List AObj:=match AcL cf ea eobs with|some p=>(ea.map (Abg fun j=>MN p.mt j 0),eobs.map (Wl fun j=>MN p.mt j 0))|none=>([],[])
theorem Ij {ob:List Tok}: ∀{ns seen:List Nat} {p:Tok},p∈L7 ob ns seen→p∈ob
 | [],_,_,h=>by cases h
 |n::ns,seen,p,h=>by
  unfold L7 at h;cases hb:Fe n seen
  ·rw[hb]at h;simp only[cond_false]at h;split at h
   ·rename_i q hq;rcases Al6.1 h with e|e
    ·subst e; exact Fw hq
    ·exact Ij e
   ·exact Ij h
  ·rw[hb]at h; exact Ij h
theorem K4 {ob:List Tok}{n:Nat}{p:Tok}(hf:find n ob=some p): ∀{ns seen:List Nat},n∈ns→Fe n seen=false→p∈L7 ob ns seen
 | [],_,h,_=>by cases h
 |a::ns,seen,h,hs=>by
  unfold L7;by_cases e:n=a
  ·subst e;rw[hs];simp only[cond_false,hf];exact AlZ
  ·have h':n∈ns:=by
    rcases Al6.1 h with q|q
    ·exact absurd q e
    ·exact q
   have hs':Fe n (a::seen)=false:=by
    unfold Fe;rw[Gw.beq_ne (Ne.symm e)]; exact hs
   cases hb:Fe a seen
   ·simp only[cond_false];split
    ·exact Al4 _ (K4 hf h' hs')
    ·exact K4 hf h' hs'
   ·exact K4 hf h' hs
theorem R9 {ob:List Tok}{mt:Mt}: ∀{es:List AObj} {ps:List Tok},AgT ob mt es=some ps→∀p∈ps,p∈ob
 | [],ps,h,p,hp=>by cases h; cases hp
 |e::es,ps,h,p,hp=>by
  unfold AgT at h;split at h
  ·rename_i a b h1 h2; cases h;rcases Al6.1 hp with q|q
   ·subst q; exact Fw h1
   ·exact R9 h2 p q
  ·cases h
theorem R8 {n:Nat}: ∀{l:List Tok} {q:Tok},find n l=some q→q.2.nm=n
 | [],_,h=>by cases h
 |p::l,q,h=>by
  unfold find at h;cases hb:Nat.beq p.2.nm n
  ·rw[hb]at h; exact R8 h
  ·rw[hb]at h; cases h; exact AlF hb
theorem O1 {ob:List Tok}{n:Nat}{d:D}(h:frD ob n=some d): ∃p,find n ob=some p∧Kg p.2=d∧(Ln p.2=true∨WG p.2=true)∧p.2.nm=n:=by
 unfold frD at h;split at h
 ·rename_i i k sz α E xs hf;cases hb:Nat.beq k n
  ·rw[hb]at h; cases h
  ·rw[hb]at h; cases h; exact⟨_,hf,rfl,.inl rfl,R8 hf⟩
 ·rename_i i k d' hf;cases hb:Nat.beq k n
  ·rw[hb]at h; cases h
  ·rw[hb]at h; cases h; exact⟨_,hf,rfl,.inr rfl,R8 hf⟩
 ·cases h
theorem Ys {η:Env}{m:Mem}{As:List Ow}{w:World}: ∀{os:List AObj},St m (os.map (rep η m)++As) w→∀o∈os,∃v,η o.nm=some v
 | [],_,_,h=>by cases h
 |a::os,S,o,h=>by
  obtain⟨x,⟨h1,h2,ha,hs,d,e⟩,d1,g,g',nd⟩:=S.own;rcases Al6.1 h with q|q
  ·subst q; exact AjD ha
  ·have S2:St m (os.map (rep η m)++(rep η m a::As)) w:=S.perm List.perm_middle.symm;exact Ys S2 o q
section
variable {ρ:Option Nat}{P:Program}{N:Nat}{D0:Dw}{Q:DQ}{As:List Ow}{η0:Env}{m0:Mem}
theorem El {cf:Cf}{a:Ahn}{r:Stp}(ha:Hf cf=some a)(hg:a.g=none)(ht:Tri ρ P N D0 a.l.toArray a.o cf.s.fz a.sl cf.s.nx r)(hs:L3 cf.s r)(g:Go ρ P N D0 Q As η0 m0 (push N cf r)):Go ρ P N D0 Q As η0 m0 cf:=by
 obtain⟨s,md,K⟩:=cf;unfold Hf at ha;split at ha<;>first|cases ha|skip
 rename_i dr l o rest h hmd;simp only at hmd; subst hmd;split at ha
 ·rename_i hgd;cases ha;refine LW ?_ hs g;have hr:rds l.toArray o=opT o.op:=by simp[rds,hgd]
  rw[hr]; exact ht
 ·rename_i j w hgd;split at ha
  ·cases ha
  ·rename_i gs hd;split at ha
   ·rename_i v' hk;cases hb:Aba v' w
    ·rw[hb]at ha; cases ha
    ·rw[hb]at ha;simp only[cond_true]at ha;cases ha;exact LW (YR hgd hd hk hb ht) hs g
   split at ha
   ·cases ha
   ·cases ha; cases hg
theorem B0 {cf:Cf}{a:Ahn}(ha:Hf cf=some a)(hg:a.g=none):a.o.guard=none:=by
 unfold Hf at ha;split at ha<;>first|cases ha|skip
 split at ha
 ·rename_i hh; cases ha; exact hh
 ·rename_i j w hgd;split at ha
  ·cases ha
  ·split at ha
   ·rename_i v' hk;cases hb:Aba v' w
    ·rw[hb]at ha; cases ha
    ·rw[hb]at ha;simp only[cond_true]at ha;cases ha; rfl
   split at ha
   ·cases ha
   ·cases ha; cases hg
theorem gco {cf:Cf}{k:FuncId}{ea:List AV}{eobs obs':List AObj}{n0 n1:Nat}{r:AV}(hs:Sp P k ea eobs n0 (is r obs' n1))(g:Go ρ P N D0 Q As η0 m0 (AfE N (aC P N cf) ea eobs n0 r obs' n1))
  (e:(Ahe (aC P N cf) ea eobs n0,okA n1 r&&(obs'.all (okO n1)&&Nat.ble n0 n1),(aL P N cf))=
   (some (k,(YC (aC P N cf) ea eobs).1,(YC (aC P N cf) ea eobs).2,true),true,(aR P N cf)):=by kernel_rfl) (hm:P.follows .mixedOrders=true:=by rfl):Go ρ P N D0 Q As η0 m0 cf:=by
 simp only[AlE]at e;obtain⟨e1,e2,e3⟩:=e;obtain⟨he1,-⟩:=KV e3;refine A2 hm he1 ?_;generalize aC P N cf=c0 at*;unfold Ahe YC at e1;unfold AfE at g;cases hp:AcL c0 ea eobs with
 |none=>rw[hp]at e1; cases e1
 |some p=>
  rw[hp]at e1 g;simp only[AlJ,AlE]at e1 g;obtain⟨ek,eas,eobj,eok⟩:=e1;unfold AcL at hp;split at hp
  ·rename_i a ha;split at hp
   ·rename_i c hg hop;split at hp
    ·rename_i k' as hc;unfold Wp at hp;simp only at hp;split at hp
     ·rename_i ut hut;have hplan:=AlC hp;clear hp;have pk':p.k=k':=by rw[←hplan]
      have pas:p.as=(cvV c0.s.ob ea as).1:=by rw[←hplan]
      have pobj:p.objs=(ZO c0.s.ob eobs ut).1:=by rw[←hplan]
      have put:p.ut=ut:=by rw[←hplan]
      have pfw:p.fw=(L7 c0.s.ob ((cvV c0.s.ob ea as).2++(ZO c0.s.ob eobs ut).2) []).filter (fun p=>Ln p.2):=by rw[←hplan]
      have pfr:p.fr=(L7 c0.s.ob ((cvV c0.s.ob ea as).2++(ZO c0.s.ob eobs ut).2) []).filter (fun p=> !Ln p.2):=by rw[←hplan]
      clear hplan;simp only[AhR,AlD]at eok;obtain⟨o1,o2,o3,o4,o5,o6,-⟩:=eok;simp only[AlD]at e2;obtain⟨x1,x2,x3⟩:=e2;have x3:=AlS x3;have hnd:=I0 o3;have hS:=hs.2;subst ek;refine El ha hg ?_ ?_ g
      ·
        have hgd0:=B0 ha hg;obtain⟨l,⟨dst,op,ty,pos,af,gd⟩,gg,sl,es⟩:=a;simp only at hgd0;simp only at hop hg; subst hop hg;have hgd:gd=none:=hgd0;subst hgd;refine⟨by show c0.s.nx≤c0.s.nx+(n1-n0)+_; omega,fun rest Q η m f w As hr hz hn S hk=> ?_⟩;simp only[stpC]at S hk hn⊢;rw[BB,BB,AlP,AlP]at S;have S1:=S.perm (AlR (reps η m p.ut) (reps η m p.fw) _);obtain⟨m1,l1,K1,S2⟩:=M7 o6 S1;have S3:=St.ru Env.le_refl l1 S2;have S4:=S3.perm (AlR (reps η m1 p.ut) (reps η m p.fr) _);have S5:=St.ru Env.le_refl l1 S4;obtain⟨K2,S6⟩:=PM o5 S5;have KN:Kn c0.s.ob η m1 ((cvV c0.s.ob ea as).2++(ZO c0.s.ob eobs ut).2):=by
         intro j hj d hd;obtain⟨q,hf,hq,hrf,hnm⟩:=O1 hd;have hmem:=K4 hf hj (seen:=[]) rfl;rcases hrf with h|h
         ·have:q∈p.fw:=by rw[pfw]; simp only[List.mem_filter]; exact⟨hmem,h⟩
          obtain⟨v,y1,y2⟩:=K1 q this;rw[hnm]at y1; rw[hq]at y2; exact⟨v,y1,y2⟩
         ·have:q∈p.fr:=by
           rw[pfr]; simp only[List.mem_filter];refine⟨hmem,?_⟩;cases hq2:q.2<;>rw[hq2]at h<;>first|rfl|cases h
          obtain⟨v,y1,y2⟩:=K2 q this;rw[hnm]at y1; rw[hq]at y2; exact⟨v,y1,y2⟩
        obtain⟨kn1,kn2⟩:=Kn.app KN;have S7:St m1 (p.objs.map (rep η m1)++As) w:=by
         rw[pobj];rw[put]at S6;obtain⟨x,sx,rx⟩:=S6.own;exact⟨S6.os,S6.tape,S6.output,x,Vp kn2 sx,rx⟩
        let φ:Nat→Nat:=fun j=>MN p.mt j 0;let η1:Env:=fun j=>if j<n0 then η (φ j)else none;have hη1: ∀j,j<n0→η (φ j)=η1 j:=fun j hj=>(AlH hj).symm;have S8:St m1 (eobs.map (rep η1 m1)++As) w:=by
         rw[eobj]at S7;refine S7.imp (by simp) fun i A B ha hb x hx=> ?_;rw[List.getElem?_append]at ha hb;simp only[Amo]at ha hb;split at ha
         ·rename_i q;rw[AlH q]at hb;simp only[Ame,AlN]at ha hb;obtain⟨o',⟨o,ho,rfl⟩,rfl⟩:=ha;obtain⟨o2',ho',rfl⟩:=hb;rw[ho]at ho'; cases ho';exact XQ hη1 (AlW.1 o2 o (Amh ho)) hx
         ·rename_i q;rw[AlG q]at hb;rw[ha]at hb; cases hb; exact hx
        have hdef: ∀j,j<n0→∃v,η1 j=some v:=fun j hj=>by
         have:=W3 o4 j hj;simp only[List.mem_map]at this;obtain⟨o,ho,rfl⟩:=this;exact Ys S8 o ho
        refine TU (η:=η) (m:=m) hc (by rw[←pk']; exact hs.1) hr hz (fun vs hv=> ?_) (R:=fun v w'=> ∃(M:Mem) (η':Env) (r':AV) (obs2:List AObj) (n2:Nat),m1≤M∧η1.le η'∧is r obs' n1 r' obs2 n2∧(∀n,η' n≠none→n<n2)∧Rel η' M r' v∧St M (obs2.map (rep η' M)++As) w') ?_
        ·rw[←pk'];have:=Se kn1 (hv.up Env.le_refl l1);rw[←pas,eas]at this;exact hS η1 m1 As w vs (UL hη1 o1 this) (fun j hj=>by
          by_cases q:j<n0
          ·exact q
          ·exact absurd (AlG q) hj) S8
        ·rintro v w2 ⟨M,η',r',obs2,n2,l2,le,⟨rfl,rfl,rfl⟩,hdom,hR,S9⟩;let η2:Env:=fun c=>if c0.s.nx≤c∧c<c0.s.nx+(n2-n0)then η' (n0+(c-c0.s.nx))else η c;have hle:η.le η2:=fun c u hu=>by
          show(if _ then _ else _)=_;split
          ·rename_i q;have:=hn c q.1 (by omega);rw[this]at hu; cases hu
          ·exact hu
         have hbk: ∀j,j<n2→∀u,η' j=some u→η2 (bk φ c0.s.nx n0 j)=some u:=by
          intro j hj u hu;unfold bk;cases hb:Nat.blt j n0
          ·have hge:n0≤j:=by
            rcases Nat.lt_or_ge j n0 with q|q
            ·have:Nat.blt j n0=true:=by simp[Nat.blt_eq,q]
             rw[hb]at this; cases this
            ·exact q
           simp only[cond_false];show(if _ then _ else _)=_;rw[AlH ⟨by omega,by omega⟩];have:n0+(c0.s.nx+(j-n0)-c0.s.nx)=j:=by omega
           rw[this]; exact hu
          ·have hlt:=Da hb;simp only[cond_true];obtain⟨u0,hu0⟩:=hdef j hlt;have:=le j u0 hu0;rw[hu]at this; cases this;have h1:η (φ j)=some u:=by rw[hη1 j hlt]; exact hu0
           exact hle _ _ h1
         refine hk η2 M w2 v hle (Mem.tr l1 l2) (fun c hc2=> ?_) (XR hbk x1 hR) ?_
         ·have:(if c0.s.nx≤c∧c<c0.s.nx+(n2-n0)then η' (n0+(c-c0.s.nx))else η c)≠none:=hc2;split at this
          ·rename_i q; exact .inr ⟨q.1,by omega⟩
          ·exact .inl this
         ·rw[BB,AlP,KE,Amq,AlP];have T1:St M ((obs2.map (Wl (bk φ c0.s.nx n0))).map (rep η2 M)++As) w2:=by
           refine S9.imp (by simp) fun i A B ha hb x hx=> ?_;rw[List.getElem?_append]at ha hb;simp only[Amo]at ha hb;split at ha
           ·rename_i q;rw[AlH q]at hb;simp only[Ame,AlN]at ha hb;obtain⟨o,ho,rfl⟩:=ha;obtain⟨o2',⟨o',ho',rfl⟩,rfl⟩:=hb;rw[ho]at ho'; cases ho';exact XP hbk (AlW.1 x2 o (Amh ho)) hx
           ·rename_i q;rw[AlG q]at hb;rw[ha]at hb; cases hb; exact hx
          have F1: ∀q∈p.fw,∃v,η2 q.2.nm=some v∧FR M (Kg q.2) v:=fun q hq=>let ⟨v,a,b⟩:=K1 q hq; ⟨v,hle _ _ a,b.up l2⟩;have F2: ∀q∈p.fr,∃v,η2 q.2.nm=some v∧FR M (Kg q.2) v:=fun q hq=>let ⟨v,a,b⟩:=K2 q hq; ⟨v,hle _ _ a,b.up l2⟩;have T2:=Nw F1 (O5 o5 F2 T1);refine T2.perm ?_;exact(Al7 _ (AlR _ _ _)).trans (AlR _ _ _)
      ·
        refine⟨fun q hq=> ?_,?_,?_,fun t ht=> ?_⟩
        ·simp only[stpC]at hq;rcases Al5.1 hq with h|h
         ·rcases Al5.1 h with h|h
          ·rw[put]at h; exact R9 hut q h
          ·rw[pfw]at h; exact Ij (List.mem_filter.1 h).1
         ·rw[pfr]at h; exact Ij (List.mem_filter.1 h).1
        ·exact hnd
        ·simp only[stpC]; rw[GF]; exact List.nodup_range'
        ·simp only[stpC]at ht⊢;rw[GF,List.mem_range']at ht;obtain⟨i,hi,rfl⟩:=ht;omega
     ·cases hp
    ·cases hp
   ·cases hp
  ·cases hp
end
def AjC (ob:List Tok):AV→Option (D×List Tok)
 | .d d=>some (d,[])
 | .ow n=>match find n ob with
  |some (i,.fr k d)=>bif Nat.beq k n then some (d,[(i,.fr k d)])else none
  |_=>none
 |_=>none
theorem XO {ob:List Tok}{a:AV}{d:D}{ts:List Tok}(h:AjC ob a=some (d,ts)){η:Env}{m:Mem}{As:List Ow}{w:World}{v:Value}(S:St m (reps η m ts++As) w)(r:Rel η m a v):FR m d v:=by
 unfold AjC at h;split at h
 ·cases h; exact r.dd
 ·rename_i n;split at h
  ·rename_i i k d' hf;cases hb:Nat.beq k n
   ·rw[hb]at h; cases h
   ·rw[hb]at h; cases h;have:=AlF hb; subst this;obtain⟨⟨u,h1,h2⟩,_⟩:=St.openFr S;have:=r.ow_inv.1;rw[h1]at this; cases this; exact h2
  ·cases h
 ·cases h
theorem UK {ob:List Tok}{a:AV}{d:D}{ts:List Tok}(h:AjC ob a=some (d,ts)):(∀p∈ts,p∈ob)∧(tids ts).Nodup:=by
 unfold AjC at h;split at h
 ·cases h; exact⟨fun _ h=>(by cases h),List.nodup_nil⟩
 ·split at h
  ·rename_i i k d' hf;cases hb:Nat.beq k _
   ·rw[hb]at h; cases h
   ·rw[hb]at h; cases h;exact⟨fun p hp=>by simp at hp; subst hp; exact Fw hf,by simp[tids]⟩
  ·cases h
 ·cases h
def CV (N:Nat)(cf:Cf)(v:AV)(rd:List Tok):Cf:=
 match Hf cf with
 |some a=>match a.g with
  |none=>push N cf ⟨v,rd,[],[],cf.s.nx,[]⟩
  |some (g,w,p)=>push N cf ⟨.gd g w p v,rd,[],[],cf.s.nx,[]⟩
 |none=>cf
section
variable {ρ:Option Nat}{P:Program}{N:Nat}{D0:Dw}{Q:DQ}{As:List Ow}{η0:Env}{m0:Mem}
theorem Acy {s:AS}{v:AV}{es:Eqs}{rd:List Tok}(h:(∀p∈rd,p∈s.ob)∧(tids rd).Nodup):L3 s ⟨v,rd,[],[],s.nx,es⟩:=⟨fun x hx=>h.1 x (by simpa using hx),by simpa using h.2,by simp[tids],fun t ht=>by simp[tids]at ht⟩
theorem DW {cf:Cf}{a:Ahn}{v:AV}{rd:List Tok}(ha:Hf cf=some a)(he:EqsOk a.es)(hrd:(∀p∈rd,p∈cf.s.ob)∧(tids rd).Nodup)
  (ht:(∀q,a.g=some q→q.2.2=true)→Tri ρ P N D0 a.l.toArray {a.o with guard:=none} cf.s.fz a.sl cf.s.nx ⟨v,rd,[],[],cf.s.nx,[]⟩)
  (g:Go ρ P N D0 Q As η0 m0 (CV N cf v rd)):Go ρ P N D0 Q As η0 m0 cf:=by
 obtain⟨s,md,K⟩:=cf;have ha0:=ha;unfold Hf at ha;split at ha<;>first|cases ha|skip
 rename_i dr l o rest h hmd;simp only at hmd; subst hmd;split at ha
 ·rename_i hg;cases ha;have e:{o with guard:=none}=o:=by obtain⟨a,b,c,d,e,f⟩:=o; simp only at hg; subst hg; rfl
  rw[show CV N ⟨s,.ops dr l (o::rest) h,K⟩ v rd=push N ⟨s,.ops dr l (o::rest) h,K⟩ ⟨v,rd,[],[],s.nx,[]⟩ by unfold CV; rw[ha0]]at g;refine LW ?_ (Acy hrd) g;have hr:rds l.toArray o=opT o.op:=by simp[rds,hg]
  rw[hr];have:=ht (fun q hq=>by cases hq);rw[e]at this;exact this
 ·rename_i j w hg;split at ha
  ·cases ha
  ·rename_i gs hd;split at ha
   ·rename_i v' hk;cases hb:Aba v' w
    ·rw[hb]at ha; cases ha
    ·rw[hb]at ha;simp only[cond_true]at ha;cases ha;rw[show CV N ⟨s,.ops dr l (o::rest) h,K⟩ v rd=push N ⟨s,.ops dr l (o::rest) h,K⟩ ⟨v,rd,[],[],s.nx,[]⟩ by unfold CV; rw[ha0]]at g;exact LW (YR hg hd hk hb (ht (fun q hq=>by cases hq))) (Acy hrd) g
   split at ha
   ·cases ha
   ·rename_i p ctx hi;cases ha;rw[show CV N ⟨s,.ops dr l (o::rest) h,K⟩ v rd=push N ⟨s,.ops dr l (o::rest) h,K⟩ ⟨.gd gs w p v,rd,[],[],s.nx,[]⟩ by unfold CV; rw[ha0]]at g;refine LW ?_ (Acy hrd) g;exact Aht (Rf hg hd hi he fun hp=>ht fun q hq=>by cases hq; exact hp)
theorem Ma {cf:Cf}{a:Ahn}(ha:Hf cf=some a)(h: ∀q,a.g=some q→q.2.2=true):gOf cf=true:=by
 unfold gOf; rw[ha];obtain⟨l,o,gg,sl,es⟩:=a;cases gg with
 |none=>rfl
 |some q=>exact h q rfl
theorem DX {cf:Cf}{a:Ahn}(ha:Hf cf=some a):Yn cf=a.es:=by unfold Yn; rw[ha]
def Akq (P:Program)(cf:Cf):Option (D×Int×Nat×List Tok):=
 match Hf cf with
 |some a=>match a.o.op with
  | .indexAddr t x y=>match AjC cf.s.ob (aev a.sl x),Pf a.sl y,P.underlying t with
   |some (d,ts),some (_,j),some (.slice e)=>match J7 P e with
    |some i=>some (d,j,i.sz,ts)
    |none=>none
   |_,_,_=>none
  |_=>none
 |none=>none
def idxT (P:Program)(cf:Cf):List Tok:=match Akq P cf with|some (_,_,_,ts)=>ts|none=> []
theorem gidx {k:Nat}{cf:Cf}{α:Type}{E:α→List D}{xs:List α}{j:Int}{x:α}(hE: ∀x,(E x).length=k)(hq:gOf (aC P N cf)=true→idx xs j=some x)(g:Go ρ P N D0 Q As η0 m0 (CV N (aC P N cf) (.d (.pf (E x))) (idxT P (aC P N cf))))
  (e:((Akq P (aC P N cf)).map (fun r=>(r.1,r.2.1,r.2.2.1)),(aL P N cf))=(some (.sl α E xs,j,k),(aR P N cf)):=by kernel_rfl) (hm:P.follows .mixedOrders=true:=by rfl):Go ρ P N D0 Q As η0 m0 cf:=by
 simp only[AlE]at e;obtain⟨e1,e3⟩:=e;obtain⟨he1,he2⟩:=KV e3;refine A2 hm he1 ?_;generalize aC P N cf=c0 at*;cases hk:Akq P c0 with
 |none=>rw[hk]at e1; cases e1
 |some r=>
  have hT:idxT P c0=r.2.2.2:=by unfold idxT; rw[hk]
  rw[hT]at g;rw[hk]at e1;simp only[AlV,AlJ,AlE]at e1;obtain⟨e1,e2,e4⟩:=e1;unfold Akq at hk;split at hk
  ·rename_i a ha;rw[DX ha]at he2;split at hk
   ·rename_i t x' y hop;split at hk
    ·rename_i d ts kk jj e' h1 h2 h3;split at hk
     ·rename_i i hi;cases hk;simp only at e1 e2 e4 g;subst e1 e2;refine DW ha he2 (UK h1) (fun hp=> ?_) g;have q:=hq (Ma ha hp);obtain⟨l,⟨dst,op,ty,pos,af,gd⟩,gg,sl,es⟩:=a;simp only at hop⊢; subst hop;refine⟨AlK _,fun rest Q η m f w As hr hz hn S hk=> ?_⟩;have S':St m (reps η m ts++As) w:=S;have hf:=XO h1 S' (Aq hr x');letI:=QO E k;refine s_idx (q:=x) rfl (B7 h2 hr) (X1 hf hE) q h3 (by rw[←e4]; exact B8 hi) fun p cs hp hrep=> ?_;exact hk η m w p Env.le_refl (Mem.rfl' m) (fun n h=> .inl h) (.d (.pf hp (PtC.isPt hp) hrep.1.1 hrep.1.2)) S
     ·cases hk
    ·cases hk
   ·cases hk
  ·cases hk
def dlen:D→Int
 | .sl _ _ xs=>(xs.length:Int)
 |_=>0
def cutK (P:Program)(cf:Cf):Option (D×Int×Int×Int×Nat×List Tok):=
 match Hf cf with
 |some a=>match a.o.op with
  | .slice t x lo hi mx=>match AjC cf.s.ob (aev a.sl x),P.underlying t with
   |some (d,ts),some (.slice e)=>match J7 P e with
    |some i=>
     let l:Option Int:=match lo with|none=>some 0|some o=>(Pf a.sl o).map (·.2)
     let h:Option Int:=match hi with|none=>some (dlen d)|some o=>(Pf a.sl o).map (·.2)
     let m:Option Int:=match mx with|none=>h|some o=>match hi with|none=>none|some _=>(Pf a.sl o).map (·.2)
     match l,h,m with
     |some l,some h,some m=>some (d,l,h,m,i.sz,ts)
     |_,_,_=>none
    |none=>none
   |_,_=>none
  |_=>none
 |none=>none
def cutT (P:Program)(cf:Cf):List Tok:=match cutK P cf with|some (_,_,_,_,_,ts)=>ts|none=> []
theorem gcut {k:Nat}{cf:Cf}{α:Type}{E:α→List D}{xs ys:List α}{lo hi:Int}(hE: ∀x,(E x).length=k)(hq:gOf (aC P N cf)=true→cut xs lo hi=some ys)(g:Go ρ P N D0 Q As η0 m0 (CV N (aC P N cf) (.d (.sl α E ys)) (cutT P (aC P N cf))))
  (e:((cutK P (aC P N cf)).map (fun r=>(r.1,r.2.1,r.2.2.1,r.2.2.2.1,r.2.2.2.2.1)),(aL P N cf))=(some (.sl α E xs,lo,hi,hi,k),(aR P N cf)):=by kernel_rfl) (hm:P.follows .mixedOrders=true:=by rfl):Go ρ P N D0 Q As η0 m0 cf:=by
 simp only[AlE]at e;obtain⟨e1,e3⟩:=e;obtain⟨he1,he2⟩:=KV e3;refine A2 hm he1 ?_;generalize aC P N cf=c0 at*;cases hk:cutK P c0 with
 |none=>rw[hk]at e1; cases e1
 |some r=>
  have hT:cutT P c0=r.2.2.2.2.2:=by unfold cutT; rw[hk]
  rw[hT]at g;rw[hk]at e1;simp only[AlV,AlJ,AlE]at e1;obtain⟨e1,e2,e4,e5,e6⟩:=e1;unfold cutK at hk;split at hk
  ·rename_i a ha;rw[DX ha]at he2;split at hk
   ·rename_i t x' lo' hi' mx' hop;split at hk
    ·rename_i d ts e' h1 h3;split at hk
     ·rename_i i hti;simp only at hk;split at hk
      ·rename_i l h m hl hh hmm;cases hk;simp only at e1 e2 e4 e5 e6 g;subst e1 e2 e4 e5;refine DW ha he2 (UK h1) (fun hp=> ?_) g;have q:=hq (Ma ha hp);obtain⟨ll,⟨dst,op,ty,pos,af,gd⟩,gg,sl,es⟩:=a;simp only at hop hl hh hmm⊢; subst hop;refine⟨AlK _,fun rest Q η m' f w As hr hz hn S hk=> ?_⟩;have S':St m' (reps η m' ts++As) w:=S;have hf:=XO h1 S' (Aq hr x');letI:=QO E k;refine Afv rfl (X1 hf hE) h3 (by rw[←e6]; exact B8 hti) ?_ ?_ ?_ q fun v' hv'=>hk η m' w v' Env.le_refl (Mem.rfl' m') (fun n h=> .inl h) (.d (V5 hv')) S
       ·cases lo' with
        |none=>simp only[AlJ]at hl; exact .inl ⟨rfl,hl.symm⟩
        |some o=>
         simp only[AlN]at hl;obtain⟨⟨kk,jj⟩,hj,rfl⟩:=hl;exact .inr ⟨kk,by simp only[AlV]; rw[B7 hj hr]⟩
       ·cases hi' with
        |none=>simp only[AlJ]at hh; exact .inl ⟨rfl,hh.symm⟩
        |some o=>
         simp only[AlN]at hh;obtain⟨⟨kk,jj⟩,hj,rfl⟩:=hh;exact .inr ⟨kk,by simp only[AlV]; rw[B7 hj hr]⟩
       ·cases mx' with
        |none=>exact .inl rfl
        |some o=>
         cases hi' with
         |none=>simp at hmm
         |some o2=>
          simp only[AlN]at hmm;obtain⟨⟨kk,jj⟩,hj,rfl⟩:=hmm;exact .inr ⟨by simp,kk,by simp only[AlV]; rw[B7 hj hr]⟩
      ·cases hk
     ·cases hk
    ·cases hk
   ·cases hk
  ·cases hk
def nzD:D→Prop
 | .i n=>n≠0
 | .u n=>n≠0
 |_=>False
def quoK (cf:Cf):Option (AV×D):=
 match Hf cf with
 |some a=>match a.o.op with
  | .binOp op _ x y _=>match quoV op (aev a.sl x) (aev a.sl y)with
   |some r=>some (aev a.sl y,r)
   |none=>none
  |_=>none
 |none=>none
theorem Ae0 {cf:Cf}{d r:D}(hq:gOf (aC P N cf)=true→nzD d)(g:Go ρ P N D0 Q As η0 m0 (CV N (aC P N cf) (.d r) []))
  (e:(quoK (aC P N cf),(aL P N cf))=(some (.d d,r),(aR P N cf)):=by kernel_rfl) (hm:P.follows .mixedOrders=true:=by rfl):Go ρ P N D0 Q As η0 m0 cf:=by
 simp only[AlE]at e;obtain⟨e1,e3⟩:=e;obtain⟨he1,he2⟩:=KV e3;refine A2 hm he1 ?_;generalize aC P N cf=c0 at*;unfold quoK at e1;split at e1
 ·rename_i a ha;rw[DX ha]at he2;split at e1
  ·rename_i op t x y t' hop;split at e1
   ·rename_i r' hr';simp only[AlJ,AlE]at e1;obtain⟨ed,rfl⟩:=e1;refine DW (rd:=[]) ha he2 ⟨fun _ h=>(by cases h),List.nodup_nil⟩ (fun hp=> ?_) g;have q:=hq (Ma ha hp);obtain⟨l,⟨dst,op',ty,pos,af,gd⟩,gg,sl,es⟩:=a;simp only at hop ed hr'⊢; subst hop;refine⟨AlK _,fun rest Q η m f w As hr hz hn S hk=> ?_⟩;have ry:=Aq hr y;rw[ed]at ry hr';have fin: ∀u,Rel η m (.d r') u→wpl ρ P N D0 l.toArray rest Q (upo N f dst u) w:=fun u hu=>hk η m w u Env.le_refl (Mem.rfl' m) (fun n h=> .inl h) hu S;cases d<;>simp only[nzD]at q
    ·exact AcA hr' (Aq hr x) ry ry.i_inv q fin
    ·rename_i nn;exact AcA hr' (Aq hr x) ry ry.u_inv (fun e=>q (by rw[←UInt64.toNat_inj]; simpa using e)) fin
   ·cases e1
  ·cases e1
 ·cases e1
def shK (cf:Cf):Option (Int×D):=
 match Hf cf with
 |some a=>match a.o.op with
  | .binOp op _ x y _=>match Pf a.sl y with
   |some (k,n)=>match shV op (aev a.sl x) k n with
    |some r=>some (n,r)
    |none=>none
   |none=>none
  |_=>none
 |none=>none
theorem gsh {cf:Cf}{c:Int}{r:D}(hq:gOf (aC P N cf)=true→0≤c)(g:Go ρ P N D0 Q As η0 m0 (CV N (aC P N cf) (.d r) []))
  (e:(shK (aC P N cf),(aL P N cf))=(some (c,r),(aR P N cf)):=by kernel_rfl) (hm:P.follows .mixedOrders=true:=by rfl):Go ρ P N D0 Q As η0 m0 cf:=by
 simp only[AlE]at e;obtain⟨e1,e3⟩:=e;obtain⟨he1,he2⟩:=KV e3;refine A2 hm he1 ?_;generalize aC P N cf=c0 at*;unfold shK at e1;split at e1
 ·rename_i a ha;rw[DX ha]at he2;split at e1
  ·rename_i op t x y t' hop;split at e1
   ·rename_i k nn hy;split at e1
    ·rename_i r' hr';simp only[AlJ,AlE]at e1;obtain⟨rfl,rfl⟩:=e1;refine DW (rd:=[]) ha he2 ⟨fun _ h=>(by cases h),List.nodup_nil⟩ (fun hp=> ?_) g;have q:=hq (Ma ha hp);obtain⟨l,⟨dst,op',ty,pos,af,gd⟩,gg,sl,es⟩:=a;simp only at hop hy hr'⊢; subst hop;refine⟨AlK _,fun rest Q η m f w As hr hz hn S hk=> ?_⟩;exact sh_ok hr' (Aq hr x) (B7 hy hr) q fun u hu=>hk η m w u Env.le_refl (Mem.rfl' m) (fun n h=> .inl h) hu S
    ·cases e1
   ·cases e1
  ·cases e1
 ·cases e1
end
theorem AcK {ob:List Tok}{k:FuncId}{as ea:List AV}{eobs:List AObj}{p:Ae3}(hp:Wp ob k as ea eobs=some p){η:Env}{m:Mem}{w:World}{As:List Ow}{vs:List Value}
  (o5:p.fr.all (fun p=>WG p.2)=true) (o6:p.fw.all (fun p=>Ln p.2)=true) (hv:B5 η m as vs) (S:St m (reps η m ((p.ut++p.fw)++p.fr)++As) w):
  ∃m1,m≤m1∧B5 η m1 p.as vs∧St m1 (p.objs.map (rep η m1)++As) w:=by
 unfold Wp at hp;simp only at hp;split at hp
 ·rename_i ut hut;have hplan:=AlC hp;clear hp;have pas:p.as=(cvV ob ea as).1:=by rw[←hplan]
  have pobj:p.objs=(ZO ob eobs ut).1:=by rw[←hplan]
  have put:p.ut=ut:=by rw[←hplan]
  have pfw:p.fw=(L7 ob ((cvV ob ea as).2++(ZO ob eobs ut).2) []).filter (fun p=>Ln p.2):=by rw[←hplan]
  have pfr:p.fr=(L7 ob ((cvV ob ea as).2++(ZO ob eobs ut).2) []).filter (fun p=> !Ln p.2):=by rw[←hplan]
  clear hplan;rw[BB,BB,AlP,AlP]at S;have S1:=S.perm (AlR (reps η m p.ut) (reps η m p.fw) _);obtain⟨m1,l1,K1,S2⟩:=M7 o6 S1;have S3:=St.ru Env.le_refl l1 S2;have S4:=S3.perm (AlR (reps η m1 p.ut) (reps η m p.fr) _);have S5:=St.ru Env.le_refl l1 S4;obtain⟨K2,S6⟩:=PM o5 S5;have KN:Kn ob η m1 ((cvV ob ea as).2++(ZO ob eobs ut).2):=by
   intro j hj d hd;obtain⟨q,hf,hq,hrf,hnm⟩:=O1 hd;have hmem:=K4 hf hj (seen:=[]) rfl;rcases hrf with h|h
   ·have:q∈p.fw:=by rw[pfw]; simp only[List.mem_filter]; exact⟨hmem,h⟩
    obtain⟨v,y1,y2⟩:=K1 q this;rw[hnm]at y1; rw[hq]at y2; exact⟨v,y1,y2⟩
   ·have:q∈p.fr:=by
     rw[pfr]; simp only[List.mem_filter];refine⟨hmem,?_⟩;cases hq2:q.2<;>rw[hq2]at h<;>first|rfl|cases h
    obtain⟨v,y1,y2⟩:=K2 q this;rw[hnm]at y1; rw[hq]at y2; exact⟨v,y1,y2⟩
  obtain⟨kn1,kn2⟩:=Kn.app KN;refine⟨m1,l1,by rw[pas]; exact Se kn1 (hv.up Env.le_refl l1),?_⟩;rw[pobj];rw[put]at S6;obtain⟨x,sx,rx⟩:=S6.own;exact⟨S6.os,S6.tape,S6.output,x,Vp kn2 sx,rx⟩
 ·cases hp
theorem Zf {ob:List Tok}{k:FuncId}{as ea:List AV}{eobs:List AObj}{p:Ae3}(hp:Wp ob k as ea eobs=some p): ∀q∈(p.ut++p.fw)++p.fr,q∈ob:=by
 unfold Wp at hp;simp only at hp;split at hp
 ·rename_i ut hut;have hplan:=AlC hp;intro q hq;rw[←hplan]at hq;simp only at hq;rcases Al5.1 hq with h|h
  ·rcases Al5.1 h with h|h
   ·exact R9 hut q h
   ·exact Ij (List.mem_filter.1 h).1
  ·exact Ij (List.mem_filter.1 h).1
 ·cases hp
def asV (s t:AS):List AV:=t.sl.map fun p=>get s.sl p.1
def vwP (s t:AS):Option Ae3:=Wp s.ob 0 (asV s t) (t.sl.map (·.2)) (t.ob.map (·.2))
def fixB (mt:Mt):Nat→Bool
 |0=>true
 |n+1=>Nat.beq (MN mt n n) n&&fixB mt n
theorem Ym {mt:Mt}: ∀{n:Nat},fixB mt n=true→∀j,j<n→MN mt j j=j
 |0,_,j,h=>by omega
 |n+1,h,j,hj=>by
  simp only[fixB,AlD]at h;by_cases e:j=n
  ·subst e; exact AlF h.1
  ·exact Ym h.2 j (by omega)
def Wx (n:Nat):List Nat→Bool
 | []=>true
 |a::l=>Nat.blt a n&&Wx n l
theorem OW {n:Nat}: ∀{l:List Nat},Wx n l=true→∀t∈l,t<n
 | [],_,_,h=>by cases h
 |a::l,h,t,ht=>by
  simp only[Wx,AlD]at h;rcases Al6.1 ht with e|e
  ·subst e; exact Da h.1
  ·exact OW h.2 t e
def okVw (p:Ae3)(t:AS)(n0:Nat):Bool:=(t.sl.map (·.2)).all (okA t.nx)&&((t.ob.map (·.2)).all (okO t.nx)&&(X2 (tids ((p.ut++p.fw)++p.fr))&&(fixB p.mt n0&&(Nat.ble n0 t.nx&&(p.fr.all (fun p=>WG p.2)&&(p.fw.all (fun p=>Ln p.2)&&(X2 (tids t.ob)&&Wx t.nx (tids t.ob))))))))
def isNilF:Fz→Bool
 | []=>true
 |_=>false
def vwL (s t:AS)(n0:Nat):Option (List AV×List AObj×Bool×Bool):=match vwP s t with|some p=>some (p.as,p.objs,okVw p t n0,isNilF t.fz)|none=>none
def vwR (s t:AS):Option (List AV×List AObj×Bool×Bool):=match vwP s t with|some p=>some ((t.sl.map (·.2)).map (Abg fun j=>MN p.mt j j),(t.ob.map (·.2)).map (Wl fun j=>MN p.mt j j),true,true)|none=>none
theorem AdQ {η:Env}{m:Mem}{f:Fr}: ∀{l:Sl},B5 η m (l.map (·.2)) (l.map fun p=>f p.1)→∀t,Rel η m (get l t) (f t)
 | [],_,t=> .any _
 |p::l,h,t=>by
  obtain⟨v,us,e,h1,h2⟩:=h.cons_inv;simp only[Amd,List.cons.injEq]at e;obtain⟨rfl,rfl⟩:=e;show Rel η m (bif Nat.beq p.1 t then p.2 else get l t) (f t);cases hb:Nat.beq p.1 t
  ·exact AdQ h2 t
  ·have:=AlF hb; rw[this]at h1; exact h1
theorem Uw {s t:AS}{n0:Nat}(e:vwL s t n0=vwR s t)(hne:(vwP s t).isSome=true){As:List Ow}{η0 η:Env}{m:Mem}{f:Fr}{w:World}(hd: ∀n,η0 n≠none→n<n0)(hle:η0.le η)(g:Gm As s η m f w):
  ∃η' m',m≤m'∧η0.le η'∧Gm As t η' m' f w:=by
 cases hp:vwP s t with
 |none=>rw[hp]at hne; cases hne
 |some p=>
  unfold vwL vwR at e;rw[hp]at e;simp only[AlJ,AlE]at e;obtain⟨e1,e2,e3,e4⟩:=e;simp only[okVw,AlD]at e3;obtain⟨o1,o2,o3,o4,o5,o6,o7,o8,o9⟩:=e3;have S:=St.rp g.st (IT g.wf.nd (I0 o3) (Zf hp));rw[BB,AlP]at S;have hv:B5 η m (asV s t) (t.sl.map fun p=>f p.1):=⟨by simp[asV],fun k c u a b=>by
   simp only[asV,Ame,AlN]at a b;obtain⟨x,hx,rfl⟩:=a;obtain⟨y,hy,rfl⟩:=b;rw[hx]at hy; cases hy;exact g.slr _⟩
  obtain⟨m1,l1,r1,S1⟩:=AcK hp o6 o7 hv S;rw[e1]at r1;rw[e2]at S1;let φ:Nat→Nat:=fun j=>MN p.mt j j;let η1:Env:=fun j=>if j<t.nx then η (φ j)else none;have hη1: ∀j,j<t.nx→η (φ j)=η1 j:=fun j hj=>(AlH hj).symm;have S2:=S1.perm (show((t.ob.map (·.2)).map (Wl φ)).map (rep η m1)++(reps η m (Ej (tids (p.ut++p.fw++p.fr)) s.ob)++As)|>.Perm (reps η m (Ej (tids (p.ut++p.fw++p.fr)) s.ob)++(((t.ob.map (·.2)).map (Wl φ)).map (rep η m1)++As))from AlR _ _ _);obtain⟨m2,l2,S3⟩:=St.dropN (reps η m (Ej (tids (p.ut++p.fw++p.fr)) s.ob)).length S2;rw[List.drop_left]at S3;have S4:St m2 (reps η1 m2 t.ob++As) w:=by
   have S3':=St.mapUp (obs:=(t.ob.map (·.2)).map (Wl φ)) Env.le_refl l2 S3;refine S3'.imp (by simp[reps]) fun i A B ha hb x hx=> ?_;rw[List.getElem?_append]at ha hb;simp only[Amo,reps]at ha hb;split at ha
   ·rename_i q;rw[AlH q]at hb;simp only[Ame,AlN]at ha hb;obtain⟨o',⟨o,⟨tk,htk,rfl⟩,rfl⟩,rfl⟩:=ha;obtain⟨tk',htk',rfl⟩:=hb;rw[htk]at htk'; cases htk';exact XQ hη1 (AlW.1 o2 tk.2 (List.mem_map_of_mem (Amh htk))) hx
   ·rename_i q;rw[AlG q]at hb;rw[ha]at hb; cases hb; exact hx
  refine⟨η1,m2,Mem.tr l1 l2,fun k v hv=> ?_,AdQ (UL hη1 o1 (r1.up Env.le_refl l2)),?_,fun k hk=> ?_,S4,I0 o8,fun x hx=>OW o9 x hx⟩
  ·have hlt:=hd k (by rw[hv]; simp);show(if _ then _ else _)=_;rw[AlH (AmL hlt (AlS o5))];show η (MN p.mt k k)=some v;rw[Ym o4 k hlt]; exact hle _ _ hv
  ·intro k d hk;cases hz:t.fz with
   |nil=>rw[hz]at hk; cases hk
   |cons _ _=>rw[hz]at e4; cases e4
  ·have:(if k<t.nx then η (φ k)else none)≠none:=hk;split at this
   ·assumption
   ·exact absurd rfl this
def Rl (As:List Ow)(η0:Env)(m0:Mem){ι:Type}(J:ι→AS)(ok:ι→Prop):Fr→World→Prop:=fun f w=> ∃x,ok x∧∃η m,η0.le η∧m0≤m∧Gm As (J x) η m f w
def Abb (cf:Cf):Option (Fr→World→Prop):=match cf.md,cf.K with| .pop,.ctn J::_=>some J|_,_=>none
section
variable {ρ:Option Nat}{P:Program}{N:Nat}{D0:Dw}{Q:DQ}{As:List Ow}{η0:Env}{m0:Mem}
def ctnC (cf:Cf)(J:Fr→World→Prop):Cf:=⟨cf.s,cf.md,.ctn J::cf.K⟩
def Qe (cf:Cf):Bool:=match cf.md with| .code _=>true|_=>false
theorem AdN (hm:P.follows .mixedOrders=true){n:Nat}{cf:Cf}{ι:Type}(J:ι→AS)(ok:ι→Prop)(e:(Qe (adv P N n cf).1,((adv P N n cf).2).map (·.1))=(true,((adv P N n cf).2).map (·.2)))
  (h1:Go ρ P N D0 Q As η0 m0 (ctnC (adv P N n cf).1 (Rl As η0 m0 J ok))) (h2: ∀x,ok x→Go ρ P N D0 Q As η0 m0 ⟨J x,.pop,(adv P N n cf).1.K⟩):Go ρ P N D0 Q As η0 m0 cf:=by
 simp only[AlE]at e;obtain⟨e1,e3⟩:=e;refine Sx hm (.of e3) ?_;generalize (adv P N n cf).1=c0 at*;obtain⟨s,md,K⟩:=c0;unfold Qe at e1;split at e1
 ·rename_i c hmd;simp only at hmd; subst hmd;intro η m f w a1 a2 g;refine Ls (fun ex f' w' q=> ?_) (h1 η m f w a1 a2 g);cases ex with
  |normal=>
   obtain⟨x,hx,η',m',b1,b2,g'⟩:=q;exact h2 x hx η' m' f' w' b1 b2 g'
  |_=>exact q
 ·cases e1
def Zs (cf:Cf):Option Code:=match cf.md with| .code (.loop c)=>some c|_=>none
def rndC (cf:Cf)(s:AS)(J:Fr→World→Prop):Cf:=match cf.md with| .code (.loop c)=>⟨s,.code c,.ctn J::cf.K⟩|_=>cf
theorem AkI (hm:P.follows .mixedOrders=true){n n0:Nat}{cf:Cf}{ι:Type}(J:ι→AS)(pre:ι→Prop)(μ:ι→Nat)(x0:ι)(hx:pre x0)(hd: ∀n,η0 n≠none→n<n0)
  (e:((Zs (adv P N n cf).1).isSome,vwL (adv P N n cf).1.s (J x0) n0,(vwP (adv P N n cf).1.s (J x0)).isSome,((adv P N n cf).2).map (·.1))=(true,vwR (adv P N n cf).1.s (J x0),true,((adv P N n cf).2).map (·.2)))
  (h: ∀x,pre x→Go ρ P N D0 Q As η0 m0 (rndC (adv P N n cf).1 (J x) (Rl As η0 m0 J fun y=>pre y∧μ y<μ x))):Go ρ P N D0 Q As η0 m0 cf:=by
 simp only[AlE]at e;obtain⟨e1,e2,e4,e3⟩:=e;refine Sx hm (.of e3) ?_;generalize (adv P N n cf).1=c0 at*;obtain⟨s,md,K⟩:=c0;cases md with
 |code c=>
  cases c with
  |loop c=>
   intro η m f w a1 a2 g;obtain⟨η',m',l,le,g'⟩:=Uw e2 e4 hd a1 g;refine Ae8 (fun k f w=> ∃x,(pre x∧μ x=k)∧∃η m,η0.le η∧m0≤m∧Gm As (J x) η m f w) (μ x0) ⟨x0,⟨hx,rfl⟩,η',m',le,Mem.tr a2 l,g'⟩ ?_;rintro k f w ⟨x,⟨hp,rfl⟩,η2,m2,b1,b2,g2⟩;refine Ls (fun ex f' w' q=> ?_) (h x hp η2 m2 f w b1 b2 g2);cases ex with
   |normal=>
    obtain⟨y,⟨hy,hlt⟩,η3,m3,c1,c2,g3⟩:=q;exact⟨μ y,hlt,y,⟨hy,rfl⟩,η3,m3,c1,c2,g3⟩
   |_=>exact q
  |_=>cases e1
 |_=>cases e1
end
def atBlk (id:Nat)(cf:Cf):Bool:=match cf.md with| .code (.block i _)=>Nat.beq i id|_=>false
def KW (id:Nat)(P:Program)(N:Nat):Nat→Cf→Cf×Eqs
 |0,cf=>(cf,[])
 |n+1,cf=>bif atBlk id cf then(cf,[])else match nxt P N cf with
  |some r=>let q:=KW id P N n r.1; (q.1,r.2++q.2)
  |none=>(cf,[])
section
variable {ρ:Option Nat}{P:Program}{N:Nat}{D0:Dw}{Q:DQ}{As:List Ow}{η0:Env}{m0:Mem}
theorem Sy {id:Nat}(hm:P.follows .mixedOrders=true): ∀{n:Nat} {cf:Cf},EqsOk (KW id P N n cf).2→Go ρ P N D0 Q As η0 m0 (KW id P N n cf).1→Go ρ P N D0 Q As η0 m0 cf
 |0,_,_,g=>g
 |n+1,cf,he,g=>by
  cases hb:atBlk id cf with
  |true=>
   have e:KW id P N (n+1) cf=(cf,[]):=by simp only[KW,hb,cond_true]
   rw[e]at g; exact g
  |false=>
   cases hr:nxt P N cf with
   |none=>
    have e:KW id P N (n+1) cf=(cf,[]):=by simp only[KW,hr,hb,cond_false]
    rw[e]at g; exact g
   |some r=>
    have e:KW id P N (n+1) cf=((KW id P N n r.1).1,r.2++(KW id P N n r.1).2):=by simp only[KW,hr,hb,cond_false]
    rw[e]at g he;have he':=EqsOk.app.1 he;exact RH hm hr he'.1 (Sy hm (n:=n) he'.2 g)
theorem AgL {id:Nat}(hm:P.follows .mixedOrders=true){n:Nat}{cf:Cf}{ι:Type}(J:ι→AS)(ok:ι→Prop)(e:(Qe (KW id P N n cf).1,((KW id P N n cf).2).map (·.1))=(true,((KW id P N n cf).2).map (·.2)))
  (h1:Go ρ P N D0 Q As η0 m0 (ctnC (KW id P N n cf).1 (Rl As η0 m0 J ok))) (h2: ∀x,ok x→Go ρ P N D0 Q As η0 m0 ⟨J x,.pop,(KW id P N n cf).1.K⟩):Go ρ P N D0 Q As η0 m0 cf:=by
 simp only[AlE]at e;obtain⟨e1,e3⟩:=e;refine Sy hm (.of e3) ?_;refine AdN (n:=0) hm J ok ?_ h1 h2;simp only[adv,e1,List.map_nil]
end
structure Bk (As:List Ow)(η0:Env)(m0:Mem){ι:Type}(J:ι→AS)(ok:ι→Prop)(Jp:Fr→World→Prop):Prop where
 h: ∀f w,Rl As η0 m0 J ok f w→Jp f w
section
variable {ρ:Option Nat}{P:Program}{N:Nat}{D0:Dw}{Q:DQ}{As:List Ow}{η0:Env}{m0:Mem}
theorem gb {n0:Nat}{cf:Cf}{ι:Type}{J:ι→AS}{ok:ι→Prop}{Jp:Fr→World→Prop}(bk:Bk As η0 m0 J ok Jp)(hd: ∀n,η0 n≠none→n<n0)(x:ι)(hx:ok x)
  (e:(Abb (aC P N cf),vwL (aC P N cf).s (J x) n0,(vwP (aC P N cf).s (J x)).isSome,(bL P N cf))=(some Jp,vwR (aC P N cf).s (J x),true,(bR P N cf)):=by kernel_rfl) (hm:P.follows .mixedOrders=true:=by rfl):
  Go ρ P N D0 Q As η0 m0 cf:=by
 simp only[AlE]at e;obtain⟨e1,e2,e4,e3⟩:=e;refine A2 hm (.of e3) ?_;generalize aC P N cf=c0 at*;obtain⟨s,md,K⟩:=c0;unfold Abb at e1;split at e1
 ·rename_i J' K' hmd hK;simp only at hmd hK; subst hmd hK;cases e1;intro η m f w a1 a2 g;obtain⟨η',m',l,le,g'⟩:=Uw e2 e4 hd a1 g;exact nrm (bk.h _ _ ⟨x,hx,η',m',le,Mem.tr a2 l,g'⟩)
 ·cases e1
def lenK (s:AS)(t:Nat):Option D:=match get s.sl t with| .d d=>some d| .ow n=>frD s.ob n|_=>none
theorem Ake {s:AS}{η:Env}{m:Mem}{f:Fr}{w:World}{t:Nat}{α:Type}{E:α→List D}{xs:List α}(h:lenK s t=some (.sl α E xs))(g:Gm As s η m f w):xs.length≤9223372036854775807:=by
 have r:=g.slr t;have of: ∀{m:Mem} {v:Value},FR m (.sl α E xs) v→xs.length≤9223372036854775807:=fun h=>by cases h with|sl h=>exact h.2.1
 unfold lenK at h;split at h
 ·rename_i d hd;cases h;rw[hd]at r;exact of r.dd
 ·rename_i n hn;obtain⟨q,hf,hq,hrf,hnm⟩:=O1 h;have hmem:=Fw hf;obtain⟨l1,l2,el⟩:=List.append_of_mem hmem;have S':St m (reps η m (q::(l1++l2))++As) w:=St.rp g.st (by rw[el]; exact AmJ);obtain⟨i,o⟩:=q;cases o with
  |box=>rcases hrf with h|h<;>cases h
  |hp=>rcases hrf with h|h<;>cases h
  |row k sz α' E' xs'=>
   simp only[Kg]at hq;cases hq;obtain⟨v,cs,h1,h2,h3,h4,S2⟩:=St.openRow S';obtain⟨⟨a,c,rfl⟩,_⟩:=St.rowVal (i:=0) S2 rfl;obtain⟨p,hp,_⟩:=St.take' S2 (i:=0) rfl;rcases hp with ⟨_,_,h0,_⟩|⟨b,cap,l,e,fr,_,_,_,_,_,h6,h7,_⟩
   ·omega
   ·have:maxLen≤9223372036854775807:=by decide
    omega
  |fr k d=>
   simp only[Kg]at hq;cases hq;obtain⟨⟨v,h1,h2⟩,_⟩:=St.openFr S';exact of h2
 ·cases h
theorem go_len {id:Nat}(hm:P.follows .mixedOrders=true){n:Nat}{cf:Cf}{α:Type}{E:α→List D}{xs:List α}(t:Nat)
  (e:(Qe (KW id P N n cf).1,lenK (KW id P N n cf).1.s t,((KW id P N n cf).2).map (·.1))=(true,some (.sl α E xs),((KW id P N n cf).2).map (·.2)))
  (h:xs.length≤9223372036854775807→Go ρ P N D0 Q As η0 m0 (KW id P N n cf).1):Go ρ P N D0 Q As η0 m0 cf:=by
 simp only[AlE]at e;obtain⟨e1,e2,e3⟩:=e;refine Sy hm (.of e3) ?_;generalize (KW id P N n cf).1=c0 at*;obtain⟨s,md,K⟩:=c0;unfold Qe at e1;split at e1
 ·rename_i c hmd;simp only at hmd; subst hmd;exact fun η m f w a1 a2 g=>h (Ake e2 g) η m f w a1 a2 g
 ·cases e1
def Qd:AV→Bool
 | .d (.v (.slice none 0 0))=>true
 |_=>false
def nilS (s:AS)(t sz:Nat)(α:Type)(E:α→List D):AS:=⟨(t,.ow s.nx)::s.sl,s.ob++[(s.nx,.row s.nx sz α E [])],s.fz,s.nx+1⟩
theorem nil_gm {s:AS}{η:Env}{m:Mem}{f:Fr}{w:World}{t sz:Nat}{α:Type}{E:α→List D}(h:Qd (get s.sl t)=true)(g:Gm As s η m f w):
  ∃η',η.le η'∧Gm As (nilS s t sz α E) η' m f w:=by
 have r:=g.slr t;have hv:f t= .slice none 0 0:=by
  generalize get s.sl t=a at*;unfold Qd at h;split at h
  ·have:=r.dd; generalize f t=u at this; cases this; rfl
  ·cases h
 have h0:η s.nx=none:=by
  cases q:η s.nx with
  |none=>rfl
  |some v=>have:=g.dom s.nx (by rw[q]; simp); omega
 have le:=Env.le_put (v:= .slice none 0 0) h0;refine⟨η.put s.nx (.slice none 0 0),le,fun u=> ?_,g.fz.up le (Mem.rfl' m),fun n hn=> ?_,?_,?_,fun x hx=> ?_⟩
 ·show Rel _ m (bif Nat.beq t u then .ow s.nx else get s.sl u) (f u);cases hb:Nat.beq t u
  ·exact(g.slr u).up le (Mem.rfl' m)
  ·have:=AlF hb; subst this;rw[hv]; exact .ow Env.put_self rfl
 ·rcases Env.put_dom hn with q|q
  ·exact Nat.lt_succ_of_lt (g.dom n q)
  ·subst q; exact AlX _
 ·have S:=St.rowNil (St.ru le (Mem.rfl' m) g.st) sz;have T:=St.closeRow (η:=η.put s.nx (.slice none 0 0)) (n:=s.nx) (E:=E) (xs:=[]) Env.put_self rfl (by simpa using FRL.nil) (fun _ h=>by cases h) S;show St m (reps _ m (s.ob++[_])++As) w;rw[BB,AlP];exact T.perm (List.perm_middle.symm)
 ·show(tids (s.ob++[_])).Nodup;simp only[tids,Amq,Amd,List.map_nil];refine List.nodup_append.2 ⟨g.wf.nd,by simp,fun a ha b hb e=> ?_⟩;simp at hb;have:=g.wf.lt a ha;omega
 ·show x<s.nx+1;have hx':x∈tids (s.ob++[(s.nx,AObj.row s.nx sz α E [])]):=hx;simp only[tids,Amq,Amd,List.map_nil,Al5,AmN]at hx';rcases hx' with q|q
  ·exact Nat.lt_succ_of_lt (g.wf.lt x q)
  ·omega
def LH (cf:Cf):Bool:=match cf.md with| .ops .. =>false|_=>true
def nilC (cf:Cf)(t sz:Nat)(α:Type)(E:α→List D):Cf:=⟨nilS cf.s t sz α E,cf.md,cf.K⟩
theorem AhW {cf:Cf}{t sz:Nat}{α:Type}{E:α→List D}(hp:LH cf=true)(h:Qd (get cf.s.sl t)=true)(g:Go ρ P N D0 Q As η0 m0 (nilC cf t sz α E)):Go ρ P N D0 Q As η0 m0 cf:=by
 obtain⟨s,md,K⟩:=cf;have key: ∀{R:Fr→World→Prop},Al As η0 m0 (nilS s t sz α E) R→Al As η0 m0 s R:=fun k η m f w a1 a2 gm=>
  let ⟨η',le,gm'⟩:=nil_gm h gm; k η' m f w (Env.le_tr a1 le) a2 gm'
 cases md with
 |ops=>cases hp
 |code c=>exact key g
 |pop=>exact key g
 |ext id=>exact key g
 |ret=>exact key g
theorem R0 {cf:Cf}{α:Type}(E:α→List D)(t sz:Nat)(g:Go ρ P N D0 Q As η0 m0 (nilC (aC P N cf) t sz α E))
  (e:(LH (aC P N cf),Qd (get (aC P N cf).s.sl t),(bL P N cf))=(true,true,(bR P N cf)):=by kernel_rfl) (hm:P.follows .mixedOrders=true:=by rfl):Go ρ P N D0 Q As η0 m0 cf:=by
 simp only[AlE]at e;exact A2 hm (.of e.2.2) (AhW e.1 e.2.1 g)
theorem WL {cf:Cf}{α:Type}(id:Nat)(E:α→List D)(t sz:Nat)(g:Go ρ P N D0 Q As η0 m0 (nilC (KW id P N 100000 cf).1 t sz α E))
  (e:(LH (KW id P N 100000 cf).1,Qd (get (KW id P N 100000 cf).1.s.sl t),((KW id P N 100000 cf).2).map (·.1))=(true,true,((KW id P N 100000 cf).2).map (·.2)):=by kernel_rfl) (hm:P.follows .mixedOrders=true:=by rfl):Go ρ P N D0 Q As η0 m0 cf:=by
 simp only[AlE]at e;exact Sy hm (.of e.2.2) (AhW e.1 e.2.1 g)
end
def Ahx:Nat→List (Nat×Operand)→Bool
 |_,[]=>true
 |k,p::l=>Nat.beq p.1 k&&Ahx (k+1) l
theorem Rm: ∀{l:List (Nat×Operand)} {k:Nat},Ahx k l=true→l=((l.map (·.2)).zipIdx k).map fun p=>(p.2,p.1)
 | [],_,_=>rfl
 |(i,o)::l,k,h=>by
  simp only[Ahx,AlD]at h;have e:i=k:=AlF h.1;subst e;simp only[Amd,List.zipIdx_cons];rw[←Rm h.2]
def W9 (fz:Fz)(sl:Sl)(sz:Nat):List (Nat×Operand)→Option (List AV)
 | []=>some []
 |p::l=>match NQ (rv fz sl p.2),W9 fz sl sz l with
  |some c,some r=>bif Nat.beq c.length sz then some (c++r)else none
  |_,_=>none
theorem So {fz:Fz}{sl:Sl}{sz:Nat}{η:Env}{m:Mem}{f:Fr}(hr: ∀t,Rel η m (get sl t) (f t))(hz:fzOk η m fz): ∀{l:List (Nat×Operand)} {cs:List AV},W9 fz sl sz l=some cs→
  ∃cls:List (List Value),H0 ((l.map (·.2)).map (ev f)) cls∧RS sz cls=true∧B5 η m cs cls.flatten
 | [],cs,h=>by cases h; exact⟨[],trivial,rfl,.nil⟩
 |p::l,cs,h=>by
  unfold W9 at h;split at h
  ·rename_i c r h1 h2;cases hb:Nat.beq c.length sz
   ·rw[hb]at h; cases h
   ·rw[hb]at h; cases h;obtain⟨cls,a1,a2,a3⟩:=So hr hz h2;obtain⟨b1,b2⟩:=IW h1 (MI hz hr p.2);refine⟨(ev f p.2).cells.toList::cls,⟨by simp,a1⟩,?_,?_⟩
    ·show(Nat.beq _ sz&&RS sz cls)=true;rw[a2,←b1.1,hb]; rfl
    ·rw[List.flatten_cons]; exact b1.append a3
  ·cases h
def litK (P:Program)(cf:Cf):Option (List AV×Nat×Nat×Bool):=
 match Hf cf with
 |some a=>match a.g,a.o.op with
  |none,.buildSlice t n parts=>match P.underlying t with
   |some (.slice e)=>match J7 P e with
    |some i=>match i.z,W9 cf.s.fz a.sl i.sz parts.toList with
     |some _,some cs=>some (cs,n,i.sz,Ahx 0 parts.toList&&(Nat.beq n parts.toList.length&&(Nat.ble (n*i.sz) 16777216&&Nat.ble 1 i.sz)))
     |_,_=>none
    |none=>none
   |_=>none
  |_,_=>none
 |none=>none
def AhH (s:AS)(sz:Nat)(α:Type)(E:α→List D)(xs:List α):Stp:=⟨.ow s.nx,[],[],[(s.nx,.row s.nx sz α E xs)],s.nx+1,[]⟩
section
variable {ρ:Option Nat}{P:Program}{N:Nat}{D0:Dw}{Q:DQ}{As:List Ow}{η0:Env}{m0:Mem}
theorem Aj9 {cf:Cf}{α:Type}{E:α→List D}{xs:List α}{k:Nat}(hE: ∀x,(E x).length=k)(e1:litK P cf=some ((xs.flatMap E).map dv,xs.length,k,true)):
  ∃a,Hf cf=some a∧a.g=none∧∀(rest:List Oper) (Q:DQ) (η:Env) (m:Mem) (f:Fr) (w:World) (As:List Ow),(∀t,Rel η m (get a.sl t) (f t))→fzOk η m cf.s.fz→St m As w→
   (∀(v:Value) (w':World) (cs:List Value),FRL m (xs.flatMap E) cs→St m (Gw.row k v cs xs.length::As) w'→wpl ρ P N D0 a.l.toArray rest Q (upo N f a.o.dst v) w')→wpl ρ P N D0 a.l.toArray (a.o::rest) Q f w:=by
 unfold litK at e1;split at e1
 ·rename_i a ha;split at e1
  ·rename_i t n parts hg hop;split at e1
   ·rename_i e hu;split at e1
    ·rename_i i hi;split at e1
     ·rename_i z cs hz hcs;simp only[AlJ,AlE,AlD]at e1;obtain⟨ec,en,ek,b1,b2,b3,b4⟩:=e1;refine⟨a,ha,hg,?_⟩;have hgd:=B0 ha hg;obtain⟨l,⟨dst,op,ty,pos,af,gd⟩,gg,sl,es⟩:=a;simp only at hop hgd hcs⊢; subst hop hgd;intro rest Q η m f w As hr hfz S hk;obtain⟨cls,a1,a2,a3⟩:=So hr hfz hcs;have hp:=Rm b1;have e0:parts=(((parts.toList.map (·.2)).zipIdx 0).map fun p=>(p.2,p.1)).toArray:=by
       rw[←hp]
      rw[e0];have hlen:((parts.toList.map (·.2)).map (ev f)).length=n:=by simp; exact(AlF b2).symm
      refine XH (vs:=(parts.toList.map (·.2)).map (ev f)) (cls:=cls) S hu (B8 hi) (OK hi hz) rfl a1 a2 hlen.symm (AlS b3) (AlS b4) fun v w' S'=> ?_;rw[ek,en]at S';refine hk v w' cls.flatten ?_ S';rw[ec]at a3;exact FRL.ofRelv a3
     ·cases e1
    ·cases e1
   ·cases e1
  ·cases e1
 ·cases e1
theorem JN {sz n:Nat}{v:Value}{cs:List Value}{m:Mem}{As:List Ow}{w:World}(S:St m (Gw.row sz v cs n::As) w):v.oneCell'=true:=by
 obtain⟨⟨a,c,rfl⟩,_⟩:=St.rowVal (i:=0) S rfl;rfl
theorem PG {s:AS}{v:AV}{o:AObj}:L3 s ⟨v,[],[],[(s.nx,o)],s.nx+1,[]⟩:=
 ⟨fun x hx=>by simp at hx,by simp[tids],by simp[tids],fun t ht=>by simp[tids]at ht; subst ht; exact⟨AlK _,AlX _⟩⟩
theorem AaP {k:Nat}{cf:Cf}{α:Type}(E:α→List D)(xs:List α)(hE: ∀x,(E x).length=k)(g:Go ρ P N D0 Q As η0 m0 (push N (aC P N cf) (AhH (aC P N cf).s k α E xs)))
  (e:(litK P (aC P N cf),(aL P N cf))=(some ((xs.flatMap E).map dv,xs.length,k,true),(aR P N cf)):=by kernel_rfl) (hm:P.follows .mixedOrders=true:=by rfl):Go ρ P N D0 Q As η0 m0 cf:=by
 simp only[AlE]at e;obtain⟨e1,e3⟩:=e;obtain⟨he1,-⟩:=KV e3;refine A2 hm he1 ?_;generalize aC P N cf=c0 at*;obtain⟨a,ha,hg,run⟩:=Aj9 (ρ:=ρ) (N:=N) (D0:=D0) hE e1;refine El ha hg ⟨Amw _,fun rest Q η m f w As hr hz hn S hk=> ?_⟩ PG g;refine run rest Q η m f w As hr hz S fun v w' cs hc S'=> ?_;have h0:=hn c0.s.nx (AlK _) (AlX _);have h1:=JN S';refine hk (η.put c0.s.nx v) m w' v (Env.le_put h0) (Mem.rfl' m) (fun n q=> ?_) (.ow Env.put_self h1) (St.closeRow Env.put_self h1 hc (fun x _=>hE x) S');rcases Env.put_dom q with q|q
 ·exact .inl q
 ·subst q; exact .inr ⟨AlK _,AlX _⟩
def litG (P:Program)(cf:Cf):Option (List AV×Nat×Nat×Bool):=
 match Hf cf with
 |some a=>match a.o.op with
  | .buildSlice t n parts=>match P.underlying t with
   |some (.slice e)=>match J7 P e with
    |some i=>match i.z,W9 cf.s.fz a.sl i.sz parts.toList with
     |some _,some cs=>some (cs,n,i.sz,Ahx 0 parts.toList&&(Nat.beq n parts.toList.length&&(Nat.ble (n*i.sz) 16777216&&Nat.ble 1 i.sz)))
     |_,_=>none
    |none=>none
   |_=>none
  |_=>none
 |none=>none
theorem glitF {k:Nat}{cf:Cf}{α:Type}(E:α→List D)(xs:List α)(hE: ∀x,(E x).length=k)(g:Go ρ P N D0 Q As η0 m0 (CV N (aC P N cf) (.d (.sl α E xs)) []))
  (e:(litG P (aC P N cf),(aL P N cf))=(some ((xs.flatMap E).map dv,xs.length,k,true),(aR P N cf)):=by kernel_rfl) (hm:P.follows .mixedOrders=true:=by rfl):Go ρ P N D0 Q As η0 m0 cf:=by
 simp only[AlE]at e;obtain⟨e1,e3⟩:=e;obtain⟨he1,he2⟩:=KV e3;refine A2 hm he1 ?_;generalize aC P N cf=c0 at*;unfold litG at e1;split at e1
 ·rename_i a ha;rw[DX ha]at he2;split at e1
  ·rename_i t n parts hop;split at e1
   ·rename_i e hu;split at e1
    ·rename_i i hi;split at e1
     ·rename_i z cs hz hcs;simp only[AlJ,AlE,AlD]at e1;obtain⟨ec,en,ek,b1,b2,b3,b4⟩:=e1;refine DW (rd:=[]) ha he2 ⟨fun _ h=>(by cases h),List.nodup_nil⟩ (fun _=> ?_) g;obtain⟨l,⟨dst,op,ty,pos,af,gd⟩,gg,sl,es⟩:=a;simp only at hop hcs⊢; subst hop;refine⟨AlK _,fun rest Q η m f w As hr hfz hn S hk=> ?_⟩;obtain⟨cls,a1,a2,a3⟩:=So hr hfz hcs;have hp:=Rm b1;have e0:parts=(((parts.toList.map (·.2)).zipIdx 0).map fun p=>(p.2,p.1)).toArray:=by
       rw[←hp]
      rw[e0];have hlen:((parts.toList.map (·.2)).map (ev f)).length=n:=by simp; exact(AlF b2).symm
      have S0:St m As w:=S;refine XH (vs:=(parts.toList.map (·.2)).map (ev f)) (cls:=cls) S0 hu (B8 hi) (OK hi hz) rfl a1 a2 hlen.symm (AlS b3) (AlS b4) fun v w' S'=> ?_;rw[ek,en]at S';rw[ec]at a3;letI:=QO E k;obtain⟨m1,l1,h5,S2⟩:=St.rowKeepT (i:=0) S' rfl (Aat (FRL.ofRelv a3) fun x _=>hE x) rfl;exact hk η m1 w' v Env.le_refl l1 (fun n h=> .inl h) (.d (V5 h5)) S2
     ·cases e1
    ·cases e1
   ·cases e1
  ·cases e1
 ·cases e1
structure AppP:Type 1 where
 use:List Tok
 rd:List Tok
 fw:List Tok
 x:D
 y:D
 by_:Nat
 sz:Nat
def nilOf:D→D
 | .sl α E _=> .sl α E []
 |d=>d
def neD:D→Bool
 | .sl _ _ (_::_)=>true
 |_=>false
def Ahv (ob:List Tok):AV→Option (D×List Tok×List Tok)
 | .d (.sl α E xs)=>some (.sl α E xs,[],[])
 | .ow n=>match find n ob with
  |some (i,.fr k d)=>bif Nat.beq k n then some (d,[(i,.fr k d)],[])else none
  |some (i,.row k sz α E xs)=>bif Nat.beq k n then some (.sl α E xs,[],[(i,.row k sz α E xs)])else none
  |_=>none
 |_=>none
def appP (P:Program)(cf:Cf):Option AppP:=
 match Hf cf with
 |some a=>match a.g,a.o.op with
  |none,.call c=>match c.callee,c.args.toList,c.argTypes.toList with
   | .builtin .append,[x,y],[t,t2]=>match P.underlying t,P.underlying t2,Ahv cf.s.ob (aev a.sl y)with
    |some (.slice e),some (.slice _),some (dy,rd,fw)=>match J7 P e with
     |some i=>match i.z with
      |some z=>bif Nat.beq z.cells.toList.length i.sz&&Nat.beq t t2 then
       match aev a.sl x with
       | .ow n=>match find n cf.s.ob with
        |some (j,.row k sz α E xs)=>bif Nat.beq k n&&Nat.beq sz i.sz then some ⟨[(j,.row k sz α E xs)],rd,fw,.sl α E xs,dy,i.by_,i.sz⟩else none
        |_=>none
       | .d (.v (.slice none 0 0))=>some ⟨[],rd,fw,nilOf dy,dy,i.by_,i.sz⟩
       | .d (.kp α E xs)=>bif neD dy then some ⟨[],rd,fw,.sl α E xs,dy,i.by_,i.sz⟩else none
       |_=>none
       else none
      |none=>none
     |none=>none
    |_,_,_=>none
   |_,_,_=>none
  |_,_=>none
 |none=>none
def appK (P:Program)(cf:Cf):Option (D×D×Nat×Nat×Bool):=match appP P cf with|some p=>some (p.x,p.y,p.by_,p.sz,X2 (tids ((p.use++p.fw)++p.rd))&&(p.rd.all (fun p=>WG p.2)&&p.fw.all (fun p=>Ln p.2)))|none=>none
def appS (P:Program)(s:AS)(cf:Cf)(sz:Nat)(α:Type)(E:α→List D)(zs:List α):Stp:=match appP P cf with|some p=>⟨.ow s.nx,p.rd,p.use++p.fw,enO s.nx (.row s.nx sz α E zs::Sw p.fw),s.nx+(1+(Sw p.fw).length),[]⟩|none=>AhH s sz α E zs
theorem XB {ob:List Tok}{a:AV}{d:D}{rd fw:List Tok}(h:Ahv ob a=some (d,rd,fw)){η:Env}{m:Mem}{v:Value}(r:Rel η m a v)
  (k1: ∀p∈fw,∃v,η p.2.nm=some v∧FR m (Kg p.2) v) (k2: ∀p∈rd,∃v,η p.2.nm=some v∧FR m (Kg p.2) v):FR m d v:=by
 unfold Ahv at h;split at h
 ·cases h; exact r.dd
 ·rename_i n;split at h
  ·rename_i i k d' hf;cases hb:Nat.beq k n
   ·rw[hb]at h; cases h
   ·rw[hb]at h; cases h;have:=AlF hb; subst this;obtain⟨u,h1,h2⟩:=k2 _ AlZ;have:=r.ow_inv.1;rw[show(AObj.fr k d).nm=k from rfl]at h1;rw[h1]at this; cases this; exact h2
  ·rename_i i k sz α E xs hf;cases hb:Nat.beq k n
   ·rw[hb]at h; cases h
   ·rw[hb]at h; cases h;have:=AlF hb; subst this;obtain⟨u,h1,h2⟩:=k1 _ AlZ;have:=r.ow_inv.1;rw[show(AObj.row k sz α E xs).nm=k from rfl]at h1;rw[h1]at this; cases this; exact h2
  ·cases h
 ·cases h
theorem UD {ob:List Tok}{a:AV}{d:D}{rd fw:List Tok}(h:Ahv ob a=some (d,rd,fw)): ∀p∈fw++rd,p∈ob:=by
 unfold Ahv at h;split at h
 ·cases h; intro p hp; simp at hp
 ·split at h
  ·rename_i i k d' hf;cases hb:Nat.beq k _
   ·rw[hb]at h; cases h
   ·rw[hb]at h; cases h;intro p hp; simp at hp; subst hp; exact Fw hf
  ·rename_i i k sz α E xs hf;cases hb:Nat.beq k _
   ·rw[hb]at h; cases h
   ·rw[hb]at h; cases h;intro p hp; simp at hp; subst hp; exact Fw hf
  ·cases h
 ·cases h
theorem Afz {P:Program}{m:Mem}{As:List Ow}{w:World}{sz n k c bytes:Nat}{a0:Option Addr}{z src:Value}{cs ds:List Value}{t ty e:TypeId}{ti:TypeInfo}
  (ht:P.underlying t=some (.slice e)) (hi:P.info? e=some ti) (hz:ti.zero=some z) (hsz:ti.size=sz) (hby:ti.bytes=bytes) (hzs:z.cells.size=sz)
  (hlen: ∀w,(Builtin.lenOf src).run P w= .ok k w) (hf: ∀j,(Builtin.firstCells sz k src).run P {w with drawn:=j}= .ok ds.toArray {w with drawn:=j}) (hds:ds.length=k*sz)
  (hb:(n+k)*bytes≤140737488355328) (h63:n+k≤140737488355328) (hS:St m As w) (hv:SlC m sz (.slice a0 n c) cs n) (hcap:c<n+k):
  ∃v' w',(Builtin.append_ #[t,t] ty #[.slice a0 n c,src]).run P w= .ok v' w'∧St m (Gw.row sz v' (cs++ds) (n+k)::As) w'∧Kd w w':=by
 subst hsz hby;have hcl:cs.length=n*ti.size:=hv.1;have hf1:(Builtin.firstCells ti.size k src).run P w.drew= .ok ds.toArray w.drew:=hf _;have hfo:(Builtin.firstCells ti.size n (.slice a0 n c)).run P w.drew= .ok cs.toArray w.drew:=Ez hS hv _;have hun: ∀w,(underlying t).run P w= .ok (.slice e) w:=fun w=>AlO ht w;have hfit:=growslice_fits hcap hb;have hn: ¬(n+k≤c):=by omega
 have h63': ¬(9223372036854775807<((n:Int)+(k:Int))):=by omega
 have h48': ¬(281474976710656<Builtin.nextslicecap (n+k) c*ti.bytes):=by omega
 have hge:=grownCap_ge w (n+k) c e;have hcm:grownCap w (n+k) c e≤maxLen:=grownCap_le_maxLen w (n+k) c e (by simp only[maxLen]; omega);refine⟨.slice (some ⟨w.heap.size,0,none⟩) (n+k) (grownCap w (n+k) c e),w.drew.alloc (.cells (cs.toArray++ds.toArray++Builtin.zeroCells z.cells (grownCap w (n+k) c e-(n+k))) e),?_,?_,?_⟩
 ·simp[Builtin.append_,hun,sizeOf,typeInfo,zeroValue,hi,hz,hlen,hn,h63',h48',Question.forced,hfo,hf1,newRow,grownCap]
  all_goals (congr 2; apply Array.ext'; simp)
 ·have S1:=(hS.drew (w.drawn+1)).push (.cells (cs.toArray++ds.toArray++Builtin.zeroCells z.cells (grownCap w (n+k) c e-(n+k))) e) CA;refine St.to S1 fun h hh=> .inr ⟨w.heap.size,_,_,e,(0,0),rfl,hh,?_,?_,?_,hge,hcm,.inl rfl,.inl rfl⟩
  ·rw[AlI,hcl,hds,Nat.add_mul]
  ·have e1:(n+k)*ti.size=(cs++ds).length:=by rw[AlI,hcl,hds,Nat.add_mul]
   have e2:(cs.toArray++ds.toArray++Builtin.zeroCells z.cells (grownCap w (n+k) c e-(n+k))).toList=(cs++ds)++(Builtin.zeroCells z.cells (grownCap w (n+k) c e-(n+k))).toList:=by simp
   rw[e1,e2]; exact List.take_left
  ·simp only[Array.size_append,List.size_toArray,size_zeroCells,hzs,hcl,hds,←Nat.add_mul];congr 1; omega
 ·exact⟨(Kd.push w.drew _).size,(Kd.push w.drew _).same⟩
def AppAt (P:Program)(m:Mem){α:Type}(E:α→List D)(k:Nat)(v:Value)(xs ys:List α)(As:List Ow)(w:World):Prop:=(∃cs,FRL m (xs.flatMap E) cs∧St m (Gw.row k v cs xs.length::As) w)∨(FR m (.kp α E xs) v∧0<ys.length∧St m As w)
theorem s_appA {ρ:Option Nat}{P:Program}{N:Nat}{D0:Dw}{ops:Array Oper}{rest:List Oper}{Q:DQ}{f:Fr}{w:World}{dst:Option Nat}{ty t:TypeId}{pos:String}{af:Array Edge}{x y:Operand}{m:Mem}{As:List Ow}
  {α:Type} {E:α→List D} {k bytes:Nat} {xs ys zs:List α} {v u z:Value} {e:TypeId} {ti:TypeInfo} (hE: ∀x,(E x).length=k) (hA:AppAt P m E k v xs ys As w) (hx:ev f x=v) (hy:ev f y=u) (hv: @SlR α (QO E k) m u ys) (hq:app bytes xs ys=some zs)
  (ht:P.underlying t=some (.slice e)) (hi:P.info? e=some ti) (hz:ti.zero=some z) (hsz:ti.size=k) (hby:ti.bytes=bytes) (hzs:z.cells.size=k)
  (h: ∀v' cs' w',St m (Gw.row k v' cs' zs.length::As) w'→ @CI α (QO E k) m cs' zs→wpl ρ P N D0 ops rest Q (upo N f dst v') w'):
  wpl ρ P N D0 ops (⟨dst,.call {callee:= .builtin .append,args:= #[x,y],argTypes:= #[t,t]},ty,pos,af,none⟩::rest) Q f w:=by
 letI:=QO E k;rcases hA with ⟨cs,hc,S⟩|⟨hk,h0,S⟩
 ·exact Ajv (α:=α) (i:=0) (ti:=ti) (z:=z) S hx rfl (Aat hc fun x _=>hE x) rfl hy hv hq ht hi hz hsz hby hzs fun v' cs' w' S8 hr=>h v' cs' w' S8 hr
 ·cases hk with
  |kp hsl hc0=>
   obtain⟨cs,h1,h2⟩: ∃cs,SlC m k v cs xs.length∧CI m cs xs:=X1 hsl hE;obtain⟨a0,c0,rfl⟩:=h1.val;have hc1:=hc0 _ _ _ rfl;obtain⟨⟨hb,h63⟩,hq⟩:=BI hq;cases hq;obtain⟨ds,hc,hr2⟩:=hv;obtain⟨a,c,rfl⟩:=hc.val;obtain⟨v',w',hrun,hS',kd⟩:=Afz (P:=P) (ty:=ty) ht hi hz hsz hby hzs (src:= .slice a ys.length c) (fun w=>La w) (fun j=>Ez S hc j) hc.1 hb h63 S h1 (by omega);refine AE (v:=v') (w':=w') rfl (fun _ e=>by cases e) ?_ (h v' _ w' (by simpa using hS') (h2.append hr2)) kd;simp[execOp,resolve,invoke,builtin,hx,hy,hrun]
theorem gapp {k b:Nat}{cf:Cf}{α:Type}{E:α→List D}{xs ys zs:List α}(hE: ∀x,(E x).length=k)(hq:app b xs ys=some zs)(g:Go ρ P N D0 Q As η0 m0 (push N (aC P N cf) (appS P (aC P N cf).s (aC P N cf) k α E zs)))
  (e:(appK P (aC P N cf),(aL P N cf))=(some (.sl α E xs,.sl α E ys,b,k,true),(aR P N cf)):=by kernel_rfl) (hm:P.follows .mixedOrders=true:=by rfl):Go ρ P N D0 Q As η0 m0 cf:=by
 simp only[AlE]at e;obtain⟨e1,e3⟩:=e;obtain⟨he1,-⟩:=KV e3;refine A2 hm he1 ?_;generalize aC P N cf=c0 at*;cases hp:appP P c0 with
 |none=>unfold appK at e1; rw[hp]at e1; cases e1
 |some p=>
  unfold appK at e1;rw[hp]at e1;simp only[AlJ,AlE,AlD]at e1;obtain⟨ex,ey,eb,ek,o1,o2,o3⟩:=e1;have gS:appS P c0.s c0 k α E zs=⟨.ow c0.s.nx,p.rd,p.use++p.fw,enO c0.s.nx (.row c0.s.nx k α E zs::Sw p.fw),c0.s.nx+(1+(Sw p.fw).length),[]⟩:=by unfold appS; rw[hp]
  rw[gS]at g;have hp0:=hp;unfold appP at hp;split at hp
  ·rename_i a ha;split at hp
   ·rename_i c hg hop;split at hp
    ·rename_i x y t t2 hce hargs hats;split at hp
     ·rename_i e' e2 dy rd fw hu hu2 hsrc;split at hp
      ·rename_i i hi;split at hp
       ·rename_i z hz;cases hb:Nat.beq z.cells.toList.length i.sz&&Nat.beq t t2
        ·rw[hb]at hp; cases hp
        ·rw[hb]at hp;simp only[cond_true]at hp;simp only[AlD]at hb;have hzs:z.cells.size=i.sz:=by rw[←Array.length_toList]; exact AlF hb.1
         have htt:=AlF hb.2;subst htt;have hgd:=B0 ha hg;have ssub:=UD hsrc;have key: ∃src:List Tok,p.use=src∧p.rd=rd∧p.fw=fw∧p.y=dy∧p.by_=i.by_∧p.sz=i.sz∧(∀q∈src,q∈c0.s.ob)∧
           ∀(η:Env) (m:Mem) (f:Fr) (w:World) (As:List Ow),(∀t,Rel η m (get a.sl t) (f t))→St m (reps η m src++As) w→AppAt P m E k (ev f x) xs ys As w:=by
          split at hp
          ·rename_i nn hx;split at hp
           ·rename_i j kk sz α' E' xs' hf;cases hb2:Nat.beq kk nn&&Nat.beq sz i.sz
            ·rw[hb2]at hp; cases hp
            ·rw[hb2]at hp; cases hp;simp only[AlD]at hb2;have:=AlF hb2.1; subst this;have hsz:=AlF hb2.2;refine⟨_,rfl,rfl,rfl,rfl,rfl,rfl,fun q hq=>by simp at hq; subst hq; exact Fw hf,fun η m f w As hr S=> ?_⟩;simp only at ex ek;cases ex;obtain⟨v,cs,h1,h2,h3,h4,S1⟩:=St.openRow S;have rx:=Aq hr x; rw[hx]at rx;have:=rx.ow_inv.1;rw[h1]at this; cases this;rw[hsz,ek]at S1;exact .inl ⟨cs,h3,S1⟩
           ·cases hp
          ·rename_i hx;cases hp;refine⟨_,rfl,rfl,rfl,rfl,rfl,rfl,fun q hq=>by simp at hq,fun η m f w As hr S=> ?_⟩;have rx:=Aq hr x; rw[hx]at rx;have hv:ev f x= .slice none 0 0:=by
            have:=rx.dd;generalize ev f x=u at this;cases this; rfl
           have hxs:xs=[]:=by
            simp only at ex ey;rw[ey]at ex;simp only[nilOf]at ex;cases ex; rfl
           subst hxs;rw[hv];exact .inl ⟨[],by simpa using FRL.nil,St.rowNil S k⟩
          ·rename_i α' E' xs' hx;cases hb3:neD dy
           ·rw[hb3]at hp; cases hp
           ·rw[hb3]at hp; cases hp;refine⟨_,rfl,rfl,rfl,rfl,rfl,rfl,fun q hq=>by simp at hq,fun η m f w As hr S=> ?_⟩;simp only at ex ey;cases ex;have rx:=Aq hr x; rw[hx]at rx;refine .inr ⟨rx.dd,?_,S⟩;subst ey;cases ys with
            |nil=>cases hb3
            |cons y ys=>simp
          ·cases hp
         obtain⟨src,p1,p2,p3,p4,p5,p6,sub,run⟩:=key;rw[p4]at ey;rw[p5]at eb;rw[p6]at ek;rw[p1,p2,p3]at g o1;rw[p2]at o2;rw[p3]at o3;subst ey eb;refine El ha hg ?_ ?_ g
         ·obtain⟨l,⟨dst,op,ty,pos,af,gd⟩,gg,sl,es⟩:=a;obtain⟨ce,cx,ct⟩:=c;obtain⟨cx⟩:=cx;obtain⟨ct⟩:=ct;simp only at hop hgd hce hargs hats hsrc run⊢; subst hop hgd hce hargs hats;refine⟨Nat.le_add_right _ _,fun rest Q η m f w As hr hfz hn S hk=> ?_⟩;simp only at S hk hn;rw[BB,BB,AlP,AlP]at S;have S1:=S.perm (AlR (reps η m src) (reps η m fw) _);obtain⟨m1,l1,K1,S2⟩:=M7 o3 S1;have S3:=St.ru Env.le_refl l1 S2;have S4:=S3.perm (AlR (reps η m1 src) (reps η m rd) _);have S5:=St.ru Env.le_refl l1 S4;obtain⟨K2,S6⟩:=PM o2 S5;have hr1: ∀t,Rel η m1 (get sl t) (f t):=fun t=>(hr t).up Env.le_refl l1;have hy:=XB hsrc (Aq hr1 y) K1 K2;have R7:=run η m1 f w As hr1 S6;letI:=QO E k;have tb:=Ik hi;refine s_appA (α:=α) (ti:=i.inf) (z:=z) hE R7 rfl rfl (X1 hy hE) hq hu (V6 hi) (by rw[←tb.2.2.2.2.1]; exact hz) (by rw[←tb.2.2.2.1]; exact ek) (by rw[←tb.2.2.2.2.2]) (by rw[hzs]; exact ek) fun v' cs' w' S8 hrep=> ?_;have hrep':=Acr hrep;have h0:=hn c0.s.nx (AlK _) (by omega);have S9:St m1 (Gw.row k v' cs' zs.length::As) w':=S8;have h1:=JN S9;have le2:=Env.le_put (v:=v') h0;refine hk (η.put c0.s.nx v') m1 w' v' le2 l1 (fun q hq=> ?_) (.ow Env.put_self h1) ?_
          ·rcases Env.put_dom hq with q1|q1
           ·exact .inl q1
           ·subst q1; exact .inr ⟨AlK _,by omega⟩
          ·rw[BB,AlP,KE];show St m1 (rep _ m1 (.row c0.s.nx k α E zs)::((Sw fw).map (rep _ m1)++(reps _ m1 rd++As))) w';have F1: ∀q∈fw,∃v,(η.put c0.s.nx v') q.2.nm=some v∧FR m1 (Kg q.2) v:=fun q hq=>let ⟨v,a,b⟩:=K1 q hq; ⟨v,le2 _ _ a,b⟩;have F2: ∀q∈rd,∃v,(η.put c0.s.nx v') q.2.nm=some v∧FR m1 (Kg q.2) v:=fun q hq=>let ⟨v,a,b⟩:=K2 q hq; ⟨v,le2 _ _ a,b⟩;have T1:=St.closeRow (η:=η.put c0.s.nx v') (n:=c0.s.nx) Env.put_self h1 hrep'.1 hrep'.2 S9;have T2:=Nw F1 (O5 o2 F2 T1);exact T2.perm ((Al7 _ AmJ).trans AmJ)
         ·refine⟨fun q hq=> ?_,I0 o1,?_,fun t ht=> ?_⟩
          ·simp only at hq;rcases Al5.1 hq with h|h
           ·rcases Al5.1 h with h|h
            ·exact sub q h
            ·exact ssub q (List.mem_append_left _ h)
           ·exact ssub q (List.mem_append_right _ h)
          ·simp only; rw[GF]; exact List.nodup_range'
          ·simp only at ht⊢;rw[GF,List.mem_range']at ht;obtain⟨i2,hi2,rfl⟩:=ht;simp only[AlM]at hi2;omega
       ·cases hp
      ·cases hp
     ·cases hp
    ·cases hp
   ·cases hp
  ·cases hp
end
def Zh (n:Nat)(er:AV):List AV:=bif Nat.beq n 1 then [er]else tupE er
def AkY (P:Program)(fn:Func)(cf:Cf)(er:AV)(eobs:List AObj):Option Ae3:=bif Alz cf then match Aaq P cf.s fn.results.toList with|some vs=>Wp cf.s.ob 0 vs (Zh fn.results.toList.length er) eobs|none=>none else none
def isTup:AV→Bool
 | .tup _=>true
 |_=>false
def okEnd (p:Ae3)(len:Nat)(er:AV)(eobs:List AObj)(n0 n1:Nat):Bool:=(Zh len er).all (okA n1)&&(eobs.all (okO n1)&&(X2 (tids ((p.ut++p.fw)++p.fr))&&(fixB p.mt n0&&(Nat.ble n0 n1&&(p.fr.all (fun p=>WG p.2)&&(p.fw.all (fun p=>Ln p.2)&&(Nat.beq len 1||isTup er)))))))
def endL (P:Program)(fn:Func)(cf:Cf)(er:AV)(eobs:List AObj)(n0 n1:Nat):Option (List AV×List AObj×Bool):=match AkY P fn cf er eobs with|some p=>some (p.as,p.objs,okEnd p fn.results.toList.length er eobs n0 n1)|none=>none
def endR (P:Program)(fn:Func)(cf:Cf)(er:AV)(eobs:List AObj):Option (List AV×List AObj×Bool):=match AkY P fn cf er eobs with|some p=>some ((Zh fn.results.toList.length er).map (Abg fun j=>MN p.mt j j),eobs.map (Wl fun j=>MN p.mt j j),true)|none=>none
section
variable {P:Program}{N:Nat}{As:List Ow}{η0:Env}{m0:Mem}
theorem Wk {s:AS}: ∀{rs:List ResultVar} {vs:List AV},Aaq P s rs=some vs→vs.length=rs.length
 | [],vs,h=>by cases h; rfl
 |r::rs,vs,h=>by
  unfold Aaq at h;split at h
  ·rename_i a b h1 h2; cases h; simp[Wk h2]
  ·cases h
theorem go_fin (hm:P.follows .mixedOrders=true){ρ:Option Nat}{D0:Dw}{fn:Func}{n n0 n1:Nat}{cf:Cf}{er:AV}{eobs:List AObj}{Po:AV→List AObj→Nat→Prop}(hd: ∀n,η0 n≠none→n<n0)
  (e:(endL P fn (adv P N n cf).1 er eobs n0 n1,(AkY P fn (adv P N n cf).1 er eobs).isSome,((adv P N n cf).2).map (·.1))=(endR P fn (adv P N n cf).1 er eobs,true,((adv P N n cf).2).map (·.2))) (hp:Po er eobs n1):
  Go ρ P N D0 (AaE P N fn (QA As η0 m0 Po)) As η0 m0 cf:=by
 simp only[AlE]at e;obtain⟨e1,e2,e3⟩:=e;refine Sx hm (.of e3) ?_;generalize (adv P N n cf).1=c0 at*;obtain⟨s,md,K⟩:=c0;cases hpl:AkY P fn ⟨s,md,K⟩ er eobs with
 |none=>rw[hpl]at e2; cases e2
 |some p=>
  unfold endL endR at e1;rw[hpl]at e1;simp only[AlJ,AlE]at e1;obtain⟨ea,eo,ef⟩:=e1;simp only[okEnd,AlD]at ef;obtain⟨o1,o2,o3,o4,o5,o6,o7,o8⟩:=ef;unfold AkY at hpl;cases hb:Alz ⟨s,md,K⟩
  ·rw[hb]at hpl; cases hpl
  ·rw[hb]at hpl;simp only[cond_true]at hpl;split at hpl
   ·rename_i vs hvs;have main: ∀η m f w,η0.le η→m0≤m→Gm As s η m f w→∀w',Pd w w'→outE P N fn (QA As η0 m0 Po) f w':=by
     intro η m f w a1 a2 g w' hpd;have S0:=St.pd g.st hpd;obtain⟨us,r1,r2⟩:=AhI g.slr S0 hvs;have S:=St.rp S0 (IT g.wf.nd (I0 o3) (Zf hpl));rw[BB,AlP]at S;obtain⟨m1,l1,r3,S1⟩:=AcK hpl o6 o7 r2 S;rw[ea]at r3;rw[eo]at S1;let φ:Nat→Nat:=fun j=>MN p.mt j j;let η1:Env:=fun j=>if j<n1 then η (φ j)else none;have hη1: ∀j,j<n1→η (φ j)=η1 j:=fun j hj=>(AlH hj).symm;have S2:=S1.perm (show(eobs.map (Wl φ)).map (rep η m1)++(reps η m (Ej (tids (p.ut++p.fw++p.fr)) s.ob)++As)|>.Perm (reps η m (Ej (tids (p.ut++p.fw++p.fr)) s.ob)++((eobs.map (Wl φ)).map (rep η m1)++As))from AlR _ _ _);obtain⟨m2,l2,S3⟩:=St.dropN (reps η m (Ej (tids (p.ut++p.fw++p.fr)) s.ob)).length S2;rw[List.drop_left]at S3;have S4:St m2 (eobs.map (rep η1 m2)++As) w':=by
      have S3':=St.mapUp (obs:=eobs.map (Wl φ)) Env.le_refl l2 S3;refine S3'.imp (by simp) fun i A B ha hb x hx=> ?_;rw[List.getElem?_append]at ha hb;simp only[Amo]at ha hb;split at ha
      ·rename_i q;rw[AlH q]at hb;simp only[Ame,AlN]at ha hb;obtain⟨o',⟨o,ho,rfl⟩,rfl⟩:=ha;obtain⟨o2',ho',rfl⟩:=hb;rw[ho]at ho'; cases ho';exact XQ hη1 (AlW.1 o2 o (Amh ho)) hx
      ·rename_i q;rw[AlG q]at hb;rw[ha]at hb; cases hb; exact hx
     have r4:=UL hη1 o1 (r3.up Env.le_refl l2);have hlen:=Wk hvs;have hus:us.length=fn.results.toList.length:=by rw[←r2.1,hlen]
     have hR:Rel η1 m2 er (tup us):=by
      unfold Zh at r4;cases hl:Nat.beq fn.results.toList.length 1
      ·rw[hl]at r4;simp only[cond_false]at r4;rw[hl]at o8;simp only[Amy]at o8;have hne:us.length≠1:=by intro q; rw[hus]at q; rw[q]at hl; cases hl
       have:tup us= .tuple us.toArray:=by
        unfold tup;split
        ·simp at hne
        ·rfl
       rw[this];cases er with
       |tup l=>exact .tup r4.1 r4.2
       |_=>cases o8
      ·rw[hl]at r4;simp only[cond_true]at r4;obtain⟨v,us',e5,h1,h2⟩:=r4.cons_inv;have:=h2.nil_inv; subst this;subst e5;exact h1
     refine Abi us (by rw[Array.toArray_toList]) r1 ⟨m2,η1,er,eobs,n1,Mem.tr a2 (Mem.tr l1 l2),fun k v hv=> ?_,hp,fun k hk=> ?_,hR,S4⟩
     ·have hlt:=hd k (by rw[hv]; simp);show(if _ then _ else _)=_;rw[AlH (AmL hlt (AlS o5))];show η (MN p.mt k k)=some v;rw[Ym o4 k hlt]; exact a1 _ _ hv
     ·have:(if k<n1 then η (φ k)else none)≠none:=hk;split at this
      ·assumption
      ·exact absurd rfl this
    unfold Alz at hb;split at hb
    ·rename_i hmd hK;simp only at hmd hK; subst hmd hK;exact fun η m f w a1 a2 g=>RE (main η m f w a1 a2 g)
    ·rename_i hmd hK;simp only at hmd hK; subst hmd hK;exact fun η m f w a1 a2 g=>outNw (main η m f w a1 a2 g)
    ·cases hb
   ·cases hpl
end
section
variable {ρ:Option Nat}{P:Program}{N:Nat}{D0:Dw}{Q:DQ}{As:List Ow}{η0:Env}{m0:Mem}
theorem tup2 {η:Env}{m:Mem}(p q:UInt64):Rel η m (.tup [.d (.u p),.d (.u q)]) (.tuple #[vU p,vU q]):=
 have h:B5 η m [.d (.u p),.d (.u q)] [vU p,vU q]:=B5.cons (.d (.u p)) (B5.cons (.d (.u q)) B5.nil)
 .tup h.1 h.2
theorem OT {s:AS}:(∀p∈([]:List Tok),p∈s.ob)∧(tids []).Nodup:=⟨fun _ h=>(by cases h),List.nodup_nil⟩
def WE (P:Program)(t:TypeId):Bool:=match P.underlying t with|some .string=>true|_=>false
theorem LV {t:TypeId}(h:WE P t=true):P.underlying t=some .string:=by
 unfold WE at h;split at h
 ·assumption
 ·cases h
def idxSK (P:Program)(cf:Cf):Option (AV×Int×Bool):=
 match Hf cf with
 |some a=>match a.o.op with
  | .index t x y=>match Pf a.sl y with
   |some (_,j)=>some (aev a.sl x,j,WE P t)
   |none=>none
  |_=>none
 |none=>none
theorem AkK {cf:Cf}{s:ByteArray}{j:Int}{b:UInt8}(hq:gOf (aC P N cf)=true→idx s.data.toList j=some b)(g:Go ρ P N D0 Q As η0 m0 (CV N (aC P N cf) (.d (.b b)) []))
  (e:(idxSK P (aC P N cf),(aL P N cf))=(some (.d (.s s),j,true),(aR P N cf)):=by kernel_rfl) (hm:P.follows .mixedOrders=true:=by rfl):Go ρ P N D0 Q As η0 m0 cf:=by
 simp only[AlE]at e;obtain⟨e1,e3⟩:=e;obtain⟨he1,he2⟩:=KV e3;refine A2 hm he1 ?_;generalize aC P N cf=c0 at*;unfold idxSK at e1;split at e1
 ·rename_i a ha;rw[DX ha]at he2;split at e1
  ·rename_i t x y hop;split at e1
   ·rename_i kk jj hj;simp only[AlJ,AlE]at e1;obtain⟨ed,rfl,hs⟩:=e1;refine DW (rd:=[]) ha he2 OT (fun hp=> ?_) g;have q:=hq (Ma ha hp);obtain⟨l,⟨dst,op',ty,pos,af,gd⟩,gg,sl,es⟩:=a;simp only at hop ed hj⊢; subst hop;refine⟨AlK _,fun rest Q η m f w As hr hz hn S hk=> ?_⟩;have rx:=Aq hr x;rw[ed]at rx;have hx:ev f x=vS s:=by
     have:=rx.dd;generalize ev f x=u at this;cases this; rfl
    exact Aft hx (B7 hj hr) (LV hs) q (hk η m w _ Env.le_refl (Mem.rfl' m) (fun n h=> .inl h) (.d (.b b)) S)
   ·cases e1
  ·cases e1
 ·cases e1
def AiI (cf:Cf):Option (FuncId×AV×AV×Bool):=
 match Hf cf with
 |some a=>match a.o.op with
  | .call c=>match c.callee,c.args.toList with
   | .value (.func k),[x,y,z]=>some (k,aev a.sl x,aev a.sl y,match Pf a.sl z with|some (.u64,j)=>j==0|_=>false)
   |_,_=>none
  |_=>none
 |none=>none
theorem Ail {cf:Cf}{k:FuncId}{fn:Func}{p q:UInt64}(hf:P.funcs[k]? =some fn)(g:Go ρ P N D0 Q As η0 m0 (CV N (aC P N cf) (.tup [.d (.u (p+q)),.d (.u (J5 p q))]) []))
  (hname:(fn.name== "runtime.NumGoroutine")=false:=by kernel_rfl) (hb:fn.body.isNone=true:=by kernel_rfl) (hx:Extern.findNext fn=none:=by kernel_rfl) (he:Extern.find fn=some add64Entry:=by kernel_rfl) (e:(AiI (aC P N cf),(aL P N cf))=(some (k,.d (.u p),.d (.u q),true),(aR P N cf)):=by kernel_rfl) (hm:P.follows .mixedOrders=true:=by rfl):Go ρ P N D0 Q As η0 m0 cf:=by
 simp only[AlE]at e;obtain⟨e1,e3⟩:=e;obtain⟨he1,he2⟩:=KV e3;refine A2 hm he1 ?_;generalize aC P N cf=c0 at*;unfold AiI at e1;split at e1
 ·rename_i a ha;rw[DX ha]at he2;split at e1
  ·rename_i c hop;split at e1
   ·rename_i k' x y z hc hargs;simp only[AlJ,AlE]at e1;obtain⟨rfl,ex,ey,ez⟩:=e1;refine DW (rd:=[]) ha he2 OT (fun hp=> ?_) g;obtain⟨l,⟨dst,op',ty,pos,af,gd⟩,gg,sl,es⟩:=a;obtain⟨cc,cas,cts⟩:=c;simp only at hop ex ey ez hc hargs⊢; subst hop hc;have ha':cas= #[x,y,z]:=by apply Array.toList_inj.mp; rw[hargs]
    subst ha';refine⟨AlK _,fun rest Q η m f w As hr hz hn S hk=> ?_⟩;have rx:=Aq hr x;have ry:=Aq hr y;rw[ex]at rx;rw[ey]at ry;have h0:ev f z= .int .u64 0:=by
     split at ez
     ·rename_i j hj;have:=B7 hj hr;rw[this];simp only[Amp]at ez;rw[ez]
     ·cases ez
    exact Ajw hf hname hb hx he rx.u_inv ry.u_inv h0 (hk η m w _ Env.le_refl (Mem.rfl' m) (fun n h=> .inl h) (tup2 _ _) S)
   ·cases e1
  ·cases e1
 ·cases e1
abbrev byE:UInt8→List D:=fun x=> [.b x]
theorem All: ∀{m:Mem} {xs:List UInt8} {cs:List Value}, @CI UInt8 (QO byE 1) m cs xs→CI m cs xs
 |_,[],_,h=>h
 |m,x::xs,cs,h=>by
  obtain⟨c,d,h1,h2,h3⟩:=h;refine⟨c,d,h1,?_,All h3⟩;obtain⟨v,us,e1,e2,e3⟩:=FRL.cons_inv h2.1;have:=FRL.nil_inv e3;subst this;show c=[vB x];rw[e1];generalize v=u at*;cases e2; rfl
theorem bySl {m:Mem}{v:Value}{xs:List UInt8}(h:FR m (.sl UInt8 byE xs) v):SlR m v xs:=by
 obtain⟨cs,h1,h2⟩:=X1 (sz:=1) h (fun _=>rfl);exact⟨cs,h1,All h2⟩
theorem Alm: ∀{m:Mem} {xs:List UInt8} {cs:List Value},CI m cs xs→FRL m (xs.flatMap byE) cs
 |m,[],cs,h=>by
  have:cs=[]:=h;subst this; exact .nil
 |m,x::xs,cs,h=>by
  obtain⟨c,d,h1,h2,h3⟩:=h;have:c=[vB x]:=h2;subst this h1;exact .cons (.b x) (Alm h3)
def bsK (P:Program)(cf:Cf):Option (D×Bool×List Tok):=
 match Hf cf with
 |some a=>match a.o.op with
  | .convert t t2 x=>match AjC cf.s.ob (aev a.sl x)with
   |some (d,ts)=>some (d,Yf P t&&WE P t2,ts)
   |none=>none
  |_=>none
 |none=>none
def bsT (P:Program)(cf:Cf):List Tok:=match bsK P cf with|some (_,_,ts)=>ts|none=> []
theorem gbs {cf:Cf}{xs:List UInt8}(g:Go ρ P N D0 Q As η0 m0 (CV N (aC P N cf) (.d (.s (bs xs))) (bsT P (aC P N cf))))
  (e:((bsK P (aC P N cf)).map (fun r=>(r.1,r.2.1)),(aL P N cf))=(some (.sl UInt8 byE xs,true),(aR P N cf)):=by kernel_rfl) (hm:P.follows .mixedOrders=true:=by rfl):Go ρ P N D0 Q As η0 m0 cf:=by
 simp only[AlE]at e;obtain⟨e1,e3⟩:=e;obtain⟨he1,he2⟩:=KV e3;refine A2 hm he1 ?_;generalize aC P N cf=c0 at*;cases hk:bsK P c0 with
 |none=>rw[hk]at e1; cases e1
 |some r=>
  have hT:bsT P c0=r.2.2:=by unfold bsT; rw[hk]
  rw[hT]at g;rw[hk]at e1;simp only[AlV,AlJ,AlE]at e1;obtain⟨e1,e2⟩:=e1;unfold bsK at hk;split at hk
  ·rename_i a ha;rw[DX ha]at he2;split at hk
   ·rename_i t t2 x' hop;split at hk
    ·rename_i d ts h1;cases hk;simp only[AlD]at e1 e2 g;subst e1;refine DW ha he2 (UK h1) (fun hp=> ?_) g;obtain⟨l,⟨dst,op,ty,pos,af,gd⟩,gg,sl,es⟩:=a;simp only at hop⊢; subst hop;refine⟨AlK _,fun rest Q η m f w As hr hz hn S hk=> ?_⟩;have S':St m (reps η m ts++As) w:=S;have hf:=bySl (XO h1 S' (Aq hr x'));obtain⟨e,u1,u2⟩:=Vb e2.1;exact Afw (t2':=t2) S rfl hf u1 u2 (LV e2.2) (hk η m w _ Env.le_refl (Mem.rfl' m) (fun n h=> .inl h) (.d (.s _)) S)
    ·cases hk
   ·cases hk
  ·cases hk
def ofSK (P:Program)(cf:Cf):Option (AV×Bool):=
 match Hf cf with
 |some a=>match a.g,a.o.op with
  |none,.convert t t2 x=>some (aev a.sl x,WE P t&&Yf P t2)
  |_,_=>none
 |none=>none
theorem gofS {cf:Cf}{s:ByteArray}{zs:List UInt8}(hq:app 1 ([]:List UInt8) s.data.toList=some zs)(g:Go ρ P N D0 Q As η0 m0 (push N (aC P N cf) (AhH (aC P N cf).s 1 UInt8 byE zs)))
  (e:(ofSK P (aC P N cf),(aL P N cf))=(some (.d (.s s),true),(aR P N cf)):=by kernel_rfl) (hm:P.follows .mixedOrders=true:=by rfl):Go ρ P N D0 Q As η0 m0 cf:=by
 simp only[AlE]at e;obtain⟨e1,e3⟩:=e;obtain⟨he1,-⟩:=KV e3;refine A2 hm he1 ?_;generalize aC P N cf=c0 at*;unfold ofSK at e1;split at e1
 ·rename_i a ha;split at e1
  ·rename_i t t2 x hg hop;simp only[AlJ,AlE,AlD]at e1;obtain⟨ex,e4,e5⟩:=e1;have hgd:=B0 ha hg;refine El ha hg ?_ PG g;obtain⟨l,⟨dst,op,ty,pos,af,gd⟩,gg,sl,es⟩:=a;simp only at hop hgd ex⊢; subst hop hgd;refine⟨Amw _,fun rest Q η m f w As hr hz hn S hk=> ?_⟩;have rx:=Aq hr x;rw[ex]at rx;have hx:ev f x=vS s:=by
    have:=rx.dd;generalize ev f x=u at this;cases this; rfl
   obtain⟨e,u1,u2⟩:=Vb e5;refine s_ofS S hx hq (LV e4) u1 u2 fun v' cs' w' S' hrep=> ?_;have h0:=hn c0.s.nx (AlK _) (AlX _);have h1:=JN S';refine hk (η.put c0.s.nx v') m w' v' (Env.le_put h0) (Mem.rfl' m) (fun n q=> ?_) (.ow Env.put_self h1) (St.closeRow Env.put_self h1 (Alm hrep) (fun x _=>rfl) S');rcases Env.put_dom q with q|q
   ·exact .inl q
   ·subst q; exact .inr ⟨AlK _,AlX _⟩
  ·cases e1
 ·cases e1
def apSP (P:Program)(cf:Cf):Option (List Tok×D×AV×Nat×Bool):=
 match Hf cf with
 |some a=>match a.g,a.o.op with
  |none,.call c=>match c.callee,c.args.toList,c.argTypes.toList with
   | .builtin .append,[x,y],[t,t2]=>match P.underlying t with
    |some (.slice e)=>match J7 P e with
     |some i=>match i.z with
      |some z=>match aev a.sl x with
       | .ow n=>match find n cf.s.ob with
        |some (j,.row k sz α E xs)=>some ([(j,.row k sz α E xs)],.sl α E xs,aev a.sl y,i.by_,Nat.beq z.cells.toList.length 1&&(Nat.beq i.sz 1&&(Nat.beq k n&&(Nat.beq sz 1&&WE P t2))))
        |_=>none
       |_=>none
      |none=>none
     |none=>none
    |_=>none
   |_,_,_=>none
  |_,_=>none
 |none=>none
def apST (P:Program)(cf:Cf)(zs:List UInt8):Stp:=match apSP P cf with|some (use,_)=>⟨.ow cf.s.nx,[],use,[(cf.s.nx,.row cf.s.nx 1 UInt8 byE zs)],cf.s.nx+1,[]⟩|none=>AhH cf.s 1 UInt8 byE zs
theorem gapS {b:Nat}{cf:Cf}{s:ByteArray}{xs zs:List UInt8}(hq:app b xs s.data.toList=some zs)(g:Go ρ P N D0 Q As η0 m0 (push N (aC P N cf) (apST P (aC P N cf) zs)))
  (e:((apSP P (aC P N cf)).map (·.2),(aL P N cf))=(some (.sl UInt8 byE xs,.d (.s s),b,true),(aR P N cf)):=by kernel_rfl) (hm:P.follows .mixedOrders=true:=by rfl):Go ρ P N D0 Q As η0 m0 cf:=by
 simp only[AlE]at e;obtain⟨e1,e3⟩:=e;obtain⟨he1,-⟩:=KV e3;refine A2 hm he1 ?_;generalize aC P N cf=c0 at*;cases hk:apSP P c0 with
 |none=>rw[hk]at e1; cases e1
 |some r=>
  have hT:apST P c0 zs=⟨.ow c0.s.nx,[],r.1,[(c0.s.nx,.row c0.s.nx 1 UInt8 byE zs)],c0.s.nx+1,[]⟩:=by unfold apST; rw[hk]
  rw[hT]at g;rw[hk]at e1;simp only[AlV,AlJ]at e1;unfold apSP at hk;split at hk
  ·rename_i a ha;split at hk
   ·rename_i c hg hop;split at hk
    ·rename_i x y t t2 hce hargs hats;split at hk
     ·rename_i e' hu;split at hk
      ·rename_i i hi;split at hk
       ·rename_i z hz;split at hk
        ·rename_i nn hx;split at hk
         ·rename_i j kk sz α E' xs' hf;cases hk;simp only[AlE,AlD]at e1 g;obtain⟨ex,ey,eb,b1,b2,b3,b4,b5⟩:=e1;have hgd:=B0 ha hg;have hkn:=AlF b3; subst hkn;have hs1:=AlF b4;have hz1:=AlF b1;have hi1:=AlF b2;subst eb hs1;cases ex;refine El ha hg ?_ ?_ g
          ·obtain⟨l,⟨dst,op,ty,pos,af,gd⟩,gg,sl,es⟩:=a;obtain⟨ce,cx,ct⟩:=c;obtain⟨cx⟩:=cx;obtain⟨ct⟩:=ct;simp only at hop hgd hce hargs hats hx ey⊢; subst hop hgd hce hargs hats;refine⟨Amw _,fun rest Q η m f w As hr hfz hn S hk=> ?_⟩;simp only at S hk hn;obtain⟨v,cs,h1,h2,h3,h4,S1⟩:=St.openRow S;have rx:=Aq hr x; rw[hx]at rx;have hv:=rx.ow_inv.1;rw[h1]at hv; cases hv;have ry:=Aq hr y;rw[ey]at ry;have hy:ev f y=vS s:=by
            have:=ry.dd;generalize ev f y=u at this;cases this; rfl
           have tb:=Ik hi;refine s_appS (i:=0) (ti:=i.inf) (z:=z) S1 rfl rfl (All (Aat h3 fun _ _=>rfl)) rfl hy hq hu (LV b5) (V6 hi) (by rw[←tb.2.2.2.2.1]; exact hz) (by rw[←tb.2.2.2.1]; exact hi1) (by rw[←tb.2.2.2.2.2]) (by rw[←Array.length_toList]; exact hz1) fun v' cs' w' S8 hrep=> ?_;have h0:=hn c0.s.nx (AlK _) (AlX _);have S9:St m (Gw.row 1 v' cs' zs.length::As) w':=S8;have h1':=JN S9;refine hk (η.put c0.s.nx v') m w' v' (Env.le_put h0) (Mem.rfl' m) (fun q hq=> ?_) (.ow Env.put_self h1') (St.closeRow Env.put_self h1' (Alm hrep) (fun x _=>rfl) S9);rcases Env.put_dom hq with q1|q1
           ·exact .inl q1
           ·subst q1; exact .inr ⟨AlK _,AlX _⟩
          ·refine⟨fun q hq=> ?_,by simp[tids],by simp[tids],fun t ht=>by simp[tids]at ht; subst ht; exact⟨AlK _,AlX _⟩⟩;simp only[Amf,AmN]at hq;subst hq;exact Fw hf
         ·cases hk
        ·cases hk
       ·cases hk
      ·cases hk
     ·cases hk
    ·cases hk
   ·cases hk
  ·cases hk
def fwOk (fw:List Tok):Bool:=X2 (tids fw)&&fw.all (fun p=>Ln p.2)
def fwS (cf:Cf)(v:AV)(fw:List Tok):Stp:=⟨v,[],fw,enO cf.s.nx (Sw fw),cf.s.nx+(Sw fw).length,[]⟩
theorem AkH {cf:Cf}{a:Ahn}{v:AV}{x:Operand}{d:D}{fw:List Tok}(ha:Hf cf=some a)(hg:a.g=none)(hs:Ahv cf.s.ob (aev a.sl x)=some (d,[],fw))(ho:fwOk fw=true)
  (ht: ∀rest Q η m f w As,(∀t,Rel η m (get a.sl t) (f t))→FR m d (ev f x)→St m As w→(∀u,Rel η m v u→wpl ρ P N D0 a.l.toArray rest Q (upo N f a.o.dst u) w)→wpl ρ P N D0 a.l.toArray ({a.o with guard:=none}::rest) Q f w)
  (g:Go ρ P N D0 Q As η0 m0 (push N cf (fwS cf v fw))):Go ρ P N D0 Q As η0 m0 cf:=by
 unfold fwOk at ho;simp only[AlD]at ho;obtain⟨e5,e6⟩:=ho;have hgd:=B0 ha hg;refine El ha hg ?_ ?_ g
 ·obtain⟨l,⟨dst,op,ty,pos,af,gd⟩,gg,sl,es⟩:=a;simp only at hgd ht⊢; subst hgd;refine⟨Nat.le_add_right _ _,fun rest Q η m f w As hr hz hn S hk=> ?_⟩;simp only[fwS]at S hk hn;have S':St m (reps η m fw++As) w:=by simpa using S
  obtain⟨m1,l1,K1,S2⟩:=M7 e6 S';have hr1: ∀t,Rel η m1 (get sl t) (f t):=fun t=>(hr t).up Env.le_refl l1;have hf:=XB hs (Aq hr1 x) K1 (fun p hp=>by cases hp);refine ht rest Q η m1 f w _ hr1 hf S2 fun u hu=>hk η m1 w u Env.le_refl l1 (fun n h=> .inl h) hu ?_;rw[Amf,KE];exact Nw K1 S2
 ·refine⟨fun q hq=> ?_,by simpa[fwS]using I0 e5,?_,fun t ht=> ?_⟩
  ·exact UD hs q (by simpa[fwS]using hq)
  ·simp only[fwS]; rw[GF]; exact List.nodup_range'
  ·simp only[fwS]at ht⊢;rw[GF,List.mem_range']at ht;obtain⟨i2,hi2,rfl⟩:=ht;omega
def Ag6 (P:Program)(cf:Cf):Option (D×Int×Int×Int×Nat×Bool×List Tok):=
 match Hf cf with
 |some a=>match a.g,a.o.op with
  |none,.slice t x lo hi mx=>match Ahv cf.s.ob (aev a.sl x),P.underlying t with
   |some (d,[],fw),some (.slice e)=>match J7 P e with
    |some i=>
     let l:Option Int:=match lo with|none=>some 0|some o=>(Pf a.sl o).map (·.2)
     let h:Option Int:=match hi with|none=>some (dlen d)|some o=>(Pf a.sl o).map (·.2)
     let m:Option Int:=match mx with|none=>h|some o=>match hi with|none=>none|some _=>(Pf a.sl o).map (·.2)
     match l,h,m with
     |some l,some h,some m=>some (d,l,h,m,i.sz,fwOk fw,fw)
     |_,_,_=>none
    |none=>none
   |_,_=>none
  |_,_=>none
 |none=>none
def Ak9 (P:Program)(cf:Cf):List Tok:=match Ag6 P cf with|some (_,_,_,_,_,_,ts)=>ts|none=> []
theorem gcutF {k:Nat}{cf:Cf}{α:Type}{E:α→List D}{xs ys:List α}{lo hi:Int}(hE: ∀x,(E x).length=k)(q:cut xs lo hi=some ys)(g:Go ρ P N D0 Q As η0 m0 (push N (aC P N cf) (fwS (aC P N cf) (.d (.sl α E ys)) (Ak9 P (aC P N cf)))))
  (e:((Ag6 P (aC P N cf)).map (fun r=>(r.1,r.2.1,r.2.2.1,r.2.2.2.1,r.2.2.2.2.1,r.2.2.2.2.2.1)),(aL P N cf))=(some (.sl α E xs,lo,hi,hi,k,true),(aR P N cf)):=by kernel_rfl) (hm:P.follows .mixedOrders=true:=by rfl):Go ρ P N D0 Q As η0 m0 cf:=by
 simp only[AlE]at e;obtain⟨e1,e3⟩:=e;obtain⟨he1,-⟩:=KV e3;refine A2 hm he1 ?_;generalize aC P N cf=c0 at*;cases hk:Ag6 P c0 with
 |none=>rw[hk]at e1; cases e1
 |some r=>
  have hT:Ak9 P c0=r.2.2.2.2.2.2:=by unfold Ak9; rw[hk]
  rw[hT]at g;rw[hk]at e1;simp only[AlV,AlJ,AlE]at e1;obtain⟨e1,e2,e4,e5,e6,e7⟩:=e1;unfold Ag6 at hk;split at hk
  ·rename_i a ha;split at hk
   ·rename_i t x' lo' hi' mx' hg hop;split at hk
    ·rename_i d fw e' h1 h3;split at hk
     ·rename_i i hti;simp only at hk;split at hk
      ·rename_i l h m hl hh hmm;cases hk;simp only at e1 e2 e4 e5 e6 e7 g;subst e1 e2 e4 e5;refine AkH ha hg h1 e7 ?_ g;obtain⟨ll,⟨dst,op,ty,pos,af,gd⟩,gg,sl,es⟩:=a;simp only at hop hl hh hmm⊢; subst hop;intro rest Q η m' f w As hr hf S hk;letI:=QO E k;refine Afv rfl (X1 hf hE) h3 (by rw[←e6]; exact B8 hti) ?_ ?_ ?_ q fun v' hv'=>hk v' (.d (V5 hv'))
       ·cases lo' with
        |none=>simp only[AlJ]at hl; exact .inl ⟨rfl,hl.symm⟩
        |some o=>
         simp only[AlN]at hl;obtain⟨⟨kk,jj⟩,hj,rfl⟩:=hl;exact .inr ⟨kk,by simp only[AlV]; rw[B7 hj hr]⟩
       ·cases hi' with
        |none=>simp only[AlJ]at hh; exact .inl ⟨rfl,hh.symm⟩
        |some o=>
         simp only[AlN]at hh;obtain⟨⟨kk,jj⟩,hj,rfl⟩:=hh;exact .inr ⟨kk,by simp only[AlV]; rw[B7 hj hr]⟩
       ·cases mx' with
        |none=>exact .inl rfl
        |some o=>
         cases hi' with
         |none=>simp at hmm
         |some o2=>
          simp only[AlN]at hmm;obtain⟨⟨kk,jj⟩,hj,rfl⟩:=hmm;exact .inr ⟨by simp,kk,by simp only[AlV]; rw[B7 hj hr]⟩
      ·cases hk
     ·cases hk
    ·cases hk
   ·cases hk
  ·cases hk
end
def Ep (ob:List Tok):List AV→List AV×List Tok×List Tok
 | []=>([],[],[])
 |c::l=>match Ahv ob c with
  |some (d,g,h)=>(.d d::(Ep ob l).1,g++(Ep ob l).2.1,h++(Ep ob l).2.2)
  |none=>(c::(Ep ob l).1,(Ep ob l).2.1,(Ep ob l).2.2)
theorem O9 {ob:List Tok}{η:Env}{m:Mem}: ∀{cs:List AV} {vs:List Value},B5 η m cs vs→(∀p∈(Ep ob cs).2.2,∃v,η p.2.nm=some v∧FR m (Kg p.2) v)→(∀p∈(Ep ob cs).2.1,∃v,η p.2.nm=some v∧FR m (Kg p.2) v)→B5 η m (Ep ob cs).1 vs
 | [],vs,r,_,_=>r
 |c::l,vs,r,k1,k2=>by
  obtain⟨v,us,rfl,r1,r2⟩:=r.cons_inv;unfold Ep at*;split at k1
  ·rename_i d g h e;rw[e]at k2;simp only at k1 k2⊢;exact .cons (.d (XB e r1 (fun q hq=>k1 q (List.mem_append_left _ hq)) (fun q hq=>k2 q (List.mem_append_left _ hq)))) (O9 r2 (fun q hq=>k1 q (List.mem_append_right _ hq)) (fun q hq=>k2 q (List.mem_append_right _ hq)))
  ·rename_i e;rw[e]at k2;simp only at k1 k2⊢;exact .cons r1 (O9 r2 k1 k2)
theorem PT {ob:List Tok}: ∀{cs:List AV},∀p∈(Ep ob cs).2.2++(Ep ob cs).2.1,p∈ob
 | [],p,hp=>by simp[Ep]at hp
 |c::l,p,hp=>by
  have ih:=PT (ob:=ob) (cs:=l) p;unfold Ep at hp;simp only[Al5]at ih;split at hp
  ·rename_i d g h e;have i2:=UD e p;simp only[Al5]at hp i2;rcases hp with (q|q)|(q|q)
   ·exact i2 (.inl q)
   ·exact ih (.inl q)
   ·exact i2 (.inr q)
   ·exact ih (.inr q)
  ·simp only[Al5]at hp; exact ih hp
def TT (ob:List Tok)(sl:Sl)(sz:Nat):List (Nat×Operand)→Option (List AV×List Tok×List Tok)
 | []=>some ([],[],[])
 |p::l=>match TT ob sl sz l with
  |some (r,rd,fw)=>match NQ (aev sl p.2)with
   |some c=>bif Nat.beq c.length sz then some ((Ep ob c).1++r,(Ep ob c).2.1++rd,(Ep ob c).2.2++fw)else none
   |none=>none
  |none=>none
theorem W8 {ob:List Tok}{sl:Sl}{sz:Nat}{η:Env}{m:Mem}{f:Fr}(hr: ∀t,Rel η m (get sl t) (f t)): ∀{l:List (Nat×Operand)} {cs:List AV} {rd fw:List Tok},TT ob sl sz l=some (cs,rd,fw)→
  (∀p∈fw,∃v,η p.2.nm=some v∧FR m (Kg p.2) v)→(∀p∈rd,∃v,η p.2.nm=some v∧FR m (Kg p.2) v)→
  ∃cls:List (List Value),H0 ((l.map (·.2)).map (ev f)) cls∧RS sz cls=true∧B5 η m cs cls.flatten
 | [],cs,rd,fw,h,_,_=>by cases h; exact⟨[],trivial,rfl,.nil⟩
 |p::l,cs,rd,fw,h,k1,k2=>by
  unfold TT at h;split at h
  ·rename_i r rd' fw' h1;split at h
   ·rename_i c h2;cases hb:Nat.beq c.length sz
    ·rw[hb]at h; cases h
    ·rw[hb]at h; cases h;obtain⟨cls,a1,a2,a3⟩:=W8 hr h1 (fun q hq=>k1 q (List.mem_append_right _ hq)) (fun q hq=>k2 q (List.mem_append_right _ hq));obtain⟨b1,b2⟩:=IW h2 (Aq hr p.2);refine⟨(ev f p.2).cells.toList::cls,⟨by simp,a1⟩,?_,?_⟩
     ·show(Nat.beq _ sz&&RS sz cls)=true;rw[a2,←b1.1,hb]; rfl
     ·rw[List.flatten_cons]; exact(O9 b1 (fun q hq=>k1 q (List.mem_append_left _ hq)) (fun q hq=>k2 q (List.mem_append_left _ hq))).append a3
   ·cases h
  ·cases h
theorem TS {ob:List Tok}{sl:Sl}{sz:Nat}: ∀{l:List (Nat×Operand)} {cs:List AV} {rd fw:List Tok},TT ob sl sz l=some (cs,rd,fw)→∀p∈fw++rd,p∈ob
 | [],cs,rd,fw,h=>by cases h; intro p hp; simp at hp
 |p::l,cs,rd,fw,h=>by
  unfold TT at h;split at h
  ·rename_i r rd' fw' h1;split at h
   ·rename_i c h2;cases hb:Nat.beq c.length sz
    ·rw[hb]at h; cases h
    ·rw[hb]at h; cases h;intro q hq;have i1:=TS h1 q;have i2:=PT (ob:=ob) (cs:=c) q;simp only[Al5]at hq i1 i2;rcases hq with (e|e)|(e|e)
     ·exact i2 (.inl e)
     ·exact i1 (.inl e)
     ·exact i2 (.inr e)
     ·exact i1 (.inr e)
   ·cases h
  ·cases h
def Adc (P:Program)(cf:Cf):Option (List AV×Nat×Nat×Bool×List Tok×List Tok):=
 match Hf cf with
 |some a=>match a.g,a.o.op with
  |none,.buildSlice t n parts=>match P.underlying t with
   |some (.slice e)=>match J7 P e with
    |some i=>match i.z,TT cf.s.ob a.sl i.sz parts.toList with
     |some _,some (cs,rd,fw)=>some (cs,n,i.sz,(Ahx 0 parts.toList&&(Nat.beq n parts.toList.length&&(Nat.ble (n*i.sz) 16777216&&Nat.ble 1 i.sz)))&&(X2 (tids (fw++rd))&&(rd.all (fun p=>WG p.2)&&fw.all (fun p=>Ln p.2))),rd,fw)
     |_,_=>none
    |none=>none
   |_=>none
  |_,_=>none
 |none=>none
def Akb (P:Program)(cf:Cf):Option (List AV×Nat×Nat×Bool):=(Adc P cf).map fun r=>(r.1,r.2.1,r.2.2.1,r.2.2.2.1)
def Aka (P:Program)(cf:Cf)(α:Type)(E:α→List D)(xs:List α):Stp:=match Adc P cf with|some (_,_,_,_,rd,fw)=>⟨.d (.sl α E xs),rd,fw,enO cf.s.nx (Sw fw),cf.s.nx+(Sw fw).length,[]⟩|none=>⟨.d (.sl α E xs),[],[],[],cf.s.nx,[]⟩
def litVO (P:Program)(cf:Cf)(sz:Nat)(α:Type)(E:α→List D)(xs:List α):Stp:=match Adc P cf with|some (_,_,_,_,rd,fw)=>⟨.ow cf.s.nx,rd,fw,enO cf.s.nx (.row cf.s.nx sz α E xs::Sw fw),cf.s.nx+(1+(Sw fw).length),[]⟩|none=>AhH cf.s sz α E xs
section
variable {ρ:Option Nat}{P:Program}{N:Nat}{D0:Dw}{Q:DQ}{As:List Ow}{η0:Env}{m0:Mem}
theorem Age {k:Nat}{cf:Cf}{α:Type}{E:α→List D}{xs:List α}(hE: ∀x,(E x).length=k)(e:Akb P cf=some ((xs.flatMap E).map dv,xs.length,k,true)):
  ∃(a:Ahn) (rd fw:List Tok),Hf cf=some a∧a.g=none∧(∀α' (E':α'→List D) xs',Aka P cf α' E' xs'=⟨.d (.sl α' E' xs'),rd,fw,enO cf.s.nx (Sw fw),cf.s.nx+(Sw fw).length,[]⟩)∧
   (∀sz α' (E':α'→List D) xs',litVO P cf sz α' E' xs'=⟨.ow cf.s.nx,rd,fw,enO cf.s.nx (.row cf.s.nx sz α' E' xs'::Sw fw),cf.s.nx+(1+(Sw fw).length),[]⟩)∧(∀p∈fw++rd,p∈cf.s.ob)∧(tids (fw++rd)).Nodup∧rd.all (fun p=>WG p.2)=true∧
   ∀rest Q η m f w As,(∀t,Rel η m (get a.sl t) (f t))→St m (reps η m (fw++rd)++As) w→
    (∀(m1:Mem) v w' cs,m≤m1→(∀p∈fw,∃v,η p.2.nm=some v∧FR m1 (Kg p.2) v)→(∀p∈rd,∃v,η p.2.nm=some v∧FR m1 (Kg p.2) v)→FRL m1 (xs.flatMap E) cs→St m1 (Gw.row k v cs xs.length::As) w'→wpl ρ P N D0 a.l.toArray rest Q (upo N f a.o.dst v) w')→
    wpl ρ P N D0 a.l.toArray (a.o::rest) Q f w:=by
 unfold Akb at e;cases hp:Adc P cf with
 |none=>rw[hp]at e; cases e
 |some r=>
  obtain⟨cs,n,sz,b,rd,fw⟩:=r;rw[hp]at e;simp only[AlV,AlJ,AlE]at e;obtain⟨ec,en,ek,eb⟩:=e;have hp0:=hp;unfold Adc at hp;split at hp
  ·rename_i a ha;split at hp
   ·rename_i t n' parts hg hop;split at hp
    ·rename_i e hu;split at hp
     ·rename_i i hi;split at hp
      ·rename_i z cs' rd' fw' hz hcs;simp only[AlJ,AlE]at hp;obtain⟨q1,q2,q3,q4,q5,q6⟩:=hp;subst q1 q2 q3 q5 q6;rw[←q4]at eb;simp only[AlD]at eb;obtain⟨⟨b1,b2,b3,b4⟩,o1,o2,o3⟩:=eb;have hgd:=B0 ha hg;refine⟨a,rd',fw',ha,hg,fun _ _ _=>by unfold Aka; rw[hp0],fun _ _ _ _=>by unfold litVO; rw[hp0],TS hcs,I0 o1,o2,?_⟩;obtain⟨l,⟨dst,op,ty,pos,af,gd⟩,gg,sl,es⟩:=a;simp only at hop hgd hcs⊢; subst hop hgd;intro rest Q η m f w As hr S hk;rw[BB,AlP]at S;obtain⟨m1,l1,K1,S2⟩:=M7 o3 S;have S3:=St.ru Env.le_refl l1 S2;obtain⟨K2,S4⟩:=PM o2 S3;have hr1: ∀t,Rel η m1 (get sl t) (f t):=fun t=>(hr t).up Env.le_refl l1;obtain⟨cls,a1,a2,a3⟩:=W8 hr1 hcs K1 K2;have hps:=Rm b1;have e0:parts=(((parts.toList.map (·.2)).zipIdx 0).map fun p=>(p.2,p.1)).toArray:=by
        rw[←hps]
       rw[e0];have hlen:((parts.toList.map (·.2)).map (ev f)).length=n':=by simp; exact(AlF b2).symm
       refine XH (vs:=(parts.toList.map (·.2)).map (ev f)) (cls:=cls) S4 hu (B8 hi) (OK hi hz) rfl a1 a2 hlen.symm (AlS b3) (AlS b4) fun v w' S'=> ?_;rw[ek,en]at S';rw[ec]at a3;exact hk m1 v w' _ l1 K1 K2 (FRL.ofRelv a3) S'
      ·cases hp
     ·cases hp
    ·cases hp
   ·cases hp
  ·cases hp
theorem AaO {k:Nat}{cf:Cf}{α:Type}(E:α→List D)(xs:List α)(hE: ∀x,(E x).length=k)(g:Go ρ P N D0 Q As η0 m0 (push N (aC P N cf) (Aka P (aC P N cf) α E xs)))
  (e:(Akb P (aC P N cf),(aL P N cf))=(some ((xs.flatMap E).map dv,xs.length,k,true),(aR P N cf)):=by kernel_rfl) (hm:P.follows .mixedOrders=true:=by rfl):Go ρ P N D0 Q As η0 m0 cf:=by
 simp only[AlE]at e;obtain⟨e1,e3⟩:=e;obtain⟨he1,-⟩:=KV e3;refine A2 hm he1 ?_;generalize aC P N cf=c0 at*;obtain⟨a,rd,fw,ha,hg,hS,-,hsub,hnd,ho2,run⟩:=Age (ρ:=ρ) (N:=N) (D0:=D0) hE e1;rw[hS]at g;refine El ha hg ⟨Nat.le_add_right _ _,fun rest Q η m f w As hr hz hn S hk=> ?_⟩ ⟨hsub,hnd,?_,fun t ht=> ?_⟩ g
 ·refine run rest Q η m f w As hr S fun m1 v w' cs l1 K1 K2 hc S'=> ?_;letI:=QO E k;obtain⟨m2,l2,h5,S2⟩:=St.rowKeepT (i:=0) S' rfl (Aat hc fun x _=>hE x) rfl;have F1: ∀p∈fw,∃v,η p.2.nm=some v∧FR m2 (Kg p.2) v:=fun p hp=>let ⟨v,a,b⟩:=K1 p hp; ⟨v,a,b.up l2⟩;have F2: ∀p∈rd,∃v,η p.2.nm=some v∧FR m2 (Kg p.2) v:=fun p hp=>let ⟨v,a,b⟩:=K2 p hp; ⟨v,a,b.up l2⟩;refine hk η m2 w' v Env.le_refl (Mem.tr l1 l2) (fun n h=> .inl h) (.d (V5 h5)) ?_;rw[BB,AlP,KE];exact Nw F1 (O5 ho2 F2 S2)
 ·simp only; rw[GF]; exact List.nodup_range'
 ·simp only at ht⊢;rw[GF,List.mem_range']at ht;obtain⟨i2,hi2,rfl⟩:=ht;omega
theorem AcT: ∀{L:List Value},(∀v∈L,v.oneCell'=true)→Aho L
 | [],_=>trivial
 |a::l,h=>⟨h a AlZ,AcT fun v hv=>h v (Al4 _ hv)⟩
def Acl (ob:List Tok)(n:Nat):Option (D×Nat×Tok):=match find n ob with|some (i,.row k sz α E xs)=>bif Nat.beq k n then some (.sl α E xs,sz,(i,.row k sz α E xs))else none|_=>none
theorem UI {ob:List Tok}{n sz:Nat}{d:D}{p:Tok}(h:Acl ob n=some (d,sz,p)):p∈ob∧∃i α E xs,d= .sl α E xs∧p=(i,AObj.row n sz α E xs):=by
 unfold Acl at h;split at h
 ·rename_i i k sz' α E xs hf;cases hb:Nat.beq k n
  ·rw[hb]at h; cases h
  ·rw[hb]at h; cases h;have:=AlF hb; subst this;exact⟨Fw hf,i,α,E,xs,rfl,rfl⟩
 ·cases h
def AaL (P:Program)(cf:Cf):Option (D×Int×Nat×Nat×Bool×Tok):=
 match Hf cf with
 |some a=>match a.o.op with
  | .indexAddr t x y=>match aev a.sl x,Pf a.sl y,P.underlying t with
   | .ow n,some (_,j),some (.slice e)=>match J7 P e,Acl cf.s.ob n with
    |some i,some (d,sz,p)=>some (d,j,sz,n,Nat.beq i.sz sz,p)
    |_,_=>none
   |_,_,_=>none
  |_=>none
 |none=>none
def Agx (P:Program)(cf:Cf):List Tok:=match AaL P cf with|some (_,_,_,_,_,p)=> [p]|none=> []
def Agw (P:Program)(cf:Cf):AV:=match AaL P cf with|some (_,j,sz,n,_,_)=> .pe n j sz 0|none=> .any
theorem I6 {cf:Cf}{α:Type}{E:α→List D}{xs:List α}{j:Int}{x:α}(hq:gOf (aC P N cf)=true→idx xs j=some x)(g:Go ρ P N D0 Q As η0 m0 (CV N (aC P N cf) (Agw P (aC P N cf)) (Agx P (aC P N cf))))
  (e:((AaL P (aC P N cf)).map (fun r=>(r.1,r.2.1,r.2.2.2.2.1)),(aL P N cf))=(some (.sl α E xs,j,true),(aR P N cf)):=by kernel_rfl) (hm:P.follows .mixedOrders=true:=by rfl):Go ρ P N D0 Q As η0 m0 cf:=by
 simp only[AlE]at e;obtain⟨e1,e3⟩:=e;obtain⟨he1,he2⟩:=KV e3;refine A2 hm he1 ?_;generalize aC P N cf=c0 at*;cases hk:AaL P c0 with
 |none=>rw[hk]at e1; cases e1
 |some r=>
  obtain⟨d,j',sz,nn,ok,p⟩:=r;have hT:Agx P c0=[p]:=by unfold Agx; rw[hk]
  have hV:Agw P c0= .pe nn j' sz 0:=by unfold Agw; rw[hk]
  rw[hT,hV]at g;rw[hk]at e1;simp only[AlV,AlJ,AlE]at e1;obtain⟨e1,e2,e4⟩:=e1;subst e1 e2 e4;unfold AaL at hk;split at hk
  ·rename_i a ha;rw[DX ha]at he2;split at hk
   ·rename_i t x' y hop;split at hk
    ·rename_i n' kk jj e' h1 h2 h3;split at hk
     ·rename_i i d' sz' p' hi hrow;simp only[AlJ,AlE]at hk;obtain⟨q1,q2,q3,q4,q5,q6⟩:=hk;subst q1 q2 q3 q4 q6;obtain⟨hmem,i0,α',E',xs',hd,hp⟩:=UI hrow;cases hd; subst hp;refine DW ha he2 ⟨fun x hx=>by simp at hx; subst hx; exact hmem,by simp[tids]⟩ (fun hp=> ?_) g;have q:=hq (Ma ha hp);obtain⟨l,⟨dst,op,ty,pos,af,gd⟩,gg,sl,es⟩:=a;simp only at hop⊢; subst hop;refine⟨AlK _,fun rest Q η m f w As hr hz hn S hk=> ?_⟩;have S':St m (rep η m (.row n' sz' α E xs)::As) w:=S;obtain⟨v,cs,a1,a2,a3,a4,S1⟩:=St.openRow S';have rx:=Aq hr x'; rw[h1]at rx;have ex:=rx.ow_inv.1;rw[a1]at ex;have hr2:=Ob q;refine s_idxO (i:=0) (j:=jj) S1 (AlC ex).symm (B7 h2 hr) rfl hr2.1 hr2.2 h3 (by rw[←AlF q5]; exact B8 hi) fun p hp=> ?_;exact hk η m w p Env.le_refl (Mem.rfl' m) (fun n h=> .inl h) (.pe a1 hp) S
     ·cases hk
    ·cases hk
   ·cases hk
  ·cases hk
def ldOP (P:Program)(cf:Cf):Option (D×Int×Nat×Nat×Bool×Nat×Bool×Tok):=
 match Hf cf with
 |some a=>match a.o.op with
  | .load t x=>match aev a.sl x,J7 P t with
   | .pe n j sz fo,some i=>match Acl cf.s.ob n with
    |some (d,sz',p)=>some (d,j,fo,i.sz,i.agg,sz,Nat.beq sz sz'&&(Nat.ble (fo+i.sz) sz&&(i.agg||Nat.beq i.sz 1)),p)
    |none=>none
   |_,_=>none
  |_=>none
 |none=>none
def ldOT (P:Program)(cf:Cf):List Tok:=match ldOP P cf with|some (_,_,_,_,_,_,_,p)=> [p]|none=> []
theorem Yh {k fo nn:Nat}{ag:Bool}{cf:Cf}{α:Type}{E:α→List D}{xs:List α}{j:Int}{x:α}(hE: ∀x,(E x).length=k)(hq:gOf (aC P N cf)=true→idx xs j=some x)(g:Go ρ P N D0 Q As η0 m0 (CV N (aC P N cf) (pkA ag ((((E x).drop fo).take nn).map .d)) (ldOT P (aC P N cf))))
  (e:((ldOP P (aC P N cf)).map (fun r=>(r.1,r.2.1,r.2.2.1,r.2.2.2.1,r.2.2.2.2.1,r.2.2.2.2.2.1,r.2.2.2.2.2.2.1)),(aL P N cf))=(some (.sl α E xs,j,fo,nn,ag,k,true),(aR P N cf)):=by kernel_rfl) (hm:P.follows .mixedOrders=true:=by rfl):Go ρ P N D0 Q As η0 m0 cf:=by
 simp only[AlE]at e;obtain⟨e1,e3⟩:=e;obtain⟨he1,he2⟩:=KV e3;refine A2 hm he1 ?_;generalize aC P N cf=c0 at*;cases hk:ldOP P c0 with
 |none=>rw[hk]at e1; cases e1
 |some r=>
  obtain⟨d,j',fo',nn',ag',k',ok,p⟩:=r;have hT:ldOT P c0=[p]:=by unfold ldOT; rw[hk]
  rw[hT]at g;rw[hk]at e1;simp only[AlV,AlJ,AlE]at e1;obtain⟨e1,e2,e4,e5,e6,e7,e8⟩:=e1;subst e1 e2 e4 e5 e6 e7 e8;unfold ldOP at hk;split at hk
  ·rename_i a ha;rw[DX ha]at he2;split at hk
   ·rename_i t x' hop;split at hk
    ·rename_i n' jj sz fo2 i h1 hi;split at hk
     ·rename_i d' sz' p' hrow;simp only[AlJ,AlE]at hk;obtain⟨q1,q2,q3,q4,q5,q6,q7,q8⟩:=hk;subst q1 q2 q3 q4 q5 q6 q8;simp only[AlD,Amr]at q7;obtain⟨b1,b2,b3⟩:=q7;have b1:=AlF b1;have b2:=AlS b2;obtain⟨hmem,i0,α',E',xs',hd,hp⟩:=UI hrow;cases hd; subst hp;subst b1;refine DW ha he2 ⟨fun x hx=>by simp at hx; subst hx; exact hmem,by simp[tids]⟩ (fun hp=> ?_) g;have q:=hq (Ma ha hp);obtain⟨l,⟨dst,op,ty,pos,af,gd⟩,gg,sl,es⟩:=a;simp only at hop⊢; subst hop;refine⟨AlK _,fun rest Q η m f w As hr hz hn S hk=> ?_⟩;have S':St m (rep η m (.row n' sz α E xs)::As) w:=S;obtain⟨v,cs,a1,a2,a3,a4,S1⟩:=St.openRow S';have rx:=Aq hr x'; rw[h1]at rx;obtain⟨v',hv',hp'⟩:=rx.pe_inv;rw[a1]at hv'; cases hv';letI:=QO E sz;have hrep:GoT.rep m ((cs.drop (jj.toNat*sz)).take sz) x:=CI.getI (Aat a3 a4) q;have hf:FRL m (E x) ((cs.drop (jj.toNat*sz)).take sz):=hrep.1;have hseg:=(hf.drop fo2).take i.sz;have hd:((((cs.drop (jj.toNat*sz)).take sz).drop fo2).take i.sz)=(cs.drop (jj.toNat*sz+fo2)).take i.sz:=by
       rw[List.drop_take,List.take_take,AmD,Nat.min_eq_left (by omega)]
      have hlE:(((E x).drop fo2).take i.sz).length=i.sz:=by rw[Al0,Amg,hE x]; omega
      have hlen:((cs.drop (jj.toNat*sz+fo2)).take i.sz).length=i.sz:=by rw[←hd,←hseg.1,hlE]
      have h1':i.agg=false→i.sz=1:=fun e=>by
       rcases b3 with z|z
       ·rw[e]at z; cases z
       ·exact AlF z
      rw[hd]at hseg;refine s_ldO (i:=0) (d:=(cs.drop (jj.toNat*sz+fo2)).take i.sz) S1 rfl hp' rfl (by rw[hlen]) (Km hi) (by rw[hlen]; exact B8 hi) (fun e=>by rw[hlen,h1' e]) ?_;exact hk η m w _ Env.le_refl (Mem.rfl' m) (fun n h=> .inl h) (RB (.ofD hseg) fun e=>by rw[Amo,hlE,h1' e]) S
     ·cases hk
    ·cases hk
   ·cases hk
  ·cases hk
def stOP (P:Program)(cf:Cf):Option (D×Int×Nat×List AV×Nat×Bool×Nat×Tok×List Tok×List Tok):=
 match Hf cf with
 |some a=>match a.g,a.o.op with
  |none,.store t x y=>match aev a.sl x,NQ (aev a.sl y),J7 P t with
   | .pe n j sz fo,some ds,some i=>match Acl cf.s.ob n with
    |some (d,sz',p)=>some (d,j,fo,(Ep cf.s.ob ds).1,sz,(Nat.beq sz sz'&&Nat.beq i.sz ds.length)&&(X2 (tids ((p::(Ep cf.s.ob ds).2.2)++(Ep cf.s.ob ds).2.1))&&((Ep cf.s.ob ds).2.1.all (fun p=>WG p.2)&&(Ep cf.s.ob ds).2.2.all (fun p=>Ln p.2))),n,p,(Ep cf.s.ob ds).2.1,(Ep cf.s.ob ds).2.2)
    |none=>none
   |_,_,_=>none
  |_,_=>none
 |none=>none
def stOS (P:Program)(cf:Cf)(sz:Nat)(α:Type)(E:α→List D)(xs:List α):Stp:=match stOP P cf with|some (_,_,_,_,_,_,n,p,rd,fw)=>⟨.no,rd,p::fw,enO cf.s.nx (.row n sz α E xs::Sw fw),cf.s.nx+(1+(Sw fw).length),[]⟩|none=>AhH cf.s sz α E xs
theorem AeZ {k:Nat}{cf:Cf}{α:Type}{E:α→List D}{xs:List α}{j:Int}{z0:α}(z:α)(hE: ∀x,(E x).length=k)(hq:idx xs j=some z0)(g:Go ρ P N D0 Q As η0 m0 (push N (aC P N cf) (stOS P (aC P N cf) k α E (xs.set j.toNat z))))
  (e:((stOP P (aC P N cf)).map (fun r=>(r.1,r.2.1,r.2.2.1,r.2.2.2.1,r.2.2.2.2.1,r.2.2.2.2.2.1)),(aL P N cf))=(some (.sl α E xs,j,0,(E z).map dv,k,true),(aR P N cf)):=by kernel_rfl) (hm:P.follows .mixedOrders=true:=by rfl):Go ρ P N D0 Q As η0 m0 cf:=by
 simp only[AlE]at e;obtain⟨e1,e3⟩:=e;obtain⟨he1,-⟩:=KV e3;refine A2 hm he1 ?_;generalize aC P N cf=c0 at*;cases hk:stOP P c0 with
 |none=>rw[hk]at e1; cases e1
 |some r=>
  obtain⟨d,j',fo,ds,k',ok,nn,p,rd,fw⟩:=r;have hS:stOS P c0 k α E (xs.set j.toNat z)=⟨.no,rd,p::fw,enO c0.s.nx (.row nn k α E (xs.set j.toNat z)::Sw fw),c0.s.nx+(1+(Sw fw).length),[]⟩:=by unfold stOS; rw[hk]
  rw[hS]at g;rw[hk]at e1;simp only[AlV,AlJ,AlE]at e1;obtain⟨e1,e2,e4,e5,e6,e7⟩:=e1;subst e1 e2 e4 e6 e7;unfold stOP at hk;split at hk
  ·rename_i a ha;split at hk
   ·rename_i t x y hg hop;split at hk
    ·rename_i n' jj sz fo2 ds0 i h1 h2 hi;split at hk
     ·rename_i d' sz' p' hrow;simp only[AlJ,AlE]at hk;obtain⟨q1,q2,q3,q4,q5,q6,q7,q8,q9,q10⟩:=hk;subst q1 q2 q3 q5 q7 q8 q9 q10;simp only[AlD]at q6;obtain⟨⟨b1,b2⟩,b3,b4,b5⟩:=q6;have b1:=AlF b1;have b2:=AlF b2;obtain⟨hmem,i0,α',E',xs',hd,hp⟩:=UI hrow;cases hd; subst hp;subst b1;have hgd:=B0 ha hg;have csub:=PT (ob:=c0.s.ob) (cs:=ds0);refine El ha hg ?_ ?_ g
      ·obtain⟨l,⟨dst,op,ty,pos,af,gd⟩,gg,sl,es⟩:=a;simp only at hop hgd h1 h2⊢; subst hop hgd;refine⟨Nat.le_add_right _ _,fun rest Q η m f w As hr hfz hn S hk=> ?_⟩;simp only at S hk hn;rw[BB,AlP]at S;have S0:St m (rep η m (.row n' sz α E xs)::(reps η m (Ep c0.s.ob ds0).2.2++(reps η m (Ep c0.s.ob ds0).2.1++As))) w:=S;have S1:=S0.perm List.perm_middle.symm;obtain⟨m1,l1,K1,S2⟩:=M7 b5 S1;obtain⟨v,cs,a1,a2,a3,a4,S3⟩:=St.openRow (m:=m1) (St.imp0 S2 fun h hh=>rep.up Env.le_refl l1 hh);have S4:=S3.perm List.perm_middle.symm;have S5:=St.ru Env.le_refl l1 S4;obtain⟨K2,S6⟩:=PM b4 S5;have hr1: ∀t,Rel η m1 (get sl t) (f t):=fun t=>(hr t).up Env.le_refl l1;obtain⟨c1,c2⟩:=IW h2 (Aq hr1 y);have c3:=O9 c1 K1 K2;rw[q4,e5]at c3;have c4:=FRL.ofRelv c3;have rx:=Aq hr1 x; rw[h1]at rx;obtain⟨v',hv',hp'⟩:=rx.pe_inv;rw[a1]at hv'; cases hv';letI:=QO E sz;have hsz:(ev f y).cells.size=ds0.length:=by rw[c1.1]; simp
       refine s_stOR (α:=α) (i:=0) (z:=z) S6 rfl rfl (by rw[AmH]at hp'; exact hp') rfl (Aat a3 a4) hq (by rw[hsz,←b2]; exact B8 hi) (AcT c4.one) ⟨c4,hE z⟩ fun w' cs' S7 hrep=> ?_;have hrep':=Acr hrep;refine hk η m1 w' undef Env.le_refl l1 (fun n h=> .inl h) .no ?_;rw[BB,AlP,KE];show St m1 (rep η m1 (.row n' sz α E (xs.set jj.toNat z))::((Sw (Ep c0.s.ob ds0).2.2).map (rep η m1)++(reps η m1 (Ep c0.s.ob ds0).2.1++As))) w';have T1:=St.closeRow (η:=η) (n:=n') a1 a2 hrep'.1 hrep'.2 S7;have T2:=Nw K1 (O5 b4 K2 T1);exact T2.perm ((Al7 _ AmJ).trans AmJ)
      ·refine⟨fun q hq=> ?_,I0 b3,?_,fun t ht=> ?_⟩
       ·simp only[AmQ,Al6]at hq;rcases hq with h|h
        ·subst h; exact hmem
        ·exact csub q h
       ·simp only; rw[GF]; exact List.nodup_range'
       ·simp only at ht⊢;rw[GF,List.mem_range']at ht;obtain⟨i2,hi2,rfl⟩:=ht;simp only[AlM]at hi2;omega
     ·cases hk
    ·cases hk
   ·cases hk
  ·cases hk
def PS (a b:Sl):Prop:= ∀(t:Nat) (η:Env) (m:Mem) (v:Value),Rel η m (get a t) v→Rel η m (get b t) v
theorem PS.rst {a b:Sl}(p:PS a b): ∀(ts:List Nat),PS (rst ts a) (rst ts b)
 | [],_,_,_,_,_=> .any _
 |x::ts,t,η,m,v,h=>by
  have h':Rel η m (bif Nat.beq x t then get a x else get (Ax.rst ts a) t) v:=h;show Rel η m (bif Nat.beq x t then get b x else get (Ax.rst ts b) t) v;cases hb:Nat.beq x t
  ·rw[hb]at h'; exact PS.rst p ts t η m v h'
  ·rw[hb]at h'; exact p x η m v h'
theorem PS.setS {a b:Sl}(p:PS a b)(N:Nat)(d:Option Nat)(x:AV):PS (setS N a d x) (setS N b d x):=fun t η m v h=>by
 cases d with
 |none=>exact p t η m v h
 |some d=>
  unfold Ax.setS at*;cases hb:Nat.blt d N
  ·simp only[hb,cond_false]at h⊢; exact p t η m v h
  ·simp only[hb,cond_true,get]at h⊢;cases hq:Nat.beq d t
   ·rw[hq]at h; exact p t η m v h
   ·rw[hq]at h; exact h
theorem AiK {ops:Array Oper}{F:AS→List (Oper×Stp)→Prop}(hF: ∀(a b:Sl) ob fz nx h,PS a b→F ⟨b,ob,fz,nx⟩ h→F ⟨a,ob,fz,nx⟩ h):
  ∀{l:List Oper} {a b:Sl} {ob:List Tok} {fz:Fz} {nx:Nat} {h:List (Oper×Stp)},PS a b→FT ρ P N D0 ops F l ⟨b,ob,fz,nx⟩ h→FT ρ P N D0 ops F l ⟨a,ob,fz,nx⟩ h
 | [],a,b,ob,fz,nx,h,p,g=>hF a b ob fz nx h p g
 |o::l,a,b,ob,fz,nx,h,p,⟨r,t1,t2,t3⟩=>
  ⟨r,⟨t1.1,fun rest Q η m f w As hr=>t1.2 rest Q η m f w As fun t=>(p.rst _) t η m _ (hr t)⟩,⟨t2.sub,t2.nd,t2.mnd,t2.mlt⟩,AiK hF (p.setS N o.dst r.v) t3⟩
theorem XJ: ∀{rs:Ge} {a b:Sl} {ob:List Tok} {fz:Fz} {nx:Nat},PS a b→PS (H2 N ⟨a,ob,fz,nx⟩ rs).sl (H2 N ⟨b,ob,fz,nx⟩ rs).sl∧(H2 N ⟨a,ob,fz,nx⟩ rs).nx=(H2 N ⟨b,ob,fz,nx⟩ rs).nx
 | [],_,_,_,_,_,p=>⟨p,rfl⟩
 |r::rs,a,b,ob,fz,nx,p=>XJ (rs:=rs) (p.setS N r.1.dst r.2.v)
theorem Aix: ∀{rs:Ge} {a b:Sl} {ob:List Tok} {fz:Fz} {nx:Nat},Ch0 N ⟨b,ob,fz,nx⟩ rs→Ch0 N ⟨a,ob,fz,nx⟩ rs
 | [],_,_,_,_,_,_=>trivial
 |r::rs,a,b,ob,fz,nx,c=>⟨c.1,⟨c.2.1.sub,c.2.1.nd,c.2.1.mnd,c.2.1.mlt⟩,Aix (rs:=rs) (b:=Ax.setS N b r.1.dst r.2.v) c.2.2⟩
theorem FP_sub {a b:Sl}{ob:List Tok}{fz:Fz}{nx:Nat}{Q:DQ}{l rest:List Oper}{h:Ge}(p:PS a b)(g:FP ρ P N D0 As m0 Q l rest ⟨b,ob,fz,nx⟩ h):FP ρ P N D0 As m0 Q l rest ⟨a,ob,fz,nx⟩ h:=by
 obtain⟨rs,bad,k,q,h1,h2,h3,h4,h5,h6,h7,h8,h9⟩:=g;refine⟨rs,bad,k,q,h1,Aix h2,fun i r hr hb=> ?_,h4,h5,h6,h7,h8,?_⟩
 ·obtain⟨t1,t2⟩:=h3 i r hr hb;obtain⟨p1,p2⟩:=XJ (N:=N) (rs:=rs.take i) (ob:=ob) (fz:=fz) (nx:=nx) p;rw[p2];exact⟨t1,fun rest Q η m f w As hr=>t2 rest Q η m f w As fun t=>(p1.rst _) t η m _ (hr t)⟩
 ·obtain⟨p1,p2⟩:=XJ (N:=N) (rs:=rs.take k) (ob:=ob) (fz:=fz) (nx:=nx) p;exact fun η m f w Bs x y z u=>h9 η m f w Bs (fun t=>(p1.rst _) t η m _ (x t)) y z u
def setK (g:Nat)(v:Bool)(cf:Cf):Cf:=⟨⟨(g,.d (.v (.bool v)))::cf.s.sl,cf.s.ob,cf.s.fz,cf.s.nx⟩,cf.md,cf.K⟩
theorem TL {a b:Sl}{ob:List Tok}{fz:Fz}{nx:Nat}(p:PS a b){η:Env}{m:Mem}{f:Fr}{w:World}(g:Gm As ⟨a,ob,fz,nx⟩ η m f w):Gm As ⟨b,ob,fz,nx⟩ η m f w:=
 ⟨fun t=>p t η m _ (g.slr t),g.fz,g.dom,g.st,⟨g.wf.nd,g.wf.lt⟩⟩
theorem AbY {g:Nat}{v:Bool}{cf:Cf}(h:get cf.s.sl g= .d (.t v))(k:Go ρ P N D0 Q As η0 m0 (setK g v cf)):Go ρ P N D0 Q As η0 m0 cf:=by
 obtain⟨⟨sl,ob,fz,nx⟩,md,K⟩:=cf;have p:PS sl ((g,.d (.v (.bool v)))::sl):=fun t η m u r=>by
  show Rel η m (bif Nat.beq g t then _ else get sl t) u;cases hb:Nat.beq g t
  ·exact r
  ·have:=AlF hb; subst this;simp only at h;rw[h]at r;rw[r.t_inv];exact .d (.v _ rfl)
 cases md with
 |code c=>exact fun η m f w a b gm=>k η m f w a b (TL p gm)
 |pop=>exact fun η m f w a b gm=>k η m f w a b (TL p gm)
 |ext id=>exact fun η m f w a b gm=>k η m f w a b (TL p gm)
 |ret=>exact fun η m f w a b gm=>k η m f w a b (TL p gm)
 |ops dr l rest hh=>
  rcases k with k|⟨hd,k⟩|⟨hd,k⟩;rotate_right
  ·exact .inr (.inr ⟨hd,FP_sub p k⟩)
  ·exact .inl (AiK (fun a b ob fz nx h p F=>⟨F.1,fun η m f w x y gm=>F.2 η m f w x y (TL p gm)⟩) p k)
  ·exact .inr (.inl ⟨hd,fun η m f w a b gm=>k η m f w a b (TL p gm)⟩)
def atG (g:Nat)(cf:Cf):Bool:=
 match cf.md with
 | .ops _ l (o::_) _=>match o.guard with
  |some (j,_)=>match Yr l.toArray j with
   |some g'=>Nat.beq g' g
   |none=>false
  |none=>false
 |_=>false
def Ta (g:Nat)(P:Program)(N:Nat):Nat→Cf→Cf×Eqs
 |0,cf=>(cf,[])
 |n+1,cf=>bif atG g cf then(cf,[])else match nxt P N cf with
  |some r=>let q:=Ta g P N n r.1; (q.1,r.2++q.2)
  |none=>(cf,[])
theorem AeG {id:Nat}(hm:P.follows .mixedOrders=true): ∀{n:Nat} {cf:Cf},EqsOk (Ta id P N n cf).2→Go ρ P N D0 Q As η0 m0 (Ta id P N n cf).1→Go ρ P N D0 Q As η0 m0 cf
 |0,_,_,g=>g
 |n+1,cf,he,g=>by
  cases hb:atG id cf with
  |true=>
   have e:Ta id P N (n+1) cf=(cf,[]):=by simp only[Ta,hb,cond_true]
   rw[e]at g; exact g
  |false=>
   cases hr:nxt P N cf with
   |none=>
    have e:Ta id P N (n+1) cf=(cf,[]):=by simp only[Ta,hr,hb,cond_false]
    rw[e]at g; exact g
   |some r=>
    have e:Ta id P N (n+1) cf=((Ta id P N n r.1).1,r.2++(Ta id P N n r.1).2):=by simp only[Ta,hr,hb,cond_false]
    rw[e]at g he;have he':=EqsOk.app.1 he;exact RH hm hr he'.1 (AeG hm (n:=n) he'.2 g)
theorem go_spl {g:Nat}(hm:P.follows .mixedOrders=true){n:Nat}{cf:Cf}{b:Bool}(e:(get (Ta g P N n cf).1.s.sl g,((Ta g P N n cf).2).map (·.1))=(.d (.t b),((Ta g P N n cf).2).map (·.2)))
  (h1:b=true→Go ρ P N D0 Q As η0 m0 (setK g true (Ta g P N n cf).1)) (h0:b=false→Go ρ P N D0 Q As η0 m0 (setK g false (Ta g P N n cf).1)):Go ρ P N D0 Q As η0 m0 cf:=by
 simp only[AlE]at e;obtain⟨e1,e3⟩:=e;refine AeG hm (.of e3) ?_;cases b with
 |true=>exact AbY e1 (h1 rfl)
 |false=>exact AbY e1 (h0 rfl)
def idxVP (P:Program)(cf:Cf):Option (List AV×Int×Nat×Nat×Bool×Bool):=
 match Hf cf with
 |some a=>match a.o.op with
  | .index t x y=>match aev a.sl x,Pf a.sl y,P.underlying t with
   | .agg cs,some (_,j),some (.array n e)=>match J7 P e with
    |some i=>some (cs,j,n,i.sz,i.agg,i.agg||Nat.beq i.sz 1)
    |none=>none
   |_,_,_=>none
  |_=>none
 |none=>none
theorem gidxV {k:Nat}{ag:Bool}{cf:Cf}{α:Type}{E:α→List D}{j:Int}{x:α}(xs:List α)(hE: ∀x,(E x).length=k)(hq:gOf (aC P N cf)=true→idx xs j=some x)(g:Go ρ P N D0 Q As η0 m0 (CV N (aC P N cf) (pkA ag ((E x).map .d)) []))
  (e:(idxVP P (aC P N cf),(aL P N cf))=(some ((xs.flatMap E).map dv,j,xs.length,k,ag,true),(aR P N cf)):=by kernel_rfl) (hm:P.follows .mixedOrders=true:=by rfl):Go ρ P N D0 Q As η0 m0 cf:=by
 simp only[AlE]at e;obtain⟨e1,e3⟩:=e;obtain⟨he1,he2⟩:=KV e3;refine A2 hm he1 ?_;generalize aC P N cf=c0 at*;unfold idxVP at e1;split at e1
 ·rename_i a ha;rw[DX ha]at he2;split at e1
  ·rename_i t x' y hop;split at e1
   ·rename_i cs kk jj n' e' h1 h2 h3;split at e1
    ·rename_i i hi;simp only[AlJ,AlE,Amr]at e1;obtain⟨q1,q2,q3,q4,q5,q6⟩:=e1;subst q1 q2 q3 q4 q5;refine DW (rd:=[]) ha he2 ⟨fun _ h=>(by cases h),List.nodup_nil⟩ (fun hp=> ?_) g;have q:=hq (Ma ha hp);obtain⟨l,⟨dst,op,ty,pos,af,gd⟩,gg,sl,es⟩:=a;simp only at hop h1 h2⊢; subst hop;refine⟨AlK _,fun rest Q η m f w As hr hz hn S hk=> ?_⟩;have rx:=Aq hr x'; rw[h1]at rx;obtain⟨vs,ev_,rl⟩:=rx.agg_inv;letI:=QO E i.sz;have hrep:GoT.rep m ((vs.drop (jj.toNat*i.sz)).take i.sz) x:=CI.getI (Aat (FRL.ofRelv rl) fun x _=>hE x) q;have h1':i.agg=false→i.sz=1:=fun e=>by
      rcases q6 with z|z
      ·rw[e]at z; cases z
      ·exact AlF z
     have hr2:=Ob q;have hl:((vs.drop (jj.toNat*i.sz)).take i.sz).length=i.sz:=by rw[←hrep.1.1,hE]
     exact Ab8 ev_ (B7 h2 hr) hr2.1 hr2.2 h3 (Km hi) (B8 hi) rfl hl h1' (hk η m w _ Env.le_refl (Mem.rfl' m) (fun n h=> .inl h) (RB (.ofD hrep.1) fun e=>by rw[Amo,hE,h1' e]) S)
    ·cases e1
   ·cases e1
  ·cases e1
 ·cases e1
end
section
variable {ρ:Option Nat}{P:Program}{N:Nat}{D0:Dw}{Q:DQ}{As:List Ow}{η0:Env}{m0:Mem}
def AdI (ob:List Tok)(n:Nat):Option (Nat×HK):=match find n ob with|some (i,.hp k q)=>bif Nat.beq k n then some (i,q)else none|_=>none
theorem MY {ob:List Tok}{n i:Nat}{q:HK}(h:AdI ob n=some (i,q)):(i,AObj.hp n q)∈ob:=by
 unfold AdI at h;split at h
 ·rename_i i' k q' hf;cases hb:Nat.beq k n
  ·rw[hb]at h; cases h
  ·rw[hb]at h; cases h;have:=AlF hb; subst this;exact Fw hf
 ·cases h
theorem St.openHp {η:Env}{m:Mem}{n:Nat}{q:HK}{As:List Ow}{w:World}(h:St m (rep η m (.hp n q)::As) w): ∃b,η n=some (hkV q b)∧St m (hkO q m b::As) w:=by
 obtain⟨x,hx,hr⟩:=h.own;obtain⟨h1,h2,⟨b,hb,ho⟩,s,d,e⟩:=hx;exact⟨b,hb,⟨h.os,h.tape,h.output,x,⟨h1,h2,ho,s,d,e⟩,hr⟩⟩
theorem St.closeHp {η:Env}{m:Mem}{n b:Nat}{q:HK}{As:List Ow}{w:World}(a:η n=some (hkV q b))(h:St m (hkO q m b::As) w):St m (rep η m (.hp n q)::As) w:=
 St.imp0 h fun x hx=>⟨b,a,hx⟩
def mkmK (cf:Cf):Bool:=
 match Hf cf with
 |some a=>match a.g,a.o.op with
  |none,.makeMap _ none=>true
  |_,_=>false
 |none=>false
theorem gmkm {cf:Cf}(g:Go ρ P N D0 Q As η0 m0 (push N (aC P N cf) ⟨.ow (aC P N cf).s.nx,[],[],[((aC P N cf).s.nx,.hp (aC P N cf).s.nx (.mp []))],(aC P N cf).s.nx+1,[]⟩))
  (e:(mkmK (aC P N cf),(aL P N cf))=(true,(aR P N cf)):=by kernel_rfl) (hm:P.follows .mixedOrders=true:=by rfl):Go ρ P N D0 Q As η0 m0 cf:=by
 simp only[AlE]at e;obtain⟨e1,e3⟩:=e;obtain⟨he1,-⟩:=KV e3;refine A2 hm he1 ?_;generalize aC P N cf=c0 at*;unfold mkmK at e1;split at e1
 ·rename_i a ha;split at e1
  ·rename_i t hg hop;have hgd:=B0 ha hg;refine El ha hg ?_ PG g;obtain⟨l,⟨dst,op,ty,pos,af,gd⟩,gg,sl,es⟩:=a;simp only at hop hgd⊢; subst hop hgd;refine⟨Amw _,fun rest Q η m f w As hr hz hn S hk=> ?_⟩;refine Wc S fun b w' S'=> ?_;have h0:=hn c0.s.nx (AlK _) (AlX _);refine hk (η.put c0.s.nx (.map (some b))) m w' _ (Env.le_put h0) (Mem.rfl' m) (fun n q=> ?_) (.ow Env.put_self rfl) (St.closeHp (q:= .mp []) (b:=b) Env.put_self S');rcases Env.put_dom q with q|q
   ·exact .inl q
   ·subst q; exact .inr ⟨AlK _,AlX _⟩
  ·cases e1
 ·cases e1
def Vc (P:Program)(t:TypeId):Option TypeId:=
 match P.underlying t with
 |some (.map k e)=>match P.underlying k,J7 P e with
  |some .string,some i=>match i.z with
   |some (.bool false)=>some e
   |_=>none
  |_,_=>none
 |_=>none
theorem TH {t e:TypeId}(h:Vc P t=some e): ∃k,P.underlying t=some (.map k e)∧P.underlying k=some .string∧∀w,(zeroValue e).run P w= .ok (.bool false) w:=by
 unfold Vc at h;split at h
 ·rename_i k e' h1;split at h
  ·rename_i i h2 h3;split at h
   ·rename_i hz; cases h; exact⟨k,h1,h2,OK h3 hz⟩
   ·cases h
  ·cases h
 ·cases h
def lkK (P:Program)(cf:Cf):Option (List (ByteArray×Bool)×ByteArray×List Tok):=
 match Hf cf with
 |some a=>match a.o.op with
  | .lookup t x y false=>match Vc P t,aev a.sl x,aev a.sl y with
   |some _,.ow n,.d (.s k)=>match AdI cf.s.ob n with
    |some (i,.mp kv)=>some (kv,k,[(i,.hp n (.mp kv))])
    |_=>none
   |_,_,_=>none
  |_=>none
 |none=>none
def lkT (P:Program)(cf:Cf):List Tok:=match lkK P cf with|some (_,_,l)=>l|none=> []
theorem AcS {s:AS}{p:Tok}(h:p∈s.ob):(∀q∈[p],q∈s.ob)∧(tids [p]).Nodup:=⟨fun q hq=>by simp at hq; subst hq; exact h,by simp[tids]⟩
theorem glk {cf:Cf}(kv:List (ByteArray×Bool))(k:ByteArray)(g:Go ρ P N D0 Q As η0 m0 (CV N (aC P N cf) (.d (.t (lkB kv k))) (lkT P (aC P N cf))))
  (e:((lkK P (aC P N cf)).map (fun r=>(r.1,r.2.1)),(aL P N cf))=(some (kv,k),(aR P N cf)):=by kernel_rfl) (hm:P.follows .mixedOrders=true:=by rfl):Go ρ P N D0 Q As η0 m0 cf:=by
 simp only[AlE]at e;obtain⟨e1,e3⟩:=e;obtain⟨he1,he2⟩:=KV e3;refine A2 hm he1 ?_;generalize aC P N cf=c0 at*;cases hq:lkK P c0 with
 |none=>rw[hq]at e1; cases e1
 |some r=>
  obtain⟨kv',k',rd⟩:=r;have hT:lkT P c0=rd:=by unfold lkT; rw[hq]
  rw[hT]at g;rw[hq]at e1;simp only[AlV,AlJ,AlE]at e1;obtain⟨e4,e5⟩:=e1;subst e4 e5;unfold lkK at hq;split at hq
  ·rename_i a ha;rw[DX ha]at he2;split at hq
   ·rename_i t x y hop;split at hq
    ·rename_i et nn kk ht hx hy;split at hq
     ·rename_i i kv2 hh;simp only[AlJ,AlE]at hq;obtain⟨rfl,rfl,rfl⟩:=hq;refine DW ha he2 (AcS (MY hh)) (fun hp=> ?_) g;obtain⟨l,⟨dst,op',ty,pos,af,gd⟩,gg,sl,es⟩:=a;simp only at hop hx hy⊢; subst hop;refine⟨AlK _,fun rest Q η m f w As hr hz hn S hk=> ?_⟩;obtain⟨kt,t1,t2,t3⟩:=TH ht;have rx:=Aq hr x;rw[hx]at rx;obtain⟨ex,_⟩:=rx.ow_inv;have ry:=Aq hr y;rw[hy]at ry;have S0:St m (rep η m (.hp nn (.mp kv2))::As) w:=S;obtain⟨b,hb,S1⟩:=St.openHp S0;rw[ex]at hb;have hxv:ev f x= .map (some b):=AlC hb;exact Ab7 (i:=0) S1 hxv ry.s_inv rfl t1 t2 t3 (hk η m w _ Env.le_refl (Mem.rfl' m) (fun n h=> .inl h) (.d (.t _)) (St.closeHp (by rw[ex,hxv]; rfl) S1))
     ·cases hq
    ·cases hq
   ·cases hq
  ·cases hq
def lnK (P:Program)(cf:Cf):Option (List (ByteArray×Bool)×List Tok):=
 match Hf cf with
 |some a=>match a.o.op with
  | .call ⟨.builtin .len,⟨[x]⟩,⟨[t]⟩⟩=>match P.underlying t,aev a.sl x with
   |some (.map _ _),.ow n=>match AdI cf.s.ob n with
    |some (i,.mp kv)=>some (kv,[(i,.hp n (.mp kv))])
    |_=>none
   |_,_=>none
  |_=>none
 |none=>none
def lnT (P:Program)(cf:Cf):List Tok:=match lnK P cf with|some (_,l)=>l|none=> []
theorem gln {cf:Cf}(kv:List (ByteArray×Bool))(g:Go ρ P N D0 Q As η0 m0 (CV N (aC P N cf) (.d (.i (kv.length:Int))) (lnT P (aC P N cf))))
  (e:((lnK P (aC P N cf)).map (fun r=>r.1),(aL P N cf))=(some kv,(aR P N cf)):=by kernel_rfl) (hm:P.follows .mixedOrders=true:=by rfl):Go ρ P N D0 Q As η0 m0 cf:=by
 simp only[AlE]at e;obtain⟨e1,e3⟩:=e;obtain⟨he1,he2⟩:=KV e3;refine A2 hm he1 ?_;generalize aC P N cf=c0 at*;cases hq:lnK P c0 with
 |none=>rw[hq]at e1; cases e1
 |some r=>
  obtain⟨kv',rd⟩:=r;have hT:lnT P c0=rd:=by unfold lnT; rw[hq]
  rw[hT]at g;rw[hq]at e1;simp only[AlV,AlJ]at e1;subst e1;unfold lnK at hq;split at hq
  ·rename_i a ha;rw[DX ha]at he2;split at hq
   ·rename_i x t hop;split at hq
    ·rename_i kt et nn hu hx;split at hq
     ·rename_i i kv2 hh;simp only[AlJ,AlE]at hq;obtain⟨rfl,rfl⟩:=hq;refine DW ha he2 (AcS (MY hh)) (fun hp=> ?_) g;obtain⟨l,⟨dst,op',ty,pos,af,gd⟩,gg,sl,es⟩:=a;simp only at hop hx⊢; subst hop;refine⟨AlK _,fun rest Q η m f w As hr hz hn S hk=> ?_⟩;have rx:=Aq hr x;rw[hx]at rx;obtain⟨ex,_⟩:=rx.ow_inv;have S0:St m (rep η m (.hp nn (.mp kv2))::As) w:=S;obtain⟨b,hb,S1⟩:=St.openHp S0;rw[ex]at hb;have hxv:ev f x= .map (some b):=AlC hb;exact Afs (i:=0) S1 hxv rfl hu (hk η m w _ Env.le_refl (Mem.rfl' m) (fun n h=> .inl h) (.d (.i _)) (St.closeHp (by rw[ex,hxv]; rfl) S1))
     ·cases hq
    ·cases hq
   ·cases hq
  ·cases hq
def upK (P:Program)(cf:Cf):Option (List (ByteArray×Bool)×ByteArray×Bool×Nat×Nat):=
 match Hf cf with
 |some a=>match a.g,a.o.op with
  |none,.mapUpdate t x y c=>match Vc P t,aev a.sl x,aev a.sl y,aev a.sl c with
   |some _,.ow n,.d (.s k),.d (.t u)=>match AdI cf.s.ob n with
    |some (i,.mp kv)=>some (kv,k,u,i,n)
    |_=>none
   |_,_,_,_=>none
  |_,_=>none
 |none=>none
def upS (P:Program)(cf:Cf):Stp:=match upK P cf with|some (kv,k,u,i,n)=>⟨.no,[],[(i,.hp n (.mp kv))],[(cf.s.nx,.hp n (.mp (kv++[(k,u)])))],cf.s.nx+1,[]⟩|none=>⟨.any,[],[],[],cf.s.nx,[]⟩
theorem Nr {s:AS}{v:AV}{p:Tok}{o:AObj}(h:p∈s.ob):L3 s ⟨v,[],[p],[(s.nx,o)],s.nx+1,[]⟩:=
 ⟨fun x hx=>by simp at hx; subst hx; exact h,by simp[tids],by simp[tids],fun t ht=>by simp[tids]at ht; subst ht; exact⟨AlK _,AlX _⟩⟩
theorem gup {cf:Cf}{kv:List (ByteArray×Bool)}{k:ByteArray}(hn:(lkI kv k 0).isNone=true)(g:Go ρ P N D0 Q As η0 m0 (push N (aC P N cf) (upS P (aC P N cf))))
  (e:((upK P (aC P N cf)).map (fun r=>(r.1,r.2.1)),(aL P N cf))=(some (kv,k),(aR P N cf)):=by kernel_rfl) (hm:P.follows .mixedOrders=true:=by rfl):Go ρ P N D0 Q As η0 m0 cf:=by
 simp only[AlE]at e;obtain⟨e1,e3⟩:=e;obtain⟨he1,-⟩:=KV e3;refine A2 hm he1 ?_;generalize aC P N cf=c0 at*;cases hq:upK P c0 with
 |none=>rw[hq]at e1; cases e1
 |some r=>
  obtain⟨kv',k',u,i,nn⟩:=r;have hT:upS P c0=⟨.no,[],[(i,.hp nn (.mp kv'))],[(c0.s.nx,.hp nn (.mp (kv'++[(k',u)])))],c0.s.nx+1,[]⟩:=by unfold upS; rw[hq]
  rw[hT]at g;rw[hq]at e1;simp only[AlV,AlJ,AlE]at e1;obtain⟨e4,e5⟩:=e1;subst e4 e5;unfold upK at hq;split at hq
  ·rename_i a ha;split at hq
   ·rename_i t x y c hg hop;split at hq
    ·rename_i et n2 kk u2 ht hx hy hc;split at hq
     ·rename_i i2 kv2 hh;simp only[AlJ,AlE]at hq;obtain⟨rfl,rfl,rfl,rfl,rfl⟩:=hq;have hgd:=B0 ha hg;refine El ha hg ?_ (Nr (MY hh)) g;obtain⟨l,⟨dst,op',ty,pos,af,gd⟩,gg,sl,es⟩:=a;simp only at hop hx hy hc hgd⊢; subst hop hgd;refine⟨Amw _,fun rest Q η m f w As hr hz hn' S hk=> ?_⟩;obtain⟨kt,t1,t2,t3⟩:=TH ht;have rx:=Aq hr x;rw[hx]at rx;obtain⟨ex,_⟩:=rx.ow_inv;have ry:=Aq hr y;rw[hy]at ry;have rc:=Aq hr c;rw[hc]at rc;have S0:St m (rep η m (.hp n2 (.mp kv2))::As) w:=S;obtain⟨b,hb,S1⟩:=St.openHp S0;rw[ex]at hb;have hxv:ev f x= .map (some b):=AlC hb;refine Ab5 (i:=0) S1 hxv ry.s_inv rc.t_inv rfl t1 t2 hn fun w' S'=> ?_;exact hk η m w' _ Env.le_refl (Mem.rfl' m) (fun n h=> .inl h) .no (St.closeHp (q:= .mp (kv2++[(kk,u2)])) (b:=b) (by rw[ex,hxv]; rfl) S')
     ·cases hq
    ·cases hq
   ·cases hq
  ·cases hq
theorem Ye {s:ByteArray}{p:Nat}:Obj.stringIter s p≠dfr:=fun h=>by cases h
def rngK (P:Program)(cf:Cf):Option ByteArray:=
 match Hf cf with
 |some a=>match a.g,a.o.op with
  |none,.range t x=>match WE P t,aev a.sl x with
   |true,.d (.s k)=>some k
   |_,_=>none
  |_,_=>none
 |none=>none
theorem grng {cf:Cf}(k:ByteArray)(g:Go ρ P N D0 Q As η0 m0 (push N (aC P N cf) ⟨.ow (aC P N cf).s.nx,[],[],[((aC P N cf).s.nx,.hp (aC P N cf).s.nx (.it k 0))],(aC P N cf).s.nx+1,[]⟩))
  (e:(rngK P (aC P N cf),(aL P N cf))=(some k,(aR P N cf)):=by kernel_rfl) (hm:P.follows .mixedOrders=true:=by rfl):Go ρ P N D0 Q As η0 m0 cf:=by
 simp only[AlE]at e;obtain⟨e1,e3⟩:=e;obtain⟨he1,-⟩:=KV e3;refine A2 hm he1 ?_;generalize aC P N cf=c0 at*;unfold rngK at e1;split at e1
 ·rename_i a ha;split at e1
  ·rename_i t x hg hop;split at e1
   ·rename_i k' hs hx;cases e1;have hgd:=B0 ha hg;refine El ha hg ?_ PG g;obtain⟨l,⟨dst,op,ty,pos,af,gd⟩,gg,sl,es⟩:=a;simp only at hop hgd hx⊢; subst hop hgd;refine⟨Amw _,fun rest Q η m f w As hr hz hn S hk=> ?_⟩;have rx:=Aq hr x;rw[hx]at rx;have hxv:=rx.s_inv;have S1:=(S.push (.stringIter k 0) Ye).imp0 (B:=hkO (.it k 0) m w.heap.size) fun h hh=>hh;have h0:=hn c0.s.nx (AlK _) (AlX _);refine AE (v:=pt w.heap.size 0) (w':=w.alloc (.stringIter k 0)) rfl (fun _ e=>by cases e) ?_ ?_ (Kd.push _ _)
    ·simp only[execOp,Instr.range,hxv,AlO (LV hs),newObj,AlU,AlQ,Sem.run,AlT];rfl
    ·refine hk (η.put c0.s.nx (pt w.heap.size 0)) m _ _ (Env.le_put h0) (Mem.rfl' m) (fun n q=> ?_) (.ow Env.put_self rfl) (St.closeHp (q:= .it k 0) (b:=w.heap.size) Env.put_self S1);rcases Env.put_dom q with q|q
     ·exact .inl q
     ·subst q; exact .inr ⟨AlK _,AlX _⟩
   ·cases e1
  ·cases e1
 ·cases e1
theorem St.iter {m:Mem}{As:List Ow}{w:World}{b:Nat}{s:ByteArray}{pos:Nat}(hS:St m (hkO (.it s pos) m b::As) w):w.heap[b]? =some (.stringIter s pos)∧
  ∀pos',St m (hkO (.it s pos') m b::As) {w with heap:=w.heap.setIfInBounds b (.stringIter s pos')}:=by
 obtain⟨h1,rfl,hg,_,back⟩:=hS.take (i:=0) rfl;have hb:=PH.agree_one.1 hg;have hlt:=(Al3.1 hb).1;refine⟨hb,fun pos'=> ?_⟩;refine back (hkO (.it s pos') m b) (PH.one b (.stringIter s pos')) _ rfl ?_ ?_ ?_ rfl rfl rfl (fun _=> .one Ye)
 ·intro k hk; left; simp only[PH.one]at hk⊢;split at hk
  ·rename_i e; simp[e]
  ·exact absurd rfl hk
 ·rw[PH.agree_one]; simp[hlt]
 ·intro k _ hk; simp only[PH.one]at hk;split at hk
  ·cases hk
  ·rename_i e; rw[Array.getElem?_setIfInBounds_ne (by omega)]
theorem Af0 (w:World)(k:Nat)(s:ByteArray)(pos:Nat)(ty:TypeId)(hk:w.heap[k]? =some (.stringIter s pos))(h:pos<s.size):
  (Instr.next (.pointer (some ⟨k,0,none⟩)) true ty).run P w= .ok (.tuple #[.bool true,.int .i64 pos,.int .i32 (Utf8.decode s pos).1]) {w with heap:=w.heap.setIfInBounds k (.stringIter s (pos+(Utf8.decode s pos).2))}:=by
 simp only[Instr.next,getObj,setObj,AlU,Sem.run,hk,Result.andThen,h,if_true];simp[goInt]
theorem AfZ (w:World)(k:Nat)(s:ByteArray)(pos:Nat)(ty:TypeId)(hk:w.heap[k]? =some (.stringIter s pos))(h: ¬pos<s.size):
  (Instr.next (.pointer (some ⟨k,0,none⟩)) true ty).run P w= .ok (.tuple #[.bool false]) w:=by
 simp[Instr.next,getObj,Sem.run,hk,h]
def nxK (cf:Cf):Option (ByteArray×Nat×Nat×Nat):=
 match Hf cf with
 |some a=>match a.g,a.o.op with
  |none,.next x true=>match aev a.sl x with
   | .ow n=>match AdI cf.s.ob n with
    |some (i,.it s pos)=>some (s,pos,i,n)
    |_=>none
   |_=>none
  |_,_=>none
 |none=>none
def nxS (cf:Cf):Stp:=match nxK cf with|some (s,pos,i,n)=>⟨.tup [.d (.t true),.d (.i (pos:Int)),.d (.r ((Utf8.decode s pos).1:Int))],[],[(i,.hp n (.it s pos))],[(cf.s.nx,.hp n (.it s (pos+(Utf8.decode s pos).2)))],cf.s.nx+1,[]⟩|none=>⟨.any,[],[],[],cf.s.nx,[]⟩
def nxE (cf:Cf):Stp:=match nxK cf with|some (s,pos,i,n)=>⟨.tup [.d (.t false)],[(i,.hp n (.it s pos))],[],[],cf.s.nx,[]⟩|none=>⟨.any,[],[],[],cf.s.nx,[]⟩
theorem go_nx (hm:P.follows .mixedOrders=true){n:Nat}{cf:Cf}{s:ByteArray}{pos:Nat}
  (e:((nxK (adv P N n cf).1).map (fun r=>(r.1,r.2.1)),((adv P N n cf).2++Yn (adv P N n cf).1).map (·.1))=(some (s,pos),((adv P N n cf).2++Yn (adv P N n cf).1).map (·.2)))
  (g1:pos<s.size→Go ρ P N D0 Q As η0 m0 (push N (adv P N n cf).1 (nxS (adv P N n cf).1))) (g2: ¬pos<s.size→Go ρ P N D0 Q As η0 m0 (push N (adv P N n cf).1 (nxE (adv P N n cf).1))):Go ρ P N D0 Q As η0 m0 cf:=by
 simp only[AlE]at e;obtain⟨e1,e3⟩:=e;obtain⟨he1,-⟩:=EqsOk.two e3;refine Sx hm he1 ?_;generalize (adv P N n cf).1=c0 at*;cases hq:nxK c0 with
 |none=>rw[hq]at e1; cases e1
 |some r=>
  obtain⟨s',pos',i,nn⟩:=r;have hT:nxS c0=⟨.tup [.d (.t true),.d (.i (pos':Int)),.d (.r ((Utf8.decode s' pos').1:Int))],[],[(i,.hp nn (.it s' pos'))],[(c0.s.nx,.hp nn (.it s' (pos'+(Utf8.decode s' pos').2)))],c0.s.nx+1,[]⟩:=by unfold nxS; rw[hq]
  have hT2:nxE c0=⟨.tup [.d (.t false)],[(i,.hp nn (.it s' pos'))],[],[],c0.s.nx,[]⟩:=by unfold nxE; rw[hq]
  rw[hT]at g1;rw[hT2]at g2;rw[hq]at e1;simp only[AlV,AlJ,AlE]at e1;obtain⟨e4,e5⟩:=e1;subst e4 e5;unfold nxK at hq;split at hq
  ·rename_i a ha;split at hq
   ·rename_i x hg hop;split at hq
    ·rename_i n2 hx;split at hq
     ·rename_i i2 s2 p2 hh;simp only[AlJ,AlE]at hq;obtain⟨rfl,rfl,rfl,rfl⟩:=hq;have hgd:=B0 ha hg;by_cases hlt:p2<s2.size
      ·refine El ha hg ?_ (Nr (MY hh)) (g1 hlt);obtain⟨l,⟨dst,op',ty,ps,af,gd⟩,gg,sl,es⟩:=a;simp only at hop hx hgd⊢; subst hop hgd;refine⟨Amw _,fun rest Q η m f w As hr hz hn' S hk=> ?_⟩;have rx:=Aq hr x;rw[hx]at rx;obtain⟨ex,_⟩:=rx.ow_inv;have S0:St m (rep η m (.hp n2 (.it s2 p2))::As) w:=S;obtain⟨b,hb,S1⟩:=St.openHp S0;rw[ex]at hb;have hxv:ev f x=pt b 0:=AlC hb;obtain⟨hbb,S2⟩:=St.iter S1;refine AE (v:= .tuple #[.bool true,.int .i64 p2,.int .i32 (Utf8.decode s2 p2).1]) (w':={w with heap:=w.heap.setIfInBounds b (.stringIter s2 (p2+(Utf8.decode s2 p2).2))}) rfl (fun _ e=>by cases e) ?_ ?_ (Kd.set hbb Ye rfl)
       ·simp only[execOp,hxv];rw[AlU,Af0 w b s2 p2 _ hbb hlt];rfl
       ·refine hk η m _ _ Env.le_refl (Mem.rfl' m) (fun n h=> .inl h) ?_ (St.closeHp (q:= .it s2 (p2+(Utf8.decode s2 p2).2)) (b:=b) (by rw[ex,hxv]; rfl) (S2 _));have h:B5 η m [.d (.t true),.d (.i (p2:Int)),.d (.r ((Utf8.decode s2 p2).1:Int))] [vb true,vI (p2:Int),vR ((Utf8.decode s2 p2).1:Int)]:=B5.cons (.d (.t _)) (B5.cons (.d (.i _)) (B5.cons (.d (.r _)) B5.nil));exact .tup h.1 h.2
      ·refine El ha hg ?_ (UW (MY hh)) (g2 hlt);obtain⟨l,⟨dst,op',ty,ps,af,gd⟩,gg,sl,es⟩:=a;simp only at hop hx hgd⊢; subst hop hgd;refine⟨AlK _,fun rest Q η m f w As hr hz hn' S hk=> ?_⟩;have rx:=Aq hr x;rw[hx]at rx;obtain⟨ex,_⟩:=rx.ow_inv;have S0:St m (rep η m (.hp n2 (.it s2 p2))::As) w:=S;obtain⟨b,hb,S1⟩:=St.openHp S0;rw[ex]at hb;have hxv:ev f x=pt b 0:=AlC hb;obtain⟨hbb,S2⟩:=St.iter S1;refine AE (v:= .tuple #[.bool false]) (w':=w) rfl (fun _ e=>by cases e) ?_ ?_
       ·simp only[execOp,hxv];rw[AlU,AfZ w b s2 p2 _ hbb hlt];rfl
       ·refine hk η m _ _ Env.le_refl (Mem.rfl' m) (fun n h=> .inl h) ?_ S;have h:B5 η m [.d (.t false)] [vb false]:=B5.cons (.d (.t _)) B5.nil;exact .tup h.1 h.2
     ·cases hq
    ·cases hq
   ·cases hq
  ·cases hq
def Vq (s:ByteArray)(lo hi:Int):Option ByteArray:=if 0≤lo∧lo≤hi∧hi≤(s.size:Int)then some (s.extract lo.toNat hi.toNat)else none
def Ak6 (P:Program)(cf:Cf):Option (ByteArray×Int×Int):=
 match Hf cf with
 |some a=>match a.o.op with
  | .slice t x lo hi none=>match WE P t,aev a.sl x with
   |true,.d (.s s)=>
    let l:Option Int:=match lo with|none=>some 0|some o=>(Pf a.sl o).map (·.2)
    let h:Option Int:=match hi with|none=>some (s.size:Int)|some o=>(Pf a.sl o).map (·.2)
    match l,h with
    |some l,some h=>some (s,l,h)
    |_,_=>none
   |_,_=>none
  |_=>none
 |none=>none
theorem Afx {t:TypeId}{s z:ByteArray}{lo hi:Option Value}{l h:Int}{w:World}(hu:P.underlying t=some .string)
  (hlo:(lo=none∧l=0)∨∃k,lo=some (.int k l)) (hhi:(hi=none∧h=(s.size:Int))∨∃k,hi=some (.int k h)) (hq:Vq s l h=some z):
  (Instr.slice t (.string s) lo hi none).run P w= .ok (.string z) w:=by
 unfold Vq at hq;split at hq
 ·rename_i hc;obtain⟨h1,h2,h3⟩:=hc;cases hq;have hl0:l≤(h.toNat:Int):=by omega
  have hs0:h≤(s.size:Int):=h3;have hh0:0≤h:=by omega
  rcases hlo with ⟨rfl,rfl⟩|⟨k,rfl⟩<;>rcases hhi with ⟨rfl,rfl⟩|⟨k',rfl⟩
  ·simp[Instr.slice,Instr.sliceBounds,Instr.sliceBound,AlO hu,AlU]
  ·simp[Instr.slice,Instr.sliceBounds,Instr.sliceBound,AlO hu,AlU,asIntOf,hh0,hs0]
  ·simp[Instr.slice,Instr.sliceBounds,Instr.sliceBound,AlO hu,AlU,asIntOf,h1,h2]
  ·simp[Instr.slice,Instr.sliceBounds,Instr.sliceBound,AlO hu,AlU,asIntOf,hh0,hs0,h1,hl0];intro hc; omega
 ·cases hq
theorem AaQ {cf:Cf}{s z:ByteArray}{lo hi:Int}(hq:gOf (aC P N cf)=true→Vq s lo hi=some z)(g:Go ρ P N D0 Q As η0 m0 (CV N (aC P N cf) (.d (.s z)) []))
  (e:(Ak6 P (aC P N cf),(aL P N cf))=(some (s,lo,hi),(aR P N cf)):=by kernel_rfl) (hm:P.follows .mixedOrders=true:=by rfl):Go ρ P N D0 Q As η0 m0 cf:=by
 simp only[AlE]at e;obtain⟨e1,e3⟩:=e;obtain⟨he1,he2⟩:=KV e3;refine A2 hm he1 ?_;generalize aC P N cf=c0 at*;unfold Ak6 at e1;split at e1
 ·rename_i a ha;rw[DX ha]at he2;split at e1
  ·rename_i t x lo' hi' hop;split at e1
   ·rename_i s0 hs hx;simp only at e1;split at e1
    ·rename_i l h hl hh;simp only[AlJ,AlE]at e1;obtain⟨rfl,rfl,rfl⟩:=e1;refine DW (rd:=[]) ha he2 OT (fun hp=> ?_) g;have q:=hq (Ma ha hp);obtain⟨ll,⟨dst,op',ty,pos,af,gd⟩,gg,sl,es⟩:=a;simp only at hop hx hl hh⊢; subst hop;refine⟨AlK _,fun rest Q η m f w As hr hz hn S hk=> ?_⟩;have rx:=Aq hr x;rw[hx]at rx;have hxv:ev f x=vS s0:=rx.s_inv;refine AE (v:=vS z) (w':=w) rfl (fun _ e=>by cases e) ?_ (hk η m w _ Env.le_refl (Mem.rfl' m) (fun n h=> .inl h) (.d (.s z)) S);have key:(Instr.slice t (.string s0) (lo'.map (ev f)) (hi'.map (ev f)) none).run P w= .ok (.string z) w:=by
      refine Afx (LV hs) ?_ ?_ q
      · cases lo' with
       |none=>simp only[AlJ]at hl; exact .inl ⟨rfl,hl.symm⟩
       |some o=>
         simp only[AlN]at hl;obtain⟨⟨kk,jj⟩,hj,rfl⟩:=hl;exact .inr ⟨kk,by simp only[AlV]; rw[B7 hj hr]⟩
      · cases hi' with
        |none=>simp only[AlJ]at hh; exact .inl ⟨rfl,hh.symm⟩
        |some o=>
          simp only[AlN]at hh;obtain⟨⟨kk,jj⟩,hj,rfl⟩:=hh;exact .inr ⟨kk,by simp only[AlV]; rw[B7 hj hr]⟩
     simp[execOp,hxv,Instr.sliceAt,AlO (LV hs),key]
    ·cases e1
   ·cases e1
  ·cases e1
 ·cases e1
def Afh:Operand→Option (List D)
 | .global g=>AgG GT g
 |_=>none
theorem YW {x:Operand}{ds:List D}(h:Afh x=some ds){m:Mem}{As:List Ow}{w:World}(S:St m As w){f:Fr}: ∃cs,PtC m (ev f x) cs∧FRL m ds cs:=by
 unfold Afh at h;split at h
 ·rename_i g;obtain⟨vs,h1,h2⟩:=gt_ok h;obtain⟨l,e,fr,hb,hc⟩:=S.tape.2 _ h1;exact⟨vs,⟨g,0,l,e,fr,rfl,hb,fun i x hx=>by rw[Amb]; exact hc i x hx⟩,h2 m⟩
 ·cases h
def slGK (P:Program)(cf:Cf):Option (List D×Nat×Nat×Bool):=
 match Hf cf with
 |some a=>match a.o.op with
  | .slice t x none none none=>match Afh x,P.underlying t with
   |some ds,some (.array n e)=>match J7 P e with
    |some i=>some (ds,i.sz,n,Nat.ble n 1000000)
    |none=>none
   |_,_=>none
  |_=>none
 |none=>none
theorem gslG {k:Nat}{cf:Cf}{α:Type}{E:α→List D}(xs:List α)(hE: ∀x,(E x).length=k)(g:Go ρ P N D0 Q As η0 m0 (CV N (aC P N cf) (.d (.sl α E xs)) []))
  (e:(slGK P (aC P N cf),(aL P N cf))=(some (xs.flatMap E,k,xs.length,true),(aR P N cf)):=by kernel_rfl) (hm:P.follows .mixedOrders=true:=by rfl):Go ρ P N D0 Q As η0 m0 cf:=by
 simp only[AlE]at e;obtain⟨e1,e3⟩:=e;obtain⟨he1,he2⟩:=KV e3;refine A2 hm he1 ?_;generalize aC P N cf=c0 at*;unfold slGK at e1;split at e1
 ·rename_i a ha;rw[DX ha]at he2;split at e1
  ·rename_i t x hop;split at e1
   ·rename_i ds nn ee hx hu;split at e1
    ·rename_i i hi;simp only[AlJ,AlE]at e1;obtain⟨rfl,hk,rfl,hle⟩:=e1;refine DW (rd:=[]) ha he2 OT (fun hp=> ?_) g;obtain⟨ll,⟨dst,op',ty,pos,af,gd⟩,gg,sl,es⟩:=a;simp only at hop⊢; subst hop;refine⟨AlK _,fun rest Q η m f w As hr hz hn S hk'=> ?_⟩;obtain⟨cs,hp1,hp2⟩:=YW hx S (f:=f);letI:=QO E k;have hle:=AlS hle;refine Y4 (α:=α) (cs:=cs) (ds:=[]) (xs:=xs) rfl (by rw[Amf]; exact hp1) (Aat hp2 fun x _=>hE x) rfl (by omega) hu (fun w=>by have:=B8 hi w; rw[hk]at this; exact this) fun u hu'=> ?_;exact hk' η m w u Env.le_refl (Mem.rfl' m) (fun n h=> .inl h) (.d (V5 hu')) S
    ·cases e1
   ·cases e1
  ·cases e1
 ·cases e1
def idGK (P:Program)(cf:Cf):Option (List D×Int×Nat×Nat):=
 match Hf cf with
 |some a=>match a.o.op with
  | .indexAddr t x y=>match Afh x,P.underlying t,Pf a.sl y with
   |some ds,some (.array n e),some (_,j)=>match J7 P e with
    |some i=>some (ds,j,i.sz,n)
    |none=>none
   |_,_,_=>none
  |_=>none
 |none=>none
theorem gidG {k:Nat}{cf:Cf}{α:Type}{E:α→List D}{j:Int}{z:α}(xs:List α)(hE: ∀x,(E x).length=k)(hq:gOf (aC P N cf)=true→idx xs j=some z)(g:Go ρ P N D0 Q As η0 m0 (CV N (aC P N cf) (.d (.pf (E z))) []))
  (e:(idGK P (aC P N cf),(aL P N cf))=(some (xs.flatMap E,j,k,xs.length),(aR P N cf)):=by kernel_rfl) (hm:P.follows .mixedOrders=true:=by rfl):Go ρ P N D0 Q As η0 m0 cf:=by
 simp only[AlE]at e;obtain⟨e1,e3⟩:=e;obtain⟨he1,he2⟩:=KV e3;refine A2 hm he1 ?_;generalize aC P N cf=c0 at*;unfold idGK at e1;split at e1
 ·rename_i a ha;rw[DX ha]at he2;split at e1
  ·rename_i t x y hop;split at e1
   ·rename_i ds nn ee kk jj hx hu hj;split at e1
    ·rename_i i hi;simp only[AlJ,AlE]at e1;obtain⟨rfl,rfl,hk,rfl⟩:=e1;refine DW (rd:=[]) ha he2 OT (fun hp=> ?_) g;have q:=hq (Ma ha hp);obtain⟨ll,⟨dst,op',ty,pos,af,gd⟩,gg,sl,es⟩:=a;simp only at hop hj⊢; subst hop;refine⟨AlK _,fun rest Q η m f w As hr hz hn S hk'=> ?_⟩;obtain⟨cs,hp1,hp2⟩:=YW hx S (f:=f);letI:=QO E k;have hrep:GoT.rep m ((cs.drop (jj.toNat*k)).take k) z:=CI.getI (Aat hp2 fun x _=>hE x) q;obtain⟨q1,q2⟩:=BI q;have hlt:jj.toNat<xs.length:=(Al2.1 q2).1;refine Ab9 (sz:=k) rfl (B7 hj hr) hp1 hu (fun w=>by have:=B8 hi w; rw[hk]at this; exact this) q1 (by omega) fun p hp=> ?_;obtain⟨b,off,l,e',fr,rfl,hb,hc⟩:=hp;refine hk' η m w _ Env.le_refl (Mem.rfl' m) (fun n h=> .inl h) (.d (.pf ⟨b,off,l,e',fr,rfl,hb,fun i x hx=>hc i x ?_⟩ rfl hrep.1.1 hrep.1.2)) S;rw[List.getElem?_take]at hx;split at hx
     ·exact hx
     ·cases hx
    ·cases e1
   ·cases e1
  ·cases e1
 ·cases e1
def dynP (cf:Cf):Option (Value×List AV):=
 match Hf cf with
 |some a=>match a.o.op with
  | .call c=>match c.callee with
   | .value (.tmp t)=>match get a.sl t with
    | .d (.v x)=>some (x,c.args.toList.map (aev a.sl))
    |_=>none
   |_=>none
  |_=>none
 |none=>none
theorem gdyn {cf:Cf}{x:Int}{ea:List AV}{r:AV}(hs:gOf (aC P N cf)=true→∃k:Nat,x=(k:Int)∧Sf P k ea r)(g:Go ρ P N D0 Q As η0 m0 (N6 N (aC P N cf) r))
  (e:((dynP (aC P N cf)).map (fun p=>(p.1,Ahq (aC P N cf).s.fz ea p.2)),ea.all (okA 0),(aL P N cf))=(some (fnV x,ea),true,(aR P N cf)):=by kernel_rfl) (hm:P.follows .mixedOrders=true:=by rfl):Go ρ P N D0 Q As η0 m0 cf:=by
 simp only[AlE]at e;obtain⟨e1,e2,e3⟩:=e;obtain⟨he1,he2⟩:=KV e3;refine A2 hm he1 ?_;generalize aC P N cf=c0 at*;cases hq:dynP c0 with
 |none=>rw[hq]at e1; cases e1
 |some p=>
  rw[hq]at e1;simp only[AlV,AlJ,AlE]at e1;obtain⟨e4,e5⟩:=e1;unfold dynP at hq;split at hq
  ·rename_i a ha;have hes:Yn c0=a.es:=by unfold Yn; rw[ha]
   rw[hes]at he2;refine AdM ha he2 (fun hp=> ?_) g;have hg:gOf c0=true:=by
    unfold gOf; rw[ha];obtain⟨l,o,gg,sl,es⟩:=a;cases gg with
    |none=>rfl
    |some q=>exact hp q rfl
   obtain⟨k,hxk,hS⟩:=hs hg;obtain⟨l,⟨dst,op,ty,pos,af,gd⟩,gg,sl,es⟩:=a;simp only at hq⊢;split at hq
   ·rename_i c;obtain⟨ce,xs,ts⟩:=c;obtain⟨xs⟩:=xs;simp only at hq;split at hq
    ·rename_i t;split at hq
     ·rename_i v hv;cases hq;simp only at e4 e5;subst e4;refine⟨AlK _,fun rest Q η m f w As hr hz hn St0 hk=> ?_⟩;have rt:=hr t;rw[hv,hxk]at rt;have hval:f t= .func (.func k) #[] #[]:=by
       have:=rt.dd;generalize f t=u at this;cases this; rfl
      have ra:=B5.map_aev hr xs;refine PB (x:= .tmp t) (g:= .func (.func k) #[] #[]) (R:=fun v w'=> ∃(M:Mem) (η':Env) (r':AV) (obs':List AObj) (n1:Nat),m≤M∧none0.le η'∧is r [] 0 r' obs' n1∧(∀n,η' n≠none→n<n1)∧Rel η' M r' v∧St M (obs'.map (rep η' M)++As) w') hval (Pe.clo (pre:=[]) (caps:=[]) hS.1 rfl (by
       simp only[Amc,Amf];refine hS.2 none0 m As w _ ?_ (fun n h=>absurd rfl h) St0;have h1:=Nl (es:=ea) hz ra;exact N7 (η:=η) (n:=0) (fun k h=>absurd h (by omega)) e2 (by rw[e5]at h1; exact h1))) rfl ?_
      rintro v w2 ⟨M,η',r',obs',n1,hle,_,⟨rfl,rfl,rfl⟩,hdom,hR,S⟩;have hη:η'.le η:=fun n u h=>by have:=hdom n (by rw[h]; simp); omega
      exact hk η M w2 v Env.le_refl hle (fun n h=> .inl h) (hR.up hη (Mem.rfl' M)) S
     ·cases hq
    ·cases hq
   ·cases hq
  ·cases hq
def dycP (cf:Cf):Option (Nat×List D×List AV):=
 match Hf cf with
 |some a=>match a.o.op with
  | .call c=>match c.callee with
   | .value (.tmp t)=>match get a.sl t with
    | .d (.cl k ds)=>some (k,ds,c.args.toList.map (aev a.sl))
    |_=>none
   |_=>none
  |_=>none
 |none=>none
theorem gdyc {k:Nat}{ds:List D}{cf:Cf}{ea:List AV}{r:AV}(hs:gOf (aC P N cf)=true→Sf P k (.agg (ds.map dv)::ea) r)(g:Go ρ P N D0 Q As η0 m0 (N6 N (aC P N cf) r))
  (e:((dycP (aC P N cf)).map (fun p=>(p.1,p.2.1,Ahq (aC P N cf).s.fz ea p.2.2)),ea.all (okA 0),(aL P N cf))=(some (k,ds,ea),true,(aR P N cf)):=by kernel_rfl) (hm:P.follows .mixedOrders=true:=by rfl):Go ρ P N D0 Q As η0 m0 cf:=by
 simp only[AlE]at e;obtain⟨e1,e2,e3⟩:=e;obtain⟨he1,he2⟩:=KV e3;refine A2 hm he1 ?_;generalize aC P N cf=c0 at*;cases hq:dycP c0 with
 |none=>rw[hq]at e1; cases e1
 |some p=>
  rw[hq]at e1;simp only[AlV,AlJ,AlE]at e1;obtain⟨e4,e4',e5⟩:=e1;unfold dycP at hq;split at hq
  ·rename_i a ha;have hes:Yn c0=a.es:=by unfold Yn; rw[ha]
   rw[hes]at he2;refine AdM ha he2 (fun hp=> ?_) g;have hg:gOf c0=true:=by
    unfold gOf; rw[ha];obtain⟨l,o,gg,sl,es⟩:=a;cases gg with
    |none=>rfl
    |some q=>exact hp q rfl
   have hS:=hs hg;obtain⟨l,⟨dst,op,ty,pos,af,gd⟩,gg,sl,es⟩:=a;simp only at hq⊢;split at hq
   ·rename_i c;obtain⟨ce,xs,ts⟩:=c;obtain⟨xs⟩:=xs;simp only at hq;split at hq
    ·rename_i t;split at hq
     ·rename_i k' ds' hv;cases hq;simp only at e4 e4' e5;subst e4 e4';refine⟨AlK _,fun rest Q η m f w As hr hz hn St0 hk=> ?_⟩;have rt:=hr t;rw[hv]at rt;obtain⟨cs,hval,hfr⟩: ∃cs,f t= .func (.func k') #[.agg cs.toArray] #[]∧FRL m ds' cs:=by
       have:=rt.dd;generalize f t=u at this;cases this with
       |cl hl hr'=>exact⟨_,rfl,hl,hr'⟩
      have ra:=B5.map_aev hr xs;refine PB (x:= .tmp t) (g:= .func (.func k') #[.agg cs.toArray] #[]) (R:=fun v w'=> ∃(M:Mem) (η':Env) (r':AV) (obs':List AObj) (n1:Nat),m≤M∧none0.le η'∧is r [] 0 r' obs' n1∧(∀n,η' n≠none→n<n1)∧Rel η' M r' v∧St M (obs'.map (rep η' M)++As) w') hval (Pe.clo (pre:=[.agg cs.toArray]) (caps:=[]) hS.1 rfl (by
       simp only[List.singleton_append,Amf];refine hS.2 none0 m As w _ ?_ (fun n h=>absurd rfl h) St0;have h1:=Nl (es:=ea) hz ra;have h2:B5 none0 m ea (xs.map (ev f)):=N7 (η:=η) (n:=0) (fun k h=>absurd h (by omega)) e2 (by rw[e5]at h1; exact h1);have h3:Rel none0 m (.agg (ds'.map dv)) (.agg cs.toArray):=by
        have:=B5.ofDv (η:=none0) hfr;exact .agg this.1 this.2
       exact .cons h3 h2)) rfl ?_
      rintro v w2 ⟨M,η',r',obs',n1,hle,_,⟨rfl,rfl,rfl⟩,hdom,hR,S⟩;have hη:η'.le η:=fun n u h=>by have:=hdom n (by rw[h]; simp); omega
      exact hk η M w2 v Env.le_refl hle (fun n h=> .inl h) (hR.up hη (Mem.rfl' M)) S
     ·cases hq
    ·cases hq
   ·cases hq
  ·cases hq
def X3 (s:AS)(t j:Nat):Option (Nat×Nat×List AV×TypeId):=
 match get s.sl t with
 | .pb n 0=>match find n s.ob with
  |some (i,.box k cs ty)=>match cs[j]? with
   |some a=>bif Nat.beq k n&&Qd a then some (i,n,cs,ty)else none
   |none=>none
  |_=>none
 |_=>none
def ME (i:Nat)(o:AObj)(ob:List Tok):List Tok:=ob.map fun p=>bif Nat.beq p.1 i then(i,o)else p
def Ac0 (s:AS)(t j sz:Nat)(α:Type)(E:α→List D):AS:=match X3 s t j with|some (i,n,cs,ty)=>⟨s.sl,ME i (.box n (cs.set j (.ow s.nx)) ty) s.ob++[(s.nx,.row s.nx sz α E [])],s.fz,s.nx+1⟩|none=>s
theorem N0 {i:Nat}{o:AObj}: ∀{ob:List Tok},tids (ME i o ob)=tids ob
 | []=>rfl
 |p::l=>by
  show(bif Nat.beq p.1 i then(i,o)else p).1::tids (ME i o l)=p.1::tids l;rw[N0];cases hb:Nat.beq p.1 i
  ·rfl
  ·have:=AlF hb; simp[this]
theorem N1 {i:Nat}{o:AObj}: ∀{ob:List Tok},i∉tids ob→ME i o ob=ob
 | [],_=>rfl
 |p::l,h=>by
  have h1:p.1≠i:=fun e=>h (by rw[←e]; exact AlZ);have h2:i∉tids l:=fun e=>h (Al4 _ e);show(bif Nat.beq p.1 i then(i,o)else p)::ME i o l=p::l;rw[N1 h2];cases hb:Nat.beq p.1 i
  ·rfl
  ·exact absurd (AlF hb) h1
theorem AbX {i:Nat}{o q:AObj}{ob:List Tok}(hn:(tids ob).Nodup)(h:(i,q)∈ob): ∃l1 l2,ob=l1++(i,q)::l2∧ME i o ob=l1++(i,o)::l2:=by
 obtain⟨l1,l2,rfl⟩:=List.append_of_mem h;refine⟨l1,l2,rfl,?_⟩;have hn':(tids l1++i::tids l2).Nodup:=by simpa[tids]using hn
 obtain⟨n1,n2,n3⟩:=List.nodup_append.1 hn';have a1:i∉tids l1:=fun e=>n3 i e i AlZ rfl;have a2:i∉tids l2:=(List.nodup_cons.1 n2).1;have e1:=N1 (o:=o) a1;have e2:=N1 (o:=o) a2;unfold ME at*;rw[Amq,Amd,e1,e2];simp
theorem AjY {s:AS}{η:Env}{m:Mem}{f:Fr}{w:World}{t j sz:Nat}{α:Type}{E:α→List D}(h:(X3 s t j).isSome=true)(g:Gm As s η m f w):
  ∃η',η.le η'∧Gm As (Ac0 s t j sz α E) η' m f w:=by
 cases hk:X3 s t j with
 |none=>rw[hk]at h; cases h
 |some r=>
  obtain⟨i,n,cs,ty⟩:=r;have hS:Ac0 s t j sz α E=⟨s.sl,ME i (.box n (cs.set j (.ow s.nx)) ty) s.ob++[(s.nx,.row s.nx sz α E [])],s.fz,s.nx+1⟩:=by unfold Ac0; rw[hk]
  rw[hS];unfold X3 at hk;split at hk
  ·rename_i n' hsl;split at hk
   ·rename_i i' k' cs' ty' hf;split at hk
    ·rename_i a ha;cases hb:Nat.beq k' n'&&Qd a
     ·rw[hb]at hk; cases hk
     ·rw[hb]at hk;simp only[cond_true,AlJ,AlE]at hk;obtain⟨rfl,rfl,rfl,rfl⟩:=hk;simp only[AlD]at hb;have hkn:=AlF hb.1;subst hkn;have h0:η s.nx=none:=by
       cases q:η s.nx with
       |none=>rfl
       |some v=>have:=g.dom s.nx (by rw[q]; simp); omega
      have le:=Env.le_put (v:= .slice none 0 0) h0;obtain⟨l1,l2,e1,e2⟩:=AbX (o:= .box k' (cs'.set j (.ow s.nx)) ty') g.wf.nd (Fw hf);refine⟨η.put s.nx (.slice none 0 0),le,fun u=>(g.slr u).up le (Mem.rfl' m),g.fz.up le (Mem.rfl' m),fun x hx=> ?_,?_,?_,fun x hx=> ?_⟩
      ·rcases Env.put_dom hx with q|q
       ·exact Nat.lt_succ_of_lt (g.dom x q)
       ·subst q; exact AlX _
      ·have S0:=St.ru le (Mem.rfl' m) g.st;rw[e1]at S0;have S1:=St.rp S0 (AmJ (a:=(i',AObj.box k' cs' ty')) (l₁:=l1) (l₂:=l2));have S2:St m (rep (η.put s.nx (.slice none 0 0)) m (.box k' (cs'.set j (.ow s.nx)) ty')::(reps (η.put s.nx (.slice none 0 0)) m (l1++l2)++As)) w:=by
        refine St.imp0 S1 fun x hx=> ?_;obtain⟨b,vs,q1,q2,q3,q4⟩:=hx;refine⟨b,vs,q1,⟨by rw[List.length_set]; exact q2.1,fun k c u hc hu=> ?_⟩,q3,q4⟩;rw[List.getElem?_set]at hc;split at hc
        ·rename_i e; subst e;split at hc
         ·cases hc;have hr:=q2.2 _ a u ha hu;have hu0:u= .slice none 0 0:=by
           have hb2:=hb.2;unfold Qd at hb2;split at hb2
           ·have:=hr.dd; cases this; rfl
           ·cases hb2
          rw[hu0]; exact .ow Env.put_self rfl
         ·cases hc
        ·exact q2.2 k c u hc hu
       have T:=St.closeRow (η:=η.put s.nx (.slice none 0 0)) (n:=s.nx) (E:=E) (xs:=[]) Env.put_self rfl (by simpa using FRL.nil) (fun _ h=>by cases h) (St.rowNil S2 sz);show St m (reps _ m (ME i' _ s.ob++[_])++As) w;rw[e2,BB,AlP];have T2:St m (rep (η.put s.nx (.slice none 0 0)) m (.row s.nx sz α E [])::(reps (η.put s.nx (.slice none 0 0)) m (l1++(i',.box k' (cs'.set j (.ow s.nx)) ty')::l2)++As)) w:=by
        refine T.perm (List.Perm.cons _ ?_);rw[BB,BB,Aco,AlP,AlP];exact List.perm_middle.symm
       exact T2.perm (List.perm_middle.symm)
      ·show(tids (ME i' _ s.ob++[_])).Nodup;simp only[tids,Amq,Amd,List.map_nil];have e3:=N0 (i:=i') (o:= .box k' (cs'.set j (.ow s.nx)) ty') (ob:=s.ob);unfold tids at e3;rw[e3];refine List.nodup_append.2 ⟨g.wf.nd,by simp,fun a ha b hb e=> ?_⟩;simp at hb;have:=g.wf.lt a ha;omega
      ·have hx':x∈tids (ME i' (.box k' (cs'.set j (.ow s.nx)) ty') s.ob++[(s.nx,AObj.row s.nx sz α E [])]):=hx;unfold tids at hx';rw[Amq,Al5]at hx';have e3:=N0 (i:=i') (o:= .box k' (cs'.set j (.ow s.nx)) ty') (ob:=s.ob);unfold tids at e3;rcases hx' with q|q
       ·rw[e3]at q; exact Nat.lt_succ_of_lt (g.wf.lt x q)
       ·simp at q; subst q; exact AlX _
    ·cases hk
   ·cases hk
  ·cases hk
def AjZ (cf:Cf)(t j sz:Nat)(α:Type)(E:α→List D):Cf:=⟨Ac0 cf.s t j sz α E,cf.md,cf.K⟩
theorem AcZ {cf:Cf}{t j sz:Nat}{α:Type}{E:α→List D}(hp:LH cf=true)(h:(X3 cf.s t j).isSome=true)(g:Go ρ P N D0 Q As η0 m0 (AjZ cf t j sz α E)):Go ρ P N D0 Q As η0 m0 cf:=by
 obtain⟨s,md,K⟩:=cf;have key: ∀{R:Fr→World→Prop},Al As η0 m0 (Ac0 s t j sz α E) R→Al As η0 m0 s R:=fun k η m f w a1 a2 gm=>
  let ⟨η',le,gm'⟩:=AjY h gm; k η' m f w (Env.le_tr a1 le) a2 gm'
 cases md with
 |ops=>cases hp
 |code c=>exact key g
 |pop=>exact key g
 |ext id=>exact key g
 |ret=>exact key g
theorem AgN {cf:Cf}{α:Type}(E:α→List D)(t j sz:Nat)(g:Go ρ P N D0 Q As η0 m0 (AjZ (aC P N cf) t j sz α E))
  (e:(LH (aC P N cf),(X3 (aC P N cf).s t j).isSome,(bL P N cf))=(true,true,(bR P N cf)):=by kernel_rfl) (hm:P.follows .mixedOrders=true:=by rfl):Go ρ P N D0 Q As η0 m0 cf:=by
 simp only[AlE]at e;exact A2 hm (.of e.2.2) (AcZ e.1 e.2.1 g)
theorem gnilBU {cf:Cf}{α:Type}(id:Nat)(E:α→List D)(t j sz:Nat)(g:Go ρ P N D0 Q As η0 m0 (AjZ (KW id P N 100000 cf).1 t j sz α E))
  (e:(LH (KW id P N 100000 cf).1,(X3 (KW id P N 100000 cf).1.s t j).isSome,((KW id P N 100000 cf).2).map (·.1))=(true,true,((KW id P N 100000 cf).2).map (·.2)):=by kernel_rfl) (hm:P.follows .mixedOrders=true:=by rfl):Go ρ P N D0 Q As η0 m0 cf:=by
 simp only[AlE]at e;exact Sy hm (.of e.2.2) (AcZ e.1 e.2.1 g)
end
def atD (d:Nat)(cf:Cf):Bool:=match cf.md with
 | .ops _ _ (o::_) _=>match o.dst with|some k=>Nat.beq k d|none=>false
 |_=>false
def VJ (d:Nat)(P:Program)(N:Nat):Nat→Cf→Cf×Eqs
 |0,cf=>(cf,[])
 |n+1,cf=>bif atD d cf then(cf,[])else match nxt P N cf with
  |some r=>let q:=VJ d P N n r.1; (q.1,r.2++q.2)
  |none=>(cf,[])
def Xi:List AV→Option (List D)
 | []=>some []
 | .d x::l=>match Xi l with
  |some r=>some (x::r)
  |none=>none
 |_=>none
def boxFK (cf:Cf):Option (List D):=
 match Hf cf with
 |some a=>match a.o.op with
  | .box e x=>match NQ (rv cf.s.fz a.sl x)with
   |some cs=>Xi cs
   |none=>none
  |_=>none
 |none=>none
def slMK (P:Program)(cf:Cf):Option (List D×Nat×Nat×Bool):=
 match Hf cf with
 |some a=>match a.o.op with
  | .slice t x none none none=>match aev a.sl x,P.underlying t with
   | .d (.pf ds),some (.array n e)=>match J7 P e with
    |some i=>some (ds.take (n*i.sz),i.sz,n,Nat.ble n 1000000)
    |none=>none
   |_,_=>none
  |_=>none
 |none=>none
theorem Z1 {η:Env}{m:Mem}: ∀{cs:List AV} {ds:List D} {vs:List Value},Xi cs=some ds→B5 η m cs vs→FRL m ds vs
 | [],ds,vs,h,r=>by cases h; have:=r.nil_inv; subst this; exact FRL.nil
 | .d x::l,ds,vs,h,r=>by
  obtain⟨v,us,rfl,a,b⟩:=r.cons_inv;unfold Xi at h;split at h
  ·rename_i q hq;cases h;exact FRL.cons a.dd (Z1 hq b)
  ·cases h
 | .any::l,ds,vs,h,r=>by simp[Xi]at h
 | .no::l,ds,vs,h,r=>by simp[Xi]at h
 | .pb _ _::l,ds,vs,h,r=>by simp[Xi]at h
 | .pe _ _ _ _::l,ds,vs,h,r=>by simp[Xi]at h
 | .pa _ _ _ _::l,ds,vs,h,r=>by simp[Xi]at h
 | .bs _ _ _ _::l,ds,vs,h,r=>by simp[Xi]at h
 | .ow _::l,ds,vs,h,r=>by simp[Xi]at h
 | .ab _::l,ds,vs,h,r=>by simp[Xi]at h
 | .agg _::l,ds,vs,h,r=>by simp[Xi]at h
 | .tup _::l,ds,vs,h,r=>by simp[Xi]at h
 | .fn _ _ _::l,ds,vs,h,r=>by simp[Xi]at h
 | .gd _ _ _ _::l,ds,vs,h,r=>by simp[Xi]at h
section
variable {ρ:Option Nat}{P:Program}{N:Nat}{D0:Dw}{Q:DQ}{As:List Ow}{η0:Env}{m0:Mem}
theorem AeH {d:Nat}(hm:P.follows .mixedOrders=true): ∀{n:Nat} {cf:Cf},EqsOk (VJ d P N n cf).2→Go ρ P N D0 Q As η0 m0 (VJ d P N n cf).1→Go ρ P N D0 Q As η0 m0 cf
 |0,_,_,g=>g
 |n+1,cf,he,g=>by
  cases hb:atD d cf with
  |true=>
   have e:VJ d P N (n+1) cf=(cf,[]):=by simp only[VJ,hb,cond_true]
   rw[e]at g; exact g
  |false=>
   cases hr:nxt P N cf with
   |none=>
    have e:VJ d P N (n+1) cf=(cf,[]):=by simp only[VJ,hr,hb,cond_false]
    rw[e]at g; exact g
   |some r=>
    have e:VJ d P N (n+1) cf=((VJ d P N n r.1).1,r.2++(VJ d P N n r.1).2):=by simp only[VJ,hr,hb,cond_false]
    rw[e]at g he;have he':=EqsOk.app.1 he;exact RH hm hr he'.1 (AeH hm (n:=n) he'.2 g)
theorem AkL {cf:Cf}(d:Nat)(ds:List D)(g:Go ρ P N D0 Q As η0 m0 (CV N (VJ d P N 100000 cf).1 (.d (.pf ds)) []))
  (e:(boxFK (VJ d P N 100000 cf).1,((VJ d P N 100000 cf).2++Yn (VJ d P N 100000 cf).1).map (·.1))=(some ds,((VJ d P N 100000 cf).2++Yn (VJ d P N 100000 cf).1).map (·.2)):=by kernel_rfl) (hm:P.follows .mixedOrders=true:=by rfl):Go ρ P N D0 Q As η0 m0 cf:=by
 simp only[AlE]at e;obtain⟨e1,e3⟩:=e;obtain⟨he1,he2⟩:=EqsOk.two e3;refine AeH hm he1 ?_;generalize (VJ d P N 100000 cf).1=c0 at*;unfold boxFK at e1;split at e1
 ·rename_i a ha;rw[DX ha]at he2;split at e1
  ·rename_i t x hop;split at e1
   ·rename_i cs hc;refine DW (rd:=[]) ha he2 OT (fun hp=> ?_) g;obtain⟨ll,⟨dst,op',ty,pos,af,gd⟩,gg,sl,es⟩:=a;simp only at hop hc⊢; subst hop;refine⟨AlK _,fun rest Q η m f w As hr hz hn S hk'=> ?_⟩;obtain⟨hl,hh⟩:=IW hc (MI hz hr x);have hf:=Z1 e1 hl;refine s_box S rfl fun b w' S'=> ?_;obtain⟨m',le,hp',S2⟩:=St.bxKeep (i:=0) S' rfl;exact hk' η m' w' (pt b 0) Env.le_refl le (fun n h=> .inl h) (.d (.pf hp' rfl (hf.up le).1 (hf.up le).2)) (St.ru Env.le_refl le S2)
   ·cases e1
  ·cases e1
 ·cases e1
theorem gslM {k:Nat}{cf:Cf}{α:Type}{E:α→List D}(xs:List α)(hE: ∀x,(E x).length=k)(g:Go ρ P N D0 Q As η0 m0 (CV N (aC P N cf) (.d (.sl α E xs)) []))
  (e:(slMK P (aC P N cf),(aL P N cf))=(some (xs.flatMap E,k,xs.length,true),(aR P N cf)):=by kernel_rfl) (hm:P.follows .mixedOrders=true:=by rfl):Go ρ P N D0 Q As η0 m0 cf:=by
 simp only[AlE]at e;obtain⟨e1,e3⟩:=e;obtain⟨he1,he2⟩:=KV e3;refine A2 hm he1 ?_;generalize aC P N cf=c0 at*;unfold slMK at e1;split at e1
 ·rename_i a ha;rw[DX ha]at he2;split at e1
  ·rename_i t x hop;split at e1
   ·rename_i ds nn ee hx hu;split at e1
    ·rename_i i hi;simp only[AlJ,AlE]at e1;obtain⟨hd,hk,rfl,hle⟩:=e1;refine DW (rd:=[]) ha he2 OT (fun hp=> ?_) g;obtain⟨ll,⟨dst,op',ty,pos,af,gd⟩,gg,sl,es⟩:=a;simp only at hop hx⊢; subst hop;refine⟨AlK _,fun rest Q η m f w As hr hz hn S hk'=> ?_⟩;have rx:=Aq hr x;rw[hx]at rx;obtain⟨cs,hp1,hp2⟩:=FRL.ptc (n:=0) rx.dd;letI:=QO E k;have hle:=AlS hle;have ht:=hp2.take (xs.length*i.sz);rw[hd]at ht;refine Y4 (α:=α) (cs:=cs.take (xs.length*i.sz)) (ds:=cs.drop (xs.length*i.sz)) (xs:=xs) rfl (by rw[List.take_append_drop]; exact hp1) (Aat ht fun x _=>hE x) rfl (by omega) hu (fun w=>by have:=B8 hi w; rw[hk]at this; exact this) fun u hu'=> ?_;exact hk' η m w u Env.le_refl (Mem.rfl' m) (fun n h=> .inl h) (.d (V5 hu')) S
    ·cases e1
   ·cases e1
  ·cases e1
 ·cases e1
end
def cntS (s:ByteArray)(c:UInt8):Int:=(Lib.countByte s.data.toList c:Nat)
def Adv (s:ByteArray)(c:UInt8):Int:=Lib.indexByte s.data.toList c
structure Ahp (P:Program)(fn:Func)(F:ByteArray→UInt8→Int):Prop where
 hname:(fn.name== "runtime.NumGoroutine")=false
 hb:fn.body.isNone=true
 hn:Extern.findNext fn=none
 he: ∃E,Extern.find fn=some E∧∀s c w,(E #[vS s,vB c]).run P w= .ok (vI (F s c)) w
theorem extCnt {P:Program}{fn:Func}(hname:(fn.name== "runtime.NumGoroutine")=false)(hb:fn.body.isNone=true)(hn:Extern.findNext fn=none)(he:Extern.find fn=some Extern.BytealgCount.count):Ahp P fn cntS:=
 ⟨hname,hb,hn,_,he,fun s c w=>by
  have:=Lib.run_countString (P:=P) s (c.toNat:Int) w;rw[show((c.toNat:Int).toNat).toUInt8=c by simp]at this;exact this⟩
theorem extIxb {P:Program}{fn:Func}(hname:(fn.name== "runtime.NumGoroutine")=false)(hb:fn.body.isNone=true)(hn:Extern.findNext fn=none)(he:Extern.find fn=some Extern.BytealgIndexByte.indexByte):Ahp P fn Adv:=
 ⟨hname,hb,hn,_,he,fun s c w=>by
  have:=Lib.run_indexByteString (P:=P) s (c.toNat:Int) w;rw[show((c.toNat:Int).toNat).toUInt8=c by simp]at this;exact this⟩
def extK (cf:Cf):Option (FuncId×AV×AV):=
 match Hf cf with
 |some a=>match a.o.op with
  | .call c=>match c.callee,c.args.toList with
   | .value (.func k),[x,y]=>some (k,aev a.sl x,aev a.sl y)
   |_,_=>none
  |_=>none
 |none=>none
section
variable {ρ:Option Nat}{P:Program}{N:Nat}{D0:Dw}{Q:DQ}{As:List Ow}{η0:Env}{m0:Mem}
variable {ops:Array Oper}{rest:List Oper}{f:Fr}{w w':World}{dst:Option Nat}{ty:TypeId}{pos:String}{af:Array Edge}{x y:Operand}
theorem Ajp {k:FuncId}{fn:Func}{F:ByteArray→UInt8→Int}{p:ByteArray}{q:UInt8}{ats:Array TypeId}(hf:P.funcs[k]? =some fn)(hE:Ahp P fn F)(hx:ev f x=vS p)(hy:ev f y=vB q)
  (h:wpl ρ P N D0 ops rest Q (upo N f dst (vI (F p q))) w):
  wpl ρ P N D0 ops (⟨dst,.call {callee:= .value (.func k),args:= #[x,y],argTypes:=ats},ty,pos,af,none⟩::rest) Q f w:=by
 obtain⟨hname,hb,hn,E,he,hr0⟩:=hE;refine AE (v:=vI (F p q)) (w':=w) rfl (fun _ e=>by cases e) ?_ h;have hr:=run_callFunc_extern hf hname hb hn he #[vS p,vB q] w;rw[hr0]at hr;simp only[ev]at hx hy;simp only[execOp,resolve,invoke,Deferred.ofValue,List.map_toArray,Amd,List.map_nil,ev,hx,hy,AlU,AlT,AlQ,Array.empty_append,Array.append_empty,hr,Result.andThen]
theorem gext {cf:Cf}{k:FuncId}{fn:Func}{F:ByteArray→UInt8→Int}{p:ByteArray}{q:UInt8}(hf:P.funcs[k]? =some fn)(hE:Ahp P fn F)(g:Go ρ P N D0 Q As η0 m0 (CV N (aC P N cf) (.d (.i (F p q))) []))
  (e:(extK (aC P N cf),(aL P N cf))=(some (k,.d (.s p),.d (.b q)),(aR P N cf)):=by kernel_rfl) (hm:P.follows .mixedOrders=true:=by rfl):Go ρ P N D0 Q As η0 m0 cf:=by
 simp only[AlE]at e;obtain⟨e1,e3⟩:=e;obtain⟨he1,he2⟩:=KV e3;refine A2 hm he1 ?_;generalize aC P N cf=c0 at*;unfold extK at e1;split at e1
 ·rename_i a ha;rw[DX ha]at he2;split at e1
  ·rename_i c hop;split at e1
   ·rename_i k' x y hc hargs;simp only[AlJ,AlE]at e1;obtain⟨rfl,ex,ey⟩:=e1;refine DW (rd:=[]) ha he2 OT (fun hp=> ?_) g;obtain⟨l,⟨dst,op',ty,pos,af,gd⟩,gg,sl,es⟩:=a;obtain⟨cc,cas,cts⟩:=c;simp only at hop ex ey hc hargs⊢; subst hop hc;have ha':cas= #[x,y]:=by apply Array.toList_inj.mp; rw[hargs]
    subst ha';refine⟨AlK _,fun rest Q η m f w As hr hz hn S hk=> ?_⟩;have rx:=Aq hr x;have ry:=Aq hr y;rw[ex]at rx;rw[ey]at ry;exact Ajp hf hE rx.s_inv ry.b_inv (hk η m w _ Env.le_refl (Mem.rfl' m) (fun n h=> .inl h) (.d (.i _)) S)
   ·cases e1
  ·cases e1
 ·cases e1
end
end Go.Ax
end
