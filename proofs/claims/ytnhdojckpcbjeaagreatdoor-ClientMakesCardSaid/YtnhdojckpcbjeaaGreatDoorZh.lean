/- Several texts, one behind the other. Conditions: none. -/
import Derived.Test.YtnhdojckpcbjeaaGreatDoorZe
import Derived.Test.YtnhdojckpcbjeaaGreatDoorZf
import Derived.KernelRfl
import Derived.Test.YtnhdojckpcbjeaaGreatDoorZg
set_option linter.unusedSimpArgs false
set_option linter.unusedVariables false
set_option maxHeartbeats 20000000
set_option maxRecDepth 100000
section
namespace Go.Ax
open Go Go.Gw
structure YQ:Type 1 where
 id:Nat
 nb:Nat
 t:TypeId
 b:List AV
 a:List AV
def AjZ (C:List YQ):List Tok:=C.map λc=>(c.id,.box c.nb c.b c.t)
def Aer (C:List YQ):List Tok:=C.map λc=>(c.id,.box c.nb c.a c.t)
def capI (j:Nat):List YQ->List AObj
 | []=> []
 |c::r=> .box j c.b c.t::capI (j+1) r
def capO (j:Nat):List YQ->List AObj
 | []=> []
 |c::r=> .box j c.a c.t::capO (j+1) r
def capR (C:List YQ):AV->AV
 | .pb (j+1) o=>match C[j]? with|some c=> .pb c.nb o|none=> .no
 |a=>a
def capK (C:List YQ):AV->Bool
 | .pb 0 _=>false
 | .pb (j+1) _=>Nat.blt j C.length
 |a=>okA 0 a
def capE (U:Env)(y:Value)(C:List YQ):Env:=λk=>match k with
 |0=>some y
 |j+1=>match C[j]? with|some c=>U c.nb|none=>none
def capF (n1:Nat)(C:List YQ):Bool:=C.all λc=>Nat.blt c.nb n1&&(c.b.all (okA 0)&&c.a.all (okA 0))
theorem capRel {U u5:Env}{m:Mem}{C:List YQ}(he: ∀(j:Nat) (c:YQ),C[j]? =some c->u5 (j+1)=U c.nb){a:AV}{v:Value}(h:capK C a=true)(r:Rel U m (capR C a) v):Rel u5 m a v:=by
 have key: ∀a,okA 0 a=true->Rel U m a v->Rel u5 m a v:=λa ha hr=>X3 (n:=0) (λk hk=>absurd hk (Nat.not_lt_zero k)) ha hr;cases a with
 |pb j o=>
  cases j with
  |zero=>cases h
  |succ j=>
   have hl:=Da (show Nat.blt j C.length=true from h);have hc:C[j]? =some C[j]:=Aot hl;have hr:Rel U m (match C[j]? with|some c=>AV.pb c.nb o|none=> .no) v:=r;rw[hc]at hr;obtain⟨b,hb,rfl⟩:=hr.pb_inv;exact .pb (by rw[he j _ hc]; exact hb)
 |_=>exact key _ h r
theorem AnD {U u5:Env}{m:Mem}{C:List YQ}(he: ∀(j:Nat) (c:YQ),C[j]? =some c->u5 (j+1)=U c.nb){aq:List AV}{vs:List Value}(h:aq.all (capK C)=true)(r:BB U m (aq.map (capR C)) vs):BB u5 m aq vs:=
 ⟨by rw[<-r.1,AoB],λk a u ha hu=>capRel he (Aoj.1 h a (Aoh ha)) (r.2 k (capR C a) u (by rw[Aoz,ha]; rfl) hu)⟩
theorem capIn {U u5:Env}{m:Mem}: ∀{C D:List YQ} {j:Nat},(∀(i:Nat) (c:YQ),C[i]? =some c->u5 (j+i)=U c.nb)->(C.all λc=>c.b.all (okA 0))=true->
  ∀x,sepL ((AjZ C).map λp=>rep U m p.2) x->sepL ((capI j C).map (rep u5 m)) x
 | [],_,_,_,_,x,h=>h
 |c::r,D,j,he,ho,x,h=>by
  simp only[AoE,AnP]at ho;refine Ae7 (λy hy=> ?_) (capIn (D:=D) (j:=j+1) (λi d hd=>by rw[show j+1+i=j+(i+1)from by omega]; exact he (i+1) d (by simpa using hd)) ho.2) x h;obtain⟨b,vs,h1,h2,h3,h4⟩:=hy;exact⟨b,vs,by rw[show j=j+0 from rfl,he 0 c rfl]; exact h1,P6 (n:=0) (λk hk=>absurd hk (Nat.not_lt_zero k)) ho.1 h2,h3,h4⟩
theorem Alg {U u5:Env}{m:Mem}: ∀{C D:List YQ} {j:Nat},(∀(i:Nat) (c:YQ),C[i]? =some c->∀v,u5 (j+i)=some v->U c.nb=some v)->(C.all λc=>c.a.all (okA 0))=true->
  ∀x,sepL ((capO j C).map (rep u5 m)) x->sepL ((Aer C).map λp=>rep U m p.2) x
 | [],_,_,_,_,x,h=>h
 |c::r,D,j,he,ho,x,h=>by
  simp only[AoE,AnP]at ho;refine Ae7 (λy hy=> ?_) (Alg (D:=D) (j:=j+1) (λi d hd v hv=>he (i+1) d (by simpa using hd) v (by rw[show j+(i+1)=j+1+i from by omega]; exact hv)) ho.2) x h;obtain⟨b,vs,h1,h2,h3,h4⟩:=hy;exact⟨b,vs,he 0 c rfl _ h1,P6 (n:=0) (λk hk=>absurd hk (Nat.not_lt_zero k)) ho.1 h2,h3,h4⟩
theorem Acn {A:Ow}: ∀{l:List Ow} {x:PH},A∈l->sepL l x->∃y,A y
 | [],_,h,_=>by cases h
 |B::l,x,h,⟨k1,k2,a,s,_,_⟩=>by
  rcases Aom.1 h with rfl|h
  ·exact⟨k1,a⟩
  ·exact Acn h s
theorem Aih {A B C D:List Ow}(h1: ∀x,sepL A x->sepL C x)(h2: ∀x,sepL B x->sepL D x)(x:PH)(h:sepL (A++B) x):sepL (C++D) x:=by
 obtain⟨k1,k2,s1,s2,dd,rfl⟩:=Oj h;exact QW (h1 _ s1) (h2 _ s2) dd
section
variable {P:Program}{N:Nat}{D0:Dw}{Q:DP}{As:List Ow}{u4:Env}{m0:Mem}
theorem OL (hD:D0.2.2=false){n0:Nat}(n1 nx:Nat)(C:List YQ){cf:Cf}{ι κ α:Type}{gt:Nat}{ps:List Nat}{gf:FuncId}{cs:List AV}{r0:AV}(sl0:Sl)(oJ:ι->List Tok)(oK:κ->List Tok)
  (A:α->List AV) (sB:ι->α->AS) (p:ι->α->Option (ι⊕κ)) (x0:ι) {s1:ι⊕κ} (hd: ∀n,u4 n≠none->n<n0)
  (hs: ∀(g:Value) (R:(ι⊕κ)->Mem->Ow),Adm P g A R (Aa9 p)->Sp P gf (.ow 0::cs) (.hp 0 (.cb g (ι⊕κ) R (.inl x0))::capI 1 C) (C.length+1) (is r0 (.hp 0 (.cb g (ι⊕κ) R s1)::capO 1 C) (C.length+1)))
  (hsl:get sl0 gt= .fn (.func gf) [] (cs.map (capR C))) (hAl: ∀a,ps.length=(A a).length)
  (hJ: ∀x,(Abu (tids (oJ x))&&ZR nx (tids (oJ x)))=true) (hJC: ∀x,(Abu (tids (oJ x++Aer C))&&ZR nx (tids (oJ x++Aer C)))=true) (hK: ∀y,(Abu (tids (oK y++Aer C))&&ZR nx (tids (oK y++Aer C)))=true)
  (hA: ∀x a s',p x a=some s'->∀l D0 As u4 m0,(∀n,u4 n≠none->n<n1)->∀Jp,Bk As u4 m0 (λ_:Unit=>sB x a) (λ_=>True) Jp->Go (some l) P N D0 (retQ λ_ _=>False) As u4 m0 (asgC (aC P N cf) ⟨slz N sl0 ps (A a),oJ x,[],nx⟩ Jp))
  (hB: ∀x a s',p x a=some s'->∀l D0 As u4 m0,(∀n,u4 n≠none->n<n1)->∀Jp,Bk As u4 m0 (λy=>⟨sl0,oJ y,[],nx⟩) (λy=>s'= .inl y) Jp->∀Jr,Bk As u4 m0 (λy=>⟨sl0,oK y,[],nx⟩) (λy=>s'= .inr y) Jr->
   Go (some l) P N D0 (retQ Jr) As u4 m0 (bodC (aC P N cf) (sB x a) Jp))
  (h1: ∀x,s1= .inl x->Go none P N D0 Q As u4 m0 ⟨⟨sl0,oJ x++Aer C,[],nx⟩,.pop,(aC P N cf).K⟩)
  (h2: ∀y,s1= .inr y->Go none P N D0 Q As u4 m0 ⟨⟨sl0,oK y++Aer C,[],nx⟩,.ret,(aC P N cf).K⟩)
  (e:(rgK (aC P N cf),vwL (aC P N cf).s ⟨sl0,oJ x0++AjZ C,[],nx⟩ n0,(vwP (aC P N cf).s ⟨sl0,oJ x0++AjZ C,[],nx⟩).isSome,bL P N cf)=(some (gt,ps),vwR (aC P N cf).s ⟨sl0,oJ x0++AjZ C,[],nx⟩,true,bR P N cf):=by kernel_rfl)
  (hok:(cs.all (capK C)&&((sl0.map (·.2)).all (okA n1)&&(Nat.ble n0 n1&&capF n1 C)))=true:=by kernel_rfl) (hm:P.follows .mixedOrders=true:=by rfl):Go none P N D0 Q As u4 m0 cf:=by
 simp only[AnQ]at e;obtain⟨e1,e2,e4,e3⟩:=e;refine AP hm (.of e3) ?_;generalize aC P N cf=c0 at*;obtain⟨s,md,K⟩:=c0;unfold rgK at e1;split at e1
 ·rename_i g' ps' asg bo hmd;simp only at hmd; subst hmd;simp only[AnU,AnQ]at e1;obtain⟨rfl,rfl⟩:=e1;simp only[AnP]at hok;obtain⟨o1,o2,o3,o4⟩:=hok;have o3:=An5 o3;have o4': ∀c∈C,c.nb<n1/\c.b.all (okA 0)=true/\c.a.all (okA 0)=true:=λc hc=>by
   have:=Aoj.1 o4 c hc;simp only[AnP]at this;exact⟨Da this.1,this.2.1,this.2.2⟩
  intro U m f w a1 a2 g;obtain⟨uu,m1,l1,le1,g1⟩:=XB e2 e4 hd a1 g;have hfn:Rel uu m1 (get sl0 g') (f g'):=g1.slr g';rw[hsl]at hfn;obtain⟨us,caps,hv,hu,hc⟩:=hfn.fn_inv;have:=hu.nil_inv; subst this;have he: ∀k,k<n1->AhQ uu n1 k=uu k:=λk hk=>AnT hk;have hslc: ∀t,Rel (AhQ uu n1) m1 (get sl0 t) (f t):=λt=>X3 he (AgB o2 t) (g1.slr t);have hle:u4.le (AhQ uu n1):=λk v hk=>by
   unfold AhQ; rw[AnT (AoU (hd k (by rw[hk]; simp)) o3)]; exact le1 k v hk
  have hdc: ∀n,AhQ uu n1 n≠none->n<n1:=λk hk=>by
   unfold AhQ at hk;split at hk
   ·assumption
   ·exact absurd rfl hk
  have hce:(AhQ uu n1).le uu:=λk v hk=>by
   unfold AhQ at hk;split at hk
   ·exact hk
   ·cases hk
  have eg: ∀(args:Array Value) w,(callFunc gf args).run P w= .ok (.enter gf args) w:=
   (hs undef (λ_ _ _=>False) (λs x r _ m vs As w _ S=>by
    obtain⟨h,⟨h1,h2,⟨_,_,ff⟩,_⟩,_⟩:=S.own;exact ff.elim)).1
  have hps:ps'.toList.toArray=ps':=by simp
  rw[<-hps];have gst:St m1 (reps uu m1 (oJ x0)++As++(AjZ C).map λp=>rep uu m1 p.2) w:=by
   have:=g1.st;rw[show(⟨sl0,oJ x0++AjZ C,[],nx⟩:AS).ob=oJ x0++AjZ C from rfl,Be,An3]at this;refine this.perm ?_;rw[An3];exact Aor _ List.perm_append_comm
  have hnb: ∀c∈C,∃b,uu c.nb=some (pt b 0):=λc hc=>by
   obtain⟨x,hx,_⟩:=gst.own;obtain⟨y,b,vs,hb,_⟩:=Acn (A:=rep uu m1 (.box c.nb c.b c.t)) (List.mem_append_right _ (List.mem_map.2 ⟨_,List.mem_map.2 ⟨c,hc,rfl⟩,rfl⟩)) hx;exact⟨b,hb⟩
  refine WT gst (show ev f (.tmp g')=_ from hv) eg (λl i w1 hi S1=> ?_) hD;have hcb:Adm P (.func (.yield l) #[] #[]) A (rgR l i oJ oK As (AhQ uu n1) m1 nx) (Aa9 p):=rg_cb hi hdc hslc hAl hJ (λx a s' h l D0 As u4 m0 hd=>hA x a s' h l D0 As u4 m0 hd _ ⟨λ_ _ h=>h⟩) (λx a s' h l D0 As u4 m0 hd=>hB x a s' h l D0 As u4 m0 hd _ ⟨λ_ _ h=>h⟩ _ ⟨λ_ _ h=>h⟩);have hE: ∀(j:Nat) (c:YQ),C[j]? =some c->capE uu (.func (.yield l) #[] #[]) C (j+1)=uu c.nb:=λj c h=>by
   show(match C[j]? with|some c=>uu c.nb|none=>none)=_;rw[h]
  have sp:=(hs _ _ hcb).2 (capE uu (.func (.yield l) #[] #[]) C) m1 [] w1 (.func (.yield l) #[] #[]::caps) (BB.cons (.ow rfl rfl) (AnD hE o1 hc))
   (λk hk=>by
    cases k with
    |zero=>omega
    |succ j=>
     by_cases hj:j<C.length
     ·omega
     ·exact absurd (show(match C[j]? with|some c=>uu c.nb|none=>none)=none from by rw[List.getElem?_eq_none (by omega)]) hk)
   (by
    obtain⟨x,hx,hr⟩:=S1.own;refine⟨S1.os,S1.tape,S1.output,x,?_,hr⟩;rw[AoC];have hx':sepL ([λh=>sepL (Lp l i .ready none::(reps uu m1 (oJ x0)++As)) h]++(AjZ C).map λp=>rep uu m1 p.2) x:=by
     have hx:sepL ((Lp l i .ready none::(reps uu m1 (oJ x0)++As))++(AjZ C).map λp=>rep uu m1 p.2) x:=hx;obtain⟨k1,k2,s1,s2,dd,rfl⟩:=Oj hx;exact QW (Acm s1) s2 dd
    show sepL ([rep (capE uu (.func (.yield l) #[] #[]) C) m1 (AObj.hp 0 (.cb (.func (.yield l) #[] #[]) (ι⊕κ) (rgR l i oJ oK As (AhQ uu n1) m1 nx) (.inl x0)))]++(capI 1 C).map (rep (capE uu (.func (.yield l) #[] #[]) C) m1)) x;exact Aih (λy hy=>by
     have hy:=Ae6 hy;exact Acm ⟨0,rfl,m1,Mem.rfl' m1,uu,hce,Mem.rfl' m1,λn hn=>g1.dom n hn,hy⟩) (capIn (D:=C) (j:=1) (λi c h=>by rw[Nat.add_comm]; exact hE i c h) (Aoj.2 λc hc=>(o4' c hc).2.1)) x hx')
  refine sp.mono ?_;rintro v w2 ⟨M,uv,r,obs',n2,l2,le2,⟨rfl,rfl,rfl⟩,dom2,rr,S2⟩;obtain⟨x,hx,hr⟩:=S2.own;rw[AoC]at hx;obtain⟨k1,k2,⟨b,hb,M0,lM,uw,c1,c2,c3,c4⟩,s2,dd,rfl⟩:=hx;have hn3: ∀c∈C,∀v,uu c.nb=some v->uw c.nb=some v:=λc hc v hv=>c1 _ _ (by rw[he _ (o4' c hc).1]; exact hv);have s3:=Alg (U:=uw) (D:=C) (j:=1) (λi c h v hv=>by
   have hc:=Aoh h;cases hq:uu c.nb with
   |none=>
    obtain⟨b,hb⟩:=hnb c hc;rw[hb]at hq; cases hq
   |some u=>
    have:=le2 (i+1) u (by rw[hE i c h]; exact hq);rw[Nat.add_comm]at hv;rw[this]at hv;rw[<-AnO hv]; exact hn3 c hc u hq) (Aoj.2 λc hc=>(o4' c hc).2.2) k2 s2
  have S3:St M (Lp l i (rgSt s1).1 (rgSt s1).2::(reps uw M0 (rgOb oJ oK s1)++As++(Aer C).map λp=>rep uw M p.2)) w2:=by
   refine⟨S2.os,S2.tape,S2.output,_,?_,hr⟩;have:=QW c4 s3 dd;exact this
  refine⟨M,(rgSt s1).1,(rgSt s1).2,_,l2,(by cases s1<;>exact λh=>(by cases h)),S3,λM' w3 lM' S4=> ?_⟩;have S4a:St M' (reps uw M0 (rgOb oJ oK s1)++(As++(Aer C).map λp=>rep uw M p.2)) w3:=by rw[<-An3]; exact S4
  have S4b:=St.ru Env.le_refl (Mem.tr lM lM') S4a;have S4c:St M' (reps uw M (Aer C)++(reps uw M' (rgOb oJ oK s1)++As)) w3:=S4b.perm (by
   rw[<-An3]; exact List.perm_append_comm)
  have S5:St M' (reps uw M' (rgOb oJ oK s1++Aer C)++As) w3:=(St.ru Env.le_refl lM' S4c).perm (by
   rw[Be,An3];exact An6 _ _ _)
  have lm:m0<=M':=Mem.tr a2 (Mem.tr l1 (Mem.tr l2 lM'));have hsr: ∀t,Rel uw M' (get sl0 t) (f t):=λt=>(hslc t).up c1 (Mem.tr l2 lM');cases s1 with
  |inl x1=>
   have hj:=hJC x1;simp only[AnP]at hj;exact h1 x1 rfl uw M' f w3 (Env.le_tr hle c1) lm ⟨hsr,λn d h=>(by cases h),c3,S5,Jq hj.1,λt ht=>Ro hj.2 t ht⟩
  |inr y=>
   have hj:=hK y;simp only[AnP]at hj;have gr:=ZM hm (cf:=⟨⟨sl0,oK y++Aer C,[],nx⟩,.code .ret,K⟩) rfl trivial (h2 y rfl);exact gr uw M' f w3 (Env.le_tr hle c1) lm ⟨hsr,λn d h=>(by cases h),c3,S5,Jq hj.1,λt ht=>Ro hj.2 t ht⟩
 ·cases e1
end
def pN {σ α:Type}(b:α->σ->Option σ)(s:σ)(x:α):Option (σ⊕Unit):=(b x s).map .inl
def fJ {σ:Type}(z:σ×Nat):σ⊕(σ×Nat):=if z.2=0 then .inl z.1 else .inr z
def pJ {σ α:Type}(b:α->σ×Nat->Option (σ×Nat))(s:σ)(x:α):Option (σ⊕(σ×Nat)):=(b x (s,0)).map fJ
theorem hyN {σ α:Type}{b:α->σ->Option σ}: ∀(s:σ) (x:α) (r:Bool×σ),(λ(s:σ) (x:α)=>Ab (b x s) λy=>some (true,y)) s x=some r->Aa9 (pN b) (.inl s) x=some (r.1,.inl r.2):=λs x r h=>by
 obtain⟨y,hy,h⟩:=Ag h;cases h;show((b x s).map Sum.inl).map _=_;rw[hy]; rfl
theorem hyJ {σ α:Type}{b:α->σ×Nat->Option (σ×Nat)}: ∀(s:σ×Nat) (x:α) (r:Bool×(σ×Nat)),(λ(s:σ×Nat) (x:α)=>if s.2=0 then Ab (b x s) λy=>some (y.2==0,y)else none) s x=some r->Aa9 (pJ b) (fJ s) x=some (r.1,fJ r.2):=λs x r h=>by
 obtain⟨s1,k⟩:=s;by_cases hk:k=0
 ·subst hk;have h:(Ab (b x (s1,0)) λy=>some (y.2==0,y))=some r:=h;obtain⟨y,hy,h⟩:=Ag h;cases h;show((b x (s1,0)).map fJ).map _=_;rw[hy];obtain⟨y1,k⟩:=y;show some (isL (fJ (y1,k)),fJ (y1,k))=some (k==0,fJ (y1,k));unfold fJ;by_cases hk:k=0
  ·subst hk; rfl
  ·rw[AnW (show¬(y1,k).2=0 from hk)];have:(k==0)=false:=by simpa using hk
   rw[this]; rfl
 ·have h:(if k=0 then _ else none)=some r:=h;rw[AnW hk]at h; cases h
theorem Ac0 {σ:Type}{z:σ×Nat}{x:σ}(h:fJ z= .inl x):z.2=0/\z.1=x:=by
 unfold fJ at h;split at h
 ·rename_i hz; exact⟨hz,Sum.inl.inj h⟩
 ·cases h
theorem AcZ {σ:Type}{z y:σ×Nat}(h:fJ z= .inr y): ¬z.2=0/\z=y:=by
 unfold fJ at h;split at h
 ·cases h
 ·rename_i hz; exact⟨hz,Sum.inr.inj h⟩
section
variable {P:Program}
theorem via {τ ι κ α:Type}{A:α->List AV}{y:τ->α->Option (Bool×τ)}{p:ι->α->Option (ι⊕κ)}(f:τ->ι⊕κ){gf:FuncId}{args:List AV}{O O':List AObj}{n:Nat}{r0:AV}{t0 t1:τ}{x0:ι}
  (hy: ∀s x r,y s x=some r->Aa9 p (f s) x=some (r.1,f r.2)) (h0:f t0= .inl x0)
  (hs: ∀(g:Value) (R:τ->Mem->Ow),Adm P g A R y->Sp P gf args (.hp 0 (.cb g τ R t0)::O) n (is r0 (.hp 0 (.cb g τ R t1)::O') n)) (g:Value) (R:(ι⊕κ)->Mem->Ow) (hc:Adm P g A R (Aa9 p)):
  Sp P gf args (.hp 0 (.cb g (ι⊕κ) R (.inl x0))::O) n (is r0 (.hp 0 (.cb g (ι⊕κ) R (f t1))::O') n):=by
 have h:=hs g (λs=>R (f s)) (λs x r h m vs As w hv S=>hc (f s) x (r.1,f r.2) (hy s x r h) m vs As w hv S);rw[<-h0];refine⟨h.1,λU m As w vs hv hd S=> ?_⟩;refine(h.2 U m As w vs hv hd S).mono ?_;rintro v w' ⟨M,u5,r,obs',n',l,le,⟨rfl,rfl,rfl⟩,dom,rr,S'⟩;exact⟨M,u5,_,_,_,l,le,⟨rfl,rfl,rfl⟩,dom,rr,S'⟩
end
section
variable {P:Program}{ρ:Option Nat}{N:Nat}{D0:Dw}{Q:DP}{As:List Ow}{u4:Env}{m0:Mem}{cf:Cf}{n0:Nat}{σ τ α:Type}
def Nx (As:List Ow)(u4:Env)(m0:Mem)(J:σ->AS)(b:σ->Option (σ⊕τ))(x:τ)(Jl:Fr->World->Prop)(y:σ⊕τ):Prop:= ∃n,Bk As u4 m0 (λp:Nat×σ=>J p.2) (λp=>iter b p.1 p.2=some x/\p.1<n+1) Jl/\((∃s,y= .inl s/\iter b n s=some x)\/y= .inr x)
theorem gI {b:σ->Option (σ⊕τ)}{n:Nat}{s0:σ}{x:τ}(q:iter b n s0=some x)(J:σ->AS)(h: ∀s y Jl,b s=some y->Nx As u4 m0 J b x Jl y->Go ρ P N D0 Q As u4 m0 (rndC (aC P N cf) (J s) Jl))(hd: ∀n,u4 n≠none->n<n0:=by assumption)
  (e:((AcO (aC P N cf)).isSome,vwL (aC P N cf).s (J s0) n0,(vwP (aC P N cf).s (J s0)).isSome,bL P N cf)=(true,vwR (aC P N cf).s (J s0),true,bR P N cf):=by kernel_rfl) (hM:P.follows .mixedOrders=true:=by rfl):
  Go ρ P N D0 Q As u4 m0 cf:=
 gl hd (λp:Nat×σ=>J p.2) (λp=>iter b p.1 p.2=some x) (λp=>p.1) (n,s0) q (by
  rintro⟨n,s⟩ hq Jl bl;cases n with
  |zero=>exact(Agl hq).elim
  |succ n=>obtain⟨y,h1,h2⟩:=ZZ hq; exact h s y Jl h1 ⟨n,bl,h2⟩) e hM
theorem gN {J:σ->AS}{b:σ->Option (σ⊕τ)}{x:τ}{Jl:Fr->World->Prop}{y:σ⊕τ}{s:σ}(nx:Nx As u4 m0 J b x Jl y)(q:some (Sum.inl s)=some y)(hd: ∀n,u4 n≠none->n<n0:=by assumption)
  (e:(Aef (aC P N cf),vwL (aC P N cf).s (J s) n0,(vwP (aC P N cf).s (J s)).isSome,bL P N cf)=(some Jl,vwR (aC P N cf).s (J s),true,bR P N cf):=by kernel_rfl) (hM:P.follows .mixedOrders=true:=by rfl):
  Go ρ P N D0 Q As u4 m0 cf:=by
 cases q; obtain⟨n,bl,h⟩:=nx;rcases h with ⟨s',hs,h⟩|h
 ·cases hs; exact gb bl hd (n,_) ⟨h,Aoc _⟩ e hM
 ·cases h
theorem nR {J:σ->AS}{b:σ->Option (σ⊕τ)}{x v:τ}{Jl:Fr->World->Prop}{y:σ⊕τ}(nx:Nx As u4 m0 J b x Jl y)(q:some (Sum.inr v)=some y):v=x:=by
 cases q; obtain⟨n,-,⟨s,h,-⟩|h⟩:=nx
 ·cases h
 ·cases h; rfl
structure Pr (σ:Type) where
 n:Nat
 p:Nat->σ->Prop
def E0 (b:Int->α->σ->Option σ)(xs:List α)(x:σ):Pr σ:=⟨xs.length,λi s=>FE b (xs.drop i) i s=some x⟩
def ER (b:Int->α->σ->Option (σ⊕τ))(xs:List α)(x:σ⊕τ):Pr σ:=⟨xs.length,λi s=>F6 b (xs.drop i) i s=some x⟩
def EM (b:Int->σ->Option σ)(n:Nat)(x:σ):Pr σ:=⟨n,λi s=>Di b (n-i) i s=some x⟩
def EN (b:Int->σ->Option (σ⊕τ))(n:Nat)(x:σ⊕τ):Pr σ:=⟨n,λi s=>CE b (n-i) i s=some x⟩
def Ng (As:List Ow)(u4:Env)(m0:Mem)(J:Int->σ->AS)(r:Pr σ)(Jl:Fr->World->Prop)(i:Nat):Prop:=i<r.n/\Bk As u4 m0 (λp:Int×σ=>J p.1 p.2) (λp=>(∃i:Nat,p.1=(i:Int)/\i<=r.n/\r.p i p.2)/\r.n-p.1.toNat<r.n-((i:Int)).toNat) Jl
def Nf (As:List Ow)(u4:Env)(m0:Mem)(J:Int->σ->AS)(r:Pr σ)(Jl:Fr->World->Prop)(i:Nat)(s:σ):Prop:=r.p i s/\(i<r.n->Ng As u4 m0 J r Jl i)
theorem gF (r:Pr σ){s0:σ}(q:r.p 0 s0)(J:Int->σ->AS)(h: ∀(i:Nat) s Jl,Nf As u4 m0 J r Jl i s->Go ρ P N D0 Q As u4 m0 (rndC (aC P N cf) (J i s) Jl))(hd: ∀n,u4 n≠none->n<n0:=by assumption)
  (e:((AcO (aC P N cf)).isSome,vwL (aC P N cf).s (J 0 s0) n0,(vwP (aC P N cf).s (J 0 s0)).isSome,bL P N cf)=(true,vwR (aC P N cf).s (J 0 s0),true,bR P N cf):=by kernel_rfl) (hM:P.follows .mixedOrders=true:=by rfl):
  Go ρ P N D0 Q As u4 m0 cf:=
 gl hd (λp:Int×σ=>J p.1 p.2) (λp=> ∃i:Nat,p.1=(i:Int)/\i<=r.n/\r.p i p.2) (λp=>r.n-p.1.toNat) (0,s0) ⟨0,rfl,Nat.zero_le _,q⟩ (by
  rintro⟨_,s⟩ ⟨i,rfl,hi,h1⟩ Jl bl;exact h i s Jl ⟨h1,λhl=>⟨hl,bl⟩⟩) e hM
theorem gG {J:Int->σ->AS}{r:Pr σ}{Jl:Fr->World->Prop}{i:Nat}{s:σ}(ng:Ng As u4 m0 J r Jl i)(hn:r.n<=9223372036854775807)(q:r.p (i+1) s)(hd: ∀n,u4 n≠none->n<n0:=by assumption)
 (e:(Aef (aC P N cf),vwL (aC P N cf).s (J (w64 ((i:Int)+1)) s) n0,(vwP (aC P N cf).s (J (w64 ((i:Int)+1)) s)).isSome,bL P N cf)=(some Jl,vwR (aC P N cf).s (J (w64 ((i:Int)+1)) s),true,bR P N cf):=by kernel_rfl) (hM:P.follows .mixedOrders=true:=by rfl):
 Go ρ P N D0 Q As u4 m0 cf:=gb ng.2 hd (w64 ((i:Int)+1),s) ⟨⟨i+1,Ab5 ng.1 hn,ng.1,q⟩,mu_lt ng.1 hn⟩ e hM
theorem gC {J:Int->σ->AS}{r:Pr σ}{Jl:Fr->World->Prop}{i:Nat}{s:σ}(nf:Nf As u4 m0 J r Jl i s)(t:Int)(ht:(i:Int)<t↔i<r.n)(h1:i<r.n->Ng As u4 m0 J r Jl i->r.p i s->Go ρ P N D0 Q As u4 m0 (way true (aC P N cf)))(h0: ¬i<r.n->r.p i s->Go ρ P N D0 Q As u4 m0 (way false (aC P N cf)))
 (e:(Vf (aC P N cf),bL P N cf)=(some (decide ((i:Int)<t)),bR P N cf):=by kernel_rfl) (hM:P.follows .mixedOrders=true:=by rfl):
 Go ρ P N D0 Q As u4 m0 cf:=gi' (λh=>have h:=ht.1 (AoN h); h1 h (nf.2 h) nf.1) (λh=>h0 (λh'=>of_decide_eq_false h (ht.2 h')) nf.1) e hM
theorem c0 {b:Int->α->σ->Option σ}{xs:List α}{x:σ}{J:Int->σ->AS}{Jl:Fr->World->Prop}{i:Nat}{s:σ}(nf:Nf As u4 m0 J (E0 b xs x) Jl i s)(h1: ∀z y,idx xs i=some z->b i z s=some y->Ng As u4 m0 J (E0 b xs x) Jl i/\(E0 b xs x).p (i+1) y->Go ρ P N D0 Q As u4 m0 (way true (aC P N cf)))(h0:x=s->Go ρ P N D0 Q As u4 m0 (way false (aC P N cf)))
 (e:(Vf (aC P N cf),bL P N cf)=(some (decide ((i:Int)<(xs.length:Int))),bR P N cf):=by kernel_rfl) (hM:P.follows .mixedOrders=true:=by rfl):
 Go ρ P N D0 Q As u4 m0 cf:=gC nf _ Int.ofNat_lt (λhl ng q=>let ⟨z,y,a,b,c⟩:=AjO q hl; h1 z y a b ⟨ng,c⟩) (λhl q=>h0 (AgR q hl)) e hM
theorem cR {b:Int->α->σ->Option (σ⊕τ)}{xs:List α}{x:σ⊕τ}{J:Int->σ->AS}{Jl:Fr->World->Prop}{i:Nat}{s:σ}(nf:Nf As u4 m0 J (ER b xs x) Jl i s)(h1: ∀z y,idx xs i=some z->b i z s=some y->Ng As u4 m0 J (ER b xs x) Jl i/\((∃s',y= .inl s'/\(ER b xs x).p (i+1) s')\/(∃t,y= .inr t/\x= .inr t))->Go ρ P N D0 Q As u4 m0 (way true (aC P N cf)))(h0: .inl s=x->Go ρ P N D0 Q As u4 m0 (way false (aC P N cf)))
 (e:(Vf (aC P N cf),bL P N cf)=(some (decide ((i:Int)<(xs.length:Int))),bR P N cf):=by kernel_rfl) (hM:P.follows .mixedOrders=true:=by rfl):
 Go ρ P N D0 Q As u4 m0 cf:=gC nf _ Int.ofNat_lt (λhl ng q=>let ⟨z,y,a,b,c⟩:=AjK q hl; h1 z y a b ⟨ng,c⟩) (λhl q=>h0 (AgO q hl).symm) e hM
theorem cM {b:Int->σ->Option σ}{n:Nat}{x:σ}{J:Int->σ->AS}{Jl:Fr->World->Prop}{i:Nat}{s:σ}(nf:Nf As u4 m0 J (EM b n x) Jl i s)(t:Int)(h1: ∀y,b i s=some y->Ng As u4 m0 J (EM b n x) Jl i/\(EM b n x).p (i+1) y->Go ρ P N D0 Q As u4 m0 (way true (aC P N cf)))(h0:x=s->Go ρ P N D0 Q As u4 m0 (way false (aC P N cf)))
 (e:(Vf (aC P N cf),bL P N cf)=(some (decide ((i:Int)<t)),bR P N cf):=by kernel_rfl) (ht:(i:Int)<t↔i<n:=by first|omega|exact Int.lt_toNat.symm) (hM:P.follows .mixedOrders=true:=by rfl):
 Go ρ P N D0 Q As u4 m0 cf:=gC nf t ht (λhl ng q=>let ⟨y,b,c⟩:=AgQ q hl; h1 y b ⟨ng,c⟩) (λhl q=>h0 (Ad3 q hl)) e hM
theorem cN {b:Int->σ->Option (σ⊕τ)}{n:Nat}{x:σ⊕τ}{J:Int->σ->AS}{Jl:Fr->World->Prop}{i:Nat}{s:σ}(nf:Nf As u4 m0 J (EN b n x) Jl i s)(t:Int)(h1: ∀y,b i s=some y->Ng As u4 m0 J (EN b n x) Jl i/\((∃s',y= .inl s'/\(EN b n x).p (i+1) s')\/(∃t,y= .inr t/\x= .inr t))->Go ρ P N D0 Q As u4 m0 (way true (aC P N cf)))(h0: .inl s=x->Go ρ P N D0 Q As u4 m0 (way false (aC P N cf)))
 (e:(Vf (aC P N cf),bL P N cf)=(some (decide ((i:Int)<t)),bR P N cf):=by kernel_rfl) (ht:(i:Int)<t↔i<n:=by first|omega|exact Int.lt_toNat.symm) (hM:P.follows .mixedOrders=true:=by rfl):
 Go ρ P N D0 Q As u4 m0 cf:=gC nf t ht (λhl ng q=>let ⟨y,b,c⟩:=AjL q hl; h1 y b ⟨ng,c⟩) (λhl q=>h0 (AgP q hl).symm) e hM
theorem gM {J:Int->σ->AS}{r:Pr σ}{Jl:Fr->World->Prop}{i:Nat}{s y:σ}(ng:Ng As u4 m0 J r Jl i/\r.p (i+1) y)(hn:r.n<=9223372036854775807)(q:some s=some y)(hd: ∀n,u4 n≠none->n<n0:=by assumption)
 (e:(Aef (aC P N cf),vwL (aC P N cf).s (J (w64 ((i:Int)+1)) s) n0,(vwP (aC P N cf).s (J (w64 ((i:Int)+1)) s)).isSome,bL P N cf)=(some Jl,vwR (aC P N cf).s (J (w64 ((i:Int)+1)) s),true,bR P N cf):=by kernel_rfl) (hM:P.follows .mixedOrders=true:=by rfl):
 Go ρ P N D0 Q As u4 m0 cf:=gG ng.1 hn (by cases q; exact ng.2) hd e hM
theorem gT {J:Int->σ->AS}{r:Pr σ}{Jl:Fr->World->Prop}{i:Nat}{s:σ}{x y:σ⊕τ}(ng:Ng As u4 m0 J r Jl i/\((∃s',y= .inl s'/\r.p (i+1) s')\/(∃t,y= .inr t/\x= .inr t)))(hn:r.n<=9223372036854775807)(q:some (Sum.inl s)=some y)(hd: ∀n,u4 n≠none->n<n0:=by assumption)
 (e:(Aef (aC P N cf),vwL (aC P N cf).s (J (w64 ((i:Int)+1)) s) n0,(vwP (aC P N cf).s (J (w64 ((i:Int)+1)) s)).isSome,bL P N cf)=(some Jl,vwR (aC P N cf).s (J (w64 ((i:Int)+1)) s),true,bR P N cf):=by kernel_rfl) (hM:P.follows .mixedOrders=true:=by rfl):
 Go ρ P N D0 Q As u4 m0 cf:=gG ng.1 hn (by
  cases q; obtain⟨-,⟨s',h,h2⟩|⟨t,h,-⟩⟩:=ng
  ·cases h; exact h2
  ·cases h) hd e hM
theorem nT {A:Prop}{p:σ->Prop}{v:τ}{x y:σ⊕τ}(ng:A/\((∃s',y= .inl s'/\p s')\/(∃t,y= .inr t/\x= .inr t)))(q:some (Sum.inr v)=some y): .inr v=x:=by
 cases q; obtain⟨-,⟨s',h,-⟩|⟨t,h,h2⟩⟩:=ng
 ·cases h
 ·cases h; exact h2.symm
theorem gE {fn:Func}{n1:Nat}{er:AV}{eobs:List AObj}(hd: ∀n,u4 n≠none->n<n0:=by assumption)
 (e:(endL P fn (aC P N cf) er eobs n0 n1,(Ano P fn (aC P N cf) er eobs).isSome,bL P N cf)=(endR P fn (aC P N cf) er eobs,true,bR P N cf):=by kernel_rfl) (hM:P.follows .mixedOrders=true:=by rfl):
 Go ρ P N D0 (AdQ P N fn (Tu As u4 m0 (is er eobs n1))) As u4 m0 cf:=gend hd e hM
theorem bE {β γ:Type}{a:β}{k:β->γ}{z:γ}{G:Prop}(q:bnd a k=z)(g:let x:=a; k x=z->G):G:=g q
theorem gx {xs:List α}{j:Int}{x:α}(E:α->List D)(k:Nat)(q:idx xs j=some x)(g:Go ρ P N D0 Q As u4 m0 (CH N (aC P N cf) (.d (.pf (E x))) (idxT P (aC P N cf))))
 (e:((AmP P (aC P N cf)).map (λr=>(r.1,r.2.1,r.2.2.1)),aL P N cf)=(some (.sl α E xs,j,k),aR P N cf):=by kernel_rfl) (hE: ∀x,(E x).length=k:=by intro x; rfl) (hM:P.follows .mixedOrders=true:=by rfl):Go ρ P N D0 Q As u4 m0 cf:=gidx hE (λ_=>q) g e hM
theorem gxG [Inhabited α]{c:Bool}{xs:List α}{j:Int}{x:α}(E:α->List D)(k:Nat)(q:gu c (idx xs j)=some x)(g:Go ρ P N D0 Q As u4 m0 (CH N (aC P N cf) (.d (.pf (E x))) (idxT P (aC P N cf))))
 (e:(gOf (aC P N cf),(AmP P (aC P N cf)).map (λr=>(r.1,r.2.1,r.2.2.1)),aL P N cf)=(c,some (.sl α E xs,j,k),aR P N cf):=by kernel_rfl) (hE: ∀x,(E x).length=k:=by intro x; rfl) (hM:P.follows .mixedOrders=true:=by rfl):Go ρ P N D0 Q As u4 m0 cf:=gidxG hE (λh=>Z9 h q) g e hM
theorem gk {xs ys:List α}{lo hi:Int}(E:α->List D)(k:Nat)(q:cut xs lo hi=some ys)(g:Go ρ P N D0 Q As u4 m0 (CH N (aC P N cf) (.d (.sl α E ys)) (cutT P (aC P N cf))))
 (e:((cutK P (aC P N cf)).map (λr=>(r.1,r.2.1,r.2.2.1,r.2.2.2.1,r.2.2.2.2.1)),aL P N cf)=(some (.sl α E xs,lo,hi,hi,k),aR P N cf):=by kernel_rfl) (hE: ∀x,(E x).length=k:=by intro x; rfl) (hM:P.follows .mixedOrders=true:=by rfl):Go ρ P N D0 Q As u4 m0 cf:=gcut hE (λ_=>q) g e hM
theorem gp {b:Nat}{xs ys zs:List α}(E:α->List D)(k:Nat)(q:app b xs ys=some zs)(g:Go ρ P N D0 Q As u4 m0 (push N (aC P N cf) (appS P (aC P N cf).s (aC P N cf) k α E zs)))
 (e:(appK P (aC P N cf),aL P N cf)=(some (.sl α E xs,.sl α E ys,b,k,true),aR P N cf):=by kernel_rfl) (hE: ∀x,(E x).length=k:=by intro x; rfl) (hM:P.follows .mixedOrders=true:=by rfl):Go ρ P N D0 Q As u4 m0 cf:=gapp hE q g e hM
theorem gq (E:α->List D)(k:Nat)(xs:List α)(g:Go ρ P N D0 Q As u4 m0 (CH N (aC P N cf) (.d (.sl α E xs)) []))
 (e:(litG P (aC P N cf),aL P N cf)=(some ((xs.flatMap E).map dv,xs.length,k,true),aR P N cf):=by kernel_rfl) (hE: ∀x,(E x).length=k:=by intro x; rfl) (hM:P.follows .mixedOrders=true:=by rfl):Go ρ P N D0 Q As u4 m0 cf:=glitF E xs hE g e hM
theorem gcH {β:Type} [Inhabited β]{c:Bool}{k:FuncId}{ea:List AV}{a:Option β}{x:β}{r:AV}(q:gu c a=some x)(hs:a=some x->Sf P k ea r)(g:Go ρ P N D0 Q As u4 m0 (P4 N (aC P N cf) r))
 (e:(gOf (aC P N cf),Aec (aC P N cf) ea,ea.all (okA 0),aL P N cf)=(c,some (k,ea),true,aR P N cf):=by kernel_rfl) (hM:P.follows .mixedOrders=true:=by rfl):Go ρ P N D0 Q As u4 m0 cf:=gcG (λh=>hs (Z9 h q)) g e hM
theorem gA {β γ:Type}{a:Option β}{kk:β->Option γ}{z:γ}(hq:Ab a kk=some z){k:FuncId}{ea:List AV}{R:β->AV}(hs: ∀{x},a=some x->Sf P k ea (R x))(g: ∀x,a=some x->kk x=some z->Go ρ P N D0 Q As u4 m0 (P4 N (aC P N cf) (R x)))
 (e:(Aec (aC P N cf) ea,ea.all (okA 0),aL P N cf)=(some (k,ea),true,aR P N cf):=by kernel_rfl) (hM:P.follows .mixedOrders=true:=by rfl):
 Go ρ P N D0 Q As u4 m0 cf:=gB hq (λ_=>hs) g e hM
theorem gD {β γ:Type}{a:Option β}{kk:β->Option γ}{z:γ}(hq:Ab a kk=some z){k:FuncId}{ea:List AV}{eobs:List AObj}{n1:Nat}{R:β->AV}{O:β->List AObj}(hs: ∀{x},a=some x->Sp P k ea eobs n0 (is (R x) (O x) n1))(g: ∀x,a=some x->kk x=some z->Go ρ P N D0 Q As u4 m0 (Aix N (aC P N cf) ea eobs n0 (R x) (O x) n1))
 (e: ∀x,(Aj0 (aC P N cf) ea eobs n0,okA n1 (R x)&&((O x).all (okO n1)&&Nat.ble n0 n1),aL P N cf)=(some (k,(AbW (aC P N cf) ea eobs).1,(AbW (aC P N cf) ea eobs).2,true),true,aR P N cf):=by intro x; kernel_rfl) (hM:P.follows .mixedOrders=true:=by rfl):
 Go ρ P N D0 Q As u4 m0 cf:=gBo hq (λ_=>hs) g e hM
theorem lk {n:Nat}(h:Nat.ble n 9223372036854775807=true:=by rfl):n<=9223372036854775807:=An5 h
theorem sq {k:FuncId}{fn:Func}{c:Code}{args:List AV}{obs:List AObj}{Po:AV->List AObj->Nat->Prop}(h: ∀D0 As u4 m0,(∀n,u4 n≠none->n<n0)->Go none P N D0 (AdQ P N fn (Tu As u4 m0 Po)) As u4 m0 ⟨VQ args obs n0,.code c,[]⟩)(hf:P.funcs[k]? =some fn:=by rfl)(hb:fn.body=some c:=by rfl)(hN:fn.ntmps=N:=by rfl)(hc: ∀(a:Array Value) w,(callFunc k a).run P w= .ok (.enter k a) w:=by intros; rfl)(hle:Nat.ble args.length N=true:=by rfl):
 Sp P k args obs n0 Po:=sp hc hf hb hN hle h
end
def litB (P:Program)(cf:Cf):Option (TypeId×List AV×Nat):=
 match Hk cf with
 |some a=>match a.g,a.o.op with
  |none,.buildSlice t n parts=>match P.underlying t with
   |some (.slice e)=>match KR P e with
    |some i=>match i.z with
     |some _=>bif Aki 0 parts.toList&&(Nat.beq n parts.toList.length&&(Nat.ble n 16777216&&(Nat.beq i.sz 1&&(parts.toList.map λp=>rv cf.s.fz a.sl p.2).all AV.cell)))
      then some (e,parts.toList.map λp=>rv cf.s.fz a.sl p.2,n)else none
     |none=>none
    |none=>none
   |_=>none
  |_,_=>none
 |none=>none
def litS (P:Program)(cf:Cf):Stp:=match litB P cf with|some (e,cs,n)=>⟨.bs cf.s.nx 0 n n,[],[],[(cf.s.nx,.box cf.s.nx cs e)],cf.s.nx+1,[]⟩|none=>⟨.no,[],[],[],cf.s.nx,[]⟩
section
variable {P:Program}{ρ:Option Nat}{N:Nat}{D0:Dw}{Q:DP}{As:List Ow}{u4:Env}{m0:Mem}{cf:Cf}
theorem s_litB {ops:Array Oper}{rest:List Oper}{f:Fr}{w:World}{m:Mem}{dst:Option Nat}{ty t:TypeId}{pos:String}{af:Array Edge}{e:TypeId}{n:Nat}{z:Value}{parts:List Operand}{vs:List Value}(hS:St m As w)(ht:P.underlying t=some (.slice e))(hs: ∀w,(sizeOf e).run P w= .ok 1 w)(hz: ∀w,(zeroValue e).run P w= .ok z w)
  (hp:parts.map (ev f)=vs) (hv: ∀v∈vs,v.oneCell'=true) (hn:n=vs.length) (hb:n<=16777216)
  (h: ∀b w',St m (bx b vs e::As) w'->wpl ρ P N D0 ops rest Q (upo N f dst (.slice (some ⟨b,0,none⟩) n n)) w'):
  wpl ρ P N D0 ops (⟨dst,.buildSlice t n ((parts.zipIdx 0).map λp=>(p.2,p.1)).toArray,ty,pos,af,none⟩::rest) Q f w:=by
 have hfl:(vs.flatMap λv=>v.cells.toList)=vs:=by
  clear h hp hn;induction vs with
  |nil=>rfl
  |cons v vs ih=>simp[Q2 (hv v (by simp)),ih λu hu=>hv u (by simp[hu])]
 have hr:=Pw (P:=P) (w:=w) ht hs hz (λv hh=>by rw[Q2 (hv v hh)]; rfl) hn (by omega);have hm:(((parts.zipIdx 0).map λp=>(p.2,p.1)).toArray.map λ(i,x)=>(i,ev f x))=((vs.zipIdx 0).map λp=>(p.2,p.1)).toArray:=by
  subst hp;simp only[List.map_toArray,List.map_map];congr 1;have: ∀(l:List Operand) (k:Nat),(l.zipIdx k).map ((λ(x:Nat×Operand)=>match x with|(i,x)=>(i,ev f x))∘λp=>(p.2,p.1))=((l.map (ev f)).zipIdx k).map λp=>(p.2,p.1):=by
   intro l;induction l with
   |nil=>intro k; rfl
   |cons x l ih=>intro k; simp[ih]
  exact this parts 0
 refine AA (v:= .slice (some ⟨w.heap.size,0,none⟩) n n) (w':=w.alloc (.cells (vs.flatMap λv=>v.cells.toList).toArray e)) rfl (λ_ e=>by cases e) ?_ (h w.heap.size _ ?_) (Kd.push _ _)
 ·simp only[execOp,hm,An9,hr,An4,An8]
 ·have hS':=hS.push (.cells (vs.flatMap λv=>v.cells.toList).toArray e) CF;rw[hfl]at hS'⊢;exact hS'
theorem Ai2:Nt cf.s (litS P cf):=by
 unfold litS; split
 ·exact⟨λx hx=>by simp at hx,by simp[tids],by simp[tids],λt ht=>by simp[tids]at ht; subst ht; exact⟨AnX _,Aoc _⟩⟩
 ·exact X5
theorem gfs (g:Go ρ P N D0 Q As u4 m0 (push N (aC P N cf) (litS P (aC P N cf))))
  (e:((litB P (aC P N cf)).isSome,aL P N cf)=(true,aR P N cf):=by kernel_rfl) (hM:P.follows .mixedOrders=true:=by rfl):Go ρ P N D0 Q As u4 m0 cf:=by
 simp only[AnQ]at e;obtain⟨e1,e3⟩:=e;obtain⟨he1,-⟩:=LI e3;refine AP hM he1 ?_;generalize aC P N cf=c0 at*;obtain⟨⟨te,cs,n⟩,e1⟩:=Option.isSome_iff_exists.1 e1;have hl:litS P c0=⟨.bs c0.s.nx 0 n n,[],[],[(c0.s.nx,.box c0.s.nx cs te)],c0.s.nx+1,[]⟩:=by unfold litS; rw[e1]
 have hsok:=Ai2 (P:=P) (cf:=c0);rw[hl]at g hsok;unfold litB at e1;split at e1
 ·rename_i a ha;split at e1
  ·rename_i t n' parts hg hop;split at e1
   ·rename_i e' hu;split at e1
    ·rename_i i hi;split at e1
     ·rename_i z hz;cases hb:(Aki 0 parts.toList&&(Nat.beq n' parts.toList.length&&(Nat.ble n' 16777216&&(Nat.beq i.sz 1&&(parts.toList.map λp=>rv c0.s.fz a.sl p.2).all AV.cell))))
      ·rw[hb]at e1; cases e1
      ·rw[hb]at e1; cases e1;simp only[AnP]at hb;obtain⟨b1,b2,b3,b4,b5⟩:=hb;have b4:=AnS b4;refine D9 ha hg ⟨AoO _,λrest Q U m f w As hr hfz hn S hk=> ?_⟩ hsok g;have hgd:=By ha hg;obtain⟨l,⟨dst,op,ty,pos,af,gd⟩,gg,sl,es⟩:=a;simp only at hop hgd hk b5 hr⊢; subst hop hgd;have hp:=Ut b1;have e0:parts=(((parts.toList.map (·.2)).zipIdx 0).map λp=>(p.2,p.1)).toArray:=by rw[<-hp]
       rw[e0];have rl:BB U m (parts.toList.map λp=>rv c0.s.fz sl p.2) ((parts.toList.map (·.2)).map (ev f)):=by
        refine⟨by simp,λk c u a b=> ?_⟩;simp only[Aoz,AnZ]at a b;obtain⟨p,h1,rfl⟩:=a;obtain⟨_,⟨p',h2,rfl⟩,rfl⟩:=b;rw[h1]at h2; cases h2;exact Om hfz hr _
       have hone:=rl.one b5;refine s_litB S hu (λw=>by rw[<-b4]; exact BM hi w) (Sy hi hz) rfl hone (by simp; exact AnS b2) (An5 b3) λb w' S'=> ?_;have h0:=hn c0.s.nx (AnX _) (Aoc _);refine hk (U.put c0.s.nx (pt b 0)) m w' _ (Env.le_put h0) (Mem.rfl' m) (λk q=> ?_) (.bs Env.put_self) (St.closeBox Env.put_self (rl.up (Env.le_put h0) (Mem.rfl' m)) hone S');rcases Env.put_dom q with q|q
       ·exact .inl q
       ·subst q; exact .inr ⟨AnX _,Aoc _⟩
     ·cases e1
    ·cases e1
   ·cases e1
  ·cases e1
 ·cases e1
def mksK (P:Program)(cf:Cf):Option (AV×AV×Nat×Value):=
 match Hk cf with
 |some a=>match a.g,a.o.op with
  |none,.makeSlice t x y=>match P.underlying t with
   |some (.slice e)=>match KR P e with
    |some i=>match i.z with
     |some z=>bif Nat.beq i.sz 1 then some (aev a.sl x,aev a.sl y,i.by_,z)else none
     |none=>none
    |none=>none
   |_=>none
  |_,_=>none
 |none=>none
def mkS {α:Type}(b:Nat)(x0:α)(k:Int):Option (List α):=if 0<=k/\k*b<=140737488355328/\k<=140737488355328 then some (List.replicate k.toNat x0)else none
theorem gmks {α:Type}{k:Int}{xs:List α}(E:α->List D)(x0:α)(zd:D)(b:Nat)(q:mkS b x0 k=some xs)(g:Go ρ P N D0 Q As u4 m0 (push N (aC P N cf) (Aku (aC P N cf).s 1 α E xs)))
  (e:(mksK P (aC P N cf),sc zd,aL P N cf)=(some (.d (.i k),.d (.i k),b,scV zd),true,aR P N cf):=by kernel_rfl) (hE: ∀x,(E x).length=1:=by intro x; rfl) (hz:E x0=[zd]:=by rfl) (hM:P.follows .mixedOrders=true:=by rfl):Go ρ P N D0 Q As u4 m0 cf:=by
 simp only[AnQ]at e;obtain⟨e1,hsc,e3⟩:=e;obtain⟨he1,-⟩:=LI e3;refine AP hM he1 ?_;generalize aC P N cf=c0 at*;unfold mkS at q;split at q
 ·rename_i hq; cases q;unfold mksK at e1;split at e1
  ·rename_i a ha;split at e1
   ·rename_i t x y hg hop;split at e1
    ·rename_i e' hu;split at e1
     ·rename_i i hi;split at e1
      ·rename_i z hz';cases hb:Nat.beq i.sz 1
       ·rw[hb]at e1; cases e1
       ·rw[hb]at e1;simp only[cond_true,AnU,AnQ]at e1;obtain⟨ex,ey,eb,ez⟩:=e1;have hb:=AnS hb;refine D9 ha hg ⟨AoO _,λrest Q U m f w As hr hfz hn S hk=> ?_⟩ R1 g;have hgd:=By ha hg;obtain⟨l,⟨dst,op,ty,pos,af,gd⟩,gg,sl,es⟩:=a;simp only at hop hgd hk ex ey hr⊢; subst hop hgd;have rx:=Ap hr x; rw[ex]at rx;have ry:=Ap hr y; rw[ey]at ry;obtain⟨p1,p2,p3,p4,p5,p6⟩:=Iz hi;letI:=TJ E 1;have hzc:(scV zd).cells= #[scV zd]:=Q2 (Aii (m:=m) hsc).one;have hrep: @GoT.rep α (TJ E 1) m [scV zd] x0:=⟨by rw[hz]; exact .cons (Aii hsc) .nil,hE x0⟩;refine s_mk1 (k:=k) (x0:=x0) (bytes:=b) S rx.i_inv ry.i_inv hq hu p1 (z:=scV zd) (z0:=scV zd) (by rw[<-p5,hz',ez]) (by rw[<-p4,hb]) (by rw[<-p6,eb]) hzc hrep λv cs w' S' hc=> ?_;obtain⟨hc1,-⟩:=Afv hc;have h0:=hn c0.s.nx (AnX _) (Aoc _);have h1:=Kl S';refine hk (U.put c0.s.nx v) m w' v (Env.le_put h0) (Mem.rfl' m) (λn q=> ?_) (.ow Env.put_self h1) (St.closeRow Env.put_self h1 hc1 (λx _=>hE x) S');rcases Env.put_dom q with q|q
        ·exact .inl q
        ·subst q; exact .inr ⟨AnX _,Aoc _⟩
      ·cases e1
     ·cases e1
    ·cases e1
   ·cases e1
  ·cases e1
 ·cases q
end
def Ahf (cf:Cf)(t j:Nat):Option AV:=match get cf.s.sl t with| .agg cs=>cs[j]? |_=>none
def setC (cf:Cf)(t j:Nat)(a:AV):Cf:=match get cf.s.sl t with| .agg cs=>⟨⟨(t,.agg (cs.set j a))::cf.s.sl,cf.s.ob,cf.s.fz,cf.s.nx⟩,cf.md,cf.K⟩|_=>cf
section
variable {P:Program}{ρ:Option Nat}{N:Nat}{D0:Dw}{Q:DP}{As:List Ow}{u4:Env}{m0:Mem}{cf:Cf}
theorem AlP {t j:Nat}{a b:AV}(hp:MN cf=true)(hc:Ahf cf t j=some b)(hr: ∀U m u,u4.le U->Rel U m b u->Rel U m a u)(g:Go ρ P N D0 Q As u4 m0 (setC cf t j a)):Go ρ P N D0 Q As u4 m0 cf:=by
 obtain⟨s,md,K⟩:=cf;unfold Ahf at hc;split at hc
 ·rename_i cs hg;simp only at hg;have e:setC ⟨s,md,K⟩ t j a=⟨⟨(t,.agg (cs.set j a))::s.sl,s.ob,s.fz,s.nx⟩,md,K⟩:=by unfold setC; simp only[hg]
  rw[e]at g;have key: ∀{R:Fr->World->Prop},Al As u4 m0 ⟨(t,.agg (cs.set j a))::s.sl,s.ob,s.fz,s.nx⟩ R->Al As u4 m0 s R:=λk U m f w a1 a2 gm=>by
   refine k U m f w a1 a2 ⟨λu=> ?_,gm.fz,gm.dom,gm.st,⟨gm.wf.nd,gm.wf.lt⟩⟩;show Rel U m (bif Nat.beq t u then .agg (cs.set j a)else get s.sl u) (f u);cases hb:Nat.beq t u
   ·exact gm.slr u
   ·have:=AnS hb; subst this;have r:=gm.slr t;rw[hg]at r;obtain⟨vs,hv,r1,r2⟩:=r.agg_inv;simp only[cond_true];rw[hv];refine .agg (by rw[List.length_set]; exact r1) λk c u h1 h2=> ?_;rw[List.getElem?_set]at h1;split at h1
    ·rename_i q; subst q;split at h1
     ·cases h1; exact hr U m u a1 (r2 _ _ _ hc h2)
     ·cases h1
    ·exact r2 _ _ _ h1 h2
  cases md with
  |ops=>cases hp
  |code c=>exact key g
  |pop=>exact key g
  |ext id=>exact key g
  |ret=>exact key g
 ·cases hc
theorem gtoV {v:Value}(t j n:Nat)(hv:u4 n=some v)(g:Go ρ P N D0 Q As u4 m0 (setC cf t j (.d (.v v))))
  (e:(MN cf,Ahf cf t j)=(true,some (.ow n)):=by kernel_rfl):Go ρ P N D0 Q As u4 m0 cf:=by
 simp only[AnQ]at e;refine AlP e.1 e.2 (λU m u le r=> ?_) g;obtain⟨h1,h2⟩:=r.ow_inv;have h3:=le _ _ hv;rw[h1]at h3; cases h3;exact .d (.v _ h2)
def getB (nb j:Nat):List Tok->Option AV
 | []=>none
 |(_,.box k cs _)::l=>bif Nat.beq k nb then cs[j]? else getB nb j l
 |_::l=>getB nb j l
def Ae4 (nb j:Nat)(a:AV):List Tok->List Tok
 | []=> []
 |(i,.box k cs t)::l=>bif Nat.beq k nb then(i,.box k (cs.set j a) t)::l else(i,.box k cs t)::Ae4 nb j a l
 |p::l=>p::Ae4 nb j a l
theorem Aig {U:Env}{m:Mem}{cs:List AV}{vs:List Value}{j:Nat}{a b:AV}(h:BB U m cs vs)(hc:cs[j]? =some b)(hr: ∀u,Rel U m b u->Rel U m a u):BB U m (cs.set j a) vs:=
 ⟨by rw[List.length_set]; exact h.1,λk c u h1 h2=>by
  rw[List.getElem?_set]at h1;split at h1
  ·rename_i q; subst q;split at h1
   ·cases h1; exact hr u (h.2 _ _ _ hc h2)
   ·cases h1
  ·exact h.2 _ _ _ h1 h2⟩
theorem LS {nb j:Nat}{a:AV}: ∀{ob:List Tok},tids (Ae4 nb j a ob)=tids ob
 | []=>rfl
 |(i,.box k cs t)::l=>by
  unfold Ae4;cases Nat.beq k nb
  ·exact Aos (i:: ·) (LS (ob:=l))
  ·rfl
 |(i,.row ..)::l=>Aos (i:: ·) (LS (ob:=l))
 |(i,.fr ..)::l=>Aos (i:: ·) (LS (ob:=l))
 |(i,.hp ..)::l=>Aos (i:: ·) (LS (ob:=l))
theorem QV {U:Env}{m:Mem}{nb j:Nat}{a b:AV}(hr: ∀u,Rel U m b u->Rel U m a u){As:List Ow}: ∀{ob:List Tok},getB nb j ob=some b->∀h,sepL (reps U m ob++As) h->sepL (reps U m (Ae4 nb j a ob)++As) h
 | [],e,_,_=>by cases e
 |(i,.box k cs t)::l,e,h,s=>by
  unfold getB at e;unfold Ae4;cases hb:Nat.beq k nb
  ·rw[hb]at e;exact Ae7 (A:=rep U m (.box k cs t)) (λ_ q=>q) (QV hr (ob:=l) e) h s
  ·rw[hb]at e;refine Ae7 (A:=rep U m (.box k cs t)) (λy hy=> ?_) (λ_ q=>q) h s;obtain⟨b',vs,h1,h2,h3,h4⟩:=hy;exact⟨b',vs,h1,Aig h2 e hr,h3,h4⟩
 |(i,.row n sz α E xs)::l,e,h,s=>Ae7 (A:=rep U m (.row n sz α E xs)) (λ_ q=>q) (QV hr (ob:=l) e) h s
 |(i,.fr n d)::l,e,h,s=>Ae7 (A:=rep U m (.fr n d)) (λ_ q=>q) (QV hr (ob:=l) e) h s
 |(i,.hp n q)::l,e,h,s=>Ae7 (A:=rep U m (.hp n q)) (λ_ q=>q) (QV hr (ob:=l) e) h s
def bxC (cf:Cf)(t j:Nat):Option AV:=match get cf.s.sl t with| .pb nb _=>getB nb j cf.s.ob|_=>none
def AlQ (cf:Cf)(t j:Nat)(a:AV):Cf:=match get cf.s.sl t with| .pb nb _=>⟨⟨cf.s.sl,Ae4 nb j a cf.s.ob,cf.s.fz,cf.s.nx⟩,cf.md,cf.K⟩|_=>cf
theorem gofV {v:Value}(t j n:Nat)(hv:u4 n=some v)(g:Go ρ P N D0 Q As u4 m0 (AlQ (aC P N cf) t j (.ow n)))
  (e:(MN (aC P N cf),bxC (aC P N cf) t j,bL P N cf)=(true,some (.d (.v v)),bR P N cf):=by kernel_rfl) (hm:P.follows .mixedOrders=true:=by rfl):Go ρ P N D0 Q As u4 m0 cf:=by
 simp only[AnQ]at e;obtain⟨e1,e2,e3⟩:=e;refine AP hm (.of e3) ?_;generalize aC P N cf=c0 at*;obtain⟨s,md,K⟩:=c0;unfold bxC at e2;split at e2
 ·rename_i nb o hg;simp only at hg e2;have q:AlQ ⟨s,md,K⟩ t j (.ow n)=⟨⟨s.sl,Ae4 nb j (.ow n) s.ob,s.fz,s.nx⟩,md,K⟩:=by unfold AlQ; simp only[hg]
  rw[q]at g;have key: ∀{R:Fr->World->Prop},Al As u4 m0 ⟨s.sl,Ae4 nb j (.ow n) s.ob,s.fz,s.nx⟩ R->Al As u4 m0 s R:=λk U m f w a1 a2 gm=>by
   refine k U m f w a1 a2 ⟨gm.slr,gm.fz,gm.dom,?_,⟨?_,?_⟩⟩
   ·obtain⟨x,sx,rx⟩:=gm.st.own;refine⟨gm.st.os,gm.st.tape,gm.st.output,x,QV (λu r=> ?_) e2 x sx,rx⟩;have r:=r.dd;cases r with
    |v _ h=>exact .ow (a1 _ _ hv) h
   ·show(tids (Ae4 nb j (.ow n) s.ob)).Nodup;rw[LS]; exact gm.wf.nd
   ·intro y hy;have hy:y∈tids (Ae4 nb j (.ow n) s.ob):=hy;rw[LS]at hy; exact gm.wf.lt y hy
  cases md with
  |ops=>cases e1
  |code c=>exact key g
  |pop=>exact key g
  |ext id=>exact key g
  |ret=>exact key g
 ·cases e2
end
theorem spV {P:Program}{N:Nat}(n:Nat){k:FuncId}{fn:Func}{c:Code}{args:List AV}{obs:List AObj}{n0:Nat}{Po:AV->List AObj->Nat->Prop}(hc: ∀(a:Array Value) w,(callFunc k a).run P w= .ok (.enter k a) w)(hf:P.funcs[k]? =some fn)(hb:fn.body=some c)(hN:fn.ntmps=N)(hle:Nat.ble args.length N=true)
  (h: ∀D0 As u4 m0,D0.2.2=false->(∀n,u4 n≠none->n<n0)->∀v,u4 n=some v->Go none P N D0 (AdQ P N fn (Tu As u4 m0 Po)) As u4 m0 ⟨VQ args obs n0,.code c,[]⟩) (hn:(obs.any λo=>Nat.beq o.nm n)=true:=by rfl):Sp P k args obs n0 Po:=by
 refine⟨hc,λU m As w vs hv hd S=> ?_⟩;obtain⟨o,ho,hb'⟩:=List.any_eq_true.1 hn;obtain⟨v,hv'⟩:=AbP S o ho;rw[AnS hb']at hv';refine Rx hf hb hN (by rw[<-hv.1]; exact An5 hle) ?_;exact h (w,[],false) As U m rfl hd v hv' U m (f0 vs) w Env.le_refl (Mem.rfl' m) (Yj hv hd S)
def nilK (P:Program)(cf:Cf):Option D:=
 match cf.md with
 | .ops false l [⟨dst,.binOp .eql t x (.const (.slice none 0 0)) t',ty,pos,af,none⟩] h=>match P.underlying t,aev cf.s.sl x with
  |some (.slice _),.d d=>some d
  |_,_=>none
 |_=>none
def AhK (N:Nat)(b:Bool)(cf:Cf):Cf:=match cf.md with| .ops _ _ (o::_) _=>⟨after N cf.s o ⟨.d (.t b),[],[],[],cf.s.nx,[]⟩,.pop,cf.K⟩|_=>cf
section
variable {ρ:Option Nat}{P:Program}{N:Nat}{D0:Dw}{Q:DP}{As:List Ow}{u4:Env}{m0:Mem}
theorem AkT {s:AS}{U:Env}{m:Mem}{f:Fr}{w:World}{o:Oper}{d:AV}{v:Value}(g:Gm As s U m f w)(h:Rel U m d v):Gm As (after N s o ⟨d,[],[],[],s.nx,[]⟩) U m (upo N f o.dst v) w:=
 ⟨Yp (λt=>g.slr t) h,g.fz,λn hn=>g.dom n hn,by
  have e:Ek ([]:List Nat) s.ob=s.ob:=List.filter_eq_self.2 λp _=>by simp[Fa]
  show St m (reps U m (Ek ([]:List Nat) s.ob++[])++As) w;rw[e,AoC]; exact g.st,O9 g.wf ⟨λx hx=>by simp at hx,by simp[tids],by simp[tids],λt ht=>by simp[tids]at ht⟩ (AnX _)⟩
theorem AiK {c0:Cf}{α:Type}{E:α->List D}{xs:List α}(e:nilK P c0=some (.sl α E xs))(g0:Go ρ P N D0 Q As u4 m0 (AhK N false c0))(g1:xs=[]->Go ρ P N D0 Q As u4 m0 (AhK N true c0)):Go ρ P N D0 Q As u4 m0 c0:=by
 obtain⟨s,md,K⟩:=c0;unfold nilK at e;split at e
 ·rename_i l dst t x t' ty pos af h hmd;simp only at hmd; subst hmd;split at e
  ·rename_i el d hu hx;cases e;refine .inr (.inl ⟨rfl,λU m f w a b gm=> ?_⟩);have rx:=Ap gm.slr x;rw[hx]at rx;have fx:=rx.dd;have hv: ∃u c,ev f x= .slice u xs.length c/\(u=none->xs=[]):=by
    generalize ev f x=v at fx;cases fx with
    |sl h=>
     obtain⟨_,_,⟨h0,a,c,rfl⟩|⟨b,off,cap,l,e,fr,rfl,_⟩⟩:=h
     ·exact⟨a,c,by rw[h0],λ_=>List.eq_nil_of_length_eq_zero h0⟩
     ·exact⟨_,_,rfl,λh=>by cases h⟩
   obtain⟨u,c,hv,hn⟩:=hv;have key:(Op.equal t (.slice u xs.length c) (.slice none 0 0)).run P w= .ok (AcT (.slice u xs.length c)) w:=by
    show(Op.equalIn (9999+1) _ _ _).run P w=_;unfold Op.equalIn;cases u<;>simp[An0 hu,AcT]
   have hg:(eqGuard .eql t x (.const (.slice none 0 0)) (.slice u xs.length c) (.slice none 0 0)).run P w= .ok () w:=by simp[eqGuard]
   have hc:ev f (.const (.slice none 0 0))= .slice none 0 0:=rfl;refine AA (v:= .bool (AcT (.slice u xs.length c))) (w':=w) rfl (λ_ e=>by cases e) ?_ (AF ?_)
   ·simp only[execOp,hv,hc];simp[hg,binOp,key]
   ·cases u with
    |none=>exact g1 (hn rfl) U m _ w a b (AkT gm (.d (.t _)))
    |some q=>exact g0 U m _ w a b (AkT gm (.d (.t _)))
  ·cases e
 ·cases e
theorem gnq {cf:Cf}{α:Type}(E:α->List D)(xs:List α)(g1:xs=[]->Go ρ P N D0 Q As u4 m0 (way true (aC P N (AhK N true (aC P N cf)))))(g0:Go ρ P N D0 Q As u4 m0 (way false (aC P N (AhK N false (aC P N cf)))))
  (e:(nilK P (aC P N cf),bL P N cf,Vf (aC P N (AhK N false (aC P N cf))),bL P N (AhK N false (aC P N cf)),Vf (aC P N (AhK N true (aC P N cf))),bL P N (AhK N true (aC P N cf)))
   =(some (.sl α E xs),bR P N cf,some false,bR P N (AhK N false (aC P N cf)),some true,bR P N (AhK N true (aC P N cf))):=by kernel_rfl) (hm:P.follows .mixedOrders=true:=by rfl):Go ρ P N D0 Q As u4 m0 cf:=by
 simp only[AnQ]at e;obtain⟨e1,e2,e3,e4,e5,e6⟩:=e;refine AP hm (.of e2) (AiK e1 ?_ λh=> ?_)
 ·exact Ajt hm (n:=100000) (by simp only[AnQ]; exact⟨e3,e4⟩) (λh=>by cases h) λ_=>g0
 ·exact Ajt hm (n:=100000) (by simp only[AnQ]; exact⟨e5,e6⟩) (λ_=>g1 h) λh=>by cases h
structure CutP where
 d:D
 j:Int
 sz:Nat
 tok:List Tok
def cutO (P:Program)(cf:Cf):Option CutP:=
 match Hk cf with
 |some a=>match a.g,a.o.op with
  |none,.slice t x none (some h) none=>match aev a.sl x,RV a.sl h,P.underlying t with
   | .ow n,some (_,j),some (.slice el)=>match find n cf.s.ob,KR P el with
    |some (i,.row k sz α E xs),some ti=>bif Nat.beq k n&&Nat.beq ti.sz sz then some ⟨.sl α E xs,j,sz,[(i,.row k sz α E xs)]⟩else none
    |_,_=>none
   |_,_,_=>none
  |_,_=>none
 |none=>none
def Anx (P:Program)(cf:Cf):Option (D×Int×Nat):=match cutO P cf with|some p=>some (p.d,p.j,p.sz)|none=>none
def Anw (P:Program)(cf:Cf)(sz:Nat)(α:Type)(E:α->List D)(xs:List α):Stp:=match cutO P cf with|some p=>⟨.ow cf.s.nx,[],p.tok,[(cf.s.nx,.row cf.s.nx sz α E xs)],cf.s.nx+1,[]⟩|none=>Aku cf.s sz α E xs
theorem Aai {α:Type}{E:α->List D}{sz:Nat}: ∀{xs:List α} (h: ∀x∈xs,(E x).length=sz) (q:Nat),(xs.take q).flatMap E=(xs.flatMap E).take (q*sz)
 | [],_,q=>by simp
 |y::ys,h,0=>by simp
 |y::ys,h,q+1=>by
  rw[List.take_succ_cons,AoK,AoK,Aai (λx hx=>h x (Aok _ hx)) q,Nat.succ_mul,Nat.add_comm,List.take_append,h y Aoe,Nat.add_sub_cancel_left,Aow (l:=E y) (by rw[h y Aoe]; exact Nat.le_add_right _ _)]
theorem gcO {cf:Cf}{α:Type}{xs:List α}{j:Int}(E:α->List D)(k:Nat)(h0:0<=j)(hn:j<=(xs.length:Int))(g:Go ρ P N D0 Q As u4 m0 (push N (aC P N cf) (Anw P (aC P N cf) k α E (xs.take j.toNat))))
  (e:(Anx P (aC P N cf),bL P N cf)=(some (.sl α E xs,j,k),bR P N cf):=by kernel_rfl) (hE: ∀x,(E x).length=k:=by intro x; rfl) (hm:P.follows .mixedOrders=true:=by rfl):Go ρ P N D0 Q As u4 m0 cf:=by
 simp only[AnQ]at e;obtain⟨e1,e2⟩:=e;refine AP hm (.of e2) ?_;generalize aC P N cf=c0 at*;cases hp:cutO P c0 with
 |none=>unfold Anx at e1; rw[hp]at e1; cases e1
 |some p=>
  have gS:Anw P c0 k α E (xs.take j.toNat)=⟨.ow c0.s.nx,[],p.tok,[(c0.s.nx,.row c0.s.nx k α E (xs.take j.toNat))],c0.s.nx+1,[]⟩:=by unfold Anw; rw[hp]
  rw[gS]at g;unfold Anx at e1;rw[hp]at e1;simp only[AnU,AnQ]at e1;obtain⟨ed,ej,ek⟩:=e1;unfold cutO at hp;split at hp
  ·rename_i a ha;split at hp
   ·rename_i t x h hg hop;split at hp
    ·rename_i n ik j' el hx hj hu;split at hp
     ·rename_i i kk sz α' E' xs' ti hf hti;cases hb:Nat.beq kk n&&Nat.beq ti.sz sz
      ·rw[hb]at hp; cases hp
      ·rw[hb]at hp;simp only[cond_true]at hp;cases hp;simp only[AnP]at hb;have:=AnS hb.1; subst this;have hsz:=AnS hb.2;simp only at ed ej ek;cases ed;subst ej ek;have hgd:=By ha hg;refine D9 ha hg ?_ ⟨λq hq=>by simp at hq; subst hq; exact F5 hf,by simp[tids],by simp[tids],λq hq=>by simp[tids]at hq; subst hq; exact⟨AnX _,Aoc _⟩⟩ g;obtain⟨ll,⟨dst,op',ty,pos,af,gd⟩,gg,sl,es⟩:=a;simp only at hop hgd hx hj⊢; subst hop hgd;refine⟨AoO _,λrest Q U m f w As hr hfz hnn S hk=> ?_⟩;simp only[AoC]at S hk hnn;obtain⟨v,cs,h1,h2,h3,h4,S1⟩:=St.openRow S;have rx:=Ap hr x; rw[hx]at rx;have ev_:=rx.ow_inv.1;rw[h1]at ev_; cases ev_;have ej:=BO hj hr;refine Acq (i:=0) S1 rfl rfl hu (by rw[<-hsz]; exact BM hti) rfl ej h0 hn λv' S2=> ?_;have hn0:=hnn c0.s.nx (AnX _) (Aoc _);have le:=Env.le_put (v:=v') hn0;have hlen:(xs.take j'.toNat).length=j'.toNat:=by rw[Aod]; omega
       have S3:St m (Gw.row sz v' (cs.take (j'.toNat*sz)) (xs.take j'.toNat).length::As) w:=by rw[hlen]; exact S2
       have ho:v'.oneCell'=true:=(St.rowVal (i:=0) S3 rfl).1|>λ⟨a,c,e⟩=>by rw[e]; rfl
       have hfl:(xs.take j'.toNat).flatMap E=(xs.flatMap E).take (j'.toNat*sz):=Aai h4 _;refine hk (U.put c0.s.nx v') m w v' le (Mem.rfl' m) (λn hn=> ?_) (.ow Env.put_self ho) ?_
       ·rcases Env.put_dom hn with q|q
        ·exact .inl q
        ·subst q; exact .inr ⟨AnX _,Aoc _⟩
       ·refine St.closeRow (U:=U.put c0.s.nx v') (E:=E) Env.put_self ho ?_ (λx hx=>h4 x (List.mem_of_mem_take hx)) S3;rw[hfl]; exact h3.take _
     ·cases hp
    ·cases hp
   ·cases hp
  ·cases hp
theorem gnl {P:Program}{k:FuncId}{α:Type} [GoT α]{E:α->List D}{a1:Int}{r:List α}{sz:Nat}(hc: ∀(a:Array Value) w,(callFunc k a).run P w= .ok (.enter k a) w)(b:Br α E)
  (h: ∀{m:Mem} {As:List Ow} {w:World},St m As w->C0 P k #[.slice none 0 0,vI a1] w λv w'=> ∃(M:Mem),m<=M/\∃(rv0:Value) (rc0:List Value),St M ((Gw.row sz rv0 rc0 r.length)::As) w'/\v=rv0/\Cl M rc0 r) (hs:GoT.sz α=sz:=by rfl):
  Sp P k [.d (.v (.slice none 0 0)),.d (.i a1)] [] 0 (is (.ow 0) [.row 0 sz _ E r] 1):=
 ⟨hc,λU m As w vs hv0 hd S=>by
  have S:St m As w:=S;obtain⟨v0,u0,rfl,r0,hv1⟩:=BB.cons_inv hv0;have e0:v0= .slice none 0 0:=by have:=r0.dd; cases this; rfl
  subst e0;obtain⟨v1,u1,rfl,r1,hv2⟩:=BB.cons_inv hv1;obtain rfl:=r1.i_inv;obtain rfl:=BB.nil_inv hv2;refine C0.mono (h S) ?_;rintro v w' ⟨M,hle,y0,c0,S0,rfl,h0⟩;exact⟨M,(envL [v]),_,_,_,hle,dom0 hd _,⟨rfl,rfl,rfl⟩,Ac2 rfl,(.ow rfl (Kl S0)),(St.impL S0 (Ae7 (Br.toR b hs rfl (Kl S0) h0) λ_ h=>h))⟩⟩
theorem ownB {P:Program}{k:FuncId}{α:Type} [GoT α]{E:α->List D}{xs r:List α}{sz:Nat}{U:Env}{m:Mem}{As:List Ow}{w:World}{v0:Value}{vs:Array Value}(hd: ∀n,U n≠none->n<1)(r0:Rel U m (.ow 0) v0)(S:St m (rep U m (.row 0 sz α E xs)::As) w)
  (h: ∀{cs:List Value},FRL m (xs.flatMap E) cs->St m (Gw.row sz v0 cs xs.length::As) w->C0 P k vs w λv w'=> ∃(M:Mem),m<=M/\∃(rv0:Value) (rc0:List Value),St M ((Gw.row sz rv0 rc0 r.length)::As) w'/\v=rv0/\Cl M rc0 r) (b:Br α E) (hs:GoT.sz α=sz:=by rfl):
  C0 P k vs w λv w'=> ∃(M:Mem) (u5:Env) (q:AV) (obs':List AObj) (n1:Nat),m<=M/\U.le u5/\is (.ow 1) [.row 1 sz _ E r] 2 q obs' n1/\(∀n,u5 n≠none->n<n1)/\Rel u5 M q v/\St M (obs'.map (rep u5 M)++As) w':=by
 obtain⟨v,cs,k1,k2,k3,_,S1⟩:=St.openRow S;obtain⟨n0,o0⟩:=r0.ow_inv;rw[n0]at k1; obtain rfl:=AnO k1;refine C0.mono (h k3 S1) ?_;rintro v' w' ⟨M,hle,y0,c0,S0,rfl,h0⟩;have h1:U 1=none:=by
  cases q:U 1 with
  |none=>rfl
  |some u=>have:=hd 1 (by rw[q]; simp); omega
 refine⟨M,U.put 1 v',_,_,_,hle,Env.le_put h1,⟨rfl,rfl,rfl⟩,λn hn=> ?_,.ow Env.put_self (Kl S0),St.impL S0 (Ae7 (Br.toR b hs Env.put_self (Kl S0) h0) λ_ h=>h)⟩;rcases Env.put_dom hn with q|q
 ·have:=hd n q; omega
 ·omega
def rot (n:Nat):Nat->Nat
 |0=>n-1
 |k+1=>k
theorem sepM {f g:AObj->Ow}{As:List Ow}: ∀{os:List AObj},(∀o∈os,∀x,f o x->g o x)->∀x,sepL (os.map f++As) x->sepL (os.map g++As) x
 | [],_=>λ_ h=>h
 |o::os,h=>Ae7 (h o Aoe) (sepM λp q=>h p (Aok _ q))
def Wl (U:Env):Env:=λn=>match n with|0=>some (.slice none 0 0)|n+1=>U n
def Acu (n1:Nat)(U:Env):Env:=λn=>if n=n1-1 then U 0 else U (n+1)
theorem Sp.nilR {P:Program}{k:FuncId}{sz:Nat}{α:Type}{E:α->List D}{r:AV}{obs1:List AObj}{n1:Nat}(args:List AV)(obs:List AObj)(n0:Nat)
  (h:Sp P k (.ow 0::args.map (Ael Nat.succ)) (.row 0 sz α E []::obs.map (ZF Nat.succ)) (n0+1) (is r obs1 n1)) (hk:(args.all (okA n0)&&obs.all (okO n0)&&okA n1 r&&obs1.all (okO n1))=true):
  Sp P k (.d (.v (.slice none 0 0))::args) obs n0 (is (Ael (rot n1) r) (obs1.map (ZF (rot n1))) n1):=by
 simp only[AnP]at hk;obtain⟨⟨⟨k1,k2⟩,k3⟩,k4⟩:=hk;refine⟨h.1,λU m As w vs hv hd S=> ?_⟩;obtain⟨v,us,rfl,h1,h2⟩:=hv.cons_inv;have hvv:v= .slice none 0 0:=by have:=h1.dd; cases this; rfl
 subst hvv;have hs: ∀k,k<n0->∀u,U k=some u->Wl U (Nat.succ k)=some u:=λk _ u q=>q;have S0:St m ((obs.map (ZF Nat.succ)).map (rep (Wl U) m)++As) w:=by
  rw[List.map_map];exact St.impL S (sepM λo ho x hx=>Abm hs (Aoj.1 k2 o ho) hx)
 have S1:St m (rep (Wl U) m (.row 0 sz α E [])::((obs.map (ZF Nat.succ)).map (rep (Wl U) m)++As)) w:=
  St.closeRow (U:=Wl U) (n:=0) (E:=E) (xs:=[]) rfl rfl (by simpa using FRL.nil) (λ_ h=>by cases h) (St.rowNil S0 sz)
 have:=h.2 (Wl U) m As w (.slice none 0 0::us) (.cons (.ow rfl rfl) (Afw hs k1 h2)) (λn hn=>by
  cases n with
  |zero=>omega
  |succ n=>have:=hd n hn; omega) S1
 refine C0.mono this ?_;rintro v' w' ⟨M,uw,r',obs',n',hle,hη,⟨rfl,rfl,rfl⟩,hdom,hR,S2⟩;have h0:0<n':=hdom 0 (by rw[hη 0 _ rfl]; simp);have ht: ∀k,k<n'->∀u,uw k=some u->Acu n' uw (rot n' k)=some u:=λk hk u q=>by
  cases k with
  |zero=>unfold Acu rot; rw[AnT rfl]; exact q
  |succ k=>show(if k=n'-1 then _ else _)=_; rw[AnW (by omega)]; exact q
 refine⟨M,Acu n' uw,_,_,_,hle,λn u q=> ?_,⟨rfl,rfl,rfl⟩,λn hn=> ?_,Abo ht k3 hR,?_⟩
 ·have e:=hη (n+1) u q;have:=hdom (n+1) (by rw[e]; simp);show(if n=n'-1 then _ else _)=_;rw[AnW (by omega)]; exact e
 ·unfold Acu at hn;by_cases q:n=n'-1
  ·omega
  ·rw[AnW q]at hn;have:=hdom _ hn; omega
 ·rw[List.map_map];exact St.impL S2 (sepM λo ho x hx=>Abm ht (Aoj.1 k4 o ho) hx)
end
end Go.Ax
end
section
namespace Go.Proofs.YtnhdojckpcbjeaaGreatDoor
open Go Go.Gw Go.Ax Tryz
def str_0:ByteArray:=⟨#[0,1,2,2,3,3,3,3,4,4,4,4,4,4,4,4,5,5,5,5,5,5,5,5,5,5,5,5,5,5,5,5,6,6,6,6,6,6,6,6,6,6,6,6,6,6,6,6,6,6,6,6,6,6,6,6,6,6,6,6,6,6,6,6,7,7,7,7,7,7,7,7,7,7,7,7,7,7,7,7,7,7,7,7,7,7,7,7,7,7,7,7,7,7,7,7,7,7,7,7,7,7,7,7,7,7,7,7,7,7,7,7,7,7,7,7,7,7,7,7,7,7,7,7,7,7,7,7,8,8,8,8,8,8,8,8,8,8,8,8,8,8,8,8,8,8,8,8,8,8,8,8,8,8,8,8,8,8,8,8,8,8,8,8,8,8,8,8,8,8,8,8,8,8,8,8,8,8,8,8,8,8,8,8,8,8,8,8,8,8,8,8,8,8,8,8,8,8,8,8,8,8,8,8,8,8,8,8,8,8,8,8,8,8,8,8,8,8,8,8,8,8,8,8,8,8,8,8,8,8,8,8,8,8,8,8,8,8,8,8,8,8,8,8,8,8,8,8,8,8,8,8,8,8,8,8]⟩
def str_1:ByteArray:=⟨#[0,1,1,2,1,2,2,3,1,2,2,3,2,3,3,4,1,2,2,3,2,3,3,4,2,3,3,4,3,4,4,5,1,2,2,3,2,3,3,4,2,3,3,4,3,4,4,5,2,3,3,4,3,4,4,5,3,4,4,5,4,5,5,6,1,2,2,3,2,3,3,4,2,3,3,4,3,4,4,5,2,3,3,4,3,4,4,5,3,4,4,5,4,5,5,6,2,3,3,4,3,4,4,5,3,4,4,5,4,5,5,6,3,4,4,5,4,5,5,6,4,5,5,6,5,6,6,7,1,2,2,3,2,3,3,4,2,3,3,4,3,4,4,5,2,3,3,4,3,4,4,5,3,4,4,5,4,5,5,6,2,3,3,4,3,4,4,5,3,4,4,5,4,5,5,6,3,4,4,5,4,5,5,6,4,5,5,6,5,6,6,7,2,3,3,4,3,4,4,5,3,4,4,5,4,5,5,6,3,4,4,5,4,5,5,6,4,5,5,6,5,6,6,7,3,4,4,5,4,5,5,6,4,5,5,6,5,6,6,7,4,5,5,6,5,6,6,7,5,6,6,7,6,7,7,8]⟩
structure g_api_Sig where
 E:UInt64
 S:UInt64
instance:GoT g_api_Sig where
 sz:=GoT.sz (UInt64×UInt64)
 rep m cs x:=GoT.rep (α:=UInt64×UInt64) m cs (x.E,x.S)
 len h:=GoT.len (α:=UInt64×UInt64) h
 up l h:=GoT.up (α:=UInt64×UInt64) l h
 one h:=GoT.one (α:=UInt64×UInt64) h
instance:Inhabited g_api_Sig:=⟨⟨default,default⟩⟩
structure g_api_Promise where
 Log:Int
 At:Int
 Leaf:UInt64×UInt64
 Sig:g_api_Sig
instance:GoT g_api_Promise where
 sz:=GoT.sz (Int×Int×(UInt64×UInt64)×g_api_Sig)
 rep m cs x:=GoT.rep (α:=Int×Int×(UInt64×UInt64)×g_api_Sig) m cs (x.Log,x.At,x.Leaf,x.Sig)
 len h:=GoT.len (α:=Int×Int×(UInt64×UInt64)×g_api_Sig) h
 up l h:=GoT.up (α:=Int×Int×(UInt64×UInt64)×g_api_Sig) l h
 one h:=GoT.one (α:=Int×Int×(UInt64×UInt64)×g_api_Sig) h
instance:Inhabited g_api_Promise:=⟨⟨default,default,default,default⟩⟩
structure g_api_Cert where
 Serial:Int
 Issuer:ByteArray
 Subject:ByteArray
 Key:UInt64
 Names:List ByteArray
 From:Int
 Until:Int
 Ca:Bool
 Depth:Int
 Permit:List ByteArray
 Proms:List g_api_Promise
 Sig:g_api_Sig
instance:GoT g_api_Cert where
 sz:=GoT.sz (Int×ByteArray×ByteArray×UInt64×(List ByteArray)×Int×Int×Bool×Int×(List ByteArray)×(List g_api_Promise)×g_api_Sig)
 rep m cs x:=GoT.rep (α:=Int×ByteArray×ByteArray×UInt64×(List ByteArray)×Int×Int×Bool×Int×(List ByteArray)×(List g_api_Promise)×g_api_Sig) m cs (x.Serial,x.Issuer,x.Subject,x.Key,x.Names,x.From,x.Until,x.Ca,x.Depth,x.Permit,x.Proms,x.Sig)
 len h:=GoT.len (α:=Int×ByteArray×ByteArray×UInt64×(List ByteArray)×Int×Int×Bool×Int×(List ByteArray)×(List g_api_Promise)×g_api_Sig) h
 up l h:=GoT.up (α:=Int×ByteArray×ByteArray×UInt64×(List ByteArray)×Int×Int×Bool×Int×(List ByteArray)×(List g_api_Promise)×g_api_Sig) l h
 one h:=GoT.one (α:=Int×ByteArray×ByteArray×UInt64×(List ByteArray)×Int×Int×Bool×Int×(List ByteArray)×(List g_api_Promise)×g_api_Sig) h
instance:Inhabited g_api_Cert:=⟨⟨default,default,default,default,default,default,default,default,default,default,default,default⟩⟩
structure g_path_trip where
 roots_:List g_api_Cert
 chain_:List g_api_Cert
 name_:ByteArray
 now_:Int
instance:GoT g_path_trip where
 sz:=GoT.sz ((List g_api_Cert)×(List g_api_Cert)×ByteArray×Int)
 rep m cs x:=GoT.rep (α:=(List g_api_Cert)×(List g_api_Cert)×ByteArray×Int) m cs (x.roots_,x.chain_,x.name_,x.now_)
 len h:=GoT.len (α:=(List g_api_Cert)×(List g_api_Cert)×ByteArray×Int) h
 up l h:=GoT.up (α:=(List g_api_Cert)×(List g_api_Cert)×ByteArray×Int) l h
 one h:=GoT.one (α:=(List g_api_Cert)×(List g_api_Cert)×ByteArray×Int) h
instance:Inhabited g_path_trip:=⟨⟨default,default,default,default⟩⟩
structure Gq where
 tag_:Int
 may_:Int
instance:Inhabited Gq:=⟨⟨default,default⟩⟩
structure g_api_Item where
 Tag:Int
 B:List UInt8
 L:List g_api_Item
instance:Inhabited g_api_Item:=⟨⟨default,default,default⟩⟩
def Af (a:g_api_Item):List D:=[.i a.Tag,.sl _ eB a.B,.rs _ (λa=> [.i a.Tag,.sl _ eB a.B]) (λa=> []) (λa=>a.L) a.L]
instance:GoT g_api_Item:=TJ Af 3
theorem AhG {m:Mem}{cs:List Value}{x:g_api_Item}(h:GoT.rep m cs x): ∃v1,∃v2,cs=[vI x.Tag,v1,v2]/\SlR m v1 x.B/\SlR m v2 x.L:=by
 obtain⟨h,_⟩:=h;obtain⟨u0,us0,rfl,a0,g0⟩:=FRL.cons_inv h;cases a0;obtain⟨u1,us1,rfl,a1,g1⟩:=FRL.cons_inv g0;obtain⟨u2,us2,rfl,a2,g2⟩:=FRL.cons_inv g1;obtain rfl:=FRL.nil_inv g2;exact⟨u1,u2,rfl,Br.ofS Br.b a1,Abt (AeE a2) (λ_=>rfl)⟩
theorem AiU {m:Mem}{x:g_api_Item}{v1:Value}{v2:Value}(h1:SlR m v1 x.B)(h2:SlR m v2 x.L):GoT.rep m [vI x.Tag,v1,v2] x:=⟨(FRL.cons (.i _) (FRL.cons (Br.toS Br.b h1) (FRL.cons (.rs (Zq h2)) FRL.nil))),rfl⟩
theorem b_api_Item:Br g_api_Item Af:=⟨λh=>h.1,λh=>⟨h,rfl⟩,λ_=>rfl⟩
structure g_api_Key where
 Log:Int
 Key:UInt64
 Delay:Int
instance:GoT g_api_Key where
 sz:=GoT.sz (Int×UInt64×Int)
 rep m cs x:=GoT.rep (α:=Int×UInt64×Int) m cs (x.Log,x.Key,x.Delay)
 len h:=GoT.len (α:=Int×UInt64×Int) h
 up l h:=GoT.up (α:=Int×UInt64×Int) l h
 one h:=GoT.one (α:=Int×UInt64×Int) h
instance:Inhabited g_api_Key:=⟨⟨default,default,default⟩⟩
structure g_api_Head where
 Log:Int
 Size:Int
 Root:UInt64×UInt64
 At:Int
 Sig:g_api_Sig
instance:GoT g_api_Head where
 sz:=GoT.sz (Int×Int×(UInt64×UInt64)×Int×g_api_Sig)
 rep m cs x:=GoT.rep (α:=Int×Int×(UInt64×UInt64)×Int×g_api_Sig) m cs (x.Log,x.Size,x.Root,x.At,x.Sig)
 len h:=GoT.len (α:=Int×Int×(UInt64×UInt64)×Int×g_api_Sig) h
 up l h:=GoT.up (α:=Int×Int×(UInt64×UInt64)×Int×g_api_Sig) l h
 one h:=GoT.one (α:=Int×Int×(UInt64×UInt64)×Int×g_api_Sig) h
instance:Inhabited g_api_Head:=⟨⟨default,default,default,default,default⟩⟩
structure g_api_Pool where
 L:List g_api_Head
instance:GoT g_api_Pool where
 sz:=GoT.sz ((List g_api_Head))
 rep m cs x:=GoT.rep (α:=(List g_api_Head)) m cs x.L
 len h:=GoT.len (α:=(List g_api_Head)) h
 up l h:=GoT.up (α:=(List g_api_Head)) l h
 one h:=GoT.one (α:=(List g_api_Head)) h
instance:Inhabited g_api_Pool:=⟨⟨default⟩⟩
structure g_api_Sieve where
 Bits:Int
 Hashes:Int
 Salt:Int
 B:List UInt8
instance:GoT g_api_Sieve where
 sz:=GoT.sz (Int×Int×Int×(List UInt8))
 rep m cs x:=GoT.rep (α:=Int×Int×Int×(List UInt8)) m cs (x.Bits,x.Hashes,x.Salt,x.B)
 len h:=GoT.len (α:=Int×Int×Int×(List UInt8)) h
 up l h:=GoT.up (α:=Int×Int×Int×(List UInt8)) l h
 one h:=GoT.one (α:=Int×Int×Int×(List UInt8)) h
instance:Inhabited g_api_Sieve:=⟨⟨default,default,default,default⟩⟩
structure g_api_Cascade where
 Day:Int
 Levels:List g_api_Sieve
instance:GoT g_api_Cascade where
 sz:=GoT.sz (Int×(List g_api_Sieve))
 rep m cs x:=GoT.rep (α:=Int×(List g_api_Sieve)) m cs (x.Day,x.Levels)
 len h:=GoT.len (α:=Int×(List g_api_Sieve)) h
 up l h:=GoT.up (α:=Int×(List g_api_Sieve)) l h
 one h:=GoT.one (α:=Int×(List g_api_Sieve)) h
instance:Inhabited g_api_Cascade:=⟨⟨default,default⟩⟩
structure g_api_Client where
 Who:ByteArray
 Roots:List g_api_Cert
 Logs:List g_api_Key
 Pool:g_api_Pool
 Cascade:g_api_Cascade
 View:Int
instance:GoT g_api_Client where
 sz:=GoT.sz (ByteArray×(List g_api_Cert)×(List g_api_Key)×g_api_Pool×g_api_Cascade×Int)
 rep m cs x:=GoT.rep (α:=ByteArray×(List g_api_Cert)×(List g_api_Key)×g_api_Pool×g_api_Cascade×Int) m cs (x.Who,x.Roots,x.Logs,x.Pool,x.Cascade,x.View)
 len h:=GoT.len (α:=ByteArray×(List g_api_Cert)×(List g_api_Key)×g_api_Pool×g_api_Cascade×Int) h
 up l h:=GoT.up (α:=ByteArray×(List g_api_Cert)×(List g_api_Key)×g_api_Pool×g_api_Cascade×Int) l h
 one h:=GoT.one (α:=ByteArray×(List g_api_Cert)×(List g_api_Key)×g_api_Pool×g_api_Cascade×Int) h
instance:Inhabited g_api_Client:=⟨⟨default,default,default,default,default,default⟩⟩
structure Am where
 Client:g_api_Client
instance:GoT Am where
 sz:=GoT.sz (g_api_Client)
 rep m cs x:=GoT.rep (α:=g_api_Client) m cs x.Client
 len h:=GoT.len (α:=g_api_Client) h
 up l h:=GoT.up (α:=g_api_Client) l h
 one h:=GoT.one (α:=g_api_Client) h
instance:Inhabited Am:=⟨⟨default⟩⟩
structure g_api_Place where
 Log:Int
 At:Int
 Size:Int
 Proof:List (UInt64×UInt64)
instance:GoT g_api_Place where
 sz:=GoT.sz (Int×Int×Int×(List (UInt64×UInt64)))
 rep m cs x:=GoT.rep (α:=Int×Int×Int×(List (UInt64×UInt64))) m cs (x.Log,x.At,x.Size,x.Proof)
 len h:=GoT.len (α:=Int×Int×Int×(List (UInt64×UInt64))) h
 up l h:=GoT.up (α:=Int×Int×Int×(List (UInt64×UInt64))) l h
 one h:=GoT.one (α:=Int×Int×Int×(List (UInt64×UInt64))) h
instance:Inhabited g_api_Place:=⟨⟨default,default,default,default⟩⟩
structure g_api_Offer where
 Path:List g_api_Cert
 Where:List g_api_Place
instance:GoT g_api_Offer where
 sz:=GoT.sz ((List g_api_Cert)×(List g_api_Place))
 rep m cs x:=GoT.rep (α:=(List g_api_Cert)×(List g_api_Place)) m cs (x.Path,x.Where)
 len h:=GoT.len (α:=(List g_api_Cert)×(List g_api_Place)) h
 up l h:=GoT.up (α:=(List g_api_Cert)×(List g_api_Place)) l h
 one h:=GoT.one (α:=(List g_api_Cert)×(List g_api_Place)) h
instance:Inhabited g_api_Offer:=⟨⟨default,default⟩⟩
structure g_api_Leaf where
 Body:List UInt8
 At:Int
instance:GoT g_api_Leaf where
 sz:=GoT.sz ((List UInt8)×Int)
 rep m cs x:=GoT.rep (α:=(List UInt8)×Int) m cs (x.Body,x.At)
 len h:=GoT.len (α:=(List UInt8)×Int) h
 up l h:=GoT.up (α:=(List UInt8)×Int) l h
 one h:=GoT.one (α:=(List UInt8)×Int) h
instance:Inhabited g_api_Leaf:=⟨⟨default,default⟩⟩
structure g_api_Log where
 Id:Int
 Key:UInt64
 Delay:Int
 L:List g_api_Leaf
 Hide:List Int
 Wait:List g_api_Leaf
instance:GoT g_api_Log where
 sz:=GoT.sz (Int×UInt64×Int×(List g_api_Leaf)×(List Int)×(List g_api_Leaf))
 rep m cs x:=GoT.rep (α:=Int×UInt64×Int×(List g_api_Leaf)×(List Int)×(List g_api_Leaf)) m cs (x.Id,x.Key,x.Delay,x.L,x.Hide,x.Wait)
 len h:=GoT.len (α:=Int×UInt64×Int×(List g_api_Leaf)×(List Int)×(List g_api_Leaf)) h
 up l h:=GoT.up (α:=Int×UInt64×Int×(List g_api_Leaf)×(List Int)×(List g_api_Leaf)) l h
 one h:=GoT.one (α:=Int×UInt64×Int×(List g_api_Leaf)×(List Int)×(List g_api_Leaf)) h
instance:Inhabited g_api_Log:=⟨⟨default,default,default,default,default,default⟩⟩
structure Mq where
 Account:Int
 Names:List ByteArray
 Key:UInt64
 Life:Int
instance:GoT Mq where
 sz:=GoT.sz (Int×(List ByteArray)×UInt64×Int)
 rep m cs x:=GoT.rep (α:=Int×(List ByteArray)×UInt64×Int) m cs (x.Account,x.Names,x.Key,x.Life)
 len h:=GoT.len (α:=Int×(List ByteArray)×UInt64×Int) h
 up l h:=GoT.up (α:=Int×(List ByteArray)×UInt64×Int) l h
 one h:=GoT.one (α:=Int×(List ByteArray)×UInt64×Int) h
instance:Inhabited Mq:=⟨⟨default,default,default,default⟩⟩
structure Ay where
 size_:Int
 root_:UInt64×UInt64
instance:GoT Ay where
 sz:=GoT.sz (Int×(UInt64×UInt64))
 rep m cs x:=GoT.rep (α:=Int×(UInt64×UInt64)) m cs (x.size_,x.root_)
 len h:=GoT.len (α:=Int×(UInt64×UInt64)) h
 up l h:=GoT.up (α:=Int×(UInt64×UInt64)) l h
 one h:=GoT.one (α:=Int×(UInt64×UInt64)) h
instance:Inhabited Ay:=⟨⟨default,default⟩⟩
structure C9 where
 c_:g_api_Client
 o_:g_api_Offer
 logs_:List g_api_Log
instance:GoT C9 where
 sz:=GoT.sz (g_api_Client×g_api_Offer×(List g_api_Log))
 rep m cs x:=GoT.rep (α:=g_api_Client×g_api_Offer×(List g_api_Log)) m cs (x.c_,x.o_,x.logs_)
 len h:=GoT.len (α:=g_api_Client×g_api_Offer×(List g_api_Log)) h
 up l h:=GoT.up (α:=g_api_Client×g_api_Offer×(List g_api_Log)) l h
 one h:=GoT.one (α:=g_api_Client×g_api_Offer×(List g_api_Log)) h
instance:Inhabited C9:=⟨⟨default,default,default⟩⟩
structure BF where
 sieve_:g_api_Sieve
 e_:Int
instance:GoT BF where
 sz:=GoT.sz (g_api_Sieve×Int)
 rep m cs x:=GoT.rep (α:=g_api_Sieve×Int) m cs (x.sieve_,x.e_)
 len h:=GoT.len (α:=g_api_Sieve×Int) h
 up l h:=GoT.up (α:=g_api_Sieve×Int) l h
 one h:=GoT.one (α:=g_api_Sieve×Int) h
instance:Inhabited BF:=⟨⟨default,default⟩⟩
structure Gu where
 lo_:UInt8
 hi_:UInt8
instance:GoT Gu where
 sz:=GoT.sz (UInt8×UInt8)
 rep m cs x:=GoT.rep (α:=UInt8×UInt8) m cs (x.lo_,x.hi_)
 len h:=GoT.len (α:=UInt8×UInt8) h
 up l h:=GoT.up (α:=UInt8×UInt8) l h
 one h:=GoT.one (α:=UInt8×UInt8) h
instance:Inhabited Gu:=⟨⟨default,default⟩⟩
theorem Aft {m:Mem}{cs:List Value}{x:g_api_Sieve}(h:GoT.rep m cs x): ∃v1,cs=[vI x.Bits,vI x.Hashes,vI x.Salt,v1]/\SlR m v1 x.B:=by
 obtain⟨_,_,rfl,rfl,⟨_,_,rfl,rfl,⟨_,_,rfl,rfl,⟨v1,rfl,h1⟩⟩⟩⟩:=h;exact⟨v1,rfl,h1⟩
theorem AhL {m:Mem}{x:g_api_Sieve}{v1:Value}(h1:SlR m v1 x.B):GoT.rep m [vI x.Bits,vI x.Hashes,vI x.Salt,v1] x:=⟨[vI x.Bits],[vI x.Hashes,vI x.Salt,v1],rfl,rfl,⟨[vI x.Hashes],[vI x.Salt,v1],rfl,rfl,⟨[vI x.Salt],[v1],rfl,rfl,⟨_,rfl,h1⟩⟩⟩⟩
theorem UB {m:Mem}{cs:List Value}{x:UInt64×UInt64}(h:GoT.rep m cs x):cs=[vU x.1,vU x.2]:=by
 obtain⟨_,_,rfl,rfl,rfl⟩:=h;exact rfl
theorem VO {m:Mem}{x:UInt64×UInt64}:GoT.rep m [vU x.1,vU x.2] x:=⟨[vU x.1],[vU x.2],rfl,rfl,rfl⟩
theorem Afu {m:Mem}{cs:List Value}{x:g_api_Place}(h:GoT.rep m cs x): ∃v1,cs=[vI x.Log,vI x.At,vI x.Size,v1]/\SlR m v1 x.Proof:=by
 obtain⟨_,_,rfl,rfl,⟨_,_,rfl,rfl,⟨_,_,rfl,rfl,⟨v1,rfl,h1⟩⟩⟩⟩:=h;exact⟨v1,rfl,h1⟩
theorem AhM {m:Mem}{x:g_api_Place}{v1:Value}(h1:SlR m v1 x.Proof):GoT.rep m [vI x.Log,vI x.At,vI x.Size,v1] x:=⟨[vI x.Log],[vI x.At,vI x.Size,v1],rfl,rfl,⟨[vI x.At],[vI x.Size,v1],rfl,rfl,⟨[vI x.Size],[v1],rfl,rfl,⟨_,rfl,h1⟩⟩⟩⟩
theorem Aiu {m:Mem}{cs:List Value}{x:g_api_Key}(h:GoT.rep m cs x):cs=[vI x.Log,vU x.Key,vI x.Delay]:=by
 obtain⟨_,_,rfl,rfl,⟨_,_,rfl,rfl,rfl⟩⟩:=h;exact rfl
theorem AkE {m:Mem}{x:g_api_Key}:GoT.rep m [vI x.Log,vU x.Key,vI x.Delay] x:=⟨[vI x.Log],[vU x.Key,vI x.Delay],rfl,rfl,⟨[vU x.Key],[vI x.Delay],rfl,rfl,rfl⟩⟩
theorem AhH {m:Mem}{cs:List Value}{x:g_api_Head}(h:GoT.rep m cs x):cs=[vI x.Log,vI x.Size,vU x.Root.1,vU x.Root.2,vI x.At,vU x.Sig.E,vU x.Sig.S]:=by
 obtain⟨_,_,rfl,rfl,⟨_,_,rfl,rfl,⟨_,_,rfl,⟨_,_,rfl,rfl,rfl⟩,⟨_,_,rfl,rfl,⟨_,_,rfl,rfl,rfl⟩⟩⟩⟩⟩:=h;exact rfl
theorem Ya {m:Mem}{x:g_api_Head}:GoT.rep m [vI x.Log,vI x.Size,vU x.Root.1,vU x.Root.2,vI x.At,vU x.Sig.E,vU x.Sig.S] x:=⟨[vI x.Log],[vI x.Size,vU x.Root.1,vU x.Root.2,vI x.At,vU x.Sig.E,vU x.Sig.S],rfl,rfl,⟨[vI x.Size],[vU x.Root.1,vU x.Root.2,vI x.At,vU x.Sig.E,vU x.Sig.S],rfl,rfl,⟨[vU x.Root.1,vU x.Root.2],[vI x.At,vU x.Sig.E,vU x.Sig.S],rfl,⟨[vU x.Root.1],[vU x.Root.2],rfl,rfl,rfl⟩,⟨[vI x.At],[vU x.Sig.E,vU x.Sig.S],rfl,rfl,⟨[vU x.Sig.E],[vU x.Sig.S],rfl,rfl,rfl⟩⟩⟩⟩⟩
theorem AdI {m:Mem}{cs:List Value}{x:Ay}(h:GoT.rep m cs x):cs=[vI x.size_,vU x.root_.1,vU x.root_.2]:=by
 obtain⟨_,_,rfl,rfl,⟨_,_,rfl,rfl,rfl⟩⟩:=h;exact rfl
theorem Aep {m:Mem}{x:Ay}:GoT.rep m [vI x.size_,vU x.root_.1,vU x.root_.2] x:=⟨[vI x.size_],[vU x.root_.1,vU x.root_.2],rfl,rfl,⟨[vU x.root_.1],[vU x.root_.2],rfl,rfl,rfl⟩⟩
theorem Ait {m:Mem}{cs:List Value}{x:g_api_Log}(h:GoT.rep m cs x): ∃v1,∃v2,∃v3,cs=[vI x.Id,vU x.Key,vI x.Delay,v1,v2,v3]/\SlR m v1 x.L/\SlR m v2 x.Hide/\SlR m v3 x.Wait:=by
 obtain⟨_,_,rfl,rfl,⟨_,_,rfl,rfl,⟨_,_,rfl,rfl,⟨_,_,rfl,⟨v1,rfl,h1⟩,⟨_,_,rfl,⟨v2,rfl,h2⟩,⟨v3,rfl,h3⟩⟩⟩⟩⟩⟩:=h;exact⟨v1,v2,v3,rfl,h1,h2,h3⟩
theorem AkD {m:Mem}{x:g_api_Log}{v1:Value}{v2:Value}{v3:Value}(h1:SlR m v1 x.L)(h2:SlR m v2 x.Hide)(h3:SlR m v3 x.Wait):GoT.rep m [vI x.Id,vU x.Key,vI x.Delay,v1,v2,v3] x:=⟨[vI x.Id],[vU x.Key,vI x.Delay,v1,v2,v3],rfl,rfl,⟨[vU x.Key],[vI x.Delay,v1,v2,v3],rfl,rfl,⟨[vI x.Delay],[v1,v2,v3],rfl,rfl,⟨[v1],[v2,v3],rfl,⟨_,rfl,h1⟩,⟨[v2],[v3],rfl,⟨_,rfl,h2⟩,⟨_,rfl,h3⟩⟩⟩⟩⟩⟩
theorem AhI {m:Mem}{cs:List Value}{x:g_api_Cert}(h:GoT.rep m cs x): ∃v1,∃v2,∃v3,cs=[vI x.Serial,vS x.Issuer,vS x.Subject,vU x.Key,v1,vI x.From,vI x.Until,vb x.Ca,vI x.Depth,v2,v3,vU x.Sig.E,vU x.Sig.S]/\SlR m v1 x.Names/\SlR m v2 x.Permit/\SlR m v3 x.Proms:=by
 obtain⟨_,_,rfl,rfl,⟨_,_,rfl,rfl,⟨_,_,rfl,rfl,⟨_,_,rfl,rfl,⟨_,_,rfl,⟨v1,rfl,h1⟩,⟨_,_,rfl,rfl,⟨_,_,rfl,rfl,⟨_,_,rfl,rfl,⟨_,_,rfl,rfl,⟨_,_,rfl,⟨v2,rfl,h2⟩,⟨_,_,rfl,⟨v3,rfl,h3⟩,⟨_,_,rfl,rfl,rfl⟩⟩⟩⟩⟩⟩⟩⟩⟩⟩⟩⟩:=h;exact⟨v1,v2,v3,rfl,h1,h2,h3⟩
theorem AiV {m:Mem}{x:g_api_Cert}{v1:Value}{v2:Value}{v3:Value}(h1:SlR m v1 x.Names)(h2:SlR m v2 x.Permit)(h3:SlR m v3 x.Proms):GoT.rep m [vI x.Serial,vS x.Issuer,vS x.Subject,vU x.Key,v1,vI x.From,vI x.Until,vb x.Ca,vI x.Depth,v2,v3,vU x.Sig.E,vU x.Sig.S] x:=⟨[vI x.Serial],[vS x.Issuer,vS x.Subject,vU x.Key,v1,vI x.From,vI x.Until,vb x.Ca,vI x.Depth,v2,v3,vU x.Sig.E,vU x.Sig.S],rfl,rfl,⟨[vS x.Issuer],[vS x.Subject,vU x.Key,v1,vI x.From,vI x.Until,vb x.Ca,vI x.Depth,v2,v3,vU x.Sig.E,vU x.Sig.S],rfl,rfl,⟨[vS x.Subject],[vU x.Key,v1,vI x.From,vI x.Until,vb x.Ca,vI x.Depth,v2,v3,vU x.Sig.E,vU x.Sig.S],rfl,rfl,⟨[vU x.Key],[v1,vI x.From,vI x.Until,vb x.Ca,vI x.Depth,v2,v3,vU x.Sig.E,vU x.Sig.S],rfl,rfl,⟨[v1],[vI x.From,vI x.Until,vb x.Ca,vI x.Depth,v2,v3,vU x.Sig.E,vU x.Sig.S],rfl,⟨_,rfl,h1⟩,⟨[vI x.From],[vI x.Until,vb x.Ca,vI x.Depth,v2,v3,vU x.Sig.E,vU x.Sig.S],rfl,rfl,⟨[vI x.Until],[vb x.Ca,vI x.Depth,v2,v3,vU x.Sig.E,vU x.Sig.S],rfl,rfl,⟨[vb x.Ca],[vI x.Depth,v2,v3,vU x.Sig.E,vU x.Sig.S],rfl,rfl,⟨[vI x.Depth],[v2,v3,vU x.Sig.E,vU x.Sig.S],rfl,rfl,⟨[v2],[v3,vU x.Sig.E,vU x.Sig.S],rfl,⟨_,rfl,h2⟩,⟨[v3],[vU x.Sig.E,vU x.Sig.S],rfl,⟨_,rfl,h3⟩,⟨[vU x.Sig.E],[vU x.Sig.S],rfl,rfl,rfl⟩⟩⟩⟩⟩⟩⟩⟩⟩⟩⟩⟩
theorem Aek {m:Mem}{cs:List Value}{x:g_api_Client}(h:GoT.rep m cs x): ∃v1,∃v2,∃v3,∃v4,cs=[vS x.Who,v1,v2,v3,vI x.Cascade.Day,v4,vI x.View]/\SlR m v1 x.Roots/\SlR m v2 x.Logs/\SlR m v3 x.Pool.L/\SlR m v4 x.Cascade.Levels:=by
 obtain⟨_,_,rfl,rfl,⟨_,_,rfl,⟨v1,rfl,h1⟩,⟨_,_,rfl,⟨v2,rfl,h2⟩,⟨_,_,rfl,⟨v3,rfl,h3⟩,⟨_,_,rfl,⟨_,_,rfl,rfl,⟨v4,rfl,h4⟩⟩,rfl⟩⟩⟩⟩⟩:=h;exact⟨v1,v2,v3,v4,rfl,h1,h2,h3,h4⟩
theorem UN {m:Mem}{x:g_api_Client}{v1:Value}{v2:Value}{v3:Value}{v4:Value}(h1:SlR m v1 x.Roots)(h2:SlR m v2 x.Logs)(h3:SlR m v3 x.Pool.L)(h4:SlR m v4 x.Cascade.Levels):GoT.rep m [vS x.Who,v1,v2,v3,vI x.Cascade.Day,v4,vI x.View] x:=⟨[vS x.Who],[v1,v2,v3,vI x.Cascade.Day,v4,vI x.View],rfl,rfl,⟨[v1],[v2,v3,vI x.Cascade.Day,v4,vI x.View],rfl,⟨_,rfl,h1⟩,⟨[v2],[v3,vI x.Cascade.Day,v4,vI x.View],rfl,⟨_,rfl,h2⟩,⟨[v3],[vI x.Cascade.Day,v4,vI x.View],rfl,⟨_,rfl,h3⟩,⟨[vI x.Cascade.Day,v4],[vI x.View],rfl,⟨[vI x.Cascade.Day],[v4],rfl,rfl,⟨_,rfl,h4⟩⟩,rfl⟩⟩⟩⟩⟩
theorem AdK {m:Mem}{cs:List Value}{x:g_api_Cascade}(h:GoT.rep m cs x): ∃v1,cs=[vI x.Day,v1]/\SlR m v1 x.Levels:=by
 obtain⟨_,_,rfl,rfl,⟨v1,rfl,h1⟩⟩:=h;exact⟨v1,rfl,h1⟩
theorem Tn {m:Mem}{x:g_api_Cascade}{v1:Value}(h1:SlR m v1 x.Levels):GoT.rep m [vI x.Day,v1] x:=⟨[vI x.Day],[v1],rfl,rfl,⟨_,rfl,h1⟩⟩
theorem AhF {m:Mem}{cs:List Value}{x:g_api_Leaf}(h:GoT.rep m cs x): ∃v1,cs=[v1,vI x.At]/\SlR m v1 x.Body:=by
 obtain⟨_,_,rfl,⟨v1,rfl,h1⟩,rfl⟩:=h;exact⟨v1,rfl,h1⟩
theorem AiT {m:Mem}{x:g_api_Leaf}{v1:Value}(h1:SlR m v1 x.Body):GoT.rep m [v1,vI x.At] x:=⟨[v1],[vI x.At],rfl,⟨_,rfl,h1⟩,rfl⟩
theorem AdJ {m:Mem}{cs:List Value}{x:g_api_Promise}(h:GoT.rep m cs x):cs=[vI x.Log,vI x.At,vU x.Leaf.1,vU x.Leaf.2,vU x.Sig.E,vU x.Sig.S]:=by
 obtain⟨_,_,rfl,rfl,⟨_,_,rfl,rfl,⟨_,_,rfl,⟨_,_,rfl,rfl,rfl⟩,⟨_,_,rfl,rfl,rfl⟩⟩⟩⟩:=h;exact rfl
theorem Aeq {m:Mem}{x:g_api_Promise}:GoT.rep m [vI x.Log,vI x.At,vU x.Leaf.1,vU x.Leaf.2,vU x.Sig.E,vU x.Sig.S] x:=⟨[vI x.Log],[vI x.At,vU x.Leaf.1,vU x.Leaf.2,vU x.Sig.E,vU x.Sig.S],rfl,rfl,⟨[vI x.At],[vU x.Leaf.1,vU x.Leaf.2,vU x.Sig.E,vU x.Sig.S],rfl,rfl,⟨[vU x.Leaf.1,vU x.Leaf.2],[vU x.Sig.E,vU x.Sig.S],rfl,⟨[vU x.Leaf.1],[vU x.Leaf.2],rfl,rfl,rfl⟩,⟨[vU x.Sig.E],[vU x.Sig.S],rfl,rfl,rfl⟩⟩⟩⟩
def Gr (p q:g_api_Sig):Bool:=[(p.E==q.E),(p.S==q.S)].all id
theorem Va {p q:g_api_Sig}:EqV Tryz.prog 2 36 (.agg ([vU p.E,vU p.S]:List Value).toArray) (.agg ([vU q.E,vU q.S]:List Value).toArray) (Gr p q):=
 EqV.struct (k:=1) (cs:=[vU p.E,vU p.S]) (ds:=[vU q.E,vU q.S]) (bs:=[(p.E==q.E),(p.S==q.S)]) Tryz.underlying36 (by kernel_rfl) ⟨⟨by decide,_,_,fd1 Tryz.isAgg32 Tryz.sizeOf32 rfl,fd1 Tryz.isAgg32 Tryz.sizeOf32 rfl,EqV.mono (EqV.u64 Tryz.underlying32) (by decide)⟩,⟨⟨by decide,_,_,fd1 Tryz.isAgg32 Tryz.sizeOf32 rfl,fd1 Tryz.isAgg32 Tryz.sizeOf32 rfl,EqV.mono (EqV.u64 Tryz.underlying32) (by decide)⟩,trivial⟩⟩
def Nq (p q:g_api_Head):Bool:=[(p.Log==q.Log),(p.Size==q.Size),(Nr p.Root q.Root),(p.At==q.At),(Gr p.Sig q.Sig)].all id
theorem Ak2 {p q:g_api_Head}:EqV Tryz.prog 3 38 (.agg ([vI p.Log,vI p.Size,vU p.Root.1,vU p.Root.2,vI p.At,vU p.Sig.E,vU p.Sig.S]:List Value).toArray) (.agg ([vI q.Log,vI q.Size,vU q.Root.1,vU q.Root.2,vI q.At,vU q.Sig.E,vU q.Sig.S]:List Value).toArray) (Nq p q):=
 EqV.struct (k:=2) (cs:=[vI p.Log,vI p.Size,vU p.Root.1,vU p.Root.2,vI p.At,vU p.Sig.E,vU p.Sig.S]) (ds:=[vI q.Log,vI q.Size,vU q.Root.1,vU q.Root.2,vI q.At,vU q.Sig.E,vU q.Sig.S]) (bs:=[(p.Log==q.Log),(p.Size==q.Size),(Nr p.Root q.Root),(p.At==q.At),(Gr p.Sig q.Sig)]) Tryz.underlying38 (by kernel_rfl) ⟨⟨by decide,_,_,fd1 Tryz.isAgg3 Tryz.sizeOf3 rfl,fd1 Tryz.isAgg3 Tryz.sizeOf3 rfl,EqV.mono (EqV.int Tryz.underlying3) (by decide)⟩,⟨⟨by decide,_,_,fd1 Tryz.isAgg3 Tryz.sizeOf3 rfl,fd1 Tryz.isAgg3 Tryz.sizeOf3 rfl,EqV.mono (EqV.int Tryz.underlying3) (by decide)⟩,⟨⟨by decide,_,_,fdA Tryz.isAgg34 Tryz.sizeOf34 rfl rfl,fdA Tryz.isAgg34 Tryz.sizeOf34 rfl rfl,EqV.mono (EqV.sum Tryz.underlying34 Tryz.underlying32 Tryz.sizeOf32 Tryz.isAgg32) (by decide)⟩,⟨⟨by decide,_,_,fd1 Tryz.isAgg3 Tryz.sizeOf3 rfl,fd1 Tryz.isAgg3 Tryz.sizeOf3 rfl,EqV.mono (EqV.int Tryz.underlying3) (by decide)⟩,⟨⟨by decide,_,_,fdA Tryz.isAgg36 Tryz.sizeOf36 rfl rfl,fdA Tryz.isAgg36 Tryz.sizeOf36 rfl rfl,EqV.mono (Va) (by decide)⟩,trivial⟩⟩⟩⟩⟩
def Ea (p q:g_api_Promise):Bool:=[(p.Log==q.Log),(p.At==q.At),(Nr p.Leaf q.Leaf),(Gr p.Sig q.Sig)].all id
theorem AgL {p q:g_api_Promise}:EqV Tryz.prog 3 63 (.agg ([vI p.Log,vI p.At,vU p.Leaf.1,vU p.Leaf.2,vU p.Sig.E,vU p.Sig.S]:List Value).toArray) (.agg ([vI q.Log,vI q.At,vU q.Leaf.1,vU q.Leaf.2,vU q.Sig.E,vU q.Sig.S]:List Value).toArray) (Ea p q):=
 EqV.struct (k:=2) (cs:=[vI p.Log,vI p.At,vU p.Leaf.1,vU p.Leaf.2,vU p.Sig.E,vU p.Sig.S]) (ds:=[vI q.Log,vI q.At,vU q.Leaf.1,vU q.Leaf.2,vU q.Sig.E,vU q.Sig.S]) (bs:=[(p.Log==q.Log),(p.At==q.At),(Nr p.Leaf q.Leaf),(Gr p.Sig q.Sig)]) Tryz.underlying63 (by kernel_rfl) ⟨⟨by decide,_,_,fd1 Tryz.isAgg3 Tryz.sizeOf3 rfl,fd1 Tryz.isAgg3 Tryz.sizeOf3 rfl,EqV.mono (EqV.int Tryz.underlying3) (by decide)⟩,⟨⟨by decide,_,_,fd1 Tryz.isAgg3 Tryz.sizeOf3 rfl,fd1 Tryz.isAgg3 Tryz.sizeOf3 rfl,EqV.mono (EqV.int Tryz.underlying3) (by decide)⟩,⟨⟨by decide,_,_,fdA Tryz.isAgg34 Tryz.sizeOf34 rfl rfl,fdA Tryz.isAgg34 Tryz.sizeOf34 rfl rfl,EqV.mono (EqV.sum Tryz.underlying34 Tryz.underlying32 Tryz.sizeOf32 Tryz.isAgg32) (by decide)⟩,⟨⟨by decide,_,_,fdA Tryz.isAgg36 Tryz.sizeOf36 rfl rfl,fdA Tryz.isAgg36 Tryz.sizeOf36 rfl rfl,EqV.mono (Va) (by decide)⟩,trivial⟩⟩⟩⟩
def O5 (p q:g_api_Key):Bool:=[(p.Log==q.Log),(p.Key==q.Key),(p.Delay==q.Delay)].all id
theorem Anm {p q:g_api_Key}:EqV Tryz.prog 2 102 (.agg ([vI p.Log,vU p.Key,vI p.Delay]:List Value).toArray) (.agg ([vI q.Log,vU q.Key,vI q.Delay]:List Value).toArray) (O5 p q):=
 EqV.struct (k:=1) (cs:=[vI p.Log,vU p.Key,vI p.Delay]) (ds:=[vI q.Log,vU q.Key,vI q.Delay]) (bs:=[(p.Log==q.Log),(p.Key==q.Key),(p.Delay==q.Delay)]) Tryz.underlying102 (by kernel_rfl) ⟨⟨by decide,_,_,fd1 Tryz.isAgg3 Tryz.sizeOf3 rfl,fd1 Tryz.isAgg3 Tryz.sizeOf3 rfl,EqV.mono (EqV.int Tryz.underlying3) (by decide)⟩,⟨⟨by decide,_,_,fd1 Tryz.isAgg32 Tryz.sizeOf32 rfl,fd1 Tryz.isAgg32 Tryz.sizeOf32 rfl,EqV.mono (EqV.u64 Tryz.underlying32) (by decide)⟩,⟨⟨by decide,_,_,fd1 Tryz.isAgg3 Tryz.sizeOf3 rfl,fd1 Tryz.isAgg3 Tryz.sizeOf3 rfl,EqV.mono (EqV.int Tryz.underlying3) (by decide)⟩,trivial⟩⟩⟩
structure Ho where
 k:Nat
 a:g_path_trip
def tab_2:List Gq:=[⟨1,428⟩,⟨2,299⟩,⟨4,429⟩,⟨12,430⟩,⟨48,432⟩]
def Ad (a:g_api_Promise):List D:=[.i a.Log,.i a.At,.u a.Leaf.1,.u a.Leaf.2,.u a.Sig.E,.u a.Sig.S]
def Ac (a:g_api_Cert):List D:=[.i a.Serial,.s a.Issuer,.s a.Subject,.u a.Key,.sl _ eS a.Names,.i a.From,.i a.Until,.t a.Ca,.i a.Depth,.sl _ eS a.Permit,.sl _ Ad a.Proms,.u a.Sig.E,.u a.Sig.S]
def E1 (a:g_path_trip):List D:=[.sl _ Ac a.roots_,.sl _ Ac a.chain_,.s a.name_,.i a.now_]
def Jm (a:g_api_Sig):List D:=[.u a.E,.u a.S]
def Hx (a:Gq):List D:=[.i a.tag_,.v (fnV a.may_)]
def Sg (a:UInt64×UInt64×UInt64):List D:=[.u a.1,.u a.2.1,.u a.2.2]
def Ao (a:UInt64×UInt64):List D:=[.u a.1,.u a.2]
def Ru (a:Ho):List D:=[.cl a.k (E1 a.a)]
def Ai (a:g_api_Key):List D:=[.i a.Log,.u a.Key,.i a.Delay]
def Ae (a:g_api_Head):List D:=[.i a.Log,.i a.Size,.u a.Root.1,.u a.Root.2,.i a.At,.u a.Sig.E,.u a.Sig.S]
def Ah (a:g_api_Sieve):List D:=[.i a.Bits,.i a.Hashes,.i a.Salt,.sl _ eB a.B]
def B3 (a:Am):List D:=[.s a.Client.Who,.sl _ Ac a.Client.Roots,.sl _ Ai a.Client.Logs,.sl _ Ae a.Client.Pool.L,.i a.Client.Cascade.Day,.sl _ Ah a.Client.Cascade.Levels,.i a.Client.View]
def Fh (a:g_api_Pool):List D:=[.sl _ Ae a.L]
def B5 (a:g_api_Cascade):List D:=[.i a.Day,.sl _ Ah a.Levels]
def A0 (a:g_api_Client):List D:=[.s a.Who,.sl _ Ac a.Roots,.sl _ Ai a.Logs,.sl _ Ae a.Pool.L,.i a.Cascade.Day,.sl _ Ah a.Cascade.Levels,.i a.View]
def AQ (a:g_api_Place):List D:=[.i a.Log,.i a.At,.i a.Size,.sl _ Ao a.Proof]
def AbN (a:g_api_Offer):List D:=[.sl _ Ac a.Path,.sl _ AQ a.Where]
def Ak (a:g_api_Leaf):List D:=[.sl _ eB a.Body,.i a.At]
def Av (a:g_api_Log):List D:=[.i a.Id,.u a.Key,.i a.Delay,.sl _ Ak a.L,.sl _ eI a.Hide,.sl _ Ak a.Wait]
def Ad4 (a:Mq):List D:=[.i a.Account,.sl _ eS a.Names,.u a.Key,.i a.Life]
def AB (a:Ay):List D:=[.i a.size_,.u a.root_.1,.u a.root_.2]
def Aan (a:C9):List D:=[.s a.c_.Who,.sl _ Ac a.c_.Roots,.sl _ Ai a.c_.Logs,.sl _ Ae a.c_.Pool.L,.i a.c_.Cascade.Day,.sl _ Ah a.c_.Cascade.Levels,.i a.c_.View,.sl _ Ac a.o_.Path,.sl _ AQ a.o_.Where,.sl _ Av a.logs_]
def OP (a:BF):List D:=[.i a.sieve_.Bits,.i a.sieve_.Hashes,.i a.sieve_.Salt,.sl _ eB a.sieve_.B,.i a.e_]
theorem Sk:Br (UInt64×UInt64) Ao:=Br.mk' (Br.pair Br.u Br.u) Ao (λx=>x) (λ_ _ _=>rfl) (λ_=>rfl) rfl
theorem Vj:Br g_api_Sig Jm:=Br.mk' (Br.pair Br.u Br.u) Jm (λx=>(x.E,x.S)) (λ_ _ _=>rfl) (λ_=>rfl) rfl
theorem YJ:Br g_api_Promise Ad:=Br.mk' (Br.pair Br.i (Br.pair Br.i (Br.pair Sk Vj))) Ad (λx=>(x.Log,x.At,x.Leaf,x.Sig)) (λ_ _ _=>rfl) (λ_=>rfl) rfl
theorem WN:Br g_api_Cert Ac:=Br.mk' (Br.pair Br.i (Br.pair Br.s (Br.pair Br.s (Br.pair Br.u (Br.pair (Br.sl Br.s) (Br.pair Br.i (Br.pair Br.i (Br.pair Br.t (Br.pair Br.i (Br.pair (Br.sl Br.s) (Br.pair (Br.sl YJ) Vj))))))))))) Ac (λx=>(x.Serial,x.Issuer,x.Subject,x.Key,x.Names,x.From,x.Until,x.Ca,x.Depth,x.Permit,x.Proms,x.Sig)) (λ_ _ _=>rfl) (λ_=>rfl) rfl
theorem Ms:Br g_api_Head Ae:=Br.mk' (Br.pair Br.i (Br.pair Br.i (Br.pair Sk (Br.pair Br.i Vj)))) Ae (λx=>(x.Log,x.Size,x.Root,x.At,x.Sig)) (λ_ _ _=>rfl) (λ_=>rfl) rfl
theorem Aeh:Br g_api_Leaf Ak:=Br.mk' (Br.pair (Br.sl Br.b) Br.i) Ak (λx=>(x.Body,x.At)) (λ_ _ _=>rfl) (λ_=>rfl) rfl
theorem AbX:Br g_api_Sieve Ah:=Br.mk' (Br.pair Br.i (Br.pair Br.i (Br.pair Br.i (Br.sl Br.b)))) Ah (λx=>(x.Bits,x.Hashes,x.Salt,x.B)) (λ_ _ _=>rfl) (λ_=>rfl) rfl
theorem Ry:Br g_api_Cascade B5:=Br.mk' (Br.pair Br.i (Br.sl AbX)) B5 (λx=>(x.Day,x.Levels)) (λ_ _ _=>rfl) (λ_=>rfl) rfl
theorem Aht:Br g_api_Key Ai:=Br.mk' (Br.pair Br.i (Br.pair Br.u Br.i)) Ai (λx=>(x.Log,x.Key,x.Delay)) (λ_ _ _=>rfl) (λ_=>rfl) rfl
theorem Aeg:Br g_api_Pool Fh:=Br.mk' (Br.sl Ms) Fh (λx=>x.L) (λ_ _ _=>rfl) (λ_=>rfl) rfl
theorem Aay:Br g_api_Client A0:=Br.mk' (Br.pair Br.s (Br.pair (Br.sl WN) (Br.pair (Br.sl Aht) (Br.pair Aeg (Br.pair Ry Br.i))))) A0 (λx=>(x.Who,x.Roots,x.Logs,x.Pool,x.Cascade,x.View)) (λ_ _ _=>rfl) (λ_=>rfl) rfl
end Go.Proofs.YtnhdojckpcbjeaaGreatDoor
end
