/- Several texts, one behind the other. Conditions: none. -/
import Derived.Test.YtnhdojckpcbjeaaGreatDoorZe
import Derived.Test.YtnhdojckpcbjeaaGreatDoorZf
import Derived.KernelRfl
import Derived.Test.YtnhdojckpcbjeaaGreatDoorZg
set_option linter.unusedSimpArgs false
set_option linter.unusedVariables false
set_option maxHeartbeats 20000000
set_option maxRecDepth 100000
section
namespace Go.Ax
open Go Go.Gw
structure Vo:Type 1 where
 id:Nat
 nb:Nat
 t:TypeId
 b:List AV
 a:List AV
def AgI (C:List Vo):List Tok:=C.map fun c=>(c.id,.box c.nb c.b c.t)
def AaT (C:List Vo):List Tok:=C.map fun c=>(c.id,.box c.nb c.a c.t)
def capI (j:Nat):List Vo→List AObj
 | []=> []
 |c::r=> .box j c.b c.t::capI (j+1) r
def capO (j:Nat):List Vo→List AObj
 | []=> []
 |c::r=> .box j c.a c.t::capO (j+1) r
def capR (C:List Vo):AV→AV
 | .pb (j+1) o=>match C[j]? with|some c=> .pb c.nb o|none=> .no
 |a=>a
def capK (C:List Vo):AV→Bool
 | .pb 0 _=>false
 | .pb (j+1) _=>Nat.blt j C.length
 |a=>okA 0 a
def capE (η:Env)(y:Value)(C:List Vo):Env:=fun k=>match k with
 |0=>some y
 |j+1=>match C[j]? with|some c=>η c.nb|none=>none
def capF (n1:Nat)(C:List Vo):Bool:=C.all fun c=>Nat.blt c.nb n1&&(c.b.all (okA 0)&&c.a.all (okA 0))
theorem capRel {η η':Env}{m:Mem}{C:List Vo}(he: ∀(j:Nat) (c:Vo),C[j]? =some c→η' (j+1)=η c.nb){a:AV}{v:Value}(h:capK C a=true)(r:Rel η m (capR C a) v):Rel η' m a v:=by
 have key: ∀a,okA 0 a=true→Rel η m a v→Rel η' m a v:=fun a ha hr=>UD (n:=0) (fun k hk=>absurd hk (Nat.not_lt_zero k)) ha hr;cases a with
 |pb j o=>
  cases j with
  |zero=>cases h
  |succ j=>
   have hl:=Db (show Nat.blt j C.length=true from h);have hc:C[j]? =some C[j]:=AlK hl;have hr:Rel η m (match C[j]? with|some c=>AV.pb c.nb o|none=> .no) v:=r;rw[hc]at hr;obtain⟨b,hb,rfl⟩:=hr.pb_inv;exact .pb (by rw[he j _ hc]; exact hb)
 |_=>exact key _ h r
theorem AkE {η η':Env}{m:Mem}{C:List Vo}(he: ∀(j:Nat) (c:Vo),C[j]? =some c→η' (j+1)=η c.nb){aq:List AV}{vs:List Value}(h:aq.all (capK C)=true)(r:BX η m (aq.map (capR C)) vs):BX η' m aq vs:=
 ⟨by rw[←r.1,AlL],fun k a u ha hu=>capRel he (Alj.1 h a (AlC ha)) (r.2 k (capR C a) u (by rw[AlA,ha]; rfl) hu)⟩
theorem capIn {η η':Env}{m:Mem}: ∀{C D:List Vo} {j:Nat},(∀(i:Nat) (c:Vo),C[i]? =some c→η' (j+i)=η c.nb)→(C.all fun c=>c.b.all (okA 0))=true→
  ∀x,sepL ((AgI C).map fun p=>rep η m p.2) x→sepL ((capI j C).map (rep η' m)) x
 | [],_,_,_,_,x,h=>h
 |c::r,D,j,he,ho,x,h=>by
  simp only[AlQ,AkZ]at ho;refine Abx (fun y hy=> ?_) (capIn (D:=D) (j:=j+1) (fun i d hd=>by rw[show j+1+i=j+(i+1)from by omega]; exact he (i+1) d (by simpa using hd)) ho.2) x h;obtain⟨b,vs,h1,h2,h3,h4⟩:=hy;exact⟨b,vs,by rw[show j=j+0 from rfl,he 0 c rfl]; exact h1,N1 (n:=0) (fun k hk=>absurd hk (Nat.not_lt_zero k)) ho.1 h2,h3,h4⟩
theorem Ah3 {η η':Env}{m:Mem}: ∀{C D:List Vo} {j:Nat},(∀(i:Nat) (c:Vo),C[i]? =some c→∀v,η' (j+i)=some v→η c.nb=some v)→(C.all fun c=>c.a.all (okA 0))=true→
  ∀x,sepL ((capO j C).map (rep η' m)) x→sepL ((AaT C).map fun p=>rep η m p.2) x
 | [],_,_,_,_,x,h=>h
 |c::r,D,j,he,ho,x,h=>by
  simp only[AlQ,AkZ]at ho;refine Abx (fun y hy=> ?_) (Ah3 (D:=D) (j:=j+1) (fun i d hd v hv=>he (i+1) d (by simpa using hd) v (by rw[show j+(i+1)=j+1+i from by omega]; exact hv)) ho.2) x h;obtain⟨b,vs,h1,h2,h3,h4⟩:=hy;exact⟨b,vs,he 0 c rfl _ h1,N1 (n:=0) (fun k hk=>absurd hk (Nat.not_lt_zero k)) ho.1 h2,h3,h4⟩
theorem Yy {A:Ow}: ∀{l:List Ow} {x:PH},A∈l→sepL l x→∃y,A y
 | [],_,h,_=>by cases h
 |B::l,x,h,⟨k1,k2,a,s,_,_⟩=>by
  rcases Als.1 h with rfl|h
  ·exact⟨k1,a⟩
  ·exact Yy h s
theorem AeU {A B C D:List Ow}(h1: ∀x,sepL A x→sepL C x)(h2: ∀x,sepL B x→sepL D x)(x:PH)(h:sepL (A++B) x):sepL (C++D) x:=by
 obtain⟨k1,k2,s1,s2,dd,rfl⟩:=Mx h;exact OA (h1 _ s1) (h2 _ s2) dd
section
variable {P:Program}{N:Nat}{D0:Dw}{Q:D6}{As:List Ow}{η0:Env}{m0:Mem}
theorem MP (hD:D0.2.2=false){n0:Nat}(n1 nx:Nat)(C:List Vo){cf:Cf}{ι κ α:Type}{gt:Nat}{ps:List Nat}{gf:FuncId}{cs:List AV}{r0:AV}(sl0:Sl)(oJ:ι→List Tok)(oK:κ→List Tok)
  (A:α→List AV) (sB:ι→α→AS) (p:ι→α→Option (ι⊕κ)) (x0:ι) {s1:ι⊕κ} (hd: ∀n,η0 n≠none→n<n0)
  (hs: ∀(g:Value) (R:(ι⊕κ)→Mem→Ow),ZD P g A R (Xa p)→Sp P gf (.ow 0::cs) (.hp 0 (.cb g (ι⊕κ) R (.inl x0))::capI 1 C) (C.length+1) (is r0 (.hp 0 (.cb g (ι⊕κ) R s1)::capO 1 C) (C.length+1)))
  (hsl:get sl0 gt= .fn (.func gf) [] (cs.map (capR C))) (hAl: ∀a,ps.length=(A a).length)
  (hJ: ∀x,(XC (tids (oJ x))&&V7 nx (tids (oJ x)))=true) (hJC: ∀x,(XC (tids (oJ x++AaT C))&&V7 nx (tids (oJ x++AaT C)))=true) (hK: ∀y,(XC (tids (oK y++AaT C))&&V7 nx (tids (oK y++AaT C)))=true)
  (hA: ∀x a s',p x a=some s'→∀l D0 As η0 m0,(∀n,η0 n≠none→n<n1)→∀Jp,Bk As η0 m0 (fun _:Unit=>sB x a) (fun _=>True) Jp→Go (some l) P N D0 (retQ fun _ _=>False) As η0 m0 (asgC (aC P N cf) ⟨slz N sl0 ps (A a),oJ x,[],nx⟩ Jp))
  (hB: ∀x a s',p x a=some s'→∀l D0 As η0 m0,(∀n,η0 n≠none→n<n1)→∀Jp,Bk As η0 m0 (fun y=>⟨sl0,oJ y,[],nx⟩) (fun y=>s'= .inl y) Jp→∀Jr,Bk As η0 m0 (fun y=>⟨sl0,oK y,[],nx⟩) (fun y=>s'= .inr y) Jr→
   Go (some l) P N D0 (retQ Jr) As η0 m0 (bodC (aC P N cf) (sB x a) Jp))
  (h1: ∀x,s1= .inl x→Go none P N D0 Q As η0 m0 ⟨⟨sl0,oJ x++AaT C,[],nx⟩,.pop,(aC P N cf).K⟩)
  (h2: ∀y,s1= .inr y→Go none P N D0 Q As η0 m0 ⟨⟨sl0,oK y++AaT C,[],nx⟩,.ret,(aC P N cf).K⟩)
  (e:(rgK (aC P N cf),vwL (aC P N cf).s ⟨sl0,oJ x0++AgI C,[],nx⟩ n0,(vwP (aC P N cf).s ⟨sl0,oJ x0++AgI C,[],nx⟩).isSome,bL P N cf)=(some (gt,ps),vwR (aC P N cf).s ⟨sl0,oJ x0++AgI C,[],nx⟩,true,bR P N cf):=by kernel_rfl)
  (hok:(cs.all (capK C)&&((sl0.map (·.2)).all (okA n1)&&(Nat.ble n0 n1&&capF n1 C)))=true:=by kernel_rfl) (hm:P.follows .mixedOrders=true:=by rfl):Go none P N D0 Q As η0 m0 cf:=by
 simp only[Ak0]at e;obtain⟨e1,e2,e4,e3⟩:=e;refine A3 hm (.of e3) ?_;generalize aC P N cf=c0 at*;obtain⟨s,md,K⟩:=c0;unfold rgK at e1;split at e1
 ·rename_i g' ps' asg bo hmd;simp only at hmd; subst hmd;simp only[Ak4,Ak0]at e1;obtain⟨rfl,rfl⟩:=e1;simp only[AkZ]at hok;obtain⟨o1,o2,o3,o4⟩:=hok;have o3:=Ald o3;have o4': ∀c∈C,c.nb<n1∧c.b.all (okA 0)=true∧c.a.all (okA 0)=true:=fun c hc=>by
   have:=Alj.1 o4 c hc;simp only[AkZ]at this;exact⟨Db this.1,this.2.1,this.2.2⟩
  intro η m f w a1 a2 g;obtain⟨η1,m1,l1,le1,g1⟩:=Ue e2 e4 hd a1 g;have hfn:Rel η1 m1 (get sl0 g') (f g'):=g1.slr g';rw[hsl]at hfn;obtain⟨us,caps,hv,hu,hc⟩:=hfn.fn_inv;have:=hu.nil_inv; subst this;have he: ∀k,k<n1→Aew η1 n1 k=η1 k:=fun k hk=>Ak3 hk;have hslc: ∀t,Rel (Aew η1 n1) m1 (get sl0 t) (f t):=fun t=>UD he (Adm o2 t) (g1.slr t);have hle:η0.le (Aew η1 n1):=fun k v hk=>by
   unfold Aew; rw[Ak3 (Al7 (hd k (by rw[hk]; simp)) o3)]; exact le1 k v hk
  have hdc: ∀n,Aew η1 n1 n≠none→n<n1:=fun k hk=>by
   unfold Aew at hk;split at hk
   ·assumption
   ·exact absurd rfl hk
  have hce:(Aew η1 n1).le η1:=fun k v hk=>by
   unfold Aew at hk;split at hk
   ·exact hk
   ·cases hk
  have eg: ∀(args:Array Value) w,(callFunc gf args).run P w= .ok (.enter gf args) w:=
   (hs undef (fun _ _ _=>False) (fun s x r _ m vs As w _ S=>by
    obtain⟨h,⟨h1,h2,⟨_,_,ff⟩,_⟩,_⟩:=S.own;exact ff.elim)).1
  have hps:ps'.toList.toArray=ps':=by simp
  rw[←hps];have gst:St m1 (reps η1 m1 (oJ x0)++As++(AgI C).map fun p=>rep η1 m1 p.2) w:=by
   have:=g1.st;rw[show(⟨sl0,oJ x0++AgI C,[],nx⟩:AS).ob=oJ x0++AgI C from rfl,BC,Alb]at this;refine this.perm ?_;rw[Alb];exact Alu _ List.perm_append_comm
  have hnb: ∀c∈C,∃b,η1 c.nb=some (pt b 0):=fun c hc=>by
   obtain⟨x,hx,_⟩:=gst.own;obtain⟨y,b,vs,hb,_⟩:=Yy (A:=rep η1 m1 (.box c.nb c.b c.t)) (List.mem_append_right _ (List.mem_map.2 ⟨_,List.mem_map.2 ⟨c,hc,rfl⟩,rfl⟩)) hx;exact⟨b,hb⟩
  refine TL gst (show ev f (.tmp g')=_ from hv) eg (fun l i w1 hi S1=> ?_) hD;have hcb:ZD P (.func (.yield l) #[] #[]) A (rgR l i oJ oK As (Aew η1 n1) m1 nx) (Xa p):=rg_cb hi hdc hslc hAl hJ (fun x a s' h l D0 As η0 m0 hd=>hA x a s' h l D0 As η0 m0 hd _ ⟨fun _ _ h=>h⟩) (fun x a s' h l D0 As η0 m0 hd=>hB x a s' h l D0 As η0 m0 hd _ ⟨fun _ _ h=>h⟩ _ ⟨fun _ _ h=>h⟩);have hE: ∀(j:Nat) (c:Vo),C[j]? =some c→capE η1 (.func (.yield l) #[] #[]) C (j+1)=η1 c.nb:=fun j c h=>by
   show(match C[j]? with|some c=>η1 c.nb|none=>none)=_;rw[h]
  have sp:=(hs _ _ hcb).2 (capE η1 (.func (.yield l) #[] #[]) C) m1 [] w1 (.func (.yield l) #[] #[]::caps) (BX.cons (.ow rfl rfl) (AkE hE o1 hc))
   (fun k hk=>by
    cases k with
    |zero=>omega
    |succ j=>
     by_cases hj:j<C.length
     ·omega
     ·exact absurd (show(match C[j]? with|some c=>η1 c.nb|none=>none)=none from by rw[List.getElem?_eq_none (by omega)]) hk)
   (by
    obtain⟨x,hx,hr⟩:=S1.own;refine⟨S1.os,S1.tape,S1.output,x,?_,hr⟩;rw[AlB];have hx':sepL ([fun h=>sepL (Lp l i .ready none::(reps η1 m1 (oJ x0)++As)) h]++(AgI C).map fun p=>rep η1 m1 p.2) x:=by
     have hx:sepL ((Lp l i .ready none::(reps η1 m1 (oJ x0)++As))++(AgI C).map fun p=>rep η1 m1 p.2) x:=hx;obtain⟨k1,k2,s1,s2,dd,rfl⟩:=Mx hx;exact OA (Yx s1) s2 dd
    show sepL ([rep (capE η1 (.func (.yield l) #[] #[]) C) m1 (AObj.hp 0 (.cb (.func (.yield l) #[] #[]) (ι⊕κ) (rgR l i oJ oK As (Aew η1 n1) m1 nx) (.inl x0)))]++(capI 1 C).map (rep (capE η1 (.func (.yield l) #[] #[]) C) m1)) x;exact AeU (fun y hy=>by
     have hy:=Abw hy;exact Yx ⟨0,rfl,m1,Mem.rfl' m1,η1,hce,Mem.rfl' m1,fun n hn=>g1.dom n hn,hy⟩) (capIn (D:=C) (j:=1) (fun i c h=>by rw[Al9]; exact hE i c h) (Alj.2 fun c hc=>(o4' c hc).2.1)) x hx')
  refine sp.mono ?_;rintro v w2 ⟨M,η2,r,obs',n2,l2,le2,⟨rfl,rfl,rfl⟩,dom2,rr,S2⟩;obtain⟨x,hx,hr⟩:=S2.own;rw[AlB]at hx;obtain⟨k1,k2,⟨b,hb,M0,lM,η3,c1,c2,c3,c4⟩,s2,dd,rfl⟩:=hx;have hn3: ∀c∈C,∀v,η1 c.nb=some v→η3 c.nb=some v:=fun c hc v hv=>c1 _ _ (by rw[he _ (o4' c hc).1]; exact hv);have s3:=Ah3 (η:=η3) (D:=C) (j:=1) (fun i c h v hv=>by
   have hc:=AlC h;cases hq:η1 c.nb with
   |none=>
    obtain⟨b,hb⟩:=hnb c hc;rw[hb]at hq; cases hq
   |some u=>
    have:=le2 (i+1) u (by rw[hE i c h]; exact hq);rw[Al9]at hv;rw[this]at hv;rw[←AkY hv]; exact hn3 c hc u hq) (Alj.2 fun c hc=>(o4' c hc).2.2) k2 s2
  have S3:St M (Lp l i (rgSt s1).1 (rgSt s1).2::(reps η3 M0 (rgOb oJ oK s1)++As++(AaT C).map fun p=>rep η3 M p.2)) w2:=by
   refine⟨S2.os,S2.tape,S2.output,_,?_,hr⟩;have:=OA c4 s3 dd;exact this
  refine⟨M,(rgSt s1).1,(rgSt s1).2,_,l2,(by cases s1<;>exact fun h=>(by cases h)),S3,fun M' w3 lM' S4=> ?_⟩;have S4a:St M' (reps η3 M0 (rgOb oJ oK s1)++(As++(AaT C).map fun p=>rep η3 M p.2)) w3:=by rw[←Alb]; exact S4
  have S4b:=St.ru Env.le_refl (Mem.tr lM lM') S4a;have S4c:St M' (reps η3 M (AaT C)++(reps η3 M' (rgOb oJ oK s1)++As)) w3:=S4b.perm (by
   rw[←Alb]; exact List.perm_append_comm)
  have S5:St M' (reps η3 M' (rgOb oJ oK s1++AaT C)++As) w3:=(St.ru Env.le_refl lM' S4c).perm (by
   rw[BC,Alb];exact Ale _ _ _)
  have lm:m0≤M':=Mem.tr a2 (Mem.tr l1 (Mem.tr l2 lM'));have hsr: ∀t,Rel η3 M' (get sl0 t) (f t):=fun t=>(hslc t).up c1 (Mem.tr l2 lM');cases s1 with
  |inl x1=>
   have hj:=hJC x1;simp only[AkZ]at hj;exact h1 x1 rfl η3 M' f w3 (Env.le_tr hle c1) lm ⟨hsr,fun n d h=>(by cases h),c3,S5,IS hj.1,fun t ht=>ON hj.2 t ht⟩
  |inr y=>
   have hj:=hK y;simp only[AkZ]at hj;have gr:=Rr hm (cf:=⟨⟨sl0,oK y++AaT C,[],nx⟩,.code .ret,K⟩) rfl trivial (h2 y rfl);exact gr η3 M' f w3 (Env.le_tr hle c1) lm ⟨hsr,fun n d h=>(by cases h),c3,S5,IS hj.1,fun t ht=>ON hj.2 t ht⟩
 ·cases e1
end
def pN {σ α:Type}(b:α→σ→Option σ)(s:σ)(x:α):Option (σ⊕Unit):=(b x s).map .inl
def fJ {σ:Type}(z:σ×Nat):σ⊕(σ×Nat):=if z.2=0 then .inl z.1 else .inr z
def pJ {σ α:Type}(b:α→σ×Nat→Option (σ×Nat))(s:σ)(x:α):Option (σ⊕(σ×Nat)):=(b x (s,0)).map fJ
theorem hyN {σ α:Type}{b:α→σ→Option σ}: ∀(s:σ) (x:α) (r:Bool×σ),(fun(s:σ) (x:α)=>Ab (b x s) fun y=>some (true,y)) s x=some r→Xa (pN b) (.inl s) x=some (r.1,.inl r.2):=fun s x r h=>by
 obtain⟨y,hy,h⟩:=Ae h;cases h;show((b x s).map Sum.inl).map _=_;rw[hy]; rfl
theorem hyJ {σ α:Type}{b:α→σ×Nat→Option (σ×Nat)}: ∀(s:σ×Nat) (x:α) (r:Bool×(σ×Nat)),(fun(s:σ×Nat) (x:α)=>if s.2=0 then Ab (b x s) fun y=>some (y.2==0,y)else none) s x=some r→Xa (pJ b) (fJ s) x=some (r.1,fJ r.2):=fun s x r h=>by
 obtain⟨s1,k⟩:=s;by_cases hk:k=0
 ·subst hk;have h:(Ab (b x (s1,0)) fun y=>some (y.2==0,y))=some r:=h;obtain⟨y,hy,h⟩:=Ae h;cases h;show((b x (s1,0)).map fJ).map _=_;rw[hy];obtain⟨y1,k⟩:=y;show some (isL (fJ (y1,k)),fJ (y1,k))=some (k==0,fJ (y1,k));unfold fJ;by_cases hk:k=0
  ·subst hk; rfl
  ·rw[Ak1 (show¬(y1,k).2=0 from hk)];have:(k==0)=false:=by simpa using hk
   rw[this]; rfl
 ·have h:(if k=0 then _ else none)=some r:=h;rw[Ak1 hk]at h; cases h
theorem Zg {σ:Type}{z:σ×Nat}{x:σ}(h:fJ z= .inl x):z.2=0∧z.1=x:=by
 unfold fJ at h;split at h
 ·rename_i hz; exact⟨hz,Sum.inl.inj h⟩
 ·cases h
theorem Zf {σ:Type}{z y:σ×Nat}(h:fJ z= .inr y): ¬z.2=0∧z=y:=by
 unfold fJ at h;split at h
 ·cases h
 ·rename_i hz; exact⟨hz,Sum.inr.inj h⟩
section
variable {P:Program}
theorem via {τ ι κ α:Type}{A:α→List AV}{y:τ→α→Option (Bool×τ)}{p:ι→α→Option (ι⊕κ)}(f:τ→ι⊕κ){gf:FuncId}{args:List AV}{O O':List AObj}{n:Nat}{r0:AV}{t0 t1:τ}{x0:ι}
  (hy: ∀s x r,y s x=some r→Xa p (f s) x=some (r.1,f r.2)) (h0:f t0= .inl x0)
  (hs: ∀(g:Value) (R:τ→Mem→Ow),ZD P g A R y→Sp P gf args (.hp 0 (.cb g τ R t0)::O) n (is r0 (.hp 0 (.cb g τ R t1)::O') n)) (g:Value) (R:(ι⊕κ)→Mem→Ow) (hc:ZD P g A R (Xa p)):
  Sp P gf args (.hp 0 (.cb g (ι⊕κ) R (.inl x0))::O) n (is r0 (.hp 0 (.cb g (ι⊕κ) R (f t1))::O') n):=by
 have h:=hs g (fun s=>R (f s)) (fun s x r h m vs As w hv S=>hc (f s) x (r.1,f r.2) (hy s x r h) m vs As w hv S);rw[←h0];refine⟨h.1,fun η m As w vs hv hd S=> ?_⟩;refine(h.2 η m As w vs hv hd S).mono ?_;rintro v w' ⟨M,η',r,obs',n',l,le,⟨rfl,rfl,rfl⟩,dom,rr,S'⟩;exact⟨M,η',_,_,_,l,le,⟨rfl,rfl,rfl⟩,dom,rr,S'⟩
end
section
variable {P:Program}{ρ:Option Nat}{N:Nat}{D0:Dw}{Q:D6}{As:List Ow}{η0:Env}{m0:Mem}{cf:Cf}{n0:Nat}{σ τ α:Type}
def Nx (As:List Ow)(η0:Env)(m0:Mem)(J:σ→AS)(b:σ→Option (σ⊕τ))(x:τ)(Jl:Fr→World→Prop)(y:σ⊕τ):Prop:= ∃n,Bk As η0 m0 (fun p:Nat×σ=>J p.2) (fun p=>iter b p.1 p.2=some x∧p.1<n+1) Jl∧((∃s,y= .inl s∧iter b n s=some x)∨y= .inr x)
theorem gI {b:σ→Option (σ⊕τ)}{n:Nat}{s0:σ}{x:τ}(q:iter b n s0=some x)(J:σ→AS)(h: ∀s y Jl,b s=some y→Nx As η0 m0 J b x Jl y→Go ρ P N D0 Q As η0 m0 (rndC (aC P N cf) (J s) Jl))(hd: ∀n,η0 n≠none→n<n0:=by assumption)
  (e:((Y0 (aC P N cf)).isSome,vwL (aC P N cf).s (J s0) n0,(vwP (aC P N cf).s (J s0)).isSome,bL P N cf)=(true,vwR (aC P N cf).s (J s0),true,bR P N cf):=by kernel_rfl) (hM:P.follows .mixedOrders=true:=by rfl):
  Go ρ P N D0 Q As η0 m0 cf:=
 gl hd (fun p:Nat×σ=>J p.2) (fun p=>iter b p.1 p.2=some x) (fun p=>p.1) (n,s0) q (by
  rintro⟨n,s⟩ hq Jl bl;cases n with
  |zero=>exact(Ac2 hq).elim
  |succ n=>obtain⟨y,h1,h2⟩:=Wd hq; exact h s y Jl h1 ⟨n,bl,h2⟩) e hM
theorem gN {J:σ→AS}{b:σ→Option (σ⊕τ)}{x:τ}{Jl:Fr→World→Prop}{y:σ⊕τ}{s:σ}(nx:Nx As η0 m0 J b x Jl y)(q:some (Sum.inl s)=some y)(hd: ∀n,η0 n≠none→n<n0:=by assumption)
  (e:(AaH (aC P N cf),vwL (aC P N cf).s (J s) n0,(vwP (aC P N cf).s (J s)).isSome,bL P N cf)=(some Jl,vwR (aC P N cf).s (J s),true,bR P N cf):=by kernel_rfl) (hM:P.follows .mixedOrders=true:=by rfl):
  Go ρ P N D0 Q As η0 m0 cf:=by
 cases q; obtain⟨n,bl,h⟩:=nx;rcases h with ⟨s',hs,h⟩|h
 ·cases hs; exact gb bl hd (n,_) ⟨h,Ali _⟩ e hM
 ·cases h
theorem nR {J:σ→AS}{b:σ→Option (σ⊕τ)}{x v:τ}{Jl:Fr→World→Prop}{y:σ⊕τ}(nx:Nx As η0 m0 J b x Jl y)(q:some (Sum.inr v)=some y):v=x:=by
 cases q; obtain⟨n,-,⟨s,h,-⟩|h⟩:=nx
 ·cases h
 ·cases h; rfl
structure Pr (σ:Type) where
 n:Nat
 p:Nat→σ→Prop
def E0 (b:Int→α→σ→Option σ)(xs:List α)(x:σ):Pr σ:=⟨xs.length,fun i s=>D1 b (xs.drop i) i s=some x⟩
def ER (b:Int→α→σ→Option (σ⊕τ))(xs:List α)(x:σ⊕τ):Pr σ:=⟨xs.length,fun i s=>DO b (xs.drop i) i s=some x⟩
def EM (b:Int→σ→Option σ)(n:Nat)(x:σ):Pr σ:=⟨n,fun i s=>CX b (n-i) i s=some x⟩
def EN (b:Int→σ→Option (σ⊕τ))(n:Nat)(x:σ⊕τ):Pr σ:=⟨n,fun i s=>B7 b (n-i) i s=some x⟩
def Ng (As:List Ow)(η0:Env)(m0:Mem)(J:Int→σ→AS)(r:Pr σ)(Jl:Fr→World→Prop)(i:Nat):Prop:=i<r.n∧Bk As η0 m0 (fun p:Int×σ=>J p.1 p.2) (fun p=>(∃i:Nat,p.1=(i:Int)∧i≤r.n∧r.p i p.2)∧r.n-p.1.toNat<r.n-((i:Int)).toNat) Jl
def Nf (As:List Ow)(η0:Env)(m0:Mem)(J:Int→σ→AS)(r:Pr σ)(Jl:Fr→World→Prop)(i:Nat)(s:σ):Prop:=r.p i s∧(i<r.n→Ng As η0 m0 J r Jl i)
theorem gF (r:Pr σ){s0:σ}(q:r.p 0 s0)(J:Int→σ→AS)(h: ∀(i:Nat) s Jl,Nf As η0 m0 J r Jl i s→Go ρ P N D0 Q As η0 m0 (rndC (aC P N cf) (J i s) Jl))(hd: ∀n,η0 n≠none→n<n0:=by assumption)
  (e:((Y0 (aC P N cf)).isSome,vwL (aC P N cf).s (J 0 s0) n0,(vwP (aC P N cf).s (J 0 s0)).isSome,bL P N cf)=(true,vwR (aC P N cf).s (J 0 s0),true,bR P N cf):=by kernel_rfl) (hM:P.follows .mixedOrders=true:=by rfl):
  Go ρ P N D0 Q As η0 m0 cf:=
 gl hd (fun p:Int×σ=>J p.1 p.2) (fun p=> ∃i:Nat,p.1=(i:Int)∧i≤r.n∧r.p i p.2) (fun p=>r.n-p.1.toNat) (0,s0) ⟨0,rfl,Ama _,q⟩ (by
  rintro⟨_,s⟩ ⟨i,rfl,hi,h1⟩ Jl bl;exact h i s Jl ⟨h1,fun hl=>⟨hl,bl⟩⟩) e hM
theorem gG {J:Int→σ→AS}{r:Pr σ}{Jl:Fr→World→Prop}{i:Nat}{s:σ}(ng:Ng As η0 m0 J r Jl i)(hn:r.n≤9223372036854775807)(q:r.p (i+1) s)(hd: ∀n,η0 n≠none→n<n0:=by assumption)
 (e:(AaH (aC P N cf),vwL (aC P N cf).s (J (w64 ((i:Int)+1)) s) n0,(vwP (aC P N cf).s (J (w64 ((i:Int)+1)) s)).isSome,bL P N cf)=(some Jl,vwR (aC P N cf).s (J (w64 ((i:Int)+1)) s),true,bR P N cf):=by kernel_rfl) (hM:P.follows .mixedOrders=true:=by rfl):
 Go ρ P N D0 Q As η0 m0 cf:=gb ng.2 hd (w64 ((i:Int)+1),s) ⟨⟨i+1,Ym ng.1 hn,ng.1,q⟩,mu_lt ng.1 hn⟩ e hM
theorem gC {J:Int→σ→AS}{r:Pr σ}{Jl:Fr→World→Prop}{i:Nat}{s:σ}(nf:Nf As η0 m0 J r Jl i s)(t:Int)(ht:(i:Int)<t↔i<r.n)(h1:i<r.n→Ng As η0 m0 J r Jl i→r.p i s→Go ρ P N D0 Q As η0 m0 (way true (aC P N cf)))(h0: ¬i<r.n→r.p i s→Go ρ P N D0 Q As η0 m0 (way false (aC P N cf)))
 (e:(RW (aC P N cf),bL P N cf)=(some (decide ((i:Int)<t)),bR P N cf):=by kernel_rfl) (hM:P.follows .mixedOrders=true:=by rfl):
 Go ρ P N D0 Q As η0 m0 cf:=gi' (fun h=>have h:=ht.1 (AlW h); h1 h (nf.2 h) nf.1) (fun h=>h0 (fun h'=>of_decide_eq_false h (ht.2 h')) nf.1) e hM
theorem c0 {b:Int→α→σ→Option σ}{xs:List α}{x:σ}{J:Int→σ→AS}{Jl:Fr→World→Prop}{i:Nat}{s:σ}(nf:Nf As η0 m0 J (E0 b xs x) Jl i s)(h1: ∀z y,idx xs i=some z→b i z s=some y→Ng As η0 m0 J (E0 b xs x) Jl i∧(E0 b xs x).p (i+1) y→Go ρ P N D0 Q As η0 m0 (way true (aC P N cf)))(h0:x=s→Go ρ P N D0 Q As η0 m0 (way false (aC P N cf)))
 (e:(RW (aC P N cf),bL P N cf)=(some (decide ((i:Int)<(xs.length:Int))),bR P N cf):=by kernel_rfl) (hM:P.follows .mixedOrders=true:=by rfl):
 Go ρ P N D0 Q As η0 m0 cf:=gC nf _ Int.ofNat_lt (fun hl ng q=>let ⟨z,y,a,b,c⟩:=Agz q hl; h1 z y a b ⟨ng,c⟩) (fun hl q=>h0 (AdB q hl)) e hM
theorem cR {b:Int→α→σ→Option (σ⊕τ)}{xs:List α}{x:σ⊕τ}{J:Int→σ→AS}{Jl:Fr→World→Prop}{i:Nat}{s:σ}(nf:Nf As η0 m0 J (ER b xs x) Jl i s)(h1: ∀z y,idx xs i=some z→b i z s=some y→Ng As η0 m0 J (ER b xs x) Jl i∧((∃s',y= .inl s'∧(ER b xs x).p (i+1) s')∨(∃t,y= .inr t∧x= .inr t))→Go ρ P N D0 Q As η0 m0 (way true (aC P N cf)))(h0: .inl s=x→Go ρ P N D0 Q As η0 m0 (way false (aC P N cf)))
 (e:(RW (aC P N cf),bL P N cf)=(some (decide ((i:Int)<(xs.length:Int))),bR P N cf):=by kernel_rfl) (hM:P.follows .mixedOrders=true:=by rfl):
 Go ρ P N D0 Q As η0 m0 cf:=gC nf _ Int.ofNat_lt (fun hl ng q=>let ⟨z,y,a,b,c⟩:=Agv q hl; h1 z y a b ⟨ng,c⟩) (fun hl q=>h0 (Ady q hl).symm) e hM
theorem cM {b:Int→σ→Option σ}{n:Nat}{x:σ}{J:Int→σ→AS}{Jl:Fr→World→Prop}{i:Nat}{s:σ}(nf:Nf As η0 m0 J (EM b n x) Jl i s)(t:Int)(h1: ∀y,b i s=some y→Ng As η0 m0 J (EM b n x) Jl i∧(EM b n x).p (i+1) y→Go ρ P N D0 Q As η0 m0 (way true (aC P N cf)))(h0:x=s→Go ρ P N D0 Q As η0 m0 (way false (aC P N cf)))
 (e:(RW (aC P N cf),bL P N cf)=(some (decide ((i:Int)<t)),bR P N cf):=by kernel_rfl) (ht:(i:Int)<t↔i<n:=by first|omega|exact Int.lt_toNat.symm) (hM:P.follows .mixedOrders=true:=by rfl):
 Go ρ P N D0 Q As η0 m0 cf:=gC nf t ht (fun hl ng q=>let ⟨y,b,c⟩:=AdA q hl; h1 y b ⟨ng,c⟩) (fun hl q=>h0 (Aat q hl)) e hM
theorem cN {b:Int→σ→Option (σ⊕τ)}{n:Nat}{x:σ⊕τ}{J:Int→σ→AS}{Jl:Fr→World→Prop}{i:Nat}{s:σ}(nf:Nf As η0 m0 J (EN b n x) Jl i s)(t:Int)(h1: ∀y,b i s=some y→Ng As η0 m0 J (EN b n x) Jl i∧((∃s',y= .inl s'∧(EN b n x).p (i+1) s')∨(∃t,y= .inr t∧x= .inr t))→Go ρ P N D0 Q As η0 m0 (way true (aC P N cf)))(h0: .inl s=x→Go ρ P N D0 Q As η0 m0 (way false (aC P N cf)))
 (e:(RW (aC P N cf),bL P N cf)=(some (decide ((i:Int)<t)),bR P N cf):=by kernel_rfl) (ht:(i:Int)<t↔i<n:=by first|omega|exact Int.lt_toNat.symm) (hM:P.follows .mixedOrders=true:=by rfl):
 Go ρ P N D0 Q As η0 m0 cf:=gC nf t ht (fun hl ng q=>let ⟨y,b,c⟩:=Agw q hl; h1 y b ⟨ng,c⟩) (fun hl q=>h0 (Adz q hl).symm) e hM
theorem gM {J:Int→σ→AS}{r:Pr σ}{Jl:Fr→World→Prop}{i:Nat}{s y:σ}(ng:Ng As η0 m0 J r Jl i∧r.p (i+1) y)(hn:r.n≤9223372036854775807)(q:some s=some y)(hd: ∀n,η0 n≠none→n<n0:=by assumption)
 (e:(AaH (aC P N cf),vwL (aC P N cf).s (J (w64 ((i:Int)+1)) s) n0,(vwP (aC P N cf).s (J (w64 ((i:Int)+1)) s)).isSome,bL P N cf)=(some Jl,vwR (aC P N cf).s (J (w64 ((i:Int)+1)) s),true,bR P N cf):=by kernel_rfl) (hM:P.follows .mixedOrders=true:=by rfl):
 Go ρ P N D0 Q As η0 m0 cf:=gG ng.1 hn (by cases q; exact ng.2) hd e hM
theorem gT {J:Int→σ→AS}{r:Pr σ}{Jl:Fr→World→Prop}{i:Nat}{s:σ}{x y:σ⊕τ}(ng:Ng As η0 m0 J r Jl i∧((∃s',y= .inl s'∧r.p (i+1) s')∨(∃t,y= .inr t∧x= .inr t)))(hn:r.n≤9223372036854775807)(q:some (Sum.inl s)=some y)(hd: ∀n,η0 n≠none→n<n0:=by assumption)
 (e:(AaH (aC P N cf),vwL (aC P N cf).s (J (w64 ((i:Int)+1)) s) n0,(vwP (aC P N cf).s (J (w64 ((i:Int)+1)) s)).isSome,bL P N cf)=(some Jl,vwR (aC P N cf).s (J (w64 ((i:Int)+1)) s),true,bR P N cf):=by kernel_rfl) (hM:P.follows .mixedOrders=true:=by rfl):
 Go ρ P N D0 Q As η0 m0 cf:=gG ng.1 hn (by
  cases q; obtain⟨-,⟨s',h,h2⟩|⟨t,h,-⟩⟩:=ng
  ·cases h; exact h2
  ·cases h) hd e hM
theorem nT {A:Prop}{p:σ→Prop}{v:τ}{x y:σ⊕τ}(ng:A∧((∃s',y= .inl s'∧p s')∨(∃t,y= .inr t∧x= .inr t)))(q:some (Sum.inr v)=some y): .inr v=x:=by
 cases q; obtain⟨-,⟨s',h,-⟩|⟨t,h,h2⟩⟩:=ng
 ·cases h
 ·cases h; exact h2.symm
theorem gE {fn:Func}{n1:Nat}{er:AV}{eobs:List AObj}(hd: ∀n,η0 n≠none→n<n0:=by assumption)
 (e:(endL P fn (aC P N cf) er eobs n0 n1,(Akk P fn (aC P N cf) er eobs).isSome,bL P N cf)=(endR P fn (aC P N cf) er eobs,true,bR P N cf):=by kernel_rfl) (hM:P.follows .mixedOrders=true:=by rfl):
 Go ρ P N D0 (Aac P N fn (Qq As η0 m0 (is er eobs n1))) As η0 m0 cf:=gend hd e hM
theorem bE {β γ:Type}{a:β}{k:β→γ}{z:γ}{G:Prop}(q:bnd a k=z)(g:let x:=a; k x=z→G):G:=g q
theorem gx {xs:List α}{j:Int}{x:α}(E:α→List D)(k:Nat)(q:idx xs j=some x)(g:Go ρ P N D0 Q As η0 m0 (CU N (aC P N cf) (.d (.pf (E x))) (idxT P (aC P N cf))))
 (e:((AjM P (aC P N cf)).map (fun r=>(r.1,r.2.1,r.2.2.1)),aL P N cf)=(some (.sl α E xs,j,k),aR P N cf):=by kernel_rfl) (hE: ∀x,(E x).length=k:=by intro x; rfl) (hM:P.follows .mixedOrders=true:=by rfl):Go ρ P N D0 Q As η0 m0 cf:=gidx hE (fun _=>q) g e hM
theorem gxG [Inhabited α]{c:Bool}{xs:List α}{j:Int}{x:α}(E:α→List D)(k:Nat)(q:gu c (idx xs j)=some x)(g:Go ρ P N D0 Q As η0 m0 (CU N (aC P N cf) (.d (.pf (E x))) (idxT P (aC P N cf))))
 (e:(gOf (aC P N cf),(AjM P (aC P N cf)).map (fun r=>(r.1,r.2.1,r.2.2.1)),aL P N cf)=(c,some (.sl α E xs,j,k),aR P N cf):=by kernel_rfl) (hE: ∀x,(E x).length=k:=by intro x; rfl) (hM:P.follows .mixedOrders=true:=by rfl):Go ρ P N D0 Q As η0 m0 cf:=gidxG hE (fun h=>Aes h q) g e hM
theorem gk {xs ys:List α}{lo hi:Int}(E:α→List D)(k:Nat)(q:cut xs lo hi=some ys)(g:Go ρ P N D0 Q As η0 m0 (CU N (aC P N cf) (.d (.sl α E ys)) (cutT P (aC P N cf))))
 (e:((cutK P (aC P N cf)).map (fun r=>(r.1,r.2.1,r.2.2.1,r.2.2.2.1,r.2.2.2.2.1)),aL P N cf)=(some (.sl α E xs,lo,hi,hi,k),aR P N cf):=by kernel_rfl) (hE: ∀x,(E x).length=k:=by intro x; rfl) (hM:P.follows .mixedOrders=true:=by rfl):Go ρ P N D0 Q As η0 m0 cf:=gcut hE (fun _=>q) g e hM
theorem gp {b:Nat}{xs ys zs:List α}(E:α→List D)(k:Nat)(q:app b xs ys=some zs)(g:Go ρ P N D0 Q As η0 m0 (push N (aC P N cf) (appS P (aC P N cf).s (aC P N cf) k α E zs)))
 (e:(appK P (aC P N cf),aL P N cf)=(some (.sl α E xs,.sl α E ys,b,k,true),aR P N cf):=by kernel_rfl) (hE: ∀x,(E x).length=k:=by intro x; rfl) (hM:P.follows .mixedOrders=true:=by rfl):Go ρ P N D0 Q As η0 m0 cf:=gapp hE q g e hM
theorem gq (E:α→List D)(k:Nat)(xs:List α)(g:Go ρ P N D0 Q As η0 m0 (CU N (aC P N cf) (.d (.sl α E xs)) []))
 (e:(litG P (aC P N cf),aL P N cf)=(some ((xs.flatMap E).map dv,xs.length,k,true),aR P N cf):=by kernel_rfl) (hE: ∀x,(E x).length=k:=by intro x; rfl) (hM:P.follows .mixedOrders=true:=by rfl):Go ρ P N D0 Q As η0 m0 cf:=glitF E xs hE g e hM
theorem gcH {β:Type} [Inhabited β]{c:Bool}{k:FuncId}{ea:List AV}{a:Option β}{x:β}{r:AV}(q:gu c a=some x)(hs:a=some x→Sf P k ea r)(g:Go ρ P N D0 Q As η0 m0 (N0 N (aC P N cf) r))
 (e:(gOf (aC P N cf),AaE (aC P N cf) ea,ea.all (okA 0),aL P N cf)=(c,some (k,ea),true,aR P N cf):=by kernel_rfl) (hM:P.follows .mixedOrders=true:=by rfl):Go ρ P N D0 Q As η0 m0 cf:=gcG (fun h=>hs (Aes h q)) g e hM
theorem gA {β γ:Type}{a:Option β}{kk:β→Option γ}{z:γ}(hq:Ab a kk=some z){k:FuncId}{ea:List AV}{R:β→AV}(hs: ∀{x},a=some x→Sf P k ea (R x))(g: ∀x,a=some x→kk x=some z→Go ρ P N D0 Q As η0 m0 (N0 N (aC P N cf) (R x)))
 (e:(AaE (aC P N cf) ea,ea.all (okA 0),aL P N cf)=(some (k,ea),true,aR P N cf):=by kernel_rfl) (hM:P.follows .mixedOrders=true:=by rfl):
 Go ρ P N D0 Q As η0 m0 cf:=gB hq (fun _=>hs) g e hM
theorem gD {β γ:Type}{a:Option β}{kk:β→Option γ}{z:γ}(hq:Ab a kk=some z){k:FuncId}{ea:List AV}{eobs:List AObj}{n1:Nat}{R:β→AV}{O:β→List AObj}(hs: ∀{x},a=some x→Sp P k ea eobs n0 (is (R x) (O x) n1))(g: ∀x,a=some x→kk x=some z→Go ρ P N D0 Q As η0 m0 (Ae9 N (aC P N cf) ea eobs n0 (R x) (O x) n1))
 (e: ∀x,(AgJ (aC P N cf) ea eobs n0,okA n1 (R x)&&((O x).all (okO n1)&&Nat.ble n0 n1),aL P N cf)=(some (k,(Ya (aC P N cf) ea eobs).1,(Ya (aC P N cf) ea eobs).2,true),true,aR P N cf):=by intro x; kernel_rfl) (hM:P.follows .mixedOrders=true:=by rfl):
 Go ρ P N D0 Q As η0 m0 cf:=gBo hq (fun _=>hs) g e hM
theorem lk {n:Nat}(h:Nat.ble n 9223372036854775807=true:=by rfl):n≤9223372036854775807:=Ald h
theorem sq {k:FuncId}{fn:Func}{c:Code}{args:List AV}{obs:List AObj}{Po:AV→List AObj→Nat→Prop}(h: ∀D0 As η0 m0,(∀n,η0 n≠none→n<n0)→Go none P N D0 (Aac P N fn (Qq As η0 m0 Po)) As η0 m0 ⟨SA args obs n0,.code c,[]⟩)(hf:P.funcs[k]? =some fn:=by rfl)(hb:fn.body=some c:=by rfl)(hN:fn.ntmps=N:=by rfl)(hc: ∀(a:Array Value) w,(callFunc k a).run P w= .ok (.enter k a) w:=by intros; rfl)(hle:Nat.ble args.length N=true:=by rfl):
 Sp P k args obs n0 Po:=sp hc hf hb hN hle h
end
def litB (P:Program)(cf:Cf):Option (TypeId×List AV×Nat):=
 match G4 cf with
 |some a=>match a.g,a.o.op with
  |none,.buildSlice t n parts=>match P.underlying t with
   |some (.slice e)=>match J2 P e with
    |some i=>match i.z with
     |some _=>bif Ag1 0 parts.toList&&(Nat.beq n parts.toList.length&&(Nat.ble n 16777216&&(Nat.beq i.sz 1&&(parts.toList.map fun p=>rv cf.s.fz a.sl p.2).all AV.cell)))
      then some (e,parts.toList.map fun p=>rv cf.s.fz a.sl p.2,n)else none
     |none=>none
    |none=>none
   |_=>none
  |_,_=>none
 |none=>none
def litS (P:Program)(cf:Cf):Stp:=match litB P cf with|some (e,cs,n)=>⟨.bs cf.s.nx 0 n n,[],[],[(cf.s.nx,.box cf.s.nx cs e)],cf.s.nx+1,[]⟩|none=>⟨.no,[],[],[],cf.s.nx,[]⟩
section
variable {P:Program}{ρ:Option Nat}{N:Nat}{D0:Dw}{Q:D6}{As:List Ow}{η0:Env}{m0:Mem}{cf:Cf}
theorem s_litB {ops:Array Oper}{rest:List Oper}{f:Fr}{w:World}{m:Mem}{dst:Option Nat}{ty t:TypeId}{pos:String}{af:Array Edge}{e:TypeId}{n:Nat}{z:Value}{parts:List Operand}{vs:List Value}(hS:St m As w)(ht:P.underlying t=some (.slice e))(hs: ∀w,(sizeOf e).run P w= .ok 1 w)(hz: ∀w,(zeroValue e).run P w= .ok z w)
  (hp:parts.map (ev f)=vs) (hv: ∀v∈vs,v.oneCell'=true) (hn:n=vs.length) (hb:n≤16777216)
  (h: ∀b w',St m (bx b vs e::As) w'→wpl ρ P N D0 ops rest Q (upo N f dst (.slice (some ⟨b,0,none⟩) n n)) w'):
  wpl ρ P N D0 ops (⟨dst,.buildSlice t n ((parts.zipIdx 0).map fun p=>(p.2,p.1)).toArray,ty,pos,af,none⟩::rest) Q f w:=by
 have hfl:(vs.flatMap fun v=>v.cells.toList)=vs:=by
  clear h hp hn;induction vs with
  |nil=>rfl
  |cons v vs ih=>simp[OI (hv v (by simp)),ih fun u hu=>hv u (by simp[hu])]
 have hr:=Nw (P:=P) (w:=w) ht hs hz (fun v hh=>by rw[OI (hv v hh)]; rfl) hn (by omega);have hm:(((parts.zipIdx 0).map fun p=>(p.2,p.1)).toArray.map fun(i,x)=>(i,ev f x))=((vs.zipIdx 0).map fun p=>(p.2,p.1)).toArray:=by
  subst hp;simp only[List.map_toArray,List.map_map];congr 1;have: ∀(l:List Operand) (k:Nat),(l.zipIdx k).map ((fun(x:Nat×Operand)=>match x with|(i,x)=>(i,ev f x))∘fun p=>(p.2,p.1))=((l.map (ev f)).zipIdx k).map fun p=>(p.2,p.1):=by
   intro l;induction l with
   |nil=>intro k; rfl
   |cons x l ih=>intro k; simp[ih]
  exact this parts 0
 refine AG (v:= .slice (some ⟨w.heap.size,0,none⟩) n n) (w':=w.alloc (.cells (vs.flatMap fun v=>v.cells.toList).toArray e)) rfl (fun _ e=>by cases e) ?_ (h w.heap.size _ ?_) (Kd.push _ _)
 ·simp only[execOp,hm,Alg,hr,Alc,Alf]
 ·have hS':=hS.push (.cells (vs.flatMap fun v=>v.cells.toList).toArray e) CM;rw[hfl]at hS'⊢;exact hS'
theorem AfH:LP cf.s (litS P cf):=by
 unfold litS; split
 ·exact⟨fun x hx=>by simp at hx,by simp[tids],by simp[tids],fun t ht=>by simp[tids]at ht; subst ht; exact⟨Ak6 _,Ali _⟩⟩
 ·exact UG
theorem gfs (g:Go ρ P N D0 Q As η0 m0 (push N (aC P N cf) (litS P (aC P N cf))))
  (e:((litB P (aC P N cf)).isSome,aL P N cf)=(true,aR P N cf):=by kernel_rfl) (hM:P.follows .mixedOrders=true:=by rfl):Go ρ P N D0 Q As η0 m0 cf:=by
 simp only[Ak0]at e;obtain⟨e1,e3⟩:=e;obtain⟨he1,-⟩:=KJ e3;refine A3 hM he1 ?_;generalize aC P N cf=c0 at*;obtain⟨⟨te,cs,n⟩,e1⟩:=Option.isSome_iff_exists.1 e1;have hl:litS P c0=⟨.bs c0.s.nx 0 n n,[],[],[(c0.s.nx,.box c0.s.nx cs te)],c0.s.nx+1,[]⟩:=by unfold litS; rw[e1]
 have hsok:=AfH (P:=P) (cf:=c0);rw[hl]at g hsok;unfold litB at e1;split at e1
 ·rename_i a ha;split at e1
  ·rename_i t n' parts hg hop;split at e1
   ·rename_i e' hu;split at e1
    ·rename_i i hi;split at e1
     ·rename_i z hz;cases hb:(Ag1 0 parts.toList&&(Nat.beq n' parts.toList.length&&(Nat.ble n' 16777216&&(Nat.beq i.sz 1&&(parts.toList.map fun p=>rv c0.s.fz a.sl p.2).all AV.cell))))
      ·rw[hb]at e1; cases e1
      ·rw[hb]at e1; cases e1;simp only[AkZ]at hb;obtain⟨b1,b2,b3,b4,b5⟩:=hb;have b4:=Ak2 b4;refine Ek ha hg ⟨AlV _,fun rest Q η m f w As hr hfz hn S hk=> ?_⟩ hsok g;have hgd:=BY ha hg;obtain⟨l,⟨dst,op,ty,pos,af,gd⟩,gg,sl,es⟩:=a;simp only at hop hgd hk b5 hr⊢; subst hop hgd;have hp:=Q7 b1;have e0:parts=(((parts.toList.map (·.2)).zipIdx 0).map fun p=>(p.2,p.1)).toArray:=by rw[←hp]
       rw[e0];have rl:BX η m (parts.toList.map fun p=>rv c0.s.fz sl p.2) ((parts.toList.map (·.2)).map (ev f)):=by
        refine⟨by simp,fun k c u a b=> ?_⟩;simp only[AlA,Ak9]at a b;obtain⟨p,h1,rfl⟩:=a;obtain⟨_,⟨p',h2,rfl⟩,rfl⟩:=b;rw[h1]at h2; cases h2;exact Mz hfz hr _
       have hone:=rl.one b5;refine s_litB S hu (fun w=>by rw[←b4]; exact B9 hi w) (PV hi hz) rfl hone (by simp; exact Ak2 b2) (Ald b3) fun b w' S'=> ?_;have h0:=hn c0.s.nx (Ak6 _) (Ali _);refine hk (η.put c0.s.nx (pt b 0)) m w' _ (Env.le_put h0) (Mem.rfl' m) (fun k q=> ?_) (.bs Env.put_self) (St.closeBox Env.put_self (rl.up (Env.le_put h0) (Mem.rfl' m)) hone S');rcases Env.put_dom q with q|q
       ·exact .inl q
       ·subst q; exact .inr ⟨Ak6 _,Ali _⟩
     ·cases e1
    ·cases e1
   ·cases e1
  ·cases e1
 ·cases e1
def mksK (P:Program)(cf:Cf):Option (AV×AV×Nat×Value):=
 match G4 cf with
 |some a=>match a.g,a.o.op with
  |none,.makeSlice t x y=>match P.underlying t with
   |some (.slice e)=>match J2 P e with
    |some i=>match i.z with
     |some z=>bif Nat.beq i.sz 1 then some (aev a.sl x,aev a.sl y,i.by_,z)else none
     |none=>none
    |none=>none
   |_=>none
  |_,_=>none
 |none=>none
def mkS {α:Type}(b:Nat)(x0:α)(k:Int):Option (List α):=if 0≤k∧k*b≤140737488355328∧k≤140737488355328 then some (List.replicate k.toNat x0)else none
theorem gmks {α:Type}{k:Int}{xs:List α}(E:α→List D)(x0:α)(zd:D)(b:Nat)(q:mkS b x0 k=some xs)(g:Go ρ P N D0 Q As η0 m0 (push N (aC P N cf) (Ahb (aC P N cf).s 1 α E xs)))
  (e:(mksK P (aC P N cf),sc zd,aL P N cf)=(some (.d (.i k),.d (.i k),b,scV zd),true,aR P N cf):=by kernel_rfl) (hE: ∀x,(E x).length=1:=by intro x; rfl) (hz:E x0=[zd]:=by rfl) (hM:P.follows .mixedOrders=true:=by rfl):Go ρ P N D0 Q As η0 m0 cf:=by
 simp only[Ak0]at e;obtain⟨e1,hsc,e3⟩:=e;obtain⟨he1,-⟩:=KJ e3;refine A3 hM he1 ?_;generalize aC P N cf=c0 at*;unfold mkS at q;split at q
 ·rename_i hq; cases q;unfold mksK at e1;split at e1
  ·rename_i a ha;split at e1
   ·rename_i t x y hg hop;split at e1
    ·rename_i e' hu;split at e1
     ·rename_i i hi;split at e1
      ·rename_i z hz';cases hb:Nat.beq i.sz 1
       ·rw[hb]at e1; cases e1
       ·rw[hb]at e1;simp only[cond_true,Ak4,Ak0]at e1;obtain⟨ex,ey,eb,ez⟩:=e1;have hb:=Ak2 hb;refine Ek ha hg ⟨AlV _,fun rest Q η m f w As hr hfz hn S hk=> ?_⟩ Pu g;have hgd:=BY ha hg;obtain⟨l,⟨dst,op,ty,pos,af,gd⟩,gg,sl,es⟩:=a;simp only at hop hgd hk ex ey hr⊢; subst hop hgd;have rx:=Aq hr x; rw[ex]at rx;have ry:=Aq hr y; rw[ey]at ry;obtain⟨p1,p2,p3,p4,p5,p6⟩:=H6 hi;letI:=QE E 1;have hzc:(scV zd).cells= #[scV zd]:=OI (AeV (m:=m) hsc).one;have hrep: @GoT.rep α (QE E 1) m [scV zd] x0:=⟨by rw[hz]; exact .cons (AeV hsc) .nil,hE x0⟩;refine s_mk1 (k:=k) (x0:=x0) (bytes:=b) S rx.i_inv ry.i_inv hq hu p1 (z:=scV zd) (z0:=scV zd) (by rw[←p5,hz',ez]) (by rw[←p4,hb]) (by rw[←p6,eb]) hzc hrep fun v cs w' S' hc=> ?_;obtain⟨hc1,-⟩:=AbV hc;have h0:=hn c0.s.nx (Ak6 _) (Ali _);have h1:=JC S';refine hk (η.put c0.s.nx v) m w' v (Env.le_put h0) (Mem.rfl' m) (fun n q=> ?_) (.ow Env.put_self h1) (St.closeRow Env.put_self h1 hc1 (fun x _=>hE x) S');rcases Env.put_dom q with q|q
        ·exact .inl q
        ·subst q; exact .inr ⟨Ak6 _,Ali _⟩
      ·cases e1
     ·cases e1
    ·cases e1
   ·cases e1
  ·cases e1
 ·cases q
end
def AdZ (cf:Cf)(t j:Nat):Option AV:=match get cf.s.sl t with| .agg cs=>cs[j]? |_=>none
def setC (cf:Cf)(t j:Nat)(a:AV):Cf:=match get cf.s.sl t with| .agg cs=>⟨⟨(t,.agg (cs.set j a))::cf.s.sl,cf.s.ob,cf.s.fz,cf.s.nx⟩,cf.md,cf.K⟩|_=>cf
section
variable {P:Program}{ρ:Option Nat}{N:Nat}{D0:Dw}{Q:D6}{As:List Ow}{η0:Env}{m0:Mem}{cf:Cf}
theorem AiF {t j:Nat}{a b:AV}(hp:Lz cf=true)(hc:AdZ cf t j=some b)(hr: ∀η m u,η0.le η→Rel η m b u→Rel η m a u)(g:Go ρ P N D0 Q As η0 m0 (setC cf t j a)):Go ρ P N D0 Q As η0 m0 cf:=by
 obtain⟨s,md,K⟩:=cf;unfold AdZ at hc;split at hc
 ·rename_i cs hg;simp only at hg;have e:setC ⟨s,md,K⟩ t j a=⟨⟨(t,.agg (cs.set j a))::s.sl,s.ob,s.fz,s.nx⟩,md,K⟩:=by unfold setC; simp only[hg]
  rw[e]at g;have key: ∀{R:Fr→World→Prop},Al As η0 m0 ⟨(t,.agg (cs.set j a))::s.sl,s.ob,s.fz,s.nx⟩ R→Al As η0 m0 s R:=fun k η m f w a1 a2 gm=>by
   refine k η m f w a1 a2 ⟨fun u=> ?_,gm.fz,gm.dom,gm.st,⟨gm.wf.nd,gm.wf.lt⟩⟩;show Rel η m (bif Nat.beq t u then .agg (cs.set j a)else get s.sl u) (f u);cases hb:Nat.beq t u
   ·exact gm.slr u
   ·have:=Ak2 hb; subst this;have r:=gm.slr t;rw[hg]at r;obtain⟨vs,hv,r1,r2⟩:=r.agg_inv;simp only[cond_true];rw[hv];refine .agg (by rw[List.length_set]; exact r1) fun k c u h1 h2=> ?_;rw[List.getElem?_set]at h1;split at h1
    ·rename_i q; subst q;split at h1
     ·cases h1; exact hr η m u a1 (r2 _ _ _ hc h2)
     ·cases h1
    ·exact r2 _ _ _ h1 h2
  cases md with
  |ops=>cases hp
  |code c=>exact key g
  |pop=>exact key g
  |ext id=>exact key g
  |ret=>exact key g
 ·cases hc
theorem gtoV {v:Value}(t j n:Nat)(hv:η0 n=some v)(g:Go ρ P N D0 Q As η0 m0 (setC cf t j (.d (.v v))))
  (e:(Lz cf,AdZ cf t j)=(true,some (.ow n)):=by kernel_rfl):Go ρ P N D0 Q As η0 m0 cf:=by
 simp only[Ak0]at e;refine AiF e.1 e.2 (fun η m u le r=> ?_) g;obtain⟨h1,h2⟩:=r.ow_inv;have h3:=le _ _ hv;rw[h1]at h3; cases h3;exact .d (.v _ h2)
def getB (nb j:Nat):List Tok→Option AV
 | []=>none
 |(_,.box k cs _)::l=>bif Nat.beq k nb then cs[j]? else getB nb j l
 |_::l=>getB nb j l
def Abu (nb j:Nat)(a:AV):List Tok→List Tok
 | []=> []
 |(i,.box k cs t)::l=>bif Nat.beq k nb then(i,.box k (cs.set j a) t)::l else(i,.box k cs t)::Abu nb j a l
 |p::l=>p::Abu nb j a l
theorem AeT {η:Env}{m:Mem}{cs:List AV}{vs:List Value}{j:Nat}{a b:AV}(h:BX η m cs vs)(hc:cs[j]? =some b)(hr: ∀u,Rel η m b u→Rel η m a u):BX η m (cs.set j a) vs:=
 ⟨by rw[List.length_set]; exact h.1,fun k c u h1 h2=>by
  rw[List.getElem?_set]at h1;split at h1
  ·rename_i q; subst q;split at h1
   ·cases h1; exact hr u (h.2 _ _ _ hc h2)
   ·cases h1
  ·exact h.2 _ _ _ h1 h2⟩
theorem KW {nb j:Nat}{a:AV}: ∀{ob:List Tok},tids (Abu nb j a ob)=tids ob
 | []=>rfl
 |(i,.box k cs t)::l=>by
  unfold Abu;cases Nat.beq k nb
  ·exact Alv (i:: ·) (KW (ob:=l))
  ·rfl
 |(i,.row ..)::l=>Alv (i:: ·) (KW (ob:=l))
 |(i,.fr ..)::l=>Alv (i:: ·) (KW (ob:=l))
 |(i,.hp ..)::l=>Alv (i:: ·) (KW (ob:=l))
theorem Oz {η:Env}{m:Mem}{nb j:Nat}{a b:AV}(hr: ∀u,Rel η m b u→Rel η m a u){As:List Ow}: ∀{ob:List Tok},getB nb j ob=some b→∀h,sepL (reps η m ob++As) h→sepL (reps η m (Abu nb j a ob)++As) h
 | [],e,_,_=>by cases e
 |(i,.box k cs t)::l,e,h,s=>by
  unfold getB at e;unfold Abu;cases hb:Nat.beq k nb
  ·rw[hb]at e;exact Abx (A:=rep η m (.box k cs t)) (fun _ q=>q) (Oz hr (ob:=l) e) h s
  ·rw[hb]at e;refine Abx (A:=rep η m (.box k cs t)) (fun y hy=> ?_) (fun _ q=>q) h s;obtain⟨b',vs,h1,h2,h3,h4⟩:=hy;exact⟨b',vs,h1,AeT h2 e hr,h3,h4⟩
 |(i,.row n sz α E xs)::l,e,h,s=>Abx (A:=rep η m (.row n sz α E xs)) (fun _ q=>q) (Oz hr (ob:=l) e) h s
 |(i,.fr n d)::l,e,h,s=>Abx (A:=rep η m (.fr n d)) (fun _ q=>q) (Oz hr (ob:=l) e) h s
 |(i,.hp n q)::l,e,h,s=>Abx (A:=rep η m (.hp n q)) (fun _ q=>q) (Oz hr (ob:=l) e) h s
def bxC (cf:Cf)(t j:Nat):Option AV:=match get cf.s.sl t with| .pb nb _=>getB nb j cf.s.ob|_=>none
def AiG (cf:Cf)(t j:Nat)(a:AV):Cf:=match get cf.s.sl t with| .pb nb _=>⟨⟨cf.s.sl,Abu nb j a cf.s.ob,cf.s.fz,cf.s.nx⟩,cf.md,cf.K⟩|_=>cf
theorem gofV {v:Value}(t j n:Nat)(hv:η0 n=some v)(g:Go ρ P N D0 Q As η0 m0 (AiG (aC P N cf) t j (.ow n)))
  (e:(Lz (aC P N cf),bxC (aC P N cf) t j,bL P N cf)=(true,some (.d (.v v)),bR P N cf):=by kernel_rfl) (hm:P.follows .mixedOrders=true:=by rfl):Go ρ P N D0 Q As η0 m0 cf:=by
 simp only[Ak0]at e;obtain⟨e1,e2,e3⟩:=e;refine A3 hm (.of e3) ?_;generalize aC P N cf=c0 at*;obtain⟨s,md,K⟩:=c0;unfold bxC at e2;split at e2
 ·rename_i nb o hg;simp only at hg e2;have q:AiG ⟨s,md,K⟩ t j (.ow n)=⟨⟨s.sl,Abu nb j (.ow n) s.ob,s.fz,s.nx⟩,md,K⟩:=by unfold AiG; simp only[hg]
  rw[q]at g;have key: ∀{R:Fr→World→Prop},Al As η0 m0 ⟨s.sl,Abu nb j (.ow n) s.ob,s.fz,s.nx⟩ R→Al As η0 m0 s R:=fun k η m f w a1 a2 gm=>by
   refine k η m f w a1 a2 ⟨gm.slr,gm.fz,gm.dom,?_,⟨?_,?_⟩⟩
   ·obtain⟨x,sx,rx⟩:=gm.st.own;refine⟨gm.st.os,gm.st.tape,gm.st.output,x,Oz (fun u r=> ?_) e2 x sx,rx⟩;have r:=r.dd;cases r with
    |v _ h=>exact .ow (a1 _ _ hv) h
   ·show(tids (Abu nb j (.ow n) s.ob)).Nodup;rw[KW]; exact gm.wf.nd
   ·intro y hy;have hy:y∈tids (Abu nb j (.ow n) s.ob):=hy;rw[KW]at hy; exact gm.wf.lt y hy
  cases md with
  |ops=>cases e1
  |code c=>exact key g
  |pop=>exact key g
  |ext id=>exact key g
  |ret=>exact key g
 ·cases e2
end
theorem spV {P:Program}{N:Nat}(n:Nat){k:FuncId}{fn:Func}{c:Code}{args:List AV}{obs:List AObj}{n0:Nat}{Po:AV→List AObj→Nat→Prop}(hc: ∀(a:Array Value) w,(callFunc k a).run P w= .ok (.enter k a) w)(hf:P.funcs[k]? =some fn)(hb:fn.body=some c)(hN:fn.ntmps=N)(hle:Nat.ble args.length N=true)
  (h: ∀D0 As η0 m0,D0.2.2=false→(∀n,η0 n≠none→n<n0)→∀v,η0 n=some v→Go none P N D0 (Aac P N fn (Qq As η0 m0 Po)) As η0 m0 ⟨SA args obs n0,.code c,[]⟩) (hn:(obs.any fun o=>Nat.beq o.nm n)=true:=by rfl):Sp P k args obs n0 Po:=by
 refine⟨hc,fun η m As w vs hv hd S=> ?_⟩;obtain⟨o,ho,hb'⟩:=List.any_eq_true.1 hn;obtain⟨v,hv'⟩:=X0 S o ho;rw[Ak2 hb']at hv';refine NH hf hb hN (by rw[←hv.1]; exact Ald hle) ?_;exact h (w,[],false) As η m rfl hd v hv' η m (f0 vs) w Env.le_refl (Mem.rfl' m) (US hv hd S)
def nilK (P:Program)(cf:Cf):Option D:=
 match cf.md with
 | .ops false l [⟨dst,.binOp .eql t x (.const (.slice none 0 0)) t',ty,pos,af,none⟩] h=>match P.underlying t,aev cf.s.sl x with
  |some (.slice _),.d d=>some d
  |_,_=>none
 |_=>none
def Aep (N:Nat)(b:Bool)(cf:Cf):Cf:=match cf.md with| .ops _ _ (o::_) _=>⟨after N cf.s o ⟨.d (.t b),[],[],[],cf.s.nx,[]⟩,.pop,cf.K⟩|_=>cf
section
variable {ρ:Option Nat}{P:Program}{N:Nat}{D0:Dw}{Q:D6}{As:List Ow}{η0:Env}{m0:Mem}
theorem AhK {s:AS}{η:Env}{m:Mem}{f:Fr}{w:World}{o:Oper}{d:AV}{v:Value}(g:Gm As s η m f w)(h:Rel η m d v):Gm As (after N s o ⟨d,[],[],[],s.nx,[]⟩) η m (upo N f o.dst v) w:=
 ⟨U0 (fun t=>g.slr t) h,g.fz,fun n hn=>g.dom n hn,by
  have e:Eu ([]:List Nat) s.ob=s.ob:=List.filter_eq_self.2 fun p _=>by simp[Fc]
  show St m (reps η m (Eu ([]:List Nat) s.ob++[])++As) w;rw[e,AlB]; exact g.st,Nj g.wf ⟨fun x hx=>by simp at hx,by simp[tids],by simp[tids],fun t ht=>by simp[tids]at ht⟩ (Ak6 _)⟩
theorem Afq {c0:Cf}{α:Type}{E:α→List D}{xs:List α}(e:nilK P c0=some (.sl α E xs))(g0:Go ρ P N D0 Q As η0 m0 (Aep N false c0))(g1:xs=[]→Go ρ P N D0 Q As η0 m0 (Aep N true c0)):Go ρ P N D0 Q As η0 m0 c0:=by
 obtain⟨s,md,K⟩:=c0;unfold nilK at e;split at e
 ·rename_i l dst t x t' ty pos af h hmd;simp only at hmd; subst hmd;split at e
  ·rename_i el d hu hx;cases e;refine .inr (.inl ⟨rfl,fun η m f w a b gm=> ?_⟩);have rx:=Aq gm.slr x;rw[hx]at rx;have fx:=rx.dd;have hv: ∃u c,ev f x= .slice u xs.length c∧(u=none→xs=[]):=by
    generalize ev f x=v at fx;cases fx with
    |sl h=>
     obtain⟨_,_,⟨h0,a,c,rfl⟩|⟨b,off,cap,l,e,fr,rfl,_⟩⟩:=h
     ·exact⟨a,c,by rw[h0],fun _=>List.eq_nil_of_length_eq_zero h0⟩
     ·exact⟨_,_,rfl,fun h=>by cases h⟩
   obtain⟨u,c,hv,hn⟩:=hv;have key:(Op.equal t (.slice u xs.length c) (.slice none 0 0)).run P w= .ok (Y8 (.slice u xs.length c)) w:=by
    show(Op.equalIn (9999+1) _ _ _).run P w=_;unfold Op.equalIn;cases u<;>simp[Ala hu,Y8]
   have hg:(eqGuard .eql t x (.const (.slice none 0 0)) (.slice u xs.length c) (.slice none 0 0)).run P w= .ok () w:=by simp[eqGuard]
   have hc:ev f (.const (.slice none 0 0))= .slice none 0 0:=rfl;refine AG (v:= .bool (Y8 (.slice u xs.length c))) (w':=w) rfl (fun _ e=>by cases e) ?_ (AE ?_)
   ·simp only[execOp,hv,hc];simp[hg,binOp,key]
   ·cases u with
    |none=>exact g1 (hn rfl) η m _ w a b (AhK gm (.d (.t _)))
    |some q=>exact g0 η m _ w a b (AhK gm (.d (.t _)))
  ·cases e
 ·cases e
theorem gnq {cf:Cf}{α:Type}(E:α→List D)(xs:List α)(g1:xs=[]→Go ρ P N D0 Q As η0 m0 (way true (aC P N (Aep N true (aC P N cf)))))(g0:Go ρ P N D0 Q As η0 m0 (way false (aC P N (Aep N false (aC P N cf)))))
  (e:(nilK P (aC P N cf),bL P N cf,RW (aC P N (Aep N false (aC P N cf))),bL P N (Aep N false (aC P N cf)),RW (aC P N (Aep N true (aC P N cf))),bL P N (Aep N true (aC P N cf)))
   =(some (.sl α E xs),bR P N cf,some false,bR P N (Aep N false (aC P N cf)),some true,bR P N (Aep N true (aC P N cf))):=by kernel_rfl) (hm:P.follows .mixedOrders=true:=by rfl):Go ρ P N D0 Q As η0 m0 cf:=by
 simp only[Ak0]at e;obtain⟨e1,e2,e3,e4,e5,e6⟩:=e;refine A3 hm (.of e2) (Afq e1 ?_ fun h=> ?_)
 ·exact Agg hm (n:=100000) (by simp only[Ak0]; exact⟨e3,e4⟩) (fun h=>by cases h) fun _=>g0
 ·exact Agg hm (n:=100000) (by simp only[Ak0]; exact⟨e5,e6⟩) (fun _=>g1 h) fun h=>by cases h
structure CutP where
 d:D
 j:Int
 sz:Nat
 tok:List Tok
def cutO (P:Program)(cf:Cf):Option CutP:=
 match G4 cf with
 |some a=>match a.g,a.o.op with
  |none,.slice t x none (some h) none=>match aev a.sl x,Ph a.sl h,P.underlying t with
   | .ow n,some (_,j),some (.slice el)=>match find n cf.s.ob,J2 P el with
    |some (i,.row k sz α E xs),some ti=>bif Nat.beq k n&&Nat.beq ti.sz sz then some ⟨.sl α E xs,j,sz,[(i,.row k sz α E xs)]⟩else none
    |_,_=>none
   |_,_,_=>none
  |_,_=>none
 |none=>none
def Akt (P:Program)(cf:Cf):Option (D×Int×Nat):=match cutO P cf with|some p=>some (p.d,p.j,p.sz)|none=>none
def Aks (P:Program)(cf:Cf)(sz:Nat)(α:Type)(E:α→List D)(xs:List α):Stp:=match cutO P cf with|some p=>⟨.ow cf.s.nx,[],p.tok,[(cf.s.nx,.row cf.s.nx sz α E xs)],cf.s.nx+1,[]⟩|none=>Ahb cf.s sz α E xs
theorem Wp {α:Type}{E:α→List D}{sz:Nat}: ∀{xs:List α} (h: ∀x∈xs,(E x).length=sz) (q:Nat),(xs.take q).flatMap E=(xs.flatMap E).take (q*sz)
 | [],_,q=>by simp
 |y::ys,h,0=>by simp
 |y::ys,h,q+1=>by
  rw[List.take_succ_cons,AlI,AlI,Wp (fun x hx=>h x (Alo _ hx)) q,Nat.succ_mul,Al9,List.take_append,h y Alk,Nat.add_sub_cancel_left,Alw (l:=E y) (by rw[h y Alk]; exact Nat.le_add_right _ _)]
theorem gcO {cf:Cf}{α:Type}{xs:List α}{j:Int}(E:α→List D)(k:Nat)(h0:0≤j)(hn:j≤(xs.length:Int))(g:Go ρ P N D0 Q As η0 m0 (push N (aC P N cf) (Aks P (aC P N cf) k α E (xs.take j.toNat))))
  (e:(Akt P (aC P N cf),bL P N cf)=(some (.sl α E xs,j,k),bR P N cf):=by kernel_rfl) (hE: ∀x,(E x).length=k:=by intro x; rfl) (hm:P.follows .mixedOrders=true:=by rfl):Go ρ P N D0 Q As η0 m0 cf:=by
 simp only[Ak0]at e;obtain⟨e1,e2⟩:=e;refine A3 hm (.of e2) ?_;generalize aC P N cf=c0 at*;cases hp:cutO P c0 with
 |none=>unfold Akt at e1; rw[hp]at e1; cases e1
 |some p=>
  have gS:Aks P c0 k α E (xs.take j.toNat)=⟨.ow c0.s.nx,[],p.tok,[(c0.s.nx,.row c0.s.nx k α E (xs.take j.toNat))],c0.s.nx+1,[]⟩:=by unfold Aks; rw[hp]
  rw[gS]at g;unfold Akt at e1;rw[hp]at e1;simp only[Ak4,Ak0]at e1;obtain⟨ed,ej,ek⟩:=e1;unfold cutO at hp;split at hp
  ·rename_i a ha;split at hp
   ·rename_i t x h hg hop;split at hp
    ·rename_i n ik j' el hx hj hu;split at hp
     ·rename_i i kk sz α' E' xs' ti hf hti;cases hb:Nat.beq kk n&&Nat.beq ti.sz sz
      ·rw[hb]at hp; cases hp
      ·rw[hb]at hp;simp only[cond_true]at hp;cases hp;simp only[AkZ]at hb;have:=Ak2 hb.1; subst this;have hsz:=Ak2 hb.2;simp only at ed ej ek;cases ed;subst ej ek;have hgd:=BY ha hg;refine Ek ha hg ?_ ⟨fun q hq=>by simp at hq; subst hq; exact F5 hf,by simp[tids],by simp[tids],fun q hq=>by simp[tids]at hq; subst hq; exact⟨Ak6 _,Ali _⟩⟩ g;obtain⟨ll,⟨dst,op',ty,pos,af,gd⟩,gg,sl,es⟩:=a;simp only at hop hgd hx hj⊢; subst hop hgd;refine⟨AlV _,fun rest Q η m f w As hr hfz hnn S hk=> ?_⟩;simp only[AlB]at S hk hnn;obtain⟨v,cs,h1,h2,h3,h4,S1⟩:=St.openRow S;have rx:=Aq hr x; rw[hx]at rx;have ev_:=rx.ow_inv.1;rw[h1]at ev_; cases ev_;have ej:=Ce hj hr;refine YB (i:=0) S1 rfl rfl hu (by rw[←hsz]; exact B9 hti) rfl ej h0 hn fun v' S2=> ?_;have hn0:=hnn c0.s.nx (Ak6 _) (Ali _);have le:=Env.le_put (v:=v') hn0;have hlen:(xs.take j'.toNat).length=j'.toNat:=by rw[Alq]; omega
       have S3:St m (Gw.row sz v' (cs.take (j'.toNat*sz)) (xs.take j'.toNat).length::As) w:=by rw[hlen]; exact S2
       have ho:v'.oneCell'=true:=(St.rowVal (i:=0) S3 rfl).1|>fun⟨a,c,e⟩=>by rw[e]; rfl
       have hfl:(xs.take j'.toNat).flatMap E=(xs.flatMap E).take (j'.toNat*sz):=Wp h4 _;refine hk (η.put c0.s.nx v') m w v' le (Mem.rfl' m) (fun n hn=> ?_) (.ow Env.put_self ho) ?_
       ·rcases Env.put_dom hn with q|q
        ·exact .inl q
        ·subst q; exact .inr ⟨Ak6 _,Ali _⟩
       ·refine St.closeRow (η:=η.put c0.s.nx v') (E:=E) Env.put_self ho ?_ (fun x hx=>h4 x (List.mem_of_mem_take hx)) S3;rw[hfl]; exact h3.take _
     ·cases hp
    ·cases hp
   ·cases hp
  ·cases hp
theorem gnl {P:Program}{k:FuncId}{α:Type} [GoT α]{E:α→List D}{a1:Int}{r:List α}{sz:Nat}(hc: ∀(a:Array Value) w,(callFunc k a).run P w= .ok (.enter k a) w)(b:Br α E)
  (h: ∀{m:Mem} {As:List Ow} {w:World},St m As w→CY P k #[.slice none 0 0,vI a1] w fun v w'=> ∃(M:Mem),m≤M∧∃(rv0:Value) (rc0:List Value),St M ((Gw.row sz rv0 rc0 r.length)::As) w'∧v=rv0∧CB M rc0 r) (hs:GoT.sz α=sz:=by rfl):
  Sp P k [.d (.v (.slice none 0 0)),.d (.i a1)] [] 0 (is (.ow 0) [.row 0 sz _ E r] 1):=
 ⟨hc,fun η m As w vs hv0 hd S=>by
  have S:St m As w:=S;obtain⟨v0,u0,rfl,r0,hv1⟩:=BX.cons_inv hv0;have e0:v0= .slice none 0 0:=by have:=r0.dd; cases this; rfl
  subst e0;obtain⟨v1,u1,rfl,r1,hv2⟩:=BX.cons_inv hv1;obtain rfl:=r1.i_inv;obtain rfl:=BX.nil_inv hv2;refine CY.mono (h S) ?_;rintro v w' ⟨M,hle,y0,c0,S0,rfl,h0⟩;exact⟨M,(envL [v]),_,_,_,hle,dom0 hd _,⟨rfl,rfl,rfl⟩,Zi rfl,(.ow rfl (JC S0)),(St.impL S0 (Abx (Br.toR b hs rfl (JC S0) h0) fun _ h=>h))⟩⟩
theorem ownB {P:Program}{k:FuncId}{α:Type} [GoT α]{E:α→List D}{xs r:List α}{sz:Nat}{η:Env}{m:Mem}{As:List Ow}{w:World}{v0:Value}{vs:Array Value}(hd: ∀n,η n≠none→n<1)(r0:Rel η m (.ow 0) v0)(S:St m (rep η m (.row 0 sz α E xs)::As) w)
  (h: ∀{cs:List Value},FRL m (xs.flatMap E) cs→St m (Gw.row sz v0 cs xs.length::As) w→CY P k vs w fun v w'=> ∃(M:Mem),m≤M∧∃(rv0:Value) (rc0:List Value),St M ((Gw.row sz rv0 rc0 r.length)::As) w'∧v=rv0∧CB M rc0 r) (b:Br α E) (hs:GoT.sz α=sz:=by rfl):
  CY P k vs w fun v w'=> ∃(M:Mem) (η':Env) (q:AV) (obs':List AObj) (n1:Nat),m≤M∧η.le η'∧is (.ow 1) [.row 1 sz _ E r] 2 q obs' n1∧(∀n,η' n≠none→n<n1)∧Rel η' M q v∧St M (obs'.map (rep η' M)++As) w':=by
 obtain⟨v,cs,k1,k2,k3,_,S1⟩:=St.openRow S;obtain⟨n0,o0⟩:=r0.ow_inv;rw[n0]at k1; obtain rfl:=AkY k1;refine CY.mono (h k3 S1) ?_;rintro v' w' ⟨M,hle,y0,c0,S0,rfl,h0⟩;have h1:η 1=none:=by
  cases q:η 1 with
  |none=>rfl
  |some u=>have:=hd 1 (by rw[q]; simp); omega
 refine⟨M,η.put 1 v',_,_,_,hle,Env.le_put h1,⟨rfl,rfl,rfl⟩,fun n hn=> ?_,.ow Env.put_self (JC S0),St.impL S0 (Abx (Br.toR b hs Env.put_self (JC S0) h0) fun _ h=>h)⟩;rcases Env.put_dom hn with q|q
 ·have:=hd n q; omega
 ·omega
def rot (n:Nat):Nat→Nat
 |0=>n-1
 |k+1=>k
theorem sepM {f g:AObj→Ow}{As:List Ow}: ∀{os:List AObj},(∀o∈os,∀x,f o x→g o x)→∀x,sepL (os.map f++As) x→sepL (os.map g++As) x
 | [],_=>fun _ h=>h
 |o::os,h=>Abx (h o Alk) (sepM fun p q=>h p (Alo _ q))
def Tc (η:Env):Env:=fun n=>match n with|0=>some (.slice none 0 0)|n+1=>η n
def YE (n1:Nat)(η:Env):Env:=fun n=>if n=n1-1 then η 0 else η (n+1)
theorem Sp.nilR {P:Program}{k:FuncId}{sz:Nat}{α:Type}{E:α→List D}{r:AV}{obs1:List AObj}{n1:Nat}(args:List AV)(obs:List AObj)(n0:Nat)
  (h:Sp P k (.ow 0::args.map (AaM Nat.succ)) (.row 0 sz α E []::obs.map (VX Nat.succ)) (n0+1) (is r obs1 n1)) (hk:(args.all (okA n0)&&obs.all (okO n0)&&okA n1 r&&obs1.all (okO n1))=true):
  Sp P k (.d (.v (.slice none 0 0))::args) obs n0 (is (AaM (rot n1) r) (obs1.map (VX (rot n1))) n1):=by
 simp only[AkZ]at hk;obtain⟨⟨⟨k1,k2⟩,k3⟩,k4⟩:=hk;refine⟨h.1,fun η m As w vs hv hd S=> ?_⟩;obtain⟨v,us,rfl,h1,h2⟩:=hv.cons_inv;have hvv:v= .slice none 0 0:=by have:=h1.dd; cases this; rfl
 subst hvv;have hs: ∀k,k<n0→∀u,η k=some u→Tc η (Nat.succ k)=some u:=fun k _ u q=>q;have S0:St m ((obs.map (VX Nat.succ)).map (rep (Tc η) m)++As) w:=by
  rw[List.map_map];exact St.impL S (sepM fun o ho x hx=>Xq hs (Alj.1 k2 o ho) hx)
 have S1:St m (rep (Tc η) m (.row 0 sz α E [])::((obs.map (VX Nat.succ)).map (rep (Tc η) m)++As)) w:=
  St.closeRow (η:=Tc η) (n:=0) (E:=E) (xs:=[]) rfl rfl (by simpa using FRL.nil) (fun _ h=>by cases h) (St.rowNil S0 sz)
 have:=h.2 (Tc η) m As w (.slice none 0 0::us) (.cons (.ow rfl rfl) (AbW hs k1 h2)) (fun n hn=>by
  cases n with
  |zero=>omega
  |succ n=>have:=hd n hn; omega) S1
 refine CY.mono this ?_;rintro v' w' ⟨M,η3,r',obs',n',hle,hη,⟨rfl,rfl,rfl⟩,hdom,hR,S2⟩;have h0:0<n':=hdom 0 (by rw[hη 0 _ rfl]; simp);have ht: ∀k,k<n'→∀u,η3 k=some u→YE n' η3 (rot n' k)=some u:=fun k hk u q=>by
  cases k with
  |zero=>unfold YE rot; rw[Ak3 rfl]; exact q
  |succ k=>show(if k=n'-1 then _ else _)=_; rw[Ak1 (by omega)]; exact q
 refine⟨M,YE n' η3,_,_,_,hle,fun n u q=> ?_,⟨rfl,rfl,rfl⟩,fun n hn=> ?_,Xs ht k3 hR,?_⟩
 ·have e:=hη (n+1) u q;have:=hdom (n+1) (by rw[e]; simp);show(if n=n'-1 then _ else _)=_;rw[Ak1 (by omega)]; exact e
 ·unfold YE at hn;by_cases q:n=n'-1
  ·omega
  ·rw[Ak1 q]at hn;have:=hdom _ hn; omega
 ·rw[List.map_map];exact St.impL S2 (sepM fun o ho x hx=>Xq ht (Alj.1 k4 o ho) hx)
end
end Go.Ax
end
section
namespace Go.Proofs.YtnhdojckpcbjeaaGreatDoor
open Go Go.Gw Go.Ax Tryz
def str_0:ByteArray:=⟨#[0,1,2,2,3,3,3,3,4,4,4,4,4,4,4,4,5,5,5,5,5,5,5,5,5,5,5,5,5,5,5,5,6,6,6,6,6,6,6,6,6,6,6,6,6,6,6,6,6,6,6,6,6,6,6,6,6,6,6,6,6,6,6,6,7,7,7,7,7,7,7,7,7,7,7,7,7,7,7,7,7,7,7,7,7,7,7,7,7,7,7,7,7,7,7,7,7,7,7,7,7,7,7,7,7,7,7,7,7,7,7,7,7,7,7,7,7,7,7,7,7,7,7,7,7,7,7,7,8,8,8,8,8,8,8,8,8,8,8,8,8,8,8,8,8,8,8,8,8,8,8,8,8,8,8,8,8,8,8,8,8,8,8,8,8,8,8,8,8,8,8,8,8,8,8,8,8,8,8,8,8,8,8,8,8,8,8,8,8,8,8,8,8,8,8,8,8,8,8,8,8,8,8,8,8,8,8,8,8,8,8,8,8,8,8,8,8,8,8,8,8,8,8,8,8,8,8,8,8,8,8,8,8,8,8,8,8,8,8,8,8,8,8,8,8,8,8,8,8,8,8,8,8,8,8,8]⟩
def str_1:ByteArray:=⟨#[0,1,1,2,1,2,2,3,1,2,2,3,2,3,3,4,1,2,2,3,2,3,3,4,2,3,3,4,3,4,4,5,1,2,2,3,2,3,3,4,2,3,3,4,3,4,4,5,2,3,3,4,3,4,4,5,3,4,4,5,4,5,5,6,1,2,2,3,2,3,3,4,2,3,3,4,3,4,4,5,2,3,3,4,3,4,4,5,3,4,4,5,4,5,5,6,2,3,3,4,3,4,4,5,3,4,4,5,4,5,5,6,3,4,4,5,4,5,5,6,4,5,5,6,5,6,6,7,1,2,2,3,2,3,3,4,2,3,3,4,3,4,4,5,2,3,3,4,3,4,4,5,3,4,4,5,4,5,5,6,2,3,3,4,3,4,4,5,3,4,4,5,4,5,5,6,3,4,4,5,4,5,5,6,4,5,5,6,5,6,6,7,2,3,3,4,3,4,4,5,3,4,4,5,4,5,5,6,3,4,4,5,4,5,5,6,4,5,5,6,5,6,6,7,3,4,4,5,4,5,5,6,4,5,5,6,5,6,6,7,4,5,5,6,5,6,6,7,5,6,6,7,6,7,7,8]⟩
structure g_api_Sig where
 E:UInt64
 S:UInt64
instance:GoT g_api_Sig where
 sz:=GoT.sz (UInt64×UInt64)
 rep m cs x:=GoT.rep (α:=UInt64×UInt64) m cs (x.E,x.S)
 len h:=GoT.len (α:=UInt64×UInt64) h
 up l h:=GoT.up (α:=UInt64×UInt64) l h
 one h:=GoT.one (α:=UInt64×UInt64) h
instance:Inhabited g_api_Sig:=⟨⟨default,default⟩⟩
structure g_api_Promise where
 Log:Int
 At:Int
 Leaf:UInt64×UInt64
 Sig:g_api_Sig
instance:GoT g_api_Promise where
 sz:=GoT.sz (Int×Int×(UInt64×UInt64)×g_api_Sig)
 rep m cs x:=GoT.rep (α:=Int×Int×(UInt64×UInt64)×g_api_Sig) m cs (x.Log,x.At,x.Leaf,x.Sig)
 len h:=GoT.len (α:=Int×Int×(UInt64×UInt64)×g_api_Sig) h
 up l h:=GoT.up (α:=Int×Int×(UInt64×UInt64)×g_api_Sig) l h
 one h:=GoT.one (α:=Int×Int×(UInt64×UInt64)×g_api_Sig) h
instance:Inhabited g_api_Promise:=⟨⟨default,default,default,default⟩⟩
structure g_api_Cert where
 Serial:Int
 Issuer:ByteArray
 Subject:ByteArray
 Key:UInt64
 Names:List ByteArray
 From:Int
 Until:Int
 Ca:Bool
 Depth:Int
 Permit:List ByteArray
 Proms:List g_api_Promise
 Sig:g_api_Sig
instance:GoT g_api_Cert where
 sz:=GoT.sz (Int×ByteArray×ByteArray×UInt64×(List ByteArray)×Int×Int×Bool×Int×(List ByteArray)×(List g_api_Promise)×g_api_Sig)
 rep m cs x:=GoT.rep (α:=Int×ByteArray×ByteArray×UInt64×(List ByteArray)×Int×Int×Bool×Int×(List ByteArray)×(List g_api_Promise)×g_api_Sig) m cs (x.Serial,x.Issuer,x.Subject,x.Key,x.Names,x.From,x.Until,x.Ca,x.Depth,x.Permit,x.Proms,x.Sig)
 len h:=GoT.len (α:=Int×ByteArray×ByteArray×UInt64×(List ByteArray)×Int×Int×Bool×Int×(List ByteArray)×(List g_api_Promise)×g_api_Sig) h
 up l h:=GoT.up (α:=Int×ByteArray×ByteArray×UInt64×(List ByteArray)×Int×Int×Bool×Int×(List ByteArray)×(List g_api_Promise)×g_api_Sig) l h
 one h:=GoT.one (α:=Int×ByteArray×ByteArray×UInt64×(List ByteArray)×Int×Int×Bool×Int×(List ByteArray)×(List g_api_Promise)×g_api_Sig) h
instance:Inhabited g_api_Cert:=⟨⟨default,default,default,default,default,default,default,default,default,default,default,default⟩⟩
structure g_path_trip where
 roots_:List g_api_Cert
 chain_:List g_api_Cert
 name_:ByteArray
 now_:Int
instance:GoT g_path_trip where
 sz:=GoT.sz ((List g_api_Cert)×(List g_api_Cert)×ByteArray×Int)
 rep m cs x:=GoT.rep (α:=(List g_api_Cert)×(List g_api_Cert)×ByteArray×Int) m cs (x.roots_,x.chain_,x.name_,x.now_)
 len h:=GoT.len (α:=(List g_api_Cert)×(List g_api_Cert)×ByteArray×Int) h
 up l h:=GoT.up (α:=(List g_api_Cert)×(List g_api_Cert)×ByteArray×Int) l h
 one h:=GoT.one (α:=(List g_api_Cert)×(List g_api_Cert)×ByteArray×Int) h
instance:Inhabited g_path_trip:=⟨⟨default,default,default,default⟩⟩
structure Gs where
 tag_:Int
 may_:Int
instance:Inhabited Gs:=⟨⟨default,default⟩⟩
structure g_api_Item where
 Tag:Int
 B:List UInt8
 L:List g_api_Item
instance:Inhabited g_api_Item:=⟨⟨default,default,default⟩⟩
def An (a:g_api_Item):List D:=[.i a.Tag,.sl _ eB a.B,.rs _ (fun a=> [.i a.Tag,.sl _ eB a.B]) (fun a=> []) (fun a=>a.L) a.L]
instance:GoT g_api_Item:=QE An 3
theorem Ael {m:Mem}{cs:List Value}{x:g_api_Item}(h:GoT.rep m cs x): ∃v1,∃v2,cs=[vI x.Tag,v1,v2]∧SlR m v1 x.B∧SlR m v2 x.L:=by
 obtain⟨h,_⟩:=h;obtain⟨u0,us0,rfl,a0,g0⟩:=FRL.cons_inv h;cases a0;obtain⟨u1,us1,rfl,a1,g1⟩:=FRL.cons_inv g0;obtain⟨u2,us2,rfl,a2,g2⟩:=FRL.cons_inv g1;obtain rfl:=FRL.nil_inv g2;exact⟨u1,u2,rfl,Br.ofS Br.b a1,XB (Aa6 a2) (fun _=>rfl)⟩
theorem Afx {m:Mem}{x:g_api_Item}{v1:Value}{v2:Value}(h1:SlR m v1 x.B)(h2:SlR m v2 x.L):GoT.rep m [vI x.Tag,v1,v2] x:=⟨(FRL.cons (.i _) (FRL.cons (Br.toS Br.b h1) (FRL.cons (.rs (VI h2)) FRL.nil))),rfl⟩
theorem b_api_Item:Br g_api_Item An:=⟨fun h=>h.1,fun h=>⟨h,rfl⟩,fun _=>rfl⟩
structure g_api_Key where
 Log:Int
 Key:UInt64
 Delay:Int
instance:GoT g_api_Key where
 sz:=GoT.sz (Int×UInt64×Int)
 rep m cs x:=GoT.rep (α:=Int×UInt64×Int) m cs (x.Log,x.Key,x.Delay)
 len h:=GoT.len (α:=Int×UInt64×Int) h
 up l h:=GoT.up (α:=Int×UInt64×Int) l h
 one h:=GoT.one (α:=Int×UInt64×Int) h
instance:Inhabited g_api_Key:=⟨⟨default,default,default⟩⟩
structure g_api_Head where
 Log:Int
 Size:Int
 Root:UInt64×UInt64
 At:Int
 Sig:g_api_Sig
instance:GoT g_api_Head where
 sz:=GoT.sz (Int×Int×(UInt64×UInt64)×Int×g_api_Sig)
 rep m cs x:=GoT.rep (α:=Int×Int×(UInt64×UInt64)×Int×g_api_Sig) m cs (x.Log,x.Size,x.Root,x.At,x.Sig)
 len h:=GoT.len (α:=Int×Int×(UInt64×UInt64)×Int×g_api_Sig) h
 up l h:=GoT.up (α:=Int×Int×(UInt64×UInt64)×Int×g_api_Sig) l h
 one h:=GoT.one (α:=Int×Int×(UInt64×UInt64)×Int×g_api_Sig) h
instance:Inhabited g_api_Head:=⟨⟨default,default,default,default,default⟩⟩
structure g_api_Pool where
 L:List g_api_Head
instance:GoT g_api_Pool where
 sz:=GoT.sz ((List g_api_Head))
 rep m cs x:=GoT.rep (α:=(List g_api_Head)) m cs x.L
 len h:=GoT.len (α:=(List g_api_Head)) h
 up l h:=GoT.up (α:=(List g_api_Head)) l h
 one h:=GoT.one (α:=(List g_api_Head)) h
instance:Inhabited g_api_Pool:=⟨⟨default⟩⟩
structure g_api_Sieve where
 Bits:Int
 Hashes:Int
 Salt:Int
 B:List UInt8
instance:GoT g_api_Sieve where
 sz:=GoT.sz (Int×Int×Int×(List UInt8))
 rep m cs x:=GoT.rep (α:=Int×Int×Int×(List UInt8)) m cs (x.Bits,x.Hashes,x.Salt,x.B)
 len h:=GoT.len (α:=Int×Int×Int×(List UInt8)) h
 up l h:=GoT.up (α:=Int×Int×Int×(List UInt8)) l h
 one h:=GoT.one (α:=Int×Int×Int×(List UInt8)) h
instance:Inhabited g_api_Sieve:=⟨⟨default,default,default,default⟩⟩
structure g_api_Cascade where
 Day:Int
 Levels:List g_api_Sieve
instance:GoT g_api_Cascade where
 sz:=GoT.sz (Int×(List g_api_Sieve))
 rep m cs x:=GoT.rep (α:=Int×(List g_api_Sieve)) m cs (x.Day,x.Levels)
 len h:=GoT.len (α:=Int×(List g_api_Sieve)) h
 up l h:=GoT.up (α:=Int×(List g_api_Sieve)) l h
 one h:=GoT.one (α:=Int×(List g_api_Sieve)) h
instance:Inhabited g_api_Cascade:=⟨⟨default,default⟩⟩
structure g_api_Client where
 Who:ByteArray
 Roots:List g_api_Cert
 Logs:List g_api_Key
 Pool:g_api_Pool
 Cascade:g_api_Cascade
 View:Int
instance:GoT g_api_Client where
 sz:=GoT.sz (ByteArray×(List g_api_Cert)×(List g_api_Key)×g_api_Pool×g_api_Cascade×Int)
 rep m cs x:=GoT.rep (α:=ByteArray×(List g_api_Cert)×(List g_api_Key)×g_api_Pool×g_api_Cascade×Int) m cs (x.Who,x.Roots,x.Logs,x.Pool,x.Cascade,x.View)
 len h:=GoT.len (α:=ByteArray×(List g_api_Cert)×(List g_api_Key)×g_api_Pool×g_api_Cascade×Int) h
 up l h:=GoT.up (α:=ByteArray×(List g_api_Cert)×(List g_api_Key)×g_api_Pool×g_api_Cascade×Int) l h
 one h:=GoT.one (α:=ByteArray×(List g_api_Cert)×(List g_api_Key)×g_api_Pool×g_api_Cascade×Int) h
instance:Inhabited g_api_Client:=⟨⟨default,default,default,default,default,default⟩⟩
structure Ak where
 Client:g_api_Client
instance:GoT Ak where
 sz:=GoT.sz (g_api_Client)
 rep m cs x:=GoT.rep (α:=g_api_Client) m cs x.Client
 len h:=GoT.len (α:=g_api_Client) h
 up l h:=GoT.up (α:=g_api_Client) l h
 one h:=GoT.one (α:=g_api_Client) h
instance:Inhabited Ak:=⟨⟨default⟩⟩
structure g_api_Place where
 Log:Int
 At:Int
 Size:Int
 Proof:List (UInt64×UInt64)
instance:GoT g_api_Place where
 sz:=GoT.sz (Int×Int×Int×(List (UInt64×UInt64)))
 rep m cs x:=GoT.rep (α:=Int×Int×Int×(List (UInt64×UInt64))) m cs (x.Log,x.At,x.Size,x.Proof)
 len h:=GoT.len (α:=Int×Int×Int×(List (UInt64×UInt64))) h
 up l h:=GoT.up (α:=Int×Int×Int×(List (UInt64×UInt64))) l h
 one h:=GoT.one (α:=Int×Int×Int×(List (UInt64×UInt64))) h
instance:Inhabited g_api_Place:=⟨⟨default,default,default,default⟩⟩
structure g_api_Offer where
 Path:List g_api_Cert
 Where:List g_api_Place
instance:GoT g_api_Offer where
 sz:=GoT.sz ((List g_api_Cert)×(List g_api_Place))
 rep m cs x:=GoT.rep (α:=(List g_api_Cert)×(List g_api_Place)) m cs (x.Path,x.Where)
 len h:=GoT.len (α:=(List g_api_Cert)×(List g_api_Place)) h
 up l h:=GoT.up (α:=(List g_api_Cert)×(List g_api_Place)) l h
 one h:=GoT.one (α:=(List g_api_Cert)×(List g_api_Place)) h
instance:Inhabited g_api_Offer:=⟨⟨default,default⟩⟩
structure g_api_Leaf where
 Body:List UInt8
 At:Int
instance:GoT g_api_Leaf where
 sz:=GoT.sz ((List UInt8)×Int)
 rep m cs x:=GoT.rep (α:=(List UInt8)×Int) m cs (x.Body,x.At)
 len h:=GoT.len (α:=(List UInt8)×Int) h
 up l h:=GoT.up (α:=(List UInt8)×Int) l h
 one h:=GoT.one (α:=(List UInt8)×Int) h
instance:Inhabited g_api_Leaf:=⟨⟨default,default⟩⟩
structure g_api_Log where
 Id:Int
 Key:UInt64
 Delay:Int
 L:List g_api_Leaf
 Hide:List Int
 Wait:List g_api_Leaf
instance:GoT g_api_Log where
 sz:=GoT.sz (Int×UInt64×Int×(List g_api_Leaf)×(List Int)×(List g_api_Leaf))
 rep m cs x:=GoT.rep (α:=Int×UInt64×Int×(List g_api_Leaf)×(List Int)×(List g_api_Leaf)) m cs (x.Id,x.Key,x.Delay,x.L,x.Hide,x.Wait)
 len h:=GoT.len (α:=Int×UInt64×Int×(List g_api_Leaf)×(List Int)×(List g_api_Leaf)) h
 up l h:=GoT.up (α:=Int×UInt64×Int×(List g_api_Leaf)×(List Int)×(List g_api_Leaf)) l h
 one h:=GoT.one (α:=Int×UInt64×Int×(List g_api_Leaf)×(List Int)×(List g_api_Leaf)) h
instance:Inhabited g_api_Log:=⟨⟨default,default,default,default,default,default⟩⟩
structure Ii where
 Account:Int
 Names:List ByteArray
 Key:UInt64
 Life:Int
instance:GoT Ii where
 sz:=GoT.sz (Int×(List ByteArray)×UInt64×Int)
 rep m cs x:=GoT.rep (α:=Int×(List ByteArray)×UInt64×Int) m cs (x.Account,x.Names,x.Key,x.Life)
 len h:=GoT.len (α:=Int×(List ByteArray)×UInt64×Int) h
 up l h:=GoT.up (α:=Int×(List ByteArray)×UInt64×Int) l h
 one h:=GoT.one (α:=Int×(List ByteArray)×UInt64×Int) h
instance:Inhabited Ii:=⟨⟨default,default,default,default⟩⟩
structure Am where
 size_:Int
 root_:UInt64×UInt64
instance:GoT Am where
 sz:=GoT.sz (Int×(UInt64×UInt64))
 rep m cs x:=GoT.rep (α:=Int×(UInt64×UInt64)) m cs (x.size_,x.root_)
 len h:=GoT.len (α:=Int×(UInt64×UInt64)) h
 up l h:=GoT.up (α:=Int×(UInt64×UInt64)) l h
 one h:=GoT.one (α:=Int×(UInt64×UInt64)) h
instance:Inhabited Am:=⟨⟨default,default⟩⟩
structure Cl where
 c_:g_api_Client
 o_:g_api_Offer
 logs_:List g_api_Log
instance:GoT Cl where
 sz:=GoT.sz (g_api_Client×g_api_Offer×(List g_api_Log))
 rep m cs x:=GoT.rep (α:=g_api_Client×g_api_Offer×(List g_api_Log)) m cs (x.c_,x.o_,x.logs_)
 len h:=GoT.len (α:=g_api_Client×g_api_Offer×(List g_api_Log)) h
 up l h:=GoT.up (α:=g_api_Client×g_api_Offer×(List g_api_Log)) l h
 one h:=GoT.one (α:=g_api_Client×g_api_Offer×(List g_api_Log)) h
instance:Inhabited Cl:=⟨⟨default,default,default⟩⟩
structure B3 where
 sieve_:g_api_Sieve
 e_:Int
instance:GoT B3 where
 sz:=GoT.sz (g_api_Sieve×Int)
 rep m cs x:=GoT.rep (α:=g_api_Sieve×Int) m cs (x.sieve_,x.e_)
 len h:=GoT.len (α:=g_api_Sieve×Int) h
 up l h:=GoT.up (α:=g_api_Sieve×Int) l h
 one h:=GoT.one (α:=g_api_Sieve×Int) h
instance:Inhabited B3:=⟨⟨default,default⟩⟩
structure Gu where
 lo_:UInt8
 hi_:UInt8
instance:GoT Gu where
 sz:=GoT.sz (UInt8×UInt8)
 rep m cs x:=GoT.rep (α:=UInt8×UInt8) m cs (x.lo_,x.hi_)
 len h:=GoT.len (α:=UInt8×UInt8) h
 up l h:=GoT.up (α:=UInt8×UInt8) l h
 one h:=GoT.one (α:=UInt8×UInt8) h
instance:Inhabited Gu:=⟨⟨default,default⟩⟩
theorem AbT {m:Mem}{cs:List Value}{x:g_api_Sieve}(h:GoT.rep m cs x): ∃v1,cs=[vI x.Bits,vI x.Hashes,vI x.Salt,v1]∧SlR m v1 x.B:=by
 obtain⟨_,_,rfl,rfl,⟨_,_,rfl,rfl,⟨_,_,rfl,rfl,⟨v1,rfl,h1⟩⟩⟩⟩:=h;exact⟨v1,rfl,h1⟩
theorem Aeq {m:Mem}{x:g_api_Sieve}{v1:Value}(h1:SlR m v1 x.B):GoT.rep m [vI x.Bits,vI x.Hashes,vI x.Salt,v1] x:=⟨[vI x.Bits],[vI x.Hashes,vI x.Salt,v1],rfl,rfl,⟨[vI x.Hashes],[vI x.Salt,v1],rfl,rfl,⟨[vI x.Salt],[v1],rfl,rfl,⟨_,rfl,h1⟩⟩⟩⟩
theorem Rc {m:Mem}{cs:List Value}{x:UInt64×UInt64}(h:GoT.rep m cs x):cs=[vU x.1,vU x.2]:=by
 obtain⟨_,_,rfl,rfl,rfl⟩:=h;exact rfl
theorem Sz {m:Mem}{x:UInt64×UInt64}:GoT.rep m [vU x.1,vU x.2] x:=⟨[vU x.1],[vU x.2],rfl,rfl,rfl⟩
theorem AbU {m:Mem}{cs:List Value}{x:g_api_Place}(h:GoT.rep m cs x): ∃v1,cs=[vI x.Log,vI x.At,vI x.Size,v1]∧SlR m v1 x.Proof:=by
 obtain⟨_,_,rfl,rfl,⟨_,_,rfl,rfl,⟨_,_,rfl,rfl,⟨v1,rfl,h1⟩⟩⟩⟩:=h;exact⟨v1,rfl,h1⟩
theorem Aer {m:Mem}{x:g_api_Place}{v1:Value}(h1:SlR m v1 x.Proof):GoT.rep m [vI x.Log,vI x.At,vI x.Size,v1] x:=⟨[vI x.Log],[vI x.At,vI x.Size,v1],rfl,rfl,⟨[vI x.At],[vI x.Size,v1],rfl,rfl,⟨[vI x.Size],[v1],rfl,rfl,⟨_,rfl,h1⟩⟩⟩⟩
theorem Ae6 {m:Mem}{cs:List Value}{x:g_api_Key}(h:GoT.rep m cs x):cs=[vI x.Log,vU x.Key,vI x.Delay]:=by
 obtain⟨_,_,rfl,rfl,⟨_,_,rfl,rfl,rfl⟩⟩:=h;exact rfl
theorem Ahs {m:Mem}{x:g_api_Key}:GoT.rep m [vI x.Log,vU x.Key,vI x.Delay] x:=⟨[vI x.Log],[vU x.Key,vI x.Delay],rfl,rfl,⟨[vU x.Key],[vI x.Delay],rfl,rfl,rfl⟩⟩
theorem Aem {m:Mem}{cs:List Value}{x:g_api_Head}(h:GoT.rep m cs x):cs=[vI x.Log,vI x.Size,vU x.Root.1,vU x.Root.2,vI x.At,vU x.Sig.E,vU x.Sig.S]:=by
 obtain⟨_,_,rfl,rfl,⟨_,_,rfl,rfl,⟨_,_,rfl,⟨_,_,rfl,rfl,rfl⟩,⟨_,_,rfl,rfl,⟨_,_,rfl,rfl,rfl⟩⟩⟩⟩⟩:=h;exact rfl
theorem Afy {m:Mem}{x:g_api_Head}:GoT.rep m [vI x.Log,vI x.Size,vU x.Root.1,vU x.Root.2,vI x.At,vU x.Sig.E,vU x.Sig.S] x:=⟨[vI x.Log],[vI x.Size,vU x.Root.1,vU x.Root.2,vI x.At,vU x.Sig.E,vU x.Sig.S],rfl,rfl,⟨[vI x.Size],[vU x.Root.1,vU x.Root.2,vI x.At,vU x.Sig.E,vU x.Sig.S],rfl,rfl,⟨[vU x.Root.1,vU x.Root.2],[vI x.At,vU x.Sig.E,vU x.Sig.S],rfl,⟨[vU x.Root.1],[vU x.Root.2],rfl,rfl,rfl⟩,⟨[vI x.At],[vU x.Sig.E,vU x.Sig.S],rfl,rfl,⟨[vU x.Sig.E],[vU x.Sig.S],rfl,rfl,rfl⟩⟩⟩⟩⟩
theorem Z0 {m:Mem}{cs:List Value}{x:Am}(h:GoT.rep m cs x):cs=[vI x.size_,vU x.root_.1,vU x.root_.2]:=by
 obtain⟨_,_,rfl,rfl,⟨_,_,rfl,rfl,rfl⟩⟩:=h;exact rfl
theorem AaP {m:Mem}{x:Am}:GoT.rep m [vI x.size_,vU x.root_.1,vU x.root_.2] x:=⟨[vI x.size_],[vU x.root_.1,vU x.root_.2],rfl,rfl,⟨[vU x.root_.1],[vU x.root_.2],rfl,rfl,rfl⟩⟩
theorem Ae5 {m:Mem}{cs:List Value}{x:g_api_Log}(h:GoT.rep m cs x): ∃v1,∃v2,∃v3,cs=[vI x.Id,vU x.Key,vI x.Delay,v1,v2,v3]∧SlR m v1 x.L∧SlR m v2 x.Hide∧SlR m v3 x.Wait:=by
 obtain⟨_,_,rfl,rfl,⟨_,_,rfl,rfl,⟨_,_,rfl,rfl,⟨_,_,rfl,⟨v1,rfl,h1⟩,⟨_,_,rfl,⟨v2,rfl,h2⟩,⟨v3,rfl,h3⟩⟩⟩⟩⟩⟩:=h;exact⟨v1,v2,v3,rfl,h1,h2,h3⟩
theorem Ahr {m:Mem}{x:g_api_Log}{v1:Value}{v2:Value}{v3:Value}(h1:SlR m v1 x.L)(h2:SlR m v2 x.Hide)(h3:SlR m v3 x.Wait):GoT.rep m [vI x.Id,vU x.Key,vI x.Delay,v1,v2,v3] x:=⟨[vI x.Id],[vU x.Key,vI x.Delay,v1,v2,v3],rfl,rfl,⟨[vU x.Key],[vI x.Delay,v1,v2,v3],rfl,rfl,⟨[vI x.Delay],[v1,v2,v3],rfl,rfl,⟨[v1],[v2,v3],rfl,⟨_,rfl,h1⟩,⟨[v2],[v3],rfl,⟨_,rfl,h2⟩,⟨_,rfl,h3⟩⟩⟩⟩⟩⟩
theorem Aen {m:Mem}{cs:List Value}{x:g_api_Cert}(h:GoT.rep m cs x): ∃v1,∃v2,∃v3,cs=[vI x.Serial,vS x.Issuer,vS x.Subject,vU x.Key,v1,vI x.From,vI x.Until,vb x.Ca,vI x.Depth,v2,v3,vU x.Sig.E,vU x.Sig.S]∧SlR m v1 x.Names∧SlR m v2 x.Permit∧SlR m v3 x.Proms:=by
 obtain⟨_,_,rfl,rfl,⟨_,_,rfl,rfl,⟨_,_,rfl,rfl,⟨_,_,rfl,rfl,⟨_,_,rfl,⟨v1,rfl,h1⟩,⟨_,_,rfl,rfl,⟨_,_,rfl,rfl,⟨_,_,rfl,rfl,⟨_,_,rfl,rfl,⟨_,_,rfl,⟨v2,rfl,h2⟩,⟨_,_,rfl,⟨v3,rfl,h3⟩,⟨_,_,rfl,rfl,rfl⟩⟩⟩⟩⟩⟩⟩⟩⟩⟩⟩⟩:=h;exact⟨v1,v2,v3,rfl,h1,h2,h3⟩
theorem Afz {m:Mem}{x:g_api_Cert}{v1:Value}{v2:Value}{v3:Value}(h1:SlR m v1 x.Names)(h2:SlR m v2 x.Permit)(h3:SlR m v3 x.Proms):GoT.rep m [vI x.Serial,vS x.Issuer,vS x.Subject,vU x.Key,v1,vI x.From,vI x.Until,vb x.Ca,vI x.Depth,v2,v3,vU x.Sig.E,vU x.Sig.S] x:=⟨[vI x.Serial],[vS x.Issuer,vS x.Subject,vU x.Key,v1,vI x.From,vI x.Until,vb x.Ca,vI x.Depth,v2,v3,vU x.Sig.E,vU x.Sig.S],rfl,rfl,⟨[vS x.Issuer],[vS x.Subject,vU x.Key,v1,vI x.From,vI x.Until,vb x.Ca,vI x.Depth,v2,v3,vU x.Sig.E,vU x.Sig.S],rfl,rfl,⟨[vS x.Subject],[vU x.Key,v1,vI x.From,vI x.Until,vb x.Ca,vI x.Depth,v2,v3,vU x.Sig.E,vU x.Sig.S],rfl,rfl,⟨[vU x.Key],[v1,vI x.From,vI x.Until,vb x.Ca,vI x.Depth,v2,v3,vU x.Sig.E,vU x.Sig.S],rfl,rfl,⟨[v1],[vI x.From,vI x.Until,vb x.Ca,vI x.Depth,v2,v3,vU x.Sig.E,vU x.Sig.S],rfl,⟨_,rfl,h1⟩,⟨[vI x.From],[vI x.Until,vb x.Ca,vI x.Depth,v2,v3,vU x.Sig.E,vU x.Sig.S],rfl,rfl,⟨[vI x.Until],[vb x.Ca,vI x.Depth,v2,v3,vU x.Sig.E,vU x.Sig.S],rfl,rfl,⟨[vb x.Ca],[vI x.Depth,v2,v3,vU x.Sig.E,vU x.Sig.S],rfl,rfl,⟨[vI x.Depth],[v2,v3,vU x.Sig.E,vU x.Sig.S],rfl,rfl,⟨[v2],[v3,vU x.Sig.E,vU x.Sig.S],rfl,⟨_,rfl,h2⟩,⟨[v3],[vU x.Sig.E,vU x.Sig.S],rfl,⟨_,rfl,h3⟩,⟨[vU x.Sig.E],[vU x.Sig.S],rfl,rfl,rfl⟩⟩⟩⟩⟩⟩⟩⟩⟩⟩⟩⟩
theorem Aek {m:Mem}{cs:List Value}{x:g_api_Leaf}(h:GoT.rep m cs x): ∃v1,cs=[v1,vI x.At]∧SlR m v1 x.Body:=by
 obtain⟨_,_,rfl,⟨v1,rfl,h1⟩,rfl⟩:=h;exact⟨v1,rfl,h1⟩
theorem Afw {m:Mem}{x:g_api_Leaf}{v1:Value}(h1:SlR m v1 x.Body):GoT.rep m [v1,vI x.At] x:=⟨[v1],[vI x.At],rfl,⟨_,rfl,h1⟩,rfl⟩
theorem Z1 {m:Mem}{cs:List Value}{x:g_api_Promise}(h:GoT.rep m cs x):cs=[vI x.Log,vI x.At,vU x.Leaf.1,vU x.Leaf.2,vU x.Sig.E,vU x.Sig.S]:=by
 obtain⟨_,_,rfl,rfl,⟨_,_,rfl,rfl,⟨_,_,rfl,⟨_,_,rfl,rfl,rfl⟩,⟨_,_,rfl,rfl,rfl⟩⟩⟩⟩:=h;exact rfl
theorem AaQ {m:Mem}{x:g_api_Promise}:GoT.rep m [vI x.Log,vI x.At,vU x.Leaf.1,vU x.Leaf.2,vU x.Sig.E,vU x.Sig.S] x:=⟨[vI x.Log],[vI x.At,vU x.Leaf.1,vU x.Leaf.2,vU x.Sig.E,vU x.Sig.S],rfl,rfl,⟨[vI x.At],[vU x.Leaf.1,vU x.Leaf.2,vU x.Sig.E,vU x.Sig.S],rfl,rfl,⟨[vU x.Leaf.1,vU x.Leaf.2],[vU x.Sig.E,vU x.Sig.S],rfl,⟨[vU x.Leaf.1],[vU x.Leaf.2],rfl,rfl,rfl⟩,⟨[vU x.Sig.E],[vU x.Sig.S],rfl,rfl,rfl⟩⟩⟩⟩
def Lf (p q:g_api_Sig):Bool:=[(p.E==q.E),(p.S==q.S)].all id
theorem RS {p q:g_api_Sig}:EqV Tryz.prog 2 36 (.agg ([vU p.E,vU p.S]:List Value).toArray) (.agg ([vU q.E,vU q.S]:List Value).toArray) (Lf p q):=
 EqV.struct (k:=1) (cs:=[vU p.E,vU p.S]) (ds:=[vU q.E,vU q.S]) (bs:=[(p.E==q.E),(p.S==q.S)]) Tryz.underlying36 (by kernel_rfl) ⟨⟨by decide,_,_,fd1 Tryz.isAgg32 Tryz.sizeOf32 rfl,fd1 Tryz.isAgg32 Tryz.sizeOf32 rfl,EqV.mono (EqV.u64 Tryz.underlying32) (by decide)⟩,⟨⟨by decide,_,_,fd1 Tryz.isAgg32 Tryz.sizeOf32 rfl,fd1 Tryz.isAgg32 Tryz.sizeOf32 rfl,EqV.mono (EqV.u64 Tryz.underlying32) (by decide)⟩,trivial⟩⟩
def XW (p q:g_api_Head):Bool:=[(p.Log==q.Log),(p.Size==q.Size),(Jf p.Root q.Root),(p.At==q.At),(Lf p.Sig q.Sig)].all id
theorem AhR {p q:g_api_Head}:EqV Tryz.prog 3 38 (.agg ([vI p.Log,vI p.Size,vU p.Root.1,vU p.Root.2,vI p.At,vU p.Sig.E,vU p.Sig.S]:List Value).toArray) (.agg ([vI q.Log,vI q.Size,vU q.Root.1,vU q.Root.2,vI q.At,vU q.Sig.E,vU q.Sig.S]:List Value).toArray) (XW p q):=
 EqV.struct (k:=2) (cs:=[vI p.Log,vI p.Size,vU p.Root.1,vU p.Root.2,vI p.At,vU p.Sig.E,vU p.Sig.S]) (ds:=[vI q.Log,vI q.Size,vU q.Root.1,vU q.Root.2,vI q.At,vU q.Sig.E,vU q.Sig.S]) (bs:=[(p.Log==q.Log),(p.Size==q.Size),(Jf p.Root q.Root),(p.At==q.At),(Lf p.Sig q.Sig)]) Tryz.underlying38 (by kernel_rfl) ⟨⟨by decide,_,_,fd1 Tryz.isAgg3 Tryz.sizeOf3 rfl,fd1 Tryz.isAgg3 Tryz.sizeOf3 rfl,EqV.mono (EqV.int Tryz.underlying3) (by decide)⟩,⟨⟨by decide,_,_,fd1 Tryz.isAgg3 Tryz.sizeOf3 rfl,fd1 Tryz.isAgg3 Tryz.sizeOf3 rfl,EqV.mono (EqV.int Tryz.underlying3) (by decide)⟩,⟨⟨by decide,_,_,fdA Tryz.isAgg34 Tryz.sizeOf34 rfl rfl,fdA Tryz.isAgg34 Tryz.sizeOf34 rfl rfl,EqV.mono (EqV.sum Tryz.underlying34 Tryz.underlying32 Tryz.sizeOf32 Tryz.isAgg32) (by decide)⟩,⟨⟨by decide,_,_,fd1 Tryz.isAgg3 Tryz.sizeOf3 rfl,fd1 Tryz.isAgg3 Tryz.sizeOf3 rfl,EqV.mono (EqV.int Tryz.underlying3) (by decide)⟩,⟨⟨by decide,_,_,fdA Tryz.isAgg36 Tryz.sizeOf36 rfl rfl,fdA Tryz.isAgg36 Tryz.sizeOf36 rfl rfl,EqV.mono (RS) (by decide)⟩,trivial⟩⟩⟩⟩⟩
def SD (p q:g_api_Promise):Bool:=[(p.Log==q.Log),(p.At==q.At),(Jf p.Leaf q.Leaf),(Lf p.Sig q.Sig)].all id
theorem Adu {p q:g_api_Promise}:EqV Tryz.prog 3 63 (.agg ([vI p.Log,vI p.At,vU p.Leaf.1,vU p.Leaf.2,vU p.Sig.E,vU p.Sig.S]:List Value).toArray) (.agg ([vI q.Log,vI q.At,vU q.Leaf.1,vU q.Leaf.2,vU q.Sig.E,vU q.Sig.S]:List Value).toArray) (SD p q):=
 EqV.struct (k:=2) (cs:=[vI p.Log,vI p.At,vU p.Leaf.1,vU p.Leaf.2,vU p.Sig.E,vU p.Sig.S]) (ds:=[vI q.Log,vI q.At,vU q.Leaf.1,vU q.Leaf.2,vU q.Sig.E,vU q.Sig.S]) (bs:=[(p.Log==q.Log),(p.At==q.At),(Jf p.Leaf q.Leaf),(Lf p.Sig q.Sig)]) Tryz.underlying63 (by kernel_rfl) ⟨⟨by decide,_,_,fd1 Tryz.isAgg3 Tryz.sizeOf3 rfl,fd1 Tryz.isAgg3 Tryz.sizeOf3 rfl,EqV.mono (EqV.int Tryz.underlying3) (by decide)⟩,⟨⟨by decide,_,_,fd1 Tryz.isAgg3 Tryz.sizeOf3 rfl,fd1 Tryz.isAgg3 Tryz.sizeOf3 rfl,EqV.mono (EqV.int Tryz.underlying3) (by decide)⟩,⟨⟨by decide,_,_,fdA Tryz.isAgg34 Tryz.sizeOf34 rfl rfl,fdA Tryz.isAgg34 Tryz.sizeOf34 rfl rfl,EqV.mono (EqV.sum Tryz.underlying34 Tryz.underlying32 Tryz.sizeOf32 Tryz.isAgg32) (by decide)⟩,⟨⟨by decide,_,_,fdA Tryz.isAgg36 Tryz.sizeOf36 rfl rfl,fdA Tryz.isAgg36 Tryz.sizeOf36 rfl rfl,EqV.mono (RS) (by decide)⟩,trivial⟩⟩⟩⟩
def Aaq (p q:g_api_Key):Bool:=[(p.Log==q.Log),(p.Key==q.Key),(p.Delay==q.Delay)].all id
theorem Aki {p q:g_api_Key}:EqV Tryz.prog 2 102 (.agg ([vI p.Log,vU p.Key,vI p.Delay]:List Value).toArray) (.agg ([vI q.Log,vU q.Key,vI q.Delay]:List Value).toArray) (Aaq p q):=
 EqV.struct (k:=1) (cs:=[vI p.Log,vU p.Key,vI p.Delay]) (ds:=[vI q.Log,vU q.Key,vI q.Delay]) (bs:=[(p.Log==q.Log),(p.Key==q.Key),(p.Delay==q.Delay)]) Tryz.underlying102 (by kernel_rfl) ⟨⟨by decide,_,_,fd1 Tryz.isAgg3 Tryz.sizeOf3 rfl,fd1 Tryz.isAgg3 Tryz.sizeOf3 rfl,EqV.mono (EqV.int Tryz.underlying3) (by decide)⟩,⟨⟨by decide,_,_,fd1 Tryz.isAgg32 Tryz.sizeOf32 rfl,fd1 Tryz.isAgg32 Tryz.sizeOf32 rfl,EqV.mono (EqV.u64 Tryz.underlying32) (by decide)⟩,⟨⟨by decide,_,_,fd1 Tryz.isAgg3 Tryz.sizeOf3 rfl,fd1 Tryz.isAgg3 Tryz.sizeOf3 rfl,EqV.mono (EqV.int Tryz.underlying3) (by decide)⟩,trivial⟩⟩⟩
structure Fq where
 k:Nat
 a:g_path_trip
def tab_2:List Gs:=[⟨1,428⟩,⟨2,299⟩,⟨4,429⟩,⟨12,430⟩,⟨48,432⟩]
def Ad (a:g_api_Promise):List D:=[.i a.Log,.i a.At,.u a.Leaf.1,.u a.Leaf.2,.u a.Sig.E,.u a.Sig.S]
def Ac (a:g_api_Cert):List D:=[.i a.Serial,.s a.Issuer,.s a.Subject,.u a.Key,.sl _ eS a.Names,.i a.From,.i a.Until,.t a.Ca,.i a.Depth,.sl _ eS a.Permit,.sl _ Ad a.Proms,.u a.Sig.E,.u a.Sig.S]
def EX (a:g_path_trip):List D:=[.sl _ Ac a.roots_,.sl _ Ac a.chain_,.s a.name_,.i a.now_]
def Lg (a:g_api_Sig):List D:=[.u a.E,.u a.S]
def Hi (a:Gs):List D:=[.i a.tag_,.v (fnV a.may_)]
def AdC (a:UInt64×UInt64×UInt64):List D:=[.u a.1,.u a.2.1,.u a.2.2]
def Ap (a:UInt64×UInt64):List D:=[.u a.1,.u a.2]
def OT (a:Fq):List D:=[.cl a.k (EX a.a)]
def Aj (a:g_api_Key):List D:=[.i a.Log,.u a.Key,.i a.Delay]
def Af (a:g_api_Head):List D:=[.i a.Log,.i a.Size,.u a.Root.1,.u a.Root.2,.i a.At,.u a.Sig.E,.u a.Sig.S]
def Ag (a:g_api_Sieve):List D:=[.i a.Bits,.i a.Hashes,.i a.Salt,.sl _ eB a.B]
def Cv (a:Ak):List D:=[.s a.Client.Who,.sl _ Ac a.Client.Roots,.sl _ Aj a.Client.Logs,.sl _ Af a.Client.Pool.L,.i a.Client.Cascade.Day,.sl _ Ag a.Client.Cascade.Levels,.i a.Client.View]
def Nh (a:g_api_Pool):List D:=[.sl _ Af a.L]
def Jg (a:g_api_Cascade):List D:=[.i a.Day,.sl _ Ag a.Levels]
def F6 (a:g_api_Client):List D:=[.s a.Who,.sl _ Ac a.Roots,.sl _ Aj a.Logs,.sl _ Af a.Pool.L,.i a.Cascade.Day,.sl _ Ag a.Cascade.Levels,.i a.View]
def A1 (a:g_api_Place):List D:=[.i a.Log,.i a.At,.i a.Size,.sl _ Ap a.Proof]
def XY (a:g_api_Offer):List D:=[.sl _ Ac a.Path,.sl _ A1 a.Where]
def Ai (a:g_api_Leaf):List D:=[.sl _ eB a.Body,.i a.At]
def Av (a:g_api_Log):List D:=[.i a.Id,.u a.Key,.i a.Delay,.sl _ Ai a.L,.sl _ eI a.Hide,.sl _ Ai a.Wait]
def Aau (a:Ii):List D:=[.i a.Account,.sl _ eS a.Names,.u a.Key,.i a.Life]
def AH (a:Am):List D:=[.i a.size_,.u a.root_.1,.u a.root_.2]
def P6 (a:Cl):List D:=[.s a.c_.Who,.sl _ Ac a.c_.Roots,.sl _ Aj a.c_.Logs,.sl _ Af a.c_.Pool.L,.i a.c_.Cascade.Day,.sl _ Ag a.c_.Cascade.Levels,.i a.c_.View,.sl _ Ac a.o_.Path,.sl _ A1 a.o_.Where,.sl _ Av a.logs_]
def MU (a:B3):List D:=[.i a.sieve_.Bits,.i a.sieve_.Hashes,.i a.sieve_.Salt,.sl _ eB a.sieve_.B,.i a.e_]
theorem PG:Br (UInt64×UInt64) Ap:=Br.mk' (Br.pair Br.u Br.u) Ap (fun x=>x) (fun _ _ _=>rfl) (fun _=>rfl) rfl
theorem R3:Br g_api_Sig Lg:=Br.mk' (Br.pair Br.u Br.u) Lg (fun x=>(x.E,x.S)) (fun _ _ _=>rfl) (fun _=>rfl) rfl
theorem Vi:Br g_api_Promise Ad:=Br.mk' (Br.pair Br.i (Br.pair Br.i (Br.pair PG R3))) Ad (fun x=>(x.Log,x.At,x.Leaf,x.Sig)) (fun _ _ _=>rfl) (fun _=>rfl) rfl
theorem AaJ:Br g_api_Cert Ac:=Br.mk' (Br.pair Br.i (Br.pair Br.s (Br.pair Br.s (Br.pair Br.u (Br.pair (Br.sl Br.s) (Br.pair Br.i (Br.pair Br.i (Br.pair Br.t (Br.pair Br.i (Br.pair (Br.sl Br.s) (Br.pair (Br.sl Vi) R3))))))))))) Ac (fun x=>(x.Serial,x.Issuer,x.Subject,x.Key,x.Names,x.From,x.Until,x.Ca,x.Depth,x.Permit,x.Proms,x.Sig)) (fun _ _ _=>rfl) (fun _=>rfl) rfl
theorem PF:Br g_api_Head Af:=Br.mk' (Br.pair Br.i (Br.pair Br.i (Br.pair PG (Br.pair Br.i R3)))) Af (fun x=>(x.Log,x.Size,x.Root,x.At,x.Sig)) (fun _ _ _=>rfl) (fun _=>rfl) rfl
theorem AaI:Br g_api_Leaf Ai:=Br.mk' (Br.pair (Br.sl Br.b) Br.i) Ai (fun x=>(x.Body,x.At)) (fun _ _ _=>rfl) (fun _=>rfl) rfl
end Go.Proofs.YtnhdojckpcbjeaaGreatDoor
end
