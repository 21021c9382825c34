/- Several texts, one behind the other. Conditions: none. -/
import Derived.Test.YtnhdojckpcbjeaaGreatDoorZe
import Derived.Test.YtnhdojckpcbjeaaGreatDoorZf
import Derived.KernelRfl
import Derived.Test.YtnhdojckpcbjeaaGreatDoorZg
set_option linter.unusedSimpArgs false
set_option linter.unusedVariables false
set_option maxHeartbeats 20000000
set_option maxRecDepth 100000
section
namespace Go.Ax
open Go Go.Gw
structure VK:Type 1 where
 id:Nat
 nb:Nat
 t:TypeId
 b:List AV
 a:List AV
def Ahd (C:List VK):List Tok:=C.map fun c=>(c.id,.box c.nb c.b c.t)
def Abn (C:List VK):List Tok:=C.map fun c=>(c.id,.box c.nb c.a c.t)
def capI (j:Nat):List VK→List AObj
 | []=> []
 |c::r=> .box j c.b c.t::capI (j+1) r
def capO (j:Nat):List VK→List AObj
 | []=> []
 |c::r=> .box j c.a c.t::capO (j+1) r
def capR (C:List VK):AV→AV
 | .pb (j+1) o=>match C[j]? with|some c=> .pb c.nb o|none=> .no
 |a=>a
def capK (C:List VK):AV→Bool
 | .pb 0 _=>false
 | .pb (j+1) _=>Nat.blt j C.length
 |a=>okA 0 a
def capE (η:Env)(y:Value)(C:List VK):Env:=fun k=>match k with
 |0=>some y
 |j+1=>match C[j]? with|some c=>η c.nb|none=>none
def capF (n1:Nat)(C:List VK):Bool:=C.all fun c=>Nat.blt c.nb n1&&(c.b.all (okA 0)&&c.a.all (okA 0))
theorem capRel {η η':Env}{m:Mem}{C:List VK}(he: ∀(j:Nat) (c:VK),C[j]? =some c→η' (j+1)=η c.nb){a:AV}{v:Value}(h:capK C a=true)(r:Rel η m (capR C a) v):Rel η' m a v:=by
 have key: ∀a,okA 0 a=true→Rel η m a v→Rel η' m a v:=fun a ha hr=>UX (n:=0) (fun k hk=>absurd hk (Nat.not_lt_zero k)) ha hr;cases a with
 |pb j o=>
  cases j with
  |zero=>cases h
  |succ j=>
   have hl:=Da (show Nat.blt j C.length=true from h);have hc:C[j]? =some C[j]:=Amn hl;have hr:Rel η m (match C[j]? with|some c=>AV.pb c.nb o|none=> .no) v:=r;rw[hc]at hr;obtain⟨b,hb,rfl⟩:=hr.pb_inv;exact .pb (by rw[he j _ hc]; exact hb)
 |_=>exact key _ h r
theorem Alk {η η':Env}{m:Mem}{C:List VK}(he: ∀(j:Nat) (c:VK),C[j]? =some c→η' (j+1)=η c.nb){aq:List AV}{vs:List Value}(h:aq.all (capK C)=true)(r:B5 η m (aq.map (capR C)) vs):B5 η' m aq vs:=
 ⟨by rw[←r.1,Amo],fun k a u ha hu=>capRel he (AlW.1 h a (Amh ha)) (r.2 k (capR C a) u (by rw[Ame,ha]; rfl) hu)⟩
theorem capIn {η η':Env}{m:Mem}: ∀{C D:List VK} {j:Nat},(∀(i:Nat) (c:VK),C[i]? =some c→η' (j+i)=η c.nb)→(C.all fun c=>c.b.all (okA 0))=true→
  ∀x,sepL ((Ahd C).map fun p=>rep η m p.2) x→sepL ((capI j C).map (rep η' m)) x
 | [],_,_,_,_,x,h=>h
 |c::r,D,j,he,ho,x,h=>by
  simp only[Amt,AlD]at ho;refine Ab3 (fun y hy=> ?_) (capIn (D:=D) (j:=j+1) (fun i d hd=>by rw[show j+1+i=j+(i+1)from by omega]; exact he (i+1) d (by simpa using hd)) ho.2) x h;obtain⟨b,vs,h1,h2,h3,h4⟩:=hy;exact⟨b,vs,by rw[show j=j+0 from rfl,he 0 c rfl]; exact h1,N7 (n:=0) (fun k hk=>absurd hk (Nat.not_lt_zero k)) ho.1 h2,h3,h4⟩
theorem AiA {η η':Env}{m:Mem}: ∀{C D:List VK} {j:Nat},(∀(i:Nat) (c:VK),C[i]? =some c→∀v,η' (j+i)=some v→η c.nb=some v)→(C.all fun c=>c.a.all (okA 0))=true→
  ∀x,sepL ((capO j C).map (rep η' m)) x→sepL ((Abn C).map fun p=>rep η m p.2) x
 | [],_,_,_,_,x,h=>h
 |c::r,D,j,he,ho,x,h=>by
  simp only[Amt,AlD]at ho;refine Ab3 (fun y hy=> ?_) (AiA (D:=D) (j:=j+1) (fun i d hd v hv=>he (i+1) d (by simpa using hd) v (by rw[show j+(i+1)=j+1+i from by omega]; exact hv)) ho.2) x h;obtain⟨b,vs,h1,h2,h3,h4⟩:=hy;exact⟨b,vs,he 0 c rfl _ h1,N7 (n:=0) (fun k hk=>absurd hk (Nat.not_lt_zero k)) ho.1 h2,h3,h4⟩
theorem Y2 {A:Ow}: ∀{l:List Ow} {x:PH},A∈l→sepL l x→∃y,A y
 | [],_,h,_=>by cases h
 |B::l,x,h,⟨k1,k2,a,s,_,_⟩=>by
  rcases Al6.1 h with rfl|h
  ·exact⟨k1,a⟩
  ·exact Y2 h s
theorem Afq {A B C D:List Ow}(h1: ∀x,sepL A x→sepL C x)(h2: ∀x,sepL B x→sepL D x)(x:PH)(h:sepL (A++B) x):sepL (C++D) x:=by
 obtain⟨k1,k2,s1,s2,dd,rfl⟩:=MH h;exact OM (h1 _ s1) (h2 _ s2) dd
section
variable {P:Program}{N:Nat}{D0:Dw}{Q:DQ}{As:List Ow}{η0:Env}{m0:Mem}
theorem M4 (hD:D0.2.2=false){n0:Nat}(n1 nx:Nat)(C:List VK){cf:Cf}{ι κ α:Type}{gt:Nat}{ps:List Nat}{gf:FuncId}{cs:List AV}{r0:AV}(sl0:Sl)(oJ:ι→List Tok)(oK:κ→List Tok)
  (A:α→List AV) (sB:ι→α→AS) (p:ι→α→Option (ι⊕κ)) (x0:ι) {s1:ι⊕κ} (hd: ∀n,η0 n≠none→n<n0)
  (hs: ∀(g:Value) (R:(ι⊕κ)→Mem→Ow),Z4 P g A R (Xz p)→Sp P gf (.ow 0::cs) (.hp 0 (.cb g (ι⊕κ) R (.inl x0))::capI 1 C) (C.length+1) (is r0 (.hp 0 (.cb g (ι⊕κ) R s1)::capO 1 C) (C.length+1)))
  (hsl:get sl0 gt= .fn (.func gf) [] (cs.map (capR C))) (hAl: ∀a,ps.length=(A a).length)
  (hJ: ∀x,(X2 (tids (oJ x))&&Wx nx (tids (oJ x)))=true) (hJC: ∀x,(X2 (tids (oJ x++Abn C))&&Wx nx (tids (oJ x++Abn C)))=true) (hK: ∀y,(X2 (tids (oK y++Abn C))&&Wx nx (tids (oK y++Abn C)))=true)
  (hA: ∀x a s',p x a=some s'→∀l D0 As η0 m0,(∀n,η0 n≠none→n<n1)→∀Jp,Bk As η0 m0 (fun _:Unit=>sB x a) (fun _=>True) Jp→Go (some l) P N D0 (retQ fun _ _=>False) As η0 m0 (asgC (aC P N cf) ⟨slz N sl0 ps (A a),oJ x,[],nx⟩ Jp))
  (hB: ∀x a s',p x a=some s'→∀l D0 As η0 m0,(∀n,η0 n≠none→n<n1)→∀Jp,Bk As η0 m0 (fun y=>⟨sl0,oJ y,[],nx⟩) (fun y=>s'= .inl y) Jp→∀Jr,Bk As η0 m0 (fun y=>⟨sl0,oK y,[],nx⟩) (fun y=>s'= .inr y) Jr→
   Go (some l) P N D0 (retQ Jr) As η0 m0 (bodC (aC P N cf) (sB x a) Jp))
  (h1: ∀x,s1= .inl x→Go none P N D0 Q As η0 m0 ⟨⟨sl0,oJ x++Abn C,[],nx⟩,.pop,(aC P N cf).K⟩)
  (h2: ∀y,s1= .inr y→Go none P N D0 Q As η0 m0 ⟨⟨sl0,oK y++Abn C,[],nx⟩,.ret,(aC P N cf).K⟩)
  (e:(rgK (aC P N cf),vwL (aC P N cf).s ⟨sl0,oJ x0++Ahd C,[],nx⟩ n0,(vwP (aC P N cf).s ⟨sl0,oJ x0++Ahd C,[],nx⟩).isSome,bL P N cf)=(some (gt,ps),vwR (aC P N cf).s ⟨sl0,oJ x0++Ahd C,[],nx⟩,true,bR P N cf):=by kernel_rfl)
  (hok:(cs.all (capK C)&&((sl0.map (·.2)).all (okA n1)&&(Nat.ble n0 n1&&capF n1 C)))=true:=by kernel_rfl) (hm:P.follows .mixedOrders=true:=by rfl):Go none P N D0 Q As η0 m0 cf:=by
 simp only[AlE]at e;obtain⟨e1,e2,e4,e3⟩:=e;refine A2 hm (.of e3) ?_;generalize aC P N cf=c0 at*;obtain⟨s,md,K⟩:=c0;unfold rgK at e1;split at e1
 ·rename_i g' ps' asg bo hmd;simp only at hmd; subst hmd;simp only[AlJ,AlE]at e1;obtain⟨rfl,rfl⟩:=e1;simp only[AlD]at hok;obtain⟨o1,o2,o3,o4⟩:=hok;have o3:=AlS o3;have o4': ∀c∈C,c.nb<n1∧c.b.all (okA 0)=true∧c.a.all (okA 0)=true:=fun c hc=>by
   have:=AlW.1 o4 c hc;simp only[AlD]at this;exact⟨Da this.1,this.2.1,this.2.2⟩
  intro η m f w a1 a2 g;obtain⟨η1,m1,l1,le1,g1⟩:=Uw e2 e4 hd a1 g;have hfn:Rel η1 m1 (get sl0 g') (f g'):=g1.slr g';rw[hsl]at hfn;obtain⟨us,caps,hv,hu,hc⟩:=hfn.fn_inv;have:=hu.nil_inv; subst this;have he: ∀k,k<n1→Ae2 η1 n1 k=η1 k:=fun k hk=>AlH hk;have hslc: ∀t,Rel (Ae2 η1 n1) m1 (get sl0 t) (f t):=fun t=>UX he (AdP o2 t) (g1.slr t);have hle:η0.le (Ae2 η1 n1):=fun k v hk=>by
   unfold Ae2; rw[AlH (AmL (hd k (by rw[hk]; simp)) o3)]; exact le1 k v hk
  have hdc: ∀n,Ae2 η1 n1 n≠none→n<n1:=fun k hk=>by
   unfold Ae2 at hk;split at hk
   ·assumption
   ·exact absurd rfl hk
  have hce:(Ae2 η1 n1).le η1:=fun k v hk=>by
   unfold Ae2 at hk;split at hk
   ·exact hk
   ·cases hk
  have eg: ∀(args:Array Value) w,(callFunc gf args).run P w= .ok (.enter gf args) w:=
   (hs undef (fun _ _ _=>False) (fun s x r _ m vs As w _ S=>by
    obtain⟨h,⟨h1,h2,⟨_,_,ff⟩,_⟩,_⟩:=S.own;exact ff.elim)).1
  have hps:ps'.toList.toArray=ps':=by simp
  rw[←hps];have gst:St m1 (reps η1 m1 (oJ x0)++As++(Ahd C).map fun p=>rep η1 m1 p.2) w:=by
   have:=g1.st;rw[show(⟨sl0,oJ x0++Ahd C,[],nx⟩:AS).ob=oJ x0++Ahd C from rfl,BB,AlP]at this;refine this.perm ?_;rw[AlP];exact Al7 _ List.perm_append_comm
  have hnb: ∀c∈C,∃b,η1 c.nb=some (pt b 0):=fun c hc=>by
   obtain⟨x,hx,_⟩:=gst.own;obtain⟨y,b,vs,hb,_⟩:=Y2 (A:=rep η1 m1 (.box c.nb c.b c.t)) (List.mem_append_right _ (List.mem_map.2 ⟨_,List.mem_map.2 ⟨c,hc,rfl⟩,rfl⟩)) hx;exact⟨b,hb⟩
  refine T5 gst (show ev f (.tmp g')=_ from hv) eg (fun l i w1 hi S1=> ?_) hD;have hcb:Z4 P (.func (.yield l) #[] #[]) A (rgR l i oJ oK As (Ae2 η1 n1) m1 nx) (Xz p):=rg_cb hi hdc hslc hAl hJ (fun x a s' h l D0 As η0 m0 hd=>hA x a s' h l D0 As η0 m0 hd _ ⟨fun _ _ h=>h⟩) (fun x a s' h l D0 As η0 m0 hd=>hB x a s' h l D0 As η0 m0 hd _ ⟨fun _ _ h=>h⟩ _ ⟨fun _ _ h=>h⟩);have hE: ∀(j:Nat) (c:VK),C[j]? =some c→capE η1 (.func (.yield l) #[] #[]) C (j+1)=η1 c.nb:=fun j c h=>by
   show(match C[j]? with|some c=>η1 c.nb|none=>none)=_;rw[h]
  have sp:=(hs _ _ hcb).2 (capE η1 (.func (.yield l) #[] #[]) C) m1 [] w1 (.func (.yield l) #[] #[]::caps) (B5.cons (.ow rfl rfl) (Alk hE o1 hc))
   (fun k hk=>by
    cases k with
    |zero=>omega
    |succ j=>
     by_cases hj:j<C.length
     ·omega
     ·exact absurd (show(match C[j]? with|some c=>η1 c.nb|none=>none)=none from by rw[List.getElem?_eq_none (by omega)]) hk)
   (by
    obtain⟨x,hx,hr⟩:=S1.own;refine⟨S1.os,S1.tape,S1.output,x,?_,hr⟩;rw[Amf];have hx':sepL ([fun h=>sepL (Lp l i .ready none::(reps η1 m1 (oJ x0)++As)) h]++(Ahd C).map fun p=>rep η1 m1 p.2) x:=by
     have hx:sepL ((Lp l i .ready none::(reps η1 m1 (oJ x0)++As))++(Ahd C).map fun p=>rep η1 m1 p.2) x:=hx;obtain⟨k1,k2,s1,s2,dd,rfl⟩:=MH hx;exact OM (Y1 s1) s2 dd
    show sepL ([rep (capE η1 (.func (.yield l) #[] #[]) C) m1 (AObj.hp 0 (.cb (.func (.yield l) #[] #[]) (ι⊕κ) (rgR l i oJ oK As (Ae2 η1 n1) m1 nx) (.inl x0)))]++(capI 1 C).map (rep (capE η1 (.func (.yield l) #[] #[]) C) m1)) x;exact Afq (fun y hy=>by
     have hy:=Ab2 hy;exact Y1 ⟨0,rfl,m1,Mem.rfl' m1,η1,hce,Mem.rfl' m1,fun n hn=>g1.dom n hn,hy⟩) (capIn (D:=C) (j:=1) (fun i c h=>by rw[AmM]; exact hE i c h) (AlW.2 fun c hc=>(o4' c hc).2.1)) x hx')
  refine sp.mono ?_;rintro v w2 ⟨M,η2,r,obs',n2,l2,le2,⟨rfl,rfl,rfl⟩,dom2,rr,S2⟩;obtain⟨x,hx,hr⟩:=S2.own;rw[Amf]at hx;obtain⟨k1,k2,⟨b,hb,M0,lM,η3,c1,c2,c3,c4⟩,s2,dd,rfl⟩:=hx;have hn3: ∀c∈C,∀v,η1 c.nb=some v→η3 c.nb=some v:=fun c hc v hv=>c1 _ _ (by rw[he _ (o4' c hc).1]; exact hv);have s3:=AiA (η:=η3) (D:=C) (j:=1) (fun i c h v hv=>by
   have hc:=Amh h;cases hq:η1 c.nb with
   |none=>
    obtain⟨b,hb⟩:=hnb c hc;rw[hb]at hq; cases hq
   |some u=>
    have:=le2 (i+1) u (by rw[hE i c h]; exact hq);rw[AmM]at hv;rw[this]at hv;rw[←AlC hv]; exact hn3 c hc u hq) (AlW.2 fun c hc=>(o4' c hc).2.2) k2 s2
  have S3:St M (Lp l i (rgSt s1).1 (rgSt s1).2::(reps η3 M0 (rgOb oJ oK s1)++As++(Abn C).map fun p=>rep η3 M p.2)) w2:=by
   refine⟨S2.os,S2.tape,S2.output,_,?_,hr⟩;have:=OM c4 s3 dd;exact this
  refine⟨M,(rgSt s1).1,(rgSt s1).2,_,l2,(by cases s1<;>exact fun h=>(by cases h)),S3,fun M' w3 lM' S4=> ?_⟩;have S4a:St M' (reps η3 M0 (rgOb oJ oK s1)++(As++(Abn C).map fun p=>rep η3 M p.2)) w3:=by rw[←AlP]; exact S4
  have S4b:=St.ru Env.le_refl (Mem.tr lM lM') S4a;have S4c:St M' (reps η3 M (Abn C)++(reps η3 M' (rgOb oJ oK s1)++As)) w3:=S4b.perm (by
   rw[←AlP]; exact List.perm_append_comm)
  have S5:St M' (reps η3 M' (rgOb oJ oK s1++Abn C)++As) w3:=(St.ru Env.le_refl lM' S4c).perm (by
   rw[BB,AlP];exact AlR _ _ _)
  have lm:m0≤M':=Mem.tr a2 (Mem.tr l1 (Mem.tr l2 lM'));have hsr: ∀t,Rel η3 M' (get sl0 t) (f t):=fun t=>(hslc t).up c1 (Mem.tr l2 lM');cases s1 with
  |inl x1=>
   have hj:=hJC x1;simp only[AlD]at hj;exact h1 x1 rfl η3 M' f w3 (Env.le_tr hle c1) lm ⟨hsr,fun n d h=>(by cases h),c3,S5,I0 hj.1,fun t ht=>OW hj.2 t ht⟩
  |inr y=>
   have hj:=hK y;simp only[AlD]at hj;have gr:=RH hm (cf:=⟨⟨sl0,oK y++Abn C,[],nx⟩,.code .ret,K⟩) rfl trivial (h2 y rfl);exact gr η3 M' f w3 (Env.le_tr hle c1) lm ⟨hsr,fun n d h=>(by cases h),c3,S5,I0 hj.1,fun t ht=>OW hj.2 t ht⟩
 ·cases e1
end
def pN {σ α:Type}(b:α→σ→Option σ)(s:σ)(x:α):Option (σ⊕Unit):=(b x s).map .inl
def fJ {σ:Type}(z:σ×Nat):σ⊕(σ×Nat):=if z.2=0 then .inl z.1 else .inr z
def pJ {σ α:Type}(b:α→σ×Nat→Option (σ×Nat))(s:σ)(x:α):Option (σ⊕(σ×Nat)):=(b x (s,0)).map fJ
theorem hyN {σ α:Type}{b:α→σ→Option σ}: ∀(s:σ) (x:α) (r:Bool×σ),(fun(s:σ) (x:α)=>Ab (b x s) fun y=>some (true,y)) s x=some r→Xz (pN b) (.inl s) x=some (r.1,.inl r.2):=fun s x r h=>by
 obtain⟨y,hy,h⟩:=Ae h;cases h;show((b x s).map Sum.inl).map _=_;rw[hy]; rfl
theorem hyJ {σ α:Type}{b:α→σ×Nat→Option (σ×Nat)}: ∀(s:σ×Nat) (x:α) (r:Bool×(σ×Nat)),(fun(s:σ×Nat) (x:α)=>if s.2=0 then Ab (b x s) fun y=>some (y.2==0,y)else none) s x=some r→Xz (pJ b) (fJ s) x=some (r.1,fJ r.2):=fun s x r h=>by
 obtain⟨s1,k⟩:=s;by_cases hk:k=0
 ·subst hk;have h:(Ab (b x (s1,0)) fun y=>some (y.2==0,y))=some r:=h;obtain⟨y,hy,h⟩:=Ae h;cases h;show((b x (s1,0)).map fJ).map _=_;rw[hy];obtain⟨y1,k⟩:=y;show some (isL (fJ (y1,k)),fJ (y1,k))=some (k==0,fJ (y1,k));unfold fJ;by_cases hk:k=0
  ·subst hk; rfl
  ·rw[AlG (show¬(y1,k).2=0 from hk)];have:(k==0)=false:=by simpa using hk
   rw[this]; rfl
 ·have h:(if k=0 then _ else none)=some r:=h;rw[AlG hk]at h; cases h
theorem ZJ {σ:Type}{z:σ×Nat}{x:σ}(h:fJ z= .inl x):z.2=0∧z.1=x:=by
 unfold fJ at h;split at h
 ·rename_i hz; exact⟨hz,Sum.inl.inj h⟩
 ·cases h
theorem ZI {σ:Type}{z y:σ×Nat}(h:fJ z= .inr y): ¬z.2=0∧z=y:=by
 unfold fJ at h;split at h
 ·cases h
 ·rename_i hz; exact⟨hz,Sum.inr.inj h⟩
section
variable {P:Program}
theorem via {τ ι κ α:Type}{A:α→List AV}{y:τ→α→Option (Bool×τ)}{p:ι→α→Option (ι⊕κ)}(f:τ→ι⊕κ){gf:FuncId}{args:List AV}{O O':List AObj}{n:Nat}{r0:AV}{t0 t1:τ}{x0:ι}
  (hy: ∀s x r,y s x=some r→Xz p (f s) x=some (r.1,f r.2)) (h0:f t0= .inl x0)
  (hs: ∀(g:Value) (R:τ→Mem→Ow),Z4 P g A R y→Sp P gf args (.hp 0 (.cb g τ R t0)::O) n (is r0 (.hp 0 (.cb g τ R t1)::O') n)) (g:Value) (R:(ι⊕κ)→Mem→Ow) (hc:Z4 P g A R (Xz p)):
  Sp P gf args (.hp 0 (.cb g (ι⊕κ) R (.inl x0))::O) n (is r0 (.hp 0 (.cb g (ι⊕κ) R (f t1))::O') n):=by
 have h:=hs g (fun s=>R (f s)) (fun s x r h m vs As w hv S=>hc (f s) x (r.1,f r.2) (hy s x r h) m vs As w hv S);rw[←h0];refine⟨h.1,fun η m As w vs hv hd S=> ?_⟩;refine(h.2 η m As w vs hv hd S).mono ?_;rintro v w' ⟨M,η',r,obs',n',l,le,⟨rfl,rfl,rfl⟩,dom,rr,S'⟩;exact⟨M,η',_,_,_,l,le,⟨rfl,rfl,rfl⟩,dom,rr,S'⟩
end
section
variable {P:Program}{ρ:Option Nat}{N:Nat}{D0:Dw}{Q:DQ}{As:List Ow}{η0:Env}{m0:Mem}{cf:Cf}{n0:Nat}{σ τ α:Type}
def Nx (As:List Ow)(η0:Env)(m0:Mem)(J:σ→AS)(b:σ→Option (σ⊕τ))(x:τ)(Jl:Fr→World→Prop)(y:σ⊕τ):Prop:= ∃n,Bk As η0 m0 (fun p:Nat×σ=>J p.2) (fun p=>iter b p.1 p.2=some x∧p.1<n+1) Jl∧((∃s,y= .inl s∧iter b n s=some x)∨y= .inr x)
theorem gI {b:σ→Option (σ⊕τ)}{n:Nat}{s0:σ}{x:τ}(q:iter b n s0=some x)(J:σ→AS)(h: ∀s y Jl,b s=some y→Nx As η0 m0 J b x Jl y→Go ρ P N D0 Q As η0 m0 (rndC (aC P N cf) (J s) Jl))(hd: ∀n,η0 n≠none→n<n0:=by assumption)
  (e:((Zs (aC P N cf)).isSome,vwL (aC P N cf).s (J s0) n0,(vwP (aC P N cf).s (J s0)).isSome,bL P N cf)=(true,vwR (aC P N cf).s (J s0),true,bR P N cf):=by kernel_rfl) (hM:P.follows .mixedOrders=true:=by rfl):
  Go ρ P N D0 Q As η0 m0 cf:=
 gl hd (fun p:Nat×σ=>J p.2) (fun p=>iter b p.1 p.2=some x) (fun p=>p.1) (n,s0) q (by
  rintro⟨n,s⟩ hq Jl bl;cases n with
  |zero=>exact(Adw hq).elim
  |succ n=>obtain⟨y,h1,h2⟩:=WD hq; exact h s y Jl h1 ⟨n,bl,h2⟩) e hM
theorem gN {J:σ→AS}{b:σ→Option (σ⊕τ)}{x:τ}{Jl:Fr→World→Prop}{y:σ⊕τ}{s:σ}(nx:Nx As η0 m0 J b x Jl y)(q:some (Sum.inl s)=some y)(hd: ∀n,η0 n≠none→n<n0:=by assumption)
  (e:(Abb (aC P N cf),vwL (aC P N cf).s (J s) n0,(vwP (aC P N cf).s (J s)).isSome,bL P N cf)=(some Jl,vwR (aC P N cf).s (J s),true,bR P N cf):=by kernel_rfl) (hM:P.follows .mixedOrders=true:=by rfl):
  Go ρ P N D0 Q As η0 m0 cf:=by
 cases q; obtain⟨n,bl,h⟩:=nx;rcases h with ⟨s',hs,h⟩|h
 ·cases hs; exact gb bl hd (n,_) ⟨h,AlX _⟩ e hM
 ·cases h
theorem nR {J:σ→AS}{b:σ→Option (σ⊕τ)}{x v:τ}{Jl:Fr→World→Prop}{y:σ⊕τ}(nx:Nx As η0 m0 J b x Jl y)(q:some (Sum.inr v)=some y):v=x:=by
 cases q; obtain⟨n,-,⟨s,h,-⟩|h⟩:=nx
 ·cases h
 ·cases h; rfl
structure Pr (σ:Type) where
 n:Nat
 p:Nat→σ→Prop
def E0 (b:Int→α→σ→Option σ)(xs:List α)(x:σ):Pr σ:=⟨xs.length,fun i s=>DP b (xs.drop i) i s=some x⟩
def ER (b:Int→α→σ→Option (σ⊕τ))(xs:List α)(x:σ⊕τ):Pr σ:=⟨xs.length,fun i s=>DK b (xs.drop i) i s=some x⟩
def EM (b:Int→σ→Option σ)(n:Nat)(x:σ):Pr σ:=⟨n,fun i s=>CX b (n-i) i s=some x⟩
def EN (b:Int→σ→Option (σ⊕τ))(n:Nat)(x:σ⊕τ):Pr σ:=⟨n,fun i s=>BV b (n-i) i s=some x⟩
def Ng (As:List Ow)(η0:Env)(m0:Mem)(J:Int→σ→AS)(r:Pr σ)(Jl:Fr→World→Prop)(i:Nat):Prop:=i<r.n∧Bk As η0 m0 (fun p:Int×σ=>J p.1 p.2) (fun p=>(∃i:Nat,p.1=(i:Int)∧i≤r.n∧r.p i p.2)∧r.n-p.1.toNat<r.n-((i:Int)).toNat) Jl
def Nf (As:List Ow)(η0:Env)(m0:Mem)(J:Int→σ→AS)(r:Pr σ)(Jl:Fr→World→Prop)(i:Nat)(s:σ):Prop:=r.p i s∧(i<r.n→Ng As η0 m0 J r Jl i)
theorem gF (r:Pr σ){s0:σ}(q:r.p 0 s0)(J:Int→σ→AS)(h: ∀(i:Nat) s Jl,Nf As η0 m0 J r Jl i s→Go ρ P N D0 Q As η0 m0 (rndC (aC P N cf) (J i s) Jl))(hd: ∀n,η0 n≠none→n<n0:=by assumption)
  (e:((Zs (aC P N cf)).isSome,vwL (aC P N cf).s (J 0 s0) n0,(vwP (aC P N cf).s (J 0 s0)).isSome,bL P N cf)=(true,vwR (aC P N cf).s (J 0 s0),true,bR P N cf):=by kernel_rfl) (hM:P.follows .mixedOrders=true:=by rfl):
  Go ρ P N D0 Q As η0 m0 cf:=
 gl hd (fun p:Int×σ=>J p.1 p.2) (fun p=> ∃i:Nat,p.1=(i:Int)∧i≤r.n∧r.p i p.2) (fun p=>r.n-p.1.toNat) (0,s0) ⟨0,rfl,AmO _,q⟩ (by
  rintro⟨_,s⟩ ⟨i,rfl,hi,h1⟩ Jl bl;exact h i s Jl ⟨h1,fun hl=>⟨hl,bl⟩⟩) e hM
theorem gG {J:Int→σ→AS}{r:Pr σ}{Jl:Fr→World→Prop}{i:Nat}{s:σ}(ng:Ng As η0 m0 J r Jl i)(hn:r.n≤9223372036854775807)(q:r.p (i+1) s)(hd: ∀n,η0 n≠none→n<n0:=by assumption)
 (e:(Abb (aC P N cf),vwL (aC P N cf).s (J (w64 ((i:Int)+1)) s) n0,(vwP (aC P N cf).s (J (w64 ((i:Int)+1)) s)).isSome,bL P N cf)=(some Jl,vwR (aC P N cf).s (J (w64 ((i:Int)+1)) s),true,bR P N cf):=by kernel_rfl) (hM:P.follows .mixedOrders=true:=by rfl):
 Go ρ P N D0 Q As η0 m0 cf:=gb ng.2 hd (w64 ((i:Int)+1),s) ⟨⟨i+1,YP ng.1 hn,ng.1,q⟩,mu_lt ng.1 hn⟩ e hM
theorem gC {J:Int→σ→AS}{r:Pr σ}{Jl:Fr→World→Prop}{i:Nat}{s:σ}(nf:Nf As η0 m0 J r Jl i s)(t:Int)(ht:(i:Int)<t↔i<r.n)(h1:i<r.n→Ng As η0 m0 J r Jl i→r.p i s→Go ρ P N D0 Q As η0 m0 (way true (aC P N cf)))(h0: ¬i<r.n→r.p i s→Go ρ P N D0 Q As η0 m0 (way false (aC P N cf)))
 (e:(Sg (aC P N cf),bL P N cf)=(some (decide ((i:Int)<t)),bR P N cf):=by kernel_rfl) (hM:P.follows .mixedOrders=true:=by rfl):
 Go ρ P N D0 Q As η0 m0 cf:=gi' (fun h=>have h:=ht.1 (Amx h); h1 h (nf.2 h) nf.1) (fun h=>h0 (fun h'=>of_decide_eq_false h (ht.2 h')) nf.1) e hM
theorem c0 {b:Int→α→σ→Option σ}{xs:List α}{x:σ}{J:Int→σ→AS}{Jl:Fr→World→Prop}{i:Nat}{s:σ}(nf:Nf As η0 m0 J (E0 b xs x) Jl i s)(h1: ∀z y,idx xs i=some z→b i z s=some y→Ng As η0 m0 J (E0 b xs x) Jl i∧(E0 b xs x).p (i+1) y→Go ρ P N D0 Q As η0 m0 (way true (aC P N cf)))(h0:x=s→Go ρ P N D0 Q As η0 m0 (way false (aC P N cf)))
 (e:(Sg (aC P N cf),bL P N cf)=(some (decide ((i:Int)<(xs.length:Int))),bR P N cf):=by kernel_rfl) (hM:P.follows .mixedOrders=true:=by rfl):
 Go ρ P N D0 Q As η0 m0 cf:=gC nf _ Int.ofNat_lt (fun hl ng q=>let ⟨z,y,a,b,c⟩:=Ag4 q hl; h1 z y a b ⟨ng,c⟩) (fun hl q=>h0 (Ad6 q hl)) e hM
theorem cR {b:Int→α→σ→Option (σ⊕τ)}{xs:List α}{x:σ⊕τ}{J:Int→σ→AS}{Jl:Fr→World→Prop}{i:Nat}{s:σ}(nf:Nf As η0 m0 J (ER b xs x) Jl i s)(h1: ∀z y,idx xs i=some z→b i z s=some y→Ng As η0 m0 J (ER b xs x) Jl i∧((∃s',y= .inl s'∧(ER b xs x).p (i+1) s')∨(∃t,y= .inr t∧x= .inr t))→Go ρ P N D0 Q As η0 m0 (way true (aC P N cf)))(h0: .inl s=x→Go ρ P N D0 Q As η0 m0 (way false (aC P N cf)))
 (e:(Sg (aC P N cf),bL P N cf)=(some (decide ((i:Int)<(xs.length:Int))),bR P N cf):=by kernel_rfl) (hM:P.follows .mixedOrders=true:=by rfl):
 Go ρ P N D0 Q As η0 m0 cf:=gC nf _ Int.ofNat_lt (fun hl ng q=>let ⟨z,y,a,b,c⟩:=Ag0 q hl; h1 z y a b ⟨ng,c⟩) (fun hl q=>h0 (Ad3 q hl).symm) e hM
theorem cM {b:Int→σ→Option σ}{n:Nat}{x:σ}{J:Int→σ→AS}{Jl:Fr→World→Prop}{i:Nat}{s:σ}(nf:Nf As η0 m0 J (EM b n x) Jl i s)(t:Int)(h1: ∀y,b i s=some y→Ng As η0 m0 J (EM b n x) Jl i∧(EM b n x).p (i+1) y→Go ρ P N D0 Q As η0 m0 (way true (aC P N cf)))(h0:x=s→Go ρ P N D0 Q As η0 m0 (way false (aC P N cf)))
 (e:(Sg (aC P N cf),bL P N cf)=(some (decide ((i:Int)<t)),bR P N cf):=by kernel_rfl) (ht:(i:Int)<t↔i<n:=by first|omega|exact Int.lt_toNat.symm) (hM:P.follows .mixedOrders=true:=by rfl):
 Go ρ P N D0 Q As η0 m0 cf:=gC nf t ht (fun hl ng q=>let ⟨y,b,c⟩:=Ad5 q hl; h1 y b ⟨ng,c⟩) (fun hl q=>h0 (AaV q hl)) e hM
theorem cN {b:Int→σ→Option (σ⊕τ)}{n:Nat}{x:σ⊕τ}{J:Int→σ→AS}{Jl:Fr→World→Prop}{i:Nat}{s:σ}(nf:Nf As η0 m0 J (EN b n x) Jl i s)(t:Int)(h1: ∀y,b i s=some y→Ng As η0 m0 J (EN b n x) Jl i∧((∃s',y= .inl s'∧(EN b n x).p (i+1) s')∨(∃t,y= .inr t∧x= .inr t))→Go ρ P N D0 Q As η0 m0 (way true (aC P N cf)))(h0: .inl s=x→Go ρ P N D0 Q As η0 m0 (way false (aC P N cf)))
 (e:(Sg (aC P N cf),bL P N cf)=(some (decide ((i:Int)<t)),bR P N cf):=by kernel_rfl) (ht:(i:Int)<t↔i<n:=by first|omega|exact Int.lt_toNat.symm) (hM:P.follows .mixedOrders=true:=by rfl):
 Go ρ P N D0 Q As η0 m0 cf:=gC nf t ht (fun hl ng q=>let ⟨y,b,c⟩:=Ag1 q hl; h1 y b ⟨ng,c⟩) (fun hl q=>h0 (Ad4 q hl).symm) e hM
theorem gM {J:Int→σ→AS}{r:Pr σ}{Jl:Fr→World→Prop}{i:Nat}{s y:σ}(ng:Ng As η0 m0 J r Jl i∧r.p (i+1) y)(hn:r.n≤9223372036854775807)(q:some s=some y)(hd: ∀n,η0 n≠none→n<n0:=by assumption)
 (e:(Abb (aC P N cf),vwL (aC P N cf).s (J (w64 ((i:Int)+1)) s) n0,(vwP (aC P N cf).s (J (w64 ((i:Int)+1)) s)).isSome,bL P N cf)=(some Jl,vwR (aC P N cf).s (J (w64 ((i:Int)+1)) s),true,bR P N cf):=by kernel_rfl) (hM:P.follows .mixedOrders=true:=by rfl):
 Go ρ P N D0 Q As η0 m0 cf:=gG ng.1 hn (by cases q; exact ng.2) hd e hM
theorem gT {J:Int→σ→AS}{r:Pr σ}{Jl:Fr→World→Prop}{i:Nat}{s:σ}{x y:σ⊕τ}(ng:Ng As η0 m0 J r Jl i∧((∃s',y= .inl s'∧r.p (i+1) s')∨(∃t,y= .inr t∧x= .inr t)))(hn:r.n≤9223372036854775807)(q:some (Sum.inl s)=some y)(hd: ∀n,η0 n≠none→n<n0:=by assumption)
 (e:(Abb (aC P N cf),vwL (aC P N cf).s (J (w64 ((i:Int)+1)) s) n0,(vwP (aC P N cf).s (J (w64 ((i:Int)+1)) s)).isSome,bL P N cf)=(some Jl,vwR (aC P N cf).s (J (w64 ((i:Int)+1)) s),true,bR P N cf):=by kernel_rfl) (hM:P.follows .mixedOrders=true:=by rfl):
 Go ρ P N D0 Q As η0 m0 cf:=gG ng.1 hn (by
  cases q; obtain⟨-,⟨s',h,h2⟩|⟨t,h,-⟩⟩:=ng
  ·cases h; exact h2
  ·cases h) hd e hM
theorem nT {A:Prop}{p:σ→Prop}{v:τ}{x y:σ⊕τ}(ng:A∧((∃s',y= .inl s'∧p s')∨(∃t,y= .inr t∧x= .inr t)))(q:some (Sum.inr v)=some y): .inr v=x:=by
 cases q; obtain⟨-,⟨s',h,-⟩|⟨t,h,h2⟩⟩:=ng
 ·cases h
 ·cases h; exact h2.symm
theorem gE {fn:Func}{n1:Nat}{er:AV}{eobs:List AObj}(hd: ∀n,η0 n≠none→n<n0:=by assumption)
 (e:(endL P fn (aC P N cf) er eobs n0 n1,(AkY P fn (aC P N cf) er eobs).isSome,bL P N cf)=(endR P fn (aC P N cf) er eobs,true,bR P N cf):=by kernel_rfl) (hM:P.follows .mixedOrders=true:=by rfl):
 Go ρ P N D0 (AaE P N fn (QA As η0 m0 (is er eobs n1))) As η0 m0 cf:=gend hd e hM
theorem bE {β γ:Type}{a:β}{k:β→γ}{z:γ}{G:Prop}(q:bnd a k=z)(g:let x:=a; k x=z→G):G:=g q
theorem gx {xs:List α}{j:Int}{x:α}(E:α→List D)(k:Nat)(q:idx xs j=some x)(g:Go ρ P N D0 Q As η0 m0 (CV N (aC P N cf) (.d (.pf (E x))) (idxT P (aC P N cf))))
 (e:((Akq P (aC P N cf)).map (fun r=>(r.1,r.2.1,r.2.2.1)),aL P N cf)=(some (.sl α E xs,j,k),aR P N cf):=by kernel_rfl) (hE: ∀x,(E x).length=k:=by intro x; rfl) (hM:P.follows .mixedOrders=true:=by rfl):Go ρ P N D0 Q As η0 m0 cf:=gidx hE (fun _=>q) g e hM
theorem gxG [Inhabited α]{c:Bool}{xs:List α}{j:Int}{x:α}(E:α→List D)(k:Nat)(q:gu c (idx xs j)=some x)(g:Go ρ P N D0 Q As η0 m0 (CV N (aC P N cf) (.d (.pf (E x))) (idxT P (aC P N cf))))
 (e:(gOf (aC P N cf),(Akq P (aC P N cf)).map (fun r=>(r.1,r.2.1,r.2.2.1)),aL P N cf)=(c,some (.sl α E xs,j,k),aR P N cf):=by kernel_rfl) (hE: ∀x,(E x).length=k:=by intro x; rfl) (hM:P.follows .mixedOrders=true:=by rfl):Go ρ P N D0 Q As η0 m0 cf:=gidxG hE (fun h=>AeX h q) g e hM
theorem gk {xs ys:List α}{lo hi:Int}(E:α→List D)(k:Nat)(q:cut xs lo hi=some ys)(g:Go ρ P N D0 Q As η0 m0 (CV N (aC P N cf) (.d (.sl α E ys)) (cutT P (aC P N cf))))
 (e:((cutK P (aC P N cf)).map (fun r=>(r.1,r.2.1,r.2.2.1,r.2.2.2.1,r.2.2.2.2.1)),aL P N cf)=(some (.sl α E xs,lo,hi,hi,k),aR P N cf):=by kernel_rfl) (hE: ∀x,(E x).length=k:=by intro x; rfl) (hM:P.follows .mixedOrders=true:=by rfl):Go ρ P N D0 Q As η0 m0 cf:=gcut hE (fun _=>q) g e hM
theorem gp {b:Nat}{xs ys zs:List α}(E:α→List D)(k:Nat)(q:app b xs ys=some zs)(g:Go ρ P N D0 Q As η0 m0 (push N (aC P N cf) (appS P (aC P N cf).s (aC P N cf) k α E zs)))
 (e:(appK P (aC P N cf),aL P N cf)=(some (.sl α E xs,.sl α E ys,b,k,true),aR P N cf):=by kernel_rfl) (hE: ∀x,(E x).length=k:=by intro x; rfl) (hM:P.follows .mixedOrders=true:=by rfl):Go ρ P N D0 Q As η0 m0 cf:=gapp hE q g e hM
theorem gq (E:α→List D)(k:Nat)(xs:List α)(g:Go ρ P N D0 Q As η0 m0 (CV N (aC P N cf) (.d (.sl α E xs)) []))
 (e:(litG P (aC P N cf),aL P N cf)=(some ((xs.flatMap E).map dv,xs.length,k,true),aR P N cf):=by kernel_rfl) (hE: ∀x,(E x).length=k:=by intro x; rfl) (hM:P.follows .mixedOrders=true:=by rfl):Go ρ P N D0 Q As η0 m0 cf:=glitF E xs hE g e hM
theorem gcH {β:Type} [Inhabited β]{c:Bool}{k:FuncId}{ea:List AV}{a:Option β}{x:β}{r:AV}(q:gu c a=some x)(hs:a=some x→Sf P k ea r)(g:Go ρ P N D0 Q As η0 m0 (N6 N (aC P N cf) r))
 (e:(gOf (aC P N cf),Aa8 (aC P N cf) ea,ea.all (okA 0),aL P N cf)=(c,some (k,ea),true,aR P N cf):=by kernel_rfl) (hM:P.follows .mixedOrders=true:=by rfl):Go ρ P N D0 Q As η0 m0 cf:=gcG (fun h=>hs (AeX h q)) g e hM
theorem gA {β γ:Type}{a:Option β}{kk:β→Option γ}{z:γ}(hq:Ab a kk=some z){k:FuncId}{ea:List AV}{R:β→AV}(hs: ∀{x},a=some x→Sf P k ea (R x))(g: ∀x,a=some x→kk x=some z→Go ρ P N D0 Q As η0 m0 (N6 N (aC P N cf) (R x)))
 (e:(Aa8 (aC P N cf) ea,ea.all (okA 0),aL P N cf)=(some (k,ea),true,aR P N cf):=by kernel_rfl) (hM:P.follows .mixedOrders=true:=by rfl):
 Go ρ P N D0 Q As η0 m0 cf:=gB hq (fun _=>hs) g e hM
theorem gD {β γ:Type}{a:Option β}{kk:β→Option γ}{z:γ}(hq:Ab a kk=some z){k:FuncId}{ea:List AV}{eobs:List AObj}{n1:Nat}{R:β→AV}{O:β→List AObj}(hs: ∀{x},a=some x→Sp P k ea eobs n0 (is (R x) (O x) n1))(g: ∀x,a=some x→kk x=some z→Go ρ P N D0 Q As η0 m0 (AfE N (aC P N cf) ea eobs n0 (R x) (O x) n1))
 (e: ∀x,(Ahe (aC P N cf) ea eobs n0,okA n1 (R x)&&((O x).all (okO n1)&&Nat.ble n0 n1),aL P N cf)=(some (k,(YC (aC P N cf) ea eobs).1,(YC (aC P N cf) ea eobs).2,true),true,aR P N cf):=by intro x; kernel_rfl) (hM:P.follows .mixedOrders=true:=by rfl):
 Go ρ P N D0 Q As η0 m0 cf:=gBo hq (fun _=>hs) g e hM
theorem lk {n:Nat}(h:Nat.ble n 9223372036854775807=true:=by rfl):n≤9223372036854775807:=AlS h
theorem sq {k:FuncId}{fn:Func}{c:Code}{args:List AV}{obs:List AObj}{Po:AV→List AObj→Nat→Prop}(h: ∀D0 As η0 m0,(∀n,η0 n≠none→n<n0)→Go none P N D0 (AaE P N fn (QA As η0 m0 Po)) As η0 m0 ⟨SU args obs n0,.code c,[]⟩)(hf:P.funcs[k]? =some fn:=by rfl)(hb:fn.body=some c:=by rfl)(hN:fn.ntmps=N:=by rfl)(hc: ∀(a:Array Value) w,(callFunc k a).run P w= .ok (.enter k a) w:=by intros; rfl)(hle:Nat.ble args.length N=true:=by rfl):
 Sp P k args obs n0 Po:=sp hc hf hb hN hle h
end
def litB (P:Program)(cf:Cf):Option (TypeId×List AV×Nat):=
 match Hf cf with
 |some a=>match a.g,a.o.op with
  |none,.buildSlice t n parts=>match P.underlying t with
   |some (.slice e)=>match J7 P e with
    |some i=>match i.z with
     |some _=>bif Ahx 0 parts.toList&&(Nat.beq n parts.toList.length&&(Nat.ble n 16777216&&(Nat.beq i.sz 1&&(parts.toList.map fun p=>rv cf.s.fz a.sl p.2).all AV.cell)))
      then some (e,parts.toList.map fun p=>rv cf.s.fz a.sl p.2,n)else none
     |none=>none
    |none=>none
   |_=>none
  |_,_=>none
 |none=>none
def litS (P:Program)(cf:Cf):Stp:=match litB P cf with|some (e,cs,n)=>⟨.bs cf.s.nx 0 n n,[],[],[(cf.s.nx,.box cf.s.nx cs e)],cf.s.nx+1,[]⟩|none=>⟨.no,[],[],[],cf.s.nx,[]⟩
section
variable {P:Program}{ρ:Option Nat}{N:Nat}{D0:Dw}{Q:DQ}{As:List Ow}{η0:Env}{m0:Mem}{cf:Cf}
theorem s_litB {ops:Array Oper}{rest:List Oper}{f:Fr}{w:World}{m:Mem}{dst:Option Nat}{ty t:TypeId}{pos:String}{af:Array Edge}{e:TypeId}{n:Nat}{z:Value}{parts:List Operand}{vs:List Value}(hS:St m As w)(ht:P.underlying t=some (.slice e))(hs: ∀w,(sizeOf e).run P w= .ok 1 w)(hz: ∀w,(zeroValue e).run P w= .ok z w)
  (hp:parts.map (ev f)=vs) (hv: ∀v∈vs,v.oneCell'=true) (hn:n=vs.length) (hb:n≤16777216)
  (h: ∀b w',St m (bx b vs e::As) w'→wpl ρ P N D0 ops rest Q (upo N f dst (.slice (some ⟨b,0,none⟩) n n)) w'):
  wpl ρ P N D0 ops (⟨dst,.buildSlice t n ((parts.zipIdx 0).map fun p=>(p.2,p.1)).toArray,ty,pos,af,none⟩::rest) Q f w:=by
 have hfl:(vs.flatMap fun v=>v.cells.toList)=vs:=by
  clear h hp hn;induction vs with
  |nil=>rfl
  |cons v vs ih=>simp[MM (hv v (by simp)),ih fun u hu=>hv u (by simp[hu])]
 have hr:=NL (P:=P) (w:=w) ht hs hz (fun v hh=>by rw[MM (hv v hh)]; rfl) hn (by omega);have hm:(((parts.zipIdx 0).map fun p=>(p.2,p.1)).toArray.map fun(i,x)=>(i,ev f x))=((vs.zipIdx 0).map fun p=>(p.2,p.1)).toArray:=by
  subst hp;simp only[List.map_toArray,List.map_map];congr 1;have: ∀(l:List Operand) (k:Nat),(l.zipIdx k).map ((fun(x:Nat×Operand)=>match x with|(i,x)=>(i,ev f x))∘fun p=>(p.2,p.1))=((l.map (ev f)).zipIdx k).map fun p=>(p.2,p.1):=by
   intro l;induction l with
   |nil=>intro k; rfl
   |cons x l ih=>intro k; simp[ih]
  exact this parts 0
 refine AE (v:= .slice (some ⟨w.heap.size,0,none⟩) n n) (w':=w.alloc (.cells (vs.flatMap fun v=>v.cells.toList).toArray e)) rfl (fun _ e=>by cases e) ?_ (h w.heap.size _ ?_) (Kd.push _ _)
 ·simp only[execOp,hm,AlU,hr,AlQ,AlT]
 ·have hS':=hS.push (.cells (vs.flatMap fun v=>v.cells.toList).toArray e) CA;rw[hfl]at hS'⊢;exact hS'
theorem Agf:L3 cf.s (litS P cf):=by
 unfold litS; split
 ·exact⟨fun x hx=>by simp at hx,by simp[tids],by simp[tids],fun t ht=>by simp[tids]at ht; subst ht; exact⟨AlK _,AlX _⟩⟩
 ·exact U0
theorem gfs (g:Go ρ P N D0 Q As η0 m0 (push N (aC P N cf) (litS P (aC P N cf))))
  (e:((litB P (aC P N cf)).isSome,aL P N cf)=(true,aR P N cf):=by kernel_rfl) (hM:P.follows .mixedOrders=true:=by rfl):Go ρ P N D0 Q As η0 m0 cf:=by
 simp only[AlE]at e;obtain⟨e1,e3⟩:=e;obtain⟨he1,-⟩:=KV e3;refine A2 hM he1 ?_;generalize aC P N cf=c0 at*;obtain⟨⟨te,cs,n⟩,e1⟩:=Option.isSome_iff_exists.1 e1;have hl:litS P c0=⟨.bs c0.s.nx 0 n n,[],[],[(c0.s.nx,.box c0.s.nx cs te)],c0.s.nx+1,[]⟩:=by unfold litS; rw[e1]
 have hsok:=Agf (P:=P) (cf:=c0);rw[hl]at g hsok;unfold litB at e1;split at e1
 ·rename_i a ha;split at e1
  ·rename_i t n' parts hg hop;split at e1
   ·rename_i e' hu;split at e1
    ·rename_i i hi;split at e1
     ·rename_i z hz;cases hb:(Ahx 0 parts.toList&&(Nat.beq n' parts.toList.length&&(Nat.ble n' 16777216&&(Nat.beq i.sz 1&&(parts.toList.map fun p=>rv c0.s.fz a.sl p.2).all AV.cell))))
      ·rw[hb]at e1; cases e1
      ·rw[hb]at e1; cases e1;simp only[AlD]at hb;obtain⟨b1,b2,b3,b4,b5⟩:=hb;have b4:=AlF b4;refine El ha hg ⟨Amw _,fun rest Q η m f w As hr hfz hn S hk=> ?_⟩ hsok g;have hgd:=B0 ha hg;obtain⟨l,⟨dst,op,ty,pos,af,gd⟩,gg,sl,es⟩:=a;simp only at hop hgd hk b5 hr⊢; subst hop hgd;have hp:=Rm b1;have e0:parts=(((parts.toList.map (·.2)).zipIdx 0).map fun p=>(p.2,p.1)).toArray:=by rw[←hp]
       rw[e0];have rl:B5 η m (parts.toList.map fun p=>rv c0.s.fz sl p.2) ((parts.toList.map (·.2)).map (ev f)):=by
        refine⟨by simp,fun k c u a b=> ?_⟩;simp only[Ame,AlN]at a b;obtain⟨p,h1,rfl⟩:=a;obtain⟨_,⟨p',h2,rfl⟩,rfl⟩:=b;rw[h1]at h2; cases h2;exact MI hfz hr _
       have hone:=rl.one b5;refine s_litB S hu (fun w=>by rw[←b4]; exact B8 hi w) (OK hi hz) rfl hone (by simp; exact AlF b2) (AlS b3) fun b w' S'=> ?_;have h0:=hn c0.s.nx (AlK _) (AlX _);refine hk (η.put c0.s.nx (pt b 0)) m w' _ (Env.le_put h0) (Mem.rfl' m) (fun k q=> ?_) (.bs Env.put_self) (St.closeBox Env.put_self (rl.up (Env.le_put h0) (Mem.rfl' m)) hone S');rcases Env.put_dom q with q|q
       ·exact .inl q
       ·subst q; exact .inr ⟨AlK _,AlX _⟩
     ·cases e1
    ·cases e1
   ·cases e1
  ·cases e1
 ·cases e1
def mksK (P:Program)(cf:Cf):Option (AV×AV×Nat×Value):=
 match Hf cf with
 |some a=>match a.g,a.o.op with
  |none,.makeSlice t x y=>match P.underlying t with
   |some (.slice e)=>match J7 P e with
    |some i=>match i.z with
     |some z=>bif Nat.beq i.sz 1 then some (aev a.sl x,aev a.sl y,i.by_,z)else none
     |none=>none
    |none=>none
   |_=>none
  |_,_=>none
 |none=>none
def mkS {α:Type}(b:Nat)(x0:α)(k:Int):Option (List α):=if 0≤k∧k*b≤140737488355328∧k≤140737488355328 then some (List.replicate k.toNat x0)else none
theorem gmks {α:Type}{k:Int}{xs:List α}(E:α→List D)(x0:α)(zd:D)(b:Nat)(q:mkS b x0 k=some xs)(g:Go ρ P N D0 Q As η0 m0 (push N (aC P N cf) (AhH (aC P N cf).s 1 α E xs)))
  (e:(mksK P (aC P N cf),sc zd,aL P N cf)=(some (.d (.i k),.d (.i k),b,scV zd),true,aR P N cf):=by kernel_rfl) (hE: ∀x,(E x).length=1:=by intro x; rfl) (hz:E x0=[zd]:=by rfl) (hM:P.follows .mixedOrders=true:=by rfl):Go ρ P N D0 Q As η0 m0 cf:=by
 simp only[AlE]at e;obtain⟨e1,hsc,e3⟩:=e;obtain⟨he1,-⟩:=KV e3;refine A2 hM he1 ?_;generalize aC P N cf=c0 at*;unfold mkS at q;split at q
 ·rename_i hq; cases q;unfold mksK at e1;split at e1
  ·rename_i a ha;split at e1
   ·rename_i t x y hg hop;split at e1
    ·rename_i e' hu;split at e1
     ·rename_i i hi;split at e1
      ·rename_i z hz';cases hb:Nat.beq i.sz 1
       ·rw[hb]at e1; cases e1
       ·rw[hb]at e1;simp only[cond_true,AlJ,AlE]at e1;obtain⟨ex,ey,eb,ez⟩:=e1;have hb:=AlF hb;refine El ha hg ⟨Amw _,fun rest Q η m f w As hr hfz hn S hk=> ?_⟩ PG g;have hgd:=B0 ha hg;obtain⟨l,⟨dst,op,ty,pos,af,gd⟩,gg,sl,es⟩:=a;simp only at hop hgd hk ex ey hr⊢; subst hop hgd;have rx:=Aq hr x; rw[ex]at rx;have ry:=Aq hr y; rw[ey]at ry;obtain⟨p1,p2,p3,p4,p5,p6⟩:=Ik hi;letI:=QO E 1;have hzc:(scV zd).cells= #[scV zd]:=MM (Aak (m:=m) hsc).one;have hrep: @GoT.rep α (QO E 1) m [scV zd] x0:=⟨by rw[hz]; exact .cons (Aak hsc) .nil,hE x0⟩;refine s_mk1 (k:=k) (x0:=x0) (bytes:=b) S rx.i_inv ry.i_inv hq hu p1 (z:=scV zd) (z0:=scV zd) (by rw[←p5,hz',ez]) (by rw[←p4,hb]) (by rw[←p6,eb]) hzc hrep fun v cs w' S' hc=> ?_;obtain⟨hc1,-⟩:=Acr hc;have h0:=hn c0.s.nx (AlK _) (AlX _);have h1:=JN S';refine hk (η.put c0.s.nx v) m w' v (Env.le_put h0) (Mem.rfl' m) (fun n q=> ?_) (.ow Env.put_self h1) (St.closeRow Env.put_self h1 hc1 (fun x _=>hE x) S');rcases Env.put_dom q with q|q
        ·exact .inl q
        ·subst q; exact .inr ⟨AlK _,AlX _⟩
      ·cases e1
     ·cases e1
    ·cases e1
   ·cases e1
  ·cases e1
 ·cases q
end
def Aet (cf:Cf)(t j:Nat):Option AV:=match get cf.s.sl t with| .agg cs=>cs[j]? |_=>none
def setC (cf:Cf)(t j:Nat)(a:AV):Cf:=match get cf.s.sl t with| .agg cs=>⟨⟨(t,.agg (cs.set j a))::cf.s.sl,cf.s.ob,cf.s.fz,cf.s.nx⟩,cf.md,cf.K⟩|_=>cf
section
variable {P:Program}{ρ:Option Nat}{N:Nat}{D0:Dw}{Q:DQ}{As:List Ow}{η0:Env}{m0:Mem}{cf:Cf}
theorem Ajf {t j:Nat}{a b:AV}(hp:LH cf=true)(hc:Aet cf t j=some b)(hr: ∀η m u,η0.le η→Rel η m b u→Rel η m a u)(g:Go ρ P N D0 Q As η0 m0 (setC cf t j a)):Go ρ P N D0 Q As η0 m0 cf:=by
 obtain⟨s,md,K⟩:=cf;unfold Aet at hc;split at hc
 ·rename_i cs hg;simp only at hg;have e:setC ⟨s,md,K⟩ t j a=⟨⟨(t,.agg (cs.set j a))::s.sl,s.ob,s.fz,s.nx⟩,md,K⟩:=by unfold setC; simp only[hg]
  rw[e]at g;have key: ∀{R:Fr→World→Prop},Al As η0 m0 ⟨(t,.agg (cs.set j a))::s.sl,s.ob,s.fz,s.nx⟩ R→Al As η0 m0 s R:=fun k η m f w a1 a2 gm=>by
   refine k η m f w a1 a2 ⟨fun u=> ?_,gm.fz,gm.dom,gm.st,⟨gm.wf.nd,gm.wf.lt⟩⟩;show Rel η m (bif Nat.beq t u then .agg (cs.set j a)else get s.sl u) (f u);cases hb:Nat.beq t u
   ·exact gm.slr u
   ·have:=AlF hb; subst this;have r:=gm.slr t;rw[hg]at r;obtain⟨vs,hv,r1,r2⟩:=r.agg_inv;simp only[cond_true];rw[hv];refine .agg (by rw[List.length_set]; exact r1) fun k c u h1 h2=> ?_;rw[List.getElem?_set]at h1;split at h1
    ·rename_i q; subst q;split at h1
     ·cases h1; exact hr η m u a1 (r2 _ _ _ hc h2)
     ·cases h1
    ·exact r2 _ _ _ h1 h2
  cases md with
  |ops=>cases hp
  |code c=>exact key g
  |pop=>exact key g
  |ext id=>exact key g
  |ret=>exact key g
 ·cases hc
theorem gtoV {v:Value}(t j n:Nat)(hv:η0 n=some v)(g:Go ρ P N D0 Q As η0 m0 (setC cf t j (.d (.v v))))
  (e:(LH cf,Aet cf t j)=(true,some (.ow n)):=by kernel_rfl):Go ρ P N D0 Q As η0 m0 cf:=by
 simp only[AlE]at e;refine Ajf e.1 e.2 (fun η m u le r=> ?_) g;obtain⟨h1,h2⟩:=r.ow_inv;have h3:=le _ _ hv;rw[h1]at h3; cases h3;exact .d (.v _ h2)
def getB (nb j:Nat):List Tok→Option AV
 | []=>none
 |(_,.box k cs _)::l=>bif Nat.beq k nb then cs[j]? else getB nb j l
 |_::l=>getB nb j l
def Ab0 (nb j:Nat)(a:AV):List Tok→List Tok
 | []=> []
 |(i,.box k cs t)::l=>bif Nat.beq k nb then(i,.box k (cs.set j a) t)::l else(i,.box k cs t)::Ab0 nb j a l
 |p::l=>p::Ab0 nb j a l
theorem Afp {η:Env}{m:Mem}{cs:List AV}{vs:List Value}{j:Nat}{a b:AV}(h:B5 η m cs vs)(hc:cs[j]? =some b)(hr: ∀u,Rel η m b u→Rel η m a u):B5 η m (cs.set j a) vs:=
 ⟨by rw[List.length_set]; exact h.1,fun k c u h1 h2=>by
  rw[List.getElem?_set]at h1;split at h1
  ·rename_i q; subst q;split at h1
   ·cases h1; exact hr u (h.2 _ _ _ hc h2)
   ·cases h1
  ·exact h.2 _ _ _ h1 h2⟩
theorem K9 {nb j:Nat}{a:AV}: ∀{ob:List Tok},tids (Ab0 nb j a ob)=tids ob
 | []=>rfl
 |(i,.box k cs t)::l=>by
  unfold Ab0;cases Nat.beq k nb
  ·exact Al9 (i:: ·) (K9 (ob:=l))
  ·rfl
 |(i,.row ..)::l=>Al9 (i:: ·) (K9 (ob:=l))
 |(i,.fr ..)::l=>Al9 (i:: ·) (K9 (ob:=l))
 |(i,.hp ..)::l=>Al9 (i:: ·) (K9 (ob:=l))
theorem OL {η:Env}{m:Mem}{nb j:Nat}{a b:AV}(hr: ∀u,Rel η m b u→Rel η m a u){As:List Ow}: ∀{ob:List Tok},getB nb j ob=some b→∀h,sepL (reps η m ob++As) h→sepL (reps η m (Ab0 nb j a ob)++As) h
 | [],e,_,_=>by cases e
 |(i,.box k cs t)::l,e,h,s=>by
  unfold getB at e;unfold Ab0;cases hb:Nat.beq k nb
  ·rw[hb]at e;exact Ab3 (A:=rep η m (.box k cs t)) (fun _ q=>q) (OL hr (ob:=l) e) h s
  ·rw[hb]at e;refine Ab3 (A:=rep η m (.box k cs t)) (fun y hy=> ?_) (fun _ q=>q) h s;obtain⟨b',vs,h1,h2,h3,h4⟩:=hy;exact⟨b',vs,h1,Afp h2 e hr,h3,h4⟩
 |(i,.row n sz α E xs)::l,e,h,s=>Ab3 (A:=rep η m (.row n sz α E xs)) (fun _ q=>q) (OL hr (ob:=l) e) h s
 |(i,.fr n d)::l,e,h,s=>Ab3 (A:=rep η m (.fr n d)) (fun _ q=>q) (OL hr (ob:=l) e) h s
 |(i,.hp n q)::l,e,h,s=>Ab3 (A:=rep η m (.hp n q)) (fun _ q=>q) (OL hr (ob:=l) e) h s
def bxC (cf:Cf)(t j:Nat):Option AV:=match get cf.s.sl t with| .pb nb _=>getB nb j cf.s.ob|_=>none
def Ajg (cf:Cf)(t j:Nat)(a:AV):Cf:=match get cf.s.sl t with| .pb nb _=>⟨⟨cf.s.sl,Ab0 nb j a cf.s.ob,cf.s.fz,cf.s.nx⟩,cf.md,cf.K⟩|_=>cf
theorem gofV {v:Value}(t j n:Nat)(hv:η0 n=some v)(g:Go ρ P N D0 Q As η0 m0 (Ajg (aC P N cf) t j (.ow n)))
  (e:(LH (aC P N cf),bxC (aC P N cf) t j,bL P N cf)=(true,some (.d (.v v)),bR P N cf):=by kernel_rfl) (hm:P.follows .mixedOrders=true:=by rfl):Go ρ P N D0 Q As η0 m0 cf:=by
 simp only[AlE]at e;obtain⟨e1,e2,e3⟩:=e;refine A2 hm (.of e3) ?_;generalize aC P N cf=c0 at*;obtain⟨s,md,K⟩:=c0;unfold bxC at e2;split at e2
 ·rename_i nb o hg;simp only at hg e2;have q:Ajg ⟨s,md,K⟩ t j (.ow n)=⟨⟨s.sl,Ab0 nb j (.ow n) s.ob,s.fz,s.nx⟩,md,K⟩:=by unfold Ajg; simp only[hg]
  rw[q]at g;have key: ∀{R:Fr→World→Prop},Al As η0 m0 ⟨s.sl,Ab0 nb j (.ow n) s.ob,s.fz,s.nx⟩ R→Al As η0 m0 s R:=fun k η m f w a1 a2 gm=>by
   refine k η m f w a1 a2 ⟨gm.slr,gm.fz,gm.dom,?_,⟨?_,?_⟩⟩
   ·obtain⟨x,sx,rx⟩:=gm.st.own;refine⟨gm.st.os,gm.st.tape,gm.st.output,x,OL (fun u r=> ?_) e2 x sx,rx⟩;have r:=r.dd;cases r with
    |v _ h=>exact .ow (a1 _ _ hv) h
   ·show(tids (Ab0 nb j (.ow n) s.ob)).Nodup;rw[K9]; exact gm.wf.nd
   ·intro y hy;have hy:y∈tids (Ab0 nb j (.ow n) s.ob):=hy;rw[K9]at hy; exact gm.wf.lt y hy
  cases md with
  |ops=>cases e1
  |code c=>exact key g
  |pop=>exact key g
  |ext id=>exact key g
  |ret=>exact key g
 ·cases e2
end
theorem spV {P:Program}{N:Nat}(n:Nat){k:FuncId}{fn:Func}{c:Code}{args:List AV}{obs:List AObj}{n0:Nat}{Po:AV→List AObj→Nat→Prop}(hc: ∀(a:Array Value) w,(callFunc k a).run P w= .ok (.enter k a) w)(hf:P.funcs[k]? =some fn)(hb:fn.body=some c)(hN:fn.ntmps=N)(hle:Nat.ble args.length N=true)
  (h: ∀D0 As η0 m0,D0.2.2=false→(∀n,η0 n≠none→n<n0)→∀v,η0 n=some v→Go none P N D0 (AaE P N fn (QA As η0 m0 Po)) As η0 m0 ⟨SU args obs n0,.code c,[]⟩) (hn:(obs.any fun o=>Nat.beq o.nm n)=true:=by rfl):Sp P k args obs n0 Po:=by
 refine⟨hc,fun η m As w vs hv hd S=> ?_⟩;obtain⟨o,ho,hb'⟩:=List.any_eq_true.1 hn;obtain⟨v,hv'⟩:=Ys S o ho;rw[AlF hb']at hv';refine Pa hf hb hN (by rw[←hv.1]; exact AlS hle) ?_;exact h (w,[],false) As η m rfl hd v hv' η m (f0 vs) w Env.le_refl (Mem.rfl' m) (Vd hv hd S)
def nilK (P:Program)(cf:Cf):Option D:=
 match cf.md with
 | .ops false l [⟨dst,.binOp .eql t x (.const (.slice none 0 0)) t',ty,pos,af,none⟩] h=>match P.underlying t,aev cf.s.sl x with
  |some (.slice _),.d d=>some d
  |_,_=>none
 |_=>none
def AeU (N:Nat)(b:Bool)(cf:Cf):Cf:=match cf.md with| .ops _ _ (o::_) _=>⟨after N cf.s o ⟨.d (.t b),[],[],[],cf.s.nx,[]⟩,.pop,cf.K⟩|_=>cf
section
variable {ρ:Option Nat}{P:Program}{N:Nat}{D0:Dw}{Q:DQ}{As:List Ow}{η0:Env}{m0:Mem}
theorem Aii {s:AS}{η:Env}{m:Mem}{f:Fr}{w:World}{o:Oper}{d:AV}{v:Value}(g:Gm As s η m f w)(h:Rel η m d v):Gm As (after N s o ⟨d,[],[],[],s.nx,[]⟩) η m (upo N f o.dst v) w:=
 ⟨QP (fun t=>g.slr t) h,g.fz,fun n hn=>g.dom n hn,by
  have e:Ej ([]:List Nat) s.ob=s.ob:=List.filter_eq_self.2 fun p _=>by simp[Fe]
  show St m (reps η m (Ej ([]:List Nat) s.ob++[])++As) w;rw[e,Amf]; exact g.st,LZ g.wf ⟨fun x hx=>by simp at hx,by simp[tids],by simp[tids],fun t ht=>by simp[tids]at ht⟩ (AlK _)⟩
theorem AfY {c0:Cf}{α:Type}{E:α→List D}{xs:List α}(e:nilK P c0=some (.sl α E xs))(g0:Go ρ P N D0 Q As η0 m0 (AeU N false c0))(g1:xs=[]→Go ρ P N D0 Q As η0 m0 (AeU N true c0)):Go ρ P N D0 Q As η0 m0 c0:=by
 obtain⟨s,md,K⟩:=c0;unfold nilK at e;split at e
 ·rename_i l dst t x t' ty pos af h hmd;simp only at hmd; subst hmd;split at e
  ·rename_i el d hu hx;cases e;refine .inr (.inl ⟨rfl,fun η m f w a b gm=> ?_⟩);have rx:=Aq gm.slr x;rw[hx]at rx;have fx:=rx.dd;have hv: ∃u c,ev f x= .slice u xs.length c∧(u=none→xs=[]):=by
    generalize ev f x=v at fx;cases fx with
    |sl h=>
     obtain⟨_,_,⟨h0,a,c,rfl⟩|⟨b,off,cap,l,e,fr,rfl,_⟩⟩:=h
     ·exact⟨a,c,by rw[h0],fun _=>List.eq_nil_of_length_eq_zero h0⟩
     ·exact⟨_,_,rfl,fun h=>by cases h⟩
   obtain⟨u,c,hv,hn⟩:=hv;have key:(Op.equal t (.slice u xs.length c) (.slice none 0 0)).run P w= .ok (ZA (.slice u xs.length c)) w:=by
    show(Op.equalIn (9999+1) _ _ _).run P w=_;unfold Op.equalIn;cases u<;>simp[AlO hu,ZA]
   have hg:(eqGuard .eql t x (.const (.slice none 0 0)) (.slice u xs.length c) (.slice none 0 0)).run P w= .ok () w:=by simp[eqGuard]
   have hc:ev f (.const (.slice none 0 0))= .slice none 0 0:=rfl;refine AE (v:= .bool (ZA (.slice u xs.length c))) (w':=w) rfl (fun _ e=>by cases e) ?_ (AK ?_)
   ·simp only[execOp,hv,hc];simp[hg,binOp,key]
   ·cases u with
    |none=>exact g1 (hn rfl) η m _ w a b (Aii gm (.d (.t _)))
    |some q=>exact g0 η m _ w a b (Aii gm (.d (.t _)))
  ·cases e
 ·cases e
theorem gnq {cf:Cf}{α:Type}(E:α→List D)(xs:List α)(g1:xs=[]→Go ρ P N D0 Q As η0 m0 (way true (aC P N (AeU N true (aC P N cf)))))(g0:Go ρ P N D0 Q As η0 m0 (way false (aC P N (AeU N false (aC P N cf)))))
  (e:(nilK P (aC P N cf),bL P N cf,Sg (aC P N (AeU N false (aC P N cf))),bL P N (AeU N false (aC P N cf)),Sg (aC P N (AeU N true (aC P N cf))),bL P N (AeU N true (aC P N cf)))
   =(some (.sl α E xs),bR P N cf,some false,bR P N (AeU N false (aC P N cf)),some true,bR P N (AeU N true (aC P N cf))):=by kernel_rfl) (hm:P.follows .mixedOrders=true:=by rfl):Go ρ P N D0 Q As η0 m0 cf:=by
 simp only[AlE]at e;obtain⟨e1,e2,e3,e4,e5,e6⟩:=e;refine A2 hm (.of e2) (AfY e1 ?_ fun h=> ?_)
 ·exact AgM hm (n:=100000) (by simp only[AlE]; exact⟨e3,e4⟩) (fun h=>by cases h) fun _=>g0
 ·exact AgM hm (n:=100000) (by simp only[AlE]; exact⟨e5,e6⟩) (fun _=>g1 h) fun h=>by cases h
structure CutP where
 d:D
 j:Int
 sz:Nat
 tok:List Tok
def cutO (P:Program)(cf:Cf):Option CutP:=
 match Hf cf with
 |some a=>match a.g,a.o.op with
  |none,.slice t x none (some h) none=>match aev a.sl x,Pf a.sl h,P.underlying t with
   | .ow n,some (_,j),some (.slice el)=>match find n cf.s.ob,J7 P el with
    |some (i,.row k sz α E xs),some ti=>bif Nat.beq k n&&Nat.beq ti.sz sz then some ⟨.sl α E xs,j,sz,[(i,.row k sz α E xs)]⟩else none
    |_,_=>none
   |_,_,_=>none
  |_,_=>none
 |none=>none
def Ak8 (P:Program)(cf:Cf):Option (D×Int×Nat):=match cutO P cf with|some p=>some (p.d,p.j,p.sz)|none=>none
def Ak7 (P:Program)(cf:Cf)(sz:Nat)(α:Type)(E:α→List D)(xs:List α):Stp:=match cutO P cf with|some p=>⟨.ow cf.s.nx,[],p.tok,[(cf.s.nx,.row cf.s.nx sz α E xs)],cf.s.nx+1,[]⟩|none=>AhH cf.s sz α E xs
theorem R5 {α:Type}{E:α→List D}{sz:Nat}: ∀{xs:List α} (h: ∀x∈xs,(E x).length=sz) (q:Nat),(xs.take q).flatMap E=(xs.flatMap E).take (q*sz)
 | [],_,q=>by simp
 |y::ys,h,0=>by simp
 |y::ys,h,q+1=>by
  rw[List.take_succ_cons,Ami,Ami,R5 (fun x hx=>h x (Al4 _ hx)) q,Nat.succ_mul,AmM,List.take_append,h y AlZ,Nat.add_sub_cancel_left,Al8 (l:=E y) (by rw[h y AlZ]; exact Nat.le_add_right _ _)]
theorem gcO {cf:Cf}{α:Type}{xs:List α}{j:Int}(E:α→List D)(k:Nat)(h0:0≤j)(hn:j≤(xs.length:Int))(g:Go ρ P N D0 Q As η0 m0 (push N (aC P N cf) (Ak7 P (aC P N cf) k α E (xs.take j.toNat))))
  (e:(Ak8 P (aC P N cf),bL P N cf)=(some (.sl α E xs,j,k),bR P N cf):=by kernel_rfl) (hE: ∀x,(E x).length=k:=by intro x; rfl) (hm:P.follows .mixedOrders=true:=by rfl):Go ρ P N D0 Q As η0 m0 cf:=by
 simp only[AlE]at e;obtain⟨e1,e2⟩:=e;refine A2 hm (.of e2) ?_;generalize aC P N cf=c0 at*;cases hp:cutO P c0 with
 |none=>unfold Ak8 at e1; rw[hp]at e1; cases e1
 |some p=>
  have gS:Ak7 P c0 k α E (xs.take j.toNat)=⟨.ow c0.s.nx,[],p.tok,[(c0.s.nx,.row c0.s.nx k α E (xs.take j.toNat))],c0.s.nx+1,[]⟩:=by unfold Ak7; rw[hp]
  rw[gS]at g;unfold Ak8 at e1;rw[hp]at e1;simp only[AlJ,AlE]at e1;obtain⟨ed,ej,ek⟩:=e1;unfold cutO at hp;split at hp
  ·rename_i a ha;split at hp
   ·rename_i t x h hg hop;split at hp
    ·rename_i n ik j' el hx hj hu;split at hp
     ·rename_i i kk sz α' E' xs' ti hf hti;cases hb:Nat.beq kk n&&Nat.beq ti.sz sz
      ·rw[hb]at hp; cases hp
      ·rw[hb]at hp;simp only[cond_true]at hp;cases hp;simp only[AlD]at hb;have:=AlF hb.1; subst this;have hsz:=AlF hb.2;simp only at ed ej ek;cases ed;subst ej ek;have hgd:=B0 ha hg;refine El ha hg ?_ ⟨fun q hq=>by simp at hq; subst hq; exact Fw hf,by simp[tids],by simp[tids],fun q hq=>by simp[tids]at hq; subst hq; exact⟨AlK _,AlX _⟩⟩ g;obtain⟨ll,⟨dst,op',ty,pos,af,gd⟩,gg,sl,es⟩:=a;simp only at hop hgd hx hj⊢; subst hop hgd;refine⟨Amw _,fun rest Q η m f w As hr hfz hnn S hk=> ?_⟩;simp only[Amf]at S hk hnn;obtain⟨v,cs,h1,h2,h3,h4,S1⟩:=St.openRow S;have rx:=Aq hr x; rw[hx]at rx;have ev_:=rx.ow_inv.1;rw[h1]at ev_; cases ev_;have ej:=B7 hj hr;refine Y5 (i:=0) S1 rfl rfl hu (by rw[←hsz]; exact B8 hti) rfl ej h0 hn fun v' S2=> ?_;have hn0:=hnn c0.s.nx (AlK _) (AlX _);have le:=Env.le_put (v:=v') hn0;have hlen:(xs.take j'.toNat).length=j'.toNat:=by rw[Al0]; omega
       have S3:St m (Gw.row sz v' (cs.take (j'.toNat*sz)) (xs.take j'.toNat).length::As) w:=by rw[hlen]; exact S2
       have ho:v'.oneCell'=true:=(St.rowVal (i:=0) S3 rfl).1|>fun⟨a,c,e⟩=>by rw[e]; rfl
       have hfl:(xs.take j'.toNat).flatMap E=(xs.flatMap E).take (j'.toNat*sz):=R5 h4 _;refine hk (η.put c0.s.nx v') m w v' le (Mem.rfl' m) (fun n hn=> ?_) (.ow Env.put_self ho) ?_
       ·rcases Env.put_dom hn with q|q
        ·exact .inl q
        ·subst q; exact .inr ⟨AlK _,AlX _⟩
       ·refine St.closeRow (η:=η.put c0.s.nx v') (E:=E) Env.put_self ho ?_ (fun x hx=>h4 x (List.mem_of_mem_take hx)) S3;rw[hfl]; exact h3.take _
     ·cases hp
    ·cases hp
   ·cases hp
  ·cases hp
theorem gnl {P:Program}{k:FuncId}{α:Type} [GoT α]{E:α→List D}{a1:Int}{r:List α}{sz:Nat}(hc: ∀(a:Array Value) w,(callFunc k a).run P w= .ok (.enter k a) w)(b:Br α E)
  (h: ∀{m:Mem} {As:List Ow} {w:World},St m As w→C4 P k #[.slice none 0 0,vI a1] w fun v w'=> ∃(M:Mem),m≤M∧∃(rv0:Value) (rc0:List Value),St M ((Gw.row sz rv0 rc0 r.length)::As) w'∧v=rv0∧CI M rc0 r) (hs:GoT.sz α=sz:=by rfl):
  Sp P k [.d (.v (.slice none 0 0)),.d (.i a1)] [] 0 (is (.ow 0) [.row 0 sz _ E r] 1):=
 ⟨hc,fun η m As w vs hv0 hd S=>by
  have S:St m As w:=S;obtain⟨v0,u0,rfl,r0,hv1⟩:=B5.cons_inv hv0;have e0:v0= .slice none 0 0:=by have:=r0.dd; cases this; rfl
  subst e0;obtain⟨v1,u1,rfl,r1,hv2⟩:=B5.cons_inv hv1;obtain rfl:=r1.i_inv;obtain rfl:=B5.nil_inv hv2;refine C4.mono (h S) ?_;rintro v w' ⟨M,hle,y0,c0,S0,rfl,h0⟩;exact⟨M,(envL [v]),_,_,_,hle,dom0 hd _,⟨rfl,rfl,rfl⟩,ZL rfl,(.ow rfl (JN S0)),(St.impL S0 (Ab3 (Br.toR b hs rfl (JN S0) h0) fun _ h=>h))⟩⟩
theorem ownB {P:Program}{k:FuncId}{α:Type} [GoT α]{E:α→List D}{xs r:List α}{sz:Nat}{η:Env}{m:Mem}{As:List Ow}{w:World}{v0:Value}{vs:Array Value}(hd: ∀n,η n≠none→n<1)(r0:Rel η m (.ow 0) v0)(S:St m (rep η m (.row 0 sz α E xs)::As) w)
  (h: ∀{cs:List Value},FRL m (xs.flatMap E) cs→St m (Gw.row sz v0 cs xs.length::As) w→C4 P k vs w fun v w'=> ∃(M:Mem),m≤M∧∃(rv0:Value) (rc0:List Value),St M ((Gw.row sz rv0 rc0 r.length)::As) w'∧v=rv0∧CI M rc0 r) (b:Br α E) (hs:GoT.sz α=sz:=by rfl):
  C4 P k vs w fun v w'=> ∃(M:Mem) (η':Env) (q:AV) (obs':List AObj) (n1:Nat),m≤M∧η.le η'∧is (.ow 1) [.row 1 sz _ E r] 2 q obs' n1∧(∀n,η' n≠none→n<n1)∧Rel η' M q v∧St M (obs'.map (rep η' M)++As) w':=by
 obtain⟨v,cs,k1,k2,k3,_,S1⟩:=St.openRow S;obtain⟨n0,o0⟩:=r0.ow_inv;rw[n0]at k1; obtain rfl:=AlC k1;refine C4.mono (h k3 S1) ?_;rintro v' w' ⟨M,hle,y0,c0,S0,rfl,h0⟩;have h1:η 1=none:=by
  cases q:η 1 with
  |none=>rfl
  |some u=>have:=hd 1 (by rw[q]; simp); omega
 refine⟨M,η.put 1 v',_,_,_,hle,Env.le_put h1,⟨rfl,rfl,rfl⟩,fun n hn=> ?_,.ow Env.put_self (JN S0),St.impL S0 (Ab3 (Br.toR b hs Env.put_self (JN S0) h0) fun _ h=>h)⟩;rcases Env.put_dom hn with q|q
 ·have:=hd n q; omega
 ·omega
def rot (n:Nat):Nat→Nat
 |0=>n-1
 |k+1=>k
theorem sepM {f g:AObj→Ow}{As:List Ow}: ∀{os:List AObj},(∀o∈os,∀x,f o x→g o x)→∀x,sepL (os.map f++As) x→sepL (os.map g++As) x
 | [],_=>fun _ h=>h
 |o::os,h=>Ab3 (h o AlZ) (sepM fun p q=>h p (Al4 _ q))
def Tv (η:Env):Env:=fun n=>match n with|0=>some (.slice none 0 0)|n+1=>η n
def Y8 (n1:Nat)(η:Env):Env:=fun n=>if n=n1-1 then η 0 else η (n+1)
theorem Sp.nilR {P:Program}{k:FuncId}{sz:Nat}{α:Type}{E:α→List D}{r:AV}{obs1:List AObj}{n1:Nat}(args:List AV)(obs:List AObj)(n0:Nat)
  (h:Sp P k (.ow 0::args.map (Abg Nat.succ)) (.row 0 sz α E []::obs.map (Wl Nat.succ)) (n0+1) (is r obs1 n1)) (hk:(args.all (okA n0)&&obs.all (okO n0)&&okA n1 r&&obs1.all (okO n1))=true):
  Sp P k (.d (.v (.slice none 0 0))::args) obs n0 (is (Abg (rot n1) r) (obs1.map (Wl (rot n1))) n1):=by
 simp only[AlD]at hk;obtain⟨⟨⟨k1,k2⟩,k3⟩,k4⟩:=hk;refine⟨h.1,fun η m As w vs hv hd S=> ?_⟩;obtain⟨v,us,rfl,h1,h2⟩:=hv.cons_inv;have hvv:v= .slice none 0 0:=by have:=h1.dd; cases this; rfl
 subst hvv;have hs: ∀k,k<n0→∀u,η k=some u→Tv η (Nat.succ k)=some u:=fun k _ u q=>q;have S0:St m ((obs.map (Wl Nat.succ)).map (rep (Tv η) m)++As) w:=by
  rw[List.map_map];exact St.impL S (sepM fun o ho x hx=>XP hs (AlW.1 k2 o ho) hx)
 have S1:St m (rep (Tv η) m (.row 0 sz α E [])::((obs.map (Wl Nat.succ)).map (rep (Tv η) m)++As)) w:=
  St.closeRow (η:=Tv η) (n:=0) (E:=E) (xs:=[]) rfl rfl (by simpa using FRL.nil) (fun _ h=>by cases h) (St.rowNil S0 sz)
 have:=h.2 (Tv η) m As w (.slice none 0 0::us) (.cons (.ow rfl rfl) (Acs hs k1 h2)) (fun n hn=>by
  cases n with
  |zero=>omega
  |succ n=>have:=hd n hn; omega) S1
 refine C4.mono this ?_;rintro v' w' ⟨M,η3,r',obs',n',hle,hη,⟨rfl,rfl,rfl⟩,hdom,hR,S2⟩;have h0:0<n':=hdom 0 (by rw[hη 0 _ rfl]; simp);have ht: ∀k,k<n'→∀u,η3 k=some u→Y8 n' η3 (rot n' k)=some u:=fun k hk u q=>by
  cases k with
  |zero=>unfold Y8 rot; rw[AlH rfl]; exact q
  |succ k=>show(if k=n'-1 then _ else _)=_; rw[AlG (by omega)]; exact q
 refine⟨M,Y8 n' η3,_,_,_,hle,fun n u q=> ?_,⟨rfl,rfl,rfl⟩,fun n hn=> ?_,XR ht k3 hR,?_⟩
 ·have e:=hη (n+1) u q;have:=hdom (n+1) (by rw[e]; simp);show(if n=n'-1 then _ else _)=_;rw[AlG (by omega)]; exact e
 ·unfold Y8 at hn;by_cases q:n=n'-1
  ·omega
  ·rw[AlG q]at hn;have:=hdom _ hn; omega
 ·rw[List.map_map];exact St.impL S2 (sepM fun o ho x hx=>XP ht (AlW.1 k4 o ho) hx)
end
end Go.Ax
end
section
namespace Go.Gw
open Go
theorem zeroC (z:Value)(k:Nat):(Builtin.zeroCells #[z] k).toList=List.replicate k z:=by
 apply List.ext_getElem
 ·simp[Builtin.zeroCells]
 ·intro i h1 h2;simp[Builtin.zeroCells,Nat.mod_one]
section
variable {ρ:Option Nat}{P:Program}{N:Nat}{D:Dw}{ops:Array Oper}{rest:List Oper}{Q:DQ}{f:Fr}{w:World}{v:Value}
variable {t ty ty2:TypeId}{pos pos2:String}{af af2:Array Edge}{x:Operand}{m:Mem}{As:List Ow}
theorem Ahw {α:Type}{l:List α}{i:Nat}{a b:α}(h:l[i]? =some a)(e:b=a):l.set i b=l:=by
 subst e;apply List.ext_getElem?;intro j;rw[List.getElem?_set];by_cases q:i=j
 ·subst q;rw[AlH rfl];have:=(Al2.1 h).1;rw[AlH this,h]
 ·rw[AlG q]
theorem s_clrO {i n d1:Nat}{cs:List Value}{lo:Operand}{e:TypeId}{k:IntKind}{j:Int}{z:Value}(hS:St m As w)(hx:ev f x=v)(hA:As[i]? =some (row 1 v cs n))(hu:P.underlying t=some (.slice e))(hs: ∀w,(sizeOf e).run P w= .ok 1 w)(hz: ∀w,(zeroValue e).run P w= .ok z w)(hzc:z.cells= #[z])(hz1:z.oneCell'=true)
  (hj:ev f lo= .int k j) (h0:0≤j) (hn:j≤n) (hd:Nat.blt d1 N=true)
  (h: ∀u w',St m (As.set i (row 1 v (cs.take j.toNat++List.replicate (n-j.toNat) z) n)) w'→wpl ρ P N D ops rest Q (upo N f (some d1) u) w'):
  wpl ρ P N D ops (⟨some d1,.slice t x (some lo) none none,ty,pos,af,none⟩::⟨none,.call ⟨.builtin .clear, #[.tmp d1], #[t]⟩,ty2,pos2,af2,none⟩::rest) Q f w:=by
 have hev: ∀u,ev (upo N f (some d1) u) (.tmp d1)=u:=fun u=>by
  show(upo N f (some d1) u) d1=u;simp only[upo,up,hd,Ama];simp
 obtain⟨j,rfl⟩:=Int.eq_ofNat_of_zero_le h0;simp only[Amk]at h;have hA0:=hA;obtain⟨q,ha,hg,_,back⟩:=hS.take hA;rcases ha with ⟨rfl,rfl,rfl,rfl⟩|⟨b,cap,l,e',fr,rfl,rfl,hcl,htk,hls,hnc,hcm,hfr⟩
 ·have hrun:=GO (P:=P) (w:=w) (t:=t) (ao:=none) (len:=0) (cap:=0) (lo:=some (.int k (j:Int))) (hi:=none) (mx:=none) hu hs (.inr ⟨k,rfl⟩) (.inl ⟨rfl,rfl⟩) (.inl ⟨rfl,rfl⟩) (by omega) (AlK 0) (AlK 0);refine KK hx hu (by simp only[Option.map_none,AlV,hj]; exact hrun) ?_;refine AE (v:= .tuple #[]) (w':=w) rfl (fun _ e=>by cases e) ?_ (h _ w (by rw[Ahw hA0 (by simp)]; exact hS));simp[execOp,resolve,invoke,builtin,Builtin.clear_,hev,AlO hu]
 ·have hrun:=GO (P:=P) (w:=w) (t:=t) (ao:=some ⟨b,0,none⟩) (len:=n) (cap:=cap) (lo:=some (.int k (j:Int))) (hi:=none) (mx:=none) hu hs (.inr ⟨k,rfl⟩) (.inl ⟨rfl,rfl⟩) (.inl ⟨rfl,rfl⟩) (by omega) hnc (AlK cap);refine KK hx hu (by simp only[Option.map_none,AlV,hj]; exact hrun) ?_;have hb:=PH.agree_one.1 hg;have hlt:=(Al3.1 hb).1;have hjn:j≤n:=by omega
  by_cases hz0:n-j=0
  ·have hjn':j=n:=by omega
   refine AE (v:= .tuple #[]) (w':=w) rfl (fun _ e=>by cases e) ?_ (h _ w (by rw[Ahw hA0 (by rw[hz0,List.replicate_zero,Amf,Al8 (by omega)])]; exact hS));rw[hz0];split<;>simp[execOp,resolve,invoke,builtin,Builtin.clear_,hev,AlO hu]
  ·have hne: ¬cap=j:=by omega
   have hst:=FU (P:=P) (off:=j) (e:=e') (fr:=fr) (List.replicate (n-j) z) (fun c hc=>by rw[List.eq_of_mem_replicate hc]; exact hz1) l.toList 0 (by simp; omega) (by simpa using hfr.1) (by simpa using hb);simp only[AmH,List.length_replicate]at hst;have hsize:(l.toList.take j++List.replicate (n-j) z++l.toList.drop (j+(n-j))).toArray.size=l.size:=by
    simp only[List.size_toArray,AlI,Al0,Amg,Array.length_toList,List.length_replicate]; omega
   have hadd:(Option.map (fun x:Addr=>x.add (j*1)) (some ⟨b,0,none⟩))=some ⟨b,j,none⟩:=by
    by_cases q:j=0
    ·subst q; rfl
    ·simp[Addr.add,q]
   rw[AlG hne,hadd];refine AE (v:= .tuple #[]) (w':={w with heap:=w.heap.setIfInBounds b (.cells (l.toList.take j++List.replicate (n-j) z++l.toList.drop (j+(n-j))).toArray e' fr)}) rfl (fun _ e=>by cases e) ?_ (h _ _ ?_) (Kd.set hb CA rfl)
   ·obtain⟨r,hr⟩: ∃r,n-j=r+1:=⟨n-j-1,by omega⟩;rw[hr]at hst⊢;simp[execOp,resolve,invoke,builtin,Builtin.clear_,hev,AlO hu,hz,hzc,zeroC,Addr.add,hst]
   ·refine back _ (PH.one b (.cells (l.toList.take j++List.replicate (n-j) z++l.toList.drop (j+(n-j))).toArray e' fr)) _ (.inr ⟨b,_,_,e',fr,rfl,rfl,?_,?_,hsize.trans hls,hnc,hcm,by rw[hsize]; exact hfr⟩) ?_ ?_ ?_ rfl rfl rfl (fun _=> .one CA)
    ·simp only[AlI,Al0,List.length_replicate]; omega
    ·simp only[←htk];apply List.ext_getElem?;intro q;have hcl':n≤l.toList.length:=by simp; omega
     simp only[List.getElem?_take,List.getElem?_append,AlI,Al0,Amg,Array.length_toList,List.getElem?_drop,Array.getElem?_toList,List.length_replicate,List.getElem?_replicate];repeat' split
     all_goals first
      |rfl
      |(exfalso; omega)
      |(congr 1; omega)
    ·intro k hk; left; simp only[PH.one]at hk⊢;by_cases e:k=b
     ·rw[AlH e]; simp
     ·rw[AlG e]at hk; exact absurd rfl hk
    ·rw[PH.agree_one]; simp[hlt]
    ·intro k _ hk; simp only[PH.one]at hk;split at hk
     ·cases hk
     ·rename_i hne; rw[Array.getElem?_setIfInBounds_ne (by omega)]
end
end Go.Gw
namespace Go.Ax
open Go Go.Gw
def clrT {α:Type}(z:α)(xs:List α)(j:Int):Option (List α):=if 0≤j∧j≤(xs.length:Int)then some (xs.take j.toNat++List.replicate (xs.length-j.toNat) z)else none
structure ClrP where
 d:D
 j:Int
 z:Value
 tok:Tok
 k:Nat
 o:Oper
def clrK (P:Program)(N:Nat)(cf:Cf):Option ClrP:=
 match cf.md with
 | .ops false _ [⟨some d1,.slice t x (some lo) none none,ty,pos,af,none⟩,⟨none,.call ⟨.builtin .clear,⟨[.tmp d2]⟩,⟨[t2]⟩⟩,_,_,_,none⟩] _=>
  match aev cf.s.sl x,Pf cf.s.sl lo,P.underlying t with
  | .ow n,some (_,j),some (.slice el)=>match find n cf.s.ob,J7 P el with
   |some (i,.row k sz α E xs),some ti=>match ti.z with
    |some z=>bif (Nat.beq k n&&(Nat.beq ti.sz 1&&Nat.beq sz 1))&&(Nat.beq d1 d2&&(Nat.beq t t2&&Nat.blt d1 N))then
     some ⟨.sl α E xs,j,z,(i,.row k sz α E xs),k,⟨some d1,.slice t x (some lo) none none,ty,pos,af,none⟩⟩else none
    |none=>none
   |_,_=>none
  |_,_,_=>none
 |_=>none
def Alc (P:Program)(N:Nat)(cf:Cf):Option (D×Int×Value):=match clrK P N cf with|some p=>some (p.d,p.j,p.z)|none=>none
def clrG (P:Program)(N:Nat)(cf:Cf)(α:Type)(E:α→List D)(ys:List α):Cf:=match clrK P N cf with|some p=>⟨after N cf.s p.o ⟨.any,[],[p.tok],[(cf.s.nx,.row p.k 1 α E ys)],cf.s.nx+1,[]⟩,.pop,cf.K⟩|none=>cf
theorem WR {α:Type}{E:α→List D}(hE: ∀x,(E x).length=1): ∀xs:List α,(xs.flatMap E).length=xs.length
 | []=>rfl
 |y::ys=>by rw[Ami,AlI,hE,WR hE ys,AlM,AmM]
theorem AdS {m:Mem}{α:Type}{E:α→List D}{z0:α}{zd:D}(hz:E z0=[zd])(hs:sc zd=true): ∀k,FRL m ((List.replicate k z0).flatMap E) (List.replicate k (scV zd))
 |0=> .nil
 |k+1=>by
  rw[List.replicate_succ,List.replicate_succ,Ami,hz];exact .cons (Aak hs) (AdS hz hs k)
section
variable {ρ:Option Nat}{P:Program}{N:Nat}{D0:Dw}{Q:DQ}{As:List Ow}{η0:Env}{m0:Mem}
theorem gclr {cf:Cf}{α:Type}{xs ys:List α}{j:Int}(E:α→List D)(z0:α)(zd:D)(q:clrT z0 xs j=some ys)(g:Go ρ P N D0 Q As η0 m0 (clrG P N (aC P N cf) α E ys))
  (e:(Alc P N (aC P N cf),sc zd,bL P N cf)=(some (.sl α E xs,j,scV zd),true,bR P N cf):=by kernel_rfl) (hE: ∀x,(E x).length=1:=by intro x; rfl) (hz:E z0=[zd]:=by rfl) (hm:P.follows .mixedOrders=true:=by rfl):Go ρ P N D0 Q As η0 m0 cf:=by
 simp only[AlE]at e;obtain⟨e1,hsc,e2⟩:=e;unfold clrT at q;obtain⟨⟨h0,hn⟩,q⟩:(0≤j∧j≤(xs.length:Int))∧xs.take j.toNat++List.replicate (xs.length-j.toNat) z0=ys:=by
  by_cases h:0≤j∧j≤(xs.length:Int)
  ·rw[AlH h]at q; exact⟨h,AlC q⟩
  ·rw[AlG h]at q; cases q
 refine A2 hm (.of e2) ?_;generalize aC P N cf=c0 at*;cases hp:clrK P N c0 with
 |none=>unfold Alc at e1; rw[hp]at e1; cases e1
 |some p=>
  have gS:clrG P N c0 α E ys=⟨after N c0.s p.o ⟨.any,[],[p.tok],[(c0.s.nx,.row p.k 1 α E ys)],c0.s.nx+1,[]⟩,.pop,c0.K⟩:=by unfold clrG; rw[hp]
  rw[gS]at g;unfold Alc at e1;rw[hp]at e1;simp only[AlJ,AlE]at e1;obtain⟨ed,ej,ez⟩:=e1;obtain⟨s,md,K⟩:=c0;unfold clrK at hp;split at hp
  ·rename_i l d1 t x lo ty pos af d2 t2 ty2 pos2 af2 hh hmd;simp only at hmd; subst hmd;split at hp
   ·rename_i n ik j' el hx hj hu;split at hp
    ·rename_i i k sz α' E' xs' ti hf hti;split at hp
     ·rename_i z hzv;cases hb:(Nat.beq k n&&(Nat.beq ti.sz 1&&Nat.beq sz 1))&&(Nat.beq d1 d2&&(Nat.beq t t2&&Nat.blt d1 N))
      ·rw[hb]at hp; cases hp
      ·rw[hb]at hp;simp only[cond_true]at hp;cases hp;simp only[AlD]at hb;obtain⟨⟨b1,b2,b3⟩,b4,b5,b6⟩:=hb;have b1:=AlF b1;have b2:=AlF b2;have b3:=AlF b3;have b4:=AlF b4;have b5:=AlF b5;subst b1 b3 b4 b5;simp only at ed ej ez;cases ed;subst ej ez;refine .inr (.inl ⟨rfl,fun η m f w a b gm=> ?_⟩);have hmem:=Fw hf;have S0:=St.rp gm.st (IT (ts:=[(i,AObj.row k 1 α E xs)]) gm.wf.nd (by simp[tids]) (fun p hp=>by rw[AmN.1 hp]; exact hmem));obtain⟨v,cs,h1,h2,h3,h4,S1⟩:=St.openRow (As:=reps η m (Ej (tids [(i,AObj.row k 1 α E xs)]) s.ob)++As) S0;have rx:=Aq gm.slr x;rw[hx]at rx;have ev_:=rx.ow_inv.1;rw[h1]at ev_; cases ev_;have hcell:=(Aak (m:=m) hsc);refine s_clrO (i:=0) S1 rfl rfl hu (by have:=B8 hti; rw[b2]at this; exact this) (OK hti hzv) (MM hcell.one) hcell.one (B7 hj gm.slr) h0 hn b6 fun u w' S2=> ?_;refine AK ?_;have hcl:cs.length=xs.length:=by
        have e1:=h3.1;rw[WR hE]at e1;omega
       have hyl:ys.length=xs.length:=by rw[←q,AlI,Al0,List.length_replicate]; omega
       refine g η m _ w' a b ⟨(show∀t,Rel η m (get (setS N s.sl (some d1) .any) t) (upo N f (some d1) u t)from QP (fun t=>gm.slr t) (.any u)),gm.fz,fun n hn=>Nat.lt_succ_of_lt (gm.dom n hn),?_,LZ gm.wf ⟨fun p hp=>by simp at hp; subst hp; exact hmem,by simp[tids],by simp[tids],fun t ht=>by simp[tids]at ht; subst ht; exact⟨AlK _,AlX _⟩⟩ (Amw _)⟩;show St m (reps η m (Ej [i] s.ob++[(s.nx,AObj.row k 1 α E ys)])++As) w';rw[BB,AlP];have S3:St m (Gw.row 1 (ev f x) (cs.take j'.toNat++List.replicate (xs.length-j'.toNat) (scV zd)) ys.length::(reps η m (Ej [i] s.ob)++As)) w':=by rw[hyl]; exact S2
       have S4:=St.closeRow (η:=η) (n:=k) (E:=E) h1 h2 (by
        rw[←q,List.flatMap_append,R5 (fun x _=>hE x),Nat.mul_one];exact(h3.take _).append (AdS hz hsc _)) (fun y _=>hE y) S3
       exact S4.perm List.perm_middle.symm
     ·cases hp
    ·cases hp
   ·cases hp
  ·cases hp
end
end Go.Ax
end
section
namespace Go.Proofs.YtnhdojckpcbjeaaGreatDoor
open Go Go.Gw Go.Ax Tryz
def str_0:ByteArray:=⟨#[0,1,2,2,3,3,3,3,4,4,4,4,4,4,4,4,5,5,5,5,5,5,5,5,5,5,5,5,5,5,5,5,6,6,6,6,6,6,6,6,6,6,6,6,6,6,6,6,6,6,6,6,6,6,6,6,6,6,6,6,6,6,6,6,7,7,7,7,7,7,7,7,7,7,7,7,7,7,7,7,7,7,7,7,7,7,7,7,7,7,7,7,7,7,7,7,7,7,7,7,7,7,7,7,7,7,7,7,7,7,7,7,7,7,7,7,7,7,7,7,7,7,7,7,7,7,7,7,8,8,8,8,8,8,8,8,8,8,8,8,8,8,8,8,8,8,8,8,8,8,8,8,8,8,8,8,8,8,8,8,8,8,8,8,8,8,8,8,8,8,8,8,8,8,8,8,8,8,8,8,8,8,8,8,8,8,8,8,8,8,8,8,8,8,8,8,8,8,8,8,8,8,8,8,8,8,8,8,8,8,8,8,8,8,8,8,8,8,8,8,8,8,8,8,8,8,8,8,8,8,8,8,8,8,8,8,8,8,8,8,8,8,8,8,8,8,8,8,8,8,8,8,8,8,8,8]⟩
def str_1:ByteArray:=⟨#[0,1,1,2,1,2,2,3,1,2,2,3,2,3,3,4,1,2,2,3,2,3,3,4,2,3,3,4,3,4,4,5,1,2,2,3,2,3,3,4,2,3,3,4,3,4,4,5,2,3,3,4,3,4,4,5,3,4,4,5,4,5,5,6,1,2,2,3,2,3,3,4,2,3,3,4,3,4,4,5,2,3,3,4,3,4,4,5,3,4,4,5,4,5,5,6,2,3,3,4,3,4,4,5,3,4,4,5,4,5,5,6,3,4,4,5,4,5,5,6,4,5,5,6,5,6,6,7,1,2,2,3,2,3,3,4,2,3,3,4,3,4,4,5,2,3,3,4,3,4,4,5,3,4,4,5,4,5,5,6,2,3,3,4,3,4,4,5,3,4,4,5,4,5,5,6,3,4,4,5,4,5,5,6,4,5,5,6,5,6,6,7,2,3,3,4,3,4,4,5,3,4,4,5,4,5,5,6,3,4,4,5,4,5,5,6,4,5,5,6,5,6,6,7,3,4,4,5,4,5,5,6,4,5,5,6,5,6,6,7,4,5,5,6,5,6,6,7,5,6,6,7,6,7,7,8]⟩
structure g_api_Sig where
 E:UInt64
 S:UInt64
instance:GoT g_api_Sig where
 sz:=GoT.sz (UInt64×UInt64)
 rep m cs x:=GoT.rep (α:=UInt64×UInt64) m cs (x.E,x.S)
 len h:=GoT.len (α:=UInt64×UInt64) h
 up l h:=GoT.up (α:=UInt64×UInt64) l h
 one h:=GoT.one (α:=UInt64×UInt64) h
instance:Inhabited g_api_Sig:=⟨⟨default,default⟩⟩
structure g_api_Promise where
 Log:Int
 At:Int
 Leaf:UInt64×UInt64
 Sig:g_api_Sig
instance:GoT g_api_Promise where
 sz:=GoT.sz (Int×Int×(UInt64×UInt64)×g_api_Sig)
 rep m cs x:=GoT.rep (α:=Int×Int×(UInt64×UInt64)×g_api_Sig) m cs (x.Log,x.At,x.Leaf,x.Sig)
 len h:=GoT.len (α:=Int×Int×(UInt64×UInt64)×g_api_Sig) h
 up l h:=GoT.up (α:=Int×Int×(UInt64×UInt64)×g_api_Sig) l h
 one h:=GoT.one (α:=Int×Int×(UInt64×UInt64)×g_api_Sig) h
instance:Inhabited g_api_Promise:=⟨⟨default,default,default,default⟩⟩
structure g_api_Cert where
 Serial:Int
 Issuer:ByteArray
 Subject:ByteArray
 Key:UInt64
 Names:List ByteArray
 From:Int
 Until:Int
 Ca:Bool
 Depth:Int
 Permit:List ByteArray
 Proms:List g_api_Promise
 Sig:g_api_Sig
instance:GoT g_api_Cert where
 sz:=GoT.sz (Int×ByteArray×ByteArray×UInt64×(List ByteArray)×Int×Int×Bool×Int×(List ByteArray)×(List g_api_Promise)×g_api_Sig)
 rep m cs x:=GoT.rep (α:=Int×ByteArray×ByteArray×UInt64×(List ByteArray)×Int×Int×Bool×Int×(List ByteArray)×(List g_api_Promise)×g_api_Sig) m cs (x.Serial,x.Issuer,x.Subject,x.Key,x.Names,x.From,x.Until,x.Ca,x.Depth,x.Permit,x.Proms,x.Sig)
 len h:=GoT.len (α:=Int×ByteArray×ByteArray×UInt64×(List ByteArray)×Int×Int×Bool×Int×(List ByteArray)×(List g_api_Promise)×g_api_Sig) h
 up l h:=GoT.up (α:=Int×ByteArray×ByteArray×UInt64×(List ByteArray)×Int×Int×Bool×Int×(List ByteArray)×(List g_api_Promise)×g_api_Sig) l h
 one h:=GoT.one (α:=Int×ByteArray×ByteArray×UInt64×(List ByteArray)×Int×Int×Bool×Int×(List ByteArray)×(List g_api_Promise)×g_api_Sig) h
instance:Inhabited g_api_Cert:=⟨⟨default,default,default,default,default,default,default,default,default,default,default,default⟩⟩
structure g_path_trip where
 roots_:List g_api_Cert
 chain_:List g_api_Cert
 name_:ByteArray
 now_:Int
instance:GoT g_path_trip where
 sz:=GoT.sz ((List g_api_Cert)×(List g_api_Cert)×ByteArray×Int)
 rep m cs x:=GoT.rep (α:=(List g_api_Cert)×(List g_api_Cert)×ByteArray×Int) m cs (x.roots_,x.chain_,x.name_,x.now_)
 len h:=GoT.len (α:=(List g_api_Cert)×(List g_api_Cert)×ByteArray×Int) h
 up l h:=GoT.up (α:=(List g_api_Cert)×(List g_api_Cert)×ByteArray×Int) l h
 one h:=GoT.one (α:=(List g_api_Cert)×(List g_api_Cert)×ByteArray×Int) h
instance:Inhabited g_path_trip:=⟨⟨default,default,default,default⟩⟩
structure GD where
 tag_:Int
 may_:Int
instance:Inhabited GD:=⟨⟨default,default⟩⟩
structure g_api_Item where
 Tag:Int
 B:List UInt8
 L:List g_api_Item
instance:Inhabited g_api_Item:=⟨⟨default,default,default⟩⟩
def Ao (a:g_api_Item):List D:=[.i a.Tag,.sl _ eB a.B,.rs _ (fun a=> [.i a.Tag,.sl _ eB a.B]) (fun a=> []) (fun a=>a.L) a.L]
instance:GoT g_api_Item:=QO Ao 3
theorem AeQ {m:Mem}{cs:List Value}{x:g_api_Item}(h:GoT.rep m cs x): ∃v1,∃v2,cs=[vI x.Tag,v1,v2]∧SlR m v1 x.B∧SlR m v2 x.L:=by
 obtain⟨h,_⟩:=h;obtain⟨u0,us0,rfl,a0,g0⟩:=FRL.cons_inv h;cases a0;obtain⟨u1,us1,rfl,a1,g1⟩:=FRL.cons_inv g0;obtain⟨u2,us2,rfl,a2,g2⟩:=FRL.cons_inv g1;obtain rfl:=FRL.nil_inv g2;exact⟨u1,u2,rfl,Br.ofS Br.b a1,X1 (AbA a2) (fun _=>rfl)⟩
theorem Af5 {m:Mem}{x:g_api_Item}{v1:Value}{v2:Value}(h1:SlR m v1 x.B)(h2:SlR m v2 x.L):GoT.rep m [vI x.Tag,v1,v2] x:=⟨(FRL.cons (.i _) (FRL.cons (Br.toS Br.b h1) (FRL.cons (.rs (V5 h2)) FRL.nil))),rfl⟩
theorem b_api_Item:Br g_api_Item Ao:=⟨fun h=>h.1,fun h=>⟨h,rfl⟩,fun _=>rfl⟩
structure g_api_Key where
 Log:Int
 Key:UInt64
 Delay:Int
instance:GoT g_api_Key where
 sz:=GoT.sz (Int×UInt64×Int)
 rep m cs x:=GoT.rep (α:=Int×UInt64×Int) m cs (x.Log,x.Key,x.Delay)
 len h:=GoT.len (α:=Int×UInt64×Int) h
 up l h:=GoT.up (α:=Int×UInt64×Int) l h
 one h:=GoT.one (α:=Int×UInt64×Int) h
instance:Inhabited g_api_Key:=⟨⟨default,default,default⟩⟩
structure g_api_Head where
 Log:Int
 Size:Int
 Root:UInt64×UInt64
 At:Int
 Sig:g_api_Sig
instance:GoT g_api_Head where
 sz:=GoT.sz (Int×Int×(UInt64×UInt64)×Int×g_api_Sig)
 rep m cs x:=GoT.rep (α:=Int×Int×(UInt64×UInt64)×Int×g_api_Sig) m cs (x.Log,x.Size,x.Root,x.At,x.Sig)
 len h:=GoT.len (α:=Int×Int×(UInt64×UInt64)×Int×g_api_Sig) h
 up l h:=GoT.up (α:=Int×Int×(UInt64×UInt64)×Int×g_api_Sig) l h
 one h:=GoT.one (α:=Int×Int×(UInt64×UInt64)×Int×g_api_Sig) h
instance:Inhabited g_api_Head:=⟨⟨default,default,default,default,default⟩⟩
structure g_api_Pool where
 L:List g_api_Head
instance:GoT g_api_Pool where
 sz:=GoT.sz ((List g_api_Head))
 rep m cs x:=GoT.rep (α:=(List g_api_Head)) m cs x.L
 len h:=GoT.len (α:=(List g_api_Head)) h
 up l h:=GoT.up (α:=(List g_api_Head)) l h
 one h:=GoT.one (α:=(List g_api_Head)) h
instance:Inhabited g_api_Pool:=⟨⟨default⟩⟩
structure g_api_Sieve where
 Bits:Int
 Hashes:Int
 Salt:Int
 B:List UInt8
instance:GoT g_api_Sieve where
 sz:=GoT.sz (Int×Int×Int×(List UInt8))
 rep m cs x:=GoT.rep (α:=Int×Int×Int×(List UInt8)) m cs (x.Bits,x.Hashes,x.Salt,x.B)
 len h:=GoT.len (α:=Int×Int×Int×(List UInt8)) h
 up l h:=GoT.up (α:=Int×Int×Int×(List UInt8)) l h
 one h:=GoT.one (α:=Int×Int×Int×(List UInt8)) h
instance:Inhabited g_api_Sieve:=⟨⟨default,default,default,default⟩⟩
structure g_api_Cascade where
 Day:Int
 Levels:List g_api_Sieve
instance:GoT g_api_Cascade where
 sz:=GoT.sz (Int×(List g_api_Sieve))
 rep m cs x:=GoT.rep (α:=Int×(List g_api_Sieve)) m cs (x.Day,x.Levels)
 len h:=GoT.len (α:=Int×(List g_api_Sieve)) h
 up l h:=GoT.up (α:=Int×(List g_api_Sieve)) l h
 one h:=GoT.one (α:=Int×(List g_api_Sieve)) h
instance:Inhabited g_api_Cascade:=⟨⟨default,default⟩⟩
structure g_api_Client where
 Who:ByteArray
 Roots:List g_api_Cert
 Logs:List g_api_Key
 Pool:g_api_Pool
 Cascade:g_api_Cascade
 View:Int
instance:GoT g_api_Client where
 sz:=GoT.sz (ByteArray×(List g_api_Cert)×(List g_api_Key)×g_api_Pool×g_api_Cascade×Int)
 rep m cs x:=GoT.rep (α:=ByteArray×(List g_api_Cert)×(List g_api_Key)×g_api_Pool×g_api_Cascade×Int) m cs (x.Who,x.Roots,x.Logs,x.Pool,x.Cascade,x.View)
 len h:=GoT.len (α:=ByteArray×(List g_api_Cert)×(List g_api_Key)×g_api_Pool×g_api_Cascade×Int) h
 up l h:=GoT.up (α:=ByteArray×(List g_api_Cert)×(List g_api_Key)×g_api_Pool×g_api_Cascade×Int) l h
 one h:=GoT.one (α:=ByteArray×(List g_api_Cert)×(List g_api_Key)×g_api_Pool×g_api_Cascade×Int) h
instance:Inhabited g_api_Client:=⟨⟨default,default,default,default,default,default⟩⟩
structure Aj where
 Client:g_api_Client
instance:GoT Aj where
 sz:=GoT.sz (g_api_Client)
 rep m cs x:=GoT.rep (α:=g_api_Client) m cs x.Client
 len h:=GoT.len (α:=g_api_Client) h
 up l h:=GoT.up (α:=g_api_Client) l h
 one h:=GoT.one (α:=g_api_Client) h
instance:Inhabited Aj:=⟨⟨default⟩⟩
structure g_api_Place where
 Log:Int
 At:Int
 Size:Int
 Proof:List (UInt64×UInt64)
instance:GoT g_api_Place where
 sz:=GoT.sz (Int×Int×Int×(List (UInt64×UInt64)))
 rep m cs x:=GoT.rep (α:=Int×Int×Int×(List (UInt64×UInt64))) m cs (x.Log,x.At,x.Size,x.Proof)
 len h:=GoT.len (α:=Int×Int×Int×(List (UInt64×UInt64))) h
 up l h:=GoT.up (α:=Int×Int×Int×(List (UInt64×UInt64))) l h
 one h:=GoT.one (α:=Int×Int×Int×(List (UInt64×UInt64))) h
instance:Inhabited g_api_Place:=⟨⟨default,default,default,default⟩⟩
structure g_api_Offer where
 Path:List g_api_Cert
 Where:List g_api_Place
instance:GoT g_api_Offer where
 sz:=GoT.sz ((List g_api_Cert)×(List g_api_Place))
 rep m cs x:=GoT.rep (α:=(List g_api_Cert)×(List g_api_Place)) m cs (x.Path,x.Where)
 len h:=GoT.len (α:=(List g_api_Cert)×(List g_api_Place)) h
 up l h:=GoT.up (α:=(List g_api_Cert)×(List g_api_Place)) l h
 one h:=GoT.one (α:=(List g_api_Cert)×(List g_api_Place)) h
instance:Inhabited g_api_Offer:=⟨⟨default,default⟩⟩
structure g_api_Leaf where
 Body:List UInt8
 At:Int
instance:GoT g_api_Leaf where
 sz:=GoT.sz ((List UInt8)×Int)
 rep m cs x:=GoT.rep (α:=(List UInt8)×Int) m cs (x.Body,x.At)
 len h:=GoT.len (α:=(List UInt8)×Int) h
 up l h:=GoT.up (α:=(List UInt8)×Int) l h
 one h:=GoT.one (α:=(List UInt8)×Int) h
instance:Inhabited g_api_Leaf:=⟨⟨default,default⟩⟩
structure g_api_Log where
 Id:Int
 Key:UInt64
 Delay:Int
 L:List g_api_Leaf
 Hide:List Int
 Wait:List g_api_Leaf
instance:GoT g_api_Log where
 sz:=GoT.sz (Int×UInt64×Int×(List g_api_Leaf)×(List Int)×(List g_api_Leaf))
 rep m cs x:=GoT.rep (α:=Int×UInt64×Int×(List g_api_Leaf)×(List Int)×(List g_api_Leaf)) m cs (x.Id,x.Key,x.Delay,x.L,x.Hide,x.Wait)
 len h:=GoT.len (α:=Int×UInt64×Int×(List g_api_Leaf)×(List Int)×(List g_api_Leaf)) h
 up l h:=GoT.up (α:=Int×UInt64×Int×(List g_api_Leaf)×(List Int)×(List g_api_Leaf)) l h
 one h:=GoT.one (α:=Int×UInt64×Int×(List g_api_Leaf)×(List Int)×(List g_api_Leaf)) h
instance:Inhabited g_api_Log:=⟨⟨default,default,default,default,default,default⟩⟩
structure Iv where
 Account:Int
 Names:List ByteArray
 Key:UInt64
 Life:Int
instance:GoT Iv where
 sz:=GoT.sz (Int×(List ByteArray)×UInt64×Int)
 rep m cs x:=GoT.rep (α:=Int×(List ByteArray)×UInt64×Int) m cs (x.Account,x.Names,x.Key,x.Life)
 len h:=GoT.len (α:=Int×(List ByteArray)×UInt64×Int) h
 up l h:=GoT.up (α:=Int×(List ByteArray)×UInt64×Int) l h
 one h:=GoT.one (α:=Int×(List ByteArray)×UInt64×Int) h
instance:Inhabited Iv:=⟨⟨default,default,default,default⟩⟩
structure An where
 size_:Int
 root_:UInt64×UInt64
instance:GoT An where
 sz:=GoT.sz (Int×(UInt64×UInt64))
 rep m cs x:=GoT.rep (α:=Int×(UInt64×UInt64)) m cs (x.size_,x.root_)
 len h:=GoT.len (α:=Int×(UInt64×UInt64)) h
 up l h:=GoT.up (α:=Int×(UInt64×UInt64)) l h
 one h:=GoT.one (α:=Int×(UInt64×UInt64)) h
instance:Inhabited An:=⟨⟨default,default⟩⟩
structure Co where
 c_:g_api_Client
 o_:g_api_Offer
 logs_:List g_api_Log
instance:GoT Co where
 sz:=GoT.sz (g_api_Client×g_api_Offer×(List g_api_Log))
 rep m cs x:=GoT.rep (α:=g_api_Client×g_api_Offer×(List g_api_Log)) m cs (x.c_,x.o_,x.logs_)
 len h:=GoT.len (α:=g_api_Client×g_api_Offer×(List g_api_Log)) h
 up l h:=GoT.up (α:=g_api_Client×g_api_Offer×(List g_api_Log)) l h
 one h:=GoT.one (α:=g_api_Client×g_api_Offer×(List g_api_Log)) h
instance:Inhabited Co:=⟨⟨default,default,default⟩⟩
structure Bb where
 sieve_:g_api_Sieve
 e_:Int
instance:GoT Bb where
 sz:=GoT.sz (g_api_Sieve×Int)
 rep m cs x:=GoT.rep (α:=g_api_Sieve×Int) m cs (x.sieve_,x.e_)
 len h:=GoT.len (α:=g_api_Sieve×Int) h
 up l h:=GoT.up (α:=g_api_Sieve×Int) l h
 one h:=GoT.one (α:=g_api_Sieve×Int) h
instance:Inhabited Bb:=⟨⟨default,default⟩⟩
structure GG where
 lo_:UInt8
 hi_:UInt8
instance:GoT GG where
 sz:=GoT.sz (UInt8×UInt8)
 rep m cs x:=GoT.rep (α:=UInt8×UInt8) m cs (x.lo_,x.hi_)
 len h:=GoT.len (α:=UInt8×UInt8) h
 up l h:=GoT.up (α:=UInt8×UInt8) l h
 one h:=GoT.one (α:=UInt8×UInt8) h
instance:Inhabited GG:=⟨⟨default,default⟩⟩
theorem Acp {m:Mem}{cs:List Value}{x:g_api_Sieve}(h:GoT.rep m cs x): ∃v1,cs=[vI x.Bits,vI x.Hashes,vI x.Salt,v1]∧SlR m v1 x.B:=by
 obtain⟨_,_,rfl,rfl,⟨_,_,rfl,rfl,⟨_,_,rfl,rfl,⟨v1,rfl,h1⟩⟩⟩⟩:=h;exact⟨v1,rfl,h1⟩
theorem AeV {m:Mem}{x:g_api_Sieve}{v1:Value}(h1:SlR m v1 x.B):GoT.rep m [vI x.Bits,vI x.Hashes,vI x.Salt,v1] x:=⟨[vI x.Bits],[vI x.Hashes,vI x.Salt,v1],rfl,rfl,⟨[vI x.Hashes],[vI x.Salt,v1],rfl,rfl,⟨[vI x.Salt],[v1],rfl,rfl,⟨_,rfl,h1⟩⟩⟩⟩
theorem Rr {m:Mem}{cs:List Value}{x:UInt64×UInt64}(h:GoT.rep m cs x):cs=[vU x.1,vU x.2]:=by
 obtain⟨_,_,rfl,rfl,rfl⟩:=h;exact rfl
theorem SS {m:Mem}{x:UInt64×UInt64}:GoT.rep m [vU x.1,vU x.2] x:=⟨[vU x.1],[vU x.2],rfl,rfl,rfl⟩
theorem Acq {m:Mem}{cs:List Value}{x:g_api_Place}(h:GoT.rep m cs x): ∃v1,cs=[vI x.Log,vI x.At,vI x.Size,v1]∧SlR m v1 x.Proof:=by
 obtain⟨_,_,rfl,rfl,⟨_,_,rfl,rfl,⟨_,_,rfl,rfl,⟨v1,rfl,h1⟩⟩⟩⟩:=h;exact⟨v1,rfl,h1⟩
theorem AeW {m:Mem}{x:g_api_Place}{v1:Value}(h1:SlR m v1 x.Proof):GoT.rep m [vI x.Log,vI x.At,vI x.Size,v1] x:=⟨[vI x.Log],[vI x.At,vI x.Size,v1],rfl,rfl,⟨[vI x.At],[vI x.Size,v1],rfl,rfl,⟨[vI x.Size],[v1],rfl,rfl,⟨_,rfl,h1⟩⟩⟩⟩
theorem AfB {m:Mem}{cs:List Value}{x:g_api_Key}(h:GoT.rep m cs x):cs=[vI x.Log,vU x.Key,vI x.Delay]:=by
 obtain⟨_,_,rfl,rfl,⟨_,_,rfl,rfl,rfl⟩⟩:=h;exact rfl
theorem AhZ {m:Mem}{x:g_api_Key}:GoT.rep m [vI x.Log,vU x.Key,vI x.Delay] x:=⟨[vI x.Log],[vU x.Key,vI x.Delay],rfl,rfl,⟨[vU x.Key],[vI x.Delay],rfl,rfl,rfl⟩⟩
theorem AeR {m:Mem}{cs:List Value}{x:g_api_Head}(h:GoT.rep m cs x):cs=[vI x.Log,vI x.Size,vU x.Root.1,vU x.Root.2,vI x.At,vU x.Sig.E,vU x.Sig.S]:=by
 obtain⟨_,_,rfl,rfl,⟨_,_,rfl,rfl,⟨_,_,rfl,⟨_,_,rfl,rfl,rfl⟩,⟨_,_,rfl,rfl,⟨_,_,rfl,rfl,rfl⟩⟩⟩⟩⟩:=h;exact rfl
theorem Af6 {m:Mem}{x:g_api_Head}:GoT.rep m [vI x.Log,vI x.Size,vU x.Root.1,vU x.Root.2,vI x.At,vU x.Sig.E,vU x.Sig.S] x:=⟨[vI x.Log],[vI x.Size,vU x.Root.1,vU x.Root.2,vI x.At,vU x.Sig.E,vU x.Sig.S],rfl,rfl,⟨[vI x.Size],[vU x.Root.1,vU x.Root.2,vI x.At,vU x.Sig.E,vU x.Sig.S],rfl,rfl,⟨[vU x.Root.1,vU x.Root.2],[vI x.At,vU x.Sig.E,vU x.Sig.S],rfl,⟨[vU x.Root.1],[vU x.Root.2],rfl,rfl,rfl⟩,⟨[vI x.At],[vU x.Sig.E,vU x.Sig.S],rfl,rfl,⟨[vU x.Sig.E],[vU x.Sig.S],rfl,rfl,rfl⟩⟩⟩⟩⟩
theorem Aar {m:Mem}{cs:List Value}{x:An}(h:GoT.rep m cs x):cs=[vI x.size_,vU x.root_.1,vU x.root_.2]:=by
 obtain⟨_,_,rfl,rfl,⟨_,_,rfl,rfl,rfl⟩⟩:=h;exact rfl
theorem Abj {m:Mem}{x:An}:GoT.rep m [vI x.size_,vU x.root_.1,vU x.root_.2] x:=⟨[vI x.size_],[vU x.root_.1,vU x.root_.2],rfl,rfl,⟨[vU x.root_.1],[vU x.root_.2],rfl,rfl,rfl⟩⟩
theorem AfA {m:Mem}{cs:List Value}{x:g_api_Log}(h:GoT.rep m cs x): ∃v1,∃v2,∃v3,cs=[vI x.Id,vU x.Key,vI x.Delay,v1,v2,v3]∧SlR m v1 x.L∧SlR m v2 x.Hide∧SlR m v3 x.Wait:=by
 obtain⟨_,_,rfl,rfl,⟨_,_,rfl,rfl,⟨_,_,rfl,rfl,⟨_,_,rfl,⟨v1,rfl,h1⟩,⟨_,_,rfl,⟨v2,rfl,h2⟩,⟨v3,rfl,h3⟩⟩⟩⟩⟩⟩:=h;exact⟨v1,v2,v3,rfl,h1,h2,h3⟩
theorem AhY {m:Mem}{x:g_api_Log}{v1:Value}{v2:Value}{v3:Value}(h1:SlR m v1 x.L)(h2:SlR m v2 x.Hide)(h3:SlR m v3 x.Wait):GoT.rep m [vI x.Id,vU x.Key,vI x.Delay,v1,v2,v3] x:=⟨[vI x.Id],[vU x.Key,vI x.Delay,v1,v2,v3],rfl,rfl,⟨[vU x.Key],[vI x.Delay,v1,v2,v3],rfl,rfl,⟨[vI x.Delay],[v1,v2,v3],rfl,rfl,⟨[v1],[v2,v3],rfl,⟨_,rfl,h1⟩,⟨[v2],[v3],rfl,⟨_,rfl,h2⟩,⟨_,rfl,h3⟩⟩⟩⟩⟩⟩
theorem AeS {m:Mem}{cs:List Value}{x:g_api_Cert}(h:GoT.rep m cs x): ∃v1,∃v2,∃v3,cs=[vI x.Serial,vS x.Issuer,vS x.Subject,vU x.Key,v1,vI x.From,vI x.Until,vb x.Ca,vI x.Depth,v2,v3,vU x.Sig.E,vU x.Sig.S]∧SlR m v1 x.Names∧SlR m v2 x.Permit∧SlR m v3 x.Proms:=by
 obtain⟨_,_,rfl,rfl,⟨_,_,rfl,rfl,⟨_,_,rfl,rfl,⟨_,_,rfl,rfl,⟨_,_,rfl,⟨v1,rfl,h1⟩,⟨_,_,rfl,rfl,⟨_,_,rfl,rfl,⟨_,_,rfl,rfl,⟨_,_,rfl,rfl,⟨_,_,rfl,⟨v2,rfl,h2⟩,⟨_,_,rfl,⟨v3,rfl,h3⟩,⟨_,_,rfl,rfl,rfl⟩⟩⟩⟩⟩⟩⟩⟩⟩⟩⟩⟩:=h;exact⟨v1,v2,v3,rfl,h1,h2,h3⟩
theorem Af7 {m:Mem}{x:g_api_Cert}{v1:Value}{v2:Value}{v3:Value}(h1:SlR m v1 x.Names)(h2:SlR m v2 x.Permit)(h3:SlR m v3 x.Proms):GoT.rep m [vI x.Serial,vS x.Issuer,vS x.Subject,vU x.Key,v1,vI x.From,vI x.Until,vb x.Ca,vI x.Depth,v2,v3,vU x.Sig.E,vU x.Sig.S] x:=⟨[vI x.Serial],[vS x.Issuer,vS x.Subject,vU x.Key,v1,vI x.From,vI x.Until,vb x.Ca,vI x.Depth,v2,v3,vU x.Sig.E,vU x.Sig.S],rfl,rfl,⟨[vS x.Issuer],[vS x.Subject,vU x.Key,v1,vI x.From,vI x.Until,vb x.Ca,vI x.Depth,v2,v3,vU x.Sig.E,vU x.Sig.S],rfl,rfl,⟨[vS x.Subject],[vU x.Key,v1,vI x.From,vI x.Until,vb x.Ca,vI x.Depth,v2,v3,vU x.Sig.E,vU x.Sig.S],rfl,rfl,⟨[vU x.Key],[v1,vI x.From,vI x.Until,vb x.Ca,vI x.Depth,v2,v3,vU x.Sig.E,vU x.Sig.S],rfl,rfl,⟨[v1],[vI x.From,vI x.Until,vb x.Ca,vI x.Depth,v2,v3,vU x.Sig.E,vU x.Sig.S],rfl,⟨_,rfl,h1⟩,⟨[vI x.From],[vI x.Until,vb x.Ca,vI x.Depth,v2,v3,vU x.Sig.E,vU x.Sig.S],rfl,rfl,⟨[vI x.Until],[vb x.Ca,vI x.Depth,v2,v3,vU x.Sig.E,vU x.Sig.S],rfl,rfl,⟨[vb x.Ca],[vI x.Depth,v2,v3,vU x.Sig.E,vU x.Sig.S],rfl,rfl,⟨[vI x.Depth],[v2,v3,vU x.Sig.E,vU x.Sig.S],rfl,rfl,⟨[v2],[v3,vU x.Sig.E,vU x.Sig.S],rfl,⟨_,rfl,h2⟩,⟨[v3],[vU x.Sig.E,vU x.Sig.S],rfl,⟨_,rfl,h3⟩,⟨[vU x.Sig.E],[vU x.Sig.S],rfl,rfl,rfl⟩⟩⟩⟩⟩⟩⟩⟩⟩⟩⟩⟩
theorem AeP {m:Mem}{cs:List Value}{x:g_api_Leaf}(h:GoT.rep m cs x): ∃v1,cs=[v1,vI x.At]∧SlR m v1 x.Body:=by
 obtain⟨_,_,rfl,⟨v1,rfl,h1⟩,rfl⟩:=h;exact⟨v1,rfl,h1⟩
theorem Af4 {m:Mem}{x:g_api_Leaf}{v1:Value}(h1:SlR m v1 x.Body):GoT.rep m [v1,vI x.At] x:=⟨[v1],[vI x.At],rfl,⟨_,rfl,h1⟩,rfl⟩
theorem Aas {m:Mem}{cs:List Value}{x:g_api_Promise}(h:GoT.rep m cs x):cs=[vI x.Log,vI x.At,vU x.Leaf.1,vU x.Leaf.2,vU x.Sig.E,vU x.Sig.S]:=by
 obtain⟨_,_,rfl,rfl,⟨_,_,rfl,rfl,⟨_,_,rfl,⟨_,_,rfl,rfl,rfl⟩,⟨_,_,rfl,rfl,rfl⟩⟩⟩⟩:=h;exact rfl
theorem Abk {m:Mem}{x:g_api_Promise}:GoT.rep m [vI x.Log,vI x.At,vU x.Leaf.1,vU x.Leaf.2,vU x.Sig.E,vU x.Sig.S] x:=⟨[vI x.Log],[vI x.At,vU x.Leaf.1,vU x.Leaf.2,vU x.Sig.E,vU x.Sig.S],rfl,rfl,⟨[vI x.At],[vU x.Leaf.1,vU x.Leaf.2,vU x.Sig.E,vU x.Sig.S],rfl,rfl,⟨[vU x.Leaf.1,vU x.Leaf.2],[vU x.Sig.E,vU x.Sig.S],rfl,⟨[vU x.Leaf.1],[vU x.Leaf.2],rfl,rfl,rfl⟩,⟨[vU x.Sig.E],[vU x.Sig.S],rfl,rfl,rfl⟩⟩⟩⟩
def Lo (p q:g_api_Sig):Bool:=[(p.E==q.E),(p.S==q.S)].all id
theorem Sa {p q:g_api_Sig}:EqV Tryz.prog 2 36 (.agg ([vU p.E,vU p.S]:List Value).toArray) (.agg ([vU q.E,vU q.S]:List Value).toArray) (Lo p q):=
 EqV.struct (k:=1) (cs:=[vU p.E,vU p.S]) (ds:=[vU q.E,vU q.S]) (bs:=[(p.E==q.E),(p.S==q.S)]) Tryz.underlying36 (by kernel_rfl) ⟨⟨by decide,_,_,fd1 Tryz.isAgg32 Tryz.sizeOf32 rfl,fd1 Tryz.isAgg32 Tryz.sizeOf32 rfl,EqV.mono (EqV.u64 Tryz.underlying32) (by decide)⟩,⟨⟨by decide,_,_,fd1 Tryz.isAgg32 Tryz.sizeOf32 rfl,fd1 Tryz.isAgg32 Tryz.sizeOf32 rfl,EqV.mono (EqV.u64 Tryz.underlying32) (by decide)⟩,trivial⟩⟩
def Yo (p q:g_api_Head):Bool:=[(p.Log==q.Log),(p.Size==q.Size),(Na p.Root q.Root),(p.At==q.At),(Lo p.Sig q.Sig)].all id
theorem Aip {p q:g_api_Head}:EqV Tryz.prog 3 38 (.agg ([vI p.Log,vI p.Size,vU p.Root.1,vU p.Root.2,vI p.At,vU p.Sig.E,vU p.Sig.S]:List Value).toArray) (.agg ([vI q.Log,vI q.Size,vU q.Root.1,vU q.Root.2,vI q.At,vU q.Sig.E,vU q.Sig.S]:List Value).toArray) (Yo p q):=
 EqV.struct (k:=2) (cs:=[vI p.Log,vI p.Size,vU p.Root.1,vU p.Root.2,vI p.At,vU p.Sig.E,vU p.Sig.S]) (ds:=[vI q.Log,vI q.Size,vU q.Root.1,vU q.Root.2,vI q.At,vU q.Sig.E,vU q.Sig.S]) (bs:=[(p.Log==q.Log),(p.Size==q.Size),(Na p.Root q.Root),(p.At==q.At),(Lo p.Sig q.Sig)]) Tryz.underlying38 (by kernel_rfl) ⟨⟨by decide,_,_,fd1 Tryz.isAgg3 Tryz.sizeOf3 rfl,fd1 Tryz.isAgg3 Tryz.sizeOf3 rfl,EqV.mono (EqV.int Tryz.underlying3) (by decide)⟩,⟨⟨by decide,_,_,fd1 Tryz.isAgg3 Tryz.sizeOf3 rfl,fd1 Tryz.isAgg3 Tryz.sizeOf3 rfl,EqV.mono (EqV.int Tryz.underlying3) (by decide)⟩,⟨⟨by decide,_,_,fdA Tryz.isAgg34 Tryz.sizeOf34 rfl rfl,fdA Tryz.isAgg34 Tryz.sizeOf34 rfl rfl,EqV.mono (EqV.sum Tryz.underlying34 Tryz.underlying32 Tryz.sizeOf32 Tryz.isAgg32) (by decide)⟩,⟨⟨by decide,_,_,fd1 Tryz.isAgg3 Tryz.sizeOf3 rfl,fd1 Tryz.isAgg3 Tryz.sizeOf3 rfl,EqV.mono (EqV.int Tryz.underlying3) (by decide)⟩,⟨⟨by decide,_,_,fdA Tryz.isAgg36 Tryz.sizeOf36 rfl rfl,fdA Tryz.isAgg36 Tryz.sizeOf36 rfl rfl,EqV.mono (Sa) (by decide)⟩,trivial⟩⟩⟩⟩⟩
def SX (p q:g_api_Promise):Bool:=[(p.Log==q.Log),(p.At==q.At),(Na p.Leaf q.Leaf),(Lo p.Sig q.Sig)].all id
theorem AdY {p q:g_api_Promise}:EqV Tryz.prog 3 63 (.agg ([vI p.Log,vI p.At,vU p.Leaf.1,vU p.Leaf.2,vU p.Sig.E,vU p.Sig.S]:List Value).toArray) (.agg ([vI q.Log,vI q.At,vU q.Leaf.1,vU q.Leaf.2,vU q.Sig.E,vU q.Sig.S]:List Value).toArray) (SX p q):=
 EqV.struct (k:=2) (cs:=[vI p.Log,vI p.At,vU p.Leaf.1,vU p.Leaf.2,vU p.Sig.E,vU p.Sig.S]) (ds:=[vI q.Log,vI q.At,vU q.Leaf.1,vU q.Leaf.2,vU q.Sig.E,vU q.Sig.S]) (bs:=[(p.Log==q.Log),(p.At==q.At),(Na p.Leaf q.Leaf),(Lo p.Sig q.Sig)]) Tryz.underlying63 (by kernel_rfl) ⟨⟨by decide,_,_,fd1 Tryz.isAgg3 Tryz.sizeOf3 rfl,fd1 Tryz.isAgg3 Tryz.sizeOf3 rfl,EqV.mono (EqV.int Tryz.underlying3) (by decide)⟩,⟨⟨by decide,_,_,fd1 Tryz.isAgg3 Tryz.sizeOf3 rfl,fd1 Tryz.isAgg3 Tryz.sizeOf3 rfl,EqV.mono (EqV.int Tryz.underlying3) (by decide)⟩,⟨⟨by decide,_,_,fdA Tryz.isAgg34 Tryz.sizeOf34 rfl rfl,fdA Tryz.isAgg34 Tryz.sizeOf34 rfl rfl,EqV.mono (EqV.sum Tryz.underlying34 Tryz.underlying32 Tryz.sizeOf32 Tryz.isAgg32) (by decide)⟩,⟨⟨by decide,_,_,fdA Tryz.isAgg36 Tryz.sizeOf36 rfl rfl,fdA Tryz.isAgg36 Tryz.sizeOf36 rfl rfl,EqV.mono (Sa) (by decide)⟩,trivial⟩⟩⟩⟩
def AaT (p q:g_api_Key):Bool:=[(p.Log==q.Log),(p.Key==q.Key),(p.Delay==q.Delay)].all id
theorem AkW {p q:g_api_Key}:EqV Tryz.prog 2 102 (.agg ([vI p.Log,vU p.Key,vI p.Delay]:List Value).toArray) (.agg ([vI q.Log,vU q.Key,vI q.Delay]:List Value).toArray) (AaT p q):=
 EqV.struct (k:=1) (cs:=[vI p.Log,vU p.Key,vI p.Delay]) (ds:=[vI q.Log,vU q.Key,vI q.Delay]) (bs:=[(p.Log==q.Log),(p.Key==q.Key),(p.Delay==q.Delay)]) Tryz.underlying102 (by kernel_rfl) ⟨⟨by decide,_,_,fd1 Tryz.isAgg3 Tryz.sizeOf3 rfl,fd1 Tryz.isAgg3 Tryz.sizeOf3 rfl,EqV.mono (EqV.int Tryz.underlying3) (by decide)⟩,⟨⟨by decide,_,_,fd1 Tryz.isAgg32 Tryz.sizeOf32 rfl,fd1 Tryz.isAgg32 Tryz.sizeOf32 rfl,EqV.mono (EqV.u64 Tryz.underlying32) (by decide)⟩,⟨⟨by decide,_,_,fd1 Tryz.isAgg3 Tryz.sizeOf3 rfl,fd1 Tryz.isAgg3 Tryz.sizeOf3 rfl,EqV.mono (EqV.int Tryz.underlying3) (by decide)⟩,trivial⟩⟩⟩
structure Fv where
 k:Nat
 a:g_path_trip
def tab_2:List GD:=[⟨1,428⟩,⟨2,299⟩,⟨4,429⟩,⟨12,430⟩,⟨48,432⟩]
def Ad (a:g_api_Promise):List D:=[.i a.Log,.i a.At,.u a.Leaf.1,.u a.Leaf.2,.u a.Sig.E,.u a.Sig.S]
def Ac (a:g_api_Cert):List D:=[.i a.Serial,.s a.Issuer,.s a.Subject,.u a.Key,.sl _ eS a.Names,.i a.From,.i a.Until,.t a.Ca,.i a.Depth,.sl _ eS a.Permit,.sl _ Ad a.Proms,.u a.Sig.E,.u a.Sig.S]
def E1 (a:g_path_trip):List D:=[.sl _ Ac a.roots_,.sl _ Ac a.chain_,.s a.name_,.i a.now_]
def Lq (a:g_api_Sig):List D:=[.u a.E,.u a.S]
def Hy (a:GD):List D:=[.i a.tag_,.v (fnV a.may_)]
def Ad7 (a:UInt64×UInt64×UInt64):List D:=[.u a.1,.u a.2.1,.u a.2.2]
def Ar (a:UInt64×UInt64):List D:=[.u a.1,.u a.2]
def O4 (a:Fv):List D:=[.cl a.k (E1 a.a)]
def Ai (a:g_api_Key):List D:=[.i a.Log,.u a.Key,.i a.Delay]
def Af (a:g_api_Head):List D:=[.i a.Log,.i a.Size,.u a.Root.1,.u a.Root.2,.i a.At,.u a.Sig.E,.u a.Sig.S]
def Ag (a:g_api_Sieve):List D:=[.i a.Bits,.i a.Hashes,.i a.Salt,.sl _ eB a.B]
def Cz (a:Aj):List D:=[.s a.Client.Who,.sl _ Ac a.Client.Roots,.sl _ Ai a.Client.Logs,.sl _ Af a.Client.Pool.L,.i a.Client.Cascade.Day,.sl _ Ag a.Client.Cascade.Levels,.i a.Client.View]
def Nv (a:g_api_Pool):List D:=[.sl _ Af a.L]
def Jt (a:g_api_Cascade):List D:=[.i a.Day,.sl _ Ag a.Levels]
def Gd (a:g_api_Client):List D:=[.s a.Who,.sl _ Ac a.Roots,.sl _ Ai a.Logs,.sl _ Af a.Pool.L,.i a.Cascade.Day,.sl _ Ag a.Cascade.Levels,.i a.View]
def A6 (a:g_api_Place):List D:=[.i a.Log,.i a.At,.i a.Size,.sl _ Ar a.Proof]
def Yq (a:g_api_Offer):List D:=[.sl _ Ac a.Path,.sl _ A6 a.Where]
def Am (a:g_api_Leaf):List D:=[.sl _ eB a.Body,.i a.At]
def Av (a:g_api_Log):List D:=[.i a.Id,.u a.Key,.i a.Delay,.sl _ Am a.L,.sl _ eI a.Hide,.sl _ Am a.Wait]
def AaW (a:Iv):List D:=[.i a.Account,.sl _ eS a.Names,.u a.Key,.i a.Life]
def AG (a:An):List D:=[.i a.size_,.u a.root_.1,.u a.root_.2]
def Qg (a:Co):List D:=[.s a.c_.Who,.sl _ Ac a.c_.Roots,.sl _ Ai a.c_.Logs,.sl _ Af a.c_.Pool.L,.i a.c_.Cascade.Day,.sl _ Ag a.c_.Cascade.Levels,.i a.c_.View,.sl _ Ac a.o_.Path,.sl _ A6 a.o_.Where,.sl _ Av a.logs_]
def Nc (a:Bb):List D:=[.i a.sieve_.Bits,.i a.sieve_.Hashes,.i a.sieve_.Salt,.sl _ eB a.sieve_.B,.i a.e_]
theorem PV:Br (UInt64×UInt64) Ar:=Br.mk' (Br.pair Br.u Br.u) Ar (fun x=>x) (fun _ _ _=>rfl) (fun _=>rfl) rfl
theorem Su:Br g_api_Sig Lq:=Br.mk' (Br.pair Br.u Br.u) Lq (fun x=>(x.E,x.S)) (fun _ _ _=>rfl) (fun _=>rfl) rfl
theorem VC:Br g_api_Promise Ad:=Br.mk' (Br.pair Br.i (Br.pair Br.i (Br.pair PV Su))) Ad (fun x=>(x.Log,x.At,x.Leaf,x.Sig)) (fun _ _ _=>rfl) (fun _=>rfl) rfl
theorem Abd:Br g_api_Cert Ac:=Br.mk' (Br.pair Br.i (Br.pair Br.s (Br.pair Br.s (Br.pair Br.u (Br.pair (Br.sl Br.s) (Br.pair Br.i (Br.pair Br.i (Br.pair Br.t (Br.pair Br.i (Br.pair (Br.sl Br.s) (Br.pair (Br.sl VC) Su))))))))))) Ac (fun x=>(x.Serial,x.Issuer,x.Subject,x.Key,x.Names,x.From,x.Until,x.Ca,x.Depth,x.Permit,x.Proms,x.Sig)) (fun _ _ _=>rfl) (fun _=>rfl) rfl
theorem PU:Br g_api_Head Af:=Br.mk' (Br.pair Br.i (Br.pair Br.i (Br.pair PV (Br.pair Br.i Su)))) Af (fun x=>(x.Log,x.Size,x.Root,x.At,x.Sig)) (fun _ _ _=>rfl) (fun _=>rfl) rfl
theorem Abc:Br g_api_Leaf Am:=Br.mk' (Br.pair (Br.sl Br.b) Br.i) Am (fun x=>(x.Body,x.At)) (fun _ _ _=>rfl) (fun _=>rfl) rfl
end Go.Proofs.YtnhdojckpcbjeaaGreatDoor
end
