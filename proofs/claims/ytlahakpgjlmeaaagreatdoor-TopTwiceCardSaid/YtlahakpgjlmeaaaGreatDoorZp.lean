/- Several texts, one behind the other. Conditions: none. -/
import Derived.Test.YtlahakpgjlmeaaaGreatDoorZf
import Derived.Test.YtlahakpgjlmeaaaGreatDoorZo
import Derived.Test.YtlahakpgjlmeaaaGreatDoorZi
import Derived.Test.YtlahakpgjlmeaaaGreatDoorZj
import Derived.Test.YtlahakpgjlmeaaaGreatDoorZk
import Derived.Test.YtlahakpgjlmeaaaGreatDoorZl
import Derived.Test.YtlahakpgjlmeaaaGreatDoorZm
import Derived.KernelRfl
set_option linter.unusedSimpArgs false
set_option linter.unusedVariables false
set_option maxHeartbeats 2000000
set_option maxRecDepth 100000
section
namespace Go.Proofs.YtlahakpgjlmeaaaGreatDoor
open Go Go.Gw Go.Ax
theorem AaO {σ:Type}{body:Int→σ→Option σ}{n:Nat}(I:Nat→σ→Prop)(h: ∀(i:Nat) s,i<n→I i s→∃s',body i s=some s'∧I (i+1) s'){s:σ}(h0:I 0 s): ∃t,Cg body n 0 s=some t∧I n t:=by
 have key: ∀(k i:Nat) s,i+k=n→I i s→∃t,Cg body k (i:Int) s=some t∧I n t:=by
  intro k;induction k with
  |zero=>intro i s e hi; exact⟨s,rfl,(show i=n by omega)▸hi⟩
  |succ k ih=>
   intro i s e hi;obtain⟨s',e1,h1⟩:=h i s (by omega) hi;obtain⟨t,e2,h2⟩:=ih (i+1) s' (by omega) h1;refine⟨t,?_,h2⟩;show Ab (body i s) _=_;rw[e1];exact e2
 exact key n 0 s (by omega) h0
theorem Ss {σ ρ:Type}{body:Int→σ→Option (σ⊕ρ)}{n:Nat}(I:Nat→σ→Prop)(R:ρ→Prop)(h: ∀(i:Nat) s,i<n→I i s→(∃s',body i s=some (.inl s')∧I (i+1) s')∨∃r,body i s=some (.inr r)∧R r){s:σ}(h0:I 0 s):
  (∃t,Es body n 0 s=some (.inl t)∧I n t)∨∃r,Es body n 0 s=some (.inr r)∧R r:=by
 have key: ∀(k i:Nat) s,i+k=n→I i s→(∃t,Es body k (i:Int) s=some (.inl t)∧I n t)∨∃r,Es body k (i:Int) s=some (.inr r)∧R r:=by
  intro k;induction k with
  |zero=>intro i s e hi; exact .inl ⟨s,rfl,(show i=n by omega)▸hi⟩
  |succ k ih=>
   intro i s e hi;rcases h i s (by omega) hi with ⟨s',e1,h1⟩|⟨r,e1,h1⟩
   ·rcases ih (i+1) s' (by omega) h1 with ⟨t,e2,h2⟩|⟨r,e2,h2⟩
    ·refine .inl ⟨t,?_,h2⟩;show Ab (body i s) _=_;rw[e1];exact e2
    ·refine .inr ⟨r,?_,h2⟩;show Ab (body i s) _=_;rw[e1];exact e2
   ·refine .inr ⟨r,?_,h1⟩;show Ab (body i s) _=_;rw[e1];rfl
 exact key n 0 s (by omega) h0
theorem Sr {α σ ρ:Type}{body:Int→α→σ→Option (σ⊕ρ)}{xs:List α}(I:Nat→σ→Prop)(R:ρ→Prop)(h: ∀(i:Nat) x s,xs[i]? =some x→I i s→(∃s',body i x s=some (.inl s')∧I (i+1) s')∨∃r,body i x s=some (.inr r)∧R r){s:σ}(h0:I 0 s):
  (∃t,D1 body xs 0 s=some (.inl t)∧I xs.length t)∨∃r,D1 body xs 0 s=some (.inr r)∧R r:=by
 have key: ∀(ys:List α) (i:Nat) s,xs.drop i=ys→i≤xs.length→I i s→(∃t,D1 body ys (i:Int) s=some (.inl t)∧I xs.length t)∨∃r,D1 body ys (i:Int) s=some (.inr r)∧R r:=by
  intro ys;induction ys with
  |nil=>intro i s e hl hi; exact .inl ⟨s,rfl,(show i=xs.length by have:=List.drop_eq_nil_iff.1 e; omega)▸hi⟩
  |cons y ys ih=>
   intro i s e hl hi;have hx:xs[i]? =some y:=by
    have:=Alc (fun l=>l[0]?) e;simpa using this
   have hlt:=(AkR.1 hx).1;rcases h i y s hx hi with ⟨s',e1,h1⟩|⟨r,e1,h1⟩
   ·rcases ih (i+1) s' (by have:=Alc List.tail e; simpa using this) (by omega) h1 with ⟨t,e2,h2⟩|⟨r,e2,h2⟩
    ·refine .inl ⟨t,?_,h2⟩;show Ab (body i y s) _=_;rw[e1];exact e2
    ·refine .inr ⟨r,?_,h2⟩;show Ab (body i y s) _=_;rw[e1];exact e2
   ·refine .inr ⟨r,?_,h1⟩;show Ab (body i y s) _=_;rw[e1];rfl
 exact key xs 0 s rfl (Als _) h0
theorem Pz {σ ρ:Type}{step:σ→Option (σ⊕ρ)}(μ:σ→Nat)(I:σ→Prop)(R:ρ→Prop)(h: ∀s,I s→(∃s',step s=some (.inl s')∧I s'∧μ s'<μ s)∨∃r,step s=some (.inr r)∧R r):
  ∀(n:Nat) (s:σ),I s→μ s<n→∃r,iter step n s=some r∧R r
 |0,_,_,hn=>absurd hn (Nat.not_lt_zero _)
 |n+1,s,hs,hn=>by
  rcases h s hs with ⟨s',e1,h1,h2⟩|⟨r,e1,h1⟩
  ·obtain⟨r,e2,h3⟩:=Pz μ I R h n s' h1 (by omega);refine⟨r,?_,h3⟩;show Ab (step s) _=_;rw[e1];exact e2
  ·refine⟨r,?_,h1⟩;show Ab (step s) _=_;rw[e1];rfl
theorem Oh {α:Type}{xs:List α}{i:Nat}{x:α}(h:xs[i]? =some x):idx xs (i:Int)=some x:=by
 unfold idx;rw[AkA (by omega)];simpa using h
theorem in_tot (p:UInt64): ∃b,Mi p=some b∧(b=true→p.toNat^gr%GQ=1):=by
 unfold Mi;cases hc:((decide ((p.toNat:Int)>0))&&(decide ((p.toNat:Int)<2305843009213691579)))with
 |false=>exact⟨false,rfl,fun h=>by cases h⟩
 |true=>
  rw[Te,Acx,Aa,Bx];refine⟨_,rfl,fun h=> ?_⟩;have h:((Xa 2305843009213691579 p 1152921504606845789).toNat:Int)=1:=by simpa using h
  have e:=Y6 p 1152921504606845789;have hR:(1152921504606845789:UInt64).toNat=gr:=rfl;rw[hR]at e;omega
theorem Ad6 (p:UInt64){msg:List UInt8}(s:g_api_Sig)(hm:msg.length≤600000): ∃e,IT p msg s=some e:=by
 obtain⟨b,h1,h2⟩:=in_tot p;unfold IT;rw[h1,Aa];cases b with
 |false=>exact⟨1,rfl⟩
 |true=>
  rw[Aky (by decide)];by_cases hx:decide (((P9 s.E s.S).toNat:Int)≥1152921504606845789)=true
  ·rw[AkA hx]; exact⟨_,rfl⟩
  ·rw[Aky hx,Acx,Aa];have hE:s.E.toNat<1152921504606845789:=(U6 (a:=s.E) (b:=s.S) (n:=1152921504606845789) (by
    have:((P9 s.E s.S).toNat:Int)<1152921504606845789:=by simpa using hx
    omega)).1
   have hinv:(Xa 2305843009213691579 p s.E).toNat*p.toNat^ (gr-s.E.toNat)%GQ=1:=by
    rw[Y6];exact Ajs (k:=0) (h2 rfl) (show s.E.toNat≤GR by simp only[GR]; omega)
   obtain⟨z,z1,-⟩:=inv_eq hinv;rw[z1,Aa];have e1:((z,(0:Int)).2 !=0)=false:=rfl;rw[e1,Alr,Te,SE,Aa,Te];unfold Nz;rw[Lv dvQ,Aa,Aa,Te,Ad7 _ _ hm,Aa];split<;>exact⟨_,rfl⟩
theorem AdW (k:Ar)(p:g_api_Promise): ∃e,E8 k p=some e:=by
 unfold E8;rw[IP,Aa,Nj,Aa];have: ∃e,Jy k p.Log (Lw p.At) (Acs p) p.Sig=some e:=by
  unfold Jy;rw[IP,Aa];split
  ·exact⟨_,rfl⟩
  ·split
   ·exact⟨_,rfl⟩
   ·obtain⟨e,he⟩:=Ad6 k.Key p.Sig (R2 p);rw[he,Aa];exact⟨_,rfl⟩
 obtain⟨e,he⟩:=this;rw[he,Aa];exact⟨_,rfl⟩
theorem keyix (ks:List Ar)(p:g_api_Promise): ∃i:Int,BB ks p=some (i,p)∧(0≤i→∃k,idx ks i=some k):=by
 unfold BB;rcases Ss (body:=B4 ks) (n:=ks.length) (fun _ s=>s=(p.Log,p.At,p.Leaf.1,p.Leaf.2,p.Sig.E,p.Sig.S)) (fun r=>r.2=p∧∃k,idx ks r.1=some k) (fun i s hi hs=>by
  subst hs;have hk:idx ks (i:Int)=some ks[i]:=Oh (AkV hi);unfold B4;rw[hk,Aa];show(∃s',Ab (some ((ks[i].Log==p.Log),p)) _=_∧_)∨∃r,Ab (some ((ks[i].Log==p.Log),p)) _=_∧_;rw[Aa];cases ks[i].Log==p.Log with
  |true=>exact .inr ⟨_,rfl,rfl,_,hk⟩
  |false=>exact .inl ⟨_,rfl,rfl⟩) (s:=(p.Log,p.At,p.Leaf.1,p.Leaf.2,p.Sig.E,p.Sig.S)) rfl with ⟨t,h1,h2⟩|⟨r,h1,h2,h3⟩
 ·subst h2;rw[h1];exact⟨-1,rfl,fun h=>by omega⟩
 ·rw[h1];obtain⟨r1,r2⟩:=r;dsimp only at h2;subst h2;exact⟨r1,rfl,fun _=>h3⟩
theorem Zu (p:g_api_Promise)(ks:List Ar)(l:UInt64×UInt64): ∃b,DG p ks l=some (b,ks,l):=by
 obtain⟨i,h1,h2⟩:=keyix ks p;unfold DG;rw[h1,Aa];dsimp only;cases hc:(decide (i<0)|| !G3 p.Leaf l)with
 |true=>exact⟨_,rfl⟩
 |false=>
  have hi:0≤i:=by
   have:decide (i<0)=false:=by
    cases q:decide (i<0)
    ·rfl
    ·rw[q]at hc; cases hc
   simpa using this
  obtain⟨k,hk⟩:=h2 hi;obtain⟨e,he⟩:=AdW k p;rw[Alr,Te,hk,Aa,Te,he,Aa];exact⟨_,rfl⟩
theorem promix (ps:List g_api_Promise)(ks:List Ar)(l:UInt64×UInt64): ∃i:Int,AW ps ks l=some (i,ps,ks,l)∧(i= -1∨0≤i∧i<ps.length):=by
 unfold AW;rcases Ss (body:=Bm ps) (n:=ps.length) (fun _ s=>s=(ks,l.1,l.2)) (fun r=>r.2=(ps,ks,l)∧0≤r.1∧r.1<ps.length) (fun i s hi hs=>by
  subst hs;have hk:idx ps (i:Int)=some ps[i]:=Oh (AkV hi);obtain⟨b,hb⟩:=Zu ps[i] ks l;unfold Bm;rw[hk,Aa];show(∃s',Ab (DG ps[i] ks l) _=_∧_)∨∃r,Ab (DG ps[i] ks l) _=_∧_;rw[hb,Aa];cases b with
  |true=>exact .inr ⟨_,rfl,rfl,by dsimp only; omega,by dsimp only; omega⟩
  |false=>exact .inl ⟨_,rfl,rfl⟩) (s:=(ks,l.1,l.2)) rfl with ⟨t,h1,h2⟩|⟨r,h1,h2,h3⟩
 ·subst h2;rw[h1];exact⟨-1,rfl,.inl rfl⟩
 ·rw[h1];obtain⟨r1,r2⟩:=r;dsimp only at h2;subst h2;exact⟨r1,rfl,.inr h3⟩
theorem AaP {ps:List g_api_Promise}(hp:ps.length≤100)(ks:List Ar)(l:UInt64×UInt64): ∃qs,AX ps ks l=some (qs,ks,l):=by
 obtain⟨i,h1,h2⟩:=promix ps ks l;unfold AX;rw[h1,Aa];dsimp only;rcases h2 with rfl|⟨h2,h3⟩
 ·exact⟨_,rfl⟩
 ·rw[Aky (by simp; omega)];obtain⟨r,e,h4⟩:=Pz (step:=Bn) (fun s=>(ps.length-s.2.1).toNat) (fun s=>0≤s.1∧s.1<s.2.1∧s.2.1≤ps.length∧s.2.2.1=ks∧s.2.2.2.1=l.1∧s.2.2.2.2.1=l.2∧s.2.2.2.2.2.length=ps.length)
   (fun r=>0≤r.1∧r.1≤ps.length∧r.2.1=ks∧r.2.2.1=l.1∧r.2.2.2.1=l.2∧r.2.2.2.2.length=ps.length) (fun s hs=>by
    obtain⟨a,j,k',u,v,qs⟩:=s;dsimp only at hs;obtain⟨g1,g2,g3,rfl,rfl,rfl,g7⟩:=hs;unfold Bn;dsimp only;by_cases hc:j<qs.length
    ·left;obtain⟨nj,rfl⟩:=Int.eq_ofNat_of_zero_le (by omega:0≤j);obtain⟨na,rfl⟩:=Int.eq_ofNat_of_zero_le g1;have e1:idx qs (nj:Int)=some qs[nj]:=Oh (AkV (by omega));have e2:idx qs (na:Int)=some qs[na]:=Oh (AkV (by omega));obtain⟨b,hb⟩:=Zu qs[nj] k' l;have hb':DG qs[nj] k' (l.1,l.2)=some (b,k',l):=hb;rw[AkA (by simpa using hc),e1,Aa,hb',Aa];have w1:w64 ((nj:Int)+1)=(nj:Int)+1:=BC (by omega) (by omega);have w2:w64 ((na:Int)+1)=(na:Int)+1:=BC (by omega) (by omega);cases b with
     |true=>
      refine⟨_,rfl,⟨g1,?_,?_,rfl,rfl,rfl,g7⟩,?_⟩<;>dsimp only<;>rw[w1]<;>omega
     |false=>
      rw[AkA (show(!((false,k',l):Bool×(List Ar)×(UInt64×UInt64)).1)=true from rfl),e2,Aa,Bx,Aa,w1,w2];refine⟨_,rfl,⟨?_,?_,?_,rfl,rfl,rfl,?_⟩,?_⟩
      ·dsimp only; omega
      ·dsimp only; omega
      ·dsimp only; omega
      ·dsimp only; rw[List.length_set]; exact g7
      ·dsimp only; omega
    ·right;rw[Aky (by simpa using hc)];exact⟨_,rfl,g1,by dsimp only; omega,rfl,rfl,rfl,g7⟩) EV (i,w64 (i+1),ks,l.1,l.2,ps) (by
    have w1:w64 (i+1)=i+1:=BC (by omega) (by omega);dsimp only;rw[w1];exact⟨h2,by omega,by omega,rfl,rfl,rfl,rfl⟩) (by
    have:=FN;have w1:w64 (i+1)=i+1:=BC (by omega) (by omega);dsimp only;rw[w1];omega)
  obtain⟨a,k',u,v,qs⟩:=r;dsimp only at h4;obtain⟨g1,g2,rfl,rfl,rfl,g6⟩:=h4;rw[e,Aa,Aa];dsimp only;have hc:clrT (⟨0,0,(0,0),(⟨0,0⟩:g_api_Sig)⟩:g_api_Promise) qs a=some (qs.take a.toNat++List.replicate (qs.length-a.toNat) ⟨0,0,(0,0),⟨0,0⟩⟩):=by
   unfold clrT;rw[AkA ⟨g1,by omega⟩]
  rw[hc,Aa,AkA ⟨g1,by simp; omega⟩];exact⟨_,rfl⟩
theorem AdZ {ps:List g_api_Promise}(h:ps.length≤100):A5 ps=some ps:=by
 unfold A5;rw[EJ 48 (by simp; omega) (by simp; omega),Aa,Ak2]
theorem comp0:Fk ([(⟨(⟨#[97,108,108]⟩:ByteArray),true,([(⟨#[42,46,97]⟩:ByteArray)]:List ByteArray),0,1000,0,0⟩:g_api_Rule)]:List g_api_Rule)=some (T0,0):=by kernel_rfl
theorem chk0:K8 T0=some 0:=by kernel_rfl
theorem AaM (s:ByteArray)(a b:Nat):(s.extract a b).size≤s.size:=by simp[ByteArray.size_extract]; omega
theorem AgD (c:UInt8)(l:List UInt8):Lib.countByte l c≤l.length:=List.count_le_length
theorem w_dot {x:Int}(h0: -1≤x)(h1:x≤1000):w64 (x+((⟨#[46]⟩:ByteArray).size:Int))=x+1:=BC (show-9223372036854775808≤x+1 by omega) (show x+1≤9223372036854775807 by omega)
theorem Aap {n:Nat}(n1:1≤n)(n2:n≤101){s:ByteArray}(hs:s.size≤100): ∃r,iter (D5 (⟨#[46]⟩:ByteArray) 0 (n:Int)) EV (s,0,List.replicate n ByteArray.empty)=some r∧0≤r.2.1∧r.2.1≤n-1∧r.2.2.length=n:=by
 refine Pz (step:=D5 (⟨#[46]⟩:ByteArray) 0 (n:Int)) (fun t=>((n:Int)-t.2.1).toNat) (fun t=>t.1.size≤100∧0≤t.2.1∧t.2.1≤n-1∧t.2.2.length=n) (fun t=>0≤t.2.1∧t.2.1≤n-1∧t.2.2.length=n) (fun t ht=>by
  obtain⟨a,i,arr⟩:=t;dsimp only at ht;obtain⟨g1,g2,g3,g4⟩:=ht;obtain⟨x,hx,x1,x2⟩:=WI a;unfold D5;dsimp only;have w1:w64 ((n:Int)-1)=(n:Int)-1:=BC (by omega) (by omega);rw[w1];by_cases hlt:i<(n:Int)-1
  ·rw[AkA (by simpa using hlt),hx,Aa];by_cases hx0:x<0
   ·rw[AkA (by simpa using hx0)];exact .inr ⟨_,rfl,g2,g3,g4⟩
   ·left;obtain⟨ni,rfl⟩:=Int.eq_ofNat_of_zero_le g2;have w2:w64 (x+0)=x:=by rw[Int.add_zero]; exact BC (by omega) (by omega)
    have w4:w64 ((ni:Int)+1)=(ni:Int)+1:=BC (by omega) (by omega);have e1:WX a 0 x=some (a.extract (0:Int).toNat x.toNat):=NS (by omega) (by omega) (by omega);have e2:WX a (x+1) (a.size:Int)=some (a.extract (x+1).toNat (a.size:Int).toNat):=NS (by omega) (by omega) (by omega);have hni:ni<arr.length:=by omega
    have e3:idx arr (ni:Int)=some arr[ni]:=Oh (AkV hni);rw[Aky (by simpa using hx0),w2,e1,Aa,e3,Aa,Bx,w_dot (by omega) (by omega),e2,Aa,w4];refine⟨_,rfl,⟨?_,?_,?_,?_⟩,?_⟩
    ·exact Nat.le_trans (AaM _ _ _) g1
    ·dsimp only; omega
    ·dsimp only; omega
    ·dsimp only; rw[List.length_set]; exact g4
    ·dsimp only; omega
  ·rw[Aky (by simpa using hlt)];exact .inr ⟨_,rfl,g2,g3,g4⟩) EV (s,0,List.replicate n ByteArray.empty) (by
   refine⟨hs,Int.le_refl 0,?_,List.length_replicate ..⟩;show(0:Int)≤(n:Int)-1;omega) (by
   have:=FN;show((n:Int)-0).toNat<EV;omega)
theorem AbG {s:ByteArray}(hs:s.size≤100): ∃l,HA s (⟨#[46]⟩:ByteArray)=some l∧l.length≤200:=by
 have hc:EE s (⟨#[46]⟩:ByteArray)=some (ZT s 46):=rfl;have c0:0≤ZT s 46:=by unfold ZT; omega
 have c1:ZT s 46≤1000∨1000<ZT s 46:=by omega
 obtain⟨n,hn,n1,n2⟩: ∃n:Nat,Q5 (w64 (ZT s 46+1)) (w64 ((s.size:Int)+1))=(n:Int)∧1≤n∧n≤101:=by
  have w2:w64 ((s.size:Int)+1)=(s.size:Int)+1:=BC (by omega) (by omega);have hl:(Lib.countByte s.data.toList 46:Nat)≤s.data.toList.length:=AgD _ _;have hz:=Lr s;have w1:w64 (ZT s 46+1)=ZT s 46+1:=by
   unfold ZT;exact BC (by omega) (by omega)
  rw[w1,w2];refine⟨(Q5 (ZT s 46+1) ((s.size:Int)+1)).toNat,?_,?_,?_⟩<;>unfold Q5 ZT<;>split<;>omega
 have hm:mkS 16 (ByteArray.empty:ByteArray) (n:Int)=some (List.replicate n ByteArray.empty):=by
  unfold mkS;rw[AkA ⟨by omega,by omega,by omega⟩];rfl
 obtain⟨r,e,h1,h2,h3⟩:=Aap n1 n2 hs;obtain⟨a,i,arr⟩:=r;dsimp only at h1 h2 h3;obtain⟨ni,rfl⟩:=Int.eq_ofNat_of_zero_le h1;have w5:w64 ((ni:Int)+1)=(ni:Int)+1:=BC (by omega) (by omega);have key:FK s (⟨#[46]⟩:ByteArray) 0 (-1)=some ((arr.set (ni:Int).toNat a).take ((ni:Int)+1).toNat):=by
  unfold FK;rw[Aky (by decide),Aky (by decide),AkA (by decide),hc,Aa,Aa,hn,Bx,hm,Aa,e,Aa,Aa];dsimp only;rw[Oh (AkV (by omega:ni<arr.length)),Aa,Bx,w5,AkA ⟨by omega,by rw[List.length_set]; omega⟩]
 unfold HA;rw[key];refine⟨_,rfl,?_⟩;rw[Ak7,List.length_set];omega
theorem AaG {s:ByteArray}(hs:s.size≤100): ∃l,ID s=some l∧l.length≤200:=by
 obtain⟨b,hb⟩:=Adg s;unfold ID;rw[hb,Aa];cases b with
 |false=>exact⟨[],rfl,by simp⟩
 |true=>
  obtain⟨l,h1,h2⟩:=AbG hs;rw[Aky (by decide),h1];exact⟨l,rfl,h2⟩
theorem AgT {σ:Type}{p0:σ→ByteArray→Option (Bool×σ)}{s:ByteArray}(hs:s.size≤100)(I F:σ→Prop)(hp: ∀a b,I a→∃r a',p0 a b=some (r,a')∧(r=true→I a')∧(r=false→F a')){s0:σ}(h0:I s0): ∃t,DT p0 s s0=some (s,t)∧(I t∨F t):=by
 obtain⟨l,h1,h2⟩:=AaG hs;let cb:(σ×Nat)→(Int×ByteArray)→Option (Bool×(σ×Nat)):=fun(s:(σ)×Nat) (b0:Int×ByteArray)=>if s.2=0 then Ab (Cl p0 b0 s) fun y=>some (y.2==0,y)else none;have hcb: ∀(a:σ) (b:Int×ByteArray),I a→∃r a' k,cb (a,0) b=some (r,(a',k))∧(r=true→I a'∧k=0)∧(r=false→F a'):=fun a b ha=>by
  obtain⟨r,a',e,g1,g2⟩:=hp a b.2 ha;have e':Cl p0 b (a,0)=some (if(!r)=true then(a',1)else(a',0)):=by
   unfold Cl;dsimp only;rw[e,Aa];cases r<;>rfl
  cases r with
  |true=>exact⟨true,a',0,by show(if(0:Nat)=0 then Ab (Cl p0 b (a,0)) _ else none)=_; rw[AkA rfl,e']; rfl,fun _=>⟨g1 rfl,rfl⟩,fun h=>by cases h⟩
  |false=>exact⟨false,a',1,by show(if(0:Nat)=0 then Ab (Cl p0 b (a,0)) _ else none)=_; rw[AkA rfl,e']; rfl,fun h=>(by cases h),fun _=>g2 rfl⟩
 have hw:w64 ((l.length:Int)-1)=(l.length:Int)-1:=BC (by omega) (by omega);obtain⟨r,e,h3⟩:=Pz (step:=Ct cb l) (fun t=>(t.1+1).toNat) (fun t=> -1≤t.1∧t.1<l.length∧I t.2.1∧t.2.2=0) (fun r=>match r with| .inl y=>I y.1∨F y.1| .inr y=>I y.2.1∨F y.2.1) (fun t ht=>by
  obtain⟨i,a,k⟩:=t;dsimp only at ht;obtain⟨g1,g2,g3,rfl⟩:=ht;unfold Ct;dsimp only;by_cases hi:0≤i
  ·obtain⟨ni,rfl⟩:=Int.eq_ofNat_of_zero_le hi;obtain⟨r,a',k',e,g4,g5⟩:=hcb a ((ni:Int),l[ni]'(by omega)) g3;have w:w64 ((ni:Int)-1)=(ni:Int)-1:=BC (by omega) (by omega);rw[AkA (by simp),Oh (AkV (by omega:ni<l.length)),Aa,e,Aa,w];cases r with
   |true=>exact .inl ⟨_,rfl,⟨by dsimp only; omega,by dsimp only; omega,(g4 rfl).1,(g4 rfl).2⟩,by dsimp only; omega⟩
   |false=>exact .inr ⟨_,rfl,.inr (g5 rfl)⟩
  ·rw[Aky (by simp; omega)];exact .inr ⟨_,rfl,.inl g3⟩) EV ((l.length:Int)-1,(s0,0)) ⟨by dsimp only; omega,by dsimp only; omega,h0,rfl⟩ (by
   have:=FN;dsimp only;omega)
 have hb: ∃x y,Bu cb l (s0,0)=some (x,y)∧(I y.1∨F y.1):=by
  unfold Bu;rw[Bx,hw,e,Aa];cases r with
  |inl y=>exact⟨l,y,rfl,h3⟩
  |inr y=>exact⟨y.1,y.2,rfl,h3⟩
 obtain⟨x,y,hb,h4⟩:=hb;refine⟨y.1,?_,h4⟩;unfold DT;rw[h1,Aa,show Db l=some l from rfl,Aa];show Ab (Bu cb l (s0,0)) _=_;rw[hb,Aa];split<;>rfl
theorem kid0 (b:ByteArray):IV n0s 0 b=some (if eqS (⟨#[97]⟩:ByteArray) b=true then(1,true)else(0,false)):=by
 have e:Es (CJ [1]) 1 0 (n0s,b)=some (if eqS (⟨#[97]⟩:ByteArray) b=true then .inr (0,n0s,b)else .inl (n0s,b)):=by
  show Ab (if eqS (⟨#[97]⟩:ByteArray) b=true then some (Sum.inr ((0:Int),n0s,b))else some (.inl (n0s,b))) _=_;split<;>rfl
 unfold IV C9;show Ab (Ab (Es (CJ [1]) 1 0 (n0s,b)) _) _=_;rw[e];cases eqS (⟨#[97]⟩:ByteArray) b<;>rfl
theorem AeL {s:ByteArray}(hs:s.size≤100): ∃v:Int,DL s T0=some (v,T0)∧(v= -1∨v=0):=by
 let p0:(Int×Int×Int)×Nat→ByteArray→Option (Bool×((Int×Int×Int)×Nat)):=fun(s:(Int×Int×Int)×Nat) (b0:ByteArray)=>if s.2=0 then Ab (Bp T0 b0 s) fun y=>some (y.2==0,y)else none;obtain⟨t,h1,h2⟩:=AgT (p0:=p0) hs (fun s=>s.2=0∧(s.1.2.1=0∨s.1.2.1=1)∧(s.1.1= -1∨s.1.1=0)) (fun s=>s.2=1∧(s.1.2.2= -1∨s.1.2.2=0)) (fun a b ha=>by
  obtain⟨⟨last,n,d⟩,k⟩:=a;dsimp only at ha;obtain⟨rfl,hn,hl⟩:=ha;rcases hn with rfl|rfl
  ·have e:Bp T0 b ((last,0,d),0)=some (if eqS (⟨#[97]⟩:ByteArray) b=true then((last,1,d),0)else((last,0,last),1)):=by
    unfold Bp;show Ab (some last) (fun x3=>Ab (IV n0s 0 b) _)=_;rw[Aa,kid0];cases eqS (⟨#[97]⟩:ByteArray) b<;>rfl
   cases hq:eqS (⟨#[97]⟩:ByteArray) b with
   |true=>
    rw[hq,AkA rfl]at e;exact⟨true,((last,1,d),0),by show(if(0:Nat)=0 then Ab (Bp T0 b ((last,0,d),0)) _ else none)=_; rw[AkA rfl,e]; rfl,fun _=>⟨rfl,.inr rfl,hl⟩,fun h=>by cases h⟩
   |false=>
    rw[hq,Aky (by decide)]at e;exact⟨false,((last,0,last),1),by show(if(0:Nat)=0 then Ab (Bp T0 b ((last,0,d),0)) _ else none)=_; rw[AkA rfl,e]; rfl,fun h=>(by cases h),fun _=>⟨rfl,hl⟩⟩
  ·have e:Bp T0 b ((last,1,d),0)=some ((0,1,0),1):=rfl;exact⟨false,((0,1,0),1),by show(if(0:Nat)=0 then Ab (Bp T0 b ((last,1,d),0)) _ else none)=_; rw[AkA rfl,e]; rfl,fun h=>(by cases h),fun _=>⟨rfl,.inr rfl⟩⟩) (s0:=((-1,0,0),0)) ⟨rfl,.inl rfl,.inl rfl⟩
 obtain⟨⟨last,n,d⟩,k⟩:=t;unfold DL;rw[show Ju s=some s from rfl,Aa];have h1':DT p0 s ((-1,0,0),0)=some (s,((last,n,d),k)):=h1;show∃v,Ab (DT p0 s ((-1,0,0),0)) _=_∧_;rw[h1',Aa];dsimp only at h2⊢;rcases h2 with ⟨rfl,hn,hl⟩|⟨rfl,hd⟩
 ·rw[AkA rfl];rcases hn with rfl|rfl<;>exact⟨last,rfl,hl⟩
 ·rw[Aky (by decide)];exact⟨d,rfl,hd⟩
theorem if_ex {α β:Type}(q:Bool)(a b:α)(k:α→Option β)(P:β→Prop)(ha: ∃s',k a=some s'∧P s')(hb: ∃s',k b=some s'∧P s'): ∃s',Ab (if q=true then some a else some b) k=some s'∧P s':=by
 cases q
 ·exact hb
 ·exact ha
theorem mayW (w:Ba): ∃b,KS w=some b:=by
 unfold KS;rcases Sr (body:=Ke) (xs:=w.Names) (fun i s=> ∃met,s=LR met) (fun r=>True) (fun i x s hx ⟨met,hs⟩=>by
  subst hs;obtain⟨v,hv⟩:=W7 x;unfold Ke;rw[hv,Aa,Wv];by_cases hc:((v !=0)||met.any (eqS x))=true
  ·right;rw[AkA hc];exact⟨_,rfl,trivial⟩
  ·left;have hc2:v=0∧met.any (eqS x)=false:=by simpa using hc
   rw[Aky hc,AkA (Zx _ _ hc2.2)];exact⟨_,rfl,met++[x],by unfold LR; simp⟩) (s:=[]) ⟨[],rfl⟩with ⟨t,h1,-⟩|⟨r,h1,-⟩
 ·rw[h1,Aa];dsimp only;have f1: ∀a:Int,IC a=some (decide (a≥0)&&decide (a≤1099511627776)):=fun a=>rfl;rw[f1,Aa];cases (decide (w.Account≥0)&&decide (w.Account≤1099511627776))with
  |true=>rw[Te,f1]; exact⟨_,rfl⟩
  |false=>exact⟨_,rfl⟩
 ·rw[h1];exact⟨r,rfl⟩
theorem XD (w:Ba)(hn: ∀s∈w.Names,s.size≤100)(hl:w.Names.length≤100): ∃v,Dn [ML] w T0=some (v,T0):=by
 obtain⟨t,h1,h2,h3,h4⟩:=AaO (body:=Dq [ML] w) (n:=w.Names.length) (fun i s=>s.2.2.2.1=[ML]∧s.2.2.2.2=n0s∧s.2.2.1.length=i) (fun i s hi hs=>by
  obtain⟨ok,at_,by_,rs,ns⟩:=s;dsimp only at hs;obtain⟨rfl,rfl,hb⟩:=hs;have hx:idx w.Names (i:Int)=some w.Names[i]:=Oh (AkV hi);obtain⟨v,hv,hv2⟩:=AeL (hn _ (List.getElem_mem hi));have hv':DL w.Names[i] (⟨[ML],n0s⟩:AG)=some (v,T0):=hv;unfold Dq;rw[hx,Aa];dsimp only;rw[hv',Aa,EJ 8 (by simp; omega) (by simp; omega),Aa];rcases hv2 with rfl|rfl
  ·cases ok<;>(refine⟨_,rfl,?_,?_,?_⟩<;>first|rfl|(simp[hb]; done))
  ·have g0:idx [ML] (0:Int)=some ML:=rfl;have gs: ∀c:Bool,gu c (some ML)=some (if c=true then ML else default):=fun c=>by cases c<;>rfl
   dsimp only;rw[g0,gs,Aa,gs,Aa,gs,Aa,Bx];refine if_ex _ _ _ _ _ ?_ ?_<;>(refine⟨_,rfl,?_,?_,?_⟩<;>first|rfl|(simp[hb]; done))) (s:=(true,0,([]:List Int),[ML],n0s)) ⟨rfl,rfl,rfl⟩
 unfold Dn;show∃v,Ab (Ab (Cg (Dq [ML] w) w.Names.length 0 (true,0,([]:List Int),[ML],n0s)) _) _=_;rw[h1,Aa,Aa];obtain⟨ok,at_,by_,rs,ns⟩:=t;dsimp only at h2 h3;subst h2 h3;exact⟨_,rfl⟩
theorem AaQ (w:Ba)(hn: ∀s∈w.Names,s.size≤100)(hl:w.Names.length≤100): ∃v e,F6 T0 w=some (v,e):=by
 obtain⟨b,hb⟩:=mayW w;obtain⟨v,hv⟩:=XD w hn hl;unfold F6;rw[chk0,Aa,Aky (by decide),hb,Aa];cases b with
 |false=>exact⟨_,_,rfl⟩
 |true=>
  rw[Aky (by decide),show Kc T0=some T0 from rfl,Aa,show T0.Rules=[ML]from rfl,hv,Aa];exact⟨_,_,rfl⟩
theorem Wq {c:Ag}(h:Okc c)(ks:List Ar): ∃e,CV (CE c) ks T0=some e:=by
 have hz:=h.form.sized;have hp:(Qq c).Proms.length≤100:=by have:=hz.proms; show c.Proms.length≤100; omega
 obtain⟨qs,hq⟩:=AaP hp ks (W9 (⟨#[108,101,97,102]⟩:ByteArray) [X0 (Qq c)]);obtain⟨v,e,hd⟩:=AaQ ⟨0,c.Names,c.Key,w64 (c.Until-c.From)⟩ (fun s hs=>by have:=hz.names s hs; omega) (by have:=hz.few; show c.Names.length≤100; omega);unfold CV;rw[KA h,Aa,Aky (by simp)];dsimp only;rw[AgL (Zg h),Aa,AdZ hp,Aa];dsimp only;rw[hq,Aa];dsimp only;split
 ·exact⟨_,rfl⟩
 ·split
  ·exact⟨_,rfl⟩
  ·have hd':F6 T0 (⟨0,(Qq c).Names,(Qq c).Key,(w64 ((Qq c).Until-(Qq c).From))⟩:Ba)=some (v,e):=hd;rw[hd',Aa];dsimp only;cases ((e==0)&&(!v.Allow))<;>exact⟨_,rfl⟩
def sK (b:List UInt8):UInt64:=AfB (W9 (⟨#[115,101,99,114,101,116]⟩:ByteArray) [b]) 1152921504606845788+1
theorem sK_eq {b:List UInt8}(h:b.length≤1000):E4 b=some (sK b):=by
 unfold E4;rw[YR (by simp[Y7]; omega)];rfl
theorem sK_rng (b:List UInt8):1≤(sK b).toNat∧(sK b).toNat<GR:=by
 have h:=AfA dvR1 (W9 (⟨#[115,101,99,114,101,116]⟩:ByteArray) [b]);have h2:=Alk ((W9 (⟨#[115,101,99,114,101,116]⟩:ByteArray) [b]).1.toNat*2305843009213693952+(W9 (⟨#[115,101,99,114,101,116]⟩:ByteArray) [b]).2.toNat) (show 0<(1152921504606845788:UInt64).toNat by decide);rw[←h]at h2;have h3:(1152921504606845788:UInt64).toNat=1152921504606845788:=rfl;rw[h3]at h2;have h4:(sK b).toNat=(AfB (W9 (⟨#[115,101,99,114,101,116]⟩:ByteArray) [b]) 1152921504606845788).toNat+1:=by
  unfold sK;rw[UInt64.toNat_add,Ak0]
  ·rfl
  ·have:(1:UInt64).toNat=1:=rfl;omega
 simp only[GR];omega
theorem Akp (a b:UInt64): ∃z,Gq a b=some z∧z.toNat<GR:=by
 refine⟨addM 1152921504606845789 a b,?_,?_⟩
 ·unfold Gq;rw[Tv dvR,Aa]
 ·rw[AgZ dvR];exact Alk _ (by decide)
theorem AcS (a b:UInt64): ∃z,Fa a b=some z:=by
 refine⟨Zo 1152921504606845789 a b,?_⟩;unfold Fa;rw[Lv dvR,Aa]
theorem YQ (i:Nat)(j:Int)(c p:UInt64){s:List g_api_Share}{y:g_api_Share}(h:s[i]? =some y): ∃q z:UInt64,I4 (i:Int) j c (p,s)=some (q,s.set i ⟨y.Id,z⟩)∧z.toNat<GR:=by
 have hi:idx s (i:Int)=some y:=by simp[idx,h]
 obtain⟨m,hm⟩:=AcS c p;obtain⟨z,hz,hl⟩:=Akp y.X m;obtain⟨q,hq⟩:=AcS p (toU (w64 ((i:Int)+1)));refine⟨q,z,?_,hl⟩;unfold I4;simp only[hi,hm,hz,hq,Aa,Bx,Alg]
theorem UC (x2:List UInt64)(a b:UInt64)(hx:x2=[a,b])(i:Nat){s:List g_api_Share}{y:g_api_Share}(h:s[i]? =some y)(hi:i<100): ∃z:UInt64,BW x2 (i:Int) s=some (s.set i ⟨(i:Int)+1,z⟩)∧z.toNat<GR:=by
 subst hx;have hlt:=(AkR.1 h).1;have hi':idx s (i:Int)=some y:=by simp[idx,h]
 have hw:w64 ((i:Int)+1)=(i:Int)+1:=BC (by omega) (by omega);have h1:(s.set i ⟨(i:Int)+1,y.X⟩)[i]? =some ⟨(i:Int)+1,y.X⟩:=by simp[hlt]
 obtain⟨q1,z1,e1,-⟩:=YQ i 0 a 1 h1;have h2:(s.set i ⟨(i:Int)+1,z1⟩)[i]? =some ⟨(i:Int)+1,z1⟩:=by simp[hlt]
 obtain⟨q2,z2,e2,l2⟩:=YQ i (0+1) b q1 h2;refine⟨z2,?_,l2⟩;unfold BW;simp only[hi',Aa,Bx,hw,Alg,Et,e1,List.set_set,e2]
theorem Ae0 {k:UInt64}(hk:k.toNat<GR){b:List UInt8}(hb:b.length≤1000): ∃x y z:UInt64,x.toNat<GR∧y.toNat<GR∧z.toNat<GR∧Js k 2 3 b=some ([⟨1,x⟩,⟨2,y⟩,⟨3,z⟩],0):=by
 have hT:Cx (⟨#[115,104,97,114,101]⟩:ByteArray) ([b,([(toB ((1:Nat):Int))]:List UInt8)]:List (List UInt8))=some (W9 (⟨#[115,104,97,114,101]⟩:ByteArray) [b,[toB ((1:Nat):Int)]]):=Lq _ _ (by simp[Y7]; omega);let p:UInt64:=AfB (W9 (⟨#[115,104,97,114,101]⟩:ByteArray) [b,[toB ((1:Nat):Int)]]) 1152921504606845789;have h1:Cg (CW k b) 2 0 [0,0]=some [k,p]:=by
  have a0:CW k b 0 [0,0]=some [k,0]:=rfl;have a1:CW k b 1 [k,0]=some [k,p]:=by
   unfold CW;show Ab (Ab (Cx (⟨#[115,104,97,114,101]⟩:ByteArray) ([b,([(toB ((1:Nat):Int))]:List UInt8)]:List (List UInt8))) fun x8=>Ab (Hb x8 1152921504606845789) fun x9=>some [k,x9]) (fun x5=>some x5)=_;rw[hT,Aa,Zj dvR];rfl
  show Ab (CW k b 0 [0,0]) (fun s'=>Ab (CW k b 1 s') fun s''=>some s'')=_;rw[a0,Aa,a1,Aa]
 obtain⟨x,e1,l1⟩:=UC [k,p] k p rfl 0 (s:=[⟨0,0⟩,⟨0,0⟩,⟨0,0⟩]) rfl (by omega);obtain⟨y,e2,l2⟩:=UC [k,p] k p rfl 1 (s:=[⟨1,x⟩,⟨0,0⟩,⟨0,0⟩]) rfl (by omega);obtain⟨z,e3,l3⟩:=UC [k,p] k p rfl 2 (s:=[⟨1,x⟩,⟨2,y⟩,⟨0,0⟩]) rfl (by omega);have h2:Cg (BW [k,p]) 3 0 [⟨0,0⟩,⟨0,0⟩,⟨0,0⟩]=some [⟨1,x⟩,⟨2,y⟩,⟨3,z⟩]:=by
  show Ab (BW [k,p] ((0:Nat):Int) [⟨0,0⟩,⟨0,0⟩,⟨0,0⟩]) (fun s=>Ab (BW [k,p] ((1:Nat):Int) s) fun s=>Ab (BW [k,p] ((2:Nat):Int) s) fun s=>some s)=_;rw[e1,Aa];show Ab (BW [k,p] ((1:Nat):Int) [⟨1,x⟩,⟨0,0⟩,⟨0,0⟩]) _=_;rw[e2,Aa];show Ab (BW [k,p] ((2:Nat):Int) [⟨1,x⟩,⟨2,y⟩,⟨0,0⟩]) _=_;rw[e3,Aa];rfl
 refine⟨x,y,z,l1,l2,l3,?_⟩;have hn: ¬((k.toNat:Int)≥1152921504606845789):=U2 hk;unfold Js;rw[Aky (by simp only[hn]; decide)];show Ab (Ab (Cg (CW k b) 2 0 [0,0]) fun x3=>some x3) (fun x2=>Ab (Ab (Cg (BW x2) 3 0 [⟨0,0⟩,⟨0,0⟩,⟨0,0⟩]) fun x14=>some x14) fun x13=>some (x13,0))=_;rw[h1,Aa,Aa,h2];rfl
theorem may_ok {x y z:UInt64}(hx:x.toNat<GR)(hy:y.toNat<GR)(hz:z.toNat<GR):L7 [⟨1,x⟩,⟨2,y⟩,⟨3,z⟩]=some true:=by
 have h: ∀(i:Int) (n:Int) (x:UInt64) (s:Unit),x.toNat<GR→Iz i ⟨n,x⟩ s=some (.inl ()):=fun i n x s hx=>by
  unfold Iz;rw[Aky (by have:=U2 hx; simpa using this)]
 have e:D1 Iz [⟨1,x⟩,⟨2,y⟩,⟨3,z⟩] 0 ()=some (.inl ()):=by
  simp only[D1,h _ _ _ _ hx,h _ _ _ _ hy,h _ _ _ _ hz,Aa]
 unfold L7;rw[e];rfl
theorem Aay {x y z:UInt64}(hx:x.toNat<GR)(hy:y.toNat<GR)(hz:z.toNat<GR): ∃l,Fv [⟨1,x⟩,⟨2,y⟩,⟨3,z⟩]=some (l,0):=by
 have hb: ∀(i:Int) (n:Int) (x:UInt64) (s:List g_api_Share),s.length≤10→BV i ⟨n,x⟩ s=some (s++[⟨n,Xa 2305843009213691579 4 x⟩]):=fun i n x s hs=>by
  unfold BV I5;rw[SE,Aa,Aa,EJ 16 (by simp; omega) (by simp; omega)];rfl
 have e:A0 [⟨1,x⟩,⟨2,y⟩,⟨3,z⟩]=some [⟨1,Xa 2305843009213691579 4 x⟩,⟨2,Xa 2305843009213691579 4 y⟩,⟨3,Xa 2305843009213691579 4 z⟩]:=by
  unfold A0;simp only[Et];rw[hb _ _ _ _ (by simp),Aa,hb _ _ _ _ (by simp),Aa,hb _ _ _ _ (by simp)];rfl
 have k:Fv [⟨1,x⟩,⟨2,y⟩,⟨3,z⟩]=some ([⟨1,Xa 2305843009213691579 4 x⟩,⟨2,Xa 2305843009213691579 4 y⟩,⟨3,Xa 2305843009213691579 4 z⟩],0):=by
  unfold Fv;rw[may_ok hx hy hz,Aa,Aky (by decide),e,Aa]
 exact⟨_,k⟩
theorem AjZ {b:List UInt8}(hb:b.length≤1000): ∃c x y z,HH b 2 3=some (c,[⟨1,x⟩,⟨2,y⟩,⟨3,z⟩],0)∧x.toNat<GR∧y.toNat<GR∧z.toNat<GR:=by
 obtain⟨h1,h2⟩:=sK_rng b;obtain⟨x,y,z,hx,hy,hz,e⟩:=Ae0 h2 hb;obtain⟨l,hl⟩:=Aay hx hy hz;have k:HH b 2 3=some (⟨2,3,AiW (sK b),l⟩,[⟨1,x⟩,⟨2,y⟩,⟨3,z⟩],0):=by
  unfold HH;rw[sK_eq hb,Aa,e,Aa,Aky (by simp),RZ h1 h2];show Ab (Ab (Fv [⟨1,x⟩,⟨2,y⟩,⟨3,z⟩]) fun x5=>some (x5.2,AiW (sK b),x5.1)) _=_;rw[hl];rfl
 exact⟨_,x,y,z,k,hx,hy,hz⟩
theorem ZO (w:Ba)(iss:ByteArray)(hn:w.Names.length≤1000): ∃c e,HN w 7 100 iss=some (c,e)∧(e=0→Kx c=0∧c.Serial=7):=by
 have hN: ∀n,GJ n=some (decide ((0:Int)≤n)&&decide (n≤1099511627776)):=fun n=>rfl;have hc:B7 w.Names=some w.Names:=by
  unfold B7;rw[EJ 16 (by simp; omega) (by simp; omega),Aa,Ak2]
 unfold HN;rw[hN,Aa];show∃c e,Ab (gu true (GJ w.Life)) _=_∧_;rw[Te,hN,Aa];cases (decide ((0:Int)≤w.Life)&&decide (w.Life≤1099511627776))with
 |false=>exact⟨_,_,rfl,fun h=>by cases h⟩
 |true=>
  rw[Aky (by decide),hc,Aa,LL,Aa];by_cases h:Kx (⟨7,iss,ByteArray.empty,w.Key,w.Names,100,(w64 (100+w.Life)),false,0,[],[],(⟨0,0⟩:g_api_Sig)⟩:Ag)=0
  ·rw[Aky (by rw[h]; decide)];exact⟨_,_,rfl,fun _=>⟨h,rfl⟩⟩
  ·rw[AkA (by simpa using h)];exact⟨_,_,rfl,fun h'=>absurd h' h⟩
theorem new_eq {b:List UInt8}(hb:b.length≤1000)(i:Int): ∃l e,NQ i b 20=some (l,e)∧(e=0→chk l=0):=by
 unfold NQ;rw[sK_eq hb,Aa,Ql (by simp),Aa];by_cases h:chk ⟨i,sK b,20,[],[],[]⟩=0
 ·rw[Aky (by rw[h]; decide)];exact⟨_,_,rfl,fun _=>h⟩
 ·rw[AkA (by simpa using h)];exact⟨_,_,rfl,fun h'=>by cases h'⟩
theorem Ad5 {l:Aj}(h:chk l=0):l.L.length+l.Wait.length≤100000:=by
 have:=(PK h).2.2.2;rw[Akz]at this;omega
theorem Akm {l:Aj}(h:chk l=0)(b:List UInt8)(t:Int): ∃x p e,EH l b t=some (x,p,e)∧(e=0→chk x=0):=by
 have hl:=Ad5 h;cases ha:Hw b&&Lw t with
 |false=>exact⟨_,_,_,Ako hl h ha,fun h'=>by cases h'⟩
 |true=>
  cases hj:PE (l.L++l.Wait) b 0 with
  |some j=>
   obtain⟨x,-,hx,-⟩:=AaK hj;exact⟨_,_,_,Aeq hl h ha hj (by simpa using hx),fun _=>h⟩
  |none=>
   by_cases hn:(l.L++l.Wait).length=256
   ·exact⟨_,_,_,AgY hl h ha hj hn,fun h'=>by cases h'⟩
   ·exact⟨_,_,_,Akn hl h ha hj hn,fun _=>Ad4 h ha hj hn⟩
theorem Acu {ls:List Aj}{l:Aj}(hl:chk l=0)(hs: ∀x∈ls,chk x=0){i:Nat}(hi:i<ls.length)(kv:List (Int×Bool))(b:List UInt8)(t:Int):
  ∃p ok kv' ls',FM (i:Int) l kv b t ls=some (p,ok,kv',b,t,ls')∧ls'.length=ls.length∧∀x∈ls',chk x=0:=by
 unfold FM;cases (lkG (eqI l.Id) kv).getD false with
 |true=>exact⟨_,_,_,_,rfl,rfl,hs⟩
 |false=>
  obtain⟨x,p,e,h1,h2⟩:=Akm hl b t;rw[Aky (by decide),h1,Aa];dsimp only;by_cases he:e=0
  ·rw[AkA (by simpa using he),Oh (AkV hi),Aa,Bx,Aa];refine⟨_,_,_,_,rfl,by simp,fun y hy=> ?_⟩;rcases List.mem_or_eq_of_mem_set hy with h|h
   ·exact hs y h
   ·rw[h]; exact h2 he
  ·rw[Aky (by simpa using he),Aa];exact⟨_,_,_,_,rfl,rfl,hs⟩
theorem Xl {ls:List Aj}(hn:ls.length≤1000)(hs: ∀x∈ls,chk x=0)(b:List UInt8)(t:Int):
  ∃who told kv ls',A1 ls 2 [] b t ls=some (who,told,((who.length:Int)==2),kv,b,t,ls')∧told.length=who.length∧ls'.length=ls.length∧∀x∈ls',chk x=0:=by
 obtain⟨r,e,h1,h2,h3,h5,h4⟩:=Pz (step:=BX ls 2) (fun s=>(ls.length-s.2.2.1).toNat)
  (fun s=>s.2.1.length=s.1.length∧s.1.length≤2∧0≤s.2.2.1∧s.2.2.1≤ls.length∧s.2.2.2.2.1=b∧s.2.2.2.2.2.1=t∧s.2.2.2.2.2.2.length=ls.length∧∀x∈s.2.2.2.2.2.2,chk x=0)
  (fun r=>r.2.1.length=r.1.length∧r.2.2.2.1=b∧r.2.2.2.2.1=t∧r.2.2.2.2.2.length=ls.length∧∀x∈r.2.2.2.2.2,chk x=0) (fun s hI=>by
   obtain⟨who,told,i,kv,b',t',out⟩:=s;dsimp only at hI;obtain⟨g1,g2,g3,g4,rfl,rfl,g5,g6⟩:=hI;unfold BX;dsimp only;by_cases hc:i<ls.length
   ·obtain⟨ni,rfl⟩:=Int.eq_ofNat_of_zero_le g3;have hni:ni<ls.length:=by omega
    have e1:idx ls (ni:Int)=some ls[ni]:=Oh (AkV hni);rw[AkA (by simpa using hc),e1,Aa];by_cases h2:who.length=2
    ·have h3:(who.length:Int)=2:=by omega
     rw[AkA (by simpa using h3)];exact .inr ⟨_,rfl,g1,rfl,rfl,g5,g6⟩
    ·left;have h2':((who.length:Int)==2)=false:=by simp; omega
     have hw:w64 ((ni:Int)+1)=(ni:Int)+1:=BC (by omega) (by omega);obtain⟨p,ok,kv',out',e2,g7,g8⟩:=Acu (i:=ni) (hs _ (List.getElem_mem hni)) g6 (by omega) kv b' t';rw[Aky (by rw[h2']; decide),e2,Aa];dsimp only;rw[hw];cases ok with
     |false=>exact⟨_,rfl,⟨g1,g2,by dsimp only; omega,by dsimp only; omega,rfl,rfl,by dsimp only; omega,g8⟩,by dsimp only; omega⟩
     |true=>
      rw[Aky (by decide),EJ 8 (by simp; omega) (by simp; omega),Aa,EJ 48 (by simp; omega) (by simp; omega),Aa];exact⟨_,rfl,⟨by simp; omega,by simp; omega,by dsimp only; omega,by dsimp only; omega,rfl,rfl,by dsimp only; omega,g8⟩,by dsimp only; omega⟩
   ·rw[Aky (by simpa using hc)];exact .inr ⟨_,rfl,g1,rfl,rfl,g5,g6⟩) EV ([],[],0,[],b,t,ls) ⟨rfl,by simp,by simp,by simp,rfl,rfl,rfl,hs⟩ (by
   have:=FN;dsimp only;omega)
 obtain⟨who,told,kv,b',t',out⟩:=r;dsimp only at h1 h2 h3 h4 h5;subst h2 h3;refine⟨who,told,kv,out,?_,h1,h5,h4⟩;unfold A1;rw[e,Aa,Aa]
theorem Ae1 (p q:g_api_Promise): ∃l,A4 [p,q]=some l:=by
 have hI: ∃l,AI [p,q] 0 2=some l:=by
  have hin: ∃l,iter (AQ 0) EV (1,[p,q])=some l:=by
   cases hd:decide (w64 (q.Log-p.Log)<0)with
   |false=>
    refine⟨[p,q],En 1 ?_ (by decide)⟩;refine BR ?_;show(if(true&&decide (w64 (q.Log-p.Log)<0))=true then _ else some (Sum.inr [p,q]))=_;rw[hd];rfl
   |true=>
    refine⟨[q,p],En 2 ?_ (by decide)⟩;have s1:AQ 0 (1,[p,q])=some (.inl (0,[q,p])):=by
     show(if(true&&decide (w64 (q.Log-p.Log)<0))=true then some (Sum.inl ((0:Int),[q,p]))else some (Sum.inr [p,q]))=_;rw[hd];rfl
    rw[AM s1];exact BR rfl
  obtain⟨l,hl⟩:=hin;refine⟨l,?_⟩;have hout:iter (AA 0 2) EV (1,[p,q])=some l:=by
   refine En 2 ?_ (by decide);have s1:AA 0 2 (1,[p,q])=some (.inl (2,l)):=by
    unfold AA;rw[AkA (by rfl)];show Ab (Ab (iter (AQ 0) EV (1,[p,q])) _) _=_;rw[hl];rfl
   rw[AM s1];exact BR rfl
  unfold AI;show Ab (iter (AA 0 2) EV (1,[p,q])) _=_;rw[hout];rfl
 obtain⟨l,hl⟩:=hI;refine⟨l,?_⟩;have hb:LG (toU (2:Int))=some 2:=by kernel_rfl
 have hp:iter (Be [p,q]) EV (0,2,2,true,true)=some (.inr l):=by
  refine En 1 (BR ?_) (by decide);unfold Be;rw[AkA (by rfl)];show Ab (AI [p,q] 0 2) _=_;rw[hl];rfl
 unfold A4 Cd;show Ab (LG (toU (2:Int))) (fun x1=>Ab (Ab (iter (Be [p,q]) EV (0,2,x1,true,true)) _) _)=_;rw[hb,Aa,hp];rfl
theorem QH {ls:List Aj}(hn:ls.length≤1000)(hs: ∀x∈ls,chk x=0){c:Ag}(hc:Kx c=0)(t:Int):
  ∃ls' d e,Fl ls c t=some (ls',d,e)∧ls'.length≤1000∧(∀x∈ls',chk x=0)∧(e=0→Kx d=0∧d.Serial=c.Serial):=by
 have hcl:BN ls=some ls:=by
  unfold BN;rw[EJ 96 (by simp; omega) (by simp; omega),Aa,Ak2]
 obtain⟨who,told,kv,ls',h1,h2,h5,h3⟩:=Xl hn hs (X0 c) t;unfold Fl;rw[Aea (okc hc),Aa,Aky (by simp),hcl,Aa];dsimp only;rw[h1,Aa];dsimp only;by_cases hw:who.length=2
 ·have hw':((who.length:Int)==2)=true:=by simp; omega
  rw[hw',Aky (by decide)];obtain⟨p,q,rfl⟩: ∃p q,told=[p,q]:=by
   match told,(h2.trans hw)with
   | [p,q],_=>exact⟨p,q,rfl⟩
  obtain⟨l,hl⟩:=Ae1 p q;rw[hl,Aa,LL,Aa];by_cases h:Kx (⟨c.Serial,c.Issuer,c.Subject,c.Key,c.Names,c.From,c.Until,c.Ca,c.Depth,c.Permit,l,c.Sig⟩:Ag)=0
  ·rw[Aky (by rw[h]; decide)];exact⟨_,_,_,rfl,by omega,h3,fun _=>⟨h,rfl⟩⟩
  ·rw[AkA (by simpa using h)];exact⟨_,_,_,rfl,by simp,fun x hx=>(by cases hx),fun h'=>absurd h' h⟩
 ·have hw':((who.length:Int)==2)=false:=by simp; omega
  rw[hw',AkA (by decide)];exact⟨_,_,_,rfl,by simp,fun x hx=>(by cases hx),fun h'=>by cases h'⟩
def lt2 (s:UInt64×UInt64×UInt64):Prop:=s.1.toNat<FP∧s.2.1.toNat<FP
theorem Zd (a b:UInt64):(DP a b).toNat<FP:=by rw[KL]; exact Alk _ (by decide)
theorem Afd (r:Int)(s:UInt64×UInt64×UInt64):lt2 (J6 r s):=⟨Zd _ _,Zd _ _⟩
theorem AcU (s:UInt64×UInt64×UInt64):lt2 (Oa s):=Afd _ _
theorem AbD: ∀(n:Nat) (l:List UInt64) (s:UInt64×UInt64×UInt64),lt2 s→lt2 (H7 n l s)
 |n,[],s,h=>by cases n<;>exact h
 |0,x::l,s,h=>h
 |n+1,[x],s,h=>AcU _
 |n+1,x::y::l,s,h=>AbD n l _ (AcU _)
theorem Adm (b:List UInt8):(Ku b).1.toNat<FP∧(Ku b).2.toNat<FP:=by
 have h:lt2 (Y8 (pof b.length b) (0,0,toU (b.length:Int))):=by
  unfold Y8;split
  ·exact AcU _
  ·exact AbD _ _ _ ⟨show(0:UInt64).toNat<FP by decide,show(0:UInt64).toNat<FP by decide⟩
 exact h
def sh8 (x:UInt64)(b:UInt8):UInt64:=(JL x 8)|||(toU (b.toNat:Int))
theorem Ait {x:UInt64}{b:UInt8}(h:x.toNat<72057594037927936):(sh8 x b).toNat=x.toNat*256+b.toNat:=by
 have hb:b.toNat<256:=b.toNat_lt;unfold sh8;rw[UInt64.toNat_or,O7 (by omega),J0 (by omega),Ak0 (by omega)];exact Ahl (k:=8) (by simpa using hb)
theorem of_st {a:List UInt8}{i:Nat}{b:UInt8}(x y:UInt64)(h:a[i]? =some b)(hi:i<16):DH a (i:Int) (x,y)=some (if i<8 then(sh8 x b,y)else(x,sh8 y b)):=by
 have h0:idx a (i:Int)=some b:=by simp[idx,h]
 unfold DH;rw[h0,Aa,AkA (by simp; omega)];by_cases c:i<8
 ·have t:Int.tdiv (i:Int) 8=0:=Int.tdiv_eq_zero_of_lt (by omega) (by omega);rw[AkA c,t];rfl
 ·have t:Int.tdiv (i:Int) 8=1:=by rw[Int.tdiv_eq_ediv_of_nonneg (by omega)]; omega
  rw[Aky c,t];rfl
theorem Aho (a:List UInt8)(m:Nat): ∀(l r:List UInt8) (k:Nat) (x y:UInt64),a.drop k=l++r→k+l.length≤8→Cg (DH a) (l.length+m) (k:Int) (x,y)=Cg (DH a) m ((k+l.length:Nat):Int) (l.foldl sh8 x,y)
 | [],r,k,x,y,h,hk=>by simp
 |b::l,r,k,x,y,h,hk=>by
  have hb:a[k]? =some b:=by
   have:=Alc (fun z=>z[0]?) h;simpa using this
  have hd:a.drop (k+1)=l++r:=by
   have:=Alc List.tail h;simpa using this
  rw[show(b::l).length+m=(l.length+m)+1 by simp; omega];show Ab (DH a (k:Int) (x,y)) _=_;rw[of_st x y hb (by simp at hk; omega),Aa,AkA (by simp at hk; omega)];have:=Aho a m l r (k+1) (sh8 x b) y hd (by simp at hk⊢; omega);rw[show((k+(b::l).length:Nat):Int)=((k+1+l.length:Nat):Int) by simp; omega];exact this
theorem Ahn (a:List UInt8)(m:Nat): ∀(l r:List UInt8) (k:Nat) (x y:UInt64),a.drop k=l++r→8≤k→k+l.length≤16→Cg (DH a) (l.length+m) (k:Int) (x,y)=Cg (DH a) m ((k+l.length:Nat):Int) (x,l.foldl sh8 y)
 | [],r,k,x,y,h,h8,hk=>by simp
 |b::l,r,k,x,y,h,h8,hk=>by
  have hb:a[k]? =some b:=by
   have:=Alc (fun z=>z[0]?) h;simpa using this
  have hd:a.drop (k+1)=l++r:=by
   have:=Alc List.tail h;simpa using this
  rw[show(b::l).length+m=(l.length+m)+1 by simp; omega];show Ab (DH a (k:Int) (x,y)) _=_;rw[of_st x y hb (by simp at hk; omega),Aa,Aky (by omega)];have:=Ahn a m l r (k+1) x (sh8 y b) hd (by omega) (by simp at hk⊢; omega);rw[show((k+(b::l).length:Nat):Int)=((k+1+l.length:Nat):Int) by simp; omega];exact this
theorem fold8 (n:UInt64): ∀(k:Nat) (x:UInt64),k≤8→x.toNat*2^ (8*k)+n.toNat%2^ (8*k)<2^64→((OL k n).foldl sh8 x).toNat=x.toNat*2^ (8*k)+n.toNat%2^ (8*k)
 |0,x,_,_=>by simp[OL]; omega
 |k+1,x,hk,h=>by
  have e1:2^ (8*(k+1))=2^ (8*k)*256:=by rw[Nat.mul_succ,Nat.pow_add]
  have hs:(Fu n (8*k)).toNat=n.toNat/2^ (8*k):=D2 n (8*k) (by omega);have hb:(toB ((Fu n (8*k)).toNat:Int)).toNat=n.toNat/2^ (8*k)%256:=by
   rw[hs];have:=M8 ((n.toNat/2^ (8*k):Nat):Int);omega
  have e2:n.toNat% (2^ (8*k)*256)=n.toNat%2^ (8*k)+2^ (8*k)*(n.toNat/2^ (8*k)%256):=Nat.mod_mul;rw[e1,e2]at h;have hpos:0<2^ (8*k):=Nat.two_pow_pos _;have hx:x.toNat<72057594037927936:=by
   have h3:x.toNat*(2^ (8*k)*256)<2^64:=by omega
   have h4:x.toNat*256≤x.toNat*(2^ (8*k)*256):=Nat.mul_le_mul_left _ (Nat.le_mul_of_pos_left _ hpos);omega
  have h1:=Ait (b:=toB ((Fu n (8*k)).toNat:Int)) hx;rw[hb]at h1;show((OL k n).foldl sh8 (sh8 x (toB ((Fu n (8*k)).toNat:Int)))).toNat=_;have e3:(x.toNat*256+n.toNat/2^ (8*k)%256)*2^ (8*k)=x.toNat*(2^ (8*k)*256)+2^ (8*k)*(n.toNat/2^ (8*k)%256):=by
   rw[Nat.add_mul,Nat.mul_assoc,Alm 256,Alm (n.toNat/2^ (8*k)%256)]
  rw[fold8 n k _ (by omega) (by rw[h1,e3]; omega),h1,e1,e2,e3];omega
theorem Agl (n:UInt64):(OL 8 n).foldl sh8 0=n:=by
 apply VZ;have h0:(0:UInt64).toNat=0:=rfl;have hn:=n.toNat_lt;rw[fold8 n 8 0 (by omega) (by rw[h0]; omega),h0];omega
theorem Zi {s:UInt64×UInt64}(h1:s.1.toNat<FP)(h2:s.2.toNat<FP):Nu (DE s)=some (s,0):=by
 have e:Cg (DH (DE s)) (DE s).length 0 (0,0)=some s:=by
  have a1:=Aho (DE s) 8 (OL 8 s.1) (OL 8 s.2) 0 0 0 rfl (by rw[Eu]; omega);have a2:=Ahn (DE s) 0 (OL 8 s.2) [] 8 s.1 0 (by unfold DE; rw[AkX]; exact List.drop_left' (Eu _ _)) (by omega) (by rw[Eu]; omega);rw[Eu,Agl]at a1 a2;rw[CB];refine a1.trans (a2.trans ?_);rfl
 have hm:(P9 s.1 s.2).toNat<FP:=by unfold P9; split<;>assumption
 simp only[FP]at hm;unfold Nu;rw[Aky (by rw[CB]; decide),e];show(if(decide (((DE s).length:Int)>16)||decide (((P9 s.1 s.2).toNat:Int)≥2305843009213693951))=true then _ else _)=_;rw[Aky (by rw[CB]; simp; omega)]
def fr1 (d:List UInt8):List UInt8:=[0,0,0,32]++(d++DE (Ku d))
theorem Iw {d:List UInt8}(h:d.length=32):(fr1 d).length=52:=by simp[fr1,h,CB]
theorem ZH {d:List UInt8}(h:d.length=32):L5 d=some (fr1 d):=by
 unfold L5;rw[YN d (by omega),Aa,Mr,Aa,h,LK (by simp[h,CB])];show some ([(toB (BE (32:Int) 24)),(toB (BE (32:Int) 16)),(toB (BE (32:Int) 8)),(toB (32:Int))]++(d++(DE (Ku d)++[])))=_;rw[AkX];rfl
theorem TP {σ:Type}(p0:σ→((List UInt8)×Int)→Option (Bool×σ))(s:σ):Ek p0 [] s=some ([],s):=by
 have e:iter (C7 p0 []) EV (0,s)=some s:=by
  refine En 1 ?_ (by decide);exact BR rfl
 unfold Ek;rw[e,Aa]
theorem TO {σ:Type}(p0:σ→((List UInt8)×Int)→Option (Bool×σ)){d:List UInt8}(h:d.length=32){s s':σ}(hp:p0 s (d,52)=some (true,s')):Ek p0 (fr1 d) s=some (fr1 d,s'):=by
 have hl:=Iw h;have c1:cut (fr1 d) 0 4=some [0,0,0,32]:=by
  have:=LI (xs:=fr1 d) (lo:=0) (hi:=4) (by omega) (by omega);refine this.trans ?_;rfl
 have c2:cut (fr1 d) 4 36=some d:=by
  have:=LI (xs:=fr1 d) (lo:=4) (hi:=36) (by omega) (by omega);refine this.trans ?_;show some ((d++DE (Ku d)).take 32)=_;rw[List.take_left' h]
 have c3:cut (fr1 d) 36 52=some (DE (Ku d)):=by
  have:=LI (xs:=fr1 d) (lo:=36) (hi:=52) (by omega) (by omega);refine this.trans ?_;have e:(fr1 d).drop 36=DE (Ku d):=by
   show(d++DE (Ku d)).drop 32=_;rw[List.drop_left' h]
  rw[e,Ak5 (by rw[CB]; omega)]
 have e:iter (C7 p0 (fr1 d)) EV (0,s)=some s':=by
  refine En 2 ?_ (by decide);have st1:C7 p0 (fr1 d) (0,s)=some (.inl (52,s')):=by
   unfold C7;rw[hl,AkA (show decide (w64 (((52:Nat):Int)-0)≥20)=true by decide)];show Ab (cut (fr1 d) 0 4) _=_;rw[c1,Aa];have ee:D1 Lx [0,0,0,32] 0 0=some (.inl 32):=by kernel_rfl
   rw[ee,Aa];show(if decide ((52:Int)>((52:Nat):Int))=true then some (Sum.inr s)else Ab (cut (fr1 d) 4 36) _)=_;rw[Aky (by decide),c2,Aa,YN d (by omega),Aa,Mr,Aa];show Ab (cut (fr1 d) 36 52) _=_;rw[c3,Aa];have eq:Gr (DE (Ku d)) (DE (Ku d))=some true:=by
    unfold Gr;rw[Sq.2 rfl]
   rw[eq,Aa,Aky (by decide)];show Ab (p0 s (d,52)) _=_;rw[hp,Aa,Aky (by simp)];rfl
  have st2:C7 p0 (fr1 d) (52,s')=some (.inr s'):=by
   unfold C7;rw[hl,Aky (show¬decide (w64 (((52:Nat):Int)-52)≥20)=true by decide)]
  rw[AM st1];exact BR st2
 unfold Ek;rw[e,Aa]
theorem PC (a:List UInt8):KO a=some a:=rfl
theorem SF {a b:List UInt8}(h:a.length+b.length≤1000):Ly ⟨a,b⟩=some (a++b):=by
 unfold Ly;rw[LK (by simp; omega),Aa];simp
theorem Yr {a:List UInt8}(h:a.length≤1000):Ec a=some a:=by
 unfold Ec;rw[EJ 1 (by simp; omega) (by simp; omega),Aa,Ak2]
theorem PL {a b:List UInt8}(h:a.length+b.length≤1000):DQ ⟨a,b⟩=some 0:=by
 unfold DQ;rw[Aky];have:w64 (65536-(b.length:Int))=65536-(b.length:Int):=BC (by omega) (by omega);rw[this];simp;omega
theorem Afm {d:List UInt8}(h:d.length=32):Ij ⟨fr1 d,[]⟩=some ([d],52):=by
 have hl:=Iw h;unfold Ij;rw[SF (by simp[hl]),Aa,AkX,PC,Aa];rw[TO _ h (s':=(52,[d])) (by
  unfold Jn;rw[Yr (a:=d) (by omega),Aa,EJ 24 (by simp) (by simp),Aa,Aa];rfl)]
 rfl
theorem Afn:Ij ⟨[],[]⟩=some ([],0):=by
 unfold Ij;rw[SF (by simp),Aa,AkX,PC,Aa,TP];rfl
theorem Ady {d:List UInt8}(h:d.length=32):Hx ⟨fr1 d,[]⟩=some (⟨fr1 d,[]⟩,0):=by
 have hl:=Iw h;have c1:cut (fr1 d) 0 52=some (fr1 d):=by
  have:=LI (xs:=fr1 d) (lo:=0) (hi:=52) (by omega) (by omega);refine this.trans ?_;rw[List.drop_zero,Ak5 (by omega)]
 have c2:cut (fr1 d) 52 52=some []:=by
  have:=LI (xs:=fr1 d) (lo:=52) (hi:=52) (by omega) (by omega);refine this.trans ?_;simp
 unfold Hx;rw[SF (by simp[hl]),Aa,AkX,PC,Aa];rw[TO _ h (s':=52) rfl,Aa,hl];show Ab (cut (fr1 d) 0 52) (fun x5=>Ab (cut (fr1 d) 52 52) fun x6=>_)=_;rw[c1,Aa,c2];rfl
theorem AjT:Hx ⟨[],[]⟩=some (⟨[],[]⟩,0):=by
 unfold Hx;rw[SF (by simp),Aa,AkX,PC,Aa,TP];rfl
theorem Yu {d:List UInt8}(h:d.length=32):FZ ⟨[],[]⟩ d=some (⟨[],fr1 d⟩,0):=by
 have hl:=Iw h;unfold FZ;rw[AjT,Aa,PL (by simp),Aa,Aky (by decide),h,Bx,Aky (by decide),Aky (by decide),Yr (by simp),Aa,ZH h,Aa,LK (by simp[hl]),Aa];rw[show [([]:List UInt8),fr1 d].flatten=fr1 d by simp,PL (by simp[hl]),Aa,Aky (by decide)]
theorem XI {a b:List UInt8}(h:a.length+b.length≤1000):JM ⟨a,b⟩=some (⟨a++b,[]⟩,0):=by
 unfold JM;rw[PL h,Aa,Aky (by decide),SF h,Aa]
theorem AdV {d:List UInt8}(h:d.length=32){k:Int}(hk:0≤k):J7 ⟨fr1 d,[]⟩ (Q5 k 0)=some (⟨fr1 d,[]⟩,0):=by
 have hl:=Iw h;have hm:Q5 k 0=0:=by unfold Q5; split<;>omega
 rw[hm];unfold J7;rw[PL (by simp[hl]),Aa,Aky (by decide),Aky (by simp)];show Ab (some []) _=_;rw[Aa,XI (by simp[hl]),Aa,AkX]
attribute [local irreducible] fr1
structure OkD (d:g_api_Done):Prop where
 s0:0≤d.Session
 s1:d.Session≤1000
 n0:0≤d.Serial
 n1:d.Serial≤1000
 b1:d.Body.1.toNat<FP
 b2:d.Body.2.toNat<FP
def dB (d:g_api_Done):List UInt8:=DE (toU d.Session,toU d.Serial)++DE d.Body
theorem LH (d:g_api_Done):(dB d).length=32:=by simp[dB,CB]
theorem WU (d:g_api_Done):GG d=some (dB d):=by
 unfold GG;rw[Mr,Aa,Mr,Aa,EJ 1 (by simp[CB]) (by simp[CB]),Aa];rfl
theorem Abv {n:Int}(h0:0≤n)(h1:n≤1000):((toU n).toNat:Int)=n:=by rw[XF]; omega
theorem Agz {d:g_api_Done}(h:OkD d):Jq (dB d)=some (d,true):=by
 have hl:=LH d;have e1:=Abv h.s0 h.s1;have e2:=Abv h.n0 h.n1;have c1:cut (dB d) 0 16=some (DE (toU d.Session,toU d.Serial)):=by
  have:=LI (xs:=dB d) (lo:=0) (hi:=16) (by omega) (by omega);refine this.trans ?_;show some ((dB d).take 16)=_;unfold dB;rw[List.take_left' (CB _)]
 have c2:cut (dB d) 16 32=some (DE d.Body):=by
  have:=LI (xs:=dB d) (lo:=16) (hi:=32) (by omega) (by omega);refine this.trans ?_;unfold dB;rw[List.drop_left' (CB _),Ak5 (by rw[CB]; omega)]
 have hs:(toU d.Session).toNat<FP:=by have:=h.s1; simp only[FP]; omega
 have hn:(toU d.Serial).toNat<FP:=by have:=h.n1; simp only[FP]; omega
 have hm:((P9 (toU d.Session) (toU d.Serial)).toNat:Int)≤1000:=by
  have:=h.s1; have:=h.n1;unfold P9; split<;>omega
 unfold Jq;rw[hl,Aky (by decide),c1,Aa,Zi hs hn,Aa];show Ab (cut (dB d) 16 32) _=_;rw[c2,Aa,Zi h.b1 h.b2,Aa,Aky (by simp; omega)];show some ((⟨w64 ((toU d.Session).toNat:Int),w64 ((toU d.Serial).toNat:Int),d.Body⟩:g_api_Done),true)=_;rw[e1,e2,BC (by have:=h.s0; omega) (by have:=h.s1; omega),BC (by have:=h.n0; omega) (by have:=h.n1; omega)]
attribute [local irreducible] dB
theorem YI {d:g_api_Done}(h:OkD d):Di ⟨fr1 (dB d),[]⟩=some ([d],true,true):=by
 have hl:=Iw (LH d);have e:D1 GO [dB d] 0 []=some (.inl [d]):=by
  have a:GO 0 (dB d) []=some (.inl [d]):=by
   unfold GO;rw[Agz h,Aa,Aky (by simp)];rfl
  simp only[D1,a,Aa]
 unfold Di;rw[Afm (LH d),Aa,e];simp only[Aa,Bx,hl,AkY];rfl
theorem AeP:Di ⟨[],[]⟩=some ([],true,true):=by
 unfold Di;rw[Afn];rfl
def sg0 (s:g_api_Share):Af:=⟨s,false,true,[],⟨[],[]⟩⟩
def sg1 (s:g_api_Share)(d:g_api_Done):Af:=⟨s,false,true,[d],⟨fr1 (dB d),[]⟩⟩
def sg2 (s:g_api_Share)(d:g_api_Done):Af:=⟨s,false,false,[],⟨fr1 (dB d),[]⟩⟩
structure OkS (s:g_api_Share):Prop where
 i0:1≤s.Id
 i1:s.Id≤7
 x:s.X.toNat<GR
theorem Rc {s:g_api_Share}(h:OkS s):DF s=some true:=by
 have:=U2 h.x;have:=h.i0; have:=h.i1;unfold DF;rw[Bx];congr 1;simp;omega
theorem AhV {s:g_api_Share}(h:OkS s):Cu (sg0 s)=some 0:=by
 unfold Cu;show Ab (DQ ⟨[],[]⟩) _=_;rw[PL (by simp),Aa,Aky (by decide)];show Ab (DF s) _=_;rw[Rc h,Aa,Aky (by simp[sg0]),AkA (show(sg0 s).Up=true from rfl)];show Ab (Di ⟨[],[]⟩) _=_;rw[AeP];rfl
theorem AdD (d:g_api_Done):CR d d=true:=by simp[CR,G3]
theorem AdC (d:g_api_Done):BD [d] [d]=some true:=by
 have e:Es (Bg [d] [d]) 1 0 ()=some (.inl ()):=by
  show Ab (Bg [d] [d] 0 ()) _=_;unfold Bg;show Ab (if(!CR d d)=true then _ else _) _=_;rw[AdD];rfl
 unfold BD;show Ab (Es (Bg [d] [d]) 1 0 ()) _=_;rw[e];rfl
theorem ZV {s:g_api_Share}(h:OkS s){d:g_api_Done}(hd:OkD d):Cu (sg1 s d)=some 0:=by
 have hl:=Iw (LH d);unfold Cu;show Ab (DQ ⟨fr1 (dB d),[]⟩) _=_;rw[PL (by simp[hl]),Aa,Aky (by decide)];show Ab (DF s) _=_;rw[Rc h,Aa,Aky (by simp[sg1]),AkA (show(sg1 s d).Up=true from rfl)];show Ab (Di ⟨fr1 (dB d),[]⟩) _=_;rw[YI hd,Aa,Aky (by simp)];show Ab (BD [d] [d]) _=_;rw[AdC];rfl
theorem check2 {s:g_api_Share}(h:OkS s)(d:g_api_Done):Cu (sg2 s d)=some 0:=by
 have hl:=Iw (LH d);unfold Cu;show Ab (DQ ⟨fr1 (dB d),[]⟩) _=_;rw[PL (by simp[hl]),Aa,Aky (by decide)];show Ab (DF s) _=_;rw[Rc h,Aa,Aky (by simp[sg2]),Aky (by simp[sg2])]
theorem AgC {s:g_api_Share}(h:OkS s){d:g_api_Done}(hd:OkD d){k:Int}(hk:0≤k):GH (sg1 s d) k=some (sg2 s d,0):=by
 have c:Dc (sg1 s d) k=some (.ok (⟨0,0⟩,sg2 s d)):=by
  unfold Dc;show Ab (J7 ⟨fr1 (dB d),[]⟩ (Q5 k 0)) _=_;rw[AdV (LH d) hk,Aa];rfl
 have p:BL (sg1 s d) true k=some (.ok (sg2 s d,⟨0,0⟩,0)):=by
  unfold BL;rw[ZV h hd,Aa,show Bq 0=some (.ok ())from rfl,Aa];show Ab (Dc (sg1 s d) k) _=_;rw[c,Aa]
 unfold GH Ev;rw[p];rfl
theorem Akj {s:g_api_Share}(h:OkS s){d:g_api_Done}(hd:OkD d):HB (sg2 s d)=some (sg1 s d,0):=by
 have c:F3 (sg2 s d)=some (.ok (⟨0,0⟩,sg1 s d)):=by
  unfold F3;have f:Hx (sg2 s d).Store=some (⟨fr1 (dB d),[]⟩,0):=Ady (LH d);rw[f,Aa];have t:Di ((⟨fr1 (dB d),[]⟩:g_api_Store),(0:Int)).1=some ([d],true,true):=YI hd;rw[t,Aa,Aky (by simp),Aa];rfl
 have p:Ck (sg2 s d) false=some (.ok (sg1 s d,⟨0,0⟩,0)):=by
  unfold Ck;rw[check2 h d,Aa,show Bq 0=some (.ok ())from rfl,Aa];rw[Aky (show¬((sg2 s d).Up !=false)=true by simp[sg2]),Aa];dsimp only;rw[c,Aa]
 unfold HB Gi;rw[p];rfl
end Go.Proofs.YtlahakpgjlmeaaaGreatDoor
end
section
namespace Go.Proofs.YtlahakpgjlmeaaaGreatDoor
open Go Go.Gw Go.Ax
attribute [local irreducible] fr1 dB
theorem AcO (s:g_api_Share)(n:Int){b:List UInt8}(h:b.length≤100000): ∃z,IB s n b=some z:=by
 have c1: ∀x:UInt64×UInt64,cut (DE x) 0 8=some (OL 8 x.1):=fun x=>by
  have:=LI (xs:=DE x) (lo:=0) (hi:=8) (by omega) (by rw[CB]; omega);refine this.trans ?_;show some ((DE x).take 8)=_;unfold DE;rw[List.take_left' (Eu _ _)]
 have c2: ∀x:UInt64×UInt64,cut (DE x) 8 16=some (OL 8 x.2):=fun x=>by
  have:=LI (xs:=DE x) (lo:=8) (hi:=16) (by omega) (by rw[CB]; omega);refine this.trans ?_;unfold DE;rw[List.drop_left' (Eu _ _),Ak5 (by rw[Eu]; omega)]
 unfold IB;rw[Mr,Aa,Mr,Aa,c1,Aa,CB];show∃z,Ab (cut (DE _) 8 16) _=some z;rw[c2,Aa,c1,Aa,Lq _ _ (by simp[Y7,Eu]; omega),Aa,Zj dvR1];exact⟨_,rfl⟩
theorem AiR {s:g_api_Share}(h:OkS s){n:Int}(h0:0≤n)(h1:n≤1000){b:List UInt8}(hb:b.length≤100000): ∃z,EG s n b=some (⟨s.Id,z⟩,0):=by
 obtain⟨z,hz⟩:=AcO s n hb;have:=U2 h.x;have:=h.i0; have:=h.i1;have e:EG s n b=some (⟨s.Id,Xa 2305843009213691579 4 z⟩,0):=by
  unfold EG;rw[Aky (by simp; omega),hz,Aa,SE,Aa]
 exact⟨_,e⟩
theorem WY (d:g_api_Done):Bh [] d=some false:=rfl
theorem QS (a d:g_api_Done):Bh [a] d=some (CR d a):=by
 have e:Es (Bf [a] d) 1 0 ()=some (if CR d a=true then .inr 0 else .inl ()):=by
  show Ab (Bf [a] d 0 ()) _=_;unfold Bf;show Ab (if CR d a=true then some (Sum.inr (0:Int))else some (.inl ())) _=_;split<;>rfl
 unfold Bh CZ;show Ab (Ab (Es (Bf [a] d) 1 0 ()) _) _=_;rw[e];cases CR d a<;>rfl
def agB (a k:g_api_Done):Bool:=(!CR k a)&&((k.Session==a.Session)||((k.Serial==a.Serial)&&(!G3 k.Body a.Body)))
theorem Agj (d:g_api_Done):Aw [] d=some false:=rfl
theorem Agi (a d:g_api_Done):Aw [a] d=some (agB a d):=by
 have e:Es (AF [a] d) 1 0 ()=some (if agB a d=true then .inr 0 else .inl ()):=by
  show Ab (AF [a] d 0 ()) _=_;unfold AF;show Ab (if agB a d=true then some (Sum.inr (0:Int))else some (.inl ())) _=_;split<;>rfl
 unfold Aw BK;show Ab (Ab (Es (AF [a] d) 1 0 ()) _) _=_;rw[e];cases agB a d<;>rfl
theorem on0:Bq 0=some (.ok ()):=rfl
theorem Ad0 (l:List g_api_Done):Ci l=some l:=rfl
theorem Ach (s:g_api_Share)(d:g_api_Done):B0 (sg0 s) d=some (.ok (sg1 s d)):=by
 have hl:=Iw (LH d);unfold B0;rw[show(sg0 s).Done=[]from rfl,WY,Aa,Aky (by decide),show Fi d=some d from rfl,Aa,Agj,Aa,Aky (by decide),WU,Aa,
  show(sg0 s).Store=⟨[],[]⟩from rfl,Yu (LH d),Aa,on0,Aa]
 dsimp only;rw[XI (by simp[hl]),Aa,on0,Aa];dsimp only;rw[Ad0,Aa,EJ 32 (by simp) (by simp),Aa,Ak2,Ak2];unfold sg1 sg0;rfl
theorem Afj (s:g_api_Share)(d:g_api_Done):B0 (sg1 s d) d=some (.ok (sg1 s d)):=by
 unfold B0;rw[show(sg1 s d).Done=[d]from rfl,QS,AdD,Aa,AkA rfl]
def sg3 (s:g_api_Share)(d k:g_api_Done):Af:=⟨s,false,true,[d,k],⟨fr1 (dB d)++fr1 (dB k),[]⟩⟩
theorem Aa1 {d k:List UInt8}(hd:d.length=32)(hk:k.length=32):FZ ⟨fr1 d,[]⟩ k=some (⟨fr1 d,fr1 k⟩,0):=by
 have hl:=Iw hd;have hl2:=Iw hk;unfold FZ;rw[Ady hd,Aa,PL (by simp[hl]),Aa,Aky (by decide),hk,Bx,Aky (by decide),Aky (by simp),Yr (a:=fr1 d) (by omega),Aa,ZH hk,Aa,LK (by simp[hl2]),Aa];rw[show [([]:List UInt8),fr1 k].flatten=fr1 k by simp,PL (by omega),Aa,Aky (by decide)]
theorem Afk (s:g_api_Share){d k:g_api_Done}(hs:k.Session≠d.Session)(hn:k.Serial=d.Serial):B0 (sg1 s d) k=some (if G3 k.Body d.Body=true then .ok (sg3 s d k)else .error (250,0)):=by
 have hl:=Iw (LH d);have hl2:=Iw (LH k);have e0:CR k d=false:=by
  have:(k.Session==d.Session)=false:=by simpa using hs
  simp[CR,this]
 have ag:agB d k= !G3 k.Body d.Body:=by
  have:(k.Session==d.Session)=false:=by simpa using hs
  simp[agB,e0,this,hn]
 unfold B0;rw[show(sg1 s d).Done=[d]from rfl,QS,e0,Aa,Aky (by decide),show Fi k=some k from rfl,Aa,Agi,ag,Aa];cases G3 k.Body d.Body with
 |false=>rfl
 |true=>
  rw[Aky (by decide),WU,Aa,show(sg1 s d).Store=⟨fr1 (dB d),[]⟩from rfl,Aa1 (LH d) (LH k),Aa,on0,Aa];dsimp only;rw[XI (by omega),Aa,on0,Aa];dsimp only;rw[Ad0,Aa,EJ 32 (by simp) (by simp),Aa];unfold sg3 sg1;rw[AkA rfl];rfl
def comR:Except (Int×Int) (g_api_Share×Af)→Af×g_api_Share×Int
 | .error z=>(⟨⟨0,0⟩,false,false,[],⟨[],[]⟩⟩,⟨0,0⟩,z.1)
 | .ok c=>(c.2,c.1,0)
def comP:Except (Int×Int) (g_api_Share×Af)→Except (Int×Int) (Af×g_api_Share×Int)
 | .error z=> .error z
 | .ok c=> .ok (c.2,c.1,0)
def comO (z:UInt64):Except (Int×Int) Af→Except (Int×Int) (g_api_Share×Af)
 | .error z=> .error z
 | .ok x=> .ok (⟨x.Share.Id,z⟩,x)
theorem WZ {a:Af}{n:Int}{b:List UInt8}{ks:List Ar}{t:AG}{r:Except (Int×Int) (g_api_Share×Af)}(hc:Cu a=some 0)(hu:a.Up=true)(h:BF a n b ks t=some r):Bv a n b ks t=some (comR r):=by
 have p:BM a true n b ks t=some (comP r):=by
  unfold BM;rw[hc,Aa,on0,Aa];dsimp only;rw[Aky (by simp[hu]),Aa];dsimp only;rw[h,Aa];cases r<;>rfl
 unfold Bv Ew;rw[p];cases r<;>rfl
theorem AgF {a:Af}{n e:Int}{b:List UInt8}{ks:List Ar}{t:AG}(h0:0≤n)(h1:n≤1000)(hb:a.Bad=false)(hm:CV b ks t=some e)(he:e≠0):BF a n b ks t=some (.error (e,0)):=by
 have ht:Gj n=some true:=by
  unfold Gj;rw[Bx];congr 1;simp;omega
 unfold BF;rw[ht,Aa,Aky (by decide),Aa];dsimp only;rw[AkA (by rw[hb]; rfl),hm,Aa,show Bq e=some (.error (e,0))from AkA (by simpa using he),Aa];rfl
theorem Vm {a:Af}{n:Int}{b:List UInt8}{ks:List Ar}{t:AG}{c:Ag}{f:Int}{r:Except (Int×Int) Af}(h0:0≤n)(h1:n≤1000)(hb:a.Bad=false)(hm:CV b ks t=some 0)(hg:Fy b=some (c,f))(hl:b.length≤100000)
  (hr:B0 a ⟨n,c.Serial,Ku b⟩=some r) (ho: ∀x,r= .ok x→OkS x.Share): ∃z:UInt64,BF a n b ks t=some (comO z r):=by
 have ht:Gj n=some true:=by
  unfold Gj;rw[Bx];congr 1;simp;omega
 have key: ∀z:UInt64,(∀x,r= .ok x→EG x.Share n b=some (⟨x.Share.Id,z⟩,0))→BF a n b ks t=some (comO z r):=by
  intro z hz;unfold BF;rw[ht,Aa,Aky (by decide),Aa];dsimp only;rw[AkA (by rw[hb]; rfl),hm,Aa,on0,Aa];dsimp only;rw[hg,Aa,YN b (by omega),Aa,hr,Aa];cases r with
  |error z=>rfl
  |ok x=>
   dsimp only;rw[Aa];dsimp only;rw[hz x rfl,Aa,on0];rfl
 cases r with
 |error z=>exact⟨0,key 0 (fun x h=>by cases h)⟩
 |ok x=>
  obtain⟨z,hz⟩:=AiR (ho x rfl) h0 h1 hl;exact⟨z,key z (fun y hy=>by cases hy; exact hz)⟩
end Go.Proofs.YtlahakpgjlmeaaaGreatDoor
end
section
namespace Go.Proofs.YtlahakpgjlmeaaaGreatDoor
open Go Go.Gw Go.Ax
def radd (a b:UInt64):UInt64:=((a%2305843009213693951)+(b%2305843009213693951))%2305843009213693951
theorem Afq (a b:UInt64):(radd a b).toNat=(a.toNat%FP+b.toNat%FP)%FP:=by
 unfold radd;rw[UInt64.toNat_mod,UInt64.toNat_add,UInt64.toNat_mod,UInt64.toNat_mod,litP];simp only[FP];omega
theorem AiQ (a b:UInt64):radd a b=DP a b:=VZ (by rw[Afq,KL])
theorem DX (a b:UInt64):Dt a b=some (DP a b):=by rw[←AiQ]; rfl
theorem AfI: ∀(n:Nat) (a b o:UInt64),b.toNat<2^n→o.toNat<FP→∃r,iter Fw (n+1) (a,b,o)=some r∧r.toNat=(o.toNat+a.toNat*b.toNat)%FP:=by
 intro n;induction n with
 |zero=>
  intro a b o h ho;have hb:b.toNat=0:=by simp at h; omega
  refine⟨o,BR ?_,by rw[hb]; simp; exact(Ak0 ho).symm⟩;unfold Fw;rw[Aky (by simp[hb])]
 |succ n ih=>
  intro a b o h ho;by_cases hb:b.toNat=0
  ·refine⟨o,BR ?_,by rw[hb]; simp; exact(Ak0 ho).symm⟩;unfold Fw;rw[Aky (by simp[hb])]
  ·have e1:2^ (n+1)=2*2^n:=by rw[Nat.pow_succ]; omega
   have hb2:(b/2).toNat=b.toNat/2:=by rw[UInt64.toNat_div]; rfl
   have hbm:((b%2).toNat:Int)=((b.toNat%2:Nat):Int):=by rw[UInt64.toNat_mod]; rfl
   have hp0: ∀x y,(DP x y).toNat<FP:=fun x y=>by rw[KL]; exact Alk _ (by decide)
   by_cases ho1:b.toNat%2=1
   ·obtain⟨r,h1,h2⟩:=ih (DP a a) (b/2) (DP o a) (by rw[hb2]; omega) (hp0 _ _);refine⟨r,?_,?_⟩
    ·rw[AM (s':=(DP a a,b/2,DP o a)),h1];unfold Fw;rw[AkA (by simp; omega),AkA (by rw[hbm,ho1]; rfl),DX,Aa,Aa,DX,Aa]
    ·rw[h2,KL,KL,hb2];simp only[Nat.mod_add_mod,Nat.add_mod_mod];rw[Nat.add_mod,Nat.mod_mul_mod,←Nat.add_mod,←Nat.two_mul];congr 1;have:b.toNat=2*(b.toNat/2)+1:=by omega
     conv=>rhs; rw[this]
     rw[Nat.mul_add,Nat.mul_one,←Nat.mul_assoc,Alm a.toNat 2]; omega
   ·obtain⟨r,h1,h2⟩:=ih (DP a a) (b/2) o (by rw[hb2]; omega) ho;refine⟨r,?_,?_⟩
    ·rw[AM (s':=(DP a a,b/2,o)),h1];unfold Fw;rw[AkA (by simp; omega),Aky (by rw[hbm]; simp; omega),Aa,DX,Aa]
    ·rw[h2,KL,hb2];simp only[Nat.mod_add_mod,Nat.add_mod_mod];rw[Nat.add_mod,Nat.mod_mul_mod,←Nat.add_mod,←Nat.two_mul];congr 1;have:b.toNat=2*(b.toNat/2):=by omega
     conv=>rhs; rw[this]
     rw[←Nat.mul_assoc,Alm a.toNat 2]
theorem AfJ (a b:UInt64):Kb a b=some (Aa8 a b):=by
 have hb:(b%2305843009213693951).toNat<2^64:=(b%2305843009213693951).toNat_lt;obtain⟨r,h1,h2⟩:=AfI 64 (a%2305843009213693951) (b%2305843009213693951) 0 hb (by decide);have hr:r=Aa8 a b:=VZ (by
  rw[h2,UU,UInt64.toNat_mod,UInt64.toNat_mod,litP];simp only[UInt64.toNat_zero,Ak9];rw[←Nat.mul_mod])
 unfold Kb;rw[En _ h1 (by omega),Aa,Aa,hr]
theorem Ack (a:UInt64)(n:Nat)(hn:n≤1000): ∀(k i:Nat) (x:UInt64),i+k=n→x.toNat=a.toNat^i%FP→∃y,iter (Gk a (n:Int)) (k+1) (x,(i:Int))=some y∧y.toNat=a.toNat^n%FP:=by
 intro k;induction k with
 |zero=>
  intro i x h hx;refine⟨x,BR ?_,by rw[hx,show i=n from by omega]⟩;unfold Gk;rw[Aky (by simp; omega)]
 |succ k ih=>
  intro i x h hx;have hw:w64 ((i:Int)+1)=((i+1:Nat):Int):=by rw[BC (by omega) (by omega)]; omega
  obtain⟨y,h1,h2⟩:=ih (i+1) (Aa8 x a) (by omega) (by rw[UU,hx,Nat.mod_mul_mod,Nat.pow_succ]);refine⟨y,?_,h2⟩;rw[AM (s':=(Aa8 x a,((i+1:Nat):Int)))]
  ·exact h1
  ·unfold Gk;rw[AkA (by simp; omega),AfJ,Aa];simp only[hw]
theorem Tw (a:UInt64)(n:Nat)(hn:n≤1000): ∃y,Dj a (n:Int)=some y∧y.toNat=a.toNat^n%FP:=by
 obtain⟨y,h1,h2⟩:=Ack a n hn n 0 1 (by omega) (by simp);have h1':=En _ h1 (by omega);refine⟨y,?_,h2⟩;unfold Dj;rw[show((0:Int))=((0:Nat):Int)from rfl,h1',Aa,Aa]
theorem RY {a:UInt64}:Dj a 17=some (Q2 a):=by
 obtain⟨y,h1,h2⟩:=Tw a 17 (by omega);have:y=Q2 a:=VZ (by rw[h2,Aft]);rw[←this]; exact h1
theorem AdX {r i:Nat}(hr:r<8)(hi:i<3):(Ab (Dj (toU (w64 ((w64 ((w64 (3*(r:Int)))+(i:Int)))+1))) 3) fun x4=>Dt x4 7)=some (SK (r:Int) (i:Int)):=by
 have hw:w64 ((w64 ((w64 (3*(r:Int)))+(i:Int)))+1)=((3*r+i+1:Nat):Int):=by
  rw[BC (n:=3*(r:Int)) (by omega) (by omega),BC (n:=3*(r:Int)+(i:Int)) (by omega) (by omega),BC (by omega) (by omega)]; omega
 have hN:(toU ((3*r+i+1:Nat):Int)).toNat=3*r+i+1:=J0 (by omega);unfold SK;rw[hw];generalize toU ((3*r+i+1:Nat):Int)=N at*;obtain⟨y,h1,h2⟩:=Tw N 3 (by omega);have h1':Dj N 3=some y:=h1;rw[h1',Aa,DX];refine Alc some (VZ ?_);have hle:N.toNat≤24:=by omega
 have h2':N.toNat*N.toNat≤24*24:=Nat.mul_le_mul hle hle;have h3':N.toNat*N.toNat*N.toNat≤24*24*24:=Nat.mul_le_mul h2' hle;have e3:N.toNat^3=N.toNat*N.toNat*N.toNat:=by rw[Nat.pow_succ,Nat.pow_two]
 dsimp only;rw[KL,h2,e3,UInt64.toNat_add,UInt64.toNat_mul,UInt64.toNat_mul,show(7:UInt64).toNat=7 from rfl];have e4:N.toNat*N.toNat%2^64=N.toNat*N.toNat:=Ak0 (by omega);rw[e4];clear e4 e3 h2 h1 h1' hw hN;generalize N.toNat*N.toNat*N.toNat=z at*;rw[Ak0 (show z<2^64 by omega),Ak0 (show z<FP by simp only[FP]; omega),Ak0 (show z<FP by simp only[FP]; omega),Ak0 (show 7<FP by decide),Ak0 (show z+7<FP by simp only[FP]; omega),Ak0 (show z+7<2^64 by omega)]
theorem Ox {α β γ:Type}(x:Option α)(f:α→Option β)(g:β→Option γ):Ab x (fun a=>Ab (f a) g)=Ab (Ab x f) g:=by cases x<;>rfl
theorem UM {s:UInt64×UInt64×UInt64}{r:Nat}(hr:r<8)(a b c:UInt64):
  CY s (r:Int) (0,a,b,c)=some (.inl (1,Q2 (DP s.1 (SK r 0)),b,c))∧
  CY s (r:Int) (1,a,b,c)=some (.inl (2,a,Q2 (DP s.2.1 (SK r 1)),c))∧
  CY s (r:Int) (2,a,b,c)=some (.inl (3,a,b,Q2 (DP s.2.2 (SK r 2)))):=by
 have c0:=AdX hr (i:=0) (by omega);have c1:=AdX hr (i:=1) (by omega);have c2:=AdX hr (i:=2) (by omega);refine⟨?_,?_,?_⟩
 ·unfold CY;dsimp only;rw[AkA (by simp),Ox,show((0:Nat):Int)=0 from rfl]at*;rw[c0,Aa,show idx [s.1,s.2.1,s.2.2] 0=some s.1 from rfl,Aa,DX,Aa,RY,Aa,show idx [a,b,c] 0=some a from rfl,Aa];simp[Bx,w64]
 ·unfold CY;dsimp only;rw[AkA (by simp),Ox,show((1:Nat):Int)=1 from rfl]at*;rw[c1,Aa,show idx [s.1,s.2.1,s.2.2] 1=some s.2.1 from rfl,Aa,DX,Aa,RY,Aa,show idx [a,b,c] 1=some b from rfl,Aa];simp[Bx,w64]
 ·unfold CY;dsimp only;rw[AkA (by simp),Ox,show((2:Nat):Int)=2 from rfl]at*;rw[c2,Aa,show idx [s.1,s.2.1,s.2.2] 2=some s.2.2 from rfl,Aa,DX,Aa,RY,Aa,show idx [a,b,c] 2=some c from rfl,Aa];simp[Bx,w64]
theorem padd3 (x y z:UInt64):DP (DP (DP 0 x) y) z=DP (DP x y) z:=VZ (by
 simp only[KL,UInt64.toNat_zero];simp only[FP];omega)
theorem UL (x:UInt64)(a b c:UInt64):
  CX x (0,a,b,c)=some (.inl (1,DP a x,b,c))∧CX x (1,a,b,c)=some (.inl (2,a,DP b x,c))∧CX x (2,a,b,c)=some (.inl (3,a,b,DP c x)):=by
 refine⟨?_,?_,?_⟩
 ·unfold CX;dsimp only;rw[AkA (by simp),show idx [a,b,c] 0=some a from rfl,Aa,DX,Aa,Aa]; simp[Bx,w64]
 ·unfold CX;dsimp only;rw[AkA (by simp),show idx [a,b,c] 1=some b from rfl,Aa,DX,Aa,Aa]; simp[Bx,w64]
 ·unfold CX;dsimp only;rw[AkA (by simp),show idx [a,b,c] 2=some c from rfl,Aa,DX,Aa,Aa]; simp[Bx,w64]
theorem Afe {r:Nat}(hr:r<8)(s:UInt64×UInt64×UInt64):HF s (r:Int)=some (J6 (r:Int) s):=by
 have h4:iter (CY s (r:Int)) 4 (0,0,0,0)=some (Q2 (DP s.1 (SK r 0)),Q2 (DP s.2.1 (SK r 1)),Q2 (DP s.2.2 (SK r 2))):=by
  rw[AM (UM hr 0 0 0).1,AM (UM hr _ 0 0).2.1,AM (UM hr _ _ 0).2.2];exact BR rfl
 have h5: ∀x a b c:UInt64,iter (CX x) 4 (0,a,b,c)=some (DP a x,DP b x,DP c x):=fun x a b c=>by
  rw[AM (UL x a b c).1,AM (UL x _ b c).2.1,AM (UL x _ _ c).2.2];exact BR rfl
 unfold HF;rw[En _ h4 (by omega),Aa,Aa,DX,Aa,DX,Aa,En _ (h5 _ _ _ _) (by omega),Aa,Aa];unfold J6 pall;rw[padd3]
theorem KM (s:UInt64×UInt64×UInt64){r:Nat}(hr:r<8):IA ((r:Int),s.1,s.2.1,s.2.2)=some (.inl (((r+1:Nat):Int),(J6 (r:Int) s).1,(J6 (r:Int) s).2.1,(J6 (r:Int) s).2.2)):=by
 have hw:w64 ((r:Int)+1)=((r+1:Nat):Int):=by rw[BC (by omega) (by omega)]; omega
 unfold IA;rw[AkA (by simp; omega),Afe hr,Aa];simp only[hw]
theorem Pg (s:UInt64×UInt64×UInt64):Ka s=some (Oa s):=by
 have h:iter IA 9 (((0:Nat):Int),s.1,s.2.1,s.2.2)=some (Oa s):=by
  rw[AM (KM s (by omega)),AM (KM _ (by omega)),AM (KM _ (by omega)),AM (KM _ (by omega)),AM (KM _ (by omega)),AM (KM _ (by omega)),AM (KM _ (by omega)),AM (KM _ (by omega))];exact BR rfl
 unfold Ka;rw[show((0:Int))=((0:Nat):Int)from rfl,En _ h (by omega),Aa,Aa]
theorem or_shl {s:UInt64}{b:UInt8}{i:Nat}(hi:i<7)(hs:s.toNat<256^i)(u:UInt64)(hu:u.toNat=256^i):
  s|||JL (toU (b.toNat:Int)) (8*i)=s+u*(toU (b.toNat:Int))∧(s+u*(toU (b.toNat:Int))).toNat<256^ (i+1):=by
 have hb:=b.toNat_lt;have e1:(toU (b.toNat:Int)).toNat=b.toNat:=J0 (by omega);have e2:(2:Nat)^ (8*i)=256^i:=by rw[Nat.pow_mul]
 have hpow:256^i≤256^6:=Nat.pow_le_pow_right (by omega) (by omega);have hpos:0<256^i:=Nat.pow_pos (by omega);have e256:(256:Nat)^6=281474976710656:=by decide
 have hmul:256^i*b.toNat≤256^i*255:=Nat.mul_le_mul_left _ (by omega);have esh:(JL (toU (b.toNat:Int)) (8*i)).toNat=256^i*b.toNat:=by
  unfold JL;rw[e1,Nat.min_eq_left (by omega),show(b.toNat:Int)*2^ (8*i)=((256^i*b.toNat:Nat):Int)from by
   rw[←e2,Alm]; simp[Alm,Int.mul_comm]]
  exact J0 (by omega)
 have ese:(u*(toU (b.toNat:Int))).toNat=256^i*b.toNat:=by
  rw[UInt64.toNat_mul,e1,hu]; omega
 have eadd:(s+u*(toU (b.toNat:Int))).toNat=s.toNat+256^i*b.toNat:=by
  rw[UInt64.toNat_add,ese]; omega
 refine⟨VZ ?_,?_⟩
 ·rw[eadd,UInt64.toNat_or,esh,Nat.or_comm,←e2,←Nat.two_pow_add_eq_or_of_lt (by rw[e2]; exact hs)]; omega
 ·rw[eadd,Nat.pow_succ]; omega
theorem of2_it (a0:List UInt8)(hb:a0.length≤1000000)(st:(List UInt64)×Int)(i:Nat)(hi:st.2=(i:Int))(hi2:i≤1000000):
  ∀(l:List UInt8) (k:Nat) (s u:UInt64),k+l.length≤7→((a0.drop i).take 7).drop k=l→((a0.drop i).take 7).length=k+l.length→s.toNat<256^k→(k<7→u.toNat=256^k)→
   iter (Jt a0 st) (l.length+1) (s,u,((i+k:Nat):Int))=some (ple l k s):=by
 intro l;induction l with
 |nil=>
  intro k s u h1 h2 h3 hs hu;refine BR ?_;have hw:w64 ((i:Int)+7)=((i+7:Nat):Int):=by rw[BC (by omega) (by omega)]; omega
  simp only[Ak7,Aln,AkY]at h3;unfold Jt;dsimp only;rw[hi,hw,Aky (by simp; omega)];rfl
 |cons b l ih=>
  intro k s u h1 h2 h3 hs hu;have hw:w64 ((i:Int)+7)=((i+7:Nat):Int):=by rw[BC (by omega) (by omega)]; omega
  have hw1:w64 (((i+k:Nat):Int)+1)=((i+(k+1):Nat):Int):=by rw[BC (by omega) (by omega)]; omega
  simp only[AkB]at h1 h3;have h3':=h3;simp only[Ak7,Aln]at h3';have hx:a0[i+k]? =some b:=by
   have:(((a0.drop i).take 7).drop k)[0]? =some b:=by rw[h2]; rfl
   rw[List.getElem?_drop,List.getElem?_take_of_lt (by omega),List.getElem?_drop]at this;simpa using this
  obtain⟨o1,o2⟩:=or_shl (b:=b) (show k<7 by omega) hs u (hu (by omega));rw[AkB,AM (s':=(s+u*(toU (b.toNat:Int)),u*256,((i+(k+1):Nat):Int)))]
  ·have hd:((a0.drop i).take 7).drop (k+1)=l:=by rw[←All,h2]; rfl
   rw[ih (k+1) _ (u*256) (by omega) hd (by omega) o2 (fun hk=>by
    rw[UInt64.toNat_mul,hu (by omega),show(256:UInt64).toNat=256 from rfl,Nat.pow_succ];have:256^k≤256^6:=Nat.pow_le_pow_right (by omega) (by omega);have e256:(256:Nat)^6=281474976710656:=by decide
    omega)]
   rw[ple,o1]
  ·unfold Jt;dsimp only;rw[hi,hw,AkA (by simp; omega),Mm hx,Aa,Bx];simp only[hw1]
theorem of1_it (a0:List UInt8)(hb:a0.length≤900000): ∀(n i:Nat) (out:List UInt64),a0.length≤i+n→i≤900007→out.length+n≤1000000→
  iter (HG a0) (n+1) (out,(i:Int))=some (out++pof n (a0.drop i)):=by
 intro n;induction n with
 |zero=>
  intro i out h _ _;have:a0.drop i=[]:=Ak6 (by omega);refine BR ?_;unfold HG;rw[Aky (by simp; omega),this]; simp[pof]
 |succ n ih=>
  intro i out h hi ho;by_cases hlt:i<a0.length
  ·obtain⟨b,l,hl⟩: ∃b l,a0.drop i=b::l:=⟨a0[i],a0.drop (i+1),List.drop_eq_getElem_cons hlt⟩;have hw:w64 ((i:Int)+7)=((i+7:Nat):Int):=by rw[BC (by omega) (by omega)]; omega
   have h2:=of2_it a0 (by omega) (out,(i:Int)) i rfl (by omega) ((a0.drop i).take 7) 0 0 1 (by simp; omega) (by simp) (by simp) (by decide) (fun _=>by decide);have h2':=En _ h2 (by simp; omega);rw[Nat.add_zero]at h2';rw[AM (s':=(out++[ple ((a0.drop i).take 7) 0 0],((i+7:Nat):Int)))]
   ·rw[ih (i+7) _ (by omega) (by omega) (by simp; omega),hl];simp only[pof];rw[←hl,All];simp
   ·unfold HG;dsimp only;rw[AkA (by simp; omega),h2',Aa,Aa,EJ 8 (by simp; omega) (by simp; omega),Aa];simp only[hw]
  ·have:a0.drop i=[]:=Ak6 (by omega);refine BR ?_;unfold HG;rw[Aky (by simp; omega),this]; simp[pof]
theorem Ai8 (a0:List UInt8)(hb:a0.length≤900000):Lz a0=some (pof a0.length a0):=by
 have h:=of1_it a0 hb a0.length 0 [] (by omega) (by omega) (by simp; omega);have h':=En _ h (by omega);unfold Lz;rw[show((0:Int))=((0:Nat):Int)from rfl,h',Aa,Aa];simp
theorem AeY (l:List UInt64)(hl:l.length≤1000000): ∀(n i:Nat) (s:UInt64×UInt64×UInt64),l.length≤i+n→1≤i→i≤1000002→
  iter (CM l) (n+1) ((i:Int),s.1,s.2.1,s.2.2)=some (H7 n (l.drop i) s):=by
 intro n;induction n with
 |zero=>
  intro i s h h1 _;have:l.drop i=[]:=Ak6 (by omega);refine BR ?_;unfold CM;rw[Aky (by simp; omega),this]; simp[H7]
 |succ n ih=>
  intro i s h h1 h2;by_cases hlt:i<l.length
  ·have hw:w64 ((i:Int)+1)=((i+1:Nat):Int):=by rw[BC (by omega) (by omega)]; omega
   have hw2:w64 ((i:Int)+2)=((i+2:Nat):Int):=by rw[BC (by omega) (by omega)]; omega
   have hx:idx l (i:Int)=some l[i]:=Mm (by simp[hlt]);by_cases hlt2:i+1<l.length
   ·have hy:idx l ((i+1:Nat):Int)=some l[i+1]:=Mm (by simp[hlt2]);have hd:l.drop i=l[i]::l[i+1]::l.drop (i+2):=by rw[List.drop_eq_getElem_cons hlt,List.drop_eq_getElem_cons hlt2]
    rw[AM (s':=(((i+2:Nat):Int),(Oa (DP s.1 l[i],DP s.2.1 l[i+1],s.2.2)).1,(Oa (DP s.1 l[i],DP s.2.1 l[i+1],s.2.2)).2.1,(Oa (DP s.1 l[i],DP s.2.1 l[i+1],s.2.2)).2.2))]
    ·rw[ih (i+2) (Oa (DP s.1 l[i],DP s.2.1 l[i+1],s.2.2)) (by omega) (by omega) (by omega),hd]; rfl
    ·unfold CM;dsimp only;rw[AkA (by simp; omega),AkA (by simp; omega),hx,Aa,DX,Aa,Aa,hw,AkA (by simp; omega),hy,Aa,DX,Aa,Aa,Pg,Aa];simp only[hw2]
   ·have hd:l.drop i=[l[i]]:=by rw[List.drop_eq_getElem_cons hlt,Ak6 (by omega)]
    rw[AM (s':=(((i+2:Nat):Int),(Oa (DP s.1 l[i],s.2.1,s.2.2)).1,(Oa (DP s.1 l[i],s.2.1,s.2.2)).2.1,(Oa (DP s.1 l[i],s.2.1,s.2.2)).2.2))]
    ·rw[ih (i+2) (Oa (DP s.1 l[i],s.2.1,s.2.2)) (by omega) (by omega) (by omega),hd,Ak6 (by omega)];cases n<;>simp[H7]
    ·unfold CM;dsimp only;rw[AkA (by simp; omega),AkA (by simp; omega),hx,Aa,DX,Aa,Aa,hw,Aky (by simp; omega),Aa,Pg,Aa];simp only[hw2]
  ·have:l.drop i=[]:=Ak6 (by omega);refine BR ?_;unfold CM;rw[Aky (by simp; omega),this]; simp[H7]
theorem Acn: ∀(n k:Nat) (l:List UInt64) (s:UInt64×UInt64×UInt64),l.length≤n→l.length≤k→H7 n l s=H7 k l s:=by
 intro n;induction n with
 |zero=>intro k l s h _; have:l=[]:=List.eq_nil_of_length_eq_zero (by omega); subst this; simp[H7]
 |succ n ih=>
  intro k l s h hk;match l,k,h,hk with
  | [],k,_,_=>cases k<;>simp[H7]
  | [x],k+1,_,_=>simp[H7]
  |x::y::l,k+1,h,hk=>simp only[H7]; exact ih k l _ (by simp at h; omega) (by simp at hk; omega)
theorem AeZ (b:List UInt8)(hb:b.length≤900000):L8 b=some (Ku b):=by
 have hl:=Acz b.length b;unfold L8;rw[Ai8 b hb,Aa];have hk:Ku b=((Y8 (pof b.length b) (0,0,toU (b.length:Int))).1,(Y8 (pof b.length b) (0,0,toU (b.length:Int))).2.1):=rfl;rw[hk];clear hk;generalize pof b.length b=l at*;have h:iter (CM l) (l.length+2) (0,0,0,toU (b.length:Int))=some (Y8 l (0,0,toU (b.length:Int))):=by
  match l,hl with
  | [],hl=>
   rw[show([]:List UInt64).length+2=1+1 from rfl,AM (s':=(((2:Nat):Int),(Oa (0,0,toU (b.length:Int))).1,(Oa (0,0,toU (b.length:Int))).2.1,(Oa (0,0,toU (b.length:Int))).2.2))]
   ·exact BR rfl
   ·unfold CM;dsimp only;rw[AkA (by simp),Aky (by simp),Aa,Aky (by rw[BC (by omega) (by omega)]; simp),Aa,Pg,Aa]; rfl
  | [x],hl=>
   rw[show [x].length+2=2+1 from rfl,AM (s':=(((2:Nat):Int),(Oa (DP 0 x,0,toU (b.length:Int))).1,(Oa (DP 0 x,0,toU (b.length:Int))).2.1,(Oa (DP 0 x,0,toU (b.length:Int))).2.2))]
   ·exact BR rfl
   ·have e:idx [x] 0=some x:=rfl;unfold CM;dsimp only;rw[AkA (by simp),AkA (by simp),e,Aa,DX,Aa,Aa,Aky (by rw[BC (by omega) (by omega)]; simp),Aa,Pg,Aa]; rfl
  |x::y::l,hl=>
   rw[AM (s':=(((2:Nat):Int),(Oa (DP 0 x,DP 0 y,toU (b.length:Int))).1,(Oa (DP 0 x,DP 0 y,toU (b.length:Int))).2.1,(Oa (DP 0 x,DP 0 y,toU (b.length:Int))).2.2))]
   ·rw[AeY (x::y::l) (by simp at hl⊢; omega) _ 2 _ (by simp) (by omega) (by omega)];refine Alc some ?_;simp only[List.drop_succ_cons,List.drop_zero,Y8,AkB,H7];exact Acn _ _ _ _ (by omega) (by omega)
   ·have e:idx (x::y::l) 0=some x:=rfl;have e1:idx (x::y::l) (w64 (0+1))=some y:=rfl;unfold CM;dsimp only;rw[AkA (by simp),AkA (by simp; omega),e,Aa,DX,Aa,Aa,AkA (by rw[show w64 (0+1)=1 from rfl]; simp; omega),e1,Aa,DX,Aa,Aa,Pg,Aa]; rfl
 rw[En _ h (by omega),Aa,Aa]
attribute [local irreducible] Ku CE fr1 dB
theorem Aij:U7=some true:=by kernel_rfl
theorem Ajd {s:g_api_Share}(h:OkS s):KQ s=some (sg0 s,0):=by
 unfold KQ;rw[Rc h,Aa,Aky (by decide)];rfl
theorem AfX {ls:List Aj}(hn:ls.length≤1000)(hs: ∀x∈ls,chk x=0): ∃ks e,KU ls=some (ks,e):=by
 unfold KU;rcases Sr (body:=Kg) (xs:=ls) (fun i s=>s.length=i) (fun _=>True) (fun i x s hx hI=>by
  have hi:=(AkR.1 hx).1;have hc:=hs x (AkQ hx);left;unfold Kg;rw[Aaz (Ad5 hc) hc,Aa,Aky (by simp),EJ 24 (by simp; omega) (by simp; omega),Aa];exact⟨_,rfl,by simp[hI]⟩) (s:=[]) rfl with ⟨t,h1,-⟩|⟨r,h1,-⟩
 ·rw[h1]; exact⟨_,_,rfl⟩
 ·rw[h1]; exact⟨r.1,r.2,rfl⟩
theorem Aaq {b:List UInt8}(hb:b.length≤1000){w:Ba}(hn:w.Names.length≤1000): ∃crew sg ls ks t c ok,IQ b w=some (crew,sg,ls,ks,t,c,ok)∧
  (ok=true→(∃s rest,sg=sg0 s::rest∧OkS s)∧t=T0∧Kx c=0∧c.Serial=7∧ls.length≤1000∧∀x∈ls,chk x=0):=by
 obtain⟨c,x,y,z,e1,hx,hy,hz⟩:=AjZ hb;have b7: ∀(i:Int) (s:g_api_Share) (l:List Af),OkS s→l.length≤10→Hy (T0,0) (c,[⟨1,x⟩,⟨2,y⟩,⟨3,z⟩],0) i s l=some (.inl (l++[sg0 s])):=fun i s l hs hl=>by
  unfold Hy;rw[Ajd hs,Aa,Aky (by simp),EJ 96 (by simp; omega) (by simp; omega),Aa]
 have o1:OkS ⟨1,x⟩:=⟨by simp,by simp,hx⟩;have o2:OkS ⟨2,y⟩:=⟨by simp,by simp,hy⟩;have o3:OkS ⟨3,z⟩:=⟨by simp,by simp,hz⟩;have e2:D1 (Hy (T0,0) (c,[⟨1,x⟩,⟨2,y⟩,⟨3,z⟩],0)) [⟨1,x⟩,⟨2,y⟩,⟨3,z⟩] 0 []=some (.inl [sg0 ⟨1,x⟩,sg0 ⟨2,y⟩,sg0 ⟨3,z⟩]):=by
  simp only[D1];rw[b7 _ _ _ o1 (by simp),Aa];dsimp only;rw[b7 _ _ _ o2 (by simp),Aa];dsimp only;rw[b7 _ _ _ o3 (by simp),Aa];rfl
 unfold IQ;rw[comp0,Aa,e1,Aa,Aky (by simp)];dsimp only;rw[e2,Aa];dsimp only;rcases Ss (body:=I2 b (T0,0) (c,[⟨1,x⟩,⟨2,y⟩,⟨3,z⟩],0)) (n:=2) (fun i s=>s.length=i∧∀l∈s,chk l=0) (fun r=>r.2.2.2.2.2.2=false) (fun i s hi hI=>by
  obtain⟨g1,g2⟩:=hI;obtain⟨l,e,h1,h2⟩:=new_eq hb (i:Int);unfold I2;rw[h1,Aa];dsimp only;by_cases he:e=0
  ·left;rw[Aky (by rw[he]; decide),EJ 96 (by simp; omega) (by simp; omega),Aa];refine⟨_,rfl,by simp[g1],fun k hk=> ?_⟩;rcases AkS.1 hk with h|h
   ·exact g2 k h
   ·rw[AlB.1 h]; exact h2 he
  ·right;rw[AkA (by simpa using he)];exact⟨_,rfl,rfl⟩) (s:=[]) ⟨rfl,fun l h=>by cases h⟩with ⟨ls,h1,h2,h3⟩|⟨r,h1,h2⟩
 ·rw[h1,Aa];dsimp only;obtain⟨ks,ke,hk⟩:=AfX (by omega) h3;obtain⟨d,de,hd,hd2⟩:=ZO w (⟨#[103,114,101,97,116,115,101,97,108]⟩:ByteArray) hn;rw[hk,Aa,hd,Aa];dsimp only;by_cases hc:((ke !=0)||(de !=0))=true
  ·rw[AkA hc];exact⟨_,_,_,_,_,_,_,rfl,fun h=>by cases h⟩
  ·rw[Aky hc];have hde:de=0:=by
    have:ke=0∧de=0:=by simpa using hc
    exact this.2
   obtain⟨ls',d',e',hp,hp1,hp2,hp3⟩:=QH (by omega) h3 (hd2 hde).1 100;rw[hp,Aa];refine⟨_,_,_,_,_,_,_,rfl,fun h=>⟨⟨_,_,rfl,o1⟩,rfl,?_,?_,hp1,hp2⟩⟩
   ·exact(hp3 (by simpa using h)).1
   ·exact(hp3 (by simpa using h)).2.trans (hd2 hde).2
 ·rw[h1,Aa];obtain⟨r1,r2,r3,r4,r5,r6,r7⟩:=r;exact⟨_,_,_,_,_,_,_,rfl,fun h=>by rw[h]at h2; cases h2⟩
theorem AjW (w:Ba): ∃q,Jo w=some q∧(q=true→w.Names.length≤20):=by
 unfold Jo;rcases Sr (body:=I3) (xs:=w.Names) (fun _ _=>True) (fun r=>r=false) (fun i x s hx _=>by
  unfold I3;cases decide (w64 (s+(x.size:Int))>1000)with
  |true=>exact .inr ⟨_,rfl,rfl⟩
  |false=>exact .inl ⟨_,rfl,trivial⟩) (s:=0) trivial with ⟨t,h1,-⟩|⟨r,h1,h2⟩
 ·rw[h1];refine⟨_,rfl,fun h=> ?_⟩;have h:((w.Names.length:Int)≤20):=by simpa using h
  omega
 ·rw[h1,h2];exact⟨false,rfl,fun h=>by cases h⟩
theorem AgP (d:Ag): ∃b e,Fe d=some (b,e)∧(e=0→Okc d∧b=CE d):=by
 by_cases h:Kx d=0
 ·exact⟨_,_,ZX (okc h),fun _=>⟨okc h,rfl⟩⟩
 ·exact⟨_,_,Aeb h,fun h'=>absurd h' h⟩
theorem AgX (s:g_api_Share)(d:g_api_Done){b:List UInt8}(hb:b.length≤100000):G0 (sg1 s d) b=some (G3 d.Body (Ku b)):=by
 have h:KR b=some (Ku b):=by
  unfold KR;rw[AeZ b (by omega),Aa]
 have e:D1 (GF b) [d] 0 ()=some (if G3 d.Body (Ku b)=true then .inr true else .inl ()):=by
  have a:GF b 0 d ()=some (if G3 d.Body (Ku b)=true then .inr true else .inl ()):=by
   unfold GF;rw[h,Aa];split<;>rfl
  show Ab (GF b 0 d ()) _=_;rw[a,Aa];cases G3 d.Body (Ku b)<;>rfl
 unfold G0;rw[show(sg1 s d).Done=[d]from rfl,e,Aa];cases G3 d.Body (Ku b)<;>rfl
theorem WR {p q:UInt64×UInt64}:G3 p q=true↔p=q:=by
 obtain⟨a,b⟩:=p;obtain⟨c,d⟩:=q;simp[G3]
theorem Akb {s:g_api_Share}(h:OkS s){c:Ag}(hc:Okc c)(h7:c.Serial=7)(ks:List Ar){e:Int}(hm:CV (CE c) ks T0=some e):
  (e≠0∧∃x y,Bv (sg0 s) 1 (CE c) ks T0=some (x,y,e))∨e=0∧∃y,Bv (sg0 s) 1 (CE c) ks T0=some (sg1 s ⟨1,7,Ku (CE c)⟩,y,0):=by
 by_cases he:e=0
 ·subst he;refine .inr ⟨rfl,?_⟩;have hl:=OI hc;obtain⟨z,hz⟩:=Vm (a:=sg0 s) (n:=1) (by omega) (by omega) rfl hm (KA hc) (by omega) (r:= .ok (sg1 s ⟨1,7,Ku (CE c)⟩)) (by
   have:=Ach s ⟨1,7,Ku (CE c)⟩;rw[show(Qq c).Serial=7 from h7];exact this) (fun x hx=>by cases hx; exact h)
  exact⟨_,WZ (AhV h) rfl hz⟩
 ·exact .inl ⟨he,_,_,WZ (AhV h) rfl (AgF (by omega) (by omega) rfl hm he)⟩
theorem okd {c:Ag}:OkD ⟨1,7,Ku (CE c)⟩:=⟨by simp,by simp,by simp,by simp,(Adm _).1,(Adm _).2⟩
theorem Aka {s:g_api_Share}(h:OkS s){c d:Ag}(hd:Okc d)(h7:d.Serial=7)(ks:List Ar)(hm:CV (CE d) ks T0=some 0):
  ∃x y f,Bv (sg1 s ⟨1,7,Ku (CE c)⟩) 2 (CE d) ks T0=some (x,y,f)∧(f=250∨f=0∧Ku (CE c)=Ku (CE d)):=by
 have hl:=OI hd;have hr:=Afk s (d:=⟨1,7,Ku (CE c)⟩) (k:=⟨2,7,Ku (CE d)⟩) (by simp) rfl;have h7':(Qq d).Serial=7:=h7;cases hq:G3 (Ku (CE d)) (Ku (CE c))with
 |false=>
  rw[hq,Aky (by decide)]at hr;obtain⟨z,hz⟩:=Vm (a:=sg1 s ⟨1,7,Ku (CE c)⟩) (n:=2) (r:= .error (250,0)) (by omega) (by omega) rfl hm (KA hd) (by omega) (by rw[h7']; exact hr) (fun x hx=>by cases hx);exact⟨_,_,_,WZ (ZV h okd) rfl hz,.inl rfl⟩
 |true=>
  rw[hq,AkA rfl]at hr;obtain⟨z,hz⟩:=Vm (a:=sg1 s ⟨1,7,Ku (CE c)⟩) (n:=2) (r:= .ok (sg3 s ⟨1,7,Ku (CE c)⟩ ⟨2,7,Ku (CE d)⟩)) (by omega) (by omega) rfl hm (KA hd) (by omega) (by rw[h7']; exact hr) (fun x hx=>by cases hx; exact h);exact⟨_,_,_,WZ (ZV h okd) rfl hz,.inr ⟨rfl,(WR.1 hq).symm⟩⟩
theorem Aj9 {s:g_api_Share}(h:OkS s){c:Ag}(hc:Okc c)(h7:c.Serial=7)(ks:List Ar)(hm:CV (CE c) ks T0=some 0):
  ∃z:UInt64,Bv (sg1 s ⟨1,7,Ku (CE c)⟩) 1 (CE c) ks T0=some (sg1 s ⟨1,7,Ku (CE c)⟩,⟨s.Id,z⟩,0):=by
 have hl:=OI hc;obtain⟨z,hz⟩:=Vm (a:=sg1 s ⟨1,7,Ku (CE c)⟩) (n:=1) (by omega) (by omega) rfl hm (KA hc) (by omega) (r:= .ok (sg1 s ⟨1,7,Ku (CE c)⟩)) (by
  rw[show(Qq c).Serial=7 from h7];exact Afj s _) (fun x hx=>by cases hx; exact h)
 exact⟨z,WZ (ZV h okd) rfl hz⟩
theorem Aan (a0:List UInt8)(a1:Ba)(a2:UInt64)(a3:Int):Iy a0 a1 a2 a3=some true:=by
 obtain⟨q,hq,hq2⟩:=AjW a1;unfold Iy;rw[Aij,Aa,Aky (by decide)];cases h200:decide ((a0.length:Int)>200)with
 |true=>rfl
 |false=>
  rw[Alr,Te,hq,Aa];by_cases hc:((((false|| !q)||(decide (a3<0)))||(decide (a3>5000)))||((a2.toNat:Int)==(a1.Key.toNat:Int)))=true
  ·rw[AkA hc]
  ·rw[Aky hc];have hqt:q=true:=by cases q with|true=>rfl|false=>exact absurd rfl hc
   have hk:0≤a3:=by
    have:decide (a3<0)=false:=by
     cases h:decide (a3<0)with
     |false=>rfl
     |true=>rw[h]at hc; simp at hc
    simpa using this
   have hb:a0.length≤1000:=by
    have: ¬((a0.length:Int)>200):=by simpa using h200
    omega
   have hn:a1.Names.length≤1000:=by have:=hq2 hqt; omega
   obtain⟨crew,sg,ls,ks,t,c,ok,e1,f1⟩:=Aaq hb hn;obtain⟨d0,de,e2,f2⟩:=ZO ⟨a1.Account,a1.Names,a2,a1.Life⟩ (⟨#[103,114,101,97,116,115,101,97,108]⟩:ByteArray) hn;rw[e1,Aa,e2,Aa];dsimp only;by_cases hg:((!ok)||(de !=0))=true
   ·rw[AkA hg]
   ·rw[Aky hg];have hg':ok=true∧de=0:=by simpa using hg
    obtain⟨⟨s,rest,rfl,hs⟩,rfl,hcv,h7,hl1,hl2⟩:=f1 hg'.1;obtain⟨hdv,hd7⟩:=f2 hg'.2;obtain⟨ls',d,e',e3,-,-,f3⟩:=QH hl1 hl2 hdv 100;obtain⟨bb,be,e5,f5⟩:=AgP d;rw[e3,Aa,ZX (okc hcv),Aa,e5,Aa];dsimp only;by_cases hi:(((e' !=0)||((0:Int) !=0))||(be !=0))=true
    ·rw[AkA hi]
    ·rw[Aky hi];have hi':e'=0∧be=0:=by simpa using hi
     obtain⟨okd',rfl⟩:=f5 hi'.2;have hd7':d.Serial=7:=(f3 hi'.1).2.trans hd7;obtain⟨m1,hm1⟩:=Wq (okc hcv) ks;obtain⟨m2,hm2⟩:=Wq okd' ks;have hx:idx (sg0 s::rest) 0=some (sg0 s):=rfl;rw[hx,Aa];rcases Akb hs (okc hcv) h7 ks hm1 with ⟨hne,x,y,e6⟩|⟨rfl,y,e6⟩
     ·rw[e6,Aa];dsimp only;have n1:(m1 !=0)=true:=by simpa using hne
      have n2:(m1==0)=false:=by simpa using hne
      rw[n1,AkA rfl,Bool.true_or,AkA rfl,n2,Alr,Te,hm1,Aa,Bx,n1];rfl
     ·rw[e6,Aa];dsimp only;rw[Aky (by decide),hm2,Aa];by_cases hj:((m2 !=0)||(eqS (bs (CE c)) (bs (CE d))))=true
      ·rw[AkA hj];rfl
      ·rw[Aky hj];have hm0:m2=0:=by
        by_cases h:m2=0
        ·exact h
        ·exact absurd (by simp[h]) hj
       subst hm0;obtain⟨x2,y2,f,e7,f7⟩:=Aka (c:=c) hs okd' hd7' ks hm2;obtain⟨z,e8⟩:=Aj9 hs (okc hcv) h7 ks hm1;rw[AgC hs okd hk,Aa,Akj hs okd,Aa,e7,Aa,Aa];dsimp only;rw[e8,Aa];dsimp only;have hId:(s.Id==(sg1 s ⟨1,7,Ku (CE c)⟩).Share.Id)=true:=by simp[sg1]
       have hf:(f==f)=true:=by simp
       rcases f7 with rfl|⟨rfl,heq⟩
       ·rw[hId];rfl
       ·rw[hId,show gu ((((0:Int)==0)&&((0:Int)==0))&&(!((0:Int)==250))) (G0 (sg1 s ⟨1,7,Ku (CE c)⟩) (CE d))=G0 (sg1 s ⟨1,7,Ku (CE c)⟩) (CE d)from rfl,AgX _ _ (by have:=OI okd'; omega),WR.2 heq];rfl
end Go.Proofs.YtlahakpgjlmeaaaGreatDoor
end
