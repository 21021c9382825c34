/- Several texts, one behind the other. Conditions: none. -/
import Derived.Test.YtibojdgdjhngiaaGreatDoorZm
import Derived.Test.YtibojdgdjhngiaaGreatDoorZg
import Derived.Test.YtibojdgdjhngiaaGreatDoorZh
import Derived.Test.YtibojdgdjhngiaaGreatDoorZi
import Derived.Test.YtibojdgdjhngiaaGreatDoorZj
import Derived.Test.YtibojdgdjhngiaaGreatDoorZk
import Derived.KernelRfl
set_option linter.unusedSimpArgs false
set_option linter.unusedVariables false
set_option maxHeartbeats 20000000
set_option maxRecDepth 100000
section
namespace Go.Proofs.YtibojdgdjhngiaaGreatDoor
open Go Go.Gw Go.Ax
theorem P1 (c:UInt8):toB (c.toNat:Int)=c:=by
 apply UInt8.toNat_inj.1;have h:=LR (c.toNat:Int);have:=c.toNat_lt;omega
theorem ZE (l:List UInt8)(hl:l.length≤1000000): ∃n long e:Int,AZ l=some (n,long,e)∧(e=0→∃(k:Nat) (r:List UInt8),k<65536∧l=Hg k++r∧n=(k:Int)∧long=((Hg k).length:Int)):=by
 match l with
 | []=>exact⟨0,0,70,rfl,fun h=>by omega⟩
 |b::r=>
  have e0:(((b::r).length:Int)==0)=false:=by simp only[AjX,AjD]; omega
  have hb:=b.toNat_lt;have e1:w64 (b.toNat:Int)=(b.toNat:Int):=Ay (by omega) (by omega);by_cases h1:b.toNat<128
  ·refine⟨(b.toNat:Int),1,0,fst1 b r h1,fun _=>⟨b.toNat,r,by omega,?_,rfl,?_⟩⟩
   ·unfold Hg;rw[AjF h1,P1];rfl
   ·unfold Hg;rw[AjF h1];rfl
  by_cases h2:b.toNat=129
  ·have hbe:b=129:=UInt8.toNat_inj.1 h2;subst hbe;match r with
   | []=>
    refine⟨0,0,70,?_,fun h=>by omega⟩;unfold AZ;have f1:w64 (((129:UInt8).toNat:Int))=129:=Ay (x:=129) (by decide) (by decide);have f2:w64 ((129:Int)-128)=1:=rfl;have f4:decide ((([129]:List UInt8).length:Int)≤1)=true:=by simp
    rw[e0,O0,AjG (by decide),Aa,f1,AjG (by decide),Az,f2,Az,AjG (by decide),Az,f4,AjF rfl]
   |c::r=>
    have hc:=c.toNat_lt;by_cases h3:128≤c.toNat
    ·refine⟨(c.toNat:Int),2,0,fst2 c r h3,fun _=>⟨c.toNat,r,by omega,?_,rfl,?_⟩⟩
     ·unfold Hg;rw[AjG (by omega),AjF (by omega),P1];rfl
     ·unfold Hg;rw[AjG (by omega),AjF (by omega)];rfl
    ·refine⟨0,0,71,?_,fun h=>by omega⟩;unfold AZ;have f1:w64 (((129:UInt8).toNat:Int))=129:=Ay (x:=129) (by decide) (by decide);have f2:w64 ((129:Int)-128)=1:=rfl;have f3:w64 ((1:Int)+1)=2:=rfl;have f4:decide (((129::c::r).length:Int)≤1)=false:=by simp only[decide_eq_false_iff_not,AjD]; omega
     have f5:cut (129::c::r) 1 2=some [c]:=O8 129 [c] r;have f6:PT (HZ 0 8) (w64 (c.toNat:Int))=(c.toNat:Int):=by
      rw[Ay (x:=(c.toNat:Int)) (by omega) (by omega),J7 0 _ (by omega) (by omega),Int.zero_mul,Int.zero_add,Ay (by omega) (by omega)]
     have f7:Db Dl [c] 0 0=some (c.toNat:Int):=by
      show some (PT (HZ 0 8) (w64 (c.toNat:Int)))=_;rw[f6]
     have f8:decide ((c.toNat:Int)<128)=true:=by simp only[AjI]; omega
     rw[e0,O0,AjG (by decide),Aa,f1,AjG (by decide),Az,f2,Az,AjG (by decide),Az,f4,AjG (by decide),f3,f5,Aa,f7,Aa,Aa,f8,AjF (by simp)]
  by_cases h3:b.toNat=130
  ·have hbe:b=130:=UInt8.toNat_inj.1 h3;subst hbe;have f1:w64 (((130:UInt8).toNat:Int))=130:=Ay (x:=130) (by decide) (by decide);have f2:w64 ((130:Int)-128)=2:=rfl;have f3:w64 ((2:Int)+1)=3:=rfl;match r with
   | []=>
    refine⟨0,0,70,?_,fun h=>by omega⟩;unfold AZ;have f4:decide ((([130]:List UInt8).length:Int)≤2)=true:=by simp
    rw[e0,O0,AjG (by decide),Aa,f1,AjG (by decide),Az,f2,Az,AjG (by decide),Az,f4,AjF rfl]
   | [c]=>
    refine⟨0,0,70,?_,fun h=>by omega⟩;unfold AZ;have f4:decide (((130::[c]:List UInt8).length:Int)≤2)=true:=by simp
    rw[e0,O0,AjG (by decide),Aa,f1,AjG (by decide),Az,f2,Az,AjG (by decide),Az,f4,AjF rfl]
   |c::d::r=>
    have hc:=c.toNat_lt;have hd:=d.toNat_lt;by_cases h4:1≤c.toNat
    ·refine⟨(c.toNat:Int)*256+(d.toNat:Int),3,0,fst3 c d r h4,fun _=>⟨c.toNat*256+d.toNat,r,by omega,?_,by omega,?_⟩⟩
     ·unfold Hg;rw[AjG (by omega),AjG (by omega),QS];have q1:(((c.toNat*256+d.toNat:Nat):Int)/256)=(c.toNat:Int):=by omega
      have q2:toB ((c.toNat*256+d.toNat:Nat):Int)=d:=by
       apply UInt8.toNat_inj.1;have:=LR ((c.toNat*256+d.toNat:Nat):Int);omega
      rw[q1,P1,q2];rfl
     ·unfold Hg;rw[AjG (by omega),AjG (by omega)];rfl
    ·refine⟨0,0,71,?_,fun h=>by omega⟩;unfold AZ;have f4:decide (((130::c::d::r).length:Int)≤2)=false:=by simp only[decide_eq_false_iff_not,AjD]; omega
     have f5:cut (130::c::d::r) 1 3=some [c,d]:=O8 130 [c,d] r;have f6:PT (HZ 0 8) (w64 (c.toNat:Int))=(c.toNat:Int):=by
      rw[Ay (x:=(c.toNat:Int)) (by omega) (by omega),J7 0 _ (by omega) (by omega),Int.zero_mul,Int.zero_add,Ay (by omega) (by omega)]
     have f6':PT (HZ (c.toNat:Int) 8) (w64 (d.toNat:Int))=(c.toNat:Int)*256+(d.toNat:Int):=by
      rw[Ay (x:=(d.toNat:Int)) (by omega) (by omega),J7 _ _ (by omega) (by omega),Ay (by omega) (by omega)]
     have f7:Db Dl [c,d] 0 0=some ((c.toNat:Int)*256+(d.toNat:Int)):=by
      show some (PT (HZ (PT (HZ 0 8) (w64 (c.toNat:Int))) 8) (w64 (d.toNat:Int)))=_;rw[f6,f6']
     have f9:decide ((c.toNat:Int)*256+(d.toNat:Int)<256)=true:=by simp only[AjI]; omega
     rw[e0,O0,AjG (by decide),Aa,f1,AjG (by decide),Az,f2,Az,AjG (by decide),Az,f4,AjG (by decide),f3,f5,Aa,f7,Aa,Aa,f9,AjF (by simp)]
  ·refine⟨0,0,71,?_,fun h=>by omega⟩;unfold AZ;have f1:decide ((b.toNat:Int)<128)=false:=by simp only[decide_eq_false_iff_not]; omega
   have f2:(((b.toNat:Int) !=129)&&((b.toNat:Int) !=130))=true:=by
    rw[AjE,bne_iff_ne,bne_iff_ne]; omega
   rw[e0,O0,AjG (by decide),Aa,e1,f1,AjG (by decide),Az,Az,f2,AjF rfl]
def GotI (D:Nat)(b:List UInt8)(q:g_api_Item×List UInt8×Int):Prop:=q.2.2=0→mayB D q.1=true∧b=putB D q.1++q.2.1
theorem P8 (rF:List UInt8→Int→Option (g_api_Item×List UInt8×Int))(D:Nat)(hD:D≤100)(r0:List UInt8)(hF: ∀b:List UInt8,b.length≤1000000→∃q,rF b (D:Int)=some q∧GotI D b q):
  ∀(m:Nat) (inb:List UInt8) (acc:List g_api_Item) (n:Nat),inb.length≤m→m<n→m≤1000000→acc.length+m≤1000000→
   ∃t,iter (Ch rF ((D+1:Nat):Int)) n (r0,inb,acc)=some t∧(t= .inr ((⟨0,[],[]⟩:g_api_Item),([]:List UInt8),71)∨∃l,t= .inl (r0,acc++l)∧(∀y∈l,mayB D y=true)∧l.flatMap (putB D)=inb)
 |m,inb,acc,0,_,h,_,_=>by omega
 |m,[],acc,n+1,_,_,_,_=>by
  refine⟨.inl (r0,acc),?_,.inr ⟨[],by simp,fun y hy=>(by cases hy),rfl⟩⟩;have e:Ch rF ((D+1:Nat):Int) (r0,[],acc)=some (.inr (.inl (r0,acc))):=rfl;show Ab (Ch rF ((D+1:Nat):Int) (r0,[],acc)) _=_;rw[e]; rfl
 |m,c::inb,acc,n+1,hm,hn,h1,h2=>by
  have hw:w64 (((D+1:Nat):Int)-1)=(D:Int):=by rw[Ay (by omega) (by omega)]; omega
  obtain⟨⟨y,r,e⟩,hq,hg⟩:=hF (c::inb) (by omega);have e0:decide (((c::inb).length:Int)>0)=true:=by rw[AjI,AjD]; omega
  by_cases he:e=0
  ·subst he;obtain⟨g1,g2⟩:=hg rfl;have g1:mayB D y=true:=g1;have g2:c::inb=putB D y++r:=g2;have hp:=XO g1;have hlen:(c::inb).length=(putB D y).length+r.length:=by rw[g2,AjJ]
   rw[AjD]at hm hlen;obtain⟨t,ht,hc⟩:=P8 rF D hD r0 hF (m-1) r (acc++[y]) n (by omega) (by omega) (by omega) (by rw[AjJ]; show acc.length+1+_≤_; omega);refine⟨t,?_,?_⟩
   ·have es:Ch rF ((D+1:Nat):Int) (r0,c::inb,acc)=some (.inl (r0,r,acc++[y])):=by
     unfold Ch;show(if decide (((c::inb).length:Int)>0)=true then _ else _)=_;rw[e0,AjF rfl,hw];show Ab (rF (c::inb) (D:Int)) _=_;rw[hq,Aa,AjG (by simp)];show Ab (app 56 acc [y]) _=_;rw[Hi 56 (by show(acc.length+1)*56≤_; omega) (by show acc.length+1≤_; omega)];rfl
    show Ab (Ch rF ((D+1:Nat):Int) (r0,c::inb,acc)) _=_;rw[es];exact ht
   ·rcases hc with hc|⟨l,c1,c2,c3⟩
    ·exact .inl hc
    ·refine .inr ⟨y::l,?_,?_,?_⟩
     ·rw[c1,AjP]; rfl
     ·intro z hz;rcases Aj5.1 hz with q|q
      ·rw[q]; exact g1
      ·exact c2 z q
     ·rw[Akz,c3,g2]
  ·refine⟨.inr ((⟨0,[],[]⟩:g_api_Item),([]:List UInt8),71),?_,.inl rfl⟩;have es:Ch rF ((D+1:Nat):Int) (r0,c::inb,acc)=some (.inr (.inr ((⟨0,[],[]⟩:g_api_Item),([]:List UInt8),71))):=by
    unfold Ch;show(if decide (((c::inb).length:Int)>0)=true then _ else _)=_;rw[e0,AjF rfl,hw];show Ab (rF (c::inb) (D:Int)) _=_;rw[hq,Aa,AjF (by simpa using he)]
   show Ab (Ch rF ((D+1:Nat):Int) (r0,c::inb,acc)) _=_;rw[es]; rfl
theorem Yw {α:Type}(l:List α)(k:Nat)(h:k≤l.length):cut l 0 (k:Int)=some (l.take k)∧cut l (k:Int) (l.length:Int)=some (l.drop k):=by
 have e:=List.take_append_drop k l;have h1:=Yu (l.take k) (l.drop k);have h2:=Yv (l.take k) (l.drop k);rw[e]at h1 h2;rw[show(l.take k).length=k from by rw[Aj9]; omega]at h1 h2;exact⟨h1,h2⟩
theorem Adn (D:Nat): ∀(n:Nat) (b:List UInt8),D≤100→D<n→b.length≤1000000→∃q,Dj n b (D:Int)=some q∧GotI D b q:=by
 induction D with
 |zero=>
  intro n b _ hn hb;obtain⟨n,rfl⟩: ∃k,n=k+1:=⟨n-1,by omega⟩;show∃q,E3 (Dj n) b 0=some q∧_;unfold E3;cases b with
  |nil=>exact⟨_,rfl,fun h=>by cases h⟩
  |cons c b=>
   have e0:(((c::b).length:Int)==0)=false:=by simp only[AjX,AjD]; omega
   rw[e0,AjG (by decide),O0,Aa];cases hk:Ih (w64 (c.toNat:Int))with
   |false=>
    rw[(Gr hk).1,Aa,AjF (by simp)];exact⟨_,rfl,fun h=>by cases h⟩
   |true=>
    obtain⟨k,e,_,_⟩:=KI hk;rw[e,Aa,AjF (by simp)];exact⟨_,rfl,fun h=>by cases h⟩
 |succ D IH=>
  intro n b hD hn hb;obtain⟨n,rfl⟩: ∃k,n=k+1:=⟨n-1,by omega⟩;have hF: ∀b:List UInt8,b.length≤1000000→∃q,Dj n b (D:Int)=some q∧GotI D b q:=fun b h=>IH n b (by omega) (by omega) h;show∃q,E3 (Dj n) b ((D+1:Nat):Int)=some q∧_;unfold E3;cases b with
  |nil=>exact⟨_,rfl,fun h=>by cases h⟩
  |cons c b=>
   have e0:(((c::b).length:Int)==0)=false:=by simp only[AjX,AjD]; omega
   have hc:=c.toNat_lt;have ew:w64 (c.toNat:Int)=(c.toNat:Int):=Ay (by omega) (by omega);have eD:decide (((D+1:Nat):Int)<1)=false:=by rw[decide_eq_false_iff_not]; omega
   rw[e0,AjG (by decide),O0,Aa,ew,eD];cases hk:Ih (c.toNat:Int)with
   |false=>
    rw[(Gr hk).1,Aa,AjF (by simp)];exact⟨_,rfl,fun h=>by cases h⟩
   |true=>
    obtain⟨k,e,ht,hm⟩:=KI hk;rw[e,Aa,AjG (by simp),Ot,Aa];rw[AjD]at hb;obtain⟨ln,long,le,hl,hl0⟩:=ZE b (by omega);rw[hl,Aa];by_cases hle:le=0;rotate_left
    ·rw[AjF (by simpa using hle)];exact⟨_,rfl,fun h=>absurd h hle⟩
    subst hle;rw[AjG (by simp)];obtain⟨z,r,hz,hb2,rfl,rfl⟩:=hl0 rfl;have hll:=Oh z;have hbl:b.length=(Hg z).length+r.length:=by rw[hb2,AjJ]
    have e4:w64 (w64 (1+((Hg z).length:Int))+(z:Int))=1+((Hg z).length:Int)+(z:Int):=by
     rw[Ay (x:=1+((Hg z).length:Int)) (by omega) (by omega),Ay (by omega) (by omega)]
    show∃q,(if decide (w64 (w64 (1+((Hg z).length:Int))+(z:Int))>8192)=true then _ else _)=some q∧_;rw[e4];by_cases h8:1+((Hg z).length:Int)+(z:Int)>8192
    ·rw[AjN h8,AjF rfl];exact⟨_,rfl,fun h=>by cases h⟩
    rw[AjM h8,AjG (by decide)];have e6:cut (c::b) (w64 (1+((Hg z).length:Int))) ((c::b).length:Int)=some r:=by
     have:=Yv (c::Hg z) r;rw[Ay (x:=1+((Hg z).length:Int)) (by omega) (by omega)];rw[show((c::Hg z).length:Int)=1+((Hg z).length:Int)from by rw[AjD]; omega]at this;rw[hb2];exact this
    show∃q,Ab (cut (c::b) (w64 (1+((Hg z).length:Int))) ((c::b).length:Int)) _=some q∧_;rw[e6,Aa];by_cases hzr:z≤r.length;rotate_left
    ·rw[AjF (by rw[AjI]; show(z:Int)>_; omega)];exact⟨_,rfl,fun h=>by cases h⟩
    rw[AjG (by rw[AjI]; show¬(z:Int)>_; omega)];obtain⟨k1,k2⟩:=Yw r z hzr;show∃q,Ab (cut r 0 (z:Int)) _=some q∧_;rw[k1,Aa];show∃q,Ab (cut r (z:Int) (r.length:Int)) _=some q∧_;rw[k2,Aa];have htl:(r.take z).length=z:=by rw[Aj9]; omega
    have hback:toB k.tag_=c:=by rw[ht]; exact P1 c
    show∃q,(if(k.tag_ !=48)=true then _ else _)=some q∧_;by_cases h48:k.tag_=48
    ·rw[AjG (by simp[h48])];obtain⟨t,ht1,ht2⟩:=P8 (Dj n) D (by omega) (r.drop z) hF z (r.take z) [] Bl (by omega) (by have:=AX; omega) (by omega) (by simp only[AjW]; omega);rw[ht1,Aa];rcases ht2 with q|⟨l,q1,q2,q3⟩
     ·subst q;exact⟨_,rfl,fun h=>by cases h⟩
     ·subst q1;refine⟨_,rfl,fun _=>⟨?_,?_⟩⟩
      ·show mayB (D+1) ⟨k.tag_,[],[]++l⟩=true;rw[h48];unfold mayB;simp only[AjE,Aj7];exact⟨⟨rfl,rfl⟩,q2⟩
      ·show c::b=(toB k.tag_::(Hg ([]++([]++l).flatMap (putB D)).length++([]++([]++l).flatMap (putB D))))++r.drop z;rw[Akr,Akr,q3,htl,hback,hb2,List.cons_append,AjP,List.take_append_drop]
    ·rw[AjF (by simpa using h48),hm,Aa];cases hkb:PV (c.toNat:Int) (r.take z)with
     |false=>
      rw[AjF (by simp)];exact⟨_,rfl,fun h=>by cases h⟩
     |true=>
      rw[AjG (by simp),P9 (by omega),Aa];refine⟨_,rfl,fun _=>⟨?_,?_⟩⟩
      ·show mayB (D+1) ⟨k.tag_,r.take z,[]⟩=true;unfold mayB;simp only[AjE,Aj7];refine⟨⟨?_,by simp⟩,fun y hy=>(by cases hy)⟩;show PV k.tag_ (r.take z)=true;rw[ht]; exact hkb
      ·show c::b=(toB k.tag_::(Hg (r.take z++([]:List g_api_Item).flatMap (putB D)).length++(r.take z++([]:List g_api_Item).flatMap (putB D))))++r.drop z;rw[List.flatMap_nil,Akk,htl,hback,hb2,List.cons_append,AjP,List.take_append_drop]
end Go.Proofs.YtibojdgdjhngiaaGreatDoor
end
section
namespace Go.Proofs.YtibojdgdjhngiaaGreatDoor
open Go Go.Gw Go.Ax
theorem Sq {d:Nat}{x:g_api_Item}(h:mayB (d+1) x=true)(hl:(putB (d+1) x).length≤100000):x.L.length≤100000∧∀y∈x.L,mayB d y=true∧(putB d y).length≤100000:=by
 have hp: ∀y∈x.L,1≤(putB d y).length:=fun y hy=>XO (AgQ h hy);have h1:=ZM (putB d) x.L hp;have e:(putB (d+1) x).length=1+(Hg (x.B++x.L.flatMap (putB d)).length).length+(x.B.length+(x.L.flatMap (putB d)).length):=by
  show(toB x.Tag::(Hg (x.B++x.L.flatMap (putB d)).length++(x.B++x.L.flatMap (putB d)))).length=_;have q:(x.B++x.L.flatMap (putB d)).length=x.B.length+(x.L.flatMap (putB d)).length:=AjJ;rw[AjD,AjJ,q];omega
 refine⟨by omega,fun y hy=>⟨AgQ h hy,?_⟩⟩;have:=ZN (putB d) hy;omega
theorem Adz {x:g_api_Item}(h:mayB 8 x=true)(hl:(putB 8 x).length≤100000):x.L.length≤100000∧few3D x.L:=by
 obtain⟨a1,a2⟩:=Sq h hl;refine⟨a1,fun y hy=>(Sq (a2 y hy).1 (a2 y hy).2).1,fun y hy=> ?_⟩;obtain⟨b1,b2⟩:=Sq (a2 y hy).1 (a2 y hy).2;refine⟨fun z hz=>(Sq (b2 z hz).1 (b2 z hz).2).1,fun z hz=> ?_⟩;obtain⟨c1,c2⟩:=Sq (b2 z hz).1 (b2 z hz).2;exact fun u hu=>(Sq (c2 u hu).1 (c2 u hu).2).1
def zc:g_api_Cert:=⟨0,ByteArray.empty,ByteArray.empty,0,[],0,0,false,0,[],[],⟨0,0⟩⟩
theorem Aef {b:List UInt8}(hb:b.length≤3000): ∃(x:g_api_Item) (n e:Int),H9 b 0=some (x,n,e)∧(e=0→mayB 8 x=true∧(putB 8 x).length≤3000∧(n=(b.length:Int)→b=putB 8 x)):=by
 obtain⟨⟨x,r,e⟩,h1,h2⟩:=Adn 8 Bl b (by decide) (by have:=AX; omega) (by omega);have h1:Oe b 8=some (x,r,e):=h1;unfold H9;have e0:(decide ((0:Int)<0)||decide ((0:Int)>(b.length:Int)))=false:=by
  have: ¬(0:Int)>(b.length:Int):=by omega
  rw[AjM this]; rfl
 have e1:cut b 0 (b.length:Int)=some b:=by
  have:=Yu b [];rw[Akk]at this;exact this
 rw[e0,AjG (by decide),e1,Aa,h1,Aa];by_cases he:e=0
 ·subst he;obtain⟨g1,g2⟩:=h2 rfl;have g1:mayB 8 x=true:=g1;have g2:b=putB 8 x++r:=g2;have hl:b.length=(putB 8 x).length+r.length:=by rw[g2,AjJ]
  rw[AjG (by simp),Az];refine⟨x,w64 ((b.length:Int)-(r.length:Int)),0,rfl,fun _=>⟨g1,by omega,fun hn=> ?_⟩⟩;rw[Ay (by omega) (by omega)]at hn;have:r=[]:=List.eq_nil_of_length_eq_zero (by omega);rw[g2,this,Akk]
 ·rw[AjF (by simpa using he)];exact⟨_,_,e,rfl,fun h=>absurd h he⟩
theorem AgY {x:g_api_Item}(hm:mayB 8 x=true)(hl:x.L.length≤100000):Jy x=some (if x.Tag=48 then some ⟨x.L⟩else none):=by
 unfold Jy;rw[ME hl];by_cases h:x.Tag=48
 ·rw[AjF h,AjF h,AjF hm]; rfl
 ·rw[AjG h,AjG h]; rfl
theorem Ae9 (v:Bool):A6 v=some (if v=true then some ()else none):=by cases v<;>rfl
theorem okc_of {c:g_api_Cert}(h:(checkV c==0)=true):Okc c:=okc (by simpa using h)
theorem gotP {b:List UInt8}(hb:b.length≤3000): ∃c e,DF b=some (c,e)∧(e=0→Okc c∧preBy c=b∧Ajx c=c)∧(e≠0→c=zc):=by
 obtain⟨x,n,e,h1,h2⟩:=Aef hb;unfold DF FV DV;rw[h1,Aa];by_cases he:e=0;rotate_left
 ·rw[AjF (by simpa using he)];exact⟨zc,e,rfl,fun h=>absurd h he,fun _=>rfl⟩
 subst he;obtain⟨g1,g2,g3⟩:=h2 rfl;obtain⟨f1,f2⟩:=Adz g1 (by omega);rw[AjG (by simp),Ae9];by_cases hn:n=(b.length:Int);rotate_left
 ·have:((x,n,(0:Int)).2.1==(b.length:Int))=false:=by rw[AjX]; exact hn
  rw[this];exact⟨zc,71,rfl,fun h=>by omega,fun _=>rfl⟩
 have hbx:=g3 hn;have:((x,n,(0:Int)).2.1==(b.length:Int))=true:=by rw[Akg]; exact hn
 rw[this,AjF rfl,Aa];show∃c e,Ab (Ab (Ab (Jy x) _) _) _=some (c,e)∧_;rw[AgY g1 f1];by_cases ht:x.Tag=48;rotate_left
 ·rw[AjG ht];exact⟨zc,71,rfl,fun h=>by omega,fun _=>rfl⟩
 rw[AjF ht,Aa];show∃c e,Ab (Ab (Ab (CK ⟨x.L⟩) _) _) _=some (c,e)∧_;rw[AcB f2.1];cases hw:Zj x.L with
 |none=>exact⟨zc,71,rfl,fun h=>by omega,fun _=>rfl⟩
 |some q=>
  obtain⟨c,r⟩:=q;obtain⟨w1,w2⟩:=Zi hw;have wp:(⟨c.Serial,c.Issuer,c.Subject,c.Key,c.Names,c.From,c.Until,c.Ca,c.Depth,c.Permit,[],c.Sig⟩:g_api_Cert)=c:=by rw[←w2]; rfl
  rw[Il,Aa];show∃c' e,Ab (Ab (Ab (E5 (⟨c.Serial,c.Issuer,c.Subject,c.Key,c.Names,c.From,c.Until,c.Ca,c.Depth,c.Permit,[],c.Sig⟩:g_api_Cert)) _) _) _=some (c',e)∧_;dsimp only;rw[wp,W0,Aa,Ae9];cases hc:checkV c==0 with
  |false=>exact⟨zc,71,rfl,fun h=>by omega,fun _=>rfl⟩
  |true=>
   refine⟨c,0,rfl,fun _=>⟨okc_of hc,?_,w2⟩,fun h=>absurd rfl h⟩;rw[hbx,AbR ht g1,w1];rfl
end Go.Proofs.YtibojdgdjhngiaaGreatDoor
end
section
namespace Go.Proofs.YtibojdgdjhngiaaGreatDoor
open Go Go.Gw Go.Ax
theorem V3 (t:Int): ∀{xs:List Int},xs.Pairwise (· < ·)→∃p:Nat,p≤xs.length∧(∀(k:Nat) (x:Int),xs[k]? =some x→k<p→x<t)∧(∀(k:Nat) (x:Int),xs[k]? =some x→p≤k→t≤x)∧decide (xs[p]? =some t)=decide (t∈xs)
 | [],_=>⟨0,AjQ _,fun k x h=>by simp at h,fun k x h=>by simp at h,by simp⟩
 |y::r,h=>by
  obtain⟨h1,h2⟩:=List.pairwise_cons.1 h;by_cases hy:y<t
  ·obtain⟨p,a,b,c,d⟩:=V3 t h2;refine⟨p+1,by simp; omega,fun k x hk hp=> ?_,fun k x hk hp=> ?_,?_⟩
   ·cases k with
    |zero=>cases hk; exact hy
    |succ k=>exact b k x hk (by omega)
   ·cases k with
    |zero=>omega
    |succ k=>exact c k x hk (by omega)
   ·rw[List.getElem?_cons_succ,d];have:t≠y:=by omega
    simp[this]
  ·refine⟨0,AkA _,fun k x hk hp=>by omega,fun k x hk hp=> ?_,?_⟩
   ·cases k with
    |zero=>cases hk; omega
    |succ k=>
     have:=h1 x (Aj2 hk);omega
   ·by_cases e:t=y
    ·subst e; simp
    ·have:t∉r:=fun hm=>by have:=h1 t hm; omega
     have e':y≠t:=fun q=>e q.symm;simp[e,e',this]
theorem Aaq {l:Ah}(h:okH l.Hide (-1) (l.L.length:Int)=true)(hn:l.Hide.length≤100000)(t:Int): ∃p:Int,A8 l.Hide t=some (p,decide (t∈l.Hide)):=by
 obtain⟨p,a,b,c,d⟩:=V3 t (Aiq h).2;exact⟨p,by rw[AbU hn p a b c,d]⟩
theorem AbL: ∀{xs:List Int} {a n:Int},okH xs a n=true→(xs.length:Int)≤max 0 (n-a-1)
 | [],a,n,_=>by simp; omega
 |x::r,a,n,h=>by
  obtain⟨h1,h2,h3⟩:=Zp.1 h;have:=AbL h3;rw[AjD];omega
theorem Afv {l:Ah}(h:chk l=0):l.Hide.length≤256:=by
 obtain⟨h0,h1,h2,h3⟩:=IS h;have:=AbL h2;rw[AjJ]at h3;omega
def gpV (b:List UInt8):g_api_Cert:=((DF b).getD (zc,0)).1
theorem AiY {b:List UInt8}(h:b.length≤3000): ∃e,DF b=some (gpV b,e)∧(e=0→Okc (gpV b)∧preBy (gpV b)=b∧Ajx (gpV b)=gpV b)∧(e≠0→gpV b=zc):=by
 obtain⟨c,e,h1,h2,h3⟩:=gotP h;have:gpV b=c:=by unfold gpV; rw[h1]; rfl
 rw[this];exact⟨e,h1,h2,h3⟩
def Lo (v:Bool)(hide:List Int)(i:Nat)(b:List UInt8):List UInt8:=if(decide ((i:Int)∈hide)&&v)=true then 0::b else b
def crt (v:Bool)(hide:List Int):List g_api_Leaf→Nat→List g_api_Cert
 | [],_=> []
 |w::r,i=>gpV (Lo v hide i w.Body)::crt v hide r (i+1)
theorem AdN (v:Bool)(hide:List Int): ∀(l:List g_api_Leaf) (i:Nat),(crt v hide l i).length=l.length
 | [],_=>rfl
 |w::r,i=>by unfold crt; simp[AdN v hide r]
theorem AdO (v:Bool)(hide:List Int): ∀(l:List g_api_Leaf) (i k:Nat) (w:g_api_Leaf),l[k]? =some w→(crt v hide l i)[k]? =some (gpV (Lo v hide (i+k) w.Body))
 | [],i,k,w,h=>by simp at h
 |x::r,i,k,w,h=>by
  unfold crt;cases k with
  |zero=>cases h; rfl
  |succ k=>
   rw[List.getElem?_cons_succ,AdO v hide r (i+1) k w h,Nat.add_right_comm,AkO]
theorem RA {v:Bool}{hide:List Int}{i:Nat}{b:List UInt8}(h:b.length≤2048):(Lo v hide i b).length≤3000:=by
 unfold Lo; split
 ·simp; omega
 ·omega
theorem AaY {l:Ah}{v:Bool}{a:Int}(hv:(a==1)=v)(hc:chk l=0){i:Nat}{w:g_api_Leaf}(hx:l.L[i]? =some w){out:List g_api_Cert}(ho:out.length≤1000000):
  DD l a (i:Int) out=some (out++[gpV (Lo v l.Hide i w.Body)]):=by
 obtain⟨h0,h1,h2,h3⟩:=IS hc;have hb:w.Body.length≤2048:=N3 h1 w (List.mem_append_left _ (Aj2 hx));obtain⟨p,hp⟩:=Aaq h2 (by have:=Afv hc; omega) (i:Int);have hbd:(Lo v l.Hide i w.Body).length≤3000:=RA hb;obtain⟨e,he,-,-⟩:=AiY hbd;unfold DD;rw[Gi hx,Aa,hp,Aa];dsimp only;rw[hv];have hin:(if(decide ((i:Int)∈l.Hide)&&v)=true then Ab (AL [[0],w.Body]) fun x8=>some x8 else some w.Body)=some (Lo v l.Hide i w.Body):=by
  unfold Lo;split
  ·rw[O9 (by simp; omega),Aa]; simp
  ·rfl
 rw[hin,Aa,he,Aa,app1 ho (by decide) (by decide),Aa]
theorem Z0 {l:Ah}{v:Bool}{a:Int}(hv:(a==1)=v)(hc:chk l=0)(hl:l.L.length≤1000): ∀(k i:Nat) (out:List g_api_Cert),i+k=l.L.length→out.length≤i→
  B3 (DD l a) k (i:Int) out=some (out++crt v l.Hide (l.L.drop i) i)
 |0,i,out,h,ho=>by
  rw[List.drop_of_length_le (by omega)];simp[B3,crt]
 |k+1,i,out,h,ho=>by
  have hi:i<l.L.length:=by omega
  have hx:l.L[i]? =some l.L[i]:=Aks hi;show Ab (DD l a (i:Int) out) _=_;rw[AaY hv hc hx (by omega),Yq hx];unfold crt;have:=Z0 hv hc hl k (i+1) (out++[gpV (Lo v l.Hide i l.L[i].Body)]) (by omega) (by simp; omega);rw[AjP]at this;exact this
theorem Af3 {l:Ah}(hl:l.L.length+l.Wait.length≤100000)(hc:chk l=0)(v:Bool):Dk l (if v=true then 1 else 0)=some (crt v l.Hide l.L 0,0):=by
 obtain⟨h0,h1,h2,h3⟩:=IS hc;have h256:l.L.length≤256:=by rw[AjJ]at h3; omega
 have hv:((if v=true then(1:Int)else 0)==1)=v:=by cases v<;>rfl
 have:=Z0 hv hc (by omega) l.L.length 0 [] (by omega) (AjQ _);rw[show((0:Nat):Int)=0 from rfl]at this;unfold Dk;rw[SX hl hc v,Aa];dsimp only;rw[AjG (by decide),this,Aa,Aa,List.drop_zero,Akr]
end Go.Proofs.YtibojdgdjhngiaaGreatDoor
end
section
namespace Go.Proofs.YtibojdgdjhngiaaGreatDoor
open Go Go.Gw Go.Ax
theorem Ag4 {s:ByteArray}{i:Nat}{b:UInt8}(h:s.data.toList[i]? =some b):s.get! i=b:=by
 have h2:s.data[i]? =some b:=by rw[←Array.getElem?_toList]; exact h
 show s.data[i]! =b;rw[getElem!_def,h2]
theorem Ahf {s:ByteArray}{i:Nat}{b:UInt8}(h:s.data.toList[i]? =some b)(hb:b.toNat<128):Utf8.decode s i=(b.toNat,1):=by
 unfold Utf8.decode;simp only[AkR,Ag4 h];rw[AjF hb]
theorem Ahg {s:ByteArray}{i:Nat}{b:UInt8}(h:s.data.toList[i]? =some b)(hb: ¬b.toNat<128):128≤(Utf8.decode s i).1:=by
 unfold Utf8.decode;simp only[AkR,Ag4 h];rw[AjG hb];have he:Utf8.runeError=65533:=rfl;split
 ·split
  ·assumption
  ·simp[he]
 ·split
  ·split
   ·rename_i h1;simp only[AjE,AjI]at h1;show 128≤_;omega
   ·simp[he]
  ·split
   ·split
    ·rename_i h1;simp only[AjE,AjI]at h1;show 128≤_;omega
    ·simp[he]
   ·simp[he]
def DR (c:UInt8):Bool:=(decide (97≤c.toNat)&&decide (c.toNat≤122))||(decide (48≤c.toNat)&&decide (c.toNat≤57))
def PW (c:UInt8):Bool:=c.toNat==45||DR c
def Sc:List UInt8→Bool
 | []=>true
 | [c]=>DR c
 |c::d::r=>PW c&&Sc (d::r)
def Oj:List UInt8→Bool
 | []=>false
 | [c]=>DR c
 |c::d::r=>(DR c||c.toNat==95)&&Sc (d::r)&&decide ((c::d::r).length≤16)
theorem WR (n:Nat)(c:UInt8)(h:n=c.toNat):Dd (n:Int)=some (DR c):=by
 subst h;unfold Dd DR;rw[Az];congr 1;have e: ∀k:Nat,decide ((k:Int)≤(c.toNat:Int))=decide (k≤c.toNat):=fun k=>by rw[Akc]; omega
 have e2: ∀k:Nat,decide ((c.toNat:Int)≤(k:Int))=decide (c.toNat≤k):=fun k=>by rw[Akc]; omega
 rw[←e 97,←e2 122,←e 48,←e2 57];rfl
theorem AdC (n:Nat)(h:128≤n):Dd (n:Int)=some false:=by
 unfold Dd;rw[Az,AjM (show¬(n:Int)≤122 from by omega),AjM (show¬(n:Int)≤57 from by omega),Ake,Ake];rfl
theorem AaP (n:Nat)(c:UInt8)(h:n=c.toNat):C9 (n:Int)=some (PW c):=by
 unfold C9 PW;rw[WR n c h,U1,Aa];subst h;have e:((c.toNat:Int)==45)=(c.toNat==45):=by rw[Akn,Akg,Akg]; omega
 rw[e];cases c.toNat==45<;>simp
theorem Afr (n:Nat)(h:128≤n):C9 (n:Int)=some false:=by
 unfold C9;rw[AdC n h,U1,Aa];have e:((n:Int)==45)=false:=by rw[AjX]; omega
 rw[e]; rfl
theorem AiX (c:UInt8)(h: ¬c.toNat<128):DR c=false∧PW c=false∧(c.toNat==95)=false:=by
 have e1:DR c=false:=by
  unfold DR;rw[AjM (show¬c.toNat≤122 from by omega),AjM (show¬c.toNat≤57 from by omega),Ake,Ake]; rfl
 have e2:(c.toNat==45)=false:=by rw[AjX]; omega
 refine⟨e1,?_,by rw[AjX]; omega⟩;unfold PW;rw[e1,e2]; rfl
theorem SZ {s:ByteArray}{i:Nat}{c:UInt8}(hs:s.size≤16)(h:s.data.toList[i]? =some c):
  A9 s i=some (if(if i+1=s.size then DR c else if i=0 then DR c||c.toNat==95 else PW c)=true then .inl (i+1)else .inr (.inr false)):=by
 have hi:i<s.size:=by
  have:=(AjR.1 h).1;rw[AO]at this;exact this
 have hw:w64 ((s.size:Int)-1)=(s.size:Int)-1:=Ay (by omega) (by omega);unfold A9;rw[AjF hi,Az,hw];by_cases hb:c.toNat<128
 ·rw[Ahf h hb,WR c.toNat c rfl,AaP c.toNat c rfl,U1,Aa,Az,Az,U1,Aa,Az,U1,Aa];have e95:((c.toNat:Int)==95)=(c.toNat==95):=by rw[Akn,Akg,Akg]; omega
  by_cases hl:i+1=s.size
  ·have el:((i:Int)==(s.size:Int)-1)=true:=by rw[Akg]; omega
   rw[AjF hl,el];cases DR c<;>rfl
  ·have el:((i:Int)==(s.size:Int)-1)=false:=by rw[AjX]; omega
   rw[AjG hl,el];by_cases h0:i=0
   ·have e0:((i:Int)==0)=true:=by rw[Akg]; omega
    rw[AjF h0,e0];show(if(true&&((true&&DR c)||((c.toNat:Int)==95)))=true then _ else _)=_;rw[e95];cases DR c<;>cases c.toNat==95<;>rfl
   ·have e0:((i:Int)==0)=false:=by rw[AjX]; omega
    rw[AjG h0,e0];cases PW c<;>rfl
 ·have hd:=Ahg h hb;generalize Utf8.decode s i=q at hd;obtain⟨n,k⟩:=q;have hn:128≤n:=hd;obtain⟨b1,b2,b3⟩:=AiX c hb;show(Ab (gu _ (Dd (n:Int))) _)=_;rw[AdC n hn,U1,Aa,Az,Ake,Ake,AjG (by decide),Az];have e95:((n:Int)==95)=false:=by rw[AjX]; omega
  by_cases hl:i+1=s.size
  ·have el:((i:Int)==(s.size:Int)-1)=true:=by rw[Akg]; omega
   rw[AjF hl,el,b1];rfl
  ·have el:((i:Int)==(s.size:Int)-1)=false:=by rw[AjX]; omega
   rw[AjG hl,el,AjG (by decide)];rw[U1,Aa,Az];show(if(((i:Int)==0)&&((((i:Int)==0)&&false)||((n:Int)==95)))=true then _ else Ab (gu _ (C9 (n:Int))) _)=_;rw[Afr n hn,U1,Aa,e95,Ake,Bool.or_false,Ake,AjG (by decide)];by_cases h0:i=0
   ·have e0:((i:Int)==0)=true:=by rw[Akg]; omega
    rw[AjF h0,e0,b1,b3];rfl
   ·have e0:((i:Int)==0)=false:=by rw[AjX]; omega
    rw[AjG h0,e0,b2];rfl
theorem Ac8 {s:ByteArray}{i:Nat}(h: ¬i<s.size):A9 s i=some (.inr (.inl i)):=by
 unfold A9;rw[AjG h]
theorem SY {s:ByteArray}(hs:s.size≤16): ∀(r:List UInt8) (i n:Nat),1≤i→s.data.toList.drop i=r→i≤s.size→r.length<n→∃z,iter (A9 s) n i=some (if Sc r=true then .inl z else .inr false)
 |r,i,0,_,_,_,h=>by omega
 | [],i,n+1,_,h,hi,_=>by
  have hl:s.data.toList.length≤i:=Akd.1 h;rw[AO]at hl;refine⟨i,?_⟩;show Ab (A9 s i) _=_;rw[Ac8 (by omega)];rfl
 |c::r,i,n+1,h1,h,hi,hn=>by
  have hc:s.data.toList[i]? =some c:=by
   have:(s.data.toList.drop i)[0]? =some c:=by rw[h]; rfl
   simpa using this
  have hlt:i<s.size:=by
   have:=(AjR.1 hc).1;rw[AO]at this; exact this
  have hr:s.data.toList.drop (i+1)=r:=by rw[←Akw,h]; rfl
  have hlen:r.length=s.size-(i+1):=by rw[←hr,Aky,AO]
  obtain⟨z,ih⟩:=SY hs r (i+1) n (by omega) hr (by omega) (by rw[AjD]at hn; omega);refine⟨z,?_⟩;show Ab (A9 s i) _=_;rw[SZ hs hc,AjG (show¬i=0 from by omega)];cases r with
  |nil=>
   rw[AjF (show i+1=s.size from by rw[AjW]at hlen; omega)];show _=some (if DR c=true then _ else _);cases DR c with
   |false=>rfl
   |true=>rw[AjF rfl,AjF rfl]; exact ih
  |cons d r=>
   rw[AjG (show¬i+1=s.size from by rw[AjD]at hlen; omega)];show _=some (if(PW c&&Sc (d::r))=true then _ else _);cases PW c with
   |false=>rfl
   |true=>
    rw[AjF rfl,Akb];exact ih
theorem Afm (s:ByteArray):Fl s=some (Oj s.data.toList):=by
 unfold Fl;cases hl:s.data.toList with
 |nil=>
  have:eqS s (⟨#[]⟩:ByteArray)=true:=by unfold eqS; rw[hl]; rfl
  rw[this,Bool.true_or,AjF rfl];rfl
 |cons c r=>
  have h0:eqS s (⟨#[]⟩:ByteArray)=false:=by unfold eqS; rw[hl]; rfl
  have hz:s.size=r.length+1:=by rw[←AO,hl]; rfl
  rw[h0,AkB];by_cases hs:s.size≤16
  ·rw[AjM (show¬(s.size:Int)>16 from by omega),AjG (by decide)];have hc:s.data.toList[0]? =some c:=by rw[hl]; rfl
   have hd:s.data.toList.drop 1=r:=by rw[hl]; rfl
   have e': ∀n,r.length<n→∃z,iter (A9 s) (n+1) 0=some (if Oj (c::r)=true then .inl z else .inr false):=by
    intro n hn;obtain⟨z,ht⟩:=SY hs r 1 n (by decide) hd (by omega) hn;refine⟨z,?_⟩;show Ab (A9 s 0) _=_;rw[SZ hs hc,AjF rfl];cases r with
    |nil=>
     rw[AjF (show 0+1=s.size from by rw[hz]; rfl)];show _=some (if DR c=true then _ else _);cases DR c with
     |false=>rfl
     |true=>rw[AjF rfl,AjF rfl]; exact ht
    |cons d r=>
     rw[AjG (show¬0+1=s.size from by rw[hz,AjD]; omega)];show _=some (if((DR c||c.toNat==95)&&Sc (d::r)&&decide ((c::d::r).length≤16))=true then _ else _);rw[AjN (show(c::d::r).length≤16 from by rw[AjD,←hz]; exact hs),AkE];cases DR c||c.toNat==95 with
     |false=>rfl
     |true=>
      rw[AjF rfl,Akb];exact ht
   obtain⟨z,e⟩: ∃z,iter (A9 s) Bl 0=some (if Oj (c::r)=true then .inl z else .inr false):=e' 18446744073709551615 (by omega);rw[e,Aa];cases Oj (c::r)<;>rfl
  ·rw[AjN (show(s.size:Int)>16 from by omega),AjF rfl];cases r with
   |nil=>rw[hz]at hs; simp at hs
   |cons d r=>
    show _=some ((DR c||c.toNat==95)&&Sc (d::r)&&decide ((c::d::r).length≤16));rw[AjM (show¬(c::d::r).length≤16 from by rw[AjD,←hz]; exact hs),Ake]
end Go.Proofs.YtibojdgdjhngiaaGreatDoor
end
section
namespace Go.Proofs.YtibojdgdjhngiaaGreatDoor
open Go Go.Gw Go.Ax
def BV:List UInt8→List (List UInt8)
 | []=> [[]]
 |c::l=>if c=46 then []::BV l else match BV l with|h::t=>(c::h)::t| []=> [[c]]
theorem QQ (c:UInt8)(l:List UInt8):BV (c::l)=if c=46 then []::BV l else match BV l with|h::t=>(c::h)::t| []=> [[c]]:=rfl
theorem NU: ∀l:List UInt8,BV l≠[]
 | []=>by simp[BV]
 |c::l=>by
  unfold BV;split
  ·simp
  ·split<;>simp
theorem QP: ∀(p r:List UInt8),(46:UInt8)∉p→BV (p++46::r)=p::BV r
 | [],r,_=>by simp[BV]
 |c::p,r,h=>by
  have hc:c≠46:=fun e=>h (by rw[e]; exact AjZ);have ih:=QP p r fun q=>h (Aj8 _ q);show BV (c::(p++46::r))=_;rw[QQ,AjG hc,ih]
theorem QO: ∀(p:List UInt8),(46:UInt8)∉p→BV p=[p]
 | [],_=>rfl
 |c::p,h=>by
  have hc:c≠46:=fun e=>h (by rw[e]; exact AjZ);have ih:=QO p fun q=>h (Aj8 _ q);unfold BV;rw[AjG hc,ih]
theorem Nh: ∀(l:List UInt8),(BV l).length=l.count 46+1
 | []=>rfl
 |c::l=>by
  have ih:=Nh l;unfold BV;by_cases hc:c=46
  ·rw[AjF hc,hc,List.count_cons_self,AjD,ih]
  ·rw[AjG hc,List.count_cons_of_ne hc];cases h:BV l with
   |nil=>exact absurd h (NU l)
   |cons a t=>rw[h]at ih; simpa using ih
theorem Wy: ∀(l:List UInt8) (c:UInt8),(Lib.indexByte l c= -1∧c∉l)∨∃p r,l=p++c::r∧c∉p∧Lib.indexByte l c=(p.length:Int)
 | [],c=> .inl ⟨rfl,by simp⟩
 |b::l,c=>by
  unfold Lib.indexByte;cases hb:b==c with
  |true=>
   have e:b=c:=by simpa using hb
   exact .inr ⟨[],l,by rw[e]; rfl,by simp,rfl⟩
  |false=>
   have e:b≠c:=by simpa using hb
   rcases Wy l c with ⟨h1,h2⟩|⟨p,r,h1,h2,h3⟩
   ·refine .inl ⟨by rw[h1]; rfl,?_⟩;intro h;rcases Aj5.1 h with q|q
    ·exact e q.symm
    ·exact h2 q
   ·refine .inr ⟨b::p,r,by rw[h1]; rfl,?_,?_⟩
    ·intro h;rcases Aj5.1 h with q|q
     ·exact e q.symm
     ·exact h2 q
    ·rw[h3];have:((p.length:Int)== -1)=false:=by rw[AjX]; omega
     rw[AjG (by decide),AjG (by rw[this]; decide),AjD];omega
theorem Ll (s:ByteArray)(a b:Nat):(s.extract a b).data.toList=(s.data.toList.take b).drop a:=by
 rw[ByteArray.data_extract,Array.toList_extract,List.extract_eq_take_drop,List.take_drop];by_cases h:a≤b
 ·rw[Nat.add_sub_cancel' h]
 ·rw[Nat.sub_eq_zero_of_le (by omega),AkR];rw[Aj6 (by rw[Aj9]; omega),Aj6 (by rw[Aj9]; omega)]
def Vl (l:List UInt8):Bool:=(BV l).all Oj
theorem b5_eq (b:ByteArray)(s:Unit×Nat):Bw b s=some ((),if Oj b.data.toList=true then 0 else 1):=by
 unfold Bw;rw[Afm,Aa];cases Oj b.data.toList<;>rfl
def cbk:(Unit×Nat)→ByteArray→Option (Bool×(Unit×Nat)):=fun(s:(Unit)×Nat) (b0:ByteArray)=>if s.2=0 then Ab (Bw b0 s) fun y=>some (y.2==0,y)else none
theorem Ahn (b:ByteArray):cbk ((),0) b=some (Oj b.data.toList,((),if Oj b.data.toList=true then 0 else 1)):=by
 unfold cbk;rw[AjF rfl,b5_eq,Aa];cases Oj b.data.toList<;>rfl
theorem Adj (s:ByteArray)(h:s.size≤1000):Co s (⟨#[46]⟩:ByteArray)=some (AgU s 46):=by
 obtain⟨x,hx,h1,h2⟩:=WG s;unfold Co Cj BE;rw[Az];cases he:eqS (⟨#[46]⟩:ByteArray) s with
 |true=>
  have e:=(JB.1 he);subst e;rfl
 |false=>rfl
theorem SJ: ∀(m:Nat) (s:ByteArray) (n:Nat),s.size≤m→m<n→m≤100→
  ∃z:ByteArray,iter (AK cbk (⟨#[46]⟩:ByteArray) 0) n (s,((),0))=some (if(BV s.data.toList).dropLast.all Oj=true then .inl (z,((),0))else .inr ((⟨#[46]⟩:ByteArray),z,0,((),1)))∧
   ((BV s.data.toList).dropLast.all Oj=true→some z.data.toList=(BV s.data.toList).getLast?)
 |m,s,0,_,h,_=>by omega
 |m,s,n+1,hs,hn,hm=>by
  have hx:Co s (⟨#[46]⟩:ByteArray)=some (AgU s 46):=Adj s (by omega);show∃z,Ab (AK cbk (⟨#[46]⟩:ByteArray) 0 (s,((),0))) _=_∧_;rcases Wy s.data.toList 46 with ⟨h1,h2⟩|⟨p,r,h1,h2,h3⟩
  ·have e:AK cbk (⟨#[46]⟩:ByteArray) 0 (s,((),0))=some (.inr (.inl (s,((),0)))):=by
    unfold AK;show Ab (Co s (⟨#[46]⟩:ByteArray)) _=_;rw[hx,Aa,show AgU s 46= -1 from h1];rfl
   rw[e,QO _ h2];exact⟨s,rfl,fun _=>rfl⟩
  ·have hz:s.size=p.length+1+r.length:=by rw[←AO,h1,AjJ,AjD]; omega
   have e1:Ru s 0 (w64 ((p.length:Int)+0))=some (s.extract 0 p.length):=by
    rw[Int.add_zero,Ay (by omega) (by omega),G2 (by omega) (by omega) (by omega)];rfl
   have e2:Ru s (w64 ((p.length:Int)+((⟨#[46]⟩:ByteArray).size:Int))) (s.size:Int)=some (s.extract (p.length+1) s.size):=by
    have:((⟨#[46]⟩:ByteArray).size:Int)=1:=rfl;rw[this,Ay (by omega) (by omega),G2 (by omega) (by omega) (by omega)];rfl
   have l1:(s.extract 0 p.length).data.toList=p:=by
    rw[Ll,h1,AkS]; rfl
   have l2:(s.extract (p.length+1) s.size).data.toList=r:=by
    rw[Ll,←AO,List.take_length,h1];rw[←Akw,AkP]; rfl
   have e:AK cbk (⟨#[46]⟩:ByteArray) 0 (s,((),0))=some (if Oj p=true then .inl (s.extract (p.length+1) s.size,((),0))else .inr (.inr ((⟨#[46]⟩:ByteArray),s,0,((),1)))):=by
    unfold AK;show Ab (Co s (⟨#[46]⟩:ByteArray)) _=_;rw[hx,Aa,show AgU s 46=(p.length:Int)from h3,AjG (by rw[AjI]; omega),e1,Aa,Ahn,Aa,l1];cases hlab:Oj p with
    |false=>rfl
    |true=>
     rw[AjG (by simp)];dsimp only;rw[e2,Aa];rfl
   rw[e,h1,QP p r h2];have hsz:(s.extract (p.length+1) s.size).size=r.length:=by rw[←AO,l2]
   obtain⟨z,ih1,ih2⟩:=SJ (m-1) (s.extract (p.length+1) s.size) n (by omega) (by omega) (by omega);rw[l2]at ih1 ih2;have hd:(p::BV r).dropLast=p::(BV r).dropLast:=by
    cases hq:BV r with
    |nil=>exact absurd hq (NU r)
    |cons a t=>rfl
   have hg:(p::BV r).getLast? =(BV r).getLast? :=by
    cases hq:BV r with
    |nil=>exact absurd hq (NU r)
    |cons a t=>rfl
   rw[hd,hg,Akv];cases Oj p with
   |false=>exact⟨s,rfl,fun h=>by cases h⟩
   |true=>exact⟨z,ih1,ih2⟩
theorem Vj {α:Type}(f:α→Bool): ∀(l:List α) (x:α),l.getLast? =some x→l.all f=(l.dropLast.all f&&f x)
 | [],x,h=>by cases h
 | [a],x,h=>by cases h; simp
 |a::b::l,x,h=>by
  have ih:=Vj f (b::l) x (by simpa using h);show(f a&&(b::l).all f)=((f a&&(b::l).dropLast.all f)&&f x);rw[ih,Bool.and_assoc]
def isB (l:List UInt8)(n k:Nat):Bool:=decide (l.length≤k)&&decide ((BV l).length≤n)&&Vl l
theorem XX (s:ByteArray)(n k:Nat)(hk:k≤100):Ce s (n:Int) (k:Int)=some (isB s.data.toList n k):=by
 rw[UM]; unfold isB;have hz:=AO s;by_cases h1:s.size≤k
 ·rw[AjM (show¬(s.size:Int)>k from by omega),AjG (by decide),AjN (show s.data.toList.length≤k from by omega)];have ec:EU s (⟨#[46]⟩:ByteArray)=some ((s.data.toList.count 46:Nat):Int):=rfl;rw[ec,Aa,Aa,Nh];by_cases h2:s.data.toList.count 46+1≤n
  ·rw[AjM (show¬((s.data.toList.count 46:Nat):Int)≥(n:Int)from by omega),AjG (by decide),AjN h2];obtain⟨z,e1,e2⟩:=SJ 100 s Bl (by omega) (by have:=AX; omega) (by decide);have es:Bj cbk (⟨#[46]⟩:ByteArray) s 0 ((),0)=some ((⟨#[46]⟩:ByteArray),z,0,((),if Vl s.data.toList=true then 0 else 1)):=by
    unfold Bj;rw[AjG (by decide),e1,Aa];unfold Vl;cases hd:(BV s.data.toList).dropLast.all Oj with
    |true=>
     have hlast:=(e2 hd).symm;rw[Vj Oj _ _ hlast,hd,AjF rfl];show Ab (cbk ((),0) z) _=_;rw[Ahn,Aa,Akb]
    |false=>
     have:(BV s.data.toList).all Oj=false:=by
      cases hl:(BV s.data.toList).getLast? with
      |none=>exact absurd (List.getLast?_eq_none_iff.1 hl) (NU _)
      |some x=>rw[Vj Oj _ x hl,hd]; rfl
     rw[this];rfl
   show Ab (Bj cbk (⟨#[46]⟩:ByteArray) s 0 ((),0)) _=_;rw[es,Aa];cases Vl s.data.toList<;>rfl
  ·rw[AjN (show((s.data.toList.count 46:Nat):Int)≥(n:Int)from by omega),AjF rfl,AjM h2];rfl
 ·rw[AjN (show(s.size:Int)>k from by omega),AjF rfl,Aa,AjF rfl,AjM (show¬s.data.toList.length≤k from by omega)];rfl
theorem Ae8 (s:ByteArray):nameV s=if isB s.data.toList 8 64=true then 0 else 110:=by
 have e:=UN s;have e2:Fm s=some (isB s.data.toList 8 64):=by
  unfold Fm;rw[show Ce s 8 64=some (isB s.data.toList 8 64)from XX s 8 64 (by decide)];rfl
 unfold DC at e;rw[e2,Aa]at e;cases h:isB s.data.toList 8 64 with
 |true=>rw[h]at e; exact(AjC e).symm
 |false=>rw[h]at e; exact(AjC e).symm
end Go.Proofs.YtibojdgdjhngiaaGreatDoor
end
section
namespace Go.Proofs.YtibojdgdjhngiaaGreatDoor
open Go Go.Gw Go.Ax
theorem Xd (c:UInt8):Ea c=some (DR c):=by
 unfold Ea DR;rw[Az];congr 1;have e: ∀k:Nat,decide ((c.toNat:Int)≥(k:Int))=decide (k≤c.toNat):=fun k=>by rw[Akc]; omega
 have e2: ∀k:Nat,decide ((c.toNat:Int)≤(k:Int))=decide (c.toNat≤k):=fun k=>by rw[Akc]; omega
 rw[←e 97,←e2 122,←e 48,←e2 57];rfl
theorem YX: ∀(r:List UInt8) (x:UInt8),r.getLast? =some x→Sc r=(DR x&&r.all PW)
 | [],x,h=>by cases h
 | [a],x,h=>by
  cases h;show DR a=(DR a&&(PW a&&true));unfold PW;cases DR a<;>simp
 |a::b::r,x,h=>by
  have ih:=YX (b::r) x (by simpa using h);show(PW a&&Sc (b::r))=(DR x&&(PW a&&(b::r).all PW));rw[ih];cases PW a<;>cases DR x<;>rfl
theorem CA {α:Type}{l:List α}{i:Nat}{x:α}(h:l[i]? =some x):idx l (i:Int)=some x:=by
 unfold idx;rw[AjF (by omega)];exact h
theorem Acd {s:ByteArray}{i:Nat}{c:UInt8}(h:s.data.toList[i]? =some c)(hs:s.size≤100000):B6 s (i:Int)=some (if PW c=true then .inl ((i+1:Nat):Int)else .inr (.inr false)):=by
 have hi:i<s.size:=by
  have:=(AjR.1 h).1;rw[AO]at this;exact this
 unfold B6;rw[AjN (show(i:Int)<(s.size:Int)from by omega),AjF rfl,CA h,Aa,Xd,Aa];have hw:w64 ((i:Int)+1)=((i+1:Nat):Int):=by rw[Ay (by omega) (by omega)]; omega
 have e45:((c.toNat:Int) !=45)= !(c.toNat==45):=by
  show(!((c.toNat:Int)==45))=_;have:((c.toNat:Int)==45)=(c.toNat==45):=by rw[Akn,Akg,Akg]; omega
  rw[this]
 unfold PW;cases he:DR c with
 |true=>
  rw[show gu (!true) (some c)=some default from rfl,Aa,hw,Bool.or_true];rfl
 |false=>
  rw[show gu (!false) (some c)=some c from rfl,Aa,e45,hw,Bool.or_false];cases c.toNat==45<;>rfl
theorem Wb {s:ByteArray}(hs:s.size≤100000): ∀(r:List UInt8) (i n:Nat),s.data.toList.drop i=r→r.length<n→iter (B6 s) n (i:Int)=some (if r.all PW=true then .inl ()else .inr false)
 |r,i,0,_,h=>by omega
 | [],i,n+1,h,_=>by
  have hl:s.data.toList.length≤i:=Akd.1 h;rw[AO]at hl;have e:B6 s (i:Int)=some (.inr (.inl ())):=by
   unfold B6;rw[AjM (show¬(i:Int)<(s.size:Int)from by omega)];rfl
  show Ab (B6 s (i:Int)) _=_;rw[e];rfl
 |c::r,i,n+1,h,hn=>by
  have hc:s.data.toList[i]? =some c:=by
   have:(s.data.toList.drop i)[0]? =some c:=by rw[h]; rfl
   simpa using this
  have hr:s.data.toList.drop (i+1)=r:=by rw[←Akw,h]; rfl
  have ih:=Wb hs r (i+1) n hr (by rw[AjD]at hn; omega);show Ab (B6 s (i:Int)) _=_;rw[Acd hc hs,Akv];cases PW c with
  |false=>rfl
  |true=>rw[AjF rfl,Akb]; exact ih
theorem Acb (s:ByteArray)(hs:s.size≤100000):IC s=some (Oj s.data.toList):=by
 have hz:=AO s;unfold IC;by_cases h1:s.size<1∨s.size>16
 ·have eb:(decide ((s.size:Int)<1)||decide ((s.size:Int)>16))=true:=by
   rw[Akl,AjI,AjI]; omega
  rw[eb];show some false=_;cases hl:s.data.toList with
  |nil=>rfl
  |cons c r=>
   rw[hl,AjD]at hz;cases r with
   |nil=>rw[AjW]at hz; omega
   |cons d r=>
    show some false=some ((DR c||c.toNat==95)&&Sc (d::r)&&decide ((c::d::r).length≤16));rw[AjM (show¬(c::d::r).length≤16 from by rw[AjD]; omega),Ake]
 ·have eb:(decide ((s.size:Int)<1)||decide ((s.size:Int)>16))=false:=by
   rw[Bool.or_eq_false_iff,decide_eq_false_iff_not,decide_eq_false_iff_not]; omega
  cases hl:s.data.toList with
  |nil=>rw[hl,AjW]at hz; omega
  |cons c r=>
   obtain⟨x,hx⟩: ∃x,(c::r).getLast? =some x:=⟨_,List.getLast?_cons⟩;have hx2:(c::r)[s.size-1]? =some x:=by
    rw[←hx,List.getLast?_eq_getElem?,←hl,hz]
   have hw:w64 ((s.size:Int)-1)=((s.size-1:Nat):Int):=by rw[Ay (by omega) (by omega)]; omega
   have ex:idx (c::r) (w64 ((s.size:Int)-1))=some x:=by rw[hw]; exact CA hx2
   have hloop:=Wb hs r 1 Bl (by rw[hl]; rfl) (by
    have:=AX;rw[hl,AjD]at hz;omega)
   have hloop:iter (B6 s) Bl 1=some (if r.all PW=true then .inl ()else .inr false):=hloop;rw[eb,ex,show idx (c::r) 0=some c from rfl,hloop];rw[show gu (!false) (some x)=some x from rfl,Aa,show gu (!false) (Ea x)=Ea x from rfl,Xd,Aa];have e95:((c.toNat:Int) !=95)= !(c.toNat==95):=by
    show(!((c.toNat:Int)==95))=_;have:((c.toNat:Int)==95)=(c.toNat==95):=by rw[Akn,Akg,Akg]; omega
    rw[this]
   have hlab:Oj (c::r)=(DR x&&(DR c||c.toNat==95)&&r.all PW):=by
    cases r with
    |nil=>
     have hxc:x=c:=by simpa using hx.symm
     rw[hxc];show DR c=_;cases DR c<;>simp
    |cons d r=>
     have ht:=YX (d::r) x (by simpa using hx);show((DR c||c.toNat==95)&&Sc (d::r)&&decide ((c::d::r).length≤16))=_;rw[hl,AjD]at hz;rw[ht,AjN (show(c::d::r).length≤16 from by rw[AjD]; omega),AkE];cases DR c||c.toNat==95<;>cases DR x<;>rfl
   rw[hlab];cases DR x with
   |false=>rfl
   |true=>
    rw[show gu (!((false||(!true)))) (some c)=some c from rfl,Aa,Xd,show gu (!((false||(!true)))) (some (DR c))=some (DR c)from rfl,Aa];cases DR c with
    |true=>
     show Ab (gu false (some c)) _=_;rw[WH,Aa];cases r.all PW<;>rfl
    |false=>
     show Ab (some c) (fun x5=>if((false|| !true)||(!false&&((x5.toNat:Int) !=95)))=true then some false else Ab (some (if r.all PW=true then(.inl ():Unit⊕Bool)else .inr false)) _)=_;rw[Aa,e95];cases c.toNat==95 with
     |false=>rfl
     |true=>cases r.all PW<;>rfl
end Go.Proofs.YtibojdgdjhngiaaGreatDoor
end
section
namespace Go.Proofs.YtibojdgdjhngiaaGreatDoor
open Go Go.Gw Go.Ax
def toL (s:ByteArray):List UInt8:=s.data.toList
theorem Ad8 {α:Type}(b:Nat){xs ys:List α}(h:(xs.length+ys.length)*b≤140737488355328)(h1:xs.length+ys.length≤140737488355328):app b xs ys=some (xs++ys):=by unfold app; rw[AjF ⟨h,h1⟩]
theorem AfS {α:Type}(l:List α){f i:Nat}(h:f≤i):l.drop f=(l.take i).drop f++l.drop i:=by
 have h0:l=l.take i++l.drop i:=(List.take_append_drop i l).symm;by_cases hi:i≤l.length
 ·conv=>lhs; rw[h0]
  rw[List.drop_append_of_le_length (by rw[Aj9]; omega)]
 ·rw[Akx (by omega),Aj6 (show l.length≤i by omega),Akk]
theorem AbD {α:Type}{l:List α}{i f:Nat}{c:α}(h:l[i]? =some c)(hf:f≤i):(l.take (i+1)).drop f=(l.take i).drop f++[c]:=by
 rw[List.take_add_one,h];have hl:i<l.length:=(AjR.1 h).1;rw[List.drop_append_of_le_length (by rw[Aj9]; omega)];rfl
theorem U8 {s:ByteArray}(hs:s.size≤100000): ∀(r:List UInt8) (i f n:Nat) (out:List ByteArray),(toL s).drop i=r→r.length<n→f≤i→i≤s.size→out.length≤i→(46:UInt8)∉((toL s).take i).drop f→
  ∃(o:List ByteArray) (g:Nat),iter (BL s) n (out,(f:Int),(i:Int))=some (o,(g:Int))∧g≤s.size∧o.length≤s.size∧o.map toL++[(toL s).drop g]=out.map toL++BV ((toL s).drop f)
 |r,i,f,0,_,_,h,_,_,_,_=>by omega
 | [],i,f,n+1,out,h,_,hf,hi,ho,hp=>by
  have hl:(toL s).length≤i:=Akd.1 h;have hz:(toL s).length=s.size:=AO s;have e:BL s (out,(f:Int),(i:Int))=some (.inr (out,(f:Int))):=by
   unfold BL;show(if decide ((i:Int)<(s.size:Int))=true then _ else _)=_;rw[AjM (show¬(i:Int)<(s.size:Int)from by omega)];rfl
  refine⟨out,f,?_,by omega,by omega,?_⟩
  ·show Ab (BL s (out,(f:Int),(i:Int))) _=_;rw[e];rfl
  ·rw[Akx (by omega)]at hp;rw[QO _ hp]
 |c::r,i,f,n+1,out,h,hn,hf,hi,ho,hp=>by
  have hc:(toL s)[i]? =some c:=by
   have:((toL s).drop i)[0]? =some c:=by rw[h]; rfl
   simpa using this
  have hz:(toL s).length=s.size:=AO s;have hlt:i<s.size:=by
   have:=(AjR.1 hc).1;omega
  have hr:(toL s).drop (i+1)=r:=by rw[←Akw,h]; rfl
  have hw:w64 ((i:Int)+1)=((i+1:Nat):Int):=by rw[Ay (by omega) (by omega)]; omega
  have hi2:idx s.data.toList (i:Int)=some c:=CA hc;by_cases h46:c=46
  ·have e46:((c.toNat:Int)==46)=true:=by rw[h46]; rfl
   have ep:Ru s (f:Int) (i:Int)=some (s.extract f i):=by
    rw[G2 (by omega) (by omega) (by omega)]; rfl
   have e:BL s (out,(f:Int),(i:Int))=some (.inl (out++[s.extract f i],((i+1:Nat):Int),((i+1:Nat):Int))):=by
    unfold BL;show(if decide ((i:Int)<(s.size:Int))=true then _ else _)=_;rw[AjN (show(i:Int)<(s.size:Int)from by omega),AjF rfl];show Ab (Ab (idx s.data.toList (i:Int)) _) _=_;rw[hi2,Aa,e46,AjF rfl];show Ab (Ab (Ru s (f:Int) (i:Int)) _) _=_;rw[ep,Aa];show Ab (Ab (app 16 out [s.extract f i]) _) _=_;rw[Ad8 16 (by show(out.length+1)*16≤_; omega) (by show out.length+1≤_; omega),Aa,Aa,hw]
   obtain⟨o,g,q1,q2,q3,q4⟩:=U8 hs r (i+1) (i+1) n (out++[s.extract f i]) hr (by rw[AjD]at hn; omega) (AjQ _) (by omega) (by rw[AjJ]; show out.length+1≤_; omega) (by
    rw[Aj6 (by rw[Aj9]; omega)]; simp)
   refine⟨o,g,?_,q2,q3,?_⟩
   ·show Ab (BL s (out,(f:Int),(i:Int))) _=_;rw[e];exact q1
   ·rw[q4,AfS (toL s) hf,h,h46,QP _ _ hp,hr,Aku,AjP];show _++([toL (s.extract f i)]++_)=_;rw[show toL (s.extract f i)=((toL s).take i).drop f from Ll s f i];rfl
  ·have e46:((c.toNat:Int)==46)=false:=by
    rw[AjX];intro q;exact h46 (UInt8.toNat_inj.1 (by show c.toNat=46; omega))
   have e:BL s (out,(f:Int),(i:Int))=some (.inl (out,(f:Int),((i+1:Nat):Int))):=by
    unfold BL;show(if decide ((i:Int)<(s.size:Int))=true then _ else _)=_;rw[AjN (show(i:Int)<(s.size:Int)from by omega),AjF rfl];show Ab (Ab (idx s.data.toList (i:Int)) _) _=_;rw[hi2,Aa,e46,AjG (by decide),Aa,hw]
   obtain⟨o,g,q1,q2,q3,q4⟩:=U8 hs r (i+1) f n out hr (by rw[AjD]at hn; omega) (by omega) (by omega) (by omega) (by
    rw[AbD hc hf];intro q;rcases Aka.1 q with q|q
    ·exact hp q
    ·exact h46 (List.mem_singleton.1 q).symm)
   refine⟨o,g,?_,q2,q3,q4⟩;show Ab (BL s (out,(f:Int),(i:Int))) _=_;rw[e];exact q1
theorem ZV {s:ByteArray}(hs:s.size≤100000): ∃l,Hv s=some l∧l.map toL=BV (toL s):=by
 have hz:(toL s).length=s.size:=AO s;obtain⟨o,g,h1,h2,h3,h4⟩:=U8 hs (toL s) 0 0 Bl [] rfl (by have:=AX; omega) (AjQ _) (AkA _) (AkA _) (by simp);have h1:iter (BL s) Bl ([],0,0)=some (o,(g:Int)):=h1;unfold Hv;rw[h1,Aa,Aa,G2 (by omega) (by show(g:Int)≤_; omega) (by omega),Aa,Ad8 16 (by show(o.length+1)*16≤_; omega) (by show o.length+1≤_; omega),Aa];refine⟨_,rfl,?_⟩;rw[Aku];show o.map toL++[toL (s.extract g s.size)]=_;rw[show toL (s.extract g s.size)=(toL s).drop g from by rw[show toL (s.extract g s.size)=((toL s).take s.size).drop g from Ll s g s.size,←hz,List.take_length],h4];rfl
theorem Wo: ∀(r p:List ByteArray) (n:Nat),r.length<n→p.length+r.length≤10000→(∀x∈r,x.size≤100000)→iter (B0 (p++r)) n (p.length:Int)=some (if r.all (fun x=>Oj (toL x))=true then .inl ()else .inr false)
 |r,p,0,h,_,_=>by omega
 | [],p,n+1,_,_,_=>by
  have e:B0 (p++[]) (p.length:Int)=some (.inr (.inl ())):=by
   unfold B0;rw[AjM (by rw[Akk]; omega)];rfl
  show Ab (B0 (p++[]) (p.length:Int)) _=_;rw[e]; rfl
 |x::r,p,n+1,h,hp,hx=>by
  rw[AjD]at h hp;have ih:=Wo r (p++[x]) n (by omega) (by rw[AjJ]; show p.length+1+_≤_; omega) fun y hy=>hx y (Aj8 _ hy);have ei:idx (p++x::r) (p.length:Int)=some x:=CA (by simp);have e:B0 (p++x::r) (p.length:Int)=some (if Oj (toL x)=true then .inl ((p.length+1:Nat):Int)else .inr (.inr false)):=by
   unfold B0;rw[AjN (show(p.length:Int)<((p++x::r).length:Int)from by rw[AjJ,AjD]; omega),AjF rfl,ei,Aa,Acb x (hx x AjZ),Aa];have hw:w64 ((p.length:Int)+1)=((p.length+1:Nat):Int):=by rw[Ay (by omega) (by omega)]; omega
   rw[hw];show(if(!Oj (toL x))=true then _ else _)=_;cases Oj (toL x)<;>rfl
  show Ab (B0 (p++x::r) (p.length:Int)) _=_;rw[e,Akv];cases Oj (toL x)with
  |false=>rfl
  |true=>
   rw[AjF rfl,Akb];show iter (B0 (p++x::r)) n ((p.length+1:Nat):Int)=_;rw[←ih];simp
theorem Mz: ∀(l x:List UInt8),x∈BV l→x.length≤l.length
 | [],x,h=>by simp[BV]at h; rw[h]; simp
 |c::l,x,h=>by
  rw[QQ]at h;by_cases hc:c=46
  ·rw[AjF hc]at h;rcases Aj5.1 h with q|q
   ·rw[q]; simp
   ·have:=Mz l x q; rw[AjD]; omega
  ·rw[AjG hc]at h;cases hs:BV l with
   |nil=>exact absurd hs (NU l)
   |cons a t=>
    rw[hs]at h;rcases Aj5.1 h with q|q
    ·have:=Mz l a (by rw[hs]; exact AjZ);rw[q,AjD,AjD]; omega
    ·have:=Mz l x (by rw[hs]; exact Aj8 _ q);rw[AjD]; omega
theorem RJ {s:ByteArray}(hs:s.size≤100000):EX s=some (isB (toL s) 8 64):=by
 have hz:(toL s).length=s.size:=AO s;unfold EX isB;by_cases h1:s.size≤64
 ·rw[AjM (show¬(s.size:Int)>64 from by omega),AjG (by decide),AjN (show(toL s).length≤64 from by omega)];obtain⟨l,e,hl⟩:=ZV hs;have hsz: ∀x∈l,x.size≤100000:=fun x hx=>by
   have h2:=Mz (toL s) (toL x) (by rw[←hl]; exact List.mem_map_of_mem hx);have h3:(toL x).length=x.size:=AO x;omega
  have hlen:l.length=(BV (toL s)).length:=by rw[←hl,Akh]
  have hcnt:=Nh (toL s);have hc2:(toL s).count 46≤(toL s).length:=List.count_le_length;have hloop:=Wo l [] Bl (by have:=AX; omega) (by simp only[AjW]; omega) hsz;have hloop:iter (B0 l) Bl 0=some (if l.all (fun x=>Oj (toL x))=true then .inl ()else .inr false):=hloop;rw[e,Aa,hloop];have ha:l.all (fun x=>Oj (toL x))=Vl (toL s):=by
   unfold Vl;rw[←hl,List.all_map];rfl
  rw[ha];have hd:decide ((l.length:Int)≤8)=decide ((BV (toL s)).length≤8):=by rw[Akc,hlen]; omega
  cases Vl (toL s)with
  |false=>rw[Ake]; rfl
  |true=>
   show some (decide ((l.length:Int)≤8))=_;rw[hd,AkE,Akb]
 ·rw[AjN (show(s.size:Int)>64 from by omega),AjF rfl,AjM (show¬(toL s).length≤64 from by omega)];rfl
end Go.Proofs.YtibojdgdjhngiaaGreatDoor
end
section
namespace Go.Proofs.YtibojdgdjhngiaaGreatDoor
open Go Go.Gw Go.Ax
def Aap:List UInt8→Bool
 |a::b::r=>a==42&&b==46&&isB r 7 62
 |_=>false
theorem AiK (n k:Nat):isB [] n k=false:=by
 unfold isB Vl;simp[BV,Oj]
theorem pat_eq (s:ByteArray):Cy s=some (if(isB (toL s) 8 64||Aap (toL s))=true then 0 else 110):=by
 have hz:(toL s).length=s.size:=AO s;unfold Cy E1;have e1:Fm s=some (isB (toL s) 8 64):=by
  unfold Fm;rw[show Ce s 8 64=some (isB (toL s) 8 64)from XX s 8 64 (by decide)];rfl
 rw[e1,Aa];cases h1:isB (toL s) 8 64 with
 |true=>rfl
 |false=>
  rw[AjG (by decide),AkB];unfold B8 Bg Bf;have e2:(((⟨#[42,46]⟩:ByteArray).size:Nat):Int)=2:=rfl;rw[e2];match hl:toL s with
  | []=>
   rw[hl,AjW]at hz;rw[AjM (show¬(s.size:Int)≥2 from by omega)];rfl
  | [a]=>
   rw[hl,AjD,AjW]at hz;rw[AjM (show¬(s.size:Int)≥2 from by omega)];rfl
  |a::b::r=>
   rw[hl,AjD,AjD]at hz;have ec:Ru s 0 2=some (s.extract 0 2):=G2 (by omega) (by omega) (by omega);have el:(s.extract 0 2).data.toList=[a,b]:=by
    rw[Ll];show((toL s).take 2).drop 0=_;rw[hl]; rfl
   have ee:eqS (s.extract 0 2) (⟨#[42,46]⟩:ByteArray)=(a==42&&b==46):=by
    unfold eqS;rw[el,Akn];simp
   rw[AjN (show(s.size:Int)≥2 from by omega),Mp,ec,Aa,Az,ee,Aa];show _=some (if(a==42&&b==46&&isB r 7 62)=true then 0 else 110);cases a==42&&b==46 with
   |false=>rfl
   |true=>
    have ec2:Ru s 2 (s.size:Int)=some (s.extract 2 s.size):=by
     rw[G2 (by omega) (by omega) (by omega)]; rfl
    have el2:(s.extract 2 s.size).data.toList=r:=by
     rw[Ll];show((toL s).take s.size).drop 2=_;rw[Akx (by rw[hl,AjD,AjD]; omega),hl]; rfl
    rw[show(true&&true)=true from rfl,AjG (by decide),ec2,Aa,Aa,Aa];have en:=XX (s.extract 2 s.size) 7 62 (by decide);rw[el2]at en;have en:Ce (s.extract 2 s.size) 7 62=some (isB r 7 62):=en;show Ab (Ab (gu true (Ce (s.extract 2 s.size) 7 62)) _) _=_;rw[Mp,en,Aa,Aa];show Ab (EZ (true&&isB r 7 62)) _=_;cases isB r 7 62<;>rfl
theorem Aim (s:ByteArray):patV s=if(isB (toL s) 8 64||Aap (toL s))=true then 0 else 110:=by
 have e:=XR s;rw[pat_eq s]at e;exact(AjC e).symm
theorem AjB {s:ByteArray}(hs:s.size≤100000): ∃t,JV s=some (t,Aap (toL s)):=by
 have hz:(toL s).length=s.size:=AO s;unfold JV;by_cases h1:s.size<3∨s.size>64
 ·have eb:(decide ((s.size:Int)<3)||decide ((s.size:Int)>64))=true:=by
   rw[Akl,AjI,AjI]; omega
  rw[eb];have e:Aap (toL s)=false:=by
   match hl:toL s with
   | []=>rfl
   | [a]=>rfl
   | [a,b]=>show(a==42&&b==46&&isB [] 7 62)=false; rw[AiK,Ake]
   |a::b::c::r=>
    rw[hl]at hz;simp only[AjD]at hz;show(a==42&&b==46&&isB (c::r) 7 62)=false;unfold isB;rw[AjM (show¬(c::r).length≤62 from by rw[AjD]; omega),Akt,Akt,Ake]
  rw[e];exact⟨(⟨#[]⟩:ByteArray),rfl⟩
 ·have eb:(decide ((s.size:Int)<3)||decide ((s.size:Int)>64))=false:=by
   rw[Bool.or_eq_false_iff,decide_eq_false_iff_not,decide_eq_false_iff_not]; omega
  rw[eb];match hl:toL s with
  | []=>rw[hl,AjW]at hz; omega
  | [a]=>rw[hl,AjD,AjW]at hz; omega
  |a::b::r=>
   rw[hl,AjD,AjD]at hz;have ha:idx s.data.toList 0=some a:=by rw[show s.data.toList=a::b::r from hl]; rfl
   have hb:idx s.data.toList 1=some b:=by rw[show s.data.toList=a::b::r from hl]; rfl
   have ec2:Ru s 2 (s.size:Int)=some (s.extract 2 s.size):=by
    rw[G2 (by omega) (by omega) (by omega)]; rfl
   have el2:toL (s.extract 2 s.size)=r:=by
    rw[show toL (s.extract 2 s.size)=((toL s).take s.size).drop 2 from Ll s 2 s.size,Akx (by rw[hl,AjD,AjD]; omega),hl]; rfl
   have hz2:(s.extract 2 s.size).size=r.length:=by rw[←AO,←el2]; rfl
   have en:=RJ (s:=s.extract 2 s.size) (by omega);rw[el2]at en;obtain⟨l,e5,h5⟩:=ZV (s:=s.extract 2 s.size) (by omega);rw[el2]at h5;have hlen:l.length=(BV r).length:=by rw[←h5,Akh]
   have e42:((a.toNat:Int) !=42)= !(a==42):=by
    show(!((a.toNat:Int)==42))=_;have:((a.toNat:Int)==42)=(a==42):=by
     rw[Akn,Akg,Akg,←UInt8.toNat_inj];show _↔a.toNat=42;omega
    rw[this]
   have e46:((b.toNat:Int) !=46)= !(b==46):=by
    show(!((b.toNat:Int)==46))=_;have:((b.toNat:Int)==46)=(b==46):=by
     rw[Akn,Akg,Akg,←UInt8.toNat_inj];show _↔b.toNat=46;omega
    rw[this]
   rw[ha,hb,ec2];rw[show gu (!false) (some a)=some a from rfl,Aa,e42];have hst:Aap (a::b::r)=(a==42&&b==46&&isB r 7 62):=rfl;rw[hst];cases a==42 with
   |false=>exact⟨_,rfl⟩
   |true=>
    rw[show gu (!(false|| !true)) (some b)=some b from rfl,Aa,e46];cases b==46 with
    |false=>exact⟨_,rfl⟩
    |true=>
     rw[show gu (!((false|| !true)|| !true)) (some (s.extract 2 s.size))=some (s.extract 2 s.size)from rfl,Aa,en,show gu (!((false|| !true)|| !true)) (some (isB r 8 64))=some (isB r 8 64)from rfl,Aa];have hr:r.length≤62:=by omega
     unfold isB;rw[AjN (show r.length≤64 from by omega),AjN (show r.length≤62 from hr),Akb,Akb,Akb];cases hal:Vl r with
     |false=>rw[Ake,Ake]; exact⟨_,rfl⟩
     |true=>
      rw[AkE,AkE];by_cases h8:(BV r).length≤8
      ·rw[AjN h8,AjG (by decide),Aa,e5,Aa];by_cases h7:(BV r).length≤7
       ·rw[AjM (show¬(l.length:Int)>7 from by omega),AjG (by decide),Aa,AjN h7];exact⟨_,rfl⟩
       ·rw[AjN (show(l.length:Int)>7 from by omega),AjF rfl,AjM h7];exact⟨_,rfl⟩
      ·rw[AjM h8,AjF (by decide),AjM (show¬(BV r).length≤7 from by omega)];exact⟨_,rfl⟩
theorem W7 {s:ByteArray}(hs:s.size≤100000):GL s=some (patV s):=by
 obtain⟨t,e⟩:=AjB hs;unfold GL;rw[e,Aa,RJ hs,Aim];cases Aap (toL s)with
 |true=>rw[Bool.or_true]; rfl
 |false=>
  rw[Bool.or_false];show Ab (gu true (some (isB (toL s) 8 64))) _=_;rw[Mp,Aa];cases isB (toL s) 8 64<;>rfl
theorem Agh {s:ByteArray}(hs:s.size≤100000):EX s=some (nameV s==0):=by
 rw[RJ hs,Ae8];show _=some ((if isB (toL s) 8 64=true then(0:Int)else 110)==0);cases isB (toL s) 8 64<;>rfl
end Go.Proofs.YtibojdgdjhngiaaGreatDoor
end
section
namespace Go.Proofs.YtibojdgdjhngiaaGreatDoor
open Go Go.Gw Go.Ax
theorem D6 {α:Type}{l:List α}{i:Nat}{c:α}{r:List α}(h:l.drop i=c::r):l[i]? =some c∧l.drop (i+1)=r∧i<l.length:=by
 have h1:l[i]? =some c:=by
  have:(l.drop i)[0]? =some c:=by rw[h]; rfl
  simpa using this
 exact⟨h1,by rw[←Akw,h]; rfl,(AjR.1 h1).1⟩
theorem F9 {i:Nat}(h:i≤1000000):w64 ((i:Int)+1)=((i+1:Nat):Int):=by rw[Ay (by omega) (by omega)]; omega
def Kx (c:UInt8):Bool:=decide (33≤c.toNat)&&decide (c.toNat≤126)
def AhN (l:List UInt8):Bool:=decide (1≤l.length)&&decide (l.length≤64)&&l.all Kx
theorem Zr {s:ByteArray}(hs:s.size≤100000): ∀(r:List UInt8) (i n:Nat),(toL s).drop i=r→r.length<n→∃(z:Nat),iter (AA s true) n i=some (if r.all Kx=true then .inl z else .inr (z:Int))
 |r,i,0,_,h=>by omega
 | [],i,n+1,h,_=>by
  have hl:(toL s).length≤i:=Akd.1 h;have hz:(toL s).length=s.size:=AO s;have e:AA s true i=some (.inr (.inl i)):=by
   unfold AA;rw[AjG (by omega)]
  refine⟨i,?_⟩;show Ab (AA s true i) _=_;rw[e]; rfl
 |c::r,i,n+1,h,hn=>by
  obtain⟨hc,hr,hlt⟩:=D6 h;have hz:(toL s).length=s.size:=AO s;obtain⟨z,ih⟩:=Zr hs r (i+1) n hr (by rw[AjD]at hn; omega);have e:AA s true i=some (if Kx c=true then .inl (i+1)else .inr (.inr (i:Int))):=by
   unfold AA IM;rw[AjF (show i<s.size from by omega),Az,Az,Aa];unfold Kx;by_cases hb:c.toNat<128
   ·rw[Ahf hc hb];have ec:(decide (((c.toNat:Nat):Int)≤32)||decide (((c.toNat:Nat):Int)>126))= !(decide (33≤c.toNat)&&decide (c.toNat≤126)):=by
     rw[Akn];simp only[Akl,Bool.not_eq_true',Bool.and_eq_false_iff,AjI,decide_eq_false_iff_not];omega
    rw[ec];cases decide (33≤c.toNat)&&decide (c.toNat≤126)<;>rfl
   ·have hd:=Ahg hc hb;generalize Utf8.decode s i=q at hd;rw[AjN (show((q.1:Nat):Int)>126 from by omega),Bool.or_true,AjM (show¬c.toNat≤126 from by omega),Ake];rfl
  rw[Akv];cases hp:Kx c with
  |false=>
   refine⟨i,?_⟩;show Ab (AA s true i) _=_;rw[e,hp]; rfl
  |true=>
   refine⟨z,?_⟩;show Ab (AA s true i) _=_;rw[e,hp,AjF rfl,Akb];exact ih
theorem Aex (s:ByteArray):textV s=AhN (toL s):=by
 have e:=Xz s;have hz:(toL s).length=s.size:=AO s;unfold DK at e;have e0:(!eqS s (⟨#[]⟩:ByteArray))=decide (1≤(toL s).length):=by
  show(!((toL s)== []))=_;cases toL s with
  |nil=>rfl
  |cons a l=>rw[AjN (by rw[AjD]; omega)]; rfl
 have e1:decide ((s.size:Int)≤64)=decide ((toL s).length≤64):=by rw[Akc]; omega
 rw[e0,e1]at e;unfold AhN;by_cases h:(toL s).length≤64
 ·obtain⟨z,hl⟩:=Zr (s:=s) (by omega) (toL s) 0 Bl rfl (by have:=AX; omega);have ec:BG s=some (!((toL s).all Kx)):=by
   unfold BG CV Cd;rw[hl];cases (toL s).all Kx with
   |true=>rfl
   |false=>
    show some (decide ((z:Int)≥0))=_;rw[AjN (by omega)]; rfl
  rw[ec]at e;cases hd:decide (1≤(toL s).length)&&decide ((toL s).length≤64)with
  |false=>rw[hd]at e; exact(AjC e).symm
  |true=>
   rw[hd,Mp,Aa,Az,Bool.not_not]at e;exact(AjC e).symm
 ·rw[AjM h,Ake]at e⊢;exact(AjC e).symm
theorem QK {s:ByteArray}(hs:s.size≤100000): ∀(r:List UInt8) (i n:Nat),(toL s).drop i=r→r.length<n→iter (Ct s) n (i:Int)=some (if r.all Kx=true then .inl ()else .inr false)
 |r,i,0,_,h=>by omega
 | [],i,n+1,h,_=>by
  have hl:(toL s).length≤i:=Akd.1 h;have hz:(toL s).length=s.size:=AO s;have e:Ct s (i:Int)=some (.inr (.inl ())):=by
   unfold Ct;rw[AjM (by omega)];rfl
  show Ab (Ct s (i:Int)) _=_;rw[e]; rfl
 |c::r,i,n+1,h,hn=>by
  obtain⟨hc,hr,hlt⟩:=D6 h;have hz:(toL s).length=s.size:=AO s;have ih:=QK hs r (i+1) n hr (by rw[AjD]at hn; omega);have e:Ct s (i:Int)=some (if Kx c=true then .inl ((i+1:Nat):Int)else .inr (.inr false)):=by
   unfold Ct;rw[AjN (by omega),AjF rfl,show idx s.data.toList (i:Int)=some c from CA hc,Aa,F9 (by omega)];unfold Kx;have e33:decide ((c.toNat:Int)<33)= !decide (33≤c.toNat):=by rw[←decide_not,Akc]; omega
   have e126:decide ((c.toNat:Int)>126)= !decide (c.toNat≤126):=by rw[←decide_not,Akc]; omega
   rw[e33];cases decide (33≤c.toNat)with
   |false=>rfl
   |true=>
    rw[show gu (!(!true)) (some c)=some c from rfl,Aa,e126];cases decide (c.toNat≤126)<;>rfl
  show Ab (Ct s (i:Int)) _=_;rw[e,Akv];cases Kx c with
  |false=>rfl
  |true=>rw[AjF rfl,Akb]; exact ih
theorem V1 {s:ByteArray}(hs:s.size≤100000):H5 s=some (textV s):=by
 have hz:(toL s).length=s.size:=AO s;have hl:=QK hs (toL s) 0 Bl rfl (by have:=AX; omega);have hl:iter (Ct s) Bl 0=some (if(toL s).all Kx=true then .inl ()else .inr false):=hl;rw[Aex];unfold H5 AhN;rw[hl];have e1:decide ((s.size:Int)≥1)=decide (1≤(toL s).length):=by rw[Akc]; omega
 have e2:decide ((s.size:Int)≤64)=decide ((toL s).length≤64):=by rw[Akc]; omega
 cases (toL s).all Kx with
 |true=>
  show some (decide ((s.size:Int)≥1)&&decide ((s.size:Int)≤64))=_;rw[e1,e2,AkE]
 |false=>rw[Ake]; rfl
def AcU:List ByteArray→List ByteArray→Bool
 |_,[]=>true
 |met,s::l=> !(met.any (eqS s))&&AcU (met++[s]) l
theorem Rb (right:ByteArray→Int): ∀(l met:List ByteArray),Ns right met l=(l.all (fun s=>right s==0)&&AcU met l)
 | [],_=>rfl
 |s::l,met=>by
  show(!(met.any (eqS s))&&right s==0&&Ns right (met++[s]) l)=((right s==0&&l.all (fun s=>right s==0))&&(!(met.any (eqS s))&&AcU (met++[s]) l));rw[Rb right l];cases met.any (eqS s)<;>cases right s==0<;>cases l.all (fun s=>right s==0)<;>rfl
theorem AfL (a b:ByteArray):eqS a b=eqS b a:=by
 rw[Akn,JB,JB];exact eq_comm
theorem Agm {l:List ByteArray}{i:Nat}{x:ByteArray}(hx:l[i]? =some x)(hi:i≤100000): ∀(r:List ByteArray) (k n:Nat),(l.take i).drop k=r→k≤i→r.length<n→iter (BO l (i:Int)) n (k:Int)=some (if r.any (eqS x)=true then .inr false else .inl ())
 |r,k,0,_,_,h=>by omega
 | [],k,n+1,h,hk,_=>by
  have hl:i<l.length:=(AjR.1 hx).1;have h2:=Akd.1 h;rw[Aj9]at h2;have e:BO l (i:Int) (k:Int)=some (.inr (.inl ())):=by
   unfold BO;rw[AjM (by omega)];rfl
  show Ab (BO l (i:Int) (k:Int)) _=_;rw[e]; rfl
 |c::r,k,n+1,h,hk,hn=>by
  have hl:i<l.length:=(AjR.1 hx).1;obtain⟨hc,hr,hlt⟩:=D6 h;rw[Aj9]at hlt;have hc':l[k]? =some c:=by
   rw[List.getElem?_take]at hc;rw[AjF (by omega)]at hc;exact hc
  have ih:=Agm hx hi r (k+1) n hr (by omega) (by rw[AjD]at hn; omega);have e:BO l (i:Int) (k:Int)=some (if eqS x c=true then .inr (.inr false)else .inl ((k+1:Nat):Int)):=by
   unfold BO;rw[AjN (by omega),AjF rfl,CA hc',Aa,CA hx,Aa,F9 (by omega),AfL c x];cases eqS x c<;>rfl
  show Ab (BO l (i:Int) (k:Int)) _=_;rw[e,List.any_cons];cases eqS x c with
  |true=>rfl
  |false=>rw[AjG (by decide),AkB]; exact ih
theorem Abu {l:List ByteArray}(hz:l.length≤100000): ∀(r:List ByteArray) (i n:Nat),l.drop i=r→r.length<n→iter (BP l) n (i:Int)=some (if AcU (l.take i) r=true then .inl ()else .inr false)
 |r,i,0,_,h=>by omega
 | [],i,n+1,h,_=>by
  have hl:l.length≤i:=Akd.1 h;have e:BP l (i:Int)=some (.inr (.inl ())):=by
   unfold BP;rw[AjM (by omega)];rfl
  show Ab (BP l (i:Int)) _=_;rw[e]; rfl
 |c::r,i,n+1,h,hn=>by
  obtain⟨hc,hr,hlt⟩:=D6 h;have ih:=Abu hz r (i+1) n hr (by rw[AjD]at hn; omega);have hin:=Agm hc (by omega) (l.take i) 0 Bl rfl (by omega) (by have:=AX; rw[Aj9]; omega);have hin:iter (BO l (i:Int)) Bl 0=some (if(l.take i).any (eqS c)=true then .inr false else .inl ()):=hin;have e:BP l (i:Int)=some (if(l.take i).any (eqS c)=true then .inr (.inr false)else .inl ((i+1:Nat):Int)):=by
   unfold BP;rw[AjN (by omega),AjF rfl,hin,Aa,F9 (by omega)];cases (l.take i).any (eqS c)<;>rfl
  have ht:l.take (i+1)=l.take i++[c]:=by rw[List.take_add_one,hc]; rfl
  show Ab (BP l (i:Int)) _=_;rw[e];show _=some (if(!((l.take i).any (eqS c))&&AcU (l.take i++[c]) r)=true then _ else _);cases (l.take i).any (eqS c)with
  |true=>rfl
  |false=>
   rw[AjG (by decide),←ht];exact ih
theorem SE {l:List ByteArray}(hz:l.length≤100000):FJ l=some (AcU [] l):=by
 have h:=Abu hz l 0 Bl rfl (by have:=AX; omega);have h:iter (BP l) Bl 0=some (if AcU [] l=true then .inl ()else .inr false):=h;unfold FJ;rw[h];cases AcU [] l<;>rfl
structure FewP (c:g_api_Cert):Prop where
 issuer:c.Issuer.size≤100000
 subject:c.Subject.size≤100000
 names: ∀s∈c.Names,s.size≤100000
 nnames:c.Names.length≤100000
 permit: ∀s∈c.Permit,s.size≤100000
 npermit:c.Permit.length≤100000
 nproms:c.Proms.length≤100000
end Go.Proofs.YtibojdgdjhngiaaGreatDoor
end
section
namespace Go.Proofs.YtibojdgdjhngiaaGreatDoor
open Go Go.Gw Go.Ax
def Sd (a:UInt8)(rest:Int):Bool:=(rest==0&&decide (a.toNat<128))||(rest== -1&&decide (128≤a.toNat))
theorem Afq (a:UInt8)(l:List UInt8)(rest:Int)(hl:l.length≤100):FM (a::l,rest)=some (if Sd a rest=true then .inr (a::l)else .inl (toB rest::a::l,rest/256)):=by
 unfold FM Sd;show Ab (gu (rest==0) (idx (a::l) 0)) _=_;rw[show idx (a::l) 0=some a from rfl];have e1:decide ((a.toNat:Int)<128)=decide (a.toNat<128):=by rw[Akc]; omega
 have e2:decide ((a.toNat:Int)≥128)=decide (128≤a.toNat):=by rw[Akc]; omega
 have ea:app 1 ([toB rest]:List UInt8) (a::l)=some (toB rest::a::l):=by
  rw[Hi 1 (by simp only[AjD,AjW]; omega) (by simp only[AjD,AjW]; omega)]; rfl
 cases h0:rest==0 with
 |true=>
  have hr:rest=0:=by simpa using h0
  have h1:(rest== -1)=false:=by rw[hr]; rfl
  rw[Mp,Aa,h1];show Ab (gu ((!(true&&decide ((a.toNat:Int)<128)))&&false) (some a)) _=_;rw[Ake,WH,Aa,e1];cases decide (a.toNat<128)with
  |true=>rfl
  |false=>
   show Ab (app 1 ([toB rest]:List UInt8) (a::l)) _=_;rw[ea,Aa,QS];rfl
 |false=>
  rw[WH,Aa];show Ab (gu ((!(false&&_))&&(rest== -1)) (some a)) _=_;cases h1:rest== -1 with
  |true=>
   show Ab (some a) _=_;rw[Aa,e2];cases decide (128≤a.toNat)with
   |true=>rfl
   |false=>
    show Ab (app 1 ([toB rest]:List UInt8) (a::l)) _=_;rw[ea,Aa,QS];rfl
  |false=>
   show Ab (some default) _=_;rw[Aa];show Ab (app 1 ([toB rest]:List UInt8) (a::l)) _=_;rw[ea,Aa,QS];rfl
theorem AbI {a:UInt8}{l:List UInt8}{rest:Int}(h:Sd a rest=true):V2 (a::l)=Sa rest (a::l):=by
 show Sa (s8 a) l=Sa (rest*256+(a.toNat:Int)) l;congr 1;have ha:=a.toNat_lt;unfold Sd at h;simp only[Akl,AjE,Akg,AjI]at h;unfold s8;rcases h with ⟨h1,h2⟩|⟨h1,h2⟩
 ·rw[AjF h2,h1]; omega
 ·rw[AjG (by omega),h1]; omega
theorem Aao {a c:UInt8}{l:List UInt8}{rest:Int}(hl:l.length≤6)(h:Sd a rest=true)(hp:Sd c (rest*256+(a.toNat:Int))=false):Gq (a::c::l)=true:=by
 cases hq:Gq (a::c::l)with
 |true=>rfl
 |false=>
  have hs:=(Wv hl).1 hq;have ha:=a.toNat_lt;exfalso;unfold Sd at h hp;simp only[Akl,AjE,Akg,AjI]at h;simp only[Bool.or_eq_false_iff,Bool.and_eq_false_iff,AjX,decide_eq_false_iff_not]at hp;by_cases hc:c.toNat<128
  ·rw[AjF hc]at hs;omega
  ·rw[AjG hc]at hs;omega
theorem ZG: ∀(k:Nat) (a:UInt8) (l:List UInt8) (rest n:Int) (f:Nat),(a::l).length+k=8→k<f→ -(128*256^k)≤rest*256+(a.toNat:Int)→rest*256+(a.toNat:Int)<128*256^k→
  Sa rest (a::l)=n→(∀c r,l=c::r→Sd c (rest*256+(a.toNat:Int))=false)→iter FM f (a::l,rest)=some (VW (be8 n))
 |k,a,l,rest,n,0,_,h,_,_,_,_=>by omega
 |k,a,l,rest,n,f+1,hk,hf,h0,h1,hv,hp=>by
  have hlen:l.length+1+k=8:=by simpa using hk
  show Ab (FM (a::l,rest)) _=_;rw[Afq a l rest (by omega)];cases hs:Sd a rest with
  |true=>
   have hl:Gq (a::l)=true:=by
    cases l with
    |nil=>rfl
    |cons c r=>exact Aao (by rw[AjD]at hlen; omega) hs (hp c r rfl)
   have:=ZF hl;rw[AbI hs,hv]at this;rw[this];rfl
  |false=>
   rw[AjG (by decide)];cases k with
   |zero=>
    exfalso;have ha:=a.toNat_lt;rw[Int.pow_zero]at h0 h1;unfold Sd at hs;simp only[Bool.or_eq_false_iff,Bool.and_eq_false_iff,AjX,decide_eq_false_iff_not]at hs;omega
   |succ k=>
    have hb:=LR rest;have hq:rest/256*256+((toB rest).toNat:Int)=rest:=by omega
    have ha:=a.toNat_lt;rw[Int.pow_succ]at h0 h1;refine ZG k (toB rest) (a::l) (rest/256) n f (by simp only[AjD]; omega) (by omega) ?_ ?_ ?_ ?_
    ·rw[hq]; omega
    ·rw[hq]; omega
    ·show Sa (rest/256*256+((toB rest).toNat:Int)) (a::l)=n;rw[hq]; exact hv
    ·intro c r e;cases e;rw[hq]; exact hs
theorem Lj {n:Int}(h0: -9223372036854775808≤n)(h1:n≤9223372036854775807):Cw n=some (Om n):=by
 have hb:=LR n;have hq:n/256*256+((toB n).toNat:Int)=n:=by omega
 have e:=ZG 7 (toB n) [] (n/256) n Bl (by simp) (by have:=AX; omega) (by rw[hq]; show-(128*72057594037927936)≤n; omega) (by rw[hq]; show n<128*72057594037927936; omega) (by show n/256*256+((toB n).toNat:Int)=n; exact hq) (fun c r e=>by cases e);unfold Cw;rw[QS,e];rfl
theorem Vh (x:UInt64):Cw (w64 (x.toNat:Int))=some (NA x):=by
 have:=Agl (x.toNat:Int);have h2: -9223372036854775808≤w64 (x.toNat:Int):=by unfold w64; omega
 exact Lj h2 (by omega)
theorem P3 {l:List g_api_Item}(h:l.length≤1000000):Gc l=some (SK l):=by
 unfold Gc;rw[Kc 56 (by omega) (by omega)]; rfl
theorem AhW {l:List g_api_Item}(h:l.length≤1000000):IE l=some (SK l):=by
 unfold IE;rw[Kc 56 (by omega) (by omega)]; rfl
theorem QM {s:ByteArray}(h:s.size≤1000000):Gl s=some (FB s):=by
 unfold Gl;rw[Kc 1 (by rw[AO]; omega) (by rw[AO]; omega)]; rfl
theorem Ad0 (v:Bool):Mf v=some (Ry v):=by cases v<;>rfl
theorem Pt {l:List ByteArray}(hz: ∀s∈l,s.size≤100000)(hn:l.length≤100000): ∀(r:List ByteArray) (i f:Nat) (o:List g_api_Item),l.drop i=r→r.length<f→o.length≤i→iter (BK l) f ((i:Int),o)=some (o++r.map FB)
 |r,i,0,o,_,h,_=>by omega
 | [],i,f+1,o,h,_,_=>by
  have hl:l.length≤i:=Akd.1 h;have e:BK l ((i:Int),o)=some (.inr o):=by
   unfold BK;show(if decide ((i:Int)<(l.length:Int))=true then _ else _)=_;rw[AjM (by omega)];rfl
  show Ab (BK l ((i:Int),o)) _=_;rw[e];simp
 |s::r,i,f+1,o,h,hf,ho=>by
  obtain⟨hc,hr,hlt⟩:=D6 h;have e:BK l ((i:Int),o)=some (.inl (((i+1:Nat):Int),o++[FB s])):=by
   unfold BK;show(if decide ((i:Int)<(l.length:Int))=true then _ else _)=_;rw[AjN (by omega),AjF rfl];show Ab (idx l (i:Int)) _=_;rw[CA hc,Aa,QM (by have:=hz s (Aj2 hc); omega),Aa];show Ab (app 56 o [FB s]) _=_;rw[Hi 56 (by show(o.length+1)*56≤_; omega) (by show o.length+1≤_; omega),Aa,F9 (by omega)]
  show Ab (BK l ((i:Int),o)) _=_;rw[e];show iter (BK l) f (((i+1:Nat):Int),o++[FB s])=_;rw[Pt hz hn r (i+1) f (o++[FB s]) hr (by rw[AjD]at hf; omega) (by rw[AjJ]; show o.length+1≤_; omega)];simp
theorem SI {l:List ByteArray}(hz: ∀s∈l,s.size≤100000)(hn:l.length≤100000):Fh l=some (HY l):=by
 have h:=Pt hz hn l 0 Bl [] rfl (by have:=AX; omega) (by simp);have h:iter (BK l) Bl (0,[])=some (l.map FB):=h;unfold Fh;rw[h];rfl
structure Fits (c:g_api_Cert):Prop where
 few:FewP c
 serial: -9223372036854775808≤c.Serial∧c.Serial≤9223372036854775807
 frm: -9223372036854775808≤c.From∧c.From≤9223372036854775807
 til: -9223372036854775808≤c.Until∧c.Until≤9223372036854775807
 depth: -9223372036854775808≤c.Depth∧c.Depth≤9223372036854775807
 proms: ∀p∈c.Proms,(-9223372036854775808≤p.Log∧p.Log≤9223372036854775807)∧(-9223372036854775808≤p.At∧p.At≤9223372036854775807)
theorem Ae1 {c:g_api_Cert}(h:Fits c):K0 c=some (Aa6 c):=by
 have k:=h.few;have k1:=k.issuer; have k2:=k.subject; have k3:=k.nnames; have k4:=k.npermit;unfold K0;rw[Lj h.serial.1 h.serial.2,Aa,QM (s:=c.Issuer) (by omega),Aa,QM (s:=c.Subject) (by omega),Aa,Vh,Aa,SI (l:=c.Names) (fun s hs=>by have:=k.names s hs; omega) (by omega),Aa,Lj h.frm.1 h.frm.2,Aa,
  Lj h.til.1 h.til.2,Aa,Ad0,Aa,Lj h.depth.1 h.depth.2,Aa,SI (l:=c.Permit) (fun s hs=>by have:=k.permit s hs; omega) (by omega),Aa,P3 (by simp),Aa]
 rfl
theorem Abv (a b:UInt64):Hu a b=some [NA a,NA b]:=by
 unfold Hu;rw[Vh,Aa,Vh,Aa]
theorem RB {c:g_api_Cert}(h:Fits c): ∀(r:List g_api_Promise) (i f:Nat) (o:List g_api_Item),c.Proms.drop i=r→r.length<f→o.length≤i→iter (BX c) f ((i:Int),o)=some (o++r.map LY)
 |r,i,0,o,_,h,_=>by omega
 | [],i,f+1,o,h,_,_=>by
  have hl:c.Proms.length≤i:=Akd.1 h;have e:BX c ((i:Int),o)=some (.inr o):=by
   unfold BX;show(if decide ((i:Int)<(c.Proms.length:Int))=true then _ else _)=_;rw[AjM (by omega)];rfl
  show Ab (BX c ((i:Int),o)) _=_;rw[e];simp
 |p::r,i,f+1,o,hd,hf,ho=>by
  obtain⟨hc,hr,hlt⟩:=D6 hd;have hp:=h.proms p (Aj2 hc);have hn:=h.few.nproms;have e:BX c ((i:Int),o)=some (.inl (((i+1:Nat):Int),o++[LY p])):=by
   unfold BX;show(if decide ((i:Int)<(c.Proms.length:Int))=true then _ else _)=_;rw[AjN (by omega),AjF rfl];show Ab (idx c.Proms (i:Int)) _=_;rw[CA hc,Aa,Lj hp.1.1 hp.1.2,Aa,Lj hp.2.1 hp.2.2,Aa,AhW (by simp),Aa,Abv,Aa];show Ab (app 56 [Om p.Log,Om p.At] [NA p.Leaf.1,NA p.Leaf.2]) _=_;rw[Hi 56 (by simp) (by simp),Aa,Abv,Aa,Hi 56 (by simp) (by simp),Aa];show Ab (app 56 o [LY p]) _=_;rw[Hi 56 (by show(o.length+1)*56≤_; omega) (by show o.length+1≤_; omega),Aa,F9 (by omega)]
  show Ab (BX c ((i:Int),o)) _=_;rw[e];show iter (BX c) f (((i+1:Nat):Int),o++[LY p])=_;rw[RB h r (i+1) f (o++[LY p]) hr (by rw[AjD]at hf; omega) (by rw[AjJ]; show o.length+1≤_; omega)];simp
theorem Ad2 {c:g_api_Cert}(h:Fits c):H4 c=some (W4 c):=by
 have hn:=h.few.nproms;have hl:=RB h c.Proms 0 Bl [] rfl (by have:=AX; omega) (by simp);have hl:iter (BX c) Bl (0,[])=some (c.Proms.map LY):=hl;unfold H4;rw[hl,Aa,Aa,Ae1 h,Aa,P3 (by simp),Aa];rfl
theorem Aaa {c:g_api_Cert}(h:Fits c):IB c=some (wholeI c):=by
 unfold IB;rw[Ad2 h,Aa,Abv,Aa,P3 (by simp),Aa,P3 (by simp),Aa];rfl
end Go.Proofs.YtibojdgdjhngiaaGreatDoor
end
section
namespace Go.Proofs.YtibojdgdjhngiaaGreatDoor
open Go Go.Gw Go.Ax
theorem N5 (n:Int):Gb n=some (numB n):=rfl
theorem ZA (a b:UInt64)(n:Nat):decide ((UR a b).toNat<n)=(decide (a.toNat<n)&&decide (b.toNat<n)):=by
 rw[Akn,AjE,AjI,AjI,AjI];unfold UR;by_cases hc:b>a
 ·rw[AjF hc];have:=UInt64.lt_iff_toNat_lt.1 hc;omega
 ·rw[AjG hc];have: ¬a.toNat<b.toNat:=fun x=>hc (UInt64.lt_iff_toNat_lt.2 x);omega
theorem US (x:UInt64)(n:Nat):decide ((x.toNat:Int)<(n:Int))=decide (x.toNat<n):=by rw[Akc]; omega
theorem Y4 (s:g_api_Sig):FK s=some (sigB s):=by
 have e1:decide ((s.E.toNat:Int)<1152921504606845789)=decide (s.E.toNat<1152921504606845789):=US s.E 1152921504606845789;have e2:decide ((s.S.toNat:Int)<1152921504606845789)=decide (s.S.toNat<1152921504606845789):=US s.S 1152921504606845789;unfold FK sigB;rw[Az,ZA,e1,e2]
theorem AcA (p:g_api_Promise):GJ p=some (promBC p):=by
 have e1:decide ((p.Leaf.1.toNat:Int)<2305843009213693951)=decide (p.Leaf.1.toNat<2305843009213693951):=US p.Leaf.1 2305843009213693951;have e2:decide ((p.Leaf.2.toNat:Int)<2305843009213693951)=decide (p.Leaf.2.toNat<2305843009213693951):=US p.Leaf.2 2305843009213693951;unfold GJ promBC;rw[N5,Aa,N5,U1,Aa,Y4,U1,Aa,Az,ZA,e1,e2];cases numB p.Log<;>cases numB p.At<;>cases decide (p.Leaf.1.toNat<2305843009213693951)<;>cases decide (p.Leaf.2.toNat<2305843009213693951)<;>cases sigB p.Sig<;>rfl
theorem Px {c:g_api_Cert}(hz: ∀s∈c.Names,s.size≤100000)(hn:c.Names.length≤100000): ∀(r:List ByteArray) (i f:Nat),c.Names.drop i=r→r.length<f→iter (Cr c) f (i:Int)=some (if r.all (fun s=>nameV s==0)=true then .inl ()else .inr false)
 |r,i,0,_,h=>by omega
 | [],i,f+1,h,_=>by
  have hl:c.Names.length≤i:=Akd.1 h;have e:Cr c (i:Int)=some (.inr (.inl ())):=by
   unfold Cr;rw[AjM (by omega)];rfl
  show Ab (Cr c (i:Int)) _=_;rw[e]; rfl
 |s::r,i,f+1,h,hf=>by
  obtain⟨hc,hr,hlt⟩:=D6 h;have ih:=Px hz hn r (i+1) f hr (by rw[AjD]at hf; omega);have e:Cr c (i:Int)=some (if(nameV s==0)=true then .inl ((i+1:Nat):Int)else .inr (.inr false)):=by
   unfold Cr;rw[AjN (by omega),AjF rfl,CA hc,Aa,Agh (hz s (Aj2 hc)),Aa,F9 (by omega)];cases nameV s==0<;>rfl
  show Ab (Cr c (i:Int)) _=_;rw[e,Akv];cases nameV s==0 with
  |false=>rfl
  |true=>rw[AjF rfl,Akb]; exact ih
theorem N1 {c:g_api_Cert}(hz: ∀s∈c.Permit,s.size≤100000)(hn:c.Permit.length≤100000): ∀(r:List ByteArray) (i f:Nat),c.Permit.drop i=r→r.length<f→iter (Cq c) f (i:Int)=some (if r.all (fun s=>patV s==0)=true then .inl ()else .inr false)
 |r,i,0,_,h=>by omega
 | [],i,f+1,h,_=>by
  have hl:c.Permit.length≤i:=Akd.1 h;have e:Cq c (i:Int)=some (.inr (.inl ())):=by
   unfold Cq;rw[AjM (by omega)];rfl
  show Ab (Cq c (i:Int)) _=_;rw[e]; rfl
 |s::r,i,f+1,h,hf=>by
  obtain⟨hc,hr,hlt⟩:=D6 h;have ih:=N1 hz hn r (i+1) f hr (by rw[AjD]at hf; omega);have e:Cq c (i:Int)=some (if(patV s==0)=true then .inl ((i+1:Nat):Int)else .inr (.inr false)):=by
   unfold Cq;rw[AjN (by omega),AjF rfl,CA hc,Aa,W7 (hz s (Aj2 hc)),Aa,F9 (by omega)];show(if(!(patV s==0))=true then _ else _)=_;cases patV s==0<;>rfl
  show Ab (Cq c (i:Int)) _=_;rw[e,Akv];cases patV s==0 with
  |false=>rfl
  |true=>rw[AjF rfl,Akb]; exact ih
def Afn (c:g_api_Cert):Bool:=if c.Ca=true then textV c.Subject&&((c.Names.length:Int)==0)&&decide (c.Depth≥0)&&decide (c.Depth≤4)&&listV patV c.Permit 0 8 else eqS c.Subject (⟨#[]⟩:ByteArray)&&listV nameV c.Names 1 8&&(c.Depth==0)&&((c.Permit.length:Int)==0)
theorem Adc {c:g_api_Cert}(h:FewP c):JT c=some (Afn c):=by
 have h1:=h.nnames; have h2:=h.npermit; have h3:=h.subject;unfold JT Afn;cases c.Ca with
 |false=>
  have hl:=Px (c:=c) (fun s hs=>by have:=h.names s hs; omega) (by omega) c.Names 0 Bl rfl (by have:=AX; omega);have hl:iter (Cr c) Bl 0=some (if c.Names.all (fun s=>nameV s==0)=true then .inl ()else .inr false):=hl;show(if(!false)=true then _ else _)=some (eqS c.Subject (⟨#[]⟩:ByteArray)&&(Ns nameV [] c.Names&&decide ((c.Names.length:Int)≥1)&&decide ((c.Names.length:Int)≤8))&&(c.Depth==0)&&((c.Permit.length:Int)==0));rw[AjF (show(!false)=true from rfl),hl,SE (by omega),Rb];cases c.Names.all (fun s=>nameV s==0)with
  |false=>
   show some false=_;rw[Akt,Akt,Akt,Ake,Akt,Akt]
  |true=>
   rw[AjF (show true=true from rfl),Aa];show Ab (gu _ (some (AcU [] c.Names))) _=_;rw[U1,Aa,Az,Akb];cases eqS c.Subject (⟨#[]⟩:ByteArray)<;>cases decide ((c.Names.length:Int)≥1)<;>cases decide ((c.Names.length:Int)≤8)<;>cases AcU [] c.Names<;>rfl
 |true=>
  have hl:=N1 (c:=c) (fun s hs=>by have:=h.permit s hs; omega) (by omega) c.Permit 0 Bl rfl (by have:=AX; omega);have hl:iter (Cq c) Bl 0=some (if c.Permit.all (fun s=>patV s==0)=true then .inl ()else .inr false):=hl;show(if(!true)=true then _ else _)=some (textV c.Subject&&((c.Names.length:Int)==0)&&decide (c.Depth≥0)&&decide (c.Depth≤4)&&(Ns patV [] c.Permit&&decide ((c.Permit.length:Int)≥0)&&decide ((c.Permit.length:Int)≤8)));rw[AjG (show¬(!true)=true from by decide),hl,SE (by omega),V1 (by omega),Rb,AjN (show(c.Permit.length:Int)≥0 from by omega)];cases c.Permit.all (fun s=>patV s==0)with
  |false=>
   show some false=_;rw[Akt,Akt,Akt,Ake]
  |true=>
   rw[AjF (show true=true from rfl),Aa];show Ab (some (textV c.Subject)) _=_;rw[Aa,U1,Aa,Az,Akb];cases textV c.Subject<;>cases ((c.Names.length:Int)==0)<;>cases decide (c.Depth≥0)<;>cases decide (c.Depth≤4)<;>cases decide ((c.Permit.length:Int)≤8)<;>cases AcU [] c.Permit<;>rfl
theorem Acy {p:g_api_Promise}(h:promBC p=true):0≤p.Log:=by
 unfold promBC at h;simp only[AjE]at h;have:=h.1.1.1;unfold numB at this;simp only[AjE,AjI]at this;omega
theorem Pw {c:g_api_Cert}(hn:c.Proms.length≤100000): ∀(r:List g_api_Promise) (i f:Nat) (last:Int),c.Proms.drop i=r→r.length<f→(i=0→last= -1)→(1≤i→∃q,c.Proms[i-1]? =some q∧q.Log=last)→
  iter (Cs c) f (i:Int)=some (if promsB last r=true then .inl ()else .inr false)
 |r,i,0,last,_,h,_,_=>by omega
 | [],i,f+1,last,h,_,_,_=>by
  have hl:c.Proms.length≤i:=Akd.1 h;have e:Cs c (i:Int)=some (.inr (.inl ())):=by
   unfold Cs;rw[AjM (by omega)];rfl
  show Ab (Cs c (i:Int)) _=_;rw[e]; rfl
 |p::r,i,f+1,last,h,hf,l0,l1=>by
  obtain⟨hc,hr,hlt⟩:=D6 h;have ih:=Pw hn r (i+1) f p.Log hr (by rw[AjD]at hf; omega) (by omega) (fun _=>⟨p,hc,rfl⟩);have e:Cs c (i:Int)=some (if(promBC p&& !(decide (p.Log≤last)))=true then .inl ((i+1:Nat):Int)else .inr (.inr false)):=by
   unfold Cs;rw[AjN (show(i:Int)<(c.Proms.length:Int)from by omega),AjF rfl,CA hc,Aa,AcA,Aa,F9 (by omega)];cases hp:promBC p with
   |false=>rfl
   |true=>
    by_cases h0:i=0
    ·have hl:=l0 h0;have hpl:=(Acy hp);rw[AjM (show¬(i:Int)>0 from by omega),AjM (show¬p.Log≤last from by omega)];rfl
    ·obtain⟨q,hq,hql⟩:=l1 (by omega);have hw:w64 ((i:Int)-1)=((i-1:Nat):Int):=by rw[Ay (by omega) (by omega)]; omega
     rw[AjN (show(i:Int)>0 from by omega),hw,CA hq];show Ab (some q) (fun x10=>Ab (some p) fun x11=>if((!true)||(true&&decide (x10.Log≥x11.Log)))=true then some (.inr (.inr false):Int⊕(Unit⊕Bool))else some (.inl ((i+1:Nat):Int)))=_;rw[Aa,Aa,hql];have:decide (last≥p.Log)=decide (p.Log≤last):=rfl;rw[this];cases decide (p.Log≤last)<;>rfl
  show Ab (Cs c (i:Int)) _=_;rw[e];show _=some (if(promBC p&& !(decide (p.Log≤last))&&promsB p.Log r)=true then _ else _);cases promBC p&& !(decide (p.Log≤last))with
  |false=>rfl
  |true=>rw[AjF rfl,Akb]; exact ih
theorem Adt {c:g_api_Cert}(h:FewP c):JU c=some (formB c):=by
 have h1:=h.issuer; have h2:=h.nproms;have hl:=Pw (c:=c) (by omega) c.Proms 0 Bl (-1) rfl (by have:=AX; omega) (fun _=>rfl) (fun h=>by omega);have hl:iter (Cs c) Bl 0=some (if promsB (-1) c.Proms=true then .inl ()else .inr false):=hl;have eF:formB c=(promsB (-1) c.Proms&&(numB c.Serial&&numB c.From&&numB c.Until&&decide (c.From<c.Until))&&
  (textV c.Issuer&&(!((c.Key.toNat:Int)==0))&&decide ((c.Key.toNat:Int)<2305843009213691579)&&decide ((c.Proms.length:Int)≤4)&&sigB c.Sig)&&Afn c):=rfl
 have e1:decide (c.From≥c.Until)= !decide (c.From<c.Until):=by rw[←decide_not,Akc]; omega
 have e2:decide ((c.Key.toNat:Int)≥2305843009213691579)= !decide ((c.Key.toNat:Int)<2305843009213691579):=by rw[←decide_not,Akc]; omega
 have e3:decide ((c.Proms.length:Int)>4)= !decide ((c.Proms.length:Int)≤4):=by rw[←decide_not,Akc]; omega
 have e4:decide ((c.Key.toNat:Int)<1)=((c.Key.toNat:Int)==0):=by
  rw[Akn,AjI,Akg]; omega
 rw[eF];unfold JU;rw[N5,Aa,N5,U1,Aa,N5,U1,Aa,V1 (by omega),U1,Aa,Y4,U1,Aa,hl,Adc h,e1,e2,e3,e4];generalize numB c.Serial=a1;generalize numB c.From=a2;generalize numB c.Until=a3;generalize decide (c.From<c.Until)=a4;generalize textV c.Issuer=b1;generalize ((c.Key.toNat:Int)==0)=b2;generalize decide ((c.Key.toNat:Int)<2305843009213691579)=b3;generalize decide ((c.Proms.length:Int)≤4)=b4;generalize sigB c.Sig=b5;generalize Afn c=k;generalize promsB (-1) c.Proms=p;cases a1<;>cases a2<;>cases a3<;>cases a4<;>try (cases p<;>rfl)
 all_goals cases b1<;>cases b2<;>cases b3<;>cases b4<;>cases b5<;>cases p<;>try rfl
 all_goals cases k<;>rfl
end Go.Proofs.YtibojdgdjhngiaaGreatDoor
end
section
namespace Go.Proofs.YtibojdgdjhngiaaGreatDoor
open Go Go.Gw Go.Ax
theorem AaN (l:List UInt8):ID l=some (Gq l):=by
 match l with
 | []=>rfl
 | [a]=>rfl
 |a::b::l=>
  unfold ID;by_cases h8:(a::b::l).length≤8
  ·have e0:(decide (((a::b::l).length:Int)<1)||decide (((a::b::l).length:Int)>8))=false:=by
    rw[Bool.or_eq_false_iff,decide_eq_false_iff_not,decide_eq_false_iff_not];simp only[AjD]at h8⊢;omega
   have e1:(((a::b::l).length:Int)==1)=false:=by simp only[AjX,AjD]; omega
   have i0:idx (a::b::l) 0=some a:=rfl;have i1:idx (a::b::l) 1=some b:=rfl;have el:Gq (a::b::l)= !((a.toNat:Int)==if b.toNat<128 then 0 else 255):=by
    show(decide (((a::b::l).length:Int)≤8)&& !((a.toNat:Int)==((toB (-((AbN b 7).toNat:Int))).toNat:Int)))=_;rw[V5,AjN (show((a::b::l).length:Int)≤8 from by omega),Akb]
   rw[e0,AjG (by decide),e1,i0,i1,el];rw[show gu (!false) (some a)=some a from rfl,Aa];have ha:=a.toNat_lt;cases hz:((a.toNat:Int)==0)with
   |true=>
    have hz':(a.toNat:Int)=0:=by simpa using hz
    have h255:((a.toNat:Int)==255)=false:=by rw[AjX]; omega
    rw[show gu ((!false)&&true) (some b)=some b from rfl,Aa];by_cases hb:b.toNat<128
    ·rw[AjN (show(b.toNat:Int)<128 from by omega),AjF hb,hz];rfl
    ·rw[AjM (show¬(b.toNat:Int)<128 from by omega),AjG hb,h255];rw[show gu ((!false)&&(!(true&&false))) (some a)=some a from rfl,Aa,h255];rfl
   |false=>
    rw[show gu ((!false)&&false) (some b)=some default from rfl,Aa];rw[show gu ((!false)&&(!(false&&decide (((default:UInt8).toNat:Int)<128)))) (some a)=some a from rfl,Aa];cases h255:((a.toNat:Int)==255)with
    |true=>
     rw[show gu (((!false)&&(!(false&&decide (((default:UInt8).toNat:Int)<128))))&&true) (some b)=some b from rfl,Aa,Az];by_cases hb:b.toNat<128
     ·rw[AjM (show¬(b.toNat:Int)≥128 from by omega),AjF hb,hz];rfl
     ·rw[AjN (show(b.toNat:Int)≥128 from by omega),AjG hb,h255];rfl
    |false=>
     rw[show gu (((!false)&&(!(false&&decide (((default:UInt8).toNat:Int)<128))))&&false) (some b)=some default from rfl,Aa,Az];by_cases hb:b.toNat<128
     ·rw[AjF hb,hz]; rfl
     ·rw[AjG hb,h255]; rfl
  ·have e0:(decide (((a::b::l).length:Int)<1)||decide (((a::b::l).length:Int)>8))=true:=by
    rw[Akl,AjI,AjI]; omega
   rw[e0,AjF rfl];show some false=some (decide (((a::b::l).length:Int)≤8)&&_);rw[AjM (by omega),Akt]
theorem QL {l:List UInt8}(hn:l.length≤1000000): ∀(r:List UInt8) (i f:Nat),l.drop i=r→r.length<f→iter (Cu l) f (i:Int)=some (if Kw r=true then .inl ()else .inr false)
 |r,i,0,_,h=>by omega
 | [],i,f+1,h,_=>by
  have hl:l.length≤i:=Akd.1 h;have e:Cu l (i:Int)=some (.inr (.inl ())):=by
   unfold Cu;rw[AjM (by omega)];rfl
  show Ab (Cu l (i:Int)) _=_;rw[e]; rfl
 |c::r,i,f+1,h,hf=>by
  obtain⟨hc,hr,hlt⟩:=D6 h;have ih:=QL hn r (i+1) f hr (by rw[AjD]at hf; omega);have e:Cu l (i:Int)=some (if(decide (32≤c.toNat)&&decide (c.toNat≤126))=true then .inl ((i+1:Nat):Int)else .inr (.inr false)):=by
   unfold Cu;rw[AjN (by omega),AjF rfl,CA hc,Aa,F9 (by omega)];have e33:decide ((c.toNat:Int)<32)= !decide (32≤c.toNat):=by rw[←decide_not,Akc]; omega
   have e126:decide ((c.toNat:Int)>126)= !decide (c.toNat≤126):=by rw[←decide_not,Akc]; omega
   rw[e33];cases decide (32≤c.toNat)with
   |false=>rfl
   |true=>
    rw[show gu (!(!true)) (some c)=some c from rfl,Aa,e126];cases decide (c.toNat≤126)<;>rfl
  show Ab (Cu l (i:Int)) _=_;rw[e];show _=some (if((decide (32≤c.toNat)&&decide (c.toNat≤126))&&Kw r)=true then _ else _);cases decide (32≤c.toNat)&&decide (c.toNat≤126)with
  |false=>rfl
  |true=>rw[AjF rfl,Akb]; exact ih
theorem Aey {l:List UInt8}(hn:l.length≤1000000):JW l=some (Kw l):=by
 have h:=QL hn l 0 Bl rfl (by have:=AX; omega);have h:iter (Cu l) Bl 0=some (if Kw l=true then .inl ()else .inr false):=h;unfold JW;rw[h];cases Kw l<;>rfl
def EK:Nat→g_api_Item→Prop
 |0,_=>True
 |d+1,x=>x.B.length≤1000000∧x.L.length≤1000000∧∀y∈x.L,EK d y
theorem WL (rF:g_api_Item→Option Bool)(p:g_api_Item→Bool){x:g_api_Item}(hn:x.L.length≤1000000)(hp: ∀y∈x.L,rF y=some (p y)): ∀(r:List g_api_Item) (i f:Nat),x.L.drop i=r→r.length<f→
  iter (Cv rF x) f (i:Int)=some (if r.all p=true then .inl ()else .inr false)
 |r,i,0,_,h=>by omega
 | [],i,f+1,h,_=>by
  have hl:x.L.length≤i:=Akd.1 h;have e:Cv rF x (i:Int)=some (.inr (.inl ())):=by
   unfold Cv;rw[AjM (by omega)];rfl
  show Ab (Cv rF x (i:Int)) _=_;rw[e]; rfl
 |y::r,i,f+1,h,hf=>by
  obtain⟨hc,hr,hlt⟩:=D6 h;have ih:=WL rF p hn hp r (i+1) f hr (by rw[AjD]at hf; omega);have e:Cv rF x (i:Int)=some (if p y=true then .inl ((i+1:Nat):Int)else .inr (.inr false)):=by
   unfold Cv;rw[AjN (by omega),AjF rfl,CA hc,Aa,hp y (Aj2 hc),Aa,F9 (by omega)];cases p y<;>rfl
  show Ab (Cv rF x (i:Int)) _=_;rw[e,Akv];cases p y with
  |false=>rfl
  |true=>rw[AjF rfl,Akb]; exact ih
theorem Ri: ∀(d n:Nat) (x:g_api_Item),d≤n→PZ d x→EK d x→D9 n x=some (mayB d x)
 |0,n,x,_,h,_=>h.elim
 |d+1,0,x,h,_,_=>by omega
 |d+1,n+1,x,hn,hd,hs=>by
  have ih: ∀y∈x.L,D9 n y=some (mayB d y):=fun y hy=>Ri d n y (by omega) (hd y hy) (hs.2.2 y hy);have hl:=WL (D9 n) (mayB d) hs.2.1 ih x.L 0 Bl rfl (by have:=AX; have:=hs.2.1; omega);have hl:iter (Cv (D9 n) x) Bl 0=some (if x.L.all (mayB d)=true then .inl ()else .inr false):=hl;show HP (D9 n) x=_;unfold HP mayB;have e2:decide ((x.L.length:Int)>0)= !x.L.isEmpty:=by
   cases x.L with
   |nil=>rfl
   |cons a l=>show decide _=true; rw[AjI,AjD]; omega
  rw[e2,show(x.Tag !=48)= !(x.Tag==48)from rfl];cases hE:x.L.isEmpty with
  |false=>
   cases h48:x.Tag==48 with
   |false=>
    rw[show((!false)&&(!false))=true from rfl,AjF rfl,AkB,Ake,Akt]
   |true=>
    have ht:x.Tag=48:=by simpa using h48
    rw[show((!true)&&(!false))=false from rfl,AjG (by decide),ht,AjG (by decide),AjG (by decide),AjG (by decide),AjG (by decide),AjF (by decide),hl];show _=some ((x.B.isEmpty&&(true||false))&&x.L.all (mayB d));have eb:((x.B.length:Int)==0)=x.B.isEmpty:=by
     cases x.B with
     |nil=>rfl
     |cons a l=>show _=false; rw[AjX,AjD]; omega
    cases x.L.all (mayB d)with
    |false=>rw[Ake]; rfl
    |true=>
     show some ((x.B.length:Int)==0)=_;rw[eb,AkE,Bool.true_or,AkE]
  |true=>
   have hLn:x.L=[]:=List.isEmpty_iff.1 hE;have hall:x.L.all (mayB d)=true:=by rw[hLn]; rfl
   rw[hall]at hl;rw[hall,Bool.or_true,AkE,AkE,AkD,Ake,AjG (by decide)];by_cases h1:x.Tag=1
   ·rw[h1,AjF (by decide)];have:=Wx x.B;unfold Fv at this;rw[this];rfl
   rw[AjG (show¬(x.Tag==1)=true from by simp[h1])];by_cases h2:x.Tag=2
   ·rw[h2,AjF (by decide),AaN];rfl
   rw[AjG (show¬(x.Tag==2)=true from by simp[h2])];by_cases h4:x.Tag=4
   ·rw[h4,AjF (by decide)];rfl
   rw[AjG (show¬(x.Tag==4)=true from by simp[h4])];by_cases h12:x.Tag=12
   ·rw[h12,AjF (by decide),Aey hs.1];rfl
   rw[AjG (show¬(x.Tag==12)=true from by simp[h12])];by_cases h48:x.Tag=48
   ·rw[h48,AjF (by decide),hl];have eb:((x.B.length:Int)==0)=x.B.isEmpty:=by
     cases x.B with
     |nil=>rfl
     |cons a l=>show _=false; rw[AjX,AjD]; omega
    show some ((x.B.length:Int)==0)=some x.B.isEmpty;rw[eb]
   ·rw[AjG (show¬(x.Tag==48)=true from by simp[h48])];unfold PV;rw[AjG h1,AjG h2,AjG h4,AjG h12,AjG h48]
theorem WY (rF:g_api_Item→Option Int)(d:Nat){x:g_api_Item}(hn:x.L.length≤1000000)(hp: ∀y∈x.L,∃k:Int,rF y=some k∧1≤k∧k≤d): ∀(r:List g_api_Item) (i f:Nat) (m:Int),x.L.drop i=r→r.length<f→0≤m→m≤d→
  ∃k:Int,iter (Cx rF x) f (m,(i:Int))=some k∧0≤k∧k≤d
 |r,i,0,m,_,h,_,_=>by omega
 | [],i,f+1,m,h,_,h0,h1=>by
  have hl:x.L.length≤i:=Akd.1 h;have e:Cx rF x (m,(i:Int))=some (.inr m):=by
   unfold Cx;show(if decide ((i:Int)<(x.L.length:Int))=true then _ else _)=_;rw[AjM (by omega)];rfl
  refine⟨m,?_,h0,h1⟩;show Ab (Cx rF x (m,(i:Int))) _=_;rw[e]; rfl
 |y::r,i,f+1,m,h,hf,h0,h1=>by
  obtain⟨hc,hr,hlt⟩:=D6 h;obtain⟨q,hq,q1,q2⟩:=hp y (Aj2 hc);obtain⟨k,e,k0,k1⟩:=WY rF d hn hp r (i+1) f (Afi m q) hr (by rw[AjD]at hf; omega) (by unfold Afi; split<;>omega) (by unfold Afi; split<;>omega);refine⟨k,?_,k0,k1⟩;have es:Cx rF x (m,(i:Int))=some (.inl (Afi m q,((i+1:Nat):Int))):=by
   unfold Cx;show(if decide ((i:Int)<(x.L.length:Int))=true then _ else _)=_;rw[AjN (by omega),AjF rfl];show Ab (idx x.L (i:Int)) _=_;rw[CA hc,Aa,hq,Aa,F9 (by omega)]
  show Ab (Cx rF x (m,(i:Int))) _=_;rw[es];exact e
theorem AdI: ∀(d n:Nat) (x:g_api_Item),d≤n→d≤1000→PZ d x→EK d x→∃k:Int,ET n x=some k∧1≤k∧k≤d
 |0,n,x,_,_,h,_=>h.elim
 |d+1,0,x,h,_,_,_=>by omega
 |d+1,n+1,x,hn,hk,hd,hs=>by
  obtain⟨k,e,k0,k1⟩:=WY (ET n) d hs.2.1 (fun y hy=>AdI d n y (by omega) (by omega) (hd y hy) (hs.2.2 y hy)) x.L 0 Bl 0 rfl (by have:=AX; have:=hs.2.1; omega) (by omega) (by omega);have e:iter (Cx (ET n) x) Bl (0,0)=some k:=e;refine⟨k+1,?_,by omega,by omega⟩;show FN (ET n) x=_;unfold FN;rw[e,Aa,Aa,Ay (by omega) (by omega)]
theorem Z8 {x:g_api_Item}(hd:PZ 8 x)(hs:EK 8 x):Jf x=some (mayB 8 x):=by
 obtain⟨k,e,k0,k1⟩:=AdI 8 Bl x (by have:=AX; omega) (by decide) hd hs;have e:Me x=some k:=e;have ef:EY x=some (mayB 8 x):=Ri 8 Bl x (by have:=AX; omega) hd hs;unfold Jf;rw[ef,Aa,e];cases mayB 8 x with
 |false=>rfl
 |true=>
  rw[Mp,Aa,AjN (show k≤8 from by omega)];rfl
theorem X7 {n:Nat}(hn:n≤100000000000000):HO (n:Int)=some (Hg n):=by
 unfold HO Hg;by_cases h1:n<128
 ·rw[AjN (show(n:Int)<128 from by omega),AjF rfl,AjF h1]
 ·rw[AjM (show¬(n:Int)<128 from by omega),AjG (by decide),AjG h1];by_cases h2:n<256
  ·rw[AjN (show(n:Int)<256 from by omega),AjF rfl,AjF h2]
  ·rw[AjM (show¬(n:Int)<256 from by omega),AjG (by decide),AjG h2,Az];have e:w64 (Int.tdiv (n:Int) 256)=Cl (n:Int) 8:=by
    have:Int.tdiv (n:Int) 256=(n:Int)/256:=Int.tdiv_eq_ediv_of_nonneg (by omega);rw[this];unfold Cl;rw[Int.fdiv_eq_ediv_of_nonneg _ (by decide)];show w64 ((n:Int)/256)=(n:Int)/256;rw[Ay (by omega) (by omega)]
   rw[e]
theorem To (rF:g_api_Item→Option (List UInt8))(p:g_api_Item→List UInt8){x:g_api_Item}(hn:x.L.length≤1000000)(hp: ∀y∈x.L,rF y=some (p y)): ∀(r:List g_api_Item) (i f:Nat) (a:List UInt8),x.L.drop i=r→r.length<f→a.length+(r.flatMap p).length≤100000000000000→
  iter (BM rF x) f (a,(i:Int))=some (a++r.flatMap p)
 |r,i,0,a,_,h,_=>by omega
 | [],i,f+1,a,h,_,_=>by
  have hl:x.L.length≤i:=Akd.1 h;have e:BM rF x (a,(i:Int))=some (.inr a):=by
   unfold BM;show(if decide ((i:Int)<(x.L.length:Int))=true then _ else _)=_;rw[AjM (by omega)];rfl
  show Ab (BM rF x (a,(i:Int))) _=_;rw[e];simp
 |y::r,i,f+1,a,h,hf,ha=>by
  obtain⟨hc,hr,hlt⟩:=D6 h;rw[Akz,AjJ]at ha;have es:BM rF x (a,(i:Int))=some (.inl (a++p y,((i+1:Nat):Int))):=by
   unfold BM;show(if decide ((i:Int)<(x.L.length:Int))=true then _ else _)=_;rw[AjN (by omega),AjF rfl];show Ab (idx x.L (i:Int)) _=_;rw[CA hc,Aa,hp y (Aj2 hc),Aa];show Ab (app 1 a (p y)) _=_;rw[Hi 1 (by omega) (by omega),Aa,F9 (by omega)]
  show Ab (BM rF x (a,(i:Int))) _=_;rw[es];show iter (BM rF x) f (a++p y,((i+1:Nat):Int))=_;rw[To rF p hn hp r (i+1) f (a++p y) hr (by rw[AjD]at hf; omega) (by rw[AjJ]; omega),Akz,AjP]
theorem Zy (p:g_api_Item→List UInt8){y:g_api_Item}: ∀{l:List g_api_Item},y∈l→(p y).length≤(l.flatMap p).length
 |z::l,h=>by
  rw[Akz,AjJ];rcases Aj5.1 h with e|h
  ·rw[e]; omega
  ·have:=Zy p h; omega
theorem AdX: ∀(d n:Nat) (x:g_api_Item),d≤n→PZ d x→EK d x→(putB d x).length≤10000000000000→DA n x=some (putB d x)
 |0,n,x,_,h,_,_=>h.elim
 |d+1,0,x,h,_,_,_=>by omega
 |d+1,n+1,x,hn,hd,hs,hl=>by
  have eP:putB (d+1) x=toB x.Tag::(Hg (x.B++x.L.flatMap (putB d)).length++(x.B++x.L.flatMap (putB d))):=rfl;rw[eP]at hl⊢;simp only[AjD,AjJ]at hl;have ih: ∀y∈x.L,DA n y=some (putB d y):=fun y hy=>AdX d n y (by omega) (hd y hy) (hs.2.2 y hy) (by have:=Zy (putB d) hy; omega);have hloop:=To (DA n) (putB d) hs.2.1 ih x.L 0 Bl x.B rfl (by have:=AX; have:=hs.2.1; omega) (by omega);have hloop:iter (BM (DA n) x) Bl (x.B,0)=some (x.B++x.L.flatMap (putB d)):=hloop;show GM (DA n) x=_;unfold GM;have hb:=Oh (x.B++x.L.flatMap (putB d)).length;rw[Kc 1 (by omega) (by omega),Aa,hloop,Aa,Aa];have hc:(x.B++x.L.flatMap (putB d)).length≤10000000000000:=by rw[AjJ]; omega
  generalize x.B++x.L.flatMap (putB d)=c at hb hc⊢;rw[X7 (by omega),Aa,Hi 1 (by simp only[AjD,AjW]; omega) (by simp only[AjD,AjW]; omega),Aa,Hi 1 (by simp only[AjJ,AjD,AjW]; omega) (by simp only[AjJ,AjD,AjW]; omega),Aa];simp
theorem Age {x:g_api_Item}(hd:PZ 8 x)(hs:EK 8 x)(hl:(putB 8 x).length≤10000000000):K4 x=KE x:=by
 rw[Aee (by omega)];unfold K4;rw[Z8 hd hs,Aa];cases hm:mayB 8 x with
 |false=>rfl
 |true=>
  have eb:K3 x=some (putB 8 x):=AdX 8 Bl x (by have:=AX; omega) hd hs (by omega);rw[show(!true)=false from rfl,AjG (by decide),eb,Aa,AjF rfl];by_cases h:(putB 8 x).length≤8192
  ·rw[AjM (show¬((putB 8 x).length:Int)>8192 from by omega),AjF h];rfl
  ·rw[AjN (show((putB 8 x).length:Int)>8192 from by omega),AjG h];rfl
end Go.Proofs.YtibojdgdjhngiaaGreatDoor
end
section
namespace Go.Proofs.YtibojdgdjhngiaaGreatDoor
open Go Go.Gw Go.Ax
end Go.Proofs.YtibojdgdjhngiaaGreatDoor
end
section
namespace Go.Proofs.YtibojdgdjhngiaaGreatDoor
open Go Go.Gw Go.Ax
theorem Ro {p q:g_api_Sig}:HD p q=true↔p=q:=by
 cases p; cases q;unfold HD;simp
theorem Tg {p q:g_api_Promise}:De p q=true↔p=q:=by
 obtain⟨a,b,⟨c,d⟩,e⟩:=p;obtain⟨a',b',⟨c',d'⟩,e'⟩:=q;unfold De Oq;simp[Ro]
end Go.Proofs.YtibojdgdjhngiaaGreatDoor
end
section
namespace Go.Proofs.YtibojdgdjhngiaaGreatDoor
open Go Go.Gw Go.Ax
theorem Ajb {c:g_api_Cert}(h:FewP c)(F:Form c):Fits c:=by
 have n:=F.nums;have h1:=n.serial; have h2:=n.frm; have h3:=n.til; have h4:=n.depth;refine⟨h,by omega,by omega,by omega,by omega,fun p hp=> ?_⟩;obtain⟨q1,q2,_⟩:=Acx (n.proms p hp);omega
theorem F6 {x:g_api_Item}(h:x.L=[])(d:Nat):PZ (d+1) x:=by
 intro y hy;rw[h]at hy;cases hy
theorem Nv {d:Nat}{l:List g_api_Item}(h: ∀y∈l,PZ d y):PZ (d+1) (SK l):=h
theorem XH {x:g_api_Item}(h:x.L=[])(hb:x.B.length≤1000000)(d:Nat):EK d x:=by
 cases d with
 |zero=>trivial
 |succ d=>
  refine⟨hb,by rw[h]; simp,fun y hy=> ?_⟩;rw[h]at hy;cases hy
theorem QR {d:Nat}{l:List g_api_Item}(hl:l.length≤1000000)(h: ∀y∈l,EK d y):EK (d+1) (SK l):=⟨by show(0:Nat)≤_; omega,hl,h⟩
theorem Pu (n:Int)(d:Nat):EK d (Om n):=XH rfl (by have:=P0 (be8 n); have h8:(be8 n).length=8:=rfl; show(VW (be8 n)).length≤_; omega) d
theorem XG {s:ByteArray}(h:s.size≤1000000)(d:Nat):EK d (FB s):=XH rfl (by show s.data.toList.length≤_; rw[AO]; exact h) d
theorem AhQ (v:Bool)(d:Nat):EK d (Ry v):=XH rfl (by show(1:Nat)≤_; omega) d
theorem WX (l:List ByteArray)(d:Nat):PZ (d+2) (HY l):=Nv fun y hy=>by
 obtain⟨s,_,e⟩:=List.mem_map.1 hy;rw[←e]; exact F6 rfl d
theorem Y2 {l:List ByteArray}(hl:l.length≤100000)(h: ∀s∈l,s.size≤100000)(d:Nat):EK (d+1) (HY l):=QR (by rw[Akh]; omega) fun y hy=>by
 obtain⟨s,hs,e⟩:=List.mem_map.1 hy;rw[←e]; exact XG (by have:=h s hs; omega) d
theorem Ajg (c:g_api_Cert)(d:Nat):PZ (d+3) (Aa6 c):=Nv fun y hy=>by
 simp only[Aj5,List.not_mem_nil,or_false]at hy;rcases hy with q|q|q|q|q|q|q|q|q|q<;>rw[q]
 ·exact F6 rfl _
 ·exact F6 rfl _
 ·exact F6 rfl _
 ·exact F6 rfl _
 ·exact WX _ _
 ·exact F6 rfl _
 ·exact F6 rfl _
 ·exact F6 rfl _
 ·exact F6 rfl _
 ·exact WX _ _
theorem sm_pre {c:g_api_Cert}(h:FewP c)(d:Nat):EK (d+2) (Aa6 c):=QR (by simp) fun y hy=>by
 have h1:=h.issuer; have h2:=h.subject; have h3:=h.nnames; have h4:=h.npermit;simp only[Aj5,List.not_mem_nil,or_false]at hy;rcases hy with q|q|q|q|q|q|q|q|q|q<;>rw[q]
 ·exact Pu _ _
 ·exact XG (by omega) _
 ·exact XG (by omega) _
 ·exact Pu _ _
 ·exact Y2 (by omega) (fun s hs=>by have:=h.names s hs; omega) _
 ·exact Pu _ _
 ·exact Pu _ _
 ·exact AhQ _ _
 ·exact Pu _ _
 ·exact Y2 (by omega) (fun s hs=>by have:=h.permit s hs; omega) _
theorem AfV (p:g_api_Promise)(d:Nat):PZ (d+2) (LY p):=Nv fun y hy=>by
 simp only[Aj5,List.not_mem_nil,or_false]at hy;rcases hy with q|q|q|q|q|q<;>rw[q]<;>exact F6 rfl _
theorem AhP (p:g_api_Promise)(d:Nat):EK (d+1) (LY p):=QR (by simp) fun y hy=>by
 simp only[Aj5,List.not_mem_nil,or_false]at hy;rcases hy with q|q|q|q|q|q<;>rw[q]<;>exact Pu _ _
theorem AfW (c:g_api_Cert)(d:Nat):PZ (d+4) (W4 c):=Nv (Afh (Ajg c d) (Nv fun y hy=>by
 obtain⟨p,_,e⟩:=List.mem_map.1 hy;rw[←e]; exact AfV p d))
theorem AhR {c:g_api_Cert}(h:FewP c)(d:Nat):EK (d+3) (W4 c):=QR (by simp) (Afh (sm_pre h d) (QR (by rw[Akh]; have:=h.nproms; omega) fun y hy=>by
 obtain⟨p,_,e⟩:=List.mem_map.1 hy;rw[←e]; exact AhP p d))
theorem Ajf (a b:UInt64)(d:Nat):PZ (d+2) (SK [NA a,NA b]):=Nv (Afh (F6 rfl d) (F6 rfl d))
theorem sm_sig (a b:UInt64)(d:Nat):EK (d+1) (SK [NA a,NA b]):=QR (by simp) (Afh (Pu _ d) (Pu _ d))
theorem AdG (c:g_api_Cert):PZ 8 (wholeI c):=Nv (Afh (AfW c 3) (Ajf _ _ 5))
theorem AeH {c:g_api_Cert}(h:FewP c):EK 8 (wholeI c):=QR (by simp) (Afh (AhR h 4) (sm_sig _ _ 6))
theorem AaX {c:g_api_Cert}(h:FewP c):GK c=some (checkV c):=by
 unfold GK checkV;rw[Adt h,Aa];cases hf:formB c with
 |false=>rfl
 |true=>
  have F:=Yk hf;have hs:=F.sized;have hl:=Sw 8 hs;rw[show(!true)=false from rfl,AjG (by decide),Aaa (Ajb h F),Aa,Age (AdG c) (AeH h) (by omega),Aee (by omega),AdU,AjF rfl]
theorem QT {a b:g_api_Cert}(hab:a.Proms.length=b.Proms.length)(hn:a.Proms.length≤100000): ∀(r q:List g_api_Promise) (i f:Nat),a.Proms.drop i=r→b.Proms.drop i=q→r.length<f→
  ∃z,iter (BY a b) f (i:Int)=some z∧(z= .inl ()↔r=q)∧(z= .inl ()∨z= .inr false)
 |r,q,i,0,_,_,h=>by omega
 | [],q,i,f+1,h,hq,_=>by
  have hl:a.Proms.length≤i:=Akd.1 h;have hqn:q=[]:=by rw[←hq]; exact Aj6 (by omega)
  have e:BY a b (i:Int)=some (.inr (.inl ())):=by
   unfold BY;rw[AjM (by omega)];rfl
  refine⟨.inl (),?_,by simp[hqn],.inl rfl⟩;show Ab (BY a b (i:Int)) _=_;rw[e]; rfl
 |p::r,[],i,f+1,h,hq,_=>by
  obtain⟨hc,hr,hlt⟩:=D6 h;have:=Akd.1 hq;omega
 |p::r,s::q,i,f+1,h,hq,hf=>by
  obtain⟨hc,hr,hlt⟩:=D6 h;obtain⟨hc2,hq2,hlt2⟩:=D6 hq;obtain⟨z,ih,z1,z2⟩:=QT hab hn r q (i+1) f hr hq2 (by rw[AjD]at hf; omega);have e:BY a b (i:Int)=some (if De p s=true then .inl ((i+1:Nat):Int)else .inr (.inr false)):=by
   unfold BY;rw[AjN (by omega),AjF rfl,CA hc,Aa,CA hc2,Aa,F9 (by omega)];cases De p s<;>rfl
  cases hp:De p s with
  |false=>
   have ne:p::r≠s::q:=fun x=>by
    have:=Tg.2 (List.cons.inj x).1;rw[hp]at this; cases this
   refine⟨.inr false,?_,by simp only[reduceCtorEq,false_iff]; exact ne,.inr rfl⟩;show Ab (BY a b (i:Int)) _=_;rw[e,hp]; rfl
  |true=>
   refine⟨z,?_,?_,z2⟩
   ·show Ab (BY a b (i:Int)) _=_;rw[e,hp,AjF rfl];exact ih
   ·rw[z1,Tg.1 hp];exact⟨fun x=>by rw[x],fun x=>(List.cons.inj x).2⟩
theorem QU {a b:List ByteArray}(hab:a.length=b.length)(hn:a.length≤100000): ∀(r q:List ByteArray) (i f:Nat),a.drop i=r→b.drop i=q→r.length<f→
  iter (BZ a b) f (i:Int)=some (if r=q then .inl ()else .inr false)
 |r,q,i,0,_,_,h=>by omega
 | [],q,i,f+1,h,hq,_=>by
  have hl:a.length≤i:=Akd.1 h;have hqn:q=[]:=by rw[←hq]; exact Aj6 (by omega)
  have e:BZ a b (i:Int)=some (.inr (.inl ())):=by
   unfold BZ;rw[AjM (by omega)];rfl
  show Ab (BZ a b (i:Int)) _=_;rw[e,hqn,AjF rfl]; rfl
 |p::r,[],i,f+1,h,hq,_=>by
  obtain⟨hc,hr,hlt⟩:=D6 h;have:=Akd.1 hq;omega
 |p::r,s::q,i,f+1,h,hq,hf=>by
  obtain⟨hc,hr,hlt⟩:=D6 h;obtain⟨hc2,hq2,hlt2⟩:=D6 hq;have ih:=QU hab hn r q (i+1) f hr hq2 (by rw[AjD]at hf; omega);have e:BZ a b (i:Int)=some (if eqS p s=true then .inl ((i+1:Nat):Int)else .inr (.inr false)):=by
   unfold BZ;rw[AjN (by omega),AjF rfl,CA hc,Aa,CA hc2,Aa,F9 (by omega)];cases eqS p s<;>rfl
  show Ab (BZ a b (i:Int)) _=_;rw[e];cases hp:eqS p s with
  |false=>
   have:p::r≠s::q:=fun x=>by
    have:=JB.2 (List.cons.inj x).1;rw[hp]at this; cases this
   rw[AjG this]; rfl
  |true=>
   rw[AjF rfl];show iter (BZ a b) f ((i+1:Nat):Int)=_;rw[ih,JB.1 hp];by_cases hrq:r=q
   ·rw[AjF hrq,AjF (by rw[hrq])]
   ·rw[AjG hrq,AjG (fun x=>hrq (List.cons.inj x).2)]
theorem Agt {a b:List ByteArray}(hn:a.length≤100000): ∃r,Gk a b=some r∧(r=true↔a=b):=by
 unfold Gk;by_cases h:a.length=b.length
 ·have e:((a.length:Int) !=(b.length:Int))=false:=by rw[h]; simp
  have hl:=QU h hn a b 0 Bl rfl rfl (by have:=AX; omega);have hl:iter (BZ a b) Bl 0=some (if a=b then .inl ()else .inr false):=hl;rw[e,AjG (by decide),hl];by_cases hq:a=b
  ·rw[AjF hq]; exact⟨true,rfl,by simp[hq]⟩
  ·rw[AjG hq]; exact⟨false,rfl,by simp[hq]⟩
 ·have e:((a.length:Int) !=(b.length:Int))=true:=by simp; omega
  rw[e,AjF rfl];exact⟨false,rfl,by simp only[Bool.false_eq_true,false_iff]; exact fun x=>h (by rw[x])⟩
theorem Aar {a b:g_api_Cert}(ha:a.Proms.length≤100000∧a.Names.length≤100000∧a.Permit.length≤100000): ∃r,Gj a b=some r∧(r=true↔a=b):=by
 obtain⟨r1,e1,h1⟩:=Agt (a:=a.Names) (b:=b.Names) ha.2.1;obtain⟨r2,e2,h2⟩:=Agt (a:=a.Permit) (b:=b.Permit) ha.2.2;have hk:((a.Key.toNat:Int) !=(b.Key.toNat:Int))= !(a.Key==b.Key):=by
  show(!((a.Key.toNat:Int)==(b.Key.toNat:Int)))=_;have:((a.Key.toNat:Int)==(b.Key.toNat:Int))=(a.Key==b.Key):=by
   rw[Akn,Akg,Akg,←UInt64.toNat_inj];omega
  rw[this]
 unfold Gj;split
 ·rename_i hc;refine⟨false,rfl,?_⟩;simp only[Bool.false_eq_true,false_iff];rintro rfl;simp only[Akl,bne_self_eq_false,Bool.not_eq_true',Bool.false_eq_true,false_or,or_false,JB.2 rfl,Ro.2 rfl,Bool.true_eq_false]at hc
 ·rename_i hc;rw[hk]at hc;simp only[Akl,not_or,Bool.not_eq_true,bne_eq_false_iff_eq,Bool.not_eq_false',JB,Ro,Akg]at hc;obtain⟨⟨⟨⟨⟨⟨⟨⟨⟨q1,q2⟩,q3⟩,q4⟩,q5⟩,q6⟩,q7⟩,q8⟩,q9⟩,q10⟩:=hc;have hlen:a.Proms.length=b.Proms.length:=by omega
  obtain⟨z,hl,z1,z2⟩:=QT hlen ha.1 a.Proms b.Proms 0 Bl rfl rfl (by have:=AX; omega);have hl:iter (BY a b) Bl 0=some z:=hl;rw[hl,Aa];rcases z2 with z2|z2
  ·subst z2;have hp:=z1.1 rfl;show∃r,Ab (Gk a.Names b.Names) _=some r∧_;rw[e1,Aa,e2,U1,Aa];refine⟨_,rfl,?_⟩;have:(r1&&(r1&&r2))=true↔(a.Names=b.Names∧a.Permit=b.Permit):=by
    rw[←h1,←h2];cases r1<;>cases r2<;>simp
   rw[this];constructor
   ·rintro⟨n1,n2⟩;cases a; cases b;simp only at*;simp[q1,q2,q3,q4,q5,q6,q7,q8,q9,hp,n1,n2]
   ·rintro rfl;exact⟨rfl,rfl⟩
  ·subst z2;exact⟨false,rfl,by simp only[Bool.false_eq_true,false_iff]; exact fun x=>absurd (z1.2 (by rw[x])) (by simp)⟩
end Go.Proofs.YtibojdgdjhngiaaGreatDoor
end
section
namespace Go.Proofs.YtibojdgdjhngiaaGreatDoor
open Go Go.Gw Go.Ax
theorem X6:Mh=some true:=by kernel_rfl
end Go.Proofs.YtibojdgdjhngiaaGreatDoor
end
section
namespace Go.Proofs.YtibojdgdjhngiaaGreatDoor
open Go Go.Gw Go.Ax
theorem few24R (l:Ah): ∃r,Jc l=some r∧(r=true→l.L.length≤40∧l.Wait.length≤40∧l.Hide.length≤60):=by
 have h1:=OY (step:=HL l) (fun(s:Int) (n:Int)=>(s,n)) (l.L.take 40) (fun _ s w=>w64 (s+(w.Body.length:Int))) (fun _ _=>True) (by simp; omega)
  (fun i w s hw _=>⟨by
   obtain⟨a1,a2,a3⟩:=ZH hw;unfold HL;dsimp only;rw[AjF (by simp; omega),a1,Aa,Ajt,VV a3 (by omega)],trivial⟩)
  (fun s _=>by
   unfold HL;dsimp only;rw[AjG (by simp; omega)]) 0 trivial
 generalize Ag9 (fun _ (s:Int) (w:g_api_Leaf)=>w64 (s+(w.Body.length:Int))) (l.L.take 40) 0 0=q at h1;have h2:=OY (step:=HJ l) (fun(s:Int) (n:Int)=>(s,n)) (l.Wait.take 40) (fun _ s w=>w64 (s+(w.Body.length:Int))) (fun _ _=>True) (by simp; omega)
  (fun i w s hw _=>⟨by
   obtain⟨a1,a2,a3⟩:=ZH hw;unfold HJ;dsimp only;rw[AjF (by simp; omega),a1,Aa,Ajt,VV a3 (by omega)],trivial⟩)
  (fun s _=>by
   unfold HJ;dsimp only;rw[AjG (by simp; omega)]) q trivial
 generalize Ag9 (fun _ (s:Int) (w:g_api_Leaf)=>w64 (s+(w.Body.length:Int))) (l.Wait.take 40) 0 q=z at h2;unfold Jc;rw[h1,Aa,Aa,h2,Aa,Aa,Ajt];refine⟨_,rfl,fun h=> ?_⟩;simp only[AjE,AjI]at h;omega
theorem AhY {b:List UInt8}(h:b.length≤3000):Gj (gpV b) (gpV b)=some true:=by
 obtain⟨e,h1,h2,h3⟩:=AiY h;have:(gpV b).Proms.length≤100000∧(gpV b).Names.length≤100000∧(gpV b).Permit.length≤100000:=by
  by_cases he:e=0
  ·obtain⟨K,-,hb⟩:=h2 he;have hp:(gpV b).Proms=[]:=by rw[←hb]; rfl
   have F:=K.form;rw[hp];refine⟨AkA _,?_⟩;cases hc:(gpV b).Ca with
   |true=>
    obtain⟨-,a,-,-,d⟩:=F.ca hc;have:=(Og d).2.1;rw[a];exact⟨AkA _,by omega⟩
   |false=>
    obtain⟨-,a,-,d⟩:=F.leaf hc;have:=(Og a).2.1;rw[d];exact⟨by omega,AkA _⟩
  ·rw[h3 he]; exact⟨AkA _,AkA _,AkA _⟩
 obtain⟨r,e',h'⟩:=Aar (a:=gpV b) (b:=gpV b) this;rw[e',h'.2 rfl]
end Go.Proofs.YtibojdgdjhngiaaGreatDoor
end
section
namespace Go.Proofs.YtibojdgdjhngiaaGreatDoor
open Go Go.Gw Go.Ax
def radd (a b:UInt64):UInt64:=((a%2305843009213693951)+(b%2305843009213693951))%2305843009213693951
theorem AeU (a b:UInt64):(radd a b).toNat=(a.toNat%FP+b.toNat%FP)%FP:=by
 unfold radd;rw[UInt64.toNat_mod,UInt64.toNat_add,UInt64.toNat_mod,UInt64.toNat_mod,litP];simp only[FP];omega
theorem Aif (a b:UInt64):radd a b=Dm a b:=Xw (by rw[AeU,KW])
theorem Dr (a b:UInt64):CX a b=some (Dm a b):=by rw[←Aif]; rfl
theorem Afb: ∀(n:Nat) (a b o:UInt64),b.toNat<2^n→o.toNat<FP→∃r,iter Ey (n+1) (a,b,o)=some r∧r.toNat=(o.toNat+a.toNat*b.toNat)%FP:=by
 intro n;induction n with
 |zero=>
  intro a b o h ho;have hb:b.toNat=0:=by simp at h; omega
  refine⟨o,BQ ?_,by rw[hb]; simp; exact(Ako ho).symm⟩;unfold Ey;rw[AjG (by simp[hb])]
 |succ n ih=>
  intro a b o h ho;by_cases hb:b.toNat=0
  ·refine⟨o,BQ ?_,by rw[hb]; simp; exact(Ako ho).symm⟩;unfold Ey;rw[AjG (by simp[hb])]
  ·have e1:2^ (n+1)=2*2^n:=by rw[Nat.pow_succ]; omega
   have hb2:(b/2).toNat=b.toNat/2:=by rw[UInt64.toNat_div]; rfl
   have hbm:((b%2).toNat:Int)=((b.toNat%2:Nat):Int):=by rw[UInt64.toNat_mod]; rfl
   have hp0: ∀x y,(Dm x y).toNat<FP:=fun x y=>by rw[KW]; exact Nat.mod_lt _ (by decide)
   by_cases ho1:b.toNat%2=1
   ·obtain⟨r,h1,h2⟩:=ih (Dm a a) (b/2) (Dm o a) (by rw[hb2]; omega) (hp0 _ _);refine⟨r,?_,?_⟩
    ·rw[AI (s':=(Dm a a,b/2,Dm o a)),h1];unfold Ey;rw[AjF (by simp; omega),AjF (by rw[hbm,ho1]; rfl),Dr,Aa,Aa,Dr,Aa]
    ·rw[h2,KW,KW,hb2];simp only[Nat.mod_add_mod,Nat.add_mod_mod];rw[Nat.add_mod,Nat.mod_mul_mod,←Nat.add_mod,←Nat.two_mul];congr 1;have:b.toNat=2*(b.toNat/2)+1:=by omega
     conv=>rhs; rw[this]
     rw[Nat.mul_add,Nat.mul_one,←Nat.mul_assoc,AkM a.toNat 2]; omega
   ·obtain⟨r,h1,h2⟩:=ih (Dm a a) (b/2) o (by rw[hb2]; omega) ho;refine⟨r,?_,?_⟩
    ·rw[AI (s':=(Dm a a,b/2,o)),h1];unfold Ey;rw[AjF (by simp; omega),AjG (by rw[hbm]; simp; omega),Aa,Dr,Aa]
    ·rw[h2,KW,hb2];simp only[Nat.mod_add_mod,Nat.add_mod_mod];rw[Nat.add_mod,Nat.mod_mul_mod,←Nat.add_mod,←Nat.two_mul];congr 1;have:b.toNat=2*(b.toNat/2):=by omega
     conv=>rhs; rw[this]
     rw[←Nat.mul_assoc,AkM a.toNat 2]
theorem Afc (a b:UInt64):Jh a b=some (Aa7 a b):=by
 have hb:(b%2305843009213693951).toNat<2^64:=(b%2305843009213693951).toNat_lt;obtain⟨r,h1,h2⟩:=Afb 64 (a%2305843009213693951) (b%2305843009213693951) 0 hb (by decide);have hr:r=Aa7 a b:=Xw (by
  rw[h2,UD,UInt64.toNat_mod,UInt64.toNat_mod,litP];simp only[UInt64.toNat_zero,Akq];rw[←Nat.mul_mod])
 unfold Jh;rw[E8 _ h1 (by omega),Aa,Aa,hr]
theorem Acp (a:UInt64)(n:Nat)(hn:n≤1000): ∀(k i:Nat) (x:UInt64),i+k=n→x.toNat=a.toNat^i%FP→∃y,iter (Fk a (n:Int)) (k+1) (x,(i:Int))=some y∧y.toNat=a.toNat^n%FP:=by
 intro k;induction k with
 |zero=>
  intro i x h hx;refine⟨x,BQ ?_,by rw[hx,show i=n from by omega]⟩;unfold Fk;rw[AjG (by simp; omega)]
 |succ k ih=>
  intro i x h hx;have hw:w64 ((i:Int)+1)=((i+1:Nat):Int):=by rw[BU (by omega) (by omega)]; omega
  obtain⟨y,h1,h2⟩:=ih (i+1) (Aa7 x a) (by omega) (by rw[UD,hx,Nat.mod_mul_mod,Nat.pow_succ]);refine⟨y,?_,h2⟩;rw[AI (s':=(Aa7 x a,((i+1:Nat):Int)))]
  ·exact h1
  ·unfold Fk;rw[AjF (by simp; omega),Afc,Aa];simp only[hw]
theorem SL (a:UInt64)(n:Nat)(hn:n≤1000): ∃y,CO a (n:Int)=some y∧y.toNat=a.toNat^n%FP:=by
 obtain⟨y,h1,h2⟩:=Acp a n hn n 0 1 (by omega) (by simp);have h1':=E8 _ h1 (by omega);refine⟨y,?_,h2⟩;unfold CO;rw[show((0:Int))=((0:Nat):Int)from rfl,h1',Aa,Aa]
theorem QZ {a:UInt64}:CO a 17=some (PR a):=by
 obtain⟨y,h1,h2⟩:=SL a 17 (by omega);have:y=PR a:=Xw (by rw[h2,AeX]);rw[←this]; exact h1
theorem AdP {r i:Nat}(hr:r<8)(hi:i<3):(Ab (CO (toU (w64 ((w64 ((w64 (3*(r:Int)))+(i:Int)))+1))) 3) fun x4=>CX x4 7)=some (RM (r:Int) (i:Int)):=by
 have hw:w64 ((w64 ((w64 (3*(r:Int)))+(i:Int)))+1)=((3*r+i+1:Nat):Int):=by
  rw[BU (n:=3*(r:Int)) (by omega) (by omega),BU (n:=3*(r:Int)+(i:Int)) (by omega) (by omega),BU (by omega) (by omega)]; omega
 have hN:(toU ((3*r+i+1:Nat):Int)).toNat=3*r+i+1:=I5 (by omega);unfold RM;rw[hw];generalize toU ((3*r+i+1:Nat):Int)=N at*;obtain⟨y,h1,h2⟩:=SL N 3 (by omega);have h1':CO N 3=some y:=h1;rw[h1',Aa,Dr];refine Aki some (Xw ?_);have hle:N.toNat≤24:=by omega
 have h2':N.toNat*N.toNat≤24*24:=Nat.mul_le_mul hle hle;have h3':N.toNat*N.toNat*N.toNat≤24*24*24:=Nat.mul_le_mul h2' hle;have e3:N.toNat^3=N.toNat*N.toNat*N.toNat:=by rw[Nat.pow_succ,Nat.pow_two]
 dsimp only;rw[KW,h2,e3,UInt64.toNat_add,UInt64.toNat_mul,UInt64.toNat_mul,show(7:UInt64).toNat=7 from rfl];have e4:N.toNat*N.toNat%2^64=N.toNat*N.toNat:=Ako (by omega);rw[e4];clear e4 e3 h2 h1 h1' hw hN;generalize N.toNat*N.toNat*N.toNat=z at*;rw[Ako (show z<2^64 by omega),Ako (show z<FP by simp only[FP]; omega),Ako (show z<FP by simp only[FP]; omega),Ako (show 7<FP by decide),Ako (show z+7<FP by simp only[FP]; omega),Ako (show z+7<2^64 by omega)]
theorem No {α β γ:Type}(x:Option α)(f:α→Option β)(g:β→Option γ):Ab x (fun a=>Ab (f a) g)=Ab (Ab x f) g:=by cases x<;>rfl
theorem Uv {s:UInt64×UInt64×UInt64}{r:Nat}(hr:r<8)(a b c:UInt64):
  CC s (r:Int) (0,a,b,c)=some (.inl (1,PR (Dm s.1 (RM r 0)),b,c))∧
  CC s (r:Int) (1,a,b,c)=some (.inl (2,a,PR (Dm s.2.1 (RM r 1)),c))∧
  CC s (r:Int) (2,a,b,c)=some (.inl (3,a,b,PR (Dm s.2.2 (RM r 2)))):=by
 have c0:=AdP hr (i:=0) (by omega);have c1:=AdP hr (i:=1) (by omega);have c2:=AdP hr (i:=2) (by omega);refine⟨?_,?_,?_⟩
 ·unfold CC;dsimp only;rw[AjF (by simp),No,show((0:Nat):Int)=0 from rfl]at*;rw[c0,Aa,show idx [s.1,s.2.1,s.2.2] 0=some s.1 from rfl,Aa,Dr,Aa,QZ,Aa,show idx [a,b,c] 0=some a from rfl,Aa];simp[Cm,w64]
 ·unfold CC;dsimp only;rw[AjF (by simp),No,show((1:Nat):Int)=1 from rfl]at*;rw[c1,Aa,show idx [s.1,s.2.1,s.2.2] 1=some s.2.1 from rfl,Aa,Dr,Aa,QZ,Aa,show idx [a,b,c] 1=some b from rfl,Aa];simp[Cm,w64]
 ·unfold CC;dsimp only;rw[AjF (by simp),No,show((2:Nat):Int)=2 from rfl]at*;rw[c2,Aa,show idx [s.1,s.2.1,s.2.2] 2=some s.2.2 from rfl,Aa,Dr,Aa,QZ,Aa,show idx [a,b,c] 2=some c from rfl,Aa];simp[Cm,w64]
theorem padd3 (x y z:UInt64):Dm (Dm (Dm 0 x) y) z=Dm (Dm x y) z:=Xw (by
 simp only[KW,UInt64.toNat_zero];simp only[FP];omega)
theorem Uu (x:UInt64)(a b c:UInt64):
  CB x (0,a,b,c)=some (.inl (1,Dm a x,b,c))∧CB x (1,a,b,c)=some (.inl (2,a,Dm b x,c))∧CB x (2,a,b,c)=some (.inl (3,a,b,Dm c x)):=by
 refine⟨?_,?_,?_⟩
 ·unfold CB;dsimp only;rw[AjF (by simp),show idx [a,b,c] 0=some a from rfl,Aa,Dr,Aa,Aa]; simp[Cm,w64]
 ·unfold CB;dsimp only;rw[AjF (by simp),show idx [a,b,c] 1=some b from rfl,Aa,Dr,Aa,Aa]; simp[Cm,w64]
 ·unfold CB;dsimp only;rw[AjF (by simp),show idx [a,b,c] 2=some c from rfl,Aa,Dr,Aa,Aa]; simp[Cm,w64]
theorem AeS {r:Nat}(hr:r<8)(s:UInt64×UInt64×UInt64):GN s (r:Int)=some (JP (r:Int) s):=by
 have h4:iter (CC s (r:Int)) 4 (0,0,0,0)=some (PR (Dm s.1 (RM r 0)),PR (Dm s.2.1 (RM r 1)),PR (Dm s.2.2 (RM r 2))):=by
  rw[AI (Uv hr 0 0 0).1,AI (Uv hr _ 0 0).2.1,AI (Uv hr _ _ 0).2.2];exact BQ rfl
 have h5: ∀x a b c:UInt64,iter (CB x) 4 (0,a,b,c)=some (Dm a x,Dm b x,Dm c x):=fun x a b c=>by
  rw[AI (Uu x a b c).1,AI (Uu x _ b c).2.1,AI (Uu x _ _ c).2.2];exact BQ rfl
 unfold GN;rw[E8 _ h4 (by omega),Aa,Aa,Dr,Aa,Dr,Aa,E8 _ (h5 _ _ _ _) (by omega),Aa,Aa];unfold JP pall;rw[padd3]
theorem JQ (s:UInt64×UInt64×UInt64){r:Nat}(hr:r<8):HR ((r:Int),s.1,s.2.1,s.2.2)=some (.inl (((r+1:Nat):Int),(JP (r:Int) s).1,(JP (r:Int) s).2.1,(JP (r:Int) s).2.2)):=by
 have hw:w64 ((r:Int)+1)=((r+1:Nat):Int):=by rw[BU (by omega) (by omega)]; omega
 unfold HR;rw[AjF (by simp; omega),AeS hr,Aa];simp only[hw]
theorem N7 (s:UInt64×UInt64×UInt64):Jg s=some (Nm s):=by
 have h:iter HR 9 (((0:Nat):Int),s.1,s.2.1,s.2.2)=some (Nm s):=by
  rw[AI (JQ s (by omega)),AI (JQ _ (by omega)),AI (JQ _ (by omega)),AI (JQ _ (by omega)),AI (JQ _ (by omega)),AI (JQ _ (by omega)),AI (JQ _ (by omega)),AI (JQ _ (by omega))];exact BQ rfl
 unfold Jg;rw[show((0:Int))=((0:Nat):Int)from rfl,E8 _ h (by omega),Aa,Aa]
theorem or_shl {s:UInt64}{b:UInt8}{i:Nat}(hi:i<7)(hs:s.toNat<256^i)(u:UInt64)(hu:u.toNat=256^i):
  s|||JO (toU (b.toNat:Int)) (8*i)=s+u*(toU (b.toNat:Int))∧(s+u*(toU (b.toNat:Int))).toNat<256^ (i+1):=by
 have hb:=b.toNat_lt;have e1:(toU (b.toNat:Int)).toNat=b.toNat:=I5 (by omega);have e2:(2:Nat)^ (8*i)=256^i:=by rw[Nat.pow_mul]
 have hpow:256^i≤256^6:=Nat.pow_le_pow_right (by omega) (by omega);have hpos:0<256^i:=Nat.pow_pos (by omega);have e256:(256:Nat)^6=281474976710656:=by decide
 have hmul:256^i*b.toNat≤256^i*255:=Nat.mul_le_mul_left _ (by omega);have esh:(JO (toU (b.toNat:Int)) (8*i)).toNat=256^i*b.toNat:=by
  unfold JO;rw[e1,Nat.min_eq_left (by omega),show(b.toNat:Int)*2^ (8*i)=((256^i*b.toNat:Nat):Int)from by
   rw[←e2,AkM]; simp[AkM,Int.mul_comm]]
  exact I5 (by omega)
 have ese:(u*(toU (b.toNat:Int))).toNat=256^i*b.toNat:=by
  rw[UInt64.toNat_mul,e1,hu]; omega
 have eadd:(s+u*(toU (b.toNat:Int))).toNat=s.toNat+256^i*b.toNat:=by
  rw[UInt64.toNat_add,ese]; omega
 refine⟨Xw ?_,?_⟩
 ·rw[eadd,UInt64.toNat_or,esh,Nat.or_comm,←e2,←Nat.two_pow_add_eq_or_of_lt (by rw[e2]; exact hs)]; omega
 ·rw[eadd,Nat.pow_succ]; omega
theorem of2_it (a0:List UInt8)(hb:a0.length≤1000000)(st:(List UInt64)×Int)(i:Nat)(hi:st.2=(i:Int))(hi2:i≤1000000):
  ∀(l:List UInt8) (k:Nat) (s u:UInt64),k+l.length≤7→((a0.drop i).take 7).drop k=l→((a0.drop i).take 7).length=k+l.length→s.toNat<256^k→(k<7→u.toNat=256^k)→
   iter (IF a0 st) (l.length+1) (s,u,((i+k:Nat):Int))=some (ple l k s):=by
 intro l;induction l with
 |nil=>
  intro k s u h1 h2 h3 hs hu;refine BQ ?_;have hw:w64 ((i:Int)+7)=((i+7:Nat):Int):=by rw[BU (by omega) (by omega)]; omega
  simp only[Aj9,Aky,AjW]at h3;unfold IF;dsimp only;rw[hi,hw,AjG (by simp; omega)];rfl
 |cons b l ih=>
  intro k s u h1 h2 h3 hs hu;have hw:w64 ((i:Int)+7)=((i+7:Nat):Int):=by rw[BU (by omega) (by omega)]; omega
  have hw1:w64 (((i+k:Nat):Int)+1)=((i+(k+1):Nat):Int):=by rw[BU (by omega) (by omega)]; omega
  simp only[AjD]at h1 h3;have h3':=h3;simp only[Aj9,Aky]at h3';have hx:a0[i+k]? =some b:=by
   have:(((a0.drop i).take 7).drop k)[0]? =some b:=by rw[h2]; rfl
   rw[List.getElem?_drop,List.getElem?_take_of_lt (by omega),List.getElem?_drop]at this;simpa using this
  obtain⟨o1,o2⟩:=or_shl (b:=b) (show k<7 by omega) hs u (hu (by omega));rw[AjD,AI (s':=(s+u*(toU (b.toNat:Int)),u*256,((i+(k+1):Nat):Int)))]
  ·have hd:((a0.drop i).take 7).drop (k+1)=l:=by rw[←Akw,h2]; rfl
   rw[ih (k+1) _ (u*256) (by omega) hd (by omega) o2 (fun hk=>by
    rw[UInt64.toNat_mul,hu (by omega),show(256:UInt64).toNat=256 from rfl,Nat.pow_succ];have:256^k≤256^6:=Nat.pow_le_pow_right (by omega) (by omega);have e256:(256:Nat)^6=281474976710656:=by decide
    omega)]
   rw[ple,o1]
  ·unfold IF;dsimp only;rw[hi,hw,AjF (by simp; omega),Gi hx,Aa,Cm];simp only[hw1]
theorem of1_it (a0:List UInt8)(hb:a0.length≤900000): ∀(n i:Nat) (out:List UInt64),a0.length≤i+n→i≤900007→out.length+n≤1000000→
  iter (GP a0) (n+1) (out,(i:Int))=some (out++pof n (a0.drop i)):=by
 intro n;induction n with
 |zero=>
  intro i out h _ _;have:a0.drop i=[]:=Aj6 (by omega);refine BQ ?_;unfold GP;rw[AjG (by simp; omega),this]; simp[pof]
 |succ n ih=>
  intro i out h hi ho;by_cases hlt:i<a0.length
  ·obtain⟨b,l,hl⟩: ∃b l,a0.drop i=b::l:=⟨a0[i],a0.drop (i+1),List.drop_eq_getElem_cons hlt⟩;have hw:w64 ((i:Int)+7)=((i+7:Nat):Int):=by rw[BU (by omega) (by omega)]; omega
   have h2:=of2_it a0 (by omega) (out,(i:Int)) i rfl (by omega) ((a0.drop i).take 7) 0 0 1 (by simp; omega) (by simp) (by simp) (by decide) (fun _=>by decide);have h2':=E8 _ h2 (by simp; omega);rw[AkR]at h2';rw[AI (s':=(out++[ple ((a0.drop i).take 7) 0 0],((i+7:Nat):Int)))]
   ·rw[ih (i+7) _ (by omega) (by omega) (by simp; omega),hl];simp only[pof];rw[←hl,Akw];simp
   ·unfold GP;dsimp only;rw[AjF (by simp; omega),h2',Aa,Aa,G3 8 (by simp; omega) (by simp; omega),Aa];simp only[hw]
  ·have:a0.drop i=[]:=Aj6 (by omega);refine BQ ?_;unfold GP;rw[AjG (by simp; omega),this]; simp[pof]
theorem Ais (a0:List UInt8)(hb:a0.length≤900000):Ky a0=some (pof a0.length a0):=by
 have h:=of1_it a0 hb a0.length 0 [] (by omega) (by omega) (by simp; omega);have h':=E8 _ h (by omega);unfold Ky;rw[show((0:Int))=((0:Nat):Int)from rfl,h',Aa,Aa];simp
theorem AeD (l:List UInt64)(hl:l.length≤1000000): ∀(n i:Nat) (s:UInt64×UInt64×UInt64),l.length≤i+n→1≤i→i≤1000002→
  iter (Cn l) (n+1) ((i:Int),s.1,s.2.1,s.2.2)=some (Hn n (l.drop i) s):=by
 intro n;induction n with
 |zero=>
  intro i s h h1 _;have:l.drop i=[]:=Aj6 (by omega);refine BQ ?_;unfold Cn;rw[AjG (by simp; omega),this]; simp[Hn]
 |succ n ih=>
  intro i s h h1 h2;by_cases hlt:i<l.length
  ·have hw:w64 ((i:Int)+1)=((i+1:Nat):Int):=by rw[BU (by omega) (by omega)]; omega
   have hw2:w64 ((i:Int)+2)=((i+2:Nat):Int):=by rw[BU (by omega) (by omega)]; omega
   have hx:idx l (i:Int)=some l[i]:=Gi (by simp[hlt]);by_cases hlt2:i+1<l.length
   ·have hy:idx l ((i+1:Nat):Int)=some l[i+1]:=Gi (by simp[hlt2]);have hd:l.drop i=l[i]::l[i+1]::l.drop (i+2):=by rw[List.drop_eq_getElem_cons hlt,List.drop_eq_getElem_cons hlt2]
    rw[AI (s':=(((i+2:Nat):Int),(Nm (Dm s.1 l[i],Dm s.2.1 l[i+1],s.2.2)).1,(Nm (Dm s.1 l[i],Dm s.2.1 l[i+1],s.2.2)).2.1,(Nm (Dm s.1 l[i],Dm s.2.1 l[i+1],s.2.2)).2.2))]
    ·rw[ih (i+2) (Nm (Dm s.1 l[i],Dm s.2.1 l[i+1],s.2.2)) (by omega) (by omega) (by omega),hd]; rfl
    ·unfold Cn;dsimp only;rw[AjF (by simp; omega),AjF (by simp; omega),hx,Aa,Dr,Aa,Aa,hw,AjF (by simp; omega),hy,Aa,Dr,Aa,Aa,N7,Aa];simp only[hw2]
   ·have hd:l.drop i=[l[i]]:=by rw[List.drop_eq_getElem_cons hlt,Aj6 (by omega)]
    rw[AI (s':=(((i+2:Nat):Int),(Nm (Dm s.1 l[i],s.2.1,s.2.2)).1,(Nm (Dm s.1 l[i],s.2.1,s.2.2)).2.1,(Nm (Dm s.1 l[i],s.2.1,s.2.2)).2.2))]
    ·rw[ih (i+2) (Nm (Dm s.1 l[i],s.2.1,s.2.2)) (by omega) (by omega) (by omega),hd,Aj6 (by omega)];cases n<;>simp[Hn]
    ·unfold Cn;dsimp only;rw[AjF (by simp; omega),AjF (by simp; omega),hx,Aa,Dr,Aa,Aa,hw,AjG (by simp; omega),Aa,N7,Aa];simp only[hw2]
  ·have:l.drop i=[]:=Aj6 (by omega);refine BQ ?_;unfold Cn;rw[AjG (by simp; omega),this]; simp[Hn]
theorem Acu: ∀(n k:Nat) (l:List UInt64) (s:UInt64×UInt64×UInt64),l.length≤n→l.length≤k→Hn n l s=Hn k l s:=by
 intro n;induction n with
 |zero=>intro k l s h _; have:l=[]:=List.eq_nil_of_length_eq_zero (by omega); subst this; simp[Hn]
 |succ n ih=>
  intro k l s h hk;match l,k,h,hk with
  | [],k,_,_=>cases k<;>simp[Hn]
  | [x],k+1,_,_=>simp[Hn]
  |x::y::l,k+1,h,hk=>simp only[Hn]; exact ih k l _ (by simp at h; omega) (by simp at hk; omega)
theorem AeE (b:List UInt8)(hb:b.length≤900000):K5 b=some (AiV b):=by
 have hl:=AcE b.length b;unfold K5;rw[Ais b hb,Aa];have hk:AiV b=((Aa8 (pof b.length b) (0,0,toU (b.length:Int))).1,(Aa8 (pof b.length b) (0,0,toU (b.length:Int))).2.1):=rfl;rw[hk];clear hk;generalize pof b.length b=l at*;have h:iter (Cn l) (l.length+2) (0,0,0,toU (b.length:Int))=some (Aa8 l (0,0,toU (b.length:Int))):=by
  match l,hl with
  | [],hl=>
   rw[show([]:List UInt64).length+2=1+1 from rfl,AI (s':=(((2:Nat):Int),(Nm (0,0,toU (b.length:Int))).1,(Nm (0,0,toU (b.length:Int))).2.1,(Nm (0,0,toU (b.length:Int))).2.2))]
   ·exact BQ rfl
   ·unfold Cn;dsimp only;rw[AjF (by simp),AjG (by simp),Aa,AjG (by rw[BU (by omega) (by omega)]; simp),Aa,N7,Aa]; rfl
  | [x],hl=>
   rw[show [x].length+2=2+1 from rfl,AI (s':=(((2:Nat):Int),(Nm (Dm 0 x,0,toU (b.length:Int))).1,(Nm (Dm 0 x,0,toU (b.length:Int))).2.1,(Nm (Dm 0 x,0,toU (b.length:Int))).2.2))]
   ·exact BQ rfl
   ·have e:idx [x] 0=some x:=rfl;unfold Cn;dsimp only;rw[AjF (by simp),AjF (by simp),e,Aa,Dr,Aa,Aa,AjG (by rw[BU (by omega) (by omega)]; simp),Aa,N7,Aa]; rfl
  |x::y::l,hl=>
   rw[AI (s':=(((2:Nat):Int),(Nm (Dm 0 x,Dm 0 y,toU (b.length:Int))).1,(Nm (Dm 0 x,Dm 0 y,toU (b.length:Int))).2.1,(Nm (Dm 0 x,Dm 0 y,toU (b.length:Int))).2.2))]
   ·rw[AeD (x::y::l) (by simp at hl⊢; omega) _ 2 _ (by simp) (by omega) (by omega)];refine Aki some ?_;simp only[List.drop_succ_cons,List.drop_zero,Aa8,AjD,Hn];exact Acu _ _ _ _ (by omega) (by omega)
   ·have e:idx (x::y::l) 0=some x:=rfl;have e1:idx (x::y::l) (w64 (0+1))=some y:=rfl;unfold Cn;dsimp only;rw[AjF (by simp),AjF (by simp; omega),e,Aa,Dr,Aa,Aa,AjF (by rw[show w64 (0+1)=1 from rfl]; simp; omega),e1,Aa,Dr,Aa,Aa,N7,Aa]; rfl
 rw[E8 _ h (by omega),Aa,Aa]
theorem AfM (n:UInt64): ∀(k:Nat) (b:List UInt8),k≤8→b.length+k≤1000000→iter (F0 n) (k+1) (b,(k:Int)-1)=some (b++Nz k n):=by
 intro k;induction k with
 |zero=>intro b _ _; refine BQ ?_; unfold F0; rw[AjG (by simp)]; simp[Nz]
 |succ k ih=>
  intro b hk hb;have hw:w64 (8*(((k+1:Nat):Int)-1))=((8*k:Nat):Int):=by rw[BU (by omega) (by omega)]; omega
  have hw2:w64 ((((k+1:Nat):Int)-1)-1)=(k:Int)-1:=by rw[BU (by omega) (by omega)]; omega
  rw[AI (s':=(b++[toB ((En n (8*k)).toNat:Int)],(k:Int)-1))]
  ·rw[ih _ (by omega) (by simp; omega)]; simp[Nz]
  ·unfold F0;dsimp only;rw[hw,hw2,I5 (by omega),AjF (AjN (by omega)),G3 1 (by simp; omega) (by simp; omega),Aa]
theorem AfN (n:UInt64):GO n=some (Nz 8 n):=by
 have h:=E8 _ (AfM n 8 [] (by omega) (by simp)) (by omega);unfold GO;rw[show(7:Int)=((8:Nat):Int)-1 from rfl,h,Aa,Aa]; rfl
theorem AfY (ps:List (List UInt8)): ∀(n i:Nat) (b:List UInt8),i+n=ps.length→i≤1000000→ps.length≤1000000→b.length+Zl (ps.drop i)≤800000→iter (F3 ps) (n+1) (b,(i:Int))=some (AaF b (ps.drop i)):=by
 intro n;induction n with
 |zero=>
  intro i b h _ _ _;have:ps.drop i=[]:=Aj6 (by omega);refine BQ ?_;unfold F3;rw[AjG (by simp; omega),this]; rfl
 |succ n ih=>
  intro i b h hi hps hb;have hlt:i<ps.length:=by omega
  have hx:idx ps (i:Int)=some ps[i]:=Gi (by simp[hlt]);have hd:ps.drop i=ps[i]::ps.drop (i+1):=List.drop_eq_getElem_cons hlt;have hw:w64 ((i:Int)+1)=((i+1:Nat):Int):=by rw[BU (by omega) (by omega)]; omega
  rw[hd]at hb⊢;simp only[Zl]at hb;have hc:cut (Nz 8 (toU (ps[i].length:Int))) 4 ((Nz 8 (toU (ps[i].length:Int))).length:Int)=some (Nz 4 (toU (ps[i].length:Int))):=by
   rw[Ej];have:=Tj (xs:=Nz 8 (toU (ps[i].length:Int))) (lo:=4) (hi:=8) (by omega) (by rw[Ej]; omega);rw[show((4:Nat):Int)=4 from rfl]at this;rw[this]; rfl
  rw[AI (s':=(b++Nz 4 (toU (ps[i].length:Int))++ps[i],((i+1:Nat):Int)))]
  ·rw[ih (i+1) _ (by omega) (by omega) hps (by simp[Ej]; omega)]; rfl
  ·unfold F3;dsimp only;rw[AjF (by simp; omega),hx,Aa,AfN,Aa,hc,Aa,G3 1 (by simp[Ej]; omega) (by simp[Ej]; omega),Aa,Aa,G3 1 (by simp[Ej]; omega) (by simp[Ej]; omega),Aa];simp only[hw]
theorem XA (t:ByteArray)(ps:List (List UInt8))(h:t.data.toList.length+Zl ps≤700000)(hp:ps.length≤1000000):HQ t ps=some (AgF t ps):=by
 have hc:=AfY ps ps.length 0 (toB (t.size:Int)::t.data.toList) (by omega) (by omega) hp (by simp at h⊢; omega);have hc':=E8 _ hc (by omega);unfold HQ K6;rw[G3 1 (by simp at h⊢; omega) (by simp at h⊢; omega),Aa];rw[show((0:Int))=((0:Nat):Int)from rfl];rw[show [toB (t.size:Int)]++t.data.toList=toB (t.size:Int)::t.data.toList from rfl,hc',Aa,Aa,Aa];rw[AeE _ (by rw[Wi]; simp at h⊢; omega),Aa];rfl
end Go.Proofs.YtibojdgdjhngiaaGreatDoor
end
section
namespace Go.Proofs.YtibojdgdjhngiaaGreatDoor
open Go Go.Gw Go.Ax
end Go.Proofs.YtibojdgdjhngiaaGreatDoor
end
section
namespace Go.Proofs.YtibojdgdjhngiaaGreatDoor
open Go Go.Gw Go.Ax
end Go.Proofs.YtibojdgdjhngiaaGreatDoor
end
section
namespace Go.Proofs.YtibojdgdjhngiaaGreatDoor
open Go Go.Gw Go.Ax
end Go.Proofs.YtibojdgdjhngiaaGreatDoor
end
section
namespace Go.Proofs.YtibojdgdjhngiaaGreatDoor
open Go Go.Gw Go.Ax
theorem Zs (n:Int):KZ n=some (okNum n):=rfl
theorem Yg (b:List UInt8):HH b=some (okBody b):=by
 unfold HH okBody;rw[Cm];congr 2
 ·rw[Akc]; omega
 ·rw[Akc]; omega
theorem Agd {l:Ah}(h:l.L.length+l.Wait.length≤100000):Jd l=some (l.L++l.Wait):=by
 unfold Jd;rw[G3 32 (by simp; omega) (by simp; omega),Aa,Akr,G3 32 (by omega) (by omega),Aa]
def pos:List g_api_Leaf→List UInt8→Option Nat
 | [],_=>none
 |x::r,b=>if x.Body=b then some 0 else(pos r b).map (· +1)
theorem Adw (all:List g_api_Leaf)(b:List UInt8)(hl:all.length≤100000): ∀(xs:List g_api_Leaf) (i:Nat),all.drop i=xs→
  iter (DY all b) (xs.length+1) (i:Int)=some (match pos xs b with|some j=> .inr ((i+j:Nat):Int)|none=> .inl ()):=by
 intro xs;induction xs with
 |nil=>
  intro i hd;have:all.length≤i:=Akd.1 hd;refine BQ ?_;unfold DY;rw[AjG (by simp; omega)]; rfl
 |cons x xs ih=>
  intro i hd;have hx:all[i]? =some x:=by
   have:(all.drop i)[0]? =some x:=by rw[hd]; rfl
   simpa using this
  have hlt:i<all.length:=(AjR.1 hx).1;have hd':all.drop (i+1)=xs:=by rw[←Akw,hd]; rfl
  by_cases h:x.Body=b
  ·refine BQ ?_;unfold DY;rw[AjF (by simp; omega),On hx,Aa,bs_eq,AjF (by simpa using h)];simp[pos,h]
  ·rw[AjD,AI (s':=((i+1:Nat):Int)),ih (i+1) hd']
   ·simp only[pos,AjG h];cases pos xs b with
    |none=>rfl
    |some j=>simp only[Aj1]; congr 3; omega
   ·unfold DY;rw[AjF (by simp; omega),On hx,Aa,bs_eq,AjG (by simpa using h),KQ (by omega)]
theorem Adx {all:List g_api_Leaf}(b:List UInt8)(hl:all.length≤100000):JS all b=some (match pos all b with|some j=>(j:Int)|none=> -1):=by
 have h:=E8 _ (Adw all b hl all 0 rfl) (by omega);have h':iter (DY all b) Bl 0=_:=h;unfold JS;rw[h',Aa];cases pos all b with
 |none=>rfl
 |some j=>simp
theorem AcD: ∀{xs:List g_api_Leaf} {i:Nat} {x:g_api_Leaf},xs[i]? =some x→((match pos xs x.Body with|some j=>(j:Int)|none=> -1) !=(i:Int))=decide (x.Body∈(xs.take i).map (·.Body)):=by
 intro xs;induction xs with
 |nil=>intro i x h; simp at h
 |cons y ys ih=>
  intro i x h;cases i with
  |zero=>simp at h; subst h; simp[pos]
  |succ i=>
   have h':ys[i]? =some x:=by simpa using h
   by_cases hy:y.Body=x.Body
   ·simp only[pos,AjF hy,List.take_succ_cons,Akm];rw[AjN (by simp[hy])];simp; omega
   ·have:=ih h';simp only[pos,AjG hy,List.take_succ_cons,Akm];have e:decide (x.Body∈y.Body::(ys.take i).map (·.Body))=decide (x.Body∈(ys.take i).map (·.Body)):=by
     rw[Akc,Aj5];exact⟨fun q=>q.resolve_left (fun z=>hy z.symm),.inr⟩
    rw[e,←this,Akn];cases pos ys x.Body with
    |none=>simp; omega
    |some j=>simp
theorem AgI: ∀(xs:List g_api_Leaf) (ks:List (List UInt8)),okL xs ks=true↔∀(i:Nat) (x:g_api_Leaf),xs[i]? =some x→okBody x.Body=true∧okNum x.At=true∧x.Body∉ks++(xs.take i).map (·.Body):=by
 intro xs;induction xs with
 |nil=>intro ks; simp[okL]
 |cons y ys ih=>
  intro ks;show((okBody y.Body&&okNum y.At&& !decide (y.Body∈ks))&&okL ys (ks++[y.Body]))=true↔_;rw[AjE,ih];constructor
  ·rintro⟨h1,h2⟩ i x hx;cases i with
   |zero=>
    simp at hx; subst hx;simp only[AjE,Bool.not_eq_true',decide_eq_false_iff_not]at h1;simpa using ⟨h1.1.1,h1.1.2,h1.2⟩
   |succ i=>
    have:=h2 i x (by simpa using hx);simpa using this
  ·intro h;refine⟨?_,fun i x hx=> ?_⟩
   ·have:=h 0 y rfl;simp only[AjE,Bool.not_eq_true',decide_eq_false_iff_not];simpa[and_assoc]using this
   ·have:=h (i+1) x (by simpa using hx);simpa using this
theorem AaW {xs:List g_api_Leaf}(hl:xs.length≤100000):iter (FZ xs) Bl 0=some (if okL xs []=true then .inl ()else .inr 1):=by
 obtain⟨y,h1,h2⟩:=Mm (step:=FZ xs) (T:=fun y=>y=if okL xs []=true then .inl ()else .inr 1) (s0:=0)
  (fun i s=>s=(i:Int)∧i≤xs.length∧∀(j:Nat) (x:g_api_Leaf),j<i→xs[j]? =some x→okBody x.Body=true∧okNum x.At=true∧x.Body∉(xs.take j).map (·.Body)) xs.length (by omega) ⟨rfl,by omega,fun j _ h=>by omega⟩ (by
   rintro i s hi ⟨rfl,h0,hI⟩;unfold FZ;by_cases hlt:i<xs.length
   ·have hx:xs[i]? =some xs[i]:=by simp[hlt]
    rw[AjF (by simpa using hlt),On hx,Aa,Yg,Aa];have bad: ¬(okBody xs[i].Body=true∧okNum xs[i].At=true∧xs[i].Body∉(xs.take i).map (·.Body))→(.inr 1:Unit⊕Int)=if okL xs []=true then .inl ()else .inr 1:=by
     intro hb;rw[AjG];intro hok;have:=(AgI xs []).1 hok i _ hx;exact hb (by simpa using this)
    cases ha:okBody xs[i].Body with
    |false=>
     left;refine⟨.inr 1,?_,bad (fun q=>by rw[ha]at q; exact Bool.noConfusion q.1)⟩;simp only[gu,AkH,AkD,cond_false,Aa,Bool.true_or,if_true]
    |true=>
     simp only[gu,AkD,AkH,cond_true,On hx,Aa,Zs,AkB];cases hb:okNum xs[i].At with
     |false=>
      left;refine⟨.inr 1,?_,bad (fun q=>by rw[hb]at q; exact Bool.noConfusion q.2.1)⟩;simp only[AkH,AkD,cond_false,Aa,Bool.true_or,if_true]
     |true=>
      simp only[AkD,AkH,cond_true,On hx,Aa,Adx _ hl,AkB];rw[AcD hx];by_cases hc:xs[i].Body∈(xs.take i).map (·.Body)
      ·left;refine⟨.inr 1,?_,bad (fun q=>q.2.2 hc)⟩;rw[AjF (by simpa using hc)]
      ·right;refine⟨hlt,((i+1:Nat):Int),?_,rfl,by omega,fun j x hj hxj=> ?_⟩
       ·rw[AjG (by simpa using hc),KQ (by omega)]
       ·by_cases hji:j=i
        ·subst hji;rw[hx]at hxj; cases hxj;exact⟨ha,hb,hc⟩
        ·exact hI j x (by omega) hxj
   ·left;refine⟨.inl (),by rw[AjG (by simpa using hlt)],?_⟩;rw[AjF];refine(AgI xs []).2 fun j x hx=> ?_;have hj:=(AjR.1 hx).1;simpa using hI j x (by omega) hx)
 rw[h1,h2]
theorem AgJ: ∀(xs:List Int) (last n:Int),okH xs last n=true↔∀(i:Nat) (x:Int),xs[i]? =some x→x<n∧(match i with|0=>last<x|j+1=> ∀y,xs[j]? =some y→y<x):=by
 intro xs;induction xs with
 |nil=>intro last n; simp[okH]
 |cons a xs ih=>
  intro last n;show((!decide (a≤last)&& !decide (n≤a))&&okH xs a n)=true↔_;rw[AjE,AjE,ih];simp only[Bool.not_eq_true',decide_eq_false_iff_not,Int.not_le];constructor
  ·rintro⟨⟨h1,h2⟩,h3⟩ i x hx;cases i with
   |zero=>simp at hx; subst hx; exact⟨h2,h1⟩
   |succ i=>
    obtain⟨h4,h5⟩:=h3 i x (by simpa using hx);refine⟨h4,?_⟩;cases i with
    |zero=>intro y hy; simp at hy; subst hy; exact h5
    |succ i=>intro y hy; exact h5 y (by simpa using hy)
  ·intro h;obtain⟨h1,h2⟩:=h 0 a rfl;refine⟨⟨h2,h1⟩,fun i x hx=> ?_⟩;obtain⟨h3,h4⟩:=h (i+1) x (by simpa using hx);refine⟨h3,?_⟩;cases i with
   |zero=>exact h4 a rfl
   |succ i=>intro y hy; exact h4 y (by simpa using hy)
theorem Aip {xs:List Int}{n:Int}(h: ∀(i:Nat) (x:Int),xs[i]? =some x→0≤x∧x<n∧∀j y,i=j+1→xs[j]? =some y→y<x):okH xs (-1) n=true:=by
 refine(AgJ xs (-1) n).2 fun i x hx=> ?_;obtain⟨h1,h2,h3⟩:=h i x hx;refine⟨h2,?_⟩;cases i with
 |zero=>show(-1:Int)<x; omega
 |succ i=>intro y hy; exact h3 i y rfl hy
theorem AaG: ∀{xs:List Int} {last n:Int},okH xs last n=true→∀x∈xs,last<x:=by
 intro xs;induction xs with
 |nil=>intro last n _ x hx; cases hx
 |cons y xs ih=>
  intro last n h x hx;have h':((!decide (y≤last)&& !decide (n≤y))&&okH xs y n)=true:=h;rw[AjE,AjE]at h';have h1:=h'.1.1;simp at h1;rcases Aj5.1 hx with rfl|hx
  ·exact h1
  ·have:=ih h'.2 x hx; omega
theorem AaV {l:Ah}(hl:l.Hide.length≤100000):iter (FY l) Bl 0=some (if okH l.Hide (-1) (l.L.length:Int)=true then .inl ()else .inr 1):=by
 obtain⟨y,h1,h2⟩:=Mm (step:=FY l) (T:=fun y=>y=if okH l.Hide (-1) (l.L.length:Int)=true then .inl ()else .inr 1) (s0:=0)
  (fun i s=>s=(i:Int)∧i≤l.Hide.length∧∀(j:Nat) (x:Int),j<i→l.Hide[j]? =some x→0≤x∧x<(l.L.length:Int)∧∀k y,j=k+1→l.Hide[k]? =some y→y<x) l.Hide.length (by omega) ⟨rfl,by omega,fun j _ h=>by omega⟩ (by
   rintro i s hi ⟨rfl,h0,hI⟩;unfold FY;by_cases hlt:i<l.Hide.length
   ·have hx:l.Hide[i]? =some l.Hide[i]:=by simp[hlt]
    generalize hv:l.Hide[i]=v at hx;rw[AjF (by simpa using hlt),On hx,Aa];have bad: ¬(0≤v∧v<(l.L.length:Int)∧∀k y,i=k+1→l.Hide[k]? =some y→y<v)→(.inr 1:Unit⊕Int)=if okH l.Hide (-1) (l.L.length:Int)=true then .inl ()else .inr 1:=by
     intro hb;rw[AjG];intro hok;have h3:=AaG hok v (Aj2 hx);obtain⟨h4,h5⟩:=(AgJ _ _ _).1 hok i v hx;refine hb ⟨by omega,h4,fun k y hk hy=> ?_⟩;subst hk;exact h5 y hy
    obtain⟨a,e1,e2⟩:=gu_ok (c:= !(decide (v<0))) (o:=some v) (x:=v) (fun _=>rfl);rw[e1,Aa];obtain⟨b,e3,e4⟩:=gu_tot (c:=(!((decide (v<0))||(decide (a≥(l.L.length:Int)))))&&(decide ((i:Int)>0))) (o:=idx l.Hide (w64 ((i:Int)-1))) (fun hc=>by
     have hi0:0<i:=by
      rw[AjE,AjI]at hc;have:=hc.2; omega
     have hw:w64 ((i:Int)-1)=((i-1:Nat):Int):=by rw[BU (by omega) (by omega)]; omega
     exact⟨l.Hide[i-1],by rw[hw]; exact ZI (by omega)⟩)
    rw[e3,Aa];obtain⟨d,e5,e6⟩:=gu_ok (c:=(!((decide (v<0))||(decide (a≥(l.L.length:Int)))))&&(decide ((i:Int)>0))) (o:=some v) (x:=v) (fun _=>rfl);rw[e5,Aa];by_cases hv0:v<0
    ·left;refine⟨.inr 1,?_,bad (fun q=>by omega)⟩;rw[AjN hv0,Bool.true_or,Bool.true_or,AjF rfl]
    ·have ha:a=v:=e2 (by simpa using hv0);subst ha;by_cases hvl:a≥(l.L.length:Int)
     ·left;refine⟨.inr 1,?_,bad (fun q=>by omega)⟩;rw[AjN hvl,Bool.or_true,Bool.true_or,AjF rfl]
     ·rw[AjM hv0,AjM hvl,Bool.or_self,AkH,Akb]at e4 e6;rw[AjM hv0,AjM hvl,Bool.or_self,AkB];by_cases hi0:0<i
      ·have hw:w64 ((i:Int)-1)=((i-1:Nat):Int):=by rw[BU (by omega) (by omega)]; omega
       have hd:=e6 (by simpa using hi0);have hb:=e4 (by simpa using hi0);subst hd;rw[hw,ZI (by omega)]at hb;have hb':l.Hide[i-1]? =some b:=by
        rw[Aks (by omega)]; exact hb
       by_cases hbd:b≥d
       ·left;refine⟨.inr 1,?_,bad (fun q=> ?_)⟩
        ·rw[AjN hbd,AjN (by omega),Bool.and_self,AjF rfl]
        ·have:=q.2.2 (i-1) b (by omega) hb'; omega
       ·right;refine⟨hlt,((i+1:Nat):Int),?_,rfl,by omega,fun j x hj hxj=> ?_⟩
        ·rw[AjM hbd,Ake,AjG Bool.false_ne_true,KQ (by omega)]
        ·by_cases hji:j=i
         ·subst hji;rw[hx]at hxj; cases hxj;refine⟨by omega,by omega,fun k y hk hy=> ?_⟩;subst hk;rw[Nat.add_sub_cancel]at hb';rw[hb']at hy; cases hy; omega
         ·exact hI j x (by omega) hxj
      ·right;refine⟨hlt,((i+1:Nat):Int),?_,rfl,by omega,fun j x hj hxj=> ?_⟩
       ·rw[AjM (show¬((i:Int)>0) by omega),Akt,AjG Bool.false_ne_true,KQ (by omega)]
       ·by_cases hji:j=i
        ·subst hji;rw[hx]at hxj; cases hxj;exact⟨by omega,by omega,fun k y hk hy=>by omega⟩
        ·exact hI j x (by omega) hxj
   ·left;refine⟨.inl (),by rw[AjG (by simpa using hlt)],?_⟩;rw[AjF];refine Aip fun j x hx=> ?_;have hj:=(AjR.1 hx).1;exact hI j x (by omega) hx)
 rw[h1,h2]
theorem Pa {l:Ah}(h:l.L.length+l.Wait.length≤100000)(hh:l.Hide.length≤100000):IA l=some (chk l):=by
 unfold IA;rw[Zs,Aa];have hc:(((((!okNum l.Id)||(decide ((l.Key.toNat:Int)<1)))||(decide ((l.Key.toNat:Int)≥1152921504606845789)))||(decide (l.Delay<0)))||(decide (l.Delay>1000)))= !AcN l:=by
  unfold AcN;rw[Akn];cases okNum l.Id<;>simp<;>omega
 rw[hc];unfold chk;cases h0:AcN l with
 |false=>rw[AkH,AjF rfl,AjG (by decide)]
 |true=>
  rw[AkD,AjG Bool.false_ne_true,AjF rfl,Agd h,Aa,AaW (by simp; omega),Aa];cases h1:okL (l.L++l.Wait) []with
  |false=>rw[AjG Bool.false_ne_true,AjG Bool.false_ne_true]
  |true=>
   rw[AjF rfl,AjF rfl];dsimp only;rw[AaV hh,Aa];cases h2:okH l.Hide (-1) (l.L.length:Int)with
   |false=>rw[AjG Bool.false_ne_true,AjG Bool.false_ne_true]
   |true=>
    rw[AjF rfl,AjF rfl];dsimp only;by_cases h4:256<(l.L++l.Wait).length
    ·rw[AjF h4,AjF (by rw[AjI]; omega)]
    ·rw[AjG h4,AjG (by rw[AjI]; omega)]
end Go.Proofs.YtibojdgdjhngiaaGreatDoor
end
section
namespace Go.Proofs.YtibojdgdjhngiaaGreatDoor
open Go Go.Gw Go.Ax
theorem Ac6 {b:List UInt8}(h:b.length≤600000):H6 b=some (pleaf b):=by
 unfold H6;rw[XA _ _ (by simp[Zl]; omega) (by simp),Aa]; rfl
theorem Adm {l:Ah}(hl:l.Hide.length≤100000)(t:Int):HI l t=some (decide (t∈l.Hide)):=by
 obtain⟨y,h1,h2⟩:=Mm (step:=Hs l t) (T:=fun y=>y=if t∈l.Hide then .inr true else .inl ()) (s0:=0)
  (fun i s=>s=(i:Int)∧i≤l.Hide.length∧∀(j:Nat) (x:Int),j<i→l.Hide[j]? =some x→x≠t) l.Hide.length (by omega) ⟨rfl,by omega,fun j _ h=>by omega⟩ (by
   rintro i s hi ⟨rfl,h0,hI⟩;unfold Hs;by_cases hlt:i<l.Hide.length
   ·have hx:l.Hide[i]? =some l.Hide[i]:=by simp[hlt]
    rw[AjF (by simpa using hlt),On hx,Aa];by_cases he:l.Hide[i]=t
    ·left;refine⟨.inr true,by rw[AjF (by simpa using he)],?_⟩;rw[AjF (he▸List.getElem_mem hlt)]
    ·right;refine⟨hlt,((i+1:Nat):Int),?_,rfl,by omega,fun j x hj hxj=> ?_⟩
     ·rw[AjG (by simpa using he),KQ (by omega)]
     ·by_cases hji:j=i
      ·subst hji; rw[hx]at hxj; cases hxj; exact he
      ·exact hI j x (by omega) hxj
   ·left;refine⟨.inl (),by rw[AjG (by simpa using hlt)],?_⟩;rw[AjG];intro hm;obtain⟨j,hj⟩:=List.getElem?_of_mem hm;have:=(AjR.1 hj).1;exact hI j t (by omega) hj rfl)
 unfold HI;rw[h1,h2,Aa];by_cases hm:t∈l.Hide
 ·rw[AjF hm,AjN hm]
 ·rw[AjG hm,AjM hm]
end Go.Proofs.YtibojdgdjhngiaaGreatDoor
end
section
namespace Go.Proofs.YtibojdgdjhngiaaGreatDoor
open Go Go.Gw Go.Ax
theorem Re {l:Ah}(hl:l.L.length+l.Wait.length≤100000)(hh:l.Hide.length≤100000)(h:chk l=0)(v:Bool):DJ l (if v=true then 1 else 0)=some (FE v l,0):=by
 obtain⟨h0,h1,h2,h3⟩:=IS h;have hlen:=Rc v l;obtain⟨y,e1,e2⟩:=Mm (step:=Ht l (if v=true then 1 else 0)) (T:=fun y=>y=FE v l) (s0:=([],0)) (fun i s=>s=((FE v l).take i,(i:Int))∧i≤l.L.length) l.L.length (by omega) ⟨by simp,by omega⟩ (by
  rintro i s hi ⟨rfl,_⟩;unfold Ht;dsimp only;by_cases hlt:i<l.L.length
  ·right;have hx:l.L[i]? =some l.L[i]:=by simp[hlt]
   have hg:=Ya v h2 hx;have hbl:l.L[i].Body.length≤2048:=N3 h1 _ (List.mem_append_left _ (List.getElem_mem hlt));have htk:(FE v l).take (i+1)=(FE v l).take i++[cur v (decide ((i:Int)∈l.Hide)) l.L[i].Body]:=by
    rw[List.take_add_one,hg]; rfl
   have hap: ∀y:UInt64×UInt64,app 16 ((FE v l).take i) [y]=some ((FE v l).take i++[y]):=fun y=>G3 16 (by rw[Aj9]; simp; omega) (by rw[Aj9]; simp; omega);refine⟨hlt,((FE v l).take (i+1),((i+1:Nat):Int)),?_,rfl,by omega⟩;rw[AjF (by simpa using hlt)];have body: ∀(p:List UInt8),p.length≤1→pleaf (p++l.L[i].Body)=cur v (decide ((i:Int)∈l.Hide)) l.L[i].Body→
     (Ab (idx l.L (i:Int)) fun x8=>Ab (app 1 p x8.Body) fun x9=>Ab (H6 x9) fun x10=>Ab (app 16 ((FE v l).take i) ([x10]:List (UInt64×UInt64))) fun x11=>some (Sum.inl (β:=List (UInt64×UInt64)) (x11,(w64 ((i:Int)+1)))))=some (.inl ((FE v l).take (i+1),((i+1:Nat):Int))):=by
    intro p hp he;rw[On hx,Aa,G3 1 (by omega) (by omega),Aa,Ac6 (by rw[AjJ]; omega),Aa,hap,Aa,he,htk,KQ (by omega)]
   cases v with
   |true=>
    rw[Yh _ (by decide),Adm hh,Aa];by_cases hm:(i:Int)∈l.Hide
    ·rw[AjF (by simp[hm]),G3 1 (by simp) (by simp),Aa,Aa];exact body _ (by simp) (by simp[cur,hm])
    ·rw[AjG (by simp[hm]),Aa];exact body _ (by simp) (by simp[cur,hm])
   |false=>
    rw[gu_f _ (by decide),Aa,AjG (by simp),Aa];exact body _ (by simp) (by simp[cur])
  ·left;refine⟨(FE v l).take i,by rw[AjG (by simpa using hlt)],?_⟩;rw[Akx (by omega)])
 unfold DJ;rw[Pa hl hh,Aa,h,AjG (by decide),AjG (by cases v<;>decide),e1,e2,Aa,Aa]
theorem X9 {l:Ah}(hl:l.L.length+l.Wait.length≤100000)(hh:l.Hide.length≤100000)(a:Int): ∃xs e,CP l a=some (xs,e)∧DJ l a=some (xs,e)∧xs.length≤256∧(e=0→chk l=0)∧(e=0∨e=1∨e=2∨e=240):=by
 by_cases hc:chk l=0
 ·by_cases ha:a=0∨a=1
  ·obtain⟨v,rfl⟩: ∃v:Bool,a=if v=true then 1 else 0:=by
    rcases ha with rfl|rfl
    ·exact⟨false,rfl⟩
    ·exact⟨true,rfl⟩
   have h3:=(IS hc).2.2.2;refine⟨FE v l,0,SX hl hc v,Re hl hh hc v,?_,fun _=>hc,.inl rfl⟩;rw[Rc]; simp at h3; omega
  ·refine⟨[],240,?_,?_,by simp,fun h=>by omega,by omega⟩
   ·unfold CP;rw[Rv hl,Aa,hc,AjG (by decide),AjF (by simp; omega)]
   ·unfold DJ;rw[Pa hl hh,Aa,hc,AjG (by decide),AjF (by simp; omega)]
 ·refine⟨[],chk l,?_,?_,by simp,fun h=>absurd h hc,?_⟩
  ·unfold CP;rw[Rv hl,Aa,AjF (by simpa using hc)]
  ·unfold DJ;rw[Pa hl hh,Aa,AjF (by simpa using hc)]
  ·unfold chk at hc⊢;split<;>(try split)<;>(try split)<;>(try split)<;>simp
end Go.Proofs.YtibojdgdjhngiaaGreatDoor
end
section
namespace Go.Proofs.YtibojdgdjhngiaaGreatDoor
open Go Go.Gw Go.Ax
def PD (d:Nat)(x:g_api_Item):Prop:=mayB d x=true∧(putB d x).length≤100000
theorem AcG {d:Nat}{x y:g_api_Item}(h:PD (d+1) x)(hy:y∈x.L):PD d y:=(Sq h.1 h.2).2 y hy
theorem MA: ∀(d e:Nat) {x:g_api_Item},PD d x→EK e x
 |_,0,x,_=>trivial
 |0,e+1,x,h=>by cases h.1
 |d+1,e+1,x,h=>by
  have hb:x.B.length≤(putB (d+1) x).length:=by
   show _≤(toB x.Tag::(Hg (x.B++x.L.flatMap (putB d)).length++(x.B++x.L.flatMap (putB d)))).length;have q:(x.B++x.L.flatMap (putB d)).length=x.B.length+(x.L.flatMap (putB d)).length:=AjJ;rw[AjD,AjJ,q];omega
  have h2:=h.2;exact⟨by omega,by have:=(Sq h.1 h.2).1; omega,fun y hy=>MA d e (AcG h hy)⟩
theorem Wh {d:Nat}{x:g_api_Item}(h:PD d x)(hd:d≤8):PZ 8 x:=Ys (Wq hd h.1)
def PL (d:Nat)(l:Its):Prop:= ∀x∈l,PD d x
theorem PL.tail {d:Nat}{l:Its}(h:PL d l):PL d l.tail:=fun x hx=>h x (List.mem_of_mem_tail hx)
abbrev zI0:g_api_Item:=⟨0,[],[]⟩
theorem AhE (c:UInt8):w64 (c.toNat:Int)=(c.toNat:Int):=by have:=c.toNat_lt; exact Ay (by omega) (by omega)
theorem Vi {x:g_api_Item}{t:Int}(h:PZ 8 x∧EK 8 x∨x.Tag≠t):Hw x t=some (if x.Tag=t then(if mayB 8 x=true then 0 else 71)else 72):=by
 unfold Hw;by_cases ht:x.Tag=t
 ·rw[AjG (by simp[ht]),AjF ht];rcases h with h|h
  ·rw[Z8 h.1 h.2,Aa];cases mayB 8 x<;>rfl
  ·exact absurd ht h
 ·rw[AjF (by simpa using ht),AjG ht]
theorem Te {x:g_api_Item}(hn:x.B.length≤1000000): ∀(r:List UInt8) (i f:Nat) (s:Int),x.B.drop i=r→r.length<f→iter (B7 x) f (s,(i:Int))=some (TA s r)
 |r,i,0,s,_,h=>by omega
 | [],i,f+1,s,h,_=>by
  have hl:x.B.length≤i:=Akd.1 h;have e:B7 x (s,(i:Int))=some (.inr s):=by
   unfold B7;show(if decide ((i:Int)<(x.B.length:Int))=true then _ else _)=_;rw[AjM (by omega)];rfl
  show Ab (B7 x (s,(i:Int))) _=_;rw[e]; rfl
 |c::r,i,f+1,s,h,hf=>by
  obtain⟨hc,hr,hlt⟩:=D6 h;have hcl:=c.toNat_lt;have e:B7 x (s,(i:Int))=some (.inl (w64 (s*256+(c.toNat:Int)),((i+1:Nat):Int))):=by
   unfold B7;show(if decide ((i:Int)<(x.B.length:Int))=true then _ else _)=_;rw[AjN (by omega),AjF rfl];show Ab (idx x.B (i:Int)) _=_;rw[CA hc,Aa,Az,F9 (by omega),Ay (x:=(c.toNat:Int)) (by omega) (by omega)];have:w64 (w64 (256*s)+(c.toNat:Int))=w64 (s*256+(c.toNat:Int)):=by unfold w64; omega
   rw[this]
  show Ab (B7 x (s,(i:Int))) _=_;rw[e];exact Te hn r (i+1) f _ hr (by rw[AjD]at hf; omega)
theorem Sx (s:Int)(a:UInt8)(l:List UInt8):TA s (a::l)=TA (w64 (s*256+(a.toNat:Int))) l:=rfl
theorem RD (a:UInt8)(l:List UInt8):Gt (a::l)=TA (s8 a) l:=rfl
theorem Tr {x:g_api_Item}(h:PZ 8 x∧EK 8 x∨x.Tag≠2):Fj x=Jt x:=by
 rw[Qd];unfold Fj;rw[Vi h,Aa];by_cases ht:x.Tag=2
 ·rw[AjF ht,AjF ht];cases hm:mayB 8 x with
  |false=>rfl
  |true=>
   rcases h with h|h;rotate_left
   ·exact absurd ht h
   have hk:=KX hm;rw[ht]at hk;have hk:Gq x.B=true:=hk;rw[AjF rfl,AjF rfl,AjG (by decide)];cases hb:x.B with
   |nil=>rw[hb]at hk; cases hk
   |cons a l=>
    have hn:=h.2.1;have hal:=a.toNat_lt;have hst: ∀s,iter (B7 x) Bl (s,0)=some (TA s (a::l)):=fun s=>by
     have:=Te (x:=x) h.2.1 x.B 0 Bl s rfl (by have:=AX; omega);rw[hb]at this;exact this
    rw[O0,Aa];by_cases h128:a.toNat<128
    ·rw[AjM (show¬(a.toNat:Int)≥128 from by omega),AjG (by decide),Aa,hst,Aa,Aa];have e1:s8 a=(a.toNat:Int):=AjF h128;have e2:(0:Int)*256+(a.toNat:Int)=(a.toNat:Int):=by omega
     rw[Sx,RD,e1,e2,AhE]
    ·rw[AjN (show(a.toNat:Int)≥128 from by omega),AjF rfl,Aa,hst,Aa,Aa];have e1:s8 a=(a.toNat:Int)-256:=AjG h128;have e2:(-1:Int)*256+(a.toNat:Int)=(a.toNat:Int)-256:=by omega
     rw[Sx,RD,e1,e2,Ay (by omega) (by omega)]
 ·rw[AjG ht,AjG ht];rfl
theorem RE {x:g_api_Item}(h:PZ 8 x∧EK 8 x∨x.Tag≠12):Ew x=Ia x:=by
 rw[Oz];unfold Ew;rw[Vi h,Aa];by_cases ht:x.Tag=12
 ·rw[AjF ht,AjF ht];cases hm:mayB 8 x<;>rfl
 ·rw[AjG ht,AjG ht];rfl
theorem RG {x:g_api_Item}(h:PZ 8 x∧EK 8 x∨x.Tag≠1):Ex x=Ib x:=by
 rw[OA];unfold Ex;rw[Vi h,Aa];by_cases ht:x.Tag=1
 ·rw[AjF ht,AjF ht];cases hm:mayB 8 x with
  |false=>rfl
  |true=>
   have hk:=KX hm;rw[ht]at hk;have hk:Af7 x.B=true:=hk;rw[AjF rfl,AjF rfl,AjG (by decide)];match hb:x.B,hk with
   | [c],hk=>
    have hk:(c==0||c==255)=true:=hk;rw[Akl,Akg,Akg]at hk;rw[O0];rcases hk with q|q<;>rw[q]<;>rfl
 ·rw[AjG ht,AjG ht];rfl
theorem Pe {x:g_api_Item}(h:PZ 8 x∧EK 8 x∨x.Tag≠48)(hL:x.L.length≤100000):CN x=HB x:=by
 rw[ME hL];unfold CN;rw[Vi h,Aa];by_cases ht:x.Tag=48
 ·rw[AjF ht,AjF ht];cases hm:mayB 8 x with
  |false=>rfl
  |true=>
   rw[AjF rfl,AjF rfl,AjG (by decide),Kc 56 (by omega) (by omega)];rfl
 ·rw[AjG ht,AjG ht];rfl
theorem Ae7 (l:Its)(b:Bool):Cb ⟨l,b⟩=some (match l with| []=>((zI0,⟨[],true⟩):g_api_Item×Ao)|x::r=>(x,⟨r,b⟩)):=by
 unfold Cb;cases l with
 |nil=>rfl
 |cons x r=>
  have e:(((x::r).length:Int)==0)=false:=by simp only[AjX,AjD]; omega
  show(if(((x::r).length:Int)==0)=true then _ else _)=_;rw[e,AjG (by decide)];show Ab (idx (x::r) 0) _=_;rw[O0,Aa];show Ab (cut (x::r) 1 ((x::r).length:Int)) _=_;rw[Ot];rfl
theorem intR {d:Nat}{l:Its}{b:Bool}(h:PL d l)(hd:d≤8): ∃v,AG ⟨l,b⟩=some (v,⟨l.tail,b||(Bb l).isNone⟩)∧∀n r,Bb l=some (n,r)→v=n∧l.tail=r:=by
 unfold AG;rw[Ae7,Aa];cases l with
 |nil=>
  refine⟨0,?_,fun n r h=>by cases h⟩;show Ab (Fj zI0) _=_;rw[Tr (.inr (by decide)),Qd,Aa];cases b<;>rfl
 |cons x r=>
  have hx:=h x AjZ;show∃v,Ab (Fj x) _=_∧_;rw[Tr (.inl ⟨Wh hx hd,MA d 8 hx⟩),Qd,Aa];have hm:mayB 8 x=true:=Wq hd hx.1;unfold Bb;rw[CU,hm];by_cases ht:x.Tag=2
  ·rw[AjF ht,AjF rfl,AjF ⟨ht,rfl⟩,Option.bind_some];by_cases h0:0≤Gt x.B
   ·refine⟨Gt x.B,?_,?_⟩
    ·rw[AjF h0];show some (Gt x.B,(⟨r,((b||((0:Int) !=0))||(decide (Gt x.B<0)))⟩:Ao))=some (Gt x.B,⟨r,b||false⟩);rw[AjM (by omega)];cases b<;>rfl
    ·intro n q hq;rw[AjF h0]at hq;cases hq;exact⟨rfl,rfl⟩
   ·refine⟨Gt x.B,?_,?_⟩
    ·rw[AjG h0];show some (Gt x.B,(⟨r,((b||((0:Int) !=0))||(decide (Gt x.B<0)))⟩:Ao))=some (Gt x.B,⟨r,b||true⟩);rw[AjN (by omega)];cases b<;>rfl
    ·intro n q hq;rw[AjG h0]at hq;cases hq
  ·rw[AjG ht,AjG (by simp[ht])];refine⟨0,?_,fun n q hq=>by cases hq⟩;show some ((0:Int),(⟨r,((b||((72:Int) !=0))||(decide ((0:Int)<0)))⟩:Ao))=some (0,⟨r,b||true⟩);cases b<;>rfl
theorem AhM {d:Nat}{l:Its}{b:Bool}(h:PL d l)(hd:d≤8): ∃v,B9 ⟨l,b⟩=some (v,⟨l.tail,b||(EB l).isNone⟩)∧∀n r,EB l=some (n,r)→v=n∧l.tail=r:=by
 unfold B9;rw[Ae7,Aa];cases l with
 |nil=>
  refine⟨(⟨#[]⟩:ByteArray),?_,fun n r h=>by cases h⟩;show Ab (Ew zI0) _=_;rw[RE (.inr (by decide)),Oz,Aa];cases b<;>rfl
 |cons x r=>
  have hx:=h x AjZ;show∃v,Ab (Ew x) _=_∧_;rw[RE (.inl ⟨Wh hx hd,MA d 8 hx⟩),Oz,Aa];have hm:mayB 8 x=true:=Wq hd hx.1;show∃v,_=some (v,(⟨r,b||(Iy 12 (fun x=>bs x.B) (x::r)).isNone⟩:Ao))∧∀n q,Iy 12 (fun x=>bs x.B) (x::r)=some (n,q)→v=n∧r=q;rw[CU,hm];by_cases ht:x.Tag=12
  ·rw[AjF ht,AjF rfl,AjF ⟨ht,rfl⟩];refine⟨bs x.B,by cases b<;>rfl,fun n q hq=>by cases hq; exact⟨rfl,rfl⟩⟩
  ·rw[AjG ht,AjG (by simp[ht])];exact⟨_,by cases b<;>rfl,fun n q hq=>by cases hq⟩
theorem truthR {d:Nat}{l:Its}{b:Bool}(h:PL d l)(hd:d≤8): ∃v,DS ⟨l,b⟩=some (v,⟨l.tail,b||(Rz l).isNone⟩)∧∀n r,Rz l=some (n,r)→v=n∧l.tail=r:=by
 unfold DS;rw[Ae7,Aa];cases l with
 |nil=>
  refine⟨false,?_,fun n r h=>by cases h⟩;show Ab (Ex zI0) _=_;rw[RG (.inr (by decide)),OA,Aa];cases b<;>rfl
 |cons x r=>
  have hx:=h x AjZ;show∃v,Ab (Ex x) _=_∧_;rw[RG (.inl ⟨Wh hx hd,MA d 8 hx⟩),OA,Aa];have hm:mayB 8 x=true:=Wq hd hx.1;show∃v,_=some (v,(⟨r,b||(Iy 1 (fun x=>SF x.B) (x::r)).isNone⟩:Ao))∧∀n q,Iy 1 (fun x=>SF x.B) (x::r)=some (n,q)→v=n∧r=q;rw[CU,hm];by_cases ht:x.Tag=1
  ·rw[AjF ht,AjF rfl,AjF ⟨ht,rfl⟩];refine⟨SF x.B,by cases b<;>rfl,fun n q hq=>by cases hq; exact⟨rfl,rfl⟩⟩
  ·rw[AjG ht,AjG (by simp[ht])];exact⟨_,by cases b<;>rfl,fun n q hq=>by cases hq⟩
theorem seqR {d:Nat}{l:Its}{b:Bool}(h:PL (d+1) l)(hd:d+1≤8): ∃v,BA ⟨l,b⟩=some (v,⟨l.tail,b||(Y1 l).isNone⟩)∧(∀n r,Y1 l=some (n,r)→v=n∧l.tail=r)∧PL d v∧v.length≤100000:=by
 unfold BA;rw[Ae7,Aa];cases l with
 |nil=>
  refine⟨[],?_,fun n r h=>(by cases h),fun x hx=>(by cases hx),by simp⟩;show Ab (CN zI0) _=_;rw[Pe (.inr (by decide)) (by decide),ME (by decide),Aa];cases b<;>rfl
 |cons x r=>
  have hx:=h x AjZ;have hxL:=(Sq hx.1 hx.2).1;show∃v,Ab (CN x) _=_∧_;rw[Pe (.inl ⟨Wh hx hd,MA (d+1) 8 hx⟩) hxL,ME hxL,Aa];have hm:mayB 8 x=true:=Wq hd hx.1;show∃v,_=some (v,(⟨r,b||(Iy 48 (fun x=>x.L) (x::r)).isNone⟩:Ao))∧(∀n q,Iy 48 (fun x=>x.L) (x::r)=some (n,q)→v=n∧r=q)∧_;rw[CU,hm];by_cases ht:x.Tag=48
  ·rw[AjF ht,AjF rfl,AjF ⟨ht,rfl⟩];exact⟨x.L,by cases b<;>rfl,fun n q hq=>by cases hq; exact⟨rfl,rfl⟩,fun y hy=>AcG hx hy,hxL⟩
  ·rw[AjG ht,AjG (by simp[ht])];exact⟨[],by cases b<;>rfl,fun n q hq=>(by cases hq),fun y hy=>(by cases hy),by simp⟩
theorem QI {d:Nat}(hd:d≤8): ∀(l:Its) (a:List ByteArray) (b:Bool) (f:Nat),PL d l→l.length<f→a.length+l.length≤1000000→∃t,iter A1 f (a,l,b)=some (a++t,[],b||(Qe l).isNone)∧∀q,Qe l=some q→t=q
 |l,a,b,0,_,h,_=>by omega
 | [],a,b,f+1,_,_,_=>by
  refine⟨[],?_,fun q h=>by cases h; rfl⟩;have e:A1 (a,[],b)=some (.inr (a,[],b)):=rfl;show Ab (A1 (a,[],b)) _=_;rw[e,Akk];cases b<;>rfl
 |x::l,a,b,f+1,h,hf,ha=>by
  rw[AjD]at hf ha;obtain⟨v,e,hv⟩:=AhM (b:=b) h hd;obtain⟨t,e2,ht⟩:=QI hd l (a++[v]) (b||(EB (x::l)).isNone) f h.tail (by omega) (by rw[AjJ]; show a.length+1+_≤_; omega);have hx1:Qe (x::l)=(EB (x::l)).bind fun p=>(Qe l).map fun t=>p.1::t:=by
   show(if x.Tag=12∧mayB 8 x=true then(Qe l).map fun t=>bs x.B::t else none)=(Iy 12 (fun x=>bs x.B) (x::l)).bind _;rw[CU];by_cases hx:x.Tag=12∧mayB 8 x=true
   ·rw[AjF hx,AjF hx]; rfl
   ·rw[AjG hx,AjG hx]; rfl
  refine⟨v::t,?_,?_⟩
  ·have es:A1 (a,x::l,b)=some (.inl (a++[v],l,b||(EB (x::l)).isNone)):=by
    unfold A1;show(if decide (((x::l).length:Int)>0)=true then _ else _)=_;rw[OX,AjF rfl];show Ab (B9 ⟨x::l,b⟩) _=_;rw[e,Aa];show Ab (app 16 a [v]) _=_;rw[Hi 16 (by show(a.length+1)*16≤_; omega) (by show a.length+1≤_; omega)];rfl
   show Ab (A1 (a,x::l,b)) _=_;rw[es];show iter A1 f (a++[v],l,b||(EB (x::l)).isNone)=_;rw[e2,hx1,AjP];cases EB (x::l)with
   |none=>cases b<;>rfl
   |some p=>cases Qe l<;>cases b<;>rfl
  ·intro q hq;rw[hx1]at hq;cases ht1:EB (x::l)with
   |none=>rw[ht1]at hq; cases hq
   |some p=>
    rw[ht1,Option.bind_some]at hq;cases ha1:Qe l with
    |none=>rw[ha1]at hq; cases hq
    |some t'=>
     rw[ha1]at hq;cases hq;rw[(hv p.1 p.2 ht1).1,ht t' ha1]
theorem Ago {d:Nat}{l:Its}{b:Bool}(h:PL (d+1) l)(hd:d+1≤8): ∃v,C0 ⟨l,b⟩=some (v,⟨l.tail,b||(Em l).isNone⟩)∧∀n r,Em l=some (n,r)→v=n∧l.tail=r:=by
 obtain⟨v,e,hv,hp,hl⟩:=seqR (b:=b) h hd;obtain⟨t,e2,ht⟩:=QI (d:=d) (by omega) v [] false Bl hp (by have:=AX; omega) (by simp only[AjW]; omega);unfold C0;rw[e,Aa];show∃w,Ab (Ab (iter A1 Bl ([],v,false)) _) _=_∧_;rw[e2,Aa,Aa];refine⟨t,?_,?_⟩
 ·show some (([]++t),(⟨l.tail,((b||(Y1 l).isNone)||(false||(Qe v).isNone))⟩:Ao))=_;rw[Akr];unfold Em;cases hs:Y1 l with
  |none=>cases b<;>cases (Qe v).isNone<;>rfl
  |some p=>
   obtain⟨p1,p2⟩:=p;obtain⟨hv1,_⟩:=hv p1 p2 hs;rw[Option.bind_some,hv1];cases Qe p1<;>cases b<;>rfl
 ·intro n r hq;unfold Em at hq;cases hs:Y1 l with
  |none=>rw[hs]at hq; cases hq
  |some p=>
   obtain⟨p1,p2⟩:=p;obtain⟨hv1,hv2⟩:=hv p1 p2 hs;rw[hs,Option.bind_some]at hq;cases ha:Qe p1 with
   |none=>rw[ha]at hq; cases hq
   |some t'=>
    rw[ha]at hq;have hq':=AjC hq;have q1:t'=n:=Aki (·.1) hq';have q2:p2=r:=Aki (·.2) hq';exact⟨by rw[←q1]; exact ht t' (by rw[hv1]; exact ha),by rw[hv2]; exact q2⟩
end Go.Proofs.YtibojdgdjhngiaaGreatDoor
end
