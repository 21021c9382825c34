/- Several texts, one behind the other. Conditions: none. -/
import Derived.Test.YtibojdgdjhngiaaGreatDoorZn
import Derived.Test.YtibojdgdjhngiaaGreatDoorZb
import Derived.Test.YtibojdgdjhngiaaGreatDoorZl
import Derived.Test.YtibojdgdjhngiaaGreatDoorCards
import Derived.Test.YtibojdgdjhngiaaGreatDoorTie
import Derived.WalkKit
import Derived.ProofKit
import Derived.OpenShut
import Derived.Deep.DeepHandedRow
import Derived.Lib.LaidTab
import Derived.SevenTiedAt
import Derived.Stop.LaidErr
set_option linter.unusedSimpArgs false
set_option linter.unusedVariables false
set_option maxHeartbeats 4000000
set_option maxRecDepth 100000
section
namespace Go.Proofs.YtibojdgdjhngiaaGreatDoor
open Go Go.Gw Go.Ax
def Told {α:Type}(ok:Bool)(c:α):Option (α×Its)→Prop
 |some q=>ok=true∧c=q.1
 |none=>ok=false
theorem asPre_eq {d:Nat}{l:Its}(h:PL (d+1) l)(hd:d+1≤8): ∃c ok,Fi l=some (c,ok)∧Told ok c (Zj l):=by
 obtain⟨v0,e0,s0⟩:=intR (b:=false) h hd;obtain⟨v1,e1,s1⟩:=AhM (b:=(false||(Bb (l)).isNone)) h.tail hd;obtain⟨v2,e2,s2⟩:=AhM (b:=((false||(Bb (l)).isNone)||(EB (l.tail)).isNone)) (h.tail).tail hd;obtain⟨v3,e3,s3⟩:=intR (b:=(((false||(Bb (l)).isNone)||(EB (l.tail)).isNone)||(EB (l.tail.tail)).isNone)) ((h.tail).tail).tail hd;obtain⟨v4,e4,s4⟩:=Ago (b:=((((false||(Bb (l)).isNone)||(EB (l.tail)).isNone)||(EB (l.tail.tail)).isNone)||(Bb (l.tail.tail.tail)).isNone)) (((h.tail).tail).tail).tail hd;obtain⟨v5,e5,s5⟩:=intR (b:=(((((false||(Bb (l)).isNone)||(EB (l.tail)).isNone)||(EB (l.tail.tail)).isNone)||(Bb (l.tail.tail.tail)).isNone)||(Em (l.tail.tail.tail.tail)).isNone)) ((((h.tail).tail).tail).tail).tail hd;obtain⟨v6,e6,s6⟩:=intR (b:=((((((false||(Bb (l)).isNone)||(EB (l.tail)).isNone)||(EB (l.tail.tail)).isNone)||(Bb (l.tail.tail.tail)).isNone)||(Em (l.tail.tail.tail.tail)).isNone)||(Bb (l.tail.tail.tail.tail.tail)).isNone)) (((((h.tail).tail).tail).tail).tail).tail hd;obtain⟨v7,e7,s7⟩:=truthR (b:=(((((((false||(Bb (l)).isNone)||(EB (l.tail)).isNone)||(EB (l.tail.tail)).isNone)||(Bb (l.tail.tail.tail)).isNone)||(Em (l.tail.tail.tail.tail)).isNone)||(Bb (l.tail.tail.tail.tail.tail)).isNone)||(Bb (l.tail.tail.tail.tail.tail.tail)).isNone)) ((((((h.tail).tail).tail).tail).tail).tail).tail hd;obtain⟨v8,e8,s8⟩:=intR (b:=((((((((false||(Bb (l)).isNone)||(EB (l.tail)).isNone)||(EB (l.tail.tail)).isNone)||(Bb (l.tail.tail.tail)).isNone)||(Em (l.tail.tail.tail.tail)).isNone)||(Bb (l.tail.tail.tail.tail.tail)).isNone)||(Bb (l.tail.tail.tail.tail.tail.tail)).isNone)||(Rz (l.tail.tail.tail.tail.tail.tail.tail)).isNone)) (((((((h.tail).tail).tail).tail).tail).tail).tail).tail hd;obtain⟨v9,e9,s9⟩:=Ago (b:=(((((((((false||(Bb (l)).isNone)||(EB (l.tail)).isNone)||(EB (l.tail.tail)).isNone)||(Bb (l.tail.tail.tail)).isNone)||(Em (l.tail.tail.tail.tail)).isNone)||(Bb (l.tail.tail.tail.tail.tail)).isNone)||(Bb (l.tail.tail.tail.tail.tail.tail)).isNone)||(Rz (l.tail.tail.tail.tail.tail.tail.tail)).isNone)||(Bb (l.tail.tail.tail.tail.tail.tail.tail.tail)).isNone)) ((((((((h.tail).tail).tail).tail).tail).tail).tail).tail).tail hd;have E:Fi l=some ((⟨v0,v1,v2,(toU v3),v4,v5,v6,v7,v8,v9,[],⟨0,0⟩⟩:g_api_Cert),((!((((((((((false||(Bb (l)).isNone)||(EB (l.tail)).isNone)||(EB (l.tail.tail)).isNone)||(Bb (l.tail.tail.tail)).isNone)||(Em (l.tail.tail.tail.tail)).isNone)||(Bb (l.tail.tail.tail.tail.tail)).isNone)||(Bb (l.tail.tail.tail.tail.tail.tail)).isNone)||(Rz (l.tail.tail.tail.tail.tail.tail.tail)).isNone)||(Bb (l.tail.tail.tail.tail.tail.tail.tail.tail)).isNone)||(Em (l.tail.tail.tail.tail.tail.tail.tail.tail.tail)).isNone))&&((((l.tail.tail.tail.tail.tail.tail.tail.tail.tail.tail).length:Nat):Int)==0))):=by
  unfold Fi;rw[e0,Aa];dsimp only;rw[e1,Aa];dsimp only;rw[e2,Aa];dsimp only;rw[e3,Aa];dsimp only;rw[e4,Aa];dsimp only;rw[e5,Aa];dsimp only;rw[e6,Aa];dsimp only;rw[e7,Aa];dsimp only;rw[e8,Aa];dsimp only;rw[e9,Aa];rfl
 refine⟨_,_,E,?_⟩;clear E e0 e1 e2 e3 e4 e5 e6 e7 e8 e9;unfold Zj;cases h0:Bb (l)with
 |none=>
  show(_:Bool)=false;simp
 |some q=>
  obtain⟨x0,r0⟩:=q;obtain⟨a0,t0⟩:=s0 x0 r0 h0;rw[Option.bind_some,←t0];cases h1:EB (l.tail)with
  |none=>
   show(_:Bool)=false;simp
  |some q=>
   obtain⟨x1,r1⟩:=q;obtain⟨a1,t1⟩:=s1 x1 r1 h1;rw[Option.bind_some,←t1];cases h2:EB (l.tail.tail)with
   |none=>
    show(_:Bool)=false;simp
   |some q=>
    obtain⟨x2,r2⟩:=q;obtain⟨a2,t2⟩:=s2 x2 r2 h2;rw[Option.bind_some,←t2];cases h3:Bb (l.tail.tail.tail)with
    |none=>
     have hb:Aa0 (l.tail.tail.tail)=none:=by unfold Aa0; rw[h3]; rfl
     rw[hb];show(_:Bool)=false;simp
    |some q=>
     obtain⟨x3,r3⟩:=q;obtain⟨a3,t3⟩:=s3 x3 r3 h3;have hb:Aa0 (l.tail.tail.tail)=some (toU x3,r3):=by unfold Aa0; rw[h3]; rfl
     rw[hb,Option.bind_some,←t3];cases h4:Em (l.tail.tail.tail.tail)with
     |none=>
      show(_:Bool)=false;simp
     |some q=>
      obtain⟨x4,r4⟩:=q;obtain⟨a4,t4⟩:=s4 x4 r4 h4;rw[Option.bind_some,←t4];cases h5:Bb (l.tail.tail.tail.tail.tail)with
      |none=>
       show(_:Bool)=false;simp
      |some q=>
       obtain⟨x5,r5⟩:=q;obtain⟨a5,t5⟩:=s5 x5 r5 h5;rw[Option.bind_some,←t5];cases h6:Bb (l.tail.tail.tail.tail.tail.tail)with
       |none=>
        show(_:Bool)=false;simp
       |some q=>
        obtain⟨x6,r6⟩:=q;obtain⟨a6,t6⟩:=s6 x6 r6 h6;rw[Option.bind_some,←t6];cases h7:Rz (l.tail.tail.tail.tail.tail.tail.tail)with
        |none=>
         show(_:Bool)=false;simp
        |some q=>
         obtain⟨x7,r7⟩:=q;obtain⟨a7,t7⟩:=s7 x7 r7 h7;rw[Option.bind_some,←t7];cases h8:Bb (l.tail.tail.tail.tail.tail.tail.tail.tail)with
         |none=>
          show(_:Bool)=false;simp
         |some q=>
          obtain⟨x8,r8⟩:=q;obtain⟨a8,t8⟩:=s8 x8 r8 h8;rw[Option.bind_some,←t8];cases h9:Em (l.tail.tail.tail.tail.tail.tail.tail.tail.tail)with
          |none=>
           show(_:Bool)=false;simp
          |some q=>
           obtain⟨x9,r9⟩:=q;obtain⟨a9,t9⟩:=s9 x9 r9 h9;rw[Option.bind_some,←t9];by_cases he:l.tail.tail.tail.tail.tail.tail.tail.tail.tail.tail=[]
           ·show Told _ _ (if l.tail.tail.tail.tail.tail.tail.tail.tail.tail.tail=[]then some _ else none);rw[AjF he];refine⟨?_,?_⟩
            ·rw[he]; rfl
            ·rw[a0,a1,a2,a3,a4,a5,a6,a7,a8,a9]
           ·show Told _ _ (if l.tail.tail.tail.tail.tail.tail.tail.tail.tail.tail=[]then some _ else none);rw[AjG he];show(_&&_)=false;have:((((l.tail.tail.tail.tail.tail.tail.tail.tail.tail.tail).length:Nat):Int)==0)=false:=by
             rw[AjX];intro q;exact he (List.eq_nil_of_length_eq_zero (by omega))
            rw[this,Ake]
end Go.Proofs.YtibojdgdjhngiaaGreatDoor
end
section
namespace Go.Proofs.YtibojdgdjhngiaaGreatDoor
open Go Go.Gw Go.Ax
end Go.Proofs.YtibojdgdjhngiaaGreatDoor
end
section
namespace Go.Proofs.YtibojdgdjhngiaaGreatDoor
open Go Go.Gw Go.Ax
def AaL:List UInt8→Int×Int×Int
 | []=>(0,0,70)
 |b::r=>if b.toNat<128 then((b.toNat:Int),1,0)
  else if b.toNat=129 then(match r with| []=>(0,0,70)|c::_=>if c.toNat<128 then(0,0,71)else((c.toNat:Int),2,0))
  else if b.toNat=130 then(match r with| []=>(0,0,70)| [_]=>(0,0,70)|c::d::_=>if c.toNat=0 then(0,0,71)else((c.toNat:Int)*256+(d.toNat:Int),3,0))
  else(0,0,71)
theorem lenF_cons (b:UInt8)(r:List UInt8):AaL (b::r)=(if b.toNat<128 then((b.toNat:Int),1,0)
 else if b.toNat=129 then(match r with| []=>(0,0,70)|c::_=>if c.toNat<128 then(0,0,71)else((c.toNat:Int),2,0))
 else if b.toNat=130 then(match r with| []=>(0,0,70)| [_]=>(0,0,70)|c::d::_=>if c.toNat=0 then(0,0,71)else((c.toNat:Int)*256+(d.toNat:Int),3,0))
 else(0,0,71):Int×Int×Int):=rfl
theorem lenF_eq (l:List UInt8)(hl:l.length≤1000000):AZ l=some (AaL l):=by
 match l with
 | []=>rfl
 |b::r=>
  have e0:(((b::r).length:Int)==0)=false:=by simp only[AjX,AjD]; omega
  have hb:=b.toNat_lt;have e1:w64 (b.toNat:Int)=(b.toNat:Int):=Ay (by omega) (by omega);rw[lenF_cons];by_cases h1:b.toNat<128
  ·rw[AjF h1]; exact fst1 b r h1
  rw[AjG h1];by_cases h2:b.toNat=129
  ·rw[AjF h2];have hbe:b=129:=UInt8.toNat_inj.1 h2;subst hbe;have f1:w64 (((129:UInt8).toNat:Int))=129:=Ay (x:=129) (by decide) (by decide);have f2:w64 ((129:Int)-128)=1:=rfl;have f3:w64 ((1:Int)+1)=2:=rfl;match r with
   | []=>
    unfold AZ;have f4:decide ((([129]:List UInt8).length:Int)≤1)=true:=by simp
    rw[e0,O0,AjG (by decide),Aa,f1,AjG (by decide),Az,f2,Az,AjG (by decide),Az,f4,AjF rfl]
   |c::r=>
    have hc:=c.toNat_lt;by_cases h3:c.toNat<128
    ·show _=some (if c.toNat<128 then(0,0,71)else((c.toNat:Int),2,0));rw[AjF h3];unfold AZ;have f4:decide (((129::c::r).length:Int)≤1)=false:=by simp only[decide_eq_false_iff_not,AjD]; omega
     have f5:cut (129::c::r) 1 2=some [c]:=O8 129 [c] r;have f6:PT (HZ 0 8) (w64 (c.toNat:Int))=(c.toNat:Int):=by
      rw[Ay (x:=(c.toNat:Int)) (by omega) (by omega),J7 0 _ (by omega) (by omega),Int.zero_mul,Int.zero_add,Ay (by omega) (by omega)]
     have f7:Db Dl [c] 0 0=some (c.toNat:Int):=by
      show some (PT (HZ 0 8) (w64 (c.toNat:Int)))=_;rw[f6]
     have f8:decide ((c.toNat:Int)<128)=true:=by simp only[AjI]; omega
     rw[e0,O0,AjG (by decide),Aa,f1,AjG (by decide),Az,f2,Az,AjG (by decide),Az,f4,AjG (by decide),f3,f5,Aa,f7,Aa,Aa,f8,AjF (by simp)]
    ·show _=some (if c.toNat<128 then(0,0,71)else((c.toNat:Int),2,0));rw[AjG h3];exact fst2 c r (by omega)
  rw[AjG h2];by_cases h3:b.toNat=130
  ·rw[AjF h3];have hbe:b=130:=UInt8.toNat_inj.1 h3;subst hbe;have f1:w64 (((130:UInt8).toNat:Int))=130:=Ay (x:=130) (by decide) (by decide);have f2:w64 ((130:Int)-128)=2:=rfl;have f3:w64 ((2:Int)+1)=3:=rfl;match r with
   | []=>
    unfold AZ;have f4:decide ((([130]:List UInt8).length:Int)≤2)=true:=by simp
    rw[e0,O0,AjG (by decide),Aa,f1,AjG (by decide),Az,f2,Az,AjG (by decide),Az,f4,AjF rfl]
   | [c]=>
    unfold AZ;have f4:decide (((130::[c]:List UInt8).length:Int)≤2)=true:=by simp
    rw[e0,O0,AjG (by decide),Aa,f1,AjG (by decide),Az,f2,Az,AjG (by decide),Az,f4,AjF rfl]
   |c::d::r=>
    have hc:=c.toNat_lt;have hd:=d.toNat_lt;show _=some (if c.toNat=0 then(0,0,71)else((c.toNat:Int)*256+(d.toNat:Int),3,0));by_cases h4:c.toNat=0
    ·rw[AjF h4];unfold AZ;have f4:decide (((130::c::d::r).length:Int)≤2)=false:=by simp only[decide_eq_false_iff_not,AjD]; omega
     have f5:cut (130::c::d::r) 1 3=some [c,d]:=O8 130 [c,d] r;have f6:PT (HZ 0 8) (w64 (c.toNat:Int))=(c.toNat:Int):=by
      rw[Ay (x:=(c.toNat:Int)) (by omega) (by omega),J7 0 _ (by omega) (by omega),Int.zero_mul,Int.zero_add,Ay (by omega) (by omega)]
     have f6':PT (HZ (c.toNat:Int) 8) (w64 (d.toNat:Int))=(c.toNat:Int)*256+(d.toNat:Int):=by
      rw[Ay (x:=(d.toNat:Int)) (by omega) (by omega),J7 _ _ (by omega) (by omega),Ay (by omega) (by omega)]
     have f7:Db Dl [c,d] 0 0=some ((c.toNat:Int)*256+(d.toNat:Int)):=by
      show some (PT (HZ (PT (HZ 0 8) (w64 (c.toNat:Int))) 8) (w64 (d.toNat:Int)))=_;rw[f6,f6']
     have f9:decide ((c.toNat:Int)*256+(d.toNat:Int)<256)=true:=by simp only[AjI]; omega
     rw[e0,O0,AjG (by decide),Aa,f1,AjG (by decide),Az,f2,Az,AjG (by decide),Az,f4,AjG (by decide),f3,f5,Aa,f7,Aa,Aa,f9,AjF (by simp)]
    ·rw[AjG h4];exact fst3 c d r (by omega)
  ·rw[AjG h3];unfold AZ;have f1:decide ((b.toNat:Int)<128)=false:=by simp only[decide_eq_false_iff_not]; omega
   have f2:(((b.toNat:Int) !=129)&&((b.toNat:Int) !=130))=true:=by
    rw[AjE,bne_iff_ne,bne_iff_ne]; omega
   rw[e0,O0,AjG (by decide),Aa,e1,f1,AjG (by decide),Az,Az,f2,AjF rfl]
theorem idx_off {α:Type}{b d:List α}{at_ k:Nat}{x:α}(h:b.drop at_=d)(hx:d[k]? =some x):idx b ((at_+k:Nat):Int)=some x:=by
 refine CA ?_;rw[←h,List.getElem?_drop]at hx;exact hx
def Afw (at_:Nat):List UInt8→BJ
 | []=>⟨0,0,0,70⟩
 |c::t=>if Ih (c.toNat:Int)=true then(if(AaL t).2.2=0 then⟨(c.toNat:Int),(AaL t).1,(at_:Int)+1+(AaL t).2.1,0⟩else⟨0,0,0,(AaL t).2.2⟩)else⟨0,0,0,71⟩
theorem headF_cons (at_:Nat)(c:UInt8)(t:List UInt8):Afw at_ (c::t)=if Ih (c.toNat:Int)=true then(if(AaL t).2.2=0 then⟨(c.toNat:Int),(AaL t).1,(at_:Int)+1+(AaL t).2.1,0⟩else⟨0,0,0,(AaL t).2.2⟩)else⟨0,0,0,71⟩:=rfl
theorem w64_u8 (c:UInt8):w64 (c.toNat:Int)=(c.toNat:Int):=by have:=c.toNat_lt; exact Ay (by omega) (by omega)
theorem w64_p1 {a:Nat}(h:a≤1000000):w64 ((a:Int)+1)=((a+1:Nat):Int):=by rw[Ay (by omega) (by omega)]; omega
theorem w64_p2 {a:Nat}(h:a≤1000000):w64 ((a:Int)+2)=((a+2:Nat):Int):=by rw[Ay (by omega) (by omega)]; omega
theorem w64_p3 {a:Nat}(h:a≤1000000):w64 ((a:Int)+3)=((a+3:Nat):Int):=by rw[Ay (by omega) (by omega)]; omega
theorem w64_pA {a k:Nat}{e:UInt8}(h:a≤1000000)(he:e.toNat=128+k):w64 (w64 (((a+2:Nat):Int)+(e.toNat:Int))-128)=((a+2+k:Nat):Int):=by
 have:=e.toNat_lt;rw[Ay (x:=((a+2:Nat):Int)+(e.toNat:Int)) (by omega) (by omega),Ay (by omega) (by omega)];omega
theorem w64_pB (f g:UInt8):w64 (w64 (256*(f.toNat:Int))+(g.toNat:Int))=(f.toNat:Int)*256+(g.toNat:Int):=by
 have:=f.toNat_lt;have:=g.toNat_lt;rw[Ay (x:=256*(f.toNat:Int)) (by omega) (by omega),Ay (by omega) (by omega)];omega
theorem headF_ok {at_:Nat}{c:UInt8}{t:List UInt8}{n long:Int}(hk:Ih (c.toNat:Int)=true)(h:AaL t=(n,long,0)):Afw at_ (c::t)=⟨(c.toNat:Int),n,(at_:Int)+1+long,0⟩:=by
 rw[headF_cons,AjF hk,h]; rfl
theorem headF_err {at_:Nat}{c:UInt8}{t:List UInt8}{e:Int}(hk:Ih (c.toNat:Int)=true)(h:AaL t=(0,0,e))(he:e≠0):Afw at_ (c::t)=⟨0,0,0,e⟩:=by
 rw[headF_cons,AjF hk,h,AjG he]
theorem head_eq {b:List UInt8}(hb:b.length≤1000000)(at_:Nat)(hat:at_≤b.length):JX b (at_:Int)=some (Afw at_ (b.drop at_)):=by
 have hlen:(b.drop at_).length=b.length-at_:=Aky;unfold JX;generalize hd:b.drop at_=d at hlen;match d with
 | []=>
  rw[AjW]at hlen;rw[AjN (show(at_:Int)≥(b.length:Int)from by omega),AjF rfl];rfl
 |c::t=>
  rw[AjD]at hlen;have hc:=c.toNat_lt;have ha:at_≤1000000:=Nat.le_trans hat hb;have i0:idx b (at_:Int)=some c:=idx_off (k:=0) hd rfl;have ek:((((((c.toNat:Int) !=1)&&((c.toNat:Int) !=2))&&((c.toNat:Int) !=4))&&((c.toNat:Int) !=12))&&((c.toNat:Int) !=48))= !Ih (c.toNat:Int):=by
   unfold Ih bne;cases ((c.toNat:Int)==1)<;>cases ((c.toNat:Int)==2)<;>cases ((c.toNat:Int)==4)<;>cases ((c.toNat:Int)==12)<;>cases ((c.toNat:Int)==48)<;>rfl
  rw[AjM (show¬(at_:Int)≥(b.length:Int)from by omega),AjG (by decide),i0,Aa,w64_u8,ek];cases hk:Ih (c.toNat:Int)with
  |false=>
   rw[show(!false)=true from rfl,AjF rfl,headF_cons,hk,AjG (by decide)]
  |true=>
   rw[show(!true)=false from rfl,AjG (by decide),w64_p1 ha,w64_p2 ha,w64_p3 ha];match t with
   | []=>
    rw[AjW]at hlen;rw[AjN (show((at_+1:Nat):Int)≥(b.length:Int)from by omega),AjF rfl,headF_err hk (e:=70) rfl (by decide)]
   |e::t=>
    rw[AjD]at hlen;have he:=e.toNat_lt;have i1:idx b ((at_+1:Nat):Int)=some e:=idx_off (k:=1) hd rfl;rw[AjM (show¬((at_+1:Nat):Int)≥(b.length:Int)from by omega),AjG (by decide),i1,Aa,w64_u8];by_cases h1:e.toNat<128
    ·rw[AjN (show(e.toNat:Int)<128 from by omega),AjF rfl,headF_ok hk (n:=(e.toNat:Int)) (long:=1) (by rw[lenF_cons,AjF h1])];rw[show((at_+2:Nat):Int)=(at_:Int)+1+1 from by omega]
    rw[AjM (show¬(e.toNat:Int)<128 from by omega),AjG (by decide)];by_cases h2:e.toNat=129
    ·have eb:(((e.toNat:Int) !=129)&&((e.toNat:Int) !=130))=false:=by rw[h2]; rfl
     have e29:((e.toNat:Int)==129)=true:=by rw[h2]; rfl
     have e30:((e.toNat:Int)==130)=false:=by rw[h2]; rfl
     rw[eb,AjG (by decide),w64_pA (k:=1) ha h2,e29,e30];match t with
     | []=>
      rw[AjW]at hlen;rw[AjN (show((at_+3:Nat):Int)>(b.length:Int)from by omega),AjF rfl,headF_err hk (e:=70) (by rw[lenF_cons,AjG h1,AjF h2]) (by decide)]
     |f::t=>
      rw[AjD]at hlen;have hf:=f.toNat_lt;have i2:idx b ((at_+2:Nat):Int)=some f:=idx_off (k:=2) hd rfl;rw[AjM (show¬((at_+3:Nat):Int)>(b.length:Int)from by omega),AjG (by decide),i2,Aa,AjG (by decide),Aa,w64_u8];by_cases h3:f.toNat<128
      ·rw[AjN (show(f.toNat:Int)<128 from by omega),headF_err hk (e:=71) (by rw[lenF_cons,AjG h1,AjF h2]; exact AjF h3) (by decide),AjF (by simp)]
      ·rw[AjM (show¬(f.toNat:Int)<128 from by omega),headF_ok hk (n:=(f.toNat:Int)) (long:=2) (by rw[lenF_cons,AjG h1,AjF h2]; exact AjG h3),AjG (by simp)];rw[show((at_+3:Nat):Int)=(at_:Int)+1+2 from by omega]
    by_cases h3:e.toNat=130
    ·have eb:(((e.toNat:Int) !=129)&&((e.toNat:Int) !=130))=false:=by rw[h3]; rfl
     have e29:((e.toNat:Int)==129)=false:=by rw[h3]; rfl
     have e30:((e.toNat:Int)==130)=true:=by rw[h3]; rfl
     rw[eb,AjG (by decide),w64_pA (k:=2) ha h3,e29,e30];match t with
     | []=>
      rw[AjW]at hlen;rw[AjN (show((at_+4:Nat):Int)>(b.length:Int)from by omega),AjF rfl,headF_err hk (e:=70) (by rw[lenF_cons,AjG h1,AjG h2,AjF h3]) (by decide)]
     | [f]=>
      rw[AjD,AjW]at hlen;rw[AjN (show((at_+4:Nat):Int)>(b.length:Int)from by omega),AjF rfl,headF_err hk (e:=70) (by rw[lenF_cons,AjG h1,AjG h2,AjF h3]) (by decide)]
     |f::g::t=>
      rw[AjD,AjD]at hlen;have hf:=f.toNat_lt;have hg:=g.toNat_lt;have i2:idx b ((at_+2:Nat):Int)=some f:=idx_off (k:=2) hd rfl;have i3:idx b ((at_+3:Nat):Int)=some g:=idx_off (k:=3) hd rfl;rw[AjM (show¬((at_+4:Nat):Int)>(b.length:Int)from by omega),AjG (by decide),i2,Aa,AjF rfl,i3,Aa,Az,Aa,w64_u8,w64_u8,w64_pB];by_cases h4:f.toNat=0
      ·rw[AjN (show(f.toNat:Int)*256+(g.toNat:Int)<256 from by omega),headF_err hk (e:=71) (by rw[lenF_cons,AjG h1,AjG h2,AjF h3]; exact AjF h4) (by decide),AjF (by simp)]
      ·rw[AjM (show¬(f.toNat:Int)*256+(g.toNat:Int)<256 from by omega),headF_ok hk (n:=(f.toNat:Int)*256+(g.toNat:Int)) (long:=3) (by rw[lenF_cons,AjG h1,AjG h2,AjF h3]; exact AjG h4),AjG (by simp)];rw[show((at_+4:Nat):Int)=(at_:Int)+1+3 from by omega]
    ·have eb:(((e.toNat:Int) !=129)&&((e.toNat:Int) !=130))=true:=by
      rw[AjE,bne_iff_ne,bne_iff_ne]; omega
     rw[eb,AjF rfl,headF_err hk (e:=71) (by rw[lenF_cons,AjG h1,AjG h2,AjG h3]) (by decide)]
end Go.Proofs.YtibojdgdjhngiaaGreatDoor
end
section
namespace Go.Proofs.YtibojdgdjhngiaaGreatDoor
open Go Go.Gw Go.Ax
abbrev zI:g_api_Item:=⟨0,[],[]⟩
def LZ (b:List UInt8)(q:g_api_Item×List UInt8×Int):g_api_Item×Int×Int:=if q.2.2=0 then(q.1,((b.length-q.2.1.length:Nat):Int),0)else(zI,0,q.2.2)
theorem outR_ok {b r:List UInt8}{x:g_api_Item}:LZ b (x,r,0)=(x,((b.length-r.length:Nat):Int),0):=rfl
theorem outR_err {b r:List UInt8}{x:g_api_Item}{e:Int}(h:e≠0):LZ b (x,r,e)=(zI,0,e):=AjG h
theorem w64_m1 {d:Nat}(h:d≤1000):w64 (((d+1:Nat):Int)-1)=(d:Int):=by rw[Ay (by omega) (by omega)]; omega
theorem w64_add3 {a k n:Nat}(h1:a≤1000000)(h2:k≤10)(h3:n≤100000):w64 ((a:Int)+1+(k:Int)+(n:Int))=((a+1+k+n:Nat):Int):=by
 rw[Ay (by omega) (by omega)]; omega
theorem w64_q1 {l z:Nat}(h1:l≤10)(h2:z≤100000):w64 (w64 (1+(l:Int))+(z:Int))=1+(l:Int)+(z:Int):=by
 rw[Ay (x:=1+(l:Int)) (by omega) (by omega),Ay (by omega) (by omega)]
theorem w64_q2 {i l z:Nat}(h1:l≤10)(h2:z≤100000)(h3:i≤1000000):w64 (w64 ((i:Int)+1+(l:Int)-(i:Int))+(z:Int))=1+(l:Int)+(z:Int):=by
 rw[Ay (x:=(i:Int)+1+(l:Int)-(i:Int)) (by omega) (by omega),Ay (by omega) (by omega)];omega
theorem w64_q3 {l:Nat}(h1:l≤10):w64 (1+(l:Int))=1+(l:Int):=Ay (by omega) (by omega)
theorem w64_q4 {b i l r:Nat}(h:b=i+1+l+r)(hb:b≤1000000):w64 ((b:Int)-((i:Int)+1+(l:Int)))=(r:Int):=by
 rw[Ay (by omega) (by omega)];omega
theorem suffix {b p r:List UInt8}{i:Nat}(h:b.drop i=p++r)(hi:i≤b.length):r.length≤b.length∧b.drop (b.length-r.length)=r∧i+p.length=b.length-r.length:=by
 have hl:b.length-i=p.length+r.length:=by rw[←Aky,h,AjJ]
 have e:i+p.length=b.length-r.length:=by omega
 refine⟨by omega,?_,e⟩;rw[←e,←Akw,h,AkP]
theorem loops (rF:List UInt8→Int→Option (g_api_Item×List UInt8×Int))(rG:List UInt8→Int→Int→Option (g_api_Item×Int×Int))(D:Nat)(hD:D≤100)(r0 b:List UInt8)(hd:BJ)(en:Nat)(hb:b.length≤1000000)(hen:en≤b.length)(hw:w64 (hd.At+hd.Len)=(en:Int))
  (hF: ∀d:List UInt8,d.length≤1000000→∃q,rF d (D:Int)=some q∧GotI D d q)
  (hG: ∀(c:List UInt8) (i:Nat) (q:g_api_Item×List UInt8×Int),1≤D→c.length≤1000000→i≤c.length→rF (c.drop i) (D:Int)=some q→rG c (i:Int) (D:Int)=some (LZ c q)):
  ∀(m i:Nat) (acc:List g_api_Item) (f1 f2:Nat) (t:(List UInt8×List g_api_Item)⊕(g_api_Item×List UInt8×Int)),en-i≤m→i≤en→m<f2→acc.length+m≤1000000→iter (Ch rF ((D+1:Nat):Int)) f1 (r0,(b.take en).drop i,acc)=some t→
    iter (Bv rG b ((D+1:Nat):Int) hd) f2 ((i:Int),acc)=some (match t with| .inl l=> .inl l.2| .inr _=> .inr (zI,0,71))
 |m,i,acc,0,f2,t,_,_,_,_,h=>by cases h
 |m,i,acc,f1+1,0,t,_,_,h,_,_=>by omega
 |m,i,acc,f1+1,f2+1,t,hm,hi,hf2,hacc,h=>by
  have hlen:((b.take en).drop i).length=en-i:=by rw[Aky,Aj9]; omega
  show Ab (Bv rG b ((D+1:Nat):Int) hd ((i:Int),acc)) _=_;obtain⟨y,hy,hq⟩:=KG h;unfold Ch at hy;by_cases hlt:i<en;rotate_left
  ·
    have e0:decide ((((b.take en).drop i).length:Int)>0)=false:=by rw[decide_eq_false_iff_not,hlen]; omega
    have hy:(if decide ((((b.take en).drop i).length:Int)>0)=true then _ else some (.inr (.inl (r0,acc))))=some y:=hy;rw[e0,AjG (by decide)]at hy;have hy:=AjC hy;subst hy;have es:Bv rG b ((D+1:Nat):Int) hd ((i:Int),acc)=some (.inr (.inl acc)):=by
     unfold Bv;show(if decide ((i:Int)<w64 (hd.At+hd.Len))=true then _ else _)=_;rw[hw,AjM (by omega),AjG (by decide)]
    rw[es];rcases hq with ⟨s',e',_⟩|e'
    ·cases e'
    ·have e':=Sum.inr.inj e';subst e';rfl
  have e0:decide ((((b.take en).drop i).length:Int)>0)=true:=by rw[AjI,hlen]; omega
  have hy:(if decide ((((b.take en).drop i).length:Int)>0)=true then Ab (rF ((b.take en).drop i) (w64 (((D+1:Nat):Int)-1))) _ else _)=some y:=hy;rw[e0,AjF rfl,w64_m1 (by omega)]at hy;obtain⟨⟨x,r,e⟩,q1,q2⟩:=hF ((b.take en).drop i) (by rw[hlen]; omega);rw[q1,Aa]at hy;by_cases hD0:D=0
  ·
    have he:e≠0:=by
     intro q;have:=(q2 q).1;rw[hD0]at this;cases this
    rw[AjF (by simpa using he)]at hy;have hy:=AjC hy;subst hy;have es:Bv rG b ((D+1:Nat):Int) hd ((i:Int),acc)=some (.inr (.inr (zI,0,71))):=by
     unfold Bv;show(if decide ((i:Int)<w64 (hd.At+hd.Len))=true then _ else _)=_;rw[hw,AjN (by omega),AjF rfl,AjN (by omega),AjF rfl]
    rw[es];rcases hq with ⟨s',e',_⟩|e'
    ·cases e'
    ·have e':=Sum.inr.inj e';subst e';rfl
  have hcut:cut b 0 (en:Int)=some (b.take en):=(Yw b en hen).1;have hg:=hG (b.take en) i (x,r,e) (by omega) (by rw[Aj9]; omega) (by rw[Aj9]; omega) q1;by_cases he:e=0;rotate_left
  · rw[AjF (by simpa using he)]at hy;have hy:=AjC hy;subst hy;rw[outR_err he]at hg;have es:Bv rG b ((D+1:Nat):Int) hd ((i:Int),acc)=some (.inr (.inr (zI,0,71))):=by
     unfold Bv;show(if decide ((i:Int)<w64 (hd.At+hd.Len))=true then _ else _)=_;rw[hw,AjN (by omega),AjF rfl,AjM (by omega),AjG (by decide),hcut,Aa,w64_m1 (by omega)];show Ab (rG (b.take en) (i:Int) (D:Int)) _=_;rw[hg,Aa,AjF (by simpa using he)]
    rw[es];rcases hq with ⟨s',e',_⟩|e'
    ·cases e'
    ·have e':=Sum.inr.inj e';subst e';rfl
  subst he;obtain⟨g1,g2⟩:=q2 rfl;have g1:mayB D x=true:=g1;have g2:(b.take en).drop i=putB D x++r:=g2;have hp:=XO g1;have hlt2:(b.take en).length=en:=by rw[Aj9]; omega
  obtain⟨s1,s2,s3⟩:=suffix g2 (by rw[hlt2]; exact hi);rw[hlt2]at s1 s2 s3;rw[outR_ok,hlt2]at hg;have ea:app 56 acc [x]=some (acc++[x]):=Hi 56 (by show(acc.length+1)*56≤_; omega) (by show acc.length+1≤_; omega);rw[AjG (by simp)]at hy;have hy:Ab (app 56 acc [x]) _=some y:=hy;rw[ea,Aa]at hy;have hy:=AjC hy;subst hy;have es:Bv rG b ((D+1:Nat):Int) hd ((i:Int),acc)=some (.inl (((en-r.length:Nat):Int),acc++[x])):=by
    unfold Bv;show(if decide ((i:Int)<w64 (hd.At+hd.Len))=true then _ else _)=_;rw[hw,AjN (by omega),AjF rfl,AjM (by omega),AjG (by decide),hcut,Aa,w64_m1 (by omega)];show Ab (rG (b.take en) (i:Int) (D:Int)) _=_;rw[hg,Aa,AjG (by simp)];show Ab (app 56 acc [x]) _=_;rw[ea,Aa]
  rw[es];rcases hq with ⟨s',e',h'⟩|e'
  · have e':=Sum.inl.inj e';subst e';have h':iter (Ch rF ((D+1:Nat):Int)) f1 (r0,r,acc++[x])=some t:=h';rw[←s2]at h';have:=loops rF rG D hD r0 b hd en hb hen hw hF hG (m-1) (en-r.length) (acc++[x]) f1 f2 t (by omega) (by omega) (by omega) (by rw[AjJ]; show acc.length+1+_≤_; omega) h';exact this
  · cases e'
theorem drop_tail {b t:List UInt8}{c:UInt8}{i k:Nat}(h:b.drop i=c::t):b.drop (i+1+k)=t.drop k:=by
 rw[←Akw,←Akw,h]; rfl
theorem read_of (D:Nat): ∀(n m:Nat) (b:List UInt8) (i:Nat) (q:g_api_Item×List UInt8×Int),1≤D→D≤100→D<n→D<m→b.length≤1000000→i≤b.length→Dj m (b.drop i) (D:Int)=some q→D8 n b (i:Int) (D:Int)=some (LZ b q):=by
 induction D with
 |zero=>intro n m b i q h; omega
 |succ D IH=>
  intro n m b i q _ hD hn hm hb hi h;obtain⟨n,rfl⟩: ∃k,n=k+1:=⟨n-1,by omega⟩;obtain⟨m,rfl⟩: ∃k,m=k+1:=⟨m-1,by omega⟩;have hF: ∀d:List UInt8,d.length≤1000000→∃q,Dj m d (D:Int)=some q∧GotI D d q:=fun d hd=>Adn D m d (by omega) (by omega) hd;have hG: ∀(c:List UInt8) (i:Nat) (q:g_api_Item×List UInt8×Int),1≤D→c.length≤1000000→i≤c.length→Dj m (c.drop i) (D:Int)=some q→D8 n c (i:Int) (D:Int)=some (LZ c q):=
   fun c i q h1 h2 h3 h4=>IH n m c i q h1 (by omega) (by omega) (by omega) h2 h3 h4
  have hlen:(b.drop i).length=b.length-i:=Aky;show HN (D8 n) b (i:Int) ((D+1:Nat):Int)=_;unfold HN;rw[head_eq hb i hi,Aa];have h:E3 (Dj m) (b.drop i) ((D+1:Nat):Int)=some q:=h;unfold E3 at h;generalize hd:b.drop i=d at h hlen;cases d with
  |nil=>
   rw[AjF (by rfl)]at h;have h:=AjC h;subst h;rfl
  |cons c t=>
   rw[AjD]at hlen;have e0:(((c::t).length:Int)==0)=false:=by simp only[AjX,AjD]; omega
   have eD:decide (((D+1:Nat):Int)<1)=false:=by rw[decide_eq_false_iff_not]; omega
   rw[e0,AjG (by decide),O0,Aa,w64_u8,eD]at h;cases hk:Ih (c.toNat:Int)with
   |false=>
    rw[(Gr hk).1,Aa,AjF (by simp)]at h;have h:=AjC h;subst h;rw[headF_cons,hk];rfl
   |true=>
    obtain⟨kd,e,ht,hmk⟩:=KI hk;rw[e,Aa,AjG (by simp),Ot,Aa,lenF_eq t (by omega),Aa]at h;obtain⟨ln,long,le,hl,hl0⟩:=ZE t (by omega);have hlf:AaL t=(ln,long,le):=by
     have:=lenF_eq t (by omega);rw[hl]at this;exact(AjC this).symm
    rw[hlf]at h;by_cases hle:le=0;rotate_left
    ·rw[AjF (by simpa using hle)]at h;have h:=AjC h;subst h;rw[headF_cons,hk,AjF rfl,hlf,AjG hle];show(if(le !=0)=true then _ else _)=_;rw[AjF (by simpa using hle),outR_err hle]
    subst hle;rw[headF_ok hk hlf];obtain⟨z,r,hz,ht2,rfl,rfl⟩:=hl0 rfl;have hll:=Oh z;have htl:t.length=(Hg z).length+r.length:=by rw[ht2,AjJ]
    have e6:cut (c::t) (w64 (1+((Hg z).length:Int))) ((c::t).length:Int)=some r:=by
     have:=Yv (c::Hg z) r;rw[w64_q3 (by omega)];rw[show((c::Hg z).length:Int)=1+((Hg z).length:Int)from by rw[AjD]; omega]at this;rw[ht2];exact this
    have hrd:b.drop (i+1+(Hg z).length)=r:=by rw[drop_tail hd,ht2,AkP]
    clear hl hl0 hlf ht2;generalize (Hg z).length=L at*;rw[AjG (by simp)]at h;have h:(if decide (w64 (w64 (1+(L:Int))+(z:Int))>8192)=true then _ else _)=some q:=h;rw[w64_q1 (by omega) (by omega)]at h;show(if((0:Int) !=0)=true then _ else _)=_;rw[AjG (by decide)];show(if decide (w64 (w64 ((i:Int)+1+(L:Int)-(i:Int))+(z:Int))>8192)=true then _ else _)=_;rw[w64_q2 (by omega) (by omega) (by omega)];by_cases h8:1+(L:Int)+(z:Int)>8192
    ·rw[AjN h8,AjF rfl]at h⊢;have h:=AjC h;subst h;rfl
    rw[AjM h8,AjG (by decide)]at h⊢;have h:Ab (cut (c::t) (w64 (1+(L:Int))) ((c::t).length:Int)) _=some q:=h;rw[e6,Aa]at h;clear e6;show(if decide ((z:Int)>w64 ((b.length:Int)-((i:Int)+1+(L:Int))))=true then _ else _)=_;rw[w64_q4 (r:=r.length) (by omega) hb];by_cases hzr:z≤r.length;rotate_left
    ·rw[AjF (by rw[AjI]; show(z:Int)>_; omega)]at h;have h:=AjC h;subst h;rw[AjN (by omega),AjF rfl];rfl
    rw[AjG (by rw[AjI]; show¬(z:Int)>_; omega)]at h;rw[AjM (by omega),AjG (by decide)];obtain⟨k1,k2⟩:=Yw r z hzr;have h:Ab (cut r 0 (z:Int)) _=some q:=h;rw[k1,Aa]at h;have h:Ab (cut r (z:Int) (r.length:Int)) _=some q:=h;rw[k2,Aa]at h;have o1:i≤1000000:=by omega
    have o2:L≤10:=by omega
    have o3:z≤100000:=by omega
    have o4:((i+1+L:Nat):Int)+(z:Int)=(i:Int)+1+(L:Int)+(z:Int):=by omega
    have o5:(i:Int)+1+(L:Int)=((i+1+L:Nat):Int):=by omega
    have hend:b.length-(r.drop z).length=i+1+L+z:=by rw[Aky]; omega
    show(if((c.toNat:Int) !=48)=true then _ else _)=_;have h:(if(kd.tag_ !=48)=true then _ else _)=some q:=h;rw[ht]at h;by_cases h48:(c.toNat:Int)=48
    ·rw[AjG (by simp[h48])]at h;rw[AjG (by simp[h48])];obtain⟨tt,t1,t2⟩:=Ad h;have hin:(b.take (i+1+L+z)).drop (i+1+L)=r.take z:=by
      rw[←List.take_drop,hrd]
     rw[←hin]at t1;have hlo:=loops (Dj m) (D8 n) D (by omega) (r.drop z) b ⟨(c.toNat:Int),(z:Int),(i:Int)+1+(L:Int),0⟩ (i+1+L+z) hb (by omega) (w64_add3 o1 o2 o3) hF hG z (i+1+L) [] Bl Bl tt (by omega) (by omega) (by have:=AX; omega) (by simp only[AjW]; omega) t1;show Ab (iter (Bv (D8 n) b ((D+1:Nat):Int) ⟨(c.toNat:Int),(z:Int),(i:Int)+1+(L:Int),0⟩) Bl ((i:Int)+1+(L:Int),([]:List g_api_Item))) _=_;rw[o5]at hlo⊢;rw[hlo,Aa];cases tt with
     |inr v=>
      have h2:=AjC t2;obtain⟨tt',u1,u2⟩:=P8 (Dj m) D (by omega) (r.drop z) hF z (r.take z) [] Bl (by rw[Aj9]; omega) (by have:=AX; omega) (by omega) (by simp only[AjW]; omega);rw[←hin,t1]at u1;have u1:=AjC u1;rcases u2 with u2|⟨l,u2,_⟩
      ·rw[←u1]at u2;have u2:=Sum.inr.inj u2;rw[←h2,u2];rfl
      ·rw[←u1]at u2; cases u2
     |inl v=>
      have h2:=AjC t2;obtain⟨tt',u1,u2⟩:=P8 (Dj m) D (by omega) (r.drop z) hF z (r.take z) [] Bl (by rw[Aj9]; omega) (by have:=AX; omega) (by omega) (by simp only[AjW]; omega);rw[←hin,t1]at u1;have u1:=AjC u1;rcases u2 with u2|⟨l,u2,_⟩
      ·rw[←u1]at u2; cases u2
      ·rw[←u1]at u2;have u2:=Sum.inl.inj u2;rw[←h2,u2];show some (_,w64 (((i+1+L:Nat):Int)+(z:Int)),0)=_;rw[o4,w64_add3 o1 o2 o3];show _=some (LZ b (_,r.drop z,0));rw[outR_ok,hend]
    ·rw[AjF (by simpa using h48),hmk,Aa]at h;rw[AjF (by simpa using h48)];have hcut:cut b ((i:Int)+1+(L:Int)) (w64 ((i:Int)+1+(L:Int)+(z:Int)))=some (r.take z):=by
      rw[w64_add3 o1 o2 o3];unfold cut;rw[AjF ⟨by omega,by omega,by omega⟩];rw[show((i:Int)+1+(L:Int)).toNat=i+1+L from by omega,hrd,AkQ,show i+1+L+z-(i+1+L)=z from by omega]
     show Ab (cut b ((i:Int)+1+(L:Int)) (w64 ((i:Int)+1+(L:Int)+(z:Int)))) _=_;have hzt:(r.take z).length=z:=by rw[Aj9]; omega
     rw[hcut,Aa,Kc 1 (by omega) (by omega),Aa];have hform:EY (⟨(c.toNat:Int),r.take z,[]⟩:g_api_Item)=some (PV (c.toNat:Int) (r.take z)):=by
      have hf:=Ri 1 Bl ⟨(c.toNat:Int),r.take z,[]⟩ (by have:=AX; omega) (fun y hy=>by cases hy) ⟨by show(r.take z).length≤_; omega,by simp,fun y hy=>by cases hy⟩;have hf:EY (⟨(c.toNat:Int),r.take z,[]⟩:g_api_Item)=some ((PV (c.toNat:Int) (r.take z)&&((c.toNat:Int)==48||true))&&true):=hf;rw[hf,Bool.or_true,AkE,AkE]
     show Ab (EY (⟨(c.toNat:Int),r.take z,[]⟩:g_api_Item)) _=_;rw[hform,Aa];cases hkb:PV (c.toNat:Int) (r.take z)with
     |false=>
      rw[hkb,AjF (by simp)]at h;have h:=AjC h;subst h;rfl
     |true=>
      rw[hkb,AjG (by simp),P9 (by omega),Aa]at h;have h:=AjC h;subst h;show some (_,w64 ((i:Int)+1+(L:Int)+(z:Int)),0)=some (LZ b (_,r.drop z,0));rw[w64_add3 o1 o2 o3,outR_ok,hend]
theorem Get07_eq {b:List UInt8}(hb:b.length≤3000): ∃(x:g_api_Item) (n e:Int),H9 b 0=some (x,n,e)∧Hx b 0=some (if e=0 then x else zI,if e=0 then n else 0,e):=by
 obtain⟨⟨x,r,e⟩,h1,h2⟩:=Adn 8 Bl b (by decide) (by have:=AX; omega) (by omega);have h3:=read_of 8 Bl Bl b 0 (x,r,e) (by decide) (by decide) (by have:=AX; omega) (by have:=AX; omega) (by omega) (by omega) h1;have h3:Mc b 0 8=some (LZ b (x,r,e)):=h3;have h1:Oe b 8=some (x,r,e):=h1;have e0:(decide ((0:Int)<0)||decide ((0:Int)>(b.length:Int)))=false:=by
  have: ¬(0:Int)>(b.length:Int):=by omega
  rw[AjM this]; rfl
 have e1:cut b 0 (b.length:Int)=some b:=by
  have:=Yu b [];rw[Akk]at this;exact this
 unfold H9 Hx;rw[e0,AjG (by decide),AjG (by decide),e1,Aa,h1,Aa,h3,Aa];by_cases he:e=0
 ·subst he;obtain⟨g1,g2⟩:=h2 rfl;have g2:b=putB 8 x++r:=g2;have hl:b.length=(putB 8 x).length+r.length:=by rw[g2,AjJ]
  rw[AjG (by simp),Az,outR_ok];refine⟨x,w64 ((b.length:Int)-(r.length:Int)),0,rfl,?_⟩;rw[AjF rfl,AjF rfl,Ay (by omega) (by omega)];show some (x,((b.length-r.length:Nat):Int),0)=_;rw[show((b.length-r.length:Nat):Int)=(b.length:Int)-(r.length:Int)from by omega]
 ·rw[AjF (by simpa using he),outR_err he];refine⟨_,_,e,rfl,?_⟩;rw[AjG he,AjG he]
end Go.Proofs.YtibojdgdjhngiaaGreatDoor
end
section
namespace Go.Proofs.YtibojdgdjhngiaaGreatDoor
open Go Go.Gw Go.Ax
theorem pd_len {d:Nat}{x:g_api_Item}(h:PD (d+1) x):x.B.length≤100000∧x.L.length≤100000:=by
 have hb:x.B.length≤(putB (d+1) x).length:=by
  show _≤(toB x.Tag::(Hg (x.B++x.L.flatMap (putB d)).length++(x.B++x.L.flatMap (putB d)))).length;have q:(x.B++x.L.flatMap (putB d)).length=x.B.length+(x.L.flatMap (putB d)).length:=AjJ;rw[AjD,AjJ,q];omega
 have h2:=h.2;exact⟨by omega,(Sq h.1 h.2).1⟩
theorem pd_text {d:Nat}{s:ByteArray}(h:PD (d+1) (FB s)):s.size≤100000:=by
 have:=(pd_len h).1;have e:(FB s).B.length=s.size:=AO s;omega
theorem pd_texts {d:Nat}{l:List ByteArray}(h:PD (d+2) (HY l)):l.length≤100000∧∀s∈l,s.size≤100000:=by
 have:=(pd_len h).2;have e:(HY l).L.length=l.length:=Akh ..;refine⟨by omega,fun s hs=>pd_text (AcG h (?_:FB s∈l.map FB))⟩;exact List.mem_map_of_mem hs
theorem few_of_pre {d:Nat}{c:g_api_Cert}(h:PD (d+3) (Aa6 c))(hp:c.Proms.length≤100000):FewP c:=by
 have hm: ∀y∈[Om c.Serial,FB c.Issuer,FB c.Subject,NA c.Key,HY c.Names,Om c.From,Om c.Until,Ry c.Ca,Om c.Depth,HY c.Permit],PD (d+2) y:=fun y hy=>AcG h hy;have m2:PD (d+2) (FB c.Issuer):=hm _ (by simp);have m3:PD (d+2) (FB c.Subject):=hm _ (by simp);have m5:PD (d+2) (HY c.Names):=hm _ (by simp);have m10:PD (d+2) (HY c.Permit):=hm _ (by simp);exact⟨pd_text m2,pd_text m3,(pd_texts m5).2,(pd_texts m5).1,(pd_texts m10).2,(pd_texts m10).1,hp⟩
def Ace (f:Its→Option (g_api_Cert×Its))(b:List UInt8)(x:g_api_Item)(n e:Int):g_api_Cert×Int:=if e=0 then(if n=(b.length:Int)∧x.Tag=48 then(match f x.L with|some q=>if checkV q.1=0 then(q.1,0)else(zc,71)|none=>(zc,71))else(zc,71))else(zc,e)
theorem resC_err {f:Its→Option (g_api_Cert×Its)}{b:List UInt8}{x:g_api_Item}{n e:Int}(h:e≠0):Ace f b x n e=(zc,e):=AjG h
theorem resC_no {f:Its→Option (g_api_Cert×Its)}{b:List UInt8}{x:g_api_Item}{n:Int}(h: ¬(n=(b.length:Int)∧x.Tag=48)):Ace f b x n 0=(zc,71):=by
 unfold Ace; rw[AjF rfl,AjG h]
theorem resC_yes {f:Its→Option (g_api_Cert×Its)}{b:List UInt8}{x:g_api_Item}{n:Int}(h:n=(b.length:Int))(h2:x.Tag=48):Ace f b x n 0=(match f x.L with|some q=>if checkV q.1=0 then(q.1,0)else(zc,71)|none=>(zc,71)):=by
 unfold Ace; rw[AjF rfl,AjF ⟨h,h2⟩]
theorem resC_none {f:Its→Option (g_api_Cert×Its)}{b:List UInt8}{x:g_api_Item}{n:Int}(h:n=(b.length:Int))(h2:x.Tag=48)(hf:f x.L=none):Ace f b x n 0=(zc,71):=by
 rw[resC_yes h h2,hf]
theorem resC_some {f:Its→Option (g_api_Cert×Its)}{b:List UInt8}{x:g_api_Item}{n:Int}{q:g_api_Cert×Its}(h:n=(b.length:Int))(h2:x.Tag=48)(hf:f x.L=some q):Ace f b x n 0=if checkV q.1=0 then(q.1,0)else(zc,71):=by
 rw[resC_yes h h2,hf]
theorem Get_pd {b:List UInt8}(hb:b.length≤3000): ∃(x:g_api_Item) (n e:Int),H9 b 0=some (x,n,e)∧Hx b 0=some (if e=0 then x else zI,if e=0 then n else 0,e)∧(e=0→PD 8 x):=by
 obtain⟨x,n,e,h1,h2⟩:=Aef hb;obtain⟨x',n',e',h3,h4⟩:=Get07_eq hb;rw[h1]at h3;have h3:=AjC h3;have q1:x=x':=Aki (·.1) h3;have q2:n=n':=Aki (·.2.1) h3;have q3:e=e':=Aki (·.2.2) h3;subst q1 q2 q3;exact⟨x,n,e,h1,h4,fun he=>⟨(h2 he).1,by have:=(h2 he).2.1; omega⟩⟩
section
variable {b:List UInt8}{x:g_api_Item}{n e:Int}(h1:H9 b 0=some (x,n,e))(hp:e=0→PD 8 x)
include h1 hp
theorem resP:DF b=some (Ace Zj b x n e):=by
 unfold DF FV DV;rw[h1,Aa];by_cases he:e=0;rotate_left
 ·rw[AjF (by simpa using he),resC_err he]; rfl
 subst he;have g1:=hp rfl;obtain⟨f1,f2⟩:=Adz g1.1 g1.2;rw[AjG (by simp),Ae9];by_cases hn:n=(b.length:Int);rotate_left
 ·have:((x,n,(0:Int)).2.1==(b.length:Int))=false:=by rw[AjX]; exact hn
  rw[this,resC_no fun q=>hn q.1];rfl
 have:((x,n,(0:Int)).2.1==(b.length:Int))=true:=by rw[Akg]; exact hn
 rw[this,AjF rfl,Aa];show Ab (Ab (Ab (Jy x) _) _) _=_;rw[AgY g1.1 f1];by_cases ht:x.Tag=48;rotate_left
 ·rw[AjG ht,resC_no fun q=>ht q.2]; rfl
 rw[AjF ht,Aa];show Ab (Ab (Ab (CK ⟨x.L⟩) _) _) _=_;rw[AcB f2.1];cases hw:Zj x.L with
 |none=>rw[resC_none hn ht hw]; rfl
 |some q=>
  obtain⟨c,r⟩:=q;obtain⟨w1,w2⟩:=Zi hw;have wp:(⟨c.Serial,c.Issuer,c.Subject,c.Key,c.Names,c.From,c.Until,c.Ca,c.Depth,c.Permit,[],c.Sig⟩:g_api_Cert)=c:=by rw[←w2]; rfl
  rw[Il,Aa,resC_some hn ht hw];show Ab (Ab (Ab (E5 (⟨c.Serial,c.Issuer,c.Subject,c.Key,c.Names,c.From,c.Until,c.Ca,c.Depth,c.Permit,[],c.Sig⟩:g_api_Cert)) _) _) _=some (if checkV c=0 then(c,0)else(zc,71));dsimp only;rw[wp,W0,Aa,Ae9];by_cases hc:checkV c=0
  ·rw[AjF hc,hc]; rfl
  ·have:(checkV c==0)=false:=by rw[AjX]; exact hc
   rw[AjG hc,this]; rfl
end
theorem pre_few {x:g_api_Item}{c:g_api_Cert}{r:Its}(hp:PD 8 x)(ht:x.Tag=48)(h:Zj x.L=some (c,r)):FewP c:=by
 obtain⟨h1,h2⟩:=Zi h;have e:x=Aa6 c:=by rw[AbR ht hp.1,h1]; rfl
 rw[e]at hp;exact few_of_pre hp (by rw[←h2]; exact AkA _)
def AiI (c:g_api_Cert)(ok:Bool):Option (g_api_Cert×Int):=Ab (gu (!(!ok)) (GK c)) fun x8=>if((!ok)||(x8 !=0))=true then some (zc,71)else some (c,0)
theorem last_eq {f:Its→Option (g_api_Cert×Its)}{b:List UInt8}{x:g_api_Item}{n:Int}(hn:n=(b.length:Int))(ht:x.Tag=48){c:g_api_Cert}{ok:Bool}(hT:Told ok c (f x.L))(hF: ∀c r,f x.L=some (c,r)→FewP c):AiI c ok=some (Ace f b x n 0):=by
 unfold AiI;cases hf:f x.L with
 |none=>
  rw[hf]at hT;have hT:ok=false:=hT;rw[resC_none hn ht hf,hT];rfl
 |some q=>
  rw[hf]at hT;obtain⟨k1,k2⟩:=hT;have P:=hF q.1 q.2 hf;rw[resC_some hn ht hf,k1,k2,show(!(!true))=true from rfl,Mp,AaX P,Aa];by_cases hc:checkV q.1=0
  ·rw[AjF hc,hc]; rfl
  ·rw[AjG hc,AjF (by simpa using hc)]
theorem seq18 {x:g_api_Item}(hp:PD 8 x):CN x=some (if x.Tag=48 then(x.L,0)else([],72)):=by
 have hL:=(pd_len hp).2;rw[Pe (.inl ⟨Wh hp (by decide),MA 8 8 hp⟩) hL,ME hL,AjF hp.1]
section
variable {b:List UInt8}{x:g_api_Item}{n e:Int}(h1:Hx b 0=some (if e=0 then x else zI,if e=0 then n else 0,e))(hp:e=0→PD 8 x)
include h1 hp
theorem res18P:FL b=some (Ace Zj b x n e):=by
 unfold FL Nq;rw[h1,Aa];by_cases he:e=0;rotate_left
 ·rw[AjF (by simpa using he),resC_err he]; rfl
 subst he;have g1:=hp rfl;rw[AjG (by simp)];show Ab (Ab (CN x) _) _=_;rw[seq18 g1,Aa];by_cases ht:x.Tag=48;rotate_left
 ·rw[AjG ht,resC_no fun q=>ht q.2,AjF (by simp)]; rfl
 rw[AjF ht];by_cases hn:n=(b.length:Int);rotate_left
 ·rw[resC_no fun q=>hn q.1,AjF (by simp[hn])]; rfl
 rw[AjG (by simp[hn])];have hL:PL 7 x.L:=fun y hy=>AcG g1 hy;obtain⟨c,ok,e1,hT⟩:=asPre_eq hL (by decide);rw[e1,Aa,AjG (by decide),Aa,AjG (by decide),Aa];show Ab (AiI (⟨c.Serial,c.Issuer,c.Subject,c.Key,c.Names,c.From,c.Until,c.Ca,c.Depth,c.Permit,[],c.Sig⟩:g_api_Cert) ok) (fun x1=>some (x1.1,x1.2))=_;have hT2:Told ok (⟨c.Serial,c.Issuer,c.Subject,c.Key,c.Names,c.From,c.Until,c.Ca,c.Depth,c.Permit,[],c.Sig⟩:g_api_Cert) (Zj x.L):=by
  cases hq:Zj x.L with
  |none=>rw[hq]at hT; exact hT
  |some q=>
   rw[hq]at hT;obtain⟨k1,k2⟩:=hT;refine⟨k1,?_⟩;obtain⟨_,w⟩:=Zi hq;rw[k2,←w];rfl
 rw[last_eq hn ht hT2 fun c r h=>pre_few g1 ht h];rfl
end
end Go.Proofs.YtibojdgdjhngiaaGreatDoor
end
section
namespace Go.Proofs.YtibojdgdjhngiaaGreatDoor
open Go Go.Gw Go.Ax
theorem gp18 {b:List UInt8}(hb:b.length≤3000): ∃e,FL b=some (gpV b,e)∧(e≠0→gpV b=zc):=by
 obtain⟨x,n,e,h1,h2,hp⟩:=Get_pd hb;have r1:=resP h1 hp;have r2:=res18P h2 hp;obtain⟨e',g1,g2,g3⟩:=AiY hb;rw[r1]at g1;have g1:=AjC g1;exact⟨(Ace Zj b x n e).2,by rw[r2,g1],fun hne=>g3 (by rw[g1]at hne; exact hne)⟩
theorem hid30 (l:Ah)(t:Int)(h:l.Hide.length≤1000000):Ev l t=some (decide (t∈l.Hide)):=by
 unfold Ev;rw[Tb l.Hide (fun x=>if(x==t)=true then some true else none) h (fun i x hx=>by
  have hi:=(AjR.1 hx).1;unfold Hr;rw[Ac0 hi,AjF rfl,Gi hx,Aa];split
  ·rfl
  ·rw[VV hi h]) (by unfold Hr; rw[X5,AjG (by decide)]),ZL (fun x=>x==t),Aa]
 have:l.Hide.any (fun x=>x==t)=decide (t∈l.Hide):=by
  refine Akn.2 ?_;rw[Ajy,decide_eq_true_iff]
 rw[←this];cases l.Hide.any (fun x=>x==t)<;>rfl
abbrev C13:=Int×ByteArray×ByteArray×UInt64×List ByteArray×Int×Int×Bool×Int×List ByteArray×List g_api_Promise×UInt64×UInt64
def AhG (c:g_api_Cert):C13:=(c.Serial,c.Issuer,c.Subject,c.Key,c.Names,c.From,c.Until,c.Ca,c.Depth,c.Permit,c.Proms,c.Sig.E,c.Sig.S)
theorem certs18_step {l:Ah}{v:Bool}{a:Int}(hv:(a==1)=v)(hh:l.Hide.length≤1000)(hl:l.L.length≤1000){i:Nat}{w:g_api_Leaf}(hx:l.L[i]? =some w)(hb:w.Body.length≤2048){out:List g_api_Cert}(ho:out.length≤1000000):
  Eo l a (out,(i:Int))=some (.inl (out++[gpV (Lo v l.Hide i w.Body)],((i+1:Nat):Int))):=by
 have hi:=(AjR.1 hx).1;have hbd:(Lo v l.Hide i w.Body).length≤3000:=RA hb;obtain⟨e,he,hz⟩:=gp18 hbd;have hbody:(Ab (
   Ab (gu (a==1) (Ev l (i:Int))) fun x6=>
   if((a==1)&&x6)=true then
    Ab (app 1 ([]:List UInt8) ([0]:List UInt8)) fun x7=>
    some x7
   else
   some ([]:List UInt8)
  ) fun x5=>app 1 x5 w.Body)=some (Lo v l.Hide i w.Body):=by
  rw[hv,hid30 l _ (by omega)];unfold Lo;cases v with
  |false=>
   rw[guF,Aa,Akt,AjG (by decide),Aa,Ake,AjG (by decide)];unfold app;rw[AjF ⟨by simp; omega,by simp; omega⟩,Akr]
  |true=>
   rw[guT,Aa,Akb,AkE];split
   ·rw[show app 1 ([]:List UInt8) ([0]:List UInt8)=some [0]from rfl,Aa,Aa];unfold app;rw[AjF ⟨by simp; omega,by simp; omega⟩];rfl
   ·rw[Aa];unfold app;rw[AjF ⟨by simp; omega,by simp; omega⟩,Akr]
 unfold Eo;dsimp only;rw[Ac0 hi,AjF rfl];generalize hX:(Ab (gu (a==1) (Ev l (i:Int))) fun x6=>
   if((a==1)&&x6)=true then
    Ab (app 1 ([]:List UInt8) ([0]:List UInt8)) fun x7=>
    some x7
   else
   some ([]:List UInt8))=X at hbody
 cases X with
 |none=>cases hbody
 |some y=>
  rw[Aa]at hbody;rw[Aa,Gi hx,Aa,hbody,Aa,he,Aa];dsimp only;have hc:(if(e !=0)=true then some ((0,ByteArray.empty,ByteArray.empty,0,[],0,0,false,0,[],[],0,0):C13)else some (AhG (gpV (Lo v l.Hide i w.Body))))=some (AhG (gpV (Lo v l.Hide i w.Body))):=by
   by_cases h0:e=0
   ·rw[h0,AjG (by decide)]
   ·rw[AjF (by rw[bne_iff_ne]; exact h0),hz h0]; rfl
  show Ab (if(e !=0)=true then some ((0,ByteArray.empty,ByteArray.empty,0,[],0,0,false,0,[],[],0,0):C13)else some (AhG (gpV (Lo v l.Hide i w.Body)))) _=_;rw[hc,Aa];show Ab (app 168 out [gpV (Lo v l.Hide i w.Body)]) _=_;rw[app1 ho (by decide) (by decide),Aa,VV hi (by omega)]
theorem fld_crt (v:Bool)(hide:List Int): ∀(l:List g_api_Leaf) (i:Nat) (out:List g_api_Cert),Ag9 (fun i (s:List g_api_Cert) w=>s++[gpV (Lo v hide i w.Body)]) l i out=out++crt v hide l i
 | [],i,out=>by simp[Ag9,crt]
 |w::r,i,out=>by unfold Ag9 crt; rw[fld_crt v hide r]; simp
theorem certs18_eq {l:Ah}(hl:l.L.length+l.Wait.length≤1000)(hh:l.Hide.length≤1000)(hc:chk l=0)(v:Bool):GI l (if v=true then 1 else 0)=some (crt v l.Hide l.L 0,0):=by
 obtain⟨h0,h1,h2,h3⟩:=IS hc;have hv:((if v=true then(1:Int)else 0)==1)=v:=by cases v<;>rfl
 have h:=OY (step:=Eo l (if v=true then 1 else 0)) (fun(s:List g_api_Cert) (n:Int)=>(s,n)) l.L (fun i (s:List g_api_Cert) w=>s++[gpV (Lo v l.Hide i w.Body)]) (fun i s=>s.length≤i) (by omega)
  (fun i w s hw hI=>⟨certs18_step hv hh (by omega) hw (N3 h1 w (List.mem_append_left _ (Aj2 hw))) (by have:=(AjR.1 hw).1; omega),by simp; omega⟩)
  (fun s _=>by
   unfold Eo;dsimp only;rw[X5,AjG (by decide)]) [] (AjQ _)
 unfold GI;rw[Re (by omega) (by omega) hc v,Aa];dsimp only;rw[AjG (by decide),h,Aa,Aa,fld_crt];rfl
theorem sameC_self {l:List g_api_Cert}(hl:l.length≤1000000)(h: ∀c∈l,Gj c c=some true):DX l l=some true:=by
 unfold DX;rw[bne_self_eq_false,AjG (by decide),Adv l.length hl (fun i hi=>by
  unfold FC;rw[Ac0 hi,AjF rfl,idxL hi,Aa,Aa,h _ (List.getElem_mem hi),Aa,AjG (by decide),VV hi hl]) (by unfold FC; rw[X5,AjG (by decide)]),Aa]
theorem certs_true (l:Ah)(a:Int):DT l a=some true:=by
 unfold DT;rw[X6,Aa,AjG (by decide)];obtain⟨f,hf,hs⟩:=few24R l;rw[hf,Aa];cases f
 case false=>rfl
 obtain⟨s1,s2,s3⟩:=hs rfl;have hl:l.L.length+l.Wait.length≤100000:=by omega
 rw[AjG (by decide)];by_cases hgood:chk l=0∧(a=0∨a=1)
 ·obtain⟨hc,ha⟩:=hgood;obtain⟨v,rfl⟩: ∃v:Bool,a=if v=true then 1 else 0:=by
   rcases ha with rfl|rfl
   ·exact⟨false,rfl⟩
   ·exact⟨true,rfl⟩
  obtain⟨h0,h1,h2,h3⟩:=IS hc;have n0:=AdN v l.Hide l.L 0;rw[Af3 hl hc v,Aa,certs18_eq (by omega) (by omega) hc v,Aa];dsimp only;rw[sameC_self (by omega) (fun c hcm=>by
   obtain⟨k,hk⟩:=List.getElem?_of_mem hcm;have hkl:k<l.L.length:=by have:=(AjR.1 hk).1; omega
   have hx:l.L[k]? =some l.L[k]:=Aks hkl;have g:=AdO v l.Hide l.L 0 k _ hx;rw[hk]at g;cases g;exact AhY (RA (N3 h1 _ (List.mem_append_left _ (List.getElem_mem hkl))))),Aa]
  rfl
 ·obtain⟨xs,e,e1,e2,e3,e4,e5⟩:=X9 hl (by omega) a;have hne:e≠0:=by
   intro he;subst he;have hc:=e4 rfl;refine hgood ⟨hc,?_⟩;by_cases ha:a=0∨a=1
   ·exact ha
   ·exfalso;unfold CP at e1;rw[Rv hl,Aa,hc,AjG (by decide),AjF (by simp; omega)]at e1;have q:(240:Int)=0:=Aki (·.2) (AjC e1);omega
  unfold Dk GI;rw[e1,Aa,e2,Aa];dsimp only;rw[AjF (by rw[bne_iff_ne]; exact hne),AjF (by rw[bne_iff_ne]; exact hne),Aa,Aa];dsimp only;rw[show DX [] []=some true from sameC_self (AkA _) (fun c h=>absurd h List.not_mem_nil),Aa];simp
end Go.Proofs.YtibojdgdjhngiaaGreatDoor
end
section
namespace Go.Proofs.YtibojdgdjhngiaaGreatDoor.lawMonitorCerts
open Go Go.Gw Go.ChangeShapes Go.WideShapes Go.ChangeAt Go.RowKit
theorem own:ownKnob Tryz.prog.godebug=none:=by kernel_rfl
theorem tab_ir:Ir Tryz.prog 276 (.agg [.agg [.lit (.int .i64 1),.held [103,114,101,97,116,115,101,97,108,47,100,101,114,46,107,105,110,100,115,36,49]],.agg [.lit (.int .i64 2),.held [103,114,101,97,116,115,101,97,108,47,100,101,114,46,108,101,97,115,116]],.agg [.lit (.int .i64 4),.held [103,114,101,97,116,115,101,97,108,47,100,101,114,46,107,105,110,100,115,36,50]],.agg [.lit (.int .i64 12),.held [103,114,101,97,116,115,101,97,108,47,100,101,114,46,107,105,110,100,115,36,51]],.agg [.lit (.int .i64 48),.held [103,114,101,97,116,115,101,97,108,47,100,101,114,46,107,105,110,100,115,36,52]]]) [[.int .i64 1,.func (.func 305) #[] #[]],[.int .i64 2,.func (.func 149) #[] #[]],[.int .i64 4,.func (.func 306) #[] #[]],[.int .i64 12,.func (.func 307) #[] #[]],[.int .i64 48,.func (.func 310) #[] #[]]].flatten:=
 Ir.arr (n:=5) (k:=2) Tryz.underlying276 (by kernel_rfl) (by kernel_rfl) rfl rfl fun i d c h1 h2=>by
  match i,h1,h2 with
  |0,h1,h2=>cases h1; cases h2; exact Ir.pair Tryz.underlying236 rfl rfl rfl (by kernel_rfl) rfl rfl (by kernel_rfl) (by kernel_rfl) (Ir.int Tryz.underlying3) (Ir.fn Tryz.underlying115 Tryz.func305 (by kernel_rfl) (by kernel_rfl))
  |1,h1,h2=>cases h1; cases h2; exact Ir.pair Tryz.underlying236 rfl rfl rfl (by kernel_rfl) rfl rfl (by kernel_rfl) (by kernel_rfl) (Ir.int Tryz.underlying3) (Ir.fn Tryz.underlying115 Tryz.func149 (by kernel_rfl) (by kernel_rfl))
  |2,h1,h2=>cases h1; cases h2; exact Ir.pair Tryz.underlying236 rfl rfl rfl (by kernel_rfl) rfl rfl (by kernel_rfl) (by kernel_rfl) (Ir.int Tryz.underlying3) (Ir.fn Tryz.underlying115 Tryz.func306 (by kernel_rfl) (by kernel_rfl))
  |3,h1,h2=>cases h1; cases h2; exact Ir.pair Tryz.underlying236 rfl rfl rfl (by kernel_rfl) rfl rfl (by kernel_rfl) (by kernel_rfl) (Ir.int Tryz.underlying3) (Ir.fn Tryz.underlying115 Tryz.func307 (by kernel_rfl) (by kernel_rfl))
  |4,h1,h2=>cases h1; cases h2; exact Ir.pair Tryz.underlying236 rfl rfl rfl (by kernel_rfl) rfl rfl (by kernel_rfl) (by kernel_rfl) (Ir.int Tryz.underlying3) (Ir.fn Tryz.underlying115 Tryz.func310 (by kernel_rfl) (by kernel_rfl))
  |n+5,h1,h2=>cases h1
theorem gB {W:World}(h:laidMetH Tryz.prog Rows.monitorCertsRow.laid W):GB (memOf W):=fun p hp=>by
 obtain rfl:=List.mem_singleton.1 hp;exact gb_of (name:= "greatseal/der.kinds") (by kernel_rfl) (by kernel_rfl) (laidMetH.funcs h (d:= .agg [.agg [.lit (.int .i64 1),.iface "func" (.lit (.string [103,114,101,97,116,115,101,97,108,47,100,101,114,46,107,105,110,100,115,36,49]))],.agg [.lit (.int .i64 2),.iface "func" (.lit (.string [103,114,101,97,116,115,101,97,108,47,100,101,114,46,108,101,97,115,116]))],.agg [.lit (.int .i64 4),.iface "func" (.lit (.string [103,114,101,97,116,115,101,97,108,47,100,101,114,46,107,105,110,100,115,36,50]))],.agg [.lit (.int .i64 12),.iface "func" (.lit (.string [103,114,101,97,116,115,101,97,108,47,100,101,114,46,107,105,110,100,115,36,51]))],.agg [.lit (.int .i64 48),.iface "func" (.lit (.string [103,114,101,97,116,115,101,97,108,47,100,101,114,46,107,105,110,100,115,36,52]))]]) (List.Mem.tail _ (List.Mem.head _))) tab_ir
theorem rd3:Rd Tryz.prog 3 (Int):=Rd.int Tryz.underlying3
theorem rd22:Rd Tryz.prog 22 (UInt64):=Rd.u64 Tryz.underlying22
theorem rd5:Rd Tryz.prog 5 (UInt8):=Rd.u8 Tryz.underlying5
theorem rd75:Rd Tryz.prog 75 (List UInt8):=Rd.slice Tryz.underlying75 rd5 (by kernel_rfl) (by decide)
theorem rd79:Rd Tryz.prog 79 (g_api_Leaf):=Rd.struct Tryz.underlying79 (Z7.more rfl rd75 (by kernel_rfl) (Z7.last rfl rd3 (by kernel_rfl))) (by kernel_rfl) (fun b=>⟨b.1,b.2⟩) (fun h=>h)
theorem rd23:Rd Tryz.prog 23 (List g_api_Leaf):=Rd.slice Tryz.underlying23 rd79 (by kernel_rfl) (by decide)
theorem rd24:Rd Tryz.prog 24 (List Int):=Rd.slice Tryz.underlying24 rd3 (by kernel_rfl) (by decide)
theorem rd26:Rd Tryz.prog 26 (Ah):=Rd.struct Tryz.underlying26 (Z7.more rfl rd3 (by kernel_rfl) (Z7.more rfl rd22 (by kernel_rfl) (Z7.more rfl rd3 (by kernel_rfl) (Z7.more rfl rd23 (by kernel_rfl) (Z7.more rfl rd24 (by kernel_rfl) (Z7.last rfl rd23 (by kernel_rfl))))))) (by kernel_rfl) (fun b=>⟨b.1,b.2.1,b.2.2.1,b.2.2.2.1,b.2.2.2.2.1,b.2.2.2.2.2⟩) (fun h=>h)
theorem rp_g_api_Log {m:Mem}{cs:List Value}{x:Ah}(h:GoT.rep m cs x): ∃v1,∃v2,∃v3,cs=[vI x.Id,vU x.Key,vI x.Delay,v1,v2,v3]∧SlR m v1 x.L∧SlR m v2 x.Hide∧SlR m v3 x.Wait:=by
 obtain⟨_,_,rfl,rfl,⟨_,_,rfl,rfl,⟨_,_,rfl,rfl,⟨_,_,rfl,⟨v1,rfl,h1⟩,⟨_,_,rfl,⟨v2,rfl,h2⟩,⟨v3,rfl,h3⟩⟩⟩⟩⟩⟩:=h;exact⟨v1,v2,v3,rfl,h1,h2,h3⟩
theorem contract (H:Type)(enc:TypeId×Value→H)(W:World)(base:Nat)(args:Array Value)(ds gs:List (DataW H))(before:List MemPlace)
  (hval: ∀(j:Nat) t v,Tryz.f3.params[j]? =some t→args[j]? =some v→Value.okWide Tryz.prog W .any base t v)
  (hW:DataW.Whole enc Tryz.prog Tryz.f3.params.toList Rows.monitorCertsSpec.vars false W args.toList ds gs before) (hL:laidMetH Tryz.prog Rows.monitorCertsRow.laid W):
  Calls Tryz.prog 3 args W fun e W'=> ∃v,e= .returned v∧Rows.monitorCertsSpec.post enc Tryz.prog Tryz.f3 false true false false W args v W':=by
 have hW':=hW;obtain⟨p,q,hA0,hV,rfl,hfz,hnd⟩:=hW;obtain⟨rfl,rfl⟩:=trodVars_none hV;rw[Akk]at hW';have hA:DataW.TrodAll enc Tryz.prog W 0 (fun _=>true) true Tryz.f3.params.toList args.toList ds p:=hA0;have hA1:=hA;have hpl:Tryz.f3.params.toList=[26,3]:=by rw[Tryz.params3]
 rw[hpl]at hA1;obtain⟨v0,w0,d0,e0,p0,q0,ha0,he0,hp0,h0,r0⟩:=trodAll_cons hA1;obtain⟨v1,w1,d1,e1,p1,q1,ha1,he1,hp1,h1,r1⟩:=trodAll_cons r0;obtain⟨z1,z2,z3⟩:=trodAll_nil r1;obtain rfl:args= #[v0,v1]:=by
  apply Array.ext'; rw[ha0,ha1,z1]
 obtain rfl:ds=[d0,d1]:=by rw[he0,he1,z2]
 rw[Tryz.params3]at hval;obtain⟨c0,rfl,_⟩:=okWide_struct Tryz.underlying26 (hval 0 26 v0 rfl rfl);obtain⟨a0,s0⟩:=rd26.openA h0;obtain⟨z0_0,z0_1,z0_2,o0,y0_0,y0_1,y0_2⟩:=rp_g_api_Log s0;obtain rfl:=arr_of o0;obtain⟨a1,rfl,_,_,_⟩:=open_int Tryz.underlying3 (hval 1 3 v1 rfl rfl) h1;have hc:=MK (St.of W (gB hL)) y0_0 y0_1 y0_2 (certs_true a0 a1);refine Calls.mono hc ?_;rintro e W' ⟨v,rfl,hk,M,hle,S,rfl⟩;refine⟨.bool true,rfl,AcC (tb:=4) (by kernel_rfl) (by kernel_rfl) rfl (by kernel_rfl) Tryz.underlying4 hW' hA rfl rfl rfl hle S hk⟩
noncomputable def Rg (os:Os):World:=
 {World.holding Tryz.prog os ⟨#[], #[],[]⟩with heap:=((((World.holding Tryz.prog os ⟨#[], #[],[]⟩).heap.modify 5 fun| .cells _ t fr=> .cells #[.int .u8 128,.int .u8 191,.int .u8 160,.int .u8 191,.int .u8 128,.int .u8 159,.int .u8 144,.int .u8 191,.int .u8 128,.int .u8 143,.int .u8 0,.int .u8 0,.int .u8 0,.int .u8 0,.int .u8 0,.int .u8 0,.int .u8 0,.int .u8 0,.int .u8 0,.int .u8 0,.int .u8 0,.int .u8 0,.int .u8 0,.int .u8 0,.int .u8 0,.int .u8 0,.int .u8 0,.int .u8 0,.int .u8 0,.int .u8 0,.int .u8 0,.int .u8 0] t fr|o=>o).modify 2 fun| .cells _ t fr=> .cells [[.int .i64 1,.func (.func 305) #[] #[]],[.int .i64 2,.func (.func 149) #[] #[]],[.int .i64 4,.func (.func 306) #[] #[]],[.int .i64 12,.func (.func 307) #[] #[]],[.int .i64 48,.func (.func 310) #[] #[]]].flatten.toArray t fr|o=>o).modify 4 fun| .cells _ t fr=> .cells ((List.replicate 128 240++List.replicate 66 241++List.replicate 30 2++[19]++List.replicate 12 3++[35,3,3,52,4,4,4,68]++List.replicate 11 241:List Int).map fun n=>Value.int .u8 n).toArray t fr|o=>o)}
theorem laid_met (os:Os):laidMetH Tryz.prog Rows.monitorCertsRow.laid ((Rg os).forCall (fun _ _=>0) ⟨#[], #[(.agg #[.int .i64 0,.int .u64 0,.int .i64 0,.slice none 0 0,.slice none 0 0,.slice none 0 0]:Value),(.int .i64 0:Value)],[]⟩).memory:=
 laidMetH_of_parts3 (fuel:=8) (laidMet_of_run' 8 (by kernel_rfl) (by kernel_rfl)) (by kernel_rfl) (by kernel_rfl)
theorem reads (os:Os){H:Type}(enc:TypeId×Value→H): ∃places,DataW.whole enc Tryz.prog ((Rg os).forCall (fun _ _=>0) ⟨#[], #[(.agg #[.int .i64 0,.int .u64 0,.int .i64 0,.slice none 0 0,.slice none 0 0,.slice none 0 0]:Value),(.int .i64 0:Value)],[]⟩).memory Tryz.f3.params.toList Rows.monitorCertsSpec.vars false #[(.agg #[.int .i64 0,.int .u64 0,.int .i64 0,.slice none 0 0,.slice none 0 0,.slice none 0 0]:Value),(.int .i64 0:Value)].toList 8=some ([.agg [.lit (.int .i64 0),.lit (.int .u64 0),.lit (.int .i64 0),.nil,.nil,.nil],.lit (.int .i64 0)],[],places):=
 ⟨[],by kernel_rfl⟩
theorem lifted (os:Os)(started:os.Started)(H:Type)(enc:TypeId×Value→H)(F:Stop.Interp):
  ReturnsInHanded {} Tryz.checked os 3 .any ((OpenSpec.ofChange Rows.monitorCertsSpec).preRow enc Tryz.prog Tryz.f3 Rows.monitorCertsRow.domain false Rows.monitorCertsRow.laid) (((OpenSpec.ofChange Rows.monitorCertsSpec).at F).post enc Tryz.prog Tryz.f3 false true false false):=by
 obtain⟨places,hx⟩:=reads os enc;refine returnsInHanded_of_row (C:=Tryz.checked) (s:=OpenSpec.ofChange Rows.monitorCertsSpec) own started (by kernel_rfl) Tryz.func3
  (witness_row_at (enc:=enc) (C:=Tryz.checked) false (Rg os) #[(.agg #[.int .i64 0,.int .u64 0,.int .i64 0,.slice none 0 0,.slice none 0 0,.slice none 0 0]:Value),(.int .i64 0:Value)] rfl (by kernel_rfl) (by kernel_rfl) (by kernel_rfl)
   (OpenSpec.preRow_of_cond 8 hx (by kernel_rfl) (fun k hk=>by cases hk) (by kernel_rfl) (laid_met os))) ?_
 intro W base args ds gs before hval hW _ _ _ hL _ _;exact contract H enc W base args ds gs before hval hW hL
theorem j0:laidOutB Tryz.prog=true:=by kernel_rfl
theorem j1:mapsRowed Tryz.prog=true:=by kernel_rfl
theorem j2:(Rows.monitorCertsRow.inPlace==Tryz.prog.inPlace 3)=true:=by kernel_rfl
theorem j3:(Rows.monitorCertsRow.unfollowed==Tryz.prog.unfollowed 3)=true:=by kernel_rfl
theorem j4:(Rows.monitorCertsRow.recurses==Tryz.prog.recurses 3)=true:=by kernel_rfl
theorem j5:(Rows.monitorCertsRow.named==Tryz.prog.varsNamed 3)=true:=by kernel_rfl
theorem joined:joinedFacts Tryz.prog 3 Tryz.f3 (OpenSpec.ofChange Rows.monitorCertsSpec).bare Rows.monitorCertsRow=true:=by
 unfold joinedFacts;rw[j0,j1,j2,j3,j4,j5];kernel_rfl
theorem s1:Tryz.pinned.checked.prog.funcNamed Rows.monitorCertsRow.func=some 3:=by kernel_rfl
theorem s2:Tryz.f3.isInstance Tryz.pinned.checked.prog Rows.monitorCertsRow.origin Rows.monitorCertsRow.targs:=AkF (by kernel_rfl)
theorem s3:Tryz.f3.isWrapper Tryz.pinned.checked.prog Rows.monitorCertsRow.wrapper Rows.monitorCertsRow.mainSum:=by unfold Func.isWrapper; first|(rw[AjF (by decide+kernel)]; kernel_rfl)|(rw[AjG (by decide+kernel)]; exact⟨rfl,rfl⟩)
theorem s4:joinedFacts Tryz.pinned.checked.prog 3 Tryz.f3 (OpenSpec.ofChange Rows.monitorCertsSpec).bare Rows.monitorCertsRow=true:=joined
theorem s5 (os:Os)(started:os.Started)(H:Type)(enc:TypeId×Value→H)(F:Stop.Interp):ReturnsInHanded Rows.monitorCertsRow.assume Tryz.pinned.checked os 3 .any (Rows.monitorCertsRow.pre enc Tryz.pinned.checked.prog Tryz.f3 (OpenSpec.ofChange Rows.monitorCertsSpec)) (((OpenSpec.ofChange Rows.monitorCertsSpec).at F).post enc Tryz.pinned.checked.prog Tryz.f3 Rows.monitorCertsRow.apart Rows.monitorCertsRow.fresh Rows.monitorCertsRow.handsOn Rows.monitorCertsRow.again):=by rw[OpenClaim.pre_eq_preRow]; exact lifted os started H enc F
theorem said:Rows.MonitorCertsSaid:=
 OpenClaim.holds_of_cond 3 Tryz.f3 rfl rfl rfl rfl rfl rfl rfl ⟨rfl,rfl,rfl,rfl,rfl⟩ rfl rfl rfl rfl rfl s1 Tryz.func3 s4 s2 s3 (fun os started H enc _ F=>s5 os started H enc F)
theorem plain (f:FuncId)(fn:Func)(hf:Tryz.pinned.checked.prog.funcNamed "greatseal/greatseallaw30.MonitorCerts" =some f)(hfn:Tryz.pinned.checked.prog.funcs[f]? =some fn):
  true=Tryz.pinned.checked.prog.looks []∧∀(j:Nat) t,fn.params[j]? =some t→Tryz.pinned.checked.prog.wantsStandIn t=false:=by
 obtain rfl:f=3:=AjC ((show Tryz.prog.funcNamed "greatseal/greatseallaw30.MonitorCerts" =some 3 by kernel_rfl).symm.trans hf)|>.symm;obtain rfl:fn=Tryz.f3:=(AjC (Tryz.func3.symm.trans hfn)).symm;refine⟨by kernel_rfl,fun j t ht=> ?_⟩;rw[Tryz.params3]at ht;have hm:t∈[26,3]:=by simpa using Array.mem_of_getElem? ht
 have hall:([26,3].all fun u=> !Tryz.prog.wantsStandIn u)=true:=by kernel_rfl
 exact(show Tryz.prog.wantsStandIn t=false by simpa using Aj7.1 hall t hm)
theorem card:Rows.MonitorCertsCardSaid:=
 Claim7.holds_tied_plain_at .later [] _ _ _ _ said (fun _ h=>by cases h) (by kernel_rfl) (fun _ h=>by cases h) monitorCerts_row_tie rfl ⟨rfl,rfl⟩ (by kernel_rfl) rfl plain (by kernel_rfl)
end Go.Proofs.YtibojdgdjhngiaaGreatDoor.lawMonitorCerts
end
