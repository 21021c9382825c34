/- Several texts, one behind the other. Conditions: none. -/
import Derived.Test.YtibojdgdjhngiaaGreatDoorZk
import Derived.Test.YtibojdgdjhngiaaGreatDoorZg
import Derived.Test.YtibojdgdjhngiaaGreatDoorZh
import Derived.Test.YtibojdgdjhngiaaGreatDoorZi
import Derived.KernelRfl
import Derived.Test.YtibojdgdjhngiaaGreatDoorZb
import Derived.Test.YtibojdgdjhngiaaGreatDoorZj
import Derived.Test.YtibojdgdjhngiaaGreatDoorCards
import Derived.Test.YtibojdgdjhngiaaGreatDoorTie
import Derived.WalkKit
import Derived.ProofKit
import Derived.OpenShut
import Derived.Deep.DeepHandedRow
import Derived.Lib.LaidTab
import Derived.SevenTiedAt
import Derived.Stop.LaidErr
set_option linter.unusedSimpArgs false
set_option linter.unusedVariables false
set_option maxHeartbeats 20000000
set_option maxRecDepth 100000
section
namespace Go.Proofs.YtibojdgdjhngiaaGreatDoor
open Go Go.Gw Go.Ax
theorem okH_cons {x:Int}{r:List Int}{last n:Int}:okH (x::r) last n=true↔last<x∧x<n∧okH r x n=true:=by
 show((!decide (x≤last)&& !decide (n≤x))&&okH r x n)=true↔_;rw[Bool.and_eq_true,Bool.and_eq_true];simp only[Bool.not_eq_true',decide_eq_false_iff_not,Int.not_le];exact and_assoc
theorem okH_all: ∀{xs:List Int} {last n:Int},okH xs last n=true→(∀x∈xs,last<x∧x<n)∧xs.Pairwise (· < ·):=by
 intro xs;induction xs with
 |nil=>intro last n _; exact⟨fun x hx=>absurd hx (by simp),List.Pairwise.nil⟩
 |cons y xs ih=>
  intro last n h;obtain⟨h1,h2,h3⟩:=okH_cons.1 h;obtain⟨i1,i2⟩:=ih h3;refine⟨fun x hx=> ?_,List.Pairwise.cons (fun a ha=>(i1 a ha).1) i2⟩;rcases List.mem_cons.1 hx with rfl|hx
  ·exact⟨h1,h2⟩
  ·have:=i1 x hx; omega
theorem nan_eq (x:Int):CL x=some false:=by unfold CL; rw[bne_self_eq_false]
theorem less_eq (x y:Int):Fo x y=some (decide (x<y)):=by
 unfold Fo EL;rw[bne_self_eq_false,Ab,show gu false (some (y !=y))=some false from rfl,Ab,DB,show(false&& !false)=false from rfl,Bool.false_or]
theorem mid_eq {i j:Nat}(h:i+j≤1000000):w64 ((DX (toU (w64 ((i:Int)+(j:Int)))) 1).toNat:Int)=(((i+j)/2:Nat):Int):=by
 rw[Eb (n:=(i:Int)+(j:Int)) (by omega) (by omega),show(i:Int)+(j:Int)=((i+j:Nat):Int)from by omega,Ek _ _ (by decide),QX (by omega),Eb (by omega) (by omega)]
theorem search_eq {xs:List Int}{t:Int}(hn:xs.length≤100000)(p:Nat)(hp:p≤xs.length)(h1: ∀(k:Nat) (x:Int),xs[k]? =some x→k<p→x<t)(h2: ∀(k:Nat) (x:Int),xs[k]? =some x→p≤k→t≤x):
  Bc xs t=some ((p:Int),decide (xs[p]? =some t)):=by
 obtain⟨y,e1,e2⟩:=Xm (step:=Bi xs t) (T:=fun y=>y=(p:Int)) (s0:=(0,(xs.length:Int))) (fun c s=> ∃i j:Nat,s=((i:Int),(j:Int))∧i≤p∧p≤j∧j≤xs.length∧j-i+c≤xs.length) xs.length (by omega)
  ⟨0,xs.length,rfl,by omega,hp,by omega,by omega⟩ (by
   rintro c s hc ⟨i,j,rfl,i1,i2,i3,i4⟩;unfold Bi;dsimp only;by_cases hij:i<j
   ·right;have hm:(i+j)/2<xs.length:=by omega
    rw[if_pos (by simpa using hij),mid_eq (by omega),DB,AaF hm,Ab,less_eq,Ab];have hx:xs[(i+j)/2]? =some xs[(i+j)/2]:=by simp[hm]
    by_cases hlt:xs[(i+j)/2]<t
    ·rw[if_pos (by simpa using hlt),YA (by omega)];have:(i+j)/2<p:=by
      by_cases hq:p≤(i+j)/2
      ·have:=h2 _ _ hx hq; omega
      ·omega
     exact⟨by omega,_,rfl,(i+j)/2+1,j,rfl,by omega,i2,i3,by omega⟩
    ·rw[if_neg (by simpa using hlt)];have:p≤(i+j)/2:=by
      by_cases hq:(i+j)/2<p
      ·exact absurd (h1 _ _ hx hq) hlt
      ·omega
     exact⟨by omega,_,rfl,i,(i+j)/2,rfl,i1,this,by omega,by omega⟩
   ·left;rw[if_neg (by simpa using hij)];exact⟨_,rfl,by omega⟩)
 subst e2;unfold Bc;rw[e1,Ab,Ab];by_cases hlt:p<xs.length
 ·have hd:decide (((p:Nat):Int)<(xs.length:Int))=true:=decide_eq_true (by omega);have hx:xs[p]? =some xs[p]:=by simp[hlt]
  rw[hd,AaF hlt,hx,show gu true (some xs[p])=some xs[p]from rfl,Ab];by_cases he:xs[p]=t
  ·have:(xs[p]==t)=true:=by simpa using he
   rw[this]; simp[he,gu,DB]
  ·have:(xs[p]==t)=false:=by simpa using he
   rw[this]; simp[he,gu,DB,nan_eq]
 ·have hd:decide (((p:Nat):Int)<(xs.length:Int))=false:=decide_eq_false (by omega);have hx:xs[p]? =none:=by simp; omega
  rw[hd,hx]; simp[gu,DB]
end Go.Proofs.YtibojdgdjhngiaaGreatDoor
end
section
namespace Go.Proofs.YtibojdgdjhngiaaGreatDoor
open Go Go.Gw Go.Ax
theorem toB_back (c:UInt8):toB (c.toNat:Int)=c:=by
 apply UInt8.toNat_inj.1;have h:=Lo (c.toNat:Int);have:=c.toNat_lt;omega
theorem len_some (l:List UInt8)(hl:l.length≤1000000): ∃n long e:Int,BC l=some (n,long,e)∧(e=0→∃(k:Nat) (r:List UInt8),k<65536∧l=H9 k++r∧n=(k:Int)∧long=((H9 k).length:Int)):=by
 match l with
 | []=>exact⟨0,0,70,rfl,fun h=>by omega⟩
 |b::r=>
  have e0:(((b::r).length:Int)==0)=false:=by simp only[beq_eq_false_iff_ne,List.length_cons]; omega
  have hb:=b.toNat_lt;have e1:w64 (b.toNat:Int)=(b.toNat:Int):=BM (by omega) (by omega);by_cases h1:b.toNat<128
  ·refine⟨(b.toNat:Int),1,0,fst1 b r h1,fun _=>⟨b.toNat,r,by omega,?_,rfl,?_⟩⟩
   ·unfold H9;rw[if_pos h1,toB_back];rfl
   ·unfold H9;rw[if_pos h1];rfl
  by_cases h2:b.toNat=129
  ·have hbe:b=129:=UInt8.toNat_inj.1 h2;subst hbe;match r with
   | []=>
    refine⟨0,0,70,?_,fun h=>by omega⟩;unfold BC;have f1:w64 (((129:UInt8).toNat:Int))=129:=BM (x:=129) (by decide) (by decide);have f2:w64 ((129:Int)-128)=1:=rfl;have f4:decide ((([129]:List UInt8).length:Int)≤1)=true:=by simp
    rw[e0,Rx,if_neg (by decide),Ab,f1,if_neg (by decide),B5,f2,B5,if_neg (by decide),B5,f4,if_pos rfl]
   |c::r=>
    have hc:=c.toNat_lt;by_cases h3:128≤c.toNat
    ·refine⟨(c.toNat:Int),2,0,fst2 c r h3,fun _=>⟨c.toNat,r,by omega,?_,rfl,?_⟩⟩
     ·unfold H9;rw[if_neg (by omega),if_pos (by omega),toB_back];rfl
     ·unfold H9;rw[if_neg (by omega),if_pos (by omega)];rfl
    ·refine⟨0,0,71,?_,fun h=>by omega⟩;unfold BC;have f1:w64 (((129:UInt8).toNat:Int))=129:=BM (x:=129) (by decide) (by decide);have f2:w64 ((129:Int)-128)=1:=rfl;have f3:w64 ((1:Int)+1)=2:=rfl;have f4:decide (((129::c::r).length:Int)≤1)=false:=by simp only[decide_eq_false_iff_not,List.length_cons]; omega
     have f5:cut (129::c::r) 1 2=some [c]:=Qd 129 [c] r;have f6:N0 (Ij 0 8) (w64 (c.toNat:Int))=(c.toNat:Int):=by
      rw[BM (x:=(c.toNat:Int)) (by omega) (by omega),Kz 0 _ (by omega) (by omega),Int.zero_mul,Int.zero_add,BM (by omega) (by omega)]
     have f7:CA Db [c] 0 0=some (c.toNat:Int):=by
      show some (N0 (Ij 0 8) (w64 (c.toNat:Int)))=_;rw[f6]
     have f8:decide ((c.toNat:Int)<128)=true:=by simp only[decide_eq_true_eq]; omega
     rw[e0,Rx,if_neg (by decide),Ab,f1,if_neg (by decide),B5,f2,B5,if_neg (by decide),B5,f4,if_neg (by decide),f3,f5,Ab,f7,Ab,Ab,f8,if_pos (by simp)]
  by_cases h3:b.toNat=130
  ·have hbe:b=130:=UInt8.toNat_inj.1 h3;subst hbe;have f1:w64 (((130:UInt8).toNat:Int))=130:=BM (x:=130) (by decide) (by decide);have f2:w64 ((130:Int)-128)=2:=rfl;have f3:w64 ((2:Int)+1)=3:=rfl;match r with
   | []=>
    refine⟨0,0,70,?_,fun h=>by omega⟩;unfold BC;have f4:decide ((([130]:List UInt8).length:Int)≤2)=true:=by simp
    rw[e0,Rx,if_neg (by decide),Ab,f1,if_neg (by decide),B5,f2,B5,if_neg (by decide),B5,f4,if_pos rfl]
   | [c]=>
    refine⟨0,0,70,?_,fun h=>by omega⟩;unfold BC;have f4:decide (((130::[c]:List UInt8).length:Int)≤2)=true:=by simp
    rw[e0,Rx,if_neg (by decide),Ab,f1,if_neg (by decide),B5,f2,B5,if_neg (by decide),B5,f4,if_pos rfl]
   |c::d::r=>
    have hc:=c.toNat_lt;have hd:=d.toNat_lt;by_cases h4:1≤c.toNat
    ·refine⟨(c.toNat:Int)*256+(d.toNat:Int),3,0,fst3 c d r h4,fun _=>⟨c.toNat*256+d.toNat,r,by omega,?_,by omega,?_⟩⟩
     ·unfold H9;rw[if_neg (by omega),if_neg (by omega),Abl];have q1:(((c.toNat*256+d.toNat:Nat):Int)/256)=(c.toNat:Int):=by omega
      have q2:toB ((c.toNat*256+d.toNat:Nat):Int)=d:=by
       apply UInt8.toNat_inj.1;have:=Lo ((c.toNat*256+d.toNat:Nat):Int);omega
      rw[q1,toB_back,q2];rfl
     ·unfold H9;rw[if_neg (by omega),if_neg (by omega)];rfl
    ·refine⟨0,0,71,?_,fun h=>by omega⟩;unfold BC;have f4:decide (((130::c::d::r).length:Int)≤2)=false:=by simp only[decide_eq_false_iff_not,List.length_cons]; omega
     have f5:cut (130::c::d::r) 1 3=some [c,d]:=Qd 130 [c,d] r;have f6:N0 (Ij 0 8) (w64 (c.toNat:Int))=(c.toNat:Int):=by
      rw[BM (x:=(c.toNat:Int)) (by omega) (by omega),Kz 0 _ (by omega) (by omega),Int.zero_mul,Int.zero_add,BM (by omega) (by omega)]
     have f6':N0 (Ij (c.toNat:Int) 8) (w64 (d.toNat:Int))=(c.toNat:Int)*256+(d.toNat:Int):=by
      rw[BM (x:=(d.toNat:Int)) (by omega) (by omega),Kz _ _ (by omega) (by omega),BM (by omega) (by omega)]
     have f7:CA Db [c,d] 0 0=some ((c.toNat:Int)*256+(d.toNat:Int)):=by
      show some (N0 (Ij (N0 (Ij 0 8) (w64 (c.toNat:Int))) 8) (w64 (d.toNat:Int)))=_;rw[f6,f6']
     have f9:decide ((c.toNat:Int)*256+(d.toNat:Int)<256)=true:=by simp only[decide_eq_true_eq]; omega
     rw[e0,Rx,if_neg (by decide),Ab,f1,if_neg (by decide),B5,f2,B5,if_neg (by decide),B5,f4,if_neg (by decide),f3,f5,Ab,f7,Ab,Ab,f9,if_pos (by simp)]
  ·refine⟨0,0,71,?_,fun h=>by omega⟩;unfold BC;have f1:decide ((b.toNat:Int)<128)=false:=by simp only[decide_eq_false_iff_not]; omega
   have f2:(((b.toNat:Int) !=129)&&((b.toNat:Int) !=130))=true:=by
    rw[Bool.and_eq_true,bne_iff_ne,bne_iff_ne]; omega
   rw[e0,Rx,if_neg (by decide),Ab,e1,f1,if_neg (by decide),B5,B5,f2,if_pos rfl]
def GotI (D:Nat)(b:List UInt8)(q:g_api_Item×List UInt8×Int):Prop:=q.2.2=0→mayB D q.1=true∧b=putB D q.1++q.2.1
theorem got_loop (rF:List UInt8→Int→Option (g_api_Item×List UInt8×Int))(D:Nat)(hD:D≤100)(r0:List UInt8)(hF: ∀b:List UInt8,b.length≤1000000→∃q,rF b (D:Int)=some q∧GotI D b q):
  ∀(m:Nat) (inb:List UInt8) (acc:List g_api_Item) (n:Nat),inb.length≤m→m<n→m≤1000000→acc.length+m≤1000000→
   ∃t,iter (Co rF ((D+1:Nat):Int)) n (r0,inb,acc)=some t∧(t= .inr ((⟨0,[],[]⟩:g_api_Item),([]:List UInt8),71)∨∃l,t= .inl (r0,acc++l)∧(∀y∈l,mayB D y=true)∧l.flatMap (putB D)=inb)
 |m,inb,acc,0,_,h,_,_=>by omega
 |m,[],acc,n+1,_,_,_,_=>by
  refine⟨.inl (r0,acc),?_,.inr ⟨[],by simp,fun y hy=>(by cases hy),rfl⟩⟩;have e:Co rF ((D+1:Nat):Int) (r0,[],acc)=some (.inr (.inl (r0,acc))):=rfl;show Ad (Co rF ((D+1:Nat):Int) (r0,[],acc)) _=_;rw[e]; rfl
 |m,c::inb,acc,n+1,hm,hn,h1,h2=>by
  have hw:w64 (((D+1:Nat):Int)-1)=(D:Int):=by rw[BM (by omega) (by omega)]; omega
  obtain⟨⟨y,r,e⟩,hq,hg⟩:=hF (c::inb) (by omega);have e0:decide (((c::inb).length:Int)>0)=true:=by rw[decide_eq_true_eq,List.length_cons]; omega
  by_cases he:e=0
  ·subst he;obtain⟨g1,g2⟩:=hg rfl;have g1:mayB D y=true:=g1;have g2:c::inb=putB D y++r:=g2;have hp:=WA g1;have hlen:(c::inb).length=(putB D y).length+r.length:=by rw[g2,List.length_append]
   rw[List.length_cons]at hm hlen;obtain⟨t,ht,hc⟩:=got_loop rF D hD r0 hF (m-1) r (acc++[y]) n (by omega) (by omega) (by omega) (by rw[List.length_append]; show acc.length+1+_≤_; omega);refine⟨t,?_,?_⟩
   ·have es:Co rF ((D+1:Nat):Int) (r0,c::inb,acc)=some (.inl (r0,r,acc++[y])):=by
     unfold Co;show(if decide (((c::inb).length:Int)>0)=true then _ else _)=_;rw[e0,if_pos rfl,hw];show Ad (rF (c::inb) (D:Int)) _=_;rw[hq,Ab,if_neg (by simp)];show Ad (app 56 acc [y]) _=_;rw[Mi 56 (by show(acc.length+1)*56≤_; omega) (by show acc.length+1≤_; omega)];rfl
    show Ad (Co rF ((D+1:Nat):Int) (r0,c::inb,acc)) _=_;rw[es];exact ht
   ·rcases hc with hc|⟨l,c1,c2,c3⟩
    ·exact .inl hc
    ·refine .inr ⟨y::l,?_,?_,?_⟩
     ·rw[c1,List.append_assoc]; rfl
     ·intro z hz;rcases List.mem_cons.1 hz with q|q
      ·rw[q]; exact g1
      ·exact c2 z q
     ·rw[List.flatMap_cons,c3,g2]
  ·refine⟨.inr ((⟨0,[],[]⟩:g_api_Item),([]:List UInt8),71),?_,.inl rfl⟩;have es:Co rF ((D+1:Nat):Int) (r0,c::inb,acc)=some (.inr (.inr ((⟨0,[],[]⟩:g_api_Item),([]:List UInt8),71))):=by
    unfold Co;show(if decide (((c::inb).length:Int)>0)=true then _ else _)=_;rw[e0,if_pos rfl,hw];show Ad (rF (c::inb) (D:Int)) _=_;rw[hq,Ab,if_pos (by simpa using he)]
   show Ad (Co rF ((D+1:Nat):Int) (r0,c::inb,acc)) _=_;rw[es]; rfl
theorem cut_all {α:Type}(l:List α)(k:Nat)(h:k≤l.length):cut l 0 (k:Int)=some (l.take k)∧cut l (k:Int) (l.length:Int)=some (l.drop k):=by
 have e:=List.take_append_drop k l;have h1:=XL (l.take k) (l.drop k);have h2:=XM (l.take k) (l.drop k);rw[e]at h1 h2;rw[show(l.take k).length=k from by rw[List.length_take]; omega]at h1 h2;exact⟨h1,h2⟩
theorem got_eq (D:Nat): ∀(n:Nat) (b:List UInt8),D≤100→D<n→b.length≤1000000→∃q,G8 n b (D:Int)=some q∧GotI D b q:=by
 induction D with
 |zero=>
  intro n b _ hn hb;obtain⟨n,rfl⟩: ∃k,n=k+1:=⟨n-1,by omega⟩;show∃q,FC (G8 n) b 0=some q∧_;unfold FC;cases b with
  |nil=>exact⟨_,rfl,fun h=>by cases h⟩
  |cons c b=>
   have e0:(((c::b).length:Int)==0)=false:=by simp only[beq_eq_false_iff_ne,List.length_cons]; omega
   rw[e0,if_neg (by decide),Rx,Ab];cases hk:K6 (w64 (c.toNat:Int))with
   |false=>
    rw[(He hk).1,Ab,if_pos (by simp)];exact⟨_,rfl,fun h=>by cases h⟩
   |true=>
    obtain⟨k,e,_,_⟩:=J8 hk;rw[e,Ab,if_pos (by simp)];exact⟨_,rfl,fun h=>by cases h⟩
 |succ D IH=>
  intro n b hD hn hb;obtain⟨n,rfl⟩: ∃k,n=k+1:=⟨n-1,by omega⟩;have hF: ∀b:List UInt8,b.length≤1000000→∃q,G8 n b (D:Int)=some q∧GotI D b q:=fun b h=>IH n b (by omega) (by omega) h;show∃q,FC (G8 n) b ((D+1:Nat):Int)=some q∧_;unfold FC;cases b with
  |nil=>exact⟨_,rfl,fun h=>by cases h⟩
  |cons c b=>
   have e0:(((c::b).length:Int)==0)=false:=by simp only[beq_eq_false_iff_ne,List.length_cons]; omega
   have hc:=c.toNat_lt;have ew:w64 (c.toNat:Int)=(c.toNat:Int):=BM (by omega) (by omega);have eD:decide (((D+1:Nat):Int)<1)=false:=by rw[decide_eq_false_iff_not]; omega
   rw[e0,if_neg (by decide),Rx,Ab,ew,eD];cases hk:K6 (c.toNat:Int)with
   |false=>
    rw[(He hk).1,Ab,if_pos (by simp)];exact⟨_,rfl,fun h=>by cases h⟩
   |true=>
    obtain⟨k,e,ht,hm⟩:=J8 hk;rw[e,Ab,if_neg (by simp),NF,Ab];rw[List.length_cons]at hb;obtain⟨ln,long,le,hl,hl0⟩:=len_some b (by omega);rw[hl,Ab];by_cases hle:le=0;rotate_left
    ·rw[if_pos (by simpa using hle)];exact⟨_,rfl,fun h=>absurd h hle⟩
    subst hle;rw[if_neg (by simp)];obtain⟨z,r,hz,hb2,rfl,rfl⟩:=hl0 rfl;have hll:=PY z;have hbl:b.length=(H9 z).length+r.length:=by rw[hb2,List.length_append]
    have e4:w64 (w64 (1+((H9 z).length:Int))+(z:Int))=1+((H9 z).length:Int)+(z:Int):=by
     rw[BM (x:=1+((H9 z).length:Int)) (by omega) (by omega),BM (by omega) (by omega)]
    show∃q,(if decide (w64 (w64 (1+((H9 z).length:Int))+(z:Int))>8192)=true then _ else _)=some q∧_;rw[e4];by_cases h8:1+((H9 z).length:Int)+(z:Int)>8192
    ·rw[decide_eq_true h8,if_pos rfl];exact⟨_,rfl,fun h=>by cases h⟩
    rw[decide_eq_false h8,if_neg (by decide)];have e6:cut (c::b) (w64 (1+((H9 z).length:Int))) ((c::b).length:Int)=some r:=by
     have:=XM (c::H9 z) r;rw[BM (x:=1+((H9 z).length:Int)) (by omega) (by omega)];rw[show((c::H9 z).length:Int)=1+((H9 z).length:Int)from by rw[List.length_cons]; omega]at this;rw[hb2];exact this
    show∃q,Ad (cut (c::b) (w64 (1+((H9 z).length:Int))) ((c::b).length:Int)) _=some q∧_;rw[e6,Ab];by_cases hzr:z≤r.length;rotate_left
    ·rw[if_pos (by rw[decide_eq_true_eq]; show(z:Int)>_; omega)];exact⟨_,rfl,fun h=>by cases h⟩
    rw[if_neg (by rw[decide_eq_true_eq]; show¬(z:Int)>_; omega)];obtain⟨k1,k2⟩:=cut_all r z hzr;show∃q,Ad (cut r 0 (z:Int)) _=some q∧_;rw[k1,Ab];show∃q,Ad (cut r (z:Int) (r.length:Int)) _=some q∧_;rw[k2,Ab];have htl:(r.take z).length=z:=by rw[List.length_take]; omega
    have hback:toB k.tag_=c:=by rw[ht]; exact toB_back c
    show∃q,(if(k.tag_ !=48)=true then _ else _)=some q∧_;by_cases h48:k.tag_=48
    ·rw[if_neg (by simp[h48])];obtain⟨t,ht1,ht2⟩:=got_loop (G8 n) D (by omega) (r.drop z) hF z (r.take z) [] Dx (by omega) (by have:=Gq; omega) (by omega) (by simp only[List.length_nil]; omega);rw[ht1,Ab];rcases ht2 with q|⟨l,q1,q2,q3⟩
     ·subst q;exact⟨_,rfl,fun h=>by cases h⟩
     ·subst q1;refine⟨_,rfl,fun _=>⟨?_,?_⟩⟩
      ·show mayB (D+1) ⟨k.tag_,[],[]++l⟩=true;rw[h48];unfold mayB;simp only[Bool.and_eq_true,List.all_eq_true];exact⟨⟨rfl,rfl⟩,q2⟩
      ·show c::b=(toB k.tag_::(H9 ([]++([]++l).flatMap (putB D)).length++([]++([]++l).flatMap (putB D))))++r.drop z;rw[List.nil_append,List.nil_append,q3,htl,hback,hb2,List.cons_append,List.append_assoc,List.take_append_drop]
    ·rw[if_pos (by simpa using h48),hm,Ab];cases hkb:Rp (c.toNat:Int) (r.take z)with
     |false=>
      rw[if_pos (by simp)];exact⟨_,rfl,fun h=>by cases h⟩
     |true=>
      rw[if_neg (by simp),Qf (by omega),Ab];refine⟨_,rfl,fun _=>⟨?_,?_⟩⟩
      ·show mayB (D+1) ⟨k.tag_,r.take z,[]⟩=true;unfold mayB;simp only[Bool.and_eq_true,List.all_eq_true];refine⟨⟨?_,by simp⟩,fun y hy=>(by cases hy)⟩;show Rp k.tag_ (r.take z)=true;rw[ht]; exact hkb
      ·show c::b=(toB k.tag_::(H9 (r.take z++([]:List g_api_Item).flatMap (putB D)).length++(r.take z++([]:List g_api_Item).flatMap (putB D))))++r.drop z;rw[List.flatMap_nil,List.append_nil,htl,hback,hb2,List.cons_append,List.append_assoc,List.take_append_drop]
end Go.Proofs.YtibojdgdjhngiaaGreatDoor
end
section
namespace Go.Proofs.YtibojdgdjhngiaaGreatDoor
open Go Go.Gw Go.Ax
theorem L_few {d:Nat}{x:g_api_Item}(h:mayB (d+1) x=true)(hl:(putB (d+1) x).length≤100000):x.L.length≤100000∧∀y∈x.L,mayB d y=true∧(putB d y).length≤100000:=by
 have hp: ∀y∈x.L,1≤(putB d y).length:=fun y hy=>WA (Rj h hy);have h1:=Ud (putB d) x.L hp;have e:(putB (d+1) x).length=1+(H9 (x.B++x.L.flatMap (putB d)).length).length+(x.B.length+(x.L.flatMap (putB d)).length):=by
  show(toB x.Tag::(H9 (x.B++x.L.flatMap (putB d)).length++(x.B++x.L.flatMap (putB d)))).length=_;have q:(x.B++x.L.flatMap (putB d)).length=x.B.length+(x.L.flatMap (putB d)).length:=List.length_append;rw[List.length_cons,List.length_append,q];omega
 refine⟨by omega,fun y hy=>⟨Rj h hy,?_⟩⟩;have:=P7 (putB d) hy;omega
theorem few_all {x:g_api_Item}(h:mayB 8 x=true)(hl:(putB 8 x).length≤100000):x.L.length≤100000∧few3D x.L:=by
 obtain⟨a1,a2⟩:=L_few h hl;refine⟨a1,fun y hy=>(L_few (a2 y hy).1 (a2 y hy).2).1,fun y hy=> ?_⟩;obtain⟨b1,b2⟩:=L_few (a2 y hy).1 (a2 y hy).2;refine⟨fun z hz=>(L_few (b2 z hz).1 (b2 z hz).2).1,fun z hz=> ?_⟩;obtain⟨c1,c2⟩:=L_few (b2 z hz).1 (b2 z hz).2;exact fun u hu=>(L_few (c2 u hu).1 (c2 u hu).2).1
def zc:g_api_Cert:=⟨0,ByteArray.empty,ByteArray.empty,0,[],0,0,false,0,[],[],⟨0,0⟩⟩
theorem Get_any {b:List UInt8}(hb:b.length≤3000): ∃(x:g_api_Item) (n e:Int),JX b 0=some (x,n,e)∧(e=0→mayB 8 x=true∧(putB 8 x).length≤3000∧(n=(b.length:Int)→b=putB 8 x)):=by
 obtain⟨⟨x,r,e⟩,h1,h2⟩:=got_eq 8 Dx b (by decide) (by have:=Gq; omega) (by omega);have h1:Nq b 8=some (x,r,e):=h1;unfold JX;have e0:(decide ((0:Int)<0)||decide ((0:Int)>(b.length:Int)))=false:=by
  have: ¬(0:Int)>(b.length:Int):=by omega
  rw[decide_eq_false this]; rfl
 have e1:cut b 0 (b.length:Int)=some b:=by
  have:=XL b [];rw[List.append_nil]at this;exact this
 rw[e0,if_neg (by decide),e1,Ab,h1,Ab];by_cases he:e=0
 ·subst he;obtain⟨g1,g2⟩:=h2 rfl;have g1:mayB 8 x=true:=g1;have g2:b=putB 8 x++r:=g2;have hl:b.length=(putB 8 x).length+r.length:=by rw[g2,List.length_append]
  rw[if_neg (by simp),B5];refine⟨x,w64 ((b.length:Int)-(r.length:Int)),0,rfl,fun _=>⟨g1,by omega,fun hn=> ?_⟩⟩;rw[BM (by omega) (by omega)]at hn;have:r=[]:=List.eq_nil_of_length_eq_zero (by omega);rw[g2,this,List.append_nil]
 ·rw[if_pos (by simpa using he)];exact⟨_,_,e,rfl,fun h=>absurd h he⟩
theorem in_any {x:g_api_Item}(hm:mayB 8 x=true)(hl:x.L.length≤100000):I1 x=some (if x.Tag=48 then some ⟨x.L⟩else none):=by
 unfold I1;rw[Us hl];by_cases h:x.Tag=48
 ·rw[if_pos h,if_pos h,if_pos hm]; rfl
 ·rw[if_neg h,if_neg h]; rfl
theorem mustB (v:Bool):Ba v=some (if v=true then some ()else none):=by cases v<;>rfl
theorem okc_of {c:g_api_Cert}(h:(checkV c==0)=true):Okc c:=okc (by simpa using h)
theorem gotP {b:List UInt8}(hb:b.length≤3000): ∃c e,Ea b=some (c,e)∧(e=0→Okc c∧preBy c=b∧AcS c=c)∧(e≠0→c=zc):=by
 obtain⟨x,n,e,h1,h2⟩:=Get_any hb;unfold Ea GZ EC;rw[h1,Ab];by_cases he:e=0;rotate_left
 ·rw[if_pos (by simpa using he)];exact⟨zc,e,rfl,fun h=>absurd h he,fun _=>rfl⟩
 subst he;obtain⟨g1,g2,g3⟩:=h2 rfl;obtain⟨f1,f2⟩:=few_all g1 (by omega);rw[if_neg (by simp),mustB];by_cases hn:n=(b.length:Int);rotate_left
 ·have:((x,n,(0:Int)).2.1==(b.length:Int))=false:=by rw[beq_eq_false_iff_ne]; exact hn
  rw[this];exact⟨zc,71,rfl,fun h=>by omega,fun _=>rfl⟩
 have hbx:=g3 hn;have:((x,n,(0:Int)).2.1==(b.length:Int))=true:=by rw[beq_iff_eq]; exact hn
 rw[this,if_pos rfl,Ab];show∃c e,Ad (Ad (Ad (I1 x) _) _) _=some (c,e)∧_;rw[in_any g1 f1];by_cases ht:x.Tag=48;rotate_left
 ·rw[if_neg ht];exact⟨zc,71,rfl,fun h=>by omega,fun _=>rfl⟩
 rw[if_pos ht,Ab];show∃c e,Ad (Ad (Ad (C9 ⟨x.L⟩) _) _) _=some (c,e)∧_;rw[AbJ f2.1];cases hw:pre1 x.L with
 |none=>exact⟨zc,71,rfl,fun h=>by omega,fun _=>rfl⟩
 |some q=>
  obtain⟨c,r⟩:=q;obtain⟨w1,w2⟩:=pre_in hw;have wp:(⟨c.Serial,c.Issuer,c.Subject,c.Key,c.Names,c.From,c.Until,c.Ca,c.Depth,c.Permit,[],c.Sig⟩:g_api_Cert)=c:=by rw[←w2]; rfl
  rw[HX,Ab];show∃c' e,Ad (Ad (Ad (EN (⟨c.Serial,c.Issuer,c.Subject,c.Key,c.Names,c.From,c.Until,c.Ca,c.Depth,c.Permit,[],c.Sig⟩:g_api_Cert)) _) _) _=some (c',e)∧_;dsimp only;rw[wp,NG,Ab,mustB];cases hc:checkV c==0 with
  |false=>exact⟨zc,71,rfl,fun h=>by omega,fun _=>rfl⟩
  |true=>
   refine⟨c,0,rfl,fun _=>⟨okc_of hc,?_,w2⟩,fun h=>absurd rfl h⟩;rw[hbx,Z1 ht g1,w1];rfl
end Go.Proofs.YtibojdgdjhngiaaGreatDoor
end
section
namespace Go.Proofs.YtibojdgdjhngiaaGreatDoor
open Go Go.Gw Go.Ax
theorem srt_place (t:Int): ∀{xs:List Int},xs.Pairwise (· < ·)→∃p:Nat,p≤xs.length∧(∀(k:Nat) (x:Int),xs[k]? =some x→k<p→x<t)∧(∀(k:Nat) (x:Int),xs[k]? =some x→p≤k→t≤x)∧decide (xs[p]? =some t)=decide (t∈xs)
 | [],_=>⟨0,Nat.le_refl _,fun k x h=>by simp at h,fun k x h=>by simp at h,by simp⟩
 |y::r,h=>by
  obtain⟨h1,h2⟩:=List.pairwise_cons.1 h;by_cases hy:y<t
  ·obtain⟨p,a,b,c,d⟩:=srt_place t h2;refine⟨p+1,by simp; omega,fun k x hk hp=> ?_,fun k x hk hp=> ?_,?_⟩
   ·cases k with
    |zero=>cases hk; exact hy
    |succ k=>exact b k x hk (by omega)
   ·cases k with
    |zero=>omega
    |succ k=>exact c k x hk (by omega)
   ·rw[List.getElem?_cons_succ,d];have:t≠y:=by omega
    simp[this]
  ·refine⟨0,Nat.zero_le _,fun k x hk hp=>by omega,fun k x hk hp=> ?_,?_⟩
   ·cases k with
    |zero=>cases hk; omega
    |succ k=>
     have:=h1 x (List.mem_of_getElem? hk);omega
   ·by_cases e:t=y
    ·subst e; simp
    ·have:t∉r:=fun hm=>by have:=h1 t hm; omega
     have e':y≠t:=fun q=>e q.symm;simp[e,e',this]
theorem search_mem {l:Aj}(h:okH l.Hide (-1) (l.L.length:Int)=true)(hn:l.Hide.length≤100000)(t:Int): ∃p:Int,Bc l.Hide t=some (p,decide (t∈l.Hide)):=by
 obtain⟨p,a,b,c,d⟩:=srt_place t (okH_all h).2;exact⟨p,by rw[search_eq hn p a b c,d]⟩
theorem srt_len: ∀{xs:List Int} {a n:Int},okH xs a n=true→(xs.length:Int)≤max 0 (n-a-1)
 | [],a,n,_=>by simp; omega
 |x::r,a,n,h=>by
  obtain⟨h1,h2,h3⟩:=okH_cons.1 h;have:=srt_len h3;rw[List.length_cons];omega
theorem hide_few {l:Aj}(h:chk l=0):l.Hide.length≤256:=by
 obtain⟨h0,h1,h2,h3⟩:=Jr h;have:=srt_len h2;rw[List.length_append]at h3;omega
def gpV (b:List UInt8):g_api_Cert:=((Ea b).getD (zc,0)).1
theorem gp_eq {b:List UInt8}(h:b.length≤3000): ∃e,Ea b=some (gpV b,e)∧(e=0→Okc (gpV b)∧preBy (gpV b)=b∧AcS (gpV b)=gpV b)∧(e≠0→gpV b=zc):=by
 obtain⟨c,e,h1,h2,h3⟩:=gotP h;have:gpV b=c:=by unfold gpV; rw[h1]; rfl
 rw[this];exact⟨e,h1,h2,h3⟩
def KG (v:Bool)(hide:List Int)(i:Nat)(b:List UInt8):List UInt8:=if(decide ((i:Int)∈hide)&&v)=true then 0::b else b
def crt (v:Bool)(hide:List Int):List g_api_Leaf→Nat→List g_api_Cert
 | [],_=> []
 |w::r,i=>gpV (KG v hide i w.Body)::crt v hide r (i+1)
theorem crt_len (v:Bool)(hide:List Int): ∀(l:List g_api_Leaf) (i:Nat),(crt v hide l i).length=l.length
 | [],_=>rfl
 |w::r,i=>by unfold crt; simp[crt_len v hide r]
theorem crt_get (v:Bool)(hide:List Int): ∀(l:List g_api_Leaf) (i k:Nat) (w:g_api_Leaf),l[k]? =some w→(crt v hide l i)[k]? =some (gpV (KG v hide (i+k) w.Body))
 | [],i,k,w,h=>by simp at h
 |x::r,i,k,w,h=>by
  unfold crt;cases k with
  |zero=>cases h; rfl
  |succ k=>
   rw[List.getElem?_cons_succ,crt_get v hide r (i+1) k w h,Nat.add_right_comm,Nat.add_assoc]
theorem bodyV_len {v:Bool}{hide:List Int}{i:Nat}{b:List UInt8}(h:b.length≤2048):(KG v hide i b).length≤3000:=by
 unfold KG; split
 ·simp; omega
 ·omega
theorem certs_step {l:Aj}{v:Bool}{a:Int}(hv:(a==1)=v)(hc:chk l=0){i:Nat}{w:g_api_Leaf}(hx:l.L[i]? =some w){out:List g_api_Cert}(ho:out.length≤1000000):
  Cj l a (i:Int) out=some (out++[gpV (KG v l.Hide i w.Body)]):=by
 obtain⟨h0,h1,h2,h3⟩:=Jr hc;have hb:w.Body.length≤2048:=PO h1 w (List.mem_append_left _ (List.mem_of_getElem? hx));obtain⟨p,hp⟩:=search_mem h2 (by have:=hide_few hc; omega) (i:Int);have hbd:(KG v l.Hide i w.Body).length≤3000:=bodyV_len hb;obtain⟨e,he,-,-⟩:=gp_eq hbd;unfold Cj;rw[GV hx,Ab,hp,Ab];dsimp only;rw[hv];have hin:(if(decide ((i:Int)∈l.Hide)&&v)=true then Ad (AT [[0],w.Body]) fun x8=>some x8 else some w.Body)=some (KG v l.Hide i w.Body):=by
  unfold KG;split
  ·rw[LH (by simp; omega),Ab]; simp
  ·rfl
 rw[hin,Ab,he,Ab,app1 ho (by decide) (by decide),Ab]
theorem certs_it {l:Aj}{v:Bool}{a:Int}(hv:(a==1)=v)(hc:chk l=0)(hl:l.L.length≤1000): ∀(k i:Nat) (out:List g_api_Cert),i+k=l.L.length→out.length≤i→
  Bu (Cj l a) k (i:Int) out=some (out++crt v l.Hide (l.L.drop i) i)
 |0,i,out,h,ho=>by
  rw[List.drop_of_length_le (by omega)];simp[Bu,crt]
 |k+1,i,out,h,ho=>by
  have hi:i<l.L.length:=by omega
  have hx:l.L[i]? =some l.L[i]:=List.getElem?_eq_getElem hi;show Ad (Cj l a (i:Int) out) _=_;rw[certs_step hv hc hx (by omega),SS hx];unfold crt;have:=certs_it hv hc hl k (i+1) (out++[gpV (KG v l.Hide i l.L[i].Body)]) (by omega) (by simp; omega);rw[List.append_assoc]at this;exact this
theorem certs_eq {l:Aj}(hl:l.L.length+l.Wait.length≤100000)(hc:chk l=0)(v:Bool):BR l (if v=true then 1 else 0)=some (crt v l.Hide l.L 0,0):=by
 obtain⟨h0,h1,h2,h3⟩:=Jr hc;have h256:l.L.length≤256:=by rw[List.length_append]at h3; omega
 have hv:((if v=true then(1:Int)else 0)==1)=v:=by cases v<;>rfl
 have:=certs_it hv hc (by omega) l.L.length 0 [] (by omega) (Nat.le_refl _);rw[show((0:Nat):Int)=0 from rfl]at this;unfold BR;rw[U0 hl hc v,Ab];dsimp only;rw[if_neg (by decide),this,Ab,Ab,List.drop_zero,List.nil_append]
end Go.Proofs.YtibojdgdjhngiaaGreatDoor
end
section
namespace Go.Proofs.YtibojdgdjhngiaaGreatDoor
open Go Go.Gw Go.Ax
def ZF (c:UInt8):Bool:=(decide (97≤c.toNat)&&decide (c.toNat≤122))||(decide (48≤c.toNat)&&decide (c.toNat≤57))
def innB (c:UInt8):Bool:=c.toNat==45||ZF c
def tailB:List UInt8→Bool
 | []=>true
 | [c]=>ZF c
 |c::d::r=>innB c&&tailB (d::r)
def labB:List UInt8→Bool
 | []=>false
 | [c]=>ZF c
 |c::d::r=>(ZF c||c.toNat==95)&&tailB (d::r)&&decide ((c::d::r).length≤16)
end Go.Proofs.YtibojdgdjhngiaaGreatDoor
end
section
namespace Go.Proofs.YtibojdgdjhngiaaGreatDoor
open Go Go.Gw Go.Ax
def TA:List UInt8→List (List UInt8)
 | []=> [[]]
 |c::l=>if c=46 then []::TA l else match TA l with|h::t=>(c::h)::t| []=> [[c]]
def allBC (l:List UInt8):Bool:=(TA l).all labB
def cbk:(Unit×Nat)→ByteArray→Option (Bool×(Unit×Nat)):=fun(s:(Unit)×Nat) (b0:ByteArray)=>if s.2=0 then Ad (B2 b0 s) fun y=>some (y.2==0,y)else none
def isB (l:List UInt8)(n k:Nat):Bool:=decide (l.length≤k)&&decide ((TA l).length≤n)&&allBC l
end Go.Proofs.YtibojdgdjhngiaaGreatDoor
end
section
namespace Go.Proofs.YtibojdgdjhngiaaGreatDoor
open Go Go.Gw Go.Ax
theorem idx_list {α:Type}{l:List α}{i:Nat}{x:α}(h:l[i]? =some x):idx l (i:Int)=some x:=by
 unfold idx;rw[if_pos (by omega)];exact h
end Go.Proofs.YtibojdgdjhngiaaGreatDoor
end
section
namespace Go.Proofs.YtibojdgdjhngiaaGreatDoor
open Go Go.Gw Go.Ax
def toL (s:ByteArray):List UInt8:=s.data.toList
end Go.Proofs.YtibojdgdjhngiaaGreatDoor
end
section
namespace Go.Proofs.YtibojdgdjhngiaaGreatDoor
open Go Go.Gw Go.Ax
def starB:List UInt8→Bool
 |a::b::r=>a==42&&b==46&&isB r 7 62
 |_=>false
end Go.Proofs.YtibojdgdjhngiaaGreatDoor
end
section
namespace Go.Proofs.YtibojdgdjhngiaaGreatDoor
open Go Go.Gw Go.Ax
theorem at_drop {α:Type}{l:List α}{i:Nat}{c:α}{r:List α}(h:l.drop i=c::r):l[i]? =some c∧l.drop (i+1)=r∧i<l.length:=by
 have h1:l[i]? =some c:=by
  have:(l.drop i)[0]? =some c:=by rw[h]; rfl
  simpa using this
 exact⟨h1,by rw[←List.drop_drop,h]; rfl,(List.getElem?_eq_some_iff.1 h1).1⟩
theorem w64_suc {i:Nat}(h:i≤1000000):w64 ((i:Int)+1)=((i+1:Nat):Int):=by rw[BM (by omega) (by omega)]; omega
def plainB (c:UInt8):Bool:=decide (33≤c.toNat)&&decide (c.toNat≤126)
def textB (l:List UInt8):Bool:=decide (1≤l.length)&&decide (l.length≤64)&&l.all plainB
def nodB:List ByteArray→List ByteArray→Bool
 |_,[]=>true
 |met,s::l=> !(met.any (eqS s))&&nodB (met++[s]) l
structure FewP (c:g_api_Cert):Prop where
 issuer:c.Issuer.size≤100000
 subject:c.Subject.size≤100000
 names: ∀s∈c.Names,s.size≤100000
 nnames:c.Names.length≤100000
 permit: ∀s∈c.Permit,s.size≤100000
 npermit:c.Permit.length≤100000
 nproms:c.Proms.length≤100000
end Go.Proofs.YtibojdgdjhngiaaGreatDoor
end
section
namespace Go.Proofs.YtibojdgdjhngiaaGreatDoor
open Go Go.Gw Go.Ax
def stopB (a:UInt8)(rest:Int):Bool:=(rest==0&&decide (a.toNat<128))||(rest== -1&&decide (128≤a.toNat))
structure Fits (c:g_api_Cert):Prop where
 few:FewP c
 serial: -9223372036854775808≤c.Serial∧c.Serial≤9223372036854775807
 frm: -9223372036854775808≤c.From∧c.From≤9223372036854775807
 til: -9223372036854775808≤c.Until∧c.Until≤9223372036854775807
 depth: -9223372036854775808≤c.Depth∧c.Depth≤9223372036854775807
 proms: ∀p∈c.Proms,(-9223372036854775808≤p.Log∧p.Log≤9223372036854775807)∧(-9223372036854775808≤p.At∧p.At≤9223372036854775807)
end Go.Proofs.YtibojdgdjhngiaaGreatDoor
end
section
namespace Go.Proofs.YtibojdgdjhngiaaGreatDoor
open Go Go.Gw Go.Ax
def kindV (c:g_api_Cert):Bool:=if c.Ca=true then textV c.Subject&&((c.Names.length:Int)==0)&&decide (c.Depth≥0)&&decide (c.Depth≤4)&&listV patV c.Permit 0 8 else eqS c.Subject (⟨#[]⟩:ByteArray)&&listV nameV c.Names 1 8&&(c.Depth==0)&&((c.Permit.length:Int)==0)
end Go.Proofs.YtibojdgdjhngiaaGreatDoor
end
section
namespace Go.Proofs.YtibojdgdjhngiaaGreatDoor
open Go Go.Gw Go.Ax
def smallI:Nat→g_api_Item→Prop
 |0,_=>True
 |d+1,x=>x.B.length≤1000000∧x.L.length≤1000000∧∀y∈x.L,smallI d y
end Go.Proofs.YtibojdgdjhngiaaGreatDoor
end
section
namespace Go.Proofs.YtibojdgdjhngiaaGreatDoor
open Go Go.Gw Go.Ax
end Go.Proofs.YtibojdgdjhngiaaGreatDoor
end
section
namespace Go.Proofs.YtibojdgdjhngiaaGreatDoor
open Go Go.Gw Go.Ax
theorem eqSig_iff {p q:g_api_Sig}:FN p q=true↔p=q:=by
 cases p; cases q;unfold FN;simp
theorem eqProm_iff {p q:g_api_Promise}:C1 p q=true↔p=q:=by
 obtain⟨a,b,⟨c,d⟩,e⟩:=p;obtain⟨a',b',⟨c',d'⟩,e'⟩:=q;unfold C1 Jn;simp[eqSig_iff]
end Go.Proofs.YtibojdgdjhngiaaGreatDoor
end
section
namespace Go.Proofs.YtibojdgdjhngiaaGreatDoor
open Go Go.Gw Go.Ax
theorem same18_loop {a b:g_api_Cert}(hab:a.Proms.length=b.Proms.length)(hn:a.Proms.length≤100000): ∀(r q:List g_api_Promise) (i f:Nat),a.Proms.drop i=r→b.Proms.drop i=q→r.length<f→
  ∃z,iter (Bz a b) f (i:Int)=some z∧(z= .inl ()↔r=q)∧(z= .inl ()∨z= .inr false)
 |r,q,i,0,_,_,h=>by omega
 | [],q,i,f+1,h,hq,_=>by
  have hl:a.Proms.length≤i:=List.drop_eq_nil_iff.1 h;have hqn:q=[]:=by rw[←hq]; exact List.drop_eq_nil_of_le (by omega)
  have e:Bz a b (i:Int)=some (.inr (.inl ())):=by
   unfold Bz;rw[decide_eq_false (by omega)];rfl
  refine⟨.inl (),?_,by simp[hqn],.inl rfl⟩;show Ad (Bz a b (i:Int)) _=_;rw[e]; rfl
 |p::r,[],i,f+1,h,hq,_=>by
  obtain⟨hc,hr,hlt⟩:=at_drop h;have:=List.drop_eq_nil_iff.1 hq;omega
 |p::r,s::q,i,f+1,h,hq,hf=>by
  obtain⟨hc,hr,hlt⟩:=at_drop h;obtain⟨hc2,hq2,hlt2⟩:=at_drop hq;obtain⟨z,ih,z1,z2⟩:=same18_loop hab hn r q (i+1) f hr hq2 (by rw[List.length_cons]at hf; omega);have e:Bz a b (i:Int)=some (if C1 p s=true then .inl ((i+1:Nat):Int)else .inr (.inr false)):=by
   unfold Bz;rw[decide_eq_true (by omega),if_pos rfl,idx_list hc,Ab,idx_list hc2,Ab,w64_suc (by omega)];cases C1 p s<;>rfl
  cases hp:C1 p s with
  |false=>
   have ne:p::r≠s::q:=fun x=>by
    have:=eqProm_iff.2 (List.cons.inj x).1;rw[hp]at this; cases this
   refine⟨.inr false,?_,by simp only[reduceCtorEq,false_iff]; exact ne,.inr rfl⟩;show Ad (Bz a b (i:Int)) _=_;rw[e,hp]; rfl
  |true=>
   refine⟨z,?_,?_,z2⟩
   ·show Ad (Bz a b (i:Int)) _=_;rw[e,hp,if_pos rfl];exact ih
   ·rw[z1,eqProm_iff.1 hp];exact⟨fun x=>by rw[x],fun x=>(List.cons.inj x).2⟩
theorem same11_loop {a b:List ByteArray}(hab:a.length=b.length)(hn:a.length≤100000): ∀(r q:List ByteArray) (i f:Nat),a.drop i=r→b.drop i=q→r.length<f→
  iter (BA a b) f (i:Int)=some (if r=q then .inl ()else .inr false)
 |r,q,i,0,_,_,h=>by omega
 | [],q,i,f+1,h,hq,_=>by
  have hl:a.length≤i:=List.drop_eq_nil_iff.1 h;have hqn:q=[]:=by rw[←hq]; exact List.drop_eq_nil_of_le (by omega)
  have e:BA a b (i:Int)=some (.inr (.inl ())):=by
   unfold BA;rw[decide_eq_false (by omega)];rfl
  show Ad (BA a b (i:Int)) _=_;rw[e,hqn,if_pos rfl]; rfl
 |p::r,[],i,f+1,h,hq,_=>by
  obtain⟨hc,hr,hlt⟩:=at_drop h;have:=List.drop_eq_nil_iff.1 hq;omega
 |p::r,s::q,i,f+1,h,hq,hf=>by
  obtain⟨hc,hr,hlt⟩:=at_drop h;obtain⟨hc2,hq2,hlt2⟩:=at_drop hq;have ih:=same11_loop hab hn r q (i+1) f hr hq2 (by rw[List.length_cons]at hf; omega);have e:BA a b (i:Int)=some (if eqS p s=true then .inl ((i+1:Nat):Int)else .inr (.inr false)):=by
   unfold BA;rw[decide_eq_true (by omega),if_pos rfl,idx_list hc,Ab,idx_list hc2,Ab,w64_suc (by omega)];cases eqS p s<;>rfl
  show Ad (BA a b (i:Int)) _=_;rw[e];cases hp:eqS p s with
  |false=>
   have:p::r≠s::q:=fun x=>by
    have:=J0.2 (List.cons.inj x).1;rw[hp]at this; cases this
   rw[if_neg this]; rfl
  |true=>
   rw[if_pos rfl];show iter (BA a b) f ((i+1:Nat):Int)=_;rw[ih,J0.1 hp];by_cases hrq:r=q
   ·rw[if_pos hrq,if_pos (by rw[hrq])]
   ·rw[if_neg hrq,if_neg (fun x=>hrq (List.cons.inj x).2)]
theorem same11 {a b:List ByteArray}(hn:a.length≤100000): ∃r,ED a b=some r∧(r=true↔a=b):=by
 unfold ED;by_cases h:a.length=b.length
 ·have e:((a.length:Int) !=(b.length:Int))=false:=by rw[h]; simp
  have hl:=same11_loop h hn a b 0 Dx rfl rfl (by have:=Gq; omega);have hl:iter (BA a b) Dx 0=some (if a=b then .inl ()else .inr false):=hl;rw[e,if_neg (by decide),hl];by_cases hq:a=b
  ·rw[if_pos hq]; exact⟨true,rfl,by simp[hq]⟩
  ·rw[if_neg hq]; exact⟨false,rfl,by simp[hq]⟩
 ·have e:((a.length:Int) !=(b.length:Int))=true:=by simp; omega
  rw[e,if_pos rfl];exact⟨false,rfl,by simp only[Bool.false_eq_true,false_iff]; exact fun x=>h (by rw[x])⟩
theorem same18_iff {a b:g_api_Cert}(ha:a.Proms.length≤100000∧a.Names.length≤100000∧a.Permit.length≤100000): ∃r,Dm a b=some r∧(r=true↔a=b):=by
 obtain⟨r1,e1,h1⟩:=same11 (a:=a.Names) (b:=b.Names) ha.2.1;obtain⟨r2,e2,h2⟩:=same11 (a:=a.Permit) (b:=b.Permit) ha.2.2;have hk:((a.Key.toNat:Int) !=(b.Key.toNat:Int))= !(a.Key==b.Key):=by
  show(!((a.Key.toNat:Int)==(b.Key.toNat:Int)))=_;have:((a.Key.toNat:Int)==(b.Key.toNat:Int))=(a.Key==b.Key):=by
   rw[Bool.eq_iff_iff,beq_iff_eq,beq_iff_eq,←UInt64.toNat_inj];omega
  rw[this]
 unfold Dm;split
 ·rename_i hc;refine⟨false,rfl,?_⟩;simp only[Bool.false_eq_true,false_iff];rintro rfl;simp only[Bool.or_eq_true,bne_self_eq_false,Bool.not_eq_true',Bool.false_eq_true,false_or,or_false,J0.2 rfl,eqSig_iff.2 rfl,Bool.true_eq_false]at hc
 ·rename_i hc;rw[hk]at hc;simp only[Bool.or_eq_true,not_or,Bool.not_eq_true,bne_eq_false_iff_eq,Bool.not_eq_false',J0,eqSig_iff,beq_iff_eq]at hc;obtain⟨⟨⟨⟨⟨⟨⟨⟨⟨q1,q2⟩,q3⟩,q4⟩,q5⟩,q6⟩,q7⟩,q8⟩,q9⟩,q10⟩:=hc;have hlen:a.Proms.length=b.Proms.length:=by omega
  obtain⟨z,hl,z1,z2⟩:=same18_loop hlen ha.1 a.Proms b.Proms 0 Dx rfl rfl (by have:=Gq; omega);have hl:iter (Bz a b) Dx 0=some z:=hl;rw[hl,Ab];rcases z2 with z2|z2
  ·subst z2;have hp:=z1.1 rfl;show∃r,Ad (ED a.Names b.Names) _=some r∧_;rw[e1,Ab,e2,gu_b,Ab];refine⟨_,rfl,?_⟩;have:(r1&&(r1&&r2))=true↔(a.Names=b.Names∧a.Permit=b.Permit):=by
    rw[←h1,←h2];cases r1<;>cases r2<;>simp
   rw[this];constructor
   ·rintro⟨n1,n2⟩;cases a; cases b;simp only at*;simp[q1,q2,q3,q4,q5,q6,q7,q8,q9,hp,n1,n2]
   ·rintro rfl;exact⟨rfl,rfl⟩
  ·subst z2;exact⟨false,rfl,by simp only[Bool.false_eq_true,false_iff]; exact fun x=>absurd (z1.2 (by rw[x])) (by simp)⟩
end Go.Proofs.YtibojdgdjhngiaaGreatDoor
end
section
namespace Go.Proofs.YtibojdgdjhngiaaGreatDoor
open Go Go.Gw Go.Ax
theorem live30_true:Iu=some true:=by kernel_rfl
end Go.Proofs.YtibojdgdjhngiaaGreatDoor
end
section
namespace Go.Proofs.YtibojdgdjhngiaaGreatDoor
open Go Go.Gw Go.Ax
theorem few24R (l:Aj): ∃r,HZ l=some r∧(r=true→l.L.length≤40∧l.Wait.length≤40∧l.Hide.length≤60):=by
 have h1:=Ov (step:=Em l) (fun(s:Int) (n:Int)=>(s,n)) (l.L.take 40) (fun _ s w=>w64 (s+(w.Body.length:Int))) (fun _ _=>True) (by simp; omega)
  (fun i w s hw _=>⟨by
   obtain⟨a1,a2,a3⟩:=T8 hw;unfold Em;dsimp only;rw[if_pos (by simp; omega),a1,Ab,AcO,QS a3 (by omega)],trivial⟩)
  (fun s _=>by
   unfold Em;dsimp only;rw[if_neg (by simp; omega)]) 0 trivial
 generalize fldI (fun _ (s:Int) (w:g_api_Leaf)=>w64 (s+(w.Body.length:Int))) (l.L.take 40) 0 0=q at h1;have h2:=Ov (step:=El l) (fun(s:Int) (n:Int)=>(s,n)) (l.Wait.take 40) (fun _ s w=>w64 (s+(w.Body.length:Int))) (fun _ _=>True) (by simp; omega)
  (fun i w s hw _=>⟨by
   obtain⟨a1,a2,a3⟩:=T8 hw;unfold El;dsimp only;rw[if_pos (by simp; omega),a1,Ab,AcO,QS a3 (by omega)],trivial⟩)
  (fun s _=>by
   unfold El;dsimp only;rw[if_neg (by simp; omega)]) q trivial
 generalize fldI (fun _ (s:Int) (w:g_api_Leaf)=>w64 (s+(w.Body.length:Int))) (l.Wait.take 40) 0 q=z at h2;unfold HZ;rw[h1,Ab,Ab,h2,Ab,Ab,AcO];refine⟨_,rfl,fun h=> ?_⟩;simp only[Bool.and_eq_true,decide_eq_true_eq]at h;omega
theorem pre_head (c:g_api_Cert):(preBy c).head? =some 48:=rfl
theorem zc_not:checkV zc≠0:=by
 have:checkV zc=1:=by kernel_rfl
 rw[this]; decide
theorem gp_hid {b:List UInt8}(h:b.length≤2048):gpV (0::b)=zc:=by
 obtain⟨e,h1,h2,h3⟩:=gp_eq (b:=0::b) (by simp; omega);by_cases he:e=0
 ·have:=pre_head (gpV (0::b));rw[(h2 he).2.1]at this;cases this
 ·exact h3 he
theorem same_gp {b:List UInt8}(h:b.length≤3000):Dm (gpV b) (gpV b)=some true:=by
 obtain⟨e,h1,h2,h3⟩:=gp_eq h;have:(gpV b).Proms.length≤100000∧(gpV b).Names.length≤100000∧(gpV b).Permit.length≤100000:=by
  by_cases he:e=0
  ·obtain⟨K,-,hb⟩:=h2 he;have hp:(gpV b).Proms=[]:=by rw[←hb]; rfl
   have F:=K.form;rw[hp];refine⟨Nat.zero_le _,?_⟩;cases hc:(gpV b).Ca with
   |true=>
    obtain⟨-,a,-,-,d⟩:=F.ca hc;have:=(K4 d).2.1;rw[a];exact⟨Nat.zero_le _,by omega⟩
   |false=>
    obtain⟨-,a,-,d⟩:=F.leaf hc;have:=(K4 a).2.1;rw[d];exact⟨by omega,Nat.zero_le _⟩
  ·rw[h3 he]; exact⟨Nat.zero_le _,Nat.zero_le _,Nat.zero_le _⟩
 obtain⟨r,e',h'⟩:=same18_iff (a:=gpV b) (b:=gpV b) this;rw[e',h'.2 rfl]
theorem same_zc:Dm zc zc=some true:=by
 obtain⟨r,e',h'⟩:=same18_iff (a:=zc) (b:=zc) (by decide);rw[e',h'.2 rfl]
theorem hides_true (l:Aj):CT l=some true:=by
 unfold CT;rw[live30_true,Ab,if_neg (by decide)];obtain⟨f,hf,hs⟩:=few24R l;rw[hf,Ab];cases f
 case false=>rfl
 obtain⟨s1,s2,s3⟩:=hs rfl;have hl:l.L.length+l.Wait.length≤100000:=by omega
 rw[show(!!true)=true from rfl,guT,Qi hl,Ab];by_cases hc:chk l=0;rotate_left
 ·rw[if_pos (by rw[bne_iff_ne.2 hc]; rfl)]
 rw[hc,if_neg (by decide)];have e0:=certs_eq hl hc false;have e1:=certs_eq hl hc true;rw[if_neg (by decide)]at e0;rw[if_pos rfl]at e1;have e2:BR l 2=some ([],240):=by
  unfold BR Dq;rw[Qi hl,Ab,hc,if_neg (by decide),if_pos (by decide),Ab];rfl
 obtain⟨h0,h1,h2,h3⟩:=Jr hc;have hb: ∀w∈l.L,w.Body.length≤2048:=fun w hw=>PO h1 w (List.mem_append_left _ hw);have n0:=crt_len false l.Hide l.L 0;have n1:=crt_len true l.Hide l.L 0;rw[e0,Ab,e1,Ab,e2,Ab];dsimp only;rw[n0,n1,bne_self_eq_false,bne_self_eq_false (a:=(l.L.length:Int)),if_neg (by decide),Xz l.L.length (by omega) (fun i hi=>by
  have hx:l.L[i]? =some l.L[i]:=List.getElem?_eq_getElem hi;have hw:=hb _ (List.getElem_mem hi);have g0:=crt_get false l.Hide l.L 0 i _ hx;have g1:=crt_get true l.Hide l.L 0 i _ hx;rw[Nat.zero_add]at g0 g1;have b0:KG false l.Hide i l.L[i].Body=l.L[i].Body:=by unfold KG; rw[Bool.and_false,if_neg (by decide)]
  rw[b0]at g0;have hpre: ∃p z,Da (gpV l.L[i].Body)=some (p,z)∧(z=0→p=l.L[i].Body):=by
   rcases AbI (gpV l.L[i].Body)with ⟨c1,c2⟩|⟨c1,c2⟩
   ·refine⟨_,_,c2,fun _=> ?_⟩;obtain⟨e,q1,q2,q3⟩:=gp_eq (b:=l.L[i].Body) (by omega);by_cases he:e=0
    ·exact(q2 he).2.1
    ·rw[q3 he]at c1; exact absurd c1 zc_not
   ·exact⟨_,_,c2,fun h=>absurd h c1⟩
  obtain⟨p,z,hp,hz⟩:=hpre;generalize crt false l.Hide l.L 0=A at*;generalize crt true l.Hide l.L 0=B at*;have tail:(Ad (some (gpV l.L[i].Body)) fun x14=>Ad (Da x14) fun x15=>Ad (gu (x15.2==0) (idx l.L (i:Int))) fun x16=>
    if((x15.2==0)&&(!eqS (bs x15.1) (bs x16.Body)))=true then some (.inr (.inr false))else some (.inl (w64 ((i:Int)+1))))=(some (.inl ((i+1:Nat):Int)):Option (Int⊕(Unit⊕Bool))):=by
   rw[Ab,hp,Ab];dsimp only;by_cases hz0:z=0
   ·rw[hz0,show((0:Int)==0)=true from rfl,guT,GV hx,Ab,hz hz0,bs_eq,decide_eq_true rfl,if_neg (by decide),QS hi (by omega)]
   ·have:(z==0)=false:=by rw[beq_eq_false_iff_ne]; exact hz0
    rw[this,guF,Ab,Bool.false_and,if_neg (by decide),QS hi (by omega)]
  unfold Ck;dsimp only;rw[n0,Aaw hi,if_pos rfl,GV g0,Ab,has_eq _ (by omega),Ab];by_cases hm:((i:Int)∈l.Hide)
  ·have ha:l.Hide.any (· ==(i:Int))=true:=Yc.2 hm;have b1:KG true l.Hide i l.L[i].Body=0::l.L[i].Body:=by unfold KG; rw[decide_eq_true hm]; rfl
   rw[b1,gp_hid hw]at g1;rw[ha,if_pos rfl,Ab,GV g1,Ab];show Ad (Dm zc zc) _=_;rw[same_zc,Ab,if_neg (by decide)];exact tail
  ·have ha:l.Hide.any (· ==(i:Int))=false:=by
    cases q:l.Hide.any (· ==(i:Int))with
    |false=>rfl
    |true=>exact absurd (Yc.1 q) hm
   have b1:KG true l.Hide i l.L[i].Body=l.L[i].Body:=by unfold KG; rw[decide_eq_false hm]; rfl
   rw[b1]at g1;rw[ha,if_neg (by decide),Ab,GV g1,Ab];show Ad (Dm (gpV l.L[i].Body) (gpV l.L[i].Body)) _=_;rw[same_gp (by omega),Ab,if_neg (by decide)];exact tail) (by unfold Ck; dsimp only; rw[n0,W7,if_neg (by decide)]),Ab]
end Go.Proofs.YtibojdgdjhngiaaGreatDoor
end
section
namespace Go.Proofs.YtibojdgdjhngiaaGreatDoor.lawMonitorHides
open Go Go.Gw Go.ChangeShapes Go.WideShapes Go.ChangeAt Go.RowKit
theorem own:ownKnob Tryz.prog.godebug=none:=by kernel_rfl
theorem tab_ir:Ir Tryz.prog 276 (.agg [.agg [.lit (.int .i64 1),.held [103,114,101,97,116,115,101,97,108,47,100,101,114,46,107,105,110,100,115,36,49]],.agg [.lit (.int .i64 2),.held [103,114,101,97,116,115,101,97,108,47,100,101,114,46,108,101,97,115,116]],.agg [.lit (.int .i64 4),.held [103,114,101,97,116,115,101,97,108,47,100,101,114,46,107,105,110,100,115,36,50]],.agg [.lit (.int .i64 12),.held [103,114,101,97,116,115,101,97,108,47,100,101,114,46,107,105,110,100,115,36,51]],.agg [.lit (.int .i64 48),.held [103,114,101,97,116,115,101,97,108,47,100,101,114,46,107,105,110,100,115,36,52]]]) [[.int .i64 1,.func (.func 305) #[] #[]],[.int .i64 2,.func (.func 149) #[] #[]],[.int .i64 4,.func (.func 306) #[] #[]],[.int .i64 12,.func (.func 307) #[] #[]],[.int .i64 48,.func (.func 310) #[] #[]]].flatten:=
 Ir.arr (n:=5) (k:=2) Tryz.underlying276 (by kernel_rfl) (by kernel_rfl) rfl rfl fun i d c h1 h2=>by
  match i,h1,h2 with
  |0,h1,h2=>cases h1; cases h2; exact Ir.pair Tryz.underlying236 rfl rfl rfl (by kernel_rfl) rfl rfl (by kernel_rfl) (by kernel_rfl) (Ir.int Tryz.underlying3) (Ir.fn Tryz.underlying115 Tryz.func305 (by kernel_rfl) (by kernel_rfl))
  |1,h1,h2=>cases h1; cases h2; exact Ir.pair Tryz.underlying236 rfl rfl rfl (by kernel_rfl) rfl rfl (by kernel_rfl) (by kernel_rfl) (Ir.int Tryz.underlying3) (Ir.fn Tryz.underlying115 Tryz.func149 (by kernel_rfl) (by kernel_rfl))
  |2,h1,h2=>cases h1; cases h2; exact Ir.pair Tryz.underlying236 rfl rfl rfl (by kernel_rfl) rfl rfl (by kernel_rfl) (by kernel_rfl) (Ir.int Tryz.underlying3) (Ir.fn Tryz.underlying115 Tryz.func306 (by kernel_rfl) (by kernel_rfl))
  |3,h1,h2=>cases h1; cases h2; exact Ir.pair Tryz.underlying236 rfl rfl rfl (by kernel_rfl) rfl rfl (by kernel_rfl) (by kernel_rfl) (Ir.int Tryz.underlying3) (Ir.fn Tryz.underlying115 Tryz.func307 (by kernel_rfl) (by kernel_rfl))
  |4,h1,h2=>cases h1; cases h2; exact Ir.pair Tryz.underlying236 rfl rfl rfl (by kernel_rfl) rfl rfl (by kernel_rfl) (by kernel_rfl) (Ir.int Tryz.underlying3) (Ir.fn Tryz.underlying115 Tryz.func310 (by kernel_rfl) (by kernel_rfl))
  |n+5,h1,h2=>cases h1
theorem gB {W:World}(h:laidMetH Tryz.prog Rows.monitorHidesRow.laid W):GB (memOf W):=fun p hp=>by
 obtain rfl:=List.mem_singleton.1 hp;exact gb_of (name:= "greatseal/der.kinds") (by kernel_rfl) (by kernel_rfl) (laidMetH.funcs h (d:= .agg [.agg [.lit (.int .i64 1),.iface "func" (.lit (.string [103,114,101,97,116,115,101,97,108,47,100,101,114,46,107,105,110,100,115,36,49]))],.agg [.lit (.int .i64 2),.iface "func" (.lit (.string [103,114,101,97,116,115,101,97,108,47,100,101,114,46,108,101,97,115,116]))],.agg [.lit (.int .i64 4),.iface "func" (.lit (.string [103,114,101,97,116,115,101,97,108,47,100,101,114,46,107,105,110,100,115,36,50]))],.agg [.lit (.int .i64 12),.iface "func" (.lit (.string [103,114,101,97,116,115,101,97,108,47,100,101,114,46,107,105,110,100,115,36,51]))],.agg [.lit (.int .i64 48),.iface "func" (.lit (.string [103,114,101,97,116,115,101,97,108,47,100,101,114,46,107,105,110,100,115,36,52]))]]) (List.Mem.tail _ (List.Mem.head _))) tab_ir
theorem rd3:Rd Tryz.prog 3 (Int):=Rd.int Tryz.underlying3
theorem rd22:Rd Tryz.prog 22 (UInt64):=Rd.u64 Tryz.underlying22
theorem rd5:Rd Tryz.prog 5 (UInt8):=Rd.u8 Tryz.underlying5
theorem rd75:Rd Tryz.prog 75 (List UInt8):=Rd.slice Tryz.underlying75 rd5 (by kernel_rfl) (by decide)
theorem rd79:Rd Tryz.prog 79 (g_api_Leaf):=Rd.struct Tryz.underlying79 (Uv.more rfl rd75 (by kernel_rfl) (Uv.last rfl rd3 (by kernel_rfl))) (by kernel_rfl) (fun b=>⟨b.1,b.2⟩) (fun h=>h)
theorem rd23:Rd Tryz.prog 23 (List g_api_Leaf):=Rd.slice Tryz.underlying23 rd79 (by kernel_rfl) (by decide)
theorem rd24:Rd Tryz.prog 24 (List Int):=Rd.slice Tryz.underlying24 rd3 (by kernel_rfl) (by decide)
theorem rd26:Rd Tryz.prog 26 (Aj):=Rd.struct Tryz.underlying26 (Uv.more rfl rd3 (by kernel_rfl) (Uv.more rfl rd22 (by kernel_rfl) (Uv.more rfl rd3 (by kernel_rfl) (Uv.more rfl rd23 (by kernel_rfl) (Uv.more rfl rd24 (by kernel_rfl) (Uv.last rfl rd23 (by kernel_rfl))))))) (by kernel_rfl) (fun b=>⟨b.1,b.2.1,b.2.2.1,b.2.2.2.1,b.2.2.2.2.1,b.2.2.2.2.2⟩) (fun h=>h)
theorem rp_g_api_Log {m:Mem}{cs:List Value}{x:Aj}(h:GoT.rep m cs x): ∃v1,∃v2,∃v3,cs=[vI x.Id,vU x.Key,vI x.Delay,v1,v2,v3]∧SlR m v1 x.L∧SlR m v2 x.Hide∧SlR m v3 x.Wait:=by
 obtain⟨_,_,rfl,rfl,⟨_,_,rfl,rfl,⟨_,_,rfl,rfl,⟨_,_,rfl,⟨v1,rfl,h1⟩,⟨_,_,rfl,⟨v2,rfl,h2⟩,⟨v3,rfl,h3⟩⟩⟩⟩⟩⟩:=h;exact⟨v1,v2,v3,rfl,h1,h2,h3⟩
theorem contract (H:Type)(enc:TypeId×Value→H)(W:World)(base:Nat)(args:Array Value)(ds gs:List (DataW H))(before:List MemPlace)
  (hval: ∀(j:Nat) t v,Tryz.f10.params[j]? =some t→args[j]? =some v→Value.okWide Tryz.prog W .any base t v)
  (hW:DataW.Whole enc Tryz.prog Tryz.f10.params.toList Rows.monitorHidesSpec.vars false W args.toList ds gs before) (hL:laidMetH Tryz.prog Rows.monitorHidesRow.laid W):
  Calls Tryz.prog 10 args W fun e W'=> ∃v,e= .returned v∧Rows.monitorHidesSpec.post enc Tryz.prog Tryz.f10 false true false false W args v W':=by
 have hW':=hW;obtain⟨p,q,hA0,hV,rfl,hfz,hnd⟩:=hW;obtain⟨rfl,rfl⟩:=trodVars_none hV;rw[List.append_nil]at hW';have hA:DataW.TrodAll enc Tryz.prog W 0 (fun _=>true) true Tryz.f10.params.toList args.toList ds p:=hA0;have hA1:=hA;have hpl:Tryz.f10.params.toList=[26]:=by rw[Tryz.params10]
 rw[hpl]at hA1;obtain⟨v0,w0,d0,e0,p0,q0,ha0,he0,hp0,h0,r0⟩:=trodAll_cons hA1;obtain⟨z1,z2,z3⟩:=trodAll_nil r0;obtain rfl:args= #[v0]:=by
  apply Array.ext'; rw[ha0,z1]
 obtain rfl:ds=[d0]:=by rw[he0,z2]
 rw[Tryz.params10]at hval;obtain⟨c0,rfl,_⟩:=okWide_struct Tryz.underlying26 (hval 0 26 v0 rfl rfl);obtain⟨a0,s0⟩:=rd26.openA h0;obtain⟨z0_0,z0_1,z0_2,o0,y0_0,y0_1,y0_2⟩:=rp_g_api_Log s0;obtain rfl:=arr_of o0;have hc:=Kc (St.of W (gB hL)) y0_0 y0_1 y0_2 (hides_true a0);refine Calls.mono hc ?_;rintro e W' ⟨v,rfl,hk,M,hle,S,rfl⟩;refine⟨.bool true,rfl,WI (tb:=4) (by kernel_rfl) (by kernel_rfl) rfl (by kernel_rfl) Tryz.underlying4 hW' hA rfl rfl rfl hle S hk⟩
noncomputable def Nv (os:Os):World:=
 {World.holding Tryz.prog os ⟨#[], #[],[]⟩with heap:=((((World.holding Tryz.prog os ⟨#[], #[],[]⟩).heap.modify 5 fun| .cells _ t fr=> .cells #[.int .u8 128,.int .u8 191,.int .u8 160,.int .u8 191,.int .u8 128,.int .u8 159,.int .u8 144,.int .u8 191,.int .u8 128,.int .u8 143,.int .u8 0,.int .u8 0,.int .u8 0,.int .u8 0,.int .u8 0,.int .u8 0,.int .u8 0,.int .u8 0,.int .u8 0,.int .u8 0,.int .u8 0,.int .u8 0,.int .u8 0,.int .u8 0,.int .u8 0,.int .u8 0,.int .u8 0,.int .u8 0,.int .u8 0,.int .u8 0,.int .u8 0,.int .u8 0] t fr|o=>o).modify 2 fun| .cells _ t fr=> .cells [[.int .i64 1,.func (.func 305) #[] #[]],[.int .i64 2,.func (.func 149) #[] #[]],[.int .i64 4,.func (.func 306) #[] #[]],[.int .i64 12,.func (.func 307) #[] #[]],[.int .i64 48,.func (.func 310) #[] #[]]].flatten.toArray t fr|o=>o).modify 4 fun| .cells _ t fr=> .cells ((List.replicate 128 240++List.replicate 66 241++List.replicate 30 2++[19]++List.replicate 12 3++[35,3,3,52,4,4,4,68]++List.replicate 11 241:List Int).map fun n=>Value.int .u8 n).toArray t fr|o=>o)}
theorem laid_met (os:Os):laidMetH Tryz.prog Rows.monitorHidesRow.laid ((Nv os).forCall (fun _ _=>0) ⟨#[], #[(.agg #[.int .i64 0,.int .u64 0,.int .i64 0,.slice none 0 0,.slice none 0 0,.slice none 0 0]:Value)],[]⟩).memory:=
 laidMetH_of_parts3 (fuel:=8) (laidMet_of_run' 8 (by kernel_rfl) (by kernel_rfl)) (by kernel_rfl) (by kernel_rfl)
theorem reads (os:Os){H:Type}(enc:TypeId×Value→H): ∃places,DataW.whole enc Tryz.prog ((Nv os).forCall (fun _ _=>0) ⟨#[], #[(.agg #[.int .i64 0,.int .u64 0,.int .i64 0,.slice none 0 0,.slice none 0 0,.slice none 0 0]:Value)],[]⟩).memory Tryz.f10.params.toList Rows.monitorHidesSpec.vars false #[(.agg #[.int .i64 0,.int .u64 0,.int .i64 0,.slice none 0 0,.slice none 0 0,.slice none 0 0]:Value)].toList 8=some ([.agg [.lit (.int .i64 0),.lit (.int .u64 0),.lit (.int .i64 0),.nil,.nil,.nil]],[],places):=
 ⟨[],by kernel_rfl⟩
theorem lifted (os:Os)(started:os.Started)(H:Type)(enc:TypeId×Value→H)(F:Stop.Interp):
  ReturnsInHanded {} Tryz.checked os 10 .any ((OpenSpec.ofChange Rows.monitorHidesSpec).preRow enc Tryz.prog Tryz.f10 Rows.monitorHidesRow.domain false Rows.monitorHidesRow.laid) (((OpenSpec.ofChange Rows.monitorHidesSpec).at F).post enc Tryz.prog Tryz.f10 false true false false):=by
 obtain⟨places,hx⟩:=reads os enc;refine returnsInHanded_of_row (C:=Tryz.checked) (s:=OpenSpec.ofChange Rows.monitorHidesSpec) own started (by kernel_rfl) Tryz.func10
  (witness_row_at (enc:=enc) (C:=Tryz.checked) false (Nv os) #[(.agg #[.int .i64 0,.int .u64 0,.int .i64 0,.slice none 0 0,.slice none 0 0,.slice none 0 0]:Value)] rfl (by kernel_rfl) (by kernel_rfl) (by kernel_rfl)
   (OpenSpec.preRow_of_cond 8 hx (by kernel_rfl) (fun k hk=>by cases hk) (by kernel_rfl) (laid_met os))) ?_
 intro W base args ds gs before hval hW _ _ _ hL _ _;exact contract H enc W base args ds gs before hval hW hL
theorem j0:laidOutB Tryz.prog=true:=by kernel_rfl
theorem j1:mapsRowed Tryz.prog=true:=by kernel_rfl
theorem j2:(Rows.monitorHidesRow.inPlace==Tryz.prog.inPlace 10)=true:=by kernel_rfl
theorem j3:(Rows.monitorHidesRow.unfollowed==Tryz.prog.unfollowed 10)=true:=by kernel_rfl
theorem j4:(Rows.monitorHidesRow.recurses==Tryz.prog.recurses 10)=true:=by kernel_rfl
theorem j5:(Rows.monitorHidesRow.named==Tryz.prog.varsNamed 10)=true:=by kernel_rfl
theorem joined:joinedFacts Tryz.prog 10 Tryz.f10 (OpenSpec.ofChange Rows.monitorHidesSpec).bare Rows.monitorHidesRow=true:=by
 unfold joinedFacts;rw[j0,j1,j2,j3,j4,j5];kernel_rfl
theorem s1:Tryz.pinned.checked.prog.funcNamed Rows.monitorHidesRow.func=some 10:=by kernel_rfl
theorem s2:Tryz.f10.isInstance Tryz.pinned.checked.prog Rows.monitorHidesRow.origin Rows.monitorHidesRow.targs:=of_decide_eq_true (by kernel_rfl)
theorem s3:Tryz.f10.isWrapper Tryz.pinned.checked.prog Rows.monitorHidesRow.wrapper Rows.monitorHidesRow.mainSum:=by unfold Func.isWrapper; first|(rw[if_pos (by decide+kernel)]; kernel_rfl)|(rw[if_neg (by decide+kernel)]; exact⟨rfl,rfl⟩)
theorem s4:joinedFacts Tryz.pinned.checked.prog 10 Tryz.f10 (OpenSpec.ofChange Rows.monitorHidesSpec).bare Rows.monitorHidesRow=true:=joined
theorem s5 (os:Os)(started:os.Started)(H:Type)(enc:TypeId×Value→H)(F:Stop.Interp):ReturnsInHanded Rows.monitorHidesRow.assume Tryz.pinned.checked os 10 .any (Rows.monitorHidesRow.pre enc Tryz.pinned.checked.prog Tryz.f10 (OpenSpec.ofChange Rows.monitorHidesSpec)) (((OpenSpec.ofChange Rows.monitorHidesSpec).at F).post enc Tryz.pinned.checked.prog Tryz.f10 Rows.monitorHidesRow.apart Rows.monitorHidesRow.fresh Rows.monitorHidesRow.handsOn Rows.monitorHidesRow.again):=by rw[OpenClaim.pre_eq_preRow]; exact lifted os started H enc F
theorem said:Rows.MonitorHidesSaid:=
 OpenClaim.holds_of_cond 10 Tryz.f10 rfl rfl rfl rfl rfl rfl rfl ⟨rfl,rfl,rfl,rfl,rfl⟩ rfl rfl rfl rfl rfl s1 Tryz.func10 s4 s2 s3 (fun os started H enc _ F=>s5 os started H enc F)
theorem plain (f:FuncId)(fn:Func)(hf:Tryz.pinned.checked.prog.funcNamed "greatseal/greatseallaw30.MonitorHides" =some f)(hfn:Tryz.pinned.checked.prog.funcs[f]? =some fn):
  true=Tryz.pinned.checked.prog.looks []∧∀(j:Nat) t,fn.params[j]? =some t→Tryz.pinned.checked.prog.wantsStandIn t=false:=by
 obtain rfl:f=10:=Option.some.inj ((show Tryz.prog.funcNamed "greatseal/greatseallaw30.MonitorHides" =some 10 by kernel_rfl).symm.trans hf)|>.symm;obtain rfl:fn=Tryz.f10:=(Option.some.inj (Tryz.func10.symm.trans hfn)).symm;refine⟨by kernel_rfl,fun j t ht=> ?_⟩;rw[Tryz.params10]at ht;have hm:t∈[26]:=by simpa using Array.mem_of_getElem? ht
 have hall:([26].all fun u=> !Tryz.prog.wantsStandIn u)=true:=by kernel_rfl
 exact(show Tryz.prog.wantsStandIn t=false by simpa using List.all_eq_true.1 hall t hm)
theorem card:Rows.MonitorHidesCardSaid:=
 Claim7.holds_tied_plain_at .later [] _ _ _ _ said (fun _ h=>by cases h) (by kernel_rfl) (fun _ h=>by cases h) monitorHides_row_tie rfl ⟨rfl,rfl⟩ (by kernel_rfl) rfl plain (by kernel_rfl)
end Go.Proofs.YtibojdgdjhngiaaGreatDoor.lawMonitorHides
end
