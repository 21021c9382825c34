/- The walks of some functions, by the executor, written by program. Conditions: none. -/
import Derived.Test.YtlnbckkkapbdmaaGreatDoorZf
import Derived.Test.YtlnbckkkapbdmaaGreatDoorZg
set_option linter.unusedSimpArgs false
set_option linter.unusedVariables false
set_option maxHeartbeats 20000000
set_option maxRecDepth 100000
namespace Go.Proofs.YtlnbckkkapbdmaaGreatDoor
open Go Go.Gw Go.Ax Tryz
def Gr (i1:Int)(x4:List UInt8)(s1:(List UInt8)):Option ((List UInt8)):=Ab (Ku s1 (toU (x4.length:Int)) 4) fun x5=>Ab (app 1 x5 x4) fun x6=>some x6
def HZ (a0:ByteArray)(a1:List (List UInt8)):Option (UInt64×UInt64):=Ab (app 1 ([(toB (a0.size:Int))]:List UInt8) a0.data.toList) fun x1=>Ab (Ab (EE Gr a1 0 x1) fun x3=>some x3) fun x2=>Ab (IR x2) fun x7=>some x7
theorem On {a0:ByteArray}{a1:List (List UInt8)}{r:UInt64×UInt64}(hm:HZ a0 a1=some r):Sf prog 59 [.d (.s a0),sl (eL eB) a1] (ag (KC r)):=
 sp call59 func59 rfl ntmps59 rfl fun D0 As η0 m0 hd=>by
  unfold HZ at hm;refine TT (k:=1) eB ([(toB (a0.size:Int))]:List UInt8) (fun _=>rfl) (by kernel_rfl) ?_;obtain⟨x1,q1,hm⟩:=oY0 hm;refine gapS q1 (by kernel_rfl) ?_;obtain⟨x2,q2,hm⟩:=oY0 hm;obtain⟨x3,q3,q2⟩:=oY0 q2;refine SZ 0 (E:=(eL eB)) (xs:=a1) 14 (by kernel_rfl) fun hle1=> ?_;refine gjU 0 (fun(_:Unit)=>⟨[(4,.pb 0 0),(5,.ow 1)],[(0,.row 1 1 _ eB x2),(1,.box 0 [.d (.u 0),.d (.u 0)] 38)],[],2⟩) (fun _=>True) (by kernel_rfl) (fun Jp bk1=> ?_) fun _ _=> ?_
  ·refine gjU 0 (fun(_:Unit)=>⟨[(4,.pb 0 0),(5,.ow 1)],[(0,.row 1 1 _ eB x3),(1,.box 0 [.d (.u 0),.d (.u 0)] 38)],[],2⟩) (fun _=>True) (by kernel_rfl) (fun Jp bk2=> ?_) fun _ _=> ?_
   ·refine gl hd (fun(p:Int×((List UInt8)))=>let (p0,p_0):=p; ⟨[(4,.pb 0 0),(5,.ow 1),(14,sl (eL eB) a1),(15,.d (.i (a1.length:Int))),(16,.d (.i p0))],[(0,.row 1 1 _ eB p_0),(1,.box 0 [.d (.u 0),.d (.u 0)] 38)],[],2⟩) (fun p=> ∃i:Nat,p.1=(i:Int)∧i≤a1.length∧EE Gr (a1.drop i) (i:Int) p.2=some x3) (fun p=>a1.length-p.1.toNat) (0,x1) ⟨0,rfl,Nat.zero_le _,q3⟩ (by kernel_rfl) ?_;rintro⟨_,s1⟩ ⟨i1,rfl,hi,q4⟩ Jl bl1;refine gi' (b:=decide ((i1:Int)<(a1.length:Int))) (by kernel_rfl) (fun hc1=> ?_) fun hc1=> ?_
    ·have hlt1:i1<a1.length:=by have:=of_decide_eq_true hc1; omega
     obtain⟨x4,y1,q7,q6,q5⟩:=IU q4 hlt1;unfold Gr at q6;refine Gx (k:=1) (E:=(eL eB)) (fun _=>rfl) (fun _=>q7) (by kernel_rfl) ?_;obtain⟨x5,q8,q6⟩:=oY0 q6;refine gco (Tu q8) (by kernel_rfl) ?_;obtain⟨x6,q9,q6⟩:=oY0 q6;refine Jv (k:=1) (E:=eB) (fun _=>rfl) q9 (by kernel_rfl) ?_;have e0:=sI0 q6;subst e0;exact gb bl1 hd (w64 ((i1:Int)+1),x6) ⟨⟨i1+1,Cn hlt1 hle1,by omega,q5⟩,Jj hlt1 hle1⟩ (by kernel_rfl)
    have hlt1: ¬i1<a1.length:=by have:=of_decide_eq_false hc1; omega
    have e:=Eq.symm (HL q4 hlt1);subst e;exact gb bk2 hd () trivial (by kernel_rfl)
   have e0:=sI0 q2;subst e0;exact gb bk1 hd () trivial (by kernel_rfl)
  obtain⟨x7,q10,hm⟩:=oY0 hm;refine gco (TE q10) (by kernel_rfl) ?_;have e0:=sI0 hm;subst e0;exact Au hd (by kernel_rfl)
def GG (a0:List UInt8):Option (UInt64×UInt64):=Ab (HZ (⟨#[108,101,97,102]⟩:ByteArray) ([a0]:List (List UInt8))) fun x1=>some x1
theorem JH {a0:List UInt8}{r:UInt64×UInt64}(hm:GG a0=some r):Sf prog 35 [sl eB a0] (ag (KC r)):=
 sp call35 func35 rfl ntmps35 rfl fun D0 As η0 m0 hd=>by
  unfold GG at hm;refine ET (k:=1) (eL eB) ([a0]:List (List UInt8)) (fun _=>rfl) (by kernel_rfl) ?_;obtain⟨x1,q1,hm⟩:=oY0 hm;refine gc (fun _=>On q1) (by kernel_rfl) ?_;have e0:=sI0 hm;subst e0;exact Au hd (by kernel_rfl)
def Jm (a0:Ac):Option ((UInt64×UInt64)×Int):=Ab (HH a0) fun x1=>if(x1.2 !=0)=true then some ((0,0),x1.2)else Ab (GG x1.1) fun x2=>some (x2,0)
theorem Rb {a0:Ac}{r:(UInt64×UInt64)×Int}(hm:Jm a0=some r):Sf prog 24 [ag (Aq a0)] (.tup [ag (KC r.1),.d (.i r.2)]):=
 sp call24 func24 rfl ntmps24 rfl fun D0 As η0 m0 hd=>by
  unfold Jm at hm;obtain⟨x1,q1,hm⟩:=oY0 hm;refine gco (ND q1) (by kernel_rfl) ?_;refine gi hm (by kernel_rfl) (fun hc1 hm=> ?_) fun hc1 hm=> ?_
  ·skip;have e0:=sI0 hm;subst e0;exact Au hd (by kernel_rfl)
  obtain⟨x2,q2,hm⟩:=oY0 hm;refine gco (JH q2) (by kernel_rfl) ?_;have e0:=sI0 hm;subst e0;exact Au hd (by kernel_rfl)
def Cd (i1:Int)(x8:UInt8)(s1:Int):Option (Int):=bnd ((Ks (FJ s1 8) (w64 (x8.toNat:Int)))) fun x9=>some x9
def AL (a0:List UInt8):Option (Int×Int×Int):=if((a0.length:Int)==0)=true then some (0,0,70)else Ab (idx a0 0) fun x1=>if(decide ((w64 (x1.toNat:Int))<128))=true then some ((w64 (x1.toNat:Int)),1,0)else bnd ((w64 ((w64 (x1.toNat:Int))-128))) fun x2=>bnd ((((w64 (x1.toNat:Int)) !=129)&&((w64 (x1.toNat:Int)) !=130))) fun x3=>if x3=true then some (0,0,71)else bnd ((decide ((a0.length:Int)≤x2))) fun x4=>if x4=true then some (0,0,70)else Ab (Ab (cut a0 1 (w64 (x2+1))) fun x6=>Ab (EE Cd x6 0 0) fun x7=>some x7) fun x5=>if((decide (x5<128))||(((w64 (x1.toNat:Int))==130)&&(decide (x5<256))))=true then some (0,0,71)else some (x5,(w64 (x2+1)),0)
theorem PX {a0:List UInt8}{r:Int×Int×Int}(hm:AL a0=some r):Sf prog 148 [sl eB a0] (.tup [.d (.i r.1),.d (.i r.2.1),.d (.i r.2.2)]):=
 sp call148 func148 rfl ntmps148 rfl fun D0 As η0 m0 hd=>by
  unfold AL at hm;refine gi hm (by kernel_rfl) (fun hc1 hm=> ?_) fun hc1 hm=> ?_
  ·skip;have e0:=sI0 hm;subst e0;exact Au hd (by kernel_rfl)
  obtain⟨x1,q1,hm⟩:=oY0 hm;refine Gx (k:=1) (E:=eB) (fun _=>rfl) (fun _=>q1) (by kernel_rfl) ?_;refine gi hm (by kernel_rfl) (fun hc2 hm=> ?_) fun hc2 hm=> ?_
  ·skip;have e0:=sI0 hm;subst e0;exact Au hd (by kernel_rfl)
  have hm:=A4 hm;let x2:Int:=((w64 ((w64 (x1.toNat:Int))-128)));have hm:=A4 hm;let x3:Bool:=((((w64 (x1.toNat:Int)) !=129)&&((w64 (x1.toNat:Int)) !=130)));refine gi hm (by kernel_rfl) (fun hc3 hm=> ?_) fun hc3 hm=> ?_
  ·skip;have e0:=sI0 hm;subst e0;exact Au hd (by kernel_rfl)
  have hm:=A4 hm;let x4:Bool:=((decide ((a0.length:Int)≤x2)));refine gi hm (by kernel_rfl) (fun hc4 hm=> ?_) fun hc4 hm=> ?_
  ·skip;have e0:=sI0 hm;subst e0;exact Au hd (by kernel_rfl)
  obtain⟨x5,q5,hm⟩:=oY0 hm;obtain⟨x6,q6,q5⟩:=oY0 q5;refine Ta (k:=1) (E:=eB) (fun _=>rfl) (fun _=>q6) (by kernel_rfl) ?_;obtain⟨x7,q7,q5⟩:=oY0 q5;refine SZ 1 (E:=eB) (xs:=x6) 36 (by kernel_rfl) fun hle1=> ?_;refine gjU 1 (fun(_:Unit)=>⟨[(2,.d (.i x5)),(5,.d (.i (w64 (x1.toNat:Int)))),(6,.d (.i x2))],[],[],0⟩) (fun _=>True) (by kernel_rfl) (fun Jp bk1=> ?_) fun _ _=> ?_
  ·refine gjU 1 (fun(_:Unit)=>⟨[(2,.d (.i x7)),(5,.d (.i (w64 (x1.toNat:Int)))),(6,.d (.i x2))],[],[],0⟩) (fun _=>True) (by kernel_rfl) (fun Jp bk2=> ?_) fun _ _=> ?_
   ·refine gl hd (fun(p:Int×(Int))=>let (p0,p_0):=p; ⟨[(2,.d (.i p_0)),(5,.d (.i (w64 (x1.toNat:Int)))),(6,.d (.i x2)),(36,sl eB x6),(37,.d (.i (x6.length:Int))),(38,.d (.i p0))],[],[],0⟩) (fun p=> ∃i:Nat,p.1=(i:Int)∧i≤x6.length∧EE Cd (x6.drop i) (i:Int) p.2=some x7) (fun p=>x6.length-p.1.toNat) (0,0) ⟨0,rfl,Nat.zero_le _,q7⟩ (by kernel_rfl) ?_;rintro⟨_,s1⟩ ⟨i1,rfl,hi,q8⟩ Jl bl1;refine gi' (b:=decide ((i1:Int)<(x6.length:Int))) (by kernel_rfl) (fun hc5=> ?_) fun hc5=> ?_
    ·have hlt1:i1<x6.length:=by have:=of_decide_eq_true hc5; omega
     obtain⟨x8,y1,q11,q10,q9⟩:=IU q8 hlt1;unfold Cd at q10;refine Gx (k:=1) (E:=eB) (fun _=>rfl) (fun _=>q11) (by kernel_rfl) ?_;have q10:=A4 q10;let x9:Int:=((Ks (FJ s1 8) (w64 (x8.toNat:Int))));have e0:=sI0 q10;subst e0;exact gb bl1 hd (w64 ((i1:Int)+1),x9) ⟨⟨i1+1,Cn hlt1 hle1,by omega,q9⟩,Jj hlt1 hle1⟩ (by kernel_rfl)
    have hlt1: ¬i1<x6.length:=by have:=of_decide_eq_false hc5; omega
    have e:=Eq.symm (HL q8 hlt1);subst e;exact gb bk2 hd () trivial (by kernel_rfl)
   have e0:=sI0 q5;subst e0;exact gb bk1 hd () trivial (by kernel_rfl)
  refine gi hm (by kernel_rfl) (fun hc6 hm=> ?_) fun hc6 hm=> ?_
  ·skip;have e0:=sI0 hm;subst e0;exact Au hd (by kernel_rfl)
  have e0:=sI0 hm;subst e0;exact Au hd (by kernel_rfl)
def QW (rF:(List UInt8)→Int→Option (g_api_Item×(List UInt8)×Int)):Prop:= ∀{a0:List UInt8} {a1:Int} {r:g_api_Item×(List UInt8)×Int},rF a0 a1=some r→Sf prog 108 [sl eB a0,.d (.i a1)] (.tup [ag (Aa r.1),sl eB r.2.1,.d (.i r.2.2)])
def BR (rF:(List UInt8)→Int→Option (g_api_Item×(List UInt8)×Int))(a1:Int)(s1:(List UInt8)×(List UInt8)×(List g_api_Item)):Option (((List UInt8)×(List UInt8)×(List g_api_Item))⊕(((List UInt8)×(List g_api_Item))⊕(g_api_Item×(List UInt8)×Int))):=if(decide ((s1.2.1.length:Int)>0))=true then Ab (rF s1.2.1 (w64 (a1-1))) fun x12=>if(x12.2.2 !=0)=true then some (.inr (.inr ((⟨0,[],[]⟩:g_api_Item),([]:List UInt8),71)))else Ab (app 56 s1.2.2 ([x12.1]:List g_api_Item)) fun x13=>some (.inl (s1.1,x12.2.1,x13))else some (.inr (.inl (s1.1,s1.2.2)))
def Du (rF:(List UInt8)→Int→Option (g_api_Item×(List UInt8)×Int))(a0:List UInt8)(a1:Int):Option (g_api_Item×(List UInt8)×Int):=if((a0.length:Int)==0)=true then some ((⟨0,[],[]⟩:g_api_Item),([]:List UInt8),70)else Ab (idx a0 0) fun x1=>Ab (E0 (w64 (x1.toNat:Int))) fun x2=>if((!x2.2)||(decide (a1<1)))=true then some ((⟨0,[],[]⟩:g_api_Item),([]:List UInt8),71)else Ab (cut a0 1 (a0.length:Int)) fun x3=>Ab (AL x3) fun x4=>if(x4.2.2 !=0)=true then some ((⟨0,[],[]⟩:g_api_Item),([]:List UInt8),x4.2.2)else if(decide ((w64 ((w64 (1+x4.2.1))+x4.1))>8192))=true then some ((⟨0,[],[]⟩:g_api_Item),([]:List UInt8),71)else Ab (cut a0 (w64 (1+x4.2.1)) (a0.length:Int)) fun x5=>if(decide (x4.1>(x5.length:Int)))=true then some ((⟨0,[],[]⟩:g_api_Item),([]:List UInt8),70)else Ab (cut x5 0 x4.1) fun x6=>Ab (cut x5 x4.1 (x5.length:Int)) fun x7=>if(x2.1.tag_ !=48)=true then Ab (JW x2.1.may_ x6) fun x8=>if(!x8)=true then some ((⟨0,[],[]⟩:g_api_Item),([]:List UInt8),71)else Ab (AR x6) fun x9=>some ((⟨x2.1.tag_,x9,[]⟩:g_api_Item),x7,0)else Ab (iter ((BR rF) a1) Bv (x7,x6,([]:List g_api_Item))) fun x10=>match x10 with| .inr r=>some r| .inl y1=>some ((⟨x2.1.tag_,[],y1.2⟩:g_api_Item),y1.1,0)
theorem Q9 {rF:(List UInt8)→Int→Option (g_api_Item×(List UInt8)×Int)}(hF:QW rF){a0:List UInt8}{a1:Int}{r:g_api_Item×(List UInt8)×Int}(hm:Du rF a0 a1=some r):Sf prog 108 [sl eB a0,.d (.i a1)] (.tup [ag (Aa r.1),sl eB r.2.1,.d (.i r.2.2)]):=
 sp call108 func108 rfl ntmps108 rfl fun D0 As η0 m0 hd=>by
  unfold Du at hm;refine gi hm (by kernel_rfl) (fun hc1 hm=> ?_) fun hc1 hm=> ?_
  ·skip;have e0:=sI0 hm;subst e0;exact Au hd (by kernel_rfl)
  obtain⟨x1,q1,hm⟩:=oY0 hm;refine Gx (k:=1) (E:=eB) (fun _=>rfl) (fun _=>q1) (by kernel_rfl) ?_;obtain⟨x2,q2,hm⟩:=oY0 hm;refine gc (fun _=>NB q2) (by kernel_rfl) ?_;refine gi hm (by kernel_rfl) (fun hc2 hm=> ?_) fun hc2 hm=> ?_
  ·skip;have e0:=sI0 hm;subst e0;exact Au hd (by kernel_rfl)
  obtain⟨x3,q3,hm⟩:=oY0 hm;refine Ta (k:=1) (E:=eB) (fun _=>rfl) (fun _=>q3) (by kernel_rfl) ?_;obtain⟨x4,q4,hm⟩:=oY0 hm;refine gc (fun _=>PX q4) (by kernel_rfl) ?_;refine gi hm (by kernel_rfl) (fun hc3 hm=> ?_) fun hc3 hm=> ?_
  ·skip;have e0:=sI0 hm;subst e0;exact Au hd (by kernel_rfl)
  refine gi hm (by kernel_rfl) (fun hc4 hm=> ?_) fun hc4 hm=> ?_
  ·skip;have e0:=sI0 hm;subst e0;exact Au hd (by kernel_rfl)
  obtain⟨x5,q5,hm⟩:=oY0 hm;refine Ta (k:=1) (E:=eB) (fun _=>rfl) (fun _=>q5) (by kernel_rfl) ?_;refine gi hm (by kernel_rfl) (fun hc5 hm=> ?_) fun hc5 hm=> ?_
  ·skip;have e0:=sI0 hm;subst e0;exact Au hd (by kernel_rfl)
  obtain⟨x6,q6,hm⟩:=oY0 hm;refine Ta (k:=1) (E:=eB) (fun _=>rfl) (fun _=>q6) (by kernel_rfl) ?_;obtain⟨x7,q7,hm⟩:=oY0 hm;refine Ta (k:=1) (E:=eB) (fun _=>rfl) (fun _=>q7) (by kernel_rfl) ?_;refine gi hm (by kernel_rfl) (fun hc6 hm=> ?_) fun hc6 hm=> ?_
  ·skip;obtain⟨x8,q8,hm⟩:=oY0 hm;refine gdyn (fun _=>Sd q8) (by kernel_rfl) ?_;refine gi hm (by kernel_rfl) (fun hc7 hm=> ?_) fun hc7 hm=> ?_
   ·skip;have e0:=sI0 hm;subst e0;exact Au hd (by kernel_rfl)
   obtain⟨x9,q9,hm⟩:=oY0 hm;refine gco (EX q9) (by kernel_rfl) ?_;have e0:=sI0 hm;subst e0;exact Au hd (by kernel_rfl)
  obtain⟨x10,q10,hm⟩:=oY0 hm;refine NV 0 Aa 4 2 3 (by kernel_rfl) ?_;refine gjU 0 (fun(y1:(List UInt8)×(List g_api_Item))=>let (y_0,y_1):=y1; ⟨[(4,.pb 0 0),(5,sl eB y_0),(7,.pb 1 0)],[(0,.row 2 3 _ Aa y_1),(1,.box 1 [.d (.i x2.1.tag_),.d (.v (fnV x2.1.may_))] 120),(2,.box 0 [.d (.i x2.1.tag_),sl eB [],.ow 2] 56)],[],3⟩) (fun y1=>x10= .inl y1) (by kernel_rfl) (fun Jp bk1=> ?_) fun y1 hy=> ?_
  ·refine gl hd (fun(p:Nat×((List UInt8)×(List UInt8)×(List g_api_Item)))=>let (p0,p_0,p_1,p_2):=p; ⟨[(1,.d (.i a1)),(4,.pb 0 0),(5,sl eB p_0),(11,sl eB p_1),(7,.pb 1 0)],[(0,.row 2 3 _ Aa p_2),(1,.box 1 [.d (.i x2.1.tag_),.d (.v (fnV x2.1.may_))] 120),(2,.box 0 [.d (.i x2.1.tag_),sl eB [],.ow 2] 56)],[],3⟩) (fun p=>iter ((BR rF) a1) p.1 p.2=some x10) (fun p=>p.1) (Bv,(x7,x6,([]:List g_api_Item))) q10 (by kernel_rfl) ?_;rintro⟨n1,s1⟩ q11 Jl bl1;cases n1 with
   |zero=>exact(AT q11).elim
   |succ n1=>
    obtain⟨y2,q13,q12⟩:=AO q11;unfold BR at q13;refine gi q13 (by kernel_rfl) (fun hc8 q13=> ?_) fun hc8 q13=> ?_
    ·skip;obtain⟨x12,q15,q13⟩:=oY0 q13;refine gc (fun _=>hF q15) (by kernel_rfl) ?_;refine gi q13 (by kernel_rfl) (fun hc9 q13=> ?_) fun hc9 q13=> ?_
     ·skip;cases q13;rcases q12 with ⟨sn,e,_⟩|e
      ·cases e
      cases e;dsimp only at hm;have e0:=sI0 hm;subst e0;exact Au hd (by kernel_rfl)
     refine ET (k:=3) Aa ([x12.1]:List g_api_Item) (fun _=>rfl) (by kernel_rfl) ?_;obtain⟨x13,q16,q13⟩:=oY0 q13;refine Jv (k:=3) (E:=Aa) (fun _=>rfl) q16 (by kernel_rfl) ?_;have e0:=sI0 q13;subst e0;rcases q12 with ⟨sn,e,q12'⟩|e
     ·have e:=Sum.inl.inj e;subst e;exact gb bl1 hd (n1,_) ⟨q12',Nat.lt_succ_self _⟩ (by kernel_rfl)
     cases Cb e
    have e0:=sI0 q13;subst e0;rcases q12 with ⟨sn,e,_⟩|e
    ·cases CQ e
    have e:=Sum.inr.inj e;subst e;exact gb bk1 hd (s1.1,s1.2.2) rfl (by kernel_rfl)
  subst hy;dsimp only at hm;have e0:=sI0 hm;subst e0;exact Au hd (by kernel_rfl)
def CG:Nat→(List UInt8)→Int→Option (g_api_Item×(List UInt8)×Int)
 |0,_,_=>none
 |n+1,a0,a1=>Du (CG n) a0 a1
def JX (a0:List UInt8)(a1:Int):Option (g_api_Item×(List UInt8)×Int):=CG Bv a0 a1
theorem Ny: ∀n,QW (CG n)
 |0=>fun hm=>by cases hm
 |n+1=>fun hm=>Q9 (Ny n) hm
theorem Um {a0:List UInt8}{a1:Int}{r:g_api_Item×(List UInt8)×Int}(hm:JX a0 a1=some r):Sf prog 108 [sl eB a0,.d (.i a1)] (.tup [ag (Aa r.1),sl eB r.2.1,.d (.i r.2.2)]):=Ny Bv hm
def Eb (a0:List UInt8)(a1:Int):Option (g_api_Item×Int×Int):=if((decide (a1<0))||(decide (a1>(a0.length:Int))))=true then some ((⟨0,[],[]⟩:g_api_Item),0,1)else Ab (cut a0 a1 (a0.length:Int)) fun x1=>Ab (JX x1 8) fun x2=>if(x2.2.2 !=0)=true then some ((⟨0,[],[]⟩:g_api_Item),0,x2.2.2)else bnd ((w64 ((a0.length:Int)-(x2.2.1.length:Int)))) fun x3=>some (x2.1,x3,0)
theorem LX {a0:List UInt8}{a1:Int}{r:g_api_Item×Int×Int}(hm:Eb a0 a1=some r):Sf prog 58 [sl eB a0,.d (.i a1)] (.tup [ag (Aa r.1),.d (.i r.2.1),.d (.i r.2.2)]):=
 sp call58 func58 rfl ntmps58 rfl fun D0 As η0 m0 hd=>by
  unfold Eb at hm;refine gi hm (by kernel_rfl) (fun hc1 hm=> ?_) fun hc1 hm=> ?_
  ·skip;have e0:=sI0 hm;subst e0;exact Au hd (by kernel_rfl)
  obtain⟨x1,q1,hm⟩:=oY0 hm;refine Ta (k:=1) (E:=eB) (fun _=>rfl) (fun _=>q1) (by kernel_rfl) ?_;obtain⟨x2,q2,hm⟩:=oY0 hm;refine gc (fun _=>Um q2) (by kernel_rfl) ?_;refine gi hm (by kernel_rfl) (fun hc2 hm=> ?_) fun hc2 hm=> ?_
  ·skip;have e0:=sI0 hm;subst e0;exact Au hd (by kernel_rfl)
  have hm:=A4 hm;let x3:Int:=((w64 ((a0.length:Int)-(x2.2.1.length:Int))));have e0:=sI0 hm;subst e0;exact Au hd (by kernel_rfl)
def Mx:Value:= .iface 90 (.agg #[])
def AN (a0:Bool):Option (Option Unit):=some (if a0=true then some ()else none)
theorem Ar {a0:Bool}{r:Option Unit}(hm:AN a0=some r):Sb prog 92 [.d (.t a0)] [] 0 Mx (Pos r (fun r=> .tup []) (fun r=> []) 0) (r=none):=
 sb call92 func92 rfl ntmps92 rfl fun D0 As η0 m0 hd=>by
  have e0:=sI0 hm;subst e0;refine gi' (b:= !a0) (by kernel_rfl) (fun hc=> ?_) fun hc=> ?_
  ·cases a0 with
   |true=>cases hc
   |false=>exact gthrow (by kernel_rfl) (by kernel_rfl)
  ·cases a0 with
   |true=>exact J4 hd (by kernel_rfl)
   |false=>cases hc
def GJ (a0:g_api_Item):Option (List g_api_Item):=Ab (Aw a0.L) fun x1=>some x1
theorem Ox {a0:g_api_Item}{r:List g_api_Item}(hm:GJ a0=some r):Sp prog 168 [ag (Aa a0)] [] 0 (is (.ow 0) [.row 0 3 _ Aa r] 1):=
 sp call168 func168 rfl ntmps168 rfl fun D0 As η0 m0 hd=>by
  unfold GJ at hm;obtain⟨x1,q1,hm⟩:=oY0 hm;refine gco (C4 q1) (by kernel_rfl) ?_;have e0:=sI0 hm;subst e0;exact Au hd (by kernel_rfl)
def CJ (a0:g_api_Item)(a1:Int):Option ((List g_api_Item)×Int):=if(a0.Tag !=a1)=true then some (([]:List g_api_Item),72)else Ab (G4 a0 8) fun x1=>if(!x1)=true then some (([]:List g_api_Item),71)else Ab (GJ a0) fun x2=>some (x2,0)
theorem Ih {a0:g_api_Item}{a1:Int}{r:(List g_api_Item)×Int}(hm:CJ a0 a1=some r):Sp prog 167 [ag (Aa a0),.d (.i a1),.fn (.func 168) [] []] [] 0 (is (.tup [.ow 0,.d (.i r.2)]) [.row 0 3 _ Aa r.1] 1):=
 sp call167 func167 rfl ntmps167 rfl fun D0 As η0 m0 hd=>by
  unfold CJ at hm;refine gi hm (by kernel_rfl) (fun hc1 hm=> ?_) fun hc1 hm=> ?_
  ·skip;refine WK Aa 6 3 (by kernel_rfl) ?_;have e0:=sI0 hm;subst e0;exact Au hd (by kernel_rfl)
  obtain⟨x1,q1,hm⟩:=oY0 hm;refine gc (fun _=>Ip q1) (by kernel_rfl) ?_;refine gi hm (by kernel_rfl) (fun hc2 hm=> ?_) fun hc2 hm=> ?_
  ·skip;refine WK Aa 6 3 (by kernel_rfl) ?_;have e0:=sI0 hm;subst e0;exact Au hd (by kernel_rfl)
  obtain⟨x2,q2,hm⟩:=oY0 hm;refine gco (Ox q2) (by kernel_rfl) ?_;have e0:=sI0 hm;subst e0;exact Au hd (by kernel_rfl)
def ER (a0:g_api_Item):Option ((List g_api_Item)×Int):=Ab (CJ a0 48) fun x1=>some (x1.1,x1.2)
theorem LY {a0:g_api_Item}{r:(List g_api_Item)×Int}(hm:ER a0=some r):Sp prog 132 [ag (Aa a0)] [] 0 (is (.tup [.ow 0,.d (.i r.2)]) [.row 0 3 _ Aa r.1] 1):=
 sp call132 func132 rfl ntmps132 rfl fun D0 As η0 m0 hd=>by
  unfold ER at hm;obtain⟨x1,q1,hm⟩:=oY0 hm;refine gco (Ih q1) (by kernel_rfl) ?_;have e0:=sI0 hm;subst e0;exact Au hd (by kernel_rfl)
def ED (a0:g_api_Item):Option (Option Ae):=Ab (ER a0) fun x1=>Ab (AN (x1.2==0)) fun y1=>match y1 with|none=>some none|some x2=>some (some (⟨x1.1⟩:Ae))
theorem Hz {a0:g_api_Item}{r:Option Ae}(hm:ED a0=some r):Sb prog 93 [ag (Aa a0)] [] 0 Mx (Pos r (fun r=> .pb 0 0) (fun r=> [.box 0 [.d (.sl _ Aa r.l_)] 100]) 1) (r=none):=
 sb call93 func93 rfl ntmps93 rfl fun D0 As η0 m0 hd=>by
  unfold ED at hm;obtain⟨x1,q1,hm⟩:=oY0 hm;refine gco (LY q1) (by kernel_rfl) ?_;obtain⟨y1,q2,hm⟩:=oY0 hm;rcases y1 with _|x2
  ·dsimp only at hm;have e0:=sI0 hm;subst e0;exact HO (Ar q2) (by kernel_rfl)
  dsimp only at hm;refine gc (fun _=>(Ar q2).sp) (by kernel_rfl) ?_;have e0:=sI0 hm;subst e0;exact J4 hd (by kernel_rfl)
def Cv (i1:Int)(x5:UInt8)(s1:Int):Option (Int):=bnd ((Ks (FJ s1 8) (w64 (x5.toNat:Int)))) fun x6=>some x6
def Ft (a0:g_api_Item):Option Int:=Ab (idx a0.B 0) fun x1=>Ab (Ab (cut a0.B 1 (a0.B.length:Int)) fun x3=>Ab (EE Cv x3 0 (w64 (w8 (x1.toNat:Int)))) fun x4=>some x4) fun x2=>some x2
theorem Oy {a0:g_api_Item}{r:Int}(hm:Ft a0=some r):Sf prog 175 [ag (Aa a0)] (.d (.i r)):=
 sp call175 func175 rfl ntmps175 rfl fun D0 As η0 m0 hd=>by
  unfold Ft at hm;obtain⟨x1,q1,hm⟩:=oY0 hm;refine Gx (k:=1) (E:=eB) (fun _=>rfl) (fun _=>q1) (by kernel_rfl) ?_;obtain⟨x2,q2,hm⟩:=oY0 hm;obtain⟨x3,q3,q2⟩:=oY0 q2;refine Ta (k:=1) (E:=eB) (fun _=>rfl) (fun _=>q3) (by kernel_rfl) ?_;obtain⟨x4,q4,q2⟩:=oY0 q2;refine SZ 0 (E:=eB) (xs:=x3) 14 (by kernel_rfl) fun hle1=> ?_;refine gjU 0 (fun(_:Unit)=>⟨[(3,.d (.i x2)),(1,.pb 0 0)],[(0,.box 0 [.d (.i a0.Tag),sl eB a0.B,sl Aa a0.L] 56)],[],1⟩) (fun _=>True) (by kernel_rfl) (fun Jp bk1=> ?_) fun _ _=> ?_
  ·refine gjU 0 (fun(_:Unit)=>⟨[(3,.d (.i x4)),(1,.pb 0 0)],[(0,.box 0 [.d (.i a0.Tag),sl eB a0.B,sl Aa a0.L] 56)],[],1⟩) (fun _=>True) (by kernel_rfl) (fun Jp bk2=> ?_) fun _ _=> ?_
   ·refine gl hd (fun(p:Int×(Int))=>let (p0,p_0):=p; ⟨[(3,.d (.i p_0)),(14,sl eB x3),(15,.d (.i (x3.length:Int))),(16,.d (.i p0)),(1,.pb 0 0)],[(0,.box 0 [.d (.i a0.Tag),sl eB a0.B,sl Aa a0.L] 56)],[],1⟩) (fun p=> ∃i:Nat,p.1=(i:Int)∧i≤x3.length∧EE Cv (x3.drop i) (i:Int) p.2=some x4) (fun p=>x3.length-p.1.toNat) (0,(w64 (w8 (x1.toNat:Int)))) ⟨0,rfl,Nat.zero_le _,q4⟩ (by kernel_rfl) ?_;rintro⟨_,s1⟩ ⟨i1,rfl,hi,q5⟩ Jl bl1;refine gi' (b:=decide ((i1:Int)<(x3.length:Int))) (by kernel_rfl) (fun hc1=> ?_) fun hc1=> ?_
    ·have hlt1:i1<x3.length:=by have:=of_decide_eq_true hc1; omega
     obtain⟨x5,y1,q8,q7,q6⟩:=IU q5 hlt1;unfold Cv at q7;refine Gx (k:=1) (E:=eB) (fun _=>rfl) (fun _=>q8) (by kernel_rfl) ?_;have q7:=A4 q7;let x6:Int:=((Ks (FJ s1 8) (w64 (x5.toNat:Int))));have e0:=sI0 q7;subst e0;exact gb bl1 hd (w64 ((i1:Int)+1),x6) ⟨⟨i1+1,Cn hlt1 hle1,by omega,q6⟩,Jj hlt1 hle1⟩ (by kernel_rfl)
    have hlt1: ¬i1<x3.length:=by have:=of_decide_eq_false hc1; omega
    have e:=Eq.symm (HL q5 hlt1);subst e;exact gb bk2 hd () trivial (by kernel_rfl)
   have e0:=sI0 q2;subst e0;exact gb bk1 hd () trivial (by kernel_rfl)
  have e0:=sI0 hm;subst e0;exact Au hd (by kernel_rfl)
def Em (a0:g_api_Item)(a1:Int):Option (Int×Int):=if(a0.Tag !=a1)=true then some (0,72)else Ab (G4 a0 8) fun x1=>if(!x1)=true then some (0,71)else Ab (Ft a0) fun x2=>some (x2,0)
theorem Ki {a0:g_api_Item}{a1:Int}{r:Int×Int}(hm:Em a0 a1=some r):Sf prog 174 [ag (Aa a0),.d (.i a1),.fn (.func 175) [] []] (.tup [.d (.i r.1),.d (.i r.2)]):=
 sp call174 func174 rfl ntmps174 rfl fun D0 As η0 m0 hd=>by
  unfold Em at hm;refine gi hm (by kernel_rfl) (fun hc1 hm=> ?_) fun hc1 hm=> ?_
  ·skip;have e0:=sI0 hm;subst e0;exact Au hd (by kernel_rfl)
  obtain⟨x1,q1,hm⟩:=oY0 hm;refine gc (fun _=>Ip q1) (by kernel_rfl) ?_;refine gi hm (by kernel_rfl) (fun hc2 hm=> ?_) fun hc2 hm=> ?_
  ·skip;have e0:=sI0 hm;subst e0;exact Au hd (by kernel_rfl)
  obtain⟨x2,q2,hm⟩:=oY0 hm;refine gc (fun _=>Oy q2) (by kernel_rfl) ?_;have e0:=sI0 hm;subst e0;exact Au hd (by kernel_rfl)
def FO (a0:g_api_Item):Option (Int×Int):=Ab (Em a0 2) fun x1=>some (x1.1,x1.2)
theorem Ra {a0:g_api_Item}{r:Int×Int}(hm:FO a0=some r):Sf prog 143 [ag (Aa a0)] (.tup [.d (.i r.1),.d (.i r.2)]):=
 sp call143 func143 rfl ntmps143 rfl fun D0 As η0 m0 hd=>by
  unfold FO at hm;obtain⟨x1,q1,hm⟩:=oY0 hm;refine gc (fun _=>Ki q1) (by kernel_rfl) ?_;have e0:=sI0 hm;subst e0;exact Au hd (by kernel_rfl)
def Cx (a0:Ae):Option (Option (Int×Ae)):=
 Ab (AN (decide ((a0.l_.length:Int)>0))) fun y1=>match y1 with
 |none=>some none
 |some x1=>
 Ab (idx a0.l_ 0) fun x2=>
 Ab (FO x2) fun x3=>
 Ab (AN (x3.2==0)) fun y2=>match y2 with
 |none=>some none
 |some x4=>
 Ab (cut a0.l_ 1 (a0.l_.length:Int)) fun x5=>
 some (some (x3.1,(⟨x5⟩:Ae)))
theorem Gz {a0:Ae}{r:Option (Int×Ae)}(hm:Cx a0=some r):Sb prog 142 [.pb 0 0,.fn (.func 143) [] []] [.box 0 [sl Aa a0.l_] 100] 1 Mx (Pos r (fun r=> .d (.i r.1)) (fun r=> [.box 0 [.d (.sl _ Aa r.2.l_)] 100]) 1) (r=none):=
 sb call142 func142 rfl ntmps142 rfl fun D0 As η0 m0 hd=>by
  unfold Cx at hm;obtain⟨y1,q1,hm⟩:=oY0 hm;rcases y1 with _|x1
  ·dsimp only at hm;have e0:=sI0 hm;subst e0;exact HO (Ar q1) (by kernel_rfl)
  dsimp only at hm;refine gc (fun _=>(Ar q1).sp) (by kernel_rfl) ?_;obtain⟨x2,q2,hm⟩:=oY0 hm;refine Gx (k:=3) (E:=Aa) (fun _=>rfl) (fun _=>q2) (by kernel_rfl) ?_;obtain⟨x3,q3,hm⟩:=oY0 hm;refine gc (fun _=>Ra q3) (by kernel_rfl) ?_;obtain⟨y2,q4,hm⟩:=oY0 hm;rcases y2 with _|x4
  ·dsimp only at hm;have e0:=sI0 hm;subst e0;exact HO (Ar q4) (by kernel_rfl)
  dsimp only at hm;refine gc (fun _=>(Ar q4).sp) (by kernel_rfl) ?_;obtain⟨x5,q5,hm⟩:=oY0 hm;refine Ta (k:=3) (E:=Aa) (fun _=>rfl) (fun _=>q5) (by kernel_rfl) ?_;have e0:=sI0 hm;subst e0;exact J4 hd (by kernel_rfl)
def AH (a0:Ae):Option (Option (Int×Ae)):=
 Ab (Cx a0) fun y1=>match y1 with
 |none=>some none
 |some x1=>
 Ab (AN (decide (x1.1≥0))) fun y2=>match y2 with
 |none=>some none
 |some x2=>
 some (some (x1.1,x1.2))
theorem AD {a0:Ae}{r:Option (Int×Ae)}(hm:AH a0=some r):Sb prog 102 [.pb 0 0] [.box 0 [sl Aa a0.l_] 100] 1 Mx (Pos r (fun r=> .d (.i r.1)) (fun r=> [.box 0 [.d (.sl _ Aa r.2.l_)] 100]) 1) (r=none):=
 sb call102 func102 rfl ntmps102 rfl fun D0 As η0 m0 hd=>by
  unfold AH at hm;obtain⟨y1,q1,hm⟩:=oY0 hm;rcases y1 with _|x1
  ·dsimp only at hm;have e0:=sI0 hm;subst e0;exact HO (Gz q1) (by kernel_rfl)
  dsimp only at hm;refine gco (Gz q1).sp (by kernel_rfl) ?_;obtain⟨y2,q2,hm⟩:=oY0 hm;rcases y2 with _|x2
  ·dsimp only at hm;have e0:=sI0 hm;subst e0;exact HO (Ar q2) (by kernel_rfl)
  dsimp only at hm;refine gc (fun _=>(Ar q2).sp) (by kernel_rfl) ?_;have e0:=sI0 hm;subst e0;exact J4 hd (by kernel_rfl)
def AC (a0:Ae):Option (Option (UInt64×Ae)):=Ab (AH a0) fun y1=>match y1 with|none=>some none|some x1=>some (some ((toU x1.1),x1.2))
theorem AQ {a0:Ae}{r:Option (UInt64×Ae)}(hm:AC a0=some r):Sb prog 95 [.pb 0 0] [.box 0 [sl Aa a0.l_] 100] 1 Mx (Pos r (fun r=> .d (.u r.1)) (fun r=> [.box 0 [.d (.sl _ Aa r.2.l_)] 100]) 1) (r=none):=
 sb call95 func95 rfl ntmps95 rfl fun D0 As η0 m0 hd=>by
  unfold AC at hm;obtain⟨y1,q1,hm⟩:=oY0 hm;rcases y1 with _|x1
  ·dsimp only at hm;have e0:=sI0 hm;subst e0;exact HO (AD q1) (by kernel_rfl)
  dsimp only at hm;refine gco (AD q1).sp (by kernel_rfl) ?_;have e0:=sI0 hm;subst e0;exact J4 hd (by kernel_rfl)
def A2 (a0:Ae):Option (Option Ae):=Ab (AN ((a0.l_.length:Int)==0)) fun y1=>match y1 with|none=>some none|some x1=>some (some a0)
theorem Bx {a0:Ae}{r:Option Ae}(hm:A2 a0=some r):Sb prog 96 [.pb 0 0] [.box 0 [sl Aa a0.l_] 100] 1 Mx (Pos r (fun r=> .tup []) (fun r=> [.box 0 [.d (.sl _ Aa r.l_)] 100]) 1) (r=none):=
 sb call96 func96 rfl ntmps96 rfl fun D0 As η0 m0 hd=>by
  unfold A2 at hm;obtain⟨y1,q1,hm⟩:=oY0 hm;rcases y1 with _|x1
  ·dsimp only at hm;have e0:=sI0 hm;subst e0;exact HO (Ar q1) (by kernel_rfl)
  dsimp only at hm;refine gc (fun _=>(Ar q1).sp) (by kernel_rfl) ?_;have e0:=sI0 hm;subst e0;exact J4 hd (by kernel_rfl)
def Ho (a0:g_api_Item):Option ByteArray:=some (bs a0.B)
theorem Nc {a0:g_api_Item}{r:ByteArray}(hm:Ho a0=some r):Sf prog 145 [ag (Aa a0)] (.d (.s r)):=
 sp call145 func145 rfl ntmps145 rfl fun D0 As η0 m0 hd=>by
  unfold Ho at hm;refine gbs (xs:=a0.B) (by kernel_rfl) ?_;have e0:=sI0 hm;subst e0;exact Au hd (by kernel_rfl)
def Db (a0:g_api_Item)(a1:Int):Option (ByteArray×Int):=if(a0.Tag !=a1)=true then some ((⟨#[]⟩:ByteArray),72)else Ab (G4 a0 8) fun x1=>if(!x1)=true then some ((⟨#[]⟩:ByteArray),71)else Ab (Ho a0) fun x2=>some (x2,0)
theorem IY {a0:g_api_Item}{a1:Int}{r:ByteArray×Int}(hm:Db a0 a1=some r):Sf prog 144 [ag (Aa a0),.d (.i a1),.fn (.func 145) [] []] (.tup [.d (.s r.1),.d (.i r.2)]):=
 sp call144 func144 rfl ntmps144 rfl fun D0 As η0 m0 hd=>by
  unfold Db at hm;refine gi hm (by kernel_rfl) (fun hc1 hm=> ?_) fun hc1 hm=> ?_
  ·skip;have e0:=sI0 hm;subst e0;exact Au hd (by kernel_rfl)
  obtain⟨x1,q1,hm⟩:=oY0 hm;refine gc (fun _=>Ip q1) (by kernel_rfl) ?_;refine gi hm (by kernel_rfl) (fun hc2 hm=> ?_) fun hc2 hm=> ?_
  ·skip;have e0:=sI0 hm;subst e0;exact Au hd (by kernel_rfl)
  obtain⟨x2,q2,hm⟩:=oY0 hm;refine gc (fun _=>Nc q2) (by kernel_rfl) ?_;have e0:=sI0 hm;subst e0;exact Au hd (by kernel_rfl)
def E1 (a0:g_api_Item):Option (ByteArray×Int):=Ab (Db a0 12) fun x1=>some (x1.1,x1.2)
theorem PZ {a0:g_api_Item}{r:ByteArray×Int}(hm:E1 a0=some r):Sf prog 104 [ag (Aa a0)] (.tup [.d (.s r.1),.d (.i r.2)]):=
 sp call104 func104 rfl ntmps104 rfl fun D0 As η0 m0 hd=>by
  unfold E1 at hm;obtain⟨x1,q1,hm⟩:=oY0 hm;refine gc (fun _=>IY q1) (by kernel_rfl) ?_;have e0:=sI0 hm;subst e0;exact Au hd (by kernel_rfl)
def B2 (a0:Ae):Option (Option ((List g_api_Item)×Ae)):=
 Ab (AN (decide ((a0.l_.length:Int)>0))) fun y1=>match y1 with
 |none=>some none
 |some x1=>
 Ab (idx a0.l_ 0) fun x2=>
 Ab (ER x2) fun x3=>
 Ab (AN (x3.2==0)) fun y2=>match y2 with
 |none=>some none
 |some x4=>
 Ab (cut a0.l_ 1 (a0.l_.length:Int)) fun x5=>
 some (some (x3.1,(⟨x5⟩:Ae)))
theorem Ex {a0:Ae}{r:Option ((List g_api_Item)×Ae)}(hm:B2 a0=some r):Sb prog 133 [.pb 0 0,.fn (.func 132) [] []] [.box 0 [sl Aa a0.l_] 100] 1 Mx (Pos r (fun r=> .ow 1) (fun r=> [.box 0 [.d (.sl _ Aa r.2.l_)] 100,.row 1 3 _ Aa r.1]) 2) (r=none):=
 sb call133 func133 rfl ntmps133 rfl fun D0 As η0 m0 hd=>by
  unfold B2 at hm;obtain⟨y1,q1,hm⟩:=oY0 hm;rcases y1 with _|x1
  ·dsimp only at hm;have e0:=sI0 hm;subst e0;exact HO (Ar q1) (by kernel_rfl)
  dsimp only at hm;refine gc (fun _=>(Ar q1).sp) (by kernel_rfl) ?_;obtain⟨x2,q2,hm⟩:=oY0 hm;refine Gx (k:=3) (E:=Aa) (fun _=>rfl) (fun _=>q2) (by kernel_rfl) ?_;obtain⟨x3,q3,hm⟩:=oY0 hm;refine gco (LY q3) (by kernel_rfl) ?_;obtain⟨y2,q4,hm⟩:=oY0 hm;rcases y2 with _|x4
  ·dsimp only at hm;have e0:=sI0 hm;subst e0;exact HO (Ar q4) (by kernel_rfl)
  dsimp only at hm;refine gc (fun _=>(Ar q4).sp) (by kernel_rfl) ?_;obtain⟨x5,q5,hm⟩:=oY0 hm;refine Ta (k:=3) (E:=Aa) (fun _=>rfl) (fun _=>q5) (by kernel_rfl) ?_;have e0:=sI0 hm;subst e0;exact J4 hd (by kernel_rfl)
def A1 (a0:Ae):Option (Option (Ae×Ae)):=Ab (B2 a0) fun y1=>match y1 with|none=>some none|some x1=>some (some ((⟨x1.1⟩:Ae),x1.2))
theorem A5 {a0:Ae}{r:Option (Ae×Ae)}(hm:A1 a0=some r):Sb prog 94 [.pb 0 0] [.box 0 [sl Aa a0.l_] 100] 1 Mx (Pos r (fun r=> .pb 1 0) (fun r=> [.box 0 [.d (.sl _ Aa r.2.l_)] 100,.box 1 [.d (.sl _ Aa r.1.l_)] 100]) 2) (r=none):=
 sb call94 func94 rfl ntmps94 rfl fun D0 As η0 m0 hd=>by
  unfold A1 at hm;obtain⟨y1,q1,hm⟩:=oY0 hm;rcases y1 with _|x1
  ·dsimp only at hm;have e0:=sI0 hm;subst e0;exact HO (Ex q1) (by kernel_rfl)
  dsimp only at hm;refine gco (Ex q1).sp (by kernel_rfl) ?_;have e0:=sI0 hm;subst e0;exact J4 hd (by kernel_rfl)
def AI (a0:Ae):Option (Option (ByteArray×Ae)):=
 Ab (AN (decide ((a0.l_.length:Int)>0))) fun y1=>match y1 with
 |none=>some none
 |some x1=>
 Ab (idx a0.l_ 0) fun x2=>
 Ab (E1 x2) fun x3=>
 Ab (AN (x3.2==0)) fun y2=>match y2 with
 |none=>some none
 |some x4=>
 Ab (cut a0.l_ 1 (a0.l_.length:Int)) fun x5=>
 some (some (x3.1,(⟨x5⟩:Ae)))
theorem BU {a0:Ae}{r:Option (ByteArray×Ae)}(hm:AI a0=some r):Sb prog 103 [.pb 0 0,.fn (.func 104) [] []] [.box 0 [sl Aa a0.l_] 100] 1 Mx (Pos r (fun r=> .d (.s r.1)) (fun r=> [.box 0 [.d (.sl _ Aa r.2.l_)] 100]) 1) (r=none):=
 sb call103 func103 rfl ntmps103 rfl fun D0 As η0 m0 hd=>by
  unfold AI at hm;obtain⟨y1,q1,hm⟩:=oY0 hm;rcases y1 with _|x1
  ·dsimp only at hm;have e0:=sI0 hm;subst e0;exact HO (Ar q1) (by kernel_rfl)
  dsimp only at hm;refine gc (fun _=>(Ar q1).sp) (by kernel_rfl) ?_;obtain⟨x2,q2,hm⟩:=oY0 hm;refine Gx (k:=3) (E:=Aa) (fun _=>rfl) (fun _=>q2) (by kernel_rfl) ?_;obtain⟨x3,q3,hm⟩:=oY0 hm;refine gc (fun _=>PZ q3) (by kernel_rfl) ?_;obtain⟨y2,q4,hm⟩:=oY0 hm;rcases y2 with _|x4
  ·dsimp only at hm;have e0:=sI0 hm;subst e0;exact HO (Ar q4) (by kernel_rfl)
  dsimp only at hm;refine gc (fun _=>(Ar q4).sp) (by kernel_rfl) ?_;obtain⟨x5,q5,hm⟩:=oY0 hm;refine Ta (k:=3) (E:=Aa) (fun _=>rfl) (fun _=>q5) (by kernel_rfl) ?_;have e0:=sI0 hm;subst e0;exact J4 hd (by kernel_rfl)
def AG (s1:(List ByteArray)×(List g_api_Item)):Option (((List ByteArray)×(List g_api_Item))⊕(((List ByteArray)×(List g_api_Item))⊕(Option ((List ByteArray)×Ae)))):=if(decide ((s1.2.length:Int)>0))=true then Ab (AI (⟨s1.2⟩:Ae)) fun y4=>match y4 with|none=>some (.inr (.inr none))|some x4=>Ab (app 16 s1.1 ([x4.1]:List ByteArray)) fun x5=>some (.inl (x5,x4.2.l_))else some (.inr (.inl (s1.1,s1.2)))
def Cm (a0:Ae):Option (Option ((List ByteArray)×Ae)):=
 Ab (A1 a0) fun y1=>match y1 with
 |none=>some none
 |some x1=>
 Ab (iter AG Bv (([]:List ByteArray),x1.1.l_)) fun x2=>match x2 with
 | .inr r=>some r
 | .inl y2=>
 some (some (y2.1,x1.2))
theorem Dp {a0:Ae}{r:Option ((List ByteArray)×Ae)}(hm:Cm a0=some r):Sb prog 105 [.pb 0 0] [.box 0 [sl Aa a0.l_] 100] 1 Mx (Pos r (fun r=> .ow 1) (fun r=> [.box 0 [.d (.sl _ Aa r.2.l_)] 100,.row 1 1 _ eS r.1]) 2) (r=none):=
 sb call105 func105 rfl ntmps105 rfl fun D0 As η0 m0 hd=>by
  unfold Cm at hm;obtain⟨y1,q1,hm⟩:=oY0 hm;rcases y1 with _|x1
  ·dsimp only at hm;have e0:=sI0 hm;subst e0;exact HO (A5 q1) (by kernel_rfl)
  dsimp only at hm;refine gco (A5 q1).sp (by kernel_rfl) ?_;obtain⟨x2,q2,hm⟩:=oY0 hm;refine VX 0 eS 3 1 (by kernel_rfl) ?_;refine gjU 0 (fun(y2:(List ByteArray)×(List g_api_Item))=>let (y_0,y_1):=y2; ⟨[(3,.ow 2),(6,.pb 1 0)],[(0,.row 2 1 _ eS y_0),(1,.box 1 [sl Aa y_1] 100),(2,.box 0 [sl Aa x1.2.l_] 100)],[],3⟩) (fun y2=>x2= .inl y2) (by kernel_rfl) (fun Jp bk1=> ?_) fun y2 hy=> ?_
  ·refine gl hd (fun(p:Nat×((List ByteArray)×(List g_api_Item)))=>let (p0,p_0,p_1):=p; ⟨[(3,.ow 2),(4,.pb 1 0),(6,.pb 1 0)],[(0,.row 2 1 _ eS p_0),(1,.box 1 [sl Aa p_1] 100),(2,.box 0 [sl Aa x1.2.l_] 100)],[],3⟩) (fun p=>iter AG p.1 p.2=some x2) (fun p=>p.1) (Bv,(([]:List ByteArray),x1.1.l_)) q2 (by kernel_rfl) ?_;rintro⟨n1,s1⟩ q3 Jl bl1;cases n1 with
   |zero=>exact(AT q3).elim
   |succ n1=>
    obtain⟨y3,q5,q4⟩:=AO q3;unfold AG at q5;refine gi q5 (by kernel_rfl) (fun hc1 q5=> ?_) fun hc1 q5=> ?_
    ·skip;obtain⟨y4,q7,q5⟩:=oY0 q5;rcases y4 with _|x4
     ·dsimp only at q5;cases q5;rcases q4 with ⟨sn,e,_⟩|e
      ·cases e
      cases e;dsimp only at hm;have e0:=sI0 hm;subst e0;exact HO (BU q7) (by kernel_rfl)
     dsimp only at q5;refine gco (BU q7).sp (by kernel_rfl) ?_;refine ET (k:=1) eS ([x4.1]:List ByteArray) (fun _=>rfl) (by kernel_rfl) ?_;obtain⟨x5,q8,q5⟩:=oY0 q5;refine Jv (k:=1) (E:=eS) (fun _=>rfl) q8 (by kernel_rfl) ?_;have e0:=sI0 q5;subst e0;rcases q4 with ⟨sn,e,q4'⟩|e
     ·have e:=Sum.inl.inj e;subst e;exact gb bl1 hd (n1,_) ⟨q4',Nat.lt_succ_self _⟩ (by kernel_rfl)
     cases Cb e
    have e0:=sI0 q5;subst e0;rcases q4 with ⟨sn,e,_⟩|e
    ·cases CQ e
    have e:=Sum.inr.inj e;subst e;exact gb bk1 hd (s1.1,s1.2) rfl (by kernel_rfl)
  subst hy;dsimp only at hm;have e0:=sI0 hm;subst e0;exact J4 hd (by kernel_rfl)
def FZ (a0:g_api_Item):Option Bool:=Ab (idx a0.B 0) fun x1=>some ((x1.toNat:Int) !=0)
theorem Nf {a0:g_api_Item}{r:Bool}(hm:FZ a0=some r):Sf prog 147 [ag (Aa a0)] (.d (.t r)):=
 sp call147 func147 rfl ntmps147 rfl fun D0 As η0 m0 hd=>by
  unfold FZ at hm;obtain⟨x1,q1,hm⟩:=oY0 hm;refine Gx (k:=1) (E:=eB) (fun _=>rfl) (fun _=>q1) (by kernel_rfl) ?_;have e0:=sI0 hm;subst e0;exact Au hd (by kernel_rfl)
def DN (a0:g_api_Item)(a1:Int):Option (Bool×Int):=if(a0.Tag !=a1)=true then some (false,72)else Ab (G4 a0 8) fun x1=>if(!x1)=true then some (false,71)else Ab (FZ a0) fun x2=>some (x2,0)
theorem JI {a0:g_api_Item}{a1:Int}{r:Bool×Int}(hm:DN a0 a1=some r):Sf prog 146 [ag (Aa a0),.d (.i a1),.fn (.func 147) [] []] (.tup [.d (.t r.1),.d (.i r.2)]):=
 sp call146 func146 rfl ntmps146 rfl fun D0 As η0 m0 hd=>by
  unfold DN at hm;refine gi hm (by kernel_rfl) (fun hc1 hm=> ?_) fun hc1 hm=> ?_
  ·skip;have e0:=sI0 hm;subst e0;exact Au hd (by kernel_rfl)
  obtain⟨x1,q1,hm⟩:=oY0 hm;refine gc (fun _=>Ip q1) (by kernel_rfl) ?_;refine gi hm (by kernel_rfl) (fun hc2 hm=> ?_) fun hc2 hm=> ?_
  ·skip;have e0:=sI0 hm;subst e0;exact Au hd (by kernel_rfl)
  obtain⟨x2,q2,hm⟩:=oY0 hm;refine gc (fun _=>Nf q2) (by kernel_rfl) ?_;have e0:=sI0 hm;subst e0;exact Au hd (by kernel_rfl)
def E2 (a0:g_api_Item):Option (Bool×Int):=Ab (DN a0 1) fun x1=>some (x1.1,x1.2)
theorem P0 {a0:g_api_Item}{r:Bool×Int}(hm:E2 a0=some r):Sf prog 107 [ag (Aa a0)] (.tup [.d (.t r.1),.d (.i r.2)]):=
 sp call107 func107 rfl ntmps107 rfl fun D0 As η0 m0 hd=>by
  unfold E2 at hm;obtain⟨x1,q1,hm⟩:=oY0 hm;refine gc (fun _=>JI q1) (by kernel_rfl) ?_;have e0:=sI0 hm;subst e0;exact Au hd (by kernel_rfl)
def B6 (a0:Ae):Option (Option (Bool×Ae)):=
 Ab (AN (decide ((a0.l_.length:Int)>0))) fun y1=>match y1 with
 |none=>some none
 |some x1=>
 Ab (idx a0.l_ 0) fun x2=>
 Ab (E2 x2) fun x3=>
 Ab (AN (x3.2==0)) fun y2=>match y2 with
 |none=>some none
 |some x4=>
 Ab (cut a0.l_ 1 (a0.l_.length:Int)) fun x5=>
 some (some (x3.1,(⟨x5⟩:Ae)))
theorem F6 {a0:Ae}{r:Option (Bool×Ae)}(hm:B6 a0=some r):Sb prog 106 [.pb 0 0,.fn (.func 107) [] []] [.box 0 [sl Aa a0.l_] 100] 1 Mx (Pos r (fun r=> .d (.t r.1)) (fun r=> [.box 0 [.d (.sl _ Aa r.2.l_)] 100]) 1) (r=none):=
 sb call106 func106 rfl ntmps106 rfl fun D0 As η0 m0 hd=>by
  unfold B6 at hm;obtain⟨y1,q1,hm⟩:=oY0 hm;rcases y1 with _|x1
  ·dsimp only at hm;have e0:=sI0 hm;subst e0;exact HO (Ar q1) (by kernel_rfl)
  dsimp only at hm;refine gc (fun _=>(Ar q1).sp) (by kernel_rfl) ?_;obtain⟨x2,q2,hm⟩:=oY0 hm;refine Gx (k:=3) (E:=Aa) (fun _=>rfl) (fun _=>q2) (by kernel_rfl) ?_;obtain⟨x3,q3,hm⟩:=oY0 hm;refine gc (fun _=>P0 q3) (by kernel_rfl) ?_;obtain⟨y2,q4,hm⟩:=oY0 hm;rcases y2 with _|x4
  ·dsimp only at hm;have e0:=sI0 hm;subst e0;exact HO (Ar q4) (by kernel_rfl)
  dsimp only at hm;refine gc (fun _=>(Ar q4).sp) (by kernel_rfl) ?_;obtain⟨x5,q5,hm⟩:=oY0 hm;refine Ta (k:=3) (E:=Aa) (fun _=>rfl) (fun _=>q5) (by kernel_rfl) ?_;have e0:=sI0 hm;subst e0;exact J4 hd (by kernel_rfl)
def B5 (a0:Ae):Option (Option (Ac×Ae)):=
 Ab (AH a0) fun y1=>match y1 with
 |none=>some none
 |some x1=>
 Ab (AI x1.2) fun y2=>match y2 with
 |none=>some none
 |some x2=>
 Ab (AI x2.2) fun y3=>match y3 with
 |none=>some none
 |some x3=>
 Ab (AC x3.2) fun y4=>match y4 with
 |none=>some none
 |some x4=>
 Ab (Cm x4.2) fun y5=>match y5 with
 |none=>some none
 |some x5=>
 Ab (AH x5.2) fun y6=>match y6 with
 |none=>some none
 |some x6=>
 Ab (AH x6.2) fun y7=>match y7 with
 |none=>some none
 |some x7=>
 Ab (B6 x7.2) fun y8=>match y8 with
 |none=>some none
 |some x8=>
 Ab (AH x8.2) fun y9=>match y9 with
 |none=>some none
 |some x9=>
 Ab (Cm x9.2) fun y10=>match y10 with
 |none=>some none
 |some x10=>
 Ab (A2 x10.2) fun y11=>match y11 with
 |none=>some none
 |some x11=>
 some (some ((⟨x1.1,x2.1,x3.1,x4.1,x5.1,x6.1,x7.1,x8.1,x9.1,x10.1,[],(⟨0,0⟩:g_api_Sig)⟩:Ac),x11))
theorem Eg {a0:Ae}{r:Option (Ac×Ae)}(hm:B5 a0=some r):Sb prog 57 [.pb 0 0] [.box 0 [sl Aa a0.l_] 100] 1 Mx (Pos r (fun r=> .agg (List.set (((Aq r.1)).map dv) 10 (.d (.v (.slice none 0 0))))) (fun r=> [.box 0 [.d (.sl _ Aa r.2.l_)] 100]) 1) (r=none):=
 sb call57 func57 rfl ntmps57 rfl fun D0 As η0 m0 hd=>by
  unfold B5 at hm;obtain⟨y1,q1,hm⟩:=oY0 hm;rcases y1 with _|x1
  ·dsimp only at hm;have e0:=sI0 hm;subst e0;exact HO (AD q1) (by kernel_rfl)
  dsimp only at hm;refine gco (AD q1).sp (by kernel_rfl) ?_;obtain⟨y2,q2,hm⟩:=oY0 hm;rcases y2 with _|x2
  ·dsimp only at hm;have e0:=sI0 hm;subst e0;exact HO (BU q2) (by kernel_rfl)
  dsimp only at hm;refine gco (BU q2).sp (by kernel_rfl) ?_;obtain⟨y3,q3,hm⟩:=oY0 hm;rcases y3 with _|x3
  ·dsimp only at hm;have e0:=sI0 hm;subst e0;exact HO (BU q3) (by kernel_rfl)
  dsimp only at hm;refine gco (BU q3).sp (by kernel_rfl) ?_;obtain⟨y4,q4,hm⟩:=oY0 hm;rcases y4 with _|x4
  ·dsimp only at hm;have e0:=sI0 hm;subst e0;exact HO (AQ q4) (by kernel_rfl)
  dsimp only at hm;refine gco (AQ q4).sp (by kernel_rfl) ?_;obtain⟨y5,q5,hm⟩:=oY0 hm;rcases y5 with _|x5
  ·dsimp only at hm;have e0:=sI0 hm;subst e0;exact HO (Dp q5) (by kernel_rfl)
  dsimp only at hm;refine gco (Dp q5).sp (by kernel_rfl) ?_;obtain⟨y6,q6,hm⟩:=oY0 hm;rcases y6 with _|x6
  ·dsimp only at hm;have e0:=sI0 hm;subst e0;exact HO (AD q6) (by kernel_rfl)
  dsimp only at hm;refine gco (AD q6).sp (by kernel_rfl) ?_;obtain⟨y7,q7,hm⟩:=oY0 hm;rcases y7 with _|x7
  ·dsimp only at hm;have e0:=sI0 hm;subst e0;exact HO (AD q7) (by kernel_rfl)
  dsimp only at hm;refine gco (AD q7).sp (by kernel_rfl) ?_;obtain⟨y8,q8,hm⟩:=oY0 hm;rcases y8 with _|x8
  ·dsimp only at hm;have e0:=sI0 hm;subst e0;exact HO (F6 q8) (by kernel_rfl)
  dsimp only at hm;refine gco (F6 q8).sp (by kernel_rfl) ?_;obtain⟨y9,q9,hm⟩:=oY0 hm;rcases y9 with _|x9
  ·dsimp only at hm;have e0:=sI0 hm;subst e0;exact HO (AD q9) (by kernel_rfl)
  dsimp only at hm;refine gco (AD q9).sp (by kernel_rfl) ?_;obtain⟨y10,q10,hm⟩:=oY0 hm;rcases y10 with _|x10
  ·dsimp only at hm;have e0:=sI0 hm;subst e0;exact HO (Dp q10) (by kernel_rfl)
  dsimp only at hm;refine gco (Dp q10).sp (by kernel_rfl) ?_;obtain⟨y11,q11,hm⟩:=oY0 hm;rcases y11 with _|x11
  ·dsimp only at hm;have e0:=sI0 hm;subst e0;exact HO (Bx q11) (by kernel_rfl)
  dsimp only at hm;refine gco (Bx q11).sp (by kernel_rfl) ?_;have e0:=sI0 hm;subst e0;exact J4 hd (by kernel_rfl)
def AM (s1:(List g_api_Item)×(List g_api_Promise)):Option (((List g_api_Item)×(List g_api_Promise))⊕(((List g_api_Item)×(List g_api_Promise))⊕(Option (Ac×Ae)))):=
 if(decide ((s1.1.length:Int)>0))=true then
  Ab (A1 (⟨s1.1⟩:Ae)) fun y6=>match y6 with
  |none=>some (.inr (.inr none))
  |some x6=>
  Ab (AH x6.1) fun y7=>match y7 with
  |none=>some (.inr (.inr none))
  |some x7=>
  Ab (AH x7.2) fun y8=>match y8 with
  |none=>some (.inr (.inr none))
  |some x8=>
  Ab (AC x8.2) fun y9=>match y9 with
  |none=>some (.inr (.inr none))
  |some x9=>
  Ab (AC x9.2) fun y10=>match y10 with
  |none=>some (.inr (.inr none))
  |some x10=>
  Ab (AC x10.2) fun y11=>match y11 with
  |none=>some (.inr (.inr none))
  |some x11=>
  Ab (AC x11.2) fun y12=>match y12 with
  |none=>some (.inr (.inr none))
  |some x12=>
  Ab (app 48 s1.2 ([(⟨x7.1,x8.1,(x9.1,x10.1),(⟨x11.1,x12.1⟩:g_api_Sig)⟩:g_api_Promise)]:List g_api_Promise)) fun x13=>
  Ab (A2 x12.2) fun y13=>match y13 with
  |none=>some (.inr (.inr none))
  |some x14=>
  some (.inl (x6.2.l_,x13))
 else
 some (.inr (.inl (s1.1,s1.2)))
def BZ (a0:Ae):Option (Option (Ac×Ae)):=
 Ab (A1 a0) fun y1=>match y1 with
 |none=>some none
 |some x1=>
 Ab (B5 x1.1) fun y2=>match y2 with
 |none=>some none
 |some x2=>
 Ab (A1 x1.2) fun y3=>match y3 with
 |none=>some none
 |some x3=>
 Ab (iter AM Bv (x3.1.l_,([]:List g_api_Promise))) fun x4=>match x4 with
 | .inr r=>some r
 | .inl y4=>
 Ab (A2 x3.2) fun y14=>match y14 with
 |none=>some none
 |some x15=>
 some (some ((⟨x2.1.Serial,x2.1.Issuer,x2.1.Subject,x2.1.Key,x2.1.Names,x2.1.From,x2.1.Until,x2.1.Ca,x2.1.Depth,x2.1.Permit,y4.2,x2.1.Sig⟩:Ac),x15))
theorem DL {a0:Ae}{r:Option (Ac×Ae)}(hm:BZ a0=some r):Sb prog 56 [.pb 0 0] [.box 0 [sl Aa a0.l_] 100] 1 Mx (Pos r (fun r=>ag (Aq r.1)) (fun r=> [.box 0 [.d (.sl _ Aa r.2.l_)] 100]) 1) (r=none):=
 sb call56 func56 rfl ntmps56 rfl fun D0 As η0 m0 hd=>by
  unfold BZ at hm;obtain⟨y1,q1,hm⟩:=oY0 hm;rcases y1 with _|x1
  ·dsimp only at hm;have e0:=sI0 hm;subst e0;exact HO (A5 q1) (by kernel_rfl)
  dsimp only at hm;refine gco (A5 q1).sp (by kernel_rfl) ?_;obtain⟨y2,q2,hm⟩:=oY0 hm;rcases y2 with _|x2
  ·dsimp only at hm;have e0:=sI0 hm;subst e0;exact HO (Eg q2) (by kernel_rfl)
  dsimp only at hm;refine gco (Eg q2).sp (by kernel_rfl) ?_;obtain⟨y3,q3,hm⟩:=oY0 hm;rcases y3 with _|x3
  ·dsimp only at hm;have e0:=sI0 hm;subst e0;exact HO (A5 q3) (by kernel_rfl)
  dsimp only at hm;refine gco (A5 q3).sp (by kernel_rfl) ?_;obtain⟨x4,q4,hm⟩:=oY0 hm;refine NV 0 Af 3 10 6 (by kernel_rfl) ?_;refine gjU 0 (fun(y4:(List g_api_Item)×(List g_api_Promise))=>let (y_0,y_1):=y4; ⟨[(0,.pb 0 0),(2,.pb 1 0),(3,.pb 3 0),(10,.pb 4 0),(7,.pb 2 0)],[(0,.row 5 6 _ Af y_1),(1,.box 4 [sl Aa y_0] 100),(2,.box 0 [sl Aa x3.2.l_] 100),(3,.box 3 [.d (.i x2.1.Serial),.d (.s x2.1.Issuer),.d (.s x2.1.Subject),.d (.u x2.1.Key),sl eS x2.1.Names,.d (.i x2.1.From),.d (.i x2.1.Until),.d (.t x2.1.Ca),.d (.i x2.1.Depth),sl eS x2.1.Permit,.ow 5,.d (.u x2.1.Sig.E),.d (.u x2.1.Sig.S)] 28),(4,.box 2 [sl Aa x2.2.l_] 100),(5,.box 1 [.d (.i 0),.d (.s ByteArray.empty),.d (.s ByteArray.empty),.d (.u 0),sl eS [],.d (.i 0),.d (.i 0),.d (.t false),.d (.i 0),sl eS [],sl Af [],.d (.u 0),.d (.u 0)] 28)],[],6⟩) (fun y4=>x4= .inl y4) (by kernel_rfl) (fun Jp bk1=> ?_) fun y4 hy=> ?_
  ·refine gl hd (fun(p:Nat×((List g_api_Item)×(List g_api_Promise)))=>let (p0,p_0,p_1):=p; ⟨[(0,.pb 0 0),(2,.pb 1 0),(3,.pb 3 0),(4,.pb 4 0),(10,.pb 4 0),(7,.pb 2 0)],[(0,.row 5 6 _ Af p_1),(1,.box 4 [sl Aa p_0] 100),(2,.box 0 [sl Aa x3.2.l_] 100),(3,.box 3 [.d (.i x2.1.Serial),.d (.s x2.1.Issuer),.d (.s x2.1.Subject),.d (.u x2.1.Key),sl eS x2.1.Names,.d (.i x2.1.From),.d (.i x2.1.Until),.d (.t x2.1.Ca),.d (.i x2.1.Depth),sl eS x2.1.Permit,.ow 5,.d (.u x2.1.Sig.E),.d (.u x2.1.Sig.S)] 28),(4,.box 2 [sl Aa x2.2.l_] 100),(5,.box 1 [.d (.i 0),.d (.s ByteArray.empty),.d (.s ByteArray.empty),.d (.u 0),sl eS [],.d (.i 0),.d (.i 0),.d (.t false),.d (.i 0),sl eS [],sl Af [],.d (.u 0),.d (.u 0)] 28)],[],6⟩) (fun p=>iter AM p.1 p.2=some x4) (fun p=>p.1) (Bv,(x3.1.l_,([]:List g_api_Promise))) q4 (by kernel_rfl) ?_;rintro⟨n1,s1⟩ q5 Jl bl1;cases n1 with
   |zero=>exact(AT q5).elim
   |succ n1=>
    obtain⟨y5,q7,q6⟩:=AO q5;unfold AM at q7;refine gi q7 (by kernel_rfl) (fun hc1 q7=> ?_) fun hc1 q7=> ?_
    ·skip;obtain⟨y6,q9,q7⟩:=oY0 q7;rcases y6 with _|x6
     ·dsimp only at q7;cases q7;rcases q6 with ⟨sn,e,_⟩|e
      ·cases e
      cases e;dsimp only at hm;have e0:=sI0 hm;subst e0;exact HO (A5 q9) (by kernel_rfl)
     dsimp only at q7;refine gco (A5 q9).sp (by kernel_rfl) ?_;obtain⟨y7,q10,q7⟩:=oY0 q7;rcases y7 with _|x7
     ·dsimp only at q7;cases q7;rcases q6 with ⟨sn,e,_⟩|e
      ·cases e
      cases e;dsimp only at hm;have e0:=sI0 hm;subst e0;exact TS (AD q10) (by kernel_rfl)
     dsimp only at q7;refine gco (AD q10).sp (by kernel_rfl) ?_;obtain⟨y8,q11,q7⟩:=oY0 q7;rcases y8 with _|x8
     ·dsimp only at q7;cases q7;rcases q6 with ⟨sn,e,_⟩|e
      ·cases e
      cases e;dsimp only at hm;have e0:=sI0 hm;subst e0;exact TS (AD q11) (by kernel_rfl)
     dsimp only at q7;refine gco (AD q11).sp (by kernel_rfl) ?_;obtain⟨y9,q12,q7⟩:=oY0 q7;rcases y9 with _|x9
     ·dsimp only at q7;cases q7;rcases q6 with ⟨sn,e,_⟩|e
      ·cases e
      cases e;dsimp only at hm;have e0:=sI0 hm;subst e0;exact TS (AQ q12) (by kernel_rfl)
     dsimp only at q7;refine gco (AQ q12).sp (by kernel_rfl) ?_;obtain⟨y10,q13,q7⟩:=oY0 q7;rcases y10 with _|x10
     ·dsimp only at q7;cases q7;rcases q6 with ⟨sn,e,_⟩|e
      ·cases e
      cases e;dsimp only at hm;have e0:=sI0 hm;subst e0;exact TS (AQ q13) (by kernel_rfl)
     dsimp only at q7;refine gco (AQ q13).sp (by kernel_rfl) ?_;obtain⟨y11,q14,q7⟩:=oY0 q7;rcases y11 with _|x11
     ·dsimp only at q7;cases q7;rcases q6 with ⟨sn,e,_⟩|e
      ·cases e
      cases e;dsimp only at hm;have e0:=sI0 hm;subst e0;exact TS (AQ q14) (by kernel_rfl)
     dsimp only at q7;refine gco (AQ q14).sp (by kernel_rfl) ?_;obtain⟨y12,q15,q7⟩:=oY0 q7;rcases y12 with _|x12
     ·dsimp only at q7;cases q7;rcases q6 with ⟨sn,e,_⟩|e
      ·cases e
      cases e;dsimp only at hm;have e0:=sI0 hm;subst e0;exact TS (AQ q15) (by kernel_rfl)
     dsimp only at q7;refine gco (AQ q15).sp (by kernel_rfl) ?_;refine ET (k:=6) Af ([(⟨x7.1,x8.1,(x9.1,x10.1),(⟨x11.1,x12.1⟩:g_api_Sig)⟩:g_api_Promise)]:List g_api_Promise) (fun _=>rfl) (by kernel_rfl) ?_;obtain⟨x13,q16,q7⟩:=oY0 q7;refine Jv (k:=6) (E:=Af) (fun _=>rfl) q16 (by kernel_rfl) ?_;obtain⟨y13,q17,q7⟩:=oY0 q7;rcases y13 with _|x14
     ·dsimp only at q7;cases q7;rcases q6 with ⟨sn,e,_⟩|e
      ·cases e
      cases e;dsimp only at hm;have e0:=sI0 hm;subst e0;exact HO (Bx q17) (by kernel_rfl)
     dsimp only at q7;refine gco (Bx q17).sp (by kernel_rfl) ?_;have e0:=sI0 q7;subst e0;rcases q6 with ⟨sn,e,q6'⟩|e
     ·have e:=Sum.inl.inj e;subst e;exact gb bl1 hd (n1,_) ⟨q6',Nat.lt_succ_self _⟩ (by kernel_rfl)
     cases Cb e
    have e0:=sI0 q7;subst e0;rcases q6 with ⟨sn,e,_⟩|e
    ·cases CQ e
    have e:=Sum.inr.inj e;subst e;exact gb bk1 hd (s1.1,s1.2) rfl (by kernel_rfl)
  subst hy;dsimp only at hm;obtain⟨y14,q18,hm⟩:=oY0 hm;rcases y14 with _|x15
  ·dsimp only at hm;have e0:=sI0 hm;subst e0;exact HO (Bx q18) (by kernel_rfl)
  dsimp only at hm;refine gco (Bx q18).sp (by kernel_rfl) ?_;have e0:=sI0 hm;subst e0;exact J4 hd (by kernel_rfl)
def Cl (a0:Ae):Option (Option (Ac×Ae)):=
 Ab (A1 a0) fun y1=>match y1 with
 |none=>some none
 |some x1=>
 Ab (BZ x1.1) fun y2=>match y2 with
 |none=>some none
 |some x2=>
 Ab (A1 x1.2) fun y3=>match y3 with
 |none=>some none
 |some x3=>
 Ab (AC x3.1) fun y4=>match y4 with
 |none=>some none
 |some x4=>
 Ab (AC x4.2) fun y5=>match y5 with
 |none=>some none
 |some x5=>
 Ab (A2 x5.2) fun y6=>match y6 with
 |none=>some none
 |some x6=>
 Ab (A2 x3.2) fun y7=>match y7 with
 |none=>some none
 |some x7=>
 some (some ((⟨x2.1.Serial,x2.1.Issuer,x2.1.Subject,x2.1.Key,x2.1.Names,x2.1.From,x2.1.Until,x2.1.Ca,x2.1.Depth,x2.1.Permit,x2.1.Proms,(⟨x4.1,x5.1⟩:g_api_Sig)⟩:Ac),x7))
theorem GV {a0:Ae}{r:Option (Ac×Ae)}(hm:Cl a0=some r):Sb prog 54 [.pb 0 0] [.box 0 [sl Aa a0.l_] 100] 1 Mx (Pos r (fun r=>ag (Aq r.1)) (fun r=> [.box 0 [.d (.sl _ Aa r.2.l_)] 100]) 1) (r=none):=
 sb call54 func54 rfl ntmps54 rfl fun D0 As η0 m0 hd=>by
  unfold Cl at hm;obtain⟨y1,q1,hm⟩:=oY0 hm;rcases y1 with _|x1
  ·dsimp only at hm;have e0:=sI0 hm;subst e0;exact HO (A5 q1) (by kernel_rfl)
  dsimp only at hm;refine gco (A5 q1).sp (by kernel_rfl) ?_;obtain⟨y2,q2,hm⟩:=oY0 hm;rcases y2 with _|x2
  ·dsimp only at hm;have e0:=sI0 hm;subst e0;exact HO (DL q2) (by kernel_rfl)
  dsimp only at hm;refine gco (DL q2).sp (by kernel_rfl) ?_;obtain⟨y3,q3,hm⟩:=oY0 hm;rcases y3 with _|x3
  ·dsimp only at hm;have e0:=sI0 hm;subst e0;exact HO (A5 q3) (by kernel_rfl)
  dsimp only at hm;refine gco (A5 q3).sp (by kernel_rfl) ?_;obtain⟨y4,q4,hm⟩:=oY0 hm;rcases y4 with _|x4
  ·dsimp only at hm;have e0:=sI0 hm;subst e0;exact HO (AQ q4) (by kernel_rfl)
  dsimp only at hm;refine gco (AQ q4).sp (by kernel_rfl) ?_;obtain⟨y5,q5,hm⟩:=oY0 hm;rcases y5 with _|x5
  ·dsimp only at hm;have e0:=sI0 hm;subst e0;exact HO (AQ q5) (by kernel_rfl)
  dsimp only at hm;refine gco (AQ q5).sp (by kernel_rfl) ?_;obtain⟨y6,q6,hm⟩:=oY0 hm;rcases y6 with _|x6
  ·dsimp only at hm;have e0:=sI0 hm;subst e0;exact HO (Bx q6) (by kernel_rfl)
  dsimp only at hm;refine gco (Bx q6).sp (by kernel_rfl) ?_;obtain⟨y7,q7,hm⟩:=oY0 hm;rcases y7 with _|x7
  ·dsimp only at hm;have e0:=sI0 hm;subst e0;exact HO (Bx q7) (by kernel_rfl)
  dsimp only at hm;refine gco (Bx q7).sp (by kernel_rfl) ?_;have e0:=sI0 hm;subst e0;exact J4 hd (by kernel_rfl)
theorem Z9 (a b:Value)(w:World):CallsDIn (FW none) 0 prog 91 #[a,b] .returning w fun e u' w'=> ∃v,e= .returned v∧u'= .returning∧w'=w:=by
 refine CallsDIn.mono (SF (N:=11) (args:=[a,b]) (u:= .returning) (u':= .returning) (v:= .nilIface) (R:=fun w'=>w'=w) func91 rfl ntmps91 rfl (Nat.le_of_ble_eq_true rfl) rfl (fun c₀ cs hu=> .inr ⟨by simp[recoverD,hu],rfl,rfl⟩) ?_) fun e u2 w' ⟨x,h1,h2,_,h3⟩=>⟨x,h1,h2,h3⟩;refine Ai (Ad (l:=[_]) ?_);refine s_mv ?_;refine Aj (nrm ?_);refine Bj (Ai (Ad (l:=[_]) ?_));refine AB (v:= .bool true) (w':=w) rfl (fun _ e=>by cases e) (by kernel_rfl) ?_;refine Aj (nrm ?_);refine R8 rfl ?_;exact Cy (RB ⟨.inl rfl,rfl⟩)
def zd28:List D:=[.i 0,.s .empty,.s .empty,.u 0,.v (.slice none 0 0),.i 0,.i 0,.t false,.i 0,.v (.slice none 0 0),.v (.slice none 0 0),.u 0,.u 0]
theorem Z8 (m:Mem)(As:List Ow)(w:World)(bc be:Nat)(cs es:List Value)(hc:cs.length=13)(he:es.length=1)(hc1: ∀v∈cs,v.oneCell'=true)(he1: ∀v∈es,v.oneCell'=true)(S:St m (bx bc cs 28::bx be es 31::As) w):
  CallsDIn (FW none) 0 prog 91 #[pt bc 0,pt be 0] (.panicking (chn Mx)) w fun e u' w'=> ∃v,e= .returned v∧u'= .panicking [{v:=Mx,recovered:=true}]∧Kd w w'∧
   ∃M zs ze,m≤M∧FRL M zd28 zs∧FR M (.i 71) ze∧St M (bx bc zs 28::bx be [ze] 31::As) w':=by
 refine SF (N:=11) (args:=[pt bc 0,pt be 0]) (u:= .panicking (chn Mx)) (u':= .panicking [{v:=Mx,recovered:=true}]) (v:=Mx) func91 rfl ntmps91 rfl (Nat.le_of_ble_eq_true rfl) rfl (fun c₀ cs hu=> .inl (by simp[recoverD,hu,chn])) ?_;refine Ai (Ad (l:=[_]) ?_);refine s_mv ?_;refine Aj (nrm ?_);refine Bj (Ai (Ad (l:=[_]) ?_));refine AB (v:= .bool false) (w':=w) rfl (fun _ e=>by cases e) (by kernel_rfl) ?_;refine Aj (nrm ?_);refine Uf rfl ?_;refine Ai (Ad (l:=[_,_,_]) ?_);refine AB (v:= .tuple #[.agg #[],.bool true]) (w':=w) rfl (fun _ e=>by cases e) (by kernel_rfl) ?_;refine AB (v:= .bool true) (w':=w) rfl (fun _ e=>by cases e) (by kernel_rfl) ?_;refine AB (v:= .agg #[]) (w':=w) rfl (fun _ e=>by cases e) (by kernel_rfl) ?_;refine Aj (nrm ?_);refine R8 rfl ?_;let η0:Env:=fun n=>if n=0 then some (pt bc 0)else if n=1 then some (pt be 0)else none;have h0:η0 0=some (pt bc 0):=rfl;have h1:η0 1=some (pt be 0):=rfl;have hd: ∀n,η0 n≠none→n<2:=fun n h=>by
  show n<2;have h:(if n=0 then some (pt bc 0)else if n=1 then some (pt be 0)else none)≠none:=h;split at h
  ·omega
  ·split at h
   ·omega
   ·exact absurd rfl h
 have ho:=fun(l:List Value) (v:Value) (hv:v∈l) (q: ∀v∈l,v.oneCell'=true)=>q v hv;let s0:AS:=⟨[(0,.pb 0 0),(1,.pb 1 0)],[(0,.box 0 (List.replicate 13 .any) 28),(1,.box 1 [.any] 31)],[],2⟩;have any_rel: ∀{n:Nat} {l:List Value},l.length=n→B8 η0 m (List.replicate n .any) l:=fun hl=>⟨by simp[hl],fun k c u a b=>by
  rw[List.getElem?_replicate]at a;split at a
  ·cases a; exact .any _
  ·cases a⟩
 have S2:St m (rep η0 m (.box 0 (List.replicate 13 .any) 28)::rep η0 m (.box 1 [.any] 31)::As) w:=by
  have T:=St.closeBox h0 (any_rel hc) hc1 S;have T2:=T.perm (List.Perm.swap _ _ _);have T3:=St.closeBox h1 (any_rel (n:=1) he) he1 T2;exact T3.perm (List.Perm.swap _ _ _)
 refine Hf (Q:=Ax.pk none prog 11 (w,[],true) (outG (Rl As η0 m (fun _:Unit=>⟨[],[(0,.box 0 (zd28.map .d) 28),(1,.box 1 [.d (.i 71)] 31)],[],2⟩) (fun _=>True)) Mx (fun _ _=>False)) [.blk 0]) ?_ (gat s0 (η:=η0) (m:=m) ?_ (Xw () trivial hd (by kernel_rfl)))
 ·intro e f' w' q;have fin:Rl As η0 m (fun _:Unit=>⟨[],[(0,.box 0 (zd28.map .d) 28),(1,.box 1 [.d (.i 71)] 31)],[],2⟩) (fun _=>True) f' w'→∃M zs ze,m≤M∧FRL M zd28 zs∧FR M (.i 71) ze∧St M (bx bc zs 28::bx be [ze] 31::As) w':=
   fun⟨_,_,η,M,le,l,gm⟩=>let ⟨zs,ze,a,b,c⟩:=Uu h0 h1 le gm; ⟨M,zs,ze,l,a,b,c⟩
  cases e with
  |normal=>exact⟨.inl rfl,fin q⟩
  |ret=>exact⟨.inr rfl,fin q⟩
  |exit id=>
   have q:(bif Nat.beq id 0 then Rl As η0 m (fun _:Unit=>⟨[],[(0,.box 0 (zd28.map .d) 28),(1,.box 1 [.d (.i 71)] 31)],[],2⟩) (fun _=>True) f' w' else False):=q;cases hb:Nat.beq id 0
   ·rw[hb]at q; exact q.elim
   ·rw[hb]at q;refine(show Lf 0 _ (.exit id) f' w' from ?_);simp only[Lf,hb,cond_true];exact⟨by simp,fin q⟩
  |goto l=>exact q.elim
  |panic ch=>exact q.2.elim
  |outgrown=>exact q.elim
 ·refine⟨fun t=> ?_,fun n d h=>(by cases h),hd,S2,?_,fun t ht=> ?_⟩
  ·match t with
   |0=>exact .pb h0
   |1=>exact .pb h1
   |t+2=>exact .any _
  ·show [0,1].Nodup; decide
  ·have:t∈[0,1]:=ht;show t<2;simp at this; omega
def DW (a0:List UInt8)(x1:g_api_Item×Int×Int):Option (Option (Ac×Int)):=
 Ab (AN (x1.2.1==(a0.length:Int))) fun y1=>match y1 with
 |none=>some none
 |some x2=>
 Ab (ED x1.1) fun y2=>match y2 with
 |none=>some none
 |some x3=>
 Ab (Cl x3) fun y3=>match y3 with
 |none=>some none
 |some x4=>
 Ab (Bz x4.1) fun x5=>
 Ab (AN (x5==0)) fun y4=>match y4 with
 |none=>some none
 |some x6=>
 some (some (x4.1,0))
def F4 (a0:List UInt8):Option (Ac×Int):=Ab (Eb a0 0) fun x1=>if(x1.2.2 !=0)=true then some ((⟨0,ByteArray.empty,ByteArray.empty,0,[],0,0,false,0,[],[],(⟨0,0⟩:g_api_Sig)⟩:Ac),x1.2.2)else Ab (DW a0 x1) fun z=>some (match z with|none=>((⟨0,ByteArray.empty,ByteArray.empty,0,[],0,0,false,0,[],[],(⟨0,0⟩:g_api_Sig)⟩:Ac),71)|some c=>c)
theorem Ni {a0:List UInt8}{r:Ac×Int}(hm:F4 a0=some r):Sf prog 53 [sl eB a0,.fn (.func 54) [] []] (.tup [ag (Aq r.1),.d (.i r.2)]):=by
 unfold F4 at hm;obtain⟨x1,q1,hm⟩:=oY0 hm;refine VZ (N:=33) (nc:=13) (tc:=28) (te:=31) (zd:=[.i 0,.s ByteArray.empty,.s ByteArray.empty,.u 0,.v (.slice none 0 0),.i 0,.i 0,.t false,.i 0,.v (.slice none 0 0),.v (.slice none 0 0),.u 0,.u 0]) (ev0:= .i 71) (ov:=Mx) (ok1:=((x1.2.2 !=0))=false) (okX:=((x1.2.2 !=0))=false∧DW a0 x1=some none) (okE:=fun c=>((x1.2.2 !=0))=false∧DW a0 x1=some (some c)) (JE:=fun(c:Ac×Int)=>⟨[(4,.pb 0 0),(5,.pb 1 0)],[(0,.box 0 [.d (.i c.1.Serial),.d (.s c.1.Issuer),.d (.s c.1.Subject),.d (.u c.1.Key),sl eS c.1.Names,.d (.i c.1.From),.d (.i c.1.Until),.d (.t c.1.Ca),.d (.i c.1.Depth),sl eS c.1.Permit,sl Af c.1.Proms,.d (.u c.1.Sig.E),.d (.u c.1.Sig.S)] 28),(1,.box 1 [.d (.i c.2)] 31)],[],2⟩) (J1:=⟨[(0,sl eB a0),(1,.fn (.func 54) [] []),(4,.pb 0 0),(5,.pb 1 0),(6,.pb 2 0),(7,.d (.i x1.2.1))],[(0,.box 2 [.d (.i x1.1.Tag),sl eB x1.1.B,sl Aa x1.1.L] 56),(1,.box 1 [.d (.i x1.2.2)] 31),(2,.box 0 [.d (.i 0),.d (.s ByteArray.empty),.d (.s ByteArray.empty),.d (.u 0),sl eS [],.d (.i 0),.d (.i 0),.d (.t false),.d (.i 0),sl eS [],sl Af [],.d (.u 0),.d (.u 0)] 28)],[],3⟩) call53 call91 func53 rfl ntmps53 rfl rfl ⟨rfl,rfl⟩ rfl ?_ ?_ ?_ (fun c hc=>rfl) ?_ (Z9) (Z8)
 ·intro D0 As η0 m0 Jp hd bk;refine G.h ?_;refine gc (fun _=>LX q1) (by kernel_rfl) ?_;refine gi hm (by kernel_rfl) (fun hc1 hm=> ?_) fun hc1 hm=> ?_
  ·skip;have e0:=sI0 hm;subst e0;exact Au hd (by kernel_rfl)
  exact gb bk hd () hc1 (by kernel_rfl)
 ·intro hok D0 As η0 m0 hd;refine G.h ?_;rw[if_neg (by rw[hok]; decide)]at hm;obtain⟨z,hz,hm⟩:=oY0 hm;have hz2:=hz;unfold DW at hz2;obtain⟨y1,q2,hz2⟩:=oY0 hz2;rcases y1 with _|x2
  ·dsimp only at hz2;have e0:=sI0 hz2;subst e0;exact Lh (Ar q2) ⟨hok,hz⟩ hd (by kernel_rfl) (by kernel_rfl)
  dsimp only at hz2;refine gc (fun _=>(Ar q2).sp) (by kernel_rfl) ?_;obtain⟨y2,q3,hz2⟩:=oY0 hz2;rcases y2 with _|x3
  ·dsimp only at hz2;have e0:=sI0 hz2;subst e0;exact Lh (Hz q3) ⟨hok,hz⟩ hd (by kernel_rfl) (by kernel_rfl)
  dsimp only at hz2;refine gco (Hz q3).sp (by kernel_rfl) ?_;obtain⟨y3,q4,hz2⟩:=oY0 hz2;rcases y3 with _|x4
  ·dsimp only at hz2;have e0:=sI0 hz2;subst e0;exact Lh (GV q4) ⟨hok,hz⟩ hd (by kernel_rfl) (by kernel_rfl)
  dsimp only at hz2;refine gco (GV q4).sp (by kernel_rfl) ?_;obtain⟨x5,q5,hz2⟩:=oY0 hz2;refine gc (fun _=>CP q5) (by kernel_rfl) ?_;obtain⟨y4,q6,hz2⟩:=oY0 hz2;rcases y4 with _|x6
  ·dsimp only at hz2;have e0:=sI0 hz2;subst e0;exact Lh (Ar q6) ⟨hok,hz⟩ hd (by kernel_rfl) (by kernel_rfl)
  dsimp only at hz2;refine gc (fun _=>(Ar q6).sp) (by kernel_rfl) ?_;have e0:=sI0 hz2;subst e0;exact Xw _ ⟨hok,hz⟩ hd (by kernel_rfl)
 ·rintro c ⟨hC,hz⟩ D0 As η0 m0 hd;rw[if_neg (by rw[hC]; decide),hz]at hm;have e0:c=r:=sI0 hm;subst e0;exact G.h (Au hd (by kernel_rfl))
 ·rintro⟨hC,hz⟩ D0 As η0 m0 hd;rw[if_neg (by rw[hC]; decide),hz]at hm;have e0:((⟨0,ByteArray.empty,ByteArray.empty,0,[],0,0,false,0,[],[],(⟨0,0⟩:g_api_Sig)⟩:Ac),71)=r:=sI0 hm;subst e0;exact G.h (Au hd (by kernel_rfl))
def FU (a0:List UInt8):Option (Ac×Int):=Ab (F4 a0) fun x1=>some (x1.1,x1.2)
theorem Kk {a0:List UInt8}{r:Ac×Int}(hm:FU a0=some r):Sf prog 26 [sl eB a0] (.tup [ag (Aq r.1),.d (.i r.2)]):=
 sp call26 func26 rfl ntmps26 rfl fun D0 As η0 m0 hd=>by
  unfold FU at hm;obtain⟨x1,q1,hm⟩:=oY0 hm;refine gc (fun _=>Ni q1) (by kernel_rfl) ?_;have e0:=sI0 hm;subst e0;exact Au hd (by kernel_rfl)
def DV (a0:List UInt8)(x1:g_api_Item×Int×Int):Option (Option (Ac×Int)):=
 Ab (AN (x1.2.1==(a0.length:Int))) fun y1=>match y1 with
 |none=>some none
 |some x2=>
 Ab (ED x1.1) fun y2=>match y2 with
 |none=>some none
 |some x3=>
 Ab (BZ x3) fun y3=>match y3 with
 |none=>some none
 |some x4=>
 Ab (Bz x4.1) fun x5=>
 Ab (AN (x5==0)) fun y4=>match y4 with
 |none=>some none
 |some x6=>
 some (some (x4.1,0))
def F3 (a0:List UInt8):Option (Ac×Int):=Ab (Eb a0 0) fun x1=>if(x1.2.2 !=0)=true then some ((⟨0,ByteArray.empty,ByteArray.empty,0,[],0,0,false,0,[],[],(⟨0,0⟩:g_api_Sig)⟩:Ac),x1.2.2)else Ab (DV a0 x1) fun z=>some (match z with|none=>((⟨0,ByteArray.empty,ByteArray.empty,0,[],0,0,false,0,[],[],(⟨0,0⟩:g_api_Sig)⟩:Ac),71)|some c=>c)
theorem Nh {a0:List UInt8}{r:Ac×Int}(hm:F3 a0=some r):Sf prog 53 [sl eB a0,.fn (.func 56) [] []] (.tup [ag (Aq r.1),.d (.i r.2)]):=by
 unfold F3 at hm;obtain⟨x1,q1,hm⟩:=oY0 hm;refine VZ (N:=33) (nc:=13) (tc:=28) (te:=31) (zd:=[.i 0,.s ByteArray.empty,.s ByteArray.empty,.u 0,.v (.slice none 0 0),.i 0,.i 0,.t false,.i 0,.v (.slice none 0 0),.v (.slice none 0 0),.u 0,.u 0]) (ev0:= .i 71) (ov:=Mx) (ok1:=((x1.2.2 !=0))=false) (okX:=((x1.2.2 !=0))=false∧DV a0 x1=some none) (okE:=fun c=>((x1.2.2 !=0))=false∧DV a0 x1=some (some c)) (JE:=fun(c:Ac×Int)=>⟨[(4,.pb 0 0),(5,.pb 1 0)],[(0,.box 0 [.d (.i c.1.Serial),.d (.s c.1.Issuer),.d (.s c.1.Subject),.d (.u c.1.Key),sl eS c.1.Names,.d (.i c.1.From),.d (.i c.1.Until),.d (.t c.1.Ca),.d (.i c.1.Depth),sl eS c.1.Permit,sl Af c.1.Proms,.d (.u c.1.Sig.E),.d (.u c.1.Sig.S)] 28),(1,.box 1 [.d (.i c.2)] 31)],[],2⟩) (J1:=⟨[(0,sl eB a0),(1,.fn (.func 56) [] []),(4,.pb 0 0),(5,.pb 1 0),(6,.pb 2 0),(7,.d (.i x1.2.1))],[(0,.box 2 [.d (.i x1.1.Tag),sl eB x1.1.B,sl Aa x1.1.L] 56),(1,.box 1 [.d (.i x1.2.2)] 31),(2,.box 0 [.d (.i 0),.d (.s ByteArray.empty),.d (.s ByteArray.empty),.d (.u 0),sl eS [],.d (.i 0),.d (.i 0),.d (.t false),.d (.i 0),sl eS [],sl Af [],.d (.u 0),.d (.u 0)] 28)],[],3⟩) call53 call91 func53 rfl ntmps53 rfl rfl ⟨rfl,rfl⟩ rfl ?_ ?_ ?_ (fun c hc=>rfl) ?_ (Z9) (Z8)
 ·intro D0 As η0 m0 Jp hd bk;refine G.h ?_;refine gc (fun _=>LX q1) (by kernel_rfl) ?_;refine gi hm (by kernel_rfl) (fun hc1 hm=> ?_) fun hc1 hm=> ?_
  ·skip;have e0:=sI0 hm;subst e0;exact Au hd (by kernel_rfl)
  exact gb bk hd () hc1 (by kernel_rfl)
 ·intro hok D0 As η0 m0 hd;refine G.h ?_;rw[if_neg (by rw[hok]; decide)]at hm;obtain⟨z,hz,hm⟩:=oY0 hm;have hz2:=hz;unfold DV at hz2;obtain⟨y1,q2,hz2⟩:=oY0 hz2;rcases y1 with _|x2
  ·dsimp only at hz2;have e0:=sI0 hz2;subst e0;exact Lh (Ar q2) ⟨hok,hz⟩ hd (by kernel_rfl) (by kernel_rfl)
  dsimp only at hz2;refine gc (fun _=>(Ar q2).sp) (by kernel_rfl) ?_;obtain⟨y2,q3,hz2⟩:=oY0 hz2;rcases y2 with _|x3
  ·dsimp only at hz2;have e0:=sI0 hz2;subst e0;exact Lh (Hz q3) ⟨hok,hz⟩ hd (by kernel_rfl) (by kernel_rfl)
  dsimp only at hz2;refine gco (Hz q3).sp (by kernel_rfl) ?_;obtain⟨y3,q4,hz2⟩:=oY0 hz2;rcases y3 with _|x4
  ·dsimp only at hz2;have e0:=sI0 hz2;subst e0;exact Lh (DL q4) ⟨hok,hz⟩ hd (by kernel_rfl) (by kernel_rfl)
  dsimp only at hz2;refine gco (DL q4).sp (by kernel_rfl) ?_;obtain⟨x5,q5,hz2⟩:=oY0 hz2;refine gc (fun _=>CP q5) (by kernel_rfl) ?_;obtain⟨y4,q6,hz2⟩:=oY0 hz2;rcases y4 with _|x6
  ·dsimp only at hz2;have e0:=sI0 hz2;subst e0;exact Lh (Ar q6) ⟨hok,hz⟩ hd (by kernel_rfl) (by kernel_rfl)
  dsimp only at hz2;refine gc (fun _=>(Ar q6).sp) (by kernel_rfl) ?_;have e0:=sI0 hz2;subst e0;exact Xw _ ⟨hok,hz⟩ hd (by kernel_rfl)
 ·rintro c ⟨hC,hz⟩ D0 As η0 m0 hd;rw[if_neg (by rw[hC]; decide),hz]at hm;have e0:c=r:=sI0 hm;subst e0;exact G.h (Au hd (by kernel_rfl))
 ·rintro⟨hC,hz⟩ D0 As η0 m0 hd;rw[if_neg (by rw[hC]; decide),hz]at hm;have e0:((⟨0,ByteArray.empty,ByteArray.empty,0,[],0,0,false,0,[],[],(⟨0,0⟩:g_api_Sig)⟩:Ac),71)=r:=sI0 hm;subst e0;exact G.h (Au hd (by kernel_rfl))
def DE (a0:List UInt8):Option (Ac×Int):=Ab (F3 a0) fun x1=>some (x1.1,x1.2)
theorem I3 {a0:List UInt8}{r:Ac×Int}(hm:DE a0=some r):Sf prog 28 [sl eB a0] (.tup [ag (Aq r.1),.d (.i r.2)]):=
 sp call28 func28 rfl ntmps28 rfl fun D0 As η0 m0 hd=>by
  unfold DE at hm;obtain⟨x1,q1,hm⟩:=oY0 hm;refine gc (fun _=>Nh q1) (by kernel_rfl) ?_;have e0:=sI0 hm;subst e0;exact Au hd (by kernel_rfl)
def DU (a0:List UInt8)(x1:g_api_Item×Int×Int):Option (Option (Ac×Int)):=
 Ab (AN (x1.2.1==(a0.length:Int))) fun y1=>match y1 with
 |none=>some none
 |some x2=>
 Ab (ED x1.1) fun y2=>match y2 with
 |none=>some none
 |some x3=>
 Ab (B5 x3) fun y3=>match y3 with
 |none=>some none
 |some x4=>
 Ab (Bz (⟨x4.1.Serial,x4.1.Issuer,x4.1.Subject,x4.1.Key,x4.1.Names,x4.1.From,x4.1.Until,x4.1.Ca,x4.1.Depth,x4.1.Permit,[],x4.1.Sig⟩:Ac)) fun x5=>
 Ab (AN (x5==0)) fun y4=>match y4 with
 |none=>some none
 |some x6=>
 some (some ((⟨x4.1.Serial,x4.1.Issuer,x4.1.Subject,x4.1.Key,x4.1.Names,x4.1.From,x4.1.Until,x4.1.Ca,x4.1.Depth,x4.1.Permit,[],x4.1.Sig⟩:Ac),0))
def F0 (a0:List UInt8):Option (Ac×Int):=Ab (Eb a0 0) fun x1=>if(x1.2.2 !=0)=true then some ((⟨0,ByteArray.empty,ByteArray.empty,0,[],0,0,false,0,[],[],(⟨0,0⟩:g_api_Sig)⟩:Ac),x1.2.2)else Ab (DU a0 x1) fun z=>some (match z with|none=>((⟨0,ByteArray.empty,ByteArray.empty,0,[],0,0,false,0,[],[],(⟨0,0⟩:g_api_Sig)⟩:Ac),71)|some c=>c)
theorem Ng {a0:List UInt8}{r:Ac×Int}(hm:F0 a0=some r):Sf prog 53 [sl eB a0,.fn (.func 57) [] []] (.tup [ag (Aq r.1),.d (.i r.2)]):=by
 unfold F0 at hm;obtain⟨x1,q1,hm⟩:=oY0 hm;refine VZ (N:=33) (nc:=13) (tc:=28) (te:=31) (zd:=[.i 0,.s ByteArray.empty,.s ByteArray.empty,.u 0,.v (.slice none 0 0),.i 0,.i 0,.t false,.i 0,.v (.slice none 0 0),.v (.slice none 0 0),.u 0,.u 0]) (ev0:= .i 71) (ov:=Mx) (ok1:=((x1.2.2 !=0))=false) (okX:=((x1.2.2 !=0))=false∧DU a0 x1=some none) (okE:=fun c=>((x1.2.2 !=0))=false∧DU a0 x1=some (some c)) (JE:=fun(c:Ac×Int)=>⟨[(4,.pb 0 0),(5,.pb 1 0)],[(0,.box 0 [.d (.i c.1.Serial),.d (.s c.1.Issuer),.d (.s c.1.Subject),.d (.u c.1.Key),sl eS c.1.Names,.d (.i c.1.From),.d (.i c.1.Until),.d (.t c.1.Ca),.d (.i c.1.Depth),sl eS c.1.Permit,sl Af c.1.Proms,.d (.u c.1.Sig.E),.d (.u c.1.Sig.S)] 28),(1,.box 1 [.d (.i c.2)] 31)],[],2⟩) (J1:=⟨[(0,sl eB a0),(1,.fn (.func 57) [] []),(4,.pb 0 0),(5,.pb 1 0),(6,.pb 2 0),(7,.d (.i x1.2.1))],[(0,.box 2 [.d (.i x1.1.Tag),sl eB x1.1.B,sl Aa x1.1.L] 56),(1,.box 1 [.d (.i x1.2.2)] 31),(2,.box 0 [.d (.i 0),.d (.s ByteArray.empty),.d (.s ByteArray.empty),.d (.u 0),sl eS [],.d (.i 0),.d (.i 0),.d (.t false),.d (.i 0),sl eS [],sl Af [],.d (.u 0),.d (.u 0)] 28)],[],3⟩) call53 call91 func53 rfl ntmps53 rfl rfl ⟨rfl,rfl⟩ rfl ?_ ?_ ?_ (fun c hc=>rfl) ?_ (Z9) (Z8)
 ·intro D0 As η0 m0 Jp hd bk;refine G.h ?_;refine gc (fun _=>LX q1) (by kernel_rfl) ?_;refine gi hm (by kernel_rfl) (fun hc1 hm=> ?_) fun hc1 hm=> ?_
  ·skip;have e0:=sI0 hm;subst e0;exact Au hd (by kernel_rfl)
  exact gb bk hd () hc1 (by kernel_rfl)
 ·intro hok D0 As η0 m0 hd;refine G.h ?_;rw[if_neg (by rw[hok]; decide)]at hm;obtain⟨z,hz,hm⟩:=oY0 hm;have hz2:=hz;unfold DU at hz2;obtain⟨y1,q2,hz2⟩:=oY0 hz2;rcases y1 with _|x2
  ·dsimp only at hz2;have e0:=sI0 hz2;subst e0;exact Lh (Ar q2) ⟨hok,hz⟩ hd (by kernel_rfl) (by kernel_rfl)
  dsimp only at hz2;refine gc (fun _=>(Ar q2).sp) (by kernel_rfl) ?_;obtain⟨y2,q3,hz2⟩:=oY0 hz2;rcases y2 with _|x3
  ·dsimp only at hz2;have e0:=sI0 hz2;subst e0;exact Lh (Hz q3) ⟨hok,hz⟩ hd (by kernel_rfl) (by kernel_rfl)
  dsimp only at hz2;refine gco (Hz q3).sp (by kernel_rfl) ?_;obtain⟨y3,q4,hz2⟩:=oY0 hz2;rcases y3 with _|x4
  ·dsimp only at hz2;have e0:=sI0 hz2;subst e0;exact Lh (Eg q4) ⟨hok,hz⟩ hd (by kernel_rfl) (by kernel_rfl)
  dsimp only at hz2;refine gco (Eg q4).sp (by kernel_rfl) ?_;obtain⟨x5,q5,hz2⟩:=oY0 hz2;refine gc (fun _=>CP q5) (by kernel_rfl) ?_;obtain⟨y4,q6,hz2⟩:=oY0 hz2;rcases y4 with _|x6
  ·dsimp only at hz2;have e0:=sI0 hz2;subst e0;exact Lh (Ar q6) ⟨hok,hz⟩ hd (by kernel_rfl) (by kernel_rfl)
  dsimp only at hz2;refine gc (fun _=>(Ar q6).sp) (by kernel_rfl) ?_;have e0:=sI0 hz2;subst e0;exact Xw _ ⟨hok,hz⟩ hd (by kernel_rfl)
 ·rintro c ⟨hC,hz⟩ D0 As η0 m0 hd;rw[if_neg (by rw[hC]; decide),hz]at hm;have e0:c=r:=sI0 hm;subst e0;exact G.h (Au hd (by kernel_rfl))
 ·rintro⟨hC,hz⟩ D0 As η0 m0 hd;rw[if_neg (by rw[hC]; decide),hz]at hm;have e0:((⟨0,ByteArray.empty,ByteArray.empty,0,[],0,0,false,0,[],[],(⟨0,0⟩:g_api_Sig)⟩:Ac),71)=r:=sI0 hm;subst e0;exact G.h (Au hd (by kernel_rfl))
def Eo (a0:List UInt8):Option (Ac×Int):=Ab (F0 a0) fun x1=>some (x1.1,x1.2)
theorem JL {a0:List UInt8}{r:Ac×Int}(hm:Eo a0=some r):Sf prog 30 [sl eB a0] (.tup [ag (Aq r.1),.d (.i r.2)]):=
 sp call30 func30 rfl ntmps30 rfl fun D0 As η0 m0 hd=>by
  unfold Eo at hm;obtain⟨x1,q1,hm⟩:=oY0 hm;refine gc (fun _=>Ng q1) (by kernel_rfl) ?_;have e0:=sI0 hm;subst e0;exact Au hd (by kernel_rfl)
def G2:Option Ac:=some (⟨1,(⟨#[103,114,101,97,116,115,101,97,108]⟩:ByteArray),ByteArray.empty,4,([(⟨#[120,46,97]⟩:ByteArray)]:List ByteArray),0,9,false,0,[],[],(⟨0,0⟩:g_api_Sig)⟩:Ac)
theorem LS {r:Ac}(hm:G2=some r):Sf prog 34 [] (ag (Aq r)):=
 sp call34 func34 rfl ntmps34 rfl fun D0 As η0 m0 hd=>by
  unfold G2 at hm;refine ET (k:=1) eS ([(⟨#[120,46,97]⟩:ByteArray)]:List ByteArray) (fun _=>rfl) (by kernel_rfl) ?_;have e0:=sI0 hm;subst e0;exact Au hd (by kernel_rfl)
def Hh:Option Bool:=Ab (G2) fun x1=>Ab (HH x1) fun x2=>Ab (Eo x2.1) fun x3=>Ab (Kx x1) fun x4=>Ab (FU x4.1) fun x5=>Ab (Jn x1) fun x6=>Ab (DE x6.1) fun x7=>Ab (Jm x1) fun x8=>Ab (FU x2.1) fun x9=>bnd ((((((((x2.2==0)&&(x3.2==0))&&(x4.2==0))&&(x5.2==0))&&(x6.2==0))&&(x7.2==0))&&(x8.2==0))) fun x10=>Ab (gu x10 (FS x3.1 x1)) fun x11=>Ab (gu (x10&&x11) (FS x5.1 x1)) fun x12=>Ab (gu ((x10&&x11)&&x12) (FS x7.1 x1)) fun x13=>Ab (gu (((x10&&x11)&&x12)&&x13) (GG x2.1)) fun x14=>Ab (gu ((((x10&&x11)&&x12)&&x13)&&(KB x8.1 x14)) (Bz (⟨0,(⟨#[114]⟩:ByteArray),(⟨#[114]⟩:ByteArray),4,[],0,9,true,2,([(⟨#[42,46,97]⟩:ByteArray)]:List ByteArray),[],(⟨0,0⟩:g_api_Sig)⟩:Ac))) fun x15=>Ab (gu (((((x10&&x11)&&x12)&&x13)&&(KB x8.1 x14))&&(x15==0)) (Bz (⟨x1.Serial,x1.Issuer,x1.Subject,x1.Key,x1.Names,x1.From,x1.Until,x1.Ca,x1.Depth,x1.Permit,([(⟨0,0,(0,0),(⟨0,0⟩:g_api_Sig)⟩:g_api_Promise),(⟨0,0,(0,0),(⟨0,0⟩:g_api_Sig)⟩:g_api_Promise)]:List g_api_Promise),x1.Sig⟩:Ac))) fun x16=>Ab (gu ((((((x10&&x11)&&x12)&&x13)&&(KB x8.1 x14))&&(x15==0))&&(x16==1)) (Bz (⟨x1.Serial,x1.Issuer,x1.Subject,x1.Key,[],x1.From,x1.Until,x1.Ca,x1.Depth,x1.Permit,x1.Proms,x1.Sig⟩:Ac))) fun x17=>Ab (gu ((((((((x10&&x11)&&x12)&&x13)&&(KB x8.1 x14))&&(x15==0))&&(x16==1))&&(x17==1))&&(x9.2==71)) (FS x1 (⟨0,(⟨#[114]⟩:ByteArray),(⟨#[114]⟩:ByteArray),4,[],0,9,true,2,([(⟨#[42,46,97]⟩:ByteArray)]:List ByteArray),[],(⟨0,0⟩:g_api_Sig)⟩:Ac))) fun x18=>bnd ((((((((((x10&&x11)&&x12)&&x13)&&(KB x8.1 x14))&&(x15==0))&&(x16==1))&&(x17==1))&&(x9.2==71))&&(!x18))) fun x19=>some x19
theorem PU {r:Bool}(hm:Hh=some r):Sf prog 12 [] (.d (.t r)):=
 sp call12 func12 rfl ntmps12 rfl fun D0 As η0 m0 hd=>by
  unfold Hh at hm;obtain⟨x1,q1,hm⟩:=oY0 hm;refine gc (fun _=>LS q1) (by kernel_rfl) ?_;obtain⟨x2,q2,hm⟩:=oY0 hm;refine gc (fun _=>TW q2) (by kernel_rfl) ?_;obtain⟨x3,q3,hm⟩:=oY0 hm;refine gc (fun _=>JL q3) (by kernel_rfl) ?_;obtain⟨x4,q4,hm⟩:=oY0 hm;refine gco (Tz q4) (by kernel_rfl) ?_;obtain⟨x5,q5,hm⟩:=oY0 hm;refine gco (Kk q5) (by kernel_rfl) ?_;obtain⟨x6,q6,hm⟩:=oY0 hm;refine gco (Rc q6) (by kernel_rfl) ?_;obtain⟨x7,q7,hm⟩:=oY0 hm;refine gco (I3 q7) (by kernel_rfl) ?_;refine ET (k:=1) eS ([(⟨#[42,46,97]⟩:ByteArray)]:List ByteArray) (fun _=>rfl) (by kernel_rfl) ?_;obtain⟨x8,q8,hm⟩:=oY0 hm;refine gc (fun _=>Rb q8) (by kernel_rfl) ?_;refine ET (k:=6) Af ([(⟨0,0,(0,0),(⟨0,0⟩:g_api_Sig)⟩:g_api_Promise),(⟨0,0,(0,0),(⟨0,0⟩:g_api_Sig)⟩:g_api_Promise)]:List g_api_Promise) (fun _=>rfl) (by kernel_rfl) ?_;obtain⟨x9,q9,hm⟩:=oY0 hm;refine gc (fun _=>Kk q9) (by kernel_rfl) ?_;have hm:=A4 hm;let x10:Bool:=((((((((x2.2==0)&&(x3.2==0))&&(x4.2==0))&&(x5.2==0))&&(x6.2==0))&&(x7.2==0))&&(x8.2==0)));obtain⟨x11,q11,hm⟩:=oY0 hm;refine gcG (fun h=>HQ (Er h q11)) (by kernel_rfl) ?_;obtain⟨x12,q12,hm⟩:=oY0 hm;refine gcG (fun h=>HQ (Er h q12)) (by kernel_rfl) ?_;obtain⟨x13,q13,hm⟩:=oY0 hm;refine gcG (fun h=>HQ (Er h q13)) (by kernel_rfl) ?_;obtain⟨x14,q14,hm⟩:=oY0 hm;refine gcG (fun h=>JH (Er h q14)) (by kernel_rfl) ?_;obtain⟨x15,q15,hm⟩:=oY0 hm;refine gcG (fun h=>CP (Er h q15)) (by kernel_rfl) ?_;obtain⟨x16,q16,hm⟩:=oY0 hm;refine gcG (fun h=>CP (Er h q16)) (by kernel_rfl) ?_;obtain⟨x17,q17,hm⟩:=oY0 hm;refine gcG (fun h=>CP (Er h q17)) (by kernel_rfl) ?_;obtain⟨x18,q18,hm⟩:=oY0 hm;refine gcG (fun h=>HQ (Er h q18)) (by kernel_rfl) ?_;have hm:=A4 hm;let x19:Bool:=((((((((((x10&&x11)&&x12)&&x13)&&(KB x8.1 x14))&&(x15==0))&&(x16==1))&&(x17==1))&&(x9.2==71))&&(!x18)));have e0:=sI0 hm;subst e0;exact Au hd (by kernel_rfl)
def DY (a0:Int):Option Bool:=bnd (((decide (a0≥0))&&(decide (a0≤1099511627776)))) fun x1=>some x1
theorem GR {a0:Int}{r:Bool}(hm:DY a0=some r):Sf prog 71 [.d (.i a0)] (.d (.t r)):=
 sp call71 func71 rfl ntmps71 rfl fun D0 As η0 m0 hd=>by
  unfold DY at hm;have hm:=A4 hm;let x1:Bool:=(((decide (a0≥0))&&(decide (a0≤1099511627776))));have e0:=sI0 hm;subst e0;exact Au hd (by kernel_rfl)
def BK (a0:ByteArray)(s1:Int):Option ((Int)⊕((Unit)⊕Bool)):=if(decide (s1<(a0.size:Int)))=true then Ab (idx a0.data.toList s1) fun x3=>Ab (gu (!(decide ((x3.toNat:Int)<33))) (idx a0.data.toList s1)) fun x4=>if((decide ((x3.toNat:Int)<33))||(decide ((x4.toNat:Int)>126)))=true then some (.inr (.inr false))else some (.inl (w64 (s1+1)))else some (.inr (.inl ()))
def EY (a0:ByteArray):Option Bool:=Ab (iter (BK a0) Bv 0) fun x1=>match x1 with| .inr r=>some r| .inl y1=>bnd (((decide ((a0.size:Int)≥1))&&(decide ((a0.size:Int)≤64)))) fun x5=>some x5
theorem KH {a0:ByteArray}{r:Bool}(hm:EY a0=some r):Sf prog 72 [.d (.s a0)] (.d (.t r)):=
 sp call72 func72 rfl ntmps72 rfl fun D0 As η0 m0 hd=>by
  unfold EY at hm;obtain⟨x1,q1,hm⟩:=oY0 hm;refine gjU 0 (fun(y1:Unit)=>⟨[(0,.d (.s a0))],[],[],0⟩) (fun y1=>x1= .inl y1) (by kernel_rfl) (fun Jp bk1=> ?_) fun y1 hy=> ?_
  ·refine gl hd (fun(p:Nat×(Int))=>let (p0,p_0):=p; ⟨[(0,.d (.s a0)),(3,.d (.i p_0))],[],[],0⟩) (fun p=>iter (BK a0) p.1 p.2=some x1) (fun p=>p.1) (Bv,0) q1 (by kernel_rfl) ?_;rintro⟨n1,s1⟩ q2 Jl bl1;cases n1 with
   |zero=>exact(AT q2).elim
   |succ n1=>
    obtain⟨y2,q4,q3⟩:=AO q2;unfold BK at q4;refine gi q4 (by kernel_rfl) (fun hc1 q4=> ?_) fun hc1 q4=> ?_
    ·skip;obtain⟨x3,q6,q4⟩:=oY0 q4;refine TU (fun _=>q6) (by kernel_rfl) ?_;obtain⟨x4,q7,q4⟩:=oY0 q4;refine MH (fun h=>Er h q7) (by kernel_rfl) ?_;refine gi q4 (by kernel_rfl) (fun hc2 q4=> ?_) fun hc2 q4=> ?_
     ·skip;cases q4;rcases q3 with ⟨sn,e,_⟩|e
      ·cases e
      cases e;dsimp only at hm;have e0:=sI0 hm;subst e0;exact Au hd (by kernel_rfl)
     have e0:=sI0 q4;subst e0;rcases q3 with ⟨sn,e,q3'⟩|e
     ·have e:=Sum.inl.inj e;subst e;exact gb bl1 hd (n1,_) ⟨q3',Nat.lt_succ_self _⟩ (by kernel_rfl)
     cases Cb e
    have e0:=sI0 q4;subst e0;rcases q3 with ⟨sn,e,_⟩|e
    ·cases CQ e
    have e:=Sum.inr.inj e;subst e;exact gb bk1 hd () rfl (by kernel_rfl)
  subst hy;dsimp only at hm;have hm:=A4 hm;let x5:Bool:=(((decide ((a0.size:Int)≥1))&&(decide ((a0.size:Int)≤64))));have e0:=sI0 hm;subst e0;exact Au hd (by kernel_rfl)
def DC (a0:g_api_Sig):Option Bool:=bnd (((decide ((a0.E.toNat:Int)<1152921504606845789))&&(decide ((a0.S.toNat:Int)<1152921504606845789)))) fun x1=>some x1
theorem I2 {a0:g_api_Sig}{r:Bool}(hm:DC a0=some r):Sf prog 73 [ag (QN a0)] (.d (.t r)):=
 sp call73 func73 rfl ntmps73 rfl fun D0 As η0 m0 hd=>by
  unfold DC at hm;have hm:=A4 hm;let x1:Bool:=(((decide ((a0.E.toNat:Int)<1152921504606845789))&&(decide ((a0.S.toNat:Int)<1152921504606845789))));have e0:=sI0 hm;subst e0;exact Au hd (by kernel_rfl)
def D1 (a0:g_api_Promise):Option Bool:=Ab (DY a0.Log) fun x1=>Ab (gu x1 (DY a0.At)) fun x2=>Ab (gu (((x1&&x2)&&(decide ((a0.Leaf.1.toNat:Int)<2305843009213693951)))&&(decide ((a0.Leaf.2.toNat:Int)<2305843009213693951))) (DC a0.Sig)) fun x3=>bnd (((((x1&&x2)&&(decide ((a0.Leaf.1.toNat:Int)<2305843009213693951)))&&(decide ((a0.Leaf.2.toNat:Int)<2305843009213693951)))&&x3)) fun x4=>some x4
theorem LK {a0:g_api_Promise}{r:Bool}(hm:D1 a0=some r):Sf prog 74 [ag (Af a0)] (.d (.t r)):=
 sp call74 func74 rfl ntmps74 rfl fun D0 As η0 m0 hd=>by
  unfold D1 at hm;obtain⟨x1,q1,hm⟩:=oY0 hm;refine gc (fun _=>GR q1) (by kernel_rfl) ?_;obtain⟨x2,q2,hm⟩:=oY0 hm;refine gcG (fun h=>GR (Er h q2)) (by kernel_rfl) ?_;obtain⟨x3,q3,hm⟩:=oY0 hm;refine gcG (fun h=>I2 (Er h q3)) (by kernel_rfl) ?_;have hm:=A4 hm;let x4:Bool:=(((((x1&&x2)&&(decide ((a0.Leaf.1.toNat:Int)<2305843009213693951)))&&(decide ((a0.Leaf.2.toNat:Int)<2305843009213693951)))&&x3));have e0:=sI0 hm;subst e0;exact Au hd (by kernel_rfl)
def Bi (a0:ByteArray)(s1:(List ByteArray)×Int×Int):Option (((List ByteArray)×Int×Int)⊕((List ByteArray)×Int)):=if(decide (s1.2.2<(a0.size:Int)))=true then Ab (Ab (idx a0.data.toList s1.2.2) fun x5=>if((x5.toNat:Int)==46)=true then Ab (Lj a0 s1.2.1 s1.2.2) fun x6=>Ab (app 16 s1.1 ([x6]:List ByteArray)) fun x7=>some (x7,(w64 (s1.2.2+1)))else some (s1.1,s1.2.1)) fun x4=>some (.inl (x4.1,x4.2,(w64 (s1.2.2+1))))else some (.inr (s1.1,s1.2.1))
def FL (a0:ByteArray):Option (List ByteArray):=Ab (Ab (iter (Bi a0) Bv (([]:List ByteArray),0,0)) fun x2=>some (x2.1,x2.2)) fun x1=>Ab (Lj a0 x1.2 (a0.size:Int)) fun x8=>Ab (app 16 x1.1 ([x8]:List ByteArray)) fun x9=>some x9
theorem LM {a0:ByteArray}{r:List ByteArray}(hm:FL a0=some r):Sp prog 158 [.d (.s a0)] [] 0 (is (.ow 0) [.row 0 1 _ eS r] 1):=
 sp call158 func158 rfl ntmps158 rfl fun D0 As η0 m0 hd=>by
  unfold FL at hm;obtain⟨x1,q1,hm⟩:=oY0 hm;obtain⟨x2,q2,q1⟩:=oY0 q1;refine VX 0 eS 3 1 (by kernel_rfl) ?_;refine gjU 0 (fun(_:Unit)=>let (y_0,y_1):=x1; ⟨[(0,.d (.s a0)),(3,.ow 0),(4,.d (.i y_1))],[(0,.row 0 1 _ eS y_0)],[],1⟩) (fun _=>True) (by kernel_rfl) (fun Jp bk1=> ?_) fun _ _=> ?_
  ·refine gjU 0 (fun(_:Unit)=>let (y_0,y_1):=x2; ⟨[(0,.d (.s a0)),(3,.ow 0),(4,.d (.i y_1))],[(0,.row 0 1 _ eS y_0)],[],1⟩) (fun _=>True) (by kernel_rfl) (fun Jp bk2=> ?_) fun _ _=> ?_
   ·refine gl hd (fun(p:Nat×((List ByteArray)×Int×Int))=>let (p0,p_0,p_1,p_2):=p; ⟨[(0,.d (.s a0)),(3,.ow 0),(4,.d (.i p_1)),(5,.d (.i p_2))],[(0,.row 0 1 _ eS p_0)],[],1⟩) (fun p=>iter (Bi a0) p.1 p.2=some x2) (fun p=>p.1) (Bv,(([]:List ByteArray),0,0)) q2 (by kernel_rfl) ?_;rintro⟨n1,s1⟩ q3 Jl bl1;cases n1 with
    |zero=>exact(AT q3).elim
    |succ n1=>
     obtain⟨y1,q5,q4⟩:=AO q3;unfold Bi at q5;refine gi q5 (by kernel_rfl) (fun hc1 q5=> ?_) fun hc1 q5=> ?_
     ·skip;obtain⟨x4,q7,q5⟩:=oY0 q5;refine gjU 1 (fun(_:Unit)=>let (y_0,y_1):=x4; ⟨[(0,.d (.s a0)),(3,.ow 0),(4,.d (.i y_1)),(5,.d (.i s1.2.2))],[(0,.row 0 1 _ eS y_0)],[],1⟩) (fun _=>True) (by kernel_rfl) (fun Jp bk3=> ?_) fun _ _=> ?_
      ·skip;obtain⟨x5,q8,q7⟩:=oY0 q7;refine TU (fun _=>q8) (by kernel_rfl) ?_;refine gi q7 (by kernel_rfl) (fun hc2 q7=> ?_) fun hc2 q7=> ?_
       ·skip;obtain⟨x6,q9,q7⟩:=oY0 q7;refine TV (fun _=>q9) (by kernel_rfl) ?_;refine ET (k:=1) eS ([x6]:List ByteArray) (fun _=>rfl) (by kernel_rfl) ?_;obtain⟨x7,q10,q7⟩:=oY0 q7;refine Jv (k:=1) (E:=eS) (fun _=>rfl) q10 (by kernel_rfl) ?_;have e0:=sI0 q7;subst e0;exact gb bk3 hd () trivial (by kernel_rfl)
       have e0:=sI0 q7;subst e0;exact gb bk3 hd () trivial (by kernel_rfl)
      have e0:=sI0 q5;subst e0;rcases q4 with ⟨sn,e,q4'⟩|e
      ·have e:=Sum.inl.inj e;subst e;exact gb bl1 hd (n1,_) ⟨q4',Nat.lt_succ_self _⟩ (by kernel_rfl)
      cases Cb e
     have e0:=sI0 q5;subst e0;rcases q4 with ⟨sn,e,_⟩|e
     ·cases CQ e
     have e:=Sum.inr.inj e;subst e;exact gb bk2 hd () trivial (by kernel_rfl)
   have e0:=sI0 q1;subst e0;exact gb bk1 hd () trivial (by kernel_rfl)
  obtain⟨x8,q11,hm⟩:=oY0 hm;refine TV (fun _=>q11) (by kernel_rfl) ?_;refine ET (k:=1) eS ([x8]:List ByteArray) (fun _=>rfl) (by kernel_rfl) ?_;obtain⟨x9,q12,hm⟩:=oY0 hm;refine Jv (k:=1) (E:=eS) (fun _=>rfl) q12 (by kernel_rfl) ?_;have e0:=sI0 hm;subst e0;exact Au hd (by kernel_rfl)
def CS (a0:UInt8):Option Bool:=bnd ((((decide ((a0.toNat:Int)≥97))&&(decide ((a0.toNat:Int)≤122)))||((decide ((a0.toNat:Int)≥48))&&(decide ((a0.toNat:Int)≤57))))) fun x1=>some x1
theorem Il {a0:UInt8}{r:Bool}(hm:CS a0=some r):Sf prog 187 [.d (.b a0)] (.d (.t r)):=
 sp call187 func187 rfl ntmps187 rfl fun D0 As η0 m0 hd=>by
  unfold CS at hm;have hm:=A4 hm;let x1:Bool:=((((decide ((a0.toNat:Int)≥97))&&(decide ((a0.toNat:Int)≤122)))||((decide ((a0.toNat:Int)≥48))&&(decide ((a0.toNat:Int)≤57)))));have e0:=sI0 hm;subst e0;exact Au hd (by kernel_rfl)
def Bo (a0:ByteArray)(s1:Int):Option ((Int)⊕((Unit)⊕Bool)):=if(decide (s1<(a0.size:Int)))=true then Ab (idx a0.data.toList s1) fun x8=>Ab (CS x8) fun x9=>Ab (gu (!x9) (idx a0.data.toList s1)) fun x10=>if((!x9)&&((x10.toNat:Int) !=45))=true then some (.inr (.inr false))else some (.inl (w64 (s1+1)))else some (.inr (.inl ()))
def Fj (a0:ByteArray):Option Bool:=Ab (gu (!((decide ((a0.size:Int)<1))||(decide ((a0.size:Int)>16)))) (idx a0.data.toList (w64 ((a0.size:Int)-1)))) fun x1=>Ab (gu (!((decide ((a0.size:Int)<1))||(decide ((a0.size:Int)>16)))) (CS x1)) fun x2=>Ab (gu (!(((decide ((a0.size:Int)<1))||(decide ((a0.size:Int)>16)))||(!x2))) (idx a0.data.toList 0)) fun x3=>Ab (gu (!(((decide ((a0.size:Int)<1))||(decide ((a0.size:Int)>16)))||(!x2))) (CS x3)) fun x4=>Ab (gu ((!(((decide ((a0.size:Int)<1))||(decide ((a0.size:Int)>16)))||(!x2)))&&(!x4)) (idx a0.data.toList 0)) fun x5=>if((((decide ((a0.size:Int)<1))||(decide ((a0.size:Int)>16)))||(!x2))||((!x4)&&((x5.toNat:Int) !=95)))=true then some false else Ab (iter (Bo a0) Bv 1) fun x6=>match x6 with| .inr r=>some r| .inl y1=>some true
theorem Oe {a0:ByteArray}{r:Bool}(hm:Fj a0=some r):Sf prog 159 [.d (.s a0)] (.d (.t r)):=
 sp call159 func159 rfl ntmps159 rfl fun D0 As η0 m0 hd=>by
  unfold Fj at hm;obtain⟨x1,q1,hm⟩:=oY0 hm;refine MH (fun h=>Er h q1) (by kernel_rfl) ?_;obtain⟨x2,q2,hm⟩:=oY0 hm;refine gcG (fun h=>Il (Er h q2)) (by kernel_rfl) ?_;obtain⟨x3,q3,hm⟩:=oY0 hm;refine MH (fun h=>Er h q3) (by kernel_rfl) ?_;obtain⟨x4,q4,hm⟩:=oY0 hm;refine gcG (fun h=>Il (Er h q4)) (by kernel_rfl) ?_;obtain⟨x5,q5,hm⟩:=oY0 hm;refine MH (fun h=>Er h q5) (by kernel_rfl) ?_;refine gi hm (by kernel_rfl) (fun hc1 hm=> ?_) fun hc1 hm=> ?_
  ·skip;have e0:=sI0 hm;subst e0;exact Au hd (by kernel_rfl)
  obtain⟨x6,q6,hm⟩:=oY0 hm;refine gjU 0 (fun(y1:Unit)=>⟨[],[],[],0⟩) (fun y1=>x6= .inl y1) (by kernel_rfl) (fun Jp bk1=> ?_) fun y1 hy=> ?_
  ·refine gl hd (fun(p:Nat×(Int))=>let (p0,p_0):=p; ⟨[(0,.d (.s a0)),(3,.d (.i (a0.size:Int))),(4,.d (.i p_0))],[],[],0⟩) (fun p=>iter (Bo a0) p.1 p.2=some x6) (fun p=>p.1) (Bv,1) q6 (by kernel_rfl) ?_;rintro⟨n1,s1⟩ q7 Jl bl1;cases n1 with
   |zero=>exact(AT q7).elim
   |succ n1=>
    obtain⟨y2,q9,q8⟩:=AO q7;unfold Bo at q9;refine gi q9 (by kernel_rfl) (fun hc2 q9=> ?_) fun hc2 q9=> ?_
    ·skip;obtain⟨x8,q11,q9⟩:=oY0 q9;refine TU (fun _=>q11) (by kernel_rfl) ?_;obtain⟨x9,q12,q9⟩:=oY0 q9;refine gc (fun _=>Il q12) (by kernel_rfl) ?_;obtain⟨x10,q13,q9⟩:=oY0 q9;refine MH (fun h=>Er h q13) (by kernel_rfl) ?_;refine gi q9 (by kernel_rfl) (fun hc3 q9=> ?_) fun hc3 q9=> ?_
     ·skip;cases q9;rcases q8 with ⟨sn,e,_⟩|e
      ·cases e
      cases e;dsimp only at hm;have e0:=sI0 hm;subst e0;exact Au hd (by kernel_rfl)
     have e0:=sI0 q9;subst e0;rcases q8 with ⟨sn,e,q8'⟩|e
     ·have e:=Sum.inl.inj e;subst e;exact gb bl1 hd (n1,_) ⟨q8',Nat.lt_succ_self _⟩ (by kernel_rfl)
     cases Cb e
    have e0:=sI0 q9;subst e0;rcases q8 with ⟨sn,e,_⟩|e
    ·cases CQ e
    have e:=Sum.inr.inj e;subst e;exact gb bk1 hd () rfl (by kernel_rfl)
  subst hy;dsimp only at hm;have e0:=sI0 hm;subst e0;exact Au hd (by kernel_rfl)
def Bq (x1:List ByteArray)(s1:Int):Option ((Int)⊕((Unit)⊕Bool)):=if(decide (s1<(x1.length:Int)))=true then Ab (idx x1 s1) fun x4=>Ab (Fj x4) fun x5=>if(!x5)=true then some (.inr (.inr false))else some (.inl (w64 (s1+1)))else some (.inr (.inl ()))
def Dk (a0:ByteArray):Option Bool:=if(decide ((a0.size:Int)>64))=true then some false else Ab (FL a0) fun x1=>Ab (iter (Bq x1) Bv 0) fun x2=>match x2 with| .inr r=>some r| .inl y1=>bnd ((decide ((x1.length:Int)≤8))) fun x6=>some x6
theorem Im {a0:ByteArray}{r:Bool}(hm:Dk a0=some r):Sf prog 122 [.d (.s a0)] (.d (.t r)):=
 sp call122 func122 rfl ntmps122 rfl fun D0 As η0 m0 hd=>by
  unfold Dk at hm;refine gi hm (by kernel_rfl) (fun hc1 hm=> ?_) fun hc1 hm=> ?_
  ·skip;have e0:=sI0 hm;subst e0;exact Au hd (by kernel_rfl)
  obtain⟨x1,q1,hm⟩:=oY0 hm;refine gco (LM q1) (by kernel_rfl) ?_;obtain⟨x2,q2,hm⟩:=oY0 hm;refine gjU 0 (fun(y1:Unit)=>⟨[(3,.ow 0)],[(0,.row 0 1 _ eS x1)],[],1⟩) (fun y1=>x2= .inl y1) (by kernel_rfl) (fun Jp bk1=> ?_) fun y1 hy=> ?_
  ·refine gl hd (fun(p:Nat×(Int))=>let (p0,p_0):=p; ⟨[(3,.ow 0),(4,.d (.i p_0))],[(0,.row 0 1 _ eS x1)],[],1⟩) (fun p=>iter (Bq x1) p.1 p.2=some x2) (fun p=>p.1) (Bv,0) q2 (by kernel_rfl) ?_;rintro⟨n1,s1⟩ q3 Jl bl1;cases n1 with
   |zero=>exact(AT q3).elim
   |succ n1=>
    obtain⟨y2,q5,q4⟩:=AO q3;unfold Bq at q5;refine gi q5 (by kernel_rfl) (fun hc2 q5=> ?_) fun hc2 q5=> ?_
    ·skip;obtain⟨x4,q7,q5⟩:=oY0 q5;refine gidxO (E:=eS) (fun _=>q7) (by kernel_rfl) ?_;refine gldO (k:=1) (fo:=0) (nn:=1) (ag:=false) (E:=eS) (fun _=>rfl) (fun _=>q7) (by kernel_rfl) ?_;obtain⟨x5,q8,q5⟩:=oY0 q5;refine gc (fun _=>Oe q8) (by kernel_rfl) ?_;refine gi q5 (by kernel_rfl) (fun hc3 q5=> ?_) fun hc3 q5=> ?_
     ·skip;cases q5;rcases q4 with ⟨sn,e,_⟩|e
      ·cases e
      cases e;dsimp only at hm;have e0:=sI0 hm;subst e0;exact Au hd (by kernel_rfl)
     have e0:=sI0 q5;subst e0;rcases q4 with ⟨sn,e,q4'⟩|e
     ·have e:=Sum.inl.inj e;subst e;exact gb bl1 hd (n1,_) ⟨q4',Nat.lt_succ_self _⟩ (by kernel_rfl)
     cases Cb e
    have e0:=sI0 q5;subst e0;rcases q4 with ⟨sn,e,_⟩|e
    ·cases CQ e
    have e:=Sum.inr.inj e;subst e;exact gb bk1 hd () rfl (by kernel_rfl)
  subst hy;dsimp only at hm;have hm:=A4 hm;let x6:Bool:=((decide ((x1.length:Int)≤8)));have e0:=sI0 hm;subst e0;exact Au hd (by kernel_rfl)
def Be (a0:List ByteArray)(s1:Int)(s2:Int):Option ((Int)⊕((Unit)⊕Bool)):=if(decide (s2<s1))=true then Ab (idx a0 s2) fun x5=>Ab (idx a0 s1) fun x6=>if(eqS x5 x6)=true then some (.inr (.inr false))else some (.inl (w64 (s2+1)))else some (.inr (.inl ()))
def Bf (a0:List ByteArray)(s1:Int):Option ((Int)⊕((Unit)⊕Bool)):=if(decide (s1<(a0.length:Int)))=true then Ab (iter (Be a0 s1) Bv 0) fun x3=>match x3 with| .inr r=>some (.inr (.inr r))| .inl y3=>some (.inl (w64 (s1+1)))else some (.inr (.inl ()))
def DB (a0:List ByteArray):Option Bool:=Ab (iter (Bf a0) Bv 0) fun x1=>match x1 with| .inr r=>some r| .inl y1=>some true
theorem I0 {a0:List ByteArray}{r:Bool}(hm:DB a0=some r):Sf prog 123 [sl eS a0] (.d (.t r)):=
 sp call123 func123 rfl ntmps123 rfl fun D0 As η0 m0 hd=>by
  unfold DB at hm;obtain⟨x1,q1,hm⟩:=oY0 hm;refine gjU 0 (fun(y1:Unit)=>⟨[],[],[],0⟩) (fun y1=>x1= .inl y1) (by kernel_rfl) (fun Jp bk1=> ?_) fun y1 hy=> ?_
  ·refine gl hd (fun(p:Nat×(Int))=>let (p0,p_0):=p; ⟨[(0,sl eS a0),(3,.d (.i p_0))],[],[],0⟩) (fun p=>iter (Bf a0) p.1 p.2=some x1) (fun p=>p.1) (Bv,0) q1 (by kernel_rfl) ?_;rintro⟨n1,s1⟩ q2 Jl bl1;cases n1 with
   |zero=>exact(AT q2).elim
   |succ n1=>
    obtain⟨y2,q4,q3⟩:=AO q2;unfold Bf at q4;refine gi q4 (by kernel_rfl) (fun hc1 q4=> ?_) fun hc1 q4=> ?_
    ·skip;obtain⟨x3,q6,q4⟩:=oY0 q4;refine gjU 2 (fun(y3:Unit)=>⟨[(0,sl eS a0),(3,.d (.i s1))],[],[],0⟩) (fun y3=>x3= .inl y3) (by kernel_rfl) (fun Jp bk2=> ?_) fun y3 hy=> ?_
     ·refine gl hd (fun(p:Nat×(Int))=>let (p0,p_0):=p; ⟨[(0,sl eS a0),(3,.d (.i s1)),(4,.d (.i p_0))],[],[],0⟩) (fun p=>iter (Be a0 s1) p.1 p.2=some x3) (fun p=>p.1) (Bv,0) q6 (by kernel_rfl) ?_;rintro⟨n2,s2⟩ q7 Jl bl2;cases n2 with
      |zero=>exact(AT q7).elim
      |succ n2=>
       obtain⟨y4,q9,q8⟩:=AO q7;unfold Be at q9;refine gi q9 (by kernel_rfl) (fun hc2 q9=> ?_) fun hc2 q9=> ?_
       ·skip;obtain⟨x5,q11,q9⟩:=oY0 q9;refine Gx (k:=1) (E:=eS) (fun _=>rfl) (fun _=>q11) (by kernel_rfl) ?_;obtain⟨x6,q12,q9⟩:=oY0 q9;refine Gx (k:=1) (E:=eS) (fun _=>rfl) (fun _=>q12) (by kernel_rfl) ?_;refine gi q9 (by kernel_rfl) (fun hc3 q9=> ?_) fun hc3 q9=> ?_
        ·skip;cases q9;rcases q8 with ⟨sn,e,_⟩|e
         ·cases e
         cases e;dsimp only at q4;cases q4;rcases q3 with ⟨sn,e,_⟩|e
         ·cases e
         cases e;dsimp only at hm;have e0:=sI0 hm;subst e0;exact Au hd (by kernel_rfl)
        have e0:=sI0 q9;subst e0;rcases q8 with ⟨sn,e,q8'⟩|e
        ·have e:=Sum.inl.inj e;subst e;exact gb bl2 hd (n2,_) ⟨q8',Nat.lt_succ_self _⟩ (by kernel_rfl)
        cases Cb e
       have e0:=sI0 q9;subst e0;rcases q8 with ⟨sn,e,_⟩|e
       ·cases CQ e
       have e:=Sum.inr.inj e;subst e;exact gb bk2 hd () rfl (by kernel_rfl)
     subst hy;dsimp only at q4;have e0:=sI0 q4;subst e0;rcases q3 with ⟨sn,e,q3'⟩|e
     ·have e:=Sum.inl.inj e;subst e;exact gb bl1 hd (n1,_) ⟨q3',Nat.lt_succ_self _⟩ (by kernel_rfl)
     cases Cb e
    have e0:=sI0 q4;subst e0;rcases q3 with ⟨sn,e,_⟩|e
    ·cases CQ e
    have e:=Sum.inr.inj e;subst e;exact gb bk1 hd () rfl (by kernel_rfl)
  subst hy;dsimp only at hm;have e0:=sI0 hm;subst e0;exact Au hd (by kernel_rfl)
def Ge (a0:ByteArray):Option (ByteArray×Bool):=Ab (gu (!((decide ((a0.size:Int)<3))||(decide ((a0.size:Int)>64)))) (idx a0.data.toList 0)) fun x1=>Ab (gu (!(((decide ((a0.size:Int)<3))||(decide ((a0.size:Int)>64)))||((x1.toNat:Int) !=42))) (idx a0.data.toList 1)) fun x2=>Ab (gu (!((((decide ((a0.size:Int)<3))||(decide ((a0.size:Int)>64)))||((x1.toNat:Int) !=42))||((x2.toNat:Int) !=46))) (Lj a0 2 (a0.size:Int))) fun x3=>Ab (gu (!((((decide ((a0.size:Int)<3))||(decide ((a0.size:Int)>64)))||((x1.toNat:Int) !=42))||((x2.toNat:Int) !=46))) (Dk x3)) fun x4=>if(((((decide ((a0.size:Int)<3))||(decide ((a0.size:Int)>64)))||((x1.toNat:Int) !=42))||((x2.toNat:Int) !=46))||(!x4))=true then some ((⟨#[]⟩:ByteArray),false)else Ab (Lj a0 2 (a0.size:Int)) fun x5=>Ab (FL x5) fun x6=>if(decide ((x6.length:Int)>7))=true then some ((⟨#[]⟩:ByteArray),false)else Ab (Lj a0 2 (a0.size:Int)) fun x7=>some (x7,true)
theorem PM {a0:ByteArray}{r:ByteArray×Bool}(hm:Ge a0=some r):Sf prog 160 [.d (.s a0)] (.tup [.d (.s r.1),.d (.t r.2)]):=
 sp call160 func160 rfl ntmps160 rfl fun D0 As η0 m0 hd=>by
  unfold Ge at hm;obtain⟨x1,q1,hm⟩:=oY0 hm;refine MH (fun h=>Er h q1) (by kernel_rfl) ?_;obtain⟨x2,q2,hm⟩:=oY0 hm;refine MH (fun h=>Er h q2) (by kernel_rfl) ?_;obtain⟨x3,q3,hm⟩:=oY0 hm;refine YB (fun h=>Er h q3) (by kernel_rfl) ?_;obtain⟨x4,q4,hm⟩:=oY0 hm;refine gcG (fun h=>Im (Er h q4)) (by kernel_rfl) ?_;refine gspl 28 hm (by kernel_rfl) (fun hc1 hm=> ?_) fun hc1 hm=> ?_
  ·skip;refine gi' (b:=true) (by kernel_rfl) (fun _=> ?_) (fun h=>by cases h);have e0:=sI0 hm;subst e0;exact Au hd (by kernel_rfl)
  obtain⟨x5,q5,hm⟩:=oY0 hm;refine TV (fun _=>q5) (by kernel_rfl) ?_;obtain⟨x6,q6,hm⟩:=oY0 hm;refine gco (LM q6) (by kernel_rfl) ?_;refine gi hm (by kernel_rfl) (fun hc2 hm=> ?_) fun hc2 hm=> ?_
  ·skip;have e0:=sI0 hm;subst e0;exact Au hd (by kernel_rfl)
  obtain⟨x7,q7,hm⟩:=oY0 hm;refine TV (fun _=>q7) (by kernel_rfl) ?_;have e0:=sI0 hm;subst e0;exact Au hd (by kernel_rfl)
def D4 (a0:ByteArray):Option Int:=Ab (Ge a0) fun x1=>Ab (gu (!x1.2) (Dk a0)) fun x2=>if((!x1.2)&&(!x2))=true then some 110 else some 0
theorem LN {a0:ByteArray}{r:Int}(hm:D4 a0=some r):Sf prog 124 [.d (.s a0)] (.d (.i r)):=
 sp call124 func124 rfl ntmps124 rfl fun D0 As η0 m0 hd=>by
  unfold D4 at hm;obtain⟨x1,q1,hm⟩:=oY0 hm;refine gc (fun _=>PM q1) (by kernel_rfl) ?_;obtain⟨x2,q2,hm⟩:=oY0 hm;refine gcG (fun h=>Im (Er h q2)) (by kernel_rfl) ?_;refine gi hm (by kernel_rfl) (fun hc1 hm=> ?_) fun hc1 hm=> ?_
  ·skip;have e0:=sI0 hm;subst e0;exact Au hd (by kernel_rfl)
  have e0:=sI0 hm;subst e0;exact Au hd (by kernel_rfl)
def BI (a0:Ac)(s1:Int):Option ((Int)⊕((Unit)⊕Bool)):=if(decide (s1<(a0.Names.length:Int)))=true then Ab (idx a0.Names s1) fun x3=>Ab (Dk x3) fun x4=>if(!x4)=true then some (.inr (.inr false))else some (.inl (w64 (s1+1)))else some (.inr (.inl ()))
def BH (a0:Ac)(s2:Int):Option ((Int)⊕((Unit)⊕Bool)):=if(decide (s2<(a0.Permit.length:Int)))=true then Ab (idx a0.Permit s2) fun x9=>Ab (D4 x9) fun x10=>if(x10 !=0)=true then some (.inr (.inr false))else some (.inl (w64 (s2+1)))else some (.inr (.inl ()))
def Gb (a0:Ac):Option Bool:=
 if(!a0.Ca)=true then
  Ab (iter (BI a0) Bv 0) fun x1=>match x1 with
  | .inr r=>some r
  | .inl y1=>
  Ab (gu (((eqS a0.Subject (⟨#[]⟩:ByteArray))&&(decide ((a0.Names.length:Int)≥1)))&&(decide ((a0.Names.length:Int)≤8))) (DB a0.Names)) fun x5=>
  bnd (((((((eqS a0.Subject (⟨#[]⟩:ByteArray))&&(decide ((a0.Names.length:Int)≥1)))&&(decide ((a0.Names.length:Int)≤8)))&&x5)&&(a0.Depth==0))&&((a0.Permit.length:Int)==0))) fun x6=>
  some x6
 else
 Ab (iter (BH a0) Bv 0) fun x7=>match x7 with
 | .inr r=>some r
 | .inl y3=>
 Ab (EY a0.Subject) fun x11=>
 Ab (gu ((((x11&&((a0.Names.length:Int)==0))&&(decide (a0.Depth≥0)))&&(decide (a0.Depth≤4)))&&(decide ((a0.Permit.length:Int)≤8))) (DB a0.Permit)) fun x12=>
 bnd ((((((x11&&((a0.Names.length:Int)==0))&&(decide (a0.Depth≥0)))&&(decide (a0.Depth≤4)))&&(decide ((a0.Permit.length:Int)≤8)))&&x12)) fun x13=>
 some x13
theorem PI {a0:Ac}{r:Bool}(hm:Gb a0=some r):Sf prog 75 [ag (Aq a0)] (.d (.t r)):=
 sp call75 func75 rfl ntmps75 rfl fun D0 As η0 m0 hd=>by
  unfold Gb at hm;refine gi hm (by kernel_rfl) (fun hc1 hm=> ?_) fun hc1 hm=> ?_
  ·skip;obtain⟨x1,q1,hm⟩:=oY0 hm;refine gjU 0 (fun(y1:Unit)=>⟨[(1,.pb 0 0)],[(0,.box 0 [.d (.i a0.Serial),.d (.s a0.Issuer),.d (.s a0.Subject),.d (.u a0.Key),sl eS a0.Names,.d (.i a0.From),.d (.i a0.Until),.d (.t a0.Ca),.d (.i a0.Depth),sl eS a0.Permit,sl Af a0.Proms,.d (.u a0.Sig.E),.d (.u a0.Sig.S)] 28)],[],1⟩) (fun y1=>x1= .inl y1) (by kernel_rfl) (fun Jp bk1=> ?_) fun y1 hy=> ?_
   ·refine gl hd (fun(p:Nat×(Int))=>let (p0,p_0):=p; ⟨[(1,.pb 0 0),(3,.d (.i p_0))],[(0,.box 0 [.d (.i a0.Serial),.d (.s a0.Issuer),.d (.s a0.Subject),.d (.u a0.Key),sl eS a0.Names,.d (.i a0.From),.d (.i a0.Until),.d (.t a0.Ca),.d (.i a0.Depth),sl eS a0.Permit,sl Af a0.Proms,.d (.u a0.Sig.E),.d (.u a0.Sig.S)] 28)],[],1⟩) (fun p=>iter (BI a0) p.1 p.2=some x1) (fun p=>p.1) (Bv,0) q1 (by kernel_rfl) ?_;rintro⟨n1,s1⟩ q2 Jl bl1;cases n1 with
    |zero=>exact(AT q2).elim
    |succ n1=>
     obtain⟨y2,q4,q3⟩:=AO q2;unfold BI at q4;refine gi q4 (by kernel_rfl) (fun hc2 q4=> ?_) fun hc2 q4=> ?_
     ·skip;obtain⟨x3,q6,q4⟩:=oY0 q4;refine Gx (k:=1) (E:=eS) (fun _=>rfl) (fun _=>q6) (by kernel_rfl) ?_;obtain⟨x4,q7,q4⟩:=oY0 q4;refine gc (fun _=>Im q7) (by kernel_rfl) ?_;refine gi q4 (by kernel_rfl) (fun hc3 q4=> ?_) fun hc3 q4=> ?_
      ·skip;cases q4;rcases q3 with ⟨sn,e,_⟩|e
       ·cases e
       cases e;dsimp only at hm;have e0:=sI0 hm;subst e0;exact Au hd (by kernel_rfl)
      have e0:=sI0 q4;subst e0;rcases q3 with ⟨sn,e,q3'⟩|e
      ·have e:=Sum.inl.inj e;subst e;exact gb bl1 hd (n1,_) ⟨q3',Nat.lt_succ_self _⟩ (by kernel_rfl)
      cases Cb e
     have e0:=sI0 q4;subst e0;rcases q3 with ⟨sn,e,_⟩|e
     ·cases CQ e
     have e:=Sum.inr.inj e;subst e;exact gb bk1 hd () rfl (by kernel_rfl)
   subst hy;dsimp only at hm;obtain⟨x5,q8,hm⟩:=oY0 hm;refine gcG (fun h=>I0 (Er h q8)) (by kernel_rfl) ?_;have hm:=A4 hm;let x6:Bool:=(((((((eqS a0.Subject (⟨#[]⟩:ByteArray))&&(decide ((a0.Names.length:Int)≥1)))&&(decide ((a0.Names.length:Int)≤8)))&&x5)&&(a0.Depth==0))&&((a0.Permit.length:Int)==0)));have e0:=sI0 hm;subst e0;exact Au hd (by kernel_rfl)
  obtain⟨x7,q10,hm⟩:=oY0 hm;refine gjU 2 (fun(y3:Unit)=>⟨[(1,.pb 0 0)],[(0,.box 0 [.d (.i a0.Serial),.d (.s a0.Issuer),.d (.s a0.Subject),.d (.u a0.Key),sl eS a0.Names,.d (.i a0.From),.d (.i a0.Until),.d (.t a0.Ca),.d (.i a0.Depth),sl eS a0.Permit,sl Af a0.Proms,.d (.u a0.Sig.E),.d (.u a0.Sig.S)] 28)],[],1⟩) (fun y3=>x7= .inl y3) (by kernel_rfl) (fun Jp bk2=> ?_) fun y3 hy=> ?_
  ·refine gl hd (fun(p:Nat×(Int))=>let (p0,p_0):=p; ⟨[(1,.pb 0 0),(4,.d (.i p_0))],[(0,.box 0 [.d (.i a0.Serial),.d (.s a0.Issuer),.d (.s a0.Subject),.d (.u a0.Key),sl eS a0.Names,.d (.i a0.From),.d (.i a0.Until),.d (.t a0.Ca),.d (.i a0.Depth),sl eS a0.Permit,sl Af a0.Proms,.d (.u a0.Sig.E),.d (.u a0.Sig.S)] 28)],[],1⟩) (fun p=>iter (BH a0) p.1 p.2=some x7) (fun p=>p.1) (Bv,0) q10 (by kernel_rfl) ?_;rintro⟨n2,s2⟩ q11 Jl bl2;cases n2 with
   |zero=>exact(AT q11).elim
   |succ n2=>
    obtain⟨y4,q13,q12⟩:=AO q11;unfold BH at q13;refine gi q13 (by kernel_rfl) (fun hc4 q13=> ?_) fun hc4 q13=> ?_
    ·skip;obtain⟨x9,q15,q13⟩:=oY0 q13;refine Gx (k:=1) (E:=eS) (fun _=>rfl) (fun _=>q15) (by kernel_rfl) ?_;obtain⟨x10,q16,q13⟩:=oY0 q13;refine gc (fun _=>LN q16) (by kernel_rfl) ?_;refine gi q13 (by kernel_rfl) (fun hc5 q13=> ?_) fun hc5 q13=> ?_
     ·skip;cases q13;rcases q12 with ⟨sn,e,_⟩|e
      ·cases e
      cases e;dsimp only at hm;have e0:=sI0 hm;subst e0;exact Au hd (by kernel_rfl)
     have e0:=sI0 q13;subst e0;rcases q12 with ⟨sn,e,q12'⟩|e
     ·have e:=Sum.inl.inj e;subst e;exact gb bl2 hd (n2,_) ⟨q12',Nat.lt_succ_self _⟩ (by kernel_rfl)
     cases Cb e
    have e0:=sI0 q13;subst e0;rcases q12 with ⟨sn,e,_⟩|e
    ·cases CQ e
    have e:=Sum.inr.inj e;subst e;exact gb bk2 hd () rfl (by kernel_rfl)
  subst hy;dsimp only at hm;obtain⟨x11,q17,hm⟩:=oY0 hm;refine gc (fun _=>KH q17) (by kernel_rfl) ?_;obtain⟨x12,q18,hm⟩:=oY0 hm;refine gcG (fun h=>I0 (Er h q18)) (by kernel_rfl) ?_;have hm:=A4 hm;let x13:Bool:=((((((x11&&((a0.Names.length:Int)==0))&&(decide (a0.Depth≥0)))&&(decide (a0.Depth≤4)))&&(decide ((a0.Permit.length:Int)≤8)))&&x12));have e0:=sI0 hm;subst e0;exact Au hd (by kernel_rfl)
def BJ (a0:Ac)(s1:Int):Option ((Int)⊕((Unit)⊕Bool)):=if(decide (s1<(a0.Proms.length:Int)))=true then Ab (idx a0.Proms s1) fun x8=>Ab (D1 x8) fun x9=>Ab (gu ((!(!x9))&&(decide (s1>0))) (idx a0.Proms (w64 (s1-1)))) fun x10=>Ab (gu ((!(!x9))&&(decide (s1>0))) (idx a0.Proms s1)) fun x11=>if((!x9)||((decide (s1>0))&&(decide (x10.Log≥x11.Log))))=true then some (.inr (.inr false))else some (.inl (w64 (s1+1)))else some (.inr (.inl ()))
def Gc (a0:Ac):Option Bool:=Ab (DY a0.Serial) fun x1=>Ab (gu (!(!x1)) (DY a0.From)) fun x2=>Ab (gu (!((!x1)||(!x2))) (DY a0.Until)) fun x3=>Ab (gu (!((((!x1)||(!x2))||(!x3))||(decide (a0.From≥a0.Until)))) (EY a0.Issuer)) fun x4=>Ab (gu (!((((((((!x1)||(!x2))||(!x3))||(decide (a0.From≥a0.Until)))||(!x4))||(decide ((a0.Key.toNat:Int)<1)))||(decide ((a0.Key.toNat:Int)≥2305843009213691579)))||(decide ((a0.Proms.length:Int)>4)))) (DC a0.Sig)) fun x5=>if(((((((((!x1)||(!x2))||(!x3))||(decide (a0.From≥a0.Until)))||(!x4))||(decide ((a0.Key.toNat:Int)<1)))||(decide ((a0.Key.toNat:Int)≥2305843009213691579)))||(decide ((a0.Proms.length:Int)>4)))||(!x5))=true then some false else Ab (iter (BJ a0) Bv 0) fun x6=>match x6 with| .inr r=>some r| .inl y1=>Ab (Gb a0) fun x12=>some x12
theorem PJ {a0:Ac}{r:Bool}(hm:Gc a0=some r):Sf prog 40 [ag (Aq a0)] (.d (.t r)):=
 sp call40 func40 rfl ntmps40 rfl fun D0 As η0 m0 hd=>by
  unfold Gc at hm;obtain⟨x1,q1,hm⟩:=oY0 hm;refine gc (fun _=>GR q1) (by kernel_rfl) ?_;obtain⟨x2,q2,hm⟩:=oY0 hm;refine gcG (fun h=>GR (Er h q2)) (by kernel_rfl) ?_;obtain⟨x3,q3,hm⟩:=oY0 hm;refine gcG (fun h=>GR (Er h q3)) (by kernel_rfl) ?_;obtain⟨x4,q4,hm⟩:=oY0 hm;refine gcG (fun h=>KH (Er h q4)) (by kernel_rfl) ?_;obtain⟨x5,q5,hm⟩:=oY0 hm;refine gcG (fun h=>I2 (Er h q5)) (by kernel_rfl) ?_;refine gi hm (by kernel_rfl) (fun hc1 hm=> ?_) fun hc1 hm=> ?_
  ·skip;have e0:=sI0 hm;subst e0;exact Au hd (by kernel_rfl)
  obtain⟨x6,q6,hm⟩:=oY0 hm;refine gjU 0 (fun(y1:Unit)=>⟨[(1,.pb 0 0)],[(0,.box 0 [.d (.i a0.Serial),.d (.s a0.Issuer),.d (.s a0.Subject),.d (.u a0.Key),sl eS a0.Names,.d (.i a0.From),.d (.i a0.Until),.d (.t a0.Ca),.d (.i a0.Depth),sl eS a0.Permit,sl Af a0.Proms,.d (.u a0.Sig.E),.d (.u a0.Sig.S)] 28)],[],1⟩) (fun y1=>x6= .inl y1) (by kernel_rfl) (fun Jp bk1=> ?_) fun y1 hy=> ?_
  ·refine gl hd (fun(p:Nat×(Int))=>let (p0,p_0):=p; ⟨[(1,.pb 0 0),(3,.d (.i p_0))],[(0,.box 0 [.d (.i a0.Serial),.d (.s a0.Issuer),.d (.s a0.Subject),.d (.u a0.Key),sl eS a0.Names,.d (.i a0.From),.d (.i a0.Until),.d (.t a0.Ca),.d (.i a0.Depth),sl eS a0.Permit,sl Af a0.Proms,.d (.u a0.Sig.E),.d (.u a0.Sig.S)] 28)],[],1⟩) (fun p=>iter (BJ a0) p.1 p.2=some x6) (fun p=>p.1) (Bv,0) q6 (by kernel_rfl) ?_;rintro⟨n1,s1⟩ q7 Jl bl1;cases n1 with
   |zero=>exact(AT q7).elim
   |succ n1=>
    obtain⟨y2,q9,q8⟩:=AO q7;unfold BJ at q9;refine gi q9 (by kernel_rfl) (fun hc2 q9=> ?_) fun hc2 q9=> ?_
    ·skip;obtain⟨x8,q11,q9⟩:=oY0 q9;refine Gx (k:=6) (E:=Af) (fun _=>rfl) (fun _=>q11) (by kernel_rfl) ?_;obtain⟨x9,q12,q9⟩:=oY0 q9;refine gc (fun _=>LK q12) (by kernel_rfl) ?_;obtain⟨x10,q13,q9⟩:=oY0 q9;refine J3 (k:=6) (E:=Af) (fun _=>rfl) (fun h=>Er h q13) (by kernel_rfl) ?_;obtain⟨x11,q14,q9⟩:=oY0 q9;refine J3 (k:=6) (E:=Af) (fun _=>rfl) (fun h=>Er h q14) (by kernel_rfl) ?_;refine gi q9 (by kernel_rfl) (fun hc3 q9=> ?_) fun hc3 q9=> ?_
     ·skip;cases q9;rcases q8 with ⟨sn,e,_⟩|e
      ·cases e
      cases e;dsimp only at hm;have e0:=sI0 hm;subst e0;exact Au hd (by kernel_rfl)
     have e0:=sI0 q9;subst e0;rcases q8 with ⟨sn,e,q8'⟩|e
     ·have e:=Sum.inl.inj e;subst e;exact gb bl1 hd (n1,_) ⟨q8',Nat.lt_succ_self _⟩ (by kernel_rfl)
     cases Cb e
    have e0:=sI0 q9;subst e0;rcases q8 with ⟨sn,e,_⟩|e
    ·cases CQ e
    have e:=Sum.inr.inj e;subst e;exact gb bk1 hd () rfl (by kernel_rfl)
  subst hy;dsimp only at hm;obtain⟨x12,q15,hm⟩:=oY0 hm;refine gc (fun _=>PI q15) (by kernel_rfl) ?_;have e0:=sI0 hm;subst e0;exact Au hd (by kernel_rfl)
def Fk (a0:List UInt8):Option Bool:=if((decide ((a0.length:Int)<1))||(decide ((a0.length:Int)>8)))=true then some false else Ab (gu (!((a0.length:Int)==1)) (idx a0 0)) fun x1=>Ab (gu ((!((a0.length:Int)==1))&&((x1.toNat:Int)==0)) (idx a0 1)) fun x2=>Ab (gu ((!((a0.length:Int)==1))&&(!(((x1.toNat:Int)==0)&&(decide ((x2.toNat:Int)<128))))) (idx a0 0)) fun x3=>Ab (gu (((!((a0.length:Int)==1))&&(!(((x1.toNat:Int)==0)&&(decide ((x2.toNat:Int)<128)))))&&((x3.toNat:Int)==255)) (idx a0 1)) fun x4=>bnd ((((a0.length:Int)==1)||((!(((x1.toNat:Int)==0)&&(decide ((x2.toNat:Int)<128))))&&(!(((x3.toNat:Int)==255)&&(decide ((x4.toNat:Int)≥128))))))) fun x5=>some x5
theorem Of {a0:List UInt8}{r:Bool}(hm:Fk a0=some r):Sf prog 161 [sl eB a0] (.d (.t r)):=
 sp call161 func161 rfl ntmps161 rfl fun D0 As η0 m0 hd=>by
  unfold Fk at hm;refine gi hm (by kernel_rfl) (fun hc1 hm=> ?_) fun hc1 hm=> ?_
  ·skip;have e0:=sI0 hm;subst e0;exact Au hd (by kernel_rfl)
  obtain⟨x1,q1,hm⟩:=oY0 hm;refine J3 (k:=1) (E:=eB) (fun _=>rfl) (fun h=>Er h q1) (by kernel_rfl) ?_;obtain⟨x2,q2,hm⟩:=oY0 hm;refine J3 (k:=1) (E:=eB) (fun _=>rfl) (fun h=>Er h q2) (by kernel_rfl) ?_;obtain⟨x3,q3,hm⟩:=oY0 hm;refine J3 (k:=1) (E:=eB) (fun _=>rfl) (fun h=>Er h q3) (by kernel_rfl) ?_;obtain⟨x4,q4,hm⟩:=oY0 hm;refine J3 (k:=1) (E:=eB) (fun _=>rfl) (fun h=>Er h q4) (by kernel_rfl) ?_;have hm:=A4 hm;let x5:Bool:=((((a0.length:Int)==1)||((!(((x1.toNat:Int)==0)&&(decide ((x2.toNat:Int)<128))))&&(!(((x3.toNat:Int)==255)&&(decide ((x4.toNat:Int)≥128)))))));have e0:=sI0 hm;subst e0;exact Au hd (by kernel_rfl)
def BN (a0:List UInt8)(s1:Int):Option ((Int)⊕((Unit)⊕Bool)):=if(decide (s1<(a0.length:Int)))=true then Ab (idx a0 s1) fun x3=>Ab (gu (!(decide ((x3.toNat:Int)<32))) (idx a0 s1)) fun x4=>if((decide ((x3.toNat:Int)<32))||(decide ((x4.toNat:Int)>126)))=true then some (.inr (.inr false))else some (.inl (w64 (s1+1)))else some (.inr (.inl ()))
def Gf (a0:List UInt8):Option Bool:=Ab (iter (BN a0) Bv 0) fun x1=>match x1 with| .inr r=>some r| .inl y1=>some true
theorem PN {a0:List UInt8}{r:Bool}(hm:Gf a0=some r):Sf prog 162 [sl eB a0] (.d (.t r)):=
 sp call162 func162 rfl ntmps162 rfl fun D0 As η0 m0 hd=>by
  unfold Gf at hm;obtain⟨x1,q1,hm⟩:=oY0 hm;refine gjU 0 (fun(y1:Unit)=>⟨[],[],[],0⟩) (fun y1=>x1= .inl y1) (by kernel_rfl) (fun Jp bk1=> ?_) fun y1 hy=> ?_
  ·refine gl hd (fun(p:Nat×(Int))=>let (p0,p_0):=p; ⟨[(0,sl eB a0),(3,.d (.i p_0))],[],[],0⟩) (fun p=>iter (BN a0) p.1 p.2=some x1) (fun p=>p.1) (Bv,0) q1 (by kernel_rfl) ?_;rintro⟨n1,s1⟩ q2 Jl bl1;cases n1 with
   |zero=>exact(AT q2).elim
   |succ n1=>
    obtain⟨y2,q4,q3⟩:=AO q2;unfold BN at q4;refine gi q4 (by kernel_rfl) (fun hc1 q4=> ?_) fun hc1 q4=> ?_
    ·skip;obtain⟨x3,q6,q4⟩:=oY0 q4;refine Gx (k:=1) (E:=eB) (fun _=>rfl) (fun _=>q6) (by kernel_rfl) ?_;obtain⟨x4,q7,q4⟩:=oY0 q4;refine J3 (k:=1) (E:=eB) (fun _=>rfl) (fun h=>Er h q7) (by kernel_rfl) ?_;refine gi q4 (by kernel_rfl) (fun hc2 q4=> ?_) fun hc2 q4=> ?_
     ·skip;cases q4;rcases q3 with ⟨sn,e,_⟩|e
      ·cases e
      cases e;dsimp only at hm;have e0:=sI0 hm;subst e0;exact Au hd (by kernel_rfl)
     have e0:=sI0 q4;subst e0;rcases q3 with ⟨sn,e,q3'⟩|e
     ·have e:=Sum.inl.inj e;subst e;exact gb bl1 hd (n1,_) ⟨q3',Nat.lt_succ_self _⟩ (by kernel_rfl)
     cases Cb e
    have e0:=sI0 q4;subst e0;rcases q3 with ⟨sn,e,_⟩|e
    ·cases CQ e
    have e:=Sum.inr.inj e;subst e;exact gb bk1 hd () rfl (by kernel_rfl)
  subst hy;dsimp only at hm;have e0:=sI0 hm;subst e0;exact Au hd (by kernel_rfl)
def K0 (rF:g_api_Item→Option Bool):Prop:= ∀{a0:g_api_Item} {r:Bool},rF a0=some r→Sf prog 125 [ag (Aa a0)] (.d (.t r))
def BO (rF:g_api_Item→Option Bool)(a0:g_api_Item)(s1:Int):Option ((Int)⊕((Unit)⊕Bool)):=if(decide (s1<(a0.L.length:Int)))=true then Ab (idx a0.L s1) fun x8=>Ab (rF x8) fun x9=>if(!x9)=true then some (.inr (.inr false))else some (.inl (w64 (s1+1)))else some (.inr (.inl ()))
def EB (rF:g_api_Item→Option Bool)(a0:g_api_Item):Option Bool:=if((a0.Tag !=48)&&(decide ((a0.L.length:Int)>0)))=true then some false else if(a0.Tag==1)=true then Ab (gu ((a0.B.length:Int)==1) (idx a0.B 0)) fun x1=>Ab (gu (((a0.B.length:Int)==1)&&(!((x1.toNat:Int)==0))) (idx a0.B 0)) fun x2=>bnd ((((a0.B.length:Int)==1)&&(((x1.toNat:Int)==0)||((x2.toNat:Int)==255)))) fun x3=>some x3 else if(a0.Tag==2)=true then Ab (Fk a0.B) fun x4=>some x4 else if(a0.Tag==4)=true then some true else if(a0.Tag==12)=true then Ab (Gf a0.B) fun x5=>some x5 else if(a0.Tag==48)=true then Ab (iter ((BO rF) a0) Bv 0) fun x6=>match x6 with| .inr r=>some r| .inl y1=>some ((a0.B.length:Int)==0)else some false
theorem M8 {rF:g_api_Item→Option Bool}(hF:K0 rF){a0:g_api_Item}{r:Bool}(hm:EB rF a0=some r):Sf prog 125 [ag (Aa a0)] (.d (.t r)):=
 sp call125 func125 rfl ntmps125 rfl fun D0 As η0 m0 hd=>by
  unfold EB at hm;refine gi hm (by kernel_rfl) (fun hc1 hm=> ?_) fun hc1 hm=> ?_
  ·skip;have e0:=sI0 hm;subst e0;exact Au hd (by kernel_rfl)
  refine gi hm (by kernel_rfl) (fun hc2 hm=> ?_) fun hc2 hm=> ?_
  ·skip;obtain⟨x1,q1,hm⟩:=oY0 hm;refine J3 (k:=1) (E:=eB) (fun _=>rfl) (fun h=>Er h q1) (by kernel_rfl) ?_;obtain⟨x2,q2,hm⟩:=oY0 hm;refine J3 (k:=1) (E:=eB) (fun _=>rfl) (fun h=>Er h q2) (by kernel_rfl) ?_;have hm:=A4 hm;let x3:Bool:=((((a0.B.length:Int)==1)&&(((x1.toNat:Int)==0)||((x2.toNat:Int)==255))));have e0:=sI0 hm;subst e0;exact Au hd (by kernel_rfl)
  refine gi hm (by kernel_rfl) (fun hc3 hm=> ?_) fun hc3 hm=> ?_
  ·skip;obtain⟨x4,q4,hm⟩:=oY0 hm;refine gc (fun _=>Of q4) (by kernel_rfl) ?_;have e0:=sI0 hm;subst e0;exact Au hd (by kernel_rfl)
  refine gi hm (by kernel_rfl) (fun hc4 hm=> ?_) fun hc4 hm=> ?_
  ·skip;have e0:=sI0 hm;subst e0;exact Au hd (by kernel_rfl)
  refine gi hm (by kernel_rfl) (fun hc5 hm=> ?_) fun hc5 hm=> ?_
  ·skip;obtain⟨x5,q5,hm⟩:=oY0 hm;refine gc (fun _=>PN q5) (by kernel_rfl) ?_;have e0:=sI0 hm;subst e0;exact Au hd (by kernel_rfl)
  refine gi hm (by kernel_rfl) (fun hc6 hm=> ?_) fun hc6 hm=> ?_
  ·skip;obtain⟨x6,q6,hm⟩:=oY0 hm;refine gjU 1 (fun(y1:Unit)=>⟨[(1,.pb 0 0)],[(0,.box 0 [.d (.i a0.Tag),sl eB a0.B,sl Aa a0.L] 56)],[],1⟩) (fun y1=>x6= .inl y1) (by kernel_rfl) (fun Jp bk1=> ?_) fun y1 hy=> ?_
   ·refine gl hd (fun(p:Nat×(Int))=>let (p0,p_0):=p; ⟨[(1,.pb 0 0),(3,.d (.i p_0))],[(0,.box 0 [.d (.i a0.Tag),sl eB a0.B,sl Aa a0.L] 56)],[],1⟩) (fun p=>iter ((BO rF) a0) p.1 p.2=some x6) (fun p=>p.1) (Bv,0) q6 (by kernel_rfl) ?_;rintro⟨n1,s1⟩ q7 Jl bl1;cases n1 with
    |zero=>exact(AT q7).elim
    |succ n1=>
     obtain⟨y2,q9,q8⟩:=AO q7;unfold BO at q9;refine gi q9 (by kernel_rfl) (fun hc7 q9=> ?_) fun hc7 q9=> ?_
     ·skip;obtain⟨x8,q11,q9⟩:=oY0 q9;refine Gx (k:=3) (E:=Aa) (fun _=>rfl) (fun _=>q11) (by kernel_rfl) ?_;obtain⟨x9,q12,q9⟩:=oY0 q9;refine gc (fun _=>hF q12) (by kernel_rfl) ?_;refine gi q9 (by kernel_rfl) (fun hc8 q9=> ?_) fun hc8 q9=> ?_
      ·skip;cases q9;rcases q8 with ⟨sn,e,_⟩|e
       ·cases e
       cases e;dsimp only at hm;have e0:=sI0 hm;subst e0;exact Au hd (by kernel_rfl)
      have e0:=sI0 q9;subst e0;rcases q8 with ⟨sn,e,q8'⟩|e
      ·have e:=Sum.inl.inj e;subst e;exact gb bl1 hd (n1,_) ⟨q8',Nat.lt_succ_self _⟩ (by kernel_rfl)
      cases Cb e
     have e0:=sI0 q9;subst e0;rcases q8 with ⟨sn,e,_⟩|e
     ·cases CQ e
     have e:=Sum.inr.inj e;subst e;exact gb bk1 hd () rfl (by kernel_rfl)
   subst hy;dsimp only at hm;have e0:=sI0 hm;subst e0;exact Au hd (by kernel_rfl)
  have e0:=sI0 hm;subst e0;exact Au hd (by kernel_rfl)
def Dj:Nat→g_api_Item→Option Bool
 |0,_=>none
 |n+1,a0=>EB (Dj n) a0
def D5 (a0:g_api_Item):Option Bool:=Dj Bv a0
theorem Jy: ∀n,K0 (Dj n)
 |0=>fun hm=>by cases hm
 |n+1=>fun hm=>M8 (Jy n) hm
theorem KJ {a0:g_api_Item}{r:Bool}(hm:D5 a0=some r):Sf prog 125 [ag (Aa a0)] (.d (.t r)):=Jy Bv hm
def K3 (rF:g_api_Item→Option Int):Prop:= ∀{a0:g_api_Item} {r:Int},rF a0=some r→Sf prog 126 [ag (Aa a0)] (.d (.i r))
def BP (rF:g_api_Item→Option Int)(a0:g_api_Item)(s1:Int×Int):Option ((Int×Int)⊕(Int)):=if(decide (s1.2<(a0.L.length:Int)))=true then Ab (idx a0.L s1.2) fun x4=>Ab (rF x4) fun x5=>some (.inl ((Xc s1.1 x5),(w64 (s1.2+1))))else some (.inr s1.1)
def EC (rF:g_api_Item→Option Int)(a0:g_api_Item):Option Int:=Ab (Ab (iter ((BP rF) a0) Bv (0,0)) fun x2=>some x2) fun x1=>some (w64 (x1+1))
theorem M9 {rF:g_api_Item→Option Int}(hF:K3 rF){a0:g_api_Item}{r:Int}(hm:EC rF a0=some r):Sf prog 126 [ag (Aa a0)] (.d (.i r)):=
 sp call126 func126 rfl ntmps126 rfl fun D0 As η0 m0 hd=>by
  unfold EC at hm;obtain⟨x1,q1,hm⟩:=oY0 hm;obtain⟨x2,q2,q1⟩:=oY0 q1;refine gjU 0 (fun(_:Unit)=>⟨[(3,.d (.i x1)),(1,.pb 0 0)],[(0,.box 0 [.d (.i a0.Tag),sl eB a0.B,sl Aa a0.L] 56)],[],1⟩) (fun _=>True) (by kernel_rfl) (fun Jp bk1=> ?_) fun _ _=> ?_
  ·refine gjU 0 (fun(_:Unit)=>⟨[(3,.d (.i x2)),(1,.pb 0 0)],[(0,.box 0 [.d (.i a0.Tag),sl eB a0.B,sl Aa a0.L] 56)],[],1⟩) (fun _=>True) (by kernel_rfl) (fun Jp bk2=> ?_) fun _ _=> ?_
   ·refine gl hd (fun(p:Nat×(Int×Int))=>let (p0,p_0,p_1):=p; ⟨[(1,.pb 0 0),(3,.d (.i p_0)),(4,.d (.i p_1))],[(0,.box 0 [.d (.i a0.Tag),sl eB a0.B,sl Aa a0.L] 56)],[],1⟩) (fun p=>iter ((BP rF) a0) p.1 p.2=some x2) (fun p=>p.1) (Bv,(0,0)) q2 (by kernel_rfl) ?_;rintro⟨n1,s1⟩ q3 Jl bl1;cases n1 with
    |zero=>exact(AT q3).elim
    |succ n1=>
     obtain⟨y1,q5,q4⟩:=AO q3;unfold BP at q5;refine gi q5 (by kernel_rfl) (fun hc1 q5=> ?_) fun hc1 q5=> ?_
     ·skip;obtain⟨x4,q7,q5⟩:=oY0 q5;refine Gx (k:=3) (E:=Aa) (fun _=>rfl) (fun _=>q7) (by kernel_rfl) ?_;obtain⟨x5,q8,q5⟩:=oY0 q5;refine gc (fun _=>hF q8) (by kernel_rfl) ?_;have e0:=sI0 q5;subst e0;rcases q4 with ⟨sn,e,q4'⟩|e
      ·have e:=Sum.inl.inj e;subst e;exact gb bl1 hd (n1,_) ⟨q4',Nat.lt_succ_self _⟩ (by kernel_rfl)
      cases Cb e
     have e0:=sI0 q5;subst e0;rcases q4 with ⟨sn,e,_⟩|e
     ·cases CQ e
     have e:=Sum.inr.inj e;subst e;exact gb bk2 hd () trivial (by kernel_rfl)
   have e0:=sI0 q1;subst e0;exact gb bk1 hd () trivial (by kernel_rfl)
  have e0:=sI0 hm;subst e0;exact Au hd (by kernel_rfl)
def DT:Nat→g_api_Item→Option Int
 |0,_=>none
 |n+1,a0=>EC (DT n) a0
def IE (a0:g_api_Item):Option Int:=DT Bv a0
theorem Jz: ∀n,K3 (DT n)
 |0=>fun hm=>by cases hm
 |n+1=>fun hm=>M9 (Jz n) hm
theorem PQ {a0:g_api_Item}{r:Int}(hm:IE a0=some r):Sf prog 126 [ag (Aa a0)] (.d (.i r)):=Jz Bv hm
def FM (a0:g_api_Item):Option Bool:=Ab (D5 a0) fun x1=>Ab (gu x1 (IE a0)) fun x2=>some (x1&&(decide (x2≤8)))
theorem LP {a0:g_api_Item}{r:Bool}(hm:FM a0=some r):Sf prog 76 [ag (Aa a0)] (.d (.t r)):=
 sp call76 func76 rfl ntmps76 rfl fun D0 As η0 m0 hd=>by
  unfold FM at hm;obtain⟨x1,q1,hm⟩:=oY0 hm;refine gc (fun _=>KJ q1) (by kernel_rfl) ?_;obtain⟨x2,q2,hm⟩:=oY0 hm;refine gcG (fun h=>PQ (Er h q2)) (by kernel_rfl) ?_;have e0:=sI0 hm;subst e0;exact Au hd (by kernel_rfl)
def EA (a0:Int):Option (List UInt8):=if(decide (a0<128))=true then some ([(toB a0)]:List UInt8)else if(decide (a0<256))=true then some ([129,(toB a0)]:List UInt8)else bnd (w64 (Int.tdiv a0 256)) fun x1=>some ([130,(toB x1),(toB a0)]:List UInt8)
theorem M7 {a0:Int}{r:List UInt8}(hm:EA a0=some r):Sp prog 127 [.d (.i a0)] [] 0 (is (.ow 0) [.row 0 1 _ eB r] 1):=
 sp call127 func127 rfl ntmps127 rfl fun D0 As η0 m0 hd=>by
  unfold EA at hm;refine gi hm (by kernel_rfl) (fun hc1 hm=> ?_) fun hc1 hm=> ?_
  ·skip;refine TT (k:=1) eB ([(toB a0)]:List UInt8) (fun _=>rfl) (by kernel_rfl) ?_;have e0:=sI0 hm;subst e0;exact Au hd (by kernel_rfl)
  refine gi hm (by kernel_rfl) (fun hc2 hm=> ?_) fun hc2 hm=> ?_
  ·skip;refine TT (k:=1) eB ([129,(toB a0)]:List UInt8) (fun _=>rfl) (by kernel_rfl) ?_;have e0:=sI0 hm;subst e0;exact Au hd (by kernel_rfl)
  have hm:=A4 hm;let x1:Int:=(w64 (Int.tdiv a0 256));refine TT (k:=1) eB ([130,(toB x1),(toB a0)]:List UInt8) (fun _=>rfl) (by kernel_rfl) ?_;have e0:=sI0 hm;subst e0;exact Au hd (by kernel_rfl)
def Kh (rF:g_api_Item→Option (List UInt8)):Prop:= ∀{a0:g_api_Item} {r:List UInt8},rF a0=some r→Sp prog 77 [ag (Aa a0)] [] 0 (is (.ow 0) [.row 0 1 _ eB r] 1)
def Bc (rF:g_api_Item→Option (List UInt8))(a0:g_api_Item)(s1:(List UInt8)×Int):Option (((List UInt8)×Int)⊕((List UInt8))):=if(decide (s1.2<(a0.L.length:Int)))=true then Ab (idx a0.L s1.2) fun x5=>Ab (rF x5) fun x6=>Ab (app 1 s1.1 x6) fun x7=>some (.inl (x7,(w64 (s1.2+1))))else some (.inr s1.1)
def D6 (rF:g_api_Item→Option (List UInt8))(a0:g_api_Item):Option (List UInt8):=Ab (app 1 ([]:List UInt8) a0.B) fun x1=>Ab (Ab (iter ((Bc rF) a0) Bv (x1,0)) fun x3=>some x3) fun x2=>Ab (EA (x2.length:Int)) fun x8=>Ab (app 1 ([(toB a0.Tag)]:List UInt8) x8) fun x9=>Ab (app 1 x9 x2) fun x10=>some x10
theorem LO {rF:g_api_Item→Option (List UInt8)}(hF:Kh rF){a0:g_api_Item}{r:List UInt8}(hm:D6 rF a0=some r):Sp prog 77 [ag (Aa a0)] [] 0 (is (.ow 0) [.row 0 1 _ eB r] 1):=
 sp call77 func77 rfl ntmps77 rfl fun D0 As η0 m0 hd=>by
  unfold D6 at hm;refine TT (k:=1) eB ([]:List UInt8) (fun _=>rfl) (by kernel_rfl) ?_;obtain⟨x1,q1,hm⟩:=oY0 hm;refine Jv (k:=1) (E:=eB) (fun _=>rfl) q1 (by kernel_rfl) ?_;obtain⟨x2,q2,hm⟩:=oY0 hm;obtain⟨x3,q3,q2⟩:=oY0 q2;refine gjU 0 (fun(_:Unit)=>⟨[(1,.pb 0 0),(3,.ow 1)],[(0,.row 1 1 _ eB x2),(1,.box 0 [.d (.i a0.Tag),sl eB a0.B,sl Aa a0.L] 56)],[],2⟩) (fun _=>True) (by kernel_rfl) (fun Jp bk1=> ?_) fun _ _=> ?_
  ·refine gjU 0 (fun(_:Unit)=>⟨[(1,.pb 0 0),(3,.ow 1)],[(0,.row 1 1 _ eB x3),(1,.box 0 [.d (.i a0.Tag),sl eB a0.B,sl Aa a0.L] 56)],[],2⟩) (fun _=>True) (by kernel_rfl) (fun Jp bk2=> ?_) fun _ _=> ?_
   ·refine gl hd (fun(p:Nat×((List UInt8)×Int))=>let (p0,p_0,p_1):=p; ⟨[(1,.pb 0 0),(3,.ow 1),(4,.d (.i p_1))],[(0,.row 1 1 _ eB p_0),(1,.box 0 [.d (.i a0.Tag),sl eB a0.B,sl Aa a0.L] 56)],[],2⟩) (fun p=>iter ((Bc rF) a0) p.1 p.2=some x3) (fun p=>p.1) (Bv,(x1,0)) q3 (by kernel_rfl) ?_;rintro⟨n1,s1⟩ q4 Jl bl1;cases n1 with
    |zero=>exact(AT q4).elim
    |succ n1=>
     obtain⟨y1,q6,q5⟩:=AO q4;unfold Bc at q6;refine gi q6 (by kernel_rfl) (fun hc1 q6=> ?_) fun hc1 q6=> ?_
     ·skip;obtain⟨x5,q8,q6⟩:=oY0 q6;refine Gx (k:=3) (E:=Aa) (fun _=>rfl) (fun _=>q8) (by kernel_rfl) ?_;obtain⟨x6,q9,q6⟩:=oY0 q6;refine gco (hF q9) (by kernel_rfl) ?_;obtain⟨x7,q10,q6⟩:=oY0 q6;refine Jv (k:=1) (E:=eB) (fun _=>rfl) q10 (by kernel_rfl) ?_;have e0:=sI0 q6;subst e0;rcases q5 with ⟨sn,e,q5'⟩|e
      ·have e:=Sum.inl.inj e;subst e;exact gb bl1 hd (n1,_) ⟨q5',Nat.lt_succ_self _⟩ (by kernel_rfl)
      cases Cb e
     have e0:=sI0 q6;subst e0;rcases q5 with ⟨sn,e,_⟩|e
     ·cases CQ e
     have e:=Sum.inr.inj e;subst e;exact gb bk2 hd () trivial (by kernel_rfl)
   have e0:=sI0 q2;subst e0;exact gb bk1 hd () trivial (by kernel_rfl)
  refine TT (k:=1) eB ([(toB a0.Tag)]:List UInt8) (fun _=>rfl) (by kernel_rfl) ?_;obtain⟨x8,q11,hm⟩:=oY0 hm;refine gco (M7 q11) (by kernel_rfl) ?_;obtain⟨x9,q12,hm⟩:=oY0 hm;refine Jv (k:=1) (E:=eB) (fun _=>rfl) q12 (by kernel_rfl) ?_;obtain⟨x10,q13,hm⟩:=oY0 hm;refine Jv (k:=1) (E:=eB) (fun _=>rfl) q13 (by kernel_rfl) ?_;have e0:=sI0 hm;subst e0;exact Au hd (by kernel_rfl)
def CR:Nat→g_api_Item→Option (List UInt8)
 |0,_=>none
 |n+1,a0=>D6 (CR n) a0
def HX (a0:g_api_Item):Option (List UInt8):=CR Bv a0
theorem IZ: ∀n,Kh (CR n)
 |0=>fun hm=>by cases hm
 |n+1=>fun hm=>LO (IZ n) hm
theorem Og {a0:g_api_Item}{r:List UInt8}(hm:HX a0=some r):Sp prog 77 [ag (Aa a0)] [] 0 (is (.ow 0) [.row 0 1 _ eB r] 1):=IZ Bv hm
def G1 (a0:g_api_Item):Option ((List UInt8)×Int):=Ab (FM a0) fun x1=>if(!x1)=true then some (([]:List UInt8),1)else Ab (HX a0) fun x2=>if(decide ((x2.length:Int)>8192))=true then some (([]:List UInt8),2)else some (x2,0)
theorem Q4 {a0:g_api_Item}{r:(List UInt8)×Int}(hm:G1 a0=some r):Sp prog 41 [ag (Aa a0)] [] 0 (is (.tup [.ow 0,.d (.i r.2)]) [.row 0 1 _ eB r.1] 1):=
 sp call41 func41 rfl ntmps41 rfl fun D0 As η0 m0 hd=>by
  unfold G1 at hm;obtain⟨x1,q1,hm⟩:=oY0 hm;refine gc (fun _=>LP q1) (by kernel_rfl) ?_;refine gi hm (by kernel_rfl) (fun hc1 hm=> ?_) fun hc1 hm=> ?_
  ·skip;refine WK eB 2 1 (by kernel_rfl) ?_;have e0:=sI0 hm;subst e0;exact Au hd (by kernel_rfl)
  obtain⟨x2,q2,hm⟩:=oY0 hm;refine gco (Og q2) (by kernel_rfl) ?_;refine gi hm (by kernel_rfl) (fun hc2 hm=> ?_) fun hc2 hm=> ?_
  ·skip;refine WK eB 2 1 (by kernel_rfl) ?_;have e0:=sI0 hm;subst e0;exact Au hd (by kernel_rfl)
  have e0:=sI0 hm;subst e0;exact Au hd (by kernel_rfl)
def D8 (a0:List g_api_Item):Option g_api_Item:=Ab (app 56 ([]:List g_api_Item) a0) fun x1=>some (⟨48,[],x1⟩:g_api_Item)
theorem HP {a0:List g_api_Item}{r:g_api_Item}(hm:D8 a0=some r):Sf prog 78 [sl Aa a0] (ag (Aa r)):=
 sp call78 func78 rfl ntmps78 rfl fun D0 As η0 m0 hd=>by
  unfold D8 at hm;refine TT (k:=3) Aa ([]:List g_api_Item) (fun _=>rfl) (by kernel_rfl) ?_;obtain⟨x1,q1,hm⟩:=oY0 hm;refine Jv (k:=3) (E:=Aa) (fun _=>rfl) q1 (by kernel_rfl) ?_;have e0:=sI0 hm;subst e0;exact Au hd (by kernel_rfl)
def CZ (s1:(List UInt8)×Int):Option (((List UInt8)×Int)⊕((List UInt8))):=Ab (gu (s1.2==0) (idx s1.1 0)) fun x4=>Ab (gu ((!((s1.2==0)&&(decide ((x4.toNat:Int)<128))))&&(s1.2==(-1))) (idx s1.1 0)) fun x5=>if((!((s1.2==0)&&(decide ((x4.toNat:Int)<128))))&&(!((s1.2==(-1))&&(decide ((x5.toNat:Int)≥128)))))=true then Ab (app 1 ([(toB s1.2)]:List UInt8) s1.1) fun x6=>some (.inl (x6,(C9 s1.2 8)))else some (.inr s1.1)
def Cc (a0:Int):Option g_api_Item:=Ab (Ab (iter CZ Bv (([(toB a0)]:List UInt8),(C9 a0 8))) fun x2=>some x2) fun x1=>some (⟨2,x1,[]⟩:g_api_Item)
theorem Do {a0:Int}{r:g_api_Item}(hm:Cc a0=some r):Sf prog 84 [.d (.i a0)] (ag (Aa r)):=
 sp call84 func84 rfl ntmps84 rfl fun D0 As η0 m0 hd=>by
  unfold Cc at hm;refine ET (k:=1) eB ([(toB a0)]:List UInt8) (fun _=>rfl) (by kernel_rfl) ?_;obtain⟨x1,q1,hm⟩:=oY0 hm;obtain⟨x2,q2,q1⟩:=oY0 q1;refine gjU 0 (fun(_:Unit)=>⟨[(2,.pb 0 0),(3,sl eB x1)],[(0,.box 0 [.d (.i 0),sl eB [],sl Aa []] 56)],[],1⟩) (fun _=>True) (by kernel_rfl) (fun Jp bk1=> ?_) fun _ _=> ?_
  ·refine gjU 0 (fun(_:Unit)=>⟨[(2,.pb 0 0),(3,sl eB x2)],[(0,.box 0 [.d (.i 0),sl eB [],sl Aa []] 56)],[],1⟩) (fun _=>True) (by kernel_rfl) (fun Jp bk2=> ?_) fun _ _=> ?_
   ·refine gl hd (fun(p:Nat×((List UInt8)×Int))=>let (p0,p_0,p_1):=p; ⟨[(2,.pb 0 0),(3,sl eB p_0),(4,.d (.i p_1))],[(0,.box 0 [.d (.i 0),sl eB [],sl Aa []] 56)],[],1⟩) (fun p=>iter CZ p.1 p.2=some x2) (fun p=>p.1) (Bv,(([(toB a0)]:List UInt8),(C9 a0 8))) q2 (by kernel_rfl) ?_;rintro⟨n1,s1⟩ q3 Jl bl1;cases n1 with
    |zero=>exact(AT q3).elim
    |succ n1=>
     obtain⟨y1,q5,q4⟩:=AO q3;unfold CZ at q5;obtain⟨x4,q7,q5⟩:=oY0 q5;refine J3 (k:=1) (E:=eB) (fun _=>rfl) (fun h=>Er h q7) (by kernel_rfl) ?_;obtain⟨x5,q8,q5⟩:=oY0 q5;refine J3 (k:=1) (E:=eB) (fun _=>rfl) (fun h=>Er h q8) (by kernel_rfl) ?_;refine gi q5 (by kernel_rfl) (fun hc1 q5=> ?_) fun hc1 q5=> ?_
     ·skip;refine TT (k:=1) eB ([(toB s1.2)]:List UInt8) (fun _=>rfl) (by kernel_rfl) ?_;obtain⟨x6,q9,q5⟩:=oY0 q5;refine Jv (k:=1) (E:=eB) (fun _=>rfl) q9 (by kernel_rfl) ?_;have e0:=sI0 q5;subst e0;rcases q4 with ⟨sn,e,q4'⟩|e
      ·have e:=Sum.inl.inj e;subst e;exact gb bl1 hd (n1,_) ⟨q4',Nat.lt_succ_self _⟩ (by kernel_rfl)
      cases Cb e
     have e0:=sI0 q5;subst e0;rcases q4 with ⟨sn,e,_⟩|e
     ·cases CQ e
     have e:=Sum.inr.inj e;subst e;exact gb bk2 hd () trivial (by kernel_rfl)
   have e0:=sI0 q1;subst e0;exact gb bk1 hd () trivial (by kernel_rfl)
  have e0:=sI0 hm;subst e0;exact Au hd (by kernel_rfl)
def D7 (a0:ByteArray):Option g_api_Item:=Ab (app 1 ([]:List UInt8) a0.data.toList) fun x1=>some (⟨12,x1,[]⟩:g_api_Item)
theorem In {a0:ByteArray}{r:g_api_Item}(hm:D7 a0=some r):Sf prog 85 [.d (.s a0)] (ag (Aa r)):=
 sp call85 func85 rfl ntmps85 rfl fun D0 As η0 m0 hd=>by
  unfold D7 at hm;obtain⟨x1,q1,hm⟩:=oY0 hm;refine gofS q1 (by kernel_rfl) ?_;have e0:=sI0 hm;subst e0;exact Au hd (by kernel_rfl)
def Bb (a0:List ByteArray)(s1:Int×(List g_api_Item)):Option ((Int×(List g_api_Item))⊕((List g_api_Item))):=if(decide (s1.1<(a0.length:Int)))=true then Ab (idx a0 s1.1) fun x4=>Ab (D7 x4) fun x5=>Ab (app 56 s1.2 ([x5]:List g_api_Item)) fun x6=>some (.inl ((w64 (s1.1+1)),x6))else some (.inr s1.2)
def Ej (a0:List ByteArray):Option g_api_Item:=Ab (Ab (iter (Bb a0) Bv (0,([]:List g_api_Item))) fun x2=>some x2) fun x1=>some (⟨48,[],x1⟩:g_api_Item)
theorem JD {a0:List ByteArray}{r:g_api_Item}(hm:Ej a0=some r):Sf prog 86 [sl eS a0] (ag (Aa r)):=
 sp call86 func86 rfl ntmps86 rfl fun D0 As η0 m0 hd=>by
  unfold Ej at hm;obtain⟨x1,q1,hm⟩:=oY0 hm;obtain⟨x2,q2,q1⟩:=oY0 q1;refine NV 0 Aa 3 2 3 (by kernel_rfl) ?_;refine gjU 0 (fun(_:Unit)=>⟨[(2,.pb 0 0),(3,.pb 1 0)],[(0,.row 2 3 _ Aa x1),(1,.box 1 [.d (.i 48),sl eB [],.ow 2] 56),(2,.box 0 [.d (.i 0),sl eB [],sl Aa []] 56)],[],3⟩) (fun _=>True) (by kernel_rfl) (fun Jp bk1=> ?_) fun _ _=> ?_
  ·refine gjU 0 (fun(_:Unit)=>⟨[(2,.pb 0 0),(3,.pb 1 0)],[(0,.row 2 3 _ Aa x2),(1,.box 1 [.d (.i 48),sl eB [],.ow 2] 56),(2,.box 0 [.d (.i 0),sl eB [],sl Aa []] 56)],[],3⟩) (fun _=>True) (by kernel_rfl) (fun Jp bk2=> ?_) fun _ _=> ?_
   ·refine gl hd (fun(p:Nat×(Int×(List g_api_Item)))=>let (p0,p_0,p_1):=p; ⟨[(0,sl eS a0),(2,.pb 0 0),(3,.pb 1 0),(4,.d (.i p_0))],[(0,.row 2 3 _ Aa p_1),(1,.box 1 [.d (.i 48),sl eB [],.ow 2] 56),(2,.box 0 [.d (.i 0),sl eB [],sl Aa []] 56)],[],3⟩) (fun p=>iter (Bb a0) p.1 p.2=some x2) (fun p=>p.1) (Bv,(0,([]:List g_api_Item))) q2 (by kernel_rfl) ?_;rintro⟨n1,s1⟩ q3 Jl bl1;cases n1 with
    |zero=>exact(AT q3).elim
    |succ n1=>
     obtain⟨y1,q5,q4⟩:=AO q3;unfold Bb at q5;refine gi q5 (by kernel_rfl) (fun hc1 q5=> ?_) fun hc1 q5=> ?_
     ·skip;obtain⟨x4,q7,q5⟩:=oY0 q5;refine Gx (k:=1) (E:=eS) (fun _=>rfl) (fun _=>q7) (by kernel_rfl) ?_;obtain⟨x5,q8,q5⟩:=oY0 q5;refine gc (fun _=>In q8) (by kernel_rfl) ?_;refine ET (k:=3) Aa ([x5]:List g_api_Item) (fun _=>rfl) (by kernel_rfl) ?_;obtain⟨x6,q9,q5⟩:=oY0 q5;refine Jv (k:=3) (E:=Aa) (fun _=>rfl) q9 (by kernel_rfl) ?_;have e0:=sI0 q5;subst e0;rcases q4 with ⟨sn,e,q4'⟩|e
      ·have e:=Sum.inl.inj e;subst e;exact gb bl1 hd (n1,_) ⟨q4',Nat.lt_succ_self _⟩ (by kernel_rfl)
      cases Cb e
     have e0:=sI0 q5;subst e0;rcases q4 with ⟨sn,e,_⟩|e
     ·cases CQ e
     have e:=Sum.inr.inj e;subst e;exact gb bk2 hd () trivial (by kernel_rfl)
   have e0:=sI0 q1;subst e0;exact gb bk1 hd () trivial (by kernel_rfl)
  have e0:=sI0 hm;subst e0;exact Au hd (by kernel_rfl)
def Hg (a0:Bool):Option g_api_Item:=if a0=true then some (⟨1,([255]:List UInt8),[]⟩:g_api_Item)else some (⟨1,([0]:List UInt8),[]⟩:g_api_Item)
theorem PR {a0:Bool}{r:g_api_Item}(hm:Hg a0=some r):Sf prog 87 [.d (.t a0)] (ag (Aa r)):=
 sp call87 func87 rfl ntmps87 rfl fun D0 As η0 m0 hd=>by
  unfold Hg at hm;refine gi hm (by kernel_rfl) (fun hc1 hm=> ?_) fun hc1 hm=> ?_
  ·skip;refine ET (k:=1) eB ([255]:List UInt8) (fun _=>rfl) (by kernel_rfl) ?_;have e0:=sI0 hm;subst e0;exact Au hd (by kernel_rfl)
  refine ET (k:=1) eB ([0]:List UInt8) (fun _=>rfl) (by kernel_rfl) ?_;have e0:=sI0 hm;subst e0;exact Au hd (by kernel_rfl)
def GZ (a0:Ac):Option g_api_Item:=Ab (Cc a0.Serial) fun x1=>Ab (D7 a0.Issuer) fun x2=>Ab (D7 a0.Subject) fun x3=>Ab (Cc (w64 (a0.Key.toNat:Int))) fun x4=>Ab (Ej a0.Names) fun x5=>Ab (Cc a0.From) fun x6=>Ab (Cc a0.Until) fun x7=>Ab (Hg a0.Ca) fun x8=>Ab (Cc a0.Depth) fun x9=>Ab (Ej a0.Permit) fun x10=>Ab (D8 ([x1,x2,x3,x4,x5,x6,x7,x8,x9,x10]:List g_api_Item)) fun x11=>some x11
theorem Q2 {a0:Ac}{r:g_api_Item}(hm:GZ a0=some r):Sf prog 49 [ag (Aq a0)] (ag (Aa r)):=
 sp call49 func49 rfl ntmps49 rfl fun D0 As η0 m0 hd=>by
  unfold GZ at hm;obtain⟨x1,q1,hm⟩:=oY0 hm;refine gc (fun _=>Do q1) (by kernel_rfl) ?_;obtain⟨x2,q2,hm⟩:=oY0 hm;refine gc (fun _=>In q2) (by kernel_rfl) ?_;obtain⟨x3,q3,hm⟩:=oY0 hm;refine gc (fun _=>In q3) (by kernel_rfl) ?_;obtain⟨x4,q4,hm⟩:=oY0 hm;refine gc (fun _=>Do q4) (by kernel_rfl) ?_;obtain⟨x5,q5,hm⟩:=oY0 hm;refine gc (fun _=>JD q5) (by kernel_rfl) ?_;obtain⟨x6,q6,hm⟩:=oY0 hm;refine gc (fun _=>Do q6) (by kernel_rfl) ?_;obtain⟨x7,q7,hm⟩:=oY0 hm;refine gc (fun _=>Do q7) (by kernel_rfl) ?_;obtain⟨x8,q8,hm⟩:=oY0 hm;refine gc (fun _=>PR q8) (by kernel_rfl) ?_;obtain⟨x9,q9,hm⟩:=oY0 hm;refine gc (fun _=>Do q9) (by kernel_rfl) ?_;obtain⟨x10,q10,hm⟩:=oY0 hm;refine gc (fun _=>JD q10) (by kernel_rfl) ?_;refine ET (k:=3) Aa ([x1,x2,x3,x4,x5,x6,x7,x8,x9,x10]:List g_api_Item) (fun _=>rfl) (by kernel_rfl) ?_;obtain⟨x11,q11,hm⟩:=oY0 hm;refine gc (fun _=>HP q11) (by kernel_rfl) ?_;have e0:=sI0 hm;subst e0;exact Au hd (by kernel_rfl)
def EK (a0:UInt64)(a1:UInt64):Option (List g_api_Item):=Ab (Cc (w64 (a0.toNat:Int))) fun x1=>Ab (Cc (w64 (a1.toNat:Int))) fun x2=>some ([x1,x2]:List g_api_Item)
theorem I9 {a0:UInt64}{a1:UInt64}{r:List g_api_Item}(hm:EK a0 a1=some r):Sp prog 79 [.d (.u a0),.d (.u a1)] [] 0 (is (.ow 0) [.row 0 3 _ Aa r] 1):=
 sp call79 func79 rfl ntmps79 rfl fun D0 As η0 m0 hd=>by
  unfold EK at hm;obtain⟨x1,q1,hm⟩:=oY0 hm;refine gc (fun _=>Do q1) (by kernel_rfl) ?_;obtain⟨x2,q2,hm⟩:=oY0 hm;refine gc (fun _=>Do q2) (by kernel_rfl) ?_;refine TT (k:=3) Aa ([x1,x2]:List g_api_Item) (fun _=>rfl) (by kernel_rfl) ?_;have e0:=sI0 hm;subst e0;exact Au hd (by kernel_rfl)
def Fl (a0:List g_api_Item):Option g_api_Item:=Ab (app 56 ([]:List g_api_Item) a0) fun x1=>some (⟨48,[],x1⟩:g_api_Item)
theorem Oh {a0:List g_api_Item}{r:g_api_Item}(hm:Fl a0=some r):Sp prog 78 [sl Aa a0] [] 0 (is (.agg (List.set (((Aa r)).map dv) 2 (.ow 0))) [.row 0 3 _ Aa r.L] 1):=
 sp call78 func78 rfl ntmps78 rfl fun D0 As η0 m0 hd=>by
  unfold Fl at hm;refine TT (k:=3) Aa ([]:List g_api_Item) (fun _=>rfl) (by kernel_rfl) ?_;obtain⟨x1,q1,hm⟩:=oY0 hm;refine Jv (k:=3) (E:=Aa) (fun _=>rfl) q1 (by kernel_rfl) ?_;have e0:=sI0 hm;subst e0;exact Au hd (by kernel_rfl)
def Bm (a0:Ac)(s1:Int×(List g_api_Item)):Option ((Int×(List g_api_Item))⊕((List g_api_Item))):=if(decide (s1.1<(a0.Proms.length:Int)))=true then Ab (idx a0.Proms s1.1) fun x4=>Ab (Cc x4.Log) fun x5=>Ab (Cc x4.At) fun x6=>Ab (Fl ([x5,x6]:List g_api_Item)) fun x7=>Ab (EK x4.Leaf.1 x4.Leaf.2) fun x8=>Ab (app 56 x7.L x8) fun x9=>Ab (EK x4.Sig.E x4.Sig.S) fun x10=>Ab (app 56 x9 x10) fun x11=>Ab (app 56 s1.2 ([(⟨x7.Tag,x7.B,x11⟩:g_api_Item)]:List g_api_Item)) fun x12=>some (.inl ((w64 (s1.1+1)),x12))else some (.inr s1.2)
def Gd (a0:Ac):Option g_api_Item:=Ab (Ab (iter (Bm a0) Bv (0,([]:List g_api_Item))) fun x2=>some x2) fun x1=>Ab (GZ a0) fun x13=>Ab (D8 ([x13,(⟨48,[],x1⟩:g_api_Item)]:List g_api_Item)) fun x14=>some x14
theorem PK {a0:Ac}{r:g_api_Item}(hm:Gd a0=some r):Sf prog 51 [ag (Aq a0)] (ag (Aa r)):=
 sp call51 func51 rfl ntmps51 rfl fun D0 As η0 m0 hd=>by
  unfold Gd at hm;obtain⟨x1,q1,hm⟩:=oY0 hm;obtain⟨x2,q2,q1⟩:=oY0 q1;refine NV 0 Aa 3 2 3 (by kernel_rfl) ?_;refine gjU 0 (fun(_:Unit)=>⟨[(1,.pb 0 0),(2,.pb 1 0),(3,.pb 2 0)],[(0,.row 3 3 _ Aa x1),(1,.box 2 [.d (.i 48),sl eB [],.ow 3] 56),(2,.box 1 [.d (.i 0),sl eB [],sl Aa []] 56),(3,.box 0 [.d (.i a0.Serial),.d (.s a0.Issuer),.d (.s a0.Subject),.d (.u a0.Key),sl eS a0.Names,.d (.i a0.From),.d (.i a0.Until),.d (.t a0.Ca),.d (.i a0.Depth),sl eS a0.Permit,sl Af a0.Proms,.d (.u a0.Sig.E),.d (.u a0.Sig.S)] 28)],[],4⟩) (fun _=>True) (by kernel_rfl) (fun Jp bk1=> ?_) fun _ _=> ?_
  ·refine gjU 0 (fun(_:Unit)=>⟨[(1,.pb 0 0),(2,.pb 1 0),(3,.pb 2 0)],[(0,.row 3 3 _ Aa x2),(1,.box 2 [.d (.i 48),sl eB [],.ow 3] 56),(2,.box 1 [.d (.i 0),sl eB [],sl Aa []] 56),(3,.box 0 [.d (.i a0.Serial),.d (.s a0.Issuer),.d (.s a0.Subject),.d (.u a0.Key),sl eS a0.Names,.d (.i a0.From),.d (.i a0.Until),.d (.t a0.Ca),.d (.i a0.Depth),sl eS a0.Permit,sl Af a0.Proms,.d (.u a0.Sig.E),.d (.u a0.Sig.S)] 28)],[],4⟩) (fun _=>True) (by kernel_rfl) (fun Jp bk2=> ?_) fun _ _=> ?_
   ·refine gl hd (fun(p:Nat×(Int×(List g_api_Item)))=>let (p0,p_0,p_1):=p; ⟨[(1,.pb 0 0),(2,.pb 1 0),(3,.pb 2 0),(4,.d (.i p_0))],[(0,.row 3 3 _ Aa p_1),(1,.box 2 [.d (.i 48),sl eB [],.ow 3] 56),(2,.box 1 [.d (.i 0),sl eB [],sl Aa []] 56),(3,.box 0 [.d (.i a0.Serial),.d (.s a0.Issuer),.d (.s a0.Subject),.d (.u a0.Key),sl eS a0.Names,.d (.i a0.From),.d (.i a0.Until),.d (.t a0.Ca),.d (.i a0.Depth),sl eS a0.Permit,sl Af a0.Proms,.d (.u a0.Sig.E),.d (.u a0.Sig.S)] 28)],[],4⟩) (fun p=>iter (Bm a0) p.1 p.2=some x2) (fun p=>p.1) (Bv,(0,([]:List g_api_Item))) q2 (by kernel_rfl) ?_;rintro⟨n1,s1⟩ q3 Jl bl1;cases n1 with
    |zero=>exact(AT q3).elim
    |succ n1=>
     obtain⟨y1,q5,q4⟩:=AO q3;unfold Bm at q5;refine gi q5 (by kernel_rfl) (fun hc1 q5=> ?_) fun hc1 q5=> ?_
     ·skip;obtain⟨x4,q7,q5⟩:=oY0 q5;refine Gx (k:=6) (E:=Af) (fun _=>rfl) (fun _=>q7) (by kernel_rfl) ?_;obtain⟨x5,q8,q5⟩:=oY0 q5;refine gc (fun _=>Do q8) (by kernel_rfl) ?_;obtain⟨x6,q9,q5⟩:=oY0 q5;refine gc (fun _=>Do q9) (by kernel_rfl) ?_;refine ET (k:=3) Aa ([x5,x6]:List g_api_Item) (fun _=>rfl) (by kernel_rfl) ?_;obtain⟨x7,q10,q5⟩:=oY0 q5;refine gco (Oh q10) (by kernel_rfl) ?_;obtain⟨x8,q11,q5⟩:=oY0 q5;refine gco (I9 q11) (by kernel_rfl) ?_;obtain⟨x9,q12,q5⟩:=oY0 q5;refine Jv (k:=3) (E:=Aa) (fun _=>rfl) q12 (by kernel_rfl) ?_;obtain⟨x10,q13,q5⟩:=oY0 q5;refine gco (I9 q13) (by kernel_rfl) ?_;obtain⟨x11,q14,q5⟩:=oY0 q5;refine Jv (k:=3) (E:=Aa) (fun _=>rfl) q14 (by kernel_rfl) ?_;refine glitV (k:=3) Aa ([(⟨x7.Tag,x7.B,x11⟩:g_api_Item)]:List g_api_Item) (fun _=>rfl) (by kernel_rfl) ?_;obtain⟨x12,q15,q5⟩:=oY0 q5;refine Jv (k:=3) (E:=Aa) (fun _=>rfl) q15 (by kernel_rfl) ?_;have e0:=sI0 q5;subst e0;rcases q4 with ⟨sn,e,q4'⟩|e
      ·have e:=Sum.inl.inj e;subst e;exact gb bl1 hd (n1,_) ⟨q4',Nat.lt_succ_self _⟩ (by kernel_rfl)
      cases Cb e
     have e0:=sI0 q5;subst e0;rcases q4 with ⟨sn,e,_⟩|e
     ·cases CQ e
     have e:=Sum.inr.inj e;subst e;exact gb bk2 hd () trivial (by kernel_rfl)
   have e0:=sI0 q1;subst e0;exact gb bk1 hd () trivial (by kernel_rfl)
  obtain⟨x13,q16,hm⟩:=oY0 hm;refine gc (fun _=>Q2 q16) (by kernel_rfl) ?_;refine glitV (k:=3) Aa ([x13,(⟨48,[],x1⟩:g_api_Item)]:List g_api_Item) (fun _=>rfl) (by kernel_rfl) ?_;obtain⟨x14,q17,hm⟩:=oY0 hm;refine gc (fun _=>HP q17) (by kernel_rfl) ?_;have e0:=sI0 hm;subst e0;exact Au hd (by kernel_rfl)
def Fi (a0:Ac):Option g_api_Item:=Ab (Gd a0) fun x1=>Ab (EK a0.Sig.E a0.Sig.S) fun x2=>Ab (D8 x2) fun x3=>Ab (D8 ([x1,x3]:List g_api_Item)) fun x4=>some x4
theorem Oc {a0:Ac}{r:g_api_Item}(hm:Fi a0=some r):Sf prog 42 [ag (Aq a0)] (ag (Aa r)):=
 sp call42 func42 rfl ntmps42 rfl fun D0 As η0 m0 hd=>by
  unfold Fi at hm;obtain⟨x1,q1,hm⟩:=oY0 hm;refine gc (fun _=>PK q1) (by kernel_rfl) ?_;obtain⟨x2,q2,hm⟩:=oY0 hm;refine gco (I9 q2) (by kernel_rfl) ?_;obtain⟨x3,q3,hm⟩:=oY0 hm;refine gco (HP q3) (by kernel_rfl) ?_;refine ET (k:=3) Aa ([x1,x3]:List g_api_Item) (fun _=>rfl) (by kernel_rfl) ?_;obtain⟨x4,q4,hm⟩:=oY0 hm;refine gc (fun _=>HP q4) (by kernel_rfl) ?_;have e0:=sI0 hm;subst e0;exact Au hd (by kernel_rfl)
def Ek (a0:Ac):Option Int:=Ab (Gc a0) fun x1=>if(!x1)=true then some 1 else Ab (Fi a0) fun x2=>Ab (G1 x2) fun x3=>if((x3.2 !=0)||(decide ((x3.1.length:Int)>2048)))=true then some 2 else some 0
theorem Od {a0:Ac}{r:Int}(hm:Ek a0=some r):Sf prog 15 [ag (Aq a0)] (.d (.i r)):=
 sp call15 func15 rfl ntmps15 rfl fun D0 As η0 m0 hd=>by
  unfold Ek at hm;obtain⟨x1,q1,hm⟩:=oY0 hm;refine gc (fun _=>PJ q1) (by kernel_rfl) ?_;refine gi hm (by kernel_rfl) (fun hc1 hm=> ?_) fun hc1 hm=> ?_
  ·skip;have e0:=sI0 hm;subst e0;exact Au hd (by kernel_rfl)
  obtain⟨x2,q2,hm⟩:=oY0 hm;refine gc (fun _=>Oc q2) (by kernel_rfl) ?_;obtain⟨x3,q3,hm⟩:=oY0 hm;refine gco (Q4 q3) (by kernel_rfl) ?_;refine gi hm (by kernel_rfl) (fun hc2 hm=> ?_) fun hc2 hm=> ?_
  ·skip;have e0:=sI0 hm;subst e0;exact Au hd (by kernel_rfl)
  have e0:=sI0 hm;subst e0;exact Au hd (by kernel_rfl)
def Bp (a0:List ByteArray)(a1:List ByteArray)(s1:Int):Option ((Int)⊕((Unit)⊕Bool)):=if(decide (s1<(a0.length:Int)))=true then Ab (idx a0 s1) fun x3=>Ab (idx a1 s1) fun x4=>if(!eqS x3 x4)=true then some (.inr (.inr false))else some (.inl (w64 (s1+1)))else some (.inr (.inl ()))
def D3 (a0:List ByteArray)(a1:List ByteArray):Option Bool:=if((a0.length:Int) !=(a1.length:Int))=true then some false else Ab (iter (Bp a0 a1) Bv 0) fun x1=>match x1 with| .inr r=>some r| .inl y1=>some true
theorem KI {a0:List ByteArray}{a1:List ByteArray}{r:Bool}(hm:D3 a0 a1=some r):Sf prog 45 [sl eS a0,sl eS a1] (.d (.t r)):=
 sp call45 func45 rfl ntmps45 rfl fun D0 As η0 m0 hd=>by
  unfold D3 at hm;refine gi hm (by kernel_rfl) (fun hc1 hm=> ?_) fun hc1 hm=> ?_
  ·skip;have e0:=sI0 hm;subst e0;exact Au hd (by kernel_rfl)
  obtain⟨x1,q1,hm⟩:=oY0 hm;refine gjU 0 (fun(y1:Unit)=>⟨[],[],[],0⟩) (fun y1=>x1= .inl y1) (by kernel_rfl) (fun Jp bk1=> ?_) fun y1 hy=> ?_
  ·refine gl hd (fun(p:Nat×(Int))=>let (p0,p_0):=p; ⟨[(0,sl eS a0),(1,sl eS a1),(5,.d (.i p_0))],[],[],0⟩) (fun p=>iter (Bp a0 a1) p.1 p.2=some x1) (fun p=>p.1) (Bv,0) q1 (by kernel_rfl) ?_;rintro⟨n1,s1⟩ q2 Jl bl1;cases n1 with
   |zero=>exact(AT q2).elim
   |succ n1=>
    obtain⟨y2,q4,q3⟩:=AO q2;unfold Bp at q4;refine gi q4 (by kernel_rfl) (fun hc2 q4=> ?_) fun hc2 q4=> ?_
    ·skip;obtain⟨x3,q6,q4⟩:=oY0 q4;refine Gx (k:=1) (E:=eS) (fun _=>rfl) (fun _=>q6) (by kernel_rfl) ?_;obtain⟨x4,q7,q4⟩:=oY0 q4;refine Gx (k:=1) (E:=eS) (fun _=>rfl) (fun _=>q7) (by kernel_rfl) ?_;refine gi q4 (by kernel_rfl) (fun hc3 q4=> ?_) fun hc3 q4=> ?_
     ·skip;cases q4;rcases q3 with ⟨sn,e,_⟩|e
      ·cases e
      cases e;dsimp only at hm;have e0:=sI0 hm;subst e0;exact Au hd (by kernel_rfl)
     have e0:=sI0 q4;subst e0;rcases q3 with ⟨sn,e,q3'⟩|e
     ·have e:=Sum.inl.inj e;subst e;exact gb bl1 hd (n1,_) ⟨q3',Nat.lt_succ_self _⟩ (by kernel_rfl)
     cases Cb e
    have e0:=sI0 q4;subst e0;rcases q3 with ⟨sn,e,_⟩|e
    ·cases CQ e
    have e:=Sum.inr.inj e;subst e;exact gb bk1 hd () rfl (by kernel_rfl)
  subst hy;dsimp only at hm;have e0:=sI0 hm;subst e0;exact Au hd (by kernel_rfl)
def Bn (a0:Ac)(a1:Ac)(s1:Int):Option ((Int)⊕((Unit)⊕Bool)):=if(decide (s1<(a0.Proms.length:Int)))=true then Ab (idx a0.Proms s1) fun x3=>Ab (idx a1.Proms s1) fun x4=>if(!CE x3 x4)=true then some (.inr (.inr false))else some (.inl (w64 (s1+1)))else some (.inr (.inl ()))
def Cq (a0:Ac)(a1:Ac):Option Bool:=if((((((((((a0.Serial !=a1.Serial)||(!eqS a0.Issuer a1.Issuer))||(!eqS a0.Subject a1.Subject))||((a0.Key.toNat:Int) !=(a1.Key.toNat:Int)))||(a0.From !=a1.From))||(a0.Until !=a1.Until))||(a0.Ca !=a1.Ca))||(a0.Depth !=a1.Depth))||(!E6 a0.Sig a1.Sig))||((a0.Proms.length:Int) !=(a1.Proms.length:Int)))=true then some false else Ab (iter (Bn a0 a1) Bv 0) fun x1=>match x1 with| .inr r=>some r| .inl y1=>Ab (D3 a0.Names a1.Names) fun x5=>Ab (gu x5 (D3 a0.Permit a1.Permit)) fun x6=>some (x5&&x6)
theorem Ik {a0:Ac}{a1:Ac}{r:Bool}(hm:Cq a0 a1=some r):Sf prog 17 [ag (Aq a0),ag (Aq a1)] (.d (.t r)):=
 sp call17 func17 rfl ntmps17 rfl fun D0 As η0 m0 hd=>by
  unfold Cq at hm;refine gi hm (by kernel_rfl) (fun hc1 hm=> ?_) fun hc1 hm=> ?_
  ·skip;have e0:=sI0 hm;subst e0;exact Au hd (by kernel_rfl)
  obtain⟨x1,q1,hm⟩:=oY0 hm;refine gjU 0 (fun(y1:Unit)=>⟨[(2,.pb 0 0),(3,.pb 1 0)],[(0,.box 1 [.d (.i a1.Serial),.d (.s a1.Issuer),.d (.s a1.Subject),.d (.u a1.Key),sl eS a1.Names,.d (.i a1.From),.d (.i a1.Until),.d (.t a1.Ca),.d (.i a1.Depth),sl eS a1.Permit,sl Af a1.Proms,.d (.u a1.Sig.E),.d (.u a1.Sig.S)] 28),(1,.box 0 [.d (.i a0.Serial),.d (.s a0.Issuer),.d (.s a0.Subject),.d (.u a0.Key),sl eS a0.Names,.d (.i a0.From),.d (.i a0.Until),.d (.t a0.Ca),.d (.i a0.Depth),sl eS a0.Permit,sl Af a0.Proms,.d (.u a0.Sig.E),.d (.u a0.Sig.S)] 28)],[],2⟩) (fun y1=>x1= .inl y1) (by kernel_rfl) (fun Jp bk1=> ?_) fun y1 hy=> ?_
  ·refine gl hd (fun(p:Nat×(Int))=>let (p0,p_0):=p; ⟨[(2,.pb 0 0),(3,.pb 1 0),(5,.d (.i p_0))],[(0,.box 1 [.d (.i a1.Serial),.d (.s a1.Issuer),.d (.s a1.Subject),.d (.u a1.Key),sl eS a1.Names,.d (.i a1.From),.d (.i a1.Until),.d (.t a1.Ca),.d (.i a1.Depth),sl eS a1.Permit,sl Af a1.Proms,.d (.u a1.Sig.E),.d (.u a1.Sig.S)] 28),(1,.box 0 [.d (.i a0.Serial),.d (.s a0.Issuer),.d (.s a0.Subject),.d (.u a0.Key),sl eS a0.Names,.d (.i a0.From),.d (.i a0.Until),.d (.t a0.Ca),.d (.i a0.Depth),sl eS a0.Permit,sl Af a0.Proms,.d (.u a0.Sig.E),.d (.u a0.Sig.S)] 28)],[],2⟩) (fun p=>iter (Bn a0 a1) p.1 p.2=some x1) (fun p=>p.1) (Bv,0) q1 (by kernel_rfl) ?_;rintro⟨n1,s1⟩ q2 Jl bl1;cases n1 with
   |zero=>exact(AT q2).elim
   |succ n1=>
    obtain⟨y2,q4,q3⟩:=AO q2;unfold Bn at q4;refine gi q4 (by kernel_rfl) (fun hc2 q4=> ?_) fun hc2 q4=> ?_
    ·skip;obtain⟨x3,q6,q4⟩:=oY0 q4;refine Gx (k:=6) (E:=Af) (fun _=>rfl) (fun _=>q6) (by kernel_rfl) ?_;obtain⟨x4,q7,q4⟩:=oY0 q4;refine Gx (k:=6) (E:=Af) (fun _=>rfl) (fun _=>q7) (by kernel_rfl) ?_;refine gi q4 (by kernel_rfl) (fun hc3 q4=> ?_) fun hc3 q4=> ?_
     ·skip;cases q4;rcases q3 with ⟨sn,e,_⟩|e
      ·cases e
      cases e;dsimp only at hm;have e0:=sI0 hm;subst e0;exact Au hd (by kernel_rfl)
     have e0:=sI0 q4;subst e0;rcases q3 with ⟨sn,e,q3'⟩|e
     ·have e:=Sum.inl.inj e;subst e;exact gb bl1 hd (n1,_) ⟨q3',Nat.lt_succ_self _⟩ (by kernel_rfl)
     cases Cb e
    have e0:=sI0 q4;subst e0;rcases q3 with ⟨sn,e,_⟩|e
    ·cases CQ e
    have e:=Sum.inr.inj e;subst e;exact gb bk1 hd () rfl (by kernel_rfl)
  subst hy;dsimp only at hm;obtain⟨x5,q8,hm⟩:=oY0 hm;refine gc (fun _=>KI q8) (by kernel_rfl) ?_;obtain⟨x6,q9,hm⟩:=oY0 hm;refine gcG (fun h=>KI (Er h q9)) (by kernel_rfl) ?_;have e0:=sI0 hm;subst e0;exact Au hd (by kernel_rfl)
def Gg (a0:List UInt8)(a1:Int):Option BA:=if(decide (a1≥(a0.length:Int)))=true then some (⟨0,0,0,70⟩:BA)else Ab (idx a0 a1) fun x1=>if((((((w64 (x1.toNat:Int)) !=1)&&((w64 (x1.toNat:Int)) !=2))&&((w64 (x1.toNat:Int)) !=4))&&((w64 (x1.toNat:Int)) !=12))&&((w64 (x1.toNat:Int)) !=48))=true then some (⟨0,0,0,71⟩:BA)else if(decide ((w64 (a1+1))≥(a0.length:Int)))=true then some (⟨0,0,0,70⟩:BA)else Ab (idx a0 (w64 (a1+1))) fun x2=>if(decide ((w64 (x2.toNat:Int))<128))=true then some (⟨(w64 (x1.toNat:Int)),(w64 (x2.toNat:Int)),(w64 (a1+2)),0⟩:BA)else if(((w64 (x2.toNat:Int)) !=129)&&((w64 (x2.toNat:Int)) !=130))=true then some (⟨0,0,0,71⟩:BA)else if(decide ((w64 ((w64 ((w64 (a1+2))+(w64 (x2.toNat:Int))))-128))>(a0.length:Int)))=true then some (⟨0,0,0,70⟩:BA)else Ab (idx a0 (w64 (a1+2))) fun x3=>Ab (if((w64 (x2.toNat:Int))==130)=true then Ab (idx a0 (w64 (a1+3))) fun x5=>bnd ((w64 ((w64 (256*(w64 (x3.toNat:Int))))+(w64 (x5.toNat:Int))))) fun x6=>some x6 else some (w64 (x3.toNat:Int))) fun x4=>if((((w64 (x2.toNat:Int))==129)&&(decide (x4<128)))||(((w64 (x2.toNat:Int))==130)&&(decide (x4<256))))=true then some (⟨0,0,0,71⟩:BA)else some (⟨(w64 (x1.toNat:Int)),x4,(w64 ((w64 ((w64 (a1+2))+(w64 (x2.toNat:Int))))-128)),0⟩:BA)
theorem PP {a0:List UInt8}{a1:Int}{r:BA}(hm:Gg a0 a1=some r):Sf prog 169 [sl eB a0,.d (.i a1)] (ag (QM r)):=
 sp call169 func169 rfl ntmps169 rfl fun D0 As η0 m0 hd=>by
  unfold Gg at hm;refine gi hm (by kernel_rfl) (fun hc1 hm=> ?_) fun hc1 hm=> ?_
  ·skip;have e0:=sI0 hm;subst e0;exact Au hd (by kernel_rfl)
  obtain⟨x1,q1,hm⟩:=oY0 hm;refine Gx (k:=1) (E:=eB) (fun _=>rfl) (fun _=>q1) (by kernel_rfl) ?_;refine gi hm (by kernel_rfl) (fun hc2 hm=> ?_) fun hc2 hm=> ?_
  ·skip;have e0:=sI0 hm;subst e0;exact Au hd (by kernel_rfl)
  refine gi hm (by kernel_rfl) (fun hc3 hm=> ?_) fun hc3 hm=> ?_
  ·skip;have e0:=sI0 hm;subst e0;exact Au hd (by kernel_rfl)
  obtain⟨x2,q2,hm⟩:=oY0 hm;refine Gx (k:=1) (E:=eB) (fun _=>rfl) (fun _=>q2) (by kernel_rfl) ?_;refine gi hm (by kernel_rfl) (fun hc4 hm=> ?_) fun hc4 hm=> ?_
  ·skip;have e0:=sI0 hm;subst e0;exact Au hd (by kernel_rfl)
  refine gi hm (by kernel_rfl) (fun hc5 hm=> ?_) fun hc5 hm=> ?_
  ·skip;have e0:=sI0 hm;subst e0;exact Au hd (by kernel_rfl)
  refine gi hm (by kernel_rfl) (fun hc6 hm=> ?_) fun hc6 hm=> ?_
  ·skip;have e0:=sI0 hm;subst e0;exact Au hd (by kernel_rfl)
  obtain⟨x3,q3,hm⟩:=oY0 hm;refine Gx (k:=1) (E:=eB) (fun _=>rfl) (fun _=>q3) (by kernel_rfl) ?_;obtain⟨x4,q4,hm⟩:=oY0 hm;refine gj (fun(_:Unit)=>⟨[(1,.d (.i a1)),(4,.pb 0 0),(5,.d (.i (w64 (x1.toNat:Int)))),(6,.d (.i (w64 (x2.toNat:Int)))),(7,.d (.i x4))],[(0,.box 0 [.d (.i 0),.d (.i 0),.d (.i 0),.d (.i 0)] 169)],[],1⟩) (fun _=>True) (by kernel_rfl) (fun Jp bk1=> ?_) fun _ _=> ?_
  ·refine gi q4 (by kernel_rfl) (fun hc7 q4=> ?_) fun hc7 q4=> ?_
   ·obtain⟨x5,q5,q4⟩:=oY0 q4;refine Gx (k:=1) (E:=eB) (fun _=>rfl) (fun _=>q5) (by kernel_rfl) ?_;have q4:=A4 q4;let x6:Int:=((w64 ((w64 (256*(w64 (x3.toNat:Int))))+(w64 (x5.toNat:Int)))));have e0:=sI0 q4;subst e0;exact gb bk1 hd () trivial (by kernel_rfl)
   have e0:=sI0 q4;subst e0;exact gb bk1 hd () trivial (by kernel_rfl)
  refine gi hm (by kernel_rfl) (fun hc8 hm=> ?_) fun hc8 hm=> ?_
  ·skip;have e0:=sI0 hm;subst e0;exact Au hd (by kernel_rfl)
  have e0:=sI0 hm;subst e0;exact Au hd (by kernel_rfl)
def KZ (rF:(List UInt8)→Int→Int→Option (g_api_Item×Int×Int)):Prop:= ∀{a0:List UInt8} {a1:Int} {a2:Int} {r:g_api_Item×Int×Int},rF a0 a1 a2=some r→Sf prog 134 [sl eB a0,.d (.i a1),.d (.i a2)] (.tup [ag (Aa r.1),.d (.i r.2.1),.d (.i r.2.2)])
def A7 (rF:(List UInt8)→Int→Int→Option (g_api_Item×Int×Int))(a0:List UInt8)(a2:Int)(x1:BA)(s1:Int×(List g_api_Item)):Option ((Int×(List g_api_Item))⊕(((List g_api_Item))⊕(g_api_Item×Int×Int))):=if(decide (s1.1<(w64 (x1.At+x1.Len))))=true then if(decide (a2≤1))=true then some (.inr (.inr ((⟨0,[],[]⟩:g_api_Item),0,71)))else Ab (cut a0 0 (w64 (x1.At+x1.Len))) fun x7=>Ab (rF x7 s1.1 (w64 (a2-1))) fun x8=>if(x8.2.2 !=0)=true then some (.inr (.inr ((⟨0,[],[]⟩:g_api_Item),0,71)))else Ab (app 56 s1.2 ([x8.1]:List g_api_Item)) fun x9=>some (.inl (x8.2.1,x9))else some (.inr (.inl s1.2))
def Ez (rF:(List UInt8)→Int→Int→Option (g_api_Item×Int×Int))(a0:List UInt8)(a1:Int)(a2:Int):Option (g_api_Item×Int×Int):=Ab (Gg a0 a1) fun x1=>if(x1.E !=0)=true then some ((⟨0,[],[]⟩:g_api_Item),0,x1.E)else if(decide ((w64 ((w64 (x1.At-a1))+x1.Len))>8192))=true then some ((⟨0,[],[]⟩:g_api_Item),0,71)else if(decide (x1.Len>(w64 ((a0.length:Int)-x1.At))))=true then some ((⟨0,[],[]⟩:g_api_Item),0,70)else if(x1.Tag !=48)=true then Ab (cut a0 x1.At (w64 (x1.At+x1.Len))) fun x2=>Ab (app 1 ([]:List UInt8) x2) fun x3=>Ab (D5 (⟨x1.Tag,x3,[]⟩:g_api_Item)) fun x4=>if(!x4)=true then some ((⟨0,[],[]⟩:g_api_Item),0,71)else some ((⟨x1.Tag,x3,[]⟩:g_api_Item),(w64 (x1.At+x1.Len)),0)else Ab (iter ((A7 rF) a0 a2 x1) Bv (x1.At,([]:List g_api_Item))) fun x5=>match x5 with| .inr r=>some r| .inl y1=>some ((⟨x1.Tag,[],y1⟩:g_api_Item),(w64 (x1.At+x1.Len)),0)
theorem M6 {rF:(List UInt8)→Int→Int→Option (g_api_Item×Int×Int)}(hF:KZ rF){a0:List UInt8}{a1:Int}{a2:Int}{r:g_api_Item×Int×Int}(hm:Ez rF a0 a1 a2=some r):Sf prog 134 [sl eB a0,.d (.i a1),.d (.i a2)] (.tup [ag (Aa r.1),.d (.i r.2.1),.d (.i r.2.2)]):=
 sp call134 func134 rfl ntmps134 rfl fun D0 As η0 m0 hd=>by
  unfold Ez at hm;obtain⟨x1,q1,hm⟩:=oY0 hm;refine gc (fun _=>PP q1) (by kernel_rfl) ?_;refine gi hm (by kernel_rfl) (fun hc1 hm=> ?_) fun hc1 hm=> ?_
  ·skip;have e0:=sI0 hm;subst e0;exact Au hd (by kernel_rfl)
  refine gi hm (by kernel_rfl) (fun hc2 hm=> ?_) fun hc2 hm=> ?_
  ·skip;have e0:=sI0 hm;subst e0;exact Au hd (by kernel_rfl)
  refine gi hm (by kernel_rfl) (fun hc3 hm=> ?_) fun hc3 hm=> ?_
  ·skip;have e0:=sI0 hm;subst e0;exact Au hd (by kernel_rfl)
  refine gi hm (by kernel_rfl) (fun hc4 hm=> ?_) fun hc4 hm=> ?_
  ·skip;refine TT (k:=1) eB ([]:List UInt8) (fun _=>rfl) (by kernel_rfl) ?_;obtain⟨x2,q2,hm⟩:=oY0 hm;refine Ta (k:=1) (E:=eB) (fun _=>rfl) (fun _=>q2) (by kernel_rfl) ?_;obtain⟨x3,q3,hm⟩:=oY0 hm;refine Jv (k:=1) (E:=eB) (fun _=>rfl) q3 (by kernel_rfl) ?_;obtain⟨x4,q4,hm⟩:=oY0 hm;refine gco (KJ q4) (by kernel_rfl) ?_;refine gi hm (by kernel_rfl) (fun hc5 hm=> ?_) fun hc5 hm=> ?_
   ·skip;have e0:=sI0 hm;subst e0;exact Au hd (by kernel_rfl)
   have e0:=sI0 hm;subst e0;exact Au hd (by kernel_rfl)
  obtain⟨x5,q5,hm⟩:=oY0 hm;refine NV 0 Aa 11 2 3 (by kernel_rfl) ?_;refine gjU 0 (fun(y1:(List g_api_Item))=>⟨[(6,.pb 0 0),(10,.d (.i (w64 (x1.At+x1.Len)))),(11,.pb 2 0),(9,.pb 1 0)],[(0,.row 3 3 _ Aa y1),(1,.box 2 [.d (.i x1.Tag),sl eB [],.ow 3] 56),(2,.box 1 [.d (.i x1.Tag),.d (.i x1.Len),.d (.i x1.At),.d (.i x1.E)] 169),(3,.box 0 [.d (.i 0),sl eB [],sl Aa []] 56)],[],4⟩) (fun y1=>x5= .inl y1) (by kernel_rfl) (fun Jp bk1=> ?_) fun y1 hy=> ?_
  ·refine gl hd (fun(p:Nat×(Int×(List g_api_Item)))=>let (p0,p_0,p_1):=p; ⟨[(0,sl eB a0),(2,.d (.i a2)),(6,.pb 0 0),(10,.d (.i (w64 (x1.At+x1.Len)))),(11,.pb 2 0),(12,.d (.i p_0)),(9,.pb 1 0)],[(0,.row 3 3 _ Aa p_1),(1,.box 2 [.d (.i x1.Tag),sl eB [],.ow 3] 56),(2,.box 1 [.d (.i x1.Tag),.d (.i x1.Len),.d (.i x1.At),.d (.i x1.E)] 169),(3,.box 0 [.d (.i 0),sl eB [],sl Aa []] 56)],[],4⟩) (fun p=>iter ((A7 rF) a0 a2 x1) p.1 p.2=some x5) (fun p=>p.1) (Bv,(x1.At,([]:List g_api_Item))) q5 (by kernel_rfl) ?_;rintro⟨n1,s1⟩ q6 Jl bl1;cases n1 with
   |zero=>exact(AT q6).elim
   |succ n1=>
    obtain⟨y2,q8,q7⟩:=AO q6;unfold A7 at q8;refine gi q8 (by kernel_rfl) (fun hc6 q8=> ?_) fun hc6 q8=> ?_
    ·skip;refine gi q8 (by kernel_rfl) (fun hc7 q8=> ?_) fun hc7 q8=> ?_
     ·skip;cases q8;rcases q7 with ⟨sn,e,_⟩|e
      ·cases e
      cases e;dsimp only at hm;have e0:=sI0 hm;subst e0;exact Au hd (by kernel_rfl)
     obtain⟨x7,q10,q8⟩:=oY0 q8;refine Ta (k:=1) (E:=eB) (fun _=>rfl) (fun _=>q10) (by kernel_rfl) ?_;obtain⟨x8,q11,q8⟩:=oY0 q8;refine gc (fun _=>hF q11) (by kernel_rfl) ?_;refine gi q8 (by kernel_rfl) (fun hc8 q8=> ?_) fun hc8 q8=> ?_
     ·skip;cases q8;rcases q7 with ⟨sn,e,_⟩|e
      ·cases e
      cases e;dsimp only at hm;have e0:=sI0 hm;subst e0;exact Au hd (by kernel_rfl)
     refine ET (k:=3) Aa ([x8.1]:List g_api_Item) (fun _=>rfl) (by kernel_rfl) ?_;obtain⟨x9,q12,q8⟩:=oY0 q8;refine Jv (k:=3) (E:=Aa) (fun _=>rfl) q12 (by kernel_rfl) ?_;have e0:=sI0 q8;subst e0;rcases q7 with ⟨sn,e,q7'⟩|e
     ·have e:=Sum.inl.inj e;subst e;exact gb bl1 hd (n1,_) ⟨q7',Nat.lt_succ_self _⟩ (by kernel_rfl)
     cases Cb e
    have e0:=sI0 q8;subst e0;rcases q7 with ⟨sn,e,_⟩|e
    ·cases CQ e
    have e:=Sum.inr.inj e;subst e;exact gb bk1 hd s1.2 rfl (by kernel_rfl)
  subst hy;dsimp only at hm;have e0:=sI0 hm;subst e0;exact Au hd (by kernel_rfl)
def Di:Nat→(List UInt8)→Int→Int→Option (g_api_Item×Int×Int)
 |0,_,_,_=>none
 |n+1,a0,a1,a2=>Ez (Di n) a0 a1 a2
def ID (a0:List UInt8)(a1:Int)(a2:Int):Option (g_api_Item×Int×Int):=Di Bv a0 a1 a2
theorem Jw: ∀n,KZ (Di n)
 |0=>fun hm=>by cases hm
 |n+1=>fun hm=>M6 (Jw n) hm
theorem PO {a0:List UInt8}{a1:Int}{a2:Int}{r:g_api_Item×Int×Int}(hm:ID a0 a1 a2=some r):Sf prog 134 [sl eB a0,.d (.i a1),.d (.i a2)] (.tup [ag (Aa r.1),.d (.i r.2.1),.d (.i r.2.2)]):=Jw Bv hm
def EL (a0:List UInt8)(a1:Int):Option (g_api_Item×Int×Int):=if((decide (a1<0))||(decide (a1>(a0.length:Int))))=true then some ((⟨0,[],[]⟩:g_api_Item),0,1)else Ab (ID a0 a1 8) fun x1=>some (x1.1,x1.2.1,x1.2.2)
theorem Q5 {a0:List UInt8}{a1:Int}{r:g_api_Item×Int×Int}(hm:EL a0 a1=some r):Sf prog 97 [sl eB a0,.d (.i a1)] (.tup [ag (Aa r.1),.d (.i r.2.1),.d (.i r.2.2)]):=
 sp call97 func97 rfl ntmps97 rfl fun D0 As η0 m0 hd=>by
  unfold EL at hm;refine gi hm (by kernel_rfl) (fun hc1 hm=> ?_) fun hc1 hm=> ?_
  ·skip;have e0:=sI0 hm;subst e0;exact Au hd (by kernel_rfl)
  obtain⟨x1,q1,hm⟩:=oY0 hm;refine gc (fun _=>PO q1) (by kernel_rfl) ?_;have e0:=sI0 hm;subst e0;exact Au hd (by kernel_rfl)
def EZ (a0:g_api_Item)(a1:Int):Option Int:=if(a0.Tag !=a1)=true then some 72 else Ab (FM a0) fun x1=>if(!x1)=true then some 71 else some 0
theorem IO {a0:g_api_Item}{a1:Int}{r:Int}(hm:EZ a0 a1=some r):Sf prog 135 [ag (Aa a0),.d (.i a1)] (.d (.i r)):=
 sp call135 func135 rfl ntmps135 rfl fun D0 As η0 m0 hd=>by
  unfold EZ at hm;refine gi hm (by kernel_rfl) (fun hc1 hm=> ?_) fun hc1 hm=> ?_
  ·skip;have e0:=sI0 hm;subst e0;exact Au hd (by kernel_rfl)
  obtain⟨x1,q1,hm⟩:=oY0 hm;refine gc (fun _=>LP q1) (by kernel_rfl) ?_;refine gi hm (by kernel_rfl) (fun hc2 hm=> ?_) fun hc2 hm=> ?_
  ·skip;have e0:=sI0 hm;subst e0;exact Au hd (by kernel_rfl)
  have e0:=sI0 hm;subst e0;exact Au hd (by kernel_rfl)
def BW (a0:g_api_Item):Option ((List g_api_Item)×Int):=Ab (EZ a0 48) fun x1=>if(x1 !=0)=true then some (([]:List g_api_Item),x1)else Ab (app 56 ([]:List g_api_Item) a0.L) fun x2=>some (x2,0)
theorem JG {a0:g_api_Item}{r:(List g_api_Item)×Int}(hm:BW a0=some r):Sp prog 98 [ag (Aa a0)] [] 0 (is (.tup [.ow 0,.d (.i r.2)]) [.row 0 3 _ Aa r.1] 1):=
 sp call98 func98 rfl ntmps98 rfl fun D0 As η0 m0 hd=>by
  unfold BW at hm;obtain⟨x1,q1,hm⟩:=oY0 hm;refine gc (fun _=>IO q1) (by kernel_rfl) ?_;refine gi hm (by kernel_rfl) (fun hc1 hm=> ?_) fun hc1 hm=> ?_
  ·skip;refine WK Aa 2 3 (by kernel_rfl) ?_;have e0:=sI0 hm;subst e0;exact Au hd (by kernel_rfl)
  refine TT (k:=3) Aa ([]:List g_api_Item) (fun _=>rfl) (by kernel_rfl) ?_;obtain⟨x2,q2,hm⟩:=oY0 hm;refine Jv (k:=3) (E:=Aa) (fun _=>rfl) q2 (by kernel_rfl) ?_;have e0:=sI0 hm;subst e0;exact Au hd (by kernel_rfl)
theorem Pl {a0:g_api_Item}{r:(List g_api_Item)×Int}(hm:BW a0=some r):Sf prog 98 [ag (Aa a0)] (.tup [sl Aa r.1,.d (.i r.2)]):=Sp.fz (JG hm) (by kernel_rfl)
def Bt (a0:g_api_Item)(s1:Int×Int):Option ((Int×Int)⊕(Int)):=if(decide (s1.2<(a0.B.length:Int)))=true then Ab (idx a0.B s1.2) fun x7=>bnd ((w64 ((w64 (256*s1.1))+(w64 (x7.toNat:Int))))) fun x8=>some (.inl (x8,(w64 (s1.2+1))))else some (.inr s1.1)
def Ds (a0:g_api_Item):Option (Int×Int):=Ab (EZ a0 2) fun x1=>if(x1 !=0)=true then some (0,x1)else Ab (Ab (idx a0.B 0) fun x3=>if(decide ((x3.toNat:Int)≥128))=true then some (-1)else some 0) fun x2=>Ab (Ab (iter (Bt a0) Bv (x2,0)) fun x5=>some x5) fun x4=>some (x4,0)
theorem Oi {a0:g_api_Item}{r:Int×Int}(hm:Ds a0=some r):Sf prog 170 [ag (Aa a0)] (.tup [.d (.i r.1),.d (.i r.2)]):=
 sp call170 func170 rfl ntmps170 rfl fun D0 As η0 m0 hd=>by
  unfold Ds at hm;obtain⟨x1,q1,hm⟩:=oY0 hm;refine gc (fun _=>IO q1) (by kernel_rfl) ?_;refine gi hm (by kernel_rfl) (fun hc1 hm=> ?_) fun hc1 hm=> ?_
  ·skip;have e0:=sI0 hm;subst e0;exact Au hd (by kernel_rfl)
  obtain⟨x2,q2,hm⟩:=oY0 hm;obtain⟨x3,q3,q2⟩:=oY0 q2;refine Gx (k:=1) (E:=eB) (fun _=>rfl) (fun _=>q3) (by kernel_rfl) ?_;refine gj (fun(_:Unit)=>⟨[(1,.pb 0 0),(5,.d (.i x2))],[(0,.box 0 [.d (.i a0.Tag),sl eB a0.B,sl Aa a0.L] 56)],[],1⟩) (fun _=>True) (by kernel_rfl) (fun Jp bk1=> ?_) fun _ _=> ?_
  ·refine gi q2 (by kernel_rfl) (fun hc2 q2=> ?_) fun hc2 q2=> ?_
   ·skip;have e0:=sI0 q2;subst e0;exact gb bk1 hd () trivial (by kernel_rfl)
   have e0:=sI0 q2;subst e0;exact gb bk1 hd () trivial (by kernel_rfl)
  obtain⟨x4,q4,hm⟩:=oY0 hm;obtain⟨x5,q5,q4⟩:=oY0 q4;refine gjU 0 (fun(_:Unit)=>⟨[(5,.d (.i x4)),(1,.pb 0 0)],[(0,.box 0 [.d (.i a0.Tag),sl eB a0.B,sl Aa a0.L] 56)],[],1⟩) (fun _=>True) (by kernel_rfl) (fun Jp bk2=> ?_) fun _ _=> ?_
  ·refine gjU 0 (fun(_:Unit)=>⟨[(5,.d (.i x5)),(1,.pb 0 0)],[(0,.box 0 [.d (.i a0.Tag),sl eB a0.B,sl Aa a0.L] 56)],[],1⟩) (fun _=>True) (by kernel_rfl) (fun Jp bk3=> ?_) fun _ _=> ?_
   ·refine gl hd (fun(p:Nat×(Int×Int))=>let (p0,p_0,p_1):=p; ⟨[(1,.pb 0 0),(5,.d (.i p_0)),(6,.d (.i p_1))],[(0,.box 0 [.d (.i a0.Tag),sl eB a0.B,sl Aa a0.L] 56)],[],1⟩) (fun p=>iter (Bt a0) p.1 p.2=some x5) (fun p=>p.1) (Bv,(x2,0)) q5 (by kernel_rfl) ?_;rintro⟨n1,s1⟩ q6 Jl bl1;cases n1 with
    |zero=>exact(AT q6).elim
    |succ n1=>
     obtain⟨y1,q8,q7⟩:=AO q6;unfold Bt at q8;refine gi q8 (by kernel_rfl) (fun hc3 q8=> ?_) fun hc3 q8=> ?_
     ·skip;obtain⟨x7,q10,q8⟩:=oY0 q8;refine Gx (k:=1) (E:=eB) (fun _=>rfl) (fun _=>q10) (by kernel_rfl) ?_;have q8:=A4 q8;let x8:Int:=((w64 ((w64 (256*s1.1))+(w64 (x7.toNat:Int)))));have e0:=sI0 q8;subst e0;rcases q7 with ⟨sn,e,q7'⟩|e
      ·have e:=Sum.inl.inj e;subst e;exact gb bl1 hd (n1,_) ⟨q7',Nat.lt_succ_self _⟩ (by kernel_rfl)
      cases Cb e
     have e0:=sI0 q8;subst e0;rcases q7 with ⟨sn,e,_⟩|e
     ·cases CQ e
     have e:=Sum.inr.inj e;subst e;exact gb bk3 hd () trivial (by kernel_rfl)
   have e0:=sI0 q4;subst e0;exact gb bk2 hd () trivial (by kernel_rfl)
  have e0:=sI0 hm;subst e0;exact Au hd (by kernel_rfl)
def BM (a0:Ag):Option (g_api_Item×Ag):=if((a0.L.length:Int)==0)=true then some ((⟨0,[],[]⟩:g_api_Item),(⟨a0.L,true⟩:Ag))else Ab (idx a0.L 0) fun x1=>Ab (cut a0.L 1 (a0.L.length:Int)) fun x2=>some (x1,(⟨x2,a0.Bad⟩:Ag))
theorem Dn {a0:Ag}{r:g_api_Item×Ag}(hm:BM a0=some r):Sp prog 171 [.pb 0 0] [.box 0 [sl Aa a0.L,.d (.t a0.Bad)] 136] 1 (is (ag (Aa r.1)) [.box 0 [.d (.sl _ Aa r.2.L),.d (.t r.2.Bad)] 136] 1):=
 sp call171 func171 rfl ntmps171 rfl fun D0 As η0 m0 hd=>by
  unfold BM at hm;refine gi hm (by kernel_rfl) (fun hc1 hm=> ?_) fun hc1 hm=> ?_
  ·skip;have e0:=sI0 hm;subst e0;exact Au hd (by kernel_rfl)
  obtain⟨x1,q1,hm⟩:=oY0 hm;refine Gx (k:=3) (E:=Aa) (fun _=>rfl) (fun _=>q1) (by kernel_rfl) ?_;obtain⟨x2,q2,hm⟩:=oY0 hm;refine Ta (k:=3) (E:=Aa) (fun _=>rfl) (fun _=>q2) (by kernel_rfl) ?_;have e0:=sI0 hm;subst e0;exact Au hd (by kernel_rfl)
def Av (a0:Ag):Option (Int×Ag):=Ab (BM a0) fun x1=>Ab (Ds x1.1) fun x2=>some (x2.1,(⟨x1.2.L,((x1.2.Bad||(x2.2 !=0))||(decide (x2.1<0)))⟩:Ag))
theorem AP {a0:Ag}{r:Int×Ag}(hm:Av a0=some r):Sp prog 136 [.pb 0 0] [.box 0 [sl Aa a0.L,.d (.t a0.Bad)] 136] 1 (is (.d (.i r.1)) [.box 0 [.d (.sl _ Aa r.2.L),.d (.t r.2.Bad)] 136] 1):=
 sp call136 func136 rfl ntmps136 rfl fun D0 As η0 m0 hd=>by
  unfold Av at hm;obtain⟨x1,q1,hm⟩:=oY0 hm;refine gco (Dn q1) (by kernel_rfl) ?_;obtain⟨x2,q2,hm⟩:=oY0 hm;refine gc (fun _=>Oi q2) (by kernel_rfl) ?_;have e0:=sI0 hm;subst e0;exact Au hd (by kernel_rfl)
def C0 (a0:g_api_Item):Option (ByteArray×Int):=Ab (EZ a0 12) fun x1=>if(x1 !=0)=true then some ((⟨#[]⟩:ByteArray),x1)else some ((bs a0.B),0)
theorem Na {a0:g_api_Item}{r:ByteArray×Int}(hm:C0 a0=some r):Sf prog 172 [ag (Aa a0)] (.tup [.d (.s r.1),.d (.i r.2)]):=
 sp call172 func172 rfl ntmps172 rfl fun D0 As η0 m0 hd=>by
  unfold C0 at hm;obtain⟨x1,q1,hm⟩:=oY0 hm;refine gc (fun _=>IO q1) (by kernel_rfl) ?_;refine gi hm (by kernel_rfl) (fun hc1 hm=> ?_) fun hc1 hm=> ?_
  ·skip;have e0:=sI0 hm;subst e0;exact Au hd (by kernel_rfl)
  refine gbs (xs:=a0.B) (by kernel_rfl) ?_;have e0:=sI0 hm;subst e0;exact Au hd (by kernel_rfl)
def BL (a0:Ag):Option (ByteArray×Ag):=Ab (BM a0) fun x1=>Ab (C0 x1.1) fun x2=>some (x2.1,(⟨x1.2.L,(x1.2.Bad||(x2.2 !=0))⟩:Ag))
theorem EH {a0:Ag}{r:ByteArray×Ag}(hm:BL a0=some r):Sp prog 137 [.pb 0 0] [.box 0 [sl Aa a0.L,.d (.t a0.Bad)] 136] 1 (is (.d (.s r.1)) [.box 0 [.d (.sl _ Aa r.2.L),.d (.t r.2.Bad)] 136] 1):=
 sp call137 func137 rfl ntmps137 rfl fun D0 As η0 m0 hd=>by
  unfold BL at hm;obtain⟨x1,q1,hm⟩:=oY0 hm;refine gco (Dn q1) (by kernel_rfl) ?_;obtain⟨x2,q2,hm⟩:=oY0 hm;refine gc (fun _=>Na q2) (by kernel_rfl) ?_;have e0:=sI0 hm;subst e0;exact Au hd (by kernel_rfl)
def A6 (a0:Ag):Option ((List g_api_Item)×Ag):=Ab (BM a0) fun x1=>Ab (BW x1.1) fun x2=>some (x2.1,(⟨x1.2.L,(x1.2.Bad||(x2.2 !=0))⟩:Ag))
theorem Cs {a0:Ag}{r:(List g_api_Item)×Ag}(hm:A6 a0=some r):Sp prog 140 [.pb 0 0] [.box 0 [sl Aa a0.L,.d (.t a0.Bad)] 136] 1 (is (.ow 1) [.box 0 [.d (.sl _ Aa r.2.L),.d (.t r.2.Bad)] 136,.row 1 3 _ Aa r.1] 2):=
 sp call140 func140 rfl ntmps140 rfl fun D0 As η0 m0 hd=>by
  unfold A6 at hm;obtain⟨x1,q1,hm⟩:=oY0 hm;refine gco (Dn q1) (by kernel_rfl) ?_;obtain⟨x2,q2,hm⟩:=oY0 hm;refine gco (JG q2) (by kernel_rfl) ?_;have e0:=sI0 hm;subst e0;exact Au hd (by kernel_rfl)
def AE (s1:(List ByteArray)×(List g_api_Item)×Bool):Option (((List ByteArray)×(List g_api_Item)×Bool)⊕((List ByteArray)×(List g_api_Item)×Bool)):=if(decide ((s1.2.1.length:Int)>0))=true then Ab (BL (⟨s1.2.1,s1.2.2⟩:Ag)) fun x5=>Ab (app 16 s1.1 ([x5.1]:List ByteArray)) fun x6=>some (.inl (x6,x5.2.L,x5.2.Bad))else some (.inr (s1.1,s1.2.1,s1.2.2))
def Ch (a0:Ag):Option ((List ByteArray)×Ag):=Ab (A6 a0) fun x1=>Ab (Ab (iter AE Bv (([]:List ByteArray),x1.1,false)) fun x3=>some (x3.1,x3.2.1,x3.2.2)) fun x2=>some (x2.1,(⟨x1.2.L,(x1.2.Bad||x2.2.2)⟩:Ag))
theorem Gy {a0:Ag}{r:(List ByteArray)×Ag}(hm:Ch a0=some r):Sp prog 138 [.pb 0 0] [.box 0 [sl Aa a0.L,.d (.t a0.Bad)] 136] 1 (is (.ow 1) [.box 0 [.d (.sl _ Aa r.2.L),.d (.t r.2.Bad)] 136,.row 1 1 _ eS r.1] 2):=
 sp call138 func138 rfl ntmps138 rfl fun D0 As η0 m0 hd=>by
  unfold Ch at hm;obtain⟨x1,q1,hm⟩:=oY0 hm;refine gco (Cs q1) (by kernel_rfl) ?_;obtain⟨x2,q2,hm⟩:=oY0 hm;obtain⟨x3,q3,q2⟩:=oY0 q2;refine VX 0 eS 4 1 (by kernel_rfl) ?_;refine gjU 0 (fun(_:Unit)=>let (y_0,y_1,y_2):=x2; ⟨[(0,.pb 0 0),(3,.pb 1 0),(4,.ow 2),(8,.pb 1 0)],[(0,.row 2 1 _ eS y_0),(1,.box 1 [sl Aa y_1,.d (.t y_2)] 136),(2,.box 0 [sl Aa x1.2.L,.d (.t x1.2.Bad)] 136)],[],3⟩) (fun _=>True) (by kernel_rfl) (fun Jp bk1=> ?_) fun _ _=> ?_
  ·refine gjU 0 (fun(_:Unit)=>let (y_0,y_1,y_2):=x3; ⟨[(0,.pb 0 0),(3,.pb 1 0),(4,.ow 2),(8,.pb 1 0)],[(0,.row 2 1 _ eS y_0),(1,.box 1 [sl Aa y_1,.d (.t y_2)] 136),(2,.box 0 [sl Aa x1.2.L,.d (.t x1.2.Bad)] 136)],[],3⟩) (fun _=>True) (by kernel_rfl) (fun Jp bk2=> ?_) fun _ _=> ?_
   ·refine gl hd (fun(p:Nat×((List ByteArray)×(List g_api_Item)×Bool))=>let (p0,p_0,p_1,p_2):=p; ⟨[(0,.pb 0 0),(3,.pb 1 0),(4,.ow 2),(8,.pb 1 0)],[(0,.row 2 1 _ eS p_0),(1,.box 1 [sl Aa p_1,.d (.t p_2)] 136),(2,.box 0 [sl Aa x1.2.L,.d (.t x1.2.Bad)] 136)],[],3⟩) (fun p=>iter AE p.1 p.2=some x3) (fun p=>p.1) (Bv,(([]:List ByteArray),x1.1,false)) q3 (by kernel_rfl) ?_;rintro⟨n1,s1⟩ q4 Jl bl1;cases n1 with
    |zero=>exact(AT q4).elim
    |succ n1=>
     obtain⟨y1,q6,q5⟩:=AO q4;unfold AE at q6;refine gi q6 (by kernel_rfl) (fun hc1 q6=> ?_) fun hc1 q6=> ?_
     ·skip;obtain⟨x5,q8,q6⟩:=oY0 q6;refine gco (EH q8) (by kernel_rfl) ?_;refine ET (k:=1) eS ([x5.1]:List ByteArray) (fun _=>rfl) (by kernel_rfl) ?_;obtain⟨x6,q9,q6⟩:=oY0 q6;refine Jv (k:=1) (E:=eS) (fun _=>rfl) q9 (by kernel_rfl) ?_;have e0:=sI0 q6;subst e0;rcases q5 with ⟨sn,e,q5'⟩|e
      ·have e:=Sum.inl.inj e;subst e;exact gb bl1 hd (n1,_) ⟨q5',Nat.lt_succ_self _⟩ (by kernel_rfl)
      cases Cb e
     have e0:=sI0 q6;subst e0;rcases q5 with ⟨sn,e,_⟩|e
     ·cases CQ e
     have e:=Sum.inr.inj e;subst e;exact gb bk2 hd () trivial (by kernel_rfl)
   have e0:=sI0 q2;subst e0;exact gb bk1 hd () trivial (by kernel_rfl)
  have e0:=sI0 hm;subst e0;exact Au hd (by kernel_rfl)
def C1 (a0:g_api_Item):Option (Bool×Int):=Ab (EZ a0 1) fun x1=>if(x1 !=0)=true then some (false,x1)else Ab (idx a0.B 0) fun x2=>some (((x2.toNat:Int)==255),0)
theorem Nb {a0:g_api_Item}{r:Bool×Int}(hm:C1 a0=some r):Sf prog 173 [ag (Aa a0)] (.tup [.d (.t r.1),.d (.i r.2)]):=
 sp call173 func173 rfl ntmps173 rfl fun D0 As η0 m0 hd=>by
  unfold C1 at hm;obtain⟨x1,q1,hm⟩:=oY0 hm;refine gc (fun _=>IO q1) (by kernel_rfl) ?_;refine gi hm (by kernel_rfl) (fun hc1 hm=> ?_) fun hc1 hm=> ?_
  ·skip;have e0:=sI0 hm;subst e0;exact Au hd (by kernel_rfl)
  obtain⟨x2,q2,hm⟩:=oY0 hm;refine Gx (k:=1) (E:=eB) (fun _=>rfl) (fun _=>q2) (by kernel_rfl) ?_;have e0:=sI0 hm;subst e0;exact Au hd (by kernel_rfl)
def Cw (a0:Ag):Option (Bool×Ag):=Ab (BM a0) fun x1=>Ab (C1 x1.1) fun x2=>some (x2.1,(⟨x1.2.L,(x1.2.Bad||(x2.2 !=0))⟩:Ag))
theorem IX {a0:Ag}{r:Bool×Ag}(hm:Cw a0=some r):Sp prog 139 [.pb 0 0] [.box 0 [sl Aa a0.L,.d (.t a0.Bad)] 136] 1 (is (.d (.t r.1)) [.box 0 [.d (.sl _ Aa r.2.L),.d (.t r.2.Bad)] 136] 1):=
 sp call139 func139 rfl ntmps139 rfl fun D0 As η0 m0 hd=>by
  unfold Cw at hm;obtain⟨x1,q1,hm⟩:=oY0 hm;refine gco (Dn q1) (by kernel_rfl) ?_;obtain⟨x2,q2,hm⟩:=oY0 hm;refine gc (fun _=>Nb q2) (by kernel_rfl) ?_;have e0:=sI0 hm;subst e0;exact Au hd (by kernel_rfl)
def Dr (a0:List g_api_Item):Option (Ac×Bool):=Ab (Av (⟨a0,false⟩:Ag)) fun x1=>Ab (BL x1.2) fun x2=>Ab (BL x2.2) fun x3=>Ab (Av x3.2) fun x4=>Ab (Ch x4.2) fun x5=>Ab (Av x5.2) fun x6=>Ab (Av x6.2) fun x7=>Ab (Cw x7.2) fun x8=>Ab (Av x8.2) fun x9=>Ab (Ch x9.2) fun x10=>bnd (((!x10.2.Bad)&&((x10.2.L.length:Int)==0))) fun x11=>some ((⟨x1.1,x2.1,x3.1,(toU x4.1),x5.1,x6.1,x7.1,x8.1,x9.1,x10.1,[],(⟨0,0⟩:g_api_Sig)⟩:Ac),x11)
theorem JF {a0:List g_api_Item}{r:Ac×Bool}(hm:Dr a0=some r):Sf prog 99 [sl Aa a0] (.tup [.agg (List.set (((Aq r.1)).map dv) 10 (.d (.v (.slice none 0 0)))),.d (.t r.2)]):=
 sp call99 func99 rfl ntmps99 rfl fun D0 As η0 m0 hd=>by
  unfold Dr at hm;obtain⟨x1,q1,hm⟩:=oY0 hm;refine gco (AP q1) (by kernel_rfl) ?_;obtain⟨x2,q2,hm⟩:=oY0 hm;refine gco (EH q2) (by kernel_rfl) ?_;obtain⟨x3,q3,hm⟩:=oY0 hm;refine gco (EH q3) (by kernel_rfl) ?_;obtain⟨x4,q4,hm⟩:=oY0 hm;refine gco (AP q4) (by kernel_rfl) ?_;obtain⟨x5,q5,hm⟩:=oY0 hm;refine gco (Gy q5) (by kernel_rfl) ?_;obtain⟨x6,q6,hm⟩:=oY0 hm;refine gco (AP q6) (by kernel_rfl) ?_;obtain⟨x7,q7,hm⟩:=oY0 hm;refine gco (AP q7) (by kernel_rfl) ?_;obtain⟨x8,q8,hm⟩:=oY0 hm;refine gco (IX q8) (by kernel_rfl) ?_;obtain⟨x9,q9,hm⟩:=oY0 hm;refine gco (AP q9) (by kernel_rfl) ?_;obtain⟨x10,q10,hm⟩:=oY0 hm;refine gco (Gy q10) (by kernel_rfl) ?_;have hm:=A4 hm;let x11:Bool:=(((!x10.2.Bad)&&((x10.2.L.length:Int)==0)));have e0:=sI0 hm;subst e0;exact Au hd (by kernel_rfl)
def CX (a0:List g_api_Item):Option (g_api_Promise×Bool):=Ab (Av (⟨a0,false⟩:Ag)) fun x1=>Ab (Av x1.2) fun x2=>Ab (Av x2.2) fun x3=>Ab (Av x3.2) fun x4=>Ab (Av x4.2) fun x5=>Ab (Av x5.2) fun x6=>bnd (((!x6.2.Bad)&&((x6.2.L.length:Int)==0))) fun x7=>some ((⟨x1.1,x2.1,((toU x3.1),(toU x4.1)),(⟨(toU x5.1),(toU x6.1)⟩:g_api_Sig)⟩:g_api_Promise),x7)
theorem MZ {a0:List g_api_Item}{r:g_api_Promise×Bool}(hm:CX a0=some r):Sf prog 141 [sl Aa a0] (.tup [ag (Af r.1),.d (.t r.2)]):=
 sp call141 func141 rfl ntmps141 rfl fun D0 As η0 m0 hd=>by
  unfold CX at hm;obtain⟨x1,q1,hm⟩:=oY0 hm;refine gco (AP q1) (by kernel_rfl) ?_;obtain⟨x2,q2,hm⟩:=oY0 hm;refine gco (AP q2) (by kernel_rfl) ?_;obtain⟨x3,q3,hm⟩:=oY0 hm;refine gco (AP q3) (by kernel_rfl) ?_;obtain⟨x4,q4,hm⟩:=oY0 hm;refine gco (AP q4) (by kernel_rfl) ?_;obtain⟨x5,q5,hm⟩:=oY0 hm;refine gco (AP q5) (by kernel_rfl) ?_;obtain⟨x6,q6,hm⟩:=oY0 hm;refine gco (AP q6) (by kernel_rfl) ?_;have hm:=A4 hm;let x7:Bool:=(((!x6.2.Bad)&&((x6.2.L.length:Int)==0)));have e0:=sI0 hm;subst e0;exact Au hd (by kernel_rfl)
def By (s1:Bool×(List g_api_Item)×Bool×(List g_api_Promise)):Option ((Bool×(List g_api_Item)×Bool×(List g_api_Promise))⊕(Bool×(List g_api_Item)×Bool×(List g_api_Promise))):=if(decide ((s1.2.1.length:Int)>0))=true then Ab (A6 (⟨s1.2.1,s1.2.2.1⟩:Ag)) fun x7=>Ab (CX x7.1) fun x8=>Ab (app 48 s1.2.2.2 ([x8.1]:List g_api_Promise)) fun x9=>some (.inl ((s1.1&&x8.2),x7.2.L,x7.2.Bad,x9))else some (.inr (s1.1,s1.2.1,s1.2.2.1,s1.2.2.2))
def CY (a0:List g_api_Item):Option (Ac×Bool):=Ab (A6 (⟨a0,false⟩:Ag)) fun x1=>Ab (Dr x1.1) fun x2=>Ab (A6 x1.2) fun x3=>Ab (Ab (iter By Bv (x2.2,x3.1,false,([]:List g_api_Promise))) fun x5=>some (x5.1,x5.2.1,x5.2.2.1,x5.2.2.2)) fun x4=>bnd ((((x4.1&&(!x3.2.Bad))&&(!x4.2.2.1))&&((x3.2.L.length:Int)==0))) fun x10=>some ((⟨x2.1.Serial,x2.1.Issuer,x2.1.Subject,x2.1.Key,x2.1.Names,x2.1.From,x2.1.Until,x2.1.Ca,x2.1.Depth,x2.1.Permit,x4.2.2.2,x2.1.Sig⟩:Ac),x10)
theorem I1 {a0:List g_api_Item}{r:Ac×Bool}(hm:CY a0=some r):Sf prog 100 [sl Aa a0] (.tup [ag (Aq r.1),.d (.t r.2)]):=
 sp call100 func100 rfl ntmps100 rfl fun D0 As η0 m0 hd=>by
  unfold CY at hm;obtain⟨x1,q1,hm⟩:=oY0 hm;refine gco (Cs q1) (by kernel_rfl) ?_;obtain⟨x2,q2,hm⟩:=oY0 hm;refine gco (JF q2) (by kernel_rfl) ?_;obtain⟨x3,q3,hm⟩:=oY0 hm;refine gco (Cs q3) (by kernel_rfl) ?_;obtain⟨x4,q4,hm⟩:=oY0 hm;obtain⟨x5,q5,q4⟩:=oY0 q4;refine NV 0 Af 5 10 6 (by kernel_rfl) ?_;refine gjU 0 (fun(_:Unit)=>let (y_0,y_1,y_2,y_3):=x4; ⟨[(2,.pb 0 0),(4,.pb 2 0),(5,.pb 1 0),(6,.d (.t y_0)),(7,.pb 3 0),(22,.pb 3 0),(12,.pb 2 0)],[(0,.row 4 6 _ Af y_3),(1,.box 3 [sl Aa y_1,.d (.t y_2)] 136),(2,.box 2 [sl Aa x3.2.L,.d (.t x3.2.Bad)] 136),(3,.box 1 [.d (.i x2.1.Serial),.d (.s x2.1.Issuer),.d (.s x2.1.Subject),.d (.u x2.1.Key),sl eS x2.1.Names,.d (.i x2.1.From),.d (.i x2.1.Until),.d (.t x2.1.Ca),.d (.i x2.1.Depth),sl eS x2.1.Permit,.ow 4,.d (.u x2.1.Sig.E),.d (.u x2.1.Sig.S)] 28),(4,.box 0 [.d (.i 0),.d (.s ByteArray.empty),.d (.s ByteArray.empty),.d (.u 0),sl eS [],.d (.i 0),.d (.i 0),.d (.t false),.d (.i 0),sl eS [],sl Af [],.d (.u 0),.d (.u 0)] 28)],[],5⟩) (fun _=>True) (by kernel_rfl) (fun Jp bk1=> ?_) fun _ _=> ?_
  ·refine gjU 0 (fun(_:Unit)=>let (y_0,y_1,y_2,y_3):=x5; ⟨[(2,.pb 0 0),(4,.pb 2 0),(5,.pb 1 0),(6,.d (.t y_0)),(7,.pb 3 0),(22,.pb 3 0),(12,.pb 2 0)],[(0,.row 4 6 _ Af y_3),(1,.box 3 [sl Aa y_1,.d (.t y_2)] 136),(2,.box 2 [sl Aa x3.2.L,.d (.t x3.2.Bad)] 136),(3,.box 1 [.d (.i x2.1.Serial),.d (.s x2.1.Issuer),.d (.s x2.1.Subject),.d (.u x2.1.Key),sl eS x2.1.Names,.d (.i x2.1.From),.d (.i x2.1.Until),.d (.t x2.1.Ca),.d (.i x2.1.Depth),sl eS x2.1.Permit,.ow 4,.d (.u x2.1.Sig.E),.d (.u x2.1.Sig.S)] 28),(4,.box 0 [.d (.i 0),.d (.s ByteArray.empty),.d (.s ByteArray.empty),.d (.u 0),sl eS [],.d (.i 0),.d (.i 0),.d (.t false),.d (.i 0),sl eS [],sl Af [],.d (.u 0),.d (.u 0)] 28)],[],5⟩) (fun _=>True) (by kernel_rfl) (fun Jp bk2=> ?_) fun _ _=> ?_
   ·refine gl hd (fun(p:Nat×(Bool×(List g_api_Item)×Bool×(List g_api_Promise)))=>let (p0,p_0,p_1,p_2,p_3):=p; ⟨[(2,.pb 0 0),(4,.pb 2 0),(5,.pb 1 0),(6,.d (.t p_0)),(7,.pb 3 0),(22,.pb 3 0),(12,.pb 2 0)],[(0,.row 4 6 _ Af p_3),(1,.box 3 [sl Aa p_1,.d (.t p_2)] 136),(2,.box 2 [sl Aa x3.2.L,.d (.t x3.2.Bad)] 136),(3,.box 1 [.d (.i x2.1.Serial),.d (.s x2.1.Issuer),.d (.s x2.1.Subject),.d (.u x2.1.Key),sl eS x2.1.Names,.d (.i x2.1.From),.d (.i x2.1.Until),.d (.t x2.1.Ca),.d (.i x2.1.Depth),sl eS x2.1.Permit,.ow 4,.d (.u x2.1.Sig.E),.d (.u x2.1.Sig.S)] 28),(4,.box 0 [.d (.i 0),.d (.s ByteArray.empty),.d (.s ByteArray.empty),.d (.u 0),sl eS [],.d (.i 0),.d (.i 0),.d (.t false),.d (.i 0),sl eS [],sl Af [],.d (.u 0),.d (.u 0)] 28)],[],5⟩) (fun p=>iter By p.1 p.2=some x5) (fun p=>p.1) (Bv,(x2.2,x3.1,false,([]:List g_api_Promise))) q5 (by kernel_rfl) ?_;rintro⟨n1,s1⟩ q6 Jl bl1;cases n1 with
    |zero=>exact(AT q6).elim
    |succ n1=>
     obtain⟨y1,q8,q7⟩:=AO q6;unfold By at q8;refine gi q8 (by kernel_rfl) (fun hc1 q8=> ?_) fun hc1 q8=> ?_
     ·skip;obtain⟨x7,q10,q8⟩:=oY0 q8;refine gco (Cs q10) (by kernel_rfl) ?_;obtain⟨x8,q11,q8⟩:=oY0 q8;refine gco (MZ q11) (by kernel_rfl) ?_;refine ET (k:=6) Af ([x8.1]:List g_api_Promise) (fun _=>rfl) (by kernel_rfl) ?_;obtain⟨x9,q12,q8⟩:=oY0 q8;refine Jv (k:=6) (E:=Af) (fun _=>rfl) q12 (by kernel_rfl) ?_;have e0:=sI0 q8;subst e0;rcases q7 with ⟨sn,e,q7'⟩|e
      ·have e:=Sum.inl.inj e;subst e;exact gb bl1 hd (n1,_) ⟨q7',Nat.lt_succ_self _⟩ (by kernel_rfl)
      cases Cb e
     have e0:=sI0 q8;subst e0;rcases q7 with ⟨sn,e,_⟩|e
     ·cases CQ e
     have e:=Sum.inr.inj e;subst e;exact gb bk2 hd () trivial (by kernel_rfl)
   have e0:=sI0 q4;subst e0;exact gb bk1 hd () trivial (by kernel_rfl)
  have hm:=A4 hm;let x10:Bool:=((((x4.1&&(!x3.2.Bad))&&(!x4.2.2.1))&&((x3.2.L.length:Int)==0)));have e0:=sI0 hm;subst e0;exact Au hd (by kernel_rfl)
def De (a0:List g_api_Item):Option (Ac×Bool):=Ab (A6 (⟨a0,false⟩:Ag)) fun x1=>Ab (CY x1.1) fun x2=>Ab (A6 x1.2) fun x3=>Ab (Av (⟨x3.1,false⟩:Ag)) fun x4=>Ab (Av x4.2) fun x5=>bnd ((((x2.2&&(!x3.2.Bad))&&(!x5.2.Bad))&&((w64 ((x3.2.L.length:Int)+(x5.2.L.length:Int)))==0))) fun x6=>some ((⟨x2.1.Serial,x2.1.Issuer,x2.1.Subject,x2.1.Key,x2.1.Names,x2.1.From,x2.1.Until,x2.1.Ca,x2.1.Depth,x2.1.Permit,x2.1.Proms,(⟨(toU x4.1),(toU x5.1)⟩:g_api_Sig)⟩:Ac),x6)
theorem LJ {a0:List g_api_Item}{r:Ac×Bool}(hm:De a0=some r):Sf prog 101 [sl Aa a0] (.tup [ag (Aq r.1),.d (.t r.2)]):=
 sp call101 func101 rfl ntmps101 rfl fun D0 As η0 m0 hd=>by
  unfold De at hm;obtain⟨x1,q1,hm⟩:=oY0 hm;refine gco (Cs q1) (by kernel_rfl) ?_;obtain⟨x2,q2,hm⟩:=oY0 hm;refine gco (I1 q2) (by kernel_rfl) ?_;obtain⟨x3,q3,hm⟩:=oY0 hm;refine gco (Cs q3) (by kernel_rfl) ?_;obtain⟨x4,q4,hm⟩:=oY0 hm;refine gco (AP q4) (by kernel_rfl) ?_;obtain⟨x5,q5,hm⟩:=oY0 hm;refine gco (AP q5) (by kernel_rfl) ?_;have hm:=A4 hm;let x6:Bool:=((((x2.2&&(!x3.2.Bad))&&(!x5.2.Bad))&&((w64 ((x3.2.L.length:Int)+(x5.2.L.length:Int)))==0)));have e0:=sI0 hm;subst e0;exact Au hd (by kernel_rfl)
def DZ (a0:List UInt8)(a1:Int):Option (Ac×Int):=Ab (EL a0 0) fun x1=>if(x1.2.2 !=0)=true then some ((⟨0,ByteArray.empty,ByteArray.empty,0,[],0,0,false,0,[],[],(⟨0,0⟩:g_api_Sig)⟩:Ac),x1.2.2)else Ab (BW x1.1) fun x2=>if((x2.2 !=0)||(x1.2.1 !=(a0.length:Int)))=true then some ((⟨0,ByteArray.empty,ByteArray.empty,0,[],0,0,false,0,[],[],(⟨0,0⟩:g_api_Sig)⟩:Ac),71)else Ab (Dr x2.1) fun x3=>Ab (if(a1==2)=true then Ab (CY x2.1) fun x5=>some (x5.2,x5.1.Serial,x5.1.Issuer,x5.1.Subject,x5.1.Key,x5.1.Names,x5.1.From,x5.1.Until,x5.1.Ca,x5.1.Depth,x5.1.Permit,x5.1.Proms,x5.1.Sig.E,x5.1.Sig.S)else some (x3.2,x3.1.Serial,x3.1.Issuer,x3.1.Subject,x3.1.Key,x3.1.Names,x3.1.From,x3.1.Until,x3.1.Ca,x3.1.Depth,x3.1.Permit,[],x3.1.Sig.E,x3.1.Sig.S)) fun x4=>Ab (if(a1==3)=true then Ab (De x2.1) fun x7=>some (x7.2,x7.1.Serial,x7.1.Issuer,x7.1.Subject,x7.1.Key,x7.1.Names,x7.1.From,x7.1.Until,x7.1.Ca,x7.1.Depth,x7.1.Permit,x7.1.Proms,x7.1.Sig.E,x7.1.Sig.S)else some (x4.1,x4.2.1,x4.2.2.1,x4.2.2.2.1,x4.2.2.2.2.1,x4.2.2.2.2.2.1,x4.2.2.2.2.2.2.1,x4.2.2.2.2.2.2.2.1,x4.2.2.2.2.2.2.2.2.1,x4.2.2.2.2.2.2.2.2.2.1,x4.2.2.2.2.2.2.2.2.2.2.1,x4.2.2.2.2.2.2.2.2.2.2.2.1,x4.2.2.2.2.2.2.2.2.2.2.2.2.1,x4.2.2.2.2.2.2.2.2.2.2.2.2.2)) fun x6=>Ab (gu (!(!x6.1)) (Ek (⟨x6.2.1,x6.2.2.1,x6.2.2.2.1,x6.2.2.2.2.1,x6.2.2.2.2.2.1,x6.2.2.2.2.2.2.1,x6.2.2.2.2.2.2.2.1,x6.2.2.2.2.2.2.2.2.1,x6.2.2.2.2.2.2.2.2.2.1,x6.2.2.2.2.2.2.2.2.2.2.1,x6.2.2.2.2.2.2.2.2.2.2.2.1,(⟨x6.2.2.2.2.2.2.2.2.2.2.2.2.1,x6.2.2.2.2.2.2.2.2.2.2.2.2.2⟩:g_api_Sig)⟩:Ac))) fun x8=>if((!x6.1)||(x8 !=0))=true then some ((⟨0,ByteArray.empty,ByteArray.empty,0,[],0,0,false,0,[],[],(⟨0,0⟩:g_api_Sig)⟩:Ac),71)else some ((⟨x6.2.1,x6.2.2.1,x6.2.2.2.1,x6.2.2.2.2.1,x6.2.2.2.2.2.1,x6.2.2.2.2.2.2.1,x6.2.2.2.2.2.2.2.1,x6.2.2.2.2.2.2.2.2.1,x6.2.2.2.2.2.2.2.2.2.1,x6.2.2.2.2.2.2.2.2.2.2.1,x6.2.2.2.2.2.2.2.2.2.2.2.1,(⟨x6.2.2.2.2.2.2.2.2.2.2.2.2.1,x6.2.2.2.2.2.2.2.2.2.2.2.2.2⟩:g_api_Sig)⟩:Ac),0)
theorem Ja {a0:List UInt8}{a1:Int}{r:Ac×Int}(hm:DZ a0 a1=some r):Sf prog 55 [sl eB a0,.d (.i a1)] (.tup [ag (Aq r.1),.d (.i r.2)]):=
 sp call55 func55 rfl ntmps55 rfl fun D0 As η0 m0 hd=>by
  unfold DZ at hm;obtain⟨x1,q1,hm⟩:=oY0 hm;refine gc (fun _=>Q5 q1) (by kernel_rfl) ?_;refine gi hm (by kernel_rfl) (fun hc1 hm=> ?_) fun hc1 hm=> ?_
  ·skip;have e0:=sI0 hm;subst e0;exact Au hd (by kernel_rfl)
  obtain⟨x2,q2,hm⟩:=oY0 hm;refine gc (fun _=>Pl q2) (by kernel_rfl) ?_;refine gi hm (by kernel_rfl) (fun hc2 hm=> ?_) fun hc2 hm=> ?_
  ·skip;have e0:=sI0 hm;subst e0;exact Au hd (by kernel_rfl)
  obtain⟨x3,q3,hm⟩:=oY0 hm;refine gc (fun _=>JF q3) (by kernel_rfl) ?_;obtain⟨x4,q4,hm⟩:=oY0 hm;refine gj (fun(_:Unit)=>let (y_0,y_1,y_2,y_3,y_4,y_5,y_6,y_7,y_8,y_9,y_10,y_11,y_12,y_13):=x4; ⟨[(1,.d (.i a1)),(4,.pb 0 0),(9,sl Aa x2.1),(11,.pb 2 0),(12,.d (.t y_0)),(6,.pb 1 0)],[(0,.box 2 [.d (.i y_1),.d (.s y_2),.d (.s y_3),.d (.u y_4),sl eS y_5,.d (.i y_6),.d (.i y_7),.d (.t y_8),.d (.i y_9),sl eS y_10,sl Af y_11,.d (.u y_12),.d (.u y_13)] 28),(1,.box 1 [.d (.i x1.1.Tag),sl eB x1.1.B,sl Aa x1.1.L] 56),(2,.box 0 [.d (.i 0),.d (.s ByteArray.empty),.d (.s ByteArray.empty),.d (.u 0),sl eS [],.d (.i 0),.d (.i 0),.d (.t false),.d (.i 0),sl eS [],sl Af [],.d (.u 0),.d (.u 0)] 28)],[],3⟩) (fun _=>True) (by kernel_rfl) (fun Jp bk1=> ?_) fun _ _=> ?_
  ·refine gi q4 (by kernel_rfl) (fun hc3 q4=> ?_) fun hc3 q4=> ?_
   ·obtain⟨x5,q5,q4⟩:=oY0 q4;refine gc (fun _=>I1 q5) (by kernel_rfl) ?_;have e0:=sI0 q4;subst e0;exact gb bk1 hd () trivial (by kernel_rfl)
   have e0:=sI0 q4;subst e0;exact gb bk1 hd () trivial (by kernel_rfl)
  obtain⟨x6,q6,hm⟩:=oY0 hm;refine gj (fun(_:Unit)=>let (y_0,y_1,y_2,y_3,y_4,y_5,y_6,y_7,y_8,y_9,y_10,y_11,y_12,y_13):=x6; ⟨[(4,.pb 0 0),(11,.pb 2 0),(12,.d (.t y_0)),(6,.pb 1 0)],[(0,.box 2 [.d (.i y_1),.d (.s y_2),.d (.s y_3),.d (.u y_4),sl eS y_5,.d (.i y_6),.d (.i y_7),.d (.t y_8),.d (.i y_9),sl eS y_10,sl Af y_11,.d (.u y_12),.d (.u y_13)] 28),(1,.box 1 [.d (.i x1.1.Tag),sl eB x1.1.B,sl Aa x1.1.L] 56),(2,.box 0 [.d (.i 0),.d (.s ByteArray.empty),.d (.s ByteArray.empty),.d (.u 0),sl eS [],.d (.i 0),.d (.i 0),.d (.t false),.d (.i 0),sl eS [],sl Af [],.d (.u 0),.d (.u 0)] 28)],[],3⟩) (fun _=>True) (by kernel_rfl) (fun Jp bk2=> ?_) fun _ _=> ?_
  ·refine gi q6 (by kernel_rfl) (fun hc4 q6=> ?_) fun hc4 q6=> ?_
   ·obtain⟨x7,q7,q6⟩:=oY0 q6;refine gc (fun _=>LJ q7) (by kernel_rfl) ?_;have e0:=sI0 q6;subst e0;exact gb bk2 hd () trivial (by kernel_rfl)
   have e0:=sI0 q6;subst e0;exact gb bk2 hd () trivial (by kernel_rfl)
  obtain⟨x8,q8,hm⟩:=oY0 hm;refine gcG (fun h=>Od (Er h q8)) (by kernel_rfl) ?_;refine gi hm (by kernel_rfl) (fun hc5 hm=> ?_) fun hc5 hm=> ?_
  ·skip;have e0:=sI0 hm;subst e0;exact Au hd (by kernel_rfl)
  have e0:=sI0 hm;subst e0;exact Au hd (by kernel_rfl)
def G0 (a0:List UInt8):Option (Ac×Int):=Ab (DZ a0 3) fun x1=>some (x1.1,x1.2)
theorem Q3 {a0:List UInt8}{r:Ac×Int}(hm:G0 a0=some r):Sf prog 27 [sl eB a0] (.tup [ag (Aq r.1),.d (.i r.2)]):=
 sp call27 func27 rfl ntmps27 rfl fun D0 As η0 m0 hd=>by
  unfold G0 at hm;obtain⟨x1,q1,hm⟩:=oY0 hm;refine gc (fun _=>Ja q1) (by kernel_rfl) ?_;have e0:=sI0 hm;subst e0;exact Au hd (by kernel_rfl)
def D2 (a0:List UInt8):Option (Ac×Int):=Ab (DZ a0 2) fun x1=>some (x1.1,x1.2)
theorem LL {a0:List UInt8}{r:Ac×Int}(hm:D2 a0=some r):Sf prog 29 [sl eB a0] (.tup [ag (Aq r.1),.d (.i r.2)]):=
 sp call29 func29 rfl ntmps29 rfl fun D0 As η0 m0 hd=>by
  unfold D2 at hm;obtain⟨x1,q1,hm⟩:=oY0 hm;refine gc (fun _=>Ja q1) (by kernel_rfl) ?_;have e0:=sI0 hm;subst e0;exact Au hd (by kernel_rfl)
def Ey (a0:List UInt8):Option (Ac×Int):=Ab (DZ a0 1) fun x1=>some (x1.1,x1.2)
theorem M0 {a0:List UInt8}{r:Ac×Int}(hm:Ey a0=some r):Sf prog 31 [sl eB a0] (.tup [ag (Aq r.1),.d (.i r.2)]):=
 sp call31 func31 rfl ntmps31 rfl fun D0 As η0 m0 hd=>by
  unfold Ey at hm;obtain⟨x1,q1,hm⟩:=oY0 hm;refine gc (fun _=>Ja q1) (by kernel_rfl) ?_;have e0:=sI0 hm;subst e0;exact Au hd (by kernel_rfl)
def Dy (a0:List UInt8):Option Bool:=Ab (Hh) fun x1=>if(!x1)=true then some false else if(decide ((a0.length:Int)>3000))=true then some true else Ab (FU a0) fun x2=>Ab (G0 a0) fun x3=>Ab (DE a0) fun x4=>Ab (D2 a0) fun x5=>Ab (Eo a0) fun x6=>Ab (Ey a0) fun x7=>Ab (Cq x2.1 x3.1) fun x8=>Ab (gu (x8&&(x2.2==x3.2)) (Cq x4.1 x5.1)) fun x9=>Ab (gu (((x8&&(x2.2==x3.2))&&x9)&&(x4.2==x5.2)) (Cq x6.1 x7.1)) fun x10=>bnd ((((((x8&&(x2.2==x3.2))&&x9)&&(x4.2==x5.2))&&x10)&&(x6.2==x7.2))) fun x11=>some x11
theorem K4 {a0:List UInt8}{r:Bool}(hm:Dy a0=some r):Sf prog 5 [sl eB a0] (.d (.t r)):=
 sp call5 func5 rfl ntmps5 rfl fun D0 As η0 m0 hd=>by
  unfold Dy at hm;obtain⟨x1,q1,hm⟩:=oY0 hm;refine gc (fun _=>PU q1) (by kernel_rfl) ?_;refine gi hm (by kernel_rfl) (fun hc1 hm=> ?_) fun hc1 hm=> ?_
  ·skip;have e0:=sI0 hm;subst e0;exact Au hd (by kernel_rfl)
  refine gi hm (by kernel_rfl) (fun hc2 hm=> ?_) fun hc2 hm=> ?_
  ·skip;have e0:=sI0 hm;subst e0;exact Au hd (by kernel_rfl)
  obtain⟨x2,q2,hm⟩:=oY0 hm;refine gc (fun _=>Kk q2) (by kernel_rfl) ?_;obtain⟨x3,q3,hm⟩:=oY0 hm;refine gc (fun _=>Q3 q3) (by kernel_rfl) ?_;obtain⟨x4,q4,hm⟩:=oY0 hm;refine gc (fun _=>I3 q4) (by kernel_rfl) ?_;obtain⟨x5,q5,hm⟩:=oY0 hm;refine gc (fun _=>LL q5) (by kernel_rfl) ?_;obtain⟨x6,q6,hm⟩:=oY0 hm;refine gc (fun _=>JL q6) (by kernel_rfl) ?_;obtain⟨x7,q7,hm⟩:=oY0 hm;refine gc (fun _=>M0 q7) (by kernel_rfl) ?_;obtain⟨x8,q8,hm⟩:=oY0 hm;refine gc (fun _=>Ik q8) (by kernel_rfl) ?_;obtain⟨x9,q9,hm⟩:=oY0 hm;refine gcG (fun h=>Ik (Er h q9)) (by kernel_rfl) ?_;obtain⟨x10,q10,hm⟩:=oY0 hm;refine gcG (fun h=>Ik (Er h q10)) (by kernel_rfl) ?_;have hm:=A4 hm;let x11:Bool:=((((((x8&&(x2.2==x3.2))&&x9)&&(x4.2==x5.2))&&x10)&&(x6.2==x7.2)));have e0:=sI0 hm;subst e0;exact Au hd (by kernel_rfl)
end Go.Proofs.YtlnbckkkapbdmaaGreatDoor
