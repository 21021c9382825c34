/- The walks of some functions, by the executor, written by program. Conditions: none. -/
import Derived.Test.YtbajlmaijjcbmaaGreatDoorZf
import Derived.Test.YtbajlmaijjcbmaaGreatDoorZh
set_option linter.unusedSimpArgs false
set_option linter.unusedVariables false
set_option maxHeartbeats 20000000
set_option maxRecDepth 100000
namespace Go.Proofs.YtbajlmaijjcbmaaGreatDoor
open Go Go.Gw Go.Ax Tryz
attribute [local irreducible] Go.Ax.Go
def BO (a0:g_api_Cert)(s1:Int):Option ((Int)⊕((Unit)⊕Bool)):=if(decide (s1<(a0.Proms.length:Int)))=true then Ac (idx a0.Proms s1) fun x8=>Ac (EW x8) fun x9=>Ac (gu ((!(!x9))&&(decide (s1>0))) (idx a0.Proms (w64 (s1-1)))) fun x10=>Ac (gu ((!(!x9))&&(decide (s1>0))) (idx a0.Proms s1)) fun x11=>if((!x9)||((decide (s1>0))&&(decide (x10.Log≥x11.Log))))=true then some (.inr (.inr false))else some (.inl (w64 (s1+1)))else some (.inr (.inl ()))
def Hs (a0:g_api_Cert):Option Bool:=Ac (EV a0.Serial) fun x1=>Ac (gu (!(!x1)) (EV a0.From)) fun x2=>Ac (gu (!((!x1)||(!x2))) (EV a0.Until)) fun x3=>Ac (gu (!((((!x1)||(!x2))||(!x3))||(decide (a0.From≥a0.Until)))) (F5 a0.Issuer)) fun x4=>Ac (gu (!((((((((!x1)||(!x2))||(!x3))||(decide (a0.From≥a0.Until)))||(!x4))||(decide ((a0.Key.toNat:Int)<1)))||(decide ((a0.Key.toNat:Int)≥2305843009213691579)))||(decide ((a0.Proms.length:Int)>4)))) (Ey a0.Sig)) fun x5=>if(((((((((!x1)||(!x2))||(!x3))||(decide (a0.From≥a0.Until)))||(!x4))||(decide ((a0.Key.toNat:Int)<1)))||(decide ((a0.Key.toNat:Int)≥2305843009213691579)))||(decide ((a0.Proms.length:Int)>4)))||(!x5))=true then some false else Ac (iter (BO a0) AR 0) fun x6=>match x6 with| .inr r=>some r| .inl y1=>Ac (Hr a0) fun x12=>some x12
theorem RQ {a0:g_api_Cert}{r:Bool}(hm:Hs a0=some r):Sf prog 66 [ag (Ad a0)] (.d (.t r)):=
 sp call66 func66 rfl ntmps66 rfl fun D0 As η0 m0 hd=>by
  unfold Hs at hm;obtain⟨x1,q1,hm⟩:=Aa hm;refine gc (fun _=>H0 q1) ?_;obtain⟨x2,q2,hm⟩:=Aa hm;refine gcG (fun h=>H0 (En h q2)) ?_;obtain⟨x3,q3,hm⟩:=Aa hm;refine gcG (fun h=>H0 (En h q3)) ?_;obtain⟨x4,q4,hm⟩:=Aa hm;refine gcG (fun h=>MO (En h q4)) ?_;obtain⟨x5,q5,hm⟩:=Aa hm;refine gcG (fun h=>KU (En h q5)) ?_;refine gi hm (fun hc1 hm=> ?_) fun hc1 hm=> ?_
  ·skip;have e0:=Option.some.inj hm;subst e0;exact Aq hd
  obtain⟨x6,q6,hm⟩:=Aa hm;refine gjU 0 (fun(y1:Unit)=>⟨[(1,.pb 0 0)],[(0,.box 0 [.d (.i a0.Serial),.d (.s a0.Issuer),.d (.s a0.Subject),.d (.u a0.Key),sl eS a0.Names,.d (.i a0.From),.d (.i a0.Until),.d (.t a0.Ca),.d (.i a0.Depth),sl eS a0.Permit,sl Ai a0.Proms,.d (.u a0.Sig.E),.d (.u a0.Sig.S)] 28)],[],1⟩) (fun y1=>x6= .inl y1) (fun Jp bk1=> ?_) fun y1 hy=> ?_
  ·refine gl hd (fun(p:Nat×(Int))=>let (p0,p_0):=p; ⟨[(1,.pb 0 0),(3,.d (.i p_0))],[(0,.box 0 [.d (.i a0.Serial),.d (.s a0.Issuer),.d (.s a0.Subject),.d (.u a0.Key),sl eS a0.Names,.d (.i a0.From),.d (.i a0.Until),.d (.t a0.Ca),.d (.i a0.Depth),sl eS a0.Permit,sl Ai a0.Proms,.d (.u a0.Sig.E),.d (.u a0.Sig.S)] 28)],[],1⟩) (fun p=>iter (BO a0) p.1 p.2=some x6) (fun p=>p.1) (AR,0) q6 ?_;rintro⟨n1,s1⟩ q7 Jl bl1;cases n1 with
   |zero=>exact(An q7).elim
   |succ n1=>
    obtain⟨y2,q9,q8⟩:=Am q7;unfold BO at q9;refine gi q9 (fun hc2 q9=> ?_) fun hc2 q9=> ?_
    ·skip;obtain⟨x8,q11,q9⟩:=Aa q9;refine Ga (k:=6) (E:=Ai) (fun _=>rfl) (fun _=>q11) ?_;obtain⟨x9,q12,q9⟩:=Aa q9;refine gc (fun _=>NQ q12) ?_;obtain⟨x10,q13,q9⟩:=Aa q9;refine JT (k:=6) (E:=Ai) (fun _=>rfl) (fun h=>En h q13) ?_;obtain⟨x11,q14,q9⟩:=Aa q9;refine JT (k:=6) (E:=Ai) (fun _=>rfl) (fun h=>En h q14) ?_;refine gi q9 (fun hc3 q9=> ?_) fun hc3 q9=> ?_
     ·skip;cases q9;rcases q8 with ⟨sn,e,_⟩|e
      ·cases e
      cases e;dsimp only at hm;have e0:=Option.some.inj hm;subst e0;exact Aq hd
     have e0:=Option.some.inj q9;subst e0;rcases q8 with ⟨sn,e,q8'⟩|e
     ·have e:=Sum.inl.inj e;subst e;exact gb bl1 hd (n1,_) ⟨q8',Nat.lt_succ_self _⟩
     cases AM e
    have e0:=Option.some.inj q9;subst e0;rcases q8 with ⟨sn,e,_⟩|e
    ·cases Bv e
    have e:=Sum.inr.inj e;subst e;exact gb bk1 hd () rfl
  subst hy;dsimp only at hm;obtain⟨x12,q15,hm⟩:=Aa hm;refine gc (fun _=>RP q15) ?_;have e0:=Option.some.inj hm;subst e0;exact Aq hd
def Gu (a0:List UInt8):Option Bool:=if((decide ((a0.length:Int)<1))||(decide ((a0.length:Int)>8)))=true then some false else Ac (gu (!((a0.length:Int)==1)) (idx a0 0)) fun x1=>Ac (gu ((!((a0.length:Int)==1))&&((x1.toNat:Int)==0)) (idx a0 1)) fun x2=>Ac (gu ((!((a0.length:Int)==1))&&(!(((x1.toNat:Int)==0)&&(decide ((x2.toNat:Int)<128))))) (idx a0 0)) fun x3=>Ac (gu (((!((a0.length:Int)==1))&&(!(((x1.toNat:Int)==0)&&(decide ((x2.toNat:Int)<128)))))&&((x3.toNat:Int)==255)) (idx a0 1)) fun x4=>bnd ((((a0.length:Int)==1)||((!(((x1.toNat:Int)==0)&&(decide ((x2.toNat:Int)<128))))&&(!(((x3.toNat:Int)==255)&&(decide ((x4.toNat:Int)≥128))))))) fun x5=>some x5
theorem Qj {a0:List UInt8}{r:Bool}(hm:Gu a0=some r):Sf prog 202 [sl eB a0] (.d (.t r)):=
 sp call202 func202 rfl ntmps202 rfl fun D0 As η0 m0 hd=>by
  unfold Gu at hm;refine gi hm (fun hc1 hm=> ?_) fun hc1 hm=> ?_
  ·skip;have e0:=Option.some.inj hm;subst e0;exact Aq hd
  obtain⟨x1,q1,hm⟩:=Aa hm;refine JT (k:=1) (E:=eB) (fun _=>rfl) (fun h=>En h q1) ?_;obtain⟨x2,q2,hm⟩:=Aa hm;refine JT (k:=1) (E:=eB) (fun _=>rfl) (fun h=>En h q2) ?_;obtain⟨x3,q3,hm⟩:=Aa hm;refine JT (k:=1) (E:=eB) (fun _=>rfl) (fun h=>En h q3) ?_;obtain⟨x4,q4,hm⟩:=Aa hm;refine JT (k:=1) (E:=eB) (fun _=>rfl) (fun h=>En h q4) ?_;have hm:=AO hm;let x5:Bool:=((((a0.length:Int)==1)||((!(((x1.toNat:Int)==0)&&(decide ((x2.toNat:Int)<128))))&&(!(((x3.toNat:Int)==255)&&(decide ((x4.toNat:Int)≥128)))))));have e0:=Option.some.inj hm;subst e0;exact Aq hd
def BQ (a0:List UInt8)(s1:Int):Option ((Int)⊕((Unit)⊕Bool)):=if(decide (s1<(a0.length:Int)))=true then Ac (idx a0 s1) fun x3=>Ac (gu (!(decide ((x3.toNat:Int)<32))) (idx a0 s1)) fun x4=>if((decide ((x3.toNat:Int)<32))||(decide ((x4.toNat:Int)>126)))=true then some (.inr (.inr false))else some (.inl (w64 (s1+1)))else some (.inr (.inl ()))
def Hu (a0:List UInt8):Option Bool:=Ac (iter (BQ a0) AR 0) fun x1=>match x1 with| .inr r=>some r| .inl y1=>some true
theorem RT {a0:List UInt8}{r:Bool}(hm:Hu a0=some r):Sf prog 203 [sl eB a0] (.d (.t r)):=
 sp call203 func203 rfl ntmps203 rfl fun D0 As η0 m0 hd=>by
  unfold Hu at hm;obtain⟨x1,q1,hm⟩:=Aa hm;refine gjU 0 (fun(y1:Unit)=>⟨[],[],[],0⟩) (fun y1=>x1= .inl y1) (fun Jp bk1=> ?_) fun y1 hy=> ?_
  ·refine gl hd (fun(p:Nat×(Int))=>let (p0,p_0):=p; ⟨[(0,sl eB a0),(3,.d (.i p_0))],[],[],0⟩) (fun p=>iter (BQ a0) p.1 p.2=some x1) (fun p=>p.1) (AR,0) q1 ?_;rintro⟨n1,s1⟩ q2 Jl bl1;cases n1 with
   |zero=>exact(An q2).elim
   |succ n1=>
    obtain⟨y2,q4,q3⟩:=Am q2;unfold BQ at q4;refine gi q4 (fun hc1 q4=> ?_) fun hc1 q4=> ?_
    ·skip;obtain⟨x3,q6,q4⟩:=Aa q4;refine Ga (k:=1) (E:=eB) (fun _=>rfl) (fun _=>q6) ?_;obtain⟨x4,q7,q4⟩:=Aa q4;refine JT (k:=1) (E:=eB) (fun _=>rfl) (fun h=>En h q7) ?_;refine gi q4 (fun hc2 q4=> ?_) fun hc2 q4=> ?_
     ·skip;cases q4;rcases q3 with ⟨sn,e,_⟩|e
      ·cases e
      cases e;dsimp only at hm;have e0:=Option.some.inj hm;subst e0;exact Aq hd
     have e0:=Option.some.inj q4;subst e0;rcases q3 with ⟨sn,e,q3'⟩|e
     ·have e:=Sum.inl.inj e;subst e;exact gb bl1 hd (n1,_) ⟨q3',Nat.lt_succ_self _⟩
     cases AM e
    have e0:=Option.some.inj q4;subst e0;rcases q3 with ⟨sn,e,_⟩|e
    ·cases Bv e
    have e:=Sum.inr.inj e;subst e;exact gb bk1 hd () rfl
  subst hy;dsimp only at hm;have e0:=Option.some.inj hm;subst e0;exact Aq hd
def Nj (rF:g_api_Item→Option Bool):Prop:= ∀{a0:g_api_Item} {r:Bool},rF a0=some r→Sf prog 168 [ag (Af a0)] (.d (.t r))
def BR (rF:g_api_Item→Option Bool)(a0:g_api_Item)(s1:Int):Option ((Int)⊕((Unit)⊕Bool)):=if(decide (s1<(a0.L.length:Int)))=true then Ac (idx a0.L s1) fun x8=>Ac (rF x8) fun x9=>if(!x9)=true then some (.inr (.inr false))else some (.inl (w64 (s1+1)))else some (.inr (.inl ()))
def FD (rF:g_api_Item→Option Bool)(a0:g_api_Item):Option Bool:=if((a0.Tag !=48)&&(decide ((a0.L.length:Int)>0)))=true then some false else if(a0.Tag==1)=true then Ac (gu ((a0.B.length:Int)==1) (idx a0.B 0)) fun x1=>Ac (gu (((a0.B.length:Int)==1)&&(!((x1.toNat:Int)==0))) (idx a0.B 0)) fun x2=>bnd ((((a0.B.length:Int)==1)&&(((x1.toNat:Int)==0)||((x2.toNat:Int)==255)))) fun x3=>some x3 else if(a0.Tag==2)=true then Ac (Gu a0.B) fun x4=>some x4 else if(a0.Tag==4)=true then some true else if(a0.Tag==12)=true then Ac (Hu a0.B) fun x5=>some x5 else if(a0.Tag==48)=true then Ac (iter ((BR rF) a0) AR 0) fun x6=>match x6 with| .inr r=>some r| .inl y1=>some ((a0.B.length:Int)==0)else some false
theorem O5 {rF:g_api_Item→Option Bool}(hF:Nj rF){a0:g_api_Item}{r:Bool}(hm:FD rF a0=some r):Sf prog 168 [ag (Af a0)] (.d (.t r)):=
 sp call168 func168 rfl ntmps168 rfl fun D0 As η0 m0 hd=>by
  unfold FD at hm;refine gi hm (fun hc1 hm=> ?_) fun hc1 hm=> ?_
  ·skip;have e0:=Option.some.inj hm;subst e0;exact Aq hd
  refine gi hm (fun hc2 hm=> ?_) fun hc2 hm=> ?_
  ·skip;obtain⟨x1,q1,hm⟩:=Aa hm;refine JT (k:=1) (E:=eB) (fun _=>rfl) (fun h=>En h q1) ?_;obtain⟨x2,q2,hm⟩:=Aa hm;refine JT (k:=1) (E:=eB) (fun _=>rfl) (fun h=>En h q2) ?_;have hm:=AO hm;let x3:Bool:=((((a0.B.length:Int)==1)&&(((x1.toNat:Int)==0)||((x2.toNat:Int)==255))));have e0:=Option.some.inj hm;subst e0;exact Aq hd
  refine gi hm (fun hc3 hm=> ?_) fun hc3 hm=> ?_
  ·skip;obtain⟨x4,q4,hm⟩:=Aa hm;refine gc (fun _=>Qj q4) ?_;have e0:=Option.some.inj hm;subst e0;exact Aq hd
  refine gi hm (fun hc4 hm=> ?_) fun hc4 hm=> ?_
  ·skip;have e0:=Option.some.inj hm;subst e0;exact Aq hd
  refine gi hm (fun hc5 hm=> ?_) fun hc5 hm=> ?_
  ·skip;obtain⟨x5,q5,hm⟩:=Aa hm;refine gc (fun _=>RT q5) ?_;have e0:=Option.some.inj hm;subst e0;exact Aq hd
  refine gi hm (fun hc6 hm=> ?_) fun hc6 hm=> ?_
  ·skip;obtain⟨x6,q6,hm⟩:=Aa hm;refine gjU 1 (fun(y1:Unit)=>⟨[(1,.pb 0 0)],[(0,.box 0 [.d (.i a0.Tag),sl eB a0.B,sl Af a0.L] 79)],[],1⟩) (fun y1=>x6= .inl y1) (fun Jp bk1=> ?_) fun y1 hy=> ?_
   ·refine gl hd (fun(p:Nat×(Int))=>let (p0,p_0):=p; ⟨[(1,.pb 0 0),(3,.d (.i p_0))],[(0,.box 0 [.d (.i a0.Tag),sl eB a0.B,sl Af a0.L] 79)],[],1⟩) (fun p=>iter ((BR rF) a0) p.1 p.2=some x6) (fun p=>p.1) (AR,0) q6 ?_;rintro⟨n1,s1⟩ q7 Jl bl1;cases n1 with
    |zero=>exact(An q7).elim
    |succ n1=>
     obtain⟨y2,q9,q8⟩:=Am q7;unfold BR at q9;refine gi q9 (fun hc7 q9=> ?_) fun hc7 q9=> ?_
     ·skip;obtain⟨x8,q11,q9⟩:=Aa q9;refine Ga (k:=3) (E:=Af) (fun _=>rfl) (fun _=>q11) ?_;obtain⟨x9,q12,q9⟩:=Aa q9;refine gc (fun _=>hF q12) ?_;refine gi q9 (fun hc8 q9=> ?_) fun hc8 q9=> ?_
      ·skip;cases q9;rcases q8 with ⟨sn,e,_⟩|e
       ·cases e
       cases e;dsimp only at hm;have e0:=Option.some.inj hm;subst e0;exact Aq hd
      have e0:=Option.some.inj q9;subst e0;rcases q8 with ⟨sn,e,q8'⟩|e
      ·have e:=Sum.inl.inj e;subst e;exact gb bl1 hd (n1,_) ⟨q8',Nat.lt_succ_self _⟩
      cases AM e
     have e0:=Option.some.inj q9;subst e0;rcases q8 with ⟨sn,e,_⟩|e
     ·cases Bv e
     have e:=Sum.inr.inj e;subst e;exact gb bk1 hd () rfl
   subst hy;dsimp only at hm;have e0:=Option.some.inj hm;subst e0;exact Aq hd
  have e0:=Option.some.inj hm;subst e0;exact Aq hd
def D3:Nat→g_api_Item→Option Bool
 |0,_=>none
 |n+1,a0=>FD (D3 n) a0
def Ki (a0:g_api_Item):Option Bool:=D3 AR a0
theorem Lo: ∀n,Nj (D3 n)
 |0=>fun hm=>by cases hm
 |n+1=>fun hm=>O5 (Lo n) hm
theorem RU {a0:g_api_Item}{r:Bool}(hm:Ki a0=some r):Sf prog 168 [ag (Af a0)] (.d (.t r)):=Lo AR hm
def Nk (rF:g_api_Item→Option Int):Prop:= ∀{a0:g_api_Item} {r:Int},rF a0=some r→Sf prog 169 [ag (Af a0)] (.d (.i r))
def BT (rF:g_api_Item→Option Int)(a0:g_api_Item)(s1:Int×Int):Option ((Int×Int)⊕(Int)):=if(decide (s1.2<(a0.L.length:Int)))=true then Ac (idx a0.L s1.2) fun x4=>Ac (rF x4) fun x5=>some (.inl ((ZJ s1.1 x5),(w64 (s1.2+1))))else some (.inr s1.1)
def FE (rF:g_api_Item→Option Int)(a0:g_api_Item):Option Int:=Ac (Ac (iter ((BT rF) a0) AR (0,0)) fun x2=>some x2) fun x1=>some (w64 (x1+1))
theorem O6 {rF:g_api_Item→Option Int}(hF:Nk rF){a0:g_api_Item}{r:Int}(hm:FE rF a0=some r):Sf prog 169 [ag (Af a0)] (.d (.i r)):=
 sp call169 func169 rfl ntmps169 rfl fun D0 As η0 m0 hd=>by
  unfold FE at hm;obtain⟨x1,q1,hm⟩:=Aa hm;obtain⟨x2,q2,q1⟩:=Aa q1;refine gjU 0 (fun(_:Unit)=>⟨[(3,.d (.i x1)),(1,.pb 0 0)],[(0,.box 0 [.d (.i a0.Tag),sl eB a0.B,sl Af a0.L] 79)],[],1⟩) (fun _=>True) (fun Jp bk1=> ?_) fun _ _=> ?_
  ·refine gjU 0 (fun(_:Unit)=>⟨[(3,.d (.i x2)),(1,.pb 0 0)],[(0,.box 0 [.d (.i a0.Tag),sl eB a0.B,sl Af a0.L] 79)],[],1⟩) (fun _=>True) (fun Jp bk2=> ?_) fun _ _=> ?_
   ·refine gl hd (fun(p:Nat×(Int×Int))=>let (p0,p_0,p_1):=p; ⟨[(1,.pb 0 0),(3,.d (.i p_0)),(4,.d (.i p_1))],[(0,.box 0 [.d (.i a0.Tag),sl eB a0.B,sl Af a0.L] 79)],[],1⟩) (fun p=>iter ((BT rF) a0) p.1 p.2=some x2) (fun p=>p.1) (AR,(0,0)) q2 ?_;rintro⟨n1,s1⟩ q3 Jl bl1;cases n1 with
    |zero=>exact(An q3).elim
    |succ n1=>
     obtain⟨y1,q5,q4⟩:=Am q3;unfold BT at q5;refine gi q5 (fun hc1 q5=> ?_) fun hc1 q5=> ?_
     ·skip;obtain⟨x4,q7,q5⟩:=Aa q5;refine Ga (k:=3) (E:=Af) (fun _=>rfl) (fun _=>q7) ?_;obtain⟨x5,q8,q5⟩:=Aa q5;refine gc (fun _=>hF q8) ?_;have e0:=Option.some.inj q5;subst e0;rcases q4 with ⟨sn,e,q4'⟩|e
      ·have e:=Sum.inl.inj e;subst e;exact gb bl1 hd (n1,_) ⟨q4',Nat.lt_succ_self _⟩
      cases AM e
     have e0:=Option.some.inj q5;subst e0;rcases q4 with ⟨sn,e,_⟩|e
     ·cases Bv e
     have e:=Sum.inr.inj e;subst e;exact gb bk2 hd () trivial
   have e0:=Option.some.inj q1;subst e0;exact gb bk1 hd () trivial
  have e0:=Option.some.inj hm;subst e0;exact Aq hd
def EP:Nat→g_api_Item→Option Int
 |0,_=>none
 |n+1,a0=>FE (EP n) a0
def Kj (a0:g_api_Item):Option Int:=EP AR a0
theorem Lq: ∀n,Nk (EP n)
 |0=>fun hm=>by cases hm
 |n+1=>fun hm=>O6 (Lq n) hm
theorem RV {a0:g_api_Item}{r:Int}(hm:Kj a0=some r):Sf prog 169 [ag (Af a0)] (.d (.i r)):=Lq AR hm
def Ii (a0:g_api_Item):Option Bool:=Ac (Ki a0) fun x1=>Ac (gu x1 (Kj a0)) fun x2=>some (x1&&(decide (x2≤8)))
theorem Tr {a0:g_api_Item}{r:Bool}(hm:Ii a0=some r):Sf prog 118 [ag (Af a0)] (.d (.t r)):=
 sp call118 func118 rfl ntmps118 rfl fun D0 As η0 m0 hd=>by
  unfold Ii at hm;obtain⟨x1,q1,hm⟩:=Aa hm;refine gc (fun _=>RU q1) ?_;obtain⟨x2,q2,hm⟩:=Aa hm;refine gcG (fun h=>RV (En h q2)) ?_;have e0:=Option.some.inj hm;subst e0;exact Aq hd
def FC (a0:Int):Option (List UInt8):=if(decide (a0<128))=true then some ([(toB a0)]:List UInt8)else if(decide (a0<256))=true then some ([129,(toB a0)]:List UInt8)else bnd (w64 (Int.tdiv a0 256)) fun x1=>some ([130,(toB x1),(toB a0)]:List UInt8)
theorem O4 {a0:Int}{r:List UInt8}(hm:FC a0=some r):Sp prog 170 [.d (.i a0)] [] 0 (is (.ow 0) [.row 0 1 _ eB r] 1):=
 sp call170 func170 rfl ntmps170 rfl fun D0 As η0 m0 hd=>by
  unfold FC at hm;refine gi hm (fun hc1 hm=> ?_) fun hc1 hm=> ?_
  ·skip;refine Wb (k:=1) eB ([(toB a0)]:List UInt8) (fun _=>rfl) ?_;have e0:=Option.some.inj hm;subst e0;exact Aq hd
  refine gi hm (fun hc2 hm=> ?_) fun hc2 hm=> ?_
  ·skip;refine Wb (k:=1) eB ([129,(toB a0)]:List UInt8) (fun _=>rfl) ?_;have e0:=Option.some.inj hm;subst e0;exact Aq hd
  have hm:=AO hm;let x1:Int:=(w64 (Int.tdiv a0 256));refine Wb (k:=1) eB ([130,(toB x1),(toB a0)]:List UInt8) (fun _=>rfl) ?_;have e0:=Option.some.inj hm;subst e0;exact Aq hd
def Mj (rF:g_api_Item→Option (List UInt8)):Prop:= ∀{a0:g_api_Item} {r:List UInt8},rF a0=some r→Sp prog 119 [ag (Af a0)] [] 0 (is (.ow 0) [.row 0 1 _ eB r] 1)
def Bh (rF:g_api_Item→Option (List UInt8))(a0:g_api_Item)(s1:(List UInt8)×Int):Option (((List UInt8)×Int)⊕((List UInt8))):=if(decide (s1.2<(a0.L.length:Int)))=true then Ac (idx a0.L s1.2) fun x5=>Ac (rF x5) fun x6=>Ac (app 1 s1.1 x6) fun x7=>some (.inl (x7,(w64 (s1.2+1))))else some (.inr s1.1)
def EY (rF:g_api_Item→Option (List UInt8))(a0:g_api_Item):Option (List UInt8):=Ac (app 1 ([]:List UInt8) a0.B) fun x1=>Ac (Ac (iter ((Bh rF) a0) AR (x1,0)) fun x3=>some x3) fun x2=>Ac (FC (x2.length:Int)) fun x8=>Ac (app 1 ([(toB a0.Tag)]:List UInt8) x8) fun x9=>Ac (app 1 x9 x2) fun x10=>some x10
theorem NT {rF:g_api_Item→Option (List UInt8)}(hF:Mj rF){a0:g_api_Item}{r:List UInt8}(hm:EY rF a0=some r):Sp prog 119 [ag (Af a0)] [] 0 (is (.ow 0) [.row 0 1 _ eB r] 1):=
 sp call119 func119 rfl ntmps119 rfl fun D0 As η0 m0 hd=>by
  unfold EY at hm;refine Wb (k:=1) eB ([]:List UInt8) (fun _=>rfl) ?_;obtain⟨x1,q1,hm⟩:=Aa hm;refine KZ (k:=1) (E:=eB) (fun _=>rfl) q1 ?_;obtain⟨x2,q2,hm⟩:=Aa hm;obtain⟨x3,q3,q2⟩:=Aa q2;refine gjU 0 (fun(_:Unit)=>⟨[(1,.pb 0 0),(3,.ow 1)],[(0,.row 1 1 _ eB x2),(1,.box 0 [.d (.i a0.Tag),sl eB a0.B,sl Af a0.L] 79)],[],2⟩) (fun _=>True) (fun Jp bk1=> ?_) fun _ _=> ?_
  ·refine gjU 0 (fun(_:Unit)=>⟨[(1,.pb 0 0),(3,.ow 1)],[(0,.row 1 1 _ eB x3),(1,.box 0 [.d (.i a0.Tag),sl eB a0.B,sl Af a0.L] 79)],[],2⟩) (fun _=>True) (fun Jp bk2=> ?_) fun _ _=> ?_
   ·refine gl hd (fun(p:Nat×((List UInt8)×Int))=>let (p0,p_0,p_1):=p; ⟨[(1,.pb 0 0),(3,.ow 1),(4,.d (.i p_1))],[(0,.row 1 1 _ eB p_0),(1,.box 0 [.d (.i a0.Tag),sl eB a0.B,sl Af a0.L] 79)],[],2⟩) (fun p=>iter ((Bh rF) a0) p.1 p.2=some x3) (fun p=>p.1) (AR,(x1,0)) q3 ?_;rintro⟨n1,s1⟩ q4 Jl bl1;cases n1 with
    |zero=>exact(An q4).elim
    |succ n1=>
     obtain⟨y1,q6,q5⟩:=Am q4;unfold Bh at q6;refine gi q6 (fun hc1 q6=> ?_) fun hc1 q6=> ?_
     ·skip;obtain⟨x5,q8,q6⟩:=Aa q6;refine Ga (k:=3) (E:=Af) (fun _=>rfl) (fun _=>q8) ?_;obtain⟨x6,q9,q6⟩:=Aa q6;refine gco (hF q9) ?_;obtain⟨x7,q10,q6⟩:=Aa q6;refine KZ (k:=1) (E:=eB) (fun _=>rfl) q10 ?_;have e0:=Option.some.inj q6;subst e0;rcases q5 with ⟨sn,e,q5'⟩|e
      ·have e:=Sum.inl.inj e;subst e;exact gb bl1 hd (n1,_) ⟨q5',Nat.lt_succ_self _⟩
      cases AM e
     have e0:=Option.some.inj q6;subst e0;rcases q5 with ⟨sn,e,_⟩|e
     ·cases Bv e
     have e:=Sum.inr.inj e;subst e;exact gb bk2 hd () trivial
   have e0:=Option.some.inj q2;subst e0;exact gb bk1 hd () trivial
  refine Wb (k:=1) eB ([(toB a0.Tag)]:List UInt8) (fun _=>rfl) ?_;obtain⟨x8,q11,hm⟩:=Aa hm;refine gco (O4 q11) ?_;obtain⟨x9,q12,hm⟩:=Aa hm;refine KZ (k:=1) (E:=eB) (fun _=>rfl) q12 ?_;obtain⟨x10,q13,hm⟩:=Aa hm;refine KZ (k:=1) (E:=eB) (fun _=>rfl) q13 ?_;have e0:=Option.some.inj hm;subst e0;exact Aq hd
def Dx:Nat→g_api_Item→Option (List UInt8)
 |0,_=>none
 |n+1,a0=>EY (Dx n) a0
def JD (a0:g_api_Item):Option (List UInt8):=Dx AR a0
theorem KQ: ∀n,Mj (Dx n)
 |0=>fun hm=>by cases hm
 |n+1=>fun hm=>NT (KQ n) hm
theorem Qk {a0:g_api_Item}{r:List UInt8}(hm:JD a0=some r):Sp prog 119 [ag (Af a0)] [] 0 (is (.ow 0) [.row 0 1 _ eB r] 1):=KQ AR hm
def Hb (a0:g_api_Item):Option ((List UInt8)×Int):=Ac (Ii a0) fun x1=>if(!x1)=true then some (([]:List UInt8),1)else Ac (JD a0) fun x2=>if(decide ((x2.length:Int)>8192))=true then some (([]:List UInt8),2)else some (x2,0)
theorem NU {a0:g_api_Item}{r:(List UInt8)×Int}(hm:Hb a0=some r):Sp prog 67 [ag (Af a0)] [] 0 (is (.tup [.ow 0,.d (.i r.2)]) [.row 0 1 _ eB r.1] 1):=
 sp call67 func67 rfl ntmps67 rfl fun D0 As η0 m0 hd=>by
  unfold Hb at hm;obtain⟨x1,q1,hm⟩:=Aa hm;refine gc (fun _=>Tr q1) ?_;refine gi hm (fun hc1 hm=> ?_) fun hc1 hm=> ?_
  ·skip;refine Acn eB 2 1 ?_;have e0:=Option.some.inj hm;subst e0;exact Aq hd
  obtain⟨x2,q2,hm⟩:=Aa hm;refine gco (Qk q2) ?_;refine gi hm (fun hc2 hm=> ?_) fun hc2 hm=> ?_
  ·skip;refine Acn eB 2 1 ?_;have e0:=Option.some.inj hm;subst e0;exact Aq hd
  have e0:=Option.some.inj hm;subst e0;exact Aq hd
def E0 (a0:List g_api_Item):Option g_api_Item:=Ac (app 56 ([]:List g_api_Item) a0) fun x1=>some (⟨48,[],x1⟩:g_api_Item)
theorem Jq {a0:List g_api_Item}{r:g_api_Item}(hm:E0 a0=some r):Sf prog 120 [sl Af a0] (ag (Af r)):=
 sp call120 func120 rfl ntmps120 rfl fun D0 As η0 m0 hd=>by
  unfold E0 at hm;refine Wb (k:=3) Af ([]:List g_api_Item) (fun _=>rfl) ?_;obtain⟨x1,q1,hm⟩:=Aa hm;refine KZ (k:=3) (E:=Af) (fun _=>rfl) q1 ?_;have e0:=Option.some.inj hm;subst e0;exact Aq hd
def DL (s1:(List UInt8)×Int):Option (((List UInt8)×Int)⊕((List UInt8))):=Ac (gu (s1.2==0) (idx s1.1 0)) fun x4=>Ac (gu ((!((s1.2==0)&&(decide ((x4.toNat:Int)<128))))&&(s1.2==(-1))) (idx s1.1 0)) fun x5=>if((!((s1.2==0)&&(decide ((x4.toNat:Int)<128))))&&(!((s1.2==(-1))&&(decide ((x5.toNat:Int)≥128)))))=true then Ac (app 1 ([(toB s1.2)]:List UInt8) s1.1) fun x6=>some (.inl (x6,(DS s1.2 8)))else some (.inr s1.1)
def Ch (a0:Int):Option g_api_Item:=Ac (Ac (iter DL AR (([(toB a0)]:List UInt8),(DS a0 8))) fun x2=>some x2) fun x1=>some (⟨2,x1,[]⟩:g_api_Item)
theorem D9 {a0:Int}{r:g_api_Item}(hm:Ch a0=some r):Sf prog 122 [.d (.i a0)] (ag (Af r)):=
 sp call122 func122 rfl ntmps122 rfl fun D0 As η0 m0 hd=>by
  unfold Ch at hm;refine Fc (k:=1) eB ([(toB a0)]:List UInt8) (fun _=>rfl) ?_;obtain⟨x1,q1,hm⟩:=Aa hm;obtain⟨x2,q2,q1⟩:=Aa q1;refine gjU 0 (fun(_:Unit)=>⟨[(2,.pb 0 0),(3,sl eB x1)],[(0,.box 0 [.d (.i 0),sl eB [],sl Af []] 79)],[],1⟩) (fun _=>True) (fun Jp bk1=> ?_) fun _ _=> ?_
  ·refine gjU 0 (fun(_:Unit)=>⟨[(2,.pb 0 0),(3,sl eB x2)],[(0,.box 0 [.d (.i 0),sl eB [],sl Af []] 79)],[],1⟩) (fun _=>True) (fun Jp bk2=> ?_) fun _ _=> ?_
   ·refine gl hd (fun(p:Nat×((List UInt8)×Int))=>let (p0,p_0,p_1):=p; ⟨[(2,.pb 0 0),(3,sl eB p_0),(4,.d (.i p_1))],[(0,.box 0 [.d (.i 0),sl eB [],sl Af []] 79)],[],1⟩) (fun p=>iter DL p.1 p.2=some x2) (fun p=>p.1) (AR,(([(toB a0)]:List UInt8),(DS a0 8))) q2 ?_;rintro⟨n1,s1⟩ q3 Jl bl1;cases n1 with
    |zero=>exact(An q3).elim
    |succ n1=>
     obtain⟨y1,q5,q4⟩:=Am q3;unfold DL at q5;obtain⟨x4,q7,q5⟩:=Aa q5;refine JT (k:=1) (E:=eB) (fun _=>rfl) (fun h=>En h q7) ?_;obtain⟨x5,q8,q5⟩:=Aa q5;refine JT (k:=1) (E:=eB) (fun _=>rfl) (fun h=>En h q8) ?_;refine gi q5 (fun hc1 q5=> ?_) fun hc1 q5=> ?_
     ·skip;refine Wb (k:=1) eB ([(toB s1.2)]:List UInt8) (fun _=>rfl) ?_;obtain⟨x6,q9,q5⟩:=Aa q5;refine KZ (k:=1) (E:=eB) (fun _=>rfl) q9 ?_;have e0:=Option.some.inj q5;subst e0;rcases q4 with ⟨sn,e,q4'⟩|e
      ·have e:=Sum.inl.inj e;subst e;exact gb bl1 hd (n1,_) ⟨q4',Nat.lt_succ_self _⟩
      cases AM e
     have e0:=Option.some.inj q5;subst e0;rcases q4 with ⟨sn,e,_⟩|e
     ·cases Bv e
     have e:=Sum.inr.inj e;subst e;exact gb bk2 hd () trivial
   have e0:=Option.some.inj q1;subst e0;exact gb bk1 hd () trivial
  have e0:=Option.some.inj hm;subst e0;exact Aq hd
def FO (a0:UInt64)(a1:UInt64):Option (List g_api_Item):=Ac (Ch (w64 (a0.toNat:Int))) fun x1=>Ac (Ch (w64 (a1.toNat:Int))) fun x2=>some ([x1,x2]:List g_api_Item)
theorem K4 {a0:UInt64}{a1:UInt64}{r:List g_api_Item}(hm:FO a0 a1=some r):Sp prog 121 [.d (.u a0),.d (.u a1)] [] 0 (is (.ow 0) [.row 0 3 _ Af r] 1):=
 sp call121 func121 rfl ntmps121 rfl fun D0 As η0 m0 hd=>by
  unfold FO at hm;obtain⟨x1,q1,hm⟩:=Aa hm;refine gc (fun _=>D9 q1) ?_;obtain⟨x2,q2,hm⟩:=Aa hm;refine gc (fun _=>D9 q2) ?_;refine Wb (k:=3) Af ([x1,x2]:List g_api_Item) (fun _=>rfl) ?_;have e0:=Option.some.inj hm;subst e0;exact Aq hd
def EZ (a0:ByteArray):Option g_api_Item:=Ac (app 1 ([]:List UInt8) a0.data.toList) fun x1=>some (⟨12,x1,[]⟩:g_api_Item)
theorem JZ {a0:ByteArray}{r:g_api_Item}(hm:EZ a0=some r):Sf prog 171 [.d (.s a0)] (ag (Af r)):=
 sp call171 func171 rfl ntmps171 rfl fun D0 As η0 m0 hd=>by
  unfold EZ at hm;obtain⟨x1,q1,hm⟩:=Aa hm;refine gofS q1 ?_;have e0:=Option.some.inj hm;subst e0;exact Aq hd
def Bg (a0:List ByteArray)(s1:Int×(List g_api_Item)):Option ((Int×(List g_api_Item))⊕((List g_api_Item))):=if(decide (s1.1<(a0.length:Int)))=true then Ac (idx a0 s1.1) fun x4=>Ac (EZ x4) fun x5=>Ac (app 56 s1.2 ([x5]:List g_api_Item)) fun x6=>some (.inl ((w64 (s1.1+1)),x6))else some (.inr s1.2)
def Fj (a0:List ByteArray):Option g_api_Item:=Ac (Ac (iter (Bg a0) AR (0,([]:List g_api_Item))) fun x2=>some x2) fun x1=>some (⟨48,[],x1⟩:g_api_Item)
theorem Ly {a0:List ByteArray}{r:g_api_Item}(hm:Fj a0=some r):Sf prog 172 [sl eS a0] (ag (Af r)):=
 sp call172 func172 rfl ntmps172 rfl fun D0 As η0 m0 hd=>by
  unfold Fj at hm;obtain⟨x1,q1,hm⟩:=Aa hm;obtain⟨x2,q2,q1⟩:=Aa q1;refine Yk 0 Af 3 2 3 ?_;refine gjU 0 (fun(_:Unit)=>⟨[(2,.pb 0 0),(3,.pb 1 0)],[(0,.row 2 3 _ Af x1),(1,.box 1 [.d (.i 48),sl eB [],.ow 2] 79),(2,.box 0 [.d (.i 0),sl eB [],sl Af []] 79)],[],3⟩) (fun _=>True) (fun Jp bk1=> ?_) fun _ _=> ?_
  ·refine gjU 0 (fun(_:Unit)=>⟨[(2,.pb 0 0),(3,.pb 1 0)],[(0,.row 2 3 _ Af x2),(1,.box 1 [.d (.i 48),sl eB [],.ow 2] 79),(2,.box 0 [.d (.i 0),sl eB [],sl Af []] 79)],[],3⟩) (fun _=>True) (fun Jp bk2=> ?_) fun _ _=> ?_
   ·refine gl hd (fun(p:Nat×(Int×(List g_api_Item)))=>let (p0,p_0,p_1):=p; ⟨[(0,sl eS a0),(2,.pb 0 0),(3,.pb 1 0),(4,.d (.i p_0))],[(0,.row 2 3 _ Af p_1),(1,.box 1 [.d (.i 48),sl eB [],.ow 2] 79),(2,.box 0 [.d (.i 0),sl eB [],sl Af []] 79)],[],3⟩) (fun p=>iter (Bg a0) p.1 p.2=some x2) (fun p=>p.1) (AR,(0,([]:List g_api_Item))) q2 ?_;rintro⟨n1,s1⟩ q3 Jl bl1;cases n1 with
    |zero=>exact(An q3).elim
    |succ n1=>
     obtain⟨y1,q5,q4⟩:=Am q3;unfold Bg at q5;refine gi q5 (fun hc1 q5=> ?_) fun hc1 q5=> ?_
     ·skip;obtain⟨x4,q7,q5⟩:=Aa q5;refine Ga (k:=1) (E:=eS) (fun _=>rfl) (fun _=>q7) ?_;obtain⟨x5,q8,q5⟩:=Aa q5;refine gc (fun _=>JZ q8) ?_;refine Fc (k:=3) Af ([x5]:List g_api_Item) (fun _=>rfl) ?_;obtain⟨x6,q9,q5⟩:=Aa q5;refine KZ (k:=3) (E:=Af) (fun _=>rfl) q9 ?_;have e0:=Option.some.inj q5;subst e0;rcases q4 with ⟨sn,e,q4'⟩|e
      ·have e:=Sum.inl.inj e;subst e;exact gb bl1 hd (n1,_) ⟨q4',Nat.lt_succ_self _⟩
      cases AM e
     have e0:=Option.some.inj q5;subst e0;rcases q4 with ⟨sn,e,_⟩|e
     ·cases Bv e
     have e:=Sum.inr.inj e;subst e;exact gb bk2 hd () trivial
   have e0:=Option.some.inj q1;subst e0;exact gb bk1 hd () trivial
  have e0:=Option.some.inj hm;subst e0;exact Aq hd
def II (a0:Bool):Option g_api_Item:=if a0=true then some (⟨1,([255]:List UInt8),[]⟩:g_api_Item)else some (⟨1,([0]:List UInt8),[]⟩:g_api_Item)
theorem RW {a0:Bool}{r:g_api_Item}(hm:II a0=some r):Sf prog 173 [.d (.t a0)] (ag (Af r)):=
 sp call173 func173 rfl ntmps173 rfl fun D0 As η0 m0 hd=>by
  unfold II at hm;refine gi hm (fun hc1 hm=> ?_) fun hc1 hm=> ?_
  ·skip;refine Fc (k:=1) eB ([255]:List UInt8) (fun _=>rfl) ?_;have e0:=Option.some.inj hm;subst e0;exact Aq hd
  refine Fc (k:=1) eB ([0]:List UInt8) (fun _=>rfl) ?_;have e0:=Option.some.inj hm;subst e0;exact Aq hd
def Ie (a0:g_api_Cert):Option g_api_Item:=Ac (Ch a0.Serial) fun x1=>Ac (EZ a0.Issuer) fun x2=>Ac (EZ a0.Subject) fun x3=>Ac (Ch (w64 (a0.Key.toNat:Int))) fun x4=>Ac (Fj a0.Names) fun x5=>Ac (Ch a0.From) fun x6=>Ac (Ch a0.Until) fun x7=>Ac (II a0.Ca) fun x8=>Ac (Ch a0.Depth) fun x9=>Ac (Fj a0.Permit) fun x10=>Ac (E0 ([x1,x2,x3,x4,x5,x6,x7,x8,x9,x10]:List g_api_Item)) fun x11=>some x11
theorem Tp {a0:g_api_Cert}{r:g_api_Item}(hm:Ie a0=some r):Sf prog 123 [ag (Ad a0)] (ag (Af r)):=
 sp call123 func123 rfl ntmps123 rfl fun D0 As η0 m0 hd=>by
  unfold Ie at hm;obtain⟨x1,q1,hm⟩:=Aa hm;refine gc (fun _=>D9 q1) ?_;obtain⟨x2,q2,hm⟩:=Aa hm;refine gc (fun _=>JZ q2) ?_;obtain⟨x3,q3,hm⟩:=Aa hm;refine gc (fun _=>JZ q3) ?_;obtain⟨x4,q4,hm⟩:=Aa hm;refine gc (fun _=>D9 q4) ?_;obtain⟨x5,q5,hm⟩:=Aa hm;refine gc (fun _=>Ly q5) ?_;obtain⟨x6,q6,hm⟩:=Aa hm;refine gc (fun _=>D9 q6) ?_;obtain⟨x7,q7,hm⟩:=Aa hm;refine gc (fun _=>D9 q7) ?_;obtain⟨x8,q8,hm⟩:=Aa hm;refine gc (fun _=>RW q8) ?_;obtain⟨x9,q9,hm⟩:=Aa hm;refine gc (fun _=>D9 q9) ?_;obtain⟨x10,q10,hm⟩:=Aa hm;refine gc (fun _=>Ly q10) ?_;refine Fc (k:=3) Af ([x1,x2,x3,x4,x5,x6,x7,x8,x9,x10]:List g_api_Item) (fun _=>rfl) ?_;obtain⟨x11,q11,hm⟩:=Aa hm;refine gc (fun _=>Jq q11) ?_;have e0:=Option.some.inj hm;subst e0;exact Aq hd
def Gv (a0:List g_api_Item):Option g_api_Item:=Ac (app 56 ([]:List g_api_Item) a0) fun x1=>some (⟨48,[],x1⟩:g_api_Item)
theorem Ql {a0:List g_api_Item}{r:g_api_Item}(hm:Gv a0=some r):Sp prog 120 [sl Af a0] [] 0 (is (.agg (List.set (((Af r)).map dv) 2 (.ow 0))) [.row 0 3 _ Af r.L] 1):=
 sp call120 func120 rfl ntmps120 rfl fun D0 As η0 m0 hd=>by
  unfold Gv at hm;refine Wb (k:=3) Af ([]:List g_api_Item) (fun _=>rfl) ?_;obtain⟨x1,q1,hm⟩:=Aa hm;refine KZ (k:=3) (E:=Af) (fun _=>rfl) q1 ?_;have e0:=Option.some.inj hm;subst e0;exact Aq hd
def BC (a0:g_api_Cert)(s1:Int×(List g_api_Item)):Option ((Int×(List g_api_Item))⊕((List g_api_Item))):=if(decide (s1.1<(a0.Proms.length:Int)))=true then Ac (idx a0.Proms s1.1) fun x4=>Ac (Ch x4.Log) fun x5=>Ac (Ch x4.At) fun x6=>Ac (Gv ([x5,x6]:List g_api_Item)) fun x7=>Ac (FO x4.Leaf.1 x4.Leaf.2) fun x8=>Ac (app 56 x7.L x8) fun x9=>Ac (FO x4.Sig.E x4.Sig.S) fun x10=>Ac (app 56 x9 x10) fun x11=>Ac (app 56 s1.2 ([(⟨x7.Tag,x7.B,x11⟩:g_api_Item)]:List g_api_Item)) fun x12=>some (.inl ((w64 (s1.1+1)),x12))else some (.inr s1.2)
def F4 (a0:g_api_Cert):Option g_api_Item:=Ac (Ac (iter (BC a0) AR (0,([]:List g_api_Item))) fun x2=>some x2) fun x1=>Ac (Ie a0) fun x13=>Ac (E0 ([x13,(⟨48,[],x1⟩:g_api_Item)]:List g_api_Item)) fun x14=>some x14
theorem MN {a0:g_api_Cert}{r:g_api_Item}(hm:F4 a0=some r):Sf prog 70 [ag (Ad a0)] (ag (Af r)):=
 sp call70 func70 rfl ntmps70 rfl fun D0 As η0 m0 hd=>by
  unfold F4 at hm;obtain⟨x1,q1,hm⟩:=Aa hm;obtain⟨x2,q2,q1⟩:=Aa q1;refine Yk 0 Af 3 2 3 ?_;refine gjU 0 (fun(_:Unit)=>⟨[(1,.pb 0 0),(2,.pb 1 0),(3,.pb 2 0)],[(0,.row 3 3 _ Af x1),(1,.box 2 [.d (.i 48),sl eB [],.ow 3] 79),(2,.box 1 [.d (.i 0),sl eB [],sl Af []] 79),(3,.box 0 [.d (.i a0.Serial),.d (.s a0.Issuer),.d (.s a0.Subject),.d (.u a0.Key),sl eS a0.Names,.d (.i a0.From),.d (.i a0.Until),.d (.t a0.Ca),.d (.i a0.Depth),sl eS a0.Permit,sl Ai a0.Proms,.d (.u a0.Sig.E),.d (.u a0.Sig.S)] 28)],[],4⟩) (fun _=>True) (fun Jp bk1=> ?_) fun _ _=> ?_
  ·refine gjU 0 (fun(_:Unit)=>⟨[(1,.pb 0 0),(2,.pb 1 0),(3,.pb 2 0)],[(0,.row 3 3 _ Af x2),(1,.box 2 [.d (.i 48),sl eB [],.ow 3] 79),(2,.box 1 [.d (.i 0),sl eB [],sl Af []] 79),(3,.box 0 [.d (.i a0.Serial),.d (.s a0.Issuer),.d (.s a0.Subject),.d (.u a0.Key),sl eS a0.Names,.d (.i a0.From),.d (.i a0.Until),.d (.t a0.Ca),.d (.i a0.Depth),sl eS a0.Permit,sl Ai a0.Proms,.d (.u a0.Sig.E),.d (.u a0.Sig.S)] 28)],[],4⟩) (fun _=>True) (fun Jp bk2=> ?_) fun _ _=> ?_
   ·refine gl hd (fun(p:Nat×(Int×(List g_api_Item)))=>let (p0,p_0,p_1):=p; ⟨[(1,.pb 0 0),(2,.pb 1 0),(3,.pb 2 0),(4,.d (.i p_0))],[(0,.row 3 3 _ Af p_1),(1,.box 2 [.d (.i 48),sl eB [],.ow 3] 79),(2,.box 1 [.d (.i 0),sl eB [],sl Af []] 79),(3,.box 0 [.d (.i a0.Serial),.d (.s a0.Issuer),.d (.s a0.Subject),.d (.u a0.Key),sl eS a0.Names,.d (.i a0.From),.d (.i a0.Until),.d (.t a0.Ca),.d (.i a0.Depth),sl eS a0.Permit,sl Ai a0.Proms,.d (.u a0.Sig.E),.d (.u a0.Sig.S)] 28)],[],4⟩) (fun p=>iter (BC a0) p.1 p.2=some x2) (fun p=>p.1) (AR,(0,([]:List g_api_Item))) q2 ?_;rintro⟨n1,s1⟩ q3 Jl bl1;cases n1 with
    |zero=>exact(An q3).elim
    |succ n1=>
     obtain⟨y1,q5,q4⟩:=Am q3;unfold BC at q5;refine gi q5 (fun hc1 q5=> ?_) fun hc1 q5=> ?_
     ·skip;obtain⟨x4,q7,q5⟩:=Aa q5;refine Ga (k:=6) (E:=Ai) (fun _=>rfl) (fun _=>q7) ?_;obtain⟨x5,q8,q5⟩:=Aa q5;refine gc (fun _=>D9 q8) ?_;obtain⟨x6,q9,q5⟩:=Aa q5;refine gc (fun _=>D9 q9) ?_;refine Fc (k:=3) Af ([x5,x6]:List g_api_Item) (fun _=>rfl) ?_;obtain⟨x7,q10,q5⟩:=Aa q5;refine gco (Ql q10) ?_;obtain⟨x8,q11,q5⟩:=Aa q5;refine gco (K4 q11) ?_;obtain⟨x9,q12,q5⟩:=Aa q5;refine KZ (k:=3) (E:=Af) (fun _=>rfl) q12 ?_;obtain⟨x10,q13,q5⟩:=Aa q5;refine gco (K4 q13) ?_;obtain⟨x11,q14,q5⟩:=Aa q5;refine KZ (k:=3) (E:=Af) (fun _=>rfl) q14 ?_;refine Wa (k:=3) Af ([(⟨x7.Tag,x7.B,x11⟩:g_api_Item)]:List g_api_Item) (fun _=>rfl) ?_;obtain⟨x12,q15,q5⟩:=Aa q5;refine KZ (k:=3) (E:=Af) (fun _=>rfl) q15 ?_;have e0:=Option.some.inj q5;subst e0;rcases q4 with ⟨sn,e,q4'⟩|e
      ·have e:=Sum.inl.inj e;subst e;exact gb bl1 hd (n1,_) ⟨q4',Nat.lt_succ_self _⟩
      cases AM e
     have e0:=Option.some.inj q5;subst e0;rcases q4 with ⟨sn,e,_⟩|e
     ·cases Bv e
     have e:=Sum.inr.inj e;subst e;exact gb bk2 hd () trivial
   have e0:=Option.some.inj q1;subst e0;exact gb bk1 hd () trivial
  obtain⟨x13,q16,hm⟩:=Aa hm;refine gc (fun _=>Tp q16) ?_;refine Wa (k:=3) Af ([x13,(⟨48,[],x1⟩:g_api_Item)]:List g_api_Item) (fun _=>rfl) ?_;obtain⟨x14,q17,hm⟩:=Aa hm;refine gc (fun _=>Jq q17) ?_;have e0:=Option.some.inj hm;subst e0;exact Aq hd
def Gp (a0:g_api_Cert):Option g_api_Item:=Ac (F4 a0) fun x1=>Ac (FO a0.Sig.E a0.Sig.S) fun x2=>Ac (E0 x2) fun x3=>Ac (E0 ([x1,x3]:List g_api_Item)) fun x4=>some x4
theorem Qd {a0:g_api_Cert}{r:g_api_Item}(hm:Gp a0=some r):Sf prog 68 [ag (Ad a0)] (ag (Af r)):=
 sp call68 func68 rfl ntmps68 rfl fun D0 As η0 m0 hd=>by
  unfold Gp at hm;obtain⟨x1,q1,hm⟩:=Aa hm;refine gc (fun _=>MN q1) ?_;obtain⟨x2,q2,hm⟩:=Aa hm;refine gco (K4 q2) ?_;obtain⟨x3,q3,hm⟩:=Aa hm;refine gco (Jq q3) ?_;refine Fc (k:=3) Af ([x1,x3]:List g_api_Item) (fun _=>rfl) ?_;obtain⟨x4,q4,hm⟩:=Aa hm;refine gc (fun _=>Jq q4) ?_;have e0:=Option.some.inj hm;subst e0;exact Aq hd
def Dz (a0:g_api_Cert):Option Int:=Ac (Hs a0) fun x1=>if(!x1)=true then some 1 else Ac (Gp a0) fun x2=>Ac (Hb x2) fun x3=>if((x3.2 !=0)||(decide ((x3.1.length:Int)>2048)))=true then some 2 else some 0
theorem HH {a0:g_api_Cert}{r:Int}(hm:Dz a0=some r):Sf prog 30 [ag (Ad a0)] (.d (.i r)):=
 sp call30 func30 rfl ntmps30 rfl fun D0 As η0 m0 hd=>by
  unfold Dz at hm;obtain⟨x1,q1,hm⟩:=Aa hm;refine gc (fun _=>RQ q1) ?_;refine gi hm (fun hc1 hm=> ?_) fun hc1 hm=> ?_
  ·skip;have e0:=Option.some.inj hm;subst e0;exact Aq hd
  obtain⟨x2,q2,hm⟩:=Aa hm;refine gc (fun _=>Qd q2) ?_;obtain⟨x3,q3,hm⟩:=Aa hm;refine gco (NU q3) ?_;refine gi hm (fun hc2 hm=> ?_) fun hc2 hm=> ?_
  ·skip;have e0:=Option.some.inj hm;subst e0;exact Aq hd
  have e0:=Option.some.inj hm;subst e0;exact Aq hd
def HN (a0:g_api_Cert)(a1:g_api_Item):Option ((List UInt8)×Int):=Ac (Dz a0) fun x1=>if(x1 !=0)=true then some (([]:List UInt8),x1)else Ac (Hb a1) fun x2=>some (x2.1,0)
theorem Qe {a0:g_api_Cert}{a1:g_api_Item}{r:(List UInt8)×Int}(hm:HN a0 a1=some r):Sp prog 69 [ag (Ad a0),ag (Af a1)] [] 0 (is (.tup [.ow 0,.d (.i r.2)]) [.row 0 1 _ eB r.1] 1):=
 sp call69 func69 rfl ntmps69 rfl fun D0 As η0 m0 hd=>by
  unfold HN at hm;obtain⟨x1,q1,hm⟩:=Aa hm;refine gc (fun _=>HH q1) ?_;refine gi hm (fun hc1 hm=> ?_) fun hc1 hm=> ?_
  ·skip;refine Acn eB 4 1 ?_;have e0:=Option.some.inj hm;subst e0;exact Aq hd
  obtain⟨x2,q2,hm⟩:=Aa hm;refine gco (NU q2) ?_;have e0:=Option.some.inj hm;subst e0;exact Aq hd
def Ht (a0:g_api_Cert):Option ((List UInt8)×Int):=Ac (F4 a0) fun x1=>Ac (HN a0 x1) fun x2=>some (x2.1,x2.2)
theorem RS {a0:g_api_Cert}{r:(List UInt8)×Int}(hm:Ht a0=some r):Sp prog 31 [ag (Ad a0)] [] 0 (is (.tup [.ow 0,.d (.i r.2)]) [.row 0 1 _ eB r.1] 1):=
 sp call31 func31 rfl ntmps31 rfl fun D0 As η0 m0 hd=>by
  unfold Ht at hm;obtain⟨x1,q1,hm⟩:=Aa hm;refine gc (fun _=>MN q1) ?_;obtain⟨x2,q2,hm⟩:=Aa hm;refine gco (Qe q2) ?_;have e0:=Option.some.inj hm;subst e0;exact Aq hd
def Ij (a0:UInt64)(a1:UInt64)(a2:UInt64):Option UInt64:=if(decide ((a0.toNat:Int)≥((a2-a1).toNat:Int)))=true then some (a0-(a2-a1))else some (a0+a1)
theorem NV {a0:UInt64}{a1:UInt64}{a2:UInt64}{r:UInt64}(hm:Ij a0 a1 a2=some r):Sf prog 174 [.d (.u a0),.d (.u a1),.d (.u a2)] (.d (.u r)):=
 sp call174 func174 rfl ntmps174 rfl fun D0 As η0 m0 hd=>by
  unfold Ij at hm;refine gi hm (fun hc1 hm=> ?_) fun hc1 hm=> ?_
  ·skip;have e0:=Option.some.inj hm;subst e0;exact Aq hd
  have e0:=Option.some.inj hm;subst e0;exact Aq hd
def Cq (a0:UInt64)(a1:UInt64)(a2:UInt64)(s1:UInt64×Int):Option ((UInt64×Int)⊕(UInt64)):=if(decide (s1.2≥0))=true then Ac (Ac (Ij s1.1 s1.1 a2) fun x5=>if((((Dj (a1%a2) ((toU s1.2).toNat))&&&1).toNat:Int)==1)=true then Ac (Ij x5 (a0%a2) a2) fun x6=>some x6 else some x5) fun x4=>some (.inl (x4,(w64 (s1.2-1))))else some (.inr s1.1)
def Ec (a0:UInt64)(a1:UInt64)(a2:UInt64):Option UInt64:=if a2≠0 then if a2≠0 then Ac (Ac (iter (Cq a0 a1 a2) AR (0,63)) fun x2=>some x2) fun x1=>some x1 else none else none
theorem Js {a0:UInt64}{a1:UInt64}{a2:UInt64}{r:UInt64}(hm:Ec a0 a1 a2=some r):Sf prog 125 [.d (.u a0),.d (.u a1),.d (.u a2)] (.d (.u r)):=
 sp call125 func125 rfl ntmps125 rfl fun D0 As η0 m0 hd=>by
  unfold Ec at hm;obtain⟨q1,hm⟩:=Ck hm;refine Ve (d:= .u a2) (r:= .u (a0%a2)) (fun h=>q1) ?_;obtain⟨q2,hm⟩:=Ck hm;refine Ve (d:= .u a2) (r:= .u (a1%a2)) (fun h=>q2) ?_;obtain⟨x1,q3,hm⟩:=Aa hm;obtain⟨x2,q4,q3⟩:=Aa q3;refine gjU 0 (fun(_:Unit)=>⟨[(7,.d (.u x1))],[],[],0⟩) (fun _=>True) (fun Jp bk1=> ?_) fun _ _=> ?_
  ·refine gjU 0 (fun(_:Unit)=>⟨[(7,.d (.u x2))],[],[],0⟩) (fun _=>True) (fun Jp bk2=> ?_) fun _ _=> ?_
   ·refine gl hd (fun(p:Nat×(UInt64×Int))=>let (p0,p_0,p_1):=p; ⟨[(0,.d (.u (a0%a2))),(1,.d (.u (a1%a2))),(2,.d (.u a2)),(7,.d (.u p_0)),(8,.d (.i p_1))],[],[],0⟩) (fun p=>iter (Cq a0 a1 a2) p.1 p.2=some x2) (fun p=>p.1) (AR,(0,63)) q4 ?_;rintro⟨n1,s1⟩ q5 Jl bl1;cases n1 with
    |zero=>exact(An q5).elim
    |succ n1=>
     obtain⟨y1,q7,q6⟩:=Am q5;unfold Cq at q7;refine gi q7 (fun hc1 q7=> ?_) fun hc1 q7=> ?_
     ·skip;obtain⟨x4,q9,q7⟩:=Aa q7;refine gjU 1 (fun(_:Unit)=>⟨[(0,.d (.u (a0%a2))),(1,.d (.u (a1%a2))),(2,.d (.u a2)),(7,.d (.u x4)),(8,.d (.i s1.2))],[],[],0⟩) (fun _=>True) (fun Jp bk3=> ?_) fun _ _=> ?_
      ·skip;obtain⟨x5,q10,q9⟩:=Aa q9;refine gc (fun _=>NV q10) ?_;refine gi q9 (fun hc2 q9=> ?_) fun hc2 q9=> ?_
       ·obtain⟨x6,q11,q9⟩:=Aa q9;refine gc (fun _=>NV q11) ?_;have e0:=Option.some.inj q9;subst e0;exact gb bk3 hd () trivial
       have e0:=Option.some.inj q9;subst e0;exact gb bk3 hd () trivial
      have e0:=Option.some.inj q7;subst e0;rcases q6 with ⟨sn,e,q6'⟩|e
      ·have e:=Sum.inl.inj e;subst e;exact gb bl1 hd (n1,_) ⟨q6',Nat.lt_succ_self _⟩
      cases AM e
     have e0:=Option.some.inj q7;subst e0;rcases q6 with ⟨sn,e,_⟩|e
     ·cases Bv e
     have e:=Sum.inr.inj e;subst e;exact gb bk2 hd () trivial
   have e0:=Option.some.inj q3;subst e0;exact gb bk1 hd () trivial
  have e0:=Option.some.inj hm;subst e0;exact Aq hd
def Cr (a0:UInt64)(a1:UInt64)(a2:UInt64)(s1:UInt64×Int):Option ((UInt64×Int)⊕(UInt64)):=if(decide (s1.2≥0))=true then Ac (Ac (Ec s1.1 s1.1 a2) fun x5=>if((((Dj a1 ((toU s1.2).toNat))&&&1).toNat:Int)==1)=true then Ac (Ec x5 a0 a2) fun x6=>some x6 else some x5) fun x4=>some (.inl (x4,(w64 (s1.2-1))))else some (.inr s1.1)
def Ed (a0:UInt64)(a1:UInt64)(a2:UInt64):Option UInt64:=Ac (Ac (iter (Cr a0 a1 a2) AR (1,63)) fun x2=>some x2) fun x1=>some x1
theorem Jt {a0:UInt64}{a1:UInt64}{a2:UInt64}{r:UInt64}(hm:Ed a0 a1 a2=some r):Sf prog 124 [.d (.u a0),.d (.u a1),.d (.u a2)] (.d (.u r)):=
 sp call124 func124 rfl ntmps124 rfl fun D0 As η0 m0 hd=>by
  unfold Ed at hm;obtain⟨x1,q1,hm⟩:=Aa hm;obtain⟨x2,q2,q1⟩:=Aa q1;refine gjU 0 (fun(_:Unit)=>⟨[(7,.d (.u x1))],[],[],0⟩) (fun _=>True) (fun Jp bk1=> ?_) fun _ _=> ?_
  ·refine gjU 0 (fun(_:Unit)=>⟨[(7,.d (.u x2))],[],[],0⟩) (fun _=>True) (fun Jp bk2=> ?_) fun _ _=> ?_
   ·refine gl hd (fun(p:Nat×(UInt64×Int))=>let (p0,p_0,p_1):=p; ⟨[(0,.d (.u a0)),(1,.d (.u a1)),(2,.d (.u a2)),(7,.d (.u p_0)),(8,.d (.i p_1))],[],[],0⟩) (fun p=>iter (Cr a0 a1 a2) p.1 p.2=some x2) (fun p=>p.1) (AR,(1,63)) q2 ?_;rintro⟨n1,s1⟩ q3 Jl bl1;cases n1 with
    |zero=>exact(An q3).elim
    |succ n1=>
     obtain⟨y1,q5,q4⟩:=Am q3;unfold Cr at q5;refine gi q5 (fun hc1 q5=> ?_) fun hc1 q5=> ?_
     ·skip;obtain⟨x4,q7,q5⟩:=Aa q5;refine gjU 1 (fun(_:Unit)=>⟨[(0,.d (.u a0)),(1,.d (.u a1)),(2,.d (.u a2)),(7,.d (.u x4)),(8,.d (.i s1.2))],[],[],0⟩) (fun _=>True) (fun Jp bk3=> ?_) fun _ _=> ?_
      ·skip;obtain⟨x5,q8,q7⟩:=Aa q7;refine gc (fun _=>Js q8) ?_;refine gi q7 (fun hc2 q7=> ?_) fun hc2 q7=> ?_
       ·obtain⟨x6,q9,q7⟩:=Aa q7;refine gc (fun _=>Js q9) ?_;have e0:=Option.some.inj q7;subst e0;exact gb bk3 hd () trivial
       have e0:=Option.some.inj q7;subst e0;exact gb bk3 hd () trivial
      have e0:=Option.some.inj q5;subst e0;rcases q4 with ⟨sn,e,q4'⟩|e
      ·have e:=Sum.inl.inj e;subst e;exact gb bl1 hd (n1,_) ⟨q4',Nat.lt_succ_self _⟩
      cases AM e
     have e0:=Option.some.inj q5;subst e0;rcases q4 with ⟨sn,e,_⟩|e
     ·cases Bv e
     have e:=Sum.inr.inj e;subst e;exact gb bk2 hd () trivial
   have e0:=Option.some.inj q1;subst e0;exact gb bk1 hd () trivial
  have e0:=Option.some.inj hm;subst e0;exact Aq hd
def Jg (a0:UInt64):Option Bool:=Ac (gu ((decide ((a0.toNat:Int)>0))&&(decide ((a0.toNat:Int)<2305843009213691579))) (Ed a0 1152921504606845789 2305843009213691579)) fun x1=>bnd ((((decide ((a0.toNat:Int)>0))&&(decide ((a0.toNat:Int)<2305843009213691579)))&&((x1.toNat:Int)==1))) fun x2=>some x2
theorem VH {a0:UInt64}{r:Bool}(hm:Jg a0=some r):Sf prog 71 [.d (.u a0)] (.d (.t r)):=
 sp call71 func71 rfl ntmps71 rfl fun D0 As η0 m0 hd=>by
  unfold Jg at hm;obtain⟨x1,q1,hm⟩:=Aa hm;refine gcG (fun h=>Jt (En h q1)) ?_;have hm:=AO hm;let x2:Bool:=((((decide ((a0.toNat:Int)>0))&&(decide ((a0.toNat:Int)<2305843009213691579)))&&((x1.toNat:Int)==1)));have e0:=Option.some.inj hm;subst e0;exact Aq hd
def Hd (a0:UInt64)(a1:UInt64):Option UInt64:=Ac (Ec a0 a1 2305843009213691579) fun x1=>some x1
theorem Tt {a0:UInt64}{a1:UInt64}{r:UInt64}(hm:Hd a0 a1=some r):Sf prog 72 [.d (.u a0),.d (.u a1)] (.d (.u r)):=
 sp call72 func72 rfl ntmps72 rfl fun D0 As η0 m0 hd=>by
  unfold Hd at hm;obtain⟨x1,q1,hm⟩:=Aa hm;refine gc (fun _=>Js q1) ?_;have e0:=Option.some.inj hm;subst e0;exact Aq hd
def E1 (a0:UInt64):Option UInt64:=Ac (Ed 4 a0 2305843009213691579) fun x1=>some x1
theorem RX {a0:UInt64}{r:UInt64}(hm:E1 a0=some r):Sf prog 73 [.d (.u a0)] (.d (.u r)):=
 sp call73 func73 rfl ntmps73 rfl fun D0 As η0 m0 hd=>by
  unfold E1 at hm;obtain⟨x1,q1,hm⟩:=Aa hm;refine gc (fun _=>Jt q1) ?_;have e0:=Option.some.inj hm;subst e0;exact Aq hd
def Hc (a0:UInt64)(a1:UInt64):Option UInt64:=Ac (Ed a0 a1 2305843009213691579) fun x1=>some x1
theorem Ts {a0:UInt64}{a1:UInt64}{r:UInt64}(hm:Hc a0 a1=some r):Sf prog 74 [.d (.u a0),.d (.u a1)] (.d (.u r)):=
 sp call74 func74 rfl ntmps74 rfl fun D0 As η0 m0 hd=>by
  unfold Hc at hm;obtain⟨x1,q1,hm⟩:=Aa hm;refine gc (fun _=>Jt q1) ?_;have e0:=Option.some.inj hm;subst e0;exact Aq hd
def Hv (a0:UInt64)(a1:UInt64)(a2:UInt64):Option UInt64:=if(decide ((a0.toNat:Int)≥((a2-a1).toNat:Int)))=true then some (a0-(a2-a1))else some (a0+a1)
theorem MR {a0:UInt64}{a1:UInt64}{a2:UInt64}{r:UInt64}(hm:Hv a0 a1 a2=some r):Sf prog 175 [.d (.u a0),.d (.u a1),.d (.u a2)] (.d (.u r)):=
 sp call175 func175 rfl ntmps175 rfl fun D0 As η0 m0 hd=>by
  unfold Hv at hm;refine gi hm (fun hc1 hm=> ?_) fun hc1 hm=> ?_
  ·skip;have e0:=Option.some.inj hm;subst e0;exact Aq hd
  have e0:=Option.some.inj hm;subst e0;exact Aq hd
def DM (a1:UInt64)(s1:UInt64×Int):Option ((UInt64×Int)⊕(UInt64)):=if(decide (s1.2<61))=true then Ac (Hv s1.1 s1.1 a1) fun x4=>some (.inl (x4,(w64 (s1.2+1))))else some (.inr s1.1)
def Il (a0:UInt64×UInt64)(a1:UInt64):Option UInt64:=if((a1.toNat:Int)==0)=true then some 0 else if a1≠0 then Ac (Ac (iter (DM a1) AR ((a0.1%a1),0)) fun x2=>some x2) fun x1=>if a1≠0 then Ac (Hv x1 (a0.2%a1) a1) fun x5=>some x5 else none else none
theorem Tv {a0:UInt64×UInt64}{a1:UInt64}{r:UInt64}(hm:Il a0 a1=some r):Sf prog 126 [ag (Ku a0),.d (.u a1)] (.d (.u r)):=
 sp call126 func126 rfl ntmps126 rfl fun D0 As η0 m0 hd=>by
  unfold Il at hm;refine gi hm (fun hc1 hm=> ?_) fun hc1 hm=> ?_
  ·skip;have e0:=Option.some.inj hm;subst e0;exact Aq hd
  obtain⟨q1,hm⟩:=Ck hm;refine Ve (d:= .u a1) (r:= .u (a0.1%a1)) (fun h=>q1) ?_;obtain⟨x1,q2,hm⟩:=Aa hm;obtain⟨x2,q3,q2⟩:=Aa q2;refine gjU 0 (fun(_:Unit)=>⟨[(1,.d (.u a1)),(2,.pb 0 0),(5,.d (.u x1))],[(0,.box 0 [.d (.u a0.1),.d (.u a0.2)] 84)],[],1⟩) (fun _=>True) (fun Jp bk1=> ?_) fun _ _=> ?_
  ·refine gjU 0 (fun(_:Unit)=>⟨[(1,.d (.u a1)),(2,.pb 0 0),(5,.d (.u x2))],[(0,.box 0 [.d (.u a0.1),.d (.u a0.2)] 84)],[],1⟩) (fun _=>True) (fun Jp bk2=> ?_) fun _ _=> ?_
   ·refine gl hd (fun(p:Nat×(UInt64×Int))=>let (p0,p_0,p_1):=p; ⟨[(1,.d (.u a1)),(2,.pb 0 0),(5,.d (.u p_0)),(6,.d (.i p_1))],[(0,.box 0 [.d (.u a0.1),.d (.u a0.2)] 84)],[],1⟩) (fun p=>iter (DM a1) p.1 p.2=some x2) (fun p=>p.1) (AR,((a0.1%a1),0)) q3 ?_;rintro⟨n1,s1⟩ q4 Jl bl1;cases n1 with
    |zero=>exact(An q4).elim
    |succ n1=>
     obtain⟨y1,q6,q5⟩:=Am q4;unfold DM at q6;refine gi q6 (fun hc2 q6=> ?_) fun hc2 q6=> ?_
     ·skip;obtain⟨x4,q8,q6⟩:=Aa q6;refine gc (fun _=>MR q8) ?_;have e0:=Option.some.inj q6;subst e0;rcases q5 with ⟨sn,e,q5'⟩|e
      ·have e:=Sum.inl.inj e;subst e;exact gb bl1 hd (n1,_) ⟨q5',Nat.lt_succ_self _⟩
      cases AM e
     have e0:=Option.some.inj q6;subst e0;rcases q5 with ⟨sn,e,_⟩|e
     ·cases Bv e
     have e:=Sum.inr.inj e;subst e;exact gb bk2 hd () trivial
   have e0:=Option.some.inj q2;subst e0;exact gb bk1 hd () trivial
  obtain⟨q9,hm⟩:=Ck hm;refine Ve (d:= .u a1) (r:= .u (a0.2%a1)) (fun h=>q9) ?_;obtain⟨x5,q10,hm⟩:=Aa hm;refine gc (fun _=>MR q10) ?_;have e0:=Option.some.inj hm;subst e0;exact Aq hd
def Fl (a0:List UInt8)(s1:(List UInt64)×Int)(s2:UInt64×UInt64×Int):Option ((UInt64×UInt64×Int)⊕(UInt64)):=if((decide (s2.2.2<(a0.length:Int)))&&(decide (s2.2.2<(w64 (s1.2+7)))))=true then Ac (idx a0 s2.2.2) fun x7=>bnd ((s2.1+(s2.2.1*(toU (x7.toNat:Int))))) fun x8=>some (.inl (x8,(s2.2.1*256),(w64 (s2.2.2+1))))else some (.inr s2.1)
def Ee (a0:List UInt8)(s1:(List UInt64)×Int):Option (((List UInt64)×Int)⊕((List UInt64))):=if(decide (s1.2<(a0.length:Int)))=true then Ac (Ac (iter (Fl a0 s1) AR (0,1,s1.2)) fun x5=>some x5) fun x4=>Ac (app 8 s1.1 ([x4]:List UInt64)) fun x9=>some (.inl (x9,(w64 (s1.2+7))))else some (.inr s1.1)
def Jh (a0:List UInt8):Option (List UInt64):=Ac (Ac (iter (Ee a0) AR (([]:List UInt64),0)) fun x2=>some x2) fun x1=>some x1
theorem VI {a0:List UInt8}{r:List UInt64}(hm:Jh a0=some r):Sp prog 204 [sl eB a0] [] 0 (is (.ow 0) [.row 0 1 _ eU r] 1):=
 sp call204 func204 rfl ntmps204 rfl fun D0 As η0 m0 hd=>by
  unfold Jh at hm;obtain⟨x1,q1,hm⟩:=Aa hm;obtain⟨x2,q2,q1⟩:=Aa q1;refine V9 0 eU 3 1 ?_;refine gjU 0 (fun(_:Unit)=>⟨[(3,.ow 0)],[(0,.row 0 1 _ eU x1)],[],1⟩) (fun _=>True) (fun Jp bk1=> ?_) fun _ _=> ?_
  ·refine gjU 0 (fun(_:Unit)=>⟨[(3,.ow 0)],[(0,.row 0 1 _ eU x2)],[],1⟩) (fun _=>True) (fun Jp bk2=> ?_) fun _ _=> ?_
   ·refine gl hd (fun(p:Nat×((List UInt64)×Int))=>let (p0,p_0,p_1):=p; ⟨[(0,sl eB a0),(3,.ow 0),(4,.d (.i p_1))],[(0,.row 0 1 _ eU p_0)],[],1⟩) (fun p=>iter (Ee a0) p.1 p.2=some x2) (fun p=>p.1) (AR,(([]:List UInt64),0)) q2 ?_;rintro⟨n1,s1⟩ q3 Jl bl1;cases n1 with
    |zero=>exact(An q3).elim
    |succ n1=>
     obtain⟨y1,q5,q4⟩:=Am q3;unfold Ee at q5;refine gi q5 (fun hc1 q5=> ?_) fun hc1 q5=> ?_
     ·skip;obtain⟨x4,q7,q5⟩:=Aa q5;obtain⟨x5,q8,q7⟩:=Aa q7;refine gjU 2 (fun(_:Unit)=>⟨[(0,sl eB a0),(3,.ow 0),(4,.d (.i s1.2)),(5,.d (.u x4))],[(0,.row 0 1 _ eU s1.1)],[],1⟩) (fun _=>True) (fun Jp bk3=> ?_) fun _ _=> ?_
      ·refine gjU 2 (fun(_:Unit)=>⟨[(0,sl eB a0),(3,.ow 0),(4,.d (.i s1.2)),(5,.d (.u x5))],[(0,.row 0 1 _ eU s1.1)],[],1⟩) (fun _=>True) (fun Jp bk4=> ?_) fun _ _=> ?_
       ·refine gl hd (fun(p:Nat×(UInt64×UInt64×Int))=>let (p0,p_0,p_1,p_2):=p; ⟨[(0,sl eB a0),(3,.ow 0),(4,.d (.i s1.2)),(5,.d (.u p_0)),(6,.d (.u p_1)),(7,.d (.i p_2))],[(0,.row 0 1 _ eU s1.1)],[],1⟩) (fun p=>iter (Fl a0 s1) p.1 p.2=some x5) (fun p=>p.1) (AR,(0,1,s1.2)) q8 ?_;rintro⟨n2,s2⟩ q9 Jl bl2;cases n2 with
        |zero=>exact(An q9).elim
        |succ n2=>
         obtain⟨y2,q11,q10⟩:=Am q9;unfold Fl at q11;refine gi q11 (fun hc2 q11=> ?_) fun hc2 q11=> ?_
         ·skip;obtain⟨x7,q13,q11⟩:=Aa q11;refine Ga (k:=1) (E:=eB) (fun _=>rfl) (fun _=>q13) ?_;have q11:=AO q11;let x8:UInt64:=((s2.1+(s2.2.1*(toU (x7.toNat:Int)))));have e0:=Option.some.inj q11;subst e0;rcases q10 with ⟨sn,e,q10'⟩|e
          ·have e:=Sum.inl.inj e;subst e;exact gb bl2 hd (n2,_) ⟨q10',Nat.lt_succ_self _⟩
          cases AM e
         have e0:=Option.some.inj q11;subst e0;rcases q10 with ⟨sn,e,_⟩|e
         ·cases Bv e
         have e:=Sum.inr.inj e;subst e;exact gb bk4 hd () trivial
       have e0:=Option.some.inj q7;subst e0;exact gb bk3 hd () trivial
      refine Fc (k:=1) eU ([x4]:List UInt64) (fun _=>rfl) ?_;obtain⟨x9,q15,q5⟩:=Aa q5;refine KZ (k:=1) (E:=eU) (fun _=>rfl) q15 ?_;have e0:=Option.some.inj q5;subst e0;rcases q4 with ⟨sn,e,q4'⟩|e
      ·have e:=Sum.inl.inj e;subst e;exact gb bl1 hd (n1,_) ⟨q4',Nat.lt_succ_self _⟩
      cases AM e
     have e0:=Option.some.inj q5;subst e0;rcases q4 with ⟨sn,e,_⟩|e
     ·cases Bv e
     have e:=Sum.inr.inj e;subst e;exact gb bk2 hd () trivial
   have e0:=Option.some.inj q1;subst e0;exact gb bk1 hd () trivial
  have e0:=Option.some.inj hm;subst e0;exact Aq hd
def Ci (a0:UInt64)(a1:UInt64):Option UInt64:=bnd ((((a0%2305843009213693951)+(a1%2305843009213693951))%2305843009213693951)) fun x1=>some x1
theorem H2 {a0:UInt64}{a1:UInt64}{r:UInt64}(hm:Ci a0 a1=some r):Sf prog 205 [.d (.u a0),.d (.u a1)] (.d (.u r)):=
 sp call205 func205 rfl ntmps205 rfl fun D0 As η0 m0 hd=>by
  unfold Ci at hm;have hm:=AO hm;let x1:UInt64:=((((a0%2305843009213693951)+(a1%2305843009213693951))%2305843009213693951));have e0:=Option.some.inj hm;subst e0;exact Aq hd
theorem H6 {m:Mem}{As:List Ow}{w:World}{a0:UInt64}{a1:UInt64}{r:UInt64}(S:St m As w)(hm:Ci a0 a1=some r):
  AB prog 205 #[vU a0,vU a1] w fun v w'=> ∃(M:Mem),m≤M∧St M (As) w'∧v=vU r:=by
 refine AB.mono ((H2 hm).2 none0 m As w [vU a0,vU a1] (.cons (.d (.u _)) (.cons (.d (.u _)) .nil)) (fun n h=>absurd rfl h) S) ?_;rintro v w' ⟨M,η',r',obs',n1,hle,_,⟨rfl,rfl,rfl⟩,hdom,hR,S'⟩;obtain rfl:=hR.u_inv;exact⟨M,hle,S',rfl⟩
def C3 (s1:UInt64×UInt64×UInt64):Option ((UInt64×UInt64×UInt64)⊕(UInt64)):=if(decide ((s1.2.1.toNat:Int)>0))=true then Ac (if(((s1.2.1%2).toNat:Int)==1)=true then Ac (Ci s1.2.2 s1.1) fun x5=>some x5 else some s1.2.2) fun x4=>Ac (Ci s1.1 s1.1) fun x6=>some (.inl (x6,(s1.2.1/2),x4))else some (.inr s1.2.2)
def Io (a0:UInt64)(a1:UInt64):Option UInt64:=Ac (Ac (iter C3 AR ((a0%2305843009213693951),(a1%2305843009213693951),0)) fun x2=>some x2) fun x1=>some x1
theorem Tx {a0:UInt64}{a1:UInt64}{r:UInt64}(hm:Io a0 a1=some r):Sf prog 234 [.d (.u a0),.d (.u a1)] (.d (.u r)):=
 sp call234 func234 rfl ntmps234 rfl fun D0 As η0 m0 hd=>by
  unfold Io at hm;obtain⟨x1,q1,hm⟩:=Aa hm;obtain⟨x2,q2,q1⟩:=Aa q1;refine gjU 0 (fun(_:Unit)=>⟨[(5,.d (.u x1))],[],[],0⟩) (fun _=>True) (fun Jp bk1=> ?_) fun _ _=> ?_
  ·refine gjU 0 (fun(_:Unit)=>⟨[(5,.d (.u x2))],[],[],0⟩) (fun _=>True) (fun Jp bk2=> ?_) fun _ _=> ?_
   ·refine gl hd (fun(p:Nat×(UInt64×UInt64×UInt64))=>let (p0,p_0,p_1,p_2):=p; ⟨[(0,.d (.u p_0)),(1,.d (.u p_1)),(5,.d (.u p_2))],[],[],0⟩) (fun p=>iter C3 p.1 p.2=some x2) (fun p=>p.1) (AR,((a0%2305843009213693951),(a1%2305843009213693951),0)) q2 ?_;rintro⟨n1,s1⟩ q3 Jl bl1;cases n1 with
    |zero=>exact(An q3).elim
    |succ n1=>
     obtain⟨y1,q5,q4⟩:=Am q3;unfold C3 at q5;refine gi q5 (fun hc1 q5=> ?_) fun hc1 q5=> ?_
     ·skip;obtain⟨x4,q7,q5⟩:=Aa q5;refine gj (fun(_:Unit)=>⟨[(0,.d (.u s1.1)),(1,.d (.u s1.2.1)),(5,.d (.u x4))],[],[],0⟩) (fun _=>True) (fun Jp bk3=> ?_) fun _ _=> ?_
      ·refine gi q7 (fun hc2 q7=> ?_) fun hc2 q7=> ?_
       ·obtain⟨x5,q8,q7⟩:=Aa q7;refine gc (fun _=>H2 q8) ?_;have e0:=Option.some.inj q7;subst e0;exact gb bk3 hd () trivial
       have e0:=Option.some.inj q7;subst e0;exact gb bk3 hd () trivial
      obtain⟨x6,q9,q5⟩:=Aa q5;refine gc (fun _=>H2 q9) ?_;have e0:=Option.some.inj q5;subst e0;rcases q4 with ⟨sn,e,q4'⟩|e
      ·have e:=Sum.inl.inj e;subst e;exact gb bl1 hd (n1,_) ⟨q4',Nat.lt_succ_self _⟩
      cases AM e
     have e0:=Option.some.inj q5;subst e0;rcases q4 with ⟨sn,e,_⟩|e
     ·cases Bv e
     have e:=Sum.inr.inj e;subst e;exact gb bk2 hd () trivial
   have e0:=Option.some.inj q1;subst e0;exact gb bk1 hd () trivial
  have e0:=Option.some.inj hm;subst e0;exact Aq hd
def Da (a0:UInt64)(a1:Int)(s1:UInt64×Int):Option ((UInt64×Int)⊕(UInt64)):=if(decide (s1.2<a1))=true then Ac (Io s1.1 a0) fun x4=>some (.inl (x4,(w64 (s1.2+1))))else some (.inr s1.1)
def Cg (a0:UInt64)(a1:Int):Option UInt64:=Ac (Ac (iter (Da a0 a1) AR (1,0)) fun x2=>some x2) fun x1=>some x1
theorem O7 {a0:UInt64}{a1:Int}{r:UInt64}(hm:Cg a0 a1=some r):Sf prog 231 [.d (.u a0),.d (.i a1)] (.d (.u r)):=
 sp call231 func231 rfl ntmps231 rfl fun D0 As η0 m0 hd=>by
  unfold Cg at hm;obtain⟨x1,q1,hm⟩:=Aa hm;obtain⟨x2,q2,q1⟩:=Aa q1;refine gjU 0 (fun(_:Unit)=>⟨[(5,.d (.u x1))],[],[],0⟩) (fun _=>True) (fun Jp bk1=> ?_) fun _ _=> ?_
  ·refine gjU 0 (fun(_:Unit)=>⟨[(5,.d (.u x2))],[],[],0⟩) (fun _=>True) (fun Jp bk2=> ?_) fun _ _=> ?_
   ·refine gl hd (fun(p:Nat×(UInt64×Int))=>let (p0,p_0,p_1):=p; ⟨[(0,.d (.u a0)),(1,.d (.i a1)),(5,.d (.u p_0)),(6,.d (.i p_1))],[],[],0⟩) (fun p=>iter (Da a0 a1) p.1 p.2=some x2) (fun p=>p.1) (AR,(1,0)) q2 ?_;rintro⟨n1,s1⟩ q3 Jl bl1;cases n1 with
    |zero=>exact(An q3).elim
    |succ n1=>
     obtain⟨y1,q5,q4⟩:=Am q3;unfold Da at q5;refine gi q5 (fun hc1 q5=> ?_) fun hc1 q5=> ?_
     ·skip;obtain⟨x4,q7,q5⟩:=Aa q5;refine gc (fun _=>Tx q7) ?_;have e0:=Option.some.inj q5;subst e0;rcases q4 with ⟨sn,e,q4'⟩|e
      ·have e:=Sum.inl.inj e;subst e;exact gb bl1 hd (n1,_) ⟨q4',Nat.lt_succ_self _⟩
      cases AM e
     have e0:=Option.some.inj q5;subst e0;rcases q4 with ⟨sn,e,_⟩|e
     ·cases Bv e
     have e:=Sum.inr.inj e;subst e;exact gb bk2 hd () trivial
   have e0:=Option.some.inj q1;subst e0;exact gb bk1 hd () trivial
  have e0:=Option.some.inj hm;subst e0;exact Aq hd
theorem KW {m:Mem}{As:List Ow}{w:World}{a0:UInt64}{a1:Int}{r:UInt64}(S:St m As w)(hm:Cg a0 a1=some r):
  AB prog 231 #[vU a0,vI a1] w fun v w'=> ∃(M:Mem),m≤M∧St M (As) w'∧v=vU r:=by
 refine AB.mono ((O7 hm).2 none0 m As w [vU a0,vI a1] (.cons (.d (.u _)) (.cons (.d (.i _)) .nil)) (fun n h=>absurd rfl h) S) ?_;rintro v w' ⟨M,η',r',obs',n1,hle,_,⟨rfl,rfl,rfl⟩,hdom,hR,S'⟩;obtain rfl:=hR.u_inv;exact⟨M,hle,S',rfl⟩
def BW (a0:UInt64×UInt64×UInt64)(a1:Int)(s1:Int×UInt64×UInt64×UInt64):Option ((Int×UInt64×UInt64×UInt64)⊕(UInt64×UInt64×UInt64)):=if(decide (s1.1<3))=true then Ac (Cg (toU (w64 ((w64 ((w64 (3*a1))+s1.1))+1))) 3) fun x4=>Ac (Ci x4 7) fun x5=>Ac (idx [a0.1,a0.2.1,a0.2.2] s1.1) fun x6=>Ac (Ci x6 x5) fun x7=>Ac (Cg x7 17) fun x8=>Ac (idx [s1.2.1,s1.2.2.1,s1.2.2.2] s1.1) fun x9=>bnd (if s1.1=0 then x8 else s1.2.1) fun x10=>bnd (if s1.1=1 then x8 else s1.2.2.1) fun x11=>bnd (if s1.1=2 then x8 else s1.2.2.2) fun x12=>some (.inl ((w64 (s1.1+1)),x10,x11,x12))else some (.inr (s1.2.1,s1.2.2.1,s1.2.2.2))
def BV (x14:UInt64)(s2:Int×UInt64×UInt64×UInt64):Option ((Int×UInt64×UInt64×UInt64)⊕(UInt64×UInt64×UInt64)):=if(decide (s2.1<3))=true then Ac (idx [s2.2.1,s2.2.2.1,s2.2.2.2] s2.1) fun x18=>Ac (Ci x18 x14) fun x19=>Ac (idx [s2.2.1,s2.2.2.1,s2.2.2.2] s2.1) fun x20=>bnd (if s2.1=0 then x19 else s2.2.1) fun x21=>bnd (if s2.1=1 then x19 else s2.2.2.1) fun x22=>bnd (if s2.1=2 then x19 else s2.2.2.2) fun x23=>some (.inl ((w64 (s2.1+1)),x21,x22,x23))else some (.inr (s2.2.1,s2.2.2.1,s2.2.2.2))
def Fk (a0:UInt64×UInt64×UInt64)(a1:Int):Option (UInt64×UInt64×UInt64):=Ac (Ac (iter (BW a0 a1) AR (0,0,0,0)) fun x2=>some (x2.1,x2.2.1,x2.2.2)) fun x1=>Ac (Ci x1.1 x1.2.1) fun x13=>Ac (Ci x13 x1.2.2) fun x14=>Ac (Ac (iter (BV x14) AR (0,x1.1,x1.2.1,x1.2.2)) fun x16=>some (x16.1,x16.2.1,x16.2.2)) fun x15=>some x15
theorem Qo {m:Mem}{As:List Ow}{w:World}{a0:UInt64×UInt64×UInt64}{a1:Int}{r:UInt64×UInt64×UInt64}(S:St m (As) w)(hm:Fk a0 a1=some r):
  AB Tryz.prog 221 #[.agg #[vU a0.1,vU a0.2.1,vU a0.2.2],vI a1] w fun v w'=> ∃(M:Mem),m≤M∧St M (As) w'∧v= .agg #[vU r.1,vU r.2.1,vU r.2.2]:=by
 unfold Fk at hm;have L0:=Mem.rfl' m;refine C9 (args:=[.agg #[vU a0.1,vU a0.2.1,vU a0.2.2],vI a1]) Tryz.func221 rfl Tryz.ntmps221 (Nat.le_of_ble_eq_true rfl) ?_;refine Ag ?_;refine Ae ?_;refine Mz S rfl ?_;intro b1 w1 S1;replace S1:St _ ((bx b1 [vU a0.1,vU a0.2.1,vU a0.2.2] 187)::As) _:=S1;clear S;refine Fx S1 Tryz.zeroValue187 ?_;intro b2 w2 S2;replace S2:St _ ((bx b2 [vU 0,vU 0,vU 0] 187)::(bx b1 [vU a0.1,vU a0.2.1,vU a0.2.2] 187)::As) _:=S2;clear S1;refine Ah ?_;refine nrm ?_;refine Ag ?_;refine Ae ?_;refine Fx S2 Tryz.zeroValue187 ?_;intro b3 w3 S3;replace S3:St _ ((bx b3 [vU 0,vU 0,vU 0] 187)::(bx b2 [vU 0,vU 0,vU 0] 187)::(bx b1 [vU a0.1,vU a0.2.1,vU a0.2.2] 187)::As) _:=S3;clear S2;refine Ah ?_;refine nrm ?_;obtain⟨x1,q1,hm⟩:=Aa hm;have L1:=Mem.rfl' m;refine Ag ?_;refine A8 [6,7,10,11,12,13,14,15,16,17,18,19,20,21,22,23,24,25,26,27,28,29] (fun f' w'=> ∃(M1:Mem),m≤M1∧St M1 ((bx b3 [vU x1.1,vU x1.2.1,vU x1.2.2] 187)::(bx b2 [vU 0,vU 0,vU 0] 187)::(bx b1 [vU a0.1,vU a0.2.1,vU a0.2.2] 187)::As) w'∧Cl f' []) ?_ ?_
 ·refine Ag ?_;refine Ae ?_;refine A4 (v:=vI 0) rfl ?_;refine Ah ?_;refine nrm ?_;obtain⟨x2,q2,q1⟩:=Aa q1;have L2:=Mem.rfl' m;refine A8 [6,7,10,11,12,13,14,15,16,17,18,19,20,21,22,23,24,25,26,27,28,29] (fun f' w'=> ∃(M2:Mem),m≤M2∧St M2 ((bx b3 [vU x2.1,vU x2.2.1,vU x2.2.2] 187)::(bx b2 [vU 0,vU 0,vU 0] 187)::(bx b1 [vU a0.1,vU a0.2.1,vU a0.2.2] 187)::As) w'∧Cl f' []) ?_ ?_
  ·refine Az ?_;refine B4 [6,7,10,11,12,13,14,15,16,17,18,19,20,21,22,23,24,25,26,27,28,29] (fun n1 f' w'=> ∃(s1:Int×UInt64×UInt64×UInt64) (m6:Mem),iter (BW a0 a1) n1 s1=some x2∧m≤m6∧St m6 ((bx b3 [vU s1.2.1,vU s1.2.2.1,vU s1.2.2.2] 187)::(bx b2 [vU 0,vU 0,vU 0] 187)::(bx b1 [vU a0.1,vU a0.2.1,vU a0.2.2] 187)::As) w'∧Cl f' [(6,vI s1.1)]) AR ⟨(0,0,0,0),m,q2,L2,S3,⟨rfl,trivial⟩⟩ ?_;rintro n1 f1 w4 ho ⟨s1,m1,q3,L4,S4,ha⟩;obtain⟨u1,rfl⟩:=B3 (N:=50) ho ha;clear ho ha;have L3:=Mem.rfl' m1;clear S3;cases n1 with
   |zero=>exact(An q3).elim
   |succ n1=>
    obtain⟨y1,q5,q4⟩:=Am q3;unfold BW at q5;refine Ag ?_;refine Ag ?_;refine Ae ?_;refine Ar (v:=vI s1.1) rfl ?_;refine KO (m:=s1.1) (n:=3) rfl rfl ?_;refine Ah ?_;refine nrm ?_;refine Cz (t:=(decide (s1.1<3))) rfl (fun hc1=> ?_) (fun hc1=> ?_)
    ·replace q5:=ifT hc1 q5;refine A6 ?_;refine nrm ?_;refine Ag ?_;refine Az ?_;refine Ag ?_;refine Ae ?_;refine Ar (v:=vI a1) rfl ?_;refine PE (m:=3) (n:=a1) rfl rfl ?_;refine Ar (v:=vI s1.1) rfl ?_;refine FA (m:=(w64 (3*a1))) (n:=s1.1) rfl rfl ?_;refine FA (m:=(w64 ((w64 (3*a1))+s1.1))) (n:=1) rfl rfl ?_;refine On rfl Tryz.underlying3 Tryz.underlying22 ?_;obtain⟨x4,q7,q5⟩:=Aa q5;refine CJ Tryz.call231 (KW (a0:=(toU (w64 ((w64 ((w64 (3*a1))+s1.1))+1)))) (a1:=3) S4 q7) rfl ?_;rintro _ w5 ⟨m2,l1,S5,rfl⟩;replace L3:=Mem.tr L3 l1;clear S4;replace S5:St _ ((bx b3 [vU s1.2.1,vU s1.2.2.1,vU s1.2.2.2] 187)::(bx b2 [vU 0,vU 0,vU 0] 187)::(bx b1 [vU a0.1,vU a0.2.1,vU a0.2.2] 187)::As) _:=S5;obtain⟨x5,q8,q5⟩:=Aa q5;refine CJ Tryz.call205 (H6 (a0:=x4) (a1:=7) S5 q8) rfl ?_;rintro _ w6 ⟨m3,l2,S6,rfl⟩;replace L3:=Mem.tr L3 l2;clear S5;replace S6:St _ ((bx b3 [vU s1.2.1,vU s1.2.2.1,vU s1.2.2.2] 187)::(bx b2 [vU 0,vU 0,vU 0] 187)::(bx b1 [vU a0.1,vU a0.2.1,vU a0.2.2] 187)::As) _:=S6;refine A4 (v:=vU x5) rfl ?_;refine Ah ?_;refine nrm ?_;refine Ae ?_;refine Ar (v:=vI s1.1) rfl ?_;refine Ar (v:=vI s1.1) rfl ?_;obtain⟨x6,q9,q5⟩:=Aa q5;refine IF (i:=s1.1) rfl rfl Tryz.underlying187 Tryz.sizeOf22 (CS q9).1 (CS q9).2 ?_;refine H8 (i:=2) (off:=0+s1.1.toNat*1) (cs:=[vU x6]) S6 rfl rfl Tryz.isAgg22 Tryz.sizeOf22 (by rcases V8 q9 with ⟨h,h'⟩|⟨h,h'⟩|⟨h,h'⟩<;>(rw[h,h']; rfl)) (fun _=>rfl) ?_;refine Ar (v:=vU x5) rfl ?_;obtain⟨x7,q10,q5⟩:=Aa q5;refine CJ Tryz.call205 (H6 (a0:=x6) (a1:=x5) S6 q10) rfl ?_;rintro _ w7 ⟨m4,l3,S7,rfl⟩;replace L3:=Mem.tr L3 l3;clear S6;replace S7:St _ ((bx b3 [vU s1.2.1,vU s1.2.2.1,vU s1.2.2.2] 187)::(bx b2 [vU 0,vU 0,vU 0] 187)::(bx b1 [vU a0.1,vU a0.2.1,vU a0.2.2] 187)::As) _:=S7;obtain⟨x8,q11,q5⟩:=Aa q5;refine CJ Tryz.call231 (KW (a0:=x7) (a1:=17) S7 q11) rfl ?_;rintro _ w8 ⟨m5,l4,S8,rfl⟩;replace L3:=Mem.tr L3 l4;clear S7;replace S8:St _ ((bx b3 [vU s1.2.1,vU s1.2.2.1,vU s1.2.2.2] 187)::(bx b2 [vU 0,vU 0,vU 0] 187)::(bx b1 [vU a0.1,vU a0.2.1,vU a0.2.2] 187)::As) _:=S8;obtain⟨x9,q12,q5⟩:=Aa q5;refine IF (i:=s1.1) rfl rfl Tryz.underlying187 Tryz.sizeOf22 (CS q12).1 (CS q12).2 ?_;obtain⟨x10,q13,q5⟩:=CU q5;obtain⟨x11,q14,q5⟩:=CU q5;obtain⟨x12,q15,q5⟩:=CU q5;refine Zp (i:=0) (off:=0+s1.1.toNat*1) S8 rfl rfl rfl Tryz.sizeOf22 (Uv.all (Jo rfl MD)) (by rcases V8 q12 with ⟨h,h'⟩|⟨h,h'⟩|⟨h,h'⟩<;>(rw[h]; exact Nat.le_of_ble_eq_true rfl)) ?_;intro w9 S9;replace S9:=St.cellsTo (i:=0) (l':=[vU x10,vU x11,vU x12]) S9 (by rcases V8 q12 with ⟨h,h'⟩|⟨h,h'⟩|⟨h,h'⟩<;>(simp only[q13,q14,q15,h]; rfl)) rfl;replace S9:St _ ((bx b3 [vU x10,vU x11,vU x12] 187)::(bx b2 [vU 0,vU 0,vU 0] 187)::(bx b1 [vU a0.1,vU a0.2.1,vU a0.2.2] 187)::As) _:=S9;clear S8;refine Ah ?_;refine MF ?_;refine nrm ?_;refine Ae ?_;refine Ar (v:=vI s1.1) rfl ?_;refine FA (m:=s1.1) (n:=1) rfl rfl ?_;refine A4 (v:=vI (w64 (s1.1+1))) rfl ?_;refine Ah ?_;refine nrm ?_;have e0:=Option.some.inj q5;subst e0;rcases q4 with ⟨sn,e,q4'⟩|e
     ·cases e;exact⟨FI,_,Nat.lt_succ_self _,⟨_,m5,q4',Mem.tr L4 L3,S9,⟨rfl,trivial⟩⟩⟩
     ·cases e
    replace q5:=ifF hc1 q5;refine CV ?_;refine thE ?_;refine thE ?_;refine exB ?_;refine nrm ?_;have e0:=Option.some.inj q5;subst e0;rcases q4 with ⟨sn,e,_⟩|e
    ·cases e
    ·cases e;exact⟨FI,m1,Mem.tr L4 L3,S4,trivial⟩
  rintro f2 w10 ho ⟨m7,l5,S10,ha⟩;obtain⟨u2,rfl⟩:=B3 (N:=50) ho ha;clear ho ha;replace L1:=Mem.tr L1 l5;clear S3;have e0:=Option.some.inj q1;subst e0;exact⟨FI,m7,L1,S10,trivial⟩
 rintro f3 w11 ho ⟨m8,l6,S11,ha⟩;obtain⟨u3,rfl⟩:=B3 (N:=50) ho ha;replace L0:=Mem.tr L0 l6;clear S3;refine Ag ?_;obtain⟨x13,q16,hm⟩:=Aa hm;have HM:HD [(30,fv (pt b3 0)),(31,fv (vU x1.1)),(32,fv (pt b3 1)),(33,fv (vU x1.2.1)),(34,fv (vU x13)),(35,fv (pt b3 2)),(36,fv (vU x1.2.2))]:=⟨mv,mv,mv,mv,mv,mv,mv,trivial⟩;refine JW HM 7 XM rfl rfl rfl [30,31,32,33,34,35,36] (fun L f M w=>St M ((bx b3 [vU x1.1,vU x1.2.1,vU x1.2.2] 187)::(bx b2 [vU 0,vU 0,vU 0] 187)::(bx b1 [vU a0.1,vU a0.2.1,vU a0.2.2] 187)::As) w) (St.drew S11 _) ?_ ?_
 ·refine⟨?_,?_,?_,?_,?_,?_,?_,trivial⟩
  ·exact flp HM rfl [] (fun _ _=>trivial) (fun _ _ q=>IF (i:=0) rfl rfl Tryz.underlying187 Tryz.sizeOf22 (by decide) (by decide) q) rfl
  ·exact flp HM rfl [(30,_)] (fun K _=>⟨K 0 rfl,trivial⟩) (fun _ S13 q=>H8 (i:=0) (cs:=[vU x1.1]) S13 rfl rfl Tryz.isAgg22 Tryz.sizeOf22 rfl (fun _=>rfl) q) rfl
  ·exact flp HM rfl [] (fun _ _=>trivial) (fun _ _ q=>IF (i:=1) rfl rfl Tryz.underlying187 Tryz.sizeOf22 (by decide) (by decide) q) rfl
  ·exact flp HM rfl [(32,_)] (fun K _=>⟨K 2 rfl,trivial⟩) (fun _ S15 q=>H8 (i:=0) (cs:=[vU x1.2.1]) S15 rfl rfl Tryz.isAgg22 Tryz.sizeOf22 rfl (fun _=>rfl) q) rfl
  ·intro L f8 w16 hL hd hc ⟨m13,L13,S16,K,hO⟩;have d1:L 1=true:=dep hd rfl;have e3:=K 1 d1;have d3:L 3=true:=dep hd rfl;have e4:=K 3 d3;obtain⟨u8,rfl⟩:=B3 (N:=50) (L:=[(31,vU x1.1),(33,vU x1.2.1)]) hO ⟨e3,e4,trivial⟩;replace S16:St _ ((bx b3 [vU x1.1,vU x1.2.1,vU x1.2.2] 187)::(bx b2 [vU 0,vU 0,vU 0] 187)::(bx b1 [vU a0.1,vU a0.2.1,vU a0.2.2] 187)::As) _:=S16;have L14:=Mem.rfl' m13;refine CJ Tryz.call205 (H6 (a0:=x1.1) (a1:=x1.2.1) S16 q16) rfl ?_;rintro _ w17 ⟨m14,l7,S17,rfl⟩;replace L14:=Mem.tr L14 l7;clear S16;replace S17:St _ ((bx b3 [vU x1.1,vU x1.2.1,vU x1.2.2] 187)::(bx b2 [vU 0,vU 0,vU 0] 187)::(bx b1 [vU a0.1,vU a0.2.1,vU a0.2.2] 187)::As) _:=S17;refine wpn ?_;refine⟨m14,Mem.tr L13 L14,?_,Jm HM rfl K L14 rfl rfl rfl,FI⟩;exact S17
  ·exact flp HM rfl [] (fun _ _=>trivial) (fun _ _ q=>IF (i:=2) rfl rfl Tryz.underlying187 Tryz.sizeOf22 (by decide) (by decide) q) rfl
  ·exact flp HM rfl [(35,_)] (fun K _=>⟨K 5 rfl,trivial⟩) (fun _ S19 q=>H8 (i:=0) (cs:=[vU x1.2.2]) S19 rfl rfl Tryz.isAgg22 Tryz.sizeOf22 rfl (fun _=>rfl) q) rfl
 intro L f11 w20 hall ⟨m17,L19,S20,K,hO⟩;have d4:L 4=true:=hall 4 (by decide);have e6:=K 4 d4;have d6:L 6=true:=hall 6 (by decide);have e7:=K 6 d6;obtain⟨u11,rfl⟩:=B3 (N:=50) (L:=[(34,vU x13),(36,vU x1.2.2)]) hO ⟨e6,e7,trivial⟩;replace S20:St _ ((bx b3 [vU x1.1,vU x1.2.1,vU x1.2.2] 187)::(bx b2 [vU 0,vU 0,vU 0] 187)::(bx b1 [vU a0.1,vU a0.2.1,vU a0.2.2] 187)::As) _:=S20;replace L0:=Mem.tr L0 L19;clear S11;obtain⟨x14,q17,hm⟩:=Aa hm;refine CJ Tryz.call205 (H6 (a0:=x13) (a1:=x1.2.2) S20 q17) rfl ?_;rintro _ w21 ⟨m18,l8,S21,rfl⟩;replace L0:=Mem.tr L0 l8;clear S20;replace S21:St _ ((bx b3 [vU x1.1,vU x1.2.1,vU x1.2.2] 187)::(bx b2 [vU 0,vU 0,vU 0] 187)::(bx b1 [vU a0.1,vU a0.2.1,vU a0.2.2] 187)::As) _:=S21;refine A4 (v:=vU x14) rfl ?_;refine Ah ?_;refine nrm ?_;obtain⟨x15,q18,hm⟩:=Aa hm;have L20:=Mem.rfl' m18;refine Ag ?_;refine A8 [9,38,39,40,41,42,43,44,45,46,47,48] (fun f' w'=> ∃(M3:Mem),m18≤M3∧St M3 ((bx b3 [vU x15.1,vU x15.2.1,vU x15.2.2] 187)::(bx b2 [vU 0,vU 0,vU 0] 187)::(bx b1 [vU a0.1,vU a0.2.1,vU a0.2.2] 187)::As) w'∧Cl f' []) ?_ ?_
 ·refine Ag ?_;refine Ae ?_;refine A4 (v:=vI 0) rfl ?_;refine Ah ?_;refine nrm ?_;obtain⟨x16,q19,q18⟩:=Aa q18;have L21:=Mem.rfl' m18;refine A8 [9,38,39,40,41,42,43,44,45,46,47,48] (fun f' w'=> ∃(M4:Mem),m18≤M4∧St M4 ((bx b3 [vU x16.1,vU x16.2.1,vU x16.2.2] 187)::(bx b2 [vU 0,vU 0,vU 0] 187)::(bx b1 [vU a0.1,vU a0.2.1,vU a0.2.2] 187)::As) w'∧Cl f' []) ?_ ?_
  ·refine Az ?_;refine B4 [9,38,39,40,41,42,43,44,45,46,47,48] (fun n2 f' w'=> ∃(s2:Int×UInt64×UInt64×UInt64) (m21:Mem),iter (BV x14) n2 s2=some x16∧m18≤m21∧St m21 ((bx b3 [vU s2.2.1,vU s2.2.2.1,vU s2.2.2.2] 187)::(bx b2 [vU 0,vU 0,vU 0] 187)::(bx b1 [vU a0.1,vU a0.2.1,vU a0.2.2] 187)::As) w'∧Cl f' [(9,vI s2.1)]) AR ⟨(0,x1.1,x1.2.1,x1.2.2),m18,q19,L21,S21,⟨rfl,trivial⟩⟩ ?_;rintro n2 f12 w22 ho ⟨s2,m19,q20,L23,S22,ha⟩;obtain⟨u12,rfl⟩:=B3 (N:=50) ho ha;clear ho ha;have L22:=Mem.rfl' m19;clear S21;cases n2 with
   |zero=>exact(An q20).elim
   |succ n2=>
    obtain⟨y2,q22,q21⟩:=Am q20;unfold BV at q22;refine Ag ?_;refine Ag ?_;refine Ae ?_;refine Ar (v:=vI s2.1) rfl ?_;refine KO (m:=s2.1) (n:=3) rfl rfl ?_;refine Ah ?_;refine nrm ?_;refine Cz (t:=(decide (s2.1<3))) rfl (fun hc2=> ?_) (fun hc2=> ?_)
    ·replace q22:=ifT hc2 q22;refine A6 ?_;refine nrm ?_;refine Ag ?_;refine Az ?_;refine Ae ?_;refine Ar (v:=vI s2.1) rfl ?_;refine Ar (v:=vI s2.1) rfl ?_;obtain⟨x18,q24,q22⟩:=Aa q22;refine IF (i:=s2.1) rfl rfl Tryz.underlying187 Tryz.sizeOf22 (CS q24).1 (CS q24).2 ?_;refine H8 (i:=0) (off:=0+s2.1.toNat*1) (cs:=[vU x18]) S22 rfl rfl Tryz.isAgg22 Tryz.sizeOf22 (by rcases V8 q24 with ⟨h,h'⟩|⟨h,h'⟩|⟨h,h'⟩<;>(rw[h,h']; rfl)) (fun _=>rfl) ?_;refine Ar (v:=vU x14) rfl ?_;obtain⟨x19,q25,q22⟩:=Aa q22;refine CJ Tryz.call205 (H6 (a0:=x18) (a1:=x14) S22 q25) rfl ?_;rintro _ w23 ⟨m20,l9,S23,rfl⟩;replace L22:=Mem.tr L22 l9;clear S22;replace S23:St _ ((bx b3 [vU s2.2.1,vU s2.2.2.1,vU s2.2.2.2] 187)::(bx b2 [vU 0,vU 0,vU 0] 187)::(bx b1 [vU a0.1,vU a0.2.1,vU a0.2.2] 187)::As) _:=S23;obtain⟨x20,q26,q22⟩:=Aa q22;refine IF (i:=s2.1) rfl rfl Tryz.underlying187 Tryz.sizeOf22 (CS q26).1 (CS q26).2 ?_;obtain⟨x21,q27,q22⟩:=CU q22;obtain⟨x22,q28,q22⟩:=CU q22;obtain⟨x23,q29,q22⟩:=CU q22;refine Zp (i:=0) (off:=0+s2.1.toNat*1) S23 rfl rfl rfl Tryz.sizeOf22 (Uv.all (Jo rfl MD)) (by rcases V8 q26 with ⟨h,h'⟩|⟨h,h'⟩|⟨h,h'⟩<;>(rw[h]; exact Nat.le_of_ble_eq_true rfl)) ?_;intro w24 S24;replace S24:=St.cellsTo (i:=0) (l':=[vU x21,vU x22,vU x23]) S24 (by rcases V8 q26 with ⟨h,h'⟩|⟨h,h'⟩|⟨h,h'⟩<;>(simp only[q27,q28,q29,h]; rfl)) rfl;replace S24:St _ ((bx b3 [vU x21,vU x22,vU x23] 187)::(bx b2 [vU 0,vU 0,vU 0] 187)::(bx b1 [vU a0.1,vU a0.2.1,vU a0.2.2] 187)::As) _:=S24;clear S23;refine Ah ?_;refine MF ?_;refine nrm ?_;refine Ae ?_;refine Ar (v:=vI s2.1) rfl ?_;refine FA (m:=s2.1) (n:=1) rfl rfl ?_;refine A4 (v:=vI (w64 (s2.1+1))) rfl ?_;refine Ah ?_;refine nrm ?_;have e0:=Option.some.inj q22;subst e0;rcases q21 with ⟨sn,e,q21'⟩|e
     ·cases e;exact⟨FI,_,Nat.lt_succ_self _,⟨_,m20,q21',Mem.tr L23 L22,S24,⟨rfl,trivial⟩⟩⟩
     ·cases e
    replace q22:=ifF hc2 q22;refine CV ?_;refine thE ?_;refine thE ?_;refine exB ?_;refine nrm ?_;have e0:=Option.some.inj q22;subst e0;rcases q21 with ⟨sn,e,_⟩|e
    ·cases e
    ·cases e;exact⟨FI,m19,Mem.tr L23 L22,S22,trivial⟩
  rintro f13 w25 ho ⟨m22,l10,S25,ha⟩;obtain⟨u13,rfl⟩:=B3 (N:=50) ho ha;clear ho ha;replace L20:=Mem.tr L20 l10;clear S21;have e0:=Option.some.inj q18;subst e0;exact⟨FI,m22,L20,S25,trivial⟩
 rintro f14 w26 ho ⟨m23,l11,S26,ha⟩;obtain⟨u14,rfl⟩:=B3 (N:=50) ho ha;replace L0:=Mem.tr L0 l11;clear S21;refine Ag ?_;refine Ae ?_;refine H8 (i:=0) (cs:=[vU x15.1,vU x15.2.1,vU x15.2.2]) S26 rfl rfl Tryz.isAgg187 Tryz.sizeOf187 rfl (fun h=>by cases h) ?_;refine I5 (i:=1) S26 rfl rfl rfl Tryz.sizeOf187 (Jo rfl (Jo rfl (Jo rfl MD))) rfl ?_;intro w27 S27;replace S27:St _ ((bx b3 [vU x15.1,vU x15.2.1,vU x15.2.2] 187)::(bx b2 [vU x15.1,vU x15.2.1,vU x15.2.2] 187)::(bx b1 [vU a0.1,vU a0.2.1,vU a0.2.2] 187)::As) _:=S27;clear S26;refine Ah ?_;refine nrm ?_;refine Bw ?_;refine EE ?_;intro we hpd;replace S27:=St.pd S27 hpd;have SR:=S27;obtain⟨m24,l12,S28⟩:=St.drop S27 0;replace L0:=Mem.tr L0 l12;replace S28:St _ ((bx b2 [vU x15.1,vU x15.2.1,vU x15.2.2] 187)::(bx b1 [vU a0.1,vU a0.2.1,vU a0.2.2] 187)::As) _:=S28;obtain⟨m25,l13,S29⟩:=St.drop S28 0;replace L0:=Mem.tr L0 l13;clear S28;replace S29:St _ ((bx b1 [vU a0.1,vU a0.2.1,vU a0.2.2] 187)::As) _:=S29;obtain⟨m26,l14,S30⟩:=St.drop S29 0;replace L0:=Mem.tr L0 l14;clear S29;replace S30:St _ (As) _:=S30;have e0:=Option.some.inj hm;subst e0;exact IW [_] rfl ⟨IS (i:=1) (off:=0) (cs:=[vU x15.1,vU x15.2.1,vU x15.2.2]) SR rfl rfl Tryz.isAgg187 Tryz.sizeOf187 rfl (fun h=>by cases h),trivial⟩ ⟨_,L0,S30,rfl⟩
theorem QR {a0:UInt64×UInt64×UInt64}{a1:Int}{r:UInt64×UInt64×UInt64}(hm:Fk a0 a1=some r):Sf prog 221 [ag (MJ a0),.d (.i a1)] (ag (MJ r)):=
 ⟨call221,fun η m As w vs hv0 hd S=>by
  have S:St m As w:=S;obtain⟨v0,u0,rfl,r0,hv1⟩:=BB.cons_inv hv0;obtain⟨c0,rfl,g0⟩:=Br.ofA YS r0;obtain rfl:=Oq g0;obtain⟨v1,u1,rfl,r1,hv2⟩:=BB.cons_inv hv1;obtain rfl:=r1.i_inv;obtain rfl:=BB.nil_inv hv2;refine AB.mono (Qo S hm) ?_;rintro v w' ⟨M,hle,S0,rfl⟩;exact⟨M,none0,_,_,_,hle,Un hd _,⟨rfl,rfl,rfl⟩,fun n h=>absurd rfl h,(Br.toA YS (Ph)),S0⟩⟩
def Ez (s1:Int×UInt64×UInt64×UInt64):Option ((Int×UInt64×UInt64×UInt64)⊕(UInt64×UInt64×UInt64)):=if(decide (s1.1<8))=true then Ac (Fk s1.2 s1.1) fun x4=>some (.inl ((w64 (s1.1+1)),x4.1,x4.2.1,x4.2.2))else some (.inr (s1.2.1,s1.2.2.1,s1.2.2.2))
def Im (a0:UInt64×UInt64×UInt64):Option (UInt64×UInt64×UInt64):=Ac (Ac (iter Ez AR (0,a0.1,a0.2.1,a0.2.2)) fun x2=>some (x2.1,x2.2.1,x2.2.2)) fun x1=>some x1
theorem Tw {a0:UInt64×UInt64×UInt64}{r:UInt64×UInt64×UInt64}(hm:Im a0=some r):Sf prog 206 [ag (MJ a0)] (ag (MJ r)):=
 sp call206 func206 rfl ntmps206 rfl fun D0 As η0 m0 hd=>by
  unfold Im at hm;obtain⟨x1,q1,hm⟩:=Aa hm;obtain⟨x2,q2,q1⟩:=Aa q1;refine gjU 0 (fun(_:Unit)=>let (y_0,y_1,y_2):=x1; ⟨[(1,.pb 0 0),(2,.pb 1 0)],[(0,.box 1 [.d (.u 0),.d (.u 0),.d (.u 0)] 187),(1,.box 0 [.d (.u y_0),.d (.u y_1),.d (.u y_2)] 187)],[],2⟩) (fun _=>True) (fun Jp bk1=> ?_) fun _ _=> ?_
  ·refine gjU 0 (fun(_:Unit)=>let (y_0,y_1,y_2):=x2; ⟨[(1,.pb 0 0),(2,.pb 1 0)],[(0,.box 1 [.d (.u 0),.d (.u 0),.d (.u 0)] 187),(1,.box 0 [.d (.u y_0),.d (.u y_1),.d (.u y_2)] 187)],[],2⟩) (fun _=>True) (fun Jp bk2=> ?_) fun _ _=> ?_
   ·refine gl hd (fun(p:Nat×(Int×UInt64×UInt64×UInt64))=>let (p0,p_0,p_1,p_2,p_3):=p; ⟨[(1,.pb 0 0),(2,.pb 1 0),(3,.d (.i p_0))],[(0,.box 1 [.d (.u 0),.d (.u 0),.d (.u 0)] 187),(1,.box 0 [.d (.u p_1),.d (.u p_2),.d (.u p_3)] 187)],[],2⟩) (fun p=>iter Ez p.1 p.2=some x2) (fun p=>p.1) (AR,(0,a0.1,a0.2.1,a0.2.2)) q2 ?_;rintro⟨n1,s1⟩ q3 Jl bl1;cases n1 with
    |zero=>exact(An q3).elim
    |succ n1=>
     obtain⟨y1,q5,q4⟩:=Am q3;unfold Ez at q5;refine gi q5 (fun hc1 q5=> ?_) fun hc1 q5=> ?_
     ·skip;obtain⟨x4,q7,q5⟩:=Aa q5;refine gc (fun _=>QR q7) ?_;have e0:=Option.some.inj q5;subst e0;rcases q4 with ⟨sn,e,q4'⟩|e
      ·have e:=Sum.inl.inj e;subst e;exact gb bl1 hd (n1,_) ⟨q4',Nat.lt_succ_self _⟩
      cases AM e
     have e0:=Option.some.inj q5;subst e0;rcases q4 with ⟨sn,e,_⟩|e
     ·cases Bv e
     have e:=Sum.inr.inj e;subst e;exact gb bk2 hd () trivial
   have e0:=Option.some.inj q1;subst e0;exact gb bk1 hd () trivial
  have e0:=Option.some.inj hm;subst e0;exact Aq hd
def BX (x1:List UInt64)(s1:Int×UInt64×UInt64×UInt64):Option ((Int×UInt64×UInt64×UInt64)⊕(UInt64×UInt64×UInt64)):=if((decide (s1.1<(x1.length:Int)))||(s1.1==0))=true then Ac (if(decide (s1.1<(x1.length:Int)))=true then Ac (idx x1 s1.1) fun x6=>Ac (Ci s1.2.1 x6) fun x7=>some x7 else some s1.2.1) fun x5=>Ac (if(decide ((w64 (s1.1+1))<(x1.length:Int)))=true then Ac (idx x1 (w64 (s1.1+1))) fun x9=>Ac (Ci s1.2.2.1 x9) fun x10=>some x10 else some s1.2.2.1) fun x8=>Ac (Im (x5,x8,s1.2.2.2)) fun x11=>some (.inl ((w64 (s1.1+2)),x11.1,x11.2.1,x11.2.2))else some (.inr (s1.2.1,s1.2.2.1,s1.2.2.2))
def Ik (a0:List UInt8):Option (UInt64×UInt64):=Ac (Jh a0) fun x1=>Ac (Ac (iter (BX x1) AR (0,0,0,(toU (a0.length:Int)))) fun x3=>some (x3.1,x3.2.1,x3.2.2)) fun x2=>some (x2.1,x2.2.1)
theorem Tu {a0:List UInt8}{r:UInt64×UInt64}(hm:Ik a0=some r):Sf prog 176 [sl eB a0] (ag (Ku r)):=
 sp call176 func176 rfl ntmps176 rfl fun D0 As η0 m0 hd=>by
  unfold Ik at hm;obtain⟨x1,q1,hm⟩:=Aa hm;refine gco (VI q1) ?_;obtain⟨x2,q2,hm⟩:=Aa hm;obtain⟨x3,q3,q2⟩:=Aa q2;refine gjU 0 (fun(_:Unit)=>let (y_0,y_1,y_2):=x2; ⟨[(2,.pb 0 0),(4,.pb 1 0)],[(0,.box 1 [.d (.u y_0),.d (.u y_1),.d (.u y_2)] 187),(1,.box 0 [.d (.u 0),.d (.u 0)] 84)],[],2⟩) (fun _=>True) (fun Jp bk1=> ?_) fun _ _=> ?_
  ·refine gjU 0 (fun(_:Unit)=>let (y_0,y_1,y_2):=x3; ⟨[(2,.pb 0 0),(4,.pb 1 0)],[(0,.box 1 [.d (.u y_0),.d (.u y_1),.d (.u y_2)] 187),(1,.box 0 [.d (.u 0),.d (.u 0)] 84)],[],2⟩) (fun _=>True) (fun Jp bk2=> ?_) fun _ _=> ?_
   ·refine gl hd (fun(p:Nat×(Int×UInt64×UInt64×UInt64))=>let (p0,p_0,p_1,p_2,p_3):=p; ⟨[(2,.pb 0 0),(3,.ow 1),(4,.pb 2 0),(5,.d (.i p_0))],[(0,.box 2 [.d (.u p_1),.d (.u p_2),.d (.u p_3)] 187),(1,.row 1 1 _ eU x1),(2,.box 0 [.d (.u 0),.d (.u 0)] 84)],[],3⟩) (fun p=>iter (BX x1) p.1 p.2=some x3) (fun p=>p.1) (AR,(0,0,0,(toU (a0.length:Int)))) q3 ?_;rintro⟨n1,s1⟩ q4 Jl bl1;cases n1 with
    |zero=>exact(An q4).elim
    |succ n1=>
     obtain⟨y1,q6,q5⟩:=Am q4;unfold BX at q6;refine gi q6 (fun hc1 q6=> ?_) fun hc1 q6=> ?_
     ·skip;obtain⟨x5,q8,q6⟩:=Aa q6;refine gj (fun(_:Unit)=>⟨[(2,.pb 0 0),(3,.ow 1),(4,.pb 2 0),(5,.d (.i s1.1))],[(0,.box 2 [.d (.u x5),.d (.u s1.2.2.1),.d (.u s1.2.2.2)] 187),(1,.row 1 1 _ eU x1),(2,.box 0 [.d (.u 0),.d (.u 0)] 84)],[],3⟩) (fun _=>True) (fun Jp bk3=> ?_) fun _ _=> ?_
      ·refine gi q8 (fun hc2 q8=> ?_) fun hc2 q8=> ?_
       ·obtain⟨x6,q9,q8⟩:=Aa q8;refine Rk (E:=eU) (fun _=>q9) ?_;refine Aco (k:=1) (fo:=0) (nn:=1) (ag:=false) (E:=eU) (fun _=>rfl) (fun _=>q9) ?_;obtain⟨x7,q10,q8⟩:=Aa q8;refine gc (fun _=>H2 q10) ?_;have e0:=Option.some.inj q8;subst e0;exact gb bk3 hd () trivial
       have e0:=Option.some.inj q8;subst e0;exact gb bk3 hd () trivial
      obtain⟨x8,q11,q6⟩:=Aa q6;refine gj (fun(_:Unit)=>⟨[(2,.pb 0 0),(3,.ow 1),(4,.pb 2 0),(5,.d (.i s1.1))],[(0,.box 2 [.d (.u x5),.d (.u x8),.d (.u s1.2.2.2)] 187),(1,.row 1 1 _ eU x1),(2,.box 0 [.d (.u 0),.d (.u 0)] 84)],[],3⟩) (fun _=>True) (fun Jp bk4=> ?_) fun _ _=> ?_
      ·refine gi q11 (fun hc3 q11=> ?_) fun hc3 q11=> ?_
       ·obtain⟨x9,q12,q11⟩:=Aa q11;refine Rk (E:=eU) (fun _=>q12) ?_;refine Aco (k:=1) (fo:=0) (nn:=1) (ag:=false) (E:=eU) (fun _=>rfl) (fun _=>q12) ?_;obtain⟨x10,q13,q11⟩:=Aa q11;refine gc (fun _=>H2 q13) ?_;have e0:=Option.some.inj q11;subst e0;exact gb bk4 hd () trivial
       have e0:=Option.some.inj q11;subst e0;exact gb bk4 hd () trivial
      obtain⟨x11,q14,q6⟩:=Aa q6;refine gc (fun _=>Tw q14) ?_;have e0:=Option.some.inj q6;subst e0;rcases q5 with ⟨sn,e,q5'⟩|e
      ·have e:=Sum.inl.inj e;subst e;exact gb bl1 hd (n1,_) ⟨q5',Nat.lt_succ_self _⟩
      cases AM e
     have e0:=Option.some.inj q6;subst e0;rcases q5 with ⟨sn,e,_⟩|e
     ·cases Bv e
     have e:=Sum.inr.inj e;subst e;exact gb bk2 hd () trivial
   have e0:=Option.some.inj q2;subst e0;exact gb bk1 hd () trivial
  have e0:=Option.some.inj hm;subst e0;exact Aq hd
def Dn (a0:UInt64)(s1:(List UInt8)×Int):Option (((List UInt8)×Int)⊕((List UInt8))):=if(decide (s1.2≥0))=true then Ac (app 1 s1.1 ([(toB ((Dj a0 ((toU (w64 (8*s1.2))).toNat)).toNat:Int))]:List UInt8)) fun x4=>some (.inl (x4,(w64 (s1.2-1))))else some (.inr s1.1)
def Gy (a0:UInt64):Option (List UInt8):=Ac (Ac (iter (Dn a0) AR (([]:List UInt8),7)) fun x2=>some x2) fun x1=>some x1
theorem Qp {a0:UInt64}{r:List UInt8}(hm:Gy a0=some r):Sp prog 207 [.d (.u a0)] [] 0 (is (.ow 0) [.row 0 1 _ eB r] 1):=
 sp call207 func207 rfl ntmps207 rfl fun D0 As η0 m0 hd=>by
  unfold Gy at hm;obtain⟨x1,q1,hm⟩:=Aa hm;obtain⟨x2,q2,q1⟩:=Aa q1;refine V9 0 eB 3 1 ?_;refine gjU 0 (fun(_:Unit)=>⟨[(3,.ow 0)],[(0,.row 0 1 _ eB x1)],[],1⟩) (fun _=>True) (fun Jp bk1=> ?_) fun _ _=> ?_
  ·refine gjU 0 (fun(_:Unit)=>⟨[(3,.ow 0)],[(0,.row 0 1 _ eB x2)],[],1⟩) (fun _=>True) (fun Jp bk2=> ?_) fun _ _=> ?_
   ·refine gl hd (fun(p:Nat×((List UInt8)×Int))=>let (p0,p_0,p_1):=p; ⟨[(0,.d (.u a0)),(3,.ow 0),(4,.d (.i p_1))],[(0,.row 0 1 _ eB p_0)],[],1⟩) (fun p=>iter (Dn a0) p.1 p.2=some x2) (fun p=>p.1) (AR,(([]:List UInt8),7)) q2 ?_;rintro⟨n1,s1⟩ q3 Jl bl1;cases n1 with
    |zero=>exact(An q3).elim
    |succ n1=>
     obtain⟨y1,q5,q4⟩:=Am q3;unfold Dn at q5;refine gi q5 (fun hc1 q5=> ?_) fun hc1 q5=> ?_
     ·skip;refine Fc (k:=1) eB ([(toB ((Dj a0 ((toU (w64 (8*s1.2))).toNat)).toNat:Int))]:List UInt8) (fun _=>rfl) ?_;obtain⟨x4,q7,q5⟩:=Aa q5;refine KZ (k:=1) (E:=eB) (fun _=>rfl) q7 ?_;have e0:=Option.some.inj q5;subst e0;rcases q4 with ⟨sn,e,q4'⟩|e
      ·have e:=Sum.inl.inj e;subst e;exact gb bl1 hd (n1,_) ⟨q4',Nat.lt_succ_self _⟩
      cases AM e
     have e0:=Option.some.inj q5;subst e0;rcases q4 with ⟨sn,e,_⟩|e
     ·cases Bv e
     have e:=Sum.inr.inj e;subst e;exact gb bk2 hd () trivial
   have e0:=Option.some.inj q1;subst e0;exact gb bk1 hd () trivial
  have e0:=Option.some.inj hm;subst e0;exact Aq hd
def Dp (a1:List (List UInt8))(s1:(List UInt8)×Int):Option (((List UInt8)×Int)⊕((List UInt8))):=if(decide (s1.2<(a1.length:Int)))=true then Ac (idx a1 s1.2) fun x5=>Ac (Gy (toU (x5.length:Int))) fun x6=>Ac (cut x6 4 (x6.length:Int)) fun x7=>Ac (app 1 s1.1 x7) fun x8=>Ac (idx a1 s1.2) fun x9=>Ac (app 1 x8 x9) fun x10=>some (.inl (x10,(w64 (s1.2+1))))else some (.inr s1.1)
def HO (a0:ByteArray)(a1:List (List UInt8)):Option (List UInt8):=Ac (app 1 ([(toB (a0.size:Int))]:List UInt8) a0.data.toList) fun x1=>Ac (Ac (iter (Dp a1) AR (x1,0)) fun x3=>some x3) fun x2=>some x2
theorem Qq {a0:ByteArray}{a1:List (List UInt8)}{r:List UInt8}(hm:HO a0 a1=some r):Sp prog 177 [.d (.s a0),sl (eL eB) a1] [] 0 (is (.ow 0) [.row 0 1 _ eB r] 1):=
 sp call177 func177 rfl ntmps177 rfl fun D0 As η0 m0 hd=>by
  unfold HO at hm;refine Wb (k:=1) eB ([(toB (a0.size:Int))]:List UInt8) (fun _=>rfl) ?_;obtain⟨x1,q1,hm⟩:=Aa hm;refine gapS q1 ?_;obtain⟨x2,q2,hm⟩:=Aa hm;obtain⟨x3,q3,q2⟩:=Aa q2;refine gjU 0 (fun(_:Unit)=>⟨[(5,.ow 0)],[(0,.row 0 1 _ eB x2)],[],1⟩) (fun _=>True) (fun Jp bk1=> ?_) fun _ _=> ?_
  ·refine gjU 0 (fun(_:Unit)=>⟨[(5,.ow 0)],[(0,.row 0 1 _ eB x3)],[],1⟩) (fun _=>True) (fun Jp bk2=> ?_) fun _ _=> ?_
   ·refine gl hd (fun(p:Nat×((List UInt8)×Int))=>let (p0,p_0,p_1):=p; ⟨[(1,sl (eL eB) a1),(5,.ow 0),(6,.d (.i p_1))],[(0,.row 0 1 _ eB p_0)],[],1⟩) (fun p=>iter (Dp a1) p.1 p.2=some x3) (fun p=>p.1) (AR,(x1,0)) q3 ?_;rintro⟨n1,s1⟩ q4 Jl bl1;cases n1 with
    |zero=>exact(An q4).elim
    |succ n1=>
     obtain⟨y1,q6,q5⟩:=Am q4;unfold Dp at q6;refine gi q6 (fun hc1 q6=> ?_) fun hc1 q6=> ?_
     ·skip;obtain⟨x5,q8,q6⟩:=Aa q6;refine Ga (k:=1) (E:=(eL eB)) (fun _=>rfl) (fun _=>q8) ?_;obtain⟨x6,q9,q6⟩:=Aa q6;refine gco (Qp q9) ?_;obtain⟨x7,q10,q6⟩:=Aa q6;refine gcutF (k:=1) (E:=eB) (fun _=>rfl) q10 ?_;obtain⟨x8,q11,q6⟩:=Aa q6;refine KZ (k:=1) (E:=eB) (fun _=>rfl) q11 ?_;obtain⟨x9,q12,q6⟩:=Aa q6;refine Ga (k:=1) (E:=(eL eB)) (fun _=>rfl) (fun _=>q12) ?_;obtain⟨x10,q13,q6⟩:=Aa q6;refine KZ (k:=1) (E:=eB) (fun _=>rfl) q13 ?_;have e0:=Option.some.inj q6;subst e0;rcases q5 with ⟨sn,e,q5'⟩|e
      ·have e:=Sum.inl.inj e;subst e;exact gb bl1 hd (n1,_) ⟨q5',Nat.lt_succ_self _⟩
      cases AM e
     have e0:=Option.some.inj q6;subst e0;rcases q5 with ⟨sn,e,_⟩|e
     ·cases Bv e
     have e:=Sum.inr.inj e;subst e;exact gb bk2 hd () trivial
   have e0:=Option.some.inj q2;subst e0;exact gb bk1 hd () trivial
  have e0:=Option.some.inj hm;subst e0;exact Aq hd
def FF (a0:ByteArray)(a1:List (List UInt8)):Option (UInt64×UInt64):=Ac (HO a0 a1) fun x1=>Ac (Ik x1) fun x2=>some x2
theorem O8 {a0:ByteArray}{a1:List (List UInt8)}{r:UInt64×UInt64}(hm:FF a0 a1=some r):Sf prog 127 [.d (.s a0),sl (eL eB) a1] (ag (Ku r)):=
 sp call127 func127 rfl ntmps127 rfl fun D0 As η0 m0 hd=>by
  unfold FF at hm;obtain⟨x1,q1,hm⟩:=Aa hm;refine gco (Qq q1) ?_;obtain⟨x2,q2,hm⟩:=Aa hm;refine gco (Tu q2) ?_;have e0:=Option.some.inj hm;subst e0;exact Aq hd
def Et (s1:UInt64×Int×(List UInt8)):Option ((UInt64×Int×(List UInt8))⊕((List UInt8))):=if(decide (s1.2.1≥0))=true then Ac (idx s1.2.2 s1.2.1) fun x4=>bnd (s1.2.2.set s1.2.1.toNat (toB ((s1.1%256).toNat:Int))) fun x5=>some (.inl ((s1.1/256),(w64 (s1.2.1-1)),x5))else some (.inr s1.2.2)
def Eb (a0:UInt64):Option (List UInt8):=Ac (Ac (iter Et AR (a0,7,(List.replicate 8 (0:UInt8)))) fun x2=>some x2) fun x1=>some x1
theorem Qm {m:Mem}{As:List Ow}{w:World}{a0:UInt64}{r:List UInt8}(S:St m (As) w)(hm:Eb a0=some r):
  AB Tryz.prog 128 #[vU a0] w fun v w'=> ∃(M:Mem),m≤M∧∃(rv0:Value) (rc0:List Value),St M ((row 1 rv0 rc0 r.length)::As) w'∧v=rv0∧BK M rc0 r:=by
 unfold Eb at hm;have L0:=Mem.rfl' m;refine C9 (args:=[vU a0]) Tryz.func128 rfl Tryz.ntmps128 (Nat.le_of_ble_eq_true rfl) ?_;refine Ag ?_;refine Ae ?_;refine A4 (v:= .slice none 0 0) rfl ?_;refine Ah ?_;refine nrm ?_;refine Ag ?_;refine Ae ?_;refine s_mk1 (k:=8) (x0:=(0:UInt8)) (bytes:=1) (ti:=Tryz.t5) S rfl rfl ⟨by decide,by decide,by decide⟩ Tryz.underlying52 Tryz.type5 rfl rfl rfl rfl rfl ?_;intro v1 c1 w1 S1 h1;replace S1:St _ ((row 1 v1 c1 (List.replicate 8 (0:UInt8)).length)::As) _:=S1;clear S;refine A4 (v:=v1) rfl ?_;refine Ah ?_;refine nrm ?_;obtain⟨x1,q1,hm⟩:=Aa hm;have L1:=Mem.rfl' m;refine Ag ?_;refine A8 [0,4,6,7,8,9,10,11,12,13,14,15,16,17] (fun f' w'=> ∃(M1:Mem) (c2:List Value),m≤M1∧St M1 ((row 1 v1 c2 x1.length)::As) w'∧BK M1 c2 x1∧Cl f' []) ?_ ?_
 ·refine Ag ?_;refine Ae ?_;refine A4 (v:=vI 7) rfl ?_;refine Ah ?_;refine nrm ?_;obtain⟨x2,q2,q1⟩:=Aa q1;have L2:=Mem.rfl' m;refine A8 [0,4,6,7,8,9,10,11,12,13,14,15,16,17] (fun f' w'=> ∃(M2:Mem) (c4:List Value),m≤M2∧St M2 ((row 1 v1 c4 x2.length)::As) w'∧BK M2 c4 x2∧Cl f' []) ?_ ?_
  ·refine Az ?_;refine B4 [0,4,6,7,8,9,10,11,12,13,14,15,16,17] (fun n1 f' w'=> ∃(s1:UInt64×Int×(List UInt8)) (m2:Mem) (c3:List Value),iter Et n1 s1=some x2∧m≤m2∧St m2 ((row 1 v1 c3 s1.2.2.length)::As) w'∧BK m2 c3 s1.2.2∧Cl f' [(0,vU s1.1),(4,vI s1.2.1)]) AR ⟨(a0,7,(List.replicate 8 (0:UInt8))),m,_,q2,L2,S1,h1,⟨rfl,rfl,trivial⟩⟩ ?_;rintro n1 f1 w2 ho ⟨s1,m1,c3,q3,L4,S2,h3,ha⟩;obtain⟨u1,rfl⟩:=B3 (N:=19) ho ha;clear ho ha;have L3:=Mem.rfl' m1;clear S1;cases n1 with
   |zero=>exact(An q3).elim
   |succ n1=>
    obtain⟨y1,q5,q4⟩:=Am q3;unfold Et at q5;refine Ag ?_;refine Ag ?_;refine Ae ?_;refine Ar (v:=vI s1.2.1) rfl ?_;refine Zr (m:=s1.2.1) (n:=0) rfl rfl ?_;refine Ah ?_;refine nrm ?_;refine Cz (t:=(decide (s1.2.1≥0))) rfl (fun hc1=> ?_) (fun hc1=> ?_)
    ·replace q5:=ifT hc1 q5;refine A6 ?_;refine nrm ?_;refine Ag ?_;refine Az ?_;refine Ag ?_;refine Ae ?_;refine Ar (v:=v1) rfl ?_;refine Ar (v:=vI s1.2.1) rfl ?_;refine Ar (v:=vU s1.1) rfl ?_;refine Aas (m:=s1.1) (n:=256) rfl rfl (by decide) ?_;refine QT rfl Tryz.underlying22 Tryz.underlying5 ?_;obtain⟨x4,q7,q5⟩:=Aa q5;refine Aaw (i:=0) (j:=s1.2.1) S2 rfl rfl rfl (CS q7).1 (CS q7).2 Tryz.underlying52 Tryz.sizeOf5 ?_;intro p1 h5;obtain⟨x5,q8,q5⟩:=CU q5;refine WV (i:=0) (j:=s1.2.1) (z:=(toB ((s1.1%256).toNat:Int))) S2 rfl rfl h5 rfl h3 q7 Tryz.sizeOf5 (Jo rfl MD) rfl ?_;intro w3 c5 S3 h6;rw[←q8]at S3 h6;replace S3:St _ ((row 1 v1 c5 x5.length)::As) _:=S3;clear S2;refine Ah ?_;refine nrm ?_;refine Ae ?_;refine Ar (v:=vU s1.1) rfl ?_;refine Aat (m:=s1.1) (n:=256) rfl rfl (by decide) ?_;refine A4 (v:=vU (s1.1/256)) rfl ?_;refine Ah ?_;refine MF ?_;refine nrm ?_;refine Ae ?_;refine Ar (v:=vI s1.2.1) rfl ?_;refine M6 (m:=s1.2.1) (n:=1) rfl rfl ?_;refine A4 (v:=vI (w64 (s1.2.1-1))) rfl ?_;refine Ah ?_;refine nrm ?_;have e0:=Option.some.inj q5;subst e0;rcases q4 with ⟨sn,e,q4'⟩|e
     ·cases e;exact⟨FI,_,Nat.lt_succ_self _,⟨_,m1,_,q4',Mem.tr L4 L3,S3,h6,⟨rfl,rfl,trivial⟩⟩⟩
     ·cases e
    replace q5:=ifF hc1 q5;refine CV ?_;refine thE ?_;refine thE ?_;refine exB ?_;refine nrm ?_;have e0:=Option.some.inj q5;subst e0;rcases q4 with ⟨sn,e,_⟩|e
    ·cases e
    ·cases e;exact⟨FI,m1,_,Mem.tr L4 L3,S2,h3,trivial⟩
  rintro f2 w4 ho ⟨m3,c4,l1,S4,h4,ha⟩;obtain⟨u2,rfl⟩:=B3 (N:=19) ho ha;clear ho ha;replace L1:=Mem.tr L1 l1;clear S1;have e0:=Option.some.inj q1;subst e0;exact⟨FI,m3,_,L1,S4,h4,trivial⟩
 rintro f3 w5 ho ⟨m4,c2,l2,S5,h2,ha⟩;obtain⟨u3,rfl⟩:=B3 (N:=19) ho ha;replace L0:=Mem.tr L0 l2;clear S1;refine Ag ?_;refine Ae ?_;refine Ar (v:=v1) rfl ?_;refine A4 (v:=v1) rfl ?_;refine Ah ?_;refine nrm ?_;refine Bw ?_;refine EE ?_;intro we hpd;replace S5:=St.pd S5 hpd;have e0:=Option.some.inj hm;subst e0;exact IW [_] rfl ⟨rfl,trivial⟩ ⟨_,L0,_,_,S5,rfl,h2⟩
theorem LN {a0:UInt64}{r:List UInt8}(hm:Eb a0=some r):Sp prog 128 [.d (.u a0)] [] 0 (is (.ow 0) [.row 0 1 _ eB r] 1):=
 ⟨call128,fun η m As w vs hv0 hd S=>by
  have S:St m As w:=S;obtain⟨v0,u0,rfl,r0,hv1⟩:=BB.cons_inv hv0;obtain rfl:=r0.u_inv;obtain rfl:=BB.nil_inv hv1;refine AB.mono (Qm S hm) ?_;rintro v w' ⟨M,hle,y0,c0,S0,rfl,h0⟩;exact⟨M,(AaZ [v]),_,_,_,hle,Un hd _,⟨rfl,rfl,rfl⟩,JL rfl,(.ow rfl (EC S0)),(St.impL S0 (AbA (Br.toR Br.b rfl rfl (EC S0) h0) fun _ h=>h))⟩⟩
def Cv (a0:UInt64)(a1:UInt64)(a2:List UInt8):Option UInt64:=Ac (Eb a0) fun x1=>Ac (Eb a1) fun x2=>Ac (FF (⟨#[115,105,103,110]⟩:ByteArray) ([x1,x2,a2]:List (List UInt8))) fun x3=>Ac (Il x3 1152921504606845789) fun x4=>some x4
theorem Mn {a0:UInt64}{a1:UInt64}{a2:List UInt8}{r:UInt64}(hm:Cv a0 a1 a2=some r):Sf prog 75 [.d (.u a0),.d (.u a1),sl eB a2] (.d (.u r)):=
 sp call75 func75 rfl ntmps75 rfl fun D0 As η0 m0 hd=>by
  unfold Cv at hm;obtain⟨x1,q1,hm⟩:=Aa hm;refine gco (LN q1) ?_;obtain⟨x2,q2,hm⟩:=Aa hm;refine gco (LN q2) ?_;refine Wa (k:=1) (eL eB) ([x1,x2,a2]:List (List UInt8)) (fun _=>rfl) ?_;obtain⟨x3,q3,hm⟩:=Aa hm;refine gc (fun _=>O8 q3) ?_;obtain⟨x4,q4,hm⟩:=Aa hm;refine gc (fun _=>Tv q4) ?_;have e0:=Option.some.inj hm;subst e0;exact Aq hd
def Gx (a0:UInt64)(a1:List UInt8)(a2:g_api_Sig):Option Int:=Ac (Jg a0) fun x1=>if(!x1)=true then some 1 else if((decide ((a2.E.toNat:Int)≥1152921504606845789))||(decide ((a2.S.toNat:Int)≥1152921504606845789)))=true then some 40 else Ac (E1 a2.S) fun x2=>Ac (Hc a0 (1152921504606845789-a2.E)) fun x3=>Ac (Hd x2 x3) fun x4=>Ac (Cv x4 a0 a1) fun x5=>if((x5.toNat:Int) !=(a2.E.toNat:Int))=true then some 40 else some 0
theorem Qn {a0:UInt64}{a1:List UInt8}{a2:g_api_Sig}{r:Int}(hm:Gx a0 a1 a2=some r):Sf prog 32 [.d (.u a0),sl eB a1,ag (Ix a2)] (.d (.i r)):=
 sp call32 func32 rfl ntmps32 rfl fun D0 As η0 m0 hd=>by
  unfold Gx at hm;obtain⟨x1,q1,hm⟩:=Aa hm;refine gc (fun _=>VH q1) ?_;refine gi hm (fun hc1 hm=> ?_) fun hc1 hm=> ?_
  ·skip;have e0:=Option.some.inj hm;subst e0;exact Aq hd
  refine gi hm (fun hc2 hm=> ?_) fun hc2 hm=> ?_
  ·skip;have e0:=Option.some.inj hm;subst e0;exact Aq hd
  obtain⟨x2,q2,hm⟩:=Aa hm;refine gc (fun _=>RX q2) ?_;obtain⟨x3,q3,hm⟩:=Aa hm;refine gc (fun _=>Ts q3) ?_;obtain⟨x4,q4,hm⟩:=Aa hm;refine gc (fun _=>Tt q4) ?_;obtain⟨x5,q5,hm⟩:=Aa hm;refine gc (fun _=>Mn q5) ?_;refine gi hm (fun hc3 hm=> ?_) fun hc3 hm=> ?_
  ·skip;have e0:=Option.some.inj hm;subst e0;exact Aq hd
  have e0:=Option.some.inj hm;subst e0;exact Aq hd
def ET (a0:g_api_Cert)(a1:g_api_Cert):Option Int:=Ac (Dz a0) fun x1=>Ac (if(x1==0)=true then Ac (Dz a1) fun x3=>some x3 else some x1) fun x2=>if(x2 !=0)=true then some x2 else if((!a1.Ca)||(!eqS a1.Subject a0.Issuer))=true then some 191 else Ac (Ht a0) fun x4=>Ac (Gx a1.Key x4.1 a0.Sig) fun x5=>if(x5 !=0)=true then some 40 else some 0
theorem MM {a0:g_api_Cert}{a1:g_api_Cert}{r:Int}(hm:ET a0 a1=some r):Sf prog 14 [ag (Ad a0),ag (Ad a1)] (.d (.i r)):=
 sp call14 func14 rfl ntmps14 rfl fun D0 As η0 m0 hd=>by
  unfold ET at hm;obtain⟨x1,q1,hm⟩:=Aa hm;refine gc (fun _=>HH q1) ?_;obtain⟨x2,q2,hm⟩:=Aa hm;refine gj (fun(_:Unit)=>⟨[(2,.pb 0 0),(3,.pb 1 0),(5,.d (.i x2))],[(0,.box 1 [.d (.i a1.Serial),.d (.s a1.Issuer),.d (.s a1.Subject),.d (.u a1.Key),sl eS a1.Names,.d (.i a1.From),.d (.i a1.Until),.d (.t a1.Ca),.d (.i a1.Depth),sl eS a1.Permit,sl Ai a1.Proms,.d (.u a1.Sig.E),.d (.u a1.Sig.S)] 28),(1,.box 0 [.d (.i a0.Serial),.d (.s a0.Issuer),.d (.s a0.Subject),.d (.u a0.Key),sl eS a0.Names,.d (.i a0.From),.d (.i a0.Until),.d (.t a0.Ca),.d (.i a0.Depth),sl eS a0.Permit,sl Ai a0.Proms,.d (.u a0.Sig.E),.d (.u a0.Sig.S)] 28)],[],2⟩) (fun _=>True) (fun Jp bk1=> ?_) fun _ _=> ?_
  ·refine gi q2 (fun hc1 q2=> ?_) fun hc1 q2=> ?_
   ·obtain⟨x3,q3,q2⟩:=Aa q2;refine gc (fun _=>HH q3) ?_;have e0:=Option.some.inj q2;subst e0;exact gb bk1 hd () trivial
   have e0:=Option.some.inj q2;subst e0;exact gb bk1 hd () trivial
  refine gi hm (fun hc2 hm=> ?_) fun hc2 hm=> ?_
  ·skip;have e0:=Option.some.inj hm;subst e0;exact Aq hd
  refine gi hm (fun hc3 hm=> ?_) fun hc3 hm=> ?_
  ·skip;have e0:=Option.some.inj hm;subst e0;exact Aq hd
  obtain⟨x4,q4,hm⟩:=Aa hm;refine gco (RS q4) ?_;obtain⟨x5,q5,hm⟩:=Aa hm;refine gco (Qn q5) ?_;refine gi hm (fun hc4 hm=> ?_) fun hc4 hm=> ?_
  ·skip;have e0:=Option.some.inj hm;subst e0;exact Aq hd
  have e0:=Option.some.inj hm;subst e0;exact Aq hd
def Gt (a0:ByteArray):Option Int:=Ac (CE a0) fun x1=>if(!x1)=true then some 110 else some 0
theorem Qi {a0:ByteArray}{r:Int}(hm:Gt a0=some r):Sf prog 39 [.d (.s a0)] (.d (.i r)):=
 sp call39 func39 rfl ntmps39 rfl fun D0 As η0 m0 hd=>by
  unfold Gt at hm;obtain⟨x1,q1,hm⟩:=Aa hm;refine gc (fun _=>F0 q1) ?_;refine gi hm (fun hc1 hm=> ?_) fun hc1 hm=> ?_
  ·skip;have e0:=Option.some.inj hm;subst e0;exact Aq hd
  have e0:=Option.some.inj hm;subst e0;exact Aq hd
def Dy (a0:List g_api_Cert)(s1:Int):Option ((Int)⊕((Unit)⊕Int)):=if(decide (s1<(a0.length:Int)))=true then Ac (idx a0 s1) fun x3=>Ac (Dz x3) fun x4=>if(x4 !=0)=true then some (.inr (.inr x4))else some (.inl (w64 (s1+1)))else some (.inr (.inl ()))
def DV (a0:List g_api_Cert):Option Int:=Ac (iter (Dy a0) AR 0) fun x1=>match x1 with| .inr r=>some r| .inl y1=>some 0
theorem JX {a0:List g_api_Cert}{r:Int}(hm:DV a0=some r):Sf prog 40 [sl Ad a0] (.d (.i r)):=
 sp call40 func40 rfl ntmps40 rfl fun D0 As η0 m0 hd=>by
  unfold DV at hm;obtain⟨x1,q1,hm⟩:=Aa hm;refine gjU 0 (fun(y1:Unit)=>⟨[],[],[],0⟩) (fun y1=>x1= .inl y1) (fun Jp bk1=> ?_) fun y1 hy=> ?_
  ·refine gl hd (fun(p:Nat×(Int))=>let (p0,p_0):=p; ⟨[(0,sl Ad a0),(3,.d (.i p_0))],[],[],0⟩) (fun p=>iter (Dy a0) p.1 p.2=some x1) (fun p=>p.1) (AR,0) q1 ?_;rintro⟨n1,s1⟩ q2 Jl bl1;cases n1 with
   |zero=>exact(An q2).elim
   |succ n1=>
    obtain⟨y2,q4,q3⟩:=Am q2;unfold Dy at q4;refine gi q4 (fun hc1 q4=> ?_) fun hc1 q4=> ?_
    ·skip;obtain⟨x3,q6,q4⟩:=Aa q4;refine Ga (k:=13) (E:=Ad) (fun _=>rfl) (fun _=>q6) ?_;obtain⟨x4,q7,q4⟩:=Aa q4;refine gc (fun _=>HH q7) ?_;refine gi q4 (fun hc2 q4=> ?_) fun hc2 q4=> ?_
     ·skip;cases q4;rcases q3 with ⟨sn,e,_⟩|e
      ·cases e
      cases e;dsimp only at hm;have e0:=Option.some.inj hm;subst e0;exact Aq hd
     have e0:=Option.some.inj q4;subst e0;rcases q3 with ⟨sn,e,q3'⟩|e
     ·have e:=Sum.inl.inj e;subst e;exact gb bl1 hd (n1,_) ⟨q3',Nat.lt_succ_self _⟩
     cases AM e
    have e0:=Option.some.inj q4;subst e0;rcases q3 with ⟨sn,e,_⟩|e
    ·cases Bv e
    have e:=Sum.inr.inj e;subst e;exact gb bk1 hd () rfl
  subst hy;dsimp only at hm;have e0:=Option.some.inj hm;subst e0;exact Aq hd
def FB (a0:List ByteArray)(a1:ByteArray)(s1:Int):Option ((Int)⊕((Unit)⊕Bool)):=if(decide (s1<(a0.length:Int)))=true then Ac (idx a0 s1) fun x3=>if(eqS x3 a1)=true then some (.inr (.inr true))else some (.inl (w64 (s1+1)))else some (.inr (.inl ()))
def Ic (a0:List ByteArray)(a1:ByteArray):Option Bool:=Ac (iter (FB a0 a1) AR 0) fun x1=>match x1 with| .inr r=>some r| .inl y1=>some false
theorem To {a0:List ByteArray}{a1:ByteArray}{r:Bool}(hm:Ic a0 a1=some r):Sf prog 41 [sl eS a0,.d (.s a1)] (.d (.t r)):=
 sp call41 func41 rfl ntmps41 rfl fun D0 As η0 m0 hd=>by
  unfold Ic at hm;obtain⟨x1,q1,hm⟩:=Aa hm;refine gjU 0 (fun(y1:Unit)=>⟨[],[],[],0⟩) (fun y1=>x1= .inl y1) (fun Jp bk1=> ?_) fun y1 hy=> ?_
  ·refine gl hd (fun(p:Nat×(Int))=>let (p0,p_0):=p; ⟨[(0,sl eS a0),(1,.d (.s a1)),(5,.d (.i p_0))],[],[],0⟩) (fun p=>iter (FB a0 a1) p.1 p.2=some x1) (fun p=>p.1) (AR,0) q1 ?_;rintro⟨n1,s1⟩ q2 Jl bl1;cases n1 with
   |zero=>exact(An q2).elim
   |succ n1=>
    obtain⟨y2,q4,q3⟩:=Am q2;unfold FB at q4;refine gi q4 (fun hc1 q4=> ?_) fun hc1 q4=> ?_
    ·skip;obtain⟨x3,q6,q4⟩:=Aa q4;refine Ga (k:=1) (E:=eS) (fun _=>rfl) (fun _=>q6) ?_;refine gi q4 (fun hc2 q4=> ?_) fun hc2 q4=> ?_
     ·skip;cases q4;rcases q3 with ⟨sn,e,_⟩|e
      ·cases e
      cases e;dsimp only at hm;have e0:=Option.some.inj hm;subst e0;exact Aq hd
     have e0:=Option.some.inj q4;subst e0;rcases q3 with ⟨sn,e,q3'⟩|e
     ·have e:=Sum.inl.inj e;subst e;exact gb bl1 hd (n1,_) ⟨q3',Nat.lt_succ_self _⟩
     cases AM e
    have e0:=Option.some.inj q4;subst e0;rcases q3 with ⟨sn,e,_⟩|e
    ·cases Bv e
    have e:=Sum.inr.inj e;subst e;exact gb bk1 hd () rfl
  subst hy;dsimp only at hm;have e0:=Option.some.inj hm;subst e0;exact Aq hd
def Hl (a0:g_api_Cert)(a1:Int):Option Bool:=bnd (((decide (a0.From≤a1))&&(decide (a1<a0.Until)))) fun x1=>some x1
theorem KR {a0:g_api_Cert}{a1:Int}{r:Bool}(hm:Hl a0 a1=some r):Sf prog 42 [ag (Ad a0),.d (.i a1)] (.d (.t r)):=
 sp call42 func42 rfl ntmps42 rfl fun D0 As η0 m0 hd=>by
  unfold Hl at hm;have hm:=AO hm;let x1:Bool:=(((decide (a0.From≤a1))&&(decide (a1<a0.Until))));have e0:=Option.some.inj hm;subst e0;exact Aq hd
def DB (a0:ByteArray)(s1:Int):Option ((Int)⊕((Unit)⊕ByteArray)):=if(decide (s1<(a0.size:Int)))=true then Ac (idx a0.data.toList s1) fun x4=>if((x4.toNat:Int)==46)=true then Ac (KP a0 (w64 (s1+1)) (a0.size:Int)) fun x5=>some (.inr (.inr x5))else some (.inl (w64 (s1+1)))else some (.inr (.inl ()))
def Jf (a0:ByteArray):Option ByteArray:=Ac (CE a0) fun x1=>if(!x1)=true then some (⟨#[]⟩:ByteArray)else Ac (iter (DB a0) AR 0) fun x2=>match x2 with| .inr r=>some r| .inl y1=>some (⟨#[]⟩:ByteArray)
theorem VG {a0:ByteArray}{r:ByteArray}(hm:Jf a0=some r):Sf prog 208 [.d (.s a0)] (.d (.s r)):=
 sp call208 func208 rfl ntmps208 rfl fun D0 As η0 m0 hd=>by
  unfold Jf at hm;obtain⟨x1,q1,hm⟩:=Aa hm;refine gc (fun _=>F0 q1) ?_;refine gi hm (fun hc1 hm=> ?_) fun hc1 hm=> ?_
  ·skip;have e0:=Option.some.inj hm;subst e0;exact Aq hd
  obtain⟨x2,q2,hm⟩:=Aa hm;refine gjU 0 (fun(y1:Unit)=>⟨[],[],[],0⟩) (fun y1=>x2= .inl y1) (fun Jp bk1=> ?_) fun y1 hy=> ?_
  ·refine gl hd (fun(p:Nat×(Int))=>let (p0,p_0):=p; ⟨[(0,.d (.s a0)),(3,.d (.i p_0))],[],[],0⟩) (fun p=>iter (DB a0) p.1 p.2=some x2) (fun p=>p.1) (AR,0) q2 ?_;rintro⟨n1,s1⟩ q3 Jl bl1;cases n1 with
   |zero=>exact(An q3).elim
   |succ n1=>
    obtain⟨y2,q5,q4⟩:=Am q3;unfold DB at q5;refine gi q5 (fun hc2 q5=> ?_) fun hc2 q5=> ?_
    ·skip;obtain⟨x4,q7,q5⟩:=Aa q5;refine SN (fun _=>q7) ?_;refine gi q5 (fun hc3 q5=> ?_) fun hc3 q5=> ?_
     ·skip;obtain⟨x5,q8,q5⟩:=Aa q5;refine Rm (fun _=>q8) ?_;cases q5;rcases q4 with ⟨sn,e,_⟩|e
      ·cases e
      cases e;dsimp only at hm;have e0:=Option.some.inj hm;subst e0;exact Aq hd
     have e0:=Option.some.inj q5;subst e0;rcases q4 with ⟨sn,e,q4'⟩|e
     ·have e:=Sum.inl.inj e;subst e;exact gb bl1 hd (n1,_) ⟨q4',Nat.lt_succ_self _⟩
     cases AM e
    have e0:=Option.some.inj q5;subst e0;rcases q4 with ⟨sn,e,_⟩|e
    ·cases Bv e
    have e:=Sum.inr.inj e;subst e;exact gb bk1 hd () rfl
  subst hy;dsimp only at hm;have e0:=Option.some.inj hm;subst e0;exact Aq hd
def Cp (a1:ByteArray)(s1:ByteArray):Option ((ByteArray)⊕((Unit)⊕Bool)):=if(!eqS s1 (⟨#[]⟩:ByteArray))=true then Ac (Jf s1) fun x3=>if((eqS x3 a1)&&(!eqS x3 (⟨#[]⟩:ByteArray)))=true then some (.inr (.inr true))else some (.inl x3)else some (.inr (.inl ()))
def Gr (a0:ByteArray)(a1:ByteArray):Option Bool:=Ac (iter (Cp a1) AR a0) fun x1=>match x1 with| .inr r=>some r| .inl y1=>some false
theorem Qg {a0:ByteArray}{a1:ByteArray}{r:Bool}(hm:Gr a0 a1=some r):Sf prog 181 [.d (.s a0),.d (.s a1)] (.d (.t r)):=
 sp call181 func181 rfl ntmps181 rfl fun D0 As η0 m0 hd=>by
  unfold Gr at hm;obtain⟨x1,q1,hm⟩:=Aa hm;refine gjU 0 (fun(y1:Unit)=>⟨[],[],[],0⟩) (fun y1=>x1= .inl y1) (fun Jp bk1=> ?_) fun y1 hy=> ?_
  ·refine gl hd (fun(p:Nat×(ByteArray))=>let (p0,p_0):=p; ⟨[(0,.d (.s p_0)),(1,.d (.s a1))],[],[],0⟩) (fun p=>iter (Cp a1) p.1 p.2=some x1) (fun p=>p.1) (AR,a0) q1 ?_;rintro⟨n1,s1⟩ q2 Jl bl1;cases n1 with
   |zero=>exact(An q2).elim
   |succ n1=>
    obtain⟨y2,q4,q3⟩:=Am q2;unfold Cp at q4;refine gi q4 (fun hc1 q4=> ?_) fun hc1 q4=> ?_
    ·skip;obtain⟨x3,q6,q4⟩:=Aa q4;refine gc (fun _=>VG q6) ?_;refine gi q4 (fun hc2 q4=> ?_) fun hc2 q4=> ?_
     ·skip;cases q4;rcases q3 with ⟨sn,e,_⟩|e
      ·cases e
      cases e;dsimp only at hm;have e0:=Option.some.inj hm;subst e0;exact Aq hd
     have e0:=Option.some.inj q4;subst e0;rcases q3 with ⟨sn,e,q3'⟩|e
     ·have e:=Sum.inl.inj e;subst e;exact gb bl1 hd (n1,_) ⟨q3',Nat.lt_succ_self _⟩
     cases AM e
    have e0:=Option.some.inj q4;subst e0;rcases q3 with ⟨sn,e,_⟩|e
    ·cases Bv e
    have e:=Sum.inr.inj e;subst e;exact gb bk1 hd () rfl
  subst hy;dsimp only at hm;have e0:=Option.some.inj hm;subst e0;exact Aq hd
def Gs (a0:ByteArray)(a1:ByteArray):Option Bool:=Ac (CE a1) fun x1=>if(!x1)=true then some false else Ac (D5 a0) fun x2=>if x2.2=true then Ac (Gr a1 x2.1) fun x3=>some x3 else some (eqS a0 a1)
theorem Qh {a0:ByteArray}{a1:ByteArray}{r:Bool}(hm:Gs a0 a1=some r):Sf prog 136 [.d (.s a0),.d (.s a1)] (.d (.t r)):=
 sp call136 func136 rfl ntmps136 rfl fun D0 As η0 m0 hd=>by
  unfold Gs at hm;obtain⟨x1,q1,hm⟩:=Aa hm;refine gc (fun _=>F0 q1) ?_;refine gi hm (fun hc1 hm=> ?_) fun hc1 hm=> ?_
  ·skip;have e0:=Option.some.inj hm;subst e0;exact Aq hd
  obtain⟨x2,q2,hm⟩:=Aa hm;refine gc (fun _=>MP q2) ?_;refine gi hm (fun hc2 hm=> ?_) fun hc2 hm=> ?_
  ·skip;obtain⟨x3,q3,hm⟩:=Aa hm;refine gc (fun _=>Qg q3) ?_;have e0:=Option.some.inj hm;subst e0;exact Aq hd
  have e0:=Option.some.inj hm;subst e0;exact Aq hd
def CM (a0:g_api_Cert)(a1:List ByteArray)(s1:Int)(s2:Bool×Int):Option ((Bool×Int)⊕(Bool)):=if(decide (s2.2<(a0.Permit.length:Int)))=true then Ac (gu (!s2.1) (idx a0.Permit s2.2)) fun x6=>Ac (gu (!s2.1) (idx a1 s1)) fun x7=>Ac (gu (!s2.1) (Gs x6 x7)) fun x8=>some (.inl ((s2.1||x8),(w64 (s2.2+1))))else some (.inr s2.1)
def CN (a0:g_api_Cert)(a1:List ByteArray)(s1:Int):Option ((Int)⊕((Unit)⊕Bool)):=if(decide (s1<(a1.length:Int)))=true then Ac (Ac (iter (CM a0 a1 s1) AR (false,0)) fun x4=>some x4) fun x3=>if(!x3)=true then some (.inr (.inr false))else some (.inl (w64 (s1+1)))else some (.inr (.inl ()))
def ES (a0:g_api_Cert)(a1:List ByteArray):Option Bool:=if((a0.Permit.length:Int)==0)=true then some true else Ac (iter (CN a0 a1) AR 0) fun x1=>match x1 with| .inr r=>some r| .inl y1=>some true
theorem NO {a0:g_api_Cert}{a1:List ByteArray}{r:Bool}(hm:ES a0 a1=some r):Sf prog 81 [ag (Ad a0),sl eS a1] (.d (.t r)):=
 sp call81 func81 rfl ntmps81 rfl fun D0 As η0 m0 hd=>by
  unfold ES at hm;refine gi hm (fun hc1 hm=> ?_) fun hc1 hm=> ?_
  ·skip;have e0:=Option.some.inj hm;subst e0;exact Aq hd
  obtain⟨x1,q1,hm⟩:=Aa hm;refine gjU 0 (fun(y1:Unit)=>⟨[(2,.pb 0 0)],[(0,.box 0 [.d (.i a0.Serial),.d (.s a0.Issuer),.d (.s a0.Subject),.d (.u a0.Key),sl eS a0.Names,.d (.i a0.From),.d (.i a0.Until),.d (.t a0.Ca),.d (.i a0.Depth),sl eS a0.Permit,sl Ai a0.Proms,.d (.u a0.Sig.E),.d (.u a0.Sig.S)] 28)],[],1⟩) (fun y1=>x1= .inl y1) (fun Jp bk1=> ?_) fun y1 hy=> ?_
  ·refine gl hd (fun(p:Nat×(Int))=>let (p0,p_0):=p; ⟨[(1,sl eS a1),(2,.pb 0 0),(5,.d (.i p_0))],[(0,.box 0 [.d (.i a0.Serial),.d (.s a0.Issuer),.d (.s a0.Subject),.d (.u a0.Key),sl eS a0.Names,.d (.i a0.From),.d (.i a0.Until),.d (.t a0.Ca),.d (.i a0.Depth),sl eS a0.Permit,sl Ai a0.Proms,.d (.u a0.Sig.E),.d (.u a0.Sig.S)] 28)],[],1⟩) (fun p=>iter (CN a0 a1) p.1 p.2=some x1) (fun p=>p.1) (AR,0) q1 ?_;rintro⟨n1,s1⟩ q2 Jl bl1;cases n1 with
   |zero=>exact(An q2).elim
   |succ n1=>
    obtain⟨y2,q4,q3⟩:=Am q2;unfold CN at q4;refine gi q4 (fun hc2 q4=> ?_) fun hc2 q4=> ?_
    ·skip;obtain⟨x3,q6,q4⟩:=Aa q4;obtain⟨x4,q7,q6⟩:=Aa q6;refine gjU 2 (fun(_:Unit)=>⟨[(1,sl eS a1),(2,.pb 0 0),(5,.d (.i s1)),(6,.d (.t x3))],[(0,.box 0 [.d (.i a0.Serial),.d (.s a0.Issuer),.d (.s a0.Subject),.d (.u a0.Key),sl eS a0.Names,.d (.i a0.From),.d (.i a0.Until),.d (.t a0.Ca),.d (.i a0.Depth),sl eS a0.Permit,sl Ai a0.Proms,.d (.u a0.Sig.E),.d (.u a0.Sig.S)] 28)],[],1⟩) (fun _=>True) (fun Jp bk2=> ?_) fun _ _=> ?_
     ·refine gjU 2 (fun(_:Unit)=>⟨[(1,sl eS a1),(2,.pb 0 0),(5,.d (.i s1)),(6,.d (.t x4))],[(0,.box 0 [.d (.i a0.Serial),.d (.s a0.Issuer),.d (.s a0.Subject),.d (.u a0.Key),sl eS a0.Names,.d (.i a0.From),.d (.i a0.Until),.d (.t a0.Ca),.d (.i a0.Depth),sl eS a0.Permit,sl Ai a0.Proms,.d (.u a0.Sig.E),.d (.u a0.Sig.S)] 28)],[],1⟩) (fun _=>True) (fun Jp bk3=> ?_) fun _ _=> ?_
      ·refine gl hd (fun(p:Nat×(Bool×Int))=>let (p0,p_0,p_1):=p; ⟨[(1,sl eS a1),(2,.pb 0 0),(5,.d (.i s1)),(6,.d (.t p_0)),(7,.d (.i p_1))],[(0,.box 0 [.d (.i a0.Serial),.d (.s a0.Issuer),.d (.s a0.Subject),.d (.u a0.Key),sl eS a0.Names,.d (.i a0.From),.d (.i a0.Until),.d (.t a0.Ca),.d (.i a0.Depth),sl eS a0.Permit,sl Ai a0.Proms,.d (.u a0.Sig.E),.d (.u a0.Sig.S)] 28)],[],1⟩) (fun p=>iter (CM a0 a1 s1) p.1 p.2=some x4) (fun p=>p.1) (AR,(false,0)) q7 ?_;rintro⟨n2,s2⟩ q8 Jl bl2;cases n2 with
       |zero=>exact(An q8).elim
       |succ n2=>
        obtain⟨y3,q10,q9⟩:=Am q8;unfold CM at q10;refine gi q10 (fun hc3 q10=> ?_) fun hc3 q10=> ?_
        ·skip;obtain⟨x6,q12,q10⟩:=Aa q10;refine JT (k:=1) (E:=eS) (fun _=>rfl) (fun h=>En h q12) ?_;obtain⟨x7,q13,q10⟩:=Aa q10;refine JT (k:=1) (E:=eS) (fun _=>rfl) (fun h=>En h q13) ?_;obtain⟨x8,q14,q10⟩:=Aa q10;refine gcG (fun h=>Qh (En h q14)) ?_;have e0:=Option.some.inj q10;subst e0;rcases q9 with ⟨sn,e,q9'⟩|e
         ·have e:=Sum.inl.inj e;subst e;exact gb bl2 hd (n2,_) ⟨q9',Nat.lt_succ_self _⟩
         cases AM e
        have e0:=Option.some.inj q10;subst e0;rcases q9 with ⟨sn,e,_⟩|e
        ·cases Bv e
        have e:=Sum.inr.inj e;subst e;exact gb bk3 hd () trivial
      have e0:=Option.some.inj q6;subst e0;exact gb bk2 hd () trivial
     refine gi q4 (fun hc4 q4=> ?_) fun hc4 q4=> ?_
     ·skip;cases q4;rcases q3 with ⟨sn,e,_⟩|e
      ·cases e
      cases e;dsimp only at hm;have e0:=Option.some.inj hm;subst e0;exact Aq hd
     have e0:=Option.some.inj q4;subst e0;rcases q3 with ⟨sn,e,q3'⟩|e
     ·have e:=Sum.inl.inj e;subst e;exact gb bl1 hd (n1,_) ⟨q3',Nat.lt_succ_self _⟩
     cases AM e
    have e0:=Option.some.inj q4;subst e0;rcases q3 with ⟨sn,e,_⟩|e
    ·cases Bv e
    have e:=Sum.inr.inj e;subst e;exact gb bk1 hd () rfl
  subst hy;dsimp only at hm;have e0:=Option.some.inj hm;subst e0;exact Aq hd
def Dk (a1:List g_api_Cert)(x6:List g_api_Cert)(s1:Int):Option ((Int)⊕((Unit)⊕Int)):=if(decide (s1<(x6.length:Int)))=true then Ac (idx x6 s1) fun x9=>if(decide (x9.Depth<s1))=true then some (.inr (.inr 191))else Ac (idx x6 s1) fun x10=>Ac (idx a1 0) fun x11=>Ac (ES x10 x11.Names) fun x12=>if(!x12)=true then some (.inr (.inr 110))else some (.inl (w64 (s1+1)))else some (.inr (.inl ()))
def Gl (a0:g_api_Cert)(a1:List g_api_Cert)(a2:Int):Option Int:=Ac (idx a1 (w64 ((a1.length:Int)-1))) fun x1=>Ac (ET x1 a0) fun x2=>if(x2 !=0)=true then some x2 else Ac (Hl a0 a2) fun x3=>if(!x3)=true then some 190 else Ac (cut a1 1 (a1.length:Int)) fun x4=>Ac (app 168 ([]:List g_api_Cert) x4) fun x5=>Ac (app 168 x5 ([a0]:List g_api_Cert)) fun x6=>Ac (iter (Dk a1 x6) AR 0) fun x7=>match x7 with| .inr r=>some r| .inl y1=>some 0
theorem Qa {a0:g_api_Cert}{a1:List g_api_Cert}{a2:Int}{r:Int}(hm:Gl a0 a1 a2=some r):Sf prog 43 [ag (Ad a0),sl Ad a1,.d (.i a2)] (.d (.i r)):=
 sp call43 func43 rfl ntmps43 rfl fun D0 As η0 m0 hd=>by
  unfold Gl at hm;obtain⟨x1,q1,hm⟩:=Aa hm;refine Ga (k:=13) (E:=Ad) (fun _=>rfl) (fun _=>q1) ?_;obtain⟨x2,q2,hm⟩:=Aa hm;refine gc (fun _=>MM q2) ?_;refine gi hm (fun hc1 hm=> ?_) fun hc1 hm=> ?_
  ·skip;have e0:=Option.some.inj hm;subst e0;exact Aq hd
  obtain⟨x3,q3,hm⟩:=Aa hm;refine gc (fun _=>KR q3) ?_;refine gi hm (fun hc2 hm=> ?_) fun hc2 hm=> ?_
  ·skip;have e0:=Option.some.inj hm;subst e0;exact Aq hd
  refine Wb (k:=13) Ad ([]:List g_api_Cert) (fun _=>rfl) ?_;obtain⟨x4,q4,hm⟩:=Aa hm;refine gcut (k:=13) (E:=Ad) (fun _=>rfl) (fun _=>q4) ?_;obtain⟨x5,q5,hm⟩:=Aa hm;refine KZ (k:=13) (E:=Ad) (fun _=>rfl) q5 ?_;refine Fc (k:=13) Ad ([a0]:List g_api_Cert) (fun _=>rfl) ?_;obtain⟨x6,q6,hm⟩:=Aa hm;refine KZ (k:=13) (E:=Ad) (fun _=>rfl) q6 ?_;obtain⟨x7,q7,hm⟩:=Aa hm;refine gjU 0 (fun(y1:Unit)=>⟨[(3,.pb 0 0)],[(0,.box 0 [.d (.i a0.Serial),.d (.s a0.Issuer),.d (.s a0.Subject),.d (.u a0.Key),sl eS a0.Names,.d (.i a0.From),.d (.i a0.Until),.d (.t a0.Ca),.d (.i a0.Depth),sl eS a0.Permit,sl Ai a0.Proms,.d (.u a0.Sig.E),.d (.u a0.Sig.S)] 28)],[],1⟩) (fun y1=>x7= .inl y1) (fun Jp bk1=> ?_) fun y1 hy=> ?_
  ·refine gl hd (fun(p:Nat×(Int))=>let (p0,p_0):=p; ⟨[(1,sl Ad a1),(8,.ow 1),(9,.d (.i p_0)),(3,.pb 0 0)],[(0,.row 1 13 _ Ad x6),(1,.box 0 [.d (.i a0.Serial),.d (.s a0.Issuer),.d (.s a0.Subject),.d (.u a0.Key),sl eS a0.Names,.d (.i a0.From),.d (.i a0.Until),.d (.t a0.Ca),.d (.i a0.Depth),sl eS a0.Permit,sl Ai a0.Proms,.d (.u a0.Sig.E),.d (.u a0.Sig.S)] 28)],[],2⟩) (fun p=>iter (Dk a1 x6) p.1 p.2=some x7) (fun p=>p.1) (AR,0) q7 ?_;rintro⟨n1,s1⟩ q8 Jl bl1;cases n1 with
   |zero=>exact(An q8).elim
   |succ n1=>
    obtain⟨y2,q10,q9⟩:=Am q8;unfold Dk at q10;refine gi q10 (fun hc3 q10=> ?_) fun hc3 q10=> ?_
    ·skip;obtain⟨x9,q12,q10⟩:=Aa q10;refine Rk (E:=Ad) (fun _=>q12) ?_;refine Aco (k:=13) (fo:=8) (nn:=1) (ag:=false) (E:=Ad) (fun _=>rfl) (fun _=>q12) ?_;refine gi q10 (fun hc4 q10=> ?_) fun hc4 q10=> ?_
     ·skip;cases q10;rcases q9 with ⟨sn,e,_⟩|e
      ·cases e
      cases e;dsimp only at hm;have e0:=Option.some.inj hm;subst e0;exact Aq hd
     obtain⟨x10,q13,q10⟩:=Aa q10;refine Rk (E:=Ad) (fun _=>q13) ?_;refine Aco (k:=13) (fo:=0) (nn:=13) (ag:=true) (E:=Ad) (fun _=>rfl) (fun _=>q13) ?_;obtain⟨x11,q14,q10⟩:=Aa q10;refine Ga (k:=13) (E:=Ad) (fun _=>rfl) (fun _=>q14) ?_;obtain⟨x12,q15,q10⟩:=Aa q10;refine gc (fun _=>NO q15) ?_;refine gi q10 (fun hc5 q10=> ?_) fun hc5 q10=> ?_
     ·skip;cases q10;rcases q9 with ⟨sn,e,_⟩|e
      ·cases e
      cases e;dsimp only at hm;have e0:=Option.some.inj hm;subst e0;exact Aq hd
     have e0:=Option.some.inj q10;subst e0;rcases q9 with ⟨sn,e,q9'⟩|e
     ·have e:=Sum.inl.inj e;subst e;exact gb bl1 hd (n1,_) ⟨q9',Nat.lt_succ_self _⟩
     cases AM e
    have e0:=Option.some.inj q10;subst e0;rcases q9 with ⟨sn,e,_⟩|e
    ·cases Bv e
    have e:=Sum.inr.inj e;subst e;exact gb bk1 hd () rfl
  subst hy;dsimp only at hm;have e0:=Option.some.inj hm;subst e0;exact Aq hd
def Dm (a1:List g_api_Cert)(s1:Int):Option ((Int)⊕((Unit)⊕Int)):=if(decide (s1<(a1.length:Int)))=true then Ac (idx a1 s1) fun x8=>if(x8.Ca !=(decide (s1>0)))=true then some (.inr (.inr 191))else some (.inl (w64 (s1+1)))else some (.inr (.inl ()))
def Dl (a1:List g_api_Cert)(a3:Int)(s2:Int):Option ((Int)⊕((Unit)⊕Int)):=if(decide (s2<(a1.length:Int)))=true then Ac (idx a1 s2) fun x13=>Ac (Hl x13 a3) fun x14=>if(!x14)=true then some (.inr (.inr 190))else some (.inl (w64 (s2+1)))else some (.inr (.inl ()))
def Co (a1:List g_api_Cert)(s3:Int):Option ((Int)⊕((Unit)⊕Int)):=if(decide ((w64 (s3+1))<(a1.length:Int)))=true then Ac (idx a1 s3) fun x17=>Ac (idx a1 (w64 (s3+1))) fun x18=>Ac (ET x17 x18) fun x19=>if(x19 !=0)=true then some (.inr (.inr x19))else some (.inl (w64 (s3+1)))else some (.inr (.inl ()))
def B9 (a0:List g_api_Cert)(a1:List g_api_Cert)(a3:Int)(s4:Int×Int):Option ((Int×Int)⊕((Int)⊕Int)):=if(decide (s4.2<(a0.length:Int)))=true then Ac (idx a0 s4.2) fun x22=>Ac (Gl x22 a1 a3) fun x23=>if(x23==0)=true then some (.inr (.inr x23))else if(s4.2==0)=true then some (.inl (x23,(w64 (s4.2+1))))else some (.inl (s4.1,(w64 (s4.2+1))))else some (.inr (.inl s4.1))
def Gn (a0:List g_api_Cert)(a1:List g_api_Cert)(a2:ByteArray)(a3:Int):Option Int:=
 if(((((decide ((a1.length:Int)<1))||(decide ((a1.length:Int)>4)))||(decide ((a0.length:Int)>16)))||(decide (a3<0)))||(decide (a3>1099511627776)))=true then
  some 1
 else
 Ac (Gt a2) fun x1=>
 Ac (
  if(x1==0)=true then
   Ac (DV a1) fun x3=>
   some x3
  else
  some x1
 ) fun x2=>
 Ac (
  if(x2==0)=true then
   Ac (DV a0) fun x5=>
   some x5
  else
  some x2
 ) fun x4=>
 if(x4 !=0)=true then
  some x4
 else
 Ac (iter (Dm a1) AR 0) fun x6=>match x6 with
 | .inr r=>some r
 | .inl y1=>
 Ac (idx a1 0) fun x9=>
 Ac (Ic x9.Names a2) fun x10=>
 if(!x10)=true then
  some 110
 else
 Ac (iter (Dl a1 a3) AR 0) fun x11=>match x11 with
 | .inr r=>some r
 | .inl y3=>
 Ac (iter (Co a1) AR 0) fun x15=>match x15 with
 | .inr r=>some r
 | .inl y5=>
 Ac (iter (B9 a0 a1 a3) AR (191,0)) fun x20=>match x20 with
 | .inr r=>some r
 | .inl y7=>
 some y7
theorem Qb {a0:List g_api_Cert}{a1:List g_api_Cert}{a2:ByteArray}{a3:Int}{r:Int}(hm:Gn a0 a1 a2 a3=some r):Sf prog 16 [sl Ad a0,sl Ad a1,.d (.s a2),.d (.i a3)] (.d (.i r)):=
 sp call16 func16 rfl ntmps16 rfl fun D0 As η0 m0 hd=>by
  unfold Gn at hm;refine gi hm (fun hc1 hm=> ?_) fun hc1 hm=> ?_
  ·skip;have e0:=Option.some.inj hm;subst e0;exact Aq hd
  obtain⟨x1,q1,hm⟩:=Aa hm;refine gc (fun _=>Qi q1) ?_;obtain⟨x2,q2,hm⟩:=Aa hm;refine gj (fun(_:Unit)=>⟨[(0,sl Ad a0),(1,sl Ad a1),(2,.d (.s a2)),(3,.d (.i a3)),(9,.d (.i x2))],[],[],0⟩) (fun _=>True) (fun Jp bk1=> ?_) fun _ _=> ?_
  ·refine gi q2 (fun hc2 q2=> ?_) fun hc2 q2=> ?_
   ·obtain⟨x3,q3,q2⟩:=Aa q2;refine gc (fun _=>JX q3) ?_;have e0:=Option.some.inj q2;subst e0;exact gb bk1 hd () trivial
   have e0:=Option.some.inj q2;subst e0;exact gb bk1 hd () trivial
  obtain⟨x4,q4,hm⟩:=Aa hm;refine gj (fun(_:Unit)=>⟨[(0,sl Ad a0),(1,sl Ad a1),(2,.d (.s a2)),(3,.d (.i a3)),(9,.d (.i x4))],[],[],0⟩) (fun _=>True) (fun Jp bk2=> ?_) fun _ _=> ?_
  ·refine gi q4 (fun hc3 q4=> ?_) fun hc3 q4=> ?_
   ·obtain⟨x5,q5,q4⟩:=Aa q4;refine gc (fun _=>JX q5) ?_;have e0:=Option.some.inj q4;subst e0;exact gb bk2 hd () trivial
   have e0:=Option.some.inj q4;subst e0;exact gb bk2 hd () trivial
  refine gi hm (fun hc4 hm=> ?_) fun hc4 hm=> ?_
  ·skip;have e0:=Option.some.inj hm;subst e0;exact Aq hd
  obtain⟨x6,q6,hm⟩:=Aa hm;refine gjU 0 (fun(y1:Unit)=>⟨[(0,sl Ad a0),(1,sl Ad a1),(2,.d (.s a2)),(3,.d (.i a3))],[],[],0⟩) (fun y1=>x6= .inl y1) (fun Jp bk3=> ?_) fun y1 hy=> ?_
  ·refine gl hd (fun(p:Nat×(Int))=>let (p0,p_0):=p; ⟨[(0,sl Ad a0),(1,sl Ad a1),(2,.d (.s a2)),(3,.d (.i a3)),(10,.d (.i p_0))],[],[],0⟩) (fun p=>iter (Dm a1) p.1 p.2=some x6) (fun p=>p.1) (AR,0) q6 ?_;rintro⟨n1,s1⟩ q7 Jl bl1;cases n1 with
   |zero=>exact(An q7).elim
   |succ n1=>
    obtain⟨y2,q9,q8⟩:=Am q7;unfold Dm at q9;refine gi q9 (fun hc5 q9=> ?_) fun hc5 q9=> ?_
    ·skip;obtain⟨x8,q11,q9⟩:=Aa q9;refine Ga (k:=13) (E:=Ad) (fun _=>rfl) (fun _=>q11) ?_;refine gi q9 (fun hc6 q9=> ?_) fun hc6 q9=> ?_
     ·skip;cases q9;rcases q8 with ⟨sn,e,_⟩|e
      ·cases e
      cases e;dsimp only at hm;have e0:=Option.some.inj hm;subst e0;exact Aq hd
     have e0:=Option.some.inj q9;subst e0;rcases q8 with ⟨sn,e,q8'⟩|e
     ·have e:=Sum.inl.inj e;subst e;exact gb bl1 hd (n1,_) ⟨q8',Nat.lt_succ_self _⟩
     cases AM e
    have e0:=Option.some.inj q9;subst e0;rcases q8 with ⟨sn,e,_⟩|e
    ·cases Bv e
    have e:=Sum.inr.inj e;subst e;exact gb bk3 hd () rfl
  subst hy;dsimp only at hm;obtain⟨x9,q12,hm⟩:=Aa hm;refine Ga (k:=13) (E:=Ad) (fun _=>rfl) (fun _=>q12) ?_;obtain⟨x10,q13,hm⟩:=Aa hm;refine gc (fun _=>To q13) ?_;refine gi hm (fun hc7 hm=> ?_) fun hc7 hm=> ?_
  ·skip;have e0:=Option.some.inj hm;subst e0;exact Aq hd
  obtain⟨x11,q14,hm⟩:=Aa hm;refine gjU 2 (fun(y3:Unit)=>⟨[(0,sl Ad a0),(1,sl Ad a1),(3,.d (.i a3))],[],[],0⟩) (fun y3=>x11= .inl y3) (fun Jp bk4=> ?_) fun y3 hy=> ?_
  ·refine gl hd (fun(p:Nat×(Int))=>let (p0,p_0):=p; ⟨[(0,sl Ad a0),(1,sl Ad a1),(3,.d (.i a3)),(11,.d (.i p_0))],[],[],0⟩) (fun p=>iter (Dl a1 a3) p.1 p.2=some x11) (fun p=>p.1) (AR,0) q14 ?_;rintro⟨n2,s2⟩ q15 Jl bl2;cases n2 with
   |zero=>exact(An q15).elim
   |succ n2=>
    obtain⟨y4,q17,q16⟩:=Am q15;unfold Dl at q17;refine gi q17 (fun hc8 q17=> ?_) fun hc8 q17=> ?_
    ·skip;obtain⟨x13,q19,q17⟩:=Aa q17;refine Ga (k:=13) (E:=Ad) (fun _=>rfl) (fun _=>q19) ?_;obtain⟨x14,q20,q17⟩:=Aa q17;refine gc (fun _=>KR q20) ?_;refine gi q17 (fun hc9 q17=> ?_) fun hc9 q17=> ?_
     ·skip;cases q17;rcases q16 with ⟨sn,e,_⟩|e
      ·cases e
      cases e;dsimp only at hm;have e0:=Option.some.inj hm;subst e0;exact Aq hd
     have e0:=Option.some.inj q17;subst e0;rcases q16 with ⟨sn,e,q16'⟩|e
     ·have e:=Sum.inl.inj e;subst e;exact gb bl2 hd (n2,_) ⟨q16',Nat.lt_succ_self _⟩
     cases AM e
    have e0:=Option.some.inj q17;subst e0;rcases q16 with ⟨sn,e,_⟩|e
    ·cases Bv e
    have e:=Sum.inr.inj e;subst e;exact gb bk4 hd () rfl
  subst hy;dsimp only at hm;obtain⟨x15,q21,hm⟩:=Aa hm;refine gjU 4 (fun(y5:Unit)=>⟨[(0,sl Ad a0),(1,sl Ad a1),(3,.d (.i a3))],[],[],0⟩) (fun y5=>x15= .inl y5) (fun Jp bk5=> ?_) fun y5 hy=> ?_
  ·refine gl hd (fun(p:Nat×(Int))=>let (p0,p_0):=p; ⟨[(0,sl Ad a0),(1,sl Ad a1),(3,.d (.i a3)),(12,.d (.i p_0))],[],[],0⟩) (fun p=>iter (Co a1) p.1 p.2=some x15) (fun p=>p.1) (AR,0) q21 ?_;rintro⟨n3,s3⟩ q22 Jl bl3;cases n3 with
   |zero=>exact(An q22).elim
   |succ n3=>
    obtain⟨y6,q24,q23⟩:=Am q22;unfold Co at q24;refine gi q24 (fun hc10 q24=> ?_) fun hc10 q24=> ?_
    ·skip;obtain⟨x17,q26,q24⟩:=Aa q24;refine Ga (k:=13) (E:=Ad) (fun _=>rfl) (fun _=>q26) ?_;obtain⟨x18,q27,q24⟩:=Aa q24;refine Ga (k:=13) (E:=Ad) (fun _=>rfl) (fun _=>q27) ?_;obtain⟨x19,q28,q24⟩:=Aa q24;refine gc (fun _=>MM q28) ?_;refine gi q24 (fun hc11 q24=> ?_) fun hc11 q24=> ?_
     ·skip;cases q24;rcases q23 with ⟨sn,e,_⟩|e
      ·cases e
      cases e;dsimp only at hm;have e0:=Option.some.inj hm;subst e0;exact Aq hd
     have e0:=Option.some.inj q24;subst e0;rcases q23 with ⟨sn,e,q23'⟩|e
     ·have e:=Sum.inl.inj e;subst e;exact gb bl3 hd (n3,_) ⟨q23',Nat.lt_succ_self _⟩
     cases AM e
    have e0:=Option.some.inj q24;subst e0;rcases q23 with ⟨sn,e,_⟩|e
    ·cases Bv e
    have e:=Sum.inr.inj e;subst e;exact gb bk5 hd () rfl
  subst hy;dsimp only at hm;obtain⟨x20,q29,hm⟩:=Aa hm;refine gjU 6 (fun(y7:Int)=>⟨[(14,.d (.i y7))],[],[],0⟩) (fun y7=>x20= .inl y7) (fun Jp bk6=> ?_) fun y7 hy=> ?_
  ·refine gl hd (fun(p:Nat×(Int×Int))=>let (p0,p_0,p_1):=p; ⟨[(0,sl Ad a0),(1,sl Ad a1),(3,.d (.i a3)),(14,.d (.i p_0)),(15,.d (.i p_1))],[],[],0⟩) (fun p=>iter (B9 a0 a1 a3) p.1 p.2=some x20) (fun p=>p.1) (AR,(191,0)) q29 ?_;rintro⟨n4,s4⟩ q30 Jl bl4;cases n4 with
   |zero=>exact(An q30).elim
   |succ n4=>
    obtain⟨y8,q32,q31⟩:=Am q30;unfold B9 at q32;refine gi q32 (fun hc12 q32=> ?_) fun hc12 q32=> ?_
    ·skip;obtain⟨x22,q34,q32⟩:=Aa q32;refine Ga (k:=13) (E:=Ad) (fun _=>rfl) (fun _=>q34) ?_;obtain⟨x23,q35,q32⟩:=Aa q32;refine gc (fun _=>Qa q35) ?_;refine gi q32 (fun hc13 q32=> ?_) fun hc13 q32=> ?_
     ·skip;cases q32;rcases q31 with ⟨sn,e,_⟩|e
      ·cases e
      cases e;dsimp only at hm;have e0:=Option.some.inj hm;subst e0;exact Aq hd
     refine gi q32 (fun hc14 q32=> ?_) fun hc14 q32=> ?_
     ·skip;have e0:=Option.some.inj q32;subst e0;rcases q31 with ⟨sn,e,q31'⟩|e
      ·have e:=Sum.inl.inj e;subst e;exact gb bl4 hd (n4,_) ⟨q31',Nat.lt_succ_self _⟩
      cases AM e
     have e0:=Option.some.inj q32;subst e0;rcases q31 with ⟨sn,e,q31'⟩|e
     ·have e:=Sum.inl.inj e;subst e;exact gb bl4 hd (n4,_) ⟨q31',Nat.lt_succ_self _⟩
     cases AM e
    have e0:=Option.some.inj q32;subst e0;rcases q31 with ⟨sn,e,_⟩|e
    ·cases Bv e
    have e:=Sum.inr.inj e;subst e;exact gb bk6 hd s4.1 rfl
  subst hy;dsimp only at hm;have e0:=Option.some.inj hm;subst e0;exact Aq hd
def DG (a0:List g_api_Cert)(a1:List g_api_Cert)(a2:ByteArray)(a3:Int):Option Bool:=Ac (IJ) fun x1=>if(!x1)=true then some false else Ac (Iq a0 a1 a2) fun x2=>if(!x2)=true then some x1 else Ac (gu x1 (Cd a0 a1 a2 a3)) fun x3=>Ac (gu x1 (Gn a0 a1 a2 a3)) fun x4=>some (x1&&(x3==x4))
theorem LC {a0:List g_api_Cert}{a1:List g_api_Cert}{a2:ByteArray}{a3:Int}{r:Bool}(hm:DG a0 a1 a2 a3=some r):Sf prog 4 [sl Ad a0,sl Ad a1,.d (.s a2),.d (.i a3)] (.d (.t r)):=
 sp call4 func4 rfl ntmps4 rfl fun D0 As η0 m0 hd=>by
  unfold DG at hm;obtain⟨x1,q1,hm⟩:=Aa hm;refine gc (fun _=>R1 q1) ?_;refine gi hm (fun hc1 hm=> ?_) fun hc1 hm=> ?_
  ·skip;have e0:=Option.some.inj hm;subst e0;exact Aq hd
  obtain⟨x2,q2,hm⟩:=Aa hm;refine gc (fun _=>Ty q2) ?_;refine gi hm (fun hc2 hm=> ?_) fun hc2 hm=> ?_
  ·skip;have e0:=Option.some.inj hm;subst e0;exact Aq hd
  obtain⟨x3,q3,hm⟩:=Aa hm;refine gcG (fun h=>Du (En h q3)) ?_;obtain⟨x4,q4,hm⟩:=Aa hm;refine gcG (fun h=>Qb (En h q4)) ?_;have e0:=Option.some.inj hm;subst e0;exact Aq hd
end Go.Proofs.YtbajlmaijjcbmaaGreatDoor
