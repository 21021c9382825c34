/- The walks of some functions, by the executor, written by program. Conditions: none. -/
import Derived.Test.YtbajlmaijjcbmaaGreatDoorZf
import Derived.Test.YtbajlmaijjcbmaaGreatDoorZh
set_option linter.unusedSimpArgs false
set_option linter.unusedVariables false
set_option maxHeartbeats 20000000
set_option maxRecDepth 100000
namespace Go.Proofs.YtbajlmaijjcbmaaGreatDoor
open Go Go.Gw Go.Ax Tryz
def BC (a0:g_api_Cert)(s1:Int):Option ((Int)⊕((Unit)⊕Bool)):=if(decide (s1<(a0.Proms.length:Int)))=true then Ac (idx a0.Proms s1) fun x8=>Ac (Ek x8) fun x9=>Ac (gu ((!(!x9))&&(decide (s1>0))) (idx a0.Proms (w64 (s1-1)))) fun x10=>Ac (gu ((!(!x9))&&(decide (s1>0))) (idx a0.Proms s1)) fun x11=>if((!x9)||((decide (s1>0))&&(decide (x10.Log≥x11.Log))))=true then some (.inr (.inr false))else some (.inl (w64 (s1+1)))else some (.inr (.inl ()))
def GX (a0:g_api_Cert):Option Bool:=Ac (Ej a0.Serial) fun x1=>Ac (gu (!(!x1)) (Ej a0.From)) fun x2=>Ac (gu (!((!x1)||(!x2))) (Ej a0.Until)) fun x3=>Ac (gu (!((((!x1)||(!x2))||(!x3))||(decide (a0.From≥a0.Until)))) (Fp a0.Issuer)) fun x4=>Ac (gu (!((((((((!x1)||(!x2))||(!x3))||(decide (a0.From≥a0.Until)))||(!x4))||(decide ((a0.Key.toNat:Int)<1)))||(decide ((a0.Key.toNat:Int)≥2305843009213691579)))||(decide ((a0.Proms.length:Int)>4)))) (DV a0.Sig)) fun x5=>if(((((((((!x1)||(!x2))||(!x3))||(decide (a0.From≥a0.Until)))||(!x4))||(decide ((a0.Key.toNat:Int)<1)))||(decide ((a0.Key.toNat:Int)≥2305843009213691579)))||(decide ((a0.Proms.length:Int)>4)))||(!x5))=true then some false else Ac (iter (BC a0) A0 0) fun x6=>match x6 with| .inr r=>some r| .inl y1=>Ac (GW a0) fun x12=>some x12
theorem Q5 {a0:g_api_Cert}{r:Bool}(hm:GX a0=some r):Sf prog 66 [ag (Ae a0)] (.d (.t r)):=
 sp call66 func66 rfl ntmps66 rfl fun D0 As η0 m0 hd=>by
  unfold GX at hm;obtain⟨x1,q1,hm⟩:=Aa hm;refine gc (fun _=>Hx q1) (by kernel_rfl) ?_;obtain⟨x2,q2,hm⟩:=Aa hm;refine gcG (fun h=>Hx (DX h q2)) (by kernel_rfl) ?_;obtain⟨x3,q3,hm⟩:=Aa hm;refine gcG (fun h=>Hx (DX h q3)) (by kernel_rfl) ?_;obtain⟨x4,q4,hm⟩:=Aa hm;refine gcG (fun h=>Mm (DX h q4)) (by kernel_rfl) ?_;obtain⟨x5,q5,hm⟩:=Aa hm;refine gcG (fun h=>Kp (DX h q5)) (by kernel_rfl) ?_;refine gi hm (by kernel_rfl) (fun hc1 hm=> ?_) fun hc1 hm=> ?_
  ·skip;have e0:=Option.some.inj hm;subst e0;exact Au hd (by kernel_rfl)
  obtain⟨x6,q6,hm⟩:=Aa hm;refine gjU 0 (fun(y1:Unit)=>⟨[(1,.pb 0 0)],[(0,.box 0 [.d (.i a0.Serial),.d (.s a0.Issuer),.d (.s a0.Subject),.d (.u a0.Key),sl eS a0.Names,.d (.i a0.From),.d (.i a0.Until),.d (.t a0.Ca),.d (.i a0.Depth),sl eS a0.Permit,sl Ai a0.Proms,.d (.u a0.Sig.E),.d (.u a0.Sig.S)] 28)],[],1⟩) (fun y1=>x6= .inl y1) (by kernel_rfl) (fun Jp bk1=> ?_) fun y1 hy=> ?_
  ·refine gl hd (fun(p:Nat×(Int))=>let (p0,p_0):=p; ⟨[(1,.pb 0 0),(3,.d (.i p_0))],[(0,.box 0 [.d (.i a0.Serial),.d (.s a0.Issuer),.d (.s a0.Subject),.d (.u a0.Key),sl eS a0.Names,.d (.i a0.From),.d (.i a0.Until),.d (.t a0.Ca),.d (.i a0.Depth),sl eS a0.Permit,sl Ai a0.Proms,.d (.u a0.Sig.E),.d (.u a0.Sig.S)] 28)],[],1⟩) (fun p=>iter (BC a0) p.1 p.2=some x6) (fun p=>p.1) (A0,0) q6 (by kernel_rfl) ?_;rintro⟨n1,s1⟩ q7 Jl bl1;cases n1 with
   |zero=>exact(Ar q7).elim
   |succ n1=>
    obtain⟨y2,q9,q8⟩:=Ao q7;unfold BC at q9;refine gi q9 (by kernel_rfl) (fun hc2 q9=> ?_) fun hc2 q9=> ?_
    ·skip;obtain⟨x8,q11,q9⟩:=Aa q9;refine Hc (k:=6) (E:=Ai) (fun _=>rfl) (fun _=>q11) (by kernel_rfl) ?_;obtain⟨x9,q12,q9⟩:=Aa q9;refine gc (fun _=>Ni q12) (by kernel_rfl) ?_;obtain⟨x10,q13,q9⟩:=Aa q9;refine Kk (k:=6) (E:=Ai) (fun _=>rfl) (fun h=>DX h q13) (by kernel_rfl) ?_;obtain⟨x11,q14,q9⟩:=Aa q9;refine Kk (k:=6) (E:=Ai) (fun _=>rfl) (fun h=>DX h q14) (by kernel_rfl) ?_;refine gi q9 (by kernel_rfl) (fun hc3 q9=> ?_) fun hc3 q9=> ?_
     ·skip;cases q9;rcases q8 with ⟨sn,e,_⟩|e
      ·cases e
      cases e;dsimp only at hm;have e0:=Option.some.inj hm;subst e0;exact Au hd (by kernel_rfl)
     have e0:=Option.some.inj q9;subst e0;rcases q8 with ⟨sn,e,q8'⟩|e
     ·have e:=Sum.inl.inj e;subst e;exact gb bl1 hd (n1,_) ⟨q8',Nat.lt_succ_self _⟩ (by kernel_rfl)
     cases AN e
    have e0:=Option.some.inj q9;subst e0;rcases q8 with ⟨sn,e,_⟩|e
    ·cases B2 e
    have e:=Sum.inr.inj e;subst e;exact gb bk1 hd () rfl (by kernel_rfl)
  subst hy;dsimp only at hm;obtain⟨x12,q15,hm⟩:=Aa hm;refine gc (fun _=>Q4 q15) (by kernel_rfl) ?_;have e0:=Option.some.inj hm;subst e0;exact Au hd (by kernel_rfl)
def FL (a0:List UInt8):Option Bool:=if((decide ((a0.length:Int)<1))||(decide ((a0.length:Int)>8)))=true then some false else Ac (gu (!((a0.length:Int)==1)) (idx a0 0)) fun x1=>Ac (gu ((!((a0.length:Int)==1))&&((x1.toNat:Int)==0)) (idx a0 1)) fun x2=>Ac (gu ((!((a0.length:Int)==1))&&(!(((x1.toNat:Int)==0)&&(decide ((x2.toNat:Int)<128))))) (idx a0 0)) fun x3=>Ac (gu (((!((a0.length:Int)==1))&&(!(((x1.toNat:Int)==0)&&(decide ((x2.toNat:Int)<128)))))&&((x3.toNat:Int)==255)) (idx a0 1)) fun x4=>bnd ((((a0.length:Int)==1)||((!(((x1.toNat:Int)==0)&&(decide ((x2.toNat:Int)<128))))&&(!(((x3.toNat:Int)==255)&&(decide ((x4.toNat:Int)≥128))))))) fun x5=>some x5
theorem Pz {a0:List UInt8}{r:Bool}(hm:FL a0=some r):Sf prog 202 [sl eB a0] (.d (.t r)):=
 sp call202 func202 rfl ntmps202 rfl fun D0 As η0 m0 hd=>by
  unfold FL at hm;refine gi hm (by kernel_rfl) (fun hc1 hm=> ?_) fun hc1 hm=> ?_
  ·skip;have e0:=Option.some.inj hm;subst e0;exact Au hd (by kernel_rfl)
  obtain⟨x1,q1,hm⟩:=Aa hm;refine Kk (k:=1) (E:=eB) (fun _=>rfl) (fun h=>DX h q1) (by kernel_rfl) ?_;obtain⟨x2,q2,hm⟩:=Aa hm;refine Kk (k:=1) (E:=eB) (fun _=>rfl) (fun h=>DX h q2) (by kernel_rfl) ?_;obtain⟨x3,q3,hm⟩:=Aa hm;refine Kk (k:=1) (E:=eB) (fun _=>rfl) (fun h=>DX h q3) (by kernel_rfl) ?_;obtain⟨x4,q4,hm⟩:=Aa hm;refine Kk (k:=1) (E:=eB) (fun _=>rfl) (fun h=>DX h q4) (by kernel_rfl) ?_;have hm:=AE hm;let x5:Bool:=((((a0.length:Int)==1)||((!(((x1.toNat:Int)==0)&&(decide ((x2.toNat:Int)<128))))&&(!(((x3.toNat:Int)==255)&&(decide ((x4.toNat:Int)≥128)))))));have e0:=Option.some.inj hm;subst e0;exact Au hd (by kernel_rfl)
def BE (a0:List UInt8)(s1:Int):Option ((Int)⊕((Unit)⊕Bool)):=if(decide (s1<(a0.length:Int)))=true then Ac (idx a0 s1) fun x3=>Ac (gu (!(decide ((x3.toNat:Int)<32))) (idx a0 s1)) fun x4=>if((decide ((x3.toNat:Int)<32))||(decide ((x4.toNat:Int)>126)))=true then some (.inr (.inr false))else some (.inl (w64 (s1+1)))else some (.inr (.inl ()))
def G0 (a0:List UInt8):Option Bool:=Ac (iter (BE a0) A0 0) fun x1=>match x1 with| .inr r=>some r| .inl y1=>some true
theorem Q9 {a0:List UInt8}{r:Bool}(hm:G0 a0=some r):Sf prog 203 [sl eB a0] (.d (.t r)):=
 sp call203 func203 rfl ntmps203 rfl fun D0 As η0 m0 hd=>by
  unfold G0 at hm;obtain⟨x1,q1,hm⟩:=Aa hm;refine gjU 0 (fun(y1:Unit)=>⟨[],[],[],0⟩) (fun y1=>x1= .inl y1) (by kernel_rfl) (fun Jp bk1=> ?_) fun y1 hy=> ?_
  ·refine gl hd (fun(p:Nat×(Int))=>let (p0,p_0):=p; ⟨[(0,sl eB a0),(3,.d (.i p_0))],[],[],0⟩) (fun p=>iter (BE a0) p.1 p.2=some x1) (fun p=>p.1) (A0,0) q1 (by kernel_rfl) ?_;rintro⟨n1,s1⟩ q2 Jl bl1;cases n1 with
   |zero=>exact(Ar q2).elim
   |succ n1=>
    obtain⟨y2,q4,q3⟩:=Ao q2;unfold BE at q4;refine gi q4 (by kernel_rfl) (fun hc1 q4=> ?_) fun hc1 q4=> ?_
    ·skip;obtain⟨x3,q6,q4⟩:=Aa q4;refine Hc (k:=1) (E:=eB) (fun _=>rfl) (fun _=>q6) (by kernel_rfl) ?_;obtain⟨x4,q7,q4⟩:=Aa q4;refine Kk (k:=1) (E:=eB) (fun _=>rfl) (fun h=>DX h q7) (by kernel_rfl) ?_;refine gi q4 (by kernel_rfl) (fun hc2 q4=> ?_) fun hc2 q4=> ?_
     ·skip;cases q4;rcases q3 with ⟨sn,e,_⟩|e
      ·cases e
      cases e;dsimp only at hm;have e0:=Option.some.inj hm;subst e0;exact Au hd (by kernel_rfl)
     have e0:=Option.some.inj q4;subst e0;rcases q3 with ⟨sn,e,q3'⟩|e
     ·have e:=Sum.inl.inj e;subst e;exact gb bl1 hd (n1,_) ⟨q3',Nat.lt_succ_self _⟩ (by kernel_rfl)
     cases AN e
    have e0:=Option.some.inj q4;subst e0;rcases q3 with ⟨sn,e,_⟩|e
    ·cases B2 e
    have e:=Sum.inr.inj e;subst e;exact gb bk1 hd () rfl (by kernel_rfl)
  subst hy;dsimp only at hm;have e0:=Option.some.inj hm;subst e0;exact Au hd (by kernel_rfl)
def MH (rF:g_api_Item→Option Bool):Prop:= ∀{a0:g_api_Item} {r:Bool},rF a0=some r→Sf prog 168 [ag (Af a0)] (.d (.t r))
def BF (rF:g_api_Item→Option Bool)(a0:g_api_Item)(s1:Int):Option ((Int)⊕((Unit)⊕Bool)):=if(decide (s1<(a0.L.length:Int)))=true then Ac (idx a0.L s1) fun x8=>Ac (rF x8) fun x9=>if(!x9)=true then some (.inr (.inr false))else some (.inl (w64 (s1+1)))else some (.inr (.inl ()))
def EY (rF:g_api_Item→Option Bool)(a0:g_api_Item):Option Bool:=if((a0.Tag !=48)&&(decide ((a0.L.length:Int)>0)))=true then some false else if(a0.Tag==1)=true then Ac (gu ((a0.B.length:Int)==1) (idx a0.B 0)) fun x1=>Ac (gu (((a0.B.length:Int)==1)&&(!((x1.toNat:Int)==0))) (idx a0.B 0)) fun x2=>bnd ((((a0.B.length:Int)==1)&&(((x1.toNat:Int)==0)||((x2.toNat:Int)==255)))) fun x3=>some x3 else if(a0.Tag==2)=true then Ac (FL a0.B) fun x4=>some x4 else if(a0.Tag==4)=true then some true else if(a0.Tag==12)=true then Ac (G0 a0.B) fun x5=>some x5 else if(a0.Tag==48)=true then Ac (iter ((BF rF) a0) A0 0) fun x6=>match x6 with| .inr r=>some r| .inl y1=>some ((a0.B.length:Int)==0)else some false
theorem Oq {rF:g_api_Item→Option Bool}(hF:MH rF){a0:g_api_Item}{r:Bool}(hm:EY rF a0=some r):Sf prog 168 [ag (Af a0)] (.d (.t r)):=
 sp call168 func168 rfl ntmps168 rfl fun D0 As η0 m0 hd=>by
  unfold EY at hm;refine gi hm (by kernel_rfl) (fun hc1 hm=> ?_) fun hc1 hm=> ?_
  ·skip;have e0:=Option.some.inj hm;subst e0;exact Au hd (by kernel_rfl)
  refine gi hm (by kernel_rfl) (fun hc2 hm=> ?_) fun hc2 hm=> ?_
  ·skip;obtain⟨x1,q1,hm⟩:=Aa hm;refine Kk (k:=1) (E:=eB) (fun _=>rfl) (fun h=>DX h q1) (by kernel_rfl) ?_;obtain⟨x2,q2,hm⟩:=Aa hm;refine Kk (k:=1) (E:=eB) (fun _=>rfl) (fun h=>DX h q2) (by kernel_rfl) ?_;have hm:=AE hm;let x3:Bool:=((((a0.B.length:Int)==1)&&(((x1.toNat:Int)==0)||((x2.toNat:Int)==255))));have e0:=Option.some.inj hm;subst e0;exact Au hd (by kernel_rfl)
  refine gi hm (by kernel_rfl) (fun hc3 hm=> ?_) fun hc3 hm=> ?_
  ·skip;obtain⟨x4,q4,hm⟩:=Aa hm;refine gc (fun _=>Pz q4) (by kernel_rfl) ?_;have e0:=Option.some.inj hm;subst e0;exact Au hd (by kernel_rfl)
  refine gi hm (by kernel_rfl) (fun hc4 hm=> ?_) fun hc4 hm=> ?_
  ·skip;have e0:=Option.some.inj hm;subst e0;exact Au hd (by kernel_rfl)
  refine gi hm (by kernel_rfl) (fun hc5 hm=> ?_) fun hc5 hm=> ?_
  ·skip;obtain⟨x5,q5,hm⟩:=Aa hm;refine gc (fun _=>Q9 q5) (by kernel_rfl) ?_;have e0:=Option.some.inj hm;subst e0;exact Au hd (by kernel_rfl)
  refine gi hm (by kernel_rfl) (fun hc6 hm=> ?_) fun hc6 hm=> ?_
  ·skip;obtain⟨x6,q6,hm⟩:=Aa hm;refine gjU 1 (fun(y1:Unit)=>⟨[(1,.pb 0 0)],[(0,.box 0 [.d (.i a0.Tag),sl eB a0.B,sl Af a0.L] 79)],[],1⟩) (fun y1=>x6= .inl y1) (by kernel_rfl) (fun Jp bk1=> ?_) fun y1 hy=> ?_
   ·refine gl hd (fun(p:Nat×(Int))=>let (p0,p_0):=p; ⟨[(1,.pb 0 0),(3,.d (.i p_0))],[(0,.box 0 [.d (.i a0.Tag),sl eB a0.B,sl Af a0.L] 79)],[],1⟩) (fun p=>iter ((BF rF) a0) p.1 p.2=some x6) (fun p=>p.1) (A0,0) q6 (by kernel_rfl) ?_;rintro⟨n1,s1⟩ q7 Jl bl1;cases n1 with
    |zero=>exact(Ar q7).elim
    |succ n1=>
     obtain⟨y2,q9,q8⟩:=Ao q7;unfold BF at q9;refine gi q9 (by kernel_rfl) (fun hc7 q9=> ?_) fun hc7 q9=> ?_
     ·skip;obtain⟨x8,q11,q9⟩:=Aa q9;refine Hc (k:=3) (E:=Af) (fun _=>rfl) (fun _=>q11) (by kernel_rfl) ?_;obtain⟨x9,q12,q9⟩:=Aa q9;refine gc (fun _=>hF q12) (by kernel_rfl) ?_;refine gi q9 (by kernel_rfl) (fun hc8 q9=> ?_) fun hc8 q9=> ?_
      ·skip;cases q9;rcases q8 with ⟨sn,e,_⟩|e
       ·cases e
       cases e;dsimp only at hm;have e0:=Option.some.inj hm;subst e0;exact Au hd (by kernel_rfl)
      have e0:=Option.some.inj q9;subst e0;rcases q8 with ⟨sn,e,q8'⟩|e
      ·have e:=Sum.inl.inj e;subst e;exact gb bl1 hd (n1,_) ⟨q8',Nat.lt_succ_self _⟩ (by kernel_rfl)
      cases AN e
     have e0:=Option.some.inj q9;subst e0;rcases q8 with ⟨sn,e,_⟩|e
     ·cases B2 e
     have e:=Sum.inr.inj e;subst e;exact gb bk1 hd () rfl (by kernel_rfl)
   subst hy;dsimp only at hm;have e0:=Option.some.inj hm;subst e0;exact Au hd (by kernel_rfl)
  have e0:=Option.some.inj hm;subst e0;exact Au hd (by kernel_rfl)
def Du:Nat→g_api_Item→Option Bool
 |0,_=>none
 |n+1,a0=>EY (Du n) a0
def JS (a0:g_api_Item):Option Bool:=Du A0 a0
theorem KT: ∀n,MH (Du n)
 |0=>fun hm=>by cases hm
 |n+1=>fun hm=>Oq (KT n) hm
theorem Ra {a0:g_api_Item}{r:Bool}(hm:JS a0=some r):Sf prog 168 [ag (Af a0)] (.d (.t r)):=KT A0 hm
def MI (rF:g_api_Item→Option Int):Prop:= ∀{a0:g_api_Item} {r:Int},rF a0=some r→Sf prog 169 [ag (Af a0)] (.d (.i r))
def BG (rF:g_api_Item→Option Int)(a0:g_api_Item)(s1:Int×Int):Option ((Int×Int)⊕(Int)):=if(decide (s1.2<(a0.L.length:Int)))=true then Ac (idx a0.L s1.2) fun x4=>Ac (rF x4) fun x5=>some (.inl ((Y3 s1.1 x5),(w64 (s1.2+1))))else some (.inr s1.1)
def EZ (rF:g_api_Item→Option Int)(a0:g_api_Item):Option Int:=Ac (Ac (iter ((BG rF) a0) A0 (0,0)) fun x2=>some x2) fun x1=>some (w64 (x1+1))
theorem Ot {rF:g_api_Item→Option Int}(hF:MI rF){a0:g_api_Item}{r:Int}(hm:EZ rF a0=some r):Sf prog 169 [ag (Af a0)] (.d (.i r)):=
 sp call169 func169 rfl ntmps169 rfl fun D0 As η0 m0 hd=>by
  unfold EZ at hm;obtain⟨x1,q1,hm⟩:=Aa hm;obtain⟨x2,q2,q1⟩:=Aa q1;refine gjU 0 (fun(_:Unit)=>⟨[(3,.d (.i x1)),(1,.pb 0 0)],[(0,.box 0 [.d (.i a0.Tag),sl eB a0.B,sl Af a0.L] 79)],[],1⟩) (fun _=>True) (by kernel_rfl) (fun Jp bk1=> ?_) fun _ _=> ?_
  ·refine gjU 0 (fun(_:Unit)=>⟨[(3,.d (.i x2)),(1,.pb 0 0)],[(0,.box 0 [.d (.i a0.Tag),sl eB a0.B,sl Af a0.L] 79)],[],1⟩) (fun _=>True) (by kernel_rfl) (fun Jp bk2=> ?_) fun _ _=> ?_
   ·refine gl hd (fun(p:Nat×(Int×Int))=>let (p0,p_0,p_1):=p; ⟨[(1,.pb 0 0),(3,.d (.i p_0)),(4,.d (.i p_1))],[(0,.box 0 [.d (.i a0.Tag),sl eB a0.B,sl Af a0.L] 79)],[],1⟩) (fun p=>iter ((BG rF) a0) p.1 p.2=some x2) (fun p=>p.1) (A0,(0,0)) q2 (by kernel_rfl) ?_;rintro⟨n1,s1⟩ q3 Jl bl1;cases n1 with
    |zero=>exact(Ar q3).elim
    |succ n1=>
     obtain⟨y1,q5,q4⟩:=Ao q3;unfold BG at q5;refine gi q5 (by kernel_rfl) (fun hc1 q5=> ?_) fun hc1 q5=> ?_
     ·skip;obtain⟨x4,q7,q5⟩:=Aa q5;refine Hc (k:=3) (E:=Af) (fun _=>rfl) (fun _=>q7) (by kernel_rfl) ?_;obtain⟨x5,q8,q5⟩:=Aa q5;refine gc (fun _=>hF q8) (by kernel_rfl) ?_;have e0:=Option.some.inj q5;subst e0;rcases q4 with ⟨sn,e,q4'⟩|e
      ·have e:=Sum.inl.inj e;subst e;exact gb bl1 hd (n1,_) ⟨q4',Nat.lt_succ_self _⟩ (by kernel_rfl)
      cases AN e
     have e0:=Option.some.inj q5;subst e0;rcases q4 with ⟨sn,e,_⟩|e
     ·cases B2 e
     have e:=Sum.inr.inj e;subst e;exact gb bk2 hd () trivial (by kernel_rfl)
   have e0:=Option.some.inj q1;subst e0;exact gb bk1 hd () trivial (by kernel_rfl)
  have e0:=Option.some.inj hm;subst e0;exact Au hd (by kernel_rfl)
def Ef:Nat→g_api_Item→Option Int
 |0,_=>none
 |n+1,a0=>EZ (Ef n) a0
def JT (a0:g_api_Item):Option Int:=Ef A0 a0
theorem KU: ∀n,MI (Ef n)
 |0=>fun hm=>by cases hm
 |n+1=>fun hm=>Ot (KU n) hm
theorem Rb {a0:g_api_Item}{r:Int}(hm:JT a0=some r):Sf prog 169 [ag (Af a0)] (.d (.i r)):=KU A0 hm
def HN (a0:g_api_Item):Option Bool:=Ac (JS a0) fun x1=>Ac (gu x1 (JT a0)) fun x2=>some (x1&&(decide (x2≤8)))
theorem Sz {a0:g_api_Item}{r:Bool}(hm:HN a0=some r):Sf prog 118 [ag (Af a0)] (.d (.t r)):=
 sp call118 func118 rfl ntmps118 rfl fun D0 As η0 m0 hd=>by
  unfold HN at hm;obtain⟨x1,q1,hm⟩:=Aa hm;refine gc (fun _=>Ra q1) (by kernel_rfl) ?_;obtain⟨x2,q2,hm⟩:=Aa hm;refine gcG (fun h=>Rb (DX h q2)) (by kernel_rfl) ?_;have e0:=Option.some.inj hm;subst e0;exact Au hd (by kernel_rfl)
def EX (a0:Int):Option (List UInt8):=if(decide (a0<128))=true then some ([(toB a0)]:List UInt8)else if(decide (a0<256))=true then some ([129,(toB a0)]:List UInt8)else bnd (w64 (Int.tdiv a0 256)) fun x1=>some ([130,(toB x1),(toB a0)]:List UInt8)
theorem Oo {a0:Int}{r:List UInt8}(hm:EX a0=some r):Sp prog 170 [.d (.i a0)] [] 0 (is (.ow 0) [.row 0 1 _ eB r] 1):=
 sp call170 func170 rfl ntmps170 rfl fun D0 As η0 m0 hd=>by
  unfold EX at hm;refine gi hm (by kernel_rfl) (fun hc1 hm=> ?_) fun hc1 hm=> ?_
  ·skip;refine VB (k:=1) eB ([(toB a0)]:List UInt8) (fun _=>rfl) (by kernel_rfl) ?_;have e0:=Option.some.inj hm;subst e0;exact Au hd (by kernel_rfl)
  refine gi hm (by kernel_rfl) (fun hc2 hm=> ?_) fun hc2 hm=> ?_
  ·skip;refine VB (k:=1) eB ([129,(toB a0)]:List UInt8) (fun _=>rfl) (by kernel_rfl) ?_;have e0:=Option.some.inj hm;subst e0;exact Au hd (by kernel_rfl)
  have hm:=AE hm;let x1:Int:=(w64 (Int.tdiv a0 256));refine VB (k:=1) eB ([130,(toB x1),(toB a0)]:List UInt8) (fun _=>rfl) (by kernel_rfl) ?_;have e0:=Option.some.inj hm;subst e0;exact Au hd (by kernel_rfl)
def LD (rF:g_api_Item→Option (List UInt8)):Prop:= ∀{a0:g_api_Item} {r:List UInt8},rF a0=some r→Sp prog 119 [ag (Af a0)] [] 0 (is (.ow 0) [.row 0 1 _ eB r] 1)
def A4 (rF:g_api_Item→Option (List UInt8))(a0:g_api_Item)(s1:(List UInt8)×Int):Option (((List UInt8)×Int)⊕((List UInt8))):=if(decide (s1.2<(a0.L.length:Int)))=true then Ac (idx a0.L s1.2) fun x5=>Ac (rF x5) fun x6=>Ac (app 1 s1.1 x6) fun x7=>some (.inl (x7,(w64 (s1.2+1))))else some (.inr s1.1)
def Em (rF:g_api_Item→Option (List UInt8))(a0:g_api_Item):Option (List UInt8):=Ac (app 1 ([]:List UInt8) a0.B) fun x1=>Ac (Ac (iter ((A4 rF) a0) A0 (x1,0)) fun x3=>some x3) fun x2=>Ac (EX (x2.length:Int)) fun x8=>Ac (app 1 ([(toB a0.Tag)]:List UInt8) x8) fun x9=>Ac (app 1 x9 x2) fun x10=>some x10
theorem Nl {rF:g_api_Item→Option (List UInt8)}(hF:LD rF){a0:g_api_Item}{r:List UInt8}(hm:Em rF a0=some r):Sp prog 119 [ag (Af a0)] [] 0 (is (.ow 0) [.row 0 1 _ eB r] 1):=
 sp call119 func119 rfl ntmps119 rfl fun D0 As η0 m0 hd=>by
  unfold Em at hm;refine VB (k:=1) eB ([]:List UInt8) (fun _=>rfl) (by kernel_rfl) ?_;obtain⟨x1,q1,hm⟩:=Aa hm;refine KS (k:=1) (E:=eB) (fun _=>rfl) q1 (by kernel_rfl) ?_;obtain⟨x2,q2,hm⟩:=Aa hm;obtain⟨x3,q3,q2⟩:=Aa q2;refine gjU 0 (fun(_:Unit)=>⟨[(1,.pb 0 0),(3,.ow 1)],[(0,.row 1 1 _ eB x2),(1,.box 0 [.d (.i a0.Tag),sl eB a0.B,sl Af a0.L] 79)],[],2⟩) (fun _=>True) (by kernel_rfl) (fun Jp bk1=> ?_) fun _ _=> ?_
  ·refine gjU 0 (fun(_:Unit)=>⟨[(1,.pb 0 0),(3,.ow 1)],[(0,.row 1 1 _ eB x3),(1,.box 0 [.d (.i a0.Tag),sl eB a0.B,sl Af a0.L] 79)],[],2⟩) (fun _=>True) (by kernel_rfl) (fun Jp bk2=> ?_) fun _ _=> ?_
   ·refine gl hd (fun(p:Nat×((List UInt8)×Int))=>let (p0,p_0,p_1):=p; ⟨[(1,.pb 0 0),(3,.ow 1),(4,.d (.i p_1))],[(0,.row 1 1 _ eB p_0),(1,.box 0 [.d (.i a0.Tag),sl eB a0.B,sl Af a0.L] 79)],[],2⟩) (fun p=>iter ((A4 rF) a0) p.1 p.2=some x3) (fun p=>p.1) (A0,(x1,0)) q3 (by kernel_rfl) ?_;rintro⟨n1,s1⟩ q4 Jl bl1;cases n1 with
    |zero=>exact(Ar q4).elim
    |succ n1=>
     obtain⟨y1,q6,q5⟩:=Ao q4;unfold A4 at q6;refine gi q6 (by kernel_rfl) (fun hc1 q6=> ?_) fun hc1 q6=> ?_
     ·skip;obtain⟨x5,q8,q6⟩:=Aa q6;refine Hc (k:=3) (E:=Af) (fun _=>rfl) (fun _=>q8) (by kernel_rfl) ?_;obtain⟨x6,q9,q6⟩:=Aa q6;refine gco (hF q9) (by kernel_rfl) ?_;obtain⟨x7,q10,q6⟩:=Aa q6;refine KS (k:=1) (E:=eB) (fun _=>rfl) q10 (by kernel_rfl) ?_;have e0:=Option.some.inj q6;subst e0;rcases q5 with ⟨sn,e,q5'⟩|e
      ·have e:=Sum.inl.inj e;subst e;exact gb bl1 hd (n1,_) ⟨q5',Nat.lt_succ_self _⟩ (by kernel_rfl)
      cases AN e
     have e0:=Option.some.inj q6;subst e0;rcases q5 with ⟨sn,e,_⟩|e
     ·cases B2 e
     have e:=Sum.inr.inj e;subst e;exact gb bk2 hd () trivial (by kernel_rfl)
   have e0:=Option.some.inj q2;subst e0;exact gb bk1 hd () trivial (by kernel_rfl)
  refine VB (k:=1) eB ([(toB a0.Tag)]:List UInt8) (fun _=>rfl) (by kernel_rfl) ?_;obtain⟨x8,q11,hm⟩:=Aa hm;refine gco (Oo q11) (by kernel_rfl) ?_;obtain⟨x9,q12,hm⟩:=Aa hm;refine KS (k:=1) (E:=eB) (fun _=>rfl) q12 (by kernel_rfl) ?_;obtain⟨x10,q13,hm⟩:=Aa hm;refine KS (k:=1) (E:=eB) (fun _=>rfl) q13 (by kernel_rfl) ?_;have e0:=Option.some.inj hm;subst e0;exact Au hd (by kernel_rfl)
def C5:Nat→g_api_Item→Option (List UInt8)
 |0,_=>none
 |n+1,a0=>Em (C5 n) a0
def I6 (a0:g_api_Item):Option (List UInt8):=C5 A0 a0
theorem Kl: ∀n,LD (C5 n)
 |0=>fun hm=>by cases hm
 |n+1=>fun hm=>Nl (Kl n) hm
theorem PA {a0:g_api_Item}{r:List UInt8}(hm:I6 a0=some r):Sp prog 119 [ag (Af a0)] [] 0 (is (.ow 0) [.row 0 1 _ eB r] 1):=Kl A0 hm
def Gy (a0:g_api_Item):Option ((List UInt8)×Int):=Ac (HN a0) fun x1=>if(!x1)=true then some (([]:List UInt8),1)else Ac (I6 a0) fun x2=>if(decide ((x2.length:Int)>8192))=true then some (([]:List UInt8),2)else some (x2,0)
theorem Nm {a0:g_api_Item}{r:(List UInt8)×Int}(hm:Gy a0=some r):Sp prog 67 [ag (Af a0)] [] 0 (is (.tup [.ow 0,.d (.i r.2)]) [.row 0 1 _ eB r.1] 1):=
 sp call67 func67 rfl ntmps67 rfl fun D0 As η0 m0 hd=>by
  unfold Gy at hm;obtain⟨x1,q1,hm⟩:=Aa hm;refine gc (fun _=>Sz q1) (by kernel_rfl) ?_;refine gi hm (by kernel_rfl) (fun hc1 hm=> ?_) fun hc1 hm=> ?_
  ·skip;refine Ab3 eB 2 1 (by kernel_rfl) ?_;have e0:=Option.some.inj hm;subst e0;exact Au hd (by kernel_rfl)
  obtain⟨x2,q2,hm⟩:=Aa hm;refine gco (PA q2) (by kernel_rfl) ?_;refine gi hm (by kernel_rfl) (fun hc2 hm=> ?_) fun hc2 hm=> ?_
  ·skip;refine Ab3 eB 2 1 (by kernel_rfl) ?_;have e0:=Option.some.inj hm;subst e0;exact Au hd (by kernel_rfl)
  have e0:=Option.some.inj hm;subst e0;exact Au hd (by kernel_rfl)
def Eo (a0:List g_api_Item):Option g_api_Item:=Ac (app 56 ([]:List g_api_Item) a0) fun x1=>some (⟨48,[],x1⟩:g_api_Item)
theorem IU {a0:List g_api_Item}{r:g_api_Item}(hm:Eo a0=some r):Sf prog 120 [sl Af a0] (ag (Af r)):=
 sp call120 func120 rfl ntmps120 rfl fun D0 As η0 m0 hd=>by
  unfold Eo at hm;refine VB (k:=3) Af ([]:List g_api_Item) (fun _=>rfl) (by kernel_rfl) ?_;obtain⟨x1,q1,hm⟩:=Aa hm;refine KS (k:=3) (E:=Af) (fun _=>rfl) q1 (by kernel_rfl) ?_;have e0:=Option.some.inj hm;subst e0;exact Au hd (by kernel_rfl)
def De (s1:(List UInt8)×Int):Option (((List UInt8)×Int)⊕((List UInt8))):=Ac (gu (s1.2==0) (idx s1.1 0)) fun x4=>Ac (gu ((!((s1.2==0)&&(decide ((x4.toNat:Int)<128))))&&(s1.2==(-1))) (idx s1.1 0)) fun x5=>if((!((s1.2==0)&&(decide ((x4.toNat:Int)<128))))&&(!((s1.2==(-1))&&(decide ((x5.toNat:Int)≥128)))))=true then Ac (app 1 ([(toB s1.2)]:List UInt8) s1.1) fun x6=>some (.inl (x6,(Dl s1.2 8)))else some (.inr s1.1)
def B6 (a0:Int):Option g_api_Item:=Ac (Ac (iter De A0 (([(toB a0)]:List UInt8),(Dl a0 8))) fun x2=>some x2) fun x1=>some (⟨2,x1,[]⟩:g_api_Item)
theorem DB {a0:Int}{r:g_api_Item}(hm:B6 a0=some r):Sf prog 122 [.d (.i a0)] (ag (Af r)):=
 sp call122 func122 rfl ntmps122 rfl fun D0 As η0 m0 hd=>by
  unfold B6 at hm;refine EC (k:=1) eB ([(toB a0)]:List UInt8) (fun _=>rfl) (by kernel_rfl) ?_;obtain⟨x1,q1,hm⟩:=Aa hm;obtain⟨x2,q2,q1⟩:=Aa q1;refine gjU 0 (fun(_:Unit)=>⟨[(2,.pb 0 0),(3,sl eB x1)],[(0,.box 0 [.d (.i 0),sl eB [],sl Af []] 79)],[],1⟩) (fun _=>True) (by kernel_rfl) (fun Jp bk1=> ?_) fun _ _=> ?_
  ·refine gjU 0 (fun(_:Unit)=>⟨[(2,.pb 0 0),(3,sl eB x2)],[(0,.box 0 [.d (.i 0),sl eB [],sl Af []] 79)],[],1⟩) (fun _=>True) (by kernel_rfl) (fun Jp bk2=> ?_) fun _ _=> ?_
   ·refine gl hd (fun(p:Nat×((List UInt8)×Int))=>let (p0,p_0,p_1):=p; ⟨[(2,.pb 0 0),(3,sl eB p_0),(4,.d (.i p_1))],[(0,.box 0 [.d (.i 0),sl eB [],sl Af []] 79)],[],1⟩) (fun p=>iter De p.1 p.2=some x2) (fun p=>p.1) (A0,(([(toB a0)]:List UInt8),(Dl a0 8))) q2 (by kernel_rfl) ?_;rintro⟨n1,s1⟩ q3 Jl bl1;cases n1 with
    |zero=>exact(Ar q3).elim
    |succ n1=>
     obtain⟨y1,q5,q4⟩:=Ao q3;unfold De at q5;obtain⟨x4,q7,q5⟩:=Aa q5;refine Kk (k:=1) (E:=eB) (fun _=>rfl) (fun h=>DX h q7) (by kernel_rfl) ?_;obtain⟨x5,q8,q5⟩:=Aa q5;refine Kk (k:=1) (E:=eB) (fun _=>rfl) (fun h=>DX h q8) (by kernel_rfl) ?_;refine gi q5 (by kernel_rfl) (fun hc1 q5=> ?_) fun hc1 q5=> ?_
     ·skip;refine VB (k:=1) eB ([(toB s1.2)]:List UInt8) (fun _=>rfl) (by kernel_rfl) ?_;obtain⟨x6,q9,q5⟩:=Aa q5;refine KS (k:=1) (E:=eB) (fun _=>rfl) q9 (by kernel_rfl) ?_;have e0:=Option.some.inj q5;subst e0;rcases q4 with ⟨sn,e,q4'⟩|e
      ·have e:=Sum.inl.inj e;subst e;exact gb bl1 hd (n1,_) ⟨q4',Nat.lt_succ_self _⟩ (by kernel_rfl)
      cases AN e
     have e0:=Option.some.inj q5;subst e0;rcases q4 with ⟨sn,e,_⟩|e
     ·cases B2 e
     have e:=Sum.inr.inj e;subst e;exact gb bk2 hd () trivial (by kernel_rfl)
   have e0:=Option.some.inj q1;subst e0;exact gb bk1 hd () trivial (by kernel_rfl)
  have e0:=Option.some.inj hm;subst e0;exact Au hd (by kernel_rfl)
def Fb (a0:UInt64)(a1:UInt64):Option (List g_api_Item):=Ac (B6 (w64 (a0.toNat:Int))) fun x1=>Ac (B6 (w64 (a1.toNat:Int))) fun x2=>some ([x1,x2]:List g_api_Item)
theorem Ky {a0:UInt64}{a1:UInt64}{r:List g_api_Item}(hm:Fb a0 a1=some r):Sp prog 121 [.d (.u a0),.d (.u a1)] [] 0 (is (.ow 0) [.row 0 3 _ Af r] 1):=
 sp call121 func121 rfl ntmps121 rfl fun D0 As η0 m0 hd=>by
  unfold Fb at hm;obtain⟨x1,q1,hm⟩:=Aa hm;refine gc (fun _=>DB q1) (by kernel_rfl) ?_;obtain⟨x2,q2,hm⟩:=Aa hm;refine gc (fun _=>DB q2) (by kernel_rfl) ?_;refine VB (k:=3) Af ([x1,x2]:List g_api_Item) (fun _=>rfl) (by kernel_rfl) ?_;have e0:=Option.some.inj hm;subst e0;exact Au hd (by kernel_rfl)
def En (a0:ByteArray):Option g_api_Item:=Ac (app 1 ([]:List UInt8) a0.data.toList) fun x1=>some (⟨12,x1,[]⟩:g_api_Item)
theorem Jz {a0:ByteArray}{r:g_api_Item}(hm:En a0=some r):Sf prog 171 [.d (.s a0)] (ag (Af r)):=
 sp call171 func171 rfl ntmps171 rfl fun D0 As η0 m0 hd=>by
  unfold En at hm;obtain⟨x1,q1,hm⟩:=Aa hm;refine gofS q1 (by kernel_rfl) ?_;have e0:=Option.some.inj hm;subst e0;exact Au hd (by kernel_rfl)
def A3 (a0:List ByteArray)(s1:Int×(List g_api_Item)):Option ((Int×(List g_api_Item))⊕((List g_api_Item))):=if(decide (s1.1<(a0.length:Int)))=true then Ac (idx a0 s1.1) fun x4=>Ac (En x4) fun x5=>Ac (app 56 s1.2 ([x5]:List g_api_Item)) fun x6=>some (.inl ((w64 (s1.1+1)),x6))else some (.inr s1.2)
def EG (a0:List ByteArray):Option g_api_Item:=Ac (Ac (iter (A3 a0) A0 (0,([]:List g_api_Item))) fun x2=>some x2) fun x1=>some (⟨48,[],x1⟩:g_api_Item)
theorem K3 {a0:List ByteArray}{r:g_api_Item}(hm:EG a0=some r):Sf prog 172 [sl eS a0] (ag (Af r)):=
 sp call172 func172 rfl ntmps172 rfl fun D0 As η0 m0 hd=>by
  unfold EG at hm;obtain⟨x1,q1,hm⟩:=Aa hm;obtain⟨x2,q2,q1⟩:=Aa q1;refine Xt 0 Af 3 2 3 (by kernel_rfl) ?_;refine gjU 0 (fun(_:Unit)=>⟨[(2,.pb 0 0),(3,.pb 1 0)],[(0,.row 2 3 _ Af x1),(1,.box 1 [.d (.i 48),sl eB [],.ow 2] 79),(2,.box 0 [.d (.i 0),sl eB [],sl Af []] 79)],[],3⟩) (fun _=>True) (by kernel_rfl) (fun Jp bk1=> ?_) fun _ _=> ?_
  ·refine gjU 0 (fun(_:Unit)=>⟨[(2,.pb 0 0),(3,.pb 1 0)],[(0,.row 2 3 _ Af x2),(1,.box 1 [.d (.i 48),sl eB [],.ow 2] 79),(2,.box 0 [.d (.i 0),sl eB [],sl Af []] 79)],[],3⟩) (fun _=>True) (by kernel_rfl) (fun Jp bk2=> ?_) fun _ _=> ?_
   ·refine gl hd (fun(p:Nat×(Int×(List g_api_Item)))=>let (p0,p_0,p_1):=p; ⟨[(0,sl eS a0),(2,.pb 0 0),(3,.pb 1 0),(4,.d (.i p_0))],[(0,.row 2 3 _ Af p_1),(1,.box 1 [.d (.i 48),sl eB [],.ow 2] 79),(2,.box 0 [.d (.i 0),sl eB [],sl Af []] 79)],[],3⟩) (fun p=>iter (A3 a0) p.1 p.2=some x2) (fun p=>p.1) (A0,(0,([]:List g_api_Item))) q2 (by kernel_rfl) ?_;rintro⟨n1,s1⟩ q3 Jl bl1;cases n1 with
    |zero=>exact(Ar q3).elim
    |succ n1=>
     obtain⟨y1,q5,q4⟩:=Ao q3;unfold A3 at q5;refine gi q5 (by kernel_rfl) (fun hc1 q5=> ?_) fun hc1 q5=> ?_
     ·skip;obtain⟨x4,q7,q5⟩:=Aa q5;refine Hc (k:=1) (E:=eS) (fun _=>rfl) (fun _=>q7) (by kernel_rfl) ?_;obtain⟨x5,q8,q5⟩:=Aa q5;refine gc (fun _=>Jz q8) (by kernel_rfl) ?_;refine EC (k:=3) Af ([x5]:List g_api_Item) (fun _=>rfl) (by kernel_rfl) ?_;obtain⟨x6,q9,q5⟩:=Aa q5;refine KS (k:=3) (E:=Af) (fun _=>rfl) q9 (by kernel_rfl) ?_;have e0:=Option.some.inj q5;subst e0;rcases q4 with ⟨sn,e,q4'⟩|e
      ·have e:=Sum.inl.inj e;subst e;exact gb bl1 hd (n1,_) ⟨q4',Nat.lt_succ_self _⟩ (by kernel_rfl)
      cases AN e
     have e0:=Option.some.inj q5;subst e0;rcases q4 with ⟨sn,e,_⟩|e
     ·cases B2 e
     have e:=Sum.inr.inj e;subst e;exact gb bk2 hd () trivial (by kernel_rfl)
   have e0:=Option.some.inj q1;subst e0;exact gb bk1 hd () trivial (by kernel_rfl)
  have e0:=Option.some.inj hm;subst e0;exact Au hd (by kernel_rfl)
def Ig (a0:Bool):Option g_api_Item:=if a0=true then some (⟨1,([255]:List UInt8),[]⟩:g_api_Item)else some (⟨1,([0]:List UInt8),[]⟩:g_api_Item)
theorem Rc {a0:Bool}{r:g_api_Item}(hm:Ig a0=some r):Sf prog 173 [.d (.t a0)] (ag (Af r)):=
 sp call173 func173 rfl ntmps173 rfl fun D0 As η0 m0 hd=>by
  unfold Ig at hm;refine gi hm (by kernel_rfl) (fun hc1 hm=> ?_) fun hc1 hm=> ?_
  ·skip;refine EC (k:=1) eB ([255]:List UInt8) (fun _=>rfl) (by kernel_rfl) ?_;have e0:=Option.some.inj hm;subst e0;exact Au hd (by kernel_rfl)
  refine EC (k:=1) eB ([0]:List UInt8) (fun _=>rfl) (by kernel_rfl) ?_;have e0:=Option.some.inj hm;subst e0;exact Au hd (by kernel_rfl)
def HI (a0:g_api_Cert):Option g_api_Item:=Ac (B6 a0.Serial) fun x1=>Ac (En a0.Issuer) fun x2=>Ac (En a0.Subject) fun x3=>Ac (B6 (w64 (a0.Key.toNat:Int))) fun x4=>Ac (EG a0.Names) fun x5=>Ac (B6 a0.From) fun x6=>Ac (B6 a0.Until) fun x7=>Ac (Ig a0.Ca) fun x8=>Ac (B6 a0.Depth) fun x9=>Ac (EG a0.Permit) fun x10=>Ac (Eo ([x1,x2,x3,x4,x5,x6,x7,x8,x9,x10]:List g_api_Item)) fun x11=>some x11
theorem Sx {a0:g_api_Cert}{r:g_api_Item}(hm:HI a0=some r):Sf prog 123 [ag (Ae a0)] (ag (Af r)):=
 sp call123 func123 rfl ntmps123 rfl fun D0 As η0 m0 hd=>by
  unfold HI at hm;obtain⟨x1,q1,hm⟩:=Aa hm;refine gc (fun _=>DB q1) (by kernel_rfl) ?_;obtain⟨x2,q2,hm⟩:=Aa hm;refine gc (fun _=>Jz q2) (by kernel_rfl) ?_;obtain⟨x3,q3,hm⟩:=Aa hm;refine gc (fun _=>Jz q3) (by kernel_rfl) ?_;obtain⟨x4,q4,hm⟩:=Aa hm;refine gc (fun _=>DB q4) (by kernel_rfl) ?_;obtain⟨x5,q5,hm⟩:=Aa hm;refine gc (fun _=>K3 q5) (by kernel_rfl) ?_;obtain⟨x6,q6,hm⟩:=Aa hm;refine gc (fun _=>DB q6) (by kernel_rfl) ?_;obtain⟨x7,q7,hm⟩:=Aa hm;refine gc (fun _=>DB q7) (by kernel_rfl) ?_;obtain⟨x8,q8,hm⟩:=Aa hm;refine gc (fun _=>Rc q8) (by kernel_rfl) ?_;obtain⟨x9,q9,hm⟩:=Aa hm;refine gc (fun _=>DB q9) (by kernel_rfl) ?_;obtain⟨x10,q10,hm⟩:=Aa hm;refine gc (fun _=>K3 q10) (by kernel_rfl) ?_;refine EC (k:=3) Af ([x1,x2,x3,x4,x5,x6,x7,x8,x9,x10]:List g_api_Item) (fun _=>rfl) (by kernel_rfl) ?_;obtain⟨x11,q11,hm⟩:=Aa hm;refine gc (fun _=>IU q11) (by kernel_rfl) ?_;have e0:=Option.some.inj hm;subst e0;exact Au hd (by kernel_rfl)
def FM (a0:List g_api_Item):Option g_api_Item:=Ac (app 56 ([]:List g_api_Item) a0) fun x1=>some (⟨48,[],x1⟩:g_api_Item)
theorem PB {a0:List g_api_Item}{r:g_api_Item}(hm:FM a0=some r):Sp prog 120 [sl Af a0] [] 0 (is (.agg (List.set (((Af r)).map dv) 2 (.ow 0))) [.row 0 3 _ Af r.L] 1):=
 sp call120 func120 rfl ntmps120 rfl fun D0 As η0 m0 hd=>by
  unfold FM at hm;refine VB (k:=3) Af ([]:List g_api_Item) (fun _=>rfl) (by kernel_rfl) ?_;obtain⟨x1,q1,hm⟩:=Aa hm;refine KS (k:=3) (E:=Af) (fun _=>rfl) q1 (by kernel_rfl) ?_;have e0:=Option.some.inj hm;subst e0;exact Au hd (by kernel_rfl)
def Bh (a0:g_api_Cert)(s1:Int×(List g_api_Item)):Option ((Int×(List g_api_Item))⊕((List g_api_Item))):=if(decide (s1.1<(a0.Proms.length:Int)))=true then Ac (idx a0.Proms s1.1) fun x4=>Ac (B6 x4.Log) fun x5=>Ac (B6 x4.At) fun x6=>Ac (FM ([x5,x6]:List g_api_Item)) fun x7=>Ac (Fb x4.Leaf.1 x4.Leaf.2) fun x8=>Ac (app 56 x7.L x8) fun x9=>Ac (Fb x4.Sig.E x4.Sig.S) fun x10=>Ac (app 56 x9 x10) fun x11=>Ac (app 56 s1.2 ([(⟨x7.Tag,x7.B,x11⟩:g_api_Item)]:List g_api_Item)) fun x12=>some (.inl ((w64 (s1.1+1)),x12))else some (.inr s1.2)
def Fo (a0:g_api_Cert):Option g_api_Item:=Ac (Ac (iter (Bh a0) A0 (0,([]:List g_api_Item))) fun x2=>some x2) fun x1=>Ac (HI a0) fun x13=>Ac (Eo ([x13,(⟨48,[],x1⟩:g_api_Item)]:List g_api_Item)) fun x14=>some x14
theorem Ml {a0:g_api_Cert}{r:g_api_Item}(hm:Fo a0=some r):Sf prog 70 [ag (Ae a0)] (ag (Af r)):=
 sp call70 func70 rfl ntmps70 rfl fun D0 As η0 m0 hd=>by
  unfold Fo at hm;obtain⟨x1,q1,hm⟩:=Aa hm;obtain⟨x2,q2,q1⟩:=Aa q1;refine Xt 0 Af 3 2 3 (by kernel_rfl) ?_;refine gjU 0 (fun(_:Unit)=>⟨[(1,.pb 0 0),(2,.pb 1 0),(3,.pb 2 0)],[(0,.row 3 3 _ Af x1),(1,.box 2 [.d (.i 48),sl eB [],.ow 3] 79),(2,.box 1 [.d (.i 0),sl eB [],sl Af []] 79),(3,.box 0 [.d (.i a0.Serial),.d (.s a0.Issuer),.d (.s a0.Subject),.d (.u a0.Key),sl eS a0.Names,.d (.i a0.From),.d (.i a0.Until),.d (.t a0.Ca),.d (.i a0.Depth),sl eS a0.Permit,sl Ai a0.Proms,.d (.u a0.Sig.E),.d (.u a0.Sig.S)] 28)],[],4⟩) (fun _=>True) (by kernel_rfl) (fun Jp bk1=> ?_) fun _ _=> ?_
  ·refine gjU 0 (fun(_:Unit)=>⟨[(1,.pb 0 0),(2,.pb 1 0),(3,.pb 2 0)],[(0,.row 3 3 _ Af x2),(1,.box 2 [.d (.i 48),sl eB [],.ow 3] 79),(2,.box 1 [.d (.i 0),sl eB [],sl Af []] 79),(3,.box 0 [.d (.i a0.Serial),.d (.s a0.Issuer),.d (.s a0.Subject),.d (.u a0.Key),sl eS a0.Names,.d (.i a0.From),.d (.i a0.Until),.d (.t a0.Ca),.d (.i a0.Depth),sl eS a0.Permit,sl Ai a0.Proms,.d (.u a0.Sig.E),.d (.u a0.Sig.S)] 28)],[],4⟩) (fun _=>True) (by kernel_rfl) (fun Jp bk2=> ?_) fun _ _=> ?_
   ·refine gl hd (fun(p:Nat×(Int×(List g_api_Item)))=>let (p0,p_0,p_1):=p; ⟨[(1,.pb 0 0),(2,.pb 1 0),(3,.pb 2 0),(4,.d (.i p_0))],[(0,.row 3 3 _ Af p_1),(1,.box 2 [.d (.i 48),sl eB [],.ow 3] 79),(2,.box 1 [.d (.i 0),sl eB [],sl Af []] 79),(3,.box 0 [.d (.i a0.Serial),.d (.s a0.Issuer),.d (.s a0.Subject),.d (.u a0.Key),sl eS a0.Names,.d (.i a0.From),.d (.i a0.Until),.d (.t a0.Ca),.d (.i a0.Depth),sl eS a0.Permit,sl Ai a0.Proms,.d (.u a0.Sig.E),.d (.u a0.Sig.S)] 28)],[],4⟩) (fun p=>iter (Bh a0) p.1 p.2=some x2) (fun p=>p.1) (A0,(0,([]:List g_api_Item))) q2 (by kernel_rfl) ?_;rintro⟨n1,s1⟩ q3 Jl bl1;cases n1 with
    |zero=>exact(Ar q3).elim
    |succ n1=>
     obtain⟨y1,q5,q4⟩:=Ao q3;unfold Bh at q5;refine gi q5 (by kernel_rfl) (fun hc1 q5=> ?_) fun hc1 q5=> ?_
     ·skip;obtain⟨x4,q7,q5⟩:=Aa q5;refine Hc (k:=6) (E:=Ai) (fun _=>rfl) (fun _=>q7) (by kernel_rfl) ?_;obtain⟨x5,q8,q5⟩:=Aa q5;refine gc (fun _=>DB q8) (by kernel_rfl) ?_;obtain⟨x6,q9,q5⟩:=Aa q5;refine gc (fun _=>DB q9) (by kernel_rfl) ?_;refine EC (k:=3) Af ([x5,x6]:List g_api_Item) (fun _=>rfl) (by kernel_rfl) ?_;obtain⟨x7,q10,q5⟩:=Aa q5;refine gco (PB q10) (by kernel_rfl) ?_;obtain⟨x8,q11,q5⟩:=Aa q5;refine gco (Ky q11) (by kernel_rfl) ?_;obtain⟨x9,q12,q5⟩:=Aa q5;refine KS (k:=3) (E:=Af) (fun _=>rfl) q12 (by kernel_rfl) ?_;obtain⟨x10,q13,q5⟩:=Aa q5;refine gco (Ky q13) (by kernel_rfl) ?_;obtain⟨x11,q14,q5⟩:=Aa q5;refine KS (k:=3) (E:=Af) (fun _=>rfl) q14 (by kernel_rfl) ?_;refine Vs (k:=3) Af ([(⟨x7.Tag,x7.B,x11⟩:g_api_Item)]:List g_api_Item) (fun _=>rfl) (by kernel_rfl) ?_;obtain⟨x12,q15,q5⟩:=Aa q5;refine KS (k:=3) (E:=Af) (fun _=>rfl) q15 (by kernel_rfl) ?_;have e0:=Option.some.inj q5;subst e0;rcases q4 with ⟨sn,e,q4'⟩|e
      ·have e:=Sum.inl.inj e;subst e;exact gb bl1 hd (n1,_) ⟨q4',Nat.lt_succ_self _⟩ (by kernel_rfl)
      cases AN e
     have e0:=Option.some.inj q5;subst e0;rcases q4 with ⟨sn,e,_⟩|e
     ·cases B2 e
     have e:=Sum.inr.inj e;subst e;exact gb bk2 hd () trivial (by kernel_rfl)
   have e0:=Option.some.inj q1;subst e0;exact gb bk1 hd () trivial (by kernel_rfl)
  obtain⟨x13,q16,hm⟩:=Aa hm;refine gc (fun _=>Sx q16) (by kernel_rfl) ?_;refine Vs (k:=3) Af ([x13,(⟨48,[],x1⟩:g_api_Item)]:List g_api_Item) (fun _=>rfl) (by kernel_rfl) ?_;obtain⟨x14,q17,hm⟩:=Aa hm;refine gc (fun _=>IU q17) (by kernel_rfl) ?_;have e0:=Option.some.inj hm;subst e0;exact Au hd (by kernel_rfl)
def FJ (a0:g_api_Cert):Option g_api_Item:=Ac (Fo a0) fun x1=>Ac (Fb a0.Sig.E a0.Sig.S) fun x2=>Ac (Eo x2) fun x3=>Ac (Eo ([x1,x3]:List g_api_Item)) fun x4=>some x4
theorem Pw {a0:g_api_Cert}{r:g_api_Item}(hm:FJ a0=some r):Sf prog 68 [ag (Ae a0)] (ag (Af r)):=
 sp call68 func68 rfl ntmps68 rfl fun D0 As η0 m0 hd=>by
  unfold FJ at hm;obtain⟨x1,q1,hm⟩:=Aa hm;refine gc (fun _=>Ml q1) (by kernel_rfl) ?_;obtain⟨x2,q2,hm⟩:=Aa hm;refine gco (Ky q2) (by kernel_rfl) ?_;obtain⟨x3,q3,hm⟩:=Aa hm;refine gco (IU q3) (by kernel_rfl) ?_;refine EC (k:=3) Af ([x1,x3]:List g_api_Item) (fun _=>rfl) (by kernel_rfl) ?_;obtain⟨x4,q4,hm⟩:=Aa hm;refine gc (fun _=>IU q4) (by kernel_rfl) ?_;have e0:=Option.some.inj hm;subst e0;exact Au hd (by kernel_rfl)
def DD (a0:g_api_Cert):Option Int:=Ac (GX a0) fun x1=>if(!x1)=true then some 1 else Ac (FJ a0) fun x2=>Ac (Gy x2) fun x3=>if((x3.2 !=0)||(decide ((x3.1.length:Int)>2048)))=true then some 2 else some 0
theorem IT {a0:g_api_Cert}{r:Int}(hm:DD a0=some r):Sf prog 30 [ag (Ae a0)] (.d (.i r)):=
 sp call30 func30 rfl ntmps30 rfl fun D0 As η0 m0 hd=>by
  unfold DD at hm;obtain⟨x1,q1,hm⟩:=Aa hm;refine gc (fun _=>Q5 q1) (by kernel_rfl) ?_;refine gi hm (by kernel_rfl) (fun hc1 hm=> ?_) fun hc1 hm=> ?_
  ·skip;have e0:=Option.some.inj hm;subst e0;exact Au hd (by kernel_rfl)
  obtain⟨x2,q2,hm⟩:=Aa hm;refine gc (fun _=>Pw q2) (by kernel_rfl) ?_;obtain⟨x3,q3,hm⟩:=Aa hm;refine gco (Nm q3) (by kernel_rfl) ?_;refine gi hm (by kernel_rfl) (fun hc2 hm=> ?_) fun hc2 hm=> ?_
  ·skip;have e0:=Option.some.inj hm;subst e0;exact Au hd (by kernel_rfl)
  have e0:=Option.some.inj hm;subst e0;exact Au hd (by kernel_rfl)
def Hk (a0:g_api_Cert)(a1:g_api_Item):Option ((List UInt8)×Int):=Ac (DD a0) fun x1=>if(x1 !=0)=true then some (([]:List UInt8),x1)else Ac (Gy a1) fun x2=>some (x2.1,0)
theorem Px {a0:g_api_Cert}{a1:g_api_Item}{r:(List UInt8)×Int}(hm:Hk a0 a1=some r):Sp prog 69 [ag (Ae a0),ag (Af a1)] [] 0 (is (.tup [.ow 0,.d (.i r.2)]) [.row 0 1 _ eB r.1] 1):=
 sp call69 func69 rfl ntmps69 rfl fun D0 As η0 m0 hd=>by
  unfold Hk at hm;obtain⟨x1,q1,hm⟩:=Aa hm;refine gc (fun _=>IT q1) (by kernel_rfl) ?_;refine gi hm (by kernel_rfl) (fun hc1 hm=> ?_) fun hc1 hm=> ?_
  ·skip;refine Ab3 eB 4 1 (by kernel_rfl) ?_;have e0:=Option.some.inj hm;subst e0;exact Au hd (by kernel_rfl)
  obtain⟨x2,q2,hm⟩:=Aa hm;refine gco (Nm q2) (by kernel_rfl) ?_;have e0:=Option.some.inj hm;subst e0;exact Au hd (by kernel_rfl)
def GY (a0:g_api_Cert):Option ((List UInt8)×Int):=Ac (Fo a0) fun x1=>Ac (Hk a0 x1) fun x2=>some (x2.1,x2.2)
theorem Q7 {a0:g_api_Cert}{r:(List UInt8)×Int}(hm:GY a0=some r):Sp prog 31 [ag (Ae a0)] [] 0 (is (.tup [.ow 0,.d (.i r.2)]) [.row 0 1 _ eB r.1] 1):=
 sp call31 func31 rfl ntmps31 rfl fun D0 As η0 m0 hd=>by
  unfold GY at hm;obtain⟨x1,q1,hm⟩:=Aa hm;refine gc (fun _=>Ml q1) (by kernel_rfl) ?_;obtain⟨x2,q2,hm⟩:=Aa hm;refine gco (Px q2) (by kernel_rfl) ?_;have e0:=Option.some.inj hm;subst e0;exact Au hd (by kernel_rfl)
def HO (a0:UInt64)(a1:UInt64)(a2:UInt64):Option UInt64:=if(decide ((a0.toNat:Int)≥((a2-a1).toNat:Int)))=true then some (a0-(a2-a1))else some (a0+a1)
theorem Nn {a0:UInt64}{a1:UInt64}{a2:UInt64}{r:UInt64}(hm:HO a0 a1 a2=some r):Sf prog 174 [.d (.u a0),.d (.u a1),.d (.u a2)] (.d (.u r)):=
 sp call174 func174 rfl ntmps174 rfl fun D0 As η0 m0 hd=>by
  unfold HO at hm;refine gi hm (by kernel_rfl) (fun hc1 hm=> ?_) fun hc1 hm=> ?_
  ·skip;have e0:=Option.some.inj hm;subst e0;exact Au hd (by kernel_rfl)
  have e0:=Option.some.inj hm;subst e0;exact Au hd (by kernel_rfl)
def Ce (a0:UInt64)(a1:UInt64)(a2:UInt64)(s1:UInt64×Int):Option ((UInt64×Int)⊕(UInt64)):=if(decide (s1.2≥0))=true then Ac (Ac (HO s1.1 s1.1 a2) fun x5=>if((((CZ (a1%a2) ((toU s1.2).toNat))&&&1).toNat:Int)==1)=true then Ac (HO x5 (a0%a2) a2) fun x6=>some x6 else some x5) fun x4=>some (.inl (x4,(w64 (s1.2-1))))else some (.inr s1.1)
def DF (a0:UInt64)(a1:UInt64)(a2:UInt64):Option UInt64:=if a2≠0 then if a2≠0 then Ac (Ac (iter (Ce a0 a1 a2) A0 (0,63)) fun x2=>some x2) fun x1=>some x1 else none else none
theorem IV {a0:UInt64}{a1:UInt64}{a2:UInt64}{r:UInt64}(hm:DF a0 a1 a2=some r):Sf prog 125 [.d (.u a0),.d (.u a1),.d (.u a2)] (.d (.u r)):=
 sp call125 func125 rfl ntmps125 rfl fun D0 As η0 m0 hd=>by
  unfold DF at hm;obtain⟨q1,hm⟩:=B8 hm;refine Uy (d:= .u a2) (r:= .u (a0%a2)) (fun h=>q1) (by kernel_rfl) ?_;obtain⟨q2,hm⟩:=B8 hm;refine Uy (d:= .u a2) (r:= .u (a1%a2)) (fun h=>q2) (by kernel_rfl) ?_;obtain⟨x1,q3,hm⟩:=Aa hm;obtain⟨x2,q4,q3⟩:=Aa q3;refine gjU 0 (fun(_:Unit)=>⟨[(7,.d (.u x1))],[],[],0⟩) (fun _=>True) (by kernel_rfl) (fun Jp bk1=> ?_) fun _ _=> ?_
  ·refine gjU 0 (fun(_:Unit)=>⟨[(7,.d (.u x2))],[],[],0⟩) (fun _=>True) (by kernel_rfl) (fun Jp bk2=> ?_) fun _ _=> ?_
   ·refine gl hd (fun(p:Nat×(UInt64×Int))=>let (p0,p_0,p_1):=p; ⟨[(0,.d (.u (a0%a2))),(1,.d (.u (a1%a2))),(2,.d (.u a2)),(7,.d (.u p_0)),(8,.d (.i p_1))],[],[],0⟩) (fun p=>iter (Ce a0 a1 a2) p.1 p.2=some x2) (fun p=>p.1) (A0,(0,63)) q4 (by kernel_rfl) ?_;rintro⟨n1,s1⟩ q5 Jl bl1;cases n1 with
    |zero=>exact(Ar q5).elim
    |succ n1=>
     obtain⟨y1,q7,q6⟩:=Ao q5;unfold Ce at q7;refine gi q7 (by kernel_rfl) (fun hc1 q7=> ?_) fun hc1 q7=> ?_
     ·skip;obtain⟨x4,q9,q7⟩:=Aa q7;refine gjU 1 (fun(_:Unit)=>⟨[(0,.d (.u (a0%a2))),(1,.d (.u (a1%a2))),(2,.d (.u a2)),(7,.d (.u x4)),(8,.d (.i s1.2))],[],[],0⟩) (fun _=>True) (by kernel_rfl) (fun Jp bk3=> ?_) fun _ _=> ?_
      ·skip;obtain⟨x5,q10,q9⟩:=Aa q9;refine gc (fun _=>Nn q10) (by kernel_rfl) ?_;refine gi q9 (by kernel_rfl) (fun hc2 q9=> ?_) fun hc2 q9=> ?_
       ·obtain⟨x6,q11,q9⟩:=Aa q9;refine gc (fun _=>Nn q11) (by kernel_rfl) ?_;have e0:=Option.some.inj q9;subst e0;exact gb bk3 hd () trivial (by kernel_rfl)
       have e0:=Option.some.inj q9;subst e0;exact gb bk3 hd () trivial (by kernel_rfl)
      have e0:=Option.some.inj q7;subst e0;rcases q6 with ⟨sn,e,q6'⟩|e
      ·have e:=Sum.inl.inj e;subst e;exact gb bl1 hd (n1,_) ⟨q6',Nat.lt_succ_self _⟩ (by kernel_rfl)
      cases AN e
     have e0:=Option.some.inj q7;subst e0;rcases q6 with ⟨sn,e,_⟩|e
     ·cases B2 e
     have e:=Sum.inr.inj e;subst e;exact gb bk2 hd () trivial (by kernel_rfl)
   have e0:=Option.some.inj q3;subst e0;exact gb bk1 hd () trivial (by kernel_rfl)
  have e0:=Option.some.inj hm;subst e0;exact Au hd (by kernel_rfl)
def Cg (a0:UInt64)(a1:UInt64)(a2:UInt64)(s1:UInt64×Int):Option ((UInt64×Int)⊕(UInt64)):=if(decide (s1.2≥0))=true then Ac (Ac (DF s1.1 s1.1 a2) fun x5=>if((((CZ a1 ((toU s1.2).toNat))&&&1).toNat:Int)==1)=true then Ac (DF x5 a0 a2) fun x6=>some x6 else some x5) fun x4=>some (.inl (x4,(w64 (s1.2-1))))else some (.inr s1.1)
def DG (a0:UInt64)(a1:UInt64)(a2:UInt64):Option UInt64:=Ac (Ac (iter (Cg a0 a1 a2) A0 (1,63)) fun x2=>some x2) fun x1=>some x1
theorem IW {a0:UInt64}{a1:UInt64}{a2:UInt64}{r:UInt64}(hm:DG a0 a1 a2=some r):Sf prog 124 [.d (.u a0),.d (.u a1),.d (.u a2)] (.d (.u r)):=
 sp call124 func124 rfl ntmps124 rfl fun D0 As η0 m0 hd=>by
  unfold DG at hm;obtain⟨x1,q1,hm⟩:=Aa hm;obtain⟨x2,q2,q1⟩:=Aa q1;refine gjU 0 (fun(_:Unit)=>⟨[(7,.d (.u x1))],[],[],0⟩) (fun _=>True) (by kernel_rfl) (fun Jp bk1=> ?_) fun _ _=> ?_
  ·refine gjU 0 (fun(_:Unit)=>⟨[(7,.d (.u x2))],[],[],0⟩) (fun _=>True) (by kernel_rfl) (fun Jp bk2=> ?_) fun _ _=> ?_
   ·refine gl hd (fun(p:Nat×(UInt64×Int))=>let (p0,p_0,p_1):=p; ⟨[(0,.d (.u a0)),(1,.d (.u a1)),(2,.d (.u a2)),(7,.d (.u p_0)),(8,.d (.i p_1))],[],[],0⟩) (fun p=>iter (Cg a0 a1 a2) p.1 p.2=some x2) (fun p=>p.1) (A0,(1,63)) q2 (by kernel_rfl) ?_;rintro⟨n1,s1⟩ q3 Jl bl1;cases n1 with
    |zero=>exact(Ar q3).elim
    |succ n1=>
     obtain⟨y1,q5,q4⟩:=Ao q3;unfold Cg at q5;refine gi q5 (by kernel_rfl) (fun hc1 q5=> ?_) fun hc1 q5=> ?_
     ·skip;obtain⟨x4,q7,q5⟩:=Aa q5;refine gjU 1 (fun(_:Unit)=>⟨[(0,.d (.u a0)),(1,.d (.u a1)),(2,.d (.u a2)),(7,.d (.u x4)),(8,.d (.i s1.2))],[],[],0⟩) (fun _=>True) (by kernel_rfl) (fun Jp bk3=> ?_) fun _ _=> ?_
      ·skip;obtain⟨x5,q8,q7⟩:=Aa q7;refine gc (fun _=>IV q8) (by kernel_rfl) ?_;refine gi q7 (by kernel_rfl) (fun hc2 q7=> ?_) fun hc2 q7=> ?_
       ·obtain⟨x6,q9,q7⟩:=Aa q7;refine gc (fun _=>IV q9) (by kernel_rfl) ?_;have e0:=Option.some.inj q7;subst e0;exact gb bk3 hd () trivial (by kernel_rfl)
       have e0:=Option.some.inj q7;subst e0;exact gb bk3 hd () trivial (by kernel_rfl)
      have e0:=Option.some.inj q5;subst e0;rcases q4 with ⟨sn,e,q4'⟩|e
      ·have e:=Sum.inl.inj e;subst e;exact gb bl1 hd (n1,_) ⟨q4',Nat.lt_succ_self _⟩ (by kernel_rfl)
      cases AN e
     have e0:=Option.some.inj q5;subst e0;rcases q4 with ⟨sn,e,_⟩|e
     ·cases B2 e
     have e:=Sum.inr.inj e;subst e;exact gb bk2 hd () trivial (by kernel_rfl)
   have e0:=Option.some.inj q1;subst e0;exact gb bk1 hd () trivial (by kernel_rfl)
  have e0:=Option.some.inj hm;subst e0;exact Au hd (by kernel_rfl)
def II (a0:UInt64):Option Bool:=Ac (gu ((decide ((a0.toNat:Int)>0))&&(decide ((a0.toNat:Int)<2305843009213691579))) (DG a0 1152921504606845789 2305843009213691579)) fun x1=>bnd ((((decide ((a0.toNat:Int)>0))&&(decide ((a0.toNat:Int)<2305843009213691579)))&&((x1.toNat:Int)==1))) fun x2=>some x2
theorem UY {a0:UInt64}{r:Bool}(hm:II a0=some r):Sf prog 71 [.d (.u a0)] (.d (.t r)):=
 sp call71 func71 rfl ntmps71 rfl fun D0 As η0 m0 hd=>by
  unfold II at hm;obtain⟨x1,q1,hm⟩:=Aa hm;refine gcG (fun h=>IW (DX h q1)) (by kernel_rfl) ?_;have hm:=AE hm;let x2:Bool:=((((decide ((a0.toNat:Int)>0))&&(decide ((a0.toNat:Int)<2305843009213691579)))&&((x1.toNat:Int)==1)));have e0:=Option.some.inj hm;subst e0;exact Au hd (by kernel_rfl)
def GA (a0:UInt64)(a1:UInt64):Option UInt64:=Ac (DF a0 a1 2305843009213691579) fun x1=>some x1
theorem SB {a0:UInt64}{a1:UInt64}{r:UInt64}(hm:GA a0 a1=some r):Sf prog 72 [.d (.u a0),.d (.u a1)] (.d (.u r)):=
 sp call72 func72 rfl ntmps72 rfl fun D0 As η0 m0 hd=>by
  unfold GA at hm;obtain⟨x1,q1,hm⟩:=Aa hm;refine gc (fun _=>IV q1) (by kernel_rfl) ?_;have e0:=Option.some.inj hm;subst e0;exact Au hd (by kernel_rfl)
def Ep (a0:UInt64):Option UInt64:=Ac (DG 4 a0 2305843009213691579) fun x1=>some x1
theorem Re {a0:UInt64}{r:UInt64}(hm:Ep a0=some r):Sf prog 73 [.d (.u a0)] (.d (.u r)):=
 sp call73 func73 rfl ntmps73 rfl fun D0 As η0 m0 hd=>by
  unfold Ep at hm;obtain⟨x1,q1,hm⟩:=Aa hm;refine gc (fun _=>IW q1) (by kernel_rfl) ?_;have e0:=Option.some.inj hm;subst e0;exact Au hd (by kernel_rfl)
def Gz (a0:UInt64)(a1:UInt64):Option UInt64:=Ac (DG a0 a1 2305843009213691579) fun x1=>some x1
theorem SA {a0:UInt64}{a1:UInt64}{r:UInt64}(hm:Gz a0 a1=some r):Sf prog 74 [.d (.u a0),.d (.u a1)] (.d (.u r)):=
 sp call74 func74 rfl ntmps74 rfl fun D0 As η0 m0 hd=>by
  unfold Gz at hm;obtain⟨x1,q1,hm⟩:=Aa hm;refine gc (fun _=>IW q1) (by kernel_rfl) ?_;have e0:=Option.some.inj hm;subst e0;exact Au hd (by kernel_rfl)
def G1 (a0:UInt64)(a1:UInt64)(a2:UInt64):Option UInt64:=if(decide ((a0.toNat:Int)≥((a2-a1).toNat:Int)))=true then some (a0-(a2-a1))else some (a0+a1)
theorem Mo {a0:UInt64}{a1:UInt64}{a2:UInt64}{r:UInt64}(hm:G1 a0 a1 a2=some r):Sf prog 175 [.d (.u a0),.d (.u a1),.d (.u a2)] (.d (.u r)):=
 sp call175 func175 rfl ntmps175 rfl fun D0 As η0 m0 hd=>by
  unfold G1 at hm;refine gi hm (by kernel_rfl) (fun hc1 hm=> ?_) fun hc1 hm=> ?_
  ·skip;have e0:=Option.some.inj hm;subst e0;exact Au hd (by kernel_rfl)
  have e0:=Option.some.inj hm;subst e0;exact Au hd (by kernel_rfl)
def Df (a1:UInt64)(s1:UInt64×Int):Option ((UInt64×Int)⊕(UInt64)):=if(decide (s1.2<61))=true then Ac (G1 s1.1 s1.1 a1) fun x4=>some (.inl (x4,(w64 (s1.2+1))))else some (.inr s1.1)
def HQ (a0:UInt64×UInt64)(a1:UInt64):Option UInt64:=if((a1.toNat:Int)==0)=true then some 0 else if a1≠0 then Ac (Ac (iter (Df a1) A0 ((a0.1%a1),0)) fun x2=>some x2) fun x1=>if a1≠0 then Ac (G1 x1 (a0.2%a1) a1) fun x5=>some x5 else none else none
theorem SD {a0:UInt64×UInt64}{a1:UInt64}{r:UInt64}(hm:HQ a0 a1=some r):Sf prog 126 [ag (J2 a0),.d (.u a1)] (.d (.u r)):=
 sp call126 func126 rfl ntmps126 rfl fun D0 As η0 m0 hd=>by
  unfold HQ at hm;refine gi hm (by kernel_rfl) (fun hc1 hm=> ?_) fun hc1 hm=> ?_
  ·skip;have e0:=Option.some.inj hm;subst e0;exact Au hd (by kernel_rfl)
  obtain⟨q1,hm⟩:=B8 hm;refine Uy (d:= .u a1) (r:= .u (a0.1%a1)) (fun h=>q1) (by kernel_rfl) ?_;obtain⟨x1,q2,hm⟩:=Aa hm;obtain⟨x2,q3,q2⟩:=Aa q2;refine gjU 0 (fun(_:Unit)=>⟨[(1,.d (.u a1)),(2,.pb 0 0),(5,.d (.u x1))],[(0,.box 0 [.d (.u a0.1),.d (.u a0.2)] 84)],[],1⟩) (fun _=>True) (by kernel_rfl) (fun Jp bk1=> ?_) fun _ _=> ?_
  ·refine gjU 0 (fun(_:Unit)=>⟨[(1,.d (.u a1)),(2,.pb 0 0),(5,.d (.u x2))],[(0,.box 0 [.d (.u a0.1),.d (.u a0.2)] 84)],[],1⟩) (fun _=>True) (by kernel_rfl) (fun Jp bk2=> ?_) fun _ _=> ?_
   ·refine gl hd (fun(p:Nat×(UInt64×Int))=>let (p0,p_0,p_1):=p; ⟨[(1,.d (.u a1)),(2,.pb 0 0),(5,.d (.u p_0)),(6,.d (.i p_1))],[(0,.box 0 [.d (.u a0.1),.d (.u a0.2)] 84)],[],1⟩) (fun p=>iter (Df a1) p.1 p.2=some x2) (fun p=>p.1) (A0,((a0.1%a1),0)) q3 (by kernel_rfl) ?_;rintro⟨n1,s1⟩ q4 Jl bl1;cases n1 with
    |zero=>exact(Ar q4).elim
    |succ n1=>
     obtain⟨y1,q6,q5⟩:=Ao q4;unfold Df at q6;refine gi q6 (by kernel_rfl) (fun hc2 q6=> ?_) fun hc2 q6=> ?_
     ·skip;obtain⟨x4,q8,q6⟩:=Aa q6;refine gc (fun _=>Mo q8) (by kernel_rfl) ?_;have e0:=Option.some.inj q6;subst e0;rcases q5 with ⟨sn,e,q5'⟩|e
      ·have e:=Sum.inl.inj e;subst e;exact gb bl1 hd (n1,_) ⟨q5',Nat.lt_succ_self _⟩ (by kernel_rfl)
      cases AN e
     have e0:=Option.some.inj q6;subst e0;rcases q5 with ⟨sn,e,_⟩|e
     ·cases B2 e
     have e:=Sum.inr.inj e;subst e;exact gb bk2 hd () trivial (by kernel_rfl)
   have e0:=Option.some.inj q2;subst e0;exact gb bk1 hd () trivial (by kernel_rfl)
  obtain⟨q9,hm⟩:=B8 hm;refine Uy (d:= .u a1) (r:= .u (a0.2%a1)) (fun h=>q9) (by kernel_rfl) ?_;obtain⟨x5,q10,hm⟩:=Aa hm;refine gc (fun _=>Mo q10) (by kernel_rfl) ?_;have e0:=Option.some.inj hm;subst e0;exact Au hd (by kernel_rfl)
def EI (a0:List UInt8)(s1:(List UInt64)×Int)(s2:UInt64×UInt64×Int):Option ((UInt64×UInt64×Int)⊕(UInt64)):=if((decide (s2.2.2<(a0.length:Int)))&&(decide (s2.2.2<(w64 (s1.2+7)))))=true then Ac (idx a0 s2.2.2) fun x7=>bnd ((s2.1+(s2.2.1*(toU (x7.toNat:Int))))) fun x8=>some (.inl (x8,(s2.2.1*256),(w64 (s2.2.2+1))))else some (.inr s2.1)
def DH (a0:List UInt8)(s1:(List UInt64)×Int):Option (((List UInt64)×Int)⊕((List UInt64))):=if(decide (s1.2<(a0.length:Int)))=true then Ac (Ac (iter (EI a0 s1) A0 (0,1,s1.2)) fun x5=>some x5) fun x4=>Ac (app 8 s1.1 ([x4]:List UInt64)) fun x9=>some (.inl (x9,(w64 (s1.2+7))))else some (.inr s1.1)
def IJ (a0:List UInt8):Option (List UInt64):=Ac (Ac (iter (DH a0) A0 (([]:List UInt64),0)) fun x2=>some x2) fun x1=>some x1
theorem UZ {a0:List UInt8}{r:List UInt64}(hm:IJ a0=some r):Sp prog 204 [sl eB a0] [] 0 (is (.ow 0) [.row 0 1 _ eU r] 1):=
 sp call204 func204 rfl ntmps204 rfl fun D0 As η0 m0 hd=>by
  unfold IJ at hm;obtain⟨x1,q1,hm⟩:=Aa hm;obtain⟨x2,q2,q1⟩:=Aa q1;refine Vr 0 eU 3 1 (by kernel_rfl) ?_;refine gjU 0 (fun(_:Unit)=>⟨[(3,.ow 0)],[(0,.row 0 1 _ eU x1)],[],1⟩) (fun _=>True) (by kernel_rfl) (fun Jp bk1=> ?_) fun _ _=> ?_
  ·refine gjU 0 (fun(_:Unit)=>⟨[(3,.ow 0)],[(0,.row 0 1 _ eU x2)],[],1⟩) (fun _=>True) (by kernel_rfl) (fun Jp bk2=> ?_) fun _ _=> ?_
   ·refine gl hd (fun(p:Nat×((List UInt64)×Int))=>let (p0,p_0,p_1):=p; ⟨[(0,sl eB a0),(3,.ow 0),(4,.d (.i p_1))],[(0,.row 0 1 _ eU p_0)],[],1⟩) (fun p=>iter (DH a0) p.1 p.2=some x2) (fun p=>p.1) (A0,(([]:List UInt64),0)) q2 (by kernel_rfl) ?_;rintro⟨n1,s1⟩ q3 Jl bl1;cases n1 with
    |zero=>exact(Ar q3).elim
    |succ n1=>
     obtain⟨y1,q5,q4⟩:=Ao q3;unfold DH at q5;refine gi q5 (by kernel_rfl) (fun hc1 q5=> ?_) fun hc1 q5=> ?_
     ·skip;obtain⟨x4,q7,q5⟩:=Aa q5;obtain⟨x5,q8,q7⟩:=Aa q7;refine gjU 2 (fun(_:Unit)=>⟨[(0,sl eB a0),(3,.ow 0),(4,.d (.i s1.2)),(5,.d (.u x4))],[(0,.row 0 1 _ eU s1.1)],[],1⟩) (fun _=>True) (by kernel_rfl) (fun Jp bk3=> ?_) fun _ _=> ?_
      ·refine gjU 2 (fun(_:Unit)=>⟨[(0,sl eB a0),(3,.ow 0),(4,.d (.i s1.2)),(5,.d (.u x5))],[(0,.row 0 1 _ eU s1.1)],[],1⟩) (fun _=>True) (by kernel_rfl) (fun Jp bk4=> ?_) fun _ _=> ?_
       ·refine gl hd (fun(p:Nat×(UInt64×UInt64×Int))=>let (p0,p_0,p_1,p_2):=p; ⟨[(0,sl eB a0),(3,.ow 0),(4,.d (.i s1.2)),(5,.d (.u p_0)),(6,.d (.u p_1)),(7,.d (.i p_2))],[(0,.row 0 1 _ eU s1.1)],[],1⟩) (fun p=>iter (EI a0 s1) p.1 p.2=some x5) (fun p=>p.1) (A0,(0,1,s1.2)) q8 (by kernel_rfl) ?_;rintro⟨n2,s2⟩ q9 Jl bl2;cases n2 with
        |zero=>exact(Ar q9).elim
        |succ n2=>
         obtain⟨y2,q11,q10⟩:=Ao q9;unfold EI at q11;refine gi q11 (by kernel_rfl) (fun hc2 q11=> ?_) fun hc2 q11=> ?_
         ·skip;obtain⟨x7,q13,q11⟩:=Aa q11;refine Hc (k:=1) (E:=eB) (fun _=>rfl) (fun _=>q13) (by kernel_rfl) ?_;have q11:=AE q11;let x8:UInt64:=((s2.1+(s2.2.1*(toU (x7.toNat:Int)))));have e0:=Option.some.inj q11;subst e0;rcases q10 with ⟨sn,e,q10'⟩|e
          ·have e:=Sum.inl.inj e;subst e;exact gb bl2 hd (n2,_) ⟨q10',Nat.lt_succ_self _⟩ (by kernel_rfl)
          cases AN e
         have e0:=Option.some.inj q11;subst e0;rcases q10 with ⟨sn,e,_⟩|e
         ·cases B2 e
         have e:=Sum.inr.inj e;subst e;exact gb bk4 hd () trivial (by kernel_rfl)
       have e0:=Option.some.inj q7;subst e0;exact gb bk3 hd () trivial (by kernel_rfl)
      refine EC (k:=1) eU ([x4]:List UInt64) (fun _=>rfl) (by kernel_rfl) ?_;obtain⟨x9,q15,q5⟩:=Aa q5;refine KS (k:=1) (E:=eU) (fun _=>rfl) q15 (by kernel_rfl) ?_;have e0:=Option.some.inj q5;subst e0;rcases q4 with ⟨sn,e,q4'⟩|e
      ·have e:=Sum.inl.inj e;subst e;exact gb bl1 hd (n1,_) ⟨q4',Nat.lt_succ_self _⟩ (by kernel_rfl)
      cases AN e
     have e0:=Option.some.inj q5;subst e0;rcases q4 with ⟨sn,e,_⟩|e
     ·cases B2 e
     have e:=Sum.inr.inj e;subst e;exact gb bk2 hd () trivial (by kernel_rfl)
   have e0:=Option.some.inj q1;subst e0;exact gb bk1 hd () trivial (by kernel_rfl)
  have e0:=Option.some.inj hm;subst e0;exact Au hd (by kernel_rfl)
def B7 (a0:UInt64)(a1:UInt64):Option UInt64:=bnd ((((a0%2305843009213693951)+(a1%2305843009213693951))%2305843009213693951)) fun x1=>some x1
theorem Hy {a0:UInt64}{a1:UInt64}{r:UInt64}(hm:B7 a0 a1=some r):Sf prog 205 [.d (.u a0),.d (.u a1)] (.d (.u r)):=
 sp call205 func205 rfl ntmps205 rfl fun D0 As η0 m0 hd=>by
  unfold B7 at hm;have hm:=AE hm;let x1:UInt64:=((((a0%2305843009213693951)+(a1%2305843009213693951))%2305843009213693951));have e0:=Option.some.inj hm;subst e0;exact Au hd (by kernel_rfl)
theorem HC {m:Mem}{As:List Ow}{w:World}{a0:UInt64}{a1:UInt64}{r:UInt64}(S:St m As w)(hm:B7 a0 a1=some r):
  Aw prog 205 #[vU a0,vU a1] w fun v w'=> ∃(M:Mem),m≤M∧St M (As) w'∧v=vU r:=by
 refine Aw.mono ((Hy hm).2 none0 m As w [vU a0,vU a1] (.cons (.d (.u _)) (.cons (.d (.u _)) .nil)) (fun n h=>absurd rfl h) S) ?_;rintro v w' ⟨M,η',r',obs',n1,hle,_,⟨rfl,rfl,rfl⟩,hdom,hR,S'⟩;obtain rfl:=hR.u_inv;exact⟨M,hle,S',rfl⟩
def CK (s1:UInt64×UInt64×UInt64):Option ((UInt64×UInt64×UInt64)⊕(UInt64)):=if(decide ((s1.2.1.toNat:Int)>0))=true then Ac (if(((s1.2.1%2).toNat:Int)==1)=true then Ac (B7 s1.2.2 s1.1) fun x5=>some x5 else some s1.2.2) fun x4=>Ac (B7 s1.1 s1.1) fun x6=>some (.inl (x6,(s1.2.1/2),x4))else some (.inr s1.2.2)
def HS (a0:UInt64)(a1:UInt64):Option UInt64:=Ac (Ac (iter CK A0 ((a0%2305843009213693951),(a1%2305843009213693951),0)) fun x2=>some x2) fun x1=>some x1
theorem SF {a0:UInt64}{a1:UInt64}{r:UInt64}(hm:HS a0 a1=some r):Sf prog 234 [.d (.u a0),.d (.u a1)] (.d (.u r)):=
 sp call234 func234 rfl ntmps234 rfl fun D0 As η0 m0 hd=>by
  unfold HS at hm;obtain⟨x1,q1,hm⟩:=Aa hm;obtain⟨x2,q2,q1⟩:=Aa q1;refine gjU 0 (fun(_:Unit)=>⟨[(5,.d (.u x1))],[],[],0⟩) (fun _=>True) (by kernel_rfl) (fun Jp bk1=> ?_) fun _ _=> ?_
  ·refine gjU 0 (fun(_:Unit)=>⟨[(5,.d (.u x2))],[],[],0⟩) (fun _=>True) (by kernel_rfl) (fun Jp bk2=> ?_) fun _ _=> ?_
   ·refine gl hd (fun(p:Nat×(UInt64×UInt64×UInt64))=>let (p0,p_0,p_1,p_2):=p; ⟨[(0,.d (.u p_0)),(1,.d (.u p_1)),(5,.d (.u p_2))],[],[],0⟩) (fun p=>iter CK p.1 p.2=some x2) (fun p=>p.1) (A0,((a0%2305843009213693951),(a1%2305843009213693951),0)) q2 (by kernel_rfl) ?_;rintro⟨n1,s1⟩ q3 Jl bl1;cases n1 with
    |zero=>exact(Ar q3).elim
    |succ n1=>
     obtain⟨y1,q5,q4⟩:=Ao q3;unfold CK at q5;refine gi q5 (by kernel_rfl) (fun hc1 q5=> ?_) fun hc1 q5=> ?_
     ·skip;obtain⟨x4,q7,q5⟩:=Aa q5;refine gj (fun(_:Unit)=>⟨[(0,.d (.u s1.1)),(1,.d (.u s1.2.1)),(5,.d (.u x4))],[],[],0⟩) (fun _=>True) (by kernel_rfl) (fun Jp bk3=> ?_) fun _ _=> ?_
      ·refine gi q7 (by kernel_rfl) (fun hc2 q7=> ?_) fun hc2 q7=> ?_
       ·obtain⟨x5,q8,q7⟩:=Aa q7;refine gc (fun _=>Hy q8) (by kernel_rfl) ?_;have e0:=Option.some.inj q7;subst e0;exact gb bk3 hd () trivial (by kernel_rfl)
       have e0:=Option.some.inj q7;subst e0;exact gb bk3 hd () trivial (by kernel_rfl)
      obtain⟨x6,q9,q5⟩:=Aa q5;refine gc (fun _=>Hy q9) (by kernel_rfl) ?_;have e0:=Option.some.inj q5;subst e0;rcases q4 with ⟨sn,e,q4'⟩|e
      ·have e:=Sum.inl.inj e;subst e;exact gb bl1 hd (n1,_) ⟨q4',Nat.lt_succ_self _⟩ (by kernel_rfl)
      cases AN e
     have e0:=Option.some.inj q5;subst e0;rcases q4 with ⟨sn,e,_⟩|e
     ·cases B2 e
     have e:=Sum.inr.inj e;subst e;exact gb bk2 hd () trivial (by kernel_rfl)
   have e0:=Option.some.inj q1;subst e0;exact gb bk1 hd () trivial (by kernel_rfl)
  have e0:=Option.some.inj hm;subst e0;exact Au hd (by kernel_rfl)
def CQ (a0:UInt64)(a1:Int)(s1:UInt64×Int):Option ((UInt64×Int)⊕(UInt64)):=if(decide (s1.2<a1))=true then Ac (HS s1.1 a0) fun x4=>some (.inl (x4,(w64 (s1.2+1))))else some (.inr s1.1)
def B5 (a0:UInt64)(a1:Int):Option UInt64:=Ac (Ac (iter (CQ a0 a1) A0 (1,0)) fun x2=>some x2) fun x1=>some x1
theorem Ou {a0:UInt64}{a1:Int}{r:UInt64}(hm:B5 a0 a1=some r):Sf prog 231 [.d (.u a0),.d (.i a1)] (.d (.u r)):=
 sp call231 func231 rfl ntmps231 rfl fun D0 As η0 m0 hd=>by
  unfold B5 at hm;obtain⟨x1,q1,hm⟩:=Aa hm;obtain⟨x2,q2,q1⟩:=Aa q1;refine gjU 0 (fun(_:Unit)=>⟨[(5,.d (.u x1))],[],[],0⟩) (fun _=>True) (by kernel_rfl) (fun Jp bk1=> ?_) fun _ _=> ?_
  ·refine gjU 0 (fun(_:Unit)=>⟨[(5,.d (.u x2))],[],[],0⟩) (fun _=>True) (by kernel_rfl) (fun Jp bk2=> ?_) fun _ _=> ?_
   ·refine gl hd (fun(p:Nat×(UInt64×Int))=>let (p0,p_0,p_1):=p; ⟨[(0,.d (.u a0)),(1,.d (.i a1)),(5,.d (.u p_0)),(6,.d (.i p_1))],[],[],0⟩) (fun p=>iter (CQ a0 a1) p.1 p.2=some x2) (fun p=>p.1) (A0,(1,0)) q2 (by kernel_rfl) ?_;rintro⟨n1,s1⟩ q3 Jl bl1;cases n1 with
    |zero=>exact(Ar q3).elim
    |succ n1=>
     obtain⟨y1,q5,q4⟩:=Ao q3;unfold CQ at q5;refine gi q5 (by kernel_rfl) (fun hc1 q5=> ?_) fun hc1 q5=> ?_
     ·skip;obtain⟨x4,q7,q5⟩:=Aa q5;refine gc (fun _=>SF q7) (by kernel_rfl) ?_;have e0:=Option.some.inj q5;subst e0;rcases q4 with ⟨sn,e,q4'⟩|e
      ·have e:=Sum.inl.inj e;subst e;exact gb bl1 hd (n1,_) ⟨q4',Nat.lt_succ_self _⟩ (by kernel_rfl)
      cases AN e
     have e0:=Option.some.inj q5;subst e0;rcases q4 with ⟨sn,e,_⟩|e
     ·cases B2 e
     have e:=Sum.inr.inj e;subst e;exact gb bk2 hd () trivial (by kernel_rfl)
   have e0:=Option.some.inj q1;subst e0;exact gb bk1 hd () trivial (by kernel_rfl)
  have e0:=Option.some.inj hm;subst e0;exact Au hd (by kernel_rfl)
theorem Kr {m:Mem}{As:List Ow}{w:World}{a0:UInt64}{a1:Int}{r:UInt64}(S:St m As w)(hm:B5 a0 a1=some r):
  Aw prog 231 #[vU a0,vI a1] w fun v w'=> ∃(M:Mem),m≤M∧St M (As) w'∧v=vU r:=by
 refine Aw.mono ((Ou hm).2 none0 m As w [vU a0,vI a1] (.cons (.d (.u _)) (.cons (.d (.i _)) .nil)) (fun n h=>absurd rfl h) S) ?_;rintro v w' ⟨M,η',r',obs',n1,hle,_,⟨rfl,rfl,rfl⟩,hdom,hR,S'⟩;obtain rfl:=hR.u_inv;exact⟨M,hle,S',rfl⟩
def BK (a0:UInt64×UInt64×UInt64)(a1:Int)(s1:Int×UInt64×UInt64×UInt64):Option ((Int×UInt64×UInt64×UInt64)⊕(UInt64×UInt64×UInt64)):=if(decide (s1.1<3))=true then Ac (B5 (toU (w64 ((w64 ((w64 (3*a1))+s1.1))+1))) 3) fun x4=>Ac (B7 x4 7) fun x5=>Ac (idx [a0.1,a0.2.1,a0.2.2] s1.1) fun x6=>Ac (B7 x6 x5) fun x7=>Ac (B5 x7 17) fun x8=>Ac (idx [s1.2.1,s1.2.2.1,s1.2.2.2] s1.1) fun x9=>bnd (if s1.1=0 then x8 else s1.2.1) fun x10=>bnd (if s1.1=1 then x8 else s1.2.2.1) fun x11=>bnd (if s1.1=2 then x8 else s1.2.2.2) fun x12=>some (.inl ((w64 (s1.1+1)),x10,x11,x12))else some (.inr (s1.2.1,s1.2.2.1,s1.2.2.2))
def BJ (x14:UInt64)(s2:Int×UInt64×UInt64×UInt64):Option ((Int×UInt64×UInt64×UInt64)⊕(UInt64×UInt64×UInt64)):=if(decide (s2.1<3))=true then Ac (idx [s2.2.1,s2.2.2.1,s2.2.2.2] s2.1) fun x18=>Ac (B7 x18 x14) fun x19=>Ac (idx [s2.2.1,s2.2.2.1,s2.2.2.2] s2.1) fun x20=>bnd (if s2.1=0 then x19 else s2.2.1) fun x21=>bnd (if s2.1=1 then x19 else s2.2.2.1) fun x22=>bnd (if s2.1=2 then x19 else s2.2.2.2) fun x23=>some (.inl ((w64 (s2.1+1)),x21,x22,x23))else some (.inr (s2.2.1,s2.2.2.1,s2.2.2.2))
def EH (a0:UInt64×UInt64×UInt64)(a1:Int):Option (UInt64×UInt64×UInt64):=Ac (Ac (iter (BK a0 a1) A0 (0,0,0,0)) fun x2=>some (x2.1,x2.2.1,x2.2.2)) fun x1=>Ac (B7 x1.1 x1.2.1) fun x13=>Ac (B7 x13 x1.2.2) fun x14=>Ac (Ac (iter (BJ x14) A0 (0,x1.1,x1.2.1,x1.2.2)) fun x16=>some (x16.1,x16.2.1,x16.2.2)) fun x15=>some x15
theorem PE {m:Mem}{As:List Ow}{w:World}{a0:UInt64×UInt64×UInt64}{a1:Int}{r:UInt64×UInt64×UInt64}(S:St m (As) w)(hm:EH a0 a1=some r):
  Aw Tryz.prog 221 #[.agg #[vU a0.1,vU a0.2.1,vU a0.2.2],vI a1] w fun v w'=> ∃(M:Mem),m≤M∧St M (As) w'∧v= .agg #[vU r.1,vU r.2.1,vU r.2.2]:=by
 unfold EH at hm;have L0:=Mem.rfl' m;refine CP (args:=[.agg #[vU a0.1,vU a0.2.1,vU a0.2.2],vI a1]) Tryz.func221 rfl Tryz.ntmps221 (Nat.le_of_ble_eq_true rfl) ?_;refine Ag ?_;refine Ad ?_;refine LV S rfl ?_;intro b1 w1 S1;replace S1:St _ ((bx b1 [vU a0.1,vU a0.2.1,vU a0.2.2] 187)::As) _:=S1;clear S;refine ES S1 Tryz.zeroValue187 ?_;intro b2 w2 S2;replace S2:St _ ((bx b2 [vU 0,vU 0,vU 0] 187)::(bx b1 [vU a0.1,vU a0.2.1,vU a0.2.2] 187)::As) _:=S2;clear S1;refine Ah ?_;refine nrm ?_;refine Ag ?_;refine Ad ?_;refine ES S2 Tryz.zeroValue187 ?_;intro b3 w3 S3;replace S3:St _ ((bx b3 [vU 0,vU 0,vU 0] 187)::(bx b2 [vU 0,vU 0,vU 0] 187)::(bx b1 [vU a0.1,vU a0.2.1,vU a0.2.2] 187)::As) _:=S3;clear S2;refine Ah ?_;refine nrm ?_;obtain⟨x1,q1,hm⟩:=Aa hm;have L1:=Mem.rfl' m;refine Ag ?_;refine AT [6,7,10,11,12,13,14,15,16,17,18,19,20,21,22,23,24,25,26,27,28,29] (fun f' w'=> ∃(M1:Mem),m≤M1∧St M1 ((bx b3 [vU x1.1,vU x1.2.1,vU x1.2.2] 187)::(bx b2 [vU 0,vU 0,vU 0] 187)::(bx b1 [vU a0.1,vU a0.2.1,vU a0.2.2] 187)::As) w'∧Cb f' []) ?_ ?_
 ·refine Ag ?_;refine Ad ?_;refine AP (v:=vI 0) rfl ?_;refine Ah ?_;refine nrm ?_;obtain⟨x2,q2,q1⟩:=Aa q1;have L2:=Mem.rfl' m;refine AT [6,7,10,11,12,13,14,15,16,17,18,19,20,21,22,23,24,25,26,27,28,29] (fun f' w'=> ∃(M2:Mem),m≤M2∧St M2 ((bx b3 [vU x2.1,vU x2.2.1,vU x2.2.2] 187)::(bx b2 [vU 0,vU 0,vU 0] 187)::(bx b1 [vU a0.1,vU a0.2.1,vU a0.2.2] 187)::As) w'∧Cb f' []) ?_ ?_
  ·refine Av ?_;refine BT [6,7,10,11,12,13,14,15,16,17,18,19,20,21,22,23,24,25,26,27,28,29] (fun n1 f' w'=> ∃(s1:Int×UInt64×UInt64×UInt64) (m6:Mem),iter (BK a0 a1) n1 s1=some x2∧m≤m6∧St m6 ((bx b3 [vU s1.2.1,vU s1.2.2.1,vU s1.2.2.2] 187)::(bx b2 [vU 0,vU 0,vU 0] 187)::(bx b1 [vU a0.1,vU a0.2.1,vU a0.2.2] 187)::As) w'∧Cb f' [(6,vI s1.1)]) A0 ⟨(0,0,0,0),m,q2,L2,S3,⟨rfl,trivial⟩⟩ ?_;rintro n1 f1 w4 ho ⟨s1,m1,q3,L4,S4,ha⟩;obtain⟨u1,rfl⟩:=BR (N:=50) ho ha;clear ho ha;have L3:=Mem.rfl' m1;clear S3;cases n1 with
   |zero=>exact(Ar q3).elim
   |succ n1=>
    obtain⟨y1,q5,q4⟩:=Ao q3;unfold BK at q5;refine Ag ?_;refine Ag ?_;refine Ad ?_;refine Ap (v:=vI s1.1) rfl ?_;refine Kj (m:=s1.1) (n:=3) rfl rfl ?_;refine Ah ?_;refine nrm ?_;refine Cq (t:=(decide (s1.1<3))) rfl (fun hc1=> ?_) (fun hc1=> ?_)
    ·replace q5:=ifT hc1 q5;refine AQ ?_;refine nrm ?_;refine Ag ?_;refine Av ?_;refine Ag ?_;refine Ad ?_;refine Ap (v:=vI a1) rfl ?_;refine OY (m:=3) (n:=a1) rfl rfl ?_;refine Ap (v:=vI s1.1) rfl ?_;refine EW (m:=(w64 (3*a1))) (n:=s1.1) rfl rfl ?_;refine EW (m:=(w64 ((w64 (3*a1))+s1.1))) (n:=1) rfl rfl ?_;refine NQ rfl Tryz.underlying3 Tryz.underlying22 ?_;obtain⟨x4,q7,q5⟩:=Aa q5;refine Cx Tryz.call231 (Kr (a0:=(toU (w64 ((w64 ((w64 (3*a1))+s1.1))+1)))) (a1:=3) S4 q7) rfl ?_;rintro _ w5 ⟨m2,l1,S5,rfl⟩;replace L3:=Mem.tr L3 l1;clear S4;replace S5:St _ ((bx b3 [vU s1.2.1,vU s1.2.2.1,vU s1.2.2.2] 187)::(bx b2 [vU 0,vU 0,vU 0] 187)::(bx b1 [vU a0.1,vU a0.2.1,vU a0.2.2] 187)::As) _:=S5;obtain⟨x5,q8,q5⟩:=Aa q5;refine Cx Tryz.call205 (HC (a0:=x4) (a1:=7) S5 q8) rfl ?_;rintro _ w6 ⟨m3,l2,S6,rfl⟩;replace L3:=Mem.tr L3 l2;clear S5;replace S6:St _ ((bx b3 [vU s1.2.1,vU s1.2.2.1,vU s1.2.2.2] 187)::(bx b2 [vU 0,vU 0,vU 0] 187)::(bx b1 [vU a0.1,vU a0.2.1,vU a0.2.2] 187)::As) _:=S6;refine AP (v:=vU x5) rfl ?_;refine Ah ?_;refine nrm ?_;refine Ad ?_;refine Ap (v:=vI s1.1) rfl ?_;refine Ap (v:=vI s1.1) rfl ?_;obtain⟨x6,q9,q5⟩:=Aa q5;refine Ib (i:=s1.1) rfl rfl Tryz.underlying187 Tryz.sizeOf22 (CB q9).1 (CB q9).2 ?_;refine HE (i:=2) (off:=0+s1.1.toNat*1) (cs:=[vU x6]) S6 rfl rfl Tryz.isAgg22 Tryz.sizeOf22 (by rcases Vq q9 with ⟨h,h'⟩|⟨h,h'⟩|⟨h,h'⟩<;>(rw[h,h']; rfl)) (fun _=>rfl) ?_;refine Ap (v:=vU x5) rfl ?_;obtain⟨x7,q10,q5⟩:=Aa q5;refine Cx Tryz.call205 (HC (a0:=x6) (a1:=x5) S6 q10) rfl ?_;rintro _ w7 ⟨m4,l3,S7,rfl⟩;replace L3:=Mem.tr L3 l3;clear S6;replace S7:St _ ((bx b3 [vU s1.2.1,vU s1.2.2.1,vU s1.2.2.2] 187)::(bx b2 [vU 0,vU 0,vU 0] 187)::(bx b1 [vU a0.1,vU a0.2.1,vU a0.2.2] 187)::As) _:=S7;obtain⟨x8,q11,q5⟩:=Aa q5;refine Cx Tryz.call231 (Kr (a0:=x7) (a1:=17) S7 q11) rfl ?_;rintro _ w8 ⟨m5,l4,S8,rfl⟩;replace L3:=Mem.tr L3 l4;clear S7;replace S8:St _ ((bx b3 [vU s1.2.1,vU s1.2.2.1,vU s1.2.2.2] 187)::(bx b2 [vU 0,vU 0,vU 0] 187)::(bx b1 [vU a0.1,vU a0.2.1,vU a0.2.2] 187)::As) _:=S8;obtain⟨x9,q12,q5⟩:=Aa q5;refine Ib (i:=s1.1) rfl rfl Tryz.underlying187 Tryz.sizeOf22 (CB q12).1 (CB q12).2 ?_;obtain⟨x10,q13,q5⟩:=CC q5;obtain⟨x11,q14,q5⟩:=CC q5;obtain⟨x12,q15,q5⟩:=CC q5;refine YK (i:=0) (off:=0+s1.1.toNat*1) S8 rfl rfl rfl Tryz.sizeOf22 (TQ.all (IS rfl LZ)) (by rcases Vq q12 with ⟨h,h'⟩|⟨h,h'⟩|⟨h,h'⟩<;>(rw[h]; exact Nat.le_of_ble_eq_true rfl)) ?_;intro w9 S9;replace S9:=St.cellsTo (i:=0) (l':=[vU x10,vU x11,vU x12]) S9 (by rcases Vq q12 with ⟨h,h'⟩|⟨h,h'⟩|⟨h,h'⟩<;>(simp only[q13,q14,q15,h]; rfl)) rfl;replace S9:St _ ((bx b3 [vU x10,vU x11,vU x12] 187)::(bx b2 [vU 0,vU 0,vU 0] 187)::(bx b1 [vU a0.1,vU a0.2.1,vU a0.2.2] 187)::As) _:=S9;clear S8;refine Ah ?_;refine Mb ?_;refine nrm ?_;refine Ad ?_;refine Ap (v:=vI s1.1) rfl ?_;refine EW (m:=s1.1) (n:=1) rfl rfl ?_;refine AP (v:=vI (w64 (s1.1+1))) rfl ?_;refine Ah ?_;refine nrm ?_;have e0:=Option.some.inj q5;subst e0;rcases q4 with ⟨sn,e,q4'⟩|e
     ·cases e;exact⟨E2,_,Nat.lt_succ_self _,⟨_,m5,q4',Mem.tr L4 L3,S9,⟨rfl,trivial⟩⟩⟩
     ·cases e
    replace q5:=ifF hc1 q5;refine CD ?_;refine thE ?_;refine thE ?_;refine exB ?_;refine nrm ?_;have e0:=Option.some.inj q5;subst e0;rcases q4 with ⟨sn,e,_⟩|e
    ·cases e
    ·cases e;exact⟨E2,m1,Mem.tr L4 L3,S4,trivial⟩
  rintro f2 w10 ho ⟨m7,l5,S10,ha⟩;obtain⟨u2,rfl⟩:=BR (N:=50) ho ha;clear ho ha;replace L1:=Mem.tr L1 l5;clear S3;have e0:=Option.some.inj q1;subst e0;exact⟨E2,m7,L1,S10,trivial⟩
 rintro f3 w11 ho ⟨m8,l6,S11,ha⟩;obtain⟨u3,rfl⟩:=BR (N:=50) ho ha;replace L0:=Mem.tr L0 l6;clear S3;refine Ag ?_;obtain⟨x13,q16,hm⟩:=Aa hm;have HM:Hd [(30,fv (pt b3 0)),(31,fv (vU x1.1)),(32,fv (pt b3 1)),(33,fv (vU x1.2.1)),(34,fv (vU x13)),(35,fv (pt b3 2)),(36,fv (vU x1.2.2))]:=⟨mv,mv,mv,mv,mv,mv,mv,trivial⟩;refine Jv HM 7 Ci rfl rfl rfl [30,31,32,33,34,35,36] (fun L f M w=>St M ((bx b3 [vU x1.1,vU x1.2.1,vU x1.2.2] 187)::(bx b2 [vU 0,vU 0,vU 0] 187)::(bx b1 [vU a0.1,vU a0.2.1,vU a0.2.2] 187)::As) w) (St.drew S11 _) ?_ ?_
 ·refine⟨?_,?_,?_,?_,?_,?_,?_,trivial⟩
  ·exact flp HM rfl [] (fun _ _=>trivial) (fun _ _ q=>Ib (i:=0) rfl rfl Tryz.underlying187 Tryz.sizeOf22 (by decide) (by decide) q) rfl
  ·exact flp HM rfl [(30,_)] (fun K _=>⟨K 0 rfl,trivial⟩) (fun _ S13 q=>HE (i:=0) (cs:=[vU x1.1]) S13 rfl rfl Tryz.isAgg22 Tryz.sizeOf22 rfl (fun _=>rfl) q) rfl
  ·exact flp HM rfl [] (fun _ _=>trivial) (fun _ _ q=>Ib (i:=1) rfl rfl Tryz.underlying187 Tryz.sizeOf22 (by decide) (by decide) q) rfl
  ·exact flp HM rfl [(32,_)] (fun K _=>⟨K 2 rfl,trivial⟩) (fun _ S15 q=>HE (i:=0) (cs:=[vU x1.2.1]) S15 rfl rfl Tryz.isAgg22 Tryz.sizeOf22 rfl (fun _=>rfl) q) rfl
  ·intro L f8 w16 hL hd hc ⟨m13,L13,S16,K,hO⟩;have d1:L 1=true:=dep hd rfl;have e3:=K 1 d1;have d3:L 3=true:=dep hd rfl;have e4:=K 3 d3;obtain⟨u8,rfl⟩:=BR (N:=50) (L:=[(31,vU x1.1),(33,vU x1.2.1)]) hO ⟨e3,e4,trivial⟩;replace S16:St _ ((bx b3 [vU x1.1,vU x1.2.1,vU x1.2.2] 187)::(bx b2 [vU 0,vU 0,vU 0] 187)::(bx b1 [vU a0.1,vU a0.2.1,vU a0.2.2] 187)::As) _:=S16;have L14:=Mem.rfl' m13;refine Cx Tryz.call205 (HC (a0:=x1.1) (a1:=x1.2.1) S16 q16) rfl ?_;rintro _ w17 ⟨m14,l7,S17,rfl⟩;replace L14:=Mem.tr L14 l7;clear S16;replace S17:St _ ((bx b3 [vU x1.1,vU x1.2.1,vU x1.2.2] 187)::(bx b2 [vU 0,vU 0,vU 0] 187)::(bx b1 [vU a0.1,vU a0.2.1,vU a0.2.2] 187)::As) _:=S17;refine wpn ?_;refine⟨m14,Mem.tr L13 L14,?_,IP HM rfl K L14 rfl rfl rfl,E2⟩;exact S17
  ·exact flp HM rfl [] (fun _ _=>trivial) (fun _ _ q=>Ib (i:=2) rfl rfl Tryz.underlying187 Tryz.sizeOf22 (by decide) (by decide) q) rfl
  ·exact flp HM rfl [(35,_)] (fun K _=>⟨K 5 rfl,trivial⟩) (fun _ S19 q=>HE (i:=0) (cs:=[vU x1.2.2]) S19 rfl rfl Tryz.isAgg22 Tryz.sizeOf22 rfl (fun _=>rfl) q) rfl
 intro L f11 w20 hall ⟨m17,L19,S20,K,hO⟩;have d4:L 4=true:=hall 4 (by decide);have e6:=K 4 d4;have d6:L 6=true:=hall 6 (by decide);have e7:=K 6 d6;obtain⟨u11,rfl⟩:=BR (N:=50) (L:=[(34,vU x13),(36,vU x1.2.2)]) hO ⟨e6,e7,trivial⟩;replace S20:St _ ((bx b3 [vU x1.1,vU x1.2.1,vU x1.2.2] 187)::(bx b2 [vU 0,vU 0,vU 0] 187)::(bx b1 [vU a0.1,vU a0.2.1,vU a0.2.2] 187)::As) _:=S20;replace L0:=Mem.tr L0 L19;clear S11;obtain⟨x14,q17,hm⟩:=Aa hm;refine Cx Tryz.call205 (HC (a0:=x13) (a1:=x1.2.2) S20 q17) rfl ?_;rintro _ w21 ⟨m18,l8,S21,rfl⟩;replace L0:=Mem.tr L0 l8;clear S20;replace S21:St _ ((bx b3 [vU x1.1,vU x1.2.1,vU x1.2.2] 187)::(bx b2 [vU 0,vU 0,vU 0] 187)::(bx b1 [vU a0.1,vU a0.2.1,vU a0.2.2] 187)::As) _:=S21;refine AP (v:=vU x14) rfl ?_;refine Ah ?_;refine nrm ?_;obtain⟨x15,q18,hm⟩:=Aa hm;have L20:=Mem.rfl' m18;refine Ag ?_;refine AT [9,38,39,40,41,42,43,44,45,46,47,48] (fun f' w'=> ∃(M3:Mem),m18≤M3∧St M3 ((bx b3 [vU x15.1,vU x15.2.1,vU x15.2.2] 187)::(bx b2 [vU 0,vU 0,vU 0] 187)::(bx b1 [vU a0.1,vU a0.2.1,vU a0.2.2] 187)::As) w'∧Cb f' []) ?_ ?_
 ·refine Ag ?_;refine Ad ?_;refine AP (v:=vI 0) rfl ?_;refine Ah ?_;refine nrm ?_;obtain⟨x16,q19,q18⟩:=Aa q18;have L21:=Mem.rfl' m18;refine AT [9,38,39,40,41,42,43,44,45,46,47,48] (fun f' w'=> ∃(M4:Mem),m18≤M4∧St M4 ((bx b3 [vU x16.1,vU x16.2.1,vU x16.2.2] 187)::(bx b2 [vU 0,vU 0,vU 0] 187)::(bx b1 [vU a0.1,vU a0.2.1,vU a0.2.2] 187)::As) w'∧Cb f' []) ?_ ?_
  ·refine Av ?_;refine BT [9,38,39,40,41,42,43,44,45,46,47,48] (fun n2 f' w'=> ∃(s2:Int×UInt64×UInt64×UInt64) (m21:Mem),iter (BJ x14) n2 s2=some x16∧m18≤m21∧St m21 ((bx b3 [vU s2.2.1,vU s2.2.2.1,vU s2.2.2.2] 187)::(bx b2 [vU 0,vU 0,vU 0] 187)::(bx b1 [vU a0.1,vU a0.2.1,vU a0.2.2] 187)::As) w'∧Cb f' [(9,vI s2.1)]) A0 ⟨(0,x1.1,x1.2.1,x1.2.2),m18,q19,L21,S21,⟨rfl,trivial⟩⟩ ?_;rintro n2 f12 w22 ho ⟨s2,m19,q20,L23,S22,ha⟩;obtain⟨u12,rfl⟩:=BR (N:=50) ho ha;clear ho ha;have L22:=Mem.rfl' m19;clear S21;cases n2 with
   |zero=>exact(Ar q20).elim
   |succ n2=>
    obtain⟨y2,q22,q21⟩:=Ao q20;unfold BJ at q22;refine Ag ?_;refine Ag ?_;refine Ad ?_;refine Ap (v:=vI s2.1) rfl ?_;refine Kj (m:=s2.1) (n:=3) rfl rfl ?_;refine Ah ?_;refine nrm ?_;refine Cq (t:=(decide (s2.1<3))) rfl (fun hc2=> ?_) (fun hc2=> ?_)
    ·replace q22:=ifT hc2 q22;refine AQ ?_;refine nrm ?_;refine Ag ?_;refine Av ?_;refine Ad ?_;refine Ap (v:=vI s2.1) rfl ?_;refine Ap (v:=vI s2.1) rfl ?_;obtain⟨x18,q24,q22⟩:=Aa q22;refine Ib (i:=s2.1) rfl rfl Tryz.underlying187 Tryz.sizeOf22 (CB q24).1 (CB q24).2 ?_;refine HE (i:=0) (off:=0+s2.1.toNat*1) (cs:=[vU x18]) S22 rfl rfl Tryz.isAgg22 Tryz.sizeOf22 (by rcases Vq q24 with ⟨h,h'⟩|⟨h,h'⟩|⟨h,h'⟩<;>(rw[h,h']; rfl)) (fun _=>rfl) ?_;refine Ap (v:=vU x14) rfl ?_;obtain⟨x19,q25,q22⟩:=Aa q22;refine Cx Tryz.call205 (HC (a0:=x18) (a1:=x14) S22 q25) rfl ?_;rintro _ w23 ⟨m20,l9,S23,rfl⟩;replace L22:=Mem.tr L22 l9;clear S22;replace S23:St _ ((bx b3 [vU s2.2.1,vU s2.2.2.1,vU s2.2.2.2] 187)::(bx b2 [vU 0,vU 0,vU 0] 187)::(bx b1 [vU a0.1,vU a0.2.1,vU a0.2.2] 187)::As) _:=S23;obtain⟨x20,q26,q22⟩:=Aa q22;refine Ib (i:=s2.1) rfl rfl Tryz.underlying187 Tryz.sizeOf22 (CB q26).1 (CB q26).2 ?_;obtain⟨x21,q27,q22⟩:=CC q22;obtain⟨x22,q28,q22⟩:=CC q22;obtain⟨x23,q29,q22⟩:=CC q22;refine YK (i:=0) (off:=0+s2.1.toNat*1) S23 rfl rfl rfl Tryz.sizeOf22 (TQ.all (IS rfl LZ)) (by rcases Vq q26 with ⟨h,h'⟩|⟨h,h'⟩|⟨h,h'⟩<;>(rw[h]; exact Nat.le_of_ble_eq_true rfl)) ?_;intro w24 S24;replace S24:=St.cellsTo (i:=0) (l':=[vU x21,vU x22,vU x23]) S24 (by rcases Vq q26 with ⟨h,h'⟩|⟨h,h'⟩|⟨h,h'⟩<;>(simp only[q27,q28,q29,h]; rfl)) rfl;replace S24:St _ ((bx b3 [vU x21,vU x22,vU x23] 187)::(bx b2 [vU 0,vU 0,vU 0] 187)::(bx b1 [vU a0.1,vU a0.2.1,vU a0.2.2] 187)::As) _:=S24;clear S23;refine Ah ?_;refine Mb ?_;refine nrm ?_;refine Ad ?_;refine Ap (v:=vI s2.1) rfl ?_;refine EW (m:=s2.1) (n:=1) rfl rfl ?_;refine AP (v:=vI (w64 (s2.1+1))) rfl ?_;refine Ah ?_;refine nrm ?_;have e0:=Option.some.inj q22;subst e0;rcases q21 with ⟨sn,e,q21'⟩|e
     ·cases e;exact⟨E2,_,Nat.lt_succ_self _,⟨_,m20,q21',Mem.tr L23 L22,S24,⟨rfl,trivial⟩⟩⟩
     ·cases e
    replace q22:=ifF hc2 q22;refine CD ?_;refine thE ?_;refine thE ?_;refine exB ?_;refine nrm ?_;have e0:=Option.some.inj q22;subst e0;rcases q21 with ⟨sn,e,_⟩|e
    ·cases e
    ·cases e;exact⟨E2,m19,Mem.tr L23 L22,S22,trivial⟩
  rintro f13 w25 ho ⟨m22,l10,S25,ha⟩;obtain⟨u13,rfl⟩:=BR (N:=50) ho ha;clear ho ha;replace L20:=Mem.tr L20 l10;clear S21;have e0:=Option.some.inj q18;subst e0;exact⟨E2,m22,L20,S25,trivial⟩
 rintro f14 w26 ho ⟨m23,l11,S26,ha⟩;obtain⟨u14,rfl⟩:=BR (N:=50) ho ha;replace L0:=Mem.tr L0 l11;clear S21;refine Ag ?_;refine Ad ?_;refine HE (i:=0) (cs:=[vU x15.1,vU x15.2.1,vU x15.2.2]) S26 rfl rfl Tryz.isAgg187 Tryz.sizeOf187 rfl (fun h=>by cases h) ?_;refine IB (i:=1) S26 rfl rfl rfl Tryz.sizeOf187 (IS rfl (IS rfl (IS rfl LZ))) rfl ?_;intro w27 S27;replace S27:St _ ((bx b3 [vU x15.1,vU x15.2.1,vU x15.2.2] 187)::(bx b2 [vU x15.1,vU x15.2.1,vU x15.2.2] 187)::(bx b1 [vU a0.1,vU a0.2.1,vU a0.2.2] 187)::As) _:=S27;clear S26;refine Ah ?_;refine nrm ?_;refine Be ?_;refine D3 ?_;intro we hpd;replace S27:=St.pd S27 hpd;have SR:=S27;obtain⟨m24,l12,S28⟩:=St.drop S27 0;replace L0:=Mem.tr L0 l12;replace S28:St _ ((bx b2 [vU x15.1,vU x15.2.1,vU x15.2.2] 187)::(bx b1 [vU a0.1,vU a0.2.1,vU a0.2.2] 187)::As) _:=S28;obtain⟨m25,l13,S29⟩:=St.drop S28 0;replace L0:=Mem.tr L0 l13;clear S28;replace S29:St _ ((bx b1 [vU a0.1,vU a0.2.1,vU a0.2.2] 187)::As) _:=S29;obtain⟨m26,l14,S30⟩:=St.drop S29 0;replace L0:=Mem.tr L0 l14;clear S29;replace S30:St _ (As) _:=S30;have e0:=Option.some.inj hm;subst e0;exact It [_] rfl ⟨Io (i:=1) (off:=0) (cs:=[vU x15.1,vU x15.2.1,vU x15.2.2]) SR rfl rfl Tryz.isAgg187 Tryz.sizeOf187 rfl (fun h=>by cases h),trivial⟩ ⟨_,L0,S30,rfl⟩
theorem Qa {a0:UInt64×UInt64×UInt64}{a1:Int}{r:UInt64×UInt64×UInt64}(hm:EH a0 a1=some r):Sf prog 221 [ag (Mg a0),.d (.i a1)] (ag (Mg r)):=
 ⟨call221,fun η m As w vs hv0 hd S=>by
  have S:St m As w:=S;obtain⟨v0,u0,rfl,r0,hv1⟩:=Bg.cons_inv hv0;obtain⟨c0,rfl,g0⟩:=Br.ofA Yb r0;obtain rfl:=NS g0;obtain⟨v1,u1,rfl,r1,hv2⟩:=Bg.cons_inv hv1;obtain rfl:=r1.i_inv;obtain rfl:=Bg.nil_inv hv2;refine Aw.mono (PE S hm) ?_;rintro v w' ⟨M,hle,S0,rfl⟩;exact⟨M,none0,_,_,_,hle,TH hd _,⟨rfl,rfl,rfl⟩,fun n h=>absurd rfl h,(Br.toA Yb (OF)),S0⟩⟩
def DW (s1:Int×UInt64×UInt64×UInt64):Option ((Int×UInt64×UInt64×UInt64)⊕(UInt64×UInt64×UInt64)):=if(decide (s1.1<8))=true then Ac (EH s1.2 s1.1) fun x4=>some (.inl ((w64 (s1.1+1)),x4.1,x4.2.1,x4.2.2))else some (.inr (s1.2.1,s1.2.2.1,s1.2.2.2))
def HR (a0:UInt64×UInt64×UInt64):Option (UInt64×UInt64×UInt64):=Ac (Ac (iter DW A0 (0,a0.1,a0.2.1,a0.2.2)) fun x2=>some (x2.1,x2.2.1,x2.2.2)) fun x1=>some x1
theorem SE {a0:UInt64×UInt64×UInt64}{r:UInt64×UInt64×UInt64}(hm:HR a0=some r):Sf prog 206 [ag (Mg a0)] (ag (Mg r)):=
 sp call206 func206 rfl ntmps206 rfl fun D0 As η0 m0 hd=>by
  unfold HR at hm;obtain⟨x1,q1,hm⟩:=Aa hm;obtain⟨x2,q2,q1⟩:=Aa q1;refine gjU 0 (fun(_:Unit)=>let (y_0,y_1,y_2):=x1; ⟨[(1,.pb 0 0),(2,.pb 1 0)],[(0,.box 1 [.d (.u 0),.d (.u 0),.d (.u 0)] 187),(1,.box 0 [.d (.u y_0),.d (.u y_1),.d (.u y_2)] 187)],[],2⟩) (fun _=>True) (by kernel_rfl) (fun Jp bk1=> ?_) fun _ _=> ?_
  ·refine gjU 0 (fun(_:Unit)=>let (y_0,y_1,y_2):=x2; ⟨[(1,.pb 0 0),(2,.pb 1 0)],[(0,.box 1 [.d (.u 0),.d (.u 0),.d (.u 0)] 187),(1,.box 0 [.d (.u y_0),.d (.u y_1),.d (.u y_2)] 187)],[],2⟩) (fun _=>True) (by kernel_rfl) (fun Jp bk2=> ?_) fun _ _=> ?_
   ·refine gl hd (fun(p:Nat×(Int×UInt64×UInt64×UInt64))=>let (p0,p_0,p_1,p_2,p_3):=p; ⟨[(1,.pb 0 0),(2,.pb 1 0),(3,.d (.i p_0))],[(0,.box 1 [.d (.u 0),.d (.u 0),.d (.u 0)] 187),(1,.box 0 [.d (.u p_1),.d (.u p_2),.d (.u p_3)] 187)],[],2⟩) (fun p=>iter DW p.1 p.2=some x2) (fun p=>p.1) (A0,(0,a0.1,a0.2.1,a0.2.2)) q2 (by kernel_rfl) ?_;rintro⟨n1,s1⟩ q3 Jl bl1;cases n1 with
    |zero=>exact(Ar q3).elim
    |succ n1=>
     obtain⟨y1,q5,q4⟩:=Ao q3;unfold DW at q5;refine gi q5 (by kernel_rfl) (fun hc1 q5=> ?_) fun hc1 q5=> ?_
     ·skip;obtain⟨x4,q7,q5⟩:=Aa q5;refine gc (fun _=>Qa q7) (by kernel_rfl) ?_;have e0:=Option.some.inj q5;subst e0;rcases q4 with ⟨sn,e,q4'⟩|e
      ·have e:=Sum.inl.inj e;subst e;exact gb bl1 hd (n1,_) ⟨q4',Nat.lt_succ_self _⟩ (by kernel_rfl)
      cases AN e
     have e0:=Option.some.inj q5;subst e0;rcases q4 with ⟨sn,e,_⟩|e
     ·cases B2 e
     have e:=Sum.inr.inj e;subst e;exact gb bk2 hd () trivial (by kernel_rfl)
   have e0:=Option.some.inj q1;subst e0;exact gb bk1 hd () trivial (by kernel_rfl)
  have e0:=Option.some.inj hm;subst e0;exact Au hd (by kernel_rfl)
def BL (x1:List UInt64)(s1:Int×UInt64×UInt64×UInt64):Option ((Int×UInt64×UInt64×UInt64)⊕(UInt64×UInt64×UInt64)):=if((decide (s1.1<(x1.length:Int)))||(s1.1==0))=true then Ac (if(decide (s1.1<(x1.length:Int)))=true then Ac (idx x1 s1.1) fun x6=>Ac (B7 s1.2.1 x6) fun x7=>some x7 else some s1.2.1) fun x5=>Ac (if(decide ((w64 (s1.1+1))<(x1.length:Int)))=true then Ac (idx x1 (w64 (s1.1+1))) fun x9=>Ac (B7 s1.2.2.1 x9) fun x10=>some x10 else some s1.2.2.1) fun x8=>Ac (HR (x5,x8,s1.2.2.2)) fun x11=>some (.inl ((w64 (s1.1+2)),x11.1,x11.2.1,x11.2.2))else some (.inr (s1.2.1,s1.2.2.1,s1.2.2.2))
def HP (a0:List UInt8):Option (UInt64×UInt64):=Ac (IJ a0) fun x1=>Ac (Ac (iter (BL x1) A0 (0,0,0,(toU (a0.length:Int)))) fun x3=>some (x3.1,x3.2.1,x3.2.2)) fun x2=>some (x2.1,x2.2.1)
theorem SC {a0:List UInt8}{r:UInt64×UInt64}(hm:HP a0=some r):Sf prog 176 [sl eB a0] (ag (J2 r)):=
 sp call176 func176 rfl ntmps176 rfl fun D0 As η0 m0 hd=>by
  unfold HP at hm;obtain⟨x1,q1,hm⟩:=Aa hm;refine gco (UZ q1) (by kernel_rfl) ?_;obtain⟨x2,q2,hm⟩:=Aa hm;obtain⟨x3,q3,q2⟩:=Aa q2;refine gjU 0 (fun(_:Unit)=>let (y_0,y_1,y_2):=x2; ⟨[(2,.pb 0 0),(4,.pb 1 0)],[(0,.box 1 [.d (.u y_0),.d (.u y_1),.d (.u y_2)] 187),(1,.box 0 [.d (.u 0),.d (.u 0)] 84)],[],2⟩) (fun _=>True) (by kernel_rfl) (fun Jp bk1=> ?_) fun _ _=> ?_
  ·refine gjU 0 (fun(_:Unit)=>let (y_0,y_1,y_2):=x3; ⟨[(2,.pb 0 0),(4,.pb 1 0)],[(0,.box 1 [.d (.u y_0),.d (.u y_1),.d (.u y_2)] 187),(1,.box 0 [.d (.u 0),.d (.u 0)] 84)],[],2⟩) (fun _=>True) (by kernel_rfl) (fun Jp bk2=> ?_) fun _ _=> ?_
   ·refine gl hd (fun(p:Nat×(Int×UInt64×UInt64×UInt64))=>let (p0,p_0,p_1,p_2,p_3):=p; ⟨[(2,.pb 0 0),(3,.ow 1),(4,.pb 2 0),(5,.d (.i p_0))],[(0,.box 2 [.d (.u p_1),.d (.u p_2),.d (.u p_3)] 187),(1,.row 1 1 _ eU x1),(2,.box 0 [.d (.u 0),.d (.u 0)] 84)],[],3⟩) (fun p=>iter (BL x1) p.1 p.2=some x3) (fun p=>p.1) (A0,(0,0,0,(toU (a0.length:Int)))) q3 (by kernel_rfl) ?_;rintro⟨n1,s1⟩ q4 Jl bl1;cases n1 with
    |zero=>exact(Ar q4).elim
    |succ n1=>
     obtain⟨y1,q6,q5⟩:=Ao q4;unfold BL at q6;refine gi q6 (by kernel_rfl) (fun hc1 q6=> ?_) fun hc1 q6=> ?_
     ·skip;obtain⟨x5,q8,q6⟩:=Aa q6;refine gj (fun(_:Unit)=>⟨[(2,.pb 0 0),(3,.ow 1),(4,.pb 2 0),(5,.d (.i s1.1))],[(0,.box 2 [.d (.u x5),.d (.u s1.2.2.1),.d (.u s1.2.2.2)] 187),(1,.row 1 1 _ eU x1),(2,.box 0 [.d (.u 0),.d (.u 0)] 84)],[],3⟩) (fun _=>True) (by kernel_rfl) (fun Jp bk3=> ?_) fun _ _=> ?_
      ·refine gi q8 (by kernel_rfl) (fun hc2 q8=> ?_) fun hc2 q8=> ?_
       ·obtain⟨x6,q9,q8⟩:=Aa q8;refine TB (E:=eU) (fun _=>q9) (by kernel_rfl) ?_;refine gldO (k:=1) (fo:=0) (nn:=1) (ag:=false) (E:=eU) (fun _=>rfl) (fun _=>q9) (by kernel_rfl) ?_;obtain⟨x7,q10,q8⟩:=Aa q8;refine gc (fun _=>Hy q10) (by kernel_rfl) ?_;have e0:=Option.some.inj q8;subst e0;exact gb bk3 hd () trivial (by kernel_rfl)
       have e0:=Option.some.inj q8;subst e0;exact gb bk3 hd () trivial (by kernel_rfl)
      obtain⟨x8,q11,q6⟩:=Aa q6;refine gj (fun(_:Unit)=>⟨[(2,.pb 0 0),(3,.ow 1),(4,.pb 2 0),(5,.d (.i s1.1))],[(0,.box 2 [.d (.u x5),.d (.u x8),.d (.u s1.2.2.2)] 187),(1,.row 1 1 _ eU x1),(2,.box 0 [.d (.u 0),.d (.u 0)] 84)],[],3⟩) (fun _=>True) (by kernel_rfl) (fun Jp bk4=> ?_) fun _ _=> ?_
      ·refine gi q11 (by kernel_rfl) (fun hc3 q11=> ?_) fun hc3 q11=> ?_
       ·obtain⟨x9,q12,q11⟩:=Aa q11;refine TB (E:=eU) (fun _=>q12) (by kernel_rfl) ?_;refine gldO (k:=1) (fo:=0) (nn:=1) (ag:=false) (E:=eU) (fun _=>rfl) (fun _=>q12) (by kernel_rfl) ?_;obtain⟨x10,q13,q11⟩:=Aa q11;refine gc (fun _=>Hy q13) (by kernel_rfl) ?_;have e0:=Option.some.inj q11;subst e0;exact gb bk4 hd () trivial (by kernel_rfl)
       have e0:=Option.some.inj q11;subst e0;exact gb bk4 hd () trivial (by kernel_rfl)
      obtain⟨x11,q14,q6⟩:=Aa q6;refine gc (fun _=>SE q14) (by kernel_rfl) ?_;have e0:=Option.some.inj q6;subst e0;rcases q5 with ⟨sn,e,q5'⟩|e
      ·have e:=Sum.inl.inj e;subst e;exact gb bl1 hd (n1,_) ⟨q5',Nat.lt_succ_self _⟩ (by kernel_rfl)
      cases AN e
     have e0:=Option.some.inj q6;subst e0;rcases q5 with ⟨sn,e,_⟩|e
     ·cases B2 e
     have e:=Sum.inr.inj e;subst e;exact gb bk2 hd () trivial (by kernel_rfl)
   have e0:=Option.some.inj q2;subst e0;exact gb bk1 hd () trivial (by kernel_rfl)
  have e0:=Option.some.inj hm;subst e0;exact Au hd (by kernel_rfl)
def C0 (a0:UInt64)(s1:(List UInt8)×Int):Option (((List UInt8)×Int)⊕((List UInt8))):=if(decide (s1.2≥0))=true then Ac (app 1 s1.1 ([(toB ((CZ a0 ((toU (w64 (8*s1.2))).toNat)).toNat:Int))]:List UInt8)) fun x4=>some (.inl (x4,(w64 (s1.2-1))))else some (.inr s1.1)
def FO (a0:UInt64):Option (List UInt8):=Ac (Ac (iter (C0 a0) A0 (([]:List UInt8),7)) fun x2=>some x2) fun x1=>some x1
theorem PF {a0:UInt64}{r:List UInt8}(hm:FO a0=some r):Sp prog 207 [.d (.u a0)] [] 0 (is (.ow 0) [.row 0 1 _ eB r] 1):=
 sp call207 func207 rfl ntmps207 rfl fun D0 As η0 m0 hd=>by
  unfold FO at hm;obtain⟨x1,q1,hm⟩:=Aa hm;obtain⟨x2,q2,q1⟩:=Aa q1;refine Vr 0 eB 3 1 (by kernel_rfl) ?_;refine gjU 0 (fun(_:Unit)=>⟨[(3,.ow 0)],[(0,.row 0 1 _ eB x1)],[],1⟩) (fun _=>True) (by kernel_rfl) (fun Jp bk1=> ?_) fun _ _=> ?_
  ·refine gjU 0 (fun(_:Unit)=>⟨[(3,.ow 0)],[(0,.row 0 1 _ eB x2)],[],1⟩) (fun _=>True) (by kernel_rfl) (fun Jp bk2=> ?_) fun _ _=> ?_
   ·refine gl hd (fun(p:Nat×((List UInt8)×Int))=>let (p0,p_0,p_1):=p; ⟨[(0,.d (.u a0)),(3,.ow 0),(4,.d (.i p_1))],[(0,.row 0 1 _ eB p_0)],[],1⟩) (fun p=>iter (C0 a0) p.1 p.2=some x2) (fun p=>p.1) (A0,(([]:List UInt8),7)) q2 (by kernel_rfl) ?_;rintro⟨n1,s1⟩ q3 Jl bl1;cases n1 with
    |zero=>exact(Ar q3).elim
    |succ n1=>
     obtain⟨y1,q5,q4⟩:=Ao q3;unfold C0 at q5;refine gi q5 (by kernel_rfl) (fun hc1 q5=> ?_) fun hc1 q5=> ?_
     ·skip;refine EC (k:=1) eB ([(toB ((CZ a0 ((toU (w64 (8*s1.2))).toNat)).toNat:Int))]:List UInt8) (fun _=>rfl) (by kernel_rfl) ?_;obtain⟨x4,q7,q5⟩:=Aa q5;refine KS (k:=1) (E:=eB) (fun _=>rfl) q7 (by kernel_rfl) ?_;have e0:=Option.some.inj q5;subst e0;rcases q4 with ⟨sn,e,q4'⟩|e
      ·have e:=Sum.inl.inj e;subst e;exact gb bl1 hd (n1,_) ⟨q4',Nat.lt_succ_self _⟩ (by kernel_rfl)
      cases AN e
     have e0:=Option.some.inj q5;subst e0;rcases q4 with ⟨sn,e,_⟩|e
     ·cases B2 e
     have e:=Sum.inr.inj e;subst e;exact gb bk2 hd () trivial (by kernel_rfl)
   have e0:=Option.some.inj q1;subst e0;exact gb bk1 hd () trivial (by kernel_rfl)
  have e0:=Option.some.inj hm;subst e0;exact Au hd (by kernel_rfl)
def C1 (a1:List (List UInt8))(s1:(List UInt8)×Int):Option (((List UInt8)×Int)⊕((List UInt8))):=if(decide (s1.2<(a1.length:Int)))=true then Ac (idx a1 s1.2) fun x5=>Ac (FO (toU (x5.length:Int))) fun x6=>Ac (cut x6 4 (x6.length:Int)) fun x7=>Ac (app 1 s1.1 x7) fun x8=>Ac (idx a1 s1.2) fun x9=>Ac (app 1 x8 x9) fun x10=>some (.inl (x10,(w64 (s1.2+1))))else some (.inr s1.1)
def Hl (a0:ByteArray)(a1:List (List UInt8)):Option (List UInt8):=Ac (app 1 ([(toB (a0.size:Int))]:List UInt8) a0.data.toList) fun x1=>Ac (Ac (iter (C1 a1) A0 (x1,0)) fun x3=>some x3) fun x2=>some x2
theorem PG {a0:ByteArray}{a1:List (List UInt8)}{r:List UInt8}(hm:Hl a0 a1=some r):Sp prog 177 [.d (.s a0),sl (eL eB) a1] [] 0 (is (.ow 0) [.row 0 1 _ eB r] 1):=
 sp call177 func177 rfl ntmps177 rfl fun D0 As η0 m0 hd=>by
  unfold Hl at hm;refine VB (k:=1) eB ([(toB (a0.size:Int))]:List UInt8) (fun _=>rfl) (by kernel_rfl) ?_;obtain⟨x1,q1,hm⟩:=Aa hm;refine gapS q1 (by kernel_rfl) ?_;obtain⟨x2,q2,hm⟩:=Aa hm;obtain⟨x3,q3,q2⟩:=Aa q2;refine gjU 0 (fun(_:Unit)=>⟨[(5,.ow 0)],[(0,.row 0 1 _ eB x2)],[],1⟩) (fun _=>True) (by kernel_rfl) (fun Jp bk1=> ?_) fun _ _=> ?_
  ·refine gjU 0 (fun(_:Unit)=>⟨[(5,.ow 0)],[(0,.row 0 1 _ eB x3)],[],1⟩) (fun _=>True) (by kernel_rfl) (fun Jp bk2=> ?_) fun _ _=> ?_
   ·refine gl hd (fun(p:Nat×((List UInt8)×Int))=>let (p0,p_0,p_1):=p; ⟨[(1,sl (eL eB) a1),(5,.ow 0),(6,.d (.i p_1))],[(0,.row 0 1 _ eB p_0)],[],1⟩) (fun p=>iter (C1 a1) p.1 p.2=some x3) (fun p=>p.1) (A0,(x1,0)) q3 (by kernel_rfl) ?_;rintro⟨n1,s1⟩ q4 Jl bl1;cases n1 with
    |zero=>exact(Ar q4).elim
    |succ n1=>
     obtain⟨y1,q6,q5⟩:=Ao q4;unfold C1 at q6;refine gi q6 (by kernel_rfl) (fun hc1 q6=> ?_) fun hc1 q6=> ?_
     ·skip;obtain⟨x5,q8,q6⟩:=Aa q6;refine Hc (k:=1) (E:=(eL eB)) (fun _=>rfl) (fun _=>q8) (by kernel_rfl) ?_;obtain⟨x6,q9,q6⟩:=Aa q6;refine gco (PF q9) (by kernel_rfl) ?_;obtain⟨x7,q10,q6⟩:=Aa q6;refine gcutF (k:=1) (E:=eB) (fun _=>rfl) q10 (by kernel_rfl) ?_;obtain⟨x8,q11,q6⟩:=Aa q6;refine KS (k:=1) (E:=eB) (fun _=>rfl) q11 (by kernel_rfl) ?_;obtain⟨x9,q12,q6⟩:=Aa q6;refine Hc (k:=1) (E:=(eL eB)) (fun _=>rfl) (fun _=>q12) (by kernel_rfl) ?_;obtain⟨x10,q13,q6⟩:=Aa q6;refine KS (k:=1) (E:=eB) (fun _=>rfl) q13 (by kernel_rfl) ?_;have e0:=Option.some.inj q6;subst e0;rcases q5 with ⟨sn,e,q5'⟩|e
      ·have e:=Sum.inl.inj e;subst e;exact gb bl1 hd (n1,_) ⟨q5',Nat.lt_succ_self _⟩ (by kernel_rfl)
      cases AN e
     have e0:=Option.some.inj q6;subst e0;rcases q5 with ⟨sn,e,_⟩|e
     ·cases B2 e
     have e:=Sum.inr.inj e;subst e;exact gb bk2 hd () trivial (by kernel_rfl)
   have e0:=Option.some.inj q2;subst e0;exact gb bk1 hd () trivial (by kernel_rfl)
  have e0:=Option.some.inj hm;subst e0;exact Au hd (by kernel_rfl)
def E0 (a0:ByteArray)(a1:List (List UInt8)):Option (UInt64×UInt64):=Ac (Hl a0 a1) fun x1=>Ac (HP x1) fun x2=>some x2
theorem Ov {a0:ByteArray}{a1:List (List UInt8)}{r:UInt64×UInt64}(hm:E0 a0 a1=some r):Sf prog 127 [.d (.s a0),sl (eL eB) a1] (ag (J2 r)):=
 sp call127 func127 rfl ntmps127 rfl fun D0 As η0 m0 hd=>by
  unfold E0 at hm;obtain⟨x1,q1,hm⟩:=Aa hm;refine gco (PG q1) (by kernel_rfl) ?_;obtain⟨x2,q2,hm⟩:=Aa hm;refine gco (SC q2) (by kernel_rfl) ?_;have e0:=Option.some.inj hm;subst e0;exact Au hd (by kernel_rfl)
def DR (s1:UInt64×Int×(List UInt8)):Option ((UInt64×Int×(List UInt8))⊕((List UInt8))):=if(decide (s1.2.1≥0))=true then Ac (idx s1.2.2 s1.2.1) fun x4=>bnd (s1.2.2.set s1.2.1.toNat (toB ((s1.1%256).toNat:Int))) fun x5=>some (.inl ((s1.1/256),(w64 (s1.2.1-1)),x5))else some (.inr s1.2.2)
def DE (a0:UInt64):Option (List UInt8):=Ac (Ac (iter DR A0 (a0,7,(List.replicate 8 (0:UInt8)))) fun x2=>some x2) fun x1=>some x1
theorem PC {m:Mem}{As:List Ow}{w:World}{a0:UInt64}{r:List UInt8}(S:St m (As) w)(hm:DE a0=some r):
  Aw Tryz.prog 128 #[vU a0] w fun v w'=> ∃(M:Mem),m≤M∧∃(rv0:Value) (rc0:List Value),St M ((row 1 rv0 rc0 r.length)::As) w'∧v=rv0∧Bw M rc0 r:=by
 unfold DE at hm;have L0:=Mem.rfl' m;refine CP (args:=[vU a0]) Tryz.func128 rfl Tryz.ntmps128 (Nat.le_of_ble_eq_true rfl) ?_;refine Ag ?_;refine Ad ?_;refine AP (v:= .slice none 0 0) rfl ?_;refine Ah ?_;refine nrm ?_;refine Ag ?_;refine Ad ?_;refine s_mk1 (k:=8) (x0:=(0:UInt8)) (bytes:=1) (ti:=Tryz.t5) S rfl rfl ⟨by decide,by decide,by decide⟩ Tryz.underlying52 Tryz.type5 rfl rfl rfl rfl rfl ?_;intro v1 c1 w1 S1 h1;replace S1:St _ ((row 1 v1 c1 (List.replicate 8 (0:UInt8)).length)::As) _:=S1;clear S;refine AP (v:=v1) rfl ?_;refine Ah ?_;refine nrm ?_;obtain⟨x1,q1,hm⟩:=Aa hm;have L1:=Mem.rfl' m;refine Ag ?_;refine AT [0,4,6,7,8,9,10,11,12,13,14,15,16,17] (fun f' w'=> ∃(M1:Mem) (c2:List Value),m≤M1∧St M1 ((row 1 v1 c2 x1.length)::As) w'∧Bw M1 c2 x1∧Cb f' []) ?_ ?_
 ·refine Ag ?_;refine Ad ?_;refine AP (v:=vI 7) rfl ?_;refine Ah ?_;refine nrm ?_;obtain⟨x2,q2,q1⟩:=Aa q1;have L2:=Mem.rfl' m;refine AT [0,4,6,7,8,9,10,11,12,13,14,15,16,17] (fun f' w'=> ∃(M2:Mem) (c4:List Value),m≤M2∧St M2 ((row 1 v1 c4 x2.length)::As) w'∧Bw M2 c4 x2∧Cb f' []) ?_ ?_
  ·refine Av ?_;refine BT [0,4,6,7,8,9,10,11,12,13,14,15,16,17] (fun n1 f' w'=> ∃(s1:UInt64×Int×(List UInt8)) (m2:Mem) (c3:List Value),iter DR n1 s1=some x2∧m≤m2∧St m2 ((row 1 v1 c3 s1.2.2.length)::As) w'∧Bw m2 c3 s1.2.2∧Cb f' [(0,vU s1.1),(4,vI s1.2.1)]) A0 ⟨(a0,7,(List.replicate 8 (0:UInt8))),m,_,q2,L2,S1,h1,⟨rfl,rfl,trivial⟩⟩ ?_;rintro n1 f1 w2 ho ⟨s1,m1,c3,q3,L4,S2,h3,ha⟩;obtain⟨u1,rfl⟩:=BR (N:=19) ho ha;clear ho ha;have L3:=Mem.rfl' m1;clear S1;cases n1 with
   |zero=>exact(Ar q3).elim
   |succ n1=>
    obtain⟨y1,q5,q4⟩:=Ao q3;unfold DR at q5;refine Ag ?_;refine Ag ?_;refine Ad ?_;refine Ap (v:=vI s1.2.1) rfl ?_;refine YM (m:=s1.2.1) (n:=0) rfl rfl ?_;refine Ah ?_;refine nrm ?_;refine Cq (t:=(decide (s1.2.1≥0))) rfl (fun hc1=> ?_) (fun hc1=> ?_)
    ·replace q5:=ifT hc1 q5;refine AQ ?_;refine nrm ?_;refine Ag ?_;refine Av ?_;refine Ag ?_;refine Ad ?_;refine Ap (v:=v1) rfl ?_;refine Ap (v:=vI s1.2.1) rfl ?_;refine Ap (v:=vU s1.1) rfl ?_;refine ZZ (m:=s1.1) (n:=256) rfl rfl (by decide) ?_;refine Qc rfl Tryz.underlying22 Tryz.underlying5 ?_;obtain⟨x4,q7,q5⟩:=Aa q5;refine Z3 (i:=0) (j:=s1.2.1) S2 rfl rfl rfl (CB q7).1 (CB q7).2 Tryz.underlying52 Tryz.sizeOf5 ?_;intro p1 h5;obtain⟨x5,q8,q5⟩:=CC q5;refine Wb (i:=0) (j:=s1.2.1) (z:=(toB ((s1.1%256).toNat:Int))) S2 rfl rfl h5 rfl h3 q7 Tryz.sizeOf5 (IS rfl LZ) rfl ?_;intro w3 c5 S3 h6;rw[←q8]at S3 h6;replace S3:St _ ((row 1 v1 c5 x5.length)::As) _:=S3;clear S2;refine Ah ?_;refine nrm ?_;refine Ad ?_;refine Ap (v:=vU s1.1) rfl ?_;refine Z0 (m:=s1.1) (n:=256) rfl rfl (by decide) ?_;refine AP (v:=vU (s1.1/256)) rfl ?_;refine Ah ?_;refine Mb ?_;refine nrm ?_;refine Ad ?_;refine Ap (v:=vI s1.2.1) rfl ?_;refine My (m:=s1.2.1) (n:=1) rfl rfl ?_;refine AP (v:=vI (w64 (s1.2.1-1))) rfl ?_;refine Ah ?_;refine nrm ?_;have e0:=Option.some.inj q5;subst e0;rcases q4 with ⟨sn,e,q4'⟩|e
     ·cases e;exact⟨E2,_,Nat.lt_succ_self _,⟨_,m1,_,q4',Mem.tr L4 L3,S3,h6,⟨rfl,rfl,trivial⟩⟩⟩
     ·cases e
    replace q5:=ifF hc1 q5;refine CD ?_;refine thE ?_;refine thE ?_;refine exB ?_;refine nrm ?_;have e0:=Option.some.inj q5;subst e0;rcases q4 with ⟨sn,e,_⟩|e
    ·cases e
    ·cases e;exact⟨E2,m1,_,Mem.tr L4 L3,S2,h3,trivial⟩
  rintro f2 w4 ho ⟨m3,c4,l1,S4,h4,ha⟩;obtain⟨u2,rfl⟩:=BR (N:=19) ho ha;clear ho ha;replace L1:=Mem.tr L1 l1;clear S1;have e0:=Option.some.inj q1;subst e0;exact⟨E2,m3,_,L1,S4,h4,trivial⟩
 rintro f3 w5 ho ⟨m4,c2,l2,S5,h2,ha⟩;obtain⟨u3,rfl⟩:=BR (N:=19) ho ha;replace L0:=Mem.tr L0 l2;clear S1;refine Ag ?_;refine Ad ?_;refine Ap (v:=v1) rfl ?_;refine AP (v:=v1) rfl ?_;refine Ah ?_;refine nrm ?_;refine Be ?_;refine D3 ?_;intro we hpd;replace S5:=St.pd S5 hpd;have e0:=Option.some.inj hm;subst e0;exact It [_] rfl ⟨rfl,trivial⟩ ⟨_,L0,_,_,S5,rfl,h2⟩
theorem Lf {a0:UInt64}{r:List UInt8}(hm:DE a0=some r):Sp prog 128 [.d (.u a0)] [] 0 (is (.ow 0) [.row 0 1 _ eB r] 1):=
 ⟨call128,fun η m As w vs hv0 hd S=>by
  have S:St m As w:=S;obtain⟨v0,u0,rfl,r0,hv1⟩:=Bg.cons_inv hv0;obtain rfl:=r0.u_inv;obtain rfl:=Bg.nil_inv hv1;refine Aw.mono (PC S hm) ?_;rintro v w' ⟨M,hle,y0,c0,S0,rfl,h0⟩;exact⟨M,(Aaz [v]),_,_,_,hle,TH hd _,⟨rfl,rfl,rfl⟩,Jk rfl,(.ow rfl (DZ S0)),(St.impL S0 (Aa9 (Br.toR Br.b rfl rfl (DZ S0) h0) fun _ h=>h))⟩⟩
def Cn (a0:UInt64)(a1:UInt64)(a2:List UInt8):Option UInt64:=Ac (DE a0) fun x1=>Ac (DE a1) fun x2=>Ac (E0 (⟨#[115,105,103,110]⟩:ByteArray) ([x1,x2,a2]:List (List UInt8))) fun x3=>Ac (HQ x3 1152921504606845789) fun x4=>some x4
theorem LI {a0:UInt64}{a1:UInt64}{a2:List UInt8}{r:UInt64}(hm:Cn a0 a1 a2=some r):Sf prog 75 [.d (.u a0),.d (.u a1),sl eB a2] (.d (.u r)):=
 sp call75 func75 rfl ntmps75 rfl fun D0 As η0 m0 hd=>by
  unfold Cn at hm;obtain⟨x1,q1,hm⟩:=Aa hm;refine gco (Lf q1) (by kernel_rfl) ?_;obtain⟨x2,q2,hm⟩:=Aa hm;refine gco (Lf q2) (by kernel_rfl) ?_;refine Vs (k:=1) (eL eB) ([x1,x2,a2]:List (List UInt8)) (fun _=>rfl) (by kernel_rfl) ?_;obtain⟨x3,q3,hm⟩:=Aa hm;refine gc (fun _=>Ov q3) (by kernel_rfl) ?_;obtain⟨x4,q4,hm⟩:=Aa hm;refine gc (fun _=>SD q4) (by kernel_rfl) ?_;have e0:=Option.some.inj hm;subst e0;exact Au hd (by kernel_rfl)
def FN (a0:UInt64)(a1:List UInt8)(a2:g_api_Sig):Option Int:=Ac (II a0) fun x1=>if(!x1)=true then some 1 else if((decide ((a2.E.toNat:Int)≥1152921504606845789))||(decide ((a2.S.toNat:Int)≥1152921504606845789)))=true then some 40 else Ac (Ep a2.S) fun x2=>Ac (Gz a0 (1152921504606845789-a2.E)) fun x3=>Ac (GA x2 x3) fun x4=>Ac (Cn x4 a0 a1) fun x5=>if((x5.toNat:Int) !=(a2.E.toNat:Int))=true then some 40 else some 0
theorem PD {a0:UInt64}{a1:List UInt8}{a2:g_api_Sig}{r:Int}(hm:FN a0 a1 a2=some r):Sf prog 32 [.d (.u a0),sl eB a1,ag (H2 a2)] (.d (.i r)):=
 sp call32 func32 rfl ntmps32 rfl fun D0 As η0 m0 hd=>by
  unfold FN at hm;obtain⟨x1,q1,hm⟩:=Aa hm;refine gc (fun _=>UY q1) (by kernel_rfl) ?_;refine gi hm (by kernel_rfl) (fun hc1 hm=> ?_) fun hc1 hm=> ?_
  ·skip;have e0:=Option.some.inj hm;subst e0;exact Au hd (by kernel_rfl)
  refine gi hm (by kernel_rfl) (fun hc2 hm=> ?_) fun hc2 hm=> ?_
  ·skip;have e0:=Option.some.inj hm;subst e0;exact Au hd (by kernel_rfl)
  obtain⟨x2,q2,hm⟩:=Aa hm;refine gc (fun _=>Re q2) (by kernel_rfl) ?_;obtain⟨x3,q3,hm⟩:=Aa hm;refine gc (fun _=>SA q3) (by kernel_rfl) ?_;obtain⟨x4,q4,hm⟩:=Aa hm;refine gc (fun _=>SB q4) (by kernel_rfl) ?_;obtain⟨x5,q5,hm⟩:=Aa hm;refine gc (fun _=>LI q5) (by kernel_rfl) ?_;refine gi hm (by kernel_rfl) (fun hc3 hm=> ?_) fun hc3 hm=> ?_
  ·skip;have e0:=Option.some.inj hm;subst e0;exact Au hd (by kernel_rfl)
  have e0:=Option.some.inj hm;subst e0;exact Au hd (by kernel_rfl)
def GV (a0:g_api_Cert)(a1:g_api_Cert):Option Int:=Ac (DD a0) fun x1=>Ac (if(x1==0)=true then Ac (DD a1) fun x3=>some x3 else some x1) fun x2=>if(x2 !=0)=true then some x2 else if((!a1.Ca)||(!eqS a1.Subject a0.Issuer))=true then some 191 else Ac (GY a0) fun x4=>Ac (FN a1.Key x4.1 a0.Sig) fun x5=>if(x5 !=0)=true then some 40 else some 0
theorem Q3 {a0:g_api_Cert}{a1:g_api_Cert}{r:Int}(hm:GV a0 a1=some r):Sf prog 14 [ag (Ae a0),ag (Ae a1)] (.d (.i r)):=
 sp call14 func14 rfl ntmps14 rfl fun D0 As η0 m0 hd=>by
  unfold GV at hm;obtain⟨x1,q1,hm⟩:=Aa hm;refine gc (fun _=>IT q1) (by kernel_rfl) ?_;obtain⟨x2,q2,hm⟩:=Aa hm;refine gj (fun(_:Unit)=>⟨[(2,.pb 0 0),(3,.pb 1 0),(5,.d (.i x2))],[(0,.box 1 [.d (.i a1.Serial),.d (.s a1.Issuer),.d (.s a1.Subject),.d (.u a1.Key),sl eS a1.Names,.d (.i a1.From),.d (.i a1.Until),.d (.t a1.Ca),.d (.i a1.Depth),sl eS a1.Permit,sl Ai a1.Proms,.d (.u a1.Sig.E),.d (.u a1.Sig.S)] 28),(1,.box 0 [.d (.i a0.Serial),.d (.s a0.Issuer),.d (.s a0.Subject),.d (.u a0.Key),sl eS a0.Names,.d (.i a0.From),.d (.i a0.Until),.d (.t a0.Ca),.d (.i a0.Depth),sl eS a0.Permit,sl Ai a0.Proms,.d (.u a0.Sig.E),.d (.u a0.Sig.S)] 28)],[],2⟩) (fun _=>True) (by kernel_rfl) (fun Jp bk1=> ?_) fun _ _=> ?_
  ·refine gi q2 (by kernel_rfl) (fun hc1 q2=> ?_) fun hc1 q2=> ?_
   ·obtain⟨x3,q3,q2⟩:=Aa q2;refine gc (fun _=>IT q3) (by kernel_rfl) ?_;have e0:=Option.some.inj q2;subst e0;exact gb bk1 hd () trivial (by kernel_rfl)
   have e0:=Option.some.inj q2;subst e0;exact gb bk1 hd () trivial (by kernel_rfl)
  refine gi hm (by kernel_rfl) (fun hc2 hm=> ?_) fun hc2 hm=> ?_
  ·skip;have e0:=Option.some.inj hm;subst e0;exact Au hd (by kernel_rfl)
  refine gi hm (by kernel_rfl) (fun hc3 hm=> ?_) fun hc3 hm=> ?_
  ·skip;have e0:=Option.some.inj hm;subst e0;exact Au hd (by kernel_rfl)
  obtain⟨x4,q4,hm⟩:=Aa hm;refine gco (Q7 q4) (by kernel_rfl) ?_;obtain⟨x5,q5,hm⟩:=Aa hm;refine gco (PD q5) (by kernel_rfl) ?_;refine gi hm (by kernel_rfl) (fun hc4 hm=> ?_) fun hc4 hm=> ?_
  ·skip;have e0:=Option.some.inj hm;subst e0;exact Au hd (by kernel_rfl)
  have e0:=Option.some.inj hm;subst e0;exact Au hd (by kernel_rfl)
def Dp (a0:g_api_Cert)(a1:g_api_Cert):Option Bool:=Ac (Ih) fun x1=>if(!x1)=true then some false else Ac (HV ([a0,a1]:List g_api_Cert) ([]:List g_api_Cert) (⟨#[]⟩:ByteArray)) fun x2=>if(!x2)=true then some x1 else Ac (gu x1 (CR a0 a1)) fun x3=>Ac (gu x1 (GV a0 a1)) fun x4=>some (x1&&(x3==x4))
theorem LL {a0:g_api_Cert}{a1:g_api_Cert}{r:Bool}(hm:Dp a0 a1=some r):Sf prog 3 [ag (Ae a0),ag (Ae a1)] (.d (.t r)):=
 sp call3 func3 rfl ntmps3 rfl fun D0 As η0 m0 hd=>by
  unfold Dp at hm;obtain⟨x1,q1,hm⟩:=Aa hm;refine gc (fun _=>Ri q1) (by kernel_rfl) ?_;refine gi hm (by kernel_rfl) (fun hc1 hm=> ?_) fun hc1 hm=> ?_
  ·skip;have e0:=Option.some.inj hm;subst e0;exact Au hd (by kernel_rfl)
  refine EC (k:=13) Ae ([a0,a1]:List g_api_Cert) (fun _=>rfl) (by kernel_rfl) ?_;obtain⟨x2,q2,hm⟩:=Aa hm;refine gc (fun _=>SG q2) (by kernel_rfl) ?_;refine gi hm (by kernel_rfl) (fun hc2 hm=> ?_) fun hc2 hm=> ?_
  ·skip;have e0:=Option.some.inj hm;subst e0;exact Au hd (by kernel_rfl)
  obtain⟨x3,q3,hm⟩:=Aa hm;refine gcG (fun h=>E8 (DX h q3)) (by kernel_rfl) ?_;obtain⟨x4,q4,hm⟩:=Aa hm;refine gcG (fun h=>Q3 (DX h q4)) (by kernel_rfl) ?_;have e0:=Option.some.inj hm;subst e0;exact Au hd (by kernel_rfl)
end Go.Proofs.YtbajlmaijjcbmaaGreatDoor
