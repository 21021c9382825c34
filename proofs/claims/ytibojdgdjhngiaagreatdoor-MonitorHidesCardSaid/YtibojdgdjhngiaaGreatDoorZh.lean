/- The walks of some functions, by the executor, written by program. Conditions: none. -/
import Derived.Test.YtibojdgdjhngiaaGreatDoorZf
import Derived.Test.YtibojdgdjhngiaaGreatDoorZg
set_option linter.unusedSimpArgs false
set_option linter.unusedVariables false
set_option maxHeartbeats 20000000
set_option maxRecDepth 100000
namespace Go.Proofs.YtibojdgdjhngiaaGreatDoor
open Go Go.Gw Go.Ax Tryz
def HF (a0:ByteArray):Option Bool:=Ad (Dn a0 8 64) fun x1=>some x1
theorem N9 {a0:ByteArray}{r:Bool}(hm:HF a0=some r):Sf prog 234 [.d (.s a0)] (.d (.t r)):=
 sp call234 func234 rfl ntmps234 rfl fun D0 As η0 m0 hd=>by
  unfold HF at hm;obtain⟨x1,q1,hm⟩:=Aa hm;refine gc (fun _=>LW q1) (by kernel_rfl) ?_;have e0:=Option.some.inj hm;subst e0;exact AH hd (by kernel_rfl)
def Bj (a0:ByteArray)(a1:ByteArray):Option Bool:=Ad (gu (decide ((a0.size:Int)≥(a1.size:Int))) (U8 a0 0 (a1.size:Int))) fun x1=>bnd (((decide ((a0.size:Int)≥(a1.size:Int)))&&(eqS x1 a1))) fun x2=>some x2
theorem Gz {a0:ByteArray}{a1:ByteArray}{r:Bool}(hm:Bj a0 a1=some r):Sf prog 271 [.d (.s a0),.d (.s a1)] (.d (.t r)):=
 sp call271 func271 rfl ntmps271 rfl fun D0 As η0 m0 hd=>by
  unfold Bj at hm;obtain⟨x1,q1,hm⟩:=Aa hm;refine gcutSG (fun h=>Ig h q1) (by kernel_rfl) ?_;have hm:=A6 hm;let x2:Bool:=(((decide ((a0.size:Int)≥(a1.size:Int)))&&(eqS x1 a1)));have e0:=Option.some.inj hm;subst e0;exact AH hd (by kernel_rfl)
def Bl (a0:ByteArray)(a1:ByteArray):Option (ByteArray×Bool):=Ad (Bj a0 a1) fun x1=>if(!x1)=true then some (a0,false)else Ad (U8 a0 (a1.size:Int) (a0.size:Int)) fun x2=>some (x2,true)
theorem GA {a0:ByteArray}{a1:ByteArray}{r:ByteArray×Bool}(hm:Bl a0 a1=some r):Sf prog 265 [.d (.s a0),.d (.s a1)] (.tup [.d (.s r.1),.d (.t r.2)]):=
 sp call265 func265 rfl ntmps265 rfl fun D0 As η0 m0 hd=>by
  unfold Bl at hm;obtain⟨x1,q1,hm⟩:=Aa hm;refine gc (fun _=>Gz q1) (by kernel_rfl) ?_;refine gi hm (by kernel_rfl) (fun hc1 hm=> ?_) fun hc1 hm=> ?_
  ·skip;have e0:=Option.some.inj hm;subst e0;exact AH hd (by kernel_rfl)
  obtain⟨x2,q2,hm⟩:=Aa hm;refine gcutS (fun _=>q2) (by kernel_rfl) ?_;have e0:=Option.some.inj hm;subst e0;exact AH hd (by kernel_rfl)
def B8 (a0:ByteArray)(a1:ByteArray):Option (ByteArray×Bool):=Ad (Bl a0 a1) fun x1=>some (x1.1,x1.2)
theorem Kp {a0:ByteArray}{a1:ByteArray}{r:ByteArray×Bool}(hm:B8 a0 a1=some r):Sf prog 255 [.d (.s a0),.d (.s a1)] (.tup [.d (.s r.1),.d (.t r.2)]):=
 sp call255 func255 rfl ntmps255 rfl fun D0 As η0 m0 hd=>by
  unfold B8 at hm;obtain⟨x1,q1,hm⟩:=Aa hm;refine gc (fun _=>GA q1) (by kernel_rfl) ?_;have e0:=Option.some.inj hm;subst e0;exact AH hd (by kernel_rfl)
def EF (a0:ByteArray):Option (ByteArray×Bool×Bool):=Ad (HF a0) fun x1=>if x1=true then some (a0,false,true)else Ad (B8 a0 (⟨#[42,46]⟩:ByteArray)) fun x2=>Ad (gu x2.2 (Dn x2.1 7 62)) fun x3=>some (x2.1,x2.2,(x2.2&&x3))
theorem ML {a0:ByteArray}{r:ByteArray×Bool×Bool}(hm:EF a0=some r):Sf prog 232 [.d (.s a0)] (.tup [.d (.s r.1),.d (.t r.2.1),.d (.t r.2.2)]):=
 sp call232 func232 rfl ntmps232 rfl fun D0 As η0 m0 hd=>by
  unfold EF at hm;obtain⟨x1,q1,hm⟩:=Aa hm;refine gc (fun _=>N9 q1) (by kernel_rfl) ?_;refine gi hm (by kernel_rfl) (fun hc1 hm=> ?_) fun hc1 hm=> ?_
  ·skip;have e0:=Option.some.inj hm;subst e0;exact AH hd (by kernel_rfl)
  obtain⟨x2,q2,hm⟩:=Aa hm;refine gc (fun _=>Kp q2) (by kernel_rfl) ?_;obtain⟨x3,q3,hm⟩:=Aa hm;refine gcG (fun h=>LW (Ig h q3)) (by kernel_rfl) ?_;have e0:=Option.some.inj hm;subst e0;exact AH hd (by kernel_rfl)
def EE (a0:Bool):Option Int:=if a0=true then some 0 else some 110
theorem LO {a0:Bool}{r:Int}(hm:EE a0=some r):Sf prog 233 [.d (.t a0)] (.d (.i r)):=
 sp call233 func233 rfl ntmps233 rfl fun D0 As η0 m0 hd=>by
  unfold EE at hm;refine gi hm (by kernel_rfl) (fun hc1 hm=> ?_) fun hc1 hm=> ?_
  ·skip;have e0:=Option.some.inj hm;subst e0;exact AH hd (by kernel_rfl)
  have e0:=Option.some.inj hm;subst e0;exact AH hd (by kernel_rfl)
def CH (a0:ByteArray):Option Int:=Ad (EF a0) fun x1=>Ad (EE x1.2.2) fun x2=>some x2
theorem MM {a0:ByteArray}{r:Int}(hm:CH a0=some r):Sf prog 188 [.d (.s a0)] (.d (.i r)):=
 sp call188 func188 rfl ntmps188 rfl fun D0 As η0 m0 hd=>by
  unfold CH at hm;obtain⟨x1,q1,hm⟩:=Aa hm;refine gc (fun _=>ML q1) (by kernel_rfl) ?_;obtain⟨x2,q2,hm⟩:=Aa hm;refine gc (fun _=>LO q2) (by kernel_rfl) ?_;have e0:=Option.some.inj hm;subst e0;exact AH hd (by kernel_rfl)
def Dp (a0:ByteArray):Option Int:=Ad (HF a0) fun x1=>Ad (EE x1) fun x2=>some x2
theorem OV {a0:ByteArray}{r:Int}(hm:Dp a0=some r):Sf prog 189 [.d (.s a0)] (.d (.i r)):=
 sp call189 func189 rfl ntmps189 rfl fun D0 As η0 m0 hd=>by
  unfold Dp at hm;obtain⟨x1,q1,hm⟩:=Aa hm;refine gc (fun _=>N9 q1) (by kernel_rfl) ?_;obtain⟨x2,q2,hm⟩:=Aa hm;refine gc (fun _=>LO q2) (by kernel_rfl) ?_;have e0:=Option.some.inj hm;subst e0;exact AH hd (by kernel_rfl)
def D9 (i1:Int)(x2:ByteArray)(s1:(List (ByteArray×Bool))):Option (((List (ByteArray×Bool)))⊕Bool):=Ad (gu (!(lkB s1 x2)) (CH x2)) fun x3=>if((lkB s1 x2)||(x3 !=0))=true then some (.inr false)else if(lkI s1 x2 0).isNone=true then some (.inl (s1++[(x2,true)]))else none
def Ei (a0:List ByteArray)(a1:Int)(a2:Int):Option Bool:=Ad (GW D9 a0 0 ([]:List (ByteArray×Bool))) fun x1=>match x1 with| .inr r=>some r| .inl y1=>bnd (((decide ((a0.length:Int)≥a1))&&(decide ((a0.length:Int)≤a2)))) fun x4=>some x4
theorem Mn {a0:List ByteArray}{a1:Int}{a2:Int}{r:Bool}(hm:Ei a0 a1 a2=some r):Sf prog 187 [sl eS a0,.d (.i a1),.d (.i a2),.fn (.func 188) [] []] (.d (.t r)):=
 sp call187 func187 rfl ntmps187 rfl fun D0 As η0 m0 hd=>by
  unfold Ei at hm;refine gmkm (by kernel_rfl) ?_;obtain⟨x1,q1,hm⟩:=Aa hm;refine Mr 0 (E:=eS) (xs:=a0) 13 (by kernel_rfl) fun hle1=> ?_;refine gjU 0 (fun(y1:(List (ByteArray×Bool)))=>⟨[(0,sl eS a0),(1,.d (.i a1)),(2,.d (.i a2)),(12,.ow 0)],[(0,.hp 0 (.mp y1))],[],1⟩) (fun y1=>x1= .inl y1) (by kernel_rfl) (fun Jp bk1=> ?_) fun y1 hy=> ?_
  ·refine gl hd (fun(p:Int×((List (ByteArray×Bool))))=>let (p0,p_0):=p; ⟨[(0,sl eS a0),(1,.d (.i a1)),(2,.d (.i a2)),(3,.fn (.func 188) [] []),(9,.ow 0),(13,sl eS a0),(14,.d (.i (a0.length:Int))),(15,.d (.i p0)),(12,.ow 0)],[(0,.hp 0 (.mp p_0))],[],1⟩) (fun p=> ∃i:Nat,p.1=(i:Int)∧i≤a0.length∧GW D9 (a0.drop i) (i:Int) p.2=some x1) (fun p=>a0.length-p.1.toNat) (0,([]:List (ByteArray×Bool))) ⟨0,rfl,Nat.zero_le _,q1⟩ (by kernel_rfl) ?_;rintro⟨_,s1⟩ ⟨i1,rfl,hi,q2⟩ Jl bl1;refine gi' (b:=decide ((i1:Int)<(a0.length:Int))) (by kernel_rfl) (fun hc2=> ?_) fun hc2=> ?_
   ·have hlt1:i1<a0.length:=by have:=of_decide_eq_true hc2; omega
    obtain⟨x2,y2,q5,q4,q3⟩:=K8 q2 hlt1;unfold D9 at q4;refine Ff (k:=1) (E:=eS) (fun _=>rfl) (fun _=>q5) (by kernel_rfl) ?_;refine glk s1 x2 (by kernel_rfl) ?_;obtain⟨x3,q6,q4⟩:=Aa q4;refine gcG (fun h=>MM (Ig h q6)) (by kernel_rfl) ?_;refine gi q4 (by kernel_rfl) (fun hc1 q4=> ?_) fun hc1 q4=> ?_
    ·skip;cases q4;rcases q3 with ⟨sn,e,_⟩|⟨tn,e,e2⟩
     ·cases e
     cases e;cases e2;dsimp only at hm;have e0:=Option.some.inj hm;subst e0;exact AH hd (by kernel_rfl)
    obtain⟨q7,q4⟩:=Ct q4;refine gup q7 (by kernel_rfl) ?_;have e0:=Option.some.inj q4;subst e0;rcases q3 with ⟨sn,e,q3'⟩|⟨tn,e,_⟩
    ·have e:=Sum.inl.inj e;subst e;exact gb bl1 hd (w64 ((i1:Int)+1),_) ⟨⟨i1+1,AY hlt1 hle1,by omega,q3'⟩,GK hlt1 hle1⟩ (by kernel_rfl)
    cases CX e
   have hlt1: ¬i1<a0.length:=by have:=of_decide_eq_false hc2; omega
   have e:=J2 q2 hlt1;cases e;exact gb bk1 hd _ rfl (by kernel_rfl)
  subst hy;dsimp only at hm;have hm:=A6 hm;let x4:Bool:=(((decide ((a0.length:Int)≥a1))&&(decide ((a0.length:Int)≤a2))));have e0:=Option.some.inj hm;subst e0;exact AH hd (by kernel_rfl)
def D8 (i1:Int)(x2:ByteArray)(s1:(List (ByteArray×Bool))):Option (((List (ByteArray×Bool)))⊕Bool):=Ad (gu (!(lkB s1 x2)) (Dp x2)) fun x3=>if((lkB s1 x2)||(x3 !=0))=true then some (.inr false)else if(lkI s1 x2 0).isNone=true then some (.inl (s1++[(x2,true)]))else none
def Eh (a0:List ByteArray)(a1:Int)(a2:Int):Option Bool:=Ad (GW D8 a0 0 ([]:List (ByteArray×Bool))) fun x1=>match x1 with| .inr r=>some r| .inl y1=>bnd (((decide ((a0.length:Int)≥a1))&&(decide ((a0.length:Int)≤a2)))) fun x4=>some x4
theorem Mm {a0:List ByteArray}{a1:Int}{a2:Int}{r:Bool}(hm:Eh a0 a1 a2=some r):Sf prog 187 [sl eS a0,.d (.i a1),.d (.i a2),.fn (.func 189) [] []] (.d (.t r)):=
 sp call187 func187 rfl ntmps187 rfl fun D0 As η0 m0 hd=>by
  unfold Eh at hm;refine gmkm (by kernel_rfl) ?_;obtain⟨x1,q1,hm⟩:=Aa hm;refine Mr 0 (E:=eS) (xs:=a0) 13 (by kernel_rfl) fun hle1=> ?_;refine gjU 0 (fun(y1:(List (ByteArray×Bool)))=>⟨[(0,sl eS a0),(1,.d (.i a1)),(2,.d (.i a2)),(12,.ow 0)],[(0,.hp 0 (.mp y1))],[],1⟩) (fun y1=>x1= .inl y1) (by kernel_rfl) (fun Jp bk1=> ?_) fun y1 hy=> ?_
  ·refine gl hd (fun(p:Int×((List (ByteArray×Bool))))=>let (p0,p_0):=p; ⟨[(0,sl eS a0),(1,.d (.i a1)),(2,.d (.i a2)),(3,.fn (.func 189) [] []),(9,.ow 0),(13,sl eS a0),(14,.d (.i (a0.length:Int))),(15,.d (.i p0)),(12,.ow 0)],[(0,.hp 0 (.mp p_0))],[],1⟩) (fun p=> ∃i:Nat,p.1=(i:Int)∧i≤a0.length∧GW D8 (a0.drop i) (i:Int) p.2=some x1) (fun p=>a0.length-p.1.toNat) (0,([]:List (ByteArray×Bool))) ⟨0,rfl,Nat.zero_le _,q1⟩ (by kernel_rfl) ?_;rintro⟨_,s1⟩ ⟨i1,rfl,hi,q2⟩ Jl bl1;refine gi' (b:=decide ((i1:Int)<(a0.length:Int))) (by kernel_rfl) (fun hc2=> ?_) fun hc2=> ?_
   ·have hlt1:i1<a0.length:=by have:=of_decide_eq_true hc2; omega
    obtain⟨x2,y2,q5,q4,q3⟩:=K8 q2 hlt1;unfold D8 at q4;refine Ff (k:=1) (E:=eS) (fun _=>rfl) (fun _=>q5) (by kernel_rfl) ?_;refine glk s1 x2 (by kernel_rfl) ?_;obtain⟨x3,q6,q4⟩:=Aa q4;refine gcG (fun h=>OV (Ig h q6)) (by kernel_rfl) ?_;refine gi q4 (by kernel_rfl) (fun hc1 q4=> ?_) fun hc1 q4=> ?_
    ·skip;cases q4;rcases q3 with ⟨sn,e,_⟩|⟨tn,e,e2⟩
     ·cases e
     cases e;cases e2;dsimp only at hm;have e0:=Option.some.inj hm;subst e0;exact AH hd (by kernel_rfl)
    obtain⟨q7,q4⟩:=Ct q4;refine gup q7 (by kernel_rfl) ?_;have e0:=Option.some.inj q4;subst e0;rcases q3 with ⟨sn,e,q3'⟩|⟨tn,e,_⟩
    ·have e:=Sum.inl.inj e;subst e;exact gb bl1 hd (w64 ((i1:Int)+1),_) ⟨⟨i1+1,AY hlt1 hle1,by omega,q3'⟩,GK hlt1 hle1⟩ (by kernel_rfl)
    cases CX e
   have hlt1: ¬i1<a0.length:=by have:=of_decide_eq_false hc2; omega
   have e:=J2 q2 hlt1;cases e;exact gb bk1 hd _ rfl (by kernel_rfl)
  subst hy;dsimp only at hm;have hm:=A6 hm;let x4:Bool:=(((decide ((a0.length:Int)≥a1))&&(decide ((a0.length:Int)≤a2))));have e0:=Option.some.inj hm;subst e0;exact AH hd (by kernel_rfl)
def Cp (i1:Int)(x2:g_api_Promise)(s1:Int):Option ((Int)⊕Bool):=Ad (EM x2) fun x3=>if((!x3)||(decide (x2.Log≤s1)))=true then some (.inr false)else some (.inl x2.Log)
def Gj (a0:g_api_Cert):Option Bool:=Ad (GW Cp a0.Proms 0 (-1)) fun x1=>match x1 with| .inr r=>some r| .inl y1=>Ad (Dr a0.Serial) fun x4=>Ad (gu (!(!x4)) (Dr a0.From)) fun x5=>Ad (gu (!((!x4)||(!x5))) (Dr a0.Until)) fun x6=>bnd (((((!x4)||(!x5))||(!x6))||(decide (a0.From≥a0.Until)))) fun x7=>if x7=true then some false else Ad (Dz a0.Issuer) fun x8=>Ad (gu (!((((!x8)||((a0.Key.toNat:Int)==0))||(decide ((a0.Key.toNat:Int)≥2305843009213691579)))||(decide ((a0.Proms.length:Int)>4)))) (E7 a0.Sig)) fun x9=>bnd ((((((!x8)||((a0.Key.toNat:Int)==0))||(decide ((a0.Key.toNat:Int)≥2305843009213691579)))||(decide ((a0.Proms.length:Int)>4)))||(!x9))) fun x10=>if x10=true then some false else if a0.Ca=true then Ad (Dz a0.Subject) fun x11=>Ad (gu (((x11&&((a0.Names.length:Int)==0))&&(decide (a0.Depth≥0)))&&(decide (a0.Depth≤4))) (Ei a0.Permit 0 8)) fun x12=>bnd (((((x11&&((a0.Names.length:Int)==0))&&(decide (a0.Depth≥0)))&&(decide (a0.Depth≤4)))&&x12)) fun x13=>some x13 else Ad (gu (eqS a0.Subject (⟨#[]⟩:ByteArray)) (Eh a0.Names 1 8)) fun x14=>bnd (((((eqS a0.Subject (⟨#[]⟩:ByteArray))&&x14)&&(a0.Depth==0))&&((a0.Permit.length:Int)==0))) fun x15=>some x15
theorem Pa {a0:g_api_Cert}{r:Bool}(hm:Gj a0=some r):Sf prog 144 [ag (Aq a0)] (.d (.t r)):=
 sp call144 func144 rfl ntmps144 rfl fun D0 As η0 m0 hd=>by
  unfold Gj at hm;obtain⟨x1,q1,hm⟩:=Aa hm;refine Mr 0 (E:=Ai) (xs:=a0.Proms) 7 (by kernel_rfl) fun hle1=> ?_;refine gjU 0 (fun(y1:Int)=>⟨[(1,.pb 0 0),(3,.d (.i y1))],[(0,.box 0 [.d (.i a0.Serial),.d (.s a0.Issuer),.d (.s a0.Subject),.d (.u a0.Key),sl eS a0.Names,.d (.i a0.From),.d (.i a0.Until),.d (.t a0.Ca),.d (.i a0.Depth),sl eS a0.Permit,sl Ai a0.Proms,.d (.u a0.Sig.E),.d (.u a0.Sig.S)] 59)],[],1⟩) (fun y1=>x1= .inl y1) (by kernel_rfl) (fun Jp bk1=> ?_) fun y1 hy=> ?_
  ·refine gl hd (fun(p:Int×(Int))=>let (p0,p_0):=p; ⟨[(1,.pb 0 0),(3,.d (.i p_0)),(7,sl Ai a0.Proms),(8,.d (.i (a0.Proms.length:Int))),(9,.d (.i p0))],[(0,.box 0 [.d (.i a0.Serial),.d (.s a0.Issuer),.d (.s a0.Subject),.d (.u a0.Key),sl eS a0.Names,.d (.i a0.From),.d (.i a0.Until),.d (.t a0.Ca),.d (.i a0.Depth),sl eS a0.Permit,sl Ai a0.Proms,.d (.u a0.Sig.E),.d (.u a0.Sig.S)] 59)],[],1⟩) (fun p=> ∃i:Nat,p.1=(i:Int)∧i≤a0.Proms.length∧GW Cp (a0.Proms.drop i) (i:Int) p.2=some x1) (fun p=>a0.Proms.length-p.1.toNat) (0,(-1)) ⟨0,rfl,Nat.zero_le _,q1⟩ (by kernel_rfl) ?_;rintro⟨_,s1⟩ ⟨i1,rfl,hi,q2⟩ Jl bl1;refine gi' (b:=decide ((i1:Int)<(a0.Proms.length:Int))) (by kernel_rfl) (fun hc2=> ?_) fun hc2=> ?_
   ·have hlt1:i1<a0.Proms.length:=by have:=of_decide_eq_true hc2; omega
    obtain⟨x2,y2,q5,q4,q3⟩:=K8 q2 hlt1;unfold Cp at q4;refine Ff (k:=6) (E:=Ai) (fun _=>rfl) (fun _=>q5) (by kernel_rfl) ?_;obtain⟨x3,q6,q4⟩:=Aa q4;refine gc (fun _=>MW q6) (by kernel_rfl) ?_;refine gi q4 (by kernel_rfl) (fun hc1 q4=> ?_) fun hc1 q4=> ?_
    ·skip;cases q4;rcases q3 with ⟨sn,e,_⟩|⟨tn,e,e2⟩
     ·cases e
     cases e;cases e2;dsimp only at hm;have e0:=Option.some.inj hm;subst e0;exact AH hd (by kernel_rfl)
    have e0:=Option.some.inj q4;subst e0;rcases q3 with ⟨sn,e,q3'⟩|⟨tn,e,_⟩
    ·have e:=Sum.inl.inj e;subst e;exact gb bl1 hd (w64 ((i1:Int)+1),_) ⟨⟨i1+1,AY hlt1 hle1,by omega,q3'⟩,GK hlt1 hle1⟩ (by kernel_rfl)
    cases CX e
   have hlt1: ¬i1<a0.Proms.length:=by have:=of_decide_eq_false hc2; omega
   have e:=J2 q2 hlt1;cases e;exact gb bk1 hd _ rfl (by kernel_rfl)
  subst hy;dsimp only at hm;obtain⟨x4,q7,hm⟩:=Aa hm;refine gc (fun _=>F0 q7) (by kernel_rfl) ?_;obtain⟨x5,q8,hm⟩:=Aa hm;refine gcG (fun h=>F0 (Ig h q8)) (by kernel_rfl) ?_;obtain⟨x6,q9,hm⟩:=Aa hm;refine gcG (fun h=>F0 (Ig h q9)) (by kernel_rfl) ?_;have hm:=A6 hm;let x7:Bool:=(((((!x4)||(!x5))||(!x6))||(decide (a0.From≥a0.Until))));refine gi hm (by kernel_rfl) (fun hc3 hm=> ?_) fun hc3 hm=> ?_
  ·skip;have e0:=Option.some.inj hm;subst e0;exact AH hd (by kernel_rfl)
  obtain⟨x8,q11,hm⟩:=Aa hm;refine gc (fun _=>MV q11) (by kernel_rfl) ?_;obtain⟨x9,q12,hm⟩:=Aa hm;refine gcG (fun h=>KQ (Ig h q12)) (by kernel_rfl) ?_;have hm:=A6 hm;let x10:Bool:=((((((!x8)||((a0.Key.toNat:Int)==0))||(decide ((a0.Key.toNat:Int)≥2305843009213691579)))||(decide ((a0.Proms.length:Int)>4)))||(!x9)));refine gi hm (by kernel_rfl) (fun hc4 hm=> ?_) fun hc4 hm=> ?_
  ·skip;have e0:=Option.some.inj hm;subst e0;exact AH hd (by kernel_rfl)
  refine gi hm (by kernel_rfl) (fun hc5 hm=> ?_) fun hc5 hm=> ?_
  ·skip;obtain⟨x11,q14,hm⟩:=Aa hm;refine gc (fun _=>MV q14) (by kernel_rfl) ?_;obtain⟨x12,q15,hm⟩:=Aa hm;refine gcG (fun h=>Mn (Ig h q15)) (by kernel_rfl) ?_;have hm:=A6 hm;let x13:Bool:=(((((x11&&((a0.Names.length:Int)==0))&&(decide (a0.Depth≥0)))&&(decide (a0.Depth≤4)))&&x12));have e0:=Option.some.inj hm;subst e0;exact AH hd (by kernel_rfl)
  obtain⟨x14,q17,hm⟩:=Aa hm;refine gcG (fun h=>Mm (Ig h q17)) (by kernel_rfl) ?_;have hm:=A6 hm;let x15:Bool:=(((((eqS a0.Subject (⟨#[]⟩:ByteArray))&&x14)&&(a0.Depth==0))&&((a0.Permit.length:Int)==0)));have e0:=Option.some.inj hm;subst e0;exact AH hd (by kernel_rfl)
def AI (a0:List g_api_Item):Option (List g_api_Item):=Ad (app 56 ([]:List g_api_Item) a0) fun x1=>some x1
theorem Gv {m:Mem}{As:List Ow}{w:World}{a0:List g_api_Item}{a0v0:Value}{r:List g_api_Item}(S:St m (As) w)(a0h0:SlR m a0v0 a0)(hm:AI a0=some r):
  AB Tryz.prog 148 #[a0v0] w fun v w'=> ∃(M:Mem),m≤M∧∃(rv0:Value) (rc0:List Value),St M ((row 3 rv0 rc0 r.length)::As) w'∧v=rv0∧AP M rc0 r:=by
 unfold AI at hm;have L0:=Mem.rfl' m;refine Cv (args:=[a0v0]) Tryz.func148 rfl Tryz.ntmps148 (Nat.le_of_ble_eq_true rfl) ?_;refine Ae ?_;refine Ac ?_;refine AL (v:= .slice none 0 0) rfl ?_;refine Af ?_;refine nrm ?_;refine Ae ?_;refine Ae ?_;refine Ac ?_;refine Ap (v:=a0v0) rfl ?_;refine KT rfl rfl a0h0 Tryz.underlying157 ?_;refine Af ?_;refine nrm ?_;refine BE (t:=(Kj a0v0)) rfl (fun hc1=> ?_) (fun hc1=> ?_)
 ·have he1:a0=[]:=SlR.nilOf a0h0 hc1;rw[he1]at hm;replace hm:(some ([]:List g_api_Item))=some _:=hm;refine Ae ?_;refine Ac ?_;refine AL (v:= .slice none 0 0) rfl ?_;refine Af ?_;refine nrm ?_;refine A7 ?_;refine thR ?_;refine Df ?_;intro we hpd;replace S:=St.pd S hpd;have S1:=St.rowNil S 3;have h1:AP m [] ([]:List g_api_Item):=AP.nil;replace S1:St _ ((row 3 (.slice none 0 0) [] ([]:List g_api_Item).length)::As) _:=S1;clear S;have e0:=Option.some.inj hm;subst e0;exact Hf [_] rfl ⟨rfl,trivial⟩ ⟨_,L0,_,_,S1,rfl,h1⟩
 refine AN ?_;refine nrm ?_;refine Ae ?_;refine Ac ?_;refine JR (parts:=[]) (vs:=[]) (cls:=[]) (n:=0) (sz:=3) S Tryz.underlying157 Tryz.sizeOf159 Tryz.zeroValue159 rfl trivial rfl rfl (by decide) (by decide) ?_;intro v1 w1 S2;have h2:AP m [] ([]:List g_api_Item):=AP.nil;replace S2:St _ ((row 3 v1 [] ([]:List g_api_Item).length)::As) _:=S2;clear S;refine Ap (v:=a0v0) rfl ?_;obtain⟨x1,q1,hm⟩:=Aa hm;refine NV (i:=0) (zs:=x1) (bytes:=56) (ti:=Tryz.t159) S2 rfl rfl h2 rfl rfl a0h0 q1 Tryz.underlying157 Tryz.type159 rfl rfl rfl rfl ?_;intro v2 c1 w2 S3 h3;replace S3:St _ ((row 3 v2 c1 x1.length)::As) _:=S3;clear S2;refine AL (v:=v2) rfl ?_;refine Af ?_;refine nrm ?_;refine A7 ?_;refine Df ?_;intro we hpd;replace S3:=St.pd S3 hpd;have e0:=Option.some.inj hm;subst e0;exact Hf [_] rfl ⟨rfl,trivial⟩ ⟨_,L0,_,_,S3,rfl,h3⟩
theorem DC {a0:List g_api_Item}{r:List g_api_Item}(hm:AI a0=some r):Sp prog 148 [sl Ag a0] [] 0 (is (.ow 0) [.row 0 3 _ Ag r] 1):=
 ⟨call148,fun η m As w vs hv0 hd S=>by
  have S:St m As w:=S;obtain⟨v0,u0,rfl,r0,hv1⟩:=Bq.cons_inv hv0;have f0:=Br.ofS LK r0.dd;obtain rfl:=Bq.nil_inv hv1;refine AB.mono (Gv S f0 hm) ?_;rintro v w' ⟨M,hle,y0,c0,S0,rfl,h0⟩;exact⟨M,(Yv [v]),_,_,_,hle,RT hd _,⟨rfl,rfl,rfl⟩,HD rfl,(.ow rfl (Dh S0)),(St.impL S0 (YL (Br.toR LK rfl rfl (Dh S0) h0) fun _ h=>h))⟩⟩
def EK (a0:List g_api_Item):Option g_api_Item:=Ad (AI a0) fun x1=>some (⟨48,[],x1⟩:g_api_Item)
theorem HR {a0:List g_api_Item}{r:g_api_Item}(hm:EK a0=some r):Sf prog 103 [sl Ag a0] (ag (Ag r)):=
 sp call103 func103 rfl ntmps103 rfl fun D0 As η0 m0 hd=>by
  unfold EK at hm;obtain⟨x1,q1,hm⟩:=Aa hm;refine gco (DC q1) (by kernel_rfl) ?_;have e0:=Option.some.inj hm;subst e0;exact AH hd (by kernel_rfl)
def Iw (a0:Int)(i1:Int)(s1:UInt8×UInt8×UInt8×UInt8×UInt8×UInt8×UInt8×UInt8):Option (UInt8×UInt8×UInt8×UInt8×UInt8×UInt8×UInt8×UInt8):=if(0:Int)≤(w64 (56-(w64 (8*(i1:Int)))))then Ad (idx [s1.1,s1.2.1,s1.2.2.1,s1.2.2.2.1,s1.2.2.2.2.1,s1.2.2.2.2.2.1,s1.2.2.2.2.2.2.1,s1.2.2.2.2.2.2.2] (i1:Int)) fun x4=>bnd (if(i1:Int)=0 then(toB (CE a0 ((w64 (56-(w64 (8*(i1:Int))))).toNat)))else s1.1) fun x5=>bnd (if(i1:Int)=1 then(toB (CE a0 ((w64 (56-(w64 (8*(i1:Int))))).toNat)))else s1.2.1) fun x6=>bnd (if(i1:Int)=2 then(toB (CE a0 ((w64 (56-(w64 (8*(i1:Int))))).toNat)))else s1.2.2.1) fun x7=>bnd (if(i1:Int)=3 then(toB (CE a0 ((w64 (56-(w64 (8*(i1:Int))))).toNat)))else s1.2.2.2.1) fun x8=>bnd (if(i1:Int)=4 then(toB (CE a0 ((w64 (56-(w64 (8*(i1:Int))))).toNat)))else s1.2.2.2.2.1) fun x9=>bnd (if(i1:Int)=5 then(toB (CE a0 ((w64 (56-(w64 (8*(i1:Int))))).toNat)))else s1.2.2.2.2.2.1) fun x10=>bnd (if(i1:Int)=6 then(toB (CE a0 ((w64 (56-(w64 (8*(i1:Int))))).toNat)))else s1.2.2.2.2.2.2.1) fun x11=>bnd (if(i1:Int)=7 then(toB (CE a0 ((w64 (56-(w64 (8*(i1:Int))))).toNat)))else s1.2.2.2.2.2.2.2) fun x12=>some (x5,x6,x7,x8,x9,x10,x11,x12)else none
def C0 (s2:(List UInt8)):Option (((List UInt8))⊕((List UInt8))):=Ad (if(decide ((s2.length:Int)>1))=true then Ad (FB s2) fun x18=>some (!x18)else some false) fun x17=>if x17=true then Ad (cut s2 1 (s2.length:Int)) fun x19=>some (.inl x19)else some (.inr s2)
def Eg (a0:Int):Option g_api_Item:=Ad (Ad (Bu (Iw a0) 8 0 (0,0,0,0,0,0,0,0)) fun x2=>some (x2.1,x2.2.1,x2.2.2.1,x2.2.2.2.1,x2.2.2.2.2.1,x2.2.2.2.2.2.1,x2.2.2.2.2.2.2.1,x2.2.2.2.2.2.2.2)) fun x1=>Ad (Ad (iter C0 Dx ([x1.1,x1.2.1,x1.2.2.1,x1.2.2.2.1,x1.2.2.2.2.1,x1.2.2.2.2.2.1,x1.2.2.2.2.2.2.1,x1.2.2.2.2.2.2.2]:List UInt8)) fun x14=>some x14) fun x13=>Ad (A0 x13) fun x20=>some (⟨2,x20,[]⟩:g_api_Item)
theorem VA {m:Mem}{As:List Ow}{w:World}{a0:Int}{r:g_api_Item}(S:St m (As) w)(hm:Eg a0=some r):
  AB Tryz.prog 104 #[vI a0] w fun v w'=> ∃(M:Mem),m≤M∧∃(rv0_1:Value) (rv0_2:Value),St M (As) w'∧v= .agg #[vI r.Tag,rv0_1,rv0_2]∧SlR M rv0_1 r.B∧SlR M rv0_2 r.L:=by
 unfold Eg at hm;have L0:=Mem.rfl' m;refine Cv (args:=[vI a0]) Tryz.func104 rfl Tryz.ntmps104 (Nat.le_of_ble_eq_true rfl) ?_;refine Ae ?_;refine Ac ?_;refine Ep S Tryz.zeroValue159 ?_;intro b1 w1 S1;replace S1:St _ ((bx b1 [vI 0,.slice none 0 0,.slice none 0 0] 159)::As) _:=S1;clear S;refine Af ?_;refine nrm ?_;refine Ae ?_;refine Ac ?_;refine Ep S1 Tryz.zeroValue192 ?_;intro b2 w2 S2;replace S2:St _ ((bx b2 [vB 0,vB 0,vB 0,vB 0,vB 0,vB 0,vB 0,vB 0] 192)::(bx b1 [vI 0,.slice none 0 0,.slice none 0 0] 159)::As) _:=S2;clear S1;refine Af ?_;refine nrm ?_;obtain⟨x1,q1,hm⟩:=Aa hm;have L1:=Mem.rfl' m;refine Ae ?_;refine AQ [4,6,7,8,9,10,11,12,13,14,15,16,17] (fun f' w'=> ∃(M1:Mem),m≤M1∧St M1 ((bx b2 [vB x1.1,vB x1.2.1,vB x1.2.2.1,vB x1.2.2.2.1,vB x1.2.2.2.2.1,vB x1.2.2.2.2.2.1,vB x1.2.2.2.2.2.2.1,vB x1.2.2.2.2.2.2.2] 192)::(bx b1 [vI 0,.slice none 0 0,.slice none 0 0] 159)::As) w'∧BJ f' []) ?_ ?_
 ·refine Ae ?_;refine Ac ?_;refine Ap (v:=vI 0) rfl ?_;refine Af ?_;refine nrm ?_;obtain⟨x2,q2,q1⟩:=Aa q1;have L2:=Mem.rfl' m;refine AQ [4,6,7,8,9,10,11,12,13,14,15,16,17] (fun f' w'=> ∃(M2:Mem),m≤M2∧St M2 ((bx b2 [vB x2.1,vB x2.2.1,vB x2.2.2.1,vB x2.2.2.2.1,vB x2.2.2.2.2.1,vB x2.2.2.2.2.2.1,vB x2.2.2.2.2.2.2.1,vB x2.2.2.2.2.2.2.2] 192)::(bx b1 [vI 0,.slice none 0 0,.slice none 0 0] 159)::As) w'∧BJ f' []) ?_ ?_
  ·refine Ay ?_;refine Bv [4,6,7,8,9,10,11,12,13,14,15,16,17] (fun n1 f' w'=> ∃(i1:Nat) (s1:UInt8×UInt8×UInt8×UInt8×UInt8×UInt8×UInt8×UInt8) (m2:Mem),n1=8-i1∧i1≤8∧Bu (Iw a0) (8-i1) (i1:Int) s1=some x2∧m≤m2∧St m2 ((bx b2 [vB s1.1,vB s1.2.1,vB s1.2.2.1,vB s1.2.2.2.1,vB s1.2.2.2.2.1,vB s1.2.2.2.2.2.1,vB s1.2.2.2.2.2.2.1,vB s1.2.2.2.2.2.2.2] 192)::(bx b1 [vI 0,.slice none 0 0,.slice none 0 0] 159)::As) w'∧BJ f' [(6,vI (i1:Int))]) 8 ⟨0,(0,0,0,0,0,0,0,0),m,rfl,Nat.zero_le _,q2,L2,S2,⟨rfl,trivial⟩⟩ ?_;rintro n1 f1 w3 ho ⟨i1,s1,m1,hn,hi,q3,L4,S3,ha⟩;obtain⟨u1,rfl⟩:=Bb (N:=32) ho ha;clear ho ha;have L3:=Mem.rfl' m1;clear S2;refine Ae ?_;refine Ac ?_;refine HT (m:=(i1:Int)) (n:=8) rfl rfl ?_;refine Af ?_;refine nrm ?_;refine Ae ?_;refine BE (t:=decide ((i1:Int)<(8:Int))) rfl (fun hc1=> ?_) (fun hc1=> ?_)
   ·have hlt1:i1<8:=by have:=of_decide_eq_true hc1; omega
    obtain⟨y1,q5,q4⟩:=Ds q3 hlt1;unfold Iw at q5;refine AN ?_;refine nrm ?_;refine Ae ?_;refine Ay ?_;refine Ae ?_;refine Ac ?_;refine Ap (v:=vI (i1:Int)) rfl ?_;refine AL (v:=vI (i1:Int)) rfl ?_;refine Af ?_;refine nrm ?_;refine Ac ?_;refine Ap (v:=vI (i1:Int)) rfl ?_;refine Ap (v:=vI a0) rfl ?_;refine Ap (v:=vI (i1:Int)) rfl ?_;refine LX (m:=8) (n:=(i1:Int)) rfl rfl ?_;refine IX (m:=56) (n:=(w64 (8*(i1:Int)))) rfl rfl ?_;obtain⟨q7,q5⟩:=Ct q5;refine V3 (m:=a0) (n:=(w64 (56-(w64 (8*(i1:Int)))))) rfl rfl q7 ?_;refine Pv rfl Tryz.underlying3 Tryz.underlying5 ?_;obtain⟨x4,q8,q5⟩:=Aa q5;refine LY (i:=(i1:Int)) rfl rfl Tryz.underlying192 Tryz.sizeOf5 (BI q8).1 (BI q8).2 ?_;obtain⟨x5,q9,q5⟩:=B6 q5;obtain⟨x6,q10,q5⟩:=B6 q5;obtain⟨x7,q11,q5⟩:=B6 q5;obtain⟨x8,q12,q5⟩:=B6 q5;obtain⟨x9,q13,q5⟩:=B6 q5;obtain⟨x10,q14,q5⟩:=B6 q5;obtain⟨x11,q15,q5⟩:=B6 q5;obtain⟨x12,q16,q5⟩:=B6 q5;refine Z4 (i:=0) (off:=0+(i1:Int).toNat*1) S3 rfl rfl rfl Tryz.sizeOf5 (Uw.all (G9 rfl KY)) (by rcases idx8 q8 with ⟨h,h'⟩|⟨h,h'⟩|⟨h,h'⟩|⟨h,h'⟩|⟨h,h'⟩|⟨h,h'⟩|⟨h,h'⟩|⟨h,h'⟩<;>(rw[h]; exact Nat.le_of_ble_eq_true rfl)) ?_;intro w4 S4;replace S4:=St.cellsTo (i:=0) (l':=[vB x5,vB x6,vB x7,vB x8,vB x9,vB x10,vB x11,vB x12]) S4 (by rcases idx8 q8 with ⟨h,h'⟩|⟨h,h'⟩|⟨h,h'⟩|⟨h,h'⟩|⟨h,h'⟩|⟨h,h'⟩|⟨h,h'⟩|⟨h,h'⟩<;>(simp only[q9,q10,q11,q12,q13,q14,q15,q16,h]; rfl)) rfl;replace S4:St _ ((bx b2 [vB x5,vB x6,vB x7,vB x8,vB x9,vB x10,vB x11,vB x12] 192)::(bx b1 [vI 0,.slice none 0 0,.slice none 0 0] 159)::As) _:=S4;clear S3;refine Af ?_;refine Ki ?_;refine nrm ?_;refine Ac ?_;refine Ec (m:=(i1:Int)) (n:=1) rfl rfl ?_;refine Ap (v:=vI (w64 ((i1:Int)+1))) rfl ?_;refine Af ?_;refine nrm ?_;have e0:=Option.some.inj q5;subst e0;exact⟨Di,_,(by omega),⟨i1+1,(x5,x6,x7,x8,x9,x10,x11,x12),m1,rfl,hlt1,q4,Mem.tr L4 L3,S4,⟨congrArg (Value.int .i64) (AY hlt1 (by decide)),trivial⟩⟩⟩
   have hlt1: ¬i1<8:=by have:=of_decide_eq_false hc1; omega
   have e:=Eq.symm (CO q3 hlt1);subst e;refine Ch ?_;refine thE ?_;refine thE ?_;refine exB ?_;refine nrm ?_;exact⟨Di,m1,Mem.tr L4 L3,S3,trivial⟩
  rintro f2 w5 ho ⟨m3,l1,S5,ha⟩;obtain⟨u2,rfl⟩:=Bb (N:=32) ho ha;clear ho ha;replace L1:=Mem.tr L1 l1;clear S2;have e0:=Option.some.inj q1;subst e0;exact⟨Di,m3,L1,S5,trivial⟩
 rintro f3 w6 ho ⟨m4,l2,S6,ha⟩;obtain⟨u3,rfl⟩:=Bb (N:=32) ho ha;replace L0:=Mem.tr L0 l2;clear S2;refine Ae ?_;refine Ac ?_;refine KS (k:=8) (n:=8) (sz:=1) (off:=0) rfl Tryz.underlying192 Tryz.sizeOf5 (.inl ⟨rfl,rfl⟩) (Nat.le_refl _) ?_;have S7:=St.bxRow (i:=0) (sz:=1) (n:=8) S6 rfl rfl (by decide);have h1:AP m4 [vB x1.1,vB x1.2.1,vB x1.2.2.1,vB x1.2.2.2.1,vB x1.2.2.2.2.1,vB x1.2.2.2.2.2.1,vB x1.2.2.2.2.2.2.1,vB x1.2.2.2.2.2.2.2] ([x1.1,x1.2.1,x1.2.2.1,x1.2.2.2.1,x1.2.2.2.2.1,x1.2.2.2.2.2.1,x1.2.2.2.2.2.2.1,x1.2.2.2.2.2.2.2]:List UInt8):=(AP.cons (c:=[vB x1.1]) rfl (AP.cons (c:=[vB x1.2.1]) rfl (AP.cons (c:=[vB x1.2.2.1]) rfl (AP.cons (c:=[vB x1.2.2.2.1]) rfl (AP.cons (c:=[vB x1.2.2.2.2.1]) rfl (AP.cons (c:=[vB x1.2.2.2.2.2.1]) rfl (AP.cons (c:=[vB x1.2.2.2.2.2.2.1]) rfl (AP.cons (c:=[vB x1.2.2.2.2.2.2.2]) rfl AP.nil))))))));replace S7:St _ ((row 1 (.slice (some ⟨b2,0,none⟩) 8 8) [vB x1.1,vB x1.2.1,vB x1.2.2.1,vB x1.2.2.2.1,vB x1.2.2.2.2.1,vB x1.2.2.2.2.2.1,vB x1.2.2.2.2.2.2.1,vB x1.2.2.2.2.2.2.2] ([x1.1,x1.2.1,x1.2.2.1,x1.2.2.2.1,x1.2.2.2.2.1,x1.2.2.2.2.2.1,x1.2.2.2.2.2.2.1,x1.2.2.2.2.2.2.2]:List UInt8).length)::(bx b1 [vI 0,.slice none 0 0,.slice none 0 0] 159)::As) _:=S7;clear S6;refine AL (v:=(.slice (some ⟨b2,0,none⟩) 8 8)) rfl ?_;refine Af ?_;refine nrm ?_;obtain⟨x13,q17,hm⟩:=Aa hm;have L5:=Mem.rfl' m4;refine Ae ?_;refine AQ [5,19,20,21,22,23,24,25,26,27,28] (fun f' w'=> ∃(M3:Mem) (v1:Value),m4≤M3∧St M3 ((bx b1 [vI 0,.slice none 0 0,.slice none 0 0] 159)::As) w'∧SlR M3 v1 x13∧BJ f' [(5,v1)]) ?_ ?_
 ·obtain⟨x14,q18,q17⟩:=Aa q17;have L6:=Mem.rfl' m4;obtain⟨m5,l3,h4,S8⟩:=St.rowKeepT (i:=0) S7 rfl h1 rfl;replace L6:=Mem.tr L6 l3;clear S7;refine AQ [5,19,20,21,22,23,24,25,26,27,28] (fun f' w'=> ∃(M4:Mem) (v3:Value),m4≤M4∧St M4 ((bx b1 [vI 0,.slice none 0 0,.slice none 0 0] 159)::As) w'∧SlR M4 v3 x14∧BJ f' [(5,v3)]) ?_ ?_
  ·refine Ay ?_;refine Bv [5,19,20,21,22,23,24,25,26,27,28] (fun n2 f' w'=> ∃(s2:(List UInt8)) (m10:Mem) (v2:Value),iter C0 n2 s2=some x14∧m4≤m10∧St m10 ((bx b1 [vI 0,.slice none 0 0,.slice none 0 0] 159)::As) w'∧SlR m10 v2 s2∧BJ f' [(5,v2)]) Dx ⟨([x1.1,x1.2.1,x1.2.2.1,x1.2.2.2.1,x1.2.2.2.2.1,x1.2.2.2.2.2.1,x1.2.2.2.2.2.2.1,x1.2.2.2.2.2.2.2]:List UInt8),m5,_,q18,L6,S8,h4,⟨rfl,trivial⟩⟩ ?_;rintro n2 f4 w7 ho ⟨s2,m6,v2,q19,L8,S9,h3,ha⟩;obtain⟨u4,rfl⟩:=Bb (N:=32) ho ha;clear ho ha;have L7:=Mem.rfl' m6;clear S8;cases n2 with
   |zero=>exact(Bt q19).elim
   |succ n2=>
    obtain⟨y2,q21,q20⟩:=Bn q19;unfold C0 at q21;refine Ae ?_;refine Ae ?_;refine Ac ?_;refine Ap (v:=v2) rfl ?_;refine G6 (xs:=s2) rfl h3 Tryz.underlying75 ?_;refine NU (m:=(s2.length:Int)) (n:=1) rfl rfl ?_;refine Ap (v:=vb (decide ((s2.length:Int)>1))) rfl ?_;obtain⟨x17,q24,q21⟩:=Aa q21;have L9:=Mem.rfl' m6;refine OP 4 [23,24,25,26] (fun f' w'=> ∃(M5:Mem),m6≤M5∧St M5 ((bx b1 [vI 0,.slice none 0 0,.slice none 0 0] 159)::As) w'∧BJ f' [(26,vb x17)]) ?_ ?_
    ·rcases Qn (decide ((s2.length:Int)>1))with hb1|hb1
     ·replace q24:=ifT hb1 q24;refine Fa (d:=22) rfl rfl (congrArg Value.bool hb1) ?_;refine Ap (v:=v2) rfl ?_;refine Fa (d:=22) rfl rfl (congrArg Value.bool hb1) ?_;obtain⟨x18,q25,q24⟩:=Aa q24;refine CF Tryz.call149 (R9 (a0:=s2) S9 h3 q25) rfl ?_;rintro _ w9 ⟨m8,l5,S11,rfl⟩;replace h3:=h3.up l5;replace L9:=Mem.tr L9 l5;clear S9;replace S11:St _ ((bx b1 [vI 0,.slice none 0 0,.slice none 0 0] 159)::As) _:=S11;refine Fa (d:=22) rfl rfl (congrArg Value.bool hb1) ?_;refine Q1 rfl ?_;refine I8 (congrArg Value.bool hb1) rfl ?_;refine Af (nrm ?_);have e0:=Option.some.inj q24;subst e0;exact⟨Di,m8,L9,S11,⟨rfl,trivial⟩⟩
     replace q24:=ifF hb1 q24;refine FU (d:=22) rfl rfl (congrArg Value.bool hb1) ?_;refine FU (d:=22) rfl rfl (congrArg Value.bool hb1) ?_;refine FU (d:=22) rfl rfl (congrArg Value.bool hb1) ?_;refine I9 (congrArg Value.bool hb1) rfl ?_;refine Af (nrm ?_);have e0:=Option.some.inj q24;subst e0;exact⟨Di,m6,L9,S9,⟨rfl,trivial⟩⟩
    rintro f5 w10 ho ⟨m9,l6,S12,ha⟩;obtain⟨u5,rfl⟩:=Bb (N:=32) ho ha;replace h3:=h3.up l6;replace L7:=Mem.tr L7 l6;clear S9;refine Af ?_;refine nrm ?_;refine BE (t:=x17) rfl (fun hc2=> ?_) (fun hc2=> ?_)
    ·replace q21:=ifT hc2 q21;refine AN ?_;refine nrm ?_;refine Ay ?_;refine Ac ?_;refine Ap (v:=v2) rfl ?_;obtain⟨x19,q26,q21⟩:=Aa q21;refine Pu (ys:=x19) (l:=1) (h:=(s2.length:Int)) rfl h3 Tryz.underlying75 Tryz.sizeOf5 (.inr ⟨_,rfl⟩) (.inl ⟨rfl,rfl⟩) (.inl rfl) q26 ?_;intro v4 h6;refine AL (v:=v4) rfl ?_;refine Af ?_;refine Ki ?_;refine nrm ?_;have e0:=Option.some.inj q21;subst e0;rcases q20 with ⟨sn,e,q20'⟩|e
     ·cases e;exact⟨Di,_,Nat.lt_succ_self _,⟨_,m9,_,q20',Mem.tr L8 L7,S12,h6,⟨rfl,trivial⟩⟩⟩
     ·cases e
    replace q21:=ifF hc2 q21;refine Ch ?_;refine thE ?_;refine thE ?_;refine exB ?_;refine nrm ?_;have e0:=Option.some.inj q21;subst e0;rcases q20 with ⟨sn,e,_⟩|e
    ·cases e
    ·cases e;exact⟨Di,m9,_,Mem.tr L8 L7,S12,h3,⟨rfl,trivial⟩⟩
  rintro f6 w11 ho ⟨m11,v3,l7,S13,h5,ha⟩;obtain⟨u6,rfl⟩:=Bb (N:=32) ho ha;clear ho ha;replace L5:=Mem.tr L5 l7;clear S8;have e0:=Option.some.inj q17;subst e0;exact⟨Di,m11,_,L5,S13,h5,⟨rfl,trivial⟩⟩
 rintro f7 w12 ho ⟨m12,v1,l8,S14,h2,ha⟩;obtain⟨u7,rfl⟩:=Bb (N:=32) ho ha;replace L0:=Mem.tr L0 l8;clear S7;refine Ae ?_;refine Ac ?_;refine Ap (v:=v1) rfl ?_;obtain⟨x20,q27,hm⟩:=Aa hm;refine CF Tryz.call150 (FE (a0:=x13) S14 h2 q27) rfl ?_;rintro v5 w13 ⟨m13,l9,_,c1,S15,rfl,h7⟩;replace h2:=h2.up l9;replace L0:=Mem.tr L0 l9;clear S14;replace S15:St _ ((row 1 v5 c1 x20.length)::(bx b1 [vI 0,.slice none 0 0,.slice none 0 0] 159)::As) _:=S15;obtain⟨m14,l10,h8,S16⟩:=St.rowKeepT (i:=0) S15 rfl h7 rfl;replace L0:=Mem.tr L0 l10;clear S15;refine Px (parts:=[(0,.const (.int .i64 2)),(1,.tmp 30)]) (ps:=[(0,vI 2,[vI 2]),(1,v5,[v5])]) (cs:=[vI 2,v5,.slice none 0 0]) Tryz.zeroValue159 (IG.str (ss:=[1,1,1]) Tryz.underlying159 ⟨Tryz.sizeOf3,Tryz.sizeOf75,Tryz.sizeOf157,trivial⟩) rfl ⟨rfl,SlR.cells h8,trivial⟩ rfl ?_;refine IB (i:=0) S16 rfl rfl rfl Tryz.sizeOf159 (G9 rfl (G9 (SlR.one h8) (G9 rfl KY))) rfl ?_;intro w14 S17;replace S17:St _ ((bx b1 [vI 2,v5,.slice none 0 0] 159)::As) _:=S17;clear S16;refine Af ?_;refine nrm ?_;refine A7 ?_;refine Df ?_;intro we hpd;replace S17:=St.pd S17 hpd;have SR:=S17;obtain⟨m15,l11,S18⟩:=St.drop S17 0;replace h8:=h8.up l11;replace L0:=Mem.tr L0 l11;replace S18:St _ (As) _:=S18;have e0:=Option.some.inj hm;subst e0;exact Hf [_] rfl ⟨Jc (i:=0) (off:=0) (cs:=[vI 2,v5,.slice none 0 0]) SR rfl rfl Tryz.isAgg159 Tryz.sizeOf159 rfl (fun h=>by cases h),trivial⟩ ⟨_,L0,_,_,S18,rfl,h8,SlR.nil⟩
theorem HV {a0:Int}{r:g_api_Item}(hm:Eg a0=some r):Sf prog 104 [.d (.i a0)] (ag (Ag r)):=
 ⟨call104,fun η m As w vs hv0 hd S=>by
  have S:St m As w:=S;obtain⟨v0,u0,rfl,r0,hv1⟩:=Bq.cons_inv hv0;obtain rfl:=r0.i_inv;obtain rfl:=Bq.nil_inv hv1;refine AB.mono (VA S hm) ?_;rintro v w' ⟨M,hle,y0_0,y0_1,S0,rfl,h0_0,h0_1⟩;exact⟨M,none0,_,_,_,hle,RT hd _,⟨rfl,rfl,rfl⟩,fun n h=>absurd rfl h,(Br.toA LK (PW h0_0 h0_1)),S0⟩⟩
def DP (a0:UInt64):Option g_api_Item:=Ad (Eg (w64 (a0.toNat:Int))) fun x1=>some x1
theorem GH {a0:UInt64}{r:g_api_Item}(hm:DP a0=some r):Sf prog 106 [.d (.u a0)] (ag (Ag r)):=
 sp call106 func106 rfl ntmps106 rfl fun D0 As η0 m0 hd=>by
  unfold DP at hm;obtain⟨x1,q1,hm⟩:=Aa hm;refine gc (fun _=>HV q1) (by kernel_rfl) ?_;have e0:=Option.some.inj hm;subst e0;exact AH hd (by kernel_rfl)
def GP (a0:ByteArray):Option g_api_Item:=Ad (app 1 ([]:List UInt8) a0.data.toList) fun x1=>some (⟨12,x1,[]⟩:g_api_Item)
theorem Lk {a0:ByteArray}{r:g_api_Item}(hm:GP a0=some r):Sf prog 105 [.d (.s a0)] (ag (Ag r)):=
 sp call105 func105 rfl ntmps105 rfl fun D0 As η0 m0 hd=>by
  unfold GP at hm;obtain⟨x1,q1,hm⟩:=Aa hm;refine gofS q1 (by kernel_rfl) ?_;have e0:=Option.some.inj hm;subst e0;exact AH hd (by kernel_rfl)
def J6 (a0:Bool):Option g_api_Item:=Ad (if a0=true then Ad (idx ([0]:List UInt8) 0) fun x2=>bnd (([0]:List UInt8).set (0:Int).toNat 255) fun x3=>some x3 else some ([0]:List UInt8)) fun x1=>some (⟨1,x1,[]⟩:g_api_Item)
theorem UG {a0:Bool}{r:g_api_Item}(hm:J6 a0=some r):Sf prog 108 [.d (.t a0)] (ag (Ag r)):=
 sp call108 func108 rfl ntmps108 rfl fun D0 As η0 m0 hd=>by
  unfold J6 at hm;refine glit (k:=1) eB ([0]:List UInt8) (fun _=>rfl) (by kernel_rfl) ?_;obtain⟨x1,q1,hm⟩:=Aa hm;refine gj (fun(_:Unit)=>⟨[(2,.pb 0 0),(3,.ow 1)],[(0,.row 1 1 _ eB x1),(1,.box 0 [.d (.i 0),sl eB [],sl Ag []] 159)],[],2⟩) (fun _=>True) (by kernel_rfl) (fun Jp bk1=> ?_) fun _ _=> ?_
  ·refine gi q1 (by kernel_rfl) (fun hc1 q1=> ?_) fun hc1 q1=> ?_
   ·obtain⟨x2,q2,q1⟩:=Aa q1;refine Zx (E:=eB) (fun _=>q2) (by kernel_rfl) ?_;have q1:=A6 q1;let x3:List UInt8:=(([0]:List UInt8).set (0:Int).toNat 255);refine gstO (k:=1) (E:=eB) 255 (fun _=>rfl) q2 (by kernel_rfl) ?_;have e0:=Option.some.inj q1;subst e0;exact gb bk1 hd () trivial (by kernel_rfl)
   have e0:=Option.some.inj q1;subst e0;exact gb bk1 hd () trivial (by kernel_rfl)
  have e0:=Option.some.inj hm;subst e0;exact AH hd (by kernel_rfl)
def Bf (i1:Int)(x3:ByteArray)(s1:(List g_api_Item)):Option ((List g_api_Item)):=Ad (GP x3) fun x4=>Ad (app 56 s1 ([x4]:List g_api_Item)) fun x5=>some x5
def B0 (a0:List ByteArray):Option g_api_Item:=Ad (Ad (CA Bf a0 0 ([]:List g_api_Item)) fun x2=>some x2) fun x1=>Ad (EK x1) fun x6=>some x6
theorem GF {a0:List ByteArray}{r:g_api_Item}(hm:B0 a0=some r):Sf prog 107 [sl eS a0,.fn (.func 105) [] []] (ag (Ag r)):=
 sp call107 func107 rfl ntmps107 rfl fun D0 As η0 m0 hd=>by
  unfold B0 at hm;obtain⟨x1,q1,hm⟩:=Aa hm;obtain⟨x2,q2,q1⟩:=Aa q1;refine P6 0 Ag 5 3 (by kernel_rfl) ?_;refine Mr 0 (E:=eS) (xs:=a0) 8 (by kernel_rfl) fun hle1=> ?_;refine gjU 0 (fun(_:Unit)=>⟨[(4,.pb 0 0),(5,.ow 1)],[(0,.row 1 3 _ Ag x1),(1,.box 0 [.d (.i 0),sl eB [],sl Ag []] 159)],[],2⟩) (fun _=>True) (by kernel_rfl) (fun Jp bk1=> ?_) fun _ _=> ?_
  ·refine gjU 0 (fun(_:Unit)=>⟨[(4,.pb 0 0),(5,.ow 1)],[(0,.row 1 3 _ Ag x2),(1,.box 0 [.d (.i 0),sl eB [],sl Ag []] 159)],[],2⟩) (fun _=>True) (by kernel_rfl) (fun Jp bk2=> ?_) fun _ _=> ?_
   ·refine gl hd (fun(p:Int×((List g_api_Item)))=>let (p0,p_0):=p; ⟨[(1,.fn (.func 105) [] []),(4,.pb 0 0),(5,.ow 1),(8,sl eS a0),(9,.d (.i (a0.length:Int))),(10,.d (.i p0))],[(0,.row 1 3 _ Ag p_0),(1,.box 0 [.d (.i 0),sl eB [],sl Ag []] 159)],[],2⟩) (fun p=> ∃i:Nat,p.1=(i:Int)∧i≤a0.length∧CA Bf (a0.drop i) (i:Int) p.2=some x2) (fun p=>a0.length-p.1.toNat) (0,([]:List g_api_Item)) ⟨0,rfl,Nat.zero_le _,q2⟩ (by kernel_rfl) ?_;rintro⟨_,s1⟩ ⟨i1,rfl,hi,q3⟩ Jl bl1;refine gi' (b:=decide ((i1:Int)<(a0.length:Int))) (by kernel_rfl) (fun hc1=> ?_) fun hc1=> ?_
    ·have hlt1:i1<a0.length:=by have:=of_decide_eq_true hc1; omega
     obtain⟨x3,y1,q6,q5,q4⟩:=Ew q3 hlt1;unfold Bf at q5;refine Ff (k:=1) (E:=eS) (fun _=>rfl) (fun _=>q6) (by kernel_rfl) ?_;obtain⟨x4,q7,q5⟩:=Aa q5;refine gc (fun _=>Lk q7) (by kernel_rfl) ?_;refine CD (k:=3) Ag ([x4]:List g_api_Item) (fun _=>rfl) (by kernel_rfl) ?_;obtain⟨x5,q8,q5⟩:=Aa q5;refine Qv (k:=3) (E:=Ag) (fun _=>rfl) q8 (by kernel_rfl) ?_;have e0:=Option.some.inj q5;subst e0;exact gb bl1 hd (w64 ((i1:Int)+1),x5) ⟨⟨i1+1,AY hlt1 hle1,by omega,q4⟩,GK hlt1 hle1⟩ (by kernel_rfl)
    have hlt1: ¬i1<a0.length:=by have:=of_decide_eq_false hc1; omega
    have e:=Eq.symm (Dt q3 hlt1);subst e;exact gb bk2 hd () trivial (by kernel_rfl)
   have e0:=Option.some.inj q1;subst e0;exact gb bk1 hd () trivial (by kernel_rfl)
  obtain⟨x6,q9,hm⟩:=Aa hm;refine gco (HR q9) (by kernel_rfl) ?_;have e0:=Option.some.inj hm;subst e0;exact AH hd (by kernel_rfl)
def HJ (a0:g_api_Cert):Option g_api_Item:=Ad (Eg a0.Serial) fun x1=>Ad (GP a0.Issuer) fun x2=>Ad (GP a0.Subject) fun x3=>Ad (DP a0.Key) fun x4=>Ad (B0 a0.Names) fun x5=>Ad (Eg a0.From) fun x6=>Ad (Eg a0.Until) fun x7=>Ad (J6 a0.Ca) fun x8=>Ad (Eg a0.Depth) fun x9=>Ad (B0 a0.Permit) fun x10=>Ad (EK ([x1,x2,x3,x4,x5,x6,x7,x8,x9,x10]:List g_api_Item)) fun x11=>some x11
theorem Oe {a0:g_api_Cert}{r:g_api_Item}(hm:HJ a0=some r):Sf prog 66 [ag (Aq a0)] (ag (Ag r)):=
 sp call66 func66 rfl ntmps66 rfl fun D0 As η0 m0 hd=>by
  unfold HJ at hm;obtain⟨x1,q1,hm⟩:=Aa hm;refine gc (fun _=>HV q1) (by kernel_rfl) ?_;obtain⟨x2,q2,hm⟩:=Aa hm;refine gc (fun _=>Lk q2) (by kernel_rfl) ?_;obtain⟨x3,q3,hm⟩:=Aa hm;refine gc (fun _=>Lk q3) (by kernel_rfl) ?_;obtain⟨x4,q4,hm⟩:=Aa hm;refine gc (fun _=>GH q4) (by kernel_rfl) ?_;obtain⟨x5,q5,hm⟩:=Aa hm;refine gc (fun _=>GF q5) (by kernel_rfl) ?_;obtain⟨x6,q6,hm⟩:=Aa hm;refine gc (fun _=>HV q6) (by kernel_rfl) ?_;obtain⟨x7,q7,hm⟩:=Aa hm;refine gc (fun _=>HV q7) (by kernel_rfl) ?_;obtain⟨x8,q8,hm⟩:=Aa hm;refine gc (fun _=>UG q8) (by kernel_rfl) ?_;obtain⟨x9,q9,hm⟩:=Aa hm;refine gc (fun _=>HV q9) (by kernel_rfl) ?_;obtain⟨x10,q10,hm⟩:=Aa hm;refine gc (fun _=>GF q10) (by kernel_rfl) ?_;refine CD (k:=3) Ag ([x1,x2,x3,x4,x5,x6,x7,x8,x9,x10]:List g_api_Item) (fun _=>rfl) (by kernel_rfl) ?_;obtain⟨x11,q11,hm⟩:=Aa hm;refine gc (fun _=>HR q11) (by kernel_rfl) ?_;have e0:=Option.some.inj hm;subst e0;exact AH hd (by kernel_rfl)
def Gk (a0:g_api_Promise):Option g_api_Item:=Ad (Eg a0.Log) fun x1=>Ad (Eg a0.At) fun x2=>Ad (DP a0.Leaf.1) fun x3=>Ad (DP a0.Leaf.2) fun x4=>Ad (DP a0.Sig.E) fun x5=>Ad (DP a0.Sig.S) fun x6=>Ad (EK ([x1,x2,x3,x4,x5,x6]:List g_api_Item)) fun x7=>some x7
theorem Pb {a0:g_api_Promise}{r:g_api_Item}(hm:Gk a0=some r):Sf prog 236 [ag (Ai a0)] (ag (Ag r)):=
 sp call236 func236 rfl ntmps236 rfl fun D0 As η0 m0 hd=>by
  unfold Gk at hm;obtain⟨x1,q1,hm⟩:=Aa hm;refine gc (fun _=>HV q1) (by kernel_rfl) ?_;obtain⟨x2,q2,hm⟩:=Aa hm;refine gc (fun _=>HV q2) (by kernel_rfl) ?_;obtain⟨x3,q3,hm⟩:=Aa hm;refine gc (fun _=>GH q3) (by kernel_rfl) ?_;obtain⟨x4,q4,hm⟩:=Aa hm;refine gc (fun _=>GH q4) (by kernel_rfl) ?_;obtain⟨x5,q5,hm⟩:=Aa hm;refine gc (fun _=>GH q5) (by kernel_rfl) ?_;obtain⟨x6,q6,hm⟩:=Aa hm;refine gc (fun _=>GH q6) (by kernel_rfl) ?_;refine CD (k:=3) Ag ([x1,x2,x3,x4,x5,x6]:List g_api_Item) (fun _=>rfl) (by kernel_rfl) ?_;obtain⟨x7,q7,hm⟩:=Aa hm;refine gc (fun _=>HR q7) (by kernel_rfl) ?_;have e0:=Option.some.inj hm;subst e0;exact AH hd (by kernel_rfl)
def AX (i1:Int)(x3:g_api_Promise)(s1:(List g_api_Item)):Option ((List g_api_Item)):=Ad (Gk x3) fun x4=>Ad (app 56 s1 ([x4]:List g_api_Item)) fun x5=>some x5
def BT (a0:List g_api_Promise):Option g_api_Item:=Ad (Ad (CA AX a0 0 ([]:List g_api_Item)) fun x2=>some x2) fun x1=>Ad (EK x1) fun x6=>some x6
theorem HS {a0:List g_api_Promise}{r:g_api_Item}(hm:BT a0=some r):Sf prog 235 [sl Ai a0,.fn (.func 236) [] []] (ag (Ag r)):=
 sp call235 func235 rfl ntmps235 rfl fun D0 As η0 m0 hd=>by
  unfold BT at hm;obtain⟨x1,q1,hm⟩:=Aa hm;obtain⟨x2,q2,q1⟩:=Aa q1;refine P6 0 Ag 5 3 (by kernel_rfl) ?_;refine Mr 0 (E:=Ai) (xs:=a0) 8 (by kernel_rfl) fun hle1=> ?_;refine gjU 0 (fun(_:Unit)=>⟨[(4,.pb 0 0),(5,.ow 1)],[(0,.row 1 3 _ Ag x1),(1,.box 0 [.d (.i 0),sl eB [],sl Ag []] 159)],[],2⟩) (fun _=>True) (by kernel_rfl) (fun Jp bk1=> ?_) fun _ _=> ?_
  ·refine gjU 0 (fun(_:Unit)=>⟨[(4,.pb 0 0),(5,.ow 1)],[(0,.row 1 3 _ Ag x2),(1,.box 0 [.d (.i 0),sl eB [],sl Ag []] 159)],[],2⟩) (fun _=>True) (by kernel_rfl) (fun Jp bk2=> ?_) fun _ _=> ?_
   ·refine gl hd (fun(p:Int×((List g_api_Item)))=>let (p0,p_0):=p; ⟨[(1,.fn (.func 236) [] []),(4,.pb 0 0),(5,.ow 1),(8,sl Ai a0),(9,.d (.i (a0.length:Int))),(10,.d (.i p0))],[(0,.row 1 3 _ Ag p_0),(1,.box 0 [.d (.i 0),sl eB [],sl Ag []] 159)],[],2⟩) (fun p=> ∃i:Nat,p.1=(i:Int)∧i≤a0.length∧CA AX (a0.drop i) (i:Int) p.2=some x2) (fun p=>a0.length-p.1.toNat) (0,([]:List g_api_Item)) ⟨0,rfl,Nat.zero_le _,q2⟩ (by kernel_rfl) ?_;rintro⟨_,s1⟩ ⟨i1,rfl,hi,q3⟩ Jl bl1;refine gi' (b:=decide ((i1:Int)<(a0.length:Int))) (by kernel_rfl) (fun hc1=> ?_) fun hc1=> ?_
    ·have hlt1:i1<a0.length:=by have:=of_decide_eq_true hc1; omega
     obtain⟨x3,y1,q6,q5,q4⟩:=Ew q3 hlt1;unfold AX at q5;refine Ff (k:=6) (E:=Ai) (fun _=>rfl) (fun _=>q6) (by kernel_rfl) ?_;obtain⟨x4,q7,q5⟩:=Aa q5;refine gc (fun _=>Pb q7) (by kernel_rfl) ?_;refine CD (k:=3) Ag ([x4]:List g_api_Item) (fun _=>rfl) (by kernel_rfl) ?_;obtain⟨x5,q8,q5⟩:=Aa q5;refine Qv (k:=3) (E:=Ag) (fun _=>rfl) q8 (by kernel_rfl) ?_;have e0:=Option.some.inj q5;subst e0;exact gb bl1 hd (w64 ((i1:Int)+1),x5) ⟨⟨i1+1,AY hlt1 hle1,by omega,q4⟩,GK hlt1 hle1⟩ (by kernel_rfl)
    have hlt1: ¬i1<a0.length:=by have:=of_decide_eq_false hc1; omega
    have e:=Eq.symm (Dt q3 hlt1);subst e;exact gb bk2 hd () trivial (by kernel_rfl)
   have e0:=Option.some.inj q1;subst e0;exact gb bk1 hd () trivial (by kernel_rfl)
  obtain⟨x6,q9,hm⟩:=Aa hm;refine gco (HR q9) (by kernel_rfl) ?_;have e0:=Option.some.inj hm;subst e0;exact AH hd (by kernel_rfl)
def H8 (a0:g_api_Cert):Option g_api_Item:=Ad (HJ a0) fun x1=>Ad (BT a0.Proms) fun x2=>Ad (EK ([x1,x2]:List g_api_Item)) fun x3=>some x3
theorem R7 {a0:g_api_Cert}{r:g_api_Item}(hm:H8 a0=some r):Sf prog 190 [ag (Aq a0)] (ag (Ag r)):=
 sp call190 func190 rfl ntmps190 rfl fun D0 As η0 m0 hd=>by
  unfold H8 at hm;obtain⟨x1,q1,hm⟩:=Aa hm;refine gc (fun _=>Oe q1) (by kernel_rfl) ?_;obtain⟨x2,q2,hm⟩:=Aa hm;refine gc (fun _=>HS q2) (by kernel_rfl) ?_;refine CD (k:=3) Ag ([x1,x2]:List g_api_Item) (fun _=>rfl) (by kernel_rfl) ?_;obtain⟨x3,q3,hm⟩:=Aa hm;refine gc (fun _=>HR q3) (by kernel_rfl) ?_;have e0:=Option.some.inj hm;subst e0;exact AH hd (by kernel_rfl)
def Hc (a0:g_api_Cert):Option g_api_Item:=Ad (H8 a0) fun x1=>Ad (DP a0.Sig.E) fun x2=>Ad (DP a0.Sig.S) fun x3=>Ad (EK ([x2,x3]:List g_api_Item)) fun x4=>Ad (EK ([x1,x4]:List g_api_Item)) fun x5=>some x5
theorem QP {a0:g_api_Cert}{r:g_api_Item}(hm:Hc a0=some r):Sf prog 145 [ag (Aq a0)] (ag (Ag r)):=
 sp call145 func145 rfl ntmps145 rfl fun D0 As η0 m0 hd=>by
  unfold Hc at hm;obtain⟨x1,q1,hm⟩:=Aa hm;refine gc (fun _=>R7 q1) (by kernel_rfl) ?_;obtain⟨x2,q2,hm⟩:=Aa hm;refine gc (fun _=>GH q2) (by kernel_rfl) ?_;obtain⟨x3,q3,hm⟩:=Aa hm;refine gc (fun _=>GH q3) (by kernel_rfl) ?_;refine CD (k:=3) Ag ([x2,x3]:List g_api_Item) (fun _=>rfl) (by kernel_rfl) ?_;obtain⟨x4,q4,hm⟩:=Aa hm;refine gc (fun _=>HR q4) (by kernel_rfl) ?_;refine CD (k:=3) Ag ([x1,x4]:List g_api_Item) (fun _=>rfl) (by kernel_rfl) ?_;obtain⟨x5,q5,hm⟩:=Aa hm;refine gc (fun _=>HR q5) (by kernel_rfl) ?_;have e0:=Option.some.inj hm;subst e0;exact AH hd (by kernel_rfl)
def EN (a0:g_api_Cert):Option Int:=Ad (Gj a0) fun x1=>if(!x1)=true then some 1 else Ad (Hc a0) fun x2=>Ad (H6 x2) fun x3=>if((x3.2 !=0)||(decide ((x3.1.length:Int)>2048)))=true then some 2 else some 0
theorem LQ {a0:g_api_Cert}{r:Int}(hm:EN a0=some r):Sf prog 101 [ag (Aq a0)] (.d (.i r)):=
 sp call101 func101 rfl ntmps101 rfl fun D0 As η0 m0 hd=>by
  unfold EN at hm;obtain⟨x1,q1,hm⟩:=Aa hm;refine gc (fun _=>Pa q1) (by kernel_rfl) ?_;refine gi hm (by kernel_rfl) (fun hc1 hm=> ?_) fun hc1 hm=> ?_
  ·skip;have e0:=Option.some.inj hm;subst e0;exact AH hd (by kernel_rfl)
  obtain⟨x2,q2,hm⟩:=Aa hm;refine gc (fun _=>QP q2) (by kernel_rfl) ?_;obtain⟨x3,q3,hm⟩:=Aa hm;refine gco (QL q3) (by kernel_rfl) ?_;refine gi hm (by kernel_rfl) (fun hc2 hm=> ?_) fun hc2 hm=> ?_
  ·skip;have e0:=Option.some.inj hm;subst e0;exact AH hd (by kernel_rfl)
  have e0:=Option.some.inj hm;subst e0;exact AH hd (by kernel_rfl)
def Db (i1:Int)(x8:UInt8)(s1:Int):Option (Int):=bnd ((N0 (Ij s1 8) (w64 (x8.toNat:Int)))) fun x9=>some x9
def BC (a0:List UInt8):Option (Int×Int×Int):=if((a0.length:Int)==0)=true then some (0,0,70)else Ad (idx a0 0) fun x1=>if(decide ((w64 (x1.toNat:Int))<128))=true then some ((w64 (x1.toNat:Int)),1,0)else bnd ((w64 ((w64 (x1.toNat:Int))-128))) fun x2=>bnd ((((w64 (x1.toNat:Int)) !=129)&&((w64 (x1.toNat:Int)) !=130))) fun x3=>if x3=true then some (0,0,71)else bnd ((decide ((a0.length:Int)≤x2))) fun x4=>if x4=true then some (0,0,70)else Ad (Ad (cut a0 1 (w64 (x2+1))) fun x6=>Ad (CA Db x6 0 0) fun x7=>some x7) fun x5=>if((decide (x5<128))||(((w64 (x1.toNat:Int))==130)&&(decide (x5<256))))=true then some (0,0,71)else some (x5,(w64 (x2+1)),0)
theorem QJ {a0:List UInt8}{r:Int×Int×Int}(hm:BC a0=some r):Sf prog 195 [sl eB a0] (.tup [.d (.i r.1),.d (.i r.2.1),.d (.i r.2.2)]):=
 sp call195 func195 rfl ntmps195 rfl fun D0 As η0 m0 hd=>by
  unfold BC at hm;refine gi hm (by kernel_rfl) (fun hc1 hm=> ?_) fun hc1 hm=> ?_
  ·skip;have e0:=Option.some.inj hm;subst e0;exact AH hd (by kernel_rfl)
  obtain⟨x1,q1,hm⟩:=Aa hm;refine Ff (k:=1) (E:=eB) (fun _=>rfl) (fun _=>q1) (by kernel_rfl) ?_;refine gi hm (by kernel_rfl) (fun hc2 hm=> ?_) fun hc2 hm=> ?_
  ·skip;have e0:=Option.some.inj hm;subst e0;exact AH hd (by kernel_rfl)
  have hm:=A6 hm;let x2:Int:=((w64 ((w64 (x1.toNat:Int))-128)));have hm:=A6 hm;let x3:Bool:=((((w64 (x1.toNat:Int)) !=129)&&((w64 (x1.toNat:Int)) !=130)));refine gi hm (by kernel_rfl) (fun hc3 hm=> ?_) fun hc3 hm=> ?_
  ·skip;have e0:=Option.some.inj hm;subst e0;exact AH hd (by kernel_rfl)
  have hm:=A6 hm;let x4:Bool:=((decide ((a0.length:Int)≤x2)));refine gi hm (by kernel_rfl) (fun hc4 hm=> ?_) fun hc4 hm=> ?_
  ·skip;have e0:=Option.some.inj hm;subst e0;exact AH hd (by kernel_rfl)
  obtain⟨x5,q5,hm⟩:=Aa hm;obtain⟨x6,q6,q5⟩:=Aa q5;refine Vm (k:=1) (E:=eB) (fun _=>rfl) (fun _=>q6) (by kernel_rfl) ?_;obtain⟨x7,q7,q5⟩:=Aa q5;refine Mr 1 (E:=eB) (xs:=x6) 36 (by kernel_rfl) fun hle1=> ?_;refine gjU 1 (fun(_:Unit)=>⟨[(2,.d (.i x5)),(5,.d (.i (w64 (x1.toNat:Int)))),(6,.d (.i x2))],[],[],0⟩) (fun _=>True) (by kernel_rfl) (fun Jp bk1=> ?_) fun _ _=> ?_
  ·refine gjU 1 (fun(_:Unit)=>⟨[(2,.d (.i x7)),(5,.d (.i (w64 (x1.toNat:Int)))),(6,.d (.i x2))],[],[],0⟩) (fun _=>True) (by kernel_rfl) (fun Jp bk2=> ?_) fun _ _=> ?_
   ·refine gl hd (fun(p:Int×(Int))=>let (p0,p_0):=p; ⟨[(2,.d (.i p_0)),(5,.d (.i (w64 (x1.toNat:Int)))),(6,.d (.i x2)),(36,sl eB x6),(37,.d (.i (x6.length:Int))),(38,.d (.i p0))],[],[],0⟩) (fun p=> ∃i:Nat,p.1=(i:Int)∧i≤x6.length∧CA Db (x6.drop i) (i:Int) p.2=some x7) (fun p=>x6.length-p.1.toNat) (0,0) ⟨0,rfl,Nat.zero_le _,q7⟩ (by kernel_rfl) ?_;rintro⟨_,s1⟩ ⟨i1,rfl,hi,q8⟩ Jl bl1;refine gi' (b:=decide ((i1:Int)<(x6.length:Int))) (by kernel_rfl) (fun hc5=> ?_) fun hc5=> ?_
    ·have hlt1:i1<x6.length:=by have:=of_decide_eq_true hc5; omega
     obtain⟨x8,y1,q11,q10,q9⟩:=Ew q8 hlt1;unfold Db at q10;refine Ff (k:=1) (E:=eB) (fun _=>rfl) (fun _=>q11) (by kernel_rfl) ?_;have q10:=A6 q10;let x9:Int:=((N0 (Ij s1 8) (w64 (x8.toNat:Int))));have e0:=Option.some.inj q10;subst e0;exact gb bl1 hd (w64 ((i1:Int)+1),x9) ⟨⟨i1+1,AY hlt1 hle1,by omega,q9⟩,GK hlt1 hle1⟩ (by kernel_rfl)
    have hlt1: ¬i1<x6.length:=by have:=of_decide_eq_false hc5; omega
    have e:=Eq.symm (Dt q8 hlt1);subst e;exact gb bk2 hd () trivial (by kernel_rfl)
   have e0:=Option.some.inj q5;subst e0;exact gb bk1 hd () trivial (by kernel_rfl)
  refine gi hm (by kernel_rfl) (fun hc6 hm=> ?_) fun hc6 hm=> ?_
  ·skip;have e0:=Option.some.inj hm;subst e0;exact AH hd (by kernel_rfl)
  have e0:=Option.some.inj hm;subst e0;exact AH hd (by kernel_rfl)
def RQ (rF:(List UInt8)→Int→Option (g_api_Item×(List UInt8)×Int)):Prop:= ∀{a0:List UInt8} {a1:Int} {r:g_api_Item×(List UInt8)×Int},rF a0 a1=some r→Sf prog 151 [sl eB a0,.d (.i a1)] (.tup [ag (Ag r.1),sl eB r.2.1,.d (.i r.2.2)])
def Co (rF:(List UInt8)→Int→Option (g_api_Item×(List UInt8)×Int))(a1:Int)(s1:(List UInt8)×(List UInt8)×(List g_api_Item)):Option (((List UInt8)×(List UInt8)×(List g_api_Item))⊕(((List UInt8)×(List g_api_Item))⊕(g_api_Item×(List UInt8)×Int))):=if(decide ((s1.2.1.length:Int)>0))=true then Ad (rF s1.2.1 (w64 (a1-1))) fun x12=>if(x12.2.2 !=0)=true then some (.inr (.inr ((⟨0,[],[]⟩:g_api_Item),([]:List UInt8),71)))else Ad (app 56 s1.2.2 ([x12.1]:List g_api_Item)) fun x13=>some (.inl (s1.1,x12.2.1,x13))else some (.inr (.inl (s1.1,s1.2.2)))
def FC (rF:(List UInt8)→Int→Option (g_api_Item×(List UInt8)×Int))(a0:List UInt8)(a1:Int):Option (g_api_Item×(List UInt8)×Int):=if((a0.length:Int)==0)=true then some ((⟨0,[],[]⟩:g_api_Item),([]:List UInt8),70)else Ad (idx a0 0) fun x1=>Ad (FK (w64 (x1.toNat:Int))) fun x2=>if((!x2.2)||(decide (a1<1)))=true then some ((⟨0,[],[]⟩:g_api_Item),([]:List UInt8),71)else Ad (cut a0 1 (a0.length:Int)) fun x3=>Ad (BC x3) fun x4=>if(x4.2.2 !=0)=true then some ((⟨0,[],[]⟩:g_api_Item),([]:List UInt8),x4.2.2)else if(decide ((w64 ((w64 (1+x4.2.1))+x4.1))>8192))=true then some ((⟨0,[],[]⟩:g_api_Item),([]:List UInt8),71)else Ad (cut a0 (w64 (1+x4.2.1)) (a0.length:Int)) fun x5=>if(decide (x4.1>(x5.length:Int)))=true then some ((⟨0,[],[]⟩:g_api_Item),([]:List UInt8),70)else Ad (cut x5 0 x4.1) fun x6=>Ad (cut x5 x4.1 (x5.length:Int)) fun x7=>if(x2.1.tag_ !=48)=true then Ad (K3 x2.1.may_ x6) fun x8=>if(!x8)=true then some ((⟨0,[],[]⟩:g_api_Item),([]:List UInt8),71)else Ad (A0 x6) fun x9=>some ((⟨x2.1.tag_,x9,[]⟩:g_api_Item),x7,0)else Ad (iter ((Co rF) a1) Dx (x7,x6,([]:List g_api_Item))) fun x10=>match x10 with| .inr r=>some r| .inl y1=>some ((⟨x2.1.tag_,[],y1.2⟩:g_api_Item),y1.1,0)
theorem R5 {rF:(List UInt8)→Int→Option (g_api_Item×(List UInt8)×Int)}(hF:RQ rF){a0:List UInt8}{a1:Int}{r:g_api_Item×(List UInt8)×Int}(hm:FC rF a0 a1=some r):Sf prog 151 [sl eB a0,.d (.i a1)] (.tup [ag (Ag r.1),sl eB r.2.1,.d (.i r.2.2)]):=
 sp call151 func151 rfl ntmps151 rfl fun D0 As η0 m0 hd=>by
  unfold FC at hm;refine gi hm (by kernel_rfl) (fun hc1 hm=> ?_) fun hc1 hm=> ?_
  ·skip;have e0:=Option.some.inj hm;subst e0;exact AH hd (by kernel_rfl)
  obtain⟨x1,q1,hm⟩:=Aa hm;refine Ff (k:=1) (E:=eB) (fun _=>rfl) (fun _=>q1) (by kernel_rfl) ?_;obtain⟨x2,q2,hm⟩:=Aa hm;refine gc (fun _=>Od q2) (by kernel_rfl) ?_;refine gi hm (by kernel_rfl) (fun hc2 hm=> ?_) fun hc2 hm=> ?_
  ·skip;have e0:=Option.some.inj hm;subst e0;exact AH hd (by kernel_rfl)
  obtain⟨x3,q3,hm⟩:=Aa hm;refine Vm (k:=1) (E:=eB) (fun _=>rfl) (fun _=>q3) (by kernel_rfl) ?_;obtain⟨x4,q4,hm⟩:=Aa hm;refine gc (fun _=>QJ q4) (by kernel_rfl) ?_;refine gi hm (by kernel_rfl) (fun hc3 hm=> ?_) fun hc3 hm=> ?_
  ·skip;have e0:=Option.some.inj hm;subst e0;exact AH hd (by kernel_rfl)
  refine gi hm (by kernel_rfl) (fun hc4 hm=> ?_) fun hc4 hm=> ?_
  ·skip;have e0:=Option.some.inj hm;subst e0;exact AH hd (by kernel_rfl)
  obtain⟨x5,q5,hm⟩:=Aa hm;refine Vm (k:=1) (E:=eB) (fun _=>rfl) (fun _=>q5) (by kernel_rfl) ?_;refine gi hm (by kernel_rfl) (fun hc5 hm=> ?_) fun hc5 hm=> ?_
  ·skip;have e0:=Option.some.inj hm;subst e0;exact AH hd (by kernel_rfl)
  obtain⟨x6,q6,hm⟩:=Aa hm;refine Vm (k:=1) (E:=eB) (fun _=>rfl) (fun _=>q6) (by kernel_rfl) ?_;obtain⟨x7,q7,hm⟩:=Aa hm;refine Vm (k:=1) (E:=eB) (fun _=>rfl) (fun _=>q7) (by kernel_rfl) ?_;refine gi hm (by kernel_rfl) (fun hc6 hm=> ?_) fun hc6 hm=> ?_
  ·skip;obtain⟨x8,q8,hm⟩:=Aa hm;refine gdyn (fun _=>Tn q8) (by kernel_rfl) ?_;refine gi hm (by kernel_rfl) (fun hc7 hm=> ?_) fun hc7 hm=> ?_
   ·skip;have e0:=Option.some.inj hm;subst e0;exact AH hd (by kernel_rfl)
   obtain⟨x9,q9,hm⟩:=Aa hm;refine gco (FG q9) (by kernel_rfl) ?_;have e0:=Option.some.inj hm;subst e0;exact AH hd (by kernel_rfl)
  obtain⟨x10,q10,hm⟩:=Aa hm;refine gnilBU 0 Ag 4 2 3 (by kernel_rfl) ?_;refine gjU 0 (fun(y1:(List UInt8)×(List g_api_Item))=>let (y_0,y_1):=y1; ⟨[(4,.pb 0 0),(5,sl eB y_0),(7,.pb 1 0)],[(0,.row 2 3 _ Ag y_1),(1,.box 1 [.d (.i x2.1.tag_),.d (.v (fnV x2.1.may_))] 236),(2,.box 0 [.d (.i x2.1.tag_),sl eB [],.ow 2] 159)],[],3⟩) (fun y1=>x10= .inl y1) (by kernel_rfl) (fun Jp bk1=> ?_) fun y1 hy=> ?_
  ·refine gl hd (fun(p:Nat×((List UInt8)×(List UInt8)×(List g_api_Item)))=>let (p0,p_0,p_1,p_2):=p; ⟨[(1,.d (.i a1)),(4,.pb 0 0),(5,sl eB p_0),(11,sl eB p_1),(7,.pb 1 0)],[(0,.row 2 3 _ Ag p_2),(1,.box 1 [.d (.i x2.1.tag_),.d (.v (fnV x2.1.may_))] 236),(2,.box 0 [.d (.i x2.1.tag_),sl eB [],.ow 2] 159)],[],3⟩) (fun p=>iter ((Co rF) a1) p.1 p.2=some x10) (fun p=>p.1) (Dx,(x7,x6,([]:List g_api_Item))) q10 (by kernel_rfl) ?_;rintro⟨n1,s1⟩ q11 Jl bl1;cases n1 with
   |zero=>exact(Bt q11).elim
   |succ n1=>
    obtain⟨y2,q13,q12⟩:=Bn q11;unfold Co at q13;refine gi q13 (by kernel_rfl) (fun hc8 q13=> ?_) fun hc8 q13=> ?_
    ·skip;obtain⟨x12,q15,q13⟩:=Aa q13;refine gc (fun _=>hF q15) (by kernel_rfl) ?_;refine gi q13 (by kernel_rfl) (fun hc9 q13=> ?_) fun hc9 q13=> ?_
     ·skip;cases q13;rcases q12 with ⟨sn,e,_⟩|e
      ·cases e
      cases e;dsimp only at hm;have e0:=Option.some.inj hm;subst e0;exact AH hd (by kernel_rfl)
     refine CD (k:=3) Ag ([x12.1]:List g_api_Item) (fun _=>rfl) (by kernel_rfl) ?_;obtain⟨x13,q16,q13⟩:=Aa q13;refine Qv (k:=3) (E:=Ag) (fun _=>rfl) q16 (by kernel_rfl) ?_;have e0:=Option.some.inj q13;subst e0;rcases q12 with ⟨sn,e,q12'⟩|e
     ·have e:=Sum.inl.inj e;subst e;exact gb bl1 hd (n1,_) ⟨q12',Nat.lt_succ_self _⟩ (by kernel_rfl)
     cases CX e
    have e0:=Option.some.inj q13;subst e0;rcases q12 with ⟨sn,e,_⟩|e
    ·cases F3 e
    have e:=Sum.inr.inj e;subst e;exact gb bk1 hd (s1.1,s1.2.2) rfl (by kernel_rfl)
  subst hy;dsimp only at hm;have e0:=Option.some.inj hm;subst e0;exact AH hd (by kernel_rfl)
def G8:Nat→(List UInt8)→Int→Option (g_api_Item×(List UInt8)×Int)
 |0,_,_=>none
 |n+1,a0,a1=>FC (G8 n) a0 a1
def Nq (a0:List UInt8)(a1:Int):Option (g_api_Item×(List UInt8)×Int):=G8 Dx a0 a1
theorem N8: ∀n,RQ (G8 n)
 |0=>fun hm=>by cases hm
 |n+1=>fun hm=>R5 (N8 n) hm
theorem Vz {a0:List UInt8}{a1:Int}{r:g_api_Item×(List UInt8)×Int}(hm:Nq a0 a1=some r):Sf prog 151 [sl eB a0,.d (.i a1)] (.tup [ag (Ag r.1),sl eB r.2.1,.d (.i r.2.2)]):=N8 Dx hm
def JX (a0:List UInt8)(a1:Int):Option (g_api_Item×Int×Int):=if((decide (a1<0))||(decide (a1>(a0.length:Int))))=true then some ((⟨0,[],[]⟩:g_api_Item),0,1)else Ad (cut a0 a1 (a0.length:Int)) fun x1=>Ad (Nq x1 8) fun x2=>if(x2.2.2 !=0)=true then some ((⟨0,[],[]⟩:g_api_Item),0,x2.2.2)else bnd ((w64 ((a0.length:Int)-(x2.2.1.length:Int)))) fun x3=>some (x2.1,x3,0)
theorem VB {a0:List UInt8}{a1:Int}{r:g_api_Item×Int×Int}(hm:JX a0 a1=some r):Sf prog 110 [sl eB a0,.d (.i a1)] (.tup [ag (Ag r.1),.d (.i r.2.1),.d (.i r.2.2)]):=
 sp call110 func110 rfl ntmps110 rfl fun D0 As η0 m0 hd=>by
  unfold JX at hm;refine gi hm (by kernel_rfl) (fun hc1 hm=> ?_) fun hc1 hm=> ?_
  ·skip;have e0:=Option.some.inj hm;subst e0;exact AH hd (by kernel_rfl)
  obtain⟨x1,q1,hm⟩:=Aa hm;refine Vm (k:=1) (E:=eB) (fun _=>rfl) (fun _=>q1) (by kernel_rfl) ?_;obtain⟨x2,q2,hm⟩:=Aa hm;refine gc (fun _=>Vz q2) (by kernel_rfl) ?_;refine gi hm (by kernel_rfl) (fun hc2 hm=> ?_) fun hc2 hm=> ?_
  ·skip;have e0:=Option.some.inj hm;subst e0;exact AH hd (by kernel_rfl)
  have hm:=A6 hm;let x3:Int:=((w64 ((a0.length:Int)-(x2.2.1.length:Int))));have e0:=Option.some.inj hm;subst e0;exact AH hd (by kernel_rfl)
def PR:Value:= .iface 169 (.agg #[])
def Ba (a0:Bool):Option (Option Unit):=some (if a0=true then some ()else none)
theorem AW {a0:Bool}{r:Option Unit}(hm:Ba a0=some r):Sb prog 112 [.d (.t a0)] [] 0 PR (Pos r (fun r=> .tup []) (fun r=> []) 0) (r=none):=
 sb call112 func112 rfl ntmps112 rfl fun D0 As η0 m0 hd=>by
  have e0:=Option.some.inj hm;subst e0;refine gi' (b:= !a0) (by kernel_rfl) (fun hc=> ?_) fun hc=> ?_
  ·cases a0 with
   |true=>cases hc
   |false=>exact gthrow (by kernel_rfl) (by kernel_rfl)
  ·cases a0 with
   |true=>exact Ms hd (by kernel_rfl)
   |false=>cases hc
def Hx (a0:g_api_Item):Option (List g_api_Item):=Ad (AI a0.L) fun x1=>some x1
theorem O5 {a0:g_api_Item}{r:List g_api_Item}(hm:Hx a0=some r):Sp prog 197 [ag (Ag a0)] [] 0 (is (.ow 0) [.row 0 3 _ Ag r] 1):=
 sp call197 func197 rfl ntmps197 rfl fun D0 As η0 m0 hd=>by
  unfold Hx at hm;obtain⟨x1,q1,hm⟩:=Aa hm;refine gco (DC q1) (by kernel_rfl) ?_;have e0:=Option.some.inj hm;subst e0;exact AH hd (by kernel_rfl)
def De (a0:g_api_Item)(a1:Int):Option ((List g_api_Item)×Int):=if(a0.Tag !=a1)=true then some (([]:List g_api_Item),72)else Ad (H5 a0 8) fun x1=>if(!x1)=true then some (([]:List g_api_Item),71)else Ad (Hx a0) fun x2=>some (x2,0)
theorem Jy {a0:g_api_Item}{a1:Int}{r:(List g_api_Item)×Int}(hm:De a0 a1=some r):Sp prog 196 [ag (Ag a0),.d (.i a1),.fn (.func 197) [] []] [] 0 (is (.tup [.ow 0,.d (.i r.2)]) [.row 0 3 _ Ag r.1] 1):=
 sp call196 func196 rfl ntmps196 rfl fun D0 As η0 m0 hd=>by
  unfold De at hm;refine gi hm (by kernel_rfl) (fun hc1 hm=> ?_) fun hc1 hm=> ?_
  ·skip;refine AaL Ag 6 3 (by kernel_rfl) ?_;have e0:=Option.some.inj hm;subst e0;exact AH hd (by kernel_rfl)
  obtain⟨x1,q1,hm⟩:=Aa hm;refine gc (fun _=>JG q1) (by kernel_rfl) ?_;refine gi hm (by kernel_rfl) (fun hc2 hm=> ?_) fun hc2 hm=> ?_
  ·skip;refine AaL Ag 6 3 (by kernel_rfl) ?_;have e0:=Option.some.inj hm;subst e0;exact AH hd (by kernel_rfl)
  obtain⟨x2,q2,hm⟩:=Aa hm;refine gco (O5 q2) (by kernel_rfl) ?_;have e0:=Option.some.inj hm;subst e0;exact AH hd (by kernel_rfl)
def GS (a0:g_api_Item):Option ((List g_api_Item)×Int):=Ad (De a0 48) fun x1=>some (x1.1,x1.2)
theorem MT {a0:g_api_Item}{r:(List g_api_Item)×Int}(hm:GS a0=some r):Sp prog 152 [ag (Ag a0)] [] 0 (is (.tup [.ow 0,.d (.i r.2)]) [.row 0 3 _ Ag r.1] 1):=
 sp call152 func152 rfl ntmps152 rfl fun D0 As η0 m0 hd=>by
  unfold GS at hm;obtain⟨x1,q1,hm⟩:=Aa hm;refine gco (Jy q1) (by kernel_rfl) ?_;have e0:=Option.some.inj hm;subst e0;exact AH hd (by kernel_rfl)
def I1 (a0:g_api_Item):Option (Option Am):=Ad (GS a0) fun x1=>Ad (Ba (x1.2==0)) fun y1=>match y1 with|none=>some none|some x2=>some (some (⟨x1.1⟩:Am))
theorem QQ {a0:g_api_Item}{r:Option Am}(hm:I1 a0=some r):Sb prog 113 [ag (Ag a0)] [] 0 PR (Pos r (fun r=> .pb 0 0) (fun r=> [.box 0 [.d (.sl _ Ag r.l_)] 200]) 1) (r=none):=
 sb call113 func113 rfl ntmps113 rfl fun D0 As η0 m0 hd=>by
  unfold I1 at hm;obtain⟨x1,q1,hm⟩:=Aa hm;refine gco (MT q1) (by kernel_rfl) ?_;obtain⟨y1,q2,hm⟩:=Aa hm;rcases y1 with _|x2
  ·dsimp only at hm;have e0:=Option.some.inj hm;subst e0;exact LC (AW q2) (by kernel_rfl)
  dsimp only at hm;refine gc (fun _=>(AW q2).sp) (by kernel_rfl) ?_;have e0:=Option.some.inj hm;subst e0;exact Ms hd (by kernel_rfl)
def CS (i1:Int)(x5:UInt8)(s1:Int):Option (Int):=bnd ((N0 (Ij s1 8) (w64 (x5.toNat:Int)))) fun x6=>some x6
def Gh (a0:g_api_Item):Option Int:=Ad (idx a0.B 0) fun x1=>Ad (Ad (cut a0.B 1 (a0.B.length:Int)) fun x3=>Ad (CA CS x3 0 (w64 (w8 (x1.toNat:Int)))) fun x4=>some x4) fun x2=>some x2
theorem O6 {a0:g_api_Item}{r:Int}(hm:Gh a0=some r):Sf prog 199 [ag (Ag a0)] (.d (.i r)):=
 sp call199 func199 rfl ntmps199 rfl fun D0 As η0 m0 hd=>by
  unfold Gh at hm;obtain⟨x1,q1,hm⟩:=Aa hm;refine Ff (k:=1) (E:=eB) (fun _=>rfl) (fun _=>q1) (by kernel_rfl) ?_;obtain⟨x2,q2,hm⟩:=Aa hm;obtain⟨x3,q3,q2⟩:=Aa q2;refine Vm (k:=1) (E:=eB) (fun _=>rfl) (fun _=>q3) (by kernel_rfl) ?_;obtain⟨x4,q4,q2⟩:=Aa q2;refine Mr 0 (E:=eB) (xs:=x3) 14 (by kernel_rfl) fun hle1=> ?_;refine gjU 0 (fun(_:Unit)=>⟨[(3,.d (.i x2)),(1,.pb 0 0)],[(0,.box 0 [.d (.i a0.Tag),sl eB a0.B,sl Ag a0.L] 159)],[],1⟩) (fun _=>True) (by kernel_rfl) (fun Jp bk1=> ?_) fun _ _=> ?_
  ·refine gjU 0 (fun(_:Unit)=>⟨[(3,.d (.i x4)),(1,.pb 0 0)],[(0,.box 0 [.d (.i a0.Tag),sl eB a0.B,sl Ag a0.L] 159)],[],1⟩) (fun _=>True) (by kernel_rfl) (fun Jp bk2=> ?_) fun _ _=> ?_
   ·refine gl hd (fun(p:Int×(Int))=>let (p0,p_0):=p; ⟨[(3,.d (.i p_0)),(14,sl eB x3),(15,.d (.i (x3.length:Int))),(16,.d (.i p0)),(1,.pb 0 0)],[(0,.box 0 [.d (.i a0.Tag),sl eB a0.B,sl Ag a0.L] 159)],[],1⟩) (fun p=> ∃i:Nat,p.1=(i:Int)∧i≤x3.length∧CA CS (x3.drop i) (i:Int) p.2=some x4) (fun p=>x3.length-p.1.toNat) (0,(w64 (w8 (x1.toNat:Int)))) ⟨0,rfl,Nat.zero_le _,q4⟩ (by kernel_rfl) ?_;rintro⟨_,s1⟩ ⟨i1,rfl,hi,q5⟩ Jl bl1;refine gi' (b:=decide ((i1:Int)<(x3.length:Int))) (by kernel_rfl) (fun hc1=> ?_) fun hc1=> ?_
    ·have hlt1:i1<x3.length:=by have:=of_decide_eq_true hc1; omega
     obtain⟨x5,y1,q8,q7,q6⟩:=Ew q5 hlt1;unfold CS at q7;refine Ff (k:=1) (E:=eB) (fun _=>rfl) (fun _=>q8) (by kernel_rfl) ?_;have q7:=A6 q7;let x6:Int:=((N0 (Ij s1 8) (w64 (x5.toNat:Int))));have e0:=Option.some.inj q7;subst e0;exact gb bl1 hd (w64 ((i1:Int)+1),x6) ⟨⟨i1+1,AY hlt1 hle1,by omega,q6⟩,GK hlt1 hle1⟩ (by kernel_rfl)
    have hlt1: ¬i1<x3.length:=by have:=of_decide_eq_false hc1; omega
    have e:=Eq.symm (Dt q5 hlt1);subst e;exact gb bk2 hd () trivial (by kernel_rfl)
   have e0:=Option.some.inj q2;subst e0;exact gb bk1 hd () trivial (by kernel_rfl)
  have e0:=Option.some.inj hm;subst e0;exact AH hd (by kernel_rfl)
def E4 (a0:g_api_Item)(a1:Int):Option (Int×Int):=if(a0.Tag !=a1)=true then some (0,72)else Ad (H5 a0 8) fun x1=>if(!x1)=true then some (0,71)else Ad (Gh a0) fun x2=>some (x2,0)
theorem Lj {a0:g_api_Item}{a1:Int}{r:Int×Int}(hm:E4 a0 a1=some r):Sf prog 198 [ag (Ag a0),.d (.i a1),.fn (.func 199) [] []] (.tup [.d (.i r.1),.d (.i r.2)]):=
 sp call198 func198 rfl ntmps198 rfl fun D0 As η0 m0 hd=>by
  unfold E4 at hm;refine gi hm (by kernel_rfl) (fun hc1 hm=> ?_) fun hc1 hm=> ?_
  ·skip;have e0:=Option.some.inj hm;subst e0;exact AH hd (by kernel_rfl)
  obtain⟨x1,q1,hm⟩:=Aa hm;refine gc (fun _=>JG q1) (by kernel_rfl) ?_;refine gi hm (by kernel_rfl) (fun hc2 hm=> ?_) fun hc2 hm=> ?_
  ·skip;have e0:=Option.some.inj hm;subst e0;exact AH hd (by kernel_rfl)
  obtain⟨x2,q2,hm⟩:=Aa hm;refine gc (fun _=>O6 q2) (by kernel_rfl) ?_;have e0:=Option.some.inj hm;subst e0;exact AH hd (by kernel_rfl)
def H7 (a0:g_api_Item):Option (Int×Int):=Ad (E4 a0 2) fun x1=>some (x1.1,x1.2)
theorem R6 {a0:g_api_Item}{r:Int×Int}(hm:H7 a0=some r):Sf prog 154 [ag (Ag a0)] (.tup [.d (.i r.1),.d (.i r.2)]):=
 sp call154 func154 rfl ntmps154 rfl fun D0 As η0 m0 hd=>by
  unfold H7 at hm;obtain⟨x1,q1,hm⟩:=Aa hm;refine gc (fun _=>Lj q1) (by kernel_rfl) ?_;have e0:=Option.some.inj hm;subst e0;exact AH hd (by kernel_rfl)
def CU (a0:Am):Option (Option (Int×Am)):=
 Ad (Ba (decide ((a0.l_.length:Int)>0))) fun y1=>match y1 with
 |none=>some none
 |some x1=>
 Ad (idx a0.l_ 0) fun x2=>
 Ad (H7 x2) fun x3=>
 Ad (Ba (x3.2==0)) fun y2=>match y2 with
 |none=>some none
 |some x4=>
 Ad (cut a0.l_ 1 (a0.l_.length:Int)) fun x5=>
 some (some (x3.1,(⟨x5⟩:Am)))
theorem Hn {a0:Am}{r:Option (Int×Am)}(hm:CU a0=some r):Sb prog 153 [.pb 0 0,.fn (.func 154) [] []] [.box 0 [sl Ag a0.l_] 200] 1 PR (Pos r (fun r=> .d (.i r.1)) (fun r=> [.box 0 [.d (.sl _ Ag r.2.l_)] 200]) 1) (r=none):=
 sb call153 func153 rfl ntmps153 rfl fun D0 As η0 m0 hd=>by
  unfold CU at hm;obtain⟨y1,q1,hm⟩:=Aa hm;rcases y1 with _|x1
  ·dsimp only at hm;have e0:=Option.some.inj hm;subst e0;exact LC (AW q1) (by kernel_rfl)
  dsimp only at hm;refine gc (fun _=>(AW q1).sp) (by kernel_rfl) ?_;obtain⟨x2,q2,hm⟩:=Aa hm;refine Ff (k:=3) (E:=Ag) (fun _=>rfl) (fun _=>q2) (by kernel_rfl) ?_;obtain⟨x3,q3,hm⟩:=Aa hm;refine gc (fun _=>R6 q3) (by kernel_rfl) ?_;obtain⟨y2,q4,hm⟩:=Aa hm;rcases y2 with _|x4
  ·dsimp only at hm;have e0:=Option.some.inj hm;subst e0;exact LC (AW q4) (by kernel_rfl)
  dsimp only at hm;refine gc (fun _=>(AW q4).sp) (by kernel_rfl) ?_;obtain⟨x5,q5,hm⟩:=Aa hm;refine Vm (k:=3) (E:=Ag) (fun _=>rfl) (fun _=>q5) (by kernel_rfl) ?_;have e0:=Option.some.inj hm;subst e0;exact Ms hd (by kernel_rfl)
def By (a0:Am):Option (Option (Int×Am)):=
 Ad (CU a0) fun y1=>match y1 with
 |none=>some none
 |some x1=>
 Ad (Ba (decide (x1.1≥0))) fun y2=>match y2 with
 |none=>some none
 |some x2=>
 some (some (x1.1,x1.2))
theorem Be {a0:Am}{r:Option (Int×Am)}(hm:By a0=some r):Sb prog 114 [.pb 0 0] [.box 0 [sl Ag a0.l_] 200] 1 PR (Pos r (fun r=> .d (.i r.1)) (fun r=> [.box 0 [.d (.sl _ Ag r.2.l_)] 200]) 1) (r=none):=
 sb call114 func114 rfl ntmps114 rfl fun D0 As η0 m0 hd=>by
  unfold By at hm;obtain⟨y1,q1,hm⟩:=Aa hm;rcases y1 with _|x1
  ·dsimp only at hm;have e0:=Option.some.inj hm;subst e0;exact LC (Hn q1) (by kernel_rfl)
  dsimp only at hm;refine gco (Hn q1).sp (by kernel_rfl) ?_;obtain⟨y2,q2,hm⟩:=Aa hm;rcases y2 with _|x2
  ·dsimp only at hm;have e0:=Option.some.inj hm;subst e0;exact LC (AW q2) (by kernel_rfl)
  dsimp only at hm;refine gc (fun _=>(AW q2).sp) (by kernel_rfl) ?_;have e0:=Option.some.inj hm;subst e0;exact Ms hd (by kernel_rfl)
def IE (a0:g_api_Item):Option ByteArray:=some (bs a0.B)
theorem NO {a0:g_api_Item}{r:ByteArray}(hm:IE a0=some r):Sf prog 156 [ag (Ag a0)] (.d (.s r)):=
 sp call156 func156 rfl ntmps156 rfl fun D0 As η0 m0 hd=>by
  unfold IE at hm;refine gbs (xs:=a0.B) (by kernel_rfl) ?_;have e0:=Option.some.inj hm;subst e0;exact AH hd (by kernel_rfl)
def DH (a0:g_api_Item)(a1:Int):Option (ByteArray×Int):=if(a0.Tag !=a1)=true then some ((⟨#[]⟩:ByteArray),72)else Ad (H5 a0 8) fun x1=>if(!x1)=true then some ((⟨#[]⟩:ByteArray),71)else Ad (IE a0) fun x2=>some (x2,0)
theorem Kb {a0:g_api_Item}{a1:Int}{r:ByteArray×Int}(hm:DH a0 a1=some r):Sf prog 155 [ag (Ag a0),.d (.i a1),.fn (.func 156) [] []] (.tup [.d (.s r.1),.d (.i r.2)]):=
 sp call155 func155 rfl ntmps155 rfl fun D0 As η0 m0 hd=>by
  unfold DH at hm;refine gi hm (by kernel_rfl) (fun hc1 hm=> ?_) fun hc1 hm=> ?_
  ·skip;have e0:=Option.some.inj hm;subst e0;exact AH hd (by kernel_rfl)
  obtain⟨x1,q1,hm⟩:=Aa hm;refine gc (fun _=>JG q1) (by kernel_rfl) ?_;refine gi hm (by kernel_rfl) (fun hc2 hm=> ?_) fun hc2 hm=> ?_
  ·skip;have e0:=Option.some.inj hm;subst e0;exact AH hd (by kernel_rfl)
  obtain⟨x2,q2,hm⟩:=Aa hm;refine gc (fun _=>NO q2) (by kernel_rfl) ?_;have e0:=Option.some.inj hm;subst e0;exact AH hd (by kernel_rfl)
def Ha (a0:g_api_Item):Option (ByteArray×Int):=Ad (DH a0 12) fun x1=>some (x1.1,x1.2)
theorem QM {a0:g_api_Item}{r:ByteArray×Int}(hm:Ha a0=some r):Sf prog 116 [ag (Ag a0)] (.tup [.d (.s r.1),.d (.i r.2)]):=
 sp call116 func116 rfl ntmps116 rfl fun D0 As η0 m0 hd=>by
  unfold Ha at hm;obtain⟨x1,q1,hm⟩:=Aa hm;refine gc (fun _=>Kb q1) (by kernel_rfl) ?_;have e0:=Option.some.inj hm;subst e0;exact AH hd (by kernel_rfl)
def DO (a0:Am):Option (Option (UInt64×Am)):=Ad (By a0) fun y1=>match y1 with|none=>some none|some x1=>some (some ((toU x1.1),x1.2))
theorem IU {a0:Am}{r:Option (UInt64×Am)}(hm:DO a0=some r):Sb prog 117 [.pb 0 0] [.box 0 [sl Ag a0.l_] 200] 1 PR (Pos r (fun r=> .d (.u r.1)) (fun r=> [.box 0 [.d (.sl _ Ag r.2.l_)] 200]) 1) (r=none):=
 sb call117 func117 rfl ntmps117 rfl fun D0 As η0 m0 hd=>by
  unfold DO at hm;obtain⟨y1,q1,hm⟩:=Aa hm;rcases y1 with _|x1
  ·dsimp only at hm;have e0:=Option.some.inj hm;subst e0;exact LC (Be q1) (by kernel_rfl)
  dsimp only at hm;refine gco (Be q1).sp (by kernel_rfl) ?_;have e0:=Option.some.inj hm;subst e0;exact Ms hd (by kernel_rfl)
def B3 (a0:Am):Option (Option ((List g_api_Item)×Am)):=
 Ad (Ba (decide ((a0.l_.length:Int)>0))) fun y1=>match y1 with
 |none=>some none
 |some x1=>
 Ad (idx a0.l_ 0) fun x2=>
 Ad (GS x2) fun x3=>
 Ad (Ba (x3.2==0)) fun y2=>match y2 with
 |none=>some none
 |some x4=>
 Ad (cut a0.l_ 1 (a0.l_.length:Int)) fun x5=>
 some (some (x3.1,(⟨x5⟩:Am)))
theorem Fj {a0:Am}{r:Option ((List g_api_Item)×Am)}(hm:B3 a0=some r):Sb prog 200 [.pb 0 0,.fn (.func 152) [] []] [.box 0 [sl Ag a0.l_] 200] 1 PR (Pos r (fun r=> .ow 1) (fun r=> [.box 0 [.d (.sl _ Ag r.2.l_)] 200,.row 1 3 _ Ag r.1]) 2) (r=none):=
 sb call200 func200 rfl ntmps200 rfl fun D0 As η0 m0 hd=>by
  unfold B3 at hm;obtain⟨y1,q1,hm⟩:=Aa hm;rcases y1 with _|x1
  ·dsimp only at hm;have e0:=Option.some.inj hm;subst e0;exact LC (AW q1) (by kernel_rfl)
  dsimp only at hm;refine gc (fun _=>(AW q1).sp) (by kernel_rfl) ?_;obtain⟨x2,q2,hm⟩:=Aa hm;refine Ff (k:=3) (E:=Ag) (fun _=>rfl) (fun _=>q2) (by kernel_rfl) ?_;obtain⟨x3,q3,hm⟩:=Aa hm;refine gco (MT q3) (by kernel_rfl) ?_;obtain⟨y2,q4,hm⟩:=Aa hm;rcases y2 with _|x4
  ·dsimp only at hm;have e0:=Option.some.inj hm;subst e0;exact LC (AW q4) (by kernel_rfl)
  dsimp only at hm;refine gc (fun _=>(AW q4).sp) (by kernel_rfl) ?_;obtain⟨x5,q5,hm⟩:=Aa hm;refine Vm (k:=3) (E:=Ag) (fun _=>rfl) (fun _=>q5) (by kernel_rfl) ?_;have e0:=Option.some.inj hm;subst e0;exact Ms hd (by kernel_rfl)
def DM (a0:Am):Option (Option (Am×Am)):=Ad (B3 a0) fun y1=>match y1 with|none=>some none|some x1=>some (some ((⟨x1.1⟩:Am),x1.2))
theorem IQ {a0:Am}{r:Option (Am×Am)}(hm:DM a0=some r):Sb prog 157 [.pb 0 0] [.box 0 [sl Ag a0.l_] 200] 1 PR (Pos r (fun r=> .pb 1 0) (fun r=> [.box 0 [.d (.sl _ Ag r.2.l_)] 200,.box 1 [.d (.sl _ Ag r.1.l_)] 200]) 2) (r=none):=
 sb call157 func157 rfl ntmps157 rfl fun D0 As η0 m0 hd=>by
  unfold DM at hm;obtain⟨y1,q1,hm⟩:=Aa hm;rcases y1 with _|x1
  ·dsimp only at hm;have e0:=Option.some.inj hm;subst e0;exact LC (Fj q1) (by kernel_rfl)
  dsimp only at hm;refine gco (Fj q1).sp (by kernel_rfl) ?_;have e0:=Option.some.inj hm;subst e0;exact Ms hd (by kernel_rfl)
def AU (a0:Am):Option (Option (ByteArray×Am)):=
 Ad (Ba (decide ((a0.l_.length:Int)>0))) fun y1=>match y1 with
 |none=>some none
 |some x1=>
 Ad (idx a0.l_ 0) fun x2=>
 Ad (Ha x2) fun x3=>
 Ad (Ba (x3.2==0)) fun y2=>match y2 with
 |none=>some none
 |some x4=>
 Ad (cut a0.l_ 1 (a0.l_.length:Int)) fun x5=>
 some (some (x3.1,(⟨x5⟩:Am)))
theorem BU {a0:Am}{r:Option (ByteArray×Am)}(hm:AU a0=some r):Sb prog 115 [.pb 0 0,.fn (.func 116) [] []] [.box 0 [sl Ag a0.l_] 200] 1 PR (Pos r (fun r=> .d (.s r.1)) (fun r=> [.box 0 [.d (.sl _ Ag r.2.l_)] 200]) 1) (r=none):=
 sb call115 func115 rfl ntmps115 rfl fun D0 As η0 m0 hd=>by
  unfold AU at hm;obtain⟨y1,q1,hm⟩:=Aa hm;rcases y1 with _|x1
  ·dsimp only at hm;have e0:=Option.some.inj hm;subst e0;exact LC (AW q1) (by kernel_rfl)
  dsimp only at hm;refine gc (fun _=>(AW q1).sp) (by kernel_rfl) ?_;obtain⟨x2,q2,hm⟩:=Aa hm;refine Ff (k:=3) (E:=Ag) (fun _=>rfl) (fun _=>q2) (by kernel_rfl) ?_;obtain⟨x3,q3,hm⟩:=Aa hm;refine gc (fun _=>QM q3) (by kernel_rfl) ?_;obtain⟨y2,q4,hm⟩:=Aa hm;rcases y2 with _|x4
  ·dsimp only at hm;have e0:=Option.some.inj hm;subst e0;exact LC (AW q4) (by kernel_rfl)
  dsimp only at hm;refine gc (fun _=>(AW q4).sp) (by kernel_rfl) ?_;obtain⟨x5,q5,hm⟩:=Aa hm;refine Vm (k:=3) (E:=Ag) (fun _=>rfl) (fun _=>q5) (by kernel_rfl) ?_;have e0:=Option.some.inj hm;subst e0;exact Ms hd (by kernel_rfl)
def AO (s1:(List ByteArray)×(List g_api_Item)):Option (((List ByteArray)×(List g_api_Item))⊕(((List ByteArray)×(List g_api_Item))⊕(Option ((List ByteArray)×Am)))):=if(decide ((s1.2.length:Int)>0))=true then Ad (AU (⟨s1.2⟩:Am)) fun y4=>match y4 with|none=>some (.inr (.inr none))|some x4=>Ad (app 16 s1.1 ([x4.1]:List ByteArray)) fun x5=>some (.inl (x5,x4.2.l_))else some (.inr (.inl (s1.1,s1.2)))
def Cz (a0:Am):Option (Option ((List ByteArray)×Am)):=
 Ad (DM a0) fun y1=>match y1 with
 |none=>some none
 |some x1=>
 Ad (iter AO Dx (([]:List ByteArray),x1.1.l_)) fun x2=>match x2 with
 | .inr r=>some r
 | .inl y2=>
 some (some (y2.1,x1.2))
theorem DW {a0:Am}{r:Option ((List ByteArray)×Am)}(hm:Cz a0=some r):Sb prog 118 [.pb 0 0] [.box 0 [sl Ag a0.l_] 200] 1 PR (Pos r (fun r=> .ow 1) (fun r=> [.box 0 [.d (.sl _ Ag r.2.l_)] 200,.row 1 1 _ eS r.1]) 2) (r=none):=
 sb call118 func118 rfl ntmps118 rfl fun D0 As η0 m0 hd=>by
  unfold Cz at hm;obtain⟨y1,q1,hm⟩:=Aa hm;rcases y1 with _|x1
  ·dsimp only at hm;have e0:=Option.some.inj hm;subst e0;exact LC (IQ q1) (by kernel_rfl)
  dsimp only at hm;refine gco (IQ q1).sp (by kernel_rfl) ?_;obtain⟨x2,q2,hm⟩:=Aa hm;refine P6 0 eS 3 1 (by kernel_rfl) ?_;refine gjU 0 (fun(y2:(List ByteArray)×(List g_api_Item))=>let (y_0,y_1):=y2; ⟨[(3,.ow 2),(6,.pb 1 0)],[(0,.row 2 1 _ eS y_0),(1,.box 1 [sl Ag y_1] 200),(2,.box 0 [sl Ag x1.2.l_] 200)],[],3⟩) (fun y2=>x2= .inl y2) (by kernel_rfl) (fun Jp bk1=> ?_) fun y2 hy=> ?_
  ·refine gl hd (fun(p:Nat×((List ByteArray)×(List g_api_Item)))=>let (p0,p_0,p_1):=p; ⟨[(3,.ow 2),(4,.pb 1 0),(6,.pb 1 0)],[(0,.row 2 1 _ eS p_0),(1,.box 1 [sl Ag p_1] 200),(2,.box 0 [sl Ag x1.2.l_] 200)],[],3⟩) (fun p=>iter AO p.1 p.2=some x2) (fun p=>p.1) (Dx,(([]:List ByteArray),x1.1.l_)) q2 (by kernel_rfl) ?_;rintro⟨n1,s1⟩ q3 Jl bl1;cases n1 with
   |zero=>exact(Bt q3).elim
   |succ n1=>
    obtain⟨y3,q5,q4⟩:=Bn q3;unfold AO at q5;refine gi q5 (by kernel_rfl) (fun hc1 q5=> ?_) fun hc1 q5=> ?_
    ·skip;obtain⟨y4,q7,q5⟩:=Aa q5;rcases y4 with _|x4
     ·dsimp only at q5;cases q5;rcases q4 with ⟨sn,e,_⟩|e
      ·cases e
      cases e;dsimp only at hm;have e0:=Option.some.inj hm;subst e0;exact LC (BU q7) (by kernel_rfl)
     dsimp only at q5;refine gco (BU q7).sp (by kernel_rfl) ?_;refine CD (k:=1) eS ([x4.1]:List ByteArray) (fun _=>rfl) (by kernel_rfl) ?_;obtain⟨x5,q8,q5⟩:=Aa q5;refine Qv (k:=1) (E:=eS) (fun _=>rfl) q8 (by kernel_rfl) ?_;have e0:=Option.some.inj q5;subst e0;rcases q4 with ⟨sn,e,q4'⟩|e
     ·have e:=Sum.inl.inj e;subst e;exact gb bl1 hd (n1,_) ⟨q4',Nat.lt_succ_self _⟩ (by kernel_rfl)
     cases CX e
    have e0:=Option.some.inj q5;subst e0;rcases q4 with ⟨sn,e,_⟩|e
    ·cases F3 e
    have e:=Sum.inr.inj e;subst e;exact gb bk1 hd (s1.1,s1.2) rfl (by kernel_rfl)
  subst hy;dsimp only at hm;have e0:=Option.some.inj hm;subst e0;exact Ms hd (by kernel_rfl)
def GY (a0:g_api_Item):Option Bool:=Ad (idx a0.B 0) fun x1=>some ((x1.toNat:Int) !=0)
theorem NP {a0:g_api_Item}{r:Bool}(hm:GY a0=some r):Sf prog 159 [ag (Ag a0)] (.d (.t r)):=
 sp call159 func159 rfl ntmps159 rfl fun D0 As η0 m0 hd=>by
  unfold GY at hm;obtain⟨x1,q1,hm⟩:=Aa hm;refine Ff (k:=1) (E:=eB) (fun _=>rfl) (fun _=>q1) (by kernel_rfl) ?_;have e0:=Option.some.inj hm;subst e0;exact AH hd (by kernel_rfl)
def Ev (a0:g_api_Item)(a1:Int):Option (Bool×Int):=if(a0.Tag !=a1)=true then some (false,72)else Ad (H5 a0 8) fun x1=>if(!x1)=true then some (false,71)else Ad (GY a0) fun x2=>some (x2,0)
theorem KO {a0:g_api_Item}{a1:Int}{r:Bool×Int}(hm:Ev a0 a1=some r):Sf prog 158 [ag (Ag a0),.d (.i a1),.fn (.func 159) [] []] (.tup [.d (.t r.1),.d (.i r.2)]):=
 sp call158 func158 rfl ntmps158 rfl fun D0 As η0 m0 hd=>by
  unfold Ev at hm;refine gi hm (by kernel_rfl) (fun hc1 hm=> ?_) fun hc1 hm=> ?_
  ·skip;have e0:=Option.some.inj hm;subst e0;exact AH hd (by kernel_rfl)
  obtain⟨x1,q1,hm⟩:=Aa hm;refine gc (fun _=>JG q1) (by kernel_rfl) ?_;refine gi hm (by kernel_rfl) (fun hc2 hm=> ?_) fun hc2 hm=> ?_
  ·skip;have e0:=Option.some.inj hm;subst e0;exact AH hd (by kernel_rfl)
  obtain⟨x2,q2,hm⟩:=Aa hm;refine gc (fun _=>NP q2) (by kernel_rfl) ?_;have e0:=Option.some.inj hm;subst e0;exact AH hd (by kernel_rfl)
def Hb (a0:g_api_Item):Option (Bool×Int):=Ad (Ev a0 1) fun x1=>some (x1.1,x1.2)
theorem QN {a0:g_api_Item}{r:Bool×Int}(hm:Hb a0=some r):Sf prog 120 [ag (Ag a0)] (.tup [.d (.t r.1),.d (.i r.2)]):=
 sp call120 func120 rfl ntmps120 rfl fun D0 As η0 m0 hd=>by
  unfold Hb at hm;obtain⟨x1,q1,hm⟩:=Aa hm;refine gc (fun _=>KO q1) (by kernel_rfl) ?_;have e0:=Option.some.inj hm;subst e0;exact AH hd (by kernel_rfl)
def DN (a0:Am):Option (Option Am):=Ad (Ba ((a0.l_.length:Int)==0)) fun y1=>match y1 with|none=>some none|some x1=>some (some a0)
theorem IT {a0:Am}{r:Option Am}(hm:DN a0=some r):Sb prog 121 [.pb 0 0] [.box 0 [sl Ag a0.l_] 200] 1 PR (Pos r (fun r=> .tup []) (fun r=> [.box 0 [.d (.sl _ Ag r.l_)] 200]) 1) (r=none):=
 sb call121 func121 rfl ntmps121 rfl fun D0 As η0 m0 hd=>by
  unfold DN at hm;obtain⟨y1,q1,hm⟩:=Aa hm;rcases y1 with _|x1
  ·dsimp only at hm;have e0:=Option.some.inj hm;subst e0;exact LC (AW q1) (by kernel_rfl)
  dsimp only at hm;refine gc (fun _=>(AW q1).sp) (by kernel_rfl) ?_;have e0:=Option.some.inj hm;subst e0;exact Ms hd (by kernel_rfl)
def Cd (a0:Am):Option (Option (Bool×Am)):=
 Ad (Ba (decide ((a0.l_.length:Int)>0))) fun y1=>match y1 with
 |none=>some none
 |some x1=>
 Ad (idx a0.l_ 0) fun x2=>
 Ad (Hb x2) fun x3=>
 Ad (Ba (x3.2==0)) fun y2=>match y2 with
 |none=>some none
 |some x4=>
 Ad (cut a0.l_ 1 (a0.l_.length:Int)) fun x5=>
 some (some (x3.1,(⟨x5⟩:Am)))
theorem G2 {a0:Am}{r:Option (Bool×Am)}(hm:Cd a0=some r):Sb prog 119 [.pb 0 0,.fn (.func 120) [] []] [.box 0 [sl Ag a0.l_] 200] 1 PR (Pos r (fun r=> .d (.t r.1)) (fun r=> [.box 0 [.d (.sl _ Ag r.2.l_)] 200]) 1) (r=none):=
 sb call119 func119 rfl ntmps119 rfl fun D0 As η0 m0 hd=>by
  unfold Cd at hm;obtain⟨y1,q1,hm⟩:=Aa hm;rcases y1 with _|x1
  ·dsimp only at hm;have e0:=Option.some.inj hm;subst e0;exact LC (AW q1) (by kernel_rfl)
  dsimp only at hm;refine gc (fun _=>(AW q1).sp) (by kernel_rfl) ?_;obtain⟨x2,q2,hm⟩:=Aa hm;refine Ff (k:=3) (E:=Ag) (fun _=>rfl) (fun _=>q2) (by kernel_rfl) ?_;obtain⟨x3,q3,hm⟩:=Aa hm;refine gc (fun _=>QN q3) (by kernel_rfl) ?_;obtain⟨y2,q4,hm⟩:=Aa hm;rcases y2 with _|x4
  ·dsimp only at hm;have e0:=Option.some.inj hm;subst e0;exact LC (AW q4) (by kernel_rfl)
  dsimp only at hm;refine gc (fun _=>(AW q4).sp) (by kernel_rfl) ?_;obtain⟨x5,q5,hm⟩:=Aa hm;refine Vm (k:=3) (E:=Ag) (fun _=>rfl) (fun _=>q5) (by kernel_rfl) ?_;have e0:=Option.some.inj hm;subst e0;exact Ms hd (by kernel_rfl)
def C9 (a0:Am):Option (Option (g_api_Cert×Am)):=
 Ad (By a0) fun y1=>match y1 with
 |none=>some none
 |some x1=>
 Ad (AU x1.2) fun y2=>match y2 with
 |none=>some none
 |some x2=>
 Ad (AU x2.2) fun y3=>match y3 with
 |none=>some none
 |some x3=>
 Ad (DO x3.2) fun y4=>match y4 with
 |none=>some none
 |some x4=>
 Ad (Cz x4.2) fun y5=>match y5 with
 |none=>some none
 |some x5=>
 Ad (By x5.2) fun y6=>match y6 with
 |none=>some none
 |some x6=>
 Ad (By x6.2) fun y7=>match y7 with
 |none=>some none
 |some x7=>
 Ad (Cd x7.2) fun y8=>match y8 with
 |none=>some none
 |some x8=>
 Ad (By x8.2) fun y9=>match y9 with
 |none=>some none
 |some x9=>
 Ad (Cz x9.2) fun y10=>match y10 with
 |none=>some none
 |some x10=>
 Ad (DN x10.2) fun y11=>match y11 with
 |none=>some none
 |some x11=>
 some (some ((⟨x1.1,x2.1,x3.1,x4.1,x5.1,x6.1,x7.1,x8.1,x9.1,x10.1,[],(⟨0,0⟩:g_api_Sig)⟩:g_api_Cert),x11))
theorem IS {a0:Am}{r:Option (g_api_Cert×Am)}(hm:C9 a0=some r):Sb prog 71 [.pb 0 0] [.box 0 [sl Ag a0.l_] 200] 1 PR (Pos r (fun r=> .agg (List.set (((Aq r.1)).map dv) 10 (.d (.v (.slice none 0 0))))) (fun r=> [.box 0 [.d (.sl _ Ag r.2.l_)] 200]) 1) (r=none):=
 sb call71 func71 rfl ntmps71 rfl fun D0 As η0 m0 hd=>by
  unfold C9 at hm;obtain⟨y1,q1,hm⟩:=Aa hm;rcases y1 with _|x1
  ·dsimp only at hm;have e0:=Option.some.inj hm;subst e0;exact LC (Be q1) (by kernel_rfl)
  dsimp only at hm;refine gco (Be q1).sp (by kernel_rfl) ?_;obtain⟨y2,q2,hm⟩:=Aa hm;rcases y2 with _|x2
  ·dsimp only at hm;have e0:=Option.some.inj hm;subst e0;exact LC (BU q2) (by kernel_rfl)
  dsimp only at hm;refine gco (BU q2).sp (by kernel_rfl) ?_;obtain⟨y3,q3,hm⟩:=Aa hm;rcases y3 with _|x3
  ·dsimp only at hm;have e0:=Option.some.inj hm;subst e0;exact LC (BU q3) (by kernel_rfl)
  dsimp only at hm;refine gco (BU q3).sp (by kernel_rfl) ?_;obtain⟨y4,q4,hm⟩:=Aa hm;rcases y4 with _|x4
  ·dsimp only at hm;have e0:=Option.some.inj hm;subst e0;exact LC (IU q4) (by kernel_rfl)
  dsimp only at hm;refine gco (IU q4).sp (by kernel_rfl) ?_;obtain⟨y5,q5,hm⟩:=Aa hm;rcases y5 with _|x5
  ·dsimp only at hm;have e0:=Option.some.inj hm;subst e0;exact LC (DW q5) (by kernel_rfl)
  dsimp only at hm;refine gco (DW q5).sp (by kernel_rfl) ?_;obtain⟨y6,q6,hm⟩:=Aa hm;rcases y6 with _|x6
  ·dsimp only at hm;have e0:=Option.some.inj hm;subst e0;exact LC (Be q6) (by kernel_rfl)
  dsimp only at hm;refine gco (Be q6).sp (by kernel_rfl) ?_;obtain⟨y7,q7,hm⟩:=Aa hm;rcases y7 with _|x7
  ·dsimp only at hm;have e0:=Option.some.inj hm;subst e0;exact LC (Be q7) (by kernel_rfl)
  dsimp only at hm;refine gco (Be q7).sp (by kernel_rfl) ?_;obtain⟨y8,q8,hm⟩:=Aa hm;rcases y8 with _|x8
  ·dsimp only at hm;have e0:=Option.some.inj hm;subst e0;exact LC (G2 q8) (by kernel_rfl)
  dsimp only at hm;refine gco (G2 q8).sp (by kernel_rfl) ?_;obtain⟨y9,q9,hm⟩:=Aa hm;rcases y9 with _|x9
  ·dsimp only at hm;have e0:=Option.some.inj hm;subst e0;exact LC (Be q9) (by kernel_rfl)
  dsimp only at hm;refine gco (Be q9).sp (by kernel_rfl) ?_;obtain⟨y10,q10,hm⟩:=Aa hm;rcases y10 with _|x10
  ·dsimp only at hm;have e0:=Option.some.inj hm;subst e0;exact LC (DW q10) (by kernel_rfl)
  dsimp only at hm;refine gco (DW q10).sp (by kernel_rfl) ?_;obtain⟨y11,q11,hm⟩:=Aa hm;rcases y11 with _|x11
  ·dsimp only at hm;have e0:=Option.some.inj hm;subst e0;exact LC (IT q11) (by kernel_rfl)
  dsimp only at hm;refine gco (IT q11).sp (by kernel_rfl) ?_;have e0:=Option.some.inj hm;subst e0;exact Ms hd (by kernel_rfl)
theorem d1_111 (a b:Value)(w:World):CallsDIn (FW none) 0 prog 111 #[a,b] .returning w fun e u' w'=> ∃v,e= .returned v∧u'= .returning∧w'=w:=by
 refine CallsDIn.mono (TM (N:=11) (args:=[a,b]) (u:= .returning) (u':= .returning) (v:= .nilIface) (R:=fun w'=>w'=w) func111 rfl ntmps111 rfl (Nat.le_of_ble_eq_true rfl) rfl (fun c₀ cs hu=> .inr ⟨by simp[recoverD,hu],rfl,rfl⟩) ?_) fun e u2 w' ⟨x,h1,h2,_,h3⟩=>⟨x,h1,h2,h3⟩;refine Ae (Ac (l:=[_]) ?_);refine s_mv ?_;refine Af (nrm ?_);refine Ay (Ae (Ac (l:=[_]) ?_));refine AF (v:= .bool true) (w':=w) rfl (fun _ e=>by cases e) (by kernel_rfl) ?_;refine Af (nrm ?_);refine Tj rfl ?_;exact AN (Ki ⟨.inl rfl,rfl⟩)
def zd28:List D:=[.i 0,.s .empty,.s .empty,.u 0,.v (.slice none 0 0),.i 0,.i 0,.t false,.i 0,.v (.slice none 0 0),.v (.slice none 0 0),.u 0,.u 0]
theorem d2_111 (m:Mem)(As:List Ow)(w:World)(bc be:Nat)(cs es:List Value)(hc:cs.length=13)(he:es.length=1)(hc1: ∀v∈cs,v.oneCell'=true)(he1: ∀v∈es,v.oneCell'=true)(S:St m (bx bc cs 59::bx be es 30::As) w):
  CallsDIn (FW none) 0 prog 111 #[pt bc 0,pt be 0] (.panicking (chn PR)) w fun e u' w'=> ∃v,e= .returned v∧u'= .panicking [{v:=PR,recovered:=true}]∧Kd w w'∧
   ∃M zs ze,m≤M∧FRL M zd28 zs∧FR M (.i 71) ze∧St M (bx bc zs 59::bx be [ze] 30::As) w':=by
 refine TM (N:=11) (args:=[pt bc 0,pt be 0]) (u:= .panicking (chn PR)) (u':= .panicking [{v:=PR,recovered:=true}]) (v:=PR) func111 rfl ntmps111 rfl (Nat.le_of_ble_eq_true rfl) rfl (fun c₀ cs hu=> .inl (by simp[recoverD,hu,chn])) ?_;refine Ae (Ac (l:=[_]) ?_);refine s_mv ?_;refine Af (nrm ?_);refine Ay (Ae (Ac (l:=[_]) ?_));refine AF (v:= .bool false) (w':=w) rfl (fun _ e=>by cases e) (by kernel_rfl) ?_;refine Af (nrm ?_);refine Vu rfl ?_;refine Ae (Ac (l:=[_,_,_]) ?_);refine AF (v:= .tuple #[.agg #[],.bool true]) (w':=w) rfl (fun _ e=>by cases e) (by kernel_rfl) ?_;refine AF (v:= .bool true) (w':=w) rfl (fun _ e=>by cases e) (by kernel_rfl) ?_;refine AF (v:= .agg #[]) (w':=w) rfl (fun _ e=>by cases e) (by kernel_rfl) ?_;refine Af (nrm ?_);refine Tj rfl ?_;let η0:Env:=fun n=>if n=0 then some (pt bc 0)else if n=1 then some (pt be 0)else none;have h0:η0 0=some (pt bc 0):=rfl;have h1:η0 1=some (pt be 0):=rfl;have hd: ∀n,η0 n≠none→n<2:=fun n h=>by
  show n<2;have h:(if n=0 then some (pt bc 0)else if n=1 then some (pt be 0)else none)≠none:=h;split at h
  ·omega
  ·split at h
   ·omega
   ·exact absurd rfl h
 have ho:=fun(l:List Value) (v:Value) (hv:v∈l) (q: ∀v∈l,v.oneCell'=true)=>q v hv;let s0:AS:=⟨[(0,.pb 0 0),(1,.pb 1 0)],[(0,.box 0 (List.replicate 13 .any) 59),(1,.box 1 [.any] 30)],[],2⟩;have any_rel: ∀{n:Nat} {l:List Value},l.length=n→Bq η0 m (List.replicate n .any) l:=fun hl=>⟨by simp[hl],fun k c u a b=>by
  rw[List.getElem?_replicate]at a;split at a
  ·cases a; exact .any _
  ·cases a⟩
 have S2:St m (rep η0 m (.box 0 (List.replicate 13 .any) 59)::rep η0 m (.box 1 [.any] 30)::As) w:=by
  have T:=St.closeBox h0 (any_rel hc) hc1 S;have T2:=T.perm (List.Perm.swap _ _ _);have T3:=St.closeBox h1 (any_rel (n:=1) he) he1 T2;exact T3.perm (List.Perm.swap _ _ _)
 refine Il (Q:=Ax.pk none prog 11 (w,[],true) (outG (Rl As η0 m (fun _:Unit=>⟨[],[(0,.box 0 (zd28.map .d) 59),(1,.box 1 [.d (.i 71)] 30)],[],2⟩) (fun _=>True)) PR (fun _ _=>False)) [.blk 0]) ?_ (gat s0 (η:=η0) (m:=m) ?_ (gretG () trivial hd (by kernel_rfl)))
 ·intro e f' w' q;have fin:Rl As η0 m (fun _:Unit=>⟨[],[(0,.box 0 (zd28.map .d) 59),(1,.box 1 [.d (.i 71)] 30)],[],2⟩) (fun _=>True) f' w'→∃M zs ze,m≤M∧FRL M zd28 zs∧FR M (.i 71) ze∧St M (bx bc zs 59::bx be [ze] 30::As) w':=
   fun⟨_,_,η,M,le,l,gm⟩=>let ⟨zs,ze,a,b,c⟩:=VH h0 h1 le gm; ⟨M,zs,ze,l,a,b,c⟩
  cases e with
  |normal=>exact⟨.inl rfl,fin q⟩
  |ret=>exact⟨.inr rfl,fin q⟩
  |exit id=>
   have q:(bif Nat.beq id 0 then Rl As η0 m (fun _:Unit=>⟨[],[(0,.box 0 (zd28.map .d) 59),(1,.box 1 [.d (.i 71)] 30)],[],2⟩) (fun _=>True) f' w' else False):=q;cases hb:Nat.beq id 0
   ·rw[hb]at q; exact q.elim
   ·rw[hb]at q;refine(show Mq 0 _ (.exit id) f' w' from ?_);simp only[Mq,hb,cond_true];exact⟨by simp,fin q⟩
  |goto l=>exact q.elim
  |panic ch=>exact q.2.elim
  |outgrown=>exact q.elim
 ·refine⟨fun t=> ?_,fun n d h=>(by cases h),hd,S2,?_,fun t ht=> ?_⟩
  ·match t with
   |0=>exact .pb h0
   |1=>exact .pb h1
   |t+2=>exact .any _
  ·show [0,1].Nodup; decide
  ·have:t∈[0,1]:=ht;show t<2;simp at this; omega
def EC (a0:List UInt8)(x1:g_api_Item×Int×Int):Option (Option (g_api_Cert×Int)):=
 Ad (Ba (x1.2.1==(a0.length:Int))) fun y1=>match y1 with
 |none=>some none
 |some x2=>
 Ad (I1 x1.1) fun y2=>match y2 with
 |none=>some none
 |some x3=>
 Ad (C9 x3) fun y3=>match y3 with
 |none=>some none
 |some x4=>
 Ad (EN (⟨x4.1.Serial,x4.1.Issuer,x4.1.Subject,x4.1.Key,x4.1.Names,x4.1.From,x4.1.Until,x4.1.Ca,x4.1.Depth,x4.1.Permit,[],x4.1.Sig⟩:g_api_Cert)) fun x5=>
 Ad (Ba (x5==0)) fun y4=>match y4 with
 |none=>some none
 |some x6=>
 some (some ((⟨x4.1.Serial,x4.1.Issuer,x4.1.Subject,x4.1.Key,x4.1.Names,x4.1.From,x4.1.Until,x4.1.Ca,x4.1.Depth,x4.1.Permit,[],x4.1.Sig⟩:g_api_Cert),0))
def GZ (a0:List UInt8):Option (g_api_Cert×Int):=Ad (JX a0 0) fun x1=>if(x1.2.2 !=0)=true then some ((⟨0,ByteArray.empty,ByteArray.empty,0,[],0,0,false,0,[],[],(⟨0,0⟩:g_api_Sig)⟩:g_api_Cert),x1.2.2)else Ad (EC a0 x1) fun z=>some (match z with|none=>((⟨0,ByteArray.empty,ByteArray.empty,0,[],0,0,false,0,[],[],(⟨0,0⟩:g_api_Sig)⟩:g_api_Cert),71)|some c=>c)
theorem NS {a0:List UInt8}{r:g_api_Cert×Int}(hm:GZ a0=some r):Sf prog 70 [sl eB a0,.fn (.func 71) [] []] (.tup [ag (Aq r.1),.d (.i r.2)]):=by
 unfold GZ at hm;obtain⟨x1,q1,hm⟩:=Aa hm;refine get_of (N:=33) (nc:=13) (tc:=59) (te:=30) (zd:=[.i 0,.s ByteArray.empty,.s ByteArray.empty,.u 0,.v (.slice none 0 0),.i 0,.i 0,.t false,.i 0,.v (.slice none 0 0),.v (.slice none 0 0),.u 0,.u 0]) (ev0:= .i 71) (ov:=PR) (ok1:=((x1.2.2 !=0))=false) (okX:=((x1.2.2 !=0))=false∧EC a0 x1=some none) (okE:=fun c=>((x1.2.2 !=0))=false∧EC a0 x1=some (some c)) (JE:=fun(c:g_api_Cert×Int)=>⟨[(4,.pb 0 0),(5,.pb 1 0)],[(0,.box 0 [.d (.i c.1.Serial),.d (.s c.1.Issuer),.d (.s c.1.Subject),.d (.u c.1.Key),sl eS c.1.Names,.d (.i c.1.From),.d (.i c.1.Until),.d (.t c.1.Ca),.d (.i c.1.Depth),sl eS c.1.Permit,sl Ai c.1.Proms,.d (.u c.1.Sig.E),.d (.u c.1.Sig.S)] 59),(1,.box 1 [.d (.i c.2)] 30)],[],2⟩) (J1:=⟨[(0,sl eB a0),(1,.fn (.func 71) [] []),(4,.pb 0 0),(5,.pb 1 0),(6,.pb 2 0),(7,.d (.i x1.2.1))],[(0,.box 2 [.d (.i x1.1.Tag),sl eB x1.1.B,sl Ag x1.1.L] 159),(1,.box 1 [.d (.i x1.2.2)] 30),(2,.box 0 [.d (.i 0),.d (.s ByteArray.empty),.d (.s ByteArray.empty),.d (.u 0),sl eS [],.d (.i 0),.d (.i 0),.d (.t false),.d (.i 0),sl eS [],sl Ai [],.d (.u 0),.d (.u 0)] 59)],[],3⟩) call70 call111 func70 rfl ntmps70 rfl rfl ⟨rfl,rfl⟩ rfl ?_ ?_ ?_ (fun c hc=>rfl) ?_ (d1_111) (d2_111)
 ·intro D0 As η0 m0 Jp hd bk;refine G.h ?_;refine gc (fun _=>VB q1) (by kernel_rfl) ?_;refine gi hm (by kernel_rfl) (fun hc1 hm=> ?_) fun hc1 hm=> ?_
  ·skip;have e0:=Option.some.inj hm;subst e0;exact AH hd (by kernel_rfl)
  exact gb bk hd () hc1 (by kernel_rfl)
 ·intro hok D0 As η0 m0 hd;refine G.h ?_;rw[if_neg (by rw[hok]; decide)]at hm;obtain⟨z,hz,hm⟩:=Aa hm;have hz2:=hz;unfold EC at hz2;obtain⟨y1,q2,hz2⟩:=Aa hz2;rcases y1 with _|x2
  ·dsimp only at hz2;have e0:=Option.some.inj hz2;subst e0;exact Zq (AW q2) ⟨hok,hz⟩ hd (by kernel_rfl) (by kernel_rfl)
  dsimp only at hz2;refine gc (fun _=>(AW q2).sp) (by kernel_rfl) ?_;obtain⟨y2,q3,hz2⟩:=Aa hz2;rcases y2 with _|x3
  ·dsimp only at hz2;have e0:=Option.some.inj hz2;subst e0;exact Zq (QQ q3) ⟨hok,hz⟩ hd (by kernel_rfl) (by kernel_rfl)
  dsimp only at hz2;refine gco (QQ q3).sp (by kernel_rfl) ?_;obtain⟨y3,q4,hz2⟩:=Aa hz2;rcases y3 with _|x4
  ·dsimp only at hz2;have e0:=Option.some.inj hz2;subst e0;exact Zq (IS q4) ⟨hok,hz⟩ hd (by kernel_rfl) (by kernel_rfl)
  dsimp only at hz2;refine gco (IS q4).sp (by kernel_rfl) ?_;obtain⟨x5,q5,hz2⟩:=Aa hz2;refine gc (fun _=>LQ q5) (by kernel_rfl) ?_;obtain⟨y4,q6,hz2⟩:=Aa hz2;rcases y4 with _|x6
  ·dsimp only at hz2;have e0:=Option.some.inj hz2;subst e0;exact Zq (AW q6) ⟨hok,hz⟩ hd (by kernel_rfl) (by kernel_rfl)
  dsimp only at hz2;refine gc (fun _=>(AW q6).sp) (by kernel_rfl) ?_;have e0:=Option.some.inj hz2;subst e0;exact gretG _ ⟨hok,hz⟩ hd (by kernel_rfl)
 ·rintro c ⟨hC,hz⟩ D0 As η0 m0 hd;rw[if_neg (by rw[hC]; decide),hz]at hm;have e0:c=r:=Option.some.inj hm;subst e0;exact G.h (AH hd (by kernel_rfl))
 ·rintro⟨hC,hz⟩ D0 As η0 m0 hd;rw[if_neg (by rw[hC]; decide),hz]at hm;have e0:((⟨0,ByteArray.empty,ByteArray.empty,0,[],0,0,false,0,[],[],(⟨0,0⟩:g_api_Sig)⟩:g_api_Cert),71)=r:=Option.some.inj hm;subst e0;exact G.h (AH hd (by kernel_rfl))
def Ea (a0:List UInt8):Option (g_api_Cert×Int):=Ad (GZ a0) fun x1=>some (x1.1,x1.2)
theorem Pc {a0:List UInt8}{r:g_api_Cert×Int}(hm:Ea a0=some r):Sf prog 39 [sl eB a0] (.tup [ag (Aq r.1),.d (.i r.2)]):=
 sp call39 func39 rfl ntmps39 rfl fun D0 As η0 m0 hd=>by
  unfold Ea at hm;obtain⟨x1,q1,hm⟩:=Aa hm;refine gc (fun _=>NS q1) (by kernel_rfl) ?_;have e0:=Option.some.inj hm;subst e0;exact AH hd (by kernel_rfl)
def Cj (a0:Aj)(a1:Int)(i1:Int)(s1:(List g_api_Cert)):Option ((List g_api_Cert)):=Ad (idx a0.L (i1:Int)) fun x5=>Ad (Ad (Bc a0.Hide (i1:Int)) fun x7=>if(x7.2&&(a1==1))=true then Ad (AT ([([0]:List UInt8),x5.Body]:List (List UInt8))) fun x8=>some x8 else some x5.Body) fun x6=>Ad (Ea x6) fun x9=>Ad (app 168 s1 ([x9.1]:List g_api_Cert)) fun x10=>some x10
def BR (a0:Aj)(a1:Int):Option ((List g_api_Cert)×Int):=Ad (Dq a0 a1) fun x1=>if(x1.2 !=0)=true then some (([]:List g_api_Cert),x1.2)else Ad (Ad (Bu (Cj a0 a1) a0.L.length 0 ([]:List g_api_Cert)) fun x3=>some x3) fun x2=>some (x2,0)
theorem FY {a0:Aj}{a1:Int}{r:(List g_api_Cert)×Int}(hm:BR a0 a1=some r):Sp prog 13 [ag (Cl a0),.d (.i a1)] [] 0 (is (.tup [.ow 0,.d (.i r.2)]) [.row 0 13 _ Aq r.1] 1):=
 sp call13 func13 rfl ntmps13 rfl fun D0 As η0 m0 hd=>by
  unfold BR at hm;obtain⟨x1,q1,hm⟩:=Aa hm;refine gco (KM q1) (by kernel_rfl) ?_;refine gi hm (by kernel_rfl) (fun hc1 hm=> ?_) fun hc1 hm=> ?_
  ·skip;refine AaL Aq 4 13 (by kernel_rfl) ?_;have e0:=Option.some.inj hm;subst e0;exact AH hd (by kernel_rfl)
  obtain⟨x2,q2,hm⟩:=Aa hm;obtain⟨x3,q3,q2⟩:=Aa q2;refine P6 0 Aq 8 13 (by kernel_rfl) ?_;refine Mr 0 (E:=Ak) (xs:=a0.L) 26 (by kernel_rfl) fun hle1=> ?_;refine gjU 0 (fun(_:Unit)=>⟨[(8,.ow 1),(2,.pb 0 0)],[(0,.row 1 13 _ Aq x2),(1,.box 0 [.d (.i a0.Id),.d (.u a0.Key),.d (.i a0.Delay),sl Ak a0.L,sl eI a0.Hide,sl Ak a0.Wait] 26)],[],2⟩) (fun _=>True) (by kernel_rfl) (fun Jp bk1=> ?_) fun _ _=> ?_
  ·refine gjU 0 (fun(_:Unit)=>⟨[(8,.ow 1),(2,.pb 0 0)],[(0,.row 1 13 _ Aq x3),(1,.box 0 [.d (.i a0.Id),.d (.u a0.Key),.d (.i a0.Delay),sl Ak a0.L,sl eI a0.Hide,sl Ak a0.Wait] 26)],[],2⟩) (fun _=>True) (by kernel_rfl) (fun Jp bk2=> ?_) fun _ _=> ?_
   ·refine gl hd (fun(p:Int×((List g_api_Cert)))=>let (p0,p_0):=p; ⟨[(1,.d (.i a1)),(2,.pb 0 0),(8,.ow 1),(26,sl Ak a0.L),(27,.d (.i (a0.L.length:Int))),(28,.d (.i p0))],[(0,.row 1 13 _ Aq p_0),(1,.box 0 [.d (.i a0.Id),.d (.u a0.Key),.d (.i a0.Delay),sl Ak a0.L,sl eI a0.Hide,sl Ak a0.Wait] 26)],[],2⟩) (fun p=> ∃i:Nat,p.1=(i:Int)∧i≤a0.L.length∧Bu (Cj a0 a1) (a0.L.length-i) (i:Int) p.2=some x3) (fun p=>a0.L.length-p.1.toNat) (0,([]:List g_api_Cert)) ⟨0,rfl,Nat.zero_le _,q3⟩ (by kernel_rfl) ?_;rintro⟨_,s1⟩ ⟨i1,rfl,hi,q4⟩ Jl bl1;refine gi' (b:=decide ((i1:Int)<(a0.L.length:Int))) (by kernel_rfl) (fun hc3=> ?_) fun hc3=> ?_
    ·have hlt1:i1<a0.L.length:=by have:=of_decide_eq_true hc3; omega
     obtain⟨y1,q6,q5⟩:=Ds q4 hlt1;unfold Cj at q6;obtain⟨x5,q8,q6⟩:=Aa q6;refine Ff (k:=2) (E:=Ak) (fun _=>rfl) (fun _=>q8) (by kernel_rfl) ?_;obtain⟨x6,q9,q6⟩:=Aa q6;obtain⟨x7,q10,q9⟩:=Aa q9;refine gc (fun _=>Hh q10) (by kernel_rfl) ?_;refine gj (fun(_:Unit)=>⟨[(1,.d (.i a1)),(2,.pb 0 0),(8,.ow 1),(11,sl eB x6),(26,sl Ak a0.L),(27,.d (.i (a0.L.length:Int))),(28,.d (.i (i1:Int))),(10,.pb 2 0)],[(0,.box 2 [sl eB x5.Body,.d (.i x5.At)] 79),(1,.row 1 13 _ Aq s1),(2,.box 0 [.d (.i a0.Id),.d (.u a0.Key),.d (.i a0.Delay),sl Ak a0.L,sl eI a0.Hide,sl Ak a0.Wait] 26)],[],3⟩) (fun _=>True) (by kernel_rfl) (fun Jp bk3=> ?_) fun _ _=> ?_
     ·refine gi q9 (by kernel_rfl) (fun hc2 q9=> ?_) fun hc2 q9=> ?_
      ·refine CD (k:=1) eB ([0]:List UInt8) (fun _=>rfl) (by kernel_rfl) ?_;refine CD (k:=1) (eL eB) ([([0]:List UInt8),x5.Body]:List (List UInt8)) (fun _=>rfl) (by kernel_rfl) ?_;obtain⟨x8,q11,q9⟩:=Aa q9;refine gco (Dy q11) (by kernel_rfl) ?_;have e0:=Option.some.inj q9;subst e0;exact gb bk3 hd () trivial (by kernel_rfl)
      have e0:=Option.some.inj q9;subst e0;exact gb bk3 hd () trivial (by kernel_rfl)
     obtain⟨x9,q12,q6⟩:=Aa q6;refine gc (fun _=>Pc q12) (by kernel_rfl) ?_;refine CD (k:=13) Aq ([x9.1]:List g_api_Cert) (fun _=>rfl) (by kernel_rfl) ?_;obtain⟨x10,q13,q6⟩:=Aa q6;refine Qv (k:=13) (E:=Aq) (fun _=>rfl) q13 (by kernel_rfl) ?_;have e0:=Option.some.inj q6;subst e0;exact gb bl1 hd (w64 ((i1:Int)+1),x10) ⟨⟨i1+1,AY hlt1 hle1,by omega,q5⟩,GK hlt1 hle1⟩ (by kernel_rfl)
    have hlt1: ¬i1<a0.L.length:=by have:=of_decide_eq_false hc3; omega
    have e:=Eq.symm (CO q4 hlt1);subst e;exact gb bk2 hd () trivial (by kernel_rfl)
   have e0:=Option.some.inj q2;subst e0;exact gb bk1 hd () trivial (by kernel_rfl)
  have e0:=Option.some.inj hm;subst e0;exact AH hd (by kernel_rfl)
theorem NC {a0:Aj}{a1:Int}{r:(List g_api_Cert)×Int}(hm:BR a0 a1=some r):Sf prog 13 [ag (Cl a0),.d (.i a1)] (.tup [sl Aq r.1,.d (.i r.2)]):=Sp.fz (FY hm) (by kernel_rfl)
def HY (a0:List Int)(a1:List Int)(s1:Int):Option ((Int)⊕((Unit)⊕Bool)):=if(decide (s1<(a0.length:Int)))=true then Ad (idx a0 s1) fun x3=>Ad (idx a1 s1) fun x4=>if(x3 !=x4)=true then some (.inr (.inr false))else some (.inl (w64 (s1+1)))else some (.inr (.inl ()))
def FH (a0:List Int)(a1:List Int):Option Bool:=if((a0.length:Int) !=(a1.length:Int))=true then some false else Ad (iter (HY a0 a1) Dx 0) fun x1=>match x1 with| .inr r=>some r| .inl y1=>some true
theorem Io {a0:List Int}{a1:List Int}{r:Bool}(hm:FH a0 a1=some r):Sf prog 18 [sl eI a0,sl eI a1] (.d (.t r)):=
 sp call18 func18 rfl ntmps18 rfl fun D0 As η0 m0 hd=>by
  unfold FH at hm;refine gi hm (by kernel_rfl) (fun hc1 hm=> ?_) fun hc1 hm=> ?_
  ·skip;have e0:=Option.some.inj hm;subst e0;exact AH hd (by kernel_rfl)
  obtain⟨x1,q1,hm⟩:=Aa hm;refine gjU 0 (fun(y1:Unit)=>⟨[],[],[],0⟩) (fun y1=>x1= .inl y1) (by kernel_rfl) (fun Jp bk1=> ?_) fun y1 hy=> ?_
  ·refine gl hd (fun(p:Nat×(Int))=>let (p0,p_0):=p; ⟨[(0,sl eI a0),(1,sl eI a1),(5,.d (.i p_0))],[],[],0⟩) (fun p=>iter (HY a0 a1) p.1 p.2=some x1) (fun p=>p.1) (Dx,0) q1 (by kernel_rfl) ?_;rintro⟨n1,s1⟩ q2 Jl bl1;cases n1 with
   |zero=>exact(Bt q2).elim
   |succ n1=>
    obtain⟨y2,q4,q3⟩:=Bn q2;unfold HY at q4;refine gi q4 (by kernel_rfl) (fun hc2 q4=> ?_) fun hc2 q4=> ?_
    ·skip;obtain⟨x3,q6,q4⟩:=Aa q4;refine Ff (k:=1) (E:=eI) (fun _=>rfl) (fun _=>q6) (by kernel_rfl) ?_;obtain⟨x4,q7,q4⟩:=Aa q4;refine Ff (k:=1) (E:=eI) (fun _=>rfl) (fun _=>q7) (by kernel_rfl) ?_;refine gi q4 (by kernel_rfl) (fun hc3 q4=> ?_) fun hc3 q4=> ?_
     ·skip;cases q4;rcases q3 with ⟨sn,e,_⟩|e
      ·cases e
      cases e;dsimp only at hm;have e0:=Option.some.inj hm;subst e0;exact AH hd (by kernel_rfl)
     have e0:=Option.some.inj q4;subst e0;rcases q3 with ⟨sn,e,q3'⟩|e
     ·have e:=Sum.inl.inj e;subst e;exact gb bl1 hd (n1,_) ⟨q3',Nat.lt_succ_self _⟩ (by kernel_rfl)
     cases CX e
    have e0:=Option.some.inj q4;subst e0;rcases q3 with ⟨sn,e,_⟩|e
    ·cases F3 e
    have e:=Sum.inr.inj e;subst e;exact gb bk1 hd () rfl (by kernel_rfl)
  subst hy;dsimp only at hm;have e0:=Option.some.inj hm;subst e0;exact AH hd (by kernel_rfl)
def EG (a0:ByteArray)(k0:List (Ah×Int))(k1:g_api_Cert):Option (Bool×(List (Ah×Int))×g_api_Cert):=bnd (((lkG (AJ (⟨a0,k1.Key⟩:Ah)) k0).getD 0)) fun x1=>bnd ((lkG (AJ (⟨a0,k1.Key⟩:Ah)) k0).isSome) fun x2=>bnd (((!x2)||(decide (x1>k1.From)))) fun x3=>some (x3,k0,k1)
theorem JF {a0:ByteArray}{k0:List (Ah×Int)}{k1:g_api_Cert}{r:Bool×(List (Ah×Int))×g_api_Cert}(hm:EG a0 k0 k1=some r):Sp prog 47 [.d (.s a0),.pb 0 0,.pb 2 0] [.box 0 [.ow 1] 89,.hp 1 (.mg _ _ Aw D.i k0),.box 2 [.d (.i k1.Serial),.d (.s k1.Issuer),.d (.s k1.Subject),.d (.u k1.Key),sl eS k1.Names,.d (.i k1.From),.d (.i k1.Until),.d (.t k1.Ca),.d (.i k1.Depth),sl eS k1.Permit,sl Ai k1.Proms,.d (.u k1.Sig.E),.d (.u k1.Sig.S)] 59] 3 (is (.d (.t r.1)) [.box 0 [.ow 1] 89,.hp 1 (.mg _ _ Aw D.i r.2.1),.box 2 [.d (.i r.2.2.Serial),.d (.s r.2.2.Issuer),.d (.s r.2.2.Subject),.d (.u r.2.2.Key),.d (.sl _ eS r.2.2.Names),.d (.i r.2.2.From),.d (.i r.2.2.Until),.d (.t r.2.2.Ca),.d (.i r.2.2.Depth),.d (.sl _ eS r.2.2.Permit),.d (.sl _ Ai r.2.2.Proms),.d (.u r.2.2.Sig.E),.d (.u r.2.2.Sig.S)] 59] 3):=
 sp call47 func47 rfl ntmps47 rfl fun D0 As η0 m0 hd=>by
  unfold EG at hm;refine glkg (K:=Aw) (c:=D.i) k0 (⟨a0,k1.Key⟩:Ah) (AJ (⟨a0,k1.Key⟩:Ah)) 0 91 3 true (by kernel_rfl) (by kernel_rfl) (by kernel_rfl) (by kernel_rfl) (by kernel_rfl) ?_;have hm:=A6 hm;let x1:Int:=(((lkG (AJ (⟨a0,k1.Key⟩:Ah)) k0).getD 0));have hm:=A6 hm;let x2:Bool:=((lkG (AJ (⟨a0,k1.Key⟩:Ah)) k0).isSome);have hm:=A6 hm;let x3:Bool:=(((!x2)||(decide (x1>k1.From))));have e0:=Option.some.inj hm;subst e0;exact AH hd (by kernel_rfl)
def BO (a0:List ByteArray)(i1:Int)(s1:(List (Ah×Int))×Int×ByteArray×ByteArray×UInt64×(List ByteArray)×Int×Int×Bool×Int×(List ByteArray)×(List g_api_Promise)×UInt64×UInt64):Option (((List (Ah×Int))×Int×ByteArray×ByteArray×UInt64×(List ByteArray)×Int×Int×Bool×Int×(List ByteArray)×(List g_api_Promise)×UInt64×UInt64)⊕(Int×(List (Ah×Int))×g_api_Cert)):=Ad (idx a0 (i1:Int)) fun x3=>Ad (EG x3 s1.1 (⟨s1.2.1,s1.2.2.1,s1.2.2.2.1,s1.2.2.2.2.1,s1.2.2.2.2.2.1,s1.2.2.2.2.2.2.1,s1.2.2.2.2.2.2.2.1,s1.2.2.2.2.2.2.2.2.1,s1.2.2.2.2.2.2.2.2.2.1,s1.2.2.2.2.2.2.2.2.2.2.1,s1.2.2.2.2.2.2.2.2.2.2.2.1,(⟨s1.2.2.2.2.2.2.2.2.2.2.2.2.1,s1.2.2.2.2.2.2.2.2.2.2.2.2.2⟩:g_api_Sig)⟩:g_api_Cert)) fun x4=>if x4.1=true then some (.inr ((i1:Int),x4.2.1,x4.2.2))else some (.inl (x4.2.1,x4.2.2.Serial,x4.2.2.Issuer,x4.2.2.Subject,x4.2.2.Key,x4.2.2.Names,x4.2.2.From,x4.2.2.Until,x4.2.2.Ca,x4.2.2.Depth,x4.2.2.Permit,x4.2.2.Proms,x4.2.2.Sig.E,x4.2.2.Sig.S))
def B1 (a0:List ByteArray)(k0:List (Ah×Int))(k1:g_api_Cert):Option (Int×(List (Ah×Int))×g_api_Cert):=Ad (GX (BO a0) a0.length 0 (k0,k1.Serial,k1.Issuer,k1.Subject,k1.Key,k1.Names,k1.From,k1.Until,k1.Ca,k1.Depth,k1.Permit,k1.Proms,k1.Sig.E,k1.Sig.S)) fun x1=>match x1 with| .inr r=>some r| .inl y1=>some ((-1),y1.1,(⟨y1.2.1,y1.2.2.1,y1.2.2.2.1,y1.2.2.2.2.1,y1.2.2.2.2.2.1,y1.2.2.2.2.2.2.1,y1.2.2.2.2.2.2.2.1,y1.2.2.2.2.2.2.2.2.1,y1.2.2.2.2.2.2.2.2.2.1,y1.2.2.2.2.2.2.2.2.2.2.1,y1.2.2.2.2.2.2.2.2.2.2.2.1,(⟨y1.2.2.2.2.2.2.2.2.2.2.2.2.1,y1.2.2.2.2.2.2.2.2.2.2.2.2.2⟩:g_api_Sig)⟩:g_api_Cert))
theorem Fh {a0:List ByteArray}{k0:List (Ah×Int)}{k1:g_api_Cert}{r:Int×(List (Ah×Int))×g_api_Cert}(hm:B1 a0 k0 k1=some r):Sp prog 77 [sl eS a0,.fn (.func 47) [] [.pb 0 0,.pb 2 0]] [.box 0 [.ow 1] 89,.hp 1 (.mg _ _ Aw D.i k0),.box 2 [.d (.i k1.Serial),.d (.s k1.Issuer),.d (.s k1.Subject),.d (.u k1.Key),sl eS k1.Names,.d (.i k1.From),.d (.i k1.Until),.d (.t k1.Ca),.d (.i k1.Depth),sl eS k1.Permit,sl Ai k1.Proms,.d (.u k1.Sig.E),.d (.u k1.Sig.S)] 59] 3 (is (.d (.i r.1)) [.box 0 [.ow 1] 89,.hp 1 (.mg _ _ Aw D.i r.2.1),.box 2 [.d (.i r.2.2.Serial),.d (.s r.2.2.Issuer),.d (.s r.2.2.Subject),.d (.u r.2.2.Key),.d (.sl _ eS r.2.2.Names),.d (.i r.2.2.From),.d (.i r.2.2.Until),.d (.t r.2.2.Ca),.d (.i r.2.2.Depth),.d (.sl _ eS r.2.2.Permit),.d (.sl _ Ai r.2.2.Proms),.d (.u r.2.2.Sig.E),.d (.u r.2.2.Sig.S)] 59] 3):=
 sp call77 func77 rfl ntmps77 rfl fun D0 As η0 m0 hd=>by
  unfold B1 at hm;obtain⟨x1,q1,hm⟩:=Aa hm;refine Mr 0 (E:=eS) (xs:=a0) 6 (by kernel_rfl) fun hle1=> ?_;refine gjU 0 (fun(y1:(List (Ah×Int))×Int×ByteArray×ByteArray×UInt64×(List ByteArray)×Int×Int×Bool×Int×(List ByteArray)×(List g_api_Promise)×UInt64×UInt64)=>let (y_0,y_1,y_2,y_3,y_4,y_5,y_6,y_7,y_8,y_9,y_10,y_11,y_12,y_13):=y1; ⟨[],[(0,.box 0 [.ow 1] 89),(1,.hp 1 (.mg _ _ Aw D.i y_0)),(2,.box 2 [.d (.i y_1),.d (.s y_2),.d (.s y_3),.d (.u y_4),sl eS y_5,.d (.i y_6),.d (.i y_7),.d (.t y_8),.d (.i y_9),sl eS y_10,sl Ai y_11,.d (.u y_12),.d (.u y_13)] 59)],[],3⟩) (fun y1=>x1= .inl y1) (by kernel_rfl) (fun Jp bk1=> ?_) fun y1 hy=> ?_
  ·refine gl hd (fun(p:Int×((List (Ah×Int))×Int×ByteArray×ByteArray×UInt64×(List ByteArray)×Int×Int×Bool×Int×(List ByteArray)×(List g_api_Promise)×UInt64×UInt64))=>let (p0,p_0,p_1,p_2,p_3,p_4,p_5,p_6,p_7,p_8,p_9,p_10,p_11,p_12,p_13):=p; ⟨[(0,sl eS a0),(1,.fn (.func 47) [] [.pb 0 0,.pb 2 0]),(7,.d (.i (a0.length:Int))),(8,.d (.i p0))],[(0,.box 0 [.ow 1] 89),(1,.hp 1 (.mg _ _ Aw D.i p_0)),(2,.box 2 [.d (.i p_1),.d (.s p_2),.d (.s p_3),.d (.u p_4),sl eS p_5,.d (.i p_6),.d (.i p_7),.d (.t p_8),.d (.i p_9),sl eS p_10,sl Ai p_11,.d (.u p_12),.d (.u p_13)] 59)],[],3⟩) (fun p=> ∃i:Nat,p.1=(i:Int)∧i≤a0.length∧GX (BO a0) (a0.length-i) (i:Int) p.2=some x1) (fun p=>a0.length-p.1.toNat) (0,(k0,k1.Serial,k1.Issuer,k1.Subject,k1.Key,k1.Names,k1.From,k1.Until,k1.Ca,k1.Depth,k1.Permit,k1.Proms,k1.Sig.E,k1.Sig.S)) ⟨0,rfl,Nat.zero_le _,q1⟩ (by kernel_rfl) ?_;rintro⟨_,s1⟩ ⟨i1,rfl,hi,q2⟩ Jl bl1;refine gi' (b:=decide ((i1:Int)<(a0.length:Int))) (by kernel_rfl) (fun hc2=> ?_) fun hc2=> ?_
   ·have hlt1:i1<a0.length:=by have:=of_decide_eq_true hc2; omega
    obtain⟨y2,q4,q3⟩:=Jq q2 hlt1;unfold BO at q4;obtain⟨x3,q6,q4⟩:=Aa q4;refine Ff (k:=1) (E:=eS) (fun _=>rfl) (fun _=>q6) (by kernel_rfl) ?_;obtain⟨x4,q7,q4⟩:=Aa q4;refine gco (JF q7) (by kernel_rfl) ?_;refine gi q4 (by kernel_rfl) (fun hc1 q4=> ?_) fun hc1 q4=> ?_
    ·skip;cases q4;rcases q3 with ⟨sn,e,_⟩|⟨tn,e,e2⟩
     ·cases e
     cases e;cases e2;dsimp only at hm;have e0:=Option.some.inj hm;subst e0;exact AH hd (by kernel_rfl)
    have e0:=Option.some.inj q4;subst e0;rcases q3 with ⟨sn,e,q3'⟩|⟨tn,e,_⟩
    ·have e:=Sum.inl.inj e;subst e;exact gb bl1 hd (w64 ((i1:Int)+1),_) ⟨⟨i1+1,AY hlt1 hle1,by omega,q3'⟩,GK hlt1 hle1⟩ (by kernel_rfl)
    cases CX e
   have hlt1: ¬i1<a0.length:=by have:=of_decide_eq_false hc2; omega
   have e:=Ib q2 hlt1;cases e;exact gb bk1 hd _ rfl (by kernel_rfl)
  subst hy;dsimp only at hm;have e0:=Option.some.inj hm;subst e0;exact AH hd (by kernel_rfl)
def BQ (a0:List ByteArray)(k0:List (Ah×Int))(k1:g_api_Cert):Option (Bool×(List (Ah×Int))×g_api_Cert):=Ad (B1 a0 k0 k1) fun x1=>some ((decide (x1.1≥0)),x1.2.1,x1.2.2)
theorem EA {a0:List ByteArray}{k0:List (Ah×Int)}{k1:g_api_Cert}{r:Bool×(List (Ah×Int))×g_api_Cert}(hm:BQ a0 k0 k1=some r):Sp prog 46 [sl eS a0,.fn (.func 47) [] [.pb 0 0,.pb 2 0]] [.box 0 [.ow 1] 89,.hp 1 (.mg _ _ Aw D.i k0),.box 2 [.d (.i k1.Serial),.d (.s k1.Issuer),.d (.s k1.Subject),.d (.u k1.Key),sl eS k1.Names,.d (.i k1.From),.d (.i k1.Until),.d (.t k1.Ca),.d (.i k1.Depth),sl eS k1.Permit,sl Ai k1.Proms,.d (.u k1.Sig.E),.d (.u k1.Sig.S)] 59] 3 (is (.d (.t r.1)) [.box 0 [.ow 1] 89,.hp 1 (.mg _ _ Aw D.i r.2.1),.box 2 [.d (.i r.2.2.Serial),.d (.s r.2.2.Issuer),.d (.s r.2.2.Subject),.d (.u r.2.2.Key),.d (.sl _ eS r.2.2.Names),.d (.i r.2.2.From),.d (.i r.2.2.Until),.d (.t r.2.2.Ca),.d (.i r.2.2.Depth),.d (.sl _ eS r.2.2.Permit),.d (.sl _ Ai r.2.2.Proms),.d (.u r.2.2.Sig.E),.d (.u r.2.2.Sig.S)] 59] 3):=
 sp call46 func46 rfl ntmps46 rfl fun D0 As η0 m0 hd=>by
  unfold BQ at hm;obtain⟨x1,q1,hm⟩:=Aa hm;refine gco (Fh q1) (by kernel_rfl) ?_;have e0:=Option.some.inj hm;subst e0;exact AH hd (by kernel_rfl)
def Fu (a0:g_api_Cert)(k0:List (Ah×Int)):Option (Bool×(List (Ah×Int))):=Ad (BQ a0.Names k0 a0) fun x1=>some (x1.1,x1.2.1)
theorem Kr {a0:g_api_Cert}{k0:List (Ah×Int)}{r:Bool×(List (Ah×Int))}(hm:Fu a0 k0=some r):Sp prog 45 [ag (Aq a0),.pb 0 0] [.box 0 [.ow 1] 89,.hp 1 (.mg _ _ Aw D.i k0)] 2 (is (.d (.t r.1)) [.box 0 [.ow 1] 89,.hp 1 (.mg _ _ Aw D.i r.2)] 2):=
 sp call45 func45 rfl ntmps45 rfl fun D0 As η0 m0 hd=>by
  unfold Fu at hm;obtain⟨x1,q1,hm⟩:=Aa hm;refine gco (EA q1) (by kernel_rfl) ?_;have e0:=Option.some.inj hm;subst e0;exact AH hd (by kernel_rfl)
def Cs (a0:List g_api_Cert)(i1:Int)(s1:(List Int)×(List (Ah×Int))):Option ((List Int)×(List (Ah×Int))):=Ad (Ad (idx a0 (i1:Int)) fun x5=>Ad (Fu x5 s1.2) fun x6=>if x6.1=true then Ad (app 8 s1.1 ([(i1:Int)]:List Int)) fun x7=>some (x7,x6.2)else some (s1.1,x6.2)) fun x4=>some (x4.1,x4.2)
def CP (a0:List g_api_Cert)(k0:List (Ah×Int)):Option ((List Int)×(List (Ah×Int))):=Ad (Ad (Bu (Cs a0) a0.length 0 (([]:List Int),k0)) fun x2=>some (x2.1,x2.2)) fun x1=>some (x1.1,x1.2)
theorem Hi {a0:List g_api_Cert}{k0:List (Ah×Int)}{r:(List Int)×(List (Ah×Int))}(hm:CP a0 k0=some r):Sp prog 44 [sl Aq a0,.fn (.func 45) [] [.pb 0 0]] [.box 0 [.ow 1] 89,.hp 1 (.mg _ _ Aw D.i k0)] 2 (is (.ow 2) [.box 0 [.ow 1] 89,.hp 1 (.mg _ _ Aw D.i r.2),.row 2 1 _ eI r.1] 3):=
 sp call44 func44 rfl ntmps44 rfl fun D0 As η0 m0 hd=>by
  unfold CP at hm;obtain⟨x1,q1,hm⟩:=Aa hm;obtain⟨x2,q2,q1⟩:=Aa q1;refine P6 0 eI 5 1 (by kernel_rfl) ?_;refine Mr 0 (E:=Aq) (xs:=a0) 8 (by kernel_rfl) fun hle1=> ?_;refine gjU 0 (fun(_:Unit)=>let (y_0,y_1):=x1; ⟨[(5,.ow 2)],[(0,.row 2 1 _ eI y_0),(1,.box 0 [.ow 1] 89),(2,.hp 1 (.mg _ _ Aw D.i y_1))],[],3⟩) (fun _=>True) (by kernel_rfl) (fun Jp bk1=> ?_) fun _ _=> ?_
  ·refine gjU 0 (fun(_:Unit)=>let (y_0,y_1):=x2; ⟨[(5,.ow 2)],[(0,.row 2 1 _ eI y_0),(1,.box 0 [.ow 1] 89),(2,.hp 1 (.mg _ _ Aw D.i y_1))],[],3⟩) (fun _=>True) (by kernel_rfl) (fun Jp bk2=> ?_) fun _ _=> ?_
   ·refine gl hd (fun(p:Int×((List Int)×(List (Ah×Int))))=>let (p0,p_0,p_1):=p; ⟨[(1,.fn (.func 45) [] [.pb 0 0]),(5,.ow 2),(8,sl Aq a0),(9,.d (.i (a0.length:Int))),(10,.d (.i p0))],[(0,.row 2 1 _ eI p_0),(1,.box 0 [.ow 1] 89),(2,.hp 1 (.mg _ _ Aw D.i p_1))],[],3⟩) (fun p=> ∃i:Nat,p.1=(i:Int)∧i≤a0.length∧Bu (Cs a0) (a0.length-i) (i:Int) p.2=some x2) (fun p=>a0.length-p.1.toNat) (0,(([]:List Int),k0)) ⟨0,rfl,Nat.zero_le _,q2⟩ (by kernel_rfl) ?_;rintro⟨_,s1⟩ ⟨i1,rfl,hi,q3⟩ Jl bl1;refine gi' (b:=decide ((i1:Int)<(a0.length:Int))) (by kernel_rfl) (fun hc2=> ?_) fun hc2=> ?_
    ·have hlt1:i1<a0.length:=by have:=of_decide_eq_true hc2; omega
     obtain⟨y1,q5,q4⟩:=Ds q3 hlt1;unfold Cs at q5;obtain⟨x4,q7,q5⟩:=Aa q5;refine gjU 1 (fun(_:Unit)=>let (y_0,y_1):=x4; ⟨[(1,.fn (.func 45) [] [.pb 0 0]),(5,.ow 2),(8,sl Aq a0),(9,.d (.i (a0.length:Int))),(10,.d (.i (i1:Int)))],[(0,.row 2 1 _ eI y_0),(1,.box 0 [.ow 1] 89),(2,.hp 1 (.mg _ _ Aw D.i y_1))],[],3⟩) (fun _=>True) (by kernel_rfl) (fun Jp bk3=> ?_) fun _ _=> ?_
     ·skip;obtain⟨x5,q8,q7⟩:=Aa q7;refine Ff (k:=13) (E:=Aq) (fun _=>rfl) (fun _=>q8) (by kernel_rfl) ?_;obtain⟨x6,q9,q7⟩:=Aa q7;refine gco (Kr q9) (by kernel_rfl) ?_;refine gi q7 (by kernel_rfl) (fun hc1 q7=> ?_) fun hc1 q7=> ?_
      ·refine CD (k:=1) eI ([(i1:Int)]:List Int) (fun _=>rfl) (by kernel_rfl) ?_;obtain⟨x7,q10,q7⟩:=Aa q7;refine Qv (k:=1) (E:=eI) (fun _=>rfl) q10 (by kernel_rfl) ?_;have e0:=Option.some.inj q7;subst e0;exact gb bk3 hd () trivial (by kernel_rfl)
      have e0:=Option.some.inj q7;subst e0;exact gb bk3 hd () trivial (by kernel_rfl)
     have e0:=Option.some.inj q5;subst e0;exact gb bl1 hd (w64 ((i1:Int)+1),(x4.1,x4.2)) ⟨⟨i1+1,AY hlt1 hle1,by omega,q4⟩,GK hlt1 hle1⟩ (by kernel_rfl)
    have hlt1: ¬i1<a0.length:=by have:=of_decide_eq_false hc2; omega
    have e:=Eq.symm (CO q3 hlt1);subst e;exact gb bk2 hd () trivial (by kernel_rfl)
   have e0:=Option.some.inj q1;subst e0;exact gb bk1 hd () trivial (by kernel_rfl)
  have e0:=Option.some.inj hm;subst e0;exact AH hd (by kernel_rfl)
def Fb (x3:AD)(i2:Int)(x6:ByteArray)(s2:(List (Ah×Int))):Option ((List (Ah×Int))):=Ad (bnd (((lkG (AJ (⟨x6,x3.Key⟩:Ah)) s2).getD 0)) fun x8=>bnd ((lkG (AJ (⟨x6,x3.Key⟩:Ah)) s2).isSome) fun x9=>if((!x9)||(decide (x3.At<x8)))=true then some (upG (AJ (⟨x6,x3.Key⟩:Ah)) ((⟨x6,x3.Key⟩:Ah),x3.At) s2)else some s2) fun x7=>some x7
def Fc (i1:Int)(x3:AD)(s1:(List (Ah×Int))):Option ((List (Ah×Int))):=Ad (Ad (CA (Fb x3) x3.Names 0 s1) fun x5=>some x5) fun x4=>some x4
def Cc (a0:List g_api_Cert)(a1:List AD):Option (List Int):=Ad (Ad (CA Fc a1 0 ([]:List (Ah×Int))) fun x2=>some x2) fun x1=>Ad (CP a0 x1) fun x10=>some x10.1
theorem C4 {a0:List g_api_Cert}{a1:List AD}{r:List Int}(hm:Cc a0 a1=some r):Sp prog 19 [sl Aq a0,sl CJ a1] [] 0 (is (.ow 0) [.row 0 1 _ eI r] 1):=
 sp call19 func19 rfl ntmps19 rfl fun D0 As η0 m0 hd=>by
  unfold Cc at hm;refine gmkg Ah Int Aw D.i (by kernel_rfl) ?_;obtain⟨x1,q1,hm⟩:=Aa hm;obtain⟨x2,q2,q1⟩:=Aa q1;refine Mr 0 (E:=CJ) (xs:=a1) 14 (by kernel_rfl) fun hle1=> ?_;refine gjU 0 (fun(_:Unit)=>⟨[(0,sl Aq a0),(5,.pb 1 0),(13,.ow 0)],[(0,.box 1 [.ow 0] 89),(1,.hp 0 (.mg _ _ Aw D.i x1))],[],2⟩) (fun _=>True) (by kernel_rfl) (fun Jp bk1=> ?_) fun _ _=> ?_
  ·refine gjU 0 (fun(_:Unit)=>⟨[(0,sl Aq a0),(5,.pb 1 0),(13,.ow 0)],[(0,.box 1 [.ow 0] 89),(1,.hp 0 (.mg _ _ Aw D.i x2))],[],2⟩) (fun _=>True) (by kernel_rfl) (fun Jp bk2=> ?_) fun _ _=> ?_
   ·refine gl hd (fun(p:Int×((List (Ah×Int))))=>let (p0,p_0):=p; ⟨[(0,sl Aq a0),(5,.pb 1 0),(14,sl CJ a1),(15,.d (.i (a1.length:Int))),(16,.d (.i p0)),(13,.ow 0)],[(0,.box 1 [.ow 0] 89),(1,.hp 0 (.mg _ _ Aw D.i p_0))],[],2⟩) (fun p=> ∃i:Nat,p.1=(i:Int)∧i≤a1.length∧CA Fc (a1.drop i) (i:Int) p.2=some x2) (fun p=>a1.length-p.1.toNat) (0,([]:List (Ah×Int))) ⟨0,rfl,Nat.zero_le _,q2⟩ (by kernel_rfl) ?_;rintro⟨_,s1⟩ ⟨i1,rfl,hi,q3⟩ Jl bl1;refine gi' (b:=decide ((i1:Int)<(a1.length:Int))) (by kernel_rfl) (fun hc3=> ?_) fun hc3=> ?_
    ·have hlt1:i1<a1.length:=by have:=of_decide_eq_true hc3; omega
     obtain⟨x3,y1,q6,q5,q4⟩:=Ew q3 hlt1;unfold Fc at q5;obtain⟨x4,q7,q5⟩:=Aa q5;refine gjU 1 (fun(_:Unit)=>⟨[(0,sl Aq a0),(5,.pb 1 0),(14,sl CJ a1),(15,.d (.i (a1.length:Int))),(16,.d (.i (i1:Int))),(13,.ow 0)],[(0,.box 1 [.ow 0] 89),(1,.hp 0 (.mg _ _ Aw D.i x4))],[],2⟩) (fun _=>True) (by kernel_rfl) (fun Jp bk3=> ?_) fun _ _=> ?_
     ·skip;refine Ff (k:=4) (E:=CJ) (fun _=>rfl) (fun _=>q6) (by kernel_rfl) ?_;obtain⟨x5,q8,q7⟩:=Aa q7;refine Mr 2 (E:=eS) (xs:=x3.Names) 21 (by kernel_rfl) fun hle2=> ?_;refine gjU 2 (fun(_:Unit)=>⟨[(0,sl Aq a0),(5,.pb 1 0),(14,sl CJ a1),(15,.d (.i (a1.length:Int))),(16,.d (.i (i1:Int))),(7,.pb 2 0),(13,.ow 0)],[(0,.box 2 [.d (.s x3.Who),sl eS x3.Names,.d (.u x3.Key),.d (.i x3.At)] 65),(1,.box 1 [.ow 0] 89),(2,.hp 0 (.mg _ _ Aw D.i x5))],[],3⟩) (fun _=>True) (by kernel_rfl) (fun Jp bk4=> ?_) fun _ _=> ?_
      ·refine gl hd (fun(p:Int×((List (Ah×Int))))=>let (p0,p_0):=p; ⟨[(0,sl Aq a0),(5,.pb 1 0),(7,.pb 2 0),(14,sl CJ a1),(15,.d (.i (a1.length:Int))),(16,.d (.i (i1:Int))),(21,sl eS x3.Names),(22,.d (.i (x3.Names.length:Int))),(23,.d (.i p0)),(13,.ow 0)],[(0,.box 2 [.d (.s x3.Who),sl eS x3.Names,.d (.u x3.Key),.d (.i x3.At)] 65),(1,.box 1 [.ow 0] 89),(2,.hp 0 (.mg _ _ Aw D.i p_0))],[],3⟩) (fun p=> ∃i:Nat,p.1=(i:Int)∧i≤x3.Names.length∧CA (Fb x3) (x3.Names.drop i) (i:Int) p.2=some x5) (fun p=>x3.Names.length-p.1.toNat) (0,s1) ⟨0,rfl,Nat.zero_le _,q8⟩ (by kernel_rfl) ?_;rintro⟨_,s2⟩ ⟨i2,rfl,hi,q9⟩ Jl bl2;refine gi' (b:=decide ((i2:Int)<(x3.Names.length:Int))) (by kernel_rfl) (fun hc2=> ?_) fun hc2=> ?_
       ·have hlt2:i2<x3.Names.length:=by have:=of_decide_eq_true hc2; omega
        obtain⟨x6,y2,q12,q11,q10⟩:=Ew q9 hlt2;unfold Fb at q11;obtain⟨x7,q13,q11⟩:=Aa q11;refine gjU 3 (fun(_:Unit)=>⟨[(0,sl Aq a0),(5,.pb 1 0),(7,.pb 2 0),(14,sl CJ a1),(15,.d (.i (a1.length:Int))),(16,.d (.i (i1:Int))),(21,sl eS x3.Names),(22,.d (.i (x3.Names.length:Int))),(23,.d (.i (i2:Int))),(13,.ow 0)],[(0,.box 2 [.d (.s x3.Who),sl eS x3.Names,.d (.u x3.Key),.d (.i x3.At)] 65),(1,.box 1 [.ow 0] 89),(2,.hp 0 (.mg _ _ Aw D.i x7))],[],3⟩) (fun _=>True) (by kernel_rfl) (fun Jp bk5=> ?_) fun _ _=> ?_
        ·skip;refine Ff (k:=1) (E:=eS) (fun _=>rfl) (fun _=>q12) (by kernel_rfl) ?_;refine glkg (K:=Aw) (c:=D.i) s2 (⟨x6,x3.Key⟩:Ah) (AJ (⟨x6,x3.Key⟩:Ah)) 0 91 3 true (by kernel_rfl) (by kernel_rfl) (by kernel_rfl) (by kernel_rfl) (by kernel_rfl) ?_;have q13:=A6 q13;let x8:Int:=(((lkG (AJ (⟨x6,x3.Key⟩:Ah)) s2).getD 0));have q13:=A6 q13;let x9:Bool:=((lkG (AJ (⟨x6,x3.Key⟩:Ah)) s2).isSome);refine gi q13 (by kernel_rfl) (fun hc1 q13=> ?_) fun hc1 q13=> ?_
         ·refine gupg (K:=Aw) (c:=D.i) s2 (⟨x6,x3.Key⟩:Ah) x3.At (AJ (⟨x6,x3.Key⟩:Ah)) 91 LB (by kernel_rfl) (by kernel_rfl) (by kernel_rfl) (by kernel_rfl) (by kernel_rfl) ?_;have e0:=Option.some.inj q13;subst e0;exact gb bk5 hd () trivial (by kernel_rfl)
         have e0:=Option.some.inj q13;subst e0;exact gb bk5 hd () trivial (by kernel_rfl)
        have e0:=Option.some.inj q11;subst e0;exact gb bl2 hd (w64 ((i2:Int)+1),x7) ⟨⟨i2+1,AY hlt2 hle2,by omega,q10⟩,GK hlt2 hle2⟩ (by kernel_rfl)
       have hlt2: ¬i2<x3.Names.length:=by have:=of_decide_eq_false hc2; omega
       have e:=Eq.symm (Dt q9 hlt2);subst e;exact gb bk4 hd () trivial (by kernel_rfl)
      have e0:=Option.some.inj q7;subst e0;exact gb bk3 hd () trivial (by kernel_rfl)
     have e0:=Option.some.inj q5;subst e0;exact gb bl1 hd (w64 ((i1:Int)+1),x4) ⟨⟨i1+1,AY hlt1 hle1,by omega,q4⟩,GK hlt1 hle1⟩ (by kernel_rfl)
    have hlt1: ¬i1<a1.length:=by have:=of_decide_eq_false hc3; omega
    have e:=Eq.symm (Dt q3 hlt1);subst e;exact gb bk2 hd () trivial (by kernel_rfl)
   have e0:=Option.some.inj q1;subst e0;exact gb bk1 hd () trivial (by kernel_rfl)
  obtain⟨x10,q16,hm⟩:=Aa hm;refine gco (Hi q16) (by kernel_rfl) ?_;have e0:=Option.some.inj hm;subst e0;exact AH hd (by kernel_rfl)
def Fv (a0:g_api_Promise)(k0:Bd)(k1:B4)(k2:List ((UInt64×UInt64)×Bool)):Option (Bool×Bd×B4×(List ((UInt64×UInt64)×Bool))):=bnd (((((a0.Log==k0.Log)&&(a0.Log==k1.Log))&&(decide ((w64 (a0.At+k1.Delay))<k0.At)))&&(!((lkG (Jn a0.Leaf) k2).getD false)))) fun x1=>some (x1,k0,k1,k2)
theorem Ks {a0:g_api_Promise}{k0:Bd}{k1:B4}{k2:List ((UInt64×UInt64)×Bool)}{r:Bool×Bd×B4×(List ((UInt64×UInt64)×Bool))}(hm:Fv a0 k0 k1 k2=some r):Sp prog 50 [ag (Ai a0),.pb 0 0,.pb 1 0,.pb 2 0] [.box 0 [.d (.i k0.Log),.d (.i k0.Size),.d (.u k0.Root.1),.d (.u k0.Root.2),.d (.i k0.At),.d (.u k0.Sig.E),.d (.u k0.Sig.S)] 42,.box 1 [.d (.i k1.Log),.d (.u k1.Key),.d (.i k1.Delay)] 45,.box 2 [.ow 3] 96,.hp 3 (.mg _ _ AM D.t k2)] 4 (is (.d (.t r.1)) [.box 0 [.d (.i r.2.1.Log),.d (.i r.2.1.Size),.d (.u r.2.1.Root.1),.d (.u r.2.1.Root.2),.d (.i r.2.1.At),.d (.u r.2.1.Sig.E),.d (.u r.2.1.Sig.S)] 42,.box 1 [.d (.i r.2.2.1.Log),.d (.u r.2.2.1.Key),.d (.i r.2.2.1.Delay)] 45,.box 2 [.ow 3] 96,.hp 3 (.mg _ _ AM D.t r.2.2.2)] 4):=
 sp call50 func50 rfl ntmps50 rfl fun D0 As η0 m0 hd=>by
  unfold Fv at hm;refine glkg (K:=AM) (c:=D.t) k2 a0.Leaf (Jn a0.Leaf) false 38 4 false (by kernel_rfl) (by kernel_rfl) (by kernel_rfl) (by kernel_rfl) (by kernel_rfl) ?_;have hm:=A6 hm;let x1:Bool:=(((((a0.Log==k0.Log)&&(a0.Log==k1.Log))&&(decide ((w64 (a0.At+k1.Delay))<k0.At)))&&(!((lkG (Jn a0.Leaf) k2).getD false))));have e0:=Option.some.inj hm;subst e0;exact AH hd (by kernel_rfl)
def B9 (a0:List g_api_Promise)(i1:Int)(s1:(List Int)×Int×Int×UInt64×UInt64×Int×UInt64×UInt64×Int×UInt64×Int×(List ((UInt64×UInt64)×Bool))):Option ((List Int)×Int×Int×UInt64×UInt64×Int×UInt64×UInt64×Int×UInt64×Int×(List ((UInt64×UInt64)×Bool))):=Ad (Ad (idx a0 (i1:Int)) fun x5=>Ad (Fv x5 (⟨s1.2.1,s1.2.2.1,(s1.2.2.2.1,s1.2.2.2.2.1),s1.2.2.2.2.2.1,(⟨s1.2.2.2.2.2.2.1,s1.2.2.2.2.2.2.2.1⟩:g_api_Sig)⟩:Bd) (⟨s1.2.2.2.2.2.2.2.2.1,s1.2.2.2.2.2.2.2.2.2.1,s1.2.2.2.2.2.2.2.2.2.2.1⟩:B4) s1.2.2.2.2.2.2.2.2.2.2.2) fun x6=>if x6.1=true then Ad (app 8 s1.1 ([(i1:Int)]:List Int)) fun x7=>some (x7,x6.2.1.Log,x6.2.1.Size,x6.2.1.Root.1,x6.2.1.Root.2,x6.2.1.At,x6.2.1.Sig.E,x6.2.1.Sig.S,x6.2.2.1.Log,x6.2.2.1.Key,x6.2.2.1.Delay,x6.2.2.2)else some (s1.1,x6.2.1.Log,x6.2.1.Size,x6.2.1.Root.1,x6.2.1.Root.2,x6.2.1.At,x6.2.1.Sig.E,x6.2.1.Sig.S,x6.2.2.1.Log,x6.2.2.1.Key,x6.2.2.1.Delay,x6.2.2.2)) fun x4=>some (x4.1,x4.2.1,x4.2.2.1,x4.2.2.2.1,x4.2.2.2.2.1,x4.2.2.2.2.2.1,x4.2.2.2.2.2.2.1,x4.2.2.2.2.2.2.2.1,x4.2.2.2.2.2.2.2.2.1,x4.2.2.2.2.2.2.2.2.2.1,x4.2.2.2.2.2.2.2.2.2.2.1,x4.2.2.2.2.2.2.2.2.2.2.2)
def Cr (a0:List g_api_Promise)(k0:Bd)(k1:B4)(k2:List ((UInt64×UInt64)×Bool)):Option ((List Int)×Bd×B4×(List ((UInt64×UInt64)×Bool))):=Ad (Ad (Bu (B9 a0) a0.length 0 (([]:List Int),k0.Log,k0.Size,k0.Root.1,k0.Root.2,k0.At,k0.Sig.E,k0.Sig.S,k1.Log,k1.Key,k1.Delay,k2)) fun x2=>some (x2.1,x2.2.1,x2.2.2.1,x2.2.2.2.1,x2.2.2.2.2.1,x2.2.2.2.2.2.1,x2.2.2.2.2.2.2.1,x2.2.2.2.2.2.2.2.1,x2.2.2.2.2.2.2.2.2.1,x2.2.2.2.2.2.2.2.2.2.1,x2.2.2.2.2.2.2.2.2.2.2.1,x2.2.2.2.2.2.2.2.2.2.2.2)) fun x1=>some (x1.1,(⟨x1.2.1,x1.2.2.1,(x1.2.2.2.1,x1.2.2.2.2.1),x1.2.2.2.2.2.1,(⟨x1.2.2.2.2.2.2.1,x1.2.2.2.2.2.2.2.1⟩:g_api_Sig)⟩:Bd),(⟨x1.2.2.2.2.2.2.2.2.1,x1.2.2.2.2.2.2.2.2.2.1,x1.2.2.2.2.2.2.2.2.2.2.1⟩:B4),x1.2.2.2.2.2.2.2.2.2.2.2)
theorem Gx {a0:List g_api_Promise}{k0:Bd}{k1:B4}{k2:List ((UInt64×UInt64)×Bool)}{r:(List Int)×Bd×B4×(List ((UInt64×UInt64)×Bool))}(hm:Cr a0 k0 k1 k2=some r):Sp prog 49 [sl Ai a0,.fn (.func 50) [] [.pb 0 0,.pb 1 0,.pb 2 0]] [.box 0 [.d (.i k0.Log),.d (.i k0.Size),.d (.u k0.Root.1),.d (.u k0.Root.2),.d (.i k0.At),.d (.u k0.Sig.E),.d (.u k0.Sig.S)] 42,.box 1 [.d (.i k1.Log),.d (.u k1.Key),.d (.i k1.Delay)] 45,.box 2 [.ow 3] 96,.hp 3 (.mg _ _ AM D.t k2)] 4 (is (.ow 4) [.box 0 [.d (.i r.2.1.Log),.d (.i r.2.1.Size),.d (.u r.2.1.Root.1),.d (.u r.2.1.Root.2),.d (.i r.2.1.At),.d (.u r.2.1.Sig.E),.d (.u r.2.1.Sig.S)] 42,.box 1 [.d (.i r.2.2.1.Log),.d (.u r.2.2.1.Key),.d (.i r.2.2.1.Delay)] 45,.box 2 [.ow 3] 96,.hp 3 (.mg _ _ AM D.t r.2.2.2),.row 4 1 _ eI r.1] 5):=
 sp call49 func49 rfl ntmps49 rfl fun D0 As η0 m0 hd=>by
  unfold Cr at hm;obtain⟨x1,q1,hm⟩:=Aa hm;obtain⟨x2,q2,q1⟩:=Aa q1;refine P6 0 eI 5 1 (by kernel_rfl) ?_;refine Mr 0 (E:=Ai) (xs:=a0) 8 (by kernel_rfl) fun hle1=> ?_;refine gjU 0 (fun(_:Unit)=>let (y_0,y_1,y_2,y_3,y_4,y_5,y_6,y_7,y_8,y_9,y_10,y_11):=x1; ⟨[(5,.ow 4)],[(0,.row 4 1 _ eI y_0),(1,.box 0 [.d (.i y_1),.d (.i y_2),.d (.u y_3),.d (.u y_4),.d (.i y_5),.d (.u y_6),.d (.u y_7)] 42),(2,.box 1 [.d (.i y_8),.d (.u y_9),.d (.i y_10)] 45),(3,.box 2 [.ow 3] 96),(4,.hp 3 (.mg _ _ AM D.t y_11))],[],5⟩) (fun _=>True) (by kernel_rfl) (fun Jp bk1=> ?_) fun _ _=> ?_
  ·refine gjU 0 (fun(_:Unit)=>let (y_0,y_1,y_2,y_3,y_4,y_5,y_6,y_7,y_8,y_9,y_10,y_11):=x2; ⟨[(5,.ow 4)],[(0,.row 4 1 _ eI y_0),(1,.box 0 [.d (.i y_1),.d (.i y_2),.d (.u y_3),.d (.u y_4),.d (.i y_5),.d (.u y_6),.d (.u y_7)] 42),(2,.box 1 [.d (.i y_8),.d (.u y_9),.d (.i y_10)] 45),(3,.box 2 [.ow 3] 96),(4,.hp 3 (.mg _ _ AM D.t y_11))],[],5⟩) (fun _=>True) (by kernel_rfl) (fun Jp bk2=> ?_) fun _ _=> ?_
   ·refine gl hd (fun(p:Int×((List Int)×Int×Int×UInt64×UInt64×Int×UInt64×UInt64×Int×UInt64×Int×(List ((UInt64×UInt64)×Bool))))=>let (p0,p_0,p_1,p_2,p_3,p_4,p_5,p_6,p_7,p_8,p_9,p_10,p_11):=p; ⟨[(1,.fn (.func 50) [] [.pb 0 0,.pb 1 0,.pb 2 0]),(5,.ow 4),(8,sl Ai a0),(9,.d (.i (a0.length:Int))),(10,.d (.i p0))],[(0,.row 4 1 _ eI p_0),(1,.box 0 [.d (.i p_1),.d (.i p_2),.d (.u p_3),.d (.u p_4),.d (.i p_5),.d (.u p_6),.d (.u p_7)] 42),(2,.box 1 [.d (.i p_8),.d (.u p_9),.d (.i p_10)] 45),(3,.box 2 [.ow 3] 96),(4,.hp 3 (.mg _ _ AM D.t p_11))],[],5⟩) (fun p=> ∃i:Nat,p.1=(i:Int)∧i≤a0.length∧Bu (B9 a0) (a0.length-i) (i:Int) p.2=some x2) (fun p=>a0.length-p.1.toNat) (0,(([]:List Int),k0.Log,k0.Size,k0.Root.1,k0.Root.2,k0.At,k0.Sig.E,k0.Sig.S,k1.Log,k1.Key,k1.Delay,k2)) ⟨0,rfl,Nat.zero_le _,q2⟩ (by kernel_rfl) ?_;rintro⟨_,s1⟩ ⟨i1,rfl,hi,q3⟩ Jl bl1;refine gi' (b:=decide ((i1:Int)<(a0.length:Int))) (by kernel_rfl) (fun hc2=> ?_) fun hc2=> ?_
    ·have hlt1:i1<a0.length:=by have:=of_decide_eq_true hc2; omega
     obtain⟨y1,q5,q4⟩:=Ds q3 hlt1;unfold B9 at q5;obtain⟨x4,q7,q5⟩:=Aa q5;refine gjU 1 (fun(_:Unit)=>let (y_0,y_1,y_2,y_3,y_4,y_5,y_6,y_7,y_8,y_9,y_10,y_11):=x4; ⟨[(1,.fn (.func 50) [] [.pb 0 0,.pb 1 0,.pb 2 0]),(5,.ow 4),(8,sl Ai a0),(9,.d (.i (a0.length:Int))),(10,.d (.i (i1:Int)))],[(0,.row 4 1 _ eI y_0),(1,.box 0 [.d (.i y_1),.d (.i y_2),.d (.u y_3),.d (.u y_4),.d (.i y_5),.d (.u y_6),.d (.u y_7)] 42),(2,.box 1 [.d (.i y_8),.d (.u y_9),.d (.i y_10)] 45),(3,.box 2 [.ow 3] 96),(4,.hp 3 (.mg _ _ AM D.t y_11))],[],5⟩) (fun _=>True) (by kernel_rfl) (fun Jp bk3=> ?_) fun _ _=> ?_
     ·skip;obtain⟨x5,q8,q7⟩:=Aa q7;refine Ff (k:=6) (E:=Ai) (fun _=>rfl) (fun _=>q8) (by kernel_rfl) ?_;obtain⟨x6,q9,q7⟩:=Aa q7;refine gco (Ks q9) (by kernel_rfl) ?_;refine gi q7 (by kernel_rfl) (fun hc1 q7=> ?_) fun hc1 q7=> ?_
      ·refine CD (k:=1) eI ([(i1:Int)]:List Int) (fun _=>rfl) (by kernel_rfl) ?_;obtain⟨x7,q10,q7⟩:=Aa q7;refine Qv (k:=1) (E:=eI) (fun _=>rfl) q10 (by kernel_rfl) ?_;have e0:=Option.some.inj q7;subst e0;exact gb bk3 hd () trivial (by kernel_rfl)
      have e0:=Option.some.inj q7;subst e0;exact gb bk3 hd () trivial (by kernel_rfl)
     have e0:=Option.some.inj q5;subst e0;exact gb bl1 hd (w64 ((i1:Int)+1),(x4.1,x4.2.1,x4.2.2.1,x4.2.2.2.1,x4.2.2.2.2.1,x4.2.2.2.2.2.1,x4.2.2.2.2.2.2.1,x4.2.2.2.2.2.2.2.1,x4.2.2.2.2.2.2.2.2.1,x4.2.2.2.2.2.2.2.2.2.1,x4.2.2.2.2.2.2.2.2.2.2.1,x4.2.2.2.2.2.2.2.2.2.2.2)) ⟨⟨i1+1,AY hlt1 hle1,by omega,q4⟩,GK hlt1 hle1⟩ (by kernel_rfl)
    have hlt1: ¬i1<a0.length:=by have:=of_decide_eq_false hc2; omega
    have e:=Eq.symm (CO q3 hlt1);subst e;exact gb bk2 hd () trivial (by kernel_rfl)
   have e0:=Option.some.inj q1;subst e0;exact gb bk1 hd () trivial (by kernel_rfl)
  have e0:=Option.some.inj hm;subst e0;exact AH hd (by kernel_rfl)
def Fe (i1:Int)(x3:UInt64×UInt64)(s1:(List ((UInt64×UInt64)×Bool))):Option ((List ((UInt64×UInt64)×Bool))):=some (upG (Jn x3) (x3,true) s1)
def Au (a0:List g_api_Promise)(a1:Bd)(a2:List (UInt64×UInt64))(a3:B4):Option (List Int):=Ad (Ad (CA Fe a2 0 ([]:List ((UInt64×UInt64)×Bool))) fun x2=>some x2) fun x1=>Ad (Cr a0 a1 a3 x1) fun x4=>some x4.1
theorem Av {a0:List g_api_Promise}{a1:Bd}{a2:List (UInt64×UInt64)}{a3:B4}{r:List Int}(hm:Au a0 a1 a2 a3=some r):Sp prog 21 [sl Ai a0,ag (LG a1),sl AM a2,ag (RE a3)] [] 0 (is (.ow 0) [.row 0 1 _ eI r] 1):=
 sp call21 func21 rfl ntmps21 rfl fun D0 As η0 m0 hd=>by
  unfold Au at hm;refine gmkg (UInt64×UInt64) Bool AM D.t (by kernel_rfl) ?_;obtain⟨x1,q1,hm⟩:=Aa hm;obtain⟨x2,q2,q1⟩:=Aa q1;refine Mr 0 (E:=AM) (xs:=a2) 13 (by kernel_rfl) fun hle1=> ?_;refine gjU 0 (fun(_:Unit)=>⟨[(0,sl Ai a0),(5,.pb 0 0),(7,.pb 1 0),(9,.pb 3 0),(12,.ow 2)],[(0,.box 3 [.ow 2] 96),(1,.hp 2 (.mg _ _ AM D.t x1)),(2,.box 1 [.d (.i a3.Log),.d (.u a3.Key),.d (.i a3.Delay)] 45),(3,.box 0 [.d (.i a1.Log),.d (.i a1.Size),.d (.u a1.Root.1),.d (.u a1.Root.2),.d (.i a1.At),.d (.u a1.Sig.E),.d (.u a1.Sig.S)] 42)],[],4⟩) (fun _=>True) (by kernel_rfl) (fun Jp bk1=> ?_) fun _ _=> ?_
  ·refine gjU 0 (fun(_:Unit)=>⟨[(0,sl Ai a0),(5,.pb 0 0),(7,.pb 1 0),(9,.pb 3 0),(12,.ow 2)],[(0,.box 3 [.ow 2] 96),(1,.hp 2 (.mg _ _ AM D.t x2)),(2,.box 1 [.d (.i a3.Log),.d (.u a3.Key),.d (.i a3.Delay)] 45),(3,.box 0 [.d (.i a1.Log),.d (.i a1.Size),.d (.u a1.Root.1),.d (.u a1.Root.2),.d (.i a1.At),.d (.u a1.Sig.E),.d (.u a1.Sig.S)] 42)],[],4⟩) (fun _=>True) (by kernel_rfl) (fun Jp bk2=> ?_) fun _ _=> ?_
   ·refine gl hd (fun(p:Int×((List ((UInt64×UInt64)×Bool))))=>let (p0,p_0):=p; ⟨[(0,sl Ai a0),(5,.pb 0 0),(7,.pb 1 0),(9,.pb 3 0),(13,sl AM a2),(14,.d (.i (a2.length:Int))),(15,.d (.i p0)),(12,.ow 2)],[(0,.box 3 [.ow 2] 96),(1,.hp 2 (.mg _ _ AM D.t p_0)),(2,.box 1 [.d (.i a3.Log),.d (.u a3.Key),.d (.i a3.Delay)] 45),(3,.box 0 [.d (.i a1.Log),.d (.i a1.Size),.d (.u a1.Root.1),.d (.u a1.Root.2),.d (.i a1.At),.d (.u a1.Sig.E),.d (.u a1.Sig.S)] 42)],[],4⟩) (fun p=> ∃i:Nat,p.1=(i:Int)∧i≤a2.length∧CA Fe (a2.drop i) (i:Int) p.2=some x2) (fun p=>a2.length-p.1.toNat) (0,([]:List ((UInt64×UInt64)×Bool))) ⟨0,rfl,Nat.zero_le _,q2⟩ (by kernel_rfl) ?_;rintro⟨_,s1⟩ ⟨i1,rfl,hi,q3⟩ Jl bl1;refine gi' (b:=decide ((i1:Int)<(a2.length:Int))) (by kernel_rfl) (fun hc1=> ?_) fun hc1=> ?_
    ·have hlt1:i1<a2.length:=by have:=of_decide_eq_true hc1; omega
     obtain⟨x3,y1,q6,q5,q4⟩:=Ew q3 hlt1;unfold Fe at q5;refine Ff (k:=2) (E:=AM) (fun _=>rfl) (fun _=>q6) (by kernel_rfl) ?_;refine gupg (K:=AM) (c:=D.t) s1 x3 true (Jn x3) 38 Ab2 (by kernel_rfl) (by kernel_rfl) (by kernel_rfl) (by kernel_rfl) (by kernel_rfl) ?_;have e0:=Option.some.inj q5;subst e0;exact gb bl1 hd (w64 ((i1:Int)+1),(upG (Jn x3) (x3,true) s1)) ⟨⟨i1+1,AY hlt1 hle1,by omega,q4⟩,GK hlt1 hle1⟩ (by kernel_rfl)
    have hlt1: ¬i1<a2.length:=by have:=of_decide_eq_false hc1; omega
    have e:=Eq.symm (Dt q3 hlt1);subst e;exact gb bk2 hd () trivial (by kernel_rfl)
   have e0:=Option.some.inj q1;subst e0;exact gb bk1 hd () trivial (by kernel_rfl)
  obtain⟨x4,q7,hm⟩:=Aa hm;refine gco (Gx q7) (by kernel_rfl) ?_;have e0:=Option.some.inj hm;subst e0;exact AH hd (by kernel_rfl)
def Ej (a0:g_api_Cert):Option ((List UInt8)×Int):=Ad (EN a0) fun x1=>if(x1 !=0)=true then some (([]:List UInt8),x1)else Ad (HJ a0) fun x2=>Ad (H6 x2) fun x3=>some (x3.1,x3.2)
theorem Mo {a0:g_api_Cert}{r:(List UInt8)×Int}(hm:Ej a0=some r):Sp prog 65 [ag (Aq a0),.fn (.func 66) [] []] [] 0 (is (.tup [.ow 0,.d (.i r.2)]) [.row 0 1 _ eB r.1] 1):=
 sp call65 func65 rfl ntmps65 rfl fun D0 As η0 m0 hd=>by
  unfold Ej at hm;obtain⟨x1,q1,hm⟩:=Aa hm;refine gc (fun _=>LQ q1) (by kernel_rfl) ?_;refine gi hm (by kernel_rfl) (fun hc1 hm=> ?_) fun hc1 hm=> ?_
  ·skip;refine AaL eB 4 1 (by kernel_rfl) ?_;have e0:=Option.some.inj hm;subst e0;exact AH hd (by kernel_rfl)
  obtain⟨x2,q2,hm⟩:=Aa hm;refine gc (fun _=>Oe q2) (by kernel_rfl) ?_;obtain⟨x3,q3,hm⟩:=Aa hm;refine gco (QL q3) (by kernel_rfl) ?_;have e0:=Option.some.inj hm;subst e0;exact AH hd (by kernel_rfl)
def Da (a0:g_api_Cert):Option ((List UInt8)×Int):=Ad (Ej a0) fun x1=>some (x1.1,x1.2)
theorem Of {a0:g_api_Cert}{r:(List UInt8)×Int}(hm:Da a0=some r):Sp prog 35 [ag (Aq a0)] [] 0 (is (.tup [.ow 0,.d (.i r.2)]) [.row 0 1 _ eB r.1] 1):=
 sp call35 func35 rfl ntmps35 rfl fun D0 As η0 m0 hd=>by
  unfold Da at hm;obtain⟨x1,q1,hm⟩:=Aa hm;refine gco (Mo q1) (by kernel_rfl) ?_;have e0:=Option.some.inj hm;subst e0;exact AH hd (by kernel_rfl)
theorem U7 {a0:g_api_Cert}{r:(List UInt8)×Int}(hm:Da a0=some r):Sf prog 35 [ag (Aq a0)] (.tup [sl eB r.1,.d (.i r.2)]):=Sp.fz (Of hm) (by kernel_rfl)
def DU (a0:UInt64):Option Int:=Ad (if(decide ((a0.toNat:Int)≥4294967296))=true then some ((DX a0 32),32)else some (a0,0)) fun x1=>Ad (if(decide ((x1.1.toNat:Int)≥65536))=true then some ((DX x1.1 16),(w64 (x1.2+16)))else some (x1.1,x1.2)) fun x2=>Ad (if(decide ((x2.1.toNat:Int)≥256))=true then some ((DX x2.1 8),(w64 (x2.2+8)))else some (x2.1,x2.2)) fun x3=>Ad (idx str_0.data.toList ((toB (x3.1.toNat:Int)).toNat:Int)) fun x4=>bnd ((w64 (x3.2+(w64 (x4.toNat:Int))))) fun x5=>some x5
theorem JJ {a0:UInt64}{r:Int}(hm:DU a0=some r):Sf prog 175 [.d (.u a0)] (.d (.i r)):=
 sp call175 func175 rfl ntmps175 rfl fun D0 As η0 m0 hd=>by
  unfold DU at hm;obtain⟨x1,q1,hm⟩:=Aa hm;refine gj (fun(_:Unit)=>let (y_0,y_1):=x1; ⟨[(0,.d (.u y_0)),(2,.d (.i y_1))],[],[],0⟩) (fun _=>True) (by kernel_rfl) (fun Jp bk1=> ?_) fun _ _=> ?_
  ·refine gi q1 (by kernel_rfl) (fun hc1 q1=> ?_) fun hc1 q1=> ?_
   ·skip;have e0:=Option.some.inj q1;subst e0;exact gb bk1 hd () trivial (by kernel_rfl)
   have e0:=Option.some.inj q1;subst e0;exact gb bk1 hd () trivial (by kernel_rfl)
  obtain⟨x2,q2,hm⟩:=Aa hm;refine gj (fun(_:Unit)=>let (y_0,y_1):=x2; ⟨[(0,.d (.u y_0)),(2,.d (.i y_1))],[],[],0⟩) (fun _=>True) (by kernel_rfl) (fun Jp bk2=> ?_) fun _ _=> ?_
  ·refine gi q2 (by kernel_rfl) (fun hc2 q2=> ?_) fun hc2 q2=> ?_
   ·skip;have e0:=Option.some.inj q2;subst e0;exact gb bk2 hd () trivial (by kernel_rfl)
   have e0:=Option.some.inj q2;subst e0;exact gb bk2 hd () trivial (by kernel_rfl)
  obtain⟨x3,q3,hm⟩:=Aa hm;refine gj (fun(_:Unit)=>let (y_0,y_1):=x3; ⟨[(0,.d (.u y_0)),(2,.d (.i y_1))],[],[],0⟩) (fun _=>True) (by kernel_rfl) (fun Jp bk3=> ?_) fun _ _=> ?_
  ·refine gi q3 (by kernel_rfl) (fun hc3 q3=> ?_) fun hc3 q3=> ?_
   ·skip;have e0:=Option.some.inj q3;subst e0;exact gb bk3 hd () trivial (by kernel_rfl)
   have e0:=Option.some.inj q3;subst e0;exact gb bk3 hd () trivial (by kernel_rfl)
  obtain⟨x4,q4,hm⟩:=Aa hm;refine Acn (fun _=>q4) (by kernel_rfl) ?_;have hm:=A6 hm;let x5:Int:=((w64 (x3.2+(w64 (x4.toNat:Int)))));have e0:=Option.some.inj hm;subst e0;exact AH hd (by kernel_rfl)
theorem QV {m:Mem}{As:List Ow}{w:World}{a0:UInt64}{r:Int}(S:St m As w)(hm:DU a0=some r):
  AB prog 175 #[vU a0] w fun v w'=> ∃(M:Mem),m≤M∧St M (As) w'∧v=vI r:=by
 refine AB.mono ((JJ hm).2 none0 m As w [vU a0] (.cons (.d (.u _)) .nil) (fun n h=>absurd rfl h) S) ?_;rintro v w' ⟨M,η',r',obs',n1,hle,_,⟨rfl,rfl,rfl⟩,hdom,hR,S'⟩;obtain rfl:=hR.i_inv;exact⟨M,hle,S',rfl⟩
def CI (a0:UInt64):Option Int:=Ad (DU a0) fun x1=>some (w64 (64-x1))
theorem JK {a0:UInt64}{r:Int}(hm:CI a0=some r):Sf prog 228 [.d (.u a0)] (.d (.i r)):=
 sp call228 func228 rfl ntmps228 rfl fun D0 As η0 m0 hd=>by
  unfold CI at hm;obtain⟨x1,q1,hm⟩:=Aa hm;refine gc (fun _=>JJ q1) (by kernel_rfl) ?_;have e0:=Option.some.inj hm;subst e0;exact AH hd (by kernel_rfl)
def Dd (x4:UInt64)(x5:UInt64)(x7:UInt64)(s1:UInt64×UInt64):Option ((UInt64×UInt64)⊕(UInt64)):=if((decide ((s1.1.toNat:Int)≥4294967296))||(decide (((s1.1*x5).toNat:Int)>(((4294967296*s1.2)+x7).toNat:Int))))=true then if(decide (((s1.2+x4).toNat:Int)≥4294967296))=true then some (.inr (s1.1-1))else some (.inl ((s1.1-1),(s1.2+x4)))else some (.inr s1.1)
def Dc (x4:UInt64)(x5:UInt64)(x8:UInt64)(s2:UInt64×UInt64):Option ((UInt64×UInt64)⊕(UInt64)):=if((decide ((s2.2.toNat:Int)≥4294967296))||(decide (((s2.2*x5).toNat:Int)>(((4294967296*s2.1)+x8).toNat:Int))))=true then if(decide (((s2.1+x4).toNat:Int)≥4294967296))=true then some (.inr (s2.2-1))else some (.inl ((s2.1+x4),(s2.2-1)))else some (.inr s2.2)
def FM (a0:UInt64)(a1:UInt64)(a2:UInt64):Option (UInt64×UInt64):=Ad (if((a2.toNat:Int)==0)=true then none else some ()) fun x1=>Ad (if(decide ((a2.toNat:Int)≤(a0.toNat:Int)))=true then none else some ()) fun x2=>if((a0.toNat:Int)==0)=true then if a2≠0 then if a2≠0 then some ((a1/a2),(a1%a2))else none else none else Ad (CI a2) fun x3=>bnd ((DX (Ho a2 ((toU x3).toNat)) 32)) fun x4=>bnd (((Ho a2 ((toU x3).toNat))&&&4294967295)) fun x5=>bnd (((Ho a0 ((toU x3).toNat))|||(DX a1 ((64-(toU x3)).toNat)))) fun x6=>bnd ((DX (Ho a1 ((toU x3).toNat)) 32)) fun x7=>bnd (((Ho a1 ((toU x3).toNat))&&&4294967295)) fun x8=>if x4≠0 then Ad (Ad (iter (Dd x4 x5 x7) Dx ((x6/x4),(x6-((x6/x4)*x4)))) fun x10=>some x10) fun x9=>bnd ((((x6*4294967296)+x7)-(x9*(Ho a2 ((toU x3).toNat))))) fun x12=>if x4≠0 then Ad (Ad (iter (Dc x4 x5 x8) Dx ((x12-((x12/x4)*x4)),(x12/x4))) fun x14=>some x14) fun x13=>bnd ((DX (((x12*4294967296)+x8)-(x13*(Ho a2 ((toU x3).toNat)))) ((toU x3).toNat))) fun x16=>some (((x9*4294967296)+x13),x16)else none else none
theorem LS {a0:UInt64}{a1:UInt64}{a2:UInt64}{r:UInt64×UInt64}(hm:FM a0 a1 a2=some r):Sf prog 181 [.d (.u a0),.d (.u a1),.d (.u a2)] (.tup [.d (.u r.1),.d (.u r.2)]):=
 sp call181 func181 rfl ntmps181 rfl fun D0 As η0 m0 hd=>by
  unfold FM at hm;obtain⟨x1,q1,hm⟩:=Aa hm;refine gj (fun(_:Unit)=>⟨[(0,.d (.u a0)),(1,.d (.u a1)),(2,.d (.u a2))],[],[],0⟩) (fun _=>True) (by kernel_rfl) (fun Jp bk1=> ?_) fun _ _=> ?_
  ·refine gi q1 (by kernel_rfl) (fun hc1 q1=> ?_) fun hc1 q1=> ?_
   ·cases q1
   have e0:=Option.some.inj q1;subst e0;exact gb bk1 hd () trivial (by kernel_rfl)
  obtain⟨x2,q2,hm⟩:=Aa hm;refine gj (fun(_:Unit)=>⟨[(0,.d (.u a0)),(1,.d (.u a1)),(2,.d (.u a2))],[],[],0⟩) (fun _=>True) (by kernel_rfl) (fun Jp bk2=> ?_) fun _ _=> ?_
  ·refine gi q2 (by kernel_rfl) (fun hc2 q2=> ?_) fun hc2 q2=> ?_
   ·cases q2
   have e0:=Option.some.inj q2;subst e0;exact gb bk2 hd () trivial (by kernel_rfl)
  refine gi hm (by kernel_rfl) (fun hc3 hm=> ?_) fun hc3 hm=> ?_
  ·skip;obtain⟨q3,hm⟩:=Ct hm;refine AaH (d:= .u a2) (r:= .u (a1/a2)) (fun h=>q3) (by kernel_rfl) ?_;obtain⟨q4,hm⟩:=Ct hm;refine AaH (d:= .u a2) (r:= .u (a1%a2)) (fun h=>q4) (by kernel_rfl) ?_;have e0:=Option.some.inj hm;subst e0;exact AH hd (by kernel_rfl)
  obtain⟨x3,q5,hm⟩:=Aa hm;refine gc (fun _=>JK q5) (by kernel_rfl) ?_;have hm:=A6 hm;let x4:UInt64:=((DX (Ho a2 ((toU x3).toNat)) 32));have hm:=A6 hm;let x5:UInt64:=(((Ho a2 ((toU x3).toNat))&&&4294967295));have hm:=A6 hm;let x6:UInt64:=(((Ho a0 ((toU x3).toNat))|||(DX a1 ((64-(toU x3)).toNat))));have hm:=A6 hm;let x7:UInt64:=((DX (Ho a1 ((toU x3).toNat)) 32));have hm:=A6 hm;let x8:UInt64:=(((Ho a1 ((toU x3).toNat))&&&4294967295));obtain⟨q11,hm⟩:=Ct hm;refine AaH (d:= .u x4) (r:= .u (x6/x4)) (fun h=>q11) (by kernel_rfl) ?_;obtain⟨x9,q12,hm⟩:=Aa hm;obtain⟨x10,q13,q12⟩:=Aa q12;refine gjU 0 (fun(_:Unit)=>⟨[(2,.d (.u (Ho a2 ((toU x3).toNat)))),(8,.d (.u (toU x3))),(9,.d (.u x4)),(10,.d (.u x5)),(11,.d (.u x6)),(13,.d (.u x7)),(14,.d (.u x8)),(15,.d (.u x9))],[],[],0⟩) (fun _=>True) (by kernel_rfl) (fun Jp bk3=> ?_) fun _ _=> ?_
  ·refine gjU 0 (fun(_:Unit)=>⟨[(2,.d (.u (Ho a2 ((toU x3).toNat)))),(8,.d (.u (toU x3))),(9,.d (.u x4)),(10,.d (.u x5)),(11,.d (.u x6)),(13,.d (.u x7)),(14,.d (.u x8)),(15,.d (.u x10))],[],[],0⟩) (fun _=>True) (by kernel_rfl) (fun Jp bk4=> ?_) fun _ _=> ?_
   ·refine gl hd (fun(p:Nat×(UInt64×UInt64))=>let (p0,p_0,p_1):=p; ⟨[(2,.d (.u (Ho a2 ((toU x3).toNat)))),(8,.d (.u (toU x3))),(9,.d (.u x4)),(10,.d (.u x5)),(11,.d (.u x6)),(13,.d (.u x7)),(14,.d (.u x8)),(15,.d (.u p_0)),(16,.d (.u p_1))],[],[],0⟩) (fun p=>iter (Dd x4 x5 x7) p.1 p.2=some x10) (fun p=>p.1) (Dx,((x6/x4),(x6-((x6/x4)*x4)))) q13 (by kernel_rfl) ?_;rintro⟨n1,s1⟩ q14 Jl bl1;cases n1 with
    |zero=>exact(Bt q14).elim
    |succ n1=>
     obtain⟨y1,q16,q15⟩:=Bn q14;unfold Dd at q16;refine gi q16 (by kernel_rfl) (fun hc4 q16=> ?_) fun hc4 q16=> ?_
     ·skip;refine gi q16 (by kernel_rfl) (fun hc5 q16=> ?_) fun hc5 q16=> ?_
      ·skip;have e0:=Option.some.inj q16;subst e0;rcases q15 with ⟨sn,e,_⟩|e
       ·cases F3 e
       have e:=Sum.inr.inj e;subst e;exact gb bk4 hd () trivial (by kernel_rfl)
      have e0:=Option.some.inj q16;subst e0;rcases q15 with ⟨sn,e,q15'⟩|e
      ·have e:=Sum.inl.inj e;subst e;exact gb bl1 hd (n1,_) ⟨q15',Nat.lt_succ_self _⟩ (by kernel_rfl)
      cases CX e
     have e0:=Option.some.inj q16;subst e0;rcases q15 with ⟨sn,e,_⟩|e
     ·cases F3 e
     have e:=Sum.inr.inj e;subst e;exact gb bk4 hd () trivial (by kernel_rfl)
   have e0:=Option.some.inj q12;subst e0;exact gb bk3 hd () trivial (by kernel_rfl)
  have hm:=A6 hm;let x12:UInt64:=((((x6*4294967296)+x7)-(x9*(Ho a2 ((toU x3).toNat)))));obtain⟨q19,hm⟩:=Ct hm;refine AaH (d:= .u x4) (r:= .u (x12/x4)) (fun h=>q19) (by kernel_rfl) ?_;obtain⟨x13,q20,hm⟩:=Aa hm;obtain⟨x14,q21,q20⟩:=Aa q20;refine gjU 2 (fun(_:Unit)=>⟨[(2,.d (.u (Ho a2 ((toU x3).toNat)))),(8,.d (.u (toU x3))),(14,.d (.u x8)),(15,.d (.u x9)),(17,.d (.u x12)),(18,.d (.u x13))],[],[],0⟩) (fun _=>True) (by kernel_rfl) (fun Jp bk5=> ?_) fun _ _=> ?_
  ·refine gjU 2 (fun(_:Unit)=>⟨[(2,.d (.u (Ho a2 ((toU x3).toNat)))),(8,.d (.u (toU x3))),(14,.d (.u x8)),(15,.d (.u x9)),(17,.d (.u x12)),(18,.d (.u x14))],[],[],0⟩) (fun _=>True) (by kernel_rfl) (fun Jp bk6=> ?_) fun _ _=> ?_
   ·refine gl hd (fun(p:Nat×(UInt64×UInt64))=>let (p0,p_0,p_1):=p; ⟨[(2,.d (.u (Ho a2 ((toU x3).toNat)))),(8,.d (.u (toU x3))),(9,.d (.u x4)),(10,.d (.u x5)),(14,.d (.u x8)),(15,.d (.u x9)),(16,.d (.u p_0)),(17,.d (.u x12)),(18,.d (.u p_1))],[],[],0⟩) (fun p=>iter (Dc x4 x5 x8) p.1 p.2=some x14) (fun p=>p.1) (Dx,((x12-((x12/x4)*x4)),(x12/x4))) q21 (by kernel_rfl) ?_;rintro⟨n2,s2⟩ q22 Jl bl2;cases n2 with
    |zero=>exact(Bt q22).elim
    |succ n2=>
     obtain⟨y2,q24,q23⟩:=Bn q22;unfold Dc at q24;refine gi q24 (by kernel_rfl) (fun hc6 q24=> ?_) fun hc6 q24=> ?_
     ·skip;refine gi q24 (by kernel_rfl) (fun hc7 q24=> ?_) fun hc7 q24=> ?_
      ·skip;have e0:=Option.some.inj q24;subst e0;rcases q23 with ⟨sn,e,_⟩|e
       ·cases F3 e
       have e:=Sum.inr.inj e;subst e;exact gb bk6 hd () trivial (by kernel_rfl)
      have e0:=Option.some.inj q24;subst e0;rcases q23 with ⟨sn,e,q23'⟩|e
      ·have e:=Sum.inl.inj e;subst e;exact gb bl2 hd (n2,_) ⟨q23',Nat.lt_succ_self _⟩ (by kernel_rfl)
      cases CX e
     have e0:=Option.some.inj q24;subst e0;rcases q23 with ⟨sn,e,_⟩|e
     ·cases F3 e
     have e:=Sum.inr.inj e;subst e;exact gb bk6 hd () trivial (by kernel_rfl)
   have e0:=Option.some.inj q20;subst e0;exact gb bk5 hd () trivial (by kernel_rfl)
  have hm:=A6 hm;let x16:UInt64:=((DX (((x12*4294967296)+x8)-(x13*(Ho a2 ((toU x3).toNat)))) ((toU x3).toNat)));have e0:=Option.some.inj hm;subst e0;exact AH hd (by kernel_rfl)
def HI (a0:UInt64×UInt64)(a1:UInt64):Option UInt64:=if((a1.toNat:Int)==0)=true then some 0 else Ad (EP a0.1 2305843009213693952) fun x1=>if a1≠0 then Ad (FM ((x1.1+(Hp x1.2 a0.2))%a1) (x1.2+a0.2) a1) fun x2=>some x2.2 else none
theorem Oc {a0:UInt64×UInt64}{a1:UInt64}{r:UInt64}(hm:HI a0 a1=some r):Sf prog 141 [ag (AM a0),.d (.u a1)] (.d (.u r)):=
 sp call141 func141 rfl ntmps141 rfl fun D0 As η0 m0 hd=>by
  unfold HI at hm;refine gi hm (by kernel_rfl) (fun hc1 hm=> ?_) fun hc1 hm=> ?_
  ·skip;have e0:=Option.some.inj hm;subst e0;exact AH hd (by kernel_rfl)
  obtain⟨x1,q1,hm⟩:=Aa hm;refine gc (fun _=>JI q1) (by kernel_rfl) ?_;refine AaM (p:=x1.2) (q:=a0.2) func180 (by kernel_rfl) (by kernel_rfl) (by kernel_rfl) (by kernel_rfl) (by kernel_rfl) ?_;obtain⟨q2,hm⟩:=Ct hm;refine AaH (d:= .u a1) (r:= .u ((x1.1+(Hp x1.2 a0.2))%a1)) (fun h=>q2) (by kernel_rfl) ?_;obtain⟨x2,q3,hm⟩:=Aa hm;refine gc (fun _=>LS q3) (by kernel_rfl) ?_;have e0:=Option.some.inj hm;subst e0;exact AH hd (by kernel_rfl)
def GL (a0:ByteArray)(a1:List (List UInt8)):Option UInt64:=Ad (CC a0 a1) fun x1=>Ad (HI x1 1152921504606845788) fun x2=>some (x2+1)
theorem MK {a0:ByteArray}{a1:List (List UInt8)}{r:UInt64}(hm:GL a0 a1=some r):Sf prog 93 [.d (.s a0),sl (eL eB) a1] (.d (.u r)):=
 sp call93 func93 rfl ntmps93 rfl fun D0 As η0 m0 hd=>by
  unfold GL at hm;obtain⟨x1,q1,hm⟩:=Aa hm;refine gc (fun _=>FZ q1) (by kernel_rfl) ?_;obtain⟨x2,q2,hm⟩:=Aa hm;refine gc (fun _=>Oc q2) (by kernel_rfl) ?_;have e0:=Option.some.inj hm;subst e0;exact AH hd (by kernel_rfl)
def Jf (a0:List UInt8):Option UInt64:=Ad (GL (⟨#[115,101,99,114,101,116]⟩:ByteArray) ([a0]:List (List UInt8))) fun x1=>some x1
theorem OS {a0:List UInt8}{r:UInt64}(hm:Jf a0=some r):Sf prog 78 [sl eB a0] (.d (.u r)):=
 sp call78 func78 rfl ntmps78 rfl fun D0 As η0 m0 hd=>by
  unfold Jf at hm;refine CD (k:=1) (eL eB) ([a0]:List (List UInt8)) (fun _=>rfl) (by kernel_rfl) ?_;obtain⟨x1,q1,hm⟩:=Aa hm;refine gc (fun _=>MK q1) (by kernel_rfl) ?_;have e0:=Option.some.inj hm;subst e0;exact AH hd (by kernel_rfl)
def Ly (a0:Int)(a1:List UInt8)(a2:Int):Option (Aj×Int):=Ad (Jf a1) fun x1=>Ad (CZ (⟨a0,x1,a2,[],[],[]⟩:Aj)) fun x2=>if(x2 !=0)=true then some ((⟨0,0,0,[],[],[]⟩:Aj),1)else some ((⟨a0,x1,a2,[],[],[]⟩:Aj),0)
theorem UB {a0:Int}{a1:List UInt8}{a2:Int}{r:Aj×Int}(hm:Ly a0 a1 a2=some r):Sf prog 51 [.d (.i a0),sl eB a1,.d (.i a2)] (.tup [ag (Cl r.1),.d (.i r.2)]):=
 sp call51 func51 rfl ntmps51 rfl fun D0 As η0 m0 hd=>by
  unfold Ly at hm;obtain⟨x1,q1,hm⟩:=Aa hm;refine gc (fun _=>OS q1) (by kernel_rfl) ?_;obtain⟨x2,q2,hm⟩:=Aa hm;refine gc (fun _=>FF q2) (by kernel_rfl) ?_;refine gi hm (by kernel_rfl) (fun hc1 hm=> ?_) fun hc1 hm=> ?_
  ·skip;have e0:=Option.some.inj hm;subst e0;exact AH hd (by kernel_rfl)
  have e0:=Option.some.inj hm;subst e0;exact AH hd (by kernel_rfl)
def J5 (a0:UInt64):Option Bool:=bnd ((((a0.toNat:Int)==0)||(decide ((a0.toNat:Int)≥1152921504606845789)))) fun x1=>some x1
theorem UA {a0:UInt64}{r:Bool}(hm:J5 a0=some r):Sf prog 86 [.d (.u a0)] (.d (.t r)):=
 sp call86 func86 rfl ntmps86 rfl fun D0 As η0 m0 hd=>by
  unfold J5 at hm;have hm:=A6 hm;let x1:Bool:=((((a0.toNat:Int)==0)||(decide ((a0.toNat:Int)≥1152921504606845789))));have e0:=Option.some.inj hm;subst e0;exact AH hd (by kernel_rfl)
def EO (a0:UInt64)(a1:UInt64)(a2:UInt64):Option UInt64:=if a2≠0 then Ad (FM (a0%a2) a1 a2) fun x1=>some x1.2 else none
theorem LR {a0:UInt64}{a1:UInt64}{a2:UInt64}{r:UInt64}(hm:EO a0 a1 a2=some r):Sf prog 182 [.d (.u a0),.d (.u a1),.d (.u a2)] (.d (.u r)):=
 sp call182 func182 rfl ntmps182 rfl fun D0 As η0 m0 hd=>by
  unfold EO at hm;obtain⟨q1,hm⟩:=Ct hm;refine AaH (d:= .u a2) (r:= .u (a0%a2)) (fun h=>q1) (by kernel_rfl) ?_;obtain⟨x1,q2,hm⟩:=Aa hm;refine gc (fun _=>LS q2) (by kernel_rfl) ?_;have e0:=Option.some.inj hm;subst e0;exact AH hd (by kernel_rfl)
theorem QT {m:Mem}{As:List Ow}{w:World}{a0:UInt64}{a1:UInt64}{a2:UInt64}{r:UInt64}(S:St m As w)(hm:EO a0 a1 a2=some r):
  AB prog 182 #[vU a0,vU a1,vU a2] w fun v w'=> ∃(M:Mem),m≤M∧St M (As) w'∧v=vU r:=by
 refine AB.mono ((LR hm).2 none0 m As w [vU a0,vU a1,vU a2] (.cons (.d (.u _)) (.cons (.d (.u _)) (.cons (.d (.u _)) .nil))) (fun n h=>absurd rfl h) S) ?_;rintro v w' ⟨M,η',r',obs',n1,hle,_,⟨rfl,rfl,rfl⟩,hdom,hR,S'⟩;obtain rfl:=hR.u_inv;exact⟨M,hle,S',rfl⟩
def BB (a0:UInt64)(a1:UInt64)(a2:UInt64):Option UInt64:=Ad (EP a1 a2) fun x1=>Ad (EO x1.1 x1.2 a0) fun x2=>some x2
theorem IP {m:Mem}{As:List Ow}{w:World}{a0:UInt64}{a1:UInt64}{a2:UInt64}{r:UInt64}(S:St m (As) w)(hm:BB a0 a1 a2=some r):
  AB Tryz.prog 143 #[vU a0,vU a1,vU a2] w fun v w'=> ∃(M:Mem),m≤M∧St M (As) w'∧v=vU r:=by
 unfold BB at hm;have L0:=Mem.rfl' m;refine Cv (args:=[vU a0,vU a1,vU a2]) Tryz.func143 rfl Tryz.ntmps143 (Nat.le_of_ble_eq_true rfl) ?_;refine Ae ?_;refine Ac ?_;refine AL (v:=vU 0) rfl ?_;refine Af ?_;refine nrm ?_;refine Ae ?_;refine Ac ?_;refine Ap (v:=vU a1) rfl ?_;refine Ap (v:=vU a2) rfl ?_;obtain⟨x1,q1,hm⟩:=Aa hm;refine CF Tryz.call179 (QU (a0:=a1) (a1:=a2) S q1) rfl ?_;rintro _ w1 ⟨m1,l1,S1,rfl⟩;replace L0:=Mem.tr L0 l1;clear S;replace S1:St _ (As) _:=S1;refine Ap (v:= .tuple #[vU x1.1,vU x1.2]) rfl ?_;refine We (i:=0) rfl rfl ?_;refine We (i:=1) rfl rfl ?_;refine AL (v:=vU x1.1) rfl ?_;refine AL (v:=vU x1.2) rfl ?_;refine Af ?_;refine nrm ?_;refine Ae ?_;refine Ac ?_;refine Ap (v:=vU x1.1) rfl ?_;refine Ap (v:=vU x1.2) rfl ?_;refine Ap (v:=vU a0) rfl ?_;obtain⟨x2,q2,hm⟩:=Aa hm;refine CF Tryz.call182 (QT (a0:=x1.1) (a1:=x1.2) (a2:=a0) S1 q2) rfl ?_;rintro _ w2 ⟨m2,l2,S2,rfl⟩;replace L0:=Mem.tr L0 l2;clear S1;replace S2:St _ (As) _:=S2;refine AL (v:=vU x2) rfl ?_;refine Af ?_;refine nrm ?_;refine A7 ?_;refine Df ?_;intro we hpd;replace S2:=St.pd S2 hpd;have e0:=Option.some.inj hm;subst e0;exact Hf [_] rfl ⟨rfl,trivial⟩ ⟨_,L0,S2,rfl⟩
theorem Lu {a0:UInt64}{a1:UInt64}{a2:UInt64}{r:UInt64}(hm:BB a0 a1 a2=some r):Sf prog 143 [.d (.u a0),.d (.u a1),.d (.u a2)] (.d (.u r)):=
 ⟨call143,fun η m As w vs hv0 hd S=>by
  have S:St m As w:=S;obtain⟨v0,u0,rfl,r0,hv1⟩:=Bq.cons_inv hv0;obtain rfl:=r0.u_inv;obtain⟨v1,u1,rfl,r1,hv2⟩:=Bq.cons_inv hv1;obtain rfl:=r1.u_inv;obtain⟨v2,u2,rfl,r2,hv3⟩:=Bq.cons_inv hv2;obtain rfl:=r2.u_inv;obtain rfl:=Bq.nil_inv hv3;refine AB.mono (IP S hm) ?_;rintro v w' ⟨M,hle,S0,rfl⟩;exact⟨M,none0,_,_,_,hle,RT hd _,⟨rfl,rfl,rfl⟩,fun n h=>absurd rfl h,(.d (.u _)),S0⟩⟩
def BY {σ:Type}(p0:σ→Bool→Option (Bool×σ))(k0:UInt64)(s1:Int×σ):Option ((Int×σ)⊕((σ)⊕(UInt64×σ))):=if(decide (s1.1≥0))=true then if(0:Int)≤s1.1 then Ad (p0 s1.2 (((k0&&&(Ho 1 s1.1.toNat)).toNat:Int) !=0)) fun x4=>if(!x4.1)=true then some (.inr (.inr (k0,x4.2)))else some (.inl ((w64 (s1.1-1)),x4.2))else none else some (.inr (.inl s1.2))
def E5 {σ:Type}(p0:σ→Bool→Option (Bool×σ))(k0:UInt64)(s0:σ):Option (UInt64×σ):=Ad (DU k0) fun x1=>Ad (iter (BY p0 k0) Dx ((w64 (x1-1)),s0)) fun x2=>match x2 with| .inr r=>some r| .inl y1=>some (k0,y1)
theorem Ln {m:Mem}{As:List Ow}{w:World}{σ:Type}{R:σ→Mem→List Ow→Prop}{p0:σ→Bool→Option (Bool×σ)}{f0:Value}{kb0:Nat}{k0:UInt64}{s0:σ}{X0:List Ow}{r:UInt64×σ}(S:St m ((bx kb0 [vU k0] 22)::(X0++As)) w)(hup: ∀{s M M' X},M≤M'→R s M X→R s M' X)(hX0:R s0 m X0)(cb0: ∀{m':Mem} {As':List Ow} {w':World} {s:σ} {X:List Ow} {b0:Bool} {r:Bool×σ},St m' (X++As') w'→R s m' X→p0 s b0=some r→Fg Tryz.prog f0 [vb b0] w' fun v w''=> ∃(M:Mem) (X':List Ow),m'≤M∧St M (X'++As') w''∧R r.2 M X'∧v=vb r.1)(fc0:f0.cells= #[f0])(hm:E5 p0 k0 s0=some r):
  AB Tryz.prog 250 #[f0,pt kb0 0] w fun v w'=> ∃(M:Mem),m≤M∧∃(X:List Ow),St M ((bx kb0 [vU r.1] 22)::(X++As)) w'∧v= .tuple #[]∧R r.2 M X:=by
 unfold E5 at hm;have L0:=Mem.rfl' m;refine Cv (args:=[f0,pt kb0 0]) Tryz.func250 rfl Tryz.ntmps250 (Nat.le_of_ble_eq_true rfl) ?_;refine Ae ?_;refine Ac ?_;refine HU (i:=0) (cs:=[vU k0]) S rfl rfl Tryz.isAgg22 Tryz.sizeOf22 rfl (fun _=>rfl) ?_;obtain⟨x1,q1,hm⟩:=Aa hm;refine CF Tryz.call175 (QV (a0:=k0) S q1) rfl ?_;rintro _ w1 ⟨m1,l1,S1,rfl⟩;replace hX0:=hup l1 hX0;replace L0:=Mem.tr L0 l1;clear S;replace S1:St _ ((bx kb0 [vU k0] 22)::(X0++As)) _:=S1;refine IX (m:=x1) (n:=1) rfl rfl ?_;refine AL (v:=vI (w64 (x1-1))) rfl ?_;refine Af ?_;refine nrm ?_;obtain⟨x2,q2,hm⟩:=Aa hm;have L1:=Mem.rfl' m1;refine KH ?_;refine AQ [3,7,8,9,10,11,12,13,14,15,16,17,18] (fun f' w'=> ∃(M1:Mem) (y1:σ) (X2:List Ow),x2= .inl y1∧m1≤M1∧St M1 ((bx kb0 [vU k0] 22)::(X2++As)) w'∧R y1 M1 X2∧BJ f' []) ?_ ?_
 ·refine Ay ?_;refine Bv [3,7,8,9,10,11,12,13,14,15,16,17,18] (fun n1 f' w'=> ∃(s1:Int×σ) (m11:Mem) (X1:List Ow),iter (BY p0 k0) n1 s1=some x2∧m1≤m11∧St m11 ((bx kb0 [vU k0] 22)::(X1++As)) w'∧R s1.2 m11 X1∧BJ f' [(3,vI s1.1)]) Dx ⟨((w64 (x1-1)),s0),m1,_,q2,L1,S1,hX0,⟨rfl,trivial⟩⟩ ?_;rintro n1 f1 w2 ho ⟨s1,m2,X1,q3,L3,S2,h1,ha⟩;obtain⟨u1,rfl⟩:=Bb (N:=19) ho ha;clear ho ha;have L2:=Mem.rfl' m2;clear S1;cases n1 with
  |zero=>exact(Bt q3).elim
  |succ n1=>
   obtain⟨y2,q5,q4⟩:=Bn q3;unfold BY at q5;refine Ae ?_;refine Ae ?_;refine Ac ?_;refine Ap (v:=vI s1.1) rfl ?_;refine Abq (m:=s1.1) (n:=0) rfl rfl ?_;refine Af ?_;refine nrm ?_;refine BE (t:=(decide (s1.1≥0))) rfl (fun hc1=> ?_) (fun hc1=> ?_)
   ·replace q5:=ifT hc1 q5;refine AN ?_;refine nrm ?_;refine Ae ?_;refine Ay ?_;refine Ae ?_;obtain⟨q7,q5⟩:=Ct q5;have HM:Gp [(11,fv f0),(12,fv (vU k0)),(13,fv (vI s1.1)),(14,fv (vU (Ho 1 s1.1.toNat))),(15,fv (vU (k0&&&(Ho 1 s1.1.toNat)))),(16,fv (vb (((k0&&&(Ho 1 s1.1.toNat)).toNat:Int) !=0)))]:=⟨mv,mv,mv,mv,mv,mv,trivial⟩;refine II HM 6 Cn rfl rfl rfl [11,12,13,14,15,16] (fun L f M w=>St M ((bx kb0 [vU k0] 22)::(X1++As)) w) (St.drew S2 _) ?_ ?_
    ·refine⟨?_,?_,?_,?_,?_,?_,trivial⟩
     ·exact flp HM rfl [] (fun _ _=>trivial) (fun _ _ q=>Ap (v:=f0) rfl q) rfl
     ·exact flp HM rfl [] (fun _ _=>trivial) (fun _ S4 q=>HU (i:=0) (cs:=[vU k0]) S4 rfl rfl Tryz.isAgg22 Tryz.sizeOf22 rfl (fun _=>rfl) q) rfl
     ·exact flp HM rfl [] (fun _ _=>trivial) (fun _ _ q=>Ap (v:=vI s1.1) rfl q) rfl
     ·exact flp HM rfl [(13,_)] (fun K _=>⟨K 2 rfl,trivial⟩) (fun _ _ q=>V4 (m:=1) (n:=s1.1) rfl rfl q7 q) rfl
     ·exact flp HM rfl [(12,_),(14,_)] (fun K _=>⟨K 1 rfl,K 3 rfl,trivial⟩) (fun _ _ q=>Aac (m:=k0) (n:=(Ho 1 s1.1.toNat)) rfl rfl q) rfl
     ·exact flp HM rfl [(15,_)] (fun K _=>⟨K 4 rfl,trivial⟩) (fun _ _ q=>Abp (m:=((k0&&&(Ho 1 s1.1.toNat)).toNat:Int)) (n:=0) rfl rfl q) rfl
    intro L f8 w9 hall ⟨m9,L16,S9,K,hO⟩;have d0:L 0=true:=hall 0 (by decide);have e5:=K 0 d0;have d5:L 5=true:=hall 5 (by decide);have e6:=K 5 d5;obtain⟨u8,rfl⟩:=Bb (N:=19) (L:=[(11,f0),(16,vb (((k0&&&(Ho 1 s1.1.toNat)).toNat:Int) !=0))]) hO ⟨e5,e6,trivial⟩;replace S9:St _ ((bx kb0 [vU k0] 22)::(X1++As)) _:=S9;replace h1:=hup L16 h1;replace L2:=Mem.tr L2 L16;clear S2;obtain⟨x4,q8,q5⟩:=Aa q5;have S10:=St.absF (L:=[bx kb0 [vU k0] 22]) (X:=X1) (As:=As) S9;refine IC rfl (cb0 S10 h1 q8) rfl ?_;rintro _ w10 ⟨m10,X3,l2,S11,h3,rfl⟩;replace S11:=St.absF (L:=X3) (X:=[bx kb0 [vU k0] 22]) (As:=As) S11;clear S10;replace L2:=Mem.tr L2 l2;replace S11:St _ ((bx kb0 [vU k0] 22)::(X3++As)) _:=S11;clear S9;refine Q1 rfl ?_;refine Af ?_;refine nrm ?_;refine BE (t:=(!x4.1)) rfl (fun hc2=> ?_) (fun hc2=> ?_)
    ·replace q5:=ifT hc2 q5;refine A7 ?_;refine blR ?_;refine thR ?_;refine thR ?_;refine blR ?_;refine thR ?_;refine Df ?_;intro we hpd;replace S11:=St.pd S11 hpd;cases q5;rcases q4 with ⟨sn,e,_⟩|e
     ·cases e
     cases e;dsimp only at hm;have e0:=Option.some.inj hm;subst e0;exact Hf [] rfl trivial ⟨_,(Mem.tr L0 (Mem.tr L3 L2)),_,S11,rfl,h3⟩
    replace q5:=ifF hc2 q5;refine AN ?_;refine Ki ?_;refine nrm ?_;refine Ac ?_;refine Ap (v:=vI s1.1) rfl ?_;refine IX (m:=s1.1) (n:=1) rfl rfl ?_;refine AL (v:=vI (w64 (s1.1-1))) rfl ?_;refine Af ?_;refine nrm ?_;have e0:=Option.some.inj q5;subst e0;rcases q4 with ⟨sn,e,q4'⟩|e
    ·cases e;exact⟨Di,_,Nat.lt_succ_self _,⟨_,m10,_,q4',Mem.tr L3 L2,S11,h3,⟨rfl,trivial⟩⟩⟩
    ·cases e
   replace q5:=ifF hc1 q5;refine Ch ?_;refine thE ?_;refine thE ?_;refine exB ?_;refine nrm ?_;have e0:=Option.some.inj q5;subst e0;rcases q4 with ⟨sn,e,_⟩|e
   ·cases e
   ·cases e;exact⟨Di,m2,_,_,rfl,Mem.tr L3 L2,S2,h1,trivial⟩
 rintro f9 w11 ho ⟨m12,y1,X2,rfl,l3,S12,h2,ha⟩;obtain⟨u9,rfl⟩:=Bb (N:=19) ho ha;clear ho ha;dsimp only at hm;replace L0:=Mem.tr L0 l3;clear S1;refine Sx ?_;intro we hpd;replace S12:=St.pd S12 hpd;have e0:=Option.some.inj hm;subst e0;exact Hf [] rfl trivial ⟨_,L0,_,S12,rfl,h2⟩
def Gi (a0:UInt64):Option UInt64:=some a0
theorem MU {m:Mem}{As:List Ow}{w:World}{a0:UInt64}{r:UInt64}(S:St m (As) w)(hm:Gi a0=some r):
  AB Tryz.prog 221 #[vU a0] w fun v w'=> ∃(M:Mem),m≤M∧∃(rk0_0:Nat),St M ((bx rk0_0 [vU r] 22)::As) w'∧v= .func (.func 250) #[] #[pt rk0_0 0]:=by
 unfold Gi at hm;have L0:=Mem.rfl' m;refine Cv (args:=[vU a0]) Tryz.func221 rfl Tryz.ntmps221 (Nat.le_of_ble_eq_true rfl) ?_;refine Ae ?_;refine Ac ?_;refine Ng S rfl ?_;intro b1 w1 S1;replace S1:St _ ((bx b1 [vU a0] 22)::As) _:=S1;clear S;refine AL (v:= .nilFunc) rfl ?_;refine Af ?_;refine nrm ?_;refine Ae ?_;refine Ac ?_;refine Lt (caps:=[pt b1 0]) rfl ?_;refine AL (v:= .func (.func 250) #[] #[pt b1 0]) rfl ?_;refine Af ?_;refine nrm ?_;refine A7 ?_;refine Df ?_;intro we hpd;replace S1:=St.pd S1 hpd;have e0:=Option.some.inj hm;subst e0;exact Hf [_] rfl ⟨rfl,trivial⟩ ⟨_,L0,_,S1,rfl⟩
def Cy {σ:Type}(p0:σ→UInt64→UInt64→Option (UInt64×σ))(a1:UInt64)(b6:Bool)(s1:UInt64×σ):Option (UInt64×σ):=Ad (p0 ((s1).2) ((s1).1) ((s1).1)) fun x3=>if b6=true then Ad (p0 x3.2 x3.1 a1) fun x4=>some (x4.1,x4.2)else some (x3.1,x3.2)
def Fm {σ:Type}(p0:σ→UInt64→UInt64→Option (UInt64×σ))(a1:UInt64)(a2:UInt64)(s0:σ):Option (UInt64×σ):=Ad (Gi a2) fun x1=>Ad (E5 (fun(s:UInt64×σ) (b0:Bool)=>Ad (Cy p0 a1 b0 s) fun y=>some (true,y)) x1 (1,s0)) fun x2=>some (x2.2.1,x2.2.2)
theorem NQ {m:Mem}{As:List Ow}{w:World}{σ:Type}{R:σ→Mem→List Ow→Prop}{p0:σ→UInt64→UInt64→Option (UInt64×σ)}{f0:Value}{a1:UInt64}{a2:UInt64}{s0:σ}{X0:List Ow}{r:UInt64×σ}(S:St m ((X0++As)) w)(hup: ∀{s M M' X},M≤M'→R s M X→R s M' X)(hX0:R s0 m X0)(cb0: ∀{m':Mem} {As':List Ow} {w':World} {s:σ} {X:List Ow} {b0:UInt64} {b1:UInt64} {r:UInt64×σ},St m' (X++As') w'→R s m' X→p0 s b0 b1=some r→Fg Tryz.prog f0 [vU b0,vU b1] w' fun v w''=> ∃(M:Mem) (X':List Ow),m'≤M∧St M (X'++As') w''∧R r.2 M X'∧v=vU r.1)(fc0:f0.cells= #[f0])(hm:Fm p0 a1 a2 s0=some r):
  AB Tryz.prog 173 #[f0,vU a1,vU a2] w fun v w'=> ∃(M:Mem),m≤M∧∃(X:List Ow),St M ((X++As)) w'∧v=vU r.1∧R r.2 M X:=by
 unfold Fm at hm;have L0:=Mem.rfl' m;refine Cv (args:=[f0,vU a1,vU a2]) Tryz.func173 rfl Tryz.ntmps173 (Nat.le_of_ble_eq_true rfl) ?_;refine Ae ?_;refine Ac ?_;refine TH S rfl fc0 ?_;intro b1 w1 S1;replace S1:St _ ((bx b1 [f0] 151)::(X0++As)) _:=S1;clear S;refine Ng S1 rfl ?_;intro b2 w2 S2;replace S2:St _ ((bx b2 [vU a1] 22)::(bx b1 [f0] 151)::(X0++As)) _:=S2;clear S1;refine AL (v:=vU 0) rfl ?_;refine Af ?_;refine nrm ?_;refine Ae ?_;refine Ac ?_;refine Ep S2 Tryz.zeroValue22 ?_;intro b3 w3 S3;replace S3:St _ ((bx b3 [vU 0] 22)::(bx b2 [vU a1] 22)::(bx b1 [f0] 151)::(X0++As)) _:=S3;clear S2;refine IB (i:=0) S3 rfl rfl rfl Tryz.sizeOf22 (G9 rfl KY) rfl ?_;intro w4 S4;replace S4:St _ ((bx b3 [vU 1] 22)::(bx b2 [vU a1] 22)::(bx b1 [f0] 151)::(X0++As)) _:=S4;clear S3;refine Af ?_;refine nrm ?_;refine Ae ?_;refine Ae ?_;refine Ac ?_;refine Ap (v:=vU a2) rfl ?_;obtain⟨x1,q1,hm⟩:=Aa hm;refine CF Tryz.call221 (MU (a0:=a2) S4 q1) rfl ?_;rintro _ w5 ⟨m1,l1,b4,S5,rfl⟩;replace hX0:=hup l1 hX0;replace L0:=Mem.tr L0 l1;clear S4;replace S5:St _ ((bx b4 [vU x1] 22)::(bx b3 [vU 1] 22)::(bx b2 [vU a1] 22)::(bx b1 [f0] 151)::(X0++As)) _:=S5;refine Af ?_;refine nrm ?_;refine Ay ?_;obtain⟨x2,q2,hm⟩:=Aa hm;refine Hq S5 rfl Tryz.call250 ?_;intro lp1 rip2 w6 h1 S6;replace S6:St _ ((Lp lp1 rip2 .ready none)::(bx b4 [vU x1] 22)::(bx b3 [vU 1] 22)::(bx b2 [vU a1] 22)::(bx b1 [f0] 151)::(X0++As)) _:=S6;clear S5;have S7:St _ ((bx b4 [vU x1] 22)::(Lp lp1 rip2 .ready none)::(bx b3 [vU 1] 22)::(bx b2 [vU a1] 22)::(bx b1 [f0] 151)::(X0++As)) _:=St.perm S6 (List.Perm.swap _ _ _);clear S6;have hcb1: ∀{m':Mem} {As':List Ow} {w':World} {s:UInt64×σ} {X:List Ow} {b0:Bool} {r:Bool×(UInt64×σ)},St m' (X++As') w'→(∃(X2:List Ow),m1≤m'∧X=Lp lp1 rip2 .ready none::(bx b3 [vU ((s).1)] 22)::(bx b2 [vU a1] 22)::(bx b1 [f0] 151)::X2∧R ((s).2) m' X2)→(fun(s:UInt64×σ) (b0:Bool)=>Ad (Cy p0 a1 b0 s) fun y=>some (true,y)) s b0=some r→Fg Tryz.prog (.func (.yield lp1) #[] #[]) [vb b0] w' fun v w''=> ∃(M:Mem) (X':List Ow),m'≤M∧St M (X'++As') w''∧(∃(X2:List Ow),m1≤M∧X'=Lp lp1 rip2 .ready none::(bx b3 [vU ((r.2).1)] 22)::(bx b2 [vU a1] 22)::(bx b1 [f0] 151)::X2∧R ((r.2).2) M X2)∧v=vb r.1:=by
  intro m2 As1 w7 s1 X3 b6 r1 S8 h4 hm1;obtain⟨X4,L2,rfl,h5⟩:=h4;obtain⟨y1,q3,hm1⟩:=Aa hm1;cases hm1;unfold Cy at q3;replace S8:St _ ((Lp lp1 rip2 .ready none)::(bx b3 [vU ((s1).1)] 22)::(bx b2 [vU a1] 22)::(bx b1 [f0] 151)::(X4++As1)) _:=S8;have L1:=Mem.rfl' m2;refine Fg.round h1 rfl S8 ?_;refine Ac ?_;refine AL (v:=vb b6) rfl ?_;refine Af ?_;refine nrm ?_;refine⟨_,_,S8,?_⟩;intro w8 S9;clear S8;replace S9:St _ ((Lp lp1 rip2 .busy none)::(bx b3 [vU ((s1).1)] 22)::(bx b2 [vU a1] 22)::(bx b1 [f0] 151)::(X4++As1)) _:=S9;refine Ay ?_;refine Ae ?_;refine Ac ?_;refine HU (i:=3) (cs:=[f0]) S9 rfl rfl Tryz.isAgg151 Tryz.sizeOf151 rfl (fun _=>rfl) ?_;refine HU (i:=1) (cs:=[vU ((s1).1)]) S9 rfl rfl Tryz.isAgg22 Tryz.sizeOf22 rfl (fun _=>rfl) ?_;refine HU (i:=1) (cs:=[vU ((s1).1)]) S9 rfl rfl Tryz.isAgg22 Tryz.sizeOf22 rfl (fun _=>rfl) ?_;obtain⟨x3,q4,q3⟩:=Aa q3;have S10:=St.absF (L:=[Lp lp1 rip2 .busy none,bx b3 [vU ((s1).1)] 22,bx b2 [vU a1] 22,bx b1 [f0] 151]) (X:=X4) (As:=As1) S9;refine IC rfl (cb0 S10 h5 q4) rfl ?_;rintro _ w9 ⟨m3,X5,l2,S11,h6,rfl⟩;replace S11:=St.absF (L:=X5) (X:=[Lp lp1 rip2 .busy none,bx b3 [vU ((s1).1)] 22,bx b2 [vU a1] 22,bx b1 [f0] 151]) (As:=As1) S11;clear S10;replace L1:=Mem.tr L1 l2;replace S11:St _ ((Lp lp1 rip2 .busy none)::(bx b3 [vU ((s1).1)] 22)::(bx b2 [vU a1] 22)::(bx b1 [f0] 151)::(X5++As1)) _:=S11;clear S9;refine IB (i:=1) S11 rfl rfl rfl Tryz.sizeOf22 (G9 rfl KY) rfl ?_;intro w10 S12;replace S12:St _ ((Lp lp1 rip2 .busy none)::(bx b3 [vU x3.1] 22)::(bx b2 [vU a1] 22)::(bx b1 [f0] 151)::(X5++As1)) _:=S12;clear S11;refine Af ?_;refine nrm ?_;refine Ae ?_;refine Ac ?_;refine Ap (v:=vb b6) rfl ?_;refine Af ?_;refine nrm ?_;refine BE (t:=b6) rfl (fun hc1=> ?_) (fun hc1=> ?_)
  ·replace q3:=ifT hc1 q3;refine Ac ?_;refine HU (i:=3) (cs:=[f0]) S12 rfl rfl Tryz.isAgg151 Tryz.sizeOf151 rfl (fun _=>rfl) ?_;refine HU (i:=1) (cs:=[vU x3.1]) S12 rfl rfl Tryz.isAgg22 Tryz.sizeOf22 rfl (fun _=>rfl) ?_;refine HU (i:=2) (cs:=[vU a1]) S12 rfl rfl Tryz.isAgg22 Tryz.sizeOf22 rfl (fun _=>rfl) ?_;obtain⟨x4,q5,q3⟩:=Aa q3;have S13:=St.absF (L:=[Lp lp1 rip2 .busy none,bx b3 [vU x3.1] 22,bx b2 [vU a1] 22,bx b1 [f0] 151]) (X:=X5) (As:=As1) S12;refine IC rfl (cb0 S13 h6 q5) rfl ?_;rintro _ w11 ⟨m4,X6,l3,S14,h7,rfl⟩;replace S14:=St.absF (L:=X6) (X:=[Lp lp1 rip2 .busy none,bx b3 [vU x3.1] 22,bx b2 [vU a1] 22,bx b1 [f0] 151]) (As:=As1) S14;clear S13;replace L1:=Mem.tr L1 l3;replace S14:St _ ((Lp lp1 rip2 .busy none)::(bx b3 [vU x3.1] 22)::(bx b2 [vU a1] 22)::(bx b1 [f0] 151)::(X6++As1)) _:=S14;clear S12;refine IB (i:=1) S14 rfl rfl rfl Tryz.sizeOf22 (G9 rfl KY) rfl ?_;intro w12 S15;replace S15:St _ ((Lp lp1 rip2 .busy none)::(bx b3 [vU x4.1] 22)::(bx b2 [vU a1] 22)::(bx b1 [f0] 151)::(X6++As1)) _:=S15;clear S14;refine Af ?_;refine Ki ?_;refine⟨_,_,S15,?_⟩;intro w13 S16;have e0:=Option.some.inj q3;subst e0;exact⟨_,Lp lp1 rip2 .ready none::(bx b3 [vU x4.1] 22)::(bx b2 [vU a1] 22)::(bx b1 [f0] 151)::X6,L1,S16,⟨_,Mem.tr L2 L1,rfl,h7⟩,rfl⟩
  replace q3:=ifF hc1 q3;refine AN ?_;refine Ki ?_;refine⟨_,_,S12,?_⟩;intro w14 S17;have e0:=Option.some.inj q3;subst e0;exact⟨_,Lp lp1 rip2 .ready none::(bx b3 [vU x3.1] 22)::(bx b2 [vU a1] 22)::(bx b1 [f0] 151)::X5,L1,S17,⟨_,Mem.tr L2 L1,rfl,h6⟩,rfl⟩
 refine AB.mono (Ln (p0:=(fun(s:UInt64×σ) (b0:Bool)=>Ad (Cy p0 a1 b0 s) fun y=>some (true,y))) (k0:=x1) (s0:=(1,s0)) (R:=(fun(s:UInt64×σ) (M:Mem) (X:List Ow)=>(∃(X2:List Ow),m1≤M∧X=Lp lp1 rip2 .ready none::(bx b3 [vU ((s).1)] 22)::(bx b2 [vU a1] 22)::(bx b1 [f0] 151)::X2∧R ((s).2) M X2))) (X0:=((Lp lp1 rip2 .ready none)::(bx b3 [vU 1] 22)::(bx b2 [vU a1] 22)::(bx b1 [f0] 151)::X0)) (As:=As) S7 (fun l h=>by obtain⟨X2,Lm,e,h3⟩:=h; exact⟨_,Mem.tr Lm l,e,hup l h3⟩) ⟨_,Mem.rfl' _,rfl,hX0⟩ @hcb1 rfl q2) ?_;rintro _ w15 ⟨m5,l4,X7,S18,rfl,⟨X8,L3,rfl,h8⟩⟩;replace S18:St _ ((bx b4 [vU x2.1] 22)::(Lp lp1 rip2 .ready none)::(bx b3 [vU x2.2.1] 22)::(bx b2 [vU a1] 22)::(bx b1 [f0] 151)::(X8++As)) _:=S18;have S19:St _ ((Lp lp1 rip2 .ready none)::(bx b4 [vU x2.1] 22)::(bx b3 [vU x2.2.1] 22)::(bx b2 [vU a1] 22)::(bx b1 [f0] 151)::(X8++As)) _:=St.perm S18 (List.Perm.swap _ _ _);clear S18;refine⟨_,.ready,none,_,l4,(fun h=>by cases h),S19,?_⟩;intro m6 w16 l5 S20;have l6:=Mem.tr l4 l5;replace h8:=hup l5 h8;replace L0:=Mem.tr L0 l6;replace S20:St _ ((bx b4 [vU x2.1] 22)::(bx b3 [vU x2.2.1] 22)::(bx b2 [vU a1] 22)::(bx b1 [f0] 151)::(X8++As)) _:=S20;refine Ki ?_;refine nrm ?_;refine Ae ?_;refine Ac ?_;refine HU (i:=1) (cs:=[vU x2.2.1]) S20 rfl rfl Tryz.isAgg22 Tryz.sizeOf22 rfl (fun _=>rfl) ?_;refine AL (v:=vU x2.2.1) rfl ?_;refine Af ?_;refine nrm ?_;refine A7 ?_;refine Df ?_;intro we hpd;replace S20:=St.pd S20 hpd;obtain⟨m7,l7,S21⟩:=St.drop S20 0;replace h8:=hup l7 h8;replace L0:=Mem.tr L0 l7;clear S20;replace S21:St _ ((bx b3 [vU x2.2.1] 22)::(bx b2 [vU a1] 22)::(bx b1 [f0] 151)::(X8++As)) _:=S21;obtain⟨m8,l8,S22⟩:=St.drop S21 0;replace h8:=hup l8 h8;replace L0:=Mem.tr L0 l8;clear S21;replace S22:St _ ((bx b2 [vU a1] 22)::(bx b1 [f0] 151)::(X8++As)) _:=S22;obtain⟨m9,l9,S23⟩:=St.drop S22 0;replace h8:=hup l9 h8;replace L0:=Mem.tr L0 l9;clear S22;replace S23:St _ ((bx b1 [f0] 151)::(X8++As)) _:=S23;obtain⟨m10,l10,S24⟩:=St.drop S23 0;replace h8:=hup l10 h8;replace L0:=Mem.tr L0 l10;clear S23;replace S24:St _ ((X8++As)) _:=S24;have e0:=Option.some.inj hm;subst e0;exact Hf [_] rfl ⟨rfl,trivial⟩ ⟨_,L0,_,S24,rfl,h8⟩
def FL (a0:UInt64)(a1:UInt64):Option UInt64:=Ad (Fm (fun(s1:Unit) (b1:UInt64) (b2:UInt64)=>Ad (BB 2305843009213691579 b1 b2) fun x1=>some (x1,())) a0 a1 ()) fun x2=>some x2.1
theorem QO {m:Mem}{As:List Ow}{w:World}{a0:UInt64}{a1:UInt64}{r:UInt64}(S:St m (As) w)(hm:FL a0 a1=some r):
  AB Tryz.prog 134 #[vU a0,vU a1] w fun v w'=> ∃(M:Mem),m≤M∧St M (As) w'∧v=vU r:=by
 unfold FL at hm;have L0:=Mem.rfl' m;refine Cv (args:=[vU a0,vU a1]) Tryz.func134 rfl Tryz.ntmps134 (Nat.le_of_ble_eq_true rfl) ?_;refine Ae ?_;refine Ac ?_;refine AL (v:=vU 0) rfl ?_;refine Af ?_;refine nrm ?_;refine Ae ?_;refine Ac ?_;refine Abr (pre:=[vU 2305843009213691579]) (caps:=[]) rfl rfl ?_;refine Ap (v:=vU a0) rfl ?_;refine Ap (v:=vU a1) rfl ?_;have hcb1: ∀{m':Mem} {As':List Ow} {w':World} {s:Unit} {X:List Ow} {b0:UInt64} {b1:UInt64} {r:UInt64×Unit},St m' (X++As') w'→(X=[])→(fun(s1:Unit) (b1:UInt64) (b2:UInt64)=>Ad (BB 2305843009213691579 b1 b2) fun x1=>some (x1,())) s b0 b1=some r→Fg Tryz.prog (.func (.func 143) #[vU 2305843009213691579] #[]) [vU b0,vU b1] w' fun v w''=> ∃(M:Mem) (X':List Ow),m'≤M∧St M (X'++As') w''∧(X'=[])∧v=vU r.1:=by
  intro m1 As1 w1 s1 X1 b1 b2 r1 S1 h1 hm1;subst h1;replace S1:St _ (As1) _:=S1;have L1:=Mem.rfl' m1;obtain⟨x1,q1,hm1⟩:=Aa hm1;refine Fg.mono (Fg.clo (pre:=[vU 2305843009213691579]) Tryz.call143 rfl (IP (a0:=2305843009213691579) (a1:=b1) (a2:=b2) S1 q1)) ?_;rintro _ w2 ⟨m2,l1,S2,rfl⟩;replace L1:=Mem.tr L1 l1;clear S1;replace S2:St _ (As1) _:=S2;have e0:=Option.some.inj hm1;subst e0;exact⟨_,[],L1,S2,rfl,rfl⟩
 obtain⟨x2,q2,hm⟩:=Aa hm;refine CF Tryz.call173 (NQ (p0:=(fun(s1:Unit) (b1:UInt64) (b2:UInt64)=>Ad (BB 2305843009213691579 b1 b2) fun x1=>some (x1,()))) (a1:=a0) (a2:=a1) (s0:=()) (R:=(fun(s:Unit) (M:Mem) (X:List Ow)=>(X=[]))) (X0:=[]) (As:=As) S (fun {_ _ _ _} _ h=>h) rfl @hcb1 rfl q2) rfl ?_;rintro _ w3 ⟨m3,l2,X2,S3,rfl,rfl⟩;replace L0:=Mem.tr L0 l2;clear S;replace S3:St _ (As) _:=S3;refine AL (v:=vU x2.1) rfl ?_;refine Af ?_;refine nrm ?_;refine A7 ?_;refine Df ?_;intro we hpd;replace S3:=St.pd S3 hpd;have e0:=Option.some.inj hm;subst e0;exact Hf [_] rfl ⟨rfl,trivial⟩ ⟨_,L0,S3,rfl⟩
theorem Q8 {a0:UInt64}{a1:UInt64}{r:UInt64}(hm:FL a0 a1=some r):Sf prog 134 [.d (.u a0),.d (.u a1)] (.d (.u r)):=
 ⟨call134,fun η m As w vs hv0 hd S=>by
  have S:St m As w:=S;obtain⟨v0,u0,rfl,r0,hv1⟩:=Bq.cons_inv hv0;obtain rfl:=r0.u_inv;obtain⟨v1,u1,rfl,r1,hv2⟩:=Bq.cons_inv hv1;obtain rfl:=r1.u_inv;obtain rfl:=Bq.nil_inv hv2;refine AB.mono (QO S hm) ?_;rintro v w' ⟨M,hle,S0,rfl⟩;exact⟨M,none0,_,_,_,hle,RT hd _,⟨rfl,rfl,rfl⟩,fun n h=>absurd rfl h,(.d (.u _)),S0⟩⟩
def E6 (a0:UInt64):Option UInt64:=Ad (FL 4 a0) fun x1=>some x1
theorem KP {a0:UInt64}{r:UInt64}(hm:E6 a0=some r):Sf prog 87 [.d (.u a0)] (.d (.u r)):=
 sp call87 func87 rfl ntmps87 rfl fun D0 As η0 m0 hd=>by
  unfold E6 at hm;obtain⟨x1,q1,hm⟩:=Aa hm;refine gc (fun _=>Q8 q1) (by kernel_rfl) ?_;have e0:=Option.some.inj hm;subst e0;exact AH hd (by kernel_rfl)
def EY (a0:UInt64):Option (UInt64×Int):=Ad (J5 a0) fun x1=>if x1=true then some (0,1)else Ad (E6 a0) fun x2=>some (x2,0)
theorem KK {a0:UInt64}{r:UInt64×Int}(hm:EY a0=some r):Sf prog 56 [.d (.u a0)] (.tup [.d (.u r.1),.d (.i r.2)]):=
 sp call56 func56 rfl ntmps56 rfl fun D0 As η0 m0 hd=>by
  unfold EY at hm;obtain⟨x1,q1,hm⟩:=Aa hm;refine gc (fun _=>UA q1) (by kernel_rfl) ?_;refine gi hm (by kernel_rfl) (fun hc1 hm=> ?_) fun hc1 hm=> ?_
  ·skip;have e0:=Option.some.inj hm;subst e0;exact AH hd (by kernel_rfl)
  obtain⟨x2,q2,hm⟩:=Aa hm;refine gc (fun _=>KP q2) (by kernel_rfl) ?_;have e0:=Option.some.inj hm;subst e0;exact AH hd (by kernel_rfl)
def F9 (a0:UInt64)(i1:Int)(s1:UInt8×UInt8×UInt8×UInt8×UInt8×UInt8×UInt8×UInt8):Option (UInt8×UInt8×UInt8×UInt8×UInt8×UInt8×UInt8×UInt8):=if(0:Int)≤(w64 (8*(i1:Int)))then Ad (idx [s1.1,s1.2.1,s1.2.2.1,s1.2.2.2.1,s1.2.2.2.2.1,s1.2.2.2.2.2.1,s1.2.2.2.2.2.2.1,s1.2.2.2.2.2.2.2] (w64 (7-(i1:Int)))) fun x4=>bnd (if(w64 (7-(i1:Int)))=0 then(toB ((DX a0 ((w64 (8*(i1:Int))).toNat)).toNat:Int))else s1.1) fun x5=>bnd (if(w64 (7-(i1:Int)))=1 then(toB ((DX a0 ((w64 (8*(i1:Int))).toNat)).toNat:Int))else s1.2.1) fun x6=>bnd (if(w64 (7-(i1:Int)))=2 then(toB ((DX a0 ((w64 (8*(i1:Int))).toNat)).toNat:Int))else s1.2.2.1) fun x7=>bnd (if(w64 (7-(i1:Int)))=3 then(toB ((DX a0 ((w64 (8*(i1:Int))).toNat)).toNat:Int))else s1.2.2.2.1) fun x8=>bnd (if(w64 (7-(i1:Int)))=4 then(toB ((DX a0 ((w64 (8*(i1:Int))).toNat)).toNat:Int))else s1.2.2.2.2.1) fun x9=>bnd (if(w64 (7-(i1:Int)))=5 then(toB ((DX a0 ((w64 (8*(i1:Int))).toNat)).toNat:Int))else s1.2.2.2.2.2.1) fun x10=>bnd (if(w64 (7-(i1:Int)))=6 then(toB ((DX a0 ((w64 (8*(i1:Int))).toNat)).toNat:Int))else s1.2.2.2.2.2.2.1) fun x11=>bnd (if(w64 (7-(i1:Int)))=7 then(toB ((DX a0 ((w64 (8*(i1:Int))).toNat)).toNat:Int))else s1.2.2.2.2.2.2.2) fun x12=>some (x5,x6,x7,x8,x9,x10,x11,x12)else none
def DS (a0:UInt64):Option (List UInt8):=Ad (Ad (Bu (F9 a0) 8 0 (0,0,0,0,0,0,0,0)) fun x2=>some (x2.1,x2.2.1,x2.2.2.1,x2.2.2.2.1,x2.2.2.2.2.1,x2.2.2.2.2.2.1,x2.2.2.2.2.2.2.1,x2.2.2.2.2.2.2.2)) fun x1=>some ([x1.1,x1.2.1,x1.2.2.1,x1.2.2.2.1,x1.2.2.2.2.1,x1.2.2.2.2.2.1,x1.2.2.2.2.2.2.1,x1.2.2.2.2.2.2.2]:List UInt8)
theorem Qz {m:Mem}{As:List Ow}{w:World}{a0:UInt64}{r:List UInt8}(S:St m (As) w)(hm:DS a0=some r):
  AB Tryz.prog 94 #[vU a0] w fun v w'=> ∃(M:Mem),m≤M∧∃(rv0:Value) (rc0:List Value),St M ((row 1 rv0 rc0 r.length)::As) w'∧v=rv0∧AP M rc0 r:=by
 unfold DS at hm;have L0:=Mem.rfl' m;refine Cv (args:=[vU a0]) Tryz.func94 rfl Tryz.ntmps94 (Nat.le_of_ble_eq_true rfl) ?_;refine Ae ?_;refine Ac ?_;refine AL (v:= .slice none 0 0) rfl ?_;refine Af ?_;refine nrm ?_;refine Ae ?_;refine Ac ?_;refine Ep S Tryz.zeroValue192 ?_;intro b1 w1 S1;replace S1:St _ ((bx b1 [vB 0,vB 0,vB 0,vB 0,vB 0,vB 0,vB 0,vB 0] 192)::As) _:=S1;clear S;refine Af ?_;refine nrm ?_;obtain⟨x1,q1,hm⟩:=Aa hm;have L1:=Mem.rfl' m;refine Ae ?_;refine AQ [4,5,6,7,8,9,10,11,12,13,14,15,16] (fun f' w'=> ∃(M1:Mem),m≤M1∧St M1 ((bx b1 [vB x1.1,vB x1.2.1,vB x1.2.2.1,vB x1.2.2.2.1,vB x1.2.2.2.2.1,vB x1.2.2.2.2.2.1,vB x1.2.2.2.2.2.2.1,vB x1.2.2.2.2.2.2.2] 192)::As) w'∧BJ f' []) ?_ ?_
 ·refine Ae ?_;refine Ac ?_;refine Ap (v:=vI 0) rfl ?_;refine Af ?_;refine nrm ?_;obtain⟨x2,q2,q1⟩:=Aa q1;have L2:=Mem.rfl' m;refine AQ [4,5,6,7,8,9,10,11,12,13,14,15,16] (fun f' w'=> ∃(M2:Mem),m≤M2∧St M2 ((bx b1 [vB x2.1,vB x2.2.1,vB x2.2.2.1,vB x2.2.2.2.1,vB x2.2.2.2.2.1,vB x2.2.2.2.2.2.1,vB x2.2.2.2.2.2.2.1,vB x2.2.2.2.2.2.2.2] 192)::As) w'∧BJ f' []) ?_ ?_
  ·refine Ay ?_;refine Bv [4,5,6,7,8,9,10,11,12,13,14,15,16] (fun n1 f' w'=> ∃(i1:Nat) (s1:UInt8×UInt8×UInt8×UInt8×UInt8×UInt8×UInt8×UInt8) (m2:Mem),n1=8-i1∧i1≤8∧Bu (F9 a0) (8-i1) (i1:Int) s1=some x2∧m≤m2∧St m2 ((bx b1 [vB s1.1,vB s1.2.1,vB s1.2.2.1,vB s1.2.2.2.1,vB s1.2.2.2.2.1,vB s1.2.2.2.2.2.1,vB s1.2.2.2.2.2.2.1,vB s1.2.2.2.2.2.2.2] 192)::As) w'∧BJ f' [(5,vI (i1:Int))]) 8 ⟨0,(0,0,0,0,0,0,0,0),m,rfl,Nat.zero_le _,q2,L2,S1,⟨rfl,trivial⟩⟩ ?_;rintro n1 f1 w2 ho ⟨i1,s1,m1,hn,hi,q3,L4,S2,ha⟩;obtain⟨u1,rfl⟩:=Bb (N:=18) ho ha;clear ho ha;have L3:=Mem.rfl' m1;clear S1;refine Ae ?_;refine Ac ?_;refine HT (m:=(i1:Int)) (n:=8) rfl rfl ?_;refine Af ?_;refine nrm ?_;refine Ae ?_;refine BE (t:=decide ((i1:Int)<(8:Int))) rfl (fun hc1=> ?_) (fun hc1=> ?_)
   ·have hlt1:i1<8:=by have:=of_decide_eq_true hc1; omega
    obtain⟨y1,q5,q4⟩:=Ds q3 hlt1;unfold F9 at q5;refine AN ?_;refine nrm ?_;refine Ae ?_;refine Ay ?_;refine Ae ?_;refine Ac ?_;refine Ap (v:=vI (i1:Int)) rfl ?_;refine AL (v:=vI (i1:Int)) rfl ?_;refine Af ?_;refine nrm ?_;refine Ac ?_;refine Ap (v:=vI (i1:Int)) rfl ?_;refine IX (m:=7) (n:=(i1:Int)) rfl rfl ?_;refine Ap (v:=vU a0) rfl ?_;refine Ap (v:=vI (i1:Int)) rfl ?_;refine LX (m:=8) (n:=(i1:Int)) rfl rfl ?_;obtain⟨q7,q5⟩:=Ct q5;refine Z5 (m:=a0) (n:=(w64 (8*(i1:Int)))) rfl rfl q7 ?_;refine Pv rfl Tryz.underlying22 Tryz.underlying5 ?_;obtain⟨x4,q8,q5⟩:=Aa q5;refine LY (i:=(w64 (7-(i1:Int)))) rfl rfl Tryz.underlying192 Tryz.sizeOf5 (BI q8).1 (BI q8).2 ?_;obtain⟨x5,q9,q5⟩:=B6 q5;obtain⟨x6,q10,q5⟩:=B6 q5;obtain⟨x7,q11,q5⟩:=B6 q5;obtain⟨x8,q12,q5⟩:=B6 q5;obtain⟨x9,q13,q5⟩:=B6 q5;obtain⟨x10,q14,q5⟩:=B6 q5;obtain⟨x11,q15,q5⟩:=B6 q5;obtain⟨x12,q16,q5⟩:=B6 q5;refine Z4 (i:=0) (off:=0+(w64 (7-(i1:Int))).toNat*1) S2 rfl rfl rfl Tryz.sizeOf5 (Uw.all (G9 rfl KY)) (by rcases idx8 q8 with ⟨h,h'⟩|⟨h,h'⟩|⟨h,h'⟩|⟨h,h'⟩|⟨h,h'⟩|⟨h,h'⟩|⟨h,h'⟩|⟨h,h'⟩<;>(rw[h]; exact Nat.le_of_ble_eq_true rfl)) ?_;intro w3 S3;replace S3:=St.cellsTo (i:=0) (l':=[vB x5,vB x6,vB x7,vB x8,vB x9,vB x10,vB x11,vB x12]) S3 (by rcases idx8 q8 with ⟨h,h'⟩|⟨h,h'⟩|⟨h,h'⟩|⟨h,h'⟩|⟨h,h'⟩|⟨h,h'⟩|⟨h,h'⟩|⟨h,h'⟩<;>(simp only[q9,q10,q11,q12,q13,q14,q15,q16,h]; rfl)) rfl;replace S3:St _ ((bx b1 [vB x5,vB x6,vB x7,vB x8,vB x9,vB x10,vB x11,vB x12] 192)::As) _:=S3;clear S2;refine Af ?_;refine Ki ?_;refine nrm ?_;refine Ac ?_;refine Ec (m:=(i1:Int)) (n:=1) rfl rfl ?_;refine Ap (v:=vI (w64 ((i1:Int)+1))) rfl ?_;refine Af ?_;refine nrm ?_;have e0:=Option.some.inj q5;subst e0;exact⟨Di,_,(by omega),⟨i1+1,(x5,x6,x7,x8,x9,x10,x11,x12),m1,rfl,hlt1,q4,Mem.tr L4 L3,S3,⟨congrArg (Value.int .i64) (AY hlt1 (by decide)),trivial⟩⟩⟩
   have hlt1: ¬i1<8:=by have:=of_decide_eq_false hc1; omega
   have e:=Eq.symm (CO q3 hlt1);subst e;refine Ch ?_;refine thE ?_;refine thE ?_;refine exB ?_;refine nrm ?_;exact⟨Di,m1,Mem.tr L4 L3,S2,trivial⟩
  rintro f2 w4 ho ⟨m3,l1,S4,ha⟩;obtain⟨u2,rfl⟩:=Bb (N:=18) ho ha;clear ho ha;replace L1:=Mem.tr L1 l1;clear S1;have e0:=Option.some.inj q1;subst e0;exact⟨Di,m3,L1,S4,trivial⟩
 rintro f3 w5 ho ⟨m4,l2,S5,ha⟩;obtain⟨u3,rfl⟩:=Bb (N:=18) ho ha;replace L0:=Mem.tr L0 l2;clear S1;refine Ae ?_;refine Ac ?_;refine KS (k:=8) (n:=8) (sz:=1) (off:=0) rfl Tryz.underlying192 Tryz.sizeOf5 (.inl ⟨rfl,rfl⟩) (Nat.le_refl _) ?_;have S6:=St.bxRow (i:=0) (sz:=1) (n:=8) S5 rfl rfl (by decide);have h1:AP m4 [vB x1.1,vB x1.2.1,vB x1.2.2.1,vB x1.2.2.2.1,vB x1.2.2.2.2.1,vB x1.2.2.2.2.2.1,vB x1.2.2.2.2.2.2.1,vB x1.2.2.2.2.2.2.2] ([x1.1,x1.2.1,x1.2.2.1,x1.2.2.2.1,x1.2.2.2.2.1,x1.2.2.2.2.2.1,x1.2.2.2.2.2.2.1,x1.2.2.2.2.2.2.2]:List UInt8):=(AP.cons (c:=[vB x1.1]) rfl (AP.cons (c:=[vB x1.2.1]) rfl (AP.cons (c:=[vB x1.2.2.1]) rfl (AP.cons (c:=[vB x1.2.2.2.1]) rfl (AP.cons (c:=[vB x1.2.2.2.2.1]) rfl (AP.cons (c:=[vB x1.2.2.2.2.2.1]) rfl (AP.cons (c:=[vB x1.2.2.2.2.2.2.1]) rfl (AP.cons (c:=[vB x1.2.2.2.2.2.2.2]) rfl AP.nil))))))));replace S6:St _ ((row 1 (.slice (some ⟨b1,0,none⟩) 8 8) [vB x1.1,vB x1.2.1,vB x1.2.2.1,vB x1.2.2.2.1,vB x1.2.2.2.2.1,vB x1.2.2.2.2.2.1,vB x1.2.2.2.2.2.2.1,vB x1.2.2.2.2.2.2.2] ([x1.1,x1.2.1,x1.2.2.1,x1.2.2.2.1,x1.2.2.2.2.1,x1.2.2.2.2.2.1,x1.2.2.2.2.2.2.1,x1.2.2.2.2.2.2.2]:List UInt8).length)::As) _:=S6;clear S5;refine AL (v:=(.slice (some ⟨b1,0,none⟩) 8 8)) rfl ?_;refine Af ?_;refine nrm ?_;refine A7 ?_;refine Df ?_;intro we hpd;replace S6:=St.pd S6 hpd;have e0:=Option.some.inj hm;subst e0;exact Hf [_] rfl ⟨rfl,trivial⟩ ⟨_,L0,_,_,S6,rfl,h1⟩
theorem JQ {a0:UInt64}{r:List UInt8}(hm:DS a0=some r):Sp prog 94 [.d (.u a0)] [] 0 (is (.ow 0) [.row 0 1 _ eB r] 1):=
 ⟨call94,fun η m As w vs hv0 hd S=>by
  have S:St m As w:=S;obtain⟨v0,u0,rfl,r0,hv1⟩:=Bq.cons_inv hv0;obtain rfl:=r0.u_inv;obtain rfl:=Bq.nil_inv hv1;refine AB.mono (Qz S hm) ?_;rintro v w' ⟨M,hle,y0,c0,S0,rfl,h0⟩;exact⟨M,(Yv [v]),_,_,_,hle,RT hd _,⟨rfl,rfl,rfl⟩,HD rfl,(.ow rfl (Dh S0)),(St.impL S0 (YL (Br.toR Br.b rfl rfl (Dh S0) h0) fun _ h=>h))⟩⟩
def Ed (a0:UInt64)(a1:UInt64)(a2:List UInt8):Option UInt64:=Ad (DS a0) fun x1=>Ad (DS a1) fun x2=>Ad (CC (⟨#[115,105,103,110]⟩:ByteArray) ([x1,x2,a2]:List (List UInt8))) fun x3=>Ad (HI x3 1152921504606845789) fun x4=>some x4
theorem Mj {a0:UInt64}{a1:UInt64}{a2:List UInt8}{r:UInt64}(hm:Ed a0 a1 a2=some r):Sf prog 95 [.d (.u a0),.d (.u a1),sl eB a2] (.d (.u r)):=
 sp call95 func95 rfl ntmps95 rfl fun D0 As η0 m0 hd=>by
  unfold Ed at hm;obtain⟨x1,q1,hm⟩:=Aa hm;refine gco (JQ q1) (by kernel_rfl) ?_;obtain⟨x2,q2,hm⟩:=Aa hm;refine gco (JQ q2) (by kernel_rfl) ?_;refine U3 (k:=1) (eL eB) ([x1,x2,a2]:List (List UInt8)) (fun _=>rfl) (by kernel_rfl) ?_;obtain⟨x3,q3,hm⟩:=Aa hm;refine gc (fun _=>FZ q3) (by kernel_rfl) ?_;obtain⟨x4,q4,hm⟩:=Aa hm;refine gc (fun _=>Oc q4) (by kernel_rfl) ?_;have e0:=Option.some.inj hm;subst e0;exact AH hd (by kernel_rfl)
def DL (a0:UInt64)(a1:UInt64)(a2:UInt64):Option UInt64:=if a0≠0 then if a0≠0 then Ad (EO (Hp (a1%a0) (a2%a0)) ((a1%a0)+(a2%a0)) a0) fun x1=>some x1 else none else none
theorem Ll {a0:UInt64}{a1:UInt64}{a2:UInt64}{r:UInt64}(hm:DL a0 a1 a2=some r):Sf prog 142 [.d (.u a0),.d (.u a1),.d (.u a2)] (.d (.u r)):=
 sp call142 func142 rfl ntmps142 rfl fun D0 As η0 m0 hd=>by
  unfold DL at hm;obtain⟨q1,hm⟩:=Ct hm;refine AaH (d:= .u a0) (r:= .u (a1%a0)) (fun h=>q1) (by kernel_rfl) ?_;obtain⟨q2,hm⟩:=Ct hm;refine AaH (d:= .u a0) (r:= .u (a2%a0)) (fun h=>q2) (by kernel_rfl) ?_;refine AaM (p:=(a1%a0)) (q:=(a2%a0)) func180 (by kernel_rfl) (by kernel_rfl) (by kernel_rfl) (by kernel_rfl) (by kernel_rfl) ?_;obtain⟨x1,q3,hm⟩:=Aa hm;refine gc (fun _=>LR q3) (by kernel_rfl) ?_;have e0:=Option.some.inj hm;subst e0;exact AH hd (by kernel_rfl)
def Hz (a0:UInt64)(a1:UInt64):Option UInt64:=Ad (DL 1152921504606845789 a0 a1) fun x1=>some x1
theorem O8 {a0:UInt64}{a1:UInt64}{r:UInt64}(hm:Hz a0 a1=some r):Sf prog 96 [.d (.u a0),.d (.u a1)] (.d (.u r)):=
 sp call96 func96 rfl ntmps96 rfl fun D0 As η0 m0 hd=>by
  unfold Hz at hm;obtain⟨x1,q1,hm⟩:=Aa hm;refine gc (fun _=>Ll q1) (by kernel_rfl) ?_;have e0:=Option.some.inj hm;subst e0;exact AH hd (by kernel_rfl)
def Hy (a0:UInt64)(a1:UInt64):Option UInt64:=Ad (BB 1152921504606845789 a0 a1) fun x1=>some x1
theorem O7 {a0:UInt64}{a1:UInt64}{r:UInt64}(hm:Hy a0 a1=some r):Sf prog 97 [.d (.u a0),.d (.u a1)] (.d (.u r)):=
 sp call97 func97 rfl ntmps97 rfl fun D0 As η0 m0 hd=>by
  unfold Hy at hm;obtain⟨x1,q1,hm⟩:=Aa hm;refine gc (fun _=>Lu q1) (by kernel_rfl) ?_;have e0:=Option.some.inj hm;subst e0;exact AH hd (by kernel_rfl)
def Ft (a0:UInt64)(a1:List UInt8):Option (g_api_Sig×Int):=Ad (EY a0) fun x1=>if(x1.2 !=0)=true then some ((⟨0,0⟩:g_api_Sig),x1.2)else Ad (DS a0) fun x2=>Ad (GL (⟨#[110,111,110,99,101]⟩:ByteArray) ([x2,a1]:List (List UInt8))) fun x3=>Ad (E6 x3) fun x4=>Ad (Ed x4 x1.1 a1) fun x5=>Ad (Hy x5 a0) fun x6=>Ad (Hz x6 x3) fun x7=>some ((⟨x5,x7⟩:g_api_Sig),0)
theorem Kq {a0:UInt64}{a1:List UInt8}{r:g_api_Sig×Int}(hm:Ft a0 a1=some r):Sf prog 60 [.d (.u a0),sl eB a1] (.tup [ag (RD r.1),.d (.i r.2)]):=
 sp call60 func60 rfl ntmps60 rfl fun D0 As η0 m0 hd=>by
  unfold Ft at hm;obtain⟨x1,q1,hm⟩:=Aa hm;refine gc (fun _=>KK q1) (by kernel_rfl) ?_;refine gi hm (by kernel_rfl) (fun hc1 hm=> ?_) fun hc1 hm=> ?_
  ·skip;have e0:=Option.some.inj hm;subst e0;exact AH hd (by kernel_rfl)
  obtain⟨x2,q2,hm⟩:=Aa hm;refine gco (JQ q2) (by kernel_rfl) ?_;refine U3 (k:=1) (eL eB) ([x2,a1]:List (List UInt8)) (fun _=>rfl) (by kernel_rfl) ?_;obtain⟨x3,q3,hm⟩:=Aa hm;refine gc (fun _=>MK q3) (by kernel_rfl) ?_;obtain⟨x4,q4,hm⟩:=Aa hm;refine gc (fun _=>KP q4) (by kernel_rfl) ?_;obtain⟨x5,q5,hm⟩:=Aa hm;refine gc (fun _=>Mj q5) (by kernel_rfl) ?_;obtain⟨x6,q6,hm⟩:=Aa hm;refine gc (fun _=>O7 q6) (by kernel_rfl) ?_;obtain⟨x7,q7,hm⟩:=Aa hm;refine gc (fun _=>O8 q7) (by kernel_rfl) ?_;have e0:=Option.some.inj hm;subst e0;exact AH hd (by kernel_rfl)
def HB (a0:List UInt8)(a1:List UInt8):Option Bool:=some (eqS (bs a0) (bs a1))
theorem Pe {a0:List UInt8}{a1:List UInt8}{r:Bool}(hm:HB a0 a1=some r):Sf prog 81 [sl eB a0,sl eB a1] (.d (.t r)):=
 sp call81 func81 rfl ntmps81 rfl fun D0 As η0 m0 hd=>by
  unfold HB at hm;refine gbs (xs:=a0) (by kernel_rfl) ?_;refine gbs (xs:=a1) (by kernel_rfl) ?_;have e0:=Option.some.inj hm;subst e0;exact AH hd (by kernel_rfl)
def It (a0:g_api_Leaf)(k0:List UInt8):Option (Bool×(List UInt8)):=Ad (HB a0.Body k0) fun x1=>some (x1,k0)
theorem QF {a0:g_api_Leaf}{k0:List UInt8}{r:Bool×(List UInt8)}(hm:It a0 k0=some r):Sp prog 80 [ag (Ak a0),.pb 0 0] [.box 0 [sl eB k0] 75] 1 (is (.d (.t r.1)) [.box 0 [.d (.sl _ eB r.2)] 75] 1):=
 sp call80 func80 rfl ntmps80 rfl fun D0 As η0 m0 hd=>by
  unfold It at hm;obtain⟨x1,q1,hm⟩:=Aa hm;refine gc (fun _=>Pe q1) (by kernel_rfl) ?_;have e0:=Option.some.inj hm;subst e0;exact AH hd (by kernel_rfl)
def BK (a0:List g_api_Leaf):Option (List g_api_Leaf):=Ad (app 32 ([]:List g_api_Leaf) a0) fun x1=>some x1
theorem Gu {m:Mem}{As:List Ow}{w:World}{a0:List g_api_Leaf}{a0v0:Value}{r:List g_api_Leaf}(S:St m (As) w)(a0h0:SlR m a0v0 a0)(hm:BK a0=some r):
  AB Tryz.prog 82 #[a0v0] w fun v w'=> ∃(M:Mem),m≤M∧∃(rv0:Value) (rc0:List Value),St M ((row 2 rv0 rc0 r.length)::As) w'∧v=rv0∧AP M rc0 r:=by
 unfold BK at hm;have L0:=Mem.rfl' m;refine Cv (args:=[a0v0]) Tryz.func82 rfl Tryz.ntmps82 (Nat.le_of_ble_eq_true rfl) ?_;refine Ae ?_;refine Ac ?_;refine AL (v:= .slice none 0 0) rfl ?_;refine Af ?_;refine nrm ?_;refine Ae ?_;refine Ae ?_;refine Ac ?_;refine Ap (v:=a0v0) rfl ?_;refine KT rfl rfl a0h0 Tryz.underlying23 ?_;refine Af ?_;refine nrm ?_;refine BE (t:=(Kj a0v0)) rfl (fun hc1=> ?_) (fun hc1=> ?_)
 ·have he1:a0=[]:=SlR.nilOf a0h0 hc1;rw[he1]at hm;replace hm:(some ([]:List g_api_Leaf))=some _:=hm;refine Ae ?_;refine Ac ?_;refine AL (v:= .slice none 0 0) rfl ?_;refine Af ?_;refine nrm ?_;refine A7 ?_;refine thR ?_;refine Df ?_;intro we hpd;replace S:=St.pd S hpd;have S1:=St.rowNil S 2;have h1:AP m [] ([]:List g_api_Leaf):=AP.nil;replace S1:St _ ((row 2 (.slice none 0 0) [] ([]:List g_api_Leaf).length)::As) _:=S1;clear S;have e0:=Option.some.inj hm;subst e0;exact Hf [_] rfl ⟨rfl,trivial⟩ ⟨_,L0,_,_,S1,rfl,h1⟩
 refine AN ?_;refine nrm ?_;refine Ae ?_;refine Ac ?_;refine JR (parts:=[]) (vs:=[]) (cls:=[]) (n:=0) (sz:=2) S Tryz.underlying23 Tryz.sizeOf79 Tryz.zeroValue79 rfl trivial rfl rfl (by decide) (by decide) ?_;intro v1 w1 S2;have h2:AP m [] ([]:List g_api_Leaf):=AP.nil;replace S2:St _ ((row 2 v1 [] ([]:List g_api_Leaf).length)::As) _:=S2;clear S;refine Ap (v:=a0v0) rfl ?_;obtain⟨x1,q1,hm⟩:=Aa hm;refine NV (i:=0) (zs:=x1) (bytes:=32) (ti:=Tryz.t79) S2 rfl rfl h2 rfl rfl a0h0 q1 Tryz.underlying23 Tryz.type79 rfl rfl rfl rfl ?_;intro v2 c1 w2 S3 h3;replace S3:St _ ((row 2 v2 c1 x1.length)::As) _:=S3;clear S2;refine AL (v:=v2) rfl ?_;refine Af ?_;refine nrm ?_;refine A7 ?_;refine Df ?_;intro we hpd;replace S3:=St.pd S3 hpd;have e0:=Option.some.inj hm;subst e0;exact Hf [_] rfl ⟨rfl,trivial⟩ ⟨_,L0,_,_,S3,rfl,h3⟩
theorem GC {a0:List g_api_Leaf}{r:List g_api_Leaf}(hm:BK a0=some r):Sp prog 82 [sl Ak a0] [] 0 (is (.ow 0) [.row 0 2 _ Ak r] 1):=
 ⟨call82,fun η m As w vs hv0 hd S=>by
  have S:St m As w:=S;obtain⟨v0,u0,rfl,r0,hv1⟩:=Bq.cons_inv hv0;have f0:=Br.ofS HN r0.dd;obtain rfl:=Bq.nil_inv hv1;refine AB.mono (Gu S f0 hm) ?_;rintro v w' ⟨M,hle,y0,c0,S0,rfl,h0⟩;exact⟨M,(Yv [v]),_,_,_,hle,RT hd _,⟨rfl,rfl,rfl⟩,HD rfl,(.ow rfl (Dh S0)),(St.impL S0 (YL (Br.toR HN rfl rfl (Dh S0) h0) fun _ h=>h))⟩⟩
def HC (a0:List UInt8):Option (List UInt8):=Ad (app 1 ([]:List UInt8) a0) fun x1=>some x1
theorem Pf {m:Mem}{As:List Ow}{w:World}{a0:List UInt8}{a0v0:Value}{r:List UInt8}(S:St m (As) w)(a0h0:SlR m a0v0 a0)(hm:HC a0=some r):
  AB Tryz.prog 83 #[a0v0] w fun v w'=> ∃(M:Mem),m≤M∧∃(rv0:Value) (rc0:List Value),St M ((row 1 rv0 rc0 r.length)::As) w'∧v=rv0∧AP M rc0 r:=by
 unfold HC at hm;have L0:=Mem.rfl' m;refine Cv (args:=[a0v0]) Tryz.func83 rfl Tryz.ntmps83 (Nat.le_of_ble_eq_true rfl) ?_;refine Ae ?_;refine Ac ?_;refine AL (v:= .slice none 0 0) rfl ?_;refine Af ?_;refine nrm ?_;refine Ae ?_;refine Ae ?_;refine Ac ?_;refine Ap (v:=a0v0) rfl ?_;refine KT rfl rfl a0h0 Tryz.underlying75 ?_;refine Af ?_;refine nrm ?_;refine BE (t:=(Kj a0v0)) rfl (fun hc1=> ?_) (fun hc1=> ?_)
 ·have he1:a0=[]:=SlR.nilOf a0h0 hc1;rw[he1]at hm;replace hm:(some ([]:List UInt8))=some _:=hm;refine Ae ?_;refine Ac ?_;refine AL (v:= .slice none 0 0) rfl ?_;refine Af ?_;refine nrm ?_;refine A7 ?_;refine thR ?_;refine Df ?_;intro we hpd;replace S:=St.pd S hpd;have S1:=St.rowNil S 1;have h1:AP m [] ([]:List UInt8):=AP.nil;replace S1:St _ ((row 1 (.slice none 0 0) [] ([]:List UInt8).length)::As) _:=S1;clear S;have e0:=Option.some.inj hm;subst e0;exact Hf [_] rfl ⟨rfl,trivial⟩ ⟨_,L0,_,_,S1,rfl,h1⟩
 refine AN ?_;refine nrm ?_;refine Ae ?_;refine Ac ?_;refine JR (parts:=[]) (vs:=[]) (cls:=[]) (n:=0) (sz:=1) S Tryz.underlying75 Tryz.sizeOf5 Tryz.zeroValue5 rfl trivial rfl rfl (by decide) (by decide) ?_;intro v1 w1 S2;have h2:AP m [] ([]:List UInt8):=AP.nil;replace S2:St _ ((row 1 v1 [] ([]:List UInt8).length)::As) _:=S2;clear S;refine Ap (v:=a0v0) rfl ?_;obtain⟨x1,q1,hm⟩:=Aa hm;refine NV (i:=0) (zs:=x1) (bytes:=1) (ti:=Tryz.t5) S2 rfl rfl h2 rfl rfl a0h0 q1 Tryz.underlying75 Tryz.type5 rfl rfl rfl rfl ?_;intro v2 c1 w2 S3 h3;replace S3:St _ ((row 1 v2 c1 x1.length)::As) _:=S3;clear S2;refine AL (v:=v2) rfl ?_;refine Af ?_;refine nrm ?_;refine A7 ?_;refine Df ?_;intro we hpd;replace S3:=St.pd S3 hpd;have e0:=Option.some.inj hm;subst e0;exact Hf [_] rfl ⟨rfl,trivial⟩ ⟨_,L0,_,_,S3,rfl,h3⟩
theorem Pw {a0:List UInt8}{r:List UInt8}(hm:HC a0=some r):Sp prog 83 [sl eB a0] [] 0 (is (.ow 0) [.row 0 1 _ eB r] 1):=
 ⟨call83,fun η m As w vs hv0 hd S=>by
  have S:St m As w:=S;obtain⟨v0,u0,rfl,r0,hv1⟩:=Bq.cons_inv hv0;have f0:=Br.ofS Br.b r0.dd;obtain rfl:=Bq.nil_inv hv1;refine AB.mono (Pf S f0 hm) ?_;rintro v w' ⟨M,hle,y0,c0,S0,rfl,h0⟩;exact⟨M,(Yv [v]),_,_,_,hle,RT hd _,⟨rfl,rfl,rfl⟩,HD rfl,(.ow rfl (Dh S0)),(St.impL S0 (YL (Br.toR Br.b rfl rfl (Dh S0) h0) fun _ h=>h))⟩⟩
end Go.Proofs.YtibojdgdjhngiaaGreatDoor
