/- The walks of some functions, by the executor, written by program. Conditions: none. -/
import Derived.Test.YtibojdgdjhngiaaGreatDoorZf
import Derived.Test.YtibojdgdjhngiaaGreatDoorZg
set_option linter.unusedSimpArgs false
set_option linter.unusedVariables false
set_option maxHeartbeats 20000000
set_option maxRecDepth 100000
namespace Go.Proofs.YtibojdgdjhngiaaGreatDoor
open Go Go.Gw Go.Ax Tryz
def HT (a0:ByteArray):Option Bool:=Ad (DA a0 8 64) fun x1=>some x1
theorem OI {a0:ByteArray}{r:Bool}(hm:HT a0=some r):Sf prog 234 [.d (.s a0)] (.d (.t r)):=
 sp call234 func234 rfl ntmps234 rfl fun D0 As η0 m0 hd=>by
  unfold HT at hm;obtain⟨x1,q1,hm⟩:=Aa hm;refine gc (fun _=>MC q1) (by kernel_rfl) ?_;have e0:=Option.some.inj hm;subst e0;exact AL hd (by kernel_rfl)
def BA (a0:ByteArray)(a1:ByteArray):Option Bool:=Ad (gu (decide ((a0.size:Int)≥(a1.size:Int))) (VL a0 0 (a1.size:Int))) fun x1=>bnd (((decide ((a0.size:Int)≥(a1.size:Int)))&&(eqS x1 a1))) fun x2=>some x2
theorem GV {a0:ByteArray}{a1:ByteArray}{r:Bool}(hm:BA a0 a1=some r):Sf prog 271 [.d (.s a0),.d (.s a1)] (.d (.t r)):=
 sp call271 func271 rfl ntmps271 rfl fun D0 As η0 m0 hd=>by
  unfold BA at hm;obtain⟨x1,q1,hm⟩:=Aa hm;refine gcutSG (fun h=>Hf h q1) (by kernel_rfl) ?_;have hm:=Ba hm;let x2:Bool:=(((decide ((a0.size:Int)≥(a1.size:Int)))&&(eqS x1 a1)));have e0:=Option.some.inj hm;subst e0;exact AL hd (by kernel_rfl)
def BB (a0:ByteArray)(a1:ByteArray):Option (ByteArray×Bool):=Ad (BA a0 a1) fun x1=>if(!x1)=true then some (a0,false)else Ad (VL a0 (a1.size:Int) (a0.size:Int)) fun x2=>some (x2,true)
theorem GW {a0:ByteArray}{a1:ByteArray}{r:ByteArray×Bool}(hm:BB a0 a1=some r):Sf prog 265 [.d (.s a0),.d (.s a1)] (.tup [.d (.s r.1),.d (.t r.2)]):=
 sp call265 func265 rfl ntmps265 rfl fun D0 As η0 m0 hd=>by
  unfold BB at hm;obtain⟨x1,q1,hm⟩:=Aa hm;refine gc (fun _=>GV q1) (by kernel_rfl) ?_;refine gi hm (by kernel_rfl) (fun hc1 hm=> ?_) fun hc1 hm=> ?_
  ·skip;have e0:=Option.some.inj hm;subst e0;exact AL hd (by kernel_rfl)
  obtain⟨x2,q2,hm⟩:=Aa hm;refine gcutS (fun _=>q2) (by kernel_rfl) ?_;have e0:=Option.some.inj hm;subst e0;exact AL hd (by kernel_rfl)
def Ci (a0:ByteArray)(a1:ByteArray):Option (ByteArray×Bool):=Ad (BB a0 a1) fun x1=>some (x1.1,x1.2)
theorem KJ {a0:ByteArray}{a1:ByteArray}{r:ByteArray×Bool}(hm:Ci a0 a1=some r):Sf prog 255 [.d (.s a0),.d (.s a1)] (.tup [.d (.s r.1),.d (.t r.2)]):=
 sp call255 func255 rfl ntmps255 rfl fun D0 As η0 m0 hd=>by
  unfold Ci at hm;obtain⟨x1,q1,hm⟩:=Aa hm;refine gc (fun _=>GW q1) (by kernel_rfl) ?_;have e0:=Option.some.inj hm;subst e0;exact AL hd (by kernel_rfl)
def E0 (a0:ByteArray):Option (ByteArray×Bool×Bool):=Ad (HT a0) fun x1=>if x1=true then some (a0,false,true)else Ad (Ci a0 (⟨#[42,46]⟩:ByteArray)) fun x2=>Ad (gu x2.2 (DA x2.1 7 62)) fun x3=>some (x2.1,x2.2,(x2.2&&x3))
theorem Nr {a0:ByteArray}{r:ByteArray×Bool×Bool}(hm:E0 a0=some r):Sf prog 232 [.d (.s a0)] (.tup [.d (.s r.1),.d (.t r.2.1),.d (.t r.2.2)]):=
 sp call232 func232 rfl ntmps232 rfl fun D0 As η0 m0 hd=>by
  unfold E0 at hm;obtain⟨x1,q1,hm⟩:=Aa hm;refine gc (fun _=>OI q1) (by kernel_rfl) ?_;refine gi hm (by kernel_rfl) (fun hc1 hm=> ?_) fun hc1 hm=> ?_
  ·skip;have e0:=Option.some.inj hm;subst e0;exact AL hd (by kernel_rfl)
  obtain⟨x2,q2,hm⟩:=Aa hm;refine gc (fun _=>KJ q2) (by kernel_rfl) ?_;obtain⟨x3,q3,hm⟩:=Aa hm;refine gcG (fun h=>MC (Hf h q3)) (by kernel_rfl) ?_;have e0:=Option.some.inj hm;subst e0;exact AL hd (by kernel_rfl)
def EZ (a0:Bool):Option Int:=if a0=true then some 0 else some 110
theorem Mv {a0:Bool}{r:Int}(hm:EZ a0=some r):Sf prog 233 [.d (.t a0)] (.d (.i r)):=
 sp call233 func233 rfl ntmps233 rfl fun D0 As η0 m0 hd=>by
  unfold EZ at hm;refine gi hm (by kernel_rfl) (fun hc1 hm=> ?_) fun hc1 hm=> ?_
  ·skip;have e0:=Option.some.inj hm;subst e0;exact AL hd (by kernel_rfl)
  have e0:=Option.some.inj hm;subst e0;exact AL hd (by kernel_rfl)
def CQ (a0:ByteArray):Option Int:=Ad (E0 a0) fun x1=>Ad (EZ x1.2.2) fun x2=>some x2
theorem Ns {a0:ByteArray}{r:Int}(hm:CQ a0=some r):Sf prog 188 [.d (.s a0)] (.d (.i r)):=
 sp call188 func188 rfl ntmps188 rfl fun D0 As η0 m0 hd=>by
  unfold CQ at hm;obtain⟨x1,q1,hm⟩:=Aa hm;refine gc (fun _=>Nr q1) (by kernel_rfl) ?_;obtain⟨x2,q2,hm⟩:=Aa hm;refine gc (fun _=>Mv q2) (by kernel_rfl) ?_;have e0:=Option.some.inj hm;subst e0;exact AL hd (by kernel_rfl)
def DB (a0:ByteArray):Option Int:=Ad (HT a0) fun x1=>Ad (EZ x1) fun x2=>some x2
theorem Pr {a0:ByteArray}{r:Int}(hm:DB a0=some r):Sf prog 189 [.d (.s a0)] (.d (.i r)):=
 sp call189 func189 rfl ntmps189 rfl fun D0 As η0 m0 hd=>by
  unfold DB at hm;obtain⟨x1,q1,hm⟩:=Aa hm;refine gc (fun _=>OI q1) (by kernel_rfl) ?_;obtain⟨x2,q2,hm⟩:=Aa hm;refine gc (fun _=>Mv q2) (by kernel_rfl) ?_;have e0:=Option.some.inj hm;subst e0;exact AL hd (by kernel_rfl)
def Ep (i1:Int)(x2:ByteArray)(s1:(List (ByteArray×Bool))):Option (((List (ByteArray×Bool)))⊕Bool):=Ad (gu (!(lkB s1 x2)) (CQ x2)) fun x3=>if((lkB s1 x2)||(x3 !=0))=true then some (.inr false)else if(lkI s1 x2 0).isNone=true then some (.inl (s1++[(x2,true)]))else none
def EE (a0:List ByteArray)(a1:Int)(a2:Int):Option Bool:=Ad (Hc Ep a0 0 ([]:List (ByteArray×Bool))) fun x1=>match x1 with| .inr r=>some r| .inl y1=>bnd (((decide ((a0.length:Int)≥a1))&&(decide ((a0.length:Int)≤a2)))) fun x4=>some x4
theorem MV {a0:List ByteArray}{a1:Int}{a2:Int}{r:Bool}(hm:EE a0 a1 a2=some r):Sf prog 187 [sl eS a0,.d (.i a1),.d (.i a2),.fn (.func 188) [] []] (.d (.t r)):=
 sp call187 func187 rfl ntmps187 rfl fun D0 As η0 m0 hd=>by
  unfold EE at hm;refine gmkm (by kernel_rfl) ?_;obtain⟨x1,q1,hm⟩:=Aa hm;refine MZ 0 (E:=eS) (xs:=a0) 13 (by kernel_rfl) fun hle1=> ?_;refine gjU 0 (fun(y1:(List (ByteArray×Bool)))=>⟨[(0,sl eS a0),(1,.d (.i a1)),(2,.d (.i a2)),(12,.ow 0)],[(0,.hp 0 (.mp y1))],[],1⟩) (fun y1=>x1= .inl y1) (by kernel_rfl) (fun Jp bk1=> ?_) fun y1 hy=> ?_
  ·refine gl hd (fun(p:Int×((List (ByteArray×Bool))))=>let (p0,p_0):=p; ⟨[(0,sl eS a0),(1,.d (.i a1)),(2,.d (.i a2)),(3,.fn (.func 188) [] []),(9,.ow 0),(13,sl eS a0),(14,.d (.i (a0.length:Int))),(15,.d (.i p0)),(12,.ow 0)],[(0,.hp 0 (.mp p_0))],[],1⟩) (fun p=> ∃i:Nat,p.1=(i:Int)∧i≤a0.length∧Hc Ep (a0.drop i) (i:Int) p.2=some x1) (fun p=>a0.length-p.1.toNat) (0,([]:List (ByteArray×Bool))) ⟨0,rfl,Nat.zero_le _,q1⟩ (by kernel_rfl) ?_;rintro⟨_,s1⟩ ⟨i1,rfl,hi,q2⟩ Jl bl1;refine gi' (b:=decide ((i1:Int)<(a0.length:Int))) (by kernel_rfl) (fun hc2=> ?_) fun hc2=> ?_
   ·have hlt1:i1<a0.length:=by have:=of_decide_eq_true hc2; omega
    obtain⟨x2,y2,q5,q4,q3⟩:=LA q2 hlt1;unfold Ep at q4;refine FA (k:=1) (E:=eS) (fun _=>rfl) (fun _=>q5) (by kernel_rfl) ?_;refine glk s1 x2 (by kernel_rfl) ?_;obtain⟨x3,q6,q4⟩:=Aa q4;refine gcG (fun h=>Ns (Hf h q6)) (by kernel_rfl) ?_;refine gi q4 (by kernel_rfl) (fun hc1 q4=> ?_) fun hc1 q4=> ?_
    ·skip;cases q4;rcases q3 with ⟨sn,e,_⟩|⟨tn,e,e2⟩
     ·cases e
     cases e;cases e2;dsimp only at hm;have e0:=Option.some.inj hm;subst e0;exact AL hd (by kernel_rfl)
    obtain⟨q7,q4⟩:=CB q4;refine gup q7 (by kernel_rfl) ?_;have e0:=Option.some.inj q4;subst e0;rcases q3 with ⟨sn,e,q3'⟩|⟨tn,e,_⟩
    ·have e:=Sum.inl.inj e;subst e;exact gb bl1 hd (w64 ((i1:Int)+1),_) ⟨⟨i1+1,A4 hlt1 hle1,by omega,q3'⟩,G5 hlt1 hle1⟩ (by kernel_rfl)
    cases CN e
   have hlt1: ¬i1<a0.length:=by have:=of_decide_eq_false hc2; omega
   have e:=Kl q2 hlt1;cases e;exact gb bk1 hd _ rfl (by kernel_rfl)
  subst hy;dsimp only at hm;have hm:=Ba hm;let x4:Bool:=(((decide ((a0.length:Int)≥a1))&&(decide ((a0.length:Int)≤a2))));have e0:=Option.some.inj hm;subst e0;exact AL hd (by kernel_rfl)
def Eo (i1:Int)(x2:ByteArray)(s1:(List (ByteArray×Bool))):Option (((List (ByteArray×Bool)))⊕Bool):=Ad (gu (!(lkB s1 x2)) (DB x2)) fun x3=>if((lkB s1 x2)||(x3 !=0))=true then some (.inr false)else if(lkI s1 x2 0).isNone=true then some (.inl (s1++[(x2,true)]))else none
def ED (a0:List ByteArray)(a1:Int)(a2:Int):Option Bool:=Ad (Hc Eo a0 0 ([]:List (ByteArray×Bool))) fun x1=>match x1 with| .inr r=>some r| .inl y1=>bnd (((decide ((a0.length:Int)≥a1))&&(decide ((a0.length:Int)≤a2)))) fun x4=>some x4
theorem MU {a0:List ByteArray}{a1:Int}{a2:Int}{r:Bool}(hm:ED a0 a1 a2=some r):Sf prog 187 [sl eS a0,.d (.i a1),.d (.i a2),.fn (.func 189) [] []] (.d (.t r)):=
 sp call187 func187 rfl ntmps187 rfl fun D0 As η0 m0 hd=>by
  unfold ED at hm;refine gmkm (by kernel_rfl) ?_;obtain⟨x1,q1,hm⟩:=Aa hm;refine MZ 0 (E:=eS) (xs:=a0) 13 (by kernel_rfl) fun hle1=> ?_;refine gjU 0 (fun(y1:(List (ByteArray×Bool)))=>⟨[(0,sl eS a0),(1,.d (.i a1)),(2,.d (.i a2)),(12,.ow 0)],[(0,.hp 0 (.mp y1))],[],1⟩) (fun y1=>x1= .inl y1) (by kernel_rfl) (fun Jp bk1=> ?_) fun y1 hy=> ?_
  ·refine gl hd (fun(p:Int×((List (ByteArray×Bool))))=>let (p0,p_0):=p; ⟨[(0,sl eS a0),(1,.d (.i a1)),(2,.d (.i a2)),(3,.fn (.func 189) [] []),(9,.ow 0),(13,sl eS a0),(14,.d (.i (a0.length:Int))),(15,.d (.i p0)),(12,.ow 0)],[(0,.hp 0 (.mp p_0))],[],1⟩) (fun p=> ∃i:Nat,p.1=(i:Int)∧i≤a0.length∧Hc Eo (a0.drop i) (i:Int) p.2=some x1) (fun p=>a0.length-p.1.toNat) (0,([]:List (ByteArray×Bool))) ⟨0,rfl,Nat.zero_le _,q1⟩ (by kernel_rfl) ?_;rintro⟨_,s1⟩ ⟨i1,rfl,hi,q2⟩ Jl bl1;refine gi' (b:=decide ((i1:Int)<(a0.length:Int))) (by kernel_rfl) (fun hc2=> ?_) fun hc2=> ?_
   ·have hlt1:i1<a0.length:=by have:=of_decide_eq_true hc2; omega
    obtain⟨x2,y2,q5,q4,q3⟩:=LA q2 hlt1;unfold Eo at q4;refine FA (k:=1) (E:=eS) (fun _=>rfl) (fun _=>q5) (by kernel_rfl) ?_;refine glk s1 x2 (by kernel_rfl) ?_;obtain⟨x3,q6,q4⟩:=Aa q4;refine gcG (fun h=>Pr (Hf h q6)) (by kernel_rfl) ?_;refine gi q4 (by kernel_rfl) (fun hc1 q4=> ?_) fun hc1 q4=> ?_
    ·skip;cases q4;rcases q3 with ⟨sn,e,_⟩|⟨tn,e,e2⟩
     ·cases e
     cases e;cases e2;dsimp only at hm;have e0:=Option.some.inj hm;subst e0;exact AL hd (by kernel_rfl)
    obtain⟨q7,q4⟩:=CB q4;refine gup q7 (by kernel_rfl) ?_;have e0:=Option.some.inj q4;subst e0;rcases q3 with ⟨sn,e,q3'⟩|⟨tn,e,_⟩
    ·have e:=Sum.inl.inj e;subst e;exact gb bl1 hd (w64 ((i1:Int)+1),_) ⟨⟨i1+1,A4 hlt1 hle1,by omega,q3'⟩,G5 hlt1 hle1⟩ (by kernel_rfl)
    cases CN e
   have hlt1: ¬i1<a0.length:=by have:=of_decide_eq_false hc2; omega
   have e:=Kl q2 hlt1;cases e;exact gb bk1 hd _ rfl (by kernel_rfl)
  subst hy;dsimp only at hm;have hm:=Ba hm;let x4:Bool:=(((decide ((a0.length:Int)≥a1))&&(decide ((a0.length:Int)≤a2))));have e0:=Option.some.inj hm;subst e0;exact AL hd (by kernel_rfl)
def Cx (i1:Int)(x2:g_api_Promise)(s1:Int):Option ((Int)⊕Bool):=Ad (E6 x2) fun x3=>if((!x3)||(decide (x2.Log≤s1)))=true then some (.inr false)else some (.inl x2.Log)
def GD (a0:g_api_Cert):Option Bool:=Ad (Hc Cx a0.Proms 0 (-1)) fun x1=>match x1 with| .inr r=>some r| .inl y1=>Ad (DE a0.Serial) fun x4=>Ad (gu (!(!x4)) (DE a0.From)) fun x5=>Ad (gu (!((!x4)||(!x5))) (DE a0.Until)) fun x6=>bnd (((((!x4)||(!x5))||(!x6))||(decide (a0.From≥a0.Until)))) fun x7=>if x7=true then some false else Ad (DJ a0.Issuer) fun x8=>Ad (gu (!((((!x8)||((a0.Key.toNat:Int)==0))||(decide ((a0.Key.toNat:Int)≥2305843009213691579)))||(decide ((a0.Proms.length:Int)>4)))) (Fq a0.Sig)) fun x9=>bnd ((((((!x8)||((a0.Key.toNat:Int)==0))||(decide ((a0.Key.toNat:Int)≥2305843009213691579)))||(decide ((a0.Proms.length:Int)>4)))||(!x9))) fun x10=>if x10=true then some false else if a0.Ca=true then Ad (DJ a0.Subject) fun x11=>Ad (gu (((x11&&((a0.Names.length:Int)==0))&&(decide (a0.Depth≥0)))&&(decide (a0.Depth≤4))) (EE a0.Permit 0 8)) fun x12=>bnd (((((x11&&((a0.Names.length:Int)==0))&&(decide (a0.Depth≥0)))&&(decide (a0.Depth≤4)))&&x12)) fun x13=>some x13 else Ad (gu (eqS a0.Subject (⟨#[]⟩:ByteArray)) (ED a0.Names 1 8)) fun x14=>bnd (((((eqS a0.Subject (⟨#[]⟩:ByteArray))&&x14)&&(a0.Depth==0))&&((a0.Permit.length:Int)==0))) fun x15=>some x15
theorem PF {a0:g_api_Cert}{r:Bool}(hm:GD a0=some r):Sf prog 144 [ag (Ao a0)] (.d (.t r)):=
 sp call144 func144 rfl ntmps144 rfl fun D0 As η0 m0 hd=>by
  unfold GD at hm;obtain⟨x1,q1,hm⟩:=Aa hm;refine MZ 0 (E:=Ai) (xs:=a0.Proms) 7 (by kernel_rfl) fun hle1=> ?_;refine gjU 0 (fun(y1:Int)=>⟨[(1,.pb 0 0),(3,.d (.i y1))],[(0,.box 0 [.d (.i a0.Serial),.d (.s a0.Issuer),.d (.s a0.Subject),.d (.u a0.Key),sl eS a0.Names,.d (.i a0.From),.d (.i a0.Until),.d (.t a0.Ca),.d (.i a0.Depth),sl eS a0.Permit,sl Ai a0.Proms,.d (.u a0.Sig.E),.d (.u a0.Sig.S)] 59)],[],1⟩) (fun y1=>x1= .inl y1) (by kernel_rfl) (fun Jp bk1=> ?_) fun y1 hy=> ?_
  ·refine gl hd (fun(p:Int×(Int))=>let (p0,p_0):=p; ⟨[(1,.pb 0 0),(3,.d (.i p_0)),(7,sl Ai a0.Proms),(8,.d (.i (a0.Proms.length:Int))),(9,.d (.i p0))],[(0,.box 0 [.d (.i a0.Serial),.d (.s a0.Issuer),.d (.s a0.Subject),.d (.u a0.Key),sl eS a0.Names,.d (.i a0.From),.d (.i a0.Until),.d (.t a0.Ca),.d (.i a0.Depth),sl eS a0.Permit,sl Ai a0.Proms,.d (.u a0.Sig.E),.d (.u a0.Sig.S)] 59)],[],1⟩) (fun p=> ∃i:Nat,p.1=(i:Int)∧i≤a0.Proms.length∧Hc Cx (a0.Proms.drop i) (i:Int) p.2=some x1) (fun p=>a0.Proms.length-p.1.toNat) (0,(-1)) ⟨0,rfl,Nat.zero_le _,q1⟩ (by kernel_rfl) ?_;rintro⟨_,s1⟩ ⟨i1,rfl,hi,q2⟩ Jl bl1;refine gi' (b:=decide ((i1:Int)<(a0.Proms.length:Int))) (by kernel_rfl) (fun hc2=> ?_) fun hc2=> ?_
   ·have hlt1:i1<a0.Proms.length:=by have:=of_decide_eq_true hc2; omega
    obtain⟨x2,y2,q5,q4,q3⟩:=LA q2 hlt1;unfold Cx at q4;refine FA (k:=6) (E:=Ai) (fun _=>rfl) (fun _=>q5) (by kernel_rfl) ?_;obtain⟨x3,q6,q4⟩:=Aa q4;refine gc (fun _=>NC q6) (by kernel_rfl) ?_;refine gi q4 (by kernel_rfl) (fun hc1 q4=> ?_) fun hc1 q4=> ?_
    ·skip;cases q4;rcases q3 with ⟨sn,e,_⟩|⟨tn,e,e2⟩
     ·cases e
     cases e;cases e2;dsimp only at hm;have e0:=Option.some.inj hm;subst e0;exact AL hd (by kernel_rfl)
    have e0:=Option.some.inj q4;subst e0;rcases q3 with ⟨sn,e,q3'⟩|⟨tn,e,_⟩
    ·have e:=Sum.inl.inj e;subst e;exact gb bl1 hd (w64 ((i1:Int)+1),_) ⟨⟨i1+1,A4 hlt1 hle1,by omega,q3'⟩,G5 hlt1 hle1⟩ (by kernel_rfl)
    cases CN e
   have hlt1: ¬i1<a0.Proms.length:=by have:=of_decide_eq_false hc2; omega
   have e:=Kl q2 hlt1;cases e;exact gb bk1 hd _ rfl (by kernel_rfl)
  subst hy;dsimp only at hm;obtain⟨x4,q7,hm⟩:=Aa hm;refine gc (fun _=>Gh q7) (by kernel_rfl) ?_;obtain⟨x5,q8,hm⟩:=Aa hm;refine gcG (fun h=>Gh (Hf h q8)) (by kernel_rfl) ?_;obtain⟨x6,q9,hm⟩:=Aa hm;refine gcG (fun h=>Gh (Hf h q9)) (by kernel_rfl) ?_;have hm:=Ba hm;let x7:Bool:=(((((!x4)||(!x5))||(!x6))||(decide (a0.From≥a0.Until))));refine gi hm (by kernel_rfl) (fun hc3 hm=> ?_) fun hc3 hm=> ?_
  ·skip;have e0:=Option.some.inj hm;subst e0;exact AL hd (by kernel_rfl)
  obtain⟨x8,q11,hm⟩:=Aa hm;refine gc (fun _=>NB q11) (by kernel_rfl) ?_;obtain⟨x9,q12,hm⟩:=Aa hm;refine gcG (fun h=>Lg (Hf h q12)) (by kernel_rfl) ?_;have hm:=Ba hm;let x10:Bool:=((((((!x8)||((a0.Key.toNat:Int)==0))||(decide ((a0.Key.toNat:Int)≥2305843009213691579)))||(decide ((a0.Proms.length:Int)>4)))||(!x9)));refine gi hm (by kernel_rfl) (fun hc4 hm=> ?_) fun hc4 hm=> ?_
  ·skip;have e0:=Option.some.inj hm;subst e0;exact AL hd (by kernel_rfl)
  refine gi hm (by kernel_rfl) (fun hc5 hm=> ?_) fun hc5 hm=> ?_
  ·skip;obtain⟨x11,q14,hm⟩:=Aa hm;refine gc (fun _=>NB q14) (by kernel_rfl) ?_;obtain⟨x12,q15,hm⟩:=Aa hm;refine gcG (fun h=>MV (Hf h q15)) (by kernel_rfl) ?_;have hm:=Ba hm;let x13:Bool:=(((((x11&&((a0.Names.length:Int)==0))&&(decide (a0.Depth≥0)))&&(decide (a0.Depth≤4)))&&x12));have e0:=Option.some.inj hm;subst e0;exact AL hd (by kernel_rfl)
  obtain⟨x14,q17,hm⟩:=Aa hm;refine gcG (fun h=>MU (Hf h q17)) (by kernel_rfl) ?_;have hm:=Ba hm;let x15:Bool:=(((((eqS a0.Subject (⟨#[]⟩:ByteArray))&&x14)&&(a0.Depth==0))&&((a0.Permit.length:Int)==0)));have e0:=Option.some.inj hm;subst e0;exact AL hd (by kernel_rfl)
def AM (a0:List g_api_Item):Option (List g_api_Item):=Ad (app 56 ([]:List g_api_Item) a0) fun x1=>some x1
theorem GP {m:Mem}{As:List Ow}{w:World}{a0:List g_api_Item}{a0v0:Value}{r:List g_api_Item}(S:St m (As) w)(a0h0:SlR m a0v0 a0)(hm:AM a0=some r):
  AG Tryz.prog 148 #[a0v0] w fun v w'=> ∃(M:Mem),m≤M∧∃(rv0:Value) (rc0:List Value),St M ((row 3 rv0 rc0 r.length)::As) w'∧v=rv0∧AX M rc0 r:=by
 unfold AM at hm;have L0:=Mem.rfl' m;refine CF (args:=[a0v0]) Tryz.func148 rfl Tryz.ntmps148 (Nat.le_of_ble_eq_true rfl) ?_;refine Ae ?_;refine Ac ?_;refine AQ (v:= .slice none 0 0) rfl ?_;refine Af ?_;refine nrm ?_;refine Ae ?_;refine Ae ?_;refine Ac ?_;refine Ar (v:=a0v0) rfl ?_;refine Lj rfl rfl a0h0 Tryz.underlying157 ?_;refine Af ?_;refine nrm ?_;refine BQ (t:=(KG a0v0)) rfl (fun hc1=> ?_) (fun hc1=> ?_)
 ·have he1:a0=[]:=SlR.nilOf a0h0 hc1;rw[he1]at hm;replace hm:(some ([]:List g_api_Item))=some _:=hm;refine Ae ?_;refine Ac ?_;refine AQ (v:= .slice none 0 0) rfl ?_;refine Af ?_;refine nrm ?_;refine Bf ?_;refine thR ?_;refine Dr ?_;intro we hpd;replace S:=St.pd S hpd;have S1:=St.rowNil S 3;have h1:AX m [] ([]:List g_api_Item):=AX.nil;replace S1:St _ ((row 3 (.slice none 0 0) [] ([]:List g_api_Item).length)::As) _:=S1;clear S;have e0:=Option.some.inj hm;subst e0;exact Hu [_] rfl ⟨rfl,trivial⟩ ⟨_,L0,_,_,S1,rfl,h1⟩
 refine AT ?_;refine nrm ?_;refine Ae ?_;refine Ac ?_;refine Ke (parts:=[]) (vs:=[]) (cls:=[]) (n:=0) (sz:=3) S Tryz.underlying157 Tryz.sizeOf159 Tryz.zeroValue159 rfl trivial rfl rfl (by decide) (by decide) ?_;intro v1 w1 S2;have h2:AX m [] ([]:List g_api_Item):=AX.nil;replace S2:St _ ((row 3 v1 [] ([]:List g_api_Item).length)::As) _:=S2;clear S;refine Ar (v:=a0v0) rfl ?_;obtain⟨x1,q1,hm⟩:=Aa hm;refine Ot (i:=0) (zs:=x1) (bytes:=56) (ti:=Tryz.t159) S2 rfl rfl h2 rfl rfl a0h0 q1 Tryz.underlying157 Tryz.type159 rfl rfl rfl rfl ?_;intro v2 c1 w2 S3 h3;replace S3:St _ ((row 3 v2 c1 x1.length)::As) _:=S3;clear S2;refine AQ (v:=v2) rfl ?_;refine Af ?_;refine nrm ?_;refine Bf ?_;refine Dr ?_;intro we hpd;replace S3:=St.pd S3 hpd;have e0:=Option.some.inj hm;subst e0;exact Hu [_] rfl ⟨rfl,trivial⟩ ⟨_,L0,_,_,S3,rfl,h3⟩
theorem DN {a0:List g_api_Item}{r:List g_api_Item}(hm:AM a0=some r):Sp prog 148 [sl Ag a0] [] 0 (is (.ow 0) [.row 0 3 _ Ag r] 1):=
 ⟨call148,fun η m As w vs hv0 hd S=>by
  have S:St m As w:=S;obtain⟨v0,u0,rfl,r0,hv1⟩:=BH.cons_inv hv0;have f0:=Br.ofS Mr r0.dd;obtain rfl:=BH.nil_inv hv1;refine AG.mono (GP S f0 hm) ?_;rintro v w' ⟨M,hle,y0,c0,S0,rfl,h0⟩;exact⟨M,(Y8 [v]),_,_,_,hle,SE hd _,⟨rfl,rfl,rfl⟩,HR rfl,(.ow rfl (Dt S0)),(St.impL S0 (Zo (Br.toR Mr rfl rfl (Dt S0) h0) fun _ h=>h))⟩⟩
def E4 (a0:List g_api_Item):Option g_api_Item:=Ad (AM a0) fun x1=>some (⟨48,[],x1⟩:g_api_Item)
theorem H5 {a0:List g_api_Item}{r:g_api_Item}(hm:E4 a0=some r):Sf prog 103 [sl Ag a0] (ag (Ag r)):=
 sp call103 func103 rfl ntmps103 rfl fun D0 As η0 m0 hd=>by
  unfold E4 at hm;obtain⟨x1,q1,hm⟩:=Aa hm;refine gco (DN q1) (by kernel_rfl) ?_;have e0:=Option.some.inj hm;subst e0;exact AL hd (by kernel_rfl)
def IN (a0:Int)(i1:Int)(s1:UInt8×UInt8×UInt8×UInt8×UInt8×UInt8×UInt8×UInt8):Option (UInt8×UInt8×UInt8×UInt8×UInt8×UInt8×UInt8×UInt8):=if(0:Int)≤(w64 (56-(w64 (8*(i1:Int)))))then Ad (idx [s1.1,s1.2.1,s1.2.2.1,s1.2.2.2.1,s1.2.2.2.2.1,s1.2.2.2.2.2.1,s1.2.2.2.2.2.2.1,s1.2.2.2.2.2.2.2] (i1:Int)) fun x4=>bnd (if(i1:Int)=0 then(toB (B1 a0 ((w64 (56-(w64 (8*(i1:Int))))).toNat)))else s1.1) fun x5=>bnd (if(i1:Int)=1 then(toB (B1 a0 ((w64 (56-(w64 (8*(i1:Int))))).toNat)))else s1.2.1) fun x6=>bnd (if(i1:Int)=2 then(toB (B1 a0 ((w64 (56-(w64 (8*(i1:Int))))).toNat)))else s1.2.2.1) fun x7=>bnd (if(i1:Int)=3 then(toB (B1 a0 ((w64 (56-(w64 (8*(i1:Int))))).toNat)))else s1.2.2.2.1) fun x8=>bnd (if(i1:Int)=4 then(toB (B1 a0 ((w64 (56-(w64 (8*(i1:Int))))).toNat)))else s1.2.2.2.2.1) fun x9=>bnd (if(i1:Int)=5 then(toB (B1 a0 ((w64 (56-(w64 (8*(i1:Int))))).toNat)))else s1.2.2.2.2.2.1) fun x10=>bnd (if(i1:Int)=6 then(toB (B1 a0 ((w64 (56-(w64 (8*(i1:Int))))).toNat)))else s1.2.2.2.2.2.2.1) fun x11=>bnd (if(i1:Int)=7 then(toB (B1 a0 ((w64 (56-(w64 (8*(i1:Int))))).toNat)))else s1.2.2.2.2.2.2.2) fun x12=>some (x5,x6,x7,x8,x9,x10,x11,x12)else none
def Da (s2:(List UInt8)):Option (((List UInt8))⊕((List UInt8))):=Ad (if(decide ((s2.length:Int)>1))=true then Ad (FX s2) fun x18=>some (!x18)else some false) fun x17=>if x17=true then Ad (cut s2 1 (s2.length:Int)) fun x19=>some (.inl x19)else some (.inr s2)
def EC (a0:Int):Option g_api_Item:=Ad (Ad (BE (IN a0) 8 0 (0,0,0,0,0,0,0,0)) fun x2=>some (x2.1,x2.2.1,x2.2.2.1,x2.2.2.2.1,x2.2.2.2.2.1,x2.2.2.2.2.2.1,x2.2.2.2.2.2.2.1,x2.2.2.2.2.2.2.2)) fun x1=>Ad (Ad (iter Da C3 ([x1.1,x1.2.1,x1.2.2.1,x1.2.2.2.1,x1.2.2.2.2.1,x1.2.2.2.2.2.1,x1.2.2.2.2.2.2.1,x1.2.2.2.2.2.2.2]:List UInt8)) fun x14=>some x14) fun x13=>Ad (A7 x13) fun x20=>some (⟨2,x20,[]⟩:g_api_Item)
theorem Wd {m:Mem}{As:List Ow}{w:World}{a0:Int}{r:g_api_Item}(S:St m (As) w)(hm:EC a0=some r):
  AG Tryz.prog 104 #[vI a0] w fun v w'=> ∃(M:Mem),m≤M∧∃(rv0_1:Value) (rv0_2:Value),St M (As) w'∧v= .agg #[vI r.Tag,rv0_1,rv0_2]∧SlR M rv0_1 r.B∧SlR M rv0_2 r.L:=by
 unfold EC at hm;have L0:=Mem.rfl' m;refine CF (args:=[vI a0]) Tryz.func104 rfl Tryz.ntmps104 (Nat.le_of_ble_eq_true rfl) ?_;refine Ae ?_;refine Ac ?_;refine EN S Tryz.zeroValue159 ?_;intro b1 w1 S1;replace S1:St _ ((bx b1 [vI 0,.slice none 0 0,.slice none 0 0] 159)::As) _:=S1;clear S;refine Af ?_;refine nrm ?_;refine Ae ?_;refine Ac ?_;refine EN S1 Tryz.zeroValue192 ?_;intro b2 w2 S2;replace S2:St _ ((bx b2 [vB 0,vB 0,vB 0,vB 0,vB 0,vB 0,vB 0,vB 0] 192)::(bx b1 [vI 0,.slice none 0 0,.slice none 0 0] 159)::As) _:=S2;clear S1;refine Af ?_;refine nrm ?_;obtain⟨x1,q1,hm⟩:=Aa hm;have L1:=Mem.rfl' m;refine Ae ?_;refine AY [4,6,7,8,9,10,11,12,13,14,15,16,17] (fun f' w'=> ∃(M1:Mem),m≤M1∧St M1 ((bx b2 [vB x1.1,vB x1.2.1,vB x1.2.2.1,vB x1.2.2.2.1,vB x1.2.2.2.2.1,vB x1.2.2.2.2.2.1,vB x1.2.2.2.2.2.2.1,vB x1.2.2.2.2.2.2.2] 192)::(bx b1 [vI 0,.slice none 0 0,.slice none 0 0] 159)::As) w'∧BV f' []) ?_ ?_
 ·refine Ae ?_;refine Ac ?_;refine Ar (v:=vI 0) rfl ?_;refine Af ?_;refine nrm ?_;obtain⟨x2,q2,q1⟩:=Aa q1;have L2:=Mem.rfl' m;refine AY [4,6,7,8,9,10,11,12,13,14,15,16,17] (fun f' w'=> ∃(M2:Mem),m≤M2∧St M2 ((bx b2 [vB x2.1,vB x2.2.1,vB x2.2.2.1,vB x2.2.2.2.1,vB x2.2.2.2.2.1,vB x2.2.2.2.2.2.1,vB x2.2.2.2.2.2.2.1,vB x2.2.2.2.2.2.2.2] 192)::(bx b1 [vI 0,.slice none 0 0,.slice none 0 0] 159)::As) w'∧BV f' []) ?_ ?_
  ·refine AD ?_;refine BJ [4,6,7,8,9,10,11,12,13,14,15,16,17] (fun n1 f' w'=> ∃(i1:Nat) (s1:UInt8×UInt8×UInt8×UInt8×UInt8×UInt8×UInt8×UInt8) (m2:Mem),n1=8-i1∧i1≤8∧BE (IN a0) (8-i1) (i1:Int) s1=some x2∧m≤m2∧St m2 ((bx b2 [vB s1.1,vB s1.2.1,vB s1.2.2.1,vB s1.2.2.2.1,vB s1.2.2.2.2.1,vB s1.2.2.2.2.2.1,vB s1.2.2.2.2.2.2.1,vB s1.2.2.2.2.2.2.2] 192)::(bx b1 [vI 0,.slice none 0 0,.slice none 0 0] 159)::As) w'∧BV f' [(6,vI (i1:Int))]) 8 ⟨0,(0,0,0,0,0,0,0,0),m,rfl,Nat.zero_le _,q2,L2,S2,⟨rfl,trivial⟩⟩ ?_;rintro n1 f1 w3 ho ⟨i1,s1,m1,hn,hi,q3,L4,S3,ha⟩;obtain⟨u1,rfl⟩:=Bj (N:=32) ho ha;clear ho ha;have L3:=Mem.rfl' m1;clear S2;refine Ae ?_;refine Ac ?_;refine H8 (m:=(i1:Int)) (n:=8) rfl rfl ?_;refine Af ?_;refine nrm ?_;refine Ae ?_;refine BQ (t:=decide ((i1:Int)<(8:Int))) rfl (fun hc1=> ?_) (fun hc1=> ?_)
   ·have hlt1:i1<8:=by have:=of_decide_eq_true hc1; omega
    obtain⟨y1,q5,q4⟩:=DF q3 hlt1;unfold IN at q5;refine AT ?_;refine nrm ?_;refine Ae ?_;refine AD ?_;refine Ae ?_;refine Ac ?_;refine Ar (v:=vI (i1:Int)) rfl ?_;refine AQ (v:=vI (i1:Int)) rfl ?_;refine Af ?_;refine nrm ?_;refine Ac ?_;refine Ar (v:=vI (i1:Int)) rfl ?_;refine Ar (v:=vI a0) rfl ?_;refine Ar (v:=vI (i1:Int)) rfl ?_;refine MD (m:=8) (n:=(i1:Int)) rfl rfl ?_;refine Jg (m:=56) (n:=(w64 (8*(i1:Int)))) rfl rfl ?_;obtain⟨q7,q5⟩:=CB q5;refine WE (m:=a0) (n:=(w64 (56-(w64 (8*(i1:Int)))))) rfl rfl q7 ?_;refine P3 rfl Tryz.underlying3 Tryz.underlying5 ?_;obtain⟨x4,q8,q5⟩:=Aa q5;refine ME (i:=(i1:Int)) rfl rfl Tryz.underlying192 Tryz.sizeOf5 (BU q8).1 (BU q8).2 ?_;obtain⟨x5,q9,q5⟩:=Cd q5;obtain⟨x6,q10,q5⟩:=Cd q5;obtain⟨x7,q11,q5⟩:=Cd q5;obtain⟨x8,q12,q5⟩:=Cd q5;obtain⟨x9,q13,q5⟩:=Cd q5;obtain⟨x10,q14,q5⟩:=Cd q5;obtain⟨x11,q15,q5⟩:=Cd q5;obtain⟨x12,q16,q5⟩:=Cd q5;refine AaD (i:=0) (off:=0+(i1:Int).toNat*1) S3 rfl rfl rfl Tryz.sizeOf5 (U6.all (Ho rfl Lq)) (by rcases idx8 q8 with ⟨h,h'⟩|⟨h,h'⟩|⟨h,h'⟩|⟨h,h'⟩|⟨h,h'⟩|⟨h,h'⟩|⟨h,h'⟩|⟨h,h'⟩<;>(rw[h]; exact Nat.le_of_ble_eq_true rfl)) ?_;intro w4 S4;replace S4:=St.cellsTo (i:=0) (l':=[vB x5,vB x6,vB x7,vB x8,vB x9,vB x10,vB x11,vB x12]) S4 (by rcases idx8 q8 with ⟨h,h'⟩|⟨h,h'⟩|⟨h,h'⟩|⟨h,h'⟩|⟨h,h'⟩|⟨h,h'⟩|⟨h,h'⟩|⟨h,h'⟩<;>(simp only[q9,q10,q11,q12,q13,q14,q15,q16,h]; rfl)) rfl;replace S4:St _ ((bx b2 [vB x5,vB x6,vB x7,vB x8,vB x9,vB x10,vB x11,vB x12] 192)::(bx b1 [vI 0,.slice none 0 0,.slice none 0 0] 159)::As) _:=S4;clear S3;refine Af ?_;refine KF ?_;refine nrm ?_;refine Ac ?_;refine Eu (m:=(i1:Int)) (n:=1) rfl rfl ?_;refine Ar (v:=vI (w64 ((i1:Int)+1))) rfl ?_;refine Af ?_;refine nrm ?_;have e0:=Option.some.inj q5;subst e0;exact⟨Du,_,(by omega),⟨i1+1,(x5,x6,x7,x8,x9,x10,x11,x12),m1,rfl,hlt1,q4,Mem.tr L4 L3,S4,⟨congrArg (Value.int .i64) (A4 hlt1 (by decide)),trivial⟩⟩⟩
   have hlt1: ¬i1<8:=by have:=of_decide_eq_false hc1; omega
   have e:=Eq.symm (CX q3 hlt1);subst e;refine Cr ?_;refine thE ?_;refine thE ?_;refine exB ?_;refine nrm ?_;exact⟨Du,m1,Mem.tr L4 L3,S3,trivial⟩
  rintro f2 w5 ho ⟨m3,l1,S5,ha⟩;obtain⟨u2,rfl⟩:=Bj (N:=32) ho ha;clear ho ha;replace L1:=Mem.tr L1 l1;clear S2;have e0:=Option.some.inj q1;subst e0;exact⟨Du,m3,L1,S5,trivial⟩
 rintro f3 w6 ho ⟨m4,l2,S6,ha⟩;obtain⟨u3,rfl⟩:=Bj (N:=32) ho ha;replace L0:=Mem.tr L0 l2;clear S2;refine Ae ?_;refine Ac ?_;refine Li (k:=8) (n:=8) (sz:=1) (off:=0) rfl Tryz.underlying192 Tryz.sizeOf5 (.inl ⟨rfl,rfl⟩) (Nat.le_refl _) ?_;have S7:=St.bxRow (i:=0) (sz:=1) (n:=8) S6 rfl rfl (by decide);have h1:AX m4 [vB x1.1,vB x1.2.1,vB x1.2.2.1,vB x1.2.2.2.1,vB x1.2.2.2.2.1,vB x1.2.2.2.2.2.1,vB x1.2.2.2.2.2.2.1,vB x1.2.2.2.2.2.2.2] ([x1.1,x1.2.1,x1.2.2.1,x1.2.2.2.1,x1.2.2.2.2.1,x1.2.2.2.2.2.1,x1.2.2.2.2.2.2.1,x1.2.2.2.2.2.2.2]:List UInt8):=(AX.cons (c:=[vB x1.1]) rfl (AX.cons (c:=[vB x1.2.1]) rfl (AX.cons (c:=[vB x1.2.2.1]) rfl (AX.cons (c:=[vB x1.2.2.2.1]) rfl (AX.cons (c:=[vB x1.2.2.2.2.1]) rfl (AX.cons (c:=[vB x1.2.2.2.2.2.1]) rfl (AX.cons (c:=[vB x1.2.2.2.2.2.2.1]) rfl (AX.cons (c:=[vB x1.2.2.2.2.2.2.2]) rfl AX.nil))))))));replace S7:St _ ((row 1 (.slice (some ⟨b2,0,none⟩) 8 8) [vB x1.1,vB x1.2.1,vB x1.2.2.1,vB x1.2.2.2.1,vB x1.2.2.2.2.1,vB x1.2.2.2.2.2.1,vB x1.2.2.2.2.2.2.1,vB x1.2.2.2.2.2.2.2] ([x1.1,x1.2.1,x1.2.2.1,x1.2.2.2.1,x1.2.2.2.2.1,x1.2.2.2.2.2.1,x1.2.2.2.2.2.2.1,x1.2.2.2.2.2.2.2]:List UInt8).length)::(bx b1 [vI 0,.slice none 0 0,.slice none 0 0] 159)::As) _:=S7;clear S6;refine AQ (v:=(.slice (some ⟨b2,0,none⟩) 8 8)) rfl ?_;refine Af ?_;refine nrm ?_;obtain⟨x13,q17,hm⟩:=Aa hm;have L5:=Mem.rfl' m4;refine Ae ?_;refine AY [5,19,20,21,22,23,24,25,26,27,28] (fun f' w'=> ∃(M3:Mem) (v1:Value),m4≤M3∧St M3 ((bx b1 [vI 0,.slice none 0 0,.slice none 0 0] 159)::As) w'∧SlR M3 v1 x13∧BV f' [(5,v1)]) ?_ ?_
 ·obtain⟨x14,q18,q17⟩:=Aa q17;have L6:=Mem.rfl' m4;obtain⟨m5,l3,h4,S8⟩:=St.rowKeepT (i:=0) S7 rfl h1 rfl;replace L6:=Mem.tr L6 l3;clear S7;refine AY [5,19,20,21,22,23,24,25,26,27,28] (fun f' w'=> ∃(M4:Mem) (v3:Value),m4≤M4∧St M4 ((bx b1 [vI 0,.slice none 0 0,.slice none 0 0] 159)::As) w'∧SlR M4 v3 x14∧BV f' [(5,v3)]) ?_ ?_
  ·refine AD ?_;refine BJ [5,19,20,21,22,23,24,25,26,27,28] (fun n2 f' w'=> ∃(s2:(List UInt8)) (m10:Mem) (v2:Value),iter Da n2 s2=some x14∧m4≤m10∧St m10 ((bx b1 [vI 0,.slice none 0 0,.slice none 0 0] 159)::As) w'∧SlR m10 v2 s2∧BV f' [(5,v2)]) C3 ⟨([x1.1,x1.2.1,x1.2.2.1,x1.2.2.2.1,x1.2.2.2.2.1,x1.2.2.2.2.2.1,x1.2.2.2.2.2.2.1,x1.2.2.2.2.2.2.2]:List UInt8),m5,_,q18,L6,S8,h4,⟨rfl,trivial⟩⟩ ?_;rintro n2 f4 w7 ho ⟨s2,m6,v2,q19,L8,S9,h3,ha⟩;obtain⟨u4,rfl⟩:=Bj (N:=32) ho ha;clear ho ha;have L7:=Mem.rfl' m6;clear S8;cases n2 with
   |zero=>exact(Bq q19).elim
   |succ n2=>
    obtain⟨y2,q21,q20⟩:=Bi q19;unfold Da at q21;refine Ae ?_;refine Ae ?_;refine Ac ?_;refine Ar (v:=v2) rfl ?_;refine Hm (xs:=s2) rfl h3 Tryz.underlying75 ?_;refine Oq (m:=(s2.length:Int)) (n:=1) rfl rfl ?_;refine Ar (v:=vb (decide ((s2.length:Int)>1))) rfl ?_;obtain⟨x17,q24,q21⟩:=Aa q21;have L9:=Mem.rfl' m6;refine Pk 4 [23,24,25,26] (fun f' w'=> ∃(M5:Mem),m6≤M5∧St M5 ((bx b1 [vI 0,.slice none 0 0,.slice none 0 0] 159)::As) w'∧BV f' [(26,vb x17)]) ?_ ?_
    ·rcases QU (decide ((s2.length:Int)>1))with hb1|hb1
     ·replace q24:=ifT hb1 q24;refine Fx (d:=22) rfl rfl (congrArg Value.bool hb1) ?_;refine Ar (v:=v2) rfl ?_;refine Fx (d:=22) rfl rfl (congrArg Value.bool hb1) ?_;obtain⟨x18,q25,q24⟩:=Aa q24;refine CO Tryz.call149 (SW (a0:=s2) S9 h3 q25) rfl ?_;rintro _ w9 ⟨m8,l5,S11,rfl⟩;replace h3:=h3.up l5;replace L9:=Mem.tr L9 l5;clear S9;replace S11:St _ ((bx b1 [vI 0,.slice none 0 0,.slice none 0 0] 159)::As) _:=S11;refine Fx (d:=22) rfl rfl (congrArg Value.bool hb1) ?_;refine RD rfl ?_;refine Jv (congrArg Value.bool hb1) rfl ?_;refine Af (nrm ?_);have e0:=Option.some.inj q24;subst e0;exact⟨Du,m8,L9,S11,⟨rfl,trivial⟩⟩
     replace q24:=ifF hb1 q24;refine Gd (d:=22) rfl rfl (congrArg Value.bool hb1) ?_;refine Gd (d:=22) rfl rfl (congrArg Value.bool hb1) ?_;refine Gd (d:=22) rfl rfl (congrArg Value.bool hb1) ?_;refine Jw (congrArg Value.bool hb1) rfl ?_;refine Af (nrm ?_);have e0:=Option.some.inj q24;subst e0;exact⟨Du,m6,L9,S9,⟨rfl,trivial⟩⟩
    rintro f5 w10 ho ⟨m9,l6,S12,ha⟩;obtain⟨u5,rfl⟩:=Bj (N:=32) ho ha;replace h3:=h3.up l6;replace L7:=Mem.tr L7 l6;clear S9;refine Af ?_;refine nrm ?_;refine BQ (t:=x17) rfl (fun hc2=> ?_) (fun hc2=> ?_)
    ·replace q21:=ifT hc2 q21;refine AT ?_;refine nrm ?_;refine AD ?_;refine Ac ?_;refine Ar (v:=v2) rfl ?_;obtain⟨x19,q26,q21⟩:=Aa q21;refine P2 (ys:=x19) (l:=1) (h:=(s2.length:Int)) rfl h3 Tryz.underlying75 Tryz.sizeOf5 (.inr ⟨_,rfl⟩) (.inl ⟨rfl,rfl⟩) (.inl rfl) q26 ?_;intro v4 h6;refine AQ (v:=v4) rfl ?_;refine Af ?_;refine KF ?_;refine nrm ?_;have e0:=Option.some.inj q21;subst e0;rcases q20 with ⟨sn,e,q20'⟩|e
     ·cases e;exact⟨Du,_,Nat.lt_succ_self _,⟨_,m9,_,q20',Mem.tr L8 L7,S12,h6,⟨rfl,trivial⟩⟩⟩
     ·cases e
    replace q21:=ifF hc2 q21;refine Cr ?_;refine thE ?_;refine thE ?_;refine exB ?_;refine nrm ?_;have e0:=Option.some.inj q21;subst e0;rcases q20 with ⟨sn,e,_⟩|e
    ·cases e
    ·cases e;exact⟨Du,m9,_,Mem.tr L8 L7,S12,h3,⟨rfl,trivial⟩⟩
  rintro f6 w11 ho ⟨m11,v3,l7,S13,h5,ha⟩;obtain⟨u6,rfl⟩:=Bj (N:=32) ho ha;clear ho ha;replace L5:=Mem.tr L5 l7;clear S8;have e0:=Option.some.inj q17;subst e0;exact⟨Du,m11,_,L5,S13,h5,⟨rfl,trivial⟩⟩
 rintro f7 w12 ho ⟨m12,v1,l8,S14,h2,ha⟩;obtain⟨u7,rfl⟩:=Bj (N:=32) ho ha;replace L0:=Mem.tr L0 l8;clear S7;refine Ae ?_;refine Ac ?_;refine Ar (v:=v1) rfl ?_;obtain⟨x20,q27,hm⟩:=Aa hm;refine CO Tryz.call150 (FZ (a0:=x13) S14 h2 q27) rfl ?_;rintro v5 w13 ⟨m13,l9,_,c1,S15,rfl,h7⟩;replace h2:=h2.up l9;replace L0:=Mem.tr L0 l9;clear S14;replace S15:St _ ((row 1 v5 c1 x20.length)::(bx b1 [vI 0,.slice none 0 0,.slice none 0 0] 159)::As) _:=S15;obtain⟨m14,l10,h8,S16⟩:=St.rowKeepT (i:=0) S15 rfl h7 rfl;replace L0:=Mem.tr L0 l10;clear S15;refine P5 (parts:=[(0,.const (.int .i64 2)),(1,.tmp 30)]) (ps:=[(0,vI 2,[vI 2]),(1,v5,[v5])]) (cs:=[vI 2,v5,.slice none 0 0]) Tryz.zeroValue159 (I1.str (ss:=[1,1,1]) Tryz.underlying159 ⟨Tryz.sizeOf3,Tryz.sizeOf75,Tryz.sizeOf157,trivial⟩) rfl ⟨rfl,SlR.cells h8,trivial⟩ rfl ?_;refine IU (i:=0) S16 rfl rfl rfl Tryz.sizeOf159 (Ho rfl (Ho (SlR.one h8) (Ho rfl Lq))) rfl ?_;intro w14 S17;replace S17:St _ ((bx b1 [vI 2,v5,.slice none 0 0] 159)::As) _:=S17;clear S16;refine Af ?_;refine nrm ?_;refine Bf ?_;refine Dr ?_;intro we hpd;replace S17:=St.pd S17 hpd;have SR:=S17;obtain⟨m15,l11,S18⟩:=St.drop S17 0;replace h8:=h8.up l11;replace L0:=Mem.tr L0 l11;replace S18:St _ (As) _:=S18;have e0:=Option.some.inj hm;subst e0;exact Hu [_] rfl ⟨JA (i:=0) (off:=0) (cs:=[vI 2,v5,.slice none 0 0]) SR rfl rfl Tryz.isAgg159 Tryz.sizeOf159 rfl (fun h=>by cases h),trivial⟩ ⟨_,L0,_,_,S18,rfl,h8,SlR.nil⟩
theorem Ia {a0:Int}{r:g_api_Item}(hm:EC a0=some r):Sf prog 104 [.d (.i a0)] (ag (Ag r)):=
 ⟨call104,fun η m As w vs hv0 hd S=>by
  have S:St m As w:=S;obtain⟨v0,u0,rfl,r0,hv1⟩:=BH.cons_inv hv0;obtain rfl:=r0.i_inv;obtain rfl:=BH.nil_inv hv1;refine AG.mono (Wd S hm) ?_;rintro v w' ⟨M,hle,y0_0,y0_1,S0,rfl,h0_0,h0_1⟩;exact⟨M,none0,_,_,_,hle,SE hd _,⟨rfl,rfl,rfl⟩,fun n h=>absurd rfl h,(Br.toA Mr (Qr h0_0 h0_1)),S0⟩⟩
def D3 (a0:UInt64):Option g_api_Item:=Ad (EC (w64 (a0.toNat:Int))) fun x1=>some x1
theorem G2 {a0:UInt64}{r:g_api_Item}(hm:D3 a0=some r):Sf prog 106 [.d (.u a0)] (ag (Ag r)):=
 sp call106 func106 rfl ntmps106 rfl fun D0 As η0 m0 hd=>by
  unfold D3 at hm;obtain⟨x1,q1,hm⟩:=Aa hm;refine gc (fun _=>Ia q1) (by kernel_rfl) ?_;have e0:=Option.some.inj hm;subst e0;exact AL hd (by kernel_rfl)
def G9 (a0:ByteArray):Option g_api_Item:=Ad (app 1 ([]:List UInt8) a0.data.toList) fun x1=>some (⟨12,x1,[]⟩:g_api_Item)
theorem LQ {a0:ByteArray}{r:g_api_Item}(hm:G9 a0=some r):Sf prog 105 [.d (.s a0)] (ag (Ag r)):=
 sp call105 func105 rfl ntmps105 rfl fun D0 As η0 m0 hd=>by
  unfold G9 at hm;obtain⟨x1,q1,hm⟩:=Aa hm;refine gofS q1 (by kernel_rfl) ?_;have e0:=Option.some.inj hm;subst e0;exact AL hd (by kernel_rfl)
def Ku (a0:Bool):Option g_api_Item:=Ad (if a0=true then Ad (idx ([0]:List UInt8) 0) fun x2=>bnd (([0]:List UInt8).set (0:Int).toNat 255) fun x3=>some x3 else some ([0]:List UInt8)) fun x1=>some (⟨1,x1,[]⟩:g_api_Item)
theorem Vg {a0:Bool}{r:g_api_Item}(hm:Ku a0=some r):Sf prog 108 [.d (.t a0)] (ag (Ag r)):=
 sp call108 func108 rfl ntmps108 rfl fun D0 As η0 m0 hd=>by
  unfold Ku at hm;refine glit (k:=1) eB ([0]:List UInt8) (fun _=>rfl) (by kernel_rfl) ?_;obtain⟨x1,q1,hm⟩:=Aa hm;refine gj (fun(_:Unit)=>⟨[(2,.pb 0 0),(3,.ow 1)],[(0,.row 1 1 _ eB x1),(1,.box 0 [.d (.i 0),sl eB [],sl Ag []] 159)],[],2⟩) (fun _=>True) (by kernel_rfl) (fun Jp bk1=> ?_) fun _ _=> ?_
  ·refine gi q1 (by kernel_rfl) (fun hc1 q1=> ?_) fun hc1 q1=> ?_
   ·obtain⟨x2,q2,q1⟩:=Aa q1;refine gidxO (E:=eB) (fun _=>q2) (by kernel_rfl) ?_;have q1:=Ba q1;let x3:List UInt8:=(([0]:List UInt8).set (0:Int).toNat 255);refine gstO (k:=1) (E:=eB) 255 (fun _=>rfl) q2 (by kernel_rfl) ?_;have e0:=Option.some.inj q1;subst e0;exact gb bk1 hd () trivial (by kernel_rfl)
   have e0:=Option.some.inj q1;subst e0;exact gb bk1 hd () trivial (by kernel_rfl)
  have e0:=Option.some.inj hm;subst e0;exact AL hd (by kernel_rfl)
def Bu (i1:Int)(x3:ByteArray)(s1:(List g_api_Item)):Option ((List g_api_Item)):=Ad (G9 x3) fun x4=>Ad (app 56 s1 ([x4]:List g_api_Item)) fun x5=>some x5
def B9 (a0:List ByteArray):Option g_api_Item:=Ad (Ad (CC Bu a0 0 ([]:List g_api_Item)) fun x2=>some x2) fun x1=>Ad (E4 x1) fun x6=>some x6
theorem GZ {a0:List ByteArray}{r:g_api_Item}(hm:B9 a0=some r):Sf prog 107 [sl eS a0,.fn (.func 105) [] []] (ag (Ag r)):=
 sp call107 func107 rfl ntmps107 rfl fun D0 As η0 m0 hd=>by
  unfold B9 at hm;obtain⟨x1,q1,hm⟩:=Aa hm;obtain⟨x2,q2,q1⟩:=Aa q1;refine QD 0 Ag 5 3 (by kernel_rfl) ?_;refine MZ 0 (E:=eS) (xs:=a0) 8 (by kernel_rfl) fun hle1=> ?_;refine gjU 0 (fun(_:Unit)=>⟨[(4,.pb 0 0),(5,.ow 1)],[(0,.row 1 3 _ Ag x1),(1,.box 0 [.d (.i 0),sl eB [],sl Ag []] 159)],[],2⟩) (fun _=>True) (by kernel_rfl) (fun Jp bk1=> ?_) fun _ _=> ?_
  ·refine gjU 0 (fun(_:Unit)=>⟨[(4,.pb 0 0),(5,.ow 1)],[(0,.row 1 3 _ Ag x2),(1,.box 0 [.d (.i 0),sl eB [],sl Ag []] 159)],[],2⟩) (fun _=>True) (by kernel_rfl) (fun Jp bk2=> ?_) fun _ _=> ?_
   ·refine gl hd (fun(p:Int×((List g_api_Item)))=>let (p0,p_0):=p; ⟨[(1,.fn (.func 105) [] []),(4,.pb 0 0),(5,.ow 1),(8,sl eS a0),(9,.d (.i (a0.length:Int))),(10,.d (.i p0))],[(0,.row 1 3 _ Ag p_0),(1,.box 0 [.d (.i 0),sl eB [],sl Ag []] 159)],[],2⟩) (fun p=> ∃i:Nat,p.1=(i:Int)∧i≤a0.length∧CC Bu (a0.drop i) (i:Int) p.2=some x2) (fun p=>a0.length-p.1.toNat) (0,([]:List g_api_Item)) ⟨0,rfl,Nat.zero_le _,q2⟩ (by kernel_rfl) ?_;rintro⟨_,s1⟩ ⟨i1,rfl,hi,q3⟩ Jl bl1;refine gi' (b:=decide ((i1:Int)<(a0.length:Int))) (by kernel_rfl) (fun hc1=> ?_) fun hc1=> ?_
    ·have hlt1:i1<a0.length:=by have:=of_decide_eq_true hc1; omega
     obtain⟨x3,y1,q6,q5,q4⟩:=EU q3 hlt1;unfold Bu at q5;refine FA (k:=1) (E:=eS) (fun _=>rfl) (fun _=>q6) (by kernel_rfl) ?_;obtain⟨x4,q7,q5⟩:=Aa q5;refine gc (fun _=>LQ q7) (by kernel_rfl) ?_;refine CM (k:=3) Ag ([x4]:List g_api_Item) (fun _=>rfl) (by kernel_rfl) ?_;obtain⟨x5,q8,q5⟩:=Aa q5;refine Q2 (k:=3) (E:=Ag) (fun _=>rfl) q8 (by kernel_rfl) ?_;have e0:=Option.some.inj q5;subst e0;exact gb bl1 hd (w64 ((i1:Int)+1),x5) ⟨⟨i1+1,A4 hlt1 hle1,by omega,q4⟩,G5 hlt1 hle1⟩ (by kernel_rfl)
    have hlt1: ¬i1<a0.length:=by have:=of_decide_eq_false hc1; omega
    have e:=Eq.symm (DG q3 hlt1);subst e;exact gb bk2 hd () trivial (by kernel_rfl)
   have e0:=Option.some.inj q1;subst e0;exact gb bk1 hd () trivial (by kernel_rfl)
  obtain⟨x6,q9,hm⟩:=Aa hm;refine gco (H5 q9) (by kernel_rfl) ?_;have e0:=Option.some.inj hm;subst e0;exact AL hd (by kernel_rfl)
def HX (a0:g_api_Cert):Option g_api_Item:=Ad (EC a0.Serial) fun x1=>Ad (G9 a0.Issuer) fun x2=>Ad (G9 a0.Subject) fun x3=>Ad (D3 a0.Key) fun x4=>Ad (B9 a0.Names) fun x5=>Ad (EC a0.From) fun x6=>Ad (EC a0.Until) fun x7=>Ad (Ku a0.Ca) fun x8=>Ad (EC a0.Depth) fun x9=>Ad (B9 a0.Permit) fun x10=>Ad (E4 ([x1,x2,x3,x4,x5,x6,x7,x8,x9,x10]:List g_api_Item)) fun x11=>some x11
theorem OO {a0:g_api_Cert}{r:g_api_Item}(hm:HX a0=some r):Sf prog 66 [ag (Ao a0)] (ag (Ag r)):=
 sp call66 func66 rfl ntmps66 rfl fun D0 As η0 m0 hd=>by
  unfold HX at hm;obtain⟨x1,q1,hm⟩:=Aa hm;refine gc (fun _=>Ia q1) (by kernel_rfl) ?_;obtain⟨x2,q2,hm⟩:=Aa hm;refine gc (fun _=>LQ q2) (by kernel_rfl) ?_;obtain⟨x3,q3,hm⟩:=Aa hm;refine gc (fun _=>LQ q3) (by kernel_rfl) ?_;obtain⟨x4,q4,hm⟩:=Aa hm;refine gc (fun _=>G2 q4) (by kernel_rfl) ?_;obtain⟨x5,q5,hm⟩:=Aa hm;refine gc (fun _=>GZ q5) (by kernel_rfl) ?_;obtain⟨x6,q6,hm⟩:=Aa hm;refine gc (fun _=>Ia q6) (by kernel_rfl) ?_;obtain⟨x7,q7,hm⟩:=Aa hm;refine gc (fun _=>Ia q7) (by kernel_rfl) ?_;obtain⟨x8,q8,hm⟩:=Aa hm;refine gc (fun _=>Vg q8) (by kernel_rfl) ?_;obtain⟨x9,q9,hm⟩:=Aa hm;refine gc (fun _=>Ia q9) (by kernel_rfl) ?_;obtain⟨x10,q10,hm⟩:=Aa hm;refine gc (fun _=>GZ q10) (by kernel_rfl) ?_;refine CM (k:=3) Ag ([x1,x2,x3,x4,x5,x6,x7,x8,x9,x10]:List g_api_Item) (fun _=>rfl) (by kernel_rfl) ?_;obtain⟨x11,q11,hm⟩:=Aa hm;refine gc (fun _=>H5 q11) (by kernel_rfl) ?_;have e0:=Option.some.inj hm;subst e0;exact AL hd (by kernel_rfl)
def GF (a0:g_api_Promise):Option g_api_Item:=Ad (EC a0.Log) fun x1=>Ad (EC a0.At) fun x2=>Ad (D3 a0.Leaf.1) fun x3=>Ad (D3 a0.Leaf.2) fun x4=>Ad (D3 a0.Sig.E) fun x5=>Ad (D3 a0.Sig.S) fun x6=>Ad (E4 ([x1,x2,x3,x4,x5,x6]:List g_api_Item)) fun x7=>some x7
theorem PG {a0:g_api_Promise}{r:g_api_Item}(hm:GF a0=some r):Sf prog 236 [ag (Ai a0)] (ag (Ag r)):=
 sp call236 func236 rfl ntmps236 rfl fun D0 As η0 m0 hd=>by
  unfold GF at hm;obtain⟨x1,q1,hm⟩:=Aa hm;refine gc (fun _=>Ia q1) (by kernel_rfl) ?_;obtain⟨x2,q2,hm⟩:=Aa hm;refine gc (fun _=>Ia q2) (by kernel_rfl) ?_;obtain⟨x3,q3,hm⟩:=Aa hm;refine gc (fun _=>G2 q3) (by kernel_rfl) ?_;obtain⟨x4,q4,hm⟩:=Aa hm;refine gc (fun _=>G2 q4) (by kernel_rfl) ?_;obtain⟨x5,q5,hm⟩:=Aa hm;refine gc (fun _=>G2 q5) (by kernel_rfl) ?_;obtain⟨x6,q6,hm⟩:=Aa hm;refine gc (fun _=>G2 q6) (by kernel_rfl) ?_;refine CM (k:=3) Ag ([x1,x2,x3,x4,x5,x6]:List g_api_Item) (fun _=>rfl) (by kernel_rfl) ?_;obtain⟨x7,q7,hm⟩:=Aa hm;refine gc (fun _=>H5 q7) (by kernel_rfl) ?_;have e0:=Option.some.inj hm;subst e0;exact AL hd (by kernel_rfl)
def A3 (i1:Int)(x3:g_api_Promise)(s1:(List g_api_Item)):Option ((List g_api_Item)):=Ad (GF x3) fun x4=>Ad (app 56 s1 ([x4]:List g_api_Item)) fun x5=>some x5
def B0 (a0:List g_api_Promise):Option g_api_Item:=Ad (Ad (CC A3 a0 0 ([]:List g_api_Item)) fun x2=>some x2) fun x1=>Ad (E4 x1) fun x6=>some x6
theorem H6 {a0:List g_api_Promise}{r:g_api_Item}(hm:B0 a0=some r):Sf prog 235 [sl Ai a0,.fn (.func 236) [] []] (ag (Ag r)):=
 sp call235 func235 rfl ntmps235 rfl fun D0 As η0 m0 hd=>by
  unfold B0 at hm;obtain⟨x1,q1,hm⟩:=Aa hm;obtain⟨x2,q2,q1⟩:=Aa q1;refine QD 0 Ag 5 3 (by kernel_rfl) ?_;refine MZ 0 (E:=Ai) (xs:=a0) 8 (by kernel_rfl) fun hle1=> ?_;refine gjU 0 (fun(_:Unit)=>⟨[(4,.pb 0 0),(5,.ow 1)],[(0,.row 1 3 _ Ag x1),(1,.box 0 [.d (.i 0),sl eB [],sl Ag []] 159)],[],2⟩) (fun _=>True) (by kernel_rfl) (fun Jp bk1=> ?_) fun _ _=> ?_
  ·refine gjU 0 (fun(_:Unit)=>⟨[(4,.pb 0 0),(5,.ow 1)],[(0,.row 1 3 _ Ag x2),(1,.box 0 [.d (.i 0),sl eB [],sl Ag []] 159)],[],2⟩) (fun _=>True) (by kernel_rfl) (fun Jp bk2=> ?_) fun _ _=> ?_
   ·refine gl hd (fun(p:Int×((List g_api_Item)))=>let (p0,p_0):=p; ⟨[(1,.fn (.func 236) [] []),(4,.pb 0 0),(5,.ow 1),(8,sl Ai a0),(9,.d (.i (a0.length:Int))),(10,.d (.i p0))],[(0,.row 1 3 _ Ag p_0),(1,.box 0 [.d (.i 0),sl eB [],sl Ag []] 159)],[],2⟩) (fun p=> ∃i:Nat,p.1=(i:Int)∧i≤a0.length∧CC A3 (a0.drop i) (i:Int) p.2=some x2) (fun p=>a0.length-p.1.toNat) (0,([]:List g_api_Item)) ⟨0,rfl,Nat.zero_le _,q2⟩ (by kernel_rfl) ?_;rintro⟨_,s1⟩ ⟨i1,rfl,hi,q3⟩ Jl bl1;refine gi' (b:=decide ((i1:Int)<(a0.length:Int))) (by kernel_rfl) (fun hc1=> ?_) fun hc1=> ?_
    ·have hlt1:i1<a0.length:=by have:=of_decide_eq_true hc1; omega
     obtain⟨x3,y1,q6,q5,q4⟩:=EU q3 hlt1;unfold A3 at q5;refine FA (k:=6) (E:=Ai) (fun _=>rfl) (fun _=>q6) (by kernel_rfl) ?_;obtain⟨x4,q7,q5⟩:=Aa q5;refine gc (fun _=>PG q7) (by kernel_rfl) ?_;refine CM (k:=3) Ag ([x4]:List g_api_Item) (fun _=>rfl) (by kernel_rfl) ?_;obtain⟨x5,q8,q5⟩:=Aa q5;refine Q2 (k:=3) (E:=Ag) (fun _=>rfl) q8 (by kernel_rfl) ?_;have e0:=Option.some.inj q5;subst e0;exact gb bl1 hd (w64 ((i1:Int)+1),x5) ⟨⟨i1+1,A4 hlt1 hle1,by omega,q4⟩,G5 hlt1 hle1⟩ (by kernel_rfl)
    have hlt1: ¬i1<a0.length:=by have:=of_decide_eq_false hc1; omega
    have e:=Eq.symm (DG q3 hlt1);subst e;exact gb bk2 hd () trivial (by kernel_rfl)
   have e0:=Option.some.inj q1;subst e0;exact gb bk1 hd () trivial (by kernel_rfl)
  obtain⟨x6,q9,hm⟩:=Aa hm;refine gco (H5 q9) (by kernel_rfl) ?_;have e0:=Option.some.inj hm;subst e0;exact AL hd (by kernel_rfl)
def Iq (a0:g_api_Cert):Option g_api_Item:=Ad (HX a0) fun x1=>Ad (B0 a0.Proms) fun x2=>Ad (E4 ([x1,x2]:List g_api_Item)) fun x3=>some x3
theorem SS {a0:g_api_Cert}{r:g_api_Item}(hm:Iq a0=some r):Sf prog 190 [ag (Ao a0)] (ag (Ag r)):=
 sp call190 func190 rfl ntmps190 rfl fun D0 As η0 m0 hd=>by
  unfold Iq at hm;obtain⟨x1,q1,hm⟩:=Aa hm;refine gc (fun _=>OO q1) (by kernel_rfl) ?_;obtain⟨x2,q2,hm⟩:=Aa hm;refine gc (fun _=>H6 q2) (by kernel_rfl) ?_;refine CM (k:=3) Ag ([x1,x2]:List g_api_Item) (fun _=>rfl) (by kernel_rfl) ?_;obtain⟨x3,q3,hm⟩:=Aa hm;refine gc (fun _=>H5 q3) (by kernel_rfl) ?_;have e0:=Option.some.inj hm;subst e0;exact AL hd (by kernel_rfl)
def Hr (a0:g_api_Cert):Option g_api_Item:=Ad (Iq a0) fun x1=>Ad (D3 a0.Sig.E) fun x2=>Ad (D3 a0.Sig.S) fun x3=>Ad (E4 ([x2,x3]:List g_api_Item)) fun x4=>Ad (E4 ([x1,x4]:List g_api_Item)) fun x5=>some x5
theorem Rn {a0:g_api_Cert}{r:g_api_Item}(hm:Hr a0=some r):Sf prog 145 [ag (Ao a0)] (ag (Ag r)):=
 sp call145 func145 rfl ntmps145 rfl fun D0 As η0 m0 hd=>by
  unfold Hr at hm;obtain⟨x1,q1,hm⟩:=Aa hm;refine gc (fun _=>SS q1) (by kernel_rfl) ?_;obtain⟨x2,q2,hm⟩:=Aa hm;refine gc (fun _=>G2 q2) (by kernel_rfl) ?_;obtain⟨x3,q3,hm⟩:=Aa hm;refine gc (fun _=>G2 q3) (by kernel_rfl) ?_;refine CM (k:=3) Ag ([x2,x3]:List g_api_Item) (fun _=>rfl) (by kernel_rfl) ?_;obtain⟨x4,q4,hm⟩:=Aa hm;refine gc (fun _=>H5 q4) (by kernel_rfl) ?_;refine CM (k:=3) Ag ([x1,x4]:List g_api_Item) (fun _=>rfl) (by kernel_rfl) ?_;obtain⟨x5,q5,hm⟩:=Aa hm;refine gc (fun _=>H5 q5) (by kernel_rfl) ?_;have e0:=Option.some.inj hm;subst e0;exact AL hd (by kernel_rfl)
def D7 (a0:g_api_Cert):Option Int:=Ad (GD a0) fun x1=>if(!x1)=true then some 1 else Ad (Hr a0) fun x2=>Ad (Im x2) fun x3=>if((x3.2 !=0)||(decide ((x3.1.length:Int)>2048)))=true then some 2 else some 0
theorem My {a0:g_api_Cert}{r:Int}(hm:D7 a0=some r):Sf prog 101 [ag (Ao a0)] (.d (.i r)):=
 sp call101 func101 rfl ntmps101 rfl fun D0 As η0 m0 hd=>by
  unfold D7 at hm;obtain⟨x1,q1,hm⟩:=Aa hm;refine gc (fun _=>PF q1) (by kernel_rfl) ?_;refine gi hm (by kernel_rfl) (fun hc1 hm=> ?_) fun hc1 hm=> ?_
  ·skip;have e0:=Option.some.inj hm;subst e0;exact AL hd (by kernel_rfl)
  obtain⟨x2,q2,hm⟩:=Aa hm;refine gc (fun _=>Rn q2) (by kernel_rfl) ?_;obtain⟨x3,q3,hm⟩:=Aa hm;refine gco (Ri q3) (by kernel_rfl) ?_;refine gi hm (by kernel_rfl) (fun hc2 hm=> ?_) fun hc2 hm=> ?_
  ·skip;have e0:=Option.some.inj hm;subst e0;exact AL hd (by kernel_rfl)
  have e0:=Option.some.inj hm;subst e0;exact AL hd (by kernel_rfl)
def Dl (i1:Int)(x8:UInt8)(s1:Int):Option (Int):=bnd ((Oz (Iy s1 8) (w64 (x8.toNat:Int)))) fun x9=>some x9
def BI (a0:List UInt8):Option (Int×Int×Int):=if((a0.length:Int)==0)=true then some (0,0,70)else Ad (idx a0 0) fun x1=>if(decide ((w64 (x1.toNat:Int))<128))=true then some ((w64 (x1.toNat:Int)),1,0)else bnd ((w64 ((w64 (x1.toNat:Int))-128))) fun x2=>bnd ((((w64 (x1.toNat:Int)) !=129)&&((w64 (x1.toNat:Int)) !=130))) fun x3=>if x3=true then some (0,0,71)else bnd ((decide ((a0.length:Int)≤x2))) fun x4=>if x4=true then some (0,0,70)else Ad (Ad (cut a0 1 (w64 (x2+1))) fun x6=>Ad (CC Dl x6 0 0) fun x7=>some x7) fun x5=>if((decide (x5<128))||(((w64 (x1.toNat:Int))==130)&&(decide (x5<256))))=true then some (0,0,71)else some (x5,(w64 (x2+1)),0)
theorem Rg {a0:List UInt8}{r:Int×Int×Int}(hm:BI a0=some r):Sf prog 195 [sl eB a0] (.tup [.d (.i r.1),.d (.i r.2.1),.d (.i r.2.2)]):=
 sp call195 func195 rfl ntmps195 rfl fun D0 As η0 m0 hd=>by
  unfold BI at hm;refine gi hm (by kernel_rfl) (fun hc1 hm=> ?_) fun hc1 hm=> ?_
  ·skip;have e0:=Option.some.inj hm;subst e0;exact AL hd (by kernel_rfl)
  obtain⟨x1,q1,hm⟩:=Aa hm;refine FA (k:=1) (E:=eB) (fun _=>rfl) (fun _=>q1) (by kernel_rfl) ?_;refine gi hm (by kernel_rfl) (fun hc2 hm=> ?_) fun hc2 hm=> ?_
  ·skip;have e0:=Option.some.inj hm;subst e0;exact AL hd (by kernel_rfl)
  have hm:=Ba hm;let x2:Int:=((w64 ((w64 (x1.toNat:Int))-128)));have hm:=Ba hm;let x3:Bool:=((((w64 (x1.toNat:Int)) !=129)&&((w64 (x1.toNat:Int)) !=130)));refine gi hm (by kernel_rfl) (fun hc3 hm=> ?_) fun hc3 hm=> ?_
  ·skip;have e0:=Option.some.inj hm;subst e0;exact AL hd (by kernel_rfl)
  have hm:=Ba hm;let x4:Bool:=((decide ((a0.length:Int)≤x2)));refine gi hm (by kernel_rfl) (fun hc4 hm=> ?_) fun hc4 hm=> ?_
  ·skip;have e0:=Option.some.inj hm;subst e0;exact AL hd (by kernel_rfl)
  obtain⟨x5,q5,hm⟩:=Aa hm;obtain⟨x6,q6,q5⟩:=Aa q5;refine V0 (k:=1) (E:=eB) (fun _=>rfl) (fun _=>q6) (by kernel_rfl) ?_;obtain⟨x7,q7,q5⟩:=Aa q5;refine MZ 1 (E:=eB) (xs:=x6) 36 (by kernel_rfl) fun hle1=> ?_;refine gjU 1 (fun(_:Unit)=>⟨[(2,.d (.i x5)),(5,.d (.i (w64 (x1.toNat:Int)))),(6,.d (.i x2))],[],[],0⟩) (fun _=>True) (by kernel_rfl) (fun Jp bk1=> ?_) fun _ _=> ?_
  ·refine gjU 1 (fun(_:Unit)=>⟨[(2,.d (.i x7)),(5,.d (.i (w64 (x1.toNat:Int)))),(6,.d (.i x2))],[],[],0⟩) (fun _=>True) (by kernel_rfl) (fun Jp bk2=> ?_) fun _ _=> ?_
   ·refine gl hd (fun(p:Int×(Int))=>let (p0,p_0):=p; ⟨[(2,.d (.i p_0)),(5,.d (.i (w64 (x1.toNat:Int)))),(6,.d (.i x2)),(36,sl eB x6),(37,.d (.i (x6.length:Int))),(38,.d (.i p0))],[],[],0⟩) (fun p=> ∃i:Nat,p.1=(i:Int)∧i≤x6.length∧CC Dl (x6.drop i) (i:Int) p.2=some x7) (fun p=>x6.length-p.1.toNat) (0,0) ⟨0,rfl,Nat.zero_le _,q7⟩ (by kernel_rfl) ?_;rintro⟨_,s1⟩ ⟨i1,rfl,hi,q8⟩ Jl bl1;refine gi' (b:=decide ((i1:Int)<(x6.length:Int))) (by kernel_rfl) (fun hc5=> ?_) fun hc5=> ?_
    ·have hlt1:i1<x6.length:=by have:=of_decide_eq_true hc5; omega
     obtain⟨x8,y1,q11,q10,q9⟩:=EU q8 hlt1;unfold Dl at q10;refine FA (k:=1) (E:=eB) (fun _=>rfl) (fun _=>q11) (by kernel_rfl) ?_;have q10:=Ba q10;let x9:Int:=((Oz (Iy s1 8) (w64 (x8.toNat:Int))));have e0:=Option.some.inj q10;subst e0;exact gb bl1 hd (w64 ((i1:Int)+1),x9) ⟨⟨i1+1,A4 hlt1 hle1,by omega,q9⟩,G5 hlt1 hle1⟩ (by kernel_rfl)
    have hlt1: ¬i1<x6.length:=by have:=of_decide_eq_false hc5; omega
    have e:=Eq.symm (DG q8 hlt1);subst e;exact gb bk2 hd () trivial (by kernel_rfl)
   have e0:=Option.some.inj q5;subst e0;exact gb bk1 hd () trivial (by kernel_rfl)
  refine gi hm (by kernel_rfl) (fun hc6 hm=> ?_) fun hc6 hm=> ?_
  ·skip;have e0:=Option.some.inj hm;subst e0;exact AL hd (by kernel_rfl)
  have e0:=Option.some.inj hm;subst e0;exact AL hd (by kernel_rfl)
def SC (rF:(List UInt8)→Int→Option (g_api_Item×(List UInt8)×Int)):Prop:= ∀{a0:List UInt8} {a1:Int} {r:g_api_Item×(List UInt8)×Int},rF a0 a1=some r→Sf prog 151 [sl eB a0,.d (.i a1)] (.tup [ag (Ag r.1),sl eB r.2.1,.d (.i r.2.2)])
def Bp (rF:(List UInt8)→Int→Option (g_api_Item×(List UInt8)×Int))(a1:Int)(s1:(List UInt8)×(List UInt8)×(List g_api_Item)):Option (((List UInt8)×(List UInt8)×(List g_api_Item))⊕(((List UInt8)×(List g_api_Item))⊕(g_api_Item×(List UInt8)×Int))):=if(decide ((s1.2.1.length:Int)>0))=true then Ad (rF s1.2.1 (w64 (a1-1))) fun x12=>if(x12.2.2 !=0)=true then some (.inr (.inr ((⟨0,[],[]⟩:g_api_Item),([]:List UInt8),71)))else Ad (app 56 s1.2.2 ([x12.1]:List g_api_Item)) fun x13=>some (.inl (s1.1,x12.2.1,x13))else some (.inr (.inl (s1.1,s1.2.2)))
def En (rF:(List UInt8)→Int→Option (g_api_Item×(List UInt8)×Int))(a0:List UInt8)(a1:Int):Option (g_api_Item×(List UInt8)×Int):=if((a0.length:Int)==0)=true then some ((⟨0,[],[]⟩:g_api_Item),([]:List UInt8),70)else Ad (idx a0 0) fun x1=>Ad (F7 (w64 (x1.toNat:Int))) fun x2=>if((!x2.2)||(decide (a1<1)))=true then some ((⟨0,[],[]⟩:g_api_Item),([]:List UInt8),71)else Ad (cut a0 1 (a0.length:Int)) fun x3=>Ad (BI x3) fun x4=>if(x4.2.2 !=0)=true then some ((⟨0,[],[]⟩:g_api_Item),([]:List UInt8),x4.2.2)else if(decide ((w64 ((w64 (1+x4.2.1))+x4.1))>8192))=true then some ((⟨0,[],[]⟩:g_api_Item),([]:List UInt8),71)else Ad (cut a0 (w64 (1+x4.2.1)) (a0.length:Int)) fun x5=>if(decide (x4.1>(x5.length:Int)))=true then some ((⟨0,[],[]⟩:g_api_Item),([]:List UInt8),70)else Ad (cut x5 0 x4.1) fun x6=>Ad (cut x5 x4.1 (x5.length:Int)) fun x7=>if(x2.1.tag_ !=48)=true then Ad (Lu x2.1.may_ x6) fun x8=>if(!x8)=true then some ((⟨0,[],[]⟩:g_api_Item),([]:List UInt8),71)else Ad (A7 x6) fun x9=>some ((⟨x2.1.tag_,x9,[]⟩:g_api_Item),x7,0)else Ad (iter ((Bp rF) a1) C3 (x7,x6,([]:List g_api_Item))) fun x10=>match x10 with| .inr r=>some r| .inl y1=>some ((⟨x2.1.tag_,[],y1.2⟩:g_api_Item),y1.1,0)
theorem SP {rF:(List UInt8)→Int→Option (g_api_Item×(List UInt8)×Int)}(hF:SC rF){a0:List UInt8}{a1:Int}{r:g_api_Item×(List UInt8)×Int}(hm:En rF a0 a1=some r):Sf prog 151 [sl eB a0,.d (.i a1)] (.tup [ag (Ag r.1),sl eB r.2.1,.d (.i r.2.2)]):=
 sp call151 func151 rfl ntmps151 rfl fun D0 As η0 m0 hd=>by
  unfold En at hm;refine gi hm (by kernel_rfl) (fun hc1 hm=> ?_) fun hc1 hm=> ?_
  ·skip;have e0:=Option.some.inj hm;subst e0;exact AL hd (by kernel_rfl)
  obtain⟨x1,q1,hm⟩:=Aa hm;refine FA (k:=1) (E:=eB) (fun _=>rfl) (fun _=>q1) (by kernel_rfl) ?_;obtain⟨x2,q2,hm⟩:=Aa hm;refine gc (fun _=>ON q2) (by kernel_rfl) ?_;refine gi hm (by kernel_rfl) (fun hc2 hm=> ?_) fun hc2 hm=> ?_
  ·skip;have e0:=Option.some.inj hm;subst e0;exact AL hd (by kernel_rfl)
  obtain⟨x3,q3,hm⟩:=Aa hm;refine V0 (k:=1) (E:=eB) (fun _=>rfl) (fun _=>q3) (by kernel_rfl) ?_;obtain⟨x4,q4,hm⟩:=Aa hm;refine gc (fun _=>Rg q4) (by kernel_rfl) ?_;refine gi hm (by kernel_rfl) (fun hc3 hm=> ?_) fun hc3 hm=> ?_
  ·skip;have e0:=Option.some.inj hm;subst e0;exact AL hd (by kernel_rfl)
  refine gi hm (by kernel_rfl) (fun hc4 hm=> ?_) fun hc4 hm=> ?_
  ·skip;have e0:=Option.some.inj hm;subst e0;exact AL hd (by kernel_rfl)
  obtain⟨x5,q5,hm⟩:=Aa hm;refine V0 (k:=1) (E:=eB) (fun _=>rfl) (fun _=>q5) (by kernel_rfl) ?_;refine gi hm (by kernel_rfl) (fun hc5 hm=> ?_) fun hc5 hm=> ?_
  ·skip;have e0:=Option.some.inj hm;subst e0;exact AL hd (by kernel_rfl)
  obtain⟨x6,q6,hm⟩:=Aa hm;refine V0 (k:=1) (E:=eB) (fun _=>rfl) (fun _=>q6) (by kernel_rfl) ?_;obtain⟨x7,q7,hm⟩:=Aa hm;refine V0 (k:=1) (E:=eB) (fun _=>rfl) (fun _=>q7) (by kernel_rfl) ?_;refine gi hm (by kernel_rfl) (fun hc6 hm=> ?_) fun hc6 hm=> ?_
  ·skip;obtain⟨x8,q8,hm⟩:=Aa hm;refine gdyn (fun _=>Ua q8) (by kernel_rfl) ?_;refine gi hm (by kernel_rfl) (fun hc7 hm=> ?_) fun hc7 hm=> ?_
   ·skip;have e0:=Option.some.inj hm;subst e0;exact AL hd (by kernel_rfl)
   obtain⟨x9,q9,hm⟩:=Aa hm;refine gco (F0 q9) (by kernel_rfl) ?_;have e0:=Option.some.inj hm;subst e0;exact AL hd (by kernel_rfl)
  obtain⟨x10,q10,hm⟩:=Aa hm;refine gnilBU 0 Ag 4 2 3 (by kernel_rfl) ?_;refine gjU 0 (fun(y1:(List UInt8)×(List g_api_Item))=>let (y_0,y_1):=y1; ⟨[(4,.pb 0 0),(5,sl eB y_0),(7,.pb 1 0)],[(0,.row 2 3 _ Ag y_1),(1,.box 1 [.d (.i x2.1.tag_),.d (.v (fnV x2.1.may_))] 236),(2,.box 0 [.d (.i x2.1.tag_),sl eB [],.ow 2] 159)],[],3⟩) (fun y1=>x10= .inl y1) (by kernel_rfl) (fun Jp bk1=> ?_) fun y1 hy=> ?_
  ·refine gl hd (fun(p:Nat×((List UInt8)×(List UInt8)×(List g_api_Item)))=>let (p0,p_0,p_1,p_2):=p; ⟨[(1,.d (.i a1)),(4,.pb 0 0),(5,sl eB p_0),(11,sl eB p_1),(7,.pb 1 0)],[(0,.row 2 3 _ Ag p_2),(1,.box 1 [.d (.i x2.1.tag_),.d (.v (fnV x2.1.may_))] 236),(2,.box 0 [.d (.i x2.1.tag_),sl eB [],.ow 2] 159)],[],3⟩) (fun p=>iter ((Bp rF) a1) p.1 p.2=some x10) (fun p=>p.1) (C3,(x7,x6,([]:List g_api_Item))) q10 (by kernel_rfl) ?_;rintro⟨n1,s1⟩ q11 Jl bl1;cases n1 with
   |zero=>exact(Bq q11).elim
   |succ n1=>
    obtain⟨y2,q13,q12⟩:=Bi q11;unfold Bp at q13;refine gi q13 (by kernel_rfl) (fun hc8 q13=> ?_) fun hc8 q13=> ?_
    ·skip;obtain⟨x12,q15,q13⟩:=Aa q13;refine gc (fun _=>hF q15) (by kernel_rfl) ?_;refine gi q13 (by kernel_rfl) (fun hc9 q13=> ?_) fun hc9 q13=> ?_
     ·skip;cases q13;rcases q12 with ⟨sn,e,_⟩|e
      ·cases e
      cases e;dsimp only at hm;have e0:=Option.some.inj hm;subst e0;exact AL hd (by kernel_rfl)
     refine CM (k:=3) Ag ([x12.1]:List g_api_Item) (fun _=>rfl) (by kernel_rfl) ?_;obtain⟨x13,q16,q13⟩:=Aa q13;refine Q2 (k:=3) (E:=Ag) (fun _=>rfl) q16 (by kernel_rfl) ?_;have e0:=Option.some.inj q13;subst e0;rcases q12 with ⟨sn,e,q12'⟩|e
     ·have e:=Sum.inl.inj e;subst e;exact gb bl1 hd (n1,_) ⟨q12',Nat.lt_succ_self _⟩ (by kernel_rfl)
     cases CN e
    have e0:=Option.some.inj q13;subst e0;rcases q12 with ⟨sn,e,_⟩|e
    ·cases Fv e
    have e:=Sum.inr.inj e;subst e;exact gb bk1 hd (s1.1,s1.2.2) rfl (by kernel_rfl)
  subst hy;dsimp only at hm;have e0:=Option.some.inj hm;subst e0;exact AL hd (by kernel_rfl)
def Ev:Nat→(List UInt8)→Int→Option (g_api_Item×(List UInt8)×Int)
 |0,_,_=>none
 |n+1,a0,a1=>En (Ev n) a0 a1
def Lv (a0:List UInt8)(a1:Int):Option (g_api_Item×(List UInt8)×Int):=Ev C3 a0 a1
theorem OH: ∀n,SC (Ev n)
 |0=>fun hm=>by cases hm
 |n+1=>fun hm=>SP (OH n) hm
theorem Wc {a0:List UInt8}{a1:Int}{r:g_api_Item×(List UInt8)×Int}(hm:Lv a0 a1=some r):Sf prog 151 [sl eB a0,.d (.i a1)] (.tup [ag (Ag r.1),sl eB r.2.1,.d (.i r.2.2)]):=OH C3 hm
def Io (a0:List UInt8)(a1:Int):Option (g_api_Item×Int×Int):=if((decide (a1<0))||(decide (a1>(a0.length:Int))))=true then some ((⟨0,[],[]⟩:g_api_Item),0,1)else Ad (cut a0 a1 (a0.length:Int)) fun x1=>Ad (Lv x1 8) fun x2=>if(x2.2.2 !=0)=true then some ((⟨0,[],[]⟩:g_api_Item),0,x2.2.2)else bnd ((w64 ((a0.length:Int)-(x2.2.1.length:Int)))) fun x3=>some (x2.1,x3,0)
theorem We {a0:List UInt8}{a1:Int}{r:g_api_Item×Int×Int}(hm:Io a0 a1=some r):Sf prog 110 [sl eB a0,.d (.i a1)] (.tup [ag (Ag r.1),.d (.i r.2.1),.d (.i r.2.2)]):=
 sp call110 func110 rfl ntmps110 rfl fun D0 As η0 m0 hd=>by
  unfold Io at hm;refine gi hm (by kernel_rfl) (fun hc1 hm=> ?_) fun hc1 hm=> ?_
  ·skip;have e0:=Option.some.inj hm;subst e0;exact AL hd (by kernel_rfl)
  obtain⟨x1,q1,hm⟩:=Aa hm;refine V0 (k:=1) (E:=eB) (fun _=>rfl) (fun _=>q1) (by kernel_rfl) ?_;obtain⟨x2,q2,hm⟩:=Aa hm;refine gc (fun _=>Wc q2) (by kernel_rfl) ?_;refine gi hm (by kernel_rfl) (fun hc2 hm=> ?_) fun hc2 hm=> ?_
  ·skip;have e0:=Option.some.inj hm;subst e0;exact AL hd (by kernel_rfl)
  have hm:=Ba hm;let x3:Int:=((w64 ((a0.length:Int)-(x2.2.1.length:Int))));have e0:=Option.some.inj hm;subst e0;exact AL hd (by kernel_rfl)
def Qo:Value:= .iface 169 (.agg #[])
def Bc (a0:Bool):Option (Option Unit):=some (if a0=true then some ()else none)
theorem A2 {a0:Bool}{r:Option Unit}(hm:Bc a0=some r):Sb prog 112 [.d (.t a0)] [] 0 Qo (Pos r (fun r=> .tup []) (fun r=> []) 0) (r=none):=
 sb call112 func112 rfl ntmps112 rfl fun D0 As η0 m0 hd=>by
  have e0:=Option.some.inj hm;subst e0;refine gi' (b:= !a0) (by kernel_rfl) (fun hc=> ?_) fun hc=> ?_
  ·cases a0 with
   |true=>cases hc
   |false=>exact gthrow (by kernel_rfl) (by kernel_rfl)
  ·cases a0 with
   |true=>exact M0 hd (by kernel_rfl)
   |false=>cases hc
def HL (a0:g_api_Item):Option (List g_api_Item):=Ad (AM a0.L) fun x1=>some x1
theorem PA {a0:g_api_Item}{r:List g_api_Item}(hm:HL a0=some r):Sp prog 197 [ag (Ag a0)] [] 0 (is (.ow 0) [.row 0 3 _ Ag r] 1):=
 sp call197 func197 rfl ntmps197 rfl fun D0 As η0 m0 hd=>by
  unfold HL at hm;obtain⟨x1,q1,hm⟩:=Aa hm;refine gco (DN q1) (by kernel_rfl) ?_;have e0:=Option.some.inj hm;subst e0;exact AL hd (by kernel_rfl)
def Dq (a0:g_api_Item)(a1:Int):Option ((List g_api_Item)×Int):=if(a0.Tag !=a1)=true then some (([]:List g_api_Item),72)else Ad (Il a0 8) fun x1=>if(!x1)=true then some (([]:List g_api_Item),71)else Ad (HL a0) fun x2=>some (x2,0)
theorem JU {a0:g_api_Item}{a1:Int}{r:(List g_api_Item)×Int}(hm:Dq a0 a1=some r):Sp prog 196 [ag (Ag a0),.d (.i a1),.fn (.func 197) [] []] [] 0 (is (.tup [.ow 0,.d (.i r.2)]) [.row 0 3 _ Ag r.1] 1):=
 sp call196 func196 rfl ntmps196 rfl fun D0 As η0 m0 hd=>by
  unfold Dq at hm;refine gi hm (by kernel_rfl) (fun hc1 hm=> ?_) fun hc1 hm=> ?_
  ·skip;refine Abi Ag 6 3 (by kernel_rfl) ?_;have e0:=Option.some.inj hm;subst e0;exact AL hd (by kernel_rfl)
  obtain⟨x1,q1,hm⟩:=Aa hm;refine gc (fun _=>J3 q1) (by kernel_rfl) ?_;refine gi hm (by kernel_rfl) (fun hc2 hm=> ?_) fun hc2 hm=> ?_
  ·skip;refine Abi Ag 6 3 (by kernel_rfl) ?_;have e0:=Option.some.inj hm;subst e0;exact AL hd (by kernel_rfl)
  obtain⟨x2,q2,hm⟩:=Aa hm;refine gco (PA q2) (by kernel_rfl) ?_;have e0:=Option.some.inj hm;subst e0;exact AL hd (by kernel_rfl)
def Ha (a0:g_api_Item):Option ((List g_api_Item)×Int):=Ad (Dq a0 48) fun x1=>some (x1.1,x1.2)
theorem Nz {a0:g_api_Item}{r:(List g_api_Item)×Int}(hm:Ha a0=some r):Sp prog 152 [ag (Ag a0)] [] 0 (is (.tup [.ow 0,.d (.i r.2)]) [.row 0 3 _ Ag r.1] 1):=
 sp call152 func152 rfl ntmps152 rfl fun D0 As η0 m0 hd=>by
  unfold Ha at hm;obtain⟨x1,q1,hm⟩:=Aa hm;refine gco (JU q1) (by kernel_rfl) ?_;have e0:=Option.some.inj hm;subst e0;exact AL hd (by kernel_rfl)
def GC (a0:g_api_Item):Option (Option Am):=Ad (Ha a0) fun x1=>Ad (Bc (x1.2==0)) fun y1=>match y1 with|none=>some none|some x2=>some (some (⟨x1.1⟩:Am))
theorem Ro {a0:g_api_Item}{r:Option Am}(hm:GC a0=some r):Sb prog 113 [ag (Ag a0)] [] 0 Qo (Pos r (fun r=> .pb 0 0) (fun r=> [.box 0 [.d (.sl _ Ag r.l_)] 200]) 1) (r=none):=
 sb call113 func113 rfl ntmps113 rfl fun D0 As η0 m0 hd=>by
  unfold GC at hm;obtain⟨x1,q1,hm⟩:=Aa hm;refine gco (Nz q1) (by kernel_rfl) ?_;obtain⟨y1,q2,hm⟩:=Aa hm;rcases y1 with _|x2
  ·dsimp only at hm;have e0:=Option.some.inj hm;subst e0;exact Mh (A2 q2) (by kernel_rfl)
  dsimp only at hm;refine gc (fun _=>(A2 q2).sp) (by kernel_rfl) ?_;have e0:=Option.some.inj hm;subst e0;exact M0 hd (by kernel_rfl)
def C0 (i1:Int)(x5:UInt8)(s1:Int):Option (Int):=bnd ((Oz (Iy s1 8) (w64 (x5.toNat:Int)))) fun x6=>some x6
def Gz (a0:g_api_Item):Option Int:=Ad (idx a0.B 0) fun x1=>Ad (Ad (cut a0.B 1 (a0.B.length:Int)) fun x3=>Ad (CC C0 x3 0 (w64 (w8 (x1.toNat:Int)))) fun x4=>some x4) fun x2=>some x2
theorem PB {a0:g_api_Item}{r:Int}(hm:Gz a0=some r):Sf prog 199 [ag (Ag a0)] (.d (.i r)):=
 sp call199 func199 rfl ntmps199 rfl fun D0 As η0 m0 hd=>by
  unfold Gz at hm;obtain⟨x1,q1,hm⟩:=Aa hm;refine FA (k:=1) (E:=eB) (fun _=>rfl) (fun _=>q1) (by kernel_rfl) ?_;obtain⟨x2,q2,hm⟩:=Aa hm;obtain⟨x3,q3,q2⟩:=Aa q2;refine V0 (k:=1) (E:=eB) (fun _=>rfl) (fun _=>q3) (by kernel_rfl) ?_;obtain⟨x4,q4,q2⟩:=Aa q2;refine MZ 0 (E:=eB) (xs:=x3) 14 (by kernel_rfl) fun hle1=> ?_;refine gjU 0 (fun(_:Unit)=>⟨[(3,.d (.i x2)),(1,.pb 0 0)],[(0,.box 0 [.d (.i a0.Tag),sl eB a0.B,sl Ag a0.L] 159)],[],1⟩) (fun _=>True) (by kernel_rfl) (fun Jp bk1=> ?_) fun _ _=> ?_
  ·refine gjU 0 (fun(_:Unit)=>⟨[(3,.d (.i x4)),(1,.pb 0 0)],[(0,.box 0 [.d (.i a0.Tag),sl eB a0.B,sl Ag a0.L] 159)],[],1⟩) (fun _=>True) (by kernel_rfl) (fun Jp bk2=> ?_) fun _ _=> ?_
   ·refine gl hd (fun(p:Int×(Int))=>let (p0,p_0):=p; ⟨[(3,.d (.i p_0)),(14,sl eB x3),(15,.d (.i (x3.length:Int))),(16,.d (.i p0)),(1,.pb 0 0)],[(0,.box 0 [.d (.i a0.Tag),sl eB a0.B,sl Ag a0.L] 159)],[],1⟩) (fun p=> ∃i:Nat,p.1=(i:Int)∧i≤x3.length∧CC C0 (x3.drop i) (i:Int) p.2=some x4) (fun p=>x3.length-p.1.toNat) (0,(w64 (w8 (x1.toNat:Int)))) ⟨0,rfl,Nat.zero_le _,q4⟩ (by kernel_rfl) ?_;rintro⟨_,s1⟩ ⟨i1,rfl,hi,q5⟩ Jl bl1;refine gi' (b:=decide ((i1:Int)<(x3.length:Int))) (by kernel_rfl) (fun hc1=> ?_) fun hc1=> ?_
    ·have hlt1:i1<x3.length:=by have:=of_decide_eq_true hc1; omega
     obtain⟨x5,y1,q8,q7,q6⟩:=EU q5 hlt1;unfold C0 at q7;refine FA (k:=1) (E:=eB) (fun _=>rfl) (fun _=>q8) (by kernel_rfl) ?_;have q7:=Ba q7;let x6:Int:=((Oz (Iy s1 8) (w64 (x5.toNat:Int))));have e0:=Option.some.inj q7;subst e0;exact gb bl1 hd (w64 ((i1:Int)+1),x6) ⟨⟨i1+1,A4 hlt1 hle1,by omega,q6⟩,G5 hlt1 hle1⟩ (by kernel_rfl)
    have hlt1: ¬i1<x3.length:=by have:=of_decide_eq_false hc1; omega
    have e:=Eq.symm (DG q5 hlt1);subst e;exact gb bk2 hd () trivial (by kernel_rfl)
   have e0:=Option.some.inj q2;subst e0;exact gb bk1 hd () trivial (by kernel_rfl)
  have e0:=Option.some.inj hm;subst e0;exact AL hd (by kernel_rfl)
def Fm (a0:g_api_Item)(a1:Int):Option (Int×Int):=if(a0.Tag !=a1)=true then some (0,72)else Ad (Il a0 8) fun x1=>if(!x1)=true then some (0,71)else Ad (Gz a0) fun x2=>some (x2,0)
theorem LP {a0:g_api_Item}{a1:Int}{r:Int×Int}(hm:Fm a0 a1=some r):Sf prog 198 [ag (Ag a0),.d (.i a1),.fn (.func 199) [] []] (.tup [.d (.i r.1),.d (.i r.2)]):=
 sp call198 func198 rfl ntmps198 rfl fun D0 As η0 m0 hd=>by
  unfold Fm at hm;refine gi hm (by kernel_rfl) (fun hc1 hm=> ?_) fun hc1 hm=> ?_
  ·skip;have e0:=Option.some.inj hm;subst e0;exact AL hd (by kernel_rfl)
  obtain⟨x1,q1,hm⟩:=Aa hm;refine gc (fun _=>J3 q1) (by kernel_rfl) ?_;refine gi hm (by kernel_rfl) (fun hc2 hm=> ?_) fun hc2 hm=> ?_
  ·skip;have e0:=Option.some.inj hm;subst e0;exact AL hd (by kernel_rfl)
  obtain⟨x2,q2,hm⟩:=Aa hm;refine gc (fun _=>PB q2) (by kernel_rfl) ?_;have e0:=Option.some.inj hm;subst e0;exact AL hd (by kernel_rfl)
def Ip (a0:g_api_Item):Option (Int×Int):=Ad (Fm a0 2) fun x1=>some (x1.1,x1.2)
theorem SQ {a0:g_api_Item}{r:Int×Int}(hm:Ip a0=some r):Sf prog 154 [ag (Ag a0)] (.tup [.d (.i r.1),.d (.i r.2)]):=
 sp call154 func154 rfl ntmps154 rfl fun D0 As η0 m0 hd=>by
  unfold Ip at hm;obtain⟨x1,q1,hm⟩:=Aa hm;refine gc (fun _=>LP q1) (by kernel_rfl) ?_;have e0:=Option.some.inj hm;subst e0;exact AL hd (by kernel_rfl)
def C1 (a0:Am):Option (Option (Int×Am)):=
 Ad (Bc (decide ((a0.l_.length:Int)>0))) fun y1=>match y1 with
 |none=>some none
 |some x1=>
 Ad (idx a0.l_ 0) fun x2=>
 Ad (Ip x2) fun x3=>
 Ad (Bc (x3.2==0)) fun y2=>match y2 with
 |none=>some none
 |some x4=>
 Ad (cut a0.l_ 1 (a0.l_.length:Int)) fun x5=>
 some (some (x3.1,(⟨x5⟩:Am)))
theorem HB {a0:Am}{r:Option (Int×Am)}(hm:C1 a0=some r):Sb prog 153 [.pb 0 0,.fn (.func 154) [] []] [.box 0 [sl Ag a0.l_] 200] 1 Qo (Pos r (fun r=> .d (.i r.1)) (fun r=> [.box 0 [.d (.sl _ Ag r.2.l_)] 200]) 1) (r=none):=
 sb call153 func153 rfl ntmps153 rfl fun D0 As η0 m0 hd=>by
  unfold C1 at hm;obtain⟨y1,q1,hm⟩:=Aa hm;rcases y1 with _|x1
  ·dsimp only at hm;have e0:=Option.some.inj hm;subst e0;exact Mh (A2 q1) (by kernel_rfl)
  dsimp only at hm;refine gc (fun _=>(A2 q1).sp) (by kernel_rfl) ?_;obtain⟨x2,q2,hm⟩:=Aa hm;refine FA (k:=3) (E:=Ag) (fun _=>rfl) (fun _=>q2) (by kernel_rfl) ?_;obtain⟨x3,q3,hm⟩:=Aa hm;refine gc (fun _=>SQ q3) (by kernel_rfl) ?_;obtain⟨y2,q4,hm⟩:=Aa hm;rcases y2 with _|x4
  ·dsimp only at hm;have e0:=Option.some.inj hm;subst e0;exact Mh (A2 q4) (by kernel_rfl)
  dsimp only at hm;refine gc (fun _=>(A2 q4).sp) (by kernel_rfl) ?_;obtain⟨x5,q5,hm⟩:=Aa hm;refine V0 (k:=3) (E:=Ag) (fun _=>rfl) (fun _=>q5) (by kernel_rfl) ?_;have e0:=Option.some.inj hm;subst e0;exact M0 hd (by kernel_rfl)
def BN (a0:Am):Option (Option (Int×Am)):=
 Ad (C1 a0) fun y1=>match y1 with
 |none=>some none
 |some x1=>
 Ad (Bc (decide (x1.1≥0))) fun y2=>match y2 with
 |none=>some none
 |some x2=>
 some (some (x1.1,x1.2))
theorem Bt {a0:Am}{r:Option (Int×Am)}(hm:BN a0=some r):Sb prog 114 [.pb 0 0] [.box 0 [sl Ag a0.l_] 200] 1 Qo (Pos r (fun r=> .d (.i r.1)) (fun r=> [.box 0 [.d (.sl _ Ag r.2.l_)] 200]) 1) (r=none):=
 sb call114 func114 rfl ntmps114 rfl fun D0 As η0 m0 hd=>by
  unfold BN at hm;obtain⟨y1,q1,hm⟩:=Aa hm;rcases y1 with _|x1
  ·dsimp only at hm;have e0:=Option.some.inj hm;subst e0;exact Mh (HB q1) (by kernel_rfl)
  dsimp only at hm;refine gco (HB q1).sp (by kernel_rfl) ?_;obtain⟨y2,q2,hm⟩:=Aa hm;rcases y2 with _|x2
  ·dsimp only at hm;have e0:=Option.some.inj hm;subst e0;exact Mh (A2 q2) (by kernel_rfl)
  dsimp only at hm;refine gc (fun _=>(A2 q2).sp) (by kernel_rfl) ?_;have e0:=Option.some.inj hm;subst e0;exact M0 hd (by kernel_rfl)
def IX (a0:g_api_Item):Option ByteArray:=some (bs a0.B)
theorem Oj {a0:g_api_Item}{r:ByteArray}(hm:IX a0=some r):Sf prog 156 [ag (Ag a0)] (.d (.s r)):=
 sp call156 func156 rfl ntmps156 rfl fun D0 As η0 m0 hd=>by
  unfold IX at hm;refine gbs (xs:=a0.B) (by kernel_rfl) ?_;have e0:=Option.some.inj hm;subst e0;exact AL hd (by kernel_rfl)
def DS (a0:g_api_Item)(a1:Int):Option (ByteArray×Int):=if(a0.Tag !=a1)=true then some ((⟨#[]⟩:ByteArray),72)else Ad (Il a0 8) fun x1=>if(!x1)=true then some ((⟨#[]⟩:ByteArray),71)else Ad (IX a0) fun x2=>some (x2,0)
theorem Ky {a0:g_api_Item}{a1:Int}{r:ByteArray×Int}(hm:DS a0 a1=some r):Sf prog 155 [ag (Ag a0),.d (.i a1),.fn (.func 156) [] []] (.tup [.d (.s r.1),.d (.i r.2)]):=
 sp call155 func155 rfl ntmps155 rfl fun D0 As η0 m0 hd=>by
  unfold DS at hm;refine gi hm (by kernel_rfl) (fun hc1 hm=> ?_) fun hc1 hm=> ?_
  ·skip;have e0:=Option.some.inj hm;subst e0;exact AL hd (by kernel_rfl)
  obtain⟨x1,q1,hm⟩:=Aa hm;refine gc (fun _=>J3 q1) (by kernel_rfl) ?_;refine gi hm (by kernel_rfl) (fun hc2 hm=> ?_) fun hc2 hm=> ?_
  ·skip;have e0:=Option.some.inj hm;subst e0;exact AL hd (by kernel_rfl)
  obtain⟨x2,q2,hm⟩:=Aa hm;refine gc (fun _=>Oj q2) (by kernel_rfl) ?_;have e0:=Option.some.inj hm;subst e0;exact AL hd (by kernel_rfl)
def Hp (a0:g_api_Item):Option (ByteArray×Int):=Ad (DS a0 12) fun x1=>some (x1.1,x1.2)
theorem Rj {a0:g_api_Item}{r:ByteArray×Int}(hm:Hp a0=some r):Sf prog 116 [ag (Ag a0)] (.tup [.d (.s r.1),.d (.i r.2)]):=
 sp call116 func116 rfl ntmps116 rfl fun D0 As η0 m0 hd=>by
  unfold Hp at hm;obtain⟨x1,q1,hm⟩:=Aa hm;refine gc (fun _=>Ky q1) (by kernel_rfl) ?_;have e0:=Option.some.inj hm;subst e0;exact AL hd (by kernel_rfl)
def D2 (a0:Am):Option (Option (UInt64×Am)):=Ad (BN a0) fun y1=>match y1 with|none=>some none|some x1=>some (some ((toU x1.1),x1.2))
theorem Jc {a0:Am}{r:Option (UInt64×Am)}(hm:D2 a0=some r):Sb prog 117 [.pb 0 0] [.box 0 [sl Ag a0.l_] 200] 1 Qo (Pos r (fun r=> .d (.u r.1)) (fun r=> [.box 0 [.d (.sl _ Ag r.2.l_)] 200]) 1) (r=none):=
 sb call117 func117 rfl ntmps117 rfl fun D0 As η0 m0 hd=>by
  unfold D2 at hm;obtain⟨y1,q1,hm⟩:=Aa hm;rcases y1 with _|x1
  ·dsimp only at hm;have e0:=Option.some.inj hm;subst e0;exact Mh (Bt q1) (by kernel_rfl)
  dsimp only at hm;refine gco (Bt q1).sp (by kernel_rfl) ?_;have e0:=Option.some.inj hm;subst e0;exact M0 hd (by kernel_rfl)
def Cb (a0:Am):Option (Option ((List g_api_Item)×Am)):=
 Ad (Bc (decide ((a0.l_.length:Int)>0))) fun y1=>match y1 with
 |none=>some none
 |some x1=>
 Ad (idx a0.l_ 0) fun x2=>
 Ad (Ha x2) fun x3=>
 Ad (Bc (x3.2==0)) fun y2=>match y2 with
 |none=>some none
 |some x4=>
 Ad (cut a0.l_ 1 (a0.l_.length:Int)) fun x5=>
 some (some (x3.1,(⟨x5⟩:Am)))
theorem FE {a0:Am}{r:Option ((List g_api_Item)×Am)}(hm:Cb a0=some r):Sb prog 200 [.pb 0 0,.fn (.func 152) [] []] [.box 0 [sl Ag a0.l_] 200] 1 Qo (Pos r (fun r=> .ow 1) (fun r=> [.box 0 [.d (.sl _ Ag r.2.l_)] 200,.row 1 3 _ Ag r.1]) 2) (r=none):=
 sb call200 func200 rfl ntmps200 rfl fun D0 As η0 m0 hd=>by
  unfold Cb at hm;obtain⟨y1,q1,hm⟩:=Aa hm;rcases y1 with _|x1
  ·dsimp only at hm;have e0:=Option.some.inj hm;subst e0;exact Mh (A2 q1) (by kernel_rfl)
  dsimp only at hm;refine gc (fun _=>(A2 q1).sp) (by kernel_rfl) ?_;obtain⟨x2,q2,hm⟩:=Aa hm;refine FA (k:=3) (E:=Ag) (fun _=>rfl) (fun _=>q2) (by kernel_rfl) ?_;obtain⟨x3,q3,hm⟩:=Aa hm;refine gco (Nz q3) (by kernel_rfl) ?_;obtain⟨y2,q4,hm⟩:=Aa hm;rcases y2 with _|x4
  ·dsimp only at hm;have e0:=Option.some.inj hm;subst e0;exact Mh (A2 q4) (by kernel_rfl)
  dsimp only at hm;refine gc (fun _=>(A2 q4).sp) (by kernel_rfl) ?_;obtain⟨x5,q5,hm⟩:=Aa hm;refine V0 (k:=3) (E:=Ag) (fun _=>rfl) (fun _=>q5) (by kernel_rfl) ?_;have e0:=Option.some.inj hm;subst e0;exact M0 hd (by kernel_rfl)
def DZ (a0:Am):Option (Option (Am×Am)):=Ad (Cb a0) fun y1=>match y1 with|none=>some none|some x1=>some (some ((⟨x1.1⟩:Am),x1.2))
theorem I9 {a0:Am}{r:Option (Am×Am)}(hm:DZ a0=some r):Sb prog 157 [.pb 0 0] [.box 0 [sl Ag a0.l_] 200] 1 Qo (Pos r (fun r=> .pb 1 0) (fun r=> [.box 0 [.d (.sl _ Ag r.2.l_)] 200,.box 1 [.d (.sl _ Ag r.1.l_)] 200]) 2) (r=none):=
 sb call157 func157 rfl ntmps157 rfl fun D0 As η0 m0 hd=>by
  unfold DZ at hm;obtain⟨y1,q1,hm⟩:=Aa hm;rcases y1 with _|x1
  ·dsimp only at hm;have e0:=Option.some.inj hm;subst e0;exact Mh (FE q1) (by kernel_rfl)
  dsimp only at hm;refine gco (FE q1).sp (by kernel_rfl) ?_;have e0:=Option.some.inj hm;subst e0;exact M0 hd (by kernel_rfl)
def A1 (a0:Am):Option (Option (ByteArray×Am)):=
 Ad (Bc (decide ((a0.l_.length:Int)>0))) fun y1=>match y1 with
 |none=>some none
 |some x1=>
 Ad (idx a0.l_ 0) fun x2=>
 Ad (Hp x2) fun x3=>
 Ad (Bc (x3.2==0)) fun y2=>match y2 with
 |none=>some none
 |some x4=>
 Ad (cut a0.l_ 1 (a0.l_.length:Int)) fun x5=>
 some (some (x3.1,(⟨x5⟩:Am)))
theorem B2 {a0:Am}{r:Option (ByteArray×Am)}(hm:A1 a0=some r):Sb prog 115 [.pb 0 0,.fn (.func 116) [] []] [.box 0 [sl Ag a0.l_] 200] 1 Qo (Pos r (fun r=> .d (.s r.1)) (fun r=> [.box 0 [.d (.sl _ Ag r.2.l_)] 200]) 1) (r=none):=
 sb call115 func115 rfl ntmps115 rfl fun D0 As η0 m0 hd=>by
  unfold A1 at hm;obtain⟨y1,q1,hm⟩:=Aa hm;rcases y1 with _|x1
  ·dsimp only at hm;have e0:=Option.some.inj hm;subst e0;exact Mh (A2 q1) (by kernel_rfl)
  dsimp only at hm;refine gc (fun _=>(A2 q1).sp) (by kernel_rfl) ?_;obtain⟨x2,q2,hm⟩:=Aa hm;refine FA (k:=3) (E:=Ag) (fun _=>rfl) (fun _=>q2) (by kernel_rfl) ?_;obtain⟨x3,q3,hm⟩:=Aa hm;refine gc (fun _=>Rj q3) (by kernel_rfl) ?_;obtain⟨y2,q4,hm⟩:=Aa hm;rcases y2 with _|x4
  ·dsimp only at hm;have e0:=Option.some.inj hm;subst e0;exact Mh (A2 q4) (by kernel_rfl)
  dsimp only at hm;refine gc (fun _=>(A2 q4).sp) (by kernel_rfl) ?_;obtain⟨x5,q5,hm⟩:=Aa hm;refine V0 (k:=3) (E:=Ag) (fun _=>rfl) (fun _=>q5) (by kernel_rfl) ?_;have e0:=Option.some.inj hm;subst e0;exact M0 hd (by kernel_rfl)
def AW (s1:(List ByteArray)×(List g_api_Item)):Option (((List ByteArray)×(List g_api_Item))⊕(((List ByteArray)×(List g_api_Item))⊕(Option ((List ByteArray)×Am)))):=if(decide ((s1.2.length:Int)>0))=true then Ad (A1 (⟨s1.2⟩:Am)) fun y4=>match y4 with|none=>some (.inr (.inr none))|some x4=>Ad (app 16 s1.1 ([x4.1]:List ByteArray)) fun x5=>some (.inl (x5,x4.2.l_))else some (.inr (.inl (s1.1,s1.2)))
def CJ (a0:Am):Option (Option ((List ByteArray)×Am)):=
 Ad (DZ a0) fun y1=>match y1 with
 |none=>some none
 |some x1=>
 Ad (iter AW C3 (([]:List ByteArray),x1.1.l_)) fun x2=>match x2 with
 | .inr r=>some r
 | .inl y2=>
 some (some (y2.1,x1.2))
theorem Eb {a0:Am}{r:Option ((List ByteArray)×Am)}(hm:CJ a0=some r):Sb prog 118 [.pb 0 0] [.box 0 [sl Ag a0.l_] 200] 1 Qo (Pos r (fun r=> .ow 1) (fun r=> [.box 0 [.d (.sl _ Ag r.2.l_)] 200,.row 1 1 _ eS r.1]) 2) (r=none):=
 sb call118 func118 rfl ntmps118 rfl fun D0 As η0 m0 hd=>by
  unfold CJ at hm;obtain⟨y1,q1,hm⟩:=Aa hm;rcases y1 with _|x1
  ·dsimp only at hm;have e0:=Option.some.inj hm;subst e0;exact Mh (I9 q1) (by kernel_rfl)
  dsimp only at hm;refine gco (I9 q1).sp (by kernel_rfl) ?_;obtain⟨x2,q2,hm⟩:=Aa hm;refine QD 0 eS 3 1 (by kernel_rfl) ?_;refine gjU 0 (fun(y2:(List ByteArray)×(List g_api_Item))=>let (y_0,y_1):=y2; ⟨[(3,.ow 2),(6,.pb 1 0)],[(0,.row 2 1 _ eS y_0),(1,.box 1 [sl Ag y_1] 200),(2,.box 0 [sl Ag x1.2.l_] 200)],[],3⟩) (fun y2=>x2= .inl y2) (by kernel_rfl) (fun Jp bk1=> ?_) fun y2 hy=> ?_
  ·refine gl hd (fun(p:Nat×((List ByteArray)×(List g_api_Item)))=>let (p0,p_0,p_1):=p; ⟨[(3,.ow 2),(4,.pb 1 0),(6,.pb 1 0)],[(0,.row 2 1 _ eS p_0),(1,.box 1 [sl Ag p_1] 200),(2,.box 0 [sl Ag x1.2.l_] 200)],[],3⟩) (fun p=>iter AW p.1 p.2=some x2) (fun p=>p.1) (C3,(([]:List ByteArray),x1.1.l_)) q2 (by kernel_rfl) ?_;rintro⟨n1,s1⟩ q3 Jl bl1;cases n1 with
   |zero=>exact(Bq q3).elim
   |succ n1=>
    obtain⟨y3,q5,q4⟩:=Bi q3;unfold AW at q5;refine gi q5 (by kernel_rfl) (fun hc1 q5=> ?_) fun hc1 q5=> ?_
    ·skip;obtain⟨y4,q7,q5⟩:=Aa q5;rcases y4 with _|x4
     ·dsimp only at q5;cases q5;rcases q4 with ⟨sn,e,_⟩|e
      ·cases e
      cases e;dsimp only at hm;have e0:=Option.some.inj hm;subst e0;exact Mh (B2 q7) (by kernel_rfl)
     dsimp only at q5;refine gco (B2 q7).sp (by kernel_rfl) ?_;refine CM (k:=1) eS ([x4.1]:List ByteArray) (fun _=>rfl) (by kernel_rfl) ?_;obtain⟨x5,q8,q5⟩:=Aa q5;refine Q2 (k:=1) (E:=eS) (fun _=>rfl) q8 (by kernel_rfl) ?_;have e0:=Option.some.inj q5;subst e0;rcases q4 with ⟨sn,e,q4'⟩|e
     ·have e:=Sum.inl.inj e;subst e;exact gb bl1 hd (n1,_) ⟨q4',Nat.lt_succ_self _⟩ (by kernel_rfl)
     cases CN e
    have e0:=Option.some.inj q5;subst e0;rcases q4 with ⟨sn,e,_⟩|e
    ·cases Fv e
    have e:=Sum.inr.inj e;subst e;exact gb bk1 hd (s1.1,s1.2) rfl (by kernel_rfl)
  subst hy;dsimp only at hm;have e0:=Option.some.inj hm;subst e0;exact M0 hd (by kernel_rfl)
def Hd (a0:g_api_Item):Option Bool:=Ad (idx a0.B 0) fun x1=>some ((x1.toNat:Int) !=0)
theorem Ol {a0:g_api_Item}{r:Bool}(hm:Hd a0=some r):Sf prog 159 [ag (Ag a0)] (.d (.t r)):=
 sp call159 func159 rfl ntmps159 rfl fun D0 As η0 m0 hd=>by
  unfold Hd at hm;obtain⟨x1,q1,hm⟩:=Aa hm;refine FA (k:=1) (E:=eB) (fun _=>rfl) (fun _=>q1) (by kernel_rfl) ?_;have e0:=Option.some.inj hm;subst e0;exact AL hd (by kernel_rfl)
def ET (a0:g_api_Item)(a1:Int):Option (Bool×Int):=if(a0.Tag !=a1)=true then some (false,72)else Ad (Il a0 8) fun x1=>if(!x1)=true then some (false,71)else Ad (Hd a0) fun x2=>some (x2,0)
theorem Ld {a0:g_api_Item}{a1:Int}{r:Bool×Int}(hm:ET a0 a1=some r):Sf prog 158 [ag (Ag a0),.d (.i a1),.fn (.func 159) [] []] (.tup [.d (.t r.1),.d (.i r.2)]):=
 sp call158 func158 rfl ntmps158 rfl fun D0 As η0 m0 hd=>by
  unfold ET at hm;refine gi hm (by kernel_rfl) (fun hc1 hm=> ?_) fun hc1 hm=> ?_
  ·skip;have e0:=Option.some.inj hm;subst e0;exact AL hd (by kernel_rfl)
  obtain⟨x1,q1,hm⟩:=Aa hm;refine gc (fun _=>J3 q1) (by kernel_rfl) ?_;refine gi hm (by kernel_rfl) (fun hc2 hm=> ?_) fun hc2 hm=> ?_
  ·skip;have e0:=Option.some.inj hm;subst e0;exact AL hd (by kernel_rfl)
  obtain⟨x2,q2,hm⟩:=Aa hm;refine gc (fun _=>Ol q2) (by kernel_rfl) ?_;have e0:=Option.some.inj hm;subst e0;exact AL hd (by kernel_rfl)
def Hq (a0:g_api_Item):Option (Bool×Int):=Ad (ET a0 1) fun x1=>some (x1.1,x1.2)
theorem Rk {a0:g_api_Item}{r:Bool×Int}(hm:Hq a0=some r):Sf prog 120 [ag (Ag a0)] (.tup [.d (.t r.1),.d (.i r.2)]):=
 sp call120 func120 rfl ntmps120 rfl fun D0 As η0 m0 hd=>by
  unfold Hq at hm;obtain⟨x1,q1,hm⟩:=Aa hm;refine gc (fun _=>Ld q1) (by kernel_rfl) ?_;have e0:=Option.some.inj hm;subst e0;exact AL hd (by kernel_rfl)
def D1 (a0:Am):Option (Option Am):=Ad (Bc ((a0.l_.length:Int)==0)) fun y1=>match y1 with|none=>some none|some x1=>some (some a0)
theorem Jb {a0:Am}{r:Option Am}(hm:D1 a0=some r):Sb prog 121 [.pb 0 0] [.box 0 [sl Ag a0.l_] 200] 1 Qo (Pos r (fun r=> .tup []) (fun r=> [.box 0 [.d (.sl _ Ag r.l_)] 200]) 1) (r=none):=
 sb call121 func121 rfl ntmps121 rfl fun D0 As η0 m0 hd=>by
  unfold D1 at hm;obtain⟨y1,q1,hm⟩:=Aa hm;rcases y1 with _|x1
  ·dsimp only at hm;have e0:=Option.some.inj hm;subst e0;exact Mh (A2 q1) (by kernel_rfl)
  dsimp only at hm;refine gc (fun _=>(A2 q1).sp) (by kernel_rfl) ?_;have e0:=Option.some.inj hm;subst e0;exact M0 hd (by kernel_rfl)
def Cp (a0:Am):Option (Option (Bool×Am)):=
 Ad (Bc (decide ((a0.l_.length:Int)>0))) fun y1=>match y1 with
 |none=>some none
 |some x1=>
 Ad (idx a0.l_ 0) fun x2=>
 Ad (Hq x2) fun x3=>
 Ad (Bc (x3.2==0)) fun y2=>match y2 with
 |none=>some none
 |some x4=>
 Ad (cut a0.l_ 1 (a0.l_.length:Int)) fun x5=>
 some (some (x3.1,(⟨x5⟩:Am)))
theorem Hi {a0:Am}{r:Option (Bool×Am)}(hm:Cp a0=some r):Sb prog 119 [.pb 0 0,.fn (.func 120) [] []] [.box 0 [sl Ag a0.l_] 200] 1 Qo (Pos r (fun r=> .d (.t r.1)) (fun r=> [.box 0 [.d (.sl _ Ag r.2.l_)] 200]) 1) (r=none):=
 sb call119 func119 rfl ntmps119 rfl fun D0 As η0 m0 hd=>by
  unfold Cp at hm;obtain⟨y1,q1,hm⟩:=Aa hm;rcases y1 with _|x1
  ·dsimp only at hm;have e0:=Option.some.inj hm;subst e0;exact Mh (A2 q1) (by kernel_rfl)
  dsimp only at hm;refine gc (fun _=>(A2 q1).sp) (by kernel_rfl) ?_;obtain⟨x2,q2,hm⟩:=Aa hm;refine FA (k:=3) (E:=Ag) (fun _=>rfl) (fun _=>q2) (by kernel_rfl) ?_;obtain⟨x3,q3,hm⟩:=Aa hm;refine gc (fun _=>Rk q3) (by kernel_rfl) ?_;obtain⟨y2,q4,hm⟩:=Aa hm;rcases y2 with _|x4
  ·dsimp only at hm;have e0:=Option.some.inj hm;subst e0;exact Mh (A2 q4) (by kernel_rfl)
  dsimp only at hm;refine gc (fun _=>(A2 q4).sp) (by kernel_rfl) ?_;obtain⟨x5,q5,hm⟩:=Aa hm;refine V0 (k:=3) (E:=Ag) (fun _=>rfl) (fun _=>q5) (by kernel_rfl) ?_;have e0:=Option.some.inj hm;subst e0;exact M0 hd (by kernel_rfl)
def Co (a0:Am):Option (Option (g_api_Cert×Am)):=
 Ad (BN a0) fun y1=>match y1 with
 |none=>some none
 |some x1=>
 Ad (A1 x1.2) fun y2=>match y2 with
 |none=>some none
 |some x2=>
 Ad (A1 x2.2) fun y3=>match y3 with
 |none=>some none
 |some x3=>
 Ad (D2 x3.2) fun y4=>match y4 with
 |none=>some none
 |some x4=>
 Ad (CJ x4.2) fun y5=>match y5 with
 |none=>some none
 |some x5=>
 Ad (BN x5.2) fun y6=>match y6 with
 |none=>some none
 |some x6=>
 Ad (BN x6.2) fun y7=>match y7 with
 |none=>some none
 |some x7=>
 Ad (Cp x7.2) fun y8=>match y8 with
 |none=>some none
 |some x8=>
 Ad (BN x8.2) fun y9=>match y9 with
 |none=>some none
 |some x9=>
 Ad (CJ x9.2) fun y10=>match y10 with
 |none=>some none
 |some x10=>
 Ad (D1 x10.2) fun y11=>match y11 with
 |none=>some none
 |some x11=>
 some (some ((⟨x1.1,x2.1,x3.1,x4.1,x5.1,x6.1,x7.1,x8.1,x9.1,x10.1,[],(⟨0,0⟩:g_api_Sig)⟩:g_api_Cert),x11))
theorem Ja {a0:Am}{r:Option (g_api_Cert×Am)}(hm:Co a0=some r):Sb prog 71 [.pb 0 0] [.box 0 [sl Ag a0.l_] 200] 1 Qo (Pos r (fun r=> .agg (List.set (((Ao r.1)).map dv) 10 (.d (.v (.slice none 0 0))))) (fun r=> [.box 0 [.d (.sl _ Ag r.2.l_)] 200]) 1) (r=none):=
 sb call71 func71 rfl ntmps71 rfl fun D0 As η0 m0 hd=>by
  unfold Co at hm;obtain⟨y1,q1,hm⟩:=Aa hm;rcases y1 with _|x1
  ·dsimp only at hm;have e0:=Option.some.inj hm;subst e0;exact Mh (Bt q1) (by kernel_rfl)
  dsimp only at hm;refine gco (Bt q1).sp (by kernel_rfl) ?_;obtain⟨y2,q2,hm⟩:=Aa hm;rcases y2 with _|x2
  ·dsimp only at hm;have e0:=Option.some.inj hm;subst e0;exact Mh (B2 q2) (by kernel_rfl)
  dsimp only at hm;refine gco (B2 q2).sp (by kernel_rfl) ?_;obtain⟨y3,q3,hm⟩:=Aa hm;rcases y3 with _|x3
  ·dsimp only at hm;have e0:=Option.some.inj hm;subst e0;exact Mh (B2 q3) (by kernel_rfl)
  dsimp only at hm;refine gco (B2 q3).sp (by kernel_rfl) ?_;obtain⟨y4,q4,hm⟩:=Aa hm;rcases y4 with _|x4
  ·dsimp only at hm;have e0:=Option.some.inj hm;subst e0;exact Mh (Jc q4) (by kernel_rfl)
  dsimp only at hm;refine gco (Jc q4).sp (by kernel_rfl) ?_;obtain⟨y5,q5,hm⟩:=Aa hm;rcases y5 with _|x5
  ·dsimp only at hm;have e0:=Option.some.inj hm;subst e0;exact Mh (Eb q5) (by kernel_rfl)
  dsimp only at hm;refine gco (Eb q5).sp (by kernel_rfl) ?_;obtain⟨y6,q6,hm⟩:=Aa hm;rcases y6 with _|x6
  ·dsimp only at hm;have e0:=Option.some.inj hm;subst e0;exact Mh (Bt q6) (by kernel_rfl)
  dsimp only at hm;refine gco (Bt q6).sp (by kernel_rfl) ?_;obtain⟨y7,q7,hm⟩:=Aa hm;rcases y7 with _|x7
  ·dsimp only at hm;have e0:=Option.some.inj hm;subst e0;exact Mh (Bt q7) (by kernel_rfl)
  dsimp only at hm;refine gco (Bt q7).sp (by kernel_rfl) ?_;obtain⟨y8,q8,hm⟩:=Aa hm;rcases y8 with _|x8
  ·dsimp only at hm;have e0:=Option.some.inj hm;subst e0;exact Mh (Hi q8) (by kernel_rfl)
  dsimp only at hm;refine gco (Hi q8).sp (by kernel_rfl) ?_;obtain⟨y9,q9,hm⟩:=Aa hm;rcases y9 with _|x9
  ·dsimp only at hm;have e0:=Option.some.inj hm;subst e0;exact Mh (Bt q9) (by kernel_rfl)
  dsimp only at hm;refine gco (Bt q9).sp (by kernel_rfl) ?_;obtain⟨y10,q10,hm⟩:=Aa hm;rcases y10 with _|x10
  ·dsimp only at hm;have e0:=Option.some.inj hm;subst e0;exact Mh (Eb q10) (by kernel_rfl)
  dsimp only at hm;refine gco (Eb q10).sp (by kernel_rfl) ?_;obtain⟨y11,q11,hm⟩:=Aa hm;rcases y11 with _|x11
  ·dsimp only at hm;have e0:=Option.some.inj hm;subst e0;exact Mh (Jb q11) (by kernel_rfl)
  dsimp only at hm;refine gco (Jb q11).sp (by kernel_rfl) ?_;have e0:=Option.some.inj hm;subst e0;exact M0 hd (by kernel_rfl)
theorem d1_111 (a b:Value)(w:World):CallsDIn (FW none) 0 prog 111 #[a,b] .returning w fun e u' w'=> ∃v,e= .returned v∧u'= .returning∧w'=w:=by
 refine CallsDIn.mono (Uv (N:=11) (args:=[a,b]) (u:= .returning) (u':= .returning) (v:= .nilIface) (R:=fun w'=>w'=w) func111 rfl ntmps111 rfl (Nat.le_of_ble_eq_true rfl) rfl (fun c₀ cs hu=> .inr ⟨by simp[recoverD,hu],rfl,rfl⟩) ?_) fun e u2 w' ⟨x,h1,h2,_,h3⟩=>⟨x,h1,h2,h3⟩;refine Ae (Ac (l:=[_]) ?_);refine s_mv ?_;refine Af (nrm ?_);refine AD (Ae (Ac (l:=[_]) ?_));refine AJ (v:= .bool true) (w':=w) rfl (fun _ e=>by cases e) (by kernel_rfl) ?_;refine Af (nrm ?_);refine T6 rfl ?_;exact AT (KF ⟨.inl rfl,rfl⟩)
def zd28:List D:=[.i 0,.s .empty,.s .empty,.u 0,.v (.slice none 0 0),.i 0,.i 0,.t false,.i 0,.v (.slice none 0 0),.v (.slice none 0 0),.u 0,.u 0]
theorem d2_111 (m:Mem)(As:List Ow)(w:World)(bc be:Nat)(cs es:List Value)(hc:cs.length=13)(he:es.length=1)(hc1: ∀v∈cs,v.oneCell'=true)(he1: ∀v∈es,v.oneCell'=true)(S:St m (bx bc cs 59::bx be es 30::As) w):
  CallsDIn (FW none) 0 prog 111 #[pt bc 0,pt be 0] (.panicking (chn Qo)) w fun e u' w'=> ∃v,e= .returned v∧u'= .panicking [{v:=Qo,recovered:=true}]∧Kd w w'∧
   ∃M zs ze,m≤M∧FRL M zd28 zs∧FR M (.i 71) ze∧St M (bx bc zs 59::bx be [ze] 30::As) w':=by
 refine Uv (N:=11) (args:=[pt bc 0,pt be 0]) (u:= .panicking (chn Qo)) (u':= .panicking [{v:=Qo,recovered:=true}]) (v:=Qo) func111 rfl ntmps111 rfl (Nat.le_of_ble_eq_true rfl) rfl (fun c₀ cs hu=> .inl (by simp[recoverD,hu,chn])) ?_;refine Ae (Ac (l:=[_]) ?_);refine s_mv ?_;refine Af (nrm ?_);refine AD (Ae (Ac (l:=[_]) ?_));refine AJ (v:= .bool false) (w':=w) rfl (fun _ e=>by cases e) (by kernel_rfl) ?_;refine Af (nrm ?_);refine V7 rfl ?_;refine Ae (Ac (l:=[_,_,_]) ?_);refine AJ (v:= .tuple #[.agg #[],.bool true]) (w':=w) rfl (fun _ e=>by cases e) (by kernel_rfl) ?_;refine AJ (v:= .bool true) (w':=w) rfl (fun _ e=>by cases e) (by kernel_rfl) ?_;refine AJ (v:= .agg #[]) (w':=w) rfl (fun _ e=>by cases e) (by kernel_rfl) ?_;refine Af (nrm ?_);refine T6 rfl ?_;let η0:Env:=fun n=>if n=0 then some (pt bc 0)else if n=1 then some (pt be 0)else none;have h0:η0 0=some (pt bc 0):=rfl;have h1:η0 1=some (pt be 0):=rfl;have hd: ∀n,η0 n≠none→n<2:=fun n h=>by
  show n<2;have h:(if n=0 then some (pt bc 0)else if n=1 then some (pt be 0)else none)≠none:=h;split at h
  ·omega
  ·split at h
   ·omega
   ·exact absurd rfl h
 have ho:=fun(l:List Value) (v:Value) (hv:v∈l) (q: ∀v∈l,v.oneCell'=true)=>q v hv;let s0:AS:=⟨[(0,.pb 0 0),(1,.pb 1 0)],[(0,.box 0 (List.replicate 13 .any) 59),(1,.box 1 [.any] 30)],[],2⟩;have any_rel: ∀{n:Nat} {l:List Value},l.length=n→BH η0 m (List.replicate n .any) l:=fun hl=>⟨by simp[hl],fun k c u a b=>by
  rw[List.getElem?_replicate]at a;split at a
  ·cases a; exact .any _
  ·cases a⟩
 have S2:St m (rep η0 m (.box 0 (List.replicate 13 .any) 59)::rep η0 m (.box 1 [.any] 30)::As) w:=by
  have T:=St.closeBox h0 (any_rel hc) hc1 S;have T2:=T.perm (List.Perm.swap _ _ _);have T3:=St.closeBox h1 (any_rel (n:=1) he) he1 T2;exact T3.perm (List.Perm.swap _ _ _)
 refine IA (Q:=Ax.pk none prog 11 (w,[],true) (outG (Rl As η0 m (fun _:Unit=>⟨[],[(0,.box 0 (zd28.map .d) 59),(1,.box 1 [.d (.i 71)] 30)],[],2⟩) (fun _=>True)) Qo (fun _ _=>False)) [.blk 0]) ?_ (gat s0 (η:=η0) (m:=m) ?_ (gretG () trivial hd (by kernel_rfl)))
 ·intro e f' w' q;have fin:Rl As η0 m (fun _:Unit=>⟨[],[(0,.box 0 (zd28.map .d) 59),(1,.box 1 [.d (.i 71)] 30)],[],2⟩) (fun _=>True) f' w'→∃M zs ze,m≤M∧FRL M zd28 zs∧FR M (.i 71) ze∧St M (bx bc zs 59::bx be [ze] 30::As) w':=
   fun⟨_,_,η,M,le,l,gm⟩=>let ⟨zs,ze,a,b,c⟩:=Wk h0 h1 le gm; ⟨M,zs,ze,l,a,b,c⟩
  cases e with
  |normal=>exact⟨.inl rfl,fin q⟩
  |ret=>exact⟨.inr rfl,fin q⟩
  |exit id=>
   have q:(bif Nat.beq id 0 then Rl As η0 m (fun _:Unit=>⟨[],[(0,.box 0 (zd28.map .d) 59),(1,.box 1 [.d (.i 71)] 30)],[],2⟩) (fun _=>True) f' w' else False):=q;cases hb:Nat.beq id 0
   ·rw[hb]at q; exact q.elim
   ·rw[hb]at q;refine(show MY 0 _ (.exit id) f' w' from ?_);simp only[MY,hb,cond_true];exact⟨by simp,fin q⟩
  |goto l=>exact q.elim
  |panic ch=>exact q.2.elim
  |outgrown=>exact q.elim
 ·refine⟨fun t=> ?_,fun n d h=>(by cases h),hd,S2,?_,fun t ht=> ?_⟩
  ·match t with
   |0=>exact .pb h0
   |1=>exact .pb h1
   |t+2=>exact .any _
  ·show [0,1].Nodup; decide
  ·have:t∈[0,1]:=ht;show t<2;simp at this; omega
def DT (a0:List UInt8)(x1:g_api_Item×Int×Int):Option (Option (g_api_Cert×Int)):=
 Ad (Bc (x1.2.1==(a0.length:Int))) fun y1=>match y1 with
 |none=>some none
 |some x2=>
 Ad (GC x1.1) fun y2=>match y2 with
 |none=>some none
 |some x3=>
 Ad (Co x3) fun y3=>match y3 with
 |none=>some none
 |some x4=>
 Ad (D7 (⟨x4.1.Serial,x4.1.Issuer,x4.1.Subject,x4.1.Key,x4.1.Names,x4.1.From,x4.1.Until,x4.1.Ca,x4.1.Depth,x4.1.Permit,[],x4.1.Sig⟩:g_api_Cert)) fun x5=>
 Ad (Bc (x5==0)) fun y4=>match y4 with
 |none=>some none
 |some x6=>
 some (some ((⟨x4.1.Serial,x4.1.Issuer,x4.1.Subject,x4.1.Key,x4.1.Names,x4.1.From,x4.1.Until,x4.1.Ca,x4.1.Depth,x4.1.Permit,[],x4.1.Sig⟩:g_api_Cert),0))
def FJ (a0:List UInt8):Option (g_api_Cert×Int):=Ad (Io a0 0) fun x1=>if(x1.2.2 !=0)=true then some ((⟨0,ByteArray.empty,ByteArray.empty,0,[],0,0,false,0,[],[],(⟨0,0⟩:g_api_Sig)⟩:g_api_Cert),x1.2.2)else Ad (DT a0 x1) fun z=>some (match z with|none=>((⟨0,ByteArray.empty,ByteArray.empty,0,[],0,0,false,0,[],[],(⟨0,0⟩:g_api_Sig)⟩:g_api_Cert),71)|some c=>c)
theorem Oo {a0:List UInt8}{r:g_api_Cert×Int}(hm:FJ a0=some r):Sf prog 70 [sl eB a0,.fn (.func 71) [] []] (.tup [ag (Ao r.1),.d (.i r.2)]):=by
 unfold FJ at hm;obtain⟨x1,q1,hm⟩:=Aa hm;refine get_of (N:=33) (nc:=13) (tc:=59) (te:=30) (zd:=[.i 0,.s ByteArray.empty,.s ByteArray.empty,.u 0,.v (.slice none 0 0),.i 0,.i 0,.t false,.i 0,.v (.slice none 0 0),.v (.slice none 0 0),.u 0,.u 0]) (ev0:= .i 71) (ov:=Qo) (ok1:=((x1.2.2 !=0))=false) (okX:=((x1.2.2 !=0))=false∧DT a0 x1=some none) (okE:=fun c=>((x1.2.2 !=0))=false∧DT a0 x1=some (some c)) (JE:=fun(c:g_api_Cert×Int)=>⟨[(4,.pb 0 0),(5,.pb 1 0)],[(0,.box 0 [.d (.i c.1.Serial),.d (.s c.1.Issuer),.d (.s c.1.Subject),.d (.u c.1.Key),sl eS c.1.Names,.d (.i c.1.From),.d (.i c.1.Until),.d (.t c.1.Ca),.d (.i c.1.Depth),sl eS c.1.Permit,sl Ai c.1.Proms,.d (.u c.1.Sig.E),.d (.u c.1.Sig.S)] 59),(1,.box 1 [.d (.i c.2)] 30)],[],2⟩) (J1:=⟨[(0,sl eB a0),(1,.fn (.func 71) [] []),(4,.pb 0 0),(5,.pb 1 0),(6,.pb 2 0),(7,.d (.i x1.2.1))],[(0,.box 2 [.d (.i x1.1.Tag),sl eB x1.1.B,sl Ag x1.1.L] 159),(1,.box 1 [.d (.i x1.2.2)] 30),(2,.box 0 [.d (.i 0),.d (.s ByteArray.empty),.d (.s ByteArray.empty),.d (.u 0),sl eS [],.d (.i 0),.d (.i 0),.d (.t false),.d (.i 0),sl eS [],sl Ai [],.d (.u 0),.d (.u 0)] 59)],[],3⟩) call70 call111 func70 rfl ntmps70 rfl rfl ⟨rfl,rfl⟩ rfl ?_ ?_ ?_ (fun c hc=>rfl) ?_ (d1_111) (d2_111)
 ·intro D0 As η0 m0 Jp hd bk;refine G.h ?_;refine gc (fun _=>We q1) (by kernel_rfl) ?_;refine gi hm (by kernel_rfl) (fun hc1 hm=> ?_) fun hc1 hm=> ?_
  ·skip;have e0:=Option.some.inj hm;subst e0;exact AL hd (by kernel_rfl)
  exact gb bk hd () hc1 (by kernel_rfl)
 ·intro hok D0 As η0 m0 hd;refine G.h ?_;rw[if_neg (by rw[hok]; decide)]at hm;obtain⟨z,hz,hm⟩:=Aa hm;have hz2:=hz;unfold DT at hz2;obtain⟨y1,q2,hz2⟩:=Aa hz2;rcases y1 with _|x2
  ·dsimp only at hz2;have e0:=Option.some.inj hz2;subst e0;exact Z1 (A2 q2) ⟨hok,hz⟩ hd (by kernel_rfl) (by kernel_rfl)
  dsimp only at hz2;refine gc (fun _=>(A2 q2).sp) (by kernel_rfl) ?_;obtain⟨y2,q3,hz2⟩:=Aa hz2;rcases y2 with _|x3
  ·dsimp only at hz2;have e0:=Option.some.inj hz2;subst e0;exact Z1 (Ro q3) ⟨hok,hz⟩ hd (by kernel_rfl) (by kernel_rfl)
  dsimp only at hz2;refine gco (Ro q3).sp (by kernel_rfl) ?_;obtain⟨y3,q4,hz2⟩:=Aa hz2;rcases y3 with _|x4
  ·dsimp only at hz2;have e0:=Option.some.inj hz2;subst e0;exact Z1 (Ja q4) ⟨hok,hz⟩ hd (by kernel_rfl) (by kernel_rfl)
  dsimp only at hz2;refine gco (Ja q4).sp (by kernel_rfl) ?_;obtain⟨x5,q5,hz2⟩:=Aa hz2;refine gc (fun _=>My q5) (by kernel_rfl) ?_;obtain⟨y4,q6,hz2⟩:=Aa hz2;rcases y4 with _|x6
  ·dsimp only at hz2;have e0:=Option.some.inj hz2;subst e0;exact Z1 (A2 q6) ⟨hok,hz⟩ hd (by kernel_rfl) (by kernel_rfl)
  dsimp only at hz2;refine gc (fun _=>(A2 q6).sp) (by kernel_rfl) ?_;have e0:=Option.some.inj hz2;subst e0;exact gretG _ ⟨hok,hz⟩ hd (by kernel_rfl)
 ·rintro c ⟨hC,hz⟩ D0 As η0 m0 hd;rw[if_neg (by rw[hC]; decide),hz]at hm;have e0:c=r:=Option.some.inj hm;subst e0;exact G.h (AL hd (by kernel_rfl))
 ·rintro⟨hC,hz⟩ D0 As η0 m0 hd;rw[if_neg (by rw[hC]; decide),hz]at hm;have e0:((⟨0,ByteArray.empty,ByteArray.empty,0,[],0,0,false,0,[],[],(⟨0,0⟩:g_api_Sig)⟩:g_api_Cert),71)=r:=Option.some.inj hm;subst e0;exact G.h (AL hd (by kernel_rfl))
def C5 (a0:List UInt8):Option (g_api_Cert×Int):=Ad (FJ a0) fun x1=>some (x1.1,x1.2)
theorem PI {a0:List UInt8}{r:g_api_Cert×Int}(hm:C5 a0=some r):Sf prog 39 [sl eB a0] (.tup [ag (Ao r.1),.d (.i r.2)]):=
 sp call39 func39 rfl ntmps39 rfl fun D0 As η0 m0 hd=>by
  unfold C5 at hm;obtain⟨x1,q1,hm⟩:=Aa hm;refine gc (fun _=>Oo q1) (by kernel_rfl) ?_;have e0:=Option.some.inj hm;subst e0;exact AL hd (by kernel_rfl)
def Cu (a0:Ak)(a1:Int)(i1:Int)(s1:(List g_api_Cert)):Option ((List g_api_Cert)):=Ad (idx a0.L (i1:Int)) fun x5=>Ad (Ad (Bl a0.Hide (i1:Int)) fun x7=>if(x7.2&&(a1==1))=true then Ad (A0 ([([0]:List UInt8),x5.Body]:List (List UInt8))) fun x8=>some x8 else some x5.Body) fun x6=>Ad (C5 x6) fun x9=>Ad (app 168 s1 ([x9.1]:List g_api_Cert)) fun x10=>some x10
def Di (a0:Ak)(a1:Int):Option ((List g_api_Cert)×Int):=Ad (Eg a0 a1) fun x1=>if(x1.2 !=0)=true then some (([]:List g_api_Cert),x1.2)else Ad (Ad (BE (Cu a0 a1) a0.L.length 0 ([]:List g_api_Cert)) fun x3=>some x3) fun x2=>some (x2,0)
theorem J2 {a0:Ak}{a1:Int}{r:(List g_api_Cert)×Int}(hm:Di a0 a1=some r):Sp prog 13 [ag (CS a0),.d (.i a1)] [] 0 (is (.tup [.ow 0,.d (.i r.2)]) [.row 0 13 _ Ao r.1] 1):=
 sp call13 func13 rfl ntmps13 rfl fun D0 As η0 m0 hd=>by
  unfold Di at hm;obtain⟨x1,q1,hm⟩:=Aa hm;refine gco (Lb q1) (by kernel_rfl) ?_;refine gi hm (by kernel_rfl) (fun hc1 hm=> ?_) fun hc1 hm=> ?_
  ·skip;refine Abi Ao 4 13 (by kernel_rfl) ?_;have e0:=Option.some.inj hm;subst e0;exact AL hd (by kernel_rfl)
  obtain⟨x2,q2,hm⟩:=Aa hm;obtain⟨x3,q3,q2⟩:=Aa q2;refine QD 0 Ao 8 13 (by kernel_rfl) ?_;refine MZ 0 (E:=Aj) (xs:=a0.L) 26 (by kernel_rfl) fun hle1=> ?_;refine gjU 0 (fun(_:Unit)=>⟨[(8,.ow 1),(2,.pb 0 0)],[(0,.row 1 13 _ Ao x2),(1,.box 0 [.d (.i a0.Id),.d (.u a0.Key),.d (.i a0.Delay),sl Aj a0.L,sl eI a0.Hide,sl Aj a0.Wait] 26)],[],2⟩) (fun _=>True) (by kernel_rfl) (fun Jp bk1=> ?_) fun _ _=> ?_
  ·refine gjU 0 (fun(_:Unit)=>⟨[(8,.ow 1),(2,.pb 0 0)],[(0,.row 1 13 _ Ao x3),(1,.box 0 [.d (.i a0.Id),.d (.u a0.Key),.d (.i a0.Delay),sl Aj a0.L,sl eI a0.Hide,sl Aj a0.Wait] 26)],[],2⟩) (fun _=>True) (by kernel_rfl) (fun Jp bk2=> ?_) fun _ _=> ?_
   ·refine gl hd (fun(p:Int×((List g_api_Cert)))=>let (p0,p_0):=p; ⟨[(1,.d (.i a1)),(2,.pb 0 0),(8,.ow 1),(26,sl Aj a0.L),(27,.d (.i (a0.L.length:Int))),(28,.d (.i p0))],[(0,.row 1 13 _ Ao p_0),(1,.box 0 [.d (.i a0.Id),.d (.u a0.Key),.d (.i a0.Delay),sl Aj a0.L,sl eI a0.Hide,sl Aj a0.Wait] 26)],[],2⟩) (fun p=> ∃i:Nat,p.1=(i:Int)∧i≤a0.L.length∧BE (Cu a0 a1) (a0.L.length-i) (i:Int) p.2=some x3) (fun p=>a0.L.length-p.1.toNat) (0,([]:List g_api_Cert)) ⟨0,rfl,Nat.zero_le _,q3⟩ (by kernel_rfl) ?_;rintro⟨_,s1⟩ ⟨i1,rfl,hi,q4⟩ Jl bl1;refine gi' (b:=decide ((i1:Int)<(a0.L.length:Int))) (by kernel_rfl) (fun hc3=> ?_) fun hc3=> ?_
    ·have hlt1:i1<a0.L.length:=by have:=of_decide_eq_true hc3; omega
     obtain⟨y1,q6,q5⟩:=DF q4 hlt1;unfold Cu at q6;obtain⟨x5,q8,q6⟩:=Aa q6;refine FA (k:=2) (E:=Aj) (fun _=>rfl) (fun _=>q8) (by kernel_rfl) ?_;obtain⟨x6,q9,q6⟩:=Aa q6;obtain⟨x7,q10,q9⟩:=Aa q9;refine gc (fun _=>Hw q10) (by kernel_rfl) ?_;refine gj (fun(_:Unit)=>⟨[(1,.d (.i a1)),(2,.pb 0 0),(8,.ow 1),(11,sl eB x6),(26,sl Aj a0.L),(27,.d (.i (a0.L.length:Int))),(28,.d (.i (i1:Int))),(10,.pb 2 0)],[(0,.box 2 [sl eB x5.Body,.d (.i x5.At)] 79),(1,.row 1 13 _ Ao s1),(2,.box 0 [.d (.i a0.Id),.d (.u a0.Key),.d (.i a0.Delay),sl Aj a0.L,sl eI a0.Hide,sl Aj a0.Wait] 26)],[],3⟩) (fun _=>True) (by kernel_rfl) (fun Jp bk3=> ?_) fun _ _=> ?_
     ·refine gi q9 (by kernel_rfl) (fun hc2 q9=> ?_) fun hc2 q9=> ?_
      ·refine CM (k:=1) eB ([0]:List UInt8) (fun _=>rfl) (by kernel_rfl) ?_;refine CM (k:=1) (eL eB) ([([0]:List UInt8),x5.Body]:List (List UInt8)) (fun _=>rfl) (by kernel_rfl) ?_;obtain⟨x8,q11,q9⟩:=Aa q9;refine gco (DI q11) (by kernel_rfl) ?_;have e0:=Option.some.inj q9;subst e0;exact gb bk3 hd () trivial (by kernel_rfl)
      have e0:=Option.some.inj q9;subst e0;exact gb bk3 hd () trivial (by kernel_rfl)
     obtain⟨x9,q12,q6⟩:=Aa q6;refine gc (fun _=>PI q12) (by kernel_rfl) ?_;refine CM (k:=13) Ao ([x9.1]:List g_api_Cert) (fun _=>rfl) (by kernel_rfl) ?_;obtain⟨x10,q13,q6⟩:=Aa q6;refine Q2 (k:=13) (E:=Ao) (fun _=>rfl) q13 (by kernel_rfl) ?_;have e0:=Option.some.inj q6;subst e0;exact gb bl1 hd (w64 ((i1:Int)+1),x10) ⟨⟨i1+1,A4 hlt1 hle1,by omega,q5⟩,G5 hlt1 hle1⟩ (by kernel_rfl)
    have hlt1: ¬i1<a0.L.length:=by have:=of_decide_eq_false hc3; omega
    have e:=Eq.symm (CX q4 hlt1);subst e;exact gb bk2 hd () trivial (by kernel_rfl)
   have e0:=Option.some.inj q2;subst e0;exact gb bk1 hd () trivial (by kernel_rfl)
  have e0:=Option.some.inj hm;subst e0;exact AL hd (by kernel_rfl)
theorem Oa {a0:Ak}{a1:Int}{r:(List g_api_Cert)×Int}(hm:Di a0 a1=some r):Sf prog 13 [ag (CS a0),.d (.i a1)] (.tup [sl Ao r.1,.d (.i r.2)]):=Sp.fz (J2 hm) (by kernel_rfl)
def Ic (a0:List Int)(a1:List Int)(s1:Int):Option ((Int)⊕((Unit)⊕Bool)):=if(decide (s1<(a0.length:Int)))=true then Ad (idx a0 s1) fun x3=>Ad (idx a1 s1) fun x4=>if(x3 !=x4)=true then some (.inr (.inr false))else some (.inl (w64 (s1+1)))else some (.inr (.inl ()))
def F3 (a0:List Int)(a1:List Int):Option Bool:=if((a0.length:Int) !=(a1.length:Int))=true then some false else Ad (iter (Ic a0 a1) C3 0) fun x1=>match x1 with| .inr r=>some r| .inl y1=>some true
theorem IC {a0:List Int}{a1:List Int}{r:Bool}(hm:F3 a0 a1=some r):Sf prog 18 [sl eI a0,sl eI a1] (.d (.t r)):=
 sp call18 func18 rfl ntmps18 rfl fun D0 As η0 m0 hd=>by
  unfold F3 at hm;refine gi hm (by kernel_rfl) (fun hc1 hm=> ?_) fun hc1 hm=> ?_
  ·skip;have e0:=Option.some.inj hm;subst e0;exact AL hd (by kernel_rfl)
  obtain⟨x1,q1,hm⟩:=Aa hm;refine gjU 0 (fun(y1:Unit)=>⟨[],[],[],0⟩) (fun y1=>x1= .inl y1) (by kernel_rfl) (fun Jp bk1=> ?_) fun y1 hy=> ?_
  ·refine gl hd (fun(p:Nat×(Int))=>let (p0,p_0):=p; ⟨[(0,sl eI a0),(1,sl eI a1),(5,.d (.i p_0))],[],[],0⟩) (fun p=>iter (Ic a0 a1) p.1 p.2=some x1) (fun p=>p.1) (C3,0) q1 (by kernel_rfl) ?_;rintro⟨n1,s1⟩ q2 Jl bl1;cases n1 with
   |zero=>exact(Bq q2).elim
   |succ n1=>
    obtain⟨y2,q4,q3⟩:=Bi q2;unfold Ic at q4;refine gi q4 (by kernel_rfl) (fun hc2 q4=> ?_) fun hc2 q4=> ?_
    ·skip;obtain⟨x3,q6,q4⟩:=Aa q4;refine FA (k:=1) (E:=eI) (fun _=>rfl) (fun _=>q6) (by kernel_rfl) ?_;obtain⟨x4,q7,q4⟩:=Aa q4;refine FA (k:=1) (E:=eI) (fun _=>rfl) (fun _=>q7) (by kernel_rfl) ?_;refine gi q4 (by kernel_rfl) (fun hc3 q4=> ?_) fun hc3 q4=> ?_
     ·skip;cases q4;rcases q3 with ⟨sn,e,_⟩|e
      ·cases e
      cases e;dsimp only at hm;have e0:=Option.some.inj hm;subst e0;exact AL hd (by kernel_rfl)
     have e0:=Option.some.inj q4;subst e0;rcases q3 with ⟨sn,e,q3'⟩|e
     ·have e:=Sum.inl.inj e;subst e;exact gb bl1 hd (n1,_) ⟨q3',Nat.lt_succ_self _⟩ (by kernel_rfl)
     cases CN e
    have e0:=Option.some.inj q4;subst e0;rcases q3 with ⟨sn,e,_⟩|e
    ·cases Fv e
    have e:=Sum.inr.inj e;subst e;exact gb bk1 hd () rfl (by kernel_rfl)
  subst hy;dsimp only at hm;have e0:=Option.some.inj hm;subst e0;exact AL hd (by kernel_rfl)
def Cn (a0:ByteArray)(k0:List (Ah×Int))(k1:g_api_Cert):Option (Bool×(List (Ah×Int))×g_api_Cert):=bnd (((lkG (Au (⟨a0,k1.Key⟩:Ah)) k0).getD 0)) fun x1=>bnd ((lkG (Au (⟨a0,k1.Key⟩:Ah)) k0).isSome) fun x2=>bnd (((!x2)||(decide (x1>k1.From)))) fun x3=>some (x3,k0,k1)
theorem J0 {a0:ByteArray}{k0:List (Ah×Int)}{k1:g_api_Cert}{r:Bool×(List (Ah×Int))×g_api_Cert}(hm:Cn a0 k0 k1=some r):Sp prog 47 [.d (.s a0),.pb 0 0,.pb 2 0] [.box 0 [.ow 1] 89,.hp 1 (.mg _ _ AA D.i k0),.box 2 [.d (.i k1.Serial),.d (.s k1.Issuer),.d (.s k1.Subject),.d (.u k1.Key),sl eS k1.Names,.d (.i k1.From),.d (.i k1.Until),.d (.t k1.Ca),.d (.i k1.Depth),sl eS k1.Permit,sl Ai k1.Proms,.d (.u k1.Sig.E),.d (.u k1.Sig.S)] 59] 3 (is (.d (.t r.1)) [.box 0 [.ow 1] 89,.hp 1 (.mg _ _ AA D.i r.2.1),.box 2 [.d (.i r.2.2.Serial),.d (.s r.2.2.Issuer),.d (.s r.2.2.Subject),.d (.u r.2.2.Key),.d (.sl _ eS r.2.2.Names),.d (.i r.2.2.From),.d (.i r.2.2.Until),.d (.t r.2.2.Ca),.d (.i r.2.2.Depth),.d (.sl _ eS r.2.2.Permit),.d (.sl _ Ai r.2.2.Proms),.d (.u r.2.2.Sig.E),.d (.u r.2.2.Sig.S)] 59] 3):=
 sp call47 func47 rfl ntmps47 rfl fun D0 As η0 m0 hd=>by
  unfold Cn at hm;refine glkg (K:=AA) (c:=D.i) k0 (⟨a0,k1.Key⟩:Ah) (Au (⟨a0,k1.Key⟩:Ah)) 0 91 3 true (by kernel_rfl) (by kernel_rfl) (by kernel_rfl) (by kernel_rfl) (by kernel_rfl) ?_;have hm:=Ba hm;let x1:Int:=(((lkG (Au (⟨a0,k1.Key⟩:Ah)) k0).getD 0));have hm:=Ba hm;let x2:Bool:=((lkG (Au (⟨a0,k1.Key⟩:Ah)) k0).isSome);have hm:=Ba hm;let x3:Bool:=(((!x2)||(decide (x1>k1.From))));have e0:=Option.some.inj hm;subst e0;exact AL hd (by kernel_rfl)
def AO (a0:List ByteArray)(i1:Int)(s1:(List (Ah×Int))×Int×ByteArray×ByteArray×UInt64×(List ByteArray)×Int×Int×Bool×Int×(List ByteArray)×(List g_api_Promise)×UInt64×UInt64):Option (((List (Ah×Int))×Int×ByteArray×ByteArray×UInt64×(List ByteArray)×Int×Int×Bool×Int×(List ByteArray)×(List g_api_Promise)×UInt64×UInt64)⊕(Int×(List (Ah×Int))×g_api_Cert)):=Ad (idx a0 (i1:Int)) fun x3=>Ad (Cn x3 s1.1 (⟨s1.2.1,s1.2.2.1,s1.2.2.2.1,s1.2.2.2.2.1,s1.2.2.2.2.2.1,s1.2.2.2.2.2.2.1,s1.2.2.2.2.2.2.2.1,s1.2.2.2.2.2.2.2.2.1,s1.2.2.2.2.2.2.2.2.2.1,s1.2.2.2.2.2.2.2.2.2.2.1,s1.2.2.2.2.2.2.2.2.2.2.2.1,(⟨s1.2.2.2.2.2.2.2.2.2.2.2.2.1,s1.2.2.2.2.2.2.2.2.2.2.2.2.2⟩:g_api_Sig)⟩:g_api_Cert)) fun x4=>if x4.1=true then some (.inr ((i1:Int),x4.2.1,x4.2.2))else some (.inl (x4.2.1,x4.2.2.Serial,x4.2.2.Issuer,x4.2.2.Subject,x4.2.2.Key,x4.2.2.Names,x4.2.2.From,x4.2.2.Until,x4.2.2.Ca,x4.2.2.Depth,x4.2.2.Permit,x4.2.2.Proms,x4.2.2.Sig.E,x4.2.2.Sig.S))
def BF (a0:List ByteArray)(k0:List (Ah×Int))(k1:g_api_Cert):Option (Int×(List (Ah×Int))×g_api_Cert):=Ad (Ft (AO a0) a0.length 0 (k0,k1.Serial,k1.Issuer,k1.Subject,k1.Key,k1.Names,k1.From,k1.Until,k1.Ca,k1.Depth,k1.Permit,k1.Proms,k1.Sig.E,k1.Sig.S)) fun x1=>match x1 with| .inr r=>some r| .inl y1=>some ((-1),y1.1,(⟨y1.2.1,y1.2.2.1,y1.2.2.2.1,y1.2.2.2.2.1,y1.2.2.2.2.2.1,y1.2.2.2.2.2.2.1,y1.2.2.2.2.2.2.2.1,y1.2.2.2.2.2.2.2.2.1,y1.2.2.2.2.2.2.2.2.2.1,y1.2.2.2.2.2.2.2.2.2.2.1,y1.2.2.2.2.2.2.2.2.2.2.2.1,(⟨y1.2.2.2.2.2.2.2.2.2.2.2.2.1,y1.2.2.2.2.2.2.2.2.2.2.2.2.2⟩:g_api_Sig)⟩:g_api_Cert))
theorem FC {a0:List ByteArray}{k0:List (Ah×Int)}{k1:g_api_Cert}{r:Int×(List (Ah×Int))×g_api_Cert}(hm:BF a0 k0 k1=some r):Sp prog 77 [sl eS a0,.fn (.func 47) [] [.pb 0 0,.pb 2 0]] [.box 0 [.ow 1] 89,.hp 1 (.mg _ _ AA D.i k0),.box 2 [.d (.i k1.Serial),.d (.s k1.Issuer),.d (.s k1.Subject),.d (.u k1.Key),sl eS k1.Names,.d (.i k1.From),.d (.i k1.Until),.d (.t k1.Ca),.d (.i k1.Depth),sl eS k1.Permit,sl Ai k1.Proms,.d (.u k1.Sig.E),.d (.u k1.Sig.S)] 59] 3 (is (.d (.i r.1)) [.box 0 [.ow 1] 89,.hp 1 (.mg _ _ AA D.i r.2.1),.box 2 [.d (.i r.2.2.Serial),.d (.s r.2.2.Issuer),.d (.s r.2.2.Subject),.d (.u r.2.2.Key),.d (.sl _ eS r.2.2.Names),.d (.i r.2.2.From),.d (.i r.2.2.Until),.d (.t r.2.2.Ca),.d (.i r.2.2.Depth),.d (.sl _ eS r.2.2.Permit),.d (.sl _ Ai r.2.2.Proms),.d (.u r.2.2.Sig.E),.d (.u r.2.2.Sig.S)] 59] 3):=
 sp call77 func77 rfl ntmps77 rfl fun D0 As η0 m0 hd=>by
  unfold BF at hm;obtain⟨x1,q1,hm⟩:=Aa hm;refine MZ 0 (E:=eS) (xs:=a0) 6 (by kernel_rfl) fun hle1=> ?_;refine gjU 0 (fun(y1:(List (Ah×Int))×Int×ByteArray×ByteArray×UInt64×(List ByteArray)×Int×Int×Bool×Int×(List ByteArray)×(List g_api_Promise)×UInt64×UInt64)=>let (y_0,y_1,y_2,y_3,y_4,y_5,y_6,y_7,y_8,y_9,y_10,y_11,y_12,y_13):=y1; ⟨[],[(0,.box 0 [.ow 1] 89),(1,.hp 1 (.mg _ _ AA D.i y_0)),(2,.box 2 [.d (.i y_1),.d (.s y_2),.d (.s y_3),.d (.u y_4),sl eS y_5,.d (.i y_6),.d (.i y_7),.d (.t y_8),.d (.i y_9),sl eS y_10,sl Ai y_11,.d (.u y_12),.d (.u y_13)] 59)],[],3⟩) (fun y1=>x1= .inl y1) (by kernel_rfl) (fun Jp bk1=> ?_) fun y1 hy=> ?_
  ·refine gl hd (fun(p:Int×((List (Ah×Int))×Int×ByteArray×ByteArray×UInt64×(List ByteArray)×Int×Int×Bool×Int×(List ByteArray)×(List g_api_Promise)×UInt64×UInt64))=>let (p0,p_0,p_1,p_2,p_3,p_4,p_5,p_6,p_7,p_8,p_9,p_10,p_11,p_12,p_13):=p; ⟨[(0,sl eS a0),(1,.fn (.func 47) [] [.pb 0 0,.pb 2 0]),(7,.d (.i (a0.length:Int))),(8,.d (.i p0))],[(0,.box 0 [.ow 1] 89),(1,.hp 1 (.mg _ _ AA D.i p_0)),(2,.box 2 [.d (.i p_1),.d (.s p_2),.d (.s p_3),.d (.u p_4),sl eS p_5,.d (.i p_6),.d (.i p_7),.d (.t p_8),.d (.i p_9),sl eS p_10,sl Ai p_11,.d (.u p_12),.d (.u p_13)] 59)],[],3⟩) (fun p=> ∃i:Nat,p.1=(i:Int)∧i≤a0.length∧Ft (AO a0) (a0.length-i) (i:Int) p.2=some x1) (fun p=>a0.length-p.1.toNat) (0,(k0,k1.Serial,k1.Issuer,k1.Subject,k1.Key,k1.Names,k1.From,k1.Until,k1.Ca,k1.Depth,k1.Permit,k1.Proms,k1.Sig.E,k1.Sig.S)) ⟨0,rfl,Nat.zero_le _,q1⟩ (by kernel_rfl) ?_;rintro⟨_,s1⟩ ⟨i1,rfl,hi,q2⟩ Jl bl1;refine gi' (b:=decide ((i1:Int)<(a0.length:Int))) (by kernel_rfl) (fun hc2=> ?_) fun hc2=> ?_
   ·have hlt1:i1<a0.length:=by have:=of_decide_eq_true hc2; omega
    obtain⟨y2,q4,q3⟩:=JM q2 hlt1;unfold AO at q4;obtain⟨x3,q6,q4⟩:=Aa q4;refine FA (k:=1) (E:=eS) (fun _=>rfl) (fun _=>q6) (by kernel_rfl) ?_;obtain⟨x4,q7,q4⟩:=Aa q4;refine gco (J0 q7) (by kernel_rfl) ?_;refine gi q4 (by kernel_rfl) (fun hc1 q4=> ?_) fun hc1 q4=> ?_
    ·skip;cases q4;rcases q3 with ⟨sn,e,_⟩|⟨tn,e,e2⟩
     ·cases e
     cases e;cases e2;dsimp only at hm;have e0:=Option.some.inj hm;subst e0;exact AL hd (by kernel_rfl)
    have e0:=Option.some.inj q4;subst e0;rcases q3 with ⟨sn,e,q3'⟩|⟨tn,e,_⟩
    ·have e:=Sum.inl.inj e;subst e;exact gb bl1 hd (w64 ((i1:Int)+1),_) ⟨⟨i1+1,A4 hlt1 hle1,by omega,q3'⟩,G5 hlt1 hle1⟩ (by kernel_rfl)
    cases CN e
   have hlt1: ¬i1<a0.length:=by have:=of_decide_eq_false hc2; omega
   have e:=It q2 hlt1;cases e;exact gb bk1 hd _ rfl (by kernel_rfl)
  subst hy;dsimp only at hm;have e0:=Option.some.inj hm;subst e0;exact AL hd (by kernel_rfl)
def Bo (a0:List ByteArray)(k0:List (Ah×Int))(k1:g_api_Cert):Option (Bool×(List (Ah×Int))×g_api_Cert):=Ad (BF a0 k0 k1) fun x1=>some ((decide (x1.1≥0)),x1.2.1,x1.2.2)
theorem EX {a0:List ByteArray}{k0:List (Ah×Int)}{k1:g_api_Cert}{r:Bool×(List (Ah×Int))×g_api_Cert}(hm:Bo a0 k0 k1=some r):Sp prog 46 [sl eS a0,.fn (.func 47) [] [.pb 0 0,.pb 2 0]] [.box 0 [.ow 1] 89,.hp 1 (.mg _ _ AA D.i k0),.box 2 [.d (.i k1.Serial),.d (.s k1.Issuer),.d (.s k1.Subject),.d (.u k1.Key),sl eS k1.Names,.d (.i k1.From),.d (.i k1.Until),.d (.t k1.Ca),.d (.i k1.Depth),sl eS k1.Permit,sl Ai k1.Proms,.d (.u k1.Sig.E),.d (.u k1.Sig.S)] 59] 3 (is (.d (.t r.1)) [.box 0 [.ow 1] 89,.hp 1 (.mg _ _ AA D.i r.2.1),.box 2 [.d (.i r.2.2.Serial),.d (.s r.2.2.Issuer),.d (.s r.2.2.Subject),.d (.u r.2.2.Key),.d (.sl _ eS r.2.2.Names),.d (.i r.2.2.From),.d (.i r.2.2.Until),.d (.t r.2.2.Ca),.d (.i r.2.2.Depth),.d (.sl _ eS r.2.2.Permit),.d (.sl _ Ai r.2.2.Proms),.d (.u r.2.2.Sig.E),.d (.u r.2.2.Sig.S)] 59] 3):=
 sp call46 func46 rfl ntmps46 rfl fun D0 As η0 m0 hd=>by
  unfold Bo at hm;obtain⟨x1,q1,hm⟩:=Aa hm;refine gco (FC q1) (by kernel_rfl) ?_;have e0:=Option.some.inj hm;subst e0;exact AL hd (by kernel_rfl)
def Dh (a0:g_api_Cert)(k0:List (Ah×Int)):Option (Bool×(List (Ah×Int))):=Ad (Bo a0.Names k0 a0) fun x1=>some (x1.1,x1.2.1)
theorem KL {a0:g_api_Cert}{k0:List (Ah×Int)}{r:Bool×(List (Ah×Int))}(hm:Dh a0 k0=some r):Sp prog 45 [ag (Ao a0),.pb 0 0] [.box 0 [.ow 1] 89,.hp 1 (.mg _ _ AA D.i k0)] 2 (is (.d (.t r.1)) [.box 0 [.ow 1] 89,.hp 1 (.mg _ _ AA D.i r.2)] 2):=
 sp call45 func45 rfl ntmps45 rfl fun D0 As η0 m0 hd=>by
  unfold Dh at hm;obtain⟨x1,q1,hm⟩:=Aa hm;refine gco (EX q1) (by kernel_rfl) ?_;have e0:=Option.some.inj hm;subst e0;exact AL hd (by kernel_rfl)
def AU (a0:List g_api_Cert)(i1:Int)(s1:(List Int)×(List (Ah×Int))):Option ((List Int)×(List (Ah×Int))):=Ad (Ad (idx a0 (i1:Int)) fun x5=>Ad (Dh x5 s1.2) fun x6=>if x6.1=true then Ad (app 8 s1.1 ([(i1:Int)]:List Int)) fun x7=>some (x7,x6.2)else some (s1.1,x6.2)) fun x4=>some (x4.1,x4.2)
def Cg (a0:List g_api_Cert)(k0:List (Ah×Int)):Option ((List Int)×(List (Ah×Int))):=Ad (Ad (BE (AU a0) a0.length 0 (([]:List Int),k0)) fun x2=>some (x2.1,x2.2)) fun x1=>some (x1.1,x1.2)
theorem Hx {a0:List g_api_Cert}{k0:List (Ah×Int)}{r:(List Int)×(List (Ah×Int))}(hm:Cg a0 k0=some r):Sp prog 44 [sl Ao a0,.fn (.func 45) [] [.pb 0 0]] [.box 0 [.ow 1] 89,.hp 1 (.mg _ _ AA D.i k0)] 2 (is (.ow 2) [.box 0 [.ow 1] 89,.hp 1 (.mg _ _ AA D.i r.2),.row 2 1 _ eI r.1] 3):=
 sp call44 func44 rfl ntmps44 rfl fun D0 As η0 m0 hd=>by
  unfold Cg at hm;obtain⟨x1,q1,hm⟩:=Aa hm;obtain⟨x2,q2,q1⟩:=Aa q1;refine QD 0 eI 5 1 (by kernel_rfl) ?_;refine MZ 0 (E:=Ao) (xs:=a0) 8 (by kernel_rfl) fun hle1=> ?_;refine gjU 0 (fun(_:Unit)=>let (y_0,y_1):=x1; ⟨[(5,.ow 2)],[(0,.row 2 1 _ eI y_0),(1,.box 0 [.ow 1] 89),(2,.hp 1 (.mg _ _ AA D.i y_1))],[],3⟩) (fun _=>True) (by kernel_rfl) (fun Jp bk1=> ?_) fun _ _=> ?_
  ·refine gjU 0 (fun(_:Unit)=>let (y_0,y_1):=x2; ⟨[(5,.ow 2)],[(0,.row 2 1 _ eI y_0),(1,.box 0 [.ow 1] 89),(2,.hp 1 (.mg _ _ AA D.i y_1))],[],3⟩) (fun _=>True) (by kernel_rfl) (fun Jp bk2=> ?_) fun _ _=> ?_
   ·refine gl hd (fun(p:Int×((List Int)×(List (Ah×Int))))=>let (p0,p_0,p_1):=p; ⟨[(1,.fn (.func 45) [] [.pb 0 0]),(5,.ow 2),(8,sl Ao a0),(9,.d (.i (a0.length:Int))),(10,.d (.i p0))],[(0,.row 2 1 _ eI p_0),(1,.box 0 [.ow 1] 89),(2,.hp 1 (.mg _ _ AA D.i p_1))],[],3⟩) (fun p=> ∃i:Nat,p.1=(i:Int)∧i≤a0.length∧BE (AU a0) (a0.length-i) (i:Int) p.2=some x2) (fun p=>a0.length-p.1.toNat) (0,(([]:List Int),k0)) ⟨0,rfl,Nat.zero_le _,q2⟩ (by kernel_rfl) ?_;rintro⟨_,s1⟩ ⟨i1,rfl,hi,q3⟩ Jl bl1;refine gi' (b:=decide ((i1:Int)<(a0.length:Int))) (by kernel_rfl) (fun hc2=> ?_) fun hc2=> ?_
    ·have hlt1:i1<a0.length:=by have:=of_decide_eq_true hc2; omega
     obtain⟨y1,q5,q4⟩:=DF q3 hlt1;unfold AU at q5;obtain⟨x4,q7,q5⟩:=Aa q5;refine gjU 1 (fun(_:Unit)=>let (y_0,y_1):=x4; ⟨[(1,.fn (.func 45) [] [.pb 0 0]),(5,.ow 2),(8,sl Ao a0),(9,.d (.i (a0.length:Int))),(10,.d (.i (i1:Int)))],[(0,.row 2 1 _ eI y_0),(1,.box 0 [.ow 1] 89),(2,.hp 1 (.mg _ _ AA D.i y_1))],[],3⟩) (fun _=>True) (by kernel_rfl) (fun Jp bk3=> ?_) fun _ _=> ?_
     ·skip;obtain⟨x5,q8,q7⟩:=Aa q7;refine FA (k:=13) (E:=Ao) (fun _=>rfl) (fun _=>q8) (by kernel_rfl) ?_;obtain⟨x6,q9,q7⟩:=Aa q7;refine gco (KL q9) (by kernel_rfl) ?_;refine gi q7 (by kernel_rfl) (fun hc1 q7=> ?_) fun hc1 q7=> ?_
      ·refine CM (k:=1) eI ([(i1:Int)]:List Int) (fun _=>rfl) (by kernel_rfl) ?_;obtain⟨x7,q10,q7⟩:=Aa q7;refine Q2 (k:=1) (E:=eI) (fun _=>rfl) q10 (by kernel_rfl) ?_;have e0:=Option.some.inj q7;subst e0;exact gb bk3 hd () trivial (by kernel_rfl)
      have e0:=Option.some.inj q7;subst e0;exact gb bk3 hd () trivial (by kernel_rfl)
     have e0:=Option.some.inj q5;subst e0;exact gb bl1 hd (w64 ((i1:Int)+1),(x4.1,x4.2)) ⟨⟨i1+1,A4 hlt1 hle1,by omega,q4⟩,G5 hlt1 hle1⟩ (by kernel_rfl)
    have hlt1: ¬i1<a0.length:=by have:=of_decide_eq_false hc2; omega
    have e:=Eq.symm (CX q3 hlt1);subst e;exact gb bk2 hd () trivial (by kernel_rfl)
   have e0:=Option.some.inj q1;subst e0;exact gb bk1 hd () trivial (by kernel_rfl)
  have e0:=Option.some.inj hm;subst e0;exact AL hd (by kernel_rfl)
def B6 (x3:An)(i2:Int)(x6:ByteArray)(s2:(List (Ah×Int))):Option ((List (Ah×Int))):=Ad (bnd (((lkG (Au (⟨x6,x3.Key⟩:Ah)) s2).getD 0)) fun x8=>bnd ((lkG (Au (⟨x6,x3.Key⟩:Ah)) s2).isSome) fun x9=>if((!x9)||(decide (x3.At<x8)))=true then some (upG (Au (⟨x6,x3.Key⟩:Ah)) ((⟨x6,x3.Key⟩:Ah),x3.At) s2)else some s2) fun x7=>some x7
def Cw (i1:Int)(x3:An)(s1:(List (Ah×Int))):Option ((List (Ah×Int))):=Ad (Ad (CC (B6 x3) x3.Names 0 s1) fun x5=>some x5) fun x4=>some x4
def Bm (a0:List g_api_Cert)(a1:List An):Option (List Int):=Ad (Ad (CC Cw a1 0 ([]:List (Ah×Int))) fun x2=>some x2) fun x1=>Ad (Cg a0 x1) fun x10=>some x10.1
theorem CG {a0:List g_api_Cert}{a1:List An}{r:List Int}(hm:Bm a0 a1=some r):Sp prog 19 [sl Ao a0,sl AB a1] [] 0 (is (.ow 0) [.row 0 1 _ eI r] 1):=
 sp call19 func19 rfl ntmps19 rfl fun D0 As η0 m0 hd=>by
  unfold Bm at hm;refine gmkg Ah Int AA D.i (by kernel_rfl) ?_;obtain⟨x1,q1,hm⟩:=Aa hm;obtain⟨x2,q2,q1⟩:=Aa q1;refine MZ 0 (E:=AB) (xs:=a1) 14 (by kernel_rfl) fun hle1=> ?_;refine gjU 0 (fun(_:Unit)=>⟨[(0,sl Ao a0),(5,.pb 1 0),(13,.ow 0)],[(0,.box 1 [.ow 0] 89),(1,.hp 0 (.mg _ _ AA D.i x1))],[],2⟩) (fun _=>True) (by kernel_rfl) (fun Jp bk1=> ?_) fun _ _=> ?_
  ·refine gjU 0 (fun(_:Unit)=>⟨[(0,sl Ao a0),(5,.pb 1 0),(13,.ow 0)],[(0,.box 1 [.ow 0] 89),(1,.hp 0 (.mg _ _ AA D.i x2))],[],2⟩) (fun _=>True) (by kernel_rfl) (fun Jp bk2=> ?_) fun _ _=> ?_
   ·refine gl hd (fun(p:Int×((List (Ah×Int))))=>let (p0,p_0):=p; ⟨[(0,sl Ao a0),(5,.pb 1 0),(14,sl AB a1),(15,.d (.i (a1.length:Int))),(16,.d (.i p0)),(13,.ow 0)],[(0,.box 1 [.ow 0] 89),(1,.hp 0 (.mg _ _ AA D.i p_0))],[],2⟩) (fun p=> ∃i:Nat,p.1=(i:Int)∧i≤a1.length∧CC Cw (a1.drop i) (i:Int) p.2=some x2) (fun p=>a1.length-p.1.toNat) (0,([]:List (Ah×Int))) ⟨0,rfl,Nat.zero_le _,q2⟩ (by kernel_rfl) ?_;rintro⟨_,s1⟩ ⟨i1,rfl,hi,q3⟩ Jl bl1;refine gi' (b:=decide ((i1:Int)<(a1.length:Int))) (by kernel_rfl) (fun hc3=> ?_) fun hc3=> ?_
    ·have hlt1:i1<a1.length:=by have:=of_decide_eq_true hc3; omega
     obtain⟨x3,y1,q6,q5,q4⟩:=EU q3 hlt1;unfold Cw at q5;obtain⟨x4,q7,q5⟩:=Aa q5;refine gjU 1 (fun(_:Unit)=>⟨[(0,sl Ao a0),(5,.pb 1 0),(14,sl AB a1),(15,.d (.i (a1.length:Int))),(16,.d (.i (i1:Int))),(13,.ow 0)],[(0,.box 1 [.ow 0] 89),(1,.hp 0 (.mg _ _ AA D.i x4))],[],2⟩) (fun _=>True) (by kernel_rfl) (fun Jp bk3=> ?_) fun _ _=> ?_
     ·skip;refine FA (k:=4) (E:=AB) (fun _=>rfl) (fun _=>q6) (by kernel_rfl) ?_;obtain⟨x5,q8,q7⟩:=Aa q7;refine MZ 2 (E:=eS) (xs:=x3.Names) 21 (by kernel_rfl) fun hle2=> ?_;refine gjU 2 (fun(_:Unit)=>⟨[(0,sl Ao a0),(5,.pb 1 0),(14,sl AB a1),(15,.d (.i (a1.length:Int))),(16,.d (.i (i1:Int))),(7,.pb 2 0),(13,.ow 0)],[(0,.box 2 [.d (.s x3.Who),sl eS x3.Names,.d (.u x3.Key),.d (.i x3.At)] 65),(1,.box 1 [.ow 0] 89),(2,.hp 0 (.mg _ _ AA D.i x5))],[],3⟩) (fun _=>True) (by kernel_rfl) (fun Jp bk4=> ?_) fun _ _=> ?_
      ·refine gl hd (fun(p:Int×((List (Ah×Int))))=>let (p0,p_0):=p; ⟨[(0,sl Ao a0),(5,.pb 1 0),(7,.pb 2 0),(14,sl AB a1),(15,.d (.i (a1.length:Int))),(16,.d (.i (i1:Int))),(21,sl eS x3.Names),(22,.d (.i (x3.Names.length:Int))),(23,.d (.i p0)),(13,.ow 0)],[(0,.box 2 [.d (.s x3.Who),sl eS x3.Names,.d (.u x3.Key),.d (.i x3.At)] 65),(1,.box 1 [.ow 0] 89),(2,.hp 0 (.mg _ _ AA D.i p_0))],[],3⟩) (fun p=> ∃i:Nat,p.1=(i:Int)∧i≤x3.Names.length∧CC (B6 x3) (x3.Names.drop i) (i:Int) p.2=some x5) (fun p=>x3.Names.length-p.1.toNat) (0,s1) ⟨0,rfl,Nat.zero_le _,q8⟩ (by kernel_rfl) ?_;rintro⟨_,s2⟩ ⟨i2,rfl,hi,q9⟩ Jl bl2;refine gi' (b:=decide ((i2:Int)<(x3.Names.length:Int))) (by kernel_rfl) (fun hc2=> ?_) fun hc2=> ?_
       ·have hlt2:i2<x3.Names.length:=by have:=of_decide_eq_true hc2; omega
        obtain⟨x6,y2,q12,q11,q10⟩:=EU q9 hlt2;unfold B6 at q11;obtain⟨x7,q13,q11⟩:=Aa q11;refine gjU 3 (fun(_:Unit)=>⟨[(0,sl Ao a0),(5,.pb 1 0),(7,.pb 2 0),(14,sl AB a1),(15,.d (.i (a1.length:Int))),(16,.d (.i (i1:Int))),(21,sl eS x3.Names),(22,.d (.i (x3.Names.length:Int))),(23,.d (.i (i2:Int))),(13,.ow 0)],[(0,.box 2 [.d (.s x3.Who),sl eS x3.Names,.d (.u x3.Key),.d (.i x3.At)] 65),(1,.box 1 [.ow 0] 89),(2,.hp 0 (.mg _ _ AA D.i x7))],[],3⟩) (fun _=>True) (by kernel_rfl) (fun Jp bk5=> ?_) fun _ _=> ?_
        ·skip;refine FA (k:=1) (E:=eS) (fun _=>rfl) (fun _=>q12) (by kernel_rfl) ?_;refine glkg (K:=AA) (c:=D.i) s2 (⟨x6,x3.Key⟩:Ah) (Au (⟨x6,x3.Key⟩:Ah)) 0 91 3 true (by kernel_rfl) (by kernel_rfl) (by kernel_rfl) (by kernel_rfl) (by kernel_rfl) ?_;have q13:=Ba q13;let x8:Int:=(((lkG (Au (⟨x6,x3.Key⟩:Ah)) s2).getD 0));have q13:=Ba q13;let x9:Bool:=((lkG (Au (⟨x6,x3.Key⟩:Ah)) s2).isSome);refine gi q13 (by kernel_rfl) (fun hc1 q13=> ?_) fun hc1 q13=> ?_
         ·refine gupg (K:=AA) (c:=D.i) s2 (⟨x6,x3.Key⟩:Ah) x3.At (Au (⟨x6,x3.Key⟩:Ah)) 91 Mg (by kernel_rfl) (by kernel_rfl) (by kernel_rfl) (by kernel_rfl) (by kernel_rfl) ?_;have e0:=Option.some.inj q13;subst e0;exact gb bk5 hd () trivial (by kernel_rfl)
         have e0:=Option.some.inj q13;subst e0;exact gb bk5 hd () trivial (by kernel_rfl)
        have e0:=Option.some.inj q11;subst e0;exact gb bl2 hd (w64 ((i2:Int)+1),x7) ⟨⟨i2+1,A4 hlt2 hle2,by omega,q10⟩,G5 hlt2 hle2⟩ (by kernel_rfl)
       have hlt2: ¬i2<x3.Names.length:=by have:=of_decide_eq_false hc2; omega
       have e:=Eq.symm (DG q9 hlt2);subst e;exact gb bk4 hd () trivial (by kernel_rfl)
      have e0:=Option.some.inj q7;subst e0;exact gb bk3 hd () trivial (by kernel_rfl)
     have e0:=Option.some.inj q5;subst e0;exact gb bl1 hd (w64 ((i1:Int)+1),x4) ⟨⟨i1+1,A4 hlt1 hle1,by omega,q4⟩,G5 hlt1 hle1⟩ (by kernel_rfl)
    have hlt1: ¬i1<a1.length:=by have:=of_decide_eq_false hc3; omega
    have e:=Eq.symm (DG q3 hlt1);subst e;exact gb bk2 hd () trivial (by kernel_rfl)
   have e0:=Option.some.inj q1;subst e0;exact gb bk1 hd () trivial (by kernel_rfl)
  obtain⟨x10,q16,hm⟩:=Aa hm;refine gco (Hx q16) (by kernel_rfl) ?_;have e0:=Option.some.inj hm;subst e0;exact AL hd (by kernel_rfl)
theorem Ml {a0:List g_api_Cert}{a1:List An}{r:List Int}(hm:Bm a0 a1=some r):Sf prog 19 [sl Ao a0,sl AB a1] (sl eI r):=Sp.fz (CG hm) (by kernel_rfl)
def FN (a0:g_api_Promise)(k0:Bn)(k1:Cc)(k2:List ((UInt64×UInt64)×Bool)):Option (Bool×Bn×Cc×(List ((UInt64×UInt64)×Bool))):=bnd (((((a0.Log==k0.Log)&&(a0.Log==k1.Log))&&(decide ((w64 (a0.At+k1.Delay))<k0.At)))&&(!((lkG (JK a0.Leaf) k2).getD false)))) fun x1=>some (x1,k0,k1,k2)
theorem KM {a0:g_api_Promise}{k0:Bn}{k1:Cc}{k2:List ((UInt64×UInt64)×Bool)}{r:Bool×Bn×Cc×(List ((UInt64×UInt64)×Bool))}(hm:FN a0 k0 k1 k2=some r):Sp prog 50 [ag (Ai a0),.pb 0 0,.pb 1 0,.pb 2 0] [.box 0 [.d (.i k0.Log),.d (.i k0.Size),.d (.u k0.Root.1),.d (.u k0.Root.2),.d (.i k0.At),.d (.u k0.Sig.E),.d (.u k0.Sig.S)] 42,.box 1 [.d (.i k1.Log),.d (.u k1.Key),.d (.i k1.Delay)] 45,.box 2 [.ow 3] 96,.hp 3 (.mg _ _ AR D.t k2)] 4 (is (.d (.t r.1)) [.box 0 [.d (.i r.2.1.Log),.d (.i r.2.1.Size),.d (.u r.2.1.Root.1),.d (.u r.2.1.Root.2),.d (.i r.2.1.At),.d (.u r.2.1.Sig.E),.d (.u r.2.1.Sig.S)] 42,.box 1 [.d (.i r.2.2.1.Log),.d (.u r.2.2.1.Key),.d (.i r.2.2.1.Delay)] 45,.box 2 [.ow 3] 96,.hp 3 (.mg _ _ AR D.t r.2.2.2)] 4):=
 sp call50 func50 rfl ntmps50 rfl fun D0 As η0 m0 hd=>by
  unfold FN at hm;refine glkg (K:=AR) (c:=D.t) k2 a0.Leaf (JK a0.Leaf) false 38 4 false (by kernel_rfl) (by kernel_rfl) (by kernel_rfl) (by kernel_rfl) (by kernel_rfl) ?_;have hm:=Ba hm;let x1:Bool:=(((((a0.Log==k0.Log)&&(a0.Log==k1.Log))&&(decide ((w64 (a0.At+k1.Delay))<k0.At)))&&(!((lkG (JK a0.Leaf) k2).getD false))));have e0:=Option.some.inj hm;subst e0;exact AL hd (by kernel_rfl)
def Cj (a0:List g_api_Promise)(i1:Int)(s1:(List Int)×Int×Int×UInt64×UInt64×Int×UInt64×UInt64×Int×UInt64×Int×(List ((UInt64×UInt64)×Bool))):Option ((List Int)×Int×Int×UInt64×UInt64×Int×UInt64×UInt64×Int×UInt64×Int×(List ((UInt64×UInt64)×Bool))):=Ad (Ad (idx a0 (i1:Int)) fun x5=>Ad (FN x5 (⟨s1.2.1,s1.2.2.1,(s1.2.2.2.1,s1.2.2.2.2.1),s1.2.2.2.2.2.1,(⟨s1.2.2.2.2.2.2.1,s1.2.2.2.2.2.2.2.1⟩:g_api_Sig)⟩:Bn) (⟨s1.2.2.2.2.2.2.2.2.1,s1.2.2.2.2.2.2.2.2.2.1,s1.2.2.2.2.2.2.2.2.2.2.1⟩:Cc) s1.2.2.2.2.2.2.2.2.2.2.2) fun x6=>if x6.1=true then Ad (app 8 s1.1 ([(i1:Int)]:List Int)) fun x7=>some (x7,x6.2.1.Log,x6.2.1.Size,x6.2.1.Root.1,x6.2.1.Root.2,x6.2.1.At,x6.2.1.Sig.E,x6.2.1.Sig.S,x6.2.2.1.Log,x6.2.2.1.Key,x6.2.2.1.Delay,x6.2.2.2)else some (s1.1,x6.2.1.Log,x6.2.1.Size,x6.2.1.Root.1,x6.2.1.Root.2,x6.2.1.At,x6.2.1.Sig.E,x6.2.1.Sig.S,x6.2.2.1.Log,x6.2.2.1.Key,x6.2.2.1.Delay,x6.2.2.2)) fun x4=>some (x4.1,x4.2.1,x4.2.2.1,x4.2.2.2.1,x4.2.2.2.2.1,x4.2.2.2.2.2.1,x4.2.2.2.2.2.2.1,x4.2.2.2.2.2.2.2.1,x4.2.2.2.2.2.2.2.2.1,x4.2.2.2.2.2.2.2.2.2.1,x4.2.2.2.2.2.2.2.2.2.2.1,x4.2.2.2.2.2.2.2.2.2.2.2)
def CA (a0:List g_api_Promise)(k0:Bn)(k1:Cc)(k2:List ((UInt64×UInt64)×Bool)):Option ((List Int)×Bn×Cc×(List ((UInt64×UInt64)×Bool))):=Ad (Ad (BE (Cj a0) a0.length 0 (([]:List Int),k0.Log,k0.Size,k0.Root.1,k0.Root.2,k0.At,k0.Sig.E,k0.Sig.S,k1.Log,k1.Key,k1.Delay,k2)) fun x2=>some (x2.1,x2.2.1,x2.2.2.1,x2.2.2.2.1,x2.2.2.2.2.1,x2.2.2.2.2.2.1,x2.2.2.2.2.2.2.1,x2.2.2.2.2.2.2.2.1,x2.2.2.2.2.2.2.2.2.1,x2.2.2.2.2.2.2.2.2.2.1,x2.2.2.2.2.2.2.2.2.2.2.1,x2.2.2.2.2.2.2.2.2.2.2.2)) fun x1=>some (x1.1,(⟨x1.2.1,x1.2.2.1,(x1.2.2.2.1,x1.2.2.2.2.1),x1.2.2.2.2.2.1,(⟨x1.2.2.2.2.2.2.1,x1.2.2.2.2.2.2.2.1⟩:g_api_Sig)⟩:Bn),(⟨x1.2.2.2.2.2.2.2.2.1,x1.2.2.2.2.2.2.2.2.2.1,x1.2.2.2.2.2.2.2.2.2.2.1⟩:Cc),x1.2.2.2.2.2.2.2.2.2.2.2)
theorem GS {a0:List g_api_Promise}{k0:Bn}{k1:Cc}{k2:List ((UInt64×UInt64)×Bool)}{r:(List Int)×Bn×Cc×(List ((UInt64×UInt64)×Bool))}(hm:CA a0 k0 k1 k2=some r):Sp prog 49 [sl Ai a0,.fn (.func 50) [] [.pb 0 0,.pb 1 0,.pb 2 0]] [.box 0 [.d (.i k0.Log),.d (.i k0.Size),.d (.u k0.Root.1),.d (.u k0.Root.2),.d (.i k0.At),.d (.u k0.Sig.E),.d (.u k0.Sig.S)] 42,.box 1 [.d (.i k1.Log),.d (.u k1.Key),.d (.i k1.Delay)] 45,.box 2 [.ow 3] 96,.hp 3 (.mg _ _ AR D.t k2)] 4 (is (.ow 4) [.box 0 [.d (.i r.2.1.Log),.d (.i r.2.1.Size),.d (.u r.2.1.Root.1),.d (.u r.2.1.Root.2),.d (.i r.2.1.At),.d (.u r.2.1.Sig.E),.d (.u r.2.1.Sig.S)] 42,.box 1 [.d (.i r.2.2.1.Log),.d (.u r.2.2.1.Key),.d (.i r.2.2.1.Delay)] 45,.box 2 [.ow 3] 96,.hp 3 (.mg _ _ AR D.t r.2.2.2),.row 4 1 _ eI r.1] 5):=
 sp call49 func49 rfl ntmps49 rfl fun D0 As η0 m0 hd=>by
  unfold CA at hm;obtain⟨x1,q1,hm⟩:=Aa hm;obtain⟨x2,q2,q1⟩:=Aa q1;refine QD 0 eI 5 1 (by kernel_rfl) ?_;refine MZ 0 (E:=Ai) (xs:=a0) 8 (by kernel_rfl) fun hle1=> ?_;refine gjU 0 (fun(_:Unit)=>let (y_0,y_1,y_2,y_3,y_4,y_5,y_6,y_7,y_8,y_9,y_10,y_11):=x1; ⟨[(5,.ow 4)],[(0,.row 4 1 _ eI y_0),(1,.box 0 [.d (.i y_1),.d (.i y_2),.d (.u y_3),.d (.u y_4),.d (.i y_5),.d (.u y_6),.d (.u y_7)] 42),(2,.box 1 [.d (.i y_8),.d (.u y_9),.d (.i y_10)] 45),(3,.box 2 [.ow 3] 96),(4,.hp 3 (.mg _ _ AR D.t y_11))],[],5⟩) (fun _=>True) (by kernel_rfl) (fun Jp bk1=> ?_) fun _ _=> ?_
  ·refine gjU 0 (fun(_:Unit)=>let (y_0,y_1,y_2,y_3,y_4,y_5,y_6,y_7,y_8,y_9,y_10,y_11):=x2; ⟨[(5,.ow 4)],[(0,.row 4 1 _ eI y_0),(1,.box 0 [.d (.i y_1),.d (.i y_2),.d (.u y_3),.d (.u y_4),.d (.i y_5),.d (.u y_6),.d (.u y_7)] 42),(2,.box 1 [.d (.i y_8),.d (.u y_9),.d (.i y_10)] 45),(3,.box 2 [.ow 3] 96),(4,.hp 3 (.mg _ _ AR D.t y_11))],[],5⟩) (fun _=>True) (by kernel_rfl) (fun Jp bk2=> ?_) fun _ _=> ?_
   ·refine gl hd (fun(p:Int×((List Int)×Int×Int×UInt64×UInt64×Int×UInt64×UInt64×Int×UInt64×Int×(List ((UInt64×UInt64)×Bool))))=>let (p0,p_0,p_1,p_2,p_3,p_4,p_5,p_6,p_7,p_8,p_9,p_10,p_11):=p; ⟨[(1,.fn (.func 50) [] [.pb 0 0,.pb 1 0,.pb 2 0]),(5,.ow 4),(8,sl Ai a0),(9,.d (.i (a0.length:Int))),(10,.d (.i p0))],[(0,.row 4 1 _ eI p_0),(1,.box 0 [.d (.i p_1),.d (.i p_2),.d (.u p_3),.d (.u p_4),.d (.i p_5),.d (.u p_6),.d (.u p_7)] 42),(2,.box 1 [.d (.i p_8),.d (.u p_9),.d (.i p_10)] 45),(3,.box 2 [.ow 3] 96),(4,.hp 3 (.mg _ _ AR D.t p_11))],[],5⟩) (fun p=> ∃i:Nat,p.1=(i:Int)∧i≤a0.length∧BE (Cj a0) (a0.length-i) (i:Int) p.2=some x2) (fun p=>a0.length-p.1.toNat) (0,(([]:List Int),k0.Log,k0.Size,k0.Root.1,k0.Root.2,k0.At,k0.Sig.E,k0.Sig.S,k1.Log,k1.Key,k1.Delay,k2)) ⟨0,rfl,Nat.zero_le _,q2⟩ (by kernel_rfl) ?_;rintro⟨_,s1⟩ ⟨i1,rfl,hi,q3⟩ Jl bl1;refine gi' (b:=decide ((i1:Int)<(a0.length:Int))) (by kernel_rfl) (fun hc2=> ?_) fun hc2=> ?_
    ·have hlt1:i1<a0.length:=by have:=of_decide_eq_true hc2; omega
     obtain⟨y1,q5,q4⟩:=DF q3 hlt1;unfold Cj at q5;obtain⟨x4,q7,q5⟩:=Aa q5;refine gjU 1 (fun(_:Unit)=>let (y_0,y_1,y_2,y_3,y_4,y_5,y_6,y_7,y_8,y_9,y_10,y_11):=x4; ⟨[(1,.fn (.func 50) [] [.pb 0 0,.pb 1 0,.pb 2 0]),(5,.ow 4),(8,sl Ai a0),(9,.d (.i (a0.length:Int))),(10,.d (.i (i1:Int)))],[(0,.row 4 1 _ eI y_0),(1,.box 0 [.d (.i y_1),.d (.i y_2),.d (.u y_3),.d (.u y_4),.d (.i y_5),.d (.u y_6),.d (.u y_7)] 42),(2,.box 1 [.d (.i y_8),.d (.u y_9),.d (.i y_10)] 45),(3,.box 2 [.ow 3] 96),(4,.hp 3 (.mg _ _ AR D.t y_11))],[],5⟩) (fun _=>True) (by kernel_rfl) (fun Jp bk3=> ?_) fun _ _=> ?_
     ·skip;obtain⟨x5,q8,q7⟩:=Aa q7;refine FA (k:=6) (E:=Ai) (fun _=>rfl) (fun _=>q8) (by kernel_rfl) ?_;obtain⟨x6,q9,q7⟩:=Aa q7;refine gco (KM q9) (by kernel_rfl) ?_;refine gi q7 (by kernel_rfl) (fun hc1 q7=> ?_) fun hc1 q7=> ?_
      ·refine CM (k:=1) eI ([(i1:Int)]:List Int) (fun _=>rfl) (by kernel_rfl) ?_;obtain⟨x7,q10,q7⟩:=Aa q7;refine Q2 (k:=1) (E:=eI) (fun _=>rfl) q10 (by kernel_rfl) ?_;have e0:=Option.some.inj q7;subst e0;exact gb bk3 hd () trivial (by kernel_rfl)
      have e0:=Option.some.inj q7;subst e0;exact gb bk3 hd () trivial (by kernel_rfl)
     have e0:=Option.some.inj q5;subst e0;exact gb bl1 hd (w64 ((i1:Int)+1),(x4.1,x4.2.1,x4.2.2.1,x4.2.2.2.1,x4.2.2.2.2.1,x4.2.2.2.2.2.1,x4.2.2.2.2.2.2.1,x4.2.2.2.2.2.2.2.1,x4.2.2.2.2.2.2.2.2.1,x4.2.2.2.2.2.2.2.2.2.1,x4.2.2.2.2.2.2.2.2.2.2.1,x4.2.2.2.2.2.2.2.2.2.2.2)) ⟨⟨i1+1,A4 hlt1 hle1,by omega,q4⟩,G5 hlt1 hle1⟩ (by kernel_rfl)
    have hlt1: ¬i1<a0.length:=by have:=of_decide_eq_false hc2; omega
    have e:=Eq.symm (CX q3 hlt1);subst e;exact gb bk2 hd () trivial (by kernel_rfl)
   have e0:=Option.some.inj q1;subst e0;exact gb bk1 hd () trivial (by kernel_rfl)
  have e0:=Option.some.inj hm;subst e0;exact AL hd (by kernel_rfl)
def Fy (i1:Int)(x3:UInt64×UInt64)(s1:(List ((UInt64×UInt64)×Bool))):Option ((List ((UInt64×UInt64)×Bool))):=some (upG (JK x3) (x3,true) s1)
def Aw (a0:List g_api_Promise)(a1:Bn)(a2:List (UInt64×UInt64))(a3:Cc):Option (List Int):=Ad (Ad (CC Fy a2 0 ([]:List ((UInt64×UInt64)×Bool))) fun x2=>some x2) fun x1=>Ad (CA a0 a1 a3 x1) fun x4=>some x4.1
theorem Az {a0:List g_api_Promise}{a1:Bn}{a2:List (UInt64×UInt64)}{a3:Cc}{r:List Int}(hm:Aw a0 a1 a2 a3=some r):Sp prog 21 [sl Ai a0,ag (Mk a1),sl AR a2,ag (Sh a3)] [] 0 (is (.ow 0) [.row 0 1 _ eI r] 1):=
 sp call21 func21 rfl ntmps21 rfl fun D0 As η0 m0 hd=>by
  unfold Aw at hm;refine gmkg (UInt64×UInt64) Bool AR D.t (by kernel_rfl) ?_;obtain⟨x1,q1,hm⟩:=Aa hm;obtain⟨x2,q2,q1⟩:=Aa q1;refine MZ 0 (E:=AR) (xs:=a2) 13 (by kernel_rfl) fun hle1=> ?_;refine gjU 0 (fun(_:Unit)=>⟨[(0,sl Ai a0),(5,.pb 0 0),(7,.pb 1 0),(9,.pb 3 0),(12,.ow 2)],[(0,.box 3 [.ow 2] 96),(1,.hp 2 (.mg _ _ AR D.t x1)),(2,.box 1 [.d (.i a3.Log),.d (.u a3.Key),.d (.i a3.Delay)] 45),(3,.box 0 [.d (.i a1.Log),.d (.i a1.Size),.d (.u a1.Root.1),.d (.u a1.Root.2),.d (.i a1.At),.d (.u a1.Sig.E),.d (.u a1.Sig.S)] 42)],[],4⟩) (fun _=>True) (by kernel_rfl) (fun Jp bk1=> ?_) fun _ _=> ?_
  ·refine gjU 0 (fun(_:Unit)=>⟨[(0,sl Ai a0),(5,.pb 0 0),(7,.pb 1 0),(9,.pb 3 0),(12,.ow 2)],[(0,.box 3 [.ow 2] 96),(1,.hp 2 (.mg _ _ AR D.t x2)),(2,.box 1 [.d (.i a3.Log),.d (.u a3.Key),.d (.i a3.Delay)] 45),(3,.box 0 [.d (.i a1.Log),.d (.i a1.Size),.d (.u a1.Root.1),.d (.u a1.Root.2),.d (.i a1.At),.d (.u a1.Sig.E),.d (.u a1.Sig.S)] 42)],[],4⟩) (fun _=>True) (by kernel_rfl) (fun Jp bk2=> ?_) fun _ _=> ?_
   ·refine gl hd (fun(p:Int×((List ((UInt64×UInt64)×Bool))))=>let (p0,p_0):=p; ⟨[(0,sl Ai a0),(5,.pb 0 0),(7,.pb 1 0),(9,.pb 3 0),(13,sl AR a2),(14,.d (.i (a2.length:Int))),(15,.d (.i p0)),(12,.ow 2)],[(0,.box 3 [.ow 2] 96),(1,.hp 2 (.mg _ _ AR D.t p_0)),(2,.box 1 [.d (.i a3.Log),.d (.u a3.Key),.d (.i a3.Delay)] 45),(3,.box 0 [.d (.i a1.Log),.d (.i a1.Size),.d (.u a1.Root.1),.d (.u a1.Root.2),.d (.i a1.At),.d (.u a1.Sig.E),.d (.u a1.Sig.S)] 42)],[],4⟩) (fun p=> ∃i:Nat,p.1=(i:Int)∧i≤a2.length∧CC Fy (a2.drop i) (i:Int) p.2=some x2) (fun p=>a2.length-p.1.toNat) (0,([]:List ((UInt64×UInt64)×Bool))) ⟨0,rfl,Nat.zero_le _,q2⟩ (by kernel_rfl) ?_;rintro⟨_,s1⟩ ⟨i1,rfl,hi,q3⟩ Jl bl1;refine gi' (b:=decide ((i1:Int)<(a2.length:Int))) (by kernel_rfl) (fun hc1=> ?_) fun hc1=> ?_
    ·have hlt1:i1<a2.length:=by have:=of_decide_eq_true hc1; omega
     obtain⟨x3,y1,q6,q5,q4⟩:=EU q3 hlt1;unfold Fy at q5;refine FA (k:=2) (E:=AR) (fun _=>rfl) (fun _=>q6) (by kernel_rfl) ?_;refine gupg (K:=AR) (c:=D.t) s1 x3 true (JK x3) 38 Acw (by kernel_rfl) (by kernel_rfl) (by kernel_rfl) (by kernel_rfl) (by kernel_rfl) ?_;have e0:=Option.some.inj q5;subst e0;exact gb bl1 hd (w64 ((i1:Int)+1),(upG (JK x3) (x3,true) s1)) ⟨⟨i1+1,A4 hlt1 hle1,by omega,q4⟩,G5 hlt1 hle1⟩ (by kernel_rfl)
    have hlt1: ¬i1<a2.length:=by have:=of_decide_eq_false hc1; omega
    have e:=Eq.symm (DG q3 hlt1);subst e;exact gb bk2 hd () trivial (by kernel_rfl)
   have e0:=Option.some.inj q1;subst e0;exact gb bk1 hd () trivial (by kernel_rfl)
  obtain⟨x4,q7,hm⟩:=Aa hm;refine gco (GS q7) (by kernel_rfl) ?_;have e0:=Option.some.inj hm;subst e0;exact AL hd (by kernel_rfl)
def EF (a0:g_api_Cert):Option ((List UInt8)×Int):=Ad (D7 a0) fun x1=>if(x1 !=0)=true then some (([]:List UInt8),x1)else Ad (HX a0) fun x2=>Ad (Im x2) fun x3=>some (x3.1,x3.2)
theorem MW {a0:g_api_Cert}{r:(List UInt8)×Int}(hm:EF a0=some r):Sp prog 65 [ag (Ao a0),.fn (.func 66) [] []] [] 0 (is (.tup [.ow 0,.d (.i r.2)]) [.row 0 1 _ eB r.1] 1):=
 sp call65 func65 rfl ntmps65 rfl fun D0 As η0 m0 hd=>by
  unfold EF at hm;obtain⟨x1,q1,hm⟩:=Aa hm;refine gc (fun _=>My q1) (by kernel_rfl) ?_;refine gi hm (by kernel_rfl) (fun hc1 hm=> ?_) fun hc1 hm=> ?_
  ·skip;refine Abi eB 4 1 (by kernel_rfl) ?_;have e0:=Option.some.inj hm;subst e0;exact AL hd (by kernel_rfl)
  obtain⟨x2,q2,hm⟩:=Aa hm;refine gc (fun _=>OO q2) (by kernel_rfl) ?_;obtain⟨x3,q3,hm⟩:=Aa hm;refine gco (Ri q3) (by kernel_rfl) ?_;have e0:=Option.some.inj hm;subst e0;exact AL hd (by kernel_rfl)
def EJ (a0:g_api_Cert):Option ((List UInt8)×Int):=Ad (EF a0) fun x1=>some (x1.1,x1.2)
theorem Vh {a0:g_api_Cert}{r:(List UInt8)×Int}(hm:EJ a0=some r):Sp prog 35 [ag (Ao a0)] [] 0 (is (.tup [.ow 0,.d (.i r.2)]) [.row 0 1 _ eB r.1] 1):=
 sp call35 func35 rfl ntmps35 rfl fun D0 As η0 m0 hd=>by
  unfold EJ at hm;obtain⟨x1,q1,hm⟩:=Aa hm;refine gco (MW q1) (by kernel_rfl) ?_;have e0:=Option.some.inj hm;subst e0;exact AL hd (by kernel_rfl)
def D8 (a0:UInt64):Option Int:=Ad (if(decide ((a0.toNat:Int)≥4294967296))=true then some ((Ec a0 32),32)else some (a0,0)) fun x1=>Ad (if(decide ((x1.1.toNat:Int)≥65536))=true then some ((Ec x1.1 16),(w64 (x1.2+16)))else some (x1.1,x1.2)) fun x2=>Ad (if(decide ((x2.1.toNat:Int)≥256))=true then some ((Ec x2.1 8),(w64 (x2.2+8)))else some (x2.1,x2.2)) fun x3=>Ad (idx str_0.data.toList ((toB (x3.1.toNat:Int)).toNat:Int)) fun x4=>bnd ((w64 (x3.2+(w64 (x4.toNat:Int))))) fun x5=>some x5
theorem J6 {a0:UInt64}{r:Int}(hm:D8 a0=some r):Sf prog 175 [.d (.u a0)] (.d (.i r)):=
 sp call175 func175 rfl ntmps175 rfl fun D0 As η0 m0 hd=>by
  unfold D8 at hm;obtain⟨x1,q1,hm⟩:=Aa hm;refine gj (fun(_:Unit)=>let (y_0,y_1):=x1; ⟨[(0,.d (.u y_0)),(2,.d (.i y_1))],[],[],0⟩) (fun _=>True) (by kernel_rfl) (fun Jp bk1=> ?_) fun _ _=> ?_
  ·refine gi q1 (by kernel_rfl) (fun hc1 q1=> ?_) fun hc1 q1=> ?_
   ·skip;have e0:=Option.some.inj q1;subst e0;exact gb bk1 hd () trivial (by kernel_rfl)
   have e0:=Option.some.inj q1;subst e0;exact gb bk1 hd () trivial (by kernel_rfl)
  obtain⟨x2,q2,hm⟩:=Aa hm;refine gj (fun(_:Unit)=>let (y_0,y_1):=x2; ⟨[(0,.d (.u y_0)),(2,.d (.i y_1))],[],[],0⟩) (fun _=>True) (by kernel_rfl) (fun Jp bk2=> ?_) fun _ _=> ?_
  ·refine gi q2 (by kernel_rfl) (fun hc2 q2=> ?_) fun hc2 q2=> ?_
   ·skip;have e0:=Option.some.inj q2;subst e0;exact gb bk2 hd () trivial (by kernel_rfl)
   have e0:=Option.some.inj q2;subst e0;exact gb bk2 hd () trivial (by kernel_rfl)
  obtain⟨x3,q3,hm⟩:=Aa hm;refine gj (fun(_:Unit)=>let (y_0,y_1):=x3; ⟨[(0,.d (.u y_0)),(2,.d (.i y_1))],[],[],0⟩) (fun _=>True) (by kernel_rfl) (fun Jp bk3=> ?_) fun _ _=> ?_
  ·refine gi q3 (by kernel_rfl) (fun hc3 q3=> ?_) fun hc3 q3=> ?_
   ·skip;have e0:=Option.some.inj q3;subst e0;exact gb bk3 hd () trivial (by kernel_rfl)
   have e0:=Option.some.inj q3;subst e0;exact gb bk3 hd () trivial (by kernel_rfl)
  obtain⟨x4,q4,hm⟩:=Aa hm;refine AcQ (fun _=>q4) (by kernel_rfl) ?_;have hm:=Ba hm;let x5:Int:=((w64 (x3.2+(w64 (x4.toNat:Int)))));have e0:=Option.some.inj hm;subst e0;exact AL hd (by kernel_rfl)
theorem Rt {m:Mem}{As:List Ow}{w:World}{a0:UInt64}{r:Int}(S:St m As w)(hm:D8 a0=some r):
  AG prog 175 #[vU a0] w fun v w'=> ∃(M:Mem),m≤M∧St M (As) w'∧v=vI r:=by
 refine AG.mono ((J6 hm).2 none0 m As w [vU a0] (.cons (.d (.u _)) .nil) (fun n h=>absurd rfl h) S) ?_;rintro v w' ⟨M,η',r',obs',n1,hle,_,⟨rfl,rfl,rfl⟩,hdom,hR,S'⟩;obtain rfl:=hR.i_inv;exact⟨M,hle,S',rfl⟩
def CR (a0:UInt64):Option Int:=Ad (D8 a0) fun x1=>some (w64 (64-x1))
theorem J7 {a0:UInt64}{r:Int}(hm:CR a0=some r):Sf prog 228 [.d (.u a0)] (.d (.i r)):=
 sp call228 func228 rfl ntmps228 rfl fun D0 As η0 m0 hd=>by
  unfold CR at hm;obtain⟨x1,q1,hm⟩:=Aa hm;refine gc (fun _=>J6 q1) (by kernel_rfl) ?_;have e0:=Option.some.inj hm;subst e0;exact AL hd (by kernel_rfl)
def Dp (x4:UInt64)(x5:UInt64)(x7:UInt64)(s1:UInt64×UInt64):Option ((UInt64×UInt64)⊕(UInt64)):=if((decide ((s1.1.toNat:Int)≥4294967296))||(decide (((s1.1*x5).toNat:Int)>(((4294967296*s1.2)+x7).toNat:Int))))=true then if(decide (((s1.2+x4).toNat:Int)≥4294967296))=true then some (.inr (s1.1-1))else some (.inl ((s1.1-1),(s1.2+x4)))else some (.inr s1.1)
def Dn (x4:UInt64)(x5:UInt64)(x8:UInt64)(s2:UInt64×UInt64):Option ((UInt64×UInt64)⊕(UInt64)):=if((decide ((s2.2.toNat:Int)≥4294967296))||(decide (((s2.2*x5).toNat:Int)>(((4294967296*s2.1)+x8).toNat:Int))))=true then if(decide (((s2.1+x4).toNat:Int)≥4294967296))=true then some (.inr (s2.2-1))else some (.inl ((s2.1+x4),(s2.2-1)))else some (.inr s2.2)
def F9 (a0:UInt64)(a1:UInt64)(a2:UInt64):Option (UInt64×UInt64):=Ad (if((a2.toNat:Int)==0)=true then none else some ()) fun x1=>Ad (if(decide ((a2.toNat:Int)≤(a0.toNat:Int)))=true then none else some ()) fun x2=>if((a0.toNat:Int)==0)=true then if a2≠0 then if a2≠0 then some ((a1/a2),(a1%a2))else none else none else Ad (CR a2) fun x3=>bnd ((Ec (HC a2 ((toU x3).toNat)) 32)) fun x4=>bnd (((HC a2 ((toU x3).toNat))&&&4294967295)) fun x5=>bnd (((HC a0 ((toU x3).toNat))|||(Ec a1 ((64-(toU x3)).toNat)))) fun x6=>bnd ((Ec (HC a1 ((toU x3).toNat)) 32)) fun x7=>bnd (((HC a1 ((toU x3).toNat))&&&4294967295)) fun x8=>if x4≠0 then Ad (Ad (iter (Dp x4 x5 x7) C3 ((x6/x4),(x6-((x6/x4)*x4)))) fun x10=>some x10) fun x9=>bnd ((((x6*4294967296)+x7)-(x9*(HC a2 ((toU x3).toNat))))) fun x12=>if x4≠0 then Ad (Ad (iter (Dn x4 x5 x8) C3 ((x12-((x12/x4)*x4)),(x12/x4))) fun x14=>some x14) fun x13=>bnd ((Ec (((x12*4294967296)+x8)-(x13*(HC a2 ((toU x3).toNat)))) ((toU x3).toNat))) fun x16=>some (((x9*4294967296)+x13),x16)else none else none
theorem MA {a0:UInt64}{a1:UInt64}{a2:UInt64}{r:UInt64×UInt64}(hm:F9 a0 a1 a2=some r):Sf prog 181 [.d (.u a0),.d (.u a1),.d (.u a2)] (.tup [.d (.u r.1),.d (.u r.2)]):=
 sp call181 func181 rfl ntmps181 rfl fun D0 As η0 m0 hd=>by
  unfold F9 at hm;obtain⟨x1,q1,hm⟩:=Aa hm;refine gj (fun(_:Unit)=>⟨[(0,.d (.u a0)),(1,.d (.u a1)),(2,.d (.u a2))],[],[],0⟩) (fun _=>True) (by kernel_rfl) (fun Jp bk1=> ?_) fun _ _=> ?_
  ·refine gi q1 (by kernel_rfl) (fun hc1 q1=> ?_) fun hc1 q1=> ?_
   ·cases q1
   have e0:=Option.some.inj q1;subst e0;exact gb bk1 hd () trivial (by kernel_rfl)
  obtain⟨x2,q2,hm⟩:=Aa hm;refine gj (fun(_:Unit)=>⟨[(0,.d (.u a0)),(1,.d (.u a1)),(2,.d (.u a2))],[],[],0⟩) (fun _=>True) (by kernel_rfl) (fun Jp bk2=> ?_) fun _ _=> ?_
  ·refine gi q2 (by kernel_rfl) (fun hc2 q2=> ?_) fun hc2 q2=> ?_
   ·cases q2
   have e0:=Option.some.inj q2;subst e0;exact gb bk2 hd () trivial (by kernel_rfl)
  refine gi hm (by kernel_rfl) (fun hc3 hm=> ?_) fun hc3 hm=> ?_
  ·skip;obtain⟨q3,hm⟩:=CB hm;refine Abe (d:= .u a2) (r:= .u (a1/a2)) (fun h=>q3) (by kernel_rfl) ?_;obtain⟨q4,hm⟩:=CB hm;refine Abe (d:= .u a2) (r:= .u (a1%a2)) (fun h=>q4) (by kernel_rfl) ?_;have e0:=Option.some.inj hm;subst e0;exact AL hd (by kernel_rfl)
  obtain⟨x3,q5,hm⟩:=Aa hm;refine gc (fun _=>J7 q5) (by kernel_rfl) ?_;have hm:=Ba hm;let x4:UInt64:=((Ec (HC a2 ((toU x3).toNat)) 32));have hm:=Ba hm;let x5:UInt64:=(((HC a2 ((toU x3).toNat))&&&4294967295));have hm:=Ba hm;let x6:UInt64:=(((HC a0 ((toU x3).toNat))|||(Ec a1 ((64-(toU x3)).toNat))));have hm:=Ba hm;let x7:UInt64:=((Ec (HC a1 ((toU x3).toNat)) 32));have hm:=Ba hm;let x8:UInt64:=(((HC a1 ((toU x3).toNat))&&&4294967295));obtain⟨q11,hm⟩:=CB hm;refine Abe (d:= .u x4) (r:= .u (x6/x4)) (fun h=>q11) (by kernel_rfl) ?_;obtain⟨x9,q12,hm⟩:=Aa hm;obtain⟨x10,q13,q12⟩:=Aa q12;refine gjU 0 (fun(_:Unit)=>⟨[(2,.d (.u (HC a2 ((toU x3).toNat)))),(8,.d (.u (toU x3))),(9,.d (.u x4)),(10,.d (.u x5)),(11,.d (.u x6)),(13,.d (.u x7)),(14,.d (.u x8)),(15,.d (.u x9))],[],[],0⟩) (fun _=>True) (by kernel_rfl) (fun Jp bk3=> ?_) fun _ _=> ?_
  ·refine gjU 0 (fun(_:Unit)=>⟨[(2,.d (.u (HC a2 ((toU x3).toNat)))),(8,.d (.u (toU x3))),(9,.d (.u x4)),(10,.d (.u x5)),(11,.d (.u x6)),(13,.d (.u x7)),(14,.d (.u x8)),(15,.d (.u x10))],[],[],0⟩) (fun _=>True) (by kernel_rfl) (fun Jp bk4=> ?_) fun _ _=> ?_
   ·refine gl hd (fun(p:Nat×(UInt64×UInt64))=>let (p0,p_0,p_1):=p; ⟨[(2,.d (.u (HC a2 ((toU x3).toNat)))),(8,.d (.u (toU x3))),(9,.d (.u x4)),(10,.d (.u x5)),(11,.d (.u x6)),(13,.d (.u x7)),(14,.d (.u x8)),(15,.d (.u p_0)),(16,.d (.u p_1))],[],[],0⟩) (fun p=>iter (Dp x4 x5 x7) p.1 p.2=some x10) (fun p=>p.1) (C3,((x6/x4),(x6-((x6/x4)*x4)))) q13 (by kernel_rfl) ?_;rintro⟨n1,s1⟩ q14 Jl bl1;cases n1 with
    |zero=>exact(Bq q14).elim
    |succ n1=>
     obtain⟨y1,q16,q15⟩:=Bi q14;unfold Dp at q16;refine gi q16 (by kernel_rfl) (fun hc4 q16=> ?_) fun hc4 q16=> ?_
     ·skip;refine gi q16 (by kernel_rfl) (fun hc5 q16=> ?_) fun hc5 q16=> ?_
      ·skip;have e0:=Option.some.inj q16;subst e0;rcases q15 with ⟨sn,e,_⟩|e
       ·cases Fv e
       have e:=Sum.inr.inj e;subst e;exact gb bk4 hd () trivial (by kernel_rfl)
      have e0:=Option.some.inj q16;subst e0;rcases q15 with ⟨sn,e,q15'⟩|e
      ·have e:=Sum.inl.inj e;subst e;exact gb bl1 hd (n1,_) ⟨q15',Nat.lt_succ_self _⟩ (by kernel_rfl)
      cases CN e
     have e0:=Option.some.inj q16;subst e0;rcases q15 with ⟨sn,e,_⟩|e
     ·cases Fv e
     have e:=Sum.inr.inj e;subst e;exact gb bk4 hd () trivial (by kernel_rfl)
   have e0:=Option.some.inj q12;subst e0;exact gb bk3 hd () trivial (by kernel_rfl)
  have hm:=Ba hm;let x12:UInt64:=((((x6*4294967296)+x7)-(x9*(HC a2 ((toU x3).toNat)))));obtain⟨q19,hm⟩:=CB hm;refine Abe (d:= .u x4) (r:= .u (x12/x4)) (fun h=>q19) (by kernel_rfl) ?_;obtain⟨x13,q20,hm⟩:=Aa hm;obtain⟨x14,q21,q20⟩:=Aa q20;refine gjU 2 (fun(_:Unit)=>⟨[(2,.d (.u (HC a2 ((toU x3).toNat)))),(8,.d (.u (toU x3))),(14,.d (.u x8)),(15,.d (.u x9)),(17,.d (.u x12)),(18,.d (.u x13))],[],[],0⟩) (fun _=>True) (by kernel_rfl) (fun Jp bk5=> ?_) fun _ _=> ?_
  ·refine gjU 2 (fun(_:Unit)=>⟨[(2,.d (.u (HC a2 ((toU x3).toNat)))),(8,.d (.u (toU x3))),(14,.d (.u x8)),(15,.d (.u x9)),(17,.d (.u x12)),(18,.d (.u x14))],[],[],0⟩) (fun _=>True) (by kernel_rfl) (fun Jp bk6=> ?_) fun _ _=> ?_
   ·refine gl hd (fun(p:Nat×(UInt64×UInt64))=>let (p0,p_0,p_1):=p; ⟨[(2,.d (.u (HC a2 ((toU x3).toNat)))),(8,.d (.u (toU x3))),(9,.d (.u x4)),(10,.d (.u x5)),(14,.d (.u x8)),(15,.d (.u x9)),(16,.d (.u p_0)),(17,.d (.u x12)),(18,.d (.u p_1))],[],[],0⟩) (fun p=>iter (Dn x4 x5 x8) p.1 p.2=some x14) (fun p=>p.1) (C3,((x12-((x12/x4)*x4)),(x12/x4))) q21 (by kernel_rfl) ?_;rintro⟨n2,s2⟩ q22 Jl bl2;cases n2 with
    |zero=>exact(Bq q22).elim
    |succ n2=>
     obtain⟨y2,q24,q23⟩:=Bi q22;unfold Dn at q24;refine gi q24 (by kernel_rfl) (fun hc6 q24=> ?_) fun hc6 q24=> ?_
     ·skip;refine gi q24 (by kernel_rfl) (fun hc7 q24=> ?_) fun hc7 q24=> ?_
      ·skip;have e0:=Option.some.inj q24;subst e0;rcases q23 with ⟨sn,e,_⟩|e
       ·cases Fv e
       have e:=Sum.inr.inj e;subst e;exact gb bk6 hd () trivial (by kernel_rfl)
      have e0:=Option.some.inj q24;subst e0;rcases q23 with ⟨sn,e,q23'⟩|e
      ·have e:=Sum.inl.inj e;subst e;exact gb bl2 hd (n2,_) ⟨q23',Nat.lt_succ_self _⟩ (by kernel_rfl)
      cases CN e
     have e0:=Option.some.inj q24;subst e0;rcases q23 with ⟨sn,e,_⟩|e
     ·cases Fv e
     have e:=Sum.inr.inj e;subst e;exact gb bk6 hd () trivial (by kernel_rfl)
   have e0:=Option.some.inj q20;subst e0;exact gb bk5 hd () trivial (by kernel_rfl)
  have hm:=Ba hm;let x16:UInt64:=((Ec (((x12*4294967296)+x8)-(x13*(HC a2 ((toU x3).toNat)))) ((toU x3).toNat)));have e0:=Option.some.inj hm;subst e0;exact AL hd (by kernel_rfl)
def HW (a0:UInt64×UInt64)(a1:UInt64):Option UInt64:=if((a1.toNat:Int)==0)=true then some 0 else Ad (E8 a0.1 2305843009213693952) fun x1=>if a1≠0 then Ad (F9 ((x1.1+(HD x1.2 a0.2))%a1) (x1.2+a0.2) a1) fun x2=>some x2.2 else none
theorem OL {a0:UInt64×UInt64}{a1:UInt64}{r:UInt64}(hm:HW a0 a1=some r):Sf prog 141 [ag (AR a0),.d (.u a1)] (.d (.u r)):=
 sp call141 func141 rfl ntmps141 rfl fun D0 As η0 m0 hd=>by
  unfold HW at hm;refine gi hm (by kernel_rfl) (fun hc1 hm=> ?_) fun hc1 hm=> ?_
  ·skip;have e0:=Option.some.inj hm;subst e0;exact AL hd (by kernel_rfl)
  obtain⟨x1,q1,hm⟩:=Aa hm;refine gc (fun _=>J5 q1) (by kernel_rfl) ?_;refine Abj (p:=x1.2) (q:=a0.2) func180 (by kernel_rfl) (by kernel_rfl) (by kernel_rfl) (by kernel_rfl) (by kernel_rfl) ?_;obtain⟨q2,hm⟩:=CB hm;refine Abe (d:= .u a1) (r:= .u ((x1.1+(HD x1.2 a0.2))%a1)) (fun h=>q2) (by kernel_rfl) ?_;obtain⟨x2,q3,hm⟩:=Aa hm;refine gc (fun _=>MA q3) (by kernel_rfl) ?_;have e0:=Option.some.inj hm;subst e0;exact AL hd (by kernel_rfl)
def G6 (a0:ByteArray)(a1:List (List UInt8)):Option UInt64:=Ad (CL a0 a1) fun x1=>Ad (HW x1 1152921504606845788) fun x2=>some (x2+1)
theorem Nq {a0:ByteArray}{a1:List (List UInt8)}{r:UInt64}(hm:G6 a0 a1=some r):Sf prog 93 [.d (.s a0),sl (eL eB) a1] (.d (.u r)):=
 sp call93 func93 rfl ntmps93 rfl fun D0 As η0 m0 hd=>by
  unfold G6 at hm;obtain⟨x1,q1,hm⟩:=Aa hm;refine gc (fun _=>Gg q1) (by kernel_rfl) ?_;obtain⟨x2,q2,hm⟩:=Aa hm;refine gc (fun _=>OL q2) (by kernel_rfl) ?_;have e0:=Option.some.inj hm;subst e0;exact AL hd (by kernel_rfl)
def JC (a0:List UInt8):Option UInt64:=Ad (G6 (⟨#[115,101,99,114,101,116]⟩:ByteArray) ([a0]:List (List UInt8))) fun x1=>some x1
theorem Pn {a0:List UInt8}{r:UInt64}(hm:JC a0=some r):Sf prog 78 [sl eB a0] (.d (.u r)):=
 sp call78 func78 rfl ntmps78 rfl fun D0 As η0 m0 hd=>by
  unfold JC at hm;refine CM (k:=1) (eL eB) ([a0]:List (List UInt8)) (fun _=>rfl) (by kernel_rfl) ?_;obtain⟨x1,q1,hm⟩:=Aa hm;refine gc (fun _=>Nq q1) (by kernel_rfl) ?_;have e0:=Option.some.inj hm;subst e0;exact AL hd (by kernel_rfl)
def Ks (a0:Int)(a1:List UInt8)(a2:Int):Option (Ak×Int):=Ad (JC a1) fun x1=>Ad (DC (⟨a0,x1,a2,[],[],[]⟩:Ak)) fun x2=>if(x2 !=0)=true then some ((⟨0,0,0,[],[],[]⟩:Ak),1)else some ((⟨a0,x1,a2,[],[],[]⟩:Ak),0)
theorem Vb {a0:Int}{a1:List UInt8}{a2:Int}{r:Ak×Int}(hm:Ks a0 a1 a2=some r):Sf prog 51 [.d (.i a0),sl eB a1,.d (.i a2)] (.tup [ag (CS r.1),.d (.i r.2)]):=
 sp call51 func51 rfl ntmps51 rfl fun D0 As η0 m0 hd=>by
  unfold Ks at hm;obtain⟨x1,q1,hm⟩:=Aa hm;refine gc (fun _=>Pn q1) (by kernel_rfl) ?_;obtain⟨x2,q2,hm⟩:=Aa hm;refine gc (fun _=>Hh q2) (by kernel_rfl) ?_;refine gi hm (by kernel_rfl) (fun hc1 hm=> ?_) fun hc1 hm=> ?_
  ·skip;have e0:=Option.some.inj hm;subst e0;exact AL hd (by kernel_rfl)
  have e0:=Option.some.inj hm;subst e0;exact AL hd (by kernel_rfl)
def Kr (a0:UInt64):Option Bool:=bnd ((((a0.toNat:Int)==0)||(decide ((a0.toNat:Int)≥1152921504606845789)))) fun x1=>some x1
theorem Va {a0:UInt64}{r:Bool}(hm:Kr a0=some r):Sf prog 86 [.d (.u a0)] (.d (.t r)):=
 sp call86 func86 rfl ntmps86 rfl fun D0 As η0 m0 hd=>by
  unfold Kr at hm;have hm:=Ba hm;let x1:Bool:=((((a0.toNat:Int)==0)||(decide ((a0.toNat:Int)≥1152921504606845789))));have e0:=Option.some.inj hm;subst e0;exact AL hd (by kernel_rfl)
def E7 (a0:UInt64)(a1:UInt64)(a2:UInt64):Option UInt64:=if a2≠0 then Ad (F9 (a0%a2) a1 a2) fun x1=>some x1.2 else none
theorem Mz {a0:UInt64}{a1:UInt64}{a2:UInt64}{r:UInt64}(hm:E7 a0 a1 a2=some r):Sf prog 182 [.d (.u a0),.d (.u a1),.d (.u a2)] (.d (.u r)):=
 sp call182 func182 rfl ntmps182 rfl fun D0 As η0 m0 hd=>by
  unfold E7 at hm;obtain⟨q1,hm⟩:=CB hm;refine Abe (d:= .u a2) (r:= .u (a0%a2)) (fun h=>q1) (by kernel_rfl) ?_;obtain⟨x1,q2,hm⟩:=Aa hm;refine gc (fun _=>MA q2) (by kernel_rfl) ?_;have e0:=Option.some.inj hm;subst e0;exact AL hd (by kernel_rfl)
theorem Rq {m:Mem}{As:List Ow}{w:World}{a0:UInt64}{a1:UInt64}{a2:UInt64}{r:UInt64}(S:St m As w)(hm:E7 a0 a1 a2=some r):
  AG prog 182 #[vU a0,vU a1,vU a2] w fun v w'=> ∃(M:Mem),m≤M∧St M (As) w'∧v=vU r:=by
 refine AG.mono ((Mz hm).2 none0 m As w [vU a0,vU a1,vU a2] (.cons (.d (.u _)) (.cons (.d (.u _)) (.cons (.d (.u _)) .nil))) (fun n h=>absurd rfl h) S) ?_;rintro v w' ⟨M,η',r',obs',n1,hle,_,⟨rfl,rfl,rfl⟩,hdom,hR,S'⟩;obtain rfl:=hR.u_inv;exact⟨M,hle,S',rfl⟩
def BO (a0:UInt64)(a1:UInt64)(a2:UInt64):Option UInt64:=Ad (E8 a1 a2) fun x1=>Ad (E7 x1.1 x1.2 a0) fun x2=>some x2
theorem I8 {m:Mem}{As:List Ow}{w:World}{a0:UInt64}{a1:UInt64}{a2:UInt64}{r:UInt64}(S:St m (As) w)(hm:BO a0 a1 a2=some r):
  AG Tryz.prog 143 #[vU a0,vU a1,vU a2] w fun v w'=> ∃(M:Mem),m≤M∧St M (As) w'∧v=vU r:=by
 unfold BO at hm;have L0:=Mem.rfl' m;refine CF (args:=[vU a0,vU a1,vU a2]) Tryz.func143 rfl Tryz.ntmps143 (Nat.le_of_ble_eq_true rfl) ?_;refine Ae ?_;refine Ac ?_;refine AQ (v:=vU 0) rfl ?_;refine Af ?_;refine nrm ?_;refine Ae ?_;refine Ac ?_;refine Ar (v:=vU a1) rfl ?_;refine Ar (v:=vU a2) rfl ?_;obtain⟨x1,q1,hm⟩:=Aa hm;refine CO Tryz.call179 (Rr (a0:=a1) (a1:=a2) S q1) rfl ?_;rintro _ w1 ⟨m1,l1,S1,rfl⟩;replace L0:=Mem.tr L0 l1;clear S;replace S1:St _ (As) _:=S1;refine Ar (v:= .tuple #[vU x1.1,vU x1.2]) rfl ?_;refine WR (i:=0) rfl rfl ?_;refine WR (i:=1) rfl rfl ?_;refine AQ (v:=vU x1.1) rfl ?_;refine AQ (v:=vU x1.2) rfl ?_;refine Af ?_;refine nrm ?_;refine Ae ?_;refine Ac ?_;refine Ar (v:=vU x1.1) rfl ?_;refine Ar (v:=vU x1.2) rfl ?_;refine Ar (v:=vU a0) rfl ?_;obtain⟨x2,q2,hm⟩:=Aa hm;refine CO Tryz.call182 (Rq (a0:=x1.1) (a1:=x1.2) (a2:=a0) S1 q2) rfl ?_;rintro _ w2 ⟨m2,l2,S2,rfl⟩;replace L0:=Mem.tr L0 l2;clear S1;replace S2:St _ (As) _:=S2;refine AQ (v:=vU x2) rfl ?_;refine Af ?_;refine nrm ?_;refine Bf ?_;refine Dr ?_;intro we hpd;replace S2:=St.pd S2 hpd;have e0:=Option.some.inj hm;subst e0;exact Hu [_] rfl ⟨rfl,trivial⟩ ⟨_,L0,S2,rfl⟩
theorem LX {a0:UInt64}{a1:UInt64}{a2:UInt64}{r:UInt64}(hm:BO a0 a1 a2=some r):Sf prog 143 [.d (.u a0),.d (.u a1),.d (.u a2)] (.d (.u r)):=
 ⟨call143,fun η m As w vs hv0 hd S=>by
  have S:St m As w:=S;obtain⟨v0,u0,rfl,r0,hv1⟩:=BH.cons_inv hv0;obtain rfl:=r0.u_inv;obtain⟨v1,u1,rfl,r1,hv2⟩:=BH.cons_inv hv1;obtain rfl:=r1.u_inv;obtain⟨v2,u2,rfl,r2,hv3⟩:=BH.cons_inv hv2;obtain rfl:=r2.u_inv;obtain rfl:=BH.nil_inv hv3;refine AG.mono (I8 S hm) ?_;rintro v w' ⟨M,hle,S0,rfl⟩;exact⟨M,none0,_,_,_,hle,SE hd _,⟨rfl,rfl,rfl⟩,fun n h=>absurd rfl h,(.d (.u _)),S0⟩⟩
def B7 {σ:Type}(p0:σ→Bool→Option (Bool×σ))(k0:UInt64)(s1:Int×σ):Option ((Int×σ)⊕((σ)⊕(UInt64×σ))):=if(decide (s1.1≥0))=true then if(0:Int)≤s1.1 then Ad (p0 s1.2 (((k0&&&(HC 1 s1.1.toNat)).toNat:Int) !=0)) fun x4=>if(!x4.1)=true then some (.inr (.inr (k0,x4.2)))else some (.inl ((w64 (s1.1-1)),x4.2))else none else some (.inr (.inl s1.2))
def Fo {σ:Type}(p0:σ→Bool→Option (Bool×σ))(k0:UInt64)(s0:σ):Option (UInt64×σ):=Ad (D8 k0) fun x1=>Ad (iter (B7 p0 k0) C3 ((w64 (x1-1)),s0)) fun x2=>match x2 with| .inr r=>some r| .inl y1=>some (k0,y1)
theorem LS {m:Mem}{As:List Ow}{w:World}{σ:Type}{R:σ→Mem→List Ow→Prop}{p0:σ→Bool→Option (Bool×σ)}{f0:Value}{kb0:Nat}{k0:UInt64}{s0:σ}{X0:List Ow}{r:UInt64×σ}(S:St m ((bx kb0 [vU k0] 22)::(X0++As)) w)(hup: ∀{s M M' X},M≤M'→R s M X→R s M' X)(hX0:R s0 m X0)(cb0: ∀{m':Mem} {As':List Ow} {w':World} {s:σ} {X:List Ow} {b0:Bool} {r:Bool×σ},St m' (X++As') w'→R s m' X→p0 s b0=some r→FB Tryz.prog f0 [vb b0] w' fun v w''=> ∃(M:Mem) (X':List Ow),m'≤M∧St M (X'++As') w''∧R r.2 M X'∧v=vb r.1)(fc0:f0.cells= #[f0])(hm:Fo p0 k0 s0=some r):
  AG Tryz.prog 250 #[f0,pt kb0 0] w fun v w'=> ∃(M:Mem),m≤M∧∃(X:List Ow),St M ((bx kb0 [vU r.1] 22)::(X++As)) w'∧v= .tuple #[]∧R r.2 M X:=by
 unfold Fo at hm;have L0:=Mem.rfl' m;refine CF (args:=[f0,pt kb0 0]) Tryz.func250 rfl Tryz.ntmps250 (Nat.le_of_ble_eq_true rfl) ?_;refine Ae ?_;refine Ac ?_;refine H9 (i:=0) (cs:=[vU k0]) S rfl rfl Tryz.isAgg22 Tryz.sizeOf22 rfl (fun _=>rfl) ?_;obtain⟨x1,q1,hm⟩:=Aa hm;refine CO Tryz.call175 (Rt (a0:=k0) S q1) rfl ?_;rintro _ w1 ⟨m1,l1,S1,rfl⟩;replace hX0:=hup l1 hX0;replace L0:=Mem.tr L0 l1;clear S;replace S1:St _ ((bx kb0 [vU k0] 22)::(X0++As)) _:=S1;refine Jg (m:=x1) (n:=1) rfl rfl ?_;refine AQ (v:=vI (w64 (x1-1))) rfl ?_;refine Af ?_;refine nrm ?_;obtain⟨x2,q2,hm⟩:=Aa hm;have L1:=Mem.rfl' m1;refine K6 ?_;refine AY [3,7,8,9,10,11,12,13,14,15,16,17,18] (fun f' w'=> ∃(M1:Mem) (y1:σ) (X2:List Ow),x2= .inl y1∧m1≤M1∧St M1 ((bx kb0 [vU k0] 22)::(X2++As)) w'∧R y1 M1 X2∧BV f' []) ?_ ?_
 ·refine AD ?_;refine BJ [3,7,8,9,10,11,12,13,14,15,16,17,18] (fun n1 f' w'=> ∃(s1:Int×σ) (m11:Mem) (X1:List Ow),iter (B7 p0 k0) n1 s1=some x2∧m1≤m11∧St m11 ((bx kb0 [vU k0] 22)::(X1++As)) w'∧R s1.2 m11 X1∧BV f' [(3,vI s1.1)]) C3 ⟨((w64 (x1-1)),s0),m1,_,q2,L1,S1,hX0,⟨rfl,trivial⟩⟩ ?_;rintro n1 f1 w2 ho ⟨s1,m2,X1,q3,L3,S2,h1,ha⟩;obtain⟨u1,rfl⟩:=Bj (N:=19) ho ha;clear ho ha;have L2:=Mem.rfl' m2;clear S1;cases n1 with
  |zero=>exact(Bq q3).elim
  |succ n1=>
   obtain⟨y2,q5,q4⟩:=Bi q3;unfold B7 at q5;refine Ae ?_;refine Ae ?_;refine Ac ?_;refine Ar (v:=vI s1.1) rfl ?_;refine AbV (m:=s1.1) (n:=0) rfl rfl ?_;refine Af ?_;refine nrm ?_;refine BQ (t:=(decide (s1.1≥0))) rfl (fun hc1=> ?_) (fun hc1=> ?_)
   ·replace q5:=ifT hc1 q5;refine AT ?_;refine nrm ?_;refine Ae ?_;refine AD ?_;refine Ae ?_;obtain⟨q7,q5⟩:=CB q5;have HM:GJ [(11,fv f0),(12,fv (vU k0)),(13,fv (vI s1.1)),(14,fv (vU (HC 1 s1.1.toNat))),(15,fv (vU (k0&&&(HC 1 s1.1.toNat)))),(16,fv (vb (((k0&&&(HC 1 s1.1.toNat)).toNat:Int) !=0)))]:=⟨mv,mv,mv,mv,mv,mv,trivial⟩;refine I2 HM 6 Cy rfl rfl rfl [11,12,13,14,15,16] (fun L f M w=>St M ((bx kb0 [vU k0] 22)::(X1++As)) w) (St.drew S2 _) ?_ ?_
    ·refine⟨?_,?_,?_,?_,?_,?_,trivial⟩
     ·exact flp HM rfl [] (fun _ _=>trivial) (fun _ _ q=>Ar (v:=f0) rfl q) rfl
     ·exact flp HM rfl [] (fun _ _=>trivial) (fun _ S4 q=>H9 (i:=0) (cs:=[vU k0]) S4 rfl rfl Tryz.isAgg22 Tryz.sizeOf22 rfl (fun _=>rfl) q) rfl
     ·exact flp HM rfl [] (fun _ _=>trivial) (fun _ _ q=>Ar (v:=vI s1.1) rfl q) rfl
     ·exact flp HM rfl [(13,_)] (fun K _=>⟨K 2 rfl,trivial⟩) (fun _ _ q=>WG (m:=1) (n:=s1.1) rfl rfl q7 q) rfl
     ·exact flp HM rfl [(12,_),(14,_)] (fun K _=>⟨K 1 rfl,K 3 rfl,trivial⟩) (fun _ _ q=>AaL (m:=k0) (n:=(HC 1 s1.1.toNat)) rfl rfl q) rfl
     ·exact flp HM rfl [(15,_)] (fun K _=>⟨K 4 rfl,trivial⟩) (fun _ _ q=>AbU (m:=((k0&&&(HC 1 s1.1.toNat)).toNat:Int)) (n:=0) rfl rfl q) rfl
    intro L f8 w9 hall ⟨m9,L16,S9,K,hO⟩;have d0:L 0=true:=hall 0 (by decide);have e5:=K 0 d0;have d5:L 5=true:=hall 5 (by decide);have e6:=K 5 d5;obtain⟨u8,rfl⟩:=Bj (N:=19) (L:=[(11,f0),(16,vb (((k0&&&(HC 1 s1.1.toNat)).toNat:Int) !=0))]) hO ⟨e5,e6,trivial⟩;replace S9:St _ ((bx kb0 [vU k0] 22)::(X1++As)) _:=S9;replace h1:=hup L16 h1;replace L2:=Mem.tr L2 L16;clear S2;obtain⟨x4,q8,q5⟩:=Aa q5;have S10:=St.absF (L:=[bx kb0 [vU k0] 22]) (X:=X1) (As:=As) S9;refine IV rfl (cb0 S10 h1 q8) rfl ?_;rintro _ w10 ⟨m10,X3,l2,S11,h3,rfl⟩;replace S11:=St.absF (L:=X3) (X:=[bx kb0 [vU k0] 22]) (As:=As) S11;clear S10;replace L2:=Mem.tr L2 l2;replace S11:St _ ((bx kb0 [vU k0] 22)::(X3++As)) _:=S11;clear S9;refine RD rfl ?_;refine Af ?_;refine nrm ?_;refine BQ (t:=(!x4.1)) rfl (fun hc2=> ?_) (fun hc2=> ?_)
    ·replace q5:=ifT hc2 q5;refine Bf ?_;refine blR ?_;refine thR ?_;refine thR ?_;refine blR ?_;refine thR ?_;refine Dr ?_;intro we hpd;replace S11:=St.pd S11 hpd;cases q5;rcases q4 with ⟨sn,e,_⟩|e
     ·cases e
     cases e;dsimp only at hm;have e0:=Option.some.inj hm;subst e0;exact Hu [] rfl trivial ⟨_,(Mem.tr L0 (Mem.tr L3 L2)),_,S11,rfl,h3⟩
    replace q5:=ifF hc2 q5;refine AT ?_;refine KF ?_;refine nrm ?_;refine Ac ?_;refine Ar (v:=vI s1.1) rfl ?_;refine Jg (m:=s1.1) (n:=1) rfl rfl ?_;refine AQ (v:=vI (w64 (s1.1-1))) rfl ?_;refine Af ?_;refine nrm ?_;have e0:=Option.some.inj q5;subst e0;rcases q4 with ⟨sn,e,q4'⟩|e
    ·cases e;exact⟨Du,_,Nat.lt_succ_self _,⟨_,m10,_,q4',Mem.tr L3 L2,S11,h3,⟨rfl,trivial⟩⟩⟩
    ·cases e
   replace q5:=ifF hc1 q5;refine Cr ?_;refine thE ?_;refine thE ?_;refine exB ?_;refine nrm ?_;have e0:=Option.some.inj q5;subst e0;rcases q4 with ⟨sn,e,_⟩|e
   ·cases e
   ·cases e;exact⟨Du,m2,_,_,rfl,Mem.tr L3 L2,S2,h1,trivial⟩
 rintro f9 w11 ho ⟨m12,y1,X2,rfl,l3,S12,h2,ha⟩;obtain⟨u9,rfl⟩:=Bj (N:=19) ho ha;clear ho ha;dsimp only at hm;replace L0:=Mem.tr L0 l3;clear S1;refine Tp ?_;intro we hpd;replace S12:=St.pd S12 hpd;have e0:=Option.some.inj hm;subst e0;exact Hu [] rfl trivial ⟨_,L0,_,S12,rfl,h2⟩
def GA (a0:UInt64):Option UInt64:=some a0
theorem NA {m:Mem}{As:List Ow}{w:World}{a0:UInt64}{r:UInt64}(S:St m (As) w)(hm:GA a0=some r):
  AG Tryz.prog 221 #[vU a0] w fun v w'=> ∃(M:Mem),m≤M∧∃(rk0_0:Nat),St M ((bx rk0_0 [vU r] 22)::As) w'∧v= .func (.func 250) #[] #[pt rk0_0 0]:=by
 unfold GA at hm;have L0:=Mem.rfl' m;refine CF (args:=[vU a0]) Tryz.func221 rfl Tryz.ntmps221 (Nat.le_of_ble_eq_true rfl) ?_;refine Ae ?_;refine Ac ?_;refine NR S rfl ?_;intro b1 w1 S1;replace S1:St _ ((bx b1 [vU a0] 22)::As) _:=S1;clear S;refine AQ (v:= .nilFunc) rfl ?_;refine Af ?_;refine nrm ?_;refine Ae ?_;refine Ac ?_;refine LW (caps:=[pt b1 0]) rfl ?_;refine AQ (v:= .func (.func 250) #[] #[pt b1 0]) rfl ?_;refine Af ?_;refine nrm ?_;refine Bf ?_;refine Dr ?_;intro we hpd;replace S1:=St.pd S1 hpd;have e0:=Option.some.inj hm;subst e0;exact Hu [_] rfl ⟨rfl,trivial⟩ ⟨_,L0,_,S1,rfl⟩
def CI {σ:Type}(p0:σ→UInt64→UInt64→Option (UInt64×σ))(a1:UInt64)(b6:Bool)(s1:UInt64×σ):Option (UInt64×σ):=Ad (p0 ((s1).2) ((s1).1) ((s1).1)) fun x3=>if b6=true then Ad (p0 x3.2 x3.1 a1) fun x4=>some (x4.1,x4.2)else some (x3.1,x3.2)
def FH {σ:Type}(p0:σ→UInt64→UInt64→Option (UInt64×σ))(a1:UInt64)(a2:UInt64)(s0:σ):Option (UInt64×σ):=Ad (GA a2) fun x1=>Ad (Fo (fun(s:UInt64×σ) (b0:Bool)=>Ad (CI p0 a1 b0 s) fun y=>some (true,y)) x1 (1,s0)) fun x2=>some (x2.2.1,x2.2.2)
theorem Om {m:Mem}{As:List Ow}{w:World}{σ:Type}{R:σ→Mem→List Ow→Prop}{p0:σ→UInt64→UInt64→Option (UInt64×σ)}{f0:Value}{a1:UInt64}{a2:UInt64}{s0:σ}{X0:List Ow}{r:UInt64×σ}(S:St m ((X0++As)) w)(hup: ∀{s M M' X},M≤M'→R s M X→R s M' X)(hX0:R s0 m X0)(cb0: ∀{m':Mem} {As':List Ow} {w':World} {s:σ} {X:List Ow} {b0:UInt64} {b1:UInt64} {r:UInt64×σ},St m' (X++As') w'→R s m' X→p0 s b0 b1=some r→FB Tryz.prog f0 [vU b0,vU b1] w' fun v w''=> ∃(M:Mem) (X':List Ow),m'≤M∧St M (X'++As') w''∧R r.2 M X'∧v=vU r.1)(fc0:f0.cells= #[f0])(hm:FH p0 a1 a2 s0=some r):
  AG Tryz.prog 173 #[f0,vU a1,vU a2] w fun v w'=> ∃(M:Mem),m≤M∧∃(X:List Ow),St M ((X++As)) w'∧v=vU r.1∧R r.2 M X:=by
 unfold FH at hm;have L0:=Mem.rfl' m;refine CF (args:=[f0,vU a1,vU a2]) Tryz.func173 rfl Tryz.ntmps173 (Nat.le_of_ble_eq_true rfl) ?_;refine Ae ?_;refine Ac ?_;refine Uq S rfl fc0 ?_;intro b1 w1 S1;replace S1:St _ ((bx b1 [f0] 151)::(X0++As)) _:=S1;clear S;refine NR S1 rfl ?_;intro b2 w2 S2;replace S2:St _ ((bx b2 [vU a1] 22)::(bx b1 [f0] 151)::(X0++As)) _:=S2;clear S1;refine AQ (v:=vU 0) rfl ?_;refine Af ?_;refine nrm ?_;refine Ae ?_;refine Ac ?_;refine EN S2 Tryz.zeroValue22 ?_;intro b3 w3 S3;replace S3:St _ ((bx b3 [vU 0] 22)::(bx b2 [vU a1] 22)::(bx b1 [f0] 151)::(X0++As)) _:=S3;clear S2;refine IU (i:=0) S3 rfl rfl rfl Tryz.sizeOf22 (Ho rfl Lq) rfl ?_;intro w4 S4;replace S4:St _ ((bx b3 [vU 1] 22)::(bx b2 [vU a1] 22)::(bx b1 [f0] 151)::(X0++As)) _:=S4;clear S3;refine Af ?_;refine nrm ?_;refine Ae ?_;refine Ae ?_;refine Ac ?_;refine Ar (v:=vU a2) rfl ?_;obtain⟨x1,q1,hm⟩:=Aa hm;refine CO Tryz.call221 (NA (a0:=a2) S4 q1) rfl ?_;rintro _ w5 ⟨m1,l1,b4,S5,rfl⟩;replace hX0:=hup l1 hX0;replace L0:=Mem.tr L0 l1;clear S4;replace S5:St _ ((bx b4 [vU x1] 22)::(bx b3 [vU 1] 22)::(bx b2 [vU a1] 22)::(bx b1 [f0] 151)::(X0++As)) _:=S5;refine Af ?_;refine nrm ?_;refine AD ?_;obtain⟨x2,q2,hm⟩:=Aa hm;refine HE S5 rfl Tryz.call250 ?_;intro lp1 rip2 w6 h1 S6;replace S6:St _ ((Lp lp1 rip2 .ready none)::(bx b4 [vU x1] 22)::(bx b3 [vU 1] 22)::(bx b2 [vU a1] 22)::(bx b1 [f0] 151)::(X0++As)) _:=S6;clear S5;have S7:St _ ((bx b4 [vU x1] 22)::(Lp lp1 rip2 .ready none)::(bx b3 [vU 1] 22)::(bx b2 [vU a1] 22)::(bx b1 [f0] 151)::(X0++As)) _:=St.perm S6 (List.Perm.swap _ _ _);clear S6;have hcb1: ∀{m':Mem} {As':List Ow} {w':World} {s:UInt64×σ} {X:List Ow} {b0:Bool} {r:Bool×(UInt64×σ)},St m' (X++As') w'→(∃(X2:List Ow),m1≤m'∧X=Lp lp1 rip2 .ready none::(bx b3 [vU ((s).1)] 22)::(bx b2 [vU a1] 22)::(bx b1 [f0] 151)::X2∧R ((s).2) m' X2)→(fun(s:UInt64×σ) (b0:Bool)=>Ad (CI p0 a1 b0 s) fun y=>some (true,y)) s b0=some r→FB Tryz.prog (.func (.yield lp1) #[] #[]) [vb b0] w' fun v w''=> ∃(M:Mem) (X':List Ow),m'≤M∧St M (X'++As') w''∧(∃(X2:List Ow),m1≤M∧X'=Lp lp1 rip2 .ready none::(bx b3 [vU ((r.2).1)] 22)::(bx b2 [vU a1] 22)::(bx b1 [f0] 151)::X2∧R ((r.2).2) M X2)∧v=vb r.1:=by
  intro m2 As1 w7 s1 X3 b6 r1 S8 h4 hm1;obtain⟨X4,L2,rfl,h5⟩:=h4;obtain⟨y1,q3,hm1⟩:=Aa hm1;cases hm1;unfold CI at q3;replace S8:St _ ((Lp lp1 rip2 .ready none)::(bx b3 [vU ((s1).1)] 22)::(bx b2 [vU a1] 22)::(bx b1 [f0] 151)::(X4++As1)) _:=S8;have L1:=Mem.rfl' m2;refine FB.round h1 rfl S8 ?_;refine Ac ?_;refine AQ (v:=vb b6) rfl ?_;refine Af ?_;refine nrm ?_;refine⟨_,_,S8,?_⟩;intro w8 S9;clear S8;replace S9:St _ ((Lp lp1 rip2 .busy none)::(bx b3 [vU ((s1).1)] 22)::(bx b2 [vU a1] 22)::(bx b1 [f0] 151)::(X4++As1)) _:=S9;refine AD ?_;refine Ae ?_;refine Ac ?_;refine H9 (i:=3) (cs:=[f0]) S9 rfl rfl Tryz.isAgg151 Tryz.sizeOf151 rfl (fun _=>rfl) ?_;refine H9 (i:=1) (cs:=[vU ((s1).1)]) S9 rfl rfl Tryz.isAgg22 Tryz.sizeOf22 rfl (fun _=>rfl) ?_;refine H9 (i:=1) (cs:=[vU ((s1).1)]) S9 rfl rfl Tryz.isAgg22 Tryz.sizeOf22 rfl (fun _=>rfl) ?_;obtain⟨x3,q4,q3⟩:=Aa q3;have S10:=St.absF (L:=[Lp lp1 rip2 .busy none,bx b3 [vU ((s1).1)] 22,bx b2 [vU a1] 22,bx b1 [f0] 151]) (X:=X4) (As:=As1) S9;refine IV rfl (cb0 S10 h5 q4) rfl ?_;rintro _ w9 ⟨m3,X5,l2,S11,h6,rfl⟩;replace S11:=St.absF (L:=X5) (X:=[Lp lp1 rip2 .busy none,bx b3 [vU ((s1).1)] 22,bx b2 [vU a1] 22,bx b1 [f0] 151]) (As:=As1) S11;clear S10;replace L1:=Mem.tr L1 l2;replace S11:St _ ((Lp lp1 rip2 .busy none)::(bx b3 [vU ((s1).1)] 22)::(bx b2 [vU a1] 22)::(bx b1 [f0] 151)::(X5++As1)) _:=S11;clear S9;refine IU (i:=1) S11 rfl rfl rfl Tryz.sizeOf22 (Ho rfl Lq) rfl ?_;intro w10 S12;replace S12:St _ ((Lp lp1 rip2 .busy none)::(bx b3 [vU x3.1] 22)::(bx b2 [vU a1] 22)::(bx b1 [f0] 151)::(X5++As1)) _:=S12;clear S11;refine Af ?_;refine nrm ?_;refine Ae ?_;refine Ac ?_;refine Ar (v:=vb b6) rfl ?_;refine Af ?_;refine nrm ?_;refine BQ (t:=b6) rfl (fun hc1=> ?_) (fun hc1=> ?_)
  ·replace q3:=ifT hc1 q3;refine Ac ?_;refine H9 (i:=3) (cs:=[f0]) S12 rfl rfl Tryz.isAgg151 Tryz.sizeOf151 rfl (fun _=>rfl) ?_;refine H9 (i:=1) (cs:=[vU x3.1]) S12 rfl rfl Tryz.isAgg22 Tryz.sizeOf22 rfl (fun _=>rfl) ?_;refine H9 (i:=2) (cs:=[vU a1]) S12 rfl rfl Tryz.isAgg22 Tryz.sizeOf22 rfl (fun _=>rfl) ?_;obtain⟨x4,q5,q3⟩:=Aa q3;have S13:=St.absF (L:=[Lp lp1 rip2 .busy none,bx b3 [vU x3.1] 22,bx b2 [vU a1] 22,bx b1 [f0] 151]) (X:=X5) (As:=As1) S12;refine IV rfl (cb0 S13 h6 q5) rfl ?_;rintro _ w11 ⟨m4,X6,l3,S14,h7,rfl⟩;replace S14:=St.absF (L:=X6) (X:=[Lp lp1 rip2 .busy none,bx b3 [vU x3.1] 22,bx b2 [vU a1] 22,bx b1 [f0] 151]) (As:=As1) S14;clear S13;replace L1:=Mem.tr L1 l3;replace S14:St _ ((Lp lp1 rip2 .busy none)::(bx b3 [vU x3.1] 22)::(bx b2 [vU a1] 22)::(bx b1 [f0] 151)::(X6++As1)) _:=S14;clear S12;refine IU (i:=1) S14 rfl rfl rfl Tryz.sizeOf22 (Ho rfl Lq) rfl ?_;intro w12 S15;replace S15:St _ ((Lp lp1 rip2 .busy none)::(bx b3 [vU x4.1] 22)::(bx b2 [vU a1] 22)::(bx b1 [f0] 151)::(X6++As1)) _:=S15;clear S14;refine Af ?_;refine KF ?_;refine⟨_,_,S15,?_⟩;intro w13 S16;have e0:=Option.some.inj q3;subst e0;exact⟨_,Lp lp1 rip2 .ready none::(bx b3 [vU x4.1] 22)::(bx b2 [vU a1] 22)::(bx b1 [f0] 151)::X6,L1,S16,⟨_,Mem.tr L2 L1,rfl,h7⟩,rfl⟩
  replace q3:=ifF hc1 q3;refine AT ?_;refine KF ?_;refine⟨_,_,S12,?_⟩;intro w14 S17;have e0:=Option.some.inj q3;subst e0;exact⟨_,Lp lp1 rip2 .ready none::(bx b3 [vU x3.1] 22)::(bx b2 [vU a1] 22)::(bx b1 [f0] 151)::X5,L1,S17,⟨_,Mem.tr L2 L1,rfl,h6⟩,rfl⟩
 refine AG.mono (LS (p0:=(fun(s:UInt64×σ) (b0:Bool)=>Ad (CI p0 a1 b0 s) fun y=>some (true,y))) (k0:=x1) (s0:=(1,s0)) (R:=(fun(s:UInt64×σ) (M:Mem) (X:List Ow)=>(∃(X2:List Ow),m1≤M∧X=Lp lp1 rip2 .ready none::(bx b3 [vU ((s).1)] 22)::(bx b2 [vU a1] 22)::(bx b1 [f0] 151)::X2∧R ((s).2) M X2))) (X0:=((Lp lp1 rip2 .ready none)::(bx b3 [vU 1] 22)::(bx b2 [vU a1] 22)::(bx b1 [f0] 151)::X0)) (As:=As) S7 (fun l h=>by obtain⟨X2,Lm,e,h3⟩:=h; exact⟨_,Mem.tr Lm l,e,hup l h3⟩) ⟨_,Mem.rfl' _,rfl,hX0⟩ @hcb1 rfl q2) ?_;rintro _ w15 ⟨m5,l4,X7,S18,rfl,⟨X8,L3,rfl,h8⟩⟩;replace S18:St _ ((bx b4 [vU x2.1] 22)::(Lp lp1 rip2 .ready none)::(bx b3 [vU x2.2.1] 22)::(bx b2 [vU a1] 22)::(bx b1 [f0] 151)::(X8++As)) _:=S18;have S19:St _ ((Lp lp1 rip2 .ready none)::(bx b4 [vU x2.1] 22)::(bx b3 [vU x2.2.1] 22)::(bx b2 [vU a1] 22)::(bx b1 [f0] 151)::(X8++As)) _:=St.perm S18 (List.Perm.swap _ _ _);clear S18;refine⟨_,.ready,none,_,l4,(fun h=>by cases h),S19,?_⟩;intro m6 w16 l5 S20;have l6:=Mem.tr l4 l5;replace h8:=hup l5 h8;replace L0:=Mem.tr L0 l6;replace S20:St _ ((bx b4 [vU x2.1] 22)::(bx b3 [vU x2.2.1] 22)::(bx b2 [vU a1] 22)::(bx b1 [f0] 151)::(X8++As)) _:=S20;refine KF ?_;refine nrm ?_;refine Ae ?_;refine Ac ?_;refine H9 (i:=1) (cs:=[vU x2.2.1]) S20 rfl rfl Tryz.isAgg22 Tryz.sizeOf22 rfl (fun _=>rfl) ?_;refine AQ (v:=vU x2.2.1) rfl ?_;refine Af ?_;refine nrm ?_;refine Bf ?_;refine Dr ?_;intro we hpd;replace S20:=St.pd S20 hpd;obtain⟨m7,l7,S21⟩:=St.drop S20 0;replace h8:=hup l7 h8;replace L0:=Mem.tr L0 l7;clear S20;replace S21:St _ ((bx b3 [vU x2.2.1] 22)::(bx b2 [vU a1] 22)::(bx b1 [f0] 151)::(X8++As)) _:=S21;obtain⟨m8,l8,S22⟩:=St.drop S21 0;replace h8:=hup l8 h8;replace L0:=Mem.tr L0 l8;clear S21;replace S22:St _ ((bx b2 [vU a1] 22)::(bx b1 [f0] 151)::(X8++As)) _:=S22;obtain⟨m9,l9,S23⟩:=St.drop S22 0;replace h8:=hup l9 h8;replace L0:=Mem.tr L0 l9;clear S22;replace S23:St _ ((bx b1 [f0] 151)::(X8++As)) _:=S23;obtain⟨m10,l10,S24⟩:=St.drop S23 0;replace h8:=hup l10 h8;replace L0:=Mem.tr L0 l10;clear S23;replace S24:St _ ((X8++As)) _:=S24;have e0:=Option.some.inj hm;subst e0;exact Hu [_] rfl ⟨rfl,trivial⟩ ⟨_,L0,_,S24,rfl,h8⟩
def F8 (a0:UInt64)(a1:UInt64):Option UInt64:=Ad (FH (fun(s1:Unit) (b1:UInt64) (b2:UInt64)=>Ad (BO 2305843009213691579 b1 b2) fun x1=>some (x1,())) a0 a1 ()) fun x2=>some x2.1
theorem Rm {m:Mem}{As:List Ow}{w:World}{a0:UInt64}{a1:UInt64}{r:UInt64}(S:St m (As) w)(hm:F8 a0 a1=some r):
  AG Tryz.prog 134 #[vU a0,vU a1] w fun v w'=> ∃(M:Mem),m≤M∧St M (As) w'∧v=vU r:=by
 unfold F8 at hm;have L0:=Mem.rfl' m;refine CF (args:=[vU a0,vU a1]) Tryz.func134 rfl Tryz.ntmps134 (Nat.le_of_ble_eq_true rfl) ?_;refine Ae ?_;refine Ac ?_;refine AQ (v:=vU 0) rfl ?_;refine Af ?_;refine nrm ?_;refine Ae ?_;refine Ac ?_;refine AbW (pre:=[vU 2305843009213691579]) (caps:=[]) rfl rfl ?_;refine Ar (v:=vU a0) rfl ?_;refine Ar (v:=vU a1) rfl ?_;have hcb1: ∀{m':Mem} {As':List Ow} {w':World} {s:Unit} {X:List Ow} {b0:UInt64} {b1:UInt64} {r:UInt64×Unit},St m' (X++As') w'→(X=[])→(fun(s1:Unit) (b1:UInt64) (b2:UInt64)=>Ad (BO 2305843009213691579 b1 b2) fun x1=>some (x1,())) s b0 b1=some r→FB Tryz.prog (.func (.func 143) #[vU 2305843009213691579] #[]) [vU b0,vU b1] w' fun v w''=> ∃(M:Mem) (X':List Ow),m'≤M∧St M (X'++As') w''∧(X'=[])∧v=vU r.1:=by
  intro m1 As1 w1 s1 X1 b1 b2 r1 S1 h1 hm1;subst h1;replace S1:St _ (As1) _:=S1;have L1:=Mem.rfl' m1;obtain⟨x1,q1,hm1⟩:=Aa hm1;refine FB.mono (FB.clo (pre:=[vU 2305843009213691579]) Tryz.call143 rfl (I8 (a0:=2305843009213691579) (a1:=b1) (a2:=b2) S1 q1)) ?_;rintro _ w2 ⟨m2,l1,S2,rfl⟩;replace L1:=Mem.tr L1 l1;clear S1;replace S2:St _ (As1) _:=S2;have e0:=Option.some.inj hm1;subst e0;exact⟨_,[],L1,S2,rfl,rfl⟩
 obtain⟨x2,q2,hm⟩:=Aa hm;refine CO Tryz.call173 (Om (p0:=(fun(s1:Unit) (b1:UInt64) (b2:UInt64)=>Ad (BO 2305843009213691579 b1 b2) fun x1=>some (x1,()))) (a1:=a0) (a2:=a1) (s0:=()) (R:=(fun(s:Unit) (M:Mem) (X:List Ow)=>(X=[]))) (X0:=[]) (As:=As) S (fun {_ _ _ _} _ h=>h) rfl @hcb1 rfl q2) rfl ?_;rintro _ w3 ⟨m3,l2,X2,S3,rfl,rfl⟩;replace L0:=Mem.tr L0 l2;clear S;replace S3:St _ (As) _:=S3;refine AQ (v:=vU x2.1) rfl ?_;refine Af ?_;refine nrm ?_;refine Bf ?_;refine Dr ?_;intro we hpd;replace S3:=St.pd S3 hpd;have e0:=Option.some.inj hm;subst e0;exact Hu [_] rfl ⟨rfl,trivial⟩ ⟨_,L0,S3,rfl⟩
theorem RK {a0:UInt64}{a1:UInt64}{r:UInt64}(hm:F8 a0 a1=some r):Sf prog 134 [.d (.u a0),.d (.u a1)] (.d (.u r)):=
 ⟨call134,fun η m As w vs hv0 hd S=>by
  have S:St m As w:=S;obtain⟨v0,u0,rfl,r0,hv1⟩:=BH.cons_inv hv0;obtain rfl:=r0.u_inv;obtain⟨v1,u1,rfl,r1,hv2⟩:=BH.cons_inv hv1;obtain rfl:=r1.u_inv;obtain rfl:=BH.nil_inv hv2;refine AG.mono (Rm S hm) ?_;rintro v w' ⟨M,hle,S0,rfl⟩;exact⟨M,none0,_,_,_,hle,SE hd _,⟨rfl,rfl,rfl⟩,fun n h=>absurd rfl h,(.d (.u _)),S0⟩⟩
def Fp (a0:UInt64):Option UInt64:=Ad (F8 4 a0) fun x1=>some x1
theorem Lf {a0:UInt64}{r:UInt64}(hm:Fp a0=some r):Sf prog 87 [.d (.u a0)] (.d (.u r)):=
 sp call87 func87 rfl ntmps87 rfl fun D0 As η0 m0 hd=>by
  unfold Fp at hm;obtain⟨x1,q1,hm⟩:=Aa hm;refine gc (fun _=>RK q1) (by kernel_rfl) ?_;have e0:=Option.some.inj hm;subst e0;exact AL hd (by kernel_rfl)
def Fg (a0:UInt64):Option (UInt64×Int):=Ad (Kr a0) fun x1=>if x1=true then some (0,1)else Ad (Fp a0) fun x2=>some (x2,0)
theorem K9 {a0:UInt64}{r:UInt64×Int}(hm:Fg a0=some r):Sf prog 56 [.d (.u a0)] (.tup [.d (.u r.1),.d (.i r.2)]):=
 sp call56 func56 rfl ntmps56 rfl fun D0 As η0 m0 hd=>by
  unfold Fg at hm;obtain⟨x1,q1,hm⟩:=Aa hm;refine gc (fun _=>Va q1) (by kernel_rfl) ?_;refine gi hm (by kernel_rfl) (fun hc1 hm=> ?_) fun hc1 hm=> ?_
  ·skip;have e0:=Option.some.inj hm;subst e0;exact AL hd (by kernel_rfl)
  obtain⟨x2,q2,hm⟩:=Aa hm;refine gc (fun _=>Lf q2) (by kernel_rfl) ?_;have e0:=Option.some.inj hm;subst e0;exact AL hd (by kernel_rfl)
def Gq (a0:UInt64)(i1:Int)(s1:UInt8×UInt8×UInt8×UInt8×UInt8×UInt8×UInt8×UInt8):Option (UInt8×UInt8×UInt8×UInt8×UInt8×UInt8×UInt8×UInt8):=if(0:Int)≤(w64 (8*(i1:Int)))then Ad (idx [s1.1,s1.2.1,s1.2.2.1,s1.2.2.2.1,s1.2.2.2.2.1,s1.2.2.2.2.2.1,s1.2.2.2.2.2.2.1,s1.2.2.2.2.2.2.2] (w64 (7-(i1:Int)))) fun x4=>bnd (if(w64 (7-(i1:Int)))=0 then(toB ((Ec a0 ((w64 (8*(i1:Int))).toNat)).toNat:Int))else s1.1) fun x5=>bnd (if(w64 (7-(i1:Int)))=1 then(toB ((Ec a0 ((w64 (8*(i1:Int))).toNat)).toNat:Int))else s1.2.1) fun x6=>bnd (if(w64 (7-(i1:Int)))=2 then(toB ((Ec a0 ((w64 (8*(i1:Int))).toNat)).toNat:Int))else s1.2.2.1) fun x7=>bnd (if(w64 (7-(i1:Int)))=3 then(toB ((Ec a0 ((w64 (8*(i1:Int))).toNat)).toNat:Int))else s1.2.2.2.1) fun x8=>bnd (if(w64 (7-(i1:Int)))=4 then(toB ((Ec a0 ((w64 (8*(i1:Int))).toNat)).toNat:Int))else s1.2.2.2.2.1) fun x9=>bnd (if(w64 (7-(i1:Int)))=5 then(toB ((Ec a0 ((w64 (8*(i1:Int))).toNat)).toNat:Int))else s1.2.2.2.2.2.1) fun x10=>bnd (if(w64 (7-(i1:Int)))=6 then(toB ((Ec a0 ((w64 (8*(i1:Int))).toNat)).toNat:Int))else s1.2.2.2.2.2.2.1) fun x11=>bnd (if(w64 (7-(i1:Int)))=7 then(toB ((Ec a0 ((w64 (8*(i1:Int))).toNat)).toNat:Int))else s1.2.2.2.2.2.2.2) fun x12=>some (x5,x6,x7,x8,x9,x10,x11,x12)else none
def D5 (a0:UInt64):Option (List UInt8):=Ad (Ad (BE (Gq a0) 8 0 (0,0,0,0,0,0,0,0)) fun x2=>some (x2.1,x2.2.1,x2.2.2.1,x2.2.2.2.1,x2.2.2.2.2.1,x2.2.2.2.2.2.1,x2.2.2.2.2.2.2.1,x2.2.2.2.2.2.2.2)) fun x1=>some ([x1.1,x1.2.1,x1.2.2.1,x1.2.2.2.1,x1.2.2.2.2.1,x1.2.2.2.2.2.1,x1.2.2.2.2.2.2.1,x1.2.2.2.2.2.2.2]:List UInt8)
theorem Q6 {m:Mem}{As:List Ow}{w:World}{a0:UInt64}{r:List UInt8}(S:St m (As) w)(hm:D5 a0=some r):
  AG Tryz.prog 94 #[vU a0] w fun v w'=> ∃(M:Mem),m≤M∧∃(rv0:Value) (rc0:List Value),St M ((row 1 rv0 rc0 r.length)::As) w'∧v=rv0∧AX M rc0 r:=by
 unfold D5 at hm;have L0:=Mem.rfl' m;refine CF (args:=[vU a0]) Tryz.func94 rfl Tryz.ntmps94 (Nat.le_of_ble_eq_true rfl) ?_;refine Ae ?_;refine Ac ?_;refine AQ (v:= .slice none 0 0) rfl ?_;refine Af ?_;refine nrm ?_;refine Ae ?_;refine Ac ?_;refine EN S Tryz.zeroValue192 ?_;intro b1 w1 S1;replace S1:St _ ((bx b1 [vB 0,vB 0,vB 0,vB 0,vB 0,vB 0,vB 0,vB 0] 192)::As) _:=S1;clear S;refine Af ?_;refine nrm ?_;obtain⟨x1,q1,hm⟩:=Aa hm;have L1:=Mem.rfl' m;refine Ae ?_;refine AY [4,5,6,7,8,9,10,11,12,13,14,15,16] (fun f' w'=> ∃(M1:Mem),m≤M1∧St M1 ((bx b1 [vB x1.1,vB x1.2.1,vB x1.2.2.1,vB x1.2.2.2.1,vB x1.2.2.2.2.1,vB x1.2.2.2.2.2.1,vB x1.2.2.2.2.2.2.1,vB x1.2.2.2.2.2.2.2] 192)::As) w'∧BV f' []) ?_ ?_
 ·refine Ae ?_;refine Ac ?_;refine Ar (v:=vI 0) rfl ?_;refine Af ?_;refine nrm ?_;obtain⟨x2,q2,q1⟩:=Aa q1;have L2:=Mem.rfl' m;refine AY [4,5,6,7,8,9,10,11,12,13,14,15,16] (fun f' w'=> ∃(M2:Mem),m≤M2∧St M2 ((bx b1 [vB x2.1,vB x2.2.1,vB x2.2.2.1,vB x2.2.2.2.1,vB x2.2.2.2.2.1,vB x2.2.2.2.2.2.1,vB x2.2.2.2.2.2.2.1,vB x2.2.2.2.2.2.2.2] 192)::As) w'∧BV f' []) ?_ ?_
  ·refine AD ?_;refine BJ [4,5,6,7,8,9,10,11,12,13,14,15,16] (fun n1 f' w'=> ∃(i1:Nat) (s1:UInt8×UInt8×UInt8×UInt8×UInt8×UInt8×UInt8×UInt8) (m2:Mem),n1=8-i1∧i1≤8∧BE (Gq a0) (8-i1) (i1:Int) s1=some x2∧m≤m2∧St m2 ((bx b1 [vB s1.1,vB s1.2.1,vB s1.2.2.1,vB s1.2.2.2.1,vB s1.2.2.2.2.1,vB s1.2.2.2.2.2.1,vB s1.2.2.2.2.2.2.1,vB s1.2.2.2.2.2.2.2] 192)::As) w'∧BV f' [(5,vI (i1:Int))]) 8 ⟨0,(0,0,0,0,0,0,0,0),m,rfl,Nat.zero_le _,q2,L2,S1,⟨rfl,trivial⟩⟩ ?_;rintro n1 f1 w2 ho ⟨i1,s1,m1,hn,hi,q3,L4,S2,ha⟩;obtain⟨u1,rfl⟩:=Bj (N:=18) ho ha;clear ho ha;have L3:=Mem.rfl' m1;clear S1;refine Ae ?_;refine Ac ?_;refine H8 (m:=(i1:Int)) (n:=8) rfl rfl ?_;refine Af ?_;refine nrm ?_;refine Ae ?_;refine BQ (t:=decide ((i1:Int)<(8:Int))) rfl (fun hc1=> ?_) (fun hc1=> ?_)
   ·have hlt1:i1<8:=by have:=of_decide_eq_true hc1; omega
    obtain⟨y1,q5,q4⟩:=DF q3 hlt1;unfold Gq at q5;refine AT ?_;refine nrm ?_;refine Ae ?_;refine AD ?_;refine Ae ?_;refine Ac ?_;refine Ar (v:=vI (i1:Int)) rfl ?_;refine AQ (v:=vI (i1:Int)) rfl ?_;refine Af ?_;refine nrm ?_;refine Ac ?_;refine Ar (v:=vI (i1:Int)) rfl ?_;refine Jg (m:=7) (n:=(i1:Int)) rfl rfl ?_;refine Ar (v:=vU a0) rfl ?_;refine Ar (v:=vI (i1:Int)) rfl ?_;refine MD (m:=8) (n:=(i1:Int)) rfl rfl ?_;obtain⟨q7,q5⟩:=CB q5;refine AaE (m:=a0) (n:=(w64 (8*(i1:Int)))) rfl rfl q7 ?_;refine P3 rfl Tryz.underlying22 Tryz.underlying5 ?_;obtain⟨x4,q8,q5⟩:=Aa q5;refine ME (i:=(w64 (7-(i1:Int)))) rfl rfl Tryz.underlying192 Tryz.sizeOf5 (BU q8).1 (BU q8).2 ?_;obtain⟨x5,q9,q5⟩:=Cd q5;obtain⟨x6,q10,q5⟩:=Cd q5;obtain⟨x7,q11,q5⟩:=Cd q5;obtain⟨x8,q12,q5⟩:=Cd q5;obtain⟨x9,q13,q5⟩:=Cd q5;obtain⟨x10,q14,q5⟩:=Cd q5;obtain⟨x11,q15,q5⟩:=Cd q5;obtain⟨x12,q16,q5⟩:=Cd q5;refine AaD (i:=0) (off:=0+(w64 (7-(i1:Int))).toNat*1) S2 rfl rfl rfl Tryz.sizeOf5 (U6.all (Ho rfl Lq)) (by rcases idx8 q8 with ⟨h,h'⟩|⟨h,h'⟩|⟨h,h'⟩|⟨h,h'⟩|⟨h,h'⟩|⟨h,h'⟩|⟨h,h'⟩|⟨h,h'⟩<;>(rw[h]; exact Nat.le_of_ble_eq_true rfl)) ?_;intro w3 S3;replace S3:=St.cellsTo (i:=0) (l':=[vB x5,vB x6,vB x7,vB x8,vB x9,vB x10,vB x11,vB x12]) S3 (by rcases idx8 q8 with ⟨h,h'⟩|⟨h,h'⟩|⟨h,h'⟩|⟨h,h'⟩|⟨h,h'⟩|⟨h,h'⟩|⟨h,h'⟩|⟨h,h'⟩<;>(simp only[q9,q10,q11,q12,q13,q14,q15,q16,h]; rfl)) rfl;replace S3:St _ ((bx b1 [vB x5,vB x6,vB x7,vB x8,vB x9,vB x10,vB x11,vB x12] 192)::As) _:=S3;clear S2;refine Af ?_;refine KF ?_;refine nrm ?_;refine Ac ?_;refine Eu (m:=(i1:Int)) (n:=1) rfl rfl ?_;refine Ar (v:=vI (w64 ((i1:Int)+1))) rfl ?_;refine Af ?_;refine nrm ?_;have e0:=Option.some.inj q5;subst e0;exact⟨Du,_,(by omega),⟨i1+1,(x5,x6,x7,x8,x9,x10,x11,x12),m1,rfl,hlt1,q4,Mem.tr L4 L3,S3,⟨congrArg (Value.int .i64) (A4 hlt1 (by decide)),trivial⟩⟩⟩
   have hlt1: ¬i1<8:=by have:=of_decide_eq_false hc1; omega
   have e:=Eq.symm (CX q3 hlt1);subst e;refine Cr ?_;refine thE ?_;refine thE ?_;refine exB ?_;refine nrm ?_;exact⟨Du,m1,Mem.tr L4 L3,S2,trivial⟩
  rintro f2 w4 ho ⟨m3,l1,S4,ha⟩;obtain⟨u2,rfl⟩:=Bj (N:=18) ho ha;clear ho ha;replace L1:=Mem.tr L1 l1;clear S1;have e0:=Option.some.inj q1;subst e0;exact⟨Du,m3,L1,S4,trivial⟩
 rintro f3 w5 ho ⟨m4,l2,S5,ha⟩;obtain⟨u3,rfl⟩:=Bj (N:=18) ho ha;replace L0:=Mem.tr L0 l2;clear S1;refine Ae ?_;refine Ac ?_;refine Li (k:=8) (n:=8) (sz:=1) (off:=0) rfl Tryz.underlying192 Tryz.sizeOf5 (.inl ⟨rfl,rfl⟩) (Nat.le_refl _) ?_;have S6:=St.bxRow (i:=0) (sz:=1) (n:=8) S5 rfl rfl (by decide);have h1:AX m4 [vB x1.1,vB x1.2.1,vB x1.2.2.1,vB x1.2.2.2.1,vB x1.2.2.2.2.1,vB x1.2.2.2.2.2.1,vB x1.2.2.2.2.2.2.1,vB x1.2.2.2.2.2.2.2] ([x1.1,x1.2.1,x1.2.2.1,x1.2.2.2.1,x1.2.2.2.2.1,x1.2.2.2.2.2.1,x1.2.2.2.2.2.2.1,x1.2.2.2.2.2.2.2]:List UInt8):=(AX.cons (c:=[vB x1.1]) rfl (AX.cons (c:=[vB x1.2.1]) rfl (AX.cons (c:=[vB x1.2.2.1]) rfl (AX.cons (c:=[vB x1.2.2.2.1]) rfl (AX.cons (c:=[vB x1.2.2.2.2.1]) rfl (AX.cons (c:=[vB x1.2.2.2.2.2.1]) rfl (AX.cons (c:=[vB x1.2.2.2.2.2.2.1]) rfl (AX.cons (c:=[vB x1.2.2.2.2.2.2.2]) rfl AX.nil))))))));replace S6:St _ ((row 1 (.slice (some ⟨b1,0,none⟩) 8 8) [vB x1.1,vB x1.2.1,vB x1.2.2.1,vB x1.2.2.2.1,vB x1.2.2.2.2.1,vB x1.2.2.2.2.2.1,vB x1.2.2.2.2.2.2.1,vB x1.2.2.2.2.2.2.2] ([x1.1,x1.2.1,x1.2.2.1,x1.2.2.2.1,x1.2.2.2.2.1,x1.2.2.2.2.2.1,x1.2.2.2.2.2.2.1,x1.2.2.2.2.2.2.2]:List UInt8).length)::As) _:=S6;clear S5;refine AQ (v:=(.slice (some ⟨b1,0,none⟩) 8 8)) rfl ?_;refine Af ?_;refine nrm ?_;refine Bf ?_;refine Dr ?_;intro we hpd;replace S6:=St.pd S6 hpd;have e0:=Option.some.inj hm;subst e0;exact Hu [_] rfl ⟨rfl,trivial⟩ ⟨_,L0,_,_,S6,rfl,h1⟩
theorem Kc {a0:UInt64}{r:List UInt8}(hm:D5 a0=some r):Sp prog 94 [.d (.u a0)] [] 0 (is (.ow 0) [.row 0 1 _ eB r] 1):=
 ⟨call94,fun η m As w vs hv0 hd S=>by
  have S:St m As w:=S;obtain⟨v0,u0,rfl,r0,hv1⟩:=BH.cons_inv hv0;obtain rfl:=r0.u_inv;obtain rfl:=BH.nil_inv hv1;refine AG.mono (Q6 S hm) ?_;rintro v w' ⟨M,hle,y0,c0,S0,rfl,h0⟩;exact⟨M,(Y8 [v]),_,_,_,hle,SE hd _,⟨rfl,rfl,rfl⟩,HR rfl,(.ow rfl (Dt S0)),(St.impL S0 (Zo (Br.toR Br.b rfl rfl (Dt S0) h0) fun _ h=>h))⟩⟩
def Ew (a0:UInt64)(a1:UInt64)(a2:List UInt8):Option UInt64:=Ad (D5 a0) fun x1=>Ad (D5 a1) fun x2=>Ad (CL (⟨#[115,105,103,110]⟩:ByteArray) ([x1,x2,a2]:List (List UInt8))) fun x3=>Ad (HW x3 1152921504606845789) fun x4=>some x4
theorem MO {a0:UInt64}{a1:UInt64}{a2:List UInt8}{r:UInt64}(hm:Ew a0 a1 a2=some r):Sf prog 95 [.d (.u a0),.d (.u a1),sl eB a2] (.d (.u r)):=
 sp call95 func95 rfl ntmps95 rfl fun D0 As η0 m0 hd=>by
  unfold Ew at hm;obtain⟨x1,q1,hm⟩:=Aa hm;refine gco (Kc q1) (by kernel_rfl) ?_;obtain⟨x2,q2,hm⟩:=Aa hm;refine gco (Kc q2) (by kernel_rfl) ?_;refine VE (k:=1) (eL eB) ([x1,x2,a2]:List (List UInt8)) (fun _=>rfl) (by kernel_rfl) ?_;obtain⟨x3,q3,hm⟩:=Aa hm;refine gc (fun _=>Gg q3) (by kernel_rfl) ?_;obtain⟨x4,q4,hm⟩:=Aa hm;refine gc (fun _=>OL q4) (by kernel_rfl) ?_;have e0:=Option.some.inj hm;subst e0;exact AL hd (by kernel_rfl)
def DY (a0:UInt64)(a1:UInt64)(a2:UInt64):Option UInt64:=if a0≠0 then if a0≠0 then Ad (E7 (HD (a1%a0) (a2%a0)) ((a1%a0)+(a2%a0)) a0) fun x1=>some x1 else none else none
theorem LR {a0:UInt64}{a1:UInt64}{a2:UInt64}{r:UInt64}(hm:DY a0 a1 a2=some r):Sf prog 142 [.d (.u a0),.d (.u a1),.d (.u a2)] (.d (.u r)):=
 sp call142 func142 rfl ntmps142 rfl fun D0 As η0 m0 hd=>by
  unfold DY at hm;obtain⟨q1,hm⟩:=CB hm;refine Abe (d:= .u a0) (r:= .u (a1%a0)) (fun h=>q1) (by kernel_rfl) ?_;obtain⟨q2,hm⟩:=CB hm;refine Abe (d:= .u a0) (r:= .u (a2%a0)) (fun h=>q2) (by kernel_rfl) ?_;refine Abj (p:=(a1%a0)) (q:=(a2%a0)) func180 (by kernel_rfl) (by kernel_rfl) (by kernel_rfl) (by kernel_rfl) (by kernel_rfl) ?_;obtain⟨x1,q3,hm⟩:=Aa hm;refine gc (fun _=>Mz q3) (by kernel_rfl) ?_;have e0:=Option.some.inj hm;subst e0;exact AL hd (by kernel_rfl)
def HO (a0:UInt64)(a1:UInt64):Option UInt64:=Ad (DY 1152921504606845789 a0 a1) fun x1=>some x1
theorem PD {a0:UInt64}{a1:UInt64}{r:UInt64}(hm:HO a0 a1=some r):Sf prog 96 [.d (.u a0),.d (.u a1)] (.d (.u r)):=
 sp call96 func96 rfl ntmps96 rfl fun D0 As η0 m0 hd=>by
  unfold HO at hm;obtain⟨x1,q1,hm⟩:=Aa hm;refine gc (fun _=>LR q1) (by kernel_rfl) ?_;have e0:=Option.some.inj hm;subst e0;exact AL hd (by kernel_rfl)
def HN (a0:UInt64)(a1:UInt64):Option UInt64:=Ad (BO 1152921504606845789 a0 a1) fun x1=>some x1
theorem PC {a0:UInt64}{a1:UInt64}{r:UInt64}(hm:HN a0 a1=some r):Sf prog 97 [.d (.u a0),.d (.u a1)] (.d (.u r)):=
 sp call97 func97 rfl ntmps97 rfl fun D0 As η0 m0 hd=>by
  unfold HN at hm;obtain⟨x1,q1,hm⟩:=Aa hm;refine gc (fun _=>LX q1) (by kernel_rfl) ?_;have e0:=Option.some.inj hm;subst e0;exact AL hd (by kernel_rfl)
def FM (a0:UInt64)(a1:List UInt8):Option (g_api_Sig×Int):=Ad (Fg a0) fun x1=>if(x1.2 !=0)=true then some ((⟨0,0⟩:g_api_Sig),x1.2)else Ad (D5 a0) fun x2=>Ad (G6 (⟨#[110,111,110,99,101]⟩:ByteArray) ([x2,a1]:List (List UInt8))) fun x3=>Ad (Fp x3) fun x4=>Ad (Ew x4 x1.1 a1) fun x5=>Ad (HN x5 a0) fun x6=>Ad (HO x6 x3) fun x7=>some ((⟨x5,x7⟩:g_api_Sig),0)
theorem KK {a0:UInt64}{a1:List UInt8}{r:g_api_Sig×Int}(hm:FM a0 a1=some r):Sf prog 60 [.d (.u a0),sl eB a1] (.tup [ag (LB r.1),.d (.i r.2)]):=
 sp call60 func60 rfl ntmps60 rfl fun D0 As η0 m0 hd=>by
  unfold FM at hm;obtain⟨x1,q1,hm⟩:=Aa hm;refine gc (fun _=>K9 q1) (by kernel_rfl) ?_;refine gi hm (by kernel_rfl) (fun hc1 hm=> ?_) fun hc1 hm=> ?_
  ·skip;have e0:=Option.some.inj hm;subst e0;exact AL hd (by kernel_rfl)
  obtain⟨x2,q2,hm⟩:=Aa hm;refine gco (Kc q2) (by kernel_rfl) ?_;refine VE (k:=1) (eL eB) ([x2,a1]:List (List UInt8)) (fun _=>rfl) (by kernel_rfl) ?_;obtain⟨x3,q3,hm⟩:=Aa hm;refine gc (fun _=>Nq q3) (by kernel_rfl) ?_;obtain⟨x4,q4,hm⟩:=Aa hm;refine gc (fun _=>Lf q4) (by kernel_rfl) ?_;obtain⟨x5,q5,hm⟩:=Aa hm;refine gc (fun _=>MO q5) (by kernel_rfl) ?_;obtain⟨x6,q6,hm⟩:=Aa hm;refine gc (fun _=>PC q6) (by kernel_rfl) ?_;obtain⟨x7,q7,hm⟩:=Aa hm;refine gc (fun _=>PD q7) (by kernel_rfl) ?_;have e0:=Option.some.inj hm;subst e0;exact AL hd (by kernel_rfl)
def HQ (a0:List UInt8)(a1:List UInt8):Option Bool:=some (eqS (bs a0) (bs a1))
theorem PJ {a0:List UInt8}{a1:List UInt8}{r:Bool}(hm:HQ a0 a1=some r):Sf prog 81 [sl eB a0,sl eB a1] (.d (.t r)):=
 sp call81 func81 rfl ntmps81 rfl fun D0 As η0 m0 hd=>by
  unfold HQ at hm;refine gbs (xs:=a0) (by kernel_rfl) ?_;refine gbs (xs:=a1) (by kernel_rfl) ?_;have e0:=Option.some.inj hm;subst e0;exact AL hd (by kernel_rfl)
def IJ (a0:g_api_Leaf)(k0:List UInt8):Option (Bool×(List UInt8)):=Ad (HQ a0.Body k0) fun x1=>some (x1,k0)
theorem Ra {a0:g_api_Leaf}{k0:List UInt8}{r:Bool×(List UInt8)}(hm:IJ a0 k0=some r):Sp prog 80 [ag (Aj a0),.pb 0 0] [.box 0 [sl eB k0] 75] 1 (is (.d (.t r.1)) [.box 0 [.d (.sl _ eB r.2)] 75] 1):=
 sp call80 func80 rfl ntmps80 rfl fun D0 As η0 m0 hd=>by
  unfold IJ at hm;obtain⟨x1,q1,hm⟩:=Aa hm;refine gc (fun _=>PJ q1) (by kernel_rfl) ?_;have e0:=Option.some.inj hm;subst e0;exact AL hd (by kernel_rfl)
def By (a0:List g_api_Leaf):Option (List g_api_Leaf):=Ad (app 32 ([]:List g_api_Leaf) a0) fun x1=>some x1
theorem GO {m:Mem}{As:List Ow}{w:World}{a0:List g_api_Leaf}{a0v0:Value}{r:List g_api_Leaf}(S:St m (As) w)(a0h0:SlR m a0v0 a0)(hm:By a0=some r):
  AG Tryz.prog 82 #[a0v0] w fun v w'=> ∃(M:Mem),m≤M∧∃(rv0:Value) (rc0:List Value),St M ((row 2 rv0 rc0 r.length)::As) w'∧v=rv0∧AX M rc0 r:=by
 unfold By at hm;have L0:=Mem.rfl' m;refine CF (args:=[a0v0]) Tryz.func82 rfl Tryz.ntmps82 (Nat.le_of_ble_eq_true rfl) ?_;refine Ae ?_;refine Ac ?_;refine AQ (v:= .slice none 0 0) rfl ?_;refine Af ?_;refine nrm ?_;refine Ae ?_;refine Ae ?_;refine Ac ?_;refine Ar (v:=a0v0) rfl ?_;refine Lj rfl rfl a0h0 Tryz.underlying23 ?_;refine Af ?_;refine nrm ?_;refine BQ (t:=(KG a0v0)) rfl (fun hc1=> ?_) (fun hc1=> ?_)
 ·have he1:a0=[]:=SlR.nilOf a0h0 hc1;rw[he1]at hm;replace hm:(some ([]:List g_api_Leaf))=some _:=hm;refine Ae ?_;refine Ac ?_;refine AQ (v:= .slice none 0 0) rfl ?_;refine Af ?_;refine nrm ?_;refine Bf ?_;refine thR ?_;refine Dr ?_;intro we hpd;replace S:=St.pd S hpd;have S1:=St.rowNil S 2;have h1:AX m [] ([]:List g_api_Leaf):=AX.nil;replace S1:St _ ((row 2 (.slice none 0 0) [] ([]:List g_api_Leaf).length)::As) _:=S1;clear S;have e0:=Option.some.inj hm;subst e0;exact Hu [_] rfl ⟨rfl,trivial⟩ ⟨_,L0,_,_,S1,rfl,h1⟩
 refine AT ?_;refine nrm ?_;refine Ae ?_;refine Ac ?_;refine Ke (parts:=[]) (vs:=[]) (cls:=[]) (n:=0) (sz:=2) S Tryz.underlying23 Tryz.sizeOf79 Tryz.zeroValue79 rfl trivial rfl rfl (by decide) (by decide) ?_;intro v1 w1 S2;have h2:AX m [] ([]:List g_api_Leaf):=AX.nil;replace S2:St _ ((row 2 v1 [] ([]:List g_api_Leaf).length)::As) _:=S2;clear S;refine Ar (v:=a0v0) rfl ?_;obtain⟨x1,q1,hm⟩:=Aa hm;refine Ot (i:=0) (zs:=x1) (bytes:=32) (ti:=Tryz.t79) S2 rfl rfl h2 rfl rfl a0h0 q1 Tryz.underlying23 Tryz.type79 rfl rfl rfl rfl ?_;intro v2 c1 w2 S3 h3;replace S3:St _ ((row 2 v2 c1 x1.length)::As) _:=S3;clear S2;refine AQ (v:=v2) rfl ?_;refine Af ?_;refine nrm ?_;refine Bf ?_;refine Dr ?_;intro we hpd;replace S3:=St.pd S3 hpd;have e0:=Option.some.inj hm;subst e0;exact Hu [_] rfl ⟨rfl,trivial⟩ ⟨_,L0,_,_,S3,rfl,h3⟩
theorem GX {a0:List g_api_Leaf}{r:List g_api_Leaf}(hm:By a0=some r):Sp prog 82 [sl Aj a0] [] 0 (is (.ow 0) [.row 0 2 _ Aj r] 1):=
 ⟨call82,fun η m As w vs hv0 hd S=>by
  have S:St m As w:=S;obtain⟨v0,u0,rfl,r0,hv1⟩:=BH.cons_inv hv0;have f0:=Br.ofS H0 r0.dd;obtain rfl:=BH.nil_inv hv1;refine AG.mono (GO S f0 hm) ?_;rintro v w' ⟨M,hle,y0,c0,S0,rfl,h0⟩;exact⟨M,(Y8 [v]),_,_,_,hle,SE hd _,⟨rfl,rfl,rfl⟩,HR rfl,(.ow rfl (Dt S0)),(St.impL S0 (Zo (Br.toR H0 rfl rfl (Dt S0) h0) fun _ h=>h))⟩⟩
def GG (a0:List UInt8):Option (List UInt8):=Ad (app 1 ([]:List UInt8) a0) fun x1=>some x1
theorem PK {m:Mem}{As:List Ow}{w:World}{a0:List UInt8}{a0v0:Value}{r:List UInt8}(S:St m (As) w)(a0h0:SlR m a0v0 a0)(hm:GG a0=some r):
  AG Tryz.prog 83 #[a0v0] w fun v w'=> ∃(M:Mem),m≤M∧∃(rv0:Value) (rc0:List Value),St M ((row 1 rv0 rc0 r.length)::As) w'∧v=rv0∧AX M rc0 r:=by
 unfold GG at hm;have L0:=Mem.rfl' m;refine CF (args:=[a0v0]) Tryz.func83 rfl Tryz.ntmps83 (Nat.le_of_ble_eq_true rfl) ?_;refine Ae ?_;refine Ac ?_;refine AQ (v:= .slice none 0 0) rfl ?_;refine Af ?_;refine nrm ?_;refine Ae ?_;refine Ae ?_;refine Ac ?_;refine Ar (v:=a0v0) rfl ?_;refine Lj rfl rfl a0h0 Tryz.underlying75 ?_;refine Af ?_;refine nrm ?_;refine BQ (t:=(KG a0v0)) rfl (fun hc1=> ?_) (fun hc1=> ?_)
 ·have he1:a0=[]:=SlR.nilOf a0h0 hc1;rw[he1]at hm;replace hm:(some ([]:List UInt8))=some _:=hm;refine Ae ?_;refine Ac ?_;refine AQ (v:= .slice none 0 0) rfl ?_;refine Af ?_;refine nrm ?_;refine Bf ?_;refine thR ?_;refine Dr ?_;intro we hpd;replace S:=St.pd S hpd;have S1:=St.rowNil S 1;have h1:AX m [] ([]:List UInt8):=AX.nil;replace S1:St _ ((row 1 (.slice none 0 0) [] ([]:List UInt8).length)::As) _:=S1;clear S;have e0:=Option.some.inj hm;subst e0;exact Hu [_] rfl ⟨rfl,trivial⟩ ⟨_,L0,_,_,S1,rfl,h1⟩
 refine AT ?_;refine nrm ?_;refine Ae ?_;refine Ac ?_;refine Ke (parts:=[]) (vs:=[]) (cls:=[]) (n:=0) (sz:=1) S Tryz.underlying75 Tryz.sizeOf5 Tryz.zeroValue5 rfl trivial rfl rfl (by decide) (by decide) ?_;intro v1 w1 S2;have h2:AX m [] ([]:List UInt8):=AX.nil;replace S2:St _ ((row 1 v1 [] ([]:List UInt8).length)::As) _:=S2;clear S;refine Ar (v:=a0v0) rfl ?_;obtain⟨x1,q1,hm⟩:=Aa hm;refine Ot (i:=0) (zs:=x1) (bytes:=1) (ti:=Tryz.t5) S2 rfl rfl h2 rfl rfl a0h0 q1 Tryz.underlying75 Tryz.type5 rfl rfl rfl rfl ?_;intro v2 c1 w2 S3 h3;replace S3:St _ ((row 1 v2 c1 x1.length)::As) _:=S3;clear S2;refine AQ (v:=v2) rfl ?_;refine Af ?_;refine nrm ?_;refine Bf ?_;refine Dr ?_;intro we hpd;replace S3:=St.pd S3 hpd;have e0:=Option.some.inj hm;subst e0;exact Hu [_] rfl ⟨rfl,trivial⟩ ⟨_,L0,_,_,S3,rfl,h3⟩
theorem P4 {a0:List UInt8}{r:List UInt8}(hm:GG a0=some r):Sp prog 83 [sl eB a0] [] 0 (is (.ow 0) [.row 0 1 _ eB r] 1):=
 ⟨call83,fun η m As w vs hv0 hd S=>by
  have S:St m As w:=S;obtain⟨v0,u0,rfl,r0,hv1⟩:=BH.cons_inv hv0;have f0:=Br.ofS Br.b r0.dd;obtain rfl:=BH.nil_inv hv1;refine AG.mono (PK S f0 hm) ?_;rintro v w' ⟨M,hle,y0,c0,S0,rfl,h0⟩;exact⟨M,(Y8 [v]),_,_,_,hle,SE hd _,⟨rfl,rfl,rfl⟩,HR rfl,(.ow rfl (Dt S0)),(St.impL S0 (Zo (Br.toR Br.b rfl rfl (Dt S0) h0) fun _ h=>h))⟩⟩
end Go.Proofs.YtibojdgdjhngiaaGreatDoor
