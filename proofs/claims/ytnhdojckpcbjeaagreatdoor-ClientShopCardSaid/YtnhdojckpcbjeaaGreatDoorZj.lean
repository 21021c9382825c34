/- The walks of some functions, by the executor, written by program. Conditions: none. -/
import Derived.Test.YtnhdojckpcbjeaaGreatDoorZh
import Derived.Test.YtnhdojckpcbjeaaGreatDoorZi
set_option linter.unusedSimpArgs false
set_option linter.unusedVariables false
set_option maxHeartbeats 20000000
set_option maxRecDepth 100000
namespace Go.Proofs.YtnhdojckpcbjeaaGreatDoor
open Go Go.Gw Go.Ax Tryz
attribute [local irreducible] Go.Ax.Go
def GV (i1:Int)(s1:UInt64×UInt64×UInt64×Int×UInt64):Option (UInt64×UInt64×UInt64×Int×UInt64):=Ab (idx [s1.1,s1.2.1,s1.2.2.1] (i1:Int)) fun x3=>Ab (Ky (i1:Int) x3 s1.2.2.2.1 s1.2.2.2.2) fun x4=>Ab (idx [s1.1,s1.2.1,s1.2.2.1] (i1:Int)) fun x5=>bnd (if(i1:Int)=0 then x4.1 else s1.1) fun x6=>bnd (if(i1:Int)=1 then x4.1 else s1.2.1) fun x7=>bnd (if(i1:Int)=2 then x4.1 else s1.2.2.1) fun x8=>some (x6,x7,x8,x4.2.1,x4.2.2)
def DO (a0:UInt64×UInt64×UInt64)(k0:Int)(k1:UInt64):Option ((UInt64×UInt64×UInt64)×Int×UInt64):=Ab (CX GV 3 0 (a0.1,a0.2.1,a0.2.2,k0,k1)) fun x1=>some ((x1.1,x1.2.1,x1.2.2.1),x1.2.2.2.1,x1.2.2.2.2)
theorem Mf {a0 k0 k1 r}(hm:DO a0 k0 k1=some r):Sp prog 355 [.pb 0 0,.fn (.func 356) [] [.pb 1 0,.pb 2 0]] [.box 0 [.d (.u a0.1),.d (.u a0.2.1),.d (.u a0.2.2)] 365,.box 1 [.d (.i k0)] 3,.box 2 [.d (.u k1)] 32] 3 (is (.tup []) [.box 0 [.d (.u r.1.1),.d (.u r.1.2.1),.d (.u r.1.2.2)] 365,.box 1 [.d (.i r.2.1)] 3,.box 2 [.d (.u r.2.2)] 32] 3):=by
 refine sq ?_;intros;refine oB hm fun _ q1 hm=>gF (EM _ 3 _) q1 (fun p0 (p_0,p_1,p_2,p_3,p_4)=>⟨[(0,.pb 0 0),(1,.fn (.func 356) [] [.pb 1 0,.pb 2 0]),(6,.pb 0 0),(7,.d (.i p0))],[(0,.box 0 [.d (.u p_0),.d (.u p_1),.d (.u p_2)] 365),(1,.box 1 [.d (.i p_3)] 3),(2,.box 2 [.d (.u p_4)] 32)],[],3⟩) fun i1 s1 Jl bl1=>cM bl1 (3:Int) (fun _ q4 bl1=> ?_) fun e=> ?_
 ·refine oB q4 fun _ q6 q4=>Vj (fun _=>q6)<|gldA D.u (fun _=>q6)<|gD q4 VU fun x4 q7 q4=>oB q4 fun _ q8 q4=>Vj (fun _=>q8)<|bE q4 ?_;intro _ q4;refine bE q4 ?_;intro _ q4;refine bE q4 ?_;intro _ q4;exact gstA D.u x4.1 q8<|gM bl1 lk q4
 subst e;exact AlC hm▸gE
def GU (i1:Int)(s1:UInt64×UInt64×UInt64×UInt64):Option (UInt64×UInt64×UInt64×UInt64):=Ab (idx [s1.1,s1.2.1,s1.2.2.1] (i1:Int)) fun x3=>Ab (Kx (i1:Int) x3 s1.2.2.2) fun x4=>Ab (idx [s1.1,s1.2.1,s1.2.2.1] (i1:Int)) fun x5=>bnd (if(i1:Int)=0 then x4.1 else s1.1) fun x6=>bnd (if(i1:Int)=1 then x4.1 else s1.2.1) fun x7=>bnd (if(i1:Int)=2 then x4.1 else s1.2.2.1) fun x8=>some (x6,x7,x8,x4.2)
def DN (a0:UInt64×UInt64×UInt64)(k0:UInt64):Option ((UInt64×UInt64×UInt64)×UInt64):=Ab (CX GU 3 0 (a0.1,a0.2.1,a0.2.2,k0)) fun x1=>some ((x1.1,x1.2.1,x1.2.2.1),x1.2.2.2)
theorem Me {a0 k0 r}(hm:DN a0 k0=some r):Sp prog 355 [.pb 0 0,.fn (.func 358) [] [.pb 1 0]] [.box 0 [.d (.u a0.1),.d (.u a0.2.1),.d (.u a0.2.2)] 365,.box 1 [.d (.u k0)] 32] 2 (is (.tup []) [.box 0 [.d (.u r.1.1),.d (.u r.1.2.1),.d (.u r.1.2.2)] 365,.box 1 [.d (.u r.2)] 32] 2):=by
 refine sq ?_;intros;refine oB hm fun _ q1 hm=>gF (EM _ 3 _) q1 (fun p0 (p_0,p_1,p_2,p_3)=>⟨[(0,.pb 0 0),(1,.fn (.func 358) [] [.pb 1 0]),(6,.pb 0 0),(7,.d (.i p0))],[(0,.box 0 [.d (.u p_0),.d (.u p_1),.d (.u p_2)] 365),(1,.box 1 [.d (.u p_3)] 32)],[],2⟩) fun i1 s1 Jl bl1=>cM bl1 (3:Int) (fun _ q4 bl1=> ?_) fun e=> ?_
 ·refine oB q4 fun _ q6 q4=>Vj (fun _=>q6)<|gldA D.u (fun _=>q6)<|gD q4 VT fun x4 q7 q4=>oB q4 fun _ q8 q4=>Vj (fun _=>q8)<|bE q4 ?_;intro _ q4;refine bE q4 ?_;intro _ q4;refine bE q4 ?_;intro _ q4;exact gstA D.u x4.1 q8<|gM bl1 lk q4
 subst e;exact AlC hm▸gE
def LN (i1:Int)(s1:UInt64×UInt64×UInt64):Option (UInt64×UInt64×UInt64):=Ab (DO s1 (i1:Int) 0) fun x4=>Ab (DN x4.1 x4.2.2) fun x5=>some (x5.1.1,x5.1.2.1,x5.1.2.2)
def Lj (a0:UInt64×UInt64×UInt64):Option (UInt64×UInt64×UInt64):=Ab (Ab (CX LN 8 0 (a0.1,a0.2.1,a0.2.2)) fun x2=>some (x2.1,x2.2.1,x2.2.2)) fun x1=>some x1
theorem Aad {a0 r}(hm:Lj a0=some r):Sf prog 303 [ag (Ad7 a0)] (ag (Ad7 r)):=by
 refine sq ?_;intros;unfold Lj at hm;obtain⟨x1,q1,hm⟩:=Ae hm;refine oB q1 fun _ q2 q1=>gF (EM _ 8 _) q2 (fun p0 (p_0,p_1,p_2)=>⟨[(2,.pb 1 0),(3,.pb 2 0),(7,.d (.i p0)),(1,.pb 0 0)],[(0,.box 2 [.d (.u p_0),.d (.u p_1),.d (.u p_2)] 365),(1,.box 1 [.d (.u 0),.d (.u 0),.d (.u 0)] 319),(2,.box 0 [.d (.u a0.1),.d (.u a0.2.1),.d (.u a0.2.2)] 319)],[],3⟩) fun i1 s1 Jl bl1=>cM bl1 (8:Int) (fun _ q5 bl1=> ?_) fun e=> ?_
 ·exact gD q5 Mf fun _ q7 q5=>gD q5 Me fun _ q8 q5=>gM bl1 lk q5
 subst e;obtain rfl:=AlC q1;exact AlC hm▸gE
def HT (x6:List UInt64)(i2:Int)(s2:UInt64×UInt64×UInt64):Option (UInt64×UInt64×UInt64):=Ab (idx x6 (i2:Int)) fun x9=>Ab (idx [s2.1,s2.2.1,s2.2.2] (i2:Int)) fun x10=>Ab (Hk x10 x9) fun x11=>Ab (idx [s2.1,s2.2.1,s2.2.2] (i2:Int)) fun x12=>bnd (if(i2:Int)=0 then x11 else s2.1) fun x13=>bnd (if(i2:Int)=1 then x11 else s2.2.1) fun x14=>bnd (if(i2:Int)=2 then x11 else s2.2.2) fun x15=>some (x13,x14,x15)
def C7 (s1:(List UInt64)×Bool×UInt64×UInt64×UInt64):Option (((List UInt64)×Bool×UInt64×UInt64×UInt64)⊕(UInt64×UInt64×UInt64)):=if(s1.2.1||(decide ((s1.1.length:Int)>0)))=true then Ab (Ab (cut s1.1 0 (X7 2 (s1.1.length:Int))) fun x6=>Ab (CX (HT x6) x6.length 0 (s1.2.2.1,s1.2.2.2.1,s1.2.2.2.2)) fun x7=>some (x7.1,x7.2.1,x7.2.2)) fun x5=>Ab (cut s1.1 (X7 2 (s1.1.length:Int)) (s1.1.length:Int)) fun x16=>Ab (Lj x5) fun x17=>some (.inl (x16,false,x17.1,x17.2.1,x17.2.2))else some (.inr (s1.2.2.1,s1.2.2.2.1,s1.2.2.2.2))
def Nu (a0:List UInt8):Option (UInt64×UInt64):=Ab (Lk a0) fun x1=>Ab (Ab (iter C7 Fx (x1,true,0,0,(toU (a0.length:Int)))) fun x3=>some (x3.1,x3.2.1,x3.2.2)) fun x2=>some (x2.1,x2.2.1)
theorem Aac {a0 r}(hm:Nu a0=some r):Sf prog 242 [sl eB a0] (ag (Ar r)):=by
 refine sq ?_;intros;refine gD hm Aae fun _ q1 hm=> ?_;obtain⟨x2,q2,hm⟩:=Ae hm;refine oB q2 fun x3 q3 q2=>gI q3 (fun(p_0,p_1,p_2,p_3,p_4)=>⟨[(2,.pb 0 0),(3,.pb 1 0),(4,sl eU p_0),(5,.d (.t p_1))],[(0,.box 1 [.d (.u p_2),.d (.u p_3),.d (.u p_4)] 319),(1,.box 0 [.d (.u 0),.d (.u 0)] 34)],[],2⟩) fun s1 _ Jl q6 bl1=>gi q6 ?_ ?_<;>intro _ q6
 ·obtain⟨x5,q8,q6⟩:=Ae q6;refine oB q8 fun x6 q9 q8=>gk eU 1 q9<|oB q8 fun _ q10 q8=>IU 2 (E:=eU) (xs:=x6) 26 fun hle2=>gF (EM _ _ _) q10 (fun p0 (p_0,p_1,p_2)=>⟨[(2,.pb 0 0),(3,.pb 1 0),(4,sl eU s1.1),(6,.d (.i (X7 2 (s1.1.length:Int)))),(26,sl eU x6),(27,.d (.i (x6.length:Int))),(28,.d (.i p0))],[(0,.box 1 [.d (.u p_0),.d (.u p_1),.d (.u p_2)] 319),(1,.box 0 [.d (.u 0),.d (.u 0)] 34)],[],2⟩) fun i2 s2 Jl bl2=>cM bl2 (x6.length:Int) (fun _ q13 bl2=> ?_) fun e=> ?_
  ·refine oB q13 fun _ q15 q13=>gx eU 1 q15<|oB q13 fun _ q16 q13=>Vj (fun _=>q16)<|gldA D.u (fun _=>q16)<|gA q13 Ly fun x11 q17 q13=>oB q13 fun _ q18 q13=>Vj (fun _=>q18)<|bE q13 ?_;intro _ q13;refine bE q13 ?_;intro _ q13;refine bE q13 ?_;intro _ q13;exact gstA D.u x11 q18<|gM bl2 hle2 q13
  subst e;obtain rfl:=AlC q8;exact oB q6 fun _ q22 q6=>gk eU 1 q22<|gA q6 Aad fun _ q23 q6=>gN bl1 q6
 obtain rfl:=nR bl1 q6;let x3:=(s1.2.2.1,s1.2.2.2.1,s1.2.2.2.2);obtain rfl:=AlC q2;exact AlC hm▸gE
def I3 (i1:Int)(x4:List UInt8)(s1:(List UInt8)):Option ((List UInt8)):=Ab (Gv s1 (toU (x4.length:Int)) 4) fun x5=>Ab (app 1 x5 x4) fun x6=>some x6
def Cc (a0:ByteArray)(a1:List (List UInt8)):Option (UInt64×UInt64):=Ab (app 1 ([(toB (a0.size:Int))]:List UInt8) a0.data.toList) fun x1=>Ab (Ab (DP I3 a1 0 x1) fun x3=>some x3) fun x2=>Ab (Nu x2) fun x7=>some x7
theorem EP {a0 a1 r}(hm:Cc a0 a1=some r):Sf prog 153 [.d (.s a0),sl (eL eB) a1] (ag (Ar r)):=by
 refine sq ?_;intros;refine AaP (k:=1) eB ([(toB (a0.size:Int))]:List UInt8) (fun _=>rfl)<|oB hm fun _ q1 hm=>gapS q1 ?_;obtain⟨x2,q2,hm⟩:=Ae hm;refine oB q2 fun _ q3 q2=>IU 0 (E:=(eL eB)) (xs:=a1) 14 fun hle1=>gF (E0 _ _ _) q3 (fun p0 p=>⟨[(4,.pb 0 0),(5,.ow 1),(14,sl (eL eB) a1),(15,.d (.i (a1.length:Int))),(16,.d (.i p0))],[(0,.row 1 1 _ eB p),(1,.box 0 [.d (.u 0),.d (.u 0)] 34)],[],2⟩) fun i1 s1 Jl bl1=>c0 bl1 (fun _ _ q7 q6 bl1=> ?_) fun e=> ?_
 ·exact gx (eL eB) 1 q7<|gD q6 Tl fun _ q8 q6=>oB q6 fun _ q9 q6=>gp eB 1 q9<|gM bl1 hle1 q6
 subst e;obtain rfl:=AlC q2;refine gD hm Aac fun _ q10 hm=> ?_;exact AlC hm▸gE
def JQ (a0:UInt64)(i1:Int)(s1:UInt8×UInt8×UInt8×UInt8×UInt8×UInt8×UInt8×UInt8):Option (UInt8×UInt8×UInt8×UInt8×UInt8×UInt8×UInt8×UInt8):=if(0:Int)≤(w64 (8*(i1:Int)))then Ab (idx [s1.1,s1.2.1,s1.2.2.1,s1.2.2.2.1,s1.2.2.2.2.1,s1.2.2.2.2.2.1,s1.2.2.2.2.2.2.1,s1.2.2.2.2.2.2.2] (w64 (7-(i1:Int)))) fun x4=>bnd (if(w64 (7-(i1:Int)))=0 then(toB ((Ev a0 ((w64 (8*(i1:Int))).toNat)).toNat:Int))else s1.1) fun x5=>bnd (if(w64 (7-(i1:Int)))=1 then(toB ((Ev a0 ((w64 (8*(i1:Int))).toNat)).toNat:Int))else s1.2.1) fun x6=>bnd (if(w64 (7-(i1:Int)))=2 then(toB ((Ev a0 ((w64 (8*(i1:Int))).toNat)).toNat:Int))else s1.2.2.1) fun x7=>bnd (if(w64 (7-(i1:Int)))=3 then(toB ((Ev a0 ((w64 (8*(i1:Int))).toNat)).toNat:Int))else s1.2.2.2.1) fun x8=>bnd (if(w64 (7-(i1:Int)))=4 then(toB ((Ev a0 ((w64 (8*(i1:Int))).toNat)).toNat:Int))else s1.2.2.2.2.1) fun x9=>bnd (if(w64 (7-(i1:Int)))=5 then(toB ((Ev a0 ((w64 (8*(i1:Int))).toNat)).toNat:Int))else s1.2.2.2.2.2.1) fun x10=>bnd (if(w64 (7-(i1:Int)))=6 then(toB ((Ev a0 ((w64 (8*(i1:Int))).toNat)).toNat:Int))else s1.2.2.2.2.2.2.1) fun x11=>bnd (if(w64 (7-(i1:Int)))=7 then(toB ((Ev a0 ((w64 (8*(i1:Int))).toNat)).toNat:Int))else s1.2.2.2.2.2.2.2) fun x12=>some (x5,x6,x7,x8,x9,x10,x11,x12)else none
def FX (a0:UInt64):Option (List UInt8):=Ab (Ab (CX (JQ a0) 8 0 (0,0,0,0,0,0,0,0)) fun x2=>some (x2.1,x2.2.1,x2.2.2.1,x2.2.2.2.1,x2.2.2.2.2.1,x2.2.2.2.2.2.1,x2.2.2.2.2.2.2.1,x2.2.2.2.2.2.2.2)) fun x1=>some ([x1.1,x1.2.1,x1.2.2.1,x1.2.2.2.1,x1.2.2.2.2.1,x1.2.2.2.2.2.1,x1.2.2.2.2.2.2.1,x1.2.2.2.2.2.2.2]:List UInt8)
theorem Mk {a0 r}(hm:FX a0=some r):Sp prog 184 [.d (.u a0)] [] 0 (is (.ow 0) [.row 0 1 _ eB r] 1):=by
 refine sq ?_;intros;unfold FX at hm;obtain⟨x1,q1,hm⟩:=Ae hm;refine oB q1 fun x2 q2 q1=>gF (EM _ 8 _) q2 (fun p0 (p_0,p_1,p_2,p_3,p_4,p_5,p_6,p_7)=>⟨[(0,.d (.u a0)),(3,.pb 0 0),(5,.d (.i p0))],[(0,.box 0 [.d (.b p_0),.d (.b p_1),.d (.b p_2),.d (.b p_3),.d (.b p_4),.d (.b p_5),.d (.b p_6),.d (.b p_7)] 300)],[],1⟩) fun i1 s1 Jl bl1=>cM bl1 (8:Int) (fun _ q5 bl1=> ?_) fun e=> ?_
 ·unfold JQ at q5;obtain⟨q7,q5⟩:=BI q5;refine gsh (r:= .u (Ev a0 ((w64 (8*(i1:Int))).toNat))) (fun h=>q7)<|oB q5 fun _ q8 q5=>Vj (fun _=>q8)<|bE q5 ?_;intro _ q5;refine bE q5 ?_;intro _ q5;refine bE q5 ?_;intro _ q5;refine bE q5 ?_;intro _ q5;refine bE q5 ?_;intro _ q5;refine bE q5 ?_;intro _ q5;refine bE q5 ?_;intro _ q5;refine bE q5 ?_;intro _ q5;exact gstA D.b (toB ((Ev a0 ((w64 (8*(i1:Int))).toNat)).toNat:Int)) q8<|gM bl1 lk q5
 subst e;obtain rfl:=AlC q1;let x1:=(x2.1,x2.2.1,x2.2.2.1,x2.2.2.2.1,x2.2.2.2.2.1,x2.2.2.2.2.2.1,x2.2.2.2.2.2.2.1,x2.2.2.2.2.2.2.2);refine gslA (k:=1) eB ([x1.1,x1.2.1,x1.2.2.1,x1.2.2.2.1,x1.2.2.2.2.1,x1.2.2.2.2.2.1,x1.2.2.2.2.2.2.1,x1.2.2.2.2.2.2.2]:List UInt8) (fun _=>rfl) ?_;exact AlC hm▸gE
def Gx (a0:UInt64×UInt64)(a1:UInt64):Option UInt64:=if((a1.toNat:Int)==0)=true then some 0 else Ab (IQ a0.1 2305843009213693952) fun x1=>if a1≠0 then Ab (IS ((x1.1+(J5 x1.2 a0.2))%a1) (x1.2+a0.2) a1) fun x2=>some x2.2 else none
theorem No {a0 a1 r}(hm:Gx a0 a1=some r):Sf prog 249 [ag (Ar a0),.d (.u a1)] (.d (.u r)):=by
 refine sq ?_;intros;refine gi hm ?_ ?_<;>intro _ hm
 ·exact AlC hm▸gE
 refine gA hm Mz fun x1 q1 hm=>Ail (p:=x1.2) (q:=a0.2) func305 ?_;obtain⟨q2,hm⟩:=BI hm;refine Ae0 (d:= .u a1) (r:= .u ((x1.1+(J5 x1.2 a0.2))%a1)) (fun h=>q2)<|gA hm P3 fun _ q3 hm=> ?_;exact AlC hm▸gE
def Dg (a0:UInt64)(a1:UInt64)(a2:List UInt8):Option UInt64:=Ab (FX a0) fun x1=>Ab (FX a1) fun x2=>Ab (Cc (⟨#[115,105,103,110]⟩:ByteArray) ([x1,x2,a2]:List (List UInt8))) fun x3=>Ab (Gx x3 1152921504606845789) fun x4=>some x4
theorem L4 {a0 a1 a2 r}(hm:Dg a0 a1 a2=some r):Sf prog 185 [.d (.u a0),.d (.u a1),sl eB a2] (.d (.u r)):=by
 refine sq ?_;intros;refine gD hm Mk fun x1 q1 hm=>gD hm Mk fun x2 q2 hm=>AaO (k:=1) (eL eB) ([x1,x2,a2]:List (List UInt8)) (fun _=>rfl)<|gA hm EP fun _ q3 hm=>gA hm No fun _ q4 hm=> ?_;exact AlC hm▸gE
def CF (s1:UInt64×UInt64×Int×Int):Option ((UInt64×UInt64×Int×Int)⊕(Int)):=if((s1.2.1.toNat:Int) !=0)=true then if s1.2.1≠0 then bnd ((s1.1-((s1.1/s1.2.1)*s1.2.1))) fun x4=>bnd ((w64 (s1.2.2.1-(w64 ((w64 ((s1.1/s1.2.1).toNat:Int))*s1.2.2.2))))) fun x5=>some (.inl (s1.2.1,x4,s1.2.2.2,x5))else none else some (.inr s1.2.2.1)
def D9 (a0:UInt64)(a1:UInt64):Option (UInt64×Int):=if a0≠0 then if(((a1%a0).toNat:Int)==0)=true then some (0,10)else Ab (Ab (iter CF Fx ((a1%a0),a0,1,0)) fun x2=>some x2) fun x1=>Ab (if(decide (x1<0))=true then bnd ((w64 (x1+(w64 (a0.toNat:Int))))) fun x7=>some x7 else some x1) fun x6=>some ((toU x6),0)else none
theorem Mp {a0 a1 r}(hm:D9 a0 a1=some r):Sf prog 350 [.d (.u a0),.d (.u a1)] (.tup [.d (.u r.1),.d (.i r.2)]):=by
 refine sq fun D0 As η0 m0 hd=> ?_;unfold D9 at hm;obtain⟨q1,hm⟩:=BI hm;refine Ae0 (d:= .u a0) (r:= .u (a1%a0)) (fun h=>q1)<|gi hm ?_ ?_<;>intro _ hm
 ·exact AlC hm▸gE
 obtain⟨x1,q2,hm⟩:=Ae hm;refine oB q2 fun x2 q3 q2=>gI q3 (fun(p_0,p_1,p_2,p_3)=>⟨[(0,.d (.u a0)),(6,.d (.u p_0)),(7,.d (.u p_1)),(8,.d (.i p_2)),(9,.d (.i p_3))],[],[],0⟩) fun s1 _ Jl q6 bl1=>gi q6 ?_ ?_<;>intro _ q6
 ·obtain⟨q8,q6⟩:=BI q6;refine Ae0 (d:= .u s1.2.1) (r:= .u (s1.1/s1.2.1)) (fun h=>q8)<|bE q6 ?_;intro _ q6;refine bE q6 ?_;intro _ q6;exact gN bl1 q6
 obtain rfl:=nR bl1 q6;let x2:=s1.2.2.1;obtain rfl:=AlC q2;refine oB hm fun x6 q11 hm=>gj (fun(_:Unit)=>⟨[(8,.d (.i x6))],[],[],0⟩) (fun _=>True) (fun Jp bk3=> ?_) fun _ _=> ?_
 ·refine gi q11 ?_ ?_<;>intro _ q11
  ·refine bE q11 ?_;intro _ q11;obtain rfl:=AlC q11;exact gb bk3 hd () trivial
  obtain rfl:=AlC q11;exact gb bk3 hd () trivial
 exact AlC hm▸gE
def F3 (a0:UInt64):Option (UInt64×Int):=Ab (D9 2305843009213691579 a0) fun x1=>some (x1.1,x1.2)
theorem VZ {a0 r}(hm:F3 a0=some r):Sf prog 293 [.d (.u a0)] (.tup [.d (.u r.1),.d (.i r.2)]):=by
 refine sq ?_;intros;refine gA hm Mp fun _ q1 hm=> ?_;exact AlC hm▸gE
def Hw (a0:UInt64)(a1:UInt64):Option UInt64:=Ab (C2 2305843009213691579 a0 a1) fun x1=>some x1
theorem VY {a0 a1 r}(hm:Hw a0 a1=some r):Sf prog 294 [.d (.u a0),.d (.u a1)] (.d (.u r)):=by
 refine sq ?_;intros;refine gA hm Gg fun _ q1 hm=> ?_;exact AlC hm▸gE
def Dq (a0:UInt64)(a1:List UInt8)(a2:g_api_Sig):Option Int:=Ab (Dh a0) fun x1=>if(!x1)=true then some 1 else if(decide (((QL a2.E a2.S).toNat:Int)≥1152921504606845789))=true then some 40 else Ab (Dt a0 a2.E) fun x2=>Ab (F3 x2) fun x3=>Ab (gu (!(x3.2 !=0)) (Ea a2.S)) fun x4=>Ab (gu (!(x3.2 !=0)) (Hw x4 x3.1)) fun x5=>Ab (gu (!(x3.2 !=0)) (Dg x5 a0 a1)) fun x6=>if((x3.2 !=0)||((x6.toNat:Int) !=(a2.E.toNat:Int)))=true then some 40 else some 0
theorem PW {a0 a1 a2 r}(hm:Dq a0 a1 a2=some r):Sf prog 230 [.d (.u a0),sl eB a1,ag (Lq a2)] (.d (.i r)):=by
 refine sq ?_;intros;refine gA hm NV fun _ q1 hm=>gi hm ?_ ?_<;>intro _ hm
 ·exact AlC hm▸gE
 refine gi hm ?_ ?_<;>intro _ hm
 ·exact AlC hm▸gE
 refine gA hm Mq fun _ q2 hm=>gA hm VZ fun _ q3 hm=>oB hm fun _ q4 hm=>gcH q4 Lz<|oB hm fun _ q5 hm=>gcH q5 VY<|oB hm fun _ q6 hm=>gcH q6 L4<|gi hm ?_ ?_<;>intro _ hm
 ·exact AlC hm▸gE
 exact AlC hm▸gE
def Iz (i1:Int)(x2:g_api_Cert)(s1:Unit):Option ((Unit)⊕Int):=Ab (Cn x2) fun x3=>if(x3 !=0)=true then some (.inr x3)else some (.inl ())
def JR (a0:g_api_Cert)(a1:g_api_Cert):Option Int:=Ab (DK Iz ([a0,a1]:List g_api_Cert) 0 ()) fun x1=>match x1 with| .inr r=>some r| .inl y1=>if((!a1.Ca)||(!eqS a0.Issuer a1.Subject))=true then some 191 else Ab (J3 a0) fun x4=>Ab (Dq a1.Key x4.1 a0.Sig) fun x5=>if(x5 !=0)=true then some 40 else some 0
theorem QZ {a0 a1 r}(hm:JR a0 a1=some r):Sf prog 149 [ag (Ac a0),ag (Ac a1)] (.d (.i r)):=by
 refine sq ?_;intros;refine gq Ac 13 [a0,a1]<|oB hm fun _ q1 hm=>IU 0 (E:=Ac) (xs:=([a0,a1]:List g_api_Cert)) 12 fun hle1=>gF (ER _ _ _) q1 (fun p0 _=>⟨[(2,.pb 0 0),(3,.pb 1 0),(12,sl Ac ([a0,a1]:List g_api_Cert)),(13,.d (.i (([a0,a1]:List g_api_Cert).length:Int))),(14,.d (.i p0))],[(0,.box 1 [.d (.i a1.Serial),.d (.s a1.Issuer),.d (.s a1.Subject),.d (.u a1.Key),sl eS a1.Names,.d (.i a1.From),.d (.i a1.Until),.d (.t a1.Ca),.d (.i a1.Depth),sl eS a1.Permit,sl Ad a1.Proms,.d (.u a1.Sig.E),.d (.u a1.Sig.S)] 59),(1,.box 0 [.d (.i a0.Serial),.d (.s a0.Issuer),.d (.s a0.Subject),.d (.u a0.Key),sl eS a0.Names,.d (.i a0.From),.d (.i a0.Until),.d (.t a0.Ca),.d (.i a0.Depth),sl eS a0.Permit,sl Ad a0.Proms,.d (.u a0.Sig.E),.d (.u a0.Sig.S)] 59)],[],2⟩) fun i1 s1 Jl bl1=>cR bl1 (fun _ _ q5 q4 bl1=> ?_) fun e=> ?_
 ·refine gx Ac 13 q5<|gA q4 FO fun _ q6 q4=>gi q4 ?_ ?_<;>intro _ q4
  ·obtain rfl:=nT bl1 q4;exact AlC hm▸gE
  exact gT bl1 hle1 q4
 subst e;refine gi hm ?_ ?_<;>intro _ hm
 ·exact AlC hm▸gE
 refine gD hm Rc fun _ q7 hm=>gD hm PW fun _ q8 hm=>gi hm ?_ ?_<;>intro _ hm
 ·exact AlC hm▸gE
 exact AlC hm▸gE
def CP (a0:g_path_trip)(i1:Int)(s1:Unit):Option ((Unit)⊕Int):=Ab (idx a0.chain_ (i1:Int)) fun x3=>Ab (idx a0.chain_ (w64 ((i1:Int)+1))) fun x4=>Ab (JR x3 x4) fun x5=>if(x5 !=0)=true then some (.inr x5)else some (.inl ())
def Gl (a0:g_path_trip):Option Int:=Ab (BV (CP a0) (Int.toNat (w64 ((a0.chain_.length:Int)-1))) 0 ()) fun x1=>match x1 with| .inr r=>some r| .inl y1=>some 0
theorem Pj {a0 r}(hm:Gl a0=some r):Sf prog 75 [ag (E1 a0)] (.d (.i r)):=by
 refine sq ?_;intros;refine oB hm fun _ q1 hm=>gF (EN _ _ _) q1 (fun p0 _=>⟨[(1,.pb 0 0),(8,.d (.i (w64 ((a0.chain_.length:Int)-1)))),(9,.d (.i p0))],[(0,.box 0 [sl Ac a0.roots_,sl Ac a0.chain_,.d (.s a0.name_),.d (.i a0.now_)] 124)],[],1⟩) fun i1 s1 Jl bl1=>cN bl1 (w64 ((a0.chain_.length:Int)-1)) (fun _ q4 bl1=> ?_) fun e=> ?_
 ·refine oB q4 fun _ q6 q4=>gx Ac 13 q6<|oB q4 fun _ q7 q4=>gx Ac 13 q7<|gA q4 QZ fun _ q8 q4=>gi q4 ?_ ?_<;>intro _ q4
  ·obtain rfl:=nT bl1 q4;exact AlC hm▸gE
  exact gT bl1 (V3 _) q4
 subst e;exact AlC hm▸gE
def A4 (a0:List g_api_Cert):Option (List g_api_Cert):=Ab (app 168 ([]:List g_api_Cert) a0) fun x1=>some x1
theorem Em {a0 r}(hm:A4 a0=some r):Sp prog 38 [sl Ac a0] [] 0 (is (.ow 0) [.row 0 13 _ Ac r] 1):=by
 refine sq ?_;intros;unfold A4 at hm;refine gnq Ac a0 (fun he1=> ?_) ?_
 ·rw[he1]at hm;replace hm:(some ([]:List g_api_Cert))=some _:=hm;refine R0 Ac 2 13 ?_;exact AlC hm▸gE
 refine AaP (k:=13) Ac ([]:List g_api_Cert) (fun _=>rfl)<|oB hm fun _ q1 hm=>gp Ac 13 q1 ?_;exact AlC hm▸gE
def DV (a0:ByteArray)(a1:ByteArray):Option (ByteArray×ByteArray×Bool):=Ab (A5 a0 a1) fun x1=>if(decide (x1≥0))=true then Ab (Vq a0 0 x1) fun x2=>Ab (Vq a0 (w64 (x1+(a1.size:Int))) (a0.size:Int)) fun x3=>some (x2,x3,true)else some (a0,(⟨#[]⟩:ByteArray),false)
theorem Kb {a0 a1 r}(hm:DV a0 a1=some r):Sf prog 405 [.d (.s a0),.d (.s a1)] (.tup [.d (.s r.1),.d (.s r.2.1),.d (.t r.2.2)]):=by
 refine sq ?_;intros;refine gA hm Fy fun _ q1 hm=>gi hm ?_ ?_<;>intro _ hm
 ·refine oB hm fun _ q2 hm=>AaQ (fun _=>q2)<|oB hm fun _ q3 hm=>AaQ (fun _=>q3) ?_;exact AlC hm▸gE
 exact AlC hm▸gE
def LJ (a0:ByteArray)(a1:ByteArray):Option (ByteArray×ByteArray×Bool):=Ab (DV a0 a1) fun x1=>some (x1.1,x1.2.1,x1.2.2)
theorem T8 {a0 a1 r}(hm:LJ a0 a1=some r):Sf prog 396 [.d (.s a0),.d (.s a1)] (.tup [.d (.s r.1),.d (.s r.2.1),.d (.t r.2.2)]):=by
 refine sq ?_;intros;refine gA hm Kb fun _ q1 hm=> ?_;exact AlC hm▸gE
def Io (a0:ByteArray):Option ByteArray:=Ab (Gs a0) fun x1=>if(!x1)=true then some (⟨#[]⟩:ByteArray)else Ab (LJ a0 (⟨#[46]⟩:ByteArray)) fun x2=>some x2.2.1
theorem Th {a0 r}(hm:Io a0=some r):Sf prog 383 [.d (.s a0)] (.d (.s r)):=by
 refine sq ?_;intros;refine gA hm Nn fun _ q1 hm=>gi hm ?_ ?_<;>intro _ hm
 ·exact AlC hm▸gE
 refine gA hm T8 fun _ q2 hm=> ?_;exact AlC hm▸gE
def FE {σ:Type}(p0:σ→ByteArray→Option (Bool×σ))(s1:ByteArray×σ):Option ((ByteArray×σ)⊕(ByteArray×σ)):=if(!eqS s1.1 (⟨#[]⟩:ByteArray))=true then Ab (p0 s1.2 s1.1) fun x4=>if x4.1=true then Ab (Io s1.1) fun x5=>some (.inl (x5,x4.2))else some (.inr (s1.1,x4.2))else some (.inr (s1.1,s1.2))
def JS {σ:Type}(p0:σ→ByteArray→Option (Bool×σ))(k0:ByteArray)(s0:σ):Option (ByteArray×σ):=Ab (Io k0) fun x1=>Ab (iter (FE p0) Fx (x1,s0)) fun x2=>some (x2.1,x2.2)
theorem Q0 {σ:Type}{p0:σ→ByteArray→Option (Bool×σ)}{k0 s0 r}(hm:JS p0 k0 s0=some r)(g:Value)(R:σ→Mem→Ow)(hcb:Z4 prog g (fun x=> [.d (.s x)]) R p0):Sp prog 382 [.ow 0,.pb 1 0] [.hp 0 (.cb g σ R s0),.box 1 [.d (.s k0)] 9] 2 (is (.tup []) [.hp 0 (.cb g σ R r.2),.box 1 [.d (.s r.1)] 9] 2):=by
 refine sq fun D0 As η0 m0 hd=>gA hm Th fun _ q1 hm=>oB hm fun x2 q2 hm=>gjU 0 (fun(_:Unit)=>let (y_0,y_1):=x2; ⟨[],[(0,.box 1 [.d (.s y_0)] 9),(1,.hp 0 (.cb g σ R y_1))],[],2⟩) (fun _=>True) (fun Jp bk1=> ?_) fun _ _=> ?_
 ·refine gI q2 (fun(p_0,p_1)=>⟨[(0,.ow 0),(1,.pb 1 0)],[(0,.box 1 [.d (.s p_0)] 9),(1,.hp 0 (.cb g σ R p_1))],[],2⟩) fun s1 _ Jl q5 bl1=>gspl 7 q5 (fun hc1 q5=> ?_) fun hc1 q5=> ?_
  ·refine oB q5 fun _ q7 q5=>gcb s1.1 hcb q7<|gi q5 ?_ ?_<;>intro _ q5
   ·exact gA q5 Th fun _ q8 q5=>gN bl1 q5
   obtain rfl:=nR bl1 q5;exact gb bk1 hd () trivial
  refine gi' (b:=false) (fun h=>by cases h) (fun _=> ?_);obtain rfl:=nR bl1 q5;exact gb bk1 hd () trivial
 exact AlC hm▸gE
def LM (a0:ByteArray):Option ByteArray:=some a0
theorem Ud {a0 r}(hm:LM a0=some r):Sp prog 352 [.d (.s a0)] [] 0 (is (.fn (.func 382) [] [.pb 0 0]) [.box 0 [.d (.s r)] 9] 1):=by
 refine sq ?_;intros;exact AlC hm▸gE
def E5 (a1:ByteArray)(b5:ByteArray)(s1:(Bool)×Nat):Option ((Bool)×Nat):=if(eqS b5 a1)=true then some (true,1)else some (s1.1,0)
def Gt (a0:ByteArray)(a1:ByteArray):Option Bool:=Ab (LM a0) fun x1=>Ab (JS (fun(s:(Bool)×Nat) (b0:ByteArray)=>if s.2=0 then Ab (E5 a1 b0 s) fun y=>some (y.2==0,y)else none) x1 (false,0)) fun x2=>if(x2.2).2=0 then some false else some x2.2.1
theorem Uc {a0 a1 r}(hm:Gt a0 a1=some r):Sf prog 297 [.d (.s a0),.d (.s a1)] (.d (.t r)):=
 spR call297 func297 rfl ntmps297 rfl fun D0 As η0 m0 hD hd=>by
  unfold Gt at hm;refine gD hm Ud fun x1 q1 hm=>oB hm fun x2 q2 hm=>M4 hD (n0:=0) 3 3 [⟨2,2,9,[.d (.s x1)],[.d (.s x2.1)]⟩] (gt:=7) (ps:=[8]) [(3,.pb 0 0),(4,.pb 1 0),(7,.fn (.func 382) [] [.pb 2 0])] (fun(y1:Bool)=> [(0,.box 1 [.d (.t y1)] 4),(1,.box 0 [.d (.s a1)] 9)]) (fun(y1:(Bool)×Nat)=> [(0,.box 1 [.d (.t y1.1)] 4),(1,.box 0 [.d (.s a1)] 9)]) (fun x=> [.d (.s x)]) (fun(s1:Bool) (b5:ByteArray)=>⟨[(3,.pb 0 0),(4,.pb 1 0),(5,.d (.s b5)),(7,.fn (.func 382) [] [.pb 2 0])],[(0,.box 1 [.d (.t s1)] 4),(1,.box 0 [.d (.s a1)] 9)],[],3⟩) (pJ fun x s=>E5 a1 x s) false hd (via fJ hyJ rfl fun g R h=>Q0 q2 g R h) rfl (fun _=>rfl) (fun _=>rfl) (fun _=>rfl) (fun _=>rfl) ?_ ?_ ?_ ?_
  ·intro s1 b5 s' hp l D0 As η0 m0 hd Ja ba;exact gb ba hd () trivial
  ·intro s1 b5 s' hp l D0 As η0 m0 hd Jb bb Jr br;obtain⟨z1,q3,hp⟩:=AlN.1 hp;subst hp;unfold E5 at q3;dsimp only at q3;refine gi q3 ?_ ?_<;>intro _ q3
   ·obtain rfl:=AlC q3;exact AgK br hd (true,1) rfl
   obtain rfl:=AlC q3;exact gb bb hd s1 rfl
  ·intro x hx;obtain⟨hj1,rfl⟩:=ZJ hx;rw[AlH hj1]at hm;exact AlC hm▸gE
  intro y hy;obtain⟨hj1,rfl⟩:=ZI hy;rw[AlG hj1]at hm;exact AlC hm▸gE
def Jf (a0:ByteArray)(a1:ByteArray):Option Bool:=Ab (DI a0) fun x1=>Ab (gu (!(!x1.2.2)) (Gs a1)) fun x2=>if((!x1.2.2)||(!x2))=true then some false else if x1.2.1=true then Ab (Gt a1 x1.1) fun x3=>some x3 else some (eqS x1.1 a1)
theorem Ue {a0 a1 r}(hm:Jf a0 a1=some r):Sf prog 234 [.d (.s a0),.d (.s a1)] (.d (.t r)):=by
 refine sq ?_;intros;refine gA hm Ml fun _ q1 hm=>oB hm fun _ q2 hm=>gcH q2 Nn<|gi hm ?_ ?_<;>intro _ hm
 ·exact AlC hm▸gE
 refine gi hm ?_ ?_<;>intro _ hm
 ·refine gA hm Uc fun _ q3 hm=> ?_;exact AlC hm▸gE
 exact AlC hm▸gE
def HN (a0:ByteArray)(k0:ByteArray):Option (Bool×ByteArray):=Ab (Jf a0 k0) fun x1=>some (x1,k0)
theorem Oo {a0 k0 r}(hm:HN a0 k0=some r):Sp prog 233 [.d (.s a0),.pb 0 0] [.box 0 [.d (.s k0)] 9] 1 (is (.d (.t r.1)) [.box 0 [.d (.s r.2)] 9] 1):=by
 refine sq ?_;intros;refine gA hm Ue fun _ q1 hm=> ?_;exact AlC hm▸gE
def Bi (a0:List ByteArray)(i1:Int)(s1:ByteArray):Option ((ByteArray)⊕(Int×ByteArray)):=Ab (idx a0 (i1:Int)) fun x3=>Ab (HN x3 s1) fun x4=>if x4.1=true then some (.inr ((i1:Int),x4.2))else some (.inl x4.2)
def Ce (a0:List ByteArray)(k0:ByteArray):Option (Int×ByteArray):=Ab (BV (Bi a0) a0.length 0 k0) fun x1=>match x1 with| .inr r=>some r| .inl y1=>some ((-1),y1)
theorem GH {a0 k0 r}(hm:Ce a0 k0=some r):Sp prog 295 [sl eS a0,.fn (.func 233) [] [.pb 0 0]] [.box 0 [.d (.s k0)] 9] 1 (is (.d (.i r.1)) [.box 0 [.d (.s r.2)] 9] 1):=by
 refine sq ?_;intros;refine oB hm fun _ q1 hm=>IU 0 (E:=eS) (xs:=a0) 6 fun hle1=>gF (EN _ _ _) q1 (fun p0 p=>⟨[(0,sl eS a0),(1,.fn (.func 233) [] [.pb 0 0]),(7,.d (.i (a0.length:Int))),(8,.d (.i p0))],[(0,.box 0 [.d (.s p)] 9)],[],1⟩) fun i1 s1 Jl bl1=>cN bl1 (a0.length:Int) (fun _ q4 bl1=> ?_) fun e=> ?_
 ·refine oB q4 fun _ q6 q4=>gx eS 1 q6<|gD q4 Oo fun _ q7 q4=>gi q4 ?_ ?_<;>intro _ q4
  ·obtain rfl:=nT bl1 q4;exact AlC hm▸gE
  exact gT bl1 hle1 q4
 subst e;let y1:=s1;exact AlC hm▸gE
def BZ (a0:List ByteArray)(k0:ByteArray):Option (Bool×ByteArray):=Ab (Ce a0 k0) fun x1=>some ((decide (x1.1≥0)),x1.2)
theorem FI {a0 k0 r}(hm:BZ a0 k0=some r):Sp prog 232 [sl eS a0,.fn (.func 233) [] [.pb 0 0]] [.box 0 [.d (.s k0)] 9] 1 (is (.d (.t r.1)) [.box 0 [.d (.s r.2)] 9] 1):=by
 refine sq ?_;intros;refine gD hm GH fun _ q1 hm=> ?_;exact AlC hm▸gE
def E4 (a0:ByteArray)(k0:g_api_Cert):Option (Bool×g_api_Cert):=Ab (BZ k0.Permit a0) fun x1=>some ((!x1.1),k0)
theorem Qk {a0 k0 r}(hm:E4 a0 k0=some r):Sp prog 231 [.d (.s a0),.pb 0 0] [.box 0 [.d (.i k0.Serial),.d (.s k0.Issuer),.d (.s k0.Subject),.d (.u k0.Key),sl eS k0.Names,.d (.i k0.From),.d (.i k0.Until),.d (.t k0.Ca),.d (.i k0.Depth),sl eS k0.Permit,sl Ad k0.Proms,.d (.u k0.Sig.E),.d (.u k0.Sig.S)] 59] 1 (is (.d (.t r.1)) [.box 0 [.d (.i r.2.Serial),.d (.s r.2.Issuer),.d (.s r.2.Subject),.d (.u r.2.Key),.d (.sl _ eS r.2.Names),.d (.i r.2.From),.d (.i r.2.Until),.d (.t r.2.Ca),.d (.i r.2.Depth),.d (.sl _ eS r.2.Permit),.d (.sl _ Ad r.2.Proms),.d (.u r.2.Sig.E),.d (.u r.2.Sig.S)] 59] 1):=by
 refine sq ?_;intros;refine gD hm FI fun _ q1 hm=> ?_;exact AlC hm▸gE
def Bj (a0:List ByteArray)(i1:Int)(s1:Int×ByteArray×ByteArray×UInt64×(List ByteArray)×Int×Int×Bool×Int×(List ByteArray)×(List g_api_Promise)×UInt64×UInt64):Option ((Int×ByteArray×ByteArray×UInt64×(List ByteArray)×Int×Int×Bool×Int×(List ByteArray)×(List g_api_Promise)×UInt64×UInt64)⊕(Int×g_api_Cert)):=Ab (idx a0 (i1:Int)) fun x3=>Ab (E4 x3 (⟨s1.1,s1.2.1,s1.2.2.1,s1.2.2.2.1,s1.2.2.2.2.1,s1.2.2.2.2.2.1,s1.2.2.2.2.2.2.1,s1.2.2.2.2.2.2.2.1,s1.2.2.2.2.2.2.2.2.1,s1.2.2.2.2.2.2.2.2.2.1,s1.2.2.2.2.2.2.2.2.2.2.1,(⟨s1.2.2.2.2.2.2.2.2.2.2.2.1,s1.2.2.2.2.2.2.2.2.2.2.2.2⟩:g_api_Sig)⟩:g_api_Cert)) fun x4=>if x4.1=true then some (.inr ((i1:Int),x4.2))else some (.inl (x4.2.Serial,x4.2.Issuer,x4.2.Subject,x4.2.Key,x4.2.Names,x4.2.From,x4.2.Until,x4.2.Ca,x4.2.Depth,x4.2.Permit,x4.2.Proms,x4.2.Sig.E,x4.2.Sig.S))
def Cg (a0:List ByteArray)(k0:g_api_Cert):Option (Int×g_api_Cert):=Ab (BV (Bj a0) a0.length 0 (k0.Serial,k0.Issuer,k0.Subject,k0.Key,k0.Names,k0.From,k0.Until,k0.Ca,k0.Depth,k0.Permit,k0.Proms,k0.Sig.E,k0.Sig.S)) fun x1=>match x1 with| .inr r=>some r| .inl y1=>some ((-1),(⟨y1.1,y1.2.1,y1.2.2.1,y1.2.2.2.1,y1.2.2.2.2.1,y1.2.2.2.2.2.1,y1.2.2.2.2.2.2.1,y1.2.2.2.2.2.2.2.1,y1.2.2.2.2.2.2.2.2.1,y1.2.2.2.2.2.2.2.2.2.1,y1.2.2.2.2.2.2.2.2.2.2.1,(⟨y1.2.2.2.2.2.2.2.2.2.2.2.1,y1.2.2.2.2.2.2.2.2.2.2.2.2⟩:g_api_Sig)⟩:g_api_Cert))
theorem GI {a0 k0 r}(hm:Cg a0 k0=some r):Sp prog 295 [sl eS a0,.fn (.func 231) [] [.pb 0 0]] [.box 0 [.d (.i k0.Serial),.d (.s k0.Issuer),.d (.s k0.Subject),.d (.u k0.Key),sl eS k0.Names,.d (.i k0.From),.d (.i k0.Until),.d (.t k0.Ca),.d (.i k0.Depth),sl eS k0.Permit,sl Ad k0.Proms,.d (.u k0.Sig.E),.d (.u k0.Sig.S)] 59] 1 (is (.d (.i r.1)) [.box 0 [.d (.i r.2.Serial),.d (.s r.2.Issuer),.d (.s r.2.Subject),.d (.u r.2.Key),.d (.sl _ eS r.2.Names),.d (.i r.2.From),.d (.i r.2.Until),.d (.t r.2.Ca),.d (.i r.2.Depth),.d (.sl _ eS r.2.Permit),.d (.sl _ Ad r.2.Proms),.d (.u r.2.Sig.E),.d (.u r.2.Sig.S)] 59] 1):=by
 refine sq ?_;intros;refine oB hm fun _ q1 hm=>IU 0 (E:=eS) (xs:=a0) 6 fun hle1=>gF (EN _ _ _) q1 (fun p0 (p_0,p_1,p_2,p_3,p_4,p_5,p_6,p_7,p_8,p_9,p_10,p_11,p_12)=>⟨[(0,sl eS a0),(1,.fn (.func 231) [] [.pb 0 0]),(7,.d (.i (a0.length:Int))),(8,.d (.i p0))],[(0,.box 0 [.d (.i p_0),.d (.s p_1),.d (.s p_2),.d (.u p_3),sl eS p_4,.d (.i p_5),.d (.i p_6),.d (.t p_7),.d (.i p_8),sl eS p_9,sl Ad p_10,.d (.u p_11),.d (.u p_12)] 59)],[],1⟩) fun i1 s1 Jl bl1=>cN bl1 (a0.length:Int) (fun _ q4 bl1=> ?_) fun e=> ?_
 ·refine oB q4 fun _ q6 q4=>gx eS 1 q6<|gD q4 Qk fun _ q7 q4=>gi q4 ?_ ?_<;>intro _ q4
  ·obtain rfl:=nT bl1 q4;exact AlC hm▸gE
  exact gT bl1 hle1 q4
 subst e;let y1:=s1;exact AlC hm▸gE
def Bl (a0:List ByteArray)(k0:g_api_Cert):Option (Bool×g_api_Cert):=Ab (Cg a0 k0) fun x1=>some ((decide (x1.1≥0)),x1.2)
theorem FJ {a0 k0 r}(hm:Bl a0 k0=some r):Sp prog 232 [sl eS a0,.fn (.func 231) [] [.pb 0 0]] [.box 0 [.d (.i k0.Serial),.d (.s k0.Issuer),.d (.s k0.Subject),.d (.u k0.Key),sl eS k0.Names,.d (.i k0.From),.d (.i k0.Until),.d (.t k0.Ca),.d (.i k0.Depth),sl eS k0.Permit,sl Ad k0.Proms,.d (.u k0.Sig.E),.d (.u k0.Sig.S)] 59] 1 (is (.d (.t r.1)) [.box 0 [.d (.i r.2.Serial),.d (.s r.2.Issuer),.d (.s r.2.Subject),.d (.u r.2.Key),.d (.sl _ eS r.2.Names),.d (.i r.2.From),.d (.i r.2.Until),.d (.t r.2.Ca),.d (.i r.2.Depth),.d (.sl _ eS r.2.Permit),.d (.sl _ Ad r.2.Proms),.d (.u r.2.Sig.E),.d (.u r.2.Sig.S)] 59] 1):=by
 refine sq ?_;intros;refine gD hm GI fun _ q1 hm=> ?_;exact AlC hm▸gE
def Gp (a0:g_path_trip)(x6:List g_api_Cert)(i1:Int)(s1:Unit):Option ((Unit)⊕Int):=Ab (idx x6 (i1:Int)) fun x9=>bnd ((decide (x9.Depth<(i1:Int)))) fun x10=>if x10=true then some (.inr 191)else if(decide ((x9.Permit.length:Int)>0))=true then Ab (idx a0.chain_ 0) fun x11=>Ab (Bl x11.Names x9) fun x12=>if x12.1=true then some (.inr 110)else some (.inl ())else some (.inl ())
def GS (a0:g_path_trip)(a1:g_api_Cert):Option Int:=Ab (idx a0.chain_ (w64 ((a0.chain_.length:Int)-1))) fun x1=>Ab (JR x1 a1) fun x2=>if(x2 !=0)=true then some x2 else Ab (FC a0 a1) fun x3=>if(!x3)=true then some 190 else Ab (cut a0.chain_ 1 (a0.chain_.length:Int)) fun x4=>Ab (A4 x4) fun x5=>Ab (app 168 x5 ([a1]:List g_api_Cert)) fun x6=>Ab (BV (Gp a0 x6) x6.length 0 ()) fun x7=>match x7 with| .inr r=>some r| .inl y1=>some 0
theorem SF {a0 a1 r}(hm:GS a0 a1=some r):Sf prog 150 [ag (E1 a0),ag (Ac a1)] (.d (.i r)):=by
 refine sq ?_;intros;refine oB hm fun _ q1 hm=>gx Ac 13 q1<|gA hm QZ fun _ q2 hm=>gi hm ?_ ?_<;>intro _ hm
 ·exact AlC hm▸gE
 refine gA hm Ki fun _ q3 hm=>gi hm ?_ ?_<;>intro _ hm
 ·exact AlC hm▸gE
 refine oB hm fun _ q4 hm=>gk Ac 13 q4<|gD hm Em fun _ q5 hm=>gq Ac 13 [a1]<|oB hm fun x6 q6 hm=>gp Ac 13 q6<|oB hm fun _ q7 hm=>IU 0 (E:=Ac) (xs:=x6) 32 fun hle1=>gF (EN _ _ _) q7 (fun p0 _=>⟨[(2,.pb 0 0),(32,.ow 2),(33,.d (.i (x6.length:Int))),(34,.d (.i p0)),(3,.pb 1 0)],[(0,.row 2 13 _ Ac x6),(1,.box 1 [.d (.i a1.Serial),.d (.s a1.Issuer),.d (.s a1.Subject),.d (.u a1.Key),sl eS a1.Names,.d (.i a1.From),.d (.i a1.Until),.d (.t a1.Ca),.d (.i a1.Depth),sl eS a1.Permit,sl Ad a1.Proms,.d (.u a1.Sig.E),.d (.u a1.Sig.S)] 59),(2,.box 0 [sl Ac a0.roots_,sl Ac a0.chain_,.d (.s a0.name_),.d (.i a0.now_)] 124)],[],3⟩) fun i1 s1 Jl bl1=>cN bl1 (x6.length:Int) (fun _ q10 bl1=> ?_) fun e=> ?_
 ·refine oB q10 fun _ q12 q10=>I6 (E:=Ac) (fun _=>q12)<|Yh (k:=13) (fo:=0) (nn:=13) (ag:=true) (E:=Ac) (fun _=>rfl) (fun _=>q12)<|bE q10 ?_;intro _ q10;refine gi q10 ?_ ?_<;>intro _ q10
  ·obtain rfl:=nT bl1 q10;exact AlC hm▸gE
  refine gspl 50 q10 (fun hc4 q10=> ?_) fun hc4 q10=> ?_
  ·refine oB q10 fun _ q14 q10=>gx Ac 13 q14<|gD q10 FJ fun _ q15 q10=>gi q10 ?_ ?_<;>intro _ q10
   ·obtain rfl:=nT bl1 q10;exact AlC hm▸gE
   exact gT bl1 hle1 q10
  refine gi' (b:=false) (fun h=>by cases h) (fun _=> ?_);exact gT bl1 hle1 q10
 subst e;exact AlC hm▸gE
def Cp (a0:g_path_trip)(s1:Int×Int):Option ((Int×Int)⊕((Int)⊕Int)):=if(decide (s1.2≥0))=true then Ab (idx a0.roots_ s1.2) fun x4=>Ab (GS a0 x4) fun x5=>if(x5==0)=true then some (.inr (.inr 0))else some (.inl (x5,(w64 (s1.2-1))))else some (.inr (.inl s1.1))
def ET (a0:g_path_trip):Option Int:=bnd ((w64 ((a0.roots_.length:Int)-1))) fun x1=>Ab (iter (Cp a0) Fx (191,x1)) fun x2=>match x2 with| .inr r=>some r| .inl y1=>some y1
theorem NS {a0 r}(hm:ET a0=some r):Sf prog 76 [ag (E1 a0)] (.d (.i r)):=by
 refine sq ?_;intros;refine bE hm ?_;intro _ hm;refine oB hm fun _ q2 hm=>gI q2 (fun(p_0,p_1)=>⟨[(1,.pb 0 0),(3,.d (.i p_0)),(4,.d (.i p_1))],[(0,.box 0 [sl Ac a0.roots_,sl Ac a0.chain_,.d (.s a0.name_),.d (.i a0.now_)] 124)],[],1⟩) fun s1 _ Jl q5 bl1=>gi q5 ?_ ?_<;>intro _ q5
 ·refine oB q5 fun _ q7 q5=>gx Ac 13 q7<|gA q5 SF fun _ q8 q5=>gi q5 ?_ ?_<;>intro _ q5
  ·obtain rfl:=nR bl1 q5;exact AlC hm▸gE
  exact gN bl1 q5
 obtain rfl:=nR bl1 q5;let y1:=s1.1;exact AlC hm▸gE
def GY (x:Fv):Option Int:=if x.k=72 then FD x.a else if x.k=73 then G2 x.a else if x.k=74 then Gn x.a else if x.k=75 then Gl x.a else if x.k=76 then ET x.a else none
theorem Abx {x r}(hm:GY x=some r):Sf prog x.k [ag (E1 x.a)] (.d (.i r)):=by
 unfold GY at hm;split at hm
 ·rename_i h;rw[h];exact Oq hm
 split at hm
 ·rename_i h;rw[h];exact Qj hm
 split at hm
 ·rename_i h;rw[h];exact Pk hm
 split at hm
 ·rename_i h;rw[h];exact Pj hm
 split at hm
 ·rename_i h;rw[h];exact NS hm
 cases hm
def Cx (a0:Int):Option Bool:=bnd (((decide ((0:Int)≤a0))&&(decide (a0≤1099511627776)))) fun x1=>some x1
theorem FN {a0 r}(hm:Cx a0=some r):Sf prog 60 [.d (.i a0)] (.d (.t r)):=by
 refine sq ?_;intros;refine bE hm ?_;intro _ hm;exact AlC hm▸gE
def Ec (a0:UInt8):Option Bool:=bnd (((decide ((a0.toNat:Int)<33))||(decide ((a0.toNat:Int)>126)))) fun x1=>some x1
theorem Mv {a0 r}(hm:Ec a0=some r):Sf prog 128 [.d (.b a0)] (.d (.t r)):=by
 refine sq ?_;intros;refine bE hm ?_;intro _ hm;exact AlC hm▸gE
def Eb (a0:g_api_Cert):Option Bool:=Ab (gu (!(!a0.Ca)) (Cn a0)) fun x1=>some ((!a0.Ca)||(x1 !=0))
theorem Mu {a0 r}(hm:Eb a0=some r):Sf prog 129 [ag (Ac a0)] (.d (.t r)):=by
 refine sq ?_;intros;refine oB hm fun _ q1 hm=>gcH q1 FO ?_;exact AlC hm▸gE
def AM (a0:List g_api_Cert)(i1:Int)(s1:Unit):Option ((Unit)⊕Int):=Ab (idx a0 (i1:Int)) fun x3=>Ab (Eb x3) fun x4=>if x4=true then some (.inr (i1:Int))else some (.inl ())
def Be (a0:List g_api_Cert):Option Int:=Ab (BV (AM a0) a0.length 0 ()) fun x1=>match x1 with| .inr r=>some r| .inl y1=>some (-1)
theorem Ft {a0 r}(hm:Be a0=some r):Sf prog 212 [sl Ac a0,.fn (.func 129) [] []] (.d (.i r)):=by
 refine sq ?_;intros;refine oB hm fun _ q1 hm=>IU 0 (E:=Ac) (xs:=a0) 6 fun hle1=>gF (EN _ _ _) q1 (fun p0 _=>⟨[(0,sl Ac a0),(1,.fn (.func 129) [] []),(7,.d (.i (a0.length:Int))),(8,.d (.i p0))],[],[],0⟩) fun i1 s1 Jl bl1=>cN bl1 (a0.length:Int) (fun _ q4 bl1=> ?_) fun e=> ?_
 ·refine oB q4 fun _ q6 q4=>gx Ac 13 q6<|gA q4 Mu fun _ q7 q4=>gi q4 ?_ ?_<;>intro _ q4
  ·obtain rfl:=nT bl1 q4;exact AlC hm▸gE
  exact gT bl1 hle1 q4
 subst e;exact AlC hm▸gE
def Ay (a0:List g_api_Cert):Option Bool:=Ab (Be a0) fun x1=>some (decide (x1≥0))
theorem CJ {a0 r}(hm:Ay a0=some r):Sf prog 132 [sl Ac a0,.fn (.func 129) [] []] (.d (.t r)):=by
 refine sq ?_;intros;refine gA hm Ft fun _ q1 hm=> ?_;exact AlC hm▸gE
def A7 (a0:List UInt8)(i1:Int)(s1:Unit):Option ((Unit)⊕Int):=Ab (idx a0 (i1:Int)) fun x3=>Ab (Ec x3) fun x4=>if x4=true then some (.inr (i1:Int))else some (.inl ())
def BW (a0:List UInt8):Option Int:=Ab (BV (A7 a0) a0.length 0 ()) fun x1=>match x1 with| .inr r=>some r| .inl y1=>some (-1)
theorem HC {a0 r}(hm:BW a0=some r):Sf prog 211 [sl eB a0,.fn (.func 128) [] []] (.d (.i r)):=by
 refine sq ?_;intros;refine oB hm fun _ q1 hm=>IU 0 (E:=eB) (xs:=a0) 6 fun hle1=>gF (EN _ _ _) q1 (fun p0 _=>⟨[(0,sl eB a0),(1,.fn (.func 128) [] []),(7,.d (.i (a0.length:Int))),(8,.d (.i p0))],[],[],0⟩) fun i1 s1 Jl bl1=>cN bl1 (a0.length:Int) (fun _ q4 bl1=> ?_) fun e=> ?_
 ·refine oB q4 fun _ q6 q4=>gx eB 1 q6<|gA q4 Mv fun _ q7 q4=>gi q4 ?_ ?_<;>intro _ q4
  ·obtain rfl:=nT bl1 q4;exact AlC hm▸gE
  exact gT bl1 hle1 q4
 subst e;exact AlC hm▸gE
def AP (a0:List UInt8):Option Bool:=Ab (BW a0) fun x1=>some (decide (x1≥0))
theorem GL {a0 r}(hm:AP a0=some r):Sf prog 131 [sl eB a0,.fn (.func 128) [] []] (.d (.t r)):=by
 refine sq ?_;intros;refine gA hm HC fun _ q1 hm=> ?_;exact AlC hm▸gE
def Mg (i1:Int)(x3:g_api_Key)(s1:Int):Option ((Int)⊕Int):=Ab (gu (!(decide (x3.Log≤s1))) (Cx x3.Log)) fun x4=>Ab (gu (!((decide (x3.Log≤s1))||(!x4))) (Cx x3.Delay)) fun x5=>Ab (gu (!(((decide (x3.Log≤s1))||(!x4))||(!x5))) (Dh x3.Key)) fun x6=>if((((decide (x3.Log≤s1))||(!x4))||(!x5))||(!x6))=true then some (.inr 1)else some (.inl x3.Log)
def Bz (i2:Int)(x11:g_api_Key)(s2:Int):Option ((Int)⊕Int):=Ab (gu (!(decide (x11.Log≤s2))) (Cx x11.Log)) fun x12=>Ab (gu (!((decide (x11.Log≤s2))||(!x12))) (Cx x11.Delay)) fun x13=>Ab (gu (!(((decide (x11.Log≤s2))||(!x12))||(!x13))) (Dh x11.Key)) fun x14=>if((((decide (x11.Log≤s2))||(!x12))||(!x13))||(!x14))=true then some (.inr 1)else some (.inl x11.Log)
def Ba (a0:Aj):Option Int:=
 if((eqS a0.Client.Who (⟨#[]⟩:ByteArray))||(decide ((a0.Client.Who.size:Int)>64)))=true then
  Ab (gu (!((true||((a0.Client.Roots.length:Int)==0))||(decide ((a0.Client.Roots.length:Int)>8)))) (Ay a0.Client.Roots)) fun x1=>
  if(((true||((a0.Client.Roots.length:Int)==0))||(decide ((a0.Client.Roots.length:Int)>8)))||x1)=true then
   some 1
  else
  Ab (DK Mg a0.Client.Logs 0 (-1)) fun x2=>match x2 with
  | .inr r=>some r
  | .inl y1=>
  if((decide ((a0.Client.Logs.length:Int)>16))||((a0.Client.View !=0)&&(a0.Client.View !=1)))=true then
   some 1
  else
  some 0
 else
 Ab (app 1 ([]:List UInt8) a0.Client.Who.data.toList) fun x7=>
 Ab (AP x7) fun x8=>
 Ab (gu (!((x8||((a0.Client.Roots.length:Int)==0))||(decide ((a0.Client.Roots.length:Int)>8)))) (Ay a0.Client.Roots)) fun x9=>
 if(((x8||((a0.Client.Roots.length:Int)==0))||(decide ((a0.Client.Roots.length:Int)>8)))||x9)=true then
  some 1
 else
 Ab (DK Bz a0.Client.Logs 0 (-1)) fun x10=>match x10 with
 | .inr r=>some r
 | .inl y3=>
 if((decide ((a0.Client.Logs.length:Int)>16))||((a0.Client.View !=0)&&(a0.Client.View !=1)))=true then
  some 1
 else
 some 0
theorem NW {a0 r}(hm:Ba a0=some r):Sf prog 49 [ag (Cz a0)] (.d (.i r)):=by
 refine sq ?_;intros;refine gspl 19 hm (fun hc1 hm=> ?_) fun hc1 hm=> ?_
 ·refine oB hm fun _ q1 hm=>gcH q1 CJ<|gi hm ?_ ?_<;>intro _ hm
  ·exact AlC hm▸gE
  refine oB hm fun _ q2 hm=>IU 0 (E:=Ai) (xs:=a0.Client.Logs) 50 fun hle1=>gF (ER _ _ _) q2 (fun p0 p=>⟨[(1,.pb 0 0),(5,.d (.i p)),(50,sl Ai a0.Client.Logs),(51,.d (.i (a0.Client.Logs.length:Int))),(52,.d (.i p0))],[(0,.box 0 [.d (.s a0.Client.Who),sl Ac a0.Client.Roots,sl Ai a0.Client.Logs,sl Af a0.Client.Pool.L,.d (.i a0.Client.Cascade.Day),sl Ag a0.Client.Cascade.Levels,.d (.i a0.Client.View)] 110)],[],1⟩) fun i1 s1 Jl bl1=>cR bl1 (fun _ _ q6 q5 bl1=> ?_) fun e=> ?_
  ·refine gx Ai 3 q6<|oB q5 fun _ q7 q5=>gcH q7 FN<|oB q5 fun _ q8 q5=>gcH q8 FN<|oB q5 fun _ q9 q5=>gcH q9 NV<|gi q5 ?_ ?_<;>intro _ q5
   ·obtain rfl:=nT bl1 q5;exact AlC hm▸gE
   exact gT bl1 hle1 q5
  subst e;let y1:=s1;refine gi hm ?_ ?_<;>intro _ hm
  ·exact AlC hm▸gE
  exact AlC hm▸gE
 refine oB hm fun _ q10 hm=>gofS q10<|gD hm GL fun _ q11 hm=>oB hm fun _ q12 hm=>gcH q12 CJ<|gi hm ?_ ?_<;>intro _ hm
 ·exact AlC hm▸gE
 refine oB hm fun _ q13 hm=>IU 0 (E:=Ai) (xs:=a0.Client.Logs) 50 fun hle2=>gF (ER _ _ _) q13 (fun p0 p=>⟨[(1,.pb 0 0),(5,.d (.i p)),(50,sl Ai a0.Client.Logs),(51,.d (.i (a0.Client.Logs.length:Int))),(52,.d (.i p0))],[(0,.box 0 [.d (.s a0.Client.Who),sl Ac a0.Client.Roots,sl Ai a0.Client.Logs,sl Af a0.Client.Pool.L,.d (.i a0.Client.Cascade.Day),sl Ag a0.Client.Cascade.Levels,.d (.i a0.Client.View)] 110)],[],1⟩) fun i2 s2 Jl bl2=>cR bl2 (fun _ _ q17 q16 bl2=> ?_) fun e=> ?_
 ·refine gx Ai 3 q17<|oB q16 fun _ q18 q16=>gcH q18 FN<|oB q16 fun _ q19 q16=>gcH q19 FN<|oB q16 fun _ q20 q16=>gcH q20 NV<|gi q16 ?_ ?_<;>intro _ q16
  ·obtain rfl:=nT bl2 q16;exact AlC hm▸gE
  exact gT bl2 hle2 q16
 subst e;let y3:=s2;refine gi hm ?_ ?_<;>intro _ hm
 ·exact AlC hm▸gE
 exact AlC hm▸gE
def I4 (a0:g_api_Key)(k0:g_api_Head):Option (Bool×g_api_Head):=some ((a0.Log==k0.Log),k0)
theorem Qs {a0 k0 r}(hm:I4 a0 k0=some r):Sp prog 199 [ag (Ai a0),.pb 0 0] [.box 0 [.d (.i k0.Log),.d (.i k0.Size),.d (.u k0.Root.1),.d (.u k0.Root.2),.d (.i k0.At),.d (.u k0.Sig.E),.d (.u k0.Sig.S)] 38] 1 (is (.d (.t r.1)) [.box 0 [.d (.i r.2.Log),.d (.i r.2.Size),.d (.u r.2.Root.1),.d (.u r.2.Root.2),.d (.i r.2.At),.d (.u r.2.Sig.E),.d (.u r.2.Sig.S)] 38] 1):=by
 refine sq ?_;intros;exact AlC hm▸gE
def Dp (a0:Int):Option Bool:=bnd (((decide (a0≥0))&&(decide (a0≤1099511627776)))) fun x1=>some x1
theorem EO {a0 r}(hm:Dp a0=some r):Sf prog 99 [.d (.i a0)] (.d (.t r)):=by
 refine sq ?_;intros;refine bE hm ?_;intro _ hm;exact AlC hm▸gE
def MS (a0:UInt64×UInt64)(i1:Int)(s1:(List UInt8)):Option ((List UInt8)):=Ab (idx [a0.1,a0.2] (i1:Int)) fun x4=>Ab (Gv s1 x4 8) fun x5=>some x5
def EJ (a0:UInt64×UInt64):Option (List UInt8):=Ab (Ab (CX (MS a0) 2 0 ([]:List UInt8)) fun x2=>some x2) fun x1=>some x1
theorem Kj {a0 r}(hm:EJ a0=some r):Sp prog 158 [ag (Ar a0)] [] 0 (is (.ow 0) [.row 0 1 _ eB r] 1):=by
 refine sq ?_;intros;unfold EJ at hm;obtain⟨x1,q1,hm⟩:=Ae hm;refine oB q1 fun _ q2 q1=>WL 0 eB 3 1<|gF (EM _ 2 _) q2 (fun p0 p=>⟨[(3,.ow 1),(6,.agg [.d (.u a0.1),.d (.u a0.2)]),(7,.d (.i p0)),(1,.pb 0 0)],[(0,.row 1 1 _ eB p),(1,.box 0 [.d (.u a0.1),.d (.u a0.2)] 34)],[],2⟩) fun i1 s1 Jl bl1=>cM bl1 (2:Int) (fun _ q5 bl1=> ?_) fun e=> ?_
 ·exact oB q5 fun _ q7 q5=>gidxV (k:=1) (ag:=false) (E:=eU) ([a0.1,a0.2]:List UInt64) (fun _=>rfl) (fun _=>q7)<|gD q5 Tl fun _ q8 q5=>gM bl1 lk q5
 subst e;obtain rfl:=AlC q1;exact AlC hm▸gE
def BE (a1:Int):Option (List UInt8):=Ab (if(decide (a1<0))=true then none else some ()) fun x1=>Ab (bnd ((w64 (a1-(w64 (0-((0:Nat):Int)))))) fun x3=>if(decide (x3>0))=true then if 0≤x3∧x3*1≤140737488355328∧x3≤140737488355328 then some ([]:List UInt8)else none else some ([]:List UInt8)) fun x2=>some x2
theorem JE {m As w a1 r}(S:St m (As) w)(hm:BE a1=some r):
  C4 Tryz.prog 318 #[.slice none 0 0,vI a1] w fun v w'=> ∃(M:Mem),m≤M∧∃(rv0:Value) (rc0:List Value),St M ((row 1 rv0 rc0 r.length)::As) w'∧v=rv0∧CI M rc0 r:=by
 unfold BE at hm;have L0:=Mem.rfl' m;refine Pa (args:=[.slice none 0 0,vI a1]) Tryz.func318 rfl Tryz.ntmps318 (AlS rfl)<|AY<|AB<|GJ (v:= .slice none 0 0) rfl<|AK<|nrm ?_;obtain⟨x1,q1,hm⟩:=Ae hm;have L1:=Mem.rfl' m;refine AY<|Lt [5,6,7] (fun f' w'=> ∃(M1:Mem),m≤M1∧St M1 (As) w'∧QC f' []) ?_ ?_
 ·refine AY<|AB<|A9 (v:=vI a1) rfl<|Ab6 (m:=a1) (n:=0) rfl rfl<|AK<|nrm<|JC (t:=(decide (a1<0))) rfl (fun hc1=> ?_) (fun hc1=> ?_)
  ·replace q1:=ifT hc1 q1;cases q1
  replace q1:=ifF hc1 q1;refine Gf<|nrm ?_;obtain rfl:=AlC q1;exact⟨Tt,m,L1,S,trivial⟩
 rintro f1 w1 ho ⟨m1,l1,S1,ha⟩;obtain⟨u1,rfl⟩:=LY (N:=27) ho ha;replace L0:=Mem.tr L0 l1;clear S;obtain⟨x2,q2,hm⟩:=Ae hm;have L2:=Mem.rfl' m1;refine AY<|Lt [0,1,8,9,10,11,12,13,14,15,16,17,18,19,20,21,22,23,24,25] (fun f' w'=> ∃(M2:Mem) (v1:Value) (c1:List Value),m1≤M2∧St M2 ((row 1 v1 c1 x2.length)::As) w'∧CI M2 c1 x2∧QC f' [(0,v1)]) ?_ ?_
 ·refine AY<|AB<|A9 (v:=vI a1) rfl<|A9 (v:= .slice none 0 0) rfl<|Ns rfl Tryz.underlying96<|A9 (v:= .slice none 0 0) rfl<|Rn (n:=0) rfl Tryz.underlying96<|ON (m:=0) (n:=((0:Nat):Int)) rfl rfl<|ON (m:=a1) (n:=(w64 (0-((0:Nat):Int)))) rfl rfl ?_;obtain⟨x3,q3,q2⟩:=AeB q2;refine GJ (v:=vI x3) (Al9 (fun z=>vI z) q3.symm)<|AK<|nrm<|AY<|AB<|A9 (v:=vI x3) rfl<|Aam (m:=x3) (n:=0) rfl rfl<|AK<|nrm ?_;refine JC (t:=(decide (x3>0))) rfl (fun hc2=> ?_) (fun hc2=> ?_)
  ·replace q2:=ifT hc2 q2;refine AB<|A9 (v:= .slice none 0 0) rfl<|A9 (v:= .slice none 0 0) rfl<|Ns rfl Tryz.underlying96<|Aca rfl Tryz.underlying96 Tryz.sizeOf5 rfl<|A9 (v:=vI x3) rfl ?_;obtain⟨q4,q2⟩:=BI q2;refine Ace (bytes:=1) (sz:=1) (k:=x3) (ti:=Tryz.t5) S1 rfl rfl q4 Tryz.underlying96 Tryz.underlying3 Tryz.type5 rfl rfl rfl rfl ?_;intro v2 c2 w2 S2;replace S2:St _ ((row 1 v2 c2 x3.toNat)::As) _:=S2;clear S1;refine A9 (v:= .slice none 0 0) rfl<|Rn (n:=0) rfl Tryz.underlying96<|Y5 (i:=0) S2 rfl rfl Tryz.underlying96 Tryz.sizeOf5 rfl (j:=0) rfl (Int.le_refl 0) (Ams _) ?_;intro v3 S3;rw[show c2.take ((0:Int).toNat*1)=[]from by simp]at S3;have h2:CI m1 [] ([]:List UInt8):=CI.nil;replace S3:St _ ((row 1 v3 [] ([]:List UInt8).length)::As) _:=S3;clear S2;refine GJ (v:=v3) rfl<|AK<|nrm ?_;obtain rfl:=AlC q2;exact⟨Tt,m1,_,_,L2,S3,h2,⟨rfl,trivial⟩⟩
  replace q2:=ifF hc2 q2;refine Gf<|nrm ?_;have S4:=St.rowNil S1 1;have h3:CI m1 [] ([]:List UInt8):=CI.nil;replace S4:St _ ((row 1 (.slice none 0 0) [] ([]:List UInt8).length)::As) _:=S4;clear S1;obtain rfl:=AlC q2;exact⟨Tt,m1,_,_,L2,S4,h3,⟨rfl,trivial⟩⟩
 rintro f2 w3 ho ⟨m2,v1,c1,l2,S5,h1,ha⟩;obtain⟨u2,rfl⟩:=LY (N:=27) ho ha;replace L0:=Mem.tr L0 l2;clear S1;refine AY<|AB<|A9 (v:=v1) rfl<|GJ (v:=v1) rfl<|AK<|nrm<|JB<|RE ?_;intro we hpd;replace S5:=St.pd S5 hpd;obtain rfl:=AlC hm;exact Abi [_] rfl ⟨rfl,trivial⟩ ⟨_,L0,_,_,S5,rfl,h1⟩
theorem JM {a1 r}(hm:BE a1=some r):Sp prog 318 [.d (.v (.slice none 0 0)),.d (.i a1)] [] 0 (is (.ow 0) [.row 0 1 _ eB r] 1):=
 gnl call318 Br.b (fun S=>JE S hm)
def CH (i1:Int)(x3:List UInt8)(s1:Int):Option (Int):=Ab (bnd ((w64 (s1+(x3.length:Int)))) fun x5=>if(decide (x5<0))=true then none else some x5) fun x4=>some x4
def CG (i2:Int)(x9:List UInt8)(s2:(List UInt8)):Option ((List UInt8)):=Ab (app 1 s2 x9) fun x10=>some x10
def BS (a0:List (List UInt8)):Option (List UInt8):=Ab (Ab (DP CH a0 0 0) fun x2=>some x2) fun x1=>Ab (BE x1) fun x6=>Ab (Ab (DP CG a0 0 x6) fun x8=>some x8) fun x7=>some x7
theorem GM {a0 r}(hm:BS a0=some r):Sp prog 255 [sl (eL eB) a0] [] 0 (is (.ow 0) [.row 0 1 _ eB r] 1):=by
 refine sq ?_;intros;unfold BS at hm;obtain⟨x1,q1,hm⟩:=Ae hm;refine oB q1 fun _ q2 q1=>IU 0 (E:=(eL eB)) (xs:=a0) 9 fun hle1=>gF (E0 _ _ _) q2 (fun p0 p=>⟨[(0,sl (eL eB) a0),(3,.d (.i p)),(9,sl (eL eB) a0),(10,.d (.i (a0.length:Int))),(11,.d (.i p0))],[],[],0⟩) fun i1 s1 Jl bl1=>c0 bl1 (fun _ _ q6 q5 bl1=> ?_) fun e=> ?_
 ·refine oB q5 fun _ q7 q5=>gx (eL eB) 1 q6<|bE q7 ?_;intro _ q7;refine gi q7 ?_ ?_<;>intro _ q7
  ·cases q7
  obtain rfl:=AlC q7;exact gM bl1 hle1 q5
 subst e;obtain rfl:=AlC q1;refine gD hm JM fun _ q9 hm=> ?_;obtain⟨x7,q10,hm⟩:=Ae hm;refine oB q10 fun _ q11 q10=>IU 2 (E:=(eL eB)) (xs:=a0) 25 fun hle2=>gF (E0 _ _ _) q11 (fun p0 p=>⟨[(6,.ow 0),(25,sl (eL eB) a0),(26,.d (.i (a0.length:Int))),(27,.d (.i p0))],[(0,.row 0 1 _ eB p)],[],1⟩) fun i2 s2 Jl bl2=>c0 bl2 (fun _ _ q15 q14 bl2=> ?_) fun e=> ?_
 ·exact gx (eL eB) 1 q15<|oB q14 fun _ q16 q14=>gp eB 1 q16<|gM bl2 hle2 q14
 subst e;obtain rfl:=AlC q10;exact AlC hm▸gE
def Lh (a0:ByteArray)(a1:List (List UInt8)):Option (List UInt8):=Ab (app 1 ([]:List UInt8) a0.data.toList) fun x1=>Ab (BS a1) fun x2=>Ab (app 1 x1 x2) fun x3=>some x3
theorem Ti {a0 a1 r}(hm:Lh a0 a1=some r):Sp prog 188 [.d (.s a0),sl (eL eB) a1] [] 0 (is (.ow 0) [.row 0 1 _ eB r] 1):=by
 refine sq ?_;intros;refine oB hm fun _ q1 hm=>gofS q1<|gD hm GM fun _ q2 hm=>oB hm fun _ q3 hm=>gp eB 1 q3 ?_;exact AlC hm▸gE
def JT (a0:Int)(i1:Int)(s1:UInt8×UInt8×UInt8×UInt8×UInt8×UInt8×UInt8×UInt8):Option (UInt8×UInt8×UInt8×UInt8×UInt8×UInt8×UInt8×UInt8):=if(0:Int)≤(w64 (56-(w64 (8*(i1:Int)))))then Ab (idx [s1.1,s1.2.1,s1.2.2.1,s1.2.2.2.1,s1.2.2.2.2.1,s1.2.2.2.2.2.1,s1.2.2.2.2.2.2.1,s1.2.2.2.2.2.2.2] (i1:Int)) fun x4=>bnd (if(i1:Int)=0 then(toB (BA a0 ((w64 (56-(w64 (8*(i1:Int))))).toNat)))else s1.1) fun x5=>bnd (if(i1:Int)=1 then(toB (BA a0 ((w64 (56-(w64 (8*(i1:Int))))).toNat)))else s1.2.1) fun x6=>bnd (if(i1:Int)=2 then(toB (BA a0 ((w64 (56-(w64 (8*(i1:Int))))).toNat)))else s1.2.2.1) fun x7=>bnd (if(i1:Int)=3 then(toB (BA a0 ((w64 (56-(w64 (8*(i1:Int))))).toNat)))else s1.2.2.2.1) fun x8=>bnd (if(i1:Int)=4 then(toB (BA a0 ((w64 (56-(w64 (8*(i1:Int))))).toNat)))else s1.2.2.2.2.1) fun x9=>bnd (if(i1:Int)=5 then(toB (BA a0 ((w64 (56-(w64 (8*(i1:Int))))).toNat)))else s1.2.2.2.2.2.1) fun x10=>bnd (if(i1:Int)=6 then(toB (BA a0 ((w64 (56-(w64 (8*(i1:Int))))).toNat)))else s1.2.2.2.2.2.2.1) fun x11=>bnd (if(i1:Int)=7 then(toB (BA a0 ((w64 (56-(w64 (8*(i1:Int))))).toNat)))else s1.2.2.2.2.2.2.2) fun x12=>some (x5,x6,x7,x8,x9,x10,x11,x12)else none
def D6 (a0:Int):Option (List UInt8):=Ab (Ab (CX (JT a0) 8 0 (0,0,0,0,0,0,0,0)) fun x2=>some (x2.1,x2.2.1,x2.2.2.1,x2.2.2.2.1,x2.2.2.2.2.1,x2.2.2.2.2.2.1,x2.2.2.2.2.2.2.1,x2.2.2.2.2.2.2.2)) fun x1=>some ([x1.1,x1.2.1,x1.2.2.1,x1.2.2.2.1,x1.2.2.2.2.1,x1.2.2.2.2.2.1,x1.2.2.2.2.2.2.1,x1.2.2.2.2.2.2.2]:List UInt8)
theorem IF {a0 r}(hm:D6 a0=some r):Sp prog 189 [.d (.i a0)] [] 0 (is (.ow 0) [.row 0 1 _ eB r] 1):=by
 refine sq ?_;intros;unfold D6 at hm;obtain⟨x1,q1,hm⟩:=Ae hm;refine oB q1 fun x2 q2 q1=>gF (EM _ 8 _) q2 (fun p0 (p_0,p_1,p_2,p_3,p_4,p_5,p_6,p_7)=>⟨[(0,.d (.i a0)),(3,.pb 0 0),(5,.d (.i p0))],[(0,.box 0 [.d (.b p_0),.d (.b p_1),.d (.b p_2),.d (.b p_3),.d (.b p_4),.d (.b p_5),.d (.b p_6),.d (.b p_7)] 300)],[],1⟩) fun i1 s1 Jl bl1=>cM bl1 (8:Int) (fun _ q5 bl1=> ?_) fun e=> ?_
 ·unfold JT at q5;obtain⟨q7,q5⟩:=BI q5;refine gsh (r:= .i (BA a0 ((w64 (56-(w64 (8*(i1:Int))))).toNat))) (fun h=>q7)<|oB q5 fun _ q8 q5=>Vj (fun _=>q8)<|bE q5 ?_;intro _ q5;refine bE q5 ?_;intro _ q5;refine bE q5 ?_;intro _ q5;refine bE q5 ?_;intro _ q5;refine bE q5 ?_;intro _ q5;refine bE q5 ?_;intro _ q5;refine bE q5 ?_;intro _ q5;refine bE q5 ?_;intro _ q5;exact gstA D.b (toB (BA a0 ((w64 (56-(w64 (8*(i1:Int))))).toNat))) q8<|gM bl1 lk q5
 subst e;obtain rfl:=AlC q1;let x1:=(x2.1,x2.2.1,x2.2.2.1,x2.2.2.2.1,x2.2.2.2.2.1,x2.2.2.2.2.2.1,x2.2.2.2.2.2.2.1,x2.2.2.2.2.2.2.2);refine gslA (k:=1) eB ([x1.1,x1.2.1,x1.2.2.1,x1.2.2.2.1,x1.2.2.2.2.1,x1.2.2.2.2.2.1,x1.2.2.2.2.2.2.1,x1.2.2.2.2.2.2.2]:List UInt8) (fun _=>rfl) ?_;exact AlC hm▸gE
def HP (a0:g_api_Head):Option (List UInt8):=Ab (D6 a0.Log) fun x1=>Ab (D6 a0.Size) fun x2=>Ab (EJ a0.Root) fun x3=>Ab (D6 a0.At) fun x4=>Ab (Lh (⟨#[104,101,97,100]⟩:ByteArray) ([x1,x2,x3,x4]:List (List UInt8))) fun x5=>some x5
theorem Ox {a0 r}(hm:HP a0=some r):Sp prog 102 [ag (Af a0)] [] 0 (is (.ow 0) [.row 0 1 _ eB r] 1):=by
 refine sq ?_;intros;refine gD hm IF fun x1 q1 hm=>gD hm IF fun x2 q2 hm=>gD hm Kj fun x3 q3 hm=>gD hm IF fun x4 q4 hm=>AaO (k:=1) (eL eB) ([x1,x2,x3,x4]:List (List UInt8)) (fun _=>rfl)<|gD hm Ti fun _ q5 hm=> ?_;exact AlC hm▸gE
def EV (a0:g_api_Key)(a1:Int)(a2:Bool)(a3:List UInt8)(a4:g_api_Sig):Option Int:=Ab (Dp a1) fun x1=>if((!x1)||(!a2))=true then some 1 else if(a1 !=a0.Log)=true then some 240 else Ab (Dq a0.Key a3 a4) fun x2=>some x2
theorem Ov {a0 a1 a2 a3 a4 r}(hm:EV a0 a1 a2 a3 a4=some r):Sf prog 154 [ag (Ai a0),.d (.i a1),.d (.t a2),sl eB a3,ag (Lq a4)] (.d (.i r)):=by
 refine sq ?_;intros;refine gA hm EO fun _ q1 hm=>gi hm ?_ ?_<;>intro _ hm
 ·exact AlC hm▸gE
 refine gi hm ?_ ?_<;>intro _ hm
 ·exact AlC hm▸gE
 refine gA hm PW fun _ q2 hm=> ?_;exact AlC hm▸gE
def CT (a0:g_api_Key)(a1:g_api_Head):Option Int:=Ab (Dp a1.At) fun x1=>Ab (HP a1) fun x2=>Ab (EV a0 a1.Log ((x1&&(decide (a1.Size≥0)))&&(decide (a1.Size≤256))) x2 a1.Sig) fun x3=>some x3
theorem Qp {a0 a1 r}(hm:CT a0 a1=some r):Sf prog 200 [ag (Ai a0),ag (Af a1)] (.d (.i r)):=by
 refine sq ?_;intros;refine gA hm EO fun _ q1 hm=>gD hm Ox fun _ q2 hm=>gD hm Ov fun _ q3 hm=> ?_;exact AlC hm▸gE
def BP (a0:List g_api_Key)(i1:Int)(s1:Int×Int×UInt64×UInt64×Int×UInt64×UInt64):Option ((Int×Int×UInt64×UInt64×Int×UInt64×UInt64)⊕(Int×g_api_Head)):=Ab (idx a0 (i1:Int)) fun x3=>Ab (I4 x3 (⟨s1.1,s1.2.1,(s1.2.2.1,s1.2.2.2.1),s1.2.2.2.2.1,(⟨s1.2.2.2.2.2.1,s1.2.2.2.2.2.2⟩:g_api_Sig)⟩:g_api_Head)) fun x4=>if x4.1=true then some (.inr ((i1:Int),x4.2))else some (.inl (x4.2.Log,x4.2.Size,x4.2.Root.1,x4.2.Root.2,x4.2.At,x4.2.Sig.E,x4.2.Sig.S))
def Bp (a0:List g_api_Key)(k0:g_api_Head):Option (Int×g_api_Head):=Ab (BV (BP a0) a0.length 0 (k0.Log,k0.Size,k0.Root.1,k0.Root.2,k0.At,k0.Sig.E,k0.Sig.S)) fun x1=>match x1 with| .inr r=>some r| .inl y1=>some ((-1),(⟨y1.1,y1.2.1,(y1.2.2.1,y1.2.2.2.1),y1.2.2.2.2.1,(⟨y1.2.2.2.2.2.1,y1.2.2.2.2.2.2⟩:g_api_Sig)⟩:g_api_Head))
theorem FL {a0 k0 r}(hm:Bp a0 k0=some r):Sp prog 139 [sl Ai a0,.fn (.func 199) [] [.pb 0 0]] [.box 0 [.d (.i k0.Log),.d (.i k0.Size),.d (.u k0.Root.1),.d (.u k0.Root.2),.d (.i k0.At),.d (.u k0.Sig.E),.d (.u k0.Sig.S)] 38] 1 (is (.d (.i r.1)) [.box 0 [.d (.i r.2.Log),.d (.i r.2.Size),.d (.u r.2.Root.1),.d (.u r.2.Root.2),.d (.i r.2.At),.d (.u r.2.Sig.E),.d (.u r.2.Sig.S)] 38] 1):=by
 refine sq ?_;intros;refine oB hm fun _ q1 hm=>IU 0 (E:=Ai) (xs:=a0) 6 fun hle1=>gF (EN _ _ _) q1 (fun p0 (p_0,p_1,p_2,p_3,p_4,p_5,p_6)=>⟨[(0,sl Ai a0),(1,.fn (.func 199) [] [.pb 0 0]),(7,.d (.i (a0.length:Int))),(8,.d (.i p0))],[(0,.box 0 [.d (.i p_0),.d (.i p_1),.d (.u p_2),.d (.u p_3),.d (.i p_4),.d (.u p_5),.d (.u p_6)] 38)],[],1⟩) fun i1 s1 Jl bl1=>cN bl1 (a0.length:Int) (fun _ q4 bl1=> ?_) fun e=> ?_
 ·refine oB q4 fun _ q6 q4=>gx Ai 3 q6<|gD q4 Qs fun _ q7 q4=>gi q4 ?_ ?_<;>intro _ q4
  ·obtain rfl:=nT bl1 q4;exact AlC hm▸gE
  exact gT bl1 hle1 q4
 subst e;let y1:=s1;exact AlC hm▸gE
def GW (a0:g_api_Head)(a1:List g_api_Key):Option Bool:=Ab (Bp a1 a0) fun x1=>Ab (gu (decide (x1.1≥0)) (idx a1 x1.1)) fun x2=>Ab (gu (decide (x1.1≥0)) (CT x2 x1.2)) fun x3=>bnd (((decide (x1.1≥0))&&(x3==0))) fun x4=>some x4
theorem NH {a0 a1 r}(hm:GW a0 a1=some r):Sf prog 116 [ag (Af a0),sl Ai a1] (.d (.t r)):=by
 refine sq ?_;intros;refine gD hm FL fun _ q1 hm=>oB hm fun _ q2 hm=>gxG Ai 3 q2<|oB hm fun _ q3 hm=>gcH q3 Qp<|bE hm ?_;intro _ hm;exact AlC hm▸gE
def F4 (i1:Int)(x2:Int)(s1:Unit):Option ((Unit)⊕Int):=if(x2 !=0)=true then some (.inr x2)else some (.inl ())
def MV (a0:List Int):Option Int:=Ab (DK F4 a0 0 ()) fun x1=>match x1 with| .inr r=>some r| .inl y1=>some 0
theorem V0 {a0 r}(hm:MV a0=some r):Sf prog 322 [sl eI a0] (.d (.i r)):=by
 refine sq ?_;intros;refine oB hm fun _ q1 hm=>IU 0 (E:=eI) (xs:=a0) 6 fun hle1=>gF (ER _ _ _) q1 (fun p0 _=>⟨[(3,.d (.i 0)),(6,sl eI a0),(7,.d (.i (a0.length:Int))),(8,.d (.i p0))],[],[],0⟩) fun i1 s1 Jl bl1=>cR bl1 (fun _ _ q5 q4 bl1=> ?_) fun e=> ?_
 ·refine gx eI 1 q5<|gi q4 ?_ ?_<;>intro _ q4
  ·obtain rfl:=nT bl1 q4;exact AlC hm▸gE
  exact gT bl1 hle1 q4
 subst e;exact AlC hm▸gE
def Kz (a0:List Int):Option Int:=Ab (MV a0) fun x1=>some x1
theorem VV {a0 r}(hm:Kz a0=some r):Sf prog 267 [sl eI a0] (.d (.i r)):=by
 refine sq ?_;intros;refine gA hm V0 fun _ q1 hm=> ?_;exact AlC hm▸gE
def HW (a0:Int):Option Bool:=some (a0 !=a0)
theorem Mr {a0 r}(hm:HW a0=some r):Sf prog 265 [.d (.i a0)] (.d (.t r)):=by
 refine sq ?_;intros;exact AlC hm▸gE
def Dy (a0:Int)(a1:Int):Option Int:=Ab (HW a0) fun x1=>Ab (HW a1) fun x2=>if x1=true then if x2=true then some 0 else some (-1)else if x2=true then some 1 else if(decide (a0<a1))=true then some (-1)else if(decide (a0>a1))=true then some 1 else some 0
theorem Ih {a0 a1 r}(hm:Dy a0 a1=some r):Sf prog 268 [.d (.i a0),.d (.i a1)] (.d (.i r)):=by
 refine sq ?_;intros;refine gA hm Mr fun _ q1 hm=>gA hm Mr fun _ q2 hm=>gi hm ?_ ?_<;>intro _ hm
 ·refine gi hm ?_ ?_<;>intro _ hm
  ·exact AlC hm▸gE
  exact AlC hm▸gE
 refine gi hm ?_ ?_<;>intro _ hm
 ·exact AlC hm▸gE
 refine gi hm ?_ ?_<;>intro _ hm
 ·exact AlC hm▸gE
 refine gi hm ?_ ?_<;>intro _ hm
 ·exact AlC hm▸gE
 exact AlC hm▸gE
def FF (a0:UInt64):Option Bool:=bnd (((a0.toNat:Int) !=(a0.toNat:Int))) fun x1=>some x1
theorem Kk {a0 r}(hm:FF a0=some r):Sf prog 365 [.d (.u a0)] (.d (.t r)):=by
 refine sq ?_;intros;refine bE hm ?_;intro _ hm;exact AlC hm▸gE
def Ew (a0:UInt64)(a1:UInt64):Option Int:=Ab (FF a0) fun x1=>Ab (FF a1) fun x2=>if x1=true then if x2=true then some 0 else some (-1)else if x2=true then some 1 else if(decide ((a0.toNat:Int)<(a1.toNat:Int)))=true then some (-1)else if(decide ((a0.toNat:Int)>(a1.toNat:Int)))=true then some 1 else some 0
theorem Nz {a0 a1 r}(hm:Ew a0 a1=some r):Sf prog 323 [.d (.u a0),.d (.u a1)] (.d (.i r)):=by
 refine sq ?_;intros;refine gA hm Kk fun _ q1 hm=>gA hm Kk fun _ q2 hm=>gi hm ?_ ?_<;>intro _ hm
 ·refine gi hm ?_ ?_<;>intro _ hm
  ·exact AlC hm▸gE
  exact AlC hm▸gE
 refine gi hm ?_ ?_<;>intro _ hm
 ·exact AlC hm▸gE
 refine gi hm ?_ ?_<;>intro _ hm
 ·exact AlC hm▸gE
 refine gi hm ?_ ?_<;>intro _ hm
 ·exact AlC hm▸gE
 exact AlC hm▸gE
def BX (a0:List UInt64)(a1:List UInt64)(i1:Int)(s1:Unit):Option ((Unit)⊕Int):=Ab (idx a0 (i1:Int)) fun x3=>if(decide ((i1:Int)≥(a1.length:Int)))=true then some (.inr 1)else Ab (idx a1 (i1:Int)) fun x4=>Ab (Ew x3 x4) fun x5=>if(x5 !=0)=true then some (.inr x5)else some (.inl ())
def Ci (a0:List UInt64)(a1:List UInt64):Option Int:=Ab (BV (BX a0 a1) a0.length 0 ()) fun x1=>match x1 with| .inr r=>some r| .inl y1=>if(decide ((a0.length:Int)<(a1.length:Int)))=true then some (-1)else some 0
theorem IB {a0 a1 r}(hm:Ci a0 a1=some r):Sf prog 269 [sl eU a0,sl eU a1] (.d (.i r)):=by
 refine sq ?_;intros;refine oB hm fun _ q1 hm=>IU 0 (E:=eU) (xs:=a0) 9 fun hle1=>gF (EN _ _ _) q1 (fun p0 _=>⟨[(0,sl eU a0),(1,sl eU a1),(9,sl eU a0),(10,.d (.i (a0.length:Int))),(11,.d (.i p0))],[],[],0⟩) fun i1 s1 Jl bl1=>cN bl1 (a0.length:Int) (fun _ q4 bl1=> ?_) fun e=> ?_
 ·refine oB q4 fun _ q6 q4=>gx eU 1 q6<|gi q4 ?_ ?_<;>intro _ q4
  ·obtain rfl:=nT bl1 q4;exact AlC hm▸gE
  refine oB q4 fun _ q7 q4=>gx eU 1 q7<|gA q4 Nz fun _ q8 q4=>gi q4 ?_ ?_<;>intro _ q4
  ·obtain rfl:=nT bl1 q4;exact AlC hm▸gE
  exact gT bl1 hle1 q4
 subst e;refine gi hm ?_ ?_<;>intro _ hm
 ·exact AlC hm▸gE
 exact AlC hm▸gE
def D8 (a0:g_api_Head)(a1:g_api_Head):Option Int:=Ab (Dy a0.Log a1.Log) fun x1=>Ab (Dy a0.Size a1.Size) fun x2=>Ab (Ci ([a0.Root.1,a0.Root.2]:List UInt64) ([a1.Root.1,a1.Root.2]:List UInt64)) fun x3=>Ab (Dy a0.At a1.At) fun x4=>Ab (Kz ([x1,x2,x3,x4]:List Int)) fun x5=>some x5
theorem Mo {a0 a1 r}(hm:D8 a0 a1=some r):Sf prog 201 [ag (Af a0),ag (Af a1)] (.d (.i r)):=by
 refine sq ?_;intros;refine AkL 2 [.i a0.Log,.i a0.Size,.u a0.Root.1,.u a0.Root.2,.i a0.At,.u a0.Sig.E,.u a0.Sig.S]<|AkL 3 [.i a1.Log,.i a1.Size,.u a1.Root.1,.u a1.Root.2,.i a1.At,.u a1.Sig.E,.u a1.Sig.S]<|gA hm Ih fun x1 q1 hm=>gA hm Ih fun x2 q2 hm=>gslM (k:=1) (E:=eU) ([a0.Root.1,a0.Root.2]:List UInt64) (fun _=>rfl)<|gslM (k:=1) (E:=eU) ([a1.Root.1,a1.Root.2]:List UInt64) (fun _=>rfl)<|gA hm IB fun x3 q3 hm=>gA hm Ih fun x4 q4 hm=>gq eI 1 [x1,x2,x3,x4] ?_;refine gA hm VV fun _ q5 hm=> ?_;exact AlC hm▸gE
def Fi (a0:g_api_Head)(a1:g_api_Head):Option Int:=Ab (D8 a0 a1) fun x1=>some x1
theorem KH {a0 a1 r}(hm:Fi a0 a1=some r):Sf prog 118 [ag (Af a0),ag (Af a1)] (.d (.i r)):=by
 refine sq ?_;intros;refine gA hm Mo fun _ q1 hm=> ?_;exact AlC hm▸gE
def C1 (a0:g_api_Pool)(i1:Int)(s1:Unit):Option ((Unit)⊕Bool):=Ab (gu (decide ((i1:Int)>0)) (idx a0.L (w64 ((i1:Int)-1)))) fun x3=>Ab (gu (decide ((i1:Int)>0)) (idx a0.L (i1:Int))) fun x4=>Ab (gu (decide ((i1:Int)>0)) (Fi x3 x4)) fun x5=>if((decide ((i1:Int)>0))&&(decide (x5≥0)))=true then some (.inr false)else some (.inl ())
def G6 (a0:g_api_Pool):Option Bool:=Ab (BV (C1 a0) a0.L.length 0 ()) fun x1=>match x1 with| .inr r=>some r| .inl y1=>some true
theorem Qt {a0 r}(hm:G6 a0=some r):Sf prog 198 [ag (Nv a0)] (.d (.t r)):=by
 refine sq ?_;intros;refine oB hm fun _ q1 hm=>IU 0 (E:=Af) (xs:=a0.L) 5 fun hle1=>gF (EN _ _ _) q1 (fun p0 _=>⟨[(1,.pb 0 0),(6,.d (.i (a0.L.length:Int))),(7,.d (.i p0))],[(0,.box 0 [sl Af a0.L] 26)],[],1⟩) fun i1 s1 Jl bl1=>cN bl1 (a0.L.length:Int) (fun _ q4 bl1=> ?_) fun e=> ?_
 ·refine oB q4 fun _ q6 q4=>gxG Af 7 q6<|oB q4 fun _ q7 q4=>gxG Af 7 q7<|oB q4 fun _ q8 q4=>gcH q8 KH<|gi q4 ?_ ?_<;>intro _ q4
  ·obtain rfl:=nT bl1 q4;exact AlC hm▸gE
  exact gT bl1 hle1 q4
 subst e;exact AlC hm▸gE
def Gy (a1:List g_api_Key)(i1:Int)(x4:g_api_Head)(s1:Unit):Option ((Unit)⊕Int):=Ab (GW x4 a1) fun x5=>if(!x5)=true then some (.inr 40)else some (.inl ())
def GX (a0:g_api_Pool)(a1:List g_api_Key):Option Int:=bnd ((decide ((a0.L.length:Int)>1024))) fun x1=>if x1=true then some 2 else Ab (G6 a0) fun x2=>if(!x2)=true then some 1 else Ab (DK (Gy a1) a0.L 0 ()) fun x3=>match x3 with| .inr r=>some r| .inl y1=>some 0
theorem NI {a0 a1 r}(hm:GX a0 a1=some r):Sf prog 115 [ag (Nv a0),sl Ai a1] (.d (.i r)):=by
 refine sq ?_;intros;refine bE hm ?_;intro _ hm;refine gi hm ?_ ?_<;>intro _ hm
 ·exact AlC hm▸gE
 refine gA hm Qt fun _ q2 hm=>gi hm ?_ ?_<;>intro _ hm
 ·exact AlC hm▸gE
 refine oB hm fun _ q3 hm=>IU 1 (E:=Af) (xs:=a0.L) 17 fun hle1=>gF (ER _ _ _) q3 (fun p0 _=>⟨[(1,sl Ai a1),(17,sl Af a0.L),(18,.d (.i (a0.L.length:Int))),(19,.d (.i p0)),(2,.pb 0 0)],[(0,.box 0 [sl Af a0.L] 26)],[],1⟩) fun i1 s1 Jl bl1=>cR bl1 (fun _ _ q7 q6 bl1=> ?_) fun e=> ?_
 ·refine gx Af 7 q7<|gA q6 NH fun _ q8 q6=>gi q6 ?_ ?_<;>intro _ q6
  ·obtain rfl:=nT bl1 q6;exact AlC hm▸gE
  exact gT bl1 hle1 q6
 subst e;exact AlC hm▸gE
def Ch (a0:Aj):Option Int:=Ab (GX a0.Client.Pool a0.Client.Logs) fun x1=>some x1
theorem NA {a0 r}(hm:Ch a0=some r):Sf prog 50 [ag (Cz a0)] (.d (.i r)):=by
 refine sq ?_;intros;refine gA hm NI fun _ q1 hm=> ?_;exact AlC hm▸gE
def KS (a0:Int):Option Bool:=bnd (((decide ((0:Int)≤a0))&&(decide (a0≤1099511627776)))) fun x1=>some x1
theorem NJ {a0 r}(hm:KS a0=some r):Sf prog 190 [.d (.i a0)] (.d (.t r)):=by
 refine sq ?_;intros;refine bE hm ?_;intro _ hm;exact AlC hm▸gE
def F9 (a0:Int):Option Bool:=Ab (KS a0) fun x1=>bnd ((x1&&(decide (a0<68719476736)))) fun x2=>some x2
theorem My {a0 r}(hm:F9 a0=some r):Sf prog 104 [.d (.i a0)] (.d (.t r)):=by
 refine sq ?_;intros;refine gA hm NJ fun _ q1 hm=>bE hm ?_;intro _ hm;exact AlC hm▸gE
def G0 (a0:Int)(a1:Int):Option Int:=some (w64 ((w64 (16*a0))+a1))
theorem NK {a0 a1 r}(hm:G0 a0 a1=some r):Sf prog 106 [.d (.i a0),.d (.i a1)] (.d (.i r)):=by
 refine sq ?_;intros;exact AlC hm▸gE
def D4 (a0:Int):Option Bool:=bnd (((decide ((0:Int)≤a0))&&(decide (a0≤1099511627776)))) fun x1=>some x1
theorem Jc {a0 r}(hm:D4 a0=some r):Sf prog 159 [.d (.i a0)] (.d (.t r)):=by
 refine sq ?_;intros;refine bE hm ?_;intro _ hm;exact AlC hm▸gE
def Gk (a0:g_api_Sieve):Option Int:=Ab (if(decide (a0.Bits<8))=true then some (decide (a0.Bits<8))else if(decide (a0.Bits>8192))=true then some (decide (a0.Bits>8192))else some ((HZ a0.Bits 7) !=0)) fun x1=>if x1=true then some 1 else Ab (if(decide (a0.Hashes<1))=true then some (decide (a0.Hashes<1))else if(decide (a0.Hashes>8))=true then some (decide (a0.Hashes>8))else Ab (D4 a0.Salt) fun x3=>if(!x3)=true then some (!x3)else bnd (((a0.B.length:Int) !=(BA a0.Bits 3))) fun x4=>some x4) fun x2=>if x2=true then some 1 else some 0
theorem On {a0 r}(hm:Gk a0=some r):Sf prog 107 [ag (Ag a0)] (.d (.i r)):=by
 refine sq fun D0 As η0 m0 hd=>oB hm fun x1 q1 hm=>gj (fun(_:Unit)=>⟨[(1,.pb 0 0),(3,.d (.t x1))],[(0,.box 0 [.d (.i a0.Bits),.d (.i a0.Hashes),.d (.i a0.Salt),sl eB a0.B] 98)],[],1⟩) (fun _=>True) (fun Jp bk1=> ?_) fun _ _=> ?_
 ·refine gi q1 ?_ ?_<;>intro _ q1
  ·obtain rfl:=AlC q1;exact gb bk1 hd () trivial
  refine gi q1 ?_ ?_<;>intro _ q1
  ·obtain rfl:=AlC q1;exact gb bk1 hd () trivial
  obtain rfl:=AlC q1;exact gb bk1 hd () trivial
 refine gi hm ?_ ?_<;>intro _ hm
 ·exact AlC hm▸gE
 refine oB hm fun x2 q2 hm=>gj (fun(_:Unit)=>⟨[(14,.d (.t x2)),(1,.pb 0 0)],[(0,.box 0 [.d (.i a0.Bits),.d (.i a0.Hashes),.d (.i a0.Salt),sl eB a0.B] 98)],[],1⟩) (fun _=>True) (fun Jp bk2=> ?_) fun _ _=> ?_
 ·refine gi q2 ?_ ?_<;>intro _ q2
  ·obtain rfl:=AlC q2;exact gb bk2 hd () trivial
  refine gi q2 ?_ ?_<;>intro _ q2
  ·obtain rfl:=AlC q2;exact gb bk2 hd () trivial
  refine gA q2 Jc fun _ q3 q2=>gi q2 ?_ ?_<;>intro _ q2
  ·obtain rfl:=AlC q2;exact gb bk2 hd () trivial
  refine bE q2 ?_;intro _ q2;obtain rfl:=AlC q2;exact gb bk2 hd () trivial
 refine gi hm ?_ ?_<;>intro _ hm
 ·exact AlC hm▸gE
 exact AlC hm▸gE
def Ee (a0:g_api_Cascade)(i1:Int)(s1:Unit):Option ((Unit)⊕Int):=Ab (idx a0.Levels (i1:Int)) fun x4=>Ab (gu (!(x4.Hashes !=3)) (G0 a0.Day (i1:Int))) fun x5=>Ab (gu (!((x4.Hashes !=3)||(x4.Salt !=x5))) (Gk x4)) fun x6=>if(((x4.Hashes !=3)||(x4.Salt !=x5))||(x6 !=0))=true then some (.inr 1)else some (.inl ())
def AN (a0:g_api_Cascade):Option Int:=if(decide ((a0.Levels.length:Int)>16))=true then some 2 else Ab (F9 a0.Day) fun x1=>if(!x1)=true then some 1 else Ab (BV (Ee a0) a0.Levels.length 0 ()) fun x2=>match x2 with| .inr r=>some r| .inl y1=>some 0
theorem JJ {a0 r}(hm:AN a0=some r):Sf prog 34 [ag (Jt a0)] (.d (.i r)):=by
 refine sq ?_;intros;refine gi hm ?_ ?_<;>intro _ hm
 ·exact AlC hm▸gE
 refine gA hm My fun _ q1 hm=>gi hm ?_ ?_<;>intro _ hm
 ·exact AlC hm▸gE
 refine oB hm fun _ q2 hm=>IU 0 (E:=Ag) (xs:=a0.Levels) 14 fun hle1=>gF (EN _ _ _) q2 (fun p0 _=>⟨[(1,.pb 0 0),(14,sl Ag a0.Levels),(15,.d (.i (a0.Levels.length:Int))),(16,.d (.i p0))],[(0,.box 0 [.d (.i a0.Day),sl Ag a0.Levels] 29)],[],1⟩) fun i1 s1 Jl bl1=>cN bl1 (a0.Levels.length:Int) (fun _ q5 bl1=> ?_) fun e=> ?_
 ·refine oB q5 fun _ q7 q5=>gx Ag 4 q7<|oB q5 fun _ q8 q5=>gcH q8 NK<|oB q5 fun _ q9 q5=>gcH q9 On<|gi q5 ?_ ?_<;>intro _ q5
  ·obtain rfl:=nT bl1 q5;exact AlC hm▸gE
  exact gT bl1 hle1 q5
 subst e;exact AlC hm▸gE
def CE (a0:Aj):Option Int:=Ab (AN a0.Client.Cascade) fun x1=>some x1
theorem NY {a0 r}(hm:CE a0=some r):Sf prog 51 [ag (Cz a0)] (.d (.i r)):=by
 refine sq ?_;intros;refine gA hm JJ fun _ q1 hm=> ?_;exact AlC hm▸gE
def AJ (z0:Aj)(i1:Int)(s1:Unit):Option ((Unit)⊕Int):=if i1=0 then Ab (Ba z0) fun x3=>if(x3 !=0)=true then some (.inr x3)else some (.inl ())else if i1=1 then Ab (Ch z0) fun x4=>if(x4 !=0)=true then some (.inr x4)else some (.inl ())else Ab (CE z0) fun x5=>if(x5 !=0)=true then some (.inr x5)else some (.inl ())
def Df (z0:Aj):Option Int:=Ab (BV (AJ z0) 3 0 ()) fun x1=>match x1 with| .inr r=>some r| .inl y1=>some 0
theorem K0 {z0 r}(hm:Df z0=some r):Sp prog 42 [.bs 0 0 3 3] [.box 0 [.d (.cl 49 (Cz z0)),.d (.cl 50 (Cz z0)),.d (.cl 51 (Cz z0))] 106] 1 (is (.d (.i r)) [] 1):=by
 refine sq ?_;intros;refine oB hm fun _ q1 hm=>gF (EN _ 3 _) q1 (fun p0 _=>⟨[(6,.bs 0 0 3 3),(7,.d (.i 3)),(8,.d (.i p0))],[(0,.box 0 [.d (.cl 49 (Cz z0)),.d (.cl 50 (Cz z0)),.d (.cl 51 (Cz z0))] 106)],[],1⟩) fun i1 s1 Jl bl1=>cN bl1 (3:Int) (fun _ q4 bl1=> ?_) fun e=> ?_
 ·obtain rfl|rfl|rfl:i1=0∨i1=1∨i1=2:=by have h:=bl1.1.1; change i1<3 at h; omega
  ·refine gA q4 NW fun _ q6 q4=>gi q4 ?_ ?_<;>intro _ q4
   ·obtain rfl:=nT bl1 q4;exact AlC hm▸gE
   exact gT bl1 lk q4
  ·refine gA q4 NA fun _ q7 q4=>gi q4 ?_ ?_<;>intro _ q4
   ·obtain rfl:=nT bl1 q4;exact AlC hm▸gE
   exact gT bl1 lk q4
  refine gA q4 NY fun _ q8 q4=>gi q4 ?_ ?_<;>intro _ q4
  ·obtain rfl:=nT bl1 q4;exact AlC hm▸gE
  exact gT bl1 lk q4
 subst e;exact AlC hm▸gE
def m_client_Check (a0:g_api_Client):Option Int:=Ab (Df (⟨a0⟩:Aj)) fun x1=>some x1
theorem GN {a0 r}(hm:m_client_Check a0=some r):Sf prog 20 [ag (Gd a0)] (.d (.i r)):=by
 refine sq ?_;intros;refine gfs<|gD hm K0 fun _ q1 hm=> ?_;exact AlC hm▸gE
def Ck (a0:List g_api_Key):Option (List g_api_Key):=Ab (app 24 ([]:List g_api_Key) a0) fun x1=>some x1
theorem IE {a0 r}(hm:Ck a0=some r):Sp prog 39 [sl Ai a0] [] 0 (is (.ow 0) [.row 0 3 _ Ai r] 1):=by
 refine sq ?_;intros;unfold Ck at hm;refine gnq Ai a0 (fun he1=> ?_) ?_
 ·rw[he1]at hm;replace hm:(some ([]:List g_api_Key))=some _:=hm;refine R0 Ai 2 3 ?_;exact AlC hm▸gE
 refine AaP (k:=3) Ai ([]:List g_api_Key) (fun _=>rfl)<|oB hm fun _ q1 hm=>gp Ai 3 q1 ?_;exact AlC hm▸gE
def F7 (a0:ByteArray)(a1:List g_api_Cert)(a2:List g_api_Key)(a3:Int):Option (g_api_Client×Int):=Ab (A4 a1) fun x1=>Ab (Ck a2) fun x2=>Ab (m_client_Check (⟨a0,x1,x2,(⟨[]⟩:g_api_Pool),(⟨0,[]⟩:g_api_Cascade),a3⟩:g_api_Client)) fun x3=>if(x3 !=0)=true then some ((⟨ByteArray.empty,[],[],(⟨[]⟩:g_api_Pool),(⟨0,[]⟩:g_api_Cascade),0⟩:g_api_Client),x3)else some ((⟨a0,x1,x2,(⟨[]⟩:g_api_Pool),(⟨0,[]⟩:g_api_Cascade),a3⟩:g_api_Client),x3)
theorem P1 {a0 a1 a2 a3 r}(hm:F7 a0 a1 a2 a3=some r):Sf prog 13 [.d (.s a0),sl Ac a1,sl Ai a2,.d (.i a3)] (.tup [ag (Gd r.1),.d (.i r.2)]):=by
 refine sq ?_;intros;refine gD hm Em fun _ q1 hm=>gD hm IE fun _ q2 hm=>gD hm GN fun _ q3 hm=>gi hm ?_ ?_<;>intro _ hm
 ·exact AlC hm▸gE
 exact AlC hm▸gE
def A0 (a0:List g_api_Head)(a1:Int)(a2:List g_api_Head):Option (List g_api_Head):=if(0:Int)≤a1∧a1≤(a0.length:Int)then if((a2.length:Int)==0)=true then some a0 else if(a1==(a0.length:Int))=true then Ab (app 56 a0 a2) fun x1=>some x1 else Ab (app 56 a0 a2) fun _=>some (a0.take a1.toNat++a2++a0.drop a1.toNat)else none
theorem HA {m As w a0 a0v0 a0c0 a1 a2}{a2v0:Value}{r}(S:St m ((row 7 a0v0 a0c0 a0.length)::As) w)(a0h0:CI m a0c0 a0)(a2h0:SlR m a2v0 a2)(hm:A0 a0 a1 a2=some r):
  C4 Tryz.prog 119 #[a0v0,vI a1,a2v0] w fun v w'=> ∃(M:Mem),m≤M∧∃(rv0:Value) (rc0:List Value),St M ((row 7 rv0 rc0 r.length)::As) w'∧v=rv0∧CI M rc0 r:=by
 unfold A0 at hm;have L0:=Mem.rfl' m;refine Pa (args:=[a0v0,vI a1,a2v0]) Tryz.func119 rfl Tryz.ntmps119 (AlS rfl)<|AY<|AB<|GJ (v:= .slice none 0 0) rfl<|AK<|nrm<|AY<|AB<|A9 (v:=a0v0) rfl ?_;refine A9 (v:=vI a1) rfl ?_;obtain⟨⟨q1,q2⟩,hm⟩:=BI hm;refine s_cutX (i:=0) S rfl rfl Tryz.underlying24 Tryz.sizeOf38 rfl q1 q2 ?_;intro v1;refine AK<|nrm<|AY<|AB<|A9 (v:=a2v0) rfl<|Wd (xs:=a2) rfl a2h0 Tryz.underlying24<|GJ (v:=vI (a2.length:Int)) rfl<|AK<|nrm ?_;refine AY<|AY<|AB<|A9 (v:=vI (a2.length:Int)) rfl<|Afu (m:=(a2.length:Int)) (n:=0) rfl rfl<|AK<|nrm<|JC (t:=((a2.length:Int)==0)) rfl (fun hc1=> ?_) (fun hc1=> ?_)
 ·replace hm:=ifT hc1 hm;refine AY<|AB<|A9 (v:=a0v0) rfl<|GJ (v:=a0v0) rfl<|AK<|nrm<|JB<|thR<|RE ?_;intro we hpd;replace S:=St.pd S hpd;obtain rfl:=AlC hm;exact Abi [_] rfl ⟨rfl,trivial⟩ ⟨_,L0,_,_,S,rfl,a0h0⟩
 replace hm:=ifF hc1 hm;refine Gf<|nrm<|AY<|AB<|A9 (v:=a0v0) rfl<|AhE (i:=0) S rfl rfl Tryz.underlying24<|GJ (v:=vI (a0.length:Int)) rfl<|AK<|nrm ?_;refine AY<|AY<|AB<|A9 (v:=vI a1) rfl<|A9 (v:=vI (a0.length:Int)) rfl<|Afu (m:=a1) (n:=(a0.length:Int)) rfl rfl<|AK<|nrm<|JC (t:=(a1==(a0.length:Int))) rfl (fun hc2=> ?_) (fun hc2=> ?_)
 ·replace hm:=ifT hc2 hm;refine AY<|AB<|A9 (v:=a0v0) rfl<|A9 (v:=a2v0) rfl ?_;obtain⟨x1,q3,hm⟩:=Ae hm;refine Ajv (i:=0) (zs:=x1) (bytes:=56) (ti:=Tryz.t38) S rfl rfl a0h0 rfl rfl a2h0 q3 Tryz.underlying24 Tryz.type38 rfl rfl rfl rfl ?_;intro v2 c1 w1 S1 h1;replace S1:St _ ((row 7 v2 c1 x1.length)::As) _:=S1;clear S;refine GJ (v:=v2) rfl<|AK<|nrm<|JB<|thR<|RE ?_;intro we hpd;replace S1:=St.pd S1 hpd;obtain rfl:=AlC hm;exact Abi [_] rfl ⟨rfl,trivial⟩ ⟨_,L0,_,_,S1,rfl,h1⟩
 replace hm:=ifF hc2 hm;obtain⟨xz,q3,hm⟩:=Ae hm;obtain⟨⟨qb,q63⟩,_⟩:=BI q3;have e0:=AlC hm;clear hm q3;obtain⟨i,rfl⟩: ∃i:Nat,a1=(i:Int):=⟨a1.toNat,by omega⟩;rw[Amk]at e0;have hin:i<a0.length:=by
  have:((i:Int)==(a0.length:Int))=false:=hc2;have:=ne_of_beq_false this;omega
 have hm0:0<a2.length:=by
  have:=ne_of_beq_false hc1;omega
 obtain⟨b,cap,l,e,fr,rfl,hc,ht,hl,hnc,hcm,hfr,hf2,S1⟩:=S.rowBlk (by omega);clear S;have hfr0:fr.1=fr.2:=hf2.resolve_right (by decide);obtain⟨ds,hs2,hr2⟩:=a2h0;have hs2':=hs2;obtain⟨hdl,hd63,⟨hz,_⟩|⟨b2,off2,cap2,l2,e2,fr2,rfl,hcap2,hb2,hget2⟩⟩:=hs2
 ·omega
 replace hdl:ds.length=a2.length*7:=hdl;have him:i+a2.length≤a0.length+a2.length:=Nat.add_le_add_right (Nat.le_of_lt hin) _;have hrl:r.length=a0.length+a2.length:=by rw[←e0]; simp only[AlI,Al0,Amg]; omega
 have hcl:a0c0.length=i*7+(a0.length-i)*7:=by rw[hc]; omega
 have hone0:=a0h0.one;have hone2:=hr2.one;have hrep:CI m (a0c0.take (i*7)++ds++a0c0.drop (i*7)) r:=by rw[←e0]; exact((a0h0.take i).append hr2).append (a0h0.drop i)
 have hls:l.toList.length=cap*7:=by rw[Array.length_toList]; exact hl
 have hes:(l.toList.drop (i*7)).take ((a0.length-i)*7)=a0c0.drop (i*7):=by
  rw[←ht,List.drop_take]; congr 1; omega
 have hdr:(a0c0.drop (i*7)).length=(a0.length-i)*7:=by rw[Amg,hcl]; omega
 have htk:l.toList.take (i*7)=a0c0.take (i*7):=by rw[←ht,List.take_take]; congr 1; omega
 refine Gf<|nrm<|AY<|ws<|A9 (v:=vI (a0.length:Int)) rfl<|A9 (v:=vI (a2.length:Int)) rfl<|Rp (m:=(a0.length:Int)) (n:=(a2.length:Int)) rfl rfl<|Ajj (Al9 vI (Nq (a:=a0.length) (b:=a2.length) q63))<|A9 (v:= .slice (some ⟨b,0,none⟩) a0.length cap) rfl<|s_cap rfl underlying24<|Aam (m:=((a0.length+a2.length:Nat):Int)) (n:=(cap:Int)) rfl rfl<|AK<|nrm<|JC (t:=decide (((a0.length+a2.length:Nat):Int)>(cap:Int))) rfl (fun hc3=> ?_) (fun hc3=> ?_)
 ·have hc3:cap<a0.length+a2.length:=by have:=Amx hc3; omega
  refine ws<|A9 (v:= .slice (some ⟨b,0,none⟩) a0.length cap) rfl<|A9 (v:=vI (i:Int)) rfl<|AhC (b:=b) (o:=0) (n:=a0.length) (cap:=cap) (j:=i) rfl rfl underlying24 sizeOf38 (by omega) (by omega)<|A9 (v:=vI (a0.length:Int)) rfl<|A9 (v:=vI (a2.length:Int)) rfl<|Rp (m:=(a0.length:Int)) (n:=(a2.length:Int)) rfl rfl<|Ajj (Al9 vI (Nq (a:=a0.length) (b:=a2.length) q63))<|A9 (v:=vI (i:Int)) rfl<|ON (m:=((a0.length+a2.length:Nat):Int)) (n:=(i:Int)) rfl rfl<|Ajj (Al9 vI (Afc (a:=a0.length+a2.length) (b:=i) q63 (Amv (Nat.le_add_right i a2.length) him)))<|s_appZ (sz:=7) (bytes:=56) (i:=i) (k:=a0.length+a2.length-i) (ti:=Tryz.t38) S1 rfl rfl (by omega) (by omega) (by omega) (by omega) (by omega) underlying24 underlying3 type38 rfl rfl rfl rfl (by decide) fun nb c2 w3 L hg1 hg2 hL hLt S3=> ?_;rw[show i+(a0.length+a2.length-i)=a0.length+a2.length from by omega]at hg1⊢;have hLs:L.toList.length=c2*7:=by rw[Array.length_toList]; exact hL
  refine GJ (v:= .slice (some ⟨nb,0,none⟩) (a0.length+a2.length) c2) rfl<|AK<|nrm<|ws<|A9 (v:= .slice (some ⟨nb,0,none⟩) (a0.length+a2.length) c2) rfl<|A9 (v:=vI (i:Int)) rfl<|Ro (b:=nb) (o:=0) (n:=a0.length+a2.length) (cap:=c2) (j:=i) rfl rfl underlying24 sizeOf38 (by omega) (by omega) (by omega)<|A9 (v:= .slice (some ⟨b2,off2,none⟩) a2.length cap2) rfl<|Y6 (i:=0) (sz:=7) (k:=a2.length) (sl:=a2.length) (ds:=ds) S3 rfl rfl rfl underlying24 sizeOf38 (La _) (by show min _ _=_; omega) (Ez S3 hs2' _) hone2 (by rw[hdl,hL]; omega) (by simp[Ae1]) fun w4 S4=> ?_;rw[List.set_cons_zero,Amb,hdl]at S4;refine AK<|nrm ?_;have hb4:=S4.blk (i:=1) rfl;have HM:J6 [(46,fv (.slice (some ⟨nb,0,none⟩) (a0.length+a2.length) c2)),(47,fv (vI (i:Int))),(48,fv (vI (a2.length:Int))),(49,fv (vI ((i+a2.length:Nat):Int))),(50,fv (.slice (some ⟨nb,0+(i+a2.length)*7,none⟩) (a0.length+a2.length-(i+a2.length)) (c2-(i+a2.length)))),(51,fv (.slice (some ⟨b,0,none⟩) a0.length cap)),(52,fv (vI (i:Int))),(53,fv (.slice (some ⟨b,0+i*7,none⟩) (a0.length-i) (cap-i)))]:=⟨mv,mv,mv,mv,mv,mv,mv,mv,trivial⟩;refine AY<|Of HM 8 Af8 rfl rfl rfl (rg 46 8) (fun L f M w=>St M (_::_::As) w) (St.drew S4 _) ?_ ?_
  ·refine⟨?_,?_,?_,?_,?_,?_,?_,?_,trivial⟩
   ·exact flp HM rfl [] (fun _ _=>trivial) (fun _ _ q=>A9 (v:= .slice (some ⟨nb,0,none⟩) (a0.length+a2.length) c2) rfl q) rfl
   ·exact flp HM rfl [] (fun _ _=>trivial) (fun _ _ q=>A9 (v:=vI (i:Int)) rfl q) rfl
   ·exact flp HM rfl [] (fun _ _=>trivial) (fun _ _ q=>A9 (v:=vI (a2.length:Int)) rfl q) rfl
   ·exact flp HM rfl [(47,_),(48,_)] (fun K _=>⟨K 1 rfl,K 2 rfl,trivial⟩) (fun _ _ q=>Rp (m:=(i:Int)) (n:=(a2.length:Int)) rfl rfl (Ajj (Al9 vI (Nq (a:=i) (b:=a2.length) (Amv him q63))) q)) rfl
   ·exact flp HM rfl [(46,_),(49,_)] (fun K _=>⟨K 0 rfl,K 3 rfl,trivial⟩) (fun _ _ q=>Ro (b:=nb) (o:=0) (n:=a0.length+a2.length) (cap:=c2) (j:=i+a2.length) rfl rfl underlying24 sizeOf38 (by omega) (by omega) (by omega) q) rfl
   ·exact flp HM rfl [] (fun _ _=>trivial) (fun _ _ q=>A9 (v:= .slice (some ⟨b,0,none⟩) a0.length cap) rfl q) rfl
   ·exact flp HM rfl [] (fun _ _=>trivial) (fun _ _ q=>A9 (v:=vI (i:Int)) rfl q) rfl
   ·exact flp HM rfl [(51,_),(52,_)] (fun K _=>⟨K 5 rfl,K 6 rfl,trivial⟩) (fun _ _ q=>Ro (b:=b) (o:=0) (n:=a0.length) (cap:=cap) (j:=i) rfl rfl underlying24 sizeOf38 (by omega) (by omega) (by omega) q) rfl
  intro L8 f8 w8 hall ⟨m8,l8,S8,K,hO⟩;have d4:L8 4=true:=hall 4 (by decide);have d7:L8 7=true:=hall 7 (by decide);obtain⟨u8,rfl⟩:=LY (N:=95) (L:=[(50,_),(53,_)]) hO ⟨K 4 d4,K 7 d7,trivial⟩;have hb8:=S8.blk (i:=1) rfl;have hq8:=MJ (P:=Tryz.prog) (n:=a0.length-i) (c:=cap-i) (sz:=7) (k:=a0.length-i) (off:=0+i*7) hb8 (by omega);rw[show(l.toList.drop (0+i*7)).take ((a0.length-i)*7)=a0c0.drop (i*7)from by rw[Amb]; exact hes]at hq8;refine Y6 (i:=0) (sz:=7) (k:=a0.length-i) (sl:=a0.length-i) (ds:=a0c0.drop (i*7)) S8 rfl rfl rfl underlying24 sizeOf38 (La _) (by show min _ _=_; omega) hq8 (fun u hu=>hone0 u (List.mem_of_mem_drop hu)) (by simp only[hdr,List.size_toArray,AlI,Al0,Amg]; omega) (by simp[Ae1]) fun w9 S9=> ?_;rw[List.set_cons_zero,hdr,show 0+(i+a2.length)*7=i*7+a2.length*7 from by omega]at S9;refine AK<|nrm<|ws<|A9 (v:= .slice (some ⟨nb,0,none⟩) (a0.length+a2.length) c2) rfl<|GJ (v:= .slice (some ⟨nb,0,none⟩) (a0.length+a2.length) c2) rfl<|AK<|nrm<|JB<|thR<|RE fun we hpd=> ?_;obtain⟨m9,l9,S10⟩:=S9.drop 1;have S11:=St.pd S10 hpd;have S12:St m9 (row 7 (.slice (some ⟨nb,0,none⟩) (a0.length+a2.length) c2) (a0c0.take (i*7)++ds++a0c0.drop (i*7)) r.length::As) we:=by
   rw[hrl];refine St.blkRow S11 ?_ ?_ ?_ hg1 hg2 (by simp[Ae1]) (.inl rfl)
   ·simp only[AlI,Al0,hdr]; omega
   ·rw[show(a0.length+a2.length)*7=i*7+a2.length*7+(a0.length-i)*7 from by omega];exact insA hdl hcl (hLt.trans htk) (by omega)
   ·simp only[List.size_toArray,AlI,Al0,Amg]; omega
  exact Abi [_] rfl ⟨rfl,trivial⟩ ⟨_,mt l8 l9,_,_,S12,rfl,CI.up (mt l8 l9) hrep⟩
 have hc3:a0.length+a2.length≤cap:=by have:=of_decide_eq_false hc3; omega
 have hne:b2≠b:=by
  rintro rfl;obtain⟨h1,ha,_,hd,_⟩:=S1.take (i:=0) rfl;rcases hd b2 with q|q
  ·rw[hb2]at q; cases q
  ·rw[show h1=PH.one b2 _ from ha]at q; simp[PH.one]at q
 have hl2:l2.size≠0:=by
  intro q;have h0:0<ds.length:=by omega
  have:=hget2 0 _ (Amn h0);rw[Array.getElem?_eq_none (by omega)]at this;cases this
 refine Gf<|nrm<|ws<|A9 (v:= .slice (some ⟨b,0,none⟩) a0.length cap) rfl<|A9 (v:=vI (a0.length:Int)) rfl<|A9 (v:=vI (a2.length:Int)) rfl<|Rp (m:=(a0.length:Int)) (n:=(a2.length:Int)) rfl rfl<|Ajj (Al9 vI (Nq (a:=a0.length) (b:=a2.length) q63))<|AhC (b:=b) (o:=0) (n:=a0.length) (cap:=cap) (j:=a0.length+a2.length) rfl rfl underlying24 sizeOf38 hc3 (by omega)<|GJ (v:= .slice (some ⟨b,0,none⟩) (a0.length+a2.length) cap) rfl<|AK<|nrm<|AY<|ws<|A9 (v:= .slice (some ⟨b2,off2,none⟩) a2.length cap2) rfl<|A9 (v:= .slice (some ⟨b,0,none⟩) (a0.length+a2.length) cap) rfl<|A9 (v:=vI (i:Int)) rfl<|A9 (v:=vI (a2.length:Int)) rfl<|Rp (m:=(i:Int)) (n:=(a2.length:Int)) rfl rfl<|Ajj (Al9 vI (Nq (a:=i) (b:=a2.length) (Amv him q63)))<|Ro (b:=b) (o:=0) (n:=a0.length+a2.length) (cap:=cap) (j:=i+a2.length) rfl rfl underlying24 sizeOf38 (by omega) (by omega) (by omega)<|Aal (ps:= #[24,24]) (rs:= #[4]) func202 rfl rfl rfl (by kernel_rfl) rfl rfl rfl underlying24 sizeOf38 (by omega) (by omega) (by decide) hne (S1.mem hb2) (S1.blk (i:=0) rfl) hl2 hfr0<|Ajk rfl<|AK<|nrm<|JC (t:=(!false)) rfl (fun _=> ?_) (fun h=>by cases h);have HM:J6 [(69,fv (.slice (some ⟨b,0,none⟩) (a0.length+a2.length) cap)),(70,fv (vI (i:Int))),(71,fv (vI (a2.length:Int))),(72,fv (vI ((i+a2.length:Nat):Int))),(73,fv (.slice (some ⟨b,0+(i+a2.length)*7,none⟩) (a0.length+a2.length-(i+a2.length)) (cap-(i+a2.length)))),(74,fv (.slice (some ⟨b,0,none⟩) (a0.length+a2.length) cap)),(75,fv (vI (i:Int))),(76,fv (.slice (some ⟨b,0+i*7,none⟩) (a0.length+a2.length-i) (cap-i)))]:=⟨mv,mv,mv,mv,mv,mv,mv,mv,trivial⟩;refine AY<|Of HM 8 Af8 rfl rfl rfl (rg 69 8) (fun L f M w=>St M (_::As) w) (St.drew S1 _) ?_ ?_
 ·refine⟨?_,?_,?_,?_,?_,?_,?_,?_,trivial⟩
  ·exact flp HM rfl [] (fun _ _=>trivial) (fun _ _ q=>A9 (v:= .slice (some ⟨b,0,none⟩) (a0.length+a2.length) cap) rfl q) rfl
  ·exact flp HM rfl [] (fun _ _=>trivial) (fun _ _ q=>A9 (v:=vI (i:Int)) rfl q) rfl
  ·exact flp HM rfl [] (fun _ _=>trivial) (fun _ _ q=>A9 (v:=vI (a2.length:Int)) rfl q) rfl
  ·exact flp HM rfl [(70,_),(71,_)] (fun K _=>⟨K 1 rfl,K 2 rfl,trivial⟩) (fun _ _ q=>Rp (m:=(i:Int)) (n:=(a2.length:Int)) rfl rfl (Ajj (Al9 vI (Nq (a:=i) (b:=a2.length) (Amv him q63))) q)) rfl
  ·exact flp HM rfl [(69,_),(72,_)] (fun K _=>⟨K 0 rfl,K 3 rfl,trivial⟩) (fun _ _ q=>Ro (b:=b) (o:=0) (n:=a0.length+a2.length) (cap:=cap) (j:=i+a2.length) rfl rfl underlying24 sizeOf38 (by omega) (by omega) (by omega) q) rfl
  ·exact flp HM rfl [] (fun _ _=>trivial) (fun _ _ q=>A9 (v:= .slice (some ⟨b,0,none⟩) (a0.length+a2.length) cap) rfl q) rfl
  ·exact flp HM rfl [] (fun _ _=>trivial) (fun _ _ q=>A9 (v:=vI (i:Int)) rfl q) rfl
  ·exact flp HM rfl [(74,_),(75,_)] (fun K _=>⟨K 5 rfl,K 6 rfl,trivial⟩) (fun _ _ q=>Ro (b:=b) (o:=0) (n:=a0.length+a2.length) (cap:=cap) (j:=i) rfl rfl underlying24 sizeOf38 (by omega) (by omega) (by omega) q) rfl
 intro L8 f8 w8 hall ⟨m8,l8,S8,K,hO⟩;have d4:L8 4=true:=hall 4 (by decide);have d7:L8 7=true:=hall 7 (by decide);obtain⟨u8,rfl⟩:=LY (N:=95) (L:=[(73,_),(76,_)]) hO ⟨K 4 d4,K 7 d7,trivial⟩;have hb8:=S8.blk (i:=0) rfl;have hq8:=MJ (P:=Tryz.prog) (n:=a0.length+a2.length-i) (c:=cap-i) (sz:=7) (k:=a0.length-i) (off:=0+i*7) hb8 (by omega);rw[show(l.toList.drop (0+i*7)).take ((a0.length-i)*7)=a0c0.drop (i*7)from by rw[Amb]; exact hes]at hq8;refine Y6 (i:=0) (sz:=7) (k:=a0.length-i) (sl:=a0.length+a2.length-i) (ds:=a0c0.drop (i*7)) S8 rfl rfl rfl underlying24 sizeOf38 (La _) (by show min _ _=_; omega) hq8 (fun u hu=>hone0 u (List.mem_of_mem_drop hu)) (by rw[hdr]; omega) hfr fun w9 S9=> ?_;rw[List.set_cons_zero,hdr,show 0+(i+a2.length)*7=i*7+a2.length*7 from by omega]at S9;have hsz1:(l.toList.take (i*7+a2.length*7)++a0c0.drop (i*7)++l.toList.drop (i*7+a2.length*7+(a0.length-i)*7)).toArray.size=l.size:=by
  simp only[List.size_toArray,AlI,Al0,Amg,hdr]; omega
 refine AK<|nrm<|ws<|A9 (v:= .slice (some ⟨b,0,none⟩) (a0.length+a2.length) cap) rfl<|A9 (v:=vI (i:Int)) rfl<|Ro (b:=b) (o:=0) (n:=a0.length+a2.length) (cap:=cap) (j:=i) rfl rfl underlying24 sizeOf38 (by omega) (by omega) (by omega)<|A9 (v:= .slice (some ⟨b2,off2,none⟩) a2.length cap2) rfl<|Y6 (i:=0) (sz:=7) (k:=a2.length) (sl:=a2.length) (ds:=ds) S9 rfl rfl rfl underlying24 sizeOf38 (La _) (by show min _ _=_; omega) (Ez S9 (hs2'.up l8) _) hone2 (by rw[hdl,hsz1,hl]; omega) (by rw[hsz1]; exact hfr) fun w10 S10=> ?_;rw[List.set_cons_zero,Amb,hdl]at S10;refine AK<|nrm<|ws<|A9 (v:= .slice (some ⟨b,0,none⟩) (a0.length+a2.length) cap) rfl<|GJ (v:= .slice (some ⟨b,0,none⟩) (a0.length+a2.length) cap) rfl<|AK<|nrm<|JB<|thR<|RE fun we hpd=> ?_;have S11:=St.pd S10 hpd;have S12:St m8 (row 7 (.slice (some ⟨b,0,none⟩) (a0.length+a2.length) cap) (a0c0.take (i*7)++ds++a0c0.drop (i*7)) r.length::As) we:=by
  rw[hrl];have hsz:(List.take (i*7) (l.toList.take (i*7+a2.length*7)++a0c0.drop (i*7)++l.toList.drop (i*7+a2.length*7+(a0.length-i)*7))++ds++List.drop (i*7+a2.length*7) (l.toList.take (i*7+a2.length*7)++a0c0.drop (i*7)++l.toList.drop (i*7+a2.length*7+(a0.length-i)*7))).toArray.size=l.size:=by
   simp only[List.size_toArray,AlI,Al0,Amg,hdr]; omega
  refine St.blkRow S11 ?_ ?_ (hsz.trans hl) hc3 hcm (hsz▸hfr) (.inl hfr0)
  ·simp only[AlI,Al0,hdr]; omega
  ·rw[show(a0.length+a2.length)*7=i*7+a2.length*7+(a0.length-i)*7 from by omega];exact insB hdl (by rw[←ht]; congr 1; omega) (by omega)
 exact Abi [_] rfl ⟨rfl,trivial⟩ ⟨_,l8,_,_,S12,rfl,CI.up l8 hrep⟩
theorem HI {a0 a1 a2 r}(hm:A0 a0 a1 a2=some r):Sp prog 119 [.ow 0,.d (.i a1),sl Af a2] [.row 0 7 _ Af a0] 1 (is (.ow 1) [.row 1 7 _ Af r] 2):=
 ⟨call119,fun η m As w vs hv0 hd S=>by
  have S:St m (rep η m (.row 0 7 _ Af a0)::As) w:=S;obtain⟨v0,u0,rfl,r0,hv1⟩:=B5.cons_inv hv0;obtain⟨v1,u1,rfl,r1,hv2⟩:=B5.cons_inv hv1;obtain rfl:=r1.i_inv;obtain⟨v2,u2,rfl,r2,hv3⟩:=B5.cons_inv hv2;have f2:=Br.ofS PU r2.dd;obtain rfl:=B5.nil_inv hv3;exact ownB hd r0 S (fun k3 S1=>HA S1 (Br.ofL PU k3) f2 hm) PU⟩
end Go.Proofs.YtnhdojckpcbjeaaGreatDoor
