/- The walks of some functions, by the executor, written by program. Conditions: none. -/
import Derived.Test.YtnhdojckpcbjeaaGreatDoorZh
import Derived.Test.YtnhdojckpcbjeaaGreatDoorZi
set_option linter.unusedSimpArgs false
set_option linter.unusedVariables false
set_option maxHeartbeats 20000000
set_option maxRecDepth 100000
namespace Go.Proofs.YtnhdojckpcbjeaaGreatDoor
open Go Go.Gw Go.Ax Tryz
attribute [local irreducible] Go.Ax.Go
def Fp (i1:Int)(s1:UInt64×UInt64×UInt64×Int×UInt64):Option (UInt64×UInt64×UInt64×Int×UInt64):=Ab (idx [s1.1,s1.2.1,s1.2.2.1] (i1:Int)) fun x3=>Ab (I0 (i1:Int) x3 s1.2.2.2.1 s1.2.2.2.2) fun x4=>Ab (idx [s1.1,s1.2.1,s1.2.2.1] (i1:Int)) fun x5=>bnd (if(i1:Int)=0 then x4.1 else s1.1) fun x6=>bnd (if(i1:Int)=1 then x4.1 else s1.2.1) fun x7=>bnd (if(i1:Int)=2 then x4.1 else s1.2.2.1) fun x8=>some (x6,x7,x8,x4.2.1,x4.2.2)
def CQ (a0:UInt64×UInt64×UInt64)(k0:Int)(k1:UInt64):Option ((UInt64×UInt64×UInt64)×Int×UInt64):=Ab (CD Fp 3 0 (a0.1,a0.2.1,a0.2.2,k0,k1)) fun x1=>some ((x1.1,x1.2.1,x1.2.2.1),x1.2.2.2.1,x1.2.2.2.2)
theorem KQ {a0 k0 k1 r}(hm:CQ a0 k0 k1=some r):Sp prog 355 [.pb 0 0,.fn (.func 356) [] [.pb 1 0,.pb 2 0]] [.box 0 [.d (.u a0.1),.d (.u a0.2.1),.d (.u a0.2.2)] 365,.box 1 [.d (.i k0)] 3,.box 2 [.d (.u k1)] 32] 3 (is (.tup []) [.box 0 [.d (.u r.1.1),.d (.u r.1.2.1),.d (.u r.1.2.2)] 365,.box 1 [.d (.i r.2.1)] 3,.box 2 [.d (.u r.2.2)] 32] 3):=by
 refine sq ?_;intros;refine oB hm fun _ q1 hm=>gF (EM _ 3 _) q1 (fun p0 (p_0,p_1,p_2,p_3,p_4)=>⟨[(0,.pb 0 0),(1,.fn (.func 356) [] [.pb 1 0,.pb 2 0]),(6,.pb 0 0),(7,.d (.i p0))],[(0,.box 0 [.d (.u p_0),.d (.u p_1),.d (.u p_2)] 365),(1,.box 1 [.d (.i p_3)] 3),(2,.box 2 [.d (.u p_4)] 32)],[],3⟩) fun i1 s1 Jl bl1=>cM bl1 (3:Int) (fun _ q4 bl1=> ?_) fun e=> ?_
 ·refine oB q4 fun _ q6 q4=>TJ (fun _=>q6)<|gldA D.u (fun _=>q6)<|gD q4 Ui fun x4 q7 q4=>oB q4 fun _ q8 q4=>TJ (fun _=>q8)<|bE q4 ?_;intro _ q4;refine bE q4 ?_;intro _ q4;refine bE q4 ?_;intro _ q4;exact gstA D.u x4.1 q8<|gM bl1 lk q4
 subst e;exact Agf hm▸gE
def Fo (i1:Int)(s1:UInt64×UInt64×UInt64×UInt64):Option (UInt64×UInt64×UInt64×UInt64):=Ab (idx [s1.1,s1.2.1,s1.2.2.1] (i1:Int)) fun x3=>Ab (IZ (i1:Int) x3 s1.2.2.2) fun x4=>Ab (idx [s1.1,s1.2.1,s1.2.2.1] (i1:Int)) fun x5=>bnd (if(i1:Int)=0 then x4.1 else s1.1) fun x6=>bnd (if(i1:Int)=1 then x4.1 else s1.2.1) fun x7=>bnd (if(i1:Int)=2 then x4.1 else s1.2.2.1) fun x8=>some (x6,x7,x8,x4.2)
def CP (a0:UInt64×UInt64×UInt64)(k0:UInt64):Option ((UInt64×UInt64×UInt64)×UInt64):=Ab (CD Fo 3 0 (a0.1,a0.2.1,a0.2.2,k0)) fun x1=>some ((x1.1,x1.2.1,x1.2.2.1),x1.2.2.2)
theorem KP {a0 k0 r}(hm:CP a0 k0=some r):Sp prog 355 [.pb 0 0,.fn (.func 358) [] [.pb 1 0]] [.box 0 [.d (.u a0.1),.d (.u a0.2.1),.d (.u a0.2.2)] 365,.box 1 [.d (.u k0)] 32] 2 (is (.tup []) [.box 0 [.d (.u r.1.1),.d (.u r.1.2.1),.d (.u r.1.2.2)] 365,.box 1 [.d (.u r.2)] 32] 2):=by
 refine sq ?_;intros;refine oB hm fun _ q1 hm=>gF (EM _ 3 _) q1 (fun p0 (p_0,p_1,p_2,p_3)=>⟨[(0,.pb 0 0),(1,.fn (.func 358) [] [.pb 1 0]),(6,.pb 0 0),(7,.d (.i p0))],[(0,.box 0 [.d (.u p_0),.d (.u p_1),.d (.u p_2)] 365),(1,.box 1 [.d (.u p_3)] 32)],[],2⟩) fun i1 s1 Jl bl1=>cM bl1 (3:Int) (fun _ q4 bl1=> ?_) fun e=> ?_
 ·refine oB q4 fun _ q6 q4=>TJ (fun _=>q6)<|gldA D.u (fun _=>q6)<|gD q4 Uh fun x4 q7 q4=>oB q4 fun _ q8 q4=>TJ (fun _=>q8)<|bE q4 ?_;intro _ q4;refine bE q4 ?_;intro _ q4;refine bE q4 ?_;intro _ q4;exact gstA D.u x4.1 q8<|gM bl1 lk q4
 subst e;exact Agf hm▸gE
def Ko (i1:Int)(s1:UInt64×UInt64×UInt64):Option (UInt64×UInt64×UInt64):=Ab (CQ s1 (i1:Int) 0) fun x4=>Ab (CP x4.1 x4.2.2) fun x5=>some (x5.1.1,x5.1.2.1,x5.1.2.2)
def JG (a0:UInt64×UInt64×UInt64):Option (UInt64×UInt64×UInt64):=Ab (Ab (CD Ko 8 0 (a0.1,a0.2.1,a0.2.2)) fun x2=>some (x2.1,x2.2.1,x2.2.2)) fun x1=>some x1
theorem XG {a0 r}(hm:JG a0=some r):Sf prog 303 [ag (AaC a0)] (ag (AaC r)):=by
 refine sq ?_;intros;unfold JG at hm;obtain⟨x1,q1,hm⟩:=Ag hm;refine oB q1 fun _ q2 q1=>gF (EM _ 8 _) q2 (fun p0 (p_0,p_1,p_2)=>⟨[(2,.pb 1 0),(3,.pb 2 0),(7,.d (.i p0)),(1,.pb 0 0)],[(0,.box 2 [.d (.u p_0),.d (.u p_1),.d (.u p_2)] 365),(1,.box 1 [.d (.u 0),.d (.u 0),.d (.u 0)] 319),(2,.box 0 [.d (.u a0.1),.d (.u a0.2.1),.d (.u a0.2.2)] 319)],[],3⟩) fun i1 s1 Jl bl1=>cM bl1 (8:Int) (fun _ q5 bl1=> ?_) fun e=> ?_
 ·exact gD q5 KQ fun _ q7 q5=>gD q5 KP fun _ q8 q5=>gM bl1 lk q5
 subst e;obtain rfl:=Agf q1;exact Agf hm▸gE
def Gz (x6:List UInt64)(i2:Int)(s2:UInt64×UInt64×UInt64):Option (UInt64×UInt64×UInt64):=Ab (idx x6 (i2:Int)) fun x9=>Ab (idx [s2.1,s2.2.1,s2.2.2] (i2:Int)) fun x10=>Ab (FN x10 x9) fun x11=>Ab (idx [s2.1,s2.2.1,s2.2.2] (i2:Int)) fun x12=>bnd (if(i2:Int)=0 then x11 else s2.1) fun x13=>bnd (if(i2:Int)=1 then x11 else s2.2.1) fun x14=>bnd (if(i2:Int)=2 then x11 else s2.2.2) fun x15=>some (x13,x14,x15)
def Co (s1:(List UInt64)×Bool×UInt64×UInt64×UInt64):Option (((List UInt64)×Bool×UInt64×UInt64×UInt64)⊕(UInt64×UInt64×UInt64)):=if(s1.2.1||(decide ((s1.1.length:Int)>0)))=true then Ab (Ab (cut s1.1 0 (VV 2 (s1.1.length:Int))) fun x6=>Ab (CD (Gz x6) x6.length 0 (s1.2.2.1,s1.2.2.2.1,s1.2.2.2.2)) fun x7=>some (x7.1,x7.2.1,x7.2.2)) fun x5=>Ab (cut s1.1 (VV 2 (s1.1.length:Int)) (s1.1.length:Int)) fun x16=>Ab (JG x5) fun x17=>some (.inl (x16,false,x17.1,x17.2.1,x17.2.2))else some (.inr (s1.2.2.1,s1.2.2.2.1,s1.2.2.2.2))
def Ma (a0:List UInt8):Option (UInt64×UInt64):=Ab (JH a0) fun x1=>Ab (Ab (iter Co Dq (x1,true,0,0,(toU (a0.length:Int)))) fun x3=>some (x3.1,x3.2.1,x3.2.2)) fun x2=>some (x2.1,x2.2.1)
theorem XF {a0 r}(hm:Ma a0=some r):Sf prog 242 [sl eB a0] (ag (Ao r)):=by
 refine sq ?_;intros;refine gD hm XH fun _ q1 hm=> ?_;obtain⟨x2,q2,hm⟩:=Ag hm;refine oB q2 fun x3 q3 q2=>gI q3 (fun(p_0,p_1,p_2,p_3,p_4)=>⟨[(2,.pb 0 0),(3,.pb 1 0),(4,sl eU p_0),(5,.d (.t p_1))],[(0,.box 1 [.d (.u p_2),.d (.u p_3),.d (.u p_4)] 319),(1,.box 0 [.d (.u 0),.d (.u 0)] 34)],[],2⟩) fun s1 _ Jl q6 bl1=>gi q6 ?_ ?_<;>intro _ q6
 ·obtain⟨x5,q8,q6⟩:=Ag q6;refine oB q8 fun x6 q9 q8=>gk eU 1 q9<|oB q8 fun _ q10 q8=>Hd 2 (E:=eU) (xs:=x6) 26 fun hle2=>gF (EM _ _ _) q10 (fun p0 (p_0,p_1,p_2)=>⟨[(2,.pb 0 0),(3,.pb 1 0),(4,sl eU s1.1),(6,.d (.i (VV 2 (s1.1.length:Int)))),(26,sl eU x6),(27,.d (.i (x6.length:Int))),(28,.d (.i p0))],[(0,.box 1 [.d (.u p_0),.d (.u p_1),.d (.u p_2)] 319),(1,.box 0 [.d (.u 0),.d (.u 0)] 34)],[],2⟩) fun i2 s2 Jl bl2=>cM bl2 (x6.length:Int) (fun _ q13 bl2=> ?_) fun e=> ?_
  ·refine oB q13 fun _ q15 q13=>gx eU 1 q15<|oB q13 fun _ q16 q13=>TJ (fun _=>q16)<|gldA D.u (fun _=>q16)<|gA q13 J6 fun x11 q17 q13=>oB q13 fun _ q18 q13=>TJ (fun _=>q18)<|bE q13 ?_;intro _ q13;refine bE q13 ?_;intro _ q13;refine bE q13 ?_;intro _ q13;exact gstA D.u x11 q18<|gM bl2 hle2 q13
  subst e;obtain rfl:=Agf q8;exact oB q6 fun _ q22 q6=>gk eU 1 q22<|gA q6 XG fun _ q23 q6=>gN bl1 q6
 obtain rfl:=nR bl1 q6;let x3:=(s1.2.2.1,s1.2.2.2.1,s1.2.2.2.2);obtain rfl:=Agf q2;exact Agf hm▸gE
def Hz (i1:Int)(x4:List UInt8)(s1:(List UInt8)):Option ((List UInt8)):=Ab (E2 s1 (toU (x4.length:Int)) 4) fun x5=>Ab (app 1 x5 x4) fun x6=>some x6
def Cn (a0:ByteArray)(a1:List (List UInt8)):Option (UInt64×UInt64):=Ab (app 1 ([(toB (a0.size:Int))]:List UInt8) a0.data.toList) fun x1=>Ab (Ab (Ey Hz a1 0 x1) fun x3=>some x3) fun x2=>Ab (Ma x2) fun x7=>some x7
theorem DP {a0 a1 r}(hm:Cn a0 a1=some r):Sf prog 153 [.d (.s a0),sl (eL eB) a1] (ag (Ao r)):=by
 refine sq ?_;intros;refine X4 (k:=1) eB ([(toB (a0.size:Int))]:List UInt8) (fun _=>rfl)<|oB hm fun _ q1 hm=>gapS q1 ?_;obtain⟨x2,q2,hm⟩:=Ag hm;refine oB q2 fun _ q3 q2=>Hd 0 (E:=(eL eB)) (xs:=a1) 14 fun hle1=>gF (E0 _ _ _) q3 (fun p0 p=>⟨[(4,.pb 0 0),(5,.ow 1),(14,sl (eL eB) a1),(15,.d (.i (a1.length:Int))),(16,.d (.i p0))],[(0,.row 1 1 _ eB p),(1,.box 0 [.d (.u 0),.d (.u 0)] 34)],[],2⟩) fun i1 s1 Jl bl1=>c0 bl1 (fun _ _ q7 q6 bl1=> ?_) fun e=> ?_
 ·exact gx (eL eB) 1 q7<|gD q6 RJ fun _ q8 q6=>oB q6 fun _ q9 q6=>gp eB 1 q9<|gM bl1 hle1 q6
 subst e;obtain rfl:=Agf q2;refine gD hm XF fun _ q10 hm=> ?_;exact Agf hm▸gE
def Ic (a0:UInt64)(i1:Int)(s1:UInt8×UInt8×UInt8×UInt8×UInt8×UInt8×UInt8×UInt8):Option (UInt8×UInt8×UInt8×UInt8×UInt8×UInt8×UInt8×UInt8):=if(0:Int)≤(w64 (8*(i1:Int)))then Ab (idx [s1.1,s1.2.1,s1.2.2.1,s1.2.2.2.1,s1.2.2.2.2.1,s1.2.2.2.2.2.1,s1.2.2.2.2.2.2.1,s1.2.2.2.2.2.2.2] (w64 (7-(i1:Int)))) fun x4=>bnd (if(w64 (7-(i1:Int)))=0 then(toB ((Ek a0 ((w64 (8*(i1:Int))).toNat)).toNat:Int))else s1.1) fun x5=>bnd (if(w64 (7-(i1:Int)))=1 then(toB ((Ek a0 ((w64 (8*(i1:Int))).toNat)).toNat:Int))else s1.2.1) fun x6=>bnd (if(w64 (7-(i1:Int)))=2 then(toB ((Ek a0 ((w64 (8*(i1:Int))).toNat)).toNat:Int))else s1.2.2.1) fun x7=>bnd (if(w64 (7-(i1:Int)))=3 then(toB ((Ek a0 ((w64 (8*(i1:Int))).toNat)).toNat:Int))else s1.2.2.2.1) fun x8=>bnd (if(w64 (7-(i1:Int)))=4 then(toB ((Ek a0 ((w64 (8*(i1:Int))).toNat)).toNat:Int))else s1.2.2.2.2.1) fun x9=>bnd (if(w64 (7-(i1:Int)))=5 then(toB ((Ek a0 ((w64 (8*(i1:Int))).toNat)).toNat:Int))else s1.2.2.2.2.2.1) fun x10=>bnd (if(w64 (7-(i1:Int)))=6 then(toB ((Ek a0 ((w64 (8*(i1:Int))).toNat)).toNat:Int))else s1.2.2.2.2.2.2.1) fun x11=>bnd (if(w64 (7-(i1:Int)))=7 then(toB ((Ek a0 ((w64 (8*(i1:Int))).toNat)).toNat:Int))else s1.2.2.2.2.2.2.2) fun x12=>some (x5,x6,x7,x8,x9,x10,x11,x12)else none
def EF (a0:UInt64):Option (List UInt8):=Ab (Ab (CD (Ic a0) 8 0 (0,0,0,0,0,0,0,0)) fun x2=>some (x2.1,x2.2.1,x2.2.2.1,x2.2.2.2.1,x2.2.2.2.2.1,x2.2.2.2.2.2.1,x2.2.2.2.2.2.2.1,x2.2.2.2.2.2.2.2)) fun x1=>some ([x1.1,x1.2.1,x1.2.2.1,x1.2.2.2.1,x1.2.2.2.2.1,x1.2.2.2.2.2.1,x1.2.2.2.2.2.2.1,x1.2.2.2.2.2.2.2]:List UInt8)
theorem KZ {a0 r}(hm:EF a0=some r):Sp prog 184 [.d (.u a0)] [] 0 (is (.ow 0) [.row 0 1 _ eB r] 1):=by
 refine sq ?_;intros;unfold EF at hm;obtain⟨x1,q1,hm⟩:=Ag hm;refine oB q1 fun x2 q2 q1=>gF (EM _ 8 _) q2 (fun p0 (p_0,p_1,p_2,p_3,p_4,p_5,p_6,p_7)=>⟨[(0,.d (.u a0)),(3,.pb 0 0),(5,.d (.i p0))],[(0,.box 0 [.d (.b p_0),.d (.b p_1),.d (.b p_2),.d (.b p_3),.d (.b p_4),.d (.b p_5),.d (.b p_6),.d (.b p_7)] 300)],[],1⟩) fun i1 s1 Jl bl1=>cM bl1 (8:Int) (fun _ q5 bl1=> ?_) fun e=> ?_
 ·unfold Ic at q5;obtain⟨q7,q5⟩:=A6 q5;refine gsh (r:= .u (Ek a0 ((w64 (8*(i1:Int))).toNat))) (fun h=>q7)<|oB q5 fun _ q8 q5=>TJ (fun _=>q8)<|bE q5 ?_;intro _ q5;refine bE q5 ?_;intro _ q5;refine bE q5 ?_;intro _ q5;refine bE q5 ?_;intro _ q5;refine bE q5 ?_;intro _ q5;refine bE q5 ?_;intro _ q5;refine bE q5 ?_;intro _ q5;refine bE q5 ?_;intro _ q5;exact gstA D.b (toB ((Ek a0 ((w64 (8*(i1:Int))).toNat)).toNat:Int)) q8<|gM bl1 lk q5
 subst e;obtain rfl:=Agf q1;let x1:=(x2.1,x2.2.1,x2.2.2.1,x2.2.2.2.1,x2.2.2.2.2.1,x2.2.2.2.2.2.1,x2.2.2.2.2.2.2.1,x2.2.2.2.2.2.2.2);refine gslA (k:=1) eB ([x1.1,x1.2.1,x1.2.2.1,x1.2.2.2.1,x1.2.2.2.2.1,x1.2.2.2.2.2.1,x1.2.2.2.2.2.2.1,x1.2.2.2.2.2.2.2]:List UInt8) (fun _=>rfl) ?_;exact Agf hm▸gE
def G3 (a0:UInt64×UInt64)(a1:UInt64):Option UInt64:=if((a1.toNat:Int)==0)=true then some 0 else Ab (Hs a0.1 2305843009213693952) fun x1=>if a1≠0 then Ab (Ht ((x1.1+(I9 x1.2 a0.2))%a1) (x1.2+a0.2) a1) fun x2=>some x2.2 else none
theorem LX {a0 a1 r}(hm:G3 a0 a1=some r):Sf prog 249 [ag (Ao a0),.d (.u a1)] (.d (.u r)):=by
 refine sq ?_;intros;refine gi hm ?_ ?_<;>intro _ hm
 ·exact Agf hm▸gE
 refine gA hm Li fun x1 q1 hm=>AdR (p:=x1.2) (q:=a0.2) func305 ?_;obtain⟨q2,hm⟩:=A6 hm;refine Abo (d:= .u a1) (r:= .u ((x1.1+(I9 x1.2 a0.2))%a1)) (fun h=>q2)<|gA hm O0 fun _ q3 hm=> ?_;exact Agf hm▸gE
def CZ (a0:UInt64)(a1:UInt64)(a2:List UInt8):Option UInt64:=Ab (EF a0) fun x1=>Ab (EF a1) fun x2=>Ab (Cn (⟨#[115,105,103,110]⟩:ByteArray) ([x1,x2,a2]:List (List UInt8))) fun x3=>Ab (G3 x3 1152921504606845789) fun x4=>some x4
theorem Ky {a0 a1 a2 r}(hm:CZ a0 a1 a2=some r):Sf prog 185 [.d (.u a0),.d (.u a1),sl eB a2] (.d (.u r)):=by
 refine sq ?_;intros;refine gD hm KZ fun x1 q1 hm=>gD hm KZ fun x2 q2 hm=>X3 (k:=1) (eL eB) ([x1,x2,a2]:List (List UInt8)) (fun _=>rfl)<|gA hm DP fun _ q3 hm=>gA hm LX fun _ q4 hm=> ?_;exact Agf hm▸gE
def BK (s1:UInt64×UInt64×Int×Int):Option ((UInt64×UInt64×Int×Int)⊕(Int)):=if((s1.2.1.toNat:Int) !=0)=true then if s1.2.1≠0 then bnd ((s1.1-((s1.1/s1.2.1)*s1.2.1))) fun x4=>bnd ((w64 (s1.2.2.1-(w64 ((w64 ((s1.1/s1.2.1).toNat:Int))*s1.2.2.2))))) fun x5=>some (.inl (s1.2.1,x4,s1.2.2.2,x5))else none else some (.inr s1.2.2.1)
def C9 (a0:UInt64)(a1:UInt64):Option (UInt64×Int):=if a0≠0 then if(((a1%a0).toNat:Int)==0)=true then some (0,10)else Ab (Ab (iter BK Dq ((a1%a0),a0,1,0)) fun x2=>some x2) fun x1=>Ab (if(decide (x1<0))=true then bnd ((w64 (x1+(w64 (a0.toNat:Int))))) fun x7=>some x7 else some x1) fun x6=>some ((toU x6),0)else none
theorem K7 {a0 a1 r}(hm:C9 a0 a1=some r):Sf prog 350 [.d (.u a0),.d (.u a1)] (.tup [.d (.u r.1),.d (.i r.2)]):=by
 refine sq fun D0 As η0 m0 hd=> ?_;unfold C9 at hm;obtain⟨q1,hm⟩:=A6 hm;refine Abo (d:= .u a0) (r:= .u (a1%a0)) (fun h=>q1)<|gi hm ?_ ?_<;>intro _ hm
 ·exact Agf hm▸gE
 obtain⟨x1,q2,hm⟩:=Ag hm;refine oB q2 fun x2 q3 q2=>gI q3 (fun(p_0,p_1,p_2,p_3)=>⟨[(0,.d (.u a0)),(6,.d (.u p_0)),(7,.d (.u p_1)),(8,.d (.i p_2)),(9,.d (.i p_3))],[],[],0⟩) fun s1 _ Jl q6 bl1=>gi q6 ?_ ?_<;>intro _ q6
 ·obtain⟨q8,q6⟩:=A6 q6;refine Abo (d:= .u s1.2.1) (r:= .u (s1.1/s1.2.1)) (fun h=>q8)<|bE q6 ?_;intro _ q6;refine bE q6 ?_;intro _ q6;exact gN bl1 q6
 obtain rfl:=nR bl1 q6;let x2:=s1.2.2.1;obtain rfl:=Agf q2;refine oB hm fun x6 q11 hm=>gj (fun(_:Unit)=>⟨[(8,.d (.i x6))],[],[],0⟩) (fun _=>True) (fun Jp bk3=> ?_) fun _ _=> ?_
 ·refine gi q11 ?_ ?_<;>intro _ q11
  ·refine bE q11 ?_;intro _ q11;obtain rfl:=Agf q11;exact gb bk3 hd () trivial
  obtain rfl:=Agf q11;exact gb bk3 hd () trivial
 exact Agf hm▸gE
def EJ (a0:UInt64):Option (UInt64×Int):=Ab (C9 2305843009213691579 a0) fun x1=>some (x1.1,x1.2)
theorem Un {a0 r}(hm:EJ a0=some r):Sf prog 293 [.d (.u a0)] (.tup [.d (.u r.1),.d (.i r.2)]):=by
 refine sq ?_;intros;refine gA hm K7 fun _ q1 hm=> ?_;exact Agf hm▸gE
def I3 (a0:UInt64)(a1:UInt64):Option UInt64:=Ab (Cg 2305843009213691579 a0 a1) fun x1=>some x1
theorem Um {a0 a1 r}(hm:I3 a0 a1=some r):Sf prog 294 [.d (.u a0),.d (.u a1)] (.d (.u r)):=by
 refine sq ?_;intros;refine gA hm EY fun _ q1 hm=> ?_;exact Agf hm▸gE
def FU (a0:UInt64)(a1:List UInt8)(a2:g_api_Sig):Option Int:=Ab (EK a0) fun x1=>if(!x1)=true then some 1 else if(decide (((T0 a2.E a2.S).toNat:Int)≥1152921504606845789))=true then some 40 else Ab (DL a0 a2.E) fun x2=>Ab (EJ x2) fun x3=>Ab (gu (!(x3.2 !=0)) (DV a2.S)) fun x4=>Ab (gu (!(x3.2 !=0)) (I3 x4 x3.1)) fun x5=>Ab (gu (!(x3.2 !=0)) (CZ x5 a0 a1)) fun x6=>if((x3.2 !=0)||((x6.toNat:Int) !=(a2.E.toNat:Int)))=true then some 40 else some 0
theorem OS {a0 a1 a2 r}(hm:FU a0 a1 a2=some r):Sf prog 230 [.d (.u a0),sl eB a1,ag (JX a2)] (.d (.i r)):=by
 refine sq ?_;intros;refine gA hm ME fun _ q1 hm=>gi hm ?_ ?_<;>intro _ hm
 ·exact Agf hm▸gE
 refine gi hm ?_ ?_<;>intro _ hm
 ·exact Agf hm▸gE
 refine gA hm K8 fun _ q2 hm=>gA hm Un fun _ q3 hm=>oB hm fun _ q4 hm=>gcH q4 J7<|oB hm fun _ q5 hm=>gcH q5 Um<|oB hm fun _ q6 hm=>gcH q6 Ky<|gi hm ?_ ?_<;>intro _ hm
 ·exact Agf hm▸gE
 exact Agf hm▸gE
def Ru (i1:Int)(x2:g_api_Cert)(s1:Unit):Option ((Unit)⊕Int):=Ab (B4 x2) fun x3=>if(x3 !=0)=true then some (.inr x3)else some (.inl ())
def MY (a0:g_api_Cert)(a1:g_api_Cert):Option Int:=Ab (E8 Ru ([a0,a1]:List g_api_Cert) 0 ()) fun x1=>match x1 with| .inr r=>some r| .inl y1=>if((!a1.Ca)||(!eqS a0.Issuer a1.Subject))=true then some 191 else Ab (M7 a0) fun x4=>Ab (FU a1.Key x4.1 a0.Sig) fun x5=>if(x5 !=0)=true then some 40 else some 0
theorem P5 {a0 a1 r}(hm:MY a0 a1=some r):Sf prog 149 [ag (Ac a0),ag (Ac a1)] (.d (.i r)):=by
 refine sq ?_;intros;refine gq Ac 13 [a0,a1]<|oB hm fun _ q1 hm=>Hd 0 (E:=Ac) (xs:=([a0,a1]:List g_api_Cert)) 12 fun hle1=>gF (ER _ _ _) q1 (fun p0 _=>⟨[(2,.pb 0 0),(3,.pb 1 0),(12,sl Ac ([a0,a1]:List g_api_Cert)),(13,.d (.i (([a0,a1]:List g_api_Cert).length:Int))),(14,.d (.i p0))],[(0,.box 1 [.d (.i a1.Serial),.d (.s a1.Issuer),.d (.s a1.Subject),.d (.u a1.Key),sl eS a1.Names,.d (.i a1.From),.d (.i a1.Until),.d (.t a1.Ca),.d (.i a1.Depth),sl eS a1.Permit,sl Ad a1.Proms,.d (.u a1.Sig.E),.d (.u a1.Sig.S)] 59),(1,.box 0 [.d (.i a0.Serial),.d (.s a0.Issuer),.d (.s a0.Subject),.d (.u a0.Key),sl eS a0.Names,.d (.i a0.From),.d (.i a0.Until),.d (.t a0.Ca),.d (.i a0.Depth),sl eS a0.Permit,sl Ad a0.Proms,.d (.u a0.Sig.E),.d (.u a0.Sig.S)] 59)],[],2⟩) fun i1 s1 Jl bl1=>cR bl1 (fun _ _ q5 q4 bl1=> ?_) fun e=> ?_
 ·refine gx Ac 13 q5<|gA q4 ED fun _ q6 q4=>gi q4 ?_ ?_<;>intro _ q4
  ·obtain rfl:=nT bl1 q4;exact Agf hm▸gE
  exact gT bl1 hle1 q4
 subst e;refine gi hm ?_ ?_<;>intro _ hm
 ·exact Agf hm▸gE
 refine gD hm Qh fun _ q7 hm=>gD hm OS fun _ q8 hm=>gi hm ?_ ?_<;>intro _ hm
 ·exact Agf hm▸gE
 exact Agf hm▸gE
def Mj (a0:g_path_trip)(i1:Int)(s1:Unit):Option ((Unit)⊕Int):=Ab (idx a0.chain_ (i1:Int)) fun x3=>Ab (idx a0.chain_ (w64 ((i1:Int)+1))) fun x4=>Ab (MY x3 x4) fun x5=>if(x5 !=0)=true then some (.inr x5)else some (.inl ())
def JB (a0:g_path_trip):Option Int:=Ab (BS (Mj a0) (Int.toNat (w64 ((a0.chain_.length:Int)-1))) 0 ()) fun x1=>match x1 with| .inr r=>some r| .inl y1=>some 0
theorem Of {a0 r}(hm:JB a0=some r):Sf prog 75 [ag (DY a0)] (.d (.i r)):=by
 refine sq ?_;intros;refine oB hm fun _ q1 hm=>gF (EN _ _ _) q1 (fun p0 _=>⟨[(1,.pb 0 0),(8,.d (.i (w64 ((a0.chain_.length:Int)-1)))),(9,.d (.i p0))],[(0,.box 0 [sl Ac a0.roots_,sl Ac a0.chain_,.d (.s a0.name_),.d (.i a0.now_)] 124)],[],1⟩) fun i1 s1 Jl bl1=>cN bl1 (w64 ((a0.chain_.length:Int)-1)) (fun _ q4 bl1=> ?_) fun e=> ?_
 ·refine oB q4 fun _ q6 q4=>gx Ac 13 q6<|oB q4 fun _ q7 q4=>gx Ac 13 q7<|gA q4 P5 fun _ q8 q4=>gi q4 ?_ ?_<;>intro _ q4
  ·obtain rfl:=nT bl1 q4;exact Agf hm▸gE
  exact gT bl1 (Uq _) q4
 subst e;exact Agf hm▸gE
def Bi (a0:List g_api_Cert):Option (List g_api_Cert):=Ab (app 168 ([]:List g_api_Cert) a0) fun x1=>some x1
theorem Di {a0 r}(hm:Bi a0=some r):Sp prog 38 [sl Ac a0] [] 0 (is (.ow 0) [.row 0 13 _ Ac r] 1):=by
 refine sq ?_;intros;unfold Bi at hm;refine gnq Ac a0 (fun he1=> ?_) ?_
 ·rw[he1]at hm;replace hm:(some ([]:List g_api_Cert))=some _:=hm;refine QR Ac 2 13 ?_;exact Agf hm▸gE
 refine X4 (k:=13) Ac ([]:List g_api_Cert) (fun _=>rfl)<|oB hm fun _ q1 hm=>gp Ac 13 q1 ?_;exact Agf hm▸gE
def E9 (a0:ByteArray)(a1:ByteArray):Option (ByteArray×ByteArray×Bool):=Ab (BO a0 a1) fun x1=>if(decide (x1≥0))=true then Ab (Yb a0 0 x1) fun x2=>Ab (Yb a0 (w64 (x1+(a1.size:Int))) (a0.size:Int)) fun x3=>some (x2,x3,true)else some (a0,(⟨#[]⟩:ByteArray),false)
theorem IB {a0 a1 r}(hm:E9 a0 a1=some r):Sf prog 405 [.d (.s a0),.d (.s a1)] (.tup [.d (.s r.1),.d (.s r.2.1),.d (.t r.2.2)]):=by
 refine sq ?_;intros;refine gA hm Ej fun _ q1 hm=>gi hm ?_ ?_<;>intro _ hm
 ·refine oB hm fun _ q2 hm=>X6 (fun _=>q2)<|oB hm fun _ q3 hm=>X6 (fun _=>q3) ?_;exact Agf hm▸gE
 exact Agf hm▸gE
def NR (a0:ByteArray)(a1:ByteArray):Option (ByteArray×ByteArray×Bool):=Ab (E9 a0 a1) fun x1=>some (x1.1,x1.2.1,x1.2.2)
theorem Sr {a0 a1 r}(hm:NR a0 a1=some r):Sf prog 396 [.d (.s a0),.d (.s a1)] (.tup [.d (.s r.1),.d (.s r.2.1),.d (.t r.2.2)]):=by
 refine sq ?_;intros;refine gA hm IB fun _ q1 hm=> ?_;exact Agf hm▸gE
def OG (a0:ByteArray):Option ByteArray:=Ab (G2 a0) fun x1=>if(!x1)=true then some (⟨#[]⟩:ByteArray)else Ab (NR a0 (⟨#[46]⟩:ByteArray)) fun x2=>some x2.2.1
theorem RF {a0 r}(hm:OG a0=some r):Sf prog 383 [.d (.s a0)] (.d (.s r)):=by
 refine sq ?_;intros;refine gA hm LW fun _ q1 hm=>gi hm ?_ ?_<;>intro _ hm
 ·exact Agf hm▸gE
 refine gA hm Sr fun _ q2 hm=> ?_;exact Agf hm▸gE
def NT {σ:Type}(p0:σ→ByteArray→Option (Bool×σ))(s1:ByteArray×σ):Option ((ByteArray×σ)⊕(ByteArray×σ)):=if(!eqS s1.1 (⟨#[]⟩:ByteArray))=true then Ab (p0 s1.2 s1.1) fun x4=>if x4.1=true then Ab (OG s1.1) fun x5=>some (.inl (x5,x4.2))else some (.inr (s1.1,x4.2))else some (.inr (s1.1,s1.2))
def LA {σ:Type}(p0:σ→ByteArray→Option (Bool×σ))(k0:ByteArray)(s0:σ):Option (ByteArray×σ):=Ab (OG k0) fun x1=>Ab (iter (NT p0) Dq (x1,s0)) fun x2=>some (x2.1,x2.2)
theorem P6 {σ:Type}{p0:σ→ByteArray→Option (Bool×σ)}{k0 s0 r}(hm:LA p0 k0 s0=some r)(g:Value)(R:σ→Mem→Ow)(hcb:Xx prog g (fun x=> [.d (.s x)]) R p0):Sp prog 382 [.ow 0,.pb 1 0] [.hp 0 (.cb g σ R s0),.box 1 [.d (.s k0)] 9] 2 (is (.tup []) [.hp 0 (.cb g σ R r.2),.box 1 [.d (.s r.1)] 9] 2):=by
 refine sq fun D0 As η0 m0 hd=>gA hm RF fun _ q1 hm=>oB hm fun x2 q2 hm=>gjU 0 (fun(_:Unit)=>let (y_0,y_1):=x2; ⟨[],[(0,.box 1 [.d (.s y_0)] 9),(1,.hp 0 (.cb g σ R y_1))],[],2⟩) (fun _=>True) (fun Jp bk1=> ?_) fun _ _=> ?_
 ·refine gI q2 (fun(p_0,p_1)=>⟨[(0,.ow 0),(1,.pb 1 0)],[(0,.box 1 [.d (.s p_0)] 9),(1,.hp 0 (.cb g σ R p_1))],[],2⟩) fun s1 _ Jl q5 bl1=>gspl 7 q5 (fun hc1 q5=> ?_) fun hc1 q5=> ?_
  ·refine oB q5 fun _ q7 q5=>gcb s1.1 hcb q7<|gi q5 ?_ ?_<;>intro _ q5
   ·exact gA q5 RF fun _ q8 q5=>gN bl1 q5
   obtain rfl:=nR bl1 q5;exact gb bk1 hd () trivial
  refine gi' (b:=false) (fun h=>by cases h) (fun _=> ?_);obtain rfl:=nR bl1 q5;exact gb bk1 hd () trivial
 exact Agf hm▸gE
def NU (a0:ByteArray):Option ByteArray:=some a0
theorem Sz {a0 r}(hm:NU a0=some r):Sp prog 352 [.d (.s a0)] [] 0 (is (.fn (.func 382) [] [.pb 0 0]) [.box 0 [.d (.s r)] 9] 1):=by
 refine sq ?_;intros;exact Agf hm▸gE
def Hy (a1:ByteArray)(b5:ByteArray)(s1:(Bool)×Nat):Option ((Bool)×Nat):=if(eqS b5 a1)=true then some (true,1)else some (s1.1,0)
def Kk (a0:ByteArray)(a1:ByteArray):Option Bool:=Ab (NU a0) fun x1=>Ab (LA (fun(s:(Bool)×Nat) (b0:ByteArray)=>if s.2=0 then Ab (Hy a1 b0 s) fun y=>some (y.2==0,y)else none) x1 (false,0)) fun x2=>if(x2.2).2=0 then some false else some x2.2.1
theorem Sy {a0 a1 r}(hm:Kk a0 a1=some r):Sf prog 297 [.d (.s a0),.d (.s a1)] (.d (.t r)):=
 spR call297 func297 rfl ntmps297 rfl fun D0 As η0 m0 hD hd=>by
  unfold Kk at hm;refine gD hm Sz fun x1 q1 hm=>oB hm fun x2 q2 hm=>LM hD (n0:=0) 3 3 [⟨2,2,9,[.d (.s x1)],[.d (.s x2.1)]⟩] (gt:=7) (ps:=[8]) [(3,.pb 0 0),(4,.pb 1 0),(7,.fn (.func 382) [] [.pb 2 0])] (fun(y1:Bool)=> [(0,.box 1 [.d (.t y1)] 4),(1,.box 0 [.d (.s a1)] 9)]) (fun(y1:(Bool)×Nat)=> [(0,.box 1 [.d (.t y1.1)] 4),(1,.box 0 [.d (.s a1)] 9)]) (fun x=> [.d (.s x)]) (fun(s1:Bool) (b5:ByteArray)=>⟨[(3,.pb 0 0),(4,.pb 1 0),(5,.d (.s b5)),(7,.fn (.func 382) [] [.pb 2 0])],[(0,.box 1 [.d (.t s1)] 4),(1,.box 0 [.d (.s a1)] 9)],[],3⟩) (pJ fun x s=>Hy a1 x s) false hd (via fJ hyJ rfl fun g R h=>P6 q2 g R h) rfl (fun _=>rfl) (fun _=>rfl) (fun _=>rfl) (fun _=>rfl) ?_ ?_ ?_ ?_
  ·intro s1 b5 s' hp l D0 As η0 m0 hd Ja ba;exact gb ba hd () trivial
  ·intro s1 b5 s' hp l D0 As η0 m0 hd Jb bb Jr br;obtain⟨z1,q3,hp⟩:=Agl.1 hp;subst hp;unfold Hy at q3;dsimp only at q3;refine gi q3 ?_ ?_<;>intro _ q3
   ·obtain rfl:=Agf q3;exact AcA br hd (true,1) rfl
   obtain rfl:=Agf q3;exact gb bb hd s1 rfl
  ·intro x hx;obtain⟨hj1,rfl⟩:=Xf hx;rw[Ags hj1]at hm;exact Agf hm▸gE
  intro y hy;obtain⟨hj1,rfl⟩:=Xe hy;rw[Agt hj1]at hm;exact Agf hm▸gE
def NV (a0:ByteArray)(a1:ByteArray):Option Bool:=Ab (EG a0) fun x1=>Ab (gu (!(!x1.2.2)) (G2 a1)) fun x2=>if((!x1.2.2)||(!x2))=true then some false else if x1.2.1=true then Ab (Kk a1 x1.1) fun x3=>some x3 else some (eqS x1.1 a1)
theorem SA {a0 a1 r}(hm:NV a0 a1=some r):Sf prog 234 [.d (.s a0),.d (.s a1)] (.d (.t r)):=by
 refine sq ?_;intros;refine gA hm K3 fun _ q1 hm=>oB hm fun _ q2 hm=>gcH q2 LW<|gi hm ?_ ?_<;>intro _ hm
 ·exact Agf hm▸gE
 refine gi hm ?_ ?_<;>intro _ hm
 ·refine gA hm Sy fun _ q3 hm=> ?_;exact Agf hm▸gE
 exact Agf hm▸gE
def IU (a0:ByteArray)(k0:ByteArray):Option (Bool×ByteArray):=Ab (NV a0 k0) fun x1=>some (x1,k0)
theorem Np {a0 k0 r}(hm:IU a0 k0=some r):Sp prog 233 [.d (.s a0),.pb 0 0] [.box 0 [.d (.s k0)] 9] 1 (is (.d (.t r.1)) [.box 0 [.d (.s r.2)] 9] 1):=by
 refine sq ?_;intros;refine gA hm SA fun _ q1 hm=> ?_;exact Agf hm▸gE
def Ew (a0:List ByteArray)(i1:Int)(s1:ByteArray):Option ((ByteArray)⊕(Int×ByteArray)):=Ab (idx a0 (i1:Int)) fun x3=>Ab (IU x3 s1) fun x4=>if x4.1=true then some (.inr ((i1:Int),x4.2))else some (.inl x4.2)
def CA (a0:List ByteArray)(k0:ByteArray):Option (Int×ByteArray):=Ab (BS (Ew a0) a0.length 0 k0) fun x1=>match x1 with| .inr r=>some r| .inl y1=>some ((-1),y1)
theorem Fb {a0 k0 r}(hm:CA a0 k0=some r):Sp prog 295 [sl eS a0,.fn (.func 233) [] [.pb 0 0]] [.box 0 [.d (.s k0)] 9] 1 (is (.d (.i r.1)) [.box 0 [.d (.s r.2)] 9] 1):=by
 refine sq ?_;intros;refine oB hm fun _ q1 hm=>Hd 0 (E:=eS) (xs:=a0) 6 fun hle1=>gF (EN _ _ _) q1 (fun p0 p=>⟨[(0,sl eS a0),(1,.fn (.func 233) [] [.pb 0 0]),(7,.d (.i (a0.length:Int))),(8,.d (.i p0))],[(0,.box 0 [.d (.s p)] 9)],[],1⟩) fun i1 s1 Jl bl1=>cN bl1 (a0.length:Int) (fun _ q4 bl1=> ?_) fun e=> ?_
 ·refine oB q4 fun _ q6 q4=>gx eS 1 q6<|gD q4 Np fun _ q7 q4=>gi q4 ?_ ?_<;>intro _ q4
  ·obtain rfl:=nT bl1 q4;exact Agf hm▸gE
  exact gT bl1 hle1 q4
 subst e;let y1:=s1;exact Agf hm▸gE
def Ck (a0:List ByteArray)(k0:ByteArray):Option (Bool×ByteArray):=Ab (CA a0 k0) fun x1=>some ((decide (x1.1≥0)),x1.2)
theorem Et {a0 k0 r}(hm:Ck a0 k0=some r):Sp prog 232 [sl eS a0,.fn (.func 233) [] [.pb 0 0]] [.box 0 [.d (.s k0)] 9] 1 (is (.d (.t r.1)) [.box 0 [.d (.s r.2)] 9] 1):=by
 refine sq ?_;intros;refine gD hm Fb fun _ q1 hm=> ?_;exact Agf hm▸gE
def KD (a0:ByteArray)(k0:g_api_Cert):Option (Bool×g_api_Cert):=Ab (Ck k0.Permit a0) fun x1=>some ((!x1.1),k0)
theorem Pk {a0 k0 r}(hm:KD a0 k0=some r):Sp prog 231 [.d (.s a0),.pb 0 0] [.box 0 [.d (.i k0.Serial),.d (.s k0.Issuer),.d (.s k0.Subject),.d (.u k0.Key),sl eS k0.Names,.d (.i k0.From),.d (.i k0.Until),.d (.t k0.Ca),.d (.i k0.Depth),sl eS k0.Permit,sl Ad k0.Proms,.d (.u k0.Sig.E),.d (.u k0.Sig.S)] 59] 1 (is (.d (.t r.1)) [.box 0 [.d (.i r.2.Serial),.d (.s r.2.Issuer),.d (.s r.2.Subject),.d (.u r.2.Key),.d (.sl _ eS r.2.Names),.d (.i r.2.From),.d (.i r.2.Until),.d (.t r.2.Ca),.d (.i r.2.Depth),.d (.sl _ eS r.2.Permit),.d (.sl _ Ad r.2.Proms),.d (.u r.2.Sig.E),.d (.u r.2.Sig.S)] 59] 1):=by
 refine sq ?_;intros;refine gD hm Et fun _ q1 hm=> ?_;exact Agf hm▸gE
def Ex (a0:List ByteArray)(i1:Int)(s1:Int×ByteArray×ByteArray×UInt64×(List ByteArray)×Int×Int×Bool×Int×(List ByteArray)×(List g_api_Promise)×UInt64×UInt64):Option ((Int×ByteArray×ByteArray×UInt64×(List ByteArray)×Int×Int×Bool×Int×(List ByteArray)×(List g_api_Promise)×UInt64×UInt64)⊕(Int×g_api_Cert)):=Ab (idx a0 (i1:Int)) fun x3=>Ab (KD x3 (⟨s1.1,s1.2.1,s1.2.2.1,s1.2.2.2.1,s1.2.2.2.2.1,s1.2.2.2.2.2.1,s1.2.2.2.2.2.2.1,s1.2.2.2.2.2.2.2.1,s1.2.2.2.2.2.2.2.2.1,s1.2.2.2.2.2.2.2.2.2.1,s1.2.2.2.2.2.2.2.2.2.2.1,(⟨s1.2.2.2.2.2.2.2.2.2.2.2.1,s1.2.2.2.2.2.2.2.2.2.2.2.2⟩:g_api_Sig)⟩:g_api_Cert)) fun x4=>if x4.1=true then some (.inr ((i1:Int),x4.2))else some (.inl (x4.2.Serial,x4.2.Issuer,x4.2.Subject,x4.2.Key,x4.2.Names,x4.2.From,x4.2.Until,x4.2.Ca,x4.2.Depth,x4.2.Permit,x4.2.Proms,x4.2.Sig.E,x4.2.Sig.S))
def CB (a0:List ByteArray)(k0:g_api_Cert):Option (Int×g_api_Cert):=Ab (BS (Ex a0) a0.length 0 (k0.Serial,k0.Issuer,k0.Subject,k0.Key,k0.Names,k0.From,k0.Until,k0.Ca,k0.Depth,k0.Permit,k0.Proms,k0.Sig.E,k0.Sig.S)) fun x1=>match x1 with| .inr r=>some r| .inl y1=>some ((-1),(⟨y1.1,y1.2.1,y1.2.2.1,y1.2.2.2.1,y1.2.2.2.2.1,y1.2.2.2.2.2.1,y1.2.2.2.2.2.2.1,y1.2.2.2.2.2.2.2.1,y1.2.2.2.2.2.2.2.2.1,y1.2.2.2.2.2.2.2.2.2.1,y1.2.2.2.2.2.2.2.2.2.2.1,(⟨y1.2.2.2.2.2.2.2.2.2.2.2.1,y1.2.2.2.2.2.2.2.2.2.2.2.2⟩:g_api_Sig)⟩:g_api_Cert))
theorem Fc {a0 k0 r}(hm:CB a0 k0=some r):Sp prog 295 [sl eS a0,.fn (.func 231) [] [.pb 0 0]] [.box 0 [.d (.i k0.Serial),.d (.s k0.Issuer),.d (.s k0.Subject),.d (.u k0.Key),sl eS k0.Names,.d (.i k0.From),.d (.i k0.Until),.d (.t k0.Ca),.d (.i k0.Depth),sl eS k0.Permit,sl Ad k0.Proms,.d (.u k0.Sig.E),.d (.u k0.Sig.S)] 59] 1 (is (.d (.i r.1)) [.box 0 [.d (.i r.2.Serial),.d (.s r.2.Issuer),.d (.s r.2.Subject),.d (.u r.2.Key),.d (.sl _ eS r.2.Names),.d (.i r.2.From),.d (.i r.2.Until),.d (.t r.2.Ca),.d (.i r.2.Depth),.d (.sl _ eS r.2.Permit),.d (.sl _ Ad r.2.Proms),.d (.u r.2.Sig.E),.d (.u r.2.Sig.S)] 59] 1):=by
 refine sq ?_;intros;refine oB hm fun _ q1 hm=>Hd 0 (E:=eS) (xs:=a0) 6 fun hle1=>gF (EN _ _ _) q1 (fun p0 (p_0,p_1,p_2,p_3,p_4,p_5,p_6,p_7,p_8,p_9,p_10,p_11,p_12)=>⟨[(0,sl eS a0),(1,.fn (.func 231) [] [.pb 0 0]),(7,.d (.i (a0.length:Int))),(8,.d (.i p0))],[(0,.box 0 [.d (.i p_0),.d (.s p_1),.d (.s p_2),.d (.u p_3),sl eS p_4,.d (.i p_5),.d (.i p_6),.d (.t p_7),.d (.i p_8),sl eS p_9,sl Ad p_10,.d (.u p_11),.d (.u p_12)] 59)],[],1⟩) fun i1 s1 Jl bl1=>cN bl1 (a0.length:Int) (fun _ q4 bl1=> ?_) fun e=> ?_
 ·refine oB q4 fun _ q6 q4=>gx eS 1 q6<|gD q4 Pk fun _ q7 q4=>gi q4 ?_ ?_<;>intro _ q4
  ·obtain rfl:=nT bl1 q4;exact Agf hm▸gE
  exact gT bl1 hle1 q4
 subst e;let y1:=s1;exact Agf hm▸gE
def Cl (a0:List ByteArray)(k0:g_api_Cert):Option (Bool×g_api_Cert):=Ab (CB a0 k0) fun x1=>some ((decide (x1.1≥0)),x1.2)
theorem Eu {a0 k0 r}(hm:Cl a0 k0=some r):Sp prog 232 [sl eS a0,.fn (.func 231) [] [.pb 0 0]] [.box 0 [.d (.i k0.Serial),.d (.s k0.Issuer),.d (.s k0.Subject),.d (.u k0.Key),sl eS k0.Names,.d (.i k0.From),.d (.i k0.Until),.d (.t k0.Ca),.d (.i k0.Depth),sl eS k0.Permit,sl Ad k0.Proms,.d (.u k0.Sig.E),.d (.u k0.Sig.S)] 59] 1 (is (.d (.t r.1)) [.box 0 [.d (.i r.2.Serial),.d (.s r.2.Issuer),.d (.s r.2.Subject),.d (.u r.2.Key),.d (.sl _ eS r.2.Names),.d (.i r.2.From),.d (.i r.2.Until),.d (.t r.2.Ca),.d (.i r.2.Depth),.d (.sl _ eS r.2.Permit),.d (.sl _ Ad r.2.Proms),.d (.u r.2.Sig.E),.d (.u r.2.Sig.S)] 59] 1):=by
 refine sq ?_;intros;refine gD hm Fc fun _ q1 hm=> ?_;exact Agf hm▸gE
def OF (a0:g_path_trip)(x6:List g_api_Cert)(i1:Int)(s1:Unit):Option ((Unit)⊕Int):=Ab (idx x6 (i1:Int)) fun x9=>bnd ((decide (x9.Depth<(i1:Int)))) fun x10=>if x10=true then some (.inr 191)else if(decide ((x9.Permit.length:Int)>0))=true then Ab (idx a0.chain_ 0) fun x11=>Ab (Cl x11.Names x9) fun x12=>if x12.1=true then some (.inr 110)else some (.inl ())else some (.inl ())
def Mw (a0:g_path_trip)(a1:g_api_Cert):Option Int:=Ab (idx a0.chain_ (w64 ((a0.chain_.length:Int)-1))) fun x1=>Ab (MY x1 a1) fun x2=>if(x2 !=0)=true then some x2 else Ab (Gu a0 a1) fun x3=>if(!x3)=true then some 190 else Ab (cut a0.chain_ 1 (a0.chain_.length:Int)) fun x4=>Ab (Bi x4) fun x5=>Ab (app 168 x5 ([a1]:List g_api_Cert)) fun x6=>Ab (BS (OF a0 x6) x6.length 0 ()) fun x7=>match x7 with| .inr r=>some r| .inl y1=>some 0
theorem Rf {a0 a1 r}(hm:Mw a0 a1=some r):Sf prog 150 [ag (DY a0),ag (Ac a1)] (.d (.i r)):=by
 refine sq ?_;intros;refine oB hm fun _ q1 hm=>gx Ac 13 q1<|gA hm P5 fun _ q2 hm=>gi hm ?_ ?_<;>intro _ hm
 ·exact Agf hm▸gE
 refine gA hm IL fun _ q3 hm=>gi hm ?_ ?_<;>intro _ hm
 ·exact Agf hm▸gE
 refine oB hm fun _ q4 hm=>gk Ac 13 q4<|gD hm Di fun _ q5 hm=>gq Ac 13 [a1]<|oB hm fun x6 q6 hm=>gp Ac 13 q6<|oB hm fun _ q7 hm=>Hd 0 (E:=Ac) (xs:=x6) 32 fun hle1=>gF (EN _ _ _) q7 (fun p0 _=>⟨[(2,.pb 0 0),(32,.ow 2),(33,.d (.i (x6.length:Int))),(34,.d (.i p0)),(3,.pb 1 0)],[(0,.row 2 13 _ Ac x6),(1,.box 1 [.d (.i a1.Serial),.d (.s a1.Issuer),.d (.s a1.Subject),.d (.u a1.Key),sl eS a1.Names,.d (.i a1.From),.d (.i a1.Until),.d (.t a1.Ca),.d (.i a1.Depth),sl eS a1.Permit,sl Ad a1.Proms,.d (.u a1.Sig.E),.d (.u a1.Sig.S)] 59),(2,.box 0 [sl Ac a0.roots_,sl Ac a0.chain_,.d (.s a0.name_),.d (.i a0.now_)] 124)],[],3⟩) fun i1 s1 Jl bl1=>cN bl1 (x6.length:Int) (fun _ q10 bl1=> ?_) fun e=> ?_
 ·refine oB q10 fun _ q12 q10=>IG (E:=Ac) (fun _=>q12)<|X5 (k:=13) (fo:=0) (nn:=13) (ag:=true) (E:=Ac) (fun _=>rfl) (fun _=>q12)<|bE q10 ?_;intro _ q10;refine gi q10 ?_ ?_<;>intro _ q10
  ·obtain rfl:=nT bl1 q10;exact Agf hm▸gE
  refine gspl 50 q10 (fun hc4 q10=> ?_) fun hc4 q10=> ?_
  ·refine oB q10 fun _ q14 q10=>gx Ac 13 q14<|gD q10 Eu fun _ q15 q10=>gi q10 ?_ ?_<;>intro _ q10
   ·obtain rfl:=nT bl1 q10;exact Agf hm▸gE
   exact gT bl1 hle1 q10
  refine gi' (b:=false) (fun h=>by cases h) (fun _=> ?_);exact gT bl1 hle1 q10
 subst e;exact Agf hm▸gE
def KR (a0:g_path_trip)(s1:Int×Int):Option ((Int×Int)⊕((Int)⊕Int)):=if(decide (s1.2≥0))=true then Ab (idx a0.roots_ s1.2) fun x4=>Ab (Mw a0 x4) fun x5=>if(x5==0)=true then some (.inr (.inr 0))else some (.inl (x5,(w64 (s1.2-1))))else some (.inr (.inl s1.1))
def Ig (a0:g_path_trip):Option Int:=bnd ((w64 ((a0.roots_.length:Int)-1))) fun x1=>Ab (iter (KR a0) Dq (191,x1)) fun x2=>match x2 with| .inr r=>some r| .inl y1=>some y1
theorem MB {a0 r}(hm:Ig a0=some r):Sf prog 76 [ag (DY a0)] (.d (.i r)):=by
 refine sq ?_;intros;refine bE hm ?_;intro _ hm;refine oB hm fun _ q2 hm=>gI q2 (fun(p_0,p_1)=>⟨[(1,.pb 0 0),(3,.d (.i p_0)),(4,.d (.i p_1))],[(0,.box 0 [sl Ac a0.roots_,sl Ac a0.chain_,.d (.s a0.name_),.d (.i a0.now_)] 124)],[],1⟩) fun s1 _ Jl q5 bl1=>gi q5 ?_ ?_<;>intro _ q5
 ·refine oB q5 fun _ q7 q5=>gx Ac 13 q7<|gA q5 Rf fun _ q8 q5=>gi q5 ?_ ?_<;>intro _ q5
  ·obtain rfl:=nR bl1 q5;exact Agf hm▸gE
  exact gN bl1 q5
 obtain rfl:=nR bl1 q5;let y1:=s1.1;exact Agf hm▸gE
def QI (x:FO):Option Int:=if x.k=72 then IV x.a else if x.k=73 then KC x.a else if x.k=74 then JC x.a else if x.k=75 then JB x.a else if x.k=76 then Ig x.a else none
theorem YE {x r}(hm:QI x=some r):Sf prog x.k [ag (DY x.a)] (.d (.i r)):=by
 unfold QI at hm;split at hm
 ·rename_i h;rw[h];exact Nq hm
 split at hm
 ·rename_i h;rw[h];exact Pj hm
 split at hm
 ·rename_i h;rw[h];exact Og hm
 split at hm
 ·rename_i h;rw[h];exact Of hm
 split at hm
 ·rename_i h;rw[h];exact MB hm
 cases hm
def BZ (a0:Int):Option Bool:=bnd (((decide ((0:Int)≤a0))&&(decide (a0≤1099511627776)))) fun x1=>some x1
theorem EB {a0 r}(hm:BZ a0=some r):Sf prog 60 [.d (.i a0)] (.d (.t r)):=by
 refine sq ?_;intros;refine bE hm ?_;intro _ hm;exact Agf hm▸gE
def ES (a0:UInt8):Option Bool:=bnd (((decide ((a0.toNat:Int)<33))||(decide ((a0.toNat:Int)>126)))) fun x1=>some x1
theorem Lc {a0 r}(hm:ES a0=some r):Sf prog 128 [.d (.b a0)] (.d (.t r)):=by
 refine sq ?_;intros;refine bE hm ?_;intro _ hm;exact Agf hm▸gE
def EP (a0:g_api_Cert):Option Bool:=Ab (gu (!(!a0.Ca)) (B4 a0)) fun x1=>some ((!a0.Ca)||(x1 !=0))
theorem Lb {a0 r}(hm:EP a0=some r):Sf prog 129 [ag (Ac a0)] (.d (.t r)):=by
 refine sq ?_;intros;refine oB hm fun _ q1 hm=>gcH q1 ED ?_;exact Agf hm▸gE
def AZ (a0:List g_api_Cert)(i1:Int)(s1:Unit):Option ((Unit)⊕Int):=Ab (idx a0 (i1:Int)) fun x3=>Ab (EP x3) fun x4=>if x4=true then some (.inr (i1:Int))else some (.inl ())
def Bc (a0:List g_api_Cert):Option Int:=Ab (BS (AZ a0) a0.length 0 ()) fun x1=>match x1 with| .inr r=>some r| .inl y1=>some (-1)
theorem Eg {a0 r}(hm:Bc a0=some r):Sf prog 212 [sl Ac a0,.fn (.func 129) [] []] (.d (.i r)):=by
 refine sq ?_;intros;refine oB hm fun _ q1 hm=>Hd 0 (E:=Ac) (xs:=a0) 6 fun hle1=>gF (EN _ _ _) q1 (fun p0 _=>⟨[(0,sl Ac a0),(1,.fn (.func 129) [] []),(7,.d (.i (a0.length:Int))),(8,.d (.i p0))],[],[],0⟩) fun i1 s1 Jl bl1=>cN bl1 (a0.length:Int) (fun _ q4 bl1=> ?_) fun e=> ?_
 ·refine oB q4 fun _ q6 q4=>gx Ac 13 q6<|gA q4 Lb fun _ q7 q4=>gi q4 ?_ ?_<;>intro _ q4
  ·obtain rfl:=nT bl1 q4;exact Agf hm▸gE
  exact gT bl1 hle1 q4
 subst e;exact Agf hm▸gE
def AG (a0:List g_api_Cert):Option Bool:=Ab (Bc a0) fun x1=>some (decide (x1≥0))
theorem BQ {a0 r}(hm:AG a0=some r):Sf prog 132 [sl Ac a0,.fn (.func 129) [] []] (.d (.t r)):=by
 refine sq ?_;intros;refine gA hm Eg fun _ q1 hm=> ?_;exact Agf hm▸gE
def By (a0:List UInt8)(i1:Int)(s1:Unit):Option ((Unit)⊕Int):=Ab (idx a0 (i1:Int)) fun x3=>Ab (ES x3) fun x4=>if x4=true then some (.inr (i1:Int))else some (.inl ())
def BV (a0:List UInt8):Option Int:=Ab (BS (By a0) a0.length 0 ()) fun x1=>match x1 with| .inr r=>some r| .inl y1=>some (-1)
theorem Ga {a0 r}(hm:BV a0=some r):Sf prog 211 [sl eB a0,.fn (.func 128) [] []] (.d (.i r)):=by
 refine sq ?_;intros;refine oB hm fun _ q1 hm=>Hd 0 (E:=eB) (xs:=a0) 6 fun hle1=>gF (EN _ _ _) q1 (fun p0 _=>⟨[(0,sl eB a0),(1,.fn (.func 128) [] []),(7,.d (.i (a0.length:Int))),(8,.d (.i p0))],[],[],0⟩) fun i1 s1 Jl bl1=>cN bl1 (a0.length:Int) (fun _ q4 bl1=> ?_) fun e=> ?_
 ·refine oB q4 fun _ q6 q4=>gx eB 1 q6<|gA q4 Lc fun _ q7 q4=>gi q4 ?_ ?_<;>intro _ q4
  ·obtain rfl:=nT bl1 q4;exact Agf hm▸gE
  exact gT bl1 hle1 q4
 subst e;exact Agf hm▸gE
def AY (a0:List UInt8):Option Bool:=Ab (BV a0) fun x1=>some (decide (x1≥0))
theorem Fh {a0 r}(hm:AY a0=some r):Sf prog 131 [sl eB a0,.fn (.func 128) [] []] (.d (.t r)):=by
 refine sq ?_;intros;refine gA hm Ga fun _ q1 hm=> ?_;exact Agf hm▸gE
def KT (i1:Int)(x3:g_api_Key)(s1:Int):Option ((Int)⊕Int):=Ab (gu (!(decide (x3.Log≤s1))) (BZ x3.Log)) fun x4=>Ab (gu (!((decide (x3.Log≤s1))||(!x4))) (BZ x3.Delay)) fun x5=>Ab (gu (!(((decide (x3.Log≤s1))||(!x4))||(!x5))) (EK x3.Key)) fun x6=>if((((decide (x3.Log≤s1))||(!x4))||(!x5))||(!x6))=true then some (.inr 1)else some (.inl x3.Log)
def CR (i2:Int)(x11:g_api_Key)(s2:Int):Option ((Int)⊕Int):=Ab (gu (!(decide (x11.Log≤s2))) (BZ x11.Log)) fun x12=>Ab (gu (!((decide (x11.Log≤s2))||(!x12))) (BZ x11.Delay)) fun x13=>Ab (gu (!(((decide (x11.Log≤s2))||(!x12))||(!x13))) (EK x11.Key)) fun x14=>if((((decide (x11.Log≤s2))||(!x12))||(!x13))||(!x14))=true then some (.inr 1)else some (.inl x11.Log)
def A4 (a0:Ak):Option Int:=
 if((eqS a0.Client.Who (⟨#[]⟩:ByteArray))||(decide ((a0.Client.Who.size:Int)>64)))=true then
  Ab (gu (!((true||((a0.Client.Roots.length:Int)==0))||(decide ((a0.Client.Roots.length:Int)>8)))) (AG a0.Client.Roots)) fun x1=>
  if(((true||((a0.Client.Roots.length:Int)==0))||(decide ((a0.Client.Roots.length:Int)>8)))||x1)=true then
   some 1
  else
  Ab (E8 KT a0.Client.Logs 0 (-1)) fun x2=>match x2 with
  | .inr r=>some r
  | .inl y1=>
  if((decide ((a0.Client.Logs.length:Int)>16))||((a0.Client.View !=0)&&(a0.Client.View !=1)))=true then
   some 1
  else
  some 0
 else
 Ab (app 1 ([]:List UInt8) a0.Client.Who.data.toList) fun x7=>
 Ab (AY x7) fun x8=>
 Ab (gu (!((x8||((a0.Client.Roots.length:Int)==0))||(decide ((a0.Client.Roots.length:Int)>8)))) (AG a0.Client.Roots)) fun x9=>
 if(((x8||((a0.Client.Roots.length:Int)==0))||(decide ((a0.Client.Roots.length:Int)>8)))||x9)=true then
  some 1
 else
 Ab (E8 CR a0.Client.Logs 0 (-1)) fun x10=>match x10 with
 | .inr r=>some r
 | .inl y3=>
 if((decide ((a0.Client.Logs.length:Int)>16))||((a0.Client.View !=0)&&(a0.Client.View !=1)))=true then
  some 1
 else
 some 0
theorem MF {a0 r}(hm:A4 a0=some r):Sf prog 49 [ag (BD a0)] (.d (.i r)):=by
 refine sq ?_;intros;refine gspl 19 hm (fun hc1 hm=> ?_) fun hc1 hm=> ?_
 ·refine oB hm fun _ q1 hm=>gcH q1 BQ<|gi hm ?_ ?_<;>intro _ hm
  ·exact Agf hm▸gE
  refine oB hm fun _ q2 hm=>Hd 0 (E:=Ah) (xs:=a0.Client.Logs) 50 fun hle1=>gF (ER _ _ _) q2 (fun p0 p=>⟨[(1,.pb 0 0),(5,.d (.i p)),(50,sl Ah a0.Client.Logs),(51,.d (.i (a0.Client.Logs.length:Int))),(52,.d (.i p0))],[(0,.box 0 [.d (.s a0.Client.Who),sl Ac a0.Client.Roots,sl Ah a0.Client.Logs,sl Af a0.Client.Pool.L,.d (.i a0.Client.Cascade.Day),sl Ae a0.Client.Cascade.Levels,.d (.i a0.Client.View)] 110)],[],1⟩) fun i1 s1 Jl bl1=>cR bl1 (fun _ _ q6 q5 bl1=> ?_) fun e=> ?_
  ·refine gx Ah 3 q6<|oB q5 fun _ q7 q5=>gcH q7 EB<|oB q5 fun _ q8 q5=>gcH q8 EB<|oB q5 fun _ q9 q5=>gcH q9 ME<|gi q5 ?_ ?_<;>intro _ q5
   ·obtain rfl:=nT bl1 q5;exact Agf hm▸gE
   exact gT bl1 hle1 q5
  subst e;let y1:=s1;refine gi hm ?_ ?_<;>intro _ hm
  ·exact Agf hm▸gE
  exact Agf hm▸gE
 refine oB hm fun _ q10 hm=>gofS q10<|gD hm Fh fun _ q11 hm=>oB hm fun _ q12 hm=>gcH q12 BQ<|gi hm ?_ ?_<;>intro _ hm
 ·exact Agf hm▸gE
 refine oB hm fun _ q13 hm=>Hd 0 (E:=Ah) (xs:=a0.Client.Logs) 50 fun hle2=>gF (ER _ _ _) q13 (fun p0 p=>⟨[(1,.pb 0 0),(5,.d (.i p)),(50,sl Ah a0.Client.Logs),(51,.d (.i (a0.Client.Logs.length:Int))),(52,.d (.i p0))],[(0,.box 0 [.d (.s a0.Client.Who),sl Ac a0.Client.Roots,sl Ah a0.Client.Logs,sl Af a0.Client.Pool.L,.d (.i a0.Client.Cascade.Day),sl Ae a0.Client.Cascade.Levels,.d (.i a0.Client.View)] 110)],[],1⟩) fun i2 s2 Jl bl2=>cR bl2 (fun _ _ q17 q16 bl2=> ?_) fun e=> ?_
 ·refine gx Ah 3 q17<|oB q16 fun _ q18 q16=>gcH q18 EB<|oB q16 fun _ q19 q16=>gcH q19 EB<|oB q16 fun _ q20 q16=>gcH q20 ME<|gi q16 ?_ ?_<;>intro _ q16
  ·obtain rfl:=nT bl2 q16;exact Agf hm▸gE
  exact gT bl2 hle2 q16
 subst e;let y3:=s2;refine gi hm ?_ ?_<;>intro _ hm
 ·exact Agf hm▸gE
 exact Agf hm▸gE
def HA (a0:g_api_Key)(k0:g_api_Head):Option (Bool×g_api_Head):=some ((a0.Log==k0.Log),k0)
theorem Pu {a0 k0 r}(hm:HA a0 k0=some r):Sp prog 199 [ag (Ah a0),.pb 0 0] [.box 0 [.d (.i k0.Log),.d (.i k0.Size),.d (.u k0.Root.1),.d (.u k0.Root.2),.d (.i k0.At),.d (.u k0.Sig.E),.d (.u k0.Sig.S)] 38] 1 (is (.d (.t r.1)) [.box 0 [.d (.i r.2.Log),.d (.i r.2.Size),.d (.u r.2.Root.1),.d (.u r.2.Root.2),.d (.i r.2.At),.d (.u r.2.Sig.E),.d (.u r.2.Sig.S)] 38] 1):=by
 refine sq ?_;intros;exact Agf hm▸gE
def CH (a0:Int):Option Bool:=bnd (((decide (a0≥0))&&(decide (a0≤1099511627776)))) fun x1=>some x1
theorem DO {a0 r}(hm:CH a0=some r):Sf prog 99 [.d (.i a0)] (.d (.t r)):=by
 refine sq ?_;intros;refine bE hm ?_;intro _ hm;exact Agf hm▸gE
def LC (a0:UInt64×UInt64)(i1:Int)(s1:(List UInt8)):Option ((List UInt8)):=Ab (idx [a0.1,a0.2] (i1:Int)) fun x4=>Ab (E2 s1 x4 8) fun x5=>some x5
def DJ (a0:UInt64×UInt64):Option (List UInt8):=Ab (Ab (CD (LC a0) 2 0 ([]:List UInt8)) fun x2=>some x2) fun x1=>some x1
theorem IM {a0 r}(hm:DJ a0=some r):Sp prog 158 [ag (Ao a0)] [] 0 (is (.ow 0) [.row 0 1 _ eB r] 1):=by
 refine sq ?_;intros;unfold DJ at hm;obtain⟨x1,q1,hm⟩:=Ag hm;refine oB q1 fun _ q2 q1=>UY 0 eB 3 1<|gF (EM _ 2 _) q2 (fun p0 p=>⟨[(3,.ow 1),(6,.agg [.d (.u a0.1),.d (.u a0.2)]),(7,.d (.i p0)),(1,.pb 0 0)],[(0,.row 1 1 _ eB p),(1,.box 0 [.d (.u a0.1),.d (.u a0.2)] 34)],[],2⟩) fun i1 s1 Jl bl1=>cM bl1 (2:Int) (fun _ q5 bl1=> ?_) fun e=> ?_
 ·exact oB q5 fun _ q7 q5=>gidxV (k:=1) (ag:=false) (E:=eU) ([a0.1,a0.2]:List UInt64) (fun _=>rfl) (fun _=>q7)<|gD q5 RJ fun _ q8 q5=>gM bl1 lk q5
 subst e;obtain rfl:=Agf q1;exact Agf hm▸gE
def AU (a1:Int):Option (List UInt8):=Ab (if(decide (a1<0))=true then none else some ()) fun x1=>Ab (bnd ((w64 (a1-(w64 (0-((0:Nat):Int)))))) fun x3=>if(decide (x3>0))=true then if 0≤x3∧x3*1≤140737488355328∧x3≤140737488355328 then some ([]:List UInt8)else none else some ([]:List UInt8)) fun x2=>some x2
theorem H4 {m As w a1 r}(S:St m (As) w)(hm:AU a1=some r):
  Cm Tryz.prog 318 #[.slice none 0 0,vI a1] w fun v w'=> ∃(M:Mem),m≤M∧∃(rv0:Value) (rc0:List Value),St M ((row 1 rv0 rc0 r.length)::As) w'∧v=rv0∧BP M rc0 r:=by
 unfold AU at hm;have L0:=Mem.rfl' m;refine Oa (args:=[.slice none 0 0,vI a1]) Tryz.func318 rfl Tryz.ntmps318 (Agq rfl)<|AI<|Aw<|Fe (v:= .slice none 0 0) rfl<|AE<|nrm ?_;obtain⟨x1,q1,hm⟩:=Ag hm;have L1:=Mem.rfl' m;refine AI<|J1 [5,6,7] (fun f' w'=> ∃(M1:Mem),m≤M1∧St M1 (As) w'∧PJ f' []) ?_ ?_
 ·refine AI<|Aw<|AN (v:=vI a1) rfl<|Y7 (m:=a1) (n:=0) rfl rfl<|AE<|nrm<|H2 (t:=(decide (a1<0))) rfl (fun hc1=> ?_) (fun hc1=> ?_)
  ·replace q1:=ifT hc1 q1;cases q1
  replace q1:=ifF hc1 q1;refine EX<|nrm ?_;obtain rfl:=Agf q1;exact⟨RO,m,L1,S,trivial⟩
 rintro f1 w1 ho ⟨m1,l1,S1,ha⟩;obtain⟨u1,rfl⟩:=Kw (N:=27) ho ha;replace L0:=Mem.tr L0 l1;clear S;obtain⟨x2,q2,hm⟩:=Ag hm;have L2:=Mem.rfl' m1;refine AI<|J1 [0,1,8,9,10,11,12,13,14,15,16,17,18,19,20,21,22,23,24,25] (fun f' w'=> ∃(M2:Mem) (v1:Value) (c1:List Value),m1≤M2∧St M2 ((row 1 v1 c1 x2.length)::As) w'∧BP M2 c1 x2∧PJ f' [(0,v1)]) ?_ ?_
 ·refine AI<|Aw<|AN (v:=vI a1) rfl<|AN (v:= .slice none 0 0) rfl<|L4 rfl Tryz.underlying96<|AN (v:= .slice none 0 0) rfl<|Qr (n:=0) rfl Tryz.underlying96<|NK (m:=0) (n:=((0:Nat):Int)) rfl rfl<|NK (m:=a1) (n:=(w64 (0-((0:Nat):Int)))) rfl rfl ?_;obtain⟨x3,q3,q2⟩:=Aa5 q2;refine Fe (v:=vI x3) (AgJ (fun z=>vI z) q3.symm)<|AE<|nrm<|AI<|Aw<|AN (v:=vI x3) rfl<|XN (m:=x3) (n:=0) rfl rfl<|AE<|nrm ?_;refine H2 (t:=(decide (x3>0))) rfl (fun hc2=> ?_) (fun hc2=> ?_)
  ·replace q2:=ifT hc2 q2;refine Aw<|AN (v:= .slice none 0 0) rfl<|AN (v:= .slice none 0 0) rfl<|L4 rfl Tryz.underlying96<|Zb rfl Tryz.underlying96 Tryz.sizeOf5 rfl<|AN (v:=vI x3) rfl ?_;obtain⟨q4,q2⟩:=A6 q2;refine Ze (bytes:=1) (sz:=1) (k:=x3) (ti:=Tryz.t5) S1 rfl rfl q4 Tryz.underlying96 Tryz.underlying3 Tryz.type5 rfl rfl rfl rfl ?_;intro v2 c2 w2 S2;replace S2:St _ ((row 1 v2 c2 x3.toNat)::As) _:=S2;clear S1;refine AN (v:= .slice none 0 0) rfl<|Qr (n:=0) rfl Tryz.underlying96<|WD (i:=0) S2 rfl rfl Tryz.underlying96 Tryz.sizeOf5 rfl (j:=0) rfl (Int.le_refl 0) (AgZ _) ?_;intro v3 S3;rw[show c2.take ((0:Int).toNat*1)=[]from by simp]at S3;have h2:BP m1 [] ([]:List UInt8):=BP.nil;replace S3:St _ ((row 1 v3 [] ([]:List UInt8).length)::As) _:=S3;clear S2;refine Fe (v:=v3) rfl<|AE<|nrm ?_;obtain rfl:=Agf q2;exact⟨RO,m1,_,_,L2,S3,h2,⟨rfl,trivial⟩⟩
  replace q2:=ifF hc2 q2;refine EX<|nrm ?_;have S4:=St.rowNil S1 1;have h3:BP m1 [] ([]:List UInt8):=BP.nil;replace S4:St _ ((row 1 (.slice none 0 0) [] ([]:List UInt8).length)::As) _:=S4;clear S1;obtain rfl:=Agf q2;exact⟨RO,m1,_,_,L2,S4,h3,⟨rfl,trivial⟩⟩
 rintro f2 w3 ho ⟨m2,v1,c1,l2,S5,h1,ha⟩;obtain⟨u2,rfl⟩:=Kw (N:=27) ho ha;replace L0:=Mem.tr L0 l2;clear S1;refine AI<|Aw<|AN (v:=v1) rfl<|Fe (v:=v1) rfl<|AE<|nrm<|H0<|QA ?_;intro we hpd;replace S5:=St.pd S5 hpd;obtain rfl:=Agf hm;exact Ys [_] rfl ⟨rfl,trivial⟩ ⟨_,L0,_,_,S5,rfl,h1⟩
theorem Ia {a1 r}(hm:AU a1=some r):Sp prog 318 [.d (.v (.slice none 0 0)),.d (.i a1)] [] 0 (is (.ow 0) [.row 0 1 _ eB r] 1):=
 gnl call318 Br.b (fun S=>H4 S hm)
def BN (i1:Int)(x3:List UInt8)(s1:Int):Option (Int):=Ab (bnd ((w64 (s1+(x3.length:Int)))) fun x5=>if(decide (x5<0))=true then none else some x5) fun x4=>some x4
def BM (i2:Int)(x9:List UInt8)(s2:(List UInt8)):Option ((List UInt8)):=Ab (app 1 s2 x9) fun x10=>some x10
def Ba (a0:List (List UInt8)):Option (List UInt8):=Ab (Ab (Ey BN a0 0 0) fun x2=>some x2) fun x1=>Ab (AU x1) fun x6=>Ab (Ab (Ey BM a0 0 x6) fun x8=>some x8) fun x7=>some x7
theorem Fi {a0 r}(hm:Ba a0=some r):Sp prog 255 [sl (eL eB) a0] [] 0 (is (.ow 0) [.row 0 1 _ eB r] 1):=by
 refine sq ?_;intros;unfold Ba at hm;obtain⟨x1,q1,hm⟩:=Ag hm;refine oB q1 fun _ q2 q1=>Hd 0 (E:=(eL eB)) (xs:=a0) 9 fun hle1=>gF (E0 _ _ _) q2 (fun p0 p=>⟨[(0,sl (eL eB) a0),(3,.d (.i p)),(9,sl (eL eB) a0),(10,.d (.i (a0.length:Int))),(11,.d (.i p0))],[],[],0⟩) fun i1 s1 Jl bl1=>c0 bl1 (fun _ _ q6 q5 bl1=> ?_) fun e=> ?_
 ·refine oB q5 fun _ q7 q5=>gx (eL eB) 1 q6<|bE q7 ?_;intro _ q7;refine gi q7 ?_ ?_<;>intro _ q7
  ·cases q7
  obtain rfl:=Agf q7;exact gM bl1 hle1 q5
 subst e;obtain rfl:=Agf q1;refine gD hm Ia fun _ q9 hm=> ?_;obtain⟨x7,q10,hm⟩:=Ag hm;refine oB q10 fun _ q11 q10=>Hd 2 (E:=(eL eB)) (xs:=a0) 25 fun hle2=>gF (E0 _ _ _) q11 (fun p0 p=>⟨[(6,.ow 0),(25,sl (eL eB) a0),(26,.d (.i (a0.length:Int))),(27,.d (.i p0))],[(0,.row 0 1 _ eB p)],[],1⟩) fun i2 s2 Jl bl2=>c0 bl2 (fun _ _ q15 q14 bl2=> ?_) fun e=> ?_
 ·exact gx (eL eB) 1 q15<|oB q14 fun _ q16 q14=>gp eB 1 q16<|gM bl2 hle2 q14
 subst e;obtain rfl:=Agf q10;exact Agf hm▸gE
def JF (a0:ByteArray)(a1:List (List UInt8)):Option (List UInt8):=Ab (app 1 ([]:List UInt8) a0.data.toList) fun x1=>Ab (Ba a1) fun x2=>Ab (app 1 x1 x2) fun x3=>some x3
theorem RG {a0 a1 r}(hm:JF a0 a1=some r):Sp prog 188 [.d (.s a0),sl (eL eB) a1] [] 0 (is (.ow 0) [.row 0 1 _ eB r] 1):=by
 refine sq ?_;intros;refine oB hm fun _ q1 hm=>gofS q1<|gD hm Fi fun _ q2 hm=>oB hm fun _ q3 hm=>gp eB 1 q3 ?_;exact Agf hm▸gE
def Ih (a0:Int)(i1:Int)(s1:UInt8×UInt8×UInt8×UInt8×UInt8×UInt8×UInt8×UInt8):Option (UInt8×UInt8×UInt8×UInt8×UInt8×UInt8×UInt8×UInt8):=if(0:Int)≤(w64 (56-(w64 (8*(i1:Int)))))then Ab (idx [s1.1,s1.2.1,s1.2.2.1,s1.2.2.2.1,s1.2.2.2.2.1,s1.2.2.2.2.2.1,s1.2.2.2.2.2.2.1,s1.2.2.2.2.2.2.2] (i1:Int)) fun x4=>bnd (if(i1:Int)=0 then(toB (Bg a0 ((w64 (56-(w64 (8*(i1:Int))))).toNat)))else s1.1) fun x5=>bnd (if(i1:Int)=1 then(toB (Bg a0 ((w64 (56-(w64 (8*(i1:Int))))).toNat)))else s1.2.1) fun x6=>bnd (if(i1:Int)=2 then(toB (Bg a0 ((w64 (56-(w64 (8*(i1:Int))))).toNat)))else s1.2.2.1) fun x7=>bnd (if(i1:Int)=3 then(toB (Bg a0 ((w64 (56-(w64 (8*(i1:Int))))).toNat)))else s1.2.2.2.1) fun x8=>bnd (if(i1:Int)=4 then(toB (Bg a0 ((w64 (56-(w64 (8*(i1:Int))))).toNat)))else s1.2.2.2.2.1) fun x9=>bnd (if(i1:Int)=5 then(toB (Bg a0 ((w64 (56-(w64 (8*(i1:Int))))).toNat)))else s1.2.2.2.2.2.1) fun x10=>bnd (if(i1:Int)=6 then(toB (Bg a0 ((w64 (56-(w64 (8*(i1:Int))))).toNat)))else s1.2.2.2.2.2.2.1) fun x11=>bnd (if(i1:Int)=7 then(toB (Bg a0 ((w64 (56-(w64 (8*(i1:Int))))).toNat)))else s1.2.2.2.2.2.2.2) fun x12=>some (x5,x6,x7,x8,x9,x10,x11,x12)else none
def C7 (a0:Int):Option (List UInt8):=Ab (Ab (CD (Ih a0) 8 0 (0,0,0,0,0,0,0,0)) fun x2=>some (x2.1,x2.2.1,x2.2.2.1,x2.2.2.2.1,x2.2.2.2.2.1,x2.2.2.2.2.2.1,x2.2.2.2.2.2.2.1,x2.2.2.2.2.2.2.2)) fun x1=>some ([x1.1,x1.2.1,x1.2.2.1,x1.2.2.2.1,x1.2.2.2.2.1,x1.2.2.2.2.2.1,x1.2.2.2.2.2.2.1,x1.2.2.2.2.2.2.2]:List UInt8)
theorem Hi {a0 r}(hm:C7 a0=some r):Sp prog 189 [.d (.i a0)] [] 0 (is (.ow 0) [.row 0 1 _ eB r] 1):=by
 refine sq ?_;intros;unfold C7 at hm;obtain⟨x1,q1,hm⟩:=Ag hm;refine oB q1 fun x2 q2 q1=>gF (EM _ 8 _) q2 (fun p0 (p_0,p_1,p_2,p_3,p_4,p_5,p_6,p_7)=>⟨[(0,.d (.i a0)),(3,.pb 0 0),(5,.d (.i p0))],[(0,.box 0 [.d (.b p_0),.d (.b p_1),.d (.b p_2),.d (.b p_3),.d (.b p_4),.d (.b p_5),.d (.b p_6),.d (.b p_7)] 300)],[],1⟩) fun i1 s1 Jl bl1=>cM bl1 (8:Int) (fun _ q5 bl1=> ?_) fun e=> ?_
 ·unfold Ih at q5;obtain⟨q7,q5⟩:=A6 q5;refine gsh (r:= .i (Bg a0 ((w64 (56-(w64 (8*(i1:Int))))).toNat))) (fun h=>q7)<|oB q5 fun _ q8 q5=>TJ (fun _=>q8)<|bE q5 ?_;intro _ q5;refine bE q5 ?_;intro _ q5;refine bE q5 ?_;intro _ q5;refine bE q5 ?_;intro _ q5;refine bE q5 ?_;intro _ q5;refine bE q5 ?_;intro _ q5;refine bE q5 ?_;intro _ q5;refine bE q5 ?_;intro _ q5;exact gstA D.b (toB (Bg a0 ((w64 (56-(w64 (8*(i1:Int))))).toNat))) q8<|gM bl1 lk q5
 subst e;obtain rfl:=Agf q1;let x1:=(x2.1,x2.2.1,x2.2.2.1,x2.2.2.2.1,x2.2.2.2.2.1,x2.2.2.2.2.2.1,x2.2.2.2.2.2.2.1,x2.2.2.2.2.2.2.2);refine gslA (k:=1) eB ([x1.1,x1.2.1,x1.2.2.1,x1.2.2.2.1,x1.2.2.2.2.1,x1.2.2.2.2.2.1,x1.2.2.2.2.2.2.1,x1.2.2.2.2.2.2.2]:List UInt8) (fun _=>rfl) ?_;exact Agf hm▸gE
def Gy (a0:g_api_Head):Option (List UInt8):=Ab (C7 a0.Log) fun x1=>Ab (C7 a0.Size) fun x2=>Ab (DJ a0.Root) fun x3=>Ab (C7 a0.At) fun x4=>Ab (JF (⟨#[104,101,97,100]⟩:ByteArray) ([x1,x2,x3,x4]:List (List UInt8))) fun x5=>some x5
theorem Nu {a0 r}(hm:Gy a0=some r):Sp prog 102 [ag (Af a0)] [] 0 (is (.ow 0) [.row 0 1 _ eB r] 1):=by
 refine sq ?_;intros;refine gD hm Hi fun x1 q1 hm=>gD hm Hi fun x2 q2 hm=>gD hm IM fun x3 q3 hm=>gD hm Hi fun x4 q4 hm=>X3 (k:=1) (eL eB) ([x1,x2,x3,x4]:List (List UInt8)) (fun _=>rfl)<|gD hm RG fun _ q5 hm=> ?_;exact Agf hm▸gE
def Gx (a0:g_api_Key)(a1:Int)(a2:Bool)(a3:List UInt8)(a4:g_api_Sig):Option Int:=Ab (CH a1) fun x1=>if((!x1)||(!a2))=true then some 1 else if(a1 !=a0.Log)=true then some 240 else Ab (FU a0.Key a3 a4) fun x2=>some x2
theorem Nt {a0 a1 a2 a3 a4 r}(hm:Gx a0 a1 a2 a3 a4=some r):Sf prog 154 [ag (Ah a0),.d (.i a1),.d (.t a2),sl eB a3,ag (JX a4)] (.d (.i r)):=by
 refine sq ?_;intros;refine gA hm DO fun _ q1 hm=>gi hm ?_ ?_<;>intro _ hm
 ·exact Agf hm▸gE
 refine gi hm ?_ ?_<;>intro _ hm
 ·exact Agf hm▸gE
 refine gA hm OS fun _ q2 hm=> ?_;exact Agf hm▸gE
def C0 (a0:g_api_Key)(a1:g_api_Head):Option Int:=Ab (CH a1.At) fun x1=>Ab (Gy a1) fun x2=>Ab (Gx a0 a1.Log ((x1&&(decide (a1.Size≥0)))&&(decide (a1.Size≤256))) x2 a1.Sig) fun x3=>some x3
theorem Pq {a0 a1 r}(hm:C0 a0 a1=some r):Sf prog 200 [ag (Ah a0),ag (Af a1)] (.d (.i r)):=by
 refine sq ?_;intros;refine gA hm DO fun _ q1 hm=>gD hm Nu fun _ q2 hm=>gD hm Nt fun _ q3 hm=> ?_;exact Agf hm▸gE
def A8 (a0:List g_api_Key)(i1:Int)(s1:Int×Int×UInt64×UInt64×Int×UInt64×UInt64):Option ((Int×Int×UInt64×UInt64×Int×UInt64×UInt64)⊕(Int×g_api_Head)):=Ab (idx a0 (i1:Int)) fun x3=>Ab (HA x3 (⟨s1.1,s1.2.1,(s1.2.2.1,s1.2.2.2.1),s1.2.2.2.2.1,(⟨s1.2.2.2.2.2.1,s1.2.2.2.2.2.2⟩:g_api_Sig)⟩:g_api_Head)) fun x4=>if x4.1=true then some (.inr ((i1:Int),x4.2))else some (.inl (x4.2.Log,x4.2.Size,x4.2.Root.1,x4.2.Root.2,x4.2.At,x4.2.Sig.E,x4.2.Sig.S))
def AP (a0:List g_api_Key)(k0:g_api_Head):Option (Int×g_api_Head):=Ab (BS (A8 a0) a0.length 0 (k0.Log,k0.Size,k0.Root.1,k0.Root.2,k0.At,k0.Sig.E,k0.Sig.S)) fun x1=>match x1 with| .inr r=>some r| .inl y1=>some ((-1),(⟨y1.1,y1.2.1,(y1.2.2.1,y1.2.2.2.1),y1.2.2.2.2.1,(⟨y1.2.2.2.2.2.1,y1.2.2.2.2.2.2⟩:g_api_Sig)⟩:g_api_Head))
theorem Ez {a0 k0 r}(hm:AP a0 k0=some r):Sp prog 139 [sl Ah a0,.fn (.func 199) [] [.pb 0 0]] [.box 0 [.d (.i k0.Log),.d (.i k0.Size),.d (.u k0.Root.1),.d (.u k0.Root.2),.d (.i k0.At),.d (.u k0.Sig.E),.d (.u k0.Sig.S)] 38] 1 (is (.d (.i r.1)) [.box 0 [.d (.i r.2.Log),.d (.i r.2.Size),.d (.u r.2.Root.1),.d (.u r.2.Root.2),.d (.i r.2.At),.d (.u r.2.Sig.E),.d (.u r.2.Sig.S)] 38] 1):=by
 refine sq ?_;intros;refine oB hm fun _ q1 hm=>Hd 0 (E:=Ah) (xs:=a0) 6 fun hle1=>gF (EN _ _ _) q1 (fun p0 (p_0,p_1,p_2,p_3,p_4,p_5,p_6)=>⟨[(0,sl Ah a0),(1,.fn (.func 199) [] [.pb 0 0]),(7,.d (.i (a0.length:Int))),(8,.d (.i p0))],[(0,.box 0 [.d (.i p_0),.d (.i p_1),.d (.u p_2),.d (.u p_3),.d (.i p_4),.d (.u p_5),.d (.u p_6)] 38)],[],1⟩) fun i1 s1 Jl bl1=>cN bl1 (a0.length:Int) (fun _ q4 bl1=> ?_) fun e=> ?_
 ·refine oB q4 fun _ q6 q4=>gx Ah 3 q6<|gD q4 Pu fun _ q7 q4=>gi q4 ?_ ?_<;>intro _ q4
  ·obtain rfl:=nT bl1 q4;exact Agf hm▸gE
  exact gT bl1 hle1 q4
 subst e;let y1:=s1;exact Agf hm▸gE
def Fq (a0:g_api_Head)(a1:List g_api_Key):Option Bool:=Ab (AP a1 a0) fun x1=>Ab (gu (decide (x1.1≥0)) (idx a1 x1.1)) fun x2=>Ab (gu (decide (x1.1≥0)) (C0 x2 x1.2)) fun x3=>bnd (((decide (x1.1≥0))&&(x3==0))) fun x4=>some x4
theorem Mo {a0 a1 r}(hm:Fq a0 a1=some r):Sf prog 116 [ag (Af a0),sl Ah a1] (.d (.t r)):=by
 refine sq ?_;intros;refine gD hm Ez fun _ q1 hm=>oB hm fun _ q2 hm=>gxG Ah 3 q2<|oB hm fun _ q3 hm=>gcH q3 Pq<|bE hm ?_;intro _ hm;exact Agf hm▸gE
def EL (i1:Int)(x2:Int)(s1:Unit):Option ((Unit)⊕Int):=if(x2 !=0)=true then some (.inr x2)else some (.inl ())
def LG (a0:List Int):Option Int:=Ab (E8 EL a0 0 ()) fun x1=>match x1 with| .inr r=>some r| .inl y1=>some 0
theorem Uo {a0 r}(hm:LG a0=some r):Sf prog 322 [sl eI a0] (.d (.i r)):=by
 refine sq ?_;intros;refine oB hm fun _ q1 hm=>Hd 0 (E:=eI) (xs:=a0) 6 fun hle1=>gF (ER _ _ _) q1 (fun p0 _=>⟨[(3,.d (.i 0)),(6,sl eI a0),(7,.d (.i (a0.length:Int))),(8,.d (.i p0))],[],[],0⟩) fun i1 s1 Jl bl1=>cR bl1 (fun _ _ q5 q4 bl1=> ?_) fun e=> ?_
 ·refine gx eI 1 q5<|gi q4 ?_ ?_<;>intro _ q4
  ·obtain rfl:=nT bl1 q4;exact Agf hm▸gE
  exact gT bl1 hle1 q4
 subst e;exact Agf hm▸gE
def I1 (a0:List Int):Option Int:=Ab (LG a0) fun x1=>some x1
theorem Uj {a0 r}(hm:I1 a0=some r):Sf prog 267 [sl eI a0] (.d (.i r)):=by
 refine sq ?_;intros;refine gA hm Uo fun _ q1 hm=> ?_;exact Agf hm▸gE
def GD (a0:Int):Option Bool:=some (a0 !=a0)
theorem K9 {a0 r}(hm:GD a0=some r):Sf prog 265 [.d (.i a0)] (.d (.t r)):=by
 refine sq ?_;intros;exact Agf hm▸gE
def CK (a0:Int)(a1:Int):Option Int:=Ab (GD a0) fun x1=>Ab (GD a1) fun x2=>if x1=true then if x2=true then some 0 else some (-1)else if x2=true then some 1 else if(decide (a0<a1))=true then some (-1)else if(decide (a0>a1))=true then some 1 else some 0
theorem GX {a0 a1 r}(hm:CK a0 a1=some r):Sf prog 268 [.d (.i a0),.d (.i a1)] (.d (.i r)):=by
 refine sq ?_;intros;refine gA hm K9 fun _ q1 hm=>gA hm K9 fun _ q2 hm=>gi hm ?_ ?_<;>intro _ hm
 ·refine gi hm ?_ ?_<;>intro _ hm
  ·exact Agf hm▸gE
  exact Agf hm▸gE
 refine gi hm ?_ ?_<;>intro _ hm
 ·exact Agf hm▸gE
 refine gi hm ?_ ?_<;>intro _ hm
 ·exact Agf hm▸gE
 refine gi hm ?_ ?_<;>intro _ hm
 ·exact Agf hm▸gE
 exact Agf hm▸gE
def Ep (a0:UInt64):Option Bool:=bnd (((a0.toNat:Int) !=(a0.toNat:Int))) fun x1=>some x1
theorem IN {a0 r}(hm:Ep a0=some r):Sf prog 365 [.d (.u a0)] (.d (.t r)):=by
 refine sq ?_;intros;refine bE hm ?_;intro _ hm;exact Agf hm▸gE
def Dr (a0:UInt64)(a1:UInt64):Option Int:=Ab (Ep a0) fun x1=>Ab (Ep a1) fun x2=>if x1=true then if x2=true then some 0 else some (-1)else if x2=true then some 1 else if(decide ((a0.toNat:Int)<(a1.toNat:Int)))=true then some (-1)else if(decide ((a0.toNat:Int)>(a1.toNat:Int)))=true then some 1 else some 0
theorem Mg {a0 a1 r}(hm:Dr a0 a1=some r):Sf prog 323 [.d (.u a0),.d (.u a1)] (.d (.i r)):=by
 refine sq ?_;intros;refine gA hm IN fun _ q1 hm=>gA hm IN fun _ q2 hm=>gi hm ?_ ?_<;>intro _ hm
 ·refine gi hm ?_ ?_<;>intro _ hm
  ·exact Agf hm▸gE
  exact Agf hm▸gE
 refine gi hm ?_ ?_<;>intro _ hm
 ·exact Agf hm▸gE
 refine gi hm ?_ ?_<;>intro _ hm
 ·exact Agf hm▸gE
 refine gi hm ?_ ?_<;>intro _ hm
 ·exact Agf hm▸gE
 exact Agf hm▸gE
def Bd (a0:List UInt64)(a1:List UInt64)(i1:Int)(s1:Unit):Option ((Unit)⊕Int):=Ab (idx a0 (i1:Int)) fun x3=>if(decide ((i1:Int)≥(a1.length:Int)))=true then some (.inr 1)else Ab (idx a1 (i1:Int)) fun x4=>Ab (Dr x3 x4) fun x5=>if(x5 !=0)=true then some (.inr x5)else some (.inl ())
def Bw (a0:List UInt64)(a1:List UInt64):Option Int:=Ab (BS (Bd a0 a1) a0.length 0 ()) fun x1=>match x1 with| .inr r=>some r| .inl y1=>if(decide ((a0.length:Int)<(a1.length:Int)))=true then some (-1)else some 0
theorem He {a0 a1 r}(hm:Bw a0 a1=some r):Sf prog 269 [sl eU a0,sl eU a1] (.d (.i r)):=by
 refine sq ?_;intros;refine oB hm fun _ q1 hm=>Hd 0 (E:=eU) (xs:=a0) 9 fun hle1=>gF (EN _ _ _) q1 (fun p0 _=>⟨[(0,sl eU a0),(1,sl eU a1),(9,sl eU a0),(10,.d (.i (a0.length:Int))),(11,.d (.i p0))],[],[],0⟩) fun i1 s1 Jl bl1=>cN bl1 (a0.length:Int) (fun _ q4 bl1=> ?_) fun e=> ?_
 ·refine oB q4 fun _ q6 q4=>gx eU 1 q6<|gi q4 ?_ ?_<;>intro _ q4
  ·obtain rfl:=nT bl1 q4;exact Agf hm▸gE
  refine oB q4 fun _ q7 q4=>gx eU 1 q7<|gA q4 Mg fun _ q8 q4=>gi q4 ?_ ?_<;>intro _ q4
  ·obtain rfl:=nT bl1 q4;exact Agf hm▸gE
  exact gT bl1 hle1 q4
 subst e;refine gi hm ?_ ?_<;>intro _ hm
 ·exact Agf hm▸gE
 exact Agf hm▸gE
def C8 (a0:g_api_Head)(a1:g_api_Head):Option Int:=Ab (CK a0.Log a1.Log) fun x1=>Ab (CK a0.Size a1.Size) fun x2=>Ab (Bw ([a0.Root.1,a0.Root.2]:List UInt64) ([a1.Root.1,a1.Root.2]:List UInt64)) fun x3=>Ab (CK a0.At a1.At) fun x4=>Ab (I1 ([x1,x2,x3,x4]:List Int)) fun x5=>some x5
theorem K6 {a0 a1 r}(hm:C8 a0 a1=some r):Sf prog 201 [ag (Af a0),ag (Af a1)] (.d (.i r)):=by
 refine sq ?_;intros;refine AfA 2 [.i a0.Log,.i a0.Size,.u a0.Root.1,.u a0.Root.2,.i a0.At,.u a0.Sig.E,.u a0.Sig.S]<|AfA 3 [.i a1.Log,.i a1.Size,.u a1.Root.1,.u a1.Root.2,.i a1.At,.u a1.Sig.E,.u a1.Sig.S]<|gA hm GX fun x1 q1 hm=>gA hm GX fun x2 q2 hm=>gslM (k:=1) (E:=eU) ([a0.Root.1,a0.Root.2]:List UInt64) (fun _=>rfl)<|gslM (k:=1) (E:=eU) ([a1.Root.1,a1.Root.2]:List UInt64) (fun _=>rfl)<|gA hm He fun x3 q3 hm=>gA hm GX fun x4 q4 hm=>gq eI 1 [x1,x2,x3,x4] ?_;refine gA hm Uj fun _ q5 hm=> ?_;exact Agf hm▸gE
def D8 (a0:g_api_Head)(a1:g_api_Head):Option Int:=Ab (C8 a0 a1) fun x1=>some x1
theorem Jd {a0 a1 r}(hm:D8 a0 a1=some r):Sf prog 118 [ag (Af a0),ag (Af a1)] (.d (.i r)):=by
 refine sq ?_;intros;refine gA hm K6 fun _ q1 hm=> ?_;exact Agf hm▸gE
def Ce (a0:g_api_Pool)(i1:Int)(s1:Unit):Option ((Unit)⊕Bool):=Ab (gu (decide ((i1:Int)>0)) (idx a0.L (w64 ((i1:Int)-1)))) fun x3=>Ab (gu (decide ((i1:Int)>0)) (idx a0.L (i1:Int))) fun x4=>Ab (gu (decide ((i1:Int)>0)) (D8 x3 x4)) fun x5=>if((decide ((i1:Int)>0))&&(decide (x5≥0)))=true then some (.inr false)else some (.inl ())
def FD (a0:g_api_Pool):Option Bool:=Ab (BS (Ce a0) a0.L.length 0 ()) fun x1=>match x1 with| .inr r=>some r| .inl y1=>some true
theorem Pv {a0 r}(hm:FD a0=some r):Sf prog 198 [ag (HZ a0)] (.d (.t r)):=by
 refine sq ?_;intros;refine oB hm fun _ q1 hm=>Hd 0 (E:=Af) (xs:=a0.L) 5 fun hle1=>gF (EN _ _ _) q1 (fun p0 _=>⟨[(1,.pb 0 0),(6,.d (.i (a0.L.length:Int))),(7,.d (.i p0))],[(0,.box 0 [sl Af a0.L] 26)],[],1⟩) fun i1 s1 Jl bl1=>cN bl1 (a0.L.length:Int) (fun _ q4 bl1=> ?_) fun e=> ?_
 ·refine oB q4 fun _ q6 q4=>gxG Af 7 q6<|oB q4 fun _ q7 q4=>gxG Af 7 q7<|oB q4 fun _ q8 q4=>gcH q8 Jd<|gi q4 ?_ ?_<;>intro _ q4
  ·obtain rfl:=nT bl1 q4;exact Agf hm▸gE
  exact gT bl1 hle1 q4
 subst e;exact Agf hm▸gE
def E3 (a1:List g_api_Key)(i1:Int)(x4:g_api_Head)(s1:Unit):Option ((Unit)⊕Int):=Ab (Fq x4 a1) fun x5=>if(!x5)=true then some (.inr 40)else some (.inl ())
def Ft (a0:g_api_Pool)(a1:List g_api_Key):Option Int:=bnd ((decide ((a0.L.length:Int)>1024))) fun x1=>if x1=true then some 2 else Ab (FD a0) fun x2=>if(!x2)=true then some 1 else Ab (E8 (E3 a1) a0.L 0 ()) fun x3=>match x3 with| .inr r=>some r| .inl y1=>some 0
theorem Mp {a0 a1 r}(hm:Ft a0 a1=some r):Sf prog 115 [ag (HZ a0),sl Ah a1] (.d (.i r)):=by
 refine sq ?_;intros;refine bE hm ?_;intro _ hm;refine gi hm ?_ ?_<;>intro _ hm
 ·exact Agf hm▸gE
 refine gA hm Pv fun _ q2 hm=>gi hm ?_ ?_<;>intro _ hm
 ·exact Agf hm▸gE
 refine oB hm fun _ q3 hm=>Hd 1 (E:=Af) (xs:=a0.L) 17 fun hle1=>gF (ER _ _ _) q3 (fun p0 _=>⟨[(1,sl Ah a1),(17,sl Af a0.L),(18,.d (.i (a0.L.length:Int))),(19,.d (.i p0)),(2,.pb 0 0)],[(0,.box 0 [sl Af a0.L] 26)],[],1⟩) fun i1 s1 Jl bl1=>cR bl1 (fun _ _ q7 q6 bl1=> ?_) fun e=> ?_
 ·refine gx Af 7 q7<|gA q6 Mo fun _ q8 q6=>gi q6 ?_ ?_<;>intro _ q6
  ·obtain rfl:=nT bl1 q6;exact Agf hm▸gE
  exact gT bl1 hle1 q6
 subst e;exact Agf hm▸gE
def AT (a0:Ak):Option Int:=Ab (Ft a0.Client.Pool a0.Client.Logs) fun x1=>some x1
theorem Mh {a0 r}(hm:AT a0=some r):Sf prog 50 [ag (BD a0)] (.d (.i r)):=by
 refine sq ?_;intros;refine gA hm Mp fun _ q1 hm=> ?_;exact Agf hm▸gE
def Jm (a0:Int):Option Bool:=bnd (((decide ((0:Int)≤a0))&&(decide (a0≤1099511627776)))) fun x1=>some x1
theorem Mq {a0 r}(hm:Jm a0=some r):Sf prog 190 [.d (.i a0)] (.d (.t r)):=by
 refine sq ?_;intros;refine bE hm ?_;intro _ hm;exact Agf hm▸gE
def GH (a0:Int):Option Bool:=Ab (Jm a0) fun x1=>bnd ((x1&&(decide (a0<68719476736)))) fun x2=>some x2
theorem Lh {a0 r}(hm:GH a0=some r):Sf prog 104 [.d (.i a0)] (.d (.t r)):=by
 refine sq ?_;intros;refine gA hm Mq fun _ q1 hm=>bE hm ?_;intro _ hm;exact Agf hm▸gE
def Ha (a0:Int)(a1:Int):Option Int:=some (w64 ((w64 (16*a0))+a1))
theorem Mr {a0 a1 r}(hm:Ha a0 a1=some r):Sf prog 106 [.d (.i a0),.d (.i a1)] (.d (.i r)):=by
 refine sq ?_;intros;exact Agf hm▸gE
def E1 (a0:Int):Option Bool:=bnd (((decide ((0:Int)≤a0))&&(decide (a0≤1099511627776)))) fun x1=>some x1
theorem HE {a0 r}(hm:E1 a0=some r):Sf prog 159 [.d (.i a0)] (.d (.t r)):=by
 refine sq ?_;intros;refine bE hm ?_;intro _ hm;exact Agf hm▸gE
def Gp (a0:g_api_Sieve):Option Int:=Ab (if(decide (a0.Bits<8))=true then some (decide (a0.Bits<8))else if(decide (a0.Bits>8192))=true then some (decide (a0.Bits>8192))else some ((JZ a0.Bits 7) !=0)) fun x1=>if x1=true then some 1 else Ab (if(decide (a0.Hashes<1))=true then some (decide (a0.Hashes<1))else if(decide (a0.Hashes>8))=true then some (decide (a0.Hashes>8))else Ab (E1 a0.Salt) fun x3=>if(!x3)=true then some (!x3)else bnd (((a0.B.length:Int) !=(Bg a0.Bits 3))) fun x4=>some x4) fun x2=>if x2=true then some 1 else some 0
theorem No {a0 r}(hm:Gp a0=some r):Sf prog 107 [ag (Ae a0)] (.d (.i r)):=by
 refine sq fun D0 As η0 m0 hd=>oB hm fun x1 q1 hm=>gj (fun(_:Unit)=>⟨[(1,.pb 0 0),(3,.d (.t x1))],[(0,.box 0 [.d (.i a0.Bits),.d (.i a0.Hashes),.d (.i a0.Salt),sl eB a0.B] 98)],[],1⟩) (fun _=>True) (fun Jp bk1=> ?_) fun _ _=> ?_
 ·refine gi q1 ?_ ?_<;>intro _ q1
  ·obtain rfl:=Agf q1;exact gb bk1 hd () trivial
  refine gi q1 ?_ ?_<;>intro _ q1
  ·obtain rfl:=Agf q1;exact gb bk1 hd () trivial
  obtain rfl:=Agf q1;exact gb bk1 hd () trivial
 refine gi hm ?_ ?_<;>intro _ hm
 ·exact Agf hm▸gE
 refine oB hm fun x2 q2 hm=>gj (fun(_:Unit)=>⟨[(14,.d (.t x2)),(1,.pb 0 0)],[(0,.box 0 [.d (.i a0.Bits),.d (.i a0.Hashes),.d (.i a0.Salt),sl eB a0.B] 98)],[],1⟩) (fun _=>True) (fun Jp bk2=> ?_) fun _ _=> ?_
 ·refine gi q2 ?_ ?_<;>intro _ q2
  ·obtain rfl:=Agf q2;exact gb bk2 hd () trivial
  refine gi q2 ?_ ?_<;>intro _ q2
  ·obtain rfl:=Agf q2;exact gb bk2 hd () trivial
  refine gA q2 HE fun _ q3 q2=>gi q2 ?_ ?_<;>intro _ q2
  ·obtain rfl:=Agf q2;exact gb bk2 hd () trivial
  refine bE q2 ?_;intro _ q2;obtain rfl:=Agf q2;exact gb bk2 hd () trivial
 refine gi hm ?_ ?_<;>intro _ hm
 ·exact Agf hm▸gE
 exact Agf hm▸gE
def Dc (a0:g_api_Cascade)(i1:Int)(s1:Unit):Option ((Unit)⊕Int):=Ab (idx a0.Levels (i1:Int)) fun x4=>Ab (gu (!(x4.Hashes !=3)) (Ha a0.Day (i1:Int))) fun x5=>Ab (gu (!((x4.Hashes !=3)||(x4.Salt !=x5))) (Gp x4)) fun x6=>if(((x4.Hashes !=3)||(x4.Salt !=x5))||(x6 !=0))=true then some (.inr 1)else some (.inl ())
def Bp (a0:g_api_Cascade):Option Int:=if(decide ((a0.Levels.length:Int)>16))=true then some 2 else Ab (GH a0.Day) fun x1=>if(!x1)=true then some 1 else Ab (BS (Dc a0) a0.Levels.length 0 ()) fun x2=>match x2 with| .inr r=>some r| .inl y1=>some 0
theorem Gg {a0 r}(hm:Bp a0=some r):Sf prog 34 [ag (BE a0)] (.d (.i r)):=by
 refine sq ?_;intros;refine gi hm ?_ ?_<;>intro _ hm
 ·exact Agf hm▸gE
 refine gA hm Lh fun _ q1 hm=>gi hm ?_ ?_<;>intro _ hm
 ·exact Agf hm▸gE
 refine oB hm fun _ q2 hm=>Hd 0 (E:=Ae) (xs:=a0.Levels) 14 fun hle1=>gF (EN _ _ _) q2 (fun p0 _=>⟨[(1,.pb 0 0),(14,sl Ae a0.Levels),(15,.d (.i (a0.Levels.length:Int))),(16,.d (.i p0))],[(0,.box 0 [.d (.i a0.Day),sl Ae a0.Levels] 29)],[],1⟩) fun i1 s1 Jl bl1=>cN bl1 (a0.Levels.length:Int) (fun _ q5 bl1=> ?_) fun e=> ?_
 ·refine oB q5 fun _ q7 q5=>gx Ae 4 q7<|oB q5 fun _ q8 q5=>gcH q8 Mr<|oB q5 fun _ q9 q5=>gcH q9 No<|gi q5 ?_ ?_<;>intro _ q5
  ·obtain rfl:=nT bl1 q5;exact Agf hm▸gE
  exact gT bl1 hle1 q5
 subst e;exact Agf hm▸gE
def A5 (a0:Ak):Option Int:=Ab (Bp a0.Client.Cascade) fun x1=>some x1
theorem MI {a0 r}(hm:A5 a0=some r):Sf prog 51 [ag (BD a0)] (.d (.i r)):=by
 refine sq ?_;intros;refine gA hm Gg fun _ q1 hm=> ?_;exact Agf hm▸gE
def AD (z0:Ak)(i1:Int)(s1:Unit):Option ((Unit)⊕Int):=if i1=0 then Ab (A4 z0) fun x3=>if(x3 !=0)=true then some (.inr x3)else some (.inl ())else if i1=1 then Ab (AT z0) fun x4=>if(x4 !=0)=true then some (.inr x4)else some (.inl ())else Ab (A5 z0) fun x5=>if(x5 !=0)=true then some (.inr x5)else some (.inl ())
def Cz (z0:Ak):Option Int:=Ab (BS (AD z0) 3 0 ()) fun x1=>match x1 with| .inr r=>some r| .inl y1=>some 0
theorem Ju {z0 r}(hm:Cz z0=some r):Sp prog 42 [.bs 0 0 3 3] [.box 0 [.d (.cl 49 (BD z0)),.d (.cl 50 (BD z0)),.d (.cl 51 (BD z0))] 106] 1 (is (.d (.i r)) [] 1):=by
 refine sq ?_;intros;refine oB hm fun _ q1 hm=>gF (EN _ 3 _) q1 (fun p0 _=>⟨[(6,.bs 0 0 3 3),(7,.d (.i 3)),(8,.d (.i p0))],[(0,.box 0 [.d (.cl 49 (BD z0)),.d (.cl 50 (BD z0)),.d (.cl 51 (BD z0))] 106)],[],1⟩) fun i1 s1 Jl bl1=>cN bl1 (3:Int) (fun _ q4 bl1=> ?_) fun e=> ?_
 ·obtain rfl|rfl|rfl:i1=0∨i1=1∨i1=2:=by have h:=bl1.1.1; change i1<3 at h; omega
  ·refine gA q4 MF fun _ q6 q4=>gi q4 ?_ ?_<;>intro _ q4
   ·obtain rfl:=nT bl1 q4;exact Agf hm▸gE
   exact gT bl1 lk q4
  ·refine gA q4 Mh fun _ q7 q4=>gi q4 ?_ ?_<;>intro _ q4
   ·obtain rfl:=nT bl1 q4;exact Agf hm▸gE
   exact gT bl1 lk q4
  refine gA q4 MI fun _ q8 q4=>gi q4 ?_ ?_<;>intro _ q4
  ·obtain rfl:=nT bl1 q4;exact Agf hm▸gE
  exact gT bl1 lk q4
 subst e;exact Agf hm▸gE
def m_client_Check (a0:g_api_Client):Option Int:=Ab (Cz (⟨a0⟩:Ak)) fun x1=>some x1
theorem CI {a0 r}(hm:m_client_Check a0=some r):Sf prog 20 [ag (BL a0)] (.d (.i r)):=by
 refine sq ?_;intros;refine gfs<|gD hm Ju fun _ q1 hm=> ?_;exact Agf hm▸gE
def Ct (a0:List g_api_Key):Option (List g_api_Key):=Ab (app 24 ([]:List g_api_Key) a0) fun x1=>some x1
theorem Hh {a0 r}(hm:Ct a0=some r):Sp prog 39 [sl Ah a0] [] 0 (is (.ow 0) [.row 0 3 _ Ah r] 1):=by
 refine sq ?_;intros;unfold Ct at hm;refine gnq Ah a0 (fun he1=> ?_) ?_
 ·rw[he1]at hm;replace hm:(some ([]:List g_api_Key))=some _:=hm;refine QR Ah 2 3 ?_;exact Agf hm▸gE
 refine X4 (k:=3) Ah ([]:List g_api_Key) (fun _=>rfl)<|oB hm fun _ q1 hm=>gp Ah 3 q1 ?_;exact Agf hm▸gE
def I4 (a0:ByteArray)(a1:List g_api_Cert)(a2:List g_api_Key)(a3:Int):Option (g_api_Client×Int):=Ab (Bi a1) fun x1=>Ab (Ct a2) fun x2=>Ab (m_client_Check (⟨a0,x1,x2,(⟨[]⟩:g_api_Pool),(⟨0,[]⟩:g_api_Cascade),a3⟩:g_api_Client)) fun x3=>if(x3 !=0)=true then some ((⟨ByteArray.empty,[],[],(⟨[]⟩:g_api_Pool),(⟨0,[]⟩:g_api_Cascade),0⟩:g_api_Client),x3)else some ((⟨a0,x1,x2,(⟨[]⟩:g_api_Pool),(⟨0,[]⟩:g_api_Cascade),a3⟩:g_api_Client),x3)
theorem OY {a0 a1 a2 a3 r}(hm:I4 a0 a1 a2 a3=some r):Sf prog 13 [.d (.s a0),sl Ac a1,sl Ah a2,.d (.i a3)] (.tup [ag (BL r.1),.d (.i r.2)]):=by
 refine sq ?_;intros;refine gD hm Di fun _ q1 hm=>gD hm Hh fun _ q2 hm=>gD hm CI fun _ q3 hm=>gi hm ?_ ?_<;>intro _ hm
 ·exact Agf hm▸gE
 exact Agf hm▸gE
def AK (a0:List g_api_Head)(a1:Int)(a2:List g_api_Head):Option (List g_api_Head):=if(0:Int)≤a1∧a1≤(a0.length:Int)then if((a2.length:Int)==0)=true then some a0 else if(a1==(a0.length:Int))=true then Ab (app 56 a0 a2) fun x1=>some x1 else Ab (app 56 a0 a2) fun _=>some (a0.take a1.toNat++a2++a0.drop a1.toNat)else none
theorem F8 {m As w a0 a0v0 a0c0 a1 a2}{a2v0:Value}{r}(S:St m ((row 7 a0v0 a0c0 a0.length)::As) w)(a0h0:BP m a0c0 a0)(a2h0:SlR m a2v0 a2)(hm:AK a0 a1 a2=some r):
  Cm Tryz.prog 119 #[a0v0,vI a1,a2v0] w fun v w'=> ∃(M:Mem),m≤M∧∃(rv0:Value) (rc0:List Value),St M ((row 7 rv0 rc0 r.length)::As) w'∧v=rv0∧BP M rc0 r:=by
 unfold AK at hm;have L0:=Mem.rfl' m;refine Oa (args:=[a0v0,vI a1,a2v0]) Tryz.func119 rfl Tryz.ntmps119 (Agq rfl)<|AI<|Aw<|Fe (v:= .slice none 0 0) rfl<|AE<|nrm<|AI<|Aw<|AN (v:=a0v0) rfl ?_;refine AN (v:=vI a1) rfl ?_;obtain⟨⟨q1,q2⟩,hm⟩:=A6 hm;refine s_cutX (i:=0) S rfl rfl Tryz.underlying24 Tryz.sizeOf38 rfl q1 q2 ?_;intro v1;refine AE<|nrm<|AI<|Aw<|AN (v:=a2v0) rfl<|Ux (xs:=a2) rfl a2h0 Tryz.underlying24<|Fe (v:=vI (a2.length:Int)) rfl<|AE<|nrm ?_;refine AI<|AI<|Aw<|AN (v:=vI (a2.length:Int)) rfl<|AbO (m:=(a2.length:Int)) (n:=0) rfl rfl<|AE<|nrm<|H2 (t:=((a2.length:Int)==0)) rfl (fun hc1=> ?_) (fun hc1=> ?_)
 ·replace hm:=ifT hc1 hm;refine AI<|Aw<|AN (v:=a0v0) rfl<|Fe (v:=a0v0) rfl<|AE<|nrm<|H0<|thR<|QA ?_;intro we hpd;replace S:=St.pd S hpd;obtain rfl:=Agf hm;exact Ys [_] rfl ⟨rfl,trivial⟩ ⟨_,L0,_,_,S,rfl,a0h0⟩
 replace hm:=ifF hc1 hm;refine EX<|nrm<|AI<|Aw<|AN (v:=a0v0) rfl<|Ads (i:=0) S rfl rfl Tryz.underlying24<|Fe (v:=vI (a0.length:Int)) rfl<|AE<|nrm ?_;refine AI<|AI<|Aw<|AN (v:=vI a1) rfl<|AN (v:=vI (a0.length:Int)) rfl<|AbO (m:=a1) (n:=(a0.length:Int)) rfl rfl<|AE<|nrm<|H2 (t:=(a1==(a0.length:Int))) rfl (fun hc2=> ?_) (fun hc2=> ?_)
 ·replace hm:=ifT hc2 hm;refine AI<|Aw<|AN (v:=a0v0) rfl<|AN (v:=a2v0) rfl ?_;obtain⟨x1,q3,hm⟩:=Ag hm;refine AeL (i:=0) (zs:=x1) (bytes:=56) (ti:=Tryz.t38) S rfl rfl a0h0 rfl rfl a2h0 q3 Tryz.underlying24 Tryz.type38 rfl rfl rfl rfl ?_;intro v2 c1 w1 S1 h1;replace S1:St _ ((row 7 v2 c1 x1.length)::As) _:=S1;clear S;refine Fe (v:=v2) rfl<|AE<|nrm<|H0<|thR<|QA ?_;intro we hpd;replace S1:=St.pd S1 hpd;obtain rfl:=Agf hm;exact Ys [_] rfl ⟨rfl,trivial⟩ ⟨_,L0,_,_,S1,rfl,h1⟩
 replace hm:=ifF hc2 hm;obtain⟨xz,q3,hm⟩:=Ag hm;obtain⟨⟨qb,q63⟩,_⟩:=A6 q3;have e0:=Agf hm;clear hm q3;obtain⟨i,rfl⟩: ∃i:Nat,a1=(i:Int):=⟨a1.toNat,by omega⟩;rw[Ahd]at e0;have hin:i<a0.length:=by
  have:((i:Int)==(a0.length:Int))=false:=hc2;have:=ne_of_beq_false this;omega
 have hm0:0<a2.length:=by
  have:=ne_of_beq_false hc1;omega
 obtain⟨b,cap,l,e,fr,rfl,hc,ht,hl,hnc,hcm,hfr,hf2,S1⟩:=S.rowBlk (by omega);clear S;have hfr0:fr.1=fr.2:=hf2.resolve_right (by decide);obtain⟨ds,hs2,hr2⟩:=a2h0;have hs2':=hs2;obtain⟨hdl,hd63,⟨hz,_⟩|⟨b2,off2,cap2,l2,e2,fr2,rfl,hcap2,hb2,hget2⟩⟩:=hs2
 ·omega
 replace hdl:ds.length=a2.length*7:=hdl;have him:i+a2.length≤a0.length+a2.length:=Nat.add_le_add_right (Nat.le_of_lt hin) _;have hrl:r.length=a0.length+a2.length:=by rw[←e0]; simp only[Agp,AgH,AgT]; omega
 have hcl:a0c0.length=i*7+(a0.length-i)*7:=by rw[hc]; omega
 have hone0:=a0h0.one;have hone2:=hr2.one;have hrep:BP m (a0c0.take (i*7)++ds++a0c0.drop (i*7)) r:=by rw[←e0]; exact((a0h0.take i).append hr2).append (a0h0.drop i)
 have hls:l.toList.length=cap*7:=by rw[Array.length_toList]; exact hl
 have hes:(l.toList.drop (i*7)).take ((a0.length-i)*7)=a0c0.drop (i*7):=by
  rw[←ht,List.drop_take]; congr 1; omega
 have hdr:(a0c0.drop (i*7)).length=(a0.length-i)*7:=by rw[AgT,hcl]; omega
 have htk:l.toList.take (i*7)=a0c0.take (i*7):=by rw[←ht,List.take_take]; congr 1; omega
 refine EX<|nrm<|AI<|ws<|AN (v:=vI (a0.length:Int)) rfl<|AN (v:=vI (a2.length:Int)) rfl<|Qt (m:=(a0.length:Int)) (n:=(a2.length:Int)) rfl rfl<|Aez (AgJ vI (LZ (a:=a0.length) (b:=a2.length) q63))<|AN (v:= .slice (some ⟨b,0,none⟩) a0.length cap) rfl<|s_cap rfl underlying24<|XN (m:=((a0.length+a2.length:Nat):Int)) (n:=(cap:Int)) rfl rfl<|AE<|nrm<|H2 (t:=decide (((a0.length+a2.length:Nat):Int)>(cap:Int))) rfl (fun hc3=> ?_) (fun hc3=> ?_)
 ·have hc3:cap<a0.length+a2.length:=by have:=of_decide_eq_true hc3; omega
  refine ws<|AN (v:= .slice (some ⟨b,0,none⟩) a0.length cap) rfl<|AN (v:=vI (i:Int)) rfl<|Adq (b:=b) (o:=0) (n:=a0.length) (cap:=cap) (j:=i) rfl rfl underlying24 sizeOf38 (by omega) (by omega)<|AN (v:=vI (a0.length:Int)) rfl<|AN (v:=vI (a2.length:Int)) rfl<|Qt (m:=(a0.length:Int)) (n:=(a2.length:Int)) rfl rfl<|Aez (AgJ vI (LZ (a:=a0.length) (b:=a2.length) q63))<|AN (v:=vI (i:Int)) rfl<|NK (m:=((a0.length+a2.length:Nat):Int)) (n:=(i:Int)) rfl rfl<|Aez (AgJ vI (Abz (a:=a0.length+a2.length) (b:=i) q63 (Ahe (Nat.le_add_right i a2.length) him)))<|s_appZ (sz:=7) (bytes:=56) (i:=i) (k:=a0.length+a2.length-i) (ti:=Tryz.t38) S1 rfl rfl (by omega) (by omega) (by omega) (by omega) (by omega) underlying24 underlying3 type38 rfl rfl rfl rfl (by decide) fun nb c2 w3 L hg1 hg2 hL hLt S3=> ?_;rw[show i+(a0.length+a2.length-i)=a0.length+a2.length from by omega]at hg1⊢;have hLs:L.toList.length=c2*7:=by rw[Array.length_toList]; exact hL
  refine Fe (v:= .slice (some ⟨nb,0,none⟩) (a0.length+a2.length) c2) rfl<|AE<|nrm<|ws<|AN (v:= .slice (some ⟨nb,0,none⟩) (a0.length+a2.length) c2) rfl<|AN (v:=vI (i:Int)) rfl<|Qs (b:=nb) (o:=0) (n:=a0.length+a2.length) (cap:=c2) (j:=i) rfl rfl underlying24 sizeOf38 (by omega) (by omega) (by omega)<|AN (v:= .slice (some ⟨b2,off2,none⟩) a2.length cap2) rfl<|WE (i:=0) (sz:=7) (k:=a2.length) (sl:=a2.length) (ds:=ds) S3 rfl rfl rfl underlying24 sizeOf38 (Jz _) (by show min _ _=_; omega) (Dx S3 hs2' _) hone2 (by rw[hdl,hL]; omega) (by simp[Abp]) fun w4 S4=> ?_;rw[List.set_cons_zero,AgN,hdl]at S4;refine AE<|nrm ?_;have hb4:=S4.blk (i:=1) rfl;have HM:Iy [(46,fv (.slice (some ⟨nb,0,none⟩) (a0.length+a2.length) c2)),(47,fv (vI (i:Int))),(48,fv (vI (a2.length:Int))),(49,fv (vI ((i+a2.length:Nat):Int))),(50,fv (.slice (some ⟨nb,0+(i+a2.length)*7,none⟩) (a0.length+a2.length-(i+a2.length)) (c2-(i+a2.length)))),(51,fv (.slice (some ⟨b,0,none⟩) a0.length cap)),(52,fv (vI (i:Int))),(53,fv (.slice (some ⟨b,0+i*7,none⟩) (a0.length-i) (cap-i)))]:=⟨mv,mv,mv,mv,mv,mv,mv,mv,trivial⟩;refine AI<|Nh HM 8 Ace rfl rfl rfl (rg 46 8) (fun L f M w=>St M (_::_::As) w) (St.drew S4 _) ?_ ?_
  ·refine⟨?_,?_,?_,?_,?_,?_,?_,?_,trivial⟩
   ·exact flp HM rfl [] (fun _ _=>trivial) (fun _ _ q=>AN (v:= .slice (some ⟨nb,0,none⟩) (a0.length+a2.length) c2) rfl q) rfl
   ·exact flp HM rfl [] (fun _ _=>trivial) (fun _ _ q=>AN (v:=vI (i:Int)) rfl q) rfl
   ·exact flp HM rfl [] (fun _ _=>trivial) (fun _ _ q=>AN (v:=vI (a2.length:Int)) rfl q) rfl
   ·exact flp HM rfl [(47,_),(48,_)] (fun K _=>⟨K 1 rfl,K 2 rfl,trivial⟩) (fun _ _ q=>Qt (m:=(i:Int)) (n:=(a2.length:Int)) rfl rfl (Aez (AgJ vI (LZ (a:=i) (b:=a2.length) (Ahe him q63))) q)) rfl
   ·exact flp HM rfl [(46,_),(49,_)] (fun K _=>⟨K 0 rfl,K 3 rfl,trivial⟩) (fun _ _ q=>Qs (b:=nb) (o:=0) (n:=a0.length+a2.length) (cap:=c2) (j:=i+a2.length) rfl rfl underlying24 sizeOf38 (by omega) (by omega) (by omega) q) rfl
   ·exact flp HM rfl [] (fun _ _=>trivial) (fun _ _ q=>AN (v:= .slice (some ⟨b,0,none⟩) a0.length cap) rfl q) rfl
   ·exact flp HM rfl [] (fun _ _=>trivial) (fun _ _ q=>AN (v:=vI (i:Int)) rfl q) rfl
   ·exact flp HM rfl [(51,_),(52,_)] (fun K _=>⟨K 5 rfl,K 6 rfl,trivial⟩) (fun _ _ q=>Qs (b:=b) (o:=0) (n:=a0.length) (cap:=cap) (j:=i) rfl rfl underlying24 sizeOf38 (by omega) (by omega) (by omega) q) rfl
  intro L8 f8 w8 hall ⟨m8,l8,S8,K,hO⟩;have d4:L8 4=true:=hall 4 (by decide);have d7:L8 7=true:=hall 7 (by decide);obtain⟨u8,rfl⟩:=Kw (N:=95) (L:=[(50,_),(53,_)]) hO ⟨K 4 d4,K 7 d7,trivial⟩;have hb8:=S8.blk (i:=1) rfl;have hq8:=Lu (P:=Tryz.prog) (n:=a0.length-i) (c:=cap-i) (sz:=7) (k:=a0.length-i) (off:=0+i*7) hb8 (by omega);rw[show(l.toList.drop (0+i*7)).take ((a0.length-i)*7)=a0c0.drop (i*7)from by rw[AgN]; exact hes]at hq8;refine WE (i:=0) (sz:=7) (k:=a0.length-i) (sl:=a0.length-i) (ds:=a0c0.drop (i*7)) S8 rfl rfl rfl underlying24 sizeOf38 (Jz _) (by show min _ _=_; omega) hq8 (fun u hu=>hone0 u (List.mem_of_mem_drop hu)) (by simp only[hdr,List.size_toArray,Agp,AgH,AgT]; omega) (by simp[Abp]) fun w9 S9=> ?_;rw[List.set_cons_zero,hdr,show 0+(i+a2.length)*7=i*7+a2.length*7 from by omega]at S9;refine AE<|nrm<|ws<|AN (v:= .slice (some ⟨nb,0,none⟩) (a0.length+a2.length) c2) rfl<|Fe (v:= .slice (some ⟨nb,0,none⟩) (a0.length+a2.length) c2) rfl<|AE<|nrm<|H0<|thR<|QA fun we hpd=> ?_;obtain⟨m9,l9,S10⟩:=S9.drop 1;have S11:=St.pd S10 hpd;have S12:St m9 (row 7 (.slice (some ⟨nb,0,none⟩) (a0.length+a2.length) c2) (a0c0.take (i*7)++ds++a0c0.drop (i*7)) r.length::As) we:=by
   rw[hrl];refine St.blkRow S11 ?_ ?_ ?_ hg1 hg2 (by simp[Abp]) (.inl rfl)
   ·simp only[Agp,AgH,hdr]; omega
   ·rw[show(a0.length+a2.length)*7=i*7+a2.length*7+(a0.length-i)*7 from by omega];exact insA hdl hcl (hLt.trans htk) (by omega)
   ·simp only[List.size_toArray,Agp,AgH,AgT]; omega
  exact Ys [_] rfl ⟨rfl,trivial⟩ ⟨_,mt l8 l9,_,_,S12,rfl,BP.up (mt l8 l9) hrep⟩
 have hc3:a0.length+a2.length≤cap:=by have:=of_decide_eq_false hc3; omega
 have hne:b2≠b:=by
  rintro rfl;obtain⟨h1,ha,_,hd,_⟩:=S1.take (i:=0) rfl;rcases hd b2 with q|q
  ·rw[hb2]at q; cases q
  ·rw[show h1=PH.one b2 _ from ha]at q; simp[PH.one]at q
 have hl2:l2.size≠0:=by
  intro q;have h0:0<ds.length:=by omega
  have:=hget2 0 _ (AgO h0);rw[Array.getElem?_eq_none (by omega)]at this;cases this
 refine EX<|nrm<|ws<|AN (v:= .slice (some ⟨b,0,none⟩) a0.length cap) rfl<|AN (v:=vI (a0.length:Int)) rfl<|AN (v:=vI (a2.length:Int)) rfl<|Qt (m:=(a0.length:Int)) (n:=(a2.length:Int)) rfl rfl<|Aez (AgJ vI (LZ (a:=a0.length) (b:=a2.length) q63))<|Adq (b:=b) (o:=0) (n:=a0.length) (cap:=cap) (j:=a0.length+a2.length) rfl rfl underlying24 sizeOf38 hc3 (by omega)<|Fe (v:= .slice (some ⟨b,0,none⟩) (a0.length+a2.length) cap) rfl<|AE<|nrm<|AI<|ws<|AN (v:= .slice (some ⟨b2,off2,none⟩) a2.length cap2) rfl<|AN (v:= .slice (some ⟨b,0,none⟩) (a0.length+a2.length) cap) rfl<|AN (v:=vI (i:Int)) rfl<|AN (v:=vI (a2.length:Int)) rfl<|Qt (m:=(i:Int)) (n:=(a2.length:Int)) rfl rfl<|Aez (AgJ vI (LZ (a:=i) (b:=a2.length) (Ahe him q63)))<|Qs (b:=b) (o:=0) (n:=a0.length+a2.length) (cap:=cap) (j:=i+a2.length) rfl rfl underlying24 sizeOf38 (by omega) (by omega) (by omega)<|XM (ps:= #[24,24]) (rs:= #[4]) func202 rfl rfl rfl (by kernel_rfl) rfl rfl rfl underlying24 sizeOf38 (by omega) (by omega) (by decide) hne (S1.mem hb2) (S1.blk (i:=0) rfl) hl2 hfr0<|AeA rfl<|AE<|nrm<|H2 (t:=(!false)) rfl (fun _=> ?_) (fun h=>by cases h);have HM:Iy [(69,fv (.slice (some ⟨b,0,none⟩) (a0.length+a2.length) cap)),(70,fv (vI (i:Int))),(71,fv (vI (a2.length:Int))),(72,fv (vI ((i+a2.length:Nat):Int))),(73,fv (.slice (some ⟨b,0+(i+a2.length)*7,none⟩) (a0.length+a2.length-(i+a2.length)) (cap-(i+a2.length)))),(74,fv (.slice (some ⟨b,0,none⟩) (a0.length+a2.length) cap)),(75,fv (vI (i:Int))),(76,fv (.slice (some ⟨b,0+i*7,none⟩) (a0.length+a2.length-i) (cap-i)))]:=⟨mv,mv,mv,mv,mv,mv,mv,mv,trivial⟩;refine AI<|Nh HM 8 Ace rfl rfl rfl (rg 69 8) (fun L f M w=>St M (_::As) w) (St.drew S1 _) ?_ ?_
 ·refine⟨?_,?_,?_,?_,?_,?_,?_,?_,trivial⟩
  ·exact flp HM rfl [] (fun _ _=>trivial) (fun _ _ q=>AN (v:= .slice (some ⟨b,0,none⟩) (a0.length+a2.length) cap) rfl q) rfl
  ·exact flp HM rfl [] (fun _ _=>trivial) (fun _ _ q=>AN (v:=vI (i:Int)) rfl q) rfl
  ·exact flp HM rfl [] (fun _ _=>trivial) (fun _ _ q=>AN (v:=vI (a2.length:Int)) rfl q) rfl
  ·exact flp HM rfl [(70,_),(71,_)] (fun K _=>⟨K 1 rfl,K 2 rfl,trivial⟩) (fun _ _ q=>Qt (m:=(i:Int)) (n:=(a2.length:Int)) rfl rfl (Aez (AgJ vI (LZ (a:=i) (b:=a2.length) (Ahe him q63))) q)) rfl
  ·exact flp HM rfl [(69,_),(72,_)] (fun K _=>⟨K 0 rfl,K 3 rfl,trivial⟩) (fun _ _ q=>Qs (b:=b) (o:=0) (n:=a0.length+a2.length) (cap:=cap) (j:=i+a2.length) rfl rfl underlying24 sizeOf38 (by omega) (by omega) (by omega) q) rfl
  ·exact flp HM rfl [] (fun _ _=>trivial) (fun _ _ q=>AN (v:= .slice (some ⟨b,0,none⟩) (a0.length+a2.length) cap) rfl q) rfl
  ·exact flp HM rfl [] (fun _ _=>trivial) (fun _ _ q=>AN (v:=vI (i:Int)) rfl q) rfl
  ·exact flp HM rfl [(74,_),(75,_)] (fun K _=>⟨K 5 rfl,K 6 rfl,trivial⟩) (fun _ _ q=>Qs (b:=b) (o:=0) (n:=a0.length+a2.length) (cap:=cap) (j:=i) rfl rfl underlying24 sizeOf38 (by omega) (by omega) (by omega) q) rfl
 intro L8 f8 w8 hall ⟨m8,l8,S8,K,hO⟩;have d4:L8 4=true:=hall 4 (by decide);have d7:L8 7=true:=hall 7 (by decide);obtain⟨u8,rfl⟩:=Kw (N:=95) (L:=[(73,_),(76,_)]) hO ⟨K 4 d4,K 7 d7,trivial⟩;have hb8:=S8.blk (i:=0) rfl;have hq8:=Lu (P:=Tryz.prog) (n:=a0.length+a2.length-i) (c:=cap-i) (sz:=7) (k:=a0.length-i) (off:=0+i*7) hb8 (by omega);rw[show(l.toList.drop (0+i*7)).take ((a0.length-i)*7)=a0c0.drop (i*7)from by rw[AgN]; exact hes]at hq8;refine WE (i:=0) (sz:=7) (k:=a0.length-i) (sl:=a0.length+a2.length-i) (ds:=a0c0.drop (i*7)) S8 rfl rfl rfl underlying24 sizeOf38 (Jz _) (by show min _ _=_; omega) hq8 (fun u hu=>hone0 u (List.mem_of_mem_drop hu)) (by rw[hdr]; omega) hfr fun w9 S9=> ?_;rw[List.set_cons_zero,hdr,show 0+(i+a2.length)*7=i*7+a2.length*7 from by omega]at S9;have hsz1:(l.toList.take (i*7+a2.length*7)++a0c0.drop (i*7)++l.toList.drop (i*7+a2.length*7+(a0.length-i)*7)).toArray.size=l.size:=by
  simp only[List.size_toArray,Agp,AgH,AgT,hdr]; omega
 refine AE<|nrm<|ws<|AN (v:= .slice (some ⟨b,0,none⟩) (a0.length+a2.length) cap) rfl<|AN (v:=vI (i:Int)) rfl<|Qs (b:=b) (o:=0) (n:=a0.length+a2.length) (cap:=cap) (j:=i) rfl rfl underlying24 sizeOf38 (by omega) (by omega) (by omega)<|AN (v:= .slice (some ⟨b2,off2,none⟩) a2.length cap2) rfl<|WE (i:=0) (sz:=7) (k:=a2.length) (sl:=a2.length) (ds:=ds) S9 rfl rfl rfl underlying24 sizeOf38 (Jz _) (by show min _ _=_; omega) (Dx S9 (hs2'.up l8) _) hone2 (by rw[hdl,hsz1,hl]; omega) (by rw[hsz1]; exact hfr) fun w10 S10=> ?_;rw[List.set_cons_zero,AgN,hdl]at S10;refine AE<|nrm<|ws<|AN (v:= .slice (some ⟨b,0,none⟩) (a0.length+a2.length) cap) rfl<|Fe (v:= .slice (some ⟨b,0,none⟩) (a0.length+a2.length) cap) rfl<|AE<|nrm<|H0<|thR<|QA fun we hpd=> ?_;have S11:=St.pd S10 hpd;have S12:St m8 (row 7 (.slice (some ⟨b,0,none⟩) (a0.length+a2.length) cap) (a0c0.take (i*7)++ds++a0c0.drop (i*7)) r.length::As) we:=by
  rw[hrl];have hsz:(List.take (i*7) (l.toList.take (i*7+a2.length*7)++a0c0.drop (i*7)++l.toList.drop (i*7+a2.length*7+(a0.length-i)*7))++ds++List.drop (i*7+a2.length*7) (l.toList.take (i*7+a2.length*7)++a0c0.drop (i*7)++l.toList.drop (i*7+a2.length*7+(a0.length-i)*7))).toArray.size=l.size:=by
   simp only[List.size_toArray,Agp,AgH,AgT,hdr]; omega
  refine St.blkRow S11 ?_ ?_ (hsz.trans hl) hc3 hcm (hsz▸hfr) (.inl hfr0)
  ·simp only[Agp,AgH,hdr]; omega
  ·rw[show(a0.length+a2.length)*7=i*7+a2.length*7+(a0.length-i)*7 from by omega];exact insB hdl (by rw[←ht]; congr 1; omega) (by omega)
 exact Ys [_] rfl ⟨rfl,trivial⟩ ⟨_,l8,_,_,S12,rfl,BP.up l8 hrep⟩
theorem Gh {a0 a1 a2 r}(hm:AK a0 a1 a2=some r):Sp prog 119 [.ow 0,.d (.i a1),sl Af a2] [.row 0 7 _ Af a0] 1 (is (.ow 1) [.row 1 7 _ Af r] 2):=
 ⟨call119,fun η m As w vs hv0 hd S=>by
  have S:St m (rep η m (.row 0 7 _ Af a0)::As) w:=S;obtain⟨v0,u0,rfl,r0,hv1⟩:=Bm.cons_inv hv0;obtain⟨v1,u1,rfl,r1,hv2⟩:=Bm.cons_inv hv1;obtain rfl:=r1.i_inv;obtain⟨v2,u2,rfl,r2,hv3⟩:=Bm.cons_inv hv2;have f2:=Br.ofS JY r2.dd;obtain rfl:=Bm.nil_inv hv3;exact ownB hd r0 S (fun k3 S1=>F8 S1 (Br.ofL JY k3) f2 hm) JY⟩
end Go.Proofs.YtnhdojckpcbjeaaGreatDoor
