/- The walks of some functions, by the executor, written by program. Conditions: none. -/
import Derived.Test.YtnhdojckpcbjeaaGreatDoorZh
import Derived.Test.YtnhdojckpcbjeaaGreatDoorZi
set_option linter.unusedSimpArgs false
set_option linter.unusedVariables false
set_option maxHeartbeats 20000000
set_option maxRecDepth 100000
namespace Go.Proofs.YtnhdojckpcbjeaaGreatDoor
open Go Go.Gw Go.Ax Tryz
attribute [local irreducible] Go.Ax.Go
def GO (i1:Int)(s1:UInt64×UInt64×UInt64×Int×UInt64):Option (UInt64×UInt64×UInt64×Int×UInt64):=Ab (idx [s1.1,s1.2.1,s1.2.2.1] (i1:Int)) λx3=>Ab (Lo (i1:Int) x3 s1.2.2.2.1 s1.2.2.2.2) λx4=>Ab (idx [s1.1,s1.2.1,s1.2.2.1] (i1:Int)) λx5=>bnd (if(i1:Int)=0 then x4.1 else s1.1) λx6=>bnd (if(i1:Int)=1 then x4.1 else s1.2.1) λx7=>bnd (if(i1:Int)=2 then x4.1 else s1.2.2.1) λx8=>some (x6,x7,x8,x4.2.1,x4.2.2)
def DC (a0:UInt64×UInt64×UInt64)(k0:Int)(k1:UInt64):Option ((UInt64×UInt64×UInt64)×Int×UInt64):=Ab (Di GO 3 0 (a0.1,a0.2.1,a0.2.2,k0,k1)) λx1=>some ((x1.1,x1.2.1,x1.2.2.1),x1.2.2.2.1,x1.2.2.2.2)
theorem NN {a0 k0 k1 r}(hm:DC a0 k0 k1=some r):Sp prog 355 [.pb 0 0,.fn (.func 356) [] [.pb 1 0,.pb 2 0]] [.box 0 [.d (.u a0.1),.d (.u a0.2.1),.d (.u a0.2.2)] 365,.box 1 [.d (.i k0)] 3,.box 2 [.d (.u k1)] 32] 3 (is (.tup []) [.box 0 [.d (.u r.1.1),.d (.u r.1.2.1),.d (.u r.1.2.2)] 365,.box 1 [.d (.i r.2.1)] 3,.box 2 [.d (.u r.2.2)] 32] 3):=by
 refine sq ?_;intros;refine oB hm λ_ q1 hm=>gF (EM _ 3 _) q1 (λp0 (p_0,p_1,p_2,p_3,p_4)=>⟨[(0,.pb 0 0),(1,.fn (.func 356) [] [.pb 1 0,.pb 2 0]),(6,.pb 0 0),(7,.d (.i p0))],[(0,.box 0 [.d (.u p_0),.d (.u p_1),.d (.u p_2)] 365),(1,.box 1 [.d (.i p_3)] 3),(2,.box 2 [.d (.u p_4)] 32)],[],3⟩) λi1 s1 Jl bl1=>cM bl1 (3:Int) (λ_ q4 bl1=> ?_) λe=> ?_
 ·refine oB q4 λ_ q6 q4=>Sc (λ_=>q6)<|gldA D.u (λ_=>q6)<|gD q4 Zd λx4 q7 q4=>oB q4 λ_ q8 q4=>Sc (λ_=>q8)<|bE q4 ?_;intro _ q4;refine bE q4 ?_;intro _ q4;refine bE q4 ?_;intro _ q4;exact AkS D.u x4.1 q8<|gM bl1 lk q4
 subst e;exact AnO hm▸gE
def GN (i1:Int)(s1:UInt64×UInt64×UInt64×UInt64):Option (UInt64×UInt64×UInt64×UInt64):=Ab (idx [s1.1,s1.2.1,s1.2.2.1] (i1:Int)) λx3=>Ab (Ln (i1:Int) x3 s1.2.2.2) λx4=>Ab (idx [s1.1,s1.2.1,s1.2.2.1] (i1:Int)) λx5=>bnd (if(i1:Int)=0 then x4.1 else s1.1) λx6=>bnd (if(i1:Int)=1 then x4.1 else s1.2.1) λx7=>bnd (if(i1:Int)=2 then x4.1 else s1.2.2.1) λx8=>some (x6,x7,x8,x4.2)
def DB (a0:UInt64×UInt64×UInt64)(k0:UInt64):Option ((UInt64×UInt64×UInt64)×UInt64):=Ab (Di GN 3 0 (a0.1,a0.2.1,a0.2.2,k0)) λx1=>some ((x1.1,x1.2.1,x1.2.2.1),x1.2.2.2)
theorem NM {a0 k0 r}(hm:DB a0 k0=some r):Sp prog 355 [.pb 0 0,.fn (.func 358) [] [.pb 1 0]] [.box 0 [.d (.u a0.1),.d (.u a0.2.1),.d (.u a0.2.2)] 365,.box 1 [.d (.u k0)] 32] 2 (is (.tup []) [.box 0 [.d (.u r.1.1),.d (.u r.1.2.1),.d (.u r.1.2.2)] 365,.box 1 [.d (.u r.2)] 32] 2):=by
 refine sq ?_;intros;refine oB hm λ_ q1 hm=>gF (EM _ 3 _) q1 (λp0 (p_0,p_1,p_2,p_3)=>⟨[(0,.pb 0 0),(1,.fn (.func 358) [] [.pb 1 0]),(6,.pb 0 0),(7,.d (.i p0))],[(0,.box 0 [.d (.u p_0),.d (.u p_1),.d (.u p_2)] 365),(1,.box 1 [.d (.u p_3)] 32)],[],2⟩) λi1 s1 Jl bl1=>cM bl1 (3:Int) (λ_ q4 bl1=> ?_) λe=> ?_
 ·refine oB q4 λ_ q6 q4=>Sc (λ_=>q6)<|gldA D.u (λ_=>q6)<|gD q4 Zc λx4 q7 q4=>oB q4 λ_ q8 q4=>Sc (λ_=>q8)<|bE q4 ?_;intro _ q4;refine bE q4 ?_;intro _ q4;refine bE q4 ?_;intro _ q4;exact AkS D.u x4.1 q8<|gM bl1 lk q4
 subst e;exact AnO hm▸gE
def Nh (i1:Int)(s1:UInt64×UInt64×UInt64):Option (UInt64×UInt64×UInt64):=Ab (DC s1 (i1:Int) 0) λx4=>Ab (DB x4.1 x4.2.2) λx5=>some (x5.1.1,x5.1.2.1,x5.1.2.2)
def Ma (a0:UInt64×UInt64×UInt64):Option (UInt64×UInt64×UInt64):=Ab (Ab (Di Nh 8 0 (a0.1,a0.2.1,a0.2.2)) λx2=>some (x2.1,x2.2.1,x2.2.2)) λx1=>some x1
theorem Adw {a0 r}(hm:Ma a0=some r):Sf prog 303 [ag (Sg a0)] (ag (Sg r)):=by
 refine sq ?_;intros;unfold Ma at hm;obtain⟨x1,q1,hm⟩:=Ag hm;refine oB q1 λ_ q2 q1=>gF (EM _ 8 _) q2 (λp0 (p_0,p_1,p_2)=>⟨[(2,.pb 1 0),(3,.pb 2 0),(7,.d (.i p0)),(1,.pb 0 0)],[(0,.box 2 [.d (.u p_0),.d (.u p_1),.d (.u p_2)] 365),(1,.box 1 [.d (.u 0),.d (.u 0),.d (.u 0)] 319),(2,.box 0 [.d (.u a0.1),.d (.u a0.2.1),.d (.u a0.2.2)] 319)],[],3⟩) λi1 s1 Jl bl1=>cM bl1 (8:Int) (λ_ q5 bl1=> ?_) λe=> ?_
 ·exact gD q5 NN λ_ q7 q5=>gD q5 NM λ_ q8 q5=>gM bl1 lk q5
 subst e;obtain rfl:=AnO q1;exact AnO hm▸gE
def H9 (x6:List UInt64)(i2:Int)(s2:UInt64×UInt64×UInt64):Option (UInt64×UInt64×UInt64):=Ab (idx x6 (i2:Int)) λx9=>Ab (idx [s2.1,s2.2.1,s2.2.2] (i2:Int)) λx10=>Ab (Hn x10 x9) λx11=>Ab (idx [s2.1,s2.2.1,s2.2.2] (i2:Int)) λx12=>bnd (if(i2:Int)=0 then x11 else s2.1) λx13=>bnd (if(i2:Int)=1 then x11 else s2.2.1) λx14=>bnd (if(i2:Int)=2 then x11 else s2.2.2) λx15=>some (x13,x14,x15)
def C3 (s1:(List UInt64)×Bool×UInt64×UInt64×UInt64):Option (((List UInt64)×Bool×UInt64×UInt64×UInt64)⊕(UInt64×UInt64×UInt64)):=if(s1.2.1||(decide ((s1.1.length:Int)>0)))=true then Ab (Ab (cut s1.1 0 (AbA 2 (s1.1.length:Int))) λx6=>Ab (Di (H9 x6) x6.length 0 (s1.2.2.1,s1.2.2.2.1,s1.2.2.2.2)) λx7=>some (x7.1,x7.2.1,x7.2.2)) λx5=>Ab (cut s1.1 (AbA 2 (s1.1.length:Int)) (s1.1.length:Int)) λx16=>Ab (Ma x5) λx17=>some (.inl (x16,false,x17.1,x17.2.1,x17.2.2))else some (.inr (s1.2.2.1,s1.2.2.2.1,s1.2.2.2.2))
def O4 (a0:List UInt8):Option (UInt64×UInt64):=Ab (Mb a0) λx1=>Ab (Ab (iter C3 AY (x1,true,0,0,(toU (a0.length:Int)))) λx3=>some (x3.1,x3.2.1,x3.2.2)) λx2=>some (x2.1,x2.2.1)
theorem Adv {a0 r}(hm:O4 a0=some r):Sf prog 242 [sl eB a0] (ag (Ao r)):=by
 refine sq ?_;intros;refine gD hm Adx λ_ q1 hm=> ?_;obtain⟨x2,q2,hm⟩:=Ag hm;refine oB q2 λx3 q3 q2=>gI q3 (λ(p_0,p_1,p_2,p_3,p_4)=>⟨[(2,.pb 0 0),(3,.pb 1 0),(4,sl eU p_0),(5,.d (.t p_1))],[(0,.box 1 [.d (.u p_2),.d (.u p_3),.d (.u p_4)] 319),(1,.box 0 [.d (.u 0),.d (.u 0)] 34)],[],2⟩) λs1 _ Jl q6 bl1=>gi q6 ?_ ?_<;>intro _ q6
 ·obtain⟨x5,q8,q6⟩:=Ag q6;refine oB q8 λx6 q9 q8=>gk eU 1 q9<|oB q8 λ_ q10 q8=>Jj 2 (E:=eU) (xs:=x6) 26 λhle2=>gF (EM _ _ _) q10 (λp0 (p_0,p_1,p_2)=>⟨[(2,.pb 0 0),(3,.pb 1 0),(4,sl eU s1.1),(6,.d (.i (AbA 2 (s1.1.length:Int)))),(26,sl eU x6),(27,.d (.i (x6.length:Int))),(28,.d (.i p0))],[(0,.box 1 [.d (.u p_0),.d (.u p_1),.d (.u p_2)] 319),(1,.box 0 [.d (.u 0),.d (.u 0)] 34)],[],2⟩) λi2 s2 Jl bl2=>cM bl2 (x6.length:Int) (λ_ q13 bl2=> ?_) λe=> ?_
  ·refine oB q13 λ_ q15 q13=>gx eU 1 q15<|oB q13 λ_ q16 q13=>Sc (λ_=>q16)<|gldA D.u (λ_=>q16)<|gA q13 ME λx11 q17 q13=>oB q13 λ_ q18 q13=>Sc (λ_=>q18)<|bE q13 ?_;intro _ q13;refine bE q13 ?_;intro _ q13;refine bE q13 ?_;intro _ q13;exact AkS D.u x11 q18<|gM bl2 hle2 q13
  subst e;obtain rfl:=AnO q8;exact oB q6 λ_ q22 q6=>gk eU 1 q22<|gA q6 Adw λ_ q23 q6=>gN bl1 q6
 obtain rfl:=nR bl1 q6;let x3:=(s1.2.2.1,s1.2.2.2.1,s1.2.2.2.2);obtain rfl:=AnO q2;exact AnO hm▸gE
def Ju (i1:Int)(x4:List UInt8)(s1:(List UInt8)):Option ((List UInt8)):=Ab (Gi s1 (toU (x4.length:Int)) 4) λx5=>Ab (app 1 x5 x4) λx6=>some x6
def C2 (a0:ByteArray)(a1:List (List UInt8)):Option (UInt64×UInt64):=Ab (app 1 ([(toB (a0.size:Int))]:List UInt8) a0.data.toList) λx1=>Ab (Ab (FE Ju a1 0 x1) λx3=>some x3) λx2=>Ab (O4 x2) λx7=>some x7
theorem EK {a0 a1 r}(hm:C2 a0 a1=some r):Sf prog 153 [.d (.s a0),sl (eL eB) a1] (ag (Ao r)):=by
 refine sq ?_;intros;refine Sa (k:=1) eB ([(toB (a0.size:Int))]:List UInt8) (λ_=>rfl)<|oB hm λ_ q1 hm=>gapS q1 ?_;obtain⟨x2,q2,hm⟩:=Ag hm;refine oB q2 λ_ q3 q2=>Jj 0 (E:=(eL eB)) (xs:=a1) 14 λhle1=>gF (E0 _ _ _) q3 (λp0 p=>⟨[(4,.pb 0 0),(5,.ow 1),(14,sl (eL eB) a1),(15,.d (.i (a1.length:Int))),(16,.d (.i p0))],[(0,.row 1 1 _ eB p),(1,.box 0 [.d (.u 0),.d (.u 0)] 34)],[],2⟩) λi1 s1 Jl bl1=>c0 bl1 (λ_ _ q7 q6 bl1=> ?_) λe=> ?_
 ·exact gx (eL eB) 1 q7<|gD q6 V8 λ_ q8 q6=>oB q6 λ_ q9 q6=>gp eB 1 q9<|gM bl1 hle1 q6
 subst e;obtain rfl:=AnO q2;refine gD hm Adv λ_ q10 hm=> ?_;exact AnO hm▸gE
def Km (a0:UInt64)(i1:Int)(s1:UInt8×UInt8×UInt8×UInt8×UInt8×UInt8×UInt8×UInt8):Option (UInt8×UInt8×UInt8×UInt8×UInt8×UInt8×UInt8×UInt8):=if(0:Int)<=(w64 (8*(i1:Int)))then Ab (idx [s1.1,s1.2.1,s1.2.2.1,s1.2.2.2.1,s1.2.2.2.2.1,s1.2.2.2.2.2.1,s1.2.2.2.2.2.2.1,s1.2.2.2.2.2.2.2] (w64 (7-(i1:Int)))) λx4=>bnd (if(w64 (7-(i1:Int)))=0 then(toB ((DL a0 ((w64 (8*(i1:Int))).toNat)).toNat:Int))else s1.1) λx5=>bnd (if(w64 (7-(i1:Int)))=1 then(toB ((DL a0 ((w64 (8*(i1:Int))).toNat)).toNat:Int))else s1.2.1) λx6=>bnd (if(w64 (7-(i1:Int)))=2 then(toB ((DL a0 ((w64 (8*(i1:Int))).toNat)).toNat:Int))else s1.2.2.1) λx7=>bnd (if(w64 (7-(i1:Int)))=3 then(toB ((DL a0 ((w64 (8*(i1:Int))).toNat)).toNat:Int))else s1.2.2.2.1) λx8=>bnd (if(w64 (7-(i1:Int)))=4 then(toB ((DL a0 ((w64 (8*(i1:Int))).toNat)).toNat:Int))else s1.2.2.2.2.1) λx9=>bnd (if(w64 (7-(i1:Int)))=5 then(toB ((DL a0 ((w64 (8*(i1:Int))).toNat)).toNat:Int))else s1.2.2.2.2.2.1) λx10=>bnd (if(w64 (7-(i1:Int)))=6 then(toB ((DL a0 ((w64 (8*(i1:Int))).toNat)).toNat:Int))else s1.2.2.2.2.2.2.1) λx11=>bnd (if(w64 (7-(i1:Int)))=7 then(toB ((DL a0 ((w64 (8*(i1:Int))).toNat)).toNat:Int))else s1.2.2.2.2.2.2.2) λx12=>some (x5,x6,x7,x8,x9,x10,x11,x12)else none
def FN (a0:UInt64):Option (List UInt8):=Ab (Ab (Di (Km a0) 8 0 (0,0,0,0,0,0,0,0)) λx2=>some (x2.1,x2.2.1,x2.2.2.1,x2.2.2.2.1,x2.2.2.2.2.1,x2.2.2.2.2.2.1,x2.2.2.2.2.2.2.1,x2.2.2.2.2.2.2.2)) λx1=>some ([x1.1,x1.2.1,x1.2.2.1,x1.2.2.2.1,x1.2.2.2.2.1,x1.2.2.2.2.2.1,x1.2.2.2.2.2.2.1,x1.2.2.2.2.2.2.2]:List UInt8)
theorem NT {a0 r}(hm:FN a0=some r):Sp prog 184 [.d (.u a0)] [] 0 (is (.ow 0) [.row 0 1 _ eB r] 1):=by
 refine sq ?_;intros;unfold FN at hm;obtain⟨x1,q1,hm⟩:=Ag hm;refine oB q1 λx2 q2 q1=>gF (EM _ 8 _) q2 (λp0 (p_0,p_1,p_2,p_3,p_4,p_5,p_6,p_7)=>⟨[(0,.d (.u a0)),(3,.pb 0 0),(5,.d (.i p0))],[(0,.box 0 [.d (.b p_0),.d (.b p_1),.d (.b p_2),.d (.b p_3),.d (.b p_4),.d (.b p_5),.d (.b p_6),.d (.b p_7)] 300)],[],1⟩) λi1 s1 Jl bl1=>cM bl1 (8:Int) (λ_ q5 bl1=> ?_) λe=> ?_
 ·unfold Km at q5;obtain⟨q7,q5⟩:=A2 q5;refine gsh (r:= .u (DL a0 ((w64 (8*(i1:Int))).toNat))) (λh=>q7)<|oB q5 λ_ q8 q5=>Sc (λ_=>q8)<|bE q5 ?_;intro _ q5;refine bE q5 ?_;intro _ q5;refine bE q5 ?_;intro _ q5;refine bE q5 ?_;intro _ q5;refine bE q5 ?_;intro _ q5;refine bE q5 ?_;intro _ q5;refine bE q5 ?_;intro _ q5;refine bE q5 ?_;intro _ q5;exact AkS D.b (toB ((DL a0 ((w64 (8*(i1:Int))).toNat)).toNat:Int)) q8<|gM bl1 lk q5
 subst e;obtain rfl:=AnO q1;let x1:=(x2.1,x2.2.1,x2.2.2.1,x2.2.2.2.1,x2.2.2.2.2.1,x2.2.2.2.2.2.1,x2.2.2.2.2.2.2.1,x2.2.2.2.2.2.2.2);refine gslA (k:=1) eB ([x1.1,x1.2.1,x1.2.2.1,x1.2.2.2.1,x1.2.2.2.2.1,x1.2.2.2.2.2.1,x1.2.2.2.2.2.2.1,x1.2.2.2.2.2.2.2]:List UInt8) (λ_=>rfl) ?_;exact AnO hm▸gE
def IF (a0:UInt64×UInt64)(a1:UInt64):Option UInt64:=if((a1.toNat:Int)==0)=true then some 0 else Ab (Jh a0.1 2305843009213693952) λx1=>if a1≠0 then Ab (Ji ((x1.1+(Lx x1.2 a0.2))%a1) (x1.2+a0.2) a1) λx2=>some x2.2 else none
theorem OV {a0 a1 r}(hm:IF a0 a1=some r):Sf prog 249 [ag (Ao a0),.d (.u a1)] (.d (.u r)):=by
 refine sq ?_;intros;refine gi hm ?_ ?_<;>intro _ hm
 ·exact AnO hm▸gE
 refine gA hm Od λx1 q1 hm=>AkX (p:=x1.2) (q:=a0.2) func305 ?_;obtain⟨q2,hm⟩:=A2 hm;refine AcV (d:= .u a1) (r:= .u ((x1.1+(Lx x1.2 a0.2))%a1)) (λh=>q2)<|gA hm Sx λ_ q3 hm=> ?_;exact AnO hm▸gE
def Dd (a0:UInt64)(a1:UInt64)(a2:List UInt8):Option UInt64:=Ab (FN a0) λx1=>Ab (FN a1) λx2=>Ab (C2 (⟨#[115,105,103,110]⟩:ByteArray) ([x1,x2,a2]:List (List UInt8))) λx3=>Ab (IF x3 1152921504606845789) λx4=>some x4
theorem Nu {a0 a1 a2 r}(hm:Dd a0 a1 a2=some r):Sf prog 185 [.d (.u a0),.d (.u a1),sl eB a2] (.d (.u r)):=by
 refine sq ?_;intros;refine gD hm NT λx1 q1 hm=>gD hm NT λx2 q2 hm=>Yo (k:=1) (eL eB) ([x1,x2,a2]:List (List UInt8)) (λ_=>rfl)<|gA hm EK λ_ q3 hm=>gA hm OV λ_ q4 hm=> ?_;exact AnO hm▸gE
def Ch (s1:UInt64×UInt64×Int×Int):Option ((UInt64×UInt64×Int×Int)⊕(Int)):=if((s1.2.1.toNat:Int) !=0)=true then if s1.2.1≠0 then bnd ((s1.1-((s1.1/s1.2.1)*s1.2.1))) λx4=>bnd ((w64 (s1.2.2.1-(w64 ((w64 ((s1.1/s1.2.1).toNat:Int))*s1.2.2.2))))) λx5=>some (.inl (s1.2.1,x4,s1.2.2.2,x5))else none else some (.inr s1.2.2.1)
def DX (a0:UInt64)(a1:UInt64):Option (UInt64×Int):=if a0≠0 then if(((a1%a0).toNat:Int)==0)=true then some (0,10)else Ab (Ab (iter Ch AY ((a1%a0),a0,1,0)) λx2=>some x2) λx1=>Ab (if(decide (x1<0))=true then bnd ((w64 (x1+(w64 (a0.toNat:Int))))) λx7=>some x7 else some x1) λx6=>some ((toU x6),0)else none
theorem N2 {a0 a1 r}(hm:DX a0 a1=some r):Sf prog 350 [.d (.u a0),.d (.u a1)] (.tup [.d (.u r.1),.d (.i r.2)]):=by
 refine sq λD0 As u4 m0 hd=> ?_;unfold DX at hm;obtain⟨q1,hm⟩:=A2 hm;refine AcV (d:= .u a0) (r:= .u (a1%a0)) (λh=>q1)<|gi hm ?_ ?_<;>intro _ hm
 ·exact AnO hm▸gE
 obtain⟨x1,q2,hm⟩:=Ag hm;refine oB q2 λx2 q3 q2=>gI q3 (λ(p_0,p_1,p_2,p_3)=>⟨[(0,.d (.u a0)),(6,.d (.u p_0)),(7,.d (.u p_1)),(8,.d (.i p_2)),(9,.d (.i p_3))],[],[],0⟩) λs1 _ Jl q6 bl1=>gi q6 ?_ ?_<;>intro _ q6
 ·obtain⟨q8,q6⟩:=A2 q6;refine AcV (d:= .u s1.2.1) (r:= .u (s1.1/s1.2.1)) (λh=>q8)<|bE q6 ?_;intro _ q6;refine bE q6 ?_;intro _ q6;exact gN bl1 q6
 obtain rfl:=nR bl1 q6;let x2:=s1.2.2.1;obtain rfl:=AnO q2;refine oB hm λx6 q11 hm=>gj (λ(_:Unit)=>⟨[(8,.d (.i x6))],[],[],0⟩) (λ_=>True) (λJp bk3=> ?_) λ_ _=> ?_
 ·refine gi q11 ?_ ?_<;>intro _ q11
  ·refine bE q11 ?_;intro _ q11;obtain rfl:=AnO q11;exact gb bk3 hd () trivial
  obtain rfl:=AnO q11;exact gb bk3 hd () trivial
 exact AnO hm▸gE
def EF (a0:UInt64):Option (UInt64×Int):=Ab (DX 2305843009213691579 a0) λx1=>some (x1.1,x1.2)
theorem Zi {a0 r}(hm:EF a0=some r):Sf prog 293 [.d (.u a0)] (.tup [.d (.u r.1),.d (.i r.2)]):=by
 refine sq ?_;intros;refine gA hm N2 λ_ q1 hm=> ?_;exact AnO hm▸gE
def Je (a0:UInt64)(a1:UInt64):Option UInt64:=Ab (CV 2305843009213691579 a0 a1) λx1=>some x1
theorem Zh {a0 a1 r}(hm:Je a0 a1=some r):Sf prog 294 [.d (.u a0),.d (.u a1)] (.d (.u r)):=by
 refine sq ?_;intros;refine gA hm F9 λ_ q1 hm=> ?_;exact AnO hm▸gE
def EB (a0:UInt64)(a1:List UInt8)(a2:g_api_Sig):Option Int:=Ab (Dy a0) λx1=>if(!x1)=true then some 1 else if(decide (((Vt a2.E a2.S).toNat:Int)>=1152921504606845789))=true then some 40 else Ab (DY a0 a2.E) λx2=>Ab (EF x2) λx3=>Ab (gu (!(x3.2 !=0)) (DZ a2.S)) λx4=>Ab (gu (!(x3.2 !=0)) (Je x4 x3.1)) λx5=>Ab (gu (!(x3.2 !=0)) (Dd x5 a0 a1)) λx6=>if((x3.2 !=0)||((x6.toNat:Int) !=(a2.E.toNat:Int)))=true then some 40 else some 0
theorem Sm {a0 a1 a2 r}(hm:EB a0 a1 a2=some r):Sf prog 230 [.d (.u a0),sl eB a1,ag (Jm a2)] (.d (.i r)):=by
 refine sq ?_;intros;refine gA hm PO λ_ q1 hm=>gi hm ?_ ?_<;>intro _ hm
 ·exact AnO hm▸gE
 refine gi hm ?_ ?_<;>intro _ hm
 ·exact AnO hm▸gE
 refine gA hm N3 λ_ q2 hm=>gA hm Zi λ_ q3 hm=>oB hm λ_ q4 hm=>gcH q4 MF<|oB hm λ_ q5 hm=>gcH q5 Zh<|oB hm λ_ q6 hm=>gcH q6 Nu<|gi hm ?_ ?_<;>intro _ hm
 ·exact AnO hm▸gE
 exact AnO hm▸gE
def VP (i1:Int)(x2:g_api_Cert)(s1:Unit):Option ((Unit)⊕Int):=Ab (Ci x2) λx3=>if(x3 !=0)=true then some (.inr x3)else some (.inl ())
def Qe (a0:g_api_Cert)(a1:g_api_Cert):Option Int:=Ab (F6 VP ([a0,a1]:List g_api_Cert) 0 ()) λx1=>match x1 with| .inr r=>some r| .inl y1=>if((!a1.Ca)||(!eqS a0.Issuer a1.Subject))=true then some 191 else Ab (Qj a0) λx4=>Ab (EB a1.Key x4.1 a0.Sig) λx5=>if(x5 !=0)=true then some 40 else some 0
theorem T4 {a0 a1 r}(hm:Qe a0 a1=some r):Sf prog 149 [ag (Ac a0),ag (Ac a1)] (.d (.i r)):=by
 refine sq ?_;intros;refine gq Ac 13 [a0,a1]<|oB hm λ_ q1 hm=>Jj 0 (E:=Ac) (xs:=([a0,a1]:List g_api_Cert)) 12 λhle1=>gF (ER _ _ _) q1 (λp0 _=>⟨[(2,.pb 0 0),(3,.pb 1 0),(12,sl Ac ([a0,a1]:List g_api_Cert)),(13,.d (.i (([a0,a1]:List g_api_Cert).length:Int))),(14,.d (.i p0))],[(0,.box 1 [.d (.i a1.Serial),.d (.s a1.Issuer),.d (.s a1.Subject),.d (.u a1.Key),sl eS a1.Names,.d (.i a1.From),.d (.i a1.Until),.d (.t a1.Ca),.d (.i a1.Depth),sl eS a1.Permit,sl Ad a1.Proms,.d (.u a1.Sig.E),.d (.u a1.Sig.S)] 59),(1,.box 0 [.d (.i a0.Serial),.d (.s a0.Issuer),.d (.s a0.Subject),.d (.u a0.Key),sl eS a0.Names,.d (.i a0.From),.d (.i a0.Until),.d (.t a0.Ca),.d (.i a0.Depth),sl eS a0.Permit,sl Ad a0.Proms,.d (.u a0.Sig.E),.d (.u a0.Sig.S)] 59)],[],2⟩) λi1 s1 Jl bl1=>cR bl1 (λ_ _ q5 q4 bl1=> ?_) λe=> ?_
 ·refine gx Ac 13 q5<|gA q4 FJ λ_ q6 q4=>gi q4 ?_ ?_<;>intro _ q4
  ·obtain rfl:=nT bl1 q4;exact AnO hm▸gE
  exact gT bl1 hle1 q4
 subst e;refine gi hm ?_ ?_<;>intro _ hm
 ·exact AnO hm▸gE
 refine gD hm Ug λ_ q7 hm=>gD hm Sm λ_ q8 hm=>gi hm ?_ ?_<;>intro _ hm
 ·exact AnO hm▸gE
 exact AnO hm▸gE
def Pe (a0:g_path_trip)(i1:Int)(s1:Unit):Option ((Unit)⊕Int):=Ab (idx a0.chain_ (i1:Int)) λx3=>Ab (idx a0.chain_ (w64 ((i1:Int)+1))) λx4=>Ab (Qe x3 x4) λx5=>if(x5 !=0)=true then some (.inr x5)else some (.inl ())
def LZ (a0:g_path_trip):Option Int:=Ab (CE (Pe a0) (Int.toNat (w64 ((a0.chain_.length:Int)-1))) 0 ()) λx1=>match x1 with| .inr r=>some r| .inl y1=>some 0
theorem RH {a0 r}(hm:LZ a0=some r):Sf prog 75 [ag (E1 a0)] (.d (.i r)):=by
 refine sq ?_;intros;refine oB hm λ_ q1 hm=>gF (EN _ _ _) q1 (λp0 _=>⟨[(1,.pb 0 0),(8,.d (.i (w64 ((a0.chain_.length:Int)-1)))),(9,.d (.i p0))],[(0,.box 0 [sl Ac a0.roots_,sl Ac a0.chain_,.d (.s a0.name_),.d (.i a0.now_)] 124)],[],1⟩) λi1 s1 Jl bl1=>cN bl1 (w64 ((a0.chain_.length:Int)-1)) (λ_ q4 bl1=> ?_) λe=> ?_
 ·refine oB q4 λ_ q6 q4=>gx Ac 13 q6<|oB q4 λ_ q7 q4=>gx Ac 13 q7<|gA q4 T4 λ_ q8 q4=>gi q4 ?_ ?_<;>intro _ q4
  ·obtain rfl:=nT bl1 q4;exact AnO hm▸gE
  exact gT bl1 (Zl _) q4
 subst e;exact AnO hm▸gE
def A4 (a0:List g_api_Cert):Option (List g_api_Cert):=Ab (app 168 ([]:List g_api_Cert) a0) λx1=>some x1
theorem Eb {a0 r}(hm:A4 a0=some r):Sp prog 38 [sl Ac a0] [] 0 (is (.ow 0) [.row 0 13 _ Ac r] 1):=by
 refine sq ?_;intros;unfold A4 at hm;refine gnq Ac a0 (λhe1=> ?_) ?_
 ·rw[he1]at hm;replace hm:(some ([]:List g_api_Cert))=some _:=hm;refine Tr Ac 2 13 ?_;exact AnO hm▸gE
 refine Sa (k:=13) Ac ([]:List g_api_Cert) (λ_=>rfl)<|oB hm λ_ q1 hm=>gp Ac 13 q1 ?_;exact AnO hm▸gE
def Gt (a0:ByteArray)(a1:ByteArray):Option (ByteArray×ByteArray×Bool):=Ab (Bv a0 a1) λx1=>if(decide (x1>=0))=true then Ab (Ts a0 0 x1) λx2=>Ab (Ts a0 (w64 (x1+(a1.size:Int))) (a0.size:Int)) λx3=>some (x2,x3,true)else some (a0,(⟨#[]⟩:ByteArray),false)
theorem KQ {a0 a1 r}(hm:Gt a0 a1=some r):Sf prog 405 [.d (.s a0),.d (.s a1)] (.tup [.d (.s r.1),.d (.s r.2.1),.d (.t r.2.2)]):=by
 refine sq ?_;intros;refine gA hm Fp λ_ q1 hm=>gi hm ?_ ?_<;>intro _ hm
 ·refine oB hm λ_ q2 hm=>VT (λ_=>q2)<|oB hm λ_ q3 hm=>VT (λ_=>q3) ?_;exact AnO hm▸gE
 exact AnO hm▸gE
def Q9 (a0:ByteArray)(a1:ByteArray):Option (ByteArray×ByteArray×Bool):=Ab (Gt a0 a1) λx1=>some (x1.1,x1.2.1,x1.2.2)
theorem WV {a0 a1 r}(hm:Q9 a0 a1=some r):Sf prog 396 [.d (.s a0),.d (.s a1)] (.tup [.d (.s r.1),.d (.s r.2.1),.d (.t r.2.2)]):=by
 refine sq ?_;intros;refine gA hm KQ λ_ q1 hm=> ?_;exact AnO hm▸gE
def R3 (a0:ByteArray):Option ByteArray:=Ab (Ev a0) λx1=>if(!x1)=true then some (⟨#[]⟩:ByteArray)else Ab (Q9 a0 (⟨#[46]⟩:ByteArray)) λx2=>some x2.2.1
theorem V4 {a0 r}(hm:R3 a0=some r):Sf prog 383 [.d (.s a0)] (.d (.s r)):=by
 refine sq ?_;intros;refine gA hm OU λ_ q1 hm=>gi hm ?_ ?_<;>intro _ hm
 ·exact AnO hm▸gE
 refine gA hm WV λ_ q2 hm=> ?_;exact AnO hm▸gE
def Rb {σ:Type}(p0:σ->ByteArray->Option (Bool×σ))(s1:ByteArray×σ):Option ((ByteArray×σ)⊕(ByteArray×σ)):=if(!eqS s1.1 (⟨#[]⟩:ByteArray))=true then Ab (p0 s1.2 s1.1) λx4=>if x4.1=true then Ab (R3 s1.1) λx5=>some (.inl (x5,x4.2))else some (.inr (s1.1,x4.2))else some (.inr (s1.1,s1.2))
def OA {σ:Type}(p0:σ->ByteArray->Option (Bool×σ))(k0:ByteArray)(s0:σ):Option (ByteArray×σ):=Ab (R3 k0) λx1=>Ab (iter (Rb p0) AY (x1,s0)) λx2=>some (x2.1,x2.2)
theorem T5 {σ:Type}{p0:σ->ByteArray->Option (Bool×σ)}{k0 s0 r}(hm:OA p0 k0 s0=some r)(g:Value)(R:σ->Mem->Ow)(hcb:Adm prog g (λx=> [.d (.s x)]) R p0):Sp prog 382 [.ow 0,.pb 1 0] [.hp 0 (.cb g σ R s0),.box 1 [.d (.s k0)] 9] 2 (is (.tup []) [.hp 0 (.cb g σ R r.2),.box 1 [.d (.s r.1)] 9] 2):=by
 refine sq λD0 As u4 m0 hd=>gA hm V4 λ_ q1 hm=>oB hm λx2 q2 hm=>gjU 0 (λ(_:Unit)=>let (y_0,y_1):=x2; ⟨[],[(0,.box 1 [.d (.s y_0)] 9),(1,.hp 0 (.cb g σ R y_1))],[],2⟩) (λ_=>True) (λJp bk1=> ?_) λ_ _=> ?_
 ·refine gI q2 (λ(p_0,p_1)=>⟨[(0,.ow 0),(1,.pb 1 0)],[(0,.box 1 [.d (.s p_0)] 9),(1,.hp 0 (.cb g σ R p_1))],[],2⟩) λs1 _ Jl q5 bl1=>gspl 7 q5 (λhc1 q5=> ?_) λhc1 q5=> ?_
  ·refine oB q5 λ_ q7 q5=>gcb s1.1 hcb q7<|gi q5 ?_ ?_<;>intro _ q5
   ·exact gA q5 V4 λ_ q8 q5=>gN bl1 q5
   obtain rfl:=nR bl1 q5;exact gb bk1 hd () trivial
  refine gi' (b:=false) (λh=>by cases h) (λ_=> ?_);obtain rfl:=nR bl1 q5;exact gb bk1 hd () trivial
 exact AnO hm▸gE
def Rc (a0:ByteArray):Option ByteArray:=some a0
theorem Xh {a0 r}(hm:Rc a0=some r):Sp prog 352 [.d (.s a0)] [] 0 (is (.fn (.func 382) [] [.pb 0 0]) [.box 0 [.d (.s r)] 9] 1):=by
 refine sq ?_;intros;exact AnO hm▸gE
def Jt (a1:ByteArray)(b5:ByteArray)(s1:(Bool)×Nat):Option ((Bool)×Nat):=if(eqS b5 a1)=true then some (true,1)else some (s1.1,0)
def Na (a0:ByteArray)(a1:ByteArray):Option Bool:=Ab (Rc a0) λx1=>Ab (OA (λ(s:(Bool)×Nat) (b0:ByteArray)=>if s.2=0 then Ab (Jt a1 b0 s) λy=>some (y.2==0,y)else none) x1 (false,0)) λx2=>if(x2.2).2=0 then some false else some x2.2.1
theorem Xg {a0 a1 r}(hm:Na a0 a1=some r):Sf prog 297 [.d (.s a0),.d (.s a1)] (.d (.t r)):=
 spR call297 func297 rfl ntmps297 rfl λD0 As u4 m0 hD hd=>by
  unfold Na at hm;refine gD hm Xh λx1 q1 hm=>oB hm λx2 q2 hm=>OL hD (n0:=0) 3 3 [⟨2,2,9,[.d (.s x1)],[.d (.s x2.1)]⟩] (gt:=7) (ps:=[8]) [(3,.pb 0 0),(4,.pb 1 0),(7,.fn (.func 382) [] [.pb 2 0])] (λ(y1:Bool)=> [(0,.box 1 [.d (.t y1)] 4),(1,.box 0 [.d (.s a1)] 9)]) (λ(y1:(Bool)×Nat)=> [(0,.box 1 [.d (.t y1.1)] 4),(1,.box 0 [.d (.s a1)] 9)]) (λx=> [.d (.s x)]) (λ(s1:Bool) (b5:ByteArray)=>⟨[(3,.pb 0 0),(4,.pb 1 0),(5,.d (.s b5)),(7,.fn (.func 382) [] [.pb 2 0])],[(0,.box 1 [.d (.t s1)] 4),(1,.box 0 [.d (.s a1)] 9)],[],3⟩) (pJ λx s=>Jt a1 x s) false hd (via fJ hyJ rfl λg R h=>T5 q2 g R h) rfl (λ_=>rfl) (λ_=>rfl) (λ_=>rfl) (λ_=>rfl) ?_ ?_ ?_ ?_
  ·intro s1 b5 s' hp l D0 As u4 m0 hd Ja ba;exact gb ba hd () trivial
  ·intro s1 b5 s' hp l D0 As u4 m0 hd Jb bb Jr br;obtain⟨z1,q3,hp⟩:=AnZ.1 hp;subst hp;unfold Jt at q3;dsimp only at q3;refine gi q3 ?_ ?_<;>intro _ q3
   ·obtain rfl:=AnO q3;exact Ajr br hd (true,1) rfl
   obtain rfl:=AnO q3;exact gb bb hd s1 rfl
  ·intro x hx;obtain⟨hj1,rfl⟩:=Ac0 hx;rw[AnT hj1]at hm;exact AnO hm▸gE
  intro y hy;obtain⟨hj1,rfl⟩:=AcZ hy;rw[AnW hj1]at hm;exact AnO hm▸gE
def Re (a0:ByteArray)(a1:ByteArray):Option Bool:=Ab (Eu a0) λx1=>Ab (gu (!(!x1.2.2)) (Ev a1)) λx2=>if((!x1.2.2)||(!x2))=true then some false else if x1.2.1=true then Ab (Na a1 x1.1) λx3=>some x3 else some (eqS x1.1 a1)
theorem Xi {a0 a1 r}(hm:Re a0 a1=some r):Sf prog 234 [.d (.s a0),.d (.s a1)] (.d (.t r)):=by
 refine sq ?_;intros;refine gA hm NY λ_ q1 hm=>oB hm λ_ q2 hm=>gcH q2 OU<|gi hm ?_ ?_<;>intro _ hm
 ·exact AnO hm▸gE
 refine gi hm ?_ ?_<;>intro _ hm
 ·refine gA hm Xg λ_ q3 hm=> ?_;exact AnO hm▸gE
 exact AnO hm▸gE
def Li (a0:ByteArray)(k0:ByteArray):Option (Bool×ByteArray):=Ab (Re a0 k0) λx1=>some (x1,k0)
theorem QF {a0 k0 r}(hm:Li a0 k0=some r):Sp prog 233 [.d (.s a0),.pb 0 0] [.box 0 [.d (.s k0)] 9] 1 (is (.d (.t r.1)) [.box 0 [.d (.s r.2)] 9] 1):=by
 refine sq ?_;intros;refine gA hm Xi λ_ q1 hm=> ?_;exact AnO hm▸gE
def FC (a0:List ByteArray)(i1:Int)(s1:ByteArray):Option ((ByteArray)⊕(Int×ByteArray)):=Ab (idx a0 (i1:Int)) λx3=>Ab (Li x3 s1) λx4=>if x4.1=true then some (.inr ((i1:Int),x4.2))else some (.inl x4.2)
def Df (a0:List ByteArray)(k0:ByteArray):Option (Int×ByteArray):=Ab (CE (FC a0) a0.length 0 k0) λx1=>match x1 with| .inr r=>some r| .inl y1=>some ((-1),y1)
theorem Gv {a0 k0 r}(hm:Df a0 k0=some r):Sp prog 295 [sl eS a0,.fn (.func 233) [] [.pb 0 0]] [.box 0 [.d (.s k0)] 9] 1 (is (.d (.i r.1)) [.box 0 [.d (.s r.2)] 9] 1):=by
 refine sq ?_;intros;refine oB hm λ_ q1 hm=>Jj 0 (E:=eS) (xs:=a0) 6 λhle1=>gF (EN _ _ _) q1 (λp0 p=>⟨[(0,sl eS a0),(1,.fn (.func 233) [] [.pb 0 0]),(7,.d (.i (a0.length:Int))),(8,.d (.i p0))],[(0,.box 0 [.d (.s p)] 9)],[],1⟩) λi1 s1 Jl bl1=>cN bl1 (a0.length:Int) (λ_ q4 bl1=> ?_) λe=> ?_
 ·refine oB q4 λ_ q6 q4=>gx eS 1 q6<|gD q4 QF λ_ q7 q4=>gi q4 ?_ ?_<;>intro _ q4
  ·obtain rfl:=nT bl1 q4;exact AnO hm▸gE
  exact gT bl1 hle1 q4
 subst e;let y1:=s1;exact AnO hm▸gE
def CY (a0:List ByteArray)(k0:ByteArray):Option (Bool×ByteArray):=Ab (Df a0 k0) λx1=>some ((decide (x1.1>=0)),x1.2)
theorem Fy {a0 k0 r}(hm:CY a0 k0=some r):Sp prog 232 [sl eS a0,.fn (.func 233) [] [.pb 0 0]] [.box 0 [.d (.s k0)] 9] 1 (is (.d (.t r.1)) [.box 0 [.d (.s r.2)] 9] 1):=by
 refine sq ?_;intros;refine gD hm Gv λ_ q1 hm=> ?_;exact AnO hm▸gE
def NA (a0:ByteArray)(k0:g_api_Cert):Option (Bool×g_api_Cert):=Ab (CY k0.Permit a0) λx1=>some ((!x1.1),k0)
theorem SV {a0 k0 r}(hm:NA a0 k0=some r):Sp prog 231 [.d (.s a0),.pb 0 0] [.box 0 [.d (.i k0.Serial),.d (.s k0.Issuer),.d (.s k0.Subject),.d (.u k0.Key),sl eS k0.Names,.d (.i k0.From),.d (.i k0.Until),.d (.t k0.Ca),.d (.i k0.Depth),sl eS k0.Permit,sl Ad k0.Proms,.d (.u k0.Sig.E),.d (.u k0.Sig.S)] 59] 1 (is (.d (.t r.1)) [.box 0 [.d (.i r.2.Serial),.d (.s r.2.Issuer),.d (.s r.2.Subject),.d (.u r.2.Key),.d (.sl _ eS r.2.Names),.d (.i r.2.From),.d (.i r.2.Until),.d (.t r.2.Ca),.d (.i r.2.Depth),.d (.sl _ eS r.2.Permit),.d (.sl _ Ad r.2.Proms),.d (.u r.2.Sig.E),.d (.u r.2.Sig.S)] 59] 1):=by
 refine sq ?_;intros;refine gD hm Fy λ_ q1 hm=> ?_;exact AnO hm▸gE
def FD (a0:List ByteArray)(i1:Int)(s1:Int×ByteArray×ByteArray×UInt64×(List ByteArray)×Int×Int×Bool×Int×(List ByteArray)×(List g_api_Promise)×UInt64×UInt64):Option ((Int×ByteArray×ByteArray×UInt64×(List ByteArray)×Int×Int×Bool×Int×(List ByteArray)×(List g_api_Promise)×UInt64×UInt64)⊕(Int×g_api_Cert)):=Ab (idx a0 (i1:Int)) λx3=>Ab (NA x3 (⟨s1.1,s1.2.1,s1.2.2.1,s1.2.2.2.1,s1.2.2.2.2.1,s1.2.2.2.2.2.1,s1.2.2.2.2.2.2.1,s1.2.2.2.2.2.2.2.1,s1.2.2.2.2.2.2.2.2.1,s1.2.2.2.2.2.2.2.2.2.1,s1.2.2.2.2.2.2.2.2.2.2.1,(⟨s1.2.2.2.2.2.2.2.2.2.2.2.1,s1.2.2.2.2.2.2.2.2.2.2.2.2⟩:g_api_Sig)⟩:g_api_Cert)) λx4=>if x4.1=true then some (.inr ((i1:Int),x4.2))else some (.inl (x4.2.Serial,x4.2.Issuer,x4.2.Subject,x4.2.Key,x4.2.Names,x4.2.From,x4.2.Until,x4.2.Ca,x4.2.Depth,x4.2.Permit,x4.2.Proms,x4.2.Sig.E,x4.2.Sig.S))
def Dg (a0:List ByteArray)(k0:g_api_Cert):Option (Int×g_api_Cert):=Ab (CE (FD a0) a0.length 0 (k0.Serial,k0.Issuer,k0.Subject,k0.Key,k0.Names,k0.From,k0.Until,k0.Ca,k0.Depth,k0.Permit,k0.Proms,k0.Sig.E,k0.Sig.S)) λx1=>match x1 with| .inr r=>some r| .inl y1=>some ((-1),(⟨y1.1,y1.2.1,y1.2.2.1,y1.2.2.2.1,y1.2.2.2.2.1,y1.2.2.2.2.2.1,y1.2.2.2.2.2.2.1,y1.2.2.2.2.2.2.2.1,y1.2.2.2.2.2.2.2.2.1,y1.2.2.2.2.2.2.2.2.2.1,y1.2.2.2.2.2.2.2.2.2.2.1,(⟨y1.2.2.2.2.2.2.2.2.2.2.2.1,y1.2.2.2.2.2.2.2.2.2.2.2.2⟩:g_api_Sig)⟩:g_api_Cert))
theorem Gx {a0 k0 r}(hm:Dg a0 k0=some r):Sp prog 295 [sl eS a0,.fn (.func 231) [] [.pb 0 0]] [.box 0 [.d (.i k0.Serial),.d (.s k0.Issuer),.d (.s k0.Subject),.d (.u k0.Key),sl eS k0.Names,.d (.i k0.From),.d (.i k0.Until),.d (.t k0.Ca),.d (.i k0.Depth),sl eS k0.Permit,sl Ad k0.Proms,.d (.u k0.Sig.E),.d (.u k0.Sig.S)] 59] 1 (is (.d (.i r.1)) [.box 0 [.d (.i r.2.Serial),.d (.s r.2.Issuer),.d (.s r.2.Subject),.d (.u r.2.Key),.d (.sl _ eS r.2.Names),.d (.i r.2.From),.d (.i r.2.Until),.d (.t r.2.Ca),.d (.i r.2.Depth),.d (.sl _ eS r.2.Permit),.d (.sl _ Ad r.2.Proms),.d (.u r.2.Sig.E),.d (.u r.2.Sig.S)] 59] 1):=by
 refine sq ?_;intros;refine oB hm λ_ q1 hm=>Jj 0 (E:=eS) (xs:=a0) 6 λhle1=>gF (EN _ _ _) q1 (λp0 (p_0,p_1,p_2,p_3,p_4,p_5,p_6,p_7,p_8,p_9,p_10,p_11,p_12)=>⟨[(0,sl eS a0),(1,.fn (.func 231) [] [.pb 0 0]),(7,.d (.i (a0.length:Int))),(8,.d (.i p0))],[(0,.box 0 [.d (.i p_0),.d (.s p_1),.d (.s p_2),.d (.u p_3),sl eS p_4,.d (.i p_5),.d (.i p_6),.d (.t p_7),.d (.i p_8),sl eS p_9,sl Ad p_10,.d (.u p_11),.d (.u p_12)] 59)],[],1⟩) λi1 s1 Jl bl1=>cN bl1 (a0.length:Int) (λ_ q4 bl1=> ?_) λe=> ?_
 ·refine oB q4 λ_ q6 q4=>gx eS 1 q6<|gD q4 SV λ_ q7 q4=>gi q4 ?_ ?_<;>intro _ q4
  ·obtain rfl:=nT bl1 q4;exact AnO hm▸gE
  exact gT bl1 hle1 q4
 subst e;let y1:=s1;exact AnO hm▸gE
def CZ (a0:List ByteArray)(k0:g_api_Cert):Option (Bool×g_api_Cert):=Ab (Dg a0 k0) λx1=>some ((decide (x1.1>=0)),x1.2)
theorem FA {a0 k0 r}(hm:CZ a0 k0=some r):Sp prog 232 [sl eS a0,.fn (.func 231) [] [.pb 0 0]] [.box 0 [.d (.i k0.Serial),.d (.s k0.Issuer),.d (.s k0.Subject),.d (.u k0.Key),sl eS k0.Names,.d (.i k0.From),.d (.i k0.Until),.d (.t k0.Ca),.d (.i k0.Depth),sl eS k0.Permit,sl Ad k0.Proms,.d (.u k0.Sig.E),.d (.u k0.Sig.S)] 59] 1 (is (.d (.t r.1)) [.box 0 [.d (.i r.2.Serial),.d (.s r.2.Issuer),.d (.s r.2.Subject),.d (.u r.2.Key),.d (.sl _ eS r.2.Names),.d (.i r.2.From),.d (.i r.2.Until),.d (.t r.2.Ca),.d (.i r.2.Depth),.d (.sl _ eS r.2.Permit),.d (.sl _ Ad r.2.Proms),.d (.u r.2.Sig.E),.d (.u r.2.Sig.S)] 59] 1):=by
 refine sq ?_;intros;refine gD hm Gx λ_ q1 hm=> ?_;exact AnO hm▸gE
def R2 (a0:g_path_trip)(x6:List g_api_Cert)(i1:Int)(s1:Unit):Option ((Unit)⊕Int):=Ab (idx x6 (i1:Int)) λx9=>bnd ((decide (x9.Depth<(i1:Int)))) λx10=>if x10=true then some (.inr 191)else if(decide ((x9.Permit.length:Int)>0))=true then Ab (idx a0.chain_ 0) λx11=>Ab (CZ x11.Names x9) λx12=>if x12.1=true then some (.inr 110)else some (.inl ())else some (.inl ())
def PA (a0:g_path_trip)(a1:g_api_Cert):Option Int:=Ab (idx a0.chain_ (w64 ((a0.chain_.length:Int)-1))) λx1=>Ab (Qe x1 a1) λx2=>if(x2 !=0)=true then some x2 else Ab (H6 a0 a1) λx3=>if(!x3)=true then some 190 else Ab (cut a0.chain_ 1 (a0.chain_.length:Int)) λx4=>Ab (A4 x4) λx5=>Ab (app 168 x5 ([a1]:List g_api_Cert)) λx6=>Ab (CE (R2 a0 x6) x6.length 0 ()) λx7=>match x7 with| .inr r=>some r| .inl y1=>some 0
theorem VB {a0 a1 r}(hm:PA a0 a1=some r):Sf prog 150 [ag (E1 a0),ag (Ac a1)] (.d (.i r)):=by
 refine sq ?_;intros;refine oB hm λ_ q1 hm=>gx Ac 13 q1<|gA hm T4 λ_ q2 hm=>gi hm ?_ ?_<;>intro _ hm
 ·exact AnO hm▸gE
 refine gA hm KZ λ_ q3 hm=>gi hm ?_ ?_<;>intro _ hm
 ·exact AnO hm▸gE
 refine oB hm λ_ q4 hm=>gk Ac 13 q4<|gD hm Eb λ_ q5 hm=>gq Ac 13 [a1]<|oB hm λx6 q6 hm=>gp Ac 13 q6<|oB hm λ_ q7 hm=>Jj 0 (E:=Ac) (xs:=x6) 32 λhle1=>gF (EN _ _ _) q7 (λp0 _=>⟨[(2,.pb 0 0),(32,.ow 2),(33,.d (.i (x6.length:Int))),(34,.d (.i p0)),(3,.pb 1 0)],[(0,.row 2 13 _ Ac x6),(1,.box 1 [.d (.i a1.Serial),.d (.s a1.Issuer),.d (.s a1.Subject),.d (.u a1.Key),sl eS a1.Names,.d (.i a1.From),.d (.i a1.Until),.d (.t a1.Ca),.d (.i a1.Depth),sl eS a1.Permit,sl Ad a1.Proms,.d (.u a1.Sig.E),.d (.u a1.Sig.S)] 59),(2,.box 0 [sl Ac a0.roots_,sl Ac a0.chain_,.d (.s a0.name_),.d (.i a0.now_)] 124)],[],3⟩) λi1 s1 Jl bl1=>cN bl1 (x6.length:Int) (λ_ q10 bl1=> ?_) λe=> ?_
 ·refine oB q10 λ_ q12 q10=>Jk (E:=Ac) (λ_=>q12)<|AaD (k:=13) (fo:=0) (nn:=13) (ag:=true) (E:=Ac) (λ_=>rfl) (λ_=>q12)<|bE q10 ?_;intro _ q10;refine gi q10 ?_ ?_<;>intro _ q10
  ·obtain rfl:=nT bl1 q10;exact AnO hm▸gE
  refine gspl 50 q10 (λhc4 q10=> ?_) λhc4 q10=> ?_
  ·refine oB q10 λ_ q14 q10=>gx Ac 13 q14<|gD q10 FA λ_ q15 q10=>gi q10 ?_ ?_<;>intro _ q10
   ·obtain rfl:=nT bl1 q10;exact AnO hm▸gE
   exact gT bl1 hle1 q10
  refine gi' (b:=false) (λh=>by cases h) (λ_=> ?_);exact gT bl1 hle1 q10
 subst e;exact AnO hm▸gE
def NO (a0:g_path_trip)(s1:Int×Int):Option ((Int×Int)⊕((Int)⊕Int)):=if(decide (s1.2>=0))=true then Ab (idx a0.roots_ s1.2) λx4=>Ab (PA a0 x4) λx5=>if(x5==0)=true then some (.inr (.inr 0))else some (.inl (x5,(w64 (s1.2-1))))else some (.inr (.inl s1.1))
def Kv (a0:g_path_trip):Option Int:=bnd ((w64 ((a0.roots_.length:Int)-1))) λx1=>Ab (iter (NO a0) AY (191,x1)) λx2=>match x2 with| .inr r=>some r| .inl y1=>some y1
theorem PK {a0 r}(hm:Kv a0=some r):Sf prog 76 [ag (E1 a0)] (.d (.i r)):=by
 refine sq ?_;intros;refine bE hm ?_;intro _ hm;refine oB hm λ_ q2 hm=>gI q2 (λ(p_0,p_1)=>⟨[(1,.pb 0 0),(3,.d (.i p_0)),(4,.d (.i p_1))],[(0,.box 0 [sl Ac a0.roots_,sl Ac a0.chain_,.d (.s a0.name_),.d (.i a0.now_)] 124)],[],1⟩) λs1 _ Jl q5 bl1=>gi q5 ?_ ?_<;>intro _ q5
 ·refine oB q5 λ_ q7 q5=>gx Ac 13 q7<|gA q5 VB λ_ q8 q5=>gi q5 ?_ ?_<;>intro _ q5
  ·obtain rfl:=nR bl1 q5;exact AnO hm▸gE
  exact gN bl1 q5
 obtain rfl:=nR bl1 q5;let y1:=s1.1;exact AnO hm▸gE
def US (x:Ho):Option Int:=if x.k=72 then Lj x.a else if x.k=73 then Nz x.a else if x.k=74 then L3 x.a else if x.k=75 then LZ x.a else if x.k=76 then Kv x.a else none
theorem AeA {x r}(hm:US x=some r):Sf prog x.k [ag (E1 x.a)] (.d (.i r)):=by
 unfold US at hm;split at hm
 ·rename_i h;rw[h];exact QG hm
 split at hm
 ·rename_i h;rw[h];exact SU hm
 split at hm
 ·rename_i h;rw[h];exact RI hm
 split at hm
 ·rename_i h;rw[h];exact RH hm
 split at hm
 ·rename_i h;rw[h];exact PK hm
 cases hm
def B0 (a0:Int):Option Bool:=bnd (((decide ((0:Int)<=a0))&&(decide (a0<=1099511627776)))) λx1=>some x1
theorem FH {a0 r}(hm:B0 a0=some r):Sf prog 60 [.d (.i a0)] (.d (.t r)):=by
 refine sq ?_;intros;refine bE hm ?_;intro _ hm;exact AnO hm▸gE
def D3 (a0:UInt8):Option Bool:=bnd (((decide ((a0.toNat:Int)<33))||(decide ((a0.toNat:Int)>126)))) λx1=>some x1
theorem N7 {a0 r}(hm:D3 a0=some r):Sf prog 128 [.d (.b a0)] (.d (.t r)):=by
 refine sq ?_;intros;refine bE hm ?_;intro _ hm;exact AnO hm▸gE
def D2 (a0:g_api_Cert):Option Bool:=Ab (gu (!(!a0.Ca)) (Ci a0)) λx1=>some ((!a0.Ca)||(x1 !=0))
theorem N6 {a0 r}(hm:D2 a0=some r):Sf prog 129 [ag (Ac a0)] (.d (.t r)):=by
 refine sq ?_;intros;refine oB hm λ_ q1 hm=>gcH q1 FJ ?_;exact AnO hm▸gE
def AI (a0:List g_api_Cert)(i1:Int)(s1:Unit):Option ((Unit)⊕Int):=Ab (idx a0 (i1:Int)) λx3=>Ab (D2 x3) λx4=>if x4=true then some (.inr (i1:Int))else some (.inl ())
def AU (a0:List g_api_Cert):Option Int:=Ab (CE (AI a0) a0.length 0 ()) λx1=>match x1 with| .inr r=>some r| .inl y1=>some (-1)
theorem Fl {a0 r}(hm:AU a0=some r):Sf prog 212 [sl Ac a0,.fn (.func 129) [] []] (.d (.i r)):=by
 refine sq ?_;intros;refine oB hm λ_ q1 hm=>Jj 0 (E:=Ac) (xs:=a0) 6 λhle1=>gF (EN _ _ _) q1 (λp0 _=>⟨[(0,sl Ac a0),(1,.fn (.func 129) [] []),(7,.d (.i (a0.length:Int))),(8,.d (.i p0))],[],[],0⟩) λi1 s1 Jl bl1=>cN bl1 (a0.length:Int) (λ_ q4 bl1=> ?_) λe=> ?_
 ·refine oB q4 λ_ q6 q4=>gx Ac 13 q6<|gA q4 N6 λ_ q7 q4=>gi q4 ?_ ?_<;>intro _ q4
  ·obtain rfl:=nT bl1 q4;exact AnO hm▸gE
  exact gT bl1 hle1 q4
 subst e;exact AnO hm▸gE
def Ar (a0:List g_api_Cert):Option Bool:=Ab (AU a0) λx1=>some (decide (x1>=0))
theorem Cn {a0 r}(hm:Ar a0=some r):Sf prog 132 [sl Ac a0,.fn (.func 129) [] []] (.d (.t r)):=by
 refine sq ?_;intros;refine gA hm Fl λ_ q1 hm=> ?_;exact AnO hm▸gE
def AR (a0:List UInt8)(i1:Int)(s1:Unit):Option ((Unit)⊕Int):=Ab (idx a0 (i1:Int)) λx3=>Ab (D3 x3) λx4=>if x4=true then some (.inr (i1:Int))else some (.inl ())
def Bt (a0:List UInt8):Option Int:=Ab (CE (AR a0) a0.length 0 ()) λx1=>match x1 with| .inr r=>some r| .inl y1=>some (-1)
theorem HC {a0 r}(hm:Bt a0=some r):Sf prog 211 [sl eB a0,.fn (.func 128) [] []] (.d (.i r)):=by
 refine sq ?_;intros;refine oB hm λ_ q1 hm=>Jj 0 (E:=eB) (xs:=a0) 6 λhle1=>gF (EN _ _ _) q1 (λp0 _=>⟨[(0,sl eB a0),(1,.fn (.func 128) [] []),(7,.d (.i (a0.length:Int))),(8,.d (.i p0))],[],[],0⟩) λi1 s1 Jl bl1=>cN bl1 (a0.length:Int) (λ_ q4 bl1=> ?_) λe=> ?_
 ·refine oB q4 λ_ q6 q4=>gx eB 1 q6<|gA q4 N7 λ_ q7 q4=>gi q4 ?_ ?_<;>intro _ q4
  ·obtain rfl:=nT bl1 q4;exact AnO hm▸gE
  exact gT bl1 hle1 q4
 subst e;exact AnO hm▸gE
def AJ (a0:List UInt8):Option Bool:=Ab (Bt a0) λx1=>some (decide (x1>=0))
theorem GA {a0 r}(hm:AJ a0=some r):Sf prog 131 [sl eB a0,.fn (.func 128) [] []] (.d (.t r)):=by
 refine sq ?_;intros;refine gA hm HC λ_ q1 hm=> ?_;exact AnO hm▸gE
def NP (i1:Int)(x3:g_api_Key)(s1:Int):Option ((Int)⊕Int):=Ab (gu (!(decide (x3.Log<=s1))) (B0 x3.Log)) λx4=>Ab (gu (!((decide (x3.Log<=s1))||(!x4))) (B0 x3.Delay)) λx5=>Ab (gu (!(((decide (x3.Log<=s1))||(!x4))||(!x5))) (Dy x3.Key)) λx6=>if((((decide (x3.Log<=s1))||(!x4))||(!x5))||(!x6))=true then some (.inr 1)else some (.inl x3.Log)
def A8 (i2:Int)(x11:g_api_Key)(s2:Int):Option ((Int)⊕Int):=Ab (gu (!(decide (x11.Log<=s2))) (B0 x11.Log)) λx12=>Ab (gu (!((decide (x11.Log<=s2))||(!x12))) (B0 x11.Delay)) λx13=>Ab (gu (!(((decide (x11.Log<=s2))||(!x12))||(!x13))) (Dy x11.Key)) λx14=>if((((decide (x11.Log<=s2))||(!x12))||(!x13))||(!x14))=true then some (.inr 1)else some (.inl x11.Log)
def Cb (a0:Am):Option Int:=
 if((eqS a0.Client.Who (⟨#[]⟩:ByteArray))||(decide ((a0.Client.Who.size:Int)>64)))=true then
  Ab (gu (!((true||((a0.Client.Roots.length:Int)==0))||(decide ((a0.Client.Roots.length:Int)>8)))) (Ar a0.Client.Roots)) λx1=>
  if(((true||((a0.Client.Roots.length:Int)==0))||(decide ((a0.Client.Roots.length:Int)>8)))||x1)=true then
   some 1
  else
  Ab (F6 NP a0.Client.Logs 0 (-1)) λx2=>match x2 with
  | .inr r=>some r
  | .inl y1=>
  if((decide ((a0.Client.Logs.length:Int)>16))||((a0.Client.View !=0)&&(a0.Client.View !=1)))=true then
   some 1
  else
  some 0
 else
 Ab (app 1 ([]:List UInt8) a0.Client.Who.data.toList) λx7=>
 Ab (AJ x7) λx8=>
 Ab (gu (!((x8||((a0.Client.Roots.length:Int)==0))||(decide ((a0.Client.Roots.length:Int)>8)))) (Ar a0.Client.Roots)) λx9=>
 if(((x8||((a0.Client.Roots.length:Int)==0))||(decide ((a0.Client.Roots.length:Int)>8)))||x9)=true then
  some 1
 else
 Ab (F6 A8 a0.Client.Logs 0 (-1)) λx10=>match x10 with
 | .inr r=>some r
 | .inl y3=>
 if((decide ((a0.Client.Logs.length:Int)>16))||((a0.Client.View !=0)&&(a0.Client.View !=1)))=true then
  some 1
 else
 some 0
theorem PQ {a0 r}(hm:Cb a0=some r):Sf prog 49 [ag (B3 a0)] (.d (.i r)):=by
 refine sq ?_;intros;refine gspl 19 hm (λhc1 hm=> ?_) λhc1 hm=> ?_
 ·refine oB hm λ_ q1 hm=>gcH q1 Cn<|gi hm ?_ ?_<;>intro _ hm
  ·exact AnO hm▸gE
  refine oB hm λ_ q2 hm=>Jj 0 (E:=Ai) (xs:=a0.Client.Logs) 50 λhle1=>gF (ER _ _ _) q2 (λp0 p=>⟨[(1,.pb 0 0),(5,.d (.i p)),(50,sl Ai a0.Client.Logs),(51,.d (.i (a0.Client.Logs.length:Int))),(52,.d (.i p0))],[(0,.box 0 [.d (.s a0.Client.Who),sl Ac a0.Client.Roots,sl Ai a0.Client.Logs,sl Ae a0.Client.Pool.L,.d (.i a0.Client.Cascade.Day),sl Ah a0.Client.Cascade.Levels,.d (.i a0.Client.View)] 110)],[],1⟩) λi1 s1 Jl bl1=>cR bl1 (λ_ _ q6 q5 bl1=> ?_) λe=> ?_
  ·refine gx Ai 3 q6<|oB q5 λ_ q7 q5=>gcH q7 FH<|oB q5 λ_ q8 q5=>gcH q8 FH<|oB q5 λ_ q9 q5=>gcH q9 PO<|gi q5 ?_ ?_<;>intro _ q5
   ·obtain rfl:=nT bl1 q5;exact AnO hm▸gE
   exact gT bl1 hle1 q5
  subst e;let y1:=s1;refine gi hm ?_ ?_<;>intro _ hm
  ·exact AnO hm▸gE
  exact AnO hm▸gE
 refine oB hm λ_ q10 hm=>gofS q10<|gD hm GA λ_ q11 hm=>oB hm λ_ q12 hm=>gcH q12 Cn<|gi hm ?_ ?_<;>intro _ hm
 ·exact AnO hm▸gE
 refine oB hm λ_ q13 hm=>Jj 0 (E:=Ai) (xs:=a0.Client.Logs) 50 λhle2=>gF (ER _ _ _) q13 (λp0 p=>⟨[(1,.pb 0 0),(5,.d (.i p)),(50,sl Ai a0.Client.Logs),(51,.d (.i (a0.Client.Logs.length:Int))),(52,.d (.i p0))],[(0,.box 0 [.d (.s a0.Client.Who),sl Ac a0.Client.Roots,sl Ai a0.Client.Logs,sl Ae a0.Client.Pool.L,.d (.i a0.Client.Cascade.Day),sl Ah a0.Client.Cascade.Levels,.d (.i a0.Client.View)] 110)],[],1⟩) λi2 s2 Jl bl2=>cR bl2 (λ_ _ q17 q16 bl2=> ?_) λe=> ?_
 ·refine gx Ai 3 q17<|oB q16 λ_ q18 q16=>gcH q18 FH<|oB q16 λ_ q19 q16=>gcH q19 FH<|oB q16 λ_ q20 q16=>gcH q20 PO<|gi q16 ?_ ?_<;>intro _ q16
  ·obtain rfl:=nT bl2 q16;exact AnO hm▸gE
  exact gT bl2 hle2 q16
 subst e;let y3:=s2;refine gi hm ?_ ?_<;>intro _ hm
 ·exact AnO hm▸gE
 exact AnO hm▸gE
def Jv (a0:g_api_Key)(k0:g_api_Head):Option (Bool×g_api_Head):=some ((a0.Log==k0.Log),k0)
theorem Td {a0 k0 r}(hm:Jv a0 k0=some r):Sp prog 199 [ag (Ai a0),.pb 0 0] [.box 0 [.d (.i k0.Log),.d (.i k0.Size),.d (.u k0.Root.1),.d (.u k0.Root.2),.d (.i k0.At),.d (.u k0.Sig.E),.d (.u k0.Sig.S)] 38] 1 (is (.d (.t r.1)) [.box 0 [.d (.i r.2.Log),.d (.i r.2.Size),.d (.u r.2.Root.1),.d (.u r.2.Root.2),.d (.i r.2.At),.d (.u r.2.Sig.E),.d (.u r.2.Sig.S)] 38] 1):=by
 refine sq ?_;intros;exact AnO hm▸gE
def Dq (a0:Int):Option Bool:=bnd (((decide (a0>=0))&&(decide (a0<=1099511627776)))) λx1=>some x1
theorem EJ {a0 r}(hm:Dq a0=some r):Sf prog 99 [.d (.i a0)] (.d (.t r)):=by
 refine sq ?_;intros;refine bE hm ?_;intro _ hm;exact AnO hm▸gE
def OC (a0:UInt64×UInt64)(i1:Int)(s1:(List UInt8)):Option ((List UInt8)):=Ab (idx [a0.1,a0.2] (i1:Int)) λx4=>Ab (Gi s1 x4 8) λx5=>some x5
def ED (a0:UInt64×UInt64):Option (List UInt8):=Ab (Ab (Di (OC a0) 2 0 ([]:List UInt8)) λx2=>some x2) λx1=>some x1
theorem K0 {a0 r}(hm:ED a0=some r):Sp prog 158 [ag (Ao a0)] [] 0 (is (.ow 0) [.row 0 1 _ eB r] 1):=by
 refine sq ?_;intros;unfold ED at hm;obtain⟨x1,q1,hm⟩:=Ag hm;refine oB q1 λ_ q2 q1=>U4 0 eB 3 1<|gF (EM _ 2 _) q2 (λp0 p=>⟨[(3,.ow 1),(6,.agg [.d (.u a0.1),.d (.u a0.2)]),(7,.d (.i p0)),(1,.pb 0 0)],[(0,.row 1 1 _ eB p),(1,.box 0 [.d (.u a0.1),.d (.u a0.2)] 34)],[],2⟩) λi1 s1 Jl bl1=>cM bl1 (2:Int) (λ_ q5 bl1=> ?_) λe=> ?_
 ·exact oB q5 λ_ q7 q5=>gidxV (k:=1) (ag:=false) (E:=eU) ([a0.1,a0.2]:List UInt64) (λ_=>rfl) (λ_=>q7)<|gD q5 V8 λ_ q8 q5=>gM bl1 lk q5
 subst e;obtain rfl:=AnO q1;exact AnO hm▸gE
def Bb (a1:Int):Option (List UInt8):=Ab (if(decide (a1<0))=true then none else some ()) λx1=>Ab (bnd ((w64 (a1-(w64 (0-((0:Nat):Int)))))) λx3=>if(decide (x3>0))=true then if 0<=x3/\x3*1<=140737488355328/\x3<=140737488355328 then some ([]:List UInt8)else none else some ([]:List UInt8)) λx2=>some x2
theorem Ka {m As w a1 r}(S:St m (As) w)(hm:Bb a1=some r):
  C0 Tryz.prog 318 #[.slice none 0 0,vI a1] w λv w'=> ∃(M:Mem),m<=M/\∃(rv0:Value) (rc0:List Value),St M ((row 1 rv0 rc0 r.length)::As) w'/\v=rv0/\Cl M rc0 r:=by
 unfold Bb at hm;have L0:=Mem.rfl' m;refine Rx (args:=[.slice none 0 0,vI a1]) Tryz.func318 rfl Tryz.ntmps318 (An5 rfl)<|AL<|Aw<|Gy (v:= .slice none 0 0) rfl<|AF<|nrm ?_;obtain⟨x1,q1,hm⟩:=Ag hm;have L1:=Mem.rfl' m;refine AL<|Mv [5,6,7] (λf' w'=> ∃(M1:Mem),m<=M1/\St M1 (As) w'/\Tw f' []) ?_ ?_
 ·refine AL<|Aw<|AT (v:=vI a1) rfl<|Ae9 (m:=a1) (n:=0) rfl rfl<|AF<|nrm<|J8 (t:=(decide (a1<0))) rfl (λhc1=> ?_) (λhc1=> ?_)
  ·replace q1:=ifT hc1 q1;cases q1
  replace q1:=ifF hc1 q1;refine F8<|nrm ?_;obtain rfl:=AnO q1;exact⟨Wj,m,L1,S,trivial⟩
 rintro f1 w1 ho ⟨m1,l1,S1,ha⟩;obtain⟨u1,rfl⟩:=No (N:=27) ho ha;replace L0:=Mem.tr L0 l1;clear S;obtain⟨x2,q2,hm⟩:=Ag hm;have L2:=Mem.rfl' m1;refine AL<|Mv [0,1,8,9,10,11,12,13,14,15,16,17,18,19,20,21,22,23,24,25] (λf' w'=> ∃(M2:Mem) (v1:Value) (c1:List Value),m1<=M2/\St M2 ((row 1 v1 c1 x2.length)::As) w'/\Cl M2 c1 x2/\Tw f' [(0,v1)]) ?_ ?_
 ·refine AL<|Aw<|AT (v:=vI a1) rfl<|AT (v:= .slice none 0 0) rfl<|O0 rfl Tryz.underlying96<|AT (v:= .slice none 0 0) rfl<|Uw (n:=0) rfl Tryz.underlying96<|QY (m:=0) (n:=((0:Nat):Int)) rfl rfl<|QY (m:=a1) (n:=(w64 (0-((0:Nat):Int)))) rfl rfl ?_;obtain⟨x3,q3,q2⟩:=Ahq q2;refine Gy (v:=vI x3) (Aos (λz=>vI z) q3.symm)<|AF<|nrm<|AL<|Aw<|AT (v:=vI x3) rfl<|AdE (m:=x3) (n:=0) rfl rfl<|AF<|nrm ?_;refine J8 (t:=(decide (x3>0))) rfl (λhc2=> ?_) (λhc2=> ?_)
  ·replace q2:=ifT hc2 q2;refine Aw<|AT (v:= .slice none 0 0) rfl<|AT (v:= .slice none 0 0) rfl<|O0 rfl Tryz.underlying96<|Afd rfl Tryz.underlying96 Tryz.sizeOf5 rfl<|AT (v:=vI x3) rfl ?_;obtain⟨q4,q2⟩:=A2 q2;refine Afg (bytes:=1) (sz:=1) (k:=x3) (ti:=Tryz.t5) S1 rfl rfl q4 Tryz.underlying96 Tryz.underlying3 Tryz.type5 rfl rfl rfl rfl ?_;intro v2 c2 w2 S2;replace S2:St _ ((row 1 v2 c2 x3.toNat)::As) _:=S2;clear S1;refine AT (v:= .slice none 0 0) rfl<|Uw (n:=0) rfl Tryz.underlying96<|Acq (i:=0) S2 rfl rfl Tryz.underlying96 Tryz.sizeOf5 rfl (j:=0) rfl (Int.le_refl 0) (AoL _) ?_;intro v3 S3;rw[show c2.take ((0:Int).toNat*1)=[]from by simp]at S3;have h2:Cl m1 [] ([]:List UInt8):=Cl.nil;replace S3:St _ ((row 1 v3 [] ([]:List UInt8).length)::As) _:=S3;clear S2;refine Gy (v:=v3) rfl<|AF<|nrm ?_;obtain rfl:=AnO q2;exact⟨Wj,m1,_,_,L2,S3,h2,⟨rfl,trivial⟩⟩
  replace q2:=ifF hc2 q2;refine F8<|nrm ?_;have S4:=St.rowNil S1 1;have h3:Cl m1 [] ([]:List UInt8):=Cl.nil;replace S4:St _ ((row 1 (.slice none 0 0) [] ([]:List UInt8).length)::As) _:=S4;clear S1;obtain rfl:=AnO q2;exact⟨Wj,m1,_,_,L2,S4,h3,⟨rfl,trivial⟩⟩
 rintro f2 w3 ho ⟨m2,v1,c1,l2,S5,h1,ha⟩;obtain⟨u2,rfl⟩:=No (N:=27) ho ha;replace L0:=Mem.tr L0 l2;clear S1;refine AL<|Aw<|AT (v:=v1) rfl<|Gy (v:=v1) rfl<|AF<|nrm<|J7<|UJ ?_;intro we hpd;replace S5:=St.pd S5 hpd;obtain rfl:=AnO hm;exact Aeo [_] rfl ⟨rfl,trivial⟩ ⟨_,L0,_,_,S5,rfl,h1⟩
theorem Kk {a1 r}(hm:Bb a1=some r):Sp prog 318 [.d (.v (.slice none 0 0)),.d (.i a1)] [] 0 (is (.ow 0) [.row 0 1 _ eB r] 1):=
 gnl call318 Br.b (λS=>Ka S hm)
def Ck (i1:Int)(x3:List UInt8)(s1:Int):Option (Int):=Ab (bnd ((w64 (s1+(x3.length:Int)))) λx5=>if(decide (x5<0))=true then none else some x5) λx4=>some x4
def Cj (i2:Int)(x9:List UInt8)(s2:(List UInt8)):Option ((List UInt8)):=Ab (app 1 s2 x9) λx10=>some x10
def Bp (a0:List (List UInt8)):Option (List UInt8):=Ab (Ab (FE Ck a0 0 0) λx2=>some x2) λx1=>Ab (Bb x1) λx6=>Ab (Ab (FE Cj a0 0 x6) λx8=>some x8) λx7=>some x7
theorem GC {a0 r}(hm:Bp a0=some r):Sp prog 255 [sl (eL eB) a0] [] 0 (is (.ow 0) [.row 0 1 _ eB r] 1):=by
 refine sq ?_;intros;unfold Bp at hm;obtain⟨x1,q1,hm⟩:=Ag hm;refine oB q1 λ_ q2 q1=>Jj 0 (E:=(eL eB)) (xs:=a0) 9 λhle1=>gF (E0 _ _ _) q2 (λp0 p=>⟨[(0,sl (eL eB) a0),(3,.d (.i p)),(9,sl (eL eB) a0),(10,.d (.i (a0.length:Int))),(11,.d (.i p0))],[],[],0⟩) λi1 s1 Jl bl1=>c0 bl1 (λ_ _ q6 q5 bl1=> ?_) λe=> ?_
 ·refine oB q5 λ_ q7 q5=>gx (eL eB) 1 q6<|bE q7 ?_;intro _ q7;refine gi q7 ?_ ?_<;>intro _ q7
  ·cases q7
  obtain rfl:=AnO q7;exact gM bl1 hle1 q5
 subst e;obtain rfl:=AnO q1;refine gD hm Kk λ_ q9 hm=> ?_;obtain⟨x7,q10,hm⟩:=Ag hm;refine oB q10 λ_ q11 q10=>Jj 2 (E:=(eL eB)) (xs:=a0) 25 λhle2=>gF (E0 _ _ _) q11 (λp0 p=>⟨[(6,.ow 0),(25,sl (eL eB) a0),(26,.d (.i (a0.length:Int))),(27,.d (.i p0))],[(0,.row 0 1 _ eB p)],[],1⟩) λi2 s2 Jl bl2=>c0 bl2 (λ_ _ q15 q14 bl2=> ?_) λe=> ?_
 ·exact gx (eL eB) 1 q15<|oB q14 λ_ q16 q14=>gp eB 1 q16<|gM bl2 hle2 q14
 subst e;obtain rfl:=AnO q10;exact AnO hm▸gE
def L9 (a0:ByteArray)(a1:List (List UInt8)):Option (List UInt8):=Ab (app 1 ([]:List UInt8) a0.data.toList) λx1=>Ab (Bp a1) λx2=>Ab (app 1 x1 x2) λx3=>some x3
theorem V5 {a0 a1 r}(hm:L9 a0 a1=some r):Sp prog 188 [.d (.s a0),sl (eL eB) a1] [] 0 (is (.ow 0) [.row 0 1 _ eB r] 1):=by
 refine sq ?_;intros;refine oB hm λ_ q1 hm=>gofS q1<|gD hm GC λ_ q2 hm=>oB hm λ_ q3 hm=>gp eB 1 q3 ?_;exact AnO hm▸gE
def Kw (a0:Int)(i1:Int)(s1:UInt8×UInt8×UInt8×UInt8×UInt8×UInt8×UInt8×UInt8):Option (UInt8×UInt8×UInt8×UInt8×UInt8×UInt8×UInt8×UInt8):=if(0:Int)<=(w64 (56-(w64 (8*(i1:Int)))))then Ab (idx [s1.1,s1.2.1,s1.2.2.1,s1.2.2.2.1,s1.2.2.2.2.1,s1.2.2.2.2.2.1,s1.2.2.2.2.2.2.1,s1.2.2.2.2.2.2.2] (i1:Int)) λx4=>bnd (if(i1:Int)=0 then(toB (A9 a0 ((w64 (56-(w64 (8*(i1:Int))))).toNat)))else s1.1) λx5=>bnd (if(i1:Int)=1 then(toB (A9 a0 ((w64 (56-(w64 (8*(i1:Int))))).toNat)))else s1.2.1) λx6=>bnd (if(i1:Int)=2 then(toB (A9 a0 ((w64 (56-(w64 (8*(i1:Int))))).toNat)))else s1.2.2.1) λx7=>bnd (if(i1:Int)=3 then(toB (A9 a0 ((w64 (56-(w64 (8*(i1:Int))))).toNat)))else s1.2.2.2.1) λx8=>bnd (if(i1:Int)=4 then(toB (A9 a0 ((w64 (56-(w64 (8*(i1:Int))))).toNat)))else s1.2.2.2.2.1) λx9=>bnd (if(i1:Int)=5 then(toB (A9 a0 ((w64 (56-(w64 (8*(i1:Int))))).toNat)))else s1.2.2.2.2.2.1) λx10=>bnd (if(i1:Int)=6 then(toB (A9 a0 ((w64 (56-(w64 (8*(i1:Int))))).toNat)))else s1.2.2.2.2.2.2.1) λx11=>bnd (if(i1:Int)=7 then(toB (A9 a0 ((w64 (56-(w64 (8*(i1:Int))))).toNat)))else s1.2.2.2.2.2.2.2) λx12=>some (x5,x6,x7,x8,x9,x10,x11,x12)else none
def DV (a0:Int):Option (List UInt8):=Ab (Ab (Di (Kw a0) 8 0 (0,0,0,0,0,0,0,0)) λx2=>some (x2.1,x2.2.1,x2.2.2.1,x2.2.2.2.1,x2.2.2.2.2.1,x2.2.2.2.2.2.1,x2.2.2.2.2.2.2.1,x2.2.2.2.2.2.2.2)) λx1=>some ([x1.1,x1.2.1,x1.2.2.1,x1.2.2.2.1,x1.2.2.2.2.1,x1.2.2.2.2.2.1,x1.2.2.2.2.2.2.1,x1.2.2.2.2.2.2.2]:List UInt8)
theorem I0 {a0 r}(hm:DV a0=some r):Sp prog 189 [.d (.i a0)] [] 0 (is (.ow 0) [.row 0 1 _ eB r] 1):=by
 refine sq ?_;intros;unfold DV at hm;obtain⟨x1,q1,hm⟩:=Ag hm;refine oB q1 λx2 q2 q1=>gF (EM _ 8 _) q2 (λp0 (p_0,p_1,p_2,p_3,p_4,p_5,p_6,p_7)=>⟨[(0,.d (.i a0)),(3,.pb 0 0),(5,.d (.i p0))],[(0,.box 0 [.d (.b p_0),.d (.b p_1),.d (.b p_2),.d (.b p_3),.d (.b p_4),.d (.b p_5),.d (.b p_6),.d (.b p_7)] 300)],[],1⟩) λi1 s1 Jl bl1=>cM bl1 (8:Int) (λ_ q5 bl1=> ?_) λe=> ?_
 ·unfold Kw at q5;obtain⟨q7,q5⟩:=A2 q5;refine gsh (r:= .i (A9 a0 ((w64 (56-(w64 (8*(i1:Int))))).toNat))) (λh=>q7)<|oB q5 λ_ q8 q5=>Sc (λ_=>q8)<|bE q5 ?_;intro _ q5;refine bE q5 ?_;intro _ q5;refine bE q5 ?_;intro _ q5;refine bE q5 ?_;intro _ q5;refine bE q5 ?_;intro _ q5;refine bE q5 ?_;intro _ q5;refine bE q5 ?_;intro _ q5;refine bE q5 ?_;intro _ q5;exact AkS D.b (toB (A9 a0 ((w64 (56-(w64 (8*(i1:Int))))).toNat))) q8<|gM bl1 lk q5
 subst e;obtain rfl:=AnO q1;let x1:=(x2.1,x2.2.1,x2.2.2.1,x2.2.2.2.1,x2.2.2.2.2.1,x2.2.2.2.2.2.1,x2.2.2.2.2.2.2.1,x2.2.2.2.2.2.2.2);refine gslA (k:=1) eB ([x1.1,x1.2.1,x1.2.2.1,x1.2.2.2.1,x1.2.2.2.2.1,x1.2.2.2.2.2.1,x1.2.2.2.2.2.2.1,x1.2.2.2.2.2.2.2]:List UInt8) (λ_=>rfl) ?_;exact AnO hm▸gE
def H8 (a0:g_api_Head):Option (List UInt8):=Ab (DV a0.Log) λx1=>Ab (DV a0.Size) λx2=>Ab (ED a0.Root) λx3=>Ab (DV a0.At) λx4=>Ab (L9 (⟨#[104,101,97,100]⟩:ByteArray) ([x1,x2,x3,x4]:List (List UInt8))) λx5=>some x5
theorem QK {a0 r}(hm:H8 a0=some r):Sp prog 102 [ag (Ae a0)] [] 0 (is (.ow 0) [.row 0 1 _ eB r] 1):=by
 refine sq ?_;intros;refine gD hm I0 λx1 q1 hm=>gD hm I0 λx2 q2 hm=>gD hm K0 λx3 q3 hm=>gD hm I0 λx4 q4 hm=>Yo (k:=1) (eL eB) ([x1,x2,x3,x4]:List (List UInt8)) (λ_=>rfl)<|gD hm V5 λ_ q5 hm=> ?_;exact AnO hm▸gE
def Gh (a0:g_api_Key)(a1:Int)(a2:Bool)(a3:List UInt8)(a4:g_api_Sig):Option Int:=Ab (Dq a1) λx1=>if((!x1)||(!a2))=true then some 1 else if(a1 !=a0.Log)=true then some 240 else Ab (EB a0.Key a3 a4) λx2=>some x2
theorem QJ {a0 a1 a2 a3 a4 r}(hm:Gh a0 a1 a2 a3 a4=some r):Sf prog 154 [ag (Ai a0),.d (.i a1),.d (.t a2),sl eB a3,ag (Jm a4)] (.d (.i r)):=by
 refine sq ?_;intros;refine gA hm EJ λ_ q1 hm=>gi hm ?_ ?_<;>intro _ hm
 ·exact AnO hm▸gE
 refine gi hm ?_ ?_<;>intro _ hm
 ·exact AnO hm▸gE
 refine gA hm Sm λ_ q2 hm=> ?_;exact AnO hm▸gE
def CN (a0:g_api_Key)(a1:g_api_Head):Option Int:=Ab (Dq a1.At) λx1=>Ab (H8 a1) λx2=>Ab (Gh a0 a1.Log ((x1&&(decide (a1.Size>=0)))&&(decide (a1.Size<=256))) x2 a1.Sig) λx3=>some x3
theorem Ta {a0 a1 r}(hm:CN a0 a1=some r):Sf prog 200 [ag (Ai a0),ag (Ae a1)] (.d (.i r)):=by
 refine sq ?_;intros;refine gA hm EJ λ_ q1 hm=>gD hm QK λ_ q2 hm=>gD hm QJ λ_ q3 hm=> ?_;exact AnO hm▸gE
def Bl (a0:List g_api_Key)(i1:Int)(s1:Int×Int×UInt64×UInt64×Int×UInt64×UInt64):Option ((Int×Int×UInt64×UInt64×Int×UInt64×UInt64)⊕(Int×g_api_Head)):=Ab (idx a0 (i1:Int)) λx3=>Ab (Jv x3 (⟨s1.1,s1.2.1,(s1.2.2.1,s1.2.2.2.1),s1.2.2.2.2.1,(⟨s1.2.2.2.2.2.1,s1.2.2.2.2.2.2⟩:g_api_Sig)⟩:g_api_Head)) λx4=>if x4.1=true then some (.inr ((i1:Int),x4.2))else some (.inl (x4.2.Log,x4.2.Size,x4.2.Root.1,x4.2.Root.2,x4.2.At,x4.2.Sig.E,x4.2.Sig.S))
def AZ (a0:List g_api_Key)(k0:g_api_Head):Option (Int×g_api_Head):=Ab (CE (Bl a0) a0.length 0 (k0.Log,k0.Size,k0.Root.1,k0.Root.2,k0.At,k0.Sig.E,k0.Sig.S)) λx1=>match x1 with| .inr r=>some r| .inl y1=>some ((-1),(⟨y1.1,y1.2.1,(y1.2.2.1,y1.2.2.2.1),y1.2.2.2.2.1,(⟨y1.2.2.2.2.2.1,y1.2.2.2.2.2.2⟩:g_api_Sig)⟩:g_api_Head))
theorem FF {a0 k0 r}(hm:AZ a0 k0=some r):Sp prog 139 [sl Ai a0,.fn (.func 199) [] [.pb 0 0]] [.box 0 [.d (.i k0.Log),.d (.i k0.Size),.d (.u k0.Root.1),.d (.u k0.Root.2),.d (.i k0.At),.d (.u k0.Sig.E),.d (.u k0.Sig.S)] 38] 1 (is (.d (.i r.1)) [.box 0 [.d (.i r.2.Log),.d (.i r.2.Size),.d (.u r.2.Root.1),.d (.u r.2.Root.2),.d (.i r.2.At),.d (.u r.2.Sig.E),.d (.u r.2.Sig.S)] 38] 1):=by
 refine sq ?_;intros;refine oB hm λ_ q1 hm=>Jj 0 (E:=Ai) (xs:=a0) 6 λhle1=>gF (EN _ _ _) q1 (λp0 (p_0,p_1,p_2,p_3,p_4,p_5,p_6)=>⟨[(0,sl Ai a0),(1,.fn (.func 199) [] [.pb 0 0]),(7,.d (.i (a0.length:Int))),(8,.d (.i p0))],[(0,.box 0 [.d (.i p_0),.d (.i p_1),.d (.u p_2),.d (.u p_3),.d (.i p_4),.d (.u p_5),.d (.u p_6)] 38)],[],1⟩) λi1 s1 Jl bl1=>cN bl1 (a0.length:Int) (λ_ q4 bl1=> ?_) λe=> ?_
 ·refine oB q4 λ_ q6 q4=>gx Ai 3 q6<|gD q4 Td λ_ q7 q4=>gi q4 ?_ ?_<;>intro _ q4
  ·obtain rfl:=nT bl1 q4;exact AnO hm▸gE
  exact gT bl1 hle1 q4
 subst e;let y1:=s1;exact AnO hm▸gE
def GP (a0:g_api_Head)(a1:List g_api_Key):Option Bool:=Ab (AZ a1 a0) λx1=>Ab (gu (decide (x1.1>=0)) (idx a1 x1.1)) λx2=>Ab (gu (decide (x1.1>=0)) (CN x2 x1.2)) λx3=>bnd (((decide (x1.1>=0))&&(x3==0))) λx4=>some x4
theorem Pq {a0 a1 r}(hm:GP a0 a1=some r):Sf prog 116 [ag (Ae a0),sl Ai a1] (.d (.t r)):=by
 refine sq ?_;intros;refine gD hm FF λ_ q1 hm=>oB hm λ_ q2 hm=>gxG Ai 3 q2<|oB hm λ_ q3 hm=>gcH q3 Ta<|bE hm ?_;intro _ hm;exact AnO hm▸gE
def FY (i1:Int)(x2:Int)(s1:Unit):Option ((Unit)⊕Int):=if(x2 !=0)=true then some (.inr x2)else some (.inl ())
def OF (a0:List Int):Option Int:=Ab (F6 FY a0 0 ()) λx1=>match x1 with| .inr r=>some r| .inl y1=>some 0
theorem Zj {a0 r}(hm:OF a0=some r):Sf prog 322 [sl eI a0] (.d (.i r)):=by
 refine sq ?_;intros;refine oB hm λ_ q1 hm=>Jj 0 (E:=eI) (xs:=a0) 6 λhle1=>gF (ER _ _ _) q1 (λp0 _=>⟨[(3,.d (.i 0)),(6,sl eI a0),(7,.d (.i (a0.length:Int))),(8,.d (.i p0))],[],[],0⟩) λi1 s1 Jl bl1=>cR bl1 (λ_ _ q5 q4 bl1=> ?_) λe=> ?_
 ·refine gx eI 1 q5<|gi q4 ?_ ?_<;>intro _ q4
  ·obtain rfl:=nT bl1 q4;exact AnO hm▸gE
  exact gT bl1 hle1 q4
 subst e;exact AnO hm▸gE
def Lq (a0:List Int):Option Int:=Ab (OF a0) λx1=>some x1
theorem Ze {a0 r}(hm:Lq a0=some r):Sf prog 267 [sl eI a0] (.d (.i r)):=by
 refine sq ?_;intros;refine gA hm Zj λ_ q1 hm=> ?_;exact AnO hm▸gE
def Ib (a0:Int):Option Bool:=some (a0 !=a0)
theorem N4 {a0 r}(hm:Ib a0=some r):Sf prog 265 [.d (.i a0)] (.d (.t r)):=by
 refine sq ?_;intros;exact AnO hm▸gE
def Dx (a0:Int)(a1:Int):Option Int:=Ab (Ib a0) λx1=>Ab (Ib a1) λx2=>if x1=true then if x2=true then some 0 else some (-1)else if x2=true then some 1 else if(decide (a0<a1))=true then some (-1)else if(decide (a0>a1))=true then some 1 else some 0
theorem Iw {a0 a1 r}(hm:Dx a0 a1=some r):Sf prog 268 [.d (.i a0),.d (.i a1)] (.d (.i r)):=by
 refine sq ?_;intros;refine gA hm N4 λ_ q1 hm=>gA hm N4 λ_ q2 hm=>gi hm ?_ ?_<;>intro _ hm
 ·refine gi hm ?_ ?_<;>intro _ hm
  ·exact AnO hm▸gE
  exact AnO hm▸gE
 refine gi hm ?_ ?_<;>intro _ hm
 ·exact AnO hm▸gE
 refine gi hm ?_ ?_<;>intro _ hm
 ·exact AnO hm▸gE
 refine gi hm ?_ ?_<;>intro _ hm
 ·exact AnO hm▸gE
 exact AnO hm▸gE
def Fv (a0:UInt64):Option Bool:=bnd (((a0.toNat:Int) !=(a0.toNat:Int))) λx1=>some x1
theorem K3 {a0 r}(hm:Fv a0=some r):Sf prog 365 [.d (.u a0)] (.d (.t r)):=by
 refine sq ?_;intros;refine bE hm ?_;intro _ hm;exact AnO hm▸gE
def Ej (a0:UInt64)(a1:UInt64):Option Int:=Ab (Fv a0) λx1=>Ab (Fv a1) λx2=>if x1=true then if x2=true then some 0 else some (-1)else if x2=true then some 1 else if(decide ((a0.toNat:Int)<(a1.toNat:Int)))=true then some (-1)else if(decide ((a0.toNat:Int)>(a1.toNat:Int)))=true then some 1 else some 0
theorem Pb {a0 a1 r}(hm:Ej a0 a1=some r):Sf prog 323 [.d (.u a0),.d (.u a1)] (.d (.i r)):=by
 refine sq ?_;intros;refine gA hm K3 λ_ q1 hm=>gA hm K3 λ_ q2 hm=>gi hm ?_ ?_<;>intro _ hm
 ·refine gi hm ?_ ?_<;>intro _ hm
  ·exact AnO hm▸gE
  exact AnO hm▸gE
 refine gi hm ?_ ?_<;>intro _ hm
 ·exact AnO hm▸gE
 refine gi hm ?_ ?_<;>intro _ hm
 ·exact AnO hm▸gE
 refine gi hm ?_ ?_<;>intro _ hm
 ·exact AnO hm▸gE
 exact AnO hm▸gE
def Bu (a0:List UInt64)(a1:List UInt64)(i1:Int)(s1:Unit):Option ((Unit)⊕Int):=Ab (idx a0 (i1:Int)) λx3=>if(decide ((i1:Int)>=(a1.length:Int)))=true then some (.inr 1)else Ab (idx a1 (i1:Int)) λx4=>Ab (Ej x3 x4) λx5=>if(x5 !=0)=true then some (.inr x5)else some (.inl ())
def BP (a0:List UInt64)(a1:List UInt64):Option Int:=Ab (CE (Bu a0 a1) a0.length 0 ()) λx1=>match x1 with| .inr r=>some r| .inl y1=>if(decide ((a0.length:Int)<(a1.length:Int)))=true then some (-1)else some 0
theorem IW {a0 a1 r}(hm:BP a0 a1=some r):Sf prog 269 [sl eU a0,sl eU a1] (.d (.i r)):=by
 refine sq ?_;intros;refine oB hm λ_ q1 hm=>Jj 0 (E:=eU) (xs:=a0) 9 λhle1=>gF (EN _ _ _) q1 (λp0 _=>⟨[(0,sl eU a0),(1,sl eU a1),(9,sl eU a0),(10,.d (.i (a0.length:Int))),(11,.d (.i p0))],[],[],0⟩) λi1 s1 Jl bl1=>cN bl1 (a0.length:Int) (λ_ q4 bl1=> ?_) λe=> ?_
 ·refine oB q4 λ_ q6 q4=>gx eU 1 q6<|gi q4 ?_ ?_<;>intro _ q4
  ·obtain rfl:=nT bl1 q4;exact AnO hm▸gE
  refine oB q4 λ_ q7 q4=>gx eU 1 q7<|gA q4 Pb λ_ q8 q4=>gi q4 ?_ ?_<;>intro _ q4
  ·obtain rfl:=nT bl1 q4;exact AnO hm▸gE
  exact gT bl1 hle1 q4
 subst e;refine gi hm ?_ ?_<;>intro _ hm
 ·exact AnO hm▸gE
 exact AnO hm▸gE
def DW (a0:g_api_Head)(a1:g_api_Head):Option Int:=Ab (Dx a0.Log a1.Log) λx1=>Ab (Dx a0.Size a1.Size) λx2=>Ab (BP ([a0.Root.1,a0.Root.2]:List UInt64) ([a1.Root.1,a1.Root.2]:List UInt64)) λx3=>Ab (Dx a0.At a1.At) λx4=>Ab (Lq ([x1,x2,x3,x4]:List Int)) λx5=>some x5
theorem N1 {a0 a1 r}(hm:DW a0 a1=some r):Sf prog 201 [ag (Ae a0),ag (Ae a1)] (.d (.i r)):=by
 refine sq ?_;intros;refine Am4 2 [.i a0.Log,.i a0.Size,.u a0.Root.1,.u a0.Root.2,.i a0.At,.u a0.Sig.E,.u a0.Sig.S]<|Am4 3 [.i a1.Log,.i a1.Size,.u a1.Root.1,.u a1.Root.2,.i a1.At,.u a1.Sig.E,.u a1.Sig.S]<|gA hm Iw λx1 q1 hm=>gA hm Iw λx2 q2 hm=>gslM (k:=1) (E:=eU) ([a0.Root.1,a0.Root.2]:List UInt64) (λ_=>rfl)<|gslM (k:=1) (E:=eU) ([a1.Root.1,a1.Root.2]:List UInt64) (λ_=>rfl)<|gA hm IW λx3 q3 hm=>gA hm Iw λx4 q4 hm=>gq eI 1 [x1,x2,x3,x4] ?_;refine gA hm Ze λ_ q5 hm=> ?_;exact AnO hm▸gE
def Fc (a0:g_api_Head)(a1:g_api_Head):Option Int:=Ab (DW a0 a1) λx1=>some x1
theorem Lz {a0 a1 r}(hm:Fc a0 a1=some r):Sf prog 118 [ag (Ae a0),ag (Ae a1)] (.d (.i r)):=by
 refine sq ?_;intros;refine gA hm N1 λ_ q1 hm=> ?_;exact AnO hm▸gE
def CU (a0:g_api_Pool)(i1:Int)(s1:Unit):Option ((Unit)⊕Bool):=Ab (gu (decide ((i1:Int)>0)) (idx a0.L (w64 ((i1:Int)-1)))) λx3=>Ab (gu (decide ((i1:Int)>0)) (idx a0.L (i1:Int))) λx4=>Ab (gu (decide ((i1:Int)>0)) (Fc x3 x4)) λx5=>if((decide ((i1:Int)>0))&&(decide (x5>=0)))=true then some (.inr false)else some (.inl ())
def Hb (a0:g_api_Pool):Option Bool:=Ab (CE (CU a0) a0.L.length 0 ()) λx1=>match x1 with| .inr r=>some r| .inl y1=>some true
theorem Te {a0 r}(hm:Hb a0=some r):Sf prog 198 [ag (Fh a0)] (.d (.t r)):=by
 refine sq ?_;intros;refine oB hm λ_ q1 hm=>Jj 0 (E:=Ae) (xs:=a0.L) 5 λhle1=>gF (EN _ _ _) q1 (λp0 _=>⟨[(1,.pb 0 0),(6,.d (.i (a0.L.length:Int))),(7,.d (.i p0))],[(0,.box 0 [sl Ae a0.L] 26)],[],1⟩) λi1 s1 Jl bl1=>cN bl1 (a0.L.length:Int) (λ_ q4 bl1=> ?_) λe=> ?_
 ·refine oB q4 λ_ q6 q4=>gxG Ae 7 q6<|oB q4 λ_ q7 q4=>gxG Ae 7 q7<|oB q4 λ_ q8 q4=>gcH q8 Lz<|gi q4 ?_ ?_<;>intro _ q4
  ·obtain rfl:=nT bl1 q4;exact AnO hm▸gE
  exact gT bl1 hle1 q4
 subst e;exact AnO hm▸gE
def Gj (a1:List g_api_Key)(i1:Int)(x4:g_api_Head)(s1:Unit):Option ((Unit)⊕Int):=Ab (GP x4 a1) λx5=>if(!x5)=true then some (.inr 40)else some (.inl ())
def GS (a0:g_api_Pool)(a1:List g_api_Key):Option Int:=bnd ((decide ((a0.L.length:Int)>1024))) λx1=>if x1=true then some 2 else Ab (Hb a0) λx2=>if(!x2)=true then some 1 else Ab (F6 (Gj a1) a0.L 0 ()) λx3=>match x3 with| .inr r=>some r| .inl y1=>some 0
theorem Ps {a0 a1 r}(hm:GS a0 a1=some r):Sf prog 115 [ag (Fh a0),sl Ai a1] (.d (.i r)):=by
 refine sq ?_;intros;refine bE hm ?_;intro _ hm;refine gi hm ?_ ?_<;>intro _ hm
 ·exact AnO hm▸gE
 refine gA hm Te λ_ q2 hm=>gi hm ?_ ?_<;>intro _ hm
 ·exact AnO hm▸gE
 refine oB hm λ_ q3 hm=>Jj 1 (E:=Ae) (xs:=a0.L) 17 λhle1=>gF (ER _ _ _) q3 (λp0 _=>⟨[(1,sl Ai a1),(17,sl Ae a0.L),(18,.d (.i (a0.L.length:Int))),(19,.d (.i p0)),(2,.pb 0 0)],[(0,.box 0 [sl Ae a0.L] 26)],[],1⟩) λi1 s1 Jl bl1=>cR bl1 (λ_ _ q7 q6 bl1=> ?_) λe=> ?_
 ·refine gx Ae 7 q7<|gA q6 Pq λ_ q8 q6=>gi q6 ?_ ?_<;>intro _ q6
  ·obtain rfl:=nT bl1 q6;exact AnO hm▸gE
  exact gT bl1 hle1 q6
 subst e;exact AnO hm▸gE
def BN (a0:Am):Option Int:=Ab (GS a0.Client.Pool a0.Client.Logs) λx1=>some x1
theorem Pc {a0 r}(hm:BN a0=some r):Sf prog 50 [ag (B3 a0)] (.d (.i r)):=by
 refine sq ?_;intros;refine gA hm Ps λ_ q1 hm=> ?_;exact AnO hm▸gE
def IU (a0:Int):Option Bool:=bnd (((decide ((0:Int)<=a0))&&(decide (a0<=1099511627776)))) λx1=>some x1
theorem Pt {a0 r}(hm:IU a0=some r):Sf prog 190 [.d (.i a0)] (.d (.t r)):=by
 refine sq ?_;intros;refine bE hm ?_;intro _ hm;exact AnO hm▸gE
def Ew (a0:Int):Option Bool:=Ab (IU a0) λx1=>bnd ((x1&&(decide (a0<68719476736)))) λx2=>some x2
theorem Oc {a0 r}(hm:Ew a0=some r):Sf prog 104 [.d (.i a0)] (.d (.t r)):=by
 refine sq ?_;intros;refine gA hm Pt λ_ q1 hm=>bE hm ?_;intro _ hm;exact AnO hm▸gE
def GX (a0:Int)(a1:Int):Option Int:=some (w64 ((w64 (16*a0))+a1))
theorem Pu {a0 a1 r}(hm:GX a0 a1=some r):Sf prog 106 [.d (.i a0),.d (.i a1)] (.d (.i r)):=by
 refine sq ?_;intros;exact AnO hm▸gE
def Gb (a0:Int):Option Bool:=bnd (((decide ((0:Int)<=a0))&&(decide (a0<=1099511627776)))) λx1=>some x1
theorem JC {a0 r}(hm:Gb a0=some r):Sf prog 159 [.d (.i a0)] (.d (.t r)):=by
 refine sq ?_;intros;refine bE hm ?_;intro _ hm;exact AnO hm▸gE
def Dl (a0:g_api_Sieve):Option Int:=Ab (if(decide (a0.Bits<8))=true then some (decide (a0.Bits<8))else if(decide (a0.Bits>8192))=true then some (decide (a0.Bits>8192))else some ((KV a0.Bits 7) !=0)) λx1=>if x1=true then some 1 else Ab (if(decide (a0.Hashes<1))=true then some (decide (a0.Hashes<1))else if(decide (a0.Hashes>8))=true then some (decide (a0.Hashes>8))else Ab (Gb a0.Salt) λx3=>if(!x3)=true then some (!x3)else bnd (((a0.B.length:Int) !=(A9 a0.Bits 3))) λx4=>some x4) λx2=>if x2=true then some 1 else some 0
theorem Qz {a0 r}(hm:Dl a0=some r):Sf prog 107 [ag (Ah a0)] (.d (.i r)):=by
 refine sq λD0 As u4 m0 hd=>oB hm λx1 q1 hm=>gj (λ(_:Unit)=>⟨[(1,.pb 0 0),(3,.d (.t x1))],[(0,.box 0 [.d (.i a0.Bits),.d (.i a0.Hashes),.d (.i a0.Salt),sl eB a0.B] 98)],[],1⟩) (λ_=>True) (λJp bk1=> ?_) λ_ _=> ?_
 ·refine gi q1 ?_ ?_<;>intro _ q1
  ·obtain rfl:=AnO q1;exact gb bk1 hd () trivial
  refine gi q1 ?_ ?_<;>intro _ q1
  ·obtain rfl:=AnO q1;exact gb bk1 hd () trivial
  obtain rfl:=AnO q1;exact gb bk1 hd () trivial
 refine gi hm ?_ ?_<;>intro _ hm
 ·exact AnO hm▸gE
 refine oB hm λx2 q2 hm=>gj (λ(_:Unit)=>⟨[(14,.d (.t x2)),(1,.pb 0 0)],[(0,.box 0 [.d (.i a0.Bits),.d (.i a0.Hashes),.d (.i a0.Salt),sl eB a0.B] 98)],[],1⟩) (λ_=>True) (λJp bk2=> ?_) λ_ _=> ?_
 ·refine gi q2 ?_ ?_<;>intro _ q2
  ·obtain rfl:=AnO q2;exact gb bk2 hd () trivial
  refine gi q2 ?_ ?_<;>intro _ q2
  ·obtain rfl:=AnO q2;exact gb bk2 hd () trivial
  refine gA q2 JC λ_ q3 q2=>gi q2 ?_ ?_<;>intro _ q2
  ·obtain rfl:=AnO q2;exact gb bk2 hd () trivial
  refine bE q2 ?_;intro _ q2;obtain rfl:=AnO q2;exact gb bk2 hd () trivial
 refine gi hm ?_ ?_<;>intro _ hm
 ·exact AnO hm▸gE
 exact AnO hm▸gE
def CD (a0:g_api_Cascade)(i1:Int)(s1:Unit):Option ((Unit)⊕Int):=Ab (idx a0.Levels (i1:Int)) λx4=>Ab (gu (!(x4.Hashes !=3)) (GX a0.Day (i1:Int))) λx5=>Ab (gu (!((x4.Hashes !=3)||(x4.Salt !=x5))) (Dl x4)) λx6=>if(((x4.Hashes !=3)||(x4.Salt !=x5))||(x6 !=0))=true then some (.inr 1)else some (.inl ())
def B2 (a0:g_api_Cascade):Option Int:=if(decide ((a0.Levels.length:Int)>16))=true then some 2 else Ab (Ew a0.Day) λx1=>if(!x1)=true then some 1 else Ab (CE (CD a0) a0.Levels.length 0 ()) λx2=>match x2 with| .inr r=>some r| .inl y1=>some 0
theorem Kh {a0 r}(hm:B2 a0=some r):Sf prog 34 [ag (B5 a0)] (.d (.i r)):=by
 refine sq ?_;intros;refine gi hm ?_ ?_<;>intro _ hm
 ·exact AnO hm▸gE
 refine gA hm Oc λ_ q1 hm=>gi hm ?_ ?_<;>intro _ hm
 ·exact AnO hm▸gE
 refine oB hm λ_ q2 hm=>Jj 0 (E:=Ah) (xs:=a0.Levels) 14 λhle1=>gF (EN _ _ _) q2 (λp0 _=>⟨[(1,.pb 0 0),(14,sl Ah a0.Levels),(15,.d (.i (a0.Levels.length:Int))),(16,.d (.i p0))],[(0,.box 0 [.d (.i a0.Day),sl Ah a0.Levels] 29)],[],1⟩) λi1 s1 Jl bl1=>cN bl1 (a0.Levels.length:Int) (λ_ q5 bl1=> ?_) λe=> ?_
 ·refine oB q5 λ_ q7 q5=>gx Ah 4 q7<|oB q5 λ_ q8 q5=>gcH q8 Pu<|oB q5 λ_ q9 q5=>gcH q9 Qz<|gi q5 ?_ ?_<;>intro _ q5
  ·obtain rfl:=nT bl1 q5;exact AnO hm▸gE
  exact gT bl1 hle1 q5
 subst e;exact AnO hm▸gE
def Cc (a0:Am):Option Int:=Ab (B2 a0.Client.Cascade) λx1=>some x1
theorem PT {a0 r}(hm:Cc a0=some r):Sf prog 51 [ag (B3 a0)] (.d (.i r)):=by
 refine sq ?_;intros;refine gA hm Kh λ_ q1 hm=> ?_;exact AnO hm▸gE
def AE (z0:Am)(i1:Int)(s1:Unit):Option ((Unit)⊕Int):=if i1=0 then Ab (Cb z0) λx3=>if(x3 !=0)=true then some (.inr x3)else some (.inl ())else if i1=1 then Ab (BN z0) λx4=>if(x4 !=0)=true then some (.inr x4)else some (.inl ())else Ab (Cc z0) λx5=>if(x5 !=0)=true then some (.inr x5)else some (.inl ())
def Dc (z0:Am):Option Int:=Ab (CE (AE z0) 3 0 ()) λx1=>match x1 with| .inr r=>some r| .inl y1=>some 0
theorem LO {z0 r}(hm:Dc z0=some r):Sp prog 42 [.bs 0 0 3 3] [.box 0 [.d (.cl 49 (B3 z0)),.d (.cl 50 (B3 z0)),.d (.cl 51 (B3 z0))] 106] 1 (is (.d (.i r)) [] 1):=by
 refine sq ?_;intros;refine oB hm λ_ q1 hm=>gF (EN _ 3 _) q1 (λp0 _=>⟨[(6,.bs 0 0 3 3),(7,.d (.i 3)),(8,.d (.i p0))],[(0,.box 0 [.d (.cl 49 (B3 z0)),.d (.cl 50 (B3 z0)),.d (.cl 51 (B3 z0))] 106)],[],1⟩) λi1 s1 Jl bl1=>cN bl1 (3:Int) (λ_ q4 bl1=> ?_) λe=> ?_
 ·obtain rfl|rfl|rfl:i1=0\/i1=1\/i1=2:=by have h:=bl1.1.1; change i1<3 at h; omega
  ·refine gA q4 PQ λ_ q6 q4=>gi q4 ?_ ?_<;>intro _ q4
   ·obtain rfl:=nT bl1 q4;exact AnO hm▸gE
   exact gT bl1 lk q4
  ·refine gA q4 Pc λ_ q7 q4=>gi q4 ?_ ?_<;>intro _ q4
   ·obtain rfl:=nT bl1 q4;exact AnO hm▸gE
   exact gT bl1 lk q4
  refine gA q4 PT λ_ q8 q4=>gi q4 ?_ ?_<;>intro _ q4
  ·obtain rfl:=nT bl1 q4;exact AnO hm▸gE
  exact gT bl1 lk q4
 subst e;exact AnO hm▸gE
def m_client_Check (a0:g_api_Client):Option Int:=Ab (Dc (⟨a0⟩:Am)) λx1=>some x1
theorem E9 {a0 r}(hm:m_client_Check a0=some r):Sf prog 20 [ag (A0 a0)] (.d (.i r)):=by
 refine sq ?_;intros;refine gfs<|gD hm LO λ_ q1 hm=> ?_;exact AnO hm▸gE
def BQ (a0:List g_api_Key):Option (List g_api_Key):=Ab (app 24 ([]:List g_api_Key) a0) λx1=>some x1
theorem IZ {a0 r}(hm:BQ a0=some r):Sp prog 39 [sl Ai a0] [] 0 (is (.ow 0) [.row 0 3 _ Ai r] 1):=by
 refine sq ?_;intros;unfold BQ at hm;refine gnq Ai a0 (λhe1=> ?_) ?_
 ·rw[he1]at hm;replace hm:(some ([]:List g_api_Key))=some _:=hm;refine Tr Ai 2 3 ?_;exact AnO hm▸gE
 refine Sa (k:=3) Ai ([]:List g_api_Key) (λ_=>rfl)<|oB hm λ_ q1 hm=>gp Ai 3 q1 ?_;exact AnO hm▸gE
def F0 (a0:ByteArray)(a1:List g_api_Cert)(a2:List g_api_Key)(a3:Int):Option (g_api_Client×Int):=Ab (A4 a1) λx1=>Ab (BQ a2) λx2=>Ab (m_client_Check (⟨a0,x1,x2,(⟨[]⟩:g_api_Pool),(⟨0,[]⟩:g_api_Cascade),a3⟩:g_api_Client)) λx3=>if(x3 !=0)=true then some ((⟨ByteArray.empty,[],[],(⟨[]⟩:g_api_Pool),(⟨0,[]⟩:g_api_Cascade),0⟩:g_api_Client),x3)else some ((⟨a0,x1,x2,(⟨[]⟩:g_api_Pool),(⟨0,[]⟩:g_api_Cascade),a3⟩:g_api_Client),x3)
theorem N9 {a0 a1 a2 a3 r}(hm:F0 a0 a1 a2 a3=some r):Sf prog 13 [.d (.s a0),sl Ac a1,sl Ai a2,.d (.i a3)] (.tup [ag (A0 r.1),.d (.i r.2)]):=by
 refine sq ?_;intros;refine gD hm Eb λ_ q1 hm=>gD hm IZ λ_ q2 hm=>gD hm E9 λ_ q3 hm=>gi hm ?_ ?_<;>intro _ hm
 ·exact AnO hm▸gE
 exact AnO hm▸gE
def AO (a0:List g_api_Head)(a1:Int)(a2:List g_api_Head):Option (List g_api_Head):=if(0:Int)<=a1/\a1<=(a0.length:Int)then if((a2.length:Int)==0)=true then some a0 else if(a1==(a0.length:Int))=true then Ab (app 56 a0 a2) λx1=>some x1 else Ab (app 56 a0 a2) λ_=>some (a0.take a1.toNat++a2++a0.drop a1.toNat)else none
theorem HA {m As w a0 a0v0 a0c0 a1 a2}{a2v0:Value}{r}(S:St m ((row 7 a0v0 a0c0 a0.length)::As) w)(a0h0:Cl m a0c0 a0)(a2h0:SlR m a2v0 a2)(hm:AO a0 a1 a2=some r):
  C0 Tryz.prog 119 #[a0v0,vI a1,a2v0] w λv w'=> ∃(M:Mem),m<=M/\∃(rv0:Value) (rc0:List Value),St M ((row 7 rv0 rc0 r.length)::As) w'/\v=rv0/\Cl M rc0 r:=by
 unfold AO at hm;have L0:=Mem.rfl' m;refine Rx (args:=[a0v0,vI a1,a2v0]) Tryz.func119 rfl Tryz.ntmps119 (An5 rfl)<|AL<|Aw<|Gy (v:= .slice none 0 0) rfl<|AF<|nrm<|AL<|Aw<|AT (v:=a0v0) rfl ?_;refine AT (v:=vI a1) rfl ?_;obtain⟨⟨q1,q2⟩,hm⟩:=A2 hm;refine s_cutX (i:=0) S rfl rfl Tryz.underlying24 Tryz.sizeOf38 rfl q1 q2 ?_;intro v1;refine AF<|nrm<|AL<|Aw<|AT (v:=a2v0) rfl<|Zx (xs:=a2) rfl a2h0 Tryz.underlying24<|Gy (v:=vI (a2.length:Int)) rfl<|AF<|nrm ?_;refine AL<|AL<|Aw<|AT (v:=vI (a2.length:Int)) rfl<|Aim (m:=(a2.length:Int)) (n:=0) rfl rfl<|AF<|nrm<|J8 (t:=((a2.length:Int)==0)) rfl (λhc1=> ?_) (λhc1=> ?_)
 ·replace hm:=ifT hc1 hm;refine AL<|Aw<|AT (v:=a0v0) rfl<|Gy (v:=a0v0) rfl<|AF<|nrm<|J7<|thR<|UJ ?_;intro we hpd;replace S:=St.pd S hpd;obtain rfl:=AnO hm;exact Aeo [_] rfl ⟨rfl,trivial⟩ ⟨_,L0,_,_,S,rfl,a0h0⟩
 replace hm:=ifF hc1 hm;refine F8<|nrm<|AL<|Aw<|AT (v:=a0v0) rfl<|Akr (i:=0) S rfl rfl Tryz.underlying24<|Gy (v:=vI (a0.length:Int)) rfl<|AF<|nrm ?_;refine AL<|AL<|Aw<|AT (v:=vI a1) rfl<|AT (v:=vI (a0.length:Int)) rfl<|Aim (m:=a1) (n:=(a0.length:Int)) rfl rfl<|AF<|nrm<|J8 (t:=(a1==(a0.length:Int))) rfl (λhc2=> ?_) (λhc2=> ?_)
 ·replace hm:=ifT hc2 hm;refine AL<|Aw<|AT (v:=a0v0) rfl<|AT (v:=a2v0) rfl ?_;obtain⟨x1,q3,hm⟩:=Ag hm;refine Al6 (i:=0) (zs:=x1) (bytes:=56) (ti:=Tryz.t38) S rfl rfl a0h0 rfl rfl a2h0 q3 Tryz.underlying24 Tryz.type38 rfl rfl rfl rfl ?_;intro v2 c1 w1 S1 h1;replace S1:St _ ((row 7 v2 c1 x1.length)::As) _:=S1;clear S;refine Gy (v:=v2) rfl<|AF<|nrm<|J7<|thR<|UJ ?_;intro we hpd;replace S1:=St.pd S1 hpd;obtain rfl:=AnO hm;exact Aeo [_] rfl ⟨rfl,trivial⟩ ⟨_,L0,_,_,S1,rfl,h1⟩
 replace hm:=ifF hc2 hm;obtain⟨xz,q3,hm⟩:=Ag hm;obtain⟨⟨qb,q63⟩,_⟩:=A2 q3;have e0:=AnO hm;clear hm q3;obtain⟨i,rfl⟩: ∃i:Nat,a1=(i:Int):=⟨a1.toNat,by omega⟩;rw[AoY]at e0;have hin:i<a0.length:=by
  have:((i:Int)==(a0.length:Int))=false:=hc2;have:=ne_of_beq_false this;omega
 have hm0:0<a2.length:=by
  have:=ne_of_beq_false hc1;omega
 obtain⟨b,cap,l,e,fr,rfl,hc,ht,hl,hnc,hcm,hfr,hf2,S1⟩:=S.rowBlk (by omega);clear S;have hfr0:fr.1=fr.2:=hf2.resolve_right (by decide);obtain⟨ds,hs2,hr2⟩:=a2h0;have hs2':=hs2;obtain⟨hdl,hd63,⟨hz,_⟩|⟨b2,off2,cap2,l2,e2,fr2,rfl,hcap2,hb2,hget2⟩⟩:=hs2
 ·omega
 replace hdl:ds.length=a2.length*7:=hdl;have him:i+a2.length<=a0.length+a2.length:=Nat.add_le_add_right (Nat.le_of_lt hin) _;have hrl:r.length=a0.length+a2.length:=by rw[<-e0]; simp only[AnY,Aod,AoF]; omega
 have hcl:a0c0.length=i*7+(a0.length-i)*7:=by rw[hc]; omega
 have hone0:=a0h0.one;have hone2:=hr2.one;have hrep:Cl m (a0c0.take (i*7)++ds++a0c0.drop (i*7)) r:=by rw[<-e0]; exact((a0h0.take i).append hr2).append (a0h0.drop i)
 have hls:l.toList.length=cap*7:=by rw[Array.length_toList]; exact hl
 have hes:(l.toList.drop (i*7)).take ((a0.length-i)*7)=a0c0.drop (i*7):=by
  rw[<-ht,List.drop_take]; congr 1; omega
 have hdr:(a0c0.drop (i*7)).length=(a0.length-i)*7:=by rw[AoF,hcl]; omega
 have htk:l.toList.take (i*7)=a0c0.take (i*7):=by rw[<-ht,List.take_take]; congr 1; omega
 refine F8<|nrm<|AL<|ws<|AT (v:=vI (a0.length:Int)) rfl<|AT (v:=vI (a2.length:Int)) rfl<|Uy (m:=(a0.length:Int)) (n:=(a2.length:Int)) rfl rfl<|AlU (Aos vI (OX (a:=a0.length) (b:=a2.length) q63))<|AT (v:= .slice (some ⟨b,0,none⟩) a0.length cap) rfl<|s_cap rfl underlying24<|AdE (m:=((a0.length+a2.length:Nat):Int)) (n:=(cap:Int)) rfl rfl<|AF<|nrm<|J8 (t:=decide (((a0.length+a2.length:Nat):Int)>(cap:Int))) rfl (λhc3=> ?_) (λhc3=> ?_)
 ·have hc3:cap<a0.length+a2.length:=by have:=AoN hc3; omega
  refine ws<|AT (v:= .slice (some ⟨b,0,none⟩) a0.length cap) rfl<|AT (v:=vI (i:Int)) rfl<|Akp (b:=b) (o:=0) (n:=a0.length) (cap:=cap) (j:=i) rfl rfl underlying24 sizeOf38 (by omega) (by omega)<|AT (v:=vI (a0.length:Int)) rfl<|AT (v:=vI (a2.length:Int)) rfl<|Uy (m:=(a0.length:Int)) (n:=(a2.length:Int)) rfl rfl<|AlU (Aos vI (OX (a:=a0.length) (b:=a2.length) q63))<|AT (v:=vI (i:Int)) rfl<|QY (m:=((a0.length+a2.length:Nat):Int)) (n:=(i:Int)) rfl rfl<|AlU (Aos vI (AhY (a:=a0.length+a2.length) (b:=i) q63 (AoZ (Nat.le_add_right i a2.length) him)))<|s_appZ (sz:=7) (bytes:=56) (i:=i) (k:=a0.length+a2.length-i) (ti:=Tryz.t38) S1 rfl rfl (by omega) (by omega) (by omega) (by omega) (by omega) underlying24 underlying3 type38 rfl rfl rfl rfl (by decide) λnb c2 w3 L hg1 hg2 hL hLt S3=> ?_;rw[show i+(a0.length+a2.length-i)=a0.length+a2.length from by omega]at hg1⊢;have hLs:L.toList.length=c2*7:=by rw[Array.length_toList]; exact hL
  refine Gy (v:= .slice (some ⟨nb,0,none⟩) (a0.length+a2.length) c2) rfl<|AF<|nrm<|ws<|AT (v:= .slice (some ⟨nb,0,none⟩) (a0.length+a2.length) c2) rfl<|AT (v:=vI (i:Int)) rfl<|Ux (b:=nb) (o:=0) (n:=a0.length+a2.length) (cap:=c2) (j:=i) rfl rfl underlying24 sizeOf38 (by omega) (by omega) (by omega)<|AT (v:= .slice (some ⟨b2,off2,none⟩) a2.length cap2) rfl<|Acr (i:=0) (sz:=7) (k:=a2.length) (sl:=a2.length) (ds:=ds) S3 rfl rfl rfl underlying24 sizeOf38 (LU _) (by show min _ _=_; omega) (En S3 hs2' _) hone2 (by rw[hdl,hL]; omega) (by simp[AhP]) λw4 S4=> ?_;rw[List.set_cons_zero,AoA,hdl]at S4;refine AF<|nrm ?_;have hb4:=S4.blk (i:=1) rfl;have HM:KM [(46,fv (.slice (some ⟨nb,0,none⟩) (a0.length+a2.length) c2)),(47,fv (vI (i:Int))),(48,fv (vI (a2.length:Int))),(49,fv (vI ((i+a2.length:Nat):Int))),(50,fv (.slice (some ⟨nb,0+(i+a2.length)*7,none⟩) (a0.length+a2.length-(i+a2.length)) (c2-(i+a2.length)))),(51,fv (.slice (some ⟨b,0,none⟩) a0.length cap)),(52,fv (vI (i:Int))),(53,fv (.slice (some ⟨b,0+i*7,none⟩) (a0.length-i) (cap-i)))]:=⟨mv,mv,mv,mv,mv,mv,mv,mv,trivial⟩;refine AL<|Qt HM 8 AiW rfl rfl rfl (rg 46 8) (λL f M w=>St M (_::_::As) w) (St.drew S4 _) ?_ ?_
  ·refine⟨?_,?_,?_,?_,?_,?_,?_,?_,trivial⟩
   ·exact flp HM rfl [] (λ_ _=>trivial) (λ_ _ q=>AT (v:= .slice (some ⟨nb,0,none⟩) (a0.length+a2.length) c2) rfl q) rfl
   ·exact flp HM rfl [] (λ_ _=>trivial) (λ_ _ q=>AT (v:=vI (i:Int)) rfl q) rfl
   ·exact flp HM rfl [] (λ_ _=>trivial) (λ_ _ q=>AT (v:=vI (a2.length:Int)) rfl q) rfl
   ·exact flp HM rfl [(47,_),(48,_)] (λK _=>⟨K 1 rfl,K 2 rfl,trivial⟩) (λ_ _ q=>Uy (m:=(i:Int)) (n:=(a2.length:Int)) rfl rfl (AlU (Aos vI (OX (a:=i) (b:=a2.length) (AoZ him q63))) q)) rfl
   ·exact flp HM rfl [(46,_),(49,_)] (λK _=>⟨K 0 rfl,K 3 rfl,trivial⟩) (λ_ _ q=>Ux (b:=nb) (o:=0) (n:=a0.length+a2.length) (cap:=c2) (j:=i+a2.length) rfl rfl underlying24 sizeOf38 (by omega) (by omega) (by omega) q) rfl
   ·exact flp HM rfl [] (λ_ _=>trivial) (λ_ _ q=>AT (v:= .slice (some ⟨b,0,none⟩) a0.length cap) rfl q) rfl
   ·exact flp HM rfl [] (λ_ _=>trivial) (λ_ _ q=>AT (v:=vI (i:Int)) rfl q) rfl
   ·exact flp HM rfl [(51,_),(52,_)] (λK _=>⟨K 5 rfl,K 6 rfl,trivial⟩) (λ_ _ q=>Ux (b:=b) (o:=0) (n:=a0.length) (cap:=cap) (j:=i) rfl rfl underlying24 sizeOf38 (by omega) (by omega) (by omega) q) rfl
  intro L8 f8 w8 hall ⟨m8,l8,S8,K,hO⟩;have d4:L8 4=true:=hall 4 (by decide);have d7:L8 7=true:=hall 7 (by decide);obtain⟨u8,rfl⟩:=No (N:=95) (L:=[(50,_),(53,_)]) hO ⟨K 4 d4,K 7 d7,trivial⟩;have hb8:=S8.blk (i:=1) rfl;have hq8:=On (P:=Tryz.prog) (n:=a0.length-i) (c:=cap-i) (sz:=7) (k:=a0.length-i) (off:=0+i*7) hb8 (by omega);rw[show(l.toList.drop (0+i*7)).take ((a0.length-i)*7)=a0c0.drop (i*7)from by rw[AoA]; exact hes]at hq8;refine Acr (i:=0) (sz:=7) (k:=a0.length-i) (sl:=a0.length-i) (ds:=a0c0.drop (i*7)) S8 rfl rfl rfl underlying24 sizeOf38 (LU _) (by show min _ _=_; omega) hq8 (λu hu=>hone0 u (List.mem_of_mem_drop hu)) (by simp only[hdr,List.size_toArray,AnY,Aod,AoF]; omega) (by simp[AhP]) λw9 S9=> ?_;rw[List.set_cons_zero,hdr,show 0+(i+a2.length)*7=i*7+a2.length*7 from by omega]at S9;refine AF<|nrm<|ws<|AT (v:= .slice (some ⟨nb,0,none⟩) (a0.length+a2.length) c2) rfl<|Gy (v:= .slice (some ⟨nb,0,none⟩) (a0.length+a2.length) c2) rfl<|AF<|nrm<|J7<|thR<|UJ λwe hpd=> ?_;obtain⟨m9,l9,S10⟩:=S9.drop 1;have S11:=St.pd S10 hpd;have S12:St m9 (row 7 (.slice (some ⟨nb,0,none⟩) (a0.length+a2.length) c2) (a0c0.take (i*7)++ds++a0c0.drop (i*7)) r.length::As) we:=by
   rw[hrl];refine St.blkRow S11 ?_ ?_ ?_ hg1 hg2 (by simp[AhP]) (.inl rfl)
   ·simp only[AnY,Aod,hdr]; omega
   ·rw[show(a0.length+a2.length)*7=i*7+a2.length*7+(a0.length-i)*7 from by omega];exact insA hdl hcl (hLt.trans htk) (by omega)
   ·simp only[List.size_toArray,AnY,Aod,AoF]; omega
  exact Aeo [_] rfl ⟨rfl,trivial⟩ ⟨_,mt l8 l9,_,_,S12,rfl,Cl.up (mt l8 l9) hrep⟩
 have hc3:a0.length+a2.length<=cap:=by have:=of_decide_eq_false hc3; omega
 have hne:b2≠b:=by
  rintro rfl;obtain⟨h1,ha,_,hd,_⟩:=S1.take (i:=0) rfl;rcases hd b2 with q|q
  ·rw[hb2]at q; cases q
  ·rw[show h1=PH.one b2 _ from ha]at q; simp[PH.one]at q
 have hl2:l2.size≠0:=by
  intro q;have h0:0<ds.length:=by omega
  have:=hget2 0 _ (Aot h0);rw[Array.getElem?_eq_none (by omega)]at this;cases this
 refine F8<|nrm<|ws<|AT (v:= .slice (some ⟨b,0,none⟩) a0.length cap) rfl<|AT (v:=vI (a0.length:Int)) rfl<|AT (v:=vI (a2.length:Int)) rfl<|Uy (m:=(a0.length:Int)) (n:=(a2.length:Int)) rfl rfl<|AlU (Aos vI (OX (a:=a0.length) (b:=a2.length) q63))<|Akp (b:=b) (o:=0) (n:=a0.length) (cap:=cap) (j:=a0.length+a2.length) rfl rfl underlying24 sizeOf38 hc3 (by omega)<|Gy (v:= .slice (some ⟨b,0,none⟩) (a0.length+a2.length) cap) rfl<|AF<|nrm<|AL<|ws<|AT (v:= .slice (some ⟨b2,off2,none⟩) a2.length cap2) rfl<|AT (v:= .slice (some ⟨b,0,none⟩) (a0.length+a2.length) cap) rfl<|AT (v:=vI (i:Int)) rfl<|AT (v:=vI (a2.length:Int)) rfl<|Uy (m:=(i:Int)) (n:=(a2.length:Int)) rfl rfl<|AlU (Aos vI (OX (a:=i) (b:=a2.length) (AoZ him q63)))<|Ux (b:=b) (o:=0) (n:=a0.length+a2.length) (cap:=cap) (j:=i+a2.length) rfl rfl underlying24 sizeOf38 (by omega) (by omega) (by omega)<|AdD (ps:= #[24,24]) (rs:= #[4]) func202 rfl rfl rfl (by kernel_rfl) rfl rfl rfl underlying24 sizeOf38 (by omega) (by omega) (by decide) hne (S1.mem hb2) (S1.blk (i:=0) rfl) hl2 hfr0<|AlV rfl<|AF<|nrm<|J8 (t:=(!false)) rfl (λ_=> ?_) (λh=>by cases h);have HM:KM [(69,fv (.slice (some ⟨b,0,none⟩) (a0.length+a2.length) cap)),(70,fv (vI (i:Int))),(71,fv (vI (a2.length:Int))),(72,fv (vI ((i+a2.length:Nat):Int))),(73,fv (.slice (some ⟨b,0+(i+a2.length)*7,none⟩) (a0.length+a2.length-(i+a2.length)) (cap-(i+a2.length)))),(74,fv (.slice (some ⟨b,0,none⟩) (a0.length+a2.length) cap)),(75,fv (vI (i:Int))),(76,fv (.slice (some ⟨b,0+i*7,none⟩) (a0.length+a2.length-i) (cap-i)))]:=⟨mv,mv,mv,mv,mv,mv,mv,mv,trivial⟩;refine AL<|Qt HM 8 AiW rfl rfl rfl (rg 69 8) (λL f M w=>St M (_::As) w) (St.drew S1 _) ?_ ?_
 ·refine⟨?_,?_,?_,?_,?_,?_,?_,?_,trivial⟩
  ·exact flp HM rfl [] (λ_ _=>trivial) (λ_ _ q=>AT (v:= .slice (some ⟨b,0,none⟩) (a0.length+a2.length) cap) rfl q) rfl
  ·exact flp HM rfl [] (λ_ _=>trivial) (λ_ _ q=>AT (v:=vI (i:Int)) rfl q) rfl
  ·exact flp HM rfl [] (λ_ _=>trivial) (λ_ _ q=>AT (v:=vI (a2.length:Int)) rfl q) rfl
  ·exact flp HM rfl [(70,_),(71,_)] (λK _=>⟨K 1 rfl,K 2 rfl,trivial⟩) (λ_ _ q=>Uy (m:=(i:Int)) (n:=(a2.length:Int)) rfl rfl (AlU (Aos vI (OX (a:=i) (b:=a2.length) (AoZ him q63))) q)) rfl
  ·exact flp HM rfl [(69,_),(72,_)] (λK _=>⟨K 0 rfl,K 3 rfl,trivial⟩) (λ_ _ q=>Ux (b:=b) (o:=0) (n:=a0.length+a2.length) (cap:=cap) (j:=i+a2.length) rfl rfl underlying24 sizeOf38 (by omega) (by omega) (by omega) q) rfl
  ·exact flp HM rfl [] (λ_ _=>trivial) (λ_ _ q=>AT (v:= .slice (some ⟨b,0,none⟩) (a0.length+a2.length) cap) rfl q) rfl
  ·exact flp HM rfl [] (λ_ _=>trivial) (λ_ _ q=>AT (v:=vI (i:Int)) rfl q) rfl
  ·exact flp HM rfl [(74,_),(75,_)] (λK _=>⟨K 5 rfl,K 6 rfl,trivial⟩) (λ_ _ q=>Ux (b:=b) (o:=0) (n:=a0.length+a2.length) (cap:=cap) (j:=i) rfl rfl underlying24 sizeOf38 (by omega) (by omega) (by omega) q) rfl
 intro L8 f8 w8 hall ⟨m8,l8,S8,K,hO⟩;have d4:L8 4=true:=hall 4 (by decide);have d7:L8 7=true:=hall 7 (by decide);obtain⟨u8,rfl⟩:=No (N:=95) (L:=[(73,_),(76,_)]) hO ⟨K 4 d4,K 7 d7,trivial⟩;have hb8:=S8.blk (i:=0) rfl;have hq8:=On (P:=Tryz.prog) (n:=a0.length+a2.length-i) (c:=cap-i) (sz:=7) (k:=a0.length-i) (off:=0+i*7) hb8 (by omega);rw[show(l.toList.drop (0+i*7)).take ((a0.length-i)*7)=a0c0.drop (i*7)from by rw[AoA]; exact hes]at hq8;refine Acr (i:=0) (sz:=7) (k:=a0.length-i) (sl:=a0.length+a2.length-i) (ds:=a0c0.drop (i*7)) S8 rfl rfl rfl underlying24 sizeOf38 (LU _) (by show min _ _=_; omega) hq8 (λu hu=>hone0 u (List.mem_of_mem_drop hu)) (by rw[hdr]; omega) hfr λw9 S9=> ?_;rw[List.set_cons_zero,hdr,show 0+(i+a2.length)*7=i*7+a2.length*7 from by omega]at S9;have hsz1:(l.toList.take (i*7+a2.length*7)++a0c0.drop (i*7)++l.toList.drop (i*7+a2.length*7+(a0.length-i)*7)).toArray.size=l.size:=by
  simp only[List.size_toArray,AnY,Aod,AoF,hdr]; omega
 refine AF<|nrm<|ws<|AT (v:= .slice (some ⟨b,0,none⟩) (a0.length+a2.length) cap) rfl<|AT (v:=vI (i:Int)) rfl<|Ux (b:=b) (o:=0) (n:=a0.length+a2.length) (cap:=cap) (j:=i) rfl rfl underlying24 sizeOf38 (by omega) (by omega) (by omega)<|AT (v:= .slice (some ⟨b2,off2,none⟩) a2.length cap2) rfl<|Acr (i:=0) (sz:=7) (k:=a2.length) (sl:=a2.length) (ds:=ds) S9 rfl rfl rfl underlying24 sizeOf38 (LU _) (by show min _ _=_; omega) (En S9 (hs2'.up l8) _) hone2 (by rw[hdl,hsz1,hl]; omega) (by rw[hsz1]; exact hfr) λw10 S10=> ?_;rw[List.set_cons_zero,AoA,hdl]at S10;refine AF<|nrm<|ws<|AT (v:= .slice (some ⟨b,0,none⟩) (a0.length+a2.length) cap) rfl<|Gy (v:= .slice (some ⟨b,0,none⟩) (a0.length+a2.length) cap) rfl<|AF<|nrm<|J7<|thR<|UJ λwe hpd=> ?_;have S11:=St.pd S10 hpd;have S12:St m8 (row 7 (.slice (some ⟨b,0,none⟩) (a0.length+a2.length) cap) (a0c0.take (i*7)++ds++a0c0.drop (i*7)) r.length::As) we:=by
  rw[hrl];have hsz:(List.take (i*7) (l.toList.take (i*7+a2.length*7)++a0c0.drop (i*7)++l.toList.drop (i*7+a2.length*7+(a0.length-i)*7))++ds++List.drop (i*7+a2.length*7) (l.toList.take (i*7+a2.length*7)++a0c0.drop (i*7)++l.toList.drop (i*7+a2.length*7+(a0.length-i)*7))).toArray.size=l.size:=by
   simp only[List.size_toArray,AnY,Aod,AoF,hdr]; omega
  refine St.blkRow S11 ?_ ?_ (hsz.trans hl) hc3 hcm (hsz▸hfr) (.inl hfr0)
  ·simp only[AnY,Aod,hdr]; omega
  ·rw[show(a0.length+a2.length)*7=i*7+a2.length*7+(a0.length-i)*7 from by omega];exact insB hdl (by rw[<-ht]; congr 1; omega) (by omega)
 exact Aeo [_] rfl ⟨rfl,trivial⟩ ⟨_,l8,_,_,S12,rfl,Cl.up l8 hrep⟩
theorem HN {a0 a1 a2 r}(hm:AO a0 a1 a2=some r):Sp prog 119 [.ow 0,.d (.i a1),sl Ae a2] [.row 0 7 _ Ae a0] 1 (is (.ow 1) [.row 1 7 _ Ae r] 2):=
 ⟨call119,λU m As w vs hv0 hd S=>by
  have S:St m (rep U m (.row 0 7 _ Ae a0)::As) w:=S;obtain⟨v0,u0,rfl,r0,hv1⟩:=BB.cons_inv hv0;obtain⟨v1,u1,rfl,r1,hv2⟩:=BB.cons_inv hv1;obtain rfl:=r1.i_inv;obtain⟨v2,u2,rfl,r2,hv3⟩:=BB.cons_inv hv2;have f2:=Br.ofS Ms r2.dd;obtain rfl:=BB.nil_inv hv3;exact ownB hd r0 S (λk3 S1=>HA S1 (Br.ofL Ms k3) f2 hm) Ms⟩
end Go.Proofs.YtnhdojckpcbjeaaGreatDoor
