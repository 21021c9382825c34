/- The walks of some functions, by the executor, written by program. Conditions: none. -/
import Derived.Test.YtnhdojckpcbjeaaGreatDoorZh
import Derived.Test.YtnhdojckpcbjeaaGreatDoorZi
set_option linter.unusedSimpArgs false
set_option linter.unusedVariables false
set_option maxHeartbeats 20000000
set_option maxRecDepth 100000
namespace Go.Proofs.YtnhdojckpcbjeaaGreatDoor
open Go Go.Gw Go.Ax Tryz
attribute [local irreducible] Go.Ax.Go
def BJ {σ:Type}(p0:σ→(List UInt8)→Option (Bool×σ))(k0:List UInt8)(k1:Int)(s1:Int×σ):Option ((Int×σ)⊕((σ)⊕((List UInt8)×Int×σ))):=if(decide (s1.1<(k0.length:Int)))=true then Ab (cut k0 s1.1 (k0.length:Int)) fun x3=>Ab (cut k0 s1.1 (w64 (s1.1+(Xd k1 (x3.length:Int))))) fun x4=>Ab (p0 s1.2 x4) fun x5=>if(!x5.1)=true then some (.inr (.inr (k0,k1,x5.2)))else some (.inl ((w64 (s1.1+k1)),x5.2))else some (.inr (.inl s1.2))
def DO {σ:Type}(p0:σ→(List UInt8)→Option (Bool×σ))(k0:List UInt8)(k1:Int)(s0:σ):Option ((List UInt8)×Int×σ):=Ab (iter (BJ p0 k0 k1) Gr (0,s0)) fun x1=>match x1 with| .inr r=>some r| .inl y1=>some (k0,k1,y1)
theorem J1 {σ:Type}{p0:σ→(List UInt8)→Option (Bool×σ)}{k0 k1 s0 r}(hm:DO p0 k0 k1 s0=some r)(g:Value)(R:σ→Mem→Ow)(hcb:Z0 prog g (fun x=> [sl eB x]) R p0):Sp prog 384 [.ow 0,.pb 1 0,.pb 2 0] [.hp 0 (.cb g σ R s0),.box 1 [sl eB k0] 96,.box 2 [.d (.i k1)] 3] 3 (is (.tup []) [.hp 0 (.cb g σ R r.2.2),.box 1 [.d (.sl _ eB r.1)] 96,.box 2 [.d (.i r.2.1)] 3] 3):=by
 refine sq ?_;intros;refine oB hm fun x1 q1 hm=>gI q1 (fun(p_0,p_1)=>⟨[(0,.ow 0),(1,.pb 1 0),(2,.pb 2 0),(4,.d (.i p_0))],[(0,.box 1 [sl eB k0] 96),(1,.box 2 [.d (.i k1)] 3),(2,.hp 0 (.cb g σ R p_1))],[],3⟩) fun s1 y2 Jl q4 bl1=>gi q4 ?_ ?_<;>intro hc1 q4
 ·refine oB q4 fun x3 q6 q4=>gk eB 1 q6<|oB q4 fun x4 q7 q4=>gk eB 1 q7<|oB q4 fun x5 q8 q4=>gcb x4 hcb q8<|gi q4 ?_ ?_<;>intro hc2 q4
  ·obtain rfl:=nR bl1 q4;obtain rfl:=Aid hm;exact gE
  exact gN bl1 q4
 obtain rfl:=nR bl1 q4;let y1:=s1.2;obtain rfl:=Aid hm;exact gE
def Eo (a0:List UInt8)(a1:Int):Option ((List UInt8)×Int):=Ab (if(decide (a1<1))=true then none else some ()) fun x1=>some (a0,a1)
theorem KO {a0 a1 r}(hm:Eo a0 a1=some r):Sp prog 353 [sl eB a0,.d (.i a1)] [] 0 (is (.fn (.func 384) [] [.pb 0 0,.pb 1 0]) [.box 0 [sl eB r.1] 96,.box 1 [.d (.i r.2)] 3] 2):=by
 refine sq ?_;intros;refine oB hm fun x1 q1 hm=>gi q1 (fun hc1 q1=> ?_) fun hc1 q1=> ?_
 ·cases q1
 obtain rfl:=Aid q1;exact Aid hm▸gE
def Gn (b5:List UInt8)(i1:Int)(s2:UInt64):Option (UInt64):=Ab (idx b5 (i1:Int)) fun x6=>if(0:Int)≤(w64 (8*(i1:Int)))then bnd ((s2|||(Mi (toU (x6.toNat:Int)) ((w64 (8*(i1:Int))).toNat)))) fun x7=>some x7 else none
def Gp (b5:List UInt8)(s1:(List UInt64)):Option ((List UInt64)):=Ab (Ab (CS (Gn b5) b5.length 0 0) fun x4=>some x4) fun x3=>Ab (app 8 s1 ([x3]:List UInt64)) fun x8=>some x8
def K0 (a0:List UInt8):Option (List UInt64):=Ab (Eo a0 7) fun x1=>Ab (DO (fun(s:(List UInt64)) (b0:List UInt8)=>Ab (Gp b0 s) fun y=>some (true,y)) x1.1 x1.2 ([]:List UInt64)) fun x2=>some x2.2.2
theorem Zd {a0 r}(hm:K0 a0=some r):Sp prog 301 [sl eB a0] [] 0 (is (.ow 0) [.row 0 1 _ eU r] 1):=
 spR call301 func301 rfl ntmps301 rfl fun D0 As η0 m0 hD hd=>by
  unfold K0 at hm;refine gD hm KO fun x1 q1 hm=>oB hm fun x2 q2 hm=>Aeq eU 3 0 1<|Oa hD (n0:=0) 3 4 [⟨2,1,96,[sl eB x1.1],[sl eB x2.1]⟩,⟨3,2,3,[.d (.i x1.2)],[.d (.i x2.2.1)]⟩] (gt:=9) (ps:=[10]) [(3,.pb 0 0),(9,.fn (.func 384) [] [.pb 1 0,.pb 2 0])] (fun(y2:(List UInt64))=> [(0,.row 3 1 _ eU y2),(1,.box 0 [.ow 3] 307)]) (fun(_:Unit)=> []) (fun x=> [sl eB x]) (fun(s1:(List UInt64)) (b5:List UInt8)=>⟨[(3,.pb 0 0),(4,sl eB b5),(9,.fn (.func 384) [] [.pb 1 0,.pb 2 0])],[(0,.row 3 1 _ eU s1),(1,.box 0 [.ow 3] 307)],[],4⟩) (pN fun x s=>Gp x s) ([]:List UInt64) hd (via Sum.inl hyN rfl fun g R h=>J1 q2 g R h) rfl (fun _=>rfl) (fun _=>rfl) (fun _=>rfl) (fun _=>rfl) ?_ ?_ ?_ ?_
  ·intro s1 b5 s' hp l D0 As η0 m0 hd Ja ba;exact gb ba hd () trivial
  ·intro s1 b5 s' hp l D0 As η0 m0 hd Jb bb Jr br;obtain⟨z1,q3,hp⟩:=Air.1 hp;subst hp;unfold Gp at q3;obtain⟨x3,q4,q3⟩:=Ad q3;refine oB q4 fun x4 q5 q4=>JZ 2 (E:=eB) (xs:=b5) 11 fun hle1=>gF (EM _ _ _) q5 (fun p0 p=>⟨[(3,.pb 0 0),(5,.d (.u p)),(9,.fn (.func 384) [] [.pb 1 0,.pb 2 0]),(11,sl eB b5),(12,.d (.i (b5.length:Int))),(13,.d (.i p0))],[(0,.row 3 1 _ eU s1),(1,.box 0 [.ow 3] 307)],[],4⟩) fun i1 s2 Jl bl1=>cM bl1 (b5.length:Int) (fun y1 q8 bl1=> ?_) fun e=> ?_
   ·unfold Gn at q8;refine oB q8 fun x6 q10 q8=>gx eB 1 q10 ?_;obtain⟨q11,q8⟩:=BD q8;refine gsh (r:= .u (Mi (toU (x6.toNat:Int)) ((w64 (8*(i1:Int))).toNat))) (fun h=>q11)<|bE q8 ?_;intro x7 q8;exact gM bl1 hle1 q8
   subst e;obtain rfl:=Aid q4;let x3:=x4;refine gq eU 1 [x3]<|oB q3 fun x8 q13 q3=>gp eU 1 q13 ?_;obtain rfl:=Aid q3;exact gb bb hd x8 rfl
  ·intro x hx;have hx:=Sum.inl.inj hx;subst hx;obtain rfl:=Aid hm;exact gE
  intro y hy;cases hy
def II (a0:UInt64)(a1:UInt64):Option UInt64:=bnd (((a1&&&2305843009213693951)+((Mi a0 3)|||(E7 a1 61)))) fun x1=>bnd (((x1&&&2305843009213693951)+(E7 x1 61))) fun x2=>Ab (if(decide ((x2.toNat:Int)≥2305843009213693951))=true then some (x2-2305843009213693951)else some x2) fun x3=>some x3
theorem PV {a0 a1 r}(hm:II a0 a1=some r):Sf prog 385 [.d (.u a0),.d (.u a1)] (.d (.u r)):=by
 refine sq fun D0 As η0 m0 hd=>bE hm ?_;intro x1 hm;refine bE hm ?_;intro x2 hm;refine oB hm fun x3 q3 hm=>gj (fun(_:Unit)=>⟨[(5,.d (.u x3))],[],[],0⟩) (fun _=>True) (fun Jp bk1=> ?_) fun _ _=> ?_
 ·refine gi q3 ?_ ?_<;>intro hc1 q3
  ·obtain rfl:=Aid q3;exact gb bk1 hd () trivial
  obtain rfl:=Aid q3;exact gb bk1 hd () trivial
 obtain rfl:=Aid hm;exact gE
def FQ (a0:UInt64):Option UInt64:=Ab (II 0 a0) fun x1=>some x1
theorem JB {a0 r}(hm:FQ a0=some r):Sf prog 354 [.d (.u a0)] (.d (.u r)):=by
 refine sq ?_;intros;refine gA hm PV fun x1 q1 hm=> ?_;exact Aid hm▸gE
def G4 (a0:UInt64)(a1:UInt64):Option UInt64:=Ab (FQ a0) fun x1=>Ab (FQ a1) fun x2=>Ab (FQ (x1+x2)) fun x3=>some x3
theorem Lj {a0 a1 r}(hm:G4 a0 a1=some r):Sf prog 302 [.d (.u a0),.d (.u a1)] (.d (.u r)):=by
 refine sq ?_;intros;refine gA hm JB fun x1 q1 hm=>gA hm JB fun x2 q2 hm=>gA hm JB fun x3 q3 hm=> ?_;exact Aid hm▸gE
def JN (a0:UInt64)(a1:UInt64):Option UInt64:=Ab (FQ a0) fun x1=>Ab (FQ a1) fun x2=>Ab (IL x1 x2) fun x3=>Ab (II x3.1 x3.2) fun x4=>some x4
theorem QY {a0 a1 r}(hm:JN a0 a1=some r):Sf prog 386 [.d (.u a0),.d (.u a1)] (.d (.u r)):=by
 refine sq ?_;intros;refine gA hm JB fun x1 q1 hm=>gA hm JB fun x2 q2 hm=>gA hm MA fun x3 q3 hm=>gA hm PV fun x4 q4 hm=> ?_;exact Aid hm▸gE
def JM (i1:Int)(s1:UInt64):Option (UInt64):=Ab (JN s1 s1) fun x4=>some x4
def E5 (a0:UInt64):Option UInt64:=Ab (Ab (CS JM 4 0 a0) fun x2=>some x2) fun x1=>Ab (JN a0 x1) fun x5=>some x5
theorem Qu {a0 r}(hm:E5 a0=some r):Sf prog 357 [.d (.u a0)] (.d (.u r)):=by
 refine sq ?_;intros;unfold E5 at hm;obtain⟨x1,q1,hm⟩:=Ad hm;refine oB q1 fun x2 q2 q1=>gF (EM _ 4 _) q2 (fun p0 p=>⟨[(0,.d (.u a0)),(3,.d (.u p)),(5,.d (.i p0))],[],[],0⟩) fun i1 s1 Jl bl1=>cM bl1 (4:Int) (fun y1 q5 bl1=> ?_) fun e=> ?_
 ·exact gA q5 QY fun x4 q7 q5=>gM bl1 lk q5
 subst e;obtain rfl:=Aid q1;let x1:=x2;refine gA hm QY fun x5 q8 hm=> ?_;obtain rfl:=Aid hm;exact gE
def Ki (a0:Int)(a1:UInt64)(k0:Int)(k1:UInt64):Option (UInt64×Int×UInt64):=bnd ((toU (w64 ((w64 ((w64 (3*k0))+a0))+1)))) fun x1=>Ab (G4 a1 (((x1*x1)*x1)+7)) fun x2=>Ab (E5 x2) fun x3=>Ab (G4 k1 x3) fun x4=>some (x3,k0,x4)
theorem Vo {a0 a1 k0 k1 r}(hm:Ki a0 a1 k0 k1=some r):Sp prog 356 [.d (.i a0),.d (.u a1),.pb 0 0,.pb 1 0] [.box 0 [.d (.i k0)] 3,.box 1 [.d (.u k1)] 32] 2 (is (.d (.u r.1)) [.box 0 [.d (.i r.2.1)] 3,.box 1 [.d (.u r.2.2)] 32] 2):=by
 refine sq ?_;intros;refine bE hm ?_;intro x1 hm;refine gA hm Lj fun x2 q2 hm=>gA hm Qu fun x3 q3 hm=>gA hm Lj fun x4 q4 hm=> ?_;obtain rfl:=Aid hm;exact gE
def Kh (a0:Int)(a1:UInt64)(k0:UInt64):Option (UInt64×UInt64):=Ab (G4 a1 k0) fun x1=>some (x1,k0)
theorem Vn {a0 a1 k0 r}(hm:Kh a0 a1 k0=some r):Sp prog 358 [.d (.i a0),.d (.u a1),.pb 0 0] [.box 0 [.d (.u k0)] 32] 1 (is (.d (.u r.1)) [.box 0 [.d (.u r.2)] 32] 1):=by
 refine sq ?_;intros;refine gA hm Lj fun x1 q1 hm=> ?_;exact Aid hm▸gE
def GI (i1:Int)(s1:UInt64×UInt64×UInt64×Int×UInt64):Option (UInt64×UInt64×UInt64×Int×UInt64):=Ab (idx [s1.1,s1.2.1,s1.2.2.1] (i1:Int)) fun x3=>Ab (Ki (i1:Int) x3 s1.2.2.2.1 s1.2.2.2.2) fun x4=>Ab (idx [s1.1,s1.2.1,s1.2.2.1] (i1:Int)) fun x5=>bnd (if(i1:Int)=0 then x4.1 else s1.1) fun x6=>bnd (if(i1:Int)=1 then x4.1 else s1.2.1) fun x7=>bnd (if(i1:Int)=2 then x4.1 else s1.2.2.1) fun x8=>some (x6,x7,x8,x4.2.1,x4.2.2)
def DJ (a0:UInt64×UInt64×UInt64)(k0:Int)(k1:UInt64):Option ((UInt64×UInt64×UInt64)×Int×UInt64):=Ab (CS GI 3 0 (a0.1,a0.2.1,a0.2.2,k0,k1)) fun x1=>some ((x1.1,x1.2.1,x1.2.2.1),x1.2.2.2.1,x1.2.2.2.2)
theorem Me {a0 k0 k1 r}(hm:DJ a0 k0 k1=some r):Sp prog 355 [.pb 0 0,.fn (.func 356) [] [.pb 1 0,.pb 2 0]] [.box 0 [.d (.u a0.1),.d (.u a0.2.1),.d (.u a0.2.2)] 365,.box 1 [.d (.i k0)] 3,.box 2 [.d (.u k1)] 32] 3 (is (.tup []) [.box 0 [.d (.u r.1.1),.d (.u r.1.2.1),.d (.u r.1.2.2)] 365,.box 1 [.d (.i r.2.1)] 3,.box 2 [.d (.u r.2.2)] 32] 3):=by
 refine sq ?_;intros;refine oB hm fun x1 q1 hm=>gF (EM _ 3 _) q1 (fun p0 (p_0,p_1,p_2,p_3,p_4)=>⟨[(0,.pb 0 0),(1,.fn (.func 356) [] [.pb 1 0,.pb 2 0]),(6,.pb 0 0),(7,.d (.i p0))],[(0,.box 0 [.d (.u p_0),.d (.u p_1),.d (.u p_2)] 365),(1,.box 1 [.d (.i p_3)] 3),(2,.box 2 [.d (.u p_4)] 32)],[],3⟩) fun i1 s1 Jl bl1=>cM bl1 (3:Int) (fun y1 q4 bl1=> ?_) fun e=> ?_
 ·refine oB q4 fun x3 q6 q4=>UO (fun _=>q6)<|gldA D.u (fun _=>q6)<|gD q4 Vo fun x4 q7 q4=>oB q4 fun x5 q8 q4=>UO (fun _=>q8)<|bE q4 ?_;intro x6 q4;refine bE q4 ?_;intro x7 q4;refine bE q4 ?_;intro x8 q4;exact gstA D.u x4.1 q8<|gM bl1 lk q4
 subst e;obtain rfl:=Aid hm;exact gE
def GH (i1:Int)(s1:UInt64×UInt64×UInt64×UInt64):Option (UInt64×UInt64×UInt64×UInt64):=Ab (idx [s1.1,s1.2.1,s1.2.2.1] (i1:Int)) fun x3=>Ab (Kh (i1:Int) x3 s1.2.2.2) fun x4=>Ab (idx [s1.1,s1.2.1,s1.2.2.1] (i1:Int)) fun x5=>bnd (if(i1:Int)=0 then x4.1 else s1.1) fun x6=>bnd (if(i1:Int)=1 then x4.1 else s1.2.1) fun x7=>bnd (if(i1:Int)=2 then x4.1 else s1.2.2.1) fun x8=>some (x6,x7,x8,x4.2)
def DI (a0:UInt64×UInt64×UInt64)(k0:UInt64):Option ((UInt64×UInt64×UInt64)×UInt64):=Ab (CS GH 3 0 (a0.1,a0.2.1,a0.2.2,k0)) fun x1=>some ((x1.1,x1.2.1,x1.2.2.1),x1.2.2.2)
theorem Mc {a0 k0 r}(hm:DI a0 k0=some r):Sp prog 355 [.pb 0 0,.fn (.func 358) [] [.pb 1 0]] [.box 0 [.d (.u a0.1),.d (.u a0.2.1),.d (.u a0.2.2)] 365,.box 1 [.d (.u k0)] 32] 2 (is (.tup []) [.box 0 [.d (.u r.1.1),.d (.u r.1.2.1),.d (.u r.1.2.2)] 365,.box 1 [.d (.u r.2)] 32] 2):=by
 refine sq ?_;intros;refine oB hm fun x1 q1 hm=>gF (EM _ 3 _) q1 (fun p0 (p_0,p_1,p_2,p_3)=>⟨[(0,.pb 0 0),(1,.fn (.func 358) [] [.pb 1 0]),(6,.pb 0 0),(7,.d (.i p0))],[(0,.box 0 [.d (.u p_0),.d (.u p_1),.d (.u p_2)] 365),(1,.box 1 [.d (.u p_3)] 32)],[],2⟩) fun i1 s1 Jl bl1=>cM bl1 (3:Int) (fun y1 q4 bl1=> ?_) fun e=> ?_
 ·refine oB q4 fun x3 q6 q4=>UO (fun _=>q6)<|gldA D.u (fun _=>q6)<|gD q4 Vn fun x4 q7 q4=>oB q4 fun x5 q8 q4=>UO (fun _=>q8)<|bE q4 ?_;intro x6 q4;refine bE q4 ?_;intro x7 q4;refine bE q4 ?_;intro x8 q4;exact gstA D.u x4.1 q8<|gM bl1 lk q4
 subst e;obtain rfl:=Aid hm;exact gE
def LF (i1:Int)(s1:UInt64×UInt64×UInt64):Option (UInt64×UInt64×UInt64):=Ab (DJ s1 (i1:Int) 0) fun x4=>Ab (DI x4.1 x4.2.2) fun x5=>some (x5.1.1,x5.1.2.1,x5.1.2.2)
def KZ (a0:UInt64×UInt64×UInt64):Option (UInt64×UInt64×UInt64):=Ab (Ab (CS LF 8 0 (a0.1,a0.2.1,a0.2.2)) fun x2=>some (x2.1,x2.2.1,x2.2.2)) fun x1=>some x1
theorem Zc {a0 r}(hm:KZ a0=some r):Sf prog 303 [ag (Aco a0)] (ag (Aco r)):=by
 refine sq ?_;intros;unfold KZ at hm;obtain⟨x1,q1,hm⟩:=Ad hm;refine oB q1 fun x2 q2 q1=>gF (EM _ 8 _) q2 (fun p0 (p_0,p_1,p_2)=>⟨[(2,.pb 1 0),(3,.pb 2 0),(7,.d (.i p0)),(1,.pb 0 0)],[(0,.box 2 [.d (.u p_0),.d (.u p_1),.d (.u p_2)] 365),(1,.box 1 [.d (.u 0),.d (.u 0),.d (.u 0)] 319),(2,.box 0 [.d (.u a0.1),.d (.u a0.2.1),.d (.u a0.2.2)] 319)],[],3⟩) fun i1 s1 Jl bl1=>cM bl1 (8:Int) (fun y1 q5 bl1=> ?_) fun e=> ?_
 ·exact gD q5 Me fun x4 q7 q5=>gD q5 Mc fun x5 q8 q5=>gM bl1 lk q5
 subst e;obtain rfl:=Aid q1;let x1:=(x2.1,x2.2.1,x2.2.2);obtain rfl:=Aid hm;exact gE
def HB (x6:List UInt64)(i2:Int)(s2:UInt64×UInt64×UInt64):Option (UInt64×UInt64×UInt64):=Ab (idx x6 (i2:Int)) fun x9=>Ab (idx [s2.1,s2.2.1,s2.2.2] (i2:Int)) fun x10=>Ab (G4 x10 x9) fun x11=>Ab (idx [s2.1,s2.2.1,s2.2.2] (i2:Int)) fun x12=>bnd (if(i2:Int)=0 then x11 else s2.1) fun x13=>bnd (if(i2:Int)=1 then x11 else s2.2.1) fun x14=>bnd (if(i2:Int)=2 then x11 else s2.2.2) fun x15=>some (x13,x14,x15)
def CX (s1:(List UInt64)×Bool×UInt64×UInt64×UInt64):Option (((List UInt64)×Bool×UInt64×UInt64×UInt64)⊕(UInt64×UInt64×UInt64)):=if(s1.2.1||(decide ((s1.1.length:Int)>0)))=true then Ab (Ab (cut s1.1 0 (Xd 2 (s1.1.length:Int))) fun x6=>Ab (CS (HB x6) x6.length 0 (s1.2.2.1,s1.2.2.2.1,s1.2.2.2.2)) fun x7=>some (x7.1,x7.2.1,x7.2.2)) fun x5=>Ab (cut s1.1 (Xd 2 (s1.1.length:Int)) (s1.1.length:Int)) fun x16=>Ab (KZ x5) fun x17=>some (.inl (x16,false,x17.1,x17.2.1,x17.2.2))else some (.inr (s1.2.2.1,s1.2.2.2.1,s1.2.2.2.2))
def Nn (a0:List UInt8):Option (UInt64×UInt64):=Ab (K0 a0) fun x1=>Ab (Ab (iter CX Gr (x1,true,0,0,(toU (a0.length:Int)))) fun x3=>some (x3.1,x3.2.1,x3.2.2)) fun x2=>some (x2.1,x2.2.1)
theorem Zb {a0 r}(hm:Nn a0=some r):Sf prog 242 [sl eB a0] (ag (AT r)):=by
 refine sq ?_;intros;refine gD hm Zd fun x1 q1 hm=> ?_;obtain⟨x2,q2,hm⟩:=Ad hm;refine oB q2 fun x3 q3 q2=>gI q3 (fun(p_0,p_1,p_2,p_3,p_4)=>⟨[(2,.pb 0 0),(3,.pb 1 0),(4,sl eU p_0),(5,.d (.t p_1))],[(0,.box 1 [.d (.u p_2),.d (.u p_3),.d (.u p_4)] 319),(1,.box 0 [.d (.u 0),.d (.u 0)] 34)],[],2⟩) fun s1 y1 Jl q6 bl1=>gi q6 ?_ ?_<;>intro hc1 q6
 ·obtain⟨x5,q8,q6⟩:=Ad q6;refine oB q8 fun x6 q9 q8=>gk eU 1 q9<|oB q8 fun x7 q10 q8=>JZ 2 (E:=eU) (xs:=x6) 26 fun hle2=>gF (EM _ _ _) q10 (fun p0 (p_0,p_1,p_2)=>⟨[(2,.pb 0 0),(3,.pb 1 0),(4,sl eU s1.1),(6,.d (.i (Xd 2 (s1.1.length:Int)))),(26,sl eU x6),(27,.d (.i (x6.length:Int))),(28,.d (.i p0))],[(0,.box 1 [.d (.u p_0),.d (.u p_1),.d (.u p_2)] 319),(1,.box 0 [.d (.u 0),.d (.u 0)] 34)],[],2⟩) fun i2 s2 Jl bl2=>cM bl2 (x6.length:Int) (fun y2 q13 bl2=> ?_) fun e=> ?_
  ·refine oB q13 fun x9 q15 q13=>gx eU 1 q15<|oB q13 fun x10 q16 q13=>UO (fun _=>q16)<|gldA D.u (fun _=>q16)<|gA q13 Lj fun x11 q17 q13=>oB q13 fun x12 q18 q13=>UO (fun _=>q18)<|bE q13 ?_;intro x13 q13;refine bE q13 ?_;intro x14 q13;refine bE q13 ?_;intro x15 q13;exact gstA D.u x11 q18<|gM bl2 hle2 q13
  subst e;obtain rfl:=Aid q8;let x5:=(x7.1,x7.2.1,x7.2.2);exact oB q6 fun x16 q22 q6=>gk eU 1 q22<|gA q6 Zc fun x17 q23 q6=>gN bl1 q6
 obtain rfl:=nR bl1 q6;let x3:=(s1.2.2.1,s1.2.2.2.1,s1.2.2.2.2);obtain rfl:=Aid q2;let x2:=(x3.1,x3.2.1,x3.2.2);obtain rfl:=Aid hm;exact gE
def IY (i1:Int)(x4:List UInt8)(s1:(List UInt8)):Option ((List UInt8)):=Ab (Gk s1 (toU (x4.length:Int)) 4) fun x5=>Ab (app 1 x5 x4) fun x6=>some x6
def CD (a0:ByteArray)(a1:List (List UInt8)):Option (UInt64×UInt64):=Ab (app 1 ([(toB (a0.size:Int))]:List UInt8) a0.data.toList) fun x1=>Ab (Ab (DA IY a1 0 x1) fun x3=>some x3) fun x2=>Ab (Nn x2) fun x7=>some x7
theorem ED {a0 a1 r}(hm:CD a0 a1=some r):Sf prog 153 [.d (.s a0),sl (eL eB) a1] (ag (AT r)):=by
 refine sq ?_;intros;refine glit (k:=1) eB ([(toB (a0.size:Int))]:List UInt8) (fun _=>rfl)<|oB hm fun x1 q1 hm=>gapS q1 ?_;obtain⟨x2,q2,hm⟩:=Ad hm;refine oB q2 fun x3 q3 q2=>JZ 0 (E:=(eL eB)) (xs:=a1) 14 fun hle1=>gF (E0 _ _ _) q3 (fun p0 p=>⟨[(4,.pb 0 0),(5,.ow 1),(14,sl (eL eB) a1),(15,.d (.i (a1.length:Int))),(16,.d (.i p0))],[(0,.row 1 1 _ eB p),(1,.box 0 [.d (.u 0),.d (.u 0)] 34)],[],2⟩) fun i1 s1 Jl bl1=>c0 bl1 (fun x4 y1 q7 q6 bl1=> ?_) fun e=> ?_
 ·exact gx (eL eB) 1 q7<|gD q6 SN fun x5 q8 q6=>oB q6 fun x6 q9 q6=>gp eB 1 q9<|gM bl1 hle1 q6
 subst e;obtain rfl:=Aid q2;let x2:=x3;refine gD hm Zb fun x7 q10 hm=> ?_;obtain rfl:=Aid hm;exact gE
theorem T6 {m:Mem}{As:List Ow}{w:World}{a0:ByteArray}{a1:List (List UInt8)}{a1v0:Value}{r:UInt64×UInt64}(S:St m As w)(a1h0:SlR m a1v0 a1)(hm:CD a0 a1=some r):
  AK prog 153 #[vS a0,a1v0] w fun v w'=> ∃(M:Mem),m≤M∧St M (As) w'∧v= .agg #[vU r.1,vU r.2]:=by
 refine AK.mono ((ED hm).2 none0 m As w [vS a0,a1v0] (.cons (.d (.s _)) (.cons (.d (Br.toS (Br.sl Br.b) a1h0)) .nil)) (fun n h=>absurd rfl h) S) ?_;rintro v w' ⟨M,η',r',obs',n1,hle,_,⟨rfl,rfl,rfl⟩,hdom,hR,S'⟩;obtain⟨c0,rfl,g0⟩:=Br.ofA Il hR;obtain rfl:=FJ g0;exact⟨M,hle,S',rfl⟩
def JH (a0:UInt64)(i1:Int)(s1:UInt8×UInt8×UInt8×UInt8×UInt8×UInt8×UInt8×UInt8):Option (UInt8×UInt8×UInt8×UInt8×UInt8×UInt8×UInt8×UInt8):=if(0:Int)≤(w64 (8*(i1:Int)))then Ab (idx [s1.1,s1.2.1,s1.2.2.1,s1.2.2.2.1,s1.2.2.2.2.1,s1.2.2.2.2.2.1,s1.2.2.2.2.2.2.1,s1.2.2.2.2.2.2.2] (w64 (7-(i1:Int)))) fun x4=>bnd (if(w64 (7-(i1:Int)))=0 then(toB ((E7 a0 ((w64 (8*(i1:Int))).toNat)).toNat:Int))else s1.1) fun x5=>bnd (if(w64 (7-(i1:Int)))=1 then(toB ((E7 a0 ((w64 (8*(i1:Int))).toNat)).toNat:Int))else s1.2.1) fun x6=>bnd (if(w64 (7-(i1:Int)))=2 then(toB ((E7 a0 ((w64 (8*(i1:Int))).toNat)).toNat:Int))else s1.2.2.1) fun x7=>bnd (if(w64 (7-(i1:Int)))=3 then(toB ((E7 a0 ((w64 (8*(i1:Int))).toNat)).toNat:Int))else s1.2.2.2.1) fun x8=>bnd (if(w64 (7-(i1:Int)))=4 then(toB ((E7 a0 ((w64 (8*(i1:Int))).toNat)).toNat:Int))else s1.2.2.2.2.1) fun x9=>bnd (if(w64 (7-(i1:Int)))=5 then(toB ((E7 a0 ((w64 (8*(i1:Int))).toNat)).toNat:Int))else s1.2.2.2.2.2.1) fun x10=>bnd (if(w64 (7-(i1:Int)))=6 then(toB ((E7 a0 ((w64 (8*(i1:Int))).toNat)).toNat:Int))else s1.2.2.2.2.2.2.1) fun x11=>bnd (if(w64 (7-(i1:Int)))=7 then(toB ((E7 a0 ((w64 (8*(i1:Int))).toNat)).toNat:Int))else s1.2.2.2.2.2.2.2) fun x12=>some (x5,x6,x7,x8,x9,x10,x11,x12)else none
def FL (a0:UInt64):Option (List UInt8):=Ab (Ab (CS (JH a0) 8 0 (0,0,0,0,0,0,0,0)) fun x2=>some (x2.1,x2.2.1,x2.2.2.1,x2.2.2.2.1,x2.2.2.2.2.1,x2.2.2.2.2.2.1,x2.2.2.2.2.2.2.1,x2.2.2.2.2.2.2.2)) fun x1=>some ([x1.1,x1.2.1,x1.2.2.1,x1.2.2.2.1,x1.2.2.2.2.1,x1.2.2.2.2.2.1,x1.2.2.2.2.2.2.1,x1.2.2.2.2.2.2.2]:List UInt8)
theorem Mk {a0 r}(hm:FL a0=some r):Sp prog 184 [.d (.u a0)] [] 0 (is (.ow 0) [.row 0 1 _ eB r] 1):=by
 refine sq ?_;intros;unfold FL at hm;obtain⟨x1,q1,hm⟩:=Ad hm;refine oB q1 fun x2 q2 q1=>gF (EM _ 8 _) q2 (fun p0 (p_0,p_1,p_2,p_3,p_4,p_5,p_6,p_7)=>⟨[(0,.d (.u a0)),(3,.pb 0 0),(5,.d (.i p0))],[(0,.box 0 [.d (.b p_0),.d (.b p_1),.d (.b p_2),.d (.b p_3),.d (.b p_4),.d (.b p_5),.d (.b p_6),.d (.b p_7)] 300)],[],1⟩) fun i1 s1 Jl bl1=>cM bl1 (8:Int) (fun y1 q5 bl1=> ?_) fun e=> ?_
 ·unfold JH at q5;obtain⟨q7,q5⟩:=BD q5;refine gsh (r:= .u (E7 a0 ((w64 (8*(i1:Int))).toNat))) (fun h=>q7)<|oB q5 fun x4 q8 q5=>UO (fun _=>q8)<|bE q5 ?_;intro x5 q5;refine bE q5 ?_;intro x6 q5;refine bE q5 ?_;intro x7 q5;refine bE q5 ?_;intro x8 q5;refine bE q5 ?_;intro x9 q5;refine bE q5 ?_;intro x10 q5;refine bE q5 ?_;intro x11 q5;refine bE q5 ?_;intro x12 q5;exact gstA D.b (toB ((E7 a0 ((w64 (8*(i1:Int))).toNat)).toNat:Int)) q8<|gM bl1 lk q5
 subst e;obtain rfl:=Aid q1;let x1:=(x2.1,x2.2.1,x2.2.2.1,x2.2.2.2.1,x2.2.2.2.2.1,x2.2.2.2.2.2.1,x2.2.2.2.2.2.2.1,x2.2.2.2.2.2.2.2);refine gslA (k:=1) eB ([x1.1,x1.2.1,x1.2.2.1,x1.2.2.2.1,x1.2.2.2.2.1,x1.2.2.2.2.2.1,x1.2.2.2.2.2.2.1,x1.2.2.2.2.2.2.2]:List UInt8) (fun _=>rfl) ?_;obtain rfl:=Aid hm;exact gE
def H9 (a0:UInt64×UInt64)(a1:UInt64):Option UInt64:=if((a1.toNat:Int)==0)=true then some 0 else Ab (IL a0.1 2305843009213693952) fun x1=>if a1≠0 then Ab (IM ((x1.1+(Ku x1.2 a0.2))%a1) (x1.2+a0.2) a1) fun x2=>some x2.2 else none
theorem Nh {a0 a1 r}(hm:H9 a0 a1=some r):Sf prog 249 [ag (AT a0),.d (.u a1)] (.d (.u r)):=by
 refine sq ?_;intros;refine gi hm ?_ ?_<;>intro hc1 hm
 ·exact Aid hm▸gE
 refine gA hm MA fun x1 q1 hm=>AfK (p:=x1.2) (q:=a0.2) func305 ?_;obtain⟨q2,hm⟩:=BD hm;refine Ac6 (d:= .u a1) (r:= .u ((x1.1+(Ku x1.2 a0.2))%a1)) (fun h=>q2)<|gA hm PZ fun x2 q3 hm=> ?_;exact Aid hm▸gE
def DU (a0:UInt64)(a1:UInt64)(a2:List UInt8):Option UInt64:=Ab (FL a0) fun x1=>Ab (FL a1) fun x2=>Ab (CD (⟨#[115,105,103,110]⟩:ByteArray) ([x1,x2,a2]:List (List UInt8))) fun x3=>Ab (H9 x3 1152921504606845789) fun x4=>some x4
theorem LR {a0 a1 a2 r}(hm:DU a0 a1 a2=some r):Sf prog 185 [.d (.u a0),.d (.u a1),sl eB a2] (.d (.u r)):=by
 refine sq ?_;intros;refine gD hm Mk fun x1 q1 hm=>gD hm Mk fun x2 q2 hm=>ZJ (k:=1) (eL eB) ([x1,x2,a2]:List (List UInt8)) (fun _=>rfl)<|gA hm ED fun x3 q3 hm=>gA hm Nh fun x4 q4 hm=> ?_;exact Aid hm▸gE
def Cu (s1:UInt64×UInt64×Int×Int):Option ((UInt64×UInt64×Int×Int)⊕(Int)):=if((s1.2.1.toNat:Int) !=0)=true then if s1.2.1≠0 then bnd ((s1.1-((s1.1/s1.2.1)*s1.2.1))) fun x4=>bnd ((w64 (s1.2.2.1-(w64 ((w64 ((s1.1/s1.2.1).toNat:Int))*s1.2.2.2))))) fun x5=>some (.inl (s1.2.1,x4,s1.2.2.2,x5))else none else some (.inr s1.2.2.1)
def D4 (a0:UInt64)(a1:UInt64):Option (UInt64×Int):=if a0≠0 then if(((a1%a0).toNat:Int)==0)=true then some (0,10)else Ab (Ab (iter Cu Gr ((a1%a0),a0,1,0)) fun x2=>some x2) fun x1=>Ab (if(decide (x1<0))=true then bnd ((w64 (x1+(w64 (a0.toNat:Int))))) fun x7=>some x7 else some x1) fun x6=>some ((toU x6),0)else none
theorem Mq {a0 a1 r}(hm:D4 a0 a1=some r):Sf prog 350 [.d (.u a0),.d (.u a1)] (.tup [.d (.u r.1),.d (.i r.2)]):=by
 refine sq fun D0 As η0 m0 hd=> ?_;unfold D4 at hm;obtain⟨q1,hm⟩:=BD hm;refine Ac6 (d:= .u a0) (r:= .u (a1%a0)) (fun h=>q1)<|gi hm ?_ ?_<;>intro hc1 hm
 ·obtain rfl:=Aid hm;exact gE
 obtain⟨x1,q2,hm⟩:=Ad hm;refine oB q2 fun x2 q3 q2=>gI q3 (fun(p_0,p_1,p_2,p_3)=>⟨[(0,.d (.u a0)),(6,.d (.u p_0)),(7,.d (.u p_1)),(8,.d (.i p_2)),(9,.d (.i p_3))],[],[],0⟩) fun s1 y1 Jl q6 bl1=>gi q6 ?_ ?_<;>intro hc2 q6
 ·obtain⟨q8,q6⟩:=BD q6;refine Ac6 (d:= .u s1.2.1) (r:= .u (s1.1/s1.2.1)) (fun h=>q8)<|bE q6 ?_;intro x4 q6;refine bE q6 ?_;intro x5 q6;exact gN bl1 q6
 obtain rfl:=nR bl1 q6;let x2:=s1.2.2.1;obtain rfl:=Aid q2;let x1:=x2;refine oB hm fun x6 q11 hm=>gj (fun(_:Unit)=>⟨[(8,.d (.i x6))],[],[],0⟩) (fun _=>True) (fun Jp bk3=> ?_) fun _ _=> ?_
 ·refine gi q11 ?_ ?_<;>intro hc3 q11
  ·refine bE q11 ?_;intro x7 q11;obtain rfl:=Aid q11;exact gb bk3 hd () trivial
  obtain rfl:=Aid q11;exact gb bk3 hd () trivial
 obtain rfl:=Aid hm;exact gE
def FV (a0:UInt64):Option (UInt64×Int):=Ab (D4 2305843009213691579 a0) fun x1=>some (x1.1,x1.2)
theorem Vt {a0 r}(hm:FV a0=some r):Sf prog 293 [.d (.u a0)] (.tup [.d (.u r.1),.d (.i r.2)]):=by
 refine sq ?_;intros;refine gA hm Mq fun x1 q1 hm=> ?_;exact Aid hm▸gE
def Kl (a0:UInt64)(a1:UInt64):Option UInt64:=Ab (CV 2305843009213691579 a0 a1) fun x1=>some x1
theorem Vs {a0 a1 r}(hm:Kl a0 a1=some r):Sf prog 294 [.d (.u a0),.d (.u a1)] (.d (.u r)):=by
 refine sq ?_;intros;refine gA hm F9 fun x1 q1 hm=> ?_;exact Aid hm▸gE
def Ew (a0:UInt64)(a1:List UInt8)(a2:g_api_Sig):Option Int:=Ab (FX a0) fun x1=>if(!x1)=true then some 1 else if(decide (((U9 a2.E a2.S).toNat:Int)≥1152921504606845789))=true then some 40 else Ab (EA a0 a2.E) fun x2=>Ab (FV x2) fun x3=>Ab (gu (!(x3.2 !=0)) (EO a2.S)) fun x4=>Ab (gu (!(x3.2 !=0)) (Kl x4 x3.1)) fun x5=>Ab (gu (!(x3.2 !=0)) (DU x5 a0 a1)) fun x6=>if((x3.2 !=0)||((x6.toNat:Int) !=(a2.E.toNat:Int)))=true then some 40 else some 0
theorem PR {a0 a1 a2 r}(hm:Ew a0 a1 a2=some r):Sf prog 230 [.d (.u a0),sl eB a1,ag (Lb a2)] (.d (.i r)):=by
 refine sq ?_;intros;refine gA hm NS fun x1 q1 hm=>gi hm ?_ ?_<;>intro hc1 hm
 ·exact Aid hm▸gE
 refine gi hm ?_ ?_<;>intro hc2 hm
 ·exact Aid hm▸gE
 refine gA hm Mr fun x2 q2 hm=>gA hm Vt fun x3 q3 hm=>oB hm fun x4 q4 hm=>gcH q4 Lk<|oB hm fun x5 q5 hm=>gcH q5 Vs<|oB hm fun x6 q6 hm=>gcH q6 LR<|gi hm ?_ ?_<;>intro hc3 hm
 ·exact Aid hm▸gE
 exact Aid hm▸gE
def Ip (i1:Int)(x2:g_api_Cert)(s1:Unit):Option ((Unit)⊕Int):=Ab (Cv x2) fun x3=>if(x3 !=0)=true then some (.inr x3)else some (.inl ())
def JJ (a0:g_api_Cert)(a1:g_api_Cert):Option Int:=Ab (EV Ip ([a0,a1]:List g_api_Cert) 0 ()) fun x1=>match x1 with| .inr r=>some r| .inl y1=>if((!a1.Ca)||(!eqS a0.Issuer a1.Subject))=true then some 191 else Ab (JV a0) fun x4=>Ab (Ew a1.Key x4.1 a0.Sig) fun x5=>if(x5 !=0)=true then some 40 else some 0
theorem QV {a0 a1 r}(hm:JJ a0 a1=some r):Sf prog 149 [ag (Ae a0),ag (Ae a1)] (.d (.i r)):=by
 refine sq ?_;intros;refine gq Ae 13 [a0,a1]<|oB hm fun x1 q1 hm=>JZ 0 (E:=Ae) (xs:=([a0,a1]:List g_api_Cert)) 12 fun hle1=>gF (ER _ _ _) q1 (fun p0 _=>⟨[(2,.pb 0 0),(3,.pb 1 0),(12,sl Ae ([a0,a1]:List g_api_Cert)),(13,.d (.i (([a0,a1]:List g_api_Cert).length:Int))),(14,.d (.i p0))],[(0,.box 1 [.d (.i a1.Serial),.d (.s a1.Issuer),.d (.s a1.Subject),.d (.u a1.Key),sl eS a1.Names,.d (.i a1.From),.d (.i a1.Until),.d (.t a1.Ca),.d (.i a1.Depth),sl eS a1.Permit,sl Af a1.Proms,.d (.u a1.Sig.E),.d (.u a1.Sig.S)] 59),(1,.box 0 [.d (.i a0.Serial),.d (.s a0.Issuer),.d (.s a0.Subject),.d (.u a0.Key),sl eS a0.Names,.d (.i a0.From),.d (.i a0.Until),.d (.t a0.Ca),.d (.i a0.Depth),sl eS a0.Permit,sl Af a0.Proms,.d (.u a0.Sig.E),.d (.u a0.Sig.S)] 59)],[],2⟩) fun i1 s1 Jl bl1=>cR bl1 (fun x2 y2 q5 q4 bl1=> ?_) fun e=> ?_
 ·refine gx Ae 13 q5<|gA q4 FI fun x3 q6 q4=>gi q4 ?_ ?_<;>intro hc1 q4
  ·obtain rfl:=nT bl1 q4;exact Aid hm▸gE
  exact gT bl1 hle1 q4
 subst e;refine gi hm ?_ ?_<;>intro hc3 hm
 ·exact Aid hm▸gE
 refine gD hm Q7 fun x4 q7 hm=>gD hm PR fun x5 q8 hm=>gi hm ?_ ?_<;>intro hc4 hm
 ·exact Aid hm▸gE
 exact Aid hm▸gE
def CH (a0:g_path_trip)(i1:Int)(s1:Unit):Option ((Unit)⊕Int):=Ab (idx a0.chain_ (i1:Int)) fun x3=>Ab (idx a0.chain_ (w64 ((i1:Int)+1))) fun x4=>Ab (JJ x3 x4) fun x5=>if(x5 !=0)=true then some (.inr x5)else some (.inl ())
def Gd (a0:g_path_trip):Option Int:=Ab (B6 (CH a0) (Int.toNat (w64 ((a0.chain_.length:Int)-1))) 0 ()) fun x1=>match x1 with| .inr r=>some r| .inl y1=>some 0
theorem Pc {a0 r}(hm:Gd a0=some r):Sf prog 75 [ag (EW a0)] (.d (.i r)):=by
 refine sq ?_;intros;refine oB hm fun x1 q1 hm=>gF (EN _ _ _) q1 (fun p0 _=>⟨[(1,.pb 0 0),(8,.d (.i (w64 ((a0.chain_.length:Int)-1)))),(9,.d (.i p0))],[(0,.box 0 [sl Ae a0.roots_,sl Ae a0.chain_,.d (.s a0.name_),.d (.i a0.now_)] 124)],[],1⟩) fun i1 s1 Jl bl1=>cN bl1 (w64 ((a0.chain_.length:Int)-1)) (fun y2 q4 bl1=> ?_) fun e=> ?_
 ·refine oB q4 fun x3 q6 q4=>gx Ae 13 q6<|oB q4 fun x4 q7 q4=>gx Ae 13 q7<|gA q4 QV fun x5 q8 q4=>gi q4 ?_ ?_<;>intro hc1 q4
  ·obtain rfl:=nT bl1 q4;exact Aid hm▸gE
  exact gT bl1 (P0 _) q4
 subst e;exact Aid hm▸gE
def A0 (a0:List g_api_Cert):Option (List g_api_Cert):=Ab (app 168 ([]:List g_api_Cert) a0) fun x1=>some x1
theorem HS {m As w a0}{a0v0:Value}{r}(S:St m (As) w)(a0h0:SlR m a0v0 a0)(hm:A0 a0=some r):
  AK Tryz.prog 38 #[a0v0] w fun v w'=> ∃(M:Mem),m≤M∧∃(rv0:Value) (rc0:List Value),St M ((row 13 rv0 rc0 r.length)::As) w'∧v=rv0∧AH M rc0 r:=by
 unfold A0 at hm;have L0:=Mem.rfl' m;refine Dp (args:=[a0v0]) Tryz.func38 rfl Tryz.ntmps38 (Aih rfl)<|Ag<|Ac<|AD (v:= .slice none 0 0) rfl<|Ah<|nrm<|Ag<|Ag<|Ac ?_;refine Ak (v:=a0v0) rfl<|Hs rfl rfl a0h0 Tryz.underlying22<|Ah<|nrm<|BL (t:=(I4 a0v0)) rfl (fun hc1=> ?_) (fun hc1=> ?_)
 ·have he1:a0=[]:=SlR.nilOf a0h0 hc1;rw[he1]at hm;replace hm:(some ([]:List g_api_Cert))=some _:=hm;refine Ag<|Ac<|AD (v:= .slice none 0 0) rfl<|Ah<|nrm<|AZ<|thR<|Db ?_;intro we hpd;replace S:=St.pd S hpd;have S1:=St.rowNil S 13;have h1:AH m [] ([]:List g_api_Cert):=AH.nil;replace S1:St _ ((row 13 (.slice none 0 0) [] ([]:List g_api_Cert).length)::As) _:=S1;clear S;obtain rfl:=Aid hm;exact Io [_] rfl ⟨rfl,trivial⟩ ⟨_,L0,_,_,S1,rfl,h1⟩
 refine AL<|nrm<|Ag<|Ac<|Hq (parts:=[]) (vs:=[]) (cls:=[]) (n:=0) (sz:=13) S Tryz.underlying22 Tryz.sizeOf59 Tryz.zeroValue59 rfl trivial rfl rfl (by decide) (by decide) ?_;intro v1 w1 S2;have h2:AH m [] ([]:List g_api_Cert):=AH.nil;replace S2:St _ ((row 13 v1 [] ([]:List g_api_Cert).length)::As) _:=S2;clear S;refine Ak (v:=a0v0) rfl ?_;obtain⟨x1,q1,hm⟩:=Ad hm;refine Mg (i:=0) (zs:=x1) (bytes:=168) (ti:=Tryz.t59) S2 rfl rfl h2 rfl rfl a0h0 q1 Tryz.underlying22 Tryz.type59 rfl rfl rfl rfl ?_;intro v2 c1 w2 S3 h3;replace S3:St _ ((row 13 v2 c1 x1.length)::As) _:=S3;clear S2;refine AD (v:=v2) rfl<|Ah<|nrm<|AZ<|Db ?_;intro we hpd;replace S3:=St.pd S3 hpd;obtain rfl:=Aid hm;exact Io [_] rfl ⟨rfl,trivial⟩ ⟨_,L0,_,_,S3,rfl,h3⟩
theorem Ea {a0 r}(hm:A0 a0=some r):Sp prog 38 [sl Ae a0] [] 0 (is (.ow 0) [.row 0 13 _ Ae r] 1):=
 ⟨call38,fun η m As w vs hv0 hd S=>by
  have S:St m As w:=S;obtain⟨v0,u0,rfl,r0,hv1⟩:=Bh.cons_inv hv0;have f0:=Br.ofS Ik r0.dd;obtain rfl:=Bh.nil_inv hv1;refine AK.mono (HS S f0 hm) ?_;rintro v w' ⟨M,hle,y0,c0,S0,rfl,h0⟩;exact⟨M,(Xt [v]),_,_,_,hle,Wi hd _,⟨rfl,rfl,rfl⟩,Fx rfl,(.ow rfl (B2 S0)),(St.impL S0 (Sn (Br.toR Ik rfl rfl (B2 S0) h0) fun _ h=>h))⟩⟩
def DP (a0:ByteArray)(a1:ByteArray):Option (ByteArray×ByteArray×Bool):=Ab (A1 a0 a1) fun x1=>if(decide (x1≥0))=true then Ab (US a0 0 x1) fun x2=>Ab (US a0 (w64 (x1+(a1.size:Int))) (a0.size:Int)) fun x3=>some (x2,x3,true)else some (a0,(⟨#[]⟩:ByteArray),false)
theorem J2 {a0 a1 r}(hm:DP a0 a1=some r):Sf prog 405 [.d (.s a0),.d (.s a1)] (.tup [.d (.s r.1),.d (.s r.2.1),.d (.t r.2.2)]):=by
 refine sq ?_;intros;refine gA hm Fl fun x1 q1 hm=>gi hm ?_ ?_<;>intro hc1 hm
 ·refine oB hm fun x2 q2 hm=>ZK (fun _=>q2)<|oB hm fun x3 q3 hm=>ZK (fun _=>q3) ?_;exact Aid hm▸gE
 exact Aid hm▸gE
def Lx (a0:ByteArray)(a1:ByteArray):Option (ByteArray×ByteArray×Bool):=Ab (DP a0 a1) fun x1=>some (x1.1,x1.2.1,x1.2.2)
theorem TB {a0 a1 r}(hm:Lx a0 a1=some r):Sf prog 396 [.d (.s a0),.d (.s a1)] (.tup [.d (.s r.1),.d (.s r.2.1),.d (.t r.2.2)]):=by
 refine sq ?_;intros;refine gA hm J2 fun x1 q1 hm=> ?_;exact Aid hm▸gE
def H8 (a0:ByteArray):Option ByteArray:=Ab (Gi a0) fun x1=>if(!x1)=true then some (⟨#[]⟩:ByteArray)else Ab (Lx a0 (⟨#[46]⟩:ByteArray)) fun x2=>some x2.2.1
theorem SJ {a0 r}(hm:H8 a0=some r):Sf prog 383 [.d (.s a0)] (.d (.s r)):=by
 refine sq ?_;intros;refine gA hm Nc fun x1 q1 hm=>gi hm ?_ ?_<;>intro hc1 hm
 ·exact Aid hm▸gE
 refine gA hm TB fun x2 q2 hm=> ?_;exact Aid hm▸gE
def Fu {σ:Type}(p0:σ→ByteArray→Option (Bool×σ))(s1:ByteArray×σ):Option ((ByteArray×σ)⊕(ByteArray×σ)):=if(!eqS s1.1 (⟨#[]⟩:ByteArray))=true then Ab (p0 s1.2 s1.1) fun x4=>if x4.1=true then Ab (H8 s1.1) fun x5=>some (.inl (x5,x4.2))else some (.inr (s1.1,x4.2))else some (.inr (s1.1,s1.2))
def JK {σ:Type}(p0:σ→ByteArray→Option (Bool×σ))(k0:ByteArray)(s0:σ):Option (ByteArray×σ):=Ab (H8 k0) fun x1=>Ab (iter (Fu p0) Gr (x1,s0)) fun x2=>some (x2.1,x2.2)
theorem QW {σ:Type}{p0:σ→ByteArray→Option (Bool×σ)}{k0 s0 r}(hm:JK p0 k0 s0=some r)(g:Value)(R:σ→Mem→Ow)(hcb:Z0 prog g (fun x=> [.d (.s x)]) R p0):Sp prog 382 [.ow 0,.pb 1 0] [.hp 0 (.cb g σ R s0),.box 1 [.d (.s k0)] 9] 2 (is (.tup []) [.hp 0 (.cb g σ R r.2),.box 1 [.d (.s r.1)] 9] 2):=by
 refine sq fun D0 As η0 m0 hd=>gA hm SJ fun x1 q1 hm=>oB hm fun x2 q2 hm=>gjU 0 (fun(_:Unit)=>let (y_0,y_1):=x2; ⟨[],[(0,.box 1 [.d (.s y_0)] 9),(1,.hp 0 (.cb g σ R y_1))],[],2⟩) (fun _=>True) (fun Jp bk1=> ?_) fun _ _=> ?_
 ·refine gI q2 (fun(p_0,p_1)=>⟨[(0,.ow 0),(1,.pb 1 0)],[(0,.box 1 [.d (.s p_0)] 9),(1,.hp 0 (.cb g σ R p_1))],[],2⟩) fun s1 y1 Jl q5 bl1=>AfH 7 q5 (fun hc1 q5=> ?_) fun hc1 q5=> ?_
  ·refine oB q5 fun x4 q7 q5=>gcb s1.1 hcb q7<|gi q5 ?_ ?_<;>intro hc2 q5
   ·exact gA q5 SJ fun x5 q8 q5=>gN bl1 q5
   obtain rfl:=nR bl1 q5;exact gb bk1 hd () trivial
  refine gi' (b:=false) (fun h=>by cases h) (fun _=> ?_);obtain rfl:=nR bl1 q5;exact gb bk1 hd () trivial
 obtain rfl:=Aid hm;exact gE
def Lz (a0:ByteArray):Option ByteArray:=some a0
theorem TG {a0 r}(hm:Lz a0=some r):Sp prog 352 [.d (.s a0)] [] 0 (is (.fn (.func 382) [] [.pb 0 0]) [.box 0 [.d (.s r)] 9] 1):=by
 refine sq ?_;intros;exact Aid hm▸gE
def E4 (a1:ByteArray)(b5:ByteArray)(s1:(Bool)×Nat):Option ((Bool)×Nat):=if(eqS b5 a1)=true then some (true,1)else some (s1.1,0)
def Gj (a0:ByteArray)(a1:ByteArray):Option Bool:=Ab (Lz a0) fun x1=>Ab (JK (fun(s:(Bool)×Nat) (b0:ByteArray)=>if s.2=0 then Ab (E4 a1 b0 s) fun y=>some (y.2==0,y)else none) x1 (false,0)) fun x2=>if(x2.2).2=0 then some false else some x2.2.1
theorem TF {a0 a1 r}(hm:Gj a0 a1=some r):Sf prog 297 [.d (.s a0),.d (.s a1)] (.d (.t r)):=
 spR call297 func297 rfl ntmps297 rfl fun D0 As η0 m0 hD hd=>by
  unfold Gj at hm;refine gD hm TG fun x1 q1 hm=>oB hm fun x2 q2 hm=>Oa hD (n0:=0) 3 3 [⟨2,2,9,[.d (.s x1)],[.d (.s x2.1)]⟩] (gt:=7) (ps:=[8]) [(3,.pb 0 0),(4,.pb 1 0),(7,.fn (.func 382) [] [.pb 2 0])] (fun(y1:Bool)=> [(0,.box 1 [.d (.t y1)] 4),(1,.box 0 [.d (.s a1)] 9)]) (fun(y1:(Bool)×Nat)=> [(0,.box 1 [.d (.t y1.1)] 4),(1,.box 0 [.d (.s a1)] 9)]) (fun x=> [.d (.s x)]) (fun(s1:Bool) (b5:ByteArray)=>⟨[(3,.pb 0 0),(4,.pb 1 0),(5,.d (.s b5)),(7,.fn (.func 382) [] [.pb 2 0])],[(0,.box 1 [.d (.t s1)] 4),(1,.box 0 [.d (.s a1)] 9)],[],3⟩) (pJ fun x s=>E4 a1 x s) false hd (via fJ hyJ rfl fun g R h=>QW q2 g R h) rfl (fun _=>rfl) (fun _=>rfl) (fun _=>rfl) (fun _=>rfl) ?_ ?_ ?_ ?_
  ·intro s1 b5 s' hp l D0 As η0 m0 hd Ja ba;exact gb ba hd () trivial
  ·intro s1 b5 s' hp l D0 As η0 m0 hd Jb bb Jr br;obtain⟨z1,q3,hp⟩:=Air.1 hp;subst hp;unfold E4 at q3;dsimp only at q3;refine gi q3 ?_ ?_<;>intro hc1 q3
   ·obtain rfl:=Aid q3;exact Aeo br hd (true,1) rfl
   obtain rfl:=Aid q3;exact gb bb hd s1 rfl
  ·intro x hx;obtain⟨hj1,rfl⟩:=YM hx;rw[Ain hj1]at hm;exact Aid hm▸gE
  intro y hy;obtain⟨hj1,rfl⟩:=YL hy;rw[Ail hj1]at hm;exact Aid hm▸gE
def Jj (a0:ByteArray)(a1:ByteArray):Option Bool:=Ab (DE a0) fun x1=>Ab (gu (!(!x1.2.2)) (Gi a1)) fun x2=>if((!x1.2.2)||(!x2))=true then some false else if x1.2.1=true then Ab (Gj a1 x1.1) fun x3=>some x3 else some (eqS x1.1 a1)
theorem TH {a0 a1 r}(hm:Jj a0 a1=some r):Sf prog 234 [.d (.s a0),.d (.s a1)] (.d (.t r)):=by
 refine sq ?_;intros;refine gA hm Mm fun x1 q1 hm=>oB hm fun x2 q2 hm=>gcH q2 Nc<|gi hm ?_ ?_<;>intro hc1 hm
 ·exact Aid hm▸gE
 refine gi hm ?_ ?_<;>intro hc2 hm
 ·refine gA hm TF fun x3 q3 hm=> ?_;exact Aid hm▸gE
 exact Aid hm▸gE
def Hx (a0:ByteArray)(k0:ByteArray):Option (Bool×ByteArray):=Ab (Jj a0 k0) fun x1=>some (x1,k0)
theorem Ol {a0 k0 r}(hm:Hx a0 k0=some r):Sp prog 233 [.d (.s a0),.pb 0 0] [.box 0 [.d (.s k0)] 9] 1 (is (.d (.t r.1)) [.box 0 [.d (.s r.2)] 9] 1):=by
 refine sq ?_;intros;refine gA hm TH fun x1 q1 hm=> ?_;exact Aid hm▸gE
def A7 (a0:List ByteArray)(i1:Int)(s1:ByteArray):Option ((ByteArray)⊕(Int×ByteArray)):=Ab (idx a0 (i1:Int)) fun x3=>Ab (Hx x3 s1) fun x4=>if x4.1=true then some (.inr ((i1:Int),x4.2))else some (.inl x4.2)
def B3 (a0:List ByteArray)(k0:ByteArray):Option (Int×ByteArray):=Ab (B6 (A7 a0) a0.length 0 k0) fun x1=>match x1 with| .inr r=>some r| .inl y1=>some ((-1),y1)
theorem Gu {a0 k0 r}(hm:B3 a0 k0=some r):Sp prog 295 [sl eS a0,.fn (.func 233) [] [.pb 0 0]] [.box 0 [.d (.s k0)] 9] 1 (is (.d (.i r.1)) [.box 0 [.d (.s r.2)] 9] 1):=by
 refine sq ?_;intros;refine oB hm fun x1 q1 hm=>JZ 0 (E:=eS) (xs:=a0) 6 fun hle1=>gF (EN _ _ _) q1 (fun p0 p=>⟨[(0,sl eS a0),(1,.fn (.func 233) [] [.pb 0 0]),(7,.d (.i (a0.length:Int))),(8,.d (.i p0))],[(0,.box 0 [.d (.s p)] 9)],[],1⟩) fun i1 s1 Jl bl1=>cN bl1 (a0.length:Int) (fun y2 q4 bl1=> ?_) fun e=> ?_
 ·refine oB q4 fun x3 q6 q4=>gx eS 1 q6<|gD q4 Ol fun x4 q7 q4=>gi q4 ?_ ?_<;>intro hc1 q4
  ·obtain rfl:=nT bl1 q4;obtain rfl:=Aid hm;exact gE
  exact gT bl1 hle1 q4
 subst e;let y1:=s1;obtain rfl:=Aid hm;exact gE
def BR (a0:List ByteArray)(k0:ByteArray):Option (Bool×ByteArray):=Ab (B3 a0 k0) fun x1=>some ((decide (x1.1≥0)),x1.2)
theorem FC {a0 k0 r}(hm:BR a0 k0=some r):Sp prog 232 [sl eS a0,.fn (.func 233) [] [.pb 0 0]] [.box 0 [.d (.s k0)] 9] 1 (is (.d (.t r.1)) [.box 0 [.d (.s r.2)] 9] 1):=by
 refine sq ?_;intros;refine gD hm Gu fun x1 q1 hm=> ?_;exact Aid hm▸gE
def E3 (a0:ByteArray)(k0:g_api_Cert):Option (Bool×g_api_Cert):=Ab (BR k0.Permit a0) fun x1=>some ((!x1.1),k0)
theorem Qn {a0 k0 r}(hm:E3 a0 k0=some r):Sp prog 231 [.d (.s a0),.pb 0 0] [.box 0 [.d (.i k0.Serial),.d (.s k0.Issuer),.d (.s k0.Subject),.d (.u k0.Key),sl eS k0.Names,.d (.i k0.From),.d (.i k0.Until),.d (.t k0.Ca),.d (.i k0.Depth),sl eS k0.Permit,sl Af k0.Proms,.d (.u k0.Sig.E),.d (.u k0.Sig.S)] 59] 1 (is (.d (.t r.1)) [.box 0 [.d (.i r.2.Serial),.d (.s r.2.Issuer),.d (.s r.2.Subject),.d (.u r.2.Key),.d (.sl _ eS r.2.Names),.d (.i r.2.From),.d (.i r.2.Until),.d (.t r.2.Ca),.d (.i r.2.Depth),.d (.sl _ eS r.2.Permit),.d (.sl _ Af r.2.Proms),.d (.u r.2.Sig.E),.d (.u r.2.Sig.S)] 59] 1):=by
 refine sq ?_;intros;refine gD hm FC fun x1 q1 hm=> ?_;exact Aid hm▸gE
def A8 (a0:List ByteArray)(i1:Int)(s1:Int×ByteArray×ByteArray×UInt64×(List ByteArray)×Int×Int×Bool×Int×(List ByteArray)×(List g_api_Promise)×UInt64×UInt64):Option ((Int×ByteArray×ByteArray×UInt64×(List ByteArray)×Int×Int×Bool×Int×(List ByteArray)×(List g_api_Promise)×UInt64×UInt64)⊕(Int×g_api_Cert)):=Ab (idx a0 (i1:Int)) fun x3=>Ab (E3 x3 (⟨s1.1,s1.2.1,s1.2.2.1,s1.2.2.2.1,s1.2.2.2.2.1,s1.2.2.2.2.2.1,s1.2.2.2.2.2.2.1,s1.2.2.2.2.2.2.2.1,s1.2.2.2.2.2.2.2.2.1,s1.2.2.2.2.2.2.2.2.2.1,s1.2.2.2.2.2.2.2.2.2.2.1,(⟨s1.2.2.2.2.2.2.2.2.2.2.2.1,s1.2.2.2.2.2.2.2.2.2.2.2.2⟩:g_api_Sig)⟩:g_api_Cert)) fun x4=>if x4.1=true then some (.inr ((i1:Int),x4.2))else some (.inl (x4.2.Serial,x4.2.Issuer,x4.2.Subject,x4.2.Key,x4.2.Names,x4.2.From,x4.2.Until,x4.2.Ca,x4.2.Depth,x4.2.Permit,x4.2.Proms,x4.2.Sig.E,x4.2.Sig.S))
def B4 (a0:List ByteArray)(k0:g_api_Cert):Option (Int×g_api_Cert):=Ab (B6 (A8 a0) a0.length 0 (k0.Serial,k0.Issuer,k0.Subject,k0.Key,k0.Names,k0.From,k0.Until,k0.Ca,k0.Depth,k0.Permit,k0.Proms,k0.Sig.E,k0.Sig.S)) fun x1=>match x1 with| .inr r=>some r| .inl y1=>some ((-1),(⟨y1.1,y1.2.1,y1.2.2.1,y1.2.2.2.1,y1.2.2.2.2.1,y1.2.2.2.2.2.1,y1.2.2.2.2.2.2.1,y1.2.2.2.2.2.2.2.1,y1.2.2.2.2.2.2.2.2.1,y1.2.2.2.2.2.2.2.2.2.1,y1.2.2.2.2.2.2.2.2.2.2.1,(⟨y1.2.2.2.2.2.2.2.2.2.2.2.1,y1.2.2.2.2.2.2.2.2.2.2.2.2⟩:g_api_Sig)⟩:g_api_Cert))
theorem Gv {a0 k0 r}(hm:B4 a0 k0=some r):Sp prog 295 [sl eS a0,.fn (.func 231) [] [.pb 0 0]] [.box 0 [.d (.i k0.Serial),.d (.s k0.Issuer),.d (.s k0.Subject),.d (.u k0.Key),sl eS k0.Names,.d (.i k0.From),.d (.i k0.Until),.d (.t k0.Ca),.d (.i k0.Depth),sl eS k0.Permit,sl Af k0.Proms,.d (.u k0.Sig.E),.d (.u k0.Sig.S)] 59] 1 (is (.d (.i r.1)) [.box 0 [.d (.i r.2.Serial),.d (.s r.2.Issuer),.d (.s r.2.Subject),.d (.u r.2.Key),.d (.sl _ eS r.2.Names),.d (.i r.2.From),.d (.i r.2.Until),.d (.t r.2.Ca),.d (.i r.2.Depth),.d (.sl _ eS r.2.Permit),.d (.sl _ Af r.2.Proms),.d (.u r.2.Sig.E),.d (.u r.2.Sig.S)] 59] 1):=by
 refine sq ?_;intros;refine oB hm fun x1 q1 hm=>JZ 0 (E:=eS) (xs:=a0) 6 fun hle1=>gF (EN _ _ _) q1 (fun p0 (p_0,p_1,p_2,p_3,p_4,p_5,p_6,p_7,p_8,p_9,p_10,p_11,p_12)=>⟨[(0,sl eS a0),(1,.fn (.func 231) [] [.pb 0 0]),(7,.d (.i (a0.length:Int))),(8,.d (.i p0))],[(0,.box 0 [.d (.i p_0),.d (.s p_1),.d (.s p_2),.d (.u p_3),sl eS p_4,.d (.i p_5),.d (.i p_6),.d (.t p_7),.d (.i p_8),sl eS p_9,sl Af p_10,.d (.u p_11),.d (.u p_12)] 59)],[],1⟩) fun i1 s1 Jl bl1=>cN bl1 (a0.length:Int) (fun y2 q4 bl1=> ?_) fun e=> ?_
 ·refine oB q4 fun x3 q6 q4=>gx eS 1 q6<|gD q4 Qn fun x4 q7 q4=>gi q4 ?_ ?_<;>intro hc1 q4
  ·obtain rfl:=nT bl1 q4;obtain rfl:=Aid hm;exact gE
  exact gT bl1 hle1 q4
 subst e;let y1:=s1;obtain rfl:=Aid hm;exact gE
def A9 (a0:List ByteArray)(k0:g_api_Cert):Option (Bool×g_api_Cert):=Ab (B4 a0 k0) fun x1=>some ((decide (x1.1≥0)),x1.2)
theorem FD {a0 k0 r}(hm:A9 a0 k0=some r):Sp prog 232 [sl eS a0,.fn (.func 231) [] [.pb 0 0]] [.box 0 [.d (.i k0.Serial),.d (.s k0.Issuer),.d (.s k0.Subject),.d (.u k0.Key),sl eS k0.Names,.d (.i k0.From),.d (.i k0.Until),.d (.t k0.Ca),.d (.i k0.Depth),sl eS k0.Permit,sl Af k0.Proms,.d (.u k0.Sig.E),.d (.u k0.Sig.S)] 59] 1 (is (.d (.t r.1)) [.box 0 [.d (.i r.2.Serial),.d (.s r.2.Issuer),.d (.s r.2.Subject),.d (.u r.2.Key),.d (.sl _ eS r.2.Names),.d (.i r.2.From),.d (.i r.2.Until),.d (.t r.2.Ca),.d (.i r.2.Depth),.d (.sl _ eS r.2.Permit),.d (.sl _ Af r.2.Proms),.d (.u r.2.Sig.E),.d (.u r.2.Sig.S)] 59] 1):=by
 refine sq ?_;intros;refine gD hm Gv fun x1 q1 hm=> ?_;exact Aid hm▸gE
def Gf (a0:g_path_trip)(x6:List g_api_Cert)(i1:Int)(s1:Unit):Option ((Unit)⊕Int):=Ab (idx x6 (i1:Int)) fun x9=>bnd ((decide (x9.Depth<(i1:Int)))) fun x10=>if x10=true then some (.inr 191)else if(decide ((x9.Permit.length:Int)>0))=true then Ab (idx a0.chain_ 0) fun x11=>Ab (A9 x11.Names x9) fun x12=>if x12.1=true then some (.inr 110)else some (.inl ())else some (.inl ())
def GG (a0:g_path_trip)(a1:g_api_Cert):Option Int:=Ab (idx a0.chain_ (w64 ((a0.chain_.length:Int)-1))) fun x1=>Ab (JJ x1 a1) fun x2=>if(x2 !=0)=true then some x2 else Ab (Fq a0 a1) fun x3=>if(!x3)=true then some 190 else Ab (cut a0.chain_ 1 (a0.chain_.length:Int)) fun x4=>Ab (A0 x4) fun x5=>Ab (app 168 x5 ([a1]:List g_api_Cert)) fun x6=>Ab (B6 (Gf a0 x6) x6.length 0 ()) fun x7=>match x7 with| .inr r=>some r| .inl y1=>some 0
theorem R9 {a0 a1 r}(hm:GG a0 a1=some r):Sf prog 150 [ag (EW a0),ag (Ae a1)] (.d (.i r)):=by
 refine sq ?_;intros;refine oB hm fun x1 q1 hm=>gx Ae 13 q1<|gA hm QV fun x2 q2 hm=>gi hm ?_ ?_<;>intro hc1 hm
 ·obtain rfl:=Aid hm;exact gE
 refine gA hm J7 fun x3 q3 hm=>gi hm ?_ ?_<;>intro hc2 hm
 ·obtain rfl:=Aid hm;exact gE
 refine oB hm fun x4 q4 hm=>gk Ae 13 q4<|gD hm Ea fun x5 q5 hm=>gq Ae 13 [a1]<|oB hm fun x6 q6 hm=>gp Ae 13 q6<|oB hm fun x7 q7 hm=>JZ 0 (E:=Ae) (xs:=x6) 32 fun hle1=>gF (EN _ _ _) q7 (fun p0 _=>⟨[(2,.pb 0 0),(32,.ow 2),(33,.d (.i (x6.length:Int))),(34,.d (.i p0)),(3,.pb 1 0)],[(0,.row 2 13 _ Ae x6),(1,.box 1 [.d (.i a1.Serial),.d (.s a1.Issuer),.d (.s a1.Subject),.d (.u a1.Key),sl eS a1.Names,.d (.i a1.From),.d (.i a1.Until),.d (.t a1.Ca),.d (.i a1.Depth),sl eS a1.Permit,sl Af a1.Proms,.d (.u a1.Sig.E),.d (.u a1.Sig.S)] 59),(2,.box 0 [sl Ae a0.roots_,sl Ae a0.chain_,.d (.s a0.name_),.d (.i a0.now_)] 124)],[],3⟩) fun i1 s1 Jl bl1=>cN bl1 (x6.length:Int) (fun y2 q10 bl1=> ?_) fun e=> ?_
 ·refine oB q10 fun x9 q12 q10=>PI (E:=Ae) (fun _=>q12)<|Ahv (k:=13) (fo:=0) (nn:=13) (ag:=true) (E:=Ae) (fun _=>rfl) (fun _=>q12)<|bE q10 ?_;intro x10 q10;refine gi q10 ?_ ?_<;>intro hc3 q10
  ·obtain rfl:=nT bl1 q10;obtain rfl:=Aid hm;exact gE
  refine AfH 50 q10 (fun hc4 q10=> ?_) fun hc4 q10=> ?_
  ·refine oB q10 fun x11 q14 q10=>gx Ae 13 q14<|gD q10 FD fun x12 q15 q10=>gi q10 ?_ ?_<;>intro hc5 q10
   ·obtain rfl:=nT bl1 q10;obtain rfl:=Aid hm;exact gE
   exact gT bl1 hle1 q10
  refine gi' (b:=false) (fun h=>by cases h) (fun _=> ?_);exact gT bl1 hle1 q10
 subst e;obtain rfl:=Aid hm;exact gE
def Cc (a0:g_path_trip)(s1:Int×Int):Option ((Int×Int)⊕((Int)⊕Int)):=if(decide (s1.2≥0))=true then Ab (idx a0.roots_ s1.2) fun x4=>Ab (GG a0 x4) fun x5=>if(x5==0)=true then some (.inr (.inr 0))else some (.inl (x5,(w64 (s1.2-1))))else some (.inr (.inl s1.1))
def EH (a0:g_path_trip):Option Int:=bnd ((w64 ((a0.roots_.length:Int)-1))) fun x1=>Ab (iter (Cc a0) Gr (191,x1)) fun x2=>match x2 with| .inr r=>some r| .inl y1=>some y1
theorem NN {a0 r}(hm:EH a0=some r):Sf prog 76 [ag (EW a0)] (.d (.i r)):=by
 refine sq ?_;intros;refine bE hm ?_;intro x1 hm;refine oB hm fun x2 q2 hm=>gI q2 (fun(p_0,p_1)=>⟨[(1,.pb 0 0),(3,.d (.i p_0)),(4,.d (.i p_1))],[(0,.box 0 [sl Ae a0.roots_,sl Ae a0.chain_,.d (.s a0.name_),.d (.i a0.now_)] 124)],[],1⟩) fun s1 y2 Jl q5 bl1=>gi q5 ?_ ?_<;>intro hc1 q5
 ·refine oB q5 fun x4 q7 q5=>gx Ae 13 q7<|gA q5 R9 fun x5 q8 q5=>gi q5 ?_ ?_<;>intro hc2 q5
  ·obtain rfl:=nR bl1 q5;obtain rfl:=Aid hm;exact gE
  exact gN bl1 q5
 obtain rfl:=nR bl1 q5;let y1:=s1.1;obtain rfl:=Aid hm;exact gE
def GJ (x:Fk):Option Int:=if x.k=72 then Ft x.a else if x.k=73 then GP x.a else if x.k=74 then Ge x.a else if x.k=75 then Gd x.a else if x.k=76 then EH x.a else none
theorem Aae {x r}(hm:GJ x=some r):Sf prog x.k [ag (EW x.a)] (.d (.i r)):=by
 unfold GJ at hm;split at hm
 ·rename_i h;rw[h];exact Om hm
 split at hm
 ·rename_i h;rw[h];exact Qm hm
 split at hm
 ·rename_i h;rw[h];exact Pe hm
 split at hm
 ·rename_i h;rw[h];exact Pc hm
 split at hm
 ·rename_i h;rw[h];exact NN hm
 cases hm
def CE (a0:Int):Option Bool:=bnd (((decide ((0:Int)≤a0))&&(decide (a0≤1099511627776)))) fun x1=>some x1
theorem FH {a0 r}(hm:CE a0=some r):Sf prog 60 [.d (.i a0)] (.d (.t r)):=by
 refine sq ?_;intros;refine bE hm ?_;intro x1 hm;obtain rfl:=Aid hm;exact gE
def FZ (a0:UInt8):Option Bool:=bnd (((decide ((a0.toNat:Int)<33))||(decide ((a0.toNat:Int)>126)))) fun x1=>some x1
theorem Mw {a0 r}(hm:FZ a0=some r):Sf prog 128 [.d (.b a0)] (.d (.t r)):=by
 refine sq ?_;intros;refine bE hm ?_;intro x1 hm;obtain rfl:=Aid hm;exact gE
def D5 (a0:g_api_Cert):Option Bool:=Ab (gu (!(!a0.Ca)) (Cv a0)) fun x1=>some ((!a0.Ca)||(x1 !=0))
theorem Mv {a0 r}(hm:D5 a0=some r):Sf prog 129 [ag (Ae a0)] (.d (.t r)):=by
 refine sq ?_;intros;refine oB hm fun x1 q1 hm=>gcH q1 FI ?_;exact Aid hm▸gE
def AJ (a0:List g_api_Cert)(i1:Int)(s1:Unit):Option ((Unit)⊕Int):=Ab (idx a0 (i1:Int)) fun x3=>Ab (D5 x3) fun x4=>if x4=true then some (.inr (i1:Int))else some (.inl ())
def A5 (a0:List g_api_Cert):Option Int:=Ab (B6 (AJ a0) a0.length 0 ()) fun x1=>match x1 with| .inr r=>some r| .inl y1=>some (-1)
theorem Fg {a0 r}(hm:A5 a0=some r):Sf prog 212 [sl Ae a0,.fn (.func 129) [] []] (.d (.i r)):=by
 refine sq ?_;intros;refine oB hm fun x1 q1 hm=>JZ 0 (E:=Ae) (xs:=a0) 6 fun hle1=>gF (EN _ _ _) q1 (fun p0 _=>⟨[(0,sl Ae a0),(1,.fn (.func 129) [] []),(7,.d (.i (a0.length:Int))),(8,.d (.i p0))],[],[],0⟩) fun i1 s1 Jl bl1=>cN bl1 (a0.length:Int) (fun y2 q4 bl1=> ?_) fun e=> ?_
 ·refine oB q4 fun x3 q6 q4=>gx Ae 13 q6<|gA q4 Mv fun x4 q7 q4=>gi q4 ?_ ?_<;>intro hc1 q4
  ·obtain rfl:=nT bl1 q4;exact Aid hm▸gE
  exact gT bl1 hle1 q4
 subst e;exact Aid hm▸gE
def Aw (a0:List g_api_Cert):Option Bool:=Ab (A5 a0) fun x1=>some (decide (x1≥0))
theorem Cx {a0 r}(hm:Aw a0=some r):Sf prog 132 [sl Ae a0,.fn (.func 129) [] []] (.d (.t r)):=by
 refine sq ?_;intros;refine gA hm Fg fun x1 q1 hm=> ?_;exact Aid hm▸gE
def Ch (a0:List UInt8)(i1:Int)(s1:Unit):Option ((Unit)⊕Int):=Ab (idx a0 (i1:Int)) fun x3=>Ab (FZ x3) fun x4=>if x4=true then some (.inr (i1:Int))else some (.inl ())
def CC (a0:List UInt8):Option Int:=Ab (B6 (Ch a0) a0.length 0 ()) fun x1=>match x1 with| .inr r=>some r| .inl y1=>some (-1)
theorem Hj {a0 r}(hm:CC a0=some r):Sf prog 211 [sl eB a0,.fn (.func 128) [] []] (.d (.i r)):=by
 refine sq ?_;intros;refine oB hm fun x1 q1 hm=>JZ 0 (E:=eB) (xs:=a0) 6 fun hle1=>gF (EN _ _ _) q1 (fun p0 _=>⟨[(0,sl eB a0),(1,.fn (.func 128) [] []),(7,.d (.i (a0.length:Int))),(8,.d (.i p0))],[],[],0⟩) fun i1 s1 Jl bl1=>cN bl1 (a0.length:Int) (fun y2 q4 bl1=> ?_) fun e=> ?_
 ·refine oB q4 fun x3 q6 q4=>gx eB 1 q6<|gA q4 Mw fun x4 q7 q4=>gi q4 ?_ ?_<;>intro hc1 q4
  ·obtain rfl:=nT bl1 q4;exact Aid hm▸gE
  exact gT bl1 hle1 q4
 subst e;exact Aid hm▸gE
def Bw (a0:List UInt8):Option Bool:=Ab (CC a0) fun x1=>some (decide (x1≥0))
theorem Gz {a0 r}(hm:Bw a0=some r):Sf prog 131 [sl eB a0,.fn (.func 128) [] []] (.d (.t r)):=by
 refine sq ?_;intros;refine gA hm Hj fun x1 q1 hm=> ?_;exact Aid hm▸gE
def Mh (i1:Int)(x3:g_api_Key)(s1:Int):Option ((Int)⊕Int):=Ab (gu (!(decide (x3.Log≤s1))) (CE x3.Log)) fun x4=>Ab (gu (!((decide (x3.Log≤s1))||(!x4))) (CE x3.Delay)) fun x5=>Ab (gu (!(((decide (x3.Log≤s1))||(!x4))||(!x5))) (FX x3.Key)) fun x6=>if((((decide (x3.Log≤s1))||(!x4))||(!x5))||(!x6))=true then some (.inr 1)else some (.inl x3.Log)
def DK (i2:Int)(x11:g_api_Key)(s2:Int):Option ((Int)⊕Int):=Ab (gu (!(decide (x11.Log≤s2))) (CE x11.Log)) fun x12=>Ab (gu (!((decide (x11.Log≤s2))||(!x12))) (CE x11.Delay)) fun x13=>Ab (gu (!(((decide (x11.Log≤s2))||(!x12))||(!x13))) (FX x11.Key)) fun x14=>if((((decide (x11.Log≤s2))||(!x12))||(!x13))||(!x14))=true then some (.inr 1)else some (.inl x11.Log)
def BW (a0:Aj):Option Int:=
 if((eqS a0.Client.Who (⟨#[]⟩:ByteArray))||(decide ((a0.Client.Who.size:Int)>64)))=true then
  Ab (gu (!((true||((a0.Client.Roots.length:Int)==0))||(decide ((a0.Client.Roots.length:Int)>8)))) (Aw a0.Client.Roots)) fun x1=>
  if(((true||((a0.Client.Roots.length:Int)==0))||(decide ((a0.Client.Roots.length:Int)>8)))||x1)=true then
   some 1
  else
  Ab (EV Mh a0.Client.Logs 0 (-1)) fun x2=>match x2 with
  | .inr r=>some r
  | .inl y1=>
  if((decide ((a0.Client.Logs.length:Int)>16))||((a0.Client.View !=0)&&(a0.Client.View !=1)))=true then
   some 1
  else
  some 0
 else
 Ab (app 1 ([]:List UInt8) a0.Client.Who.data.toList) fun x7=>
 Ab (Bw x7) fun x8=>
 Ab (gu (!((x8||((a0.Client.Roots.length:Int)==0))||(decide ((a0.Client.Roots.length:Int)>8)))) (Aw a0.Client.Roots)) fun x9=>
 if(((x8||((a0.Client.Roots.length:Int)==0))||(decide ((a0.Client.Roots.length:Int)>8)))||x9)=true then
  some 1
 else
 Ab (EV DK a0.Client.Logs 0 (-1)) fun x10=>match x10 with
 | .inr r=>some r
 | .inl y3=>
 if((decide ((a0.Client.Logs.length:Int)>16))||((a0.Client.View !=0)&&(a0.Client.View !=1)))=true then
  some 1
 else
 some 0
theorem NT {a0 r}(hm:BW a0=some r):Sf prog 49 [ag (Cm a0)] (.d (.i r)):=by
 refine sq ?_;intros;refine AfH 19 hm (fun hc1 hm=> ?_) fun hc1 hm=> ?_
 ·refine oB hm fun x1 q1 hm=>gcH q1 Cx<|gi hm ?_ ?_<;>intro hc2 hm
  ·obtain rfl:=Aid hm;exact gE
  refine oB hm fun x2 q2 hm=>JZ 0 (E:=Am) (xs:=a0.Client.Logs) 50 fun hle1=>gF (ER _ _ _) q2 (fun p0 p=>⟨[(1,.pb 0 0),(5,.d (.i p)),(50,sl Am a0.Client.Logs),(51,.d (.i (a0.Client.Logs.length:Int))),(52,.d (.i p0))],[(0,.box 0 [.d (.s a0.Client.Who),sl Ae a0.Client.Roots,sl Am a0.Client.Logs,sl An a0.Client.Pool.L,.d (.i a0.Client.Cascade.Day),sl Ai a0.Client.Cascade.Levels,.d (.i a0.Client.View)] 110)],[],1⟩) fun i1 s1 Jl bl1=>cR bl1 (fun x3 y2 q6 q5 bl1=> ?_) fun e=> ?_
  ·refine gx Am 3 q6<|oB q5 fun x4 q7 q5=>gcH q7 FH<|oB q5 fun x5 q8 q5=>gcH q8 FH<|oB q5 fun x6 q9 q5=>gcH q9 NS<|gi q5 ?_ ?_<;>intro hc3 q5
   ·obtain rfl:=nT bl1 q5;obtain rfl:=Aid hm;exact gE
   exact gT bl1 hle1 q5
  subst e;let y1:=s1;refine gi hm ?_ ?_<;>intro hc5 hm
  ·obtain rfl:=Aid hm;exact gE
  obtain rfl:=Aid hm;exact gE
 refine oB hm fun x7 q10 hm=>gofS q10<|gD hm Gz fun x8 q11 hm=>oB hm fun x9 q12 hm=>gcH q12 Cx<|gi hm ?_ ?_<;>intro hc6 hm
 ·obtain rfl:=Aid hm;exact gE
 refine oB hm fun x10 q13 hm=>JZ 0 (E:=Am) (xs:=a0.Client.Logs) 50 fun hle2=>gF (ER _ _ _) q13 (fun p0 p=>⟨[(1,.pb 0 0),(5,.d (.i p)),(50,sl Am a0.Client.Logs),(51,.d (.i (a0.Client.Logs.length:Int))),(52,.d (.i p0))],[(0,.box 0 [.d (.s a0.Client.Who),sl Ae a0.Client.Roots,sl Am a0.Client.Logs,sl An a0.Client.Pool.L,.d (.i a0.Client.Cascade.Day),sl Ai a0.Client.Cascade.Levels,.d (.i a0.Client.View)] 110)],[],1⟩) fun i2 s2 Jl bl2=>cR bl2 (fun x11 y4 q17 q16 bl2=> ?_) fun e=> ?_
 ·refine gx Am 3 q17<|oB q16 fun x12 q18 q16=>gcH q18 FH<|oB q16 fun x13 q19 q16=>gcH q19 FH<|oB q16 fun x14 q20 q16=>gcH q20 NS<|gi q16 ?_ ?_<;>intro hc7 q16
  ·obtain rfl:=nT bl2 q16;obtain rfl:=Aid hm;exact gE
  exact gT bl2 hle2 q16
 subst e;let y3:=s2;refine gi hm ?_ ?_<;>intro hc9 hm
 ·obtain rfl:=Aid hm;exact gE
 obtain rfl:=Aid hm;exact gE
def IZ (a0:g_api_Key)(k0:g_api_Head):Option (Bool×g_api_Head):=some ((a0.Log==k0.Log),k0)
theorem Qv {a0 k0 r}(hm:IZ a0 k0=some r):Sp prog 199 [ag (Am a0),.pb 0 0] [.box 0 [.d (.i k0.Log),.d (.i k0.Size),.d (.u k0.Root.1),.d (.u k0.Root.2),.d (.i k0.At),.d (.u k0.Sig.E),.d (.u k0.Sig.S)] 38] 1 (is (.d (.t r.1)) [.box 0 [.d (.i r.2.Log),.d (.i r.2.Size),.d (.u r.2.Root.1),.d (.u r.2.Root.2),.d (.i r.2.At),.d (.u r.2.Sig.E),.d (.u r.2.Sig.S)] 38] 1):=by
 refine sq ?_;intros;exact Aid hm▸gE
def Dk (a0:Int):Option Bool:=bnd (((decide (a0≥0))&&(decide (a0≤1099511627776)))) fun x1=>some x1
theorem EC {a0 r}(hm:Dk a0=some r):Sf prog 99 [.d (.i a0)] (.d (.t r)):=by
 refine sq ?_;intros;refine bE hm ?_;intro x1 hm;obtain rfl:=Aid hm;exact gE
def MR (a0:UInt64×UInt64)(i1:Int)(s1:(List UInt8)):Option ((List UInt8)):=Ab (idx [a0.1,a0.2] (i1:Int)) fun x4=>Ab (Gk s1 x4 8) fun x5=>some x5
def Ey (a0:UInt64×UInt64):Option (List UInt8):=Ab (Ab (CS (MR a0) 2 0 ([]:List UInt8)) fun x2=>some x2) fun x1=>some x1
theorem J8 {a0 r}(hm:Ey a0=some r):Sp prog 158 [ag (AT a0)] [] 0 (is (.ow 0) [.row 0 1 _ eB r] 1):=by
 refine sq ?_;intros;unfold Ey at hm;obtain⟨x1,q1,hm⟩:=Ad hm;refine oB q1 fun x2 q2 q1=>V6 0 eB 3 1<|gF (EM _ 2 _) q2 (fun p0 p=>⟨[(3,.ow 1),(6,.agg [.d (.u a0.1),.d (.u a0.2)]),(7,.d (.i p0)),(1,.pb 0 0)],[(0,.row 1 1 _ eB p),(1,.box 0 [.d (.u a0.1),.d (.u a0.2)] 34)],[],2⟩) fun i1 s1 Jl bl1=>cM bl1 (2:Int) (fun y1 q5 bl1=> ?_) fun e=> ?_
 ·exact oB q5 fun x4 q7 q5=>gidxV (k:=1) (ag:=false) (E:=eU) ([a0.1,a0.2]:List UInt64) (fun _=>rfl) (fun _=>q7)<|gD q5 SN fun x5 q8 q5=>gM bl1 lk q5
 subst e;obtain rfl:=Aid q1;let x1:=x2;obtain rfl:=Aid hm;exact gE
def BV (a1:Int):Option (List UInt8):=Ab (if(decide (a1<0))=true then none else some ()) fun x1=>Ab (bnd ((w64 (a1-(w64 (0-((0:Nat):Int)))))) fun x3=>if(decide (x3>0))=true then if 0≤x3∧x3*1≤140737488355328∧x3≤140737488355328 then some ([]:List UInt8)else none else some ([]:List UInt8)) fun x2=>some x2
theorem JA {m As w a1 r}(S:St m (As) w)(hm:BV a1=some r):
  AK Tryz.prog 318 #[.slice none 0 0,vI a1] w fun v w'=> ∃(M:Mem),m≤M∧∃(rv0:Value) (rc0:List Value),St M ((row 1 rv0 rc0 r.length)::As) w'∧v=rv0∧AH M rc0 r:=by
 unfold BV at hm;have L0:=Mem.rfl' m;refine Dp (args:=[.slice none 0 0,vI a1]) Tryz.func318 rfl Tryz.ntmps318 (Aih rfl)<|Ag<|Ac<|AD (v:= .slice none 0 0) rfl<|Ah<|nrm ?_;obtain⟨x1,q1,hm⟩:=Ad hm;have L1:=Mem.rfl' m;refine Ag<|Bu [5,6,7] (fun f' w'=> ∃(M1:Mem),m≤M1∧St M1 (As) w'∧C2 f' []) ?_ ?_
 ·refine Ag<|Ac<|Ak (v:=vI a1) rfl<|Kz (m:=a1) (n:=0) rfl rfl<|Ah<|nrm<|BL (t:=(decide (a1<0))) rfl (fun hc1=> ?_) (fun hc1=> ?_)
  ·replace q1:=ifT hc1 q1;cases q1
  replace q1:=ifF hc1 q1;refine AL<|nrm ?_;obtain rfl:=Aid q1;exact⟨EY,m,L1,S,trivial⟩
 rintro f1 w1 ho ⟨m1,l1,S1,ha⟩;obtain⟨u1,rfl⟩:=Bt (N:=27) ho ha;replace L0:=Mem.tr L0 l1;clear S;obtain⟨x2,q2,hm⟩:=Ad hm;have L2:=Mem.rfl' m1;refine Ag<|Bu [0,1,8,9,10,11,12,13,14,15,16,17,18,19,20,21,22,23,24,25] (fun f' w'=> ∃(M2:Mem) (v1:Value) (c1:List Value),m1≤M2∧St M2 ((row 1 v1 c1 x2.length)::As) w'∧AH M2 c1 x2∧C2 f' [(0,v1)]) ?_ ?_
 ·refine Ag<|Ac<|Ak (v:=vI a1) rfl<|Ak (v:= .slice none 0 0) rfl<|Nl rfl Tryz.underlying96<|Ak (v:= .slice none 0 0) rfl<|Rk (n:=0) rfl Tryz.underlying96<|LV (m:=0) (n:=((0:Nat):Int)) rfl rfl<|LV (m:=a1) (n:=(w64 (0-((0:Nat):Int)))) rfl rfl ?_;obtain⟨x3,q3,q2⟩:=I5 q2;refine AD (v:=vI x3) (Aiz (fun z=>vI z) q3.symm)<|Ah<|nrm<|Ag<|Ac<|Ak (v:=vI x3) rfl<|Ue (m:=x3) (n:=0) rfl rfl<|Ah<|nrm ?_;refine BL (t:=(decide (x3>0))) rfl (fun hc2=> ?_) (fun hc2=> ?_)
  ·replace q2:=ifT hc2 q2;refine Ac<|Ak (v:= .slice none 0 0) rfl<|Ak (v:= .slice none 0 0) rfl<|Nl rfl Tryz.underlying96<|AaN rfl Tryz.underlying96 Tryz.sizeOf5 rfl<|Ak (v:=vI x3) rfl ?_;obtain⟨q4,q2⟩:=BD q2;refine AaP (bytes:=1) (sz:=1) (k:=x3) (ti:=Tryz.t5) S1 rfl rfl q4 Tryz.underlying96 Tryz.underlying3 Tryz.type5 rfl rfl rfl rfl ?_;intro v2 c2 w2 S2;replace S2:St _ ((row 1 v2 c2 x3.toNat)::As) _:=S2;clear S1;refine Ak (v:= .slice none 0 0) rfl<|Rk (n:=0) rfl Tryz.underlying96<|VG (i:=0) S2 rfl rfl Tryz.underlying96 Tryz.sizeOf5 rfl (j:=0) rfl (Int.le_refl 0) (Ai4 _) ?_;intro v3 S3;rw[show c2.take ((0:Int).toNat*1)=[]from by simp]at S3;have h2:AH m1 [] ([]:List UInt8):=AH.nil;replace S3:St _ ((row 1 v3 [] ([]:List UInt8).length)::As) _:=S3;clear S2;refine AD (v:=v3) rfl<|Ah<|nrm ?_;obtain rfl:=Aid q2;exact⟨EY,m1,_,_,L2,S3,h2,⟨rfl,trivial⟩⟩
  replace q2:=ifF hc2 q2;refine AL<|nrm ?_;have S4:=St.rowNil S1 1;have h3:AH m1 [] ([]:List UInt8):=AH.nil;replace S4:St _ ((row 1 (.slice none 0 0) [] ([]:List UInt8).length)::As) _:=S4;clear S1;obtain rfl:=Aid q2;exact⟨EY,m1,_,_,L2,S4,h3,⟨rfl,trivial⟩⟩
 rintro f2 w3 ho ⟨m2,v1,c1,l2,S5,h1,ha⟩;obtain⟨u2,rfl⟩:=Bt (N:=27) ho ha;replace L0:=Mem.tr L0 l2;clear S1;refine Ag<|Ac<|Ak (v:=v1) rfl<|AD (v:=v1) rfl<|Ah<|nrm<|AZ<|Db ?_;intro we hpd;replace S5:=St.pd S5 hpd;obtain rfl:=Aid hm;exact Io [_] rfl ⟨rfl,trivial⟩ ⟨_,L0,_,_,S5,rfl,h1⟩
def Bg (i1:Int)(x3:List UInt8)(s1:Int):Option (Int):=Ab (bnd ((w64 (s1+(x3.length:Int)))) fun x5=>if(decide (x5<0))=true then none else some x5) fun x4=>some x4
def Bf (i2:Int)(x9:List UInt8)(s2:(List UInt8)):Option ((List UInt8)):=Ab (app 1 s2 x9) fun x10=>some x10
def Be (a0:List (List UInt8)):Option (List UInt8):=Ab (Ab (DA Bg a0 0 0) fun x2=>some x2) fun x1=>Ab (BV x1) fun x6=>Ab (Ab (DA Bf a0 0 x6) fun x8=>some x8) fun x7=>some x7
theorem Kw {m As w a0}{a0v0:Value}{r}(S:St m (As) w)(a0h0:SlR m a0v0 a0)(hm:Be a0=some r):
  AK Tryz.prog 255 #[a0v0] w fun v w'=> ∃(M:Mem),m≤M∧∃(rv0:Value) (rc0:List Value),St M ((row 1 rv0 rc0 r.length)::As) w'∧v=rv0∧AH M rc0 r:=by
 unfold Be at hm;have L0:=Mem.rfl' m;refine Dp (args:=[a0v0]) Tryz.func255 rfl Tryz.ntmps255 (Aih rfl)<|Ag<|Ac<|AD (v:= .slice none 0 0) rfl<|Ah<|nrm<|Ag<|Ac<|AD (v:=vI 0) rfl ?_;refine Ah<|nrm ?_;obtain⟨x1,q1,hm⟩:=Ad hm;have L1:=Mem.rfl' m;refine Ag<|Bu [3,5,9,10,11,12,13,14,15,16,17,18,19,20,21,22] (fun f' w'=> ∃(M1:Mem),m≤M1∧St M1 (As) w'∧C2 f' [(3,vI x1)]) ?_ ?_
 ·refine Ag<|Ac<|Ak (v:=a0v0) rfl<|Hr (xs:=a0) rfl a0h0 Tryz.underlying284<|Ak (v:=vI 0) rfl<|Ah<|nrm ?_;obtain⟨x2,q2,q1⟩:=Ad q1;have L2:=Mem.rfl' m;refine Bu [3,5,11,12,13,14,15,16,17,18,19,20,21,22] (fun f' w'=> ∃(M2:Mem),m≤M2∧St M2 (As) w'∧C2 f' [(3,vI x2)]) ?_ ?_
  ·refine Bi<|DT [3,5,11,12,13,14,15,16,17,18,19,20,21,22] (fun n1 f' w'=> ∃(i1:Nat) (s1:Int) (m3:Mem),n1=a0.length-i1∧i1≤a0.length∧DA Bg (a0.drop i1) (i1:Int) s1=some x2∧m≤m3∧St m3 (As) w'∧C2 f' [(11,vI (i1:Int)),(3,vI s1)]) a0.length ⟨0,0,m,rfl,Ajf _,q2,L2,S,⟨rfl,rfl,trivial⟩⟩ ?_;rintro n1 f1 w1 ho ⟨i1,s1,m1,hn,hi,q3,L4,S1,ha⟩;obtain⟨u1,rfl⟩:=Bt (N:=36) ho ha;clear ho ha;replace a0h0:=a0h0.up L4;have L3:=Mem.rfl' m1;clear S;refine Ag<|Ac<|Kz (m:=(i1:Int)) (n:=(a0.length:Int)) rfl rfl<|Ah<|nrm<|Ag<|BL (t:=decide ((i1:Int)<(a0.length:Int))) rfl (fun hc2=> ?_) (fun hc2=> ?_)
   ·have hlt1:i1<a0.length:=by have:=AiU hc2; omega
    obtain⟨x3,y1,q6,q5,q4⟩:=Ks q3 hlt1;unfold Bg at q5;refine AL<|nrm ?_;obtain⟨x4,q7,q5⟩:=Ad q5;have L5:=Mem.rfl' m1;refine Ag<|Bu [3,5,13,14,15,16,17,18,19,20,21] (fun f' w'=> ∃(M3:Mem),m1≤M3∧St M3 (As) w'∧C2 f' [(3,vI x4)]) ?_ ?_
    ·refine Bi<|Ag<|Ac<|Sr (q:=x3) rfl rfl a0h0 q6 Tryz.underlying284 Tryz.sizeOf96 ?_;intro p1 c1 h1 r1;obtain⟨v1,rfl,h2⟩:=r1;refine Sq (cs:=[v1]) S1 rfl h1 rfl Tryz.isAgg96 Tryz.sizeOf96 (fun _=>rfl)<|AD (v:=v1) rfl<|Ah<|nrm<|Ag<|Ac<|Ak (v:=vI s1) rfl<|Ak (v:=v1) rfl<|Hr (xs:=x3) rfl h2 Tryz.underlying96 ?_;refine Gs (m:=s1) (n:=(x3.length:Int)) rfl rfl ?_;obtain⟨x5,q8,q7⟩:=I5 q7;refine AD (v:=vI x5) (Aiz (fun z=>vI z) q8.symm)<|Ah<|nrm<|Ag<|Ac<|Ak (v:=vI x5) rfl<|Kz (m:=x5) (n:=0) rfl rfl<|Ah<|nrm ?_;refine BL (t:=(decide (x5<0))) rfl (fun hc1=> ?_) (fun hc1=> ?_)
     ·replace q7:=ifT hc1 q7;cases q7
     replace q7:=ifF hc1 q7;refine AL<|VR<|nrm ?_;obtain rfl:=Aid q7;exact⟨EY,m1,L5,S1,⟨rfl,trivial⟩⟩
    rintro f2 w2 ho ⟨m2,l1,S2,ha⟩;obtain⟨u2,rfl⟩:=Bt (N:=36) ho ha;replace a0h0:=a0h0.up l1;replace L3:=Mem.tr L3 l1;clear S1;refine Ac<|Gs (m:=(i1:Int)) (n:=1) rfl rfl<|Ak (v:=vI (w64 ((i1:Int)+1))) rfl<|Ah<|nrm ?_;obtain rfl:=Aid q5;exact⟨EY,_,(by omega),⟨i1+1,x4,m2,rfl,hlt1,q4,Mem.tr L4 L3,S2,⟨Aiz (Value.int .i64) (Im hlt1 (SlR.le a0h0)),rfl,trivial⟩⟩⟩
   have hlt1: ¬i1<a0.length:=by have:=Ai3 hc2; omega
   have e:=Eq.symm (IN q3 hlt1);subst e;exact F8<|thE<|thE<|exB<|nrm<|⟨EY,m1,Mem.tr L4 L3,S1,⟨rfl,trivial⟩⟩
  rintro f3 w3 ho ⟨m4,l2,S3,ha⟩;obtain⟨u3,rfl⟩:=Bt (N:=36) ho ha;clear ho ha;replace a0h0:=a0h0.up l2;replace L1:=Mem.tr L1 l2;clear S;obtain rfl:=Aid q1;exact⟨EY,m4,L1,S3,⟨rfl,trivial⟩⟩
 rintro f4 w4 ho ⟨m5,l3,S4,ha⟩;obtain⟨u4,rfl⟩:=Bt (N:=36) ho ha;replace a0h0:=a0h0.up l3;replace L0:=Mem.tr L0 l3;clear S;refine Ag<|Ac<|Ak (v:=vI x1) rfl ?_;obtain⟨x6,q9,hm⟩:=Ad hm;refine GC Tryz.call318 (JA (a1:=x1) S4 q9) rfl ?_;rintro v2 w5 ⟨m6,l4,_,c2,S5,rfl,h3⟩;replace a0h0:=a0h0.up l4;replace L0:=Mem.tr L0 l4;clear S4;replace S5:St _ ((row 1 v2 c2 x6.length)::As) _:=S5;refine AD (v:=v2) rfl<|Ah<|nrm ?_;obtain⟨x7,q10,hm⟩:=Ad hm;have L6:=Mem.rfl' m6;refine Ag<|Bu [6,8,25,26,27,28,29,30,31,32,33,34] (fun f' w'=> ∃(M4:Mem) (v3:Value) (c3:List Value),m6≤M4∧St M4 ((row 1 v3 c3 x7.length)::As) w'∧AH M4 c3 x7∧C2 f' [(6,v3)]) ?_ ?_
 ·refine Ag<|Ac<|Ak (v:=a0v0) rfl<|Hr (xs:=a0) rfl a0h0 Tryz.underlying284<|Ak (v:=vI 0) rfl<|Ah<|nrm ?_;obtain⟨x8,q11,q10⟩:=Ad q10;have L7:=Mem.rfl' m6;refine Bu [6,8,27,28,29,30,31,32,33,34] (fun f' w'=> ∃(M5:Mem) (v5:Value) (c5:List Value),m6≤M5∧St M5 ((row 1 v5 c5 x8.length)::As) w'∧AH M5 c5 x8∧C2 f' [(6,v5)]) ?_ ?_
  ·refine Bi<|DT [6,8,27,28,29,30,31,32,33,34] (fun n2 f' w'=> ∃(i2:Nat) (s2:(List UInt8)) (m8:Mem) (v4:Value) (c4:List Value),n2=a0.length-i2∧i2≤a0.length∧DA Bf (a0.drop i2) (i2:Int) s2=some x8∧m6≤m8∧St m8 ((row 1 v4 c4 s2.length)::As) w'∧AH m8 c4 s2∧C2 f' [(27,vI (i2:Int)),(6,v4)]) a0.length ⟨0,x6,m6,_,_,rfl,Ajf _,q11,L7,S5,h3,⟨rfl,rfl,trivial⟩⟩ ?_;rintro n2 f5 w6 ho ⟨i2,s2,m7,v4,c4,hn,hi,q12,L9,S6,h5,ha⟩;obtain⟨u5,rfl⟩:=Bt (N:=36) ho ha;clear ho ha;replace a0h0:=a0h0.up L9;have L8:=Mem.rfl' m7;clear S5;refine Ag<|Ac<|Kz (m:=(i2:Int)) (n:=(a0.length:Int)) rfl rfl<|Ah<|nrm<|Ag<|BL (t:=decide ((i2:Int)<(a0.length:Int))) rfl (fun hc3=> ?_) (fun hc3=> ?_)
   ·have hlt2:i2<a0.length:=by have:=AiU hc3; omega
    obtain⟨x9,y2,q15,q14,q13⟩:=Ks q12 hlt2;unfold Bf at q14;refine AL<|nrm<|Ag<|Bi<|Ag<|Ac<|Sr (q:=x9) rfl rfl a0h0 q15 Tryz.underlying284 Tryz.sizeOf96 ?_;intro p2 c6 h7 r6;obtain⟨v6,rfl,h8⟩:=r6;refine Sq (cs:=[v6]) S6 rfl h7 rfl Tryz.isAgg96 Tryz.sizeOf96 (fun _=>rfl)<|AD (v:=v6) rfl<|Ah<|nrm<|Ac<|Ak (v:=v4) rfl<|Ak (v:=v6) rfl ?_;obtain⟨x10,q16,q14⟩:=Ad q14;refine Mg (i:=0) (zs:=x10) (bytes:=1) (ti:=Tryz.t5) S6 rfl rfl h5 rfl rfl h8 q16 Tryz.underlying96 Tryz.type5 rfl rfl rfl rfl ?_;intro v7 c7 w7 S7 h9;replace S7:St _ ((row 1 v7 c7 x10.length)::As) _:=S7;clear S6;refine AD (v:=v7) rfl<|Ah<|VR<|nrm<|Ac<|Gs (m:=(i2:Int)) (n:=1) rfl rfl<|Ak (v:=vI (w64 ((i2:Int)+1))) rfl<|Ah<|nrm ?_;obtain rfl:=Aid q14;exact⟨EY,_,(by omega),⟨i2+1,x10,m7,_,_,rfl,hlt2,q13,Mem.tr L9 L8,S7,h9,⟨Aiz (Value.int .i64) (Im hlt2 (SlR.le a0h0)),rfl,trivial⟩⟩⟩
   have hlt2: ¬i2<a0.length:=by have:=Ai3 hc3; omega
   have e:=Eq.symm (IN q12 hlt2);subst e;exact F8<|thE<|thE<|exB<|nrm<|⟨EY,m7,_,_,Mem.tr L9 L8,S6,h5,⟨rfl,trivial⟩⟩
  rintro f6 w8 ho ⟨m9,v5,c5,l5,S8,h6,ha⟩;obtain⟨u6,rfl⟩:=Bt (N:=36) ho ha;clear ho ha;replace L6:=Mem.tr L6 l5;clear S5;obtain rfl:=Aid q10;exact⟨EY,m9,_,_,L6,S8,h6,⟨rfl,trivial⟩⟩
 rintro f7 w9 ho ⟨m10,v3,c3,l6,S9,h4,ha⟩;obtain⟨u7,rfl⟩:=Bt (N:=36) ho ha;replace L0:=Mem.tr L0 l6;clear S5;refine Ag<|Ac<|Ak (v:=v3) rfl<|AD (v:=v3) rfl<|Ah<|nrm<|AZ<|Db ?_;intro we hpd;replace S9:=St.pd S9 hpd;obtain rfl:=Aid hm;exact Io [_] rfl ⟨rfl,trivial⟩ ⟨_,L0,_,_,S9,rfl,h4⟩
theorem GA {a0 r}(hm:Be a0=some r):Sp prog 255 [sl (eL eB) a0] [] 0 (is (.ow 0) [.row 0 1 _ eB r] 1):=
 ⟨call255,fun η m As w vs hv0 hd S=>by
  have S:St m As w:=S;obtain⟨v0,u0,rfl,r0,hv1⟩:=Bh.cons_inv hv0;have f0:=Br.ofS (Br.sl Br.b) r0.dd;obtain rfl:=Bh.nil_inv hv1;refine AK.mono (Kw S f0 hm) ?_;rintro v w' ⟨M,hle,y0,c0,S0,rfl,h0⟩;exact⟨M,(Xt [v]),_,_,_,hle,Wi hd _,⟨rfl,rfl,rfl⟩,Fx rfl,(.ow rfl (B2 S0)),(St.impL S0 (Sn (Br.toR Br.b rfl rfl (B2 S0) h0) fun _ h=>h))⟩⟩
def KY (a0:ByteArray)(a1:List (List UInt8)):Option (List UInt8):=Ab (app 1 ([]:List UInt8) a0.data.toList) fun x1=>Ab (Be a1) fun x2=>Ab (app 1 x1 x2) fun x3=>some x3
theorem SK {a0 a1 r}(hm:KY a0 a1=some r):Sp prog 188 [.d (.s a0),sl (eL eB) a1] [] 0 (is (.ow 0) [.row 0 1 _ eB r] 1):=by
 refine sq ?_;intros;refine oB hm fun x1 q1 hm=>gofS q1<|gD hm GA fun x2 q2 hm=>oB hm fun x3 q3 hm=>gp eB 1 q3 ?_;exact Aid hm▸gE
def JL (a0:Int)(i1:Int)(s1:UInt8×UInt8×UInt8×UInt8×UInt8×UInt8×UInt8×UInt8):Option (UInt8×UInt8×UInt8×UInt8×UInt8×UInt8×UInt8×UInt8):=if(0:Int)≤(w64 (56-(w64 (8*(i1:Int)))))then Ab (idx [s1.1,s1.2.1,s1.2.2.1,s1.2.2.2.1,s1.2.2.2.2.1,s1.2.2.2.2.2.1,s1.2.2.2.2.2.2.1,s1.2.2.2.2.2.2.2] (i1:Int)) fun x4=>bnd (if(i1:Int)=0 then(toB (Bx a0 ((w64 (56-(w64 (8*(i1:Int))))).toNat)))else s1.1) fun x5=>bnd (if(i1:Int)=1 then(toB (Bx a0 ((w64 (56-(w64 (8*(i1:Int))))).toNat)))else s1.2.1) fun x6=>bnd (if(i1:Int)=2 then(toB (Bx a0 ((w64 (56-(w64 (8*(i1:Int))))).toNat)))else s1.2.2.1) fun x7=>bnd (if(i1:Int)=3 then(toB (Bx a0 ((w64 (56-(w64 (8*(i1:Int))))).toNat)))else s1.2.2.2.1) fun x8=>bnd (if(i1:Int)=4 then(toB (Bx a0 ((w64 (56-(w64 (8*(i1:Int))))).toNat)))else s1.2.2.2.2.1) fun x9=>bnd (if(i1:Int)=5 then(toB (Bx a0 ((w64 (56-(w64 (8*(i1:Int))))).toNat)))else s1.2.2.2.2.2.1) fun x10=>bnd (if(i1:Int)=6 then(toB (Bx a0 ((w64 (56-(w64 (8*(i1:Int))))).toNat)))else s1.2.2.2.2.2.2.1) fun x11=>bnd (if(i1:Int)=7 then(toB (Bx a0 ((w64 (56-(w64 (8*(i1:Int))))).toNat)))else s1.2.2.2.2.2.2.2) fun x12=>some (x5,x6,x7,x8,x9,x10,x11,x12)else none
def D2 (a0:Int):Option (List UInt8):=Ab (Ab (CS (JL a0) 8 0 (0,0,0,0,0,0,0,0)) fun x2=>some (x2.1,x2.2.1,x2.2.2.1,x2.2.2.2.1,x2.2.2.2.2.1,x2.2.2.2.2.2.1,x2.2.2.2.2.2.2.1,x2.2.2.2.2.2.2.2)) fun x1=>some ([x1.1,x1.2.1,x1.2.2.1,x1.2.2.2.1,x1.2.2.2.2.1,x1.2.2.2.2.2.1,x1.2.2.2.2.2.2.1,x1.2.2.2.2.2.2.2]:List UInt8)
theorem IA {a0 r}(hm:D2 a0=some r):Sp prog 189 [.d (.i a0)] [] 0 (is (.ow 0) [.row 0 1 _ eB r] 1):=by
 refine sq ?_;intros;unfold D2 at hm;obtain⟨x1,q1,hm⟩:=Ad hm;refine oB q1 fun x2 q2 q1=>gF (EM _ 8 _) q2 (fun p0 (p_0,p_1,p_2,p_3,p_4,p_5,p_6,p_7)=>⟨[(0,.d (.i a0)),(3,.pb 0 0),(5,.d (.i p0))],[(0,.box 0 [.d (.b p_0),.d (.b p_1),.d (.b p_2),.d (.b p_3),.d (.b p_4),.d (.b p_5),.d (.b p_6),.d (.b p_7)] 300)],[],1⟩) fun i1 s1 Jl bl1=>cM bl1 (8:Int) (fun y1 q5 bl1=> ?_) fun e=> ?_
 ·unfold JL at q5;obtain⟨q7,q5⟩:=BD q5;refine gsh (r:= .i (Bx a0 ((w64 (56-(w64 (8*(i1:Int))))).toNat))) (fun h=>q7)<|oB q5 fun x4 q8 q5=>UO (fun _=>q8)<|bE q5 ?_;intro x5 q5;refine bE q5 ?_;intro x6 q5;refine bE q5 ?_;intro x7 q5;refine bE q5 ?_;intro x8 q5;refine bE q5 ?_;intro x9 q5;refine bE q5 ?_;intro x10 q5;refine bE q5 ?_;intro x11 q5;refine bE q5 ?_;intro x12 q5;exact gstA D.b (toB (Bx a0 ((w64 (56-(w64 (8*(i1:Int))))).toNat))) q8<|gM bl1 lk q5
 subst e;obtain rfl:=Aid q1;let x1:=(x2.1,x2.2.1,x2.2.2.1,x2.2.2.2.1,x2.2.2.2.2.1,x2.2.2.2.2.2.1,x2.2.2.2.2.2.2.1,x2.2.2.2.2.2.2.2);refine gslA (k:=1) eB ([x1.1,x1.2.1,x1.2.2.1,x1.2.2.2.1,x1.2.2.2.2.1,x1.2.2.2.2.2.1,x1.2.2.2.2.2.2.1,x1.2.2.2.2.2.2.2]:List UInt8) (fun _=>rfl) ?_;obtain rfl:=Aid hm;exact gE
def HA (a0:g_api_Head):Option (List UInt8):=Ab (D2 a0.Log) fun x1=>Ab (D2 a0.Size) fun x2=>Ab (Ey a0.Root) fun x3=>Ab (D2 a0.At) fun x4=>Ab (KY (⟨#[104,101,97,100]⟩:ByteArray) ([x1,x2,x3,x4]:List (List UInt8))) fun x5=>some x5
theorem Ot {a0 r}(hm:HA a0=some r):Sp prog 102 [ag (An a0)] [] 0 (is (.ow 0) [.row 0 1 _ eB r] 1):=by
 refine sq ?_;intros;refine gD hm IA fun x1 q1 hm=>gD hm IA fun x2 q2 hm=>gD hm J8 fun x3 q3 hm=>gD hm IA fun x4 q4 hm=>ZJ (k:=1) (eL eB) ([x1,x2,x3,x4]:List (List UInt8)) (fun _=>rfl)<|gD hm SK fun x5 q5 hm=> ?_;exact Aid hm▸gE
def Hz (a0:g_api_Key)(a1:Int)(a2:Bool)(a3:List UInt8)(a4:g_api_Sig):Option Int:=Ab (Dk a1) fun x1=>if((!x1)||(!a2))=true then some 1 else if(a1 !=a0.Log)=true then some 240 else Ab (Ew a0.Key a3 a4) fun x2=>some x2
theorem Oq {a0 a1 a2 a3 a4 r}(hm:Hz a0 a1 a2 a3 a4=some r):Sf prog 154 [ag (Am a0),.d (.i a1),.d (.t a2),sl eB a3,ag (Lb a4)] (.d (.i r)):=by
 refine sq ?_;intros;refine gA hm EC fun x1 q1 hm=>gi hm ?_ ?_<;>intro hc1 hm
 ·exact Aid hm▸gE
 refine gi hm ?_ ?_<;>intro hc2 hm
 ·exact Aid hm▸gE
 refine gA hm PR fun x2 q2 hm=> ?_;exact Aid hm▸gE
def DW (a0:g_api_Key)(a1:g_api_Head):Option Int:=Ab (Dk a1.At) fun x1=>Ab (HA a1) fun x2=>Ab (Hz a0 a1.Log ((x1&&(decide (a1.Size≥0)))&&(decide (a1.Size≤256))) x2 a1.Sig) fun x3=>some x3
theorem Qs {a0 a1 r}(hm:DW a0 a1=some r):Sf prog 200 [ag (Am a0),ag (An a1)] (.d (.i r)):=by
 refine sq ?_;intros;refine gA hm EC fun x1 q1 hm=>gD hm Ot fun x2 q2 hm=>gD hm Oq fun x3 q3 hm=> ?_;exact Aid hm▸gE
def BH (a0:List g_api_Key)(i1:Int)(s1:Int×Int×UInt64×UInt64×Int×UInt64×UInt64):Option ((Int×Int×UInt64×UInt64×Int×UInt64×UInt64)⊕(Int×g_api_Head)):=Ab (idx a0 (i1:Int)) fun x3=>Ab (IZ x3 (⟨s1.1,s1.2.1,(s1.2.2.1,s1.2.2.2.1),s1.2.2.2.2.1,(⟨s1.2.2.2.2.2.1,s1.2.2.2.2.2.2⟩:g_api_Sig)⟩:g_api_Head)) fun x4=>if x4.1=true then some (.inr ((i1:Int),x4.2))else some (.inl (x4.2.Log,x4.2.Size,x4.2.Root.1,x4.2.Root.2,x4.2.At,x4.2.Sig.E,x4.2.Sig.S))
def Bc (a0:List g_api_Key)(k0:g_api_Head):Option (Int×g_api_Head):=Ab (B6 (BH a0) a0.length 0 (k0.Log,k0.Size,k0.Root.1,k0.Root.2,k0.At,k0.Sig.E,k0.Sig.S)) fun x1=>match x1 with| .inr r=>some r| .inl y1=>some ((-1),(⟨y1.1,y1.2.1,(y1.2.2.1,y1.2.2.2.1),y1.2.2.2.2.1,(⟨y1.2.2.2.2.2.1,y1.2.2.2.2.2.2⟩:g_api_Sig)⟩:g_api_Head))
theorem FF {a0 k0 r}(hm:Bc a0 k0=some r):Sp prog 139 [sl Am a0,.fn (.func 199) [] [.pb 0 0]] [.box 0 [.d (.i k0.Log),.d (.i k0.Size),.d (.u k0.Root.1),.d (.u k0.Root.2),.d (.i k0.At),.d (.u k0.Sig.E),.d (.u k0.Sig.S)] 38] 1 (is (.d (.i r.1)) [.box 0 [.d (.i r.2.Log),.d (.i r.2.Size),.d (.u r.2.Root.1),.d (.u r.2.Root.2),.d (.i r.2.At),.d (.u r.2.Sig.E),.d (.u r.2.Sig.S)] 38] 1):=by
 refine sq ?_;intros;refine oB hm fun x1 q1 hm=>JZ 0 (E:=Am) (xs:=a0) 6 fun hle1=>gF (EN _ _ _) q1 (fun p0 (p_0,p_1,p_2,p_3,p_4,p_5,p_6)=>⟨[(0,sl Am a0),(1,.fn (.func 199) [] [.pb 0 0]),(7,.d (.i (a0.length:Int))),(8,.d (.i p0))],[(0,.box 0 [.d (.i p_0),.d (.i p_1),.d (.u p_2),.d (.u p_3),.d (.i p_4),.d (.u p_5),.d (.u p_6)] 38)],[],1⟩) fun i1 s1 Jl bl1=>cN bl1 (a0.length:Int) (fun y2 q4 bl1=> ?_) fun e=> ?_
 ·refine oB q4 fun x3 q6 q4=>gx Am 3 q6<|gD q4 Qv fun x4 q7 q4=>gi q4 ?_ ?_<;>intro hc1 q4
  ·obtain rfl:=nT bl1 q4;obtain rfl:=Aid hm;exact gE
  exact gT bl1 hle1 q4
 subst e;let y1:=s1;obtain rfl:=Aid hm;exact gE
def E9 (a0:g_api_Head)(a1:List g_api_Key):Option Bool:=Ab (Bc a1 a0) fun x1=>Ab (gu (decide (x1.1≥0)) (idx a1 x1.1)) fun x2=>Ab (gu (decide (x1.1≥0)) (DW x2 x1.2)) fun x3=>bnd (((decide (x1.1≥0))&&(x3==0))) fun x4=>some x4
theorem Nw {a0 a1 r}(hm:E9 a0 a1=some r):Sf prog 116 [ag (An a0),sl Am a1] (.d (.t r)):=by
 refine sq ?_;intros;refine gD hm FF fun x1 q1 hm=>oB hm fun x2 q2 hm=>gxG Am 3 q2<|oB hm fun x3 q3 hm=>gcH q3 Qs<|bE hm ?_;intro x4 hm;obtain rfl:=Aid hm;exact gE
theorem Sk {m:Mem}{As:List Ow}{w:World}{a0:g_api_Head}{a1:List g_api_Key}{a1v0:Value}{r:Bool}(S:St m As w)(a1h0:SlR m a1v0 a1)(hm:E9 a0 a1=some r):
  AK prog 116 #[.agg #[vI a0.Log,vI a0.Size,vU a0.Root.1,vU a0.Root.2,vI a0.At,vU a0.Sig.E,vU a0.Sig.S],a1v0] w fun v w'=> ∃(M:Mem),m≤M∧St M (As) w'∧v=vb r:=by
 refine AK.mono ((Nw hm).2 none0 m As w [.agg #[vI a0.Log,vI a0.Size,vU a0.Root.1,vU a0.Root.2,vI a0.At,vU a0.Sig.E,vU a0.Sig.S],a1v0] (.cons (Br.toA Lf (Jf)) (.cons (.d (Br.toS Ld a1h0)) .nil)) (fun n h=>absurd rfl h) S) ?_;rintro v w' ⟨M,η',r',obs',n1,hle,_,⟨rfl,rfl,rfl⟩,hdom,hR,S'⟩;obtain rfl:=hR.t_inv;exact⟨M,hle,S',rfl⟩
def FY (i1:Int)(x2:Int)(s1:Unit):Option ((Unit)⊕Int):=if(x2 !=0)=true then some (.inr x2)else some (.inl ())
def MU (a0:List Int):Option Int:=Ab (EV FY a0 0 ()) fun x1=>match x1 with| .inr r=>some r| .inl y1=>some 0
theorem Vu {a0 r}(hm:MU a0=some r):Sf prog 322 [sl eI a0] (.d (.i r)):=by
 refine sq ?_;intros;refine oB hm fun x1 q1 hm=>JZ 0 (E:=eI) (xs:=a0) 6 fun hle1=>gF (ER _ _ _) q1 (fun p0 _=>⟨[(3,.d (.i 0)),(6,sl eI a0),(7,.d (.i (a0.length:Int))),(8,.d (.i p0))],[],[],0⟩) fun i1 s1 Jl bl1=>cR bl1 (fun x2 y2 q5 q4 bl1=> ?_) fun e=> ?_
 ·refine gx eI 1 q5<|gi q4 ?_ ?_<;>intro hc1 q4
  ·obtain rfl:=nT bl1 q4;exact Aid hm▸gE
  exact gT bl1 hle1 q4
 subst e;exact Aid hm▸gE
def Kj (a0:List Int):Option Int:=Ab (MU a0) fun x1=>some x1
theorem Vp {a0 r}(hm:Kj a0=some r):Sf prog 267 [sl eI a0] (.d (.i r)):=by
 refine sq ?_;intros;refine gA hm Vu fun x1 q1 hm=> ?_;exact Aid hm▸gE
def HE (a0:Int):Option Bool:=some (a0 !=a0)
theorem Ms {a0 r}(hm:HE a0=some r):Sf prog 265 [.d (.i a0)] (.d (.t r)):=by
 refine sq ?_;intros;exact Aid hm▸gE
def Dr (a0:Int)(a1:Int):Option Int:=Ab (HE a0) fun x1=>Ab (HE a1) fun x2=>if x1=true then if x2=true then some 0 else some (-1)else if x2=true then some 1 else if(decide (a0<a1))=true then some (-1)else if(decide (a0>a1))=true then some 1 else some 0
theorem H3 {a0 a1 r}(hm:Dr a0 a1=some r):Sf prog 268 [.d (.i a0),.d (.i a1)] (.d (.i r)):=by
 refine sq ?_;intros;refine gA hm Ms fun x1 q1 hm=>gA hm Ms fun x2 q2 hm=>gi hm ?_ ?_<;>intro hc1 hm
 ·refine gi hm ?_ ?_<;>intro hc2 hm
  ·exact Aid hm▸gE
  exact Aid hm▸gE
 refine gi hm ?_ ?_<;>intro hc3 hm
 ·exact Aid hm▸gE
 refine gi hm ?_ ?_<;>intro hc4 hm
 ·exact Aid hm▸gE
 refine gi hm ?_ ?_<;>intro hc5 hm
 ·exact Aid hm▸gE
 exact Aid hm▸gE
def Fv (a0:UInt64):Option Bool:=bnd (((a0.toNat:Int) !=(a0.toNat:Int))) fun x1=>some x1
theorem J9 {a0 r}(hm:Fv a0=some r):Sf prog 365 [.d (.u a0)] (.d (.t r)):=by
 refine sq ?_;intros;refine bE hm ?_;intro x1 hm;obtain rfl:=Aid hm;exact gE
def Ei (a0:UInt64)(a1:UInt64):Option Int:=Ab (Fv a0) fun x1=>Ab (Fv a1) fun x2=>if x1=true then if x2=true then some 0 else some (-1)else if x2=true then some 1 else if(decide ((a0.toNat:Int)<(a1.toNat:Int)))=true then some (-1)else if(decide ((a0.toNat:Int)>(a1.toNat:Int)))=true then some 1 else some 0
theorem Nq {a0 a1 r}(hm:Ei a0 a1=some r):Sf prog 323 [.d (.u a0),.d (.u a1)] (.d (.i r)):=by
 refine sq ?_;intros;refine gA hm J9 fun x1 q1 hm=>gA hm J9 fun x2 q2 hm=>gi hm ?_ ?_<;>intro hc1 hm
 ·refine gi hm ?_ ?_<;>intro hc2 hm
  ·exact Aid hm▸gE
  exact Aid hm▸gE
 refine gi hm ?_ ?_<;>intro hc3 hm
 ·exact Aid hm▸gE
 refine gi hm ?_ ?_<;>intro hc4 hm
 ·exact Aid hm▸gE
 refine gi hm ?_ ?_<;>intro hc5 hm
 ·exact Aid hm▸gE
 exact Aid hm▸gE
def BP (a0:List UInt64)(a1:List UInt64)(i1:Int)(s1:Unit):Option ((Unit)⊕Int):=Ab (idx a0 (i1:Int)) fun x3=>if(decide ((i1:Int)≥(a1.length:Int)))=true then some (.inr 1)else Ab (idx a1 (i1:Int)) fun x4=>Ab (Ei x3 x4) fun x5=>if(x5 !=0)=true then some (.inr x5)else some (.inl ())
def B7 (a0:List UInt64)(a1:List UInt64):Option Int:=Ab (B6 (BP a0 a1) a0.length 0 ()) fun x1=>match x1 with| .inr r=>some r| .inl y1=>if(decide ((a0.length:Int)<(a1.length:Int)))=true then some (-1)else some 0
theorem Iw {a0 a1 r}(hm:B7 a0 a1=some r):Sf prog 269 [sl eU a0,sl eU a1] (.d (.i r)):=by
 refine sq ?_;intros;refine oB hm fun x1 q1 hm=>JZ 0 (E:=eU) (xs:=a0) 9 fun hle1=>gF (EN _ _ _) q1 (fun p0 _=>⟨[(0,sl eU a0),(1,sl eU a1),(9,sl eU a0),(10,.d (.i (a0.length:Int))),(11,.d (.i p0))],[],[],0⟩) fun i1 s1 Jl bl1=>cN bl1 (a0.length:Int) (fun y2 q4 bl1=> ?_) fun e=> ?_
 ·refine oB q4 fun x3 q6 q4=>gx eU 1 q6<|gi q4 ?_ ?_<;>intro hc1 q4
  ·obtain rfl:=nT bl1 q4;exact Aid hm▸gE
  refine oB q4 fun x4 q7 q4=>gx eU 1 q7<|gA q4 Nq fun x5 q8 q4=>gi q4 ?_ ?_<;>intro hc2 q4
  ·obtain rfl:=nT bl1 q4;exact Aid hm▸gE
  exact gT bl1 hle1 q4
 subst e;refine gi hm ?_ ?_<;>intro hc4 hm
 ·exact Aid hm▸gE
 exact Aid hm▸gE
def D3 (a0:g_api_Head)(a1:g_api_Head):Option Int:=Ab (Dr a0.Log a1.Log) fun x1=>Ab (Dr a0.Size a1.Size) fun x2=>Ab (B7 ([a0.Root.1,a0.Root.2]:List UInt64) ([a1.Root.1,a1.Root.2]:List UInt64)) fun x3=>Ab (Dr a0.At a1.At) fun x4=>Ab (Kj ([x1,x2,x3,x4]:List Int)) fun x5=>some x5
theorem Mp {a0 a1 r}(hm:D3 a0 a1=some r):Sf prog 201 [ag (An a0),ag (An a1)] (.d (.i r)):=by
 refine sq ?_;intros;refine Ahx 2 [.i a0.Log,.i a0.Size,.u a0.Root.1,.u a0.Root.2,.i a0.At,.u a0.Sig.E,.u a0.Sig.S]<|Ahx 3 [.i a1.Log,.i a1.Size,.u a1.Root.1,.u a1.Root.2,.i a1.At,.u a1.Sig.E,.u a1.Sig.S]<|gA hm H3 fun x1 q1 hm=>gA hm H3 fun x2 q2 hm=>gslM (k:=1) (E:=eU) ([a0.Root.1,a0.Root.2]:List UInt64) (fun _=>rfl)<|gslM (k:=1) (E:=eU) ([a1.Root.1,a1.Root.2]:List UInt64) (fun _=>rfl)<|gA hm Iw fun x3 q3 hm=>gA hm H3 fun x4 q4 hm=>gq eI 1 [x1,x2,x3,x4] ?_;refine gA hm Vp fun x5 q5 hm=> ?_;exact Aid hm▸gE
def D8 (a0:g_api_Head)(a1:g_api_Head):Option Int:=Ab (D3 a0 a1) fun x1=>some x1
theorem Ny {a0 a1 r}(hm:D8 a0 a1=some r):Sf prog 118 [ag (An a0),ag (An a1)] (.d (.i r)):=by
 refine sq ?_;intros;refine gA hm Mp fun x1 q1 hm=> ?_;exact Aid hm▸gE
theorem NC {m:Mem}{As:List Ow}{w:World}{a0:g_api_Head}{a1:g_api_Head}{r:Int}(S:St m As w)(hm:D8 a0 a1=some r):
  AK prog 118 #[.agg #[vI a0.Log,vI a0.Size,vU a0.Root.1,vU a0.Root.2,vI a0.At,vU a0.Sig.E,vU a0.Sig.S],.agg #[vI a1.Log,vI a1.Size,vU a1.Root.1,vU a1.Root.2,vI a1.At,vU a1.Sig.E,vU a1.Sig.S]] w fun v w'=> ∃(M:Mem),m≤M∧St M (As) w'∧v=vI r:=by
 refine AK.mono ((Ny hm).2 none0 m As w [.agg #[vI a0.Log,vI a0.Size,vU a0.Root.1,vU a0.Root.2,vI a0.At,vU a0.Sig.E,vU a0.Sig.S],.agg #[vI a1.Log,vI a1.Size,vU a1.Root.1,vU a1.Root.2,vI a1.At,vU a1.Sig.E,vU a1.Sig.S]] (.cons (Br.toA Lf (Jf)) (.cons (Br.toA Lf (Jf)) .nil)) (fun n h=>absurd rfl h) S) ?_;rintro v w' ⟨M,η',r',obs',n1,hle,_,⟨rfl,rfl,rfl⟩,hdom,hR,S'⟩;obtain rfl:=hR.i_inv;exact⟨M,hle,S',rfl⟩
def CU (a0:g_api_Pool)(i1:Int)(s1:Unit):Option ((Unit)⊕Bool):=Ab (gu (decide ((i1:Int)>0)) (idx a0.L (w64 ((i1:Int)-1)))) fun x3=>Ab (gu (decide ((i1:Int)>0)) (idx a0.L (i1:Int))) fun x4=>Ab (gu (decide ((i1:Int)>0)) (D8 x3 x4)) fun x5=>if((decide ((i1:Int)>0))&&(decide (x5≥0)))=true then some (.inr false)else some (.inl ())
def GS (a0:g_api_Pool):Option Bool:=Ab (B6 (CU a0) a0.L.length 0 ()) fun x1=>match x1 with| .inr r=>some r| .inl y1=>some true
theorem Qw {a0 r}(hm:GS a0=some r):Sf prog 198 [ag (Jx a0)] (.d (.t r)):=by
 refine sq ?_;intros;refine oB hm fun x1 q1 hm=>JZ 0 (E:=An) (xs:=a0.L) 5 fun hle1=>gF (EN _ _ _) q1 (fun p0 _=>⟨[(1,.pb 0 0),(6,.d (.i (a0.L.length:Int))),(7,.d (.i p0))],[(0,.box 0 [sl An a0.L] 26)],[],1⟩) fun i1 s1 Jl bl1=>cN bl1 (a0.L.length:Int) (fun y2 q4 bl1=> ?_) fun e=> ?_
 ·refine oB q4 fun x3 q6 q4=>gxG An 7 q6<|oB q4 fun x4 q7 q4=>gxG An 7 q7<|oB q4 fun x5 q8 q4=>gcH q8 Ny<|gi q4 ?_ ?_<;>intro hc1 q4
  ·obtain rfl:=nT bl1 q4;exact Aid hm▸gE
  exact gT bl1 hle1 q4
 subst e;exact Aid hm▸gE
def Gl (a1:List g_api_Key)(i1:Int)(x4:g_api_Head)(s1:Unit):Option ((Unit)⊕Int):=Ab (E9 x4 a1) fun x5=>if(!x5)=true then some (.inr 40)else some (.inl ())
def Fa (a0:g_api_Pool)(a1:List g_api_Key):Option Int:=bnd ((decide ((a0.L.length:Int)>1024))) fun x1=>if x1=true then some 2 else Ab (GS a0) fun x2=>if(!x2)=true then some 1 else Ab (EV (Gl a1) a0.L 0 ()) fun x3=>match x3 with| .inr r=>some r| .inl y1=>some 0
theorem Nz {a0 a1 r}(hm:Fa a0 a1=some r):Sf prog 115 [ag (Jx a0),sl Am a1] (.d (.i r)):=by
 refine sq ?_;intros;refine bE hm ?_;intro x1 hm;refine gi hm ?_ ?_<;>intro hc1 hm
 ·obtain rfl:=Aid hm;exact gE
 refine gA hm Qw fun x2 q2 hm=>gi hm ?_ ?_<;>intro hc2 hm
 ·obtain rfl:=Aid hm;exact gE
 refine oB hm fun x3 q3 hm=>JZ 1 (E:=An) (xs:=a0.L) 17 fun hle1=>gF (ER _ _ _) q3 (fun p0 _=>⟨[(1,sl Am a1),(17,sl An a0.L),(18,.d (.i (a0.L.length:Int))),(19,.d (.i p0)),(2,.pb 0 0)],[(0,.box 0 [sl An a0.L] 26)],[],1⟩) fun i1 s1 Jl bl1=>cR bl1 (fun x4 y2 q7 q6 bl1=> ?_) fun e=> ?_
 ·refine gx An 7 q7<|gA q6 Nw fun x5 q8 q6=>gi q6 ?_ ?_<;>intro hc3 q6
  ·obtain rfl:=nT bl1 q6;obtain rfl:=Aid hm;exact gE
  exact gT bl1 hle1 q6
 subst e;obtain rfl:=Aid hm;exact gE
theorem Sm {m:Mem}{As:List Ow}{w:World}{a0:g_api_Pool}{a0v0:Value}{a1:List g_api_Key}{a1v0:Value}{r:Int}(S:St m As w)(a0h0:SlR m a0v0 a0.L)(a1h0:SlR m a1v0 a1)(hm:Fa a0 a1=some r):
  AK prog 115 #[.agg #[a0v0],a1v0] w fun v w'=> ∃(M:Mem),m≤M∧St M (As) w'∧v=vI r:=by
 refine AK.mono ((Nz hm).2 none0 m As w [.agg #[a0v0],a1v0] (.cons (Br.toA No (OL a0h0)) (.cons (.d (Br.toS Ld a1h0)) .nil)) (fun n h=>absurd rfl h) S) ?_;rintro v w' ⟨M,η',r',obs',n1,hle,_,⟨rfl,rfl,rfl⟩,hdom,hR,S'⟩;obtain rfl:=hR.i_inv;exact⟨M,hle,S',rfl⟩
def B5 (a0:Aj):Option Int:=Ab (Fa a0.Client.Pool a0.Client.Logs) fun x1=>some x1
theorem Nr {a0 r}(hm:B5 a0=some r):Sf prog 50 [ag (Cm a0)] (.d (.i r)):=by
 refine sq ?_;intros;refine gA hm Nz fun x1 q1 hm=> ?_;exact Aid hm▸gE
def KH (a0:Int):Option Bool:=bnd (((decide ((0:Int)≤a0))&&(decide (a0≤1099511627776)))) fun x1=>some x1
theorem NA {a0 r}(hm:KH a0=some r):Sf prog 190 [.d (.i a0)] (.d (.t r)):=by
 refine sq ?_;intros;refine bE hm ?_;intro x1 hm;obtain rfl:=Aid hm;exact gE
def HH (a0:Int):Option Bool:=Ab (KH a0) fun x1=>bnd ((x1&&(decide (a0<68719476736)))) fun x2=>some x2
theorem Mz {a0 r}(hm:HH a0=some r):Sf prog 104 [.d (.i a0)] (.d (.t r)):=by
 refine sq ?_;intros;refine gA hm NA fun x1 q1 hm=>bE hm ?_;intro x2 hm;obtain rfl:=Aid hm;exact gE
def It (a0:Int)(a1:Int):Option Int:=some (w64 ((w64 (16*a0))+a1))
theorem NB {a0 a1 r}(hm:It a0 a1=some r):Sf prog 106 [.d (.i a0),.d (.i a1)] (.d (.i r)):=by
 refine sq ?_;intros;exact Aid hm▸gE
end Go.Proofs.YtnhdojckpcbjeaaGreatDoor
