/- The walks of some functions, by the executor, written by program. Conditions: none. -/
import Derived.Test.YtlahakpgjlmeaaaGreatDoorZh
set_option linter.unusedSimpArgs false
set_option linter.unusedVariables false
set_option maxHeartbeats 20000000
set_option maxRecDepth 100000
namespace Go.Proofs.YtlahakpgjlmeaaaGreatDoor
open Go Go.Gw Go.Ax Tryz Go.RowKit
attribute [local irreducible] Go.Ax.Go
def HP (a0:List UInt8):Option Bool:=Ab (gu ((a0.length:Int)==1) (idx a0 0)) fun x1=>Ab (gu (((a0.length:Int)==1)&&(!((x1.toNat:Int)==0))) (idx a0 0)) fun x2=>bnd ((((a0.length:Int)==1)&&(((x1.toNat:Int)==0)||((x2.toNat:Int)==255)))) fun x3=>some x3
theorem Ur {a0 r}(hm:HP a0=some r):Sf prog 409 [sl eB a0] (.d (.t r)):=by
 refine sq ?_;intros;refine oB hm fun _ q1 hm=>gxG eB 1 q1<|oB hm fun _ q2 hm=>gxG eB 1 q2<|bE hm ?_;intro _ hm;exact Akr hm▸gE
def Kl (a0:List UInt8):Option Bool:=if((a0.length:Int)==0)=true then some false else if((a0.length:Int)==1)=true then some true else Ab (idx a0 1) fun x1=>Ab (gu (decide ((a0.length:Int)≤8)) (idx a0 0)) fun x2=>bnd (((decide ((a0.length:Int)≤8))&&((x2.toNat:Int) !=((toB (-((Ae3 x1 7).toNat:Int))).toNat:Int)))) fun x3=>some x3
theorem RF {a0 r}(hm:Kl a0=some r):Sf prog 73 [sl eB a0] (.d (.t r)):=by
 refine sq ?_;intros;refine gi hm ?_ ?_<;>intro _ hm
 ·exact Akr hm▸gE
 refine gi hm ?_ ?_<;>intro _ hm
 ·exact Akr hm▸gE
 refine oB hm fun _ q1 hm=>gx eB 1 q1<|oB hm fun _ q2 hm=>gxG eB 1 q2<|bE hm ?_;intro _ hm;exact Akr hm▸gE
def Pt (a0:List UInt8):Option Bool:=some true
theorem Uq {a0 r}(hm:Pt a0=some r):Sf prog 410 [sl eB a0] (.d (.t r)):=by
 refine sq ?_;intros;exact Akr hm▸gE
def Km (a0:UInt8):Option Bool:=bnd (((decide ((a0.toNat:Int)<32))||(decide ((a0.toNat:Int)>126)))) fun x1=>some x1
theorem RG {a0 r}(hm:Km a0=some r):Sf prog 413 [.d (.b a0)] (.d (.t r)):=by
 refine sq ?_;intros;refine bE hm ?_;intro _ hm;exact Akr hm▸gE
def AE (a0:List UInt8)(i1:Int)(s1:Unit):Option ((Unit)⊕Int):=Ab (idx a0 (i1:Int)) fun x3=>Ab (Km x3) fun x4=>if x4=true then some (.inr (i1:Int))else some (.inl ())
def CN (a0:List UInt8):Option Int:=Ab (Es (AE a0) a0.length 0 ()) fun x1=>match x1 with| .inr r=>some r| .inl y1=>some (-1)
theorem Hi {a0 r}(hm:CN a0=some r):Sf prog 415 [sl eB a0,.fn (.func 413) [] []] (.d (.i r)):=by
 refine sq ?_;intros;refine oB hm fun _ q1 hm=>Jd 0 (E:=eB) (xs:=a0) 6 fun hle1=>gF (EN _ _ _) q1 (fun p0 _=>⟨[(0,sl eB a0),(1,.fn (.func 413) [] []),(7,.d (.i (a0.length:Int))),(8,.d (.i p0))],[],[],0⟩) fun i1 s1 Jl bl1=>cN bl1 (a0.length:Int) (fun _ q4 bl1=> ?_) fun e=> ?_
 ·refine oB q4 fun _ q6 q4=>gx eB 1 q6<|gA q4 RG fun _ q7 q4=>gi q4 ?_ ?_<;>intro _ q4
  ·obtain rfl:=nT bl1 q4;exact Akr hm▸gE
  exact gT bl1 hle1 q4
 subst e;exact Akr hm▸gE
def Cq (a0:List UInt8):Option Bool:=Ab (CN a0) fun x1=>some (decide (x1≥0))
theorem Gz {a0 r}(hm:Cq a0=some r):Sf prog 412 [sl eB a0,.fn (.func 413) [] []] (.d (.t r)):=by
 refine sq ?_;intros;refine gA hm Hi fun _ q1 hm=> ?_;exact Akr hm▸gE
def JC (a0:List UInt8):Option Bool:=Ab (Cq a0) fun x1=>some (!x1)
theorem Uo {a0 r}(hm:JC a0=some r):Sf prog 411 [sl eB a0] (.d (.t r)):=by
 refine sq ?_;intros;refine gA hm Gz fun _ q1 hm=> ?_;exact Akr hm▸gE
def JB (a0:List UInt8):Option Bool:=some ((a0.length:Int)==0)
theorem Un {a0 r}(hm:JB a0=some r):Sf prog 414 [sl eB a0] (.d (.t r)):=by
 refine sq ?_;intros;exact Akr hm▸gE
def Qb (a0:UInt64):Option Bool:=bnd ((((a0.toNat:Int)==0)||(decide ((a0.toNat:Int)≥1152921504606845789)))) fun x1=>some x1
theorem Aae {a0 r}(hm:Qb a0=some r):Sf prog 64 [.d (.u a0)] (.d (.t r)):=by
 refine sq ?_;intros;refine bE hm ?_;intro _ hm;exact Akr hm▸gE
def IY (a0:UInt64)(a1:UInt64):Option (UInt64×UInt64):=bnd (((a0&&&4294967295)*(a1&&&4294967295))) fun x1=>bnd ((((Fu a0 32)*(a1&&&4294967295))+(Fu x1 32))) fun x2=>bnd (((x2&&&4294967295)+((a0&&&4294967295)*(Fu a1 32)))) fun x3=>bnd (((((Fu a0 32)*(Fu a1 32))+(Fu x2 32))+(Fu x3 32))) fun x4=>some (x4,(a0*a1))
theorem M4 {a0 a1 r}(hm:IY a0 a1=some r):Sf prog 238 [.d (.u a0),.d (.u a1)] (.tup [.d (.u r.1),.d (.u r.2)]):=by
 refine sq ?_;intros;refine bE hm ?_;intro _ hm;refine bE hm ?_;intro _ hm;refine bE hm ?_;intro _ hm;refine bE hm ?_;intro _ hm;exact Akr hm▸gE
def He (a0:UInt64):Option Int:=Ab (if(decide ((a0.toNat:Int)≥4294967296))=true then some ((Fu a0 32),32)else some (a0,0)) fun x1=>Ab (if(decide ((x1.1.toNat:Int)≥65536))=true then some ((Fu x1.1 16),(w64 (x1.2+16)))else some (x1.1,x1.2)) fun x2=>Ab (if(decide ((x2.1.toNat:Int)≥256))=true then some ((Fu x2.1 8),(w64 (x2.2+8)))else some (x2.1,x2.2)) fun x3=>Ab (idx str_0.data.toList ((toB (x3.1.toNat:Int)).toNat:Int)) fun x4=>bnd ((w64 (x3.2+(w64 (x4.toNat:Int))))) fun x5=>some x5
theorem M5 {a0 r}(hm:He a0=some r):Sf prog 206 [.d (.u a0)] (.d (.i r)):=by
 refine sq fun D0 As η0 m0 hd=>oB hm fun x1 q1 hm=>gj (fun(_:Unit)=>let (y_0,y_1):=x1; ⟨[(0,.d (.u y_0)),(2,.d (.i y_1))],[],[],0⟩) (fun _=>True) (fun Jp bk1=> ?_) fun _ _=> ?_
 ·refine gi q1 ?_ ?_<;>intro _ q1
  ·obtain rfl:=Akr q1;exact gb bk1 hd () trivial
  obtain rfl:=Akr q1;exact gb bk1 hd () trivial
 refine oB hm fun x2 q2 hm=>gj (fun(_:Unit)=>let (y_0,y_1):=x2; ⟨[(0,.d (.u y_0)),(2,.d (.i y_1))],[],[],0⟩) (fun _=>True) (fun Jp bk2=> ?_) fun _ _=> ?_
 ·refine gi q2 ?_ ?_<;>intro _ q2
  ·obtain rfl:=Akr q2;exact gb bk2 hd () trivial
  obtain rfl:=Akr q2;exact gb bk2 hd () trivial
 refine oB hm fun x3 q3 hm=>gj (fun(_:Unit)=>let (y_0,y_1):=x3; ⟨[(0,.d (.u y_0)),(2,.d (.i y_1))],[],[],0⟩) (fun _=>True) (fun Jp bk3=> ?_) fun _ _=> ?_
 ·refine gi q3 ?_ ?_<;>intro _ q3
  ·obtain rfl:=Akr q3;exact gb bk3 hd () trivial
  obtain rfl:=Akr q3;exact gb bk3 hd () trivial
 refine oB hm fun _ q4 hm=>AjK (fun _=>q4)<|bE hm ?_;intro _ hm;exact Akr hm▸gE
def Ed (a0:UInt64):Option Int:=Ab (He a0) fun x1=>some (w64 (64-x1))
theorem M6 {a0 r}(hm:Ed a0=some r):Sf prog 297 [.d (.u a0)] (.d (.i r)):=by
 refine sq ?_;intros;refine gA hm M5 fun _ q1 hm=> ?_;exact Akr hm▸gE
def Ga (x4:UInt64)(x5:UInt64)(x7:UInt64)(s1:UInt64×UInt64):Option ((UInt64×UInt64)⊕(UInt64)):=if((decide ((s1.1.toNat:Int)≥4294967296))||(decide (((s1.1*x5).toNat:Int)>(((4294967296*s1.2)+x7).toNat:Int))))=true then if(decide (((s1.2+x4).toNat:Int)≥4294967296))=true then some (.inr (s1.1-1))else some (.inl ((s1.1-1),(s1.2+x4)))else some (.inr s1.1)
def F9 (x4:UInt64)(x5:UInt64)(x8:UInt64)(s2:UInt64×UInt64):Option ((UInt64×UInt64)⊕(UInt64)):=if((decide ((s2.2.toNat:Int)≥4294967296))||(decide (((s2.2*x5).toNat:Int)>(((4294967296*s2.1)+x8).toNat:Int))))=true then if(decide (((s2.1+x4).toNat:Int)≥4294967296))=true then some (.inr (s2.2-1))else some (.inl ((s2.1+x4),(s2.2-1)))else some (.inr s2.2)
def IZ (a0:UInt64)(a1:UInt64)(a2:UInt64):Option (UInt64×UInt64):=Ab (if((a2.toNat:Int)==0)=true then none else some ()) fun x1=>Ab (if(decide ((a2.toNat:Int)≤(a0.toNat:Int)))=true then none else some ()) fun x2=>if((a0.toNat:Int)==0)=true then if a2≠0 then if a2≠0 then some ((a1/a2),(a1%a2))else none else none else Ab (Ed a2) fun x3=>bnd ((Fu (JL a2 ((toU x3).toNat)) 32)) fun x4=>bnd (((JL a2 ((toU x3).toNat))&&&4294967295)) fun x5=>bnd (((JL a0 ((toU x3).toNat))|||(Fu a1 ((64-(toU x3)).toNat)))) fun x6=>bnd ((Fu (JL a1 ((toU x3).toNat)) 32)) fun x7=>bnd (((JL a1 ((toU x3).toNat))&&&4294967295)) fun x8=>if x4≠0 then Ab (Ab (iter (Ga x4 x5 x7) EV ((x6/x4),(x6-((x6/x4)*x4)))) fun x10=>some x10) fun x9=>bnd ((((x6*4294967296)+x7)-(x9*(JL a2 ((toU x3).toNat))))) fun x12=>if x4≠0 then Ab (Ab (iter (F9 x4 x5 x8) EV ((x12-((x12/x4)*x4)),(x12/x4))) fun x14=>some x14) fun x13=>bnd ((Fu (((x12*4294967296)+x8)-(x13*(JL a2 ((toU x3).toNat)))) ((toU x3).toNat))) fun x16=>some (((x9*4294967296)+x13),x16)else none else none
theorem QG {a0 a1 a2 r}(hm:IZ a0 a1 a2=some r):Sf prog 240 [.d (.u a0),.d (.u a1),.d (.u a2)] (.tup [.d (.u r.1),.d (.u r.2)]):=by
 refine sq fun D0 As η0 m0 hd=>oB hm fun _ q1 hm=>gi q1 (fun hc1 q1=> ?_) fun hc1 q1=> ?_
 ·cases q1
 obtain rfl:=Akr q1;refine oB hm fun _ q2 hm=>gi q2 (fun hc2 q2=> ?_) fun hc2 q2=> ?_
 ·cases q2
 obtain rfl:=Akr q2;refine gi hm ?_ ?_<;>intro _ hm
 ·obtain⟨q3,hm⟩:=BY hm;refine AeF (d:= .u a2) (r:= .u (a1/a2)) (fun h=>q3) ?_;obtain⟨q4,hm⟩:=BY hm;refine AeF (d:= .u a2) (r:= .u (a1%a2)) (fun h=>q4) ?_;exact Akr hm▸gE
 refine gA hm M6 fun x3 q5 hm=>bE hm ?_;intro x4 hm;refine bE hm ?_;intro x5 hm;refine bE hm ?_;intro x6 hm;refine bE hm ?_;intro x7 hm;refine bE hm ?_;intro x8 hm;obtain⟨q11,hm⟩:=BY hm;refine AeF (d:= .u x4) (r:= .u (x6/x4)) (fun h=>q11) ?_;obtain⟨x9,q12,hm⟩:=Ac hm;refine oB q12 fun x10 q13 q12=>gjU 0 (fun(_:Unit)=>⟨[(2,.d (.u (JL a2 ((toU x3).toNat)))),(8,.d (.u (toU x3))),(9,.d (.u x4)),(10,.d (.u x5)),(11,.d (.u x6)),(13,.d (.u x7)),(14,.d (.u x8)),(15,.d (.u x10))],[],[],0⟩) (fun _=>True) (fun Jp bk4=> ?_) fun _ _=> ?_
 ·refine gI q13 (fun(p_0,p_1)=>⟨[(2,.d (.u (JL a2 ((toU x3).toNat)))),(8,.d (.u (toU x3))),(9,.d (.u x4)),(10,.d (.u x5)),(11,.d (.u x6)),(13,.d (.u x7)),(14,.d (.u x8)),(15,.d (.u p_0)),(16,.d (.u p_1))],[],[],0⟩) fun s1 _ Jl q16 bl1=>gi q16 ?_ ?_<;>intro _ q16
  ·refine gi q16 ?_ ?_<;>intro _ q16
   ·obtain rfl:=nR bl1 q16;exact gb bk4 hd () trivial
   exact gN bl1 q16
  obtain rfl:=nR bl1 q16;exact gb bk4 hd () trivial
 obtain rfl:=Akr q12;let x9:=x10;refine bE hm ?_;intro x12 hm;obtain⟨q19,hm⟩:=BY hm;refine AeF (d:= .u x4) (r:= .u (x12/x4)) (fun h=>q19) ?_;obtain⟨x13,q20,hm⟩:=Ac hm;refine oB q20 fun x14 q21 q20=>gjU 2 (fun(_:Unit)=>⟨[(2,.d (.u (JL a2 ((toU x3).toNat)))),(8,.d (.u (toU x3))),(14,.d (.u x8)),(15,.d (.u x9)),(17,.d (.u x12)),(18,.d (.u x14))],[],[],0⟩) (fun _=>True) (fun Jp bk6=> ?_) fun _ _=> ?_
 ·refine gI q21 (fun(p_0,p_1)=>⟨[(2,.d (.u (JL a2 ((toU x3).toNat)))),(8,.d (.u (toU x3))),(9,.d (.u x4)),(10,.d (.u x5)),(14,.d (.u x8)),(15,.d (.u x9)),(16,.d (.u p_0)),(17,.d (.u x12)),(18,.d (.u p_1))],[],[],0⟩) fun s2 _ Jl q24 bl2=>gi q24 ?_ ?_<;>intro _ q24
  ·refine gi q24 ?_ ?_<;>intro _ q24
   ·obtain rfl:=nR bl2 q24;exact gb bk6 hd () trivial
   exact gN bl2 q24
  obtain rfl:=nR bl2 q24;exact gb bk6 hd () trivial
 obtain rfl:=Akr q20;refine bE hm ?_;intro _ hm;exact Akr hm▸gE
def Hd (a0:UInt64)(a1:UInt64)(a2:UInt64):Option UInt64:=if a2≠0 then Ab (IZ (a0%a2) a1 a2) fun x1=>some x1.2 else none
theorem QF {a0 a1 a2 r}(hm:Hd a0 a1 a2=some r):Sf prog 241 [.d (.u a0),.d (.u a1),.d (.u a2)] (.d (.u r)):=by
 refine sq ?_;intros;unfold Hd at hm;obtain⟨q1,hm⟩:=BY hm;refine AeF (d:= .u a2) (r:= .u (a0%a2)) (fun h=>q1)<|gA hm QG fun _ q2 hm=> ?_;exact Akr hm▸gE
def Dd (a0:UInt64)(a1:UInt64)(a2:UInt64):Option UInt64:=Ab (IY a1 a2) fun x1=>Ab (Hd x1.1 x1.2 a0) fun x2=>some x2
theorem Ge {a0 a1 a2 r}(hm:Dd a0 a1 a2=some r):Sf prog 147 [.d (.u a0),.d (.u a1),.d (.u a2)] (.d (.u r)):=by
 refine sq ?_;intros;refine gA hm M4 fun _ q1 hm=>gA hm QF fun _ q2 hm=> ?_;exact Akr hm▸gE
def Dx {σ:Type}(p0:σ→Bool→Option (Bool×σ))(k0:UInt64)(s1:Int×σ):Option ((Int×σ)⊕((σ)⊕(UInt64×σ))):=if(decide (s1.1≥0))=true then if(0:Int)≤s1.1 then Ab (p0 s1.2 (((k0&&&(JL 1 s1.1.toNat)).toNat:Int) !=0)) fun x4=>if(!x4.1)=true then some (.inr (.inr (k0,x4.2)))else some (.inl ((w64 (s1.1-1)),x4.2))else none else some (.inr (.inl s1.2))
def Is {σ:Type}(p0:σ→Bool→Option (Bool×σ))(k0:UInt64)(s0:σ):Option (UInt64×σ):=Ab (He k0) fun x1=>Ab (iter (Dx p0 k0) EV ((w64 (x1-1)),s0)) fun x2=>match x2 with| .inr r=>some r| .inl y1=>some (k0,y1)
theorem PZ {σ:Type}{p0:σ→Bool→Option (Bool×σ)}{k0 s0 r}(hm:Is p0 k0 s0=some r)(g:Value)(R:σ→Mem→Ow)(hcb:Aab prog g (fun x=> [.d (.t x)]) R p0):Sp prog 310 [.ow 0,.pb 1 0] [.hp 0 (.cb g σ R s0),.box 1 [.d (.u k0)] 24] 2 (is (.tup []) [.hp 0 (.cb g σ R r.2),.box 1 [.d (.u r.1)] 24] 2):=by
 refine sq ?_;intros;refine gA hm M5 fun _ q1 hm=>oB hm fun _ q2 hm=>gI q2 (fun(p_0,p_1)=>⟨[(0,.ow 0),(1,.pb 1 0),(3,.d (.i p_0))],[(0,.box 1 [.d (.u k0)] 24),(1,.hp 0 (.cb g σ R p_1))],[],2⟩) fun s1 _ Jl q5 bl1=>gi q5 ?_ ?_<;>intro _ q5
 ·obtain⟨q7,q5⟩:=BY q5;refine gsh (r:= .u (JL 1 s1.1.toNat)) (fun h=>q7)<|oB q5 fun _ q8 q5=>gcb (((k0&&&(JL 1 s1.1.toNat)).toNat:Int) !=0) hcb q8<|gi q5 ?_ ?_<;>intro _ q5
  ·obtain rfl:=nR bl1 q5;exact Akr hm▸gE
  exact gN bl1 q5
 obtain rfl:=nR bl1 q5;let y1:=s1.2;exact Akr hm▸gE
def Kp (a0:UInt64):Option UInt64:=some a0
theorem RJ {a0 r}(hm:Kp a0=some r):Sp prog 256 [.d (.u a0)] [] 0 (is (.fn (.func 310) [] [.pb 0 0]) [.box 0 [.d (.u r)] 24] 1):=by
 refine sq ?_;intros;exact Akr hm▸gE
def C4 (a1:UInt64)(b6:Bool)(s1:UInt64):Option (UInt64):=Ab (Dd 2305843009213691579 s1 s1) fun x3=>if b6=true then Ab (Dd 2305843009213691579 x3 a1) fun x4=>some x4 else some x3
def E9 (a1:UInt64)(a2:UInt64):Option UInt64:=Ab (Kp a2) fun x1=>Ab (Is (fun(s:UInt64) (b0:Bool)=>Ab (C4 a1 b0 s) fun y=>some (true,y)) x1 1) fun x2=>some x2.2
theorem On {a1 a2 r}(hm:E9 a1 a2=some r):Sf prog 167 [.fn (.func 147) [.d (.u 2305843009213691579)] [],.d (.u a1),.d (.u a2)] (.d (.u r)):=
 spR call167 func167 rfl ntmps167 rfl fun D0 As η0 m0 hD hd=>by
  unfold E9 at hm;refine gD hm RJ fun x1 q1 hm=>oB hm fun x2 q2 hm=>Lb hD (n0:=0) 4 4 [⟨3,3,24,[.d (.u x1)],[.d (.u x2.1)]⟩] (gt:=10) (ps:=[11]) [(3,.pb 0 0),(4,.pb 1 0),(7,.pb 2 0),(10,.fn (.func 310) [] [.pb 3 0])] (fun(y1:UInt64)=> [(0,.box 2 [.d (.u y1)] 24),(1,.box 1 [.d (.u a1)] 24),(2,.box 0 [.fn (.func 147) [.d (.u 2305843009213691579)] []] 153)]) (fun(_:Unit)=> []) (fun x=> [.d (.t x)]) (fun(s1:UInt64) (b6:Bool)=>⟨[(3,.pb 0 0),(4,.pb 1 0),(7,.pb 2 0),(8,.d (.t b6)),(10,.fn (.func 310) [] [.pb 3 0])],[(0,.box 2 [.d (.u s1)] 24),(1,.box 1 [.d (.u a1)] 24),(2,.box 0 [.fn (.func 147) [.d (.u 2305843009213691579)] []] 153)],[],4⟩) (pN fun x s=>C4 a1 x s) 1 hd (via Sum.inl hyN rfl fun g R h=>PZ q2 g R h) rfl (fun _=>rfl) (fun _=>rfl) (fun _=>rfl) (fun _=>rfl) ?_ ?_ ?_ ?_
  ·intro s1 b6 s' hp l D0 As η0 m0 hd Ja ba;exact gb ba hd () trivial
  ·intro s1 b6 s' hp l D0 As η0 m0 hd Jb bb Jr br;obtain⟨z1,q3,hp⟩:=Akx.1 hp;subst hp;unfold C4 at q3;refine gA q3 Ge fun x3 q4 q3=>gi q3 ?_ ?_<;>intro _ q3
   ·refine gA q3 Ge fun x4 q5 q3=> ?_;obtain rfl:=Akr q3;exact gb bb hd x4 rfl
   obtain rfl:=Akr q3;exact gb bb hd x3 rfl
  ·intro x hx;have hx:=Sum.inl.inj hx;subst hx;exact Akr hm▸gE
  intro y hy;cases hy
def Hc (a0:UInt64)(a1:UInt64):Option UInt64:=Ab (E9 a0 a1) fun x1=>some x1
theorem MZ {a0 a1 r}(hm:Hc a0 a1=some r):Sf prog 81 [.d (.u a0),.d (.u a1)] (.d (.u r)):=by
 refine sq ?_;intros;refine gA hm On fun _ q1 hm=> ?_;exact Akr hm▸gE
def Ea (a0:UInt64):Option UInt64:=Ab (Hc 4 a0) fun x1=>some x1
theorem Hq {a0 r}(hm:Ea a0=some r):Sf prog 65 [.d (.u a0)] (.d (.u r)):=by
 refine sq ?_;intros;refine gA hm MZ fun _ q1 hm=> ?_;exact Akr hm▸gE
def E5 (a0:UInt64):Option (UInt64×Int):=Ab (Qb a0) fun x1=>if x1=true then some (0,1)else Ab (Ea a0) fun x2=>some (x2,0)
theorem Ji {a0 r}(hm:E5 a0=some r):Sf prog 15 [.d (.u a0)] (.tup [.d (.u r.1),.d (.i r.2)]):=by
 refine sq ?_;intros;refine gA hm Aae fun _ q1 hm=>gi hm ?_ ?_<;>intro _ hm
 ·exact Akr hm▸gE
 refine gA hm Hq fun _ q2 hm=> ?_;exact Akr hm▸gE
def BU {σ:Type}(p0:σ→(List UInt8)→Option (Bool×σ))(k0:List UInt8)(k1:Int)(s1:Int×σ):Option ((Int×σ)⊕((σ)⊕((List UInt8)×Int×σ))):=if(decide (s1.1<(k0.length:Int)))=true then Ab (cut k0 s1.1 (k0.length:Int)) fun x3=>Ab (cut k0 s1.1 (w64 (s1.1+(Q5 k1 (x3.length:Int))))) fun x4=>Ab (p0 s1.2 x4) fun x5=>if(!x5.1)=true then some (.inr (.inr (k0,k1,x5.2)))else some (.inl ((w64 (s1.1+k1)),x5.2))else some (.inr (.inl s1.2))
def DZ {σ:Type}(p0:σ→(List UInt8)→Option (Bool×σ))(k0:List UInt8)(k1:Int)(s0:σ):Option ((List UInt8)×Int×σ):=Ab (iter (BU p0 k0 k1) EV (0,s0)) fun x1=>match x1 with| .inr r=>some r| .inl y1=>some (k0,k1,y1)
theorem KD {σ:Type}{p0:σ→(List UInt8)→Option (Bool×σ)}{k0 k1 s0 r}(hm:DZ p0 k0 k1 s0=some r)(g:Value)(R:σ→Mem→Ow)(hcb:Aab prog g (fun x=> [sl eB x]) R p0):Sp prog 292 [.ow 0,.pb 1 0,.pb 2 0] [.hp 0 (.cb g σ R s0),.box 1 [sl eB k0] 22,.box 2 [.d (.i k1)] 3] 3 (is (.tup []) [.hp 0 (.cb g σ R r.2.2),.box 1 [.d (.sl _ eB r.1)] 22,.box 2 [.d (.i r.2.1)] 3] 3):=by
 refine sq ?_;intros;refine oB hm fun _ q1 hm=>gI q1 (fun(p_0,p_1)=>⟨[(0,.ow 0),(1,.pb 1 0),(2,.pb 2 0),(4,.d (.i p_0))],[(0,.box 1 [sl eB k0] 22),(1,.box 2 [.d (.i k1)] 3),(2,.hp 0 (.cb g σ R p_1))],[],3⟩) fun s1 _ Jl q4 bl1=>gi q4 ?_ ?_<;>intro _ q4
 ·refine oB q4 fun _ q6 q4=>gk eB 1 q6<|oB q4 fun x4 q7 q4=>gk eB 1 q7<|oB q4 fun _ q8 q4=>gcb x4 hcb q8<|gi q4 ?_ ?_<;>intro _ q4
  ·obtain rfl:=nR bl1 q4;exact Akr hm▸gE
  exact gN bl1 q4
 obtain rfl:=nR bl1 q4;let y1:=s1.2;exact Akr hm▸gE
def EF (a0:List UInt8)(a1:Int):Option ((List UInt8)×Int):=Ab (if(decide (a1<1))=true then none else some ()) fun x1=>some (a0,a1)
theorem Ll {a0 a1 r}(hm:EF a0 a1=some r):Sp prog 223 [sl eB a0,.d (.i a1)] [] 0 (is (.fn (.func 292) [] [.pb 0 0,.pb 1 0]) [.box 0 [sl eB r.1] 22,.box 1 [.d (.i r.2)] 3] 2):=by
 refine sq ?_;intros;refine oB hm fun _ q1 hm=>gi q1 (fun hc1 q1=> ?_) fun hc1 q1=> ?_
 ·cases q1
 obtain rfl:=Akr q1;exact Akr hm▸gE
def Gn (b5:List UInt8)(i1:Int)(s2:UInt64):Option (UInt64):=Ab (idx b5 (i1:Int)) fun x6=>if(0:Int)≤(w64 (8*(i1:Int)))then bnd ((s2|||(JL (toU (x6.toNat:Int)) ((w64 (8*(i1:Int))).toNat)))) fun x7=>some x7 else none
def Gp (b5:List UInt8)(s1:(List UInt64)):Option ((List UInt64)):=Ab (Ab (Cg (Gn b5) b5.length 0 0) fun x4=>some x4) fun x3=>Ab (app 8 s1 ([x3]:List UInt64)) fun x8=>some x8
def LC (a0:List UInt8):Option (List UInt64):=Ab (EF a0 7) fun x1=>Ab (DZ (fun(s:(List UInt64)) (b0:List UInt8)=>Ab (Gp b0 s) fun y=>some (true,y)) x1.1 x1.2 ([]:List UInt64)) fun x2=>some x2.2.2
theorem Aal {a0 r}(hm:LC a0=some r):Sp prog 129 [sl eB a0] [] 0 (is (.ow 0) [.row 0 1 _ eU r] 1):=
 spR call129 func129 rfl ntmps129 rfl fun D0 As η0 m0 hD hd=>by
  unfold LC at hm;refine gD hm Ll fun x1 q1 hm=>oB hm fun x2 q2 hm=>AjJ eU 3 0 1<|Lb hD (n0:=0) 3 4 [⟨2,1,22,[sl eB x1.1],[sl eB x2.1]⟩,⟨3,2,3,[.d (.i x1.2)],[.d (.i x2.2.1)]⟩] (gt:=9) (ps:=[10]) [(3,.pb 0 0),(9,.fn (.func 292) [] [.pb 1 0,.pb 2 0])] (fun(y2:(List UInt64))=> [(0,.row 3 1 _ eU y2),(1,.box 0 [.ow 3] 229)]) (fun(_:Unit)=> []) (fun x=> [sl eB x]) (fun(s1:(List UInt64)) (b5:List UInt8)=>⟨[(3,.pb 0 0),(4,sl eB b5),(9,.fn (.func 292) [] [.pb 1 0,.pb 2 0])],[(0,.row 3 1 _ eU s1),(1,.box 0 [.ow 3] 229)],[],4⟩) (pN fun x s=>Gp x s) ([]:List UInt64) hd (via Sum.inl hyN rfl fun g R h=>KD q2 g R h) rfl (fun _=>rfl) (fun _=>rfl) (fun _=>rfl) (fun _=>rfl) ?_ ?_ ?_ ?_
  ·intro s1 b5 s' hp l D0 As η0 m0 hd Ja ba;exact gb ba hd () trivial
  ·intro s1 b5 s' hp l D0 As η0 m0 hd Jb bb Jr br;obtain⟨z1,q3,hp⟩:=Akx.1 hp;subst hp;unfold Gp at q3;obtain⟨x3,q4,q3⟩:=Ac q3;refine oB q4 fun x4 q5 q4=>Jd 2 (E:=eB) (xs:=b5) 11 fun hle1=>gF (EM _ _ _) q5 (fun p0 p=>⟨[(3,.pb 0 0),(5,.d (.u p)),(9,.fn (.func 292) [] [.pb 1 0,.pb 2 0]),(11,sl eB b5),(12,.d (.i (b5.length:Int))),(13,.d (.i p0))],[(0,.row 3 1 _ eU s1),(1,.box 0 [.ow 3] 229)],[],4⟩) fun i1 s2 Jl bl1=>cM bl1 (b5.length:Int) (fun _ q8 bl1=> ?_) fun e=> ?_
   ·unfold Gn at q8;refine oB q8 fun x6 q10 q8=>gx eB 1 q10 ?_;obtain⟨q11,q8⟩:=BY q8;refine gsh (r:= .u (JL (toU (x6.toNat:Int)) ((w64 (8*(i1:Int))).toNat))) (fun h=>q11)<|bE q8 ?_;intro _ q8;exact gM bl1 hle1 q8
   subst e;obtain rfl:=Akr q4;let x3:=x4;refine gq eU 1 [x3]<|oB q3 fun x8 q13 q3=>gp eU 1 q13 ?_;obtain rfl:=Akr q3;exact gb bb hd x8 rfl
  ·intro x hx;have hx:=Sum.inl.inj hx;subst hx;exact Akr hm▸gE
  intro y hy;cases hy
def IX (a0:UInt64)(a1:UInt64):Option UInt64:=bnd (((a1&&&2305843009213693951)+((JL a0 3)|||(Fu a1 61)))) fun x1=>bnd (((x1&&&2305843009213693951)+(Fu x1 61))) fun x2=>Ab (if(decide ((x2.toNat:Int)≥2305843009213693951))=true then some (x2-2305843009213693951)else some x2) fun x3=>some x3
theorem QE {a0 a1 r}(hm:IX a0 a1=some r):Sf prog 293 [.d (.u a0),.d (.u a1)] (.d (.u r)):=by
 refine sq fun D0 As η0 m0 hd=>bE hm ?_;intro _ hm;refine bE hm ?_;intro _ hm;refine oB hm fun x3 q3 hm=>gj (fun(_:Unit)=>⟨[(5,.d (.u x3))],[],[],0⟩) (fun _=>True) (fun Jp bk1=> ?_) fun _ _=> ?_
 ·refine gi q3 ?_ ?_<;>intro _ q3
  ·obtain rfl:=Akr q3;exact gb bk1 hd () trivial
  obtain rfl:=Akr q3;exact gb bk1 hd () trivial
 exact Akr hm▸gE
def F8 (a0:UInt64):Option UInt64:=Ab (IX 0 a0) fun x1=>some x1
theorem JX {a0 r}(hm:F8 a0=some r):Sf prog 224 [.d (.u a0)] (.d (.u r)):=by
 refine sq ?_;intros;refine gA hm QE fun _ q1 hm=> ?_;exact Akr hm▸gE
def G1 (a0:UInt64)(a1:UInt64):Option UInt64:=Ab (F8 a0) fun x1=>Ab (F8 a1) fun x2=>Ab (F8 (x1+x2)) fun x3=>some x3
theorem LO {a0 a1 r}(hm:G1 a0 a1=some r):Sf prog 130 [.d (.u a0),.d (.u a1)] (.d (.u r)):=by
 refine sq ?_;intros;refine gA hm JX fun _ q1 hm=>gA hm JX fun _ q2 hm=>gA hm JX fun _ q3 hm=> ?_;exact Akr hm▸gE
def Ki (a0:UInt64)(a1:UInt64):Option UInt64:=Ab (F8 a0) fun x1=>Ab (F8 a1) fun x2=>Ab (IY x1 x2) fun x3=>Ab (IX x3.1 x3.2) fun x4=>some x4
theorem RE {a0 a1 r}(hm:Ki a0 a1=some r):Sf prog 294 [.d (.u a0),.d (.u a1)] (.d (.u r)):=by
 refine sq ?_;intros;refine gA hm JX fun _ q1 hm=>gA hm JX fun _ q2 hm=>gA hm M4 fun _ q3 hm=>gA hm QE fun _ q4 hm=> ?_;exact Akr hm▸gE
def Kh (i1:Int)(s1:UInt64):Option (UInt64):=Ab (Ki s1 s1) fun x4=>some x4
def Fm (a0:UInt64):Option UInt64:=Ab (Ab (Cg Kh 4 0 a0) fun x2=>some x2) fun x1=>Ab (Ki a0 x1) fun x5=>some x5
theorem QW {a0 r}(hm:Fm a0=some r):Sf prog 227 [.d (.u a0)] (.d (.u r)):=by
 refine sq ?_;intros;unfold Fm at hm;obtain⟨x1,q1,hm⟩:=Ac hm;refine oB q1 fun _ q2 q1=>gF (EM _ 4 _) q2 (fun p0 p=>⟨[(0,.d (.u a0)),(3,.d (.u p)),(5,.d (.i p0))],[],[],0⟩) fun i1 s1 Jl bl1=>cM bl1 (4:Int) (fun _ q5 bl1=> ?_) fun e=> ?_
 ·exact gA q5 RE fun _ q7 q5=>gM bl1 lk q5
 subst e;obtain rfl:=Akr q1;refine gA hm RE fun _ q8 hm=> ?_;exact Akr hm▸gE
def KW (a0:Int)(a1:UInt64)(k0:Int)(k1:UInt64):Option (UInt64×Int×UInt64):=bnd ((toU (w64 ((w64 ((w64 (3*k0))+a0))+1)))) fun x1=>Ab (G1 a1 (((x1*x1)*x1)+7)) fun x2=>Ab (Fm x2) fun x3=>Ab (G1 k1 x3) fun x4=>some (x3,k0,x4)
theorem VQ {a0 a1 k0 k1 r}(hm:KW a0 a1 k0 k1=some r):Sp prog 226 [.d (.i a0),.d (.u a1),.pb 0 0,.pb 1 0] [.box 0 [.d (.i k0)] 3,.box 1 [.d (.u k1)] 24] 2 (is (.d (.u r.1)) [.box 0 [.d (.i r.2.1)] 3,.box 1 [.d (.u r.2.2)] 24] 2):=by
 refine sq ?_;intros;refine bE hm ?_;intro _ hm;refine gA hm LO fun _ q2 hm=>gA hm QW fun _ q3 hm=>gA hm LO fun _ q4 hm=> ?_;exact Akr hm▸gE
def KV (a0:Int)(a1:UInt64)(k0:UInt64):Option (UInt64×UInt64):=Ab (G1 a1 k0) fun x1=>some (x1,k0)
theorem VP {a0 a1 k0 r}(hm:KV a0 a1 k0=some r):Sp prog 228 [.d (.i a0),.d (.u a1),.pb 0 0] [.box 0 [.d (.u k0)] 24] 1 (is (.d (.u r.1)) [.box 0 [.d (.u r.2)] 24] 1):=by
 refine sq ?_;intros;refine gA hm LO fun _ q1 hm=> ?_;exact Akr hm▸gE
def GL (i1:Int)(s1:UInt64×UInt64×UInt64×Int×UInt64):Option (UInt64×UInt64×UInt64×Int×UInt64):=Ab (idx [s1.1,s1.2.1,s1.2.2.1] (i1:Int)) fun x3=>Ab (KW (i1:Int) x3 s1.2.2.2.1 s1.2.2.2.2) fun x4=>Ab (idx [s1.1,s1.2.1,s1.2.2.1] (i1:Int)) fun x5=>bnd (if(i1:Int)=0 then x4.1 else s1.1) fun x6=>bnd (if(i1:Int)=1 then x4.1 else s1.2.1) fun x7=>bnd (if(i1:Int)=2 then x4.1 else s1.2.2.1) fun x8=>some (x6,x7,x8,x4.2.1,x4.2.2)
def DW (a0:UInt64×UInt64×UInt64)(k0:Int)(k1:UInt64):Option ((UInt64×UInt64×UInt64)×Int×UInt64):=Ab (Cg GL 3 0 (a0.1,a0.2.1,a0.2.2,k0,k1)) fun x1=>some ((x1.1,x1.2.1,x1.2.2.1),x1.2.2.2.1,x1.2.2.2.2)
theorem MJ {a0 k0 k1 r}(hm:DW a0 k0 k1=some r):Sp prog 225 [.pb 0 0,.fn (.func 226) [] [.pb 1 0,.pb 2 0]] [.box 0 [.d (.u a0.1),.d (.u a0.2.1),.d (.u a0.2.2)] 321,.box 1 [.d (.i k0)] 3,.box 2 [.d (.u k1)] 24] 3 (is (.tup []) [.box 0 [.d (.u r.1.1),.d (.u r.1.2.1),.d (.u r.1.2.2)] 321,.box 1 [.d (.i r.2.1)] 3,.box 2 [.d (.u r.2.2)] 24] 3):=by
 refine sq ?_;intros;refine oB hm fun _ q1 hm=>gF (EM _ 3 _) q1 (fun p0 (p_0,p_1,p_2,p_3,p_4)=>⟨[(0,.pb 0 0),(1,.fn (.func 226) [] [.pb 1 0,.pb 2 0]),(6,.pb 0 0),(7,.d (.i p0))],[(0,.box 0 [.d (.u p_0),.d (.u p_1),.d (.u p_2)] 321),(1,.box 1 [.d (.i p_3)] 3),(2,.box 2 [.d (.u p_4)] 24)],[],3⟩) fun i1 s1 Jl bl1=>cM bl1 (3:Int) (fun _ q4 bl1=> ?_) fun e=> ?_
 ·refine oB q4 fun _ q6 q4=>OF (fun _=>q6)<|gldA D.u (fun _=>q6)<|gD q4 VQ fun x4 q7 q4=>oB q4 fun _ q8 q4=>OF (fun _=>q8)<|bE q4 ?_;intro _ q4;refine bE q4 ?_;intro _ q4;refine bE q4 ?_;intro _ q4;exact Af9 D.u x4.1 q8<|gM bl1 lk q4
 subst e;exact Akr hm▸gE
def GK (i1:Int)(s1:UInt64×UInt64×UInt64×UInt64):Option (UInt64×UInt64×UInt64×UInt64):=Ab (idx [s1.1,s1.2.1,s1.2.2.1] (i1:Int)) fun x3=>Ab (KV (i1:Int) x3 s1.2.2.2) fun x4=>Ab (idx [s1.1,s1.2.1,s1.2.2.1] (i1:Int)) fun x5=>bnd (if(i1:Int)=0 then x4.1 else s1.1) fun x6=>bnd (if(i1:Int)=1 then x4.1 else s1.2.1) fun x7=>bnd (if(i1:Int)=2 then x4.1 else s1.2.2.1) fun x8=>some (x6,x7,x8,x4.2)
def DV (a0:UInt64×UInt64×UInt64)(k0:UInt64):Option ((UInt64×UInt64×UInt64)×UInt64):=Ab (Cg GK 3 0 (a0.1,a0.2.1,a0.2.2,k0)) fun x1=>some ((x1.1,x1.2.1,x1.2.2.1),x1.2.2.2)
theorem MI {a0 k0 r}(hm:DV a0 k0=some r):Sp prog 225 [.pb 0 0,.fn (.func 228) [] [.pb 1 0]] [.box 0 [.d (.u a0.1),.d (.u a0.2.1),.d (.u a0.2.2)] 321,.box 1 [.d (.u k0)] 24] 2 (is (.tup []) [.box 0 [.d (.u r.1.1),.d (.u r.1.2.1),.d (.u r.1.2.2)] 321,.box 1 [.d (.u r.2)] 24] 2):=by
 refine sq ?_;intros;refine oB hm fun _ q1 hm=>gF (EM _ 3 _) q1 (fun p0 (p_0,p_1,p_2,p_3)=>⟨[(0,.pb 0 0),(1,.fn (.func 228) [] [.pb 1 0]),(6,.pb 0 0),(7,.d (.i p0))],[(0,.box 0 [.d (.u p_0),.d (.u p_1),.d (.u p_2)] 321),(1,.box 1 [.d (.u p_3)] 24)],[],2⟩) fun i1 s1 Jl bl1=>cM bl1 (3:Int) (fun _ q4 bl1=> ?_) fun e=> ?_
 ·refine oB q4 fun _ q6 q4=>OF (fun _=>q6)<|gldA D.u (fun _=>q6)<|gD q4 VP fun x4 q7 q4=>oB q4 fun _ q8 q4=>OF (fun _=>q8)<|bE q4 ?_;intro _ q4;refine bE q4 ?_;intro _ q4;refine bE q4 ?_;intro _ q4;exact Af9 D.u x4.1 q8<|gM bl1 lk q4
 subst e;exact Akr hm▸gE
def Mb (i1:Int)(s1:UInt64×UInt64×UInt64):Option (UInt64×UInt64×UInt64):=Ab (DW s1 (i1:Int) 0) fun x4=>Ab (DV x4.1 x4.2.2) fun x5=>some (x5.1.1,x5.1.2.1,x5.1.2.2)
def LB (a0:UInt64×UInt64×UInt64):Option (UInt64×UInt64×UInt64):=Ab (Ab (Cg Mb 8 0 (a0.1,a0.2.1,a0.2.2)) fun x2=>some (x2.1,x2.2.1,x2.2.2)) fun x1=>some x1
theorem Aak {a0 r}(hm:LB a0=some r):Sf prog 131 [ag (Qj a0)] (ag (Qj r)):=by
 refine sq ?_;intros;unfold LB at hm;obtain⟨x1,q1,hm⟩:=Ac hm;refine oB q1 fun _ q2 q1=>gF (EM _ 8 _) q2 (fun p0 (p_0,p_1,p_2)=>⟨[(2,.pb 1 0),(3,.pb 2 0),(7,.d (.i p0)),(1,.pb 0 0)],[(0,.box 2 [.d (.u p_0),.d (.u p_1),.d (.u p_2)] 321),(1,.box 1 [.d (.u 0),.d (.u 0),.d (.u 0)] 228),(2,.box 0 [.d (.u a0.1),.d (.u a0.2.1),.d (.u a0.2.2)] 228)],[],3⟩) fun i1 s1 Jl bl1=>cM bl1 (8:Int) (fun _ q5 bl1=> ?_) fun e=> ?_
 ·exact gD q5 MJ fun _ q7 q5=>gD q5 MI fun _ q8 q5=>gM bl1 lk q5
 subst e;obtain rfl:=Akr q1;exact Akr hm▸gE
def HO (x6:List UInt64)(i2:Int)(s2:UInt64×UInt64×UInt64):Option (UInt64×UInt64×UInt64):=Ab (idx x6 (i2:Int)) fun x9=>Ab (idx [s2.1,s2.2.1,s2.2.2] (i2:Int)) fun x10=>Ab (G1 x10 x9) fun x11=>Ab (idx [s2.1,s2.2.1,s2.2.2] (i2:Int)) fun x12=>bnd (if(i2:Int)=0 then x11 else s2.1) fun x13=>bnd (if(i2:Int)=1 then x11 else s2.2.1) fun x14=>bnd (if(i2:Int)=2 then x11 else s2.2.2) fun x15=>some (x13,x14,x15)
def Dl (s1:(List UInt64)×Bool×UInt64×UInt64×UInt64):Option (((List UInt64)×Bool×UInt64×UInt64×UInt64)⊕(UInt64×UInt64×UInt64)):=if(s1.2.1||(decide ((s1.1.length:Int)>0)))=true then Ab (Ab (cut s1.1 0 (Q5 2 (s1.1.length:Int))) fun x6=>Ab (Cg (HO x6) x6.length 0 (s1.2.2.1,s1.2.2.2.1,s1.2.2.2.2)) fun x7=>some (x7.1,x7.2.1,x7.2.2)) fun x5=>Ab (cut s1.1 (Q5 2 (s1.1.length:Int)) (s1.1.length:Int)) fun x16=>Ab (LB x5) fun x17=>some (.inl (x16,false,x17.1,x17.2.1,x17.2.2))else some (.inr (s1.2.2.1,s1.2.2.2.1,s1.2.2.2.2))
def Im (a0:List UInt8):Option (UInt64×UInt64):=Ab (LC a0) fun x1=>Ab (Ab (iter Dl EV (x1,true,0,0,(toU (a0.length:Int)))) fun x3=>some (x3.1,x3.2.1,x3.2.2)) fun x2=>some (x2.1,x2.2.1)
theorem NM {a0 r}(hm:Im a0=some r):Sf prog 48 [sl eB a0] (ag (A7 r)):=by
 refine sq ?_;intros;refine gD hm Aal fun _ q1 hm=> ?_;obtain⟨x2,q2,hm⟩:=Ac hm;refine oB q2 fun x3 q3 q2=>gI q3 (fun(p_0,p_1,p_2,p_3,p_4)=>⟨[(2,.pb 0 0),(3,.pb 1 0),(4,sl eU p_0),(5,.d (.t p_1))],[(0,.box 1 [.d (.u p_2),.d (.u p_3),.d (.u p_4)] 228),(1,.box 0 [.d (.u 0),.d (.u 0)] 81)],[],2⟩) fun s1 _ Jl q6 bl1=>gi q6 ?_ ?_<;>intro _ q6
 ·obtain⟨x5,q8,q6⟩:=Ac q6;refine oB q8 fun x6 q9 q8=>gk eU 1 q9<|oB q8 fun _ q10 q8=>Jd 2 (E:=eU) (xs:=x6) 26 fun hle2=>gF (EM _ _ _) q10 (fun p0 (p_0,p_1,p_2)=>⟨[(2,.pb 0 0),(3,.pb 1 0),(4,sl eU s1.1),(6,.d (.i (Q5 2 (s1.1.length:Int)))),(26,sl eU x6),(27,.d (.i (x6.length:Int))),(28,.d (.i p0))],[(0,.box 1 [.d (.u p_0),.d (.u p_1),.d (.u p_2)] 228),(1,.box 0 [.d (.u 0),.d (.u 0)] 81)],[],2⟩) fun i2 s2 Jl bl2=>cM bl2 (x6.length:Int) (fun _ q13 bl2=> ?_) fun e=> ?_
  ·refine oB q13 fun _ q15 q13=>gx eU 1 q15<|oB q13 fun _ q16 q13=>OF (fun _=>q16)<|gldA D.u (fun _=>q16)<|gA q13 LO fun x11 q17 q13=>oB q13 fun _ q18 q13=>OF (fun _=>q18)<|bE q13 ?_;intro _ q13;refine bE q13 ?_;intro _ q13;refine bE q13 ?_;intro _ q13;exact Af9 D.u x11 q18<|gM bl2 hle2 q13
  subst e;obtain rfl:=Akr q8;exact oB q6 fun _ q22 q6=>gk eU 1 q22<|gA q6 Aak fun _ q23 q6=>gN bl1 q6
 obtain rfl:=nR bl1 q6;let x3:=(s1.2.2.1,s1.2.2.2.1,s1.2.2.2.2);obtain rfl:=Akr q2;exact Akr hm▸gE
def JA (a1:UInt64)(s1:(List UInt8)×Int):Option (((List UInt8)×Int)⊕((List UInt8))):=if(decide (s1.2≥0))=true then if(0:Int)≤(w64 (8*s1.2))then Ab (app 1 s1.1 ([(toB ((Fu a1 ((w64 (8*s1.2)).toNat)).toNat:Int))]:List UInt8)) fun x4=>some (.inl (x4,(w64 (s1.2-1))))else none else some (.inr s1.1)
def Gl (a0:List UInt8)(a1:UInt64)(a2:Int):Option (List UInt8):=Ab (Ab (iter (JA a1) EV (a0,(w64 (a2-1)))) fun x2=>some x2) fun x1=>some x1
theorem To {a0 a1 a2 r}(hm:Gl a0 a1 a2=some r):Sp prog 165 [.ow 0,.d (.u a1),.d (.i a2)] [.row 0 1 _ eB a0] 1 (is (.ow 1) [.row 1 1 _ eB r] 2):=by
 refine sq ?_;intros;unfold Gl at hm;obtain⟨x1,q1,hm⟩:=Ac hm;refine oB q1 fun x2 q2 q1=>gI q2 (fun(p_0,p_1)=>⟨[(0,.ow 1),(1,.d (.u a1)),(2,.d (.i p_1))],[(0,.row 1 1 _ eB p_0)],[],2⟩) fun s1 _ Jl q5 bl1=>gi q5 ?_ ?_<;>intro _ q5
 ·obtain⟨q7,q5⟩:=BY q5;exact gsh (r:= .u (Fu a1 ((w64 (8*s1.2)).toNat))) (fun h=>q7)<|gq eB 1 [(toB ((Fu a1 ((w64 (8*s1.2)).toNat)).toNat:Int))]<|oB q5 fun _ q8 q5=>gp eB 1 q8<|gN bl1 q5
 obtain rfl:=nR bl1 q5;let x2:=s1.1;obtain rfl:=Akr q1;exact Akr hm▸gE
def I8 (i1:Int)(x4:List UInt8)(s1:(List UInt8)):Option ((List UInt8)):=Ab (Gl s1 (toU (x4.length:Int)) 4) fun x5=>Ab (app 1 x5 x4) fun x6=>some x6
def Cx (a0:ByteArray)(a1:List (List UInt8)):Option (UInt64×UInt64):=Ab (app 1 ([(toB (a0.size:Int))]:List UInt8) a0.data.toList) fun x1=>Ab (Ab (Et I8 a1 0 x1) fun x3=>some x3) fun x2=>Ab (Im x2) fun x7=>some x7
theorem EY {a0 a1 r}(hm:Cx a0 a1=some r):Sf prog 78 [.d (.s a0),sl (eL eB) a1] (ag (A7 r)):=by
 refine sq ?_;intros;refine TN (k:=1) eB ([(toB (a0.size:Int))]:List UInt8) (fun _=>rfl)<|oB hm fun _ q1 hm=>gapS q1 ?_;obtain⟨x2,q2,hm⟩:=Ac hm;refine oB q2 fun _ q3 q2=>Jd 0 (E:=(eL eB)) (xs:=a1) 14 fun hle1=>gF (E0 _ _ _) q3 (fun p0 p=>⟨[(4,.pb 0 0),(5,.ow 1),(14,sl (eL eB) a1),(15,.d (.i (a1.length:Int))),(16,.d (.i p0))],[(0,.row 1 1 _ eB p),(1,.box 0 [.d (.u 0),.d (.u 0)] 81)],[],2⟩) fun i1 s1 Jl bl1=>c0 bl1 (fun _ _ q7 q6 bl1=> ?_) fun e=> ?_
 ·exact gx (eL eB) 1 q7<|gD q6 To fun _ q8 q6=>oB q6 fun _ q9 q6=>gp eB 1 q9<|gM bl1 hle1 q6
 subst e;obtain rfl:=Akr q2;refine gD hm NM fun _ q10 hm=> ?_;exact Akr hm▸gE
def Hb (a0:UInt64×UInt64)(a1:UInt64):Option UInt64:=if((a1.toNat:Int)==0)=true then some 0 else Ab (IY a0.1 2305843009213693952) fun x1=>if a1≠0 then Ab (IZ ((x1.1+(Ky x1.2 a0.2))%a1) (x1.2+a0.2) a1) fun x2=>some x2.2 else none
theorem NN {a0 a1 r}(hm:Hb a0 a1=some r):Sf prog 145 [ag (A7 a0),.d (.u a1)] (.d (.u r)):=by
 refine sq ?_;intros;refine gi hm ?_ ?_<;>intro _ hm
 ·exact Akr hm▸gE
 refine gA hm M4 fun x1 q1 hm=>AhK (p:=x1.2) (q:=a0.2) func239 ?_;obtain⟨q2,hm⟩:=BY hm;refine AeF (d:= .u a1) (r:= .u ((x1.1+(Ky x1.2 a0.2))%a1)) (fun h=>q2)<|gA hm QG fun _ q3 hm=> ?_;exact Akr hm▸gE
def J8 (a0:ByteArray)(a1:List (List UInt8)):Option UInt64:=Ab (Cx a0 a1) fun x1=>Ab (Hb x1 1152921504606845788) fun x2=>some (x2+1)
theorem Ry {a0 a1 r}(hm:J8 a0 a1=some r):Sf prog 66 [.d (.s a0),sl (eL eB) a1] (.d (.u r)):=by
 refine sq ?_;intros;refine gA hm EY fun _ q1 hm=>gA hm NN fun _ q2 hm=> ?_;exact Akr hm▸gE
def E4 (a0:List UInt8):Option UInt64:=Ab (J8 (⟨#[115,101,99,114,101,116]⟩:ByteArray) ([a0]:List (List UInt8))) fun x1=>some x1
theorem Jh {a0 r}(hm:E4 a0=some r):Sf prog 16 [sl eB a0] (.d (.u r)):=by
 refine sq ?_;intros;refine gq (eL eB) 1 [a0]<|gA hm Ry fun _ q1 hm=> ?_;exact Akr hm▸gE
def J9 (a0:UInt64)(i1:Int)(s1:UInt8×UInt8×UInt8×UInt8×UInt8×UInt8×UInt8×UInt8):Option (UInt8×UInt8×UInt8×UInt8×UInt8×UInt8×UInt8×UInt8):=if(0:Int)≤(w64 (8*(i1:Int)))then Ab (idx [s1.1,s1.2.1,s1.2.2.1,s1.2.2.2.1,s1.2.2.2.2.1,s1.2.2.2.2.2.1,s1.2.2.2.2.2.2.1,s1.2.2.2.2.2.2.2] (w64 (7-(i1:Int)))) fun x4=>bnd (if(w64 (7-(i1:Int)))=0 then(toB ((Fu a0 ((w64 (8*(i1:Int))).toNat)).toNat:Int))else s1.1) fun x5=>bnd (if(w64 (7-(i1:Int)))=1 then(toB ((Fu a0 ((w64 (8*(i1:Int))).toNat)).toNat:Int))else s1.2.1) fun x6=>bnd (if(w64 (7-(i1:Int)))=2 then(toB ((Fu a0 ((w64 (8*(i1:Int))).toNat)).toNat:Int))else s1.2.2.1) fun x7=>bnd (if(w64 (7-(i1:Int)))=3 then(toB ((Fu a0 ((w64 (8*(i1:Int))).toNat)).toNat:Int))else s1.2.2.2.1) fun x8=>bnd (if(w64 (7-(i1:Int)))=4 then(toB ((Fu a0 ((w64 (8*(i1:Int))).toNat)).toNat:Int))else s1.2.2.2.2.1) fun x9=>bnd (if(w64 (7-(i1:Int)))=5 then(toB ((Fu a0 ((w64 (8*(i1:Int))).toNat)).toNat:Int))else s1.2.2.2.2.2.1) fun x10=>bnd (if(w64 (7-(i1:Int)))=6 then(toB ((Fu a0 ((w64 (8*(i1:Int))).toNat)).toNat:Int))else s1.2.2.2.2.2.2.1) fun x11=>bnd (if(w64 (7-(i1:Int)))=7 then(toB ((Fu a0 ((w64 (8*(i1:Int))).toNat)).toNat:Int))else s1.2.2.2.2.2.2.2) fun x12=>some (x5,x6,x7,x8,x9,x10,x11,x12)else none
def F4 (a0:UInt64):Option (List UInt8):=Ab (Ab (Cg (J9 a0) 8 0 (0,0,0,0,0,0,0,0)) fun x2=>some (x2.1,x2.2.1,x2.2.2.1,x2.2.2.2.1,x2.2.2.2.2.1,x2.2.2.2.2.2.1,x2.2.2.2.2.2.2.1,x2.2.2.2.2.2.2.2)) fun x1=>some ([x1.1,x1.2.1,x1.2.2.1,x1.2.2.2.1,x1.2.2.2.2.1,x1.2.2.2.2.2.1,x1.2.2.2.2.2.2.1,x1.2.2.2.2.2.2.2]:List UInt8)
theorem MR {a0 r}(hm:F4 a0=some r):Sp prog 67 [.d (.u a0)] [] 0 (is (.ow 0) [.row 0 1 _ eB r] 1):=by
 refine sq ?_;intros;unfold F4 at hm;obtain⟨x1,q1,hm⟩:=Ac hm;refine oB q1 fun x2 q2 q1=>gF (EM _ 8 _) q2 (fun p0 (p_0,p_1,p_2,p_3,p_4,p_5,p_6,p_7)=>⟨[(0,.d (.u a0)),(3,.pb 0 0),(5,.d (.i p0))],[(0,.box 0 [.d (.b p_0),.d (.b p_1),.d (.b p_2),.d (.b p_3),.d (.b p_4),.d (.b p_5),.d (.b p_6),.d (.b p_7)] 156)],[],1⟩) fun i1 s1 Jl bl1=>cM bl1 (8:Int) (fun _ q5 bl1=> ?_) fun e=> ?_
 ·unfold J9 at q5;obtain⟨q7,q5⟩:=BY q5;refine gsh (r:= .u (Fu a0 ((w64 (8*(i1:Int))).toNat))) (fun h=>q7)<|oB q5 fun _ q8 q5=>OF (fun _=>q8)<|bE q5 ?_;intro _ q5;refine bE q5 ?_;intro _ q5;refine bE q5 ?_;intro _ q5;refine bE q5 ?_;intro _ q5;refine bE q5 ?_;intro _ q5;refine bE q5 ?_;intro _ q5;refine bE q5 ?_;intro _ q5;refine bE q5 ?_;intro _ q5;exact Af9 D.b (toB ((Fu a0 ((w64 (8*(i1:Int))).toNat)).toNat:Int)) q8<|gM bl1 lk q5
 subst e;obtain rfl:=Akr q1;let x1:=(x2.1,x2.2.1,x2.2.2.1,x2.2.2.2.1,x2.2.2.2.2.1,x2.2.2.2.2.2.1,x2.2.2.2.2.2.2.1,x2.2.2.2.2.2.2.2);refine gslA (k:=1) eB ([x1.1,x1.2.1,x1.2.2.1,x1.2.2.2.1,x1.2.2.2.2.1,x1.2.2.2.2.2.1,x1.2.2.2.2.2.2.1,x1.2.2.2.2.2.2.2]:List UInt8) (fun _=>rfl) ?_;exact Akr hm▸gE
def Fj (a0:UInt64)(a1:UInt64)(a2:List UInt8):Option UInt64:=Ab (F4 a0) fun x1=>Ab (F4 a1) fun x2=>Ab (Cx (⟨#[115,105,103,110]⟩:ByteArray) ([x1,x2,a2]:List (List UInt8))) fun x3=>Ab (Hb x3 1152921504606845789) fun x4=>some x4
theorem Mv {a0 a1 a2 r}(hm:Fj a0 a1 a2=some r):Sf prog 68 [.d (.u a0),.d (.u a1),sl eB a2] (.d (.u r)):=by
 refine sq ?_;intros;refine gD hm MR fun x1 q1 hm=>gD hm MR fun x2 q2 hm=>WL (k:=1) (eL eB) ([x1,x2,a2]:List (List UInt8)) (fun _=>rfl)<|gA hm EY fun _ q3 hm=>gA hm NN fun _ q4 hm=> ?_;exact Akr hm▸gE
def EI (a0:UInt64)(a1:UInt64)(a2:UInt64):Option UInt64:=if a0≠0 then if a0≠0 then Ab (Hd (Ky (a1%a0) (a2%a0)) ((a1%a0)+(a2%a0)) a0) fun x1=>some x1 else none else none
theorem PY {a0 a1 a2 r}(hm:EI a0 a1 a2=some r):Sf prog 146 [.d (.u a0),.d (.u a1),.d (.u a2)] (.d (.u r)):=by
 refine sq ?_;intros;unfold EI at hm;obtain⟨q1,hm⟩:=BY hm;refine AeF (d:= .u a0) (r:= .u (a1%a0)) (fun h=>q1) ?_;obtain⟨q2,hm⟩:=BY hm;refine AeF (d:= .u a0) (r:= .u (a2%a0)) (fun h=>q2)<|AhK (p:=(a1%a0)) (q:=(a2%a0)) func239<|gA hm QF fun _ q3 hm=> ?_;exact Akr hm▸gE
def Gq (a0:UInt64)(a1:UInt64):Option UInt64:=Ab (EI 1152921504606845789 a0 a1) fun x1=>some x1
theorem O2 {a0 a1 r}(hm:Gq a0 a1=some r):Sf prog 69 [.d (.u a0),.d (.u a1)] (.d (.u r)):=by
 refine sq ?_;intros;refine gA hm PY fun _ q1 hm=> ?_;exact Akr hm▸gE
def Fa (a0:UInt64)(a1:UInt64):Option UInt64:=Ab (Dd 1152921504606845789 a0 a1) fun x1=>some x1
theorem LP {a0 a1 r}(hm:Fa a0 a1=some r):Sf prog 70 [.d (.u a0),.d (.u a1)] (.d (.u r)):=by
 refine sq ?_;intros;refine gA hm Ge fun _ q1 hm=> ?_;exact Akr hm▸gE
def Il (a0:UInt64)(a1:List UInt8):Option (g_api_Sig×Int):=Ab (E5 a0) fun x1=>if(x1.2 !=0)=true then some ((⟨0,0⟩:g_api_Sig),x1.2)else Ab (F4 a0) fun x2=>Ab (J8 (⟨#[110,111,110,99,101]⟩:ByteArray) ([x2,a1]:List (List UInt8))) fun x3=>Ab (Ea x3) fun x4=>Ab (Fj x4 x1.1 a1) fun x5=>Ab (Fa x5 a0) fun x6=>Ab (Gq x6 x3) fun x7=>some ((⟨x5,x7⟩:g_api_Sig),0)
theorem Ol {a0 a1 r}(hm:Il a0 a1=some r):Sf prog 17 [.d (.u a0),sl eB a1] (.tup [ag (PI r.1),.d (.i r.2)]):=by
 refine sq ?_;intros;refine gA hm Ji fun _ q1 hm=>gi hm ?_ ?_<;>intro _ hm
 ·exact Akr hm▸gE
 refine gD hm MR fun x2 q2 hm=>WL (k:=1) (eL eB) ([x2,a1]:List (List UInt8)) (fun _=>rfl)<|gA hm Ry fun _ q3 hm=>gA hm Hq fun _ q4 hm=>gA hm Mv fun _ q5 hm=>gA hm LP fun _ q6 hm=>gA hm O2 fun _ q7 hm=> ?_;exact Akr hm▸gE
def Nw (a0:Gs)(k0:Int):Option (Bool×Int):=some ((a0.tag_==k0),k0)
theorem VS {a0 k0 r}(hm:Nw a0 k0=some r):Sp prog 243 [ag (Hf a0),.pb 0 0] [.box 0 [.d (.i k0)] 3] 1 (is (.d (.t r.1)) [.box 0 [.d (.i r.2)] 3] 1):=by
 refine sq ?_;intros;exact Akr hm▸gE
def An (a0:List Gs)(i1:Int)(s1:Int):Option ((Int)⊕(Int×Int)):=Ab (idx a0 (i1:Int)) fun x3=>Ab (Nw x3 s1) fun x4=>if x4.1=true then some (.inr ((i1:Int),x4.2))else some (.inl x4.2)
def B3 (a0:List Gs)(k0:Int):Option (Int×Int):=Ab (Es (An a0) a0.length 0 k0) fun x1=>match x1 with| .inr r=>some r| .inl y1=>some ((-1),y1)
theorem FB {a0 k0 r}(hm:B3 a0 k0=some r):Sp prog 242 [sl Hf a0,.fn (.func 243) [] [.pb 0 0]] [.box 0 [.d (.i k0)] 3] 1 (is (.d (.i r.1)) [.box 0 [.d (.i r.2)] 3] 1):=by
 refine sq ?_;intros;refine oB hm fun _ q1 hm=>Jd 0 (E:=Hf) (xs:=a0) 6 fun hle1=>gF (EN _ _ _) q1 (fun p0 p=>⟨[(0,sl Hf a0),(1,.fn (.func 243) [] [.pb 0 0]),(7,.d (.i (a0.length:Int))),(8,.d (.i p0))],[(0,.box 0 [.d (.i p)] 3)],[],1⟩) fun i1 s1 Jl bl1=>cN bl1 (a0.length:Int) (fun _ q4 bl1=> ?_) fun e=> ?_
 ·refine oB q4 fun _ q6 q4=>gx Hf 2 q6<|gD q4 VS fun _ q7 q4=>gi q4 ?_ ?_<;>intro _ q4
  ·obtain rfl:=nT bl1 q4;exact Akr hm▸gE
  exact gT bl1 hle1 q4
 subst e;let y1:=s1;exact Akr hm▸gE
def Ip (a0:Int):Option (Gs×Bool):=Ab (B3 tab_0 a0) fun x1=>if(decide (x1.1<0))=true then some ((⟨0,(-1)⟩:Gs),false)else Ab (idx tab_0 x1.1) fun x2=>some (x2,true)
theorem Tp {a0 r}(hm:Ip a0=some r):Sf prog 148 [.d (.i a0)] (.tup [ag (Hf r.1),.d (.t r.2)]):=by
 refine sq ?_;intros;refine gslG (k:=2) (E:=Hf) tab_0 (fun _=>rfl)<|gD hm FB fun _ q1 hm=>gi hm ?_ ?_<;>intro _ hm
 ·exact Akr hm▸gE
 refine oB hm fun _ q2 hm=>gidG (k:=2) (E:=Hf) tab_0 (fun _=>rfl) (fun _=>q2) ?_;exact Akr hm▸gE
def Ps (n:Int)(a0:List UInt8):Option Bool:=if n=73 then Kl a0 else if n=409 then HP a0 else if n=410 then Pt a0 else if n=411 then JC a0 else if n=414 then JB a0 else none
theorem YD {n a0 r}(hm:Ps n a0=some r): ∃k:Nat,n=(k:Int)∧Sf prog k [sl eB a0] (.d (.t r)):=by
 unfold Ps at hm;split at hm
 ·rename_i h;exact⟨73,h,RF hm⟩
 split at hm
 ·rename_i h;exact⟨409,h,Ur hm⟩
 split at hm
 ·rename_i h;exact⟨410,h,Uq hm⟩
 split at hm
 ·rename_i h;exact⟨411,h,Uo hm⟩
 split at hm
 ·rename_i h;exact⟨414,h,Un hm⟩
 cases hm
def NH (rF:g_api_Item→Int→Option Bool):Prop:= ∀{a0:g_api_Item} {a1:Int} {r:Bool},rF a0 a1=some r→Sf prog 71 [ag (Ad a0),.d (.i a1)] (.d (.t r))
def Me (rF:g_api_Item→Int→Option Bool)(a0:g_api_Item)(k0:Int):Option (Bool×Int):=Ab (rF a0 (w64 (k0-1))) fun x1=>some ((!x1),k0)
theorem Um {rF:g_api_Item→Int→Option Bool}(hF:NH rF){a0 k0 r}(hm:Me rF a0 k0=some r):Sp prog 150 [ag (Ad a0),.pb 0 0] [.box 0 [.d (.i k0)] 3] 1 (is (.d (.t r.1)) [.box 0 [.d (.i r.2)] 3] 1):=by
 refine sq ?_;intros;refine gA hm hF fun _ q1 hm=> ?_;exact Akr hm▸gE
def Av (rF:g_api_Item→Int→Option Bool)(a0:List g_api_Item)(i1:Int)(s1:Int):Option ((Int)⊕(Int×Int)):=Ab (idx a0 (i1:Int)) fun x3=>Ab ((Me rF) x3 s1) fun x4=>if x4.1=true then some (.inr ((i1:Int),x4.2))else some (.inl x4.2)
def BQ (rF:g_api_Item→Int→Option Bool)(a0:List g_api_Item)(k0:Int):Option (Int×Int):=Ab (Es ((Av rF) a0) a0.length 0 k0) fun x1=>match x1 with| .inr r=>some r| .inl y1=>some ((-1),y1)
theorem EW {rF:g_api_Item→Int→Option Bool}(hF:NH rF){a0 k0 r}(hm:BQ rF a0 k0=some r):Sp prog 244 [sl Ad a0,.fn (.func 150) [] [.pb 0 0]] [.box 0 [.d (.i k0)] 3] 1 (is (.d (.i r.1)) [.box 0 [.d (.i r.2)] 3] 1):=by
 refine sq ?_;intros;refine oB hm fun _ q1 hm=>Jd 0 (E:=Ad) (xs:=a0) 6 fun hle1=>gF (EN _ _ _) q1 (fun p0 p=>⟨[(0,sl Ad a0),(1,.fn (.func 150) [] [.pb 0 0]),(7,.d (.i (a0.length:Int))),(8,.d (.i p0))],[(0,.box 0 [.d (.i p)] 3)],[],1⟩) fun i1 s1 Jl bl1=>cN bl1 (a0.length:Int) (fun _ q4 bl1=> ?_) fun e=> ?_
 ·refine oB q4 fun _ q6 q4=>gx Ad 3 q6<|oB q4 fun _ q7 q4=>gco (Um hF q7)<|gi q4 ?_ ?_<;>intro _ q4
  ·obtain rfl:=nT bl1 q4;exact Akr hm▸gE
  exact gT bl1 hle1 q4
 subst e;let y1:=s1;exact Akr hm▸gE
def A3 (rF:g_api_Item→Int→Option Bool)(a0:List g_api_Item)(k0:Int):Option (Bool×Int):=Ab ((BQ rF) a0 k0) fun x1=>some ((decide (x1.1≥0)),x1.2)
theorem Er {rF:g_api_Item→Int→Option Bool}(hF:NH rF){a0 k0 r}(hm:A3 rF a0 k0=some r):Sp prog 149 [sl Ad a0,.fn (.func 150) [] [.pb 0 0]] [.box 0 [.d (.i k0)] 3] 1 (is (.d (.t r.1)) [.box 0 [.d (.i r.2)] 3] 1):=by
 refine sq ?_;intros;refine oB hm fun _ q1 hm=>gco (EW hF q1) ?_;exact Akr hm▸gE
def Io (rF:g_api_Item→Int→Option Bool)(a0:g_api_Item)(a1:Int):Option Bool:=Ab (Ip a0.Tag) fun x1=>Ab (gu (!((!x1.2)||(decide (a1<1)))) (Ps x1.1.may_ a0.B)) fun x2=>if((((!x1.2)||(decide (a1<1)))||(!x2))||((a0.Tag !=48)&&(decide ((a0.L.length:Int)>0))))=true then some false else Ab ((A3 rF) a0.L a1) fun x3=>some (!x3.1)
theorem Xv {rF:g_api_Item→Int→Option Bool}(hF:NH rF){a0 a1 r}(hm:Io rF a0 a1=some r):Sf prog 71 [ag (Ad a0),.d (.i a1)] (.d (.t r)):=by
 refine sq ?_;intros;refine gA hm Tp fun _ q1 hm=>oB hm fun _ q2 hm=>gdynG (fun h=>YD (Af7 h q2))<|gi hm ?_ ?_<;>intro _ hm
 ·exact Akr hm▸gE
 refine oB hm fun _ q3 hm=>gco (Er hF q3) ?_;exact Akr hm▸gE
def IM:Nat→g_api_Item→Int→Option Bool
 |0,_,_=>none
 |n+1,a0,a1=>Io (IM n) a0 a1
def Kj (a0:g_api_Item)(a1:Int):Option Bool:=IM EV a0 a1
theorem Tk: ∀n,NH (IM n)
 |0=>fun hm=>by cases hm
 |n+1=>fun hm=>Xv (Tk n) hm
theorem MX {a0:g_api_Item}{a1:Int}{r:Bool}(hm:Kj a0 a1=some r):Sf prog 71 [ag (Ad a0),.d (.i a1)] (.d (.t r)):=Tk EV hm
def Bl (a0:List UInt8):Option (List UInt8):=Ab (app 1 ([]:List UInt8) a0) fun x1=>some x1
theorem EA {a0 r}(hm:Bl a0=some r):Sp prog 74 [sl eB a0] [] 0 (is (.ow 0) [.row 0 1 _ eB r] 1):=by
 refine sq ?_;intros;unfold Bl at hm;refine gnq eB a0 (fun he1=> ?_) ?_
 ·rw[he1]at hm;replace hm:(some ([]:List UInt8))=some _:=hm;refine OE eB 2 1 ?_;exact Akr hm▸gE
 refine TN (k:=1) eB ([]:List UInt8) (fun _=>rfl)<|oB hm fun _ q1 hm=>gp eB 1 q1 ?_;exact Akr hm▸gE
def SI (rF:(List UInt8)→g_api_Item→Option (List UInt8)):Prop:= ∀{a0:List UInt8} {a1:g_api_Item} {r:List UInt8},rF a0 a1=some r→Sp prog 72 [.ow 0,ag (Ad a1)] [.row 0 1 _ eB a0] 1 (is (.ow 1) [.row 1 1 _ eB r] 2)
def Fo (rF:(List UInt8)→g_api_Item→Option (List UInt8))(i1:Int)(x4:g_api_Item)(s1:(List UInt8)):Option ((List UInt8)):=Ab (rF s1 x4) fun x5=>some x5
def HQ (rF:(List UInt8)→g_api_Item→Option (List UInt8))(a0:g_api_Item):Option (List UInt8):=Ab (Bl a0.B) fun x1=>Ab (Ab (Et (Fo rF) a0.L 0 x1) fun x3=>some x3) fun x2=>some x2
theorem RH {rF:(List UInt8)→g_api_Item→Option (List UInt8)}(hF:SI rF){a0 r}(hm:HQ rF a0=some r):Sp prog 151 [ag (Ad a0)] [] 0 (is (.ow 0) [.row 0 1 _ eB r] 1):=by
 refine sq ?_;intros;refine gD hm EA fun _ q1 hm=> ?_;obtain⟨x2,q2,hm⟩:=Ac hm;refine oB q2 fun _ q3 q2=>Jd 0 (E:=Ad) (xs:=a0.L) 10 fun hle1=>gF (E0 _ _ _) q3 (fun p0 p=>⟨[(3,.ow 1),(10,sl Ad a0.L),(11,.d (.i (a0.L.length:Int))),(12,.d (.i p0)),(1,.pb 0 0)],[(0,.row 1 1 _ eB p),(1,.box 0 [.d (.i a0.Tag),sl eB a0.B,sl Ad a0.L] 76)],[],2⟩) fun i1 s1 Jl bl1=>c0 bl1 (fun _ _ q7 q6 bl1=> ?_) fun e=> ?_
 ·exact gx Ad 3 q7<|gD q6 hF fun _ q8 q6=>gM bl1 hle1 q6
 subst e;obtain rfl:=Akr q2;exact Akr hm▸gE
def Mc (rF:(List UInt8)→g_api_Item→Option (List UInt8))(a0:List UInt8)(a1:g_api_Item):Option (List UInt8):=Ab ((HQ rF) a1) fun x1=>Ab (app 1 a0 ([(toB a1.Tag)]:List UInt8)) fun x2=>Ab (bnd ((decide ((x1.length:Int)<128))) fun x4=>if x4=true then Ab (app 1 x2 ([(toB (x1.length:Int))]:List UInt8)) fun x5=>some x5 else bnd ((decide ((x1.length:Int)<256))) fun x6=>if x6=true then Ab (app 1 x2 ([129,(toB (x1.length:Int))]:List UInt8)) fun x7=>some x7 else Ab (app 1 x2 ([130,(toB (BE (x1.length:Int) 8)),(toB (x1.length:Int))]:List UInt8)) fun x8=>some x8) fun x3=>Ab (app 1 x3 x1) fun x9=>some x9
theorem Xu {rF:(List UInt8)→g_api_Item→Option (List UInt8)}(hF:SI rF){a0 a1 r}(hm:Mc rF a0 a1=some r):Sp prog 72 [.ow 0,ag (Ad a1)] [.row 0 1 _ eB a0] 1 (is (.ow 1) [.row 1 1 _ eB r] 2):=by
 refine sq fun D0 As η0 m0 hd=>oB hm fun x1 q1 hm=>gco (RH hF q1)<|gq eB 1 [(toB a1.Tag)]<|oB hm fun _ q2 hm=>gp eB 1 q2<|oB hm fun x3 q3 hm=>gjU 0 (fun(_:Unit)=>⟨[(0,.ow 3),(5,.ow 2),(3,.pb 1 0)],[(0,.row 3 1 _ eB x3),(1,.row 2 1 _ eB x1),(2,.box 1 [.d (.i a1.Tag),sl eB a1.B,sl Ad a1.L] 76)],[],4⟩) (fun _=>True) (fun Jp bk1=> ?_) fun _ _=> ?_
 ·refine bE q3 ?_;intro _ q3;refine gi q3 ?_ ?_<;>intro _ q3
  ·refine gq eB 1 [(toB (x1.length:Int))]<|oB q3 fun _ q5 q3=>gp eB 1 q5 ?_;obtain rfl:=Akr q3;exact gb bk1 hd () trivial
  refine bE q3 ?_;intro _ q3;refine gi q3 ?_ ?_<;>intro _ q3
  ·refine gq eB 1 [129,(toB (x1.length:Int))]<|oB q3 fun _ q7 q3=>gp eB 1 q7 ?_;obtain rfl:=Akr q3;exact gb bk1 hd () trivial
  refine gq eB 1 [130,(toB (BE (x1.length:Int) 8)),(toB (x1.length:Int))]<|oB q3 fun _ q8 q3=>gp eB 1 q8 ?_;obtain rfl:=Akr q3;exact gb bk1 hd () trivial
 refine oB hm fun _ q9 hm=>gp eB 1 q9 ?_;exact Akr hm▸gE
def Hu:Nat→(List UInt8)→g_api_Item→Option (List UInt8)
 |0,_,_=>none
 |n+1,a0,a1=>Mc (Hu n) a0 a1
def Sc (a0:List UInt8)(a1:g_api_Item):Option (List UInt8):=Hu EV a0 a1
theorem Tj: ∀n,SI (Hu n)
 |0=>fun hm=>by cases hm
 |n+1=>fun hm=>Xu (Tj n) hm
theorem Abl {a0:List UInt8}{a1:g_api_Item}{r:List UInt8}(hm:Sc a0 a1=some r):Sp prog 72 [.ow 0,ag (Ad a1)] [.row 0 1 _ eB a0] 1 (is (.ow 1) [.row 1 1 _ eB r] 2):=Tj EV hm
def HS (a0:g_api_Item):Option ((List UInt8)×Int):=Ab (Kj a0 8) fun x1=>if(!x1)=true then some (([]:List UInt8),1)else Ab (Sc ([]:List UInt8) a0) fun x2=>if(decide ((x2.length:Int)>8192))=true then some (([]:List UInt8),2)else some (x2,0)
theorem O1 {a0 r}(hm:HS a0=some r):Sp prog 18 [ag (Ad a0)] [] 0 (is (.tup [.ow 0,.d (.i r.2)]) [.row 0 1 _ eB r.1] 1):=by
 refine sq ?_;intros;refine gA hm MX fun _ q1 hm=>gi hm ?_ ?_<;>intro _ hm
 ·refine OE eB 2 1 ?_;exact Akr hm▸gE
 refine oB hm fun _ q2 hm=>gco (Sp.nil0 (Abl q2) rfl)<|gi hm ?_ ?_<;>intro _ hm
 ·refine OE eB 2 1 ?_;exact Akr hm▸gE
 exact Akr hm▸gE
theorem AdL {a0:g_api_Item}{r:(List UInt8)×Int}(hm:HS a0=some r):Sf prog 18 [ag (Ad a0)] (.tup [sl eB r.1,.d (.i r.2)]):=Sp.fz (O1 hm) (by kernel_rfl)
def Ny (a0:Int)(i1:Int)(s1:UInt8×UInt8×UInt8×UInt8×UInt8×UInt8×UInt8×UInt8):Option (UInt8×UInt8×UInt8×UInt8×UInt8×UInt8×UInt8×UInt8):=if(0:Int)≤(w64 (56-(w64 (8*(i1:Int)))))then Ab (idx [s1.1,s1.2.1,s1.2.2.1,s1.2.2.2.1,s1.2.2.2.2.1,s1.2.2.2.2.2.1,s1.2.2.2.2.2.2.1,s1.2.2.2.2.2.2.2] (i1:Int)) fun x4=>bnd (if(i1:Int)=0 then(toB (BE a0 ((w64 (56-(w64 (8*(i1:Int))))).toNat)))else s1.1) fun x5=>bnd (if(i1:Int)=1 then(toB (BE a0 ((w64 (56-(w64 (8*(i1:Int))))).toNat)))else s1.2.1) fun x6=>bnd (if(i1:Int)=2 then(toB (BE a0 ((w64 (56-(w64 (8*(i1:Int))))).toNat)))else s1.2.2.1) fun x7=>bnd (if(i1:Int)=3 then(toB (BE a0 ((w64 (56-(w64 (8*(i1:Int))))).toNat)))else s1.2.2.2.1) fun x8=>bnd (if(i1:Int)=4 then(toB (BE a0 ((w64 (56-(w64 (8*(i1:Int))))).toNat)))else s1.2.2.2.2.1) fun x9=>bnd (if(i1:Int)=5 then(toB (BE a0 ((w64 (56-(w64 (8*(i1:Int))))).toNat)))else s1.2.2.2.2.2.1) fun x10=>bnd (if(i1:Int)=6 then(toB (BE a0 ((w64 (56-(w64 (8*(i1:Int))))).toNat)))else s1.2.2.2.2.2.2.1) fun x11=>bnd (if(i1:Int)=7 then(toB (BE a0 ((w64 (56-(w64 (8*(i1:Int))))).toNat)))else s1.2.2.2.2.2.2.2) fun x12=>some (x5,x6,x7,x8,x9,x10,x11,x12)else none
def EU (s2:(List UInt8)):Option (((List UInt8))⊕((List UInt8))):=if(decide ((s2.length:Int)>1))=true then Ab (Kl s2) fun x16=>if(!x16)=true then Ab (cut s2 1 (s2.length:Int)) fun x17=>some (.inl x17)else some (.inr s2)else some (.inr s2)
def Fp (a0:Int):Option g_api_Item:=Ab (Ab (Cg (Ny a0) 8 0 (0,0,0,0,0,0,0,0)) fun x2=>some (x2.1,x2.2.1,x2.2.2.1,x2.2.2.2.1,x2.2.2.2.2.1,x2.2.2.2.2.2.1,x2.2.2.2.2.2.2.1,x2.2.2.2.2.2.2.2)) fun x1=>Ab (Ab (iter EU EV ([x1.1,x1.2.1,x1.2.2.1,x1.2.2.2.1,x1.2.2.2.2.1,x1.2.2.2.2.2.1,x1.2.2.2.2.2.2.1,x1.2.2.2.2.2.2.2]:List UInt8)) fun x14=>some x14) fun x13=>Ab (Bl x13) fun x18=>some (⟨2,x18,[]⟩:g_api_Item)
theorem II {a0 r}(hm:Fp a0=some r):Sf prog 19 [.d (.i a0)] (ag (Ad r)):=by
 refine sq fun D0 As η0 m0 hd=> ?_;unfold Fp at hm;obtain⟨x1,q1,hm⟩:=Ac hm;refine oB q1 fun x2 q2 q1=>gF (EM _ 8 _) q2 (fun p0 (p_0,p_1,p_2,p_3,p_4,p_5,p_6,p_7)=>⟨[(0,.d (.i a0)),(2,.pb 0 0),(3,.pb 1 0),(6,.d (.i p0))],[(0,.box 1 [.d (.b p_0),.d (.b p_1),.d (.b p_2),.d (.b p_3),.d (.b p_4),.d (.b p_5),.d (.b p_6),.d (.b p_7)] 156),(1,.box 0 [.d (.i 0),sl eB [],sl Ad []] 76)],[],2⟩) fun i1 s1 Jl bl1=>cM bl1 (8:Int) (fun _ q5 bl1=> ?_) fun e=> ?_
 ·unfold Ny at q5;obtain⟨q7,q5⟩:=BY q5;refine gsh (r:= .i (BE a0 ((w64 (56-(w64 (8*(i1:Int))))).toNat))) (fun h=>q7)<|oB q5 fun _ q8 q5=>OF (fun _=>q8)<|bE q5 ?_;intro _ q5;refine bE q5 ?_;intro _ q5;refine bE q5 ?_;intro _ q5;refine bE q5 ?_;intro _ q5;refine bE q5 ?_;intro _ q5;refine bE q5 ?_;intro _ q5;refine bE q5 ?_;intro _ q5;refine bE q5 ?_;intro _ q5;exact Af9 D.b (toB (BE a0 ((w64 (56-(w64 (8*(i1:Int))))).toNat))) q8<|gM bl1 lk q5
 subst e;obtain rfl:=Akr q1;let x1:=(x2.1,x2.2.1,x2.2.2.1,x2.2.2.2.1,x2.2.2.2.2.1,x2.2.2.2.2.2.1,x2.2.2.2.2.2.2.1,x2.2.2.2.2.2.2.2);refine gslA (k:=1) eB ([x1.1,x1.2.1,x1.2.2.1,x1.2.2.2.1,x1.2.2.2.2.1,x1.2.2.2.2.2.1,x1.2.2.2.2.2.2.1,x1.2.2.2.2.2.2.2]:List UInt8) (fun _=>rfl) ?_;obtain⟨x13,q17,hm⟩:=Ac hm;refine oB q17 fun x14 q18 q17=>gjU 2 (fun(_:Unit)=>⟨[(2,.pb 0 0),(5,sl eB x14)],[(0,.box 0 [.d (.i 0),sl eB [],sl Ad []] 76)],[],1⟩) (fun _=>True) (fun Jp bk4=> ?_) fun _ _=> ?_
 ·refine gI q18 (fun p=>⟨[(2,.pb 0 0),(5,sl eB p)],[(0,.box 0 [.d (.i 0),sl eB [],sl Ad []] 76)],[],1⟩) fun s2 _ Jl q21 bl2=>AhD 22 q21 (fun hc2 q21=> ?_) fun hc2 q21=> ?_
  ·refine gA q21 RF fun _ q23 q21=>gi q21 ?_ ?_<;>intro _ q21
   ·exact oB q21 fun _ q24 q21=>gk eB 1 q24<|gN bl2 q21
   obtain rfl:=nR bl2 q21;exact gb bk4 hd () trivial
  refine gi' (b:=false) (fun h=>by cases h) (fun _=> ?_);obtain rfl:=nR bl2 q21;exact gb bk4 hd () trivial
 obtain rfl:=Akr q17;refine gD hm EA fun _ q25 hm=> ?_;exact Akr hm▸gE
def Iu (a0:List UInt8)(a1:UInt8):Option Int:=if a0.isEmpty=true then none else some (Go.Lib.indexByte a0 a1)
theorem P1 {a0 a1 r}(hm:Iu a0 a1=some r):Sf prog 152 [sl eB a0,.d (.b a1)] (.d (.i r)):=by
 unfold Iu at hm;split at hm
 ·cases hm
 rename_i hne;cases hm;refine UF call152 fun η m As w vs hv S=> ?_;obtain⟨v,us,rfl,r0,hv⟩:=hv.cons_inv;obtain⟨v',us',rfl,r1,hv⟩:=hv.cons_inv;obtain rfl:=hv.nil_inv;obtain rfl:=rel_b r1;have hid: ∀l:List UInt8,Go.Lib.bytesOf (l.map fun x=>(x.toNat:Int))=l:=fun l=>by
  simp[Go.Lib.bytesOf,Function.comp_def]
 have hc1:((a1.toNat:Int)).toNat.toUInt8=a1:=by simp
 rcases ZY r0 with ⟨rfl,a,c,rfl⟩|⟨b,off,cap,l,e,fr,rfl,hn,hc,hb,hx⟩
 ·exact absurd rfl hne
 ·obtain⟨x,s,d,g,g',n⟩:=S.own;have:=Go.Proofs.Any.bytes_IndexByte_at Go.Proofs.Tryz.lays187 ⟨b,off,none⟩ a0.length cap (a0.map fun x=>(x.toNat:Int)) (a1.toNat:Int) w (by simp) (fun i hi=>by
   rw[show(⟨b,off,none⟩:Addr).add i=⟨b,off+i,none⟩ by simp[Eg],Qm (g _ _ hb) (hx i a0[i] (by simp[hi]))];simp[List.getD,hi])
  rw[hid,hc1]at this;exact Calls.mono this fun e w' ⟨e1,e2⟩=>⟨_,e1,.d (.i _),e2▸Below.refl _ _⟩
def MB (a0:List UInt8)(a1:ByteArray):Option (List UInt8):=if AgA a1=true then some (Go.Lib.trimLeftS a0 a1.data.toList)else none
theorem Q0 {a0 a1 r}(hm:MB a0 a1=some r):Sf prog 153 [sl eB a0,.d (.s a1)] (sl eB r):=by
 obtain⟨h1,e⟩:=BY hm;cases e;obtain⟨h3,h4⟩:=WW h1;have nilR: ∀{η:Env} {m:Mem} {a:Option Addr} {c:Nat},Rel η m (sl eB ([]:List UInt8)) (.slice a 0 c):=fun {_ m a c}=> .d (.sl (sz:=1) (cs:=[]) ⟨rfl,by decide,.inl ⟨rfl,_,_,rfl⟩⟩ (fun _ h=>by cases h) rfl fun k d u h=>by simp at h);refine UF call153 fun η m As w vs hv S=> ?_;obtain⟨v,us,rfl,r0,hv⟩:=hv.cons_inv;obtain⟨v',us',rfl,r1,hv⟩:=hv.cons_inv;obtain rfl:=hv.nil_inv;obtain rfl:=Afl r1;rcases ZY r0 with ⟨rfl,a,c,rfl⟩|⟨b,off,cap,l,e,fr,rfl,hn,hc,hb,hx⟩
 ·refine Calls.mono (Go.Proofs.Any.bytes_TrimLeft_none Go.Proofs.Tryz.laysV8 a c a1 w) fun e w' ⟨e1,e2⟩=>⟨_,e1,?_,e2▸Below.refl _ _⟩;exact nilR
 ·obtain⟨x,s,d,g,g',n⟩:=S.own;have hat:Go.Lib.BytesAt w (some ⟨b,off,none⟩) a0.length a0:=fun _=>⟨b,off,rfl,fun i hi=>by
   have:=Qm (g _ _ hb) (hx i a0[i] (by simp[hi]));rw[this]; simp[List.getD,hi]⟩
  have h27:(prog.info? (Go.Proofs.Tryz.laysV8_ren.t 27)).map (fun i=>(i.zero,i.size))=some (some (.agg (Array.replicate 256 (.bool false))),256):=by kernel_rfl
  refine Calls.mono (Go.Proofs.Any.bytes_TrimLeft_ascii Go.Proofs.Tryz.laysV8 (Go.zero_of_info h27).1 (Go.zero_of_info h27).2 _ _ cap a0 a1 w rfl hn hc hat h3 h4) fun e w' ⟨e1,e2⟩=>⟨_,e1,?_,e2⟩;have hd:Go.Lib.trimLeftS a0 a1.data.toList=a0.drop (a0.length-(Go.Lib.trimLeftS a0 a1.data.toList).length):=by
   have:Go.Lib.trimLeftS a0 a1.data.toList<:+a0:=List.dropWhile_suffix _;exact(List.suffix_iff_eq_drop.1 this)
  generalize Go.Lib.trimLeftS a0 a1.data.toList=q at hd⊢;have hq:q.length≤a0.length:=by rw[hd]; simp
  unfold Go.Lib.leftV;by_cases h0:a0.length-q.length=a0.length
  ·rw[AkA h0];have:q=[]:=by rw[hd,h0]; simp
   subst this;exact nilR
  ·rw[Aky h0];unfold Go.Lib.fromV;rw[Aky (by omega)];have e0:a0.length-(a0.length-q.length)=q.length:=by omega
   rw[e0];rw[AkL,Eg];refine AeQ (by omega) (by omega) hb fun i x hi=> ?_;rw[hd,List.getElem?_drop]at hi;rw[Alo];exact hx _ x hi
def No (a0:Ao)(s1:Int):Option ((Int)⊕(Int)):=if(decide (s1<(a0.b_.length:Int)))=true then Ab (idx a0.b_ s1) fun x4=>Ab (if((x4.toNat:Int)==32)=true then some ((x4.toNat:Int)==32)else some ((x4.toNat:Int)==10)) fun x5=>if x5=true then some (.inl (w64 (s1+1)))else if((x4.toNat:Int)==35)=true then Ab (cut a0.b_ s1 (a0.b_.length:Int)) fun x6=>Ab (Iu x6 10) fun x7=>Ab (if(decide (x7<0))=true then bnd ((w64 ((a0.b_.length:Int)-s1))) fun x9=>some x9 else some x7) fun x8=>some (.inl (w64 (s1+x8)))else some (.inr s1)else some (.inr s1)
def Bw (a0:Ao):Option Ao:=Ab (Ab (iter (No a0) EV (w64 (a0.at_+(a0.token_.size:Int)))) fun x2=>some x2) fun x1=>Ab (cut a0.b_ x1 (a0.b_.length:Int)) fun x10=>Ab (MB x10 (⟨#[97,98,99,100,101,102,103,104,105,106,107,108,109,110,111,112,113,114,115,116,117,118,119,120,121,122,48,49,50,51,52,53,54,55,56,57,45,42,46,95]⟩:ByteArray)) fun x11=>bnd ((w64 ((x10.length:Int)-(x11.length:Int)))) fun x12=>Ab (if(x12==0)=true then some (Q5 1 (x10.length:Int))else some x12) fun x13=>Ab (cut x10 0 x13) fun x14=>some (⟨a0.b_,x1,(bs x14)⟩:Ao)
theorem B5 {a0 r}(hm:Bw a0=some r):Sp prog 76 [.pb 0 0] [.box 0 [sl eB a0.b_,.d (.i a0.at_),.d (.s a0.token_)] 163] 1 (is (.tup []) [.box 0 [.d (.sl _ eB r.b_),.d (.i r.at_),.d (.s r.token_)] 163] 1):=by
 refine sq fun D0 As η0 m0 hd=> ?_;unfold Bw at hm;obtain⟨x1,q1,hm⟩:=Ac hm;refine oB q1 fun x2 q2 q1=>gjU 0 (fun(_:Unit)=>⟨[(0,.pb 0 0)],[(0,.box 0 [sl eB a0.b_,.d (.i x2),.d (.s a0.token_)] 163)],[],1⟩) (fun _=>True) (fun Jp bk2=> ?_) fun _ _=> ?_
 ·refine gI q2 (fun p=>⟨[(0,.pb 0 0)],[(0,.box 0 [sl eB a0.b_,.d (.i p),.d (.s a0.token_)] 163)],[],1⟩) fun s1 _ Jl q5 bl1=>gi q5 ?_ ?_<;>intro _ q5
  ·refine oB q5 fun x4 q7 q5=>gx eB 1 q7<|oB q5 fun x5 q8 q5=>gj (fun(_:Unit)=>⟨[(0,.pb 0 0),(36,.d (.b x4)),(37,.d (.t x5))],[(0,.box 0 [sl eB a0.b_,.d (.i s1),.d (.s a0.token_)] 163)],[],1⟩) (fun _=>True) (fun Jp bk3=> ?_) fun _ _=> ?_
   ·refine gi q8 ?_ ?_<;>intro _ q8
    ·obtain rfl:=Akr q8;exact gb bk3 hd () trivial
    obtain rfl:=Akr q8;exact gb bk3 hd () trivial
   refine gi q5 ?_ ?_<;>intro _ q5
   ·exact gN bl1 q5
   refine gi q5 ?_ ?_<;>intro _ q5
   ·refine oB q5 fun _ q9 q5=>gk eB 1 q9<|gA q5 P1 fun _ q10 q5=>oB q5 fun x8 q11 q5=>gj (fun(_:Unit)=>⟨[(0,.pb 0 0),(2,.d (.i x8))],[(0,.box 0 [sl eB a0.b_,.d (.i s1),.d (.s a0.token_)] 163)],[],1⟩) (fun _=>True) (fun Jp bk4=> ?_) fun _ _=> ?_
    ·refine gi q11 ?_ ?_<;>intro _ q11
     ·refine bE q11 ?_;intro _ q11;obtain rfl:=Akr q11;exact gb bk4 hd () trivial
     obtain rfl:=Akr q11;exact gb bk4 hd () trivial
    exact gN bl1 q5
   obtain rfl:=nR bl1 q5;exact gb bk2 hd () trivial
  obtain rfl:=nR bl1 q5;exact gb bk2 hd () trivial
 obtain rfl:=Akr q1;let x1:=x2;refine oB hm fun x10 q13 hm=>gk eB 1 q13<|gA hm Q0 fun _ q14 hm=>bE hm ?_;intro _ hm;refine oB hm fun x13 q16 hm=>gj (fun(_:Unit)=>⟨[(0,.pb 0 0),(3,sl eB x10),(4,.d (.i x13))],[(0,.box 0 [sl eB a0.b_,.d (.i x1),.d (.s a0.token_)] 163)],[],1⟩) (fun _=>True) (fun Jp bk5=> ?_) fun _ _=> ?_
 ·refine gi q16 ?_ ?_<;>intro _ q16
  ·obtain rfl:=Akr q16;exact gb bk5 hd () trivial
  obtain rfl:=Akr q16;exact gb bk5 hd () trivial
 refine oB hm fun x14 q17 hm=>gk eB 1 q17<|gbs (xs:=x14) ?_;exact Akr hm▸gE
def Cz (a0:Ao):Option (Except (Int×Int) Ao):=some (.error (a0.at_,71))
theorem Bz {a0 r}(hm:Cz a0=some r):Sb prog 154 [.pb 0 0] [.box 0 [sl eB a0.b_,.d (.i a0.at_),.d (.s a0.token_)] 163] 1 (thV 160 r) (Pos (exo r) (fun r=> .tup []) (fun r=> [.box 0 [.d (.sl _ eB r.b_),.d (.i r.at_),.d (.s r.token_)] 163]) 1) (exo r=none):=
 sb call154 func154 rfl ntmps154 rfl fun D0 As η0 m0 hd=>by
  unfold Cz at hm;obtain rfl:=Akr hm;exact Ye (by kernel_rfl)
def C0 (a0:ByteArray)(a1:UInt8):Option Int:=some (ixbS a0 a1)
theorem H4 {a0 a1 r}(hm:C0 a0 a1=some r):Sf prog 366 [.d (.s a0),.d (.b a1)] (.d (.i r)):=by
 refine sq ?_;intros;refine gext (F:=ixbS) (p:=a0) (q:=a1) func376 (extIxb (by kernel_rfl) (by kernel_rfl) (by kernel_rfl) (by kernel_rfl)) ?_;exact Akr hm▸gE
def Oc (a0:ByteArray)(a1:ByteArray):Option ByteArray:=if AgA a1=true∧a0.size≤9223372036854775807 then some ⟨(Go.Lib.trimS a0.data.toList a1.data.toList).toArray⟩else none
theorem SN {a0 a1 r}(hm:Oc a0 a1=some r):Sf prog 250 [.d (.s a0),.d (.s a1)] (.d (.s r)):=by
 obtain⟨⟨h1,h2⟩,e⟩:=BY hm;cases e;obtain⟨h3,h4⟩:=WW h1;refine UF call250 fun η m As w vs hv S=> ?_;obtain⟨v,us,rfl,r0,hv⟩:=hv.cons_inv;obtain⟨v',us',rfl,r1,hv⟩:=hv.cons_inv;obtain rfl:=hv.nil_inv;obtain rfl:=Afl r0;obtain rfl:=Afl r1;exact Calls.mono (Go.Proofs.Any.strings_Trim_laid Go.Proofs.Tryz.lays160 (by kernel_rfl) a0 a1 w h2 h3 h4) fun e w' ⟨e1,e2⟩=>⟨_,e1,.d (.s _),e2⟩
def Np (a0:ByteArray):Option Bool:=Ab (gu ((!eqS a0 (⟨#[]⟩:ByteArray))&&(decide ((a0.size:Int)≤16))) (Oc a0 (⟨#[97,98,99,100,101,102,103,104,105,106,107,108,109,110,111,112,113,114,115,116,117,118,119,120,121,122,48,49,50,51,52,53,54,55,56,57,45]⟩:ByteArray))) fun x1=>bnd ((((!eqS a0 (⟨#[]⟩:ByteArray))&&(decide ((a0.size:Int)≤16)))&&(eqS x1 (⟨#[]⟩:ByteArray)))) fun x2=>some x2
theorem Qz {a0 r}(hm:Np a0=some r):Sf prog 157 [.d (.s a0)] (.d (.t r)):=by
 refine sq ?_;intros;refine oB hm fun _ q1 hm=>gcH q1 SN<|bE hm ?_;intro _ hm;exact Akr hm▸gE
def Ib (a0:g_api_Rule)(k0:ByteArray):Option (Bool×ByteArray):=some ((eqS a0.Name k0),k0)
theorem MF {a0 k0 r}(hm:Ib a0 k0=some r):Sp prog 159 [ag (Ah a0),.pb 0 0] [.box 0 [.d (.s k0)] 9] 1 (is (.d (.t r.1)) [.box 0 [.d (.s r.2)] 9] 1):=by
 refine sq ?_;intros;exact Akr hm▸gE
def EO (a0:List g_api_Rule)(i1:Int)(s1:ByteArray):Option ((ByteArray)⊕(Int×ByteArray)):=Ab (idx a0 (i1:Int)) fun x3=>Ab (Ib x3 s1) fun x4=>if x4.1=true then some (.inr ((i1:Int),x4.2))else some (.inl x4.2)
def C3 (a0:List g_api_Rule)(k0:ByteArray):Option (Int×ByteArray):=Ab (Es (EO a0) a0.length 0 k0) fun x1=>match x1 with| .inr r=>some r| .inl y1=>some ((-1),y1)
theorem FC {a0 k0 r}(hm:C3 a0 k0=some r):Sp prog 251 [sl Ah a0,.fn (.func 159) [] [.pb 0 0]] [.box 0 [.d (.s k0)] 9] 1 (is (.d (.i r.1)) [.box 0 [.d (.s r.2)] 9] 1):=by
 refine sq ?_;intros;refine oB hm fun _ q1 hm=>Jd 0 (E:=Ah) (xs:=a0) 6 fun hle1=>gF (EN _ _ _) q1 (fun p0 p=>⟨[(0,sl Ah a0),(1,.fn (.func 159) [] [.pb 0 0]),(7,.d (.i (a0.length:Int))),(8,.d (.i p0))],[(0,.box 0 [.d (.s p)] 9)],[],1⟩) fun i1 s1 Jl bl1=>cN bl1 (a0.length:Int) (fun _ q4 bl1=> ?_) fun e=> ?_
 ·refine oB q4 fun _ q6 q4=>gx Ah 7 q6<|gD q4 MF fun _ q7 q4=>gi q4 ?_ ?_<;>intro _ q4
  ·obtain rfl:=nT bl1 q4;exact Akr hm▸gE
  exact gT bl1 hle1 q4
 subst e;let y1:=s1;exact Akr hm▸gE
def CL (a0:List g_api_Rule)(k0:ByteArray):Option (Bool×ByteArray):=Ab (C3 a0 k0) fun x1=>some ((decide (x1.1≥0)),x1.2)
theorem EL {a0 k0 r}(hm:CL a0 k0=some r):Sp prog 158 [sl Ah a0,.fn (.func 159) [] [.pb 0 0]] [.box 0 [.d (.s k0)] 9] 1 (is (.d (.t r.1)) [.box 0 [.d (.s r.2)] 9] 1):=by
 refine sq ?_;intros;refine gD hm FC fun _ q1 hm=> ?_;exact Akr hm▸gE
def BJ (a0:Ao)(a1:ByteArray):Option (Except (Int×Int) Ao):=
 Ab ((
   if(!eqS a0.token_ a1)=true then
    Ab (Cz a0) fun y2=>match y2 with
    | .error z1=>some (.inr (.error z1))
    | .ok x2=>
    some (.inl (x2.b_,x2.at_,x2.token_))
   else
   some (.inl (a0.b_,a0.at_,a0.token_))
  :Option (((List UInt8)×Int×ByteArray)⊕(Except (Int×Int) Ao)))) fun x1=>match x1 with
 | .inr r=>some r
 | .inl y1=>
 Ab (Bw (⟨y1.1,y1.2.1,y1.2.2⟩:Ao)) fun x3=>
 some (.ok x3)
theorem AH {a0 a1 r}(hm:BJ a0 a1=some r):Sb prog 160 [.pb 0 0,.d (.s a1)] [.box 0 [sl eB a0.b_,.d (.i a0.at_),.d (.s a0.token_)] 163] 1 (thV 160 r) (Pos (exo r) (fun r=> .tup []) (fun r=> [.box 0 [.d (.sl _ eB r.b_),.d (.i r.at_),.d (.s r.token_)] 163]) 1) (exo r=none):=
 sb call160 func160 rfl ntmps160 rfl fun D0 As η0 m0 hd=>by
  unfold BJ at hm;refine oB hm fun x1 q1 hm=>gj (fun(y1:(List UInt8)×Int×ByteArray)=>let (y_0,y_1,y_2):=y1; ⟨[(0,.pb 0 0)],[(0,.box 0 [sl eB y_0,.d (.i y_1),.d (.s y_2)] 163)],[],1⟩) (fun y1=>x1= .inl y1) (fun Jp bk1=> ?_) fun y1 hy=> ?_
  ·refine gi q1 ?_ ?_<;>intro hc1 q1
   ·obtain⟨y2,q2,q1⟩:=Ac q1;rcases y2 with z1|x2
    ·dsimp only at q1;obtain rfl:=Akr q1;dsimp only at hm;obtain rfl:=Akr hm;exact HX (Bz q2)
    dsimp only at q1;refine gco (Bz q2).spE ?_;obtain rfl:=Akr q1;exact gb bk1 hd _ rfl
   obtain rfl:=Akr q1;exact gb bk1 hd _ rfl
  subst hy;dsimp only at hm;refine gD hm B5 fun x3 q3 hm=> ?_;obtain rfl:=Akr hm;exact Qg hd
def CH (a0:ByteArray)(a1:ByteArray):Option Int:=bnd ((((a1.size:Int)==0)||(eqS a1 a0))) fun x1=>if x1=true then some 0 else if((a1.size:Int)==1)=true then Ab (idx a1.data.toList 0) fun x2=>Ab (C0 a0 x2) fun x3=>some x3 else bnd ((decide ((a1.size:Int)≥(a0.size:Int)))) fun x4=>if x4=true then some (-1)else none
theorem FJ {a0 a1 r}(hm:CH a0 a1=some r):Sf prog 345 [.d (.s a0),.d (.s a1)] (.d (.i r)):=by
 refine sq ?_;intros;refine bE hm ?_;intro _ hm;refine gi hm ?_ ?_<;>intro _ hm
 ·exact Akr hm▸gE
 refine gi hm ?_ ?_<;>intro _ hm
 ·refine oB hm fun _ q2 hm=>AjK (fun _=>q2)<|gA hm H4 fun _ q3 hm=> ?_;exact Akr hm▸gE
 refine bE hm ?_;intro _ hm;refine gi hm ?_ ?_<;>intro _ hm
 ·exact Akr hm▸gE
 cases hm
def F0 (a0:ByteArray)(a1:ByteArray):Option Int:=Ab (CH a0 a1) fun x1=>some x1
theorem MN {a0 a1 r}(hm:F0 a0 a1=some r):Sf prog 313 [.d (.s a0),.d (.s a1)] (.d (.i r)):=by
 refine sq ?_;intros;refine gA hm FJ fun _ q1 hm=> ?_;exact Akr hm▸gE
def EE (a0:ByteArray)(a1:ByteArray):Option Int:=if((a1.size:Int)==0)=true then none else if((a1.size:Int)==1)=true then Ab (idx a1.data.toList 0) fun x1=>some (ZT a0 x1)else none
theorem MO {a0 a1 r}(hm:EE a0 a1=some r):Sf prog 257 [.d (.s a0),.d (.s a1)] (.d (.i r)):=by
 refine sq ?_;intros;refine gi hm ?_ ?_<;>intro _ hm
 ·cases hm
 refine gi hm ?_ ?_<;>intro _ hm
 ·refine oB hm fun x1 q1 hm=>AjK (fun _=>q1)<|gext (F:=ZT) (p:=a0) (q:=x1) func312 (extCnt (by kernel_rfl) (by kernel_rfl) (by kernel_rfl) (by kernel_rfl)) ?_;exact Akr hm▸gE
 cases hm
def L6 {σ:Type}(k1:ByteArray)(s1:Unit):Option ((Unit)⊕((Unit)⊕(ByteArray×ByteArray×Int×σ))):=if(decide ((k1.size:Int)>0))=true then none else some (.inr (.inl ()))
def DA {σ:Type}(p0:σ→ByteArray→Option (Bool×σ))(k0:ByteArray)(k2:Int)(s2:ByteArray×σ):Option ((ByteArray×σ)⊕((ByteArray×σ)⊕(ByteArray×ByteArray×Int×σ))):=Ab (F0 s2.1 k0) fun x5=>if(decide (x5<0))=true then some (.inr (.inl (s2.1,s2.2)))else Ab (WX s2.1 0 (w64 (x5+k2))) fun x6=>Ab (p0 s2.2 x6) fun x7=>if(!x7.1)=true then some (.inr (.inr (k0,s2.1,k2,x7.2)))else Ab (WX s2.1 (w64 (x5+(k0.size:Int))) (s2.1.size:Int)) fun x8=>some (.inl (x8,x7.2))
def CS {σ:Type}(p0:σ→ByteArray→Option (Bool×σ))(k0:ByteArray)(k1:ByteArray)(k2:Int)(s0:σ):Option (ByteArray×ByteArray×Int×σ):=
 if((k0.size:Int)==0)=true then
  Ab (iter (L6 k1) EV ()) fun x1=>match x1 with
  | .inr r=>some r
  | .inl y1=>
  some (k0,k1,k2,s0)
 else
 Ab (iter (DA p0 k0 k2) EV (k1,s0)) fun x3=>match x3 with
 | .inr r=>some r
 | .inl y3=>
 Ab (p0 y3.2 y3.1) fun x9=>
 some (k0,y3.1,k2,x9.2)
theorem NU {σ:Type}{p0:σ→ByteArray→Option (Bool×σ)}{k0 k1 k2 s0 r}(hm:CS p0 k0 k1 k2 s0=some r)(g:Value)(R:σ→Mem→Ow)(hcb:Aab prog g (fun x=> [.d (.s x)]) R p0):Sp prog 346 [.ow 0,.pb 1 0,.pb 2 0,.pb 3 0] [.hp 0 (.cb g σ R s0),.box 1 [.d (.s k0)] 9,.box 2 [.d (.s k1)] 9,.box 3 [.d (.i k2)] 3] 4 (is (.tup []) [.hp 0 (.cb g σ R r.2.2.2),.box 1 [.d (.s r.1)] 9,.box 2 [.d (.s r.2.1)] 9,.box 3 [.d (.i r.2.2.1)] 3] 4):=by
 refine sq ?_;intros;refine gi hm ?_ ?_<;>intro _ hm
 ·refine oB hm fun _ q1 hm=>gI q1 (fun _=>⟨[(0,.ow 0),(2,.pb 2 0)],[(0,.box 1 [.d (.s k0)] 9),(1,.box 2 [.d (.s k1)] 9),(2,.box 3 [.d (.i k2)] 3),(3,.hp 0 (.cb g σ R s0))],[],4⟩) fun s1 _ Jl q4 bl1=>gi q4 ?_ ?_<;>intro _ q4
  ·cases q4
  obtain rfl:=nR bl1 q4;exact Akr hm▸gE
 refine oB hm fun _ q6 hm=>gI q6 (fun(p_0,p_1)=>⟨[(0,.ow 0),(1,.pb 1 0),(2,.pb 2 0),(3,.pb 3 0)],[(0,.box 1 [.d (.s k0)] 9),(1,.box 2 [.d (.s p_0)] 9),(2,.box 3 [.d (.i k2)] 3),(3,.hp 0 (.cb g σ R p_1))],[],4⟩) fun s2 _ Jl q9 bl2=>gA q9 MN fun _ q11 q9=>gi q9 ?_ ?_<;>intro _ q9
 ·obtain rfl:=nR bl2 q9;let y3:=(s2.1,s2.2);refine oB hm fun _ q15 hm=>gcb y3.1 hcb q15 ?_;exact Akr hm▸gE
 refine oB q9 fun x6 q12 q9=>WM (fun _=>q12)<|oB q9 fun _ q13 q9=>gcb x6 hcb q13<|gi q9 ?_ ?_<;>intro _ q9
 ·obtain rfl:=nR bl2 q9;exact Akr hm▸gE
 exact oB q9 fun _ q14 q9=>WM (fun _=>q14)<|gN bl2 q9
def KP (a0:ByteArray)(a1:ByteArray)(a2:Int):Option (ByteArray×ByteArray×Int):=some (a1,a0,a2)
theorem OO {a0 a1 a2 r}(hm:KP a0 a1 a2=some r):Sp prog 314 [.d (.s a0),.d (.s a1),.d (.i a2)] [] 0 (is (.fn (.func 346) [] [.pb 0 0,.pb 1 0,.pb 2 0]) [.box 0 [.d (.s r.1)] 9,.box 1 [.d (.s r.2.1)] 9,.box 2 [.d (.i r.2.2)] 3] 3):=by
 refine sq ?_;intros;exact Akr hm▸gE
def Hz (a0:ByteArray)(a1:ByteArray):Option (ByteArray×ByteArray×Int):=Ab (KP a0 a1 0) fun x1=>some (x1.1,x1.2.1,x1.2.2)
theorem OQ {a0 a1 r}(hm:Hz a0 a1=some r):Sp prog 258 [.d (.s a0),.d (.s a1)] [] 0 (is (.fn (.func 346) [] [.pb 0 0,.pb 1 0,.pb 2 0]) [.box 0 [.d (.s r.1)] 9,.box 1 [.d (.s r.2.1)] 9,.box 2 [.d (.i r.2.2)] 3] 3):=by
 refine sq ?_;intros;refine gD hm OO fun _ q1 hm=> ?_;exact Akr hm▸gE
def IW (a0:Int):Option Bool:=bnd ((((decide ((97:Int)≤a0))&&(decide (a0≤122)))||((decide ((48:Int)≤a0))&&(decide (a0≤57))))) fun x1=>some x1
theorem MV {a0 r}(hm:IW a0=some r):Sf prog 315 [.d (.r a0)] (.d (.t r)):=by
 refine sq ?_;intros;refine bE hm ?_;intro _ hm;exact Akr hm▸gE
def Jw (a0:Int):Option Bool:=Ab (gu (!(a0==45)) (IW a0)) fun x1=>some ((a0==45)||x1)
theorem Uh {a0 r}(hm:Jw a0=some r):Sf prog 316 [.d (.r a0)] (.d (.t r)):=by
 refine sq ?_;intros;refine oB hm fun _ q1 hm=>gcH q1 MV ?_;exact Akr hm▸gE
def I6 (a0:ByteArray)(s1:Nat):Option ((Nat)⊕((Nat)⊕Bool)):=if s1<a0.size then bnd (((Utf8.decode a0 s1).1:Int)) fun x3=>Ab (gu ((s1:Int)==(w64 ((a0.size:Int)-1))) (IW x3)) fun x4=>bnd ((((s1:Int)==(w64 ((a0.size:Int)-1)))&&x4)) fun x5=>if x5=true then some (.inl (s1+(Utf8.decode a0 s1).2))else bnd (((s1:Int)==(w64 ((a0.size:Int)-1)))) fun x6=>if x6=true then some (.inr (.inr false))else Ab (gu ((s1:Int)==0) (IW x3)) fun x7=>bnd ((((s1:Int)==0)&&(x7||(x3==95)))) fun x8=>if x8=true then some (.inl (s1+(Utf8.decode a0 s1).2))else Ab (gu (!((s1:Int)==0)) (Jw x3)) fun x9=>if(((s1:Int)==0)||(!x9))=true then some (.inr (.inr false))else some (.inl (s1+(Utf8.decode a0 s1).2))else some (.inr (.inl s1))
def Jv (a0:ByteArray):Option Bool:=if((eqS a0 (⟨#[]⟩:ByteArray))||(decide ((a0.size:Int)>16)))=true then some false else Ab (iter (I6 a0) EV 0) fun x1=>match x1 with| .inr r=>some r| .inl y1=>some true
theorem Ug {a0 r}(hm:Jv a0=some r):Sf prog 259 [.d (.s a0)] (.d (.t r)):=by
 refine sq ?_;intros;refine gi hm ?_ ?_<;>intro _ hm
 ·exact Akr hm▸gE
 refine grng a0<|oB hm fun _ q1 hm=>gI q1 (fun p=>⟨[(0,.d (.s a0)),(13,.ow 0)],[(0,.hp 0 (.it a0 p))],[],1⟩) fun s1 _ Jl q4 bl1=>gnx q4 (fun hc2 q4=> ?_) fun hc2 q4=> ?_
 ·refine gi' (b:=true) (fun _=> ?_) (fun h=>by cases h);refine bE q4 ?_;intro _ q4;refine oB q4 fun _ q7 q4=>gcH q7 MV<|bE q4 ?_;intro _ q4;refine gi q4 ?_ ?_<;>intro _ q4
  ·exact gN bl1 q4
  refine bE q4 ?_;intro _ q4;refine gi q4 ?_ ?_<;>intro _ q4
  ·obtain rfl:=nR bl1 q4;exact Akr hm▸gE
  refine oB q4 fun _ q10 q4=>gcH q10 MV<|bE q4 ?_;intro _ q4;refine gi q4 ?_ ?_<;>intro _ q4
  ·exact gN bl1 q4
  refine oB q4 fun _ q12 q4=>gcH q12 Uh<|gi q4 ?_ ?_<;>intro _ q4
  ·obtain rfl:=nR bl1 q4;exact Akr hm▸gE
  exact gN bl1 q4
 refine gi' (b:=false) (fun h=>by cases h) (fun _=> ?_);obtain rfl:=nR bl1 q4;let y1:=s1;exact Akr hm▸gE
def CP (b6:ByteArray)(s1:(Unit)×Nat):Option ((Unit)×Nat):=Ab (Jv b6) fun x4=>if(!x4)=true then some ((),1)else some ((),0)
def ES (a0:ByteArray)(a1:Int)(a2:Int):Option Bool:=Ab (gu (!(decide ((a0.size:Int)>a2))) (EE a0 (⟨#[46]⟩:ByteArray))) fun x1=>if((decide ((a0.size:Int)>a2))||(decide (x1≥a1)))=true then some false else Ab (Hz a0 (⟨#[46]⟩:ByteArray)) fun x2=>Ab (CS (fun(s:(Unit)×Nat) (b0:ByteArray)=>if s.2=0 then Ab (CP b0 s) fun y=>some (y.2==0,y)else none) x2.1 x2.2.1 x2.2.2 ((),0)) fun x3=>if(x3.2.2.2).2=0 then some true else some false
theorem QC {a0 a1 a2 r}(hm:ES a0 a1 a2=some r):Sf prog 172 [.d (.s a0),.d (.i a1),.d (.i a2)] (.d (.t r)):=
 spR call172 func172 rfl ntmps172 rfl fun D0 As η0 m0 hD hd=>by
  unfold ES at hm;refine oB hm fun _ q1 hm=>gcH q1 MO<|gi hm ?_ ?_<;>intro _ hm
  ·exact Akr hm▸gE
  refine gD hm OQ fun x2 q2 hm=>oB hm fun x3 q3 hm=>Lb hD (n0:=0) 4 4 [⟨1,1,9,[.d (.s x2.1)],[.d (.s x3.1)]⟩,⟨2,2,9,[.d (.s x2.2.1)],[.d (.s x3.2.1)]⟩,⟨3,3,3,[.d (.i x2.2.2)],[.d (.i x3.2.2.1)]⟩] (gt:=19) (ps:=[20]) [(6,.pb 0 0),(19,.fn (.func 346) [] [.pb 1 0,.pb 2 0,.pb 3 0])] (fun(y1:Unit)=> [(0,.box 0 [.d (.t false)] 4)]) (fun(y1:(Unit)×Nat)=> [(0,.box 0 [.d (.t false)] 4)]) (fun x=> [.d (.s x)]) (fun(s1:Unit) (b6:ByteArray)=>⟨[(6,.pb 0 0),(7,.d (.s b6)),(19,.fn (.func 346) [] [.pb 1 0,.pb 2 0,.pb 3 0])],[(0,.box 0 [.d (.t false)] 4)],[],4⟩) (pJ fun x s=>CP x s) () hd (via fJ hyJ rfl fun g R h=>NU q3 g R h) rfl (fun _=>rfl) (fun _=>rfl) (fun _=>rfl) (fun _=>rfl) ?_ ?_ ?_ ?_
  ·intro s1 b6 s' hp l D0 As η0 m0 hd Ja ba;exact gb ba hd () trivial
  ·intro s1 b6 s' hp l D0 As η0 m0 hd Jb bb Jr br;obtain⟨z1,q4,hp⟩:=Akx.1 hp;subst hp;unfold CP at q4;dsimp only at q4;refine gA q4 Ug fun _ q5 q4=>gi q4 ?_ ?_<;>intro _ q4
   ·obtain rfl:=Akr q4;exact Agc br hd ((),1) rfl
   obtain rfl:=Akr q4;exact gb bb hd () rfl
  ·intro x hx;obtain⟨hj1,rfl⟩:=ZM hx;rw[AkA hj1]at hm;exact Akr hm▸gE
  intro y hy;obtain⟨hj1,rfl⟩:=ZL hy;rw[Aky hj1]at hm;exact Akr hm▸gE
def G8 (a0:ByteArray):Option Bool:=Ab (ES a0 8 64) fun x1=>some x1
theorem Ln {a0 r}(hm:G8 a0=some r):Sf prog 88 [.d (.s a0)] (.d (.t r)):=by
 refine sq ?_;intros;refine gA hm QC fun _ q1 hm=> ?_;exact Akr hm▸gE
def B9 (a0:ByteArray)(a1:ByteArray):Option Bool:=Ab (gu (decide ((a0.size:Int)≥(a1.size:Int))) (WX a0 0 (a1.size:Int))) fun x1=>bnd (((decide ((a0.size:Int)≥(a1.size:Int)))&&(eqS x1 a1))) fun x2=>some x2
theorem H5 {a0 a1 r}(hm:B9 a0 a1=some r):Sf prog 266 [.d (.s a0),.d (.s a1)] (.d (.t r)):=by
 refine sq ?_;intros;refine oB hm fun _ q1 hm=>gcutSG (fun h=>Af7 h q1)<|bE hm ?_;intro _ hm;exact Akr hm▸gE
def Cb (a0:ByteArray)(a1:ByteArray):Option (ByteArray×Bool):=Ab (B9 a0 a1) fun x1=>if(!x1)=true then some (a0,false)else Ab (WX a0 (a1.size:Int) (a0.size:Int)) fun x2=>some (x2,true)
theorem H6 {a0 a1 r}(hm:Cb a0 a1=some r):Sf prog 176 [.d (.s a0),.d (.s a1)] (.tup [.d (.s r.1),.d (.t r.2)]):=by
 refine sq ?_;intros;refine gA hm H5 fun _ q1 hm=>gi hm ?_ ?_<;>intro _ hm
 ·exact Akr hm▸gE
 refine oB hm fun _ q2 hm=>WM (fun _=>q2) ?_;exact Akr hm▸gE
def C8 (a0:ByteArray)(a1:ByteArray):Option (ByteArray×Bool):=Ab (Cb a0 a1) fun x1=>some (x1.1,x1.2)
theorem JS {a0 a1 r}(hm:C8 a0 a1=some r):Sf prog 91 [.d (.s a0),.d (.s a1)] (.tup [.d (.s r.1),.d (.t r.2)]):=by
 refine sq ?_;intros;refine gA hm H6 fun _ q1 hm=> ?_;exact Akr hm▸gE
def F7 (a0:ByteArray):Option (ByteArray×Bool×Bool):=Ab (G8 a0) fun x1=>if x1=true then some (a0,false,true)else Ab (C8 a0 (⟨#[42,46]⟩:ByteArray)) fun x2=>Ab (gu x2.2 (ES x2.1 7 62)) fun x3=>some (x2.1,x2.2,(x2.2&&x3))
theorem MU {a0 r}(hm:F7 a0=some r):Sf prog 87 [.d (.s a0)] (.tup [.d (.s r.1),.d (.t r.2.1),.d (.t r.2.2)]):=by
 refine sq ?_;intros;refine gA hm Ln fun _ q1 hm=>gi hm ?_ ?_<;>intro _ hm
 ·exact Akr hm▸gE
 refine gA hm JS fun _ q2 hm=>oB hm fun _ q3 hm=>gcH q3 QC ?_;exact Akr hm▸gE
def G7 (a0:Bool):Option Int:=if a0=true then some 0 else some 110
theorem QB {a0 r}(hm:G7 a0=some r):Sf prog 252 [.d (.t a0)] (.d (.i r)):=by
 refine sq ?_;intros;refine gi hm ?_ ?_<;>intro _ hm
 ·exact Akr hm▸gE
 exact Akr hm▸gE
def CQ (a0:ByteArray):Option Int:=Ab (F7 a0) fun x1=>Ab (G7 x1.2.2) fun x2=>some x2
theorem JW {a0 r}(hm:CQ a0=some r):Sf prog 162 [.d (.s a0)] (.d (.i r)):=by
 refine sq ?_;intros;refine gA hm MU fun _ q1 hm=>gA hm QB fun _ q2 hm=> ?_;exact Akr hm▸gE
def Ik (a0:List ByteArray)(a1:ByteArray)(i1:Int)(s1:Unit):Option ((Unit)⊕Int):=Ab (idx a0 (i1:Int)) fun x3=>if(eqS a1 x3)=true then some (.inr (i1:Int))else some (.inl ())
def FL (a0:List ByteArray)(a1:ByteArray):Option Int:=Ab (Es (Ik a0 a1) a0.length 0 ()) fun x1=>match x1 with| .inr r=>some r| .inl y1=>some (-1)
theorem Jf {a0 a1 r}(hm:FL a0 a1=some r):Sf prog 253 [sl eS a0,.d (.s a1)] (.d (.i r)):=by
 refine sq ?_;intros;refine oB hm fun _ q1 hm=>Jd 0 (E:=eS) (xs:=a0) 6 fun hle1=>gF (EN _ _ _) q1 (fun p0 _=>⟨[(0,sl eS a0),(1,.d (.s a1)),(7,.d (.i (a0.length:Int))),(8,.d (.i p0))],[],[],0⟩) fun i1 s1 Jl bl1=>cN bl1 (a0.length:Int) (fun _ q4 bl1=> ?_) fun e=> ?_
 ·refine oB q4 fun _ q6 q4=>gx eS 1 q6<|gi q4 ?_ ?_<;>intro _ q4
  ·obtain rfl:=nT bl1 q4;exact Akr hm▸gE
  exact gT bl1 hle1 q4
 subst e;exact Akr hm▸gE
def Da (a0:List ByteArray)(a1:ByteArray):Option Bool:=Ab (FL a0 a1) fun x1=>some (decide (x1≥0))
theorem Ez {a0 a1 r}(hm:Da a0 a1=some r):Sf prog 163 [sl eS a0,.d (.s a1)] (.d (.t r)):=by
 refine sq ?_;intros;refine gA hm Jf fun _ q1 hm=> ?_;exact Akr hm▸gE
theorem num_ok {s:ByteArray}{bn bm:Nat}{w:World}{n0 m0 u:Int}(hn:w.heap[bn]? =some (.cells #[.int .u64 n0] 24 (0,0)))(hm:w.heap[bm]? =some (.cells #[.int .u64 m0] 24 (0,0)))(hne:bn≠bm)(hz:0<s.size)
  (hcon:Calls prog 255 #[.string s,.int .i64 10,.int .i64 64] w (fun e w'=>e= .returned (.tuple #[.int .u64 u,.nilIface])∧Below w.heap.size w w')):
  Calls prog 254 #[.string s,.pointer (some ⟨bn,0,none⟩),.pointer (some ⟨bm,0,none⟩)] w fun e w'=> ∃w1,Below w.heap.size w w1∧w'=w1.setCell ⟨bn,0,none⟩ (.int .u64 u)∧e= .returned (.bool (s[0].toNat !=48&&decide (s.size<20)&&decide (u≤m0))):=by
 have hlt:=(AkM.1 hn).1;have hlt2:=(AkM.1 hm).1;have hcon2:Calls prog 255 #[.string s,.int .i64 10,.int .i64 64] w (fun e w'=>e= .returned (.tuple #[.int .u64 u,.nilIface])∧(w'.heap[bn]? =some (.cells #[.int .u64 n0] 24 (0,0))∧w'.heap[bm]? =some (.cells #[.int .u64 m0] 24 (0,0))∧Below w.heap.size w w')):=
  hcon.mono fun e w' ⟨h1,h2⟩=>⟨h1,(h2.block _ hlt).trans hn,(h2.block _ hlt2).trans hm,h2⟩
 clear hcon hn hm hlt hlt2;go_enter func254,ntmps254;go_wp2_with (
  go_at_call 255;refine hcon2.mono ?_;rintro e w2 ⟨rfl,hn,hm,hB⟩;have h2:w2.cell? ⟨bn,0,none⟩=some (.int .u64 n0):=by simp[World.cell?,hn]
  have h3:w2.cell? ⟨bm,0,none⟩=some (.int .u64 m0):=by simp[World.cell?,hm]
  have h4:w2.frozen? ⟨bn,0,none⟩=false:=by simp[World.frozen?,hn]
  refine Hid.out ?_)
 refine Lib.hid ?_;go_wp2
 all_goals go_ret
 all_goals refine⟨w2,hB,rfl,?_⟩
 all_goals simp_all
 all_goals first|omega|(rw[Aly]; simp; omega)
theorem AcM {s:ByteArray}{bn bm:Nat}{w:World}{n0 u:Int}(hn:w.heap[bn]? =some (.cells #[.int .u64 n0] 24 (0,0)))
  (hcon:Calls prog 255 #[.string s,.int .i64 10,.int .i64 64] w (fun e w'=> ∃t p,e= .returned (.tuple #[.int .u64 u,.iface t p])∧Below w.heap.size w w')):
  Calls prog 254 #[.string s,.pointer (some ⟨bn,0,none⟩),.pointer (some ⟨bm,0,none⟩)] w fun e w'=> ∃w1,Below w.heap.size w w1∧w'=w1.setCell ⟨bn,0,none⟩ (.int .u64 u)∧e= .returned (.bool false):=by
 have hlt:=(AkM.1 hn).1;have hcon2:Calls prog 255 #[.string s,.int .i64 10,.int .i64 64] w (fun e w'=> ∃t p,e= .returned (.tuple #[.int .u64 u,.iface t p])∧(w'.heap[bn]? =some (.cells #[.int .u64 n0] 24 (0,0))∧Below w.heap.size w w')):=
  hcon.mono fun e w' ⟨t,p,h1,h2⟩=>⟨t,p,h1,(h2.block _ hlt).trans hn,h2⟩
 clear hcon hn hlt;go_enter func254,ntmps254;go_wp2_with (
  go_at_call 255;refine hcon2.mono ?_;rintro e w2 ⟨t,p,rfl,hn,hB⟩;have h2:w2.cell? ⟨bn,0,none⟩=some (.int .u64 n0):=by simp[World.cell?,hn]
  have h4:w2.frozen? ⟨bn,0,none⟩=false:=by simp[World.frozen?,hn]
  refine Hid.out ?_)
 refine Lib.hid ?_;go_wp2
 all_goals go_ret
 all_goals exact⟨w2,hB,rfl,rfl⟩
def Ic (a0:ByteArray)(k0:UInt64)(k1:UInt64):Option (Bool×UInt64×UInt64):=if a0.size≤281474976710656 then match Go.Lib.parseUintB 64 a0.data.toList with| .ok u=>if u<18446744073709551616∧0<a0.size then some ((a0.data.toList.headD 0).toNat !=48&&decide (a0.size<20)&&decide (u≤k1.toNat),UInt64.ofNat u,k1)else none| .range=>some (false,18446744073709551615,k1)|_=>some (false,0,k1)else none
theorem YS {w:World}{b:Nat}{x y:Value}{t:TypeId}(h:w.heap[b]? =some (cel [x] t)):w.setCell ⟨b,0,none⟩ y={w with heap:=w.heap.setIfInBounds b (cel [y] t)}:=by
 have e:w.heap.modify b (fun x=>match x with| .cells c elem frozen=> .cells (c.setIfInBounds 0 y) elem frozen|o=>o)=w.heap.setIfInBounds b (cel [y] t):=by
  refine Array.ext_getElem? fun k=> ?_;rw[Array.getElem?_modify,Array.getElem?_setIfInBounds];split
  ·rename_i q; subst q;rw[AkA (AkM.1 h).1,h];rfl
  ·rfl
 simp only[World.setCell];rw[←e];rfl
theorem Z0 {η:Env}{m:Mem}{n b:Nat}{k:UInt64}{t:TypeId}{h:PH}(hb:η n=some (pt b 0))(r:rep η m (.box n [.d (.u k)] t) h):bx b [vU k] t h:=by
 obtain⟨b',vs,e,r1,_,r2⟩:=r;rw[hb]at e; cases e;obtain⟨v,us,rfl,r3,r1⟩:=r1.cons_inv;obtain rfl:=r1.nil_inv;cases r3 with|d h=>cases h; exact r2
theorem MH {a0 k0 k1 r}(hm:Ic a0 k0 k1=some r):Sp prog 254 [.d (.s a0),.pb 0 0,.pb 1 0] [.box 0 [.d (.u k0)] 24,.box 1 [.d (.u k1)] 24] 2 (is (.d (.t r.1)) [.box 0 [.d (.u r.2.1)] 24,.box 1 [.d (.u r.2.2)] 24] 2):=by
 obtain⟨hs,hm⟩:=BY hm;refine⟨call254,fun η m As w vs hv hd S=> ?_⟩;obtain⟨v,us,rfl,r0,hv⟩:=hv.cons_inv;obtain⟨v1,us,rfl,r1,hv⟩:=hv.cons_inv;obtain⟨v2,us,rfl,r2,hv⟩:=hv.cons_inv;obtain rfl:=hv.nil_inv;obtain rfl:=Afl r0;obtain⟨b0,e0,rfl⟩:=r1.pb_inv;obtain⟨b1,e1,rfl⟩:=r2.pb_inv;have S1:St m (bx b0 [vU k0] 24::bx b1 [vU k1] 24::As) w:=by
  refine S.imp (by simp) fun k A B ha hb x hx=> ?_;match k with
  |0=>cases ha; cases hb; exact Z0 e0 hx
  |1=>cases ha; cases hb; exact Z0 e1 hx
  |k+2=>simp only[AkZ,List.map_nil,AlA,Ak2,List.getElem?_cons_succ]at ha hb; rw[ha]at hb; cases hb; exact hx
 have hne:b0≠b1:=by
  rintro rfl;obtain⟨x,⟨h1,h2,q1,⟨h3,h4,q3,_,_,rfl⟩,dd,rfl⟩,_⟩:=S1.own;subst q1 q3;rcases dd b0 with q|q<;>simp[PH.one,PH.join]at q
 have hn:=S1.blk (i:=0) rfl;have hn1:=S1.blk (i:=1) rfl;have fin: ∀{u:UInt64} {p:Bool},r=(p,u,k1)→Calls prog 254 #[.string a0,pt b0 0,pt b1 0] w (fun e w'=> ∃w1,Below w.heap.size w w1∧w'=w1.setCell ⟨b0,0,none⟩ (vU u)∧e= .returned (.bool p))→
   Ft prog 254 #[.string a0,pt b0 0,pt b1 0] w fun v w'=> ∃(M:Mem) (η':Env) (q:AV) (obs':List AObj) (n1:Nat),m≤M∧η.le η'∧is (.d (.t r.1)) [.box 0 [.d (.u r.2.1)] 24,.box 1 [.d (.u r.2.2)] 24] 2 q obs' n1∧(∀n,η' n≠none→n<n1)∧Rel η' M q v∧St M (obs'.map (rep η' M)++As) w':=by
  rintro u p rfl hc;refine Calls.mono hc fun e w' ⟨w1,hB,hw,he⟩=>⟨_,he,?_,m,η,_,_,_,Mem.rfl' m,Env.le_refl,⟨rfl,rfl,rfl⟩,hd,.d (.t _),?_⟩
  ·have h0:w1.heap[b0]? =some (cel [vU k0] 24):=(hB.block _ (AkM.1 hn).1).trans hn;rw[hw,YS h0];exact(Kd.below hB).tr (Kd.set h0 CI rfl)
  ·have S2:=St.below S1 hB;have h0:=S2.blk (i:=0) rfl;have S3:=S2.put (i:=0) rfl (cel [vU u] 24) {w1 with heap:=w1.heap.setIfInBounds b0 (cel [vU u] 24)} rfl rfl rfl rfl CI;rw[hw,YS h0];refine S3.imp (by simp) fun k A B ha hb x hx=> ?_;match k with
   |0=>cases ha; cases hb; exact⟨b0,[vU u],e0,.cons (.d (.u _)) .nil,fun v hv=>by simp at hv; subst hv; rfl,hx⟩
   |1=>cases ha; cases hb; exact⟨b1,[vU k1],e1,.cons (.d (.u _)) .nil,fun v hv=>by simp at hv; subst hv; rfl,hx⟩
   |k+2=>simp only[AkZ,List.map_nil,AlA,Ak2,List.getElem?_cons_succ,List.set_cons_zero]at ha hb; rw[ha]at hb; cases hb; exact hx
 obtain⟨x,_,_,g,_,_⟩:=S.own;have herr: ∀j,j∈GI0→∃ev,w.cell? ⟨j,0,none⟩=some ev∧(ev= .nilIface∨∃te pe,ev= .iface te pe):=fun j hj=>by
  obtain⟨l,e,fr,t,v,q1,q2⟩:=S.tape.2.2 j hj;exact⟨_,Qm (g _ _ q1) q2,.inr ⟨_,_,rfl⟩⟩
 cases hu:Go.Lib.parseUintB 64 a0.data.toList<;>rw[hu]at hm<;>dsimp only at hm
 ·rename_i u;obtain⟨⟨h1,h2⟩,e⟩:=BY hm;cases e;have hz:a0[0].toNat=(a0.data.toList.headD 0).toNat:=by
   have:a0.data.toList.headD 0=a0[0]:=by
    have h3:0<a0.data.size:=h2;show _=a0.data[0];rw[List.headD_eq_head?_getD,List.head?_eq_getElem?];simp only[Array.getElem?_toList,Array.getElem?_eq_getElem h3];rfl
   rw[this]
  have hu64:(vU (UInt64.ofNat u):Value)= .int .u64 (u:Int):=by
   show Value.int .u64 ((UInt64.ofNat u).toNat:Int)=_;rw[UInt64.toNat_ofNat',Ak0 (by simpa using h1)]
  refine fin rfl ?_;rw[hu64,←hz];have:=num_ok (s:=a0) (u:=(u:Int)) hn hn1 hne h2 ((Go.Proofs.Any.strconv_ParseUint_10_at64_ok Go.Proofs.Tryz.laysPu14 a0 (by omega) u hu w).mono fun e w' ⟨e1,e2⟩=>⟨e1,by
   rcases e2 with rfl|rfl
   ·exact Below.refl _ _
   ·exact Go.Lib.bytesWorld_below ..⟩)
  refine this.mono fun e w' ⟨w1,q1,q2,q3⟩=>⟨w1,q1,q2,?_⟩;rw[q3];congr 3;rw[Aly];simp
 ·cases hm;obtain⟨ev,h1,h2⟩:=herr 6 (by decide);refine fin rfl (AcM hn ((Go.Proofs.Any.strconv_ParseUint_10_at64_syntax Go.Proofs.Tryz.laysPu14 a0 hs hu ev w h1 h2).mono fun e w' ⟨N,q1,_,_,q2⟩=>⟨_,_,q1,q2⟩))
 ·cases hm;obtain⟨ev,h1,h2⟩:=herr 7 (by decide);refine fin rfl (AcM hn ((Go.Proofs.Any.strconv_ParseUint_10_at64_range Go.Proofs.Tryz.laysPu14 a0 hs hu ev w h1 h2).mono fun e w' ⟨N,q1,_,_,q2⟩=>⟨_,_,q1,q2⟩))
end Go.Proofs.YtlahakpgjlmeaaaGreatDoor
