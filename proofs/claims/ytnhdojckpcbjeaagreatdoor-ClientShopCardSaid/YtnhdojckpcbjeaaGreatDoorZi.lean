/- The walks of some functions, by the executor, written by program. Conditions: none. -/
import Derived.Test.YtnhdojckpcbjeaaGreatDoorZh
set_option linter.unusedSimpArgs false
set_option linter.unusedVariables false
set_option maxHeartbeats 20000000
set_option maxRecDepth 100000
namespace Go.Proofs.YtnhdojckpcbjeaaGreatDoor
open Go Go.Gw Go.Ax Tryz
attribute [local irreducible] Go.Ax.Go
def HU (a0:List UInt8):Option Bool:=Ab (gu ((a0.length:Int)==1) (idx a0 0)) fun x1=>Ab (gu (((a0.length:Int)==1)&&(!((x1.toNat:Int)==0))) (idx a0 0)) fun x2=>bnd ((((a0.length:Int)==1)&&(((x1.toNat:Int)==0)||((x2.toNat:Int)==255)))) fun x3=>some x3
theorem Un {a0 r}(hm:HU a0=some r):Sf prog 428 [sl eB a0] (.d (.t r)):=by
 refine sq ?_;intros;refine oB hm fun _ q1 hm=>gxG eB 1 q1<|oB hm fun _ q2 hm=>gxG eB 1 q2<|bE hm ?_;intro _ hm;exact AlC hm▸gE
def JW (a0:List UInt8):Option Bool:=if((a0.length:Int)==0)=true then some false else if((a0.length:Int)==1)=true then some true else Ab (idx a0 1) fun x1=>Ab (gu (decide ((a0.length:Int)≤8)) (idx a0 0)) fun x2=>bnd (((decide ((a0.length:Int)≤8))&&((x2.toNat:Int) !=((toB (-((shrB x1 7).toNat:Int))).toNat:Int)))) fun x3=>some x3
theorem Q4 {a0 r}(hm:JW a0=some r):Sf prog 299 [sl eB a0] (.d (.t r)):=by
 refine sq ?_;intros;refine gi hm ?_ ?_<;>intro _ hm
 ·exact AlC hm▸gE
 refine gi hm ?_ ?_<;>intro _ hm
 ·exact AlC hm▸gE
 refine oB hm fun _ q1 hm=>gx eB 1 q1<|oB hm fun _ q2 hm=>gxG eB 1 q2<|bE hm ?_;intro _ hm;exact AlC hm▸gE
def OV (a0:List UInt8):Option Bool:=some true
theorem Um {a0 r}(hm:OV a0=some r):Sf prog 429 [sl eB a0] (.d (.t r)):=by
 refine sq ?_;intros;exact AlC hm▸gE
def JX (a0:UInt8):Option Bool:=bnd (((decide ((a0.toNat:Int)<32))||(decide ((a0.toNat:Int)>126)))) fun x1=>some x1
theorem Q5 {a0 r}(hm:JX a0=some r):Sf prog 431 [.d (.b a0)] (.d (.t r)):=by
 refine sq ?_;intros;refine bE hm ?_;intro _ hm;exact AlC hm▸gE
def AH (a0:List UInt8)(i1:Int)(s1:Unit):Option ((Unit)⊕Int):=Ab (idx a0 (i1:Int)) fun x3=>Ab (JX x3) fun x4=>if x4=true then some (.inr (i1:Int))else some (.inl ())
def CL (a0:List UInt8):Option Int:=Ab (BV (AH a0) a0.length 0 ()) fun x1=>match x1 with| .inr r=>some r| .inl y1=>some (-1)
theorem HB {a0 r}(hm:CL a0=some r):Sf prog 211 [sl eB a0,.fn (.func 431) [] []] (.d (.i r)):=by
 refine sq ?_;intros;refine oB hm fun _ q1 hm=>IU 0 (E:=eB) (xs:=a0) 6 fun hle1=>gF (EN _ _ _) q1 (fun p0 _=>⟨[(0,sl eB a0),(1,.fn (.func 431) [] []),(7,.d (.i (a0.length:Int))),(8,.d (.i p0))],[],[],0⟩) fun i1 s1 Jl bl1=>cN bl1 (a0.length:Int) (fun _ q4 bl1=> ?_) fun e=> ?_
 ·refine oB q4 fun _ q6 q4=>gx eB 1 q6<|gA q4 Q5 fun _ q7 q4=>gi q4 ?_ ?_<;>intro _ q4
  ·obtain rfl:=nT bl1 q4;exact AlC hm▸gE
  exact gT bl1 hle1 q4
 subst e;exact AlC hm▸gE
def Cu (a0:List UInt8):Option Bool:=Ab (CL a0) fun x1=>some (decide (x1≥0))
theorem GK {a0 r}(hm:Cu a0=some r):Sf prog 131 [sl eB a0,.fn (.func 431) [] []] (.d (.t r)):=by
 refine sq ?_;intros;refine gA hm HB fun _ q1 hm=> ?_;exact AlC hm▸gE
def Jm (a0:List UInt8):Option Bool:=Ab (Cu a0) fun x1=>some (!x1)
theorem Ul {a0 r}(hm:Jm a0=some r):Sf prog 430 [sl eB a0] (.d (.t r)):=by
 refine sq ?_;intros;refine gA hm GK fun _ q1 hm=> ?_;exact AlC hm▸gE
def Jk (a0:List UInt8):Option Bool:=some ((a0.length:Int)==0)
theorem Uk {a0 r}(hm:Jk a0=some r):Sf prog 432 [sl eB a0] (.d (.t r)):=by
 refine sq ?_;intros;exact AlC hm▸gE
def Hv (a0:Bool):Option Int:=if a0=true then some 0 else some 110
theorem PX {a0 r}(hm:Hv a0=some r):Sf prog 226 [.d (.t a0)] (.d (.i r)):=by
 refine sq ?_;intros;refine gi hm ?_ ?_<;>intro _ hm
 ·exact AlC hm▸gE
 exact AlC hm▸gE
def B3 (a0:ByteArray)(a1:UInt8):Option Int:=some (Adv a0 a1)
theorem H8 {a0 a1 r}(hm:B3 a0 a1=some r):Sf prog 400 [.d (.s a0),.d (.b a1)] (.d (.i r)):=by
 refine sq ?_;intros;refine gext (F:=Adv) (p:=a0) (q:=a1) func407 (extIxb (by kernel_rfl) (by kernel_rfl) (by kernel_rfl) (by kernel_rfl)) ?_;exact AlC hm▸gE
def A5 (a0:ByteArray)(a1:ByteArray):Option Int:=bnd ((((a1.size:Int)==0)||(eqS a1 a0))) fun x1=>if x1=true then some 0 else if((a1.size:Int)==1)=true then Ab (idx a1.data.toList 0) fun x2=>Ab (B3 a0 x2) fun x3=>some x3 else bnd ((decide ((a1.size:Int)≥(a0.size:Int)))) fun x4=>if x4=true then some (-1)else none
theorem Fy {a0 a1 r}(hm:A5 a0 a1=some r):Sf prog 392 [.d (.s a0),.d (.s a1)] (.d (.i r)):=by
 refine sq ?_;intros;refine bE hm ?_;intro _ hm;refine gi hm ?_ ?_<;>intro _ hm
 ·exact AlC hm▸gE
 refine gi hm ?_ ?_<;>intro _ hm
 ·refine oB hm fun _ q2 hm=>AkK (fun _=>q2)<|gA hm H8 fun _ q3 hm=> ?_;exact AlC hm▸gE
 refine bE hm ?_;intro _ hm;refine gi hm ?_ ?_<;>intro _ hm
 ·exact AlC hm▸gE
 cases hm
def Ct (a0:ByteArray)(a1:ByteArray):Option Int:=Ab (A5 a0 a1) fun x1=>some x1
theorem QU {a0 a1 r}(hm:Ct a0 a1=some r):Sf prog 377 [.d (.s a0),.d (.s a1)] (.d (.i r)):=by
 refine sq ?_;intros;refine gA hm Fy fun _ q1 hm=> ?_;exact AlC hm▸gE
def FV (a0:ByteArray)(a1:ByteArray):Option Int:=if((a1.size:Int)==0)=true then none else if((a1.size:Int)==1)=true then Ab (idx a1.data.toList 0) fun x1=>some (cntS a0 x1)else none
theorem QV {a0 a1 r}(hm:FV a0 a1=some r):Sf prog 347 [.d (.s a0),.d (.s a1)] (.d (.i r)):=by
 refine sq ?_;intros;refine gi hm ?_ ?_<;>intro _ hm
 ·cases hm
 refine gi hm ?_ ?_<;>intro _ hm
 ·refine oB hm fun x1 q1 hm=>AkK (fun _=>q1)<|gext (F:=cntS) (p:=a0) (q:=x1) func376 (extCnt (by kernel_rfl) (by kernel_rfl) (by kernel_rfl) (by kernel_rfl)) ?_;exact AlC hm▸gE
 cases hm
def LI {σ:Type}(k1:ByteArray)(s1:Unit):Option ((Unit)⊕((Unit)⊕(ByteArray×ByteArray×Int×σ))):=if(decide ((k1.size:Int)>0))=true then none else some (.inr (.inl ()))
def AX {σ:Type}(p0:σ→ByteArray→Option (Bool×σ))(k0:ByteArray)(k2:Int)(s2:ByteArray×σ):Option ((ByteArray×σ)⊕((ByteArray×σ)⊕(ByteArray×ByteArray×Int×σ))):=Ab (Ct s2.1 k0) fun x5=>if(decide (x5<0))=true then some (.inr (.inl (s2.1,s2.2)))else Ab (Vq s2.1 0 (w64 (x5+k2))) fun x6=>Ab (p0 s2.2 x6) fun x7=>if(!x7.1)=true then some (.inr (.inr (k0,s2.1,k2,x7.2)))else Ab (Vq s2.1 (w64 (x5+(k0.size:Int))) (s2.1.size:Int)) fun x8=>some (.inl (x8,x7.2))
def BC {σ:Type}(p0:σ→ByteArray→Option (Bool×σ))(k0:ByteArray)(k1:ByteArray)(k2:Int)(s0:σ):Option (ByteArray×ByteArray×Int×σ):=
 if((k0.size:Int)==0)=true then
  Ab (iter (LI k1) Fx ()) fun x1=>match x1 with
  | .inr r=>some r
  | .inl y1=>
  some (k0,k1,k2,s0)
 else
 Ab (iter (AX p0 k0 k2) Fx (k1,s0)) fun x3=>match x3 with
 | .inr r=>some r
 | .inl y3=>
 Ab (p0 y3.2 y3.1) fun x9=>
 some (k0,y3.1,k2,x9.2)
theorem Ny {σ:Type}{p0:σ→ByteArray→Option (Bool×σ)}{k0 k1 k2 s0 r}(hm:BC p0 k0 k1 k2 s0=some r)(g:Value)(R:σ→Mem→Ow)(hcb:Z4 prog g (fun x=> [.d (.s x)]) R p0):Sp prog 393 [.ow 0,.pb 1 0,.pb 2 0,.pb 3 0] [.hp 0 (.cb g σ R s0),.box 1 [.d (.s k0)] 9,.box 2 [.d (.s k1)] 9,.box 3 [.d (.i k2)] 3] 4 (is (.tup []) [.hp 0 (.cb g σ R r.2.2.2),.box 1 [.d (.s r.1)] 9,.box 2 [.d (.s r.2.1)] 9,.box 3 [.d (.i r.2.2.1)] 3] 4):=by
 refine sq ?_;intros;refine gi hm ?_ ?_<;>intro _ hm
 ·refine oB hm fun _ q1 hm=>gI q1 (fun _=>⟨[(0,.ow 0),(2,.pb 2 0)],[(0,.box 1 [.d (.s k0)] 9),(1,.box 2 [.d (.s k1)] 9),(2,.box 3 [.d (.i k2)] 3),(3,.hp 0 (.cb g σ R s0))],[],4⟩) fun s1 _ Jl q4 bl1=>gi q4 ?_ ?_<;>intro _ q4
  ·cases q4
  obtain rfl:=nR bl1 q4;exact AlC hm▸gE
 refine oB hm fun _ q6 hm=>gI q6 (fun(p_0,p_1)=>⟨[(0,.ow 0),(1,.pb 1 0),(2,.pb 2 0),(3,.pb 3 0)],[(0,.box 1 [.d (.s k0)] 9),(1,.box 2 [.d (.s p_0)] 9),(2,.box 3 [.d (.i k2)] 3),(3,.hp 0 (.cb g σ R p_1))],[],4⟩) fun s2 _ Jl q9 bl2=>gA q9 QU fun _ q11 q9=>gi q9 ?_ ?_<;>intro _ q9
 ·obtain rfl:=nR bl2 q9;let y3:=(s2.1,s2.2);refine oB hm fun _ q15 hm=>gcb y3.1 hcb q15 ?_;exact AlC hm▸gE
 refine oB q9 fun x6 q12 q9=>AaQ (fun _=>q12)<|oB q9 fun _ q13 q9=>gcb x6 hcb q13<|gi q9 ?_ ?_<;>intro _ q9
 ·obtain rfl:=nR bl2 q9;exact AlC hm▸gE
 exact oB q9 fun _ q14 q9=>AaQ (fun _=>q14)<|gN bl2 q9
def Kr (a0:ByteArray)(a1:ByteArray)(a2:Int):Option (ByteArray×ByteArray×Int):=some (a1,a0,a2)
theorem Oj {a0 a1 a2 r}(hm:Kr a0 a1 a2=some r):Sp prog 378 [.d (.s a0),.d (.s a1),.d (.i a2)] [] 0 (is (.fn (.func 393) [] [.pb 0 0,.pb 1 0,.pb 2 0]) [.box 0 [.d (.s r.1)] 9,.box 1 [.d (.s r.2.1)] 9,.box 2 [.d (.i r.2.2)] 3] 3):=by
 refine sq ?_;intros;exact AlC hm▸gE
def HL (a0:ByteArray)(a1:ByteArray):Option (ByteArray×ByteArray×Int):=Ab (Kr a0 a1 0) fun x1=>some (x1.1,x1.2.1,x1.2.2)
theorem Ol {a0 a1 r}(hm:HL a0 a1=some r):Sp prog 348 [.d (.s a0),.d (.s a1)] [] 0 (is (.fn (.func 393) [] [.pb 0 0,.pb 1 0,.pb 2 0]) [.box 0 [.d (.s r.1)] 9,.box 1 [.d (.s r.2.1)] 9,.box 2 [.d (.i r.2.2)] 3] 3):=by
 refine sq ?_;intros;refine gD hm Oj fun _ q1 hm=> ?_;exact AlC hm▸gE
def Dr (a0:Int):Option Bool:=bnd ((((decide ((97:Int)≤a0))&&(decide (a0≤122)))||((decide ((48:Int)≤a0))&&(decide (a0≤57))))) fun x1=>some x1
theorem Mm {a0 r}(hm:Dr a0=some r):Sf prog 379 [.d (.r a0)] (.d (.t r)):=by
 refine sq ?_;intros;refine bE hm ?_;intro _ hm;exact AlC hm▸gE
def Dn (a0:Int):Option Bool:=Ab (gu (!(a0==45)) (Dr a0)) fun x1=>some ((a0==45)||x1)
theorem Ub {a0 r}(hm:Dn a0=some r):Sf prog 380 [.d (.r a0)] (.d (.t r)):=by
 refine sq ?_;intros;refine oB hm fun _ q1 hm=>gcH q1 Mm ?_;exact AlC hm▸gE
def Bo (a0:ByteArray)(s1:Nat):Option ((Nat)⊕((Nat)⊕Bool)):=if s1<a0.size then bnd (((Utf8.decode a0 s1).1:Int)) fun x3=>Ab (gu ((s1:Int)==(w64 ((a0.size:Int)-1))) (Dr x3)) fun x4=>bnd ((((s1:Int)==(w64 ((a0.size:Int)-1)))&&x4)) fun x5=>if x5=true then some (.inl (s1+(Utf8.decode a0 s1).2))else bnd (((s1:Int)==(w64 ((a0.size:Int)-1)))) fun x6=>if x6=true then some (.inr (.inr false))else Ab (gu ((s1:Int)==0) (Dr x3)) fun x7=>bnd ((((s1:Int)==0)&&(x7||(x3==95)))) fun x8=>if x8=true then some (.inl (s1+(Utf8.decode a0 s1).2))else Ab (gu (!((s1:Int)==0)) (Dn x3)) fun x9=>if(((s1:Int)==0)||(!x9))=true then some (.inr (.inr false))else some (.inl (s1+(Utf8.decode a0 s1).2))else some (.inr (.inl s1))
def Gr (a0:ByteArray):Option Bool:=if((eqS a0 (⟨#[]⟩:ByteArray))||(decide ((a0.size:Int)>16)))=true then some false else Ab (iter (Bo a0) Fx 0) fun x1=>match x1 with| .inr r=>some r| .inl y1=>some true
theorem Ua {a0 r}(hm:Gr a0=some r):Sf prog 349 [.d (.s a0)] (.d (.t r)):=by
 refine sq ?_;intros;refine gi hm ?_ ?_<;>intro _ hm
 ·exact AlC hm▸gE
 refine grng a0<|oB hm fun _ q1 hm=>gI q1 (fun p=>⟨[(0,.d (.s a0)),(13,.ow 0)],[(0,.hp 0 (.it a0 p))],[],1⟩) fun s1 _ Jl q4 bl1=>gnx q4 (fun hc2 q4=> ?_) fun hc2 q4=> ?_
 ·refine gi' (b:=true) (fun _=> ?_) (fun h=>by cases h);refine bE q4 ?_;intro _ q4;refine oB q4 fun _ q7 q4=>gcH q7 Mm<|bE q4 ?_;intro _ q4;refine gi q4 ?_ ?_<;>intro _ q4
  ·exact gN bl1 q4
  refine bE q4 ?_;intro _ q4;refine gi q4 ?_ ?_<;>intro _ q4
  ·obtain rfl:=nR bl1 q4;exact AlC hm▸gE
  refine oB q4 fun _ q10 q4=>gcH q10 Mm<|bE q4 ?_;intro _ q4;refine gi q4 ?_ ?_<;>intro _ q4
  ·exact gN bl1 q4
  refine oB q4 fun _ q12 q4=>gcH q12 Ub<|gi q4 ?_ ?_<;>intro _ q4
  ·obtain rfl:=nR bl1 q4;exact AlC hm▸gE
  exact gN bl1 q4
 refine gi' (b:=false) (fun h=>by cases h) (fun _=> ?_);obtain rfl:=nR bl1 q4;let y1:=s1;exact AlC hm▸gE
def BR (b6:ByteArray)(s1:(Unit)×Nat):Option ((Unit)×Nat):=Ab (Gr b6) fun x4=>if(!x4)=true then some ((),1)else some ((),0)
def CS (a0:ByteArray)(a1:Int)(a2:Int):Option Bool:=Ab (gu (!(decide ((a0.size:Int)>a2))) (FV a0 (⟨#[46]⟩:ByteArray))) fun x1=>if((decide ((a0.size:Int)>a2))||(decide (x1≥a1)))=true then some false else Ab (HL a0 (⟨#[46]⟩:ByteArray)) fun x2=>Ab (BC (fun(s:(Unit)×Nat) (b0:ByteArray)=>if s.2=0 then Ab (BR b0 s) fun y=>some (y.2==0,y)else none) x2.1 x2.2.1 x2.2.2 ((),0)) fun x3=>if(x3.2.2.2).2=0 then some true else some false
theorem PY {a0 a1 a2 r}(hm:CS a0 a1 a2=some r):Sf prog 292 [.d (.s a0),.d (.i a1),.d (.i a2)] (.d (.t r)):=
 spR call292 func292 rfl ntmps292 rfl fun D0 As η0 m0 hD hd=>by
  unfold CS at hm;refine oB hm fun _ q1 hm=>gcH q1 QV<|gi hm ?_ ?_<;>intro _ hm
  ·exact AlC hm▸gE
  refine gD hm Ol fun x2 q2 hm=>oB hm fun x3 q3 hm=>M4 hD (n0:=0) 4 4 [⟨1,1,9,[.d (.s x2.1)],[.d (.s x3.1)]⟩,⟨2,2,9,[.d (.s x2.2.1)],[.d (.s x3.2.1)]⟩,⟨3,3,3,[.d (.i x2.2.2)],[.d (.i x3.2.2.1)]⟩] (gt:=19) (ps:=[20]) [(6,.pb 0 0),(19,.fn (.func 393) [] [.pb 1 0,.pb 2 0,.pb 3 0])] (fun(y1:Unit)=> [(0,.box 0 [.d (.t false)] 4)]) (fun(y1:(Unit)×Nat)=> [(0,.box 0 [.d (.t false)] 4)]) (fun x=> [.d (.s x)]) (fun(s1:Unit) (b6:ByteArray)=>⟨[(6,.pb 0 0),(7,.d (.s b6)),(19,.fn (.func 393) [] [.pb 1 0,.pb 2 0,.pb 3 0])],[(0,.box 0 [.d (.t false)] 4)],[],4⟩) (pJ fun x s=>BR x s) () hd (via fJ hyJ rfl fun g R h=>Ny q3 g R h) rfl (fun _=>rfl) (fun _=>rfl) (fun _=>rfl) (fun _=>rfl) ?_ ?_ ?_ ?_
  ·intro s1 b6 s' hp l D0 As η0 m0 hd Ja ba;exact gb ba hd () trivial
  ·intro s1 b6 s' hp l D0 As η0 m0 hd Jb bb Jr br;obtain⟨z1,q4,hp⟩:=AlN.1 hp;subst hp;unfold BR at q4;dsimp only at q4;refine gA q4 Ua fun _ q5 q4=>gi q4 ?_ ?_<;>intro _ q4
   ·obtain rfl:=AlC q4;exact AgK br hd ((),1) rfl
   obtain rfl:=AlC q4;exact gb bb hd () rfl
  ·intro x hx;obtain⟨hj1,rfl⟩:=ZJ hx;rw[AlH hj1]at hm;exact AlC hm▸gE
  intro y hy;obtain⟨hj1,rfl⟩:=ZI hy;rw[AlG hj1]at hm;exact AlC hm▸gE
def Gs (a0:ByteArray):Option Bool:=Ab (CS a0 8 64) fun x1=>some x1
theorem Nn {a0 r}(hm:Gs a0=some r):Sf prog 227 [.d (.s a0)] (.d (.t r)):=by
 refine sq ?_;intros;refine gA hm PY fun _ q1 hm=> ?_;exact AlC hm▸gE
def D5 (a0:ByteArray):Option Int:=Ab (Gs a0) fun x1=>Ab (Hv x1) fun x2=>some x2
theorem Ot {a0 r}(hm:D5 a0=some r):Sf prog 145 [.d (.s a0)] (.d (.i r)):=by
 refine sq ?_;intros;refine gA hm Nn fun _ q1 hm=>gA hm PX fun _ q2 hm=> ?_;exact AlC hm▸gE
def FD (a0:g_path_trip):Option Int:=if((((((a0.chain_.length:Int)==0)||(decide ((a0.chain_.length:Int)>4)))||(decide ((a0.roots_.length:Int)>16)))||(decide (a0.now_<0)))||(decide (a0.now_>1099511627776)))=true then some 1 else Ab (D5 a0.name_) fun x1=>some x1
theorem Oq {a0 r}(hm:FD a0=some r):Sf prog 72 [ag (E1 a0)] (.d (.i r)):=by
 refine sq ?_;intros;refine gi hm ?_ ?_<;>intro _ hm
 ·exact AlC hm▸gE
 refine gA hm Ot fun _ q1 hm=> ?_;exact AlC hm▸gE
def EZ (a0:Int):Option Bool:=bnd (((decide (a0≥0))&&(decide (a0≤1099511627776)))) fun x1=>some x1
theorem HH {a0 r}(hm:EZ a0=some r):Sf prog 275 [.d (.i a0)] (.d (.t r)):=by
 refine sq ?_;intros;refine bE hm ?_;intro _ hm;exact AlC hm▸gE
def HX (a0:g_api_Sig):Option Bool:=bnd ((decide (((QL a0.E a0.S).toNat:Int)<1152921504606845789))) fun x1=>some x1
theorem OE {a0 r}(hm:HX a0=some r):Sf prog 277 [ag (Lq a0)] (.d (.t r)):=by
 refine sq ?_;intros;refine bE hm ?_;intro _ hm;exact AlC hm▸gE
def BN (a0:List UInt64)(s1:UInt64×Int):Option ((UInt64×Int)⊕(UInt64)):=if(decide (s1.2<(a0.length:Int)))=true then Ab (idx a0 s1.2) fun x6=>some (.inl ((QL s1.1 x6),(w64 (s1.2+1))))else some (.inr s1.1)
def CU (a0:List UInt64):Option UInt64:=Ab (if(decide ((a0.length:Int)<1))=true then none else some ()) fun x1=>Ab (idx a0 0) fun x2=>Ab (Ab (iter (BN a0) Fx (x2,1)) fun x4=>some x4) fun x3=>some x3
theorem J9 {a0 r}(hm:CU a0=some r):Sf prog 331 [sl eU a0] (.d (.u r)):=by
 refine sq ?_;intros;refine oB hm fun _ q1 hm=>gi q1 (fun hc1 q1=> ?_) fun hc1 q1=> ?_
 ·cases q1
 obtain rfl:=AlC q1;refine oB hm fun _ q2 hm=>gx eU 1 q2 ?_;obtain⟨x3,q3,hm⟩:=Ae hm;refine oB q3 fun x4 q4 q3=>gI q4 (fun(p_0,p_1)=>⟨[(0,sl eU a0),(3,.d (.u p_0)),(4,.d (.i p_1))],[],[],0⟩) fun s1 _ Jl q7 bl1=>gi q7 ?_ ?_<;>intro _ q7
 ·exact oB q7 fun _ q9 q7=>gx eU 1 q9<|gN bl1 q7
 obtain rfl:=nR bl1 q7;let x4:=s1.1;obtain rfl:=AlC q3;exact AlC hm▸gE
def HY (a0:g_api_Promise):Option Bool:=Ab (EZ a0.Log) fun x1=>Ab (gu x1 (EZ a0.At)) fun x2=>Ab (gu (x1&&x2) (CU ([a0.Leaf.1,a0.Leaf.2]:List UInt64))) fun x3=>Ab (gu ((x1&&x2)&&(decide ((x3.toNat:Int)<2305843009213693951))) (HX a0.Sig)) fun x4=>bnd ((((x1&&x2)&&(decide ((x3.toNat:Int)<2305843009213693951)))&&x4)) fun x5=>some x5
theorem Ra {a0 r}(hm:HY a0=some r):Sf prog 274 [ag (Ad a0)] (.d (.t r)):=by
 refine sq ?_;intros;refine AkL 1 [.i a0.Log,.i a0.At,.u a0.Leaf.1,.u a0.Leaf.2,.u a0.Sig.E,.u a0.Sig.S]<|gA hm HH fun _ q1 hm=>oB hm fun _ q2 hm=>gcH q2 HH<|gslM (k:=1) (E:=eU) ([a0.Leaf.1,a0.Leaf.2]:List UInt64) (fun _=>rfl)<|oB hm fun _ q3 hm=>gcH q3 J9<|oB hm fun _ q4 hm=>gcH q4 OE<|bE hm ?_;intro _ hm;exact AlC hm▸gE
def LS (a0:Int):Option Bool:=bnd (((decide (a0≤32))||(decide (a0>126)))) fun x1=>some x1
theorem Uq {a0 r}(hm:LS a0=some r):Sf prog 332 [.d (.r a0)] (.d (.t r)):=by
 refine sq ?_;intros;refine bE hm ?_;intro _ hm;exact AlC hm▸gE
def DG (a0:ByteArray)(a2:Bool)(s1:Nat):Option ((Nat)⊕((Nat)⊕Int)):=if s1<a0.size then bnd (((Utf8.decode a0 s1).1:Int)) fun x3=>Ab (LS x3) fun x4=>if(x4==a2)=true then some (.inr (.inr (s1:Int)))else some (.inl (s1+(Utf8.decode a0 s1).2))else some (.inr (.inl s1))
def Db (a0:ByteArray)(a2:Bool):Option Int:=Ab (iter (DG a0 a2) Fx 0) fun x1=>match x1 with| .inr r=>some r| .inl y1=>some (-1)
theorem KX {a0 a2 r}(hm:Db a0 a2=some r):Sf prog 391 [.d (.s a0),.fn (.func 332) [] [],.d (.t a2)] (.d (.i r)):=by
 refine sq ?_;intros;refine grng a0<|oB hm fun _ q1 hm=>gI q1 (fun p=>⟨[(1,.fn (.func 332) [] []),(2,.d (.t a2)),(10,.ow 0)],[(0,.hp 0 (.it a0 p))],[],1⟩) fun s1 _ Jl q4 bl1=>gnx q4 (fun hc1 q4=> ?_) fun hc1 q4=> ?_
 ·refine gi' (b:=true) (fun _=> ?_) (fun h=>by cases h);refine bE q4 ?_;intro _ q4;refine gA q4 Uq fun _ q7 q4=>gi q4 ?_ ?_<;>intro _ q4
  ·obtain rfl:=nR bl1 q4;exact AlC hm▸gE
  exact gN bl1 q4
 refine gi' (b:=false) (fun h=>by cases h) (fun _=> ?_);obtain rfl:=nR bl1 q4;let y1:=s1;exact AlC hm▸gE
def EA (a0:ByteArray):Option Int:=Ab (Db a0 true) fun x1=>some x1
theorem KY {a0 r}(hm:EA a0=some r):Sf prog 369 [.d (.s a0),.fn (.func 332) [] []] (.d (.i r)):=by
 refine sq ?_;intros;refine gA hm KX fun _ q1 hm=> ?_;exact AlC hm▸gE
def DH (a0:ByteArray):Option Bool:=Ab (EA a0) fun x1=>some (decide (x1≥0))
theorem JD {a0 r}(hm:DH a0=some r):Sf prog 333 [.d (.s a0),.fn (.func 332) [] []] (.d (.t r)):=by
 refine sq ?_;intros;refine gA hm KY fun _ q1 hm=> ?_;exact AlC hm▸gE
def EY (a0:ByteArray):Option Bool:=Ab (gu ((!eqS a0 (⟨#[]⟩:ByteArray))&&(decide ((a0.size:Int)≤64))) (DH a0)) fun x1=>bnd ((((!eqS a0 (⟨#[]⟩:ByteArray))&&(decide ((a0.size:Int)≤64)))&&(!x1))) fun x2=>some x2
theorem Q9 {a0 r}(hm:EY a0=some r):Sf prog 276 [.d (.s a0)] (.d (.t r)):=by
 refine sq ?_;intros;refine oB hm fun _ q1 hm=>gcH q1 JD<|bE hm ?_;intro _ hm;exact AlC hm▸gE
def Bv (a0:ByteArray)(a1:ByteArray):Option Bool:=Ab (gu (decide ((a0.size:Int)≥(a1.size:Int))) (Vq a0 0 (a1.size:Int))) fun x1=>bnd (((decide ((a0.size:Int)≥(a1.size:Int)))&&(eqS x1 a1))) fun x2=>some x2
theorem H9 {a0 a1 r}(hm:Bv a0 a1=some r):Sf prog 395 [.d (.s a0),.d (.s a1)] (.d (.t r)):=by
 refine sq ?_;intros;refine oB hm fun _ q1 hm=>gcutSG (fun h=>AeX h q1)<|bE hm ?_;intro _ hm;exact AlC hm▸gE
def Bw (a0:ByteArray)(a1:ByteArray):Option (ByteArray×Bool):=Ab (Bv a0 a1) fun x1=>if(!x1)=true then some (a0,false)else Ab (Vq a0 (a1.size:Int) (a0.size:Int)) fun x2=>some (x2,true)
theorem Ia {a0 a1 r}(hm:Bw a0 a1=some r):Sf prog 381 [.d (.s a0),.d (.s a1)] (.tup [.d (.s r.1),.d (.t r.2)]):=by
 refine sq ?_;intros;refine gA hm H9 fun _ q1 hm=>gi hm ?_ ?_<;>intro _ hm
 ·exact AlC hm▸gE
 refine oB hm fun _ q2 hm=>AaQ (fun _=>q2) ?_;exact AlC hm▸gE
def CC (a0:ByteArray)(a1:ByteArray):Option (ByteArray×Bool):=Ab (Bw a0 a1) fun x1=>some (x1.1,x1.2)
theorem NR {a0 a1 r}(hm:CC a0 a1=some r):Sf prog 351 [.d (.s a0),.d (.s a1)] (.tup [.d (.s r.1),.d (.t r.2)]):=by
 refine sq ?_;intros;refine gA hm Ia fun _ q1 hm=> ?_;exact AlC hm▸gE
def DI (a0:ByteArray):Option (ByteArray×Bool×Bool):=Ab (Gs a0) fun x1=>if x1=true then some (a0,false,true)else Ab (CC a0 (⟨#[42,46]⟩:ByteArray)) fun x2=>Ab (gu x2.2 (CS x2.1 7 62)) fun x3=>some (x2.1,x2.2,(x2.2&&x3))
theorem Ml {a0 r}(hm:DI a0=some r):Sf prog 296 [.d (.s a0)] (.tup [.d (.s r.1),.d (.t r.2.1),.d (.t r.2.2)]):=by
 refine sq ?_;intros;refine gA hm Nn fun _ q1 hm=>gi hm ?_ ?_<;>intro _ hm
 ·exact AlC hm▸gE
 refine gA hm NR fun _ q2 hm=>oB hm fun _ q3 hm=>gcH q3 PY ?_;exact AlC hm▸gE
def DJ (a0:ByteArray):Option Int:=Ab (DI a0) fun x1=>Ab (Hv x1.2.2) fun x2=>some x2
theorem Q1 {a0 r}(hm:DJ a0=some r):Sf prog 279 [.d (.s a0)] (.d (.i r)):=by
 refine sq ?_;intros;refine gA hm Ml fun _ q1 hm=>gA hm PX fun _ q2 hm=> ?_;exact AlC hm▸gE
def J0 (i1:Int)(x2:ByteArray)(s1:(List (ByteArray×Bool))):Option (((List (ByteArray×Bool)))⊕Bool):=Ab (gu (!(lkB s1 x2)) (DJ x2)) fun x3=>if((lkB s1 x2)||(x3 !=0))=true then some (.inr false)else if(lkI s1 x2 0).isNone=true then some (.inl (s1++[(x2,true)]))else none
def G7 (a0:List ByteArray)(a1:Int)(a2:Int):Option Bool:=Ab (DK J0 a0 0 ([]:List (ByteArray×Bool))) fun x1=>match x1 with| .inr r=>some r| .inl y1=>bnd (((decide ((a0.length:Int)≥a1))&&(decide ((a0.length:Int)≤a2)))) fun x4=>some x4
theorem Qu {a0 a1 a2 r}(hm:G7 a0 a1 a2=some r):Sf prog 278 [sl eS a0,.d (.i a1),.d (.i a2),.fn (.func 279) [] []] (.d (.t r)):=by
 refine sq ?_;intros;refine gmkm<|oB hm fun _ q1 hm=>IU 0 (E:=eS) (xs:=a0) 13 fun hle1=>gF (ER _ _ _) q1 (fun p0 p=>⟨[(0,sl eS a0),(1,.d (.i a1)),(2,.d (.i a2)),(3,.fn (.func 279) [] []),(9,.ow 0),(13,sl eS a0),(14,.d (.i (a0.length:Int))),(15,.d (.i p0)),(12,.ow 0)],[(0,.hp 0 (.mp p))],[],1⟩) fun i1 s1 Jl bl1=>cR bl1 (fun x2 _ q5 q4 bl1=> ?_) fun e=> ?_
 ·refine gx eS 1 q5<|glk s1 x2<|oB q4 fun _ q6 q4=>gcH q6 Q1<|gi q4 ?_ ?_<;>intro _ q4
  ·obtain rfl:=nT bl1 q4;exact AlC hm▸gE
  obtain⟨q7,q4⟩:=BI q4;exact gup q7<|gT bl1 hle1 q4
 subst e;let y1:=s1;refine bE hm ?_;intro _ hm;exact AlC hm▸gE
def J1 (i1:Int)(x2:ByteArray)(s1:(List (ByteArray×Bool))):Option (((List (ByteArray×Bool)))⊕Bool):=Ab (gu (!(lkB s1 x2)) (D5 x2)) fun x3=>if((lkB s1 x2)||(x3 !=0))=true then some (.inr false)else if(lkI s1 x2 0).isNone=true then some (.inl (s1++[(x2,true)]))else none
def G8 (a0:List ByteArray)(a1:Int)(a2:Int):Option Bool:=Ab (DK J1 a0 0 ([]:List (ByteArray×Bool))) fun x1=>match x1 with| .inr r=>some r| .inl y1=>bnd (((decide ((a0.length:Int)≥a1))&&(decide ((a0.length:Int)≤a2)))) fun x4=>some x4
theorem Qv {a0 a1 a2 r}(hm:G8 a0 a1 a2=some r):Sf prog 278 [sl eS a0,.d (.i a1),.d (.i a2),.fn (.func 145) [] []] (.d (.t r)):=by
 refine sq ?_;intros;refine gmkm<|oB hm fun _ q1 hm=>IU 0 (E:=eS) (xs:=a0) 13 fun hle1=>gF (ER _ _ _) q1 (fun p0 p=>⟨[(0,sl eS a0),(1,.d (.i a1)),(2,.d (.i a2)),(3,.fn (.func 145) [] []),(9,.ow 0),(13,sl eS a0),(14,.d (.i (a0.length:Int))),(15,.d (.i p0)),(12,.ow 0)],[(0,.hp 0 (.mp p))],[],1⟩) fun i1 s1 Jl bl1=>cR bl1 (fun x2 _ q5 q4 bl1=> ?_) fun e=> ?_
 ·refine gx eS 1 q5<|glk s1 x2<|oB q4 fun _ q6 q4=>gcH q6 Ot<|gi q4 ?_ ?_<;>intro _ q4
  ·obtain rfl:=nT bl1 q4;exact AlC hm▸gE
  obtain⟨q7,q4⟩:=BI q4;exact gup q7<|gT bl1 hle1 q4
 subst e;let y1:=s1;refine bE hm ?_;intro _ hm;exact AlC hm▸gE
def D3 (i1:Int)(x2:g_api_Promise)(s1:Int):Option ((Int)⊕Bool):=Ab (HY x2) fun x3=>if((!x3)||(decide (x2.Log≤s1)))=true then some (.inr false)else some (.inl x2.Log)
def Jn (a0:g_api_Cert):Option Bool:=Ab (DK D3 a0.Proms 0 (-1)) fun x1=>match x1 with| .inr r=>some r| .inl y1=>Ab (EZ a0.Serial) fun x4=>Ab (gu (!(!x4)) (EZ a0.From)) fun x5=>Ab (gu (!((!x4)||(!x5))) (EZ a0.Until)) fun x6=>bnd (((((!x4)||(!x5))||(!x6))||(decide (a0.From≥a0.Until)))) fun x7=>if x7=true then some false else Ab (EY a0.Issuer) fun x8=>Ab (gu (!((((!x8)||((a0.Key.toNat:Int)==0))||(decide ((a0.Key.toNat:Int)≥2305843009213691579)))||(decide ((a0.Proms.length:Int)>4)))) (HX a0.Sig)) fun x9=>bnd ((((((!x8)||((a0.Key.toNat:Int)==0))||(decide ((a0.Key.toNat:Int)≥2305843009213691579)))||(decide ((a0.Proms.length:Int)>4)))||(!x9))) fun x10=>if x10=true then some false else if a0.Ca=true then Ab (EY a0.Subject) fun x11=>Ab (gu (((x11&&((a0.Names.length:Int)==0))&&(decide (a0.Depth≥0)))&&(decide (a0.Depth≤4))) (G7 a0.Permit 0 8)) fun x12=>bnd (((((x11&&((a0.Names.length:Int)==0))&&(decide (a0.Depth≥0)))&&(decide (a0.Depth≤4)))&&x12)) fun x13=>some x13 else Ab (gu (eqS a0.Subject (⟨#[]⟩:ByteArray)) (G8 a0.Names 1 8)) fun x14=>bnd (((((eqS a0.Subject (⟨#[]⟩:ByteArray))&&x14)&&(a0.Depth==0))&&((a0.Permit.length:Int)==0))) fun x15=>some x15
theorem Ur {a0 r}(hm:Jn a0=some r):Sf prog 208 [ag (Ac a0)] (.d (.t r)):=by
 refine sq ?_;intros;refine oB hm fun _ q1 hm=>IU 0 (E:=Ad) (xs:=a0.Proms) 7 fun hle1=>gF (ER _ _ _) q1 (fun p0 p=>⟨[(1,.pb 0 0),(3,.d (.i p)),(7,sl Ad a0.Proms),(8,.d (.i (a0.Proms.length:Int))),(9,.d (.i p0))],[(0,.box 0 [.d (.i a0.Serial),.d (.s a0.Issuer),.d (.s a0.Subject),.d (.u a0.Key),sl eS a0.Names,.d (.i a0.From),.d (.i a0.Until),.d (.t a0.Ca),.d (.i a0.Depth),sl eS a0.Permit,sl Ad a0.Proms,.d (.u a0.Sig.E),.d (.u a0.Sig.S)] 59)],[],1⟩) fun i1 s1 Jl bl1=>cR bl1 (fun _ _ q5 q4 bl1=> ?_) fun e=> ?_
 ·refine gx Ad 6 q5<|gA q4 Ra fun _ q6 q4=>gi q4 ?_ ?_<;>intro _ q4
  ·obtain rfl:=nT bl1 q4;exact AlC hm▸gE
  exact gT bl1 hle1 q4
 subst e;let y1:=s1;refine gA hm HH fun _ q7 hm=>oB hm fun _ q8 hm=>gcH q8 HH<|oB hm fun _ q9 hm=>gcH q9 HH<|bE hm ?_;intro _ hm;refine gi hm ?_ ?_<;>intro _ hm
 ·exact AlC hm▸gE
 refine gA hm Q9 fun _ q11 hm=>oB hm fun _ q12 hm=>gcH q12 OE<|bE hm ?_;intro _ hm;refine gi hm ?_ ?_<;>intro _ hm
 ·exact AlC hm▸gE
 refine gi hm ?_ ?_<;>intro _ hm
 ·refine gA hm Q9 fun _ q14 hm=>oB hm fun _ q15 hm=>gcH q15 Qu<|bE hm ?_;intro _ hm;exact AlC hm▸gE
 refine oB hm fun _ q17 hm=>gcH q17 Qv<|bE hm ?_;intro _ hm;exact AlC hm▸gE
def MT (a0:GD)(k0:Int):Option (Bool×Int):=some ((a0.tag_==k0),k0)
theorem VX {a0 k0 r}(hm:MT a0 k0=some r):Sp prog 371 [ag (Hy a0),.pb 0 0] [.box 0 [.d (.i k0)] 3] 1 (is (.d (.t r.1)) [.box 0 [.d (.i r.2)] 3] 1):=by
 refine sq ?_;intros;exact AlC hm▸gE
def Ap (a0:List GD)(i1:Int)(s1:Int):Option ((Int)⊕(Int×Int)):=Ab (idx a0 (i1:Int)) fun x3=>Ab (MT x3 s1) fun x4=>if x4.1=true then some (.inr ((i1:Int),x4.2))else some (.inl x4.2)
def BT (a0:List GD)(k0:Int):Option (Int×Int):=Ab (BV (Ap a0) a0.length 0 k0) fun x1=>match x1 with| .inr r=>some r| .inl y1=>some ((-1),y1)
theorem Fo {a0 k0 r}(hm:BT a0 k0=some r):Sp prog 370 [sl Hy a0,.fn (.func 371) [] [.pb 0 0]] [.box 0 [.d (.i k0)] 3] 1 (is (.d (.i r.1)) [.box 0 [.d (.i r.2)] 3] 1):=by
 refine sq ?_;intros;refine oB hm fun _ q1 hm=>IU 0 (E:=Hy) (xs:=a0) 6 fun hle1=>gF (EN _ _ _) q1 (fun p0 p=>⟨[(0,sl Hy a0),(1,.fn (.func 371) [] [.pb 0 0]),(7,.d (.i (a0.length:Int))),(8,.d (.i p0))],[(0,.box 0 [.d (.i p)] 3)],[],1⟩) fun i1 s1 Jl bl1=>cN bl1 (a0.length:Int) (fun _ q4 bl1=> ?_) fun e=> ?_
 ·refine oB q4 fun _ q6 q4=>gx Hy 2 q6<|gD q4 VX fun _ q7 q4=>gi q4 ?_ ?_<;>intro _ q4
  ·obtain rfl:=nT bl1 q4;exact AlC hm▸gE
  exact gT bl1 hle1 q4
 subst e;let y1:=s1;exact AlC hm▸gE
def Jw (a0:Int):Option (GD×Bool):=Ab (BT tab_2 a0) fun x1=>if(decide (x1.1<0))=true then some ((⟨0,(-1)⟩:GD),false)else Ab (idx tab_2 x1.1) fun x2=>some (x2,true)
theorem Aaf {a0 r}(hm:Jw a0=some r):Sf prog 334 [.d (.i a0)] (.tup [ag (Hy r.1),.d (.t r.2)]):=by
 refine sq ?_;intros;refine gslG (k:=2) (E:=Hy) tab_2 (fun _=>rfl)<|gD hm Fo fun _ q1 hm=>gi hm ?_ ?_<;>intro _ hm
 ·exact AlC hm▸gE
 refine oB hm fun _ q2 hm=>gidG (k:=2) (E:=Hy) tab_2 (fun _=>rfl) (fun _=>q2) ?_;exact AlC hm▸gE
def QM (n:Int)(a0:List UInt8):Option Bool:=if n=299 then JW a0 else if n=428 then HU a0 else if n=429 then OV a0 else if n=430 then Jm a0 else if n=432 then Jk a0 else none
theorem Afa {n a0 r}(hm:QM n a0=some r): ∃k:Nat,n=(k:Int)∧Sf prog k [sl eB a0] (.d (.t r)):=by
 unfold QM at hm;split at hm
 ·rename_i h;exact⟨299,h,Q4 hm⟩
 split at hm
 ·rename_i h;exact⟨428,h,Un hm⟩
 split at hm
 ·rename_i h;exact⟨429,h,Um hm⟩
 split at hm
 ·rename_i h;exact⟨430,h,Ul hm⟩
 split at hm
 ·rename_i h;exact⟨432,h,Uk hm⟩
 cases hm
def Nk (rF:g_api_Item→Int→Option Bool):Prop:= ∀{a0:g_api_Item} {a1:Int} {r:Bool},rF a0 a1=some r→Sf prog 280 [ag (Ao a0),.d (.i a1)] (.d (.t r))
def LP (rF:g_api_Item→Int→Option Bool)(a0:g_api_Item)(k0:Int):Option (Bool×Int):=Ab (rF a0 (w64 (k0-1))) fun x1=>some ((!x1),k0)
theorem Uj {rF:g_api_Item→Int→Option Bool}(hF:Nk rF){a0 k0 r}(hm:LP rF a0 k0=some r):Sp prog 336 [ag (Ao a0),.pb 0 0] [.box 0 [.d (.i k0)] 3] 1 (is (.d (.t r.1)) [.box 0 [.d (.i r.2)] 3] 1):=by
 refine sq ?_;intros;refine gA hm hF fun _ q1 hm=> ?_;exact AlC hm▸gE
def Aw (rF:g_api_Item→Int→Option Bool)(a0:List g_api_Item)(i1:Int)(s1:Int):Option ((Int)⊕(Int×Int)):=Ab (idx a0 (i1:Int)) fun x3=>Ab ((LP rF) x3 s1) fun x4=>if x4.1=true then some (.inr ((i1:Int),x4.2))else some (.inl x4.2)
def BM (rF:g_api_Item→Int→Option Bool)(a0:List g_api_Item)(k0:Int):Option (Int×Int):=Ab (BV ((Aw rF) a0) a0.length 0 k0) fun x1=>match x1 with| .inr r=>some r| .inl y1=>some ((-1),y1)
theorem EL {rF:g_api_Item→Int→Option Bool}(hF:Nk rF){a0 k0 r}(hm:BM rF a0 k0=some r):Sp prog 372 [sl Ao a0,.fn (.func 336) [] [.pb 0 0]] [.box 0 [.d (.i k0)] 3] 1 (is (.d (.i r.1)) [.box 0 [.d (.i r.2)] 3] 1):=by
 refine sq ?_;intros;refine oB hm fun _ q1 hm=>IU 0 (E:=Ao) (xs:=a0) 6 fun hle1=>gF (EN _ _ _) q1 (fun p0 p=>⟨[(0,sl Ao a0),(1,.fn (.func 336) [] [.pb 0 0]),(7,.d (.i (a0.length:Int))),(8,.d (.i p0))],[(0,.box 0 [.d (.i p)] 3)],[],1⟩) fun i1 s1 Jl bl1=>cN bl1 (a0.length:Int) (fun _ q4 bl1=> ?_) fun e=> ?_
 ·refine oB q4 fun _ q6 q4=>gx Ao 3 q6<|oB q4 fun _ q7 q4=>gco (Uj hF q7)<|gi q4 ?_ ?_<;>intro _ q4
  ·obtain rfl:=nT bl1 q4;exact AlC hm▸gE
  exact gT bl1 hle1 q4
 subst e;let y1:=s1;exact AlC hm▸gE
def AZ (rF:g_api_Item→Int→Option Bool)(a0:List g_api_Item)(k0:Int):Option (Bool×Int):=Ab ((BM rF) a0 k0) fun x1=>some ((decide (x1.1≥0)),x1.2)
theorem Eu {rF:g_api_Item→Int→Option Bool}(hF:Nk rF){a0 k0 r}(hm:AZ rF a0 k0=some r):Sp prog 335 [sl Ao a0,.fn (.func 336) [] [.pb 0 0]] [.box 0 [.d (.i k0)] 3] 1 (is (.d (.t r.1)) [.box 0 [.d (.i r.2)] 3] 1):=by
 refine sq ?_;intros;refine oB hm fun _ q1 hm=>gco (EL hF q1) ?_;exact AlC hm▸gE
def Ip (rF:g_api_Item→Int→Option Bool)(a0:g_api_Item)(a1:Int):Option Bool:=Ab (Jw a0.Tag) fun x1=>Ab (gu (!((!x1.2)||(decide (a1<1)))) (QM x1.1.may_ a0.B)) fun x2=>if((((!x1.2)||(decide (a1<1)))||(!x2))||((a0.Tag !=48)&&(decide ((a0.L.length:Int)>0))))=true then some false else Ab ((AZ rF) a0.L a1) fun x3=>some (!x3.1)
theorem Xt {rF:g_api_Item→Int→Option Bool}(hF:Nk rF){a0 a1 r}(hm:Ip rF a0 a1=some r):Sf prog 280 [ag (Ao a0),.d (.i a1)] (.d (.t r)):=by
 refine sq ?_;intros;refine gA hm Aaf fun _ q1 hm=>oB hm fun _ q2 hm=>gdynG (fun h=>Afa (AeX h q2))<|gi hm ?_ ?_<;>intro _ hm
 ·exact AlC hm▸gE
 refine oB hm fun _ q3 hm=>gco (Eu hF q3) ?_;exact AlC hm▸gE
def II:Nat→g_api_Item→Int→Option Bool
 |0,_,_=>none
 |n+1,a0,a1=>Ip (II n) a0 a1
def RN (a0:g_api_Item)(a1:Int):Option Bool:=II Fx a0 a1
theorem Tf: ∀n,Nk (II n)
 |0=>fun hm=>by cases hm
 |n+1=>fun hm=>Xt (Tf n) hm
theorem Abz {a0:g_api_Item}{a1:Int}{r:Bool}(hm:RN a0 a1=some r):Sf prog 280 [ag (Ao a0),.d (.i a1)] (.d (.t r)):=Tf Fx hm
def BF (a0:List UInt8):Option (List UInt8):=Ab (app 1 ([]:List UInt8) a0) fun x1=>some x1
theorem Hr {a0 r}(hm:BF a0=some r):Sp prog 300 [sl eB a0] [] 0 (is (.ow 0) [.row 0 1 _ eB r] 1):=by
 refine sq ?_;intros;unfold BF at hm;refine gnq eB a0 (fun he1=> ?_) ?_
 ·rw[he1]at hm;replace hm:(some ([]:List UInt8))=some _:=hm;refine R0 eB 2 1 ?_;exact AlC hm▸gE
 refine AaP (k:=1) eB ([]:List UInt8) (fun _=>rfl)<|oB hm fun _ q1 hm=>gp eB 1 q1 ?_;exact AlC hm▸gE
def SA (rF:(List UInt8)→g_api_Item→Option (List UInt8)):Prop:= ∀{a0:List UInt8} {a1:g_api_Item} {r:List UInt8},rF a0 a1=some r→Sp prog 281 [.ow 0,ag (Ao a1)] [.row 0 1 _ eB a0] 1 (is (.ow 1) [.row 1 1 _ eB r] 2)
def Fa (rF:(List UInt8)→g_api_Item→Option (List UInt8))(i1:Int)(x4:g_api_Item)(s1:(List UInt8)):Option ((List UInt8)):=Ab (rF s1 x4) fun x5=>some x5
def HV (rF:(List UInt8)→g_api_Item→Option (List UInt8))(a0:g_api_Item):Option (List UInt8):=Ab (BF a0.B) fun x1=>Ab (Ab (DP (Fa rF) a0.L 0 x1) fun x3=>some x3) fun x2=>some x2
theorem Q6 {rF:(List UInt8)→g_api_Item→Option (List UInt8)}(hF:SA rF){a0 r}(hm:HV rF a0=some r):Sp prog 337 [ag (Ao a0)] [] 0 (is (.ow 0) [.row 0 1 _ eB r] 1):=by
 refine sq ?_;intros;refine gD hm Hr fun _ q1 hm=> ?_;obtain⟨x2,q2,hm⟩:=Ae hm;refine oB q2 fun _ q3 q2=>IU 0 (E:=Ao) (xs:=a0.L) 10 fun hle1=>gF (E0 _ _ _) q3 (fun p0 p=>⟨[(3,.ow 1),(10,sl Ao a0.L),(11,.d (.i (a0.L.length:Int))),(12,.d (.i p0)),(1,.pb 0 0)],[(0,.row 1 1 _ eB p),(1,.box 0 [.d (.i a0.Tag),sl eB a0.B,sl Ao a0.L] 192)],[],2⟩) fun i1 s1 Jl bl1=>c0 bl1 (fun _ _ q7 q6 bl1=> ?_) fun e=> ?_
 ·exact gx Ao 3 q7<|gD q6 hF fun _ q8 q6=>gM bl1 hle1 q6
 subst e;obtain rfl:=AlC q2;exact AlC hm▸gE
def LO (rF:(List UInt8)→g_api_Item→Option (List UInt8))(a0:List UInt8)(a1:g_api_Item):Option (List UInt8):=Ab ((HV rF) a1) fun x1=>Ab (app 1 a0 ([(toB a1.Tag)]:List UInt8)) fun x2=>Ab (bnd ((decide ((x1.length:Int)<128))) fun x4=>if x4=true then Ab (app 1 x2 ([(toB (x1.length:Int))]:List UInt8)) fun x5=>some x5 else bnd ((decide ((x1.length:Int)<256))) fun x6=>if x6=true then Ab (app 1 x2 ([129,(toB (x1.length:Int))]:List UInt8)) fun x7=>some x7 else Ab (app 1 x2 ([130,(toB (BA (x1.length:Int) 8)),(toB (x1.length:Int))]:List UInt8)) fun x8=>some x8) fun x3=>Ab (app 1 x3 x1) fun x9=>some x9
theorem Xs {rF:(List UInt8)→g_api_Item→Option (List UInt8)}(hF:SA rF){a0 a1 r}(hm:LO rF a0 a1=some r):Sp prog 281 [.ow 0,ag (Ao a1)] [.row 0 1 _ eB a0] 1 (is (.ow 1) [.row 1 1 _ eB r] 2):=by
 refine sq fun D0 As η0 m0 hd=>oB hm fun x1 q1 hm=>gco (Q6 hF q1)<|gq eB 1 [(toB a1.Tag)]<|oB hm fun _ q2 hm=>gp eB 1 q2<|oB hm fun x3 q3 hm=>gjU 0 (fun(_:Unit)=>⟨[(0,.ow 3),(5,.ow 2),(3,.pb 1 0)],[(0,.row 3 1 _ eB x3),(1,.row 2 1 _ eB x1),(2,.box 1 [.d (.i a1.Tag),sl eB a1.B,sl Ao a1.L] 192)],[],4⟩) (fun _=>True) (fun Jp bk1=> ?_) fun _ _=> ?_
 ·refine bE q3 ?_;intro _ q3;refine gi q3 ?_ ?_<;>intro _ q3
  ·refine gq eB 1 [(toB (x1.length:Int))]<|oB q3 fun _ q5 q3=>gp eB 1 q5 ?_;obtain rfl:=AlC q3;exact gb bk1 hd () trivial
  refine bE q3 ?_;intro _ q3;refine gi q3 ?_ ?_<;>intro _ q3
  ·refine gq eB 1 [129,(toB (x1.length:Int))]<|oB q3 fun _ q7 q3=>gp eB 1 q7 ?_;obtain rfl:=AlC q3;exact gb bk1 hd () trivial
  refine gq eB 1 [130,(toB (BA (x1.length:Int) 8)),(toB (x1.length:Int))]<|oB q3 fun _ q8 q3=>gp eB 1 q8 ?_;obtain rfl:=AlC q3;exact gb bk1 hd () trivial
 refine oB hm fun _ q9 hm=>gp eB 1 q9 ?_;exact AlC hm▸gE
def HJ:Nat→(List UInt8)→g_api_Item→Option (List UInt8)
 |0,_,_=>none
 |n+1,a0,a1=>LO (HJ n) a0 a1
def RM (a0:List UInt8)(a1:g_api_Item):Option (List UInt8):=HJ Fx a0 a1
theorem Te: ∀n,SA (HJ n)
 |0=>fun hm=>by cases hm
 |n+1=>fun hm=>Xs (Te n) hm
theorem Aby {a0:List UInt8}{a1:g_api_Item}{r:List UInt8}(hm:RM a0 a1=some r):Sp prog 281 [.ow 0,ag (Ao a1)] [.row 0 1 _ eB a0] 1 (is (.ow 1) [.row 1 1 _ eB r] 2):=Te Fx hm
def JY (a0:g_api_Item):Option ((List UInt8)×Int):=Ab (RN a0 8) fun x1=>if(!x1)=true then some (([]:List UInt8),1)else Ab (RM ([]:List UInt8) a0) fun x2=>if(decide ((x2.length:Int)>8192))=true then some (([]:List UInt8),2)else some (x2,0)
theorem Q7 {a0 r}(hm:JY a0=some r):Sp prog 209 [ag (Ao a0)] [] 0 (is (.tup [.ow 0,.d (.i r.2)]) [.row 0 1 _ eB r.1] 1):=by
 refine sq ?_;intros;refine gA hm Abz fun _ q1 hm=>gi hm ?_ ?_<;>intro _ hm
 ·refine R0 eB 2 1 ?_;exact AlC hm▸gE
 refine oB hm fun _ q2 hm=>gco (Sp.nil0 (Aby q2) rfl)<|gi hm ?_ ?_<;>intro _ hm
 ·refine R0 eB 2 1 ?_;exact AlC hm▸gE
 exact AlC hm▸gE
def B2 (a0:List g_api_Item):Option (List g_api_Item):=Ab (app 56 ([]:List g_api_Item) a0) fun x1=>some x1
theorem H6 {a0 r}(hm:B2 a0=some r):Sp prog 298 [sl Ao a0] [] 0 (is (.ow 0) [.row 0 3 _ Ao r] 1):=by
 refine sq ?_;intros;unfold B2 at hm;refine gnq Ao a0 (fun he1=> ?_) ?_
 ·rw[he1]at hm;replace hm:(some ([]:List g_api_Item))=some _:=hm;refine R0 Ao 2 3 ?_;exact AlC hm▸gE
 refine AaP (k:=3) Ao ([]:List g_api_Item) (fun _=>rfl)<|oB hm fun _ q1 hm=>gp Ao 3 q1 ?_;exact AlC hm▸gE
def GZ (a0:List g_api_Item):Option g_api_Item:=Ab (B2 a0) fun x1=>some (⟨48,[],x1⟩:g_api_Item)
theorem JG {a0 r}(hm:GZ a0=some r):Sf prog 235 [sl Ao a0] (ag (Ao r)):=by
 refine sq ?_;intros;refine gD hm H6 fun _ q1 hm=> ?_;exact AlC hm▸gE
def MU (a0:Int)(i1:Int)(s1:UInt8×UInt8×UInt8×UInt8×UInt8×UInt8×UInt8×UInt8):Option (UInt8×UInt8×UInt8×UInt8×UInt8×UInt8×UInt8×UInt8):=if(0:Int)≤(w64 (56-(w64 (8*(i1:Int)))))then Ab (idx [s1.1,s1.2.1,s1.2.2.1,s1.2.2.2.1,s1.2.2.2.2.1,s1.2.2.2.2.2.1,s1.2.2.2.2.2.2.1,s1.2.2.2.2.2.2.2] (i1:Int)) fun x4=>bnd (if(i1:Int)=0 then(toB (BA a0 ((w64 (56-(w64 (8*(i1:Int))))).toNat)))else s1.1) fun x5=>bnd (if(i1:Int)=1 then(toB (BA a0 ((w64 (56-(w64 (8*(i1:Int))))).toNat)))else s1.2.1) fun x6=>bnd (if(i1:Int)=2 then(toB (BA a0 ((w64 (56-(w64 (8*(i1:Int))))).toNat)))else s1.2.2.1) fun x7=>bnd (if(i1:Int)=3 then(toB (BA a0 ((w64 (56-(w64 (8*(i1:Int))))).toNat)))else s1.2.2.2.1) fun x8=>bnd (if(i1:Int)=4 then(toB (BA a0 ((w64 (56-(w64 (8*(i1:Int))))).toNat)))else s1.2.2.2.2.1) fun x9=>bnd (if(i1:Int)=5 then(toB (BA a0 ((w64 (56-(w64 (8*(i1:Int))))).toNat)))else s1.2.2.2.2.2.1) fun x10=>bnd (if(i1:Int)=6 then(toB (BA a0 ((w64 (56-(w64 (8*(i1:Int))))).toNat)))else s1.2.2.2.2.2.2.1) fun x11=>bnd (if(i1:Int)=7 then(toB (BA a0 ((w64 (56-(w64 (8*(i1:Int))))).toNat)))else s1.2.2.2.2.2.2.2) fun x12=>some (x5,x6,x7,x8,x9,x10,x11,x12)else none
def EK (s2:(List UInt8)):Option (((List UInt8))⊕((List UInt8))):=if(decide ((s2.length:Int)>1))=true then Ab (JW s2) fun x16=>if(!x16)=true then Ab (cut s2 1 (s2.length:Int)) fun x17=>some (.inl x17)else some (.inr s2)else some (.inr s2)
def F0 (a0:Int):Option g_api_Item:=Ab (Ab (CX (MU a0) 8 0 (0,0,0,0,0,0,0,0)) fun x2=>some (x2.1,x2.2.1,x2.2.2.1,x2.2.2.2.1,x2.2.2.2.2.1,x2.2.2.2.2.2.1,x2.2.2.2.2.2.2.1,x2.2.2.2.2.2.2.2)) fun x1=>Ab (Ab (iter EK Fx ([x1.1,x1.2.1,x1.2.2.1,x1.2.2.2.1,x1.2.2.2.2.1,x1.2.2.2.2.2.1,x1.2.2.2.2.2.2.1,x1.2.2.2.2.2.2.2]:List UInt8)) fun x14=>some x14) fun x13=>Ab (BF x13) fun x18=>some (⟨2,x18,[]⟩:g_api_Item)
theorem JH {a0 r}(hm:F0 a0=some r):Sf prog 236 [.d (.i a0)] (ag (Ao r)):=by
 refine sq fun D0 As η0 m0 hd=> ?_;unfold F0 at hm;obtain⟨x1,q1,hm⟩:=Ae hm;refine oB q1 fun x2 q2 q1=>gF (EM _ 8 _) q2 (fun p0 (p_0,p_1,p_2,p_3,p_4,p_5,p_6,p_7)=>⟨[(0,.d (.i a0)),(2,.pb 0 0),(3,.pb 1 0),(6,.d (.i p0))],[(0,.box 1 [.d (.b p_0),.d (.b p_1),.d (.b p_2),.d (.b p_3),.d (.b p_4),.d (.b p_5),.d (.b p_6),.d (.b p_7)] 300),(1,.box 0 [.d (.i 0),sl eB [],sl Ao []] 192)],[],2⟩) fun i1 s1 Jl bl1=>cM bl1 (8:Int) (fun _ q5 bl1=> ?_) fun e=> ?_
 ·unfold MU at q5;obtain⟨q7,q5⟩:=BI q5;refine gsh (r:= .i (BA a0 ((w64 (56-(w64 (8*(i1:Int))))).toNat))) (fun h=>q7)<|oB q5 fun _ q8 q5=>Vj (fun _=>q8)<|bE q5 ?_;intro _ q5;refine bE q5 ?_;intro _ q5;refine bE q5 ?_;intro _ q5;refine bE q5 ?_;intro _ q5;refine bE q5 ?_;intro _ q5;refine bE q5 ?_;intro _ q5;refine bE q5 ?_;intro _ q5;refine bE q5 ?_;intro _ q5;exact gstA D.b (toB (BA a0 ((w64 (56-(w64 (8*(i1:Int))))).toNat))) q8<|gM bl1 lk q5
 subst e;obtain rfl:=AlC q1;let x1:=(x2.1,x2.2.1,x2.2.2.1,x2.2.2.2.1,x2.2.2.2.2.1,x2.2.2.2.2.2.1,x2.2.2.2.2.2.2.1,x2.2.2.2.2.2.2.2);refine gslA (k:=1) eB ([x1.1,x1.2.1,x1.2.2.1,x1.2.2.2.1,x1.2.2.2.2.1,x1.2.2.2.2.2.1,x1.2.2.2.2.2.2.1,x1.2.2.2.2.2.2.2]:List UInt8) (fun _=>rfl) ?_;obtain⟨x13,q17,hm⟩:=Ae hm;refine oB q17 fun x14 q18 q17=>gjU 2 (fun(_:Unit)=>⟨[(2,.pb 0 0),(5,sl eB x14)],[(0,.box 0 [.d (.i 0),sl eB [],sl Ao []] 192)],[],1⟩) (fun _=>True) (fun Jp bk4=> ?_) fun _ _=> ?_
 ·refine gI q18 (fun p=>⟨[(2,.pb 0 0),(5,sl eB p)],[(0,.box 0 [.d (.i 0),sl eB [],sl Ao []] 192)],[],1⟩) fun s2 _ Jl q21 bl2=>gspl 22 q21 (fun hc2 q21=> ?_) fun hc2 q21=> ?_
  ·refine gA q21 Q4 fun _ q23 q21=>gi q21 ?_ ?_<;>intro _ q21
   ·exact oB q21 fun _ q24 q21=>gk eB 1 q24<|gN bl2 q21
   obtain rfl:=nR bl2 q21;exact gb bk4 hd () trivial
  refine gi' (b:=false) (fun h=>by cases h) (fun _=> ?_);obtain rfl:=nR bl2 q21;exact gb bk4 hd () trivial
 obtain rfl:=AlC q17;refine gD hm Hr fun _ q25 hm=> ?_;exact AlC hm▸gE
def Fl (a0:UInt64):Option g_api_Item:=Ab (F0 (w64 (a0.toNat:Int))) fun x1=>some x1
theorem Ii {a0 r}(hm:Fl a0=some r):Sf prog 238 [.d (.u a0)] (ag (Ao r)):=by
 refine sq ?_;intros;refine gA hm JH fun _ q1 hm=> ?_;exact AlC hm▸gE
def Jx (a0:ByteArray):Option g_api_Item:=Ab (app 1 ([]:List UInt8) a0.data.toList) fun x1=>some (⟨12,x1,[]⟩:g_api_Item)
theorem Pm {a0 r}(hm:Jx a0=some r):Sf prog 237 [.d (.s a0)] (ag (Ao r)):=by
 refine sq ?_;intros;refine oB hm fun _ q1 hm=>gofS q1 ?_;exact AlC hm▸gE
def PK (a0:Bool):Option g_api_Item:=Ab (if a0=true then Ab (idx ([0]:List UInt8) 0) fun x2=>bnd (([0]:List UInt8).set (0:Int).toNat 255) fun x3=>some x3 else some ([0]:List UInt8)) fun x1=>some (⟨1,x1,[]⟩:g_api_Item)
theorem Aag {a0 r}(hm:PK a0=some r):Sf prog 240 [.d (.t a0)] (ag (Ao r)):=by
 refine sq fun D0 As η0 m0 hd=>AaP (k:=1) eB ([0]:List UInt8) (fun _=>rfl)<|oB hm fun x1 q1 hm=>gj (fun(_:Unit)=>⟨[(2,.pb 0 0),(3,.ow 1)],[(0,.row 1 1 _ eB x1),(1,.box 0 [.d (.i 0),sl eB [],sl Ao []] 192)],[],2⟩) (fun _=>True) (fun Jp bk1=> ?_) fun _ _=> ?_
 ·refine gi q1 ?_ ?_<;>intro _ q1
  ·refine oB q1 fun _ q2 q1=>I6 (E:=eB) (fun _=>q2)<|bE q1 ?_;intro _ q1;refine AeZ (k:=1) (E:=eB) 255 (fun _=>rfl) q2 ?_;obtain rfl:=AlC q1;exact gb bk1 hd () trivial
  obtain rfl:=AlC q1;exact gb bk1 hd () trivial
 exact AlC hm▸gE
def Cy (i1:Int)(x3:ByteArray)(s1:(List g_api_Item)):Option ((List g_api_Item)):=Ab (Jx x3) fun x4=>Ab (app 56 s1 ([x4]:List g_api_Item)) fun x5=>some x5
def Cq (a0:List ByteArray):Option g_api_Item:=Ab (Ab (DP Cy a0 0 ([]:List g_api_Item)) fun x2=>some x2) fun x1=>Ab (GZ x1) fun x6=>some x6
theorem Ie {a0 r}(hm:Cq a0=some r):Sf prog 239 [sl eS a0,.fn (.func 237) [] []] (ag (Ao r)):=by
 refine sq ?_;intros;unfold Cq at hm;obtain⟨x1,q1,hm⟩:=Ae hm;refine oB q1 fun _ q2 q1=>WL 0 Ao 5 3<|IU 0 (E:=eS) (xs:=a0) 8 fun hle1=>gF (E0 _ _ _) q2 (fun p0 p=>⟨[(1,.fn (.func 237) [] []),(4,.pb 0 0),(5,.ow 1),(8,sl eS a0),(9,.d (.i (a0.length:Int))),(10,.d (.i p0))],[(0,.row 1 3 _ Ao p),(1,.box 0 [.d (.i 0),sl eB [],sl Ao []] 192)],[],2⟩) fun i1 s1 Jl bl1=>c0 bl1 (fun _ _ q6 q5 bl1=> ?_) fun e=> ?_
 ·exact gx eS 1 q6<|gA q5 Pm fun x4 q7 q5=>gq Ao 3 [x4]<|oB q5 fun _ q8 q5=>gp Ao 3 q8<|gM bl1 hle1 q5
 subst e;obtain rfl:=AlC q1;refine gD hm JG fun _ q9 hm=> ?_;exact AlC hm▸gE
def Ll (a0:g_api_Cert):Option g_api_Item:=Ab (F0 a0.Serial) fun x1=>Ab (Jx a0.Issuer) fun x2=>Ab (Jx a0.Subject) fun x3=>Ab (Fl a0.Key) fun x4=>Ab (Cq a0.Names) fun x5=>Ab (F0 a0.From) fun x6=>Ab (F0 a0.Until) fun x7=>Ab (PK a0.Ca) fun x8=>Ab (F0 a0.Depth) fun x9=>Ab (Cq a0.Permit) fun x10=>Ab (GZ ([x1,x2,x3,x4,x5,x6,x7,x8,x9,x10]:List g_api_Item)) fun x11=>some x11
theorem Tm {a0 r}(hm:Ll a0=some r):Sf prog 152 [ag (Ac a0)] (ag (Ao r)):=by
 refine sq ?_;intros;refine gA hm JH fun x1 q1 hm=>gA hm Pm fun x2 q2 hm=>gA hm Pm fun x3 q3 hm=>gA hm Ii fun x4 q4 hm=>gA hm Ie fun x5 q5 hm=>gA hm JH fun x6 q6 hm=>gA hm JH fun x7 q7 hm=>gA hm Aag fun x8 q8 hm=>gA hm JH fun x9 q9 hm=> ?_;refine gA hm Ie fun x10 q10 hm=>gq Ao 3 [x1,x2,x3,x4,x5,x6,x7,x8,x9,x10]<|gA hm JG fun _ q11 hm=> ?_;exact AlC hm▸gE
def Jo (a0:g_api_Promise):Option g_api_Item:=Ab (F0 a0.Log) fun x1=>Ab (F0 a0.At) fun x2=>Ab (Fl a0.Leaf.1) fun x3=>Ab (Fl a0.Leaf.2) fun x4=>Ab (Fl a0.Sig.E) fun x5=>Ab (Fl a0.Sig.S) fun x6=>Ab (GZ ([x1,x2,x3,x4,x5,x6]:List g_api_Item)) fun x7=>some x7
theorem Us {a0 r}(hm:Jo a0=some r):Sf prog 308 [ag (Ad a0)] (ag (Ao r)):=by
 refine sq ?_;intros;refine gA hm JH fun x1 q1 hm=>gA hm JH fun x2 q2 hm=>gA hm Ii fun x3 q3 hm=>gA hm Ii fun x4 q4 hm=>gA hm Ii fun x5 q5 hm=>gA hm Ii fun x6 q6 hm=>gq Ao 3 [x1,x2,x3,x4,x5,x6]<|gA hm JG fun _ q7 hm=> ?_;exact AlC hm▸gE
def BK (i1:Int)(x3:g_api_Promise)(s1:(List g_api_Item)):Option ((List g_api_Item)):=Ab (Jo x3) fun x4=>Ab (app 56 s1 ([x4]:List g_api_Item)) fun x5=>some x5
def B4 (a0:List g_api_Promise):Option g_api_Item:=Ab (Ab (DP BK a0 0 ([]:List g_api_Item)) fun x2=>some x2) fun x1=>Ab (GZ x1) fun x6=>some x6
theorem JI {a0 r}(hm:B4 a0=some r):Sf prog 307 [sl Ad a0,.fn (.func 308) [] []] (ag (Ao r)):=by
 refine sq ?_;intros;unfold B4 at hm;obtain⟨x1,q1,hm⟩:=Ae hm;refine oB q1 fun _ q2 q1=>WL 0 Ao 5 3<|IU 0 (E:=Ad) (xs:=a0) 8 fun hle1=>gF (E0 _ _ _) q2 (fun p0 p=>⟨[(1,.fn (.func 308) [] []),(4,.pb 0 0),(5,.ow 1),(8,sl Ad a0),(9,.d (.i (a0.length:Int))),(10,.d (.i p0))],[(0,.row 1 3 _ Ao p),(1,.box 0 [.d (.i 0),sl eB [],sl Ao []] 192)],[],2⟩) fun i1 s1 Jl bl1=>c0 bl1 (fun _ _ q6 q5 bl1=> ?_) fun e=> ?_
 ·exact gx Ad 6 q6<|gA q5 Us fun x4 q7 q5=>gq Ao 3 [x4]<|oB q5 fun _ q8 q5=>gp Ao 3 q8<|gM bl1 hle1 q5
 subst e;obtain rfl:=AlC q1;refine gD hm JG fun _ q9 hm=> ?_;exact AlC hm▸gE
def J2 (a0:g_api_Cert):Option g_api_Item:=Ab (Ll a0) fun x1=>Ab (B4 a0.Proms) fun x2=>Ab (GZ ([x1,x2]:List g_api_Item)) fun x3=>some x3
theorem Rb {a0 r}(hm:J2 a0=some r):Sf prog 250 [ag (Ac a0)] (ag (Ao r)):=by
 refine sq ?_;intros;refine gA hm Tm fun x1 q1 hm=>gA hm JI fun x2 q2 hm=>gq Ao 3 [x1,x2]<|gA hm JG fun _ q3 hm=> ?_;exact AlC hm▸gE
def KB (a0:g_api_Cert):Option g_api_Item:=Ab (J2 a0) fun x1=>Ab (Fl a0.Sig.E) fun x2=>Ab (Fl a0.Sig.S) fun x3=>Ab (GZ ([x2,x3]:List g_api_Item)) fun x4=>Ab (GZ ([x1,x4]:List g_api_Item)) fun x5=>some x5
theorem V1 {a0 r}(hm:KB a0=some r):Sf prog 210 [ag (Ac a0)] (ag (Ao r)):=by
 refine sq ?_;intros;refine gA hm Rb fun x1 q1 hm=>gA hm Ii fun x2 q2 hm=>gA hm Ii fun x3 q3 hm=>gq Ao 3 [x2,x3]<|gA hm JG fun x4 q4 hm=>gq Ao 3 [x1,x4]<|gA hm JG fun _ q5 hm=> ?_;exact AlC hm▸gE
def Cn (a0:g_api_Cert):Option Int:=Ab (Jn a0) fun x1=>if(!x1)=true then some 1 else Ab (KB a0) fun x2=>Ab (JY x2) fun x3=>if((x3.2 !=0)||(decide ((x3.1.length:Int)>2048)))=true then some 2 else some 0
theorem FO {a0 r}(hm:Cn a0=some r):Sf prog 130 [ag (Ac a0)] (.d (.i r)):=by
 refine sq ?_;intros;refine gA hm Ur fun _ q1 hm=>gi hm ?_ ?_<;>intro _ hm
 ·exact AlC hm▸gE
 refine gA hm V1 fun _ q2 hm=>gD hm Q7 fun _ q3 hm=>gi hm ?_ ?_<;>intro _ hm
 ·exact AlC hm▸gE
 exact AlC hm▸gE
def AU (a1:Int):Option (List g_api_Cert):=Ab (if(decide (a1<0))=true then none else some ()) fun x1=>Ab (bnd ((w64 (a1-(w64 (0-((0:Nat):Int)))))) fun x3=>if(decide (x3>0))=true then if 0≤x3∧x3*168≤140737488355328∧x3≤140737488355328 then some ([]:List g_api_Cert)else none else some ([]:List g_api_Cert)) fun x2=>some x2
theorem Ha {m As w a1 r}(S:St m (As) w)(hm:AU a1=some r):
  C4 Tryz.prog 228 #[.slice none 0 0,vI a1] w fun v w'=> ∃(M:Mem),m≤M∧∃(rv0:Value) (rc0:List Value),St M ((row 13 rv0 rc0 r.length)::As) w'∧v=rv0∧CI M rc0 r:=by
 unfold AU at hm;have L0:=Mem.rfl' m;refine Pa (args:=[.slice none 0 0,vI a1]) Tryz.func228 rfl Tryz.ntmps228 (AlS rfl)<|AY<|AB<|GJ (v:= .slice none 0 0) rfl<|AK<|nrm ?_;obtain⟨x1,q1,hm⟩:=Ae hm;have L1:=Mem.rfl' m;refine AY<|Lt [5,6,7] (fun f' w'=> ∃(M1:Mem),m≤M1∧St M1 (As) w'∧QC f' []) ?_ ?_
 ·refine AY<|AB<|A9 (v:=vI a1) rfl<|Ab6 (m:=a1) (n:=0) rfl rfl<|AK<|nrm<|JC (t:=(decide (a1<0))) rfl (fun hc1=> ?_) (fun hc1=> ?_)
  ·replace q1:=ifT hc1 q1;cases q1
  replace q1:=ifF hc1 q1;refine Gf<|nrm ?_;obtain rfl:=AlC q1;exact⟨Tt,m,L1,S,trivial⟩
 rintro f1 w1 ho ⟨m1,l1,S1,ha⟩;obtain⟨u1,rfl⟩:=LY (N:=27) ho ha;replace L0:=Mem.tr L0 l1;clear S;obtain⟨x2,q2,hm⟩:=Ae hm;have L2:=Mem.rfl' m1;refine AY<|Lt [0,1,8,9,10,11,12,13,14,15,16,17,18,19,20,21,22,23,24,25] (fun f' w'=> ∃(M2:Mem) (v1:Value) (c1:List Value),m1≤M2∧St M2 ((row 13 v1 c1 x2.length)::As) w'∧CI M2 c1 x2∧QC f' [(0,v1)]) ?_ ?_
 ·refine AY<|AB<|A9 (v:=vI a1) rfl<|A9 (v:= .slice none 0 0) rfl<|Ns rfl Tryz.underlying22<|A9 (v:= .slice none 0 0) rfl<|Rn (n:=0) rfl Tryz.underlying22<|ON (m:=0) (n:=((0:Nat):Int)) rfl rfl<|ON (m:=a1) (n:=(w64 (0-((0:Nat):Int)))) rfl rfl ?_;obtain⟨x3,q3,q2⟩:=AeB q2;refine GJ (v:=vI x3) (Al9 (fun z=>vI z) q3.symm)<|AK<|nrm<|AY<|AB<|A9 (v:=vI x3) rfl<|Aam (m:=x3) (n:=0) rfl rfl<|AK<|nrm ?_;refine JC (t:=(decide (x3>0))) rfl (fun hc2=> ?_) (fun hc2=> ?_)
  ·replace q2:=ifT hc2 q2;refine AB<|A9 (v:= .slice none 0 0) rfl<|A9 (v:= .slice none 0 0) rfl<|Ns rfl Tryz.underlying22<|Aca rfl Tryz.underlying22 Tryz.sizeOf59 rfl<|A9 (v:=vI x3) rfl ?_;obtain⟨q4,q2⟩:=BI q2;refine Ace (bytes:=168) (sz:=13) (k:=x3) (ti:=Tryz.t59) S1 rfl rfl q4 Tryz.underlying22 Tryz.underlying3 Tryz.type59 rfl rfl rfl rfl ?_;intro v2 c2 w2 S2;replace S2:St _ ((row 13 v2 c2 x3.toNat)::As) _:=S2;clear S1;refine A9 (v:= .slice none 0 0) rfl<|Rn (n:=0) rfl Tryz.underlying22<|Y5 (i:=0) S2 rfl rfl Tryz.underlying22 Tryz.sizeOf59 rfl (j:=0) rfl (Int.le_refl 0) (Ams _) ?_;intro v3 S3;rw[show c2.take ((0:Int).toNat*13)=[]from by simp]at S3;have h2:CI m1 [] ([]:List g_api_Cert):=CI.nil;replace S3:St _ ((row 13 v3 [] ([]:List g_api_Cert).length)::As) _:=S3;clear S2;refine GJ (v:=v3) rfl<|AK<|nrm ?_;obtain rfl:=AlC q2;exact⟨Tt,m1,_,_,L2,S3,h2,⟨rfl,trivial⟩⟩
  replace q2:=ifF hc2 q2;refine Gf<|nrm ?_;have S4:=St.rowNil S1 13;have h3:CI m1 [] ([]:List g_api_Cert):=CI.nil;replace S4:St _ ((row 13 (.slice none 0 0) [] ([]:List g_api_Cert).length)::As) _:=S4;clear S1;obtain rfl:=AlC q2;exact⟨Tt,m1,_,_,L2,S4,h3,⟨rfl,trivial⟩⟩
 rintro f2 w3 ho ⟨m2,v1,c1,l2,S5,h1,ha⟩;obtain⟨u2,rfl⟩:=LY (N:=27) ho ha;replace L0:=Mem.tr L0 l2;clear S1;refine AY<|AB<|A9 (v:=v1) rfl<|GJ (v:=v1) rfl<|AK<|nrm<|JB<|RE ?_;intro we hpd;replace S5:=St.pd S5 hpd;obtain rfl:=AlC hm;exact Abi [_] rfl ⟨rfl,trivial⟩ ⟨_,L0,_,_,S5,rfl,h1⟩
theorem He {a1 r}(hm:AU a1=some r):Sp prog 228 [.d (.v (.slice none 0 0)),.d (.i a1)] [] 0 (is (.ow 0) [.row 0 13 _ Ac r] 1):=
 gnl call228 Abd (fun S=>Ha S hm)
def AQ (i1:Int)(x3:List g_api_Cert)(s1:Int):Option (Int):=Ab (bnd ((w64 (s1+(x3.length:Int)))) fun x5=>if(decide (x5<0))=true then none else some x5) fun x4=>some x4
def A8 (i2:Int)(x9:List g_api_Cert)(s2:(List g_api_Cert)):Option ((List g_api_Cert)):=Ab (app 168 s2 x9) fun x10=>some x10
def Bt (a0:List (List g_api_Cert)):Option (List g_api_Cert):=Ab (Ab (DP AQ a0 0 0) fun x2=>some x2) fun x1=>Ab (AU x1) fun x6=>Ab (Ab (DP A8 a0 0 x6) fun x8=>some x8) fun x7=>some x7
theorem HE {a0 r}(hm:Bt a0=some r):Sp prog 146 [sl (eL Ac) a0] [] 0 (is (.ow 0) [.row 0 13 _ Ac r] 1):=by
 refine sq ?_;intros;unfold Bt at hm;obtain⟨x1,q1,hm⟩:=Ae hm;refine oB q1 fun _ q2 q1=>IU 0 (E:=(eL Ac)) (xs:=a0) 9 fun hle1=>gF (E0 _ _ _) q2 (fun p0 p=>⟨[(0,sl (eL Ac) a0),(3,.d (.i p)),(9,sl (eL Ac) a0),(10,.d (.i (a0.length:Int))),(11,.d (.i p0))],[],[],0⟩) fun i1 s1 Jl bl1=>c0 bl1 (fun _ _ q6 q5 bl1=> ?_) fun e=> ?_
 ·refine oB q5 fun _ q7 q5=>gx (eL Ac) 1 q6<|bE q7 ?_;intro _ q7;refine gi q7 ?_ ?_<;>intro _ q7
  ·cases q7
  obtain rfl:=AlC q7;exact gM bl1 hle1 q5
 subst e;obtain rfl:=AlC q1;refine gD hm He fun _ q9 hm=> ?_;obtain⟨x7,q10,hm⟩:=Ae hm;refine oB q10 fun _ q11 q10=>IU 2 (E:=(eL Ac)) (xs:=a0) 25 fun hle2=>gF (E0 _ _ _) q11 (fun p0 p=>⟨[(6,.ow 0),(25,sl (eL Ac) a0),(26,.d (.i (a0.length:Int))),(27,.d (.i p0))],[(0,.row 0 13 _ Ac p)],[],1⟩) fun i2 s2 Jl bl2=>c0 bl2 (fun _ _ q15 q14 bl2=> ?_) fun e=> ?_
 ·exact gx (eL Ac) 1 q15<|oB q14 fun _ q16 q14=>gp Ac 13 q16<|gM bl2 hle2 q14
 subst e;obtain rfl:=AlC q10;exact AlC hm▸gE
def EU (i1:Int)(x3:g_api_Cert)(s1:Unit):Option ((Unit)⊕Int):=Ab (Cn x3) fun x4=>if(x4 !=0)=true then some (.inr x4)else some (.inl ())
def G2 (a0:g_path_trip):Option Int:=Ab (Bt ([a0.chain_,a0.roots_]:List (List g_api_Cert))) fun x1=>Ab (DK EU x1 0 ()) fun x2=>match x2 with| .inr r=>some r| .inl y1=>some 0
theorem Qj {a0 r}(hm:G2 a0=some r):Sf prog 73 [ag (E1 a0)] (.d (.i r)):=by
 refine sq ?_;intros;refine gq (eL Ac) 1 [a0.chain_,a0.roots_]<|gD hm HE fun x1 q1 hm=>oB hm fun _ q2 hm=>IU 0 (E:=Ac) (xs:=x1) 11 fun hle1=>gF (ER _ _ _) q2 (fun p0 _=>⟨[(11,sl Ac x1),(12,.d (.i (x1.length:Int))),(13,.d (.i p0)),(1,.pb 0 0)],[(0,.box 0 [sl Ac a0.roots_,sl Ac a0.chain_,.d (.s a0.name_),.d (.i a0.now_)] 124)],[],1⟩) fun i1 s1 Jl bl1=>cR bl1 (fun _ _ q6 q5 bl1=> ?_) fun e=> ?_
 ·refine gx Ac 13 q6<|gA q5 FO fun _ q7 q5=>gi q5 ?_ ?_<;>intro _ q5
  ·obtain rfl:=nT bl1 q5;exact AlC hm▸gE
  exact gT bl1 hle1 q5
 subst e;exact AlC hm▸gE
def FC (a0:g_path_trip)(a1:g_api_Cert):Option Bool:=bnd (((decide (a1.From≤a0.now_))&&(decide (a1.Until>a0.now_)))) fun x1=>some x1
theorem Ki {a0 a1 r}(hm:FC a0 a1=some r):Sf prog 147 [ag (E1 a0),ag (Ac a1)] (.d (.t r)):=by
 refine sq ?_;intros;refine bE hm ?_;intro _ hm;exact AlC hm▸gE
def B9 (a0:List ByteArray)(a1:ByteArray)(i1:Int)(s1:Unit):Option ((Unit)⊕Int):=Ab (idx a0 (i1:Int)) fun x3=>if(eqS a1 x3)=true then some (.inr (i1:Int))else some (.inl ())
def Dl (a0:List ByteArray)(a1:ByteArray):Option Int:=Ab (BV (B9 a0 a1) a0.length 0 ()) fun x1=>match x1 with| .inr r=>some r| .inl y1=>some (-1)
theorem I8 {a0 a1 r}(hm:Dl a0 a1=some r):Sf prog 229 [sl eS a0,.d (.s a1)] (.d (.i r)):=by
 refine sq ?_;intros;refine oB hm fun _ q1 hm=>IU 0 (E:=eS) (xs:=a0) 6 fun hle1=>gF (EN _ _ _) q1 (fun p0 _=>⟨[(0,sl eS a0),(1,.d (.s a1)),(7,.d (.i (a0.length:Int))),(8,.d (.i p0))],[],[],0⟩) fun i1 s1 Jl bl1=>cN bl1 (a0.length:Int) (fun _ q4 bl1=> ?_) fun e=> ?_
 ·refine oB q4 fun _ q6 q4=>gx eS 1 q6<|gi q4 ?_ ?_<;>intro _ q4
  ·obtain rfl:=nT bl1 q4;exact AlC hm▸gE
  exact gT bl1 hle1 q4
 subst e;exact AlC hm▸gE
def Cb (a0:List ByteArray)(a1:ByteArray):Option Bool:=Ab (Dl a0 a1) fun x1=>some (decide (x1≥0))
theorem Ig {a0 a1 r}(hm:Cb a0 a1=some r):Sf prog 148 [sl eS a0,.d (.s a1)] (.d (.t r)):=by
 refine sq ?_;intros;refine gA hm I8 fun _ q1 hm=> ?_;exact AlC hm▸gE
def CQ (a0:g_path_trip)(i1:Int)(s1:Bool):Option ((Bool)⊕Int):=Ab (idx a0.chain_ (i1:Int)) fun x3=>Ab (gu (!s1) (FC a0 x3)) fun x4=>if(x3.Ca==(decide ((i1:Int)>0)))=true then some (.inl (s1||(!x4)))else some (.inr 191)
def Gn (a0:g_path_trip):Option Int:=Ab (BV (CQ a0) a0.chain_.length 0 false) fun x1=>match x1 with| .inr r=>some r| .inl y1=>Ab (idx a0.chain_ 0) fun x5=>Ab (Cb x5.Names a0.name_) fun x6=>if(!x6)=true then some 110 else if y1=true then some 190 else some 0
theorem Pk {a0 r}(hm:Gn a0=some r):Sf prog 74 [ag (E1 a0)] (.d (.i r)):=by
 refine sq ?_;intros;refine oB hm fun _ q1 hm=>IU 0 (E:=Ac) (xs:=a0.chain_) 7 fun hle1=>gF (EN _ _ _) q1 (fun p0 p=>⟨[(1,.pb 0 0),(3,.d (.t p)),(7,sl Ac a0.chain_),(8,.d (.i (a0.chain_.length:Int))),(9,.d (.i p0))],[(0,.box 0 [sl Ac a0.roots_,sl Ac a0.chain_,.d (.s a0.name_),.d (.i a0.now_)] 124)],[],1⟩) fun i1 s1 Jl bl1=>cN bl1 (a0.chain_.length:Int) (fun _ q4 bl1=> ?_) fun e=> ?_
 ·refine oB q4 fun _ q6 q4=>gx Ac 13 q6<|oB q4 fun _ q7 q4=>gcH q7 Ki<|gi q4 ?_ ?_<;>intro _ q4
  ·exact gT bl1 hle1 q4
  obtain rfl:=nT bl1 q4;exact AlC hm▸gE
 subst e;let y1:=s1;refine oB hm fun _ q8 hm=>gx Ac 13 q8<|gA hm Ig fun _ q9 hm=>gi hm ?_ ?_<;>intro _ hm
 ·exact AlC hm▸gE
 refine gi hm ?_ ?_<;>intro _ hm
 ·exact AlC hm▸gE
 exact AlC hm▸gE
def Is (a0:g_api_Cert):Option ((List UInt8)×Int):=Ab (Cn a0) fun x1=>if(x1 !=0)=true then some (([]:List UInt8),x1)else Ab (J2 a0) fun x2=>Ab (JY x2) fun x3=>some (x3.1,x3.2)
theorem Px {a0 r}(hm:Is a0=some r):Sp prog 151 [ag (Ac a0),.fn (.func 250) [] []] [] 0 (is (.tup [.ow 0,.d (.i r.2)]) [.row 0 1 _ eB r.1] 1):=by
 refine sq ?_;intros;refine gA hm FO fun _ q1 hm=>gi hm ?_ ?_<;>intro _ hm
 ·refine R0 eB 4 1 ?_;exact AlC hm▸gE
 refine gA hm Rb fun _ q2 hm=>gD hm Q7 fun _ q3 hm=> ?_;exact AlC hm▸gE
def J3 (a0:g_api_Cert):Option ((List UInt8)×Int):=Ab (Is a0) fun x1=>some (x1.1,x1.2)
theorem Rc {a0 r}(hm:J3 a0=some r):Sp prog 164 [ag (Ac a0)] [] 0 (is (.tup [.ow 0,.d (.i r.2)]) [.row 0 1 _ eB r.1] 1):=by
 refine sq ?_;intros;refine gD hm Px fun _ q1 hm=> ?_;exact AlC hm▸gE
def IQ (a0:UInt64)(a1:UInt64):Option (UInt64×UInt64):=bnd (((a0&&&4294967295)*(a1&&&4294967295))) fun x1=>bnd ((((Ev a0 32)*(a1&&&4294967295))+(Ev x1 32))) fun x2=>bnd (((x2&&&4294967295)+((a0&&&4294967295)*(Ev a1 32)))) fun x3=>bnd (((((Ev a0 32)*(Ev a1 32))+(Ev x2 32))+(Ev x3 32))) fun x4=>some (x4,(a0*a1))
theorem Mz {a0 a1 r}(hm:IQ a0 a1=some r):Sf prog 304 [.d (.u a0),.d (.u a1)] (.tup [.d (.u r.1),.d (.u r.2)]):=by
 refine sq ?_;intros;refine bE hm ?_;intro _ hm;refine bE hm ?_;intro _ hm;refine bE hm ?_;intro _ hm;refine bE hm ?_;intro _ hm;exact AlC hm▸gE
def Ga (a0:UInt64):Option Int:=Ab (if(decide ((a0.toNat:Int)≥4294967296))=true then some ((Ev a0 32),32)else some (a0,0)) fun x1=>Ab (if(decide ((x1.1.toNat:Int)≥65536))=true then some ((Ev x1.1 16),(w64 (x1.2+16)))else some (x1.1,x1.2)) fun x2=>Ab (if(decide ((x2.1.toNat:Int)≥256))=true then some ((Ev x2.1 8),(w64 (x2.2+8)))else some (x2.1,x2.2)) fun x3=>Ab (idx str_0.data.toList ((toB (x3.1.toNat:Int)).toNat:Int)) fun x4=>bnd ((w64 (x3.2+(w64 (x4.toNat:Int))))) fun x5=>some x5
theorem MA {a0 r}(hm:Ga a0=some r):Sf prog 244 [.d (.u a0)] (.d (.i r)):=by
 refine sq fun D0 As η0 m0 hd=>oB hm fun x1 q1 hm=>gj (fun(_:Unit)=>let (y_0,y_1):=x1; ⟨[(0,.d (.u y_0)),(2,.d (.i y_1))],[],[],0⟩) (fun _=>True) (fun Jp bk1=> ?_) fun _ _=> ?_
 ·refine gi q1 ?_ ?_<;>intro _ q1
  ·obtain rfl:=AlC q1;exact gb bk1 hd () trivial
  obtain rfl:=AlC q1;exact gb bk1 hd () trivial
 refine oB hm fun x2 q2 hm=>gj (fun(_:Unit)=>let (y_0,y_1):=x2; ⟨[(0,.d (.u y_0)),(2,.d (.i y_1))],[],[],0⟩) (fun _=>True) (fun Jp bk2=> ?_) fun _ _=> ?_
 ·refine gi q2 ?_ ?_<;>intro _ q2
  ·obtain rfl:=AlC q2;exact gb bk2 hd () trivial
  obtain rfl:=AlC q2;exact gb bk2 hd () trivial
 refine oB hm fun x3 q3 hm=>gj (fun(_:Unit)=>let (y_0,y_1):=x3; ⟨[(0,.d (.u y_0)),(2,.d (.i y_1))],[],[],0⟩) (fun _=>True) (fun Jp bk3=> ?_) fun _ _=> ?_
 ·refine gi q3 ?_ ?_<;>intro _ q3
  ·obtain rfl:=AlC q3;exact gb bk3 hd () trivial
  obtain rfl:=AlC q3;exact gb bk3 hd () trivial
 refine oB hm fun _ q4 hm=>AkK (fun _=>q4)<|bE hm ?_;intro _ hm;exact AlC hm▸gE
def Ef (a0:UInt64):Option Int:=Ab (Ga a0) fun x1=>some (w64 (64-x1))
theorem MB {a0 r}(hm:Ef a0=some r):Sf prog 359 [.d (.u a0)] (.d (.i r)):=by
 refine sq ?_;intros;refine gA hm MA fun _ q1 hm=> ?_;exact AlC hm▸gE
def Gc (x4:UInt64)(x5:UInt64)(x7:UInt64)(s1:UInt64×UInt64):Option ((UInt64×UInt64)⊕(UInt64)):=if((decide ((s1.1.toNat:Int)≥4294967296))||(decide (((s1.1*x5).toNat:Int)>(((4294967296*s1.2)+x7).toNat:Int))))=true then if(decide (((s1.2+x4).toNat:Int)≥4294967296))=true then some (.inr (s1.1-1))else some (.inl ((s1.1-1),(s1.2+x4)))else some (.inr s1.1)
def Gb (x4:UInt64)(x5:UInt64)(x8:UInt64)(s2:UInt64×UInt64):Option ((UInt64×UInt64)⊕(UInt64)):=if((decide ((s2.2.toNat:Int)≥4294967296))||(decide (((s2.2*x5).toNat:Int)>(((4294967296*s2.1)+x8).toNat:Int))))=true then if(decide (((s2.1+x4).toNat:Int)≥4294967296))=true then some (.inr (s2.2-1))else some (.inl ((s2.1+x4),(s2.2-1)))else some (.inr s2.2)
def IS (a0:UInt64)(a1:UInt64)(a2:UInt64):Option (UInt64×UInt64):=Ab (if((a2.toNat:Int)==0)=true then none else some ()) fun x1=>Ab (if(decide ((a2.toNat:Int)≤(a0.toNat:Int)))=true then none else some ()) fun x2=>if((a0.toNat:Int)==0)=true then if a2≠0 then if a2≠0 then some ((a1/a2),(a1%a2))else none else none else Ab (Ef a2) fun x3=>bnd ((Ev (K8 a2 ((toU x3).toNat)) 32)) fun x4=>bnd (((K8 a2 ((toU x3).toNat))&&&4294967295)) fun x5=>bnd (((K8 a0 ((toU x3).toNat))|||(Ev a1 ((64-(toU x3)).toNat)))) fun x6=>bnd ((Ev (K8 a1 ((toU x3).toNat)) 32)) fun x7=>bnd (((K8 a1 ((toU x3).toNat))&&&4294967295)) fun x8=>if x4≠0 then Ab (Ab (iter (Gc x4 x5 x7) Fx ((x6/x4),(x6-((x6/x4)*x4)))) fun x10=>some x10) fun x9=>bnd ((((x6*4294967296)+x7)-(x9*(K8 a2 ((toU x3).toNat))))) fun x12=>if x4≠0 then Ab (Ab (iter (Gb x4 x5 x8) Fx ((x12-((x12/x4)*x4)),(x12/x4))) fun x14=>some x14) fun x13=>bnd ((Ev (((x12*4294967296)+x8)-(x13*(K8 a2 ((toU x3).toNat)))) ((toU x3).toNat))) fun x16=>some (((x9*4294967296)+x13),x16)else none else none
theorem P3 {a0 a1 a2 r}(hm:IS a0 a1 a2=some r):Sf prog 306 [.d (.u a0),.d (.u a1),.d (.u a2)] (.tup [.d (.u r.1),.d (.u r.2)]):=by
 refine sq fun D0 As η0 m0 hd=>oB hm fun _ q1 hm=>gi q1 (fun hc1 q1=> ?_) fun hc1 q1=> ?_
 ·cases q1
 obtain rfl:=AlC q1;refine oB hm fun _ q2 hm=>gi q2 (fun hc2 q2=> ?_) fun hc2 q2=> ?_
 ·cases q2
 obtain rfl:=AlC q2;refine gi hm ?_ ?_<;>intro _ hm
 ·obtain⟨q3,hm⟩:=BI hm;refine Ae0 (d:= .u a2) (r:= .u (a1/a2)) (fun h=>q3) ?_;obtain⟨q4,hm⟩:=BI hm;refine Ae0 (d:= .u a2) (r:= .u (a1%a2)) (fun h=>q4) ?_;exact AlC hm▸gE
 refine gA hm MB fun x3 q5 hm=>bE hm ?_;intro x4 hm;refine bE hm ?_;intro x5 hm;refine bE hm ?_;intro x6 hm;refine bE hm ?_;intro x7 hm;refine bE hm ?_;intro x8 hm;obtain⟨q11,hm⟩:=BI hm;refine Ae0 (d:= .u x4) (r:= .u (x6/x4)) (fun h=>q11) ?_;obtain⟨x9,q12,hm⟩:=Ae hm;refine oB q12 fun x10 q13 q12=>gjU 0 (fun(_:Unit)=>⟨[(2,.d (.u (K8 a2 ((toU x3).toNat)))),(8,.d (.u (toU x3))),(9,.d (.u x4)),(10,.d (.u x5)),(11,.d (.u x6)),(13,.d (.u x7)),(14,.d (.u x8)),(15,.d (.u x10))],[],[],0⟩) (fun _=>True) (fun Jp bk4=> ?_) fun _ _=> ?_
 ·refine gI q13 (fun(p_0,p_1)=>⟨[(2,.d (.u (K8 a2 ((toU x3).toNat)))),(8,.d (.u (toU x3))),(9,.d (.u x4)),(10,.d (.u x5)),(11,.d (.u x6)),(13,.d (.u x7)),(14,.d (.u x8)),(15,.d (.u p_0)),(16,.d (.u p_1))],[],[],0⟩) fun s1 _ Jl q16 bl1=>gi q16 ?_ ?_<;>intro _ q16
  ·refine gi q16 ?_ ?_<;>intro _ q16
   ·obtain rfl:=nR bl1 q16;exact gb bk4 hd () trivial
   exact gN bl1 q16
  obtain rfl:=nR bl1 q16;exact gb bk4 hd () trivial
 obtain rfl:=AlC q12;let x9:=x10;refine bE hm ?_;intro x12 hm;obtain⟨q19,hm⟩:=BI hm;refine Ae0 (d:= .u x4) (r:= .u (x12/x4)) (fun h=>q19) ?_;obtain⟨x13,q20,hm⟩:=Ae hm;refine oB q20 fun x14 q21 q20=>gjU 2 (fun(_:Unit)=>⟨[(2,.d (.u (K8 a2 ((toU x3).toNat)))),(8,.d (.u (toU x3))),(14,.d (.u x8)),(15,.d (.u x9)),(17,.d (.u x12)),(18,.d (.u x14))],[],[],0⟩) (fun _=>True) (fun Jp bk6=> ?_) fun _ _=> ?_
 ·refine gI q21 (fun(p_0,p_1)=>⟨[(2,.d (.u (K8 a2 ((toU x3).toNat)))),(8,.d (.u (toU x3))),(9,.d (.u x4)),(10,.d (.u x5)),(14,.d (.u x8)),(15,.d (.u x9)),(16,.d (.u p_0)),(17,.d (.u x12)),(18,.d (.u p_1))],[],[],0⟩) fun s2 _ Jl q24 bl2=>gi q24 ?_ ?_<;>intro _ q24
  ·refine gi q24 ?_ ?_<;>intro _ q24
   ·obtain rfl:=nR bl2 q24;exact gb bk6 hd () trivial
   exact gN bl2 q24
  obtain rfl:=nR bl2 q24;exact gb bk6 hd () trivial
 obtain rfl:=AlC q20;refine bE hm ?_;intro _ hm;exact AlC hm▸gE
def Hx (a0:UInt64)(a1:UInt64)(a2:UInt64):Option UInt64:=if a2≠0 then Ab (IS (a0%a2) a1 a2) fun x1=>some x1.2 else none
theorem P2 {a0 a1 a2 r}(hm:Hx a0 a1 a2=some r):Sf prog 319 [.d (.u a0),.d (.u a1),.d (.u a2)] (.d (.u r)):=by
 refine sq ?_;intros;unfold Hx at hm;obtain⟨q1,hm⟩:=BI hm;refine Ae0 (d:= .u a2) (r:= .u (a0%a2)) (fun h=>q1)<|gA hm P3 fun _ q2 hm=> ?_;exact AlC hm▸gE
def C2 (a0:UInt64)(a1:UInt64)(a2:UInt64):Option UInt64:=Ab (IQ a1 a2) fun x1=>Ab (Hx x1.1 x1.2 a0) fun x2=>some x2
theorem Gg {a0 a1 a2 r}(hm:C2 a0 a1 a2=some r):Sf prog 260 [.d (.u a0),.d (.u a1),.d (.u a2)] (.d (.u r)):=by
 refine sq ?_;intros;refine gA hm Mz fun _ q1 hm=>gA hm P2 fun _ q2 hm=> ?_;exact AlC hm▸gE
def Dj {σ:Type}(p0:σ→Bool→Option (Bool×σ))(k0:UInt64)(s1:Int×σ):Option ((Int×σ)⊕((σ)⊕(UInt64×σ))):=if(decide (s1.1≥0))=true then if(0:Int)≤s1.1 then Ab (p0 s1.2 (((k0&&&(K8 1 s1.1.toNat)).toNat:Int) !=0)) fun x4=>if(!x4.1)=true then some (.inr (.inr (k0,x4.2)))else some (.inl ((w64 (s1.1-1)),x4.2))else none else some (.inr (.inl s1.2))
def Iq {σ:Type}(p0:σ→Bool→Option (Bool×σ))(k0:UInt64)(s0:σ):Option (UInt64×σ):=Ab (Ga k0) fun x1=>Ab (iter (Dj p0 k0) Fx ((w64 (x1-1)),s0)) fun x2=>match x2 with| .inr r=>some r| .inl y1=>some (k0,y1)
theorem Pp {σ:Type}{p0:σ→Bool→Option (Bool×σ)}{k0 s0 r}(hm:Iq p0 k0 s0=some r)(g:Value)(R:σ→Mem→Ow)(hcb:Z4 prog g (fun x=> [.d (.t x)]) R p0):Sp prog 373 [.ow 0,.pb 1 0] [.hp 0 (.cb g σ R s0),.box 1 [.d (.u k0)] 32] 2 (is (.tup []) [.hp 0 (.cb g σ R r.2),.box 1 [.d (.u r.1)] 32] 2):=by
 refine sq ?_;intros;refine gA hm MA fun _ q1 hm=>oB hm fun _ q2 hm=>gI q2 (fun(p_0,p_1)=>⟨[(0,.ow 0),(1,.pb 1 0),(3,.d (.i p_0))],[(0,.box 1 [.d (.u k0)] 32),(1,.hp 0 (.cb g σ R p_1))],[],2⟩) fun s1 _ Jl q5 bl1=>gi q5 ?_ ?_<;>intro _ q5
 ·obtain⟨q7,q5⟩:=BI q5;refine gsh (r:= .u (K8 1 s1.1.toNat)) (fun h=>q7)<|oB q5 fun _ q8 q5=>gcb (((k0&&&(K8 1 s1.1.toNat)).toNat:Int) !=0) hcb q8<|gi q5 ?_ ?_<;>intro _ q5
  ·obtain rfl:=nR bl1 q5;exact AlC hm▸gE
  exact gN bl1 q5
 obtain rfl:=nR bl1 q5;let y1:=s1.2;exact AlC hm▸gE
def JZ (a0:UInt64):Option UInt64:=some a0
theorem Q8 {a0 r}(hm:JZ a0=some r):Sp prog 338 [.d (.u a0)] [] 0 (is (.fn (.func 373) [] [.pb 0 0]) [.box 0 [.d (.u r)] 32] 1):=by
 refine sq ?_;intros;exact AlC hm▸gE
def CW (a1:UInt64)(b6:Bool)(s1:UInt64):Option (UInt64):=Ab (C2 2305843009213691579 s1 s1) fun x3=>if b6=true then Ab (C2 2305843009213691579 x3 a1) fun x4=>some x4 else some x3
def EW (a1:UInt64)(a2:UInt64):Option UInt64:=Ab (JZ a2) fun x1=>Ab (Iq (fun(s:UInt64) (b0:Bool)=>Ab (CW a1 b0 s) fun y=>some (true,y)) x1 1) fun x2=>some x2.2
theorem NU {a1 a2 r}(hm:EW a1 a2=some r):Sf prog 282 [.fn (.func 260) [.d (.u 2305843009213691579)] [],.d (.u a1),.d (.u a2)] (.d (.u r)):=
 spR call282 func282 rfl ntmps282 rfl fun D0 As η0 m0 hD hd=>by
  unfold EW at hm;refine gD hm Q8 fun x1 q1 hm=>oB hm fun x2 q2 hm=>M4 hD (n0:=0) 4 4 [⟨3,3,32,[.d (.u x1)],[.d (.u x2.1)]⟩] (gt:=10) (ps:=[11]) [(3,.pb 0 0),(4,.pb 1 0),(7,.pb 2 0),(10,.fn (.func 373) [] [.pb 3 0])] (fun(y1:UInt64)=> [(0,.box 2 [.d (.u y1)] 32),(1,.box 1 [.d (.u a1)] 32),(2,.box 0 [.fn (.func 260) [.d (.u 2305843009213691579)] []] 248)]) (fun(_:Unit)=> []) (fun x=> [.d (.t x)]) (fun(s1:UInt64) (b6:Bool)=>⟨[(3,.pb 0 0),(4,.pb 1 0),(7,.pb 2 0),(8,.d (.t b6)),(10,.fn (.func 373) [] [.pb 3 0])],[(0,.box 2 [.d (.u s1)] 32),(1,.box 1 [.d (.u a1)] 32),(2,.box 0 [.fn (.func 260) [.d (.u 2305843009213691579)] []] 248)],[],4⟩) (pN fun x s=>CW a1 x s) 1 hd (via Sum.inl hyN rfl fun g R h=>Pp q2 g R h) rfl (fun _=>rfl) (fun _=>rfl) (fun _=>rfl) (fun _=>rfl) ?_ ?_ ?_ ?_
  ·intro s1 b6 s' hp l D0 As η0 m0 hd Ja ba;exact gb ba hd () trivial
  ·intro s1 b6 s' hp l D0 As η0 m0 hd Jb bb Jr br;obtain⟨z1,q3,hp⟩:=AlN.1 hp;subst hp;unfold CW at q3;refine gA q3 Gg fun x3 q4 q3=>gi q3 ?_ ?_<;>intro _ q3
   ·refine gA q3 Gg fun x4 q5 q3=> ?_;obtain rfl:=AlC q3;exact gb bb hd x4 rfl
   obtain rfl:=AlC q3;exact gb bb hd x3 rfl
  ·intro x hx;have hx:=Sum.inl.inj hx;subst hx;exact AlC hm▸gE
  intro y hy;cases hy
def Dt (a0:UInt64)(a1:UInt64):Option UInt64:=Ab (EW a0 a1) fun x1=>some x1
theorem Mq {a0 a1 r}(hm:Dt a0 a1=some r):Sf prog 213 [.d (.u a0),.d (.u a1)] (.d (.u r)):=by
 refine sq ?_;intros;refine gA hm NU fun _ q1 hm=> ?_;exact AlC hm▸gE
def Dh (a0:UInt64):Option Bool:=Ab (gu ((decide ((a0.toNat:Int)>0))&&(decide ((a0.toNat:Int)<2305843009213691579))) (Dt a0 1152921504606845789)) fun x1=>bnd ((((decide ((a0.toNat:Int)>0))&&(decide ((a0.toNat:Int)<2305843009213691579)))&&((x1.toNat:Int)==1))) fun x2=>some x2
theorem NV {a0 r}(hm:Dh a0=some r):Sf prog 133 [.d (.u a0)] (.d (.t r)):=by
 refine sq ?_;intros;refine oB hm fun _ q1 hm=>gcH q1 Mq<|bE hm ?_;intro _ hm;exact AlC hm▸gE
def Ea (a0:UInt64):Option UInt64:=Ab (Dt 4 a0) fun x1=>some x1
theorem Lz {a0 r}(hm:Ea a0=some r):Sf prog 162 [.d (.u a0)] (.d (.u r)):=by
 refine sq ?_;intros;refine gA hm Mq fun _ q1 hm=> ?_;exact AlC hm▸gE
def Jj (a1:UInt64)(s1:(List UInt8)×Int):Option (((List UInt8)×Int)⊕((List UInt8))):=if(decide (s1.2≥0))=true then if(0:Int)≤(w64 (8*s1.2))then Ab (app 1 s1.1 ([(toB ((Ev a1 ((w64 (8*s1.2)).toNat)).toNat:Int))]:List UInt8)) fun x4=>some (.inl (x4,(w64 (s1.2-1))))else none else some (.inr s1.1)
def Gv (a0:List UInt8)(a1:UInt64)(a2:Int):Option (List UInt8):=Ab (Ab (iter (Jj a1) Fx (a0,(w64 (a2-1)))) fun x2=>some x2) fun x1=>some x1
theorem Tl {a0 a1 a2 r}(hm:Gv a0 a1 a2=some r):Sp prog 241 [.ow 0,.d (.u a1),.d (.i a2)] [.row 0 1 _ eB a0] 1 (is (.ow 1) [.row 1 1 _ eB r] 2):=by
 refine sq ?_;intros;unfold Gv at hm;obtain⟨x1,q1,hm⟩:=Ae hm;refine oB q1 fun x2 q2 q1=>gI q2 (fun(p_0,p_1)=>⟨[(0,.ow 1),(1,.d (.u a1)),(2,.d (.i p_1))],[(0,.row 1 1 _ eB p_0)],[],2⟩) fun s1 _ Jl q5 bl1=>gi q5 ?_ ?_<;>intro _ q5
 ·obtain⟨q7,q5⟩:=BI q5;exact gsh (r:= .u (Ev a1 ((w64 (8*s1.2)).toNat))) (fun h=>q7)<|gq eB 1 [(toB ((Ev a1 ((w64 (8*s1.2)).toNat)).toNat:Int))]<|oB q5 fun _ q8 q5=>gp eB 1 q8<|gN bl1 q5
 obtain rfl:=nR bl1 q5;let x2:=s1.1;obtain rfl:=AlC q1;exact AlC hm▸gE
def BQ {σ:Type}(p0:σ→(List UInt8)→Option (Bool×σ))(k0:List UInt8)(k1:Int)(s1:Int×σ):Option ((Int×σ)⊕((σ)⊕((List UInt8)×Int×σ))):=if(decide (s1.1<(k0.length:Int)))=true then Ab (cut k0 s1.1 (k0.length:Int)) fun x3=>Ab (cut k0 s1.1 (w64 (s1.1+(X7 k1 (x3.length:Int))))) fun x4=>Ab (p0 s1.2 x4) fun x5=>if(!x5.1)=true then some (.inr (.inr (k0,k1,x5.2)))else some (.inl ((w64 (s1.1+k1)),x5.2))else some (.inr (.inl s1.2))
def DU {σ:Type}(p0:σ→(List UInt8)→Option (Bool×σ))(k0:List UInt8)(k1:Int)(s0:σ):Option ((List UInt8)×Int×σ):=Ab (iter (BQ p0 k0 k1) Fx (0,s0)) fun x1=>match x1 with| .inr r=>some r| .inl y1=>some (k0,k1,y1)
theorem Ka {σ:Type}{p0:σ→(List UInt8)→Option (Bool×σ)}{k0 k1 s0 r}(hm:DU p0 k0 k1 s0=some r)(g:Value)(R:σ→Mem→Ow)(hcb:Z4 prog g (fun x=> [sl eB x]) R p0):Sp prog 384 [.ow 0,.pb 1 0,.pb 2 0] [.hp 0 (.cb g σ R s0),.box 1 [sl eB k0] 96,.box 2 [.d (.i k1)] 3] 3 (is (.tup []) [.hp 0 (.cb g σ R r.2.2),.box 1 [.d (.sl _ eB r.1)] 96,.box 2 [.d (.i r.2.1)] 3] 3):=by
 refine sq ?_;intros;refine oB hm fun _ q1 hm=>gI q1 (fun(p_0,p_1)=>⟨[(0,.ow 0),(1,.pb 1 0),(2,.pb 2 0),(4,.d (.i p_0))],[(0,.box 1 [sl eB k0] 96),(1,.box 2 [.d (.i k1)] 3),(2,.hp 0 (.cb g σ R p_1))],[],3⟩) fun s1 _ Jl q4 bl1=>gi q4 ?_ ?_<;>intro _ q4
 ·refine oB q4 fun _ q6 q4=>gk eB 1 q6<|oB q4 fun x4 q7 q4=>gk eB 1 q7<|oB q4 fun _ q8 q4=>gcb x4 hcb q8<|gi q4 ?_ ?_<;>intro _ q4
  ·obtain rfl:=nR bl1 q4;exact AlC hm▸gE
  exact gN bl1 q4
 obtain rfl:=nR bl1 q4;let y1:=s1.2;exact AlC hm▸gE
def EC (a0:List UInt8)(a1:Int):Option ((List UInt8)×Int):=Ab (if(decide (a1<1))=true then none else some ()) fun x1=>some (a0,a1)
theorem KZ {a0 a1 r}(hm:EC a0 a1=some r):Sp prog 353 [sl eB a0,.d (.i a1)] [] 0 (is (.fn (.func 384) [] [.pb 0 0,.pb 1 0]) [.box 0 [sl eB r.1] 96,.box 1 [.d (.i r.2)] 3] 2):=by
 refine sq ?_;intros;refine oB hm fun _ q1 hm=>gi q1 (fun hc1 q1=> ?_) fun hc1 q1=> ?_
 ·cases q1
 obtain rfl:=AlC q1;exact AlC hm▸gE
def Gz (b5:List UInt8)(i1:Int)(s2:UInt64):Option (UInt64):=Ab (idx b5 (i1:Int)) fun x6=>if(0:Int)≤(w64 (8*(i1:Int)))then bnd ((s2|||(K8 (toU (x6.toNat:Int)) ((w64 (8*(i1:Int))).toNat)))) fun x7=>some x7 else none
def GA (b5:List UInt8)(s1:(List UInt64)):Option ((List UInt64)):=Ab (Ab (CX (Gz b5) b5.length 0 0) fun x4=>some x4) fun x3=>Ab (app 8 s1 ([x3]:List UInt64)) fun x8=>some x8
def Lk (a0:List UInt8):Option (List UInt64):=Ab (EC a0 7) fun x1=>Ab (DU (fun(s:(List UInt64)) (b0:List UInt8)=>Ab (GA b0 s) fun y=>some (true,y)) x1.1 x1.2 ([]:List UInt64)) fun x2=>some x2.2.2
theorem Aae {a0 r}(hm:Lk a0=some r):Sp prog 301 [sl eB a0] [] 0 (is (.ow 0) [.row 0 1 _ eU r] 1):=
 spR call301 func301 rfl ntmps301 rfl fun D0 As η0 m0 hD hd=>by
  unfold Lk at hm;refine gD hm KZ fun x1 q1 hm=>oB hm fun x2 q2 hm=>AgN eU 3 0 1<|M4 hD (n0:=0) 3 4 [⟨2,1,96,[sl eB x1.1],[sl eB x2.1]⟩,⟨3,2,3,[.d (.i x1.2)],[.d (.i x2.2.1)]⟩] (gt:=9) (ps:=[10]) [(3,.pb 0 0),(9,.fn (.func 384) [] [.pb 1 0,.pb 2 0])] (fun(y2:(List UInt64))=> [(0,.row 3 1 _ eU y2),(1,.box 0 [.ow 3] 307)]) (fun(_:Unit)=> []) (fun x=> [sl eB x]) (fun(s1:(List UInt64)) (b5:List UInt8)=>⟨[(3,.pb 0 0),(4,sl eB b5),(9,.fn (.func 384) [] [.pb 1 0,.pb 2 0])],[(0,.row 3 1 _ eU s1),(1,.box 0 [.ow 3] 307)],[],4⟩) (pN fun x s=>GA x s) ([]:List UInt64) hd (via Sum.inl hyN rfl fun g R h=>Ka q2 g R h) rfl (fun _=>rfl) (fun _=>rfl) (fun _=>rfl) (fun _=>rfl) ?_ ?_ ?_ ?_
  ·intro s1 b5 s' hp l D0 As η0 m0 hd Ja ba;exact gb ba hd () trivial
  ·intro s1 b5 s' hp l D0 As η0 m0 hd Jb bb Jr br;obtain⟨z1,q3,hp⟩:=AlN.1 hp;subst hp;unfold GA at q3;obtain⟨x3,q4,q3⟩:=Ae q3;refine oB q4 fun x4 q5 q4=>IU 2 (E:=eB) (xs:=b5) 11 fun hle1=>gF (EM _ _ _) q5 (fun p0 p=>⟨[(3,.pb 0 0),(5,.d (.u p)),(9,.fn (.func 384) [] [.pb 1 0,.pb 2 0]),(11,sl eB b5),(12,.d (.i (b5.length:Int))),(13,.d (.i p0))],[(0,.row 3 1 _ eU s1),(1,.box 0 [.ow 3] 307)],[],4⟩) fun i1 s2 Jl bl1=>cM bl1 (b5.length:Int) (fun _ q8 bl1=> ?_) fun e=> ?_
   ·unfold Gz at q8;refine oB q8 fun x6 q10 q8=>gx eB 1 q10 ?_;obtain⟨q11,q8⟩:=BI q8;refine gsh (r:= .u (K8 (toU (x6.toNat:Int)) ((w64 (8*(i1:Int))).toNat))) (fun h=>q11)<|bE q8 ?_;intro _ q8;exact gM bl1 hle1 q8
   subst e;obtain rfl:=AlC q4;let x3:=x4;refine gq eU 1 [x3]<|oB q3 fun x8 q13 q3=>gp eU 1 q13 ?_;obtain rfl:=AlC q3;exact gb bb hd x8 rfl
  ·intro x hx;have hx:=Sum.inl.inj hx;subst hx;exact AlC hm▸gE
  intro y hy;cases hy
def IP (a0:UInt64)(a1:UInt64):Option UInt64:=bnd (((a1&&&2305843009213693951)+((K8 a0 3)|||(Ev a1 61)))) fun x1=>bnd (((x1&&&2305843009213693951)+(Ev x1 61))) fun x2=>Ab (if(decide ((x2.toNat:Int)≥2305843009213693951))=true then some (x2-2305843009213693951)else some x2) fun x3=>some x3
theorem P0 {a0 a1 r}(hm:IP a0 a1=some r):Sf prog 385 [.d (.u a0),.d (.u a1)] (.d (.u r)):=by
 refine sq fun D0 As η0 m0 hd=>bE hm ?_;intro _ hm;refine bE hm ?_;intro _ hm;refine oB hm fun x3 q3 hm=>gj (fun(_:Unit)=>⟨[(5,.d (.u x3))],[],[],0⟩) (fun _=>True) (fun Jp bk1=> ?_) fun _ _=> ?_
 ·refine gi q3 ?_ ?_<;>intro _ q3
  ·obtain rfl:=AlC q3;exact gb bk1 hd () trivial
  obtain rfl:=AlC q3;exact gb bk1 hd () trivial
 exact AlC hm▸gE
def FZ (a0:UInt64):Option UInt64:=Ab (IP 0 a0) fun x1=>some x1
theorem JF {a0 r}(hm:FZ a0=some r):Sf prog 354 [.d (.u a0)] (.d (.u r)):=by
 refine sq ?_;intros;refine gA hm P0 fun _ q1 hm=> ?_;exact AlC hm▸gE
def Hk (a0:UInt64)(a1:UInt64):Option UInt64:=Ab (FZ a0) fun x1=>Ab (FZ a1) fun x2=>Ab (FZ (x1+x2)) fun x3=>some x3
theorem Ly {a0 a1 r}(hm:Hk a0 a1=some r):Sf prog 302 [.d (.u a0),.d (.u a1)] (.d (.u r)):=by
 refine sq ?_;intros;refine gA hm JF fun _ q1 hm=>gA hm JF fun _ q2 hm=>gA hm JF fun _ q3 hm=> ?_;exact AlC hm▸gE
def JV (a0:UInt64)(a1:UInt64):Option UInt64:=Ab (FZ a0) fun x1=>Ab (FZ a1) fun x2=>Ab (IQ x1 x2) fun x3=>Ab (IP x3.1 x3.2) fun x4=>some x4
theorem Q3 {a0 a1 r}(hm:JV a0 a1=some r):Sf prog 386 [.d (.u a0),.d (.u a1)] (.d (.u r)):=by
 refine sq ?_;intros;refine gA hm JF fun _ q1 hm=>gA hm JF fun _ q2 hm=>gA hm Mz fun _ q3 hm=>gA hm P0 fun _ q4 hm=> ?_;exact AlC hm▸gE
def JU (i1:Int)(s1:UInt64):Option (UInt64):=Ab (JV s1 s1) fun x4=>some x4
def E9 (a0:UInt64):Option UInt64:=Ab (Ab (CX JU 4 0 a0) fun x2=>some x2) fun x1=>Ab (JV a0 x1) fun x5=>some x5
theorem Qr {a0 r}(hm:E9 a0=some r):Sf prog 357 [.d (.u a0)] (.d (.u r)):=by
 refine sq ?_;intros;unfold E9 at hm;obtain⟨x1,q1,hm⟩:=Ae hm;refine oB q1 fun _ q2 q1=>gF (EM _ 4 _) q2 (fun p0 p=>⟨[(0,.d (.u a0)),(3,.d (.u p)),(5,.d (.i p0))],[],[],0⟩) fun i1 s1 Jl bl1=>cM bl1 (4:Int) (fun _ q5 bl1=> ?_) fun e=> ?_
 ·exact gA q5 Q3 fun _ q7 q5=>gM bl1 lk q5
 subst e;obtain rfl:=AlC q1;refine gA hm Q3 fun _ q8 hm=> ?_;exact AlC hm▸gE
def Ky (a0:Int)(a1:UInt64)(k0:Int)(k1:UInt64):Option (UInt64×Int×UInt64):=bnd ((toU (w64 ((w64 ((w64 (3*k0))+a0))+1)))) fun x1=>Ab (Hk a1 (((x1*x1)*x1)+7)) fun x2=>Ab (E9 x2) fun x3=>Ab (Hk k1 x3) fun x4=>some (x3,k0,x4)
theorem VU {a0 a1 k0 k1 r}(hm:Ky a0 a1 k0 k1=some r):Sp prog 356 [.d (.i a0),.d (.u a1),.pb 0 0,.pb 1 0] [.box 0 [.d (.i k0)] 3,.box 1 [.d (.u k1)] 32] 2 (is (.d (.u r.1)) [.box 0 [.d (.i r.2.1)] 3,.box 1 [.d (.u r.2.2)] 32] 2):=by
 refine sq ?_;intros;refine bE hm ?_;intro _ hm;refine gA hm Ly fun _ q2 hm=>gA hm Qr fun _ q3 hm=>gA hm Ly fun _ q4 hm=> ?_;exact AlC hm▸gE
def Kx (a0:Int)(a1:UInt64)(k0:UInt64):Option (UInt64×UInt64):=Ab (Hk a1 k0) fun x1=>some (x1,k0)
theorem VT {a0 a1 k0 r}(hm:Kx a0 a1 k0=some r):Sp prog 358 [.d (.i a0),.d (.u a1),.pb 0 0] [.box 0 [.d (.u k0)] 32] 1 (is (.d (.u r.1)) [.box 0 [.d (.u r.2)] 32] 1):=by
 refine sq ?_;intros;refine gA hm Ly fun _ q1 hm=> ?_;exact AlC hm▸gE
end Go.Proofs.YtnhdojckpcbjeaaGreatDoor
