/- The walks of some functions, by the executor, written by program. Conditions: none. -/
import Derived.Test.YtnhdojckpcbjeaaGreatDoorZh
set_option linter.unusedSimpArgs false
set_option linter.unusedVariables false
set_option maxHeartbeats 20000000
set_option maxRecDepth 100000
namespace Go.Proofs.YtnhdojckpcbjeaaGreatDoor
open Go Go.Gw Go.Ax Tryz
attribute [local irreducible] Go.Ax.Go
def HH (a0:List UInt8):Option Bool:=Ab (gu ((a0.length:Int)==1) (idx a0 0)) fun x1=>Ab (gu (((a0.length:Int)==1)&&(!((x1.toNat:Int)==0))) (idx a0 0)) fun x2=>bnd ((((a0.length:Int)==1)&&(((x1.toNat:Int)==0)||((x2.toNat:Int)==255)))) fun x3=>some x3
theorem T5 {a0 r}(hm:HH a0=some r):Sf prog 428 [sl eB a0] (.d (.t r)):=by
 refine sq ?_;intros;refine oB hm fun _ q1 hm=>gxG eB 1 q1<|oB hm fun _ q2 hm=>gxG eB 1 q2<|bE hm ?_;intro _ hm;exact AkY hm▸gE
def JM (a0:List UInt8):Option Bool:=if((a0.length:Int)==0)=true then some false else if((a0.length:Int)==1)=true then some true else Ab (idx a0 1) fun x1=>Ab (gu (decide ((a0.length:Int)≤8)) (idx a0 0)) fun x2=>bnd (((decide ((a0.length:Int)≤8))&&((x2.toNat:Int) !=((toB (-((shrB x1 7).toNat:Int))).toNat:Int)))) fun x3=>some x3
theorem QS {a0 r}(hm:JM a0=some r):Sf prog 299 [sl eB a0] (.d (.t r)):=by
 refine sq ?_;intros;refine gi hm ?_ ?_<;>intro _ hm
 ·exact AkY hm▸gE
 refine gi hm ?_ ?_<;>intro _ hm
 ·exact AkY hm▸gE
 refine oB hm fun _ q1 hm=>gx eB 1 q1<|oB hm fun _ q2 hm=>gxG eB 1 q2<|bE hm ?_;intro _ hm;exact AkY hm▸gE
def OM (a0:List UInt8):Option Bool:=some true
theorem T4 {a0 r}(hm:OM a0=some r):Sf prog 429 [sl eB a0] (.d (.t r)):=by
 refine sq ?_;intros;exact AkY hm▸gE
def JN (a0:UInt8):Option Bool:=bnd (((decide ((a0.toNat:Int)<32))||(decide ((a0.toNat:Int)>126)))) fun x1=>some x1
theorem QT {a0 r}(hm:JN a0=some r):Sf prog 431 [.d (.b a0)] (.d (.t r)):=by
 refine sq ?_;intros;refine bE hm ?_;intro _ hm;exact AkY hm▸gE
def AI (a0:List UInt8)(i1:Int)(s1:Unit):Option ((Unit)⊕Int):=Ab (idx a0 (i1:Int)) fun x3=>Ab (JN x3) fun x4=>if x4=true then some (.inr (i1:Int))else some (.inl ())
def CI (a0:List UInt8):Option Int:=Ab (B7 (AI a0) a0.length 0 ()) fun x1=>match x1 with| .inr r=>some r| .inl y1=>some (-1)
theorem Hm {a0 r}(hm:CI a0=some r):Sf prog 211 [sl eB a0,.fn (.func 431) [] []] (.d (.i r)):=by
 refine sq ?_;intros;refine oB hm fun _ q1 hm=>IJ 0 (E:=eB) (xs:=a0) 6 fun hle1=>gF (EN _ _ _) q1 (fun p0 _=>⟨[(0,sl eB a0),(1,.fn (.func 431) [] []),(7,.d (.i (a0.length:Int))),(8,.d (.i p0))],[],[],0⟩) fun i1 s1 Jl bl1=>cN bl1 (a0.length:Int) (fun _ q4 bl1=> ?_) fun e=> ?_
 ·refine oB q4 fun _ q6 q4=>gx eB 1 q6<|gA q4 QT fun _ q7 q4=>gi q4 ?_ ?_<;>intro _ q4
  ·obtain rfl:=nT bl1 q4;exact AkY hm▸gE
  exact gT bl1 hle1 q4
 subst e;exact AkY hm▸gE
def Cq (a0:List UInt8):Option Bool:=Ab (CI a0) fun x1=>some (decide (x1≥0))
theorem Gz {a0 r}(hm:Cq a0=some r):Sf prog 131 [sl eB a0,.fn (.func 431) [] []] (.d (.t r)):=by
 refine sq ?_;intros;refine gA hm Hm fun _ q1 hm=> ?_;exact AkY hm▸gE
def I8 (a0:List UInt8):Option Bool:=Ab (Cq a0) fun x1=>some (!x1)
theorem T3 {a0 r}(hm:I8 a0=some r):Sf prog 430 [sl eB a0] (.d (.t r)):=by
 refine sq ?_;intros;refine gA hm Gz fun _ q1 hm=> ?_;exact AkY hm▸gE
def I7 (a0:List UInt8):Option Bool:=some ((a0.length:Int)==0)
theorem T0 {a0 r}(hm:I7 a0=some r):Sf prog 432 [sl eB a0] (.d (.t r)):=by
 refine sq ?_;intros;exact AkY hm▸gE
def Hf (a0:Bool):Option Int:=if a0=true then some 0 else some 110
theorem PJ {a0 r}(hm:Hf a0=some r):Sf prog 226 [.d (.t a0)] (.d (.i r)):=by
 refine sq ?_;intros;refine gi hm ?_ ?_<;>intro _ hm
 ·exact AkY hm▸gE
 exact AkY hm▸gE
def B1 (a0:ByteArray)(a1:UInt8):Option Int:=some (Ac1 a0 a1)
theorem HU {a0 a1 r}(hm:B1 a0 a1=some r):Sf prog 400 [.d (.s a0),.d (.b a1)] (.d (.i r)):=by
 refine sq ?_;intros;refine gext (F:=Ac1) (p:=a0) (q:=a1) func407 (extIxb (by kernel_rfl) (by kernel_rfl) (by kernel_rfl) (by kernel_rfl)) ?_;exact AkY hm▸gE
def A5 (a0:ByteArray)(a1:ByteArray):Option Int:=bnd ((((a1.size:Int)==0)||(eqS a1 a0))) fun x1=>if x1=true then some 0 else if((a1.size:Int)==1)=true then Ab (idx a1.data.toList 0) fun x2=>Ab (B1 a0 x2) fun x3=>some x3 else bnd ((decide ((a1.size:Int)≥(a0.size:Int)))) fun x4=>if x4=true then some (-1)else none
theorem Fu {a0 a1 r}(hm:A5 a0 a1=some r):Sf prog 392 [.d (.s a0),.d (.s a1)] (.d (.i r)):=by
 refine sq ?_;intros;refine bE hm ?_;intro _ hm;refine gi hm ?_ ?_<;>intro _ hm
 ·exact AkY hm▸gE
 refine gi hm ?_ ?_<;>intro _ hm
 ·refine oB hm fun _ q2 hm=>Aj6 (fun _=>q2)<|gA hm HU fun _ q3 hm=> ?_;exact AkY hm▸gE
 refine bE hm ?_;intro _ hm;refine gi hm ?_ ?_<;>intro _ hm
 ·exact AkY hm▸gE
 cases hm
def Cp (a0:ByteArray)(a1:ByteArray):Option Int:=Ab (A5 a0 a1) fun x1=>some x1
theorem QJ {a0 a1 r}(hm:Cp a0 a1=some r):Sf prog 377 [.d (.s a0),.d (.s a1)] (.d (.i r)):=by
 refine sq ?_;intros;refine gA hm Fu fun _ q1 hm=> ?_;exact AkY hm▸gE
def FM (a0:ByteArray)(a1:ByteArray):Option Int:=if((a1.size:Int)==0)=true then none else if((a1.size:Int)==1)=true then Ab (idx a1.data.toList 0) fun x1=>some (cntS a0 x1)else none
theorem QK {a0 a1 r}(hm:FM a0 a1=some r):Sf prog 347 [.d (.s a0),.d (.s a1)] (.d (.i r)):=by
 refine sq ?_;intros;refine gi hm ?_ ?_<;>intro _ hm
 ·cases hm
 refine gi hm ?_ ?_<;>intro _ hm
 ·refine oB hm fun x1 q1 hm=>Aj6 (fun _=>q1)<|gext (F:=cntS) (p:=a0) (q:=x1) func376 (extCnt (by kernel_rfl) (by kernel_rfl) (by kernel_rfl) (by kernel_rfl)) ?_;exact AkY hm▸gE
 cases hm
def LA {σ:Type}(k1:ByteArray)(s1:Unit):Option ((Unit)⊕((Unit)⊕(ByteArray×ByteArray×Int×σ))):=if(decide ((k1.size:Int)>0))=true then none else some (.inr (.inl ()))
def AW {σ:Type}(p0:σ→ByteArray→Option (Bool×σ))(k0:ByteArray)(k2:Int)(s2:ByteArray×σ):Option ((ByteArray×σ)⊕((ByteArray×σ)⊕(ByteArray×ByteArray×Int×σ))):=Ab (Cp s2.1 k0) fun x5=>if(decide (x5<0))=true then some (.inr (.inl (s2.1,s2.2)))else Ab (U6 s2.1 0 (w64 (x5+k2))) fun x6=>Ab (p0 s2.2 x6) fun x7=>if(!x7.1)=true then some (.inr (.inr (k0,s2.1,k2,x7.2)))else Ab (U6 s2.1 (w64 (x5+(k0.size:Int))) (s2.1.size:Int)) fun x8=>some (.inl (x8,x7.2))
def Bx {σ:Type}(p0:σ→ByteArray→Option (Bool×σ))(k0:ByteArray)(k1:ByteArray)(k2:Int)(s0:σ):Option (ByteArray×ByteArray×Int×σ):=
 if((k0.size:Int)==0)=true then
  Ab (iter (LA k1) F7 ()) fun x1=>match x1 with
  | .inr r=>some r
  | .inl y1=>
  some (k0,k1,k2,s0)
 else
 Ab (iter (AW p0 k0 k2) F7 (k1,s0)) fun x3=>match x3 with
 | .inr r=>some r
 | .inl y3=>
 Ab (p0 y3.2 y3.1) fun x9=>
 some (k0,y3.1,k2,x9.2)
theorem Nk {σ:Type}{p0:σ→ByteArray→Option (Bool×σ)}{k0 k1 k2 s0 r}(hm:Bx p0 k0 k1 k2 s0=some r)(g:Value)(R:σ→Mem→Ow)(hcb:ZD prog g (fun x=> [.d (.s x)]) R p0):Sp prog 393 [.ow 0,.pb 1 0,.pb 2 0,.pb 3 0] [.hp 0 (.cb g σ R s0),.box 1 [.d (.s k0)] 9,.box 2 [.d (.s k1)] 9,.box 3 [.d (.i k2)] 3] 4 (is (.tup []) [.hp 0 (.cb g σ R r.2.2.2),.box 1 [.d (.s r.1)] 9,.box 2 [.d (.s r.2.1)] 9,.box 3 [.d (.i r.2.2.1)] 3] 4):=by
 refine sq ?_;intros;refine gi hm ?_ ?_<;>intro _ hm
 ·refine oB hm fun _ q1 hm=>gI q1 (fun _=>⟨[(0,.ow 0),(2,.pb 2 0)],[(0,.box 1 [.d (.s k0)] 9),(1,.box 2 [.d (.s k1)] 9),(2,.box 3 [.d (.i k2)] 3),(3,.hp 0 (.cb g σ R s0))],[],4⟩) fun s1 _ Jl q4 bl1=>gi q4 ?_ ?_<;>intro _ q4
  ·cases q4
  obtain rfl:=nR bl1 q4;exact AkY hm▸gE
 refine oB hm fun _ q6 hm=>gI q6 (fun(p_0,p_1)=>⟨[(0,.ow 0),(1,.pb 1 0),(2,.pb 2 0),(3,.pb 3 0)],[(0,.box 1 [.d (.s k0)] 9),(1,.box 2 [.d (.s p_0)] 9),(2,.box 3 [.d (.i k2)] 3),(3,.hp 0 (.cb g σ R p_1))],[],4⟩) fun s2 _ Jl q9 bl2=>gA q9 QJ fun _ q11 q9=>gi q9 ?_ ?_<;>intro _ q9
 ·obtain rfl:=nR bl2 q9;let y3:=(s2.1,s2.2);refine oB hm fun _ q15 hm=>gcb y3.1 hcb q15 ?_;exact AkY hm▸gE
 refine oB q9 fun x6 q12 q9=>Aao (fun _=>q12)<|oB q9 fun _ q13 q9=>gcb x6 hcb q13<|gi q9 ?_ ?_<;>intro _ q9
 ·obtain rfl:=nR bl2 q9;exact AkY hm▸gE
 exact oB q9 fun _ q14 q9=>Aao (fun _=>q14)<|gN bl2 q9
def Kj (a0:ByteArray)(a1:ByteArray)(a2:Int):Option (ByteArray×ByteArray×Int):=some (a1,a0,a2)
theorem Oc {a0 a1 a2 r}(hm:Kj a0 a1 a2=some r):Sp prog 378 [.d (.s a0),.d (.s a1),.d (.i a2)] [] 0 (is (.fn (.func 393) [] [.pb 0 0,.pb 1 0,.pb 2 0]) [.box 0 [.d (.s r.1)] 9,.box 1 [.d (.s r.2.1)] 9,.box 2 [.d (.i r.2.2)] 3] 3):=by
 refine sq ?_;intros;exact AkY hm▸gE
def Hx (a0:ByteArray)(a1:ByteArray):Option (ByteArray×ByteArray×Int):=Ab (Kj a0 a1 0) fun x1=>some (x1.1,x1.2.1,x1.2.2)
theorem Od {a0 a1 r}(hm:Hx a0 a1=some r):Sp prog 348 [.d (.s a0),.d (.s a1)] [] 0 (is (.fn (.func 393) [] [.pb 0 0,.pb 1 0,.pb 2 0]) [.box 0 [.d (.s r.1)] 9,.box 1 [.d (.s r.2.1)] 9,.box 2 [.d (.i r.2.2)] 3] 3):=by
 refine sq ?_;intros;refine gD hm Oc fun _ q1 hm=> ?_;exact AkY hm▸gE
def Dt (a0:Int):Option Bool:=bnd ((((decide ((97:Int)≤a0))&&(decide (a0≤122)))||((decide ((48:Int)≤a0))&&(decide (a0≤57))))) fun x1=>some x1
theorem Me {a0 r}(hm:Dt a0=some r):Sf prog 379 [.d (.r a0)] (.d (.t r)):=by
 refine sq ?_;intros;refine bE hm ?_;intro _ hm;exact AkY hm▸gE
def Dq (a0:Int):Option Bool:=Ab (gu (!(a0==45)) (Dt a0)) fun x1=>some ((a0==45)||x1)
theorem TR {a0 r}(hm:Dq a0=some r):Sf prog 380 [.d (.r a0)] (.d (.t r)):=by
 refine sq ?_;intros;refine oB hm fun _ q1 hm=>gcH q1 Me ?_;exact AkY hm▸gE
def Bi (a0:ByteArray)(s1:Nat):Option ((Nat)⊕((Nat)⊕Bool)):=if s1<a0.size then bnd (((Utf8.decode a0 s1).1:Int)) fun x3=>Ab (gu ((s1:Int)==(w64 ((a0.size:Int)-1))) (Dt x3)) fun x4=>bnd ((((s1:Int)==(w64 ((a0.size:Int)-1)))&&x4)) fun x5=>if x5=true then some (.inl (s1+(Utf8.decode a0 s1).2))else bnd (((s1:Int)==(w64 ((a0.size:Int)-1)))) fun x6=>if x6=true then some (.inr (.inr false))else Ab (gu ((s1:Int)==0) (Dt x3)) fun x7=>bnd ((((s1:Int)==0)&&(x7||(x3==95)))) fun x8=>if x8=true then some (.inl (s1+(Utf8.decode a0 s1).2))else Ab (gu (!((s1:Int)==0)) (Dq x3)) fun x9=>if(((s1:Int)==0)||(!x9))=true then some (.inr (.inr false))else some (.inl (s1+(Utf8.decode a0 s1).2))else some (.inr (.inl s1))
def Gi (a0:ByteArray):Option Bool:=if((eqS a0 (⟨#[]⟩:ByteArray))||(decide ((a0.size:Int)>16)))=true then some false else Ab (iter (Bi a0) F7 0) fun x1=>match x1 with| .inr r=>some r| .inl y1=>some true
theorem TQ {a0 r}(hm:Gi a0=some r):Sf prog 349 [.d (.s a0)] (.d (.t r)):=by
 refine sq ?_;intros;refine gi hm ?_ ?_<;>intro _ hm
 ·exact AkY hm▸gE
 refine grng a0<|oB hm fun _ q1 hm=>gI q1 (fun p=>⟨[(0,.d (.s a0)),(13,.ow 0)],[(0,.hp 0 (.it a0 p))],[],1⟩) fun s1 _ Jl q4 bl1=>gnx q4 (fun hc2 q4=> ?_) fun hc2 q4=> ?_
 ·refine gi' (b:=true) (fun _=> ?_) (fun h=>by cases h);refine bE q4 ?_;intro _ q4;refine oB q4 fun _ q7 q4=>gcH q7 Me<|bE q4 ?_;intro _ q4;refine gi q4 ?_ ?_<;>intro _ q4
  ·exact gN bl1 q4
  refine bE q4 ?_;intro _ q4;refine gi q4 ?_ ?_<;>intro _ q4
  ·obtain rfl:=nR bl1 q4;exact AkY hm▸gE
  refine oB q4 fun _ q10 q4=>gcH q10 Me<|bE q4 ?_;intro _ q4;refine gi q4 ?_ ?_<;>intro _ q4
  ·exact gN bl1 q4
  refine oB q4 fun _ q12 q4=>gcH q12 TR<|gi q4 ?_ ?_<;>intro _ q4
  ·obtain rfl:=nR bl1 q4;exact AkY hm▸gE
  exact gN bl1 q4
 refine gi' (b:=false) (fun h=>by cases h) (fun _=> ?_);obtain rfl:=nR bl1 q4;let y1:=s1;exact AkY hm▸gE
def BP (b6:ByteArray)(s1:(Unit)×Nat):Option ((Unit)×Nat):=Ab (Gi b6) fun x4=>if(!x4)=true then some ((),1)else some ((),0)
def CQ (a0:ByteArray)(a1:Int)(a2:Int):Option Bool:=Ab (gu (!(decide ((a0.size:Int)>a2))) (FM a0 (⟨#[46]⟩:ByteArray))) fun x1=>if((decide ((a0.size:Int)>a2))||(decide (x1≥a1)))=true then some false else Ab (Hx a0 (⟨#[46]⟩:ByteArray)) fun x2=>Ab (Bx (fun(s:(Unit)×Nat) (b0:ByteArray)=>if s.2=0 then Ab (BP b0 s) fun y=>some (y.2==0,y)else none) x2.1 x2.2.1 x2.2.2 ((),0)) fun x3=>if(x3.2.2.2).2=0 then some true else some false
theorem PK {a0 a1 a2 r}(hm:CQ a0 a1 a2=some r):Sf prog 292 [.d (.s a0),.d (.i a1),.d (.i a2)] (.d (.t r)):=
 spR call292 func292 rfl ntmps292 rfl fun D0 As η0 m0 hD hd=>by
  unfold CQ at hm;refine oB hm fun _ q1 hm=>gcH q1 QK<|gi hm ?_ ?_<;>intro _ hm
  ·exact AkY hm▸gE
  refine gD hm Od fun x2 q2 hm=>oB hm fun x3 q3 hm=>MP hD (n0:=0) 4 4 [⟨1,1,9,[.d (.s x2.1)],[.d (.s x3.1)]⟩,⟨2,2,9,[.d (.s x2.2.1)],[.d (.s x3.2.1)]⟩,⟨3,3,3,[.d (.i x2.2.2)],[.d (.i x3.2.2.1)]⟩] (gt:=19) (ps:=[20]) [(6,.pb 0 0),(19,.fn (.func 393) [] [.pb 1 0,.pb 2 0,.pb 3 0])] (fun(y1:Unit)=> [(0,.box 0 [.d (.t false)] 4)]) (fun(y1:(Unit)×Nat)=> [(0,.box 0 [.d (.t false)] 4)]) (fun x=> [.d (.s x)]) (fun(s1:Unit) (b6:ByteArray)=>⟨[(6,.pb 0 0),(7,.d (.s b6)),(19,.fn (.func 393) [] [.pb 1 0,.pb 2 0,.pb 3 0])],[(0,.box 0 [.d (.t false)] 4)],[],4⟩) (pJ fun x s=>BP x s) () hd (via fJ hyJ rfl fun g R h=>Nk q3 g R h) rfl (fun _=>rfl) (fun _=>rfl) (fun _=>rfl) (fun _=>rfl) ?_ ?_ ?_ ?_
  ·intro s1 b6 s' hp l D0 As η0 m0 hd Ja ba;exact gb ba hd () trivial
  ·intro s1 b6 s' hp l D0 As η0 m0 hd Jb bb Jr br;obtain⟨z1,q4,hp⟩:=Ak9.1 hp;subst hp;unfold BP at q4;dsimp only at q4;refine gA q4 TQ fun _ q5 q4=>gi q4 ?_ ?_<;>intro _ q4
   ·obtain rfl:=AkY q4;exact Age br hd ((),1) rfl
   obtain rfl:=AkY q4;exact gb bb hd () rfl
  ·intro x hx;obtain⟨hj1,rfl⟩:=Zg hx;rw[Ak3 hj1]at hm;exact AkY hm▸gE
  intro y hy;obtain⟨hj1,rfl⟩:=Zf hy;rw[Ak1 hj1]at hm;exact AkY hm▸gE
def Gj (a0:ByteArray):Option Bool:=Ab (CQ a0 8 64) fun x1=>some x1
theorem M5 {a0 r}(hm:Gj a0=some r):Sf prog 227 [.d (.s a0)] (.d (.t r)):=by
 refine sq ?_;intros;refine gA hm PK fun _ q1 hm=> ?_;exact AkY hm▸gE
def D7 (a0:ByteArray):Option Int:=Ab (Gj a0) fun x1=>Ab (Hf x1) fun x2=>some x2
theorem Oi {a0 r}(hm:D7 a0=some r):Sf prog 145 [.d (.s a0)] (.d (.i r)):=by
 refine sq ?_;intros;refine gA hm M5 fun _ q1 hm=>gA hm PJ fun _ q2 hm=> ?_;exact AkY hm▸gE
def Fx (a0:g_path_trip):Option Int:=if((((((a0.chain_.length:Int)==0)||(decide ((a0.chain_.length:Int)>4)))||(decide ((a0.roots_.length:Int)>16)))||(decide (a0.now_<0)))||(decide (a0.now_>1099511627776)))=true then some 1 else Ab (D7 a0.name_) fun x1=>some x1
theorem Oh {a0 r}(hm:Fx a0=some r):Sf prog 72 [ag (EX a0)] (.d (.i r)):=by
 refine sq ?_;intros;refine gi hm ?_ ?_<;>intro _ hm
 ·exact AkY hm▸gE
 refine gA hm Oi fun _ q1 hm=> ?_;exact AkY hm▸gE
def EW (a0:Int):Option Bool:=bnd (((decide (a0≥0))&&(decide (a0≤1099511627776)))) fun x1=>some x1
theorem Ht {a0 r}(hm:EW a0=some r):Sf prog 275 [.d (.i a0)] (.d (.t r)):=by
 refine sq ?_;intros;refine bE hm ?_;intro _ hm;exact AkY hm▸gE
def HJ (a0:g_api_Sig):Option Bool:=bnd ((decide (((QB a0.E a0.S).toNat:Int)<1152921504606845789))) fun x1=>some x1
theorem Ou {a0 r}(hm:HJ a0=some r):Sf prog 277 [ag (Lg a0)] (.d (.t r)):=by
 refine sq ?_;intros;refine bE hm ?_;intro _ hm;exact AkY hm▸gE
def BK (a0:List UInt64)(s1:UInt64×Int):Option ((UInt64×Int)⊕(UInt64)):=if(decide (s1.2<(a0.length:Int)))=true then Ab (idx a0 s1.2) fun x6=>some (.inl ((QB s1.1 x6),(w64 (s1.2+1))))else some (.inr s1.1)
def CT (a0:List UInt64):Option UInt64:=Ab (if(decide ((a0.length:Int)<1))=true then none else some ()) fun x1=>Ab (idx a0 0) fun x2=>Ab (Ab (iter (BK a0) F7 (x2,1)) fun x4=>some x4) fun x3=>some x3
theorem JZ {a0 r}(hm:CT a0=some r):Sf prog 331 [sl eU a0] (.d (.u r)):=by
 refine sq ?_;intros;refine oB hm fun _ q1 hm=>gi q1 (fun hc1 q1=> ?_) fun hc1 q1=> ?_
 ·cases q1
 obtain rfl:=AkY q1;refine oB hm fun _ q2 hm=>gx eU 1 q2 ?_;obtain⟨x3,q3,hm⟩:=Ae hm;refine oB q3 fun x4 q4 q3=>gI q4 (fun(p_0,p_1)=>⟨[(0,sl eU a0),(3,.d (.u p_0)),(4,.d (.i p_1))],[],[],0⟩) fun s1 _ Jl q7 bl1=>gi q7 ?_ ?_<;>intro _ q7
 ·exact oB q7 fun _ q9 q7=>gx eU 1 q9<|gN bl1 q7
 obtain rfl:=nR bl1 q7;let x4:=s1.1;obtain rfl:=AkY q3;exact AkY hm▸gE
def HL (a0:g_api_Promise):Option Bool:=Ab (EW a0.Log) fun x1=>Ab (gu x1 (EW a0.At)) fun x2=>Ab (gu (x1&&x2) (CT ([a0.Leaf.1,a0.Leaf.2]:List UInt64))) fun x3=>Ab (gu ((x1&&x2)&&(decide ((x3.toNat:Int)<2305843009213693951))) (HJ a0.Sig)) fun x4=>bnd ((((x1&&x2)&&(decide ((x3.toNat:Int)<2305843009213693951)))&&x4)) fun x5=>some x5
theorem QY {a0 r}(hm:HL a0=some r):Sf prog 274 [ag (Ad a0)] (.d (.t r)):=by
 refine sq ?_;intros;refine Aj7 1 [.i a0.Log,.i a0.At,.u a0.Leaf.1,.u a0.Leaf.2,.u a0.Sig.E,.u a0.Sig.S]<|gA hm Ht fun _ q1 hm=>oB hm fun _ q2 hm=>gcH q2 Ht<|gslM (k:=1) (E:=eU) ([a0.Leaf.1,a0.Leaf.2]:List UInt64) (fun _=>rfl)<|oB hm fun _ q3 hm=>gcH q3 JZ<|oB hm fun _ q4 hm=>gcH q4 Ou<|bE hm ?_;intro _ hm;exact AkY hm▸gE
def LK (a0:Int):Option Bool:=bnd (((decide (a0≤32))||(decide (a0>126)))) fun x1=>some x1
theorem T8 {a0 r}(hm:LK a0=some r):Sf prog 332 [.d (.r a0)] (.d (.t r)):=by
 refine sq ?_;intros;refine bE hm ?_;intro _ hm;exact AkY hm▸gE
def DJ (a0:ByteArray)(a2:Bool)(s1:Nat):Option ((Nat)⊕((Nat)⊕Int)):=if s1<a0.size then bnd (((Utf8.decode a0 s1).1:Int)) fun x3=>Ab (LK x3) fun x4=>if(x4==a2)=true then some (.inr (.inr (s1:Int)))else some (.inl (s1+(Utf8.decode a0 s1).2))else some (.inr (.inl s1))
def Dc (a0:ByteArray)(a2:Bool):Option Int:=Ab (iter (DJ a0 a2) F7 0) fun x1=>match x1 with| .inr r=>some r| .inl y1=>some (-1)
theorem KL {a0 a2 r}(hm:Dc a0 a2=some r):Sf prog 391 [.d (.s a0),.fn (.func 332) [] [],.d (.t a2)] (.d (.i r)):=by
 refine sq ?_;intros;refine grng a0<|oB hm fun _ q1 hm=>gI q1 (fun p=>⟨[(1,.fn (.func 332) [] []),(2,.d (.t a2)),(10,.ow 0)],[(0,.hp 0 (.it a0 p))],[],1⟩) fun s1 _ Jl q4 bl1=>gnx q4 (fun hc1 q4=> ?_) fun hc1 q4=> ?_
 ·refine gi' (b:=true) (fun _=> ?_) (fun h=>by cases h);refine bE q4 ?_;intro _ q4;refine gA q4 T8 fun _ q7 q4=>gi q4 ?_ ?_<;>intro _ q4
  ·obtain rfl:=nR bl1 q4;exact AkY hm▸gE
  exact gN bl1 q4
 refine gi' (b:=false) (fun h=>by cases h) (fun _=> ?_);obtain rfl:=nR bl1 q4;let y1:=s1;exact AkY hm▸gE
def Ey (a0:ByteArray):Option Int:=Ab (Dc a0 true) fun x1=>some x1
theorem KM {a0 r}(hm:Ey a0=some r):Sf prog 369 [.d (.s a0),.fn (.func 332) [] []] (.d (.i r)):=by
 refine sq ?_;intros;refine gA hm KL fun _ q1 hm=> ?_;exact AkY hm▸gE
def DK (a0:ByteArray):Option Bool:=Ab (Ey a0) fun x1=>some (decide (x1≥0))
theorem Jt {a0 r}(hm:DK a0=some r):Sf prog 333 [.d (.s a0),.fn (.func 332) [] []] (.d (.t r)):=by
 refine sq ?_;intros;refine gA hm KM fun _ q1 hm=> ?_;exact AkY hm▸gE
def EV (a0:ByteArray):Option Bool:=Ab (gu ((!eqS a0 (⟨#[]⟩:ByteArray))&&(decide ((a0.size:Int)≤64))) (DK a0)) fun x1=>bnd ((((!eqS a0 (⟨#[]⟩:ByteArray))&&(decide ((a0.size:Int)≤64)))&&(!x1))) fun x2=>some x2
theorem QX {a0 r}(hm:EV a0=some r):Sf prog 276 [.d (.s a0)] (.d (.t r)):=by
 refine sq ?_;intros;refine oB hm fun _ q1 hm=>gcH q1 Jt<|bE hm ?_;intro _ hm;exact AkY hm▸gE
def Bq (a0:ByteArray)(a1:ByteArray):Option Bool:=Ab (gu (decide ((a0.size:Int)≥(a1.size:Int))) (U6 a0 0 (a1.size:Int))) fun x1=>bnd (((decide ((a0.size:Int)≥(a1.size:Int)))&&(eqS x1 a1))) fun x2=>some x2
theorem HV {a0 a1 r}(hm:Bq a0 a1=some r):Sf prog 395 [.d (.s a0),.d (.s a1)] (.d (.t r)):=by
 refine sq ?_;intros;refine oB hm fun _ q1 hm=>gcutSG (fun h=>Aes h q1)<|bE hm ?_;intro _ hm;exact AkY hm▸gE
def Bt (a0:ByteArray)(a1:ByteArray):Option (ByteArray×Bool):=Ab (Bq a0 a1) fun x1=>if(!x1)=true then some (a0,false)else Ab (U6 a0 (a1.size:Int) (a0.size:Int)) fun x2=>some (x2,true)
theorem HW {a0 a1 r}(hm:Bt a0 a1=some r):Sf prog 381 [.d (.s a0),.d (.s a1)] (.tup [.d (.s r.1),.d (.t r.2)]):=by
 refine sq ?_;intros;refine gA hm HV fun _ q1 hm=>gi hm ?_ ?_<;>intro _ hm
 ·exact AkY hm▸gE
 refine oB hm fun _ q2 hm=>Aao (fun _=>q2) ?_;exact AkY hm▸gE
def Cy (a0:ByteArray)(a1:ByteArray):Option (ByteArray×Bool):=Ab (Bt a0 a1) fun x1=>some (x1.1,x1.2)
theorem NI {a0 a1 r}(hm:Cy a0 a1=some r):Sf prog 351 [.d (.s a0),.d (.s a1)] (.tup [.d (.s r.1),.d (.t r.2)]):=by
 refine sq ?_;intros;refine gA hm HW fun _ q1 hm=> ?_;exact AkY hm▸gE
def DL (a0:ByteArray):Option (ByteArray×Bool×Bool):=Ab (Gj a0) fun x1=>if x1=true then some (a0,false,true)else Ab (Cy a0 (⟨#[42,46]⟩:ByteArray)) fun x2=>Ab (gu x2.2 (CQ x2.1 7 62)) fun x3=>some (x2.1,x2.2,(x2.2&&x3))
theorem Mc {a0 r}(hm:DL a0=some r):Sf prog 296 [.d (.s a0)] (.tup [.d (.s r.1),.d (.t r.2.1),.d (.t r.2.2)]):=by
 refine sq ?_;intros;refine gA hm M5 fun _ q1 hm=>gi hm ?_ ?_<;>intro _ hm
 ·exact AkY hm▸gE
 refine gA hm NI fun _ q2 hm=>oB hm fun _ q3 hm=>gcH q3 PK ?_;exact AkY hm▸gE
def DM (a0:ByteArray):Option Int:=Ab (DL a0) fun x1=>Ab (Hf x1.2.2) fun x2=>some x2
theorem QQ {a0 r}(hm:DM a0=some r):Sf prog 279 [.d (.s a0)] (.d (.i r)):=by
 refine sq ?_;intros;refine gA hm Mc fun _ q1 hm=>gA hm PJ fun _ q2 hm=> ?_;exact AkY hm▸gE
def JQ (i1:Int)(x2:ByteArray)(s1:(List (ByteArray×Bool))):Option (((List (ByteArray×Bool)))⊕Bool):=Ab (gu (!(lkB s1 x2)) (DM x2)) fun x3=>if((lkB s1 x2)||(x3 !=0))=true then some (.inr false)else if(lkI s1 x2 0).isNone=true then some (.inl (s1++[(x2,true)]))else none
def GW (a0:List ByteArray)(a1:Int)(a2:Int):Option Bool:=Ab (DO JQ a0 0 ([]:List (ByteArray×Bool))) fun x1=>match x1 with| .inr r=>some r| .inl y1=>bnd (((decide ((a0.length:Int)≥a1))&&(decide ((a0.length:Int)≤a2)))) fun x4=>some x4
theorem Ql {a0 a1 a2 r}(hm:GW a0 a1 a2=some r):Sf prog 278 [sl eS a0,.d (.i a1),.d (.i a2),.fn (.func 279) [] []] (.d (.t r)):=by
 refine sq ?_;intros;refine gmkm<|oB hm fun _ q1 hm=>IJ 0 (E:=eS) (xs:=a0) 13 fun hle1=>gF (ER _ _ _) q1 (fun p0 p=>⟨[(0,sl eS a0),(1,.d (.i a1)),(2,.d (.i a2)),(3,.fn (.func 279) [] []),(9,.ow 0),(13,sl eS a0),(14,.d (.i (a0.length:Int))),(15,.d (.i p0)),(12,.ow 0)],[(0,.hp 0 (.mp p))],[],1⟩) fun i1 s1 Jl bl1=>cR bl1 (fun x2 _ q5 q4 bl1=> ?_) fun e=> ?_
 ·refine gx eS 1 q5<|glk s1 x2<|oB q4 fun _ q6 q4=>gcH q6 QQ<|gi q4 ?_ ?_<;>intro _ q4
  ·obtain rfl:=nT bl1 q4;exact AkY hm▸gE
  obtain⟨q7,q4⟩:=BF q4;exact gup q7<|gT bl1 hle1 q4
 subst e;let y1:=s1;refine bE hm ?_;intro _ hm;exact AkY hm▸gE
def JR (i1:Int)(x2:ByteArray)(s1:(List (ByteArray×Bool))):Option (((List (ByteArray×Bool)))⊕Bool):=Ab (gu (!(lkB s1 x2)) (D7 x2)) fun x3=>if((lkB s1 x2)||(x3 !=0))=true then some (.inr false)else if(lkI s1 x2 0).isNone=true then some (.inl (s1++[(x2,true)]))else none
def GX (a0:List ByteArray)(a1:Int)(a2:Int):Option Bool:=Ab (DO JR a0 0 ([]:List (ByteArray×Bool))) fun x1=>match x1 with| .inr r=>some r| .inl y1=>bnd (((decide ((a0.length:Int)≥a1))&&(decide ((a0.length:Int)≤a2)))) fun x4=>some x4
theorem Qm {a0 a1 a2 r}(hm:GX a0 a1 a2=some r):Sf prog 278 [sl eS a0,.d (.i a1),.d (.i a2),.fn (.func 145) [] []] (.d (.t r)):=by
 refine sq ?_;intros;refine gmkm<|oB hm fun _ q1 hm=>IJ 0 (E:=eS) (xs:=a0) 13 fun hle1=>gF (ER _ _ _) q1 (fun p0 p=>⟨[(0,sl eS a0),(1,.d (.i a1)),(2,.d (.i a2)),(3,.fn (.func 145) [] []),(9,.ow 0),(13,sl eS a0),(14,.d (.i (a0.length:Int))),(15,.d (.i p0)),(12,.ow 0)],[(0,.hp 0 (.mp p))],[],1⟩) fun i1 s1 Jl bl1=>cR bl1 (fun x2 _ q5 q4 bl1=> ?_) fun e=> ?_
 ·refine gx eS 1 q5<|glk s1 x2<|oB q4 fun _ q6 q4=>gcH q6 Oi<|gi q4 ?_ ?_<;>intro _ q4
  ·obtain rfl:=nT bl1 q4;exact AkY hm▸gE
  obtain⟨q7,q4⟩:=BF q4;exact gup q7<|gT bl1 hle1 q4
 subst e;let y1:=s1;refine bE hm ?_;intro _ hm;exact AkY hm▸gE
def D5 (i1:Int)(x2:g_api_Promise)(s1:Int):Option ((Int)⊕Bool):=Ab (HL x2) fun x3=>if((!x3)||(decide (x2.Log≤s1)))=true then some (.inr false)else some (.inl x2.Log)
def I9 (a0:g_api_Cert):Option Bool:=Ab (DO D5 a0.Proms 0 (-1)) fun x1=>match x1 with| .inr r=>some r| .inl y1=>Ab (EW a0.Serial) fun x4=>Ab (gu (!(!x4)) (EW a0.From)) fun x5=>Ab (gu (!((!x4)||(!x5))) (EW a0.Until)) fun x6=>bnd (((((!x4)||(!x5))||(!x6))||(decide (a0.From≥a0.Until)))) fun x7=>if x7=true then some false else Ab (EV a0.Issuer) fun x8=>Ab (gu (!((((!x8)||((a0.Key.toNat:Int)==0))||(decide ((a0.Key.toNat:Int)≥2305843009213691579)))||(decide ((a0.Proms.length:Int)>4)))) (HJ a0.Sig)) fun x9=>bnd ((((((!x8)||((a0.Key.toNat:Int)==0))||(decide ((a0.Key.toNat:Int)≥2305843009213691579)))||(decide ((a0.Proms.length:Int)>4)))||(!x9))) fun x10=>if x10=true then some false else if a0.Ca=true then Ab (EV a0.Subject) fun x11=>Ab (gu (((x11&&((a0.Names.length:Int)==0))&&(decide (a0.Depth≥0)))&&(decide (a0.Depth≤4))) (GW a0.Permit 0 8)) fun x12=>bnd (((((x11&&((a0.Names.length:Int)==0))&&(decide (a0.Depth≥0)))&&(decide (a0.Depth≤4)))&&x12)) fun x13=>some x13 else Ab (gu (eqS a0.Subject (⟨#[]⟩:ByteArray)) (GX a0.Names 1 8)) fun x14=>bnd (((((eqS a0.Subject (⟨#[]⟩:ByteArray))&&x14)&&(a0.Depth==0))&&((a0.Permit.length:Int)==0))) fun x15=>some x15
theorem T9 {a0 r}(hm:I9 a0=some r):Sf prog 208 [ag (Ac a0)] (.d (.t r)):=by
 refine sq ?_;intros;refine oB hm fun _ q1 hm=>IJ 0 (E:=Ad) (xs:=a0.Proms) 7 fun hle1=>gF (ER _ _ _) q1 (fun p0 p=>⟨[(1,.pb 0 0),(3,.d (.i p)),(7,sl Ad a0.Proms),(8,.d (.i (a0.Proms.length:Int))),(9,.d (.i p0))],[(0,.box 0 [.d (.i a0.Serial),.d (.s a0.Issuer),.d (.s a0.Subject),.d (.u a0.Key),sl eS a0.Names,.d (.i a0.From),.d (.i a0.Until),.d (.t a0.Ca),.d (.i a0.Depth),sl eS a0.Permit,sl Ad a0.Proms,.d (.u a0.Sig.E),.d (.u a0.Sig.S)] 59)],[],1⟩) fun i1 s1 Jl bl1=>cR bl1 (fun _ _ q5 q4 bl1=> ?_) fun e=> ?_
 ·refine gx Ad 6 q5<|gA q4 QY fun _ q6 q4=>gi q4 ?_ ?_<;>intro _ q4
  ·obtain rfl:=nT bl1 q4;exact AkY hm▸gE
  exact gT bl1 hle1 q4
 subst e;let y1:=s1;refine gA hm Ht fun _ q7 hm=>oB hm fun _ q8 hm=>gcH q8 Ht<|oB hm fun _ q9 hm=>gcH q9 Ht<|bE hm ?_;intro _ hm;refine gi hm ?_ ?_<;>intro _ hm
 ·exact AkY hm▸gE
 refine gA hm QX fun _ q11 hm=>oB hm fun _ q12 hm=>gcH q12 Ou<|bE hm ?_;intro _ hm;refine gi hm ?_ ?_<;>intro _ hm
 ·exact AkY hm▸gE
 refine gi hm ?_ ?_<;>intro _ hm
 ·refine gA hm QX fun _ q14 hm=>oB hm fun _ q15 hm=>gcH q15 Ql<|bE hm ?_;intro _ hm;exact AkY hm▸gE
 refine oB hm fun _ q17 hm=>gcH q17 Qm<|bE hm ?_;intro _ hm;exact AkY hm▸gE
def MI (a0:Gs)(k0:Int):Option (Bool×Int):=some ((a0.tag_==k0),k0)
theorem VB {a0 k0 r}(hm:MI a0 k0=some r):Sp prog 371 [ag (Hi a0),.pb 0 0] [.box 0 [.d (.i k0)] 3] 1 (is (.d (.t r.1)) [.box 0 [.d (.i r.2)] 3] 1):=by
 refine sq ?_;intros;exact AkY hm▸gE
def Ao (a0:List Gs)(i1:Int)(s1:Int):Option ((Int)⊕(Int×Int)):=Ab (idx a0 (i1:Int)) fun x3=>Ab (MI x3 s1) fun x4=>if x4.1=true then some (.inr ((i1:Int),x4.2))else some (.inl x4.2)
def BR (a0:List Gs)(k0:Int):Option (Int×Int):=Ab (B7 (Ao a0) a0.length 0 k0) fun x1=>match x1 with| .inr r=>some r| .inl y1=>some ((-1),y1)
theorem Fk {a0 k0 r}(hm:BR a0 k0=some r):Sp prog 370 [sl Hi a0,.fn (.func 371) [] [.pb 0 0]] [.box 0 [.d (.i k0)] 3] 1 (is (.d (.i r.1)) [.box 0 [.d (.i r.2)] 3] 1):=by
 refine sq ?_;intros;refine oB hm fun _ q1 hm=>IJ 0 (E:=Hi) (xs:=a0) 6 fun hle1=>gF (EN _ _ _) q1 (fun p0 p=>⟨[(0,sl Hi a0),(1,.fn (.func 371) [] [.pb 0 0]),(7,.d (.i (a0.length:Int))),(8,.d (.i p0))],[(0,.box 0 [.d (.i p)] 3)],[],1⟩) fun i1 s1 Jl bl1=>cN bl1 (a0.length:Int) (fun _ q4 bl1=> ?_) fun e=> ?_
 ·refine oB q4 fun _ q6 q4=>gx Hi 2 q6<|gD q4 VB fun _ q7 q4=>gi q4 ?_ ?_<;>intro _ q4
  ·obtain rfl:=nT bl1 q4;exact AkY hm▸gE
  exact gT bl1 hle1 q4
 subst e;let y1:=s1;exact AkY hm▸gE
def Jm (a0:Int):Option (Gs×Bool):=Ab (BR tab_2 a0) fun x1=>if(decide (x1.1<0))=true then some ((⟨0,(-1)⟩:Gs),false)else Ab (idx tab_2 x1.1) fun x2=>some (x2,true)
theorem ZO {a0 r}(hm:Jm a0=some r):Sf prog 334 [.d (.i a0)] (.tup [ag (Hi r.1),.d (.t r.2)]):=by
 refine sq ?_;intros;refine gslG (k:=2) (E:=Hi) tab_2 (fun _=>rfl)<|gD hm Fk fun _ q1 hm=>gi hm ?_ ?_<;>intro _ hm
 ·exact AkY hm▸gE
 refine oB hm fun _ q2 hm=>gidG (k:=2) (E:=Hi) tab_2 (fun _=>rfl) (fun _=>q2) ?_;exact AkY hm▸gE
def QC (n:Int)(a0:List UInt8):Option Bool:=if n=299 then JM a0 else if n=428 then HH a0 else if n=429 then OM a0 else if n=430 then I8 a0 else if n=432 then I7 a0 else none
theorem AeE {n a0 r}(hm:QC n a0=some r): ∃k:Nat,n=(k:Int)∧Sf prog k [sl eB a0] (.d (.t r)):=by
 unfold QC at hm;split at hm
 ·rename_i h;exact⟨299,h,QS hm⟩
 split at hm
 ·rename_i h;exact⟨428,h,T5 hm⟩
 split at hm
 ·rename_i h;exact⟨429,h,T4 hm⟩
 split at hm
 ·rename_i h;exact⟨430,h,T3 hm⟩
 split at hm
 ·rename_i h;exact⟨432,h,T0 hm⟩
 cases hm
def MY (rF:g_api_Item→Int→Option Bool):Prop:= ∀{a0:g_api_Item} {a1:Int} {r:Bool},rF a0 a1=some r→Sf prog 280 [ag (An a0),.d (.i a1)] (.d (.t r))
def LH (rF:g_api_Item→Int→Option Bool)(a0:g_api_Item)(k0:Int):Option (Bool×Int):=Ab (rF a0 (w64 (k0-1))) fun x1=>some ((!x1),k0)
theorem TZ {rF:g_api_Item→Int→Option Bool}(hF:MY rF){a0 k0 r}(hm:LH rF a0 k0=some r):Sp prog 336 [ag (An a0),.pb 0 0] [.box 0 [.d (.i k0)] 3] 1 (is (.d (.t r.1)) [.box 0 [.d (.i r.2)] 3] 1):=by
 refine sq ?_;intros;refine gA hm hF fun _ q1 hm=> ?_;exact AkY hm▸gE
def Aw (rF:g_api_Item→Int→Option Bool)(a0:List g_api_Item)(i1:Int)(s1:Int):Option ((Int)⊕(Int×Int)):=Ab (idx a0 (i1:Int)) fun x3=>Ab ((LH rF) x3 s1) fun x4=>if x4.1=true then some (.inr ((i1:Int),x4.2))else some (.inl x4.2)
def BJ (rF:g_api_Item→Int→Option Bool)(a0:List g_api_Item)(k0:Int):Option (Int×Int):=Ab (B7 ((Aw rF) a0) a0.length 0 k0) fun x1=>match x1 with| .inr r=>some r| .inl y1=>some ((-1),y1)
theorem EI {rF:g_api_Item→Int→Option Bool}(hF:MY rF){a0 k0 r}(hm:BJ rF a0 k0=some r):Sp prog 372 [sl An a0,.fn (.func 336) [] [.pb 0 0]] [.box 0 [.d (.i k0)] 3] 1 (is (.d (.i r.1)) [.box 0 [.d (.i r.2)] 3] 1):=by
 refine sq ?_;intros;refine oB hm fun _ q1 hm=>IJ 0 (E:=An) (xs:=a0) 6 fun hle1=>gF (EN _ _ _) q1 (fun p0 p=>⟨[(0,sl An a0),(1,.fn (.func 336) [] [.pb 0 0]),(7,.d (.i (a0.length:Int))),(8,.d (.i p0))],[(0,.box 0 [.d (.i p)] 3)],[],1⟩) fun i1 s1 Jl bl1=>cN bl1 (a0.length:Int) (fun _ q4 bl1=> ?_) fun e=> ?_
 ·refine oB q4 fun _ q6 q4=>gx An 3 q6<|oB q4 fun _ q7 q4=>gco (TZ hF q7)<|gi q4 ?_ ?_<;>intro _ q4
  ·obtain rfl:=nT bl1 q4;exact AkY hm▸gE
  exact gT bl1 hle1 q4
 subst e;let y1:=s1;exact AkY hm▸gE
def AX (rF:g_api_Item→Int→Option Bool)(a0:List g_api_Item)(k0:Int):Option (Bool×Int):=Ab ((BJ rF) a0 k0) fun x1=>some ((decide (x1.1≥0)),x1.2)
theorem Es {rF:g_api_Item→Int→Option Bool}(hF:MY rF){a0 k0 r}(hm:AX rF a0 k0=some r):Sp prog 335 [sl An a0,.fn (.func 336) [] [.pb 0 0]] [.box 0 [.d (.i k0)] 3] 1 (is (.d (.t r.1)) [.box 0 [.d (.i r.2)] 3] 1):=by
 refine sq ?_;intros;refine oB hm fun _ q1 hm=>gco (EI hF q1) ?_;exact AkY hm▸gE
def Ia (rF:g_api_Item→Int→Option Bool)(a0:g_api_Item)(a1:Int):Option Bool:=Ab (Jm a0.Tag) fun x1=>Ab (gu (!((!x1.2)||(decide (a1<1)))) (QC x1.1.may_ a0.B)) fun x2=>if((((!x1.2)||(decide (a1<1)))||(!x2))||((a0.Tag !=48)&&(decide ((a0.L.length:Int)>0))))=true then some false else Ab ((AX rF) a0.L a1) fun x3=>some (!x3.1)
theorem W3 {rF:g_api_Item→Int→Option Bool}(hF:MY rF){a0 a1 r}(hm:Ia rF a0 a1=some r):Sf prog 280 [ag (An a0),.d (.i a1)] (.d (.t r)):=by
 refine sq ?_;intros;refine gA hm ZO fun _ q1 hm=>oB hm fun _ q2 hm=>gdynG (fun h=>AeE (Aes h q2))<|gi hm ?_ ?_<;>intro _ hm
 ·exact AkY hm▸gE
 refine oB hm fun _ q3 hm=>gco (Es hF q3) ?_;exact AkY hm▸gE
def Iy:Nat→g_api_Item→Int→Option Bool
 |0,_,_=>none
 |n+1,a0,a1=>Ia (Iy n) a0 a1
def Ry (a0:g_api_Item)(a1:Int):Option Bool:=Iy F7 a0 a1
theorem SL: ∀n,MY (Iy n)
 |0=>fun hm=>by cases hm
 |n+1=>fun hm=>W3 (SL n) hm
theorem Aa5 {a0:g_api_Item}{a1:Int}{r:Bool}(hm:Ry a0 a1=some r):Sf prog 280 [ag (An a0),.d (.i a1)] (.d (.t r)):=SL F7 hm
def BA (a0:List UInt8):Option (List UInt8):=Ab (app 1 ([]:List UInt8) a0) fun x1=>some x1
theorem Hb {a0 r}(hm:BA a0=some r):Sp prog 300 [sl eB a0] [] 0 (is (.ow 0) [.row 0 1 _ eB r] 1):=by
 refine sq ?_;intros;unfold BA at hm;refine gnq eB a0 (fun he1=> ?_) ?_
 ·rw[he1]at hm;replace hm:(some ([]:List UInt8))=some _:=hm;refine RM eB 2 1 ?_;exact AkY hm▸gE
 refine Aam (k:=1) eB ([]:List UInt8) (fun _=>rfl)<|oB hm fun _ q1 hm=>gp eB 1 q1 ?_;exact AkY hm▸gE
def Sa (rF:(List UInt8)→g_api_Item→Option (List UInt8)):Prop:= ∀{a0:List UInt8} {a1:g_api_Item} {r:List UInt8},rF a0 a1=some r→Sp prog 281 [.ow 0,ag (An a1)] [.row 0 1 _ eB a0] 1 (is (.ow 1) [.row 1 1 _ eB r] 2)
def E9 (rF:(List UInt8)→g_api_Item→Option (List UInt8))(i1:Int)(x4:g_api_Item)(s1:(List UInt8)):Option ((List UInt8)):=Ab (rF s1 x4) fun x5=>some x5
def HI (rF:(List UInt8)→g_api_Item→Option (List UInt8))(a0:g_api_Item):Option (List UInt8):=Ab (BA a0.B) fun x1=>Ab (Ab (D1 (E9 rF) a0.L 0 x1) fun x3=>some x3) fun x2=>some x2
theorem QU {rF:(List UInt8)→g_api_Item→Option (List UInt8)}(hF:Sa rF){a0 r}(hm:HI rF a0=some r):Sp prog 337 [ag (An a0)] [] 0 (is (.ow 0) [.row 0 1 _ eB r] 1):=by
 refine sq ?_;intros;refine gD hm Hb fun _ q1 hm=> ?_;obtain⟨x2,q2,hm⟩:=Ae hm;refine oB q2 fun _ q3 q2=>IJ 0 (E:=An) (xs:=a0.L) 10 fun hle1=>gF (E0 _ _ _) q3 (fun p0 p=>⟨[(3,.ow 1),(10,sl An a0.L),(11,.d (.i (a0.L.length:Int))),(12,.d (.i p0)),(1,.pb 0 0)],[(0,.row 1 1 _ eB p),(1,.box 0 [.d (.i a0.Tag),sl eB a0.B,sl An a0.L] 192)],[],2⟩) fun i1 s1 Jl bl1=>c0 bl1 (fun _ _ q7 q6 bl1=> ?_) fun e=> ?_
 ·exact gx An 3 q7<|gD q6 hF fun _ q8 q6=>gM bl1 hle1 q6
 subst e;obtain rfl:=AkY q2;exact AkY hm▸gE
def LG (rF:(List UInt8)→g_api_Item→Option (List UInt8))(a0:List UInt8)(a1:g_api_Item):Option (List UInt8):=Ab ((HI rF) a1) fun x1=>Ab (app 1 a0 ([(toB a1.Tag)]:List UInt8)) fun x2=>Ab (bnd ((decide ((x1.length:Int)<128))) fun x4=>if x4=true then Ab (app 1 x2 ([(toB (x1.length:Int))]:List UInt8)) fun x5=>some x5 else bnd ((decide ((x1.length:Int)<256))) fun x6=>if x6=true then Ab (app 1 x2 ([129,(toB (x1.length:Int))]:List UInt8)) fun x7=>some x7 else Ab (app 1 x2 ([130,(toB (BB (x1.length:Int) 8)),(toB (x1.length:Int))]:List UInt8)) fun x8=>some x8) fun x3=>Ab (app 1 x3 x1) fun x9=>some x9
theorem W2 {rF:(List UInt8)→g_api_Item→Option (List UInt8)}(hF:Sa rF){a0 a1 r}(hm:LG rF a0 a1=some r):Sp prog 281 [.ow 0,ag (An a1)] [.row 0 1 _ eB a0] 1 (is (.ow 1) [.row 1 1 _ eB r] 2):=by
 refine sq fun D0 As η0 m0 hd=>oB hm fun x1 q1 hm=>gco (QU hF q1)<|gq eB 1 [(toB a1.Tag)]<|oB hm fun _ q2 hm=>gp eB 1 q2<|oB hm fun x3 q3 hm=>gjU 0 (fun(_:Unit)=>⟨[(0,.ow 3),(5,.ow 2),(3,.pb 1 0)],[(0,.row 3 1 _ eB x3),(1,.row 2 1 _ eB x1),(2,.box 1 [.d (.i a1.Tag),sl eB a1.B,sl An a1.L] 192)],[],4⟩) (fun _=>True) (fun Jp bk1=> ?_) fun _ _=> ?_
 ·refine bE q3 ?_;intro _ q3;refine gi q3 ?_ ?_<;>intro _ q3
  ·refine gq eB 1 [(toB (x1.length:Int))]<|oB q3 fun _ q5 q3=>gp eB 1 q5 ?_;obtain rfl:=AkY q3;exact gb bk1 hd () trivial
  refine bE q3 ?_;intro _ q3;refine gi q3 ?_ ?_<;>intro _ q3
  ·refine gq eB 1 [129,(toB (x1.length:Int))]<|oB q3 fun _ q7 q3=>gp eB 1 q7 ?_;obtain rfl:=AkY q3;exact gb bk1 hd () trivial
  refine gq eB 1 [130,(toB (BB (x1.length:Int) 8)),(toB (x1.length:Int))]<|oB q3 fun _ q8 q3=>gp eB 1 q8 ?_;obtain rfl:=AkY q3;exact gb bk1 hd () trivial
 refine oB hm fun _ q9 hm=>gp eB 1 q9 ?_;exact AkY hm▸gE
def Hw:Nat→(List UInt8)→g_api_Item→Option (List UInt8)
 |0,_,_=>none
 |n+1,a0,a1=>LG (Hw n) a0 a1
def Rx (a0:List UInt8)(a1:g_api_Item):Option (List UInt8):=Hw F7 a0 a1
theorem SK: ∀n,Sa (Hw n)
 |0=>fun hm=>by cases hm
 |n+1=>fun hm=>W2 (SK n) hm
theorem Aa4 {a0:List UInt8}{a1:g_api_Item}{r:List UInt8}(hm:Rx a0 a1=some r):Sp prog 281 [.ow 0,ag (An a1)] [.row 0 1 _ eB a0] 1 (is (.ow 1) [.row 1 1 _ eB r] 2):=SK F7 hm
def JO (a0:g_api_Item):Option ((List UInt8)×Int):=Ab (Ry a0 8) fun x1=>if(!x1)=true then some (([]:List UInt8),1)else Ab (Rx ([]:List UInt8) a0) fun x2=>if(decide ((x2.length:Int)>8192))=true then some (([]:List UInt8),2)else some (x2,0)
theorem QV {a0 r}(hm:JO a0=some r):Sp prog 209 [ag (An a0)] [] 0 (is (.tup [.ow 0,.d (.i r.2)]) [.row 0 1 _ eB r.1] 1):=by
 refine sq ?_;intros;refine gA hm Aa5 fun _ q1 hm=>gi hm ?_ ?_<;>intro _ hm
 ·refine RM eB 2 1 ?_;exact AkY hm▸gE
 refine oB hm fun _ q2 hm=>gco (Sp.nil0 (Aa4 q2) rfl)<|gi hm ?_ ?_<;>intro _ hm
 ·refine RM eB 2 1 ?_;exact AkY hm▸gE
 exact AkY hm▸gE
def B0 (a0:List g_api_Item):Option (List g_api_Item):=Ab (app 56 ([]:List g_api_Item) a0) fun x1=>some x1
theorem HS {a0 r}(hm:B0 a0=some r):Sp prog 298 [sl An a0] [] 0 (is (.ow 0) [.row 0 3 _ An r] 1):=by
 refine sq ?_;intros;unfold B0 at hm;refine gnq An a0 (fun he1=> ?_) ?_
 ·rw[he1]at hm;replace hm:(some ([]:List g_api_Item))=some _:=hm;refine RM An 2 3 ?_;exact AkY hm▸gE
 refine Aam (k:=3) An ([]:List g_api_Item) (fun _=>rfl)<|oB hm fun _ q1 hm=>gp An 3 q1 ?_;exact AkY hm▸gE
def GM (a0:List g_api_Item):Option g_api_Item:=Ab (B0 a0) fun x1=>some (⟨48,[],x1⟩:g_api_Item)
theorem Jw {a0 r}(hm:GM a0=some r):Sf prog 235 [sl An a0] (ag (An r)):=by
 refine sq ?_;intros;refine gD hm HS fun _ q1 hm=> ?_;exact AkY hm▸gE
def MJ (a0:Int)(i1:Int)(s1:UInt8×UInt8×UInt8×UInt8×UInt8×UInt8×UInt8×UInt8):Option (UInt8×UInt8×UInt8×UInt8×UInt8×UInt8×UInt8×UInt8):=if(0:Int)≤(w64 (56-(w64 (8*(i1:Int)))))then Ab (idx [s1.1,s1.2.1,s1.2.2.1,s1.2.2.2.1,s1.2.2.2.2.1,s1.2.2.2.2.2.1,s1.2.2.2.2.2.2.1,s1.2.2.2.2.2.2.2] (i1:Int)) fun x4=>bnd (if(i1:Int)=0 then(toB (BB a0 ((w64 (56-(w64 (8*(i1:Int))))).toNat)))else s1.1) fun x5=>bnd (if(i1:Int)=1 then(toB (BB a0 ((w64 (56-(w64 (8*(i1:Int))))).toNat)))else s1.2.1) fun x6=>bnd (if(i1:Int)=2 then(toB (BB a0 ((w64 (56-(w64 (8*(i1:Int))))).toNat)))else s1.2.2.1) fun x7=>bnd (if(i1:Int)=3 then(toB (BB a0 ((w64 (56-(w64 (8*(i1:Int))))).toNat)))else s1.2.2.2.1) fun x8=>bnd (if(i1:Int)=4 then(toB (BB a0 ((w64 (56-(w64 (8*(i1:Int))))).toNat)))else s1.2.2.2.2.1) fun x9=>bnd (if(i1:Int)=5 then(toB (BB a0 ((w64 (56-(w64 (8*(i1:Int))))).toNat)))else s1.2.2.2.2.2.1) fun x10=>bnd (if(i1:Int)=6 then(toB (BB a0 ((w64 (56-(w64 (8*(i1:Int))))).toNat)))else s1.2.2.2.2.2.2.1) fun x11=>bnd (if(i1:Int)=7 then(toB (BB a0 ((w64 (56-(w64 (8*(i1:Int))))).toNat)))else s1.2.2.2.2.2.2.2) fun x12=>some (x5,x6,x7,x8,x9,x10,x11,x12)else none
def EH (s2:(List UInt8)):Option (((List UInt8))⊕((List UInt8))):=if(decide ((s2.length:Int)>1))=true then Ab (JM s2) fun x16=>if(!x16)=true then Ab (cut s2 1 (s2.length:Int)) fun x17=>some (.inl x17)else some (.inr s2)else some (.inr s2)
def FQ (a0:Int):Option g_api_Item:=Ab (Ab (CX (MJ a0) 8 0 (0,0,0,0,0,0,0,0)) fun x2=>some (x2.1,x2.2.1,x2.2.2.1,x2.2.2.2.1,x2.2.2.2.2.1,x2.2.2.2.2.2.1,x2.2.2.2.2.2.2.1,x2.2.2.2.2.2.2.2)) fun x1=>Ab (Ab (iter EH F7 ([x1.1,x1.2.1,x1.2.2.1,x1.2.2.2.1,x1.2.2.2.2.1,x1.2.2.2.2.2.1,x1.2.2.2.2.2.2.1,x1.2.2.2.2.2.2.2]:List UInt8)) fun x14=>some x14) fun x13=>Ab (BA x13) fun x18=>some (⟨2,x18,[]⟩:g_api_Item)
theorem Jx {a0 r}(hm:FQ a0=some r):Sf prog 236 [.d (.i a0)] (ag (An r)):=by
 refine sq fun D0 As η0 m0 hd=> ?_;unfold FQ at hm;obtain⟨x1,q1,hm⟩:=Ae hm;refine oB q1 fun x2 q2 q1=>gF (EM _ 8 _) q2 (fun p0 (p_0,p_1,p_2,p_3,p_4,p_5,p_6,p_7)=>⟨[(0,.d (.i a0)),(2,.pb 0 0),(3,.pb 1 0),(6,.d (.i p0))],[(0,.box 1 [.d (.b p_0),.d (.b p_1),.d (.b p_2),.d (.b p_3),.d (.b p_4),.d (.b p_5),.d (.b p_6),.d (.b p_7)] 300),(1,.box 0 [.d (.i 0),sl eB [],sl An []] 192)],[],2⟩) fun i1 s1 Jl bl1=>cM bl1 (8:Int) (fun _ q5 bl1=> ?_) fun e=> ?_
 ·unfold MJ at q5;obtain⟨q7,q5⟩:=BF q5;refine gsh (r:= .i (BB a0 ((w64 (56-(w64 (8*(i1:Int))))).toNat))) (fun h=>q7)<|oB q5 fun _ q8 q5=>UZ (fun _=>q8)<|bE q5 ?_;intro _ q5;refine bE q5 ?_;intro _ q5;refine bE q5 ?_;intro _ q5;refine bE q5 ?_;intro _ q5;refine bE q5 ?_;intro _ q5;refine bE q5 ?_;intro _ q5;refine bE q5 ?_;intro _ q5;refine bE q5 ?_;intro _ q5;exact gstA D.b (toB (BB a0 ((w64 (56-(w64 (8*(i1:Int))))).toNat))) q8<|gM bl1 lk q5
 subst e;obtain rfl:=AkY q1;let x1:=(x2.1,x2.2.1,x2.2.2.1,x2.2.2.2.1,x2.2.2.2.2.1,x2.2.2.2.2.2.1,x2.2.2.2.2.2.2.1,x2.2.2.2.2.2.2.2);refine gslA (k:=1) eB ([x1.1,x1.2.1,x1.2.2.1,x1.2.2.2.1,x1.2.2.2.2.1,x1.2.2.2.2.2.1,x1.2.2.2.2.2.2.1,x1.2.2.2.2.2.2.2]:List UInt8) (fun _=>rfl) ?_;obtain⟨x13,q17,hm⟩:=Ae hm;refine oB q17 fun x14 q18 q17=>gjU 2 (fun(_:Unit)=>⟨[(2,.pb 0 0),(5,sl eB x14)],[(0,.box 0 [.d (.i 0),sl eB [],sl An []] 192)],[],1⟩) (fun _=>True) (fun Jp bk4=> ?_) fun _ _=> ?_
 ·refine gI q18 (fun p=>⟨[(2,.pb 0 0),(5,sl eB p)],[(0,.box 0 [.d (.i 0),sl eB [],sl An []] 192)],[],1⟩) fun s2 _ Jl q21 bl2=>gspl 22 q21 (fun hc2 q21=> ?_) fun hc2 q21=> ?_
  ·refine gA q21 QS fun _ q23 q21=>gi q21 ?_ ?_<;>intro _ q21
   ·exact oB q21 fun _ q24 q21=>gk eB 1 q24<|gN bl2 q21
   obtain rfl:=nR bl2 q21;exact gb bk4 hd () trivial
  refine gi' (b:=false) (fun h=>by cases h) (fun _=> ?_);obtain rfl:=nR bl2 q21;exact gb bk4 hd () trivial
 obtain rfl:=AkY q17;refine gD hm Hb fun _ q25 hm=> ?_;exact AkY hm▸gE
def Fi (a0:UInt64):Option g_api_Item:=Ab (FQ (w64 (a0.toNat:Int))) fun x1=>some x1
theorem H4 {a0 r}(hm:Fi a0=some r):Sf prog 238 [.d (.u a0)] (ag (An r)):=by
 refine sq ?_;intros;refine gA hm Jx fun _ q1 hm=> ?_;exact AkY hm▸gE
def Jn (a0:ByteArray):Option g_api_Item:=Ab (app 1 ([]:List UInt8) a0.data.toList) fun x1=>some (⟨12,x1,[]⟩:g_api_Item)
theorem O5 {a0 r}(hm:Jn a0=some r):Sf prog 237 [.d (.s a0)] (ag (An r)):=by
 refine sq ?_;intros;refine oB hm fun _ q1 hm=>gofS q1 ?_;exact AkY hm▸gE
def Px (a0:Bool):Option g_api_Item:=Ab (if a0=true then Ab (idx ([0]:List UInt8) 0) fun x2=>bnd (([0]:List UInt8).set (0:Int).toNat 255) fun x3=>some x3 else some ([0]:List UInt8)) fun x1=>some (⟨1,x1,[]⟩:g_api_Item)
theorem ZP {a0 r}(hm:Px a0=some r):Sf prog 240 [.d (.t a0)] (ag (An r)):=by
 refine sq fun D0 As η0 m0 hd=>Aam (k:=1) eB ([0]:List UInt8) (fun _=>rfl)<|oB hm fun x1 q1 hm=>gj (fun(_:Unit)=>⟨[(2,.pb 0 0),(3,.ow 1)],[(0,.row 1 1 _ eB x1),(1,.box 0 [.d (.i 0),sl eB [],sl An []] 192)],[],2⟩) (fun _=>True) (fun Jp bk1=> ?_) fun _ _=> ?_
 ·refine gi q1 ?_ ?_<;>intro _ q1
  ·refine oB q1 fun _ q2 q1=>J7 (E:=eB) (fun _=>q2)<|bE q1 ?_;intro _ q1;refine Aga (k:=1) (E:=eB) 255 (fun _=>rfl) q2 ?_;obtain rfl:=AkY q1;exact gb bk1 hd () trivial
  obtain rfl:=AkY q1;exact gb bk1 hd () trivial
 exact AkY hm▸gE
def Cu (i1:Int)(x3:ByteArray)(s1:(List g_api_Item)):Option ((List g_api_Item)):=Ab (Jn x3) fun x4=>Ab (app 56 s1 ([x4]:List g_api_Item)) fun x5=>some x5
def Cn (a0:List ByteArray):Option g_api_Item:=Ab (Ab (D1 Cu a0 0 ([]:List g_api_Item)) fun x2=>some x2) fun x1=>Ab (GM x1) fun x6=>some x6
theorem HY {a0 r}(hm:Cn a0=some r):Sf prog 239 [sl eS a0,.fn (.func 237) [] []] (ag (An r)):=by
 refine sq ?_;intros;unfold Cn at hm;obtain⟨x1,q1,hm⟩:=Ae hm;refine oB q1 fun _ q2 q1=>Wl 0 An 5 3<|IJ 0 (E:=eS) (xs:=a0) 8 fun hle1=>gF (E0 _ _ _) q2 (fun p0 p=>⟨[(1,.fn (.func 237) [] []),(4,.pb 0 0),(5,.ow 1),(8,sl eS a0),(9,.d (.i (a0.length:Int))),(10,.d (.i p0))],[(0,.row 1 3 _ An p),(1,.box 0 [.d (.i 0),sl eB [],sl An []] 192)],[],2⟩) fun i1 s1 Jl bl1=>c0 bl1 (fun _ _ q6 q5 bl1=> ?_) fun e=> ?_
 ·exact gx eS 1 q6<|gA q5 O5 fun x4 q7 q5=>gq An 3 [x4]<|oB q5 fun _ q8 q5=>gp An 3 q8<|gM bl1 hle1 q5
 subst e;obtain rfl:=AkY q1;refine gD hm Jw fun _ q9 hm=> ?_;exact AkY hm▸gE
def La (a0:g_api_Cert):Option g_api_Item:=Ab (FQ a0.Serial) fun x1=>Ab (Jn a0.Issuer) fun x2=>Ab (Jn a0.Subject) fun x3=>Ab (Fi a0.Key) fun x4=>Ab (Cn a0.Names) fun x5=>Ab (FQ a0.From) fun x6=>Ab (FQ a0.Until) fun x7=>Ab (Px a0.Ca) fun x8=>Ab (FQ a0.Depth) fun x9=>Ab (Cn a0.Permit) fun x10=>Ab (GM ([x1,x2,x3,x4,x5,x6,x7,x8,x9,x10]:List g_api_Item)) fun x11=>some x11
theorem SS {a0 r}(hm:La a0=some r):Sf prog 152 [ag (Ac a0)] (ag (An r)):=by
 refine sq ?_;intros;refine gA hm Jx fun x1 q1 hm=>gA hm O5 fun x2 q2 hm=>gA hm O5 fun x3 q3 hm=>gA hm H4 fun x4 q4 hm=>gA hm HY fun x5 q5 hm=>gA hm Jx fun x6 q6 hm=>gA hm Jx fun x7 q7 hm=>gA hm ZP fun x8 q8 hm=>gA hm Jx fun x9 q9 hm=> ?_;refine gA hm HY fun x10 q10 hm=>gq An 3 [x1,x2,x3,x4,x5,x6,x7,x8,x9,x10]<|gA hm Jw fun _ q11 hm=> ?_;exact AkY hm▸gE
def Jc (a0:g_api_Promise):Option g_api_Item:=Ab (FQ a0.Log) fun x1=>Ab (FQ a0.At) fun x2=>Ab (Fi a0.Leaf.1) fun x3=>Ab (Fi a0.Leaf.2) fun x4=>Ab (Fi a0.Sig.E) fun x5=>Ab (Fi a0.Sig.S) fun x6=>Ab (GM ([x1,x2,x3,x4,x5,x6]:List g_api_Item)) fun x7=>some x7
theorem Ua {a0 r}(hm:Jc a0=some r):Sf prog 308 [ag (Ad a0)] (ag (An r)):=by
 refine sq ?_;intros;refine gA hm Jx fun x1 q1 hm=>gA hm Jx fun x2 q2 hm=>gA hm H4 fun x3 q3 hm=>gA hm H4 fun x4 q4 hm=>gA hm H4 fun x5 q5 hm=>gA hm H4 fun x6 q6 hm=>gq An 3 [x1,x2,x3,x4,x5,x6]<|gA hm Jw fun _ q7 hm=> ?_;exact AkY hm▸gE
def BH (i1:Int)(x3:g_api_Promise)(s1:(List g_api_Item)):Option ((List g_api_Item)):=Ab (Jc x3) fun x4=>Ab (app 56 s1 ([x4]:List g_api_Item)) fun x5=>some x5
def B2 (a0:List g_api_Promise):Option g_api_Item:=Ab (Ab (D1 BH a0 0 ([]:List g_api_Item)) fun x2=>some x2) fun x1=>Ab (GM x1) fun x6=>some x6
theorem Jy {a0 r}(hm:B2 a0=some r):Sf prog 307 [sl Ad a0,.fn (.func 308) [] []] (ag (An r)):=by
 refine sq ?_;intros;unfold B2 at hm;obtain⟨x1,q1,hm⟩:=Ae hm;refine oB q1 fun _ q2 q1=>Wl 0 An 5 3<|IJ 0 (E:=Ad) (xs:=a0) 8 fun hle1=>gF (E0 _ _ _) q2 (fun p0 p=>⟨[(1,.fn (.func 308) [] []),(4,.pb 0 0),(5,.ow 1),(8,sl Ad a0),(9,.d (.i (a0.length:Int))),(10,.d (.i p0))],[(0,.row 1 3 _ An p),(1,.box 0 [.d (.i 0),sl eB [],sl An []] 192)],[],2⟩) fun i1 s1 Jl bl1=>c0 bl1 (fun _ _ q6 q5 bl1=> ?_) fun e=> ?_
 ·exact gx Ad 6 q6<|gA q5 Ua fun x4 q7 q5=>gq An 3 [x4]<|oB q5 fun _ q8 q5=>gp An 3 q8<|gM bl1 hle1 q5
 subst e;obtain rfl:=AkY q1;refine gD hm Jw fun _ q9 hm=> ?_;exact AkY hm▸gE
def JS (a0:g_api_Cert):Option g_api_Item:=Ab (La a0) fun x1=>Ab (B2 a0.Proms) fun x2=>Ab (GM ([x1,x2]:List g_api_Item)) fun x3=>some x3
theorem QZ {a0 r}(hm:JS a0=some r):Sf prog 250 [ag (Ac a0)] (ag (An r)):=by
 refine sq ?_;intros;refine gA hm SS fun x1 q1 hm=>gA hm Jy fun x2 q2 hm=>gq An 3 [x1,x2]<|gA hm Jw fun _ q3 hm=> ?_;exact AkY hm▸gE
def Ku (a0:g_api_Cert):Option g_api_Item:=Ab (JS a0) fun x1=>Ab (Fi a0.Sig.E) fun x2=>Ab (Fi a0.Sig.S) fun x3=>Ab (GM ([x2,x3]:List g_api_Item)) fun x4=>Ab (GM ([x1,x4]:List g_api_Item)) fun x5=>some x5
theorem VF {a0 r}(hm:Ku a0=some r):Sf prog 210 [ag (Ac a0)] (ag (An r)):=by
 refine sq ?_;intros;refine gA hm QZ fun x1 q1 hm=>gA hm H4 fun x2 q2 hm=>gA hm H4 fun x3 q3 hm=>gq An 3 [x2,x3]<|gA hm Jw fun x4 q4 hm=>gq An 3 [x1,x4]<|gA hm Jw fun _ q5 hm=> ?_;exact AkY hm▸gE
def Ck (a0:g_api_Cert):Option Int:=Ab (I9 a0) fun x1=>if(!x1)=true then some 1 else Ab (Ku a0) fun x2=>Ab (JO x2) fun x3=>if((x3.2 !=0)||(decide ((x3.1.length:Int)>2048)))=true then some 2 else some 0
theorem FK {a0 r}(hm:Ck a0=some r):Sf prog 130 [ag (Ac a0)] (.d (.i r)):=by
 refine sq ?_;intros;refine gA hm T9 fun _ q1 hm=>gi hm ?_ ?_<;>intro _ hm
 ·exact AkY hm▸gE
 refine gA hm VF fun _ q2 hm=>gD hm QV fun _ q3 hm=>gi hm ?_ ?_<;>intro _ hm
 ·exact AkY hm▸gE
 exact AkY hm▸gE
def AT (a1:Int):Option (List g_api_Cert):=Ab (if(decide (a1<0))=true then none else some ()) fun x1=>Ab (bnd ((w64 (a1-(w64 (0-((0:Nat):Int)))))) fun x3=>if(decide (x3>0))=true then if 0≤x3∧x3*168≤140737488355328∧x3≤140737488355328 then some ([]:List g_api_Cert)else none else some ([]:List g_api_Cert)) fun x2=>some x2
theorem GZ {m As w a1 r}(S:St m (As) w)(hm:AT a1=some r):
  CY Tryz.prog 228 #[.slice none 0 0,vI a1] w fun v w'=> ∃(M:Mem),m≤M∧∃(rv0:Value) (rc0:List Value),St M ((row 13 rv0 rc0 r.length)::As) w'∧v=rv0∧CB M rc0 r:=by
 unfold AT at hm;have L0:=Mem.rfl' m;refine NH (args:=[.slice none 0 0,vI a1]) Tryz.func228 rfl Tryz.ntmps228 (Ald rfl)<|AL<|Au<|E2 (v:= .slice none 0 0) rfl<|AE<|nrm ?_;obtain⟨x1,q1,hm⟩:=Ae hm;have L1:=Mem.rfl' m;refine AL<|Li [5,6,7] (fun f' w'=> ∃(M1:Mem),m≤M1∧St M1 (As) w'∧Qs f' []) ?_ ?_
 ·refine AL<|Au<|AY (v:=vI a1) rfl<|AbA (m:=a1) (n:=0) rfl rfl<|AE<|nrm<|Ip (t:=(decide (a1<0))) rfl (fun hc1=> ?_) (fun hc1=> ?_)
  ·replace q1:=ifT hc1 q1;cases q1
  replace q1:=ifF hc1 q1;refine Ft<|nrm ?_;obtain rfl:=AkY q1;exact⟨Ta,m,L1,S,trivial⟩
 rintro f1 w1 ho ⟨m1,l1,S1,ha⟩;obtain⟨u1,rfl⟩:=LO (N:=27) ho ha;replace L0:=Mem.tr L0 l1;clear S;obtain⟨x2,q2,hm⟩:=Ae hm;have L2:=Mem.rfl' m1;refine AL<|Li [0,1,8,9,10,11,12,13,14,15,16,17,18,19,20,21,22,23,24,25] (fun f' w'=> ∃(M2:Mem) (v1:Value) (c1:List Value),m1≤M2∧St M2 ((row 13 v1 c1 x2.length)::As) w'∧CB M2 c1 x2∧Qs f' [(0,v1)]) ?_ ?_
 ·refine AL<|Au<|AY (v:=vI a1) rfl<|AY (v:= .slice none 0 0) rfl<|Na rfl Tryz.underlying22<|AY (v:= .slice none 0 0) rfl<|Q8 (n:=0) rfl Tryz.underlying22<|OB (m:=0) (n:=((0:Nat):Int)) rfl rfl<|OB (m:=a1) (n:=(w64 (0-((0:Nat):Int)))) rfl rfl ?_;obtain⟨x3,q3,q2⟩:=Ad7 q2;refine E2 (v:=vI x3) (Alv (fun z=>vI z) q3.symm)<|AE<|nrm<|AL<|Au<|AY (v:=vI x3) rfl<|ZU (m:=x3) (n:=0) rfl rfl<|AE<|nrm ?_;refine Ip (t:=(decide (x3>0))) rfl (fun hc2=> ?_) (fun hc2=> ?_)
  ·replace q2:=ifT hc2 q2;refine Au<|AY (v:= .slice none 0 0) rfl<|AY (v:= .slice none 0 0) rfl<|Na rfl Tryz.underlying22<|AbF rfl Tryz.underlying22 Tryz.sizeOf59 rfl<|AY (v:=vI x3) rfl ?_;obtain⟨q4,q2⟩:=BF q2;refine AbI (bytes:=168) (sz:=13) (k:=x3) (ti:=Tryz.t59) S1 rfl rfl q4 Tryz.underlying22 Tryz.underlying3 Tryz.type59 rfl rfl rfl rfl ?_;intro v2 c2 w2 S2;replace S2:St _ ((row 13 v2 c2 x3.toNat)::As) _:=S2;clear S1;refine AY (v:= .slice none 0 0) rfl<|Q8 (n:=0) rfl Tryz.underlying22<|YB (i:=0) S2 rfl rfl Tryz.underlying22 Tryz.sizeOf59 rfl (j:=0) rfl (Int.le_refl 0) (AlP _) ?_;intro v3 S3;rw[show c2.take ((0:Int).toNat*13)=[]from by simp]at S3;have h2:CB m1 [] ([]:List g_api_Cert):=CB.nil;replace S3:St _ ((row 13 v3 [] ([]:List g_api_Cert).length)::As) _:=S3;clear S2;refine E2 (v:=v3) rfl<|AE<|nrm ?_;obtain rfl:=AkY q2;exact⟨Ta,m1,_,_,L2,S3,h2,⟨rfl,trivial⟩⟩
  replace q2:=ifF hc2 q2;refine Ft<|nrm ?_;have S4:=St.rowNil S1 13;have h3:CB m1 [] ([]:List g_api_Cert):=CB.nil;replace S4:St _ ((row 13 (.slice none 0 0) [] ([]:List g_api_Cert).length)::As) _:=S4;clear S1;obtain rfl:=AkY q2;exact⟨Ta,m1,_,_,L2,S4,h3,⟨rfl,trivial⟩⟩
 rintro f2 w3 ho ⟨m2,v1,c1,l2,S5,h1,ha⟩;obtain⟨u2,rfl⟩:=LO (N:=27) ho ha;replace L0:=Mem.tr L0 l2;clear S1;refine AL<|Au<|AY (v:=v1) rfl<|E2 (v:=v1) rfl<|AE<|nrm<|HZ<|Pt ?_;intro we hpd;replace S5:=St.pd S5 hpd;obtain rfl:=AkY hm;exact YQ [_] rfl ⟨rfl,trivial⟩ ⟨_,L0,_,_,S5,rfl,h1⟩
theorem G3 {a1 r}(hm:AT a1=some r):Sp prog 228 [.d (.v (.slice none 0 0)),.d (.i a1)] [] 0 (is (.ow 0) [.row 0 13 _ Ac r] 1):=
 gnl call228 AaJ (fun S=>GZ S hm)
def AP (i1:Int)(x3:List g_api_Cert)(s1:Int):Option (Int):=Ab (bnd ((w64 (s1+(x3.length:Int)))) fun x5=>if(decide (x5<0))=true then none else some x5) fun x4=>some x4
def A7 (i2:Int)(x9:List g_api_Cert)(s2:(List g_api_Cert)):Option ((List g_api_Cert)):=Ab (app 168 s2 x9) fun x10=>some x10
def Bm (a0:List (List g_api_Cert)):Option (List g_api_Cert):=Ab (Ab (D1 AP a0 0 0) fun x2=>some x2) fun x1=>Ab (AT x1) fun x6=>Ab (Ab (D1 A7 a0 0 x6) fun x8=>some x8) fun x7=>some x7
theorem Hp {a0 r}(hm:Bm a0=some r):Sp prog 146 [sl (eL Ac) a0] [] 0 (is (.ow 0) [.row 0 13 _ Ac r] 1):=by
 refine sq ?_;intros;unfold Bm at hm;obtain⟨x1,q1,hm⟩:=Ae hm;refine oB q1 fun _ q2 q1=>IJ 0 (E:=(eL Ac)) (xs:=a0) 9 fun hle1=>gF (E0 _ _ _) q2 (fun p0 p=>⟨[(0,sl (eL Ac) a0),(3,.d (.i p)),(9,sl (eL Ac) a0),(10,.d (.i (a0.length:Int))),(11,.d (.i p0))],[],[],0⟩) fun i1 s1 Jl bl1=>c0 bl1 (fun _ _ q6 q5 bl1=> ?_) fun e=> ?_
 ·refine oB q5 fun _ q7 q5=>gx (eL Ac) 1 q6<|bE q7 ?_;intro _ q7;refine gi q7 ?_ ?_<;>intro _ q7
  ·cases q7
  obtain rfl:=AkY q7;exact gM bl1 hle1 q5
 subst e;obtain rfl:=AkY q1;refine gD hm G3 fun _ q9 hm=> ?_;obtain⟨x7,q10,hm⟩:=Ae hm;refine oB q10 fun _ q11 q10=>IJ 2 (E:=(eL Ac)) (xs:=a0) 25 fun hle2=>gF (E0 _ _ _) q11 (fun p0 p=>⟨[(6,.ow 0),(25,sl (eL Ac) a0),(26,.d (.i (a0.length:Int))),(27,.d (.i p0))],[(0,.row 0 13 _ Ac p)],[],1⟩) fun i2 s2 Jl bl2=>c0 bl2 (fun _ _ q15 q14 bl2=> ?_) fun e=> ?_
 ·exact gx (eL Ac) 1 q15<|oB q14 fun _ q16 q14=>gp Ac 13 q16<|gM bl2 hle2 q14
 subst e;obtain rfl:=AkY q10;exact AkY hm▸gE
def EP (i1:Int)(x3:g_api_Cert)(s1:Unit):Option ((Unit)⊕Int):=Ab (Ck x3) fun x4=>if(x4 !=0)=true then some (.inr x4)else some (.inl ())
def GO (a0:g_path_trip):Option Int:=Ab (Bm ([a0.chain_,a0.roots_]:List (List g_api_Cert))) fun x1=>Ab (DO EP x1 0 ()) fun x2=>match x2 with| .inr r=>some r| .inl y1=>some 0
theorem Qa {a0 r}(hm:GO a0=some r):Sf prog 73 [ag (EX a0)] (.d (.i r)):=by
 refine sq ?_;intros;refine gq (eL Ac) 1 [a0.chain_,a0.roots_]<|gD hm Hp fun x1 q1 hm=>oB hm fun _ q2 hm=>IJ 0 (E:=Ac) (xs:=x1) 11 fun hle1=>gF (ER _ _ _) q2 (fun p0 _=>⟨[(11,sl Ac x1),(12,.d (.i (x1.length:Int))),(13,.d (.i p0)),(1,.pb 0 0)],[(0,.box 0 [sl Ac a0.roots_,sl Ac a0.chain_,.d (.s a0.name_),.d (.i a0.now_)] 124)],[],1⟩) fun i1 s1 Jl bl1=>cR bl1 (fun _ _ q6 q5 bl1=> ?_) fun e=> ?_
 ·refine gx Ac 13 q6<|gA q5 FK fun _ q7 q5=>gi q5 ?_ ?_<;>intro _ q5
  ·obtain rfl:=nT bl1 q5;exact AkY hm▸gE
  exact gT bl1 hle1 q5
 subst e;exact AkY hm▸gE
def Fw (a0:g_path_trip)(a1:g_api_Cert):Option Bool:=bnd (((decide (a1.From≤a0.now_))&&(decide (a1.Until>a0.now_)))) fun x1=>some x1
theorem Kb {a0 a1 r}(hm:Fw a0 a1=some r):Sf prog 147 [ag (EX a0),ag (Ac a1)] (.d (.t r)):=by
 refine sq ?_;intros;refine bE hm ?_;intro _ hm;exact AkY hm▸gE
def B5 (a0:List ByteArray)(a1:ByteArray)(i1:Int)(s1:Unit):Option ((Unit)⊕Int):=Ab (idx a0 (i1:Int)) fun x3=>if(eqS a1 x3)=true then some (.inr (i1:Int))else some (.inl ())
def Dn (a0:List ByteArray)(a1:ByteArray):Option Int:=Ab (B7 (B5 a0 a1) a0.length 0 ()) fun x1=>match x1 with| .inr r=>some r| .inl y1=>some (-1)
theorem IX {a0 a1 r}(hm:Dn a0 a1=some r):Sf prog 229 [sl eS a0,.d (.s a1)] (.d (.i r)):=by
 refine sq ?_;intros;refine oB hm fun _ q1 hm=>IJ 0 (E:=eS) (xs:=a0) 6 fun hle1=>gF (EN _ _ _) q1 (fun p0 _=>⟨[(0,sl eS a0),(1,.d (.s a1)),(7,.d (.i (a0.length:Int))),(8,.d (.i p0))],[],[],0⟩) fun i1 s1 Jl bl1=>cN bl1 (a0.length:Int) (fun _ q4 bl1=> ?_) fun e=> ?_
 ·refine oB q4 fun _ q6 q4=>gx eS 1 q6<|gi q4 ?_ ?_<;>intro _ q4
  ·obtain rfl:=nT bl1 q4;exact AkY hm▸gE
  exact gT bl1 hle1 q4
 subst e;exact AkY hm▸gE
def B6 (a0:List ByteArray)(a1:ByteArray):Option Bool:=Ab (Dn a0 a1) fun x1=>some (decide (x1≥0))
theorem H2 {a0 a1 r}(hm:B6 a0 a1=some r):Sf prog 148 [sl eS a0,.d (.s a1)] (.d (.t r)):=by
 refine sq ?_;intros;refine gA hm IX fun _ q1 hm=> ?_;exact AkY hm▸gE
def CO (a0:g_path_trip)(i1:Int)(s1:Bool):Option ((Bool)⊕Int):=Ab (idx a0.chain_ (i1:Int)) fun x3=>Ab (gu (!s1) (Fw a0 x3)) fun x4=>if(x3.Ca==(decide ((i1:Int)>0)))=true then some (.inl (s1||(!x4)))else some (.inr 191)
def Gf (a0:g_path_trip):Option Int:=Ab (B7 (CO a0) a0.chain_.length 0 false) fun x1=>match x1 with| .inr r=>some r| .inl y1=>Ab (idx a0.chain_ 0) fun x5=>Ab (B6 x5.Names a0.name_) fun x6=>if(!x6)=true then some 110 else if y1=true then some 190 else some 0
theorem O3 {a0 r}(hm:Gf a0=some r):Sf prog 74 [ag (EX a0)] (.d (.i r)):=by
 refine sq ?_;intros;refine oB hm fun _ q1 hm=>IJ 0 (E:=Ac) (xs:=a0.chain_) 7 fun hle1=>gF (EN _ _ _) q1 (fun p0 p=>⟨[(1,.pb 0 0),(3,.d (.t p)),(7,sl Ac a0.chain_),(8,.d (.i (a0.chain_.length:Int))),(9,.d (.i p0))],[(0,.box 0 [sl Ac a0.roots_,sl Ac a0.chain_,.d (.s a0.name_),.d (.i a0.now_)] 124)],[],1⟩) fun i1 s1 Jl bl1=>cN bl1 (a0.chain_.length:Int) (fun _ q4 bl1=> ?_) fun e=> ?_
 ·refine oB q4 fun _ q6 q4=>gx Ac 13 q6<|oB q4 fun _ q7 q4=>gcH q7 Kb<|gi q4 ?_ ?_<;>intro _ q4
  ·exact gT bl1 hle1 q4
  obtain rfl:=nT bl1 q4;exact AkY hm▸gE
 subst e;let y1:=s1;refine oB hm fun _ q8 hm=>gx Ac 13 q8<|gA hm H2 fun _ q9 hm=>gi hm ?_ ?_<;>intro _ hm
 ·exact AkY hm▸gE
 refine gi hm ?_ ?_<;>intro _ hm
 ·exact AkY hm▸gE
 exact AkY hm▸gE
def Ic (a0:g_api_Cert):Option ((List UInt8)×Int):=Ab (Ck a0) fun x1=>if(x1 !=0)=true then some (([]:List UInt8),x1)else Ab (JS a0) fun x2=>Ab (JO x2) fun x3=>some (x3.1,x3.2)
theorem Pf {a0 r}(hm:Ic a0=some r):Sp prog 151 [ag (Ac a0),.fn (.func 250) [] []] [] 0 (is (.tup [.ow 0,.d (.i r.2)]) [.row 0 1 _ eB r.1] 1):=by
 refine sq ?_;intros;refine gA hm FK fun _ q1 hm=>gi hm ?_ ?_<;>intro _ hm
 ·refine RM eB 4 1 ?_;exact AkY hm▸gE
 refine gA hm QZ fun _ q2 hm=>gD hm QV fun _ q3 hm=> ?_;exact AkY hm▸gE
def JT (a0:g_api_Cert):Option ((List UInt8)×Int):=Ab (Ic a0) fun x1=>some (x1.1,x1.2)
theorem Q0 {a0 r}(hm:JT a0=some r):Sp prog 164 [ag (Ac a0)] [] 0 (is (.tup [.ow 0,.d (.i r.2)]) [.row 0 1 _ eB r.1] 1):=by
 refine sq ?_;intros;refine gD hm Pf fun _ q1 hm=> ?_;exact AkY hm▸gE
def IH (a0:UInt64)(a1:UInt64):Option (UInt64×UInt64):=bnd (((a0&&&4294967295)*(a1&&&4294967295))) fun x1=>bnd ((((EY a0 32)*(a1&&&4294967295))+(EY x1 32))) fun x2=>bnd (((x2&&&4294967295)+((a0&&&4294967295)*(EY a1 32)))) fun x3=>bnd (((((EY a0 32)*(EY a1 32))+(EY x2 32))+(EY x3 32))) fun x4=>some (x4,(a0*a1))
theorem Mp {a0 a1 r}(hm:IH a0 a1=some r):Sf prog 304 [.d (.u a0),.d (.u a1)] (.tup [.d (.u r.1),.d (.u r.2)]):=by
 refine sq ?_;intros;refine bE hm ?_;intro _ hm;refine bE hm ?_;intro _ hm;refine bE hm ?_;intro _ hm;refine bE hm ?_;intro _ hm;exact AkY hm▸gE
def F0 (a0:UInt64):Option Int:=Ab (if(decide ((a0.toNat:Int)≥4294967296))=true then some ((EY a0 32),32)else some (a0,0)) fun x1=>Ab (if(decide ((x1.1.toNat:Int)≥65536))=true then some ((EY x1.1 16),(w64 (x1.2+16)))else some (x1.1,x1.2)) fun x2=>Ab (if(decide ((x2.1.toNat:Int)≥256))=true then some ((EY x2.1 8),(w64 (x2.2+8)))else some (x2.1,x2.2)) fun x3=>Ab (idx str_0.data.toList ((toB (x3.1.toNat:Int)).toNat:Int)) fun x4=>bnd ((w64 (x3.2+(w64 (x4.toNat:Int))))) fun x5=>some x5
theorem Mq {a0 r}(hm:F0 a0=some r):Sf prog 244 [.d (.u a0)] (.d (.i r)):=by
 refine sq fun D0 As η0 m0 hd=>oB hm fun x1 q1 hm=>gj (fun(_:Unit)=>let (y_0,y_1):=x1; ⟨[(0,.d (.u y_0)),(2,.d (.i y_1))],[],[],0⟩) (fun _=>True) (fun Jp bk1=> ?_) fun _ _=> ?_
 ·refine gi q1 ?_ ?_<;>intro _ q1
  ·obtain rfl:=AkY q1;exact gb bk1 hd () trivial
  obtain rfl:=AkY q1;exact gb bk1 hd () trivial
 refine oB hm fun x2 q2 hm=>gj (fun(_:Unit)=>let (y_0,y_1):=x2; ⟨[(0,.d (.u y_0)),(2,.d (.i y_1))],[],[],0⟩) (fun _=>True) (fun Jp bk2=> ?_) fun _ _=> ?_
 ·refine gi q2 ?_ ?_<;>intro _ q2
  ·obtain rfl:=AkY q2;exact gb bk2 hd () trivial
  obtain rfl:=AkY q2;exact gb bk2 hd () trivial
 refine oB hm fun x3 q3 hm=>gj (fun(_:Unit)=>let (y_0,y_1):=x3; ⟨[(0,.d (.u y_0)),(2,.d (.i y_1))],[],[],0⟩) (fun _=>True) (fun Jp bk3=> ?_) fun _ _=> ?_
 ·refine gi q3 ?_ ?_<;>intro _ q3
  ·obtain rfl:=AkY q3;exact gb bk3 hd () trivial
  obtain rfl:=AkY q3;exact gb bk3 hd () trivial
 refine oB hm fun _ q4 hm=>Aj6 (fun _=>q4)<|bE hm ?_;intro _ hm;exact AkY hm▸gE
def Eg (a0:UInt64):Option Int:=Ab (F0 a0) fun x1=>some (w64 (64-x1))
theorem Mr {a0 r}(hm:Eg a0=some r):Sf prog 359 [.d (.u a0)] (.d (.i r)):=by
 refine sq ?_;intros;refine gA hm Mq fun _ q1 hm=> ?_;exact AkY hm▸gE
def F4 (x4:UInt64)(x5:UInt64)(x7:UInt64)(s1:UInt64×UInt64):Option ((UInt64×UInt64)⊕(UInt64)):=if((decide ((s1.1.toNat:Int)≥4294967296))||(decide (((s1.1*x5).toNat:Int)>(((4294967296*s1.2)+x7).toNat:Int))))=true then if(decide (((s1.2+x4).toNat:Int)≥4294967296))=true then some (.inr (s1.1-1))else some (.inl ((s1.1-1),(s1.2+x4)))else some (.inr s1.1)
def F3 (x4:UInt64)(x5:UInt64)(x8:UInt64)(s2:UInt64×UInt64):Option ((UInt64×UInt64)⊕(UInt64)):=if((decide ((s2.2.toNat:Int)≥4294967296))||(decide (((s2.2*x5).toNat:Int)>(((4294967296*s2.1)+x8).toNat:Int))))=true then if(decide (((s2.1+x4).toNat:Int)≥4294967296))=true then some (.inr (s2.2-1))else some (.inl ((s2.1+x4),(s2.2-1)))else some (.inr s2.2)
def II (a0:UInt64)(a1:UInt64)(a2:UInt64):Option (UInt64×UInt64):=Ab (if((a2.toNat:Int)==0)=true then none else some ()) fun x1=>Ab (if(decide ((a2.toNat:Int)≤(a0.toNat:Int)))=true then none else some ()) fun x2=>if((a0.toNat:Int)==0)=true then if a2≠0 then if a2≠0 then some ((a1/a2),(a1%a2))else none else none else Ab (Eg a2) fun x3=>bnd ((EY (L4 a2 ((toU x3).toNat)) 32)) fun x4=>bnd (((L4 a2 ((toU x3).toNat))&&&4294967295)) fun x5=>bnd (((L4 a0 ((toU x3).toNat))|||(EY a1 ((64-(toU x3)).toNat)))) fun x6=>bnd ((EY (L4 a1 ((toU x3).toNat)) 32)) fun x7=>bnd (((L4 a1 ((toU x3).toNat))&&&4294967295)) fun x8=>if x4≠0 then Ab (Ab (iter (F4 x4 x5 x7) F7 ((x6/x4),(x6-((x6/x4)*x4)))) fun x10=>some x10) fun x9=>bnd ((((x6*4294967296)+x7)-(x9*(L4 a2 ((toU x3).toNat))))) fun x12=>if x4≠0 then Ab (Ab (iter (F3 x4 x5 x8) F7 ((x12-((x12/x4)*x4)),(x12/x4))) fun x14=>some x14) fun x13=>bnd ((EY (((x12*4294967296)+x8)-(x13*(L4 a2 ((toU x3).toNat)))) ((toU x3).toNat))) fun x16=>some (((x9*4294967296)+x13),x16)else none else none
theorem PR {a0 a1 a2 r}(hm:II a0 a1 a2=some r):Sf prog 306 [.d (.u a0),.d (.u a1),.d (.u a2)] (.tup [.d (.u r.1),.d (.u r.2)]):=by
 refine sq fun D0 As η0 m0 hd=>oB hm fun _ q1 hm=>gi q1 (fun hc1 q1=> ?_) fun hc1 q1=> ?_
 ·cases q1
 obtain rfl:=AkY q1;refine oB hm fun _ q2 hm=>gi q2 (fun hc2 q2=> ?_) fun hc2 q2=> ?_
 ·cases q2
 obtain rfl:=AkY q2;refine gi hm ?_ ?_<;>intro _ hm
 ·obtain⟨q3,hm⟩:=BF hm;refine Aeu (d:= .u a2) (r:= .u (a1/a2)) (fun h=>q3) ?_;obtain⟨q4,hm⟩:=BF hm;refine Aeu (d:= .u a2) (r:= .u (a1%a2)) (fun h=>q4) ?_;exact AkY hm▸gE
 refine gA hm Mr fun x3 q5 hm=>bE hm ?_;intro x4 hm;refine bE hm ?_;intro x5 hm;refine bE hm ?_;intro x6 hm;refine bE hm ?_;intro x7 hm;refine bE hm ?_;intro x8 hm;obtain⟨q11,hm⟩:=BF hm;refine Aeu (d:= .u x4) (r:= .u (x6/x4)) (fun h=>q11) ?_;obtain⟨x9,q12,hm⟩:=Ae hm;refine oB q12 fun x10 q13 q12=>gjU 0 (fun(_:Unit)=>⟨[(2,.d (.u (L4 a2 ((toU x3).toNat)))),(8,.d (.u (toU x3))),(9,.d (.u x4)),(10,.d (.u x5)),(11,.d (.u x6)),(13,.d (.u x7)),(14,.d (.u x8)),(15,.d (.u x10))],[],[],0⟩) (fun _=>True) (fun Jp bk4=> ?_) fun _ _=> ?_
 ·refine gI q13 (fun(p_0,p_1)=>⟨[(2,.d (.u (L4 a2 ((toU x3).toNat)))),(8,.d (.u (toU x3))),(9,.d (.u x4)),(10,.d (.u x5)),(11,.d (.u x6)),(13,.d (.u x7)),(14,.d (.u x8)),(15,.d (.u p_0)),(16,.d (.u p_1))],[],[],0⟩) fun s1 _ Jl q16 bl1=>gi q16 ?_ ?_<;>intro _ q16
  ·refine gi q16 ?_ ?_<;>intro _ q16
   ·obtain rfl:=nR bl1 q16;exact gb bk4 hd () trivial
   exact gN bl1 q16
  obtain rfl:=nR bl1 q16;exact gb bk4 hd () trivial
 obtain rfl:=AkY q12;let x9:=x10;refine bE hm ?_;intro x12 hm;obtain⟨q19,hm⟩:=BF hm;refine Aeu (d:= .u x4) (r:= .u (x12/x4)) (fun h=>q19) ?_;obtain⟨x13,q20,hm⟩:=Ae hm;refine oB q20 fun x14 q21 q20=>gjU 2 (fun(_:Unit)=>⟨[(2,.d (.u (L4 a2 ((toU x3).toNat)))),(8,.d (.u (toU x3))),(14,.d (.u x8)),(15,.d (.u x9)),(17,.d (.u x12)),(18,.d (.u x14))],[],[],0⟩) (fun _=>True) (fun Jp bk6=> ?_) fun _ _=> ?_
 ·refine gI q21 (fun(p_0,p_1)=>⟨[(2,.d (.u (L4 a2 ((toU x3).toNat)))),(8,.d (.u (toU x3))),(9,.d (.u x4)),(10,.d (.u x5)),(14,.d (.u x8)),(15,.d (.u x9)),(16,.d (.u p_0)),(17,.d (.u x12)),(18,.d (.u p_1))],[],[],0⟩) fun s2 _ Jl q24 bl2=>gi q24 ?_ ?_<;>intro _ q24
  ·refine gi q24 ?_ ?_<;>intro _ q24
   ·obtain rfl:=nR bl2 q24;exact gb bk6 hd () trivial
   exact gN bl2 q24
  obtain rfl:=nR bl2 q24;exact gb bk6 hd () trivial
 obtain rfl:=AkY q20;refine bE hm ?_;intro _ hm;exact AkY hm▸gE
def Hh (a0:UInt64)(a1:UInt64)(a2:UInt64):Option UInt64:=if a2≠0 then Ab (II (a0%a2) a1 a2) fun x1=>some x1.2 else none
theorem PQ {a0 a1 a2 r}(hm:Hh a0 a1 a2=some r):Sf prog 319 [.d (.u a0),.d (.u a1),.d (.u a2)] (.d (.u r)):=by
 refine sq ?_;intros;unfold Hh at hm;obtain⟨q1,hm⟩:=BF hm;refine Aeu (d:= .u a2) (r:= .u (a0%a2)) (fun h=>q1)<|gA hm PR fun _ q2 hm=> ?_;exact AkY hm▸gE
def C3 (a0:UInt64)(a1:UInt64)(a2:UInt64):Option UInt64:=Ab (IH a1 a2) fun x1=>Ab (Hh x1.1 x1.2 a0) fun x2=>some x2
theorem F9 {a0 a1 a2 r}(hm:C3 a0 a1 a2=some r):Sf prog 260 [.d (.u a0),.d (.u a1),.d (.u a2)] (.d (.u r)):=by
 refine sq ?_;intros;refine gA hm Mp fun _ q1 hm=>gA hm PQ fun _ q2 hm=> ?_;exact AkY hm▸gE
def Dl {σ:Type}(p0:σ→Bool→Option (Bool×σ))(k0:UInt64)(s1:Int×σ):Option ((Int×σ)⊕((σ)⊕(UInt64×σ))):=if(decide (s1.1≥0))=true then if(0:Int)≤s1.1 then Ab (p0 s1.2 (((k0&&&(L4 1 s1.1.toNat)).toNat:Int) !=0)) fun x4=>if(!x4.1)=true then some (.inr (.inr (k0,x4.2)))else some (.inl ((w64 (s1.1-1)),x4.2))else none else some (.inr (.inl s1.2))
def Ib {σ:Type}(p0:σ→Bool→Option (Bool×σ))(k0:UInt64)(s0:σ):Option (UInt64×σ):=Ab (F0 k0) fun x1=>Ab (iter (Dl p0 k0) F7 ((w64 (x1-1)),s0)) fun x2=>match x2 with| .inr r=>some r| .inl y1=>some (k0,y1)
theorem O7 {σ:Type}{p0:σ→Bool→Option (Bool×σ)}{k0 s0 r}(hm:Ib p0 k0 s0=some r)(g:Value)(R:σ→Mem→Ow)(hcb:ZD prog g (fun x=> [.d (.t x)]) R p0):Sp prog 373 [.ow 0,.pb 1 0] [.hp 0 (.cb g σ R s0),.box 1 [.d (.u k0)] 32] 2 (is (.tup []) [.hp 0 (.cb g σ R r.2),.box 1 [.d (.u r.1)] 32] 2):=by
 refine sq ?_;intros;refine gA hm Mq fun _ q1 hm=>oB hm fun _ q2 hm=>gI q2 (fun(p_0,p_1)=>⟨[(0,.ow 0),(1,.pb 1 0),(3,.d (.i p_0))],[(0,.box 1 [.d (.u k0)] 32),(1,.hp 0 (.cb g σ R p_1))],[],2⟩) fun s1 _ Jl q5 bl1=>gi q5 ?_ ?_<;>intro _ q5
 ·obtain⟨q7,q5⟩:=BF q5;refine gsh (r:= .u (L4 1 s1.1.toNat)) (fun h=>q7)<|oB q5 fun _ q8 q5=>gcb (((k0&&&(L4 1 s1.1.toNat)).toNat:Int) !=0) hcb q8<|gi q5 ?_ ?_<;>intro _ q5
  ·obtain rfl:=nR bl1 q5;exact AkY hm▸gE
  exact gN bl1 q5
 obtain rfl:=nR bl1 q5;let y1:=s1.2;exact AkY hm▸gE
def JP (a0:UInt64):Option UInt64:=some a0
theorem QW {a0 r}(hm:JP a0=some r):Sp prog 338 [.d (.u a0)] [] 0 (is (.fn (.func 373) [] [.pb 0 0]) [.box 0 [.d (.u r)] 32] 1):=by
 refine sq ?_;intros;exact AkY hm▸gE
def CW (a1:UInt64)(b6:Bool)(s1:UInt64):Option (UInt64):=Ab (C3 2305843009213691579 s1 s1) fun x3=>if b6=true then Ab (C3 2305843009213691579 x3 a1) fun x4=>some x4 else some x3
def ET (a1:UInt64)(a2:UInt64):Option UInt64:=Ab (JP a2) fun x1=>Ab (Ib (fun(s:UInt64) (b0:Bool)=>Ab (CW a1 b0 s) fun y=>some (true,y)) x1 1) fun x2=>some x2.2
theorem NN {a1 a2 r}(hm:ET a1 a2=some r):Sf prog 282 [.fn (.func 260) [.d (.u 2305843009213691579)] [],.d (.u a1),.d (.u a2)] (.d (.u r)):=
 spR call282 func282 rfl ntmps282 rfl fun D0 As η0 m0 hD hd=>by
  unfold ET at hm;refine gD hm QW fun x1 q1 hm=>oB hm fun x2 q2 hm=>MP hD (n0:=0) 4 4 [⟨3,3,32,[.d (.u x1)],[.d (.u x2.1)]⟩] (gt:=10) (ps:=[11]) [(3,.pb 0 0),(4,.pb 1 0),(7,.pb 2 0),(10,.fn (.func 373) [] [.pb 3 0])] (fun(y1:UInt64)=> [(0,.box 2 [.d (.u y1)] 32),(1,.box 1 [.d (.u a1)] 32),(2,.box 0 [.fn (.func 260) [.d (.u 2305843009213691579)] []] 248)]) (fun(_:Unit)=> []) (fun x=> [.d (.t x)]) (fun(s1:UInt64) (b6:Bool)=>⟨[(3,.pb 0 0),(4,.pb 1 0),(7,.pb 2 0),(8,.d (.t b6)),(10,.fn (.func 373) [] [.pb 3 0])],[(0,.box 2 [.d (.u s1)] 32),(1,.box 1 [.d (.u a1)] 32),(2,.box 0 [.fn (.func 260) [.d (.u 2305843009213691579)] []] 248)],[],4⟩) (pN fun x s=>CW a1 x s) 1 hd (via Sum.inl hyN rfl fun g R h=>O7 q2 g R h) rfl (fun _=>rfl) (fun _=>rfl) (fun _=>rfl) (fun _=>rfl) ?_ ?_ ?_ ?_
  ·intro s1 b6 s' hp l D0 As η0 m0 hd Ja ba;exact gb ba hd () trivial
  ·intro s1 b6 s' hp l D0 As η0 m0 hd Jb bb Jr br;obtain⟨z1,q3,hp⟩:=Ak9.1 hp;subst hp;unfold CW at q3;refine gA q3 F9 fun x3 q4 q3=>gi q3 ?_ ?_<;>intro _ q3
   ·refine gA q3 F9 fun x4 q5 q3=> ?_;obtain rfl:=AkY q3;exact gb bb hd x4 rfl
   obtain rfl:=AkY q3;exact gb bb hd x3 rfl
  ·intro x hx;have hx:=Sum.inl.inj hx;subst hx;exact AkY hm▸gE
  intro y hy;cases hy
def Dx (a0:UInt64)(a1:UInt64):Option UInt64:=Ab (ET a0 a1) fun x1=>some x1
theorem Mi {a0 a1 r}(hm:Dx a0 a1=some r):Sf prog 213 [.d (.u a0),.d (.u a1)] (.d (.u r)):=by
 refine sq ?_;intros;refine gA hm NN fun _ q1 hm=> ?_;exact AkY hm▸gE
def Dj (a0:UInt64):Option Bool:=Ab (gu ((decide ((a0.toNat:Int)>0))&&(decide ((a0.toNat:Int)<2305843009213691579))) (Dx a0 1152921504606845789)) fun x1=>bnd ((((decide ((a0.toNat:Int)>0))&&(decide ((a0.toNat:Int)<2305843009213691579)))&&((x1.toNat:Int)==1))) fun x2=>some x2
theorem NO {a0 r}(hm:Dj a0=some r):Sf prog 133 [.d (.u a0)] (.d (.t r)):=by
 refine sq ?_;intros;refine oB hm fun _ q1 hm=>gcH q1 Mi<|bE hm ?_;intro _ hm;exact AkY hm▸gE
def Ec (a0:UInt64):Option UInt64:=Ab (Dx 4 a0) fun x1=>some x1
theorem Lq {a0 r}(hm:Ec a0=some r):Sf prog 162 [.d (.u a0)] (.d (.u r)):=by
 refine sq ?_;intros;refine gA hm Mi fun _ q1 hm=> ?_;exact AkY hm▸gE
def I6 (a1:UInt64)(s1:(List UInt8)×Int):Option (((List UInt8)×Int)⊕((List UInt8))):=if(decide (s1.2≥0))=true then if(0:Int)≤(w64 (8*s1.2))then Ab (app 1 s1.1 ([(toB ((EY a1 ((w64 (8*s1.2)).toNat)).toNat:Int))]:List UInt8)) fun x4=>some (.inl (x4,(w64 (s1.2-1))))else none else some (.inr s1.1)
def Gn (a0:List UInt8)(a1:UInt64)(a2:Int):Option (List UInt8):=Ab (Ab (iter (I6 a1) F7 (a0,(w64 (a2-1)))) fun x2=>some x2) fun x1=>some x1
theorem SR {a0 a1 a2 r}(hm:Gn a0 a1 a2=some r):Sp prog 241 [.ow 0,.d (.u a1),.d (.i a2)] [.row 0 1 _ eB a0] 1 (is (.ow 1) [.row 1 1 _ eB r] 2):=by
 refine sq ?_;intros;unfold Gn at hm;obtain⟨x1,q1,hm⟩:=Ae hm;refine oB q1 fun x2 q2 q1=>gI q2 (fun(p_0,p_1)=>⟨[(0,.ow 1),(1,.d (.u a1)),(2,.d (.i p_1))],[(0,.row 1 1 _ eB p_0)],[],2⟩) fun s1 _ Jl q5 bl1=>gi q5 ?_ ?_<;>intro _ q5
 ·obtain⟨q7,q5⟩:=BF q5;exact gsh (r:= .u (EY a1 ((w64 (8*s1.2)).toNat))) (fun h=>q7)<|gq eB 1 [(toB ((EY a1 ((w64 (8*s1.2)).toNat)).toNat:Int))]<|oB q5 fun _ q8 q5=>gp eB 1 q8<|gN bl1 q5
 obtain rfl:=nR bl1 q5;let x2:=s1.1;obtain rfl:=AkY q1;exact AkY hm▸gE
def BN {σ:Type}(p0:σ→(List UInt8)→Option (Bool×σ))(k0:List UInt8)(k1:Int)(s1:Int×σ):Option ((Int×σ)⊕((σ)⊕((List UInt8)×Int×σ))):=if(decide (s1.1<(k0.length:Int)))=true then Ab (cut k0 s1.1 (k0.length:Int)) fun x3=>Ab (cut k0 s1.1 (w64 (s1.1+(XH k1 (x3.length:Int))))) fun x4=>Ab (p0 s1.2 x4) fun x5=>if(!x5.1)=true then some (.inr (.inr (k0,k1,x5.2)))else some (.inl ((w64 (s1.1+k1)),x5.2))else some (.inr (.inl s1.2))
def DW {σ:Type}(p0:σ→(List UInt8)→Option (Bool×σ))(k0:List UInt8)(k1:Int)(s0:σ):Option ((List UInt8)×Int×σ):=Ab (iter (BN p0 k0 k1) F7 (0,s0)) fun x1=>match x1 with| .inr r=>some r| .inl y1=>some (k0,k1,y1)
theorem J0 {σ:Type}{p0:σ→(List UInt8)→Option (Bool×σ)}{k0 k1 s0 r}(hm:DW p0 k0 k1 s0=some r)(g:Value)(R:σ→Mem→Ow)(hcb:ZD prog g (fun x=> [sl eB x]) R p0):Sp prog 384 [.ow 0,.pb 1 0,.pb 2 0] [.hp 0 (.cb g σ R s0),.box 1 [sl eB k0] 96,.box 2 [.d (.i k1)] 3] 3 (is (.tup []) [.hp 0 (.cb g σ R r.2.2),.box 1 [.d (.sl _ eB r.1)] 96,.box 2 [.d (.i r.2.1)] 3] 3):=by
 refine sq ?_;intros;refine oB hm fun _ q1 hm=>gI q1 (fun(p_0,p_1)=>⟨[(0,.ow 0),(1,.pb 1 0),(2,.pb 2 0),(4,.d (.i p_0))],[(0,.box 1 [sl eB k0] 96),(1,.box 2 [.d (.i k1)] 3),(2,.hp 0 (.cb g σ R p_1))],[],3⟩) fun s1 _ Jl q4 bl1=>gi q4 ?_ ?_<;>intro _ q4
 ·refine oB q4 fun _ q6 q4=>gk eB 1 q6<|oB q4 fun x4 q7 q4=>gk eB 1 q7<|oB q4 fun _ q8 q4=>gcb x4 hcb q8<|gi q4 ?_ ?_<;>intro _ q4
  ·obtain rfl:=nR bl1 q4;exact AkY hm▸gE
  exact gN bl1 q4
 obtain rfl:=nR bl1 q4;let y1:=s1.2;exact AkY hm▸gE
def EB (a0:List UInt8)(a1:Int):Option ((List UInt8)×Int):=Ab (if(decide (a1<1))=true then none else some ()) fun x1=>some (a0,a1)
theorem KO {a0 a1 r}(hm:EB a0 a1=some r):Sp prog 353 [sl eB a0,.d (.i a1)] [] 0 (is (.fn (.func 384) [] [.pb 0 0,.pb 1 0]) [.box 0 [sl eB r.1] 96,.box 1 [.d (.i r.2)] 3] 2):=by
 refine sq ?_;intros;refine oB hm fun _ q1 hm=>gi q1 (fun hc1 q1=> ?_) fun hc1 q1=> ?_
 ·cases q1
 obtain rfl:=AkY q1;exact AkY hm▸gE
def Gq (b5:List UInt8)(i1:Int)(s2:UInt64):Option (UInt64):=Ab (idx b5 (i1:Int)) fun x6=>if(0:Int)≤(w64 (8*(i1:Int)))then bnd ((s2|||(L4 (toU (x6.toNat:Int)) ((w64 (8*(i1:Int))).toNat)))) fun x7=>some x7 else none
def Gr (b5:List UInt8)(s1:(List UInt64)):Option ((List UInt64)):=Ab (Ab (CX (Gq b5) b5.length 0 0) fun x4=>some x4) fun x3=>Ab (app 8 s1 ([x3]:List UInt64)) fun x8=>some x8
def K8 (a0:List UInt8):Option (List UInt64):=Ab (EB a0 7) fun x1=>Ab (DW (fun(s:(List UInt64)) (b0:List UInt8)=>Ab (Gr b0 s) fun y=>some (true,y)) x1.1 x1.2 ([]:List UInt64)) fun x2=>some x2.2.2
theorem ZN {a0 r}(hm:K8 a0=some r):Sp prog 301 [sl eB a0] [] 0 (is (.ow 0) [.row 0 1 _ eU r] 1):=
 spR call301 func301 rfl ntmps301 rfl fun D0 As η0 m0 hD hd=>by
  unfold K8 at hm;refine gD hm KO fun x1 q1 hm=>oB hm fun x2 q2 hm=>Agh eU 3 0 1<|MP hD (n0:=0) 3 4 [⟨2,1,96,[sl eB x1.1],[sl eB x2.1]⟩,⟨3,2,3,[.d (.i x1.2)],[.d (.i x2.2.1)]⟩] (gt:=9) (ps:=[10]) [(3,.pb 0 0),(9,.fn (.func 384) [] [.pb 1 0,.pb 2 0])] (fun(y2:(List UInt64))=> [(0,.row 3 1 _ eU y2),(1,.box 0 [.ow 3] 307)]) (fun(_:Unit)=> []) (fun x=> [sl eB x]) (fun(s1:(List UInt64)) (b5:List UInt8)=>⟨[(3,.pb 0 0),(4,sl eB b5),(9,.fn (.func 384) [] [.pb 1 0,.pb 2 0])],[(0,.row 3 1 _ eU s1),(1,.box 0 [.ow 3] 307)],[],4⟩) (pN fun x s=>Gr x s) ([]:List UInt64) hd (via Sum.inl hyN rfl fun g R h=>J0 q2 g R h) rfl (fun _=>rfl) (fun _=>rfl) (fun _=>rfl) (fun _=>rfl) ?_ ?_ ?_ ?_
  ·intro s1 b5 s' hp l D0 As η0 m0 hd Ja ba;exact gb ba hd () trivial
  ·intro s1 b5 s' hp l D0 As η0 m0 hd Jb bb Jr br;obtain⟨z1,q3,hp⟩:=Ak9.1 hp;subst hp;unfold Gr at q3;obtain⟨x3,q4,q3⟩:=Ae q3;refine oB q4 fun x4 q5 q4=>IJ 2 (E:=eB) (xs:=b5) 11 fun hle1=>gF (EM _ _ _) q5 (fun p0 p=>⟨[(3,.pb 0 0),(5,.d (.u p)),(9,.fn (.func 384) [] [.pb 1 0,.pb 2 0]),(11,sl eB b5),(12,.d (.i (b5.length:Int))),(13,.d (.i p0))],[(0,.row 3 1 _ eU s1),(1,.box 0 [.ow 3] 307)],[],4⟩) fun i1 s2 Jl bl1=>cM bl1 (b5.length:Int) (fun _ q8 bl1=> ?_) fun e=> ?_
   ·unfold Gq at q8;refine oB q8 fun x6 q10 q8=>gx eB 1 q10 ?_;obtain⟨q11,q8⟩:=BF q8;refine gsh (r:= .u (L4 (toU (x6.toNat:Int)) ((w64 (8*(i1:Int))).toNat))) (fun h=>q11)<|bE q8 ?_;intro _ q8;exact gM bl1 hle1 q8
   subst e;obtain rfl:=AkY q4;let x3:=x4;refine gq eU 1 [x3]<|oB q3 fun x8 q13 q3=>gp eU 1 q13 ?_;obtain rfl:=AkY q3;exact gb bb hd x8 rfl
  ·intro x hx;have hx:=Sum.inl.inj hx;subst hx;exact AkY hm▸gE
  intro y hy;cases hy
def IE (a0:UInt64)(a1:UInt64):Option UInt64:=bnd (((a1&&&2305843009213693951)+((L4 a0 3)|||(EY a1 61)))) fun x1=>bnd (((x1&&&2305843009213693951)+(EY x1 61))) fun x2=>Ab (if(decide ((x2.toNat:Int)≥2305843009213693951))=true then some (x2-2305843009213693951)else some x2) fun x3=>some x3
theorem PM {a0 a1 r}(hm:IE a0 a1=some r):Sf prog 385 [.d (.u a0),.d (.u a1)] (.d (.u r)):=by
 refine sq fun D0 As η0 m0 hd=>bE hm ?_;intro _ hm;refine bE hm ?_;intro _ hm;refine oB hm fun x3 q3 hm=>gj (fun(_:Unit)=>⟨[(5,.d (.u x3))],[],[],0⟩) (fun _=>True) (fun Jp bk1=> ?_) fun _ _=> ?_
 ·refine gi q3 ?_ ?_<;>intro _ q3
  ·obtain rfl:=AkY q3;exact gb bk1 hd () trivial
  obtain rfl:=AkY q3;exact gb bk1 hd () trivial
 exact AkY hm▸gE
def FO (a0:UInt64):Option UInt64:=Ab (IE 0 a0) fun x1=>some x1
theorem Jv {a0 r}(hm:FO a0=some r):Sf prog 354 [.d (.u a0)] (.d (.u r)):=by
 refine sq ?_;intros;refine gA hm PM fun _ q1 hm=> ?_;exact AkY hm▸gE
def G7 (a0:UInt64)(a1:UInt64):Option UInt64:=Ab (FO a0) fun x1=>Ab (FO a1) fun x2=>Ab (FO (x1+x2)) fun x3=>some x3
theorem Lo {a0 a1 r}(hm:G7 a0 a1=some r):Sf prog 302 [.d (.u a0),.d (.u a1)] (.d (.u r)):=by
 refine sq ?_;intros;refine gA hm Jv fun _ q1 hm=>gA hm Jv fun _ q2 hm=>gA hm Jv fun _ q3 hm=> ?_;exact AkY hm▸gE
def JL (a0:UInt64)(a1:UInt64):Option UInt64:=Ab (FO a0) fun x1=>Ab (FO a1) fun x2=>Ab (IH x1 x2) fun x3=>Ab (IE x3.1 x3.2) fun x4=>some x4
theorem QR {a0 a1 r}(hm:JL a0 a1=some r):Sf prog 386 [.d (.u a0),.d (.u a1)] (.d (.u r)):=by
 refine sq ?_;intros;refine gA hm Jv fun _ q1 hm=>gA hm Jv fun _ q2 hm=>gA hm Mp fun _ q3 hm=>gA hm PM fun _ q4 hm=> ?_;exact AkY hm▸gE
def JK (i1:Int)(s1:UInt64):Option (UInt64):=Ab (JL s1 s1) fun x4=>some x4
def E8 (a0:UInt64):Option UInt64:=Ab (Ab (CX JK 4 0 a0) fun x2=>some x2) fun x1=>Ab (JL a0 x1) fun x5=>some x5
theorem Qi {a0 r}(hm:E8 a0=some r):Sf prog 357 [.d (.u a0)] (.d (.u r)):=by
 refine sq ?_;intros;unfold E8 at hm;obtain⟨x1,q1,hm⟩:=Ae hm;refine oB q1 fun _ q2 q1=>gF (EM _ 4 _) q2 (fun p0 p=>⟨[(0,.d (.u a0)),(3,.d (.u p)),(5,.d (.i p0))],[],[],0⟩) fun i1 s1 Jl bl1=>cM bl1 (4:Int) (fun _ q5 bl1=> ?_) fun e=> ?_
 ·exact gA q5 QR fun _ q7 q5=>gM bl1 lk q5
 subst e;obtain rfl:=AkY q1;refine gA hm QR fun _ q8 hm=> ?_;exact AkY hm▸gE
def Kq (a0:Int)(a1:UInt64)(k0:Int)(k1:UInt64):Option (UInt64×Int×UInt64):=bnd ((toU (w64 ((w64 ((w64 (3*k0))+a0))+1)))) fun x1=>Ab (G7 a1 (((x1*x1)*x1)+7)) fun x2=>Ab (E8 x2) fun x3=>Ab (G7 k1 x3) fun x4=>some (x3,k0,x4)
theorem Vy {a0 a1 k0 k1 r}(hm:Kq a0 a1 k0 k1=some r):Sp prog 356 [.d (.i a0),.d (.u a1),.pb 0 0,.pb 1 0] [.box 0 [.d (.i k0)] 3,.box 1 [.d (.u k1)] 32] 2 (is (.d (.u r.1)) [.box 0 [.d (.i r.2.1)] 3,.box 1 [.d (.u r.2.2)] 32] 2):=by
 refine sq ?_;intros;refine bE hm ?_;intro _ hm;refine gA hm Lo fun _ q2 hm=>gA hm Qi fun _ q3 hm=>gA hm Lo fun _ q4 hm=> ?_;exact AkY hm▸gE
def Kp (a0:Int)(a1:UInt64)(k0:UInt64):Option (UInt64×UInt64):=Ab (G7 a1 k0) fun x1=>some (x1,k0)
theorem Vx {a0 a1 k0 r}(hm:Kp a0 a1 k0=some r):Sp prog 358 [.d (.i a0),.d (.u a1),.pb 0 0] [.box 0 [.d (.u k0)] 32] 1 (is (.d (.u r.1)) [.box 0 [.d (.u r.2)] 32] 1):=by
 refine sq ?_;intros;refine gA hm Lo fun _ q1 hm=> ?_;exact AkY hm▸gE
end Go.Proofs.YtnhdojckpcbjeaaGreatDoor
