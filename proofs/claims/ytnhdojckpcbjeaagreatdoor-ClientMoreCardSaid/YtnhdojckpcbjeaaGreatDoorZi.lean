/- The walks of some functions, by the executor, written by program. Conditions: none. -/
import Derived.Test.YtnhdojckpcbjeaaGreatDoorZh
set_option linter.unusedSimpArgs false
set_option linter.unusedVariables false
set_option maxHeartbeats 20000000
set_option maxRecDepth 100000
namespace Go.Proofs.YtnhdojckpcbjeaaGreatDoor
open Go Go.Gw Go.Ax Tryz
attribute [local irreducible] Go.Ax.Go
def Ha (a0:List UInt8):Option Bool:=Ab (gu ((a0.length:Int)==1) (idx a0 0)) fun x1=>Ab (gu (((a0.length:Int)==1)&&(!((x1.toNat:Int)==0))) (idx a0 0)) fun x2=>bnd ((((a0.length:Int)==1)&&(((x1.toNat:Int)==0)||((x2.toNat:Int)==255)))) fun x3=>some x3
theorem SU {a0 r}(hm:Ha a0=some r):Sf prog 428 [sl eB a0] (.d (.t r)):=by
 refine sq ?_;intros;refine oB hm fun x1 q1 hm=>gxG eB 1 q1<|oB hm fun x2 q2 hm=>gxG eB 1 q2<|bE hm ?_;intro x3 hm;obtain rfl:=AhS hm;exact gE
def IZ (a0:List UInt8):Option Bool:=if((a0.length:Int)==0)=true then some false else if((a0.length:Int)==1)=true then some true else Ab (idx a0 1) fun x1=>Ab (gu (decide ((a0.length:Int)≤8)) (idx a0 0)) fun x2=>bnd (((decide ((a0.length:Int)≤8))&&((x2.toNat:Int) !=((toB (-((shrB x1 7).toNat:Int))).toNat:Int)))) fun x3=>some x3
theorem Qa {a0 r}(hm:IZ a0=some r):Sf prog 299 [sl eB a0] (.d (.t r)):=by
 refine sq ?_;intros;refine gi hm ?_ ?_<;>intro hc1 hm
 ·obtain rfl:=AhS hm;exact gE
 refine gi hm ?_ ?_<;>intro hc2 hm
 ·obtain rfl:=AhS hm;exact gE
 refine oB hm fun x1 q1 hm=>gx eB 1 q1<|oB hm fun x2 q2 hm=>gxG eB 1 q2<|bE hm ?_;intro x3 hm;obtain rfl:=AhS hm;exact gE
def NW (a0:List UInt8):Option Bool:=some true
theorem SS {a0 r}(hm:NW a0=some r):Sf prog 429 [sl eB a0] (.d (.t r)):=by
 refine sq ?_;intros;exact AhS hm▸gE
def I0 (a0:UInt8):Option Bool:=bnd (((decide ((a0.toNat:Int)<32))||(decide ((a0.toNat:Int)>126)))) fun x1=>some x1
theorem Qb {a0 r}(hm:I0 a0=some r):Sf prog 431 [.d (.b a0)] (.d (.t r)):=by
 refine sq ?_;intros;refine bE hm ?_;intro x1 hm;obtain rfl:=AhS hm;exact gE
def AE (a0:List UInt8)(i1:Int)(s1:Unit):Option ((Unit)⊕Int):=Ab (idx a0 (i1:Int)) fun x3=>Ab (I0 x3) fun x4=>if x4=true then some (.inr (i1:Int))else some (.inl ())
def Cm (a0:List UInt8):Option Int:=Ab (BU (AE a0) a0.length 0 ()) fun x1=>match x1 with| .inr r=>some r| .inl y1=>some (-1)
theorem GS {a0 r}(hm:Cm a0=some r):Sf prog 211 [sl eB a0,.fn (.func 431) [] []] (.d (.i r)):=by
 refine sq ?_;intros;refine oB hm fun x1 q1 hm=>H6 0 (E:=eB) (xs:=a0) 6 fun hle1=>gF (EN _ _ _) q1 (fun p0 _=>⟨[(0,sl eB a0),(1,.fn (.func 431) [] []),(7,.d (.i (a0.length:Int))),(8,.d (.i p0))],[],[],0⟩) fun i1 s1 Jl bl1=>cN bl1 (a0.length:Int) (fun y2 q4 bl1=> ?_) fun e=> ?_
 ·refine oB q4 fun x3 q6 q4=>gx eB 1 q6<|gA q4 Qb fun x4 q7 q4=>gi q4 ?_ ?_<;>intro hc1 q4
  ·obtain rfl:=nT bl1 q4;exact AhS hm▸gE
  exact gT bl1 hle1 q4
 subst e;exact AhS hm▸gE
def B8 (a0:List UInt8):Option Bool:=Ab (Cm a0) fun x1=>some (decide (x1≥0))
theorem F6 {a0 r}(hm:B8 a0=some r):Sf prog 131 [sl eB a0,.fn (.func 431) [] []] (.d (.t r)):=by
 refine sq ?_;intros;refine gA hm GS fun x1 q1 hm=> ?_;exact AhS hm▸gE
def Iv (a0:List UInt8):Option Bool:=Ab (B8 a0) fun x1=>some (!x1)
theorem SR {a0 r}(hm:Iv a0=some r):Sf prog 430 [sl eB a0] (.d (.t r)):=by
 refine sq ?_;intros;refine gA hm F6 fun x1 q1 hm=> ?_;exact AhS hm▸gE
def Iu (a0:List UInt8):Option Bool:=some ((a0.length:Int)==0)
theorem SQ {a0 r}(hm:Iu a0=some r):Sf prog 432 [sl eB a0] (.d (.t r)):=by
 refine sq ?_;intros;exact AhS hm▸gE
def GJ (a0:Bool):Option Int:=if a0=true then some 0 else some 110
theorem OW {a0 r}(hm:GJ a0=some r):Sf prog 226 [.d (.t a0)] (.d (.i r)):=by
 refine sq ?_;intros;refine gi hm ?_ ?_<;>intro hc1 hm
 ·exact AhS hm▸gE
 exact AhS hm▸gE
def BO (a0:ByteArray)(a1:UInt8):Option Int:=some (Aa0 a0 a1)
theorem Hm {a0 a1 r}(hm:BO a0 a1=some r):Sf prog 400 [.d (.s a0),.d (.b a1)] (.d (.i r)):=by
 refine sq ?_;intros;refine gext (F:=Aa0) (p:=a0) (q:=a1) func407 (extIxb (by kernel_rfl) (by kernel_rfl) (by kernel_rfl) (by kernel_rfl)) ?_;exact AhS hm▸gE
def AT (a0:ByteArray)(a1:ByteArray):Option Int:=bnd ((((a1.size:Int)==0)||(eqS a1 a0))) fun x1=>if x1=true then some 0 else if((a1.size:Int)==1)=true then Ab (idx a1.data.toList 0) fun x2=>Ab (BO a0 x2) fun x3=>some x3 else bnd ((decide ((a1.size:Int)≥(a0.size:Int)))) fun x4=>if x4=true then some (-1)else none
theorem EU {a0 a1 r}(hm:AT a0 a1=some r):Sf prog 392 [.d (.s a0),.d (.s a1)] (.d (.i r)):=by
 refine sq ?_;intros;refine bE hm ?_;intro x1 hm;refine gi hm ?_ ?_<;>intro hc1 hm
 ·obtain rfl:=AhS hm;exact gE
 refine gi hm ?_ ?_<;>intro hc2 hm
 ·refine oB hm fun x2 q2 hm=>Ag6 (fun _=>q2)<|gA hm Hm fun x3 q3 hm=> ?_;obtain rfl:=AhS hm;exact gE
 refine bE hm ?_;intro x4 hm;refine gi hm ?_ ?_<;>intro hc3 hm
 ·obtain rfl:=AhS hm;exact gE
 cases hm
def B6 (a0:ByteArray)(a1:ByteArray):Option Int:=Ab (AT a0 a1) fun x1=>some x1
theorem P0 {a0 a1 r}(hm:B6 a0 a1=some r):Sf prog 377 [.d (.s a0),.d (.s a1)] (.d (.i r)):=by
 refine sq ?_;intros;refine gA hm EU fun x1 q1 hm=> ?_;exact AhS hm▸gE
def Fg (a0:ByteArray)(a1:ByteArray):Option Int:=if((a1.size:Int)==0)=true then none else if((a1.size:Int)==1)=true then Ab (idx a1.data.toList 0) fun x1=>some (cntS a0 x1)else none
theorem P1 {a0 a1 r}(hm:Fg a0 a1=some r):Sf prog 347 [.d (.s a0),.d (.s a1)] (.d (.i r)):=by
 refine sq ?_;intros;refine gi hm ?_ ?_<;>intro hc1 hm
 ·cases hm
 refine gi hm ?_ ?_<;>intro hc2 hm
 ·refine oB hm fun x1 q1 hm=>Ag6 (fun _=>q1)<|gext (F:=cntS) (p:=a0) (q:=x1) func376 (extCnt (by kernel_rfl) (by kernel_rfl) (by kernel_rfl) (by kernel_rfl)) ?_;exact AhS hm▸gE
 cases hm
def KB {σ:Type}(k1:ByteArray)(s1:Unit):Option ((Unit)⊕((Unit)⊕(ByteArray×ByteArray×Int×σ))):=if(decide ((k1.size:Int)>0))=true then none else some (.inr (.inl ()))
def AM {σ:Type}(p0:σ→ByteArray→Option (Bool×σ))(k0:ByteArray)(k2:Int)(s2:ByteArray×σ):Option ((ByteArray×σ)⊕((ByteArray×σ)⊕(ByteArray×ByteArray×Int×σ))):=Ab (B6 s2.1 k0) fun x5=>if(decide (x5<0))=true then some (.inr (.inl (s2.1,s2.2)))else Ab (T3 s2.1 0 (w64 (x5+k2))) fun x6=>Ab (p0 s2.2 x6) fun x7=>if(!x7.1)=true then some (.inr (.inr (k0,s2.1,k2,x7.2)))else Ab (T3 s2.1 (w64 (x5+(k0.size:Int))) (s2.1.size:Int)) fun x8=>some (.inl (x8,x7.2))
def Bc {σ:Type}(p0:σ→ByteArray→Option (Bool×σ))(k0:ByteArray)(k1:ByteArray)(k2:Int)(s0:σ):Option (ByteArray×ByteArray×Int×σ):=
 if((k0.size:Int)==0)=true then
  Ab (iter (KB k1) FA ()) fun x1=>match x1 with
  | .inr r=>some r
  | .inl y1=>
  some (k0,k1,k2,s0)
 else
 Ab (iter (AM p0 k0 k2) FA (k1,s0)) fun x3=>match x3 with
 | .inr r=>some r
 | .inl y3=>
 Ab (p0 y3.2 y3.1) fun x9=>
 some (k0,y3.1,k2,x9.2)
theorem Mk {σ:Type}{p0:σ→ByteArray→Option (Bool×σ)}{k0 k1 k2 s0 r}(hm:Bc p0 k0 k1 k2 s0=some r)(g:Value)(R:σ→Mem→Ow)(hcb:Ye prog g (fun x=> [.d (.s x)]) R p0):Sp prog 393 [.ow 0,.pb 1 0,.pb 2 0,.pb 3 0] [.hp 0 (.cb g σ R s0),.box 1 [.d (.s k0)] 9,.box 2 [.d (.s k1)] 9,.box 3 [.d (.i k2)] 3] 4 (is (.tup []) [.hp 0 (.cb g σ R r.2.2.2),.box 1 [.d (.s r.1)] 9,.box 2 [.d (.s r.2.1)] 9,.box 3 [.d (.i r.2.2.1)] 3] 4):=by
 refine sq ?_;intros;refine gi hm ?_ ?_<;>intro hc1 hm
 ·refine oB hm fun x1 q1 hm=>gI q1 (fun _=>⟨[(0,.ow 0),(2,.pb 2 0)],[(0,.box 1 [.d (.s k0)] 9),(1,.box 2 [.d (.s k1)] 9),(2,.box 3 [.d (.i k2)] 3),(3,.hp 0 (.cb g σ R s0))],[],4⟩) fun s1 y2 Jl q4 bl1=>gi q4 ?_ ?_<;>intro hc2 q4
  ·cases q4
  obtain rfl:=nR bl1 q4;obtain rfl:=AhS hm;exact gE
 refine oB hm fun x3 q6 hm=>gI q6 (fun(p_0,p_1)=>⟨[(0,.ow 0),(1,.pb 1 0),(2,.pb 2 0),(3,.pb 3 0)],[(0,.box 1 [.d (.s k0)] 9),(1,.box 2 [.d (.s p_0)] 9),(2,.box 3 [.d (.i k2)] 3),(3,.hp 0 (.cb g σ R p_1))],[],4⟩) fun s2 y4 Jl q9 bl2=>gA q9 P0 fun x5 q11 q9=>gi q9 ?_ ?_<;>intro hc3 q9
 ·obtain rfl:=nR bl2 q9;let y3:=(s2.1,s2.2);refine oB hm fun x9 q15 hm=>gcb y3.1 hcb q15 ?_;obtain rfl:=AhS hm;exact gE
 refine oB q9 fun x6 q12 q9=>YO (fun _=>q12)<|oB q9 fun x7 q13 q9=>gcb x6 hcb q13<|gi q9 ?_ ?_<;>intro hc4 q9
 ·obtain rfl:=nR bl2 q9;obtain rfl:=AhS hm;exact gE
 exact oB q9 fun x8 q14 q9=>YO (fun _=>q14)<|gN bl2 q9
def Ju (a0:ByteArray)(a1:ByteArray)(a2:Int):Option (ByteArray×ByteArray×Int):=some (a1,a0,a2)
theorem Nj {a0 a1 a2 r}(hm:Ju a0 a1 a2=some r):Sp prog 378 [.d (.s a0),.d (.s a1),.d (.i a2)] [] 0 (is (.fn (.func 393) [] [.pb 0 0,.pb 1 0,.pb 2 0]) [.box 0 [.d (.s r.1)] 9,.box 1 [.d (.s r.2.1)] 9,.box 2 [.d (.i r.2.2)] 3] 3):=by
 refine sq ?_;intros;exact AhS hm▸gE
def G3 (a0:ByteArray)(a1:ByteArray):Option (ByteArray×ByteArray×Int):=Ab (Ju a0 a1 0) fun x1=>some (x1.1,x1.2.1,x1.2.2)
theorem Nk {a0 a1 r}(hm:G3 a0 a1=some r):Sp prog 348 [.d (.s a0),.d (.s a1)] [] 0 (is (.fn (.func 393) [] [.pb 0 0,.pb 1 0,.pb 2 0]) [.box 0 [.d (.s r.1)] 9,.box 1 [.d (.s r.2.1)] 9,.box 2 [.d (.i r.2.2)] 3] 3):=by
 refine sq ?_;intros;refine gD hm Nj fun x1 q1 hm=> ?_;exact AhS hm▸gE
def C4 (a0:Int):Option Bool:=bnd ((((decide ((97:Int)≤a0))&&(decide (a0≤122)))||((decide ((48:Int)≤a0))&&(decide (a0≤57))))) fun x1=>some x1
theorem Lg {a0 r}(hm:C4 a0=some r):Sf prog 379 [.d (.r a0)] (.d (.t r)):=by
 refine sq ?_;intros;refine bE hm ?_;intro x1 hm;obtain rfl:=AhS hm;exact gE
def C2 (a0:Int):Option Bool:=Ab (gu (!(a0==45)) (C4 a0)) fun x1=>some ((a0==45)||x1)
theorem SH {a0 r}(hm:C2 a0=some r):Sf prog 380 [.d (.r a0)] (.d (.t r)):=by
 refine sq ?_;intros;refine oB hm fun x1 q1 hm=>gcH q1 Lg ?_;exact AhS hm▸gE
def A2 (a0:ByteArray)(s1:Nat):Option ((Nat)⊕((Nat)⊕Bool)):=if s1<a0.size then bnd (((Utf8.decode a0 s1).1:Int)) fun x3=>Ab (gu ((s1:Int)==(w64 ((a0.size:Int)-1))) (C4 x3)) fun x4=>bnd ((((s1:Int)==(w64 ((a0.size:Int)-1)))&&x4)) fun x5=>if x5=true then some (.inl (s1+(Utf8.decode a0 s1).2))else bnd (((s1:Int)==(w64 ((a0.size:Int)-1)))) fun x6=>if x6=true then some (.inr (.inr false))else Ab (gu ((s1:Int)==0) (C4 x3)) fun x7=>bnd ((((s1:Int)==0)&&(x7||(x3==95)))) fun x8=>if x8=true then some (.inl (s1+(Utf8.decode a0 s1).2))else Ab (gu (!((s1:Int)==0)) (C2 x3)) fun x9=>if(((s1:Int)==0)||(!x9))=true then some (.inr (.inr false))else some (.inl (s1+(Utf8.decode a0 s1).2))else some (.inr (.inl s1))
def FK (a0:ByteArray):Option Bool:=if((eqS a0 (⟨#[]⟩:ByteArray))||(decide ((a0.size:Int)>16)))=true then some false else Ab (iter (A2 a0) FA 0) fun x1=>match x1 with| .inr r=>some r| .inl y1=>some true
theorem SG {a0 r}(hm:FK a0=some r):Sf prog 349 [.d (.s a0)] (.d (.t r)):=by
 refine sq ?_;intros;refine gi hm ?_ ?_<;>intro hc1 hm
 ·obtain rfl:=AhS hm;exact gE
 refine grng a0<|oB hm fun x1 q1 hm=>gI q1 (fun p=>⟨[(0,.d (.s a0)),(13,.ow 0)],[(0,.hp 0 (.it a0 p))],[],1⟩) fun s1 y2 Jl q4 bl1=>gnx q4 (fun hc2 q4=> ?_) fun hc2 q4=> ?_
 ·refine gi' (b:=true) (fun _=> ?_) (fun h=>by cases h);refine bE q4 ?_;intro x3 q4;refine oB q4 fun x4 q7 q4=>gcH q7 Lg<|bE q4 ?_;intro x5 q4;refine gi q4 ?_ ?_<;>intro hc3 q4
  ·exact gN bl1 q4
  refine bE q4 ?_;intro x6 q4;refine gi q4 ?_ ?_<;>intro hc4 q4
  ·obtain rfl:=nR bl1 q4;obtain rfl:=AhS hm;exact gE
  refine oB q4 fun x7 q10 q4=>gcH q10 Lg<|bE q4 ?_;intro x8 q4;refine gi q4 ?_ ?_<;>intro hc5 q4
  ·exact gN bl1 q4
  refine oB q4 fun x9 q12 q4=>gcH q12 SH<|gi q4 ?_ ?_<;>intro hc6 q4
  ·obtain rfl:=nR bl1 q4;obtain rfl:=AhS hm;exact gE
  exact gN bl1 q4
 refine gi' (b:=false) (fun h=>by cases h) (fun _=> ?_);obtain rfl:=nR bl1 q4;let y1:=s1;obtain rfl:=AhS hm;exact gE
def BD (b6:ByteArray)(s1:(Unit)×Nat):Option ((Unit)×Nat):=Ab (FK b6) fun x4=>if(!x4)=true then some ((),1)else some ((),0)
def Cu (a0:ByteArray)(a1:Int)(a2:Int):Option Bool:=Ab (gu (!(decide ((a0.size:Int)>a2))) (Fg a0 (⟨#[46]⟩:ByteArray))) fun x1=>if((decide ((a0.size:Int)>a2))||(decide (x1≥a1)))=true then some false else Ab (G3 a0 (⟨#[46]⟩:ByteArray)) fun x2=>Ab (Bc (fun(s:(Unit)×Nat) (b0:ByteArray)=>if s.2=0 then Ab (BD b0 s) fun y=>some (y.2==0,y)else none) x2.1 x2.2.1 x2.2.2 ((),0)) fun x3=>if(x3.2.2.2).2=0 then some true else some false
theorem OX {a0 a1 a2 r}(hm:Cu a0 a1 a2=some r):Sf prog 292 [.d (.s a0),.d (.i a1),.d (.i a2)] (.d (.t r)):=
 spR call292 func292 rfl ntmps292 rfl fun D0 As η0 m0 hD hd=>by
  unfold Cu at hm;refine oB hm fun x1 q1 hm=>gcH q1 P1<|gi hm ?_ ?_<;>intro hc1 hm
  ·exact AhS hm▸gE
  refine gD hm Nk fun x2 q2 hm=>oB hm fun x3 q3 hm=>LS hD (n0:=0) 4 4 [⟨1,1,9,[.d (.s x2.1)],[.d (.s x3.1)]⟩,⟨2,2,9,[.d (.s x2.2.1)],[.d (.s x3.2.1)]⟩,⟨3,3,3,[.d (.i x2.2.2)],[.d (.i x3.2.2.1)]⟩] (gt:=19) (ps:=[20]) [(6,.pb 0 0),(19,.fn (.func 393) [] [.pb 1 0,.pb 2 0,.pb 3 0])] (fun(y1:Unit)=> [(0,.box 0 [.d (.t false)] 4)]) (fun(y1:(Unit)×Nat)=> [(0,.box 0 [.d (.t false)] 4)]) (fun x=> [.d (.s x)]) (fun(s1:Unit) (b6:ByteArray)=>⟨[(6,.pb 0 0),(7,.d (.s b6)),(19,.fn (.func 393) [] [.pb 1 0,.pb 2 0,.pb 3 0])],[(0,.box 0 [.d (.t false)] 4)],[],4⟩) (pJ fun x s=>BD x s) () hd (via fJ hyJ rfl fun g R h=>Mk q3 g R h) rfl (fun _=>rfl) (fun _=>rfl) (fun _=>rfl) (fun _=>rfl) ?_ ?_ ?_ ?_
  ·intro s1 b6 s' hp l D0 As η0 m0 hd Ja ba;exact gb ba hd () trivial
  ·intro s1 b6 s' hp l D0 As η0 m0 hd Jb bb Jr br;obtain⟨z1,q4,hp⟩:=Ah2.1 hp;subst hp;unfold BD at q4;dsimp only at q4;refine gA q4 SG fun x4 q5 q4=>gi q4 ?_ ?_<;>intro hc2 q4
   ·obtain rfl:=AhS q4;exact AdN br hd ((),1) rfl
   obtain rfl:=AhS q4;exact gb bb hd () rfl
  ·intro x hx;obtain⟨hj1,rfl⟩:=XP hx;rw[AhZ hj1]at hm;exact AhS hm▸gE
  intro y hy;obtain⟨hj1,rfl⟩:=XO hy;rw[AhX hj1]at hm;exact AhS hm▸gE
def FL (a0:ByteArray):Option Bool:=Ab (Cu a0 8 64) fun x1=>some x1
theorem L7 {a0 r}(hm:FL a0=some r):Sf prog 227 [.d (.s a0)] (.d (.t r)):=by
 refine sq ?_;intros;refine gA hm OX fun x1 q1 hm=> ?_;exact AhS hm▸gE
def DE (a0:ByteArray):Option Int:=Ab (FL a0) fun x1=>Ab (GJ x1) fun x2=>some x2
theorem Nq {a0 r}(hm:DE a0=some r):Sf prog 145 [.d (.s a0)] (.d (.i r)):=by
 refine sq ?_;intros;refine gA hm L7 fun x1 q1 hm=>gA hm OW fun x2 q2 hm=> ?_;exact AhS hm▸gE
def EZ (a0:g_path_trip):Option Int:=if((((((a0.chain_.length:Int)==0)||(decide ((a0.chain_.length:Int)>4)))||(decide ((a0.roots_.length:Int)>16)))||(decide (a0.now_<0)))||(decide (a0.now_>1099511627776)))=true then some 1 else Ab (DE a0.name_) fun x1=>some x1
theorem Np {a0 r}(hm:EZ a0=some r):Sf prog 72 [ag (Eu a0)] (.d (.i r)):=by
 refine sq ?_;intros;refine gi hm ?_ ?_<;>intro hc1 hm
 ·exact AhS hm▸gE
 refine gA hm Nq fun x1 q1 hm=> ?_;exact AhS hm▸gE
def Es (a0:Int):Option Bool:=bnd (((decide (a0≥0))&&(decide (a0≤1099511627776)))) fun x1=>some x1
theorem GZ {a0 r}(hm:Es a0=some r):Sf prog 275 [.d (.i a0)] (.d (.t r)):=by
 refine sq ?_;intros;refine bE hm ?_;intro x1 hm;obtain rfl:=AhS hm;exact gE
def Hd (a0:g_api_Sig):Option Bool:=bnd ((decide (((Uk a0.E a0.S).toNat:Int)<1152921504606845789))) fun x1=>some x1
theorem NA {a0 r}(hm:Hd a0=some r):Sf prog 277 [ag (Kj a0)] (.d (.t r)):=by
 refine sq ?_;intros;refine bE hm ?_;intro x1 hm;obtain rfl:=AhS hm;exact gE
def Bx (a0:List UInt64)(s1:UInt64×Int):Option ((UInt64×Int)⊕(UInt64)):=if(decide (s1.2<(a0.length:Int)))=true then Ab (idx a0 s1.2) fun x6=>some (.inl ((Uk s1.1 x6),(w64 (s1.2+1))))else some (.inr s1.1)
def Cy (a0:List UInt64):Option UInt64:=Ab (if(decide ((a0.length:Int)<1))=true then none else some ()) fun x1=>Ab (idx a0 0) fun x2=>Ab (Ab (iter (Bx a0) FA (x2,1)) fun x4=>some x4) fun x3=>some x3
theorem Jd {a0 r}(hm:Cy a0=some r):Sf prog 331 [sl eU a0] (.d (.u r)):=by
 refine sq ?_;intros;refine oB hm fun x1 q1 hm=>gi q1 (fun hc1 q1=> ?_) fun hc1 q1=> ?_
 ·cases q1
 obtain rfl:=AhS q1;refine oB hm fun x2 q2 hm=>gx eU 1 q2 ?_;obtain⟨x3,q3,hm⟩:=Af hm;refine oB q3 fun x4 q4 q3=>gI q4 (fun(p_0,p_1)=>⟨[(0,sl eU a0),(3,.d (.u p_0)),(4,.d (.i p_1))],[],[],0⟩) fun s1 y1 Jl q7 bl1=>gi q7 ?_ ?_<;>intro hc2 q7
 ·exact oB q7 fun x6 q9 q7=>gx eU 1 q9<|gN bl1 q7
 obtain rfl:=nR bl1 q7;let x4:=s1.1;obtain rfl:=AhS q3;let x3:=x4;obtain rfl:=AhS hm;exact gE
def He (a0:g_api_Promise):Option Bool:=Ab (Es a0.Log) fun x1=>Ab (gu x1 (Es a0.At)) fun x2=>Ab (gu (x1&&x2) (Cy ([a0.Leaf.1,a0.Leaf.2]:List UInt64))) fun x3=>Ab (gu ((x1&&x2)&&(decide ((x3.toNat:Int)<2305843009213693951))) (Hd a0.Sig)) fun x4=>bnd ((((x1&&x2)&&(decide ((x3.toNat:Int)<2305843009213693951)))&&x4)) fun x5=>some x5
theorem Qg {a0 r}(hm:He a0=some r):Sf prog 274 [ag (Ad a0)] (.d (.t r)):=by
 refine sq ?_;intros;refine Ag7 1 [.i a0.Log,.i a0.At,.u a0.Leaf.1,.u a0.Leaf.2,.u a0.Sig.E,.u a0.Sig.S]<|gA hm GZ fun x1 q1 hm=>oB hm fun x2 q2 hm=>gcH q2 GZ<|gslM (k:=1) (E:=eU) ([a0.Leaf.1,a0.Leaf.2]:List UInt64) (fun _=>rfl)<|oB hm fun x3 q3 hm=>gcH q3 Jd<|oB hm fun x4 q4 hm=>gcH q4 NA<|bE hm ?_;intro x5 hm;obtain rfl:=AhS hm;exact gE
def KL (a0:Int):Option Bool:=bnd (((decide (a0≤32))||(decide (a0>126)))) fun x1=>some x1
theorem SX {a0 r}(hm:KL a0=some r):Sf prog 332 [.d (.r a0)] (.d (.t r)):=by
 refine sq ?_;intros;refine bE hm ?_;intro x1 hm;obtain rfl:=AhS hm;exact gE
def De (a0:ByteArray)(a2:Bool)(s1:Nat):Option ((Nat)⊕((Nat)⊕Int)):=if s1<a0.size then bnd (((Utf8.decode a0 s1).1:Int)) fun x3=>Ab (KL x3) fun x4=>if(x4==a2)=true then some (.inr (.inr (s1:Int)))else some (.inl (s1+(Utf8.decode a0 s1).2))else some (.inr (.inl s1))
def CT (a0:ByteArray)(a2:Bool):Option Int:=Ab (iter (De a0 a2) FA 0) fun x1=>match x1 with| .inr r=>some r| .inl y1=>some (-1)
theorem JW {a0 a2 r}(hm:CT a0 a2=some r):Sf prog 391 [.d (.s a0),.fn (.func 332) [] [],.d (.t a2)] (.d (.i r)):=by
 refine sq ?_;intros;refine grng a0<|oB hm fun x1 q1 hm=>gI q1 (fun p=>⟨[(1,.fn (.func 332) [] []),(2,.d (.t a2)),(10,.ow 0)],[(0,.hp 0 (.it a0 p))],[],1⟩) fun s1 y2 Jl q4 bl1=>gnx q4 (fun hc1 q4=> ?_) fun hc1 q4=> ?_
 ·refine gi' (b:=true) (fun _=> ?_) (fun h=>by cases h);refine bE q4 ?_;intro x3 q4;refine gA q4 SX fun x4 q7 q4=>gi q4 ?_ ?_<;>intro hc2 q4
  ·obtain rfl:=nR bl1 q4;obtain rfl:=AhS hm;exact gE
  exact gN bl1 q4
 refine gi' (b:=false) (fun h=>by cases h) (fun _=> ?_);obtain rfl:=nR bl1 q4;let y1:=s1;obtain rfl:=AhS hm;exact gE
def DZ (a0:ByteArray):Option Int:=Ab (CT a0 true) fun x1=>some x1
theorem JX {a0 r}(hm:DZ a0=some r):Sf prog 369 [.d (.s a0),.fn (.func 332) [] []] (.d (.i r)):=by
 refine sq ?_;intros;refine gA hm JW fun x1 q1 hm=> ?_;exact AhS hm▸gE
def Df (a0:ByteArray):Option Bool:=Ab (DZ a0) fun x1=>some (decide (x1≥0))
theorem IG {a0 r}(hm:Df a0=some r):Sf prog 333 [.d (.s a0),.fn (.func 332) [] []] (.d (.t r)):=by
 refine sq ?_;intros;refine gA hm JX fun x1 q1 hm=> ?_;exact AhS hm▸gE
def Er (a0:ByteArray):Option Bool:=Ab (gu ((!eqS a0 (⟨#[]⟩:ByteArray))&&(decide ((a0.size:Int)≤64))) (Df a0)) fun x1=>bnd ((((!eqS a0 (⟨#[]⟩:ByteArray))&&(decide ((a0.size:Int)≤64)))&&(!x1))) fun x2=>some x2
theorem Qf {a0 r}(hm:Er a0=some r):Sf prog 276 [.d (.s a0)] (.d (.t r)):=by
 refine sq ?_;intros;refine oB hm fun x1 q1 hm=>gcH q1 IG<|bE hm ?_;intro x2 hm;obtain rfl:=AhS hm;exact gE
def A9 (a0:ByteArray)(a1:ByteArray):Option Bool:=Ab (gu (decide ((a0.size:Int)≥(a1.size:Int))) (T3 a0 0 (a1.size:Int))) fun x1=>bnd (((decide ((a0.size:Int)≥(a1.size:Int)))&&(eqS x1 a1))) fun x2=>some x2
theorem Hn {a0 a1 r}(hm:A9 a0 a1=some r):Sf prog 395 [.d (.s a0),.d (.s a1)] (.d (.t r)):=by
 refine sq ?_;intros;refine oB hm fun x1 q1 hm=>gcutSG (fun h=>Ae9 h q1)<|bE hm ?_;intro x2 hm;obtain rfl:=AhS hm;exact gE
def Ba (a0:ByteArray)(a1:ByteArray):Option (ByteArray×Bool):=Ab (A9 a0 a1) fun x1=>if(!x1)=true then some (a0,false)else Ab (T3 a0 (a1.size:Int) (a0.size:Int)) fun x2=>some (x2,true)
theorem Ho {a0 a1 r}(hm:Ba a0 a1=some r):Sf prog 381 [.d (.s a0),.d (.s a1)] (.tup [.d (.s r.1),.d (.t r.2)]):=by
 refine sq ?_;intros;refine gA hm Hn fun x1 q1 hm=>gi hm ?_ ?_<;>intro hc1 hm
 ·exact AhS hm▸gE
 refine oB hm fun x2 q2 hm=>YO (fun _=>q2) ?_;exact AhS hm▸gE
def Ce (a0:ByteArray)(a1:ByteArray):Option (ByteArray×Bool):=Ab (Ba a0 a1) fun x1=>some (x1.1,x1.2)
theorem MD {a0 a1 r}(hm:Ce a0 a1=some r):Sf prog 351 [.d (.s a0),.d (.s a1)] (.tup [.d (.s r.1),.d (.t r.2)]):=by
 refine sq ?_;intros;refine gA hm Ho fun x1 q1 hm=> ?_;exact AhS hm▸gE
def Dg (a0:ByteArray):Option (ByteArray×Bool×Bool):=Ab (FL a0) fun x1=>if x1=true then some (a0,false,true)else Ab (Ce a0 (⟨#[42,46]⟩:ByteArray)) fun x2=>Ab (gu x2.2 (Cu x2.1 7 62)) fun x3=>some (x2.1,x2.2,(x2.2&&x3))
theorem Lf {a0 r}(hm:Dg a0=some r):Sf prog 296 [.d (.s a0)] (.tup [.d (.s r.1),.d (.t r.2.1),.d (.t r.2.2)]):=by
 refine sq ?_;intros;refine gA hm L7 fun x1 q1 hm=>gi hm ?_ ?_<;>intro hc1 hm
 ·exact AhS hm▸gE
 refine gA hm MD fun x2 q2 hm=>oB hm fun x3 q3 hm=>gcH q3 OX ?_;exact AhS hm▸gE
def Dh (a0:ByteArray):Option Int:=Ab (Dg a0) fun x1=>Ab (GJ x1.2.2) fun x2=>some x2
theorem P8 {a0 r}(hm:Dh a0=some r):Sf prog 279 [.d (.s a0)] (.d (.i r)):=by
 refine sq ?_;intros;refine gA hm Lf fun x1 q1 hm=>gA hm OW fun x2 q2 hm=> ?_;exact AhS hm▸gE
def I3 (i1:Int)(x2:ByteArray)(s1:(List (ByteArray×Bool))):Option (((List (ByteArray×Bool)))⊕Bool):=Ab (gu (!(lkB s1 x2)) (Dh x2)) fun x3=>if((lkB s1 x2)||(x3 !=0))=true then some (.inr false)else if(lkI s1 x2 0).isNone=true then some (.inl (s1++[(x2,true)]))else none
def Gs (a0:List ByteArray)(a1:Int)(a2:Int):Option Bool:=Ab (Et I3 a0 0 ([]:List (ByteArray×Bool))) fun x1=>match x1 with| .inr r=>some r| .inl y1=>bnd (((decide ((a0.length:Int)≥a1))&&(decide ((a0.length:Int)≤a2)))) fun x4=>some x4
theorem PB {a0 a1 a2 r}(hm:Gs a0 a1 a2=some r):Sf prog 278 [sl eS a0,.d (.i a1),.d (.i a2),.fn (.func 279) [] []] (.d (.t r)):=by
 refine sq ?_;intros;refine gmkm<|oB hm fun x1 q1 hm=>H6 0 (E:=eS) (xs:=a0) 13 fun hle1=>gF (ER _ _ _) q1 (fun p0 p=>⟨[(0,sl eS a0),(1,.d (.i a1)),(2,.d (.i a2)),(3,.fn (.func 279) [] []),(9,.ow 0),(13,sl eS a0),(14,.d (.i (a0.length:Int))),(15,.d (.i p0)),(12,.ow 0)],[(0,.hp 0 (.mp p))],[],1⟩) fun i1 s1 Jl bl1=>cR bl1 (fun x2 y2 q5 q4 bl1=> ?_) fun e=> ?_
 ·refine gx eS 1 q5<|glk s1 x2<|oB q4 fun x3 q6 q4=>gcH q6 P8<|gi q4 ?_ ?_<;>intro hc1 q4
  ·obtain rfl:=nT bl1 q4;obtain rfl:=AhS hm;exact gE
  obtain⟨q7,q4⟩:=Bw q4;exact gup q7<|gT bl1 hle1 q4
 subst e;let y1:=s1;refine bE hm ?_;intro x4 hm;obtain rfl:=AhS hm;exact gE
def I4 (i1:Int)(x2:ByteArray)(s1:(List (ByteArray×Bool))):Option (((List (ByteArray×Bool)))⊕Bool):=Ab (gu (!(lkB s1 x2)) (DE x2)) fun x3=>if((lkB s1 x2)||(x3 !=0))=true then some (.inr false)else if(lkI s1 x2 0).isNone=true then some (.inl (s1++[(x2,true)]))else none
def Gt (a0:List ByteArray)(a1:Int)(a2:Int):Option Bool:=Ab (Et I4 a0 0 ([]:List (ByteArray×Bool))) fun x1=>match x1 with| .inr r=>some r| .inl y1=>bnd (((decide ((a0.length:Int)≥a1))&&(decide ((a0.length:Int)≤a2)))) fun x4=>some x4
theorem PC {a0 a1 a2 r}(hm:Gt a0 a1 a2=some r):Sf prog 278 [sl eS a0,.d (.i a1),.d (.i a2),.fn (.func 145) [] []] (.d (.t r)):=by
 refine sq ?_;intros;refine gmkm<|oB hm fun x1 q1 hm=>H6 0 (E:=eS) (xs:=a0) 13 fun hle1=>gF (ER _ _ _) q1 (fun p0 p=>⟨[(0,sl eS a0),(1,.d (.i a1)),(2,.d (.i a2)),(3,.fn (.func 145) [] []),(9,.ow 0),(13,sl eS a0),(14,.d (.i (a0.length:Int))),(15,.d (.i p0)),(12,.ow 0)],[(0,.hp 0 (.mp p))],[],1⟩) fun i1 s1 Jl bl1=>cR bl1 (fun x2 y2 q5 q4 bl1=> ?_) fun e=> ?_
 ·refine gx eS 1 q5<|glk s1 x2<|oB q4 fun x3 q6 q4=>gcH q6 Nq<|gi q4 ?_ ?_<;>intro hc1 q4
  ·obtain rfl:=nT bl1 q4;obtain rfl:=AhS hm;exact gE
  obtain⟨q7,q4⟩:=Bw q4;exact gup q7<|gT bl1 hle1 q4
 subst e;let y1:=s1;refine bE hm ?_;intro x4 hm;obtain rfl:=AhS hm;exact gE
def DA (i1:Int)(x2:g_api_Promise)(s1:Int):Option ((Int)⊕Bool):=Ab (He x2) fun x3=>if((!x3)||(decide (x2.Log≤s1)))=true then some (.inr false)else some (.inl x2.Log)
def Iw (a0:g_api_Cert):Option Bool:=Ab (Et DA a0.Proms 0 (-1)) fun x1=>match x1 with| .inr r=>some r| .inl y1=>Ab (Es a0.Serial) fun x4=>Ab (gu (!(!x4)) (Es a0.From)) fun x5=>Ab (gu (!((!x4)||(!x5))) (Es a0.Until)) fun x6=>bnd (((((!x4)||(!x5))||(!x6))||(decide (a0.From≥a0.Until)))) fun x7=>if x7=true then some false else Ab (Er a0.Issuer) fun x8=>Ab (gu (!((((!x8)||((a0.Key.toNat:Int)==0))||(decide ((a0.Key.toNat:Int)≥2305843009213691579)))||(decide ((a0.Proms.length:Int)>4)))) (Hd a0.Sig)) fun x9=>bnd ((((((!x8)||((a0.Key.toNat:Int)==0))||(decide ((a0.Key.toNat:Int)≥2305843009213691579)))||(decide ((a0.Proms.length:Int)>4)))||(!x9))) fun x10=>if x10=true then some false else if a0.Ca=true then Ab (Er a0.Subject) fun x11=>Ab (gu (((x11&&((a0.Names.length:Int)==0))&&(decide (a0.Depth≥0)))&&(decide (a0.Depth≤4))) (Gs a0.Permit 0 8)) fun x12=>bnd (((((x11&&((a0.Names.length:Int)==0))&&(decide (a0.Depth≥0)))&&(decide (a0.Depth≤4)))&&x12)) fun x13=>some x13 else Ab (gu (eqS a0.Subject (⟨#[]⟩:ByteArray)) (Gt a0.Names 1 8)) fun x14=>bnd (((((eqS a0.Subject (⟨#[]⟩:ByteArray))&&x14)&&(a0.Depth==0))&&((a0.Permit.length:Int)==0))) fun x15=>some x15
theorem SY {a0 r}(hm:Iw a0=some r):Sf prog 208 [ag (Ac a0)] (.d (.t r)):=by
 refine sq ?_;intros;refine oB hm fun x1 q1 hm=>H6 0 (E:=Ad) (xs:=a0.Proms) 7 fun hle1=>gF (ER _ _ _) q1 (fun p0 p=>⟨[(1,.pb 0 0),(3,.d (.i p)),(7,sl Ad a0.Proms),(8,.d (.i (a0.Proms.length:Int))),(9,.d (.i p0))],[(0,.box 0 [.d (.i a0.Serial),.d (.s a0.Issuer),.d (.s a0.Subject),.d (.u a0.Key),sl eS a0.Names,.d (.i a0.From),.d (.i a0.Until),.d (.t a0.Ca),.d (.i a0.Depth),sl eS a0.Permit,sl Ad a0.Proms,.d (.u a0.Sig.E),.d (.u a0.Sig.S)] 59)],[],1⟩) fun i1 s1 Jl bl1=>cR bl1 (fun x2 y2 q5 q4 bl1=> ?_) fun e=> ?_
 ·refine gx Ad 6 q5<|gA q4 Qg fun x3 q6 q4=>gi q4 ?_ ?_<;>intro hc1 q4
  ·obtain rfl:=nT bl1 q4;obtain rfl:=AhS hm;exact gE
  exact gT bl1 hle1 q4
 subst e;let y1:=s1;refine gA hm GZ fun x4 q7 hm=>oB hm fun x5 q8 hm=>gcH q8 GZ<|oB hm fun x6 q9 hm=>gcH q9 GZ<|bE hm ?_;intro x7 hm;refine gi hm ?_ ?_<;>intro hc3 hm
 ·obtain rfl:=AhS hm;exact gE
 refine gA hm Qf fun x8 q11 hm=>oB hm fun x9 q12 hm=>gcH q12 NA<|bE hm ?_;intro x10 hm;refine gi hm ?_ ?_<;>intro hc4 hm
 ·obtain rfl:=AhS hm;exact gE
 refine gi hm ?_ ?_<;>intro hc5 hm
 ·refine gA hm Qf fun x11 q14 hm=>oB hm fun x12 q15 hm=>gcH q15 PB<|bE hm ?_;intro x13 hm;obtain rfl:=AhS hm;exact gE
 refine oB hm fun x14 q17 hm=>gcH q17 PC<|bE hm ?_;intro x15 hm;obtain rfl:=AhS hm;exact gE
def LL (a0:FX)(k0:Int):Option (Bool×Int):=some ((a0.tag_==k0),k0)
theorem UB {a0 k0 r}(hm:LL a0 k0=some r):Sp prog 371 [ag (GM a0),.pb 0 0] [.box 0 [.d (.i k0)] 3] 1 (is (.d (.t r.1)) [.box 0 [.d (.i r.2)] 3] 1):=by
 refine sq ?_;intros;exact AhS hm▸gE
def An (a0:List FX)(i1:Int)(s1:Int):Option ((Int)⊕(Int×Int)):=Ab (idx a0 (i1:Int)) fun x3=>Ab (LL x3 s1) fun x4=>if x4.1=true then some (.inr ((i1:Int),x4.2))else some (.inl x4.2)
def BF (a0:List FX)(k0:Int):Option (Int×Int):=Ab (BU (An a0) a0.length 0 k0) fun x1=>match x1 with| .inr r=>some r| .inl y1=>some ((-1),y1)
theorem EJ {a0 k0 r}(hm:BF a0 k0=some r):Sp prog 370 [sl GM a0,.fn (.func 371) [] [.pb 0 0]] [.box 0 [.d (.i k0)] 3] 1 (is (.d (.i r.1)) [.box 0 [.d (.i r.2)] 3] 1):=by
 refine sq ?_;intros;refine oB hm fun x1 q1 hm=>H6 0 (E:=GM) (xs:=a0) 6 fun hle1=>gF (EN _ _ _) q1 (fun p0 p=>⟨[(0,sl GM a0),(1,.fn (.func 371) [] [.pb 0 0]),(7,.d (.i (a0.length:Int))),(8,.d (.i p0))],[(0,.box 0 [.d (.i p)] 3)],[],1⟩) fun i1 s1 Jl bl1=>cN bl1 (a0.length:Int) (fun y2 q4 bl1=> ?_) fun e=> ?_
 ·refine oB q4 fun x3 q6 q4=>gx GM 2 q6<|gD q4 UB fun x4 q7 q4=>gi q4 ?_ ?_<;>intro hc1 q4
  ·obtain rfl:=nT bl1 q4;obtain rfl:=AhS hm;exact gE
  exact gT bl1 hle1 q4
 subst e;let y1:=s1;obtain rfl:=AhS hm;exact gE
def Iz (a0:Int):Option (FX×Bool):=Ab (BF tab_2 a0) fun x1=>if(decide (x1.1<0))=true then some ((⟨0,(-1)⟩:FX),false)else Ab (idx tab_2 x1.1) fun x2=>some (x2,true)
theorem Yp {a0 r}(hm:Iz a0=some r):Sf prog 334 [.d (.i a0)] (.tup [ag (GM r.1),.d (.t r.2)]):=by
 refine sq ?_;intros;refine gslG (k:=2) (E:=GM) tab_2 (fun _=>rfl)<|gD hm EJ fun x1 q1 hm=>gi hm ?_ ?_<;>intro hc1 hm
 ·exact AhS hm▸gE
 refine oB hm fun x2 q2 hm=>gidG (k:=2) (E:=GM) tab_2 (fun _=>rfl) (fun _=>q2) ?_;exact AhS hm▸gE
def PV (n:Int)(a0:List UInt8):Option Bool:=if n=299 then IZ a0 else if n=428 then Ha a0 else if n=429 then NW a0 else if n=430 then Iv a0 else if n=432 then Iu a0 else none
theorem Acu {n a0 r}(hm:PV n a0=some r): ∃k:Nat,n=(k:Int)∧Sf prog k [sl eB a0] (.d (.t r)):=by
 unfold PV at hm;split at hm
 ·rename_i h;exact⟨299,h,Qa hm⟩
 split at hm
 ·rename_i h;exact⟨428,h,SU hm⟩
 split at hm
 ·rename_i h;exact⟨429,h,SS hm⟩
 split at hm
 ·rename_i h;exact⟨430,h,SR hm⟩
 split at hm
 ·rename_i h;exact⟨432,h,SQ hm⟩
 cases hm
def LZ (rF:g_api_Item→Int→Option Bool):Prop:= ∀{a0:g_api_Item} {a1:Int} {r:Bool},rF a0 a1=some r→Sf prog 280 [ag (Am a0),.d (.i a1)] (.d (.t r))
def KK (rF:g_api_Item→Int→Option Bool)(a0:g_api_Item)(k0:Int):Option (Bool×Int):=Ab (rF a0 (w64 (k0-1))) fun x1=>some ((!x1),k0)
theorem SP {rF:g_api_Item→Int→Option Bool}(hF:LZ rF){a0 k0 r}(hm:KK rF a0 k0=some r):Sp prog 336 [ag (Am a0),.pb 0 0] [.box 0 [.d (.i k0)] 3] 1 (is (.d (.t r.1)) [.box 0 [.d (.i r.2)] 3] 1):=by
 refine sq ?_;intros;refine gA hm hF fun x1 q1 hm=> ?_;exact AhS hm▸gE
def Aq (rF:g_api_Item→Int→Option Bool)(a0:List g_api_Item)(i1:Int)(s1:Int):Option ((Int)⊕(Int×Int)):=Ab (idx a0 (i1:Int)) fun x3=>Ab ((KK rF) x3 s1) fun x4=>if x4.1=true then some (.inr ((i1:Int),x4.2))else some (.inl x4.2)
def Bq (rF:g_api_Item→Int→Option Bool)(a0:List g_api_Item)(k0:Int):Option (Int×Int):=Ab (BU ((Aq rF) a0) a0.length 0 k0) fun x1=>match x1 with| .inr r=>some r| .inl y1=>some ((-1),y1)
theorem Ed {rF:g_api_Item→Int→Option Bool}(hF:LZ rF){a0 k0 r}(hm:Bq rF a0 k0=some r):Sp prog 372 [sl Am a0,.fn (.func 336) [] [.pb 0 0]] [.box 0 [.d (.i k0)] 3] 1 (is (.d (.i r.1)) [.box 0 [.d (.i r.2)] 3] 1):=by
 refine sq ?_;intros;refine oB hm fun x1 q1 hm=>H6 0 (E:=Am) (xs:=a0) 6 fun hle1=>gF (EN _ _ _) q1 (fun p0 p=>⟨[(0,sl Am a0),(1,.fn (.func 336) [] [.pb 0 0]),(7,.d (.i (a0.length:Int))),(8,.d (.i p0))],[(0,.box 0 [.d (.i p)] 3)],[],1⟩) fun i1 s1 Jl bl1=>cN bl1 (a0.length:Int) (fun y2 q4 bl1=> ?_) fun e=> ?_
 ·refine oB q4 fun x3 q6 q4=>gx Am 3 q6<|oB q4 fun x4 q7 q4=>gco (SP hF q7)<|gi q4 ?_ ?_<;>intro hc1 q4
  ·obtain rfl:=nT bl1 q4;obtain rfl:=AhS hm;exact gE
  exact gT bl1 hle1 q4
 subst e;let y1:=s1;obtain rfl:=AhS hm;exact gE
def AO (rF:g_api_Item→Int→Option Bool)(a0:List g_api_Item)(k0:Int):Option (Bool×Int):=Ab ((Bq rF) a0 k0) fun x1=>some ((decide (x1.1≥0)),x1.2)
theorem DT {rF:g_api_Item→Int→Option Bool}(hF:LZ rF){a0 k0 r}(hm:AO rF a0 k0=some r):Sp prog 335 [sl Am a0,.fn (.func 336) [] [.pb 0 0]] [.box 0 [.d (.i k0)] 3] 1 (is (.d (.t r.1)) [.box 0 [.d (.i r.2)] 3] 1):=by
 refine sq ?_;intros;refine oB hm fun x1 q1 hm=>gco (Ed hF q1) ?_;exact AhS hm▸gE
def Hz (rF:g_api_Item→Int→Option Bool)(a0:g_api_Item)(a1:Int):Option Bool:=Ab (Iz a0.Tag) fun x1=>Ab (gu (!((!x1.2)||(decide (a1<1)))) (PV x1.1.may_ a0.B)) fun x2=>if((((!x1.2)||(decide (a1<1)))||(!x2))||((a0.Tag !=48)&&(decide ((a0.L.length:Int)>0))))=true then some false else Ab ((AO rF) a0.L a1) fun x3=>some (!x3.1)
theorem VP {rF:g_api_Item→Int→Option Bool}(hF:LZ rF){a0 a1 r}(hm:Hz rF a0 a1=some r):Sf prog 280 [ag (Am a0),.d (.i a1)] (.d (.t r)):=by
 refine sq ?_;intros;refine gA hm Yp fun x1 q1 hm=>oB hm fun x2 q2 hm=>gdynG (fun h=>Acu (Ae9 h q2))<|gi hm ?_ ?_<;>intro hc1 hm
 ·exact AhS hm▸gE
 refine oB hm fun x3 q3 hm=>gco (DT hF q3) ?_;exact AhS hm▸gE
def HZ:Nat→g_api_Item→Int→Option Bool
 |0,_,_=>none
 |n+1,a0,a1=>Hz (HZ n) a0 a1
def QL (a0:g_api_Item)(a1:Int):Option Bool:=HZ FA a0 a1
theorem RP: ∀n,LZ (HZ n)
 |0=>fun hm=>by cases hm
 |n+1=>fun hm=>VP (RP n) hm
theorem Zp {a0:g_api_Item}{a1:Int}{r:Bool}(hm:QL a0 a1=some r):Sf prog 280 [ag (Am a0),.d (.i a1)] (.d (.t r)):=RP FA hm
def Bg (a0:List UInt8):Option (List UInt8):=Ab (app 1 ([]:List UInt8) a0) fun x1=>some x1
theorem GI {a0 r}(hm:Bg a0=some r):Sp prog 300 [sl eB a0] [] 0 (is (.ow 0) [.row 0 1 _ eB r] 1):=by
 refine sq ?_;intros;unfold Bg at hm;refine gnq eB a0 (fun he1=> ?_) ?_
 ·rw[he1]at hm;replace hm:(some ([]:List UInt8))=some _:=hm;refine QV eB 2 1 ?_;exact AhS hm▸gE
 refine Wv (k:=1) eB ([]:List UInt8) (fun _=>rfl)<|oB hm fun x1 q1 hm=>gp eB 1 q1 ?_;exact AhS hm▸gE
def Rk (rF:(List UInt8)→g_api_Item→Option (List UInt8)):Prop:= ∀{a0:List UInt8} {a1:g_api_Item} {r:List UInt8},rF a0 a1=some r→Sp prog 281 [.ow 0,ag (Am a1)] [.row 0 1 _ eB a0] 1 (is (.ow 1) [.row 1 1 _ eB r] 2)
def ED (rF:(List UInt8)→g_api_Item→Option (List UInt8))(i1:Int)(x4:g_api_Item)(s1:(List UInt8)):Option ((List UInt8)):=Ab (rF s1 x4) fun x5=>some x5
def Hb (rF:(List UInt8)→g_api_Item→Option (List UInt8))(a0:g_api_Item):Option (List UInt8):=Ab (Bg a0.B) fun x1=>Ab (Ab (D5 (ED rF) a0.L 0 x1) fun x3=>some x3) fun x2=>some x2
theorem Qc {rF:(List UInt8)→g_api_Item→Option (List UInt8)}(hF:Rk rF){a0 r}(hm:Hb rF a0=some r):Sp prog 337 [ag (Am a0)] [] 0 (is (.ow 0) [.row 0 1 _ eB r] 1):=by
 refine sq ?_;intros;refine gD hm GI fun x1 q1 hm=> ?_;obtain⟨x2,q2,hm⟩:=Af hm;refine oB q2 fun x3 q3 q2=>H6 0 (E:=Am) (xs:=a0.L) 10 fun hle1=>gF (E0 _ _ _) q3 (fun p0 p=>⟨[(3,.ow 1),(10,sl Am a0.L),(11,.d (.i (a0.L.length:Int))),(12,.d (.i p0)),(1,.pb 0 0)],[(0,.row 1 1 _ eB p),(1,.box 0 [.d (.i a0.Tag),sl eB a0.B,sl Am a0.L] 192)],[],2⟩) fun i1 s1 Jl bl1=>c0 bl1 (fun x4 y1 q7 q6 bl1=> ?_) fun e=> ?_
 ·exact gx Am 3 q7<|gD q6 hF fun x5 q8 q6=>gM bl1 hle1 q6
 subst e;obtain rfl:=AhS q2;let x2:=x3;obtain rfl:=AhS hm;exact gE
def KJ (rF:(List UInt8)→g_api_Item→Option (List UInt8))(a0:List UInt8)(a1:g_api_Item):Option (List UInt8):=Ab ((Hb rF) a1) fun x1=>Ab (app 1 a0 ([(toB a1.Tag)]:List UInt8)) fun x2=>Ab (bnd ((decide ((x1.length:Int)<128))) fun x4=>if x4=true then Ab (app 1 x2 ([(toB (x1.length:Int))]:List UInt8)) fun x5=>some x5 else bnd ((decide ((x1.length:Int)<256))) fun x6=>if x6=true then Ab (app 1 x2 ([129,(toB (x1.length:Int))]:List UInt8)) fun x7=>some x7 else Ab (app 1 x2 ([130,(toB (Bj (x1.length:Int) 8)),(toB (x1.length:Int))]:List UInt8)) fun x8=>some x8) fun x3=>Ab (app 1 x3 x1) fun x9=>some x9
theorem VO {rF:(List UInt8)→g_api_Item→Option (List UInt8)}(hF:Rk rF){a0 a1 r}(hm:KJ rF a0 a1=some r):Sp prog 281 [.ow 0,ag (Am a1)] [.row 0 1 _ eB a0] 1 (is (.ow 1) [.row 1 1 _ eB r] 2):=by
 refine sq fun D0 As η0 m0 hd=>oB hm fun x1 q1 hm=>gco (Qc hF q1)<|gq eB 1 [(toB a1.Tag)]<|oB hm fun x2 q2 hm=>gp eB 1 q2<|oB hm fun x3 q3 hm=>gjU 0 (fun(_:Unit)=>⟨[(0,.ow 3),(5,.ow 2),(3,.pb 1 0)],[(0,.row 3 1 _ eB x3),(1,.row 2 1 _ eB x1),(2,.box 1 [.d (.i a1.Tag),sl eB a1.B,sl Am a1.L] 192)],[],4⟩) (fun _=>True) (fun Jp bk1=> ?_) fun _ _=> ?_
 ·refine bE q3 ?_;intro x4 q3;refine gi q3 ?_ ?_<;>intro hc1 q3
  ·refine gq eB 1 [(toB (x1.length:Int))]<|oB q3 fun x5 q5 q3=>gp eB 1 q5 ?_;obtain rfl:=AhS q3;exact gb bk1 hd () trivial
  refine bE q3 ?_;intro x6 q3;refine gi q3 ?_ ?_<;>intro hc2 q3
  ·refine gq eB 1 [129,(toB (x1.length:Int))]<|oB q3 fun x7 q7 q3=>gp eB 1 q7 ?_;obtain rfl:=AhS q3;exact gb bk1 hd () trivial
  refine gq eB 1 [130,(toB (Bj (x1.length:Int) 8)),(toB (x1.length:Int))]<|oB q3 fun x8 q8 q3=>gp eB 1 q8 ?_;obtain rfl:=AhS q3;exact gb bk1 hd () trivial
 refine oB hm fun x9 q9 hm=>gp eB 1 q9 ?_;obtain rfl:=AhS hm;exact gE
def G2:Nat→(List UInt8)→g_api_Item→Option (List UInt8)
 |0,_,_=>none
 |n+1,a0,a1=>KJ (G2 n) a0 a1
def QK (a0:List UInt8)(a1:g_api_Item):Option (List UInt8):=G2 FA a0 a1
theorem RO: ∀n,Rk (G2 n)
 |0=>fun hm=>by cases hm
 |n+1=>fun hm=>VO (RO n) hm
theorem Zo {a0:List UInt8}{a1:g_api_Item}{r:List UInt8}(hm:QK a0 a1=some r):Sp prog 281 [.ow 0,ag (Am a1)] [.row 0 1 _ eB a0] 1 (is (.ow 1) [.row 1 1 _ eB r] 2):=RO FA hm
def I1 (a0:g_api_Item):Option ((List UInt8)×Int):=Ab (QL a0 8) fun x1=>if(!x1)=true then some (([]:List UInt8),1)else Ab (QK ([]:List UInt8) a0) fun x2=>if(decide ((x2.length:Int)>8192))=true then some (([]:List UInt8),2)else some (x2,0)
theorem Qd {a0 r}(hm:I1 a0=some r):Sp prog 209 [ag (Am a0)] [] 0 (is (.tup [.ow 0,.d (.i r.2)]) [.row 0 1 _ eB r.1] 1):=by
 refine sq ?_;intros;refine gA hm Zp fun x1 q1 hm=>gi hm ?_ ?_<;>intro hc1 hm
 ·refine QV eB 2 1 ?_;exact AhS hm▸gE
 refine oB hm fun x2 q2 hm=>gco (Sp.nil0 (Zo q2) rfl)<|gi hm ?_ ?_<;>intro hc2 hm
 ·refine QV eB 2 1 ?_;exact AhS hm▸gE
 exact AhS hm▸gE
def BN (a0:List g_api_Item):Option (List g_api_Item):=Ab (app 56 ([]:List g_api_Item) a0) fun x1=>some x1
theorem Hk {a0 r}(hm:BN a0=some r):Sp prog 298 [sl Am a0] [] 0 (is (.ow 0) [.row 0 3 _ Am r] 1):=by
 refine sq ?_;intros;unfold BN at hm;refine gnq Am a0 (fun he1=> ?_) ?_
 ·rw[he1]at hm;replace hm:(some ([]:List g_api_Item))=some _:=hm;refine QV Am 2 3 ?_;exact AhS hm▸gE
 refine Wv (k:=3) Am ([]:List g_api_Item) (fun _=>rfl)<|oB hm fun x1 q1 hm=>gp Am 3 q1 ?_;exact AhS hm▸gE
def Gj (a0:List g_api_Item):Option g_api_Item:=Ab (BN a0) fun x1=>some (⟨48,[],x1⟩:g_api_Item)
theorem IJ {a0 r}(hm:Gj a0=some r):Sf prog 235 [sl Am a0] (ag (Am r)):=by
 refine sq ?_;intros;refine gD hm Hk fun x1 q1 hm=> ?_;exact AhS hm▸gE
def LM (a0:Int)(i1:Int)(s1:UInt8×UInt8×UInt8×UInt8×UInt8×UInt8×UInt8×UInt8):Option (UInt8×UInt8×UInt8×UInt8×UInt8×UInt8×UInt8×UInt8):=if(0:Int)≤(w64 (56-(w64 (8*(i1:Int)))))then Ab (idx [s1.1,s1.2.1,s1.2.2.1,s1.2.2.2.1,s1.2.2.2.2.1,s1.2.2.2.2.2.1,s1.2.2.2.2.2.2.1,s1.2.2.2.2.2.2.2] (i1:Int)) fun x4=>bnd (if(i1:Int)=0 then(toB (Bj a0 ((w64 (56-(w64 (8*(i1:Int))))).toNat)))else s1.1) fun x5=>bnd (if(i1:Int)=1 then(toB (Bj a0 ((w64 (56-(w64 (8*(i1:Int))))).toNat)))else s1.2.1) fun x6=>bnd (if(i1:Int)=2 then(toB (Bj a0 ((w64 (56-(w64 (8*(i1:Int))))).toNat)))else s1.2.2.1) fun x7=>bnd (if(i1:Int)=3 then(toB (Bj a0 ((w64 (56-(w64 (8*(i1:Int))))).toNat)))else s1.2.2.2.1) fun x8=>bnd (if(i1:Int)=4 then(toB (Bj a0 ((w64 (56-(w64 (8*(i1:Int))))).toNat)))else s1.2.2.2.2.1) fun x9=>bnd (if(i1:Int)=5 then(toB (Bj a0 ((w64 (56-(w64 (8*(i1:Int))))).toNat)))else s1.2.2.2.2.2.1) fun x10=>bnd (if(i1:Int)=6 then(toB (Bj a0 ((w64 (56-(w64 (8*(i1:Int))))).toNat)))else s1.2.2.2.2.2.2.1) fun x11=>bnd (if(i1:Int)=7 then(toB (Bj a0 ((w64 (56-(w64 (8*(i1:Int))))).toNat)))else s1.2.2.2.2.2.2.2) fun x12=>some (x5,x6,x7,x8,x9,x10,x11,x12)else none
def Eb (s2:(List UInt8)):Option (((List UInt8))⊕((List UInt8))):=if(decide ((s2.length:Int)>1))=true then Ab (IZ s2) fun x16=>if(!x16)=true then Ab (cut s2 1 (s2.length:Int)) fun x17=>some (.inl x17)else some (.inr s2)else some (.inr s2)
def Fk (a0:Int):Option g_api_Item:=Ab (Ab (CR (LM a0) 8 0 (0,0,0,0,0,0,0,0)) fun x2=>some (x2.1,x2.2.1,x2.2.2.1,x2.2.2.2.1,x2.2.2.2.2.1,x2.2.2.2.2.2.1,x2.2.2.2.2.2.2.1,x2.2.2.2.2.2.2.2)) fun x1=>Ab (Ab (iter Eb FA ([x1.1,x1.2.1,x1.2.2.1,x1.2.2.2.1,x1.2.2.2.2.1,x1.2.2.2.2.2.1,x1.2.2.2.2.2.2.1,x1.2.2.2.2.2.2.2]:List UInt8)) fun x14=>some x14) fun x13=>Ab (Bg x13) fun x18=>some (⟨2,x18,[]⟩:g_api_Item)
theorem IK {a0 r}(hm:Fk a0=some r):Sf prog 236 [.d (.i a0)] (ag (Am r)):=by
 refine sq fun D0 As η0 m0 hd=> ?_;unfold Fk at hm;obtain⟨x1,q1,hm⟩:=Af hm;refine oB q1 fun x2 q2 q1=>gF (EM _ 8 _) q2 (fun p0 (p_0,p_1,p_2,p_3,p_4,p_5,p_6,p_7)=>⟨[(0,.d (.i a0)),(2,.pb 0 0),(3,.pb 1 0),(6,.d (.i p0))],[(0,.box 1 [.d (.b p_0),.d (.b p_1),.d (.b p_2),.d (.b p_3),.d (.b p_4),.d (.b p_5),.d (.b p_6),.d (.b p_7)] 300),(1,.box 0 [.d (.i 0),sl eB [],sl Am []] 192)],[],2⟩) fun i1 s1 Jl bl1=>cM bl1 (8:Int) (fun y1 q5 bl1=> ?_) fun e=> ?_
 ·unfold LM at q5;obtain⟨q7,q5⟩:=Bw q5;refine gsh (r:= .i (Bj a0 ((w64 (56-(w64 (8*(i1:Int))))).toNat))) (fun h=>q7)<|oB q5 fun x4 q8 q5=>TW (fun _=>q8)<|bE q5 ?_;intro x5 q5;refine bE q5 ?_;intro x6 q5;refine bE q5 ?_;intro x7 q5;refine bE q5 ?_;intro x8 q5;refine bE q5 ?_;intro x9 q5;refine bE q5 ?_;intro x10 q5;refine bE q5 ?_;intro x11 q5;refine bE q5 ?_;intro x12 q5;exact gstA D.b (toB (Bj a0 ((w64 (56-(w64 (8*(i1:Int))))).toNat))) q8<|gM bl1 lk q5
 subst e;obtain rfl:=AhS q1;let x1:=(x2.1,x2.2.1,x2.2.2.1,x2.2.2.2.1,x2.2.2.2.2.1,x2.2.2.2.2.2.1,x2.2.2.2.2.2.2.1,x2.2.2.2.2.2.2.2);refine gslA (k:=1) eB ([x1.1,x1.2.1,x1.2.2.1,x1.2.2.2.1,x1.2.2.2.2.1,x1.2.2.2.2.2.1,x1.2.2.2.2.2.2.1,x1.2.2.2.2.2.2.2]:List UInt8) (fun _=>rfl) ?_;obtain⟨x13,q17,hm⟩:=Af hm;refine oB q17 fun x14 q18 q17=>gjU 2 (fun(_:Unit)=>⟨[(2,.pb 0 0),(5,sl eB x14)],[(0,.box 0 [.d (.i 0),sl eB [],sl Am []] 192)],[],1⟩) (fun _=>True) (fun Jp bk4=> ?_) fun _ _=> ?_
 ·refine gI q18 (fun p=>⟨[(2,.pb 0 0),(5,sl eB p)],[(0,.box 0 [.d (.i 0),sl eB [],sl Am []] 192)],[],1⟩) fun s2 y2 Jl q21 bl2=>gspl 22 q21 (fun hc2 q21=> ?_) fun hc2 q21=> ?_
  ·refine gA q21 Qa fun x16 q23 q21=>gi q21 ?_ ?_<;>intro hc3 q21
   ·exact oB q21 fun x17 q24 q21=>gk eB 1 q24<|gN bl2 q21
   obtain rfl:=nR bl2 q21;exact gb bk4 hd () trivial
  refine gi' (b:=false) (fun h=>by cases h) (fun _=> ?_);obtain rfl:=nR bl2 q21;exact gb bk4 hd () trivial
 obtain rfl:=AhS q17;let x13:=x14;refine gD hm GI fun x18 q25 hm=> ?_;obtain rfl:=AhS hm;exact gE
def EI (a0:UInt64):Option g_api_Item:=Ab (Fk (w64 (a0.toNat:Int))) fun x1=>some x1
theorem Ht {a0 r}(hm:EI a0=some r):Sf prog 238 [.d (.u a0)] (ag (Am r)):=by
 refine sq ?_;intros;refine gA hm IK fun x1 q1 hm=> ?_;exact AhS hm▸gE
def IA (a0:ByteArray):Option g_api_Item:=Ab (app 1 ([]:List UInt8) a0.data.toList) fun x1=>some (⟨12,x1,[]⟩:g_api_Item)
theorem Oj {a0 r}(hm:IA a0=some r):Sf prog 237 [.d (.s a0)] (ag (Am r)):=by
 refine sq ?_;intros;refine oB hm fun x1 q1 hm=>gofS q1 ?_;exact AhS hm▸gE
def OM (a0:Bool):Option g_api_Item:=Ab (if a0=true then Ab (idx ([0]:List UInt8) 0) fun x2=>bnd (([0]:List UInt8).set (0:Int).toNat 255) fun x3=>some x3 else some ([0]:List UInt8)) fun x1=>some (⟨1,x1,[]⟩:g_api_Item)
theorem Yq {a0 r}(hm:OM a0=some r):Sf prog 240 [.d (.t a0)] (ag (Am r)):=by
 refine sq fun D0 As η0 m0 hd=>Wv (k:=1) eB ([0]:List UInt8) (fun _=>rfl)<|oB hm fun x1 q1 hm=>gj (fun(_:Unit)=>⟨[(2,.pb 0 0),(3,.ow 1)],[(0,.row 1 1 _ eB x1),(1,.box 0 [.d (.i 0),sl eB [],sl Am []] 192)],[],2⟩) (fun _=>True) (fun Jp bk1=> ?_) fun _ _=> ?_
 ·refine gi q1 ?_ ?_<;>intro hc1 q1
  ·refine oB q1 fun x2 q2 q1=>Jj (E:=eB) (fun _=>q2)<|bE q1 ?_;intro x3 q1;refine AdK (k:=1) (E:=eB) 255 (fun _=>rfl) q2 ?_;obtain rfl:=AhS q1;exact gb bk1 hd () trivial
  obtain rfl:=AhS q1;exact gb bk1 hd () trivial
 obtain rfl:=AhS hm;exact gE
def B9 (i1:Int)(x3:ByteArray)(s1:(List g_api_Item)):Option ((List g_api_Item)):=Ab (IA x3) fun x4=>Ab (app 56 s1 ([x4]:List g_api_Item)) fun x5=>some x5
def B3 (a0:List ByteArray):Option g_api_Item:=Ab (Ab (D5 B9 a0 0 ([]:List g_api_Item)) fun x2=>some x2) fun x1=>Ab (Gj x1) fun x6=>some x6
theorem Hp {a0 r}(hm:B3 a0=some r):Sf prog 239 [sl eS a0,.fn (.func 237) [] []] (ag (Am r)):=by
 refine sq ?_;intros;unfold B3 at hm;obtain⟨x1,q1,hm⟩:=Af hm;refine oB q1 fun x2 q2 q1=>Vk 0 Am 5 3<|H6 0 (E:=eS) (xs:=a0) 8 fun hle1=>gF (E0 _ _ _) q2 (fun p0 p=>⟨[(1,.fn (.func 237) [] []),(4,.pb 0 0),(5,.ow 1),(8,sl eS a0),(9,.d (.i (a0.length:Int))),(10,.d (.i p0))],[(0,.row 1 3 _ Am p),(1,.box 0 [.d (.i 0),sl eB [],sl Am []] 192)],[],2⟩) fun i1 s1 Jl bl1=>c0 bl1 (fun x3 y1 q6 q5 bl1=> ?_) fun e=> ?_
 ·exact gx eS 1 q6<|gA q5 Oj fun x4 q7 q5=>gq Am 3 [x4]<|oB q5 fun x5 q8 q5=>gp Am 3 q8<|gM bl1 hle1 q5
 subst e;obtain rfl:=AhS q1;let x1:=x2;refine gD hm IJ fun x6 q9 hm=> ?_;obtain rfl:=AhS hm;exact gE
def Kb (a0:g_api_Cert):Option g_api_Item:=Ab (Fk a0.Serial) fun x1=>Ab (IA a0.Issuer) fun x2=>Ab (IA a0.Subject) fun x3=>Ab (EI a0.Key) fun x4=>Ab (B3 a0.Names) fun x5=>Ab (Fk a0.From) fun x6=>Ab (Fk a0.Until) fun x7=>Ab (OM a0.Ca) fun x8=>Ab (Fk a0.Depth) fun x9=>Ab (B3 a0.Permit) fun x10=>Ab (Gj ([x1,x2,x3,x4,x5,x6,x7,x8,x9,x10]:List g_api_Item)) fun x11=>some x11
theorem RW {a0 r}(hm:Kb a0=some r):Sf prog 152 [ag (Ac a0)] (ag (Am r)):=by
 refine sq ?_;intros;refine gA hm IK fun x1 q1 hm=>gA hm Oj fun x2 q2 hm=>gA hm Oj fun x3 q3 hm=>gA hm Ht fun x4 q4 hm=>gA hm Hp fun x5 q5 hm=>gA hm IK fun x6 q6 hm=>gA hm IK fun x7 q7 hm=>gA hm Yq fun x8 q8 hm=>gA hm IK fun x9 q9 hm=> ?_;refine gA hm Hp fun x10 q10 hm=>gq Am 3 [x1,x2,x3,x4,x5,x6,x7,x8,x9,x10]<|gA hm IJ fun x11 q11 hm=> ?_;exact AhS hm▸gE
def Ix (a0:g_api_Promise):Option g_api_Item:=Ab (Fk a0.Log) fun x1=>Ab (Fk a0.At) fun x2=>Ab (EI a0.Leaf.1) fun x3=>Ab (EI a0.Leaf.2) fun x4=>Ab (EI a0.Sig.E) fun x5=>Ab (EI a0.Sig.S) fun x6=>Ab (Gj ([x1,x2,x3,x4,x5,x6]:List g_api_Item)) fun x7=>some x7
theorem SZ {a0 r}(hm:Ix a0=some r):Sf prog 308 [ag (Ad a0)] (ag (Am r)):=by
 refine sq ?_;intros;refine gA hm IK fun x1 q1 hm=>gA hm IK fun x2 q2 hm=>gA hm Ht fun x3 q3 hm=>gA hm Ht fun x4 q4 hm=>gA hm Ht fun x5 q5 hm=>gA hm Ht fun x6 q6 hm=>gq Am 3 [x1,x2,x3,x4,x5,x6]<|gA hm IJ fun x7 q7 hm=> ?_;exact AhS hm▸gE
def Bp (i1:Int)(x3:g_api_Promise)(s1:(List g_api_Item)):Option ((List g_api_Item)):=Ab (Ix x3) fun x4=>Ab (app 56 s1 ([x4]:List g_api_Item)) fun x5=>some x5
def BQ (a0:List g_api_Promise):Option g_api_Item:=Ab (Ab (D5 Bp a0 0 ([]:List g_api_Item)) fun x2=>some x2) fun x1=>Ab (Gj x1) fun x6=>some x6
theorem IL {a0 r}(hm:BQ a0=some r):Sf prog 307 [sl Ad a0,.fn (.func 308) [] []] (ag (Am r)):=by
 refine sq ?_;intros;unfold BQ at hm;obtain⟨x1,q1,hm⟩:=Af hm;refine oB q1 fun x2 q2 q1=>Vk 0 Am 5 3<|H6 0 (E:=Ad) (xs:=a0) 8 fun hle1=>gF (E0 _ _ _) q2 (fun p0 p=>⟨[(1,.fn (.func 308) [] []),(4,.pb 0 0),(5,.ow 1),(8,sl Ad a0),(9,.d (.i (a0.length:Int))),(10,.d (.i p0))],[(0,.row 1 3 _ Am p),(1,.box 0 [.d (.i 0),sl eB [],sl Am []] 192)],[],2⟩) fun i1 s1 Jl bl1=>c0 bl1 (fun x3 y1 q6 q5 bl1=> ?_) fun e=> ?_
 ·exact gx Ad 6 q6<|gA q5 SZ fun x4 q7 q5=>gq Am 3 [x4]<|oB q5 fun x5 q8 q5=>gp Am 3 q8<|gM bl1 hle1 q5
 subst e;obtain rfl:=AhS q1;let x1:=x2;refine gD hm IJ fun x6 q9 hm=> ?_;obtain rfl:=AhS hm;exact gE
def I5 (a0:g_api_Cert):Option g_api_Item:=Ab (Kb a0) fun x1=>Ab (BQ a0.Proms) fun x2=>Ab (Gj ([x1,x2]:List g_api_Item)) fun x3=>some x3
theorem Qh {a0 r}(hm:I5 a0=some r):Sf prog 250 [ag (Ac a0)] (ag (Am r)):=by
 refine sq ?_;intros;refine gA hm RW fun x1 q1 hm=>gA hm IL fun x2 q2 hm=>gq Am 3 [x1,x2]<|gA hm IJ fun x3 q3 hm=> ?_;exact AhS hm▸gE
def JF (a0:g_api_Cert):Option g_api_Item:=Ab (I5 a0) fun x1=>Ab (EI a0.Sig.E) fun x2=>Ab (EI a0.Sig.S) fun x3=>Ab (Gj ([x2,x3]:List g_api_Item)) fun x4=>Ab (Gj ([x1,x4]:List g_api_Item)) fun x5=>some x5
theorem UF {a0 r}(hm:JF a0=some r):Sf prog 210 [ag (Ac a0)] (ag (Am r)):=by
 refine sq ?_;intros;refine gA hm Qh fun x1 q1 hm=>gA hm Ht fun x2 q2 hm=>gA hm Ht fun x3 q3 hm=>gq Am 3 [x2,x3]<|gA hm IJ fun x4 q4 hm=>gq Am 3 [x1,x4]<|gA hm IJ fun x5 q5 hm=> ?_;exact AhS hm▸gE
def Cv (a0:g_api_Cert):Option Int:=Ab (Iw a0) fun x1=>if(!x1)=true then some 1 else Ab (JF a0) fun x2=>Ab (I1 x2) fun x3=>if((x3.2 !=0)||(decide ((x3.1.length:Int)>2048)))=true then some 2 else some 0
theorem Fe {a0 r}(hm:Cv a0=some r):Sf prog 130 [ag (Ac a0)] (.d (.i r)):=by
 refine sq ?_;intros;refine gA hm SY fun x1 q1 hm=>gi hm ?_ ?_<;>intro hc1 hm
 ·exact AhS hm▸gE
 refine gA hm UF fun x2 q2 hm=>gD hm Qd fun x3 q3 hm=>gi hm ?_ ?_<;>intro hc2 hm
 ·exact AhS hm▸gE
 exact AhS hm▸gE
def AL (a1:Int):Option (List g_api_Cert):=Ab (if(decide (a1<0))=true then none else some ()) fun x1=>Ab (bnd ((w64 (a1-(w64 (0-((0:Nat):Int)))))) fun x3=>if(decide (x3>0))=true then if 0≤x3∧x3*168≤140737488355328∧x3≤140737488355328 then some ([]:List g_api_Cert)else none else some ([]:List g_api_Cert)) fun x2=>some x2
theorem Gv {m As w a1 r}(S:St m (As) w)(hm:AL a1=some r):
  CH Tryz.prog 228 #[.slice none 0 0,vI a1] w fun v w'=> ∃(M:Mem),m≤M∧∃(rv0:Value) (rc0:List Value),St M ((row 13 rv0 rc0 r.length)::As) w'∧v=rv0∧Ck M rc0 r:=by
 unfold AL at hm;have L0:=Mem.rfl' m;refine Ob (args:=[.slice none 0 0,vI a1]) Tryz.func228 rfl Tryz.ntmps228 (Ah7 rfl)<|AN<|Aw<|F4 (v:= .slice none 0 0) rfl<|AG<|nrm ?_;obtain⟨x1,q1,hm⟩:=Af hm;have L1:=Mem.rfl' m;refine AN<|Km [5,6,7] (fun f' w'=> ∃(M1:Mem),m≤M1∧St M1 (As) w'∧PM f' []) ?_ ?_
 ·refine AN<|Aw<|AW (v:=vI a1) rfl<|ZP (m:=a1) (n:=0) rfl rfl<|AG<|nrm<|IF (t:=(decide (a1<0))) rfl (fun hc1=> ?_) (fun hc1=> ?_)
  ·replace q1:=ifT hc1 q1;cases q1
  replace q1:=ifF hc1 q1;refine FD<|nrm ?_;obtain rfl:=AhS q1;exact⟨R1,m,L1,S,trivial⟩
 rintro f1 w1 ho ⟨m1,l1,S1,ha⟩;obtain⟨u1,rfl⟩:=KR (N:=27) ho ha;replace L0:=Mem.tr L0 l1;clear S;obtain⟨x2,q2,hm⟩:=Af hm;have L2:=Mem.rfl' m1;refine AN<|Km [0,1,8,9,10,11,12,13,14,15,16,17,18,19,20,21,22,23,24,25] (fun f' w'=> ∃(M2:Mem) (v1:Value) (c1:List Value),m1≤M2∧St M2 ((row 13 v1 c1 x2.length)::As) w'∧Ck M2 c1 x2∧PM f' [(0,v1)]) ?_ ?_
 ·refine AN<|Aw<|AW (v:=vI a1) rfl<|AW (v:= .slice none 0 0) rfl<|Me rfl Tryz.underlying22<|AW (v:= .slice none 0 0) rfl<|Qs (n:=0) rfl Tryz.underlying22<|NJ (m:=0) (n:=((0:Nat):Int)) rfl rfl<|NJ (m:=a1) (n:=(w64 (0-((0:Nat):Int)))) rfl rfl ?_;obtain⟨x3,q3,q2⟩:=AbY q2;refine F4 (v:=vI x3) (Aip (fun z=>vI z) q3.symm)<|AG<|nrm<|AN<|Aw<|AW (v:=vI x3) rfl<|Yu (m:=x3) (n:=0) rfl rfl<|AG<|nrm ?_;refine IF (t:=(decide (x3>0))) rfl (fun hc2=> ?_) (fun hc2=> ?_)
  ·replace q2:=ifT hc2 q2;refine Aw<|AW (v:= .slice none 0 0) rfl<|AW (v:= .slice none 0 0) rfl<|Me rfl Tryz.underlying22<|ZT rfl Tryz.underlying22 Tryz.sizeOf59 rfl<|AW (v:=vI x3) rfl ?_;obtain⟨q4,q2⟩:=Bw q2;refine ZW (bytes:=168) (sz:=13) (k:=x3) (ti:=Tryz.t59) S1 rfl rfl q4 Tryz.underlying22 Tryz.underlying3 Tryz.type59 rfl rfl rfl rfl ?_;intro v2 c2 w2 S2;replace S2:St _ ((row 13 v2 c2 x3.toNat)::As) _:=S2;clear S1;refine AW (v:= .slice none 0 0) rfl<|Qs (n:=0) rfl Tryz.underlying22<|Xe (i:=0) S2 rfl rfl Tryz.underlying22 Tryz.sizeOf59 rfl (j:=0) rfl (Int.le_refl 0) (AiI _) ?_;intro v3 S3;rw[show c2.take ((0:Int).toNat*13)=[]from by simp]at S3;have h2:Ck m1 [] ([]:List g_api_Cert):=Ck.nil;replace S3:St _ ((row 13 v3 [] ([]:List g_api_Cert).length)::As) _:=S3;clear S2;refine F4 (v:=v3) rfl<|AG<|nrm ?_;obtain rfl:=AhS q2;exact⟨R1,m1,_,_,L2,S3,h2,⟨rfl,trivial⟩⟩
  replace q2:=ifF hc2 q2;refine FD<|nrm ?_;have S4:=St.rowNil S1 13;have h3:Ck m1 [] ([]:List g_api_Cert):=Ck.nil;replace S4:St _ ((row 13 (.slice none 0 0) [] ([]:List g_api_Cert).length)::As) _:=S4;clear S1;obtain rfl:=AhS q2;exact⟨R1,m1,_,_,L2,S4,h3,⟨rfl,trivial⟩⟩
 rintro f2 w3 ho ⟨m2,v1,c1,l2,S5,h1,ha⟩;obtain⟨u2,rfl⟩:=KR (N:=27) ho ha;replace L0:=Mem.tr L0 l2;clear S1;refine AN<|Aw<|AW (v:=v1) rfl<|F4 (v:=v1) rfl<|AG<|nrm<|IE<|QC ?_;intro we hpd;replace S5:=St.pd S5 hpd;obtain rfl:=AhS hm;exact Za [_] rfl ⟨rfl,trivial⟩ ⟨_,L0,_,_,S5,rfl,h1⟩
theorem GA {a1 r}(hm:AL a1=some r):Sp prog 228 [.d (.v (.slice none 0 0)),.d (.i a1)] [] 0 (is (.ow 0) [.row 0 13 _ Ac r] 1):=
 gnl call228 OS (fun S=>Gv S hm)
def AJ (i1:Int)(x3:List g_api_Cert)(s1:Int):Option (Int):=Ab (bnd ((w64 (s1+(x3.length:Int)))) fun x5=>if(decide (x5<0))=true then none else some x5) fun x4=>some x4
def AU (i2:Int)(x9:List g_api_Cert)(s2:(List g_api_Cert)):Option ((List g_api_Cert)):=Ab (app 168 s2 x9) fun x10=>some x10
def A5 (a0:List (List g_api_Cert)):Option (List g_api_Cert):=Ab (Ab (D5 AJ a0 0 0) fun x2=>some x2) fun x1=>Ab (AL x1) fun x6=>Ab (Ab (D5 AU a0 0 x6) fun x8=>some x8) fun x7=>some x7
theorem GW {a0 r}(hm:A5 a0=some r):Sp prog 146 [sl (eL Ac) a0] [] 0 (is (.ow 0) [.row 0 13 _ Ac r] 1):=by
 refine sq ?_;intros;unfold A5 at hm;obtain⟨x1,q1,hm⟩:=Af hm;refine oB q1 fun x2 q2 q1=>H6 0 (E:=(eL Ac)) (xs:=a0) 9 fun hle1=>gF (E0 _ _ _) q2 (fun p0 p=>⟨[(0,sl (eL Ac) a0),(3,.d (.i p)),(9,sl (eL Ac) a0),(10,.d (.i (a0.length:Int))),(11,.d (.i p0))],[],[],0⟩) fun i1 s1 Jl bl1=>c0 bl1 (fun x3 y1 q6 q5 bl1=> ?_) fun e=> ?_
 ·refine oB q5 fun x4 q7 q5=>gx (eL Ac) 1 q6<|bE q7 ?_;intro x5 q7;refine gi q7 ?_ ?_<;>intro hc1 q7
  ·cases q7
  obtain rfl:=AhS q7;let x4:=x5;exact gM bl1 hle1 q5
 subst e;obtain rfl:=AhS q1;let x1:=x2;refine gD hm GA fun x6 q9 hm=> ?_;obtain⟨x7,q10,hm⟩:=Af hm;refine oB q10 fun x8 q11 q10=>H6 2 (E:=(eL Ac)) (xs:=a0) 25 fun hle2=>gF (E0 _ _ _) q11 (fun p0 p=>⟨[(6,.ow 0),(25,sl (eL Ac) a0),(26,.d (.i (a0.length:Int))),(27,.d (.i p0))],[(0,.row 0 13 _ Ac p)],[],1⟩) fun i2 s2 Jl bl2=>c0 bl2 (fun x9 y2 q15 q14 bl2=> ?_) fun e=> ?_
 ·exact gx (eL Ac) 1 q15<|oB q14 fun x10 q16 q14=>gp Ac 13 q16<|gM bl2 hle2 q14
 subst e;obtain rfl:=AhS q10;let x7:=x8;obtain rfl:=AhS hm;exact gE
def El (i1:Int)(x3:g_api_Cert)(s1:Unit):Option ((Unit)⊕Int):=Ab (Cv x3) fun x4=>if(x4 !=0)=true then some (.inr x4)else some (.inl ())
def Gq (a0:g_path_trip):Option Int:=Ab (A5 ([a0.chain_,a0.roots_]:List (List g_api_Cert))) fun x1=>Ab (Et El x1 0 ()) fun x2=>match x2 with| .inr r=>some r| .inl y1=>some 0
theorem Pp {a0 r}(hm:Gq a0=some r):Sf prog 73 [ag (Eu a0)] (.d (.i r)):=by
 refine sq ?_;intros;refine gq (eL Ac) 1 [a0.chain_,a0.roots_]<|gD hm GW fun x1 q1 hm=>oB hm fun x2 q2 hm=>H6 0 (E:=Ac) (xs:=x1) 11 fun hle1=>gF (ER _ _ _) q2 (fun p0 _=>⟨[(11,sl Ac x1),(12,.d (.i (x1.length:Int))),(13,.d (.i p0)),(1,.pb 0 0)],[(0,.box 0 [sl Ac a0.roots_,sl Ac a0.chain_,.d (.s a0.name_),.d (.i a0.now_)] 124)],[],1⟩) fun i1 s1 Jl bl1=>cR bl1 (fun x3 y2 q6 q5 bl1=> ?_) fun e=> ?_
 ·refine gx Ac 13 q6<|gA q5 Fe fun x4 q7 q5=>gi q5 ?_ ?_<;>intro hc1 q5
  ·obtain rfl:=nT bl1 q5;exact AhS hm▸gE
  exact gT bl1 hle1 q5
 subst e;exact AhS hm▸gE
def EY (a0:g_path_trip)(a1:g_api_Cert):Option Bool:=bnd (((decide (a1.From≤a0.now_))&&(decide (a1.Until>a0.now_)))) fun x1=>some x1
theorem Jo {a0 a1 r}(hm:EY a0 a1=some r):Sf prog 147 [ag (Eu a0),ag (Ac a1)] (.d (.t r)):=by
 refine sq ?_;intros;refine bE hm ?_;intro x1 hm;obtain rfl:=AhS hm;exact gE
def BS (a0:List ByteArray)(a1:ByteArray)(i1:Int)(s1:Unit):Option ((Unit)⊕Int):=Ab (idx a0 (i1:Int)) fun x3=>if(eqS a1 x3)=true then some (.inr (i1:Int))else some (.inl ())
def CZ (a0:List ByteArray)(a1:ByteArray):Option Int:=Ab (BU (BS a0 a1) a0.length 0 ()) fun x1=>match x1 with| .inr r=>some r| .inl y1=>some (-1)
theorem Ii {a0 a1 r}(hm:CZ a0 a1=some r):Sf prog 229 [sl eS a0,.d (.s a1)] (.d (.i r)):=by
 refine sq ?_;intros;refine oB hm fun x1 q1 hm=>H6 0 (E:=eS) (xs:=a0) 6 fun hle1=>gF (EN _ _ _) q1 (fun p0 _=>⟨[(0,sl eS a0),(1,.d (.s a1)),(7,.d (.i (a0.length:Int))),(8,.d (.i p0))],[],[],0⟩) fun i1 s1 Jl bl1=>cN bl1 (a0.length:Int) (fun y2 q4 bl1=> ?_) fun e=> ?_
 ·refine oB q4 fun x3 q6 q4=>gx eS 1 q6<|gi q4 ?_ ?_<;>intro hc1 q4
  ·obtain rfl:=nT bl1 q4;exact AhS hm▸gE
  exact gT bl1 hle1 q4
 subst e;exact AhS hm▸gE
def BT (a0:List ByteArray)(a1:ByteArray):Option Bool:=Ab (CZ a0 a1) fun x1=>some (decide (x1≥0))
theorem Hr {a0 a1 r}(hm:BT a0 a1=some r):Sf prog 148 [sl eS a0,.d (.s a1)] (.d (.t r)):=by
 refine sq ?_;intros;refine gA hm Ii fun x1 q1 hm=> ?_;exact AhS hm▸gE
def Ct (a0:g_path_trip)(i1:Int)(s1:Bool):Option ((Bool)⊕Int):=Ab (idx a0.chain_ (i1:Int)) fun x3=>Ab (gu (!s1) (EY a0 x3)) fun x4=>if(x3.Ca==(decide ((i1:Int)>0)))=true then some (.inl (s1||(!x4)))else some (.inr 191)
def FH (a0:g_path_trip):Option Int:=Ab (BU (Ct a0) a0.chain_.length 0 false) fun x1=>match x1 with| .inr r=>some r| .inl y1=>Ab (idx a0.chain_ 0) fun x5=>Ab (BT x5.Names a0.name_) fun x6=>if(!x6)=true then some 110 else if y1=true then some 190 else some 0
theorem Oh {a0 r}(hm:FH a0=some r):Sf prog 74 [ag (Eu a0)] (.d (.i r)):=by
 refine sq ?_;intros;refine oB hm fun x1 q1 hm=>H6 0 (E:=Ac) (xs:=a0.chain_) 7 fun hle1=>gF (EN _ _ _) q1 (fun p0 p=>⟨[(1,.pb 0 0),(3,.d (.t p)),(7,sl Ac a0.chain_),(8,.d (.i (a0.chain_.length:Int))),(9,.d (.i p0))],[(0,.box 0 [sl Ac a0.roots_,sl Ac a0.chain_,.d (.s a0.name_),.d (.i a0.now_)] 124)],[],1⟩) fun i1 s1 Jl bl1=>cN bl1 (a0.chain_.length:Int) (fun y2 q4 bl1=> ?_) fun e=> ?_
 ·refine oB q4 fun x3 q6 q4=>gx Ac 13 q6<|oB q4 fun x4 q7 q4=>gcH q7 Jo<|gi q4 ?_ ?_<;>intro hc1 q4
  ·exact gT bl1 hle1 q4
  obtain rfl:=nT bl1 q4;obtain rfl:=AhS hm;exact gE
 subst e;let y1:=s1;refine oB hm fun x5 q8 hm=>gx Ac 13 q8<|gA hm Hr fun x6 q9 hm=>gi hm ?_ ?_<;>intro hc3 hm
 ·obtain rfl:=AhS hm;exact gE
 refine gi hm ?_ ?_<;>intro hc4 hm
 ·obtain rfl:=AhS hm;exact gE
 obtain rfl:=AhS hm;exact gE
def HC (a0:g_api_Cert):Option ((List UInt8)×Int):=Ab (Cv a0) fun x1=>if(x1 !=0)=true then some (([]:List UInt8),x1)else Ab (I5 a0) fun x2=>Ab (I1 x2) fun x3=>some (x3.1,x3.2)
theorem Ox {a0 r}(hm:HC a0=some r):Sp prog 151 [ag (Ac a0),.fn (.func 250) [] []] [] 0 (is (.tup [.ow 0,.d (.i r.2)]) [.row 0 1 _ eB r.1] 1):=by
 refine sq ?_;intros;refine gA hm Fe fun x1 q1 hm=>gi hm ?_ ?_<;>intro hc1 hm
 ·refine QV eB 4 1 ?_;exact AhS hm▸gE
 refine gA hm Qh fun x2 q2 hm=>gD hm Qd fun x3 q3 hm=> ?_;exact AhS hm▸gE
def I6 (a0:g_api_Cert):Option ((List UInt8)×Int):=Ab (HC a0) fun x1=>some (x1.1,x1.2)
theorem Qi {a0 r}(hm:I6 a0=some r):Sp prog 164 [ag (Ac a0)] [] 0 (is (.tup [.ow 0,.d (.i r.2)]) [.row 0 1 _ eB r.1] 1):=by
 refine sq ?_;intros;refine gD hm Ox fun x1 q1 hm=> ?_;exact AhS hm▸gE
def H4 (a0:UInt64)(a1:UInt64):Option (UInt64×UInt64):=bnd (((a0&&&4294967295)*(a1&&&4294967295))) fun x1=>bnd ((((Ey a0 32)*(a1&&&4294967295))+(Ey x1 32))) fun x2=>bnd (((x2&&&4294967295)+((a0&&&4294967295)*(Ey a1 32)))) fun x3=>bnd (((((Ey a0 32)*(Ey a1 32))+(Ey x2 32))+(Ey x3 32))) fun x4=>some (x4,(a0*a1))
theorem Lu {a0 a1 r}(hm:H4 a0 a1=some r):Sf prog 304 [.d (.u a0),.d (.u a1)] (.tup [.d (.u r.1),.d (.u r.2)]):=by
 refine sq ?_;intros;refine bE hm ?_;intro x1 hm;refine bE hm ?_;intro x2 hm;refine bE hm ?_;intro x3 hm;refine bE hm ?_;intro x4 hm;obtain rfl:=AhS hm;exact gE
def Fv (a0:UInt64):Option Int:=Ab (if(decide ((a0.toNat:Int)≥4294967296))=true then some ((Ey a0 32),32)else some (a0,0)) fun x1=>Ab (if(decide ((x1.1.toNat:Int)≥65536))=true then some ((Ey x1.1 16),(w64 (x1.2+16)))else some (x1.1,x1.2)) fun x2=>Ab (if(decide ((x2.1.toNat:Int)≥256))=true then some ((Ey x2.1 8),(w64 (x2.2+8)))else some (x2.1,x2.2)) fun x3=>Ab (idx str_0.data.toList ((toB (x3.1.toNat:Int)).toNat:Int)) fun x4=>bnd ((w64 (x3.2+(w64 (x4.toNat:Int))))) fun x5=>some x5
theorem Lv {a0 r}(hm:Fv a0=some r):Sf prog 244 [.d (.u a0)] (.d (.i r)):=by
 refine sq fun D0 As η0 m0 hd=>oB hm fun x1 q1 hm=>gj (fun(_:Unit)=>let (y_0,y_1):=x1; ⟨[(0,.d (.u y_0)),(2,.d (.i y_1))],[],[],0⟩) (fun _=>True) (fun Jp bk1=> ?_) fun _ _=> ?_
 ·refine gi q1 ?_ ?_<;>intro hc1 q1
  ·obtain rfl:=AhS q1;exact gb bk1 hd () trivial
  obtain rfl:=AhS q1;exact gb bk1 hd () trivial
 refine oB hm fun x2 q2 hm=>gj (fun(_:Unit)=>let (y_0,y_1):=x2; ⟨[(0,.d (.u y_0)),(2,.d (.i y_1))],[],[],0⟩) (fun _=>True) (fun Jp bk2=> ?_) fun _ _=> ?_
 ·refine gi q2 ?_ ?_<;>intro hc2 q2
  ·obtain rfl:=AhS q2;exact gb bk2 hd () trivial
  obtain rfl:=AhS q2;exact gb bk2 hd () trivial
 refine oB hm fun x3 q3 hm=>gj (fun(_:Unit)=>let (y_0,y_1):=x3; ⟨[(0,.d (.u y_0)),(2,.d (.i y_1))],[],[],0⟩) (fun _=>True) (fun Jp bk3=> ?_) fun _ _=> ?_
 ·refine gi q3 ?_ ?_<;>intro hc3 q3
  ·obtain rfl:=AhS q3;exact gb bk3 hd () trivial
  obtain rfl:=AhS q3;exact gb bk3 hd () trivial
 refine oB hm fun x4 q4 hm=>Ag6 (fun _=>q4)<|bE hm ?_;intro x5 hm;obtain rfl:=AhS hm;exact gE
def CP (a0:UInt64):Option Int:=Ab (Fv a0) fun x1=>some (w64 (64-x1))
theorem Lw {a0 r}(hm:CP a0=some r):Sf prog 359 [.d (.u a0)] (.d (.i r)):=by
 refine sq ?_;intros;refine gA hm Lv fun x1 q1 hm=> ?_;exact AhS hm▸gE
def Fx (x4:UInt64)(x5:UInt64)(x7:UInt64)(s1:UInt64×UInt64):Option ((UInt64×UInt64)⊕(UInt64)):=if((decide ((s1.1.toNat:Int)≥4294967296))||(decide (((s1.1*x5).toNat:Int)>(((4294967296*s1.2)+x7).toNat:Int))))=true then if(decide (((s1.2+x4).toNat:Int)≥4294967296))=true then some (.inr (s1.1-1))else some (.inl ((s1.1-1),(s1.2+x4)))else some (.inr s1.1)
def Fw (x4:UInt64)(x5:UInt64)(x8:UInt64)(s2:UInt64×UInt64):Option ((UInt64×UInt64)⊕(UInt64)):=if((decide ((s2.2.toNat:Int)≥4294967296))||(decide (((s2.2*x5).toNat:Int)>(((4294967296*s2.1)+x8).toNat:Int))))=true then if(decide (((s2.1+x4).toNat:Int)≥4294967296))=true then some (.inr (s2.2-1))else some (.inl ((s2.1+x4),(s2.2-1)))else some (.inr s2.2)
def H5 (a0:UInt64)(a1:UInt64)(a2:UInt64):Option (UInt64×UInt64):=Ab (if((a2.toNat:Int)==0)=true then none else some ()) fun x1=>Ab (if(decide ((a2.toNat:Int)≤(a0.toNat:Int)))=true then none else some ()) fun x2=>if((a0.toNat:Int)==0)=true then if a2≠0 then if a2≠0 then some ((a1/a2),(a1%a2))else none else none else Ab (CP a2) fun x3=>bnd ((Ey (K9 a2 ((toU x3).toNat)) 32)) fun x4=>bnd (((K9 a2 ((toU x3).toNat))&&&4294967295)) fun x5=>bnd (((K9 a0 ((toU x3).toNat))|||(Ey a1 ((64-(toU x3)).toNat)))) fun x6=>bnd ((Ey (K9 a1 ((toU x3).toNat)) 32)) fun x7=>bnd (((K9 a1 ((toU x3).toNat))&&&4294967295)) fun x8=>if x4≠0 then Ab (Ab (iter (Fx x4 x5 x7) FA ((x6/x4),(x6-((x6/x4)*x4)))) fun x10=>some x10) fun x9=>bnd ((((x6*4294967296)+x7)-(x9*(K9 a2 ((toU x3).toNat))))) fun x12=>if x4≠0 then Ab (Ab (iter (Fw x4 x5 x8) FA ((x12-((x12/x4)*x4)),(x12/x4))) fun x14=>some x14) fun x13=>bnd ((Ey (((x12*4294967296)+x8)-(x13*(K9 a2 ((toU x3).toNat)))) ((toU x3).toNat))) fun x16=>some (((x9*4294967296)+x13),x16)else none else none
theorem O3 {a0 a1 a2 r}(hm:H5 a0 a1 a2=some r):Sf prog 306 [.d (.u a0),.d (.u a1),.d (.u a2)] (.tup [.d (.u r.1),.d (.u r.2)]):=by
 refine sq fun D0 As η0 m0 hd=>oB hm fun x1 q1 hm=>gi q1 (fun hc1 q1=> ?_) fun hc1 q1=> ?_
 ·cases q1
 obtain rfl:=AhS q1;refine oB hm fun x2 q2 hm=>gi q2 (fun hc2 q2=> ?_) fun hc2 q2=> ?_
 ·cases q2
 obtain rfl:=AhS q2;refine gi hm ?_ ?_<;>intro hc3 hm
 ·obtain⟨q3,hm⟩:=Bw hm;refine Acm (d:= .u a2) (r:= .u (a1/a2)) (fun h=>q3) ?_;obtain⟨q4,hm⟩:=Bw hm;refine Acm (d:= .u a2) (r:= .u (a1%a2)) (fun h=>q4) ?_;obtain rfl:=AhS hm;exact gE
 refine gA hm Lw fun x3 q5 hm=>bE hm ?_;intro x4 hm;refine bE hm ?_;intro x5 hm;refine bE hm ?_;intro x6 hm;refine bE hm ?_;intro x7 hm;refine bE hm ?_;intro x8 hm;obtain⟨q11,hm⟩:=Bw hm;refine Acm (d:= .u x4) (r:= .u (x6/x4)) (fun h=>q11) ?_;obtain⟨x9,q12,hm⟩:=Af hm;refine oB q12 fun x10 q13 q12=>gjU 0 (fun(_:Unit)=>⟨[(2,.d (.u (K9 a2 ((toU x3).toNat)))),(8,.d (.u (toU x3))),(9,.d (.u x4)),(10,.d (.u x5)),(11,.d (.u x6)),(13,.d (.u x7)),(14,.d (.u x8)),(15,.d (.u x10))],[],[],0⟩) (fun _=>True) (fun Jp bk4=> ?_) fun _ _=> ?_
 ·refine gI q13 (fun(p_0,p_1)=>⟨[(2,.d (.u (K9 a2 ((toU x3).toNat)))),(8,.d (.u (toU x3))),(9,.d (.u x4)),(10,.d (.u x5)),(11,.d (.u x6)),(13,.d (.u x7)),(14,.d (.u x8)),(15,.d (.u p_0)),(16,.d (.u p_1))],[],[],0⟩) fun s1 y1 Jl q16 bl1=>gi q16 ?_ ?_<;>intro hc4 q16
  ·refine gi q16 ?_ ?_<;>intro hc5 q16
   ·obtain rfl:=nR bl1 q16;exact gb bk4 hd () trivial
   exact gN bl1 q16
  obtain rfl:=nR bl1 q16;exact gb bk4 hd () trivial
 obtain rfl:=AhS q12;let x9:=x10;refine bE hm ?_;intro x12 hm;obtain⟨q19,hm⟩:=Bw hm;refine Acm (d:= .u x4) (r:= .u (x12/x4)) (fun h=>q19) ?_;obtain⟨x13,q20,hm⟩:=Af hm;refine oB q20 fun x14 q21 q20=>gjU 2 (fun(_:Unit)=>⟨[(2,.d (.u (K9 a2 ((toU x3).toNat)))),(8,.d (.u (toU x3))),(14,.d (.u x8)),(15,.d (.u x9)),(17,.d (.u x12)),(18,.d (.u x14))],[],[],0⟩) (fun _=>True) (fun Jp bk6=> ?_) fun _ _=> ?_
 ·refine gI q21 (fun(p_0,p_1)=>⟨[(2,.d (.u (K9 a2 ((toU x3).toNat)))),(8,.d (.u (toU x3))),(9,.d (.u x4)),(10,.d (.u x5)),(14,.d (.u x8)),(15,.d (.u x9)),(16,.d (.u p_0)),(17,.d (.u x12)),(18,.d (.u p_1))],[],[],0⟩) fun s2 y2 Jl q24 bl2=>gi q24 ?_ ?_<;>intro hc6 q24
  ·refine gi q24 ?_ ?_<;>intro hc7 q24
   ·obtain rfl:=nR bl2 q24;exact gb bk6 hd () trivial
   exact gN bl2 q24
  obtain rfl:=nR bl2 q24;exact gb bk6 hd () trivial
 obtain rfl:=AhS q20;let x13:=x14;refine bE hm ?_;intro x16 hm;obtain rfl:=AhS hm;exact gE
def GL (a0:UInt64)(a1:UInt64)(a2:UInt64):Option UInt64:=if a2≠0 then Ab (H5 (a0%a2) a1 a2) fun x1=>some x1.2 else none
theorem O2 {a0 a1 a2 r}(hm:GL a0 a1 a2=some r):Sf prog 319 [.d (.u a0),.d (.u a1),.d (.u a2)] (.d (.u r)):=by
 refine sq ?_;intros;unfold GL at hm;obtain⟨q1,hm⟩:=Bw hm;refine Acm (d:= .u a2) (r:= .u (a0%a2)) (fun h=>q1)<|gA hm O3 fun x1 q2 hm=> ?_;exact AhS hm▸gE
def CE (a0:UInt64)(a1:UInt64)(a2:UInt64):Option UInt64:=Ab (H4 a1 a2) fun x1=>Ab (GL x1.1 x1.2 a0) fun x2=>some x2
theorem FE {a0 a1 a2 r}(hm:CE a0 a1 a2=some r):Sf prog 260 [.d (.u a0),.d (.u a1),.d (.u a2)] (.d (.u r)):=by
 refine sq ?_;intros;refine gA hm Lu fun x1 q1 hm=>gA hm O2 fun x2 q2 hm=> ?_;exact AhS hm▸gE
def CX {σ:Type}(p0:σ→Bool→Option (Bool×σ))(k0:UInt64)(s1:Int×σ):Option ((Int×σ)⊕((σ)⊕(UInt64×σ))):=if(decide (s1.1≥0))=true then if(0:Int)≤s1.1 then Ab (p0 s1.2 (((k0&&&(K9 1 s1.1.toNat)).toNat:Int) !=0)) fun x4=>if(!x4.1)=true then some (.inr (.inr (k0,x4.2)))else some (.inl ((w64 (s1.1-1)),x4.2))else none else some (.inr (.inl s1.2))
def HB {σ:Type}(p0:σ→Bool→Option (Bool×σ))(k0:UInt64)(s0:σ):Option (UInt64×σ):=Ab (Fv k0) fun x1=>Ab (iter (CX p0 k0) FA ((w64 (x1-1)),s0)) fun x2=>match x2 with| .inr r=>some r| .inl y1=>some (k0,y1)
theorem Om {σ:Type}{p0:σ→Bool→Option (Bool×σ)}{k0 s0 r}(hm:HB p0 k0 s0=some r)(g:Value)(R:σ→Mem→Ow)(hcb:Ye prog g (fun x=> [.d (.t x)]) R p0):Sp prog 373 [.ow 0,.pb 1 0] [.hp 0 (.cb g σ R s0),.box 1 [.d (.u k0)] 32] 2 (is (.tup []) [.hp 0 (.cb g σ R r.2),.box 1 [.d (.u r.1)] 32] 2):=by
 refine sq ?_;intros;refine gA hm Lv fun x1 q1 hm=>oB hm fun x2 q2 hm=>gI q2 (fun(p_0,p_1)=>⟨[(0,.ow 0),(1,.pb 1 0),(3,.d (.i p_0))],[(0,.box 1 [.d (.u k0)] 32),(1,.hp 0 (.cb g σ R p_1))],[],2⟩) fun s1 y2 Jl q5 bl1=>gi q5 ?_ ?_<;>intro hc1 q5
 ·obtain⟨q7,q5⟩:=Bw q5;refine gsh (r:= .u (K9 1 s1.1.toNat)) (fun h=>q7)<|oB q5 fun x4 q8 q5=>gcb (((k0&&&(K9 1 s1.1.toNat)).toNat:Int) !=0) hcb q8<|gi q5 ?_ ?_<;>intro hc2 q5
  ·obtain rfl:=nR bl1 q5;obtain rfl:=AhS hm;exact gE
  exact gN bl1 q5
 obtain rfl:=nR bl1 q5;let y1:=s1.2;obtain rfl:=AhS hm;exact gE
def I2 (a0:UInt64):Option UInt64:=some a0
theorem Qe {a0 r}(hm:I2 a0=some r):Sp prog 338 [.d (.u a0)] [] 0 (is (.fn (.func 373) [] [.pb 0 0]) [.box 0 [.d (.u r)] 32] 1):=by
 refine sq ?_;intros;exact AhS hm▸gE
def CB (a1:UInt64)(b6:Bool)(s1:UInt64):Option (UInt64):=Ab (CE 2305843009213691579 s1 s1) fun x3=>if b6=true then Ab (CE 2305843009213691579 x3 a1) fun x4=>some x4 else some x3
def En (a1:UInt64)(a2:UInt64):Option UInt64:=Ab (I2 a2) fun x1=>Ab (HB (fun(s:UInt64) (b0:Bool)=>Ab (CB a1 b0 s) fun y=>some (true,y)) x1 1) fun x2=>some x2.2
theorem MH {a1 a2 r}(hm:En a1 a2=some r):Sf prog 282 [.fn (.func 260) [.d (.u 2305843009213691579)] [],.d (.u a1),.d (.u a2)] (.d (.u r)):=
 spR call282 func282 rfl ntmps282 rfl fun D0 As η0 m0 hD hd=>by
  unfold En at hm;refine gD hm Qe fun x1 q1 hm=>oB hm fun x2 q2 hm=>LS hD (n0:=0) 4 4 [⟨3,3,32,[.d (.u x1)],[.d (.u x2.1)]⟩] (gt:=10) (ps:=[11]) [(3,.pb 0 0),(4,.pb 1 0),(7,.pb 2 0),(10,.fn (.func 373) [] [.pb 3 0])] (fun(y1:UInt64)=> [(0,.box 2 [.d (.u y1)] 32),(1,.box 1 [.d (.u a1)] 32),(2,.box 0 [.fn (.func 260) [.d (.u 2305843009213691579)] []] 248)]) (fun(_:Unit)=> []) (fun x=> [.d (.t x)]) (fun(s1:UInt64) (b6:Bool)=>⟨[(3,.pb 0 0),(4,.pb 1 0),(7,.pb 2 0),(8,.d (.t b6)),(10,.fn (.func 373) [] [.pb 3 0])],[(0,.box 2 [.d (.u s1)] 32),(1,.box 1 [.d (.u a1)] 32),(2,.box 0 [.fn (.func 260) [.d (.u 2305843009213691579)] []] 248)],[],4⟩) (pN fun x s=>CB a1 x s) 1 hd (via Sum.inl hyN rfl fun g R h=>Om q2 g R h) rfl (fun _=>rfl) (fun _=>rfl) (fun _=>rfl) (fun _=>rfl) ?_ ?_ ?_ ?_
  ·intro s1 b6 s' hp l D0 As η0 m0 hd Ja ba;exact gb ba hd () trivial
  ·intro s1 b6 s' hp l D0 As η0 m0 hd Jb bb Jr br;obtain⟨z1,q3,hp⟩:=Ah2.1 hp;subst hp;unfold CB at q3;refine gA q3 FE fun x3 q4 q3=>gi q3 ?_ ?_<;>intro hc1 q3
   ·refine gA q3 FE fun x4 q5 q3=> ?_;obtain rfl:=AhS q3;exact gb bb hd x4 rfl
   obtain rfl:=AhS q3;exact gb bb hd x3 rfl
  ·intro x hx;have hx:=Sum.inl.inj hx;subst hx;exact AhS hm▸gE
  intro y hy;cases hy
def Ec (a0:UInt64)(a1:UInt64):Option UInt64:=Ab (En a0 a1) fun x1=>some x1
theorem Lk {a0 a1 r}(hm:Ec a0 a1=some r):Sf prog 213 [.d (.u a0),.d (.u a1)] (.d (.u r)):=by
 refine sq ?_;intros;refine gA hm MH fun x1 q1 hm=> ?_;exact AhS hm▸gE
def Fm (a0:UInt64):Option Bool:=Ab (gu ((decide ((a0.toNat:Int)>0))&&(decide ((a0.toNat:Int)<2305843009213691579))) (Ec a0 1152921504606845789)) fun x1=>bnd ((((decide ((a0.toNat:Int)>0))&&(decide ((a0.toNat:Int)<2305843009213691579)))&&((x1.toNat:Int)==1))) fun x2=>some x2
theorem MI {a0 r}(hm:Fm a0=some r):Sf prog 133 [.d (.u a0)] (.d (.t r)):=by
 refine sq ?_;intros;refine oB hm fun x1 q1 hm=>gcH q1 Lk<|bE hm ?_;intro x2 hm;obtain rfl:=AhS hm;exact gE
def Eo (a0:UInt64):Option UInt64:=Ab (Ec 4 a0) fun x1=>some x1
theorem Ku {a0 r}(hm:Eo a0=some r):Sf prog 162 [.d (.u a0)] (.d (.u r)):=by
 refine sq ?_;intros;refine gA hm Lk fun x1 q1 hm=> ?_;exact AhS hm▸gE
def It (a1:UInt64)(s1:(List UInt8)×Int):Option (((List UInt8)×Int)⊕((List UInt8))):=if(decide (s1.2≥0))=true then if(0:Int)≤(w64 (8*s1.2))then Ab (app 1 s1.1 ([(toB ((Ey a1 ((w64 (8*s1.2)).toNat)).toNat:Int))]:List UInt8)) fun x4=>some (.inl (x4,(w64 (s1.2-1))))else none else some (.inr s1.1)
def FN (a0:List UInt8)(a1:UInt64)(a2:Int):Option (List UInt8):=Ab (Ab (iter (It a1) FA (a0,(w64 (a2-1)))) fun x2=>some x2) fun x1=>some x1
theorem RV {a0 a1 a2 r}(hm:FN a0 a1 a2=some r):Sp prog 241 [.ow 0,.d (.u a1),.d (.i a2)] [.row 0 1 _ eB a0] 1 (is (.ow 1) [.row 1 1 _ eB r] 2):=by
 refine sq ?_;intros;unfold FN at hm;obtain⟨x1,q1,hm⟩:=Af hm;refine oB q1 fun x2 q2 q1=>gI q2 (fun(p_0,p_1)=>⟨[(0,.ow 1),(1,.d (.u a1)),(2,.d (.i p_1))],[(0,.row 1 1 _ eB p_0)],[],2⟩) fun s1 y1 Jl q5 bl1=>gi q5 ?_ ?_<;>intro hc1 q5
 ·obtain⟨q7,q5⟩:=Bw q5;exact gsh (r:= .u (Ey a1 ((w64 (8*s1.2)).toNat))) (fun h=>q7)<|gq eB 1 [(toB ((Ey a1 ((w64 (8*s1.2)).toNat)).toNat:Int))]<|oB q5 fun x4 q8 q5=>gp eB 1 q8<|gN bl1 q5
 obtain rfl:=nR bl1 q5;let x2:=s1.1;obtain rfl:=AhS q1;let x1:=x2;obtain rfl:=AhS hm;exact gE
def BC {σ:Type}(p0:σ→(List UInt8)→Option (Bool×σ))(k0:List UInt8)(k1:Int)(s1:Int×σ):Option ((Int×σ)⊕((σ)⊕((List UInt8)×Int×σ))):=if(decide (s1.1<(k0.length:Int)))=true then Ab (cut k0 s1.1 (k0.length:Int)) fun x3=>Ab (cut k0 s1.1 (w64 (s1.1+(Wo k1 (x3.length:Int))))) fun x4=>Ab (p0 s1.2 x4) fun x5=>if(!x5.1)=true then some (.inr (.inr (k0,k1,x5.2)))else some (.inl ((w64 (s1.1+k1)),x5.2))else some (.inr (.inl s1.2))
def Dq {σ:Type}(p0:σ→(List UInt8)→Option (Bool×σ))(k0:List UInt8)(k1:Int)(s0:σ):Option ((List UInt8)×Int×σ):=Ab (iter (BC p0 k0 k1) FA (0,s0)) fun x1=>match x1 with| .inr r=>some r| .inl y1=>some (k0,k1,y1)
theorem Je {σ:Type}{p0:σ→(List UInt8)→Option (Bool×σ)}{k0 k1 s0 r}(hm:Dq p0 k0 k1 s0=some r)(g:Value)(R:σ→Mem→Ow)(hcb:Ye prog g (fun x=> [sl eB x]) R p0):Sp prog 384 [.ow 0,.pb 1 0,.pb 2 0] [.hp 0 (.cb g σ R s0),.box 1 [sl eB k0] 96,.box 2 [.d (.i k1)] 3] 3 (is (.tup []) [.hp 0 (.cb g σ R r.2.2),.box 1 [.d (.sl _ eB r.1)] 96,.box 2 [.d (.i r.2.1)] 3] 3):=by
 refine sq ?_;intros;refine oB hm fun x1 q1 hm=>gI q1 (fun(p_0,p_1)=>⟨[(0,.ow 0),(1,.pb 1 0),(2,.pb 2 0),(4,.d (.i p_0))],[(0,.box 1 [sl eB k0] 96),(1,.box 2 [.d (.i k1)] 3),(2,.hp 0 (.cb g σ R p_1))],[],3⟩) fun s1 y2 Jl q4 bl1=>gi q4 ?_ ?_<;>intro hc1 q4
 ·refine oB q4 fun x3 q6 q4=>gk eB 1 q6<|oB q4 fun x4 q7 q4=>gk eB 1 q7<|oB q4 fun x5 q8 q4=>gcb x4 hcb q8<|gi q4 ?_ ?_<;>intro hc2 q4
  ·obtain rfl:=nR bl1 q4;obtain rfl:=AhS hm;exact gE
  exact gN bl1 q4
 obtain rfl:=nR bl1 q4;let y1:=s1.2;obtain rfl:=AhS hm;exact gE
def D2 (a0:List UInt8)(a1:Int):Option ((List UInt8)×Int):=Ab (if(decide (a1<1))=true then none else some ()) fun x1=>some (a0,a1)
theorem JY {a0 a1 r}(hm:D2 a0 a1=some r):Sp prog 353 [sl eB a0,.d (.i a1)] [] 0 (is (.fn (.func 384) [] [.pb 0 0,.pb 1 0]) [.box 0 [sl eB r.1] 96,.box 1 [.d (.i r.2)] 3] 2):=by
 refine sq ?_;intros;refine oB hm fun x1 q1 hm=>gi q1 (fun hc1 q1=> ?_) fun hc1 q1=> ?_
 ·cases q1
 obtain rfl:=AhS q1;exact AhS hm▸gE
def FQ (b5:List UInt8)(i1:Int)(s2:UInt64):Option (UInt64):=Ab (idx b5 (i1:Int)) fun x6=>if(0:Int)≤(w64 (8*(i1:Int)))then bnd ((s2|||(K9 (toU (x6.toNat:Int)) ((w64 (8*(i1:Int))).toNat)))) fun x7=>some x7 else none
def FU (b5:List UInt8)(s1:(List UInt64)):Option ((List UInt64)):=Ab (Ab (CR (FQ b5) b5.length 0 0) fun x4=>some x4) fun x3=>Ab (app 8 s1 ([x3]:List UInt64)) fun x8=>some x8
def J9 (a0:List UInt8):Option (List UInt64):=Ab (D2 a0 7) fun x1=>Ab (Dq (fun(s:(List UInt64)) (b0:List UInt8)=>Ab (FU b0 s) fun y=>some (true,y)) x1.1 x1.2 ([]:List UInt64)) fun x2=>some x2.2.2
theorem Yo {a0 r}(hm:J9 a0=some r):Sp prog 301 [sl eB a0] [] 0 (is (.ow 0) [.row 0 1 _ eU r] 1):=
 spR call301 func301 rfl ntmps301 rfl fun D0 As η0 m0 hD hd=>by
  unfold J9 at hm;refine gD hm JY fun x1 q1 hm=>oB hm fun x2 q2 hm=>AdQ eU 3 0 1<|LS hD (n0:=0) 3 4 [⟨2,1,96,[sl eB x1.1],[sl eB x2.1]⟩,⟨3,2,3,[.d (.i x1.2)],[.d (.i x2.2.1)]⟩] (gt:=9) (ps:=[10]) [(3,.pb 0 0),(9,.fn (.func 384) [] [.pb 1 0,.pb 2 0])] (fun(y2:(List UInt64))=> [(0,.row 3 1 _ eU y2),(1,.box 0 [.ow 3] 307)]) (fun(_:Unit)=> []) (fun x=> [sl eB x]) (fun(s1:(List UInt64)) (b5:List UInt8)=>⟨[(3,.pb 0 0),(4,sl eB b5),(9,.fn (.func 384) [] [.pb 1 0,.pb 2 0])],[(0,.row 3 1 _ eU s1),(1,.box 0 [.ow 3] 307)],[],4⟩) (pN fun x s=>FU x s) ([]:List UInt64) hd (via Sum.inl hyN rfl fun g R h=>Je q2 g R h) rfl (fun _=>rfl) (fun _=>rfl) (fun _=>rfl) (fun _=>rfl) ?_ ?_ ?_ ?_
  ·intro s1 b5 s' hp l D0 As η0 m0 hd Ja ba;exact gb ba hd () trivial
  ·intro s1 b5 s' hp l D0 As η0 m0 hd Jb bb Jr br;obtain⟨z1,q3,hp⟩:=Ah2.1 hp;subst hp;unfold FU at q3;obtain⟨x3,q4,q3⟩:=Af q3;refine oB q4 fun x4 q5 q4=>H6 2 (E:=eB) (xs:=b5) 11 fun hle1=>gF (EM _ _ _) q5 (fun p0 p=>⟨[(3,.pb 0 0),(5,.d (.u p)),(9,.fn (.func 384) [] [.pb 1 0,.pb 2 0]),(11,sl eB b5),(12,.d (.i (b5.length:Int))),(13,.d (.i p0))],[(0,.row 3 1 _ eU s1),(1,.box 0 [.ow 3] 307)],[],4⟩) fun i1 s2 Jl bl1=>cM bl1 (b5.length:Int) (fun y1 q8 bl1=> ?_) fun e=> ?_
   ·unfold FQ at q8;refine oB q8 fun x6 q10 q8=>gx eB 1 q10 ?_;obtain⟨q11,q8⟩:=Bw q8;refine gsh (r:= .u (K9 (toU (x6.toNat:Int)) ((w64 (8*(i1:Int))).toNat))) (fun h=>q11)<|bE q8 ?_;intro x7 q8;exact gM bl1 hle1 q8
   subst e;obtain rfl:=AhS q4;let x3:=x4;refine gq eU 1 [x3]<|oB q3 fun x8 q13 q3=>gp eU 1 q13 ?_;obtain rfl:=AhS q3;exact gb bb hd x8 rfl
  ·intro x hx;have hx:=Sum.inl.inj hx;subst hx;obtain rfl:=AhS hm;exact gE
  intro y hy;cases hy
def H0 (a0:UInt64)(a1:UInt64):Option UInt64:=bnd (((a1&&&2305843009213693951)+((K9 a0 3)|||(Ey a1 61)))) fun x1=>bnd (((x1&&&2305843009213693951)+(Ey x1 61))) fun x2=>Ab (if(decide ((x2.toNat:Int)≥2305843009213693951))=true then some (x2-2305843009213693951)else some x2) fun x3=>some x3
theorem OZ {a0 a1 r}(hm:H0 a0 a1=some r):Sf prog 385 [.d (.u a0),.d (.u a1)] (.d (.u r)):=by
 refine sq fun D0 As η0 m0 hd=>bE hm ?_;intro x1 hm;refine bE hm ?_;intro x2 hm;refine oB hm fun x3 q3 hm=>gj (fun(_:Unit)=>⟨[(5,.d (.u x3))],[],[],0⟩) (fun _=>True) (fun Jp bk1=> ?_) fun _ _=> ?_
 ·refine gi q3 ?_ ?_<;>intro hc1 q3
  ·obtain rfl:=AhS q3;exact gb bk1 hd () trivial
  obtain rfl:=AhS q3;exact gb bk1 hd () trivial
 obtain rfl:=AhS hm;exact gE
def Fj (a0:UInt64):Option UInt64:=Ab (H0 0 a0) fun x1=>some x1
theorem II {a0 r}(hm:Fj a0=some r):Sf prog 354 [.d (.u a0)] (.d (.u r)):=by
 refine sq ?_;intros;refine gA hm OZ fun x1 q1 hm=> ?_;exact AhS hm▸gE
def GG (a0:UInt64)(a1:UInt64):Option UInt64:=Ab (Fj a0) fun x1=>Ab (Fj a1) fun x2=>Ab (Fj (x1+x2)) fun x3=>some x3
theorem Ks {a0 a1 r}(hm:GG a0 a1=some r):Sf prog 302 [.d (.u a0),.d (.u a1)] (.d (.u r)):=by
 refine sq ?_;intros;refine gA hm II fun x1 q1 hm=>gA hm II fun x2 q2 hm=>gA hm II fun x3 q3 hm=> ?_;exact AhS hm▸gE
def IY (a0:UInt64)(a1:UInt64):Option UInt64:=Ab (Fj a0) fun x1=>Ab (Fj a1) fun x2=>Ab (H4 x1 x2) fun x3=>Ab (H0 x3.1 x3.2) fun x4=>some x4
theorem P9 {a0 a1 r}(hm:IY a0 a1=some r):Sf prog 386 [.d (.u a0),.d (.u a1)] (.d (.u r)):=by
 refine sq ?_;intros;refine gA hm II fun x1 q1 hm=>gA hm II fun x2 q2 hm=>gA hm Lu fun x3 q3 hm=>gA hm OZ fun x4 q4 hm=> ?_;exact AhS hm▸gE
def IX (i1:Int)(s1:UInt64):Option (UInt64):=Ab (IY s1 s1) fun x4=>some x4
def EC (a0:UInt64):Option UInt64:=Ab (Ab (CR IX 4 0 a0) fun x2=>some x2) fun x1=>Ab (IY a0 x1) fun x5=>some x5
theorem Py {a0 r}(hm:EC a0=some r):Sf prog 357 [.d (.u a0)] (.d (.u r)):=by
 refine sq ?_;intros;unfold EC at hm;obtain⟨x1,q1,hm⟩:=Af hm;refine oB q1 fun x2 q2 q1=>gF (EM _ 4 _) q2 (fun p0 p=>⟨[(0,.d (.u a0)),(3,.d (.u p)),(5,.d (.i p0))],[],[],0⟩) fun i1 s1 Jl bl1=>cM bl1 (4:Int) (fun y1 q5 bl1=> ?_) fun e=> ?_
 ·exact gA q5 P9 fun x4 q7 q5=>gM bl1 lk q5
 subst e;obtain rfl:=AhS q1;let x1:=x2;refine gA hm P9 fun x5 q8 hm=> ?_;obtain rfl:=AhS hm;exact gE
def JA (a0:Int)(a1:UInt64)(k0:Int)(k1:UInt64):Option (UInt64×Int×UInt64):=bnd ((toU (w64 ((w64 ((w64 (3*k0))+a0))+1)))) fun x1=>Ab (GG a1 (((x1*x1)*x1)+7)) fun x2=>Ab (EC x2) fun x3=>Ab (GG k1 x3) fun x4=>some (x3,k0,x4)
theorem Uy {a0 a1 k0 k1 r}(hm:JA a0 a1 k0 k1=some r):Sp prog 356 [.d (.i a0),.d (.u a1),.pb 0 0,.pb 1 0] [.box 0 [.d (.i k0)] 3,.box 1 [.d (.u k1)] 32] 2 (is (.d (.u r.1)) [.box 0 [.d (.i r.2.1)] 3,.box 1 [.d (.u r.2.2)] 32] 2):=by
 refine sq ?_;intros;refine bE hm ?_;intro x1 hm;refine gA hm Ks fun x2 q2 hm=>gA hm Py fun x3 q3 hm=>gA hm Ks fun x4 q4 hm=> ?_;obtain rfl:=AhS hm;exact gE
def Jz (a0:Int)(a1:UInt64)(k0:UInt64):Option (UInt64×UInt64):=Ab (GG a1 k0) fun x1=>some (x1,k0)
theorem Ux {a0 a1 k0 r}(hm:Jz a0 a1 k0=some r):Sp prog 358 [.d (.i a0),.d (.u a1),.pb 0 0] [.box 0 [.d (.u k0)] 32] 1 (is (.d (.u r.1)) [.box 0 [.d (.u r.2)] 32] 1):=by
 refine sq ?_;intros;refine gA hm Ks fun x1 q1 hm=> ?_;exact AhS hm▸gE
end Go.Proofs.YtnhdojckpcbjeaaGreatDoor
