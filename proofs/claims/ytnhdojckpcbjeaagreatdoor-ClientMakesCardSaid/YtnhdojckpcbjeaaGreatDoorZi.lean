/- The walks of some functions, by the executor, written by program. Conditions: none. -/
import Derived.Test.YtnhdojckpcbjeaaGreatDoorZh
set_option linter.unusedSimpArgs false
set_option linter.unusedVariables false
set_option maxHeartbeats 20000000
set_option maxRecDepth 100000
namespace Go.Proofs.YtnhdojckpcbjeaaGreatDoor
open Go Go.Gw Go.Ax Tryz
attribute [local irreducible] Go.Ax.Go
def Gn (a0:List UInt8):Option Bool:=Ab (gu ((a0.length:Int)==1) (idx a0 0)) λx1=>Ab (gu (((a0.length:Int)==1)&&(!((x1.toNat:Int)==0))) (idx a0 0)) λx2=>bnd ((((a0.length:Int)==1)&&(((x1.toNat:Int)==0)||((x2.toNat:Int)==255)))) λx3=>some x3
theorem Xs {a0 r}(hm:Gn a0=some r):Sf prog 428 [sl eB a0] (.d (.t r)):=by
 refine sq ?_;intros;refine oB hm λ_ q1 hm=>gxG eB 1 q1<|oB hm λ_ q2 hm=>gxG eB 1 q2<|bE hm ?_;intro _ hm;exact AnO hm▸gE
def KB (a0:List UInt8):Option Bool:=if((a0.length:Int)==0)=true then some false else if((a0.length:Int)==1)=true then some true else Ab (idx a0 1) λx1=>Ab (gu (decide ((a0.length:Int)<=8)) (idx a0 0)) λx2=>bnd (((decide ((a0.length:Int)<=8))&&((x2.toNat:Int) !=((toB (-((Ae0 x1 7).toNat:Int))).toNat:Int)))) λx3=>some x3
theorem T8 {a0 r}(hm:KB a0=some r):Sf prog 299 [sl eB a0] (.d (.t r)):=by
 refine sq ?_;intros;refine gi hm ?_ ?_<;>intro _ hm
 ·exact AnO hm▸gE
 refine gi hm ?_ ?_<;>intro _ hm
 ·exact AnO hm▸gE
 refine oB hm λ_ q1 hm=>gx eB 1 q1<|oB hm λ_ q2 hm=>gxG eB 1 q2<|bE hm ?_;intro _ hm;exact AnO hm▸gE
def Rj (a0:List UInt8):Option Bool:=some true
theorem Xr {a0 r}(hm:Rj a0=some r):Sf prog 429 [sl eB a0] (.d (.t r)):=by
 refine sq ?_;intros;exact AnO hm▸gE
def KC (a0:UInt8):Option Bool:=bnd (((decide ((a0.toNat:Int)<32))||(decide ((a0.toNat:Int)>126)))) λx1=>some x1
theorem T9 {a0 r}(hm:KC a0=some r):Sf prog 431 [.d (.b a0)] (.d (.t r)):=by
 refine sq ?_;intros;refine bE hm ?_;intro _ hm;exact AnO hm▸gE
def AD (a0:List UInt8)(i1:Int)(s1:Unit):Option ((Unit)⊕Int):=Ab (idx a0 (i1:Int)) λx3=>Ab (KC x3) λx4=>if x4=true then some (.inr (i1:Int))else some (.inl ())
def Cr (a0:List UInt8):Option Int:=Ab (CE (AD a0) a0.length 0 ()) λx1=>match x1 with| .inr r=>some r| .inl y1=>some (-1)
theorem HB {a0 r}(hm:Cr a0=some r):Sf prog 211 [sl eB a0,.fn (.func 431) [] []] (.d (.i r)):=by
 refine sq ?_;intros;refine oB hm λ_ q1 hm=>Jj 0 (E:=eB) (xs:=a0) 6 λhle1=>gF (EN _ _ _) q1 (λp0 _=>⟨[(0,sl eB a0),(1,.fn (.func 431) [] []),(7,.d (.i (a0.length:Int))),(8,.d (.i p0))],[],[],0⟩) λi1 s1 Jl bl1=>cN bl1 (a0.length:Int) (λ_ q4 bl1=> ?_) λe=> ?_
 ·refine oB q4 λ_ q6 q4=>gx eB 1 q6<|gA q4 T9 λ_ q7 q4=>gi q4 ?_ ?_<;>intro _ q4
  ·obtain rfl:=nT bl1 q4;exact AnO hm▸gE
  exact gT bl1 hle1 q4
 subst e;exact AnO hm▸gE
def BV (a0:List UInt8):Option Bool:=Ab (Cr a0) λx1=>some (decide (x1>=0))
theorem Gz {a0 r}(hm:BV a0=some r):Sf prog 131 [sl eB a0,.fn (.func 431) [] []] (.d (.t r)):=by
 refine sq ?_;intros;refine gA hm HB λ_ q1 hm=> ?_;exact AnO hm▸gE
def JY (a0:List UInt8):Option Bool:=Ab (BV a0) λx1=>some (!x1)
theorem Xq {a0 r}(hm:JY a0=some r):Sf prog 430 [sl eB a0] (.d (.t r)):=by
 refine sq ?_;intros;refine gA hm Gz λ_ q1 hm=> ?_;exact AnO hm▸gE
def JX (a0:List UInt8):Option Bool:=some ((a0.length:Int)==0)
theorem Xo {a0 r}(hm:JX a0=some r):Sf prog 432 [sl eB a0] (.d (.t r)):=by
 refine sq ?_;intros;exact AnO hm▸gE
def FU (a0:Bool):Option Int:=if a0=true then some 0 else some 110
theorem Sr {a0 r}(hm:FU a0=some r):Sf prog 226 [.d (.t a0)] (.d (.i r)):=by
 refine sq ?_;intros;refine gi hm ?_ ?_<;>intro _ hm
 ·exact AnO hm▸gE
 exact AnO hm▸gE
def BA (a0:ByteArray)(a1:UInt8):Option Int:=some (AkK a0 a1)
theorem Io {a0 a1 r}(hm:BA a0 a1=some r):Sf prog 400 [.d (.s a0),.d (.b a1)] (.d (.i r)):=by
 refine sq ?_;intros;refine gext (F:=AkK) (p:=a0) (q:=a1) func407 (extIxb (by kernel_rfl) (by kernel_rfl) (by kernel_rfl) (by kernel_rfl)) ?_;exact AnO hm▸gE
def Bv (a0:ByteArray)(a1:ByteArray):Option Int:=bnd ((((a1.size:Int)==0)||(eqS a1 a0))) λx1=>if x1=true then some 0 else if((a1.size:Int)==1)=true then Ab (idx a1.data.toList 0) λx2=>Ab (BA a0 x2) λx3=>some x3 else bnd ((decide ((a1.size:Int)>=(a0.size:Int)))) λx4=>if x4=true then some (-1)else none
theorem Fp {a0 a1 r}(hm:Bv a0 a1=some r):Sf prog 392 [.d (.s a0),.d (.s a1)] (.d (.i r)):=by
 refine sq ?_;intros;refine bE hm ?_;intro _ hm;refine gi hm ?_ ?_<;>intro _ hm
 ·exact AnO hm▸gE
 refine gi hm ?_ ?_<;>intro _ hm
 ·refine oB hm λ_ q2 hm=>Aab (λ_=>q2)<|gA hm Io λ_ q3 hm=> ?_;exact AnO hm▸gE
 refine bE hm ?_;intro _ hm;refine gi hm ?_ ?_<;>intro _ hm
 ·exact AnO hm▸gE
 cases hm
def Cq (a0:ByteArray)(a1:ByteArray):Option Int:=Ab (Bv a0 a1) λx1=>some x1
theorem TP {a0 a1 r}(hm:Cq a0 a1=some r):Sf prog 377 [.d (.s a0),.d (.s a1)] (.d (.i r)):=by
 refine sq ?_;intros;refine gA hm Fp λ_ q1 hm=> ?_;exact AnO hm▸gE
def FM (a0:ByteArray)(a1:ByteArray):Option Int:=if((a1.size:Int)==0)=true then none else if((a1.size:Int)==1)=true then Ab (idx a1.data.toList 0) λx1=>some (cntS a0 x1)else none
theorem TQ {a0 a1 r}(hm:FM a0 a1=some r):Sf prog 347 [.d (.s a0),.d (.s a1)] (.d (.i r)):=by
 refine sq ?_;intros;refine gi hm ?_ ?_<;>intro _ hm
 ·cases hm
 refine gi hm ?_ ?_<;>intro _ hm
 ·refine oB hm λx1 q1 hm=>Aab (λ_=>q1)<|gext (F:=cntS) (p:=a0) (q:=x1) func376 (extCnt (by kernel_rfl) (by kernel_rfl) (by kernel_rfl) (by kernel_rfl)) ?_;exact AnO hm▸gE
 cases hm
def MP {σ:Type}(k1:ByteArray)(s1:Unit):Option ((Unit)⊕((Unit)⊕(ByteArray×ByteArray×Int×σ))):=if(decide ((k1.size:Int)>0))=true then none else some (.inr (.inl ()))
def AK {σ:Type}(p0:σ->ByteArray->Option (Bool×σ))(k0:ByteArray)(k2:Int)(s2:ByteArray×σ):Option ((ByteArray×σ)⊕((ByteArray×σ)⊕(ByteArray×ByteArray×Int×σ))):=Ab (Cq s2.1 k0) λx5=>if(decide (x5<0))=true then some (.inr (.inl (s2.1,s2.2)))else Ab (Ts s2.1 0 (w64 (x5+k2))) λx6=>Ab (p0 s2.2 x6) λx7=>if(!x7.1)=true then some (.inr (.inr (k0,s2.1,k2,x7.2)))else Ab (Ts s2.1 (w64 (x5+(k0.size:Int))) (s2.1.size:Int)) λx8=>some (.inl (x8,x7.2))
def Ba {σ:Type}(p0:σ->ByteArray->Option (Bool×σ))(k0:ByteArray)(k1:ByteArray)(k2:Int)(s0:σ):Option (ByteArray×ByteArray×Int×σ):=
 if((k0.size:Int)==0)=true then
  Ab (iter (MP k1) AY ()) λx1=>match x1 with
  | .inr r=>some r
  | .inl y1=>
  some (k0,k1,k2,s0)
 else
 Ab (iter (AK p0 k0 k2) AY (k1,s0)) λx3=>match x3 with
 | .inr r=>some r
 | .inl y3=>
 Ab (p0 y3.2 y3.1) λx9=>
 some (k0,y3.1,k2,x9.2)
theorem Pa {σ:Type}{p0:σ->ByteArray->Option (Bool×σ)}{k0 k1 k2 s0 r}(hm:Ba p0 k0 k1 k2 s0=some r)(g:Value)(R:σ->Mem->Ow)(hcb:Adm prog g (λx=> [.d (.s x)]) R p0):Sp prog 393 [.ow 0,.pb 1 0,.pb 2 0,.pb 3 0] [.hp 0 (.cb g σ R s0),.box 1 [.d (.s k0)] 9,.box 2 [.d (.s k1)] 9,.box 3 [.d (.i k2)] 3] 4 (is (.tup []) [.hp 0 (.cb g σ R r.2.2.2),.box 1 [.d (.s r.1)] 9,.box 2 [.d (.s r.2.1)] 9,.box 3 [.d (.i r.2.2.1)] 3] 4):=by
 refine sq ?_;intros;refine gi hm ?_ ?_<;>intro _ hm
 ·refine oB hm λ_ q1 hm=>gI q1 (λ_=>⟨[(0,.ow 0),(2,.pb 2 0)],[(0,.box 1 [.d (.s k0)] 9),(1,.box 2 [.d (.s k1)] 9),(2,.box 3 [.d (.i k2)] 3),(3,.hp 0 (.cb g σ R s0))],[],4⟩) λs1 _ Jl q4 bl1=>gi q4 ?_ ?_<;>intro _ q4
  ·cases q4
  obtain rfl:=nR bl1 q4;exact AnO hm▸gE
 refine oB hm λ_ q6 hm=>gI q6 (λ(p_0,p_1)=>⟨[(0,.ow 0),(1,.pb 1 0),(2,.pb 2 0),(3,.pb 3 0)],[(0,.box 1 [.d (.s k0)] 9),(1,.box 2 [.d (.s p_0)] 9),(2,.box 3 [.d (.i k2)] 3),(3,.hp 0 (.cb g σ R p_1))],[],4⟩) λs2 _ Jl q9 bl2=>gA q9 TP λ_ q11 q9=>gi q9 ?_ ?_<;>intro _ q9
 ·obtain rfl:=nR bl2 q9;let y3:=(s2.1,s2.2);refine oB hm λ_ q15 hm=>gcb y3.1 hcb q15 ?_;exact AnO hm▸gE
 refine oB q9 λx6 q12 q9=>VT (λ_=>q12)<|oB q9 λ_ q13 q9=>gcb x6 hcb q13<|gi q9 ?_ ?_<;>intro _ q9
 ·obtain rfl:=nR bl2 q9;exact AnO hm▸gE
 exact oB q9 λ_ q14 q9=>VT (λ_=>q14)<|gN bl2 q9
def K8 (a0:ByteArray)(a1:ByteArray)(a2:Int):Option (ByteArray×ByteArray×Int):=some (a1,a0,a2)
theorem Qw {a0 a1 a2 r}(hm:K8 a0 a1 a2=some r):Sp prog 378 [.d (.s a0),.d (.s a1),.d (.i a2)] [] 0 (is (.fn (.func 393) [] [.pb 0 0,.pb 1 0,.pb 2 0]) [.box 0 [.d (.s r.1)] 9,.box 1 [.d (.s r.2.1)] 9,.box 2 [.d (.i r.2.2)] 3] 3):=by
 refine sq ?_;intros;exact AnO hm▸gE
def HQ (a0:ByteArray)(a1:ByteArray):Option (ByteArray×ByteArray×Int):=Ab (K8 a0 a1 0) λx1=>some (x1.1,x1.2.1,x1.2.2)
theorem Qx {a0 a1 r}(hm:HQ a0 a1=some r):Sp prog 348 [.d (.s a0),.d (.s a1)] [] 0 (is (.fn (.func 393) [] [.pb 0 0,.pb 1 0,.pb 2 0]) [.box 0 [.d (.s r.1)] 9,.box 1 [.d (.s r.2.1)] 9,.box 2 [.d (.i r.2.2)] 3] 3):=by
 refine sq ?_;intros;refine gD hm Qw λ_ q1 hm=> ?_;exact AnO hm▸gE
def Ds (a0:Int):Option Bool:=bnd ((((decide ((97:Int)<=a0))&&(decide (a0<=122)))||((decide ((48:Int)<=a0))&&(decide (a0<=57))))) λx1=>some x1
theorem NZ {a0 r}(hm:Ds a0=some r):Sf prog 379 [.d (.r a0)] (.d (.t r)):=by
 refine sq ?_;intros;refine bE hm ?_;intro _ hm;exact AnO hm▸gE
def Dn (a0:Int):Option Bool:=Ab (gu (!(a0==45)) (Ds a0)) λx1=>some ((a0==45)||x1)
theorem Xf {a0 r}(hm:Dn a0=some r):Sf prog 380 [.d (.r a0)] (.d (.t r)):=by
 refine sq ?_;intros;refine oB hm λ_ q1 hm=>gcH q1 NZ ?_;exact AnO hm▸gE
def AX (a0:ByteArray)(s1:Nat):Option ((Nat)⊕((Nat)⊕Bool)):=if s1<a0.size then bnd (((Utf8.decode a0 s1).1:Int)) λx3=>Ab (gu ((s1:Int)==(w64 ((a0.size:Int)-1))) (Ds x3)) λx4=>bnd ((((s1:Int)==(w64 ((a0.size:Int)-1)))&&x4)) λx5=>if x5=true then some (.inl (s1+(Utf8.decode a0 s1).2))else bnd (((s1:Int)==(w64 ((a0.size:Int)-1)))) λx6=>if x6=true then some (.inr (.inr false))else Ab (gu ((s1:Int)==0) (Ds x3)) λx7=>bnd ((((s1:Int)==0)&&(x7||(x3==95)))) λx8=>if x8=true then some (.inl (s1+(Utf8.decode a0 s1).2))else Ab (gu (!((s1:Int)==0)) (Dn x3)) λx9=>if(((s1:Int)==0)||(!x9))=true then some (.inr (.inr false))else some (.inl (s1+(Utf8.decode a0 s1).2))else some (.inr (.inl s1))
def Gg (a0:ByteArray):Option Bool:=if((eqS a0 (⟨#[]⟩:ByteArray))||(decide ((a0.size:Int)>16)))=true then some false else Ab (iter (AX a0) AY 0) λx1=>match x1 with| .inr r=>some r| .inl y1=>some true
theorem Xe {a0 r}(hm:Gg a0=some r):Sf prog 349 [.d (.s a0)] (.d (.t r)):=by
 refine sq ?_;intros;refine gi hm ?_ ?_<;>intro _ hm
 ·exact AnO hm▸gE
 refine grng a0<|oB hm λ_ q1 hm=>gI q1 (λp=>⟨[(0,.d (.s a0)),(13,.ow 0)],[(0,.hp 0 (.it a0 p))],[],1⟩) λs1 _ Jl q4 bl1=>gnx q4 (λhc2 q4=> ?_) λhc2 q4=> ?_
 ·refine gi' (b:=true) (λ_=> ?_) (λh=>by cases h);refine bE q4 ?_;intro _ q4;refine oB q4 λ_ q7 q4=>gcH q7 NZ<|bE q4 ?_;intro _ q4;refine gi q4 ?_ ?_<;>intro _ q4
  ·exact gN bl1 q4
  refine bE q4 ?_;intro _ q4;refine gi q4 ?_ ?_<;>intro _ q4
  ·obtain rfl:=nR bl1 q4;exact AnO hm▸gE
  refine oB q4 λ_ q10 q4=>gcH q10 NZ<|bE q4 ?_;intro _ q4;refine gi q4 ?_ ?_<;>intro _ q4
  ·exact gN bl1 q4
  refine oB q4 λ_ q12 q4=>gcH q12 Xf<|gi q4 ?_ ?_<;>intro _ q4
  ·obtain rfl:=nR bl1 q4;exact AnO hm▸gE
  exact gN bl1 q4
 refine gi' (b:=false) (λh=>by cases h) (λ_=> ?_);obtain rfl:=nR bl1 q4;let y1:=s1;exact AnO hm▸gE
def Bn (b6:ByteArray)(s1:(Unit)×Nat):Option ((Unit)×Nat):=Ab (Gg b6) λx4=>if(!x4)=true then some ((),1)else some ((),0)
def Cg (a0:ByteArray)(a1:Int)(a2:Int):Option Bool:=Ab (gu (!(decide ((a0.size:Int)>a2))) (FM a0 (⟨#[46]⟩:ByteArray))) λx1=>if((decide ((a0.size:Int)>a2))||(decide (x1>=a1)))=true then some false else Ab (HQ a0 (⟨#[46]⟩:ByteArray)) λx2=>Ab (Ba (λ(s:(Unit)×Nat) (b0:ByteArray)=>if s.2=0 then Ab (Bn b0 s) λy=>some (y.2==0,y)else none) x2.1 x2.2.1 x2.2.2 ((),0)) λx3=>if(x3.2.2.2).2=0 then some true else some false
theorem Ss {a0 a1 a2 r}(hm:Cg a0 a1 a2=some r):Sf prog 292 [.d (.s a0),.d (.i a1),.d (.i a2)] (.d (.t r)):=
 spR call292 func292 rfl ntmps292 rfl λD0 As u4 m0 hD hd=>by
  unfold Cg at hm;refine oB hm λ_ q1 hm=>gcH q1 TQ<|gi hm ?_ ?_<;>intro _ hm
  ·exact AnO hm▸gE
  refine gD hm Qx λx2 q2 hm=>oB hm λx3 q3 hm=>OL hD (n0:=0) 4 4 [⟨1,1,9,[.d (.s x2.1)],[.d (.s x3.1)]⟩,⟨2,2,9,[.d (.s x2.2.1)],[.d (.s x3.2.1)]⟩,⟨3,3,3,[.d (.i x2.2.2)],[.d (.i x3.2.2.1)]⟩] (gt:=19) (ps:=[20]) [(6,.pb 0 0),(19,.fn (.func 393) [] [.pb 1 0,.pb 2 0,.pb 3 0])] (λ(y1:Unit)=> [(0,.box 0 [.d (.t false)] 4)]) (λ(y1:(Unit)×Nat)=> [(0,.box 0 [.d (.t false)] 4)]) (λx=> [.d (.s x)]) (λ(s1:Unit) (b6:ByteArray)=>⟨[(6,.pb 0 0),(7,.d (.s b6)),(19,.fn (.func 393) [] [.pb 1 0,.pb 2 0,.pb 3 0])],[(0,.box 0 [.d (.t false)] 4)],[],4⟩) (pJ λx s=>Bn x s) () hd (via fJ hyJ rfl λg R h=>Pa q3 g R h) rfl (λ_=>rfl) (λ_=>rfl) (λ_=>rfl) (λ_=>rfl) ?_ ?_ ?_ ?_
  ·intro s1 b6 s' hp l D0 As u4 m0 hd Ja ba;exact gb ba hd () trivial
  ·intro s1 b6 s' hp l D0 As u4 m0 hd Jb bb Jr br;obtain⟨z1,q4,hp⟩:=AnZ.1 hp;subst hp;unfold Bn at q4;dsimp only at q4;refine gA q4 Xe λ_ q5 q4=>gi q4 ?_ ?_<;>intro _ q4
   ·obtain rfl:=AnO q4;exact Ajr br hd ((),1) rfl
   obtain rfl:=AnO q4;exact gb bb hd () rfl
  ·intro x hx;obtain⟨hj1,rfl⟩:=Ac0 hx;rw[AnT hj1]at hm;exact AnO hm▸gE
  intro y hy;obtain⟨hj1,rfl⟩:=AcZ hy;rw[AnW hj1]at hm;exact AnO hm▸gE
def Ev (a0:ByteArray):Option Bool:=Ab (Cg a0 8 64) λx1=>some x1
theorem OU {a0 r}(hm:Ev a0=some r):Sf prog 227 [.d (.s a0)] (.d (.t r)):=by
 refine sq ?_;intros;refine gA hm Ss λ_ q1 hm=> ?_;exact AnO hm▸gE
def Dp (a0:ByteArray):Option Int:=Ab (Ev a0) λx1=>Ab (FU x1) λx2=>some x2
theorem QH {a0 r}(hm:Dp a0=some r):Sf prog 145 [.d (.s a0)] (.d (.i r)):=by
 refine sq ?_;intros;refine gA hm OU λ_ q1 hm=>gA hm Sr λ_ q2 hm=> ?_;exact AnO hm▸gE
def Lj (a0:g_path_trip):Option Int:=if((((((a0.chain_.length:Int)==0)||(decide ((a0.chain_.length:Int)>4)))||(decide ((a0.roots_.length:Int)>16)))||(decide (a0.now_<0)))||(decide (a0.now_>1099511627776)))=true then some 1 else Ab (Dp a0.name_) λx1=>some x1
theorem QG {a0 r}(hm:Lj a0=some r):Sf prog 72 [ag (E1 a0)] (.d (.i r)):=by
 refine sq ?_;intros;refine gi hm ?_ ?_<;>intro _ hm
 ·exact AnO hm▸gE
 refine gA hm QH λ_ q1 hm=> ?_;exact AnO hm▸gE
def EZ (a0:Int):Option Bool:=bnd (((decide (a0>=0))&&(decide (a0<=1099511627776)))) λx1=>some x1
theorem HI {a0 r}(hm:EZ a0=some r):Sf prog 275 [.d (.i a0)] (.d (.t r)):=by
 refine sq ?_;intros;refine bE hm ?_;intro _ hm;exact AnO hm▸gE
def Ic (a0:g_api_Sig):Option Bool:=bnd ((decide (((Vt a0.E a0.S).toNat:Int)<1152921504606845789))) λx1=>some x1
theorem QP {a0 r}(hm:Ic a0=some r):Sf prog 277 [ag (Jm a0)] (.d (.t r)):=by
 refine sq ?_;intros;refine bE hm ?_;intro _ hm;exact AnO hm▸gE
def Bj (a0:List UInt64)(s1:UInt64×Int):Option ((UInt64×Int)⊕(UInt64)):=if(decide (s1.2<(a0.length:Int)))=true then Ab (idx a0 s1.2) λx6=>some (.inl ((Vt s1.1 x6),(w64 (s1.2+1))))else some (.inr s1.1)
def CP (a0:List UInt64):Option UInt64:=Ab (if(decide ((a0.length:Int)<1))=true then none else some ()) λx1=>Ab (idx a0 0) λx2=>Ab (Ab (iter (Bj a0) AY (x2,1)) λx4=>some x4) λx3=>some x3
theorem KO {a0 r}(hm:CP a0=some r):Sf prog 331 [sl eU a0] (.d (.u r)):=by
 refine sq ?_;intros;refine oB hm λ_ q1 hm=>gi q1 (λhc1 q1=> ?_) λhc1 q1=> ?_
 ·cases q1
 obtain rfl:=AnO q1;refine oB hm λ_ q2 hm=>gx eU 1 q2 ?_;obtain⟨x3,q3,hm⟩:=Ag hm;refine oB q3 λx4 q4 q3=>gI q4 (λ(p_0,p_1)=>⟨[(0,sl eU a0),(3,.d (.u p_0)),(4,.d (.i p_1))],[],[],0⟩) λs1 _ Jl q7 bl1=>gi q7 ?_ ?_<;>intro _ q7
 ·exact oB q7 λ_ q9 q7=>gx eU 1 q9<|gN bl1 q7
 obtain rfl:=nR bl1 q7;let x4:=s1.1;obtain rfl:=AnO q3;exact AnO hm▸gE
def Ie (a0:g_api_Promise):Option Bool:=Ab (EZ a0.Log) λx1=>Ab (gu x1 (EZ a0.At)) λx2=>Ab (gu (x1&&x2) (CP ([a0.Leaf.1,a0.Leaf.2]:List UInt64))) λx3=>Ab (gu ((x1&&x2)&&(decide ((x3.toNat:Int)<2305843009213693951))) (Ic a0.Sig)) λx4=>bnd ((((x1&&x2)&&(decide ((x3.toNat:Int)<2305843009213693951)))&&x4)) λx5=>some x5
theorem Ue {a0 r}(hm:Ie a0=some r):Sf prog 274 [ag (Ad a0)] (.d (.t r)):=by
 refine sq ?_;intros;refine Am4 1 [.i a0.Log,.i a0.At,.u a0.Leaf.1,.u a0.Leaf.2,.u a0.Sig.E,.u a0.Sig.S]<|gA hm HI λ_ q1 hm=>oB hm λ_ q2 hm=>gcH q2 HI<|gslM (k:=1) (E:=eU) ([a0.Leaf.1,a0.Leaf.2]:List UInt64) (λ_=>rfl)<|oB hm λ_ q3 hm=>gcH q3 KO<|oB hm λ_ q4 hm=>gcH q4 QP<|bE hm ?_;intro _ hm;exact AnO hm▸gE
def JZ (a0:Int):Option Bool:=bnd (((decide (a0<=32))||(decide (a0>126)))) λx1=>some x1
theorem Xv {a0 r}(hm:JZ a0=some r):Sf prog 332 [.d (.r a0)] (.d (.t r)):=by
 refine sq ?_;intros;refine bE hm ?_;intro _ hm;exact AnO hm▸gE
def Az (a0:ByteArray)(a2:Bool)(s1:Nat):Option ((Nat)⊕((Nat)⊕Int)):=if s1<a0.size then bnd (((Utf8.decode a0 s1).1:Int)) λx3=>Ab (JZ x3) λx4=>if(x4==a2)=true then some (.inr (.inr (s1:Int)))else some (.inl (s1+(Utf8.decode a0 s1).2))else some (.inr (.inl s1))
def Cd (a0:ByteArray)(a2:Bool):Option Int:=Ab (iter (Az a0 a2) AY 0) λx1=>match x1 with| .inr r=>some r| .inl y1=>some (-1)
theorem LL {a0 a2 r}(hm:Cd a0 a2=some r):Sf prog 391 [.d (.s a0),.fn (.func 332) [] [],.d (.t a2)] (.d (.i r)):=by
 refine sq ?_;intros;refine grng a0<|oB hm λ_ q1 hm=>gI q1 (λp=>⟨[(1,.fn (.func 332) [] []),(2,.d (.t a2)),(10,.ow 0)],[(0,.hp 0 (.it a0 p))],[],1⟩) λs1 _ Jl q4 bl1=>gnx q4 (λhc1 q4=> ?_) λhc1 q4=> ?_
 ·refine gi' (b:=true) (λ_=> ?_) (λh=>by cases h);refine bE q4 ?_;intro _ q4;refine gA q4 Xv λ_ q7 q4=>gi q4 ?_ ?_<;>intro _ q4
  ·obtain rfl:=nR bl1 q4;exact AnO hm▸gE
  exact gN bl1 q4
 refine gi' (b:=false) (λh=>by cases h) (λ_=> ?_);obtain rfl:=nR bl1 q4;let y1:=s1;exact AnO hm▸gE
def Db (a0:ByteArray):Option Int:=Ab (Cd a0 true) λx1=>some x1
theorem LM {a0 r}(hm:Db a0=some r):Sf prog 369 [.d (.s a0),.fn (.func 332) [] []] (.d (.i r)):=by
 refine sq ?_;intros;refine gA hm LL λ_ q1 hm=> ?_;exact AnO hm▸gE
def BC (a0:ByteArray):Option Bool:=Ab (Db a0) λx1=>some (decide (x1>=0))
theorem J9 {a0 r}(hm:BC a0=some r):Sf prog 333 [.d (.s a0),.fn (.func 332) [] []] (.d (.t r)):=by
 refine sq ?_;intros;refine gA hm LM λ_ q1 hm=> ?_;exact AnO hm▸gE
def D7 (a0:ByteArray):Option Bool:=Ab (gu ((!eqS a0 (⟨#[]⟩:ByteArray))&&(decide ((a0.size:Int)<=64))) (BC a0)) λx1=>bnd ((((!eqS a0 (⟨#[]⟩:ByteArray))&&(decide ((a0.size:Int)<=64)))&&(!x1))) λx2=>some x2
theorem Ud {a0 r}(hm:D7 a0=some r):Sf prog 276 [.d (.s a0)] (.d (.t r)):=by
 refine sq ?_;intros;refine oB hm λ_ q1 hm=>gcH q1 J9<|bE hm ?_;intro _ hm;exact AnO hm▸gE
def A5 (a0:ByteArray)(a1:ByteArray):Option Bool:=Ab (gu (decide ((a0.size:Int)>=(a1.size:Int))) (Ts a0 0 (a1.size:Int))) λx1=>bnd (((decide ((a0.size:Int)>=(a1.size:Int)))&&(eqS x1 a1))) λx2=>some x2
theorem Ip {a0 a1 r}(hm:A5 a0 a1=some r):Sf prog 395 [.d (.s a0),.d (.s a1)] (.d (.t r)):=by
 refine sq ?_;intros;refine oB hm λ_ q1 hm=>AkW (λh=>Z9 h q1)<|bE hm ?_;intro _ hm;exact AnO hm▸gE
def A6 (a0:ByteArray)(a1:ByteArray):Option (ByteArray×Bool):=Ab (A5 a0 a1) λx1=>if(!x1)=true then some (a0,false)else Ab (Ts a0 (a1.size:Int) (a0.size:Int)) λx2=>some (x2,true)
theorem Iq {a0 a1 r}(hm:A6 a0 a1=some r):Sf prog 381 [.d (.s a0),.d (.s a1)] (.tup [.d (.s r.1),.d (.t r.2)]):=by
 refine sq ?_;intros;refine gA hm Ip λ_ q1 hm=>gi hm ?_ ?_<;>intro _ hm
 ·exact AnO hm▸gE
 refine oB hm λ_ q2 hm=>VT (λ_=>q2) ?_;exact AnO hm▸gE
def B9 (a0:ByteArray)(a1:ByteArray):Option (ByteArray×Bool):=Ab (A6 a0 a1) λx1=>some (x1.1,x1.2)
theorem PI {a0 a1 r}(hm:B9 a0 a1=some r):Sf prog 351 [.d (.s a0),.d (.s a1)] (.tup [.d (.s r.1),.d (.t r.2)]):=by
 refine sq ?_;intros;refine gA hm Iq λ_ q1 hm=> ?_;exact AnO hm▸gE
def Eu (a0:ByteArray):Option (ByteArray×Bool×Bool):=Ab (Ev a0) λx1=>if x1=true then some (a0,false,true)else Ab (B9 a0 (⟨#[42,46]⟩:ByteArray)) λx2=>Ab (gu x2.2 (Cg x2.1 7 62)) λx3=>some (x2.1,x2.2,(x2.2&&x3))
theorem NY {a0 r}(hm:Eu a0=some r):Sf prog 296 [.d (.s a0)] (.tup [.d (.s r.1),.d (.t r.2.1),.d (.t r.2.2)]):=by
 refine sq ?_;intros;refine gA hm OU λ_ q1 hm=>gi hm ?_ ?_<;>intro _ hm
 ·exact AnO hm▸gE
 refine gA hm PI λ_ q2 hm=>oB hm λ_ q3 hm=>gcH q3 Ss ?_;exact AnO hm▸gE
def CC (a0:ByteArray):Option Int:=Ab (Eu a0) λx1=>Ab (FU x1.2.2) λx2=>some x2
theorem T6 {a0 r}(hm:CC a0=some r):Sf prog 279 [.d (.s a0)] (.d (.i r)):=by
 refine sq ?_;intros;refine gA hm NY λ_ q1 hm=>gA hm Sr λ_ q2 hm=> ?_;exact AnO hm▸gE
def KH (i1:Int)(x2:ByteArray)(s1:(List (ByteArray×Bool))):Option (((List (ByteArray×Bool)))⊕Bool):=Ab (gu (!(lkB s1 x2)) (CC x2)) λx3=>if((lkB s1 x2)||(x3 !=0))=true then some (.inr false)else if(lkI s1 x2 0).isNone=true then some (.inl (s1++[(x2,true)]))else none
def Hc (a0:List ByteArray)(a1:Int)(a2:Int):Option Bool:=Ab (F6 KH a0 0 ([]:List (ByteArray×Bool))) λx1=>match x1 with| .inr r=>some r| .inl y1=>bnd (((decide ((a0.length:Int)>=a1))&&(decide ((a0.length:Int)<=a2)))) λx4=>some x4
theorem Tf {a0 a1 a2 r}(hm:Hc a0 a1 a2=some r):Sf prog 278 [sl eS a0,.d (.i a1),.d (.i a2),.fn (.func 279) [] []] (.d (.t r)):=by
 refine sq ?_;intros;refine gmkm<|oB hm λ_ q1 hm=>Jj 0 (E:=eS) (xs:=a0) 13 λhle1=>gF (ER _ _ _) q1 (λp0 p=>⟨[(0,sl eS a0),(1,.d (.i a1)),(2,.d (.i a2)),(3,.fn (.func 279) [] []),(9,.ow 0),(13,sl eS a0),(14,.d (.i (a0.length:Int))),(15,.d (.i p0)),(12,.ow 0)],[(0,.hp 0 (.mp p))],[],1⟩) λi1 s1 Jl bl1=>cR bl1 (λx2 _ q5 q4 bl1=> ?_) λe=> ?_
 ·refine gx eS 1 q5<|glk s1 x2<|oB q4 λ_ q6 q4=>gcH q6 T6<|gi q4 ?_ ?_<;>intro _ q4
  ·obtain rfl:=nT bl1 q4;exact AnO hm▸gE
  obtain⟨q7,q4⟩:=A2 q4;exact gup q7<|gT bl1 hle1 q4
 subst e;let y1:=s1;refine bE hm ?_;intro _ hm;exact AnO hm▸gE
def KI (i1:Int)(x2:ByteArray)(s1:(List (ByteArray×Bool))):Option (((List (ByteArray×Bool)))⊕Bool):=Ab (gu (!(lkB s1 x2)) (Dp x2)) λx3=>if((lkB s1 x2)||(x3 !=0))=true then some (.inr false)else if(lkI s1 x2 0).isNone=true then some (.inl (s1++[(x2,true)]))else none
def Hd (a0:List ByteArray)(a1:Int)(a2:Int):Option Bool:=Ab (F6 KI a0 0 ([]:List (ByteArray×Bool))) λx1=>match x1 with| .inr r=>some r| .inl y1=>bnd (((decide ((a0.length:Int)>=a1))&&(decide ((a0.length:Int)<=a2)))) λx4=>some x4
theorem Tg {a0 a1 a2 r}(hm:Hd a0 a1 a2=some r):Sf prog 278 [sl eS a0,.d (.i a1),.d (.i a2),.fn (.func 145) [] []] (.d (.t r)):=by
 refine sq ?_;intros;refine gmkm<|oB hm λ_ q1 hm=>Jj 0 (E:=eS) (xs:=a0) 13 λhle1=>gF (ER _ _ _) q1 (λp0 p=>⟨[(0,sl eS a0),(1,.d (.i a1)),(2,.d (.i a2)),(3,.fn (.func 145) [] []),(9,.ow 0),(13,sl eS a0),(14,.d (.i (a0.length:Int))),(15,.d (.i p0)),(12,.ow 0)],[(0,.hp 0 (.mp p))],[],1⟩) λi1 s1 Jl bl1=>cR bl1 (λx2 _ q5 q4 bl1=> ?_) λe=> ?_
 ·refine gx eS 1 q5<|glk s1 x2<|oB q4 λ_ q6 q4=>gcH q6 QH<|gi q4 ?_ ?_<;>intro _ q4
  ·obtain rfl:=nT bl1 q4;exact AnO hm▸gE
  obtain⟨q7,q4⟩:=A2 q4;exact gup q7<|gT bl1 hle1 q4
 subst e;let y1:=s1;refine bE hm ?_;intro _ hm;exact AnO hm▸gE
def DO (i1:Int)(x2:g_api_Promise)(s1:Int):Option ((Int)⊕Bool):=Ab (Ie x2) λx3=>if((!x3)||(decide (x2.Log<=s1)))=true then some (.inr false)else some (.inl x2.Log)
def J0 (a0:g_api_Cert):Option Bool:=Ab (F6 DO a0.Proms 0 (-1)) λx1=>match x1 with| .inr r=>some r| .inl y1=>Ab (EZ a0.Serial) λx4=>Ab (gu (!(!x4)) (EZ a0.From)) λx5=>Ab (gu (!((!x4)||(!x5))) (EZ a0.Until)) λx6=>bnd (((((!x4)||(!x5))||(!x6))||(decide (a0.From>=a0.Until)))) λx7=>if x7=true then some false else Ab (D7 a0.Issuer) λx8=>Ab (gu (!((((!x8)||((a0.Key.toNat:Int)==0))||(decide ((a0.Key.toNat:Int)>=2305843009213691579)))||(decide ((a0.Proms.length:Int)>4)))) (Ic a0.Sig)) λx9=>bnd ((((((!x8)||((a0.Key.toNat:Int)==0))||(decide ((a0.Key.toNat:Int)>=2305843009213691579)))||(decide ((a0.Proms.length:Int)>4)))||(!x9))) λx10=>if x10=true then some false else if a0.Ca=true then Ab (D7 a0.Subject) λx11=>Ab (gu (((x11&&((a0.Names.length:Int)==0))&&(decide (a0.Depth>=0)))&&(decide (a0.Depth<=4))) (Hc a0.Permit 0 8)) λx12=>bnd (((((x11&&((a0.Names.length:Int)==0))&&(decide (a0.Depth>=0)))&&(decide (a0.Depth<=4)))&&x12)) λx13=>some x13 else Ab (gu (eqS a0.Subject (⟨#[]⟩:ByteArray)) (Hd a0.Names 1 8)) λx14=>bnd (((((eqS a0.Subject (⟨#[]⟩:ByteArray))&&x14)&&(a0.Depth==0))&&((a0.Permit.length:Int)==0))) λx15=>some x15
theorem Xw {a0 r}(hm:J0 a0=some r):Sf prog 208 [ag (Ac a0)] (.d (.t r)):=by
 refine sq ?_;intros;refine oB hm λ_ q1 hm=>Jj 0 (E:=Ad) (xs:=a0.Proms) 7 λhle1=>gF (ER _ _ _) q1 (λp0 p=>⟨[(1,.pb 0 0),(3,.d (.i p)),(7,sl Ad a0.Proms),(8,.d (.i (a0.Proms.length:Int))),(9,.d (.i p0))],[(0,.box 0 [.d (.i a0.Serial),.d (.s a0.Issuer),.d (.s a0.Subject),.d (.u a0.Key),sl eS a0.Names,.d (.i a0.From),.d (.i a0.Until),.d (.t a0.Ca),.d (.i a0.Depth),sl eS a0.Permit,sl Ad a0.Proms,.d (.u a0.Sig.E),.d (.u a0.Sig.S)] 59)],[],1⟩) λi1 s1 Jl bl1=>cR bl1 (λ_ _ q5 q4 bl1=> ?_) λe=> ?_
 ·refine gx Ad 6 q5<|gA q4 Ue λ_ q6 q4=>gi q4 ?_ ?_<;>intro _ q4
  ·obtain rfl:=nT bl1 q4;exact AnO hm▸gE
  exact gT bl1 hle1 q4
 subst e;let y1:=s1;refine gA hm HI λ_ q7 hm=>oB hm λ_ q8 hm=>gcH q8 HI<|oB hm λ_ q9 hm=>gcH q9 HI<|bE hm ?_;intro _ hm;refine gi hm ?_ ?_<;>intro _ hm
 ·exact AnO hm▸gE
 refine gA hm Ud λ_ q11 hm=>oB hm λ_ q12 hm=>gcH q12 QP<|bE hm ?_;intro _ hm;refine gi hm ?_ ?_<;>intro _ hm
 ·exact AnO hm▸gE
 refine gi hm ?_ ?_<;>intro _ hm
 ·refine gA hm Ud λ_ q14 hm=>oB hm λ_ q15 hm=>gcH q15 Tf<|bE hm ?_;intro _ hm;exact AnO hm▸gE
 refine oB hm λ_ q17 hm=>gcH q17 Tg<|bE hm ?_;intro _ hm;exact AnO hm▸gE
def OD (a0:Gq)(k0:Int):Option (Bool×Int):=some ((a0.tag_==k0),k0)
theorem Zg {a0 k0 r}(hm:OD a0 k0=some r):Sp prog 371 [ag (Hx a0),.pb 0 0] [.box 0 [.d (.i k0)] 3] 1 (is (.d (.t r.1)) [.box 0 [.d (.i r.2)] 3] 1):=by
 refine sq ?_;intros;exact AnO hm▸gE
def An (a0:List Gq)(i1:Int)(s1:Int):Option ((Int)⊕(Int×Int)):=Ab (idx a0 (i1:Int)) λx3=>Ab (OD x3 s1) λx4=>if x4.1=true then some (.inr ((i1:Int),x4.2))else some (.inl x4.2)
def Bq (a0:List Gq)(k0:Int):Option (Int×Int):=Ab (CE (An a0) a0.length 0 k0) λx1=>match x1 with| .inr r=>some r| .inl y1=>some ((-1),y1)
theorem Fi {a0 k0 r}(hm:Bq a0 k0=some r):Sp prog 370 [sl Hx a0,.fn (.func 371) [] [.pb 0 0]] [.box 0 [.d (.i k0)] 3] 1 (is (.d (.i r.1)) [.box 0 [.d (.i r.2)] 3] 1):=by
 refine sq ?_;intros;refine oB hm λ_ q1 hm=>Jj 0 (E:=Hx) (xs:=a0) 6 λhle1=>gF (EN _ _ _) q1 (λp0 p=>⟨[(0,sl Hx a0),(1,.fn (.func 371) [] [.pb 0 0]),(7,.d (.i (a0.length:Int))),(8,.d (.i p0))],[(0,.box 0 [.d (.i p)] 3)],[],1⟩) λi1 s1 Jl bl1=>cN bl1 (a0.length:Int) (λ_ q4 bl1=> ?_) λe=> ?_
 ·refine oB q4 λ_ q6 q4=>gx Hx 2 q6<|gD q4 Zg λ_ q7 q4=>gi q4 ?_ ?_<;>intro _ q4
  ·obtain rfl:=nT bl1 q4;exact AnO hm▸gE
  exact gT bl1 hle1 q4
 subst e;let y1:=s1;exact AnO hm▸gE
def J3 (a0:Int):Option (Gq×Bool):=Ab (Bq tab_2 a0) λx1=>if(decide (x1.1<0))=true then some ((⟨0,(-1)⟩:Gq),false)else Ab (idx tab_2 x1.1) λx2=>some (x2,true)
theorem Ady {a0 r}(hm:J3 a0=some r):Sf prog 334 [.d (.i a0)] (.tup [ag (Hx r.1),.d (.t r.2)]):=by
 refine sq ?_;intros;refine gslG (k:=2) (E:=Hx) tab_2 (λ_=>rfl)<|gD hm Fi λ_ q1 hm=>gi hm ?_ ?_<;>intro _ hm
 ·exact AnO hm▸gE
 refine oB hm λ_ q2 hm=>gidG (k:=2) (E:=Hx) tab_2 (λ_=>rfl) (λ_=>q2) ?_;exact AnO hm▸gE
def TG (n:Int)(a0:List UInt8):Option Bool:=if n=299 then KB a0 else if n=428 then Gn a0 else if n=429 then Rj a0 else if n=430 then JY a0 else if n=432 then JX a0 else none
theorem AhW {n a0 r}(hm:TG n a0=some r): ∃k:Nat,n=(k:Int)/\Sf prog k [sl eB a0] (.d (.t r)):=by
 unfold TG at hm;split at hm
 ·rename_i h;exact⟨299,h,T8 hm⟩
 split at hm
 ·rename_i h;exact⟨428,h,Xs hm⟩
 split at hm
 ·rename_i h;exact⟨429,h,Xr hm⟩
 split at hm
 ·rename_i h;exact⟨430,h,Xq hm⟩
 split at hm
 ·rename_i h;exact⟨432,h,Xo hm⟩
 cases hm
def OR (rF:g_api_Item->Int->Option Bool):Prop:= ∀{a0:g_api_Item} {a1:Int} {r:Bool},rF a0 a1=some r->Sf prog 280 [ag (Af a0),.d (.i a1)] (.d (.t r))
def Nj (rF:g_api_Item->Int->Option Bool)(a0:g_api_Item)(k0:Int):Option (Bool×Int):=Ab (rF a0 (w64 (k0-1))) λx1=>some ((!x1),k0)
theorem Xn {rF:g_api_Item->Int->Option Bool}(hF:OR rF){a0 k0 r}(hm:Nj rF a0 k0=some r):Sp prog 336 [ag (Af a0),.pb 0 0] [.box 0 [.d (.i k0)] 3] 1 (is (.d (.t r.1)) [.box 0 [.d (.i r.2)] 3] 1):=by
 refine sq ?_;intros;refine gA hm hF λ_ q1 hm=> ?_;exact AnO hm▸gE
def Aq (rF:g_api_Item->Int->Option Bool)(a0:List g_api_Item)(i1:Int)(s1:Int):Option ((Int)⊕(Int×Int)):=Ab (idx a0 (i1:Int)) λx3=>Ab ((Nj rF) x3 s1) λx4=>if x4.1=true then some (.inr ((i1:Int),x4.2))else some (.inl x4.2)
def Bg (rF:g_api_Item->Int->Option Bool)(a0:List g_api_Item)(k0:Int):Option (Int×Int):=Ab (CE ((Aq rF) a0) a0.length 0 k0) λx1=>match x1 with| .inr r=>some r| .inl y1=>some ((-1),y1)
theorem EG {rF:g_api_Item->Int->Option Bool}(hF:OR rF){a0 k0 r}(hm:Bg rF a0 k0=some r):Sp prog 372 [sl Af a0,.fn (.func 336) [] [.pb 0 0]] [.box 0 [.d (.i k0)] 3] 1 (is (.d (.i r.1)) [.box 0 [.d (.i r.2)] 3] 1):=by
 refine sq ?_;intros;refine oB hm λ_ q1 hm=>Jj 0 (E:=Af) (xs:=a0) 6 λhle1=>gF (EN _ _ _) q1 (λp0 p=>⟨[(0,sl Af a0),(1,.fn (.func 336) [] [.pb 0 0]),(7,.d (.i (a0.length:Int))),(8,.d (.i p0))],[(0,.box 0 [.d (.i p)] 3)],[],1⟩) λi1 s1 Jl bl1=>cN bl1 (a0.length:Int) (λ_ q4 bl1=> ?_) λe=> ?_
 ·refine oB q4 λ_ q6 q4=>gx Af 3 q6<|oB q4 λ_ q7 q4=>gco (Xn hF q7)<|gi q4 ?_ ?_<;>intro _ q4
  ·obtain rfl:=nT bl1 q4;exact AnO hm▸gE
  exact gT bl1 hle1 q4
 subst e;let y1:=s1;exact AnO hm▸gE
def AM (rF:g_api_Item->Int->Option Bool)(a0:List g_api_Item)(k0:Int):Option (Bool×Int):=Ab ((Bg rF) a0 k0) λx1=>some ((decide (x1.1>=0)),x1.2)
theorem Eh {rF:g_api_Item->Int->Option Bool}(hF:OR rF){a0 k0 r}(hm:AM rF a0 k0=some r):Sp prog 335 [sl Af a0,.fn (.func 336) [] [.pb 0 0]] [.box 0 [.d (.i k0)] 3] 1 (is (.d (.t r.1)) [.box 0 [.d (.i r.2)] 3] 1):=by
 refine sq ?_;intros;refine oB hm λ_ q1 hm=>gco (EG hF q1) ?_;exact AnO hm▸gE
def IG (rF:g_api_Item->Int->Option Bool)(a0:g_api_Item)(a1:Int):Option Bool:=Ab (J3 a0.Tag) λx1=>Ab (gu (!((!x1.2)||(decide (a1<1)))) (TG x1.1.may_ a0.B)) λx2=>if((((!x1.2)||(decide (a1<1)))||(!x2))||((a0.Tag !=48)&&(decide ((a0.L.length:Int)>0))))=true then some false else Ab ((AM rF) a0.L a1) λx3=>some (!x3.1)
theorem Aa0 {rF:g_api_Item->Int->Option Bool}(hF:OR rF){a0 a1 r}(hm:IG rF a0 a1=some r):Sf prog 280 [ag (Af a0),.d (.i a1)] (.d (.t r)):=by
 refine sq ?_;intros;refine gA hm Ady λ_ q1 hm=>oB hm λ_ q2 hm=>gdynG (λh=>AhW (Z9 h q2))<|gi hm ?_ ?_<;>intro _ hm
 ·exact AnO hm▸gE
 refine oB hm λ_ q3 hm=>gco (Eh hF q3) ?_;exact AnO hm▸gE
def I6:Nat->g_api_Item->Int->Option Bool
 |0,_,_=>none
 |n+1,a0,a1=>IG (I6 n) a0 a1
def UU (a0:g_api_Item)(a1:Int):Option Bool:=I6 AY a0 a1
theorem V1: ∀n,OR (I6 n)
 |0=>λhm=>by cases hm
 |n+1=>λhm=>Aa0 (V1 n) hm
theorem AeC {a0:g_api_Item}{a1:Int}{r:Bool}(hm:UU a0 a1=some r):Sf prog 280 [ag (Af a0),.d (.i a1)] (.d (.t r)):=V1 AY hm
def Bc (a0:List UInt8):Option (List UInt8):=Ab (app 1 ([]:List UInt8) a0) λx1=>some x1
theorem Hp {a0 r}(hm:Bc a0=some r):Sp prog 300 [sl eB a0] [] 0 (is (.ow 0) [.row 0 1 _ eB r] 1):=by
 refine sq ?_;intros;unfold Bc at hm;refine gnq eB a0 (λhe1=> ?_) ?_
 ·rw[he1]at hm;replace hm:(some ([]:List UInt8))=some _:=hm;refine Tr eB 2 1 ?_;exact AnO hm▸gE
 refine Sa (k:=1) eB ([]:List UInt8) (λ_=>rfl)<|oB hm λ_ q1 hm=>gp eB 1 q1 ?_;exact AnO hm▸gE
def Vp (rF:(List UInt8)->g_api_Item->Option (List UInt8)):Prop:= ∀{a0:List UInt8} {a1:g_api_Item} {r:List UInt8},rF a0 a1=some r->Sp prog 281 [.ow 0,ag (Af a1)] [.row 0 1 _ eB a0] 1 (is (.ow 1) [.row 1 1 _ eB r] 2)
def E8 (rF:(List UInt8)->g_api_Item->Option (List UInt8))(i1:Int)(x4:g_api_Item)(s1:(List UInt8)):Option ((List UInt8)):=Ab (rF s1 x4) λx5=>some x5
def Ia (rF:(List UInt8)->g_api_Item->Option (List UInt8))(a0:g_api_Item):Option (List UInt8):=Ab (Bc a0.B) λx1=>Ab (Ab (FE (E8 rF) a0.L 0 x1) λx3=>some x3) λx2=>some x2
theorem Ua {rF:(List UInt8)->g_api_Item->Option (List UInt8)}(hF:Vp rF){a0 r}(hm:Ia rF a0=some r):Sp prog 337 [ag (Af a0)] [] 0 (is (.ow 0) [.row 0 1 _ eB r] 1):=by
 refine sq ?_;intros;refine gD hm Hp λ_ q1 hm=> ?_;obtain⟨x2,q2,hm⟩:=Ag hm;refine oB q2 λ_ q3 q2=>Jj 0 (E:=Af) (xs:=a0.L) 10 λhle1=>gF (E0 _ _ _) q3 (λp0 p=>⟨[(3,.ow 1),(10,sl Af a0.L),(11,.d (.i (a0.L.length:Int))),(12,.d (.i p0)),(1,.pb 0 0)],[(0,.row 1 1 _ eB p),(1,.box 0 [.d (.i a0.Tag),sl eB a0.B,sl Af a0.L] 192)],[],2⟩) λi1 s1 Jl bl1=>c0 bl1 (λ_ _ q7 q6 bl1=> ?_) λe=> ?_
 ·exact gx Af 3 q7<|gD q6 hF λ_ q8 q6=>gM bl1 hle1 q6
 subst e;obtain rfl:=AnO q2;exact AnO hm▸gE
def Ni (rF:(List UInt8)->g_api_Item->Option (List UInt8))(a0:List UInt8)(a1:g_api_Item):Option (List UInt8):=Ab ((Ia rF) a1) λx1=>Ab (app 1 a0 ([(toB a1.Tag)]:List UInt8)) λx2=>Ab (bnd ((decide ((x1.length:Int)<128))) λx4=>if x4=true then Ab (app 1 x2 ([(toB (x1.length:Int))]:List UInt8)) λx5=>some x5 else bnd ((decide ((x1.length:Int)<256))) λx6=>if x6=true then Ab (app 1 x2 ([129,(toB (x1.length:Int))]:List UInt8)) λx7=>some x7 else Ab (app 1 x2 ([130,(toB (A9 (x1.length:Int) 8)),(toB (x1.length:Int))]:List UInt8)) λx8=>some x8) λx3=>Ab (app 1 x3 x1) λx9=>some x9
theorem AaZ {rF:(List UInt8)->g_api_Item->Option (List UInt8)}(hF:Vp rF){a0 a1 r}(hm:Ni rF a0 a1=some r):Sp prog 281 [.ow 0,ag (Af a1)] [.row 0 1 _ eB a0] 1 (is (.ow 1) [.row 1 1 _ eB r] 2):=by
 refine sq λD0 As u4 m0 hd=>oB hm λx1 q1 hm=>gco (Ua hF q1)<|gq eB 1 [(toB a1.Tag)]<|oB hm λ_ q2 hm=>gp eB 1 q2<|oB hm λx3 q3 hm=>gjU 0 (λ(_:Unit)=>⟨[(0,.ow 3),(5,.ow 2),(3,.pb 1 0)],[(0,.row 3 1 _ eB x3),(1,.row 2 1 _ eB x1),(2,.box 1 [.d (.i a1.Tag),sl eB a1.B,sl Af a1.L] 192)],[],4⟩) (λ_=>True) (λJp bk1=> ?_) λ_ _=> ?_
 ·refine bE q3 ?_;intro _ q3;refine gi q3 ?_ ?_<;>intro _ q3
  ·refine gq eB 1 [(toB (x1.length:Int))]<|oB q3 λ_ q5 q3=>gp eB 1 q5 ?_;obtain rfl:=AnO q3;exact gb bk1 hd () trivial
  refine bE q3 ?_;intro _ q3;refine gi q3 ?_ ?_<;>intro _ q3
  ·refine gq eB 1 [129,(toB (x1.length:Int))]<|oB q3 λ_ q7 q3=>gp eB 1 q7 ?_;obtain rfl:=AnO q3;exact gb bk1 hd () trivial
  refine gq eB 1 [130,(toB (A9 (x1.length:Int) 8)),(toB (x1.length:Int))]<|oB q3 λ_ q8 q3=>gp eB 1 q8 ?_;obtain rfl:=AnO q3;exact gb bk1 hd () trivial
 refine oB hm λ_ q9 hm=>gp eB 1 q9 ?_;exact AnO hm▸gE
def HP:Nat->(List UInt8)->g_api_Item->Option (List UInt8)
 |0,_,_=>none
 |n+1,a0,a1=>Ni (HP n) a0 a1
def UT (a0:List UInt8)(a1:g_api_Item):Option (List UInt8):=HP AY a0 a1
theorem V0: ∀n,Vp (HP n)
 |0=>λhm=>by cases hm
 |n+1=>λhm=>AaZ (V0 n) hm
theorem AeB {a0:List UInt8}{a1:g_api_Item}{r:List UInt8}(hm:UT a0 a1=some r):Sp prog 281 [.ow 0,ag (Af a1)] [.row 0 1 _ eB a0] 1 (is (.ow 1) [.row 1 1 _ eB r] 2):=V0 AY hm
def KD (a0:g_api_Item):Option ((List UInt8)×Int):=Ab (UU a0 8) λx1=>if(!x1)=true then some (([]:List UInt8),1)else Ab (UT ([]:List UInt8) a0) λx2=>if(decide ((x2.length:Int)>8192))=true then some (([]:List UInt8),2)else some (x2,0)
theorem Ub {a0 r}(hm:KD a0=some r):Sp prog 209 [ag (Af a0)] [] 0 (is (.tup [.ow 0,.d (.i r.2)]) [.row 0 1 _ eB r.1] 1):=by
 refine sq ?_;intros;refine gA hm AeC λ_ q1 hm=>gi hm ?_ ?_<;>intro _ hm
 ·refine Tr eB 2 1 ?_;exact AnO hm▸gE
 refine oB hm λ_ q2 hm=>gco (Sp.nil0 (AeB q2) rfl)<|gi hm ?_ ?_<;>intro _ hm
 ·refine Tr eB 2 1 ?_;exact AnO hm▸gE
 exact AnO hm▸gE
def Bz (a0:List g_api_Item):Option (List g_api_Item):=Ab (app 56 ([]:List g_api_Item) a0) λx1=>some x1
theorem Il {a0 r}(hm:Bz a0=some r):Sp prog 298 [sl Af a0] [] 0 (is (.ow 0) [.row 0 3 _ Af r] 1):=by
 refine sq ?_;intros;unfold Bz at hm;refine gnq Af a0 (λhe1=> ?_) ?_
 ·rw[he1]at hm;replace hm:(some ([]:List g_api_Item))=some _:=hm;refine Tr Af 2 3 ?_;exact AnO hm▸gE
 refine Sa (k:=3) Af ([]:List g_api_Item) (λ_=>rfl)<|oB hm λ_ q1 hm=>gp Af 3 q1 ?_;exact AnO hm▸gE
def GU (a0:List g_api_Item):Option g_api_Item:=Ab (Bz a0) λx1=>some (⟨48,[],x1⟩:g_api_Item)
theorem Ke {a0 r}(hm:GU a0=some r):Sf prog 235 [sl Af a0] (ag (Af r)):=by
 refine sq ?_;intros;refine gD hm Il λ_ q1 hm=> ?_;exact AnO hm▸gE
def OE (a0:Int)(i1:Int)(s1:UInt8×UInt8×UInt8×UInt8×UInt8×UInt8×UInt8×UInt8):Option (UInt8×UInt8×UInt8×UInt8×UInt8×UInt8×UInt8×UInt8):=if(0:Int)<=(w64 (56-(w64 (8*(i1:Int)))))then Ab (idx [s1.1,s1.2.1,s1.2.2.1,s1.2.2.2.1,s1.2.2.2.2.1,s1.2.2.2.2.2.1,s1.2.2.2.2.2.2.1,s1.2.2.2.2.2.2.2] (i1:Int)) λx4=>bnd (if(i1:Int)=0 then(toB (A9 a0 ((w64 (56-(w64 (8*(i1:Int))))).toNat)))else s1.1) λx5=>bnd (if(i1:Int)=1 then(toB (A9 a0 ((w64 (56-(w64 (8*(i1:Int))))).toNat)))else s1.2.1) λx6=>bnd (if(i1:Int)=2 then(toB (A9 a0 ((w64 (56-(w64 (8*(i1:Int))))).toNat)))else s1.2.2.1) λx7=>bnd (if(i1:Int)=3 then(toB (A9 a0 ((w64 (56-(w64 (8*(i1:Int))))).toNat)))else s1.2.2.2.1) λx8=>bnd (if(i1:Int)=4 then(toB (A9 a0 ((w64 (56-(w64 (8*(i1:Int))))).toNat)))else s1.2.2.2.2.1) λx9=>bnd (if(i1:Int)=5 then(toB (A9 a0 ((w64 (56-(w64 (8*(i1:Int))))).toNat)))else s1.2.2.2.2.2.1) λx10=>bnd (if(i1:Int)=6 then(toB (A9 a0 ((w64 (56-(w64 (8*(i1:Int))))).toNat)))else s1.2.2.2.2.2.2.1) λx11=>bnd (if(i1:Int)=7 then(toB (A9 a0 ((w64 (56-(w64 (8*(i1:Int))))).toNat)))else s1.2.2.2.2.2.2.2) λx12=>some (x5,x6,x7,x8,x9,x10,x11,x12)else none
def EE (s2:(List UInt8)):Option (((List UInt8))⊕((List UInt8))):=if(decide ((s2.length:Int)>1))=true then Ab (KB s2) λx16=>if(!x16)=true then Ab (cut s2 1 (s2.length:Int)) λx17=>some (.inl x17)else some (.inr s2)else some (.inr s2)
def FX (a0:Int):Option g_api_Item:=Ab (Ab (Di (OE a0) 8 0 (0,0,0,0,0,0,0,0)) λx2=>some (x2.1,x2.2.1,x2.2.2.1,x2.2.2.2.1,x2.2.2.2.2.1,x2.2.2.2.2.2.1,x2.2.2.2.2.2.2.1,x2.2.2.2.2.2.2.2)) λx1=>Ab (Ab (iter EE AY ([x1.1,x1.2.1,x1.2.2.1,x1.2.2.2.1,x1.2.2.2.2.1,x1.2.2.2.2.2.1,x1.2.2.2.2.2.2.1,x1.2.2.2.2.2.2.2]:List UInt8)) λx14=>some x14) λx13=>Ab (Bc x13) λx18=>some (⟨2,x18,[]⟩:g_api_Item)
theorem Kf {a0 r}(hm:FX a0=some r):Sf prog 236 [.d (.i a0)] (ag (Af r)):=by
 refine sq λD0 As u4 m0 hd=> ?_;unfold FX at hm;obtain⟨x1,q1,hm⟩:=Ag hm;refine oB q1 λx2 q2 q1=>gF (EM _ 8 _) q2 (λp0 (p_0,p_1,p_2,p_3,p_4,p_5,p_6,p_7)=>⟨[(0,.d (.i a0)),(2,.pb 0 0),(3,.pb 1 0),(6,.d (.i p0))],[(0,.box 1 [.d (.b p_0),.d (.b p_1),.d (.b p_2),.d (.b p_3),.d (.b p_4),.d (.b p_5),.d (.b p_6),.d (.b p_7)] 300),(1,.box 0 [.d (.i 0),sl eB [],sl Af []] 192)],[],2⟩) λi1 s1 Jl bl1=>cM bl1 (8:Int) (λ_ q5 bl1=> ?_) λe=> ?_
 ·unfold OE at q5;obtain⟨q7,q5⟩:=A2 q5;refine gsh (r:= .i (A9 a0 ((w64 (56-(w64 (8*(i1:Int))))).toNat))) (λh=>q7)<|oB q5 λ_ q8 q5=>Sc (λ_=>q8)<|bE q5 ?_;intro _ q5;refine bE q5 ?_;intro _ q5;refine bE q5 ?_;intro _ q5;refine bE q5 ?_;intro _ q5;refine bE q5 ?_;intro _ q5;refine bE q5 ?_;intro _ q5;refine bE q5 ?_;intro _ q5;refine bE q5 ?_;intro _ q5;exact AkS D.b (toB (A9 a0 ((w64 (56-(w64 (8*(i1:Int))))).toNat))) q8<|gM bl1 lk q5
 subst e;obtain rfl:=AnO q1;let x1:=(x2.1,x2.2.1,x2.2.2.1,x2.2.2.2.1,x2.2.2.2.2.1,x2.2.2.2.2.2.1,x2.2.2.2.2.2.2.1,x2.2.2.2.2.2.2.2);refine gslA (k:=1) eB ([x1.1,x1.2.1,x1.2.2.1,x1.2.2.2.1,x1.2.2.2.2.1,x1.2.2.2.2.2.1,x1.2.2.2.2.2.2.1,x1.2.2.2.2.2.2.2]:List UInt8) (λ_=>rfl) ?_;obtain⟨x13,q17,hm⟩:=Ag hm;refine oB q17 λx14 q18 q17=>gjU 2 (λ(_:Unit)=>⟨[(2,.pb 0 0),(5,sl eB x14)],[(0,.box 0 [.d (.i 0),sl eB [],sl Af []] 192)],[],1⟩) (λ_=>True) (λJp bk4=> ?_) λ_ _=> ?_
 ·refine gI q18 (λp=>⟨[(2,.pb 0 0),(5,sl eB p)],[(0,.box 0 [.d (.i 0),sl eB [],sl Af []] 192)],[],1⟩) λs2 _ Jl q21 bl2=>gspl 22 q21 (λhc2 q21=> ?_) λhc2 q21=> ?_
  ·refine gA q21 T8 λ_ q23 q21=>gi q21 ?_ ?_<;>intro _ q21
   ·exact oB q21 λ_ q24 q21=>gk eB 1 q24<|gN bl2 q21
   obtain rfl:=nR bl2 q21;exact gb bk4 hd () trivial
  refine gi' (b:=false) (λh=>by cases h) (λ_=> ?_);obtain rfl:=nR bl2 q21;exact gb bk4 hd () trivial
 obtain rfl:=AnO q17;refine gD hm Hp λ_ q25 hm=> ?_;exact AnO hm▸gE
def Fg (a0:UInt64):Option g_api_Item:=Ab (FX (w64 (a0.toNat:Int))) λx1=>some x1
theorem Ix {a0 r}(hm:Fg a0=some r):Sf prog 238 [.d (.u a0)] (ag (Af r)):=by
 refine sq ?_;intros;refine gA hm Kf λ_ q1 hm=> ?_;exact AnO hm▸gE
def J4 (a0:ByteArray):Option g_api_Item:=Ab (app 1 ([]:List UInt8) a0.data.toList) λx1=>some (⟨12,x1,[]⟩:g_api_Item)
theorem RK {a0 r}(hm:J4 a0=some r):Sf prog 237 [.d (.s a0)] (ag (Af r)):=by
 refine sq ?_;intros;refine oB hm λ_ q1 hm=>gofS q1 ?_;exact AnO hm▸gE
def R8 (a0:Bool):Option g_api_Item:=Ab (if a0=true then Ab (idx ([0]:List UInt8) 0) λx2=>bnd (([0]:List UInt8).set (0:Int).toNat 255) λx3=>some x3 else some ([0]:List UInt8)) λx1=>some (⟨1,x1,[]⟩:g_api_Item)
theorem Adz {a0 r}(hm:R8 a0=some r):Sf prog 240 [.d (.t a0)] (ag (Af r)):=by
 refine sq λD0 As u4 m0 hd=>Sa (k:=1) eB ([0]:List UInt8) (λ_=>rfl)<|oB hm λx1 q1 hm=>gj (λ(_:Unit)=>⟨[(2,.pb 0 0),(3,.ow 1)],[(0,.row 1 1 _ eB x1),(1,.box 0 [.d (.i 0),sl eB [],sl Af []] 192)],[],2⟩) (λ_=>True) (λJp bk1=> ?_) λ_ _=> ?_
 ·refine gi q1 ?_ ?_<;>intro _ q1
  ·refine oB q1 λ_ q2 q1=>Jk (E:=eB) (λ_=>q2)<|bE q1 ?_;intro _ q1;refine AhO (k:=1) (E:=eB) 255 (λ_=>rfl) q2 ?_;obtain rfl:=AnO q1;exact gb bk1 hd () trivial
  obtain rfl:=AnO q1;exact gb bk1 hd () trivial
 exact AnO hm▸gE
def B1 (i1:Int)(x3:ByteArray)(s1:(List g_api_Item)):Option ((List g_api_Item)):=Ab (J4 x3) λx4=>Ab (app 56 s1 ([x4]:List g_api_Item)) λx5=>some x5
def BT (a0:List ByteArray):Option g_api_Item:=Ab (Ab (FE B1 a0 0 ([]:List g_api_Item)) λx2=>some x2) λx1=>Ab (GU x1) λx6=>some x6
theorem Is {a0 r}(hm:BT a0=some r):Sf prog 239 [sl eS a0,.fn (.func 237) [] []] (ag (Af r)):=by
 refine sq ?_;intros;unfold BT at hm;obtain⟨x1,q1,hm⟩:=Ag hm;refine oB q1 λ_ q2 q1=>U4 0 Af 5 3<|Jj 0 (E:=eS) (xs:=a0) 8 λhle1=>gF (E0 _ _ _) q2 (λp0 p=>⟨[(1,.fn (.func 237) [] []),(4,.pb 0 0),(5,.ow 1),(8,sl eS a0),(9,.d (.i (a0.length:Int))),(10,.d (.i p0))],[(0,.row 1 3 _ Af p),(1,.box 0 [.d (.i 0),sl eB [],sl Af []] 192)],[],2⟩) λi1 s1 Jl bl1=>c0 bl1 (λ_ _ q6 q5 bl1=> ?_) λe=> ?_
 ·exact gx eS 1 q6<|gA q5 RK λx4 q7 q5=>gq Af 3 [x4]<|oB q5 λ_ q8 q5=>gp Af 3 q8<|gM bl1 hle1 q5
 subst e;obtain rfl:=AnO q1;refine gD hm Ke λ_ q9 hm=> ?_;exact AnO hm▸gE
def Mj (a0:g_api_Cert):Option g_api_Item:=Ab (FX a0.Serial) λx1=>Ab (J4 a0.Issuer) λx2=>Ab (J4 a0.Subject) λx3=>Ab (Fg a0.Key) λx4=>Ab (BT a0.Names) λx5=>Ab (FX a0.From) λx6=>Ab (FX a0.Until) λx7=>Ab (R8 a0.Ca) λx8=>Ab (FX a0.Depth) λx9=>Ab (BT a0.Permit) λx10=>Ab (GU ([x1,x2,x3,x4,x5,x6,x7,x8,x9,x10]:List g_api_Item)) λx11=>some x11
theorem V9 {a0 r}(hm:Mj a0=some r):Sf prog 152 [ag (Ac a0)] (ag (Af r)):=by
 refine sq ?_;intros;refine gA hm Kf λx1 q1 hm=>gA hm RK λx2 q2 hm=>gA hm RK λx3 q3 hm=>gA hm Ix λx4 q4 hm=>gA hm Is λx5 q5 hm=>gA hm Kf λx6 q6 hm=>gA hm Kf λx7 q7 hm=>gA hm Adz λx8 q8 hm=>gA hm Kf λx9 q9 hm=> ?_;refine gA hm Is λx10 q10 hm=>gq Af 3 [x1,x2,x3,x4,x5,x6,x7,x8,x9,x10]<|gA hm Ke λ_ q11 hm=> ?_;exact AnO hm▸gE
def J1 (a0:g_api_Promise):Option g_api_Item:=Ab (FX a0.Log) λx1=>Ab (FX a0.At) λx2=>Ab (Fg a0.Leaf.1) λx3=>Ab (Fg a0.Leaf.2) λx4=>Ab (Fg a0.Sig.E) λx5=>Ab (Fg a0.Sig.S) λx6=>Ab (GU ([x1,x2,x3,x4,x5,x6]:List g_api_Item)) λx7=>some x7
theorem Xx {a0 r}(hm:J1 a0=some r):Sf prog 308 [ag (Ad a0)] (ag (Af r)):=by
 refine sq ?_;intros;refine gA hm Kf λx1 q1 hm=>gA hm Kf λx2 q2 hm=>gA hm Ix λx3 q3 hm=>gA hm Ix λx4 q4 hm=>gA hm Ix λx5 q5 hm=>gA hm Ix λx6 q6 hm=>gq Af 3 [x1,x2,x3,x4,x5,x6]<|gA hm Ke λ_ q7 hm=> ?_;exact AnO hm▸gE
def Bf (i1:Int)(x3:g_api_Promise)(s1:(List g_api_Item)):Option ((List g_api_Item)):=Ab (J1 x3) λx4=>Ab (app 56 s1 ([x4]:List g_api_Item)) λx5=>some x5
def BE (a0:List g_api_Promise):Option g_api_Item:=Ab (Ab (FE Bf a0 0 ([]:List g_api_Item)) λx2=>some x2) λx1=>Ab (GU x1) λx6=>some x6
theorem Kg {a0 r}(hm:BE a0=some r):Sf prog 307 [sl Ad a0,.fn (.func 308) [] []] (ag (Af r)):=by
 refine sq ?_;intros;unfold BE at hm;obtain⟨x1,q1,hm⟩:=Ag hm;refine oB q1 λ_ q2 q1=>U4 0 Af 5 3<|Jj 0 (E:=Ad) (xs:=a0) 8 λhle1=>gF (E0 _ _ _) q2 (λp0 p=>⟨[(1,.fn (.func 308) [] []),(4,.pb 0 0),(5,.ow 1),(8,sl Ad a0),(9,.d (.i (a0.length:Int))),(10,.d (.i p0))],[(0,.row 1 3 _ Af p),(1,.box 0 [.d (.i 0),sl eB [],sl Af []] 192)],[],2⟩) λi1 s1 Jl bl1=>c0 bl1 (λ_ _ q6 q5 bl1=> ?_) λe=> ?_
 ·exact gx Ad 6 q6<|gA q5 Xx λx4 q7 q5=>gq Af 3 [x4]<|oB q5 λ_ q8 q5=>gp Af 3 q8<|gM bl1 hle1 q5
 subst e;obtain rfl:=AnO q1;refine gD hm Ke λ_ q9 hm=> ?_;exact AnO hm▸gE
def KJ (a0:g_api_Cert):Option g_api_Item:=Ab (Mj a0) λx1=>Ab (BE a0.Proms) λx2=>Ab (GU ([x1,x2]:List g_api_Item)) λx3=>some x3
theorem Uf {a0 r}(hm:KJ a0=some r):Sf prog 250 [ag (Ac a0)] (ag (Af r)):=by
 refine sq ?_;intros;refine gA hm V9 λx1 q1 hm=>gA hm Kg λx2 q2 hm=>gq Af 3 [x1,x2]<|gA hm Ke λ_ q3 hm=> ?_;exact AnO hm▸gE
def Lt (a0:g_api_Cert):Option g_api_Item:=Ab (KJ a0) λx1=>Ab (Fg a0.Sig.E) λx2=>Ab (Fg a0.Sig.S) λx3=>Ab (GU ([x2,x3]:List g_api_Item)) λx4=>Ab (GU ([x1,x4]:List g_api_Item)) λx5=>some x5
theorem Zk {a0 r}(hm:Lt a0=some r):Sf prog 210 [ag (Ac a0)] (ag (Af r)):=by
 refine sq ?_;intros;refine gA hm Uf λx1 q1 hm=>gA hm Ix λx2 q2 hm=>gA hm Ix λx3 q3 hm=>gq Af 3 [x2,x3]<|gA hm Ke λx4 q4 hm=>gq Af 3 [x1,x4]<|gA hm Ke λ_ q5 hm=> ?_;exact AnO hm▸gE
def Ci (a0:g_api_Cert):Option Int:=Ab (J0 a0) λx1=>if(!x1)=true then some 1 else Ab (Lt a0) λx2=>Ab (KD x2) λx3=>if((x3.2 !=0)||(decide ((x3.1.length:Int)>2048)))=true then some 2 else some 0
theorem FJ {a0 r}(hm:Ci a0=some r):Sf prog 130 [ag (Ac a0)] (.d (.i r)):=by
 refine sq ?_;intros;refine gA hm Xw λ_ q1 hm=>gi hm ?_ ?_<;>intro _ hm
 ·exact AnO hm▸gE
 refine gA hm Zk λ_ q2 hm=>gD hm Ub λ_ q3 hm=>gi hm ?_ ?_<;>intro _ hm
 ·exact AnO hm▸gE
 exact AnO hm▸gE
def Bi (a1:Int):Option (List g_api_Cert):=Ab (if(decide (a1<0))=true then none else some ()) λx1=>Ab (bnd ((w64 (a1-(w64 (0-((0:Nat):Int)))))) λx3=>if(decide (x3>0))=true then if 0<=x3/\x3*168<=140737488355328/\x3<=140737488355328 then some ([]:List g_api_Cert)else none else some ([]:List g_api_Cert)) λx2=>some x2
theorem Hg {m As w a1 r}(S:St m (As) w)(hm:Bi a1=some r):
  C0 Tryz.prog 228 #[.slice none 0 0,vI a1] w λv w'=> ∃(M:Mem),m<=M/\∃(rv0:Value) (rc0:List Value),St M ((row 13 rv0 rc0 r.length)::As) w'/\v=rv0/\Cl M rc0 r:=by
 unfold Bi at hm;have L0:=Mem.rfl' m;refine Rx (args:=[.slice none 0 0,vI a1]) Tryz.func228 rfl Tryz.ntmps228 (An5 rfl)<|AL<|Aw<|Gy (v:= .slice none 0 0) rfl<|AF<|nrm ?_;obtain⟨x1,q1,hm⟩:=Ag hm;have L1:=Mem.rfl' m;refine AL<|Mv [5,6,7] (λf' w'=> ∃(M1:Mem),m<=M1/\St M1 (As) w'/\Tw f' []) ?_ ?_
 ·refine AL<|Aw<|AT (v:=vI a1) rfl<|Ae9 (m:=a1) (n:=0) rfl rfl<|AF<|nrm<|J8 (t:=(decide (a1<0))) rfl (λhc1=> ?_) (λhc1=> ?_)
  ·replace q1:=ifT hc1 q1;cases q1
  replace q1:=ifF hc1 q1;refine F8<|nrm ?_;obtain rfl:=AnO q1;exact⟨Wj,m,L1,S,trivial⟩
 rintro f1 w1 ho ⟨m1,l1,S1,ha⟩;obtain⟨u1,rfl⟩:=No (N:=27) ho ha;replace L0:=Mem.tr L0 l1;clear S;obtain⟨x2,q2,hm⟩:=Ag hm;have L2:=Mem.rfl' m1;refine AL<|Mv [0,1,8,9,10,11,12,13,14,15,16,17,18,19,20,21,22,23,24,25] (λf' w'=> ∃(M2:Mem) (v1:Value) (c1:List Value),m1<=M2/\St M2 ((row 13 v1 c1 x2.length)::As) w'/\Cl M2 c1 x2/\Tw f' [(0,v1)]) ?_ ?_
 ·refine AL<|Aw<|AT (v:=vI a1) rfl<|AT (v:= .slice none 0 0) rfl<|O0 rfl Tryz.underlying22<|AT (v:= .slice none 0 0) rfl<|Uw (n:=0) rfl Tryz.underlying22<|QY (m:=0) (n:=((0:Nat):Int)) rfl rfl<|QY (m:=a1) (n:=(w64 (0-((0:Nat):Int)))) rfl rfl ?_;obtain⟨x3,q3,q2⟩:=Ahq q2;refine Gy (v:=vI x3) (Aos (λz=>vI z) q3.symm)<|AF<|nrm<|AL<|Aw<|AT (v:=vI x3) rfl<|AdE (m:=x3) (n:=0) rfl rfl<|AF<|nrm ?_;refine J8 (t:=(decide (x3>0))) rfl (λhc2=> ?_) (λhc2=> ?_)
  ·replace q2:=ifT hc2 q2;refine Aw<|AT (v:= .slice none 0 0) rfl<|AT (v:= .slice none 0 0) rfl<|O0 rfl Tryz.underlying22<|Afd rfl Tryz.underlying22 Tryz.sizeOf59 rfl<|AT (v:=vI x3) rfl ?_;obtain⟨q4,q2⟩:=A2 q2;refine Afg (bytes:=168) (sz:=13) (k:=x3) (ti:=Tryz.t59) S1 rfl rfl q4 Tryz.underlying22 Tryz.underlying3 Tryz.type59 rfl rfl rfl rfl ?_;intro v2 c2 w2 S2;replace S2:St _ ((row 13 v2 c2 x3.toNat)::As) _:=S2;clear S1;refine AT (v:= .slice none 0 0) rfl<|Uw (n:=0) rfl Tryz.underlying22<|Acq (i:=0) S2 rfl rfl Tryz.underlying22 Tryz.sizeOf59 rfl (j:=0) rfl (Int.le_refl 0) (AoL _) ?_;intro v3 S3;rw[show c2.take ((0:Int).toNat*13)=[]from by simp]at S3;have h2:Cl m1 [] ([]:List g_api_Cert):=Cl.nil;replace S3:St _ ((row 13 v3 [] ([]:List g_api_Cert).length)::As) _:=S3;clear S2;refine Gy (v:=v3) rfl<|AF<|nrm ?_;obtain rfl:=AnO q2;exact⟨Wj,m1,_,_,L2,S3,h2,⟨rfl,trivial⟩⟩
  replace q2:=ifF hc2 q2;refine F8<|nrm ?_;have S4:=St.rowNil S1 13;have h3:Cl m1 [] ([]:List g_api_Cert):=Cl.nil;replace S4:St _ ((row 13 (.slice none 0 0) [] ([]:List g_api_Cert).length)::As) _:=S4;clear S1;obtain rfl:=AnO q2;exact⟨Wj,m1,_,_,L2,S4,h3,⟨rfl,trivial⟩⟩
 rintro f2 w3 ho ⟨m2,v1,c1,l2,S5,h1,ha⟩;obtain⟨u2,rfl⟩:=No (N:=27) ho ha;replace L0:=Mem.tr L0 l2;clear S1;refine AL<|Aw<|AT (v:=v1) rfl<|Gy (v:=v1) rfl<|AF<|nrm<|J7<|UJ ?_;intro we hpd;replace S5:=St.pd S5 hpd;obtain rfl:=AnO hm;exact Aeo [_] rfl ⟨rfl,trivial⟩ ⟨_,L0,_,_,S5,rfl,h1⟩
theorem Hj {a1 r}(hm:Bi a1=some r):Sp prog 228 [.d (.v (.slice none 0 0)),.d (.i a1)] [] 0 (is (.ow 0) [.row 0 13 _ Ac r] 1):=
 gnl call228 WN (λS=>Hg S hm)
def GH (i1:Int)(x3:List g_api_Cert)(s1:Int):Option (Int):=Ab (bnd ((w64 (s1+(x3.length:Int)))) λx5=>if(decide (x5<0))=true then none else some x5) λx4=>some x4
def GG (i2:Int)(x9:List g_api_Cert)(s2:(List g_api_Cert)):Option ((List g_api_Cert)):=Ab (app 168 s2 x9) λx10=>some x10
def Ct (a0:List (List g_api_Cert)):Option (List g_api_Cert):=Ab (Ab (FE GH a0 0 0) λx2=>some x2) λx1=>Ab (Bi x1) λx6=>Ab (Ab (FE GG a0 0 x6) λx8=>some x8) λx7=>some x7
theorem HE {a0 r}(hm:Ct a0=some r):Sp prog 146 [sl (eL Ac) a0] [] 0 (is (.ow 0) [.row 0 13 _ Ac r] 1):=by
 refine sq ?_;intros;unfold Ct at hm;obtain⟨x1,q1,hm⟩:=Ag hm;refine oB q1 λ_ q2 q1=>Jj 0 (E:=(eL Ac)) (xs:=a0) 9 λhle1=>gF (E0 _ _ _) q2 (λp0 p=>⟨[(0,sl (eL Ac) a0),(3,.d (.i p)),(9,sl (eL Ac) a0),(10,.d (.i (a0.length:Int))),(11,.d (.i p0))],[],[],0⟩) λi1 s1 Jl bl1=>c0 bl1 (λ_ _ q6 q5 bl1=> ?_) λe=> ?_
 ·refine oB q5 λ_ q7 q5=>gx (eL Ac) 1 q6<|bE q7 ?_;intro _ q7;refine gi q7 ?_ ?_<;>intro _ q7
  ·cases q7
  obtain rfl:=AnO q7;exact gM bl1 hle1 q5
 subst e;obtain rfl:=AnO q1;refine gD hm Hj λ_ q9 hm=> ?_;obtain⟨x7,q10,hm⟩:=Ag hm;refine oB q10 λ_ q11 q10=>Jj 2 (E:=(eL Ac)) (xs:=a0) 25 λhle2=>gF (E0 _ _ _) q11 (λp0 p=>⟨[(6,.ow 0),(25,sl (eL Ac) a0),(26,.d (.i (a0.length:Int))),(27,.d (.i p0))],[(0,.row 0 13 _ Ac p)],[],1⟩) λi2 s2 Jl bl2=>c0 bl2 (λ_ _ q15 q14 bl2=> ?_) λe=> ?_
 ·exact gx (eL Ac) 1 q15<|oB q14 λ_ q16 q14=>gp Ac 13 q16<|gM bl2 hle2 q14
 subst e;obtain rfl:=AnO q10;exact AnO hm▸gE
def Qd (i1:Int)(x3:g_api_Cert)(s1:Unit):Option ((Unit)⊕Int):=Ab (Ci x3) λx4=>if(x4 !=0)=true then some (.inr x4)else some (.inl ())
def Nz (a0:g_path_trip):Option Int:=Ab (Ct ([a0.chain_,a0.roots_]:List (List g_api_Cert))) λx1=>Ab (F6 Qd x1 0 ()) λx2=>match x2 with| .inr r=>some r| .inl y1=>some 0
theorem SU {a0 r}(hm:Nz a0=some r):Sf prog 73 [ag (E1 a0)] (.d (.i r)):=by
 refine sq ?_;intros;refine gq (eL Ac) 1 [a0.chain_,a0.roots_]<|gD hm HE λx1 q1 hm=>oB hm λ_ q2 hm=>Jj 0 (E:=Ac) (xs:=x1) 11 λhle1=>gF (ER _ _ _) q2 (λp0 _=>⟨[(11,sl Ac x1),(12,.d (.i (x1.length:Int))),(13,.d (.i p0)),(1,.pb 0 0)],[(0,.box 0 [sl Ac a0.roots_,sl Ac a0.chain_,.d (.s a0.name_),.d (.i a0.now_)] 124)],[],1⟩) λi1 s1 Jl bl1=>cR bl1 (λ_ _ q6 q5 bl1=> ?_) λe=> ?_
 ·refine gx Ac 13 q6<|gA q5 FJ λ_ q7 q5=>gi q5 ?_ ?_<;>intro _ q5
  ·obtain rfl:=nT bl1 q5;exact AnO hm▸gE
  exact gT bl1 hle1 q5
 subst e;exact AnO hm▸gE
def H6 (a0:g_path_trip)(a1:g_api_Cert):Option Bool:=bnd (((decide (a1.From<=a0.now_))&&(decide (a1.Until>a0.now_)))) λx1=>some x1
theorem KZ {a0 a1 r}(hm:H6 a0 a1=some r):Sf prog 147 [ag (E1 a0),ag (Ac a1)] (.d (.t r)):=by
 refine sq ?_;intros;refine bE hm ?_;intro _ hm;exact AnO hm▸gE
def IB (a0:List ByteArray)(a1:ByteArray)(i1:Int)(s1:Unit):Option ((Unit)⊕Int):=Ab (idx a0 (i1:Int)) λx3=>if(eqS a1 x3)=true then some (.inr (i1:Int))else some (.inl ())
def Fq (a0:List ByteArray)(a1:ByteArray):Option Int:=Ab (CE (IB a0 a1) a0.length 0 ()) λx1=>match x1 with| .inr r=>some r| .inl y1=>some (-1)
theorem JA {a0 a1 r}(hm:Fq a0 a1=some r):Sf prog 229 [sl eS a0,.d (.s a1)] (.d (.i r)):=by
 refine sq ?_;intros;refine oB hm λ_ q1 hm=>Jj 0 (E:=eS) (xs:=a0) 6 λhle1=>gF (EN _ _ _) q1 (λp0 _=>⟨[(0,sl eS a0),(1,.d (.s a1)),(7,.d (.i (a0.length:Int))),(8,.d (.i p0))],[],[],0⟩) λi1 s1 Jl bl1=>cN bl1 (a0.length:Int) (λ_ q4 bl1=> ?_) λe=> ?_
 ·refine oB q4 λ_ q6 q4=>gx eS 1 q6<|gi q4 ?_ ?_<;>intro _ q4
  ·obtain rfl:=nT bl1 q4;exact AnO hm▸gE
  exact gT bl1 hle1 q4
 subst e;exact AnO hm▸gE
def Es (a0:List ByteArray)(a1:ByteArray):Option Bool:=Ab (Fq a0 a1) λx1=>some (decide (x1>=0))
theorem Iv {a0 a1 r}(hm:Es a0 a1=some r):Sf prog 148 [sl eS a0,.d (.s a1)] (.d (.t r)):=by
 refine sq ?_;intros;refine gA hm JA λ_ q1 hm=> ?_;exact AnO hm▸gE
def Pf (a0:g_path_trip)(i1:Int)(s1:Bool):Option ((Bool)⊕Int):=Ab (idx a0.chain_ (i1:Int)) λx3=>Ab (gu (!s1) (H6 a0 x3)) λx4=>if(x3.Ca==(decide ((i1:Int)>0)))=true then some (.inl (s1||(!x4)))else some (.inr 191)
def L3 (a0:g_path_trip):Option Int:=Ab (CE (Pf a0) a0.chain_.length 0 false) λx1=>match x1 with| .inr r=>some r| .inl y1=>Ab (idx a0.chain_ 0) λx5=>Ab (Es x5.Names a0.name_) λx6=>if(!x6)=true then some 110 else if y1=true then some 190 else some 0
theorem RI {a0 r}(hm:L3 a0=some r):Sf prog 74 [ag (E1 a0)] (.d (.i r)):=by
 refine sq ?_;intros;refine oB hm λ_ q1 hm=>Jj 0 (E:=Ac) (xs:=a0.chain_) 7 λhle1=>gF (EN _ _ _) q1 (λp0 p=>⟨[(1,.pb 0 0),(3,.d (.t p)),(7,sl Ac a0.chain_),(8,.d (.i (a0.chain_.length:Int))),(9,.d (.i p0))],[(0,.box 0 [sl Ac a0.roots_,sl Ac a0.chain_,.d (.s a0.name_),.d (.i a0.now_)] 124)],[],1⟩) λi1 s1 Jl bl1=>cN bl1 (a0.chain_.length:Int) (λ_ q4 bl1=> ?_) λe=> ?_
 ·refine oB q4 λ_ q6 q4=>gx Ac 13 q6<|oB q4 λ_ q7 q4=>gcH q7 KZ<|gi q4 ?_ ?_<;>intro _ q4
  ·exact gT bl1 hle1 q4
  obtain rfl:=nT bl1 q4;exact AnO hm▸gE
 subst e;let y1:=s1;refine oB hm λ_ q8 hm=>gx Ac 13 q8<|gA hm Iv λ_ q9 hm=>gi hm ?_ ?_<;>intro _ hm
 ·exact AnO hm▸gE
 refine gi hm ?_ ?_<;>intro _ hm
 ·exact AnO hm▸gE
 exact AnO hm▸gE
def Mk (a0:g_api_Cert):Option ((List UInt8)×Int):=Ab (Ci a0) λx1=>if(x1 !=0)=true then some (([]:List UInt8),x1)else Ab (KJ a0) λx2=>Ab (KD x2) λx3=>some (x3.1,x3.2)
theorem RT {a0 r}(hm:Mk a0=some r):Sp prog 151 [ag (Ac a0),.fn (.func 250) [] []] [] 0 (is (.tup [.ow 0,.d (.i r.2)]) [.row 0 1 _ eB r.1] 1):=by
 refine sq ?_;intros;refine gA hm FJ λ_ q1 hm=>gi hm ?_ ?_<;>intro _ hm
 ·refine Tr eB 4 1 ?_;exact AnO hm▸gE
 refine gA hm Uf λ_ q2 hm=>gD hm Ub λ_ q3 hm=> ?_;exact AnO hm▸gE
def Qj (a0:g_api_Cert):Option ((List UInt8)×Int):=Ab (Mk a0) λx1=>some (x1.1,x1.2)
theorem Ug {a0 r}(hm:Qj a0=some r):Sp prog 164 [ag (Ac a0)] [] 0 (is (.tup [.ow 0,.d (.i r.2)]) [.row 0 1 _ eB r.1] 1):=by
 refine sq ?_;intros;refine gD hm RT λ_ q1 hm=> ?_;exact AnO hm▸gE
def Jh (a0:UInt64)(a1:UInt64):Option (UInt64×UInt64):=bnd (((a0&&&4294967295)*(a1&&&4294967295))) λx1=>bnd ((((DL a0 32)*(a1&&&4294967295))+(DL x1 32))) λx2=>bnd (((x2&&&4294967295)+((a0&&&4294967295)*(DL a1 32)))) λx3=>bnd (((((DL a0 32)*(DL a1 32))+(DL x2 32))+(DL x3 32))) λx4=>some (x4,(a0*a1))
theorem Od {a0 a1 r}(hm:Jh a0 a1=some r):Sf prog 304 [.d (.u a0),.d (.u a1)] (.tup [.d (.u r.1),.d (.u r.2)]):=by
 refine sq ?_;intros;refine bE hm ?_;intro _ hm;refine bE hm ?_;intro _ hm;refine bE hm ?_;intro _ hm;refine bE hm ?_;intro _ hm;exact AnO hm▸gE
def Hw (a0:UInt64):Option Int:=Ab (if(decide ((a0.toNat:Int)>=4294967296))=true then some ((DL a0 32),32)else some (a0,0)) λx1=>Ab (if(decide ((x1.1.toNat:Int)>=65536))=true then some ((DL x1.1 16),(w64 (x1.2+16)))else some (x1.1,x1.2)) λx2=>Ab (if(decide ((x2.1.toNat:Int)>=256))=true then some ((DL x2.1 8),(w64 (x2.2+8)))else some (x2.1,x2.2)) λx3=>Ab (idx str_0.data.toList ((toB (x3.1.toNat:Int)).toNat:Int)) λx4=>bnd ((w64 (x3.2+(w64 (x4.toNat:Int))))) λx5=>some x5
theorem Oe {a0 r}(hm:Hw a0=some r):Sf prog 244 [.d (.u a0)] (.d (.i r)):=by
 refine sq λD0 As u4 m0 hd=>oB hm λx1 q1 hm=>gj (λ(_:Unit)=>let (y_0,y_1):=x1; ⟨[(0,.d (.u y_0)),(2,.d (.i y_1))],[],[],0⟩) (λ_=>True) (λJp bk1=> ?_) λ_ _=> ?_
 ·refine gi q1 ?_ ?_<;>intro _ q1
  ·obtain rfl:=AnO q1;exact gb bk1 hd () trivial
  obtain rfl:=AnO q1;exact gb bk1 hd () trivial
 refine oB hm λx2 q2 hm=>gj (λ(_:Unit)=>let (y_0,y_1):=x2; ⟨[(0,.d (.u y_0)),(2,.d (.i y_1))],[],[],0⟩) (λ_=>True) (λJp bk2=> ?_) λ_ _=> ?_
 ·refine gi q2 ?_ ?_<;>intro _ q2
  ·obtain rfl:=AnO q2;exact gb bk2 hd () trivial
  obtain rfl:=AnO q2;exact gb bk2 hd () trivial
 refine oB hm λx3 q3 hm=>gj (λ(_:Unit)=>let (y_0,y_1):=x3; ⟨[(0,.d (.u y_0)),(2,.d (.i y_1))],[],[],0⟩) (λ_=>True) (λJp bk3=> ?_) λ_ _=> ?_
 ·refine gi q3 ?_ ?_<;>intro _ q3
  ·obtain rfl:=AnO q3;exact gb bk3 hd () trivial
  obtain rfl:=AnO q3;exact gb bk3 hd () trivial
 refine oB hm λ_ q4 hm=>Aab (λ_=>q4)<|bE hm ?_;intro _ hm;exact AnO hm▸gE
def D5 (a0:UInt64):Option Int:=Ab (Hw a0) λx1=>some (w64 (64-x1))
theorem Of {a0 r}(hm:D5 a0=some r):Sf prog 359 [.d (.u a0)] (.d (.i r)):=by
 refine sq ?_;intros;refine gA hm Oe λ_ q1 hm=> ?_;exact AnO hm▸gE
def F4 (x4:UInt64)(x5:UInt64)(x7:UInt64)(s1:UInt64×UInt64):Option ((UInt64×UInt64)⊕(UInt64)):=if((decide ((s1.1.toNat:Int)>=4294967296))||(decide (((s1.1*x5).toNat:Int)>(((4294967296*s1.2)+x7).toNat:Int))))=true then if(decide (((s1.2+x4).toNat:Int)>=4294967296))=true then some (.inr (s1.1-1))else some (.inl ((s1.1-1),(s1.2+x4)))else some (.inr s1.1)
def F3 (x4:UInt64)(x5:UInt64)(x8:UInt64)(s2:UInt64×UInt64):Option ((UInt64×UInt64)⊕(UInt64)):=if((decide ((s2.2.toNat:Int)>=4294967296))||(decide (((s2.2*x5).toNat:Int)>(((4294967296*s2.1)+x8).toNat:Int))))=true then if(decide (((s2.1+x4).toNat:Int)>=4294967296))=true then some (.inr (s2.2-1))else some (.inl ((s2.1+x4),(s2.2-1)))else some (.inr s2.2)
def Ji (a0:UInt64)(a1:UInt64)(a2:UInt64):Option (UInt64×UInt64):=Ab (if((a2.toNat:Int)==0)=true then none else some ()) λx1=>Ab (if(decide ((a2.toNat:Int)<=(a0.toNat:Int)))=true then none else some ()) λx2=>if((a0.toNat:Int)==0)=true then if a2≠0 then if a2≠0 then some ((a1/a2),(a1%a2))else none else none else Ab (D5 a2) λx3=>bnd ((DL (K5 a2 ((toU x3).toNat)) 32)) λx4=>bnd (((K5 a2 ((toU x3).toNat))&&&4294967295)) λx5=>bnd (((K5 a0 ((toU x3).toNat))|||(DL a1 ((64-(toU x3)).toNat)))) λx6=>bnd ((DL (K5 a1 ((toU x3).toNat)) 32)) λx7=>bnd (((K5 a1 ((toU x3).toNat))&&&4294967295)) λx8=>if x4≠0 then Ab (Ab (iter (F4 x4 x5 x7) AY ((x6/x4),(x6-((x6/x4)*x4)))) λx10=>some x10) λx9=>bnd ((((x6*4294967296)+x7)-(x9*(K5 a2 ((toU x3).toNat))))) λx12=>if x4≠0 then Ab (Ab (iter (F3 x4 x5 x8) AY ((x12-((x12/x4)*x4)),(x12/x4))) λx14=>some x14) λx13=>bnd ((DL (((x12*4294967296)+x8)-(x13*(K5 a2 ((toU x3).toNat)))) ((toU x3).toNat))) λx16=>some (((x9*4294967296)+x13),x16)else none else none
theorem Sx {a0 a1 a2 r}(hm:Ji a0 a1 a2=some r):Sf prog 306 [.d (.u a0),.d (.u a1),.d (.u a2)] (.tup [.d (.u r.1),.d (.u r.2)]):=by
 refine sq λD0 As u4 m0 hd=>oB hm λ_ q1 hm=>gi q1 (λhc1 q1=> ?_) λhc1 q1=> ?_
 ·cases q1
 obtain rfl:=AnO q1;refine oB hm λ_ q2 hm=>gi q2 (λhc2 q2=> ?_) λhc2 q2=> ?_
 ·cases q2
 obtain rfl:=AnO q2;refine gi hm ?_ ?_<;>intro _ hm
 ·obtain⟨q3,hm⟩:=A2 hm;refine AcV (d:= .u a2) (r:= .u (a1/a2)) (λh=>q3) ?_;obtain⟨q4,hm⟩:=A2 hm;refine AcV (d:= .u a2) (r:= .u (a1%a2)) (λh=>q4) ?_;exact AnO hm▸gE
 refine gA hm Of λx3 q5 hm=>bE hm ?_;intro x4 hm;refine bE hm ?_;intro x5 hm;refine bE hm ?_;intro x6 hm;refine bE hm ?_;intro x7 hm;refine bE hm ?_;intro x8 hm;obtain⟨q11,hm⟩:=A2 hm;refine AcV (d:= .u x4) (r:= .u (x6/x4)) (λh=>q11) ?_;obtain⟨x9,q12,hm⟩:=Ag hm;refine oB q12 λx10 q13 q12=>gjU 0 (λ(_:Unit)=>⟨[(2,.d (.u (K5 a2 ((toU x3).toNat)))),(8,.d (.u (toU x3))),(9,.d (.u x4)),(10,.d (.u x5)),(11,.d (.u x6)),(13,.d (.u x7)),(14,.d (.u x8)),(15,.d (.u x10))],[],[],0⟩) (λ_=>True) (λJp bk4=> ?_) λ_ _=> ?_
 ·refine gI q13 (λ(p_0,p_1)=>⟨[(2,.d (.u (K5 a2 ((toU x3).toNat)))),(8,.d (.u (toU x3))),(9,.d (.u x4)),(10,.d (.u x5)),(11,.d (.u x6)),(13,.d (.u x7)),(14,.d (.u x8)),(15,.d (.u p_0)),(16,.d (.u p_1))],[],[],0⟩) λs1 _ Jl q16 bl1=>gi q16 ?_ ?_<;>intro _ q16
  ·refine gi q16 ?_ ?_<;>intro _ q16
   ·obtain rfl:=nR bl1 q16;exact gb bk4 hd () trivial
   exact gN bl1 q16
  obtain rfl:=nR bl1 q16;exact gb bk4 hd () trivial
 obtain rfl:=AnO q12;let x9:=x10;refine bE hm ?_;intro x12 hm;obtain⟨q19,hm⟩:=A2 hm;refine AcV (d:= .u x4) (r:= .u (x12/x4)) (λh=>q19) ?_;obtain⟨x13,q20,hm⟩:=Ag hm;refine oB q20 λx14 q21 q20=>gjU 2 (λ(_:Unit)=>⟨[(2,.d (.u (K5 a2 ((toU x3).toNat)))),(8,.d (.u (toU x3))),(14,.d (.u x8)),(15,.d (.u x9)),(17,.d (.u x12)),(18,.d (.u x14))],[],[],0⟩) (λ_=>True) (λJp bk6=> ?_) λ_ _=> ?_
 ·refine gI q21 (λ(p_0,p_1)=>⟨[(2,.d (.u (K5 a2 ((toU x3).toNat)))),(8,.d (.u (toU x3))),(9,.d (.u x4)),(10,.d (.u x5)),(14,.d (.u x8)),(15,.d (.u x9)),(16,.d (.u p_0)),(17,.d (.u x12)),(18,.d (.u p_1))],[],[],0⟩) λs2 _ Jl q24 bl2=>gi q24 ?_ ?_<;>intro _ q24
  ·refine gi q24 ?_ ?_<;>intro _ q24
   ·obtain rfl:=nR bl2 q24;exact gb bk6 hd () trivial
   exact gN bl2 q24
  obtain rfl:=nR bl2 q24;exact gb bk6 hd () trivial
 obtain rfl:=AnO q20;refine bE hm ?_;intro _ hm;exact AnO hm▸gE
def Hv (a0:UInt64)(a1:UInt64)(a2:UInt64):Option UInt64:=if a2≠0 then Ab (Ji (a0%a2) a1 a2) λx1=>some x1.2 else none
theorem Sw {a0 a1 a2 r}(hm:Hv a0 a1 a2=some r):Sf prog 319 [.d (.u a0),.d (.u a1),.d (.u a2)] (.d (.u r)):=by
 refine sq ?_;intros;unfold Hv at hm;obtain⟨q1,hm⟩:=A2 hm;refine AcV (d:= .u a2) (r:= .u (a0%a2)) (λh=>q1)<|gA hm Sx λ_ q2 hm=> ?_;exact AnO hm▸gE
def CV (a0:UInt64)(a1:UInt64)(a2:UInt64):Option UInt64:=Ab (Jh a1 a2) λx1=>Ab (Hv x1.1 x1.2 a0) λx2=>some x2
theorem F9 {a0 a1 a2 r}(hm:CV a0 a1 a2=some r):Sf prog 260 [.d (.u a0),.d (.u a1),.d (.u a2)] (.d (.u r)):=by
 refine sq ?_;intros;refine gA hm Od λ_ q1 hm=>gA hm Sw λ_ q2 hm=> ?_;exact AnO hm▸gE
def Dh {σ:Type}(p0:σ->Bool->Option (Bool×σ))(k0:UInt64)(s1:Int×σ):Option ((Int×σ)⊕((σ)⊕(UInt64×σ))):=if(decide (s1.1>=0))=true then if(0:Int)<=s1.1 then Ab (p0 s1.2 (((k0&&&(K5 1 s1.1.toNat)).toNat:Int) !=0)) λx4=>if(!x4.1)=true then some (.inr (.inr (k0,x4.2)))else some (.inl ((w64 (s1.1-1)),x4.2))else none else some (.inr (.inl s1.2))
def II {σ:Type}(p0:σ->Bool->Option (Bool×σ))(k0:UInt64)(s0:σ):Option (UInt64×σ):=Ab (Hw k0) λx1=>Ab (iter (Dh p0 k0) AY ((w64 (x1-1)),s0)) λx2=>match x2 with| .inr r=>some r| .inl y1=>some (k0,y1)
theorem RM {σ:Type}{p0:σ->Bool->Option (Bool×σ)}{k0 s0 r}(hm:II p0 k0 s0=some r)(g:Value)(R:σ->Mem->Ow)(hcb:Adm prog g (λx=> [.d (.t x)]) R p0):Sp prog 373 [.ow 0,.pb 1 0] [.hp 0 (.cb g σ R s0),.box 1 [.d (.u k0)] 32] 2 (is (.tup []) [.hp 0 (.cb g σ R r.2),.box 1 [.d (.u r.1)] 32] 2):=by
 refine sq ?_;intros;refine gA hm Oe λ_ q1 hm=>oB hm λ_ q2 hm=>gI q2 (λ(p_0,p_1)=>⟨[(0,.ow 0),(1,.pb 1 0),(3,.d (.i p_0))],[(0,.box 1 [.d (.u k0)] 32),(1,.hp 0 (.cb g σ R p_1))],[],2⟩) λs1 _ Jl q5 bl1=>gi q5 ?_ ?_<;>intro _ q5
 ·obtain⟨q7,q5⟩:=A2 q5;refine gsh (r:= .u (K5 1 s1.1.toNat)) (λh=>q7)<|oB q5 λ_ q8 q5=>gcb (((k0&&&(K5 1 s1.1.toNat)).toNat:Int) !=0) hcb q8<|gi q5 ?_ ?_<;>intro _ q5
  ·obtain rfl:=nR bl1 q5;exact AnO hm▸gE
  exact gN bl1 q5
 obtain rfl:=nR bl1 q5;let y1:=s1.2;exact AnO hm▸gE
def KE (a0:UInt64):Option UInt64:=some a0
theorem Uc {a0 r}(hm:KE a0=some r):Sp prog 338 [.d (.u a0)] [] 0 (is (.fn (.func 373) [] [.pb 0 0]) [.box 0 [.d (.u r)] 32] 1):=by
 refine sq ?_;intros;exact AnO hm▸gE
def CS (a1:UInt64)(b6:Bool)(s1:UInt64):Option (UInt64):=Ab (CV 2305843009213691579 s1 s1) λx3=>if b6=true then Ab (CV 2305843009213691579 x3 a1) λx4=>some x4 else some x3
def EY (a1:UInt64)(a2:UInt64):Option UInt64:=Ab (KE a2) λx1=>Ab (II (λ(s:UInt64) (b0:Bool)=>Ab (CS a1 b0 s) λy=>some (true,y)) x1 1) λx2=>some x2.2
theorem PN {a1 a2 r}(hm:EY a1 a2=some r):Sf prog 282 [.fn (.func 260) [.d (.u 2305843009213691579)] [],.d (.u a1),.d (.u a2)] (.d (.u r)):=
 spR call282 func282 rfl ntmps282 rfl λD0 As u4 m0 hD hd=>by
  unfold EY at hm;refine gD hm Uc λx1 q1 hm=>oB hm λx2 q2 hm=>OL hD (n0:=0) 4 4 [⟨3,3,32,[.d (.u x1)],[.d (.u x2.1)]⟩] (gt:=10) (ps:=[11]) [(3,.pb 0 0),(4,.pb 1 0),(7,.pb 2 0),(10,.fn (.func 373) [] [.pb 3 0])] (λ(y1:UInt64)=> [(0,.box 2 [.d (.u y1)] 32),(1,.box 1 [.d (.u a1)] 32),(2,.box 0 [.fn (.func 260) [.d (.u 2305843009213691579)] []] 248)]) (λ(_:Unit)=> []) (λx=> [.d (.t x)]) (λ(s1:UInt64) (b6:Bool)=>⟨[(3,.pb 0 0),(4,.pb 1 0),(7,.pb 2 0),(8,.d (.t b6)),(10,.fn (.func 373) [] [.pb 3 0])],[(0,.box 2 [.d (.u s1)] 32),(1,.box 1 [.d (.u a1)] 32),(2,.box 0 [.fn (.func 260) [.d (.u 2305843009213691579)] []] 248)],[],4⟩) (pN λx s=>CS a1 x s) 1 hd (via Sum.inl hyN rfl λg R h=>RM q2 g R h) rfl (λ_=>rfl) (λ_=>rfl) (λ_=>rfl) (λ_=>rfl) ?_ ?_ ?_ ?_
  ·intro s1 b6 s' hp l D0 As u4 m0 hd Ja ba;exact gb ba hd () trivial
  ·intro s1 b6 s' hp l D0 As u4 m0 hd Jb bb Jr br;obtain⟨z1,q3,hp⟩:=AnZ.1 hp;subst hp;unfold CS at q3;refine gA q3 F9 λx3 q4 q3=>gi q3 ?_ ?_<;>intro _ q3
   ·refine gA q3 F9 λx4 q5 q3=> ?_;obtain rfl:=AnO q3;exact gb bb hd x4 rfl
   obtain rfl:=AnO q3;exact gb bb hd x3 rfl
  ·intro x hx;have hx:=Sum.inl.inj hx;subst hx;exact AnO hm▸gE
  intro y hy;cases hy
def DY (a0:UInt64)(a1:UInt64):Option UInt64:=Ab (EY a0 a1) λx1=>some x1
theorem N3 {a0 a1 r}(hm:DY a0 a1=some r):Sf prog 213 [.d (.u a0),.d (.u a1)] (.d (.u r)):=by
 refine sq ?_;intros;refine gA hm PN λ_ q1 hm=> ?_;exact AnO hm▸gE
def Dy (a0:UInt64):Option Bool:=Ab (gu ((decide ((a0.toNat:Int)>0))&&(decide ((a0.toNat:Int)<2305843009213691579))) (DY a0 1152921504606845789)) λx1=>bnd ((((decide ((a0.toNat:Int)>0))&&(decide ((a0.toNat:Int)<2305843009213691579)))&&((x1.toNat:Int)==1))) λx2=>some x2
theorem PO {a0 r}(hm:Dy a0=some r):Sf prog 133 [.d (.u a0)] (.d (.t r)):=by
 refine sq ?_;intros;refine oB hm λ_ q1 hm=>gcH q1 N3<|bE hm ?_;intro _ hm;exact AnO hm▸gE
def DZ (a0:UInt64):Option UInt64:=Ab (DY 4 a0) λx1=>some x1
theorem MF {a0 r}(hm:DZ a0=some r):Sf prog 162 [.d (.u a0)] (.d (.u r)):=by
 refine sq ?_;intros;refine gA hm N3 λ_ q1 hm=> ?_;exact AnO hm▸gE
def JW (a1:UInt64)(s1:(List UInt8)×Int):Option (((List UInt8)×Int)⊕((List UInt8))):=if(decide (s1.2>=0))=true then if(0:Int)<=(w64 (8*s1.2))then Ab (app 1 s1.1 ([(toB ((DL a1 ((w64 (8*s1.2)).toNat)).toNat:Int))]:List UInt8)) λx4=>some (.inl (x4,(w64 (s1.2-1))))else none else some (.inr s1.1)
def Gi (a0:List UInt8)(a1:UInt64)(a2:Int):Option (List UInt8):=Ab (Ab (iter (JW a1) AY (a0,(w64 (a2-1)))) λx2=>some x2) λx1=>some x1
theorem V8 {a0 a1 a2 r}(hm:Gi a0 a1 a2=some r):Sp prog 241 [.ow 0,.d (.u a1),.d (.i a2)] [.row 0 1 _ eB a0] 1 (is (.ow 1) [.row 1 1 _ eB r] 2):=by
 refine sq ?_;intros;unfold Gi at hm;obtain⟨x1,q1,hm⟩:=Ag hm;refine oB q1 λx2 q2 q1=>gI q2 (λ(p_0,p_1)=>⟨[(0,.ow 1),(1,.d (.u a1)),(2,.d (.i p_1))],[(0,.row 1 1 _ eB p_0)],[],2⟩) λs1 _ Jl q5 bl1=>gi q5 ?_ ?_<;>intro _ q5
 ·obtain⟨q7,q5⟩:=A2 q5;exact gsh (r:= .u (DL a1 ((w64 (8*s1.2)).toNat))) (λh=>q7)<|gq eB 1 [(toB ((DL a1 ((w64 (8*s1.2)).toNat)).toNat:Int))]<|oB q5 λ_ q8 q5=>gp eB 1 q8<|gN bl1 q5
 obtain rfl:=nR bl1 q5;let x2:=s1.1;obtain rfl:=AnO q1;exact AnO hm▸gE
def Bm {σ:Type}(p0:σ->(List UInt8)->Option (Bool×σ))(k0:List UInt8)(k1:Int)(s1:Int×σ):Option ((Int×σ)⊕((σ)⊕((List UInt8)×Int×σ))):=if(decide (s1.1<(k0.length:Int)))=true then Ab (cut k0 s1.1 (k0.length:Int)) λx3=>Ab (cut k0 s1.1 (w64 (s1.1+(AbA k1 (x3.length:Int))))) λx4=>Ab (p0 s1.2 x4) λx5=>if(!x5.1)=true then some (.inr (.inr (k0,k1,x5.2)))else some (.inl ((w64 (s1.1+k1)),x5.2))else some (.inr (.inl s1.2))
def DI {σ:Type}(p0:σ->(List UInt8)->Option (Bool×σ))(k0:List UInt8)(k1:Int)(s0:σ):Option ((List UInt8)×Int×σ):=Ab (iter (Bm p0 k0 k1) AY (0,s0)) λx1=>match x1 with| .inr r=>some r| .inl y1=>some (k0,k1,y1)
theorem KP {σ:Type}{p0:σ->(List UInt8)->Option (Bool×σ)}{k0 k1 s0 r}(hm:DI p0 k0 k1 s0=some r)(g:Value)(R:σ->Mem->Ow)(hcb:Adm prog g (λx=> [sl eB x]) R p0):Sp prog 384 [.ow 0,.pb 1 0,.pb 2 0] [.hp 0 (.cb g σ R s0),.box 1 [sl eB k0] 96,.box 2 [.d (.i k1)] 3] 3 (is (.tup []) [.hp 0 (.cb g σ R r.2.2),.box 1 [.d (.sl _ eB r.1)] 96,.box 2 [.d (.i r.2.1)] 3] 3):=by
 refine sq ?_;intros;refine oB hm λ_ q1 hm=>gI q1 (λ(p_0,p_1)=>⟨[(0,.ow 0),(1,.pb 1 0),(2,.pb 2 0),(4,.d (.i p_0))],[(0,.box 1 [sl eB k0] 96),(1,.box 2 [.d (.i k1)] 3),(2,.hp 0 (.cb g σ R p_1))],[],3⟩) λs1 _ Jl q4 bl1=>gi q4 ?_ ?_<;>intro _ q4
 ·refine oB q4 λ_ q6 q4=>gk eB 1 q6<|oB q4 λx4 q7 q4=>gk eB 1 q7<|oB q4 λ_ q8 q4=>gcb x4 hcb q8<|gi q4 ?_ ?_<;>intro _ q4
  ·obtain rfl:=nR bl1 q4;exact AnO hm▸gE
  exact gN bl1 q4
 obtain rfl:=nR bl1 q4;let y1:=s1.2;exact AnO hm▸gE
def Et (a0:List UInt8)(a1:Int):Option ((List UInt8)×Int):=Ab (if(decide (a1<1))=true then none else some ()) λx1=>some (a0,a1)
theorem LN {a0 a1 r}(hm:Et a0 a1=some r):Sp prog 353 [sl eB a0,.d (.i a1)] [] 0 (is (.fn (.func 384) [] [.pb 0 0,.pb 1 0]) [.box 0 [sl eB r.1] 96,.box 1 [.d (.i r.2)] 3] 2):=by
 refine sq ?_;intros;refine oB hm λ_ q1 hm=>gi q1 (λhc1 q1=> ?_) λhc1 q1=> ?_
 ·cases q1
 obtain rfl:=AnO q1;exact AnO hm▸gE
def Gk (b5:List UInt8)(i1:Int)(s2:UInt64):Option (UInt64):=Ab (idx b5 (i1:Int)) λx6=>if(0:Int)<=(w64 (8*(i1:Int)))then bnd ((s2|||(K5 (toU (x6.toNat:Int)) ((w64 (8*(i1:Int))).toNat)))) λx7=>some x7 else none
def Gl (b5:List UInt8)(s1:(List UInt64)):Option ((List UInt64)):=Ab (Ab (Di (Gk b5) b5.length 0 0) λx4=>some x4) λx3=>Ab (app 8 s1 ([x3]:List UInt64)) λx8=>some x8
def Mb (a0:List UInt8):Option (List UInt64):=Ab (Et a0 7) λx1=>Ab (DI (λ(s:(List UInt64)) (b0:List UInt8)=>Ab (Gl b0 s) λy=>some (true,y)) x1.1 x1.2 ([]:List UInt64)) λx2=>some x2.2.2
theorem Adx {a0 r}(hm:Mb a0=some r):Sp prog 301 [sl eB a0] [] 0 (is (.ow 0) [.row 0 1 _ eU r] 1):=
 spR call301 func301 rfl ntmps301 rfl λD0 As u4 m0 hD hd=>by
  unfold Mb at hm;refine gD hm LN λx1 q1 hm=>oB hm λx2 q2 hm=>Aju eU 3 0 1<|OL hD (n0:=0) 3 4 [⟨2,1,96,[sl eB x1.1],[sl eB x2.1]⟩,⟨3,2,3,[.d (.i x1.2)],[.d (.i x2.2.1)]⟩] (gt:=9) (ps:=[10]) [(3,.pb 0 0),(9,.fn (.func 384) [] [.pb 1 0,.pb 2 0])] (λ(y2:(List UInt64))=> [(0,.row 3 1 _ eU y2),(1,.box 0 [.ow 3] 307)]) (λ(_:Unit)=> []) (λx=> [sl eB x]) (λ(s1:(List UInt64)) (b5:List UInt8)=>⟨[(3,.pb 0 0),(4,sl eB b5),(9,.fn (.func 384) [] [.pb 1 0,.pb 2 0])],[(0,.row 3 1 _ eU s1),(1,.box 0 [.ow 3] 307)],[],4⟩) (pN λx s=>Gl x s) ([]:List UInt64) hd (via Sum.inl hyN rfl λg R h=>KP q2 g R h) rfl (λ_=>rfl) (λ_=>rfl) (λ_=>rfl) (λ_=>rfl) ?_ ?_ ?_ ?_
  ·intro s1 b5 s' hp l D0 As u4 m0 hd Ja ba;exact gb ba hd () trivial
  ·intro s1 b5 s' hp l D0 As u4 m0 hd Jb bb Jr br;obtain⟨z1,q3,hp⟩:=AnZ.1 hp;subst hp;unfold Gl at q3;obtain⟨x3,q4,q3⟩:=Ag q3;refine oB q4 λx4 q5 q4=>Jj 2 (E:=eB) (xs:=b5) 11 λhle1=>gF (EM _ _ _) q5 (λp0 p=>⟨[(3,.pb 0 0),(5,.d (.u p)),(9,.fn (.func 384) [] [.pb 1 0,.pb 2 0]),(11,sl eB b5),(12,.d (.i (b5.length:Int))),(13,.d (.i p0))],[(0,.row 3 1 _ eU s1),(1,.box 0 [.ow 3] 307)],[],4⟩) λi1 s2 Jl bl1=>cM bl1 (b5.length:Int) (λ_ q8 bl1=> ?_) λe=> ?_
   ·unfold Gk at q8;refine oB q8 λx6 q10 q8=>gx eB 1 q10 ?_;obtain⟨q11,q8⟩:=A2 q8;refine gsh (r:= .u (K5 (toU (x6.toNat:Int)) ((w64 (8*(i1:Int))).toNat))) (λh=>q11)<|bE q8 ?_;intro _ q8;exact gM bl1 hle1 q8
   subst e;obtain rfl:=AnO q4;let x3:=x4;refine gq eU 1 [x3]<|oB q3 λx8 q13 q3=>gp eU 1 q13 ?_;obtain rfl:=AnO q3;exact gb bb hd x8 rfl
  ·intro x hx;have hx:=Sum.inl.inj hx;subst hx;exact AnO hm▸gE
  intro y hy;cases hy
def Jd (a0:UInt64)(a1:UInt64):Option UInt64:=bnd (((a1&&&2305843009213693951)+((K5 a0 3)|||(DL a1 61)))) λx1=>bnd (((x1&&&2305843009213693951)+(DL x1 61))) λx2=>Ab (if(decide ((x2.toNat:Int)>=2305843009213693951))=true then some (x2-2305843009213693951)else some x2) λx3=>some x3
theorem Sv {a0 a1 r}(hm:Jd a0 a1=some r):Sf prog 385 [.d (.u a0),.d (.u a1)] (.d (.u r)):=by
 refine sq λD0 As u4 m0 hd=>bE hm ?_;intro _ hm;refine bE hm ?_;intro _ hm;refine oB hm λx3 q3 hm=>gj (λ(_:Unit)=>⟨[(5,.d (.u x3))],[],[],0⟩) (λ_=>True) (λJp bk1=> ?_) λ_ _=> ?_
 ·refine gi q3 ?_ ?_<;>intro _ q3
  ·obtain rfl:=AnO q3;exact gb bk1 hd () trivial
  obtain rfl:=AnO q3;exact gb bk1 hd () trivial
 exact AnO hm▸gE
def FV (a0:UInt64):Option UInt64:=Ab (Jd 0 a0) λx1=>some x1
theorem Kc {a0 r}(hm:FV a0=some r):Sf prog 354 [.d (.u a0)] (.d (.u r)):=by
 refine sq ?_;intros;refine gA hm Sv λ_ q1 hm=> ?_;exact AnO hm▸gE
def Hn (a0:UInt64)(a1:UInt64):Option UInt64:=Ab (FV a0) λx1=>Ab (FV a1) λx2=>Ab (FV (x1+x2)) λx3=>some x3
theorem ME {a0 a1 r}(hm:Hn a0 a1=some r):Sf prog 302 [.d (.u a0),.d (.u a1)] (.d (.u r)):=by
 refine sq ?_;intros;refine gA hm Kc λ_ q1 hm=>gA hm Kc λ_ q2 hm=>gA hm Kc λ_ q3 hm=> ?_;exact AnO hm▸gE
def KA (a0:UInt64)(a1:UInt64):Option UInt64:=Ab (FV a0) λx1=>Ab (FV a1) λx2=>Ab (Jh x1 x2) λx3=>Ab (Jd x3.1 x3.2) λx4=>some x4
theorem T7 {a0 a1 r}(hm:KA a0 a1=some r):Sf prog 386 [.d (.u a0),.d (.u a1)] (.d (.u r)):=by
 refine sq ?_;intros;refine gA hm Kc λ_ q1 hm=>gA hm Kc λ_ q2 hm=>gA hm Od λ_ q3 hm=>gA hm Sv λ_ q4 hm=> ?_;exact AnO hm▸gE
def Ky (i1:Int)(s1:UInt64):Option (UInt64):=Ab (KA s1 s1) λx4=>some x4
def E7 (a0:UInt64):Option UInt64:=Ab (Ab (Di Ky 4 0 a0) λx2=>some x2) λx1=>Ab (KA a0 x1) λx5=>some x5
theorem Tc {a0 r}(hm:E7 a0=some r):Sf prog 357 [.d (.u a0)] (.d (.u r)):=by
 refine sq ?_;intros;unfold E7 at hm;obtain⟨x1,q1,hm⟩:=Ag hm;refine oB q1 λ_ q2 q1=>gF (EM _ 4 _) q2 (λp0 p=>⟨[(0,.d (.u a0)),(3,.d (.u p)),(5,.d (.i p0))],[],[],0⟩) λi1 s1 Jl bl1=>cM bl1 (4:Int) (λ_ q5 bl1=> ?_) λe=> ?_
 ·exact gA q5 T7 λ_ q7 q5=>gM bl1 lk q5
 subst e;obtain rfl:=AnO q1;refine gA hm T7 λ_ q8 hm=> ?_;exact AnO hm▸gE
def Lo (a0:Int)(a1:UInt64)(k0:Int)(k1:UInt64):Option (UInt64×Int×UInt64):=bnd ((toU (w64 ((w64 ((w64 (3*k0))+a0))+1)))) λx1=>Ab (Hn a1 (((x1*x1)*x1)+7)) λx2=>Ab (E7 x2) λx3=>Ab (Hn k1 x3) λx4=>some (x3,k0,x4)
theorem Zd {a0 a1 k0 k1 r}(hm:Lo a0 a1 k0 k1=some r):Sp prog 356 [.d (.i a0),.d (.u a1),.pb 0 0,.pb 1 0] [.box 0 [.d (.i k0)] 3,.box 1 [.d (.u k1)] 32] 2 (is (.d (.u r.1)) [.box 0 [.d (.i r.2.1)] 3,.box 1 [.d (.u r.2.2)] 32] 2):=by
 refine sq ?_;intros;refine bE hm ?_;intro _ hm;refine gA hm ME λ_ q2 hm=>gA hm Tc λ_ q3 hm=>gA hm ME λ_ q4 hm=> ?_;exact AnO hm▸gE
def Ln (a0:Int)(a1:UInt64)(k0:UInt64):Option (UInt64×UInt64):=Ab (Hn a1 k0) λx1=>some (x1,k0)
theorem Zc {a0 a1 k0 r}(hm:Ln a0 a1 k0=some r):Sp prog 358 [.d (.i a0),.d (.u a1),.pb 0 0] [.box 0 [.d (.u k0)] 32] 1 (is (.d (.u r.1)) [.box 0 [.d (.u r.2)] 32] 1):=by
 refine sq ?_;intros;refine gA hm ME λ_ q1 hm=> ?_;exact AnO hm▸gE
end Go.Proofs.YtnhdojckpcbjeaaGreatDoor
