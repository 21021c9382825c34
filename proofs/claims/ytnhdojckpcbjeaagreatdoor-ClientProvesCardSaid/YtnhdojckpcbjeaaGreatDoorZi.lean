/- The walks of some functions, by the executor, written by program. Conditions: none. -/
import Derived.Test.YtnhdojckpcbjeaaGreatDoorZh
set_option linter.unusedSimpArgs false
set_option linter.unusedVariables false
set_option maxHeartbeats 20000000
set_option maxRecDepth 100000
namespace Go.Proofs.YtnhdojckpcbjeaaGreatDoor
open Go Go.Gw Go.Ax Tryz
attribute [local irreducible] Go.Ax.Go
def HG (a0:List UInt8):Option Bool:=Ab (gu ((a0.length:Int)==1) (idx a0 0)) fun x1=>Ab (gu (((a0.length:Int)==1)&&(!((x1.toNat:Int)==0))) (idx a0 0)) fun x2=>bnd ((((a0.length:Int)==1)&&(((x1.toNat:Int)==0)||((x2.toNat:Int)==255)))) fun x3=>some x3
theorem TX {a0 r}(hm:HG a0=some r):Sf prog 428 [sl eB a0] (.d (.t r)):=by
 refine sq ?_;intros;refine oB hm fun x1 q1 hm=>gxG eB 1 q1<|oB hm fun x2 q2 hm=>gxG eB 1 q2<|bE hm ?_;intro x3 hm;obtain rfl:=Aih hm;exact gE
def JV (a0:List UInt8):Option Bool:=if((a0.length:Int)==0)=true then some false else if((a0.length:Int)==1)=true then some true else Ab (idx a0 1) fun x1=>Ab (gu (decide ((a0.length:Int)≤8)) (idx a0 0)) fun x2=>bnd (((decide ((a0.length:Int)≤8))&&((x2.toNat:Int) !=((toB (-((shrB x1 7).toNat:Int))).toNat:Int)))) fun x3=>some x3
theorem Q3 {a0 r}(hm:JV a0=some r):Sf prog 299 [sl eB a0] (.d (.t r)):=by
 refine sq ?_;intros;refine gi hm ?_ ?_<;>intro hc1 hm
 ·obtain rfl:=Aih hm;exact gE
 refine gi hm ?_ ?_<;>intro hc2 hm
 ·obtain rfl:=Aih hm;exact gE
 refine oB hm fun x1 q1 hm=>gx eB 1 q1<|oB hm fun x2 q2 hm=>gxG eB 1 q2<|bE hm ?_;intro x3 hm;obtain rfl:=Aih hm;exact gE
def OX (a0:List UInt8):Option Bool:=some true
theorem TW {a0 r}(hm:OX a0=some r):Sf prog 429 [sl eB a0] (.d (.t r)):=by
 refine sq ?_;intros;exact Aih hm▸gE
def JW (a0:UInt8):Option Bool:=bnd (((decide ((a0.toNat:Int)<32))||(decide ((a0.toNat:Int)>126)))) fun x1=>some x1
theorem Q4 {a0 r}(hm:JW a0=some r):Sf prog 431 [.d (.b a0)] (.d (.t r)):=by
 refine sq ?_;intros;refine bE hm ?_;intro x1 hm;obtain rfl:=Aih hm;exact gE
def AE (a0:List UInt8)(i1:Int)(s1:Unit):Option ((Unit)⊕Int):=Ab (idx a0 (i1:Int)) fun x3=>Ab (JW x3) fun x4=>if x4=true then some (.inr (i1:Int))else some (.inl ())
def Cy (a0:List UInt8):Option Int:=Ab (B4 (AE a0) a0.length 0 ()) fun x1=>match x1 with| .inr r=>some r| .inl y1=>some (-1)
theorem Hl {a0 r}(hm:Cy a0=some r):Sf prog 211 [sl eB a0,.fn (.func 431) [] []] (.d (.i r)):=by
 refine sq ?_;intros;refine oB hm fun x1 q1 hm=>J6 0 (E:=eB) (xs:=a0) 6 fun hle1=>gF (EN _ _ _) q1 (fun p0 _=>⟨[(0,sl eB a0),(1,.fn (.func 431) [] []),(7,.d (.i (a0.length:Int))),(8,.d (.i p0))],[],[],0⟩) fun i1 s1 Jl bl1=>cN bl1 (a0.length:Int) (fun y2 q4 bl1=> ?_) fun e=> ?_
 ·refine oB q4 fun x3 q6 q4=>gx eB 1 q6<|gA q4 Q4 fun x4 q7 q4=>gi q4 ?_ ?_<;>intro hc1 q4
  ·obtain rfl:=nT bl1 q4;exact Aih hm▸gE
  exact gT bl1 hle1 q4
 subst e;exact Aih hm▸gE
def Cg (a0:List UInt8):Option Bool:=Ab (Cy a0) fun x1=>some (decide (x1≥0))
theorem GD {a0 r}(hm:Cg a0=some r):Sf prog 131 [sl eB a0,.fn (.func 431) [] []] (.d (.t r)):=by
 refine sq ?_;intros;refine gA hm Hl fun x1 q1 hm=> ?_;exact Aih hm▸gE
def Ju (a0:List UInt8):Option Bool:=Ab (Cg a0) fun x1=>some (!x1)
theorem TV {a0 r}(hm:Ju a0=some r):Sf prog 430 [sl eB a0] (.d (.t r)):=by
 refine sq ?_;intros;refine gA hm GD fun x1 q1 hm=> ?_;exact Aih hm▸gE
def Jt (a0:List UInt8):Option Bool:=some ((a0.length:Int)==0)
theorem TU {a0 r}(hm:Jt a0=some r):Sf prog 432 [sl eB a0] (.d (.t r)):=by
 refine sq ?_;intros;exact Aih hm▸gE
def Hb (a0:Bool):Option Int:=if a0=true then some 0 else some 110
theorem PX {a0 r}(hm:Hb a0=some r):Sf prog 226 [.d (.t a0)] (.d (.i r)):=by
 refine sq ?_;intros;refine gi hm ?_ ?_<;>intro hc1 hm
 ·exact Aih hm▸gE
 exact Aih hm▸gE
def BU (a0:ByteArray)(a1:UInt8):Option Int:=some (AbY a0 a1)
theorem HX {a0 a1 r}(hm:BU a0 a1=some r):Sf prog 400 [.d (.s a0),.d (.b a1)] (.d (.i r)):=by
 refine sq ?_;intros;refine gext (F:=AbY) (p:=a0) (q:=a1) func407 (extIxb (by kernel_rfl) (by kernel_rfl) (by kernel_rfl) (by kernel_rfl)) ?_;exact Aih hm▸gE
def AZ (a0:ByteArray)(a1:ByteArray):Option Int:=bnd ((((a1.size:Int)==0)||(eqS a1 a0))) fun x1=>if x1=true then some 0 else if((a1.size:Int)==1)=true then Ab (idx a1.data.toList 0) fun x2=>Ab (BU a0 x2) fun x3=>some x3 else bnd ((decide ((a1.size:Int)≥(a0.size:Int)))) fun x4=>if x4=true then some (-1)else none
theorem Fq {a0 a1 r}(hm:AZ a0 a1=some r):Sf prog 392 [.d (.s a0),.d (.s a1)] (.d (.i r)):=by
 refine sq ?_;intros;refine bE hm ?_;intro x1 hm;refine gi hm ?_ ?_<;>intro hc1 hm
 ·obtain rfl:=Aih hm;exact gE
 refine gi hm ?_ ?_<;>intro hc2 hm
 ·refine oB hm fun x2 q2 hm=>Ahz (fun _=>q2)<|gA hm HX fun x3 q3 hm=> ?_;obtain rfl:=Aih hm;exact gE
 refine bE hm ?_;intro x4 hm;refine gi hm ?_ ?_<;>intro hc3 hm
 ·obtain rfl:=Aih hm;exact gE
 cases hm
def Cd (a0:ByteArray)(a1:ByteArray):Option Int:=Ab (AZ a0 a1) fun x1=>some x1
theorem QT {a0 a1 r}(hm:Cd a0 a1=some r):Sf prog 377 [.d (.s a0),.d (.s a1)] (.d (.i r)):=by
 refine sq ?_;intros;refine gA hm Fq fun x1 q1 hm=> ?_;exact Aih hm▸gE
def FO (a0:ByteArray)(a1:ByteArray):Option Int:=if((a1.size:Int)==0)=true then none else if((a1.size:Int)==1)=true then Ab (idx a1.data.toList 0) fun x1=>some (cntS a0 x1)else none
theorem QU {a0 a1 r}(hm:FO a0 a1=some r):Sf prog 347 [.d (.s a0),.d (.s a1)] (.d (.i r)):=by
 refine sq ?_;intros;refine gi hm ?_ ?_<;>intro hc1 hm
 ·cases hm
 refine gi hm ?_ ?_<;>intro hc2 hm
 ·refine oB hm fun x1 q1 hm=>Ahz (fun _=>q1)<|gext (F:=cntS) (p:=a0) (q:=x1) func376 (extCnt (by kernel_rfl) (by kernel_rfl) (by kernel_rfl) (by kernel_rfl)) ?_;exact Aih hm▸gE
 cases hm
def LC {σ:Type}(k1:ByteArray)(s1:Unit):Option ((Unit)⊕((Unit)⊕(ByteArray×ByteArray×Int×σ))):=if(decide ((k1.size:Int)>0))=true then none else some (.inr (.inl ()))
def AQ {σ:Type}(p0:σ→ByteArray→Option (Bool×σ))(k0:ByteArray)(k2:Int)(s2:ByteArray×σ):Option ((ByteArray×σ)⊕((ByteArray×σ)⊕(ByteArray×ByteArray×Int×σ))):=Ab (Cd s2.1 k0) fun x5=>if(decide (x5<0))=true then some (.inr (.inl (s2.1,s2.2)))else Ab (UZ s2.1 0 (w64 (x5+k2))) fun x6=>Ab (p0 s2.2 x6) fun x7=>if(!x7.1)=true then some (.inr (.inr (k0,s2.1,k2,x7.2)))else Ab (UZ s2.1 (w64 (x5+(k0.size:Int))) (s2.1.size:Int)) fun x8=>some (.inl (x8,x7.2))
def Bn {σ:Type}(p0:σ→ByteArray→Option (Bool×σ))(k0:ByteArray)(k1:ByteArray)(k2:Int)(s0:σ):Option (ByteArray×ByteArray×Int×σ):=
 if((k0.size:Int)==0)=true then
  Ab (iter (LC k1) Ey ()) fun x1=>match x1 with
  | .inr r=>some r
  | .inl y1=>
  some (k0,k1,k2,s0)
 else
 Ab (iter (AQ p0 k0 k2) Ey (k1,s0)) fun x3=>match x3 with
 | .inr r=>some r
 | .inl y3=>
 Ab (p0 y3.2 y3.1) fun x9=>
 some (k0,y3.1,k2,x9.2)
theorem Nu {σ:Type}{p0:σ→ByteArray→Option (Bool×σ)}{k0 k1 k2 s0 r}(hm:Bn p0 k0 k1 k2 s0=some r)(g:Value)(R:σ→Mem→Ow)(hcb:Z3 prog g (fun x=> [.d (.s x)]) R p0):Sp prog 393 [.ow 0,.pb 1 0,.pb 2 0,.pb 3 0] [.hp 0 (.cb g σ R s0),.box 1 [.d (.s k0)] 9,.box 2 [.d (.s k1)] 9,.box 3 [.d (.i k2)] 3] 4 (is (.tup []) [.hp 0 (.cb g σ R r.2.2.2),.box 1 [.d (.s r.1)] 9,.box 2 [.d (.s r.2.1)] 9,.box 3 [.d (.i r.2.2.1)] 3] 4):=by
 refine sq ?_;intros;refine gi hm ?_ ?_<;>intro hc1 hm
 ·refine oB hm fun x1 q1 hm=>gI q1 (fun _=>⟨[(0,.ow 0),(2,.pb 2 0)],[(0,.box 1 [.d (.s k0)] 9),(1,.box 2 [.d (.s k1)] 9),(2,.box 3 [.d (.i k2)] 3),(3,.hp 0 (.cb g σ R s0))],[],4⟩) fun s1 y2 Jl q4 bl1=>gi q4 ?_ ?_<;>intro hc2 q4
  ·cases q4
  obtain rfl:=nR bl1 q4;obtain rfl:=Aih hm;exact gE
 refine oB hm fun x3 q6 hm=>gI q6 (fun(p_0,p_1)=>⟨[(0,.ow 0),(1,.pb 1 0),(2,.pb 2 0),(3,.pb 3 0)],[(0,.box 1 [.d (.s k0)] 9),(1,.box 2 [.d (.s p_0)] 9),(2,.box 3 [.d (.i k2)] 3),(3,.hp 0 (.cb g σ R p_1))],[],4⟩) fun s2 y4 Jl q9 bl2=>gA q9 QT fun x5 q11 q9=>gi q9 ?_ ?_<;>intro hc3 q9
 ·obtain rfl:=nR bl2 q9;let y3:=(s2.1,s2.2);refine oB hm fun x9 q15 hm=>gcb y3.1 hcb q15 ?_;obtain rfl:=Aih hm;exact gE
 refine oB q9 fun x6 q12 q9=>ZJ (fun _=>q12)<|oB q9 fun x7 q13 q9=>gcb x6 hcb q13<|gi q9 ?_ ?_<;>intro hc4 q9
 ·obtain rfl:=nR bl2 q9;obtain rfl:=Aih hm;exact gE
 exact oB q9 fun x8 q14 q9=>ZJ (fun _=>q14)<|gN bl2 q9
def Kj (a0:ByteArray)(a1:ByteArray)(a2:Int):Option (ByteArray×ByteArray×Int):=some (a1,a0,a2)
theorem Oj {a0 a1 a2 r}(hm:Kj a0 a1 a2=some r):Sp prog 378 [.d (.s a0),.d (.s a1),.d (.i a2)] [] 0 (is (.fn (.func 393) [] [.pb 0 0,.pb 1 0,.pb 2 0]) [.box 0 [.d (.s r.1)] 9,.box 1 [.d (.s r.2.1)] 9,.box 2 [.d (.i r.2.2)] 3] 3):=by
 refine sq ?_;intros;exact Aih hm▸gE
def Hy (a0:ByteArray)(a1:ByteArray):Option (ByteArray×ByteArray×Int):=Ab (Kj a0 a1 0) fun x1=>some (x1.1,x1.2.1,x1.2.2)
theorem Ol {a0 a1 r}(hm:Hy a0 a1=some r):Sp prog 348 [.d (.s a0),.d (.s a1)] [] 0 (is (.fn (.func 393) [] [.pb 0 0,.pb 1 0,.pb 2 0]) [.box 0 [.d (.s r.1)] 9,.box 1 [.d (.s r.2.1)] 9,.box 2 [.d (.i r.2.2)] 3] 3):=by
 refine sq ?_;intros;refine gD hm Oj fun x1 q1 hm=> ?_;exact Aih hm▸gE
def Dm (a0:Int):Option Bool:=bnd ((((decide ((97:Int)≤a0))&&(decide (a0≤122)))||((decide ((48:Int)≤a0))&&(decide (a0≤57))))) fun x1=>some x1
theorem Ms {a0 r}(hm:Dm a0=some r):Sf prog 379 [.d (.r a0)] (.d (.t r)):=by
 refine sq ?_;intros;refine bE hm ?_;intro x1 hm;obtain rfl:=Aih hm;exact gE
def Dk (a0:Int):Option Bool:=Ab (gu (!(a0==45)) (Dm a0)) fun x1=>some ((a0==45)||x1)
theorem TL {a0 r}(hm:Dk a0=some r):Sf prog 380 [.d (.r a0)] (.d (.t r)):=by
 refine sq ?_;intros;refine oB hm fun x1 q1 hm=>gcH q1 Ms ?_;exact Aih hm▸gE
def A8 (a0:ByteArray)(s1:Nat):Option ((Nat)⊕((Nat)⊕Bool)):=if s1<a0.size then bnd (((Utf8.decode a0 s1).1:Int)) fun x3=>Ab (gu ((s1:Int)==(w64 ((a0.size:Int)-1))) (Dm x3)) fun x4=>bnd ((((s1:Int)==(w64 ((a0.size:Int)-1)))&&x4)) fun x5=>if x5=true then some (.inl (s1+(Utf8.decode a0 s1).2))else bnd (((s1:Int)==(w64 ((a0.size:Int)-1)))) fun x6=>if x6=true then some (.inr (.inr false))else Ab (gu ((s1:Int)==0) (Dm x3)) fun x7=>bnd ((((s1:Int)==0)&&(x7||(x3==95)))) fun x8=>if x8=true then some (.inl (s1+(Utf8.decode a0 s1).2))else Ab (gu (!((s1:Int)==0)) (Dk x3)) fun x9=>if(((s1:Int)==0)||(!x9))=true then some (.inr (.inr false))else some (.inl (s1+(Utf8.decode a0 s1).2))else some (.inr (.inl s1))
def Gl (a0:ByteArray):Option Bool:=if((eqS a0 (⟨#[]⟩:ByteArray))||(decide ((a0.size:Int)>16)))=true then some false else Ab (iter (A8 a0) Ey 0) fun x1=>match x1 with| .inr r=>some r| .inl y1=>some true
theorem TK {a0 r}(hm:Gl a0=some r):Sf prog 349 [.d (.s a0)] (.d (.t r)):=by
 refine sq ?_;intros;refine gi hm ?_ ?_<;>intro hc1 hm
 ·obtain rfl:=Aih hm;exact gE
 refine grng a0<|oB hm fun x1 q1 hm=>gI q1 (fun p=>⟨[(0,.d (.s a0)),(13,.ow 0)],[(0,.hp 0 (.it a0 p))],[],1⟩) fun s1 y2 Jl q4 bl1=>gnx q4 (fun hc2 q4=> ?_) fun hc2 q4=> ?_
 ·refine gi' (b:=true) (fun _=> ?_) (fun h=>by cases h);refine bE q4 ?_;intro x3 q4;refine oB q4 fun x4 q7 q4=>gcH q7 Ms<|bE q4 ?_;intro x5 q4;refine gi q4 ?_ ?_<;>intro hc3 q4
  ·exact gN bl1 q4
  refine bE q4 ?_;intro x6 q4;refine gi q4 ?_ ?_<;>intro hc4 q4
  ·obtain rfl:=nR bl1 q4;obtain rfl:=Aih hm;exact gE
  refine oB q4 fun x7 q10 q4=>gcH q10 Ms<|bE q4 ?_;intro x8 q4;refine gi q4 ?_ ?_<;>intro hc5 q4
  ·exact gN bl1 q4
  refine oB q4 fun x9 q12 q4=>gcH q12 TL<|gi q4 ?_ ?_<;>intro hc6 q4
  ·obtain rfl:=nR bl1 q4;obtain rfl:=Aih hm;exact gE
  exact gN bl1 q4
 refine gi' (b:=false) (fun h=>by cases h) (fun _=> ?_);obtain rfl:=nR bl1 q4;let y1:=s1;obtain rfl:=Aih hm;exact gE
def BJ (b6:ByteArray)(s1:(Unit)×Nat):Option ((Unit)×Nat):=Ab (Gl b6) fun x4=>if(!x4)=true then some ((),1)else some ((),0)
def CL (a0:ByteArray)(a1:Int)(a2:Int):Option Bool:=Ab (gu (!(decide ((a0.size:Int)>a2))) (FO a0 (⟨#[46]⟩:ByteArray))) fun x1=>if((decide ((a0.size:Int)>a2))||(decide (x1≥a1)))=true then some false else Ab (Hy a0 (⟨#[46]⟩:ByteArray)) fun x2=>Ab (Bn (fun(s:(Unit)×Nat) (b0:ByteArray)=>if s.2=0 then Ab (BJ b0 s) fun y=>some (y.2==0,y)else none) x2.1 x2.2.1 x2.2.2 ((),0)) fun x3=>if(x3.2.2.2).2=0 then some true else some false
theorem PY {a0 a1 a2 r}(hm:CL a0 a1 a2=some r):Sf prog 292 [.d (.s a0),.d (.i a1),.d (.i a2)] (.d (.t r)):=
 spR call292 func292 rfl ntmps292 rfl fun D0 As η0 m0 hD hd=>by
  unfold CL at hm;refine oB hm fun x1 q1 hm=>gcH q1 QU<|gi hm ?_ ?_<;>intro hc1 hm
  ·exact Aih hm▸gE
  refine gD hm Ol fun x2 q2 hm=>oB hm fun x3 q3 hm=>Od hD (n0:=0) 4 4 [⟨1,1,9,[.d (.s x2.1)],[.d (.s x3.1)]⟩,⟨2,2,9,[.d (.s x2.2.1)],[.d (.s x3.2.1)]⟩,⟨3,3,3,[.d (.i x2.2.2)],[.d (.i x3.2.2.1)]⟩] (gt:=19) (ps:=[20]) [(6,.pb 0 0),(19,.fn (.func 393) [] [.pb 1 0,.pb 2 0,.pb 3 0])] (fun(y1:Unit)=> [(0,.box 0 [.d (.t false)] 4)]) (fun(y1:(Unit)×Nat)=> [(0,.box 0 [.d (.t false)] 4)]) (fun x=> [.d (.s x)]) (fun(s1:Unit) (b6:ByteArray)=>⟨[(6,.pb 0 0),(7,.d (.s b6)),(19,.fn (.func 393) [] [.pb 1 0,.pb 2 0,.pb 3 0])],[(0,.box 0 [.d (.t false)] 4)],[],4⟩) (pJ fun x s=>BJ x s) () hd (via fJ hyJ rfl fun g R h=>Nu q3 g R h) rfl (fun _=>rfl) (fun _=>rfl) (fun _=>rfl) (fun _=>rfl) ?_ ?_ ?_ ?_
  ·intro s1 b6 s' hp l D0 As η0 m0 hd Ja ba;exact gb ba hd () trivial
  ·intro s1 b6 s' hp l D0 As η0 m0 hd Jb bb Jr br;obtain⟨z1,q4,hp⟩:=Aiv.1 hp;subst hp;unfold BJ at q4;dsimp only at q4;refine gA q4 TK fun x4 q5 q4=>gi q4 ?_ ?_<;>intro hc2 q4
   ·obtain rfl:=Aih q4;exact Aet br hd ((),1) rfl
   obtain rfl:=Aih q4;exact gb bb hd () rfl
  ·intro x hx;obtain⟨hj1,rfl⟩:=YJ hx;rw[Air hj1]at hm;exact Aih hm▸gE
  intro y hy;obtain⟨hj1,rfl⟩:=YI hy;rw[Aip hj1]at hm;exact Aih hm▸gE
def Gn (a0:ByteArray):Option Bool:=Ab (CL a0 8 64) fun x1=>some x1
theorem Nl {a0 r}(hm:Gn a0=some r):Sf prog 227 [.d (.s a0)] (.d (.t r)):=by
 refine sq ?_;intros;refine gA hm PY fun x1 q1 hm=> ?_;exact Aih hm▸gE
def D1 (a0:ByteArray):Option Int:=Ab (Gn a0) fun x1=>Ab (Hb x1) fun x2=>some x2
theorem Ou {a0 r}(hm:D1 a0=some r):Sf prog 145 [.d (.s a0)] (.d (.i r)):=by
 refine sq ?_;intros;refine gA hm Nl fun x1 q1 hm=>gA hm PX fun x2 q2 hm=> ?_;exact Aih hm▸gE
def Fx (a0:g_path_trip):Option Int:=if((((((a0.chain_.length:Int)==0)||(decide ((a0.chain_.length:Int)>4)))||(decide ((a0.roots_.length:Int)>16)))||(decide (a0.now_<0)))||(decide (a0.now_>1099511627776)))=true then some 1 else Ab (D1 a0.name_) fun x1=>some x1
theorem Ot {a0 r}(hm:Fx a0=some r):Sf prog 72 [ag (E1 a0)] (.d (.i r)):=by
 refine sq ?_;intros;refine gi hm ?_ ?_<;>intro hc1 hm
 ·exact Aih hm▸gE
 refine gA hm Ou fun x1 q1 hm=> ?_;exact Aih hm▸gE
def EX (a0:Int):Option Bool:=bnd (((decide (a0≥0))&&(decide (a0≤1099511627776)))) fun x1=>some x1
theorem Hq {a0 r}(hm:EX a0=some r):Sf prog 275 [.d (.i a0)] (.d (.t r)):=by
 refine sq ?_;intros;refine bE hm ?_;intro x1 hm;obtain rfl:=Aih hm;exact gE
def HJ (a0:g_api_Sig):Option Bool:=bnd ((decide (((Vf a0.E a0.S).toNat:Int)<1152921504606845789))) fun x1=>some x1
theorem OC {a0 r}(hm:HJ a0=some r):Sf prog 277 [ag (Lj a0)] (.d (.t r)):=by
 refine sq ?_;intros;refine bE hm ?_;intro x1 hm;obtain rfl:=Aih hm;exact gE
def BD (a0:List UInt64)(s1:UInt64×Int):Option ((UInt64×Int)⊕(UInt64)):=if(decide (s1.2<(a0.length:Int)))=true then Ab (idx a0 s1.2) fun x6=>some (.inl ((Vf s1.1 x6),(w64 (s1.2+1))))else some (.inr s1.1)
def CR (a0:List UInt64):Option UInt64:=Ab (if(decide ((a0.length:Int)<1))=true then none else some ()) fun x1=>Ab (idx a0 0) fun x2=>Ab (Ab (iter (BD a0) Ey (x2,1)) fun x4=>some x4) fun x3=>some x3
theorem J7 {a0 r}(hm:CR a0=some r):Sf prog 331 [sl eU a0] (.d (.u r)):=by
 refine sq ?_;intros;refine oB hm fun x1 q1 hm=>gi q1 (fun hc1 q1=> ?_) fun hc1 q1=> ?_
 ·cases q1
 obtain rfl:=Aih q1;refine oB hm fun x2 q2 hm=>gx eU 1 q2 ?_;obtain⟨x3,q3,hm⟩:=Ad hm;refine oB q3 fun x4 q4 q3=>gI q4 (fun(p_0,p_1)=>⟨[(0,sl eU a0),(3,.d (.u p_0)),(4,.d (.i p_1))],[],[],0⟩) fun s1 y1 Jl q7 bl1=>gi q7 ?_ ?_<;>intro hc2 q7
 ·exact oB q7 fun x6 q9 q7=>gx eU 1 q9<|gN bl1 q7
 obtain rfl:=nR bl1 q7;let x4:=s1.1;obtain rfl:=Aih q3;let x3:=x4;obtain rfl:=Aih hm;exact gE
def HL (a0:g_api_Promise):Option Bool:=Ab (EX a0.Log) fun x1=>Ab (gu x1 (EX a0.At)) fun x2=>Ab (gu (x1&&x2) (CR ([a0.Leaf.1,a0.Leaf.2]:List UInt64))) fun x3=>Ab (gu ((x1&&x2)&&(decide ((x3.toNat:Int)<2305843009213693951))) (HJ a0.Sig)) fun x4=>bnd ((((x1&&x2)&&(decide ((x3.toNat:Int)<2305843009213693951)))&&x4)) fun x5=>some x5
theorem Q9 {a0 r}(hm:HL a0=some r):Sf prog 274 [ag (Ae a0)] (.d (.t r)):=by
 refine sq ?_;intros;refine AhA 1 [.i a0.Log,.i a0.At,.u a0.Leaf.1,.u a0.Leaf.2,.u a0.Sig.E,.u a0.Sig.S]<|gA hm Hq fun x1 q1 hm=>oB hm fun x2 q2 hm=>gcH q2 Hq<|gslM (k:=1) (E:=eU) ([a0.Leaf.1,a0.Leaf.2]:List UInt64) (fun _=>rfl)<|oB hm fun x3 q3 hm=>gcH q3 J7<|oB hm fun x4 q4 hm=>gcH q4 OC<|bE hm ?_;intro x5 hm;obtain rfl:=Aih hm;exact gE
def LP (a0:Int):Option Bool:=bnd (((decide (a0≤32))||(decide (a0>126)))) fun x1=>some x1
theorem T3 {a0 r}(hm:LP a0=some r):Sf prog 332 [.d (.r a0)] (.d (.t r)):=by
 refine sq ?_;intros;refine bE hm ?_;intro x1 hm;obtain rfl:=Aih hm;exact gE
def DC (a0:ByteArray)(a2:Bool)(s1:Nat):Option ((Nat)⊕((Nat)⊕Int)):=if s1<a0.size then bnd (((Utf8.decode a0 s1).1:Int)) fun x3=>Ab (LP x3) fun x4=>if(x4==a2)=true then some (.inr (.inr (s1:Int)))else some (.inl (s1+(Utf8.decode a0 s1).2))else some (.inr (.inl s1))
def Da (a0:ByteArray)(a2:Bool):Option Int:=Ab (iter (DC a0 a2) Ey 0) fun x1=>match x1 with| .inr r=>some r| .inl y1=>some (-1)
theorem KS {a0 a2 r}(hm:Da a0 a2=some r):Sf prog 391 [.d (.s a0),.fn (.func 332) [] [],.d (.t a2)] (.d (.i r)):=by
 refine sq ?_;intros;refine grng a0<|oB hm fun x1 q1 hm=>gI q1 (fun p=>⟨[(1,.fn (.func 332) [] []),(2,.d (.t a2)),(10,.ow 0)],[(0,.hp 0 (.it a0 p))],[],1⟩) fun s1 y2 Jl q4 bl1=>gnx q4 (fun hc1 q4=> ?_) fun hc1 q4=> ?_
 ·refine gi' (b:=true) (fun _=> ?_) (fun h=>by cases h);refine bE q4 ?_;intro x3 q4;refine gA q4 T3 fun x4 q7 q4=>gi q4 ?_ ?_<;>intro hc2 q4
  ·obtain rfl:=nR bl1 q4;obtain rfl:=Aih hm;exact gE
  exact gN bl1 q4
 refine gi' (b:=false) (fun h=>by cases h) (fun _=> ?_);obtain rfl:=nR bl1 q4;let y1:=s1;obtain rfl:=Aih hm;exact gE
def Ep (a0:ByteArray):Option Int:=Ab (Da a0 true) fun x1=>some x1
theorem KT {a0 r}(hm:Ep a0=some r):Sf prog 369 [.d (.s a0),.fn (.func 332) [] []] (.d (.i r)):=by
 refine sq ?_;intros;refine gA hm KS fun x1 q1 hm=> ?_;exact Aih hm▸gE
def DD (a0:ByteArray):Option Bool:=Ab (Ep a0) fun x1=>some (decide (x1≥0))
theorem JF {a0 r}(hm:DD a0=some r):Sf prog 333 [.d (.s a0),.fn (.func 332) [] []] (.d (.t r)):=by
 refine sq ?_;intros;refine gA hm KT fun x1 q1 hm=> ?_;exact Aih hm▸gE
def EW (a0:ByteArray):Option Bool:=Ab (gu ((!eqS a0 (⟨#[]⟩:ByteArray))&&(decide ((a0.size:Int)≤64))) (DD a0)) fun x1=>bnd ((((!eqS a0 (⟨#[]⟩:ByteArray))&&(decide ((a0.size:Int)≤64)))&&(!x1))) fun x2=>some x2
theorem Q8 {a0 r}(hm:EW a0=some r):Sf prog 276 [.d (.s a0)] (.d (.t r)):=by
 refine sq ?_;intros;refine oB hm fun x1 q1 hm=>gcH q1 JF<|bE hm ?_;intro x2 hm;obtain rfl:=Aih hm;exact gE
def Bi (a0:ByteArray)(a1:ByteArray):Option Bool:=Ab (gu (decide ((a0.size:Int)≥(a1.size:Int))) (UZ a0 0 (a1.size:Int))) fun x1=>bnd (((decide ((a0.size:Int)≥(a1.size:Int)))&&(eqS x1 a1))) fun x2=>some x2
theorem HY {a0 a1 r}(hm:Bi a0 a1=some r):Sf prog 395 [.d (.s a0),.d (.s a1)] (.d (.t r)):=by
 refine sq ?_;intros;refine oB hm fun x1 q1 hm=>gcutSG (fun h=>Ac6 h q1)<|bE hm ?_;intro x2 hm;obtain rfl:=Aih hm;exact gE
def Bj (a0:ByteArray)(a1:ByteArray):Option (ByteArray×Bool):=Ab (Bi a0 a1) fun x1=>if(!x1)=true then some (a0,false)else Ab (UZ a0 (a1.size:Int) (a0.size:Int)) fun x2=>some (x2,true)
theorem HZ {a0 a1 r}(hm:Bj a0 a1=some r):Sf prog 381 [.d (.s a0),.d (.s a1)] (.tup [.d (.s r.1),.d (.t r.2)]):=by
 refine sq ?_;intros;refine gA hm HY fun x1 q1 hm=>gi hm ?_ ?_<;>intro hc1 hm
 ·exact Aih hm▸gE
 refine oB hm fun x2 q2 hm=>ZJ (fun _=>q2) ?_;exact Aih hm▸gE
def Co (a0:ByteArray)(a1:ByteArray):Option (ByteArray×Bool):=Ab (Bj a0 a1) fun x1=>some (x1.1,x1.2)
theorem NS {a0 a1 r}(hm:Co a0 a1=some r):Sf prog 351 [.d (.s a0),.d (.s a1)] (.tup [.d (.s r.1),.d (.t r.2)]):=by
 refine sq ?_;intros;refine gA hm HZ fun x1 q1 hm=> ?_;exact Aih hm▸gE
def DE (a0:ByteArray):Option (ByteArray×Bool×Bool):=Ab (Gn a0) fun x1=>if x1=true then some (a0,false,true)else Ab (Co a0 (⟨#[42,46]⟩:ByteArray)) fun x2=>Ab (gu x2.2 (CL x2.1 7 62)) fun x3=>some (x2.1,x2.2,(x2.2&&x3))
theorem Mr {a0 r}(hm:DE a0=some r):Sf prog 296 [.d (.s a0)] (.tup [.d (.s r.1),.d (.t r.2.1),.d (.t r.2.2)]):=by
 refine sq ?_;intros;refine gA hm Nl fun x1 q1 hm=>gi hm ?_ ?_<;>intro hc1 hm
 ·exact Aih hm▸gE
 refine gA hm NS fun x2 q2 hm=>oB hm fun x3 q3 hm=>gcH q3 PY ?_;exact Aih hm▸gE
def DF (a0:ByteArray):Option Int:=Ab (DE a0) fun x1=>Ab (Hb x1.2.2) fun x2=>some x2
theorem Q1 {a0 r}(hm:DF a0=some r):Sf prog 279 [.d (.s a0)] (.d (.i r)):=by
 refine sq ?_;intros;refine gA hm Mr fun x1 q1 hm=>gA hm PX fun x2 q2 hm=> ?_;exact Aih hm▸gE
def JZ (i1:Int)(x2:ByteArray)(s1:(List (ByteArray×Bool))):Option (((List (ByteArray×Bool)))⊕Bool):=Ab (gu (!(lkB s1 x2)) (DF x2)) fun x3=>if((lkB s1 x2)||(x3 !=0))=true then some (.inr false)else if(lkI s1 x2 0).isNone=true then some (.inl (s1++[(x2,true)]))else none
def GY (a0:List ByteArray)(a1:Int)(a2:Int):Option Bool:=Ab (EZ JZ a0 0 ([]:List (ByteArray×Bool))) fun x1=>match x1 with| .inr r=>some r| .inl y1=>bnd (((decide ((a0.length:Int)≥a1))&&(decide ((a0.length:Int)≤a2)))) fun x4=>some x4
theorem QB {a0 a1 a2 r}(hm:GY a0 a1 a2=some r):Sf prog 278 [sl eS a0,.d (.i a1),.d (.i a2),.fn (.func 279) [] []] (.d (.t r)):=by
 refine sq ?_;intros;refine gmkm<|oB hm fun x1 q1 hm=>J6 0 (E:=eS) (xs:=a0) 13 fun hle1=>gF (ER _ _ _) q1 (fun p0 p=>⟨[(0,sl eS a0),(1,.d (.i a1)),(2,.d (.i a2)),(3,.fn (.func 279) [] []),(9,.ow 0),(13,sl eS a0),(14,.d (.i (a0.length:Int))),(15,.d (.i p0)),(12,.ow 0)],[(0,.hp 0 (.mp p))],[],1⟩) fun i1 s1 Jl bl1=>cR bl1 (fun x2 y2 q5 q4 bl1=> ?_) fun e=> ?_
 ·refine gx eS 1 q5<|glk s1 x2<|oB q4 fun x3 q6 q4=>gcH q6 Q1<|gi q4 ?_ ?_<;>intro hc1 q4
  ·obtain rfl:=nT bl1 q4;obtain rfl:=Aih hm;exact gE
  obtain⟨q7,q4⟩:=BC q4;exact gup q7<|gT bl1 hle1 q4
 subst e;let y1:=s1;refine bE hm ?_;intro x4 hm;obtain rfl:=Aih hm;exact gE
def J0 (i1:Int)(x2:ByteArray)(s1:(List (ByteArray×Bool))):Option (((List (ByteArray×Bool)))⊕Bool):=Ab (gu (!(lkB s1 x2)) (D1 x2)) fun x3=>if((lkB s1 x2)||(x3 !=0))=true then some (.inr false)else if(lkI s1 x2 0).isNone=true then some (.inl (s1++[(x2,true)]))else none
def GZ (a0:List ByteArray)(a1:Int)(a2:Int):Option Bool:=Ab (EZ J0 a0 0 ([]:List (ByteArray×Bool))) fun x1=>match x1 with| .inr r=>some r| .inl y1=>bnd (((decide ((a0.length:Int)≥a1))&&(decide ((a0.length:Int)≤a2)))) fun x4=>some x4
theorem QC {a0 a1 a2 r}(hm:GZ a0 a1 a2=some r):Sf prog 278 [sl eS a0,.d (.i a1),.d (.i a2),.fn (.func 145) [] []] (.d (.t r)):=by
 refine sq ?_;intros;refine gmkm<|oB hm fun x1 q1 hm=>J6 0 (E:=eS) (xs:=a0) 13 fun hle1=>gF (ER _ _ _) q1 (fun p0 p=>⟨[(0,sl eS a0),(1,.d (.i a1)),(2,.d (.i a2)),(3,.fn (.func 145) [] []),(9,.ow 0),(13,sl eS a0),(14,.d (.i (a0.length:Int))),(15,.d (.i p0)),(12,.ow 0)],[(0,.hp 0 (.mp p))],[],1⟩) fun i1 s1 Jl bl1=>cR bl1 (fun x2 y2 q5 q4 bl1=> ?_) fun e=> ?_
 ·refine gx eS 1 q5<|glk s1 x2<|oB q4 fun x3 q6 q4=>gcH q6 Ou<|gi q4 ?_ ?_<;>intro hc1 q4
  ·obtain rfl:=nT bl1 q4;obtain rfl:=Aih hm;exact gE
  obtain⟨q7,q4⟩:=BC q4;exact gup q7<|gT bl1 hle1 q4
 subst e;let y1:=s1;refine bE hm ?_;intro x4 hm;obtain rfl:=Aih hm;exact gE
def DY (i1:Int)(x2:g_api_Promise)(s1:Int):Option ((Int)⊕Bool):=Ab (HL x2) fun x3=>if((!x3)||(decide (x2.Log≤s1)))=true then some (.inr false)else some (.inl x2.Log)
def Jv (a0:g_api_Cert):Option Bool:=Ab (EZ DY a0.Proms 0 (-1)) fun x1=>match x1 with| .inr r=>some r| .inl y1=>Ab (EX a0.Serial) fun x4=>Ab (gu (!(!x4)) (EX a0.From)) fun x5=>Ab (gu (!((!x4)||(!x5))) (EX a0.Until)) fun x6=>bnd (((((!x4)||(!x5))||(!x6))||(decide (a0.From≥a0.Until)))) fun x7=>if x7=true then some false else Ab (EW a0.Issuer) fun x8=>Ab (gu (!((((!x8)||((a0.Key.toNat:Int)==0))||(decide ((a0.Key.toNat:Int)≥2305843009213691579)))||(decide ((a0.Proms.length:Int)>4)))) (HJ a0.Sig)) fun x9=>bnd ((((((!x8)||((a0.Key.toNat:Int)==0))||(decide ((a0.Key.toNat:Int)≥2305843009213691579)))||(decide ((a0.Proms.length:Int)>4)))||(!x9))) fun x10=>if x10=true then some false else if a0.Ca=true then Ab (EW a0.Subject) fun x11=>Ab (gu (((x11&&((a0.Names.length:Int)==0))&&(decide (a0.Depth≥0)))&&(decide (a0.Depth≤4))) (GY a0.Permit 0 8)) fun x12=>bnd (((((x11&&((a0.Names.length:Int)==0))&&(decide (a0.Depth≥0)))&&(decide (a0.Depth≤4)))&&x12)) fun x13=>some x13 else Ab (gu (eqS a0.Subject (⟨#[]⟩:ByteArray)) (GZ a0.Names 1 8)) fun x14=>bnd (((((eqS a0.Subject (⟨#[]⟩:ByteArray))&&x14)&&(a0.Depth==0))&&((a0.Permit.length:Int)==0))) fun x15=>some x15
theorem T4 {a0 r}(hm:Jv a0=some r):Sf prog 208 [ag (Af a0)] (.d (.t r)):=by
 refine sq ?_;intros;refine oB hm fun x1 q1 hm=>J6 0 (E:=Ae) (xs:=a0.Proms) 7 fun hle1=>gF (ER _ _ _) q1 (fun p0 p=>⟨[(1,.pb 0 0),(3,.d (.i p)),(7,sl Ae a0.Proms),(8,.d (.i (a0.Proms.length:Int))),(9,.d (.i p0))],[(0,.box 0 [.d (.i a0.Serial),.d (.s a0.Issuer),.d (.s a0.Subject),.d (.u a0.Key),sl eS a0.Names,.d (.i a0.From),.d (.i a0.Until),.d (.t a0.Ca),.d (.i a0.Depth),sl eS a0.Permit,sl Ae a0.Proms,.d (.u a0.Sig.E),.d (.u a0.Sig.S)] 59)],[],1⟩) fun i1 s1 Jl bl1=>cR bl1 (fun x2 y2 q5 q4 bl1=> ?_) fun e=> ?_
 ·refine gx Ae 6 q5<|gA q4 Q9 fun x3 q6 q4=>gi q4 ?_ ?_<;>intro hc1 q4
  ·obtain rfl:=nT bl1 q4;obtain rfl:=Aih hm;exact gE
  exact gT bl1 hle1 q4
 subst e;let y1:=s1;refine gA hm Hq fun x4 q7 hm=>oB hm fun x5 q8 hm=>gcH q8 Hq<|oB hm fun x6 q9 hm=>gcH q9 Hq<|bE hm ?_;intro x7 hm;refine gi hm ?_ ?_<;>intro hc3 hm
 ·obtain rfl:=Aih hm;exact gE
 refine gA hm Q8 fun x8 q11 hm=>oB hm fun x9 q12 hm=>gcH q12 OC<|bE hm ?_;intro x10 hm;refine gi hm ?_ ?_<;>intro hc4 hm
 ·obtain rfl:=Aih hm;exact gE
 refine gi hm ?_ ?_<;>intro hc5 hm
 ·refine gA hm Q8 fun x11 q14 hm=>oB hm fun x12 q15 hm=>gcH q15 QB<|bE hm ?_;intro x13 hm;obtain rfl:=Aih hm;exact gE
 refine oB hm fun x14 q17 hm=>gcH q17 QC<|bE hm ?_;intro x15 hm;obtain rfl:=Aih hm;exact gE
def MW (a0:Gv)(k0:Int):Option (Bool×Int):=some ((a0.tag_==k0),k0)
theorem Vw {a0 k0 r}(hm:MW a0 k0=some r):Sp prog 371 [ag (Hf a0),.pb 0 0] [.box 0 [.d (.i k0)] 3] 1 (is (.d (.t r.1)) [.box 0 [.d (.i r.2)] 3] 1):=by
 refine sq ?_;intros;exact Aih hm▸gE
def Ao (a0:List Gv)(i1:Int)(s1:Int):Option ((Int)⊕(Int×Int)):=Ab (idx a0 (i1:Int)) fun x3=>Ab (MW x3 s1) fun x4=>if x4.1=true then some (.inr ((i1:Int),x4.2))else some (.inl x4.2)
def BL (a0:List Gv)(k0:Int):Option (Int×Int):=Ab (B4 (Ao a0) a0.length 0 k0) fun x1=>match x1 with| .inr r=>some r| .inl y1=>some ((-1),y1)
theorem Fh {a0 k0 r}(hm:BL a0 k0=some r):Sp prog 370 [sl Hf a0,.fn (.func 371) [] [.pb 0 0]] [.box 0 [.d (.i k0)] 3] 1 (is (.d (.i r.1)) [.box 0 [.d (.i r.2)] 3] 1):=by
 refine sq ?_;intros;refine oB hm fun x1 q1 hm=>J6 0 (E:=Hf) (xs:=a0) 6 fun hle1=>gF (EN _ _ _) q1 (fun p0 p=>⟨[(0,sl Hf a0),(1,.fn (.func 371) [] [.pb 0 0]),(7,.d (.i (a0.length:Int))),(8,.d (.i p0))],[(0,.box 0 [.d (.i p)] 3)],[],1⟩) fun i1 s1 Jl bl1=>cN bl1 (a0.length:Int) (fun y2 q4 bl1=> ?_) fun e=> ?_
 ·refine oB q4 fun x3 q6 q4=>gx Hf 2 q6<|gD q4 Vw fun x4 q7 q4=>gi q4 ?_ ?_<;>intro hc1 q4
  ·obtain rfl:=nT bl1 q4;obtain rfl:=Aih hm;exact gE
  exact gT bl1 hle1 q4
 subst e;let y1:=s1;obtain rfl:=Aih hm;exact gE
def Jz (a0:Int):Option (Gv×Bool):=Ab (BL tab_2 a0) fun x1=>if(decide (x1.1<0))=true then some ((⟨0,(-1)⟩:Gv),false)else Ab (idx tab_2 x1.1) fun x2=>some (x2,true)
theorem Ze {a0 r}(hm:Jz a0=some r):Sf prog 334 [.d (.i a0)] (.tup [ag (Hf r.1),.d (.t r.2)]):=by
 refine sq ?_;intros;refine gslG (k:=2) (E:=Hf) tab_2 (fun _=>rfl)<|gD hm Fh fun x1 q1 hm=>gi hm ?_ ?_<;>intro hc1 hm
 ·exact Aih hm▸gE
 refine oB hm fun x2 q2 hm=>gidG (k:=2) (E:=Hf) tab_2 (fun _=>rfl) (fun _=>q2) ?_;exact Aih hm▸gE
def QP (n:Int)(a0:List UInt8):Option Bool:=if n=299 then JV a0 else if n=428 then HG a0 else if n=429 then OX a0 else if n=430 then Ju a0 else if n=432 then Jt a0 else none
theorem Adg {n a0 r}(hm:QP n a0=some r): ∃k:Nat,n=(k:Int)∧Sf prog k [sl eB a0] (.d (.t r)):=by
 unfold QP at hm;split at hm
 ·rename_i h;exact⟨299,h,Q3 hm⟩
 split at hm
 ·rename_i h;exact⟨428,h,TX hm⟩
 split at hm
 ·rename_i h;exact⟨429,h,TW hm⟩
 split at hm
 ·rename_i h;exact⟨430,h,TV hm⟩
 split at hm
 ·rename_i h;exact⟨432,h,TU hm⟩
 cases hm
def Nh (rF:g_api_Item→Int→Option Bool):Prop:= ∀{a0:g_api_Item} {a1:Int} {r:Bool},rF a0 a1=some r→Sf prog 280 [ag (Aq a0),.d (.i a1)] (.d (.t r))
def LN (rF:g_api_Item→Int→Option Bool)(a0:g_api_Item)(k0:Int):Option (Bool×Int):=Ab (rF a0 (w64 (k0-1))) fun x1=>some ((!x1),k0)
theorem TT {rF:g_api_Item→Int→Option Bool}(hF:Nh rF){a0 k0 r}(hm:LN rF a0 k0=some r):Sp prog 336 [ag (Aq a0),.pb 0 0] [.box 0 [.d (.i k0)] 3] 1 (is (.d (.t r.1)) [.box 0 [.d (.i r.2)] 3] 1):=by
 refine sq ?_;intros;refine gA hm hF fun x1 q1 hm=> ?_;exact Aih hm▸gE
def Av (rF:g_api_Item→Int→Option Bool)(a0:List g_api_Item)(i1:Int)(s1:Int):Option ((Int)⊕(Int×Int)):=Ab (idx a0 (i1:Int)) fun x3=>Ab ((LN rF) x3 s1) fun x4=>if x4.1=true then some (.inr ((i1:Int),x4.2))else some (.inl x4.2)
def BB (rF:g_api_Item→Int→Option Bool)(a0:List g_api_Item)(k0:Int):Option (Int×Int):=Ab (B4 ((Av rF) a0) a0.length 0 k0) fun x1=>match x1 with| .inr r=>some r| .inl y1=>some ((-1),y1)
theorem EG {rF:g_api_Item→Int→Option Bool}(hF:Nh rF){a0 k0 r}(hm:BB rF a0 k0=some r):Sp prog 372 [sl Aq a0,.fn (.func 336) [] [.pb 0 0]] [.box 0 [.d (.i k0)] 3] 1 (is (.d (.i r.1)) [.box 0 [.d (.i r.2)] 3] 1):=by
 refine sq ?_;intros;refine oB hm fun x1 q1 hm=>J6 0 (E:=Aq) (xs:=a0) 6 fun hle1=>gF (EN _ _ _) q1 (fun p0 p=>⟨[(0,sl Aq a0),(1,.fn (.func 336) [] [.pb 0 0]),(7,.d (.i (a0.length:Int))),(8,.d (.i p0))],[(0,.box 0 [.d (.i p)] 3)],[],1⟩) fun i1 s1 Jl bl1=>cN bl1 (a0.length:Int) (fun y2 q4 bl1=> ?_) fun e=> ?_
 ·refine oB q4 fun x3 q6 q4=>gx Aq 3 q6<|oB q4 fun x4 q7 q4=>gco (TT hF q7)<|gi q4 ?_ ?_<;>intro hc1 q4
  ·obtain rfl:=nT bl1 q4;obtain rfl:=Aih hm;exact gE
  exact gT bl1 hle1 q4
 subst e;let y1:=s1;obtain rfl:=Aih hm;exact gE
def AR (rF:g_api_Item→Int→Option Bool)(a0:List g_api_Item)(k0:Int):Option (Bool×Int):=Ab ((BB rF) a0 k0) fun x1=>some ((decide (x1.1≥0)),x1.2)
theorem Eh {rF:g_api_Item→Int→Option Bool}(hF:Nh rF){a0 k0 r}(hm:AR rF a0 k0=some r):Sp prog 335 [sl Aq a0,.fn (.func 336) [] [.pb 0 0]] [.box 0 [.d (.i k0)] 3] 1 (is (.d (.t r.1)) [.box 0 [.d (.i r.2)] 3] 1):=by
 refine sq ?_;intros;refine oB hm fun x1 q1 hm=>gco (EG hF q1) ?_;exact Aih hm▸gE
def Ig (rF:g_api_Item→Int→Option Bool)(a0:g_api_Item)(a1:Int):Option Bool:=Ab (Jz a0.Tag) fun x1=>Ab (gu (!((!x1.2)||(decide (a1<1)))) (QP x1.1.may_ a0.B)) fun x2=>if((((!x1.2)||(decide (a1<1)))||(!x2))||((a0.Tag !=48)&&(decide ((a0.L.length:Int)>0))))=true then some false else Ab ((AR rF) a0.L a1) fun x3=>some (!x3.1)
theorem WK {rF:g_api_Item→Int→Option Bool}(hF:Nh rF){a0 a1 r}(hm:Ig rF a0 a1=some r):Sf prog 280 [ag (Aq a0),.d (.i a1)] (.d (.t r)):=by
 refine sq ?_;intros;refine gA hm Ze fun x1 q1 hm=>oB hm fun x2 q2 hm=>gdynG (fun h=>Adg (Ac6 h q2))<|gi hm ?_ ?_<;>intro hc1 hm
 ·exact Aih hm▸gE
 refine oB hm fun x3 q3 hm=>gco (Eh hF q3) ?_;exact Aih hm▸gE
def IL:Nat→g_api_Item→Int→Option Bool
 |0,_,_=>none
 |n+1,a0,a1=>Ig (IL n) a0 a1
def RG (a0:g_api_Item)(a1:Int):Option Bool:=IL Ey a0 a1
theorem SL: ∀n,Nh (IL n)
 |0=>fun hm=>by cases hm
 |n+1=>fun hm=>WK (SL n) hm
theorem Aak {a0:g_api_Item}{a1:Int}{r:Bool}(hm:RG a0 a1=some r):Sf prog 280 [ag (Aq a0),.d (.i a1)] (.d (.t r)):=SL Ey hm
def A3 (a0:List UInt8):Option (List UInt8):=Ab (app 1 ([]:List UInt8) a0) fun x1=>some x1
theorem KU {m As w a0}{a0v0:Value}{r}(S:St m (As) w)(a0h0:SlR m a0v0 a0)(hm:A3 a0=some r):
  AK Tryz.prog 300 #[a0v0] w fun v w'=> ∃(M:Mem),m≤M∧∃(rv0:Value) (rc0:List Value),St M ((row 1 rv0 rc0 r.length)::As) w'∧v=rv0∧AH M rc0 r:=by
 unfold A3 at hm;have L0:=Mem.rfl' m;refine Dp (args:=[a0v0]) Tryz.func300 rfl Tryz.ntmps300 (Ail rfl)<|Ag<|Ac<|AD (v:= .slice none 0 0) rfl<|Ah<|nrm<|Ag<|Ag<|Ac ?_;refine An (v:=a0v0) rfl<|Hv rfl rfl a0h0 Tryz.underlying96<|Ah<|nrm<|BK (t:=(I9 a0v0)) rfl (fun hc1=> ?_) (fun hc1=> ?_)
 ·have he1:a0=[]:=SlR.nilOf a0h0 hc1;rw[he1]at hm;replace hm:(some ([]:List UInt8))=some _:=hm;refine Ag<|Ac<|AD (v:= .slice none 0 0) rfl<|Ah<|nrm<|AX<|thR<|Dd ?_;intro we hpd;replace S:=St.pd S hpd;have S1:=St.rowNil S 1;have h1:AH m [] ([]:List UInt8):=AH.nil;replace S1:St _ ((row 1 (.slice none 0 0) [] ([]:List UInt8).length)::As) _:=S1;clear S;obtain rfl:=Aih hm;exact It [_] rfl ⟨rfl,trivial⟩ ⟨_,L0,_,_,S1,rfl,h1⟩
 refine AL<|nrm<|Ag<|Ac<|Ht (parts:=[]) (vs:=[]) (cls:=[]) (n:=0) (sz:=1) S Tryz.underlying96 Tryz.sizeOf5 Tryz.zeroValue5 rfl trivial rfl rfl (by decide) (by decide) ?_;intro v1 w1 S2;have h2:AH m [] ([]:List UInt8):=AH.nil;replace S2:St _ ((row 1 v1 [] ([]:List UInt8).length)::As) _:=S2;clear S;refine An (v:=a0v0) rfl ?_;obtain⟨x1,q1,hm⟩:=Ad hm;refine Ml (i:=0) (zs:=x1) (bytes:=1) (ti:=Tryz.t5) S2 rfl rfl h2 rfl rfl a0h0 q1 Tryz.underlying96 Tryz.type5 rfl rfl rfl rfl ?_;intro v2 c1 w2 S3 h3;replace S3:St _ ((row 1 v2 c1 x1.length)::As) _:=S3;clear S2;refine AD (v:=v2) rfl<|Ah<|nrm<|AX<|Dd ?_;intro we hpd;replace S3:=St.pd S3 hpd;obtain rfl:=Aih hm;exact It [_] rfl ⟨rfl,trivial⟩ ⟨_,L0,_,_,S3,rfl,h3⟩
theorem Ha {a0 r}(hm:A3 a0=some r):Sp prog 300 [sl eB a0] [] 0 (is (.ow 0) [.row 0 1 _ eB r] 1):=
 ⟨call300,fun η m As w vs hv0 hd S=>by
  have S:St m As w:=S;obtain⟨v0,u0,rfl,r0,hv1⟩:=Bf.cons_inv hv0;have f0:=Br.ofS Br.b r0.dd;obtain rfl:=Bf.nil_inv hv1;refine AK.mono (KU S f0 hm) ?_;rintro v w' ⟨M,hle,y0,c0,S0,rfl,h0⟩;exact⟨M,(Xu [v]),_,_,_,hle,Wp hd _,⟨rfl,rfl,rfl⟩,FD rfl,(.ow rfl (B1 S0)),(St.impL S0 (Sq (Br.toR Br.b rfl rfl (B1 S0) h0) fun _ h=>h))⟩⟩
def R8 (rF:(List UInt8)→g_api_Item→Option (List UInt8)):Prop:= ∀{a0:List UInt8} {a1:g_api_Item} {r:List UInt8},rF a0 a1=some r→Sp prog 281 [.ow 0,ag (Aq a1)] [.row 0 1 _ eB a0] 1 (is (.ow 1) [.row 1 1 _ eB r] 2)
def Fa (rF:(List UInt8)→g_api_Item→Option (List UInt8))(i1:Int)(x4:g_api_Item)(s1:(List UInt8)):Option ((List UInt8)):=Ab (rF s1 x4) fun x5=>some x5
def HH (rF:(List UInt8)→g_api_Item→Option (List UInt8))(a0:g_api_Item):Option (List UInt8):=Ab (A3 a0.B) fun x1=>Ab (Ab (DA (Fa rF) a0.L 0 x1) fun x3=>some x3) fun x2=>some x2
theorem Q5 {rF:(List UInt8)→g_api_Item→Option (List UInt8)}(hF:R8 rF){a0 r}(hm:HH rF a0=some r):Sp prog 337 [ag (Aq a0)] [] 0 (is (.ow 0) [.row 0 1 _ eB r] 1):=by
 refine sq ?_;intros;refine gD hm Ha fun x1 q1 hm=> ?_;obtain⟨x2,q2,hm⟩:=Ad hm;refine oB q2 fun x3 q3 q2=>J6 0 (E:=Aq) (xs:=a0.L) 10 fun hle1=>gF (E0 _ _ _) q3 (fun p0 p=>⟨[(3,.ow 1),(10,sl Aq a0.L),(11,.d (.i (a0.L.length:Int))),(12,.d (.i p0)),(1,.pb 0 0)],[(0,.row 1 1 _ eB p),(1,.box 0 [.d (.i a0.Tag),sl eB a0.B,sl Aq a0.L] 192)],[],2⟩) fun i1 s1 Jl bl1=>c0 bl1 (fun x4 y1 q7 q6 bl1=> ?_) fun e=> ?_
 ·exact gx Aq 3 q7<|gD q6 hF fun x5 q8 q6=>gM bl1 hle1 q6
 subst e;obtain rfl:=Aih q2;let x2:=x3;obtain rfl:=Aih hm;exact gE
def LM (rF:(List UInt8)→g_api_Item→Option (List UInt8))(a0:List UInt8)(a1:g_api_Item):Option (List UInt8):=Ab ((HH rF) a1) fun x1=>Ab (app 1 a0 ([(toB a1.Tag)]:List UInt8)) fun x2=>Ab (bnd ((decide ((x1.length:Int)<128))) fun x4=>if x4=true then Ab (app 1 x2 ([(toB (x1.length:Int))]:List UInt8)) fun x5=>some x5 else bnd ((decide ((x1.length:Int)<256))) fun x6=>if x6=true then Ab (app 1 x2 ([129,(toB (x1.length:Int))]:List UInt8)) fun x7=>some x7 else Ab (app 1 x2 ([130,(toB (Bv (x1.length:Int) 8)),(toB (x1.length:Int))]:List UInt8)) fun x8=>some x8) fun x3=>Ab (app 1 x3 x1) fun x9=>some x9
theorem WJ {rF:(List UInt8)→g_api_Item→Option (List UInt8)}(hF:R8 rF){a0 a1 r}(hm:LM rF a0 a1=some r):Sp prog 281 [.ow 0,ag (Aq a1)] [.row 0 1 _ eB a0] 1 (is (.ow 1) [.row 1 1 _ eB r] 2):=by
 refine sq fun D0 As η0 m0 hd=>oB hm fun x1 q1 hm=>gco (Q5 hF q1)<|gq eB 1 [(toB a1.Tag)]<|oB hm fun x2 q2 hm=>gp eB 1 q2<|oB hm fun x3 q3 hm=>gjU 0 (fun(_:Unit)=>⟨[(0,.ow 3),(5,.ow 2),(3,.pb 1 0)],[(0,.row 3 1 _ eB x3),(1,.row 2 1 _ eB x1),(2,.box 1 [.d (.i a1.Tag),sl eB a1.B,sl Aq a1.L] 192)],[],4⟩) (fun _=>True) (fun Jp bk1=> ?_) fun _ _=> ?_
 ·refine bE q3 ?_;intro x4 q3;refine gi q3 ?_ ?_<;>intro hc1 q3
  ·refine gq eB 1 [(toB (x1.length:Int))]<|oB q3 fun x5 q5 q3=>gp eB 1 q5 ?_;obtain rfl:=Aih q3;exact gb bk1 hd () trivial
  refine bE q3 ?_;intro x6 q3;refine gi q3 ?_ ?_<;>intro hc2 q3
  ·refine gq eB 1 [129,(toB (x1.length:Int))]<|oB q3 fun x7 q7 q3=>gp eB 1 q7 ?_;obtain rfl:=Aih q3;exact gb bk1 hd () trivial
  refine gq eB 1 [130,(toB (Bv (x1.length:Int) 8)),(toB (x1.length:Int))]<|oB q3 fun x8 q8 q3=>gp eB 1 q8 ?_;obtain rfl:=Aih q3;exact gb bk1 hd () trivial
 refine oB hm fun x9 q9 hm=>gp eB 1 q9 ?_;obtain rfl:=Aih hm;exact gE
def Hx:Nat→(List UInt8)→g_api_Item→Option (List UInt8)
 |0,_,_=>none
 |n+1,a0,a1=>LM (Hx n) a0 a1
def RF (a0:List UInt8)(a1:g_api_Item):Option (List UInt8):=Hx Ey a0 a1
theorem SK: ∀n,R8 (Hx n)
 |0=>fun hm=>by cases hm
 |n+1=>fun hm=>WJ (SK n) hm
theorem Aaj {a0:List UInt8}{a1:g_api_Item}{r:List UInt8}(hm:RF a0 a1=some r):Sp prog 281 [.ow 0,ag (Aq a1)] [.row 0 1 _ eB a0] 1 (is (.ow 1) [.row 1 1 _ eB r] 2):=SK Ey hm
def JX (a0:g_api_Item):Option ((List UInt8)×Int):=Ab (RG a0 8) fun x1=>if(!x1)=true then some (([]:List UInt8),1)else Ab (RF ([]:List UInt8) a0) fun x2=>if(decide ((x2.length:Int)>8192))=true then some (([]:List UInt8),2)else some (x2,0)
theorem Q6 {a0 r}(hm:JX a0=some r):Sp prog 209 [ag (Aq a0)] [] 0 (is (.tup [.ow 0,.d (.i r.2)]) [.row 0 1 _ eB r.1] 1):=by
 refine sq ?_;intros;refine gA hm Aak fun x1 q1 hm=>gi hm ?_ ?_<;>intro hc1 hm
 ·refine Ac9 eB 2 1 ?_;exact Aih hm▸gE
 refine oB hm fun x2 q2 hm=>gco (Sp.nil0 (Aaj q2) rfl)<|gi hm ?_ ?_<;>intro hc2 hm
 ·refine Ac9 eB 2 1 ?_;exact Aih hm▸gE
 exact Aih hm▸gE
def Bh (a0:List g_api_Item):Option (List g_api_Item):=Ab (app 56 ([]:List g_api_Item) a0) fun x1=>some x1
theorem HU {m As w a0}{a0v0:Value}{r}(S:St m (As) w)(a0h0:SlR m a0v0 a0)(hm:Bh a0=some r):
  AK Tryz.prog 298 #[a0v0] w fun v w'=> ∃(M:Mem),m≤M∧∃(rv0:Value) (rc0:List Value),St M ((row 3 rv0 rc0 r.length)::As) w'∧v=rv0∧AH M rc0 r:=by
 unfold Bh at hm;have L0:=Mem.rfl' m;refine Dp (args:=[a0v0]) Tryz.func298 rfl Tryz.ntmps298 (Ail rfl)<|Ag<|Ac<|AD (v:= .slice none 0 0) rfl<|Ah<|nrm<|Ag<|Ag<|Ac ?_;refine An (v:=a0v0) rfl<|Hv rfl rfl a0h0 Tryz.underlying190<|Ah<|nrm<|BK (t:=(I9 a0v0)) rfl (fun hc1=> ?_) (fun hc1=> ?_)
 ·have he1:a0=[]:=SlR.nilOf a0h0 hc1;rw[he1]at hm;replace hm:(some ([]:List g_api_Item))=some _:=hm;refine Ag<|Ac<|AD (v:= .slice none 0 0) rfl<|Ah<|nrm<|AX<|thR<|Dd ?_;intro we hpd;replace S:=St.pd S hpd;have S1:=St.rowNil S 3;have h1:AH m [] ([]:List g_api_Item):=AH.nil;replace S1:St _ ((row 3 (.slice none 0 0) [] ([]:List g_api_Item).length)::As) _:=S1;clear S;obtain rfl:=Aih hm;exact It [_] rfl ⟨rfl,trivial⟩ ⟨_,L0,_,_,S1,rfl,h1⟩
 refine AL<|nrm<|Ag<|Ac<|Ht (parts:=[]) (vs:=[]) (cls:=[]) (n:=0) (sz:=3) S Tryz.underlying190 Tryz.sizeOf192 Tryz.zeroValue192 rfl trivial rfl rfl (by decide) (by decide) ?_;intro v1 w1 S2;have h2:AH m [] ([]:List g_api_Item):=AH.nil;replace S2:St _ ((row 3 v1 [] ([]:List g_api_Item).length)::As) _:=S2;clear S;refine An (v:=a0v0) rfl ?_;obtain⟨x1,q1,hm⟩:=Ad hm;refine Ml (i:=0) (zs:=x1) (bytes:=56) (ti:=Tryz.t192) S2 rfl rfl h2 rfl rfl a0h0 q1 Tryz.underlying190 Tryz.type192 rfl rfl rfl rfl ?_;intro v2 c1 w2 S3 h3;replace S3:St _ ((row 3 v2 c1 x1.length)::As) _:=S3;clear S2;refine AD (v:=v2) rfl<|Ah<|nrm<|AX<|Dd ?_;intro we hpd;replace S3:=St.pd S3 hpd;obtain rfl:=Aih hm;exact It [_] rfl ⟨rfl,trivial⟩ ⟨_,L0,_,_,S3,rfl,h3⟩
theorem H2 {a0 r}(hm:Bh a0=some r):Sp prog 298 [sl Aq a0] [] 0 (is (.ow 0) [.row 0 3 _ Aq r] 1):=
 ⟨call298,fun η m As w vs hv0 hd S=>by
  have S:St m As w:=S;obtain⟨v0,u0,rfl,r0,hv1⟩:=Bf.cons_inv hv0;have f0:=Br.ofS Tz r0.dd;obtain rfl:=Bf.nil_inv hv1;refine AK.mono (HU S f0 hm) ?_;rintro v w' ⟨M,hle,y0,c0,S0,rfl,h0⟩;exact⟨M,(Xu [v]),_,_,_,hle,Wp hd _,⟨rfl,rfl,rfl⟩,FD rfl,(.ow rfl (B1 S0)),(St.impL S0 (Sq (Br.toR Tz rfl rfl (B1 S0) h0) fun _ h=>h))⟩⟩
def GO (a0:List g_api_Item):Option g_api_Item:=Ab (Bh a0) fun x1=>some (⟨48,[],x1⟩:g_api_Item)
theorem JJ {a0 r}(hm:GO a0=some r):Sf prog 235 [sl Aq a0] (ag (Aq r)):=by
 refine sq ?_;intros;refine gD hm H2 fun x1 q1 hm=> ?_;exact Aih hm▸gE
def MX (a0:Int)(i1:Int)(s1:UInt8×UInt8×UInt8×UInt8×UInt8×UInt8×UInt8×UInt8):Option (UInt8×UInt8×UInt8×UInt8×UInt8×UInt8×UInt8×UInt8):=if(0:Int)≤(w64 (56-(w64 (8*(i1:Int)))))then Ab (idx [s1.1,s1.2.1,s1.2.2.1,s1.2.2.2.1,s1.2.2.2.2.1,s1.2.2.2.2.2.1,s1.2.2.2.2.2.2.1,s1.2.2.2.2.2.2.2] (i1:Int)) fun x4=>bnd (if(i1:Int)=0 then(toB (Bv a0 ((w64 (56-(w64 (8*(i1:Int))))).toNat)))else s1.1) fun x5=>bnd (if(i1:Int)=1 then(toB (Bv a0 ((w64 (56-(w64 (8*(i1:Int))))).toNat)))else s1.2.1) fun x6=>bnd (if(i1:Int)=2 then(toB (Bv a0 ((w64 (56-(w64 (8*(i1:Int))))).toNat)))else s1.2.2.1) fun x7=>bnd (if(i1:Int)=3 then(toB (Bv a0 ((w64 (56-(w64 (8*(i1:Int))))).toNat)))else s1.2.2.2.1) fun x8=>bnd (if(i1:Int)=4 then(toB (Bv a0 ((w64 (56-(w64 (8*(i1:Int))))).toNat)))else s1.2.2.2.2.1) fun x9=>bnd (if(i1:Int)=5 then(toB (Bv a0 ((w64 (56-(w64 (8*(i1:Int))))).toNat)))else s1.2.2.2.2.2.1) fun x10=>bnd (if(i1:Int)=6 then(toB (Bv a0 ((w64 (56-(w64 (8*(i1:Int))))).toNat)))else s1.2.2.2.2.2.2.1) fun x11=>bnd (if(i1:Int)=7 then(toB (Bv a0 ((w64 (56-(w64 (8*(i1:Int))))).toNat)))else s1.2.2.2.2.2.2.2) fun x12=>some (x5,x6,x7,x8,x9,x10,x11,x12)else none
def EE (s2:(List UInt8)):Option (((List UInt8))⊕((List UInt8))):=if(decide ((s2.length:Int)>1))=true then Ab (JV s2) fun x16=>if(!x16)=true then Ab (cut s2 1 (s2.length:Int)) fun x17=>some (.inl x17)else some (.inr s2)else some (.inr s2)
def FY (a0:Int):Option g_api_Item:=Ab (Ab (CV (MX a0) 8 0 (0,0,0,0,0,0,0,0)) fun x2=>some (x2.1,x2.2.1,x2.2.2.1,x2.2.2.2.1,x2.2.2.2.2.1,x2.2.2.2.2.2.1,x2.2.2.2.2.2.2.1,x2.2.2.2.2.2.2.2)) fun x1=>Ab (Ab (iter EE Ey ([x1.1,x1.2.1,x1.2.2.1,x1.2.2.2.1,x1.2.2.2.2.1,x1.2.2.2.2.2.1,x1.2.2.2.2.2.2.1,x1.2.2.2.2.2.2.2]:List UInt8)) fun x14=>some x14) fun x13=>Ab (A3 x13) fun x18=>some (⟨2,x18,[]⟩:g_api_Item)
theorem JK {a0 r}(hm:FY a0=some r):Sf prog 236 [.d (.i a0)] (ag (Aq r)):=by
 refine sq fun D0 As η0 m0 hd=> ?_;unfold FY at hm;obtain⟨x1,q1,hm⟩:=Ad hm;refine oB q1 fun x2 q2 q1=>gF (EM _ 8 _) q2 (fun p0 (p_0,p_1,p_2,p_3,p_4,p_5,p_6,p_7)=>⟨[(0,.d (.i a0)),(2,.pb 0 0),(3,.pb 1 0),(6,.d (.i p0))],[(0,.box 1 [.d (.b p_0),.d (.b p_1),.d (.b p_2),.d (.b p_3),.d (.b p_4),.d (.b p_5),.d (.b p_6),.d (.b p_7)] 300),(1,.box 0 [.d (.i 0),sl eB [],sl Aq []] 192)],[],2⟩) fun i1 s1 Jl bl1=>cM bl1 (8:Int) (fun y1 q5 bl1=> ?_) fun e=> ?_
 ·unfold MX at q5;obtain⟨q7,q5⟩:=BC q5;refine gsh (r:= .i (Bv a0 ((w64 (56-(w64 (8*(i1:Int))))).toNat))) (fun h=>q7)<|oB q5 fun x4 q8 q5=>UT (fun _=>q8)<|bE q5 ?_;intro x5 q5;refine bE q5 ?_;intro x6 q5;refine bE q5 ?_;intro x7 q5;refine bE q5 ?_;intro x8 q5;refine bE q5 ?_;intro x9 q5;refine bE q5 ?_;intro x10 q5;refine bE q5 ?_;intro x11 q5;refine bE q5 ?_;intro x12 q5;exact gstA D.b (toB (Bv a0 ((w64 (56-(w64 (8*(i1:Int))))).toNat))) q8<|gM bl1 lk q5
 subst e;obtain rfl:=Aih q1;let x1:=(x2.1,x2.2.1,x2.2.2.1,x2.2.2.2.1,x2.2.2.2.2.1,x2.2.2.2.2.2.1,x2.2.2.2.2.2.2.1,x2.2.2.2.2.2.2.2);refine gslA (k:=1) eB ([x1.1,x1.2.1,x1.2.2.1,x1.2.2.2.1,x1.2.2.2.2.1,x1.2.2.2.2.2.1,x1.2.2.2.2.2.2.1,x1.2.2.2.2.2.2.2]:List UInt8) (fun _=>rfl) ?_;obtain⟨x13,q17,hm⟩:=Ad hm;refine oB q17 fun x14 q18 q17=>gjU 2 (fun(_:Unit)=>⟨[(2,.pb 0 0),(5,sl eB x14)],[(0,.box 0 [.d (.i 0),sl eB [],sl Aq []] 192)],[],1⟩) (fun _=>True) (fun Jp bk4=> ?_) fun _ _=> ?_
 ·refine gI q18 (fun p=>⟨[(2,.pb 0 0),(5,sl eB p)],[(0,.box 0 [.d (.i 0),sl eB [],sl Aq []] 192)],[],1⟩) fun s2 y2 Jl q21 bl2=>gspl 22 q21 (fun hc2 q21=> ?_) fun hc2 q21=> ?_
  ·refine gA q21 Q3 fun x16 q23 q21=>gi q21 ?_ ?_<;>intro hc3 q21
   ·exact oB q21 fun x17 q24 q21=>gk eB 1 q24<|gN bl2 q21
   obtain rfl:=nR bl2 q21;exact gb bk4 hd () trivial
  refine gi' (b:=false) (fun h=>by cases h) (fun _=> ?_);obtain rfl:=nR bl2 q21;exact gb bk4 hd () trivial
 obtain rfl:=Aih q17;let x13:=x14;refine gD hm Ha fun x18 q25 hm=> ?_;obtain rfl:=Aih hm;exact gE
def Fg (a0:UInt64):Option g_api_Item:=Ab (FY (w64 (a0.toNat:Int))) fun x1=>some x1
theorem H8 {a0 r}(hm:Fg a0=some r):Sf prog 238 [.d (.u a0)] (ag (Aq r)):=by
 refine sq ?_;intros;refine gA hm JK fun x1 q1 hm=> ?_;exact Aih hm▸gE
def JA (a0:ByteArray):Option g_api_Item:=Ab (app 1 ([]:List UInt8) a0.data.toList) fun x1=>some (⟨12,x1,[]⟩:g_api_Item)
theorem Pn {a0 r}(hm:JA a0=some r):Sf prog 237 [.d (.s a0)] (ag (Aq r)):=by
 refine sq ?_;intros;refine oB hm fun x1 q1 hm=>gofS q1 ?_;exact Aih hm▸gE
def PN (a0:Bool):Option g_api_Item:=Ab (if a0=true then Ab (idx ([0]:List UInt8) 0) fun x2=>bnd (([0]:List UInt8).set (0:Int).toNat 255) fun x3=>some x3 else some ([0]:List UInt8)) fun x1=>some (⟨1,x1,[]⟩:g_api_Item)
theorem Zf {a0 r}(hm:PN a0=some r):Sf prog 240 [.d (.t a0)] (ag (Aq r)):=by
 refine sq fun D0 As η0 m0 hd=>glit (k:=1) eB ([0]:List UInt8) (fun _=>rfl)<|oB hm fun x1 q1 hm=>gj (fun(_:Unit)=>⟨[(2,.pb 0 0),(3,.ow 1)],[(0,.row 1 1 _ eB x1),(1,.box 0 [.d (.i 0),sl eB [],sl Aq []] 192)],[],2⟩) (fun _=>True) (fun Jp bk1=> ?_) fun _ _=> ?_
 ·refine gi q1 ?_ ?_<;>intro hc1 q1
  ·refine oB q1 fun x2 q2 q1=>PO (E:=eB) (fun _=>q2)<|bE q1 ?_;intro x3 q1;refine gstO (k:=1) (E:=eB) 255 (fun _=>rfl) q2 ?_;obtain rfl:=Aih q1;exact gb bk1 hd () trivial
  obtain rfl:=Aih q1;exact gb bk1 hd () trivial
 obtain rfl:=Aih hm;exact gE
def Cj (i1:Int)(x3:ByteArray)(s1:(List g_api_Item)):Option ((List g_api_Item)):=Ab (JA x3) fun x4=>Ab (app 56 s1 ([x4]:List g_api_Item)) fun x5=>some x5
def Cb (a0:List ByteArray):Option g_api_Item:=Ab (Ab (DA Cj a0 0 ([]:List g_api_Item)) fun x2=>some x2) fun x1=>Ab (GO x1) fun x6=>some x6
theorem H3 {a0 r}(hm:Cb a0=some r):Sf prog 239 [sl eS a0,.fn (.func 237) [] []] (ag (Aq r)):=by
 refine sq ?_;intros;unfold Cb at hm;obtain⟨x1,q1,hm⟩:=Ad hm;refine oB q1 fun x2 q2 q1=>Wd 0 Aq 5 3<|J6 0 (E:=eS) (xs:=a0) 8 fun hle1=>gF (E0 _ _ _) q2 (fun p0 p=>⟨[(1,.fn (.func 237) [] []),(4,.pb 0 0),(5,.ow 1),(8,sl eS a0),(9,.d (.i (a0.length:Int))),(10,.d (.i p0))],[(0,.row 1 3 _ Aq p),(1,.box 0 [.d (.i 0),sl eB [],sl Aq []] 192)],[],2⟩) fun i1 s1 Jl bl1=>c0 bl1 (fun x3 y1 q6 q5 bl1=> ?_) fun e=> ?_
 ·exact gx eS 1 q6<|gA q5 Pn fun x4 q7 q5=>gq Aq 3 [x4]<|oB q5 fun x5 q8 q5=>gp Aq 3 q8<|gM bl1 hle1 q5
 subst e;obtain rfl:=Aih q1;let x1:=x2;refine gD hm JJ fun x6 q9 hm=> ?_;obtain rfl:=Aih hm;exact gE
def Lb (a0:g_api_Cert):Option g_api_Item:=Ab (FY a0.Serial) fun x1=>Ab (JA a0.Issuer) fun x2=>Ab (JA a0.Subject) fun x3=>Ab (Fg a0.Key) fun x4=>Ab (Cb a0.Names) fun x5=>Ab (FY a0.From) fun x6=>Ab (FY a0.Until) fun x7=>Ab (PN a0.Ca) fun x8=>Ab (FY a0.Depth) fun x9=>Ab (Cb a0.Permit) fun x10=>Ab (GO ([x1,x2,x3,x4,x5,x6,x7,x8,x9,x10]:List g_api_Item)) fun x11=>some x11
theorem SS {a0 r}(hm:Lb a0=some r):Sf prog 152 [ag (Af a0)] (ag (Aq r)):=by
 refine sq ?_;intros;refine gA hm JK fun x1 q1 hm=>gA hm Pn fun x2 q2 hm=>gA hm Pn fun x3 q3 hm=>gA hm H8 fun x4 q4 hm=>gA hm H3 fun x5 q5 hm=>gA hm JK fun x6 q6 hm=>gA hm JK fun x7 q7 hm=>gA hm Zf fun x8 q8 hm=>gA hm JK fun x9 q9 hm=> ?_;refine gA hm H3 fun x10 q10 hm=>gq Aq 3 [x1,x2,x3,x4,x5,x6,x7,x8,x9,x10]<|gA hm JJ fun x11 q11 hm=> ?_;exact Aih hm▸gE
def Jw (a0:g_api_Promise):Option g_api_Item:=Ab (FY a0.Log) fun x1=>Ab (FY a0.At) fun x2=>Ab (Fg a0.Leaf.1) fun x3=>Ab (Fg a0.Leaf.2) fun x4=>Ab (Fg a0.Sig.E) fun x5=>Ab (Fg a0.Sig.S) fun x6=>Ab (GO ([x1,x2,x3,x4,x5,x6]:List g_api_Item)) fun x7=>some x7
theorem T5 {a0 r}(hm:Jw a0=some r):Sf prog 308 [ag (Ae a0)] (ag (Aq r)):=by
 refine sq ?_;intros;refine gA hm JK fun x1 q1 hm=>gA hm JK fun x2 q2 hm=>gA hm H8 fun x3 q3 hm=>gA hm H8 fun x4 q4 hm=>gA hm H8 fun x5 q5 hm=>gA hm H8 fun x6 q6 hm=>gq Aq 3 [x1,x2,x3,x4,x5,x6]<|gA hm JJ fun x7 q7 hm=> ?_;exact Aih hm▸gE
def Bz (i1:Int)(x3:g_api_Promise)(s1:(List g_api_Item)):Option ((List g_api_Item)):=Ab (Jw x3) fun x4=>Ab (app 56 s1 ([x4]:List g_api_Item)) fun x5=>some x5
def BW (a0:List g_api_Promise):Option g_api_Item:=Ab (Ab (DA Bz a0 0 ([]:List g_api_Item)) fun x2=>some x2) fun x1=>Ab (GO x1) fun x6=>some x6
theorem JL {a0 r}(hm:BW a0=some r):Sf prog 307 [sl Ae a0,.fn (.func 308) [] []] (ag (Aq r)):=by
 refine sq ?_;intros;unfold BW at hm;obtain⟨x1,q1,hm⟩:=Ad hm;refine oB q1 fun x2 q2 q1=>Wd 0 Aq 5 3<|J6 0 (E:=Ae) (xs:=a0) 8 fun hle1=>gF (E0 _ _ _) q2 (fun p0 p=>⟨[(1,.fn (.func 308) [] []),(4,.pb 0 0),(5,.ow 1),(8,sl Ae a0),(9,.d (.i (a0.length:Int))),(10,.d (.i p0))],[(0,.row 1 3 _ Aq p),(1,.box 0 [.d (.i 0),sl eB [],sl Aq []] 192)],[],2⟩) fun i1 s1 Jl bl1=>c0 bl1 (fun x3 y1 q6 q5 bl1=> ?_) fun e=> ?_
 ·exact gx Ae 6 q6<|gA q5 T5 fun x4 q7 q5=>gq Aq 3 [x4]<|oB q5 fun x5 q8 q5=>gp Aq 3 q8<|gM bl1 hle1 q5
 subst e;obtain rfl:=Aih q1;let x1:=x2;refine gD hm JJ fun x6 q9 hm=> ?_;obtain rfl:=Aih hm;exact gE
def J1 (a0:g_api_Cert):Option g_api_Item:=Ab (Lb a0) fun x1=>Ab (BW a0.Proms) fun x2=>Ab (GO ([x1,x2]:List g_api_Item)) fun x3=>some x3
theorem Ra {a0 r}(hm:J1 a0=some r):Sf prog 250 [ag (Af a0)] (ag (Aq r)):=by
 refine sq ?_;intros;refine gA hm SS fun x1 q1 hm=>gA hm JL fun x2 q2 hm=>gq Aq 3 [x1,x2]<|gA hm JJ fun x3 q3 hm=> ?_;exact Aih hm▸gE
def Kw (a0:g_api_Cert):Option g_api_Item:=Ab (J1 a0) fun x1=>Ab (Fg a0.Sig.E) fun x2=>Ab (Fg a0.Sig.S) fun x3=>Ab (GO ([x2,x3]:List g_api_Item)) fun x4=>Ab (GO ([x1,x4]:List g_api_Item)) fun x5=>some x5
theorem VA {a0 r}(hm:Kw a0=some r):Sf prog 210 [ag (Af a0)] (ag (Aq r)):=by
 refine sq ?_;intros;refine gA hm Ra fun x1 q1 hm=>gA hm H8 fun x2 q2 hm=>gA hm H8 fun x3 q3 hm=>gq Aq 3 [x2,x3]<|gA hm JJ fun x4 q4 hm=>gq Aq 3 [x1,x4]<|gA hm JJ fun x5 q5 hm=> ?_;exact Aih hm▸gE
def CM (a0:g_api_Cert):Option Int:=Ab (Jv a0) fun x1=>if(!x1)=true then some 1 else Ab (Kw a0) fun x2=>Ab (JX x2) fun x3=>if((x3.2 !=0)||(decide ((x3.1.length:Int)>2048)))=true then some 2 else some 0
theorem FM {a0 r}(hm:CM a0=some r):Sf prog 130 [ag (Af a0)] (.d (.i r)):=by
 refine sq ?_;intros;refine gA hm T4 fun x1 q1 hm=>gi hm ?_ ?_<;>intro hc1 hm
 ·exact Aih hm▸gE
 refine gA hm VA fun x2 q2 hm=>gD hm Q6 fun x3 q3 hm=>gi hm ?_ ?_<;>intro hc2 hm
 ·exact Aih hm▸gE
 exact Aih hm▸gE
def A1 (a1:Int):Option (List g_api_Cert):=Ab (if(decide (a1<0))=true then none else some ()) fun x1=>Ab (bnd ((w64 (a1-(w64 (0-((0:Nat):Int)))))) fun x3=>if(decide (x3>0))=true then if 0≤x3∧x3*168≤140737488355328∧x3≤140737488355328 then some ([]:List g_api_Cert)else none else some ([]:List g_api_Cert)) fun x2=>some x2
theorem G1 {m As w a1 r}(S:St m (As) w)(hm:A1 a1=some r):
  AK Tryz.prog 228 #[.slice none 0 0,vI a1] w fun v w'=> ∃(M:Mem),m≤M∧∃(rv0:Value) (rc0:List Value),St M ((row 13 rv0 rc0 r.length)::As) w'∧v=rv0∧AH M rc0 r:=by
 unfold A1 at hm;have L0:=Mem.rfl' m;refine Dp (args:=[.slice none 0 0,vI a1]) Tryz.func228 rfl Tryz.ntmps228 (Ail rfl)<|Ag<|Ac<|AD (v:= .slice none 0 0) rfl<|Ah<|nrm ?_;obtain⟨x1,q1,hm⟩:=Ad hm;have L1:=Mem.rfl' m;refine Ag<|Bq [5,6,7] (fun f' w'=> ∃(M1:Mem),m≤M1∧St M1 (As) w'∧C5 f' []) ?_ ?_
 ·refine Ag<|Ac<|An (v:=vI a1) rfl<|KG (m:=a1) (n:=0) rfl rfl<|Ah<|nrm<|BK (t:=(decide (a1<0))) rfl (fun hc1=> ?_) (fun hc1=> ?_)
  ·replace q1:=ifT hc1 q1;cases q1
  replace q1:=ifF hc1 q1;refine AL<|nrm ?_;obtain rfl:=Aih q1;exact⟨E3,m,L1,S,trivial⟩
 rintro f1 w1 ho ⟨m1,l1,S1,ha⟩;obtain⟨u1,rfl⟩:=Bp (N:=27) ho ha;replace L0:=Mem.tr L0 l1;clear S;obtain⟨x2,q2,hm⟩:=Ad hm;have L2:=Mem.rfl' m1;refine Ag<|Bq [0,1,8,9,10,11,12,13,14,15,16,17,18,19,20,21,22,23,24,25] (fun f' w'=> ∃(M2:Mem) (v1:Value) (c1:List Value),m1≤M2∧St M2 ((row 13 v1 c1 x2.length)::As) w'∧AH M2 c1 x2∧C5 f' [(0,v1)]) ?_ ?_
 ·refine Ag<|Ac<|An (v:=vI a1) rfl<|An (v:= .slice none 0 0) rfl<|Nq rfl Tryz.underlying22<|An (v:= .slice none 0 0) rfl<|Rq (n:=0) rfl Tryz.underlying22<|Ma (m:=0) (n:=((0:Nat):Int)) rfl rfl<|Ma (m:=a1) (n:=(w64 (0-((0:Nat):Int)))) rfl rfl ?_;obtain⟨x3,q3,q2⟩:=Jc q2;refine AD (v:=vI x3) (AiD (fun z=>vI z) q3.symm)<|Ah<|nrm<|Ag<|Ac<|An (v:=vI x3) rfl<|Uj (m:=x3) (n:=0) rfl rfl<|Ah<|nrm ?_;refine BK (t:=(decide (x3>0))) rfl (fun hc2=> ?_) (fun hc2=> ?_)
  ·replace q2:=ifT hc2 q2;refine Ac<|An (v:= .slice none 0 0) rfl<|An (v:= .slice none 0 0) rfl<|Nq rfl Tryz.underlying22<|AaR rfl Tryz.underlying22 Tryz.sizeOf59 rfl<|An (v:=vI x3) rfl ?_;obtain⟨q4,q2⟩:=BC q2;refine AaT (bytes:=168) (sz:=13) (k:=x3) (ti:=Tryz.t59) S1 rfl rfl q4 Tryz.underlying22 Tryz.underlying3 Tryz.type59 rfl rfl rfl rfl ?_;intro v2 c2 w2 S2;replace S2:St _ ((row 13 v2 c2 x3.toNat)::As) _:=S2;clear S1;refine An (v:= .slice none 0 0) rfl<|Rq (n:=0) rfl Tryz.underlying22<|VL (i:=0) S2 rfl rfl Tryz.underlying22 Tryz.sizeOf59 rfl (j:=0) rfl (Int.le_refl 0) (Ai7 _) ?_;intro v3 S3;rw[show c2.take ((0:Int).toNat*13)=[]from by simp]at S3;have h2:AH m1 [] ([]:List g_api_Cert):=AH.nil;replace S3:St _ ((row 13 v3 [] ([]:List g_api_Cert).length)::As) _:=S3;clear S2;refine AD (v:=v3) rfl<|Ah<|nrm ?_;obtain rfl:=Aih q2;exact⟨E3,m1,_,_,L2,S3,h2,⟨rfl,trivial⟩⟩
  replace q2:=ifF hc2 q2;refine AL<|nrm ?_;have S4:=St.rowNil S1 13;have h3:AH m1 [] ([]:List g_api_Cert):=AH.nil;replace S4:St _ ((row 13 (.slice none 0 0) [] ([]:List g_api_Cert).length)::As) _:=S4;clear S1;obtain rfl:=Aih q2;exact⟨E3,m1,_,_,L2,S4,h3,⟨rfl,trivial⟩⟩
 rintro f2 w3 ho ⟨m2,v1,c1,l2,S5,h1,ha⟩;obtain⟨u2,rfl⟩:=Bp (N:=27) ho ha;replace L0:=Mem.tr L0 l2;clear S1;refine Ag<|Ac<|An (v:=v1) rfl<|AD (v:=v1) rfl<|Ah<|nrm<|AX<|Dd ?_;intro we hpd;replace S5:=St.pd S5 hpd;obtain rfl:=Aih hm;exact It [_] rfl ⟨rfl,trivial⟩ ⟨_,L0,_,_,S5,rfl,h1⟩
def Ay (i1:Int)(x3:List g_api_Cert)(s1:Int):Option (Int):=Ab (bnd ((w64 (s1+(x3.length:Int)))) fun x5=>if(decide (x5<0))=true then none else some x5) fun x4=>some x4
def AF (i2:Int)(x9:List g_api_Cert)(s2:(List g_api_Cert)):Option ((List g_api_Cert)):=Ab (app 168 s2 x9) fun x10=>some x10
def AW (a0:List (List g_api_Cert)):Option (List g_api_Cert):=Ab (Ab (DA Ay a0 0 0) fun x2=>some x2) fun x1=>Ab (A1 x1) fun x6=>Ab (Ab (DA AF a0 0 x6) fun x8=>some x8) fun x7=>some x7
theorem Ho {m As w a0}{a0v0:Value}{r}(S:St m (As) w)(a0h0:SlR m a0v0 a0)(hm:AW a0=some r):
  AK Tryz.prog 146 #[a0v0] w fun v w'=> ∃(M:Mem),m≤M∧∃(rv0:Value) (rc0:List Value),St M ((row 13 rv0 rc0 r.length)::As) w'∧v=rv0∧AH M rc0 r:=by
 unfold AW at hm;have L0:=Mem.rfl' m;refine Dp (args:=[a0v0]) Tryz.func146 rfl Tryz.ntmps146 (Ail rfl)<|Ag<|Ac<|AD (v:= .slice none 0 0) rfl<|Ah<|nrm<|Ag<|Ac<|AD (v:=vI 0) rfl ?_;refine Ah<|nrm ?_;obtain⟨x1,q1,hm⟩:=Ad hm;have L1:=Mem.rfl' m;refine Ag<|Bq [3,5,9,10,11,12,13,14,15,16,17,18,19,20,21,22] (fun f' w'=> ∃(M1:Mem),m≤M1∧St M1 (As) w'∧C5 f' [(3,vI x1)]) ?_ ?_
 ·refine Ag<|Ac<|An (v:=a0v0) rfl<|Hu (xs:=a0) rfl a0h0 Tryz.underlying273<|An (v:=vI 0) rfl<|Ah<|nrm ?_;obtain⟨x2,q2,q1⟩:=Ad q1;have L2:=Mem.rfl' m;refine Bq [3,5,11,12,13,14,15,16,17,18,19,20,21,22] (fun f' w'=> ∃(M2:Mem),m≤M2∧St M2 (As) w'∧C5 f' [(3,vI x2)]) ?_ ?_
  ·refine Bg<|DU [3,5,11,12,13,14,15,16,17,18,19,20,21,22] (fun n1 f' w'=> ∃(i1:Nat) (s1:Int) (m3:Mem),n1=a0.length-i1∧i1≤a0.length∧DA Ay (a0.drop i1) (i1:Int) s1=some x2∧m≤m3∧St m3 (As) w'∧C5 f' [(11,vI (i1:Int)),(3,vI s1)]) a0.length ⟨0,0,m,rfl,Ajj _,q2,L2,S,⟨rfl,rfl,trivial⟩⟩ ?_;rintro n1 f1 w1 ho ⟨i1,s1,m1,hn,hi,q3,L4,S1,ha⟩;obtain⟨u1,rfl⟩:=Bp (N:=36) ho ha;clear ho ha;replace a0h0:=a0h0.up L4;have L3:=Mem.rfl' m1;clear S;refine Ag<|Ac<|KG (m:=(i1:Int)) (n:=(a0.length:Int)) rfl rfl<|Ah<|nrm<|Ag<|BK (t:=decide ((i1:Int)<(a0.length:Int))) rfl (fun hc2=> ?_) (fun hc2=> ?_)
   ·have hlt1:i1<a0.length:=by have:=AiO hc2; omega
    obtain⟨x3,y1,q6,q5,q4⟩:=KA q3 hlt1;unfold Ay at q5;refine AL<|nrm ?_;obtain⟨x4,q7,q5⟩:=Ad q5;have L5:=Mem.rfl' m1;refine Ag<|Bq [3,5,13,14,15,16,17,18,19,20,21] (fun f' w'=> ∃(M3:Mem),m1≤M3∧St M3 (As) w'∧C5 f' [(3,vI x4)]) ?_ ?_
    ·refine Bg<|Ag<|Ac<|Su (q:=x3) rfl rfl a0h0 q6 Tryz.underlying273 Tryz.sizeOf22 ?_;intro p1 c1 h1 r1;obtain⟨v1,rfl,h2⟩:=r1;refine Ss (cs:=[v1]) S1 rfl h1 rfl Tryz.isAgg22 Tryz.sizeOf22 (fun _=>rfl)<|AD (v:=v1) rfl<|Ah<|nrm<|Ag<|Ac<|An (v:=vI s1) rfl<|An (v:=v1) rfl<|Hu (xs:=x3) rfl h2 Tryz.underlying22 ?_;refine Gx (m:=s1) (n:=(x3.length:Int)) rfl rfl ?_;obtain⟨x5,q8,q7⟩:=Jc q7;refine AD (v:=vI x5) (AiD (fun z=>vI z) q8.symm)<|Ah<|nrm<|Ag<|Ac<|An (v:=vI x5) rfl<|KG (m:=x5) (n:=0) rfl rfl<|Ah<|nrm ?_;refine BK (t:=(decide (x5<0))) rfl (fun hc1=> ?_) (fun hc1=> ?_)
     ·replace q7:=ifT hc1 q7;cases q7
     replace q7:=ifF hc1 q7;refine AL<|VW<|nrm ?_;obtain rfl:=Aih q7;exact⟨E3,m1,L5,S1,⟨rfl,trivial⟩⟩
    rintro f2 w2 ho ⟨m2,l1,S2,ha⟩;obtain⟨u2,rfl⟩:=Bp (N:=36) ho ha;replace a0h0:=a0h0.up l1;replace L3:=Mem.tr L3 l1;clear S1;refine Ac<|Gx (m:=(i1:Int)) (n:=1) rfl rfl<|An (v:=vI (w64 ((i1:Int)+1))) rfl<|Ah<|nrm ?_;obtain rfl:=Aih q5;exact⟨E3,_,(by omega),⟨i1+1,x4,m2,rfl,hlt1,q4,Mem.tr L4 L3,S2,⟨AiD (Value.int .i64) (Is hlt1 (SlR.le a0h0)),rfl,trivial⟩⟩⟩
   have hlt1: ¬i1<a0.length:=by have:=Ajc hc2; omega
   have e:=Eq.symm (IU q3 hlt1);subst e;exact Gc<|thE<|thE<|exB<|nrm<|⟨E3,m1,Mem.tr L4 L3,S1,⟨rfl,trivial⟩⟩
  rintro f3 w3 ho ⟨m4,l2,S3,ha⟩;obtain⟨u3,rfl⟩:=Bp (N:=36) ho ha;clear ho ha;replace a0h0:=a0h0.up l2;replace L1:=Mem.tr L1 l2;clear S;obtain rfl:=Aih q1;exact⟨E3,m4,L1,S3,⟨rfl,trivial⟩⟩
 rintro f4 w4 ho ⟨m5,l3,S4,ha⟩;obtain⟨u4,rfl⟩:=Bp (N:=36) ho ha;replace a0h0:=a0h0.up l3;replace L0:=Mem.tr L0 l3;clear S;refine Ag<|Ac<|An (v:=vI x1) rfl ?_;obtain⟨x6,q9,hm⟩:=Ad hm;refine GH Tryz.call228 (G1 (a1:=x1) S4 q9) rfl ?_;rintro v2 w5 ⟨m6,l4,_,c2,S5,rfl,h3⟩;replace a0h0:=a0h0.up l4;replace L0:=Mem.tr L0 l4;clear S4;replace S5:St _ ((row 13 v2 c2 x6.length)::As) _:=S5;refine AD (v:=v2) rfl<|Ah<|nrm ?_;obtain⟨x7,q10,hm⟩:=Ad hm;have L6:=Mem.rfl' m6;refine Ag<|Bq [6,8,25,26,27,28,29,30,31,32,33,34] (fun f' w'=> ∃(M4:Mem) (v3:Value) (c3:List Value),m6≤M4∧St M4 ((row 13 v3 c3 x7.length)::As) w'∧AH M4 c3 x7∧C5 f' [(6,v3)]) ?_ ?_
 ·refine Ag<|Ac<|An (v:=a0v0) rfl<|Hu (xs:=a0) rfl a0h0 Tryz.underlying273<|An (v:=vI 0) rfl<|Ah<|nrm ?_;obtain⟨x8,q11,q10⟩:=Ad q10;have L7:=Mem.rfl' m6;refine Bq [6,8,27,28,29,30,31,32,33,34] (fun f' w'=> ∃(M5:Mem) (v5:Value) (c5:List Value),m6≤M5∧St M5 ((row 13 v5 c5 x8.length)::As) w'∧AH M5 c5 x8∧C5 f' [(6,v5)]) ?_ ?_
  ·refine Bg<|DU [6,8,27,28,29,30,31,32,33,34] (fun n2 f' w'=> ∃(i2:Nat) (s2:(List g_api_Cert)) (m8:Mem) (v4:Value) (c4:List Value),n2=a0.length-i2∧i2≤a0.length∧DA AF (a0.drop i2) (i2:Int) s2=some x8∧m6≤m8∧St m8 ((row 13 v4 c4 s2.length)::As) w'∧AH m8 c4 s2∧C5 f' [(27,vI (i2:Int)),(6,v4)]) a0.length ⟨0,x6,m6,_,_,rfl,Ajj _,q11,L7,S5,h3,⟨rfl,rfl,trivial⟩⟩ ?_;rintro n2 f5 w6 ho ⟨i2,s2,m7,v4,c4,hn,hi,q12,L9,S6,h5,ha⟩;obtain⟨u5,rfl⟩:=Bp (N:=36) ho ha;clear ho ha;replace a0h0:=a0h0.up L9;have L8:=Mem.rfl' m7;clear S5;refine Ag<|Ac<|KG (m:=(i2:Int)) (n:=(a0.length:Int)) rfl rfl<|Ah<|nrm<|Ag<|BK (t:=decide ((i2:Int)<(a0.length:Int))) rfl (fun hc3=> ?_) (fun hc3=> ?_)
   ·have hlt2:i2<a0.length:=by have:=AiO hc3; omega
    obtain⟨x9,y2,q15,q14,q13⟩:=KA q12 hlt2;unfold AF at q14;refine AL<|nrm<|Ag<|Bg<|Ag<|Ac<|Su (q:=x9) rfl rfl a0h0 q15 Tryz.underlying273 Tryz.sizeOf22 ?_;intro p2 c6 h7 r6;obtain⟨v6,rfl,h8⟩:=r6;refine Ss (cs:=[v6]) S6 rfl h7 rfl Tryz.isAgg22 Tryz.sizeOf22 (fun _=>rfl)<|AD (v:=v6) rfl<|Ah<|nrm<|Ac<|An (v:=v4) rfl<|An (v:=v6) rfl ?_;obtain⟨x10,q16,q14⟩:=Ad q14;refine Ml (i:=0) (zs:=x10) (bytes:=168) (ti:=Tryz.t59) S6 rfl rfl h5 rfl rfl h8 q16 Tryz.underlying22 Tryz.type59 rfl rfl rfl rfl ?_;intro v7 c7 w7 S7 h9;replace S7:St _ ((row 13 v7 c7 x10.length)::As) _:=S7;clear S6;refine AD (v:=v7) rfl<|Ah<|VW<|nrm<|Ac<|Gx (m:=(i2:Int)) (n:=1) rfl rfl<|An (v:=vI (w64 ((i2:Int)+1))) rfl<|Ah<|nrm ?_;obtain rfl:=Aih q14;exact⟨E3,_,(by omega),⟨i2+1,x10,m7,_,_,rfl,hlt2,q13,Mem.tr L9 L8,S7,h9,⟨AiD (Value.int .i64) (Is hlt2 (SlR.le a0h0)),rfl,trivial⟩⟩⟩
   have hlt2: ¬i2<a0.length:=by have:=Ajc hc3; omega
   have e:=Eq.symm (IU q12 hlt2);subst e;exact Gc<|thE<|thE<|exB<|nrm<|⟨E3,m7,_,_,Mem.tr L9 L8,S6,h5,⟨rfl,trivial⟩⟩
  rintro f6 w8 ho ⟨m9,v5,c5,l5,S8,h6,ha⟩;obtain⟨u6,rfl⟩:=Bp (N:=36) ho ha;clear ho ha;replace L6:=Mem.tr L6 l5;clear S5;obtain rfl:=Aih q10;exact⟨E3,m9,_,_,L6,S8,h6,⟨rfl,trivial⟩⟩
 rintro f7 w9 ho ⟨m10,v3,c3,l6,S9,h4,ha⟩;obtain⟨u7,rfl⟩:=Bp (N:=36) ho ha;replace L0:=Mem.tr L0 l6;clear S5;refine Ag<|Ac<|An (v:=v3) rfl<|AD (v:=v3) rfl<|Ah<|nrm<|AX<|Dd ?_;intro we hpd;replace S9:=St.pd S9 hpd;obtain rfl:=Aih hm;exact It [_] rfl ⟨rfl,trivial⟩ ⟨_,L0,_,_,S9,rfl,h4⟩
theorem Hs {a0 r}(hm:AW a0=some r):Sp prog 146 [sl (eL Af) a0] [] 0 (is (.ow 0) [.row 0 13 _ Af r] 1):=
 ⟨call146,fun η m As w vs hv0 hd S=>by
  have S:St m As w:=S;obtain⟨v0,u0,rfl,r0,hv1⟩:=Bf.cons_inv hv0;have f0:=Br.ofS (Br.sl JE) r0.dd;obtain rfl:=Bf.nil_inv hv1;refine AK.mono (Ho S f0 hm) ?_;rintro v w' ⟨M,hle,y0,c0,S0,rfl,h0⟩;exact⟨M,(Xu [v]),_,_,_,hle,Wp hd _,⟨rfl,rfl,rfl⟩,FD rfl,(.ow rfl (B1 S0)),(St.impL S0 (Sq (Br.toR JE rfl rfl (B1 S0) h0) fun _ h=>h))⟩⟩
def EP (i1:Int)(x3:g_api_Cert)(s1:Unit):Option ((Unit)⊕Int):=Ab (CM x3) fun x4=>if(x4 !=0)=true then some (.inr x4)else some (.inl ())
def GW (a0:g_path_trip):Option Int:=Ab (AW ([a0.chain_,a0.roots_]:List (List g_api_Cert))) fun x1=>Ab (EZ EP x1 0 ()) fun x2=>match x2 with| .inr r=>some r| .inl y1=>some 0
theorem Qq {a0 r}(hm:GW a0=some r):Sf prog 73 [ag (E1 a0)] (.d (.i r)):=by
 refine sq ?_;intros;refine gq (eL Af) 1 [a0.chain_,a0.roots_]<|gD hm Hs fun x1 q1 hm=>oB hm fun x2 q2 hm=>J6 0 (E:=Af) (xs:=x1) 11 fun hle1=>gF (ER _ _ _) q2 (fun p0 _=>⟨[(11,sl Af x1),(12,.d (.i (x1.length:Int))),(13,.d (.i p0)),(1,.pb 0 0)],[(0,.box 0 [sl Af a0.roots_,sl Af a0.chain_,.d (.s a0.name_),.d (.i a0.now_)] 124)],[],1⟩) fun i1 s1 Jl bl1=>cR bl1 (fun x3 y2 q6 q5 bl1=> ?_) fun e=> ?_
 ·refine gx Af 13 q6<|gA q5 FM fun x4 q7 q5=>gi q5 ?_ ?_<;>intro hc1 q5
  ·obtain rfl:=nT bl1 q5;exact Aih hm▸gE
  exact gT bl1 hle1 q5
 subst e;exact Aih hm▸gE
def Fw (a0:g_path_trip)(a1:g_api_Cert):Option Bool:=bnd (((decide (a1.From≤a0.now_))&&(decide (a1.Until>a0.now_)))) fun x1=>some x1
theorem Kf {a0 a1 r}(hm:Fw a0 a1=some r):Sf prog 147 [ag (E1 a0),ag (Af a1)] (.d (.t r)):=by
 refine sq ?_;intros;refine bE hm ?_;intro x1 hm;obtain rfl:=Aih hm;exact gE
def BY (a0:List ByteArray)(a1:ByteArray)(i1:Int)(s1:Unit):Option ((Unit)⊕Int):=Ab (idx a0 (i1:Int)) fun x3=>if(eqS a1 x3)=true then some (.inr (i1:Int))else some (.inl ())
def Di (a0:List ByteArray)(a1:ByteArray):Option Int:=Ab (B4 (BY a0 a1) a0.length 0 ()) fun x1=>match x1 with| .inr r=>some r| .inl y1=>some (-1)
theorem Je {a0 a1 r}(hm:Di a0 a1=some r):Sf prog 229 [sl eS a0,.d (.s a1)] (.d (.i r)):=by
 refine sq ?_;intros;refine oB hm fun x1 q1 hm=>J6 0 (E:=eS) (xs:=a0) 6 fun hle1=>gF (EN _ _ _) q1 (fun p0 _=>⟨[(0,sl eS a0),(1,.d (.s a1)),(7,.d (.i (a0.length:Int))),(8,.d (.i p0))],[],[],0⟩) fun i1 s1 Jl bl1=>cN bl1 (a0.length:Int) (fun y2 q4 bl1=> ?_) fun e=> ?_
 ·refine oB q4 fun x3 q6 q4=>gx eS 1 q6<|gi q4 ?_ ?_<;>intro hc1 q4
  ·obtain rfl:=nT bl1 q4;exact Aih hm▸gE
  exact gT bl1 hle1 q4
 subst e;exact Aih hm▸gE
def BZ (a0:List ByteArray)(a1:ByteArray):Option Bool:=Ab (Di a0 a1) fun x1=>some (decide (x1≥0))
theorem H6 {a0 a1 r}(hm:BZ a0 a1=some r):Sf prog 148 [sl eS a0,.d (.s a1)] (.d (.t r)):=by
 refine sq ?_;intros;refine gA hm Je fun x1 q1 hm=> ?_;exact Aih hm▸gE
def CK (a0:g_path_trip)(i1:Int)(s1:Bool):Option ((Bool)⊕Int):=Ab (idx a0.chain_ (i1:Int)) fun x3=>Ab (gu (!s1) (Fw a0 x3)) fun x4=>if(x3.Ca==(decide ((i1:Int)>0)))=true then some (.inl (s1||(!x4)))else some (.inr 191)
def Gi (a0:g_path_trip):Option Int:=Ab (B4 (CK a0) a0.chain_.length 0 false) fun x1=>match x1 with| .inr r=>some r| .inl y1=>Ab (idx a0.chain_ 0) fun x5=>Ab (BZ x5.Names a0.name_) fun x6=>if(!x6)=true then some 110 else if y1=true then some 190 else some 0
theorem Pl {a0 r}(hm:Gi a0=some r):Sf prog 74 [ag (E1 a0)] (.d (.i r)):=by
 refine sq ?_;intros;refine oB hm fun x1 q1 hm=>J6 0 (E:=Af) (xs:=a0.chain_) 7 fun hle1=>gF (EN _ _ _) q1 (fun p0 p=>⟨[(1,.pb 0 0),(3,.d (.t p)),(7,sl Af a0.chain_),(8,.d (.i (a0.chain_.length:Int))),(9,.d (.i p0))],[(0,.box 0 [sl Af a0.roots_,sl Af a0.chain_,.d (.s a0.name_),.d (.i a0.now_)] 124)],[],1⟩) fun i1 s1 Jl bl1=>cN bl1 (a0.chain_.length:Int) (fun y2 q4 bl1=> ?_) fun e=> ?_
 ·refine oB q4 fun x3 q6 q4=>gx Af 13 q6<|oB q4 fun x4 q7 q4=>gcH q7 Kf<|gi q4 ?_ ?_<;>intro hc1 q4
  ·exact gT bl1 hle1 q4
  obtain rfl:=nT bl1 q4;obtain rfl:=Aih hm;exact gE
 subst e;let y1:=s1;refine oB hm fun x5 q8 hm=>gx Af 13 q8<|gA hm H6 fun x6 q9 hm=>gi hm ?_ ?_<;>intro hc3 hm
 ·obtain rfl:=Aih hm;exact gE
 refine gi hm ?_ ?_<;>intro hc4 hm
 ·obtain rfl:=Aih hm;exact gE
 obtain rfl:=Aih hm;exact gE
def Ij (a0:g_api_Cert):Option ((List UInt8)×Int):=Ab (CM a0) fun x1=>if(x1 !=0)=true then some (([]:List UInt8),x1)else Ab (J1 a0) fun x2=>Ab (JX x2) fun x3=>some (x3.1,x3.2)
theorem Py {a0 r}(hm:Ij a0=some r):Sp prog 151 [ag (Af a0),.fn (.func 250) [] []] [] 0 (is (.tup [.ow 0,.d (.i r.2)]) [.row 0 1 _ eB r.1] 1):=by
 refine sq ?_;intros;refine gA hm FM fun x1 q1 hm=>gi hm ?_ ?_<;>intro hc1 hm
 ·refine Ac9 eB 4 1 ?_;exact Aih hm▸gE
 refine gA hm Ra fun x2 q2 hm=>gD hm Q6 fun x3 q3 hm=> ?_;exact Aih hm▸gE
def J2 (a0:g_api_Cert):Option ((List UInt8)×Int):=Ab (Ij a0) fun x1=>some (x1.1,x1.2)
theorem Rc {a0 r}(hm:J2 a0=some r):Sp prog 164 [ag (Af a0)] [] 0 (is (.tup [.ow 0,.d (.i r.2)]) [.row 0 1 _ eB r.1] 1):=by
 refine sq ?_;intros;refine gD hm Py fun x1 q1 hm=> ?_;exact Aih hm▸gE
def IS (a0:UInt64)(a1:UInt64):Option (UInt64×UInt64):=bnd (((a0&&&4294967295)*(a1&&&4294967295))) fun x1=>bnd ((((Fc a0 32)*(a1&&&4294967295))+(Fc x1 32))) fun x2=>bnd (((x2&&&4294967295)+((a0&&&4294967295)*(Fc a1 32)))) fun x3=>bnd (((((Fc a0 32)*(Fc a1 32))+(Fc x2 32))+(Fc x3 32))) fun x4=>some (x4,(a0*a1))
theorem MF {a0 a1 r}(hm:IS a0 a1=some r):Sf prog 304 [.d (.u a0),.d (.u a1)] (.tup [.d (.u r.1),.d (.u r.2)]):=by
 refine sq ?_;intros;refine bE hm ?_;intro x1 hm;refine bE hm ?_;intro x2 hm;refine bE hm ?_;intro x3 hm;refine bE hm ?_;intro x4 hm;obtain rfl:=Aih hm;exact gE
def F8 (a0:UInt64):Option Int:=Ab (if(decide ((a0.toNat:Int)≥4294967296))=true then some ((Fc a0 32),32)else some (a0,0)) fun x1=>Ab (if(decide ((x1.1.toNat:Int)≥65536))=true then some ((Fc x1.1 16),(w64 (x1.2+16)))else some (x1.1,x1.2)) fun x2=>Ab (if(decide ((x2.1.toNat:Int)≥256))=true then some ((Fc x2.1 8),(w64 (x2.2+8)))else some (x2.1,x2.2)) fun x3=>Ab (idx str_0.data.toList ((toB (x3.1.toNat:Int)).toNat:Int)) fun x4=>bnd ((w64 (x3.2+(w64 (x4.toNat:Int))))) fun x5=>some x5
theorem MH {a0 r}(hm:F8 a0=some r):Sf prog 244 [.d (.u a0)] (.d (.i r)):=by
 refine sq fun D0 As η0 m0 hd=>oB hm fun x1 q1 hm=>gj (fun(_:Unit)=>let (y_0,y_1):=x1; ⟨[(0,.d (.u y_0)),(2,.d (.i y_1))],[],[],0⟩) (fun _=>True) (fun Jp bk1=> ?_) fun _ _=> ?_
 ·refine gi q1 ?_ ?_<;>intro hc1 q1
  ·obtain rfl:=Aih q1;exact gb bk1 hd () trivial
  obtain rfl:=Aih q1;exact gb bk1 hd () trivial
 refine oB hm fun x2 q2 hm=>gj (fun(_:Unit)=>let (y_0,y_1):=x2; ⟨[(0,.d (.u y_0)),(2,.d (.i y_1))],[],[],0⟩) (fun _=>True) (fun Jp bk2=> ?_) fun _ _=> ?_
 ·refine gi q2 ?_ ?_<;>intro hc2 q2
  ·obtain rfl:=Aih q2;exact gb bk2 hd () trivial
  obtain rfl:=Aih q2;exact gb bk2 hd () trivial
 refine oB hm fun x3 q3 hm=>gj (fun(_:Unit)=>let (y_0,y_1):=x3; ⟨[(0,.d (.u y_0)),(2,.d (.i y_1))],[],[],0⟩) (fun _=>True) (fun Jp bk3=> ?_) fun _ _=> ?_
 ·refine gi q3 ?_ ?_<;>intro hc3 q3
  ·obtain rfl:=Aih q3;exact gb bk3 hd () trivial
  obtain rfl:=Aih q3;exact gb bk3 hd () trivial
 refine oB hm fun x4 q4 hm=>Ahz (fun _=>q4)<|bE hm ?_;intro x5 hm;obtain rfl:=Aih hm;exact gE
def C1 (a0:UInt64):Option Int:=Ab (F8 a0) fun x1=>some (w64 (64-x1))
theorem MI {a0 r}(hm:C1 a0=some r):Sf prog 359 [.d (.u a0)] (.d (.i r)):=by
 refine sq ?_;intros;refine gA hm MH fun x1 q1 hm=> ?_;exact Aih hm▸gE
def Ga (x4:UInt64)(x5:UInt64)(x7:UInt64)(s1:UInt64×UInt64):Option ((UInt64×UInt64)⊕(UInt64)):=if((decide ((s1.1.toNat:Int)≥4294967296))||(decide (((s1.1*x5).toNat:Int)>(((4294967296*s1.2)+x7).toNat:Int))))=true then if(decide (((s1.2+x4).toNat:Int)≥4294967296))=true then some (.inr (s1.1-1))else some (.inl ((s1.1-1),(s1.2+x4)))else some (.inr s1.1)
def F9 (x4:UInt64)(x5:UInt64)(x8:UInt64)(s2:UInt64×UInt64):Option ((UInt64×UInt64)⊕(UInt64)):=if((decide ((s2.2.toNat:Int)≥4294967296))||(decide (((s2.2*x5).toNat:Int)>(((4294967296*s2.1)+x8).toNat:Int))))=true then if(decide (((s2.1+x4).toNat:Int)≥4294967296))=true then some (.inr (s2.2-1))else some (.inl ((s2.1+x4),(s2.2-1)))else some (.inr s2.2)
def IT (a0:UInt64)(a1:UInt64)(a2:UInt64):Option (UInt64×UInt64):=Ab (if((a2.toNat:Int)==0)=true then none else some ()) fun x1=>Ab (if(decide ((a2.toNat:Int)≤(a0.toNat:Int)))=true then none else some ()) fun x2=>if((a0.toNat:Int)==0)=true then if a2≠0 then if a2≠0 then some ((a1/a2),(a1%a2))else none else none else Ab (C1 a2) fun x3=>bnd ((Fc (Mo a2 ((toU x3).toNat)) 32)) fun x4=>bnd (((Mo a2 ((toU x3).toNat))&&&4294967295)) fun x5=>bnd (((Mo a0 ((toU x3).toNat))|||(Fc a1 ((64-(toU x3)).toNat)))) fun x6=>bnd ((Fc (Mo a1 ((toU x3).toNat)) 32)) fun x7=>bnd (((Mo a1 ((toU x3).toNat))&&&4294967295)) fun x8=>if x4≠0 then Ab (Ab (iter (Ga x4 x5 x7) Ey ((x6/x4),(x6-((x6/x4)*x4)))) fun x10=>some x10) fun x9=>bnd ((((x6*4294967296)+x7)-(x9*(Mo a2 ((toU x3).toNat))))) fun x12=>if x4≠0 then Ab (Ab (iter (F9 x4 x5 x8) Ey ((x12-((x12/x4)*x4)),(x12/x4))) fun x14=>some x14) fun x13=>bnd ((Fc (((x12*4294967296)+x8)-(x13*(Mo a2 ((toU x3).toNat)))) ((toU x3).toNat))) fun x16=>some (((x9*4294967296)+x13),x16)else none else none
theorem P3 {a0 a1 a2 r}(hm:IT a0 a1 a2=some r):Sf prog 306 [.d (.u a0),.d (.u a1),.d (.u a2)] (.tup [.d (.u r.1),.d (.u r.2)]):=by
 refine sq fun D0 As η0 m0 hd=>oB hm fun x1 q1 hm=>gi q1 (fun hc1 q1=> ?_) fun hc1 q1=> ?_
 ·cases q1
 obtain rfl:=Aih q1;refine oB hm fun x2 q2 hm=>gi q2 (fun hc2 q2=> ?_) fun hc2 q2=> ?_
 ·cases q2
 obtain rfl:=Aih q2;refine gi hm ?_ ?_<;>intro hc3 hm
 ·obtain⟨q3,hm⟩:=BC hm;refine Ac8 (d:= .u a2) (r:= .u (a1/a2)) (fun h=>q3) ?_;obtain⟨q4,hm⟩:=BC hm;refine Ac8 (d:= .u a2) (r:= .u (a1%a2)) (fun h=>q4) ?_;obtain rfl:=Aih hm;exact gE
 refine gA hm MI fun x3 q5 hm=>bE hm ?_;intro x4 hm;refine bE hm ?_;intro x5 hm;refine bE hm ?_;intro x6 hm;refine bE hm ?_;intro x7 hm;refine bE hm ?_;intro x8 hm;obtain⟨q11,hm⟩:=BC hm;refine Ac8 (d:= .u x4) (r:= .u (x6/x4)) (fun h=>q11) ?_;obtain⟨x9,q12,hm⟩:=Ad hm;refine oB q12 fun x10 q13 q12=>gjU 0 (fun(_:Unit)=>⟨[(2,.d (.u (Mo a2 ((toU x3).toNat)))),(8,.d (.u (toU x3))),(9,.d (.u x4)),(10,.d (.u x5)),(11,.d (.u x6)),(13,.d (.u x7)),(14,.d (.u x8)),(15,.d (.u x10))],[],[],0⟩) (fun _=>True) (fun Jp bk4=> ?_) fun _ _=> ?_
 ·refine gI q13 (fun(p_0,p_1)=>⟨[(2,.d (.u (Mo a2 ((toU x3).toNat)))),(8,.d (.u (toU x3))),(9,.d (.u x4)),(10,.d (.u x5)),(11,.d (.u x6)),(13,.d (.u x7)),(14,.d (.u x8)),(15,.d (.u p_0)),(16,.d (.u p_1))],[],[],0⟩) fun s1 y1 Jl q16 bl1=>gi q16 ?_ ?_<;>intro hc4 q16
  ·refine gi q16 ?_ ?_<;>intro hc5 q16
   ·obtain rfl:=nR bl1 q16;exact gb bk4 hd () trivial
   exact gN bl1 q16
  obtain rfl:=nR bl1 q16;exact gb bk4 hd () trivial
 obtain rfl:=Aih q12;let x9:=x10;refine bE hm ?_;intro x12 hm;obtain⟨q19,hm⟩:=BC hm;refine Ac8 (d:= .u x4) (r:= .u (x12/x4)) (fun h=>q19) ?_;obtain⟨x13,q20,hm⟩:=Ad hm;refine oB q20 fun x14 q21 q20=>gjU 2 (fun(_:Unit)=>⟨[(2,.d (.u (Mo a2 ((toU x3).toNat)))),(8,.d (.u (toU x3))),(14,.d (.u x8)),(15,.d (.u x9)),(17,.d (.u x12)),(18,.d (.u x14))],[],[],0⟩) (fun _=>True) (fun Jp bk6=> ?_) fun _ _=> ?_
 ·refine gI q21 (fun(p_0,p_1)=>⟨[(2,.d (.u (Mo a2 ((toU x3).toNat)))),(8,.d (.u (toU x3))),(9,.d (.u x4)),(10,.d (.u x5)),(14,.d (.u x8)),(15,.d (.u x9)),(16,.d (.u p_0)),(17,.d (.u x12)),(18,.d (.u p_1))],[],[],0⟩) fun s2 y2 Jl q24 bl2=>gi q24 ?_ ?_<;>intro hc6 q24
  ·refine gi q24 ?_ ?_<;>intro hc7 q24
   ·obtain rfl:=nR bl2 q24;exact gb bk6 hd () trivial
   exact gN bl2 q24
  obtain rfl:=nR bl2 q24;exact gb bk6 hd () trivial
 obtain rfl:=Aih q20;let x13:=x14;refine bE hm ?_;intro x16 hm;obtain rfl:=Aih hm;exact gE
def Hd (a0:UInt64)(a1:UInt64)(a2:UInt64):Option UInt64:=if a2≠0 then Ab (IT (a0%a2) a1 a2) fun x1=>some x1.2 else none
theorem P2 {a0 a1 a2 r}(hm:Hd a0 a1 a2=some r):Sf prog 319 [.d (.u a0),.d (.u a1),.d (.u a2)] (.d (.u r)):=by
 refine sq ?_;intros;unfold Hd at hm;obtain⟨q1,hm⟩:=BC hm;refine Ac8 (d:= .u a2) (r:= .u (a0%a2)) (fun h=>q1)<|gA hm P3 fun x1 q2 hm=> ?_;exact Aih hm▸gE
def CX (a0:UInt64)(a1:UInt64)(a2:UInt64):Option UInt64:=Ab (IS a1 a2) fun x1=>Ab (Hd x1.1 x1.2 a0) fun x2=>some x2
theorem Gd {a0 a1 a2 r}(hm:CX a0 a1 a2=some r):Sf prog 260 [.d (.u a0),.d (.u a1),.d (.u a2)] (.d (.u r)):=by
 refine sq ?_;intros;refine gA hm MF fun x1 q1 hm=>gA hm P2 fun x2 q2 hm=> ?_;exact Aih hm▸gE
def Df {σ:Type}(p0:σ→Bool→Option (Bool×σ))(k0:UInt64)(s1:Int×σ):Option ((Int×σ)⊕((σ)⊕(UInt64×σ))):=if(decide (s1.1≥0))=true then if(0:Int)≤s1.1 then Ab (p0 s1.2 (((k0&&&(Mo 1 s1.1.toNat)).toNat:Int) !=0)) fun x4=>if(!x4.1)=true then some (.inr (.inr (k0,x4.2)))else some (.inl ((w64 (s1.1-1)),x4.2))else none else some (.inr (.inl s1.2))
def Ii {σ:Type}(p0:σ→Bool→Option (Bool×σ))(k0:UInt64)(s0:σ):Option (UInt64×σ):=Ab (F8 k0) fun x1=>Ab (iter (Df p0 k0) Ey ((w64 (x1-1)),s0)) fun x2=>match x2 with| .inr r=>some r| .inl y1=>some (k0,y1)
theorem Pq {σ:Type}{p0:σ→Bool→Option (Bool×σ)}{k0 s0 r}(hm:Ii p0 k0 s0=some r)(g:Value)(R:σ→Mem→Ow)(hcb:Z3 prog g (fun x=> [.d (.t x)]) R p0):Sp prog 373 [.ow 0,.pb 1 0] [.hp 0 (.cb g σ R s0),.box 1 [.d (.u k0)] 32] 2 (is (.tup []) [.hp 0 (.cb g σ R r.2),.box 1 [.d (.u r.1)] 32] 2):=by
 refine sq ?_;intros;refine gA hm MH fun x1 q1 hm=>oB hm fun x2 q2 hm=>gI q2 (fun(p_0,p_1)=>⟨[(0,.ow 0),(1,.pb 1 0),(3,.d (.i p_0))],[(0,.box 1 [.d (.u k0)] 32),(1,.hp 0 (.cb g σ R p_1))],[],2⟩) fun s1 y2 Jl q5 bl1=>gi q5 ?_ ?_<;>intro hc1 q5
 ·obtain⟨q7,q5⟩:=BC q5;refine gsh (r:= .u (Mo 1 s1.1.toNat)) (fun h=>q7)<|oB q5 fun x4 q8 q5=>gcb (((k0&&&(Mo 1 s1.1.toNat)).toNat:Int) !=0) hcb q8<|gi q5 ?_ ?_<;>intro hc2 q5
  ·obtain rfl:=nR bl1 q5;obtain rfl:=Aih hm;exact gE
  exact gN bl1 q5
 obtain rfl:=nR bl1 q5;let y1:=s1.2;obtain rfl:=Aih hm;exact gE
def JY (a0:UInt64):Option UInt64:=some a0
theorem Q7 {a0 r}(hm:JY a0=some r):Sp prog 338 [.d (.u a0)] [] 0 (is (.fn (.func 373) [] [.pb 0 0]) [.box 0 [.d (.u r)] 32] 1):=by
 refine sq ?_;intros;exact Aih hm▸gE
def CU (a1:UInt64)(b6:Bool)(s1:UInt64):Option (UInt64):=Ab (CX 2305843009213691579 s1 s1) fun x3=>if b6=true then Ab (CX 2305843009213691579 x3 a1) fun x4=>some x4 else some x3
def ET (a1:UInt64)(a2:UInt64):Option UInt64:=Ab (JY a2) fun x1=>Ab (Ii (fun(s:UInt64) (b0:Bool)=>Ab (CU a1 b0 s) fun y=>some (true,y)) x1 1) fun x2=>some x2.2
theorem NV {a1 a2 r}(hm:ET a1 a2=some r):Sf prog 282 [.fn (.func 260) [.d (.u 2305843009213691579)] [],.d (.u a1),.d (.u a2)] (.d (.u r)):=
 spR call282 func282 rfl ntmps282 rfl fun D0 As η0 m0 hD hd=>by
  unfold ET at hm;refine gD hm Q7 fun x1 q1 hm=>oB hm fun x2 q2 hm=>Od hD (n0:=0) 4 4 [⟨3,3,32,[.d (.u x1)],[.d (.u x2.1)]⟩] (gt:=10) (ps:=[11]) [(3,.pb 0 0),(4,.pb 1 0),(7,.pb 2 0),(10,.fn (.func 373) [] [.pb 3 0])] (fun(y1:UInt64)=> [(0,.box 2 [.d (.u y1)] 32),(1,.box 1 [.d (.u a1)] 32),(2,.box 0 [.fn (.func 260) [.d (.u 2305843009213691579)] []] 248)]) (fun(_:Unit)=> []) (fun x=> [.d (.t x)]) (fun(s1:UInt64) (b6:Bool)=>⟨[(3,.pb 0 0),(4,.pb 1 0),(7,.pb 2 0),(8,.d (.t b6)),(10,.fn (.func 373) [] [.pb 3 0])],[(0,.box 2 [.d (.u s1)] 32),(1,.box 1 [.d (.u a1)] 32),(2,.box 0 [.fn (.func 260) [.d (.u 2305843009213691579)] []] 248)],[],4⟩) (pN fun x s=>CU a1 x s) 1 hd (via Sum.inl hyN rfl fun g R h=>Pq q2 g R h) rfl (fun _=>rfl) (fun _=>rfl) (fun _=>rfl) (fun _=>rfl) ?_ ?_ ?_ ?_
  ·intro s1 b6 s' hp l D0 As η0 m0 hd Ja ba;exact gb ba hd () trivial
  ·intro s1 b6 s' hp l D0 As η0 m0 hd Jb bb Jr br;obtain⟨z1,q3,hp⟩:=Aiv.1 hp;subst hp;unfold CU at q3;refine gA q3 Gd fun x3 q4 q3=>gi q3 ?_ ?_<;>intro hc1 q3
   ·refine gA q3 Gd fun x4 q5 q3=> ?_;obtain rfl:=Aih q3;exact gb bb hd x4 rfl
   obtain rfl:=Aih q3;exact gb bb hd x3 rfl
  ·intro x hx;have hx:=Sum.inl.inj hx;subst hx;exact Aih hm▸gE
  intro y hy;cases hy
def EF (a0:UInt64)(a1:UInt64):Option UInt64:=Ab (ET a0 a1) fun x1=>some x1
theorem Mx {a0 a1 r}(hm:EF a0 a1=some r):Sf prog 213 [.d (.u a0),.d (.u a1)] (.d (.u r)):=by
 refine sq ?_;intros;refine gA hm NV fun x1 q1 hm=> ?_;exact Aih hm▸gE
def F0 (a0:UInt64):Option Bool:=Ab (gu ((decide ((a0.toNat:Int)>0))&&(decide ((a0.toNat:Int)<2305843009213691579))) (EF a0 1152921504606845789)) fun x1=>bnd ((((decide ((a0.toNat:Int)>0))&&(decide ((a0.toNat:Int)<2305843009213691579)))&&((x1.toNat:Int)==1))) fun x2=>some x2
theorem NW {a0 r}(hm:F0 a0=some r):Sf prog 133 [.d (.u a0)] (.d (.t r)):=by
 refine sq ?_;intros;refine oB hm fun x1 q1 hm=>gcH q1 Mx<|bE hm ?_;intro x2 hm;obtain rfl:=Aih hm;exact gE
def EU (a0:UInt64):Option UInt64:=Ab (EF 4 a0) fun x1=>some x1
theorem Lt {a0 r}(hm:EU a0=some r):Sf prog 162 [.d (.u a0)] (.d (.u r)):=by
 refine sq ?_;intros;refine gA hm Mx fun x1 q1 hm=> ?_;exact Aih hm▸gE
def Js (a1:UInt64)(s1:(List UInt8)×Int):Option (((List UInt8)×Int)⊕((List UInt8))):=if(decide (s1.2≥0))=true then if(0:Int)≤(w64 (8*s1.2))then Ab (app 1 s1.1 ([(toB ((Fc a1 ((w64 (8*s1.2)).toNat)).toNat:Int))]:List UInt8)) fun x4=>some (.inl (x4,(w64 (s1.2-1))))else none else some (.inr s1.1)
def Gr (a0:List UInt8)(a1:UInt64)(a2:Int):Option (List UInt8):=Ab (Ab (iter (Js a1) Ey (a0,(w64 (a2-1)))) fun x2=>some x2) fun x1=>some x1
theorem SQ {a0 a1 a2 r}(hm:Gr a0 a1 a2=some r):Sp prog 241 [.ow 0,.d (.u a1),.d (.i a2)] [.row 0 1 _ eB a0] 1 (is (.ow 1) [.row 1 1 _ eB r] 2):=by
 refine sq ?_;intros;unfold Gr at hm;obtain⟨x1,q1,hm⟩:=Ad hm;refine oB q1 fun x2 q2 q1=>gI q2 (fun(p_0,p_1)=>⟨[(0,.ow 1),(1,.d (.u a1)),(2,.d (.i p_1))],[(0,.row 1 1 _ eB p_0)],[],2⟩) fun s1 y1 Jl q5 bl1=>gi q5 ?_ ?_<;>intro hc1 q5
 ·obtain⟨q7,q5⟩:=BC q5;exact gsh (r:= .u (Fc a1 ((w64 (8*s1.2)).toNat))) (fun h=>q7)<|gq eB 1 [(toB ((Fc a1 ((w64 (8*s1.2)).toNat)).toNat:Int))]<|oB q5 fun x4 q8 q5=>gp eB 1 q8<|gN bl1 q5
 obtain rfl:=nR bl1 q5;let x2:=s1.1;obtain rfl:=Aih q1;let x1:=x2;obtain rfl:=Aih hm;exact gE
end Go.Proofs.YtnhdojckpcbjeaaGreatDoor
