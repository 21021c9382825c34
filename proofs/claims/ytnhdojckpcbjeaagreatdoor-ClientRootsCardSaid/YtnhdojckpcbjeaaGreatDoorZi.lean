/- The walks of some functions, by the executor, written by program. Conditions: none. -/
import Derived.Test.YtnhdojckpcbjeaaGreatDoorZh
set_option linter.unusedSimpArgs false
set_option linter.unusedVariables false
set_option maxHeartbeats 20000000
set_option maxRecDepth 100000
namespace Go.Proofs.YtnhdojckpcbjeaaGreatDoor
open Go Go.Gw Go.Ax Tryz
attribute [local irreducible] Go.Ax.Go
def HC (a0:List UInt8):Option Bool:=Ab (gu ((a0.length:Int)==1) (idx a0 0)) fun x1=>Ab (gu (((a0.length:Int)==1)&&(!((x1.toNat:Int)==0))) (idx a0 0)) fun x2=>bnd ((((a0.length:Int)==1)&&(((x1.toNat:Int)==0)||((x2.toNat:Int)==255)))) fun x3=>some x3
theorem TR {a0 r}(hm:HC a0=some r):Sf prog 428 [sl eB a0] (.d (.t r)):=by
 refine sq ?_;intros;refine oB hm fun x1 q1 hm=>gxG eB 1 q1<|oB hm fun x2 q2 hm=>gxG eB 1 q2<|bE hm ?_;intro x3 hm;obtain rfl:=Aid hm;exact gE
def JO (a0:List UInt8):Option Bool:=if((a0.length:Int)==0)=true then some false else if((a0.length:Int)==1)=true then some true else Ab (idx a0 1) fun x1=>Ab (gu (decide ((a0.length:Int)≤8)) (idx a0 0)) fun x2=>bnd (((decide ((a0.length:Int)≤8))&&((x2.toNat:Int) !=((toB (-((shrB x1 7).toNat:Int))).toNat:Int)))) fun x3=>some x3
theorem QZ {a0 r}(hm:JO a0=some r):Sf prog 299 [sl eB a0] (.d (.t r)):=by
 refine sq ?_;intros;refine gi hm ?_ ?_<;>intro hc1 hm
 ·obtain rfl:=Aid hm;exact gE
 refine gi hm ?_ ?_<;>intro hc2 hm
 ·obtain rfl:=Aid hm;exact gE
 refine oB hm fun x1 q1 hm=>gx eB 1 q1<|oB hm fun x2 q2 hm=>gxG eB 1 q2<|bE hm ?_;intro x3 hm;obtain rfl:=Aid hm;exact gE
def OR (a0:List UInt8):Option Bool:=some true
theorem TQ {a0 r}(hm:OR a0=some r):Sf prog 429 [sl eB a0] (.d (.t r)):=by
 refine sq ?_;intros;exact Aid hm▸gE
def JP (a0:UInt8):Option Bool:=bnd (((decide ((a0.toNat:Int)<32))||(decide ((a0.toNat:Int)>126)))) fun x1=>some x1
theorem Q0 {a0 r}(hm:JP a0=some r):Sf prog 431 [.d (.b a0)] (.d (.t r)):=by
 refine sq ?_;intros;refine bE hm ?_;intro x1 hm;obtain rfl:=Aid hm;exact gE
def AE (a0:List UInt8)(i1:Int)(s1:Unit):Option ((Unit)⊕Int):=Ab (idx a0 (i1:Int)) fun x3=>Ab (JP x3) fun x4=>if x4=true then some (.inr (i1:Int))else some (.inl ())
def CB (a0:List UInt8):Option Int:=Ab (B6 (AE a0) a0.length 0 ()) fun x1=>match x1 with| .inr r=>some r| .inl y1=>some (-1)
theorem Hi {a0 r}(hm:CB a0=some r):Sf prog 211 [sl eB a0,.fn (.func 431) [] []] (.d (.i r)):=by
 refine sq ?_;intros;refine oB hm fun x1 q1 hm=>JZ 0 (E:=eB) (xs:=a0) 6 fun hle1=>gF (EN _ _ _) q1 (fun p0 _=>⟨[(0,sl eB a0),(1,.fn (.func 431) [] []),(7,.d (.i (a0.length:Int))),(8,.d (.i p0))],[],[],0⟩) fun i1 s1 Jl bl1=>cN bl1 (a0.length:Int) (fun y2 q4 bl1=> ?_) fun e=> ?_
 ·refine oB q4 fun x3 q6 q4=>gx eB 1 q6<|gA q4 Q0 fun x4 q7 q4=>gi q4 ?_ ?_<;>intro hc1 q4
  ·obtain rfl:=nT bl1 q4;exact Aid hm▸gE
  exact gT bl1 hle1 q4
 subst e;exact Aid hm▸gE
def Ci (a0:List UInt8):Option Bool:=Ab (CB a0) fun x1=>some (decide (x1≥0))
theorem Gy {a0 r}(hm:Ci a0=some r):Sf prog 131 [sl eB a0,.fn (.func 431) [] []] (.d (.t r)):=by
 refine sq ?_;intros;refine gA hm Hi fun x1 q1 hm=> ?_;exact Aid hm▸gE
def Jn (a0:List UInt8):Option Bool:=Ab (Ci a0) fun x1=>some (!x1)
theorem TP {a0 r}(hm:Jn a0=some r):Sf prog 430 [sl eB a0] (.d (.t r)):=by
 refine sq ?_;intros;refine gA hm Gy fun x1 q1 hm=> ?_;exact Aid hm▸gE
def Jm (a0:List UInt8):Option Bool:=some ((a0.length:Int)==0)
theorem TO {a0 r}(hm:Jm a0=some r):Sf prog 432 [sl eB a0] (.d (.t r)):=by
 refine sq ?_;intros;exact Aid hm▸gE
def G8 (a0:Bool):Option Int:=if a0=true then some 0 else some 110
theorem PT {a0 r}(hm:G8 a0=some r):Sf prog 226 [.d (.t a0)] (.d (.i r)):=by
 refine sq ?_;intros;refine gi hm ?_ ?_<;>intro hc1 hm
 ·exact Aid hm▸gE
 exact Aid hm▸gE
def BU (a0:ByteArray)(a1:UInt8):Option Int:=some (AbU a0 a1)
theorem HT {a0 a1 r}(hm:BU a0 a1=some r):Sf prog 400 [.d (.s a0),.d (.b a1)] (.d (.i r)):=by
 refine sq ?_;intros;refine gext (F:=AbU) (p:=a0) (q:=a1) func407 (extIxb (by kernel_rfl) (by kernel_rfl) (by kernel_rfl) (by kernel_rfl)) ?_;exact Aid hm▸gE
def A1 (a0:ByteArray)(a1:ByteArray):Option Int:=bnd ((((a1.size:Int)==0)||(eqS a1 a0))) fun x1=>if x1=true then some 0 else if((a1.size:Int)==1)=true then Ab (idx a1.data.toList 0) fun x2=>Ab (BU a0 x2) fun x3=>some x3 else bnd ((decide ((a1.size:Int)≥(a0.size:Int)))) fun x4=>if x4=true then some (-1)else none
theorem Fl {a0 a1 r}(hm:A1 a0 a1=some r):Sf prog 392 [.d (.s a0),.d (.s a1)] (.d (.i r)):=by
 refine sq ?_;intros;refine bE hm ?_;intro x1 hm;refine gi hm ?_ ?_<;>intro hc1 hm
 ·obtain rfl:=Aid hm;exact gE
 refine gi hm ?_ ?_<;>intro hc2 hm
 ·refine oB hm fun x2 q2 hm=>Ahw (fun _=>q2)<|gA hm HT fun x3 q3 hm=> ?_;obtain rfl:=Aid hm;exact gE
 refine bE hm ?_;intro x4 hm;refine gi hm ?_ ?_<;>intro hc3 hm
 ·obtain rfl:=Aid hm;exact gE
 cases hm
def Cg (a0:ByteArray)(a1:ByteArray):Option Int:=Ab (A1 a0 a1) fun x1=>some x1
theorem QQ {a0 a1 r}(hm:Cg a0 a1=some r):Sf prog 377 [.d (.s a0),.d (.s a1)] (.d (.i r)):=by
 refine sq ?_;intros;refine gA hm Fl fun x1 q1 hm=> ?_;exact Aid hm▸gE
def FK (a0:ByteArray)(a1:ByteArray):Option Int:=if((a1.size:Int)==0)=true then none else if((a1.size:Int)==1)=true then Ab (idx a1.data.toList 0) fun x1=>some (cntS a0 x1)else none
theorem QR {a0 a1 r}(hm:FK a0 a1=some r):Sf prog 347 [.d (.s a0),.d (.s a1)] (.d (.i r)):=by
 refine sq ?_;intros;refine gi hm ?_ ?_<;>intro hc1 hm
 ·cases hm
 refine gi hm ?_ ?_<;>intro hc2 hm
 ·refine oB hm fun x1 q1 hm=>Ahw (fun _=>q1)<|gext (F:=cntS) (p:=a0) (q:=x1) func376 (extCnt (by kernel_rfl) (by kernel_rfl) (by kernel_rfl) (by kernel_rfl)) ?_;exact Aid hm▸gE
 cases hm
def Lw {σ:Type}(k1:ByteArray)(s1:Unit):Option ((Unit)⊕((Unit)⊕(ByteArray×ByteArray×Int×σ))):=if(decide ((k1.size:Int)>0))=true then none else some (.inr (.inl ()))
def AR {σ:Type}(p0:σ→ByteArray→Option (Bool×σ))(k0:ByteArray)(k2:Int)(s2:ByteArray×σ):Option ((ByteArray×σ)⊕((ByteArray×σ)⊕(ByteArray×ByteArray×Int×σ))):=Ab (Cg s2.1 k0) fun x5=>if(decide (x5<0))=true then some (.inr (.inl (s2.1,s2.2)))else Ab (US s2.1 0 (w64 (x5+k2))) fun x6=>Ab (p0 s2.2 x6) fun x7=>if(!x7.1)=true then some (.inr (.inr (k0,s2.1,k2,x7.2)))else Ab (US s2.1 (w64 (x5+(k0.size:Int))) (s2.1.size:Int)) fun x8=>some (.inl (x8,x7.2))
def Bp {σ:Type}(p0:σ→ByteArray→Option (Bool×σ))(k0:ByteArray)(k1:ByteArray)(k2:Int)(s0:σ):Option (ByteArray×ByteArray×Int×σ):=
 if((k0.size:Int)==0)=true then
  Ab (iter (Lw k1) Gr ()) fun x1=>match x1 with
  | .inr r=>some r
  | .inl y1=>
  some (k0,k1,k2,s0)
 else
 Ab (iter (AR p0 k0 k2) Gr (k1,s0)) fun x3=>match x3 with
 | .inr r=>some r
 | .inl y3=>
 Ab (p0 y3.2 y3.1) fun x9=>
 some (k0,y3.1,k2,x9.2)
theorem Np {σ:Type}{p0:σ→ByteArray→Option (Bool×σ)}{k0 k1 k2 s0 r}(hm:Bp p0 k0 k1 k2 s0=some r)(g:Value)(R:σ→Mem→Ow)(hcb:Z0 prog g (fun x=> [.d (.s x)]) R p0):Sp prog 393 [.ow 0,.pb 1 0,.pb 2 0,.pb 3 0] [.hp 0 (.cb g σ R s0),.box 1 [.d (.s k0)] 9,.box 2 [.d (.s k1)] 9,.box 3 [.d (.i k2)] 3] 4 (is (.tup []) [.hp 0 (.cb g σ R r.2.2.2),.box 1 [.d (.s r.1)] 9,.box 2 [.d (.s r.2.1)] 9,.box 3 [.d (.i r.2.2.1)] 3] 4):=by
 refine sq ?_;intros;refine gi hm ?_ ?_<;>intro hc1 hm
 ·refine oB hm fun x1 q1 hm=>gI q1 (fun _=>⟨[(0,.ow 0),(2,.pb 2 0)],[(0,.box 1 [.d (.s k0)] 9),(1,.box 2 [.d (.s k1)] 9),(2,.box 3 [.d (.i k2)] 3),(3,.hp 0 (.cb g σ R s0))],[],4⟩) fun s1 y2 Jl q4 bl1=>gi q4 ?_ ?_<;>intro hc2 q4
  ·cases q4
  obtain rfl:=nR bl1 q4;obtain rfl:=Aid hm;exact gE
 refine oB hm fun x3 q6 hm=>gI q6 (fun(p_0,p_1)=>⟨[(0,.ow 0),(1,.pb 1 0),(2,.pb 2 0),(3,.pb 3 0)],[(0,.box 1 [.d (.s k0)] 9),(1,.box 2 [.d (.s p_0)] 9),(2,.box 3 [.d (.i k2)] 3),(3,.hp 0 (.cb g σ R p_1))],[],4⟩) fun s2 y4 Jl q9 bl2=>gA q9 QQ fun x5 q11 q9=>gi q9 ?_ ?_<;>intro hc3 q9
 ·obtain rfl:=nR bl2 q9;let y3:=(s2.1,s2.2);refine oB hm fun x9 q15 hm=>gcb y3.1 hcb q15 ?_;obtain rfl:=Aid hm;exact gE
 refine oB q9 fun x6 q12 q9=>ZK (fun _=>q12)<|oB q9 fun x7 q13 q9=>gcb x6 hcb q13<|gi q9 ?_ ?_<;>intro hc4 q9
 ·obtain rfl:=nR bl2 q9;obtain rfl:=Aid hm;exact gE
 exact oB q9 fun x8 q14 q9=>ZK (fun _=>q14)<|gN bl2 q9
def Kb (a0:ByteArray)(a1:ByteArray)(a2:Int):Option (ByteArray×ByteArray×Int):=some (a1,a0,a2)
theorem Of {a0 a1 a2 r}(hm:Kb a0 a1 a2=some r):Sp prog 378 [.d (.s a0),.d (.s a1),.d (.i a2)] [] 0 (is (.fn (.func 393) [] [.pb 0 0,.pb 1 0,.pb 2 0]) [.box 0 [.d (.s r.1)] 9,.box 1 [.d (.s r.2.1)] 9,.box 2 [.d (.i r.2.2)] 3] 3):=by
 refine sq ?_;intros;exact Aid hm▸gE
def Hv (a0:ByteArray)(a1:ByteArray):Option (ByteArray×ByteArray×Int):=Ab (Kb a0 a1 0) fun x1=>some (x1.1,x1.2.1,x1.2.2)
theorem Og {a0 a1 r}(hm:Hv a0 a1=some r):Sp prog 348 [.d (.s a0),.d (.s a1)] [] 0 (is (.fn (.func 393) [] [.pb 0 0,.pb 1 0,.pb 2 0]) [.box 0 [.d (.s r.1)] 9,.box 1 [.d (.s r.2.1)] 9,.box 2 [.d (.i r.2.2)] 3] 3):=by
 refine sq ?_;intros;refine gD hm Of fun x1 q1 hm=> ?_;exact Aid hm▸gE
def Dm (a0:Int):Option Bool:=bnd ((((decide ((97:Int)≤a0))&&(decide (a0≤122)))||((decide ((48:Int)≤a0))&&(decide (a0≤57))))) fun x1=>some x1
theorem Mn {a0 r}(hm:Dm a0=some r):Sf prog 379 [.d (.r a0)] (.d (.t r)):=by
 refine sq ?_;intros;refine bE hm ?_;intro x1 hm;obtain rfl:=Aid hm;exact gE
def Dj (a0:Int):Option Bool:=Ab (gu (!(a0==45)) (Dm a0)) fun x1=>some ((a0==45)||x1)
theorem TE {a0 r}(hm:Dj a0=some r):Sf prog 380 [.d (.r a0)] (.d (.t r)):=by
 refine sq ?_;intros;refine oB hm fun x1 q1 hm=>gcH q1 Mn ?_;exact Aid hm▸gE
def Bb (a0:ByteArray)(s1:Nat):Option ((Nat)⊕((Nat)⊕Bool)):=if s1<a0.size then bnd (((Utf8.decode a0 s1).1:Int)) fun x3=>Ab (gu ((s1:Int)==(w64 ((a0.size:Int)-1))) (Dm x3)) fun x4=>bnd ((((s1:Int)==(w64 ((a0.size:Int)-1)))&&x4)) fun x5=>if x5=true then some (.inl (s1+(Utf8.decode a0 s1).2))else bnd (((s1:Int)==(w64 ((a0.size:Int)-1)))) fun x6=>if x6=true then some (.inr (.inr false))else Ab (gu ((s1:Int)==0) (Dm x3)) fun x7=>bnd ((((s1:Int)==0)&&(x7||(x3==95)))) fun x8=>if x8=true then some (.inl (s1+(Utf8.decode a0 s1).2))else Ab (gu (!((s1:Int)==0)) (Dj x3)) fun x9=>if(((s1:Int)==0)||(!x9))=true then some (.inr (.inr false))else some (.inl (s1+(Utf8.decode a0 s1).2))else some (.inr (.inl s1))
def Gh (a0:ByteArray):Option Bool:=if((eqS a0 (⟨#[]⟩:ByteArray))||(decide ((a0.size:Int)>16)))=true then some false else Ab (iter (Bb a0) Gr 0) fun x1=>match x1 with| .inr r=>some r| .inl y1=>some true
theorem TD {a0 r}(hm:Gh a0=some r):Sf prog 349 [.d (.s a0)] (.d (.t r)):=by
 refine sq ?_;intros;refine gi hm ?_ ?_<;>intro hc1 hm
 ·obtain rfl:=Aid hm;exact gE
 refine grng a0<|oB hm fun x1 q1 hm=>gI q1 (fun p=>⟨[(0,.d (.s a0)),(13,.ow 0)],[(0,.hp 0 (.it a0 p))],[],1⟩) fun s1 y2 Jl q4 bl1=>gnx q4 (fun hc2 q4=> ?_) fun hc2 q4=> ?_
 ·refine gi' (b:=true) (fun _=> ?_) (fun h=>by cases h);refine bE q4 ?_;intro x3 q4;refine oB q4 fun x4 q7 q4=>gcH q7 Mn<|bE q4 ?_;intro x5 q4;refine gi q4 ?_ ?_<;>intro hc3 q4
  ·exact gN bl1 q4
  refine bE q4 ?_;intro x6 q4;refine gi q4 ?_ ?_<;>intro hc4 q4
  ·obtain rfl:=nR bl1 q4;obtain rfl:=Aid hm;exact gE
  refine oB q4 fun x7 q10 q4=>gcH q10 Mn<|bE q4 ?_;intro x8 q4;refine gi q4 ?_ ?_<;>intro hc5 q4
  ·exact gN bl1 q4
  refine oB q4 fun x9 q12 q4=>gcH q12 TE<|gi q4 ?_ ?_<;>intro hc6 q4
  ·obtain rfl:=nR bl1 q4;obtain rfl:=Aid hm;exact gE
  exact gN bl1 q4
 refine gi' (b:=false) (fun h=>by cases h) (fun _=> ?_);obtain rfl:=nR bl1 q4;let y1:=s1;obtain rfl:=Aid hm;exact gE
def BK (b6:ByteArray)(s1:(Unit)×Nat):Option ((Unit)×Nat):=Ab (Gh b6) fun x4=>if(!x4)=true then some ((),1)else some ((),0)
def CJ (a0:ByteArray)(a1:Int)(a2:Int):Option Bool:=Ab (gu (!(decide ((a0.size:Int)>a2))) (FK a0 (⟨#[46]⟩:ByteArray))) fun x1=>if((decide ((a0.size:Int)>a2))||(decide (x1≥a1)))=true then some false else Ab (Hv a0 (⟨#[46]⟩:ByteArray)) fun x2=>Ab (Bp (fun(s:(Unit)×Nat) (b0:ByteArray)=>if s.2=0 then Ab (BK b0 s) fun y=>some (y.2==0,y)else none) x2.1 x2.2.1 x2.2.2 ((),0)) fun x3=>if(x3.2.2.2).2=0 then some true else some false
theorem PU {a0 a1 a2 r}(hm:CJ a0 a1 a2=some r):Sf prog 292 [.d (.s a0),.d (.i a1),.d (.i a2)] (.d (.t r)):=
 spR call292 func292 rfl ntmps292 rfl fun D0 As η0 m0 hD hd=>by
  unfold CJ at hm;refine oB hm fun x1 q1 hm=>gcH q1 QR<|gi hm ?_ ?_<;>intro hc1 hm
  ·exact Aid hm▸gE
  refine gD hm Og fun x2 q2 hm=>oB hm fun x3 q3 hm=>Oa hD (n0:=0) 4 4 [⟨1,1,9,[.d (.s x2.1)],[.d (.s x3.1)]⟩,⟨2,2,9,[.d (.s x2.2.1)],[.d (.s x3.2.1)]⟩,⟨3,3,3,[.d (.i x2.2.2)],[.d (.i x3.2.2.1)]⟩] (gt:=19) (ps:=[20]) [(6,.pb 0 0),(19,.fn (.func 393) [] [.pb 1 0,.pb 2 0,.pb 3 0])] (fun(y1:Unit)=> [(0,.box 0 [.d (.t false)] 4)]) (fun(y1:(Unit)×Nat)=> [(0,.box 0 [.d (.t false)] 4)]) (fun x=> [.d (.s x)]) (fun(s1:Unit) (b6:ByteArray)=>⟨[(6,.pb 0 0),(7,.d (.s b6)),(19,.fn (.func 393) [] [.pb 1 0,.pb 2 0,.pb 3 0])],[(0,.box 0 [.d (.t false)] 4)],[],4⟩) (pJ fun x s=>BK x s) () hd (via fJ hyJ rfl fun g R h=>Np q3 g R h) rfl (fun _=>rfl) (fun _=>rfl) (fun _=>rfl) (fun _=>rfl) ?_ ?_ ?_ ?_
  ·intro s1 b6 s' hp l D0 As η0 m0 hd Ja ba;exact gb ba hd () trivial
  ·intro s1 b6 s' hp l D0 As η0 m0 hd Jb bb Jr br;obtain⟨z1,q4,hp⟩:=Air.1 hp;subst hp;unfold BK at q4;dsimp only at q4;refine gA q4 TD fun x4 q5 q4=>gi q4 ?_ ?_<;>intro hc2 q4
   ·obtain rfl:=Aid q4;exact Aeo br hd ((),1) rfl
   obtain rfl:=Aid q4;exact gb bb hd () rfl
  ·intro x hx;obtain⟨hj1,rfl⟩:=YM hx;rw[Ain hj1]at hm;exact Aid hm▸gE
  intro y hy;obtain⟨hj1,rfl⟩:=YL hy;rw[Ail hj1]at hm;exact Aid hm▸gE
def Gi (a0:ByteArray):Option Bool:=Ab (CJ a0 8 64) fun x1=>some x1
theorem Nc {a0 r}(hm:Gi a0=some r):Sf prog 227 [.d (.s a0)] (.d (.t r)):=by
 refine sq ?_;intros;refine gA hm PU fun x1 q1 hm=> ?_;exact Aid hm▸gE
def DZ (a0:ByteArray):Option Int:=Ab (Gi a0) fun x1=>Ab (G8 x1) fun x2=>some x2
theorem On {a0 r}(hm:DZ a0=some r):Sf prog 145 [.d (.s a0)] (.d (.i r)):=by
 refine sq ?_;intros;refine gA hm Nc fun x1 q1 hm=>gA hm PT fun x2 q2 hm=> ?_;exact Aid hm▸gE
def Ft (a0:g_path_trip):Option Int:=if((((((a0.chain_.length:Int)==0)||(decide ((a0.chain_.length:Int)>4)))||(decide ((a0.roots_.length:Int)>16)))||(decide (a0.now_<0)))||(decide (a0.now_>1099511627776)))=true then some 1 else Ab (DZ a0.name_) fun x1=>some x1
theorem Om {a0 r}(hm:Ft a0=some r):Sf prog 72 [ag (EW a0)] (.d (.i r)):=by
 refine sq ?_;intros;refine gi hm ?_ ?_<;>intro hc1 hm
 ·exact Aid hm▸gE
 refine gA hm On fun x1 q1 hm=> ?_;exact Aid hm▸gE
def ET (a0:Int):Option Bool:=bnd (((decide (a0≥0))&&(decide (a0≤1099511627776)))) fun x1=>some x1
theorem Hn {a0 r}(hm:ET a0=some r):Sf prog 275 [.d (.i a0)] (.d (.t r)):=by
 refine sq ?_;intros;refine bE hm ?_;intro x1 hm;obtain rfl:=Aid hm;exact gE
def HF (a0:g_api_Sig):Option Bool:=bnd ((decide (((U9 a0.E a0.S).toNat:Int)<1152921504606845789))) fun x1=>some x1
theorem Oy {a0 r}(hm:HF a0=some r):Sf prog 277 [ag (Lb a0)] (.d (.t r)):=by
 refine sq ?_;intros;refine bE hm ?_;intro x1 hm;obtain rfl:=Aid hm;exact gE
def BE (a0:List UInt64)(s1:UInt64×Int):Option ((UInt64×Int)⊕(UInt64)):=if(decide (s1.2<(a0.length:Int)))=true then Ab (idx a0 s1.2) fun x6=>some (.inl ((U9 s1.1 x6),(w64 (s1.2+1))))else some (.inr s1.1)
def CO (a0:List UInt64):Option UInt64:=Ab (if(decide ((a0.length:Int)<1))=true then none else some ()) fun x1=>Ab (idx a0 0) fun x2=>Ab (Ab (iter (BE a0) Gr (x2,1)) fun x4=>some x4) fun x3=>some x3
theorem J0 {a0 r}(hm:CO a0=some r):Sf prog 331 [sl eU a0] (.d (.u r)):=by
 refine sq ?_;intros;refine oB hm fun x1 q1 hm=>gi q1 (fun hc1 q1=> ?_) fun hc1 q1=> ?_
 ·cases q1
 obtain rfl:=Aid q1;refine oB hm fun x2 q2 hm=>gx eU 1 q2 ?_;obtain⟨x3,q3,hm⟩:=Ad hm;refine oB q3 fun x4 q4 q3=>gI q4 (fun(p_0,p_1)=>⟨[(0,sl eU a0),(3,.d (.u p_0)),(4,.d (.i p_1))],[],[],0⟩) fun s1 y1 Jl q7 bl1=>gi q7 ?_ ?_<;>intro hc2 q7
 ·exact oB q7 fun x6 q9 q7=>gx eU 1 q9<|gN bl1 q7
 obtain rfl:=nR bl1 q7;let x4:=s1.1;obtain rfl:=Aid q3;let x3:=x4;obtain rfl:=Aid hm;exact gE
def HG (a0:g_api_Promise):Option Bool:=Ab (ET a0.Log) fun x1=>Ab (gu x1 (ET a0.At)) fun x2=>Ab (gu (x1&&x2) (CO ([a0.Leaf.1,a0.Leaf.2]:List UInt64))) fun x3=>Ab (gu ((x1&&x2)&&(decide ((x3.toNat:Int)<2305843009213693951))) (HF a0.Sig)) fun x4=>bnd ((((x1&&x2)&&(decide ((x3.toNat:Int)<2305843009213693951)))&&x4)) fun x5=>some x5
theorem Q5 {a0 r}(hm:HG a0=some r):Sf prog 274 [ag (Af a0)] (.d (.t r)):=by
 refine sq ?_;intros;refine Ahx 1 [.i a0.Log,.i a0.At,.u a0.Leaf.1,.u a0.Leaf.2,.u a0.Sig.E,.u a0.Sig.S]<|gA hm Hn fun x1 q1 hm=>oB hm fun x2 q2 hm=>gcH q2 Hn<|gslM (k:=1) (E:=eU) ([a0.Leaf.1,a0.Leaf.2]:List UInt64) (fun _=>rfl)<|oB hm fun x3 q3 hm=>gcH q3 J0<|oB hm fun x4 q4 hm=>gcH q4 Oy<|bE hm ?_;intro x5 hm;obtain rfl:=Aid hm;exact gE
def LJ (a0:Int):Option Bool:=bnd (((decide (a0≤32))||(decide (a0>126)))) fun x1=>some x1
theorem TV {a0 r}(hm:LJ a0=some r):Sf prog 332 [.d (.r a0)] (.d (.t r)):=by
 refine sq ?_;intros;refine bE hm ?_;intro x1 hm;obtain rfl:=Aid hm;exact gE
def DC (a0:ByteArray)(a2:Bool)(s1:Nat):Option ((Nat)⊕((Nat)⊕Int)):=if s1<a0.size then bnd (((Utf8.decode a0 s1).1:Int)) fun x3=>Ab (LJ x3) fun x4=>if(x4==a2)=true then some (.inr (.inr (s1:Int)))else some (.inl (s1+(Utf8.decode a0 s1).2))else some (.inr (.inl s1))
def C5 (a0:ByteArray)(a2:Bool):Option Int:=Ab (iter (DC a0 a2) Gr 0) fun x1=>match x1 with| .inr r=>some r| .inl y1=>some (-1)
theorem KK {a0 a2 r}(hm:C5 a0 a2=some r):Sf prog 391 [.d (.s a0),.fn (.func 332) [] [],.d (.t a2)] (.d (.i r)):=by
 refine sq ?_;intros;refine grng a0<|oB hm fun x1 q1 hm=>gI q1 (fun p=>⟨[(1,.fn (.func 332) [] []),(2,.d (.t a2)),(10,.ow 0)],[(0,.hp 0 (.it a0 p))],[],1⟩) fun s1 y2 Jl q4 bl1=>gnx q4 (fun hc1 q4=> ?_) fun hc1 q4=> ?_
 ·refine gi' (b:=true) (fun _=> ?_) (fun h=>by cases h);refine bE q4 ?_;intro x3 q4;refine gA q4 TV fun x4 q7 q4=>gi q4 ?_ ?_<;>intro hc2 q4
  ·obtain rfl:=nR bl1 q4;obtain rfl:=Aid hm;exact gE
  exact gN bl1 q4
 refine gi' (b:=false) (fun h=>by cases h) (fun _=> ?_);obtain rfl:=nR bl1 q4;let y1:=s1;obtain rfl:=Aid hm;exact gE
def Em (a0:ByteArray):Option Int:=Ab (C5 a0 true) fun x1=>some x1
theorem KL {a0 r}(hm:Em a0=some r):Sf prog 369 [.d (.s a0),.fn (.func 332) [] []] (.d (.i r)):=by
 refine sq ?_;intros;refine gA hm KK fun x1 q1 hm=> ?_;exact Aid hm▸gE
def DD (a0:ByteArray):Option Bool:=Ab (Em a0) fun x1=>some (decide (x1≥0))
theorem Jz {a0 r}(hm:DD a0=some r):Sf prog 333 [.d (.s a0),.fn (.func 332) [] []] (.d (.t r)):=by
 refine sq ?_;intros;refine gA hm KL fun x1 q1 hm=> ?_;exact Aid hm▸gE
def ES (a0:ByteArray):Option Bool:=Ab (gu ((!eqS a0 (⟨#[]⟩:ByteArray))&&(decide ((a0.size:Int)≤64))) (DD a0)) fun x1=>bnd ((((!eqS a0 (⟨#[]⟩:ByteArray))&&(decide ((a0.size:Int)≤64)))&&(!x1))) fun x2=>some x2
theorem Q4 {a0 r}(hm:ES a0=some r):Sf prog 276 [.d (.s a0)] (.d (.t r)):=by
 refine sq ?_;intros;refine oB hm fun x1 q1 hm=>gcH q1 Jz<|bE hm ?_;intro x2 hm;obtain rfl:=Aid hm;exact gE
def Bl (a0:ByteArray)(a1:ByteArray):Option Bool:=Ab (gu (decide ((a0.size:Int)≥(a1.size:Int))) (US a0 0 (a1.size:Int))) fun x1=>bnd (((decide ((a0.size:Int)≥(a1.size:Int)))&&(eqS x1 a1))) fun x2=>some x2
theorem HU {a0 a1 r}(hm:Bl a0 a1=some r):Sf prog 395 [.d (.s a0),.d (.s a1)] (.d (.t r)):=by
 refine sq ?_;intros;refine oB hm fun x1 q1 hm=>gcutSG (fun h=>Ac4 h q1)<|bE hm ?_;intro x2 hm;obtain rfl:=Aid hm;exact gE
def Bm (a0:ByteArray)(a1:ByteArray):Option (ByteArray×Bool):=Ab (Bl a0 a1) fun x1=>if(!x1)=true then some (a0,false)else Ab (US a0 (a1.size:Int) (a0.size:Int)) fun x2=>some (x2,true)
theorem HV {a0 a1 r}(hm:Bm a0 a1=some r):Sf prog 381 [.d (.s a0),.d (.s a1)] (.tup [.d (.s r.1),.d (.t r.2)]):=by
 refine sq ?_;intros;refine gA hm HU fun x1 q1 hm=>gi hm ?_ ?_<;>intro hc1 hm
 ·exact Aid hm▸gE
 refine oB hm fun x2 q2 hm=>ZK (fun _=>q2) ?_;exact Aid hm▸gE
def Cq (a0:ByteArray)(a1:ByteArray):Option (ByteArray×Bool):=Ab (Bm a0 a1) fun x1=>some (x1.1,x1.2)
theorem NM {a0 a1 r}(hm:Cq a0 a1=some r):Sf prog 351 [.d (.s a0),.d (.s a1)] (.tup [.d (.s r.1),.d (.t r.2)]):=by
 refine sq ?_;intros;refine gA hm HV fun x1 q1 hm=> ?_;exact Aid hm▸gE
def DE (a0:ByteArray):Option (ByteArray×Bool×Bool):=Ab (Gi a0) fun x1=>if x1=true then some (a0,false,true)else Ab (Cq a0 (⟨#[42,46]⟩:ByteArray)) fun x2=>Ab (gu x2.2 (CJ x2.1 7 62)) fun x3=>some (x2.1,x2.2,(x2.2&&x3))
theorem Mm {a0 r}(hm:DE a0=some r):Sf prog 296 [.d (.s a0)] (.tup [.d (.s r.1),.d (.t r.2.1),.d (.t r.2.2)]):=by
 refine sq ?_;intros;refine gA hm Nc fun x1 q1 hm=>gi hm ?_ ?_<;>intro hc1 hm
 ·exact Aid hm▸gE
 refine gA hm NM fun x2 q2 hm=>oB hm fun x3 q3 hm=>gcH q3 PU ?_;exact Aid hm▸gE
def DF (a0:ByteArray):Option Int:=Ab (DE a0) fun x1=>Ab (G8 x1.2.2) fun x2=>some x2
theorem QX {a0 r}(hm:DF a0=some r):Sf prog 279 [.d (.s a0)] (.d (.i r)):=by
 refine sq ?_;intros;refine gA hm Mm fun x1 q1 hm=>gA hm PT fun x2 q2 hm=> ?_;exact Aid hm▸gE
def JS (i1:Int)(x2:ByteArray)(s1:(List (ByteArray×Bool))):Option (((List (ByteArray×Bool)))⊕Bool):=Ab (gu (!(lkB s1 x2)) (DF x2)) fun x3=>if((lkB s1 x2)||(x3 !=0))=true then some (.inr false)else if(lkI s1 x2 0).isNone=true then some (.inl (s1++[(x2,true)]))else none
def GU (a0:List ByteArray)(a1:Int)(a2:Int):Option Bool:=Ab (EV JS a0 0 ([]:List (ByteArray×Bool))) fun x1=>match x1 with| .inr r=>some r| .inl y1=>bnd (((decide ((a0.length:Int)≥a1))&&(decide ((a0.length:Int)≤a2)))) fun x4=>some x4
theorem Qx {a0 a1 a2 r}(hm:GU a0 a1 a2=some r):Sf prog 278 [sl eS a0,.d (.i a1),.d (.i a2),.fn (.func 279) [] []] (.d (.t r)):=by
 refine sq ?_;intros;refine gmkm<|oB hm fun x1 q1 hm=>JZ 0 (E:=eS) (xs:=a0) 13 fun hle1=>gF (ER _ _ _) q1 (fun p0 p=>⟨[(0,sl eS a0),(1,.d (.i a1)),(2,.d (.i a2)),(3,.fn (.func 279) [] []),(9,.ow 0),(13,sl eS a0),(14,.d (.i (a0.length:Int))),(15,.d (.i p0)),(12,.ow 0)],[(0,.hp 0 (.mp p))],[],1⟩) fun i1 s1 Jl bl1=>cR bl1 (fun x2 y2 q5 q4 bl1=> ?_) fun e=> ?_
 ·refine gx eS 1 q5<|glk s1 x2<|oB q4 fun x3 q6 q4=>gcH q6 QX<|gi q4 ?_ ?_<;>intro hc1 q4
  ·obtain rfl:=nT bl1 q4;obtain rfl:=Aid hm;exact gE
  obtain⟨q7,q4⟩:=BD q4;exact gup q7<|gT bl1 hle1 q4
 subst e;let y1:=s1;refine bE hm ?_;intro x4 hm;obtain rfl:=Aid hm;exact gE
def JT (i1:Int)(x2:ByteArray)(s1:(List (ByteArray×Bool))):Option (((List (ByteArray×Bool)))⊕Bool):=Ab (gu (!(lkB s1 x2)) (DZ x2)) fun x3=>if((lkB s1 x2)||(x3 !=0))=true then some (.inr false)else if(lkI s1 x2 0).isNone=true then some (.inl (s1++[(x2,true)]))else none
def GV (a0:List ByteArray)(a1:Int)(a2:Int):Option Bool:=Ab (EV JT a0 0 ([]:List (ByteArray×Bool))) fun x1=>match x1 with| .inr r=>some r| .inl y1=>bnd (((decide ((a0.length:Int)≥a1))&&(decide ((a0.length:Int)≤a2)))) fun x4=>some x4
theorem Qy {a0 a1 a2 r}(hm:GV a0 a1 a2=some r):Sf prog 278 [sl eS a0,.d (.i a1),.d (.i a2),.fn (.func 145) [] []] (.d (.t r)):=by
 refine sq ?_;intros;refine gmkm<|oB hm fun x1 q1 hm=>JZ 0 (E:=eS) (xs:=a0) 13 fun hle1=>gF (ER _ _ _) q1 (fun p0 p=>⟨[(0,sl eS a0),(1,.d (.i a1)),(2,.d (.i a2)),(3,.fn (.func 145) [] []),(9,.ow 0),(13,sl eS a0),(14,.d (.i (a0.length:Int))),(15,.d (.i p0)),(12,.ow 0)],[(0,.hp 0 (.mp p))],[],1⟩) fun i1 s1 Jl bl1=>cR bl1 (fun x2 y2 q5 q4 bl1=> ?_) fun e=> ?_
 ·refine gx eS 1 q5<|glk s1 x2<|oB q4 fun x3 q6 q4=>gcH q6 On<|gi q4 ?_ ?_<;>intro hc1 q4
  ·obtain rfl:=nT bl1 q4;obtain rfl:=Aid hm;exact gE
  obtain⟨q7,q4⟩:=BD q4;exact gup q7<|gT bl1 hle1 q4
 subst e;let y1:=s1;refine bE hm ?_;intro x4 hm;obtain rfl:=Aid hm;exact gE
def DX (i1:Int)(x2:g_api_Promise)(s1:Int):Option ((Int)⊕Bool):=Ab (HG x2) fun x3=>if((!x3)||(decide (x2.Log≤s1)))=true then some (.inr false)else some (.inl x2.Log)
def Jo (a0:g_api_Cert):Option Bool:=Ab (EV DX a0.Proms 0 (-1)) fun x1=>match x1 with| .inr r=>some r| .inl y1=>Ab (ET a0.Serial) fun x4=>Ab (gu (!(!x4)) (ET a0.From)) fun x5=>Ab (gu (!((!x4)||(!x5))) (ET a0.Until)) fun x6=>bnd (((((!x4)||(!x5))||(!x6))||(decide (a0.From≥a0.Until)))) fun x7=>if x7=true then some false else Ab (ES a0.Issuer) fun x8=>Ab (gu (!((((!x8)||((a0.Key.toNat:Int)==0))||(decide ((a0.Key.toNat:Int)≥2305843009213691579)))||(decide ((a0.Proms.length:Int)>4)))) (HF a0.Sig)) fun x9=>bnd ((((((!x8)||((a0.Key.toNat:Int)==0))||(decide ((a0.Key.toNat:Int)≥2305843009213691579)))||(decide ((a0.Proms.length:Int)>4)))||(!x9))) fun x10=>if x10=true then some false else if a0.Ca=true then Ab (ES a0.Subject) fun x11=>Ab (gu (((x11&&((a0.Names.length:Int)==0))&&(decide (a0.Depth≥0)))&&(decide (a0.Depth≤4))) (GU a0.Permit 0 8)) fun x12=>bnd (((((x11&&((a0.Names.length:Int)==0))&&(decide (a0.Depth≥0)))&&(decide (a0.Depth≤4)))&&x12)) fun x13=>some x13 else Ab (gu (eqS a0.Subject (⟨#[]⟩:ByteArray)) (GV a0.Names 1 8)) fun x14=>bnd (((((eqS a0.Subject (⟨#[]⟩:ByteArray))&&x14)&&(a0.Depth==0))&&((a0.Permit.length:Int)==0))) fun x15=>some x15
theorem TW {a0 r}(hm:Jo a0=some r):Sf prog 208 [ag (Ae a0)] (.d (.t r)):=by
 refine sq ?_;intros;refine oB hm fun x1 q1 hm=>JZ 0 (E:=Af) (xs:=a0.Proms) 7 fun hle1=>gF (ER _ _ _) q1 (fun p0 p=>⟨[(1,.pb 0 0),(3,.d (.i p)),(7,sl Af a0.Proms),(8,.d (.i (a0.Proms.length:Int))),(9,.d (.i p0))],[(0,.box 0 [.d (.i a0.Serial),.d (.s a0.Issuer),.d (.s a0.Subject),.d (.u a0.Key),sl eS a0.Names,.d (.i a0.From),.d (.i a0.Until),.d (.t a0.Ca),.d (.i a0.Depth),sl eS a0.Permit,sl Af a0.Proms,.d (.u a0.Sig.E),.d (.u a0.Sig.S)] 59)],[],1⟩) fun i1 s1 Jl bl1=>cR bl1 (fun x2 y2 q5 q4 bl1=> ?_) fun e=> ?_
 ·refine gx Af 6 q5<|gA q4 Q5 fun x3 q6 q4=>gi q4 ?_ ?_<;>intro hc1 q4
  ·obtain rfl:=nT bl1 q4;obtain rfl:=Aid hm;exact gE
  exact gT bl1 hle1 q4
 subst e;let y1:=s1;refine gA hm Hn fun x4 q7 hm=>oB hm fun x5 q8 hm=>gcH q8 Hn<|oB hm fun x6 q9 hm=>gcH q9 Hn<|bE hm ?_;intro x7 hm;refine gi hm ?_ ?_<;>intro hc3 hm
 ·obtain rfl:=Aid hm;exact gE
 refine gA hm Q4 fun x8 q11 hm=>oB hm fun x9 q12 hm=>gcH q12 Oy<|bE hm ?_;intro x10 hm;refine gi hm ?_ ?_<;>intro hc4 hm
 ·obtain rfl:=Aid hm;exact gE
 refine gi hm ?_ ?_<;>intro hc5 hm
 ·refine gA hm Q4 fun x11 q14 hm=>oB hm fun x12 q15 hm=>gcH q15 Qx<|bE hm ?_;intro x13 hm;obtain rfl:=Aid hm;exact gE
 refine oB hm fun x14 q17 hm=>gcH q17 Qy<|bE hm ?_;intro x15 hm;obtain rfl:=Aid hm;exact gE
def MS (a0:Gq)(k0:Int):Option (Bool×Int):=some ((a0.tag_==k0),k0)
theorem Vr {a0 k0 r}(hm:MS a0 k0=some r):Sp prog 371 [ag (Hc a0),.pb 0 0] [.box 0 [.d (.i k0)] 3] 1 (is (.d (.t r.1)) [.box 0 [.d (.i r.2)] 3] 1):=by
 refine sq ?_;intros;exact Aid hm▸gE
def Ao (a0:List Gq)(i1:Int)(s1:Int):Option ((Int)⊕(Int×Int)):=Ab (idx a0 (i1:Int)) fun x3=>Ab (MS x3 s1) fun x4=>if x4.1=true then some (.inr ((i1:Int),x4.2))else some (.inl x4.2)
def BM (a0:List Gq)(k0:Int):Option (Int×Int):=Ab (B6 (Ao a0) a0.length 0 k0) fun x1=>match x1 with| .inr r=>some r| .inl y1=>some ((-1),y1)
theorem Fc {a0 k0 r}(hm:BM a0 k0=some r):Sp prog 370 [sl Hc a0,.fn (.func 371) [] [.pb 0 0]] [.box 0 [.d (.i k0)] 3] 1 (is (.d (.i r.1)) [.box 0 [.d (.i r.2)] 3] 1):=by
 refine sq ?_;intros;refine oB hm fun x1 q1 hm=>JZ 0 (E:=Hc) (xs:=a0) 6 fun hle1=>gF (EN _ _ _) q1 (fun p0 p=>⟨[(0,sl Hc a0),(1,.fn (.func 371) [] [.pb 0 0]),(7,.d (.i (a0.length:Int))),(8,.d (.i p0))],[(0,.box 0 [.d (.i p)] 3)],[],1⟩) fun i1 s1 Jl bl1=>cN bl1 (a0.length:Int) (fun y2 q4 bl1=> ?_) fun e=> ?_
 ·refine oB q4 fun x3 q6 q4=>gx Hc 2 q6<|gD q4 Vr fun x4 q7 q4=>gi q4 ?_ ?_<;>intro hc1 q4
  ·obtain rfl:=nT bl1 q4;obtain rfl:=Aid hm;exact gE
  exact gT bl1 hle1 q4
 subst e;let y1:=s1;obtain rfl:=Aid hm;exact gE
def Ju (a0:Int):Option (Gq×Bool):=Ab (BM tab_2 a0) fun x1=>if(decide (x1.1<0))=true then some ((⟨0,(-1)⟩:Gq),false)else Ab (idx tab_2 x1.1) fun x2=>some (x2,true)
theorem Ze {a0 r}(hm:Ju a0=some r):Sf prog 334 [.d (.i a0)] (.tup [ag (Hc r.1),.d (.t r.2)]):=by
 refine sq ?_;intros;refine gslG (k:=2) (E:=Hc) tab_2 (fun _=>rfl)<|gD hm Fc fun x1 q1 hm=>gi hm ?_ ?_<;>intro hc1 hm
 ·exact Aid hm▸gE
 refine oB hm fun x2 q2 hm=>gidG (k:=2) (E:=Hc) tab_2 (fun _=>rfl) (fun _=>q2) ?_;exact Aid hm▸gE
def QM (n:Int)(a0:List UInt8):Option Bool:=if n=299 then JO a0 else if n=428 then HC a0 else if n=429 then OR a0 else if n=430 then Jn a0 else if n=432 then Jm a0 else none
theorem Ade {n a0 r}(hm:QM n a0=some r): ∃k:Nat,n=(k:Int)∧Sf prog k [sl eB a0] (.d (.t r)):=by
 unfold QM at hm;split at hm
 ·rename_i h;exact⟨299,h,QZ hm⟩
 split at hm
 ·rename_i h;exact⟨428,h,TR hm⟩
 split at hm
 ·rename_i h;exact⟨429,h,TQ hm⟩
 split at hm
 ·rename_i h;exact⟨430,h,TP hm⟩
 split at hm
 ·rename_i h;exact⟨432,h,TO hm⟩
 cases hm
def M8 (rF:g_api_Item→Int→Option Bool):Prop:= ∀{a0:g_api_Item} {a1:Int} {r:Bool},rF a0 a1=some r→Sf prog 280 [ag (Aq a0),.d (.i a1)] (.d (.t r))
def LH (rF:g_api_Item→Int→Option Bool)(a0:g_api_Item)(k0:Int):Option (Bool×Int):=Ab (rF a0 (w64 (k0-1))) fun x1=>some ((!x1),k0)
theorem TN {rF:g_api_Item→Int→Option Bool}(hF:M8 rF){a0 k0 r}(hm:LH rF a0 k0=some r):Sp prog 336 [ag (Aq a0),.pb 0 0] [.box 0 [.d (.i k0)] 3] 1 (is (.d (.t r.1)) [.box 0 [.d (.i r.2)] 3] 1):=by
 refine sq ?_;intros;refine gA hm hF fun x1 q1 hm=> ?_;exact Aid hm▸gE
def Av (rF:g_api_Item→Int→Option Bool)(a0:List g_api_Item)(i1:Int)(s1:Int):Option ((Int)⊕(Int×Int)):=Ab (idx a0 (i1:Int)) fun x3=>Ab ((LH rF) x3 s1) fun x4=>if x4.1=true then some (.inr ((i1:Int),x4.2))else some (.inl x4.2)
def BC (rF:g_api_Item→Int→Option Bool)(a0:List g_api_Item)(k0:Int):Option (Int×Int):=Ab (B6 ((Av rF) a0) a0.length 0 k0) fun x1=>match x1 with| .inr r=>some r| .inl y1=>some ((-1),y1)
theorem EB {rF:g_api_Item→Int→Option Bool}(hF:M8 rF){a0 k0 r}(hm:BC rF a0 k0=some r):Sp prog 372 [sl Aq a0,.fn (.func 336) [] [.pb 0 0]] [.box 0 [.d (.i k0)] 3] 1 (is (.d (.i r.1)) [.box 0 [.d (.i r.2)] 3] 1):=by
 refine sq ?_;intros;refine oB hm fun x1 q1 hm=>JZ 0 (E:=Aq) (xs:=a0) 6 fun hle1=>gF (EN _ _ _) q1 (fun p0 p=>⟨[(0,sl Aq a0),(1,.fn (.func 336) [] [.pb 0 0]),(7,.d (.i (a0.length:Int))),(8,.d (.i p0))],[(0,.box 0 [.d (.i p)] 3)],[],1⟩) fun i1 s1 Jl bl1=>cN bl1 (a0.length:Int) (fun y2 q4 bl1=> ?_) fun e=> ?_
 ·refine oB q4 fun x3 q6 q4=>gx Aq 3 q6<|oB q4 fun x4 q7 q4=>gco (TN hF q7)<|gi q4 ?_ ?_<;>intro hc1 q4
  ·obtain rfl:=nT bl1 q4;obtain rfl:=Aid hm;exact gE
  exact gT bl1 hle1 q4
 subst e;let y1:=s1;obtain rfl:=Aid hm;exact gE
def AU (rF:g_api_Item→Int→Option Bool)(a0:List g_api_Item)(k0:Int):Option (Bool×Int):=Ab ((BC rF) a0 k0) fun x1=>some ((decide (x1.1≥0)),x1.2)
theorem Eg {rF:g_api_Item→Int→Option Bool}(hF:M8 rF){a0 k0 r}(hm:AU rF a0 k0=some r):Sp prog 335 [sl Aq a0,.fn (.func 336) [] [.pb 0 0]] [.box 0 [.d (.i k0)] 3] 1 (is (.d (.t r.1)) [.box 0 [.d (.i r.2)] 3] 1):=by
 refine sq ?_;intros;refine oB hm fun x1 q1 hm=>gco (EB hF q1) ?_;exact Aid hm▸gE
def Ia (rF:g_api_Item→Int→Option Bool)(a0:g_api_Item)(a1:Int):Option Bool:=Ab (Ju a0.Tag) fun x1=>Ab (gu (!((!x1.2)||(decide (a1<1)))) (QM x1.1.may_ a0.B)) fun x2=>if((((!x1.2)||(decide (a1<1)))||(!x2))||((a0.Tag !=48)&&(decide ((a0.L.length:Int)>0))))=true then some false else Ab ((AU rF) a0.L a1) fun x3=>some (!x3.1)
theorem WE {rF:g_api_Item→Int→Option Bool}(hF:M8 rF){a0 a1 r}(hm:Ia rF a0 a1=some r):Sf prog 280 [ag (Aq a0),.d (.i a1)] (.d (.t r)):=by
 refine sq ?_;intros;refine gA hm Ze fun x1 q1 hm=>oB hm fun x2 q2 hm=>gdynG (fun h=>Ade (Ac4 h q2))<|gi hm ?_ ?_<;>intro hc1 hm
 ·exact Aid hm▸gE
 refine oB hm fun x3 q3 hm=>gco (Eg hF q3) ?_;exact Aid hm▸gE
def IG:Nat→g_api_Item→Int→Option Bool
 |0,_,_=>none
 |n+1,a0,a1=>Ia (IG n) a0 a1
def RC (a0:g_api_Item)(a1:Int):Option Bool:=IG Gr a0 a1
theorem SI: ∀n,M8 (IG n)
 |0=>fun hm=>by cases hm
 |n+1=>fun hm=>WE (SI n) hm
theorem Aag {a0:g_api_Item}{a1:Int}{r:Bool}(hm:RC a0 a1=some r):Sf prog 280 [ag (Aq a0),.d (.i a1)] (.d (.t r)):=SI Gr hm
def A6 (a0:List UInt8):Option (List UInt8):=Ab (app 1 ([]:List UInt8) a0) fun x1=>some x1
theorem KM {m As w a0}{a0v0:Value}{r}(S:St m (As) w)(a0h0:SlR m a0v0 a0)(hm:A6 a0=some r):
  AK Tryz.prog 300 #[a0v0] w fun v w'=> ∃(M:Mem),m≤M∧∃(rv0:Value) (rc0:List Value),St M ((row 1 rv0 rc0 r.length)::As) w'∧v=rv0∧AH M rc0 r:=by
 unfold A6 at hm;have L0:=Mem.rfl' m;refine Dp (args:=[a0v0]) Tryz.func300 rfl Tryz.ntmps300 (Aih rfl)<|Ag<|Ac<|AD (v:= .slice none 0 0) rfl<|Ah<|nrm<|Ag<|Ag<|Ac ?_;refine Ak (v:=a0v0) rfl<|Hs rfl rfl a0h0 Tryz.underlying96<|Ah<|nrm<|BL (t:=(I4 a0v0)) rfl (fun hc1=> ?_) (fun hc1=> ?_)
 ·have he1:a0=[]:=SlR.nilOf a0h0 hc1;rw[he1]at hm;replace hm:(some ([]:List UInt8))=some _:=hm;refine Ag<|Ac<|AD (v:= .slice none 0 0) rfl<|Ah<|nrm<|AZ<|thR<|Db ?_;intro we hpd;replace S:=St.pd S hpd;have S1:=St.rowNil S 1;have h1:AH m [] ([]:List UInt8):=AH.nil;replace S1:St _ ((row 1 (.slice none 0 0) [] ([]:List UInt8).length)::As) _:=S1;clear S;obtain rfl:=Aid hm;exact Io [_] rfl ⟨rfl,trivial⟩ ⟨_,L0,_,_,S1,rfl,h1⟩
 refine AL<|nrm<|Ag<|Ac<|Hq (parts:=[]) (vs:=[]) (cls:=[]) (n:=0) (sz:=1) S Tryz.underlying96 Tryz.sizeOf5 Tryz.zeroValue5 rfl trivial rfl rfl (by decide) (by decide) ?_;intro v1 w1 S2;have h2:AH m [] ([]:List UInt8):=AH.nil;replace S2:St _ ((row 1 v1 [] ([]:List UInt8).length)::As) _:=S2;clear S;refine Ak (v:=a0v0) rfl ?_;obtain⟨x1,q1,hm⟩:=Ad hm;refine Mg (i:=0) (zs:=x1) (bytes:=1) (ti:=Tryz.t5) S2 rfl rfl h2 rfl rfl a0h0 q1 Tryz.underlying96 Tryz.type5 rfl rfl rfl rfl ?_;intro v2 c1 w2 S3 h3;replace S3:St _ ((row 1 v2 c1 x1.length)::As) _:=S3;clear S2;refine AD (v:=v2) rfl<|Ah<|nrm<|AZ<|Db ?_;intro we hpd;replace S3:=St.pd S3 hpd;obtain rfl:=Aid hm;exact Io [_] rfl ⟨rfl,trivial⟩ ⟨_,L0,_,_,S3,rfl,h3⟩
theorem G7 {a0 r}(hm:A6 a0=some r):Sp prog 300 [sl eB a0] [] 0 (is (.ow 0) [.row 0 1 _ eB r] 1):=
 ⟨call300,fun η m As w vs hv0 hd S=>by
  have S:St m As w:=S;obtain⟨v0,u0,rfl,r0,hv1⟩:=Bh.cons_inv hv0;have f0:=Br.ofS Br.b r0.dd;obtain rfl:=Bh.nil_inv hv1;refine AK.mono (KM S f0 hm) ?_;rintro v w' ⟨M,hle,y0,c0,S0,rfl,h0⟩;exact⟨M,(Xt [v]),_,_,_,hle,Wi hd _,⟨rfl,rfl,rfl⟩,Fx rfl,(.ow rfl (B2 S0)),(St.impL S0 (Sn (Br.toR Br.b rfl rfl (B2 S0) h0) fun _ h=>h))⟩⟩
def R5 (rF:(List UInt8)→g_api_Item→Option (List UInt8)):Prop:= ∀{a0:List UInt8} {a1:g_api_Item} {r:List UInt8},rF a0 a1=some r→Sp prog 281 [.ow 0,ag (Aq a1)] [.row 0 1 _ eB a0] 1 (is (.ow 1) [.row 1 1 _ eB r] 2)
def E6 (rF:(List UInt8)→g_api_Item→Option (List UInt8))(i1:Int)(x4:g_api_Item)(s1:(List UInt8)):Option ((List UInt8)):=Ab (rF s1 x4) fun x5=>some x5
def HD (rF:(List UInt8)→g_api_Item→Option (List UInt8))(a0:g_api_Item):Option (List UInt8):=Ab (A6 a0.B) fun x1=>Ab (Ab (DA (E6 rF) a0.L 0 x1) fun x3=>some x3) fun x2=>some x2
theorem Q1 {rF:(List UInt8)→g_api_Item→Option (List UInt8)}(hF:R5 rF){a0 r}(hm:HD rF a0=some r):Sp prog 337 [ag (Aq a0)] [] 0 (is (.ow 0) [.row 0 1 _ eB r] 1):=by
 refine sq ?_;intros;refine gD hm G7 fun x1 q1 hm=> ?_;obtain⟨x2,q2,hm⟩:=Ad hm;refine oB q2 fun x3 q3 q2=>JZ 0 (E:=Aq) (xs:=a0.L) 10 fun hle1=>gF (E0 _ _ _) q3 (fun p0 p=>⟨[(3,.ow 1),(10,sl Aq a0.L),(11,.d (.i (a0.L.length:Int))),(12,.d (.i p0)),(1,.pb 0 0)],[(0,.row 1 1 _ eB p),(1,.box 0 [.d (.i a0.Tag),sl eB a0.B,sl Aq a0.L] 192)],[],2⟩) fun i1 s1 Jl bl1=>c0 bl1 (fun x4 y1 q7 q6 bl1=> ?_) fun e=> ?_
 ·exact gx Aq 3 q7<|gD q6 hF fun x5 q8 q6=>gM bl1 hle1 q6
 subst e;obtain rfl:=Aid q2;let x2:=x3;obtain rfl:=Aid hm;exact gE
def LG (rF:(List UInt8)→g_api_Item→Option (List UInt8))(a0:List UInt8)(a1:g_api_Item):Option (List UInt8):=Ab ((HD rF) a1) fun x1=>Ab (app 1 a0 ([(toB a1.Tag)]:List UInt8)) fun x2=>Ab (bnd ((decide ((x1.length:Int)<128))) fun x4=>if x4=true then Ab (app 1 x2 ([(toB (x1.length:Int))]:List UInt8)) fun x5=>some x5 else bnd ((decide ((x1.length:Int)<256))) fun x6=>if x6=true then Ab (app 1 x2 ([129,(toB (x1.length:Int))]:List UInt8)) fun x7=>some x7 else Ab (app 1 x2 ([130,(toB (Bx (x1.length:Int) 8)),(toB (x1.length:Int))]:List UInt8)) fun x8=>some x8) fun x3=>Ab (app 1 x3 x1) fun x9=>some x9
theorem WD {rF:(List UInt8)→g_api_Item→Option (List UInt8)}(hF:R5 rF){a0 a1 r}(hm:LG rF a0 a1=some r):Sp prog 281 [.ow 0,ag (Aq a1)] [.row 0 1 _ eB a0] 1 (is (.ow 1) [.row 1 1 _ eB r] 2):=by
 refine sq fun D0 As η0 m0 hd=>oB hm fun x1 q1 hm=>gco (Q1 hF q1)<|gq eB 1 [(toB a1.Tag)]<|oB hm fun x2 q2 hm=>gp eB 1 q2<|oB hm fun x3 q3 hm=>gjU 0 (fun(_:Unit)=>⟨[(0,.ow 3),(5,.ow 2),(3,.pb 1 0)],[(0,.row 3 1 _ eB x3),(1,.row 2 1 _ eB x1),(2,.box 1 [.d (.i a1.Tag),sl eB a1.B,sl Aq a1.L] 192)],[],4⟩) (fun _=>True) (fun Jp bk1=> ?_) fun _ _=> ?_
 ·refine bE q3 ?_;intro x4 q3;refine gi q3 ?_ ?_<;>intro hc1 q3
  ·refine gq eB 1 [(toB (x1.length:Int))]<|oB q3 fun x5 q5 q3=>gp eB 1 q5 ?_;obtain rfl:=Aid q3;exact gb bk1 hd () trivial
  refine bE q3 ?_;intro x6 q3;refine gi q3 ?_ ?_<;>intro hc2 q3
  ·refine gq eB 1 [129,(toB (x1.length:Int))]<|oB q3 fun x7 q7 q3=>gp eB 1 q7 ?_;obtain rfl:=Aid q3;exact gb bk1 hd () trivial
  refine gq eB 1 [130,(toB (Bx (x1.length:Int) 8)),(toB (x1.length:Int))]<|oB q3 fun x8 q8 q3=>gp eB 1 q8 ?_;obtain rfl:=Aid q3;exact gb bk1 hd () trivial
 refine oB hm fun x9 q9 hm=>gp eB 1 q9 ?_;obtain rfl:=Aid hm;exact gE
def Hu:Nat→(List UInt8)→g_api_Item→Option (List UInt8)
 |0,_,_=>none
 |n+1,a0,a1=>LG (Hu n) a0 a1
def RB (a0:List UInt8)(a1:g_api_Item):Option (List UInt8):=Hu Gr a0 a1
theorem SH: ∀n,R5 (Hu n)
 |0=>fun hm=>by cases hm
 |n+1=>fun hm=>WD (SH n) hm
theorem Aaf {a0:List UInt8}{a1:g_api_Item}{r:List UInt8}(hm:RB a0 a1=some r):Sp prog 281 [.ow 0,ag (Aq a1)] [.row 0 1 _ eB a0] 1 (is (.ow 1) [.row 1 1 _ eB r] 2):=SH Gr hm
def JQ (a0:g_api_Item):Option ((List UInt8)×Int):=Ab (RC a0 8) fun x1=>if(!x1)=true then some (([]:List UInt8),1)else Ab (RB ([]:List UInt8) a0) fun x2=>if(decide ((x2.length:Int)>8192))=true then some (([]:List UInt8),2)else some (x2,0)
theorem Q2 {a0 r}(hm:JQ a0=some r):Sp prog 209 [ag (Aq a0)] [] 0 (is (.tup [.ow 0,.d (.i r.2)]) [.row 0 1 _ eB r.1] 1):=by
 refine sq ?_;intros;refine gA hm Aag fun x1 q1 hm=>gi hm ?_ ?_<;>intro hc1 hm
 ·refine Ac7 eB 2 1 ?_;exact Aid hm▸gE
 refine oB hm fun x2 q2 hm=>gco (Sp.nil0 (Aaf q2) rfl)<|gi hm ?_ ?_<;>intro hc2 hm
 ·refine Ac7 eB 2 1 ?_;exact Aid hm▸gE
 exact Aid hm▸gE
def Bj (a0:List g_api_Item):Option (List g_api_Item):=Ab (app 56 ([]:List g_api_Item) a0) fun x1=>some x1
theorem HQ {m As w a0}{a0v0:Value}{r}(S:St m (As) w)(a0h0:SlR m a0v0 a0)(hm:Bj a0=some r):
  AK Tryz.prog 298 #[a0v0] w fun v w'=> ∃(M:Mem),m≤M∧∃(rv0:Value) (rc0:List Value),St M ((row 3 rv0 rc0 r.length)::As) w'∧v=rv0∧AH M rc0 r:=by
 unfold Bj at hm;have L0:=Mem.rfl' m;refine Dp (args:=[a0v0]) Tryz.func298 rfl Tryz.ntmps298 (Aih rfl)<|Ag<|Ac<|AD (v:= .slice none 0 0) rfl<|Ah<|nrm<|Ag<|Ag<|Ac ?_;refine Ak (v:=a0v0) rfl<|Hs rfl rfl a0h0 Tryz.underlying190<|Ah<|nrm<|BL (t:=(I4 a0v0)) rfl (fun hc1=> ?_) (fun hc1=> ?_)
 ·have he1:a0=[]:=SlR.nilOf a0h0 hc1;rw[he1]at hm;replace hm:(some ([]:List g_api_Item))=some _:=hm;refine Ag<|Ac<|AD (v:= .slice none 0 0) rfl<|Ah<|nrm<|AZ<|thR<|Db ?_;intro we hpd;replace S:=St.pd S hpd;have S1:=St.rowNil S 3;have h1:AH m [] ([]:List g_api_Item):=AH.nil;replace S1:St _ ((row 3 (.slice none 0 0) [] ([]:List g_api_Item).length)::As) _:=S1;clear S;obtain rfl:=Aid hm;exact Io [_] rfl ⟨rfl,trivial⟩ ⟨_,L0,_,_,S1,rfl,h1⟩
 refine AL<|nrm<|Ag<|Ac<|Hq (parts:=[]) (vs:=[]) (cls:=[]) (n:=0) (sz:=3) S Tryz.underlying190 Tryz.sizeOf192 Tryz.zeroValue192 rfl trivial rfl rfl (by decide) (by decide) ?_;intro v1 w1 S2;have h2:AH m [] ([]:List g_api_Item):=AH.nil;replace S2:St _ ((row 3 v1 [] ([]:List g_api_Item).length)::As) _:=S2;clear S;refine Ak (v:=a0v0) rfl ?_;obtain⟨x1,q1,hm⟩:=Ad hm;refine Mg (i:=0) (zs:=x1) (bytes:=56) (ti:=Tryz.t192) S2 rfl rfl h2 rfl rfl a0h0 q1 Tryz.underlying190 Tryz.type192 rfl rfl rfl rfl ?_;intro v2 c1 w2 S3 h3;replace S3:St _ ((row 3 v2 c1 x1.length)::As) _:=S3;clear S2;refine AD (v:=v2) rfl<|Ah<|nrm<|AZ<|Db ?_;intro we hpd;replace S3:=St.pd S3 hpd;obtain rfl:=Aid hm;exact Io [_] rfl ⟨rfl,trivial⟩ ⟨_,L0,_,_,S3,rfl,h3⟩
theorem HX {a0 r}(hm:Bj a0=some r):Sp prog 298 [sl Aq a0] [] 0 (is (.ow 0) [.row 0 3 _ Aq r] 1):=
 ⟨call298,fun η m As w vs hv0 hd S=>by
  have S:St m As w:=S;obtain⟨v0,u0,rfl,r0,hv1⟩:=Bh.cons_inv hv0;have f0:=Br.ofS Ts r0.dd;obtain rfl:=Bh.nil_inv hv1;refine AK.mono (HQ S f0 hm) ?_;rintro v w' ⟨M,hle,y0,c0,S0,rfl,h0⟩;exact⟨M,(Xt [v]),_,_,_,hle,Wi hd _,⟨rfl,rfl,rfl⟩,Fx rfl,(.ow rfl (B2 S0)),(St.impL S0 (Sn (Br.toR Ts rfl rfl (B2 S0) h0) fun _ h=>h))⟩⟩
def GK (a0:List g_api_Item):Option g_api_Item:=Ab (Bj a0) fun x1=>some (⟨48,[],x1⟩:g_api_Item)
theorem JC {a0 r}(hm:GK a0=some r):Sf prog 235 [sl Aq a0] (ag (Aq r)):=by
 refine sq ?_;intros;refine gD hm HX fun x1 q1 hm=> ?_;exact Aid hm▸gE
def MT (a0:Int)(i1:Int)(s1:UInt8×UInt8×UInt8×UInt8×UInt8×UInt8×UInt8×UInt8):Option (UInt8×UInt8×UInt8×UInt8×UInt8×UInt8×UInt8×UInt8):=if(0:Int)≤(w64 (56-(w64 (8*(i1:Int)))))then Ab (idx [s1.1,s1.2.1,s1.2.2.1,s1.2.2.2.1,s1.2.2.2.2.1,s1.2.2.2.2.2.1,s1.2.2.2.2.2.2.1,s1.2.2.2.2.2.2.2] (i1:Int)) fun x4=>bnd (if(i1:Int)=0 then(toB (Bx a0 ((w64 (56-(w64 (8*(i1:Int))))).toNat)))else s1.1) fun x5=>bnd (if(i1:Int)=1 then(toB (Bx a0 ((w64 (56-(w64 (8*(i1:Int))))).toNat)))else s1.2.1) fun x6=>bnd (if(i1:Int)=2 then(toB (Bx a0 ((w64 (56-(w64 (8*(i1:Int))))).toNat)))else s1.2.2.1) fun x7=>bnd (if(i1:Int)=3 then(toB (Bx a0 ((w64 (56-(w64 (8*(i1:Int))))).toNat)))else s1.2.2.2.1) fun x8=>bnd (if(i1:Int)=4 then(toB (Bx a0 ((w64 (56-(w64 (8*(i1:Int))))).toNat)))else s1.2.2.2.2.1) fun x9=>bnd (if(i1:Int)=5 then(toB (Bx a0 ((w64 (56-(w64 (8*(i1:Int))))).toNat)))else s1.2.2.2.2.2.1) fun x10=>bnd (if(i1:Int)=6 then(toB (Bx a0 ((w64 (56-(w64 (8*(i1:Int))))).toNat)))else s1.2.2.2.2.2.2.1) fun x11=>bnd (if(i1:Int)=7 then(toB (Bx a0 ((w64 (56-(w64 (8*(i1:Int))))).toNat)))else s1.2.2.2.2.2.2.2) fun x12=>some (x5,x6,x7,x8,x9,x10,x11,x12)else none
def Ez (s2:(List UInt8)):Option (((List UInt8))⊕((List UInt8))):=if(decide ((s2.length:Int)>1))=true then Ab (JO s2) fun x16=>if(!x16)=true then Ab (cut s2 1 (s2.length:Int)) fun x17=>some (.inl x17)else some (.inr s2)else some (.inr s2)
def FU (a0:Int):Option g_api_Item:=Ab (Ab (CS (MT a0) 8 0 (0,0,0,0,0,0,0,0)) fun x2=>some (x2.1,x2.2.1,x2.2.2.1,x2.2.2.2.1,x2.2.2.2.2.1,x2.2.2.2.2.2.1,x2.2.2.2.2.2.2.1,x2.2.2.2.2.2.2.2)) fun x1=>Ab (Ab (iter Ez Gr ([x1.1,x1.2.1,x1.2.2.1,x1.2.2.2.1,x1.2.2.2.2.1,x1.2.2.2.2.2.1,x1.2.2.2.2.2.2.1,x1.2.2.2.2.2.2.2]:List UInt8)) fun x14=>some x14) fun x13=>Ab (A6 x13) fun x18=>some (⟨2,x18,[]⟩:g_api_Item)
theorem JD {a0 r}(hm:FU a0=some r):Sf prog 236 [.d (.i a0)] (ag (Aq r)):=by
 refine sq fun D0 As η0 m0 hd=> ?_;unfold FU at hm;obtain⟨x1,q1,hm⟩:=Ad hm;refine oB q1 fun x2 q2 q1=>gF (EM _ 8 _) q2 (fun p0 (p_0,p_1,p_2,p_3,p_4,p_5,p_6,p_7)=>⟨[(0,.d (.i a0)),(2,.pb 0 0),(3,.pb 1 0),(6,.d (.i p0))],[(0,.box 1 [.d (.b p_0),.d (.b p_1),.d (.b p_2),.d (.b p_3),.d (.b p_4),.d (.b p_5),.d (.b p_6),.d (.b p_7)] 300),(1,.box 0 [.d (.i 0),sl eB [],sl Aq []] 192)],[],2⟩) fun i1 s1 Jl bl1=>cM bl1 (8:Int) (fun y1 q5 bl1=> ?_) fun e=> ?_
 ·unfold MT at q5;obtain⟨q7,q5⟩:=BD q5;refine gsh (r:= .i (Bx a0 ((w64 (56-(w64 (8*(i1:Int))))).toNat))) (fun h=>q7)<|oB q5 fun x4 q8 q5=>UO (fun _=>q8)<|bE q5 ?_;intro x5 q5;refine bE q5 ?_;intro x6 q5;refine bE q5 ?_;intro x7 q5;refine bE q5 ?_;intro x8 q5;refine bE q5 ?_;intro x9 q5;refine bE q5 ?_;intro x10 q5;refine bE q5 ?_;intro x11 q5;refine bE q5 ?_;intro x12 q5;exact gstA D.b (toB (Bx a0 ((w64 (56-(w64 (8*(i1:Int))))).toNat))) q8<|gM bl1 lk q5
 subst e;obtain rfl:=Aid q1;let x1:=(x2.1,x2.2.1,x2.2.2.1,x2.2.2.2.1,x2.2.2.2.2.1,x2.2.2.2.2.2.1,x2.2.2.2.2.2.2.1,x2.2.2.2.2.2.2.2);refine gslA (k:=1) eB ([x1.1,x1.2.1,x1.2.2.1,x1.2.2.2.1,x1.2.2.2.2.1,x1.2.2.2.2.2.1,x1.2.2.2.2.2.2.1,x1.2.2.2.2.2.2.2]:List UInt8) (fun _=>rfl) ?_;obtain⟨x13,q17,hm⟩:=Ad hm;refine oB q17 fun x14 q18 q17=>gjU 2 (fun(_:Unit)=>⟨[(2,.pb 0 0),(5,sl eB x14)],[(0,.box 0 [.d (.i 0),sl eB [],sl Aq []] 192)],[],1⟩) (fun _=>True) (fun Jp bk4=> ?_) fun _ _=> ?_
 ·refine gI q18 (fun p=>⟨[(2,.pb 0 0),(5,sl eB p)],[(0,.box 0 [.d (.i 0),sl eB [],sl Aq []] 192)],[],1⟩) fun s2 y2 Jl q21 bl2=>AfH 22 q21 (fun hc2 q21=> ?_) fun hc2 q21=> ?_
  ·refine gA q21 QZ fun x16 q23 q21=>gi q21 ?_ ?_<;>intro hc3 q21
   ·exact oB q21 fun x17 q24 q21=>gk eB 1 q24<|gN bl2 q21
   obtain rfl:=nR bl2 q21;exact gb bk4 hd () trivial
  refine gi' (b:=false) (fun h=>by cases h) (fun _=> ?_);obtain rfl:=nR bl2 q21;exact gb bk4 hd () trivial
 obtain rfl:=Aid q17;let x13:=x14;refine gD hm G7 fun x18 q25 hm=> ?_;obtain rfl:=Aid hm;exact gE
def Fb (a0:UInt64):Option g_api_Item:=Ab (FU (w64 (a0.toNat:Int))) fun x1=>some x1
theorem H4 {a0 r}(hm:Fb a0=some r):Sf prog 238 [.d (.u a0)] (ag (Aq r)):=by
 refine sq ?_;intros;refine gA hm JD fun x1 q1 hm=> ?_;exact Aid hm▸gE
def Jv (a0:ByteArray):Option g_api_Item:=Ab (app 1 ([]:List UInt8) a0.data.toList) fun x1=>some (⟨12,x1,[]⟩:g_api_Item)
theorem Pg {a0 r}(hm:Jv a0=some r):Sf prog 237 [.d (.s a0)] (ag (Aq r)):=by
 refine sq ?_;intros;refine oB hm fun x1 q1 hm=>gofS q1 ?_;exact Aid hm▸gE
def PG (a0:Bool):Option g_api_Item:=Ab (if a0=true then Ab (idx ([0]:List UInt8) 0) fun x2=>bnd (([0]:List UInt8).set (0:Int).toNat 255) fun x3=>some x3 else some ([0]:List UInt8)) fun x1=>some (⟨1,x1,[]⟩:g_api_Item)
theorem Zf {a0 r}(hm:PG a0=some r):Sf prog 240 [.d (.t a0)] (ag (Aq r)):=by
 refine sq fun D0 As η0 m0 hd=>glit (k:=1) eB ([0]:List UInt8) (fun _=>rfl)<|oB hm fun x1 q1 hm=>gj (fun(_:Unit)=>⟨[(2,.pb 0 0),(3,.ow 1)],[(0,.row 1 1 _ eB x1),(1,.box 0 [.d (.i 0),sl eB [],sl Aq []] 192)],[],2⟩) (fun _=>True) (fun Jp bk1=> ?_) fun _ _=> ?_
 ·refine gi q1 ?_ ?_<;>intro hc1 q1
  ·refine oB q1 fun x2 q2 q1=>PI (E:=eB) (fun _=>q2)<|bE q1 ?_;intro x3 q1;refine gstO (k:=1) (E:=eB) 255 (fun _=>rfl) q2 ?_;obtain rfl:=Aid q1;exact gb bk1 hd () trivial
  obtain rfl:=Aid q1;exact gb bk1 hd () trivial
 obtain rfl:=Aid hm;exact gE
def Cl (i1:Int)(x3:ByteArray)(s1:(List g_api_Item)):Option ((List g_api_Item)):=Ab (Jv x3) fun x4=>Ab (app 56 s1 ([x4]:List g_api_Item)) fun x5=>some x5
def Cd (a0:List ByteArray):Option g_api_Item:=Ab (Ab (DA Cl a0 0 ([]:List g_api_Item)) fun x2=>some x2) fun x1=>Ab (GK x1) fun x6=>some x6
theorem HY {a0 r}(hm:Cd a0=some r):Sf prog 239 [sl eS a0,.fn (.func 237) [] []] (ag (Aq r)):=by
 refine sq ?_;intros;unfold Cd at hm;obtain⟨x1,q1,hm⟩:=Ad hm;refine oB q1 fun x2 q2 q1=>V6 0 Aq 5 3<|JZ 0 (E:=eS) (xs:=a0) 8 fun hle1=>gF (E0 _ _ _) q2 (fun p0 p=>⟨[(1,.fn (.func 237) [] []),(4,.pb 0 0),(5,.ow 1),(8,sl eS a0),(9,.d (.i (a0.length:Int))),(10,.d (.i p0))],[(0,.row 1 3 _ Aq p),(1,.box 0 [.d (.i 0),sl eB [],sl Aq []] 192)],[],2⟩) fun i1 s1 Jl bl1=>c0 bl1 (fun x3 y1 q6 q5 bl1=> ?_) fun e=> ?_
 ·exact gx eS 1 q6<|gA q5 Pg fun x4 q7 q5=>gq Aq 3 [x4]<|oB q5 fun x5 q8 q5=>gp Aq 3 q8<|gM bl1 hle1 q5
 subst e;obtain rfl:=Aid q1;let x1:=x2;refine gD hm JC fun x6 q9 hm=> ?_;obtain rfl:=Aid hm;exact gE
def K4 (a0:g_api_Cert):Option g_api_Item:=Ab (FU a0.Serial) fun x1=>Ab (Jv a0.Issuer) fun x2=>Ab (Jv a0.Subject) fun x3=>Ab (Fb a0.Key) fun x4=>Ab (Cd a0.Names) fun x5=>Ab (FU a0.From) fun x6=>Ab (FU a0.Until) fun x7=>Ab (PG a0.Ca) fun x8=>Ab (FU a0.Depth) fun x9=>Ab (Cd a0.Permit) fun x10=>Ab (GK ([x1,x2,x3,x4,x5,x6,x7,x8,x9,x10]:List g_api_Item)) fun x11=>some x11
theorem SO {a0 r}(hm:K4 a0=some r):Sf prog 152 [ag (Ae a0)] (ag (Aq r)):=by
 refine sq ?_;intros;refine gA hm JD fun x1 q1 hm=>gA hm Pg fun x2 q2 hm=>gA hm Pg fun x3 q3 hm=>gA hm H4 fun x4 q4 hm=>gA hm HY fun x5 q5 hm=>gA hm JD fun x6 q6 hm=>gA hm JD fun x7 q7 hm=>gA hm Zf fun x8 q8 hm=>gA hm JD fun x9 q9 hm=> ?_;refine gA hm HY fun x10 q10 hm=>gq Aq 3 [x1,x2,x3,x4,x5,x6,x7,x8,x9,x10]<|gA hm JC fun x11 q11 hm=> ?_;exact Aid hm▸gE
def Jq (a0:g_api_Promise):Option g_api_Item:=Ab (FU a0.Log) fun x1=>Ab (FU a0.At) fun x2=>Ab (Fb a0.Leaf.1) fun x3=>Ab (Fb a0.Leaf.2) fun x4=>Ab (Fb a0.Sig.E) fun x5=>Ab (Fb a0.Sig.S) fun x6=>Ab (GK ([x1,x2,x3,x4,x5,x6]:List g_api_Item)) fun x7=>some x7
theorem TX {a0 r}(hm:Jq a0=some r):Sf prog 308 [ag (Af a0)] (ag (Aq r)):=by
 refine sq ?_;intros;refine gA hm JD fun x1 q1 hm=>gA hm JD fun x2 q2 hm=>gA hm H4 fun x3 q3 hm=>gA hm H4 fun x4 q4 hm=>gA hm H4 fun x5 q5 hm=>gA hm H4 fun x6 q6 hm=>gq Aq 3 [x1,x2,x3,x4,x5,x6]<|gA hm JC fun x7 q7 hm=> ?_;exact Aid hm▸gE
def BA (i1:Int)(x3:g_api_Promise)(s1:(List g_api_Item)):Option ((List g_api_Item)):=Ab (Jq x3) fun x4=>Ab (app 56 s1 ([x4]:List g_api_Item)) fun x5=>some x5
def BX (a0:List g_api_Promise):Option g_api_Item:=Ab (Ab (DA BA a0 0 ([]:List g_api_Item)) fun x2=>some x2) fun x1=>Ab (GK x1) fun x6=>some x6
theorem JE {a0 r}(hm:BX a0=some r):Sf prog 307 [sl Af a0,.fn (.func 308) [] []] (ag (Aq r)):=by
 refine sq ?_;intros;unfold BX at hm;obtain⟨x1,q1,hm⟩:=Ad hm;refine oB q1 fun x2 q2 q1=>V6 0 Aq 5 3<|JZ 0 (E:=Af) (xs:=a0) 8 fun hle1=>gF (E0 _ _ _) q2 (fun p0 p=>⟨[(1,.fn (.func 308) [] []),(4,.pb 0 0),(5,.ow 1),(8,sl Af a0),(9,.d (.i (a0.length:Int))),(10,.d (.i p0))],[(0,.row 1 3 _ Aq p),(1,.box 0 [.d (.i 0),sl eB [],sl Aq []] 192)],[],2⟩) fun i1 s1 Jl bl1=>c0 bl1 (fun x3 y1 q6 q5 bl1=> ?_) fun e=> ?_
 ·exact gx Af 6 q6<|gA q5 TX fun x4 q7 q5=>gq Aq 3 [x4]<|oB q5 fun x5 q8 q5=>gp Aq 3 q8<|gM bl1 hle1 q5
 subst e;obtain rfl:=Aid q1;let x1:=x2;refine gD hm JC fun x6 q9 hm=> ?_;obtain rfl:=Aid hm;exact gE
def JU (a0:g_api_Cert):Option g_api_Item:=Ab (K4 a0) fun x1=>Ab (BX a0.Proms) fun x2=>Ab (GK ([x1,x2]:List g_api_Item)) fun x3=>some x3
theorem Q6 {a0 r}(hm:JU a0=some r):Sf prog 250 [ag (Ae a0)] (ag (Aq r)):=by
 refine sq ?_;intros;refine gA hm SO fun x1 q1 hm=>gA hm JE fun x2 q2 hm=>gq Aq 3 [x1,x2]<|gA hm JC fun x3 q3 hm=> ?_;exact Aid hm▸gE
def Ko (a0:g_api_Cert):Option g_api_Item:=Ab (JU a0) fun x1=>Ab (Fb a0.Sig.E) fun x2=>Ab (Fb a0.Sig.S) fun x3=>Ab (GK ([x2,x3]:List g_api_Item)) fun x4=>Ab (GK ([x1,x4]:List g_api_Item)) fun x5=>some x5
theorem Vv {a0 r}(hm:Ko a0=some r):Sf prog 210 [ag (Ae a0)] (ag (Aq r)):=by
 refine sq ?_;intros;refine gA hm Q6 fun x1 q1 hm=>gA hm H4 fun x2 q2 hm=>gA hm H4 fun x3 q3 hm=>gq Aq 3 [x2,x3]<|gA hm JC fun x4 q4 hm=>gq Aq 3 [x1,x4]<|gA hm JC fun x5 q5 hm=> ?_;exact Aid hm▸gE
def Cv (a0:g_api_Cert):Option Int:=Ab (Jo a0) fun x1=>if(!x1)=true then some 1 else Ab (Ko a0) fun x2=>Ab (JQ x2) fun x3=>if((x3.2 !=0)||(decide ((x3.1.length:Int)>2048)))=true then some 2 else some 0
theorem FI {a0 r}(hm:Cv a0=some r):Sf prog 130 [ag (Ae a0)] (.d (.i r)):=by
 refine sq ?_;intros;refine gA hm TW fun x1 q1 hm=>gi hm ?_ ?_<;>intro hc1 hm
 ·exact Aid hm▸gE
 refine gA hm Vv fun x2 q2 hm=>gD hm Q2 fun x3 q3 hm=>gi hm ?_ ?_<;>intro hc2 hm
 ·exact Aid hm▸gE
 exact Aid hm▸gE
def A3 (a1:Int):Option (List g_api_Cert):=Ab (if(decide (a1<0))=true then none else some ()) fun x1=>Ab (bnd ((w64 (a1-(w64 (0-((0:Nat):Int)))))) fun x3=>if(decide (x3>0))=true then if 0≤x3∧x3*168≤140737488355328∧x3≤140737488355328 then some ([]:List g_api_Cert)else none else some ([]:List g_api_Cert)) fun x2=>some x2
theorem GX {m As w a1 r}(S:St m (As) w)(hm:A3 a1=some r):
  AK Tryz.prog 228 #[.slice none 0 0,vI a1] w fun v w'=> ∃(M:Mem),m≤M∧∃(rv0:Value) (rc0:List Value),St M ((row 13 rv0 rc0 r.length)::As) w'∧v=rv0∧AH M rc0 r:=by
 unfold A3 at hm;have L0:=Mem.rfl' m;refine Dp (args:=[.slice none 0 0,vI a1]) Tryz.func228 rfl Tryz.ntmps228 (Aih rfl)<|Ag<|Ac<|AD (v:= .slice none 0 0) rfl<|Ah<|nrm ?_;obtain⟨x1,q1,hm⟩:=Ad hm;have L1:=Mem.rfl' m;refine Ag<|Bu [5,6,7] (fun f' w'=> ∃(M1:Mem),m≤M1∧St M1 (As) w'∧C2 f' []) ?_ ?_
 ·refine Ag<|Ac<|Ak (v:=vI a1) rfl<|Kz (m:=a1) (n:=0) rfl rfl<|Ah<|nrm<|BL (t:=(decide (a1<0))) rfl (fun hc1=> ?_) (fun hc1=> ?_)
  ·replace q1:=ifT hc1 q1;cases q1
  replace q1:=ifF hc1 q1;refine AL<|nrm ?_;obtain rfl:=Aid q1;exact⟨EY,m,L1,S,trivial⟩
 rintro f1 w1 ho ⟨m1,l1,S1,ha⟩;obtain⟨u1,rfl⟩:=Bt (N:=27) ho ha;replace L0:=Mem.tr L0 l1;clear S;obtain⟨x2,q2,hm⟩:=Ad hm;have L2:=Mem.rfl' m1;refine Ag<|Bu [0,1,8,9,10,11,12,13,14,15,16,17,18,19,20,21,22,23,24,25] (fun f' w'=> ∃(M2:Mem) (v1:Value) (c1:List Value),m1≤M2∧St M2 ((row 13 v1 c1 x2.length)::As) w'∧AH M2 c1 x2∧C2 f' [(0,v1)]) ?_ ?_
 ·refine Ag<|Ac<|Ak (v:=vI a1) rfl<|Ak (v:= .slice none 0 0) rfl<|Nl rfl Tryz.underlying22<|Ak (v:= .slice none 0 0) rfl<|Rk (n:=0) rfl Tryz.underlying22<|LV (m:=0) (n:=((0:Nat):Int)) rfl rfl<|LV (m:=a1) (n:=(w64 (0-((0:Nat):Int)))) rfl rfl ?_;obtain⟨x3,q3,q2⟩:=I5 q2;refine AD (v:=vI x3) (Aiz (fun z=>vI z) q3.symm)<|Ah<|nrm<|Ag<|Ac<|Ak (v:=vI x3) rfl<|Ue (m:=x3) (n:=0) rfl rfl<|Ah<|nrm ?_;refine BL (t:=(decide (x3>0))) rfl (fun hc2=> ?_) (fun hc2=> ?_)
  ·replace q2:=ifT hc2 q2;refine Ac<|Ak (v:= .slice none 0 0) rfl<|Ak (v:= .slice none 0 0) rfl<|Nl rfl Tryz.underlying22<|AaN rfl Tryz.underlying22 Tryz.sizeOf59 rfl<|Ak (v:=vI x3) rfl ?_;obtain⟨q4,q2⟩:=BD q2;refine AaP (bytes:=168) (sz:=13) (k:=x3) (ti:=Tryz.t59) S1 rfl rfl q4 Tryz.underlying22 Tryz.underlying3 Tryz.type59 rfl rfl rfl rfl ?_;intro v2 c2 w2 S2;replace S2:St _ ((row 13 v2 c2 x3.toNat)::As) _:=S2;clear S1;refine Ak (v:= .slice none 0 0) rfl<|Rk (n:=0) rfl Tryz.underlying22<|VG (i:=0) S2 rfl rfl Tryz.underlying22 Tryz.sizeOf59 rfl (j:=0) rfl (Int.le_refl 0) (Ai4 _) ?_;intro v3 S3;rw[show c2.take ((0:Int).toNat*13)=[]from by simp]at S3;have h2:AH m1 [] ([]:List g_api_Cert):=AH.nil;replace S3:St _ ((row 13 v3 [] ([]:List g_api_Cert).length)::As) _:=S3;clear S2;refine AD (v:=v3) rfl<|Ah<|nrm ?_;obtain rfl:=Aid q2;exact⟨EY,m1,_,_,L2,S3,h2,⟨rfl,trivial⟩⟩
  replace q2:=ifF hc2 q2;refine AL<|nrm ?_;have S4:=St.rowNil S1 13;have h3:AH m1 [] ([]:List g_api_Cert):=AH.nil;replace S4:St _ ((row 13 (.slice none 0 0) [] ([]:List g_api_Cert).length)::As) _:=S4;clear S1;obtain rfl:=Aid q2;exact⟨EY,m1,_,_,L2,S4,h3,⟨rfl,trivial⟩⟩
 rintro f2 w3 ho ⟨m2,v1,c1,l2,S5,h1,ha⟩;obtain⟨u2,rfl⟩:=Bt (N:=27) ho ha;replace L0:=Mem.tr L0 l2;clear S1;refine Ag<|Ac<|Ak (v:=v1) rfl<|AD (v:=v1) rfl<|Ah<|nrm<|AZ<|Db ?_;intro we hpd;replace S5:=St.pd S5 hpd;obtain rfl:=Aid hm;exact Io [_] rfl ⟨rfl,trivial⟩ ⟨_,L0,_,_,S5,rfl,h1⟩
def Az (i1:Int)(x3:List g_api_Cert)(s1:Int):Option (Int):=Ab (bnd ((w64 (s1+(x3.length:Int)))) fun x5=>if(decide (x5<0))=true then none else some x5) fun x4=>some x4
def AF (i2:Int)(x9:List g_api_Cert)(s2:(List g_api_Cert)):Option ((List g_api_Cert)):=Ab (app 168 s2 x9) fun x10=>some x10
def AY (a0:List (List g_api_Cert)):Option (List g_api_Cert):=Ab (Ab (DA Az a0 0 0) fun x2=>some x2) fun x1=>Ab (A3 x1) fun x6=>Ab (Ab (DA AF a0 0 x6) fun x8=>some x8) fun x7=>some x7
theorem Hl {m As w a0}{a0v0:Value}{r}(S:St m (As) w)(a0h0:SlR m a0v0 a0)(hm:AY a0=some r):
  AK Tryz.prog 146 #[a0v0] w fun v w'=> ∃(M:Mem),m≤M∧∃(rv0:Value) (rc0:List Value),St M ((row 13 rv0 rc0 r.length)::As) w'∧v=rv0∧AH M rc0 r:=by
 unfold AY at hm;have L0:=Mem.rfl' m;refine Dp (args:=[a0v0]) Tryz.func146 rfl Tryz.ntmps146 (Aih rfl)<|Ag<|Ac<|AD (v:= .slice none 0 0) rfl<|Ah<|nrm<|Ag<|Ac<|AD (v:=vI 0) rfl ?_;refine Ah<|nrm ?_;obtain⟨x1,q1,hm⟩:=Ad hm;have L1:=Mem.rfl' m;refine Ag<|Bu [3,5,9,10,11,12,13,14,15,16,17,18,19,20,21,22] (fun f' w'=> ∃(M1:Mem),m≤M1∧St M1 (As) w'∧C2 f' [(3,vI x1)]) ?_ ?_
 ·refine Ag<|Ac<|Ak (v:=a0v0) rfl<|Hr (xs:=a0) rfl a0h0 Tryz.underlying273<|Ak (v:=vI 0) rfl<|Ah<|nrm ?_;obtain⟨x2,q2,q1⟩:=Ad q1;have L2:=Mem.rfl' m;refine Bu [3,5,11,12,13,14,15,16,17,18,19,20,21,22] (fun f' w'=> ∃(M2:Mem),m≤M2∧St M2 (As) w'∧C2 f' [(3,vI x2)]) ?_ ?_
  ·refine Bi<|DT [3,5,11,12,13,14,15,16,17,18,19,20,21,22] (fun n1 f' w'=> ∃(i1:Nat) (s1:Int) (m3:Mem),n1=a0.length-i1∧i1≤a0.length∧DA Az (a0.drop i1) (i1:Int) s1=some x2∧m≤m3∧St m3 (As) w'∧C2 f' [(11,vI (i1:Int)),(3,vI s1)]) a0.length ⟨0,0,m,rfl,Ajf _,q2,L2,S,⟨rfl,rfl,trivial⟩⟩ ?_;rintro n1 f1 w1 ho ⟨i1,s1,m1,hn,hi,q3,L4,S1,ha⟩;obtain⟨u1,rfl⟩:=Bt (N:=36) ho ha;clear ho ha;replace a0h0:=a0h0.up L4;have L3:=Mem.rfl' m1;clear S;refine Ag<|Ac<|Kz (m:=(i1:Int)) (n:=(a0.length:Int)) rfl rfl<|Ah<|nrm<|Ag<|BL (t:=decide ((i1:Int)<(a0.length:Int))) rfl (fun hc2=> ?_) (fun hc2=> ?_)
   ·have hlt1:i1<a0.length:=by have:=AiU hc2; omega
    obtain⟨x3,y1,q6,q5,q4⟩:=Ks q3 hlt1;unfold Az at q5;refine AL<|nrm ?_;obtain⟨x4,q7,q5⟩:=Ad q5;have L5:=Mem.rfl' m1;refine Ag<|Bu [3,5,13,14,15,16,17,18,19,20,21] (fun f' w'=> ∃(M3:Mem),m1≤M3∧St M3 (As) w'∧C2 f' [(3,vI x4)]) ?_ ?_
    ·refine Bi<|Ag<|Ac<|Sr (q:=x3) rfl rfl a0h0 q6 Tryz.underlying273 Tryz.sizeOf22 ?_;intro p1 c1 h1 r1;obtain⟨v1,rfl,h2⟩:=r1;refine Sq (cs:=[v1]) S1 rfl h1 rfl Tryz.isAgg22 Tryz.sizeOf22 (fun _=>rfl)<|AD (v:=v1) rfl<|Ah<|nrm<|Ag<|Ac<|Ak (v:=vI s1) rfl<|Ak (v:=v1) rfl<|Hr (xs:=x3) rfl h2 Tryz.underlying22 ?_;refine Gs (m:=s1) (n:=(x3.length:Int)) rfl rfl ?_;obtain⟨x5,q8,q7⟩:=I5 q7;refine AD (v:=vI x5) (Aiz (fun z=>vI z) q8.symm)<|Ah<|nrm<|Ag<|Ac<|Ak (v:=vI x5) rfl<|Kz (m:=x5) (n:=0) rfl rfl<|Ah<|nrm ?_;refine BL (t:=(decide (x5<0))) rfl (fun hc1=> ?_) (fun hc1=> ?_)
     ·replace q7:=ifT hc1 q7;cases q7
     replace q7:=ifF hc1 q7;refine AL<|VR<|nrm ?_;obtain rfl:=Aid q7;exact⟨EY,m1,L5,S1,⟨rfl,trivial⟩⟩
    rintro f2 w2 ho ⟨m2,l1,S2,ha⟩;obtain⟨u2,rfl⟩:=Bt (N:=36) ho ha;replace a0h0:=a0h0.up l1;replace L3:=Mem.tr L3 l1;clear S1;refine Ac<|Gs (m:=(i1:Int)) (n:=1) rfl rfl<|Ak (v:=vI (w64 ((i1:Int)+1))) rfl<|Ah<|nrm ?_;obtain rfl:=Aid q5;exact⟨EY,_,(by omega),⟨i1+1,x4,m2,rfl,hlt1,q4,Mem.tr L4 L3,S2,⟨Aiz (Value.int .i64) (Im hlt1 (SlR.le a0h0)),rfl,trivial⟩⟩⟩
   have hlt1: ¬i1<a0.length:=by have:=Ai3 hc2; omega
   have e:=Eq.symm (IN q3 hlt1);subst e;exact F8<|thE<|thE<|exB<|nrm<|⟨EY,m1,Mem.tr L4 L3,S1,⟨rfl,trivial⟩⟩
  rintro f3 w3 ho ⟨m4,l2,S3,ha⟩;obtain⟨u3,rfl⟩:=Bt (N:=36) ho ha;clear ho ha;replace a0h0:=a0h0.up l2;replace L1:=Mem.tr L1 l2;clear S;obtain rfl:=Aid q1;exact⟨EY,m4,L1,S3,⟨rfl,trivial⟩⟩
 rintro f4 w4 ho ⟨m5,l3,S4,ha⟩;obtain⟨u4,rfl⟩:=Bt (N:=36) ho ha;replace a0h0:=a0h0.up l3;replace L0:=Mem.tr L0 l3;clear S;refine Ag<|Ac<|Ak (v:=vI x1) rfl ?_;obtain⟨x6,q9,hm⟩:=Ad hm;refine GC Tryz.call228 (GX (a1:=x1) S4 q9) rfl ?_;rintro v2 w5 ⟨m6,l4,_,c2,S5,rfl,h3⟩;replace a0h0:=a0h0.up l4;replace L0:=Mem.tr L0 l4;clear S4;replace S5:St _ ((row 13 v2 c2 x6.length)::As) _:=S5;refine AD (v:=v2) rfl<|Ah<|nrm ?_;obtain⟨x7,q10,hm⟩:=Ad hm;have L6:=Mem.rfl' m6;refine Ag<|Bu [6,8,25,26,27,28,29,30,31,32,33,34] (fun f' w'=> ∃(M4:Mem) (v3:Value) (c3:List Value),m6≤M4∧St M4 ((row 13 v3 c3 x7.length)::As) w'∧AH M4 c3 x7∧C2 f' [(6,v3)]) ?_ ?_
 ·refine Ag<|Ac<|Ak (v:=a0v0) rfl<|Hr (xs:=a0) rfl a0h0 Tryz.underlying273<|Ak (v:=vI 0) rfl<|Ah<|nrm ?_;obtain⟨x8,q11,q10⟩:=Ad q10;have L7:=Mem.rfl' m6;refine Bu [6,8,27,28,29,30,31,32,33,34] (fun f' w'=> ∃(M5:Mem) (v5:Value) (c5:List Value),m6≤M5∧St M5 ((row 13 v5 c5 x8.length)::As) w'∧AH M5 c5 x8∧C2 f' [(6,v5)]) ?_ ?_
  ·refine Bi<|DT [6,8,27,28,29,30,31,32,33,34] (fun n2 f' w'=> ∃(i2:Nat) (s2:(List g_api_Cert)) (m8:Mem) (v4:Value) (c4:List Value),n2=a0.length-i2∧i2≤a0.length∧DA AF (a0.drop i2) (i2:Int) s2=some x8∧m6≤m8∧St m8 ((row 13 v4 c4 s2.length)::As) w'∧AH m8 c4 s2∧C2 f' [(27,vI (i2:Int)),(6,v4)]) a0.length ⟨0,x6,m6,_,_,rfl,Ajf _,q11,L7,S5,h3,⟨rfl,rfl,trivial⟩⟩ ?_;rintro n2 f5 w6 ho ⟨i2,s2,m7,v4,c4,hn,hi,q12,L9,S6,h5,ha⟩;obtain⟨u5,rfl⟩:=Bt (N:=36) ho ha;clear ho ha;replace a0h0:=a0h0.up L9;have L8:=Mem.rfl' m7;clear S5;refine Ag<|Ac<|Kz (m:=(i2:Int)) (n:=(a0.length:Int)) rfl rfl<|Ah<|nrm<|Ag<|BL (t:=decide ((i2:Int)<(a0.length:Int))) rfl (fun hc3=> ?_) (fun hc3=> ?_)
   ·have hlt2:i2<a0.length:=by have:=AiU hc3; omega
    obtain⟨x9,y2,q15,q14,q13⟩:=Ks q12 hlt2;unfold AF at q14;refine AL<|nrm<|Ag<|Bi<|Ag<|Ac<|Sr (q:=x9) rfl rfl a0h0 q15 Tryz.underlying273 Tryz.sizeOf22 ?_;intro p2 c6 h7 r6;obtain⟨v6,rfl,h8⟩:=r6;refine Sq (cs:=[v6]) S6 rfl h7 rfl Tryz.isAgg22 Tryz.sizeOf22 (fun _=>rfl)<|AD (v:=v6) rfl<|Ah<|nrm<|Ac<|Ak (v:=v4) rfl<|Ak (v:=v6) rfl ?_;obtain⟨x10,q16,q14⟩:=Ad q14;refine Mg (i:=0) (zs:=x10) (bytes:=168) (ti:=Tryz.t59) S6 rfl rfl h5 rfl rfl h8 q16 Tryz.underlying22 Tryz.type59 rfl rfl rfl rfl ?_;intro v7 c7 w7 S7 h9;replace S7:St _ ((row 13 v7 c7 x10.length)::As) _:=S7;clear S6;refine AD (v:=v7) rfl<|Ah<|VR<|nrm<|Ac<|Gs (m:=(i2:Int)) (n:=1) rfl rfl<|Ak (v:=vI (w64 ((i2:Int)+1))) rfl<|Ah<|nrm ?_;obtain rfl:=Aid q14;exact⟨EY,_,(by omega),⟨i2+1,x10,m7,_,_,rfl,hlt2,q13,Mem.tr L9 L8,S7,h9,⟨Aiz (Value.int .i64) (Im hlt2 (SlR.le a0h0)),rfl,trivial⟩⟩⟩
   have hlt2: ¬i2<a0.length:=by have:=Ai3 hc3; omega
   have e:=Eq.symm (IN q12 hlt2);subst e;exact F8<|thE<|thE<|exB<|nrm<|⟨EY,m7,_,_,Mem.tr L9 L8,S6,h5,⟨rfl,trivial⟩⟩
  rintro f6 w8 ho ⟨m9,v5,c5,l5,S8,h6,ha⟩;obtain⟨u6,rfl⟩:=Bt (N:=36) ho ha;clear ho ha;replace L6:=Mem.tr L6 l5;clear S5;obtain rfl:=Aid q10;exact⟨EY,m9,_,_,L6,S8,h6,⟨rfl,trivial⟩⟩
 rintro f7 w9 ho ⟨m10,v3,c3,l6,S9,h4,ha⟩;obtain⟨u7,rfl⟩:=Bt (N:=36) ho ha;replace L0:=Mem.tr L0 l6;clear S5;refine Ag<|Ac<|Ak (v:=v3) rfl<|AD (v:=v3) rfl<|Ah<|nrm<|AZ<|Db ?_;intro we hpd;replace S9:=St.pd S9 hpd;obtain rfl:=Aid hm;exact Io [_] rfl ⟨rfl,trivial⟩ ⟨_,L0,_,_,S9,rfl,h4⟩
theorem Hp {a0 r}(hm:AY a0=some r):Sp prog 146 [sl (eL Ae) a0] [] 0 (is (.ow 0) [.row 0 13 _ Ae r] 1):=
 ⟨call146,fun η m As w vs hv0 hd S=>by
  have S:St m As w:=S;obtain⟨v0,u0,rfl,r0,hv1⟩:=Bh.cons_inv hv0;have f0:=Br.ofS (Br.sl Ik) r0.dd;obtain rfl:=Bh.nil_inv hv1;refine AK.mono (Hl S f0 hm) ?_;rintro v w' ⟨M,hle,y0,c0,S0,rfl,h0⟩;exact⟨M,(Xt [v]),_,_,_,hle,Wi hd _,⟨rfl,rfl,rfl⟩,Fx rfl,(.ow rfl (B2 S0)),(St.impL S0 (Sn (Br.toR Ik rfl rfl (B2 S0) h0) fun _ h=>h))⟩⟩
def EI (i1:Int)(x3:g_api_Cert)(s1:Unit):Option ((Unit)⊕Int):=Ab (Cv x3) fun x4=>if(x4 !=0)=true then some (.inr x4)else some (.inl ())
def GP (a0:g_path_trip):Option Int:=Ab (AY ([a0.chain_,a0.roots_]:List (List g_api_Cert))) fun x1=>Ab (EV EI x1 0 ()) fun x2=>match x2 with| .inr r=>some r| .inl y1=>some 0
theorem Qm {a0 r}(hm:GP a0=some r):Sf prog 73 [ag (EW a0)] (.d (.i r)):=by
 refine sq ?_;intros;refine gq (eL Ae) 1 [a0.chain_,a0.roots_]<|gD hm Hp fun x1 q1 hm=>oB hm fun x2 q2 hm=>JZ 0 (E:=Ae) (xs:=x1) 11 fun hle1=>gF (ER _ _ _) q2 (fun p0 _=>⟨[(11,sl Ae x1),(12,.d (.i (x1.length:Int))),(13,.d (.i p0)),(1,.pb 0 0)],[(0,.box 0 [sl Ae a0.roots_,sl Ae a0.chain_,.d (.s a0.name_),.d (.i a0.now_)] 124)],[],1⟩) fun i1 s1 Jl bl1=>cR bl1 (fun x3 y2 q6 q5 bl1=> ?_) fun e=> ?_
 ·refine gx Ae 13 q6<|gA q5 FI fun x4 q7 q5=>gi q5 ?_ ?_<;>intro hc1 q5
  ·obtain rfl:=nT bl1 q5;exact Aid hm▸gE
  exact gT bl1 hle1 q5
 subst e;exact Aid hm▸gE
def Fq (a0:g_path_trip)(a1:g_api_Cert):Option Bool:=bnd (((decide (a1.From≤a0.now_))&&(decide (a1.Until>a0.now_)))) fun x1=>some x1
theorem J7 {a0 a1 r}(hm:Fq a0 a1=some r):Sf prog 147 [ag (EW a0),ag (Ae a1)] (.d (.t r)):=by
 refine sq ?_;intros;refine bE hm ?_;intro x1 hm;obtain rfl:=Aid hm;exact gE
def BZ (a0:List ByteArray)(a1:ByteArray)(i1:Int)(s1:Unit):Option ((Unit)⊕Int):=Ab (idx a0 (i1:Int)) fun x3=>if(eqS a1 x3)=true then some (.inr (i1:Int))else some (.inl ())
def Dh (a0:List ByteArray)(a1:ByteArray):Option Int:=Ab (B6 (BZ a0 a1) a0.length 0 ()) fun x1=>match x1 with| .inr r=>some r| .inl y1=>some (-1)
theorem I7 {a0 a1 r}(hm:Dh a0 a1=some r):Sf prog 229 [sl eS a0,.d (.s a1)] (.d (.i r)):=by
 refine sq ?_;intros;refine oB hm fun x1 q1 hm=>JZ 0 (E:=eS) (xs:=a0) 6 fun hle1=>gF (EN _ _ _) q1 (fun p0 _=>⟨[(0,sl eS a0),(1,.d (.s a1)),(7,.d (.i (a0.length:Int))),(8,.d (.i p0))],[],[],0⟩) fun i1 s1 Jl bl1=>cN bl1 (a0.length:Int) (fun y2 q4 bl1=> ?_) fun e=> ?_
 ·refine oB q4 fun x3 q6 q4=>gx eS 1 q6<|gi q4 ?_ ?_<;>intro hc1 q4
  ·obtain rfl:=nT bl1 q4;exact Aid hm▸gE
  exact gT bl1 hle1 q4
 subst e;exact Aid hm▸gE
def B0 (a0:List ByteArray)(a1:ByteArray):Option Bool:=Ab (Dh a0 a1) fun x1=>some (decide (x1≥0))
theorem H2 {a0 a1 r}(hm:B0 a0 a1=some r):Sf prog 148 [sl eS a0,.d (.s a1)] (.d (.t r)):=by
 refine sq ?_;intros;refine gA hm I7 fun x1 q1 hm=> ?_;exact Aid hm▸gE
def CI (a0:g_path_trip)(i1:Int)(s1:Bool):Option ((Bool)⊕Int):=Ab (idx a0.chain_ (i1:Int)) fun x3=>Ab (gu (!s1) (Fq a0 x3)) fun x4=>if(x3.Ca==(decide ((i1:Int)>0)))=true then some (.inl (s1||(!x4)))else some (.inr 191)
def Ge (a0:g_path_trip):Option Int:=Ab (B6 (CI a0) a0.chain_.length 0 false) fun x1=>match x1 with| .inr r=>some r| .inl y1=>Ab (idx a0.chain_ 0) fun x5=>Ab (B0 x5.Names a0.name_) fun x6=>if(!x6)=true then some 110 else if y1=true then some 190 else some 0
theorem Pe {a0 r}(hm:Ge a0=some r):Sf prog 74 [ag (EW a0)] (.d (.i r)):=by
 refine sq ?_;intros;refine oB hm fun x1 q1 hm=>JZ 0 (E:=Ae) (xs:=a0.chain_) 7 fun hle1=>gF (EN _ _ _) q1 (fun p0 p=>⟨[(1,.pb 0 0),(3,.d (.t p)),(7,sl Ae a0.chain_),(8,.d (.i (a0.chain_.length:Int))),(9,.d (.i p0))],[(0,.box 0 [sl Ae a0.roots_,sl Ae a0.chain_,.d (.s a0.name_),.d (.i a0.now_)] 124)],[],1⟩) fun i1 s1 Jl bl1=>cN bl1 (a0.chain_.length:Int) (fun y2 q4 bl1=> ?_) fun e=> ?_
 ·refine oB q4 fun x3 q6 q4=>gx Ae 13 q6<|oB q4 fun x4 q7 q4=>gcH q7 J7<|gi q4 ?_ ?_<;>intro hc1 q4
  ·exact gT bl1 hle1 q4
  obtain rfl:=nT bl1 q4;obtain rfl:=Aid hm;exact gE
 subst e;let y1:=s1;refine oB hm fun x5 q8 hm=>gx Ae 13 q8<|gA hm H2 fun x6 q9 hm=>gi hm ?_ ?_<;>intro hc3 hm
 ·obtain rfl:=Aid hm;exact gE
 refine gi hm ?_ ?_<;>intro hc4 hm
 ·obtain rfl:=Aid hm;exact gE
 obtain rfl:=Aid hm;exact gE
def Ie (a0:g_api_Cert):Option ((List UInt8)×Int):=Ab (Cv a0) fun x1=>if(x1 !=0)=true then some (([]:List UInt8),x1)else Ab (JU a0) fun x2=>Ab (JQ x2) fun x3=>some (x3.1,x3.2)
theorem Ps {a0 r}(hm:Ie a0=some r):Sp prog 151 [ag (Ae a0),.fn (.func 250) [] []] [] 0 (is (.tup [.ow 0,.d (.i r.2)]) [.row 0 1 _ eB r.1] 1):=by
 refine sq ?_;intros;refine gA hm FI fun x1 q1 hm=>gi hm ?_ ?_<;>intro hc1 hm
 ·refine Ac7 eB 4 1 ?_;exact Aid hm▸gE
 refine gA hm Q6 fun x2 q2 hm=>gD hm Q2 fun x3 q3 hm=> ?_;exact Aid hm▸gE
def JV (a0:g_api_Cert):Option ((List UInt8)×Int):=Ab (Ie a0) fun x1=>some (x1.1,x1.2)
theorem Q7 {a0 r}(hm:JV a0=some r):Sp prog 164 [ag (Ae a0)] [] 0 (is (.tup [.ow 0,.d (.i r.2)]) [.row 0 1 _ eB r.1] 1):=by
 refine sq ?_;intros;refine gD hm Ps fun x1 q1 hm=> ?_;exact Aid hm▸gE
def IL (a0:UInt64)(a1:UInt64):Option (UInt64×UInt64):=bnd (((a0&&&4294967295)*(a1&&&4294967295))) fun x1=>bnd ((((E7 a0 32)*(a1&&&4294967295))+(E7 x1 32))) fun x2=>bnd (((x2&&&4294967295)+((a0&&&4294967295)*(E7 a1 32)))) fun x3=>bnd (((((E7 a0 32)*(E7 a1 32))+(E7 x2 32))+(E7 x3 32))) fun x4=>some (x4,(a0*a1))
theorem MA {a0 a1 r}(hm:IL a0 a1=some r):Sf prog 304 [.d (.u a0),.d (.u a1)] (.tup [.d (.u r.1),.d (.u r.2)]):=by
 refine sq ?_;intros;refine bE hm ?_;intro x1 hm;refine bE hm ?_;intro x2 hm;refine bE hm ?_;intro x3 hm;refine bE hm ?_;intro x4 hm;obtain rfl:=Aid hm;exact gE
def F4 (a0:UInt64):Option Int:=Ab (if(decide ((a0.toNat:Int)≥4294967296))=true then some ((E7 a0 32),32)else some (a0,0)) fun x1=>Ab (if(decide ((x1.1.toNat:Int)≥65536))=true then some ((E7 x1.1 16),(w64 (x1.2+16)))else some (x1.1,x1.2)) fun x2=>Ab (if(decide ((x2.1.toNat:Int)≥256))=true then some ((E7 x2.1 8),(w64 (x2.2+8)))else some (x2.1,x2.2)) fun x3=>Ab (idx str_0.data.toList ((toB (x3.1.toNat:Int)).toNat:Int)) fun x4=>bnd ((w64 (x3.2+(w64 (x4.toNat:Int))))) fun x5=>some x5
theorem MB {a0 r}(hm:F4 a0=some r):Sf prog 244 [.d (.u a0)] (.d (.i r)):=by
 refine sq fun D0 As η0 m0 hd=>oB hm fun x1 q1 hm=>gj (fun(_:Unit)=>let (y_0,y_1):=x1; ⟨[(0,.d (.u y_0)),(2,.d (.i y_1))],[],[],0⟩) (fun _=>True) (fun Jp bk1=> ?_) fun _ _=> ?_
 ·refine gi q1 ?_ ?_<;>intro hc1 q1
  ·obtain rfl:=Aid q1;exact gb bk1 hd () trivial
  obtain rfl:=Aid q1;exact gb bk1 hd () trivial
 refine oB hm fun x2 q2 hm=>gj (fun(_:Unit)=>let (y_0,y_1):=x2; ⟨[(0,.d (.u y_0)),(2,.d (.i y_1))],[],[],0⟩) (fun _=>True) (fun Jp bk2=> ?_) fun _ _=> ?_
 ·refine gi q2 ?_ ?_<;>intro hc2 q2
  ·obtain rfl:=Aid q2;exact gb bk2 hd () trivial
  obtain rfl:=Aid q2;exact gb bk2 hd () trivial
 refine oB hm fun x3 q3 hm=>gj (fun(_:Unit)=>let (y_0,y_1):=x3; ⟨[(0,.d (.u y_0)),(2,.d (.i y_1))],[],[],0⟩) (fun _=>True) (fun Jp bk3=> ?_) fun _ _=> ?_
 ·refine gi q3 ?_ ?_<;>intro hc3 q3
  ·obtain rfl:=Aid q3;exact gb bk3 hd () trivial
  obtain rfl:=Aid q3;exact gb bk3 hd () trivial
 refine oB hm fun x4 q4 hm=>Ahw (fun _=>q4)<|bE hm ?_;intro x5 hm;obtain rfl:=Aid hm;exact gE
def CZ (a0:UInt64):Option Int:=Ab (F4 a0) fun x1=>some (w64 (64-x1))
theorem MC {a0 r}(hm:CZ a0=some r):Sf prog 359 [.d (.u a0)] (.d (.i r)):=by
 refine sq ?_;intros;refine gA hm MB fun x1 q1 hm=> ?_;exact Aid hm▸gE
def F6 (x4:UInt64)(x5:UInt64)(x7:UInt64)(s1:UInt64×UInt64):Option ((UInt64×UInt64)⊕(UInt64)):=if((decide ((s1.1.toNat:Int)≥4294967296))||(decide (((s1.1*x5).toNat:Int)>(((4294967296*s1.2)+x7).toNat:Int))))=true then if(decide (((s1.2+x4).toNat:Int)≥4294967296))=true then some (.inr (s1.1-1))else some (.inl ((s1.1-1),(s1.2+x4)))else some (.inr s1.1)
def F5 (x4:UInt64)(x5:UInt64)(x8:UInt64)(s2:UInt64×UInt64):Option ((UInt64×UInt64)⊕(UInt64)):=if((decide ((s2.2.toNat:Int)≥4294967296))||(decide (((s2.2*x5).toNat:Int)>(((4294967296*s2.1)+x8).toNat:Int))))=true then if(decide (((s2.1+x4).toNat:Int)≥4294967296))=true then some (.inr (s2.2-1))else some (.inl ((s2.1+x4),(s2.2-1)))else some (.inr s2.2)
def IM (a0:UInt64)(a1:UInt64)(a2:UInt64):Option (UInt64×UInt64):=Ab (if((a2.toNat:Int)==0)=true then none else some ()) fun x1=>Ab (if(decide ((a2.toNat:Int)≤(a0.toNat:Int)))=true then none else some ()) fun x2=>if((a0.toNat:Int)==0)=true then if a2≠0 then if a2≠0 then some ((a1/a2),(a1%a2))else none else none else Ab (CZ a2) fun x3=>bnd ((E7 (Mi a2 ((toU x3).toNat)) 32)) fun x4=>bnd (((Mi a2 ((toU x3).toNat))&&&4294967295)) fun x5=>bnd (((Mi a0 ((toU x3).toNat))|||(E7 a1 ((64-(toU x3)).toNat)))) fun x6=>bnd ((E7 (Mi a1 ((toU x3).toNat)) 32)) fun x7=>bnd (((Mi a1 ((toU x3).toNat))&&&4294967295)) fun x8=>if x4≠0 then Ab (Ab (iter (F6 x4 x5 x7) Gr ((x6/x4),(x6-((x6/x4)*x4)))) fun x10=>some x10) fun x9=>bnd ((((x6*4294967296)+x7)-(x9*(Mi a2 ((toU x3).toNat))))) fun x12=>if x4≠0 then Ab (Ab (iter (F5 x4 x5 x8) Gr ((x12-((x12/x4)*x4)),(x12/x4))) fun x14=>some x14) fun x13=>bnd ((E7 (((x12*4294967296)+x8)-(x13*(Mi a2 ((toU x3).toNat)))) ((toU x3).toNat))) fun x16=>some (((x9*4294967296)+x13),x16)else none else none
theorem PZ {a0 a1 a2 r}(hm:IM a0 a1 a2=some r):Sf prog 306 [.d (.u a0),.d (.u a1),.d (.u a2)] (.tup [.d (.u r.1),.d (.u r.2)]):=by
 refine sq fun D0 As η0 m0 hd=>oB hm fun x1 q1 hm=>gi q1 (fun hc1 q1=> ?_) fun hc1 q1=> ?_
 ·cases q1
 obtain rfl:=Aid q1;refine oB hm fun x2 q2 hm=>gi q2 (fun hc2 q2=> ?_) fun hc2 q2=> ?_
 ·cases q2
 obtain rfl:=Aid q2;refine gi hm ?_ ?_<;>intro hc3 hm
 ·obtain⟨q3,hm⟩:=BD hm;refine Ac6 (d:= .u a2) (r:= .u (a1/a2)) (fun h=>q3) ?_;obtain⟨q4,hm⟩:=BD hm;refine Ac6 (d:= .u a2) (r:= .u (a1%a2)) (fun h=>q4) ?_;obtain rfl:=Aid hm;exact gE
 refine gA hm MC fun x3 q5 hm=>bE hm ?_;intro x4 hm;refine bE hm ?_;intro x5 hm;refine bE hm ?_;intro x6 hm;refine bE hm ?_;intro x7 hm;refine bE hm ?_;intro x8 hm;obtain⟨q11,hm⟩:=BD hm;refine Ac6 (d:= .u x4) (r:= .u (x6/x4)) (fun h=>q11) ?_;obtain⟨x9,q12,hm⟩:=Ad hm;refine oB q12 fun x10 q13 q12=>gjU 0 (fun(_:Unit)=>⟨[(2,.d (.u (Mi a2 ((toU x3).toNat)))),(8,.d (.u (toU x3))),(9,.d (.u x4)),(10,.d (.u x5)),(11,.d (.u x6)),(13,.d (.u x7)),(14,.d (.u x8)),(15,.d (.u x10))],[],[],0⟩) (fun _=>True) (fun Jp bk4=> ?_) fun _ _=> ?_
 ·refine gI q13 (fun(p_0,p_1)=>⟨[(2,.d (.u (Mi a2 ((toU x3).toNat)))),(8,.d (.u (toU x3))),(9,.d (.u x4)),(10,.d (.u x5)),(11,.d (.u x6)),(13,.d (.u x7)),(14,.d (.u x8)),(15,.d (.u p_0)),(16,.d (.u p_1))],[],[],0⟩) fun s1 y1 Jl q16 bl1=>gi q16 ?_ ?_<;>intro hc4 q16
  ·refine gi q16 ?_ ?_<;>intro hc5 q16
   ·obtain rfl:=nR bl1 q16;exact gb bk4 hd () trivial
   exact gN bl1 q16
  obtain rfl:=nR bl1 q16;exact gb bk4 hd () trivial
 obtain rfl:=Aid q12;let x9:=x10;refine bE hm ?_;intro x12 hm;obtain⟨q19,hm⟩:=BD hm;refine Ac6 (d:= .u x4) (r:= .u (x12/x4)) (fun h=>q19) ?_;obtain⟨x13,q20,hm⟩:=Ad hm;refine oB q20 fun x14 q21 q20=>gjU 2 (fun(_:Unit)=>⟨[(2,.d (.u (Mi a2 ((toU x3).toNat)))),(8,.d (.u (toU x3))),(14,.d (.u x8)),(15,.d (.u x9)),(17,.d (.u x12)),(18,.d (.u x14))],[],[],0⟩) (fun _=>True) (fun Jp bk6=> ?_) fun _ _=> ?_
 ·refine gI q21 (fun(p_0,p_1)=>⟨[(2,.d (.u (Mi a2 ((toU x3).toNat)))),(8,.d (.u (toU x3))),(9,.d (.u x4)),(10,.d (.u x5)),(14,.d (.u x8)),(15,.d (.u x9)),(16,.d (.u p_0)),(17,.d (.u x12)),(18,.d (.u p_1))],[],[],0⟩) fun s2 y2 Jl q24 bl2=>gi q24 ?_ ?_<;>intro hc6 q24
  ·refine gi q24 ?_ ?_<;>intro hc7 q24
   ·obtain rfl:=nR bl2 q24;exact gb bk6 hd () trivial
   exact gN bl2 q24
  obtain rfl:=nR bl2 q24;exact gb bk6 hd () trivial
 obtain rfl:=Aid q20;let x13:=x14;refine bE hm ?_;intro x16 hm;obtain rfl:=Aid hm;exact gE
def Ha (a0:UInt64)(a1:UInt64)(a2:UInt64):Option UInt64:=if a2≠0 then Ab (IM (a0%a2) a1 a2) fun x1=>some x1.2 else none
theorem PY {a0 a1 a2 r}(hm:Ha a0 a1 a2=some r):Sf prog 319 [.d (.u a0),.d (.u a1),.d (.u a2)] (.d (.u r)):=by
 refine sq ?_;intros;unfold Ha at hm;obtain⟨q1,hm⟩:=BD hm;refine Ac6 (d:= .u a2) (r:= .u (a0%a2)) (fun h=>q1)<|gA hm PZ fun x1 q2 hm=> ?_;exact Aid hm▸gE
def CV (a0:UInt64)(a1:UInt64)(a2:UInt64):Option UInt64:=Ab (IL a1 a2) fun x1=>Ab (Ha x1.1 x1.2 a0) fun x2=>some x2
theorem F9 {a0 a1 a2 r}(hm:CV a0 a1 a2=some r):Sf prog 260 [.d (.u a0),.d (.u a1),.d (.u a2)] (.d (.u r)):=by
 refine sq ?_;intros;refine gA hm MA fun x1 q1 hm=>gA hm PY fun x2 q2 hm=> ?_;exact Aid hm▸gE
def Df {σ:Type}(p0:σ→Bool→Option (Bool×σ))(k0:UInt64)(s1:Int×σ):Option ((Int×σ)⊕((σ)⊕(UInt64×σ))):=if(decide (s1.1≥0))=true then if(0:Int)≤s1.1 then Ab (p0 s1.2 (((k0&&&(Mi 1 s1.1.toNat)).toNat:Int) !=0)) fun x4=>if(!x4.1)=true then some (.inr (.inr (k0,x4.2)))else some (.inl ((w64 (s1.1-1)),x4.2))else none else some (.inr (.inl s1.2))
def Ic {σ:Type}(p0:σ→Bool→Option (Bool×σ))(k0:UInt64)(s0:σ):Option (UInt64×σ):=Ab (F4 k0) fun x1=>Ab (iter (Df p0 k0) Gr ((w64 (x1-1)),s0)) fun x2=>match x2 with| .inr r=>some r| .inl y1=>some (k0,y1)
theorem Pj {σ:Type}{p0:σ→Bool→Option (Bool×σ)}{k0 s0 r}(hm:Ic p0 k0 s0=some r)(g:Value)(R:σ→Mem→Ow)(hcb:Z0 prog g (fun x=> [.d (.t x)]) R p0):Sp prog 373 [.ow 0,.pb 1 0] [.hp 0 (.cb g σ R s0),.box 1 [.d (.u k0)] 32] 2 (is (.tup []) [.hp 0 (.cb g σ R r.2),.box 1 [.d (.u r.1)] 32] 2):=by
 refine sq ?_;intros;refine gA hm MB fun x1 q1 hm=>oB hm fun x2 q2 hm=>gI q2 (fun(p_0,p_1)=>⟨[(0,.ow 0),(1,.pb 1 0),(3,.d (.i p_0))],[(0,.box 1 [.d (.u k0)] 32),(1,.hp 0 (.cb g σ R p_1))],[],2⟩) fun s1 y2 Jl q5 bl1=>gi q5 ?_ ?_<;>intro hc1 q5
 ·obtain⟨q7,q5⟩:=BD q5;refine gsh (r:= .u (Mi 1 s1.1.toNat)) (fun h=>q7)<|oB q5 fun x4 q8 q5=>gcb (((k0&&&(Mi 1 s1.1.toNat)).toNat:Int) !=0) hcb q8<|gi q5 ?_ ?_<;>intro hc2 q5
  ·obtain rfl:=nR bl1 q5;obtain rfl:=Aid hm;exact gE
  exact gN bl1 q5
 obtain rfl:=nR bl1 q5;let y1:=s1.2;obtain rfl:=Aid hm;exact gE
def JR (a0:UInt64):Option UInt64:=some a0
theorem Q3 {a0 r}(hm:JR a0=some r):Sp prog 338 [.d (.u a0)] [] 0 (is (.fn (.func 373) [] [.pb 0 0]) [.box 0 [.d (.u r)] 32] 1):=by
 refine sq ?_;intros;exact Aid hm▸gE
def CR (a1:UInt64)(b6:Bool)(s1:UInt64):Option (UInt64):=Ab (CV 2305843009213691579 s1 s1) fun x3=>if b6=true then Ab (CV 2305843009213691579 x3 a1) fun x4=>some x4 else some x3
def EL (a1:UInt64)(a2:UInt64):Option UInt64:=Ab (JR a2) fun x1=>Ab (Ic (fun(s:UInt64) (b0:Bool)=>Ab (CR a1 b0 s) fun y=>some (true,y)) x1 1) fun x2=>some x2.2
theorem NR {a1 a2 r}(hm:EL a1 a2=some r):Sf prog 282 [.fn (.func 260) [.d (.u 2305843009213691579)] [],.d (.u a1),.d (.u a2)] (.d (.u r)):=
 spR call282 func282 rfl ntmps282 rfl fun D0 As η0 m0 hD hd=>by
  unfold EL at hm;refine gD hm Q3 fun x1 q1 hm=>oB hm fun x2 q2 hm=>Oa hD (n0:=0) 4 4 [⟨3,3,32,[.d (.u x1)],[.d (.u x2.1)]⟩] (gt:=10) (ps:=[11]) [(3,.pb 0 0),(4,.pb 1 0),(7,.pb 2 0),(10,.fn (.func 373) [] [.pb 3 0])] (fun(y1:UInt64)=> [(0,.box 2 [.d (.u y1)] 32),(1,.box 1 [.d (.u a1)] 32),(2,.box 0 [.fn (.func 260) [.d (.u 2305843009213691579)] []] 248)]) (fun(_:Unit)=> []) (fun x=> [.d (.t x)]) (fun(s1:UInt64) (b6:Bool)=>⟨[(3,.pb 0 0),(4,.pb 1 0),(7,.pb 2 0),(8,.d (.t b6)),(10,.fn (.func 373) [] [.pb 3 0])],[(0,.box 2 [.d (.u s1)] 32),(1,.box 1 [.d (.u a1)] 32),(2,.box 0 [.fn (.func 260) [.d (.u 2305843009213691579)] []] 248)],[],4⟩) (pN fun x s=>CR a1 x s) 1 hd (via Sum.inl hyN rfl fun g R h=>Pj q2 g R h) rfl (fun _=>rfl) (fun _=>rfl) (fun _=>rfl) (fun _=>rfl) ?_ ?_ ?_ ?_
  ·intro s1 b6 s' hp l D0 As η0 m0 hd Ja ba;exact gb ba hd () trivial
  ·intro s1 b6 s' hp l D0 As η0 m0 hd Jb bb Jr br;obtain⟨z1,q3,hp⟩:=Air.1 hp;subst hp;unfold CR at q3;refine gA q3 F9 fun x3 q4 q3=>gi q3 ?_ ?_<;>intro hc1 q3
   ·refine gA q3 F9 fun x4 q5 q3=> ?_;obtain rfl:=Aid q3;exact gb bb hd x4 rfl
   obtain rfl:=Aid q3;exact gb bb hd x3 rfl
  ·intro x hx;have hx:=Sum.inl.inj hx;subst hx;exact Aid hm▸gE
  intro y hy;cases hy
def EA (a0:UInt64)(a1:UInt64):Option UInt64:=Ab (EL a0 a1) fun x1=>some x1
theorem Mr {a0 a1 r}(hm:EA a0 a1=some r):Sf prog 213 [.d (.u a0),.d (.u a1)] (.d (.u r)):=by
 refine sq ?_;intros;refine gA hm NR fun x1 q1 hm=> ?_;exact Aid hm▸gE
def FX (a0:UInt64):Option Bool:=Ab (gu ((decide ((a0.toNat:Int)>0))&&(decide ((a0.toNat:Int)<2305843009213691579))) (EA a0 1152921504606845789)) fun x1=>bnd ((((decide ((a0.toNat:Int)>0))&&(decide ((a0.toNat:Int)<2305843009213691579)))&&((x1.toNat:Int)==1))) fun x2=>some x2
theorem NS {a0 r}(hm:FX a0=some r):Sf prog 133 [.d (.u a0)] (.d (.t r)):=by
 refine sq ?_;intros;refine oB hm fun x1 q1 hm=>gcH q1 Mr<|bE hm ?_;intro x2 hm;obtain rfl:=Aid hm;exact gE
def EO (a0:UInt64):Option UInt64:=Ab (EA 4 a0) fun x1=>some x1
theorem Lk {a0 r}(hm:EO a0=some r):Sf prog 162 [.d (.u a0)] (.d (.u r)):=by
 refine sq ?_;intros;refine gA hm Mr fun x1 q1 hm=> ?_;exact Aid hm▸gE
def Jk (a1:UInt64)(s1:(List UInt8)×Int):Option (((List UInt8)×Int)⊕((List UInt8))):=if(decide (s1.2≥0))=true then if(0:Int)≤(w64 (8*s1.2))then Ab (app 1 s1.1 ([(toB ((E7 a1 ((w64 (8*s1.2)).toNat)).toNat:Int))]:List UInt8)) fun x4=>some (.inl (x4,(w64 (s1.2-1))))else none else some (.inr s1.1)
def Gk (a0:List UInt8)(a1:UInt64)(a2:Int):Option (List UInt8):=Ab (Ab (iter (Jk a1) Gr (a0,(w64 (a2-1)))) fun x2=>some x2) fun x1=>some x1
theorem SN {a0 a1 a2 r}(hm:Gk a0 a1 a2=some r):Sp prog 241 [.ow 0,.d (.u a1),.d (.i a2)] [.row 0 1 _ eB a0] 1 (is (.ow 1) [.row 1 1 _ eB r] 2):=by
 refine sq ?_;intros;unfold Gk at hm;obtain⟨x1,q1,hm⟩:=Ad hm;refine oB q1 fun x2 q2 q1=>gI q2 (fun(p_0,p_1)=>⟨[(0,.ow 1),(1,.d (.u a1)),(2,.d (.i p_1))],[(0,.row 1 1 _ eB p_0)],[],2⟩) fun s1 y1 Jl q5 bl1=>gi q5 ?_ ?_<;>intro hc1 q5
 ·obtain⟨q7,q5⟩:=BD q5;exact gsh (r:= .u (E7 a1 ((w64 (8*s1.2)).toNat))) (fun h=>q7)<|gq eB 1 [(toB ((E7 a1 ((w64 (8*s1.2)).toNat)).toNat:Int))]<|oB q5 fun x4 q8 q5=>gp eB 1 q8<|gN bl1 q5
 obtain rfl:=nR bl1 q5;let x2:=s1.1;obtain rfl:=Aid q1;let x1:=x2;obtain rfl:=Aid hm;exact gE
end Go.Proofs.YtnhdojckpcbjeaaGreatDoor
