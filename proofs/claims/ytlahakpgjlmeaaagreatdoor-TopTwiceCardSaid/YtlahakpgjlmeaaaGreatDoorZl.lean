/- The walks of some functions, by the executor, written by program. Conditions: none. -/
import Derived.Test.YtlahakpgjlmeaaaGreatDoorZh
import Derived.Test.YtlahakpgjlmeaaaGreatDoorZi
import Derived.Test.YtlahakpgjlmeaaaGreatDoorZj
import Derived.Test.YtlahakpgjlmeaaaGreatDoorZk
set_option linter.unusedSimpArgs false
set_option linter.unusedVariables false
set_option maxHeartbeats 20000000
set_option maxRecDepth 100000
namespace Go.Proofs.YtlahakpgjlmeaaaGreatDoor
open Go Go.Gw Go.Ax Tryz Go.RowKit
attribute [local irreducible] Go.Ax.Go
def DQ (a0:g_api_Store):Option Int:=if(decide ((a0.Safe.length:Int)>(w64 (65536-(a0.Open.length:Int)))))=true then some 2 else some 0
theorem JR {a0 r}(hm:DQ a0=some r):Sf prog 139 [ag (Du a0)] (.d (.i r)):=by
 refine sq ?_;intros;refine gi hm ?_ ?_<;>intro _ hm
 ·exact Akr hm▸gE
 exact Akr hm▸gE
def Bg (a0:List g_api_Done)(a1:List g_api_Done)(i1:Int)(s1:Unit):Option ((Unit)⊕Bool):=Ab (idx a0 (i1:Int)) fun x3=>Ab (idx a1 (i1:Int)) fun x4=>if(!CR x3 x4)=true then some (.inr false)else some (.inl ())
def BD (a0:List g_api_Done)(a1:List g_api_Done):Option Bool:=if((a0.length:Int) !=(a1.length:Int))=true then some false else Ab (Es (Bg a0 a1) a0.length 0 ()) fun x1=>match x1 with| .inr r=>some r| .inl y1=>some true
theorem H0 {a0 a1 r}(hm:BD a0 a1=some r):Sf prog 208 [sl Ai a0,sl Ai a1] (.d (.t r)):=by
 refine sq ?_;intros;refine gi hm ?_ ?_<;>intro _ hm
 ·exact Akr hm▸gE
 refine oB hm fun _ q1 hm=>Jd 0 (E:=Ai) (xs:=a0) 11 fun hle1=>gF (EN _ _ _) q1 (fun p0 _=>⟨[(0,sl Ai a0),(1,sl Ai a1),(12,.d (.i (a0.length:Int))),(13,.d (.i p0))],[],[],0⟩) fun i1 s1 Jl bl1=>cN bl1 (a0.length:Int) (fun _ q4 bl1=> ?_) fun e=> ?_
 ·refine oB q4 fun _ q6 q4=>gx Ai 4 q6<|oB q4 fun _ q7 q4=>gx Ai 4 q7<|gi q4 ?_ ?_<;>intro _ q4
  ·obtain rfl:=nT bl1 q4;exact Akr hm▸gE
  exact gT bl1 hle1 q4
 subst e;exact Akr hm▸gE
def Cu (a0:Af):Option Int:=Ab (DQ a0.Store) fun x1=>if(x1 !=0)=true then some x1 else Ab (DF a0.Share) fun x2=>if((!x2)||((!a0.Up)&&(decide ((a0.Done.length:Int)>0))))=true then some 1 else if a0.Up=true then Ab (Di a0.Store) fun x3=>if((!x3.2.2)||(!x3.2.1))=true then some 1 else Ab (BD x3.1 a0.Done) fun x4=>if(!x4)=true then some 1 else some 0 else some 0
theorem K5 {a0 r}(hm:Cu a0=some r):Sf prog 119 [ag (AK a0)] (.d (.i r)):=by
 refine sq ?_;intros;refine gA hm JR fun _ q1 hm=>gi hm ?_ ?_<;>intro _ hm
 ·exact Akr hm▸gE
 refine gA hm N1 fun _ q2 hm=>gi hm ?_ ?_<;>intro _ hm
 ·exact Akr hm▸gE
 refine gi hm ?_ ?_<;>intro _ hm
 ·refine gD hm OR fun x3 q3 hm=>AhD 43 hm (fun hc4 hm=> ?_) fun hc4 hm=> ?_
  ·refine gi' (b:=true) (fun _=> ?_) (fun h=>by cases h);exact Akr hm▸gE
  refine oB hm fun _ q4 hm=>gco (Sp.lend (os:=[.row 0 4 _ Ai x3.1]) (n1:=1) (H0 q4) (.cons (.row (.head _)) (.cons (.same (by kernel_rfl)) .nil)) (by kernel_rfl))<|gi hm ?_ ?_<;>intro _ hm
  ·exact Akr hm▸gE
  exact Akr hm▸gE
 exact Akr hm▸gE
def Kk (i1:Int)(x8:UInt8)(s1:Int):Option (Int):=bnd ((AaD (NY s1 8) (w64 (x8.toNat:Int)))) fun x9=>some x9
def D8 (a0:List UInt8):Option (Int×Int×Int):=if((a0.length:Int)==0)=true then some (0,0,70)else Ab (idx a0 0) fun x1=>if(decide ((w64 (x1.toNat:Int))<128))=true then some ((w64 (x1.toNat:Int)),1,0)else bnd ((w64 ((w64 (x1.toNat:Int))-128))) fun x2=>bnd ((((w64 (x1.toNat:Int)) !=129)&&((w64 (x1.toNat:Int)) !=130))) fun x3=>if x3=true then some (0,0,71)else bnd ((decide ((a0.length:Int)≤x2))) fun x4=>if x4=true then some (0,0,70)else Ab (Ab (cut a0 1 (w64 (x2+1))) fun x6=>Ab (Et Kk x6 0 0) fun x7=>some x7) fun x5=>if((decide (x5<128))||(((w64 (x1.toNat:Int))==130)&&(decide (x5<256))))=true then some (0,0,71)else some (x5,(w64 (x2+1)),0)
theorem VR {a0 r}(hm:D8 a0=some r):Sf prog 324 [sl eB a0] (.tup [.d (.i r.1),.d (.i r.2.1),.d (.i r.2.2)]):=by
 refine sq ?_;intros;refine gi hm ?_ ?_<;>intro _ hm
 ·exact Akr hm▸gE
 refine oB hm fun x1 q1 hm=>gx eB 1 q1<|gi hm ?_ ?_<;>intro _ hm
 ·exact Akr hm▸gE
 refine bE hm ?_;intro x2 hm;refine bE hm ?_;intro _ hm;refine gi hm ?_ ?_<;>intro _ hm
 ·exact Akr hm▸gE
 refine bE hm ?_;intro _ hm;refine gi hm ?_ ?_<;>intro _ hm
 ·exact Akr hm▸gE
 obtain⟨x5,q5,hm⟩:=Ac hm;refine oB q5 fun x6 q6 q5=>gk eB 1 q6<|oB q5 fun _ q7 q5=>Jd 1 (E:=eB) (xs:=x6) 36 fun hle1=>gF (E0 _ _ _) q7 (fun p0 p=>⟨[(2,.d (.i p)),(5,.d (.i (w64 (x1.toNat:Int)))),(6,.d (.i x2)),(36,sl eB x6),(37,.d (.i (x6.length:Int))),(38,.d (.i p0))],[],[],0⟩) fun i1 s1 Jl bl1=>c0 bl1 (fun _ _ q11 q10 bl1=> ?_) fun e=> ?_
 ·refine gx eB 1 q11<|bE q10 ?_;intro _ q10;exact gM bl1 hle1 q10
 subst e;obtain rfl:=Akr q5;refine gi hm ?_ ?_<;>intro _ hm
 ·exact Akr hm▸gE
 exact Akr hm▸gE
def W6 (rF:(List UInt8)→Int→Option (g_api_Item×(List UInt8)×Int)):Prop:= ∀{a0:List UInt8} {a1:Int} {r:g_api_Item×(List UInt8)×Int},rF a0 a1=some r→Sf prog 281 [sl eB a0,.d (.i a1)] (.tup [ag (Ad r.1),sl eB r.2.1,.d (.i r.2.2)])
def ET (rF:(List UInt8)→Int→Option (g_api_Item×(List UInt8)×Int))(a1:Int)(s1:(List UInt8)×(List UInt8)×(List g_api_Item)):Option (((List UInt8)×(List UInt8)×(List g_api_Item))⊕(((List UInt8)×(List g_api_Item))⊕(g_api_Item×(List UInt8)×Int))):=if(decide ((s1.2.1.length:Int)>0))=true then Ab (rF s1.2.1 (w64 (a1-1))) fun x12=>if(x12.2.2 !=0)=true then some (.inr (.inr ((⟨0,[],[]⟩:g_api_Item),([]:List UInt8),71)))else Ab (app 56 s1.2.2 ([x12.1]:List g_api_Item)) fun x13=>some (.inl (s1.1,x12.2.1,x13))else some (.inr (.inl (s1.1,s1.2.2)))
def Mf (rF:(List UInt8)→Int→Option (g_api_Item×(List UInt8)×Int))(a0:List UInt8)(a1:Int):Option (g_api_Item×(List UInt8)×Int):=if((a0.length:Int)==0)=true then some ((⟨0,[],[]⟩:g_api_Item),([]:List UInt8),70)else Ab (idx a0 0) fun x1=>Ab (Ip (w64 (x1.toNat:Int))) fun x2=>if((!x2.2)||(decide (a1<1)))=true then some ((⟨0,[],[]⟩:g_api_Item),([]:List UInt8),71)else Ab (cut a0 1 (a0.length:Int)) fun x3=>Ab (D8 x3) fun x4=>if(x4.2.2 !=0)=true then some ((⟨0,[],[]⟩:g_api_Item),([]:List UInt8),x4.2.2)else if(decide ((w64 ((w64 (1+x4.2.1))+x4.1))>8192))=true then some ((⟨0,[],[]⟩:g_api_Item),([]:List UInt8),71)else Ab (cut a0 (w64 (1+x4.2.1)) (a0.length:Int)) fun x5=>if(decide (x4.1>(x5.length:Int)))=true then some ((⟨0,[],[]⟩:g_api_Item),([]:List UInt8),70)else Ab (cut x5 0 x4.1) fun x6=>Ab (cut x5 x4.1 (x5.length:Int)) fun x7=>if(x2.1.tag_ !=48)=true then Ab (Ps x2.1.may_ x6) fun x8=>if(!x8)=true then some ((⟨0,[],[]⟩:g_api_Item),([]:List UInt8),71)else Ab (Bl x6) fun x9=>some ((⟨x2.1.tag_,x9,[]⟩:g_api_Item),x7,0)else Ab (iter ((ET rF) a1) EV (x7,x6,([]:List g_api_Item))) fun x10=>match x10 with| .inr r=>some r| .inl y1=>some ((⟨x2.1.tag_,[],y1.2⟩:g_api_Item),y1.1,0)
theorem Xw {rF:(List UInt8)→Int→Option (g_api_Item×(List UInt8)×Int)}(hF:W6 rF){a0 a1 r}(hm:Mf rF a0 a1=some r):Sf prog 281 [sl eB a0,.d (.i a1)] (.tup [ag (Ad r.1),sl eB r.2.1,.d (.i r.2.2)]):=by
 refine sq ?_;intros;refine gi hm ?_ ?_<;>intro _ hm
 ·exact Akr hm▸gE
 refine oB hm fun _ q1 hm=>gx eB 1 q1<|gA hm Tp fun x2 q2 hm=>gi hm ?_ ?_<;>intro _ hm
 ·exact Akr hm▸gE
 refine oB hm fun _ q3 hm=>gk eB 1 q3<|gA hm VR fun _ q4 hm=>gi hm ?_ ?_<;>intro _ hm
 ·exact Akr hm▸gE
 refine gi hm ?_ ?_<;>intro _ hm
 ·exact Akr hm▸gE
 refine oB hm fun _ q5 hm=>gk eB 1 q5<|gi hm ?_ ?_<;>intro _ hm
 ·exact Akr hm▸gE
 refine oB hm fun _ q6 hm=>gk eB 1 q6<|oB hm fun _ q7 hm=>gk eB 1 q7<|gi hm ?_ ?_<;>intro _ hm
 ·refine oB hm fun _ q8 hm=>gdyn (fun _=>YD q8)<|gi hm ?_ ?_<;>intro _ hm
  ·exact Akr hm▸gE
  refine gD hm EA fun _ q9 hm=> ?_;exact Akr hm▸gE
 refine oB hm fun _ q10 hm=>WK 0 Ad 4 2 3<|gI q10 (fun(p_0,p_1,p_2)=>⟨[(1,.d (.i a1)),(4,.pb 0 0),(5,sl eB p_0),(11,sl eB p_1),(7,.pb 1 0)],[(0,.row 2 3 _ Ad p_2),(1,.box 1 [.d (.i x2.1.tag_),.d (.v (fnV x2.1.may_))] 252),(2,.box 0 [.d (.i x2.1.tag_),sl eB [],.ow 2] 76)],[],3⟩) fun s1 _ Jl q13 bl1=>gi q13 ?_ ?_<;>intro _ q13
 ·refine gA q13 hF fun x12 q15 q13=>gi q13 ?_ ?_<;>intro _ q13
  ·obtain rfl:=nR bl1 q13;exact Akr hm▸gE
  exact gq Ad 3 [x12.1]<|oB q13 fun _ q16 q13=>gp Ad 3 q16<|gN bl1 q13
 obtain rfl:=nR bl1 q13;let y1:=(s1.1,s1.2.2);exact Akr hm▸gE
def J5:Nat→(List UInt8)→Int→Option (g_api_Item×(List UInt8)×Int)
 |0,_,_=>none
 |n+1,a0,a1=>Mf (J5 n) a0 a1
def Sd (a0:List UInt8)(a1:Int):Option (g_api_Item×(List UInt8)×Int):=J5 EV a0 a1
theorem Tl: ∀n,W6 (J5 n)
 |0=>fun hm=>by cases hm
 |n+1=>fun hm=>Xw (Tl n) hm
theorem Abm {a0:List UInt8}{a1:Int}{r:g_api_Item×(List UInt8)×Int}(hm:Sd a0 a1=some r):Sf prog 281 [sl eB a0,.d (.i a1)] (.tup [ag (Ad r.1),sl eB r.2.1,.d (.i r.2.2)]):=Tl EV hm
def Pv (a0:List UInt8)(a1:Int):Option (g_api_Item×Int×Int):=if((decide (a1<0))||(decide (a1>(a0.length:Int))))=true then some ((⟨0,[],[]⟩:g_api_Item),0,1)else Ab (cut a0 a1 (a0.length:Int)) fun x1=>Ab (Sd x1 8) fun x2=>if(x2.2.2 !=0)=true then some ((⟨0,[],[]⟩:g_api_Item),0,x2.2.2)else bnd ((w64 ((a0.length:Int)-(x2.2.1.length:Int)))) fun x3=>some (x2.1,x3,0)
theorem Abn {a0 a1 r}(hm:Pv a0 a1=some r):Sf prog 209 [sl eB a0,.d (.i a1)] (.tup [ag (Ad r.1),.d (.i r.2.1),.d (.i r.2.2)]):=by
 refine sq ?_;intros;refine gi hm ?_ ?_<;>intro _ hm
 ·exact Akr hm▸gE
 refine oB hm fun _ q1 hm=>gk eB 1 q1<|gA hm Abm fun _ q2 hm=>gi hm ?_ ?_<;>intro _ hm
 ·exact Akr hm▸gE
 refine bE hm ?_;intro _ hm;exact Akr hm▸gE
def TB:Value:= .iface 307 (.agg #[])
def Bi (a0:Bool):Option (Option Unit):=some (if a0=true then some ()else none)
theorem AZ {a0 r}(hm:Bi a0=some r):Sb prog 211 [.d (.t a0)] [] 0 TB (Pos r (fun r=> .tup []) (fun r=> []) 0) (r=none):=
 sb call211 func211 rfl ntmps211 rfl fun D0 As η0 m0 hd=>by
  obtain rfl:=Akr hm;refine gi' (b:= !a0) (fun hc=> ?_) fun hc=> ?_
  ·cases a0 with
   |true=>cases hc
   |false=>exact gthrow (by kernel_rfl)
  ·cases a0 with
   |true=>exact PB hd
   |false=>cases hc
def Mg (a0:g_api_Item):Option (List g_api_Item):=Ab (AO a0.L) fun x1=>some x1
theorem Us {a0 r}(hm:Mg a0=some r):Sp prog 326 [ag (Ad a0)] [] 0 (is (.ow 0) [.row 0 3 _ Ad r] 1):=by
 refine sq ?_;intros;refine gD hm Eo fun _ q1 hm=> ?_;exact Akr hm▸gE
def FF (a0:g_api_Item)(a1:Int):Option ((List g_api_Item)×Int):=if(a0.Tag !=a1)=true then some (([]:List g_api_Item),72)else Ab (Kj a0 8) fun x1=>if(!x1)=true then some (([]:List g_api_Item),71)else Ab (Mg a0) fun x2=>some (x2,0)
theorem MK {a0 a1 r}(hm:FF a0 a1=some r):Sp prog 325 [ag (Ad a0),.d (.i a1),.fn (.func 326) [] []] [] 0 (is (.tup [.ow 0,.d (.i r.2)]) [.row 0 3 _ Ad r.1] 1):=by
 refine sq ?_;intros;refine gi hm ?_ ?_<;>intro _ hm
 ·refine OE Ad 6 3 ?_;exact Akr hm▸gE
 refine gA hm MX fun _ q1 hm=>gi hm ?_ ?_<;>intro _ hm
 ·refine OE Ad 6 3 ?_;exact Akr hm▸gE
 refine gD hm Us fun _ q2 hm=> ?_;exact Akr hm▸gE
def Ko (a0:g_api_Item):Option ((List g_api_Item)×Int):=Ab (FF a0 48) fun x1=>some (x1.1,x1.2)
theorem RI {a0 r}(hm:Ko a0=some r):Sp prog 282 [ag (Ad a0)] [] 0 (is (.tup [.ow 0,.d (.i r.2)]) [.row 0 3 _ Ad r.1] 1):=by
 refine sq ?_;intros;refine gD hm MK fun _ q1 hm=> ?_;exact Akr hm▸gE
def LF (a0:g_api_Item):Option (Option Ap):=Ab (Ko a0) fun x1=>Ab (Bi (x1.2==0)) fun y1=>match y1 with|none=>some none|some x2=>some (some (⟨x1.1⟩:Ap))
theorem VY {a0 r}(hm:LF a0=some r):Sb prog 212 [ag (Ad a0)] [] 0 TB (Pos r (fun r=> .pb 0 0) (fun r=> [.box 0 [.d (.sl _ Ad r.l_)] 312]) 1) (r=none):=
 sb call212 func212 rfl ntmps212 rfl fun D0 As η0 m0 hd=>by
  unfold LF at hm;refine gD hm RI fun x1 q1 hm=> ?_;obtain⟨y1,q2,hm⟩:=Ac hm;rcases y1 with _|x2
  ·dsimp only at hm;obtain rfl:=Akr hm;exact NR (AZ q2)
  dsimp only at hm;refine gc (fun _=>(AZ q2).sp) ?_;obtain rfl:=Akr hm;exact PB hd
def Cw (a0:Ap):Option (Option ((List g_api_Item)×Ap)):=
 Ab (Bi (decide ((a0.l_.length:Int)>0))) fun y1=>match y1 with
 |none=>some none
 |some x1=>
 Ab (idx a0.l_ 0) fun x2=>
 Ab (Ko x2) fun x3=>
 Ab (Bi (x3.2==0)) fun y2=>match y2 with
 |none=>some none
 |some x4=>
 Ab (cut a0.l_ 1 (a0.l_.length:Int)) fun x5=>
 some (some (x3.1,(⟨x5⟩:Ap)))
theorem GD {a0 r}(hm:Cw a0=some r):Sb prog 283 [.pb 0 0,.fn (.func 282) [] []] [.box 0 [sl Ad a0.l_] 312] 1 TB (Pos r (fun r=> .ow 1) (fun r=> [.box 0 [.d (.sl _ Ad r.2.l_)] 312,.row 1 3 _ Ad r.1]) 2) (r=none):=
 sb call283 func283 rfl ntmps283 rfl fun D0 As η0 m0 hd=>by
  unfold Cw at hm;obtain⟨y1,q1,hm⟩:=Ac hm;rcases y1 with _|x1
  ·dsimp only at hm;obtain rfl:=Akr hm;exact NR (AZ q1)
  dsimp only at hm;refine gc (fun _=>(AZ q1).sp)<|oB hm fun x2 q2 hm=>gx Ad 3 q2<|gD hm RI fun x3 q3 hm=> ?_;obtain⟨y2,q4,hm⟩:=Ac hm;rcases y2 with _|x4
  ·dsimp only at hm;obtain rfl:=Akr hm;exact NR (AZ q4)
  dsimp only at hm;refine gc (fun _=>(AZ q4).sp)<|oB hm fun x5 q5 hm=>gk Ad 3 q5 ?_;obtain rfl:=Akr hm;exact PB hd
def Bc (a0:Ap):Option (Option (Ap×Ap)):=Ab (Cw a0) fun y1=>match y1 with|none=>some none|some x1=>some (some ((⟨x1.1⟩:Ap),x1.2))
theorem CA {a0 r}(hm:Bc a0=some r):Sb prog 213 [.pb 0 0] [.box 0 [sl Ad a0.l_] 312] 1 TB (Pos r (fun r=> .pb 1 0) (fun r=> [.box 0 [.d (.sl _ Ad r.2.l_)] 312,.box 1 [.d (.sl _ Ad r.1.l_)] 312]) 2) (r=none):=
 sb call213 func213 rfl ntmps213 rfl fun D0 As η0 m0 hd=>by
  unfold Bc at hm;obtain⟨y1,q1,hm⟩:=Ac hm;rcases y1 with _|x1
  ·dsimp only at hm;obtain rfl:=Akr hm;exact NR (GD q1)
  dsimp only at hm;refine gco (GD q1).sp ?_;obtain rfl:=Akr hm;exact PB hd
def Fq (i1:Int)(x5:UInt8)(s1:Int):Option (Int):=bnd ((AaD (NY s1 8) (w64 (x5.toNat:Int)))) fun x6=>some x6
def JD (a0:g_api_Item):Option Int:=Ab (idx a0.B 0) fun x1=>Ab (Ab (cut a0.B 1 (a0.B.length:Int)) fun x3=>Ab (Et Fq x3 0 (w64 (w8 (x1.toNat:Int)))) fun x4=>some x4) fun x2=>some x2
theorem Ut {a0 r}(hm:JD a0=some r):Sf prog 332 [ag (Ad a0)] (.d (.i r)):=by
 refine sq ?_;intros;refine oB hm fun _ q1 hm=>gx eB 1 q1 ?_;obtain⟨x2,q2,hm⟩:=Ac hm;refine oB q2 fun x3 q3 q2=>gk eB 1 q3<|oB q2 fun _ q4 q2=>Jd 0 (E:=eB) (xs:=x3) 14 fun hle1=>gF (E0 _ _ _) q4 (fun p0 p=>⟨[(3,.d (.i p)),(14,sl eB x3),(15,.d (.i (x3.length:Int))),(16,.d (.i p0)),(1,.pb 0 0)],[(0,.box 0 [.d (.i a0.Tag),sl eB a0.B,sl Ad a0.L] 76)],[],1⟩) fun i1 s1 Jl bl1=>c0 bl1 (fun _ _ q8 q7 bl1=> ?_) fun e=> ?_
 ·refine gx eB 1 q8<|bE q7 ?_;intro _ q7;exact gM bl1 hle1 q7
 subst e;obtain rfl:=Akr q2;exact Akr hm▸gE
def Iq (a0:g_api_Item)(a1:Int):Option (Int×Int):=if(a0.Tag !=a1)=true then some (0,72)else Ab (Kj a0 8) fun x1=>if(!x1)=true then some (0,71)else Ab (JD a0) fun x2=>some (x2,0)
theorem PW {a0 a1 r}(hm:Iq a0 a1=some r):Sf prog 331 [ag (Ad a0),.d (.i a1),.fn (.func 332) [] []] (.tup [.d (.i r.1),.d (.i r.2)]):=by
 refine sq ?_;intros;refine gi hm ?_ ?_<;>intro _ hm
 ·exact Akr hm▸gE
 refine gA hm MX fun _ q1 hm=>gi hm ?_ ?_<;>intro _ hm
 ·exact Akr hm▸gE
 refine gA hm Ut fun _ q2 hm=> ?_;exact Akr hm▸gE
def Mh (a0:g_api_Item):Option (Int×Int):=Ab (Iq a0 2) fun x1=>some (x1.1,x1.2)
theorem Xx {a0 r}(hm:Mh a0=some r):Sf prog 290 [ag (Ad a0)] (.tup [.d (.i r.1),.d (.i r.2)]):=by
 refine sq ?_;intros;refine gA hm PW fun _ q1 hm=> ?_;exact Akr hm▸gE
def Dy (a0:Ap):Option (Option (Int×Ap)):=
 Ab (Bi (decide ((a0.l_.length:Int)>0))) fun y1=>match y1 with
 |none=>some none
 |some x1=>
 Ab (idx a0.l_ 0) fun x2=>
 Ab (Mh x2) fun x3=>
 Ab (Bi (x3.2==0)) fun y2=>match y2 with
 |none=>some none
 |some x4=>
 Ab (cut a0.l_ 1 (a0.l_.length:Int)) fun x5=>
 some (some (x3.1,(⟨x5⟩:Ap)))
theorem Jc {a0 r}(hm:Dy a0=some r):Sb prog 289 [.pb 0 0,.fn (.func 290) [] []] [.box 0 [sl Ad a0.l_] 312] 1 TB (Pos r (fun r=> .d (.i r.1)) (fun r=> [.box 0 [.d (.sl _ Ad r.2.l_)] 312]) 1) (r=none):=
 sb call289 func289 rfl ntmps289 rfl fun D0 As η0 m0 hd=>by
  unfold Dy at hm;obtain⟨y1,q1,hm⟩:=Ac hm;rcases y1 with _|x1
  ·dsimp only at hm;obtain rfl:=Akr hm;exact NR (AZ q1)
  dsimp only at hm;refine gc (fun _=>(AZ q1).sp)<|oB hm fun x2 q2 hm=>gx Ad 3 q2<|gA hm Xx fun x3 q3 hm=> ?_;obtain⟨y2,q4,hm⟩:=Ac hm;rcases y2 with _|x4
  ·dsimp only at hm;obtain rfl:=Akr hm;exact NR (AZ q4)
  dsimp only at hm;refine gc (fun _=>(AZ q4).sp)<|oB hm fun x5 q5 hm=>gk Ad 3 q5 ?_;obtain rfl:=Akr hm;exact PB hd
def AT (a0:Ap):Option (Option (Int×Ap)):=
 Ab (Dy a0) fun y1=>match y1 with
 |none=>some none
 |some x1=>
 Ab (Bi (decide (x1.1≥0))) fun y2=>match y2 with
 |none=>some none
 |some x2=>
 some (some (x1.1,x1.2))
theorem AL {a0 r}(hm:AT a0=some r):Sb prog 215 [.pb 0 0] [.box 0 [sl Ad a0.l_] 312] 1 TB (Pos r (fun r=> .d (.i r.1)) (fun r=> [.box 0 [.d (.sl _ Ad r.2.l_)] 312]) 1) (r=none):=
 sb call215 func215 rfl ntmps215 rfl fun D0 As η0 m0 hd=>by
  unfold AT at hm;obtain⟨y1,q1,hm⟩:=Ac hm;rcases y1 with _|x1
  ·dsimp only at hm;obtain rfl:=Akr hm;exact NR (Jc q1)
  dsimp only at hm;refine gco (Jc q1).sp ?_;obtain⟨y2,q2,hm⟩:=Ac hm;rcases y2 with _|x2
  ·dsimp only at hm;obtain rfl:=Akr hm;exact NR (AZ q2)
  dsimp only at hm;refine gc (fun _=>(AZ q2).sp) ?_;obtain rfl:=Akr hm;exact PB hd
def Bd (a0:Ap):Option (Option (UInt64×Ap)):=Ab (AT a0) fun y1=>match y1 with|none=>some none|some x1=>some (some ((toU x1.1),x1.2))
theorem BZ {a0 r}(hm:Bd a0=some r):Sb prog 216 [.pb 0 0] [.box 0 [sl Ad a0.l_] 312] 1 TB (Pos r (fun r=> .d (.u r.1)) (fun r=> [.box 0 [.d (.sl _ Ad r.2.l_)] 312]) 1) (r=none):=
 sb call216 func216 rfl ntmps216 rfl fun D0 As η0 m0 hd=>by
  unfold Bd at hm;obtain⟨y1,q1,hm⟩:=Ac hm;rcases y1 with _|x1
  ·dsimp only at hm;obtain rfl:=Akr hm;exact NR (AL q1)
  dsimp only at hm;refine gco (AL q1).sp ?_;obtain rfl:=Akr hm;exact PB hd
def Cj (a0:Ap):Option (Option Ap):=Ab (Bi ((a0.l_.length:Int)==0)) fun y1=>match y1 with|none=>some none|some x1=>some (some a0)
theorem DK {a0 r}(hm:Cj a0=some r):Sb prog 217 [.pb 0 0] [.box 0 [sl Ad a0.l_] 312] 1 TB (Pos r (fun r=> .tup []) (fun r=> [.box 0 [.d (.sl _ Ad r.l_)] 312]) 1) (r=none):=
 sb call217 func217 rfl ntmps217 rfl fun D0 As η0 m0 hd=>by
  unfold Cj at hm;obtain⟨y1,q1,hm⟩:=Ac hm;rcases y1 with _|x1
  ·dsimp only at hm;obtain rfl:=Akr hm;exact NR (AZ q1)
  dsimp only at hm;refine gc (fun _=>(AZ q1).sp) ?_;obtain rfl:=Akr hm;exact PB hd
def Of (a0:g_api_Item):Option ByteArray:=some (bs a0.B)
theorem SX {a0 r}(hm:Of a0=some r):Sf prog 328 [ag (Ad a0)] (.d (.s r)):=by
 refine sq ?_;intros;refine gbs (xs:=a0.B) ?_;exact Akr hm▸gE
def Gy (a0:g_api_Item)(a1:Int):Option (ByteArray×Int):=if(a0.Tag !=a1)=true then some ((⟨#[]⟩:ByteArray),72)else Ab (Kj a0 8) fun x1=>if(!x1)=true then some ((⟨#[]⟩:ByteArray),71)else Ab (Of a0) fun x2=>some (x2,0)
theorem NX {a0 a1 r}(hm:Gy a0 a1=some r):Sf prog 327 [ag (Ad a0),.d (.i a1),.fn (.func 328) [] []] (.tup [.d (.s r.1),.d (.i r.2)]):=by
 refine sq ?_;intros;refine gi hm ?_ ?_<;>intro _ hm
 ·exact Akr hm▸gE
 refine gA hm MX fun _ q1 hm=>gi hm ?_ ?_<;>intro _ hm
 ·exact Akr hm▸gE
 refine gA hm SX fun _ q2 hm=> ?_;exact Akr hm▸gE
def KX (a0:g_api_Item):Option (ByteArray×Int):=Ab (Gy a0 12) fun x1=>some (x1.1,x1.2)
theorem VT {a0 r}(hm:KX a0=some r):Sf prog 285 [ag (Ad a0)] (.tup [.d (.s r.1),.d (.i r.2)]):=by
 refine sq ?_;intros;refine gA hm NX fun _ q1 hm=> ?_;exact Akr hm▸gE
def AY (a0:Ap):Option (Option (ByteArray×Ap)):=
 Ab (Bi (decide ((a0.l_.length:Int)>0))) fun y1=>match y1 with
 |none=>some none
 |some x1=>
 Ab (idx a0.l_ 0) fun x2=>
 Ab (KX x2) fun x3=>
 Ab (Bi (x3.2==0)) fun y2=>match y2 with
 |none=>some none
 |some x4=>
 Ab (cut a0.l_ 1 (a0.l_.length:Int)) fun x5=>
 some (some (x3.1,(⟨x5⟩:Ap)))
theorem Ch {a0 r}(hm:AY a0=some r):Sb prog 284 [.pb 0 0,.fn (.func 285) [] []] [.box 0 [sl Ad a0.l_] 312] 1 TB (Pos r (fun r=> .d (.s r.1)) (fun r=> [.box 0 [.d (.sl _ Ad r.2.l_)] 312]) 1) (r=none):=
 sb call284 func284 rfl ntmps284 rfl fun D0 As η0 m0 hd=>by
  unfold AY at hm;obtain⟨y1,q1,hm⟩:=Ac hm;rcases y1 with _|x1
  ·dsimp only at hm;obtain rfl:=Akr hm;exact NR (AZ q1)
  dsimp only at hm;refine gc (fun _=>(AZ q1).sp)<|oB hm fun x2 q2 hm=>gx Ad 3 q2<|gA hm VT fun x3 q3 hm=> ?_;obtain⟨y2,q4,hm⟩:=Ac hm;rcases y2 with _|x4
  ·dsimp only at hm;obtain rfl:=Akr hm;exact NR (AZ q4)
  dsimp only at hm;refine gc (fun _=>(AZ q4).sp)<|oB hm fun x5 q5 hm=>gk Ad 3 q5 ?_;obtain rfl:=Akr hm;exact PB hd
def A6 (s1:(List ByteArray)×(List g_api_Item)):Option (((List ByteArray)×(List g_api_Item))⊕(((List ByteArray)×(List g_api_Item))⊕(Option ((List ByteArray)×Ap)))):=if(decide ((s1.2.length:Int)>0))=true then Ab (AY (⟨s1.2⟩:Ap)) fun y4=>match y4 with|none=>some (.inr (.inr none))|some x4=>Ab (app 16 s1.1 ([x4.1]:List ByteArray)) fun x5=>some (.inl (x5,x4.2.l_))else some (.inr (.inl (s1.1,s1.2)))
def De (a0:Ap):Option (Option ((List ByteArray)×Ap)):=
 Ab (Bc a0) fun y1=>match y1 with
 |none=>some none
 |some x1=>
 Ab (iter A6 EV (([]:List ByteArray),x1.1.l_)) fun x2=>match x2 with
 | .inr r=>some r
 | .inl y2=>
 some (some (y2.1,x1.2))
theorem EZ {a0 r}(hm:De a0=some r):Sb prog 286 [.pb 0 0] [.box 0 [sl Ad a0.l_] 312] 1 TB (Pos r (fun r=> .ow 1) (fun r=> [.box 0 [.d (.sl _ Ad r.2.l_)] 312,.row 1 1 _ eS r.1]) 2) (r=none):=
 sb call286 func286 rfl ntmps286 rfl fun D0 As η0 m0 hd=>by
  unfold De at hm;obtain⟨y1,q1,hm⟩:=Ac hm;rcases y1 with _|x1
  ·dsimp only at hm;obtain rfl:=Akr hm;exact NR (CA q1)
  dsimp only at hm;refine gco (CA q1).sp<|oB hm fun x2 q2 hm=>Sj 0 eS 3 1<|gI q2 (fun(p_0,p_1)=>⟨[(3,.ow 2),(4,.pb 1 0),(6,.pb 1 0)],[(0,.row 2 1 _ eS p_0),(1,.box 1 [sl Ad p_1] 312),(2,.box 0 [sl Ad x1.2.l_] 312)],[],3⟩) fun s1 y3 Jl q5 bl1=> ?_;unfold A6 at q5;refine gi q5 ?_ ?_<;>intro hc1 q5
  ·obtain⟨y4,q7,q5⟩:=Ac q5;rcases y4 with _|x4
   ·dsimp only at q5;obtain rfl:=nR bl1 q5;obtain rfl:=Akr hm;exact NR (Ch q7)
   dsimp only at q5;exact gco (Ch q7).sp<|gq eS 1 [x4.1]<|oB q5 fun x5 q8 q5=>gp eS 1 q8<|gN bl1 q5
  obtain rfl:=nR bl1 q5;let y2:=(s1.1,s1.2);obtain rfl:=Akr hm;exact PB hd
def K9 (a0:g_api_Item):Option Bool:=Ab (idx a0.B 0) fun x1=>some ((x1.toNat:Int) !=0)
theorem SY {a0 r}(hm:K9 a0=some r):Sf prog 330 [ag (Ad a0)] (.d (.t r)):=by
 refine sq ?_;intros;refine oB hm fun _ q1 hm=>gx eB 1 q1 ?_;exact Akr hm▸gE
def HR (a0:g_api_Item)(a1:Int):Option (Bool×Int):=if(a0.Tag !=a1)=true then some (false,72)else Ab (Kj a0 8) fun x1=>if(!x1)=true then some (false,71)else Ab (K9 a0) fun x2=>some (x2,0)
theorem O0 {a0 a1 r}(hm:HR a0 a1=some r):Sf prog 329 [ag (Ad a0),.d (.i a1),.fn (.func 330) [] []] (.tup [.d (.t r.1),.d (.i r.2)]):=by
 refine sq ?_;intros;refine gi hm ?_ ?_<;>intro _ hm
 ·exact Akr hm▸gE
 refine gA hm MX fun _ q1 hm=>gi hm ?_ ?_<;>intro _ hm
 ·exact Akr hm▸gE
 refine gA hm SY fun _ q2 hm=> ?_;exact Akr hm▸gE
def KY (a0:g_api_Item):Option (Bool×Int):=Ab (HR a0 1) fun x1=>some (x1.1,x1.2)
theorem VU {a0 r}(hm:KY a0=some r):Sf prog 288 [ag (Ad a0)] (.tup [.d (.t r.1),.d (.i r.2)]):=by
 refine sq ?_;intros;refine gA hm O0 fun _ q1 hm=> ?_;exact Akr hm▸gE
def CD (a0:Ap):Option (Option (Bool×Ap)):=
 Ab (Bi (decide ((a0.l_.length:Int)>0))) fun y1=>match y1 with
 |none=>some none
 |some x1=>
 Ab (idx a0.l_ 0) fun x2=>
 Ab (KY x2) fun x3=>
 Ab (Bi (x3.2==0)) fun y2=>match y2 with
 |none=>some none
 |some x4=>
 Ab (cut a0.l_ 1 (a0.l_.length:Int)) fun x5=>
 some (some (x3.1,(⟨x5⟩:Ap)))
theorem IJ {a0 r}(hm:CD a0=some r):Sb prog 287 [.pb 0 0,.fn (.func 288) [] []] [.box 0 [sl Ad a0.l_] 312] 1 TB (Pos r (fun r=> .d (.t r.1)) (fun r=> [.box 0 [.d (.sl _ Ad r.2.l_)] 312]) 1) (r=none):=
 sb call287 func287 rfl ntmps287 rfl fun D0 As η0 m0 hd=>by
  unfold CD at hm;obtain⟨y1,q1,hm⟩:=Ac hm;rcases y1 with _|x1
  ·dsimp only at hm;obtain rfl:=Akr hm;exact NR (AZ q1)
  dsimp only at hm;refine gc (fun _=>(AZ q1).sp)<|oB hm fun x2 q2 hm=>gx Ad 3 q2<|gA hm VU fun x3 q3 hm=> ?_;obtain⟨y2,q4,hm⟩:=Ac hm;rcases y2 with _|x4
  ·dsimp only at hm;obtain rfl:=Akr hm;exact NR (AZ q4)
  dsimp only at hm;refine gc (fun _=>(AZ q4).sp)<|oB hm fun x5 q5 hm=>gk Ad 3 q5 ?_;obtain rfl:=Akr hm;exact PB hd
def Df (a0:Ap):Option (Option (Ag×Ap)):=
 Ab (AT a0) fun y1=>match y1 with
 |none=>some none
 |some x1=>
 Ab (AY x1.2) fun y2=>match y2 with
 |none=>some none
 |some x2=>
 Ab (AY x2.2) fun y3=>match y3 with
 |none=>some none
 |some x3=>
 Ab (Bd x3.2) fun y4=>match y4 with
 |none=>some none
 |some x4=>
 Ab (De x4.2) fun y5=>match y5 with
 |none=>some none
 |some x5=>
 Ab (AT x5.2) fun y6=>match y6 with
 |none=>some none
 |some x6=>
 Ab (AT x6.2) fun y7=>match y7 with
 |none=>some none
 |some x7=>
 Ab (CD x7.2) fun y8=>match y8 with
 |none=>some none
 |some x8=>
 Ab (AT x8.2) fun y9=>match y9 with
 |none=>some none
 |some x9=>
 Ab (De x9.2) fun y10=>match y10 with
 |none=>some none
 |some x10=>
 Ab (Cj x10.2) fun y11=>match y11 with
 |none=>some none
 |some x11=>
 some (some ((⟨x1.1,x2.1,x3.1,x4.1,x5.1,x6.1,x7.1,x8.1,x9.1,x10.1,[],(⟨0,0⟩:g_api_Sig)⟩:Ag),x11))
theorem Lo {a0 r}(hm:Df a0=some r):Sb prog 214 [.pb 0 0] [.box 0 [sl Ad a0.l_] 312] 1 TB (Pos r (fun r=> .agg (List.set (((B1 r.1)).map dv) 10 (.d (.v (.slice none 0 0))))) (fun r=> [.box 0 [.d (.sl _ Ad r.2.l_)] 312]) 1) (r=none):=
 sb call214 func214 rfl ntmps214 rfl fun D0 As η0 m0 hd=>by
  unfold Df at hm;obtain⟨y1,q1,hm⟩:=Ac hm;rcases y1 with _|x1
  ·dsimp only at hm;obtain rfl:=Akr hm;exact NR (AL q1)
  dsimp only at hm;refine gco (AL q1).sp ?_;obtain⟨y2,q2,hm⟩:=Ac hm;rcases y2 with _|x2
  ·dsimp only at hm;obtain rfl:=Akr hm;exact NR (Ch q2)
  dsimp only at hm;refine gco (Ch q2).sp ?_;obtain⟨y3,q3,hm⟩:=Ac hm;rcases y3 with _|x3
  ·dsimp only at hm;obtain rfl:=Akr hm;exact NR (Ch q3)
  dsimp only at hm;refine gco (Ch q3).sp ?_;obtain⟨y4,q4,hm⟩:=Ac hm;rcases y4 with _|x4
  ·dsimp only at hm;obtain rfl:=Akr hm;exact NR (BZ q4)
  dsimp only at hm;refine gco (BZ q4).sp ?_;obtain⟨y5,q5,hm⟩:=Ac hm;rcases y5 with _|x5
  ·dsimp only at hm;obtain rfl:=Akr hm;exact NR (EZ q5)
  dsimp only at hm;refine gco (EZ q5).sp ?_;obtain⟨y6,q6,hm⟩:=Ac hm;rcases y6 with _|x6
  ·dsimp only at hm;obtain rfl:=Akr hm;exact NR (AL q6)
  dsimp only at hm;refine gco (AL q6).sp ?_;obtain⟨y7,q7,hm⟩:=Ac hm;rcases y7 with _|x7
  ·dsimp only at hm;obtain rfl:=Akr hm;exact NR (AL q7)
  dsimp only at hm;refine gco (AL q7).sp ?_;obtain⟨y8,q8,hm⟩:=Ac hm;rcases y8 with _|x8
  ·dsimp only at hm;obtain rfl:=Akr hm;exact NR (IJ q8)
  dsimp only at hm;refine gco (IJ q8).sp ?_;obtain⟨y9,q9,hm⟩:=Ac hm;rcases y9 with _|x9
  ·dsimp only at hm;obtain rfl:=Akr hm;exact NR (AL q9)
  dsimp only at hm;refine gco (AL q9).sp ?_;obtain⟨y10,q10,hm⟩:=Ac hm;rcases y10 with _|x10
  ·dsimp only at hm;obtain rfl:=Akr hm;exact NR (EZ q10)
  dsimp only at hm;refine gco (EZ q10).sp ?_;obtain⟨y11,q11,hm⟩:=Ac hm;rcases y11 with _|x11
  ·dsimp only at hm;obtain rfl:=Akr hm;exact NR (DK q11)
  dsimp only at hm;refine gco (DK q11).sp ?_;obtain rfl:=Akr hm;exact PB hd
def A2 (s1:(List g_api_Item)×(List g_api_Promise)):Option (((List g_api_Item)×(List g_api_Promise))⊕(((List g_api_Item)×(List g_api_Promise))⊕(Option (Ag×Ap)))):=
 if(decide ((s1.1.length:Int)>0))=true then
  Ab (Bc (⟨s1.1⟩:Ap)) fun y6=>match y6 with
  |none=>some (.inr (.inr none))
  |some x6=>
  Ab (AT x6.1) fun y7=>match y7 with
  |none=>some (.inr (.inr none))
  |some x7=>
  Ab (AT x7.2) fun y8=>match y8 with
  |none=>some (.inr (.inr none))
  |some x8=>
  Ab (Bd x8.2) fun y9=>match y9 with
  |none=>some (.inr (.inr none))
  |some x9=>
  Ab (Bd x9.2) fun y10=>match y10 with
  |none=>some (.inr (.inr none))
  |some x10=>
  Ab (Bd x10.2) fun y11=>match y11 with
  |none=>some (.inr (.inr none))
  |some x11=>
  Ab (Bd x11.2) fun y12=>match y12 with
  |none=>some (.inr (.inr none))
  |some x12=>
  Ab (app 48 s1.2 ([(⟨x7.1,x8.1,(x9.1,x10.1),(⟨x11.1,x12.1⟩:g_api_Sig)⟩:g_api_Promise)]:List g_api_Promise)) fun x13=>
  Ab (Cj x12.2) fun y13=>match y13 with
  |none=>some (.inr (.inr none))
  |some x14=>
  some (.inl (x6.2.l_,x13))
 else
 some (.inr (.inl (s1.1,s1.2)))
def Dr (a0:Ap):Option (Option (Ag×Ap)):=
 Ab (Bc a0) fun y1=>match y1 with
 |none=>some none
 |some x1=>
 Ab (Df x1.1) fun y2=>match y2 with
 |none=>some none
 |some x2=>
 Ab (Bc x1.2) fun y3=>match y3 with
 |none=>some none
 |some x3=>
 Ab (iter A2 EV (x3.1.l_,([]:List g_api_Promise))) fun x4=>match x4 with
 | .inr r=>some r
 | .inl y4=>
 Ab (Cj x3.2) fun y14=>match y14 with
 |none=>some none
 |some x15=>
 some (some ((⟨x2.1.Serial,x2.1.Issuer,x2.1.Subject,x2.1.Key,x2.1.Names,x2.1.From,x2.1.Until,x2.1.Ca,x2.1.Depth,x2.1.Permit,y4.2,x2.1.Sig⟩:Ag),x15))
theorem KI {a0 r}(hm:Dr a0=some r):Sb prog 121 [.pb 0 0] [.box 0 [sl Ad a0.l_] 312] 1 TB (Pos r (fun r=>ag (B1 r.1)) (fun r=> [.box 0 [.d (.sl _ Ad r.2.l_)] 312]) 1) (r=none):=
 sb call121 func121 rfl ntmps121 rfl fun D0 As η0 m0 hd=>by
  unfold Dr at hm;obtain⟨y1,q1,hm⟩:=Ac hm;rcases y1 with _|x1
  ·dsimp only at hm;obtain rfl:=Akr hm;exact NR (CA q1)
  dsimp only at hm;refine gco (CA q1).sp ?_;obtain⟨y2,q2,hm⟩:=Ac hm;rcases y2 with _|x2
  ·dsimp only at hm;obtain rfl:=Akr hm;exact NR (Lo q2)
  dsimp only at hm;refine gco (Lo q2).sp ?_;obtain⟨y3,q3,hm⟩:=Ac hm;rcases y3 with _|x3
  ·dsimp only at hm;obtain rfl:=Akr hm;exact NR (CA q3)
  dsimp only at hm;refine gco (CA q3).sp<|oB hm fun x4 q4 hm=>WK 0 Ae 3 10 6<|gI q4 (fun(p_0,p_1)=>⟨[(0,.pb 0 0),(2,.pb 1 0),(3,.pb 3 0),(4,.pb 4 0),(10,.pb 4 0),(7,.pb 2 0)],[(0,.row 5 6 _ Ae p_1),(1,.box 4 [sl Ad p_0] 312),(2,.box 0 [sl Ad x3.2.l_] 312),(3,.box 3 [.d (.i x2.1.Serial),.d (.s x2.1.Issuer),.d (.s x2.1.Subject),.d (.u x2.1.Key),sl eS x2.1.Names,.d (.i x2.1.From),.d (.i x2.1.Until),.d (.t x2.1.Ca),.d (.i x2.1.Depth),sl eS x2.1.Permit,.ow 5,.d (.u x2.1.Sig.E),.d (.u x2.1.Sig.S)] 43),(4,.box 2 [sl Ad x2.2.l_] 312),(5,.box 1 [.d (.i 0),.d (.s ByteArray.empty),.d (.s ByteArray.empty),.d (.u 0),sl eS [],.d (.i 0),.d (.i 0),.d (.t false),.d (.i 0),sl eS [],sl Ae [],.d (.u 0),.d (.u 0)] 43)],[],6⟩) fun s1 y5 Jl q7 bl1=> ?_;unfold A2 at q7;refine gi q7 ?_ ?_<;>intro hc1 q7
  ·obtain⟨y6,q9,q7⟩:=Ac q7;rcases y6 with _|x6
   ·dsimp only at q7;obtain rfl:=nR bl1 q7;obtain rfl:=Akr hm;exact NR (CA q9)
   dsimp only at q7;refine gco (CA q9).sp ?_;obtain⟨y7,q10,q7⟩:=Ac q7;rcases y7 with _|x7
   ·dsimp only at q7;obtain rfl:=nR bl1 q7;obtain rfl:=Akr hm;exact Yf (AL q10)
   dsimp only at q7;refine gco (AL q10).sp ?_;obtain⟨y8,q11,q7⟩:=Ac q7;rcases y8 with _|x8
   ·dsimp only at q7;obtain rfl:=nR bl1 q7;obtain rfl:=Akr hm;exact Yf (AL q11)
   dsimp only at q7;refine gco (AL q11).sp ?_;obtain⟨y9,q12,q7⟩:=Ac q7;rcases y9 with _|x9
   ·dsimp only at q7;obtain rfl:=nR bl1 q7;obtain rfl:=Akr hm;exact Yf (BZ q12)
   dsimp only at q7;refine gco (BZ q12).sp ?_;obtain⟨y10,q13,q7⟩:=Ac q7;rcases y10 with _|x10
   ·dsimp only at q7;obtain rfl:=nR bl1 q7;obtain rfl:=Akr hm;exact Yf (BZ q13)
   dsimp only at q7;refine gco (BZ q13).sp ?_;obtain⟨y11,q14,q7⟩:=Ac q7;rcases y11 with _|x11
   ·dsimp only at q7;obtain rfl:=nR bl1 q7;obtain rfl:=Akr hm;exact Yf (BZ q14)
   dsimp only at q7;refine gco (BZ q14).sp ?_;obtain⟨y12,q15,q7⟩:=Ac q7;rcases y12 with _|x12
   ·dsimp only at q7;obtain rfl:=nR bl1 q7;obtain rfl:=Akr hm;exact Yf (BZ q15)
   dsimp only at q7;refine gco (BZ q15).sp<|gq Ae 6 [(⟨x7.1,x8.1,(x9.1,x10.1),(⟨x11.1,x12.1⟩:g_api_Sig)⟩:g_api_Promise)]<|oB q7 fun x13 q16 q7=>gp Ae 6 q16 ?_;obtain⟨y13,q17,q7⟩:=Ac q7;rcases y13 with _|x14
   ·dsimp only at q7;obtain rfl:=nR bl1 q7;obtain rfl:=Akr hm;exact NR (DK q17)
   dsimp only at q7;exact gco (DK q17).sp<|gN bl1 q7
  obtain rfl:=nR bl1 q7;let y4:=(s1.1,s1.2);obtain⟨y14,q18,hm⟩:=Ac hm;rcases y14 with _|x15
  ·dsimp only at hm;obtain rfl:=Akr hm;exact NR (DK q18)
  dsimp only at hm;refine gco (DK q18).sp ?_;obtain rfl:=Akr hm;exact PB hd
theorem d1_210 (a b:Value)(w:World):CallsDIn (FW none) 0 prog 210 #[a,b] .returning w fun e u' w'=> ∃v,e= .returned v∧u'= .returning∧w'=w:=by
 refine CallsDIn.mono (Y3 (N:=11) (args:=[a,b]) (u:= .returning) (u':= .returning) (v:= .nilIface) (R:=fun w'=>w'=w) func210 rfl ntmps210 rfl (AkG rfl) rfl (fun c₀ cs hu=> .inr ⟨by simp[recoverD,hu],rfl,rfl⟩) ?_) fun e u2 w' ⟨x,h1,h2,_,h3⟩=>⟨x,h1,h2,h3⟩;refine C5 (A9 (l:=[_]) ?_);refine s_mv ?_;refine Co (nrm ?_);refine JQ (C5 (A9 (l:=[_]) ?_));refine Aq (v:= .bool true) (w':=w) rfl (fun _ e=>by cases e) (by kernel_rfl) ?_;refine Co (nrm ?_);refine NJ rfl ?_;exact NK (nrmB ⟨.inl rfl,rfl⟩)
def zd28:List D:=[.i 0,.s .empty,.s .empty,.u 0,.v (.slice none 0 0),.i 0,.i 0,.t false,.i 0,.v (.slice none 0 0),.v (.slice none 0 0),.u 0,.u 0]
theorem d2_210 (m:Mem)(As:List Ow)(w:World)(bc be:Nat)(cs es:List Value)(hc:cs.length=13)(he:es.length=1)(hc1: ∀v∈cs,v.oneCell'=true)(he1: ∀v∈es,v.oneCell'=true)(S:St m (bx bc cs 43::bx be es 46::As) w):
  CallsDIn (FW none) 0 prog 210 #[pt bc 0,pt be 0] (.panicking (chn TB)) w fun e u' w'=> ∃v,e= .returned v∧u'= .panicking [{v:=TB,recovered:=true}]∧Kd w w'∧
   ∃M zs ze,m≤M∧FRL M zd28 zs∧FR M (.i 71) ze∧St M (bx bc zs 43::bx be [ze] 46::As) w':=by
 refine Y3 (N:=11) (args:=[pt bc 0,pt be 0]) (u:= .panicking (chn TB)) (u':= .panicking [{v:=TB,recovered:=true}]) (v:=TB) func210 rfl ntmps210 rfl (AkG rfl) rfl (fun c₀ cs hu=> .inl (by simp[recoverD,hu,chn])) ?_;refine C5 (A9 (l:=[_]) ?_);refine s_mv ?_;refine Co (nrm ?_);refine JQ (C5 (A9 (l:=[_]) ?_));refine Aq (v:= .bool false) (w':=w) rfl (fun _ e=>by cases e) (by kernel_rfl) ?_;refine Co (nrm ?_);refine Ru rfl ?_;refine C5 (A9 (l:=[_,_,_]) ?_);refine Aq (v:= .tuple #[.agg #[],.bool true]) (w':=w) rfl (fun _ e=>by cases e) (by kernel_rfl) ?_;refine Aq (v:= .bool true) (w':=w) rfl (fun _ e=>by cases e) (by kernel_rfl) ?_;refine Aq (v:= .agg #[]) (w':=w) rfl (fun _ e=>by cases e) (by kernel_rfl) ?_;refine Co (nrm ?_);refine NJ rfl ?_;let η0:Env:=fun n=>if n=0 then some (pt bc 0)else if n=1 then some (pt be 0)else none;have h0:η0 0=some (pt bc 0):=rfl;have h1:η0 1=some (pt be 0):=rfl;have hd: ∀n,η0 n≠none→n<2:=fun n h=>by
  show n<2;have h:(if n=0 then some (pt bc 0)else if n=1 then some (pt be 0)else none)≠none:=h;split at h
  ·omega
  ·split at h
   ·omega
   ·exact absurd rfl h
 have ho:=fun(l:List Value) (v:Value) (hv:v∈l) (q: ∀v∈l,v.oneCell'=true)=>q v hv;let s0:AS:=⟨[(0,.pb 0 0),(1,.pb 1 0)],[(0,.box 0 (List.replicate 13 .any) 43),(1,.box 1 [.any] 46)],[],2⟩;have any_rel: ∀{n:Nat} {l:List Value},l.length=n→BP η0 m (List.replicate n .any) l:=fun hl=>⟨by simp[hl],fun k c u a b=>by
  rw[List.getElem?_replicate]at a;split at a
  ·cases a; exact .any _
  ·cases a⟩
 have S2:St m (rep η0 m (.box 0 (List.replicate 13 .any) 43)::rep η0 m (.box 1 [.any] 46)::As) w:=by
  have T:=St.closeBox h0 (any_rel hc) hc1 S;have T2:=T.perm (Ak8 _ _ _);have T3:=St.closeBox h1 (any_rel (n:=1) he) he1 T2;exact T3.perm (Ak8 _ _ _)
 refine FI (Q:=Ax.pk none prog 11 (w,[],true) (Ze (Rl As η0 m (fun _:Unit=>⟨[],[(0,.box 0 (zd28.map .d) 43),(1,.box 1 [.d (.i 71)] 46)],[],2⟩) (fun _=>True)) TB (fun _ _=>False)) [.blk 0]) ?_ (gat s0 (η:=η0) (m:=m) ?_ (WJ () trivial hd (by kernel_rfl)))
 ·intro e f' w' q;have fin:Rl As η0 m (fun _:Unit=>⟨[],[(0,.box 0 (zd28.map .d) 43),(1,.box 1 [.d (.i 71)] 46)],[],2⟩) (fun _=>True) f' w'→∃M zs ze,m≤M∧FRL M zd28 zs∧FR M (.i 71) ze∧St M (bx bc zs 43::bx be [ze] 46::As) w':=
   fun⟨_,_,η,M,le,l,gm⟩=>let ⟨zs,ze,a,b,c⟩:=Abs h0 h1 le gm; ⟨M,zs,ze,l,a,b,c⟩
  cases e with
  |normal=>exact⟨.inl rfl,fin q⟩
  |ret=>exact⟨.inr rfl,fin q⟩
  |exit id=>
   have q:(bif Nat.beq id 0 then Rl As η0 m (fun _:Unit=>⟨[],[(0,.box 0 (zd28.map .d) 43),(1,.box 1 [.d (.i 71)] 46)],[],2⟩) (fun _=>True) f' w' else False):=q;cases hb:Nat.beq id 0
   ·rw[hb]at q; exact q.elim
   ·rw[hb]at q;refine(show NZ 0 _ (.exit id) f' w' from ?_);simp only[NZ,hb,cond_true];exact⟨by simp,fin q⟩
  |goto l=>exact q.elim
  |panic ch=>exact q.2.elim
  |outgrown=>exact q.elim
 ·refine⟨fun t=> ?_,fun n d h=>(by cases h),hd,S2,?_,fun t ht=> ?_⟩
  ·match t with
   |0=>exact .pb h0
   |1=>exact .pb h1
   |t+2=>exact .any _
  ·show [0,1].Nodup; decide
  ·have:t∈[0,1]:=ht;show t<2;simp at this; omega
def Fg (a0:List UInt8)(x1:g_api_Item×Int×Int):Option (Option (Ag×Int)):=
 Ab (Bi (x1.2.1==(a0.length:Int))) fun y1=>match y1 with
 |none=>some none
 |some x2=>
 Ab (LF x1.1) fun y2=>match y2 with
 |none=>some none
 |some x3=>
 Ab (Dr x3) fun y3=>match y3 with
 |none=>some none
 |some x4=>
 Ab (Eb x4.1) fun x5=>
 Ab (Bi (x5==0)) fun y4=>match y4 with
 |none=>some none
 |some x6=>
 some (some (x4.1,0))
def HV (a0:List UInt8):Option (Ag×Int):=Ab (Pv a0 0) fun x1=>if(x1.2.2 !=0)=true then some ((⟨0,ByteArray.empty,ByteArray.empty,0,[],0,0,false,0,[],[],(⟨0,0⟩:g_api_Sig)⟩:Ag),x1.2.2)else Ab (Fg a0 x1) fun z=>some (match z with|none=>((⟨0,ByteArray.empty,ByteArray.empty,0,[],0,0,false,0,[],[],(⟨0,0⟩:g_api_Sig)⟩:Ag),71)|some c=>c)
theorem RN {a0 r}(hm:HV a0=some r):Sf prog 120 [sl eB a0,.fn (.func 121) [] []] (.tup [ag (B1 r.1),.d (.i r.2)]):=by
 unfold HV at hm;obtain⟨x1,q1,hm⟩:=Ac hm;refine get_of (N:=33) (nc:=13) (tc:=43) (te:=46) (zd:=[.i 0,.s ByteArray.empty,.s ByteArray.empty,.u 0,.v (.slice none 0 0),.i 0,.i 0,.t false,.i 0,.v (.slice none 0 0),.v (.slice none 0 0),.u 0,.u 0]) (ev0:= .i 71) (ov:=TB) (ok1:=((x1.2.2 !=0))=false) (okX:=((x1.2.2 !=0))=false∧Fg a0 x1=some none) (okE:=fun c=>((x1.2.2 !=0))=false∧Fg a0 x1=some (some c)) (JE:=fun(c:Ag×Int)=>⟨[(4,.pb 0 0),(5,.pb 1 0)],[(0,.box 0 [.d (.i c.1.Serial),.d (.s c.1.Issuer),.d (.s c.1.Subject),.d (.u c.1.Key),sl eS c.1.Names,.d (.i c.1.From),.d (.i c.1.Until),.d (.t c.1.Ca),.d (.i c.1.Depth),sl eS c.1.Permit,sl Ae c.1.Proms,.d (.u c.1.Sig.E),.d (.u c.1.Sig.S)] 43),(1,.box 1 [.d (.i c.2)] 46)],[],2⟩) (J1:=⟨[(0,sl eB a0),(1,.fn (.func 121) [] []),(4,.pb 0 0),(5,.pb 1 0),(6,.pb 2 0),(7,.d (.i x1.2.1))],[(0,.box 2 [.d (.i x1.1.Tag),sl eB x1.1.B,sl Ad x1.1.L] 76),(1,.box 1 [.d (.i x1.2.2)] 46),(2,.box 0 [.d (.i 0),.d (.s ByteArray.empty),.d (.s ByteArray.empty),.d (.u 0),sl eS [],.d (.i 0),.d (.i 0),.d (.t false),.d (.i 0),sl eS [],sl Ae [],.d (.u 0),.d (.u 0)] 43)],[],3⟩) call120 call210 func120 rfl ntmps120 rfl rfl ⟨rfl,rfl⟩ rfl ?_ ?_ ?_ (fun c hc=>rfl) ?_ (d1_210) (d2_210)
 ·intro D0 As η0 m0 Jp hd bk;refine gc (fun _=>Abn q1)<|gi hm ?_ ?_<;>intro hc1 hm
  ·exact Akr hm▸gE
  exact gb bk hd () hc1
 ·intro hok D0 As η0 m0 hd;rw[Aky (by rw[hok]; decide)]at hm;obtain⟨z,hz,hm⟩:=Ac hm;have hz2:=hz;unfold Fg at hz2;obtain⟨y1,q2,hz2⟩:=Ac hz2;rcases y1 with _|x2
  ·dsimp only at hz2;obtain rfl:=Akr hz2;exact Adn (AZ q2) ⟨hok,hz⟩ hd
  dsimp only at hz2;refine gc (fun _=>(AZ q2).sp) ?_;obtain⟨y2,q3,hz2⟩:=Ac hz2;rcases y2 with _|x3
  ·dsimp only at hz2;obtain rfl:=Akr hz2;exact Adn (VY q3) ⟨hok,hz⟩ hd
  dsimp only at hz2;refine gco (VY q3).sp ?_;obtain⟨y3,q4,hz2⟩:=Ac hz2;rcases y3 with _|x4
  ·dsimp only at hz2;obtain rfl:=Akr hz2;exact Adn (KI q4) ⟨hok,hz⟩ hd
  dsimp only at hz2;refine gco (KI q4).sp<|gA hz2 IK fun x5 q5 hz2=> ?_;obtain⟨y4,q6,hz2⟩:=Ac hz2;rcases y4 with _|x6
  ·dsimp only at hz2;obtain rfl:=Akr hz2;exact Adn (AZ q6) ⟨hok,hz⟩ hd
  dsimp only at hz2;refine gc (fun _=>(AZ q6).sp) ?_;obtain rfl:=Akr hz2;exact WJ _ ⟨hok,hz⟩ hd
 ·rintro c ⟨hC,hz⟩ D0 As η0 m0 hd;rw[Aky (by rw[hC]; decide),hz]at hm;have e0:c=r:=Akr hm;subst e0;exact Adt hd
 ·rintro⟨hC,hz⟩ D0 As η0 m0 hd;rw[Aky (by rw[hC]; decide),hz]at hm;have e0:((⟨0,ByteArray.empty,ByteArray.empty,0,[],0,0,false,0,[],[],(⟨0,0⟩:g_api_Sig)⟩:Ag),71)=r:=Akr hm;subst e0;exact Adt hd
def Fy (a0:List UInt8):Option (Ag×Int):=Ab (HV a0) fun x1=>some (x1.1,x1.2)
theorem N8 {a0 r}(hm:Fy a0=some r):Sf prog 46 [sl eB a0] (.tup [ag (B1 r.1),.d (.i r.2)]):=by
 refine sq ?_;intros;refine gA hm RN fun _ q1 hm=> ?_;exact Akr hm▸gE
def Mk (a0:Ag):Option ((UInt64×UInt64)×Int):=Ab (JO a0) fun x1=>if(x1.2 !=0)=true then some ((0,0),x1.2)else Ab (Dk x1.1) fun x2=>some (x2,0)
theorem Xz {a0 r}(hm:Mk a0=some r):Sf prog 50 [ag (B1 a0)] (.tup [ag (A7 r.1),.d (.i r.2)]):=by
 refine sq ?_;intros;refine gD hm Tr fun _ q1 hm=>gi hm ?_ ?_<;>intro _ hm
 ·exact Akr hm▸gE
 refine gD hm Jk fun _ q2 hm=> ?_;exact Akr hm▸gE
def Mz (a0:Ar)(k0:g_api_Promise):Option (Bool×g_api_Promise):=some ((a0.Log==k0.Log),k0)
theorem QT {a0 k0 r}(hm:Mz a0 k0=some r):Sp prog 53 [ag (AN a0),.pb 0 0] [.box 0 [.d (.i k0.Log),.d (.i k0.At),.d (.u k0.Leaf.1),.d (.u k0.Leaf.2),.d (.u k0.Sig.E),.d (.u k0.Sig.S)] 110] 1 (is (.d (.t r.1)) [.box 0 [.d (.i r.2.Log),.d (.i r.2.At),.d (.u r.2.Leaf.1),.d (.u r.2.Leaf.2),.d (.u r.2.Sig.E),.d (.u r.2.Sig.S)] 110] 1):=by
 refine sq ?_;intros;exact Akr hm▸gE
def Jy (a0:Ar)(a1:Int)(a2:Bool)(a3:List UInt8)(a4:g_api_Sig):Option Int:=Ab (E7 a1) fun x1=>if((!x1)||(!a2))=true then some 1 else if(a1 !=a0.Log)=true then some 240 else Ab (IT a0.Key a3 a4) fun x2=>some x2
theorem Uk {a0 a1 a2 a3 a4 r}(hm:Jy a0 a1 a2 a3 a4=some r):Sf prog 133 [ag (AN a0),.d (.i a1),.d (.t a2),sl eB a3,ag (PI a4)] (.d (.i r)):=by
 refine sq ?_;intros;refine gA hm Hp fun _ q1 hm=>gi hm ?_ ?_<;>intro _ hm
 ·exact Akr hm▸gE
 refine gi hm ?_ ?_<;>intro _ hm
 ·exact Akr hm▸gE
 refine gA hm Qy fun _ q2 hm=> ?_;exact Akr hm▸gE
def E8 (a0:Ar)(a1:g_api_Promise):Option Int:=Ab (E7 a1.At) fun x1=>Ab (D3 a1) fun x2=>Ab (Jy a0 a1.Log x1 x2 a1.Sig) fun x3=>some x3
theorem Om {a0 a1 r}(hm:E8 a0 a1=some r):Sf prog 54 [ag (AN a0),ag (Ae a1)] (.d (.i r)):=by
 refine sq ?_;intros;refine gA hm Hp fun _ q1 hm=>gD hm I1 fun x2 q2 hm=>oB hm fun _ q3 hm=>gco (Sp.lend (os:=[.row 0 1 _ eB x2]) (n1:=1) (Uk q3) (.cons (.same (by kernel_rfl)) (.cons (.same (by kernel_rfl)) (.cons (.same (by kernel_rfl)) (.cons (.row (.head _)) (.cons (.same (by kernel_rfl)) .nil))))) (by kernel_rfl)) ?_;exact Akr hm▸gE
def B4 (a0:List Ar)(i1:Int)(s1:Int×Int×UInt64×UInt64×UInt64×UInt64):Option ((Int×Int×UInt64×UInt64×UInt64×UInt64)⊕(Int×g_api_Promise)):=Ab (idx a0 (i1:Int)) fun x3=>Ab (Mz x3 (⟨s1.1,s1.2.1,(s1.2.2.1,s1.2.2.2.1),(⟨s1.2.2.2.2.1,s1.2.2.2.2.2⟩:g_api_Sig)⟩:g_api_Promise)) fun x4=>if x4.1=true then some (.inr ((i1:Int),x4.2))else some (.inl (x4.2.Log,x4.2.At,x4.2.Leaf.1,x4.2.Leaf.2,x4.2.Sig.E,x4.2.Sig.S))
def BB (a0:List Ar)(k0:g_api_Promise):Option (Int×g_api_Promise):=Ab (Es (B4 a0) a0.length 0 (k0.Log,k0.At,k0.Leaf.1,k0.Leaf.2,k0.Sig.E,k0.Sig.S)) fun x1=>match x1 with| .inr r=>some r| .inl y1=>some ((-1),(⟨y1.1,y1.2.1,(y1.2.2.1,y1.2.2.2.1),(⟨y1.2.2.2.2.1,y1.2.2.2.2.2⟩:g_api_Sig)⟩:g_api_Promise))
theorem Gc {a0 k0 r}(hm:BB a0 k0=some r):Sp prog 52 [sl AN a0,.fn (.func 53) [] [.pb 0 0]] [.box 0 [.d (.i k0.Log),.d (.i k0.At),.d (.u k0.Leaf.1),.d (.u k0.Leaf.2),.d (.u k0.Sig.E),.d (.u k0.Sig.S)] 110] 1 (is (.d (.i r.1)) [.box 0 [.d (.i r.2.Log),.d (.i r.2.At),.d (.u r.2.Leaf.1),.d (.u r.2.Leaf.2),.d (.u r.2.Sig.E),.d (.u r.2.Sig.S)] 110] 1):=by
 refine sq ?_;intros;refine oB hm fun _ q1 hm=>Jd 0 (E:=AN) (xs:=a0) 6 fun hle1=>gF (EN _ _ _) q1 (fun p0 (p_0,p_1,p_2,p_3,p_4,p_5)=>⟨[(0,sl AN a0),(1,.fn (.func 53) [] [.pb 0 0]),(7,.d (.i (a0.length:Int))),(8,.d (.i p0))],[(0,.box 0 [.d (.i p_0),.d (.i p_1),.d (.u p_2),.d (.u p_3),.d (.u p_4),.d (.u p_5)] 110)],[],1⟩) fun i1 s1 Jl bl1=>cN bl1 (a0.length:Int) (fun _ q4 bl1=> ?_) fun e=> ?_
 ·refine oB q4 fun _ q6 q4=>gx AN 3 q6<|gD q4 QT fun _ q7 q4=>gi q4 ?_ ?_<;>intro _ q4
  ·obtain rfl:=nT bl1 q4;exact Akr hm▸gE
  exact gT bl1 hle1 q4
 subst e;let y1:=s1;exact Akr hm▸gE
def DG (a0:g_api_Promise)(k0:List Ar)(k1:UInt64×UInt64):Option (Bool×(List Ar)×(UInt64×UInt64)):=Ab (BB k0 a0) fun x1=>Ab (gu (!((decide (x1.1<0))||(!G3 x1.2.Leaf k1))) (idx k0 x1.1)) fun x2=>Ab (gu (!((decide (x1.1<0))||(!G3 x1.2.Leaf k1))) (E8 x2 x1.2)) fun x3=>bnd ((((decide (x1.1<0))||(!G3 x1.2.Leaf k1))||(x3 !=0))) fun x4=>some (x4,k0,k1)
theorem N3 {a0 k0 k1 r}(hm:DG a0 k0 k1=some r):Sp prog 51 [ag (Ae a0),.pb 0 0,.pb 1 0] [.box 0 [sl AN k0] 34,.box 1 [.d (.u k1.1),.d (.u k1.2)] 81] 2 (is (.d (.t r.1)) [.box 0 [.d (.sl _ AN r.2.1)] 34,.box 1 [.d (.u r.2.2.1),.d (.u r.2.2.2)] 81] 2):=by
 refine sq ?_;intros;refine gD hm Gc fun _ q1 hm=>oB hm fun _ q2 hm=>gxG AN 3 q2<|oB hm fun _ q3 hm=>gcH q3 Om<|bE hm ?_;intro _ hm;exact Akr hm▸gE
def A5 (a0:List g_api_Promise):Option (List g_api_Promise):=Ab (app 48 ([]:List g_api_Promise) a0) fun x1=>some x1
theorem Gd {a0 r}(hm:A5 a0=some r):Sp prog 56 [sl Ae a0] [] 0 (is (.ow 0) [.row 0 6 _ Ae r] 1):=by
 refine sq ?_;intros;unfold A5 at hm;refine gnq Ae a0 (fun he1=> ?_) ?_
 ·rw[he1]at hm;replace hm:(some ([]:List g_api_Promise))=some _:=hm;refine OE Ae 2 6 ?_;exact Akr hm▸gE
 refine TN (k:=6) Ae ([]:List g_api_Promise) (fun _=>rfl)<|oB hm fun _ q1 hm=>gp Ae 6 q1 ?_;exact Akr hm▸gE
def K6 (a0:List Int)(a1:List Int)(i1:Int)(s1:Unit):Option ((Unit)⊕Bool):=Ab (idx a0 (i1:Int)) fun x3=>Ab (idx a1 (i1:Int)) fun x4=>if(x3 !=x4)=true then some (.inr false)else some (.inl ())
def Ia (a0:List Int)(a1:List Int):Option Bool:=if((a0.length:Int) !=(a1.length:Int))=true then some false else Ab (Es (K6 a0 a1) a0.length 0 ()) fun x1=>match x1 with| .inr r=>some r| .inl y1=>some true
theorem ME {a0 a1 r}(hm:Ia a0 a1=some r):Sf prog 295 [sl eI a0,sl eI a1] (.d (.t r)):=by
 refine sq ?_;intros;refine gi hm ?_ ?_<;>intro _ hm
 ·exact Akr hm▸gE
 refine oB hm fun _ q1 hm=>Jd 0 (E:=eI) (xs:=a0) 11 fun hle1=>gF (EN _ _ _) q1 (fun p0 _=>⟨[(0,sl eI a0),(1,sl eI a1),(12,.d (.i (a0.length:Int))),(13,.d (.i p0))],[],[],0⟩) fun i1 s1 Jl bl1=>cN bl1 (a0.length:Int) (fun _ q4 bl1=> ?_) fun e=> ?_
 ·refine oB q4 fun _ q6 q4=>gx eI 1 q6<|oB q4 fun _ q7 q4=>gx eI 1 q7<|gi q4 ?_ ?_<;>intro _ q4
  ·obtain rfl:=nT bl1 q4;exact Akr hm▸gE
  exact gT bl1 hle1 q4
 subst e;exact Akr hm▸gE
def Pn (a0:g_api_Node)(a1:g_api_Node):Option Bool:=Ab (gu (((eqS a0.Label a1.Label)&&(a0.Here==a1.Here))&&(a0.Below==a1.Below)) (Ia a0.Kids a1.Kids)) fun x1=>bnd (((((eqS a0.Label a1.Label)&&(a0.Here==a1.Here))&&(a0.Below==a1.Below))&&x1)) fun x2=>some x2
theorem Uf {a0 a1 r}(hm:Pn a0 a1=some r):Sf prog 230 [ag (Au a0),ag (Au a1)] (.d (.t r)):=by
 refine sq ?_;intros;refine oB hm fun _ q1 hm=>gcH q1 ME<|bE hm ?_;intro _ hm;exact Akr hm▸gE
def CU (a0:List g_api_Node)(a1:List g_api_Node)(i1:Int)(s1:Unit):Option ((Unit)⊕Bool):=Ab (idx a0 (i1:Int)) fun x3=>Ab (idx a1 (i1:Int)) fun x4=>Ab (Pn x3 x4) fun x5=>if(!x5)=true then some (.inr false)else some (.inl ())
def BI (a0:List g_api_Node)(a1:List g_api_Node):Option Bool:=if((a0.length:Int) !=(a1.length:Int))=true then some false else Ab (Es (CU a0 a1) a0.length 0 ()) fun x1=>match x1 with| .inr r=>some r| .inl y1=>some true
theorem C6 {a0 a1 r}(hm:BI a0 a1=some r):Sf prog 229 [sl Au a0,sl Au a1,.fn (.func 230) [] []] (.d (.t r)):=by
 refine sq ?_;intros;refine gi hm ?_ ?_<;>intro _ hm
 ·exact Akr hm▸gE
 refine oB hm fun _ q1 hm=>Jd 0 (E:=Au) (xs:=a0) 15 fun hle1=>gF (EN _ _ _) q1 (fun p0 _=>⟨[(1,sl Au a1),(2,.fn (.func 230) [] []),(15,sl Au a0),(16,.d (.i (a0.length:Int))),(17,.d (.i p0))],[],[],0⟩) fun i1 s1 Jl bl1=>cN bl1 (a0.length:Int) (fun _ q4 bl1=> ?_) fun e=> ?_
 ·refine oB q4 fun _ q6 q4=>gx Au 4 q6<|oB q4 fun _ q7 q4=>gx Au 4 q7<|gA q4 Uf fun _ q8 q4=>gi q4 ?_ ?_<;>intro _ q4
  ·obtain rfl:=nT bl1 q4;exact Akr hm▸gE
  exact gT bl1 hle1 q4
 subst e;exact Akr hm▸gE
def K8 (a0:AG):Option Int:=Ab (Fk a0.Rules) fun x1=>Ab (Ab (gu (x1.2==0) (BI x1.1.Nodes a0.Nodes)) fun x3=>if((x1.2==0)&&(!x3))=true then some 1 else some x1.2) fun x2=>some x2
theorem SU {a0 r}(hm:K8 a0=some r):Sf prog 135 [ag (Ff a0)] (.d (.i r)):=by
 refine sq fun D0 As η0 m0 hd=>gA hm Mw fun x1 q1 hm=> ?_;obtain⟨x2,q2,hm⟩:=Ac hm;refine oB q2 fun _ q3 q2=>gcH q3 C6<|gj (fun(_:Unit)=>⟨[(4,.d (.i x2)),(3,.pb 1 0),(1,.pb 0 0)],[(0,.box 1 [sl Ah x1.1.Rules,sl Au x1.1.Nodes] 38),(1,.box 0 [sl Ah a0.Rules,sl Au a0.Nodes] 38)],[],2⟩) (fun _=>True) (fun Jp bk1=> ?_) fun _ _=> ?_
 ·refine gi q2 ?_ ?_<;>intro _ q2
  ·obtain rfl:=Akr q2;exact gb bk1 hd () trivial
  obtain rfl:=Akr q2;exact gb bk1 hd () trivial
 exact Akr hm▸gE
def IC (a0:Int):Option Bool:=bnd (((decide (a0≥0))&&(decide (a0≤1099511627776)))) fun x1=>some x1
theorem N6 {a0 r}(hm:IC a0=some r):Sf prog 231 [.d (.i a0)] (.d (.t r)):=by
 refine sq ?_;intros;refine bE hm ?_;intro _ hm;exact Akr hm▸gE
def Ke (i1:Int)(x2:ByteArray)(s1:(List (ByteArray×Bool))):Option (((List (ByteArray×Bool)))⊕Bool):=Ab (D7 x2) fun x3=>if((x3 !=0)||(lkB s1 x2))=true then some (.inr false)else if(lkI s1 x2 0).isNone=true then some (.inl (s1++[(x2,true)]))else none
def KS (a0:Ba):Option Bool:=Ab (D1 Ke a0.Names 0 ([]:List (ByteArray×Bool))) fun x1=>match x1 with| .inr r=>some r| .inl y1=>Ab (IC a0.Account) fun x4=>Ab (gu x4 (IC a0.Life)) fun x5=>bnd ((((x4&&x5)&&(decide ((a0.Names.length:Int)≥1)))&&(decide ((a0.Names.length:Int)≤8)))) fun x6=>some x6
theorem VL {a0 r}(hm:KS a0=some r):Sf prog 136 [ag (FA a0)] (.d (.t r)):=by
 refine sq ?_;intros;refine gmkm<|oB hm fun _ q1 hm=>Jd 0 (E:=eS) (xs:=a0.Names) 9 fun hle1=>gF (ER _ _ _) q1 (fun p0 p=>⟨[(1,.pb 0 0),(3,.fn (.func 231) [] []),(4,.ow 1),(9,sl eS a0.Names),(10,.d (.i (a0.Names.length:Int))),(11,.d (.i p0)),(7,.ow 1)],[(0,.hp 1 (.mp p)),(1,.box 0 [.d (.i a0.Account),sl eS a0.Names,.d (.u a0.Key),.d (.i a0.Life)] 26)],[],2⟩) fun i1 s1 Jl bl1=>cR bl1 (fun x2 _ q5 q4 bl1=> ?_) fun e=> ?_
 ·refine gx eS 1 q5<|gA q4 OU fun _ q6 q4=>glk s1 x2<|gi q4 ?_ ?_<;>intro _ q4
  ·obtain rfl:=nT bl1 q4;exact Akr hm▸gE
  obtain⟨q7,q4⟩:=BY q4;exact gup q7<|gT bl1 hle1 q4
 subst e;let y1:=s1;refine gA hm N6 fun _ q8 hm=>oB hm fun _ q9 hm=>gcH q9 N6<|bE hm ?_;intro _ hm;exact Akr hm▸gE
def Bp (k0:AG)(b6:ByteArray)(s1:(Int×Int×Int)×Nat):Option ((Int×Int×Int)×Nat):=Ab (Ab (idx k0.Nodes s1.1.2.1) fun x4=>if(x4.Below !=(-1))=true then Ab (idx k0.Nodes s1.1.2.1) fun x5=>some x5.Below else some s1.1.1) fun x3=>Ab (IV k0.Nodes s1.1.2.1 b6) fun x6=>if(!x6.2)=true then some ((x3,s1.1.2.1,x3),1)else some ((x3,x6.1,s1.1.2.2),0)
def DL (a0:ByteArray)(k0:AG):Option (Int×AG):=Ab (Ju a0) fun x1=>Ab (DT (fun(s:(Int×Int×Int)×Nat) (b0:ByteArray)=>if s.2=0 then Ab (Bp k0 b0 s) fun y=>some (y.2==0,y)else none) x1 (((-1),0,0),0)) fun x2=>if(x2.2).2=0 then Ab (idx k0.Nodes x2.2.1.2.1) fun x7=>if(x7.Here !=(-1))=true then Ab (idx k0.Nodes x2.2.1.2.1) fun x8=>some (x8.Here,k0)else some (x2.2.1.1,k0)else some (x2.2.1.2.2,k0)
theorem PV {a0 k0 r}(hm:DL a0 k0=some r):Sp prog 232 [.d (.s a0),.pb 0 0] [.box 0 [sl Ah k0.Rules,sl Au k0.Nodes] 38] 1 (is (.d (.i r.1)) [.box 0 [.d (.sl _ Ah r.2.Rules),.d (.sl _ Au r.2.Nodes)] 38] 1):=
 spR call232 func232 rfl ntmps232 rfl fun D0 As η0 m0 hD hd=>by
  unfold DL at hm;refine gD hm OT fun x1 q1 hm=>oB hm fun x2 q2 hm=>Lb hD (n0:=1) 5 5 [⟨4,4,9,[.d (.s x1)],[.d (.s x2.1)]⟩] (gt:=10) (ps:=[11]) [(1,.pb 0 0),(3,.pb 1 0),(4,.pb 2 0),(5,.pb 3 0),(10,.fn (.func 177) [] [.pb 4 0])] (fun(y1:Int×Int×Int)=> [(0,.box 3 [.d (.i y1.1)] 3),(1,.box 2 [.d (.i y1.2.1)] 3),(2,.box 1 [.d (.i y1.2.2)] 3),(3,.box 0 [sl Ah k0.Rules,sl Au k0.Nodes] 38)]) (fun(y1:(Int×Int×Int)×Nat)=> [(0,.box 3 [.d (.i y1.1.1)] 3),(1,.box 2 [.d (.i y1.1.2.1)] 3),(2,.box 1 [.d (.i y1.1.2.2)] 3),(3,.box 0 [sl Ah k0.Rules,sl Au k0.Nodes] 38)]) (fun x=> [.d (.s x)]) (fun(s1:Int×Int×Int) (b6:ByteArray)=>⟨[(1,.pb 0 0),(3,.pb 1 0),(4,.pb 2 0),(5,.pb 3 0),(6,.d (.s b6)),(10,.fn (.func 177) [] [.pb 4 0])],[(0,.box 3 [.d (.i s1.1)] 3),(1,.box 2 [.d (.i s1.2.1)] 3),(2,.box 1 [.d (.i s1.2.2)] 3),(3,.box 0 [sl Ah k0.Rules,sl Au k0.Nodes] 38)],[],5⟩) (pJ fun x s=>Bp k0 x s) ((-1),0,0) hd (via fJ hyJ rfl fun g R h=>MT q2 g R h) rfl (fun _=>rfl) (fun _=>rfl) (fun _=>rfl) (fun _=>rfl) ?_ ?_ ?_ ?_
  ·intro s1 b6 s' hp l D0 As η0 m0 hd Ja ba;exact gb ba hd () trivial
  ·intro s1 b6 s' hp l D0 As η0 m0 hd Jb bb Jr br;obtain⟨z1,q3,hp⟩:=Akx.1 hp;subst hp;unfold Bp at q3;dsimp only at q3;obtain⟨x3,q4,q3⟩:=Ac q3;refine oB q4 fun _ q5 q4=>gx Au 4 q5<|gj (fun(_:Unit)=>⟨[(1,.pb 0 0),(3,.pb 1 0),(4,.pb 2 0),(5,.pb 3 0),(6,.d (.s b6)),(10,.fn (.func 177) [] [.pb 4 0])],[(0,.box 3 [.d (.i x3)] 3),(1,.box 2 [.d (.i s1.2.1)] 3),(2,.box 1 [.d (.i s1.2.2)] 3),(3,.box 0 [sl Ah k0.Rules,sl Au k0.Nodes] 38)],[],5⟩) (fun _=>True) (fun Jp bk1=> ?_) fun _ _=> ?_
   ·refine gi q4 ?_ ?_<;>intro _ q4
    ·refine oB q4 fun _ q6 q4=>gx Au 4 q6 ?_;obtain rfl:=Akr q4;exact gb bk1 hd () trivial
    obtain rfl:=Akr q4;exact gb bk1 hd () trivial
   refine gA q3 QA fun x6 q7 q3=>gi q3 ?_ ?_<;>intro _ q3
   ·obtain rfl:=Akr q3;exact Agc br hd ((x3,s1.2.1,x3),1) rfl
   obtain rfl:=Akr q3;exact gb bb hd (x3,x6.1,s1.2.2) rfl
  ·intro x hx;obtain⟨hj1,rfl⟩:=ZM hx;rw[AkA hj1]at hm;refine oB hm fun _ q8 hm=>gx Au 4 q8<|gi hm ?_ ?_<;>intro _ hm
   ·refine oB hm fun _ q9 hm=>gx Au 4 q9 ?_;exact Akr hm▸gE
   exact Akr hm▸gE
  intro y hy;obtain⟨hj1,rfl⟩:=ZL hy;rw[Aky hj1]at hm;exact Akr hm▸gE
def Kc (a0:AG):Option AG:=some a0
theorem RA {a0 r}(hm:Kc a0=some r):Sp prog 138 [ag (Ff a0)] [] 0 (is (.fn (.func 232) [] [.pb 0 0]) [.box 0 [sl Ah r.Rules,sl Au r.Nodes] 38] 1):=by
 refine sq ?_;intros;exact Akr hm▸gE
def Dq (a0:List g_api_Rule)(a1:Ba)(i1:Int)(s1:Bool×Int×(List Int)×(List g_api_Rule)×(List g_api_Node)):Option (Bool×Int×(List Int)×(List g_api_Rule)×(List g_api_Node)):=Ab (Ab (idx a1.Names (i1:Int)) fun x5=>Ab (DL x5 (⟨s1.2.2.2.1,s1.2.2.2.2⟩:AG)) fun x6=>Ab (app 8 s1.2.2.1 ([x6.1]:List Int)) fun x7=>Ab (gu (x6.1 !=(-1)) (idx a0 x6.1)) fun x8=>Ab (gu ((x6.1 !=(-1))&&x8.Allow) (idx a0 x6.1)) fun x9=>Ab (gu ((((x6.1 !=(-1))&&x8.Allow)&&(decide ((a1.Key.toNat:Int)≥(x9.KeyMin.toNat:Int))))&&(decide (a1.Life>0))) (idx a0 x6.1)) fun x10=>bnd ((((((x6.1 !=(-1))&&x8.Allow)&&(decide ((a1.Key.toNat:Int)≥(x9.KeyMin.toNat:Int))))&&(decide (a1.Life>0)))&&(decide (a1.Life≤x10.LifeMax)))) fun x11=>if(s1.1&&(!x11))=true then some (false,(i1:Int),x7,x6.2.Rules,x6.2.Nodes)else some (s1.1,s1.2.1,x7,x6.2.Rules,x6.2.Nodes)) fun x4=>some (x4.1,x4.2.1,x4.2.2.1,x4.2.2.2.1,x4.2.2.2.2)
def Dn (a0:List g_api_Rule)(a1:Ba)(k0:AG):Option (Ee×AG):=Ab (Ab (Cg (Dq a0 a1) a1.Names.length 0 (true,0,([]:List Int),k0.Rules,k0.Nodes)) fun x2=>some (x2.1,x2.2.1,x2.2.2.1,x2.2.2.2.1,x2.2.2.2.2)) fun x1=>some ((⟨x1.1,x1.2.1,x1.2.2.1⟩:Ee),(⟨x1.2.2.2.1,x1.2.2.2.2⟩:AG))
theorem MS {a0 a1 k0 r}(hm:Dn a0 a1 k0=some r):Sp prog 137 [sl Ah a0,ag (FA a1),.fn (.func 232) [] [.pb 0 0]] [.box 0 [sl Ah k0.Rules,sl Au k0.Nodes] 38] 1 (is (ag (PG r.1)) [.box 0 [.d (.sl _ Ah r.2.Rules),.d (.sl _ Au r.2.Nodes)] 38] 1):=by
 refine sq fun D0 As η0 m0 hd=> ?_;unfold Dn at hm;obtain⟨x1,q1,hm⟩:=Ac hm;refine oB q1 fun _ q2 q1=>WK 0 eI 7 2 1<|Jd 0 (E:=eS) (xs:=a1.Names) 14 fun hle1=>gF (EM _ _ _) q2 (fun p0 (p_0,p_1,p_2,p_3,p_4)=>⟨[(0,sl Ah a0),(2,.fn (.func 232) [] [.pb 0 0]),(4,.pb 1 0),(6,.pb 2 0),(7,.pb 3 0),(14,sl eS a1.Names),(15,.d (.i (a1.Names.length:Int))),(16,.d (.i p0))],[(0,.row 4 1 _ eI p_2),(1,.box 3 [.d (.t p_0),.d (.i p_1),.ow 4] 139),(2,.box 2 [.d (.t false),.d (.i 0),sl eI []] 139),(3,.box 1 [.d (.i a1.Account),sl eS a1.Names,.d (.u a1.Key),.d (.i a1.Life)] 26),(4,.box 0 [sl Ah p_3,sl Au p_4] 38)],[],5⟩) fun i1 s1 Jl bl1=>cM bl1 (a1.Names.length:Int) (fun _ q5 bl1=> ?_) fun e=> ?_
 ·refine oB q5 fun x4 q7 q5=>gjU 1 (fun(_:Unit)=>let (y_0,y_1,y_2,y_3,y_4):=x4; ⟨[(0,sl Ah a0),(2,.fn (.func 232) [] [.pb 0 0]),(4,.pb 1 0),(6,.pb 2 0),(7,.pb 3 0),(14,sl eS a1.Names),(15,.d (.i (a1.Names.length:Int))),(16,.d (.i (i1:Int)))],[(0,.row 4 1 _ eI y_2),(1,.box 3 [.d (.t y_0),.d (.i y_1),.ow 4] 139),(2,.box 2 [.d (.t false),.d (.i 0),sl eI []] 139),(3,.box 1 [.d (.i a1.Account),sl eS a1.Names,.d (.u a1.Key),.d (.i a1.Life)] 26),(4,.box 0 [sl Ah y_3,sl Au y_4] 38)],[],5⟩) (fun _=>True) (fun Jp bk3=> ?_) fun _ _=> ?_
  ·refine oB q7 fun _ q8 q7=>gx eS 1 q8<|gD q7 PV fun x6 q9 q7=>gq eI 1 [x6.1]<|oB q7 fun _ q10 q7=>gp eI 1 q10<|oB q7 fun _ q11 q7=>gxG Ah 7 q11<|oB q7 fun _ q12 q7=>gxG Ah 7 q12<|oB q7 fun _ q13 q7=>gxG Ah 7 q13<|bE q7 ?_;intro _ q7;refine gi q7 ?_ ?_<;>intro _ q7
   ·obtain rfl:=Akr q7;exact gb bk3 hd () trivial
   obtain rfl:=Akr q7;exact gb bk3 hd () trivial
  exact gM bl1 hle1 q5
 subst e;obtain rfl:=Akr q1;exact Akr hm▸gE
def F6 (a0:AG)(a1:Ba):Option (Ee×Int):=Ab (K8 a0) fun x1=>if(x1 !=0)=true then some ((⟨false,0,[]⟩:Ee),x1)else Ab (KS a1) fun x2=>if(!x2)=true then some ((⟨false,0,[]⟩:Ee),1)else Ab (Kc a0) fun x3=>Ab (Dn a0.Rules a1 x3) fun x4=>some (x4.1,0)
theorem RB {a0 a1 r}(hm:F6 a0 a1=some r):Sf prog 57 [ag (Ff a0),ag (FA a1)] (.tup [ag (PG r.1),.d (.i r.2)]):=by
 refine sq ?_;intros;refine gA hm SU fun _ q1 hm=>gi hm ?_ ?_<;>intro _ hm
 ·exact Akr hm▸gE
 refine gA hm VL fun _ q2 hm=>gi hm ?_ ?_<;>intro _ hm
 ·exact Akr hm▸gE
 refine gD hm RA fun _ q3 hm=>gD hm MS fun _ q4 hm=> ?_;exact Akr hm▸gE
def Bm (a0:List g_api_Promise)(i1:Int)(s1:(List Ar)×UInt64×UInt64):Option (((List Ar)×UInt64×UInt64)⊕(Int×(List g_api_Promise)×(List Ar)×(UInt64×UInt64))):=Ab (idx a0 (i1:Int)) fun x3=>Ab (DG x3 s1.1 s1.2) fun x4=>if x4.1=true then some (.inr ((i1:Int),a0,x4.2.1,x4.2.2))else some (.inl (x4.2.1,x4.2.2.1,x4.2.2.2))
def AW (a0:List g_api_Promise)(k0:List Ar)(k1:UInt64×UInt64):Option (Int×(List g_api_Promise)×(List Ar)×(UInt64×UInt64)):=Ab (Es (Bm a0) a0.length 0 (k0,k1.1,k1.2)) fun x1=>match x1 with| .inr r=>some r| .inl y1=>some ((-1),a0,y1.1,y1.2)
theorem Eh {a0 k0 k1 r}(hm:AW a0 k0 k1=some r):Sp prog 134 [.ow 0,.fn (.func 51) [] [.pb 1 0,.pb 2 0]] [.row 0 6 _ Ae a0,.box 1 [sl AN k0] 34,.box 2 [.d (.u k1.1),.d (.u k1.2)] 81] 3 (is (.d (.i r.1)) [.row 0 6 _ Ae r.2.1,.box 1 [.d (.sl _ AN r.2.2.1)] 34,.box 2 [.d (.u r.2.2.2.1),.d (.u r.2.2.2.2)] 81] 3):=by
 refine sq ?_;intros;refine oB hm fun _ q1 hm=>Jd 0 (E:=Ae) (xs:=a0) 6 fun hle1=>gF (EN _ _ _) q1 (fun p0 (p_0,p_1,p_2)=>⟨[(0,.ow 0),(1,.fn (.func 51) [] [.pb 1 0,.pb 2 0]),(7,.d (.i (a0.length:Int))),(8,.d (.i p0))],[(0,.row 0 6 _ Ae a0),(1,.box 1 [sl AN p_0] 34),(2,.box 2 [.d (.u p_1),.d (.u p_2)] 81)],[],3⟩) fun i1 s1 Jl bl1=>cN bl1 (a0.length:Int) (fun _ q4 bl1=> ?_) fun e=> ?_
 ·refine oB q4 fun _ q6 q4=>G2 (E:=Ae) (fun _=>q6)<|Yg (k:=6) (fo:=0) (nn:=6) (ag:=true) (E:=Ae) (fun _=>rfl) (fun _=>q6)<|gD q4 N3 fun _ q7 q4=>gi q4 ?_ ?_<;>intro _ q4
  ·obtain rfl:=nT bl1 q4;exact Akr hm▸gE
  exact gT bl1 hle1 q4
 subst e;let y1:=s1;exact Akr hm▸gE
def Bn (s1:Int×Int×(List Ar)×UInt64×UInt64×(List g_api_Promise)):Option ((Int×Int×(List Ar)×UInt64×UInt64×(List g_api_Promise))⊕(Int×(List Ar)×UInt64×UInt64×(List g_api_Promise))):=if(decide (s1.2.1<(s1.2.2.2.2.2.length:Int)))=true then Ab (Ab (idx s1.2.2.2.2.2 s1.2.1) fun x6=>Ab (DG x6 s1.2.2.1 (s1.2.2.2.1,s1.2.2.2.2.1)) fun x7=>if(!x7.1)=true then Ab (idx s1.2.2.2.2.2 s1.1) fun x8=>bnd (s1.2.2.2.2.2.set s1.1.toNat x6) fun x9=>some ((w64 (s1.1+1)),x7.2.1,x7.2.2.1,x7.2.2.2,x9)else some (s1.1,x7.2.1,x7.2.2.1,x7.2.2.2,s1.2.2.2.2.2)) fun x5=>some (.inl (x5.1,(w64 (s1.2.1+1)),x5.2.1,x5.2.2.1,x5.2.2.2.1,x5.2.2.2.2))else some (.inr (s1.1,s1.2.2.1,s1.2.2.2.1,s1.2.2.2.2.1,s1.2.2.2.2.2))
def AX (a0:List g_api_Promise)(k0:List Ar)(k1:UInt64×UInt64):Option ((List g_api_Promise)×(List Ar)×(UInt64×UInt64)):=Ab (AW a0 k0 k1) fun x1=>if(x1.1==(-1))=true then some (x1.2.1,x1.2.2.1,x1.2.2.2)else Ab (Ab (iter Bn EV (x1.1,(w64 (x1.1+1)),x1.2.2.1,x1.2.2.2.1,x1.2.2.2.2,x1.2.1)) fun x3=>some (x3.1,x3.2.1,x3.2.2.1,x3.2.2.2.1,x3.2.2.2.2)) fun x2=>Ab (clrT (⟨0,0,(0,0),(⟨0,0⟩:g_api_Sig)⟩:g_api_Promise) x2.2.2.2.2 x2.1) fun x10=>if(0:Int)≤x2.1∧x2.1≤(x10.length:Int)then some ((x10.take x2.1.toNat),x2.2.1,(x2.2.2.1,x2.2.2.2.1))else none
theorem Ei {a0 k0 k1 r}(hm:AX a0 k0 k1=some r):Sp prog 55 [.ow 0,.fn (.func 51) [] [.pb 1 0,.pb 2 0]] [.row 0 6 _ Ae a0,.box 1 [sl AN k0] 34,.box 2 [.d (.u k1.1),.d (.u k1.2)] 81] 3 (is (.ow 3) [.box 1 [.d (.sl _ AN r.2.1)] 34,.box 2 [.d (.u r.2.2.1),.d (.u r.2.2.2)] 81,.row 3 6 _ Ae r.1] 4):=by
 refine sq fun D0 As η0 m0 hd=>gD hm Eh fun _ q1 hm=>gi hm ?_ ?_<;>intro _ hm
 ·exact Akr hm▸gE
 obtain⟨x2,q2,hm⟩:=Ac hm;refine oB q2 fun x3 q3 q2=>gI q3 (fun(p_0,p_1,p_2,p_3,p_4,p_5)=>⟨[(0,.ow 0),(1,.fn (.func 51) [] [.pb 1 0,.pb 2 0]),(5,.d (.i p_0)),(6,.d (.i p_1))],[(0,.row 0 6 _ Ae p_5),(1,.box 1 [sl AN p_2] 34),(2,.box 2 [.d (.u p_3),.d (.u p_4)] 81)],[],3⟩) fun s1 _ Jl q6 bl1=>gi q6 ?_ ?_<;>intro _ q6
 ·refine oB q6 fun x5 q8 q6=>gjU 1 (fun(_:Unit)=>let (y_0,y_1,y_2,y_3,y_4):=x5; ⟨[(0,.ow 0),(1,.fn (.func 51) [] [.pb 1 0,.pb 2 0]),(5,.d (.i y_0)),(6,.d (.i s1.2.1))],[(0,.row 0 6 _ Ae y_4),(1,.box 1 [sl AN y_1] 34),(2,.box 2 [.d (.u y_2),.d (.u y_3)] 81)],[],3⟩) (fun _=>True) (fun Jp bk3=> ?_) fun _ _=> ?_
  ·refine oB q8 fun x6 q9 q8=>G2 (E:=Ae) (fun _=>q9)<|Yg (k:=6) (fo:=0) (nn:=6) (ag:=true) (E:=Ae) (fun _=>rfl) (fun _=>q9)<|gD q8 N3 fun _ q10 q8=>gi q8 ?_ ?_<;>intro _ q8
   ·refine oB q8 fun _ q11 q8=>G2 (E:=Ae) (fun _=>q11)<|bE q8 ?_;intro _ q8;refine Abc (k:=6) (E:=Ae) x6 (fun _=>rfl) q11 ?_;obtain rfl:=Akr q8;exact gb bk3 hd () trivial
   obtain rfl:=Akr q8;exact gb bk3 hd () trivial
  exact gN bl1 q6
 obtain rfl:=nR bl1 q6;let x3:=(s1.1,s1.2.2.1,s1.2.2.2.1,s1.2.2.2.2.1,s1.2.2.2.2.2);obtain rfl:=Akr q2;refine oB hm fun _ q13 hm=>gclr Ae (⟨0,0,(0,0),(⟨0,0⟩:g_api_Sig)⟩:g_api_Promise) [.i 0,.i 0,.u 0,.u 0,.u 0,.u 0] q13 ?_;obtain⟨⟨q14,q15⟩,hm⟩:=BY hm;refine gcO Ae 6 q14 q15 ?_;exact Akr hm▸gE
def CV (a0:List UInt8)(a1:List Ar)(a2:AG):Option Int:=Ab (Fy a0) fun x1=>if(x1.2 !=0)=true then some x1.2 else Ab (Mk x1.1) fun x2=>Ab (A5 x1.1.Proms) fun x3=>Ab (AX x3 a1 x2.1) fun x4=>if(decide ((x4.1.length:Int)<2))=true then some 251 else if x1.1.Ca=true then some 161 else Ab (F6 a2 (⟨0,x1.1.Names,x1.1.Key,(w64 (x1.1.Until-x1.1.From))⟩:Ba)) fun x5=>Ab (if((x5.2==0)&&(!x5.1.Allow))=true then some 161 else some x5.2) fun x6=>some x6
theorem KG {a0 a1 a2 r}(hm:CV a0 a1 a2=some r):Sf prog 11 [sl eB a0,sl AN a1,ag (Ff a2)] (.d (.i r)):=by
 refine sq fun D0 As η0 m0 hd=>gA hm N8 fun x1 q1 hm=>gi hm ?_ ?_<;>intro _ hm
 ·exact Akr hm▸gE
 refine gA hm Xz fun _ q2 hm=>gD hm Gd fun _ q3 hm=>gD hm Ei fun x4 q4 hm=>gi hm ?_ ?_<;>intro _ hm
 ·exact Akr hm▸gE
 refine gi hm ?_ ?_<;>intro _ hm
 ·exact Akr hm▸gE
 refine gA hm RB fun x5 q5 hm=>oB hm fun x6 q6 hm=>gj (fun(_:Unit)=>⟨[(8,.d (.i x6)),(12,.pb 4 0),(4,.pb 3 0),(9,.pb 2 0),(7,.pb 1 0),(5,.pb 0 0)],[(0,.box 4 [.d (.t x5.1.Allow),.d (.i x5.1.At),sl eI x5.1.By] 139),(1,.box 3 [sl AN x4.2.1] 34),(2,.box 2 [.d (.u x4.2.2.1),.d (.u x4.2.2.2)] 81),(3,.box 1 [.d (.i x1.1.Serial),.d (.s x1.1.Issuer),.d (.s x1.1.Subject),.d (.u x1.1.Key),sl eS x1.1.Names,.d (.i x1.1.From),.d (.i x1.1.Until),.d (.t x1.1.Ca),.d (.i x1.1.Depth),sl eS x1.1.Permit,sl Ae x1.1.Proms,.d (.u x1.1.Sig.E),.d (.u x1.1.Sig.S)] 43),(4,.box 0 [sl Ah a2.Rules,sl Au a2.Nodes] 38)],[],5⟩) (fun _=>True) (fun Jp bk1=> ?_) fun _ _=> ?_
 ·refine gi q6 ?_ ?_<;>intro _ q6
  ·obtain rfl:=Akr q6;exact gb bk1 hd () trivial
  obtain rfl:=Akr q6;exact gb bk1 hd () trivial
 exact Akr hm▸gE
def Gj (a0:Int):Option Bool:=bnd (((decide ((0:Int)≤a0))&&(decide (a0≤1099511627776)))) fun x1=>some x1
theorem T8 {a0 r}(hm:Gj a0=some r):Sf prog 44 [.d (.i a0)] (.d (.t r)):=by
 refine sq ?_;intros;refine bE hm ?_;intro _ hm;exact Akr hm▸gE
def Bf (a0:List g_api_Done)(a1:g_api_Done)(i1:Int)(s1:Unit):Option ((Unit)⊕Int):=Ab (idx a0 (i1:Int)) fun x3=>if(CR a1 x3)=true then some (.inr (i1:Int))else some (.inl ())
def CZ (a0:List g_api_Done)(a1:g_api_Done):Option Int:=Ab (Es (Bf a0 a1) a0.length 0 ()) fun x1=>match x1 with| .inr r=>some r| .inl y1=>some (-1)
theorem HZ {a0 a1 r}(hm:CZ a0 a1=some r):Sf prog 218 [sl Ai a0,ag (Ai a1)] (.d (.i r)):=by
 refine sq ?_;intros;refine oB hm fun _ q1 hm=>Jd 0 (E:=Ai) (xs:=a0) 6 fun hle1=>gF (EN _ _ _) q1 (fun p0 _=>⟨[(0,sl Ai a0),(3,.pb 0 0),(7,.d (.i (a0.length:Int))),(8,.d (.i p0))],[(0,.box 0 [.d (.i a1.Session),.d (.i a1.Serial),.d (.u a1.Body.1),.d (.u a1.Body.2)] 124)],[],1⟩) fun i1 s1 Jl bl1=>cN bl1 (a0.length:Int) (fun _ q4 bl1=> ?_) fun e=> ?_
 ·refine oB q4 fun _ q6 q4=>gx Ai 4 q6<|gi q4 ?_ ?_<;>intro _ q4
  ·obtain rfl:=nT bl1 q4;exact Akr hm▸gE
  exact gT bl1 hle1 q4
 subst e;exact Akr hm▸gE
def Bh (a0:List g_api_Done)(a1:g_api_Done):Option Bool:=Ab (CZ a0 a1) fun x1=>some (decide (x1≥0))
theorem GX {a0 a1 r}(hm:Bh a0 a1=some r):Sf prog 122 [sl Ai a0,ag (Ai a1)] (.d (.t r)):=by
 refine sq ?_;intros;refine gA hm HZ fun _ q1 hm=> ?_;exact Akr hm▸gE
def Nn (b6:(List UInt8)×Int)(s1:Int):Option (Int):=some b6.2
def Hx (a0:g_api_Store):Option (g_api_Store×Int):=Ab (Ly a0) fun x1=>Ab (KO x1) fun x2=>Ab (Ek (fun(s:Int) (b0:(List UInt8)×Int)=>Ab (Nn b0 s) fun y=>some (true,y)) x2 0) fun x3=>bnd ((Q5 x3.2 (a0.Safe.length:Int))) fun x4=>Ab (cut x1 0 x4) fun x5=>Ab (cut x1 x4 x3.2) fun x6=>bnd ((w64 ((x1.length:Int)-x3.2))) fun x7=>some ((⟨x5,x6⟩:g_api_Store),x7)
theorem VF {a0 r}(hm:Hx a0=some r):Sf prog 61 [ag (Du a0)] (.tup [ag (Du r.1),.d (.i r.2)]):=
 spR call61 func61 rfl ntmps61 rfl fun D0 As η0 m0 hD hd=>by
  unfold Hx at hm;refine gD hm Rv fun x1 q1 hm=>gD hm Qv fun x2 q2 hm=>oB hm fun x3 q3 hm=>Lb hD (n0:=0) 4 4 [⟨3,3,22,[sl eB x2],[sl eB x3.1]⟩] (gt:=12) (ps:=[13,14]) [(1,.pb 0 0),(2,.pb 1 0),(4,sl eB x1),(5,.pb 2 0),(12,.fn (.func 233) [] [.pb 3 0])] (fun(y1:Int)=> [(0,.box 2 [.d (.i y1)] 3),(1,.box 1 [sl eB [],sl eB []] 57),(2,.box 0 [sl eB a0.Safe,sl eB a0.Open] 57)]) (fun(_:Unit)=> []) (fun x=> [sl eB x.1,.d (.i x.2)]) (fun(s1:Int) (b6:(List UInt8)×Int)=>⟨[(1,.pb 0 0),(2,.pb 1 0),(4,sl eB x1),(5,.pb 2 0),(7,.d (.i b6.2)),(12,.fn (.func 233) [] [.pb 3 0])],[(0,.box 2 [.d (.i s1)] 3),(1,.box 1 [sl eB [],sl eB []] 57),(2,.box 0 [sl eB a0.Safe,sl eB a0.Open] 57)],[],4⟩) (pN fun x s=>Nn x s) 0 hd (via Sum.inl hyN rfl fun g R h=>N0 q3 g R h) rfl (fun _=>rfl) (fun _=>rfl) (fun _=>rfl) (fun _=>rfl) ?_ ?_ ?_ ?_
  ·intro s1 b6 s' hp l D0 As η0 m0 hd Ja ba;exact gb ba hd () trivial
  ·intro s1 b6 s' hp l D0 As η0 m0 hd Jb bb Jr br;obtain⟨z1,q4,hp⟩:=Akx.1 hp;subst hp;unfold Nn at q4;obtain rfl:=Akr q4;exact gb bb hd b6.2 rfl
  ·intro x hx;have hx:=Sum.inl.inj hx;subst hx;refine bE hm ?_;intro _ hm;refine oB hm fun _ q6 hm=>gk eB 1 q6<|oB hm fun _ q7 hm=>gk eB 1 q7<|bE hm ?_;intro _ hm;exact Akr hm▸gE
  intro y hy;cases hy
def L5 (a0:List UInt8):Option (List UInt8):=Ab (Im a0) fun x1=>Ab (Cm x1) fun x2=>Ab (Bb ([([(toB (BE (a0.length:Int) 24)),(toB (BE (a0.length:Int) 16)),(toB (BE (a0.length:Int) 8)),(toB (a0.length:Int))]:List UInt8),a0,x2]:List (List UInt8))) fun x3=>some x3
theorem Xm {a0 r}(hm:L5 a0=some r):Sp prog 222 [sl eB a0] [] 0 (is (.ow 0) [.row 0 1 _ eB r] 1):=by
 refine sq ?_;intros;refine gq eB 1 [(toB (BE (a0.length:Int) 24)),(toB (BE (a0.length:Int) 16)),(toB (BE (a0.length:Int) 8)),(toB (a0.length:Int))]<|gA hm NM fun _ q1 hm=>gD hm EP fun x2 q2 hm=>WL (k:=1) (eL eB) ([([(toB (BE (a0.length:Int) 24)),(toB (BE (a0.length:Int) 16)),(toB (BE (a0.length:Int) 8)),(toB (a0.length:Int))]:List UInt8),a0,x2]:List (List UInt8)) (fun _=>rfl)<|gD hm Dh fun _ q3 hm=> ?_;exact Akr hm▸gE
def FZ (a0:g_api_Store)(a1:List UInt8):Option (g_api_Store×Int):=Ab (Hx a0) fun x1=>Ab (DQ a0) fun x2=>if(x2 !=0)=true then some ((⟨[],[]⟩:g_api_Store),2)else bnd ((decide ((a1.length:Int)>4096))) fun x3=>if x3=true then some ((⟨[],[]⟩:g_api_Store),1)else if(decide (x1.2>0))=true then some ((⟨[],[]⟩:g_api_Store),200)else Ab (Ec a0.Safe) fun x4=>Ab (L5 a1) fun x5=>Ab (Bb ([a0.Open,x5]:List (List UInt8))) fun x6=>Ab (DQ (⟨x4,x6⟩:g_api_Store)) fun x7=>if(x7 !=0)=true then some ((⟨[],[]⟩:g_api_Store),x7)else some ((⟨x4,x6⟩:g_api_Store),0)
theorem Qw {a0 a1 r}(hm:FZ a0 a1=some r):Sf prog 125 [ag (Du a0),sl eB a1] (.tup [ag (Du r.1),.d (.i r.2)]):=by
 refine sq ?_;intros;refine gA hm VF fun _ q1 hm=>gA hm JR fun _ q2 hm=>gi hm ?_ ?_<;>intro _ hm
 ·exact Akr hm▸gE
 refine bE hm ?_;intro _ hm;refine gi hm ?_ ?_<;>intro _ hm
 ·exact Akr hm▸gE
 refine gi hm ?_ ?_<;>intro _ hm
 ·exact Akr hm▸gE
 refine gD hm LQ fun _ q4 hm=>gD hm Xm fun x5 q5 hm=>WL (k:=1) (eL eB) ([a0.Open,x5]:List (List UInt8)) (fun _=>rfl)<|gD hm Dh fun _ q6 hm=>gD hm JR fun _ q7 hm=>gi hm ?_ ?_<;>intro _ hm
 ·exact Akr hm▸gE
 exact Akr hm▸gE
def GG (a0:g_api_Done):Option (List UInt8):=Ab (Cm ((toU a0.Session),(toU a0.Serial))) fun x1=>Ab (Cm a0.Body) fun x2=>Ab (app 1 x1 x2) fun x3=>some x3
theorem N2 {a0 r}(hm:GG a0=some r):Sp prog 126 [ag (Ai a0)] [] 0 (is (.ow 0) [.row 0 1 _ eB r] 1):=by
 refine sq ?_;intros;refine gD hm EP fun _ q1 hm=>gD hm EP fun _ q2 hm=>oB hm fun _ q3 hm=>gp eB 1 q3 ?_;exact Akr hm▸gE
def JM (a0:g_api_Store):Option (g_api_Store×Int):=Ab (DQ a0) fun x1=>if(x1 !=0)=true then some ((⟨[],[]⟩:g_api_Store),x1)else Ab (Ly a0) fun x2=>some ((⟨x2,[]⟩:g_api_Store),0)
theorem PT {a0 r}(hm:JM a0=some r):Sf prog 127 [ag (Du a0)] (.tup [ag (Du r.1),.d (.i r.2)]):=by
 refine sq ?_;intros;refine gA hm JR fun _ q1 hm=>gi hm ?_ ?_<;>intro _ hm
 ·exact Akr hm▸gE
 refine gD hm Rv fun _ q2 hm=> ?_;exact Akr hm▸gE
def Ci (a0:List g_api_Done):Option (List g_api_Done):=some a0
theorem EB {a0 r}(hm:Ci a0=some r):Sf prog 128 [sl Ai a0] (.d (.kp _ Ai r)):=by
 refine sq ?_;intros;obtain rfl:=Akr hm;exact gclip (k:=4) (E:=Ai) (xs:=a0) (fun _=>rfl) gE
def B0 (a0:Af)(a1:g_api_Done):Option (Except (Int×Int) Af):=
 Ab (Bh a0.Done a1) fun x1=>
 if x1=true then
  some (.ok a0)
 else
 Ab (Fi a1) fun x2=>
 Ab (Aw a0.Done x2) fun x3=>
 if x3=true then
  Ab (Bq 250) fun y1=>match y1 with
  | .error z1=>some (.error z1)
  | .ok x4=>
  Ab (GG a1) fun x5=>
  Ab (FZ a0.Store x5) fun x6=>
  Ab (Bq x6.2) fun y2=>match y2 with
  | .error z2=>some (.error z2)
  | .ok x7=>
  Ab (JM x6.1) fun x8=>
  Ab (Bq x8.2) fun y3=>match y3 with
  | .error z3=>some (.error z3)
  | .ok x9=>
  Ab (Ci a0.Done) fun x10=>
  Ab (app 32 x10 ([a1]:List g_api_Done)) fun x11=>
  some (.ok (⟨a0.Share,a0.Bad,a0.Up,x11,x8.1⟩:Af))
 else
 Ab (GG a1) fun x12=>
 Ab (FZ a0.Store x12) fun x13=>
 Ab (Bq x13.2) fun y4=>match y4 with
 | .error z4=>some (.error z4)
 | .ok x14=>
 Ab (JM x13.1) fun x15=>
 Ab (Bq x15.2) fun y5=>match y5 with
 | .error z5=>some (.error z5)
 | .ok x16=>
 Ab (Ci a0.Done) fun x17=>
 Ab (app 32 x17 ([a1]:List g_api_Done)) fun x18=>
 some (.ok (⟨a0.Share,a0.Bad,a0.Up,x18,x15.1⟩:Af))
theorem Lm {a0 a1 r}(hm:B0 a0 a1=some r):Sb prog 47 [.pb 0 0,ag (Ai a1)] [.box 0 [.d (.i a0.Share.Id),.d (.u a0.Share.X),.d (.t a0.Bad),.d (.t a0.Up),sl Ai a0.Done,sl eB a0.Store.Safe,sl eB a0.Store.Open] 59] 1 (thV 214 r) (Pos (exo r) (fun r=> .tup []) (fun r=> [.box 0 [.d (.i r.Share.Id),.d (.u r.Share.X),.d (.t r.Bad),.d (.t r.Up),.d (.sl _ Ai r.Done),.d (.sl _ eB r.Store.Safe),.d (.sl _ eB r.Store.Open)] 59]) 1) (exo r=none):=
 sb call47 func47 rfl ntmps47 rfl fun D0 As η0 m0 hd=>by
  unfold B0 at hm;refine gA hm GX fun x1 q1 hm=>gi hm ?_ ?_<;>intro hc1 hm
  ·obtain rfl:=Akr hm;exact Qg hd
  refine gD hm Mu fun x2 q2 hm=>oB hm fun x3 q3 hm=>gco (Sp.lend (os:=[.box 0 [.d (.i x2.Session),.d (.i x2.Serial),.d (.u x2.Body.1),.d (.u x2.Body.2)] 124]) (n1:=1) (Cp q3) (.cons (.same (by kernel_rfl)) (.fn (.cons (.pf (.head _) (.d (.d (.d (.d .nil))))) .nil) .nil)) (by kernel_rfl))<|gi hm ?_ ?_<;>intro hc2 hm
  ·obtain⟨y1,q4,hm⟩:=Ac hm;rcases y1 with z1|x4
   ·dsimp only at hm;obtain rfl:=Akr hm;exact HX (AD q4)
   dsimp only at hm;refine gc (fun _=>(AD q4).spE)<|gD hm N2 fun x5 q5 hm=>gD hm Qw fun x6 q6 hm=> ?_;obtain⟨y2,q7,hm⟩:=Ac hm;rcases y2 with z2|x7
   ·dsimp only at hm;obtain rfl:=Akr hm;exact HX (AD q7)
   dsimp only at hm;refine gc (fun _=>(AD q7).spE)<|gA hm PT fun x8 q8 hm=> ?_;obtain⟨y3,q9,hm⟩:=Ac hm;rcases y3 with z3|x9
   ·dsimp only at hm;obtain rfl:=Akr hm;exact HX (AD q9)
   dsimp only at hm;refine gc (fun _=>(AD q9).spE)<|gA hm EB fun x10 q10 hm=>gq Ai 4 [a1]<|oB hm fun x11 q11 hm=>gp Ai 4 q11 ?_;obtain rfl:=Akr hm;exact Qg hd
  refine gD hm N2 fun x12 q12 hm=>gD hm Qw fun x13 q13 hm=> ?_;obtain⟨y4,q14,hm⟩:=Ac hm;rcases y4 with z4|x14
  ·dsimp only at hm;obtain rfl:=Akr hm;exact HX (AD q14)
  dsimp only at hm;refine gc (fun _=>(AD q14).spE)<|gA hm PT fun x15 q15 hm=> ?_;obtain⟨y5,q16,hm⟩:=Ac hm;rcases y5 with z5|x16
  ·dsimp only at hm;obtain rfl:=Akr hm;exact HX (AD q16)
  dsimp only at hm;refine gc (fun _=>(AD q16).spE)<|gA hm EB fun x17 q17 hm=>gq Ai 4 [a1]<|oB hm fun x18 q18 hm=>gp Ai 4 q18 ?_;obtain rfl:=Akr hm;exact Qg hd
def IB (a0:g_api_Share)(a1:Int)(a2:List UInt8):Option UInt64:=Ab (Cm (a0.X,(toU a0.Id))) fun x1=>Ab (Cm ((toU a1),0)) fun x2=>Ab (cut x1 0 8) fun x3=>Ab (cut x1 8 (x1.length:Int)) fun x4=>Ab (cut x2 0 8) fun x5=>Ab (Cx (⟨#[99,111,109,109,105,116]⟩:ByteArray) ([x3,x4,x5,a2]:List (List UInt8))) fun x6=>Ab (Hb x6 1152921504606845788) fun x7=>some (1+x7)
theorem SP {a0 a1 a2 r}(hm:IB a0 a1 a2=some r):Sf prog 132 [ag (Ak a0),.d (.i a1),sl eB a2] (.d (.u r)):=by
 refine sq ?_;intros;refine gA hm QR fun _ q1 hm=>gA hm QR fun _ q2 hm=>oB hm fun x3 q3 hm=>gk eB 1 q3<|oB hm fun x4 q4 hm=>gk eB 1 q4<|oB hm fun x5 q5 hm=>gk eB 1 q5<|gq (eL eB) 1 [x3,x4,x5,a2]<|gA hm EY fun _ q6 hm=>gA hm NN fun _ q7 hm=> ?_;exact Akr hm▸gE
def EG (a0:g_api_Share)(a1:Int)(a2:List UInt8):Option (g_api_Share×Int):=if(((((decide (a0.Id<1))||(decide (a0.Id>7)))||(decide ((a0.X.toNat:Int)≥1152921504606845789)))||(decide (a1<0)))||(decide (a1>1099511627776)))=true then some ((⟨0,0⟩:g_api_Share),1)else Ab (IB a0 a1 a2) fun x1=>Ab (Ea x1) fun x2=>some ((⟨a0.Id,x2⟩:g_api_Share),0)
theorem Rz {a0 a1 a2 r}(hm:EG a0 a1 a2=some r):Sf prog 49 [ag (Ak a0),.d (.i a1),sl eB a2] (.tup [ag (Ak r.1),.d (.i r.2)]):=by
 refine sq ?_;intros;refine gi hm ?_ ?_<;>intro _ hm
 ·exact Akr hm▸gE
 refine gA hm SP fun _ q1 hm=>gA hm Hq fun _ q2 hm=> ?_;exact Akr hm▸gE
def BF (a0:Af)(k0:Int)(k1:List UInt8)(k2:List Ar)(k3:AG):Option (Except (Int×Int) (g_api_Share×Af)):=
 Ab ((
   Ab (Gj k0) fun x2=>
   if(!x2)=true then
    Ab (Bq 1) fun y2=>match y2 with
    | .error z1=>some (.inr (.error z1))
    | .ok x3=>
    some (.inl ())
   else
   some (.inl ())
  :Option ((Unit)⊕(Except (Int×Int) (g_api_Share×Af))))) fun x1=>match x1 with
 | .inr r=>some r
 | .inl y1=>
 Ab ((
   if(!a0.Bad)=true then
    Ab (CV k1 k2 k3) fun x5=>
    Ab (Bq x5) fun y4=>match y4 with
    | .error z2=>some (.inr (.error z2))
    | .ok x6=>
    Ab (Fy k1) fun x7=>
    Ab (Im k1) fun x8=>
    Ab (B0 a0 (⟨k0,x7.1.Serial,x8⟩:g_api_Done)) fun y5=>match y5 with
    | .error z3=>some (.inr (.error z3))
    | .ok x9=>
    some (.inl (x9.Share.Id,x9.Share.X,x9.Bad,x9.Up,x9.Done,x9.Store.Safe,x9.Store.Open))
   else
   some (.inl (a0.Share.Id,a0.Share.X,a0.Bad,a0.Up,a0.Done,a0.Store.Safe,a0.Store.Open))
  :Option ((Int×UInt64×Bool×Bool×(List g_api_Done)×(List UInt8)×(List UInt8))⊕(Except (Int×Int) (g_api_Share×Af))))) fun x4=>match x4 with
 | .inr r=>some r
 | .inl y3=>
 Ab (EG (⟨y3.1,y3.2.1⟩:g_api_Share) k0 k1) fun x10=>
 Ab (Bq x10.2) fun y6=>match y6 with
 | .error z4=>some (.error z4)
 | .ok x11=>
 some (.ok (x10.1,(⟨(⟨y3.1,y3.2.1⟩:g_api_Share),y3.2.2.1,y3.2.2.2.1,y3.2.2.2.2.1,(⟨y3.2.2.2.2.2.1,y3.2.2.2.2.2.2⟩:g_api_Store)⟩:Af)))
theorem I9 {a0 k0 k1 k2 k3 r}(hm:BF a0 k0 k1 k2 k3=some r):Sb prog 43 [.pb 0 0,.d (.pf [.i k0]),.d (.pf [.sl _ eB k1]),.d (.pf [.sl _ AN k2]),.d (.pf [.sl _ Ah k3.Rules,.sl _ Au k3.Nodes])] [.box 0 [.d (.i a0.Share.Id),.d (.u a0.Share.X),.d (.t a0.Bad),.d (.t a0.Up),sl Ai a0.Done,sl eB a0.Store.Safe,sl eB a0.Store.Open] 59] 1 (thV 214 r) (Pos (exo r) (fun r=>ag (Ak r.1)) (fun r=> [.box 0 [.d (.i r.2.Share.Id),.d (.u r.2.Share.X),.d (.t r.2.Bad),.d (.t r.2.Up),.d (.sl _ Ai r.2.Done),.d (.sl _ eB r.2.Store.Safe),.d (.sl _ eB r.2.Store.Open)] 59]) 1) (exo r=none):=
 sb call43 func43 rfl ntmps43 rfl fun D0 As η0 m0 hd=>by
  unfold BF at hm;refine oB hm fun x1 q1 hm=>gB q1 (fun _=>T8) fun x2 q2 q1=>gj (fun(y1:Unit)=>⟨[(0,.pb 0 0),(1,.d (.pf [.i k0])),(2,.d (.pf [.sl _ eB k1])),(3,.d (.pf [.sl _ AN k2])),(4,.d (.pf [.sl _ Ah k3.Rules,.sl _ Au k3.Nodes])),(6,.pb 1 0)],[(0,.box 1 [.d (.i 0),.d (.u 0)] 54),(1,.box 0 [.d (.i a0.Share.Id),.d (.u a0.Share.X),.d (.t a0.Bad),.d (.t a0.Up),sl Ai a0.Done,sl eB a0.Store.Safe,sl eB a0.Store.Open] 59)],[],2⟩) (fun y1=>x1= .inl y1) (fun Jp bk1=> ?_) fun y1 hy=> ?_
  ·refine gi q1 ?_ ?_<;>intro hc1 q1
   ·obtain⟨y2,q3,q1⟩:=Ac q1;rcases y2 with z1|x3
    ·dsimp only at q1;obtain rfl:=Akr q1;dsimp only at hm;obtain rfl:=Akr hm;exact HX (AD q3)
    dsimp only at q1;refine gc (fun _=>(AD q3).spE) ?_;obtain rfl:=Akr q1;exact gb bk1 hd _ rfl
   obtain rfl:=Akr q1;exact gb bk1 hd _ rfl
  subst hy;dsimp only at hm;refine oB hm fun x4 q4 hm=>gj (fun(y3:Int×UInt64×Bool×Bool×(List g_api_Done)×(List UInt8)×(List UInt8))=>let (y_0,y_1,y_2,y_3,y_4,y_5,y_6):=y3; ⟨[(0,.pb 0 0),(1,.d (.pf [.i k0])),(2,.d (.pf [.sl _ eB k1])),(6,.pb 1 0)],[(0,.box 1 [.d (.i 0),.d (.u 0)] 54),(1,.box 0 [.d (.i y_0),.d (.u y_1),.d (.t y_2),.d (.t y_3),sl Ai y_4,sl eB y_5,sl eB y_6] 59)],[],2⟩) (fun y3=>x4= .inl y3) (fun Jp bk2=> ?_) fun y3 hy=> ?_
  ·refine gi q4 ?_ ?_<;>intro hc2 q4
   ·refine gA q4 KG fun x5 q5 q4=> ?_;obtain⟨y4,q6,q4⟩:=Ac q4;rcases y4 with z2|x6
    ·dsimp only at q4;obtain rfl:=Akr q4;dsimp only at hm;obtain rfl:=Akr hm;exact HX (AD q6)
    dsimp only at q4;refine gc (fun _=>(AD q6).spE)<|gA q4 N8 fun x7 q7 q4=>gA q4 NM fun x8 q8 q4=> ?_;obtain⟨y5,q9,q4⟩:=Ac q4;rcases y5 with z3|x9
    ·dsimp only at q4;obtain rfl:=Akr q4;dsimp only at hm;obtain rfl:=Akr hm;exact AhE (Lm q9)
    dsimp only at q4;refine gco (Lm q9).spE ?_;obtain rfl:=Akr q4;exact gb bk2 hd _ rfl
   obtain rfl:=Akr q4;exact gb bk2 hd _ rfl
  subst hy;dsimp only at hm;refine gA hm Rz fun x10 q10 hm=> ?_;obtain⟨y6,q11,hm⟩:=Ac hm;rcases y6 with z4|x11
  ·dsimp only at hm;obtain rfl:=Akr hm;exact HX (AD q11)
  dsimp only at hm;refine gc (fun _=>(AD q11).spE) ?_;obtain rfl:=Akr hm;exact Qg hd
theorem AdN (a b c:Value)(w:World):CallsDIn (FW none) 0 prog 118 #[a,b,c] .returning w fun e u' w'=> ∃v,e= .returned v∧u'= .returning∧w'=w:=by
 refine CallsDIn.mono (Pa (N:=16) (args:=[a,b,c]) (u:= .returning) (u':= .returning) (v:= .nilIface) (R:=fun w'=>w'=w) func118 rfl ntmps118 rfl (AkG rfl) rfl (fun c₀ cs hu=> .inr ⟨by simp[recoverD,hu],rfl,rfl⟩) ?_) fun e u2 w' ⟨x,h1,h2,_,h3⟩=>⟨x,h1,h2,h3⟩;refine JQ (C5 (A9 (l:=[_]) ?_));refine Aq (v:= .bool true) (w':=w) rfl (fun _ e=>by cases e) (by kernel_rfl) ?_;refine Co (nrm ?_);refine NJ rfl ?_;refine A9 (l:=[_]) ?_;refine Aq (v:= .nilIface) (w':=w) rfl (fun _ e=>by cases e) (by kernel_rfl) ?_;exact Co (nrmB ⟨.inl rfl,rfl⟩)
theorem AdM (z:Int×Int)(m:Mem)(As:List Ow)(w:World)(b0 b1 b2:Nat)(c0 c1 c2:List Value)(l0:c0.length=7)(l1:c1.length=2)(l2:c2.length=1)(h0: ∀v∈c0,v.oneCell'=true)(h1: ∀v∈c1,v.oneCell'=true)(h2: ∀v∈c2,v.oneCell'=true)(S:St m (bx b0 c0 59::bx b1 c1 54::bx b2 c2 46::As) w):
  CallsDIn (FW none) 0 prog 118 #[pt b0 0,pt b1 0,pt b2 0] (.panicking (chn (thW 214 z))) w fun e u' w'=> ∃v,e= .returned v∧u'= .panicking [{v:=thW 214 z,recovered:=true}]∧Kd w w'∧
   ∃M u0 u1 u2,m≤M∧FRL M [.i 0,.u 0,.t false,.t false,.v (.slice none 0 0),.v (.slice none 0 0),.v (.slice none 0 0)] u0∧FRL M [.i 0,.u 0] u1∧FRL M [.i (z.1)] u2∧St M (bx b0 u0 59::bx b1 u1 54::bx b2 u2 46::As) w':=by
 refine Pa (N:=16) (args:=[pt b0 0,pt b1 0,pt b2 0]) (u:= .panicking (chn (thW 214 z))) (u':= .panicking [{v:=thW 214 z,recovered:=true}]) (v:=thW 214 z) func118 rfl ntmps118 rfl (AkG rfl) rfl (fun c₀ cs hu=> .inl (by simp[recoverD,hu,chn])) ?_;refine JQ (C5 (A9 (l:=[_]) ?_));refine Aq (v:= .bool false) (w':=w) rfl (fun _ e=>by cases e) (by kernel_rfl) ?_;refine Co (nrm ?_);refine Ru rfl ?_;refine C5 (A9 (l:=[_,_,_]) ?_);refine Aq (v:= .tuple #[.agg #[.int .i64 z.1],.bool true]) (w':=w) rfl (fun _ e=>by cases e) (by kernel_rfl) ?_;refine Aq (v:= .bool true) (w':=w) rfl (fun _ e=>by cases e) (by kernel_rfl) ?_;refine Aq (v:= .agg #[.int .i64 z.1]) (w':=w) rfl (fun _ e=>by cases e) (by kernel_rfl) ?_;refine Co (nrm ?_);refine NJ rfl ?_;let η0:Env:=fun n=>if n=0 then some (pt b0 0)else if n=1 then some (pt b1 0)else if n=2 then some (pt b2 0)else none;have e0:η0 0=some (pt b0 0):=rfl;have e1:η0 1=some (pt b1 0):=rfl;have e2:η0 2=some (pt b2 0):=rfl;have hd: ∀n,η0 n≠none→n<3:=fun n h=>by
  have h:(if n=0 then some (pt b0 0)else if n=1 then some (pt b1 0)else if n=2 then some (pt b2 0)else none)≠none:=h;split at h
  ·omega
  ·split at h
   ·omega
   ·split at h
    ·omega
    ·exact absurd rfl h
 let s0:AS:=⟨[(0,.pb 0 0),(1,.pb 1 0),(2,.pb 2 0),(11,.agg [.d (.i z.1)])],[(0,.box 0 (List.replicate 7 .any) 59),(1,.box 1 (List.replicate 2 .any) 54),(2,.box 2 (List.replicate 1 .any) 46)],[],3⟩;have cl: ∀{n b k:Nat} {c:List Value} {t:TypeId} {Bs:List Ow},η0 n=some (pt b 0)→c.length=k→(∀v∈c,v.oneCell'=true)→St m (bx b c t::Bs) w→St m (rep η0 m (.box n (List.replicate k .any) t)::Bs) w:=fun hb hl hc S=>St.closeBox hb (hl▸BP.anys) hc S;have rot: ∀{A B C:Ow} {As:List Ow},(A::B::C::As).Perm (B::C::A::As):=(Ak8 _ _ _).trans (List.Perm.cons _ (Ak8 _ _ _));have S3:St m (rep η0 m (.box 0 (List.replicate 7 .any) 59)::rep η0 m (.box 1 (List.replicate 2 .any) 54)::rep η0 m (.box 2 (List.replicate 1 .any) 46)::As) w:=
  (cl e2 l2 h2 ((cl e1 l1 h1 ((cl e0 l0 h0 S).perm rot)).perm rot)).perm rot
 let J:Unit→AS:=fun _=>⟨[],[(0,.box 0 (List.map AV.d [.i 0,.u 0,.t false,.t false,.v (.slice none 0 0),.v (.slice none 0 0),.v (.slice none 0 0)]) 59),(1,.box 1 (List.map AV.d [.i 0,.u 0]) 54),(2,.box 2 (List.map AV.d [.i (z.1)]) 46)],[],3⟩;refine FI (Q:=Ax.pk none prog 16 (w,[],true) (Ze (Rl As η0 m J (fun _=>True)) (thW 214 z) (fun _ _=>False)) [.blk 0]) ?_ (gat s0 (η:=η0) (m:=m) ?_ (WJ () trivial hd (by kernel_rfl)))
 ·intro e f' w' q;have fin:Rl As η0 m J (fun _=>True) f' w'→∃M u0 u1 u2,m≤M∧FRL M [.i 0,.u 0,.t false,.t false,.v (.slice none 0 0),.v (.slice none 0 0),.v (.slice none 0 0)] u0∧FRL M [.i 0,.u 0] u1∧FRL M [.i (z.1)] u2∧St M (bx b0 u0 59::bx b1 u1 54::bx b2 u2 46::As) w':=by
   rintro⟨_,_,η,M,le,l,gm⟩;have op: ∀{n b:Nat} {d:List D} {t:TypeId} {Bs:List Ow},η0 n=some (pt b 0)→St M (rep η M (.box n (List.map AV.d d) t)::Bs) w'→∃u,FRL M d u∧St M (bx b u t::Bs) w':=by
    intro n b d t Bs hb S;obtain⟨b',cs,k0,k1,k2,S1⟩:=St.openBox S;rw[le n _ hb]at k0; obtain rfl:b=b':=by have:=Akr k0; simpa using this
    exact⟨cs,k1.toD,S1⟩
   obtain⟨u0,x0,T0⟩:=op e0 gm.st;obtain⟨u1,x1,T1⟩:=op e1 (T0.perm rot);obtain⟨u2,x2,T2⟩:=op e2 (T1.perm rot);exact⟨M,u0,u1,u2,l,x0,x1,x2,T2.perm rot⟩
  cases e with
  |normal=>exact⟨.inl rfl,fin q⟩
  |ret=>exact⟨.inr rfl,fin q⟩
  |exit id=>
   have q:(bif Nat.beq id 0 then Rl As η0 m J (fun _=>True) f' w' else False):=q;cases hb:Nat.beq id 0
   ·rw[hb]at q; exact q.elim
   ·rw[hb]at q;refine(show NZ 0 _ (.exit id) f' w' from ?_);simp only[NZ,hb,cond_true];exact⟨by simp,fin q⟩
  |goto l=>exact q.elim
  |panic ch=>exact q.2.elim
  |outgrown=>exact q.elim
 ·refine⟨fun t=> ?_,fun n d h=>(by cases h),hd,S3,?_,fun t ht=> ?_⟩
  ·match t with
   |0=>exact .pb e0
   |1=>exact .pb e1
   |2=>exact .pb e2
   |11=>
    have L:BP η0 m [.d (.i z.1)] [.int .i64 z.1]:= .cons (.d (.i _)) .nil;exact .agg L.1 L.2
   |3=>exact .any _
   |4=>exact .any _
   |5=>exact .any _
   |6=>exact .any _
   |7=>exact .any _
   |8=>exact .any _
   |9=>exact .any _
   |10=>exact .any _
   |t+12=>exact .any _
  ·show [0,1,2].Nodup; decide
  ·have:t∈[0,1,2]:=ht;show t<3;simp at this; omega
def BM (a0:Af)(a1:Bool)(k0:Int)(k1:List UInt8)(k2:List Ar)(k3:AG):Option (Except (Int×Int) (Af×g_api_Share×Int)):=
 Ab (Cu a0) fun x1=>
 Ab (Bq x1) fun y1=>match y1 with
 | .error z1=>some (.error z1)
 | .ok x2=>
 Ab ((
   if(a0.Up !=a1)=true then
    Ab (Bq 221) fun y3=>match y3 with
    | .error z2=>some (.inr (.error z2))
    | .ok x4=>
    some (.inl ())
   else
   some (.inl ())
  :Option ((Unit)⊕(Except (Int×Int) (Af×g_api_Share×Int))))) fun x3=>match x3 with
 | .inr r=>some r
 | .inl y2=>
 Ab (BF a0 k0 k1 k2 k3) fun y4=>match y4 with
 | .error z3=>some (.error z3)
 | .ok x5=>
 some (.ok (x5.2,x5.1,0))
end Go.Proofs.YtlahakpgjlmeaaaGreatDoor
