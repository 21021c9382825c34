/- The walks of some functions, by the executor, written by program. Conditions: none. -/
import Derived.Test.YtnhdojckpcbjeaaGreatDoorZh
import Derived.Test.YtnhdojckpcbjeaaGreatDoorZl
set_option linter.unusedSimpArgs false
set_option linter.unusedVariables false
set_option maxHeartbeats 20000000
set_option maxRecDepth 100000
namespace Go.Proofs.YtnhdojckpcbjeaaGreatDoor
open Go Go.Gw Go.Ax Tryz
attribute [local irreducible] Go.Ax.Go
def G1 (a0:ByteArray)(s1:Int):Option ((Int)⊕((Unit)⊕Bool)):=if((decide (s1<(a0.size:Int)))&&(decide (s1<65)))=true then Ab (idx a0.data.toList s1) λx3=>Ab (gu (!(decide ((x3.toNat:Int)<33))) (idx a0.data.toList s1)) λx4=>if((decide ((x3.toNat:Int)<33))||(decide ((x4.toNat:Int)>126)))=true then some (.inr (.inr false))else some (.inl (w64 (s1+1)))else some (.inr (.inl ()))
def JI (a0:ByteArray):Option Bool:=Ab (iter (G1 a0) AY 0) λx1=>match x1 with| .inr r=>some r| .inl y1=>bnd (((decide ((a0.size:Int)>=1))&&(decide ((a0.size:Int)<=64)))) λx5=>some x5
theorem WX {a0 r}(hm:JI a0=some r):Sf prog 52 [.d (.s a0)] (.d (.t r)):=by
 refine sq ?_;intros;refine oB hm λ_ q1 hm=>gI q1 (λp=>⟨[(0,.d (.s a0)),(3,.d (.i p))],[],[],0⟩) λs1 _ Jl q4 bl1=>gi q4 ?_ ?_<;>intro _ q4
 ·refine oB q4 λ_ q6 q4=>Aab (λ_=>q6)<|oB q4 λ_ q7 q4=>SM (λh=>Z9 h q7)<|gi q4 ?_ ?_<;>intro _ q4
  ·obtain rfl:=nR bl1 q4;exact AnO hm▸gE
  exact gN bl1 q4
 obtain rfl:=nR bl1 q4;refine bE hm ?_;intro _ hm;exact AnO hm▸gE
def Hl (a0:Int):Option Bool:=bnd (((decide (a0>=0))&&(decide (a0<=1099511627776)))) λx1=>some x1
theorem Kb {a0 r}(hm:Hl a0=some r):Sf prog 214 [.d (.i a0)] (.d (.t r)):=by
 refine sq ?_;intros;refine bE hm ?_;intro _ hm;exact AnO hm▸gE
def Cx (a0:ByteArray)(s1:Int):Option ((Int)⊕((Unit)⊕Bool)):=if(decide (s1<(a0.size:Int)))=true then Ab (idx a0.data.toList s1) λx3=>Ab (gu (!(decide ((x3.toNat:Int)<33))) (idx a0.data.toList s1)) λx4=>if((decide ((x3.toNat:Int)<33))||(decide ((x4.toNat:Int)>126)))=true then some (.inr (.inr false))else some (.inl (w64 (s1+1)))else some (.inr (.inl ()))
def I9 (a0:ByteArray):Option Bool:=Ab (iter (Cx a0) AY 0) λx1=>match x1 with| .inr r=>some r| .inl y1=>bnd (((decide ((a0.size:Int)>=1))&&(decide ((a0.size:Int)<=64)))) λx5=>some x5
theorem Sn {a0 r}(hm:I9 a0=some r):Sf prog 215 [.d (.s a0)] (.d (.t r)):=by
 refine sq ?_;intros;refine oB hm λ_ q1 hm=>gI q1 (λp=>⟨[(0,.d (.s a0)),(3,.d (.i p))],[],[],0⟩) λs1 _ Jl q4 bl1=>gi q4 ?_ ?_<;>intro _ q4
 ·refine oB q4 λ_ q6 q4=>Aab (λ_=>q6)<|oB q4 λ_ q7 q4=>SM (λh=>Z9 h q7)<|gi q4 ?_ ?_<;>intro _ q4
  ·obtain rfl:=nR bl1 q4;exact AnO hm▸gE
  exact gN bl1 q4
 obtain rfl:=nR bl1 q4;refine bE hm ?_;intro _ hm;exact AnO hm▸gE
def GJ (a0:g_api_Sig):Option Bool:=bnd (((decide ((a0.E.toNat:Int)<1152921504606845789))&&(decide ((a0.S.toNat:Int)<1152921504606845789)))) λx1=>some x1
theorem Pl {a0 r}(hm:GJ a0=some r):Sf prog 216 [ag (Jm a0)] (.d (.t r)):=by
 refine sq ?_;intros;refine bE hm ?_;intro _ hm;exact AnO hm▸gE
def HY (a0:g_api_Promise):Option Bool:=Ab (Hl a0.Log) λx1=>Ab (gu x1 (Hl a0.At)) λx2=>Ab (gu (((x1&&x2)&&(decide ((a0.Leaf.1.toNat:Int)<2305843009213693951)))&&(decide ((a0.Leaf.2.toNat:Int)<2305843009213693951))) (GJ a0.Sig)) λx3=>bnd (((((x1&&x2)&&(decide ((a0.Leaf.1.toNat:Int)<2305843009213693951)))&&(decide ((a0.Leaf.2.toNat:Int)<2305843009213693951)))&&x3)) λx4=>some x4
theorem TX {a0 r}(hm:HY a0=some r):Sf prog 217 [ag (Ad a0)] (.d (.t r)):=by
 refine sq ?_;intros;refine gA hm Kb λ_ q1 hm=>oB hm λ_ q2 hm=>gcH q2 Kb<|oB hm λ_ q3 hm=>gcH q3 Pl<|bE hm ?_;intro _ hm;exact AnO hm▸gE
def BH (a0:ByteArray)(s1:(List ByteArray)×Int×Int):Option (((List ByteArray)×Int×Int)⊕((List ByteArray)×Int)):=if(decide (s1.2.2<(a0.size:Int)))=true then Ab (Ab (idx a0.data.toList s1.2.2) λx5=>if((x5.toNat:Int)==46)=true then Ab (Ts a0 s1.2.1 s1.2.2) λx6=>Ab (app 16 s1.1 ([x6]:List ByteArray)) λx7=>some (x7,(w64 (s1.2.2+1)))else some (s1.1,s1.2.1)) λx4=>some (.inl (x4.1,x4.2,(w64 (s1.2.2+1))))else some (.inr (s1.1,s1.2.1))
def ID (a0:ByteArray):Option (List ByteArray):=Ab (Ab (iter (BH a0) AY (([]:List ByteArray),0,0)) λx2=>some (x2.1,x2.2)) λx1=>Ab (Ts a0 x1.2 (a0.size:Int)) λx8=>Ab (app 16 x1.1 ([x8]:List ByteArray)) λx9=>some x9
theorem TY {a0 r}(hm:ID a0=some r):Sp prog 339 [.d (.s a0)] [] 0 (is (.ow 0) [.row 0 1 _ eS r] 1):=by
 refine sq λD0 As u4 m0 hd=> ?_;unfold ID at hm;obtain⟨x1,q1,hm⟩:=Ag hm;refine oB q1 λx2 q2 q1=>U4 0 eS 3 1<|gI q2 (λ(p_0,p_1,p_2)=>⟨[(0,.d (.s a0)),(3,.ow 0),(4,.d (.i p_1)),(5,.d (.i p_2))],[(0,.row 0 1 _ eS p_0)],[],1⟩) λs1 _ Jl q5 bl1=>gi q5 ?_ ?_<;>intro _ q5
 ·refine oB q5 λx4 q7 q5=>gjU 1 (λ(_:Unit)=>let (y_0,y_1):=x4; ⟨[(0,.d (.s a0)),(3,.ow 0),(4,.d (.i y_1)),(5,.d (.i s1.2.2))],[(0,.row 0 1 _ eS y_0)],[],1⟩) (λ_=>True) (λJp bk3=> ?_) λ_ _=> ?_
  ·refine oB q7 λ_ q8 q7=>Aab (λ_=>q8)<|gi q7 ?_ ?_<;>intro _ q7
   ·refine oB q7 λx6 q9 q7=>VT (λ_=>q9)<|gq eS 1 [x6]<|oB q7 λ_ q10 q7=>gp eS 1 q10 ?_;obtain rfl:=AnO q7;exact gb bk3 hd () trivial
   obtain rfl:=AnO q7;exact gb bk3 hd () trivial
  exact gN bl1 q5
 obtain rfl:=nR bl1 q5;let x2:=(s1.1,s1.2.1);obtain rfl:=AnO q1;refine oB hm λx8 q11 hm=>VT (λ_=>q11)<|gq eS 1 [x8]<|oB hm λ_ q12 hm=>gp eS 1 q12 ?_;exact AnO hm▸gE
def EC (a0:UInt8):Option Bool:=bnd ((((decide ((a0.toNat:Int)>=97))&&(decide ((a0.toNat:Int)<=122)))||((decide ((a0.toNat:Int)>=48))&&(decide ((a0.toNat:Int)<=57))))) λx1=>some x1
theorem NV {a0 r}(hm:EC a0=some r):Sf prog 374 [.d (.b a0)] (.d (.t r)):=by
 refine sq ?_;intros;refine bE hm ?_;intro _ hm;exact AnO hm▸gE
def B4 (a0:ByteArray)(s1:Int):Option ((Int)⊕((Unit)⊕Bool)):=if(decide (s1<(a0.size:Int)))=true then Ab (idx a0.data.toList s1) λx8=>Ab (EC x8) λx9=>Ab (gu (!x9) (idx a0.data.toList s1)) λx10=>if((!x9)&&((x10.toNat:Int) !=45))=true then some (.inr (.inr false))else some (.inl (w64 (s1+1)))else some (.inr (.inl ()))
def JN (a0:ByteArray):Option Bool:=Ab (gu (!((decide ((a0.size:Int)<1))||(decide ((a0.size:Int)>16)))) (idx a0.data.toList (w64 ((a0.size:Int)-1)))) λx1=>Ab (gu (!((decide ((a0.size:Int)<1))||(decide ((a0.size:Int)>16)))) (EC x1)) λx2=>Ab (gu (!(((decide ((a0.size:Int)<1))||(decide ((a0.size:Int)>16)))||(!x2))) (idx a0.data.toList 0)) λx3=>Ab (gu (!(((decide ((a0.size:Int)<1))||(decide ((a0.size:Int)>16)))||(!x2))) (EC x3)) λx4=>Ab (gu ((!(((decide ((a0.size:Int)<1))||(decide ((a0.size:Int)>16)))||(!x2)))&&(!x4)) (idx a0.data.toList 0)) λx5=>if((((decide ((a0.size:Int)<1))||(decide ((a0.size:Int)>16)))||(!x2))||((!x4)&&((x5.toNat:Int) !=95)))=true then some false else Ab (iter (B4 a0) AY 1) λx6=>match x6 with| .inr r=>some r| .inl y1=>some true
theorem W2 {a0 r}(hm:JN a0=some r):Sf prog 340 [.d (.s a0)] (.d (.t r)):=by
 refine sq ?_;intros;refine oB hm λ_ q1 hm=>SM (λh=>Z9 h q1)<|oB hm λ_ q2 hm=>gcH q2 NV<|oB hm λ_ q3 hm=>SM (λh=>Z9 h q3)<|oB hm λ_ q4 hm=>gcH q4 NV<|oB hm λ_ q5 hm=>SM (λh=>Z9 h q5)<|gi hm ?_ ?_<;>intro _ hm
 ·exact AnO hm▸gE
 refine oB hm λ_ q6 hm=>gI q6 (λp=>⟨[(0,.d (.s a0)),(3,.d (.i (a0.size:Int))),(4,.d (.i p))],[],[],0⟩) λs1 _ Jl q9 bl1=>gi q9 ?_ ?_<;>intro _ q9
 ·refine oB q9 λ_ q11 q9=>Aab (λ_=>q11)<|gA q9 NV λ_ q12 q9=>oB q9 λ_ q13 q9=>SM (λh=>Z9 h q13)<|gi q9 ?_ ?_<;>intro _ q9
  ·obtain rfl:=nR bl1 q9;exact AnO hm▸gE
  exact gN bl1 q9
 obtain rfl:=nR bl1 q9;exact AnO hm▸gE
def BZ (x1:List ByteArray)(s1:Int):Option ((Int)⊕((Unit)⊕Bool)):=if(decide (s1<(x1.length:Int)))=true then Ab (idx x1 s1) λx4=>Ab (JN x4) λx5=>if(!x5)=true then some (.inr (.inr false))else some (.inl (w64 (s1+1)))else some (.inr (.inl ()))
def FQ (a0:ByteArray):Option Bool:=if(decide ((a0.size:Int)>64))=true then some false else Ab (ID a0) λx1=>Ab (iter (BZ x1) AY 0) λx2=>match x2 with| .inr r=>some r| .inl y1=>bnd ((decide ((x1.length:Int)<=8))) λx6=>some x6
theorem NW {a0 r}(hm:FQ a0=some r):Sf prog 283 [.d (.s a0)] (.d (.t r)):=by
 refine sq ?_;intros;refine gi hm ?_ ?_<;>intro _ hm
 ·exact AnO hm▸gE
 refine gD hm TY λx1 q1 hm=>oB hm λ_ q2 hm=>gI q2 (λp=>⟨[(3,.ow 0),(4,.d (.i p))],[(0,.row 0 1 _ eS x1)],[],1⟩) λs1 _ Jl q5 bl1=>gi q5 ?_ ?_<;>intro _ q5
 ·refine oB q5 λ_ q7 q5=>Jk (E:=eS) (λ_=>q7)<|AaD (k:=1) (fo:=0) (nn:=1) (ag:=false) (E:=eS) (λ_=>rfl) (λ_=>q7)<|gA q5 W2 λ_ q8 q5=>gi q5 ?_ ?_<;>intro _ q5
  ·obtain rfl:=nR bl1 q5;exact AnO hm▸gE
  exact gN bl1 q5
 obtain rfl:=nR bl1 q5;refine bE hm ?_;intro _ hm;exact AnO hm▸gE
def BJ (a0:List ByteArray)(s1:Int)(s2:Int):Option ((Int)⊕((Unit)⊕Bool)):=if(decide (s2<s1))=true then Ab (idx a0 s2) λx5=>Ab (idx a0 s1) λx6=>if(eqS x5 x6)=true then some (.inr (.inr false))else some (.inl (w64 (s2+1)))else some (.inr (.inl ()))
def BK (a0:List ByteArray)(s1:Int):Option ((Int)⊕((Unit)⊕Bool)):=if(decide (s1<(a0.length:Int)))=true then Ab (iter (BJ a0 s1) AY 0) λx3=>match x3 with| .inr r=>some (.inr (.inr r))| .inl y3=>some (.inl (w64 (s1+1)))else some (.inr (.inl ()))
def GI (a0:List ByteArray):Option Bool:=Ab (iter (BK a0) AY 0) λx1=>match x1 with| .inr r=>some r| .inl y1=>some true
theorem Pk {a0 r}(hm:GI a0=some r):Sf prog 284 [sl eS a0] (.d (.t r)):=by
 refine sq ?_;intros;refine oB hm λ_ q1 hm=>gI q1 (λp=>⟨[(0,sl eS a0),(3,.d (.i p))],[],[],0⟩) λs1 _ Jl q4 bl1=>gi q4 ?_ ?_<;>intro _ q4
 ·refine oB q4 λ_ q6 q4=>gI q6 (λp=>⟨[(0,sl eS a0),(3,.d (.i s1)),(4,.d (.i p))],[],[],0⟩) λs2 _ Jl q9 bl2=>gi q9 ?_ ?_<;>intro _ q9
  ·refine oB q9 λ_ q11 q9=>gx eS 1 q11<|oB q9 λ_ q12 q9=>gx eS 1 q12<|gi q9 ?_ ?_<;>intro _ q9
   ·obtain rfl:=nR bl2 q9;obtain rfl:=nR bl1 q4;exact AnO hm▸gE
   exact gN bl2 q9
  obtain rfl:=nR bl2 q9;exact gN bl1 q4
 obtain rfl:=nR bl1 q4;exact AnO hm▸gE
def Ld (a0:ByteArray):Option (ByteArray×Bool):=Ab (gu (!((decide ((a0.size:Int)<3))||(decide ((a0.size:Int)>64)))) (idx a0.data.toList 0)) λx1=>Ab (gu (!(((decide ((a0.size:Int)<3))||(decide ((a0.size:Int)>64)))||((x1.toNat:Int) !=42))) (idx a0.data.toList 1)) λx2=>Ab (gu (!((((decide ((a0.size:Int)<3))||(decide ((a0.size:Int)>64)))||((x1.toNat:Int) !=42))||((x2.toNat:Int) !=46))) (Ts a0 2 (a0.size:Int))) λx3=>Ab (gu (!((((decide ((a0.size:Int)<3))||(decide ((a0.size:Int)>64)))||((x1.toNat:Int) !=42))||((x2.toNat:Int) !=46))) (FQ x3)) λx4=>if(((((decide ((a0.size:Int)<3))||(decide ((a0.size:Int)>64)))||((x1.toNat:Int) !=42))||((x2.toNat:Int) !=46))||(!x4))=true then some ((⟨#[]⟩:ByteArray),false)else Ab (Ts a0 2 (a0.size:Int)) λx5=>Ab (ID x5) λx6=>if(decide ((x6.length:Int)>7))=true then some ((⟨#[]⟩:ByteArray),false)else Ab (Ts a0 2 (a0.size:Int)) λx7=>some (x7,true)
theorem YZ {a0 r}(hm:Ld a0=some r):Sf prog 341 [.d (.s a0)] (.tup [.d (.s r.1),.d (.t r.2)]):=by
 refine sq ?_;intros;refine oB hm λ_ q1 hm=>SM (λh=>Z9 h q1)<|oB hm λ_ q2 hm=>SM (λh=>Z9 h q2)<|oB hm λ_ q3 hm=>AkW (λh=>Z9 h q3)<|oB hm λ_ q4 hm=>gcH q4 NW<|gspl 28 hm (λhc1 hm=> ?_) λhc1 hm=> ?_
 ·refine gi' (b:=true) (λ_=> ?_) (λh=>by cases h);exact AnO hm▸gE
 refine oB hm λ_ q5 hm=>VT (λ_=>q5)<|gD hm TY λ_ q6 hm=>gi hm ?_ ?_<;>intro _ hm
 ·exact AnO hm▸gE
 refine oB hm λ_ q7 hm=>VT (λ_=>q7) ?_;exact AnO hm▸gE
def HZ (a0:ByteArray):Option Int:=Ab (Ld a0) λx1=>Ab (gu (!x1.2) (FQ a0)) λx2=>if((!x1.2)&&(!x2))=true then some 110 else some 0
theorem TZ {a0 r}(hm:HZ a0=some r):Sf prog 285 [.d (.s a0)] (.d (.i r)):=by
 refine sq ?_;intros;refine gA hm YZ λ_ q1 hm=>oB hm λ_ q2 hm=>gcH q2 NW<|gi hm ?_ ?_<;>intro _ hm
 ·exact AnO hm▸gE
 exact AnO hm▸gE
def Cv (a0:g_api_Cert)(s1:Int):Option ((Int)⊕((Unit)⊕Bool)):=if(decide (s1<(a0.Names.length:Int)))=true then Ab (idx a0.Names s1) λx3=>Ab (FQ x3) λx4=>if(!x4)=true then some (.inr (.inr false))else some (.inl (w64 (s1+1)))else some (.inr (.inl ()))
def Cu (a0:g_api_Cert)(s2:Int):Option ((Int)⊕((Unit)⊕Bool)):=if(decide (s2<(a0.Permit.length:Int)))=true then Ab (idx a0.Permit s2) λx9=>Ab (HZ x9) λx10=>if(x10 !=0)=true then some (.inr (.inr false))else some (.inl (w64 (s2+1)))else some (.inr (.inl ()))
def Lb (a0:g_api_Cert):Option Bool:=
 if(!a0.Ca)=true then
  Ab (iter (Cv a0) AY 0) λx1=>match x1 with
  | .inr r=>some r
  | .inl y1=>
  Ab (gu (((eqS a0.Subject (⟨#[]⟩:ByteArray))&&(decide ((a0.Names.length:Int)>=1)))&&(decide ((a0.Names.length:Int)<=8))) (GI a0.Names)) λx5=>
  bnd (((((((eqS a0.Subject (⟨#[]⟩:ByteArray))&&(decide ((a0.Names.length:Int)>=1)))&&(decide ((a0.Names.length:Int)<=8)))&&x5)&&(a0.Depth==0))&&((a0.Permit.length:Int)==0))) λx6=>
  some x6
 else
 Ab (iter (Cu a0) AY 0) λx7=>match x7 with
 | .inr r=>some r
 | .inl y3=>
 Ab (I9 a0.Subject) λx11=>
 Ab (gu ((((x11&&((a0.Names.length:Int)==0))&&(decide (a0.Depth>=0)))&&(decide (a0.Depth<=4)))&&(decide ((a0.Permit.length:Int)<=8))) (GI a0.Permit)) λx12=>
 bnd ((((((x11&&((a0.Names.length:Int)==0))&&(decide (a0.Depth>=0)))&&(decide (a0.Depth<=4)))&&(decide ((a0.Permit.length:Int)<=8)))&&x12)) λx13=>
 some x13
theorem YV {a0 r}(hm:Lb a0=some r):Sf prog 218 [ag (Ac a0)] (.d (.t r)):=by
 refine sq ?_;intros;refine gi hm ?_ ?_<;>intro _ hm
 ·refine oB hm λ_ q1 hm=>gI q1 (λp=>⟨[(1,.pb 0 0),(3,.d (.i p))],[(0,.box 0 [.d (.i a0.Serial),.d (.s a0.Issuer),.d (.s a0.Subject),.d (.u a0.Key),sl eS a0.Names,.d (.i a0.From),.d (.i a0.Until),.d (.t a0.Ca),.d (.i a0.Depth),sl eS a0.Permit,sl Ad a0.Proms,.d (.u a0.Sig.E),.d (.u a0.Sig.S)] 59)],[],1⟩) λs1 _ Jl q4 bl1=>gi q4 ?_ ?_<;>intro _ q4
  ·refine oB q4 λ_ q6 q4=>gx eS 1 q6<|gA q4 NW λ_ q7 q4=>gi q4 ?_ ?_<;>intro _ q4
   ·obtain rfl:=nR bl1 q4;exact AnO hm▸gE
   exact gN bl1 q4
  obtain rfl:=nR bl1 q4;refine oB hm λ_ q8 hm=>gcH q8 Pk<|bE hm ?_;intro _ hm;exact AnO hm▸gE
 refine oB hm λ_ q10 hm=>gI q10 (λp=>⟨[(1,.pb 0 0),(4,.d (.i p))],[(0,.box 0 [.d (.i a0.Serial),.d (.s a0.Issuer),.d (.s a0.Subject),.d (.u a0.Key),sl eS a0.Names,.d (.i a0.From),.d (.i a0.Until),.d (.t a0.Ca),.d (.i a0.Depth),sl eS a0.Permit,sl Ad a0.Proms,.d (.u a0.Sig.E),.d (.u a0.Sig.S)] 59)],[],1⟩) λs2 _ Jl q13 bl2=>gi q13 ?_ ?_<;>intro _ q13
 ·refine oB q13 λ_ q15 q13=>gx eS 1 q15<|gA q13 TZ λ_ q16 q13=>gi q13 ?_ ?_<;>intro _ q13
  ·obtain rfl:=nR bl2 q13;exact AnO hm▸gE
  exact gN bl2 q13
 obtain rfl:=nR bl2 q13;refine gA hm Sn λ_ q17 hm=>oB hm λ_ q18 hm=>gcH q18 Pk<|bE hm ?_;intro _ hm;exact AnO hm▸gE
def Cw (a0:g_api_Cert)(s1:Int):Option ((Int)⊕((Unit)⊕Bool)):=if(decide (s1<(a0.Proms.length:Int)))=true then Ab (idx a0.Proms s1) λx8=>Ab (HY x8) λx9=>Ab (gu ((!(!x9))&&(decide (s1>0))) (idx a0.Proms (w64 (s1-1)))) λx10=>Ab (gu ((!(!x9))&&(decide (s1>0))) (idx a0.Proms s1)) λx11=>if((!x9)||((decide (s1>0))&&(decide (x10.Log>=x11.Log))))=true then some (.inr (.inr false))else some (.inl (w64 (s1+1)))else some (.inr (.inl ()))
def Lc (a0:g_api_Cert):Option Bool:=Ab (Hl a0.Serial) λx1=>Ab (gu (!(!x1)) (Hl a0.From)) λx2=>Ab (gu (!((!x1)||(!x2))) (Hl a0.Until)) λx3=>Ab (gu (!((((!x1)||(!x2))||(!x3))||(decide (a0.From>=a0.Until)))) (I9 a0.Issuer)) λx4=>Ab (gu (!((((((((!x1)||(!x2))||(!x3))||(decide (a0.From>=a0.Until)))||(!x4))||(decide ((a0.Key.toNat:Int)<1)))||(decide ((a0.Key.toNat:Int)>=2305843009213691579)))||(decide ((a0.Proms.length:Int)>4)))) (GJ a0.Sig)) λx5=>if(((((((((!x1)||(!x2))||(!x3))||(decide (a0.From>=a0.Until)))||(!x4))||(decide ((a0.Key.toNat:Int)<1)))||(decide ((a0.Key.toNat:Int)>=2305843009213691579)))||(decide ((a0.Proms.length:Int)>4)))||(!x5))=true then some false else Ab (iter (Cw a0) AY 0) λx6=>match x6 with| .inr r=>some r| .inl y1=>Ab (Lb a0) λx12=>some x12
theorem YW {a0 r}(hm:Lc a0=some r):Sf prog 134 [ag (Ac a0)] (.d (.t r)):=by
 refine sq ?_;intros;refine gA hm Kb λ_ q1 hm=>oB hm λ_ q2 hm=>gcH q2 Kb<|oB hm λ_ q3 hm=>gcH q3 Kb<|oB hm λ_ q4 hm=>gcH q4 Sn<|oB hm λ_ q5 hm=>gcH q5 Pl<|gi hm ?_ ?_<;>intro _ hm
 ·exact AnO hm▸gE
 refine oB hm λ_ q6 hm=>gI q6 (λp=>⟨[(1,.pb 0 0),(3,.d (.i p))],[(0,.box 0 [.d (.i a0.Serial),.d (.s a0.Issuer),.d (.s a0.Subject),.d (.u a0.Key),sl eS a0.Names,.d (.i a0.From),.d (.i a0.Until),.d (.t a0.Ca),.d (.i a0.Depth),sl eS a0.Permit,sl Ad a0.Proms,.d (.u a0.Sig.E),.d (.u a0.Sig.S)] 59)],[],1⟩) λs1 _ Jl q9 bl1=>gi q9 ?_ ?_<;>intro _ q9
 ·refine oB q9 λ_ q11 q9=>gx Ad 6 q11<|gA q9 TX λ_ q12 q9=>oB q9 λ_ q13 q9=>gxG Ad 6 q13<|oB q9 λ_ q14 q9=>gxG Ad 6 q14<|gi q9 ?_ ?_<;>intro _ q9
  ·obtain rfl:=nR bl1 q9;exact AnO hm▸gE
  exact gN bl1 q9
 obtain rfl:=nR bl1 q9;refine gA hm YV λ_ q15 hm=> ?_;exact AnO hm▸gE
def JQ (a0:List UInt8):Option Bool:=if((decide ((a0.length:Int)<1))||(decide ((a0.length:Int)>8)))=true then some false else Ab (gu (!((a0.length:Int)==1)) (idx a0 0)) λx1=>Ab (gu ((!((a0.length:Int)==1))&&((x1.toNat:Int)==0)) (idx a0 1)) λx2=>Ab (gu ((!((a0.length:Int)==1))&&(!(((x1.toNat:Int)==0)&&(decide ((x2.toNat:Int)<128))))) (idx a0 0)) λx3=>Ab (gu (((!((a0.length:Int)==1))&&(!(((x1.toNat:Int)==0)&&(decide ((x2.toNat:Int)<128)))))&&((x3.toNat:Int)==255)) (idx a0 1)) λx4=>bnd ((((a0.length:Int)==1)||((!(((x1.toNat:Int)==0)&&(decide ((x2.toNat:Int)<128))))&&(!(((x3.toNat:Int)==255)&&(decide ((x4.toNat:Int)>=128))))))) λx5=>some x5
theorem W7 {a0 r}(hm:JQ a0=some r):Sf prog 342 [sl eB a0] (.d (.t r)):=by
 refine sq ?_;intros;refine gi hm ?_ ?_<;>intro _ hm
 ·exact AnO hm▸gE
 refine oB hm λ_ q1 hm=>gxG eB 1 q1<|oB hm λ_ q2 hm=>gxG eB 1 q2<|oB hm λ_ q3 hm=>gxG eB 1 q3<|oB hm λ_ q4 hm=>gxG eB 1 q4<|bE hm ?_;intro _ hm;exact AnO hm▸gE
def Cy (a0:List UInt8)(s1:Int):Option ((Int)⊕((Unit)⊕Bool)):=if(decide (s1<(a0.length:Int)))=true then Ab (idx a0 s1) λx3=>Ab (gu (!(decide ((x3.toNat:Int)<32))) (idx a0 s1)) λx4=>if((decide ((x3.toNat:Int)<32))||(decide ((x4.toNat:Int)>126)))=true then some (.inr (.inr false))else some (.inl (w64 (s1+1)))else some (.inr (.inl ()))
def Lg (a0:List UInt8):Option Bool:=Ab (iter (Cy a0) AY 0) λx1=>match x1 with| .inr r=>some r| .inl y1=>some true
theorem Y1 {a0 r}(hm:Lg a0=some r):Sf prog 343 [sl eB a0] (.d (.t r)):=by
 refine sq ?_;intros;refine oB hm λ_ q1 hm=>gI q1 (λp=>⟨[(0,sl eB a0),(3,.d (.i p))],[],[],0⟩) λs1 _ Jl q4 bl1=>gi q4 ?_ ?_<;>intro _ q4
 ·refine oB q4 λ_ q6 q4=>gx eB 1 q6<|oB q4 λ_ q7 q4=>gxG eB 1 q7<|gi q4 ?_ ?_<;>intro _ q4
  ·obtain rfl:=nR bl1 q4;exact AnO hm▸gE
  exact gN bl1 q4
 obtain rfl:=nR bl1 q4;exact AnO hm▸gE
def SO (rF:g_api_Item->Option Bool):Prop:= ∀{a0:g_api_Item} {r:Bool},rF a0=some r->Sf prog 286 [ag (Af a0)] (.d (.t r))
def Cz (rF:g_api_Item->Option Bool)(a0:g_api_Item)(s1:Int):Option ((Int)⊕((Unit)⊕Bool)):=if(decide (s1<(a0.L.length:Int)))=true then Ab (idx a0.L s1) λx8=>Ab (rF x8) λx9=>if(!x9)=true then some (.inr (.inr false))else some (.inl (w64 (s1+1)))else some (.inr (.inl ()))
def IP (rF:g_api_Item->Option Bool)(a0:g_api_Item):Option Bool:=if((a0.Tag !=48)&&(decide ((a0.L.length:Int)>0)))=true then some false else if(a0.Tag==1)=true then Ab (gu ((a0.B.length:Int)==1) (idx a0.B 0)) λx1=>Ab (gu (((a0.B.length:Int)==1)&&(!((x1.toNat:Int)==0))) (idx a0.B 0)) λx2=>bnd ((((a0.B.length:Int)==1)&&(((x1.toNat:Int)==0)||((x2.toNat:Int)==255)))) λx3=>some x3 else if(a0.Tag==2)=true then Ab (JQ a0.B) λx4=>some x4 else if(a0.Tag==4)=true then some true else if(a0.Tag==12)=true then Ab (Lg a0.B) λx5=>some x5 else if(a0.Tag==48)=true then Ab (iter ((Cz rF) a0) AY 0) λx6=>match x6 with| .inr r=>some r| .inl y1=>some ((a0.B.length:Int)==0)else some false
theorem Vy {rF:g_api_Item->Option Bool}(hF:SO rF){a0 r}(hm:IP rF a0=some r):Sf prog 286 [ag (Af a0)] (.d (.t r)):=by
 refine sq ?_;intros;refine gi hm ?_ ?_<;>intro _ hm
 ·exact AnO hm▸gE
 refine gi hm ?_ ?_<;>intro _ hm
 ·refine oB hm λ_ q1 hm=>gxG eB 1 q1<|oB hm λ_ q2 hm=>gxG eB 1 q2<|bE hm ?_;intro _ hm;exact AnO hm▸gE
 refine gi hm ?_ ?_<;>intro _ hm
 ·refine gA hm W7 λ_ q4 hm=> ?_;exact AnO hm▸gE
 refine gi hm ?_ ?_<;>intro _ hm
 ·exact AnO hm▸gE
 refine gi hm ?_ ?_<;>intro _ hm
 ·refine gA hm Y1 λ_ q5 hm=> ?_;exact AnO hm▸gE
 refine gi hm ?_ ?_<;>intro _ hm
 ·refine oB hm λ_ q6 hm=>gI q6 (λp=>⟨[(1,.pb 0 0),(3,.d (.i p))],[(0,.box 0 [.d (.i a0.Tag),sl eB a0.B,sl Af a0.L] 192)],[],1⟩) λs1 _ Jl q9 bl1=>gi q9 ?_ ?_<;>intro _ q9
  ·refine oB q9 λ_ q11 q9=>gx Af 3 q11<|gA q9 hF λ_ q12 q9=>gi q9 ?_ ?_<;>intro _ q9
   ·obtain rfl:=nR bl1 q9;exact AnO hm▸gE
   exact gN bl1 q9
  obtain rfl:=nR bl1 q9;exact AnO hm▸gE
 exact AnO hm▸gE
def EA:Nat->g_api_Item->Option Bool
 |0,_=>none
 |n+1,a0=>IP (EA n) a0
def Ox (a0:g_api_Item):Option Bool:=EA AY a0
theorem Qr: ∀n,SO (EA n)
 |0=>λhm=>by cases hm
 |n+1=>λhm=>Vy (Qr n) hm
theorem Y2 {a0:g_api_Item}{r:Bool}(hm:Ox a0=some r):Sf prog 286 [ag (Af a0)] (.d (.t r)):=Qr AY hm
def SP (rF:g_api_Item->Option Int):Prop:= ∀{a0:g_api_Item} {r:Int},rF a0=some r->Sf prog 287 [ag (Af a0)] (.d (.i r))
def CB (rF:g_api_Item->Option Int)(a0:g_api_Item)(s1:Int×Int):Option ((Int×Int)⊕(Int)):=if(decide (s1.2<(a0.L.length:Int)))=true then Ab (idx a0.L s1.2) λx4=>Ab (rF x4) λx5=>some (.inl ((Af8 s1.1 x5),(w64 (s1.2+1))))else some (.inr s1.1)
def GL (rF:g_api_Item->Option Int)(a0:g_api_Item):Option Int:=Ab (Ab (iter ((CB rF) a0) AY (0,0)) λx2=>some x2) λx1=>some (w64 (x1+1))
theorem Vz {rF:g_api_Item->Option Int}(hF:SP rF){a0 r}(hm:GL rF a0=some r):Sf prog 287 [ag (Af a0)] (.d (.i r)):=by
 refine sq ?_;intros;unfold GL at hm;obtain⟨x1,q1,hm⟩:=Ag hm;refine oB q1 λx2 q2 q1=>gI q2 (λ(p_0,p_1)=>⟨[(1,.pb 0 0),(3,.d (.i p_0)),(4,.d (.i p_1))],[(0,.box 0 [.d (.i a0.Tag),sl eB a0.B,sl Af a0.L] 192)],[],1⟩) λs1 _ Jl q5 bl1=>gi q5 ?_ ?_<;>intro _ q5
 ·exact oB q5 λ_ q7 q5=>gx Af 3 q7<|gA q5 hF λ_ q8 q5=>gN bl1 q5
 obtain rfl:=nR bl1 q5;let x2:=s1.1;obtain rfl:=AnO q1;exact AnO hm▸gE
def FL:Nat->g_api_Item->Option Int
 |0,_=>none
 |n+1,a0=>GL (FL n) a0
def Oy (a0:g_api_Item):Option Int:=FL AY a0
theorem Qs: ∀n,SP (FL n)
 |0=>λhm=>by cases hm
 |n+1=>λhm=>Vz (Qs n) hm
theorem Y3 {a0:g_api_Item}{r:Int}(hm:Oy a0=some r):Sf prog 287 [ag (Af a0)] (.d (.i r)):=Qs AY hm
def M5 (a0:g_api_Item):Option Bool:=Ab (Ox a0) λx1=>Ab (gu x1 (Oy a0)) λx2=>some (x1&&(decide (x2<=8)))
theorem AaR {a0 r}(hm:M5 a0=some r):Sf prog 219 [ag (Af a0)] (.d (.t r)):=by
 refine sq ?_;intros;refine gA hm Y2 λ_ q1 hm=>oB hm λ_ q2 hm=>gcH q2 Y3 ?_;exact AnO hm▸gE
def IN (a0:Int):Option (List UInt8):=if(decide (a0<128))=true then some ([(toB a0)]:List UInt8)else if(decide (a0<256))=true then some ([129,(toB a0)]:List UInt8)else bnd (w64 (Int.tdiv a0 256)) λx1=>some ([130,(toB x1),(toB a0)]:List UInt8)
theorem Vx {a0 r}(hm:IN a0=some r):Sp prog 288 [.d (.i a0)] [] 0 (is (.ow 0) [.row 0 1 _ eB r] 1):=by
 refine sq ?_;intros;refine gi hm ?_ ?_<;>intro _ hm
 ·refine Sa (k:=1) eB ([(toB a0)]:List UInt8) (λ_=>rfl) ?_;exact AnO hm▸gE
 refine gi hm ?_ ?_<;>intro _ hm
 ·refine Sa (k:=1) eB ([129,(toB a0)]:List UInt8) (λ_=>rfl) ?_;exact AnO hm▸gE
 refine bE hm ?_;intro x1 hm;refine Sa (k:=1) eB ([130,(toB x1),(toB a0)]:List UInt8) (λ_=>rfl) ?_;exact AnO hm▸gE
def Rz (rF:g_api_Item->Option (List UInt8)):Prop:= ∀{a0:g_api_Item} {r:List UInt8},rF a0=some r->Sp prog 220 [ag (Af a0)] [] 0 (is (.ow 0) [.row 0 1 _ eB r] 1)
def BI (rF:g_api_Item->Option (List UInt8))(a0:g_api_Item)(s1:(List UInt8)×Int):Option (((List UInt8)×Int)⊕((List UInt8))):=if(decide (s1.2<(a0.L.length:Int)))=true then Ab (idx a0.L s1.2) λx5=>Ab (rF x5) λx6=>Ab (app 1 s1.1 x6) λx7=>some (.inl (x7,(w64 (s1.2+1))))else some (.inr s1.1)
def H3 (rF:g_api_Item->Option (List UInt8))(a0:g_api_Item):Option (List UInt8):=Ab (app 1 ([]:List UInt8) a0.B) λx1=>Ab (Ab (iter ((BI rF) a0) AY (x1,0)) λx3=>some x3) λx2=>Ab (IN (x2.length:Int)) λx8=>Ab (app 1 ([(toB a0.Tag)]:List UInt8) x8) λx9=>Ab (app 1 x9 x2) λx10=>some x10
theorem T0 {rF:g_api_Item->Option (List UInt8)}(hF:Rz rF){a0 r}(hm:H3 rF a0=some r):Sp prog 220 [ag (Af a0)] [] 0 (is (.ow 0) [.row 0 1 _ eB r] 1):=by
 refine sq ?_;intros;refine Sa (k:=1) eB ([]:List UInt8) (λ_=>rfl)<|oB hm λ_ q1 hm=>gp eB 1 q1 ?_;obtain⟨x2,q2,hm⟩:=Ag hm;refine oB q2 λx3 q3 q2=>gI q3 (λ(p_0,p_1)=>⟨[(1,.pb 0 0),(3,.ow 1),(4,.d (.i p_1))],[(0,.row 1 1 _ eB p_0),(1,.box 0 [.d (.i a0.Tag),sl eB a0.B,sl Af a0.L] 192)],[],2⟩) λs1 _ Jl q6 bl1=>gi q6 ?_ ?_<;>intro _ q6
 ·exact oB q6 λ_ q8 q6=>gx Af 3 q8<|gD q6 hF λ_ q9 q6=>oB q6 λ_ q10 q6=>gp eB 1 q10<|gN bl1 q6
 obtain rfl:=nR bl1 q6;let x3:=s1.1;obtain rfl:=AnO q2;refine Sa (k:=1) eB ([(toB a0.Tag)]:List UInt8) (λ_=>rfl)<|gD hm Vx λ_ q11 hm=>oB hm λ_ q12 hm=>gp eB 1 q12<|oB hm λ_ q13 hm=>gp eB 1 q13 ?_;exact AnO hm▸gE
def DQ:Nat->g_api_Item->Option (List UInt8)
 |0,_=>none
 |n+1,a0=>H3 (DQ n) a0
def MZ (a0:g_api_Item):Option (List UInt8):=DQ AY a0
theorem Ph: ∀n,Rz (DQ n)
 |0=>λhm=>by cases hm
 |n+1=>λhm=>T0 (Ph n) hm
theorem W8 {a0:g_api_Item}{r:List UInt8}(hm:MZ a0=some r):Sp prog 220 [ag (Af a0)] [] 0 (is (.ow 0) [.row 0 1 _ eB r] 1):=Ph AY hm
def M4 (a0:g_api_Item):Option ((List UInt8)×Int):=Ab (M5 a0) λx1=>if(!x1)=true then some (([]:List UInt8),1)else Ab (MZ a0) λx2=>if(decide ((x2.length:Int)>8192))=true then some (([]:List UInt8),2)else some (x2,0)
theorem AaQ {a0 r}(hm:M4 a0=some r):Sp prog 135 [ag (Af a0)] [] 0 (is (.tup [.ow 0,.d (.i r.2)]) [.row 0 1 _ eB r.1] 1):=by
 refine sq ?_;intros;refine gA hm AaR λ_ q1 hm=>gi hm ?_ ?_<;>intro _ hm
 ·refine Tr eB 2 1 ?_;exact AnO hm▸gE
 refine gD hm W8 λ_ q2 hm=>gi hm ?_ ?_<;>intro _ hm
 ·refine Tr eB 2 1 ?_;exact AnO hm▸gE
 exact AnO hm▸gE
def Hm (a0:List g_api_Item):Option g_api_Item:=Ab (app 56 ([]:List g_api_Item) a0) λx1=>some (⟨48,[],x1⟩:g_api_Item)
theorem Mz {a0 r}(hm:Hm a0=some r):Sf prog 221 [sl Af a0] (ag (Af r)):=by
 refine sq ?_;intros;refine Sa (k:=3) Af ([]:List g_api_Item) (λ_=>rfl)<|oB hm λ_ q1 hm=>gp Af 3 q1 ?_;exact AnO hm▸gE
def GK (s1:(List UInt8)×Int):Option (((List UInt8)×Int)⊕((List UInt8))):=Ab (gu (s1.2==0) (idx s1.1 0)) λx4=>Ab (gu ((!((s1.2==0)&&(decide ((x4.toNat:Int)<128))))&&(s1.2==(-1))) (idx s1.1 0)) λx5=>if((!((s1.2==0)&&(decide ((x4.toNat:Int)<128))))&&(!((s1.2==(-1))&&(decide ((x5.toNat:Int)>=128)))))=true then Ab (app 1 ([(toB s1.2)]:List UInt8) s1.1) λx6=>some (.inl (x6,(A9 s1.2 8)))else some (.inr s1.1)
def CA (a0:Int):Option g_api_Item:=Ab (Ab (iter GK AY (([(toB a0)]:List UInt8),(A9 a0 8))) λx2=>some x2) λx1=>some (⟨2,x1,[]⟩:g_api_Item)
theorem EH {a0 r}(hm:CA a0=some r):Sf prog 289 [.d (.i a0)] (ag (Af r)):=by
 refine sq ?_;intros;unfold CA at hm;refine gq eB 1 [(toB a0)] ?_;obtain⟨x1,q1,hm⟩:=Ag hm;refine oB q1 λx2 q2 q1=>gI q2 (λ(p_0,p_1)=>⟨[(2,.pb 0 0),(3,sl eB p_0),(4,.d (.i p_1))],[(0,.box 0 [.d (.i 0),sl eB [],sl Af []] 192)],[],1⟩) λs1 _ Jl q5 bl1=>oB q5 λ_ q7 q5=>gxG eB 1 q7<|oB q5 λ_ q8 q5=>gxG eB 1 q8<|gi q5 ?_ ?_<;>intro _ q5
 ·exact Sa (k:=1) eB ([(toB s1.2)]:List UInt8) (λ_=>rfl)<|oB q5 λ_ q9 q5=>gp eB 1 q9<|gN bl1 q5
 obtain rfl:=nR bl1 q5;let x2:=s1.1;obtain rfl:=AnO q1;exact AnO hm▸gE
def IC (a0:UInt64)(a1:UInt64):Option (List g_api_Item):=Ab (CA (w64 (a0.toNat:Int))) λx1=>Ab (CA (w64 (a1.toNat:Int))) λx2=>some ([x1,x2]:List g_api_Item)
theorem PJ {a0 a1 r}(hm:IC a0 a1=some r):Sp prog 223 [.d (.u a0),.d (.u a1)] [] 0 (is (.ow 0) [.row 0 3 _ Af r] 1):=by
 refine sq ?_;intros;refine gA hm EH λx1 q1 hm=>gA hm EH λx2 q2 hm=>Sa (k:=3) Af ([x1,x2]:List g_api_Item) (λ_=>rfl) ?_;exact AnO hm▸gE
def Hs (a0:ByteArray):Option g_api_Item:=Ab (app 1 ([]:List UInt8) a0.data.toList) λx1=>some (⟨12,x1,[]⟩:g_api_Item)
theorem NX {a0 r}(hm:Hs a0=some r):Sf prog 344 [.d (.s a0)] (ag (Af r)):=by
 refine sq ?_;intros;refine oB hm λ_ q1 hm=>gofS q1 ?_;exact AnO hm▸gE
def BG (a0:List ByteArray)(s1:Int×(List g_api_Item)):Option ((Int×(List g_api_Item))⊕((List g_api_Item))):=if(decide (s1.1<(a0.length:Int)))=true then Ab (idx a0 s1.1) λx4=>Ab (Hs x4) λx5=>Ab (app 56 s1.2 ([x5]:List g_api_Item)) λx6=>some (.inl ((w64 (s1.1+1)),x6))else some (.inr s1.2)
def Ge (a0:List ByteArray):Option g_api_Item:=Ab (Ab (iter (BG a0) AY (0,([]:List g_api_Item))) λx2=>some x2) λx1=>some (⟨48,[],x1⟩:g_api_Item)
theorem QD {a0 r}(hm:Ge a0=some r):Sf prog 345 [sl eS a0] (ag (Af r)):=by
 refine sq ?_;intros;unfold Ge at hm;obtain⟨x1,q1,hm⟩:=Ag hm;refine oB q1 λx2 q2 q1=>Agz 0 Af 3 2 3<|gI q2 (λ(p_0,p_1)=>⟨[(0,sl eS a0),(2,.pb 0 0),(3,.pb 1 0),(4,.d (.i p_0))],[(0,.row 2 3 _ Af p_1),(1,.box 1 [.d (.i 48),sl eB [],.ow 2] 192),(2,.box 0 [.d (.i 0),sl eB [],sl Af []] 192)],[],3⟩) λs1 _ Jl q5 bl1=>gi q5 ?_ ?_<;>intro _ q5
 ·exact oB q5 λ_ q7 q5=>gx eS 1 q7<|gA q5 NX λx5 q8 q5=>gq Af 3 [x5]<|oB q5 λ_ q9 q5=>gp Af 3 q9<|gN bl1 q5
 obtain rfl:=nR bl1 q5;let x2:=s1.2;obtain rfl:=AnO q1;exact AnO hm▸gE
def Oz (a0:Bool):Option g_api_Item:=if a0=true then some (⟨1,([255]:List UInt8),[]⟩:g_api_Item)else some (⟨1,([0]:List UInt8),[]⟩:g_api_Item)
theorem Y4 {a0 r}(hm:Oz a0=some r):Sf prog 346 [.d (.t a0)] (ag (Af r)):=by
 refine sq ?_;intros;refine gi hm ?_ ?_<;>intro _ hm
 ·refine gq eB 1 [255] ?_;exact AnO hm▸gE
 refine gq eB 1 [0] ?_;exact AnO hm▸gE
def MW (a0:g_api_Cert):Option g_api_Item:=Ab (CA a0.Serial) λx1=>Ab (Hs a0.Issuer) λx2=>Ab (Hs a0.Subject) λx3=>Ab (CA (w64 (a0.Key.toNat:Int))) λx4=>Ab (Ge a0.Names) λx5=>Ab (CA a0.From) λx6=>Ab (CA a0.Until) λx7=>Ab (Oz a0.Ca) λx8=>Ab (CA a0.Depth) λx9=>Ab (Ge a0.Permit) λx10=>Ab (Hm ([x1,x2,x3,x4,x5,x6,x7,x8,x9,x10]:List g_api_Item)) λx11=>some x11
theorem AaP {a0 r}(hm:MW a0=some r):Sf prog 290 [ag (Ac a0)] (ag (Af r)):=by
 refine sq ?_;intros;refine gA hm EH λx1 q1 hm=>gA hm NX λx2 q2 hm=>gA hm NX λx3 q3 hm=>gA hm EH λx4 q4 hm=>gA hm QD λx5 q5 hm=>gA hm EH λx6 q6 hm=>gA hm EH λx7 q7 hm=>gA hm Y4 λx8 q8 hm=>gA hm EH λx9 q9 hm=> ?_;refine gA hm QD λx10 q10 hm=>gq Af 3 [x1,x2,x3,x4,x5,x6,x7,x8,x9,x10]<|gA hm Mz λ_ q11 hm=> ?_;exact AnO hm▸gE
def JR (a0:List g_api_Item):Option g_api_Item:=Ab (app 56 ([]:List g_api_Item) a0) λx1=>some (⟨48,[],x1⟩:g_api_Item)
theorem W9 {a0 r}(hm:JR a0=some r):Sp prog 221 [sl Af a0] [] 0 (is (.agg (List.set (((Af r)).map dv) 2 (.ow 0))) [.row 0 3 _ Af r.L] 1):=by
 refine sq ?_;intros;refine Sa (k:=3) Af ([]:List g_api_Item) (λ_=>rfl)<|oB hm λ_ q1 hm=>gp Af 3 q1 ?_;exact AnO hm▸gE
def BW (a0:g_api_Cert)(s1:Int×(List g_api_Item)):Option ((Int×(List g_api_Item))⊕((List g_api_Item))):=if(decide (s1.1<(a0.Proms.length:Int)))=true then Ab (idx a0.Proms s1.1) λx4=>Ab (CA x4.Log) λx5=>Ab (CA x4.At) λx6=>Ab (JR ([x5,x6]:List g_api_Item)) λx7=>Ab (IC x4.Leaf.1 x4.Leaf.2) λx8=>Ab (app 56 x7.L x8) λx9=>Ab (IC x4.Sig.E x4.Sig.S) λx10=>Ab (app 56 x9 x10) λx11=>Ab (app 56 s1.2 ([(⟨x7.Tag,x7.B,x11⟩:g_api_Item)]:List g_api_Item)) λx12=>some (.inl ((w64 (s1.1+1)),x12))else some (.inr s1.2)
def I8 (a0:g_api_Cert):Option g_api_Item:=Ab (Ab (iter (BW a0) AY (0,([]:List g_api_Item))) λx2=>some x2) λx1=>Ab (MW a0) λx13=>Ab (Hm ([x13,(⟨48,[],x1⟩:g_api_Item)]:List g_api_Item)) λx14=>some x14
theorem YX {a0 r}(hm:I8 a0=some r):Sf prog 222 [ag (Ac a0)] (ag (Af r)):=by
 refine sq ?_;intros;unfold I8 at hm;obtain⟨x1,q1,hm⟩:=Ag hm;refine oB q1 λx2 q2 q1=>Agz 0 Af 3 2 3<|gI q2 (λ(p_0,p_1)=>⟨[(1,.pb 0 0),(2,.pb 1 0),(3,.pb 2 0),(4,.d (.i p_0))],[(0,.row 3 3 _ Af p_1),(1,.box 2 [.d (.i 48),sl eB [],.ow 3] 192),(2,.box 1 [.d (.i 0),sl eB [],sl Af []] 192),(3,.box 0 [.d (.i a0.Serial),.d (.s a0.Issuer),.d (.s a0.Subject),.d (.u a0.Key),sl eS a0.Names,.d (.i a0.From),.d (.i a0.Until),.d (.t a0.Ca),.d (.i a0.Depth),sl eS a0.Permit,sl Ad a0.Proms,.d (.u a0.Sig.E),.d (.u a0.Sig.S)] 59)],[],4⟩) λs1 _ Jl q5 bl1=>gi q5 ?_ ?_<;>intro _ q5
 ·refine oB q5 λ_ q7 q5=>gx Ad 6 q7<|gA q5 EH λx5 q8 q5=>gA q5 EH λx6 q9 q5=>gq Af 3 [x5,x6]<|gD q5 W9 λx7 q10 q5=>gD q5 PJ λ_ q11 q5=>oB q5 λ_ q12 q5=>gp Af 3 q12<|gD q5 PJ λ_ q13 q5=>oB q5 λx11 q14 q5=>gp Af 3 q14 ?_;exact Yo (k:=3) Af ([(⟨x7.Tag,x7.B,x11⟩:g_api_Item)]:List g_api_Item) (λ_=>rfl)<|oB q5 λ_ q15 q5=>gp Af 3 q15<|gN bl1 q5
 obtain rfl:=nR bl1 q5;let x2:=s1.2;obtain rfl:=AnO q1;let x1:=x2;refine gA hm AaP λx13 q16 hm=>Yo (k:=3) Af ([x13,(⟨48,[],x1⟩:g_api_Item)]:List g_api_Item) (λ_=>rfl)<|gA hm Mz λ_ q17 hm=> ?_;exact AnO hm▸gE
def JL (a0:g_api_Cert):Option g_api_Item:=Ab (I8 a0) λx1=>Ab (IC a0.Sig.E a0.Sig.S) λx2=>Ab (Hm x2) λx3=>Ab (Hm ([x1,x3]:List g_api_Item)) λx4=>some x4
theorem W0 {a0 r}(hm:JL a0=some r):Sf prog 136 [ag (Ac a0)] (ag (Af r)):=by
 refine sq ?_;intros;refine gA hm YX λx1 q1 hm=>gD hm PJ λ_ q2 hm=>gD hm Mz λx3 q3 hm=>gq Af 3 [x1,x3]<|gA hm Mz λ_ q4 hm=> ?_;exact AnO hm▸gE
def JM (a0:g_api_Cert):Option Int:=Ab (Lc a0) λx1=>if(!x1)=true then some 1 else Ab (JL a0) λx2=>Ab (M4 x2) λx3=>if((x3.2 !=0)||(decide ((x3.1.length:Int)>2048)))=true then some 2 else some 0
theorem W1 {a0 r}(hm:JM a0=some r):Sf prog 53 [ag (Ac a0)] (.d (.i r)):=by
 refine sq ?_;intros;refine gA hm YW λ_ q1 hm=>gi hm ?_ ?_<;>intro _ hm
 ·exact AnO hm▸gE
 refine gA hm W0 λ_ q2 hm=>gD hm AaQ λ_ q3 hm=>gi hm ?_ ?_<;>intro _ hm
 ·exact AnO hm▸gE
 exact AnO hm▸gE
def IL (a0:Int):Option Bool:=bnd (((decide (a0>=0))&&(decide (a0<=1099511627776)))) λx1=>some x1
theorem Pj {a0 r}(hm:IL a0=some r):Sf prog 54 [.d (.i a0)] (.d (.t r)):=by
 refine sq ?_;intros;refine bE hm ?_;intro _ hm;exact AnO hm▸gE
def M6 (a0:UInt64)(a1:UInt64)(a2:UInt64):Option UInt64:=if(decide ((a0.toNat:Int)>=((a2-a1).toNat:Int)))=true then some (a0-(a2-a1))else some (a0+a1)
theorem T3 {a0 a1 a2 r}(hm:M6 a0 a1 a2=some r):Sf prog 291 [.d (.u a0),.d (.u a1),.d (.u a2)] (.d (.u r)):=by
 refine sq ?_;intros;refine gi hm ?_ ?_<;>intro _ hm
 ·exact AnO hm▸gE
 exact AnO hm▸gE
def DM (a0:UInt64)(a1:UInt64)(a2:UInt64)(s1:UInt64×Int):Option ((UInt64×Int)⊕(UInt64)):=if(decide (s1.2>=0))=true then Ab (Ab (M6 s1.1 s1.1 a2) λx5=>if((((DL (a1%a2) ((toU s1.2).toNat))&&&1).toNat:Int)==1)=true then Ab (M6 x5 (a0%a2) a2) λx6=>some x6 else some x5) λx4=>some (.inl (x4,(w64 (s1.2-1))))else some (.inr s1.1)
def ET (a0:UInt64)(a1:UInt64)(a2:UInt64):Option UInt64:=if a2≠0 then if a2≠0 then Ab (Ab (iter (DM a0 a1 a2) AY (0,63)) λx2=>some x2) λx1=>some x1 else none else none
theorem MA {a0 a1 a2 r}(hm:ET a0 a1 a2=some r):Sf prog 224 [.d (.u a0),.d (.u a1),.d (.u a2)] (.d (.u r)):=by
 refine sq λD0 As u4 m0 hd=> ?_;unfold ET at hm;obtain⟨q1,hm⟩:=A2 hm;refine AcV (d:= .u a2) (r:= .u (a0%a2)) (λh=>q1) ?_;obtain⟨q2,hm⟩:=A2 hm;refine AcV (d:= .u a2) (r:= .u (a1%a2)) (λh=>q2) ?_;obtain⟨x1,q3,hm⟩:=Ag hm;refine oB q3 λx2 q4 q3=>gI q4 (λ(p_0,p_1)=>⟨[(0,.d (.u (a0%a2))),(1,.d (.u (a1%a2))),(2,.d (.u a2)),(7,.d (.u p_0)),(8,.d (.i p_1))],[],[],0⟩) λs1 _ Jl q7 bl1=>gi q7 ?_ ?_<;>intro _ q7
 ·refine oB q7 λx4 q9 q7=>gjU 1 (λ(_:Unit)=>⟨[(0,.d (.u (a0%a2))),(1,.d (.u (a1%a2))),(2,.d (.u a2)),(7,.d (.u x4)),(8,.d (.i s1.2))],[],[],0⟩) (λ_=>True) (λJp bk3=> ?_) λ_ _=> ?_
  ·refine gA q9 T3 λ_ q10 q9=>gi q9 ?_ ?_<;>intro _ q9
   ·refine gA q9 T3 λ_ q11 q9=> ?_;obtain rfl:=AnO q9;exact gb bk3 hd () trivial
   obtain rfl:=AnO q9;exact gb bk3 hd () trivial
  exact gN bl1 q7
 obtain rfl:=nR bl1 q7;let x2:=s1.1;obtain rfl:=AnO q3;exact AnO hm▸gE
def DN (a0:UInt64)(a1:UInt64)(a2:UInt64)(s1:UInt64×Int):Option ((UInt64×Int)⊕(UInt64)):=if(decide (s1.2>=0))=true then Ab (Ab (ET s1.1 s1.1 a2) λx5=>if((((DL a1 ((toU s1.2).toNat))&&&1).toNat:Int)==1)=true then Ab (ET x5 a0 a2) λx6=>some x6 else some x5) λx4=>some (.inl (x4,(w64 (s1.2-1))))else some (.inr s1.1)
def EU (a0:UInt64)(a1:UInt64)(a2:UInt64):Option UInt64:=Ab (Ab (iter (DN a0 a1 a2) AY (1,63)) λx2=>some x2) λx1=>some x1
theorem MB {a0 a1 a2 r}(hm:EU a0 a1 a2=some r):Sf prog 137 [.d (.u a0),.d (.u a1),.d (.u a2)] (.d (.u r)):=by
 refine sq λD0 As u4 m0 hd=> ?_;unfold EU at hm;obtain⟨x1,q1,hm⟩:=Ag hm;refine oB q1 λx2 q2 q1=>gI q2 (λ(p_0,p_1)=>⟨[(0,.d (.u a0)),(1,.d (.u a1)),(2,.d (.u a2)),(7,.d (.u p_0)),(8,.d (.i p_1))],[],[],0⟩) λs1 _ Jl q5 bl1=>gi q5 ?_ ?_<;>intro _ q5
 ·refine oB q5 λx4 q7 q5=>gjU 1 (λ(_:Unit)=>⟨[(0,.d (.u a0)),(1,.d (.u a1)),(2,.d (.u a2)),(7,.d (.u x4)),(8,.d (.i s1.2))],[],[],0⟩) (λ_=>True) (λJp bk3=> ?_) λ_ _=> ?_
  ·refine gA q7 MA λ_ q8 q7=>gi q7 ?_ ?_<;>intro _ q7
   ·refine gA q7 MA λ_ q9 q7=> ?_;obtain rfl:=AnO q7;exact gb bk3 hd () trivial
   obtain rfl:=AnO q7;exact gb bk3 hd () trivial
  exact gN bl1 q5
 obtain rfl:=nR bl1 q5;let x2:=s1.1;obtain rfl:=AnO q1;exact AnO hm▸gE
def IE (a0:UInt64):Option Bool:=Ab (gu ((decide ((a0.toNat:Int)>0))&&(decide ((a0.toNat:Int)<2305843009213691579))) (EU a0 1152921504606845789 2305843009213691579)) λx1=>bnd ((((decide ((a0.toNat:Int)>0))&&(decide ((a0.toNat:Int)<2305843009213691579)))&&((x1.toNat:Int)==1))) λx2=>some x2
theorem V3 {a0 r}(hm:IE a0=some r):Sf prog 55 [.d (.u a0)] (.d (.t r)):=by
 refine sq ?_;intros;refine oB hm λ_ q1 hm=>gcH q1 MB<|bE hm ?_;intro _ hm;exact AnO hm▸gE
def Kp (a0:Int):Option Bool:=bnd (((decide (a0>=0))&&(decide (a0<=1099511627776)))) λx1=>some x1
theorem TW {a0 r}(hm:Kp a0=some r):Sf prog 271 [.d (.i a0)] (.d (.t r)):=by
 refine sq ?_;intros;refine bE hm ?_;intro _ hm;exact AnO hm▸gE
def Kr (a0:UInt64)(a1:UInt64):Option UInt64:=Ab (ET a0 a1 2305843009213691579) λx1=>some x1
theorem AaT {a0 a1 r}(hm:Kr a0 a1=some r):Sf prog 325 [.d (.u a0),.d (.u a1)] (.d (.u r)):=by
 refine sq ?_;intros;refine gA hm MA λ_ q1 hm=> ?_;exact AnO hm▸gE
def Ht (a0:UInt64):Option UInt64:=Ab (EU 4 a0 2305843009213691579) λx1=>some x1
theorem Y5 {a0 r}(hm:Ht a0=some r):Sf prog 326 [.d (.u a0)] (.d (.u r)):=by
 refine sq ?_;intros;refine gA hm MB λ_ q1 hm=> ?_;exact AnO hm▸gE
def Kq (a0:UInt64)(a1:UInt64):Option UInt64:=Ab (EU a0 a1 2305843009213691579) λx1=>some x1
theorem AaS {a0 a1 r}(hm:Kq a0 a1=some r):Sf prog 327 [.d (.u a0),.d (.u a1)] (.d (.u r)):=by
 refine sq ?_;intros;refine gA hm MB λ_ q1 hm=> ?_;exact AnO hm▸gE
def Js (s1:UInt64×Int×(List UInt8)):Option ((UInt64×Int×(List UInt8))⊕((List UInt8))):=if(decide (s1.2.1>=0))=true then Ab (idx s1.2.2 s1.2.1) λx4=>bnd (s1.2.2.set s1.2.1.toNat (toB ((s1.1%256).toNat:Int))) λx5=>some (.inl ((s1.1/256),(w64 (s1.2.1-1)),x5))else some (.inr s1.2.2)
def Dm (a0:UInt64):Option (List UInt8):=Ab (Ab (iter Js AY (a0,7,(List.replicate 8 (0:UInt8)))) λx2=>some x2) λx1=>some x1
theorem HG {a0 r}(hm:Dm a0=some r):Sp prog 329 [.d (.u a0)] [] 0 (is (.ow 0) [.row 0 1 _ eB r] 1):=by
 refine sq ?_;intros;unfold Dm at hm;refine gmks (k:=8) (xs:=(List.replicate 8 (0:UInt8))) eB (0:UInt8) (.b 0) 1 rfl ?_;obtain⟨x1,q1,hm⟩:=Ag hm;refine oB q1 λx2 q2 q1=>gI q2 (λ(p_0,p_1,p_2)=>⟨[(0,.d (.u p_0)),(3,.ow 0),(4,.d (.i p_1))],[(0,.row 0 1 _ eB p_2)],[],1⟩) λs1 _ Jl q5 bl1=>gi q5 ?_ ?_<;>intro _ q5
 ·refine oB q5 λ_ q7 q5=>Jk (E:=eB) (λ_=>q7)<|bE q5 ?_;intro _ q5;exact AhO (k:=1) (E:=eB) (toB ((s1.1%256).toNat:Int)) (λ_=>rfl) q7<|gN bl1 q5
 obtain rfl:=nR bl1 q5;let x2:=s1.2.2;obtain rfl:=AnO q1;exact AnO hm▸gE
def Lh (a0:UInt64)(a1:UInt64)(a2:UInt64):Option UInt64:=if(decide ((a0.toNat:Int)>=((a2-a1).toNat:Int)))=true then some (a0-(a2-a1))else some (a0+a1)
theorem Sq {a0 a1 a2 r}(hm:Lh a0 a1 a2=some r):Sf prog 388 [.d (.u a0),.d (.u a1),.d (.u a2)] (.d (.u r)):=by
 refine sq ?_;intros;refine gi hm ?_ ?_<;>intro _ hm
 ·exact AnO hm▸gE
 exact AnO hm▸gE
def GM (a1:UInt64)(s1:UInt64×Int):Option ((UInt64×Int)⊕(UInt64)):=if(decide (s1.2<61))=true then Ab (Lh s1.1 s1.1 a1) λx4=>some (.inl (x4,(w64 (s1.2+1))))else some (.inr s1.1)
def M8 (a0:UInt64×UInt64)(a1:UInt64):Option UInt64:=if((a1.toNat:Int)==0)=true then some 0 else if a1≠0 then Ab (Ab (iter (GM a1) AY ((a0.1%a1),0)) λx2=>some x2) λx1=>if a1≠0 then Ab (Lh x1 (a0.2%a1) a1) λx5=>some x5 else none else none
theorem AaV {a0 a1 r}(hm:M8 a0 a1=some r):Sf prog 366 [ag (Ao a0),.d (.u a1)] (.d (.u r)):=by
 refine sq ?_;intros;refine gi hm ?_ ?_<;>intro _ hm
 ·exact AnO hm▸gE
 obtain⟨q1,hm⟩:=A2 hm;refine AcV (d:= .u a1) (r:= .u (a0.1%a1)) (λh=>q1) ?_;obtain⟨x1,q2,hm⟩:=Ag hm;refine oB q2 λx2 q3 q2=>gI q3 (λ(p_0,p_1)=>⟨[(1,.d (.u a1)),(2,.pb 0 0),(5,.d (.u p_0)),(6,.d (.i p_1))],[(0,.box 0 [.d (.u a0.1),.d (.u a0.2)] 34)],[],1⟩) λs1 _ Jl q6 bl1=>gi q6 ?_ ?_<;>intro _ q6
 ·exact gA q6 Sq λ_ q8 q6=>gN bl1 q6
 obtain rfl:=nR bl1 q6;let x2:=s1.1;obtain rfl:=AnO q2;obtain⟨q9,hm⟩:=A2 hm;refine AcV (d:= .u a1) (r:= .u (a0.2%a1)) (λh=>q9)<|gA hm Sq λ_ q10 hm=> ?_;exact AnO hm▸gE
def JU (a0:List UInt8)(s1:(List UInt64)×Int)(s2:UInt64×UInt64×Int):Option ((UInt64×UInt64×Int)⊕(UInt64)):=if((decide (s2.2.2<(a0.length:Int)))&&(decide (s2.2.2<(w64 (s1.2+7)))))=true then Ab (idx a0 s2.2.2) λx7=>bnd ((s2.1+(s2.2.1*(toU (x7.toNat:Int))))) λx8=>some (.inl (x8,(s2.2.1*256),(w64 (s2.2.2+1))))else some (.inr s2.1)
def H5 (a0:List UInt8)(s1:(List UInt64)×Int):Option (((List UInt64)×Int)⊕((List UInt64))):=if(decide (s1.2<(a0.length:Int)))=true then Ab (Ab (iter (JU a0 s1) AY (0,1,s1.2)) λx5=>some x5) λx4=>Ab (app 8 s1.1 ([x4]:List UInt64)) λx9=>some (.inl (x9,(w64 (s1.2+7))))else some (.inr s1.1)
def LY (a0:List UInt8):Option (List UInt64):=Ab (Ab (iter (H5 a0) AY (([]:List UInt64),0)) λx2=>some x2) λx1=>some x1
theorem Adt {a0 r}(hm:LY a0=some r):Sp prog 397 [sl eB a0] [] 0 (is (.ow 0) [.row 0 1 _ eU r] 1):=by
 refine sq ?_;intros;unfold LY at hm;obtain⟨x1,q1,hm⟩:=Ag hm;refine oB q1 λx2 q2 q1=>U4 0 eU 3 1<|gI q2 (λ(p_0,p_1)=>⟨[(0,sl eB a0),(3,.ow 0),(4,.d (.i p_1))],[(0,.row 0 1 _ eU p_0)],[],1⟩) λs1 _ Jl q5 bl1=>gi q5 ?_ ?_<;>intro _ q5
 ·obtain⟨x4,q7,q5⟩:=Ag q5;refine oB q7 λx5 q8 q7=>gI q8 (λ(p_0,p_1,p_2)=>⟨[(0,sl eB a0),(3,.ow 0),(4,.d (.i s1.2)),(5,.d (.u p_0)),(6,.d (.u p_1)),(7,.d (.i p_2))],[(0,.row 0 1 _ eU s1.1)],[],1⟩) λs2 _ Jl q11 bl2=>gi q11 ?_ ?_<;>intro _ q11
  ·refine oB q11 λ_ q13 q11=>gx eB 1 q13<|bE q11 ?_;intro _ q11;exact gN bl2 q11
  obtain rfl:=nR bl2 q11;let x5:=s2.1;obtain rfl:=AnO q7;let x4:=x5;exact gq eU 1 [x4]<|oB q5 λ_ q15 q5=>gp eU 1 q15<|gN bl1 q5
 obtain rfl:=nR bl1 q5;let x2:=s1.1;obtain rfl:=AnO q1;exact AnO hm▸gE
def De (a0:UInt64)(a1:UInt64):Option UInt64:=bnd ((((a0%2305843009213693951)+(a1%2305843009213693951))%2305843009213693951)) λx1=>some x1
theorem EI {a0 a1 r}(hm:De a0 a1=some r):Sf prog 398 [.d (.u a0),.d (.u a1)] (.d (.u r)):=by
 refine sq ?_;intros;refine bE hm ?_;intro _ hm;exact AnO hm▸gE
def Fb (s1:UInt64×UInt64×UInt64):Option ((UInt64×UInt64×UInt64)⊕(UInt64)):=if(decide ((s1.2.1.toNat:Int)>0))=true then Ab (if(((s1.2.1%2).toNat:Int)==1)=true then Ab (De s1.2.2 s1.1) λx5=>some x5 else some s1.2.2) λx4=>Ab (De s1.1 s1.1) λx6=>some (.inl (x6,(s1.2.1/2),x4))else some (.inr s1.2.2)
def Ku (a0:UInt64)(a1:UInt64):Option UInt64:=Ab (Ab (iter Fb AY ((a0%2305843009213693951),(a1%2305843009213693951),0)) λx2=>some x2) λx1=>some x1
theorem AaX {a0 a1 r}(hm:Ku a0 a1=some r):Sf prog 410 [.d (.u a0),.d (.u a1)] (.d (.u r)):=by
 refine sq λD0 As u4 m0 hd=> ?_;unfold Ku at hm;obtain⟨x1,q1,hm⟩:=Ag hm;refine oB q1 λx2 q2 q1=>gI q2 (λ(p_0,p_1,p_2)=>⟨[(0,.d (.u p_0)),(1,.d (.u p_1)),(5,.d (.u p_2))],[],[],0⟩) λs1 _ Jl q5 bl1=>gi q5 ?_ ?_<;>intro _ q5
 ·refine oB q5 λx4 q7 q5=>gj (λ(_:Unit)=>⟨[(0,.d (.u s1.1)),(1,.d (.u s1.2.1)),(5,.d (.u x4))],[],[],0⟩) (λ_=>True) (λJp bk3=> ?_) λ_ _=> ?_
  ·refine gi q7 ?_ ?_<;>intro _ q7
   ·refine gA q7 EI λ_ q8 q7=> ?_;obtain rfl:=AnO q7;exact gb bk3 hd () trivial
   obtain rfl:=AnO q7;exact gb bk3 hd () trivial
  exact gA q5 EI λ_ q9 q5=>gN bl1 q5
 obtain rfl:=nR bl1 q5;let x2:=s1.2.2;obtain rfl:=AnO q1;exact AnO hm▸gE
def Gf (a0:UInt64)(a1:Int)(s1:UInt64×Int):Option ((UInt64×Int)⊕(UInt64)):=if(decide (s1.2<a1))=true then Ab (Ku s1.1 a0) λx4=>some (.inl (x4,(w64 (s1.2+1))))else some (.inr s1.1)
def C1 (a0:UInt64)(a1:Int):Option UInt64:=Ab (Ab (iter (Gf a0 a1) AY (1,0)) λx2=>some x2) λx1=>some x1
theorem Pm {a0 a1 r}(hm:C1 a0 a1=some r):Sf prog 409 [.d (.u a0),.d (.i a1)] (.d (.u r)):=by
 refine sq ?_;intros;unfold C1 at hm;obtain⟨x1,q1,hm⟩:=Ag hm;refine oB q1 λx2 q2 q1=>gI q2 (λ(p_0,p_1)=>⟨[(0,.d (.u a0)),(1,.d (.i a1)),(5,.d (.u p_0)),(6,.d (.i p_1))],[],[],0⟩) λs1 _ Jl q5 bl1=>gi q5 ?_ ?_<;>intro _ q5
 ·exact gA q5 AaX λ_ q7 q5=>gN bl1 q5
 obtain rfl:=nR bl1 q5;let x2:=s1.1;obtain rfl:=AnO q1;exact AnO hm▸gE
def CM (a0:UInt64×UInt64×UInt64)(a1:Int)(s1:Int×UInt64×UInt64×UInt64):Option ((Int×UInt64×UInt64×UInt64)⊕(UInt64×UInt64×UInt64)):=if(decide (s1.1<3))=true then Ab (C1 (toU (w64 ((w64 ((w64 (3*a1))+s1.1))+1))) 3) λx4=>Ab (De x4 7) λx5=>Ab (idx [a0.1,a0.2.1,a0.2.2] s1.1) λx6=>Ab (De x6 x5) λx7=>Ab (C1 x7 17) λx8=>Ab (idx [s1.2.1,s1.2.2.1,s1.2.2.2] s1.1) λx9=>bnd (if s1.1=0 then x8 else s1.2.1) λx10=>bnd (if s1.1=1 then x8 else s1.2.2.1) λx11=>bnd (if s1.1=2 then x8 else s1.2.2.2) λx12=>some (.inl ((w64 (s1.1+1)),x10,x11,x12))else some (.inr (s1.2.1,s1.2.2.1,s1.2.2.2))
def CL (x14:UInt64)(s2:Int×UInt64×UInt64×UInt64):Option ((Int×UInt64×UInt64×UInt64)⊕(UInt64×UInt64×UInt64)):=if(decide (s2.1<3))=true then Ab (idx [s2.2.1,s2.2.2.1,s2.2.2.2] s2.1) λx18=>Ab (De x18 x14) λx19=>Ab (idx [s2.2.1,s2.2.2.1,s2.2.2.2] s2.1) λx20=>bnd (if s2.1=0 then x19 else s2.2.1) λx21=>bnd (if s2.1=1 then x19 else s2.2.2.1) λx22=>bnd (if s2.1=2 then x19 else s2.2.2.2) λx23=>some (.inl ((w64 (s2.1+1)),x21,x22,x23))else some (.inr (s2.2.1,s2.2.2.1,s2.2.2.2))
def H4 (a0:UInt64×UInt64×UInt64)(a1:Int):Option (UInt64×UInt64×UInt64):=Ab (Ab (iter (CM a0 a1) AY (0,0,0,0)) λx2=>some (x2.1,x2.2.1,x2.2.2)) λx1=>Ab (De x1.1 x1.2.1) λx13=>Ab (De x13 x1.2.2) λx14=>Ab (Ab (iter (CL x14) AY (0,x1.1,x1.2.1,x1.2.2)) λx16=>some (x16.1,x16.2.1,x16.2.2)) λx15=>some x15
theorem Xb {a0 a1 r}(hm:H4 a0 a1=some r):Sf prog 406 [ag (Sg a0),.d (.i a1)] (ag (Sg r)):=by
 refine sq ?_;intros;unfold H4 at hm;obtain⟨x1,q1,hm⟩:=Ag hm;refine oB q1 λx2 q2 q1=>gI q2 (λ(p_0,p_1,p_2,p_3)=>⟨[(1,.d (.i a1)),(2,.pb 0 0),(4,.pb 1 0),(5,.pb 2 0),(6,.d (.i p_0))],[(0,.box 2 [.d (.u p_1),.d (.u p_2),.d (.u p_3)] 319),(1,.box 1 [.d (.u 0),.d (.u 0),.d (.u 0)] 319),(2,.box 0 [.d (.u a0.1),.d (.u a0.2.1),.d (.u a0.2.2)] 319)],[],3⟩) λs1 _ Jl q5 bl1=>gi q5 ?_ ?_<;>intro _ q5
 ·refine gA q5 Pm λ_ q7 q5=>gA q5 EI λ_ q8 q5=>oB q5 λ_ q9 q5=>Sc (λ_=>q9)<|gldA D.u (λ_=>q9)<|gA q5 EI λ_ q10 q5=>gA q5 Pm λx8 q11 q5=>oB q5 λ_ q12 q5=>Sc (λ_=>q12)<|bE q5 ?_;intro _ q5;refine bE q5 ?_;intro _ q5;refine bE q5 ?_;intro _ q5;exact AkS D.u x8 q12<|gN bl1 q5
 obtain rfl:=nR bl1 q5;let x2:=(s1.2.1,s1.2.2.1,s1.2.2.2);obtain rfl:=AnO q1;refine gA hm EI λ_ q16 hm=>gA hm EI λx14 q17 hm=> ?_;obtain⟨x15,q18,hm⟩:=Ag hm;refine oB q18 λx16 q19 q18=>gI q19 (λ(p_0,p_1,p_2,p_3)=>⟨[(4,.pb 1 0),(5,.pb 2 0),(8,.d (.u x14)),(9,.d (.i p_0)),(2,.pb 0 0)],[(0,.box 2 [.d (.u p_1),.d (.u p_2),.d (.u p_3)] 319),(1,.box 1 [.d (.u 0),.d (.u 0),.d (.u 0)] 319),(2,.box 0 [.d (.u a0.1),.d (.u a0.2.1),.d (.u a0.2.2)] 319)],[],3⟩) λs2 _ Jl q22 bl2=>gi q22 ?_ ?_<;>intro _ q22
 ·refine oB q22 λ_ q24 q22=>Sc (λ_=>q24)<|gldA D.u (λ_=>q24)<|gA q22 EI λx19 q25 q22=>oB q22 λ_ q26 q22=>Sc (λ_=>q26)<|bE q22 ?_;intro _ q22;refine bE q22 ?_;intro _ q22;refine bE q22 ?_;intro _ q22;exact AkS D.u x19 q26<|gN bl2 q22
 obtain rfl:=nR bl2 q22;let x16:=(s2.2.1,s2.2.2.1,s2.2.2.2);obtain rfl:=AnO q18;exact AnO hm▸gE
def IS (s1:Int×UInt64×UInt64×UInt64):Option ((Int×UInt64×UInt64×UInt64)⊕(UInt64×UInt64×UInt64)):=if(decide (s1.1<8))=true then Ab (H4 s1.2 s1.1) λx4=>some (.inl ((w64 (s1.1+1)),x4.1,x4.2.1,x4.2.2))else some (.inr (s1.2.1,s1.2.2.1,s1.2.2.2))
def Ks (a0:UInt64×UInt64×UInt64):Option (UInt64×UInt64×UInt64):=Ab (Ab (iter IS AY (0,a0.1,a0.2.1,a0.2.2)) λx2=>some (x2.1,x2.2.1,x2.2.2)) λx1=>some x1
theorem AaW {a0 r}(hm:Ks a0=some r):Sf prog 399 [ag (Sg a0)] (ag (Sg r)):=by
 refine sq ?_;intros;unfold Ks at hm;obtain⟨x1,q1,hm⟩:=Ag hm;refine oB q1 λx2 q2 q1=>gI q2 (λ(p_0,p_1,p_2,p_3)=>⟨[(1,.pb 0 0),(2,.pb 1 0),(3,.d (.i p_0))],[(0,.box 1 [.d (.u 0),.d (.u 0),.d (.u 0)] 319),(1,.box 0 [.d (.u p_1),.d (.u p_2),.d (.u p_3)] 319)],[],2⟩) λs1 _ Jl q5 bl1=>gi q5 ?_ ?_<;>intro _ q5
 ·exact gA q5 Xb λ_ q7 q5=>gN bl1 q5
 obtain rfl:=nR bl1 q5;let x2:=(s1.2.1,s1.2.2.1,s1.2.2.2);obtain rfl:=AnO q1;exact AnO hm▸gE
def Cp (x1:List UInt64)(s1:Int×UInt64×UInt64×UInt64):Option ((Int×UInt64×UInt64×UInt64)⊕(UInt64×UInt64×UInt64)):=if((decide (s1.1<(x1.length:Int)))||(s1.1==0))=true then Ab (if(decide (s1.1<(x1.length:Int)))=true then Ab (idx x1 s1.1) λx6=>Ab (De s1.2.1 x6) λx7=>some x7 else some s1.2.1) λx5=>Ab (if(decide ((w64 (s1.1+1))<(x1.length:Int)))=true then Ab (idx x1 (w64 (s1.1+1))) λx9=>Ab (De s1.2.2.1 x9) λx10=>some x10 else some s1.2.2.1) λx8=>Ab (Ks (x5,x8,s1.2.2.2)) λx11=>some (.inl ((w64 (s1.1+2)),x11.1,x11.2.1,x11.2.2))else some (.inr (s1.2.1,s1.2.2.1,s1.2.2.2))
def M7 (a0:List UInt8):Option (UInt64×UInt64):=Ab (LY a0) λx1=>Ab (Ab (iter (Cp x1) AY (0,0,0,(toU (a0.length:Int)))) λx3=>some (x3.1,x3.2.1,x3.2.2)) λx2=>some (x2.1,x2.2.1)
theorem AaU {a0 r}(hm:M7 a0=some r):Sf prog 389 [sl eB a0] (ag (Ao r)):=by
 refine sq λD0 As u4 m0 hd=>gD hm Adt λx1 q1 hm=> ?_;obtain⟨x2,q2,hm⟩:=Ag hm;refine oB q2 λx3 q3 q2=>gI q3 (λ(p_0,p_1,p_2,p_3)=>⟨[(2,.pb 0 0),(3,.ow 1),(4,.pb 2 0),(5,.d (.i p_0))],[(0,.box 2 [.d (.u p_1),.d (.u p_2),.d (.u p_3)] 319),(1,.row 1 1 _ eU x1),(2,.box 0 [.d (.u 0),.d (.u 0)] 34)],[],3⟩) λs1 _ Jl q6 bl1=>gi q6 ?_ ?_<;>intro _ q6
 ·refine oB q6 λx5 q8 q6=>gj (λ(_:Unit)=>⟨[(2,.pb 0 0),(3,.ow 1),(4,.pb 2 0),(5,.d (.i s1.1))],[(0,.box 2 [.d (.u x5),.d (.u s1.2.2.1),.d (.u s1.2.2.2)] 319),(1,.row 1 1 _ eU x1),(2,.box 0 [.d (.u 0),.d (.u 0)] 34)],[],3⟩) (λ_=>True) (λJp bk3=> ?_) λ_ _=> ?_
  ·refine gi q8 ?_ ?_<;>intro _ q8
   ·refine oB q8 λ_ q9 q8=>Jk (E:=eU) (λ_=>q9)<|AaD (k:=1) (fo:=0) (nn:=1) (ag:=false) (E:=eU) (λ_=>rfl) (λ_=>q9)<|gA q8 EI λ_ q10 q8=> ?_;obtain rfl:=AnO q8;exact gb bk3 hd () trivial
   obtain rfl:=AnO q8;exact gb bk3 hd () trivial
  refine oB q6 λx8 q11 q6=>gj (λ(_:Unit)=>⟨[(2,.pb 0 0),(3,.ow 1),(4,.pb 2 0),(5,.d (.i s1.1))],[(0,.box 2 [.d (.u x5),.d (.u x8),.d (.u s1.2.2.2)] 319),(1,.row 1 1 _ eU x1),(2,.box 0 [.d (.u 0),.d (.u 0)] 34)],[],3⟩) (λ_=>True) (λJp bk4=> ?_) λ_ _=> ?_
  ·refine gi q11 ?_ ?_<;>intro _ q11
   ·refine oB q11 λ_ q12 q11=>Jk (E:=eU) (λ_=>q12)<|AaD (k:=1) (fo:=0) (nn:=1) (ag:=false) (E:=eU) (λ_=>rfl) (λ_=>q12)<|gA q11 EI λ_ q13 q11=> ?_;obtain rfl:=AnO q11;exact gb bk4 hd () trivial
   obtain rfl:=AnO q11;exact gb bk4 hd () trivial
  exact gA q6 AaW λ_ q14 q6=>gN bl1 q6
 obtain rfl:=nR bl1 q6;let x3:=(s1.2.1,s1.2.2.1,s1.2.2.2);obtain rfl:=AnO q2;exact AnO hm▸gE
def G8 (a0:UInt64)(s1:(List UInt8)×Int):Option (((List UInt8)×Int)⊕((List UInt8))):=if(decide (s1.2>=0))=true then Ab (app 1 s1.1 ([(toB ((DL a0 ((toU (w64 (8*s1.2))).toNat)).toNat:Int))]:List UInt8)) λx4=>some (.inl (x4,(w64 (s1.2-1))))else some (.inr s1.1)
def EV (a0:UInt64):Option (List UInt8):=Ab (Ab (iter (G8 a0) AY (([]:List UInt8),7)) λx2=>some x2) λx1=>some x1
theorem MC {a0 r}(hm:EV a0=some r):Sp prog 368 [.d (.u a0)] [] 0 (is (.ow 0) [.row 0 1 _ eB r] 1):=by
 refine sq ?_;intros;unfold EV at hm;obtain⟨x1,q1,hm⟩:=Ag hm;refine oB q1 λx2 q2 q1=>U4 0 eB 3 1<|gI q2 (λ(p_0,p_1)=>⟨[(0,.d (.u a0)),(3,.ow 0),(4,.d (.i p_1))],[(0,.row 0 1 _ eB p_0)],[],1⟩) λs1 _ Jl q5 bl1=>gi q5 ?_ ?_<;>intro _ q5
 ·exact gq eB 1 [(toB ((DL a0 ((toU (w64 (8*s1.2))).toNat)).toNat:Int))]<|oB q5 λ_ q7 q5=>gp eB 1 q7<|gN bl1 q5
 obtain rfl:=nR bl1 q5;let x2:=s1.1;obtain rfl:=AnO q1;exact AnO hm▸gE
def G9 (a1:List (List UInt8))(s1:(List UInt8)×Int):Option (((List UInt8)×Int)⊕((List UInt8))):=if(decide (s1.2<(a1.length:Int)))=true then Ab (idx a1 s1.2) λx5=>Ab (EV (toU (x5.length:Int))) λx6=>Ab (cut x6 4 (x6.length:Int)) λx7=>Ab (app 1 s1.1 x7) λx8=>Ab (idx a1 s1.2) λx9=>Ab (app 1 x8 x9) λx10=>some (.inl (x10,(w64 (s1.2+1))))else some (.inr s1.1)
def M9 (a0:ByteArray)(a1:List (List UInt8)):Option (List UInt8):=Ab (app 1 ([(toB (a0.size:Int))]:List UInt8) a0.data.toList) λx1=>Ab (Ab (iter (G9 a1) AY (x1,0)) λx3=>some x3) λx2=>some x2
theorem Xc {a0 a1 r}(hm:M9 a0 a1=some r):Sp prog 390 [.d (.s a0),sl (eL eB) a1] [] 0 (is (.ow 0) [.row 0 1 _ eB r] 1):=by
 refine sq ?_;intros;refine Sa (k:=1) eB ([(toB (a0.size:Int))]:List UInt8) (λ_=>rfl)<|oB hm λ_ q1 hm=>gapS q1 ?_;obtain⟨x2,q2,hm⟩:=Ag hm;refine oB q2 λx3 q3 q2=>gI q3 (λ(p_0,p_1)=>⟨[(1,sl (eL eB) a1),(5,.ow 0),(6,.d (.i p_1))],[(0,.row 0 1 _ eB p_0)],[],1⟩) λs1 _ Jl q6 bl1=>gi q6 ?_ ?_<;>intro _ q6
 ·exact oB q6 λ_ q8 q6=>gx (eL eB) 1 q8<|gD q6 MC λ_ q9 q6=>oB q6 λ_ q10 q6=>gcutF (k:=1) (E:=eB) (λ_=>rfl) q10<|oB q6 λ_ q11 q6=>gp eB 1 q11<|oB q6 λ_ q12 q6=>gx (eL eB) 1 q12<|oB q6 λ_ q13 q6=>gp eB 1 q13<|gN bl1 q6
 obtain rfl:=nR bl1 q6;let x3:=s1.1;obtain rfl:=AnO q2;exact AnO hm▸gE
def IQ (a0:ByteArray)(a1:List (List UInt8)):Option (UInt64×UInt64):=Ab (M9 a0 a1) λx1=>Ab (M7 x1) λx2=>some x2
theorem VA {a0 a1 r}(hm:IQ a0 a1=some r):Sf prog 367 [.d (.s a0),sl (eL eB) a1] (ag (Ao r)):=by
 refine sq ?_;intros;refine gD hm Xc λ_ q1 hm=>gD hm AaU λ_ q2 hm=> ?_;exact AnO hm▸gE
def Du (a0:UInt64)(a1:UInt64)(a2:List UInt8):Option UInt64:=Ab (Dm a0) λx1=>Ab (Dm a1) λx2=>Ab (IQ (⟨#[115,105,103,110]⟩:ByteArray) ([x1,x2,a2]:List (List UInt8))) λx3=>Ab (M8 x3 1152921504606845789) λx4=>some x4
theorem RG {a0 a1 a2 r}(hm:Du a0 a1 a2=some r):Sf prog 328 [.d (.u a0),.d (.u a1),sl eB a2] (.d (.u r)):=by
 refine sq ?_;intros;refine gD hm HG λx1 q1 hm=>gD hm HG λx2 q2 hm=>Yo (k:=1) (eL eB) ([x1,x2,a2]:List (List UInt8)) (λ_=>rfl)<|gA hm VA λ_ q3 hm=>gA hm AaV λ_ q4 hm=> ?_;exact AnO hm▸gE
def JS (a0:UInt64)(a1:List UInt8)(a2:g_api_Sig):Option Int:=Ab (IE a0) λx1=>if(!x1)=true then some 1 else if((decide ((a2.E.toNat:Int)>=1152921504606845789))||(decide ((a2.S.toNat:Int)>=1152921504606845789)))=true then some 40 else Ab (Ht a2.S) λx2=>Ab (Kq a0 (1152921504606845789-a2.E)) λx3=>Ab (Kr x2 x3) λx4=>Ab (Du x4 a0 a1) λx5=>if((x5.toNat:Int) !=(a2.E.toNat:Int))=true then some 40 else some 0
theorem Xa {a0 a1 a2 r}(hm:JS a0 a1 a2=some r):Sf prog 272 [.d (.u a0),sl eB a1,ag (Jm a2)] (.d (.i r)):=by
 refine sq ?_;intros;refine gA hm V3 λ_ q1 hm=>gi hm ?_ ?_<;>intro _ hm
 ·exact AnO hm▸gE
 refine gi hm ?_ ?_<;>intro _ hm
 ·exact AnO hm▸gE
 refine gA hm Y5 λ_ q2 hm=>gA hm AaS λ_ q3 hm=>gA hm AaT λ_ q4 hm=>gA hm RG λ_ q5 hm=>gi hm ?_ ?_<;>intro _ hm
 ·exact AnO hm▸gE
 exact AnO hm▸gE
def JT (a0:UInt64×UInt64):Option (List UInt8):=Ab (EV a0.1) λx1=>Ab (EV a0.2) λx2=>Ab (app 1 x1 x2) λx3=>some x3
theorem Xd {a0 r}(hm:JT a0=some r):Sp prog 330 [ag (Ao a0)] [] 0 (is (.ow 0) [.row 0 1 _ eB r] 1):=by
 refine sq ?_;intros;refine gD hm MC λ_ q1 hm=>gD hm MC λ_ q2 hm=>oB hm λ_ q3 hm=>gp eB 1 q3 ?_;exact AnO hm▸gE
def Gc (a0:g_api_Head):Option (List UInt8):=Ab (Dm (toU a0.Log)) λx1=>Ab (app 1 ([104,101,97,100]:List UInt8) x1) λx2=>Ab (Dm (toU a0.Size)) λx3=>Ab (app 1 x2 x3) λx4=>Ab (JT a0.Root) λx5=>Ab (app 1 x4 x5) λx6=>Ab (Dm (toU a0.At)) λx7=>Ab (app 1 x6 x7) λx8=>some x8
theorem RE {a0 r}(hm:Gc a0=some r):Sp prog 273 [ag (Ae a0)] [] 0 (is (.ow 0) [.row 0 1 _ eB r] 1):=by
 refine sq ?_;intros;refine Sa (k:=1) eB ([104,101,97,100]:List UInt8) (λ_=>rfl)<|gD hm HG λ_ q1 hm=>oB hm λ_ q2 hm=>gp eB 1 q2<|gD hm HG λ_ q3 hm=>oB hm λ_ q4 hm=>gp eB 1 q4<|gD hm Xd λ_ q5 hm=>oB hm λ_ q6 hm=>gp eB 1 q6<|gD hm HG λ_ q7 hm=>oB hm λ_ q8 hm=>gp eB 1 q8 ?_;exact AnO hm▸gE
def Gd (a0:g_api_Key)(a1:g_api_Head):Option Int:=Ab (Kp a1.Log) λx1=>Ab (gu (!(!x1)) (Kp a1.At)) λx2=>if((((!x1)||(!x2))||(decide (a1.Size<0)))||(decide (a1.Size>256)))=true then some 1 else if(a1.Log !=a0.Log)=true then some 240 else Ab (Gc a1) λx3=>Ab (JS a0.Key x3 a1.Sig) λx4=>some x4
theorem RF {a0 a1 r}(hm:Gd a0 a1=some r):Sf prog 204 [ag (Ai a0),ag (Ae a1)] (.d (.i r)):=by
 refine sq ?_;intros;refine gA hm TW λ_ q1 hm=>oB hm λ_ q2 hm=>gcH q2 TW<|gi hm ?_ ?_<;>intro _ hm
 ·exact AnO hm▸gE
 refine gi hm ?_ ?_<;>intro _ hm
 ·exact AnO hm▸gE
 refine gD hm RE λ_ q3 hm=>gD hm Xa λ_ q4 hm=> ?_;exact AnO hm▸gE
def G5 (a0:g_api_Head)(a1:List g_api_Key)(s1:Int):Option ((Int)⊕((Unit)⊕Bool)):=if(decide (s1<(a1.length:Int)))=true then Ab (idx a1 s1) λx3=>if(x3.Log==a0.Log)=true then Ab (idx a1 s1) λx4=>Ab (Gd x4 a0) λx5=>some (.inr (.inr (x5==0)))else some (.inl (w64 (s1+1)))else some (.inr (.inl ()))
def HV (a0:g_api_Head)(a1:List g_api_Key):Option Bool:=Ab (iter (G5 a0 a1) AY 0) λx1=>match x1 with| .inr r=>some r| .inl y1=>some false
theorem QB {a0 a1 r}(hm:HV a0 a1=some r):Sf prog 121 [ag (Ae a0),sl Ai a1] (.d (.t r)):=by
 refine sq ?_;intros;refine oB hm λ_ q1 hm=>gI q1 (λp=>⟨[(1,sl Ai a1),(2,.pb 0 0),(5,.d (.i p))],[(0,.box 0 [.d (.i a0.Log),.d (.i a0.Size),.d (.u a0.Root.1),.d (.u a0.Root.2),.d (.i a0.At),.d (.u a0.Sig.E),.d (.u a0.Sig.S)] 38)],[],1⟩) λs1 _ Jl q4 bl1=>gi q4 ?_ ?_<;>intro _ q4
 ·refine oB q4 λ_ q6 q4=>gx Ai 3 q6<|gi q4 ?_ ?_<;>intro _ q4
  ·refine oB q4 λ_ q7 q4=>gx Ai 3 q7<|gA q4 RF λ_ q8 q4=> ?_;obtain rfl:=nR bl1 q4;exact AnO hm▸gE
  exact gN bl1 q4
 obtain rfl:=nR bl1 q4;exact AnO hm▸gE
def HU (a0:g_api_Head)(a1:g_api_Head):Option Bool:=if(a0.Log !=a1.Log)=true then some (decide (a0.Log<a1.Log))else if(a0.Size !=a1.Size)=true then some (decide (a0.Size<a1.Size))else if((a0.Root.1.toNat:Int) !=(a1.Root.1.toNat:Int))=true then bnd ((decide ((a0.Root.1.toNat:Int)<(a1.Root.1.toNat:Int)))) λx1=>some x1 else if((a0.Root.2.toNat:Int) !=(a1.Root.2.toNat:Int))=true then bnd ((decide ((a0.Root.2.toNat:Int)<(a1.Root.2.toNat:Int)))) λx2=>some x2 else some (decide (a0.At<a1.At))
theorem QA {a0 a1 r}(hm:HU a0 a1=some r):Sf prog 206 [ag (Ae a0),ag (Ae a1)] (.d (.t r)):=by
 refine sq ?_;intros;refine gi hm ?_ ?_<;>intro _ hm
 ·exact AnO hm▸gE
 refine gi hm ?_ ?_<;>intro _ hm
 ·exact AnO hm▸gE
 refine gi hm ?_ ?_<;>intro _ hm
 ·refine bE hm ?_;intro _ hm;exact AnO hm▸gE
 refine gi hm ?_ ?_<;>intro _ hm
 ·refine bE hm ?_;intro _ hm;exact AnO hm▸gE
 exact AnO hm▸gE
def BS (a0:g_api_Pool)(s1:Int):Option ((Int)⊕((Unit)⊕Bool)):=if(decide (s1<(a0.L.length:Int)))=true then Ab (idx a0.L (w64 (s1-1))) λx3=>Ab (idx a0.L s1) λx4=>Ab (HU x3 x4) λx5=>if(!x5)=true then some (.inr (.inr false))else some (.inl (w64 (s1+1)))else some (.inr (.inl ()))
def HW (a0:g_api_Pool):Option Bool:=Ab (iter (BS a0) AY 1) λx1=>match x1 with| .inr r=>some r| .inl y1=>some true
theorem TV {a0 r}(hm:HW a0=some r):Sf prog 138 [ag (Fh a0)] (.d (.t r)):=by
 refine sq ?_;intros;refine oB hm λ_ q1 hm=>gI q1 (λp=>⟨[(1,.pb 0 0),(3,.d (.i p))],[(0,.box 0 [sl Ae a0.L] 26)],[],1⟩) λs1 _ Jl q4 bl1=>gi q4 ?_ ?_<;>intro _ q4
 ·refine oB q4 λ_ q6 q4=>gx Ae 7 q6<|oB q4 λ_ q7 q4=>gx Ae 7 q7<|gA q4 QA λ_ q8 q4=>gi q4 ?_ ?_<;>intro _ q4
  ·obtain rfl:=nR bl1 q4;exact AnO hm▸gE
  exact gN bl1 q4
 obtain rfl:=nR bl1 q4;exact AnO hm▸gE
def G6 (a0:g_api_Pool)(a1:List g_api_Key)(s1:Int):Option ((Int)⊕((Unit)⊕Int)):=if(decide (s1<(a0.L.length:Int)))=true then Ab (idx a0.L s1) λx4=>Ab (HV x4 a1) λx5=>if(!x5)=true then some (.inr (.inr 40))else some (.inl (w64 (s1+1)))else some (.inr (.inl ()))
def HX (a0:g_api_Pool)(a1:List g_api_Key):Option Int:=if(decide ((a0.L.length:Int)>1024))=true then some 2 else Ab (HW a0) λx1=>if(!x1)=true then some 1 else Ab (iter (G6 a0 a1) AY 0) λx2=>match x2 with| .inr r=>some r| .inl y1=>some 0
theorem QC {a0 a1 r}(hm:HX a0 a1=some r):Sf prog 56 [ag (Fh a0),sl Ai a1] (.d (.i r)):=by
 refine sq ?_;intros;refine gi hm ?_ ?_<;>intro _ hm
 ·exact AnO hm▸gE
 refine gA hm TV λ_ q1 hm=>gi hm ?_ ?_<;>intro _ hm
 ·exact AnO hm▸gE
 refine oB hm λ_ q2 hm=>gI q2 (λp=>⟨[(1,sl Ai a1),(2,.pb 0 0),(5,.d (.i p))],[(0,.box 0 [sl Ae a0.L] 26)],[],1⟩) λs1 _ Jl q5 bl1=>gi q5 ?_ ?_<;>intro _ q5
 ·refine oB q5 λ_ q7 q5=>gx Ae 7 q7<|gA q5 QB λ_ q8 q5=>gi q5 ?_ ?_<;>intro _ q5
  ·obtain rfl:=nR bl1 q5;exact AnO hm▸gE
  exact gN bl1 q5
 obtain rfl:=nR bl1 q5;exact AnO hm▸gE
def G4 (a0:g_api_Client)(s1:Int):Option ((Int)⊕((Unit)⊕Int)):=if(decide (s1<(a0.Roots.length:Int)))=true then Ab (idx a0.Roots s1) λx4=>Ab (JM x4) λx5=>Ab (gu (!(x5 !=0)) (idx a0.Roots s1)) λx6=>if((x5 !=0)||(!x6.Ca))=true then some (.inr (.inr 1))else some (.inl (w64 (s1+1)))else some (.inr (.inl ()))
def CK (a0:g_api_Client)(s2:Int):Option ((Int)⊕((Unit)⊕Int)):=if(decide (s2<(a0.Logs.length:Int)))=true then Ab (idx a0.Logs s2) λx9=>Ab (IL x9.Log) λx10=>Ab (gu ((!(!x10))&&(decide (s2>0))) (idx a0.Logs (w64 (s2-1)))) λx11=>Ab (gu (!((!x10)||((decide (s2>0))&&(decide (x11.Log>=x9.Log))))) (IE x9.Key)) λx12=>Ab (gu (!(((!x10)||((decide (s2>0))&&(decide (x11.Log>=x9.Log))))||(!x12))) (IL x9.Delay)) λx13=>if((((!x10)||((decide (s2>0))&&(decide (x11.Log>=x9.Log))))||(!x12))||(!x13))=true then some (.inr (.inr 1))else some (.inl (w64 (s2+1)))else some (.inr (.inl ()))
def ES (a0:g_api_Client):Option Int:=
 Ab (JI a0.Who) λx1=>
 if((((((!x1)||(decide ((a0.Roots.length:Int)<1)))||(decide ((a0.Roots.length:Int)>8)))||(decide ((a0.Logs.length:Int)>16)))||(decide (a0.View<0)))||(decide (a0.View>1)))=true then
  some 1
 else
 Ab (iter (G4 a0) AY 0) λx2=>match x2 with
 | .inr r=>some r
 | .inl y1=>
 Ab (iter (CK a0) AY 0) λx7=>match x7 with
 | .inr r=>some r
 | .inl y3=>
 Ab (HX a0.Pool a0.Logs) λx14=>
 if(x14 !=0)=true then
  some x14
 else
 Ab (H2 a0.Cascade) λx15=>
 some x15
theorem JD {a0 r}(hm:ES a0=some r):Sf prog 21 [ag (A0 a0)] (.d (.i r)):=by
 refine sq ?_;intros;refine gA hm WX λ_ q1 hm=>gi hm ?_ ?_<;>intro _ hm
 ·exact AnO hm▸gE
 refine oB hm λ_ q2 hm=>gI q2 (λp=>⟨[(1,.pb 0 0),(3,.d (.i p))],[(0,.box 0 [.d (.s a0.Who),sl Ac a0.Roots,sl Ai a0.Logs,sl Ae a0.Pool.L,.d (.i a0.Cascade.Day),sl Ah a0.Cascade.Levels,.d (.i a0.View)] 31)],[],1⟩) λs1 _ Jl q5 bl1=>gi q5 ?_ ?_<;>intro _ q5
 ·refine oB q5 λ_ q7 q5=>gx Ac 13 q7<|gA q5 W1 λ_ q8 q5=>oB q5 λ_ q9 q5=>gxG Ac 13 q9<|gi q5 ?_ ?_<;>intro _ q5
  ·obtain rfl:=nR bl1 q5;exact AnO hm▸gE
  exact gN bl1 q5
 obtain rfl:=nR bl1 q5;refine oB hm λ_ q10 hm=>gI q10 (λp=>⟨[(1,.pb 0 0),(4,.d (.i p))],[(0,.box 0 [.d (.s a0.Who),sl Ac a0.Roots,sl Ai a0.Logs,sl Ae a0.Pool.L,.d (.i a0.Cascade.Day),sl Ah a0.Cascade.Levels,.d (.i a0.View)] 31)],[],1⟩) λs2 _ Jl q13 bl2=>gi q13 ?_ ?_<;>intro _ q13
 ·refine oB q13 λ_ q15 q13=>gx Ai 3 q15<|gA q13 Pj λ_ q16 q13=>oB q13 λ_ q17 q13=>gxG Ai 3 q17<|oB q13 λ_ q18 q13=>gcH q18 V3<|oB q13 λ_ q19 q13=>gcH q19 Pj<|gi q13 ?_ ?_<;>intro _ q13
  ·obtain rfl:=nR bl2 q13;exact AnO hm▸gE
  exact gN bl2 q13
 obtain rfl:=nR bl2 q13;refine gA hm QC λ_ q20 hm=>gi hm ?_ ?_<;>intro _ hm
 ·exact AnO hm▸gE
 refine gA hm QE λ_ q21 hm=> ?_;exact AnO hm▸gE
def MR (a0:ByteArray)(a1:List g_api_Cert)(a2:List g_api_Key)(a3:Int):Option (g_api_Client×Int):=Ab (app 168 ([]:List g_api_Cert) a1) λx1=>Ab (app 24 ([]:List g_api_Key) a2) λx2=>Ab (ES (⟨a0,x1,x2,(⟨[]⟩:g_api_Pool),(⟨0,[]⟩:g_api_Cascade),a3⟩:g_api_Client)) λx3=>if(x3 !=0)=true then some ((⟨ByteArray.empty,[],[],(⟨[]⟩:g_api_Pool),(⟨0,[]⟩:g_api_Cascade),0⟩:g_api_Client),x3)else some ((⟨a0,x1,x2,(⟨[]⟩:g_api_Pool),(⟨0,[]⟩:g_api_Cascade),a3⟩:g_api_Client),0)
theorem AaK {a0 a1 a2 a3 r}(hm:MR a0 a1 a2 a3=some r):Sf prog 14 [.d (.s a0),sl Ac a1,sl Ai a2,.d (.i a3)] (.tup [ag (A0 r.1),.d (.i r.2)]):=by
 refine sq ?_;intros;refine Sa (k:=13) Ac ([]:List g_api_Cert) (λ_=>rfl)<|oB hm λ_ q1 hm=>gp Ac 13 q1<|Sa (k:=3) Ai ([]:List g_api_Key) (λ_=>rfl)<|oB hm λ_ q2 hm=>gp Ai 3 q2<|gD hm JD λ_ q3 hm=>gi hm ?_ ?_<;>intro _ hm
 ·exact AnO hm▸gE
 exact AnO hm▸gE
def JK (a0:g_api_Head)(a1:g_api_Head):Option Bool:=bnd (((((a0.Log==a1.Log)&&(a0.Size==a1.Size))&&(Nr a0.Root a1.Root))&&(a0.At==a1.At))) λx1=>some x1
theorem WZ {a0 a1 r}(hm:JK a0 a1=some r):Sf prog 205 [ag (Ae a0),ag (Ae a1)] (.d (.t r)):=by
 refine sq ?_;intros;refine bE hm ?_;intro _ hm;exact AnO hm▸gE
def IM (a0:List g_api_Head)(a1:g_api_Head)(s1:Int):Option ((Int)⊕((Unit)⊕Bool)):=if(decide (s1<(a0.length:Int)))=true then Ab (idx a0 s1) λx3=>Ab (JK x3 a1) λx4=>if x4=true then some (.inr (.inr true))else some (.inl (w64 (s1+1)))else some (.inr (.inl ()))
def MU (a0:List g_api_Head)(a1:g_api_Head):Option Bool:=Ab (iter (IM a0 a1) AY 0) λx1=>match x1 with| .inr r=>some r| .inl y1=>some false
theorem AaN {a0 a1 r}(hm:MU a0 a1=some r):Sf prog 122 [sl Ae a0,ag (Ae a1)] (.d (.t r)):=by
 refine sq ?_;intros;refine oB hm λ_ q1 hm=>gI q1 (λp=>⟨[(0,sl Ae a0),(3,.pb 0 0),(5,.d (.i p))],[(0,.box 0 [.d (.i a1.Log),.d (.i a1.Size),.d (.u a1.Root.1),.d (.u a1.Root.2),.d (.i a1.At),.d (.u a1.Sig.E),.d (.u a1.Sig.S)] 38)],[],1⟩) λs1 _ Jl q4 bl1=>gi q4 ?_ ?_<;>intro _ q4
 ·refine oB q4 λ_ q6 q4=>gx Ae 7 q6<|gA q4 WZ λ_ q7 q4=>gi q4 ?_ ?_<;>intro _ q4
  ·obtain rfl:=nR bl1 q4;exact AnO hm▸gE
  exact gN bl1 q4
 obtain rfl:=nR bl1 q4;exact AnO hm▸gE
def FO (a0:List g_api_Head)(a1:g_api_Head)(s1:Int):Option ((Int)⊕(Int)):=Ab (gu (decide (s1<(a0.length:Int))) (idx a0 s1)) λx4=>Ab (gu (decide (s1<(a0.length:Int))) (HU x4 a1)) λx5=>if((decide (s1<(a0.length:Int)))&&x5)=true then some (.inl (w64 (s1+1)))else some (.inr s1)
def I7 (a0:List g_api_Head)(a1:g_api_Head):Option (List g_api_Head):=Ab (Ab (iter (FO a0 a1) AY 0) λx2=>some x2) λx1=>Ab (cut a0 0 x1) λx6=>Ab (app 56 ([]:List g_api_Head) x6) λx7=>Ab (app 56 x7 ([a1]:List g_api_Head)) λx8=>Ab (cut a0 x1 (a0.length:Int)) λx9=>Ab (app 56 x8 x9) λx10=>some x10
theorem YU {a0 a1 r}(hm:I7 a0 a1=some r):Sp prog 123 [sl Ae a0,ag (Ae a1)] [] 0 (is (.ow 0) [.row 0 7 _ Ae r] 1):=by
 refine sq ?_;intros;unfold I7 at hm;obtain⟨x1,q1,hm⟩:=Ag hm;refine oB q1 λx2 q2 q1=>gI q2 (λp=>⟨[(0,sl Ae a0),(3,.pb 0 0),(5,.d (.i p))],[(0,.box 0 [.d (.i a1.Log),.d (.i a1.Size),.d (.u a1.Root.1),.d (.u a1.Root.2),.d (.i a1.At),.d (.u a1.Sig.E),.d (.u a1.Sig.S)] 38)],[],1⟩) λs1 _ Jl q5 bl1=>oB q5 λ_ q7 q5=>gxG Ae 7 q7<|oB q5 λ_ q8 q5=>gcH q8 QA<|gi q5 ?_ ?_<;>intro _ q5
 ·exact gN bl1 q5
 obtain rfl:=nR bl1 q5;let x2:=s1;obtain rfl:=AnO q1;refine Sa (k:=7) Ae ([]:List g_api_Head) (λ_=>rfl)<|oB hm λ_ q9 hm=>gk Ae 7 q9<|oB hm λ_ q10 hm=>gp Ae 7 q10<|gq Ae 7 [a1]<|oB hm λ_ q11 hm=>gp Ae 7 q11<|oB hm λ_ q12 hm=>gk Ae 7 q12<|oB hm λ_ q13 hm=>gp Ae 7 q13 ?_;exact AnO hm▸gE
def MV (a0:g_api_Pool)(a1:g_api_Head)(a2:List g_api_Key):Option (g_api_Pool×Int):=Ab (HX a0 a2) λx1=>if(x1 !=0)=true then some ((⟨[]⟩:g_api_Pool),x1)else Ab (HV a1 a2) λx2=>if(!x2)=true then some ((⟨[]⟩:g_api_Pool),40)else Ab (MU a0.L a1) λx3=>if x3=true then some (a0,0)else if((a0.L.length:Int)==1024)=true then some ((⟨[]⟩:g_api_Pool),2)else Ab (I7 a0.L a1) λx4=>some ((⟨x4⟩:g_api_Pool),0)
theorem AaO {a0 a1 a2 r}(hm:MV a0 a1 a2=some r):Sf prog 41 [ag (Fh a0),ag (Ae a1),sl Ai a2] (.tup [ag (Fh r.1),.d (.i r.2)]):=by
 refine sq ?_;intros;refine gA hm QC λ_ q1 hm=>gi hm ?_ ?_<;>intro _ hm
 ·exact AnO hm▸gE
 refine gA hm QB λ_ q2 hm=>gi hm ?_ ?_<;>intro _ hm
 ·exact AnO hm▸gE
 refine gA hm AaN λ_ q3 hm=>gi hm ?_ ?_<;>intro _ hm
 ·exact AnO hm▸gE
 refine gi hm ?_ ?_<;>intro _ hm
 ·exact AnO hm▸gE
 refine gD hm YU λ_ q4 hm=> ?_;exact AnO hm▸gE
def La (a0:g_api_Client)(a1:g_api_Head):Option (g_api_Client×Int):=Ab (ES a0) λx1=>if(x1 !=0)=true then some ((⟨ByteArray.empty,[],[],(⟨[]⟩:g_api_Pool),(⟨0,[]⟩:g_api_Cascade),0⟩:g_api_Client),x1)else Ab (MV a0.Pool a1 a0.Logs) λx2=>if(x2.2 !=0)=true then some ((⟨ByteArray.empty,[],[],(⟨[]⟩:g_api_Pool),(⟨0,[]⟩:g_api_Cascade),0⟩:g_api_Client),x2.2)else some ((⟨a0.Who,a0.Roots,a0.Logs,x2.1,a0.Cascade,a0.View⟩:g_api_Client),0)
theorem YT {a0 a1 r}(hm:La a0 a1=some r):Sf prog 16 [ag (A0 a0),ag (Ae a1)] (.tup [ag (A0 r.1),.d (.i r.2)]):=by
 refine sq ?_;intros;refine gA hm JD λ_ q1 hm=>gi hm ?_ ?_<;>intro _ hm
 ·exact AnO hm▸gE
 refine gA hm AaO λ_ q2 hm=>gi hm ?_ ?_<;>intro _ hm
 ·exact AnO hm▸gE
 exact AnO hm▸gE
def MT (a0:g_api_Client)(a1:g_api_Cascade):Option (g_api_Client×Int):=Ab (ES a0) λx1=>if(x1 !=0)=true then some ((⟨ByteArray.empty,[],[],(⟨[]⟩:g_api_Pool),(⟨0,[]⟩:g_api_Cascade),0⟩:g_api_Client),x1)else Ab (H2 a1) λx2=>if(x2 !=0)=true then some ((⟨ByteArray.empty,[],[],(⟨[]⟩:g_api_Pool),(⟨0,[]⟩:g_api_Cascade),0⟩:g_api_Client),x2)else if(decide (a1.Day<a0.Cascade.Day))=true then some ((⟨ByteArray.empty,[],[],(⟨[]⟩:g_api_Pool),(⟨0,[]⟩:g_api_Cascade),0⟩:g_api_Client),190)else some ((⟨a0.Who,a0.Roots,a0.Logs,a0.Pool,a1,a0.View⟩:g_api_Client),0)
theorem AaM {a0 a1 r}(hm:MT a0 a1=some r):Sf prog 18 [ag (A0 a0),ag (B5 a1)] (.tup [ag (A0 r.1),.d (.i r.2)]):=by
 refine sq ?_;intros;refine gA hm JD λ_ q1 hm=>gi hm ?_ ?_<;>intro _ hm
 ·exact AnO hm▸gE
 refine gA hm QE λ_ q2 hm=>gi hm ?_ ?_<;>intro _ hm
 ·exact AnO hm▸gE
 refine gi hm ?_ ?_<;>intro _ hm
 ·exact AnO hm▸gE
 exact AnO hm▸gE
def G2 (a0:List g_api_Head)(a1:List g_api_Head)(s1:Int):Option ((Int)⊕((Unit)⊕Bool)):=if(decide (s1<(a0.length:Int)))=true then Ab (idx a0 s1) λx3=>Ab (idx a1 s1) λx4=>if(!Nq x3 x4)=true then some (.inr (.inr false))else some (.inl (w64 (s1+1)))else some (.inr (.inl ()))
def JJ (a0:List g_api_Head)(a1:List g_api_Head):Option Bool:=if((a0.length:Int) !=(a1.length:Int))=true then some false else Ab (iter (G2 a0 a1) AY 0) λx1=>match x1 with| .inr r=>some r| .inl y1=>some true
theorem WY {a0 a1 r}(hm:JJ a0 a1=some r):Sf prog 46 [sl Ae a0,sl Ae a1] (.d (.t r)):=by
 refine sq ?_;intros;refine gi hm ?_ ?_<;>intro _ hm
 ·exact AnO hm▸gE
 refine oB hm λ_ q1 hm=>gI q1 (λp=>⟨[(0,sl Ae a0),(1,sl Ae a1),(5,.d (.i p))],[],[],0⟩) λs1 _ Jl q4 bl1=>gi q4 ?_ ?_<;>intro _ q4
 ·refine oB q4 λ_ q6 q4=>gx Ae 7 q6<|oB q4 λ_ q7 q4=>gx Ae 7 q7<|gi q4 ?_ ?_<;>intro _ q4
  ·obtain rfl:=nR bl1 q4;exact AnO hm▸gE
  exact gN bl1 q4
 obtain rfl:=nR bl1 q4;exact AnO hm▸gE
def MX (a0:List UInt8)(a1:List UInt8):Option Bool:=some (eqS (bs a0) (bs a1))
theorem W4 {a0 a1 r}(hm:MX a0 a1=some r):Sf prog 126 [sl eB a0,sl eB a1] (.d (.t r)):=by
 refine sq ?_;intros;refine gbs (xs:=a0)<|gbs (xs:=a1) ?_;exact AnO hm▸gE
def H0 (a0:g_api_Cascade)(a1:g_api_Cascade)(s1:Int):Option ((Int)⊕((Unit)⊕Bool)):=if(decide (s1<(a0.Levels.length:Int)))=true then Ab (idx a0.Levels s1) λx3=>Ab (idx a1.Levels s1) λx4=>Ab (gu (!(((x3.Bits !=x4.Bits)||(x3.Hashes !=x4.Hashes))||(x3.Salt !=x4.Salt))) (MX x3.B x4.B)) λx5=>if((((x3.Bits !=x4.Bits)||(x3.Hashes !=x4.Hashes))||(x3.Salt !=x4.Salt))||(!x5))=true then some (.inr (.inr false))else some (.inl (w64 (s1+1)))else some (.inr (.inl ()))
def Lf (a0:g_api_Cascade)(a1:g_api_Cascade):Option Bool:=if((a0.Day !=a1.Day)||((a0.Levels.length:Int) !=(a1.Levels.length:Int)))=true then some false else Ab (iter (H0 a0 a1) AY 0) λx1=>match x1 with| .inr r=>some r| .inl y1=>some true
theorem Y0 {a0 a1 r}(hm:Lf a0 a1=some r):Sf prog 47 [ag (B5 a0),ag (B5 a1)] (.d (.t r)):=by
 refine sq ?_;intros;refine gi hm ?_ ?_<;>intro _ hm
 ·exact AnO hm▸gE
 refine oB hm λ_ q1 hm=>gI q1 (λp=>⟨[(2,.pb 0 0),(3,.pb 1 0),(5,.d (.i p))],[(0,.box 1 [.d (.i a1.Day),sl Ah a1.Levels] 29),(1,.box 0 [.d (.i a0.Day),sl Ah a0.Levels] 29)],[],2⟩) λs1 _ Jl q4 bl1=>gi q4 ?_ ?_<;>intro _ q4
 ·refine oB q4 λ_ q6 q4=>gx Ah 4 q6<|oB q4 λ_ q7 q4=>gx Ah 4 q7<|oB q4 λ_ q8 q4=>gcH q8 W4<|gi q4 ?_ ?_<;>intro _ q4
  ·obtain rfl:=nR bl1 q4;exact AnO hm▸gE
  exact gN bl1 q4
 obtain rfl:=nR bl1 q4;exact AnO hm▸gE
def BY (a0:List ByteArray)(a1:List ByteArray)(s1:Int):Option ((Int)⊕((Unit)⊕Bool)):=if(decide (s1<(a0.length:Int)))=true then Ab (idx a0 s1) λx3=>Ab (idx a1 s1) λx4=>if(!eqS x3 x4)=true then some (.inr (.inr false))else some (.inl (w64 (s1+1)))else some (.inr (.inl ()))
def Hr (a0:List ByteArray)(a1:List ByteArray):Option Bool:=if((a0.length:Int) !=(a1.length:Int))=true then some false else Ab (iter (BY a0 a1) AY 0) λx1=>match x1 with| .inr r=>some r| .inl y1=>some true
theorem So {a0 a1 r}(hm:Hr a0 a1=some r):Sf prog 127 [sl eS a0,sl eS a1] (.d (.t r)):=by
 refine sq ?_;intros;refine gi hm ?_ ?_<;>intro _ hm
 ·exact AnO hm▸gE
 refine oB hm λ_ q1 hm=>gI q1 (λp=>⟨[(0,sl eS a0),(1,sl eS a1),(5,.d (.i p))],[],[],0⟩) λs1 _ Jl q4 bl1=>gi q4 ?_ ?_<;>intro _ q4
 ·refine oB q4 λ_ q6 q4=>gx eS 1 q6<|oB q4 λ_ q7 q4=>gx eS 1 q7<|gi q4 ?_ ?_<;>intro _ q4
  ·obtain rfl:=nR bl1 q4;exact AnO hm▸gE
  exact gN bl1 q4
 obtain rfl:=nR bl1 q4;exact AnO hm▸gE
def BX (a0:g_api_Cert)(a1:g_api_Cert)(s1:Int):Option ((Int)⊕((Unit)⊕Bool)):=if(decide (s1<(a0.Proms.length:Int)))=true then Ab (idx a0.Proms s1) λx3=>Ab (idx a1.Proms s1) λx4=>if(!Ea x3 x4)=true then some (.inr (.inr false))else some (.inl (w64 (s1+1)))else some (.inr (.inl ()))
def Dr (a0:g_api_Cert)(a1:g_api_Cert):Option Bool:=if((((((((((a0.Serial !=a1.Serial)||(!eqS a0.Issuer a1.Issuer))||(!eqS a0.Subject a1.Subject))||((a0.Key.toNat:Int) !=(a1.Key.toNat:Int)))||(a0.From !=a1.From))||(a0.Until !=a1.Until))||(a0.Ca !=a1.Ca))||(a0.Depth !=a1.Depth))||(!Gr a0.Sig a1.Sig))||((a0.Proms.length:Int) !=(a1.Proms.length:Int)))=true then some false else Ab (iter (BX a0 a1) AY 0) λx1=>match x1 with| .inr r=>some r| .inl y1=>Ab (Hr a0.Names a1.Names) λx5=>Ab (gu x5 (Hr a0.Permit a1.Permit)) λx6=>some (x5&&x6)
theorem YY {a0 a1 r}(hm:Dr a0 a1=some r):Sf prog 48 [ag (Ac a0),ag (Ac a1)] (.d (.t r)):=by
 refine sq ?_;intros;refine gi hm ?_ ?_<;>intro _ hm
 ·exact AnO hm▸gE
 refine oB hm λ_ q1 hm=>gI q1 (λp=>⟨[(2,.pb 0 0),(3,.pb 1 0),(5,.d (.i p))],[(0,.box 1 [.d (.i a1.Serial),.d (.s a1.Issuer),.d (.s a1.Subject),.d (.u a1.Key),sl eS a1.Names,.d (.i a1.From),.d (.i a1.Until),.d (.t a1.Ca),.d (.i a1.Depth),sl eS a1.Permit,sl Ad a1.Proms,.d (.u a1.Sig.E),.d (.u a1.Sig.S)] 59),(1,.box 0 [.d (.i a0.Serial),.d (.s a0.Issuer),.d (.s a0.Subject),.d (.u a0.Key),sl eS a0.Names,.d (.i a0.From),.d (.i a0.Until),.d (.t a0.Ca),.d (.i a0.Depth),sl eS a0.Permit,sl Ad a0.Proms,.d (.u a0.Sig.E),.d (.u a0.Sig.S)] 59)],[],2⟩) λs1 _ Jl q4 bl1=>gi q4 ?_ ?_<;>intro _ q4
 ·refine oB q4 λ_ q6 q4=>gx Ad 6 q6<|oB q4 λ_ q7 q4=>gx Ad 6 q7<|gi q4 ?_ ?_<;>intro _ q4
  ·obtain rfl:=nR bl1 q4;exact AnO hm▸gE
  exact gN bl1 q4
 obtain rfl:=nR bl1 q4;refine gA hm So λ_ q8 hm=>oB hm λ_ q9 hm=>gcH q9 So ?_;exact AnO hm▸gE
def HS (a0:g_api_Client)(a1:g_api_Client)(s1:Int):Option ((Int)⊕((Unit)⊕Bool)):=if(decide (s1<(a0.Roots.length:Int)))=true then Ab (idx a0.Roots s1) λx5=>Ab (idx a1.Roots s1) λx6=>Ab (Dr x5 x6) λx7=>if(!x7)=true then some (.inr (.inr false))else some (.inl (w64 (s1+1)))else some (.inr (.inl ()))
end Go.Proofs.YtnhdojckpcbjeaaGreatDoor
