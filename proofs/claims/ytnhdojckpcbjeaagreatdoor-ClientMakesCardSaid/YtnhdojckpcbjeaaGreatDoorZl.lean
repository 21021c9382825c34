/- The walks of some functions, by the executor, written by program. Conditions: none. -/
import Derived.Test.YtnhdojckpcbjeaaGreatDoorZh
import Derived.Test.YtnhdojckpcbjeaaGreatDoorZi
import Derived.Test.YtnhdojckpcbjeaaGreatDoorZj
import Derived.Test.YtnhdojckpcbjeaaGreatDoorZk
set_option linter.unusedSimpArgs false
set_option linter.unusedVariables false
set_option maxHeartbeats 20000000
set_option maxRecDepth 100000
namespace Go.Proofs.YtnhdojckpcbjeaaGreatDoor
open Go Go.Gw Go.Ax Tryz
attribute [local irreducible] Go.Ax.Go
def Lm (a0:Int)(a1:g_api_Log)(k0:List (Int×Bool))(k1:List UInt8)(k2:Int)(k3:List g_api_Log):Option (g_api_Promise×Bool×(List (Int×Bool))×(List UInt8)×Int×(List g_api_Log)):=if((lkG (eqI a1.Id) k0).getD false)=true then some ((⟨0,0,(0,0),(⟨0,0⟩:g_api_Sig)⟩:g_api_Promise),false,k0,k1,k2,k3)else Ab (R5 a1 k1 k2) λx1=>Ab (if(x1.2.2==0)=true then Ab (idx k3 a0) λx3=>bnd (k3.set a0.toNat x1.1) λx4=>some ((upG (eqI a1.Id) (a1.Id,true) k0),x4)else some (k0,k3)) λx2=>some (x1.2.1,(x1.2.2==0),x2.1,k1,k2,x2.2)
theorem QN {a0 a1 k0 k1 k2 k3 r}(hm:Lm a0 a1 k0 k1 k2 k3=some r):Sp prog 176 [.d (.i a0),ag (Av a1),.pb 0 0,.pb 2 0,.pb 3 0,.pb 4 0] [.box 0 [.ow 1] 230,.hp 1 (.mg _ _ eI D.t k0),.box 2 [sl eB k1] 96,.box 3 [.d (.i k2)] 3,.box 4 [.ow 5] 72,.row 5 6 _ Av k3] 6 (is (.tup [ag (Ad r.1),.d (.t r.2.1)]) [.box 0 [.ow 1] 230,.hp 1 (.mg _ _ eI D.t r.2.2.1),.box 2 [.d (.sl _ eB r.2.2.2.1)] 96,.box 3 [.d (.i r.2.2.2.2.1)] 3,.box 4 [.ow 6] 72,.row 6 6 _ Av r.2.2.2.2.2] 7):=by
 refine sq λD0 As u4 m0 hd=>glkg (K:=eI) (c:=D.t) k0 a1.Id (eqI a1.Id) false 3 4 false (by kernel_rfl) (by kernel_rfl) (by kernel_rfl) (by kernel_rfl)<|gi hm ?_ ?_<;>intro _ hm
 ·exact AnO hm▸gE
 refine gA hm V7 λx1 q1 hm=>oB hm λx2 q2 hm=>gj (λ(_:Unit)=>let (y_0,y_1):=x2; ⟨[(8,.pb 7 0),(11,.pb 9 0),(12,.d (.i x1.2.2)),(10,.pb 8 0),(7,.pb 6 0)],[(0,.box 9 [.d (.i x1.2.1.Log),.d (.i x1.2.1.At),.d (.u x1.2.1.Leaf.1),.d (.u x1.2.1.Leaf.2),.d (.u x1.2.1.Sig.E),.d (.u x1.2.1.Sig.S)] 63),(1,.box 8 [.d (.i x1.1.Id),.d (.u x1.1.Key),.d (.i x1.1.Delay),sl Ak x1.1.L,sl eI x1.1.Hide,sl Ak x1.1.Wait] 82),(2,.box 7 [.d (.i 0),.d (.i 0),.d (.u 0),.d (.u 0),.d (.u 0),.d (.u 0)] 63),(3,.box 6 [.d (.i a1.Id),.d (.u a1.Key),.d (.i a1.Delay),sl Ak a1.L,sl eI a1.Hide,sl Ak a1.Wait] 82),(4,.box 0 [.ow 1] 230),(5,.hp 1 (.mg _ _ eI D.t y_0)),(6,.box 2 [sl eB k1] 96),(7,.box 3 [.d (.i k2)] 3),(8,.box 4 [.ow 5] 72),(9,.row 5 6 _ Av y_1)],[],10⟩) (λ_=>True) (λJp bk1=> ?_) λ_ _=> ?_
 ·refine gi q2 ?_ ?_<;>intro _ q2
  ·refine oB q2 λ_ q3 q2=>Jk (E:=Av) (λ_=>q3)<|bE q2 ?_;intro _ q2;refine AhO (k:=6) (E:=Av) x1.1 (λ_=>rfl) q3<|gupg (K:=eI) (c:=D.t) k0 a1.Id true (eqI a1.Id) 3 inj_i (by kernel_rfl) (by kernel_rfl) (by kernel_rfl) (by kernel_rfl) ?_;obtain rfl:=AnO q2;exact gb bk1 hd () trivial
  obtain rfl:=AnO q2;exact gb bk1 hd () trivial
 exact AnO hm▸gE
def Ll (a0:g_api_Promise)(a1:g_api_Promise):Option Int:=some (w64 (a0.Log-a1.Log))
theorem QM {a0 a1 r}(hm:Ll a0 a1=some r):Sf prog 178 [ag (Ad a0),ag (Ad a1)] (.d (.i r)):=by
 refine sq ?_;intros;exact AnO hm▸gE
def EX (a0:List g_api_Log)(a1:Int)(s1:(List Int)×(List g_api_Promise)×Int×(List (Int×Bool))×(List UInt8)×Int×(List g_api_Log)):Option (((List Int)×(List g_api_Promise)×Int×(List (Int×Bool))×(List UInt8)×Int×(List g_api_Log))⊕((List Int)×(List g_api_Promise)×(List (Int×Bool))×(List UInt8)×Int×(List g_api_Log))):=if(decide (s1.2.2.1<(a0.length:Int)))=true then Ab (idx a0 s1.2.2.1) λx4=>if((s1.1.length:Int)==a1)=true then some (.inr (s1.1,s1.2.1,s1.2.2.2.1,s1.2.2.2.2.1,s1.2.2.2.2.2.1,s1.2.2.2.2.2.2))else Ab (Lm s1.2.2.1 x4 s1.2.2.2.1 s1.2.2.2.2.1 s1.2.2.2.2.2.1 s1.2.2.2.2.2.2) λx5=>if(!x5.2.1)=true then some (.inl (s1.1,s1.2.1,(w64 (s1.2.2.1+1)),x5.2.2.1,x5.2.2.2.1,x5.2.2.2.2.1,x5.2.2.2.2.2))else Ab (app 8 s1.1 ([s1.2.2.1]:List Int)) λx6=>Ab (app 48 s1.2.1 ([x5.1]:List g_api_Promise)) λx7=>some (.inl (x6,x7,(w64 (s1.2.2.1+1)),x5.2.2.1,x5.2.2.2.1,x5.2.2.2.2.1,x5.2.2.2.2.2))else some (.inr (s1.1,s1.2.1,s1.2.2.2.1,s1.2.2.2.2.1,s1.2.2.2.2.2.1,s1.2.2.2.2.2.2))
def Bx (a0:List g_api_Log)(a1:Int)(k0:List (Int×Bool))(k1:List UInt8)(k2:Int)(k3:List g_api_Log):Option ((List Int)×(List g_api_Promise)×Bool×(List (Int×Bool))×(List UInt8)×Int×(List g_api_Log)):=Ab (Ab (iter (EX a0 a1) AY (([]:List Int),([]:List g_api_Promise),0,k0,k1,k2,k3)) λx2=>some (x2.1,x2.2.1,x2.2.2.1,x2.2.2.2.1,x2.2.2.2.2.1,x2.2.2.2.2.2)) λx1=>some (x1.1,x1.2.1,((x1.1.length:Int)==a1),x1.2.2.1,x1.2.2.2.1,x1.2.2.2.2.1,x1.2.2.2.2.2)
theorem FB {a0 a1 k0 k1 k2 k3 r}(hm:Bx a0 a1 k0 k1 k2 k3=some r):Sp prog 175 [sl Av a0,.d (.i a1),.fn (.func 176) [] [.pb 0 0,.pb 2 0,.pb 3 0,.pb 4 0]] [.box 0 [.ow 1] 230,.hp 1 (.mg _ _ eI D.t k0),.box 2 [sl eB k1] 96,.box 3 [.d (.i k2)] 3,.box 4 [.ow 5] 72,.row 5 6 _ Av k3] 6 (is (.tup [.ow 6,.ow 7,.d (.t r.2.2.1)]) [.box 0 [.ow 1] 230,.hp 1 (.mg _ _ eI D.t r.2.2.2.1),.box 2 [.d (.sl _ eB r.2.2.2.2.1)] 96,.box 3 [.d (.i r.2.2.2.2.2.1)] 3,.box 4 [.ow 8] 72,.row 8 6 _ Av r.2.2.2.2.2.2,.row 6 1 _ eI r.1,.row 7 6 _ Ad r.2.1] 9):=by
 refine sq λD0 As u4 m0 hd=> ?_;unfold Bx at hm;obtain⟨x1,q1,hm⟩:=Ag hm;refine oB q1 λx2 q2 q1=>U4 0 eI 6 1<|U4 0 Ad 7 6<|gjU 0 (λ(_:Unit)=>let (y_0,y_1,y_2,y_3,y_4,y_5):=x2; ⟨[(1,.d (.i a1)),(6,.ow 8),(7,.ow 7)],[(0,.row 8 1 _ eI y_0),(1,.row 7 6 _ Ad y_1),(2,.row 6 6 _ Av y_5),(3,.box 0 [.ow 1] 230),(4,.hp 1 (.mg _ _ eI D.t y_2)),(5,.box 2 [sl eB y_3] 96),(6,.box 3 [.d (.i y_4)] 3),(7,.box 4 [.ow 6] 72)],[],9⟩) (λ_=>True) (λJp bk2=> ?_) λ_ _=> ?_
 ·refine gI q2 (λ(p_0,p_1,p_2,p_3,p_4,p_5,p_6)=>⟨[(1,.d (.i a1)),(2,.fn (.func 176) [] [.pb 0 0,.pb 2 0,.pb 3 0,.pb 4 0]),(6,.ow 8),(7,.ow 7),(13,sl Av a0),(14,.d (.i (a0.length:Int))),(15,.d (.i p_2))],[(0,.row 8 1 _ eI p_0),(1,.row 7 6 _ Ad p_1),(2,.row 6 6 _ Av p_6),(3,.box 0 [.ow 1] 230),(4,.hp 1 (.mg _ _ eI D.t p_3)),(5,.box 2 [sl eB p_4] 96),(6,.box 3 [.d (.i p_5)] 3),(7,.box 4 [.ow 6] 72)],[],9⟩) λs1 _ Jl q5 bl1=>gi q5 ?_ ?_<;>intro _ q5
  ·refine oB q5 λ_ q7 q5=>gx Av 6 q7<|gi q5 ?_ ?_<;>intro _ q5
   ·obtain rfl:=nR bl1 q5;exact gb bk2 hd () trivial
   refine gD q5 QN λx5 q8 q5=>gi q5 ?_ ?_<;>intro _ q5
   ·exact gN bl1 q5
   exact gq eI 1 [s1.2.2.1]<|oB q5 λ_ q9 q5=>gp eI 1 q9<|gq Ad 6 [x5.1]<|oB q5 λ_ q10 q5=>gp Ad 6 q10<|gN bl1 q5
  obtain rfl:=nR bl1 q5;exact gb bk2 hd () trivial
 obtain rfl:=AnO q1;exact AnO hm▸gE
def DF (a1:Int)(s2:Int×(List g_api_Promise)):Option ((Int×(List g_api_Promise))⊕((List g_api_Promise))):=Ab (gu (decide (s2.1>a1)) (idx s2.2 s2.1)) λx6=>Ab (gu (decide (s2.1>a1)) (idx s2.2 (w64 (s2.1-1)))) λx7=>Ab (gu (decide (s2.1>a1)) (Ll x6 x7)) λx8=>if((decide (s2.1>a1))&&(decide (x8<0)))=true then Ab (idx s2.2 (w64 (s2.1-1))) λx9=>Ab (idx s2.2 s2.1) λx10=>Ab (idx s2.2 s2.1) λx11=>bnd (s2.2.set s2.1.toNat x9) λx12=>Ab (idx x12 (w64 (s2.1-1))) λx13=>bnd (x12.set (w64 (s2.1-1)).toNat x10) λx14=>some (.inl ((w64 (s2.1-1)),x14))else some (.inr s2.2)
def DG (a1:Int)(a2:Int)(s1:Int×(List g_api_Promise)):Option ((Int×(List g_api_Promise))⊕((List g_api_Promise))):=if(decide (s1.1<a2))=true then Ab (Ab (iter (DF a1) AY (s1.1,s1.2)) λx4=>some x4) λx3=>some (.inl ((w64 (s1.1+1)),x3))else some (.inr s1.2)
def B6 (a0:List g_api_Promise)(a1:Int)(a2:Int):Option (List g_api_Promise):=Ab (iter (DG a1 a2) AY ((w64 (a1+1)),a0)) λx1=>some x1
theorem Ee {a0 a1 a2 r}(hm:B6 a0 a1 a2=some r):Sp prog 310 [.ow 0,.d (.i a1),.d (.i a2),.fn (.func 178) [] []] [.row 0 6 _ Ad a0] 1 (is (.tup []) [.row 0 6 _ Ad r] 1):=by
 refine sq ?_;intros;refine oB hm λ_ q1 hm=>gI q1 (λ(p_0,p_1)=>⟨[(0,.ow 0),(1,.d (.i a1)),(2,.d (.i a2)),(3,.fn (.func 178) [] []),(8,.d (.i p_0))],[(0,.row 0 6 _ Ad p_1)],[],1⟩) λs1 _ Jl q4 bl1=>gi q4 ?_ ?_<;>intro _ q4
 ·obtain⟨x3,q6,q4⟩:=Ag q4;refine oB q6 λx4 q7 q6=>gI q7 (λ(p_0,p_1)=>⟨[(0,.ow 0),(1,.d (.i a1)),(2,.d (.i a2)),(3,.fn (.func 178) [] []),(8,.d (.i s1.1)),(9,.d (.i p_0))],[(0,.row 0 6 _ Ad p_1)],[],1⟩) λs2 _ Jl q10 bl2=>oB q10 λ_ q12 q10=>AkU (E:=Ad) (λh=>Z9 h q12)<|gldOG (k:=6) (fo:=0) (nn:=6) (ag:=true) (E:=Ad) (λ_=>rfl) (λh=>Z9 h q12)<|oB q10 λ_ q13 q10=>AkU (E:=Ad) (λh=>Z9 h q13)<|gldOG (k:=6) (fo:=0) (nn:=6) (ag:=true) (E:=Ad) (λ_=>rfl) (λh=>Z9 h q13)<|oB q10 λ_ q14 q10=>gcH q14 QM<|gi q10 ?_ ?_<;>intro _ q10
  ·refine oB q10 λx9 q15 q10=>Jk (E:=Ad) (λ_=>q15)<|AaD (k:=6) (fo:=0) (nn:=6) (ag:=true) (E:=Ad) (λ_=>rfl) (λ_=>q15)<|oB q10 λx10 q16 q10=>Jk (E:=Ad) (λ_=>q16)<|AaD (k:=6) (fo:=0) (nn:=6) (ag:=true) (E:=Ad) (λ_=>rfl) (λ_=>q16)<|oB q10 λ_ q17 q10=>Jk (E:=Ad) (λ_=>q17)<|bE q10 ?_;intro _ q10;refine AhO (k:=6) (E:=Ad) x9 (λ_=>rfl) q17<|oB q10 λ_ q19 q10=>Jk (E:=Ad) (λ_=>q19)<|bE q10 ?_;intro _ q10;exact AhO (k:=6) (E:=Ad) x10 (λ_=>rfl) q19<|gN bl2 q10
  obtain rfl:=nR bl2 q10;let x4:=s2.2;obtain rfl:=AnO q6;exact gN bl1 q4
 obtain rfl:=nR bl1 q4;exact AnO hm▸gE
def EL (a0:List g_api_Promise)(s1:Int×Int×Int×Bool×Bool):Option ((Int×Int×Int×Bool×Bool)⊕((Unit)⊕(List g_api_Promise))):=if(decide ((w64 (s1.2.1-s1.1))<=12))=true then Ab (B6 a0 s1.1 s1.2.1) λx3=>some (.inr (.inr x3))else if(s1.2.2.1==0)=true then none else none
def CW (a0:List g_api_Promise)(a1:Int)(a2:Int)(a3:Int):Option (List g_api_Promise):=Ab (iter (EL a0) AY (a1,a2,a3,true,true)) λx1=>match x1 with| .inr r=>some r| .inl y1=>none
theorem Fw {a0 a1 a2 a3 r}(hm:CW a0 a1 a2 a3=some r):Sp prog 252 [.ow 0,.d (.i a1),.d (.i a2),.d (.i a3),.fn (.func 178) [] []] [.row 0 6 _ Ad a0] 1 (is (.tup []) [.row 0 6 _ Ad r] 1):=by
 refine sq ?_;intros;refine oB hm λ_ q1 hm=>gI q1 (λ(p_0,p_1,p_2,p_3,p_4)=>⟨[(0,.ow 0),(1,.d (.i p_0)),(2,.d (.i p_1)),(3,.d (.i p_2)),(4,.fn (.func 178) [] []),(10,.d (.t p_3)),(11,.d (.t p_4))],[(0,.row 0 6 _ Ad a0)],[],1⟩) λs1 _ Jl q4 bl1=>gi q4 ?_ ?_<;>intro _ q4
 ·refine gD q4 Ee λ_ q6 q4=> ?_;obtain rfl:=nR bl1 q4;exact AnO hm▸gE
 refine gi q4 ?_ ?_<;>intro _ q4
 ·cases q4
 cases q4
def B7 (a0:List g_api_Promise):Option (List g_api_Promise):=Ab (Mo (toU (a0.length:Int))) λx1=>Ab (CW a0 0 (a0.length:Int) x1) λx2=>some x2
theorem Ef {a0 r}(hm:B7 a0=some r):Sp prog 177 [.ow 0,.fn (.func 178) [] []] [.row 0 6 _ Ad a0] 1 (is (.tup []) [.row 0 6 _ Ad r] 1):=by
 refine sq ?_;intros;refine gA hm OW λ_ q1 hm=>gD hm Fw λ_ q2 hm=> ?_;exact AnO hm▸gE
def NG (a0:List g_api_Log)(a1:g_api_Cert)(a2:Int):Option ((List g_api_Log)×g_api_Cert×Int):=Ab (R9 a1) λx1=>if(x1.2 !=0)=true then some (([]:List g_api_Log),(⟨0,ByteArray.empty,ByteArray.empty,0,[],0,0,false,0,[],[],(⟨0,0⟩:g_api_Sig)⟩:g_api_Cert),x1.2)else Ab (C8 a0) λx2=>Ab (Bx a0 2 ([]:List (Int×Bool)) x1.1 a2 x2) λx3=>if(!x3.2.2.1)=true then some (([]:List g_api_Log),(⟨0,ByteArray.empty,ByteArray.empty,0,[],0,0,false,0,[],[],(⟨0,0⟩:g_api_Sig)⟩:g_api_Cert),251)else Ab (B7 x3.2.1) λx4=>Ab (Ci (⟨a1.Serial,a1.Issuer,a1.Subject,a1.Key,a1.Names,a1.From,a1.Until,a1.Ca,a1.Depth,a1.Permit,x4,a1.Sig⟩:g_api_Cert)) λx5=>if(x5 !=0)=true then some (([]:List g_api_Log),(⟨0,ByteArray.empty,ByteArray.empty,0,[],0,0,false,0,[],[],(⟨0,0⟩:g_api_Sig)⟩:g_api_Cert),x5)else some (x3.2.2.2.2.2.2,(⟨a1.Serial,a1.Issuer,a1.Subject,a1.Key,a1.Names,a1.From,a1.Until,a1.Ca,a1.Depth,a1.Permit,x4,a1.Sig⟩:g_api_Cert),x5)
theorem Tb {a0 a1 a2 r}(hm:NG a0 a1 a2=some r):Sp prog 95 [sl Av a0,ag (Ac a1),.d (.i a2)] [] 0 (is (.tup [.ow 0,ag (Ac r.2.1),.d (.i r.2.2)]) [.row 0 6 _ Av r.1] 1):=by
 refine sq ?_;intros;refine gD hm Wa λ_ q1 hm=>gi hm ?_ ?_<;>intro _ hm
 ·refine Tr Av 6 6 ?_;exact AnO hm▸gE
 refine gD hm IY λ_ q2 hm=>gmkg Int Bool eI D.t<|gD hm FB λ_ q3 hm=>gi hm ?_ ?_<;>intro _ hm
 ·refine Tr Av 6 6 ?_;exact AnO hm▸gE
 refine gD hm Ef λ_ q4 hm=>gD hm FJ λ_ q5 hm=>gi hm ?_ ?_<;>intro _ hm
 ·refine Tr Av 6 6 ?_;exact AnO hm▸gE
 exact AnO hm▸gE
def SG (a0:g_api_Log):Option (g_api_Log×Int):=Ab (Hu a0) λx1=>if(x1 !=0)=true then some ((⟨0,0,0,[],[],[]⟩:g_api_Log),x1)else Ab (O3 a0) λx2=>some ((⟨a0.Id,a0.Key,a0.Delay,x2,a0.Hide,[]⟩:g_api_Log),0)
theorem Y8 {a0 r}(hm:SG a0=some r):Sf prog 96 [ag (Av a0)] (.tup [ag (Av r.1),.d (.i r.2)]):=by
 refine sq ?_;intros;refine gA hm I1 λ_ q1 hm=>gi hm ?_ ?_<;>intro _ hm
 ·exact AnO hm▸gE
 refine gD hm RJ λ_ q2 hm=> ?_;exact AnO hm▸gE
def Tp (a0:g_api_Log)(a1:Int)(i1:Int)(s1:(List Int)×(List (UInt64×UInt64))):Option ((List Int)×(List (UInt64×UInt64))):=Ab (idx a0.L (i1:Int)) λx5=>Ab (Ab (gu (decide ((s1.1.length:Int)>0)) (idx s1.1 0)) λx7=>if((decide ((s1.1.length:Int)>0))&&(x7==(i1:Int)))=true then Ab (cut s1.1 1 (s1.1.length:Int)) λx8=>if(a1==1)=true then Ab (Bp ([([0]:List UInt8),x5.Body]:List (List UInt8))) λx9=>some (x8,x9)else some (x8,x5.Body)else some (s1.1,x5.Body)) λx6=>Ab (H7 x6.2) λx10=>Ab (app 16 s1.2 ([x10]:List (UInt64×UInt64))) λx11=>some (x6.1,x11)
def Rg (a0:g_api_Log)(a1:Int):Option ((List (UInt64×UInt64))×Int):=Ab (Hu a0) λx1=>if(x1 !=0)=true then some (([]:List (UInt64×UInt64)),x1)else if((a1 !=0)&&(a1 !=1))=true then some (([]:List (UInt64×UInt64)),240)else Ab (Ab (Di (Tp a0 a1) a0.L.length 0 (a0.Hide,([]:List (UInt64×UInt64)))) λx3=>some x3.2) λx2=>some (x2,0)
theorem Xl {a0 a1 r}(hm:Rg a0 a1=some r):Sp prog 180 [ag (Av a0),.d (.i a1)] [] 0 (is (.tup [.ow 0,.d (.i r.2)]) [.row 0 2 _ Ao r.1] 1):=by
 refine sq λD0 As u4 m0 hd=>gA hm I1 λ_ q1 hm=>gi hm ?_ ?_<;>intro _ hm
 ·refine Tr Ao 4 2 ?_;exact AnO hm▸gE
 refine gi hm ?_ ?_<;>intro _ hm
 ·refine Tr Ao 4 2 ?_;exact AnO hm▸gE
 obtain⟨x2,q2,hm⟩:=Ag hm;refine oB q2 λ_ q3 q2=>U4 0 Ao 8 2<|Jj 0 (E:=Ak) (xs:=a0.L) 26 λhle1=>gF (EM _ _ _) q3 (λp0 (p_0,p_1)=>⟨[(1,.d (.i a1)),(7,sl eI p_0),(8,.ow 1),(26,sl Ak a0.L),(27,.d (.i (a0.L.length:Int))),(28,.d (.i p0)),(2,.pb 0 0)],[(0,.row 1 2 _ Ao p_1),(1,.box 0 [.d (.i a0.Id),.d (.u a0.Key),.d (.i a0.Delay),sl Ak a0.L,sl eI a0.Hide,sl Ak a0.Wait] 82)],[],2⟩) λi1 s1 Jl bl1=>cM bl1 (a0.L.length:Int) (λ_ q6 bl1=> ?_) λe=> ?_
 ·refine oB q6 λx5 q8 q6=>gx Ak 2 q8 ?_;obtain⟨x6,q9,q6⟩:=Ag q6;refine oB q9 λ_ q10 q9=>gxG eI 1 q10<|gj (λ(_:Unit)=>let (y_0,y_1):=x6; ⟨[(1,.d (.i a1)),(7,sl eI y_0),(8,.ow 1),(11,sl eB y_1),(26,sl Ak a0.L),(27,.d (.i (a0.L.length:Int))),(28,.d (.i (i1:Int))),(10,.pb 2 0),(2,.pb 0 0)],[(0,.box 2 [sl eB x5.Body,.d (.i x5.At)] 222),(1,.row 1 2 _ Ao s1.2),(2,.box 0 [.d (.i a0.Id),.d (.u a0.Key),.d (.i a0.Delay),sl Ak a0.L,sl eI a0.Hide,sl Ak a0.Wait] 82)],[],3⟩) (λ_=>True) (λJp bk3=> ?_) λ_ _=> ?_
  ·refine gi q9 ?_ ?_<;>intro _ q9
   ·refine oB q9 λ_ q11 q9=>gk eI 1 q11<|gi q9 ?_ ?_<;>intro _ q9
    ·refine gq eB 1 [0]<|gq (eL eB) 1 [([0]:List UInt8),x5.Body]<|gD q9 GC λ_ q12 q9=> ?_;obtain rfl:=AnO q9;exact gb bk3 hd () trivial
    obtain rfl:=AnO q9;exact gb bk3 hd () trivial
   obtain rfl:=AnO q9;exact gb bk3 hd () trivial
  exact gA q6 JE λx10 q13 q6=>gq Ao 2 [x10]<|oB q6 λ_ q14 q6=>gp Ao 2 q14<|gM bl1 hle1 q6
 subst e;obtain rfl:=AnO q2;exact AnO hm▸gE
def OB (a0:g_api_Log)(a1:Int)(a2:Int):Option ((List (UInt64×UInt64))×Int):=Ab (Rg a0 a1) λx1=>if(x1.2 !=0)=true then some (([]:List (UInt64×UInt64)),x1.2)else if((decide (a2<0))||(decide (a2>(x1.1.length:Int))))=true then some (([]:List (UInt64×UInt64)),80)else if(0:Int)<=a2/\a2<=(x1.1.length:Int)then some ((x1.1.take a2.toNat),0)else none
theorem Su {a0 a1 a2 r}(hm:OB a0 a1 a2=some r):Sp prog 98 [ag (Av a0),.d (.i a1),.d (.i a2)] [] 0 (is (.tup [.ow 0,.d (.i r.2)]) [.row 0 2 _ Ao r.1] 1):=by
 refine sq ?_;intros;refine gD hm Xl λ_ q1 hm=>gi hm ?_ ?_<;>intro _ hm
 ·refine Tr Ao 6 2 ?_;exact AnO hm▸gE
 refine gi hm ?_ ?_<;>intro _ hm
 ·refine Tr Ao 6 2 ?_;exact AnO hm▸gE
 obtain⟨⟨q2,q3⟩,hm⟩:=A2 hm;refine gcO Ao 2 q2 q3 ?_;exact AnO hm▸gE
def C7 (a0:List (UInt64×UInt64)):Option (List (UInt64×UInt64)):=Ab (app 16 ([]:List (UInt64×UInt64)) a0) λx1=>some x1
theorem IX {a0 r}(hm:C7 a0=some r):Sp prog 258 [sl Ao a0] [] 0 (is (.ow 0) [.row 0 2 _ Ao r] 1):=by
 refine sq ?_;intros;unfold C7 at hm;refine gnq Ao a0 (λhe1=> ?_) ?_
 ·rw[he1]at hm;replace hm:(some ([]:List (UInt64×UInt64)))=some _:=hm;refine Tr Ao 2 2 ?_;exact AnO hm▸gE
 refine Sa (k:=2) Ao ([]:List (UInt64×UInt64)) (λ_=>rfl)<|oB hm λ_ q1 hm=>gp Ao 2 q1 ?_;exact AnO hm▸gE
def Qf (x11:Int)(s3:Int×(List (UInt64×UInt64))):Option ((Int×(List (UInt64×UInt64)))⊕((List (UInt64×UInt64)))):=if(decide (s3.1<x11))=true then Ab (idx s3.2 (w64 (2*s3.1))) λx14=>Ab (idx s3.2 (w64 ((w64 (2*s3.1))+1))) λx15=>Ab (Kz x14 x15) λx16=>Ab (idx s3.2 s3.1) λx17=>bnd (s3.2.set s3.1.toNat x16) λx18=>some (.inl ((w64 (s3.1+1)),x18))else some (.inr s3.2)
def Qg (s2:(List (UInt64×UInt64))):Option (((List (UInt64×UInt64)))⊕((List (UInt64×UInt64)))):=if(decide ((s2.length:Int)>1))=true then Ab (bnd (w64 (Int.tdiv (s2.length:Int) 2)) λx11=>Ab (iter (Qf x11) AY (0,s2)) λx12=>some x12) λx10=>bnd (w64 (Int.tdiv (x10.length:Int) 2)) λx19=>if(0:Int)<=x19/\x19<=(x10.length:Int)then some (.inl (x10.take x19.toNat))else none else some (.inr s2)
def Qh {σ:Type}(p0:σ->Ay->Option (Bool×σ))(s1:(List (UInt64×UInt64))×σ):Option (((List (UInt64×UInt64))×σ)⊕(((List (UInt64×UInt64))×σ)⊕((List (UInt64×UInt64))×σ))):=if(decide ((s1.1.length:Int)>0))=true then Ab (Mo (toU (s1.1.length:Int))) λx3=>if(0:Int)<=(w64 (x3-1))then bnd ((Abf 1 ((w64 (x3-1)).toNat))) λx4=>Ab (cut s1.1 0 x4) λx5=>Ab (C7 x5) λx6=>Ab (Ab (iter Qg AY x6) λx8=>some x8) λx7=>Ab (idx x7 0) λx20=>Ab (p0 s1.2 (⟨x4,x20⟩:Ay)) λx21=>if(!x21.1)=true then some (.inr (.inr (s1.1,x21.2)))else Ab (cut s1.1 x4 (s1.1.length:Int)) λx22=>some (.inl (x22,x21.2))else none else some (.inr (.inl (s1.1,s1.2)))
def NB {σ:Type}(p0:σ->Ay->Option (Bool×σ))(k0:List (UInt64×UInt64))(s0:σ):Option ((List (UInt64×UInt64))×σ):=Ab (iter (Qh p0) AY (k0,s0)) λx1=>match x1 with| .inr r=>some r| .inl y1=>some (y1.1,y1.2)
theorem SW {σ:Type}{p0:σ->Ay->Option (Bool×σ)}{k0 s0 r}(hm:NB p0 k0 s0=some r)(g:Value)(R:σ->Mem->Ow)(hcb:Adm prog g (λx=> [ag (AB x)]) R p0):Sp prog 257 [.ow 0,.pb 1 0] [.hp 0 (.cb g σ R s0),.box 1 [sl Ao k0] 65] 2 (is (.tup []) [.hp 0 (.cb g σ R r.2),.box 1 [.d (.sl _ Ao r.1)] 65] 2):=by
 refine sq ?_;intros;refine oB hm λ_ q1 hm=>gI q1 (λ(p_0,p_1)=>⟨[(0,.ow 0),(1,.pb 1 0)],[(0,.box 1 [sl Ao p_0] 65),(1,.hp 0 (.cb g σ R p_1))],[],2⟩) λs1 _ Jl q4 bl1=>gi q4 ?_ ?_<;>intro _ q4
 ·refine gA q4 OW λx3 q6 q4=> ?_;obtain⟨q7,q4⟩:=A2 q4;refine gsh (r:= .i (Abf 1 ((w64 (x3-1)).toNat))) (λh=>q7)<|bE q4 ?_;intro x4 q4;refine oB q4 λ_ q9 q4=>gk Ao 2 q9<|gD q4 IX λ_ q10 q4=> ?_;obtain⟨x7,q11,q4⟩:=Ag q4;refine oB q11 λx8 q12 q11=>gI q12 (λp=>⟨[(0,.ow 0),(1,.pb 1 0),(3,.d (.i x4)),(4,.ow 2)],[(0,.row 2 2 _ Ao p),(1,.box 1 [sl Ao s1.1] 65),(2,.hp 0 (.cb g σ R s1.2))],[],3⟩) λs2 _ Jl q15 bl2=>gi q15 ?_ ?_<;>intro _ q15
  ·obtain⟨x10,q17,q15⟩:=Ag q15;refine bE q17 ?_;intro x11 q17;refine oB q17 λx12 q19 q17=>gI q19 (λ(p_0,p_1)=>⟨[(0,.ow 0),(1,.pb 1 0),(3,.d (.i x4)),(4,.ow 2),(24,.d (.i x11)),(25,.d (.i p_0))],[(0,.row 2 2 _ Ao p_1),(1,.box 1 [sl Ao s1.1] 65),(2,.hp 0 (.cb g σ R s1.2))],[],3⟩) λs3 _ Jl q22 bl3=>gi q22 ?_ ?_<;>intro _ q22
   ·refine oB q22 λ_ q24 q22=>Jk (E:=Ao) (λ_=>q24)<|AaD (k:=2) (fo:=0) (nn:=2) (ag:=true) (E:=Ao) (λ_=>rfl) (λ_=>q24)<|oB q22 λ_ q25 q22=>Jk (E:=Ao) (λ_=>q25)<|AaD (k:=2) (fo:=0) (nn:=2) (ag:=true) (E:=Ao) (λ_=>rfl) (λ_=>q25)<|gA q22 MD λx16 q26 q22=>oB q22 λ_ q27 q22=>Jk (E:=Ao) (λ_=>q27)<|bE q22 ?_;intro _ q22;exact AhO (k:=2) (E:=Ao) x16 (λ_=>rfl) q27<|gN bl3 q22
   obtain rfl:=nR bl3 q22;let x12:=s3.2;obtain rfl:=AnO q17;refine bE q15 ?_;intro _ q15;obtain⟨⟨q30,q31⟩,q15⟩:=A2 q15;exact gcO Ao 2 q30 q31<|gN bl2 q15
  obtain rfl:=nR bl2 q15;let x8:=s2;obtain rfl:=AnO q11;refine oB q4 λx20 q32 q4=>Jk (E:=Ao) (λ_=>q32)<|AaD (k:=2) (fo:=0) (nn:=2) (ag:=true) (E:=Ao) (λ_=>rfl) (λ_=>q32)<|oB q4 λ_ q33 q4=>gcb (⟨x4,x20⟩:Ay) hcb q33<|gi q4 ?_ ?_<;>intro _ q4
  ·obtain rfl:=nR bl1 q4;exact AnO hm▸gE
  exact oB q4 λ_ q34 q4=>gk Ao 2 q34<|gN bl1 q4
 obtain rfl:=nR bl1 q4;let y1:=(s1.1,s1.2);exact AnO hm▸gE
def PC (a0:List (UInt64×UInt64)):Option (List (UInt64×UInt64)):=some a0
theorem VD {a0 r}(hm:PC a0=some r):Sp prog 182 [sl Ao a0] [] 0 (is (.fn (.func 257) [] [.pb 0 0]) [.box 0 [sl Ao r] 65] 1):=by
 refine sq ?_;intros;exact AnO hm▸gE
def EO (s1:Int×Int×(List Ay)):Option ((Int×Int×(List Ay))⊕((List Ay))):=if(decide (s1.1<s1.2.1))=true then Ab (idx s1.2.2 s1.2.1) λx4=>Ab (idx s1.2.2 s1.1) λx5=>Ab (idx s1.2.2 s1.1) λx6=>bnd (s1.2.2.set s1.1.toNat x4) λx7=>Ab (idx x7 s1.2.1) λx8=>bnd (x7.set s1.2.1.toNat x5) λx9=>some (.inl ((w64 (s1.1+1)),(w64 (s1.2.1-1)),x9))else some (.inr s1.2.2)
def CX (a0:List Ay):Option (List Ay):=bnd ((w64 ((a0.length:Int)-1))) λx1=>Ab (iter EO AY (0,x1,a0)) λx2=>some x2
theorem Fx {a0 r}(hm:CX a0=some r):Sp prog 183 [.ow 0] [.row 0 3 _ AB a0] 1 (is (.tup []) [.row 0 3 _ AB r] 1):=by
 refine sq ?_;intros;refine bE hm ?_;intro _ hm;refine oB hm λ_ q2 hm=>gI q2 (λ(p_0,p_1,p_2)=>⟨[(0,.ow 0),(2,.d (.i p_0)),(3,.d (.i p_1))],[(0,.row 0 3 _ AB p_2)],[],1⟩) λs1 _ Jl q5 bl1=>gi q5 ?_ ?_<;>intro _ q5
 ·refine oB q5 λx4 q7 q5=>Jk (E:=AB) (λ_=>q7)<|AaD (k:=3) (fo:=0) (nn:=3) (ag:=true) (E:=AB) (λ_=>rfl) (λ_=>q7)<|oB q5 λx5 q8 q5=>Jk (E:=AB) (λ_=>q8)<|AaD (k:=3) (fo:=0) (nn:=3) (ag:=true) (E:=AB) (λ_=>rfl) (λ_=>q8)<|oB q5 λ_ q9 q5=>Jk (E:=AB) (λ_=>q9)<|bE q5 ?_;intro _ q5;refine AhO (k:=3) (E:=AB) x4 (λ_=>rfl) q9<|oB q5 λ_ q11 q5=>Jk (E:=AB) (λ_=>q11)<|bE q5 ?_;intro _ q5;exact AhO (k:=3) (E:=AB) x5 (λ_=>rfl) q11<|gN bl1 q5
 obtain rfl:=nR bl1 q5;exact AnO hm▸gE
def AW (b3:Ay)(s1:(List Ay)):Option ((List Ay)):=Ab (app 24 s1 ([b3]:List Ay)) λx2=>some x2
def A1 (a0:List Ay)(k0:List (UInt64×UInt64)):Option ((List Ay)×(List (UInt64×UInt64))):=Ab (NB (λ(s:(List Ay)) (b0:Ay)=>Ab (AW b0 s) λy=>some (true,y)) k0 a0) λx1=>some (x1.2,x1.1)
theorem D6 {a0 k0 r}(hm:A1 a0 k0=some r):Sp prog 256 [.ow 0,.fn (.func 257) [] [.pb 1 0]] [.row 0 3 _ AB a0,.box 1 [sl Ao k0] 65] 2 (is (.ow 2) [.box 1 [.d (.sl _ Ao r.2)] 65,.row 2 3 _ AB r.1] 3):=
 spR call256 func256 rfl ntmps256 rfl λD0 As u4 m0 hD hd=>by
  unfold A1 at hm;refine oB hm λx1 q1 hm=>OL hD (n0:=2) 3 4 [⟨2,1,65,[sl Ao k0],[sl Ao x1.1]⟩] (gt:=6) (ps:=[7]) [(2,.pb 2 0),(6,.fn (.func 257) [] [.pb 1 0])] (λ(y1:(List Ay))=> [(0,.row 3 3 _ AB y1),(1,.box 2 [.ow 3] 238)]) (λ(_:Unit)=> []) (λx=> [ag (AB x)]) (λ(s1:(List Ay)) (b3:Ay)=>⟨[(2,.pb 2 0),(5,.pb 4 0),(6,.fn (.func 257) [] [.pb 1 0])],[(0,.box 4 [.d (.i b3.size_),.d (.u b3.root_.1),.d (.u b3.root_.2)] 241),(1,.row 3 3 _ AB s1),(2,.box 2 [.ow 3] 238)],[],5⟩) (pN λx s=>AW x s) a0 hd (via Sum.inl hyN rfl λg R h=>SW q1 g R h) rfl (λ_=>rfl) (λ_=>rfl) (λ_=>rfl) (λ_=>rfl) ?_ ?_ ?_ ?_
  ·intro s1 b3 s' hp l D0 As u4 m0 hd Ja ba;exact gb ba hd () trivial
  ·intro s1 b3 s' hp l D0 As u4 m0 hd Jb bb Jr br;obtain⟨z1,q2,hp⟩:=AnZ.1 hp;subst hp;unfold AW at q2;refine gq AB 3 [b3]<|oB q2 λx2 q3 q2=>gp AB 3 q3 ?_;obtain rfl:=AnO q2;exact gb bb hd x2 rfl
  ·intro x hx;have hx:=Sum.inl.inj hx;subst hx;exact AnO hm▸gE
  intro y hy;cases hy
def DS (k0:List (UInt64×UInt64)):Option ((List Ay)×(List (UInt64×UInt64))):=Ab (A1 ([]:List Ay) k0) λx1=>some (x1.1,x1.2)
theorem HF {k0 r}(hm:DS k0=some r):Sp prog 181 [.fn (.func 257) [] [.pb 0 0]] [.box 0 [sl Ao k0] 65] 1 (is (.ow 1) [.box 0 [.d (.sl _ Ao r.2)] 65,.row 1 3 _ AB r.1] 2):=by
 refine sq ?_;intros;refine oB hm λ_ q1 hm=>gco (Sp.nilR [.fn (.func 257) [] [.pb 0 0]] [.box 0 [sl Ao k0] 65] 1 (D6 q1) rfl) ?_;exact AnO hm▸gE
def To (i1:Int)(x9:Ay)(s1:UInt64×UInt64):Option (UInt64×UInt64):=Ab (Kz x9.root_ s1) λx10=>some (x10.1,x10.2)
def JV (a0:List (UInt64×UInt64)):Option (UInt64×UInt64):=Ab (PC a0) λx1=>Ab (DS x1) λx2=>if((x2.1.length:Int)==0)=true then Ab (C2 (⟨#[101,109,112,116,121]⟩:ByteArray) ([]:List (List UInt8))) λx3=>some x3 else Ab (CX x2.1) λx4=>Ab (idx x4 0) λx5=>Ab (Ab (cut x4 1 (x4.length:Int)) λx7=>Ab (FE To x7 0 (x5.root_.1,x5.root_.2)) λx8=>some (x8.1,x8.2)) λx6=>some x6
theorem QI {a0 r}(hm:JV a0=some r):Sf prog 100 [sl Ao a0] (ag (Ao r)):=by
 refine sq ?_;intros;refine gD hm VD λ_ q1 hm=>gD hm HF λx2 q2 hm=>gi hm ?_ ?_<;>intro _ hm
 ·refine gA hm EK λ_ q3 hm=> ?_;exact AnO hm▸gE
 refine gD hm Fx λ_ q4 hm=>oB hm λ_ q5 hm=>Jk (E:=AB) (λ_=>q5)<|AaD (k:=3) (fo:=1) (nn:=2) (ag:=true) (E:=AB) (λ_=>rfl) (λ_=>q5) ?_;obtain⟨x6,q6,hm⟩:=Ag hm;refine oB q6 λx7 q7 q6=>gcutF (k:=3) (E:=AB) (λ_=>rfl) q7<|oB q6 λ_ q8 q6=>Jj 0 (E:=AB) (xs:=x7) 21 λhle1=>gF (E0 _ _ _) q8 (λp0 (p_0,p_1)=>⟨[(2,.pb 0 0),(4,.pb 2 0),(21,sl AB x7),(22,.d (.i (x7.length:Int))),(23,.d (.i p0))],[(0,.box 2 [.d (.u p_0),.d (.u p_1)] 34),(1,.box 1 [sl Ao x2.2] 65),(2,.box 0 [.d (.u 0),.d (.u 0)] 34)],[],3⟩) λi1 s1 Jl bl1=>c0 bl1 (λ_ _ q12 q11 bl1=> ?_) λe=> ?_
 ·exact gx AB 3 q12<|gA q11 MD λ_ q13 q11=>gM bl1 hle1 q11
 subst e;obtain rfl:=AnO q6;exact AnO hm▸gE
theorem XD {m:Mem}{As:List Ow}{w:World}{a0:List (UInt64×UInt64)}{a0v0:Value}{r:UInt64×UInt64}(S:St m As w)(a0h0:SlR m a0v0 a0)(hm:JV a0=some r):
  C0 prog 100 #[a0v0] w λv w'=> ∃(M:Mem),m<=M/\St M (As) w'/\v= .agg #[vU r.1,vU r.2]:=by
 refine C0.mono ((QI hm).2 none0 m As w [a0v0] (.cons (.d (Br.toS Sk a0h0)) .nil) (λn h=>absurd rfl h) S) ?_;rintro v w' ⟨M,u5,r',obs',n1,hle,_,⟨rfl,rfl,rfl⟩,hdom,hR,S'⟩;obtain⟨c0,rfl,g0⟩:=Br.ofA Sk hR;obtain rfl:=UB g0;exact⟨M,hle,S',rfl⟩
def Nb (a0:Int):Option Int:=Ab (Mo (toU (w64 (a0-1)))) λx1=>if(0:Int)<=(w64 (x1-1))then bnd ((Abf 1 ((w64 (x1-1)).toNat))) λx2=>some x2 else none
theorem Xj {a0 r}(hm:Nb a0=some r):Sf prog 254 [.d (.i a0)] (.d (.i r)):=by
 refine sq ?_;intros;refine gA hm OW λx1 q1 hm=> ?_;obtain⟨q2,hm⟩:=A2 hm;refine gsh (r:= .i (Abf 1 ((w64 (x1-1)).toNat))) (λh=>q2)<|bE hm ?_;intro _ hm;exact AnO hm▸gE
theorem XC {m:Mem}{As:List Ow}{w:World}{a0:Int}{r:Int}(S:St m As w)(hm:Nb a0=some r):
  C0 prog 254 #[vI a0] w λv w'=> ∃(M:Mem),m<=M/\St M (As) w'/\v=vI r:=by
 refine C0.mono ((Xj hm).2 none0 m As w [vI a0] (.cons (.d (.i _)) .nil) (λn h=>absurd rfl h) S) ?_;rintro v w' ⟨M,u5,r',obs',n1,hle,_,⟨rfl,rfl,rfl⟩,hdom,hR,S'⟩;obtain rfl:=hR.i_inv;exact⟨M,hle,S',rfl⟩
def G0:Nat->(List (UInt64×UInt64))->Int->(List (UInt64×UInt64))->Option (List (UInt64×UInt64))
 |0,_,_,_=>none
 |n+1,a0,a1,k1=>
  if((a0.length:Int)==1)=true then
   some k1
  else
  Ab (Nb (a0.length:Int)) λx1=>
  Ab (cut a0 0 x1) λx2=>
  Ab (cut a0 x1 (a0.length:Int)) λx3=>
  Ab (
   if(decide (a1>=x1))=true then
    some ((w64 (a1-x1)),x3,x2)
   else
   some (a1,x2,x3)
  ) λx4=>
  Ab (G0 n x4.2.1 x4.1 k1) λx5=>
  Ab (JV x4.2.2) λx6=>
  Ab (app 16 x5 ([x6]:List (UInt64×UInt64))) λx7=>
  some x7
def NC (a0:List (UInt64×UInt64))(a1:Int)(k1:List (UInt64×UInt64)):Option (List (UInt64×UInt64)):=G0 AY a0 a1 k1
theorem RC (n:Nat): ∀{m:Mem} {As:List Ow} {w:World} {a0:List (UInt64×UInt64)} {a0v0:Value} {a1:Int} {kb0:Nat} {kb1:Nat} {k1:List (UInt64×UInt64)} {k1v0:Value} {k1c0:List Value} {r:List (UInt64×UInt64)} (S:St m ((bx kb0 [.func (.func 253) #[] #[pt kb0 0,pt kb1 0]] 294)::(bx kb1 [k1v0] 65)::(row 2 k1v0 k1c0 k1.length)::As) w) (a0h0:SlR m a0v0 a0) (k1h0:Cl m k1c0 k1) (hm:G0 n a0 a1 k1=some r),
  C0 Tryz.prog 253 #[a0v0,vI a1,pt kb0 0,pt kb1 0] w λv w'=> ∃(M:Mem),m<=M/\∃(rbv1:Value) (rbc1:List Value),St M ((bx kb1 [rbv1] 65)::(row 2 rbv1 rbc1 r.length)::(bx kb0 [.func (.func 253) #[] #[pt kb0 0,pt kb1 0]] 294)::As) w'/\v= .tuple #[]/\Cl M rbc1 r:=by
 induction n with
 |zero=>intro m As w a0 a0v0 a1 kb0 kb1 k1 k1v0 k1c0 r S a0h0 k1h0 hm; cases hm
 |succ n ih=>
  intro m As w a0 a0v0 a1 kb0 kb1 k1 k1v0 k1c0 r S a0h0 k1h0 hm;unfold G0 at hm;have L0:=Mem.rfl' m;refine Rx (args:=[a0v0,vI a1,pt kb0 0,pt kb1 0]) Tryz.func253 rfl Tryz.ntmps253 (An5 rfl) ?_;refine AL ?_;refine AL ?_;refine Aw ?_;refine AT (v:=a0v0) rfl ?_;refine Zx (xs:=a0) rfl a0h0 Tryz.underlying65 ?_;refine Aim (m:=(a0.length:Int)) (n:=1) rfl rfl ?_;refine AF ?_;refine nrm ?_;refine J8 (t:=((a0.length:Int)==1)) rfl (λhc1=> ?_) (λhc1=> ?_)
  ·replace hm:=ifT hc1 hm;refine J7 ?_;refine thR ?_;refine UJ ?_;intro we hpd;replace S:=St.pd S hpd;have S1:St _ ((bx kb1 [k1v0] 65)::(row 2 k1v0 k1c0 k1.length)::(bx kb0 [.func (.func 253) #[] #[pt kb0 0,pt kb1 0]] 294)::As) _:=St.perm S (List.Perm.trans (List.Perm.swap _ _ _) (List.Perm.cons _ (List.Perm.swap _ _ _)));obtain rfl:=AnO hm;exact Aeo [] rfl trivial ⟨_,L0,_,_,S1,rfl,k1h0⟩
  replace hm:=ifF hc1 hm;refine F8 ?_;refine nrm ?_;refine AL ?_;refine Aw ?_;refine AT (v:=a0v0) rfl ?_;refine Zx (xs:=a0) rfl a0h0 Tryz.underlying65 ?_;obtain⟨x1,q1,hm⟩:=Ag hm;refine Aff Tryz.call254 (XC (a0:=(a0.length:Int)) S q1) rfl ?_;rintro _ w1 ⟨m1,l1,S2,rfl⟩;replace a0h0:=a0h0.up l1;replace k1h0:=Cl.up l1 k1h0;replace L0:=Mem.tr L0 l1;clear S;replace S2:St _ ((bx kb0 [.func (.func 253) #[] #[pt kb0 0,pt kb1 0]] 294)::(bx kb1 [k1v0] 65)::(row 2 k1v0 k1c0 k1.length)::As) _:=S2;refine Gy (v:=vI x1) rfl ?_;refine AF ?_;refine nrm ?_;refine AL ?_;obtain⟨x2,q2,hm⟩:=Ag hm;obtain⟨x3,q3,hm⟩:=Ag hm;have HM:KM [(15,fv a0v0),(16,fv (vI x1)),(17,λ(M:Mem) (v:Value)=> ∃(v1:Value),v=v1/\SlR M v1 x2),(18,fv a0v0),(19,fv (vI x1)),(20,λ(M:Mem) (v:Value)=> ∃(v2:Value),v=v2/\SlR M v2 x3),(7,λ(M:Mem) (v:Value)=> ∃(v3:Value),v=v3/\SlR M v3 x2)]:=⟨mv,mv,(λ_ _ _ l ⟨v1,e,h1⟩=>⟨v1,e,h1.up l⟩),mv,mv,(λ_ _ _ l ⟨v2,e,h2⟩=>⟨v2,e,h2.up l⟩),(λ_ _ _ l ⟨v3,e,h3⟩=>⟨v3,e,h3.up l⟩),trivial⟩;refine Qt HM 7 AiW rfl rfl rfl [7,15,16,17,18,19,20] (λL f M w=>St M ((bx kb0 [.func (.func 253) #[] #[pt kb0 0,pt kb1 0]] 294)::(bx kb1 [k1v0] 65)::(row 2 k1v0 k1c0 k1.length)::As) w) (St.drew S2 _) ?_ ?_
  ·refine⟨?_,?_,?_,?_,?_,?_,?_,trivial⟩
   ·exact flp HM rfl [] (λ_ _=>trivial) (λ_ _ q=>AT (v:=a0v0) rfl q) rfl
   ·exact flp HM rfl [] (λ_ _=>trivial) (λ_ _ q=>AT (v:=vI x1) rfl q) rfl
   ·intro L f3 w4 hL hd hc ⟨m4,L5,S5,K,hO⟩;have d0:L 0=true:=dep hd rfl;have e1:=K 0 d0;have d1:L 1=true:=dep hd rfl;have e2:=K 1 d1;obtain⟨u3,rfl⟩:=No (N:=38) (L:=[(15,a0v0),(16,vI x1)]) hO ⟨e1,e2,trivial⟩;replace S5:St _ ((bx kb0 [.func (.func 253) #[] #[pt kb0 0,pt kb1 0]] 294)::(bx kb1 [k1v0] 65)::(row 2 k1v0 k1c0 k1.length)::As) _:=S5;replace a0h0:=a0h0.up L5;replace k1h0:=Cl.up L5 k1h0;have L6:=Mem.rfl' m4;refine Ain (ys:=x2) (l:=0) (h:=x1) rfl a0h0 Tryz.underlying65 Tryz.sizeOf34 (.inl ⟨rfl,rfl⟩) (.inr ⟨_,rfl⟩) (.inl rfl) q2 ?_;intro v1 h1;refine wpn ?_;refine⟨m4,Mem.tr L5 L6,?_,J6 HM rfl K L6 rfl rfl ⟨v1,rfl,h1⟩,Wj⟩;exact S5
   ·exact flp HM rfl [] (λ_ _=>trivial) (λ_ _ q=>AT (v:=a0v0) rfl q) rfl
   ·exact flp HM rfl [] (λ_ _=>trivial) (λ_ _ q=>AT (v:=vI x1) rfl q) rfl
   ·intro L f6 w7 hL hd hc ⟨m7,L11,S8,K,hO⟩;have d3:L 3=true:=dep hd rfl;have e3:=K 3 d3;have d4:L 4=true:=dep hd rfl;have e4:=K 4 d4;obtain⟨u6,rfl⟩:=No (N:=38) (L:=[(18,a0v0),(19,vI x1)]) hO ⟨e3,e4,trivial⟩;replace S8:St _ ((bx kb0 [.func (.func 253) #[] #[pt kb0 0,pt kb1 0]] 294)::(bx kb1 [k1v0] 65)::(row 2 k1v0 k1c0 k1.length)::As) _:=S8;replace a0h0:=a0h0.up L11;replace k1h0:=Cl.up L11 k1h0;have L12:=Mem.rfl' m7;refine Ain (ys:=x3) (l:=x1) (h:=(a0.length:Int)) rfl a0h0 Tryz.underlying65 Tryz.sizeOf34 (.inr ⟨_,rfl⟩) (.inl ⟨rfl,rfl⟩) (.inl rfl) q3 ?_;intro v2 h2;refine wpn ?_;refine⟨m7,Mem.tr L11 L12,?_,J6 HM rfl K L12 rfl rfl ⟨v2,rfl,h2⟩,Wj⟩;exact S8
   ·intro L f7 w8 hL hd hc ⟨m8,L13,S9,K,hO⟩;have d2:L 2=true:=dep hd rfl;obtain⟨v3,e5,h3⟩:=K 2 d2;obtain⟨u7,rfl⟩:=No (N:=38) (L:=[(17,v3)]) hO ⟨e5,trivial⟩;replace S9:St _ ((bx kb0 [.func (.func 253) #[] #[pt kb0 0,pt kb1 0]] 294)::(bx kb1 [k1v0] 65)::(row 2 k1v0 k1c0 k1.length)::As) _:=S9;have L14:=Mem.rfl' m8;refine Gy (v:=v3) rfl ?_;refine wpn ?_;refine⟨m8,Mem.tr L13 L14,?_,J6 HM rfl K L14 rfl rfl ⟨v3,rfl,h3⟩,Wj⟩;exact S9
  intro L f8 w9 hall ⟨m9,L15,S10,K,hO⟩;have d6:L 6=true:=hall 6 (by decide);obtain⟨v4,e6,h4⟩:=K 6 d6;have d5:L 5=true:=hall 5 (by decide);obtain⟨v5,e7,h5⟩:=K 5 d5;obtain⟨u8,rfl⟩:=No (N:=38) (L:=[(7,v4),(20,v5)]) hO ⟨e6,e7,trivial⟩;replace S10:St _ ((bx kb0 [.func (.func 253) #[] #[pt kb0 0,pt kb1 0]] 294)::(bx kb1 [k1v0] 65)::(row 2 k1v0 k1c0 k1.length)::As) _:=S10;replace a0h0:=a0h0.up L15;replace k1h0:=Cl.up L15 k1h0;replace L0:=Mem.tr L0 L15;clear S2;refine Gy (v:=v5) rfl ?_;refine AF ?_;refine nrm ?_;obtain⟨x4,q4,hm⟩:=Ag hm;have L16:=Mem.rfl' m9;refine AL ?_;refine Mv [1,7,8,21,22,23,24,25,26,27,28] (λf' w'=> ∃(M1:Mem) (v6:Value) (v7:Value),m9<=M1/\St M1 ((bx kb0 [.func (.func 253) #[] #[pt kb0 0,pt kb1 0]] 294)::(bx kb1 [k1v0] 65)::(row 2 k1v0 k1c0 k1.length)::As) w'/\SlR M1 v6 x4.2.1/\SlR M1 v7 x4.2.2/\Tw f' [(1,vI x4.1),(7,v6),(8,v7)]) ?_ ?_
  ·refine AL ?_;refine Aw ?_;refine AT (v:=vI a1) rfl ?_;refine AT (v:=vI x1) rfl ?_;refine AlW (m:=a1) (n:=x1) rfl rfl ?_;refine AF ?_;refine nrm ?_;refine J8 (t:=(decide (a1>=x1))) rfl (λhc2=> ?_) (λhc2=> ?_)
   ·replace q4:=ifT hc2 q4;refine Aw ?_;refine AT (v:=v5) rfl ?_;refine AT (v:=v4) rfl ?_;refine AT (v:=vI a1) rfl ?_;refine AT (v:=vI x1) rfl ?_;refine QY (m:=a1) (n:=x1) rfl rfl ?_;refine Gy (v:=v5) rfl ?_;refine Gy (v:=v4) rfl ?_;refine Gy (v:=vI (w64 (a1-x1))) rfl ?_;refine AF ?_;refine nrm ?_;obtain rfl:=AnO q4;exact⟨Wj,m9,_,_,L16,S10,h5,h4,⟨rfl,rfl,rfl,trivial⟩⟩
   replace q4:=ifF hc2 q4;refine F8 ?_;refine nrm ?_;obtain rfl:=AnO q4;exact⟨Wj,m9,_,_,L16,S10,h4,h5,⟨rfl,rfl,rfl,trivial⟩⟩
  rintro f9 w10 ho ⟨m10,v6,v7,l2,S11,h6,h7,ha⟩;obtain⟨u9,rfl⟩:=No (N:=38) ho ha;replace k1h0:=Cl.up l2 k1h0;replace L0:=Mem.tr L0 l2;clear S10;refine AL ?_;refine Aw ?_;refine s_ld (i:=0) (cs:=[.func (.func 253) #[] #[pt kb0 0,pt kb1 0]]) S11 rfl rfl Tryz.isAgg294 Tryz.sizeOf294 rfl (λ_=>rfl) ?_;refine AT (v:=v6) rfl ?_;refine AT (v:=vI x4.1) rfl ?_;obtain⟨x5,q5,hm⟩:=Ag hm;refine Afe rfl Tryz.call253 (ih (a0:=x4.2.1) (a1:=x4.1) (k1:=k1) S11 h6 k1h0 q5) rfl rfl ?_;rintro _ w11 ⟨m11,l3,v8,c1,S12,rfl,h8⟩;replace h7:=h7.up l3;replace h6:=h6.up l3;replace L0:=Mem.tr L0 l3;clear S11;replace S12:St _ ((bx kb1 [v8] 65)::(row 2 v8 c1 x5.length)::(bx kb0 [.func (.func 253) #[] #[pt kb0 0,pt kb1 0]] 294)::As) _:=S12;refine AF ?_;refine nrm ?_;obtain⟨x6,q6,hm⟩:=Ag hm;have HM:KM [(33,fv v8),(34,fv v7),(35,fv (.agg #[vU x6.1,vU x6.2])),(36,λ(M:Mem) (v:Value)=> ∃(v9:Value),v=v9/\SlR M v9 ([x6]:List (UInt64×UInt64)))]:=⟨mv,mv,mv,(λ_ _ _ l ⟨v9,e,h9⟩=>⟨v9,e,h9.up l⟩),trivial⟩;refine Qt HM 4 AiW rfl rfl rfl [33,34,35,36] (λL f M w=>St M ((bx kb1 [v8] 65)::(row 2 v8 c1 x5.length)::(bx kb0 [.func (.func 253) #[] #[pt kb0 0,pt kb1 0]] 294)::As) w) (St.drew S12 _) ?_ ?_
  ·refine⟨?_,?_,?_,?_,trivial⟩
   ·exact flp HM rfl [] (λ_ _=>trivial) (λ_ S13 q=>s_ld (i:=0) (cs:=[v8]) S13 rfl rfl Tryz.isAgg65 Tryz.sizeOf65 rfl (λ_=>rfl) q) rfl
   ·exact flp HM rfl [] (λ_ _=>trivial) (λ_ _ q=>AT (v:=v7) rfl q) rfl
   ·intro L f12 w14 hL hd hc ⟨m14,L21,S15,K,hO⟩;have d1:L 1=true:=dep hd rfl;have e8:=K 1 d1;obtain⟨u12,rfl⟩:=No (N:=38) (L:=[(34,v7)]) hO ⟨e8,trivial⟩;replace S15:St _ ((bx kb1 [v8] 65)::(row 2 v8 c1 x5.length)::(bx kb0 [.func (.func 253) #[] #[pt kb0 0,pt kb1 0]] 294)::As) _:=S15;replace h7:=h7.up L21;replace h8:=Cl.up L21 h8;have L22:=Mem.rfl' m14;refine Aff Tryz.call100 (XD (a0:=x4.2.2) S15 h7 q6) rfl ?_;rintro _ w15 ⟨m15,l4,S16,rfl⟩;replace h7:=h7.up l4;replace h8:=Cl.up l4 h8;replace L22:=Mem.tr L22 l4;clear S15;replace S16:St _ ((bx kb1 [v8] 65)::(row 2 v8 c1 x5.length)::(bx kb0 [.func (.func 253) #[] #[pt kb0 0,pt kb1 0]] 294)::As) _:=S16;refine wpn ?_;refine⟨m15,Mem.tr L21 L22,?_,J6 HM rfl K L22 rfl rfl rfl,Wj⟩;exact S16
   ·intro L f13 w16 hL hd hc ⟨m16,L23,S17,K,hO⟩;have d2:L 2=true:=dep hd rfl;have e9:=K 2 d2;obtain⟨u13,rfl⟩:=No (N:=38) (L:=[(35,.agg #[vU x6.1,vU x6.2])]) hO ⟨e9,trivial⟩;replace S17:St _ ((bx kb1 [v8] 65)::(row 2 v8 c1 x5.length)::(bx kb0 [.func (.func 253) #[] #[pt kb0 0,pt kb1 0]] 294)::As) _:=S17;replace h7:=h7.up L23;replace h8:=Cl.up L23 h8;have L24:=Mem.rfl' m16;refine s_litC (parts:=[.tmp 35]) (vs:=[.agg #[vU x6.1,vU x6.2]]) (cls:=[[vU x6.1,vU x6.2]]) (xs:=([x6]:List (UInt64×UInt64))) (n:=1) S17 Tryz.underlying65 Tryz.sizeOf34 Tryz.zeroValue34 rfl ⟨rfl,trivial⟩ (Cl.cons (c:=[vU x6.1,vU x6.2]) (x:=x6) VO Cl.nil) rfl rfl rfl (by decide) (by decide) ?_;intro v9 m17 w17 l5 S18 h9;replace h7:=h7.up l5;replace h8:=Cl.up l5 h8;replace L24:=Mem.tr L24 l5;clear S17;refine wpn ?_;refine⟨m17,Mem.tr L23 L24,?_,J6 HM rfl K L24 rfl rfl ⟨v9,rfl,h9⟩,Wj⟩;exact S18
  intro L f14 w18 hall ⟨m18,L25,S19,K,hO⟩;have d0:L 0=true:=hall 0 (by decide);have e10:=K 0 d0;have d3:L 3=true:=hall 3 (by decide);obtain⟨v10,e11,h10⟩:=K 3 d3;obtain⟨u14,rfl⟩:=No (N:=38) (L:=[(33,v8),(36,v10)]) hO ⟨e10,e11,trivial⟩;replace S19:St _ ((bx kb1 [v8] 65)::(row 2 v8 c1 x5.length)::(bx kb0 [.func (.func 253) #[] #[pt kb0 0,pt kb1 0]] 294)::As) _:=S19;replace h7:=h7.up L25;replace h8:=Cl.up L25 h8;replace L0:=Mem.tr L0 L25;clear S12;obtain⟨x7,q7,hm⟩:=Ag hm;refine Al6 (i:=1) (zs:=x7) (bytes:=16) (ti:=Tryz.t34) S19 rfl rfl h8 rfl rfl h10 q7 Tryz.underlying65 Tryz.type34 rfl rfl rfl rfl ?_;intro v11 c2 w19 S20 h11;replace S20:St _ ((bx kb1 [v8] 65)::(row 2 v11 c2 x7.length)::(bx kb0 [.func (.func 253) #[] #[pt kb0 0,pt kb1 0]] 294)::As) _:=S20;clear S19;refine s_stS (i:=0) S20 rfl rfl rfl Tryz.sizeOf65 (St.rowCells (i:=1) S20 rfl) rfl ?_;intro w20 S21;replace S21:St _ ((bx kb1 [v11] 65)::(row 2 v11 c2 x7.length)::(bx kb0 [.func (.func 253) #[] #[pt kb0 0,pt kb1 0]] 294)::As) _:=S21;clear S20;refine AF ?_;refine outNw ?_;intro we hpd;replace S21:=St.pd S21 hpd;obtain rfl:=AnO hm;exact Aeo [] rfl trivial ⟨_,L0,_,_,S21,rfl,h11⟩
theorem SX {m:Mem}{As:List Ow}{w:World}{a0}{a0v0:Value}{a1}{kb0:Nat}{kb1:Nat}{k1}{k1v0:Value}{k1c0:List Value}{r}(S:St m ((bx kb0 [.func (.func 253) #[] #[pt kb0 0,pt kb1 0]] 294)::(bx kb1 [k1v0] 65)::(row 2 k1v0 k1c0 k1.length)::As) w)(a0h0:SlR m a0v0 a0)(k1h0:Cl m k1c0 k1)(hm:NC a0 a1 k1=some r):
 C0 Tryz.prog 253 #[a0v0,vI a1,pt kb0 0,pt kb1 0] w λv w'=> ∃(M:Mem),m<=M/\∃(rbv1:Value) (rbc1:List Value),St M ((bx kb1 [rbv1] 65)::(row 2 rbv1 rbc1 r.length)::(bx kb0 [.func (.func 253) #[] #[pt kb0 0,pt kb1 0]] 294)::As) w'/\v= .tuple #[]/\Cl M rbc1 r:=RC AY S a0h0 k1h0 hm
def IT (a0:List (UInt64×UInt64))(a1:Int):Option ((List (UInt64×UInt64))×Int):=if(((decide ((a0.length:Int)>256))||(decide (a1<0)))||(decide (a1>=(a0.length:Int))))=true then some (([]:List (UInt64×UInt64)),80)else Ab (NC a0 a1 ([]:List (UInt64×UInt64))) λx1=>some (x1,0)
theorem VE {m As w a0}{a0v0:Value}{a1 r}(S:St m (As) w)(a0h0:SlR m a0v0 a0)(hm:IT a0 a1=some r):
  C0 Tryz.prog 179 #[a0v0,vI a1] w λv w'=> ∃(M:Mem),m<=M/\∃(rv0:Value) (rc0:List Value),St M ((row 2 rv0 rc0 r.1.length)::As) w'/\v= .tuple #[rv0,vI r.2]/\Cl M rc0 r.1:=by
 unfold IT at hm;have L0:=Mem.rfl' m;refine Rx (args:=[a0v0,vI a1]) Tryz.func179 rfl Tryz.ntmps179 (An5 rfl)<|AL<|Aw<|Gy (v:= .slice none 0 0) rfl<|Gy (v:=vI 0) rfl<|AF<|nrm<|AL<|AL ?_;refine Aw<|AT (v:=a0v0) rfl<|Zx (xs:=a0) rfl a0h0 Tryz.underlying65<|AdE (m:=(a0.length:Int)) (n:=256) rfl rfl<|AT (v:=vb (decide ((a0.length:Int)>256))) rfl<|Aet 3 [12,13,14] (λf' w'=>w'=w/\Tw f' [(14,vb ((decide ((a0.length:Int)>256))||(decide (a1<0))))]) ?_ ?_
 ·rcases Ahl (decide ((a0.length:Int)>256))with hb1|hb1
  ·exact NS (d:=11) rfl rfl (Aos Value.bool hb1)<|NS (d:=11) rfl rfl (Aos Value.bool hb1)<|P1 (Aos Value.bool hb1) rfl<|AF (nrm ⟨Wj,rfl,Aos Value.bool (or_t hb1),trivial⟩)
  ·exact NQ (d:=11) rfl rfl (Aos Value.bool hb1)<|AT (v:=vI a1) rfl<|NQ (d:=11) rfl rfl (Aos Value.bool hb1)<|Ae9 (m:=a1) (n:=0) rfl rfl<|P2 (Aos Value.bool hb1) rfl<|AF (nrm ⟨Wj,rfl,Aos Value.bool (or_f hb1),trivial⟩)
 rintro f1 w1 ho ⟨h1,ha⟩;subst h1;obtain⟨u1,rfl⟩:=No (N:=27) ho ha;refine AT (v:=vb ((decide ((a0.length:Int)>256))||(decide (a1<0)))) rfl<|Aet 5 [16,17,18,19,20] (λf' w'=>w'=w1/\Tw f' [(20,vb (((decide ((a0.length:Int)>256))||(decide (a1<0)))||(decide (a1>=(a0.length:Int)))))]) ?_ ?_
 ·rcases Ahl ((decide ((a0.length:Int)>256))||(decide (a1<0)))with hb2|hb2
  ·exact NS (d:=15) rfl rfl (Aos Value.bool hb2)<|NS (d:=15) rfl rfl (Aos Value.bool hb2)<|NS (d:=15) rfl rfl (Aos Value.bool hb2)<|NS (d:=15) rfl rfl (Aos Value.bool hb2)<|P1 (Aos Value.bool hb2) rfl<|AF (nrm ⟨Wj,rfl,Aos Value.bool (or_t hb2),trivial⟩)
  ·refine NQ (d:=15) rfl rfl (Aos Value.bool hb2)<|AT (v:=vI a1) rfl<|NQ (d:=15) rfl rfl (Aos Value.bool hb2)<|AT (v:=a0v0) rfl<|NQ (d:=15) rfl rfl (Aos Value.bool hb2)<|Zx (xs:=a0) rfl a0h0 Tryz.underlying65<|NQ (d:=15) rfl rfl (Aos Value.bool hb2)<|AlW (m:=a1) (n:=(a0.length:Int)) rfl rfl<|P2 (Aos Value.bool hb2) rfl ?_;exact AF (nrm ⟨Wj,rfl,Aos Value.bool (or_f hb2),trivial⟩)
 rintro f2 w2 ho ⟨h2,ha⟩;subst h2;obtain⟨u2,rfl⟩:=No (N:=27) ho ha;refine AF<|nrm<|J8 (t:=(((decide ((a0.length:Int)>256))||(decide (a1<0)))||(decide (a1>=(a0.length:Int))))) rfl (λhc1=> ?_) (λhc1=> ?_)
 ·replace hm:=ifT hc1 hm;refine AL<|Aw<|Gy (v:= .slice none 0 0) rfl<|Gy (v:=vI 80) rfl<|AF<|nrm<|J7<|thR<|UJ ?_;intro we hpd;replace S:=St.pd S hpd;have S1:=St.rowNil S 2;have h3:Cl m [] ([]:List (UInt64×UInt64)):=Cl.nil;replace S1:St _ ((row 2 (.slice none 0 0) [] ([]:List (UInt64×UInt64)).length)::As) _:=S1;clear S;obtain rfl:=AnO hm;exact Aeo [_,_] rfl ⟨rfl,rfl,trivial⟩ ⟨_,L0,_,_,S1,rfl,h3⟩
 replace hm:=ifF hc1 hm;refine F8<|nrm<|AL<|Aw<|Abh S Tryz.zeroValue65 ?_;intro b1 w3 S2;replace S2:St _ ((bx b1 [.slice none 0 0] 65)::As) _:=S2;clear S;refine AF<|nrm<|AL<|Aw<|Abh S2 Tryz.zeroValue294 ?_;intro b2 w4 S3;replace S3:St _ ((bx b2 [.nilFunc] 294)::(bx b1 [.slice none 0 0] 65)::As) _:=S3;clear S2;refine AF<|nrm<|AL<|Aw<|AlX (caps:=[pt b2 0,pt b1 0]) rfl<|s_stL (i:=0) S3 rfl rfl rfl Tryz.sizeOf294 (oneC rfl oneN) rfl ?_;intro w5 S4;replace S4:St _ ((bx b2 [.func (.func 253) #[] #[pt b2 0,pt b1 0]] 294)::(bx b1 [.slice none 0 0] 65)::As) _:=S4;clear S3;refine AF<|nrm<|AL<|Aw<|s_ld (i:=0) (cs:=[.func (.func 253) #[] #[pt b2 0,pt b1 0]]) S4 rfl rfl Tryz.isAgg294 Tryz.sizeOf294 rfl (λ_=>rfl)<|AT (v:=a0v0) rfl<|AT (v:=vI a1) rfl ?_;have S5:=St.rowNil S4 2;have h4:Cl m [] ([]:List (UInt64×UInt64)):=Cl.nil;replace S5:St _ ((row 2 (.slice none 0 0) [] ([]:List (UInt64×UInt64)).length)::(bx b2 [.func (.func 253) #[] #[pt b2 0,pt b1 0]] 294)::(bx b1 [(.slice none 0 0)] 65)::As) _:=S5;clear S4;have S6:St _ ((bx b2 [.func (.func 253) #[] #[pt b2 0,pt b1 0]] 294)::(bx b1 [(.slice none 0 0)] 65)::(row 2 (.slice none 0 0) [] ([]:List (UInt64×UInt64)).length)::As) _:=St.perm S5 (List.Perm.trans (List.Perm.swap _ _ _) (List.Perm.cons _ (List.Perm.swap _ _ _)));clear S5;obtain⟨x1,q1,hm⟩:=Ag hm;refine Afe rfl Tryz.call253 (SX (a0:=a0) (a1:=a1) (k1:=([]:List (UInt64×UInt64))) S6 a0h0 h4 q1) rfl rfl ?_;rintro _ w6 ⟨m1,l1,v1,c1,S7,rfl,h5⟩;replace a0h0:=a0h0.up l1;replace L0:=Mem.tr L0 l1;clear S6;replace S7:St _ ((bx b1 [v1] 65)::(row 2 v1 c1 x1.length)::(bx b2 [.func (.func 253) #[] #[pt b2 0,pt b1 0]] 294)::As) _:=S7;refine AF<|nrm<|AL<|Aw<|s_ld (i:=0) (cs:=[v1]) S7 rfl rfl Tryz.isAgg65 Tryz.sizeOf65 rfl (λ_=>rfl)<|Gy (v:=v1) rfl<|Gy (v:=vI 0) rfl<|AF<|nrm ?_;refine J7<|UJ ?_;intro we hpd;replace S7:=St.pd S7 hpd;obtain⟨m2,l2,S8⟩:=St.drop S7 0;replace h5:=Cl.up l2 h5;replace L0:=Mem.tr L0 l2;clear S7;replace S8:St _ ((row 2 v1 c1 x1.length)::(bx b2 [.func (.func 253) #[] #[pt b2 0,pt b1 0]] 294)::As) _:=S8;obtain⟨m3,l3,S9⟩:=St.drop S8 1;replace h5:=Cl.up l3 h5;replace L0:=Mem.tr L0 l3;clear S8;replace S9:St _ ((row 2 v1 c1 x1.length)::As) _:=S9;obtain rfl:=AnO hm;exact Aeo [_,_] rfl ⟨rfl,rfl,trivial⟩ ⟨_,L0,_,_,S9,rfl,h5⟩
theorem VM {a0 a1 r}(hm:IT a0 a1=some r):Sp prog 179 [sl Ao a0,.d (.i a1)] [] 0 (is (.tup [.ow 0,.d (.i r.2)]) [.row 0 2 _ Ao r.1] 1):=
 ⟨call179,λU m As w vs hv0 hd S=>by
  have S:St m As w:=S;obtain⟨v0,u0,rfl,r0,hv1⟩:=BB.cons_inv hv0;have f0:=Br.ofS Sk r0.dd;obtain⟨v1,u1,rfl,r1,hv2⟩:=BB.cons_inv hv1;obtain rfl:=r1.i_inv;obtain rfl:=BB.nil_inv hv2;refine C0.mono (VE S f0 hm) ?_;rintro v w' ⟨M,hle,y0,c0,S0,rfl,h0⟩;exact⟨M,(envL [y0]),_,_,_,hle,dom0 hd _,⟨rfl,rfl,rfl⟩,Ac2 rfl,(.tup' (.cons (.ow rfl (Kl S0)) (.cons (.d (.i _)) .nil))),(St.impL S0 (Ae7 (Br.toR Sk rfl rfl (Kl S0) h0) λ_ h=>h))⟩⟩
def SF (a0:g_api_Log)(a1:Int)(a2:Int)(a3:Int):Option (g_api_Place×Int):=Ab (OB a0 a1 a3) λx1=>if(x1.2 !=0)=true then some ((⟨0,0,0,[]⟩:g_api_Place),x1.2)else Ab (IT x1.1 a2) λx2=>if(x2.2 !=0)=true then some ((⟨0,0,0,[]⟩:g_api_Place),x2.2)else some ((⟨a0.Id,a2,a3,x2.1⟩:g_api_Place),0)
theorem Y7 {a0 a1 a2 a3 r}(hm:SF a0 a1 a2 a3=some r):Sf prog 97 [ag (Av a0),.d (.i a1),.d (.i a2),.d (.i a3)] (.tup [ag (AQ r.1),.d (.i r.2)]):=by
 refine sq ?_;intros;refine gD hm Su λ_ q1 hm=>gi hm ?_ ?_<;>intro _ hm
 ·exact AnO hm▸gE
 refine gD hm VM λ_ q2 hm=>gi hm ?_ ?_<;>intro _ hm
 ·exact AnO hm▸gE
 exact AnO hm▸gE
def R6 (a0:UInt8)(a2:Int)(s1:Int×Int×UInt64×Int×(List g_api_Leaf)×(List Int)×(List g_api_Leaf)):Option ((Int×Int×UInt64×Int×(List g_api_Leaf)×(List Int)×(List g_api_Leaf))⊕((Int×UInt64×Int×(List g_api_Leaf)×(List Int)×(List g_api_Leaf))⊕(C9×Bool))):=if(decide (s1.1<a2))=true then Ab (R5 (⟨s1.2.1,s1.2.2.1,s1.2.2.2.1,s1.2.2.2.2.1,s1.2.2.2.2.2.1,s1.2.2.2.2.2.2⟩:g_api_Log) ([(toB s1.1),a0]:List UInt8) 1) λx8=>if(x8.2.2 !=0)=true then some (.inr (.inr ((⟨(⟨ByteArray.empty,[],[],(⟨[]⟩:g_api_Pool),(⟨0,[]⟩:g_api_Cascade),0⟩:g_api_Client),(⟨[],[]⟩:g_api_Offer),[]⟩:C9),false)))else some (.inl ((w64 (s1.1+1)),x8.1.Id,x8.1.Key,x8.1.Delay,x8.1.L,x8.1.Hide,x8.1.Wait))else some (.inr (.inl (s1.2.1,s1.2.2.1,s1.2.2.2.1,s1.2.2.2.2.1,s1.2.2.2.2.2.1,s1.2.2.2.2.2.2)))
def Rh (x11:(List g_api_Log)×g_api_Cert×Int)(s2:Int×(List g_api_Log)):Option ((Int×(List g_api_Log))⊕(((List g_api_Log))⊕(C9×Bool))):=if(decide (s2.1<2))=true then Ab (idx x11.1 s2.1) λx15=>Ab (SG x15) λx16=>if(x16.2 !=0)=true then some (.inr (.inr ((⟨(⟨ByteArray.empty,[],[],(⟨[]⟩:g_api_Pool),(⟨0,[]⟩:g_api_Cascade),0⟩:g_api_Client),(⟨[],[]⟩:g_api_Offer),s2.2⟩:C9),false)))else Ab (app 96 s2.2 ([x16.1]:List g_api_Log)) λx17=>some (.inl ((w64 (s2.1+1)),x17))else some (.inr (.inl s2.2))
def LG (a0:UInt8)(a1:ByteArray)(a2:Int):Option (C9×Bool):=
 Ab (JG ([a0]:List UInt8)) λx1=>
 Ab (JH x1) λx2=>
 Ab (LF (⟨0,(⟨#[114]⟩:ByteArray),(⟨#[114]⟩:ByteArray),x2.1,[],0,100,true,1,[],[],(⟨0,0⟩:g_api_Sig)⟩:g_api_Cert) a0) λx3=>
 Ab (R4 0 ([a0,0]:List UInt8) 5) λx4=>
 Ab (R4 1 ([a0,1]:List UInt8) 5) λx5=>
 Ab (iter (R6 a0 a2) AY (0,x4.1.Id,x4.1.Key,x4.1.Delay,x4.1.L,x4.1.Hide,x4.1.Wait)) λx6=>match x6 with
 | .inr r=>some r
 | .inl y1=>
 Ab (SI ([(⟨y1.1,y1.2.1,y1.2.2.1,y1.2.2.2.1,y1.2.2.2.2.1,y1.2.2.2.2.2⟩:g_api_Log),x5.1]:List g_api_Log)) λx9=>
 Ab (Ri (⟨0,([a1]:List ByteArray),4,5⟩:Mq) 9 3 (⟨#[114]⟩:ByteArray)) λx10=>
 Ab (NG ([(⟨y1.1,y1.2.1,y1.2.2.1,y1.2.2.2.1,y1.2.2.2.2.1,y1.2.2.2.2.2⟩:g_api_Log),x5.1]:List g_api_Log) x10.1 3) λx11=>
 if((((((((x2.2 !=0)||(!x3.2))||(x4.2 !=0))||(x5.2 !=0))||(x9.2 !=0))||(x10.2 !=0))||(x11.2.2 !=0))||((x11.1.length:Int) !=2))=true then
  some ((⟨(⟨ByteArray.empty,[],[],(⟨[]⟩:g_api_Pool),(⟨0,[]⟩:g_api_Cascade),0⟩:g_api_Client),(⟨[],[]⟩:g_api_Offer),[]⟩:C9),false)
 else
 Ab (LF x11.2.1 a0) λx12=>
 Ab (iter (Rh x11) AY (0,([]:List g_api_Log))) λx13=>match x13 with
 | .inr r=>some r
 | .inl y3=>
 Ab (F0 (⟨#[97,110,110]⟩:ByteArray) ([x3.1]:List g_api_Cert) x9.1 0) λx18=>
 Ab (idx y3 0) λx19=>
 Ab (SF x19 0 a2 (w64 (a2+1))) λx20=>
 bnd (((x12.2&&(x18.2==0))&&(x20.2==0))) λx21=>
 some ((⟨x18.1,(⟨([x12.1]:List g_api_Cert),([x20.1]:List g_api_Place)⟩:g_api_Offer),y3⟩:C9),x21)
theorem VG {a0 a1 a2 r}(hm:LG a0 a1 a2=some r):Sf prog 29 [.d (.b a0),.d (.s a1),.d (.i a2)] (.tup [ag (Aan r.1),.d (.t r.2)]):=by
 refine sq ?_;intros;refine gq eB 1 [a0]<|gA hm Mx λ_ q1 hm=>gA hm My λx2 q2 hm=>gA hm Pn λx3 q3 hm=>gq eB 1 [a0,0]<|gA hm V6 λx4 q4 hm=>gq eB 1 [a0,1]<|gA hm V6 λx5 q5 hm=>oB hm λ_ q6 hm=>gI q6 (λ(p_0,p_1,p_2,p_3,p_4,p_5,p_6)=>⟨[(0,.d (.b a0)),(1,.d (.s a1)),(2,.d (.i a2)),(6,.pb 0 0),(8,.pb 1 0),(10,.d (.i x2.2)),(11,.pb 2 0),(12,.d (.t x3.2)),(13,.pb 3 0),(14,.d (.i x4.2)),(15,.pb 4 0),(16,.d (.i x5.2)),(17,.d (.i p_0))],[(0,.box 4 [.d (.i x5.1.Id),.d (.u x5.1.Key),.d (.i x5.1.Delay),sl Ak x5.1.L,sl eI x5.1.Hide,sl Ak x5.1.Wait] 82),(1,.box 3 [.d (.i p_1),.d (.u p_2),.d (.i p_3),sl Ak p_4,sl eI p_5,sl Ak p_6] 82),(2,.box 2 [.d (.i x3.1.Serial),.d (.s x3.1.Issuer),.d (.s x3.1.Subject),.d (.u x3.1.Key),sl eS x3.1.Names,.d (.i x3.1.From),.d (.i x3.1.Until),.d (.t x3.1.Ca),.d (.i x3.1.Depth),sl eS x3.1.Permit,sl Ad x3.1.Proms,.d (.u x3.1.Sig.E),.d (.u x3.1.Sig.S)] 59),(3,.box 1 [.d (.s ByteArray.empty),.d (.v (.slice none 0 0)),.d (.v (.slice none 0 0)),.d (.v (.slice none 0 0)),.d (.i 0),.d (.v (.slice none 0 0)),.d (.i 0),.d (.v (.slice none 0 0)),.d (.v (.slice none 0 0)),.d (.v (.slice none 0 0))] 74),(4,.box 0 [.d (.s ByteArray.empty),.d (.v (.slice none 0 0)),.d (.v (.slice none 0 0)),.d (.v (.slice none 0 0)),.d (.i 0),.d (.v (.slice none 0 0)),.d (.i 0),.d (.v (.slice none 0 0)),.d (.v (.slice none 0 0)),.d (.v (.slice none 0 0))] 74)],[],5⟩) λs1 _ Jl q9 bl1=> ?_;refine gi q9 ?_ ?_<;>intro _ q9
 ·refine gq eB 1 [(toB s1.1),a0]<|gA q9 V7 λ_ q11 q9=>gi q9 ?_ ?_<;>intro _ q9
  ·obtain rfl:=nR bl1 q9;exact AnO hm▸gE
  exact gN bl1 q9
 obtain rfl:=nR bl1 q9;let y1:=(s1.2.1,s1.2.2.1,s1.2.2.2.1,s1.2.2.2.2.1,s1.2.2.2.2.2.1,s1.2.2.2.2.2.2);refine gq Av 6 [(⟨y1.1,y1.2.1,y1.2.2.1,y1.2.2.2.1,y1.2.2.2.2.1,y1.2.2.2.2.2⟩:g_api_Log),x5.1]<|gD hm Zb λx9 q12 hm=>gq eS 1 [a1]<|gA hm Xm λx10 q13 hm=>gq Av 6 [(⟨y1.1,y1.2.1,y1.2.2.1,y1.2.2.2.1,y1.2.2.2.2.1,y1.2.2.2.2.2⟩:g_api_Log),x5.1]<|gD hm Tb λx11 q14 hm=>gi hm ?_ ?_<;>intro _ hm
 ·exact AnO hm▸gE
 refine gA hm Pn λx12 q15 hm=>oB hm λ_ q16 hm=>Agz 2 Av 8 9 6<|gI q16 (λ(p_0,p_1)=>⟨[(2,.d (.i a2)),(6,.pb 0 0),(8,.pb 1 0),(11,.pb 2 0),(21,.ow 5),(25,.ow 7),(28,.pb 9 0),(29,.d (.t x12.2)),(30,.d (.i p_0)),(26,.pb 8 0),(23,.pb 6 0),(15,.pb 4 0),(13,.pb 3 0)],[(0,.row 10 6 _ Av p_1),(1,.box 9 [.d (.i x12.1.Serial),.d (.s x12.1.Issuer),.d (.s x12.1.Subject),.d (.u x12.1.Key),sl eS x12.1.Names,.d (.i x12.1.From),.d (.i x12.1.Until),.d (.t x12.1.Ca),.d (.i x12.1.Depth),sl eS x12.1.Permit,sl Ad x12.1.Proms,.d (.u x12.1.Sig.E),.d (.u x12.1.Sig.S)] 59),(2,.box 8 [.d (.i x11.2.1.Serial),.d (.s x11.2.1.Issuer),.d (.s x11.2.1.Subject),.d (.u x11.2.1.Key),sl eS x11.2.1.Names,.d (.i x11.2.1.From),.d (.i x11.2.1.Until),.d (.t x11.2.1.Ca),.d (.i x11.2.1.Depth),sl eS x11.2.1.Permit,sl Ad x11.2.1.Proms,.d (.u x11.2.1.Sig.E),.d (.u x11.2.1.Sig.S)] 59),(3,.row 7 6 _ Av x11.1),(4,.box 6 [.d (.i x10.1.Serial),.d (.s x10.1.Issuer),.d (.s x10.1.Subject),.d (.u x10.1.Key),sl eS x10.1.Names,.d (.i x10.1.From),.d (.i x10.1.Until),.d (.t x10.1.Ca),.d (.i x10.1.Depth),sl eS x10.1.Permit,sl Ad x10.1.Proms,.d (.u x10.1.Sig.E),.d (.u x10.1.Sig.S)] 59),(5,.row 5 3 _ Ai x9.1),(6,.box 4 [.d (.i x5.1.Id),.d (.u x5.1.Key),.d (.i x5.1.Delay),sl Ak x5.1.L,sl eI x5.1.Hide,sl Ak x5.1.Wait] 82),(7,.box 3 [.d (.i y1.1),.d (.u y1.2.1),.d (.i y1.2.2.1),sl Ak y1.2.2.2.1,sl eI y1.2.2.2.2.1,sl Ak y1.2.2.2.2.2] 82),(8,.box 2 [.d (.i x3.1.Serial),.d (.s x3.1.Issuer),.d (.s x3.1.Subject),.d (.u x3.1.Key),sl eS x3.1.Names,.d (.i x3.1.From),.d (.i x3.1.Until),.d (.t x3.1.Ca),.d (.i x3.1.Depth),sl eS x3.1.Permit,sl Ad x3.1.Proms,.d (.u x3.1.Sig.E),.d (.u x3.1.Sig.S)] 59),(9,.box 1 [.d (.s ByteArray.empty),.d (.v (.slice none 0 0)),.d (.v (.slice none 0 0)),.d (.v (.slice none 0 0)),.d (.i 0),.d (.v (.slice none 0 0)),.d (.i 0),.d (.v (.slice none 0 0)),.d (.v (.slice none 0 0)),.ow 10] 74),(10,.box 0 [.d (.s ByteArray.empty),.d (.v (.slice none 0 0)),.d (.v (.slice none 0 0)),.d (.v (.slice none 0 0)),.d (.i 0),.d (.v (.slice none 0 0)),.d (.i 0),.d (.v (.slice none 0 0)),.d (.v (.slice none 0 0)),.d (.v (.slice none 0 0))] 74)],[],11⟩) λs2 _ Jl q19 bl2=>gi q19 ?_ ?_<;>intro _ q19
 ·refine oB q19 λ_ q21 q19=>Jk (E:=Av) (λ_=>q21)<|AaD (k:=6) (fo:=0) (nn:=6) (ag:=true) (E:=Av) (λ_=>rfl) (λ_=>q21)<|gA q19 Y8 λx16 q22 q19=>gi q19 ?_ ?_<;>intro _ q19
  ·obtain rfl:=nR bl2 q19;exact AnO hm▸gE
  exact gq Av 6 [x16.1]<|oB q19 λ_ q23 q19=>gp Av 6 q23<|gN bl2 q19
 obtain rfl:=nR bl2 q19;let y3:=s2.2;refine gq Ac 13 [x3.1]<|gD hm N9 λ_ q24 hm=>oB hm λ_ q25 hm=>Jk (E:=Av) (λ_=>q25)<|AaD (k:=6) (fo:=0) (nn:=6) (ag:=true) (E:=Av) (λ_=>rfl) (λ_=>q25)<|gA hm Y7 λx20 q26 hm=>gq Ac 13 [x12.1]<|gq AQ 4 [x20.1]<|bE hm ?_;intro _ hm;exact AnO hm▸gE
def Qi (a0:g_api_Log)(a1:Int)(a2:Int)(a3:Int):Option (g_api_Head×Int):=Ab (OB a0 a1 a2) λx1=>Ab (Ab (gu ((x1.2==0)||(x1.2==80)) (Dq a3)) λx3=>if(((x1.2==0)||(x1.2==80))&&(!x3))=true then some 1 else some x1.2) λx2=>if(x2 !=0)=true then some ((⟨0,0,(0,0),0,(⟨0,0⟩:g_api_Sig)⟩:g_api_Head),x2)else Ab (JV x1.1) λx4=>Ab (H8 (⟨a0.Id,a2,x4,a3,(⟨0,0⟩:g_api_Sig)⟩:g_api_Head)) λx5=>Ab (Ko a0.Key x5) λx6=>some ((⟨a0.Id,a2,x4,a3,x6.1⟩:g_api_Head),x6.2)
theorem AaY {a0 a1 a2 a3 r}(hm:Qi a0 a1 a2 a3=some r):Sf prog 30 [ag (Av a0),.d (.i a1),.d (.i a2),.d (.i a3)] (.tup [ag (Ae r.1),.d (.i r.2)]):=by
 refine sq λD0 As u4 m0 hd=>gD hm Su λx1 q1 hm=> ?_;obtain⟨x2,q2,hm⟩:=Ag hm;refine oB q2 λ_ q3 q2=>gcH q3 EJ<|gj (λ(_:Unit)=>⟨[(2,.d (.i a2)),(3,.d (.i a3)),(4,.pb 0 0),(8,.pb 1 0),(10,.ow 2),(11,.d (.i x2))],[(0,.row 2 2 _ Ao x1.1),(1,.box 1 [.d (.i 0),.d (.i 0),.d (.u 0),.d (.u 0),.d (.i 0),.d (.u 0),.d (.u 0)] 38),(2,.box 0 [.d (.i a0.Id),.d (.u a0.Key),.d (.i a0.Delay),sl Ak a0.L,sl eI a0.Hide,sl Ak a0.Wait] 82)],[],3⟩) (λ_=>True) (λJp bk1=> ?_) λ_ _=> ?_
 ·refine gi q2 ?_ ?_<;>intro _ q2
  ·obtain rfl:=AnO q2;exact gb bk1 hd () trivial
  obtain rfl:=AnO q2;exact gb bk1 hd () trivial
 refine gi hm ?_ ?_<;>intro _ hm
 ·exact AnO hm▸gE
 refine gD hm QI λ_ q4 hm=>gD hm QK λ_ q5 hm=>gD hm Mw λ_ q6 hm=> ?_;exact AnO hm▸gE
def Pg (i1:Int)(x2:Int)(s1:Int):Option ((Int)⊕Bool):=Ab (gu (!(decide (x2<=s1))) (IU x2)) λx3=>if((decide (x2<=s1))||(!x3))=true then some (.inr false)else some (.inl x2)
def IJ (a0:List Int):Option Bool:=Ab (F6 Pg a0 0 (-1)) λx1=>match x1 with| .inr r=>some r| .inl y1=>bnd ((decide ((a0.length:Int)<=256))) λx4=>some x4
theorem LP {a0 r}(hm:IJ a0=some r):Sf prog 103 [sl eI a0] (.d (.t r)):=by
 refine sq ?_;intros;refine oB hm λ_ q1 hm=>Jj 0 (E:=eI) (xs:=a0) 6 λhle1=>gF (ER _ _ _) q1 (λp0 p=>⟨[(0,sl eI a0),(3,.d (.i p)),(6,sl eI a0),(7,.d (.i (a0.length:Int))),(8,.d (.i p0))],[],[],0⟩) λi1 s1 Jl bl1=>cR bl1 (λ_ _ q5 q4 bl1=> ?_) λe=> ?_
 ·refine gx eI 1 q5<|oB q4 λ_ q6 q4=>gcH q6 Pt<|gi q4 ?_ ?_<;>intro _ q4
  ·obtain rfl:=nT bl1 q4;exact AnO hm▸gE
  exact gT bl1 hle1 q4
 subst e;let y1:=s1;refine bE hm ?_;intro _ hm;exact AnO hm▸gE
def Nw (a0:g_api_Sieve)(a1:Int):Option (g_api_Sieve×(List UInt8)×(List UInt8)):=Ab (Hq a0.Salt) λx1=>Ab (Hq a1) λx2=>some (a0,x1,x2)
theorem SQ {a0}{g0:Value}{a1 r}(hm:Nw a0 a1=some r):Sp prog 160 [.agg [.d (.i a0.Bits),.d (.i a0.Hashes),.d (.i a0.Salt),.d (.v g0)],.d (.i a1)] [] 0 (is (.fn (.func 248) [] [.pb 0 0,.pb 1 0,.pb 2 0]) [.box 0 [.d (.i r.1.Bits),.d (.i r.1.Hashes),.d (.i r.1.Salt),.d (.v g0)] 98,.box 1 [sl eB r.2.1] 96,.box 2 [sl eB r.2.2] 96] 3):=by
 refine sq ?_;intros;refine gD hm KX λ_ q1 hm=>gD hm KX λ_ q2 hm=> ?_;exact AnO hm▸gE
def Ot {σ:Type}(p0:σ->(Int×UInt8)->Option (Bool×σ))(k0:g_api_Sieve)(k1:List UInt8)(k2:List UInt8)(s1:Int×σ):Option ((Int×σ)⊕((σ)⊕(g_api_Sieve×(List UInt8)×(List UInt8)×σ))):=if(decide (s1.1<k0.Hashes))=true then Ab (C2 (⟨#[115,105,101,118,101]⟩:ByteArray) ([k1,([(toB s1.1)]:List UInt8),k2]:List (List UInt8))) λx3=>Ab (IF x3 (toU k0.Bits)) λx4=>if(0:Int)<=(KV (w64 (x4.toNat:Int)) 7)then Ab (p0 s1.2 ((A9 (w64 (x4.toNat:Int)) 3),(Aif 1 ((KV (w64 (x4.toNat:Int)) 7).toNat)))) λx5=>if(!x5.1)=true then some (.inr (.inr (k0,k1,k2,x5.2)))else some (.inl ((w64 (s1.1+1)),x5.2))else none else some (.inr (.inl s1.2))
def K9 {σ:Type}(p0:σ->(Int×UInt8)->Option (Bool×σ))(k0:g_api_Sieve)(k1:List UInt8)(k2:List UInt8)(s0:σ):Option (g_api_Sieve×(List UInt8)×(List UInt8)×σ):=Ab (iter (Ot p0 k0 k1 k2) AY (0,s0)) λx1=>match x1 with| .inr r=>some r| .inl y1=>some (k0,k1,k2,y1)
theorem Qy {σ:Type}{p0:σ->(Int×UInt8)->Option (Bool×σ)}{k0}{g0:Value}{k1 k2 s0 r}(hm:K9 p0 k0 k1 k2 s0=some r)(g:Value)(R:σ->Mem->Ow)(hcb:Adm prog g (λx=> [.d (.i x.1),.d (.b x.2)]) R p0):Sp prog 248 [.ow 0,.pb 1 0,.pb 2 0,.pb 3 0] [.hp 0 (.cb g σ R s0),.box 1 [.d (.i k0.Bits),.d (.i k0.Hashes),.d (.i k0.Salt),.d (.v g0)] 98,.box 2 [sl eB k1] 96,.box 3 [sl eB k2] 96] 4 (is (.tup []) [.hp 0 (.cb g σ R r.2.2.2),.box 1 [.d (.i r.1.Bits),.d (.i r.1.Hashes),.d (.i r.1.Salt),.d (.v g0)] 98,.box 2 [.d (.sl _ eB r.2.1)] 96,.box 3 [.d (.sl _ eB r.2.2.1)] 96] 4):=by
 refine sq ?_;intros;refine oB hm λ_ q1 hm=>gI q1 (λ(p_0,p_1)=>⟨[(0,.ow 0),(1,.pb 1 0),(2,.pb 2 0),(3,.pb 3 0),(8,.d (.i k0.Hashes)),(9,.d (.i p_0))],[(0,.box 1 [.d (.i k0.Bits),.d (.i k0.Hashes),.d (.i k0.Salt),.d (.v g0)] 98),(1,.box 2 [sl eB k1] 96),(2,.box 3 [sl eB k2] 96),(3,.hp 0 (.cb g σ R p_1))],[],4⟩) λs1 _ Jl q4 bl1=>gi q4 ?_ ?_<;>intro _ q4
 ·refine gq eB 1 [(toB s1.1)]<|gq (eL eB) 1 [k1,([(toB s1.1)]:List UInt8),k2]<|gA q4 EK λ_ q6 q4=>gA q4 OV λx4 q7 q4=> ?_;obtain⟨q8,q4⟩:=A2 q4;refine gsh (r:= .b (Aif 1 ((KV (w64 (x4.toNat:Int)) 7).toNat))) (λh=>q8)<|oB q4 λ_ q9 q4=>gcb ((A9 (w64 (x4.toNat:Int)) 3),(Aif 1 ((KV (w64 (x4.toNat:Int)) 7).toNat))) hcb q9<|gi q4 ?_ ?_<;>intro _ q4
  ·obtain rfl:=nR bl1 q4;exact AnO hm▸gE
  exact gN bl1 q4
 obtain rfl:=nR bl1 q4;let y1:=s1.2;exact AnO hm▸gE
def LB (b6:Int×UInt8)(s1:(List UInt8)):Option ((List UInt8)):=Ab (idx s1 b6.1) λx4=>Ab (idx s1 b6.1) λx5=>bnd (s1.set b6.1.toNat (x4|||b6.2)) λx6=>some x6
def Qb (a0:g_api_Sieve)(a1:Int):Option (Int×(List UInt8)):=Ab (Gb a1) λx1=>if(!x1)=true then some (1,a0.B)else Ab (Nw a0 a1) λx2=>Ab (K9 (λ(s:(List UInt8)) (b0:Int×UInt8)=>Ab (LB b0 s) λy=>some (true,y)) x2.1 x2.2.1 x2.2.2 a0.B) λx3=>some (0,x3.2.2.2)
theorem AaJ {a0 a1 r}(hm:Qb a0 a1=some r):Sp prog 262 [.agg [.d (.i a0.Bits),.d (.i a0.Hashes),.d (.i a0.Salt),.ow 0],.d (.i a1)] [.row 0 1 _ eB a0.B] 1 (is (.d (.i r.1)) [.row 0 1 _ eB r.2] 1):=
 spV 0 call262 func262 rfl ntmps262 rfl λD0 As u4 m0 hD hd v0 hv=>by
  unfold Qb at hm;refine gtoV 0 3 0 hv<|gA hm JC λx1 q1 hm=>gi hm ?_ ?_<;>intro hc1 hm
  ·obtain rfl:=AnO hm;exact gE
  refine oB hm λx2 q2 hm=>gco (SQ (g0:=v0) q2)<|gofV 2 3 0 hv<|oB hm λx3 q3 hm=>OL hD (n0:=1) 5 5 [⟨2,2,98,[.d (.i x2.1.Bits),.d (.i x2.1.Hashes),.d (.i x2.1.Salt),.d (.v v0)],[.d (.i x3.1.Bits),.d (.i x3.1.Hashes),.d (.i x3.1.Salt),.d (.v v0)]⟩,⟨3,3,96,[sl eB x2.2.1],[sl eB x3.2.1]⟩,⟨4,4,96,[sl eB x2.2.2],[sl eB x3.2.2.1]⟩] (gt:=12) (ps:=[13,14]) [(2,.pb 1 0),(12,.fn (.func 248) [] [.pb 2 0,.pb 3 0,.pb 4 0])] (λ(y1:(List UInt8))=> [(0,.box 1 [.d (.i a0.Bits),.d (.i a0.Hashes),.d (.i a0.Salt),.ow 0] 98),(1,.row 0 1 _ eB y1)]) (λ(_:Unit)=> []) (λx=> [.d (.i x.1),.d (.b x.2)]) (λ(s1:(List UInt8)) (b6:Int×UInt8)=>⟨[(2,.pb 1 0),(5,.d (.i b6.1)),(6,.d (.b b6.2)),(12,.fn (.func 248) [] [.pb 2 0,.pb 3 0,.pb 4 0])],[(0,.box 1 [.d (.i a0.Bits),.d (.i a0.Hashes),.d (.i a0.Salt),.ow 0] 98),(1,.row 0 1 _ eB s1)],[],5⟩) (pN λx s=>LB x s) a0.B hd (via Sum.inl hyN rfl λg R h=>Qy (g0:=v0) q3 g R h) rfl (λ_=>rfl) (λ_=>rfl) (λ_=>rfl) (λ_=>rfl) ?_ ?_ ?_ ?_
  ·intro s1 b6 s' hp l D0 As u4 m0 hd Ja ba;exact gb ba hd () trivial
  ·intro s1 b6 s' hp l D0 As u4 m0 hd Jb bb Jr br;obtain⟨z1,q4,hp⟩:=AnZ.1 hp;subst hp;unfold LB at q4;refine oB q4 λx4 q5 q4=>Jk (E:=eB) (λ_=>q5)<|AaD (k:=1) (fo:=0) (nn:=1) (ag:=false) (E:=eB) (λ_=>rfl) (λ_=>q5)<|oB q4 λx5 q6 q4=>Jk (E:=eB) (λ_=>q6)<|bE q4 ?_;intro x6 q4;refine AhO (k:=1) (E:=eB) (x4|||b6.2) (λ_=>rfl) q6 ?_;obtain rfl:=AnO q4;exact gb bb hd x6 rfl
  ·intro x hx;have hx:=Sum.inl.inj hx;subst hx;obtain rfl:=AnO hm;exact gE
  intro y hy;cases hy
def Ov (a0:g_api_Sieve):Option (Int×(List UInt8)):=Ab (if(decide (a0.Bits<8))=true then some (decide (a0.Bits<8))else if(decide (a0.Bits>8192))=true then some (decide (a0.Bits>8192))else some ((KV a0.Bits 7) !=0)) λx1=>if x1=true then some (1,a0.B)else Ab (if(decide (a0.Hashes<1))=true then some (decide (a0.Hashes<1))else if(decide (a0.Hashes>8))=true then some (decide (a0.Hashes>8))else Ab (Gb a0.Salt) λx3=>if(!x3)=true then some (!x3)else bnd (((a0.B.length:Int) !=(A9 a0.Bits 3))) λx4=>some x4) λx2=>if x2=true then some (1,a0.B)else some (0,a0.B)
theorem TT {a0 r}(hm:Ov a0=some r):Sp prog 107 [.agg [.d (.i a0.Bits),.d (.i a0.Hashes),.d (.i a0.Salt),.ow 0]] [.row 0 1 _ eB a0.B] 1 (is (.d (.i r.1)) [.row 0 1 _ eB r.2] 1):=by
 refine sq λD0 As u4 m0 hd=>oB hm λx1 q1 hm=>gj (λ(_:Unit)=>⟨[(1,.pb 1 0),(3,.d (.t x1))],[(0,.box 1 [.d (.i a0.Bits),.d (.i a0.Hashes),.d (.i a0.Salt),.ow 0] 98),(1,.row 0 1 _ eB a0.B)],[],2⟩) (λ_=>True) (λJp bk1=> ?_) λ_ _=> ?_
 ·refine gi q1 ?_ ?_<;>intro _ q1
  ·obtain rfl:=AnO q1;exact gb bk1 hd () trivial
  refine gi q1 ?_ ?_<;>intro _ q1
  ·obtain rfl:=AnO q1;exact gb bk1 hd () trivial
  obtain rfl:=AnO q1;exact gb bk1 hd () trivial
 refine gi hm ?_ ?_<;>intro _ hm
 ·exact AnO hm▸gE
 refine oB hm λx2 q2 hm=>gj (λ(_:Unit)=>⟨[(14,.d (.t x2)),(1,.pb 1 0)],[(0,.box 1 [.d (.i a0.Bits),.d (.i a0.Hashes),.d (.i a0.Salt),.ow 0] 98),(1,.row 0 1 _ eB a0.B)],[],2⟩) (λ_=>True) (λJp bk2=> ?_) λ_ _=> ?_
 ·refine gi q2 ?_ ?_<;>intro _ q2
  ·obtain rfl:=AnO q2;exact gb bk2 hd () trivial
  refine gi q2 ?_ ?_<;>intro _ q2
  ·obtain rfl:=AnO q2;exact gb bk2 hd () trivial
  refine gA q2 JC λ_ q3 q2=>gi q2 ?_ ?_<;>intro _ q2
  ·obtain rfl:=AnO q2;exact gb bk2 hd () trivial
  refine bE q2 ?_;intro _ q2;obtain rfl:=AnO q2;exact gb bk2 hd () trivial
 refine gi hm ?_ ?_<;>intro _ hm
 ·exact AnO hm▸gE
 exact AnO hm▸gE
def Ra (a0:Int)(a1:Int)(a2:Int):Option (g_api_Sieve×Int):=Ab (mkS 1 (0:UInt8) (A9 (Af8 0 (AbA a0 8192)) 3)) λx1=>Ab (Ov (⟨a0,a1,a2,x1⟩:g_api_Sieve)) λx2=>if(x2.1 !=0)=true then some ((⟨0,0,0,[]⟩:g_api_Sieve),x2.1)else some ((⟨a0,a1,a2,x2.2⟩:g_api_Sieve),0)
theorem WW {a0 a1 a2 r}(hm:Ra a0 a1 a2=some r):Sp prog 261 [.d (.i a0),.d (.i a1),.d (.i a2)] [] 0 (is (.tup [.agg (List.set (((Ah r.1)).map dv) 3 (.ow 0)),.d (.i r.2)]) [.row 0 1 _ eB r.1.B] 1):=by
 refine sq ?_;intros;refine oB hm λ_ q1 hm=>gmks eB (0:UInt8) (.b 0) 1 q1<|gD hm TT λ_ q2 hm=>gi hm ?_ ?_<;>intro _ hm
 ·refine Aju eB 6 3 1 ?_;exact AnO hm▸gE
 exact AnO hm▸gE
def Yb (x1:g_api_Sieve×Int)(i1:Int)(x4:Int)(s1:Int×(List UInt8)):Option (Int×(List UInt8)):=Ab (if(s1.1==0)=true then Ab (Qb (⟨x1.1.Bits,x1.1.Hashes,x1.1.Salt,s1.2⟩:g_api_Sieve) x4) λx6=>some (x6.1,x6.2)else some (s1.1,s1.2)) λx5=>some (x5.1,x5.2)
def Wp (a0:List Int)(a1:Int)(a2:Int)(a3:Int):Option (g_api_Sieve×Int):=Ab (Ra a1 a2 a3) λx1=>Ab (Ab (FE (Yb x1) a0 0 (x1.2,x1.1.B)) λx3=>some (x3.1,x3.2)) λx2=>if(x2.1 !=0)=true then some ((⟨0,0,0,[]⟩:g_api_Sieve),x2.1)else some ((⟨x1.1.Bits,x1.1.Hashes,x1.1.Salt,x2.2⟩:g_api_Sieve),x2.1)
theorem Ads {a0 a1 a2 a3 r}(hm:Wp a0 a1 a2 a3=some r):Sf prog 192 [sl eI a0,.d (.i a1),.d (.i a2),.d (.i a3)] (.tup [ag (Ah r.1),.d (.i r.2)]):=by
 refine sq λD0 As u4 m0 hd=>gD hm WW λx1 q1 hm=> ?_;obtain⟨x2,q2,hm⟩:=Ag hm;refine oB q2 λ_ q3 q2=>Jj 0 (E:=eI) (xs:=a0) 21 λhle1=>gF (E0 _ _ _) q3 (λp0 (p_0,p_1)=>⟨[(8,.pb 0 0),(10,.pb 2 0),(11,.d (.i p_0)),(21,sl eI a0),(22,.d (.i (a0.length:Int))),(23,.d (.i p0))],[(0,.box 2 [.d (.i x1.1.Bits),.d (.i x1.1.Hashes),.d (.i x1.1.Salt),.ow 1] 98),(1,.row 1 1 _ eB p_1),(2,.box 0 [.d (.i 0),.d (.i 0),.d (.i 0),sl eB []] 98)],[],3⟩) λi1 s1 Jl bl1=>c0 bl1 (λ_ _ q7 q6 bl1=> ?_) λe=> ?_
 ·refine oB q6 λx5 q8 q6=>gjU 1 (λ(_:Unit)=>let (y_0,y_1):=x5; ⟨[(8,.pb 0 0),(10,.pb 2 0),(11,.d (.i y_0)),(21,sl eI a0),(22,.d (.i (a0.length:Int))),(23,.d (.i (i1:Int)))],[(0,.box 2 [.d (.i x1.1.Bits),.d (.i x1.1.Hashes),.d (.i x1.1.Salt),.ow 1] 98),(1,.row 1 1 _ eB y_1),(2,.box 0 [.d (.i 0),.d (.i 0),.d (.i 0),sl eB []] 98)],[],3⟩) (λ_=>True) (λJp bk3=> ?_) λ_ _=> ?_
  ·refine gx eI 1 q7<|gi q8 ?_ ?_<;>intro _ q8
   ·refine gD q8 AaJ λ_ q9 q8=> ?_;obtain rfl:=AnO q8;exact gb bk3 hd () trivial
   obtain rfl:=AnO q8;exact gb bk3 hd () trivial
  exact gM bl1 hle1 q6
 subst e;obtain rfl:=AnO q2;refine gi hm ?_ ?_<;>intro _ hm
 ·exact AnO hm▸gE
 exact AnO hm▸gE
def Fo (a0:List Int):Option (List Int):=Ab (app 8 ([]:List Int) a0) λx1=>some x1
theorem NL {a0 r}(hm:Fo a0=some r):Sp prog 114 [sl eI a0] [] 0 (is (.ow 0) [.row 0 1 _ eI r] 1):=by
 refine sq ?_;intros;unfold Fo at hm;refine gnq eI a0 (λhe1=> ?_) ?_
 ·rw[he1]at hm;replace hm:(some ([]:List Int))=some _:=hm;refine Tr eI 2 1 ?_;exact AnO hm▸gE
 refine Sa (k:=1) eI ([]:List Int) (λ_=>rfl)<|oB hm λ_ q1 hm=>gp eI 1 q1 ?_;exact AnO hm▸gE
def Pz (a0:Int)(k0:g_api_Sieve):Option (Bool×g_api_Sieve):=Ab (MQ k0 a0) λx1=>some ((!x1),k0)
theorem Vw {a0 k0 r}(hm:Pz a0 k0=some r):Sp prog 264 [.d (.i a0),.pb 0 0] [.box 0 [.d (.i k0.Bits),.d (.i k0.Hashes),.d (.i k0.Salt),sl eB k0.B] 98] 1 (is (.d (.t r.1)) [.box 0 [.d (.i r.2.Bits),.d (.i r.2.Hashes),.d (.i r.2.Salt),.d (.sl _ eB r.2.B)] 98] 1):=by
 refine sq ?_;intros;refine gA hm TS λ_ q1 hm=> ?_;exact AnO hm▸gE
def Hz (a0:List Int)(i1:Int)(s1:Int×Int×Int×(List UInt8)):Option ((Int×Int×Int×(List UInt8))⊕(Int×g_api_Sieve)):=Ab (idx a0 (i1:Int)) λx3=>Ab (Pz x3 (⟨s1.1,s1.2.1,s1.2.2.1,s1.2.2.2⟩:g_api_Sieve)) λx4=>if x4.1=true then some (.inr ((i1:Int),x4.2))else some (.inl (x4.2.Bits,x4.2.Hashes,x4.2.Salt,x4.2.B))
def Eo (a0:List Int)(k0:g_api_Sieve):Option (Int×g_api_Sieve):=Ab (CE (Hz a0) a0.length 0 (k0.Bits,k0.Hashes,k0.Salt,k0.B)) λx1=>match x1 with| .inr r=>some r| .inl y1=>some ((-1),(⟨y1.1,y1.2.1,y1.2.2.1,y1.2.2.2⟩:g_api_Sieve))
theorem Iu {a0 k0 r}(hm:Eo a0 k0=some r):Sp prog 320 [sl eI a0,.fn (.func 264) [] [.pb 0 0]] [.box 0 [.d (.i k0.Bits),.d (.i k0.Hashes),.d (.i k0.Salt),sl eB k0.B] 98] 1 (is (.d (.i r.1)) [.box 0 [.d (.i r.2.Bits),.d (.i r.2.Hashes),.d (.i r.2.Salt),.d (.sl _ eB r.2.B)] 98] 1):=by
 refine sq ?_;intros;refine oB hm λ_ q1 hm=>Jj 0 (E:=eI) (xs:=a0) 6 λhle1=>gF (EN _ _ _) q1 (λp0 (p_0,p_1,p_2,p_3)=>⟨[(0,sl eI a0),(1,.fn (.func 264) [] [.pb 0 0]),(7,.d (.i (a0.length:Int))),(8,.d (.i p0))],[(0,.box 0 [.d (.i p_0),.d (.i p_1),.d (.i p_2),sl eB p_3] 98)],[],1⟩) λi1 s1 Jl bl1=>cN bl1 (a0.length:Int) (λ_ q4 bl1=> ?_) λe=> ?_
 ·refine oB q4 λ_ q6 q4=>gx eI 1 q6<|gD q4 Vw λ_ q7 q4=>gi q4 ?_ ?_<;>intro _ q4
  ·obtain rfl:=nT bl1 q4;exact AnO hm▸gE
  exact gT bl1 hle1 q4
 subst e;let y1:=s1;exact AnO hm▸gE
def Ec (a0:List Int)(k0:g_api_Sieve):Option ((List Int)×g_api_Sieve):=Ab (Eo a0 k0) λx1=>if(x1.1==(-1))=true then some (a0,x1.2)else none
theorem Ij {a0 k0 r}(hm:Ec a0 k0=some r):Sp prog 263 [.ow 0,.fn (.func 264) [] [.pb 1 0]] [.row 0 1 _ eI a0,.box 1 [.d (.i k0.Bits),.d (.i k0.Hashes),.d (.i k0.Salt),sl eB k0.B] 98] 2 (is (sl eI r.1) [.box 1 [.d (.i r.2.Bits),.d (.i r.2.Hashes),.d (.i r.2.Salt),.d (.sl _ eB r.2.B)] 98] 2):=by
 refine sq ?_;intros;refine gD hm Iu λ_ q1 hm=>gi hm ?_ ?_<;>intro _ hm
 ·exact AnO hm▸gE
 cases hm
def SE (a0:g_api_Sieve)(a1:List Int):Option (List Int):=Ab (Fo a1) λx1=>Ab (Ec x1 a0) λx2=>some x2.1
theorem YS {a0 a1 r}(hm:SE a0 a1=some r):Sf prog 193 [ag (Ah a0),sl eI a1] (sl eI r):=by
 refine sq ?_;intros;refine gD hm NL λ_ q1 hm=>gD hm Ij λ_ q2 hm=> ?_;exact AnO hm▸gE
def OG {σ:Type}(p0:σ->(Int×BF)->Option (Bool×σ))(k1:Int)(s1:Int×(List Int)×(List Int)×σ):Option ((Int×(List Int)×(List Int)×σ)⊕(((List Int)×(List Int)×σ)⊕((List Int)×Int×(List Int)×σ))):=if((s1.1==0)||(decide ((s1.2.1.length:Int)>0)))=true then Ab (GX k1 s1.1) λx3=>Ab (Wp s1.2.1 (w64 (8*(Af8 1 (s1.2.1.length:Int)))) 3 x3) λx4=>Ab (p0 s1.2.2.2 (s1.1,(⟨x4.1,x4.2⟩:BF))) λx5=>if((!x5.1)||(x4.2 !=0))=true then some (.inr (.inr (s1.2.1,k1,s1.2.2.1,x5.2)))else Ab (SE x4.1 s1.2.2.1) λx6=>some (.inl ((w64 (s1.1+1)),x6,s1.2.1,x5.2))else some (.inr (.inl (s1.2.1,s1.2.2.1,s1.2.2.2)))
def Lu {σ:Type}(p0:σ->(Int×BF)->Option (Bool×σ))(k0:List Int)(k1:Int)(k2:List Int)(s0:σ):Option ((List Int)×Int×(List Int)×σ):=Ab (iter (OG p0 k1) AY (0,k0,k2,s0)) λx1=>match x1 with| .inr r=>some r| .inl y1=>some (y1.1,k1,y1.2.1,y1.2.2)
theorem QQ {σ:Type}{p0:σ->(Int×BF)->Option (Bool×σ)}{k0 k1 k2 s0 r}(hm:Lu p0 k0 k1 k2 s0=some r)(g:Value)(R:σ->Mem->Ow)(hcb:Adm prog g (λx=> [.d (.i x.1),ag (OP x.2)]) R p0):Sp prog 191 [.ow 0,.pb 1 0,.pb 2 0,.pb 3 0] [.hp 0 (.cb g σ R s0),.box 1 [sl eI k0] 80,.box 2 [.d (.i k1)] 3,.box 3 [sl eI k2] 80] 4 (is (.tup []) [.hp 0 (.cb g σ R r.2.2.2),.box 1 [.d (.sl _ eI r.1)] 80,.box 2 [.d (.i r.2.1)] 3,.box 3 [.d (.sl _ eI r.2.2.1)] 80] 4):=by
 refine sq ?_;intros;refine oB hm λ_ q1 hm=>gI q1 (λ(p_0,p_1,p_2,p_3)=>⟨[(0,.ow 0),(1,.pb 1 0),(2,.pb 2 0),(3,.pb 3 0),(5,.d (.i p_0))],[(0,.box 1 [sl eI p_1] 80),(1,.box 2 [.d (.i k1)] 3),(2,.box 3 [sl eI p_2] 80),(3,.hp 0 (.cb g σ R p_3))],[],4⟩) λs1 _ Jl q4 bl1=>gi q4 ?_ ?_<;>intro _ q4
 ·refine gA q4 Pu λ_ q6 q4=>gA q4 Ads λx4 q7 q4=>oB q4 λ_ q8 q4=>gcb (s1.1,(⟨x4.1,x4.2⟩:BF)) hcb q8<|gi q4 ?_ ?_<;>intro _ q4
  ·obtain rfl:=nR bl1 q4;exact AnO hm▸gE
  exact gA q4 YS λ_ q9 q4=>gN bl1 q4
 obtain rfl:=nR bl1 q4;let y1:=(s1.2.1,s1.2.2.1,s1.2.2.2);exact AnO hm▸gE
def NH (a0:List Int)(a1:List Int)(a2:Int):Option ((List Int)×Int×(List Int)):=some (a0,a2,a1)
theorem Th {a0 a1 a2 r}(hm:NH a0 a1 a2=some r):Sp prog 105 [sl eI a0,sl eI a1,.d (.i a2)] [] 0 (is (.fn (.func 191) [] [.pb 0 0,.pb 1 0,.pb 2 0]) [.box 0 [sl eI r.1] 80,.box 1 [.d (.i r.2.1)] 3,.box 2 [sl eI r.2.2] 80] 3):=by
 refine sq ?_;intros;exact AnO hm▸gE
def Mm (x6:Int)(s2:(List Int)):Option (((List Int))⊕((Unit)⊕(((List Int))⊕(g_api_Cascade×Int)))):=if(decide ((s2.length:Int)>0))=true then Ab (idx s2 0) λx9=>if(x9==x6)=true then some (.inr (.inr (.inr ((⟨0,[]⟩:g_api_Cascade),100))))else Ab (idx s2 0) λx10=>if(decide (x10>x6))=true then some (.inr (.inr (.inl s2)))else Ab (cut s2 1 (s2.length:Int)) λx11=>some (.inl x11)else some (.inr (.inl ()))
def Mn (a0:List Int)(s1:(List Int)×Int):Option (((List Int)×Int)⊕((Unit)⊕(g_api_Cascade×Int))):=if(decide (s1.2<(a0.length:Int)))=true then Ab (idx a0 s1.2) λx6=>Ab (iter (Mm x6) AY s1.1) λx7=>match x7 with| .inr (.inl y3)=>some (.inl (y3,(w64 (s1.2+1))))| .inr (.inr r)=>some (.inr (.inr r))| .inl y4=>some (.inr (.inl ()))else some (.inr (.inl ()))
def IK (b9:Int×BF)(s3:(Int×Int×(List g_api_Sieve))×Nat):Option ((Int×Int×(List g_api_Sieve))×Nat):=Ab (if((b9.2.e_==0)&&(b9.1==16))=true then some 2 else some b9.2.e_) λx14=>if(x14 !=0)=true then some ((x14,0,([]:List g_api_Sieve)),1)else Ab (app 48 s3.1.2.2 ([b9.2.sieve_]:List g_api_Sieve)) λx15=>some ((s3.1.1,s3.1.2.1,x15),0)
def IV (a0:List Int)(a1:List Int)(a2:Int):Option (g_api_Cascade×Int):=Ab (IJ a0) λx1=>Ab (gu (!(!x1)) (IJ a1)) λx2=>Ab (gu (!((!x1)||(!x2))) (Ew a2)) λx3=>if(((!x1)||(!x2))||(!x3))=true then some ((⟨0,[]⟩:g_api_Cascade),1)else Ab (iter (Mn a0) AY (a1,0)) λx4=>match x4 with| .inr r=>some r| .inl y1=>Ab (NH a0 a1 a2) λx12=>Ab (Lu (λ(s:(Int×Int×(List g_api_Sieve))×Nat) (b0:Int×BF)=>if s.2=0 then Ab (IK b0 s) λy=>some (y.2==0,y)else none) x12.1 x12.2.1 x12.2.2 ((0,a2,([]:List g_api_Sieve)),0)) λx13=>if(x13.2.2.2).2=0 then some ((⟨x13.2.2.2.1.2.1,x13.2.2.2.1.2.2⟩:g_api_Cascade),0)else some ((⟨x13.2.2.2.1.2.1,x13.2.2.2.1.2.2⟩:g_api_Cascade),x13.2.2.2.1.1)
theorem VJ {a0 a1 a2 r}(hm:IV a0 a1 a2=some r):Sf prog 32 [sl eI a0,sl eI a1,.d (.i a2)] (.tup [ag (B5 r.1),.d (.i r.2)]):=
 spR call32 func32 rfl ntmps32 rfl λD0 As u4 m0 hD hd=>by
  unfold IV at hm;refine gA hm LP λ_ q1 hm=>oB hm λ_ q2 hm=>gcH q2 LP<|oB hm λ_ q3 hm=>gcH q3 Oc<|gi hm ?_ ?_<;>intro _ hm
  ·exact AnO hm▸gE
  refine oB hm λx4 q4 hm=>gjU 0 (λ(y1:Unit)=>⟨[(0,sl eI a0),(1,sl eI a1),(2,.d (.i a2)),(6,.pb 0 0),(7,.pb 1 0)],[(0,.box 1 [.d (.i 0)] 42),(1,.box 0 [.d (.i 0),.d (.v (.slice none 0 0))] 29)],[],2⟩) (λy1=>x4= .inl y1) (λJp bk1=> ?_) λy1 hy=> ?_
  ·refine gI q4 (λ(p_0,p_1)=>⟨[(0,sl eI a0),(1,sl eI a1),(2,.d (.i a2)),(6,.pb 0 0),(7,.pb 1 0),(8,sl eI p_0),(28,sl eI a0),(29,.d (.i (a0.length:Int))),(30,.d (.i p_1))],[(0,.box 1 [.d (.i 0)] 42),(1,.box 0 [.d (.i 0),.d (.v (.slice none 0 0))] 29)],[],2⟩) λs1 _ Jl q7 bl1=> ?_;unfold Mn at q7;refine gi q7 ?_ ?_<;>intro _ q7
   ·refine oB q7 λx6 q9 q7=>gx eI 1 q9<|oB q7 λ_ q10 q7=>gI q10 (λp=>⟨[(0,sl eI a0),(1,sl eI a1),(2,.d (.i a2)),(6,.pb 0 0),(7,.pb 1 0),(8,sl eI p),(10,.d (.i x6)),(28,sl eI a0),(29,.d (.i (a0.length:Int))),(30,.d (.i s1.2))],[(0,.box 1 [.d (.i 0)] 42),(1,.box 0 [.d (.i 0),.d (.v (.slice none 0 0))] 29)],[],2⟩) λs2 _ Jl q13 bl2=> ?_;unfold Mm at q13;refine gi q13 ?_ ?_<;>intro _ q13
    ·refine oB q13 λ_ q15 q13=>gx eI 1 q15<|gi q13 ?_ ?_<;>intro _ q13
     ·obtain rfl:=nR bl2 q13;obtain rfl:=nR bl1 q7;exact AnO hm▸gE
     refine oB q13 λ_ q16 q13=>gx eI 1 q16<|gi q13 ?_ ?_<;>intro _ q13
     ·obtain rfl:=nR bl2 q13;let y3:=s2;exact gN bl1 q7
     exact oB q13 λ_ q17 q13=>gk eI 1 q17<|gN bl2 q13
    obtain rfl:=nR bl2 q13;obtain rfl:=nR bl1 q7;exact gb bk1 hd _ rfl
   obtain rfl:=nR bl1 q7;exact gb bk1 hd _ rfl
  subst hy;refine gD hm Th λx12 q18 hm=>oB hm λx13 q19 hm=>Aju Ah 6 1 4<|OL hD (n0:=0) 5 6 [⟨3,2,80,[sl eI x12.1],[sl eI x13.1]⟩,⟨4,3,3,[.d (.i x12.2.1)],[.d (.i x13.2.1)]⟩,⟨5,4,80,[sl eI x12.2.2],[sl eI x13.2.2.1]⟩] (gt:=58) (ps:=[59,60]) [(6,.pb 0 0),(7,.pb 1 0),(58,.fn (.func 191) [] [.pb 2 0,.pb 3 0,.pb 4 0])] (λ(y6:Int×Int×(List g_api_Sieve))=> [(0,.row 5 4 _ Ah y6.2.2),(1,.box 1 [.d (.i y6.1)] 42),(2,.box 0 [.d (.i y6.2.1),.ow 5] 29)]) (λ(y6:(Int×Int×(List g_api_Sieve))×Nat)=> [(0,.row 5 4 _ Ah y6.1.2.2),(1,.box 1 [.d (.i y6.1.1)] 42),(2,.box 0 [.d (.i y6.1.2.1),.ow 5] 29)]) (λx=> [.d (.i x.1),ag (OP x.2)]) (λ(s3:Int×Int×(List g_api_Sieve)) (b9:Int×BF)=>⟨[(6,.pb 0 0),(7,.pb 1 0),(11,.d (.i b9.1)),(12,.pb 6 0),(58,.fn (.func 191) [] [.pb 2 0,.pb 3 0,.pb 4 0])],[(0,.box 6 [.d (.i b9.2.sieve_.Bits),.d (.i b9.2.sieve_.Hashes),.d (.i b9.2.sieve_.Salt),sl eB b9.2.sieve_.B,.d (.i b9.2.e_)] 166),(1,.row 5 4 _ Ah s3.2.2),(2,.box 1 [.d (.i s3.1)] 42),(3,.box 0 [.d (.i s3.2.1),.ow 5] 29)],[],7⟩) (pJ λx s=>IK x s) (0,a2,([]:List g_api_Sieve)) hd (via fJ hyJ rfl λg R h=>QQ q19 g R h) rfl (λ_=>rfl) (λ_=>rfl) (λ_=>rfl) (λ_=>rfl) ?_ ?_ ?_ ?_
  ·intro s3 b9 s' hp l D0 As u4 m0 hd Ja ba;exact gb ba hd () trivial
  ·intro s3 b9 s' hp l D0 As u4 m0 hd Jb bb Jr br;obtain⟨z1,q20,hp⟩:=AnZ.1 hp;subst hp;unfold IK at q20;dsimp only at q20;refine oB q20 λx14 q21 q20=>gj (λ(_:Unit)=>⟨[(6,.pb 0 0),(7,.pb 1 0),(12,.pb 6 0),(58,.fn (.func 191) [] [.pb 2 0,.pb 3 0,.pb 4 0])],[(0,.box 6 [.d (.i b9.2.sieve_.Bits),.d (.i b9.2.sieve_.Hashes),.d (.i b9.2.sieve_.Salt),sl eB b9.2.sieve_.B,.d (.i x14)] 166),(1,.row 5 4 _ Ah s3.2.2),(2,.box 1 [.d (.i s3.1)] 42),(3,.box 0 [.d (.i s3.2.1),.ow 5] 29)],[],7⟩) (λ_=>True) (λJp bk3=> ?_) λ_ _=> ?_
   ·refine gi q21 ?_ ?_<;>intro _ q21
    ·obtain rfl:=AnO q21;exact gb bk3 hd () trivial
    obtain rfl:=AnO q21;exact gb bk3 hd () trivial
   refine gi q20 ?_ ?_<;>intro _ q20
   ·refine Aju Ah 6 1 4 ?_;obtain rfl:=AnO q20;exact Ajr br hd ((x14,0,([]:List g_api_Sieve)),1) rfl
   refine gq Ah 4 [b9.2.sieve_]<|oB q20 λx15 q22 q20=>gp Ah 4 q22 ?_;obtain rfl:=AnO q20;exact gb bb hd (s3.1,s3.2.1,x15) rfl
  ·intro x hx;obtain⟨hj1,rfl⟩:=Ac0 hx;rw[AnT hj1]at hm;exact AnO hm▸gE
  intro y hy;obtain⟨hj1,rfl⟩:=AcZ hy;rw[AnW hj1]at hm;exact AnO hm▸gE
def Lk:Option Bool:=Ab (LG 5 (⟨#[120,46,97]⟩:ByteArray) 2) λx1=>if(!x1.2)=true then some false else Ab (idx x1.1.logs_ 0) λx2=>Ab (Qi x2 0 3 4) λx3=>Ab (Gp x1.1.c_ x3.1) λx4=>Ab (F0 (⟨#[]⟩:ByteArray) x1.1.c_.Roots x1.1.c_.Logs 0) λx5=>Ab (IV ([9]:List Int) ([]:List Int) 1) λx6=>Ab (D4 x4.1 x6.1) λx7=>Ab (D4 x7.1 (⟨0,[]⟩:g_api_Cascade)) λx8=>Ab (gu ((((x3.2==0)&&(x4.2==0))&&(x6.2==0))&&(x7.2==0)) (m_client_Check x7.1)) λx9=>bnd ((((((x3.2==0)&&(x4.2==0))&&(x6.2==0))&&(x7.2==0))&&(x9==0))) λx10=>Ab (gu ((x10&&(x5.2==1))&&(x8.2==190)) (BD x1.1.c_ x1.1.o_ (⟨#[120,46,97]⟩:ByteArray) 4)) λx11=>Ab (gu (((x10&&(x5.2==1))&&(x8.2==190))&&(x11==240)) (BD x4.1 x1.1.o_ (⟨#[120,46,97]⟩:ByteArray) 4)) λx12=>Ab (gu ((((x10&&(x5.2==1))&&(x8.2==190))&&(x11==240))&&(x12==0)) (BD x4.1 x1.1.o_ (⟨#[121,46,97]⟩:ByteArray) 4)) λx13=>Ab (gu (((((x10&&(x5.2==1))&&(x8.2==190))&&(x11==240))&&(x12==0))&&(x13==110)) (BD x4.1 x1.1.o_ (⟨#[120,46,97]⟩:ByteArray) 8)) λx14=>Ab (gu ((((((x10&&(x5.2==1))&&(x8.2==190))&&(x11==240))&&(x12==0))&&(x13==110))&&(x14==190)) (BD x7.1 x1.1.o_ (⟨#[120,46,97]⟩:ByteArray) 4)) λx15=>bnd ((((((((x10&&(x5.2==1))&&(x8.2==190))&&(x11==240))&&(x12==0))&&(x13==110))&&(x14==190))&&(x15==270))) λx16=>some x16
theorem Za {r}(hm:Lk=some r):Sf prog 10 [] (.d (.t r)):=by
 refine sq ?_;intros;refine gA hm VG λ_ q1 hm=>gi hm ?_ ?_<;>intro _ hm
 ·exact AnO hm▸gE
 refine oB hm λ_ q2 hm=>gx Av 6 q2<|gA hm AaY λ_ q3 hm=>gA hm QO λ_ q4 hm=>gA hm N9 λ_ q5 hm=>gq eI 1 [9]<|gA hm VJ λ_ q6 hm=>gA hm Oa λ_ q7 hm=>gA hm Oa λ_ q8 hm=>oB hm λ_ q9 hm=>gcH q9 E9 ?_;refine bE hm ?_;intro _ hm;refine oB hm λ_ q11 hm=>gcH q11 FI<|oB hm λ_ q12 hm=>gcH q12 FI<|oB hm λ_ q13 hm=>gcH q13 FI<|oB hm λ_ q14 hm=>gcH q14 FI<|oB hm λ_ q15 hm=>gcH q15 FI<|bE hm ?_;intro _ hm;exact AnO hm▸gE
def DT (a0:g_api_Cascade)(s1:Int):Option ((Int)⊕((Unit)⊕Bool)):=if((decide (s1<(a0.Levels.length:Int)))&&(decide (s1<20)))=true then Ab (idx a0.Levels s1) λx3=>if(decide ((x3.B.length:Int)>300))=true then some (.inr (.inr false))else some (.inl (w64 (s1+1)))else some (.inr (.inl ()))
def DU (a0:g_api_Cascade):Option Bool:=Ab (iter (DT a0) AY 0) λx1=>match x1 with| .inr r=>some r| .inl y1=>bnd ((decide ((a0.Levels.length:Int)<=18))) λx4=>some x4
theorem KY {a0 r}(hm:DU a0=some r):Sf prog 12 [ag (B5 a0)] (.d (.t r)):=by
 refine sq ?_;intros;refine oB hm λ_ q1 hm=>gI q1 (λp=>⟨[(1,.pb 0 0),(3,.d (.i p))],[(0,.box 0 [.d (.i a0.Day),sl Ah a0.Levels] 29)],[],1⟩) λs1 _ Jl q4 bl1=>gi q4 ?_ ?_<;>intro _ q4
 ·refine oB q4 λ_ q6 q4=>gx Ah 4 q6<|gi q4 ?_ ?_<;>intro _ q4
  ·obtain rfl:=nR bl1 q4;exact AnO hm▸gE
  exact gN bl1 q4
 obtain rfl:=nR bl1 q4;refine bE hm ?_;intro _ hm;exact AnO hm▸gE
def Fu (a0:g_api_Cert)(s1:Int):Option ((Int)⊕((Unit)⊕Bool)):=if((decide (s1<(a0.Names.length:Int)))&&(decide (s1<12)))=true then Ab (idx a0.Names s1) λx3=>if(decide ((x3.size:Int)>200))=true then some (.inr (.inr false))else some (.inl (w64 (s1+1)))else some (.inr (.inl ()))
def Ft (a0:g_api_Cert)(s2:Int):Option ((Int)⊕((Unit)⊕Bool)):=if((decide (s2<(a0.Permit.length:Int)))&&(decide (s2<12)))=true then Ab (idx a0.Permit s2) λx6=>if(decide ((x6.size:Int)>200))=true then some (.inr (.inr false))else some (.inl (w64 (s2+1)))else some (.inr (.inl ()))
def HT (a0:g_api_Cert):Option Bool:=
 Ab (iter (Fu a0) AY 0) λx1=>match x1 with
 | .inr r=>some r
 | .inl y1=>
 Ab (iter (Ft a0) AY 0) λx4=>match x4 with
 | .inr r=>some r
 | .inl y3=>
 bnd ((((((decide ((a0.Names.length:Int)<=12))&&(decide ((a0.Permit.length:Int)<=12)))&&(decide ((a0.Proms.length:Int)<=8)))&&(decide ((a0.Issuer.size:Int)<=200)))&&(decide ((a0.Subject.size:Int)<=200)))) λx7=>
 some x7
theorem TU {a0 r}(hm:HT a0=some r):Sf prog 33 [ag (Ac a0)] (.d (.t r)):=by
 refine sq ?_;intros;refine oB hm λ_ q1 hm=>gI q1 (λp=>⟨[(1,.pb 0 0),(3,.d (.i p))],[(0,.box 0 [.d (.i a0.Serial),.d (.s a0.Issuer),.d (.s a0.Subject),.d (.u a0.Key),sl eS a0.Names,.d (.i a0.From),.d (.i a0.Until),.d (.t a0.Ca),.d (.i a0.Depth),sl eS a0.Permit,sl Ad a0.Proms,.d (.u a0.Sig.E),.d (.u a0.Sig.S)] 59)],[],1⟩) λs1 _ Jl q4 bl1=>gi q4 ?_ ?_<;>intro _ q4
 ·refine oB q4 λ_ q6 q4=>gx eS 1 q6<|gi q4 ?_ ?_<;>intro _ q4
  ·obtain rfl:=nR bl1 q4;exact AnO hm▸gE
  exact gN bl1 q4
 obtain rfl:=nR bl1 q4;refine oB hm λ_ q7 hm=>gI q7 (λp=>⟨[(1,.pb 0 0),(4,.d (.i p))],[(0,.box 0 [.d (.i a0.Serial),.d (.s a0.Issuer),.d (.s a0.Subject),.d (.u a0.Key),sl eS a0.Names,.d (.i a0.From),.d (.i a0.Until),.d (.t a0.Ca),.d (.i a0.Depth),sl eS a0.Permit,sl Ad a0.Proms,.d (.u a0.Sig.E),.d (.u a0.Sig.S)] 59)],[],1⟩) λs2 _ Jl q10 bl2=>gi q10 ?_ ?_<;>intro _ q10
 ·refine oB q10 λ_ q12 q10=>gx eS 1 q12<|gi q10 ?_ ?_<;>intro _ q10
  ·obtain rfl:=nR bl2 q10;exact AnO hm▸gE
  exact gN bl2 q10
 obtain rfl:=nR bl2 q10;refine bE hm ?_;intro _ hm;exact AnO hm▸gE
def EP (a0:List g_api_Cert)(s1:Int):Option ((Int)⊕((Unit)⊕Bool)):=if((decide (s1<(a0.length:Int)))&&(decide (s1<12)))=true then Ab (idx a0 s1) λx3=>Ab (HT x3) λx4=>if(!x4)=true then some (.inr (.inr false))else some (.inl (w64 (s1+1)))else some (.inr (.inl ()))
def G3 (a0:List g_api_Cert):Option Bool:=Ab (iter (EP a0) AY 0) λx1=>match x1 with| .inr r=>some r| .inl y1=>bnd ((decide ((a0.length:Int)<=10))) λx5=>some x5
theorem SS {a0 r}(hm:G3 a0=some r):Sf prog 37 [sl Ac a0] (.d (.t r)):=by
 refine sq ?_;intros;refine oB hm λ_ q1 hm=>gI q1 (λp=>⟨[(0,sl Ac a0),(3,.d (.i p))],[],[],0⟩) λs1 _ Jl q4 bl1=>gi q4 ?_ ?_<;>intro _ q4
 ·refine oB q4 λ_ q6 q4=>gx Ac 13 q6<|gA q4 TU λ_ q7 q4=>gi q4 ?_ ?_<;>intro _ q4
  ·obtain rfl:=nR bl1 q4;exact AnO hm▸gE
  exact gN bl1 q4
 obtain rfl:=nR bl1 q4;refine bE hm ?_;intro _ hm;exact AnO hm▸gE
def MS (a0:g_api_Client):Option Bool:=Ab (gu (decide ((a0.Who.size:Int)<=100)) (G3 a0.Roots)) λx1=>Ab (gu ((((decide ((a0.Who.size:Int)<=100))&&x1)&&(decide ((a0.Logs.length:Int)<=20)))&&(decide ((a0.Pool.L.length:Int)<=40))) (DU a0.Cascade)) λx2=>bnd ((((((decide ((a0.Who.size:Int)<=100))&&x1)&&(decide ((a0.Logs.length:Int)<=20)))&&(decide ((a0.Pool.L.length:Int)<=40)))&&x2)) λx3=>some x3
theorem AaL {a0 r}(hm:MS a0=some r):Sf prog 11 [ag (A0 a0)] (.d (.t r)):=by
 refine sq ?_;intros;refine oB hm λ_ q1 hm=>gcH q1 SS<|oB hm λ_ q2 hm=>gcH q2 KY<|bE hm ?_;intro _ hm;exact AnO hm▸gE
def JO (a0:Int):Option Bool:=bnd (((decide (a0>=0))&&(decide (a0<=68719476735)))) λx1=>some x1
theorem W3 {a0 r}(hm:JO a0=some r):Sf prog 124 [.d (.i a0)] (.d (.t r)):=by
 refine sq ?_;intros;refine bE hm ?_;intro _ hm;exact AnO hm▸gE
def MY (a0:Int):Option Bool:=bnd (((decide (a0>=0))&&(decide (a0<=1099511627776)))) λx1=>some x1
theorem W5 {a0 r}(hm:MY a0=some r):Sf prog 207 [.d (.i a0)] (.d (.t r)):=by
 refine sq ?_;intros;refine bE hm ?_;intro _ hm;exact AnO hm▸gE
def JP (a0:g_api_Sieve):Option Int:=Ab (gu (!(((((decide (a0.Bits<8))||(decide (a0.Bits>8192)))||((Int.tmod a0.Bits 8) !=0))||(decide (a0.Hashes<1)))||(decide (a0.Hashes>8)))) (MY a0.Salt)) λx1=>bnd (w64 (Int.tdiv a0.Bits 8)) λx2=>if(((((((decide (a0.Bits<8))||(decide (a0.Bits>8192)))||((Int.tmod a0.Bits 8) !=0))||(decide (a0.Hashes<1)))||(decide (a0.Hashes>8)))||(!x1))||((a0.B.length:Int) !=x2))=true then some 1 else some 0
theorem W6 {a0 r}(hm:JP a0=some r):Sf prog 125 [ag (Ah a0)] (.d (.i r)):=by
 refine sq ?_;intros;refine oB hm λ_ q1 hm=>gcH q1 W5<|bE hm ?_;intro _ hm;refine gi hm ?_ ?_<;>intro _ hm
 ·exact AnO hm▸gE
 exact AnO hm▸gE
def G7 (a0:g_api_Cascade)(s1:Int):Option ((Int)⊕((Unit)⊕Int)):=if(decide (s1<(a0.Levels.length:Int)))=true then Ab (idx a0.Levels s1) λx4=>Ab (JP x4) λx5=>if(((x5 !=0)||(x4.Hashes !=3))||(x4.Salt !=(w64 ((w64 (16*a0.Day))+s1))))=true then some (.inr (.inr 1))else some (.inl (w64 (s1+1)))else some (.inr (.inl ()))
def H2 (a0:g_api_Cascade):Option Int:=if(decide ((a0.Levels.length:Int)>16))=true then some 2 else Ab (JO a0.Day) λx1=>if(!x1)=true then some 1 else Ab (iter (G7 a0) AY 0) λx2=>match x2 with| .inr r=>some r| .inl y1=>some 0
theorem QE {a0 r}(hm:H2 a0=some r):Sf prog 45 [ag (B5 a0)] (.d (.i r)):=by
 refine sq ?_;intros;refine gi hm ?_ ?_<;>intro _ hm
 ·exact AnO hm▸gE
 refine gA hm W3 λ_ q1 hm=>gi hm ?_ ?_<;>intro _ hm
 ·exact AnO hm▸gE
 refine oB hm λ_ q2 hm=>gI q2 (λp=>⟨[(1,.pb 0 0),(3,.d (.i p))],[(0,.box 0 [.d (.i a0.Day),sl Ah a0.Levels] 29)],[],1⟩) λs1 _ Jl q5 bl1=>gi q5 ?_ ?_<;>intro _ q5
 ·refine oB q5 λ_ q7 q5=>gx Ah 4 q7<|gA q5 W6 λ_ q8 q5=>gi q5 ?_ ?_<;>intro _ q5
  ·obtain rfl:=nR bl1 q5;exact AnO hm▸gE
  exact gN bl1 q5
 obtain rfl:=nR bl1 q5;exact AnO hm▸gE
end Go.Proofs.YtnhdojckpcbjeaaGreatDoor
