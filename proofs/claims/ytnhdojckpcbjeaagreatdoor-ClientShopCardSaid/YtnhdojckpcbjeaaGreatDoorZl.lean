/- The walks of some functions, by the executor, written by program. Conditions: none. -/
import Derived.Test.YtnhdojckpcbjeaaGreatDoorZh
import Derived.Test.YtnhdojckpcbjeaaGreatDoorZi
import Derived.Test.YtnhdojckpcbjeaaGreatDoorZj
import Derived.Test.YtnhdojckpcbjeaaGreatDoorZk
set_option linter.unusedSimpArgs false
set_option linter.unusedVariables false
set_option maxHeartbeats 20000000
set_option maxRecDepth 100000
namespace Go.Proofs.YtnhdojckpcbjeaaGreatDoor
open Go Go.Gw Go.Ax Tryz
attribute [local irreducible] Go.Ax.Go
def De (a0:Int)(a1:g_api_Log)(k0:List (Int×Bool))(k1:List UInt8)(k2:Int)(k3:List g_api_Log):Option (g_api_Promise×Bool×(List (Int×Bool))×(List UInt8)×Int×(List g_api_Log)):=if((lkG (eqI a1.Id) k0).getD false)=true then some ((⟨0,0,(0,0),(⟨0,0⟩:g_api_Sig)⟩:g_api_Promise),false,k0,k1,k2,k3)else Ab (Dc a1 k1 k2) fun x1=>Ab (if(x1.2.2==0)=true then Ab (idx k3 a0) fun x3=>bnd (k3.set a0.toNat x1.1) fun x4=>some ((upG (eqI a1.Id) (a1.Id,true) k0),x4)else some (k0,k3)) fun x2=>some (x1.2.1,(x1.2.2==0),x2.1,k1,k2,x2.2)
theorem OC {a0 a1 k0 k1 k2 k3 r}(hm:De a0 a1 k0 k1 k2 k3=some r):Sp prog 176 [.d (.i a0),ag (Av a1),.pb 0 0,.pb 2 0,.pb 3 0,.pb 4 0] [.box 0 [.ow 1] 230,.hp 1 (.mg _ _ eI D.t k0),.box 2 [sl eB k1] 96,.box 3 [.d (.i k2)] 3,.box 4 [.ow 5] 72,.row 5 6 _ Av k3] 6 (is (.tup [ag (Ad r.1),.d (.t r.2.1)]) [.box 0 [.ow 1] 230,.hp 1 (.mg _ _ eI D.t r.2.2.1),.box 2 [.d (.sl _ eB r.2.2.2.1)] 96,.box 3 [.d (.i r.2.2.2.2.1)] 3,.box 4 [.ow 6] 72,.row 6 6 _ Av r.2.2.2.2.2] 7):=by
 refine sq fun D0 As η0 m0 hd=>glkg (K:=eI) (c:=D.t) k0 a1.Id (eqI a1.Id) false 3 4 false (by kernel_rfl) (by kernel_rfl) (by kernel_rfl) (by kernel_rfl)<|gi hm ?_ ?_<;>intro _ hm
 ·exact AlC hm▸gE
 refine gA hm Tk fun x1 q1 hm=>oB hm fun x2 q2 hm=>gj (fun(_:Unit)=>let (y_0,y_1):=x2; ⟨[(8,.pb 7 0),(11,.pb 9 0),(12,.d (.i x1.2.2)),(10,.pb 8 0),(7,.pb 6 0)],[(0,.box 9 [.d (.i x1.2.1.Log),.d (.i x1.2.1.At),.d (.u x1.2.1.Leaf.1),.d (.u x1.2.1.Leaf.2),.d (.u x1.2.1.Sig.E),.d (.u x1.2.1.Sig.S)] 63),(1,.box 8 [.d (.i x1.1.Id),.d (.u x1.1.Key),.d (.i x1.1.Delay),sl Am x1.1.L,sl eI x1.1.Hide,sl Am x1.1.Wait] 82),(2,.box 7 [.d (.i 0),.d (.i 0),.d (.u 0),.d (.u 0),.d (.u 0),.d (.u 0)] 63),(3,.box 6 [.d (.i a1.Id),.d (.u a1.Key),.d (.i a1.Delay),sl Am a1.L,sl eI a1.Hide,sl Am a1.Wait] 82),(4,.box 0 [.ow 1] 230),(5,.hp 1 (.mg _ _ eI D.t y_0)),(6,.box 2 [sl eB k1] 96),(7,.box 3 [.d (.i k2)] 3),(8,.box 4 [.ow 5] 72),(9,.row 5 6 _ Av y_1)],[],10⟩) (fun _=>True) (fun Jp bk1=> ?_) fun _ _=> ?_
 ·refine gi q2 ?_ ?_<;>intro _ q2
  ·refine oB q2 fun _ q3 q2=>I6 (E:=Av) (fun _=>q3)<|bE q2 ?_;intro _ q2;refine AeZ (k:=6) (E:=Av) x1.1 (fun _=>rfl) q3<|gupg (K:=eI) (c:=D.t) k0 a1.Id true (eqI a1.Id) 3 inj_i (by kernel_rfl) (by kernel_rfl) (by kernel_rfl) (by kernel_rfl) ?_;obtain rfl:=AlC q2;exact gb bk1 hd () trivial
  obtain rfl:=AlC q2;exact gb bk1 hd () trivial
 exact AlC hm▸gE
def Kw (a0:g_api_Promise)(a1:g_api_Promise):Option Int:=some (w64 (a0.Log-a1.Log))
theorem OB {a0 a1 r}(hm:Kw a0 a1=some r):Sf prog 178 [ag (Ad a0),ag (Ad a1)] (.d (.i r)):=by
 refine sq ?_;intros;exact AlC hm▸gE
def AA (a0:List g_api_Log)(a1:Int)(s1:(List Int)×(List g_api_Promise)×Int×(List (Int×Bool))×(List UInt8)×Int×(List g_api_Log)):Option (((List Int)×(List g_api_Promise)×Int×(List (Int×Bool))×(List UInt8)×Int×(List g_api_Log))⊕((List Int)×(List g_api_Promise)×(List (Int×Bool))×(List UInt8)×Int×(List g_api_Log))):=if(decide (s1.2.2.1<(a0.length:Int)))=true then Ab (idx a0 s1.2.2.1) fun x4=>if((s1.1.length:Int)==a1)=true then some (.inr (s1.1,s1.2.1,s1.2.2.2.1,s1.2.2.2.2.1,s1.2.2.2.2.2.1,s1.2.2.2.2.2.2))else Ab (De s1.2.2.1 x4 s1.2.2.2.1 s1.2.2.2.2.1 s1.2.2.2.2.2.1 s1.2.2.2.2.2.2) fun x5=>if(!x5.2.1)=true then some (.inl (s1.1,s1.2.1,(w64 (s1.2.2.1+1)),x5.2.2.1,x5.2.2.2.1,x5.2.2.2.2.1,x5.2.2.2.2.2))else Ab (app 8 s1.1 ([s1.2.2.1]:List Int)) fun x6=>Ab (app 48 s1.2.1 ([x5.1]:List g_api_Promise)) fun x7=>some (.inl (x6,x7,(w64 (s1.2.2.1+1)),x5.2.2.1,x5.2.2.2.1,x5.2.2.2.2.1,x5.2.2.2.2.2))else some (.inr (s1.1,s1.2.1,s1.2.2.2.1,s1.2.2.2.2.1,s1.2.2.2.2.2.1,s1.2.2.2.2.2.2))
def AW (a0:List g_api_Log)(a1:Int)(k0:List (Int×Bool))(k1:List UInt8)(k2:Int)(k3:List g_api_Log):Option ((List Int)×(List g_api_Promise)×Bool×(List (Int×Bool))×(List UInt8)×Int×(List g_api_Log)):=Ab (Ab (iter (AA a0 a1) Fx (([]:List Int),([]:List g_api_Promise),0,k0,k1,k2,k3)) fun x2=>some (x2.1,x2.2.1,x2.2.2.1,x2.2.2.2.1,x2.2.2.2.2.1,x2.2.2.2.2.2)) fun x1=>some (x1.1,x1.2.1,((x1.1.length:Int)==a1),x1.2.2.1,x1.2.2.2.1,x1.2.2.2.2.1,x1.2.2.2.2.2)
theorem FK {a0 a1 k0 k1 k2 k3 r}(hm:AW a0 a1 k0 k1 k2 k3=some r):Sp prog 175 [sl Av a0,.d (.i a1),.fn (.func 176) [] [.pb 0 0,.pb 2 0,.pb 3 0,.pb 4 0]] [.box 0 [.ow 1] 230,.hp 1 (.mg _ _ eI D.t k0),.box 2 [sl eB k1] 96,.box 3 [.d (.i k2)] 3,.box 4 [.ow 5] 72,.row 5 6 _ Av k3] 6 (is (.tup [.ow 6,.ow 7,.d (.t r.2.2.1)]) [.box 0 [.ow 1] 230,.hp 1 (.mg _ _ eI D.t r.2.2.2.1),.box 2 [.d (.sl _ eB r.2.2.2.2.1)] 96,.box 3 [.d (.i r.2.2.2.2.2.1)] 3,.box 4 [.ow 8] 72,.row 8 6 _ Av r.2.2.2.2.2.2,.row 6 1 _ eI r.1,.row 7 6 _ Ad r.2.1] 9):=by
 refine sq fun D0 As η0 m0 hd=> ?_;unfold AW at hm;obtain⟨x1,q1,hm⟩:=Ae hm;refine oB q1 fun x2 q2 q1=>WL 0 eI 6 1<|WL 0 Ad 7 6<|gjU 0 (fun(_:Unit)=>let (y_0,y_1,y_2,y_3,y_4,y_5):=x2; ⟨[(1,.d (.i a1)),(6,.ow 8),(7,.ow 7)],[(0,.row 8 1 _ eI y_0),(1,.row 7 6 _ Ad y_1),(2,.row 6 6 _ Av y_5),(3,.box 0 [.ow 1] 230),(4,.hp 1 (.mg _ _ eI D.t y_2)),(5,.box 2 [sl eB y_3] 96),(6,.box 3 [.d (.i y_4)] 3),(7,.box 4 [.ow 6] 72)],[],9⟩) (fun _=>True) (fun Jp bk2=> ?_) fun _ _=> ?_
 ·refine gI q2 (fun(p_0,p_1,p_2,p_3,p_4,p_5,p_6)=>⟨[(1,.d (.i a1)),(2,.fn (.func 176) [] [.pb 0 0,.pb 2 0,.pb 3 0,.pb 4 0]),(6,.ow 8),(7,.ow 7),(13,sl Av a0),(14,.d (.i (a0.length:Int))),(15,.d (.i p_2))],[(0,.row 8 1 _ eI p_0),(1,.row 7 6 _ Ad p_1),(2,.row 6 6 _ Av p_6),(3,.box 0 [.ow 1] 230),(4,.hp 1 (.mg _ _ eI D.t p_3)),(5,.box 2 [sl eB p_4] 96),(6,.box 3 [.d (.i p_5)] 3),(7,.box 4 [.ow 6] 72)],[],9⟩) fun s1 _ Jl q5 bl1=>gi q5 ?_ ?_<;>intro _ q5
  ·refine oB q5 fun _ q7 q5=>gx Av 6 q7<|gi q5 ?_ ?_<;>intro _ q5
   ·obtain rfl:=nR bl1 q5;exact gb bk2 hd () trivial
   refine gD q5 OC fun x5 q8 q5=>gi q5 ?_ ?_<;>intro _ q5
   ·exact gN bl1 q5
   exact gq eI 1 [s1.2.2.1]<|oB q5 fun _ q9 q5=>gp eI 1 q9<|gq Ad 6 [x5.1]<|oB q5 fun _ q10 q5=>gp Ad 6 q10<|gN bl1 q5
  obtain rfl:=nR bl1 q5;exact gb bk2 hd () trivial
 obtain rfl:=AlC q1;exact AlC hm▸gE
def DS (a1:Int)(s2:Int×(List g_api_Promise)):Option ((Int×(List g_api_Promise))⊕((List g_api_Promise))):=Ab (gu (decide (s2.1>a1)) (idx s2.2 s2.1)) fun x6=>Ab (gu (decide (s2.1>a1)) (idx s2.2 (w64 (s2.1-1)))) fun x7=>Ab (gu (decide (s2.1>a1)) (Kw x6 x7)) fun x8=>if((decide (s2.1>a1))&&(decide (x8<0)))=true then Ab (idx s2.2 (w64 (s2.1-1))) fun x9=>Ab (idx s2.2 s2.1) fun x10=>Ab (idx s2.2 s2.1) fun x11=>bnd (s2.2.set s2.1.toNat x9) fun x12=>Ab (idx x12 (w64 (s2.1-1))) fun x13=>bnd (x12.set (w64 (s2.1-1)).toNat x10) fun x14=>some (.inl ((w64 (s2.1-1)),x14))else some (.inr s2.2)
def DT (a1:Int)(a2:Int)(s1:Int×(List g_api_Promise)):Option ((Int×(List g_api_Promise))⊕((List g_api_Promise))):=if(decide (s1.1<a2))=true then Ab (Ab (iter (DS a1) Fx (s1.1,s1.2)) fun x4=>some x4) fun x3=>some (.inl ((w64 (s1.1+1)),x3))else some (.inr s1.2)
def CB (a0:List g_api_Promise)(a1:Int)(a2:Int):Option (List g_api_Promise):=Ab (iter (DT a1 a2) Fx ((w64 (a1+1)),a0)) fun x1=>some x1
theorem Er {a0 a1 a2 r}(hm:CB a0 a1 a2=some r):Sp prog 310 [.ow 0,.d (.i a1),.d (.i a2),.fn (.func 178) [] []] [.row 0 6 _ Ad a0] 1 (is (.tup []) [.row 0 6 _ Ad r] 1):=by
 refine sq ?_;intros;refine oB hm fun _ q1 hm=>gI q1 (fun(p_0,p_1)=>⟨[(0,.ow 0),(1,.d (.i a1)),(2,.d (.i a2)),(3,.fn (.func 178) [] []),(8,.d (.i p_0))],[(0,.row 0 6 _ Ad p_1)],[],1⟩) fun s1 _ Jl q4 bl1=>gi q4 ?_ ?_<;>intro _ q4
 ·obtain⟨x3,q6,q4⟩:=Ae q4;refine oB q6 fun x4 q7 q6=>gI q7 (fun(p_0,p_1)=>⟨[(0,.ow 0),(1,.d (.i a1)),(2,.d (.i a2)),(3,.fn (.func 178) [] []),(8,.d (.i s1.1)),(9,.d (.i p_0))],[(0,.row 0 6 _ Ad p_1)],[],1⟩) fun s2 _ Jl q10 bl2=>oB q10 fun _ q12 q10=>Aij (E:=Ad) (fun h=>AeX h q12)<|gldOG (k:=6) (fo:=0) (nn:=6) (ag:=true) (E:=Ad) (fun _=>rfl) (fun h=>AeX h q12)<|oB q10 fun _ q13 q10=>Aij (E:=Ad) (fun h=>AeX h q13)<|gldOG (k:=6) (fo:=0) (nn:=6) (ag:=true) (E:=Ad) (fun _=>rfl) (fun h=>AeX h q13)<|oB q10 fun _ q14 q10=>gcH q14 OB<|gi q10 ?_ ?_<;>intro _ q10
  ·refine oB q10 fun x9 q15 q10=>I6 (E:=Ad) (fun _=>q15)<|Yh (k:=6) (fo:=0) (nn:=6) (ag:=true) (E:=Ad) (fun _=>rfl) (fun _=>q15)<|oB q10 fun x10 q16 q10=>I6 (E:=Ad) (fun _=>q16)<|Yh (k:=6) (fo:=0) (nn:=6) (ag:=true) (E:=Ad) (fun _=>rfl) (fun _=>q16)<|oB q10 fun _ q17 q10=>I6 (E:=Ad) (fun _=>q17)<|bE q10 ?_;intro _ q10;refine AeZ (k:=6) (E:=Ad) x9 (fun _=>rfl) q17<|oB q10 fun _ q19 q10=>I6 (E:=Ad) (fun _=>q19)<|bE q10 ?_;intro _ q10;exact AeZ (k:=6) (E:=Ad) x10 (fun _=>rfl) q19<|gN bl2 q10
  obtain rfl:=nR bl2 q10;let x4:=s2.2;obtain rfl:=AlC q6;exact gN bl1 q4
 obtain rfl:=nR bl1 q4;exact AlC hm▸gE
def ES (a0:List g_api_Promise)(s1:Int×Int×Int×Bool×Bool):Option ((Int×Int×Int×Bool×Bool)⊕((Unit)⊕(List g_api_Promise))):=if(decide ((w64 (s1.2.1-s1.1))≤12))=true then Ab (CB a0 s1.1 s1.2.1) fun x3=>some (.inr (.inr x3))else if(s1.2.2.1==0)=true then none else none
def C3 (a0:List g_api_Promise)(a1:Int)(a2:Int)(a3:Int):Option (List g_api_Promise):=Ab (iter (ES a0) Fx (a1,a2,a3,true,true)) fun x1=>match x1 with| .inr r=>some r| .inl y1=>none
theorem FG {a0 a1 a2 a3 r}(hm:C3 a0 a1 a2 a3=some r):Sp prog 252 [.ow 0,.d (.i a1),.d (.i a2),.d (.i a3),.fn (.func 178) [] []] [.row 0 6 _ Ad a0] 1 (is (.tup []) [.row 0 6 _ Ad r] 1):=by
 refine sq ?_;intros;refine oB hm fun _ q1 hm=>gI q1 (fun(p_0,p_1,p_2,p_3,p_4)=>⟨[(0,.ow 0),(1,.d (.i p_0)),(2,.d (.i p_1)),(3,.d (.i p_2)),(4,.fn (.func 178) [] []),(10,.d (.t p_3)),(11,.d (.t p_4))],[(0,.row 0 6 _ Ad a0)],[],1⟩) fun s1 _ Jl q4 bl1=>gi q4 ?_ ?_<;>intro _ q4
 ·refine gD q4 Er fun _ q6 q4=> ?_;obtain rfl:=nR bl1 q4;exact AlC hm▸gE
 refine gi q4 ?_ ?_<;>intro _ q4
 ·cases q4
 cases q4
def Bx (a0:List g_api_Promise):Option (List g_api_Promise):=Ab (Fm (toU (a0.length:Int))) fun x1=>Ab (C3 a0 0 (a0.length:Int) x1) fun x2=>some x2
theorem Es {a0 r}(hm:Bx a0=some r):Sp prog 177 [.ow 0,.fn (.func 178) [] []] [.row 0 6 _ Ad a0] 1 (is (.tup []) [.row 0 6 _ Ad r] 1):=by
 refine sq ?_;intros;refine gA hm Np fun _ q1 hm=>gD hm FG fun _ q2 hm=> ?_;exact AlC hm▸gE
def E8 (a0:List g_api_Log)(a1:g_api_Cert)(a2:Int):Option ((List g_api_Log)×g_api_Cert×Int):=Ab (Jy a1) fun x1=>if(x1.2 !=0)=true then some (([]:List g_api_Log),(⟨0,ByteArray.empty,ByteArray.empty,0,[],0,0,false,0,[],[],(⟨0,0⟩:g_api_Sig)⟩:g_api_Cert),x1.2)else Ab (Cj a0) fun x2=>Ab (AW a0 2 ([]:List (Int×Bool)) x1.1 a2 x2) fun x3=>if(!x3.2.2.1)=true then some (([]:List g_api_Log),(⟨0,ByteArray.empty,ByteArray.empty,0,[],0,0,false,0,[],[],(⟨0,0⟩:g_api_Sig)⟩:g_api_Cert),251)else Ab (Bx x3.2.1) fun x4=>Ab (Cn (⟨a1.Serial,a1.Issuer,a1.Subject,a1.Key,a1.Names,a1.From,a1.Until,a1.Ca,a1.Depth,a1.Permit,x4,a1.Sig⟩:g_api_Cert)) fun x5=>if(x5 !=0)=true then some (([]:List g_api_Log),(⟨0,ByteArray.empty,ByteArray.empty,0,[],0,0,false,0,[],[],(⟨0,0⟩:g_api_Sig)⟩:g_api_Cert),x5)else some (x3.2.2.2.2.2.2,(⟨a1.Serial,a1.Issuer,a1.Subject,a1.Key,a1.Names,a1.From,a1.Until,a1.Ca,a1.Depth,a1.Permit,x4,a1.Sig⟩:g_api_Cert),x5)
theorem Qq {a0 a1 a2 r}(hm:E8 a0 a1 a2=some r):Sp prog 95 [sl Av a0,ag (Ac a1),.d (.i a2)] [] 0 (is (.tup [.ow 0,ag (Ac r.2.1),.d (.i r.2.2)]) [.row 0 6 _ Av r.1] 1):=by
 refine sq ?_;intros;refine gD hm Tn fun _ q1 hm=>gi hm ?_ ?_<;>intro _ hm
 ·refine R0 Av 6 6 ?_;exact AlC hm▸gE
 refine gD hm ID fun _ q2 hm=>gmkg Int Bool eI D.t<|gD hm FK fun _ q3 hm=>gi hm ?_ ?_<;>intro _ hm
 ·refine R0 Av 6 6 ?_;exact AlC hm▸gE
 refine gD hm Es fun _ q4 hm=>gD hm FO fun _ q5 hm=>gi hm ?_ ?_<;>intro _ hm
 ·refine R0 Av 6 6 ?_;exact AlC hm▸gE
 exact AlC hm▸gE
def Ku (a0:g_api_Log):Option (g_api_Log×Int):=Ab (EI a0) fun x1=>if(x1 !=0)=true then some ((⟨0,0,0,[],[],[]⟩:g_api_Log),x1)else Ab (Jv a0) fun x2=>some ((⟨a0.Id,a0.Key,a0.Delay,x2,a0.Hide,[]⟩:g_api_Log),0)
theorem VP {a0 r}(hm:Ku a0=some r):Sf prog 96 [ag (Av a0)] (.tup [ag (Av r.1),.d (.i r.2)]):=by
 refine sq ?_;intros;refine gA hm IG fun _ q1 hm=>gi hm ?_ ?_<;>intro _ hm
 ·exact AlC hm▸gE
 refine gD hm Pl fun _ q2 hm=> ?_;exact AlC hm▸gE
def E7 (a0:g_api_Log)(a1:Int)(i1:Int)(s1:(List Int)×(List (UInt64×UInt64))):Option ((List Int)×(List (UInt64×UInt64))):=Ab (idx a0.L (i1:Int)) fun x5=>Ab (Ab (gu (decide ((s1.1.length:Int)>0)) (idx s1.1 0)) fun x7=>if((decide ((s1.1.length:Int)>0))&&(x7==(i1:Int)))=true then Ab (cut s1.1 1 (s1.1.length:Int)) fun x8=>if(a1==1)=true then Ab (BS ([([0]:List UInt8),x5.Body]:List (List UInt8))) fun x9=>some (x8,x9)else some (x8,x5.Body)else some (s1.1,x5.Body)) fun x6=>Ab (C5 x6.2) fun x10=>Ab (app 16 s1.2 ([x10]:List (UInt64×UInt64))) fun x11=>some (x6.1,x11)
def Jh (a0:g_api_Log)(a1:Int):Option ((List (UInt64×UInt64))×Int):=Ab (EI a0) fun x1=>if(x1 !=0)=true then some (([]:List (UInt64×UInt64)),x1)else if((a1 !=0)&&(a1 !=1))=true then some (([]:List (UInt64×UInt64)),240)else Ab (Ab (CX (E7 a0 a1) a0.L.length 0 (a0.Hide,([]:List (UInt64×UInt64)))) fun x3=>some x3.2) fun x2=>some (x2,0)
theorem Uh {a0 a1 r}(hm:Jh a0 a1=some r):Sp prog 180 [ag (Av a0),.d (.i a1)] [] 0 (is (.tup [.ow 0,.d (.i r.2)]) [.row 0 2 _ Ar r.1] 1):=by
 refine sq fun D0 As η0 m0 hd=>gA hm IG fun _ q1 hm=>gi hm ?_ ?_<;>intro _ hm
 ·refine R0 Ar 4 2 ?_;exact AlC hm▸gE
 refine gi hm ?_ ?_<;>intro _ hm
 ·refine R0 Ar 4 2 ?_;exact AlC hm▸gE
 obtain⟨x2,q2,hm⟩:=Ae hm;refine oB q2 fun _ q3 q2=>WL 0 Ar 8 2<|IU 0 (E:=Am) (xs:=a0.L) 26 fun hle1=>gF (EM _ _ _) q3 (fun p0 (p_0,p_1)=>⟨[(1,.d (.i a1)),(7,sl eI p_0),(8,.ow 1),(26,sl Am a0.L),(27,.d (.i (a0.L.length:Int))),(28,.d (.i p0)),(2,.pb 0 0)],[(0,.row 1 2 _ Ar p_1),(1,.box 0 [.d (.i a0.Id),.d (.u a0.Key),.d (.i a0.Delay),sl Am a0.L,sl eI a0.Hide,sl Am a0.Wait] 82)],[],2⟩) fun i1 s1 Jl bl1=>cM bl1 (a0.L.length:Int) (fun _ q6 bl1=> ?_) fun e=> ?_
 ·refine oB q6 fun x5 q8 q6=>gx Am 2 q8 ?_;obtain⟨x6,q9,q6⟩:=Ae q6;refine oB q9 fun _ q10 q9=>gxG eI 1 q10<|gj (fun(_:Unit)=>let (y_0,y_1):=x6; ⟨[(1,.d (.i a1)),(7,sl eI y_0),(8,.ow 1),(11,sl eB y_1),(26,sl Am a0.L),(27,.d (.i (a0.L.length:Int))),(28,.d (.i (i1:Int))),(10,.pb 2 0),(2,.pb 0 0)],[(0,.box 2 [sl eB x5.Body,.d (.i x5.At)] 222),(1,.row 1 2 _ Ar s1.2),(2,.box 0 [.d (.i a0.Id),.d (.u a0.Key),.d (.i a0.Delay),sl Am a0.L,sl eI a0.Hide,sl Am a0.Wait] 82)],[],3⟩) (fun _=>True) (fun Jp bk3=> ?_) fun _ _=> ?_
  ·refine gi q9 ?_ ?_<;>intro _ q9
   ·refine oB q9 fun _ q11 q9=>gk eI 1 q11<|gi q9 ?_ ?_<;>intro _ q9
    ·refine gq eB 1 [0]<|gq (eL eB) 1 [([0]:List UInt8),x5.Body]<|gD q9 GM fun _ q12 q9=> ?_;obtain rfl:=AlC q9;exact gb bk3 hd () trivial
    obtain rfl:=AlC q9;exact gb bk3 hd () trivial
   obtain rfl:=AlC q9;exact gb bk3 hd () trivial
  exact gA q6 Jd fun x10 q13 q6=>gq Ar 2 [x10]<|oB q6 fun _ q14 q6=>gp Ar 2 q14<|gM bl1 hle1 q6
 subst e;obtain rfl:=AlC q2;exact AlC hm▸gE
def IL (a0:g_api_Log)(a1:Int)(a2:Int):Option ((List (UInt64×UInt64))×Int):=Ab (Jh a0 a1) fun x1=>if(x1.2 !=0)=true then some (([]:List (UInt64×UInt64)),x1.2)else if((decide (a2<0))||(decide (a2>(x1.1.length:Int))))=true then some (([]:List (UInt64×UInt64)),80)else if(0:Int)≤a2∧a2≤(x1.1.length:Int)then some ((x1.1.take a2.toNat),0)else none
theorem PZ {a0 a1 a2 r}(hm:IL a0 a1 a2=some r):Sp prog 98 [ag (Av a0),.d (.i a1),.d (.i a2)] [] 0 (is (.tup [.ow 0,.d (.i r.2)]) [.row 0 2 _ Ar r.1] 1):=by
 refine sq ?_;intros;refine gD hm Uh fun _ q1 hm=>gi hm ?_ ?_<;>intro _ hm
 ·refine R0 Ar 6 2 ?_;exact AlC hm▸gE
 refine gi hm ?_ ?_<;>intro _ hm
 ·refine R0 Ar 6 2 ?_;exact AlC hm▸gE
 obtain⟨⟨q2,q3⟩,hm⟩:=BI hm;refine gcO Ar 2 q2 q3 ?_;exact AlC hm▸gE
def BJ (a0:List (UInt64×UInt64)):Option (List (UInt64×UInt64)):=Ab (app 16 ([]:List (UInt64×UInt64)) a0) fun x1=>some x1
theorem IC {a0 r}(hm:BJ a0=some r):Sp prog 258 [sl Ar a0] [] 0 (is (.ow 0) [.row 0 2 _ Ar r] 1):=by
 refine sq ?_;intros;unfold BJ at hm;refine gnq Ar a0 (fun he1=> ?_) ?_
 ·rw[he1]at hm;replace hm:(some ([]:List (UInt64×UInt64)))=some _:=hm;refine R0 Ar 2 2 ?_;exact AlC hm▸gE
 refine AaP (k:=2) Ar ([]:List (UInt64×UInt64)) (fun _=>rfl)<|oB hm fun _ q1 hm=>gp Ar 2 q1 ?_;exact AlC hm▸gE
def CD (x11:Int)(s3:Int×(List (UInt64×UInt64))):Option ((Int×(List (UInt64×UInt64)))⊕((List (UInt64×UInt64)))):=if(decide (s3.1<x11))=true then Ab (idx s3.2 (w64 (2*s3.1))) fun x14=>Ab (idx s3.2 (w64 ((w64 (2*s3.1))+1))) fun x15=>Ab (Hj x14 x15) fun x16=>Ab (idx s3.2 s3.1) fun x17=>bnd (s3.2.set s3.1.toNat x16) fun x18=>some (.inl ((w64 (s3.1+1)),x18))else some (.inr s3.2)
def CY (s2:(List (UInt64×UInt64))):Option (((List (UInt64×UInt64)))⊕((List (UInt64×UInt64)))):=if(decide ((s2.length:Int)>1))=true then Ab (bnd (w64 (Int.tdiv (s2.length:Int) 2)) fun x11=>Ab (iter (CD x11) Fx (0,s2)) fun x12=>some x12) fun x10=>bnd (w64 (Int.tdiv (x10.length:Int) 2)) fun x19=>if(0:Int)≤x19∧x19≤(x10.length:Int)then some (.inl (x10.take x19.toNat))else none else some (.inr s2)
def CZ {σ:Type}(p0:σ→An→Option (Bool×σ))(s1:(List (UInt64×UInt64))×σ):Option (((List (UInt64×UInt64))×σ)⊕(((List (UInt64×UInt64))×σ)⊕((List (UInt64×UInt64))×σ))):=if(decide ((s1.1.length:Int)>0))=true then Ab (Fm (toU (s1.1.length:Int))) fun x3=>if(0:Int)≤(w64 (x3-1))then bnd ((UF 1 ((w64 (x3-1)).toNat))) fun x4=>Ab (cut s1.1 0 x4) fun x5=>Ab (BJ x5) fun x6=>Ab (Ab (iter CY Fx x6) fun x8=>some x8) fun x7=>Ab (idx x7 0) fun x20=>Ab (p0 s1.2 (⟨x4,x20⟩:An)) fun x21=>if(!x21.1)=true then some (.inr (.inr (s1.1,x21.2)))else Ab (cut s1.1 x4 (s1.1.length:Int)) fun x22=>some (.inl (x22,x21.2))else none else some (.inr (.inl (s1.1,s1.2)))
def E6 {σ:Type}(p0:σ→An→Option (Bool×σ))(k0:List (UInt64×UInt64))(s0:σ):Option ((List (UInt64×UInt64))×σ):=Ab (iter (CZ p0) Fx (k0,s0)) fun x1=>match x1 with| .inr r=>some r| .inl y1=>some (y1.1,y1.2)
theorem Ql {σ:Type}{p0:σ→An→Option (Bool×σ)}{k0 s0 r}(hm:E6 p0 k0 s0=some r)(g:Value)(R:σ→Mem→Ow)(hcb:Z4 prog g (fun x=> [ag (AG x)]) R p0):Sp prog 257 [.ow 0,.pb 1 0] [.hp 0 (.cb g σ R s0),.box 1 [sl Ar k0] 65] 2 (is (.tup []) [.hp 0 (.cb g σ R r.2),.box 1 [.d (.sl _ Ar r.1)] 65] 2):=by
 refine sq ?_;intros;refine oB hm fun _ q1 hm=>gI q1 (fun(p_0,p_1)=>⟨[(0,.ow 0),(1,.pb 1 0)],[(0,.box 1 [sl Ar p_0] 65),(1,.hp 0 (.cb g σ R p_1))],[],2⟩) fun s1 _ Jl q4 bl1=>gi q4 ?_ ?_<;>intro _ q4
 ·refine gA q4 Np fun x3 q6 q4=> ?_;obtain⟨q7,q4⟩:=BI q4;refine gsh (r:= .i (UF 1 ((w64 (x3-1)).toNat))) (fun h=>q7)<|bE q4 ?_;intro x4 q4;refine oB q4 fun _ q9 q4=>gk Ar 2 q9<|gD q4 IC fun _ q10 q4=> ?_;obtain⟨x7,q11,q4⟩:=Ae q4;refine oB q11 fun x8 q12 q11=>gI q12 (fun p=>⟨[(0,.ow 0),(1,.pb 1 0),(3,.d (.i x4)),(4,.ow 2)],[(0,.row 2 2 _ Ar p),(1,.box 1 [sl Ar s1.1] 65),(2,.hp 0 (.cb g σ R s1.2))],[],3⟩) fun s2 _ Jl q15 bl2=>gi q15 ?_ ?_<;>intro _ q15
  ·obtain⟨x10,q17,q15⟩:=Ae q15;refine bE q17 ?_;intro x11 q17;refine oB q17 fun x12 q19 q17=>gI q19 (fun(p_0,p_1)=>⟨[(0,.ow 0),(1,.pb 1 0),(3,.d (.i x4)),(4,.ow 2),(24,.d (.i x11)),(25,.d (.i p_0))],[(0,.row 2 2 _ Ar p_1),(1,.box 1 [sl Ar s1.1] 65),(2,.hp 0 (.cb g σ R s1.2))],[],3⟩) fun s3 _ Jl q22 bl3=>gi q22 ?_ ?_<;>intro _ q22
   ·refine oB q22 fun _ q24 q22=>I6 (E:=Ar) (fun _=>q24)<|Yh (k:=2) (fo:=0) (nn:=2) (ag:=true) (E:=Ar) (fun _=>rfl) (fun _=>q24)<|oB q22 fun _ q25 q22=>I6 (E:=Ar) (fun _=>q25)<|Yh (k:=2) (fo:=0) (nn:=2) (ag:=true) (E:=Ar) (fun _=>rfl) (fun _=>q25)<|gA q22 Lx fun x16 q26 q22=>oB q22 fun _ q27 q22=>I6 (E:=Ar) (fun _=>q27)<|bE q22 ?_;intro _ q22;exact AeZ (k:=2) (E:=Ar) x16 (fun _=>rfl) q27<|gN bl3 q22
   obtain rfl:=nR bl3 q22;let x12:=s3.2;obtain rfl:=AlC q17;refine bE q15 ?_;intro _ q15;obtain⟨⟨q30,q31⟩,q15⟩:=BI q15;exact gcO Ar 2 q30 q31<|gN bl2 q15
  obtain rfl:=nR bl2 q15;let x8:=s2;obtain rfl:=AlC q11;refine oB q4 fun x20 q32 q4=>I6 (E:=Ar) (fun _=>q32)<|Yh (k:=2) (fo:=0) (nn:=2) (ag:=true) (E:=Ar) (fun _=>rfl) (fun _=>q32)<|oB q4 fun _ q33 q4=>gcb (⟨x4,x20⟩:An) hcb q33<|gi q4 ?_ ?_<;>intro _ q4
  ·obtain rfl:=nR bl1 q4;exact AlC hm▸gE
  exact oB q4 fun _ q34 q4=>gk Ar 2 q34<|gN bl1 q4
 obtain rfl:=nR bl1 q4;let y1:=(s1.1,s1.2);exact AlC hm▸gE
def KQ (a0:List (UInt64×UInt64)):Option (List (UInt64×UInt64)):=some a0
theorem SH {a0 r}(hm:KQ a0=some r):Sp prog 182 [sl Ar a0] [] 0 (is (.fn (.func 257) [] [.pb 0 0]) [.box 0 [sl Ar r] 65] 1):=by
 refine sq ?_;intros;exact AlC hm▸gE
def CK (s1:Int×Int×(List An)):Option ((Int×Int×(List An))⊕((List An))):=if(decide (s1.1<s1.2.1))=true then Ab (idx s1.2.2 s1.2.1) fun x4=>Ab (idx s1.2.2 s1.1) fun x5=>Ab (idx s1.2.2 s1.1) fun x6=>bnd (s1.2.2.set s1.1.toNat x4) fun x7=>Ab (idx x7 s1.2.1) fun x8=>bnd (x7.set s1.2.1.toNat x5) fun x9=>some (.inl ((w64 (s1.1+1)),(w64 (s1.2.1-1)),x9))else some (.inr s1.2.2)
def Bh (a0:List An):Option (List An):=bnd ((w64 ((a0.length:Int)-1))) fun x1=>Ab (iter CK Fx (0,x1,a0)) fun x2=>some x2
theorem FH {a0 r}(hm:Bh a0=some r):Sp prog 183 [.ow 0] [.row 0 3 _ AG a0] 1 (is (.tup []) [.row 0 3 _ AG r] 1):=by
 refine sq ?_;intros;refine bE hm ?_;intro _ hm;refine oB hm fun _ q2 hm=>gI q2 (fun(p_0,p_1,p_2)=>⟨[(0,.ow 0),(2,.d (.i p_0)),(3,.d (.i p_1))],[(0,.row 0 3 _ AG p_2)],[],1⟩) fun s1 _ Jl q5 bl1=>gi q5 ?_ ?_<;>intro _ q5
 ·refine oB q5 fun x4 q7 q5=>I6 (E:=AG) (fun _=>q7)<|Yh (k:=3) (fo:=0) (nn:=3) (ag:=true) (E:=AG) (fun _=>rfl) (fun _=>q7)<|oB q5 fun x5 q8 q5=>I6 (E:=AG) (fun _=>q8)<|Yh (k:=3) (fo:=0) (nn:=3) (ag:=true) (E:=AG) (fun _=>rfl) (fun _=>q8)<|oB q5 fun _ q9 q5=>I6 (E:=AG) (fun _=>q9)<|bE q5 ?_;intro _ q5;refine AeZ (k:=3) (E:=AG) x4 (fun _=>rfl) q9<|oB q5 fun _ q11 q5=>I6 (E:=AG) (fun _=>q11)<|bE q5 ?_;intro _ q5;exact AeZ (k:=3) (E:=AG) x5 (fun _=>rfl) q11<|gN bl1 q5
 obtain rfl:=nR bl1 q5;exact AlC hm▸gE
def AF (b3:An)(s1:(List An)):Option ((List An)):=Ab (app 24 s1 ([b3]:List An)) fun x2=>some x2
def AI (a0:List An)(k0:List (UInt64×UInt64)):Option ((List An)×(List (UInt64×UInt64))):=Ab (E6 (fun(s:(List An)) (b0:An)=>Ab (AF b0 s) fun y=>some (true,y)) k0 a0) fun x1=>some (x1.2,x1.1)
theorem Eh {a0 k0 r}(hm:AI a0 k0=some r):Sp prog 256 [.ow 0,.fn (.func 257) [] [.pb 1 0]] [.row 0 3 _ AG a0,.box 1 [sl Ar k0] 65] 2 (is (.ow 2) [.box 1 [.d (.sl _ Ar r.2)] 65,.row 2 3 _ AG r.1] 3):=
 spR call256 func256 rfl ntmps256 rfl fun D0 As η0 m0 hD hd=>by
  unfold AI at hm;refine oB hm fun x1 q1 hm=>M4 hD (n0:=2) 3 4 [⟨2,1,65,[sl Ar k0],[sl Ar x1.1]⟩] (gt:=6) (ps:=[7]) [(2,.pb 2 0),(6,.fn (.func 257) [] [.pb 1 0])] (fun(y1:(List An))=> [(0,.row 3 3 _ AG y1),(1,.box 2 [.ow 3] 238)]) (fun(_:Unit)=> []) (fun x=> [ag (AG x)]) (fun(s1:(List An)) (b3:An)=>⟨[(2,.pb 2 0),(5,.pb 4 0),(6,.fn (.func 257) [] [.pb 1 0])],[(0,.box 4 [.d (.i b3.size_),.d (.u b3.root_.1),.d (.u b3.root_.2)] 241),(1,.row 3 3 _ AG s1),(2,.box 2 [.ow 3] 238)],[],5⟩) (pN fun x s=>AF x s) a0 hd (via Sum.inl hyN rfl fun g R h=>Ql q1 g R h) rfl (fun _=>rfl) (fun _=>rfl) (fun _=>rfl) (fun _=>rfl) ?_ ?_ ?_ ?_
  ·intro s1 b3 s' hp l D0 As η0 m0 hd Ja ba;exact gb ba hd () trivial
  ·intro s1 b3 s' hp l D0 As η0 m0 hd Jb bb Jr br;obtain⟨z1,q2,hp⟩:=AlN.1 hp;subst hp;unfold AF at q2;refine gq AG 3 [b3]<|oB q2 fun x2 q3 q2=>gp AG 3 q3 ?_;obtain rfl:=AlC q2;exact gb bb hd x2 rfl
  ·intro x hx;have hx:=Sum.inl.inj hx;subst hx;exact AlC hm▸gE
  intro y hy;cases hy
def BY (k0:List (UInt64×UInt64)):Option ((List An)×(List (UInt64×UInt64))):=Ab (AI ([]:List An) k0) fun x1=>some (x1.1,x1.2)
theorem HF {k0 r}(hm:BY k0=some r):Sp prog 181 [.fn (.func 257) [] [.pb 0 0]] [.box 0 [sl Ar k0] 65] 1 (is (.ow 1) [.box 0 [.d (.sl _ Ar r.2)] 65,.row 1 3 _ AG r.1] 2):=by
 refine sq ?_;intros;refine oB hm fun _ q1 hm=>gco (Sp.nilR [.fn (.func 257) [] [.pb 0 0]] [.box 0 [sl Ar k0] 65] 1 (Eh q1) rfl) ?_;exact AlC hm▸gE
def I2 (i1:Int)(x9:An)(s1:UInt64×UInt64):Option (UInt64×UInt64):=Ab (Hj x9.root_ s1) fun x10=>some (x10.1,x10.2)
def Gu (a0:List (UInt64×UInt64)):Option (UInt64×UInt64):=Ab (KQ a0) fun x1=>Ab (BY x1) fun x2=>if((x2.1.length:Int)==0)=true then Ab (Cc (⟨#[101,109,112,116,121]⟩:ByteArray) ([]:List (List UInt8))) fun x3=>some x3 else Ab (Bh x2.1) fun x4=>Ab (idx x4 0) fun x5=>Ab (Ab (cut x4 1 (x4.length:Int)) fun x7=>Ab (DP I2 x7 0 (x5.root_.1,x5.root_.2)) fun x8=>some (x8.1,x8.2)) fun x6=>some x6
theorem Ou {a0 r}(hm:Gu a0=some r):Sf prog 100 [sl Ar a0] (ag (Ar r)):=by
 refine sq ?_;intros;refine gD hm SH fun _ q1 hm=>gD hm HF fun x2 q2 hm=>gi hm ?_ ?_<;>intro _ hm
 ·refine gA hm EP fun _ q3 hm=> ?_;exact AlC hm▸gE
 refine gD hm FH fun _ q4 hm=>oB hm fun _ q5 hm=>I6 (E:=AG) (fun _=>q5)<|Yh (k:=3) (fo:=1) (nn:=2) (ag:=true) (E:=AG) (fun _=>rfl) (fun _=>q5) ?_;obtain⟨x6,q6,hm⟩:=Ae hm;refine oB q6 fun x7 q7 q6=>gcutF (k:=3) (E:=AG) (fun _=>rfl) q7<|oB q6 fun _ q8 q6=>IU 0 (E:=AG) (xs:=x7) 21 fun hle1=>gF (E0 _ _ _) q8 (fun p0 (p_0,p_1)=>⟨[(2,.pb 0 0),(4,.pb 2 0),(21,sl AG x7),(22,.d (.i (x7.length:Int))),(23,.d (.i p0))],[(0,.box 2 [.d (.u p_0),.d (.u p_1)] 34),(1,.box 1 [sl Ar x2.2] 65),(2,.box 0 [.d (.u 0),.d (.u 0)] 34)],[],3⟩) fun i1 s1 Jl bl1=>c0 bl1 (fun _ _ q12 q11 bl1=> ?_) fun e=> ?_
 ·exact gx AG 3 q12<|gA q11 Lx fun _ q13 q11=>gM bl1 hle1 q11
 subst e;obtain rfl:=AlC q6;exact AlC hm▸gE
theorem Uy {m:Mem}{As:List Ow}{w:World}{a0:List (UInt64×UInt64)}{a0v0:Value}{r:UInt64×UInt64}(S:St m As w)(a0h0:SlR m a0v0 a0)(hm:Gu a0=some r):
  C4 prog 100 #[a0v0] w fun v w'=> ∃(M:Mem),m≤M∧St M (As) w'∧v= .agg #[vU r.1,vU r.2]:=by
 refine C4.mono ((Ou hm).2 none0 m As w [a0v0] (.cons (.d (Br.toS PV a0h0)) .nil) (fun n h=>absurd rfl h) S) ?_;rintro v w' ⟨M,η',r',obs',n1,hle,_,⟨rfl,rfl,rfl⟩,hdom,hR,S'⟩;obtain⟨c0,rfl,g0⟩:=Br.ofA PV hR;obtain rfl:=Rr g0;exact⟨M,hle,S',rfl⟩
def HO (a0:Int):Option Int:=Ab (Fm (toU (w64 (a0-1)))) fun x1=>if(0:Int)≤(w64 (x1-1))then bnd ((UF 1 ((w64 (x1-1)).toNat))) fun x2=>some x2 else none
theorem Uf {a0 r}(hm:HO a0=some r):Sf prog 254 [.d (.i a0)] (.d (.i r)):=by
 refine sq ?_;intros;refine gA hm Np fun x1 q1 hm=> ?_;obtain⟨q2,hm⟩:=BI hm;refine gsh (r:= .i (UF 1 ((w64 (x1-1)).toNat))) (fun h=>q2)<|bE hm ?_;intro _ hm;exact AlC hm▸gE
theorem Ux {m:Mem}{As:List Ow}{w:World}{a0:Int}{r:Int}(S:St m As w)(hm:HO a0=some r):
  C4 prog 254 #[vI a0] w fun v w'=> ∃(M:Mem),m≤M∧St M (As) w'∧v=vI r:=by
 refine C4.mono ((Uf hm).2 none0 m As w [vI a0] (.cons (.d (.i _)) .nil) (fun n h=>absurd rfl h) S) ?_;rintro v w' ⟨M,η',r',obs',n1,hle,_,⟨rfl,rfl,rfl⟩,hdom,hR,S'⟩;obtain rfl:=hR.i_inv;exact⟨M,hle,S',rfl⟩
def D1:Nat→(List (UInt64×UInt64))→Int→(List (UInt64×UInt64))→Option (List (UInt64×UInt64))
 |0,_,_,_=>none
 |n+1,a0,a1,k1=>
  if((a0.length:Int)==1)=true then
   some k1
  else
  Ab (HO (a0.length:Int)) fun x1=>
  Ab (cut a0 0 x1) fun x2=>
  Ab (cut a0 x1 (a0.length:Int)) fun x3=>
  Ab (
   if(decide (a1≥x1))=true then
    some ((w64 (a1-x1)),x3,x2)
   else
   some (a1,x2,x3)
  ) fun x4=>
  Ab (D1 n x4.2.1 x4.1 k1) fun x5=>
  Ab (Gu x4.2.2) fun x6=>
  Ab (app 16 x5 ([x6]:List (UInt64×UInt64))) fun x7=>
  some x7
def G3 (a0:List (UInt64×UInt64))(a1:Int)(k1:List (UInt64×UInt64)):Option (List (UInt64×UInt64)):=D1 Fx a0 a1 k1
theorem Ph (n:Nat): ∀{m:Mem} {As:List Ow} {w:World} {a0:List (UInt64×UInt64)} {a0v0:Value} {a1:Int} {kb0:Nat} {kb1:Nat} {k1:List (UInt64×UInt64)} {k1v0:Value} {k1c0:List Value} {r:List (UInt64×UInt64)} (S:St m ((bx kb0 [.func (.func 253) #[] #[pt kb0 0,pt kb1 0]] 294)::(bx kb1 [k1v0] 65)::(row 2 k1v0 k1c0 k1.length)::As) w) (a0h0:SlR m a0v0 a0) (k1h0:CI m k1c0 k1) (hm:D1 n a0 a1 k1=some r),
  C4 Tryz.prog 253 #[a0v0,vI a1,pt kb0 0,pt kb1 0] w fun v w'=> ∃(M:Mem),m≤M∧∃(rbv1:Value) (rbc1:List Value),St M ((bx kb1 [rbv1] 65)::(row 2 rbv1 rbc1 r.length)::(bx kb0 [.func (.func 253) #[] #[pt kb0 0,pt kb1 0]] 294)::As) w'∧v= .tuple #[]∧CI M rbc1 r:=by
 induction n with
 |zero=>intro m As w a0 a0v0 a1 kb0 kb1 k1 k1v0 k1c0 r S a0h0 k1h0 hm; cases hm
 |succ n ih=>
  intro m As w a0 a0v0 a1 kb0 kb1 k1 k1v0 k1c0 r S a0h0 k1h0 hm;unfold D1 at hm;have L0:=Mem.rfl' m;refine Pa (args:=[a0v0,vI a1,pt kb0 0,pt kb1 0]) Tryz.func253 rfl Tryz.ntmps253 (AlS rfl) ?_;refine AY ?_;refine AY ?_;refine AB ?_;refine A9 (v:=a0v0) rfl ?_;refine Wd (xs:=a0) rfl a0h0 Tryz.underlying65 ?_;refine Afu (m:=(a0.length:Int)) (n:=1) rfl rfl ?_;refine AK ?_;refine nrm ?_;refine JC (t:=((a0.length:Int)==1)) rfl (fun hc1=> ?_) (fun hc1=> ?_)
  ·replace hm:=ifT hc1 hm;refine JB ?_;refine thR ?_;refine RE ?_;intro we hpd;replace S:=St.pd S hpd;have S1:St _ ((bx kb1 [k1v0] 65)::(row 2 k1v0 k1c0 k1.length)::(bx kb0 [.func (.func 253) #[] #[pt kb0 0,pt kb1 0]] 294)::As) _:=St.perm S (List.Perm.trans (List.Perm.swap _ _ _) (List.Perm.cons _ (List.Perm.swap _ _ _)));obtain rfl:=AlC hm;exact Abi [] rfl trivial ⟨_,L0,_,_,S1,rfl,k1h0⟩
  replace hm:=ifF hc1 hm;refine Gf ?_;refine nrm ?_;refine AY ?_;refine AB ?_;refine A9 (v:=a0v0) rfl ?_;refine Wd (xs:=a0) rfl a0h0 Tryz.underlying65 ?_;obtain⟨x1,q1,hm⟩:=Ae hm;refine Acd Tryz.call254 (Ux (a0:=(a0.length:Int)) S q1) rfl ?_;rintro _ w1 ⟨m1,l1,S2,rfl⟩;replace a0h0:=a0h0.up l1;replace k1h0:=CI.up l1 k1h0;replace L0:=Mem.tr L0 l1;clear S;replace S2:St _ ((bx kb0 [.func (.func 253) #[] #[pt kb0 0,pt kb1 0]] 294)::(bx kb1 [k1v0] 65)::(row 2 k1v0 k1c0 k1.length)::As) _:=S2;refine GJ (v:=vI x1) rfl ?_;refine AK ?_;refine nrm ?_;refine AY ?_;obtain⟨x2,q2,hm⟩:=Ae hm;obtain⟨x3,q3,hm⟩:=Ae hm;have HM:J6 [(15,fv a0v0),(16,fv (vI x1)),(17,fun(M:Mem) (v:Value)=> ∃(v1:Value),v=v1∧SlR M v1 x2),(18,fv a0v0),(19,fv (vI x1)),(20,fun(M:Mem) (v:Value)=> ∃(v2:Value),v=v2∧SlR M v2 x3),(7,fun(M:Mem) (v:Value)=> ∃(v3:Value),v=v3∧SlR M v3 x2)]:=⟨mv,mv,(fun _ _ _ l ⟨v1,e,h1⟩=>⟨v1,e,h1.up l⟩),mv,mv,(fun _ _ _ l ⟨v2,e,h2⟩=>⟨v2,e,h2.up l⟩),(fun _ _ _ l ⟨v3,e,h3⟩=>⟨v3,e,h3.up l⟩),trivial⟩;refine Of HM 7 Af8 rfl rfl rfl [7,15,16,17,18,19,20] (fun L f M w=>St M ((bx kb0 [.func (.func 253) #[] #[pt kb0 0,pt kb1 0]] 294)::(bx kb1 [k1v0] 65)::(row 2 k1v0 k1c0 k1.length)::As) w) (St.drew S2 _) ?_ ?_
  ·refine⟨?_,?_,?_,?_,?_,?_,?_,trivial⟩
   ·exact flp HM rfl [] (fun _ _=>trivial) (fun _ _ q=>A9 (v:=a0v0) rfl q) rfl
   ·exact flp HM rfl [] (fun _ _=>trivial) (fun _ _ q=>A9 (v:=vI x1) rfl q) rfl
   ·intro L f3 w4 hL hd hc ⟨m4,L5,S5,K,hO⟩;have d0:L 0=true:=dep hd rfl;have e1:=K 0 d0;have d1:L 1=true:=dep hd rfl;have e2:=K 1 d1;obtain⟨u3,rfl⟩:=LY (N:=38) (L:=[(15,a0v0),(16,vI x1)]) hO ⟨e1,e2,trivial⟩;replace S5:St _ ((bx kb0 [.func (.func 253) #[] #[pt kb0 0,pt kb1 0]] 294)::(bx kb1 [k1v0] 65)::(row 2 k1v0 k1c0 k1.length)::As) _:=S5;replace a0h0:=a0h0.up L5;replace k1h0:=CI.up L5 k1h0;have L6:=Mem.rfl' m4;refine Afv (ys:=x2) (l:=0) (h:=x1) rfl a0h0 Tryz.underlying65 Tryz.sizeOf34 (.inl ⟨rfl,rfl⟩) (.inr ⟨_,rfl⟩) (.inl rfl) q2 ?_;intro v1 h1;refine wpn ?_;refine⟨m4,Mem.tr L5 L6,?_,JA HM rfl K L6 rfl rfl ⟨v1,rfl,h1⟩,Tt⟩;exact S5
   ·exact flp HM rfl [] (fun _ _=>trivial) (fun _ _ q=>A9 (v:=a0v0) rfl q) rfl
   ·exact flp HM rfl [] (fun _ _=>trivial) (fun _ _ q=>A9 (v:=vI x1) rfl q) rfl
   ·intro L f6 w7 hL hd hc ⟨m7,L11,S8,K,hO⟩;have d3:L 3=true:=dep hd rfl;have e3:=K 3 d3;have d4:L 4=true:=dep hd rfl;have e4:=K 4 d4;obtain⟨u6,rfl⟩:=LY (N:=38) (L:=[(18,a0v0),(19,vI x1)]) hO ⟨e3,e4,trivial⟩;replace S8:St _ ((bx kb0 [.func (.func 253) #[] #[pt kb0 0,pt kb1 0]] 294)::(bx kb1 [k1v0] 65)::(row 2 k1v0 k1c0 k1.length)::As) _:=S8;replace a0h0:=a0h0.up L11;replace k1h0:=CI.up L11 k1h0;have L12:=Mem.rfl' m7;refine Afv (ys:=x3) (l:=x1) (h:=(a0.length:Int)) rfl a0h0 Tryz.underlying65 Tryz.sizeOf34 (.inr ⟨_,rfl⟩) (.inl ⟨rfl,rfl⟩) (.inl rfl) q3 ?_;intro v2 h2;refine wpn ?_;refine⟨m7,Mem.tr L11 L12,?_,JA HM rfl K L12 rfl rfl ⟨v2,rfl,h2⟩,Tt⟩;exact S8
   ·intro L f7 w8 hL hd hc ⟨m8,L13,S9,K,hO⟩;have d2:L 2=true:=dep hd rfl;obtain⟨v3,e5,h3⟩:=K 2 d2;obtain⟨u7,rfl⟩:=LY (N:=38) (L:=[(17,v3)]) hO ⟨e5,trivial⟩;replace S9:St _ ((bx kb0 [.func (.func 253) #[] #[pt kb0 0,pt kb1 0]] 294)::(bx kb1 [k1v0] 65)::(row 2 k1v0 k1c0 k1.length)::As) _:=S9;have L14:=Mem.rfl' m8;refine GJ (v:=v3) rfl ?_;refine wpn ?_;refine⟨m8,Mem.tr L13 L14,?_,JA HM rfl K L14 rfl rfl ⟨v3,rfl,h3⟩,Tt⟩;exact S9
  intro L f8 w9 hall ⟨m9,L15,S10,K,hO⟩;have d6:L 6=true:=hall 6 (by decide);obtain⟨v4,e6,h4⟩:=K 6 d6;have d5:L 5=true:=hall 5 (by decide);obtain⟨v5,e7,h5⟩:=K 5 d5;obtain⟨u8,rfl⟩:=LY (N:=38) (L:=[(7,v4),(20,v5)]) hO ⟨e6,e7,trivial⟩;replace S10:St _ ((bx kb0 [.func (.func 253) #[] #[pt kb0 0,pt kb1 0]] 294)::(bx kb1 [k1v0] 65)::(row 2 k1v0 k1c0 k1.length)::As) _:=S10;replace a0h0:=a0h0.up L15;replace k1h0:=CI.up L15 k1h0;replace L0:=Mem.tr L0 L15;clear S2;refine GJ (v:=v5) rfl ?_;refine AK ?_;refine nrm ?_;obtain⟨x4,q4,hm⟩:=Ae hm;have L16:=Mem.rfl' m9;refine AY ?_;refine Lt [1,7,8,21,22,23,24,25,26,27,28] (fun f' w'=> ∃(M1:Mem) (v6:Value) (v7:Value),m9≤M1∧St M1 ((bx kb0 [.func (.func 253) #[] #[pt kb0 0,pt kb1 0]] 294)::(bx kb1 [k1v0] 65)::(row 2 k1v0 k1c0 k1.length)::As) w'∧SlR M1 v6 x4.2.1∧SlR M1 v7 x4.2.2∧QC f' [(1,vI x4.1),(7,v6),(8,v7)]) ?_ ?_
  ·refine AY ?_;refine AB ?_;refine A9 (v:=vI a1) rfl ?_;refine A9 (v:=vI x1) rfl ?_;refine Ajl (m:=a1) (n:=x1) rfl rfl ?_;refine AK ?_;refine nrm ?_;refine JC (t:=(decide (a1≥x1))) rfl (fun hc2=> ?_) (fun hc2=> ?_)
   ·replace q4:=ifT hc2 q4;refine AB ?_;refine A9 (v:=v5) rfl ?_;refine A9 (v:=v4) rfl ?_;refine A9 (v:=vI a1) rfl ?_;refine A9 (v:=vI x1) rfl ?_;refine ON (m:=a1) (n:=x1) rfl rfl ?_;refine GJ (v:=v5) rfl ?_;refine GJ (v:=v4) rfl ?_;refine GJ (v:=vI (w64 (a1-x1))) rfl ?_;refine AK ?_;refine nrm ?_;obtain rfl:=AlC q4;exact⟨Tt,m9,_,_,L16,S10,h5,h4,⟨rfl,rfl,rfl,trivial⟩⟩
   replace q4:=ifF hc2 q4;refine Gf ?_;refine nrm ?_;obtain rfl:=AlC q4;exact⟨Tt,m9,_,_,L16,S10,h4,h5,⟨rfl,rfl,rfl,trivial⟩⟩
  rintro f9 w10 ho ⟨m10,v6,v7,l2,S11,h6,h7,ha⟩;obtain⟨u9,rfl⟩:=LY (N:=38) ho ha;replace k1h0:=CI.up l2 k1h0;replace L0:=Mem.tr L0 l2;clear S10;refine AY ?_;refine AB ?_;refine s_ld (i:=0) (cs:=[.func (.func 253) #[] #[pt kb0 0,pt kb1 0]]) S11 rfl rfl Tryz.isAgg294 Tryz.sizeOf294 rfl (fun _=>rfl) ?_;refine A9 (v:=v6) rfl ?_;refine A9 (v:=vI x4.1) rfl ?_;obtain⟨x5,q5,hm⟩:=Ae hm;refine Acb rfl Tryz.call253 (ih (a0:=x4.2.1) (a1:=x4.1) (k1:=k1) S11 h6 k1h0 q5) rfl rfl ?_;rintro _ w11 ⟨m11,l3,v8,c1,S12,rfl,h8⟩;replace h7:=h7.up l3;replace h6:=h6.up l3;replace L0:=Mem.tr L0 l3;clear S11;replace S12:St _ ((bx kb1 [v8] 65)::(row 2 v8 c1 x5.length)::(bx kb0 [.func (.func 253) #[] #[pt kb0 0,pt kb1 0]] 294)::As) _:=S12;refine AK ?_;refine nrm ?_;obtain⟨x6,q6,hm⟩:=Ae hm;have HM:J6 [(33,fv v8),(34,fv v7),(35,fv (.agg #[vU x6.1,vU x6.2])),(36,fun(M:Mem) (v:Value)=> ∃(v9:Value),v=v9∧SlR M v9 ([x6]:List (UInt64×UInt64)))]:=⟨mv,mv,mv,(fun _ _ _ l ⟨v9,e,h9⟩=>⟨v9,e,h9.up l⟩),trivial⟩;refine Of HM 4 Af8 rfl rfl rfl [33,34,35,36] (fun L f M w=>St M ((bx kb1 [v8] 65)::(row 2 v8 c1 x5.length)::(bx kb0 [.func (.func 253) #[] #[pt kb0 0,pt kb1 0]] 294)::As) w) (St.drew S12 _) ?_ ?_
  ·refine⟨?_,?_,?_,?_,trivial⟩
   ·exact flp HM rfl [] (fun _ _=>trivial) (fun _ S13 q=>s_ld (i:=0) (cs:=[v8]) S13 rfl rfl Tryz.isAgg65 Tryz.sizeOf65 rfl (fun _=>rfl) q) rfl
   ·exact flp HM rfl [] (fun _ _=>trivial) (fun _ _ q=>A9 (v:=v7) rfl q) rfl
   ·intro L f12 w14 hL hd hc ⟨m14,L21,S15,K,hO⟩;have d1:L 1=true:=dep hd rfl;have e8:=K 1 d1;obtain⟨u12,rfl⟩:=LY (N:=38) (L:=[(34,v7)]) hO ⟨e8,trivial⟩;replace S15:St _ ((bx kb1 [v8] 65)::(row 2 v8 c1 x5.length)::(bx kb0 [.func (.func 253) #[] #[pt kb0 0,pt kb1 0]] 294)::As) _:=S15;replace h7:=h7.up L21;replace h8:=CI.up L21 h8;have L22:=Mem.rfl' m14;refine Acd Tryz.call100 (Uy (a0:=x4.2.2) S15 h7 q6) rfl ?_;rintro _ w15 ⟨m15,l4,S16,rfl⟩;replace h7:=h7.up l4;replace h8:=CI.up l4 h8;replace L22:=Mem.tr L22 l4;clear S15;replace S16:St _ ((bx kb1 [v8] 65)::(row 2 v8 c1 x5.length)::(bx kb0 [.func (.func 253) #[] #[pt kb0 0,pt kb1 0]] 294)::As) _:=S16;refine wpn ?_;refine⟨m15,Mem.tr L21 L22,?_,JA HM rfl K L22 rfl rfl rfl,Tt⟩;exact S16
   ·intro L f13 w16 hL hd hc ⟨m16,L23,S17,K,hO⟩;have d2:L 2=true:=dep hd rfl;have e9:=K 2 d2;obtain⟨u13,rfl⟩:=LY (N:=38) (L:=[(35,.agg #[vU x6.1,vU x6.2])]) hO ⟨e9,trivial⟩;replace S17:St _ ((bx kb1 [v8] 65)::(row 2 v8 c1 x5.length)::(bx kb0 [.func (.func 253) #[] #[pt kb0 0,pt kb1 0]] 294)::As) _:=S17;replace h7:=h7.up L23;replace h8:=CI.up L23 h8;have L24:=Mem.rfl' m16;refine s_litC (parts:=[.tmp 35]) (vs:=[.agg #[vU x6.1,vU x6.2]]) (cls:=[[vU x6.1,vU x6.2]]) (xs:=([x6]:List (UInt64×UInt64))) (n:=1) S17 Tryz.underlying65 Tryz.sizeOf34 Tryz.zeroValue34 rfl ⟨rfl,trivial⟩ (CI.cons (c:=[vU x6.1,vU x6.2]) (x:=x6) SS CI.nil) rfl rfl rfl (by decide) (by decide) ?_;intro v9 m17 w17 l5 S18 h9;replace h7:=h7.up l5;replace h8:=CI.up l5 h8;replace L24:=Mem.tr L24 l5;clear S17;refine wpn ?_;refine⟨m17,Mem.tr L23 L24,?_,JA HM rfl K L24 rfl rfl ⟨v9,rfl,h9⟩,Tt⟩;exact S18
  intro L f14 w18 hall ⟨m18,L25,S19,K,hO⟩;have d0:L 0=true:=hall 0 (by decide);have e10:=K 0 d0;have d3:L 3=true:=hall 3 (by decide);obtain⟨v10,e11,h10⟩:=K 3 d3;obtain⟨u14,rfl⟩:=LY (N:=38) (L:=[(33,v8),(36,v10)]) hO ⟨e10,e11,trivial⟩;replace S19:St _ ((bx kb1 [v8] 65)::(row 2 v8 c1 x5.length)::(bx kb0 [.func (.func 253) #[] #[pt kb0 0,pt kb1 0]] 294)::As) _:=S19;replace h7:=h7.up L25;replace h8:=CI.up L25 h8;replace L0:=Mem.tr L0 L25;clear S12;obtain⟨x7,q7,hm⟩:=Ae hm;refine Ajv (i:=1) (zs:=x7) (bytes:=16) (ti:=Tryz.t34) S19 rfl rfl h8 rfl rfl h10 q7 Tryz.underlying65 Tryz.type34 rfl rfl rfl rfl ?_;intro v11 c2 w19 S20 h11;replace S20:St _ ((bx kb1 [v8] 65)::(row 2 v11 c2 x7.length)::(bx kb0 [.func (.func 253) #[] #[pt kb0 0,pt kb1 0]] 294)::As) _:=S20;clear S19;refine s_stS (i:=0) S20 rfl rfl rfl Tryz.sizeOf65 (St.rowCells (i:=1) S20 rfl) rfl ?_;intro w20 S21;replace S21:St _ ((bx kb1 [v11] 65)::(row 2 v11 c2 x7.length)::(bx kb0 [.func (.func 253) #[] #[pt kb0 0,pt kb1 0]] 294)::As) _:=S21;clear S20;refine AK ?_;refine outNw ?_;intro we hpd;replace S21:=St.pd S21 hpd;obtain rfl:=AlC hm;exact Abi [] rfl trivial ⟨_,L0,_,_,S21,rfl,h11⟩
theorem Qm {m:Mem}{As:List Ow}{w:World}{a0}{a0v0:Value}{a1}{kb0:Nat}{kb1:Nat}{k1}{k1v0:Value}{k1c0:List Value}{r}(S:St m ((bx kb0 [.func (.func 253) #[] #[pt kb0 0,pt kb1 0]] 294)::(bx kb1 [k1v0] 65)::(row 2 k1v0 k1c0 k1.length)::As) w)(a0h0:SlR m a0v0 a0)(k1h0:CI m k1c0 k1)(hm:G3 a0 a1 k1=some r):
 C4 Tryz.prog 253 #[a0v0,vI a1,pt kb0 0,pt kb1 0] w fun v w'=> ∃(M:Mem),m≤M∧∃(rbv1:Value) (rbc1:List Value),St M ((bx kb1 [rbv1] 65)::(row 2 rbv1 rbc1 r.length)::(bx kb0 [.func (.func 253) #[] #[pt kb0 0,pt kb1 0]] 294)::As) w'∧v= .tuple #[]∧CI M rbc1 r:=Ph Fx S a0h0 k1h0 hm
def Fg (a0:List (UInt64×UInt64))(a1:Int):Option ((List (UInt64×UInt64))×Int):=if(((decide ((a0.length:Int)>256))||(decide (a1<0)))||(decide (a1≥(a0.length:Int))))=true then some (([]:List (UInt64×UInt64)),80)else Ab (G3 a0 a1 ([]:List (UInt64×UInt64))) fun x1=>some (x1,0)
theorem SI {m As w a0}{a0v0:Value}{a1 r}(S:St m (As) w)(a0h0:SlR m a0v0 a0)(hm:Fg a0 a1=some r):
  C4 Tryz.prog 179 #[a0v0,vI a1] w fun v w'=> ∃(M:Mem),m≤M∧∃(rv0:Value) (rc0:List Value),St M ((row 2 rv0 rc0 r.1.length)::As) w'∧v= .tuple #[rv0,vI r.2]∧CI M rc0 r.1:=by
 unfold Fg at hm;have L0:=Mem.rfl' m;refine Pa (args:=[a0v0,vI a1]) Tryz.func179 rfl Tryz.ntmps179 (AlS rfl)<|AY<|AB<|GJ (v:= .slice none 0 0) rfl<|GJ (v:=vI 0) rfl<|AK<|nrm<|AY<|AY ?_;refine AB<|A9 (v:=a0v0) rfl<|Wd (xs:=a0) rfl a0h0 Tryz.underlying65<|Aam (m:=(a0.length:Int)) (n:=256) rfl rfl<|A9 (v:=vb (decide ((a0.length:Int)>256))) rfl<|Abq 3 [12,13,14] (fun f' w'=>w'=w∧QC f' [(14,vb ((decide ((a0.length:Int)>256))||(decide (a1<0))))]) ?_ ?_
 ·rcases Aez (decide ((a0.length:Int)>256))with hb1|hb1
  ·exact Mj (d:=11) rfl rfl (Al9 Value.bool hb1)<|Mj (d:=11) rfl rfl (Al9 Value.bool hb1)<|N4 (Al9 Value.bool hb1) rfl<|AK (nrm ⟨Tt,rfl,Al9 Value.bool (or_t hb1),trivial⟩)
  ·exact Mh (d:=11) rfl rfl (Al9 Value.bool hb1)<|A9 (v:=vI a1) rfl<|Mh (d:=11) rfl rfl (Al9 Value.bool hb1)<|Ab6 (m:=a1) (n:=0) rfl rfl<|N5 (Al9 Value.bool hb1) rfl<|AK (nrm ⟨Tt,rfl,Al9 Value.bool (or_f hb1),trivial⟩)
 rintro f1 w1 ho ⟨h1,ha⟩;subst h1;obtain⟨u1,rfl⟩:=LY (N:=27) ho ha;refine A9 (v:=vb ((decide ((a0.length:Int)>256))||(decide (a1<0)))) rfl<|Abq 5 [16,17,18,19,20] (fun f' w'=>w'=w1∧QC f' [(20,vb (((decide ((a0.length:Int)>256))||(decide (a1<0)))||(decide (a1≥(a0.length:Int)))))]) ?_ ?_
 ·rcases Aez ((decide ((a0.length:Int)>256))||(decide (a1<0)))with hb2|hb2
  ·exact Mj (d:=15) rfl rfl (Al9 Value.bool hb2)<|Mj (d:=15) rfl rfl (Al9 Value.bool hb2)<|Mj (d:=15) rfl rfl (Al9 Value.bool hb2)<|Mj (d:=15) rfl rfl (Al9 Value.bool hb2)<|N4 (Al9 Value.bool hb2) rfl<|AK (nrm ⟨Tt,rfl,Al9 Value.bool (or_t hb2),trivial⟩)
  ·refine Mh (d:=15) rfl rfl (Al9 Value.bool hb2)<|A9 (v:=vI a1) rfl<|Mh (d:=15) rfl rfl (Al9 Value.bool hb2)<|A9 (v:=a0v0) rfl<|Mh (d:=15) rfl rfl (Al9 Value.bool hb2)<|Wd (xs:=a0) rfl a0h0 Tryz.underlying65<|Mh (d:=15) rfl rfl (Al9 Value.bool hb2)<|Ajl (m:=a1) (n:=(a0.length:Int)) rfl rfl<|N5 (Al9 Value.bool hb2) rfl ?_;exact AK (nrm ⟨Tt,rfl,Al9 Value.bool (or_f hb2),trivial⟩)
 rintro f2 w2 ho ⟨h2,ha⟩;subst h2;obtain⟨u2,rfl⟩:=LY (N:=27) ho ha;refine AK<|nrm<|JC (t:=(((decide ((a0.length:Int)>256))||(decide (a1<0)))||(decide (a1≥(a0.length:Int))))) rfl (fun hc1=> ?_) (fun hc1=> ?_)
 ·replace hm:=ifT hc1 hm;refine AY<|AB<|GJ (v:= .slice none 0 0) rfl<|GJ (v:=vI 80) rfl<|AK<|nrm<|JB<|thR<|RE ?_;intro we hpd;replace S:=St.pd S hpd;have S1:=St.rowNil S 2;have h3:CI m [] ([]:List (UInt64×UInt64)):=CI.nil;replace S1:St _ ((row 2 (.slice none 0 0) [] ([]:List (UInt64×UInt64)).length)::As) _:=S1;clear S;obtain rfl:=AlC hm;exact Abi [_,_] rfl ⟨rfl,rfl,trivial⟩ ⟨_,L0,_,_,S1,rfl,h3⟩
 replace hm:=ifF hc1 hm;refine Gf<|nrm<|AY<|AB<|XI S Tryz.zeroValue65 ?_;intro b1 w3 S2;replace S2:St _ ((bx b1 [.slice none 0 0] 65)::As) _:=S2;clear S;refine AK<|nrm<|AY<|AB<|XI S2 Tryz.zeroValue294 ?_;intro b2 w4 S3;replace S3:St _ ((bx b2 [.nilFunc] 294)::(bx b1 [.slice none 0 0] 65)::As) _:=S3;clear S2;refine AK<|nrm<|AY<|AB<|Ajm (caps:=[pt b2 0,pt b1 0]) rfl<|s_stL (i:=0) S3 rfl rfl rfl Tryz.sizeOf294 (oneC rfl oneN) rfl ?_;intro w5 S4;replace S4:St _ ((bx b2 [.func (.func 253) #[] #[pt b2 0,pt b1 0]] 294)::(bx b1 [.slice none 0 0] 65)::As) _:=S4;clear S3;refine AK<|nrm<|AY<|AB<|s_ld (i:=0) (cs:=[.func (.func 253) #[] #[pt b2 0,pt b1 0]]) S4 rfl rfl Tryz.isAgg294 Tryz.sizeOf294 rfl (fun _=>rfl)<|A9 (v:=a0v0) rfl<|A9 (v:=vI a1) rfl ?_;have S5:=St.rowNil S4 2;have h4:CI m [] ([]:List (UInt64×UInt64)):=CI.nil;replace S5:St _ ((row 2 (.slice none 0 0) [] ([]:List (UInt64×UInt64)).length)::(bx b2 [.func (.func 253) #[] #[pt b2 0,pt b1 0]] 294)::(bx b1 [(.slice none 0 0)] 65)::As) _:=S5;clear S4;have S6:St _ ((bx b2 [.func (.func 253) #[] #[pt b2 0,pt b1 0]] 294)::(bx b1 [(.slice none 0 0)] 65)::(row 2 (.slice none 0 0) [] ([]:List (UInt64×UInt64)).length)::As) _:=St.perm S5 (List.Perm.trans (List.Perm.swap _ _ _) (List.Perm.cons _ (List.Perm.swap _ _ _)));clear S5;obtain⟨x1,q1,hm⟩:=Ae hm;refine Acb rfl Tryz.call253 (Qm (a0:=a0) (a1:=a1) (k1:=([]:List (UInt64×UInt64))) S6 a0h0 h4 q1) rfl rfl ?_;rintro _ w6 ⟨m1,l1,v1,c1,S7,rfl,h5⟩;replace a0h0:=a0h0.up l1;replace L0:=Mem.tr L0 l1;clear S6;replace S7:St _ ((bx b1 [v1] 65)::(row 2 v1 c1 x1.length)::(bx b2 [.func (.func 253) #[] #[pt b2 0,pt b1 0]] 294)::As) _:=S7;refine AK<|nrm<|AY<|AB<|s_ld (i:=0) (cs:=[v1]) S7 rfl rfl Tryz.isAgg65 Tryz.sizeOf65 rfl (fun _=>rfl)<|GJ (v:=v1) rfl<|GJ (v:=vI 0) rfl<|AK<|nrm ?_;refine JB<|RE ?_;intro we hpd;replace S7:=St.pd S7 hpd;obtain⟨m2,l2,S8⟩:=St.drop S7 0;replace h5:=CI.up l2 h5;replace L0:=Mem.tr L0 l2;clear S7;replace S8:St _ ((row 2 v1 c1 x1.length)::(bx b2 [.func (.func 253) #[] #[pt b2 0,pt b1 0]] 294)::As) _:=S8;obtain⟨m3,l3,S9⟩:=St.drop S8 1;replace h5:=CI.up l3 h5;replace L0:=Mem.tr L0 l3;clear S8;replace S9:St _ ((row 2 v1 c1 x1.length)::As) _:=S9;obtain rfl:=AlC hm;exact Abi [_,_] rfl ⟨rfl,rfl,trivial⟩ ⟨_,L0,_,_,S9,rfl,h5⟩
theorem SN {a0 a1 r}(hm:Fg a0 a1=some r):Sp prog 179 [sl Ar a0,.d (.i a1)] [] 0 (is (.tup [.ow 0,.d (.i r.2)]) [.row 0 2 _ Ar r.1] 1):=
 ⟨call179,fun η m As w vs hv0 hd S=>by
  have S:St m As w:=S;obtain⟨v0,u0,rfl,r0,hv1⟩:=B5.cons_inv hv0;have f0:=Br.ofS PV r0.dd;obtain⟨v1,u1,rfl,r1,hv2⟩:=B5.cons_inv hv1;obtain rfl:=r1.i_inv;obtain rfl:=B5.nil_inv hv2;refine C4.mono (SI S f0 hm) ?_;rintro v w' ⟨M,hle,y0,c0,S0,rfl,h0⟩;exact⟨M,(envL [y0]),_,_,_,hle,dom0 hd _,⟨rfl,rfl,rfl⟩,ZL rfl,(.tup' (.cons (.ow rfl (JN S0)) (.cons (.d (.i _)) .nil))),(St.impL S0 (Ab3 (Br.toR PV rfl rfl (JN S0) h0) fun _ h=>h))⟩⟩
def IM (a0:g_api_Log)(a1:Int)(a2:Int)(a3:Int):Option (g_api_Place×Int):=Ab (IL a0 a1 a3) fun x1=>if(x1.2 !=0)=true then some ((⟨0,0,0,[]⟩:g_api_Place),x1.2)else Ab (Fg x1.1 a2) fun x2=>if(x2.2 !=0)=true then some ((⟨0,0,0,[]⟩:g_api_Place),x2.2)else some ((⟨a0.Id,a2,a3,x2.1⟩:g_api_Place),0)
theorem VO {a0 a1 a2 a3 r}(hm:IM a0 a1 a2 a3=some r):Sf prog 97 [ag (Av a0),.d (.i a1),.d (.i a2),.d (.i a3)] (.tup [ag (A6 r.1),.d (.i r.2)]):=by
 refine sq ?_;intros;refine gD hm PZ fun _ q1 hm=>gi hm ?_ ?_<;>intro _ hm
 ·exact AlC hm▸gE
 refine gD hm SN fun _ q2 hm=>gi hm ?_ ?_<;>intro _ hm
 ·exact AlC hm▸gE
 exact AlC hm▸gE
def Dx (a0:UInt8)(a2:Int)(s1:Int×Int×UInt64×Int×(List g_api_Leaf)×(List Int)×(List g_api_Leaf)):Option ((Int×Int×UInt64×Int×(List g_api_Leaf)×(List Int)×(List g_api_Leaf))⊕((Int×UInt64×Int×(List g_api_Leaf)×(List Int)×(List g_api_Leaf))⊕(Co×Bool))):=if(decide (s1.1<a2))=true then Ab (Dc (⟨s1.2.1,s1.2.2.1,s1.2.2.2.1,s1.2.2.2.2.1,s1.2.2.2.2.2.1,s1.2.2.2.2.2.2⟩:g_api_Log) ([(toB s1.1),a0]:List UInt8) 1) fun x8=>if(x8.2.2 !=0)=true then some (.inr (.inr ((⟨(⟨ByteArray.empty,[],[],(⟨[]⟩:g_api_Pool),(⟨0,[]⟩:g_api_Cascade),0⟩:g_api_Client),(⟨[],[]⟩:g_api_Offer),[]⟩:Co),false)))else some (.inl ((w64 (s1.1+1)),x8.1.Id,x8.1.Key,x8.1.Delay,x8.1.L,x8.1.Hide,x8.1.Wait))else some (.inr (.inl (s1.2.1,s1.2.2.1,s1.2.2.2.1,s1.2.2.2.2.1,s1.2.2.2.2.2.1,s1.2.2.2.2.2.2)))
def Cl (x11:(List g_api_Log)×g_api_Cert×Int)(s2:Int×(List g_api_Log)):Option ((Int×(List g_api_Log))⊕(((List g_api_Log))⊕(Co×Bool))):=if(decide (s2.1<2))=true then Ab (idx x11.1 s2.1) fun x15=>Ab (Ku x15) fun x16=>if(x16.2 !=0)=true then some (.inr (.inr ((⟨(⟨ByteArray.empty,[],[],(⟨[]⟩:g_api_Pool),(⟨0,[]⟩:g_api_Cascade),0⟩:g_api_Client),(⟨[],[]⟩:g_api_Offer),s2.2⟩:Co),false)))else Ab (app 96 s2.2 ([x16.1]:List g_api_Log)) fun x17=>some (.inl ((w64 (s2.1+1)),x17))else some (.inr (.inl s2.2))
def Ds (a0:UInt8)(a1:ByteArray)(a2:Int):Option (Co×Bool):=
 Ab (Gi ([a0]:List UInt8)) fun x1=>
 Ab (Gj x1) fun x2=>
 Ab (Fh (⟨0,(⟨#[114]⟩:ByteArray),(⟨#[114]⟩:ByteArray),x2.1,[],0,100,true,1,[],[],(⟨0,0⟩:g_api_Sig)⟩:g_api_Cert) a0) fun x3=>
 Ab (Li 0 ([a0,0]:List UInt8) 5) fun x4=>
 Ab (Li 1 ([a0,1]:List UInt8) 5) fun x5=>
 Ab (iter (Dx a0 a2) Fx (0,x4.1.Id,x4.1.Key,x4.1.Delay,x4.1.L,x4.1.Hide,x4.1.Wait)) fun x6=>match x6 with
 | .inr r=>some r
 | .inl y1=>
 Ab (IN ([(⟨y1.1,y1.2.1,y1.2.2.1,y1.2.2.2.1,y1.2.2.2.2.1,y1.2.2.2.2.2⟩:g_api_Log),x5.1]:List g_api_Log)) fun x9=>
 Ab (Ji (⟨0,([a1]:List ByteArray),4,5⟩:Iv) 9 3 (⟨#[114]⟩:ByteArray)) fun x10=>
 Ab (E8 ([(⟨y1.1,y1.2.1,y1.2.2.1,y1.2.2.2.1,y1.2.2.2.2.1,y1.2.2.2.2.2⟩:g_api_Log),x5.1]:List g_api_Log) x10.1 3) fun x11=>
 if((((((((x2.2 !=0)||(!x3.2))||(x4.2 !=0))||(x5.2 !=0))||(x9.2 !=0))||(x10.2 !=0))||(x11.2.2 !=0))||((x11.1.length:Int) !=2))=true then
  some ((⟨(⟨ByteArray.empty,[],[],(⟨[]⟩:g_api_Pool),(⟨0,[]⟩:g_api_Cascade),0⟩:g_api_Client),(⟨[],[]⟩:g_api_Offer),[]⟩:Co),false)
 else
 Ab (Fh x11.2.1 a0) fun x12=>
 Ab (iter (Cl x11) Fx (0,([]:List g_api_Log))) fun x13=>match x13 with
 | .inr r=>some r
 | .inl y3=>
 Ab (F7 (⟨#[97,110,110]⟩:ByteArray) ([x3.1]:List g_api_Cert) x9.1 0) fun x18=>
 Ab (idx y3 0) fun x19=>
 Ab (IM x19 0 a2 (w64 (a2+1))) fun x20=>
 bnd (((x12.2&&(x18.2==0))&&(x20.2==0))) fun x21=>
 some ((⟨x18.1,(⟨([x12.1]:List g_api_Cert),([x20.1]:List g_api_Place)⟩:g_api_Offer),y3⟩:Co),x21)
theorem NF {a0 a1 a2 r}(hm:Ds a0 a1 a2=some r):Sf prog 29 [.d (.b a0),.d (.s a1),.d (.i a2)] (.tup [ag (Qg r.1),.d (.t r.2)]):=by
 refine sq ?_;intros;refine gq eB 1 [a0]<|gA hm Lv fun _ q1 hm=>gA hm Lw fun x2 q2 hm=>gA hm ND fun x3 q3 hm=>gq eB 1 [a0,0]<|gA hm Tj fun x4 q4 hm=>gq eB 1 [a0,1]<|gA hm Tj fun x5 q5 hm=>oB hm fun _ q6 hm=>gI q6 (fun(p_0,p_1,p_2,p_3,p_4,p_5,p_6)=>⟨[(0,.d (.b a0)),(1,.d (.s a1)),(2,.d (.i a2)),(6,.pb 0 0),(8,.pb 1 0),(10,.d (.i x2.2)),(11,.pb 2 0),(12,.d (.t x3.2)),(13,.pb 3 0),(14,.d (.i x4.2)),(15,.pb 4 0),(16,.d (.i x5.2)),(17,.d (.i p_0))],[(0,.box 4 [.d (.i x5.1.Id),.d (.u x5.1.Key),.d (.i x5.1.Delay),sl Am x5.1.L,sl eI x5.1.Hide,sl Am x5.1.Wait] 82),(1,.box 3 [.d (.i p_1),.d (.u p_2),.d (.i p_3),sl Am p_4,sl eI p_5,sl Am p_6] 82),(2,.box 2 [.d (.i x3.1.Serial),.d (.s x3.1.Issuer),.d (.s x3.1.Subject),.d (.u x3.1.Key),sl eS x3.1.Names,.d (.i x3.1.From),.d (.i x3.1.Until),.d (.t x3.1.Ca),.d (.i x3.1.Depth),sl eS x3.1.Permit,sl Ad x3.1.Proms,.d (.u x3.1.Sig.E),.d (.u x3.1.Sig.S)] 59),(3,.box 1 [.d (.s ByteArray.empty),.d (.v (.slice none 0 0)),.d (.v (.slice none 0 0)),.d (.v (.slice none 0 0)),.d (.i 0),.d (.v (.slice none 0 0)),.d (.i 0),.d (.v (.slice none 0 0)),.d (.v (.slice none 0 0)),.d (.v (.slice none 0 0))] 74),(4,.box 0 [.d (.s ByteArray.empty),.d (.v (.slice none 0 0)),.d (.v (.slice none 0 0)),.d (.v (.slice none 0 0)),.d (.i 0),.d (.v (.slice none 0 0)),.d (.i 0),.d (.v (.slice none 0 0)),.d (.v (.slice none 0 0)),.d (.v (.slice none 0 0))] 74)],[],5⟩) fun s1 _ Jl q9 bl1=> ?_;refine gi q9 ?_ ?_<;>intro _ q9
 ·refine gq eB 1 [(toB s1.1),a0]<|gA q9 Tk fun _ q11 q9=>gi q9 ?_ ?_<;>intro _ q9
  ·obtain rfl:=nR bl1 q9;exact AlC hm▸gE
  exact gN bl1 q9
 obtain rfl:=nR bl1 q9;let y1:=(s1.2.1,s1.2.2.1,s1.2.2.2.1,s1.2.2.2.2.1,s1.2.2.2.2.2.1,s1.2.2.2.2.2.2);refine gq Av 6 [(⟨y1.1,y1.2.1,y1.2.2.1,y1.2.2.2.1,y1.2.2.2.2.1,y1.2.2.2.2.2⟩:g_api_Log),x5.1]<|gD hm VS fun x9 q12 hm=>gq eS 1 [a1]<|gA hm Ui fun x10 q13 hm=>gq Av 6 [(⟨y1.1,y1.2.1,y1.2.2.1,y1.2.2.2.1,y1.2.2.2.2.1,y1.2.2.2.2.2⟩:g_api_Log),x5.1]<|gD hm Qq fun x11 q14 hm=>gi hm ?_ ?_<;>intro _ hm
 ·exact AlC hm▸gE
 refine gA hm ND fun x12 q15 hm=>oB hm fun _ q16 hm=>gnilBU 2 Av 8 9 6<|gI q16 (fun(p_0,p_1)=>⟨[(2,.d (.i a2)),(6,.pb 0 0),(8,.pb 1 0),(11,.pb 2 0),(21,.ow 5),(25,.ow 7),(28,.pb 9 0),(29,.d (.t x12.2)),(30,.d (.i p_0)),(26,.pb 8 0),(23,.pb 6 0),(15,.pb 4 0),(13,.pb 3 0)],[(0,.row 10 6 _ Av p_1),(1,.box 9 [.d (.i x12.1.Serial),.d (.s x12.1.Issuer),.d (.s x12.1.Subject),.d (.u x12.1.Key),sl eS x12.1.Names,.d (.i x12.1.From),.d (.i x12.1.Until),.d (.t x12.1.Ca),.d (.i x12.1.Depth),sl eS x12.1.Permit,sl Ad x12.1.Proms,.d (.u x12.1.Sig.E),.d (.u x12.1.Sig.S)] 59),(2,.box 8 [.d (.i x11.2.1.Serial),.d (.s x11.2.1.Issuer),.d (.s x11.2.1.Subject),.d (.u x11.2.1.Key),sl eS x11.2.1.Names,.d (.i x11.2.1.From),.d (.i x11.2.1.Until),.d (.t x11.2.1.Ca),.d (.i x11.2.1.Depth),sl eS x11.2.1.Permit,sl Ad x11.2.1.Proms,.d (.u x11.2.1.Sig.E),.d (.u x11.2.1.Sig.S)] 59),(3,.row 7 6 _ Av x11.1),(4,.box 6 [.d (.i x10.1.Serial),.d (.s x10.1.Issuer),.d (.s x10.1.Subject),.d (.u x10.1.Key),sl eS x10.1.Names,.d (.i x10.1.From),.d (.i x10.1.Until),.d (.t x10.1.Ca),.d (.i x10.1.Depth),sl eS x10.1.Permit,sl Ad x10.1.Proms,.d (.u x10.1.Sig.E),.d (.u x10.1.Sig.S)] 59),(5,.row 5 3 _ Ai x9.1),(6,.box 4 [.d (.i x5.1.Id),.d (.u x5.1.Key),.d (.i x5.1.Delay),sl Am x5.1.L,sl eI x5.1.Hide,sl Am x5.1.Wait] 82),(7,.box 3 [.d (.i y1.1),.d (.u y1.2.1),.d (.i y1.2.2.1),sl Am y1.2.2.2.1,sl eI y1.2.2.2.2.1,sl Am y1.2.2.2.2.2] 82),(8,.box 2 [.d (.i x3.1.Serial),.d (.s x3.1.Issuer),.d (.s x3.1.Subject),.d (.u x3.1.Key),sl eS x3.1.Names,.d (.i x3.1.From),.d (.i x3.1.Until),.d (.t x3.1.Ca),.d (.i x3.1.Depth),sl eS x3.1.Permit,sl Ad x3.1.Proms,.d (.u x3.1.Sig.E),.d (.u x3.1.Sig.S)] 59),(9,.box 1 [.d (.s ByteArray.empty),.d (.v (.slice none 0 0)),.d (.v (.slice none 0 0)),.d (.v (.slice none 0 0)),.d (.i 0),.d (.v (.slice none 0 0)),.d (.i 0),.d (.v (.slice none 0 0)),.d (.v (.slice none 0 0)),.ow 10] 74),(10,.box 0 [.d (.s ByteArray.empty),.d (.v (.slice none 0 0)),.d (.v (.slice none 0 0)),.d (.v (.slice none 0 0)),.d (.i 0),.d (.v (.slice none 0 0)),.d (.i 0),.d (.v (.slice none 0 0)),.d (.v (.slice none 0 0)),.d (.v (.slice none 0 0))] 74)],[],11⟩) fun s2 _ Jl q19 bl2=>gi q19 ?_ ?_<;>intro _ q19
 ·refine oB q19 fun _ q21 q19=>I6 (E:=Av) (fun _=>q21)<|Yh (k:=6) (fo:=0) (nn:=6) (ag:=true) (E:=Av) (fun _=>rfl) (fun _=>q21)<|gA q19 VP fun x16 q22 q19=>gi q19 ?_ ?_<;>intro _ q19
  ·obtain rfl:=nR bl2 q19;exact AlC hm▸gE
  exact gq Av 6 [x16.1]<|oB q19 fun _ q23 q19=>gp Av 6 q23<|gN bl2 q19
 obtain rfl:=nR bl2 q19;let y3:=s2.2;refine gq Ac 13 [x3.1]<|gD hm P1 fun _ q24 hm=>oB hm fun _ q25 hm=>I6 (E:=Av) (fun _=>q25)<|Yh (k:=6) (fo:=0) (nn:=6) (ag:=true) (E:=Av) (fun _=>rfl) (fun _=>q25)<|gA hm VO fun x20 q26 hm=>gq Ac 13 [x12.1]<|gq A6 4 [x20.1]<|bE hm ?_;intro _ hm;exact AlC hm▸gE
def FY (a0:g_api_Log)(a1:Int)(a2:Int)(a3:Int):Option (g_api_Head×Int):=Ab (IL a0 a1 a2) fun x1=>Ab (Ab (gu ((x1.2==0)||(x1.2==80)) (Dp a3)) fun x3=>if(((x1.2==0)||(x1.2==80))&&(!x3))=true then some 1 else some x1.2) fun x2=>if(x2 !=0)=true then some ((⟨0,0,(0,0),0,(⟨0,0⟩:g_api_Sig)⟩:g_api_Head),x2)else Ab (Gu x1.1) fun x4=>Ab (HP (⟨a0.Id,a2,x4,a3,(⟨0,0⟩:g_api_Sig)⟩:g_api_Head)) fun x5=>Ab (Hi a0.Key x5) fun x6=>some ((⟨a0.Id,a2,x4,a3,x6.1⟩:g_api_Head),x6.2)
theorem Q2 {a0 a1 a2 a3 r}(hm:FY a0 a1 a2 a3=some r):Sf prog 30 [ag (Av a0),.d (.i a1),.d (.i a2),.d (.i a3)] (.tup [ag (Af r.1),.d (.i r.2)]):=by
 refine sq fun D0 As η0 m0 hd=>gD hm PZ fun x1 q1 hm=> ?_;obtain⟨x2,q2,hm⟩:=Ae hm;refine oB q2 fun _ q3 q2=>gcH q3 EO<|gj (fun(_:Unit)=>⟨[(2,.d (.i a2)),(3,.d (.i a3)),(4,.pb 0 0),(8,.pb 1 0),(10,.ow 2),(11,.d (.i x2))],[(0,.row 2 2 _ Ar x1.1),(1,.box 1 [.d (.i 0),.d (.i 0),.d (.u 0),.d (.u 0),.d (.i 0),.d (.u 0),.d (.u 0)] 38),(2,.box 0 [.d (.i a0.Id),.d (.u a0.Key),.d (.i a0.Delay),sl Am a0.L,sl eI a0.Hide,sl Am a0.Wait] 82)],[],3⟩) (fun _=>True) (fun Jp bk1=> ?_) fun _ _=> ?_
 ·refine gi q2 ?_ ?_<;>intro _ q2
  ·obtain rfl:=AlC q2;exact gb bk1 hd () trivial
  obtain rfl:=AlC q2;exact gb bk1 hd () trivial
 refine gi hm ?_ ?_<;>intro _ hm
 ·exact AlC hm▸gE
 refine gD hm Ou fun _ q4 hm=>gD hm Ox fun _ q5 hm=>gD hm Lu fun _ q6 hm=> ?_;exact AlC hm▸gE
def NB (i1:Int)(x2:Int)(s1:Int):Option ((Int)⊕Bool):=Ab (gu (!(decide (x2≤s1))) (KS x2)) fun x3=>if((decide (x2≤s1))||(!x3))=true then some (.inr false)else some (.inl x2)
def EF (a0:List Int):Option Bool:=Ab (DK NB a0 0 (-1)) fun x1=>match x1 with| .inr r=>some r| .inl y1=>bnd ((decide ((a0.length:Int)≤256))) fun x4=>some x4
theorem K3 {a0 r}(hm:EF a0=some r):Sf prog 103 [sl eI a0] (.d (.t r)):=by
 refine sq ?_;intros;refine oB hm fun _ q1 hm=>IU 0 (E:=eI) (xs:=a0) 6 fun hle1=>gF (ER _ _ _) q1 (fun p0 p=>⟨[(0,sl eI a0),(3,.d (.i p)),(6,sl eI a0),(7,.d (.i (a0.length:Int))),(8,.d (.i p0))],[],[],0⟩) fun i1 s1 Jl bl1=>cR bl1 (fun _ _ q5 q4 bl1=> ?_) fun e=> ?_
 ·refine gx eI 1 q5<|oB q4 fun _ q6 q4=>gcH q6 NJ<|gi q4 ?_ ?_<;>intro _ q4
  ·obtain rfl:=nT bl1 q4;exact AlC hm▸gE
  exact gT bl1 hle1 q4
 subst e;let y1:=s1;refine bE hm ?_;intro _ hm;exact AlC hm▸gE
def I1 (a0:g_api_Sieve)(a1:Int):Option (g_api_Sieve×(List UInt8)×(List UInt8)):=Ab (Hu a0.Salt) fun x1=>Ab (Hu a1) fun x2=>some (a0,x1,x2)
theorem Qh {a0}{g0:Value}{a1 r}(hm:I1 a0 a1=some r):Sp prog 160 [.agg [.d (.i a0.Bits),.d (.i a0.Hashes),.d (.i a0.Salt),.d (.v g0)],.d (.i a1)] [] 0 (is (.fn (.func 248) [] [.pb 0 0,.pb 1 0,.pb 2 0]) [.box 0 [.d (.i r.1.Bits),.d (.i r.1.Hashes),.d (.i r.1.Salt),.d (.v g0)] 98,.box 1 [sl eB r.2.1] 96,.box 2 [sl eB r.2.2] 96] 3):=by
 refine sq ?_;intros;refine gD hm Kh fun _ q1 hm=>gD hm Kh fun _ q2 hm=> ?_;exact AlC hm▸gE
def MO {σ:Type}(p0:σ→(Int×UInt8)→Option (Bool×σ))(k0:g_api_Sieve)(k1:List UInt8)(k2:List UInt8)(s1:Int×σ):Option ((Int×σ)⊕((σ)⊕(g_api_Sieve×(List UInt8)×(List UInt8)×σ))):=if(decide (s1.1<k0.Hashes))=true then Ab (Cc (⟨#[115,105,101,118,101]⟩:ByteArray) ([k1,([(toB s1.1)]:List UInt8),k2]:List (List UInt8))) fun x3=>Ab (Gx x3 (toU k0.Bits)) fun x4=>if(0:Int)≤(HZ (w64 (x4.toNat:Int)) 7)then Ab (p0 s1.2 ((BA (w64 (x4.toNat:Int)) 3),(AbW 1 ((HZ (w64 (x4.toNat:Int)) 7).toNat)))) fun x5=>if(!x5.1)=true then some (.inr (.inr (k0,k1,k2,x5.2)))else some (.inl ((w64 (s1.1+1)),x5.2))else none else some (.inr (.inl s1.2))
def Ks {σ:Type}(p0:σ→(Int×UInt8)→Option (Bool×σ))(k0:g_api_Sieve)(k1:List UInt8)(k2:List UInt8)(s0:σ):Option (g_api_Sieve×(List UInt8)×(List UInt8)×σ):=Ab (iter (MO p0 k0 k1 k2) Fx (0,s0)) fun x1=>match x1 with| .inr r=>some r| .inl y1=>some (k0,k1,k2,y1)
theorem Om {σ:Type}{p0:σ→(Int×UInt8)→Option (Bool×σ)}{k0}{g0:Value}{k1 k2 s0 r}(hm:Ks p0 k0 k1 k2 s0=some r)(g:Value)(R:σ→Mem→Ow)(hcb:Z4 prog g (fun x=> [.d (.i x.1),.d (.b x.2)]) R p0):Sp prog 248 [.ow 0,.pb 1 0,.pb 2 0,.pb 3 0] [.hp 0 (.cb g σ R s0),.box 1 [.d (.i k0.Bits),.d (.i k0.Hashes),.d (.i k0.Salt),.d (.v g0)] 98,.box 2 [sl eB k1] 96,.box 3 [sl eB k2] 96] 4 (is (.tup []) [.hp 0 (.cb g σ R r.2.2.2),.box 1 [.d (.i r.1.Bits),.d (.i r.1.Hashes),.d (.i r.1.Salt),.d (.v g0)] 98,.box 2 [.d (.sl _ eB r.2.1)] 96,.box 3 [.d (.sl _ eB r.2.2.1)] 96] 4):=by
 refine sq ?_;intros;refine oB hm fun _ q1 hm=>gI q1 (fun(p_0,p_1)=>⟨[(0,.ow 0),(1,.pb 1 0),(2,.pb 2 0),(3,.pb 3 0),(8,.d (.i k0.Hashes)),(9,.d (.i p_0))],[(0,.box 1 [.d (.i k0.Bits),.d (.i k0.Hashes),.d (.i k0.Salt),.d (.v g0)] 98),(1,.box 2 [sl eB k1] 96),(2,.box 3 [sl eB k2] 96),(3,.hp 0 (.cb g σ R p_1))],[],4⟩) fun s1 _ Jl q4 bl1=>gi q4 ?_ ?_<;>intro _ q4
 ·refine gq eB 1 [(toB s1.1)]<|gq (eL eB) 1 [k1,([(toB s1.1)]:List UInt8),k2]<|gA q4 EP fun _ q6 q4=>gA q4 No fun x4 q7 q4=> ?_;obtain⟨q8,q4⟩:=BI q4;refine gsh (r:= .b (AbW 1 ((HZ (w64 (x4.toNat:Int)) 7).toNat))) (fun h=>q8)<|oB q4 fun _ q9 q4=>gcb ((BA (w64 (x4.toNat:Int)) 3),(AbW 1 ((HZ (w64 (x4.toNat:Int)) 7).toNat))) hcb q9<|gi q4 ?_ ?_<;>intro _ q4
  ·obtain rfl:=nR bl1 q4;exact AlC hm▸gE
  exact gN bl1 q4
 obtain rfl:=nR bl1 q4;let y1:=s1.2;exact AlC hm▸gE
def Ix (b6:Int×UInt8)(s1:(List UInt8)):Option ((List UInt8)):=Ab (idx s1 b6.1) fun x4=>Ab (idx s1 b6.1) fun x5=>bnd (s1.set b6.1.toNat (x4|||b6.2)) fun x6=>some x6
def N9 (a0:g_api_Sieve)(a1:Int):Option (Int×(List UInt8)):=Ab (D4 a1) fun x1=>if(!x1)=true then some (1,a0.B)else Ab (I1 a0 a1) fun x2=>Ab (Ks (fun(s:(List UInt8)) (b0:Int×UInt8)=>Ab (Ix b0 s) fun y=>some (true,y)) x2.1 x2.2.1 x2.2.2 a0.B) fun x3=>some (0,x3.2.2.2)
theorem Xr {a0 a1 r}(hm:N9 a0 a1=some r):Sp prog 262 [.agg [.d (.i a0.Bits),.d (.i a0.Hashes),.d (.i a0.Salt),.ow 0],.d (.i a1)] [.row 0 1 _ eB a0.B] 1 (is (.d (.i r.1)) [.row 0 1 _ eB r.2] 1):=
 spV 0 call262 func262 rfl ntmps262 rfl fun D0 As η0 m0 hD hd v0 hv=>by
  unfold N9 at hm;refine gtoV 0 3 0 hv<|gA hm Jc fun x1 q1 hm=>gi hm ?_ ?_<;>intro hc1 hm
  ·obtain rfl:=AlC hm;exact gE
  refine oB hm fun x2 q2 hm=>gco (Qh (g0:=v0) q2)<|gofV 2 3 0 hv<|oB hm fun x3 q3 hm=>M4 hD (n0:=1) 5 5 [⟨2,2,98,[.d (.i x2.1.Bits),.d (.i x2.1.Hashes),.d (.i x2.1.Salt),.d (.v v0)],[.d (.i x3.1.Bits),.d (.i x3.1.Hashes),.d (.i x3.1.Salt),.d (.v v0)]⟩,⟨3,3,96,[sl eB x2.2.1],[sl eB x3.2.1]⟩,⟨4,4,96,[sl eB x2.2.2],[sl eB x3.2.2.1]⟩] (gt:=12) (ps:=[13,14]) [(2,.pb 1 0),(12,.fn (.func 248) [] [.pb 2 0,.pb 3 0,.pb 4 0])] (fun(y1:(List UInt8))=> [(0,.box 1 [.d (.i a0.Bits),.d (.i a0.Hashes),.d (.i a0.Salt),.ow 0] 98),(1,.row 0 1 _ eB y1)]) (fun(_:Unit)=> []) (fun x=> [.d (.i x.1),.d (.b x.2)]) (fun(s1:(List UInt8)) (b6:Int×UInt8)=>⟨[(2,.pb 1 0),(5,.d (.i b6.1)),(6,.d (.b b6.2)),(12,.fn (.func 248) [] [.pb 2 0,.pb 3 0,.pb 4 0])],[(0,.box 1 [.d (.i a0.Bits),.d (.i a0.Hashes),.d (.i a0.Salt),.ow 0] 98),(1,.row 0 1 _ eB s1)],[],5⟩) (pN fun x s=>Ix x s) a0.B hd (via Sum.inl hyN rfl fun g R h=>Om (g0:=v0) q3 g R h) rfl (fun _=>rfl) (fun _=>rfl) (fun _=>rfl) (fun _=>rfl) ?_ ?_ ?_ ?_
  ·intro s1 b6 s' hp l D0 As η0 m0 hd Ja ba;exact gb ba hd () trivial
  ·intro s1 b6 s' hp l D0 As η0 m0 hd Jb bb Jr br;obtain⟨z1,q4,hp⟩:=AlN.1 hp;subst hp;unfold Ix at q4;refine oB q4 fun x4 q5 q4=>I6 (E:=eB) (fun _=>q5)<|Yh (k:=1) (fo:=0) (nn:=1) (ag:=false) (E:=eB) (fun _=>rfl) (fun _=>q5)<|oB q4 fun x5 q6 q4=>I6 (E:=eB) (fun _=>q6)<|bE q4 ?_;intro x6 q4;refine AeZ (k:=1) (E:=eB) (x4|||b6.2) (fun _=>rfl) q6 ?_;obtain rfl:=AlC q4;exact gb bb hd x6 rfl
  ·intro x hx;have hx:=Sum.inl.inj hx;subst hx;obtain rfl:=AlC hm;exact gE
  intro y hy;cases hy
def MQ (a0:g_api_Sieve):Option (Int×(List UInt8)):=Ab (if(decide (a0.Bits<8))=true then some (decide (a0.Bits<8))else if(decide (a0.Bits>8192))=true then some (decide (a0.Bits>8192))else some ((HZ a0.Bits 7) !=0)) fun x1=>if x1=true then some (1,a0.B)else Ab (if(decide (a0.Hashes<1))=true then some (decide (a0.Hashes<1))else if(decide (a0.Hashes>8))=true then some (decide (a0.Hashes>8))else Ab (D4 a0.Salt) fun x3=>if(!x3)=true then some (!x3)else bnd (((a0.B.length:Int) !=(BA a0.Bits 3))) fun x4=>some x4) fun x2=>if x2=true then some (1,a0.B)else some (0,a0.B)
theorem QY {a0 r}(hm:MQ a0=some r):Sp prog 107 [.agg [.d (.i a0.Bits),.d (.i a0.Hashes),.d (.i a0.Salt),.ow 0]] [.row 0 1 _ eB a0.B] 1 (is (.d (.i r.1)) [.row 0 1 _ eB r.2] 1):=by
 refine sq fun D0 As η0 m0 hd=>oB hm fun x1 q1 hm=>gj (fun(_:Unit)=>⟨[(1,.pb 1 0),(3,.d (.t x1))],[(0,.box 1 [.d (.i a0.Bits),.d (.i a0.Hashes),.d (.i a0.Salt),.ow 0] 98),(1,.row 0 1 _ eB a0.B)],[],2⟩) (fun _=>True) (fun Jp bk1=> ?_) fun _ _=> ?_
 ·refine gi q1 ?_ ?_<;>intro _ q1
  ·obtain rfl:=AlC q1;exact gb bk1 hd () trivial
  refine gi q1 ?_ ?_<;>intro _ q1
  ·obtain rfl:=AlC q1;exact gb bk1 hd () trivial
  obtain rfl:=AlC q1;exact gb bk1 hd () trivial
 refine gi hm ?_ ?_<;>intro _ hm
 ·exact AlC hm▸gE
 refine oB hm fun x2 q2 hm=>gj (fun(_:Unit)=>⟨[(14,.d (.t x2)),(1,.pb 1 0)],[(0,.box 1 [.d (.i a0.Bits),.d (.i a0.Hashes),.d (.i a0.Salt),.ow 0] 98),(1,.row 0 1 _ eB a0.B)],[],2⟩) (fun _=>True) (fun Jp bk2=> ?_) fun _ _=> ?_
 ·refine gi q2 ?_ ?_<;>intro _ q2
  ·obtain rfl:=AlC q2;exact gb bk2 hd () trivial
  refine gi q2 ?_ ?_<;>intro _ q2
  ·obtain rfl:=AlC q2;exact gb bk2 hd () trivial
  refine gA q2 Jc fun _ q3 q2=>gi q2 ?_ ?_<;>intro _ q2
  ·obtain rfl:=AlC q2;exact gb bk2 hd () trivial
  refine bE q2 ?_;intro _ q2;obtain rfl:=AlC q2;exact gb bk2 hd () trivial
 refine gi hm ?_ ?_<;>intro _ hm
 ·exact AlC hm▸gE
 exact AlC hm▸gE
def LK (a0:Int)(a1:Int)(a2:Int):Option (g_api_Sieve×Int):=Ab (mkS 1 (0:UInt8) (BA (Aj6 0 (X7 a0 8192)) 3)) fun x1=>Ab (MQ (⟨a0,a1,a2,x1⟩:g_api_Sieve)) fun x2=>if(x2.1 !=0)=true then some ((⟨0,0,0,[]⟩:g_api_Sieve),x2.1)else some ((⟨a0,a1,a2,x2.2⟩:g_api_Sieve),0)
theorem T9 {a0 a1 a2 r}(hm:LK a0 a1 a2=some r):Sp prog 261 [.d (.i a0),.d (.i a1),.d (.i a2)] [] 0 (is (.tup [.agg (List.set (((Ag r.1)).map dv) 3 (.ow 0)),.d (.i r.2)]) [.row 0 1 _ eB r.1.B] 1):=by
 refine sq ?_;intros;refine oB hm fun _ q1 hm=>gmks eB (0:UInt8) (.b 0) 1 q1<|gD hm QY fun _ q2 hm=>gi hm ?_ ?_<;>intro _ hm
 ·refine AgN eB 6 3 1 ?_;exact AlC hm▸gE
 exact AlC hm▸gE
def U6 (x1:g_api_Sieve×Int)(i1:Int)(x4:Int)(s1:Int×(List UInt8)):Option (Int×(List UInt8)):=Ab (if(s1.1==0)=true then Ab (N9 (⟨x1.1.Bits,x1.1.Hashes,x1.1.Salt,s1.2⟩:g_api_Sieve) x4) fun x6=>some (x6.1,x6.2)else some (s1.1,s1.2)) fun x5=>some (x5.1,x5.2)
def Tz (a0:List Int)(a1:Int)(a2:Int)(a3:Int):Option (g_api_Sieve×Int):=Ab (LK a1 a2 a3) fun x1=>Ab (Ab (DP (U6 x1) a0 0 (x1.2,x1.1.B)) fun x3=>some (x3.1,x3.2)) fun x2=>if(x2.1 !=0)=true then some ((⟨0,0,0,[]⟩:g_api_Sieve),x2.1)else some ((⟨x1.1.Bits,x1.1.Hashes,x1.1.Salt,x2.2⟩:g_api_Sieve),x2.1)
theorem Aaa {a0 a1 a2 a3 r}(hm:Tz a0 a1 a2 a3=some r):Sf prog 192 [sl eI a0,.d (.i a1),.d (.i a2),.d (.i a3)] (.tup [ag (Ag r.1),.d (.i r.2)]):=by
 refine sq fun D0 As η0 m0 hd=>gD hm T9 fun x1 q1 hm=> ?_;obtain⟨x2,q2,hm⟩:=Ae hm;refine oB q2 fun _ q3 q2=>IU 0 (E:=eI) (xs:=a0) 21 fun hle1=>gF (E0 _ _ _) q3 (fun p0 (p_0,p_1)=>⟨[(8,.pb 0 0),(10,.pb 2 0),(11,.d (.i p_0)),(21,sl eI a0),(22,.d (.i (a0.length:Int))),(23,.d (.i p0))],[(0,.box 2 [.d (.i x1.1.Bits),.d (.i x1.1.Hashes),.d (.i x1.1.Salt),.ow 1] 98),(1,.row 1 1 _ eB p_1),(2,.box 0 [.d (.i 0),.d (.i 0),.d (.i 0),sl eB []] 98)],[],3⟩) fun i1 s1 Jl bl1=>c0 bl1 (fun _ _ q7 q6 bl1=> ?_) fun e=> ?_
 ·refine oB q6 fun x5 q8 q6=>gjU 1 (fun(_:Unit)=>let (y_0,y_1):=x5; ⟨[(8,.pb 0 0),(10,.pb 2 0),(11,.d (.i y_0)),(21,sl eI a0),(22,.d (.i (a0.length:Int))),(23,.d (.i (i1:Int)))],[(0,.box 2 [.d (.i x1.1.Bits),.d (.i x1.1.Hashes),.d (.i x1.1.Salt),.ow 1] 98),(1,.row 1 1 _ eB y_1),(2,.box 0 [.d (.i 0),.d (.i 0),.d (.i 0),sl eB []] 98)],[],3⟩) (fun _=>True) (fun Jp bk3=> ?_) fun _ _=> ?_
  ·refine gx eI 1 q7<|gi q8 ?_ ?_<;>intro _ q8
   ·refine gD q8 Xr fun _ q9 q8=> ?_;obtain rfl:=AlC q8;exact gb bk3 hd () trivial
   obtain rfl:=AlC q8;exact gb bk3 hd () trivial
  exact gM bl1 hle1 q6
 subst e;obtain rfl:=AlC q2;refine gi hm ?_ ?_<;>intro _ hm
 ·exact AlC hm▸gE
 exact AlC hm▸gE
def DM (a0:List Int):Option (List Int):=Ab (app 8 ([]:List Int) a0) fun x1=>some x1
theorem Mc {a0 r}(hm:DM a0=some r):Sp prog 114 [sl eI a0] [] 0 (is (.ow 0) [.row 0 1 _ eI r] 1):=by
 refine sq ?_;intros;unfold DM at hm;refine gnq eI a0 (fun he1=> ?_) ?_
 ·rw[he1]at hm;replace hm:(some ([]:List Int))=some _:=hm;refine R0 eI 2 1 ?_;exact AlC hm▸gE
 refine AaP (k:=1) eI ([]:List Int) (fun _=>rfl)<|oB hm fun _ q1 hm=>gp eI 1 q1 ?_;exact AlC hm▸gE
def KP (a0:Int)(k0:g_api_Sieve):Option (Bool×g_api_Sieve):=Ab (LL k0 a0) fun x1=>some ((!x1),k0)
theorem NC {a0 k0 r}(hm:KP a0 k0=some r):Sp prog 264 [.d (.i a0),.pb 0 0] [.box 0 [.d (.i k0.Bits),.d (.i k0.Hashes),.d (.i k0.Salt),sl eB k0.B] 98] 1 (is (.d (.t r.1)) [.box 0 [.d (.i r.2.Bits),.d (.i r.2.Hashes),.d (.i r.2.Salt),.d (.sl _ eB r.2.B)] 98] 1):=by
 refine sq ?_;intros;refine gA hm QX fun _ q1 hm=> ?_;exact AlC hm▸gE
def Hg (a0:List Int)(i1:Int)(s1:Int×Int×Int×(List UInt8)):Option ((Int×Int×Int×(List UInt8))⊕(Int×(List Int)×g_api_Sieve)):=Ab (idx a0 (i1:Int)) fun x3=>Ab (KP x3 (⟨s1.1,s1.2.1,s1.2.2.1,s1.2.2.2⟩:g_api_Sieve)) fun x4=>if x4.1=true then some (.inr ((i1:Int),a0,x4.2))else some (.inl (x4.2.Bits,x4.2.Hashes,x4.2.Salt,x4.2.B))
def En (a0:List Int)(k0:g_api_Sieve):Option (Int×(List Int)×g_api_Sieve):=Ab (BV (Hg a0) a0.length 0 (k0.Bits,k0.Hashes,k0.Salt,k0.B)) fun x1=>match x1 with| .inr r=>some r| .inl y1=>some ((-1),a0,(⟨y1.1,y1.2.1,y1.2.2.1,y1.2.2.2⟩:g_api_Sieve))
theorem H3 {a0 k0 r}(hm:En a0 k0=some r):Sp prog 320 [.ow 0,.fn (.func 264) [] [.pb 1 0]] [.row 0 1 _ eI a0,.box 1 [.d (.i k0.Bits),.d (.i k0.Hashes),.d (.i k0.Salt),sl eB k0.B] 98] 2 (is (.d (.i r.1)) [.row 0 1 _ eI r.2.1,.box 1 [.d (.i r.2.2.Bits),.d (.i r.2.2.Hashes),.d (.i r.2.2.Salt),.d (.sl _ eB r.2.2.B)] 98] 2):=by
 refine sq ?_;intros;refine oB hm fun _ q1 hm=>IU 0 (E:=eI) (xs:=a0) 6 fun hle1=>gF (EN _ _ _) q1 (fun p0 (p_0,p_1,p_2,p_3)=>⟨[(0,.ow 0),(1,.fn (.func 264) [] [.pb 1 0]),(7,.d (.i (a0.length:Int))),(8,.d (.i p0))],[(0,.row 0 1 _ eI a0),(1,.box 1 [.d (.i p_0),.d (.i p_1),.d (.i p_2),sl eB p_3] 98)],[],2⟩) fun i1 s1 Jl bl1=>cN bl1 (a0.length:Int) (fun _ q4 bl1=> ?_) fun e=> ?_
 ·refine oB q4 fun _ q6 q4=>I6 (E:=eI) (fun _=>q6)<|Yh (k:=1) (fo:=0) (nn:=1) (ag:=false) (E:=eI) (fun _=>rfl) (fun _=>q6)<|gD q4 NC fun _ q7 q4=>gi q4 ?_ ?_<;>intro _ q4
  ·obtain rfl:=nT bl1 q4;exact AlC hm▸gE
  exact gT bl1 hle1 q4
 subst e;let y1:=s1;exact AlC hm▸gE
def Hh (s1:Int×Int×Int×Int×Int×(List UInt8)×(List Int)):Option ((Int×Int×Int×Int×Int×(List UInt8)×(List Int))⊕(Int×Int×Int×Int×(List UInt8)×(List Int))):=if(decide (s1.2.1<(s1.2.2.2.2.2.2.length:Int)))=true then Ab (Ab (idx s1.2.2.2.2.2.2 s1.2.1) fun x6=>Ab (KP x6 (⟨s1.2.2.1,s1.2.2.2.1,s1.2.2.2.2.1,s1.2.2.2.2.2.1⟩:g_api_Sieve)) fun x7=>if(!x7.1)=true then Ab (idx s1.2.2.2.2.2.2 s1.1) fun x8=>bnd (s1.2.2.2.2.2.2.set s1.1.toNat x6) fun x9=>some ((w64 (s1.1+1)),x7.2.Bits,x7.2.Hashes,x7.2.Salt,x7.2.B,x9)else some (s1.1,x7.2.Bits,x7.2.Hashes,x7.2.Salt,x7.2.B,s1.2.2.2.2.2.2)) fun x5=>some (.inl (x5.1,(w64 (s1.2.1+1)),x5.2.1,x5.2.2.1,x5.2.2.2.1,x5.2.2.2.2.1,x5.2.2.2.2.2))else some (.inr (s1.1,s1.2.2.1,s1.2.2.2.1,s1.2.2.2.2.1,s1.2.2.2.2.2.1,s1.2.2.2.2.2.2))
def Eo (a0:List Int)(k0:g_api_Sieve):Option ((List Int)×g_api_Sieve):=Ab (En a0 k0) fun x1=>if(x1.1==(-1))=true then some (x1.2.1,x1.2.2)else Ab (Ab (iter Hh Fx (x1.1,(w64 (x1.1+1)),x1.2.2.Bits,x1.2.2.Hashes,x1.2.2.Salt,x1.2.2.B,x1.2.1)) fun x3=>some (x3.1,x3.2.1,x3.2.2.1,x3.2.2.2.1,x3.2.2.2.2.1,x3.2.2.2.2.2)) fun x2=>Ab (clrT (0:Int) x2.2.2.2.2.2 x2.1) fun x10=>if(0:Int)≤x2.1∧x2.1≤(x10.length:Int)then some ((x10.take x2.1.toNat),(⟨x2.2.1,x2.2.2.1,x2.2.2.2.1,x2.2.2.2.2.1⟩:g_api_Sieve))else none
theorem H4 {a0 k0 r}(hm:Eo a0 k0=some r):Sp prog 263 [.ow 0,.fn (.func 264) [] [.pb 1 0]] [.row 0 1 _ eI a0,.box 1 [.d (.i k0.Bits),.d (.i k0.Hashes),.d (.i k0.Salt),sl eB k0.B] 98] 2 (is (.ow 2) [.box 1 [.d (.i r.2.Bits),.d (.i r.2.Hashes),.d (.i r.2.Salt),.d (.sl _ eB r.2.B)] 98,.row 2 1 _ eI r.1] 3):=by
 refine sq fun D0 As η0 m0 hd=>gD hm H3 fun _ q1 hm=>gi hm ?_ ?_<;>intro _ hm
 ·exact AlC hm▸gE
 obtain⟨x2,q2,hm⟩:=Ae hm;refine oB q2 fun x3 q3 q2=>gI q3 (fun(p_0,p_1,p_2,p_3,p_4,p_5,p_6)=>⟨[(0,.ow 0),(1,.fn (.func 264) [] [.pb 1 0]),(5,.d (.i p_0)),(6,.d (.i p_1))],[(0,.row 0 1 _ eI p_6),(1,.box 1 [.d (.i p_2),.d (.i p_3),.d (.i p_4),sl eB p_5] 98)],[],2⟩) fun s1 _ Jl q6 bl1=>gi q6 ?_ ?_<;>intro _ q6
 ·refine oB q6 fun x5 q8 q6=>gjU 1 (fun(_:Unit)=>let (y_0,y_1,y_2,y_3,y_4,y_5):=x5; ⟨[(0,.ow 0),(1,.fn (.func 264) [] [.pb 1 0]),(5,.d (.i y_0)),(6,.d (.i s1.2.1))],[(0,.row 0 1 _ eI y_5),(1,.box 1 [.d (.i y_1),.d (.i y_2),.d (.i y_3),sl eB y_4] 98)],[],2⟩) (fun _=>True) (fun Jp bk3=> ?_) fun _ _=> ?_
  ·refine oB q8 fun x6 q9 q8=>I6 (E:=eI) (fun _=>q9)<|Yh (k:=1) (fo:=0) (nn:=1) (ag:=false) (E:=eI) (fun _=>rfl) (fun _=>q9)<|gD q8 NC fun _ q10 q8=>gi q8 ?_ ?_<;>intro _ q8
   ·refine oB q8 fun _ q11 q8=>I6 (E:=eI) (fun _=>q11)<|bE q8 ?_;intro _ q8;refine AeZ (k:=1) (E:=eI) x6 (fun _=>rfl) q11 ?_;obtain rfl:=AlC q8;exact gb bk3 hd () trivial
   obtain rfl:=AlC q8;exact gb bk3 hd () trivial
  exact gN bl1 q6
 obtain rfl:=nR bl1 q6;let x3:=(s1.1,s1.2.2.1,s1.2.2.2.1,s1.2.2.2.2.1,s1.2.2.2.2.2.1,s1.2.2.2.2.2.2);obtain rfl:=AlC q2;refine oB hm fun _ q13 hm=>gclr eI (0:Int) (.i 0) q13 ?_;obtain⟨⟨q14,q15⟩,hm⟩:=BI hm;refine gcO eI 1 q14 q15 ?_;exact AlC hm▸gE
def P9 (a0:g_api_Sieve)(a1:List Int):Option (List Int):=Ab (DM a1) fun x1=>Ab (Eo x1 a0) fun x2=>some x2.1
theorem VM {a0 a1 r}(hm:P9 a0 a1=some r):Sp prog 193 [ag (Ag a0),sl eI a1] [] 0 (is (.ow 0) [.row 0 1 _ eI r] 1):=by
 refine sq ?_;intros;refine gD hm Mc fun _ q1 hm=>gD hm H4 fun _ q2 hm=> ?_;exact AlC hm▸gE
def MW {σ:Type}(p0:σ→(Int×Bb)→Option (Bool×σ))(k1:Int)(s1:Int×(List Int)×(List Int)×σ):Option ((Int×(List Int)×(List Int)×σ)⊕(((List Int)×(List Int)×σ)⊕((List Int)×Int×(List Int)×σ))):=if((s1.1==0)||(decide ((s1.2.1.length:Int)>0)))=true then Ab (G0 k1 s1.1) fun x3=>Ab (Tz s1.2.1 (w64 (8*(Aj6 1 (s1.2.1.length:Int)))) 3 x3) fun x4=>Ab (p0 s1.2.2.2 (s1.1,(⟨x4.1,x4.2⟩:Bb))) fun x5=>if((!x5.1)||(x4.2 !=0))=true then some (.inr (.inr (s1.2.1,k1,s1.2.2.1,x5.2)))else Ab (P9 x4.1 s1.2.2.1) fun x6=>some (.inl ((w64 (s1.1+1)),x6,s1.2.1,x5.2))else some (.inr (.inl (s1.2.1,s1.2.2.1,s1.2.2.2)))
def KC {σ:Type}(p0:σ→(Int×Bb)→Option (Bool×σ))(k0:List Int)(k1:Int)(k2:List Int)(s0:σ):Option ((List Int)×Int×(List Int)×σ):=Ab (iter (MW p0 k1) Fx (0,k0,k2,s0)) fun x1=>match x1 with| .inr r=>some r| .inl y1=>some (y1.1,k1,y1.2.1,y1.2.2)
theorem OF {σ:Type}{p0:σ→(Int×Bb)→Option (Bool×σ)}{k0 k1 k2 s0 r}(hm:KC p0 k0 k1 k2 s0=some r)(g:Value)(R:σ→Mem→Ow)(hcb:Z4 prog g (fun x=> [.d (.i x.1),ag (Nc x.2)]) R p0):Sp prog 191 [.ow 0,.pb 1 0,.pb 2 0,.pb 3 0] [.hp 0 (.cb g σ R s0),.box 1 [sl eI k0] 80,.box 2 [.d (.i k1)] 3,.box 3 [sl eI k2] 80] 4 (is (.tup []) [.hp 0 (.cb g σ R r.2.2.2),.box 1 [.d (.sl _ eI r.1)] 80,.box 2 [.d (.i r.2.1)] 3,.box 3 [.d (.sl _ eI r.2.2.1)] 80] 4):=by
 refine sq ?_;intros;refine oB hm fun _ q1 hm=>gI q1 (fun(p_0,p_1,p_2,p_3)=>⟨[(0,.ow 0),(1,.pb 1 0),(2,.pb 2 0),(3,.pb 3 0),(5,.d (.i p_0))],[(0,.box 1 [sl eI p_1] 80),(1,.box 2 [.d (.i k1)] 3),(2,.box 3 [sl eI p_2] 80),(3,.hp 0 (.cb g σ R p_3))],[],4⟩) fun s1 _ Jl q4 bl1=>gi q4 ?_ ?_<;>intro _ q4
 ·refine gA q4 NK fun _ q6 q4=>gA q4 Aaa fun x4 q7 q4=>oB q4 fun _ q8 q4=>gcb (s1.1,(⟨x4.1,x4.2⟩:Bb)) hcb q8<|gi q4 ?_ ?_<;>intro _ q4
  ·obtain rfl:=nR bl1 q4;exact AlC hm▸gE
  exact gD q4 VM fun _ q9 q4=>gN bl1 q4
 obtain rfl:=nR bl1 q4;let y1:=(s1.2.1,s1.2.2.1,s1.2.2.2);exact AlC hm▸gE
def I5 (a0:List Int)(a1:List Int)(a2:Int):Option ((List Int)×Int×(List Int)):=some (a0,a2,a1)
theorem Qw {a0 a1 a2 r}(hm:I5 a0 a1 a2=some r):Sp prog 105 [sl eI a0,sl eI a1,.d (.i a2)] [] 0 (is (.fn (.func 191) [] [.pb 0 0,.pb 1 0,.pb 2 0]) [.box 0 [sl eI r.1] 80,.box 1 [.d (.i r.2.1)] 3,.box 2 [sl eI r.2.2] 80] 3):=by
 refine sq ?_;intros;exact AlC hm▸gE
def Lm (x6:Int)(s2:(List Int)):Option (((List Int))⊕((Unit)⊕(((List Int))⊕(g_api_Cascade×Int)))):=if(decide ((s2.length:Int)>0))=true then Ab (idx s2 0) fun x9=>if(x9==x6)=true then some (.inr (.inr (.inr ((⟨0,[]⟩:g_api_Cascade),100))))else Ab (idx s2 0) fun x10=>if(decide (x10>x6))=true then some (.inr (.inr (.inl s2)))else Ab (cut s2 1 (s2.length:Int)) fun x11=>some (.inl x11)else some (.inr (.inl ()))
def Iu (a0:List Int)(s1:(List Int)×Int):Option (((List Int)×Int)⊕((Unit)⊕(g_api_Cascade×Int))):=if(decide (s1.2<(a0.length:Int)))=true then Ab (idx a0 s1.2) fun x6=>Ab (iter (Lm x6) Fx s1.1) fun x7=>match x7 with| .inr (.inl y3)=>some (.inl (y3,(w64 (s1.2+1))))| .inr (.inr r)=>some (.inr (.inr r))| .inl y4=>some (.inr (.inl ()))else some (.inr (.inl ()))
def GC (b9:Int×Bb)(s3:(Int×Int×(List g_api_Sieve))×Nat):Option ((Int×Int×(List g_api_Sieve))×Nat):=Ab (if((b9.2.e_==0)&&(b9.1==16))=true then some 2 else some b9.2.e_) fun x14=>if(x14 !=0)=true then some ((x14,0,([]:List g_api_Sieve)),1)else Ab (app 48 s3.1.2.2 ([b9.2.sieve_]:List g_api_Sieve)) fun x15=>some ((s3.1.1,s3.1.2.1,x15),0)
def B6 (a0:List Int)(a1:List Int)(a2:Int):Option (g_api_Cascade×Int):=Ab (EF a0) fun x1=>Ab (gu (!(!x1)) (EF a1)) fun x2=>Ab (gu (!((!x1)||(!x2))) (F9 a2)) fun x3=>if(((!x1)||(!x2))||(!x3))=true then some ((⟨0,[]⟩:g_api_Cascade),1)else Ab (iter (Iu a0) Fx (a1,0)) fun x4=>match x4 with| .inr r=>some r| .inl y1=>Ab (I5 a0 a1 a2) fun x12=>Ab (KC (fun(s:(Int×Int×(List g_api_Sieve))×Nat) (b0:Int×Bb)=>if s.2=0 then Ab (GC b0 s) fun y=>some (y.2==0,y)else none) x12.1 x12.2.1 x12.2.2 ((0,a2,([]:List g_api_Sieve)),0)) fun x13=>if(x13.2.2.2).2=0 then some ((⟨x13.2.2.2.1.2.1,x13.2.2.2.1.2.2⟩:g_api_Cascade),0)else some ((⟨x13.2.2.2.1.2.1,x13.2.2.2.1.2.2⟩:g_api_Cascade),x13.2.2.2.1.1)
theorem KJ {a0 a1 a2 r}(hm:B6 a0 a1 a2=some r):Sf prog 32 [sl eI a0,sl eI a1,.d (.i a2)] (.tup [ag (Jt r.1),.d (.i r.2)]):=
 spR call32 func32 rfl ntmps32 rfl fun D0 As η0 m0 hD hd=>by
  unfold B6 at hm;refine gA hm K3 fun _ q1 hm=>oB hm fun _ q2 hm=>gcH q2 K3<|oB hm fun _ q3 hm=>gcH q3 My<|gi hm ?_ ?_<;>intro _ hm
  ·exact AlC hm▸gE
  refine oB hm fun x4 q4 hm=>gjU 0 (fun(y1:Unit)=>⟨[(0,sl eI a0),(1,sl eI a1),(2,.d (.i a2)),(6,.pb 0 0),(7,.pb 1 0)],[(0,.box 1 [.d (.i 0)] 42),(1,.box 0 [.d (.i 0),.d (.v (.slice none 0 0))] 29)],[],2⟩) (fun y1=>x4= .inl y1) (fun Jp bk1=> ?_) fun y1 hy=> ?_
  ·refine gI q4 (fun(p_0,p_1)=>⟨[(0,sl eI a0),(1,sl eI a1),(2,.d (.i a2)),(6,.pb 0 0),(7,.pb 1 0),(8,sl eI p_0),(28,sl eI a0),(29,.d (.i (a0.length:Int))),(30,.d (.i p_1))],[(0,.box 1 [.d (.i 0)] 42),(1,.box 0 [.d (.i 0),.d (.v (.slice none 0 0))] 29)],[],2⟩) fun s1 _ Jl q7 bl1=> ?_;unfold Iu at q7;refine gi q7 ?_ ?_<;>intro _ q7
   ·refine oB q7 fun x6 q9 q7=>gx eI 1 q9<|oB q7 fun _ q10 q7=>gI q10 (fun p=>⟨[(0,sl eI a0),(1,sl eI a1),(2,.d (.i a2)),(6,.pb 0 0),(7,.pb 1 0),(8,sl eI p),(10,.d (.i x6)),(28,sl eI a0),(29,.d (.i (a0.length:Int))),(30,.d (.i s1.2))],[(0,.box 1 [.d (.i 0)] 42),(1,.box 0 [.d (.i 0),.d (.v (.slice none 0 0))] 29)],[],2⟩) fun s2 _ Jl q13 bl2=> ?_;unfold Lm at q13;refine gi q13 ?_ ?_<;>intro _ q13
    ·refine oB q13 fun _ q15 q13=>gx eI 1 q15<|gi q13 ?_ ?_<;>intro _ q13
     ·obtain rfl:=nR bl2 q13;obtain rfl:=nR bl1 q7;exact AlC hm▸gE
     refine oB q13 fun _ q16 q13=>gx eI 1 q16<|gi q13 ?_ ?_<;>intro _ q13
     ·obtain rfl:=nR bl2 q13;let y3:=s2;exact gN bl1 q7
     exact oB q13 fun _ q17 q13=>gk eI 1 q17<|gN bl2 q13
    obtain rfl:=nR bl2 q13;obtain rfl:=nR bl1 q7;exact gb bk1 hd _ rfl
   obtain rfl:=nR bl1 q7;exact gb bk1 hd _ rfl
  subst hy;refine gD hm Qw fun x12 q18 hm=>oB hm fun x13 q19 hm=>AgN Ag 6 1 4<|M4 hD (n0:=0) 5 6 [⟨3,2,80,[sl eI x12.1],[sl eI x13.1]⟩,⟨4,3,3,[.d (.i x12.2.1)],[.d (.i x13.2.1)]⟩,⟨5,4,80,[sl eI x12.2.2],[sl eI x13.2.2.1]⟩] (gt:=58) (ps:=[59,60]) [(6,.pb 0 0),(7,.pb 1 0),(58,.fn (.func 191) [] [.pb 2 0,.pb 3 0,.pb 4 0])] (fun(y6:Int×Int×(List g_api_Sieve))=> [(0,.row 5 4 _ Ag y6.2.2),(1,.box 1 [.d (.i y6.1)] 42),(2,.box 0 [.d (.i y6.2.1),.ow 5] 29)]) (fun(y6:(Int×Int×(List g_api_Sieve))×Nat)=> [(0,.row 5 4 _ Ag y6.1.2.2),(1,.box 1 [.d (.i y6.1.1)] 42),(2,.box 0 [.d (.i y6.1.2.1),.ow 5] 29)]) (fun x=> [.d (.i x.1),ag (Nc x.2)]) (fun(s3:Int×Int×(List g_api_Sieve)) (b9:Int×Bb)=>⟨[(6,.pb 0 0),(7,.pb 1 0),(11,.d (.i b9.1)),(12,.pb 6 0),(58,.fn (.func 191) [] [.pb 2 0,.pb 3 0,.pb 4 0])],[(0,.box 6 [.d (.i b9.2.sieve_.Bits),.d (.i b9.2.sieve_.Hashes),.d (.i b9.2.sieve_.Salt),sl eB b9.2.sieve_.B,.d (.i b9.2.e_)] 166),(1,.row 5 4 _ Ag s3.2.2),(2,.box 1 [.d (.i s3.1)] 42),(3,.box 0 [.d (.i s3.2.1),.ow 5] 29)],[],7⟩) (pJ fun x s=>GC x s) (0,a2,([]:List g_api_Sieve)) hd (via fJ hyJ rfl fun g R h=>OF q19 g R h) rfl (fun _=>rfl) (fun _=>rfl) (fun _=>rfl) (fun _=>rfl) ?_ ?_ ?_ ?_
  ·intro s3 b9 s' hp l D0 As η0 m0 hd Ja ba;exact gb ba hd () trivial
  ·intro s3 b9 s' hp l D0 As η0 m0 hd Jb bb Jr br;obtain⟨z1,q20,hp⟩:=AlN.1 hp;subst hp;unfold GC at q20;dsimp only at q20;refine oB q20 fun x14 q21 q20=>gj (fun(_:Unit)=>⟨[(6,.pb 0 0),(7,.pb 1 0),(12,.pb 6 0),(58,.fn (.func 191) [] [.pb 2 0,.pb 3 0,.pb 4 0])],[(0,.box 6 [.d (.i b9.2.sieve_.Bits),.d (.i b9.2.sieve_.Hashes),.d (.i b9.2.sieve_.Salt),sl eB b9.2.sieve_.B,.d (.i x14)] 166),(1,.row 5 4 _ Ag s3.2.2),(2,.box 1 [.d (.i s3.1)] 42),(3,.box 0 [.d (.i s3.2.1),.ow 5] 29)],[],7⟩) (fun _=>True) (fun Jp bk3=> ?_) fun _ _=> ?_
   ·refine gi q21 ?_ ?_<;>intro _ q21
    ·obtain rfl:=AlC q21;exact gb bk3 hd () trivial
    obtain rfl:=AlC q21;exact gb bk3 hd () trivial
   refine gi q20 ?_ ?_<;>intro _ q20
   ·refine AgN Ag 6 1 4 ?_;obtain rfl:=AlC q20;exact AgK br hd ((x14,0,([]:List g_api_Sieve)),1) rfl
   refine gq Ag 4 [b9.2.sieve_]<|oB q20 fun x15 q22 q20=>gp Ag 4 q22 ?_;obtain rfl:=AlC q20;exact gb bb hd (s3.1,s3.2.1,x15) rfl
  ·intro x hx;obtain⟨hj1,rfl⟩:=ZJ hx;rw[AlH hj1]at hm;exact AlC hm▸gE
  intro y hy;obtain⟨hj1,rfl⟩:=ZI hy;rw[AlG hj1]at hm;exact AlC hm▸gE
def Kv:Option Bool:=Ab (Ds 5 (⟨#[120,46,97]⟩:ByteArray) 2) fun x1=>if(!x1.2)=true then some false else Ab (idx x1.1.logs_ 0) fun x2=>Ab (FY x2 0 3 4) fun x3=>Ab (Ed x1.1.c_ x3.1) fun x4=>Ab (F7 (⟨#[]⟩:ByteArray) x1.1.c_.Roots x1.1.c_.Logs 0) fun x5=>Ab (B6 ([9]:List Int) ([]:List Int) 1) fun x6=>Ab (Cm x4.1 x6.1) fun x7=>Ab (Cm x7.1 (⟨0,[]⟩:g_api_Cascade)) fun x8=>Ab (gu ((((x3.2==0)&&(x4.2==0))&&(x6.2==0))&&(x7.2==0)) (m_client_Check x7.1)) fun x9=>bnd ((((((x3.2==0)&&(x4.2==0))&&(x6.2==0))&&(x7.2==0))&&(x9==0))) fun x10=>Ab (gu ((x10&&(x5.2==1))&&(x8.2==190)) (Ak x1.1.c_ x1.1.o_ (⟨#[120,46,97]⟩:ByteArray) 4)) fun x11=>Ab (gu (((x10&&(x5.2==1))&&(x8.2==190))&&(x11==240)) (Ak x4.1 x1.1.o_ (⟨#[120,46,97]⟩:ByteArray) 4)) fun x12=>Ab (gu ((((x10&&(x5.2==1))&&(x8.2==190))&&(x11==240))&&(x12==0)) (Ak x4.1 x1.1.o_ (⟨#[121,46,97]⟩:ByteArray) 4)) fun x13=>Ab (gu (((((x10&&(x5.2==1))&&(x8.2==190))&&(x11==240))&&(x12==0))&&(x13==110)) (Ak x4.1 x1.1.o_ (⟨#[120,46,97]⟩:ByteArray) 8)) fun x14=>Ab (gu ((((((x10&&(x5.2==1))&&(x8.2==190))&&(x11==240))&&(x12==0))&&(x13==110))&&(x14==190)) (Ak x7.1 x1.1.o_ (⟨#[120,46,97]⟩:ByteArray) 4)) fun x15=>bnd ((((((((x10&&(x5.2==1))&&(x8.2==190))&&(x11==240))&&(x12==0))&&(x13==110))&&(x14==190))&&(x15==270))) fun x16=>some x16
theorem VR {r}(hm:Kv=some r):Sf prog 10 [] (.d (.t r)):=by
 refine sq ?_;intros;refine gA hm NF fun _ q1 hm=>gi hm ?_ ?_<;>intro _ hm
 ·exact AlC hm▸gE
 refine oB hm fun _ q2 hm=>gx Av 6 q2<|gA hm Q2 fun _ q3 hm=>gA hm OD fun _ q4 hm=>gA hm P1 fun _ q5 hm=>gq eI 1 [9]<|gA hm KJ fun _ q6 hm=>gA hm Kl fun _ q7 hm=>gA hm Kl fun _ q8 hm=>oB hm fun _ q9 hm=>gcH q9 GN ?_;refine bE hm ?_;intro _ hm;refine oB hm fun _ q11 hm=>gcH q11 Cr<|oB hm fun _ q12 hm=>gcH q12 Cr<|oB hm fun _ q13 hm=>gcH q13 Cr<|oB hm fun _ q14 hm=>gcH q14 Cr<|oB hm fun _ q15 hm=>gcH q15 Cr<|bE hm ?_;intro _ hm;exact AlC hm▸gE
def Dd (a0:Co):Option g_api_Log:=if((a0.logs_.length:Int)==0)=true then some (⟨0,0,0,[],[],[]⟩:g_api_Log)else Ab (idx a0.logs_ 0) fun x1=>some x1
theorem Oz {a0 r}(hm:Dd a0=some r):Sf prog 31 [ag (Qg a0)] (ag (Av r)):=by
 refine sq ?_;intros;refine gi hm ?_ ?_<;>intro _ hm
 ·exact AlC hm▸gE
 refine oB hm fun _ q1 hm=>gx Av 6 q1 ?_;exact AlC hm▸gE
def D7 (a0:UInt8)(a1:UInt8)(a2:UInt8)(a3:Int):Option Bool:=Ab (Kv) fun x1=>if(!x1)=true then some false else bnd ((Int.tmod (w64 (a1.toNat:Int)) 6)) fun x2=>Ab (Ds a0 (⟨#[120,46,97]⟩:ByteArray) x2) fun x3=>Ab (Dd x3.1) fun x4=>Ab (FY x4 0 (w64 (x2+1)) 4) fun x5=>Ab (Ed x3.1.c_ x5.1) fun x6=>Ab (B6 ([9]:List Int) ([8]:List Int) (w64 (1+(w64 (a2.toNat:Int))))) fun x7=>Ab (B6 ([8]:List Int) ([9]:List Int) (w64 (2+(w64 (a2.toNat:Int))))) fun x8=>Ab (Cm x6.1 x7.1) fun x9=>Ab (Cm x9.1 x8.1) fun x10=>if(((((((!x3.2)||(x5.2 !=0))||(x6.2 !=0))||(x7.2 !=0))||(x8.2 !=0))||(x9.2 !=0))||(x10.2 !=0))=true then some false else bnd (((decide (a3≥3))&&(decide (a3<8)))) fun x11=>Ab (Ak x3.1.c_ x3.1.o_ (⟨#[120,46,97]⟩:ByteArray) 5) fun x12=>Ab (gu (x12==240) (Ak x9.1 x3.1.o_ (⟨#[120,46,97]⟩:ByteArray) 5)) fun x13=>Ab (gu ((x12==240)&&(x13==270)) (Ak x10.1 x3.1.o_ (⟨#[120,46,97]⟩:ByteArray) 5)) fun x14=>bnd ((((x12==240)&&(x13==270))&&(x14==0))) fun x15=>Ab (gu x15 (Ak x6.1 x3.1.o_ (⟨#[120,46,97]⟩:ByteArray) a3)) fun x16=>Ab (gu (x15&&((x16==0)==x11)) (Ak x6.1 x3.1.o_ (⟨#[113,46,97]⟩:ByteArray) 5)) fun x17=>bnd (((x15&&((x16==0)==x11))&&(x17==110))) fun x18=>some x18
theorem OA {a0 a1 a2 a3 r}(hm:D7 a0 a1 a2 a3=some r):Sf prog 6 [.d (.b a0),.d (.b a1),.d (.b a2),.d (.i a3)] (.d (.t r)):=by
 refine sq ?_;intros;refine gA hm VR fun _ q1 hm=>gi hm ?_ ?_<;>intro _ hm
 ·exact AlC hm▸gE
 refine bE hm ?_;intro _ hm;refine gA hm NF fun _ q3 hm=>gA hm Oz fun _ q4 hm=>gA hm Q2 fun _ q5 hm=>gA hm OD fun _ q6 hm=>gq eI 1 [9]<|gq eI 1 [8]<|gA hm KJ fun _ q7 hm=>gq eI 1 [8]<|gq eI 1 [9] ?_;refine gA hm KJ fun _ q8 hm=>gA hm Kl fun _ q9 hm=>gA hm Kl fun _ q10 hm=>gi hm ?_ ?_<;>intro _ hm
 ·exact AlC hm▸gE
 refine bE hm ?_;intro _ hm;refine gA hm Cr fun _ q12 hm=>oB hm fun _ q13 hm=>gcH q13 Cr<|oB hm fun _ q14 hm=>gcH q14 Cr<|bE hm ?_;intro _ hm;refine oB hm fun _ q16 hm=>gcH q16 Cr<|oB hm fun _ q17 hm=>gcH q17 Cr<|bE hm ?_;intro _ hm;exact AlC hm▸gE
end Go.Proofs.YtnhdojckpcbjeaaGreatDoor
