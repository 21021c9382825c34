/- The walks of some functions, by the executor, written by program. Conditions: none. -/
import Derived.Test.YtflnolcabkandaaGreatDoorZj
import Derived.Test.YtflnolcabkandaaGreatDoorZk
import Derived.Test.YtflnolcabkandaaGreatDoorZl
import Derived.Test.YtflnolcabkandaaGreatDoorZm
set_option linter.unusedSimpArgs false
set_option linter.unusedVariables false
set_option maxHeartbeats 20000000
set_option maxRecDepth 100000
namespace Go.Proofs.YtflnolcabkandaaGreatDoor
open Go Go.Gw Go.Ax Tryz Go.RowKit
attribute [local irreducible] Go.Ax.Go
def Ei (a0:AZ)(a1:AG):Option (AL×Int):=Ab (EL a0) fun x1=>if(x1 !=0)=true then some ((⟨false,0,[]⟩:AL),x1)else Ab (E2 a1) fun x2=>if(!x2)=true then some ((⟨false,0,[]⟩:AL),1)else Ab (FZ a0) fun x3=>Ab (BC a0.Rules a1 x3) fun x4=>some (x4.1,0)
theorem LJ {a0 a1 r}(hm:Ei a0 a1=some r):Sf prog 11 [ag (Ha a0),ag (DB a1)] (.tup [ag (FE r.1),.d (.i r.2)]):=by
 refine sq ?_;intros;refine gA hm M6 fun _ q1 hm=>gi hm ?_ ?_<;>intro _ hm
 ·exact AcO hm▸gE
 refine gA hm KE fun _ q2 hm=>gi hm ?_ ?_<;>intro _ hm
 ·exact AcO hm▸gE
 refine gD hm LI fun _ q3 hm=>gD hm Hz fun _ q4 hm=> ?_;exact AcO hm▸gE
def AK (k0:List (ByteArray×Int))(s1:ByteArray):Option ((ByteArray)⊕((Unit)⊕(Int×(List (ByteArray×Int))))):=if(!eqS s1 (⟨#[]⟩:ByteArray))=true then Ab (AcD (⟨#[42,46]⟩:ByteArray) s1) fun x4=>Ab (gu ((lkG (eqS x4) k0).isSome) (AcD (⟨#[42,46]⟩:ByteArray) s1)) fun x5=>Ab (gu ((lkG (eqS x4) k0).isSome) (B7 x5)) fun x6=>if(((lkG (eqS x4) k0).isSome)&&(x6==0))=true then some (.inr (.inr (((lkG (eqS x4) k0).getD 0),k0)))else Ab (C9 s1) fun x7=>some (.inl x7)else some (.inr (.inl ()))
def Bg (a0:ByteArray)(k0:List (ByteArray×Int)):Option (Int×(List (ByteArray×Int))):=if(lkG (eqS a0) k0).isSome=true then some (((lkG (eqS a0) k0).getD 0),k0)else Ab (C9 a0) fun x1=>Ab (iter (AK k0) ET x1) fun x2=>match x2 with| .inr r=>some r| .inl y1=>some ((-1),k0)
theorem FL {a0 k0 r}(hm:Bg a0 k0=some r):Sp prog 109 [.d (.s a0),.pb 0 0] [.box 0 [.ow 1] 171,.hp 1 (.mg _ _ eS D.i k0)] 2 (is (.d (.i r.1)) [.box 0 [.ow 1] 171,.hp 1 (.mg _ _ eS D.i r.2)] 2):=by
 refine sq ?_;intros;refine glkg (K:=eS) (c:=D.i) k0 a0 (eqS a0) 0 9 3 true (by kernel_rfl) (by kernel_rfl) (by kernel_rfl) (by kernel_rfl)<|gi hm ?_ ?_<;>intro _ hm
 ·exact AcO hm▸gE
 refine gA hm Ij fun _ q1 hm=>oB hm fun _ q2 hm=>gI q2 (fun p=>⟨[(1,.pb 0 0),(6,.d (.s p))],[(0,.box 0 [.ow 1] 171),(1,.hp 1 (.mg _ _ eS D.i k0))],[],2⟩) fun s1 _ Jl q5 bl1=>gi q5 ?_ ?_<;>intro _ q5
 ·refine oB q5 fun x4 q7 q5=>gcat (fun _=>q7)<|glkg (K:=eS) (c:=D.i) k0 x4 (eqS x4) 0 9 3 true (by kernel_rfl) (by kernel_rfl) (by kernel_rfl) (by kernel_rfl)<|oB q5 fun _ q8 q5=>gcatG (fun h=>YM h q8)<|oB q5 fun _ q9 q5=>gcH q9 FM<|gi q5 ?_ ?_<;>intro _ q5
  ·obtain rfl:=nR bl1 q5;exact AcO hm▸gE
  exact gA q5 Ij fun _ q10 q5=>gN bl1 q5
 obtain rfl:=nR bl1 q5;exact AcO hm▸gE
def CE (i1:Int)(i2:Int)(x7:ByteArray)(s2:(List (ByteArray×Int))):Option ((List (ByteArray×Int))):=Ab (if(!((lkG (eqS x7) s2).isSome))=true then some (upG (eqS x7) (x7,(i1:Int)) s2)else some s2) fun x8=>some x8
def CG (a0:List g_api_Rule)(i1:Int)(s1:(List (ByteArray×Int))):Option ((List (ByteArray×Int))):=Ab (Ab (idx a0 (i1:Int)) fun x5=>Ab (Iz (CE i1) x5.Pats 0 s1) fun x6=>some x6) fun x4=>some x4
def BX (a0:List g_api_Rule):Option (List (ByteArray×Int)):=Ab (Ab (C8 (CG a0) a0.length 0 ([]:List (ByteArray×Int))) fun x2=>some x2) fun x1=>some x1
theorem GA {a0 r}(hm:BX a0=some r):Sp prog 47 [sl Ac a0] [] 0 (is (.fn (.func 109) [] [.pb 0 0]) [.box 0 [.ow 1] 171,.hp 1 (.mg _ _ eS D.i r)] 2):=by
 refine sq fun D0 As η0 m0 hd=> ?_;unfold BX at hm;refine gmkg ByteArray Int eS D.i ?_;obtain⟨x1,q1,hm⟩:=Ad hm;refine oB q1 fun _ q2 q1=>JR 0 (E:=Ac) (xs:=a0) 11 fun hle1=>gF (EM _ _ _) q2 (fun p0 p=>⟨[(3,.pb 1 0),(11,sl Ac a0),(12,.d (.i (a0.length:Int))),(13,.d (.i p0)),(10,.ow 0)],[(0,.box 1 [.ow 0] 171),(1,.hp 0 (.mg _ _ eS D.i p))],[],2⟩) fun i1 s1 Jl bl1=>cM bl1 (a0.length:Int) (fun _ q5 bl1=> ?_) fun e=> ?_
 ·unfold CG at q5;obtain⟨x4,q7,q5⟩:=Ad q5;refine oB q7 fun x5 q8 q7=>gx Ac 7 q8<|oB q7 fun _ q9 q7=>JR 2 (E:=eS) (xs:=x5.Pats) 19 fun hle2=>gF (E0 _ _ _) q9 (fun p0 p=>⟨[(3,.pb 1 0),(4,.d (.i (i1:Int))),(11,sl Ac a0),(12,.d (.i (a0.length:Int))),(13,.d (.i (i1:Int))),(19,sl eS x5.Pats),(20,.d (.i (x5.Pats.length:Int))),(21,.d (.i p0)),(5,.pb 2 0),(10,.ow 0)],[(0,.box 2 [.d (.s x5.Name),.d (.t x5.Allow),sl eS x5.Pats,.d (.u x5.KeyMin),.d (.i x5.LifeMax),.d (.i x5.Most),.d (.i x5.Window)] 68),(1,.box 1 [.ow 0] 171),(2,.hp 0 (.mg _ _ eS D.i p))],[],3⟩) fun i2 s2 Jl bl2=>c0 bl2 (fun x7 _ q13 q12 bl2=> ?_) fun e=> ?_
  ·refine oB q12 fun x8 q14 q12=>gjU 3 (fun(_:Unit)=>⟨[(3,.pb 1 0),(4,.d (.i (i1:Int))),(11,sl Ac a0),(12,.d (.i (a0.length:Int))),(13,.d (.i (i1:Int))),(19,sl eS x5.Pats),(20,.d (.i (x5.Pats.length:Int))),(21,.d (.i (i2:Int))),(5,.pb 2 0),(10,.ow 0)],[(0,.box 2 [.d (.s x5.Name),.d (.t x5.Allow),sl eS x5.Pats,.d (.u x5.KeyMin),.d (.i x5.LifeMax),.d (.i x5.Most),.d (.i x5.Window)] 68),(1,.box 1 [.ow 0] 171),(2,.hp 0 (.mg _ _ eS D.i x8))],[],3⟩) (fun _=>True) (fun Jp bk5=> ?_) fun _ _=> ?_
   ·refine gx eS 1 q13<|glkg (K:=eS) (c:=D.i) s2 x7 (eqS x7) 0 9 3 true (by kernel_rfl) (by kernel_rfl) (by kernel_rfl) (by kernel_rfl)<|gi q14 ?_ ?_<;>intro _ q14
    ·refine gupg (K:=eS) (c:=D.i) s2 x7 (i1:Int) (eqS x7) 9 AbT (by kernel_rfl) (by kernel_rfl) (by kernel_rfl) (by kernel_rfl) ?_;obtain rfl:=AcO q14;exact gb bk5 hd () trivial
    obtain rfl:=AcO q14;exact gb bk5 hd () trivial
   exact gM bl2 hle2 q12
  subst e;obtain rfl:=AcO q7;exact gM bl1 hle1 q5
 subst e;obtain rfl:=AcO q1;exact AcO hm▸gE
def CQ (a0:List g_api_Rule)(a1:AG)(i1:Int)(s1:Bool×Int×(List Int)×(List (ByteArray×Int))):Option (Bool×Int×(List Int)×(List (ByteArray×Int))):=Ab (Ab (idx a1.Names (i1:Int)) fun x5=>Ab (Bg x5 s1.2.2.2) fun x6=>Ab (app 8 s1.2.2.1 ([x6.1]:List Int)) fun x7=>Ab (gu (x6.1 !=(-1)) (idx a0 x6.1)) fun x8=>Ab (gu ((x6.1 !=(-1))&&x8.Allow) (idx a0 x6.1)) fun x9=>Ab (gu ((((x6.1 !=(-1))&&x8.Allow)&&(decide ((a1.Key.toNat:Int)≥(x9.KeyMin.toNat:Int))))&&(decide (a1.Life>0))) (idx a0 x6.1)) fun x10=>bnd ((((((x6.1 !=(-1))&&x8.Allow)&&(decide ((a1.Key.toNat:Int)≥(x9.KeyMin.toNat:Int))))&&(decide (a1.Life>0)))&&(decide (a1.Life≤x10.LifeMax)))) fun x11=>if(s1.1&&(!x11))=true then some (false,(i1:Int),x7,x6.2)else some (s1.1,s1.2.1,x7,x6.2)) fun x4=>some (x4.1,x4.2.1,x4.2.2.1,x4.2.2.2)
def BB (a0:List g_api_Rule)(a1:AG)(k0:List (ByteArray×Int)):Option (AL×(List (ByteArray×Int))):=Ab (Ab (C8 (CQ a0 a1) a1.Names.length 0 (true,0,([]:List Int),k0)) fun x2=>some (x2.1,x2.2.1,x2.2.2.1,x2.2.2.2)) fun x1=>some ((⟨x1.1,x1.2.1,x1.2.2.1⟩:AL),x1.2.2.2)
theorem Hy {a0 a1 k0 r}(hm:BB a0 a1 k0=some r):Sp prog 45 [sl Ac a0,ag (DB a1),.fn (.func 109) [] [.pb 0 0]] [.box 0 [.ow 1] 171,.hp 1 (.mg _ _ eS D.i k0)] 2 (is (ag (FE r.1)) [.box 0 [.ow 1] 171,.hp 1 (.mg _ _ eS D.i r.2)] 2):=by
 refine sq fun D0 As η0 m0 hd=> ?_;unfold BB at hm;obtain⟨x1,q1,hm⟩:=Ad hm;refine oB q1 fun _ q2 q1=>Tr 0 eI 7 2 1<|JR 0 (E:=eS) (xs:=a1.Names) 14 fun hle1=>gF (EM _ _ _) q2 (fun p0 (p_0,p_1,p_2,p_3)=>⟨[(0,sl Ac a0),(2,.fn (.func 109) [] [.pb 0 0]),(4,.pb 2 0),(6,.pb 3 0),(7,.pb 4 0),(14,sl eS a1.Names),(15,.d (.i (a1.Names.length:Int))),(16,.d (.i p0))],[(0,.row 5 1 _ eI p_2),(1,.box 4 [.d (.t p_0),.d (.i p_1),.ow 5] 45),(2,.box 3 [.d (.t false),.d (.i 0),sl eI []] 45),(3,.box 2 [.d (.i a1.Account),sl eS a1.Names,.d (.u a1.Key),.d (.i a1.Life)] 26),(4,.box 0 [.ow 1] 171),(5,.hp 1 (.mg _ _ eS D.i p_3))],[],6⟩) fun i1 s1 Jl bl1=>cM bl1 (a1.Names.length:Int) (fun _ q5 bl1=> ?_) fun e=> ?_
 ·refine oB q5 fun x4 q7 q5=>gjU 1 (fun(_:Unit)=>let (y_0,y_1,y_2,y_3):=x4; ⟨[(0,sl Ac a0),(2,.fn (.func 109) [] [.pb 0 0]),(4,.pb 2 0),(6,.pb 3 0),(7,.pb 4 0),(14,sl eS a1.Names),(15,.d (.i (a1.Names.length:Int))),(16,.d (.i (i1:Int)))],[(0,.row 5 1 _ eI y_2),(1,.box 4 [.d (.t y_0),.d (.i y_1),.ow 5] 45),(2,.box 3 [.d (.t false),.d (.i 0),sl eI []] 45),(3,.box 2 [.d (.i a1.Account),sl eS a1.Names,.d (.u a1.Key),.d (.i a1.Life)] 26),(4,.box 0 [.ow 1] 171),(5,.hp 1 (.mg _ _ eS D.i y_3))],[],6⟩) (fun _=>True) (fun Jp bk3=> ?_) fun _ _=> ?_
  ·refine oB q7 fun _ q8 q7=>gx eS 1 q8<|gD q7 FL fun x6 q9 q7=>gq eI 1 [x6.1]<|oB q7 fun _ q10 q7=>gp eI 1 q10<|oB q7 fun _ q11 q7=>gxG Ac 7 q11<|oB q7 fun _ q12 q7=>gxG Ac 7 q12<|oB q7 fun _ q13 q7=>gxG Ac 7 q13<|bE q7 ?_;intro _ q7;refine gi q7 ?_ ?_<;>intro _ q7
   ·obtain rfl:=AcO q7;exact gb bk3 hd () trivial
   obtain rfl:=AcO q7;exact gb bk3 hd () trivial
  exact gM bl1 hle1 q5
 subst e;obtain rfl:=AcO q1;exact AcO hm▸gE
def EK (a0:List g_api_Rule)(a1:AG):Option (AL×Int):=Ab (DK a0) fun x1=>if(x1 !=0)=true then some ((⟨false,0,[]⟩:AL),x1)else Ab (E2 a1) fun x2=>if(!x2)=true then some ((⟨false,0,[]⟩:AL),1)else Ab (BX a0) fun x3=>Ab (BB a0 a1 x3) fun x4=>some (x4.1,0)
theorem MZ {a0 a1 r}(hm:EK a0 a1=some r):Sf prog 12 [sl Ac a0,ag (DB a1)] (.tup [ag (FE r.1),.d (.i r.2)]):=by
 refine sq ?_;intros;refine gA hm IB fun _ q1 hm=>gi hm ?_ ?_<;>intro _ hm
 ·exact AcO hm▸gE
 refine gA hm KE fun _ q2 hm=>gi hm ?_ ?_<;>intro _ hm
 ·exact AcO hm▸gE
 refine gD hm GA fun _ q3 hm=>gD hm Hy fun _ q4 hm=> ?_;exact AcO hm▸gE
def BF (a0:List ByteArray):Option (List ByteArray):=Ab (app 16 ([]:List ByteArray) a0) fun x1=>some x1
theorem Fp {a0 r}(hm:BF a0=some r):Sp prog 49 [sl eS a0] [] 0 (is (.ow 0) [.row 0 1 _ eS r] 1):=by
 refine sq ?_;intros;unfold BF at hm;refine gnq eS a0 (fun he1=> ?_) ?_
 ·rw[he1]at hm;replace hm:(some ([]:List ByteArray))=some _:=hm;refine Aab eS 2 1 ?_;exact AcO hm▸gE
 refine glit (k:=1) eS ([]:List ByteArray) (fun _=>rfl)<|oB hm fun _ q1 hm=>gp eS 1 q1 ?_;exact AcO hm▸gE
def Cn (a0:ByteArray)(k1:List (ByteArray×Int)):Option (Bool×(List (ByteArray×Int))):=Ab (Cx a0) fun x1=>if(x1 !=0)=true then some (true,k1)else Ab (Bg a0 k1) fun x2=>some ((x2.1 !=(-1)),x2.2)
theorem HB {a0 k1 r}(hm:Cn a0 k1=some r):Sp prog 50 [.d (.s a0),.pb 0 0] [.box 0 [.fn (.func 109) [] [.pb 1 0]] 113,.box 1 [.ow 2] 171,.hp 2 (.mg _ _ eS D.i k1)] 3 (is (.d (.t r.1)) [.box 1 [.ow 2] 171,.hp 2 (.mg _ _ eS D.i r.2),.box 0 [.fn (.func 109) [] [.pb 1 0]] 113] 3):=by
 refine sq ?_;intros;refine gA hm Jk fun _ q1 hm=>gspl 7 hm (fun hc1 hm=> ?_) fun hc1 hm=> ?_
 ·exact AcO hm▸gE
 refine gD hm FL fun _ q2 hm=> ?_;exact AcO hm▸gE
def B1 (a0:List ByteArray)(i1:Int)(s1:(List (ByteArray×Int))):Option (((List (ByteArray×Int)))⊕(Int×(List ByteArray)×(List (ByteArray×Int)))):=Ab (idx a0 (i1:Int)) fun x3=>Ab (Cn x3 s1) fun x4=>if x4.1=true then some (.inr ((i1:Int),a0,x4.2))else some (.inl x4.2)
def AY (a0:List ByteArray)(k1:List (ByteArray×Int)):Option (Int×(List ByteArray)×(List (ByteArray×Int))):=Ab (E6 (B1 a0) a0.length 0 k1) fun x1=>match x1 with| .inr r=>some r| .inl y1=>some ((-1),a0,y1)
theorem DF {a0 k1 r}(hm:AY a0 k1=some r):Sp prog 111 [.ow 0,.fn (.func 50) [] [.pb 1 0]] [.row 0 1 _ eS a0,.box 1 [.fn (.func 109) [] [.pb 2 0]] 113,.box 2 [.ow 3] 171,.hp 3 (.mg _ _ eS D.i k1)] 4 (is (.d (.i r.1)) [.row 0 1 _ eS r.2.1,.box 2 [.ow 3] 171,.hp 3 (.mg _ _ eS D.i r.2.2),.box 1 [.fn (.func 109) [] [.pb 2 0]] 113] 4):=by
 refine sq ?_;intros;refine oB hm fun _ q1 hm=>JR 0 (E:=eS) (xs:=a0) 6 fun hle1=>gF (EN _ _ _) q1 (fun p0 p=>⟨[(0,.ow 0),(1,.fn (.func 50) [] [.pb 1 0]),(7,.d (.i (a0.length:Int))),(8,.d (.i p0))],[(0,.row 0 1 _ eS a0),(1,.box 1 [.fn (.func 109) [] [.pb 2 0]] 113),(2,.box 2 [.ow 3] 171),(3,.hp 3 (.mg _ _ eS D.i p))],[],4⟩) fun i1 s1 Jl bl1=>cN bl1 (a0.length:Int) (fun _ q4 bl1=> ?_) fun e=> ?_
 ·refine oB q4 fun _ q6 q4=>JS (E:=eS) (fun _=>q6)<|Aad (k:=1) (fo:=0) (nn:=1) (ag:=false) (E:=eS) (fun _=>rfl) (fun _=>q6)<|gD q4 HB fun _ q7 q4=>gi q4 ?_ ?_<;>intro _ q4
  ·obtain rfl:=nT bl1 q4;exact AcO hm▸gE
  exact gT bl1 hle1 q4
 subst e;let y1:=s1;exact AcO hm▸gE
def AD (s1:Int×Int×(List (ByteArray×Int))×(List ByteArray)):Option ((Int×Int×(List (ByteArray×Int))×(List ByteArray))⊕(Int×(List (ByteArray×Int))×(List ByteArray))):=if(decide (s1.2.1<(s1.2.2.2.length:Int)))=true then Ab (Ab (idx s1.2.2.2 s1.2.1) fun x6=>Ab (Cn x6 s1.2.2.1) fun x7=>if(!x7.1)=true then Ab (idx s1.2.2.2 s1.1) fun x8=>bnd (s1.2.2.2.set s1.1.toNat x6) fun x9=>some ((w64 (s1.1+1)),x7.2,x9)else some (s1.1,x7.2,s1.2.2.2)) fun x5=>some (.inl (x5.1,(w64 (s1.2.1+1)),x5.2.1,x5.2.2))else some (.inr (s1.1,s1.2.2.1,s1.2.2.2))
def Bl (a0:List ByteArray)(k1:List (ByteArray×Int)):Option ((List ByteArray)×(List (ByteArray×Int))):=Ab (AY a0 k1) fun x1=>if(x1.1==(-1))=true then some (x1.2.1,x1.2.2)else Ab (Ab (iter AD ET (x1.1,(w64 (x1.1+1)),x1.2.2,x1.2.1)) fun x3=>some (x3.1,x3.2.1,x3.2.2)) fun x2=>Ab (clrT (ByteArray.empty:ByteArray) x2.2.2 x2.1) fun x10=>if(0:Int)≤x2.1∧x2.1≤(x10.length:Int)then some ((x10.take x2.1.toNat),x2.2.1)else none
theorem DG {a0 k1 r}(hm:Bl a0 k1=some r):Sp prog 48 [.ow 0,.fn (.func 50) [] [.pb 1 0]] [.row 0 1 _ eS a0,.box 1 [.fn (.func 109) [] [.pb 2 0]] 113,.box 2 [.ow 3] 171,.hp 3 (.mg _ _ eS D.i k1)] 4 (is (.ow 4) [.box 2 [.ow 3] 171,.hp 3 (.mg _ _ eS D.i r.2),.box 1 [.fn (.func 109) [] [.pb 2 0]] 113,.row 4 1 _ eS r.1] 5):=by
 refine sq fun D0 As η0 m0 hd=>gD hm DF fun _ q1 hm=>gi hm ?_ ?_<;>intro _ hm
 ·exact AcO hm▸gE
 obtain⟨x2,q2,hm⟩:=Ad hm;refine oB q2 fun x3 q3 q2=>gI q3 (fun(p_0,p_1,p_2,p_3)=>⟨[(0,.ow 0),(1,.fn (.func 50) [] [.pb 1 0]),(5,.d (.i p_0)),(6,.d (.i p_1))],[(0,.row 0 1 _ eS p_3),(1,.box 2 [.ow 3] 171),(2,.hp 3 (.mg _ _ eS D.i p_2)),(3,.box 1 [.fn (.func 109) [] [.pb 2 0]] 113)],[],4⟩) fun s1 _ Jl q6 bl1=>gi q6 ?_ ?_<;>intro _ q6
 ·refine oB q6 fun x5 q8 q6=>gjU 1 (fun(_:Unit)=>let (y_0,y_1,y_2):=x5; ⟨[(0,.ow 0),(1,.fn (.func 50) [] [.pb 1 0]),(5,.d (.i y_0)),(6,.d (.i s1.2.1))],[(0,.row 0 1 _ eS y_2),(1,.box 2 [.ow 3] 171),(2,.hp 3 (.mg _ _ eS D.i y_1)),(3,.box 1 [.fn (.func 109) [] [.pb 2 0]] 113)],[],4⟩) (fun _=>True) (fun Jp bk3=> ?_) fun _ _=> ?_
  ·refine oB q8 fun x6 q9 q8=>JS (E:=eS) (fun _=>q9)<|Aad (k:=1) (fo:=0) (nn:=1) (ag:=false) (E:=eS) (fun _=>rfl) (fun _=>q9)<|gD q8 HB fun _ q10 q8=>gi q8 ?_ ?_<;>intro _ q8
   ·refine oB q8 fun _ q11 q8=>JS (E:=eS) (fun _=>q11)<|bE q8 ?_;intro _ q8;refine gstO (k:=1) (E:=eS) x6 (fun _=>rfl) q11 ?_;obtain rfl:=AcO q8;exact gb bk3 hd () trivial
   obtain rfl:=AcO q8;exact gb bk3 hd () trivial
  exact gN bl1 q6
 obtain rfl:=nR bl1 q6;let x3:=(s1.1,s1.2.2.1,s1.2.2.2);obtain rfl:=AcO q2;refine oB hm fun _ q13 hm=>gclr eS (ByteArray.empty:ByteArray) (.s ByteArray.empty) q13 ?_;obtain⟨⟨q14,q15⟩,hm⟩:=AR hm;refine gcO eS 1 q14 q15 ?_;exact AcO hm▸gE
def FB (a0:List g_api_Rule)(a1:List ByteArray):Option (List ByteArray):=Ab (BX a0) fun x1=>Ab (BF a1) fun x2=>Ab (Bl x2 x1) fun x3=>some x3.1
theorem N9 {a0 a1 r}(hm:FB a0 a1=some r):Sp prog 13 [sl Ac a0,sl eS a1] [] 0 (is (.ow 0) [.row 0 1 _ eS r] 1):=by
 refine sq ?_;intros;refine gD hm GA fun _ q1 hm=>gD hm Fp fun _ q2 hm=>gD hm DG fun _ q3 hm=> ?_;exact AcO hm▸gE
def Di (x11:AL×Int)(x12:AL×Int)(i1:Int)(s1:Unit):Option ((Unit)⊕Bool):=Ab (idx x11.1.By (i1:Int)) fun x15=>Ab (idx x12.1.By (i1:Int)) fun x16=>if(x15 !=x16)=true then some (.inr false)else some (.inl ())
def Dn (a0:List UInt8)(a1:AG):Option Bool:=Ab (JB) fun x1=>if(!x1)=true then some false else Ab (gu (!(decide ((a0.length:Int)>3000))) (Fu a1)) fun x2=>if((decide ((a0.length:Int)>3000))||(!x2))=true then some true else Ab (BQ a0) fun x3=>if(x3.2.2 !=0)=true then some ((x3.1.length:Int)==0)else Ab (Bv x3.1) fun x4=>if(x4.2 !=0)=true then if(x4.2==160)=true then Ab (BJ x3.1) fun x5=>bnd ((decide ((x5.length:Int)>0))) fun x6=>some x6 else some false else Ab (Dq x3.1) fun x7=>Ab (BQ x7.1) fun x8=>Ab (gu (!((x7.2 !=0)||(x8.2.2 !=0))) (FX x3.1 x8.1)) fun x9=>if(((x7.2 !=0)||(x8.2.2 !=0))||(!x9))=true then some false else Ab (BJ x3.1) fun x10=>if((x10.length:Int) !=0)=true then some false else Ab (Ei x4.1 a1) fun x11=>Ab (EK x8.1 a1) fun x12=>if((((x11.2 !=x12.2)||(x11.1.Allow !=x12.1.Allow))||(x11.1.At !=x12.1.At))||((x11.1.By.length:Int) !=(x12.1.By.length:Int)))=true then some false else Ab (E6 (Di x11 x12) x11.1.By.length 0 ()) fun x13=>match x13 with| .inr r=>some r| .inl y1=>if((x11.2 !=0)||(!x11.1.Allow))=true then some true else Ab (FB x3.1 a1.Names) fun x17=>some ((x17.length:Int)==0)
theorem LF {a0 a1 r}(hm:Dn a0 a1=some r):Sf prog 3 [sl eB a0,ag (DB a1)] (.d (.t r)):=by
 refine sq ?_;intros;refine gA hm X2 fun _ q1 hm=>gi hm ?_ ?_<;>intro _ hm
 ·exact AcO hm▸gE
 refine oB hm fun _ q2 hm=>gcH q2 N2<|gi hm ?_ ?_<;>intro _ hm
 ·exact AcO hm▸gE
 refine gA hm Hx fun x3 q3 hm=>gi hm ?_ ?_<;>intro _ hm
 ·exact AcO hm▸gE
 refine gA hm Hf fun x4 q4 hm=>gi hm ?_ ?_<;>intro _ hm
 ·refine gspl 50 hm (fun hc5 hm=> ?_) fun hc5 hm=> ?_
  ·refine gD hm Gp fun _ q5 hm=>bE hm ?_;intro _ hm;exact AcO hm▸gE
  exact AcO hm▸gE
 refine gA hm PX fun _ q7 hm=>gA hm Hx fun _ q8 hm=>oB hm fun _ q9 hm=>gcH q9 Rh<|gspl 79 hm (fun hc6 hm=> ?_) fun hc6 hm=> ?_
 ·refine gi' (b:=true) (fun _=> ?_) (fun h=>by cases h);exact AcO hm▸gE
 refine gD hm Gp fun _ q10 hm=>gi hm ?_ ?_<;>intro _ hm
 ·exact AcO hm▸gE
 refine gA hm LJ fun x11 q11 hm=>gA hm MZ fun x12 q12 hm=>gi hm ?_ ?_<;>intro _ hm
 ·exact AcO hm▸gE
 refine oB hm fun _ q13 hm=>JR 0 (E:=eI) (xs:=x11.1.By) 124 fun hle1=>gF (EN _ _ _) q13 (fun p0 _=>⟨[(3,.pb 0 0),(5,sl Ac x3.1),(15,.pb 2 0),(16,.d (.i x11.2)),(17,.pb 3 0),(125,.d (.i (x11.1.By.length:Int))),(126,.d (.i p0)),(8,.pb 1 0)],[(0,.box 3 [.d (.t x12.1.Allow),.d (.i x12.1.At),sl eI x12.1.By] 45),(1,.box 2 [.d (.t x11.1.Allow),.d (.i x11.1.At),sl eI x11.1.By] 45),(2,.box 1 [sl Ac x4.1.Rules,sl Ao x4.1.Nodes] 35),(3,.box 0 [.d (.i a1.Account),sl eS a1.Names,.d (.u a1.Key),.d (.i a1.Life)] 26)],[],4⟩) fun i1 s1 Jl bl1=>cN bl1 (x11.1.By.length:Int) (fun _ q16 bl1=> ?_) fun e=> ?_
 ·refine oB q16 fun _ q18 q16=>gx eI 1 q18<|oB q16 fun _ q19 q16=>gx eI 1 q19<|gi q16 ?_ ?_<;>intro _ q16
  ·obtain rfl:=nT bl1 q16;exact AcO hm▸gE
  exact gT bl1 hle1 q16
 subst e;refine gspl 148 hm (fun hc11 hm=> ?_) fun hc11 hm=> ?_
 ·exact AcO hm▸gE
 refine gD hm N9 fun _ q20 hm=> ?_;exact AcO hm▸gE
end Go.Proofs.YtflnolcabkandaaGreatDoor
