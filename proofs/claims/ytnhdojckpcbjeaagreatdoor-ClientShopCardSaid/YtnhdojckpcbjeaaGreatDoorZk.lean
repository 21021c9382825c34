/- The walks of some functions, by the executor, written by program. Conditions: none. -/
import Derived.Test.YtnhdojckpcbjeaaGreatDoorZh
import Derived.Test.YtnhdojckpcbjeaaGreatDoorZi
import Derived.Test.YtnhdojckpcbjeaaGreatDoorZj
set_option linter.unusedSimpArgs false
set_option linter.unusedVariables false
set_option maxHeartbeats 20000000
set_option maxRecDepth 100000
namespace Go.Proofs.YtnhdojckpcbjeaaGreatDoor
open Go Go.Gw Go.Ax Tryz
attribute [local irreducible] Go.Ax.Go
def Bu (a0:List g_api_Head):Option (List g_api_Head):=Ab (app 56 ([]:List g_api_Head) a0) fun x1=>some x1
theorem H7 {a0 r}(hm:Bu a0=some r):Sp prog 120 [sl Af a0] [] 0 (is (.ow 0) [.row 0 7 _ Af r] 1):=by
 refine sq ?_;intros;unfold Bu at hm;refine gnq Af a0 (fun he1=> ?_) ?_
 ·rw[he1]at hm;replace hm:(some ([]:List g_api_Head))=some _:=hm;refine R0 Af 2 7 ?_;exact AlC hm▸gE
 refine AaP (k:=7) Af ([]:List g_api_Head) (fun _=>rfl)<|oB hm fun _ q1 hm=>gp Af 7 q1 ?_;exact AlC hm▸gE
def Ah (a0:List g_api_Head)(a1:g_api_Head)(s1:Int×Int):Option ((Int×Int)⊕(Int)):=if(decide (s1.1<s1.2))=true then bnd ((w64 ((Ev (toU (w64 (s1.1+s1.2))) 1).toNat:Int))) fun x4=>Ab (idx a0 x4) fun x5=>Ab (Fi x5 a1) fun x6=>if(decide (x6<0))=true then some (.inl ((w64 (x4+1)),s1.2))else some (.inl (s1.1,x4))else some (.inr s1.1)
def Az (a0:List g_api_Head)(a1:g_api_Head):Option (Int×Bool):=Ab (Ab (iter (Ah a0 a1) Fx (0,(a0.length:Int))) fun x2=>some x2) fun x1=>Ab (gu (decide (x1<(a0.length:Int))) (idx a0 x1)) fun x7=>Ab (gu (decide (x1<(a0.length:Int))) (Fi x7 a1)) fun x8=>bnd (((decide (x1<(a0.length:Int)))&&(x8==0))) fun x9=>some (x1,x9)
theorem C8 {a0 a1 r}(hm:Az a0 a1=some r):Sf prog 117 [sl Af a0,ag (Af a1),.fn (.func 118) [] []] (.tup [.d (.i r.1),.d (.t r.2)]):=by
 refine sq ?_;intros;unfold Az at hm;obtain⟨x1,q1,hm⟩:=Ae hm;refine oB q1 fun x2 q2 q1=>gI q2 (fun(p_0,p_1)=>⟨[(0,sl Af a0),(2,.fn (.func 118) [] []),(4,.pb 0 0),(8,.d (.i (a0.length:Int))),(9,.d (.i p_0)),(10,.d (.i p_1))],[(0,.box 0 [.d (.i a1.Log),.d (.i a1.Size),.d (.u a1.Root.1),.d (.u a1.Root.2),.d (.i a1.At),.d (.u a1.Sig.E),.d (.u a1.Sig.S)] 38)],[],1⟩) fun s1 _ Jl q5 bl1=>gi q5 ?_ ?_<;>intro _ q5
 ·refine bE q5 ?_;intro _ q5;refine oB q5 fun _ q8 q5=>gx Af 7 q8<|gA q5 KH fun _ q9 q5=>gi q5 ?_ ?_<;>intro _ q5
  ·exact gN bl1 q5
  exact gN bl1 q5
 obtain rfl:=nR bl1 q5;let x2:=s1.1;obtain rfl:=AlC q1;refine oB hm fun _ q10 hm=>gxG Af 7 q10<|oB hm fun _ q11 hm=>gcH q11 KH<|bE hm ?_;intro _ hm;exact AlC hm▸gE
def KA (a0:g_api_Pool)(a1:g_api_Head)(a2:List g_api_Key):Option (g_api_Pool×Int):=Ab (GX a0 a2) fun x1=>if(x1 !=0)=true then some ((⟨[]⟩:g_api_Pool),x1)else Ab (GW a1 a2) fun x2=>if(!x2)=true then some ((⟨[]⟩:g_api_Pool),40)else Ab (Az a0.L a1) fun x3=>if x3.2=true then some (a0,0)else bnd ((decide ((a0.L.length:Int)≥1024))) fun x4=>if x4=true then some ((⟨[]⟩:g_api_Pool),2)else Ab (Bu a0.L) fun x5=>Ab (A0 x5 x3.1 ([a1]:List g_api_Head)) fun x6=>some ((⟨x6⟩:g_api_Pool),0)
theorem VW {a0 a1 a2 r}(hm:KA a0 a1 a2=some r):Sf prog 40 [ag (Nv a0),ag (Af a1),sl Ai a2] (.tup [ag (Nv r.1),.d (.i r.2)]):=by
 refine sq ?_;intros;refine gA hm NI fun _ q1 hm=>gi hm ?_ ?_<;>intro _ hm
 ·exact AlC hm▸gE
 refine gA hm NH fun _ q2 hm=>gi hm ?_ ?_<;>intro _ hm
 ·exact AlC hm▸gE
 refine gA hm C8 fun _ q3 hm=>gi hm ?_ ?_<;>intro _ hm
 ·exact AlC hm▸gE
 refine bE hm ?_;intro _ hm;refine gi hm ?_ ?_<;>intro _ hm
 ·exact AlC hm▸gE
 refine gD hm H7 fun _ q5 hm=>gq Af 7 [a1]<|gD hm HI fun _ q6 hm=> ?_;exact AlC hm▸gE
def Ed (a0:g_api_Client)(a1:g_api_Head):Option (g_api_Client×Int):=Ab (m_client_Check a0) fun x1=>if(x1 !=0)=true then some ((⟨ByteArray.empty,[],[],(⟨[]⟩:g_api_Pool),(⟨0,[]⟩:g_api_Cascade),0⟩:g_api_Client),x1)else Ab (KA a0.Pool a1 a0.Logs) fun x2=>if(x2.2 !=0)=true then some ((⟨ByteArray.empty,[],[],(⟨[]⟩:g_api_Pool),(⟨0,[]⟩:g_api_Cascade),0⟩:g_api_Client),x2.2)else some ((⟨a0.Who,a0.Roots,a0.Logs,x2.1,a0.Cascade,a0.View⟩:g_api_Client),x2.2)
theorem OD {a0 a1 r}(hm:Ed a0 a1=some r):Sf prog 15 [ag (Gd a0),ag (Af a1)] (.tup [ag (Gd r.1),.d (.i r.2)]):=by
 refine sq ?_;intros;refine gA hm GN fun _ q1 hm=>gi hm ?_ ?_<;>intro _ hm
 ·exact AlC hm▸gE
 refine gA hm VW fun _ q2 hm=>gi hm ?_ ?_<;>intro _ hm
 ·exact AlC hm▸gE
 exact AlC hm▸gE
def Fk (k0:g_api_Client):Option (Int×g_api_Client):=Ab (m_client_Check k0) fun x1=>some (x1,k0)
theorem SL {k0 r}(hm:Fk k0=some r):Sp prog 43 [.pb 0 0] [.box 0 [.d (.s k0.Who),sl Ac k0.Roots,sl Ai k0.Logs,sl Af k0.Pool.L,.d (.i k0.Cascade.Day),sl Ag k0.Cascade.Levels,.d (.i k0.View)] 31] 1 (is (.d (.i r.1)) [.box 0 [.d (.s r.2.Who),.d (.sl _ Ac r.2.Roots),.d (.sl _ Ai r.2.Logs),.d (.sl _ Af r.2.Pool.L),.d (.i r.2.Cascade.Day),.d (.sl _ Ag r.2.Cascade.Levels),.d (.i r.2.View)] 31] 1):=by
 refine sq ?_;intros;refine gA hm GN fun _ q1 hm=> ?_;exact AlC hm▸gE
def Fj (k0:g_api_Cascade):Option (Int×g_api_Cascade):=Ab (AN k0) fun x1=>some (x1,k0)
theorem SK {k0 r}(hm:Fj k0=some r):Sp prog 44 [.pb 0 0] [.box 0 [.d (.i k0.Day),sl Ag k0.Levels] 29] 1 (is (.d (.i r.1)) [.box 0 [.d (.i r.2.Day),.d (.sl _ Ag r.2.Levels)] 29] 1):=by
 refine sq ?_;intros;refine gA hm JJ fun _ q1 hm=> ?_;exact AlC hm▸gE
def AL (i1:Int)(s1:ByteArray×(List g_api_Cert)×(List g_api_Key)×(List g_api_Head)×Int×(List g_api_Sieve)×Int×Int×(List g_api_Sieve)):Option ((ByteArray×(List g_api_Cert)×(List g_api_Key)×(List g_api_Head)×Int×(List g_api_Sieve)×Int×Int×(List g_api_Sieve))⊕(Int×g_api_Client×g_api_Cascade)):=if i1=0 then Ab (Fk (⟨s1.1,s1.2.1,s1.2.2.1,(⟨s1.2.2.2.1⟩:g_api_Pool),(⟨s1.2.2.2.2.1,s1.2.2.2.2.2.1⟩:g_api_Cascade),s1.2.2.2.2.2.2.1⟩:g_api_Client)) fun x3=>if(x3.1 !=0)=true then some (.inr (x3.1,x3.2,(⟨s1.2.2.2.2.2.2.2.1,s1.2.2.2.2.2.2.2.2⟩:g_api_Cascade)))else some (.inl (x3.2.Who,x3.2.Roots,x3.2.Logs,x3.2.Pool.L,x3.2.Cascade.Day,x3.2.Cascade.Levels,x3.2.View,s1.2.2.2.2.2.2.2.1,s1.2.2.2.2.2.2.2.2))else Ab (Fj (⟨s1.2.2.2.2.2.2.2.1,s1.2.2.2.2.2.2.2.2⟩:g_api_Cascade)) fun x4=>if(x4.1 !=0)=true then some (.inr (x4.1,(⟨s1.1,s1.2.1,s1.2.2.1,(⟨s1.2.2.2.1⟩:g_api_Pool),(⟨s1.2.2.2.2.1,s1.2.2.2.2.2.1⟩:g_api_Cascade),s1.2.2.2.2.2.2.1⟩:g_api_Client),x4.2))else some (.inl (s1.1,s1.2.1,s1.2.2.1,s1.2.2.2.1,s1.2.2.2.2.1,s1.2.2.2.2.2.1,s1.2.2.2.2.2.2.1,x4.2.Day,x4.2.Levels))
def F5 (k0:g_api_Client)(k1:g_api_Cascade):Option (Int×g_api_Client×g_api_Cascade):=Ab (BV AL 2 0 (k0.Who,k0.Roots,k0.Logs,k0.Pool.L,k0.Cascade.Day,k0.Cascade.Levels,k0.View,k1.Day,k1.Levels)) fun x1=>match x1 with| .inr r=>some r| .inl y1=>some (0,(⟨y1.1,y1.2.1,y1.2.2.1,(⟨y1.2.2.2.1⟩:g_api_Pool),(⟨y1.2.2.2.2.1,y1.2.2.2.2.2.1⟩:g_api_Cascade),y1.2.2.2.2.2.2.1⟩:g_api_Client),(⟨y1.2.2.2.2.2.2.2.1,y1.2.2.2.2.2.2.2.2⟩:g_api_Cascade))
theorem Ms {k0 k1 r}(hm:F5 k0 k1=some r):Sp prog 42 [.bs 0 0 2 2] [.box 0 [.fn (.func 43) [] [.pb 1 0],.fn (.func 44) [] [.pb 2 0]] 106,.box 1 [.d (.s k0.Who),sl Ac k0.Roots,sl Ai k0.Logs,sl Af k0.Pool.L,.d (.i k0.Cascade.Day),sl Ag k0.Cascade.Levels,.d (.i k0.View)] 31,.box 2 [.d (.i k1.Day),sl Ag k1.Levels] 29] 3 (is (.d (.i r.1)) [.box 1 [.d (.s r.2.1.Who),.d (.sl _ Ac r.2.1.Roots),.d (.sl _ Ai r.2.1.Logs),.d (.sl _ Af r.2.1.Pool.L),.d (.i r.2.1.Cascade.Day),.d (.sl _ Ag r.2.1.Cascade.Levels),.d (.i r.2.1.View)] 31,.box 2 [.d (.i r.2.2.Day),.d (.sl _ Ag r.2.2.Levels)] 29] 3):=by
 refine sq ?_;intros;refine oB hm fun _ q1 hm=>gF (EN _ 2 _) q1 (fun p0 (p_0,p_1,p_2,p_3,p_4,p_5,p_6,p_7,p_8)=>⟨[(6,.bs 0 0 2 2),(7,.d (.i 2)),(8,.d (.i p0))],[(0,.box 0 [.fn (.func 43) [] [.pb 1 0],.fn (.func 44) [] [.pb 2 0]] 106),(1,.box 1 [.d (.s p_0),sl Ac p_1,sl Ai p_2,sl Af p_3,.d (.i p_4),sl Ag p_5,.d (.i p_6)] 31),(2,.box 2 [.d (.i p_7),sl Ag p_8] 29)],[],3⟩) fun i1 s1 Jl bl1=>cN bl1 (2:Int) (fun _ q4 bl1=> ?_) fun e=> ?_
 ·obtain rfl|rfl:i1=0∨i1=1:=by have h:=bl1.1.1; change i1<2 at h; omega
  ·refine gD q4 SL fun _ q6 q4=>gi q4 ?_ ?_<;>intro _ q4
   ·obtain rfl:=nT bl1 q4;exact AlC hm▸gE
   exact gT bl1 lk q4
  refine gD q4 SK fun _ q7 q4=>gi q4 ?_ ?_<;>intro _ q4
  ·obtain rfl:=nT bl1 q4;exact AlC hm▸gE
  exact gT bl1 lk q4
 subst e;let y1:=s1;exact AlC hm▸gE
def Cm (a0:g_api_Client)(a1:g_api_Cascade):Option (g_api_Client×Int):=Ab (F5 a0 a1) fun x1=>if(x1.1 !=0)=true then some ((⟨ByteArray.empty,[],[],(⟨[]⟩:g_api_Pool),(⟨0,[]⟩:g_api_Cascade),0⟩:g_api_Client),x1.1)else bnd ((decide (x1.2.2.Day<x1.2.1.Cascade.Day))) fun x2=>if x2=true then some ((⟨ByteArray.empty,[],[],(⟨[]⟩:g_api_Pool),(⟨0,[]⟩:g_api_Cascade),0⟩:g_api_Client),190)else some ((⟨x1.2.1.Who,x1.2.1.Roots,x1.2.1.Logs,x1.2.1.Pool,x1.2.2,x1.2.1.View⟩:g_api_Client),x1.1)
theorem Kl {a0 a1 r}(hm:Cm a0 a1=some r):Sf prog 17 [ag (Gd a0),ag (Jt a1)] (.tup [ag (Gd r.1),.d (.i r.2)]):=by
 refine sq ?_;intros;refine gfs<|gD hm Ms fun _ q1 hm=>gi hm ?_ ?_<;>intro _ hm
 ·exact AlC hm▸gE
 refine bE hm ?_;intro _ hm;refine gi hm ?_ ?_<;>intro _ hm
 ·exact AlC hm▸gE
 exact AlC hm▸gE
def DE (k0:g_api_Client):Option (Int×g_api_Client):=Ab (m_client_Check k0) fun x1=>some (x1,k0)
theorem Pw {k0 r}(hm:DE k0=some r):Sp prog 58 [.pb 0 0] [.box 0 [.d (.s k0.Who),sl Ac k0.Roots,sl Ai k0.Logs,sl Af k0.Pool.L,.d (.i k0.Cascade.Day),sl Ag k0.Cascade.Levels,.d (.i k0.View)] 31] 1 (is (.d (.i r.1)) [.box 0 [.d (.s r.2.Who),.d (.sl _ Ac r.2.Roots),.d (.sl _ Ai r.2.Logs),.d (.sl _ Af r.2.Pool.L),.d (.i r.2.Cascade.Day),.d (.sl _ Ag r.2.Cascade.Levels),.d (.i r.2.View)] 31] 1):=by
 refine sq ?_;intros;refine gA hm GN fun _ q1 hm=> ?_;exact AlC hm▸gE
def Gq (i1:Int)(x2:Fv)(s1:Unit):Option ((Unit)⊕Int):=Ab (GY x2) fun x3=>if(x3 !=0)=true then some (.inr x3)else some (.inl ())
def PJ (a0:List Fv):Option Int:=Ab (DK Gq a0 0 ()) fun x1=>match x1 with| .inr r=>some r| .inl y1=>some 0
theorem Aab {a0 r}(hm:PJ a0=some r):Sf prog 71 [sl O4 a0] (.d (.i r)):=by
 refine sq ?_;intros;refine oB hm fun _ q1 hm=>IU 0 (E:=O4) (xs:=a0) 6 fun hle1=>gF (ER _ _ _) q1 (fun p0 _=>⟨[(6,sl O4 a0),(7,.d (.i (a0.length:Int))),(8,.d (.i p0))],[],[],0⟩) fun i1 s1 Jl bl1=>cR bl1 (fun _ _ q5 q4 bl1=> ?_) fun e=> ?_
 ·refine gx O4 1 q5<|oB q4 fun _ q6 q4=>gdyc (fun _=>Abx q6)<|gi q4 ?_ ?_<;>intro _ q4
  ·obtain rfl:=nT bl1 q4;exact AlC hm▸gE
  exact gT bl1 hle1 q4
 subst e;exact AlC hm▸gE
def m_path_Check (a0:List g_api_Cert)(a1:List g_api_Cert)(a2:ByteArray)(a3:Int):Option Int:=Ab (PJ ([(⟨72,(⟨a0,a1,a2,a3⟩:g_path_trip)⟩:Fv),(⟨73,(⟨a0,a1,a2,a3⟩:g_path_trip)⟩:Fv),(⟨74,(⟨a0,a1,a2,a3⟩:g_path_trip)⟩:Fv),(⟨75,(⟨a0,a1,a2,a3⟩:g_path_trip)⟩:Fv),(⟨76,(⟨a0,a1,a2,a3⟩:g_path_trip)⟩:Fv)]:List Fv)) fun x1=>some x1
theorem VN {a0 a1 a2 a3 r}(hm:m_path_Check a0 a1 a2 a3=some r):Sf prog 24 [sl Ac a0,sl Ac a1,.d (.s a2),.d (.i a3)] (.d (.i r)):=by
 refine sq ?_;intros;refine gq O4 1 [(⟨72,(⟨a0,a1,a2,a3⟩:g_path_trip)⟩:Fv),(⟨73,(⟨a0,a1,a2,a3⟩:g_path_trip)⟩:Fv),(⟨74,(⟨a0,a1,a2,a3⟩:g_path_trip)⟩:Fv),(⟨75,(⟨a0,a1,a2,a3⟩:g_path_trip)⟩:Fv),(⟨76,(⟨a0,a1,a2,a3⟩:g_path_trip)⟩:Fv)]<|gA hm Aab fun _ q1 hm=> ?_;exact AlC hm▸gE
def DD (k0:Int)(k1:g_api_Client)(k2:g_api_Offer)(k3:ByteArray):Option (Int×Int×g_api_Client×g_api_Offer×ByteArray):=Ab (Cx k0) fun x1=>if(!x1)=true then some (1,k0,k1,k2,k3)else Ab (m_path_Check k1.Roots k2.Path k3 k0) fun x2=>some (x2,k0,k1,k2,k3)
theorem Pv {k0 k1 k2 k3 r}(hm:DD k0 k1 k2 k3=some r):Sp prog 59 [.pb 0 0,.pb 1 0,.pb 2 0,.pb 3 0] [.box 0 [.d (.i k0)] 3,.box 1 [.d (.s k1.Who),sl Ac k1.Roots,sl Ai k1.Logs,sl Af k1.Pool.L,.d (.i k1.Cascade.Day),sl Ag k1.Cascade.Levels,.d (.i k1.View)] 31,.box 2 [sl Ac k2.Path,sl A6 k2.Where] 52,.box 3 [.d (.s k3)] 9] 4 (is (.d (.i r.1)) [.box 0 [.d (.i r.2.1)] 3,.box 1 [.d (.s r.2.2.1.Who),.d (.sl _ Ac r.2.2.1.Roots),.d (.sl _ Ai r.2.2.1.Logs),.d (.sl _ Af r.2.2.1.Pool.L),.d (.i r.2.2.1.Cascade.Day),.d (.sl _ Ag r.2.2.1.Cascade.Levels),.d (.i r.2.2.1.View)] 31,.box 2 [.d (.sl _ Ac r.2.2.2.1.Path),.d (.sl _ A6 r.2.2.2.1.Where)] 52,.box 3 [.d (.s r.2.2.2.2)] 9] 4):=by
 refine sq ?_;intros;refine gA hm FN fun _ q1 hm=>gi hm ?_ ?_<;>intro _ hm
 ·exact AlC hm▸gE
 refine gA hm VN fun _ q2 hm=> ?_;exact AlC hm▸gE
def It (a0:g_api_Cert):Option ((List UInt8)×Int):=Ab (Cn a0) fun x1=>if(x1 !=0)=true then some (([]:List UInt8),x1)else Ab (Ll a0) fun x2=>Ab (JY x2) fun x3=>some (x3.1,x3.2)
theorem Py {a0 r}(hm:It a0=some r):Sp prog 151 [ag (Ac a0),.fn (.func 152) [] []] [] 0 (is (.tup [.ow 0,.d (.i r.2)]) [.row 0 1 _ eB r.1] 1):=by
 refine sq ?_;intros;refine gA hm FO fun _ q1 hm=>gi hm ?_ ?_<;>intro _ hm
 ·refine R0 eB 4 1 ?_;exact AlC hm▸gE
 refine gA hm Tm fun _ q2 hm=>gD hm Q7 fun _ q3 hm=> ?_;exact AlC hm▸gE
def Jy (a0:g_api_Cert):Option ((List UInt8)×Int):=Ab (It a0) fun x1=>some (x1.1,x1.2)
theorem Tn {a0 r}(hm:Jy a0=some r):Sp prog 77 [ag (Ac a0)] [] 0 (is (.tup [.ow 0,.d (.i r.2)]) [.row 0 1 _ eB r.1] 1):=by
 refine sq ?_;intros;refine gD hm Py fun _ q1 hm=> ?_;exact AlC hm▸gE
def C5 (a0:List UInt8):Option (UInt64×UInt64):=Ab (Cc (⟨#[108,101,97,102]⟩:ByteArray) ([a0]:List (List UInt8))) fun x1=>some x1
theorem Jd {a0 r}(hm:C5 a0=some r):Sf prog 78 [sl eB a0] (ag (Ar r)):=by
 refine sq ?_;intros;refine gq (eL eB) 1 [a0]<|gA hm EP fun _ q1 hm=> ?_;exact AlC hm▸gE
def m_cert_Leaf (a0:g_api_Cert):Option ((UInt64×UInt64)×Int):=Ab (Jy a0) fun x1=>if(x1.2 !=0)=true then some ((0,0),x1.2)else Ab (C5 x1.1) fun x2=>some (x2,0)
theorem Xu {a0 r}(hm:m_cert_Leaf a0=some r):Sf prog 25 [ag (Ac a0)] (.tup [ag (Ar r.1),.d (.i r.2)]):=by
 refine sq ?_;intros;refine gD hm Tn fun _ q1 hm=>gi hm ?_ ?_<;>intro _ hm
 ·exact AlC hm▸gE
 refine gD hm Jd fun _ q2 hm=> ?_;exact AlC hm▸gE
def DC (k0:g_api_Offer)(k1:UInt64×UInt64):Option (Int×g_api_Offer×(UInt64×UInt64)):=Ab (idx k0.Path 0) fun x1=>Ab (m_cert_Leaf x1) fun x2=>some (x2.2,k0,x2.1)
theorem Pu {k0 k1 r}(hm:DC k0 k1=some r):Sp prog 61 [.pb 0 0,.pb 1 0] [.box 0 [sl Ac k0.Path,sl A6 k0.Where] 52,.box 1 [.d (.u k1.1),.d (.u k1.2)] 34] 2 (is (.d (.i r.1)) [.box 0 [.d (.sl _ Ac r.2.1.Path),.d (.sl _ A6 r.2.1.Where)] 52,.box 1 [.d (.u r.2.2.1),.d (.u r.2.2.2)] 34] 2):=by
 refine sq ?_;intros;refine oB hm fun _ q1 hm=>gx Ac 13 q1<|gA hm Xu fun _ q2 hm=> ?_;exact AlC hm▸gE
def D2 (a0:g_api_Promise):Option (List UInt8):=Ab (D6 a0.Log) fun x1=>Ab (D6 a0.At) fun x2=>Ab (EJ a0.Leaf) fun x3=>Ab (Lh (⟨#[112,114,111,109,105,115,101]⟩:ByteArray) ([x1,x2,x3]:List (List UInt8))) fun x4=>some x4
theorem IY {a0 r}(hm:D2 a0=some r):Sp prog 155 [ag (Ad a0)] [] 0 (is (.ow 0) [.row 0 1 _ eB r] 1):=by
 refine sq ?_;intros;refine gD hm IF fun x1 q1 hm=>gD hm IF fun x2 q2 hm=>gD hm Kj fun x3 q3 hm=>AaO (k:=1) (eL eB) ([x1,x2,x3]:List (List UInt8)) (fun _=>rfl)<|gD hm Ti fun _ q4 hm=> ?_;exact AlC hm▸gE
def C0 (a0:g_api_Key)(a1:g_api_Promise):Option Int:=Ab (Dp a1.At) fun x1=>Ab (D2 a1) fun x2=>Ab (EV a0 a1.Log x1 x2 a1.Sig) fun x3=>some x3
theorem NT {a0 a1 r}(hm:C0 a0 a1=some r):Sf prog 79 [ag (Ai a0),ag (Ad a1)] (.d (.i r)):=by
 refine sq ?_;intros;refine gA hm EO fun _ q1 hm=>gD hm IY fun _ q2 hm=>gD hm Ov fun _ q3 hm=> ?_;exact AlC hm▸gE
def Ei (a0:g_api_Key)(k0:g_api_Promise):Option (Bool×g_api_Promise):=some ((a0.Log==k0.Log),k0)
theorem KI {a0 k0 r}(hm:Ei a0 k0=some r):Sp prog 140 [ag (Ai a0),.pb 0 0] [.box 0 [.d (.i k0.Log),.d (.i k0.At),.d (.u k0.Leaf.1),.d (.u k0.Leaf.2),.d (.u k0.Sig.E),.d (.u k0.Sig.S)] 63] 1 (is (.d (.t r.1)) [.box 0 [.d (.i r.2.Log),.d (.i r.2.At),.d (.u r.2.Leaf.1),.d (.u r.2.Leaf.2),.d (.u r.2.Sig.E),.d (.u r.2.Sig.S)] 63] 1):=by
 refine sq ?_;intros;exact AlC hm▸gE
def AO (a0:List g_api_Key)(i1:Int)(s1:Int×Int×UInt64×UInt64×UInt64×UInt64):Option ((Int×Int×UInt64×UInt64×UInt64×UInt64)⊕(Int×g_api_Promise)):=Ab (idx a0 (i1:Int)) fun x3=>Ab (Ei x3 (⟨s1.1,s1.2.1,(s1.2.2.1,s1.2.2.2.1),(⟨s1.2.2.2.2.1,s1.2.2.2.2.2⟩:g_api_Sig)⟩:g_api_Promise)) fun x4=>if x4.1=true then some (.inr ((i1:Int),x4.2))else some (.inl (x4.2.Log,x4.2.At,x4.2.Leaf.1,x4.2.Leaf.2,x4.2.Sig.E,x4.2.Sig.S))
def Au (a0:List g_api_Key)(k0:g_api_Promise):Option (Int×g_api_Promise):=Ab (BV (AO a0) a0.length 0 (k0.Log,k0.At,k0.Leaf.1,k0.Leaf.2,k0.Sig.E,k0.Sig.S)) fun x1=>match x1 with| .inr r=>some r| .inl y1=>some ((-1),(⟨y1.1,y1.2.1,(y1.2.2.1,y1.2.2.2.1),(⟨y1.2.2.2.2.1,y1.2.2.2.2.2⟩:g_api_Sig)⟩:g_api_Promise))
theorem FM {a0 k0 r}(hm:Au a0 k0=some r):Sp prog 139 [sl Ai a0,.fn (.func 140) [] [.pb 0 0]] [.box 0 [.d (.i k0.Log),.d (.i k0.At),.d (.u k0.Leaf.1),.d (.u k0.Leaf.2),.d (.u k0.Sig.E),.d (.u k0.Sig.S)] 63] 1 (is (.d (.i r.1)) [.box 0 [.d (.i r.2.Log),.d (.i r.2.At),.d (.u r.2.Leaf.1),.d (.u r.2.Leaf.2),.d (.u r.2.Sig.E),.d (.u r.2.Sig.S)] 63] 1):=by
 refine sq ?_;intros;refine oB hm fun _ q1 hm=>IU 0 (E:=Ai) (xs:=a0) 6 fun hle1=>gF (EN _ _ _) q1 (fun p0 (p_0,p_1,p_2,p_3,p_4,p_5)=>⟨[(0,sl Ai a0),(1,.fn (.func 140) [] [.pb 0 0]),(7,.d (.i (a0.length:Int))),(8,.d (.i p0))],[(0,.box 0 [.d (.i p_0),.d (.i p_1),.d (.u p_2),.d (.u p_3),.d (.u p_4),.d (.u p_5)] 63)],[],1⟩) fun i1 s1 Jl bl1=>cN bl1 (a0.length:Int) (fun _ q4 bl1=> ?_) fun e=> ?_
 ·refine oB q4 fun _ q6 q4=>gx Ai 3 q6<|gD q4 KI fun _ q7 q4=>gi q4 ?_ ?_<;>intro _ q4
  ·obtain rfl:=nT bl1 q4;exact AlC hm▸gE
  exact gT bl1 hle1 q4
 subst e;let y1:=s1;exact AlC hm▸gE
def BL (a0:Aj)(a2:UInt64×UInt64)(i1:Int)(x3:g_api_Promise)(s1:(List g_api_Promise)):Option ((List g_api_Promise)):=Ab (Ab (Au a0.Client.Logs x3) fun x5=>Ab (gu ((decide (x5.1≥0))&&(Na x5.2.Leaf a2)) (idx a0.Client.Logs x5.1)) fun x6=>Ab (gu ((decide (x5.1≥0))&&(Na x5.2.Leaf a2)) (C0 x6 x5.2)) fun x7=>if(((decide (x5.1≥0))&&(Na x5.2.Leaf a2))&&(x7==0))=true then Ab (app 48 s1 ([x5.2]:List g_api_Promise)) fun x8=>some x8 else some s1) fun x4=>some x4
def m_client_asked_counting (a0:Aj)(a1:List g_api_Promise)(a2:UInt64×UInt64):Option (List g_api_Promise):=Ab (Ab (DP (BL a0 a2) a1 0 ([]:List g_api_Promise)) fun x2=>some x2) fun x1=>some x1
theorem LA {a0 a1 a2 r}(hm:m_client_asked_counting a0 a1 a2=some r):Sp prog 63 [ag (Cz a0),sl Ad a1,ag (Ar a2)] [] 0 (is (.ow 0) [.row 0 6 _ Ad r] 1):=by
 refine sq fun D0 As η0 m0 hd=> ?_;unfold m_client_asked_counting at hm;obtain⟨x1,q1,hm⟩:=Ae hm;refine oB q1 fun _ q2 q1=>WL 0 Ad 6 6<|IU 0 (E:=Ad) (xs:=a1) 10 fun hle1=>gF (E0 _ _ _) q2 (fun p0 p=>⟨[(3,.pb 0 0),(5,.pb 1 0),(6,.ow 2),(10,sl Ad a1),(11,.d (.i (a1.length:Int))),(12,.d (.i p0))],[(0,.row 2 6 _ Ad p),(1,.box 1 [.d (.u a2.1),.d (.u a2.2)] 34),(2,.box 0 [.d (.s a0.Client.Who),sl Ac a0.Client.Roots,sl Ai a0.Client.Logs,sl Af a0.Client.Pool.L,.d (.i a0.Client.Cascade.Day),sl Ag a0.Client.Cascade.Levels,.d (.i a0.Client.View)] 110)],[],3⟩) fun i1 s1 Jl bl1=>c0 bl1 (fun _ _ q6 q5 bl1=> ?_) fun e=> ?_
 ·refine oB q5 fun x4 q7 q5=>gjU 1 (fun(_:Unit)=>⟨[(3,.pb 0 0),(5,.pb 1 0),(6,.ow 2),(10,sl Ad a1),(11,.d (.i (a1.length:Int))),(12,.d (.i (i1:Int)))],[(0,.row 2 6 _ Ad x4),(1,.box 1 [.d (.u a2.1),.d (.u a2.2)] 34),(2,.box 0 [.d (.s a0.Client.Who),sl Ac a0.Client.Roots,sl Ai a0.Client.Logs,sl Af a0.Client.Pool.L,.d (.i a0.Client.Cascade.Day),sl Ag a0.Client.Cascade.Levels,.d (.i a0.Client.View)] 110)],[],3⟩) (fun _=>True) (fun Jp bk3=> ?_) fun _ _=> ?_
  ·refine gx Ad 6 q6<|gD q7 FM fun x5 q8 q7=>oB q7 fun _ q9 q7=>gxG Ai 3 q9<|oB q7 fun _ q10 q7=>gcH q10 NT<|gi q7 ?_ ?_<;>intro _ q7
   ·refine gq Ad 6 [x5.2]<|oB q7 fun _ q11 q7=>gp Ad 6 q11 ?_;obtain rfl:=AlC q7;exact gb bk3 hd () trivial
   obtain rfl:=AlC q7;exact gb bk3 hd () trivial
  exact gM bl1 hle1 q5
 subst e;obtain rfl:=AlC q1;exact AlC hm▸gE
def DB (k0:Aj)(k1:g_api_Offer)(k2:UInt64×UInt64)(k3:List g_api_Promise):Option (Int×Aj×g_api_Offer×(UInt64×UInt64)×(List g_api_Promise)):=Ab (idx k1.Path 0) fun x1=>Ab (m_client_asked_counting k0 x1.Proms k2) fun x2=>if(decide ((x2.length:Int)<2))=true then some (251,k0,k1,k2,x2)else some (0,k0,k1,k2,x2)
theorem Pt {k0 k1 k2 k3 r}(hm:DB k0 k1 k2 k3=some r):Sp prog 62 [.pb 0 0,.pb 1 0,.pb 2 0,.pb 3 0] [.box 0 [.d (.s k0.Client.Who),sl Ac k0.Client.Roots,sl Ai k0.Client.Logs,sl Af k0.Client.Pool.L,.d (.i k0.Client.Cascade.Day),sl Ag k0.Client.Cascade.Levels,.d (.i k0.Client.View)] 110,.box 1 [sl Ac k1.Path,sl A6 k1.Where] 52,.box 2 [.d (.u k2.1),.d (.u k2.2)] 34,.box 3 [sl Ad k3] 57] 4 (is (.d (.i r.1)) [.box 0 [.d (.s r.2.1.Client.Who),.d (.sl _ Ac r.2.1.Client.Roots),.d (.sl _ Ai r.2.1.Client.Logs),.d (.sl _ Af r.2.1.Client.Pool.L),.d (.i r.2.1.Client.Cascade.Day),.d (.sl _ Ag r.2.1.Client.Cascade.Levels),.d (.i r.2.1.Client.View)] 110,.box 1 [.d (.sl _ Ac r.2.2.1.Path),.d (.sl _ A6 r.2.2.1.Where)] 52,.box 2 [.d (.u r.2.2.2.1.1),.d (.u r.2.2.2.1.2)] 34,.box 3 [.d (.sl _ Ad r.2.2.2.2)] 57] 4):=by
 refine sq ?_;intros;refine oB hm fun _ q1 hm=>gx Ac 13 q1<|gD hm LA fun _ q2 hm=>gi hm ?_ ?_<;>intro _ hm
 ·exact AlC hm▸gE
 exact AlC hm▸gE
def F8 (a0:g_api_Promise)(k0:g_api_Place):Option (Bool×g_api_Place):=some ((a0.Log==k0.Log),k0)
theorem Mx {a0 k0 r}(hm:F8 a0 k0=some r):Sp prog 67 [ag (Ad a0),.pb 0 0] [.box 0 [.d (.i k0.Log),.d (.i k0.At),.d (.i k0.Size),sl Ar k0.Proof] 67] 1 (is (.d (.t r.1)) [.box 0 [.d (.i r.2.Log),.d (.i r.2.At),.d (.i r.2.Size),.d (.sl _ Ar r.2.Proof)] 67] 1):=by
 refine sq ?_;intros;exact AlC hm▸gE
def Fm (a0:UInt64):Option Int:=Ab (Ga a0) fun x1=>some x1
theorem Np {a0 r}(hm:Fm a0=some r):Sf prog 156 [.d (.u a0)] (.d (.i r)):=by
 refine sq ?_;intros;refine gi' (b:=false) (fun h=>by cases h) (fun _=> ?_);refine gA hm MA fun _ q1 hm=> ?_;exact AlC hm▸gE
def KD (a0:UInt64):Option Int:=bnd ((((Ev a0 1)&&&6148914691236517205)+(a0&&&6148914691236517205))) fun x1=>bnd ((((Ev x1 2)&&&3689348814741910323)+(x1&&&3689348814741910323))) fun x2=>bnd ((((Ev x2 4)+x2)&&&1085102592571150095)) fun x3=>bnd (((x3+(Ev x3 8))+(Ev (x3+(Ev x3 8)) 16))) fun x4=>bnd ((HZ (w64 ((x4+(Ev x4 32)).toNat:Int)) 127)) fun x5=>some x5
theorem OG {a0 r}(hm:KD a0=some r):Sf prog 246 [.d (.u a0)] (.d (.i r)):=by
 refine sq ?_;intros;refine bE hm ?_;intro _ hm;refine bE hm ?_;intro _ hm;refine bE hm ?_;intro _ hm;refine bE hm ?_;intro _ hm;refine bE hm ?_;intro _ hm;exact AlC hm▸gE
def Fb (a0:UInt64):Option Int:=Ab (KD a0) fun x1=>some x1
theorem Qx {a0 r}(hm:Fb a0=some r):Sf prog 157 [.d (.u a0)] (.d (.i r)):=by
 refine sq ?_;intros;refine gi' (b:=false) (fun h=>by cases h) (fun _=> ?_);refine gA hm OG fun _ q1 hm=> ?_;exact AlC hm▸gE
def Ff (a0:Int)(a1:Int):Option (Int×Int):=Ab (Fm (toU (Xj a0 (w64 (a1-1))))) fun x1=>if(0:Int)≤x1 then Ab (Fb (toU (BA a0 x1.toNat))) fun x2=>some (x1,x2)else none
theorem SG {a0 a1 r}(hm:Ff a0 a1=some r):Sf prog 80 [.d (.i a0),.d (.i a1)] (.tup [.d (.i r.1),.d (.i r.2)]):=by
 refine sq ?_;intros;refine gA hm Np fun x1 q1 hm=> ?_;obtain⟨q2,hm⟩:=BI hm;refine gsh (r:= .i (BA a0 x1.toNat)) (fun h=>q2)<|gA hm Qx fun _ q3 hm=> ?_;exact AlC hm▸gE
def Hj (a0:UInt64×UInt64)(a1:UInt64×UInt64):Option (UInt64×UInt64):=Ab (EJ a0) fun x1=>Ab (EJ a1) fun x2=>Ab (Cc (⟨#[110,111,100,101]⟩:ByteArray) ([x1,x2]:List (List UInt8))) fun x3=>some x3
theorem Lx {a0 a1 r}(hm:Hj a0 a1=some r):Sf prog 83 [ag (Ar a0),ag (Ar a1)] (ag (Ar r)):=by
 refine sq ?_;intros;refine gD hm Kj fun x1 q1 hm=>gD hm Kj fun x2 q2 hm=>AaO (k:=1) (eL eB) ([x1,x2]:List (List UInt8)) (fun _=>rfl)<|gA hm EP fun _ q3 hm=> ?_;exact AlC hm▸gE
def G5 (a0:UInt64×UInt64)(k0:UInt64×UInt64):Option (UInt64×UInt64):=Ab (Hj a0 k0) fun x1=>some x1
theorem Qo {a0 k0 r}(hm:G5 a0 k0=some r):Sp prog 82 [ag (Ar a0),.pb 0 0] [.box 0 [.d (.u k0.1),.d (.u k0.2)] 34] 1 (is (.tup []) [.box 0 [.d (.u r.1),.d (.u r.2)] 34] 1):=by
 refine sq ?_;intros;refine gA hm Lx fun _ q1 hm=> ?_;exact AlC hm▸gE
def G4 (a0:UInt64×UInt64)(k0:UInt64×UInt64):Option (UInt64×UInt64):=Ab (Hj k0 a0) fun x1=>some x1
theorem Qn {a0 k0 r}(hm:G4 a0 k0=some r):Sp prog 84 [ag (Ar a0),.pb 0 0] [.box 0 [.d (.u k0.1),.d (.u k0.2)] 34] 1 (is (.tup []) [.box 0 [.d (.u r.1),.d (.u r.2)] 34] 1):=by
 refine sq ?_;intros;refine gA hm Lx fun _ q1 hm=> ?_;exact AlC hm▸gE
def Bf (s2:Int×Int):Option ((Int×Int)⊕(Int×Int)):=if(((HZ s2.1 1)==0)&&(s2.1 !=0))=true then some (.inl ((BA s2.1 1),(BA s2.2 1)))else some (.inr (s2.1,s2.2))
def Bg (i1:Int)(x2:UInt64×UInt64)(s1:Int×Int×UInt64×UInt64):Option (Int×Int×UInt64×UInt64):=Ab (if(((HZ s1.1 1)==0)&&(s1.1 !=s1.2.1))=true then Ab (G4 x2 s1.2.2) fun x4=>some ((BA s1.1 1),(BA s1.2.1 1),x4.1,x4.2)else Ab (G5 x2 s1.2.2) fun x5=>Ab (Ab (iter Bf Fx (s1.1,s1.2.1)) fun x7=>some (x7.1,x7.2)) fun x6=>some ((BA x6.1 1),(BA x6.2 1),x5.1,x5.2)) fun x3=>some (x3.1,x3.2.1,x3.2.2.1,x3.2.2.2)
def C9 (a0:Int)(a1:Int)(a2:List (UInt64×UInt64))(k0:UInt64×UInt64):Option (UInt64×UInt64):=Ab (DP Bg a2 0 (a0,(w64 (a1-1)),k0.1,k0.2)) fun x1=>some x1.2.2
theorem Mn {a0 a1 a2 k0 r}(hm:C9 a0 a1 a2 k0=some r):Sp prog 81 [.d (.i a0),.d (.i a1),sl Ar a2,.fn (.func 82) [] [.pb 0 0],.fn (.func 84) [] [.pb 0 0]] [.box 0 [.d (.u k0.1),.d (.u k0.2)] 34] 1 (is (.tup []) [.box 0 [.d (.u r.1),.d (.u r.2)] 34] 1):=by
 refine sq fun D0 As η0 m0 hd=>oB hm fun _ q1 hm=>IU 0 (E:=Ar) (xs:=a2) 15 fun hle1=>gF (E0 _ _ _) q1 (fun p0 (p_0,p_1,p_2,p_3)=>⟨[(0,.d (.i p_0)),(3,.fn (.func 82) [] [.pb 0 0]),(4,.fn (.func 84) [] [.pb 0 0]),(10,.d (.i p_1)),(15,sl Ar a2),(16,.d (.i (a2.length:Int))),(17,.d (.i p0))],[(0,.box 0 [.d (.u p_2),.d (.u p_3)] 34)],[],1⟩) fun i1 s1 Jl bl1=>c0 bl1 (fun x2 _ q5 q4 bl1=> ?_) fun e=> ?_
 ·refine oB q4 fun x3 q6 q4=>gjU 1 (fun(_:Unit)=>let (y_0,y_1,y_2,y_3):=x3; ⟨[(0,.d (.i y_0)),(3,.fn (.func 82) [] [.pb 0 0]),(4,.fn (.func 84) [] [.pb 0 0]),(10,.d (.i y_1)),(15,sl Ar a2),(16,.d (.i (a2.length:Int))),(17,.d (.i (i1:Int)))],[(0,.box 0 [.d (.u y_2),.d (.u y_3)] 34)],[],1⟩) (fun _=>True) (fun Jp bk2=> ?_) fun _ _=> ?_
  ·refine gx Ar 2 q5<|gi q6 ?_ ?_<;>intro _ q6
   ·refine gD q6 Qn fun _ q7 q6=> ?_;obtain rfl:=AlC q6;exact gb bk2 hd () trivial
   refine gD q6 Qo fun x5 q8 q6=> ?_;obtain⟨x6,q9,q6⟩:=Ae q6;refine oB q9 fun x7 q10 q9=>gI q10 (fun(p_0,p_1)=>⟨[(0,.d (.i p_0)),(3,.fn (.func 82) [] [.pb 0 0]),(4,.fn (.func 84) [] [.pb 0 0]),(10,.d (.i p_1)),(15,sl Ar a2),(16,.d (.i (a2.length:Int))),(17,.d (.i (i1:Int))),(12,.pb 1 0)],[(0,.box 0 [.d (.u x5.1),.d (.u x5.2)] 34),(1,.box 1 [.d (.u x2.1),.d (.u x2.2)] 34)],[],2⟩) fun s2 _ Jl q13 bl2=>gi q13 ?_ ?_<;>intro _ q13
   ·exact gN bl2 q13
   obtain rfl:=nR bl2 q13;let x7:=(s2.1,s2.2);obtain rfl:=AlC q9;obtain rfl:=AlC q6;exact gb bk2 hd () trivial
  exact gM bl1 hle1 q4
 subst e;exact AlC hm▸gE
def C6 (a0:UInt64×UInt64)(a1:Int)(a2:Int)(a3:List (UInt64×UInt64))(a4:UInt64×UInt64):Option Int:=if(((decide (a1<0))||(decide (a1≥a2)))||(decide (a2>256)))=true then some 1 else Ab (Ff a1 a2) fun x1=>if((a3.length:Int) !=(w64 (x1.1+x1.2)))=true then some 80 else Ab (C9 a1 a2 a3 a0) fun x2=>if(!Na x2 a4)=true then some 71 else some 0
theorem SJ {a0 a1 a2 a3 a4 r}(hm:C6 a0 a1 a2 a3 a4=some r):Sf prog 27 [ag (Ar a0),.d (.i a1),.d (.i a2),sl Ar a3,ag (Ar a4)] (.d (.i r)):=by
 refine sq ?_;intros;refine gi hm ?_ ?_<;>intro _ hm
 ·exact AlC hm▸gE
 refine gA hm SG fun _ q1 hm=>gi hm ?_ ?_<;>intro _ hm
 ·exact AlC hm▸gE
 refine gD hm Mn fun _ q2 hm=>gi hm ?_ ?_<;>intro _ hm
 ·exact AlC hm▸gE
 exact AlC hm▸gE
def F6 (a0:g_api_Head)(k0:g_api_Place)(k1:UInt64×UInt64):Option (Bool×g_api_Place×(UInt64×UInt64)):=Ab (gu ((a0.Log==k0.Log)&&(a0.Size==k0.Size)) (C6 k1 k0.At k0.Size k0.Proof a0.Root)) fun x1=>bnd ((((a0.Log==k0.Log)&&(a0.Size==k0.Size))&&(x1==0))) fun x2=>some (x2,k0,k1)
theorem Mw {a0 k0 k1 r}(hm:F6 a0 k0 k1=some r):Sp prog 143 [ag (Af a0),.pb 0 0,.pb 1 0] [.box 0 [.d (.i k0.Log),.d (.i k0.At),.d (.i k0.Size),sl Ar k0.Proof] 67,.box 1 [.d (.u k1.1),.d (.u k1.2)] 34] 2 (is (.d (.t r.1)) [.box 0 [.d (.i r.2.1.Log),.d (.i r.2.1.At),.d (.i r.2.1.Size),.d (.sl _ Ar r.2.1.Proof)] 67,.box 1 [.d (.u r.2.2.1),.d (.u r.2.2.2)] 34] 2):=by
 refine sq ?_;intros;refine oB hm fun _ q1 hm=>gcH q1 SJ<|bE hm ?_;intro _ hm;exact AlC hm▸gE
def BG (a0:List g_api_Head)(i1:Int)(s1:Int×Int×Int×(List (UInt64×UInt64))×UInt64×UInt64):Option ((Int×Int×Int×(List (UInt64×UInt64))×UInt64×UInt64)⊕(Int×g_api_Place×(UInt64×UInt64))):=Ab (idx a0 (i1:Int)) fun x3=>Ab (F6 x3 (⟨s1.1,s1.2.1,s1.2.2.1,s1.2.2.2.1⟩:g_api_Place) s1.2.2.2.2) fun x4=>if x4.1=true then some (.inr ((i1:Int),x4.2.1,x4.2.2))else some (.inl (x4.2.1.Log,x4.2.1.At,x4.2.1.Size,x4.2.1.Proof,x4.2.2.1,x4.2.2.2))
def BU (a0:List g_api_Head)(k0:g_api_Place)(k1:UInt64×UInt64):Option (Int×g_api_Place×(UInt64×UInt64)):=Ab (BV (BG a0) a0.length 0 (k0.Log,k0.At,k0.Size,k0.Proof,k1.1,k1.2)) fun x1=>match x1 with| .inr r=>some r| .inl y1=>some ((-1),(⟨y1.1,y1.2.1,y1.2.2.1,y1.2.2.2.1⟩:g_api_Place),y1.2.2.2.2)
theorem Fq {a0 k0 k1 r}(hm:BU a0 k0 k1=some r):Sp prog 225 [sl Af a0,.fn (.func 143) [] [.pb 0 0,.pb 1 0]] [.box 0 [.d (.i k0.Log),.d (.i k0.At),.d (.i k0.Size),sl Ar k0.Proof] 67,.box 1 [.d (.u k1.1),.d (.u k1.2)] 34] 2 (is (.d (.i r.1)) [.box 0 [.d (.i r.2.1.Log),.d (.i r.2.1.At),.d (.i r.2.1.Size),.d (.sl _ Ar r.2.1.Proof)] 67,.box 1 [.d (.u r.2.2.1),.d (.u r.2.2.2)] 34] 2):=by
 refine sq ?_;intros;refine oB hm fun _ q1 hm=>IU 0 (E:=Af) (xs:=a0) 6 fun hle1=>gF (EN _ _ _) q1 (fun p0 (p_0,p_1,p_2,p_3,p_4,p_5)=>⟨[(0,sl Af a0),(1,.fn (.func 143) [] [.pb 0 0,.pb 1 0]),(7,.d (.i (a0.length:Int))),(8,.d (.i p0))],[(0,.box 0 [.d (.i p_0),.d (.i p_1),.d (.i p_2),sl Ar p_3] 67),(1,.box 1 [.d (.u p_4),.d (.u p_5)] 34)],[],2⟩) fun i1 s1 Jl bl1=>cN bl1 (a0.length:Int) (fun _ q4 bl1=> ?_) fun e=> ?_
 ·refine oB q4 fun _ q6 q4=>gx Af 7 q6<|gD q4 Mw fun _ q7 q4=>gi q4 ?_ ?_<;>intro _ q4
  ·obtain rfl:=nT bl1 q4;exact AlC hm▸gE
  exact gT bl1 hle1 q4
 subst e;let y1:=s1;exact AlC hm▸gE
def BH (a0:List g_api_Head)(k0:g_api_Place)(k1:UInt64×UInt64):Option (Bool×g_api_Place×(UInt64×UInt64)):=Ab (BU a0 k0 k1) fun x1=>some ((decide (x1.1≥0)),x1.2.1,x1.2.2)
theorem EH {a0 k0 k1 r}(hm:BH a0 k0 k1=some r):Sp prog 142 [sl Af a0,.fn (.func 143) [] [.pb 0 0,.pb 1 0]] [.box 0 [.d (.i k0.Log),.d (.i k0.At),.d (.i k0.Size),sl Ar k0.Proof] 67,.box 1 [.d (.u k1.1),.d (.u k1.2)] 34] 2 (is (.d (.t r.1)) [.box 0 [.d (.i r.2.1.Log),.d (.i r.2.1.At),.d (.i r.2.1.Size),.d (.sl _ Ar r.2.1.Proof)] 67,.box 1 [.d (.u r.2.2.1),.d (.u r.2.2.2)] 34] 2):=by
 refine sq ?_;intros;refine gD hm Fq fun _ q1 hm=> ?_;exact AlC hm▸gE
def EX (a0:Aj)(a1:g_api_Place)(a2:UInt64×UInt64):Option Bool:=Ab (BH a0.Client.Pool.L a1 a2) fun x1=>some x1.1
theorem NX {a0 a1 a2 r}(hm:EX a0 a1 a2=some r):Sf prog 68 [ag (Cz a0),ag (A6 a1),ag (Ar a2)] (.d (.t r)):=by
 refine sq ?_;intros;refine gD hm EH fun _ q1 hm=> ?_;exact AlC hm▸gE
def Bm (a0:List g_api_Promise)(i1:Int)(s1:Int×Int×Int×(List (UInt64×UInt64))):Option ((Int×Int×Int×(List (UInt64×UInt64)))⊕(Int×g_api_Place)):=Ab (idx a0 (i1:Int)) fun x3=>Ab (F8 x3 (⟨s1.1,s1.2.1,s1.2.2.1,s1.2.2.2⟩:g_api_Place)) fun x4=>if x4.1=true then some (.inr ((i1:Int),x4.2))else some (.inl (x4.2.Log,x4.2.At,x4.2.Size,x4.2.Proof))
def By (a0:List g_api_Promise)(k0:g_api_Place):Option (Int×g_api_Place):=Ab (BV (Bm a0) a0.length 0 (k0.Log,k0.At,k0.Size,k0.Proof)) fun x1=>match x1 with| .inr r=>some r| .inl y1=>some ((-1),(⟨y1.1,y1.2.1,y1.2.2.1,y1.2.2.2⟩:g_api_Place))
theorem Et {a0 k0 r}(hm:By a0 k0=some r):Sp prog 141 [sl Ad a0,.fn (.func 67) [] [.pb 0 0]] [.box 0 [.d (.i k0.Log),.d (.i k0.At),.d (.i k0.Size),sl Ar k0.Proof] 67] 1 (is (.d (.i r.1)) [.box 0 [.d (.i r.2.Log),.d (.i r.2.At),.d (.i r.2.Size),.d (.sl _ Ar r.2.Proof)] 67] 1):=by
 refine sq ?_;intros;refine oB hm fun _ q1 hm=>IU 0 (E:=Ad) (xs:=a0) 6 fun hle1=>gF (EN _ _ _) q1 (fun p0 (p_0,p_1,p_2,p_3)=>⟨[(0,sl Ad a0),(1,.fn (.func 67) [] [.pb 0 0]),(7,.d (.i (a0.length:Int))),(8,.d (.i p0))],[(0,.box 0 [.d (.i p_0),.d (.i p_1),.d (.i p_2),sl Ar p_3] 67)],[],1⟩) fun i1 s1 Jl bl1=>cN bl1 (a0.length:Int) (fun _ q4 bl1=> ?_) fun e=> ?_
 ·refine oB q4 fun _ q6 q4=>gx Ad 6 q6<|gD q4 Mx fun _ q7 q4=>gi q4 ?_ ?_<;>intro _ q4
  ·obtain rfl:=nT bl1 q4;exact AlC hm▸gE
  exact gT bl1 hle1 q4
 subst e;let y1:=s1;exact AlC hm▸gE
def AR (a0:List g_api_Promise)(k0:g_api_Place):Option (Bool×g_api_Place):=Ab (By a0 k0) fun x1=>some ((decide (x1.1≥0)),x1.2)
theorem DR {a0 k0 r}(hm:AR a0 k0=some r):Sp prog 66 [sl Ad a0,.fn (.func 67) [] [.pb 0 0]] [.box 0 [.d (.i k0.Log),.d (.i k0.At),.d (.i k0.Size),sl Ar k0.Proof] 67] 1 (is (.d (.t r.1)) [.box 0 [.d (.i r.2.Log),.d (.i r.2.At),.d (.i r.2.Size),.d (.sl _ Ar r.2.Proof)] 67] 1):=by
 refine sq ?_;intros;refine gD hm Et fun _ q1 hm=> ?_;exact AlC hm▸gE
def Hl (a0:g_api_Place)(k0:List g_api_Promise)(k1:Aj)(k2:UInt64×UInt64):Option (Bool×(List g_api_Promise)×Aj×(UInt64×UInt64)):=Ab (AR k0 a0) fun x1=>Ab (gu x1.1 (EX k1 x1.2 k2)) fun x2=>some ((x1.1&&x2),k0,k1,k2)
theorem NZ {a0 k0 k1 k2 r}(hm:Hl a0 k0 k1 k2=some r):Sp prog 65 [ag (A6 a0),.pb 0 0,.pb 1 0,.pb 2 0] [.box 0 [sl Ad k0] 57,.box 1 [.d (.s k1.Client.Who),sl Ac k1.Client.Roots,sl Ai k1.Client.Logs,sl Af k1.Client.Pool.L,.d (.i k1.Client.Cascade.Day),sl Ag k1.Client.Cascade.Levels,.d (.i k1.Client.View)] 110,.box 2 [.d (.u k2.1),.d (.u k2.2)] 34] 3 (is (.d (.t r.1)) [.box 0 [.d (.sl _ Ad r.2.1)] 57,.box 1 [.d (.s r.2.2.1.Client.Who),.d (.sl _ Ac r.2.2.1.Client.Roots),.d (.sl _ Ai r.2.2.1.Client.Logs),.d (.sl _ Af r.2.2.1.Client.Pool.L),.d (.i r.2.2.1.Client.Cascade.Day),.d (.sl _ Ag r.2.2.1.Client.Cascade.Levels),.d (.i r.2.2.1.Client.View)] 110,.box 2 [.d (.u r.2.2.2.1),.d (.u r.2.2.2.2)] 34] 3):=by
 refine sq ?_;intros;refine gD hm DR fun _ q1 hm=>oB hm fun _ q2 hm=>gcH q2 NX ?_;exact AlC hm▸gE
def BD (a0:List g_api_Place)(i1:Int)(s1:(List g_api_Promise)×ByteArray×(List g_api_Cert)×(List g_api_Key)×(List g_api_Head)×Int×(List g_api_Sieve)×Int×UInt64×UInt64):Option (((List g_api_Promise)×ByteArray×(List g_api_Cert)×(List g_api_Key)×(List g_api_Head)×Int×(List g_api_Sieve)×Int×UInt64×UInt64)⊕(Int×(List g_api_Promise)×Aj×(UInt64×UInt64))):=Ab (idx a0 (i1:Int)) fun x3=>Ab (Hl x3 s1.1 (⟨(⟨s1.2.1,s1.2.2.1,s1.2.2.2.1,(⟨s1.2.2.2.2.1⟩:g_api_Pool),(⟨s1.2.2.2.2.2.1,s1.2.2.2.2.2.2.1⟩:g_api_Cascade),s1.2.2.2.2.2.2.2.1⟩:g_api_Client)⟩:Aj) s1.2.2.2.2.2.2.2.2) fun x4=>if x4.1=true then some (.inr ((i1:Int),x4.2.1,x4.2.2.1,x4.2.2.2))else some (.inl (x4.2.1,x4.2.2.1.Client.Who,x4.2.2.1.Client.Roots,x4.2.2.1.Client.Logs,x4.2.2.1.Client.Pool.L,x4.2.2.1.Client.Cascade.Day,x4.2.2.1.Client.Cascade.Levels,x4.2.2.1.Client.View,x4.2.2.2.1,x4.2.2.2.2))
def BO (a0:List g_api_Place)(k0:List g_api_Promise)(k1:Aj)(k2:UInt64×UInt64):Option (Int×(List g_api_Promise)×Aj×(UInt64×UInt64)):=Ab (BV (BD a0) a0.length 0 (k0,k1.Client.Who,k1.Client.Roots,k1.Client.Logs,k1.Client.Pool.L,k1.Client.Cascade.Day,k1.Client.Cascade.Levels,k1.Client.View,k2.1,k2.2)) fun x1=>match x1 with| .inr r=>some r| .inl y1=>some ((-1),y1.1,(⟨(⟨y1.2.1,y1.2.2.1,y1.2.2.2.1,(⟨y1.2.2.2.2.1⟩:g_api_Pool),(⟨y1.2.2.2.2.2.1,y1.2.2.2.2.2.2.1⟩:g_api_Cascade),y1.2.2.2.2.2.2.2.1⟩:g_api_Client)⟩:Aj),y1.2.2.2.2.2.2.2.2)
theorem E3 {a0 k0 k1 k2 r}(hm:BO a0 k0 k1 k2=some r):Sp prog 144 [sl A6 a0,.fn (.func 65) [] [.pb 0 0,.pb 1 0,.pb 2 0]] [.box 0 [sl Ad k0] 57,.box 1 [.d (.s k1.Client.Who),sl Ac k1.Client.Roots,sl Ai k1.Client.Logs,sl Af k1.Client.Pool.L,.d (.i k1.Client.Cascade.Day),sl Ag k1.Client.Cascade.Levels,.d (.i k1.Client.View)] 110,.box 2 [.d (.u k2.1),.d (.u k2.2)] 34] 3 (is (.d (.i r.1)) [.box 0 [.d (.sl _ Ad r.2.1)] 57,.box 1 [.d (.s r.2.2.1.Client.Who),.d (.sl _ Ac r.2.2.1.Client.Roots),.d (.sl _ Ai r.2.2.1.Client.Logs),.d (.sl _ Af r.2.2.1.Client.Pool.L),.d (.i r.2.2.1.Client.Cascade.Day),.d (.sl _ Ag r.2.2.1.Client.Cascade.Levels),.d (.i r.2.2.1.Client.View)] 110,.box 2 [.d (.u r.2.2.2.1),.d (.u r.2.2.2.2)] 34] 3):=by
 refine sq ?_;intros;refine oB hm fun _ q1 hm=>IU 0 (E:=A6) (xs:=a0) 6 fun hle1=>gF (EN _ _ _) q1 (fun p0 (p_0,p_1,p_2,p_3,p_4,p_5,p_6,p_7,p_8,p_9)=>⟨[(0,sl A6 a0),(1,.fn (.func 65) [] [.pb 0 0,.pb 1 0,.pb 2 0]),(7,.d (.i (a0.length:Int))),(8,.d (.i p0))],[(0,.box 0 [sl Ad p_0] 57),(1,.box 1 [.d (.s p_1),sl Ac p_2,sl Ai p_3,sl Af p_4,.d (.i p_5),sl Ag p_6,.d (.i p_7)] 110),(2,.box 2 [.d (.u p_8),.d (.u p_9)] 34)],[],3⟩) fun i1 s1 Jl bl1=>cN bl1 (a0.length:Int) (fun _ q4 bl1=> ?_) fun e=> ?_
 ·refine oB q4 fun _ q6 q4=>gx A6 4 q6<|gD q4 NZ fun _ q7 q4=>gi q4 ?_ ?_<;>intro _ q4
  ·obtain rfl:=nT bl1 q4;exact AlC hm▸gE
  exact gT bl1 hle1 q4
 subst e;let y1:=s1;exact AlC hm▸gE
def A1 (a0:List g_api_Place)(k0:List g_api_Promise)(k1:Aj)(k2:UInt64×UInt64):Option (Bool×(List g_api_Promise)×Aj×(UInt64×UInt64)):=Ab (BO a0 k0 k1 k2) fun x1=>some ((decide (x1.1≥0)),x1.2.1,x1.2.2.1,x1.2.2.2)
theorem Ey {a0 k0 k1 k2 r}(hm:A1 a0 k0 k1 k2=some r):Sp prog 69 [sl A6 a0,.fn (.func 65) [] [.pb 0 0,.pb 1 0,.pb 2 0]] [.box 0 [sl Ad k0] 57,.box 1 [.d (.s k1.Client.Who),sl Ac k1.Client.Roots,sl Ai k1.Client.Logs,sl Af k1.Client.Pool.L,.d (.i k1.Client.Cascade.Day),sl Ag k1.Client.Cascade.Levels,.d (.i k1.Client.View)] 110,.box 2 [.d (.u k2.1),.d (.u k2.2)] 34] 3 (is (.d (.t r.1)) [.box 0 [.d (.sl _ Ad r.2.1)] 57,.box 1 [.d (.s r.2.2.1.Client.Who),.d (.sl _ Ac r.2.2.1.Client.Roots),.d (.sl _ Ai r.2.2.1.Client.Logs),.d (.sl _ Af r.2.2.1.Client.Pool.L),.d (.i r.2.2.1.Client.Cascade.Day),.d (.sl _ Ag r.2.2.1.Client.Cascade.Levels),.d (.i r.2.2.1.Client.View)] 110,.box 2 [.d (.u r.2.2.2.1),.d (.u r.2.2.2.2)] 34] 3):=by
 refine sq ?_;intros;refine gD hm E3 fun _ q1 hm=> ?_;exact AlC hm▸gE
def DA (k0:List g_api_Promise)(k1:Aj)(k2:UInt64×UInt64)(k3:g_api_Offer):Option (Int×(List g_api_Promise)×Aj×(UInt64×UInt64)×g_api_Offer):=Ab (A1 k3.Where k0 k1 k2) fun x1=>if(!x1.1)=true then some (240,x1.2.1,x1.2.2.1,x1.2.2.2,k3)else some (0,x1.2.1,x1.2.2.1,x1.2.2.2,k3)
theorem Ps {k0 k1 k2 k3 r}(hm:DA k0 k1 k2 k3=some r):Sp prog 64 [.pb 0 0,.pb 1 0,.pb 2 0,.pb 3 0] [.box 0 [sl Ad k0] 57,.box 1 [.d (.s k1.Client.Who),sl Ac k1.Client.Roots,sl Ai k1.Client.Logs,sl Af k1.Client.Pool.L,.d (.i k1.Client.Cascade.Day),sl Ag k1.Client.Cascade.Levels,.d (.i k1.Client.View)] 110,.box 2 [.d (.u k2.1),.d (.u k2.2)] 34,.box 3 [sl Ac k3.Path,sl A6 k3.Where] 52] 4 (is (.d (.i r.1)) [.box 0 [.d (.sl _ Ad r.2.1)] 57,.box 1 [.d (.s r.2.2.1.Client.Who),.d (.sl _ Ac r.2.2.1.Client.Roots),.d (.sl _ Ai r.2.2.1.Client.Logs),.d (.sl _ Af r.2.2.1.Client.Pool.L),.d (.i r.2.2.1.Client.Cascade.Day),.d (.sl _ Ag r.2.2.1.Client.Cascade.Levels),.d (.i r.2.2.1.Client.View)] 110,.box 2 [.d (.u r.2.2.2.1.1),.d (.u r.2.2.2.1.2)] 34,.box 3 [.d (.sl _ Ac r.2.2.2.2.Path),.d (.sl _ A6 r.2.2.2.2.Where)] 52] 4):=by
 refine sq ?_;intros;refine gD hm Ey fun _ q1 hm=>gi hm ?_ ?_<;>intro _ hm
 ·exact AlC hm▸gE
 exact AlC hm▸gE
def MP (a0:Int)(i1:Int)(s1:(List UInt8)):Option ((List UInt8)):=if(0:Int)≤(w64 (56-(w64 (8*(i1:Int)))))then Ab (idx s1 (i1:Int)) fun x4=>bnd (s1.set (i1:Int).toNat (toB (BA a0 ((w64 (56-(w64 (8*(i1:Int))))).toNat)))) fun x5=>some x5 else none
def Hu (a0:Int):Option (List UInt8):=Ab (Ab (CX (MP a0) ((List.replicate 8 (0:UInt8)).length) 0 (List.replicate 8 (0:UInt8))) fun x2=>some x2) fun x1=>some x1
theorem Kh {a0 r}(hm:Hu a0=some r):Sp prog 247 [.d (.i a0)] [] 0 (is (.ow 0) [.row 0 1 _ eB r] 1):=by
 refine sq ?_;intros;unfold Hu at hm;refine gmks (k:=8) (xs:=(List.replicate 8 (0:UInt8))) eB (0:UInt8) (.b 0) 1 rfl ?_;obtain⟨x1,q1,hm⟩:=Ae hm;refine oB q1 fun _ q2 q1=>IU 0 (E:=eB) (xs:=(List.replicate 8 (0:UInt8))) 6 fun hle1=>gF (EM _ _ _) q2 (fun p0 p=>⟨[(0,.d (.i a0)),(3,.ow 0),(7,.d (.i ((List.replicate 8 (0:UInt8)).length:Int))),(8,.d (.i p0))],[(0,.row 0 1 _ eB p)],[],1⟩) fun i1 s1 Jl bl1=>cM bl1 ((List.replicate 8 (0:UInt8)).length:Int) (fun _ q5 bl1=> ?_) fun e=> ?_
 ·unfold MP at q5;obtain⟨q7,q5⟩:=BI q5;refine gsh (r:= .i (BA a0 ((w64 (56-(w64 (8*(i1:Int))))).toNat))) (fun h=>q7)<|oB q5 fun _ q8 q5=>I6 (E:=eB) (fun _=>q8)<|bE q5 ?_;intro _ q5;exact AeZ (k:=1) (E:=eB) (toB (BA a0 ((w64 (56-(w64 (8*(i1:Int))))).toNat))) (fun _=>rfl) q8<|gM bl1 hle1 q5
 subst e;obtain rfl:=AlC q1;exact AlC hm▸gE
def Oa {σ:Type}(p0:σ→(Int×UInt8)→Option (Bool×σ))(k0:g_api_Sieve)(k1:List UInt8)(k2:List UInt8)(s1:Int×σ):Option ((Int×σ)⊕((σ)⊕(g_api_Sieve×(List UInt8)×(List UInt8)×σ))):=if(decide (s1.1<k0.Hashes))=true then Ab (Cc (⟨#[115,105,101,118,101]⟩:ByteArray) ([k1,([(toB s1.1)]:List UInt8),k2]:List (List UInt8))) fun x3=>Ab (Gx x3 (toU k0.Bits)) fun x4=>if(0:Int)≤(HZ (w64 (x4.toNat:Int)) 7)then Ab (p0 s1.2 ((BA (w64 (x4.toNat:Int)) 3),(AbW 1 ((HZ (w64 (x4.toNat:Int)) 7).toNat)))) fun x5=>if(!x5.1)=true then some (.inr (.inr (k0,k1,k2,x5.2)))else some (.inl ((w64 (s1.1+1)),x5.2))else none else some (.inr (.inl s1.2))
def L9 {σ:Type}(p0:σ→(Int×UInt8)→Option (Bool×σ))(k0:g_api_Sieve)(k1:List UInt8)(k2:List UInt8)(s0:σ):Option (g_api_Sieve×(List UInt8)×(List UInt8)×σ):=Ab (iter (Oa p0 k0 k1 k2) Fx (0,s0)) fun x1=>match x1 with| .inr r=>some r| .inl y1=>some (k0,k1,k2,y1)
theorem Qi {σ:Type}{p0:σ→(Int×UInt8)→Option (Bool×σ)}{k0 k1 k2 s0 r}(hm:L9 p0 k0 k1 k2 s0=some r)(g:Value)(R:σ→Mem→Ow)(hcb:Z4 prog g (fun x=> [.d (.i x.1),.d (.b x.2)]) R p0):Sp prog 248 [.ow 0,.pb 1 0,.pb 2 0,.pb 3 0] [.hp 0 (.cb g σ R s0),.box 1 [.d (.i k0.Bits),.d (.i k0.Hashes),.d (.i k0.Salt),sl eB k0.B] 98,.box 2 [sl eB k1] 96,.box 3 [sl eB k2] 96] 4 (is (.tup []) [.hp 0 (.cb g σ R r.2.2.2),.box 1 [.d (.i r.1.Bits),.d (.i r.1.Hashes),.d (.i r.1.Salt),.d (.sl _ eB r.1.B)] 98,.box 2 [.d (.sl _ eB r.2.1)] 96,.box 3 [.d (.sl _ eB r.2.2.1)] 96] 4):=by
 refine sq ?_;intros;refine oB hm fun _ q1 hm=>gI q1 (fun(p_0,p_1)=>⟨[(0,.ow 0),(1,.pb 1 0),(2,.pb 2 0),(3,.pb 3 0),(8,.d (.i k0.Hashes)),(9,.d (.i p_0))],[(0,.box 1 [.d (.i k0.Bits),.d (.i k0.Hashes),.d (.i k0.Salt),sl eB k0.B] 98),(1,.box 2 [sl eB k1] 96),(2,.box 3 [sl eB k2] 96),(3,.hp 0 (.cb g σ R p_1))],[],4⟩) fun s1 _ Jl q4 bl1=>gi q4 ?_ ?_<;>intro _ q4
 ·refine gq eB 1 [(toB s1.1)]<|gq (eL eB) 1 [k1,([(toB s1.1)]:List UInt8),k2]<|gA q4 EP fun _ q6 q4=>gA q4 No fun x4 q7 q4=> ?_;obtain⟨q8,q4⟩:=BI q4;refine gsh (r:= .b (AbW 1 ((HZ (w64 (x4.toNat:Int)) 7).toNat))) (fun h=>q8)<|oB q4 fun _ q9 q4=>gcb ((BA (w64 (x4.toNat:Int)) 3),(AbW 1 ((HZ (w64 (x4.toNat:Int)) 7).toNat))) hcb q9<|gi q4 ?_ ?_<;>intro _ q4
  ·obtain rfl:=nR bl1 q4;exact AlC hm▸gE
  exact gN bl1 q4
 obtain rfl:=nR bl1 q4;let y1:=s1.2;exact AlC hm▸gE
def KO (a0:g_api_Sieve)(a1:Int):Option (g_api_Sieve×(List UInt8)×(List UInt8)):=Ab (Hu a0.Salt) fun x1=>Ab (Hu a1) fun x2=>some (a0,x1,x2)
theorem SE {a0 a1 r}(hm:KO a0 a1=some r):Sp prog 160 [ag (Ag a0),.d (.i a1)] [] 0 (is (.fn (.func 248) [] [.pb 0 0,.pb 1 0,.pb 2 0]) [.box 0 [.d (.i r.1.Bits),.d (.i r.1.Hashes),.d (.i r.1.Salt),sl eB r.1.B] 98,.box 1 [sl eB r.2.1] 96,.box 2 [sl eB r.2.2] 96] 3):=by
 refine sq ?_;intros;refine gD hm Kh fun _ q1 hm=>gD hm Kh fun _ q2 hm=> ?_;exact AlC hm▸gE
def Iy (a0:g_api_Sieve)(b7:Int×UInt8)(s1:(Unit)×Nat):Option ((Unit)×Nat):=Ab (idx a0.B b7.1) fun x5=>if(((x5&&&b7.2).toNat:Int)==0)=true then some ((),1)else some ((),0)
def LL (a0:g_api_Sieve)(a1:Int):Option Bool:=Ab (Gk a0) fun x1=>Ab (gu (!(x1 !=0)) (D4 a1)) fun x2=>if((x1 !=0)||(!x2))=true then some false else Ab (KO a0 a1) fun x3=>Ab (L9 (fun(s:(Unit)×Nat) (b0:Int×UInt8)=>if s.2=0 then Ab (Iy a0 b0 s) fun y=>some (y.2==0,y)else none) x3.1 x3.2.1 x3.2.2 ((),0)) fun x4=>if(x4.2.2.2).2=0 then some true else some false
theorem QX {a0 a1 r}(hm:LL a0 a1=some r):Sf prog 87 [ag (Ag a0),.d (.i a1)] (.d (.t r)):=
 spR call87 func87 rfl ntmps87 rfl fun D0 As η0 m0 hD hd=>by
  unfold LL at hm;refine gA hm On fun _ q1 hm=>oB hm fun _ q2 hm=>gcH q2 Jc<|gi hm ?_ ?_<;>intro _ hm
  ·exact AlC hm▸gE
  refine gD hm SE fun x3 q3 hm=>oB hm fun x4 q4 hm=>M4 hD (n0:=0) 5 5 [⟨2,2,98,[.d (.i x3.1.Bits),.d (.i x3.1.Hashes),.d (.i x3.1.Salt),sl eB x3.1.B],[.d (.i x4.1.Bits),.d (.i x4.1.Hashes),.d (.i x4.1.Salt),sl eB x4.1.B]⟩,⟨3,3,96,[sl eB x3.2.1],[sl eB x4.2.1]⟩,⟨4,4,96,[sl eB x3.2.2],[sl eB x4.2.2.1]⟩] (gt:=17) (ps:=[18,19]) [(2,.pb 0 0),(4,.pb 1 0),(17,.fn (.func 248) [] [.pb 2 0,.pb 3 0,.pb 4 0])] (fun(y1:Unit)=> [(0,.box 1 [.d (.t false)] 4),(1,.box 0 [.d (.i a0.Bits),.d (.i a0.Hashes),.d (.i a0.Salt),sl eB a0.B] 98)]) (fun(y1:(Unit)×Nat)=> [(0,.box 1 [.d (.t false)] 4),(1,.box 0 [.d (.i a0.Bits),.d (.i a0.Hashes),.d (.i a0.Salt),sl eB a0.B] 98)]) (fun x=> [.d (.i x.1),.d (.b x.2)]) (fun(s1:Unit) (b7:Int×UInt8)=>⟨[(2,.pb 0 0),(4,.pb 1 0),(5,.d (.i b7.1)),(6,.d (.b b7.2)),(17,.fn (.func 248) [] [.pb 2 0,.pb 3 0,.pb 4 0])],[(0,.box 1 [.d (.t false)] 4),(1,.box 0 [.d (.i a0.Bits),.d (.i a0.Hashes),.d (.i a0.Salt),sl eB a0.B] 98)],[],5⟩) (pJ fun x s=>Iy a0 x s) () hd (via fJ hyJ rfl fun g R h=>Qi q4 g R h) rfl (fun _=>rfl) (fun _=>rfl) (fun _=>rfl) (fun _=>rfl) ?_ ?_ ?_ ?_
  ·intro s1 b7 s' hp l D0 As η0 m0 hd Ja ba;exact gb ba hd () trivial
  ·intro s1 b7 s' hp l D0 As η0 m0 hd Jb bb Jr br;obtain⟨z1,q5,hp⟩:=AlN.1 hp;subst hp;unfold Iy at q5;dsimp only at q5;refine oB q5 fun _ q6 q5=>gx eB 1 q6<|gi q5 ?_ ?_<;>intro _ q5
   ·obtain rfl:=AlC q5;exact AgK br hd ((),1) rfl
   obtain rfl:=AlC q5;exact gb bb hd () rfl
  ·intro x hx;obtain⟨hj1,rfl⟩:=ZJ hx;rw[AlH hj1]at hm;exact AlC hm▸gE
  intro y hy;obtain⟨hj1,rfl⟩:=ZI hy;rw[AlG hj1]at hm;exact AlC hm▸gE
def MX (a0:g_api_Sieve)(k0:Int):Option (Bool×Int):=Ab (LL a0 k0) fun x1=>some ((!x1),k0)
theorem Re {a0 k0 r}(hm:MX a0 k0=some r):Sp prog 86 [ag (Ag a0),.pb 0 0] [.box 0 [.d (.i k0)] 3] 1 (is (.d (.t r.1)) [.box 0 [.d (.i r.2)] 3] 1):=by
 refine sq ?_;intros;refine gA hm QX fun _ q1 hm=> ?_;exact AlC hm▸gE
def EB (a0:List g_api_Sieve)(i1:Int)(s1:Int):Option ((Int)⊕(Int×Int)):=Ab (idx a0 (i1:Int)) fun x3=>Ab (MX x3 s1) fun x4=>if x4.1=true then some (.inr ((i1:Int),x4.2))else some (.inl x4.2)
def CR (a0:List g_api_Sieve)(k0:Int):Option (Int×Int):=Ab (BV (EB a0) a0.length 0 k0) fun x1=>match x1 with| .inr r=>some r| .inl y1=>some ((-1),y1)
theorem E2 {a0 k0 r}(hm:CR a0 k0=some r):Sp prog 85 [sl Ag a0,.fn (.func 86) [] [.pb 0 0]] [.box 0 [.d (.i k0)] 3] 1 (is (.d (.i r.1)) [.box 0 [.d (.i r.2)] 3] 1):=by
 refine sq ?_;intros;refine oB hm fun _ q1 hm=>IU 0 (E:=Ag) (xs:=a0) 6 fun hle1=>gF (EN _ _ _) q1 (fun p0 p=>⟨[(0,sl Ag a0),(1,.fn (.func 86) [] [.pb 0 0]),(7,.d (.i (a0.length:Int))),(8,.d (.i p0))],[(0,.box 0 [.d (.i p)] 3)],[],1⟩) fun i1 s1 Jl bl1=>cN bl1 (a0.length:Int) (fun _ q4 bl1=> ?_) fun e=> ?_
 ·refine oB q4 fun _ q6 q4=>gx Ag 4 q6<|gD q4 Re fun _ q7 q4=>gi q4 ?_ ?_<;>intro _ q4
  ·obtain rfl:=nT bl1 q4;exact AlC hm▸gE
  exact gT bl1 hle1 q4
 subst e;let y1:=s1;exact AlC hm▸gE
def m_cascade_Has (a0:g_api_Cascade)(a1:Int):Option Bool:=Ab (AN a0) fun x1=>if(x1 !=0)=true then some false else Ab (CR a0.Levels a1) fun x2=>Ab (if(decide (x2.1<0))=true then some (a0.Levels.length:Int)else some x2.1) fun x3=>some ((HZ x3 1)==1)
theorem Ut {a0 a1 r}(hm:m_cascade_Has a0 a1=some r):Sf prog 28 [ag (Jt a0),.d (.i a1)] (.d (.t r)):=by
 refine sq fun D0 As η0 m0 hd=>gA hm JJ fun _ q1 hm=>gi hm ?_ ?_<;>intro _ hm
 ·exact AlC hm▸gE
 refine gD hm E2 fun x2 q2 hm=>oB hm fun x3 q3 hm=>gj (fun(_:Unit)=>⟨[(5,.d (.i x3)),(3,.pb 1 0),(2,.pb 0 0)],[(0,.box 1 [.d (.i x2.2)] 3),(1,.box 0 [.d (.i a0.Day),sl Ag a0.Levels] 29)],[],2⟩) (fun _=>True) (fun Jp bk1=> ?_) fun _ _=> ?_
 ·refine gi q3 ?_ ?_<;>intro _ q3
  ·obtain rfl:=AlC q3;exact gb bk1 hd () trivial
  obtain rfl:=AlC q3;exact gb bk1 hd () trivial
 exact AlC hm▸gE
def Dz (k0:g_api_Client)(k1:g_api_Offer):Option (Int×g_api_Client×g_api_Offer):=Ab (idx k1.Path 0) fun x1=>Ab (m_cascade_Has k0.Cascade x1.Serial) fun x2=>if x2=true then some (270,k0,k1)else some (0,k0,k1)
theorem Pq {k0 k1 r}(hm:Dz k0 k1=some r):Sp prog 70 [.pb 0 0,.pb 1 0] [.box 0 [.d (.s k0.Who),sl Ac k0.Roots,sl Ai k0.Logs,sl Af k0.Pool.L,.d (.i k0.Cascade.Day),sl Ag k0.Cascade.Levels,.d (.i k0.View)] 31,.box 1 [sl Ac k1.Path,sl A6 k1.Where] 52] 2 (is (.d (.i r.1)) [.box 0 [.d (.s r.2.1.Who),.d (.sl _ Ac r.2.1.Roots),.d (.sl _ Ai r.2.1.Logs),.d (.sl _ Af r.2.1.Pool.L),.d (.i r.2.1.Cascade.Day),.d (.sl _ Ag r.2.1.Cascade.Levels),.d (.i r.2.1.View)] 31,.box 1 [.d (.sl _ Ac r.2.2.Path),.d (.sl _ A6 r.2.2.Where)] 52] 2):=by
 refine sq ?_;intros;refine oB hm fun _ q1 hm=>gx Ac 13 q1<|gA hm Ut fun _ q2 hm=>gi hm ?_ ?_<;>intro _ hm
 ·exact AlC hm▸gE
 exact AlC hm▸gE
def AD (i1:Int)(s1:ByteArray×(List g_api_Cert)×(List g_api_Key)×(List g_api_Head)×Int×(List g_api_Sieve)×Int×Int×(List g_api_Cert)×(List g_api_Place)×ByteArray×UInt64×UInt64×ByteArray×(List g_api_Cert)×(List g_api_Key)×(List g_api_Head)×Int×(List g_api_Sieve)×Int×(List g_api_Promise)):Option ((ByteArray×(List g_api_Cert)×(List g_api_Key)×(List g_api_Head)×Int×(List g_api_Sieve)×Int×Int×(List g_api_Cert)×(List g_api_Place)×ByteArray×UInt64×UInt64×ByteArray×(List g_api_Cert)×(List g_api_Key)×(List g_api_Head)×Int×(List g_api_Sieve)×Int×(List g_api_Promise))⊕(Int×g_api_Client×Int×g_api_Offer×ByteArray×(UInt64×UInt64)×Aj×(List g_api_Promise))):=if i1=0 then Ab (DE (⟨s1.1,s1.2.1,s1.2.2.1,(⟨s1.2.2.2.1⟩:g_api_Pool),(⟨s1.2.2.2.2.1,s1.2.2.2.2.2.1⟩:g_api_Cascade),s1.2.2.2.2.2.2.1⟩:g_api_Client)) fun x3=>if(x3.1 !=0)=true then some (.inr (x3.1,x3.2,s1.2.2.2.2.2.2.2.1,(⟨s1.2.2.2.2.2.2.2.2.1,s1.2.2.2.2.2.2.2.2.2.1⟩:g_api_Offer),s1.2.2.2.2.2.2.2.2.2.2.1,(s1.2.2.2.2.2.2.2.2.2.2.2.1,s1.2.2.2.2.2.2.2.2.2.2.2.2.1),(⟨(⟨s1.2.2.2.2.2.2.2.2.2.2.2.2.2.1,s1.2.2.2.2.2.2.2.2.2.2.2.2.2.2.1,s1.2.2.2.2.2.2.2.2.2.2.2.2.2.2.2.1,(⟨s1.2.2.2.2.2.2.2.2.2.2.2.2.2.2.2.2.1⟩:g_api_Pool),(⟨s1.2.2.2.2.2.2.2.2.2.2.2.2.2.2.2.2.2.1,s1.2.2.2.2.2.2.2.2.2.2.2.2.2.2.2.2.2.2.1⟩:g_api_Cascade),s1.2.2.2.2.2.2.2.2.2.2.2.2.2.2.2.2.2.2.2.1⟩:g_api_Client)⟩:Aj),s1.2.2.2.2.2.2.2.2.2.2.2.2.2.2.2.2.2.2.2.2))else some (.inl (x3.2.Who,x3.2.Roots,x3.2.Logs,x3.2.Pool.L,x3.2.Cascade.Day,x3.2.Cascade.Levels,x3.2.View,s1.2.2.2.2.2.2.2.1,s1.2.2.2.2.2.2.2.2.1,s1.2.2.2.2.2.2.2.2.2.1,s1.2.2.2.2.2.2.2.2.2.2.1,s1.2.2.2.2.2.2.2.2.2.2.2.1,s1.2.2.2.2.2.2.2.2.2.2.2.2.1,s1.2.2.2.2.2.2.2.2.2.2.2.2.2.1,s1.2.2.2.2.2.2.2.2.2.2.2.2.2.2.1,s1.2.2.2.2.2.2.2.2.2.2.2.2.2.2.2.1,s1.2.2.2.2.2.2.2.2.2.2.2.2.2.2.2.2.1,s1.2.2.2.2.2.2.2.2.2.2.2.2.2.2.2.2.2.1,s1.2.2.2.2.2.2.2.2.2.2.2.2.2.2.2.2.2.2.1,s1.2.2.2.2.2.2.2.2.2.2.2.2.2.2.2.2.2.2.2.1,s1.2.2.2.2.2.2.2.2.2.2.2.2.2.2.2.2.2.2.2.2))else if i1=1 then Ab (DD s1.2.2.2.2.2.2.2.1 (⟨s1.1,s1.2.1,s1.2.2.1,(⟨s1.2.2.2.1⟩:g_api_Pool),(⟨s1.2.2.2.2.1,s1.2.2.2.2.2.1⟩:g_api_Cascade),s1.2.2.2.2.2.2.1⟩:g_api_Client) (⟨s1.2.2.2.2.2.2.2.2.1,s1.2.2.2.2.2.2.2.2.2.1⟩:g_api_Offer) s1.2.2.2.2.2.2.2.2.2.2.1) fun x4=>if(x4.1 !=0)=true then some (.inr (x4.1,x4.2.2.1,x4.2.1,x4.2.2.2.1,x4.2.2.2.2,(s1.2.2.2.2.2.2.2.2.2.2.2.1,s1.2.2.2.2.2.2.2.2.2.2.2.2.1),(⟨(⟨s1.2.2.2.2.2.2.2.2.2.2.2.2.2.1,s1.2.2.2.2.2.2.2.2.2.2.2.2.2.2.1,s1.2.2.2.2.2.2.2.2.2.2.2.2.2.2.2.1,(⟨s1.2.2.2.2.2.2.2.2.2.2.2.2.2.2.2.2.1⟩:g_api_Pool),(⟨s1.2.2.2.2.2.2.2.2.2.2.2.2.2.2.2.2.2.1,s1.2.2.2.2.2.2.2.2.2.2.2.2.2.2.2.2.2.2.1⟩:g_api_Cascade),s1.2.2.2.2.2.2.2.2.2.2.2.2.2.2.2.2.2.2.2.1⟩:g_api_Client)⟩:Aj),s1.2.2.2.2.2.2.2.2.2.2.2.2.2.2.2.2.2.2.2.2))else some (.inl (x4.2.2.1.Who,x4.2.2.1.Roots,x4.2.2.1.Logs,x4.2.2.1.Pool.L,x4.2.2.1.Cascade.Day,x4.2.2.1.Cascade.Levels,x4.2.2.1.View,x4.2.1,x4.2.2.2.1.Path,x4.2.2.2.1.Where,x4.2.2.2.2,s1.2.2.2.2.2.2.2.2.2.2.2.1,s1.2.2.2.2.2.2.2.2.2.2.2.2.1,s1.2.2.2.2.2.2.2.2.2.2.2.2.2.1,s1.2.2.2.2.2.2.2.2.2.2.2.2.2.2.1,s1.2.2.2.2.2.2.2.2.2.2.2.2.2.2.2.1,s1.2.2.2.2.2.2.2.2.2.2.2.2.2.2.2.2.1,s1.2.2.2.2.2.2.2.2.2.2.2.2.2.2.2.2.2.1,s1.2.2.2.2.2.2.2.2.2.2.2.2.2.2.2.2.2.2.1,s1.2.2.2.2.2.2.2.2.2.2.2.2.2.2.2.2.2.2.2.1,s1.2.2.2.2.2.2.2.2.2.2.2.2.2.2.2.2.2.2.2.2))else if i1=2 then Ab (DC (⟨s1.2.2.2.2.2.2.2.2.1,s1.2.2.2.2.2.2.2.2.2.1⟩:g_api_Offer) (s1.2.2.2.2.2.2.2.2.2.2.2.1,s1.2.2.2.2.2.2.2.2.2.2.2.2.1)) fun x5=>if(x5.1 !=0)=true then some (.inr (x5.1,(⟨s1.1,s1.2.1,s1.2.2.1,(⟨s1.2.2.2.1⟩:g_api_Pool),(⟨s1.2.2.2.2.1,s1.2.2.2.2.2.1⟩:g_api_Cascade),s1.2.2.2.2.2.2.1⟩:g_api_Client),s1.2.2.2.2.2.2.2.1,x5.2.1,s1.2.2.2.2.2.2.2.2.2.2.1,x5.2.2,(⟨(⟨s1.2.2.2.2.2.2.2.2.2.2.2.2.2.1,s1.2.2.2.2.2.2.2.2.2.2.2.2.2.2.1,s1.2.2.2.2.2.2.2.2.2.2.2.2.2.2.2.1,(⟨s1.2.2.2.2.2.2.2.2.2.2.2.2.2.2.2.2.1⟩:g_api_Pool),(⟨s1.2.2.2.2.2.2.2.2.2.2.2.2.2.2.2.2.2.1,s1.2.2.2.2.2.2.2.2.2.2.2.2.2.2.2.2.2.2.1⟩:g_api_Cascade),s1.2.2.2.2.2.2.2.2.2.2.2.2.2.2.2.2.2.2.2.1⟩:g_api_Client)⟩:Aj),s1.2.2.2.2.2.2.2.2.2.2.2.2.2.2.2.2.2.2.2.2))else some (.inl (s1.1,s1.2.1,s1.2.2.1,s1.2.2.2.1,s1.2.2.2.2.1,s1.2.2.2.2.2.1,s1.2.2.2.2.2.2.1,s1.2.2.2.2.2.2.2.1,x5.2.1.Path,x5.2.1.Where,s1.2.2.2.2.2.2.2.2.2.2.1,x5.2.2.1,x5.2.2.2,s1.2.2.2.2.2.2.2.2.2.2.2.2.2.1,s1.2.2.2.2.2.2.2.2.2.2.2.2.2.2.1,s1.2.2.2.2.2.2.2.2.2.2.2.2.2.2.2.1,s1.2.2.2.2.2.2.2.2.2.2.2.2.2.2.2.2.1,s1.2.2.2.2.2.2.2.2.2.2.2.2.2.2.2.2.2.1,s1.2.2.2.2.2.2.2.2.2.2.2.2.2.2.2.2.2.2.1,s1.2.2.2.2.2.2.2.2.2.2.2.2.2.2.2.2.2.2.2.1,s1.2.2.2.2.2.2.2.2.2.2.2.2.2.2.2.2.2.2.2.2))else if i1=3 then Ab (DB (⟨(⟨s1.2.2.2.2.2.2.2.2.2.2.2.2.2.1,s1.2.2.2.2.2.2.2.2.2.2.2.2.2.2.1,s1.2.2.2.2.2.2.2.2.2.2.2.2.2.2.2.1,(⟨s1.2.2.2.2.2.2.2.2.2.2.2.2.2.2.2.2.1⟩:g_api_Pool),(⟨s1.2.2.2.2.2.2.2.2.2.2.2.2.2.2.2.2.2.1,s1.2.2.2.2.2.2.2.2.2.2.2.2.2.2.2.2.2.2.1⟩:g_api_Cascade),s1.2.2.2.2.2.2.2.2.2.2.2.2.2.2.2.2.2.2.2.1⟩:g_api_Client)⟩:Aj) (⟨s1.2.2.2.2.2.2.2.2.1,s1.2.2.2.2.2.2.2.2.2.1⟩:g_api_Offer) (s1.2.2.2.2.2.2.2.2.2.2.2.1,s1.2.2.2.2.2.2.2.2.2.2.2.2.1) s1.2.2.2.2.2.2.2.2.2.2.2.2.2.2.2.2.2.2.2.2) fun x6=>if(x6.1 !=0)=true then some (.inr (x6.1,(⟨s1.1,s1.2.1,s1.2.2.1,(⟨s1.2.2.2.1⟩:g_api_Pool),(⟨s1.2.2.2.2.1,s1.2.2.2.2.2.1⟩:g_api_Cascade),s1.2.2.2.2.2.2.1⟩:g_api_Client),s1.2.2.2.2.2.2.2.1,x6.2.2.1,s1.2.2.2.2.2.2.2.2.2.2.1,x6.2.2.2.1,x6.2.1,x6.2.2.2.2))else some (.inl (s1.1,s1.2.1,s1.2.2.1,s1.2.2.2.1,s1.2.2.2.2.1,s1.2.2.2.2.2.1,s1.2.2.2.2.2.2.1,s1.2.2.2.2.2.2.2.1,x6.2.2.1.Path,x6.2.2.1.Where,s1.2.2.2.2.2.2.2.2.2.2.1,x6.2.2.2.1.1,x6.2.2.2.1.2,x6.2.1.Client.Who,x6.2.1.Client.Roots,x6.2.1.Client.Logs,x6.2.1.Client.Pool.L,x6.2.1.Client.Cascade.Day,x6.2.1.Client.Cascade.Levels,x6.2.1.Client.View,x6.2.2.2.2))else if i1=4 then Ab (DA s1.2.2.2.2.2.2.2.2.2.2.2.2.2.2.2.2.2.2.2.2 (⟨(⟨s1.2.2.2.2.2.2.2.2.2.2.2.2.2.1,s1.2.2.2.2.2.2.2.2.2.2.2.2.2.2.1,s1.2.2.2.2.2.2.2.2.2.2.2.2.2.2.2.1,(⟨s1.2.2.2.2.2.2.2.2.2.2.2.2.2.2.2.2.1⟩:g_api_Pool),(⟨s1.2.2.2.2.2.2.2.2.2.2.2.2.2.2.2.2.2.1,s1.2.2.2.2.2.2.2.2.2.2.2.2.2.2.2.2.2.2.1⟩:g_api_Cascade),s1.2.2.2.2.2.2.2.2.2.2.2.2.2.2.2.2.2.2.2.1⟩:g_api_Client)⟩:Aj) (s1.2.2.2.2.2.2.2.2.2.2.2.1,s1.2.2.2.2.2.2.2.2.2.2.2.2.1) (⟨s1.2.2.2.2.2.2.2.2.1,s1.2.2.2.2.2.2.2.2.2.1⟩:g_api_Offer)) fun x7=>if(x7.1 !=0)=true then some (.inr (x7.1,(⟨s1.1,s1.2.1,s1.2.2.1,(⟨s1.2.2.2.1⟩:g_api_Pool),(⟨s1.2.2.2.2.1,s1.2.2.2.2.2.1⟩:g_api_Cascade),s1.2.2.2.2.2.2.1⟩:g_api_Client),s1.2.2.2.2.2.2.2.1,x7.2.2.2.2,s1.2.2.2.2.2.2.2.2.2.2.1,x7.2.2.2.1,x7.2.2.1,x7.2.1))else some (.inl (s1.1,s1.2.1,s1.2.2.1,s1.2.2.2.1,s1.2.2.2.2.1,s1.2.2.2.2.2.1,s1.2.2.2.2.2.2.1,s1.2.2.2.2.2.2.2.1,x7.2.2.2.2.Path,x7.2.2.2.2.Where,s1.2.2.2.2.2.2.2.2.2.2.1,x7.2.2.2.1.1,x7.2.2.2.1.2,x7.2.2.1.Client.Who,x7.2.2.1.Client.Roots,x7.2.2.1.Client.Logs,x7.2.2.1.Client.Pool.L,x7.2.2.1.Client.Cascade.Day,x7.2.2.1.Client.Cascade.Levels,x7.2.2.1.Client.View,x7.2.1))else Ab (Dz (⟨s1.1,s1.2.1,s1.2.2.1,(⟨s1.2.2.2.1⟩:g_api_Pool),(⟨s1.2.2.2.2.1,s1.2.2.2.2.2.1⟩:g_api_Cascade),s1.2.2.2.2.2.2.1⟩:g_api_Client) (⟨s1.2.2.2.2.2.2.2.2.1,s1.2.2.2.2.2.2.2.2.2.1⟩:g_api_Offer)) fun x8=>if(x8.1 !=0)=true then some (.inr (x8.1,x8.2.1,s1.2.2.2.2.2.2.2.1,x8.2.2,s1.2.2.2.2.2.2.2.2.2.2.1,(s1.2.2.2.2.2.2.2.2.2.2.2.1,s1.2.2.2.2.2.2.2.2.2.2.2.2.1),(⟨(⟨s1.2.2.2.2.2.2.2.2.2.2.2.2.2.1,s1.2.2.2.2.2.2.2.2.2.2.2.2.2.2.1,s1.2.2.2.2.2.2.2.2.2.2.2.2.2.2.2.1,(⟨s1.2.2.2.2.2.2.2.2.2.2.2.2.2.2.2.2.1⟩:g_api_Pool),(⟨s1.2.2.2.2.2.2.2.2.2.2.2.2.2.2.2.2.2.1,s1.2.2.2.2.2.2.2.2.2.2.2.2.2.2.2.2.2.2.1⟩:g_api_Cascade),s1.2.2.2.2.2.2.2.2.2.2.2.2.2.2.2.2.2.2.2.1⟩:g_api_Client)⟩:Aj),s1.2.2.2.2.2.2.2.2.2.2.2.2.2.2.2.2.2.2.2.2))else some (.inl (x8.2.1.Who,x8.2.1.Roots,x8.2.1.Logs,x8.2.1.Pool.L,x8.2.1.Cascade.Day,x8.2.1.Cascade.Levels,x8.2.1.View,s1.2.2.2.2.2.2.2.1,x8.2.2.Path,x8.2.2.Where,s1.2.2.2.2.2.2.2.2.2.2.1,s1.2.2.2.2.2.2.2.2.2.2.2.1,s1.2.2.2.2.2.2.2.2.2.2.2.2.1,s1.2.2.2.2.2.2.2.2.2.2.2.2.2.1,s1.2.2.2.2.2.2.2.2.2.2.2.2.2.2.1,s1.2.2.2.2.2.2.2.2.2.2.2.2.2.2.2.1,s1.2.2.2.2.2.2.2.2.2.2.2.2.2.2.2.2.1,s1.2.2.2.2.2.2.2.2.2.2.2.2.2.2.2.2.2.1,s1.2.2.2.2.2.2.2.2.2.2.2.2.2.2.2.2.2.2.1,s1.2.2.2.2.2.2.2.2.2.2.2.2.2.2.2.2.2.2.2.1,s1.2.2.2.2.2.2.2.2.2.2.2.2.2.2.2.2.2.2.2.2))
def CM (k0:g_api_Client)(k1:Int)(k2:g_api_Offer)(k3:ByteArray)(k4:UInt64×UInt64)(k5:Aj)(k6:List g_api_Promise):Option (Int×g_api_Client×Int×g_api_Offer×ByteArray×(UInt64×UInt64)×Aj×(List g_api_Promise)):=Ab (BV AD 6 0 (k0.Who,k0.Roots,k0.Logs,k0.Pool.L,k0.Cascade.Day,k0.Cascade.Levels,k0.View,k1,k2.Path,k2.Where,k3,k4.1,k4.2,k5.Client.Who,k5.Client.Roots,k5.Client.Logs,k5.Client.Pool.L,k5.Client.Cascade.Day,k5.Client.Cascade.Levels,k5.Client.View,k6)) fun x1=>match x1 with| .inr r=>some r| .inl y1=>some (0,(⟨y1.1,y1.2.1,y1.2.2.1,(⟨y1.2.2.2.1⟩:g_api_Pool),(⟨y1.2.2.2.2.1,y1.2.2.2.2.2.1⟩:g_api_Cascade),y1.2.2.2.2.2.2.1⟩:g_api_Client),y1.2.2.2.2.2.2.2.1,(⟨y1.2.2.2.2.2.2.2.2.1,y1.2.2.2.2.2.2.2.2.2.1⟩:g_api_Offer),y1.2.2.2.2.2.2.2.2.2.2.1,(y1.2.2.2.2.2.2.2.2.2.2.2.1,y1.2.2.2.2.2.2.2.2.2.2.2.2.1),(⟨(⟨y1.2.2.2.2.2.2.2.2.2.2.2.2.2.1,y1.2.2.2.2.2.2.2.2.2.2.2.2.2.2.1,y1.2.2.2.2.2.2.2.2.2.2.2.2.2.2.2.1,(⟨y1.2.2.2.2.2.2.2.2.2.2.2.2.2.2.2.2.1⟩:g_api_Pool),(⟨y1.2.2.2.2.2.2.2.2.2.2.2.2.2.2.2.2.2.1,y1.2.2.2.2.2.2.2.2.2.2.2.2.2.2.2.2.2.2.1⟩:g_api_Cascade),y1.2.2.2.2.2.2.2.2.2.2.2.2.2.2.2.2.2.2.2.1⟩:g_api_Client)⟩:Aj),y1.2.2.2.2.2.2.2.2.2.2.2.2.2.2.2.2.2.2.2.2)
theorem HG {k0 k1 k2 k3 k4 k5 k6 r}(hm:CM k0 k1 k2 k3 k4 k5 k6=some r):Sp prog 42 [.bs 0 0 6 6] [.box 0 [.fn (.func 58) [] [.pb 1 0],.fn (.func 59) [] [.pb 2 0,.pb 1 0,.pb 3 0,.pb 4 0],.fn (.func 61) [] [.pb 3 0,.pb 5 0],.fn (.func 62) [] [.pb 6 0,.pb 3 0,.pb 5 0,.pb 7 0],.fn (.func 64) [] [.pb 7 0,.pb 6 0,.pb 5 0,.pb 3 0],.fn (.func 70) [] [.pb 1 0,.pb 3 0]] 106,.box 1 [.d (.s k0.Who),sl Ac k0.Roots,sl Ai k0.Logs,sl Af k0.Pool.L,.d (.i k0.Cascade.Day),sl Ag k0.Cascade.Levels,.d (.i k0.View)] 31,.box 2 [.d (.i k1)] 3,.box 3 [sl Ac k2.Path,sl A6 k2.Where] 52,.box 4 [.d (.s k3)] 9,.box 5 [.d (.u k4.1),.d (.u k4.2)] 34,.box 6 [.d (.s k5.Client.Who),sl Ac k5.Client.Roots,sl Ai k5.Client.Logs,sl Af k5.Client.Pool.L,.d (.i k5.Client.Cascade.Day),sl Ag k5.Client.Cascade.Levels,.d (.i k5.Client.View)] 110,.box 7 [sl Ad k6] 57] 8 (is (.d (.i r.1)) [.box 1 [.d (.s r.2.1.Who),.d (.sl _ Ac r.2.1.Roots),.d (.sl _ Ai r.2.1.Logs),.d (.sl _ Af r.2.1.Pool.L),.d (.i r.2.1.Cascade.Day),.d (.sl _ Ag r.2.1.Cascade.Levels),.d (.i r.2.1.View)] 31,.box 2 [.d (.i r.2.2.1)] 3,.box 3 [.d (.sl _ Ac r.2.2.2.1.Path),.d (.sl _ A6 r.2.2.2.1.Where)] 52,.box 4 [.d (.s r.2.2.2.2.1)] 9,.box 5 [.d (.u r.2.2.2.2.2.1.1),.d (.u r.2.2.2.2.2.1.2)] 34,.box 6 [.d (.s r.2.2.2.2.2.2.1.Client.Who),.d (.sl _ Ac r.2.2.2.2.2.2.1.Client.Roots),.d (.sl _ Ai r.2.2.2.2.2.2.1.Client.Logs),.d (.sl _ Af r.2.2.2.2.2.2.1.Client.Pool.L),.d (.i r.2.2.2.2.2.2.1.Client.Cascade.Day),.d (.sl _ Ag r.2.2.2.2.2.2.1.Client.Cascade.Levels),.d (.i r.2.2.2.2.2.2.1.Client.View)] 110,.box 7 [.d (.sl _ Ad r.2.2.2.2.2.2.2)] 57] 8):=by
 refine sq ?_;intros;refine oB hm fun _ q1 hm=>gF (EN _ 6 _) q1 (fun p0 (p_0,p_1,p_2,p_3,p_4,p_5,p_6,p_7,p_8,p_9,p_10,p_11,p_12,p_13,p_14,p_15,p_16,p_17,p_18,p_19,p_20)=>⟨[(6,.bs 0 0 6 6),(7,.d (.i 6)),(8,.d (.i p0))],[(0,.box 0 [.fn (.func 58) [] [.pb 1 0],.fn (.func 59) [] [.pb 2 0,.pb 1 0,.pb 3 0,.pb 4 0],.fn (.func 61) [] [.pb 3 0,.pb 5 0],.fn (.func 62) [] [.pb 6 0,.pb 3 0,.pb 5 0,.pb 7 0],.fn (.func 64) [] [.pb 7 0,.pb 6 0,.pb 5 0,.pb 3 0],.fn (.func 70) [] [.pb 1 0,.pb 3 0]] 106),(1,.box 1 [.d (.s p_0),sl Ac p_1,sl Ai p_2,sl Af p_3,.d (.i p_4),sl Ag p_5,.d (.i p_6)] 31),(2,.box 2 [.d (.i p_7)] 3),(3,.box 3 [sl Ac p_8,sl A6 p_9] 52),(4,.box 4 [.d (.s p_10)] 9),(5,.box 5 [.d (.u p_11),.d (.u p_12)] 34),(6,.box 6 [.d (.s p_13),sl Ac p_14,sl Ai p_15,sl Af p_16,.d (.i p_17),sl Ag p_18,.d (.i p_19)] 110),(7,.box 7 [sl Ad p_20] 57)],[],8⟩) fun i1 s1 Jl bl1=>cN bl1 (6:Int) (fun _ q4 bl1=> ?_) fun e=> ?_
 ·obtain rfl|rfl|rfl|rfl|rfl|rfl:i1=0∨i1=1∨i1=2∨i1=3∨i1=4∨i1=5:=by have h:=bl1.1.1; change i1<6 at h; omega
  ·refine gD q4 Pw fun _ q6 q4=>gi q4 ?_ ?_<;>intro _ q4
   ·obtain rfl:=nT bl1 q4;exact AlC hm▸gE
   exact gT bl1 lk q4
  ·refine gD q4 Pv fun _ q7 q4=>gi q4 ?_ ?_<;>intro _ q4
   ·obtain rfl:=nT bl1 q4;exact AlC hm▸gE
   exact gT bl1 lk q4
  ·refine gD q4 Pu fun _ q8 q4=>gi q4 ?_ ?_<;>intro _ q4
   ·obtain rfl:=nT bl1 q4;exact AlC hm▸gE
   exact gT bl1 lk q4
  ·refine gD q4 Pt fun _ q9 q4=>gi q4 ?_ ?_<;>intro _ q4
   ·obtain rfl:=nT bl1 q4;exact AlC hm▸gE
   exact gT bl1 lk q4
  ·refine gD q4 Ps fun _ q10 q4=>gi q4 ?_ ?_<;>intro _ q4
   ·obtain rfl:=nT bl1 q4;exact AlC hm▸gE
   exact gT bl1 lk q4
  refine gD q4 Pq fun _ q11 q4=>gi q4 ?_ ?_<;>intro _ q4
  ·obtain rfl:=nT bl1 q4;exact AlC hm▸gE
  exact gT bl1 lk q4
 subst e;let y1:=s1;exact AlC hm▸gE
def Ak (a0:g_api_Client)(a1:g_api_Offer)(a2:ByteArray)(a3:Int):Option Int:=Ab (CM a0 a3 a1 a2 (0,0) (⟨a0⟩:Aj) ([]:List g_api_Promise)) fun x1=>some x1.1
theorem Cr {a0 a1 a2 a3 r}(hm:Ak a0 a1 a2 a3=some r):Sf prog 23 [ag (Gd a0),ag (Yq a1),.d (.s a2),.d (.i a3)] (.d (.i r)):=by
 refine sq ?_;intros;refine gfs<|gD hm HG fun _ q1 hm=> ?_;exact AlC hm▸gE
def PI (a0:UInt64):Option Bool:=bnd ((((a0.toNat:Int)==0)||(decide ((a0.toNat:Int)≥1152921504606845789)))) fun x1=>some x1
theorem Z9 {a0 r}(hm:PI a0=some r):Sf prog 161 [.d (.u a0)] (.d (.t r)):=by
 refine sq ?_;intros;refine bE hm ?_;intro _ hm;exact AlC hm▸gE
def Gj (a0:UInt64):Option (UInt64×Int):=Ab (PI a0) fun x1=>if x1=true then some (0,1)else Ab (Ea a0) fun x2=>some (x2,0)
theorem Lw {a0 r}(hm:Gj a0=some r):Sf prog 88 [.d (.u a0)] (.tup [.d (.u r.1),.d (.i r.2)]):=by
 refine sq ?_;intros;refine gA hm Z9 fun _ q1 hm=>gi hm ?_ ?_<;>intro _ hm
 ·exact AlC hm▸gE
 refine gA hm Lz fun _ q2 hm=> ?_;exact AlC hm▸gE
def JP (a0:ByteArray)(a1:List (List UInt8)):Option UInt64:=Ab (Cc a0 a1) fun x1=>Ab (Gx x1 1152921504606845788) fun x2=>some (x2+1)
theorem QW {a0 a1 r}(hm:JP a0 a1=some r):Sf prog 163 [.d (.s a0),sl (eL eB) a1] (.d (.u r)):=by
 refine sq ?_;intros;refine gA hm EP fun _ q1 hm=>gA hm No fun _ q2 hm=> ?_;exact AlC hm▸gE
def Gi (a0:List UInt8):Option UInt64:=Ab (JP (⟨#[115,101,99,114,101,116]⟩:ByteArray) ([a0]:List (List UInt8))) fun x1=>some x1
theorem Lv {a0 r}(hm:Gi a0=some r):Sf prog 89 [sl eB a0] (.d (.u r)):=by
 refine sq ?_;intros;refine gq (eL eB) 1 [a0]<|gA hm QW fun _ q1 hm=> ?_;exact AlC hm▸gE
def EE (a0:UInt64)(a1:UInt64)(a2:UInt64):Option UInt64:=if a0≠0 then if a0≠0 then Ab (Hx (J5 (a1%a0) (a2%a0)) ((a1%a0)+(a2%a0)) a0) fun x1=>some x1 else none else none
theorem Pn {a0 a1 a2 r}(hm:EE a0 a1 a2=some r):Sf prog 259 [.d (.u a0),.d (.u a1),.d (.u a2)] (.d (.u r)):=by
 refine sq ?_;intros;unfold EE at hm;obtain⟨q1,hm⟩:=BI hm;refine Ae0 (d:= .u a0) (r:= .u (a1%a0)) (fun h=>q1) ?_;obtain⟨q2,hm⟩:=BI hm;refine Ae0 (d:= .u a0) (r:= .u (a2%a0)) (fun h=>q2)<|Ail (p:=(a1%a0)) (q:=(a2%a0)) func305<|gA hm P2 fun _ q3 hm=> ?_;exact AlC hm▸gE
def LR (a0:UInt64)(a1:UInt64):Option UInt64:=Ab (EE 1152921504606845789 a0 a1) fun x1=>some x1
theorem Up {a0 a1 r}(hm:LR a0 a1=some r):Sf prog 186 [.d (.u a0),.d (.u a1)] (.d (.u r)):=by
 refine sq ?_;intros;refine gA hm Pn fun _ q1 hm=> ?_;exact AlC hm▸gE
def LQ (a0:UInt64)(a1:UInt64):Option UInt64:=Ab (C2 1152921504606845789 a0 a1) fun x1=>some x1
theorem Uo {a0 a1 r}(hm:LQ a0 a1=some r):Sf prog 187 [.d (.u a0),.d (.u a1)] (.d (.u r)):=by
 refine sq ?_;intros;refine gA hm Gg fun _ q1 hm=> ?_;exact AlC hm▸gE
def Hi (a0:UInt64)(a1:List UInt8):Option (g_api_Sig×Int):=Ab (Gj a0) fun x1=>if(x1.2 !=0)=true then some ((⟨0,0⟩:g_api_Sig),x1.2)else Ab (FX a0) fun x2=>Ab (JP (⟨#[110,111,110,99,101]⟩:ByteArray) ([x2,a1]:List (List UInt8))) fun x3=>Ab (Ea x3) fun x4=>Ab (Dg x4 x1.1 a1) fun x5=>Ab (LQ x5 a0) fun x6=>Ab (LR x6 x3) fun x7=>some ((⟨x5,x7⟩:g_api_Sig),0)
theorem Lu {a0 a1 r}(hm:Hi a0 a1=some r):Sf prog 101 [.d (.u a0),sl eB a1] (.tup [ag (Lq r.1),.d (.i r.2)]):=by
 refine sq ?_;intros;refine gA hm Lw fun _ q1 hm=>gi hm ?_ ?_<;>intro _ hm
 ·exact AlC hm▸gE
 refine gD hm Mk fun x2 q2 hm=>AaO (k:=1) (eL eB) ([x2,a1]:List (List UInt8)) (fun _=>rfl)<|gA hm QW fun _ q3 hm=>gA hm Lz fun _ q4 hm=>gA hm L4 fun _ q5 hm=>gA hm Uo fun _ q6 hm=>gA hm Up fun _ q7 hm=> ?_;exact AlC hm▸gE
def Fh (a0:g_api_Cert)(a1:UInt8):Option (g_api_Cert×Bool):=Ab (J3 a0) fun x1=>Ab (Gi ([a1]:List UInt8)) fun x2=>Ab (Hi x2 x1.1) fun x3=>some ((⟨a0.Serial,a0.Issuer,a0.Subject,a0.Key,a0.Names,a0.From,a0.Until,a0.Ca,a0.Depth,a0.Permit,a0.Proms,x3.1⟩:g_api_Cert),((x1.2==0)&&(x3.2==0)))
theorem ND {a0 a1 r}(hm:Fh a0 a1=some r):Sf prog 90 [ag (Ac a0),.d (.b a1)] (.tup [ag (Ac r.1),.d (.t r.2)]):=by
 refine sq ?_;intros;refine gD hm Rc fun _ q1 hm=>gq eB 1 [a1]<|gA hm Lv fun _ q2 hm=>gD hm Lu fun _ q3 hm=> ?_;exact AlC hm▸gE
def HQ (a0:List UInt8):Option Bool:=bnd (((decide ((a0.length:Int)>0))&&(decide ((a0.length:Int)≤2048)))) fun x1=>some x1
theorem Oy {a0 r}(hm:HQ a0=some r):Sf prog 165 [sl eB a0] (.d (.t r)):=by
 refine sq ?_;intros;refine bE hm ?_;intro _ hm;exact AlC hm▸gE
def AT (a1:Int):Option (List g_api_Leaf):=Ab (if(decide (a1<0))=true then none else some ()) fun x1=>Ab (bnd ((w64 (a1-(w64 (0-((0:Nat):Int)))))) fun x3=>if(decide (x3>0))=true then if 0≤x3∧x3*32≤140737488355328∧x3≤140737488355328 then some ([]:List g_api_Leaf)else none else some ([]:List g_api_Leaf)) fun x2=>some x2
theorem G9 {m As w a1 r}(S:St m (As) w)(hm:AT a1=some r):
  C4 Tryz.prog 309 #[.slice none 0 0,vI a1] w fun v w'=> ∃(M:Mem),m≤M∧∃(rv0:Value) (rc0:List Value),St M ((row 2 rv0 rc0 r.length)::As) w'∧v=rv0∧CI M rc0 r:=by
 unfold AT at hm;have L0:=Mem.rfl' m;refine Pa (args:=[.slice none 0 0,vI a1]) Tryz.func309 rfl Tryz.ntmps309 (AlS rfl)<|AY<|AB<|GJ (v:= .slice none 0 0) rfl<|AK<|nrm ?_;obtain⟨x1,q1,hm⟩:=Ae hm;have L1:=Mem.rfl' m;refine AY<|Lt [5,6,7] (fun f' w'=> ∃(M1:Mem),m≤M1∧St M1 (As) w'∧QC f' []) ?_ ?_
 ·refine AY<|AB<|A9 (v:=vI a1) rfl<|Ab6 (m:=a1) (n:=0) rfl rfl<|AK<|nrm<|JC (t:=(decide (a1<0))) rfl (fun hc1=> ?_) (fun hc1=> ?_)
  ·replace q1:=ifT hc1 q1;cases q1
  replace q1:=ifF hc1 q1;refine Gf<|nrm ?_;obtain rfl:=AlC q1;exact⟨Tt,m,L1,S,trivial⟩
 rintro f1 w1 ho ⟨m1,l1,S1,ha⟩;obtain⟨u1,rfl⟩:=LY (N:=27) ho ha;replace L0:=Mem.tr L0 l1;clear S;obtain⟨x2,q2,hm⟩:=Ae hm;have L2:=Mem.rfl' m1;refine AY<|Lt [0,1,8,9,10,11,12,13,14,15,16,17,18,19,20,21,22,23,24,25] (fun f' w'=> ∃(M2:Mem) (v1:Value) (c1:List Value),m1≤M2∧St M2 ((row 2 v1 c1 x2.length)::As) w'∧CI M2 c1 x2∧QC f' [(0,v1)]) ?_ ?_
 ·refine AY<|AB<|A9 (v:=vI a1) rfl<|A9 (v:= .slice none 0 0) rfl<|Ns rfl Tryz.underlying79<|A9 (v:= .slice none 0 0) rfl<|Rn (n:=0) rfl Tryz.underlying79<|ON (m:=0) (n:=((0:Nat):Int)) rfl rfl<|ON (m:=a1) (n:=(w64 (0-((0:Nat):Int)))) rfl rfl ?_;obtain⟨x3,q3,q2⟩:=AeB q2;refine GJ (v:=vI x3) (Al9 (fun z=>vI z) q3.symm)<|AK<|nrm<|AY<|AB<|A9 (v:=vI x3) rfl<|Aam (m:=x3) (n:=0) rfl rfl<|AK<|nrm ?_;refine JC (t:=(decide (x3>0))) rfl (fun hc2=> ?_) (fun hc2=> ?_)
  ·replace q2:=ifT hc2 q2;refine AB<|A9 (v:= .slice none 0 0) rfl<|A9 (v:= .slice none 0 0) rfl<|Ns rfl Tryz.underlying79<|Aca rfl Tryz.underlying79 Tryz.sizeOf222 rfl<|A9 (v:=vI x3) rfl ?_;obtain⟨q4,q2⟩:=BI q2;refine Ace (bytes:=32) (sz:=2) (k:=x3) (ti:=Tryz.t222) S1 rfl rfl q4 Tryz.underlying79 Tryz.underlying3 Tryz.type222 rfl rfl rfl rfl ?_;intro v2 c2 w2 S2;replace S2:St _ ((row 2 v2 c2 x3.toNat)::As) _:=S2;clear S1;refine A9 (v:= .slice none 0 0) rfl<|Rn (n:=0) rfl Tryz.underlying79<|Y5 (i:=0) S2 rfl rfl Tryz.underlying79 Tryz.sizeOf222 rfl (j:=0) rfl (Int.le_refl 0) (Ams _) ?_;intro v3 S3;rw[show c2.take ((0:Int).toNat*2)=[]from by simp]at S3;have h2:CI m1 [] ([]:List g_api_Leaf):=CI.nil;replace S3:St _ ((row 2 v3 [] ([]:List g_api_Leaf).length)::As) _:=S3;clear S2;refine GJ (v:=v3) rfl<|AK<|nrm ?_;obtain rfl:=AlC q2;exact⟨Tt,m1,_,_,L2,S3,h2,⟨rfl,trivial⟩⟩
  replace q2:=ifF hc2 q2;refine Gf<|nrm ?_;have S4:=St.rowNil S1 2;have h3:CI m1 [] ([]:List g_api_Leaf):=CI.nil;replace S4:St _ ((row 2 (.slice none 0 0) [] ([]:List g_api_Leaf).length)::As) _:=S4;clear S1;obtain rfl:=AlC q2;exact⟨Tt,m1,_,_,L2,S4,h3,⟨rfl,trivial⟩⟩
 rintro f2 w3 ho ⟨m2,v1,c1,l2,S5,h1,ha⟩;obtain⟨u2,rfl⟩:=LY (N:=27) ho ha;replace L0:=Mem.tr L0 l2;clear S1;refine AY<|AB<|A9 (v:=v1) rfl<|GJ (v:=v1) rfl<|AK<|nrm<|JB<|RE ?_;intro we hpd;replace S5:=St.pd S5 hpd;obtain rfl:=AlC hm;exact Abi [_] rfl ⟨rfl,trivial⟩ ⟨_,L0,_,_,S5,rfl,h1⟩
theorem Hd {a1 r}(hm:AT a1=some r):Sp prog 309 [.d (.v (.slice none 0 0)),.d (.i a1)] [] 0 (is (.ow 0) [.row 0 2 _ Am r] 1):=
 gnl call309 Abc (fun S=>G9 S hm)
def Cw (i1:Int)(x3:List g_api_Leaf)(s1:Int):Option (Int):=Ab (bnd ((w64 (s1+(x3.length:Int)))) fun x5=>if(decide (x5<0))=true then none else some x5) fun x4=>some x4
def Cv (i2:Int)(x9:List g_api_Leaf)(s2:(List g_api_Leaf)):Option ((List g_api_Leaf)):=Ab (app 32 s2 x9) fun x10=>some x10
def Bq (a0:List (List g_api_Leaf)):Option (List g_api_Leaf):=Ab (Ab (DP Cw a0 0 0) fun x2=>some x2) fun x1=>Ab (AT x1) fun x6=>Ab (Ab (DP Cv a0 0 x6) fun x8=>some x8) fun x7=>some x7
theorem HD {a0 r}(hm:Bq a0=some r):Sp prog 251 [sl (eL Am) a0] [] 0 (is (.ow 0) [.row 0 2 _ Am r] 1):=by
 refine sq ?_;intros;unfold Bq at hm;obtain⟨x1,q1,hm⟩:=Ae hm;refine oB q1 fun _ q2 q1=>IU 0 (E:=(eL Am)) (xs:=a0) 9 fun hle1=>gF (E0 _ _ _) q2 (fun p0 p=>⟨[(0,sl (eL Am) a0),(3,.d (.i p)),(9,sl (eL Am) a0),(10,.d (.i (a0.length:Int))),(11,.d (.i p0))],[],[],0⟩) fun i1 s1 Jl bl1=>c0 bl1 (fun _ _ q6 q5 bl1=> ?_) fun e=> ?_
 ·refine oB q5 fun _ q7 q5=>gx (eL Am) 1 q6<|bE q7 ?_;intro _ q7;refine gi q7 ?_ ?_<;>intro _ q7
  ·cases q7
  obtain rfl:=AlC q7;exact gM bl1 hle1 q5
 subst e;obtain rfl:=AlC q1;refine gD hm Hd fun _ q9 hm=> ?_;obtain⟨x7,q10,hm⟩:=Ae hm;refine oB q10 fun _ q11 q10=>IU 2 (E:=(eL Am)) (xs:=a0) 25 fun hle2=>gF (E0 _ _ _) q11 (fun p0 p=>⟨[(6,.ow 0),(25,sl (eL Am) a0),(26,.d (.i (a0.length:Int))),(27,.d (.i p0))],[(0,.row 0 2 _ Am p)],[],1⟩) fun i2 s2 Jl bl2=>c0 bl2 (fun _ _ q15 q14 bl2=> ?_) fun e=> ?_
 ·exact gx (eL Am) 1 q15<|oB q14 fun _ q16 q14=>gp Am 2 q16<|gM bl2 hle2 q14
 subst e;obtain rfl:=AlC q10;exact AlC hm▸gE
def Jv (a0:g_api_Log):Option (List g_api_Leaf):=Ab (Bq ([a0.L,a0.Wait]:List (List g_api_Leaf))) fun x1=>some x1
theorem Pl {a0 r}(hm:Jv a0=some r):Sp prog 166 [ag (Av a0)] [] 0 (is (.ow 0) [.row 0 2 _ Am r] 1):=by
 refine sq ?_;intros;refine gq (eL Am) 1 [a0.L,a0.Wait]<|gD hm HD fun _ q1 hm=> ?_;exact AlC hm▸gE
def HS (i1:Int)(x4:g_api_Leaf)(s1:(List (ByteArray×Bool))):Option (((List (ByteArray×Bool)))⊕Int):=Ab (HQ x4.Body) fun x5=>Ab (gu (!(!x5)) (Dp x4.At)) fun x6=>if(((!x5)||(!x6))||(lkB s1 (bs x4.Body)))=true then some (.inr 1)else if(lkI s1 (bs x4.Body) 0).isNone=true then some (.inl (s1++[((bs x4.Body),true)]))else none
def HR (a0:g_api_Log)(i2:Int)(x8:Int)(s2:Int):Option ((Int)⊕Int):=if((decide (x8≤s2))||(decide (x8≥(a0.L.length:Int))))=true then some (.inr 1)else some (.inl x8)
def EI (a0:g_api_Log):Option Int:=
 Ab (Dp a0.Id) fun x1=>
 if(((((!x1)||((a0.Key.toNat:Int)==0))||(decide ((a0.Key.toNat:Int)≥1152921504606845789)))||(decide (a0.Delay<0)))||(decide (a0.Delay>1000)))=true then
  some 1
 else
 Ab (Jv a0) fun x2=>
 Ab (DK HS x2 0 ([]:List (ByteArray×Bool))) fun x3=>match x3 with
 | .inr r=>some r
 | .inl y1=>
 Ab (DK (HR a0) a0.Hide 0 (-1)) fun x7=>match x7 with
 | .inr r=>some r
 | .inl y3=>
 if(decide ((y1.length:Int)>256))=true then
  some 2
 else
 some 0
theorem IG {a0 r}(hm:EI a0=some r):Sf prog 111 [ag (Av a0)] (.d (.i r)):=by
 refine sq ?_;intros;refine gA hm EO fun _ q1 hm=>gi hm ?_ ?_<;>intro _ hm
 ·exact AlC hm▸gE
 refine gmkm<|gD hm Pl fun x2 q2 hm=>oB hm fun _ q3 hm=>IU 0 (E:=Am) (xs:=x2) 35 fun hle1=>gF (ER _ _ _) q3 (fun p0 p=>⟨[(1,.pb 0 0),(3,.ow 1),(35,sl Am x2),(36,.d (.i (x2.length:Int))),(37,.d (.i p0)),(33,.ow 1)],[(0,.hp 1 (.mp p)),(1,.box 0 [.d (.i a0.Id),.d (.u a0.Key),.d (.i a0.Delay),sl Am a0.L,sl eI a0.Hide,sl Am a0.Wait] 82)],[],2⟩) fun i1 s1 Jl bl1=>cR bl1 (fun x4 _ q7 q6 bl1=> ?_) fun e=> ?_
 ·refine gx Am 2 q7<|gA q6 Oy fun _ q8 q6=>oB q6 fun _ q9 q6=>gcH q9 EO<|gbs (xs:=x4.Body)<|glk s1 (bs x4.Body)<|gi q6 ?_ ?_<;>intro _ q6
  ·obtain rfl:=nT bl1 q6;exact AlC hm▸gE
  refine gbs (xs:=x4.Body) ?_;obtain⟨q10,q6⟩:=BI q6;exact gup q10<|gT bl1 hle1 q6
 subst e;let y1:=s1;refine oB hm fun _ q11 hm=>IU 2 (E:=eI) (xs:=a0.Hide) 64 fun hle2=>gF (ER _ _ _) q11 (fun p0 p=>⟨[(1,.pb 0 0),(3,.ow 1),(6,.d (.i p)),(64,sl eI a0.Hide),(65,.d (.i (a0.Hide.length:Int))),(66,.d (.i p0)),(33,.ow 1)],[(0,.hp 1 (.mp y1)),(1,.box 0 [.d (.i a0.Id),.d (.u a0.Key),.d (.i a0.Delay),sl Am a0.L,sl eI a0.Hide,sl Am a0.Wait] 82)],[],2⟩) fun i2 s2 Jl bl2=>cR bl2 (fun _ _ q15 q14 bl2=> ?_) fun e=> ?_
 ·refine gx eI 1 q15<|gi q14 ?_ ?_<;>intro _ q14
  ·obtain rfl:=nT bl2 q14;exact AlC hm▸gE
  exact gT bl2 hle2 q14
 subst e;let y3:=s2;refine gln y1<|gi hm ?_ ?_<;>intro _ hm
 ·exact AlC hm▸gE
 exact AlC hm▸gE
def Li (a0:Int)(a1:List UInt8)(a2:Int):Option (g_api_Log×Int):=Ab (Gi a1) fun x1=>Ab (EI (⟨a0,x1,a2,[],[],[]⟩:g_api_Log)) fun x2=>if(x2 !=0)=true then some ((⟨0,0,0,[],[],[]⟩:g_api_Log),1)else some ((⟨a0,x1,a2,[],[],[]⟩:g_api_Log),0)
theorem Tj {a0 a1 a2 r}(hm:Li a0 a1 a2=some r):Sf prog 91 [.d (.i a0),sl eB a1,.d (.i a2)] (.tup [ag (Av r.1),.d (.i r.2)]):=by
 refine sq ?_;intros;refine gA hm Lv fun _ q1 hm=>gA hm IG fun _ q2 hm=>gi hm ?_ ?_<;>intro _ hm
 ·exact AlC hm▸gE
 exact AlC hm▸gE
def LU (a0:List UInt8)(a1:List UInt8):Option Bool:=some (eqS (bs a0) (bs a1))
theorem Uu {a0 a1 r}(hm:LU a0 a1=some r):Sf prog 110 [sl eB a0,sl eB a1] (.d (.t r)):=by
 refine sq ?_;intros;refine gbs (xs:=a0)<|gbs (xs:=a1) ?_;exact AlC hm▸gE
def MR (a0:g_api_Leaf)(k0:List UInt8):Option (Bool×(List UInt8)):=Ab (LU a0.Body k0) fun x1=>some (x1,k0)
theorem VQ {a0 k0 r}(hm:MR a0 k0=some r):Sp prog 168 [ag (Am a0),.pb 0 0] [.box 0 [sl eB k0] 96] 1 (is (.d (.t r.1)) [.box 0 [.d (.sl _ eB r.2)] 96] 1):=by
 refine sq ?_;intros;refine gA hm Uu fun _ q1 hm=> ?_;exact AlC hm▸gE
def B1 (a0:List g_api_Leaf):Option (List g_api_Leaf):=Ab (app 32 ([]:List g_api_Leaf) a0) fun x1=>some x1
theorem H5 {a0 r}(hm:B1 a0=some r):Sp prog 169 [sl Am a0] [] 0 (is (.ow 0) [.row 0 2 _ Am r] 1):=by
 refine sq ?_;intros;unfold B1 at hm;refine gnq Am a0 (fun he1=> ?_) ?_
 ·rw[he1]at hm;replace hm:(some ([]:List g_api_Leaf))=some _:=hm;refine R0 Am 2 2 ?_;exact AlC hm▸gE
 refine AaP (k:=2) Am ([]:List g_api_Leaf) (fun _=>rfl)<|oB hm fun _ q1 hm=>gp Am 2 q1 ?_;exact AlC hm▸gE
def Jq (a0:List UInt8):Option (List UInt8):=Ab (app 1 ([]:List UInt8) a0) fun x1=>some x1
theorem Uv {a0 r}(hm:Jq a0=some r):Sp prog 170 [sl eB a0] [] 0 (is (.ow 0) [.row 0 1 _ eB r] 1):=by
 refine sq ?_;intros;unfold Jq at hm;refine gnq eB a0 (fun he1=> ?_) ?_
 ·rw[he1]at hm;replace hm:(some ([]:List UInt8))=some _:=hm;refine R0 eB 2 1 ?_;exact AlC hm▸gE
 refine AaP (k:=1) eB ([]:List UInt8) (fun _=>rfl)<|oB hm fun _ q1 hm=>gp eB 1 q1 ?_;exact AlC hm▸gE
def A3 (a0:List g_api_Leaf)(i1:Int)(s1:(List UInt8)):Option (((List UInt8))⊕(Int×(List UInt8))):=Ab (idx a0 (i1:Int)) fun x3=>Ab (MR x3 s1) fun x4=>if x4.1=true then some (.inr ((i1:Int),x4.2))else some (.inl x4.2)
def Bd (a0:List g_api_Leaf)(k0:List UInt8):Option (Int×(List UInt8)):=Ab (BV (A3 a0) a0.length 0 k0) fun x1=>match x1 with| .inr r=>some r| .inl y1=>some ((-1),y1)
theorem Fp {a0 k0 r}(hm:Bd a0 k0=some r):Sp prog 167 [sl Am a0,.fn (.func 168) [] [.pb 0 0]] [.box 0 [sl eB k0] 96] 1 (is (.d (.i r.1)) [.box 0 [.d (.sl _ eB r.2)] 96] 1):=by
 refine sq ?_;intros;refine oB hm fun _ q1 hm=>IU 0 (E:=Am) (xs:=a0) 6 fun hle1=>gF (EN _ _ _) q1 (fun p0 p=>⟨[(0,sl Am a0),(1,.fn (.func 168) [] [.pb 0 0]),(7,.d (.i (a0.length:Int))),(8,.d (.i p0))],[(0,.box 0 [sl eB p] 96)],[],1⟩) fun i1 s1 Jl bl1=>cN bl1 (a0.length:Int) (fun _ q4 bl1=> ?_) fun e=> ?_
 ·refine oB q4 fun _ q6 q4=>gx Am 2 q6<|gD q4 VQ fun _ q7 q4=>gi q4 ?_ ?_<;>intro _ q4
  ·obtain rfl:=nT bl1 q4;exact AlC hm▸gE
  exact gT bl1 hle1 q4
 subst e;let y1:=s1;exact AlC hm▸gE
def Dc (a0:g_api_Log)(a1:List UInt8)(a2:Int):Option (g_api_Log×g_api_Promise×Int):=Ab (EI a0) fun x1=>if(x1 !=0)=true then some ((⟨0,0,0,[],[],[]⟩:g_api_Log),(⟨0,0,(0,0),(⟨0,0⟩:g_api_Sig)⟩:g_api_Promise),x1)else Ab (HQ a1) fun x2=>Ab (gu (!(!x2)) (Dp a2)) fun x3=>if((!x2)||(!x3))=true then some ((⟨0,0,0,[],[],[]⟩:g_api_Log),(⟨0,0,(0,0),(⟨0,0⟩:g_api_Sig)⟩:g_api_Promise),1)else Ab (Jv a0) fun x4=>Ab (Bd x4 a1) fun x5=>if(decide (x5.1≥0))=true then Ab (idx x4 x5.1) fun x6=>Ab (C5 x5.2) fun x7=>Ab (D2 (⟨a0.Id,x6.At,x7,(⟨0,0⟩:g_api_Sig)⟩:g_api_Promise)) fun x8=>Ab (Hi a0.Key x8) fun x9=>some (a0,(⟨a0.Id,x6.At,x7,x9.1⟩:g_api_Promise),x9.2)else if((x4.length:Int)==256)=true then some ((⟨0,0,0,[],[],[]⟩:g_api_Log),(⟨0,0,(0,0),(⟨0,0⟩:g_api_Sig)⟩:g_api_Promise),2)else Ab (B1 a0.Wait) fun x10=>Ab (Jq x5.2) fun x11=>Ab (app 32 x10 ([(⟨x11,a2⟩:g_api_Leaf)]:List g_api_Leaf)) fun x12=>Ab (C5 x5.2) fun x13=>Ab (D2 (⟨a0.Id,a2,x13,(⟨0,0⟩:g_api_Sig)⟩:g_api_Promise)) fun x14=>Ab (Hi a0.Key x14) fun x15=>some ((⟨a0.Id,a0.Key,a0.Delay,a0.L,a0.Hide,x12⟩:g_api_Log),(⟨a0.Id,a2,x13,x15.1⟩:g_api_Promise),x15.2)
theorem Tk {a0 a1 a2 r}(hm:Dc a0 a1 a2=some r):Sf prog 92 [ag (Av a0),sl eB a1,.d (.i a2)] (.tup [ag (Av r.1),ag (Ad r.2.1),.d (.i r.2.2)]):=by
 refine sq ?_;intros;refine gA hm IG fun _ q1 hm=>gi hm ?_ ?_<;>intro _ hm
 ·exact AlC hm▸gE
 refine gA hm Oy fun _ q2 hm=>oB hm fun _ q3 hm=>gcH q3 EO<|gi hm ?_ ?_<;>intro _ hm
 ·exact AlC hm▸gE
 refine gD hm Pl fun _ q4 hm=>gD hm Fp fun _ q5 hm=>gi hm ?_ ?_<;>intro _ hm
 ·refine oB hm fun _ q6 hm=>gx Am 2 q6<|gA hm Jd fun _ q7 hm=>gD hm IY fun _ q8 hm=>gD hm Lu fun _ q9 hm=> ?_;exact AlC hm▸gE
 refine gi hm ?_ ?_<;>intro _ hm
 ·exact AlC hm▸gE
 refine gD hm H5 fun _ q10 hm=>gD hm Uv fun x11 q11 hm=>AaO (k:=2) Am ([(⟨x11,a2⟩:g_api_Leaf)]:List g_api_Leaf) (fun _=>rfl)<|oB hm fun _ q12 hm=>gp Am 2 q12<|gA hm Jd fun _ q13 hm=>gD hm IY fun _ q14 hm=>gD hm Lu fun _ q15 hm=> ?_;exact AlC hm▸gE
def Jg (a0:g_api_Log):Option (g_api_Key×Int):=Ab (EI a0) fun x1=>if(x1 !=0)=true then some ((⟨0,0,0⟩:g_api_Key),x1)else Ab (Gj a0.Key) fun x2=>some ((⟨a0.Id,x2.1,a0.Delay⟩:g_api_Key),x2.2)
theorem Ug {a0 r}(hm:Jg a0=some r):Sf prog 171 [ag (Av a0)] (.tup [ag (Ai r.1),.d (.i r.2)]):=by
 refine sq ?_;intros;refine gA hm IG fun _ q1 hm=>gi hm ?_ ?_<;>intro _ hm
 ·exact AlC hm▸gE
 refine gA hm Lw fun _ q2 hm=> ?_;exact AlC hm▸gE
def ED (i1:Int)(x2:g_api_Log)(s1:(List g_api_Key)):Option (((List g_api_Key))⊕((List g_api_Key)×Int)):=Ab (Jg x2) fun x3=>if(x3.2 !=0)=true then some (.inr (([]:List g_api_Key),x3.2))else Ab (app 24 s1 ([x3.1]:List g_api_Key)) fun x4=>some (.inl x4)
def IN (a0:List g_api_Log):Option ((List g_api_Key)×Int):=Ab (DK ED a0 0 ([]:List g_api_Key)) fun x1=>match x1 with| .inr r=>some r| .inl y1=>some (y1,0)
theorem VS {a0 r}(hm:IN a0=some r):Sp prog 93 [sl Av a0] [] 0 (is (.tup [.ow 0,.d (.i r.2)]) [.row 0 3 _ Ai r.1] 1):=by
 refine sq ?_;intros;refine oB hm fun _ q1 hm=>WL 0 Ai 2 3<|IU 0 (E:=Av) (xs:=a0) 8 fun hle1=>gF (ER _ _ _) q1 (fun p0 p=>⟨[(2,.ow 0),(8,sl Av a0),(9,.d (.i (a0.length:Int))),(10,.d (.i p0))],[(0,.row 0 3 _ Ai p)],[],1⟩) fun i1 s1 Jl bl1=>cR bl1 (fun _ _ q5 q4 bl1=> ?_) fun e=> ?_
 ·refine gx Av 6 q5<|gA q4 Ug fun x3 q6 q4=>gi q4 ?_ ?_<;>intro _ q4
  ·refine R0 Ai 2 3 ?_;obtain rfl:=nT bl1 q4;exact AlC hm▸gE
  exact gq Ai 3 [x3.1]<|oB q4 fun _ q7 q4=>gp Ai 3 q7<|gT bl1 hle1 q4
 subst e;let y1:=s1;exact AlC hm▸gE
def KR (a0:Int):Option Bool:=bnd (((decide ((0:Int)≤a0))&&(decide (a0≤1099511627776)))) fun x1=>some x1
theorem NG {a0 r}(hm:KR a0=some r):Sf prog 172 [.d (.i a0)] (.d (.t r)):=by
 refine sq ?_;intros;refine bE hm ?_;intro _ hm;exact AlC hm▸gE
def Dm (a0:List ByteArray):Option (List ByteArray):=Ab (app 16 ([]:List ByteArray) a0) fun x1=>some x1
theorem I9 {a0 r}(hm:Dm a0=some r):Sp prog 173 [sl eS a0] [] 0 (is (.ow 0) [.row 0 1 _ eS r] 1):=by
 refine sq ?_;intros;unfold Dm at hm;refine gnq eS a0 (fun he1=> ?_) ?_
 ·rw[he1]at hm;replace hm:(some ([]:List ByteArray))=some _:=hm;refine R0 eS 2 1 ?_;exact AlC hm▸gE
 refine AaP (k:=1) eS ([]:List ByteArray) (fun _=>rfl)<|oB hm fun _ q1 hm=>gp eS 1 q1 ?_;exact AlC hm▸gE
def Ji (a0:Iv)(a1:Int)(a2:Int)(a3:ByteArray):Option (g_api_Cert×Int):=Ab (KR a2) fun x1=>Ab (gu (!(!x1)) (KR a0.Life)) fun x2=>if((!x1)||(!x2))=true then some ((⟨0,ByteArray.empty,ByteArray.empty,0,[],0,0,false,0,[],[],(⟨0,0⟩:g_api_Sig)⟩:g_api_Cert),1)else Ab (Dm a0.Names) fun x3=>Ab (Cn (⟨a1,a3,ByteArray.empty,a0.Key,x3,a2,(w64 (a2+a0.Life)),false,0,[],[],(⟨0,0⟩:g_api_Sig)⟩:g_api_Cert)) fun x4=>if(x4 !=0)=true then some ((⟨0,ByteArray.empty,ByteArray.empty,0,[],0,0,false,0,[],[],(⟨0,0⟩:g_api_Sig)⟩:g_api_Cert),x4)else some ((⟨a1,a3,ByteArray.empty,a0.Key,x3,a2,(w64 (a2+a0.Life)),false,0,[],[],(⟨0,0⟩:g_api_Sig)⟩:g_api_Cert),x4)
theorem Ui {a0 a1 a2 a3 r}(hm:Ji a0 a1 a2 a3=some r):Sf prog 94 [ag (AaW a0),.d (.i a1),.d (.i a2),.d (.s a3)] (.tup [ag (Ac r.1),.d (.i r.2)]):=by
 refine sq ?_;intros;refine gA hm NG fun _ q1 hm=>oB hm fun _ q2 hm=>gcH q2 NG<|gi hm ?_ ?_<;>intro _ hm
 ·exact AlC hm▸gE
 refine gD hm I9 fun _ q3 hm=>gD hm FO fun _ q4 hm=>gi hm ?_ ?_<;>intro _ hm
 ·exact AlC hm▸gE
 exact AlC hm▸gE
def Cj (a0:List g_api_Log):Option (List g_api_Log):=Ab (app 96 ([]:List g_api_Log) a0) fun x1=>some x1
theorem ID {a0 r}(hm:Cj a0=some r):Sp prog 174 [sl Av a0] [] 0 (is (.ow 0) [.row 0 6 _ Av r] 1):=by
 refine sq ?_;intros;unfold Cj at hm;refine gnq Av a0 (fun he1=> ?_) ?_
 ·rw[he1]at hm;replace hm:(some ([]:List g_api_Log))=some _:=hm;refine R0 Av 2 6 ?_;exact AlC hm▸gE
 refine AaP (k:=6) Av ([]:List g_api_Log) (fun _=>rfl)<|oB hm fun _ q1 hm=>gp Av 6 q1 ?_;exact AlC hm▸gE
end Go.Proofs.YtnhdojckpcbjeaaGreatDoor
