/- The walks of some functions, by the executor, written by program. Conditions: none. -/
import Derived.Test.YtnhdojckpcbjeaaGreatDoorZh
import Derived.Test.YtnhdojckpcbjeaaGreatDoorZi
import Derived.Test.YtnhdojckpcbjeaaGreatDoorZj
set_option linter.unusedSimpArgs false
set_option linter.unusedVariables false
set_option maxHeartbeats 20000000
set_option maxRecDepth 100000
namespace Go.Proofs.YtnhdojckpcbjeaaGreatDoor
open Go Go.Gw Go.Ax Tryz
attribute [local irreducible] Go.Ax.Go
def A7 (a0:List g_api_Head):Option (List g_api_Head):=Ab (app 56 ([]:List g_api_Head) a0) fun x1=>some x1
theorem Hl {a0 r}(hm:A7 a0=some r):Sp prog 120 [sl Ag a0] [] 0 (is (.ow 0) [.row 0 7 _ Ag r] 1):=by
 refine sq ?_;intros;unfold A7 at hm;refine gnq Ag a0 (fun he1=> ?_) ?_
 ·rw[he1]at hm;replace hm:(some ([]:List g_api_Head))=some _:=hm;refine QV Ag 2 7 ?_;exact AhS hm▸gE
 refine Wv (k:=7) Ag ([]:List g_api_Head) (fun _=>rfl)<|oB hm fun x1 q1 hm=>gp Ag 7 q1 ?_;exact AhS hm▸gE
def Ah (a0:List g_api_Head)(a1:g_api_Head)(s1:Int×Int):Option ((Int×Int)⊕(Int)):=if(decide (s1.1<s1.2))=true then bnd ((w64 ((Ey (toU (w64 (s1.1+s1.2))) 1).toNat:Int))) fun x4=>Ab (idx a0 x4) fun x5=>Ab (EH x5 a1) fun x6=>if(decide (x6<0))=true then some (.inl ((w64 (x4+1)),s1.2))else some (.inl (s1.1,x4))else some (.inr s1.1)
def Ar (a0:List g_api_Head)(a1:g_api_Head):Option (Int×Bool):=Ab (Ab (iter (Ah a0 a1) FA (0,(a0.length:Int))) fun x2=>some x2) fun x1=>Ab (gu (decide (x1<(a0.length:Int))) (idx a0 x1)) fun x7=>Ab (gu (decide (x1<(a0.length:Int))) (EH x7 a1)) fun x8=>bnd (((decide (x1<(a0.length:Int)))&&(x8==0))) fun x9=>some (x1,x9)
theorem CK {a0 a1 r}(hm:Ar a0 a1=some r):Sf prog 117 [sl Ag a0,ag (Ag a1),.fn (.func 118) [] []] (.tup [.d (.i r.1),.d (.t r.2)]):=by
 refine sq ?_;intros;unfold Ar at hm;obtain⟨x1,q1,hm⟩:=Af hm;refine oB q1 fun x2 q2 q1=>gI q2 (fun(p_0,p_1)=>⟨[(0,sl Ag a0),(2,.fn (.func 118) [] []),(4,.pb 0 0),(8,.d (.i (a0.length:Int))),(9,.d (.i p_0)),(10,.d (.i p_1))],[(0,.box 0 [.d (.i a1.Log),.d (.i a1.Size),.d (.u a1.Root.1),.d (.u a1.Root.2),.d (.i a1.At),.d (.u a1.Sig.E),.d (.u a1.Sig.S)] 38)],[],1⟩) fun s1 y1 Jl q5 bl1=>gi q5 ?_ ?_<;>intro hc1 q5
 ·refine bE q5 ?_;intro x4 q5;refine oB q5 fun x5 q8 q5=>gx Ag 7 q8<|gA q5 JL fun x6 q9 q5=>gi q5 ?_ ?_<;>intro hc2 q5
  ·exact gN bl1 q5
  exact gN bl1 q5
 obtain rfl:=nR bl1 q5;let x2:=s1.1;obtain rfl:=AhS q1;let x1:=x2;refine oB hm fun x7 q10 hm=>gxG Ag 7 q10<|oB hm fun x8 q11 hm=>gcH q11 JL<|bE hm ?_;intro x9 hm;obtain rfl:=AhS hm;exact gE
def JC (a0:g_api_Pool)(a1:g_api_Head)(a2:List g_api_Key):Option (g_api_Pool×Int):=Ab (Gh a0 a2) fun x1=>if(x1 !=0)=true then some ((⟨[]⟩:g_api_Pool),x1)else Ab (Gg a1 a2) fun x2=>if(!x2)=true then some ((⟨[]⟩:g_api_Pool),40)else Ab (Ar a0.L a1) fun x3=>if x3.2=true then some (a0,0)else bnd ((decide ((a0.L.length:Int)≥1024))) fun x4=>if x4=true then some ((⟨[]⟩:g_api_Pool),2)else Ab (A7 a0.L) fun x5=>Ab (AP x5 x3.1 ([a1]:List g_api_Head)) fun x6=>some ((⟨x6⟩:g_api_Pool),0)
theorem UA {a0 a1 a2 r}(hm:JC a0 a1 a2=some r):Sf prog 40 [ag (ID a0),ag (Ag a1),sl Aj a2] (.tup [ag (ID r.1),.d (.i r.2)]):=by
 refine sq ?_;intros;refine gA hm Ms fun x1 q1 hm=>gi hm ?_ ?_<;>intro hc1 hm
 ·obtain rfl:=AhS hm;exact gE
 refine gA hm Mr fun x2 q2 hm=>gi hm ?_ ?_<;>intro hc2 hm
 ·obtain rfl:=AhS hm;exact gE
 refine gA hm CK fun x3 q3 hm=>gi hm ?_ ?_<;>intro hc3 hm
 ·obtain rfl:=AhS hm;exact gE
 refine bE hm ?_;intro x4 hm;refine gi hm ?_ ?_<;>intro hc4 hm
 ·obtain rfl:=AhS hm;exact gE
 refine gD hm Hl fun x5 q5 hm=>gq Ag 7 [a1]<|gD hm G0 fun x6 q6 hm=> ?_;obtain rfl:=AhS hm;exact gE
def FV (a0:g_api_Client)(a1:g_api_Head):Option (g_api_Client×Int):=Ab (m_client_Check a0) fun x1=>if(x1 !=0)=true then some ((⟨ByteArray.empty,[],[],(⟨[]⟩:g_api_Pool),(⟨0,[]⟩:g_api_Cascade),0⟩:g_api_Client),x1)else Ab (JC a0.Pool a1 a0.Logs) fun x2=>if(x2.2 !=0)=true then some ((⟨ByteArray.empty,[],[],(⟨[]⟩:g_api_Pool),(⟨0,[]⟩:g_api_Cascade),0⟩:g_api_Client),x2.2)else some ((⟨a0.Who,a0.Roots,a0.Logs,x2.1,a0.Cascade,a0.View⟩:g_api_Client),x2.2)
theorem Nz {a0 a1 r}(hm:FV a0 a1=some r):Sf prog 15 [ag (Cw a0),ag (Ag a1)] (.tup [ag (Cw r.1),.d (.i r.2)]):=by
 refine sq ?_;intros;refine gA hm F9 fun x1 q1 hm=>gi hm ?_ ?_<;>intro hc1 hm
 ·exact AhS hm▸gE
 refine gA hm UA fun x2 q2 hm=>gi hm ?_ ?_<;>intro hc2 hm
 ·exact AhS hm▸gE
 exact AhS hm▸gE
def MA (k0:g_api_Client):Option (Int×g_api_Client):=Ab (m_client_Check k0) fun x1=>some (x1,k0)
theorem Rw {k0 r}(hm:MA k0=some r):Sp prog 43 [.pb 0 0] [.box 0 [.d (.s k0.Who),sl Ac k0.Roots,sl Aj k0.Logs,sl Ag k0.Pool.L,.d (.i k0.Cascade.Day),sl Ae k0.Cascade.Levels,.d (.i k0.View)] 31] 1 (is (.d (.i r.1)) [.box 0 [.d (.s r.2.Who),.d (.sl _ Ac r.2.Roots),.d (.sl _ Aj r.2.Logs),.d (.sl _ Ag r.2.Pool.L),.d (.i r.2.Cascade.Day),.d (.sl _ Ae r.2.Cascade.Levels),.d (.i r.2.View)] 31] 1):=by
 refine sq ?_;intros;refine gA hm F9 fun x1 q1 hm=> ?_;exact AhS hm▸gE
def Mz (k0:g_api_Cascade):Option (Int×g_api_Cascade):=Ab (CO k0) fun x1=>some (x1,k0)
theorem Rv {k0 r}(hm:Mz k0=some r):Sp prog 44 [.pb 0 0] [.box 0 [.d (.i k0.Day),sl Ae k0.Levels] 29] 1 (is (.d (.i r.1)) [.box 0 [.d (.i r.2.Day),.d (.sl _ Ae r.2.Levels)] 29] 1):=by
 refine sq ?_;intros;refine gA hm IM fun x1 q1 hm=> ?_;exact AhS hm▸gE
def Ka (i1:Int)(s1:ByteArray×(List g_api_Cert)×(List g_api_Key)×(List g_api_Head)×Int×(List g_api_Sieve)×Int×Int×(List g_api_Sieve)):Option ((ByteArray×(List g_api_Cert)×(List g_api_Key)×(List g_api_Head)×Int×(List g_api_Sieve)×Int×Int×(List g_api_Sieve))⊕(Int×g_api_Client×g_api_Cascade)):=if i1=0 then Ab (MA (⟨s1.1,s1.2.1,s1.2.2.1,(⟨s1.2.2.2.1⟩:g_api_Pool),(⟨s1.2.2.2.2.1,s1.2.2.2.2.2.1⟩:g_api_Cascade),s1.2.2.2.2.2.2.1⟩:g_api_Client)) fun x3=>if(x3.1 !=0)=true then some (.inr (x3.1,x3.2,(⟨s1.2.2.2.2.2.2.2.1,s1.2.2.2.2.2.2.2.2⟩:g_api_Cascade)))else some (.inl (x3.2.Who,x3.2.Roots,x3.2.Logs,x3.2.Pool.L,x3.2.Cascade.Day,x3.2.Cascade.Levels,x3.2.View,s1.2.2.2.2.2.2.2.1,s1.2.2.2.2.2.2.2.2))else Ab (Mz (⟨s1.2.2.2.2.2.2.2.1,s1.2.2.2.2.2.2.2.2⟩:g_api_Cascade)) fun x4=>if(x4.1 !=0)=true then some (.inr (x4.1,(⟨s1.1,s1.2.1,s1.2.2.1,(⟨s1.2.2.2.1⟩:g_api_Pool),(⟨s1.2.2.2.2.1,s1.2.2.2.2.2.1⟩:g_api_Cascade),s1.2.2.2.2.2.2.1⟩:g_api_Client),x4.2))else some (.inl (s1.1,s1.2.1,s1.2.2.1,s1.2.2.2.1,s1.2.2.2.2.1,s1.2.2.2.2.2.1,s1.2.2.2.2.2.2.1,x4.2.Day,x4.2.Levels))
def H2 (k0:g_api_Client)(k1:g_api_Cascade):Option (Int×g_api_Client×g_api_Cascade):=Ab (BU Ka 2 0 (k0.Who,k0.Roots,k0.Logs,k0.Pool.L,k0.Cascade.Day,k0.Cascade.Levels,k0.View,k1.Day,k1.Levels)) fun x1=>match x1 with| .inr r=>some r| .inl y1=>some (0,(⟨y1.1,y1.2.1,y1.2.2.1,(⟨y1.2.2.2.1⟩:g_api_Pool),(⟨y1.2.2.2.2.1,y1.2.2.2.2.2.1⟩:g_api_Cascade),y1.2.2.2.2.2.2.1⟩:g_api_Client),(⟨y1.2.2.2.2.2.2.2.1,y1.2.2.2.2.2.2.2.2⟩:g_api_Cascade))
theorem Lm {k0 k1 r}(hm:H2 k0 k1=some r):Sp prog 42 [.bs 0 0 2 2] [.box 0 [.fn (.func 43) [] [.pb 1 0],.fn (.func 44) [] [.pb 2 0]] 106,.box 1 [.d (.s k0.Who),sl Ac k0.Roots,sl Aj k0.Logs,sl Ag k0.Pool.L,.d (.i k0.Cascade.Day),sl Ae k0.Cascade.Levels,.d (.i k0.View)] 31,.box 2 [.d (.i k1.Day),sl Ae k1.Levels] 29] 3 (is (.d (.i r.1)) [.box 1 [.d (.s r.2.1.Who),.d (.sl _ Ac r.2.1.Roots),.d (.sl _ Aj r.2.1.Logs),.d (.sl _ Ag r.2.1.Pool.L),.d (.i r.2.1.Cascade.Day),.d (.sl _ Ae r.2.1.Cascade.Levels),.d (.i r.2.1.View)] 31,.box 2 [.d (.i r.2.2.Day),.d (.sl _ Ae r.2.2.Levels)] 29] 3):=by
 refine sq ?_;intros;refine oB hm fun x1 q1 hm=>gF (EN _ 2 _) q1 (fun p0 (p_0,p_1,p_2,p_3,p_4,p_5,p_6,p_7,p_8)=>⟨[(6,.bs 0 0 2 2),(7,.d (.i 2)),(8,.d (.i p0))],[(0,.box 0 [.fn (.func 43) [] [.pb 1 0],.fn (.func 44) [] [.pb 2 0]] 106),(1,.box 1 [.d (.s p_0),sl Ac p_1,sl Aj p_2,sl Ag p_3,.d (.i p_4),sl Ae p_5,.d (.i p_6)] 31),(2,.box 2 [.d (.i p_7),sl Ae p_8] 29)],[],3⟩) fun i1 s1 Jl bl1=>cN bl1 (2:Int) (fun y2 q4 bl1=> ?_) fun e=> ?_
 ·obtain rfl|rfl:i1=0∨i1=1:=by have h:=bl1.1.1; change i1<2 at h; omega
  ·refine gD q4 Rw fun x3 q6 q4=>gi q4 ?_ ?_<;>intro hc1 q4
   ·obtain rfl:=nT bl1 q4;obtain rfl:=AhS hm;exact gE
   exact gT bl1 lk q4
  refine gD q4 Rv fun x4 q7 q4=>gi q4 ?_ ?_<;>intro hc2 q4
  ·obtain rfl:=nT bl1 q4;obtain rfl:=AhS hm;exact gE
  exact gT bl1 lk q4
 subst e;let y1:=s1;obtain rfl:=AhS hm;exact gE
def H3 (a0:g_api_Client)(a1:g_api_Cascade):Option (g_api_Client×Int):=Ab (H2 a0 a1) fun x1=>if(x1.1 !=0)=true then some ((⟨ByteArray.empty,[],[],(⟨[]⟩:g_api_Pool),(⟨0,[]⟩:g_api_Cascade),0⟩:g_api_Client),x1.1)else bnd ((decide (x1.2.2.Day<x1.2.1.Cascade.Day))) fun x2=>if x2=true then some ((⟨ByteArray.empty,[],[],(⟨[]⟩:g_api_Pool),(⟨0,[]⟩:g_api_Cascade),0⟩:g_api_Client),190)else some ((⟨x1.2.1.Who,x1.2.1.Roots,x1.2.1.Logs,x1.2.1.Pool,x1.2.2,x1.2.1.View⟩:g_api_Client),x1.1)
theorem O1 {a0 a1 r}(hm:H3 a0 a1=some r):Sf prog 17 [ag (Cw a0),ag (Ev a1)] (.tup [ag (Cw r.1),.d (.i r.2)]):=by
 refine sq ?_;intros;refine gfs<|gD hm Lm fun x1 q1 hm=>gi hm ?_ ?_<;>intro hc1 hm
 ·obtain rfl:=AhS hm;exact gE
 refine bE hm ?_;intro x2 hm;refine gi hm ?_ ?_<;>intro hc2 hm
 ·obtain rfl:=AhS hm;exact gE
 obtain rfl:=AhS hm;exact gE
def Dc (k0:g_api_Client):Option (Int×g_api_Client):=Ab (m_client_Check k0) fun x1=>some (x1,k0)
theorem Ov {k0 r}(hm:Dc k0=some r):Sp prog 58 [.pb 0 0] [.box 0 [.d (.s k0.Who),sl Ac k0.Roots,sl Aj k0.Logs,sl Ag k0.Pool.L,.d (.i k0.Cascade.Day),sl Ae k0.Cascade.Levels,.d (.i k0.View)] 31] 1 (is (.d (.i r.1)) [.box 0 [.d (.s r.2.Who),.d (.sl _ Ac r.2.Roots),.d (.sl _ Aj r.2.Logs),.d (.sl _ Ag r.2.Pool.L),.d (.i r.2.Cascade.Day),.d (.sl _ Ae r.2.Cascade.Levels),.d (.i r.2.View)] 31] 1):=by
 refine sq ?_;intros;refine gA hm F9 fun x1 q1 hm=> ?_;exact AhS hm▸gE
def FJ (i1:Int)(x2:ET)(s1:Unit):Option ((Unit)⊕Int):=Ab (Gi x2) fun x3=>if(x3 !=0)=true then some (.inr x3)else some (.inl ())
def OI (a0:List ET):Option Int:=Ab (Et FJ a0 0 ()) fun x1=>match x1 with| .inr r=>some r| .inl y1=>some 0
theorem Yl {a0 r}(hm:OI a0=some r):Sf prog 71 [sl N8 a0] (.d (.i r)):=by
 refine sq ?_;intros;refine oB hm fun x1 q1 hm=>H6 0 (E:=N8) (xs:=a0) 6 fun hle1=>gF (ER _ _ _) q1 (fun p0 _=>⟨[(6,sl N8 a0),(7,.d (.i (a0.length:Int))),(8,.d (.i p0))],[],[],0⟩) fun i1 s1 Jl bl1=>cR bl1 (fun x2 y2 q5 q4 bl1=> ?_) fun e=> ?_
 ·refine gx N8 1 q5<|oB q4 fun x3 q6 q4=>gdyc (fun _=>Zn q6)<|gi q4 ?_ ?_<;>intro hc1 q4
  ·obtain rfl:=nT bl1 q4;exact AhS hm▸gE
  exact gT bl1 hle1 q4
 subst e;exact AhS hm▸gE
def m_path_Check (a0:List g_api_Cert)(a1:List g_api_Cert)(a2:ByteArray)(a3:Int):Option Int:=Ab (OI ([(⟨72,(⟨a0,a1,a2,a3⟩:g_path_trip)⟩:ET),(⟨73,(⟨a0,a1,a2,a3⟩:g_path_trip)⟩:ET),(⟨74,(⟨a0,a1,a2,a3⟩:g_path_trip)⟩:ET),(⟨75,(⟨a0,a1,a2,a3⟩:g_path_trip)⟩:ET),(⟨76,(⟨a0,a1,a2,a3⟩:g_path_trip)⟩:ET)]:List ET)) fun x1=>some x1
theorem Ur {a0 a1 a2 a3 r}(hm:m_path_Check a0 a1 a2 a3=some r):Sf prog 24 [sl Ac a0,sl Ac a1,.d (.s a2),.d (.i a3)] (.d (.i r)):=by
 refine sq ?_;intros;refine gq N8 1 [(⟨72,(⟨a0,a1,a2,a3⟩:g_path_trip)⟩:ET),(⟨73,(⟨a0,a1,a2,a3⟩:g_path_trip)⟩:ET),(⟨74,(⟨a0,a1,a2,a3⟩:g_path_trip)⟩:ET),(⟨75,(⟨a0,a1,a2,a3⟩:g_path_trip)⟩:ET),(⟨76,(⟨a0,a1,a2,a3⟩:g_path_trip)⟩:ET)]<|gA hm Yl fun x1 q1 hm=> ?_;exact AhS hm▸gE
def Db (k0:Int)(k1:g_api_Client)(k2:g_api_Offer)(k3:ByteArray):Option (Int×Int×g_api_Client×g_api_Offer×ByteArray):=Ab (Cp k0) fun x1=>if(!x1)=true then some (1,k0,k1,k2,k3)else Ab (m_path_Check k1.Roots k2.Path k3 k0) fun x2=>some (x2,k0,k1,k2,k3)
theorem Ou {k0 k1 k2 k3 r}(hm:Db k0 k1 k2 k3=some r):Sp prog 59 [.pb 0 0,.pb 1 0,.pb 2 0,.pb 3 0] [.box 0 [.d (.i k0)] 3,.box 1 [.d (.s k1.Who),sl Ac k1.Roots,sl Aj k1.Logs,sl Ag k1.Pool.L,.d (.i k1.Cascade.Day),sl Ae k1.Cascade.Levels,.d (.i k1.View)] 31,.box 2 [sl Ac k2.Path,sl Av k2.Where] 52,.box 3 [.d (.s k3)] 9] 4 (is (.d (.i r.1)) [.box 0 [.d (.i r.2.1)] 3,.box 1 [.d (.s r.2.2.1.Who),.d (.sl _ Ac r.2.2.1.Roots),.d (.sl _ Aj r.2.2.1.Logs),.d (.sl _ Ag r.2.2.1.Pool.L),.d (.i r.2.2.1.Cascade.Day),.d (.sl _ Ae r.2.2.1.Cascade.Levels),.d (.i r.2.2.1.View)] 31,.box 2 [.d (.sl _ Ac r.2.2.2.1.Path),.d (.sl _ Av r.2.2.2.1.Where)] 52,.box 3 [.d (.s r.2.2.2.2)] 9] 4):=by
 refine sq ?_;intros;refine gA hm Fc fun x1 q1 hm=>gi hm ?_ ?_<;>intro hc1 hm
 ·exact AhS hm▸gE
 refine gA hm Ur fun x2 q2 hm=> ?_;exact AhS hm▸gE
def HD (a0:g_api_Cert):Option ((List UInt8)×Int):=Ab (Cv a0) fun x1=>if(x1 !=0)=true then some (([]:List UInt8),x1)else Ab (Kb a0) fun x2=>Ab (I1 x2) fun x3=>some (x3.1,x3.2)
theorem Oy {a0 r}(hm:HD a0=some r):Sp prog 151 [ag (Ac a0),.fn (.func 152) [] []] [] 0 (is (.tup [.ow 0,.d (.i r.2)]) [.row 0 1 _ eB r.1] 1):=by
 refine sq ?_;intros;refine gA hm Fe fun x1 q1 hm=>gi hm ?_ ?_<;>intro hc1 hm
 ·refine QV eB 4 1 ?_;exact AhS hm▸gE
 refine gA hm RW fun x2 q2 hm=>gD hm Qd fun x3 q3 hm=> ?_;exact AhS hm▸gE
def Kc (a0:g_api_Cert):Option ((List UInt8)×Int):=Ab (HD a0) fun x1=>some (x1.1,x1.2)
theorem RX {a0 r}(hm:Kc a0=some r):Sp prog 77 [ag (Ac a0)] [] 0 (is (.tup [.ow 0,.d (.i r.2)]) [.row 0 1 _ eB r.1] 1):=by
 refine sq ?_;intros;refine gD hm Oy fun x1 q1 hm=> ?_;exact AhS hm▸gE
def DF (a0:List UInt8):Option (UInt64×UInt64):=Ab (CI (⟨#[108,101,97,102]⟩:ByteArray) ([a0]:List (List UInt8))) fun x1=>some x1
theorem Il {a0 r}(hm:DF a0=some r):Sf prog 78 [sl eB a0] (ag (Ao r)):=by
 refine sq ?_;intros;refine gq (eL eB) 1 [a0]<|gA hm Ef fun x1 q1 hm=> ?_;exact AhS hm▸gE
def m_cert_Leaf (a0:g_api_Cert):Option ((UInt64×UInt64)×Int):=Ab (Kc a0) fun x1=>if(x1.2 !=0)=true then some ((0,0),x1.2)else Ab (DF x1.1) fun x2=>some (x2,0)
theorem VQ {a0 r}(hm:m_cert_Leaf a0=some r):Sf prog 25 [ag (Ac a0)] (.tup [ag (Ao r.1),.d (.i r.2)]):=by
 refine sq ?_;intros;refine gD hm RX fun x1 q1 hm=>gi hm ?_ ?_<;>intro hc1 hm
 ·exact AhS hm▸gE
 refine gD hm Il fun x2 q2 hm=> ?_;exact AhS hm▸gE
def Da (k0:g_api_Offer)(k1:UInt64×UInt64):Option (Int×g_api_Offer×(UInt64×UInt64)):=Ab (idx k0.Path 0) fun x1=>Ab (m_cert_Leaf x1) fun x2=>some (x2.2,k0,x2.1)
theorem Ot {k0 k1 r}(hm:Da k0 k1=some r):Sp prog 61 [.pb 0 0,.pb 1 0] [.box 0 [sl Ac k0.Path,sl Av k0.Where] 52,.box 1 [.d (.u k1.1),.d (.u k1.2)] 34] 2 (is (.d (.i r.1)) [.box 0 [.d (.sl _ Ac r.2.1.Path),.d (.sl _ Av r.2.1.Where)] 52,.box 1 [.d (.u r.2.2.1),.d (.u r.2.2.2)] 34] 2):=by
 refine sq ?_;intros;refine oB hm fun x1 q1 hm=>gx Ac 13 q1<|gA hm VQ fun x2 q2 hm=> ?_;exact AhS hm▸gE
def Dy (a0:g_api_Promise):Option (List UInt8):=Ab (DG a0.Log) fun x1=>Ab (DG a0.At) fun x2=>Ab (Ea a0.Leaf) fun x3=>Ab (J7 (⟨#[112,114,111,109,105,115,101]⟩:ByteArray) ([x1,x2,x3]:List (List UInt8))) fun x4=>some x4
theorem H8 {a0 r}(hm:Dy a0=some r):Sp prog 155 [ag (Ad a0)] [] 0 (is (.ow 0) [.row 0 1 _ eB r] 1):=by
 refine sq ?_;intros;refine gD hm HV fun x1 q1 hm=>gD hm HV fun x2 q2 hm=>gD hm Jq fun x3 q3 hm=>YM (k:=1) (eL eB) ([x1,x2,x3]:List (List UInt8)) (fun _=>rfl)<|gD hm RS fun x4 q4 hm=> ?_;exact AhS hm▸gE
def CC (a0:g_api_Key)(a1:g_api_Promise):Option Int:=Ab (C3 a1.At) fun x1=>Ab (Dy a1) fun x2=>Ab (G7 a0 a1.Log x1 x2 a1.Sig) fun x3=>some x3
theorem MF {a0 a1 r}(hm:CC a0 a1=some r):Sf prog 79 [ag (Aj a0),ag (Ad a1)] (.d (.i r)):=by
 refine sq ?_;intros;refine gA hm Ee fun x1 q1 hm=>gD hm H8 fun x2 q2 hm=>gD hm Ns fun x3 q3 hm=> ?_;exact AhS hm▸gE
def DL (a0:g_api_Key)(k0:g_api_Promise):Option (Bool×g_api_Promise):=some ((a0.Log==k0.Log),k0)
theorem JM {a0 k0 r}(hm:DL a0 k0=some r):Sp prog 140 [ag (Aj a0),.pb 0 0] [.box 0 [.d (.i k0.Log),.d (.i k0.At),.d (.u k0.Leaf.1),.d (.u k0.Leaf.2),.d (.u k0.Sig.E),.d (.u k0.Sig.S)] 63] 1 (is (.d (.t r.1)) [.box 0 [.d (.i r.2.Log),.d (.i r.2.At),.d (.u r.2.Leaf.1),.d (.u r.2.Leaf.2),.d (.u r.2.Sig.E),.d (.u r.2.Sig.S)] 63] 1):=by
 refine sq ?_;intros;exact AhS hm▸gE
def BB (a0:List g_api_Key)(i1:Int)(s1:Int×Int×UInt64×UInt64×UInt64×UInt64):Option ((Int×Int×UInt64×UInt64×UInt64×UInt64)⊕(Int×g_api_Promise)):=Ab (idx a0 (i1:Int)) fun x3=>Ab (DL x3 (⟨s1.1,s1.2.1,(s1.2.2.1,s1.2.2.2.1),(⟨s1.2.2.2.2.1,s1.2.2.2.2.2⟩:g_api_Sig)⟩:g_api_Promise)) fun x4=>if x4.1=true then some (.inr ((i1:Int),x4.2))else some (.inl (x4.2.Log,x4.2.At,x4.2.Leaf.1,x4.2.Leaf.2,x4.2.Sig.E,x4.2.Sig.S))
def A4 (a0:List g_api_Key)(k0:g_api_Promise):Option (Int×g_api_Promise):=Ab (BU (BB a0) a0.length 0 (k0.Log,k0.At,k0.Leaf.1,k0.Leaf.2,k0.Sig.E,k0.Sig.S)) fun x1=>match x1 with| .inr r=>some r| .inl y1=>some ((-1),(⟨y1.1,y1.2.1,(y1.2.2.1,y1.2.2.2.1),(⟨y1.2.2.2.2.1,y1.2.2.2.2.2⟩:g_api_Sig)⟩:g_api_Promise))
theorem Fb {a0 k0 r}(hm:A4 a0 k0=some r):Sp prog 139 [sl Aj a0,.fn (.func 140) [] [.pb 0 0]] [.box 0 [.d (.i k0.Log),.d (.i k0.At),.d (.u k0.Leaf.1),.d (.u k0.Leaf.2),.d (.u k0.Sig.E),.d (.u k0.Sig.S)] 63] 1 (is (.d (.i r.1)) [.box 0 [.d (.i r.2.Log),.d (.i r.2.At),.d (.u r.2.Leaf.1),.d (.u r.2.Leaf.2),.d (.u r.2.Sig.E),.d (.u r.2.Sig.S)] 63] 1):=by
 refine sq ?_;intros;refine oB hm fun x1 q1 hm=>H6 0 (E:=Aj) (xs:=a0) 6 fun hle1=>gF (EN _ _ _) q1 (fun p0 (p_0,p_1,p_2,p_3,p_4,p_5)=>⟨[(0,sl Aj a0),(1,.fn (.func 140) [] [.pb 0 0]),(7,.d (.i (a0.length:Int))),(8,.d (.i p0))],[(0,.box 0 [.d (.i p_0),.d (.i p_1),.d (.u p_2),.d (.u p_3),.d (.u p_4),.d (.u p_5)] 63)],[],1⟩) fun i1 s1 Jl bl1=>cN bl1 (a0.length:Int) (fun y2 q4 bl1=> ?_) fun e=> ?_
 ·refine oB q4 fun x3 q6 q4=>gx Aj 3 q6<|gD q4 JM fun x4 q7 q4=>gi q4 ?_ ?_<;>intro hc1 q4
  ·obtain rfl:=nT bl1 q4;obtain rfl:=AhS hm;exact gE
  exact gT bl1 hle1 q4
 subst e;let y1:=s1;obtain rfl:=AhS hm;exact gE
def BV (a0:Ai)(a2:UInt64×UInt64)(i1:Int)(x3:g_api_Promise)(s1:(List g_api_Promise)):Option ((List g_api_Promise)):=Ab (Ab (A4 a0.Client.Logs x3) fun x5=>Ab (gu ((decide (x5.1≥0))&&(N6 x5.2.Leaf a2)) (idx a0.Client.Logs x5.1)) fun x6=>Ab (gu ((decide (x5.1≥0))&&(N6 x5.2.Leaf a2)) (CC x6 x5.2)) fun x7=>if(((decide (x5.1≥0))&&(N6 x5.2.Leaf a2))&&(x7==0))=true then Ab (app 48 s1 ([x5.2]:List g_api_Promise)) fun x8=>some x8 else some s1) fun x4=>some x4
def m_client_asked_counting (a0:Ai)(a1:List g_api_Promise)(a2:UInt64×UInt64):Option (List g_api_Promise):=Ab (Ab (D5 (BV a0 a2) a1 0 ([]:List g_api_Promise)) fun x2=>some x2) fun x1=>some x1
theorem Kv {a0 a1 a2 r}(hm:m_client_asked_counting a0 a1 a2=some r):Sp prog 63 [ag (Cb a0),sl Ad a1,ag (Ao a2)] [] 0 (is (.ow 0) [.row 0 6 _ Ad r] 1):=by
 refine sq fun D0 As η0 m0 hd=> ?_;unfold m_client_asked_counting at hm;obtain⟨x1,q1,hm⟩:=Af hm;refine oB q1 fun x2 q2 q1=>Vk 0 Ad 6 6<|H6 0 (E:=Ad) (xs:=a1) 10 fun hle1=>gF (E0 _ _ _) q2 (fun p0 p=>⟨[(3,.pb 0 0),(5,.pb 1 0),(6,.ow 2),(10,sl Ad a1),(11,.d (.i (a1.length:Int))),(12,.d (.i p0))],[(0,.row 2 6 _ Ad p),(1,.box 1 [.d (.u a2.1),.d (.u a2.2)] 34),(2,.box 0 [.d (.s a0.Client.Who),sl Ac a0.Client.Roots,sl Aj a0.Client.Logs,sl Ag a0.Client.Pool.L,.d (.i a0.Client.Cascade.Day),sl Ae a0.Client.Cascade.Levels,.d (.i a0.Client.View)] 110)],[],3⟩) fun i1 s1 Jl bl1=>c0 bl1 (fun x3 y1 q6 q5 bl1=> ?_) fun e=> ?_
 ·refine oB q5 fun x4 q7 q5=>gjU 1 (fun(_:Unit)=>⟨[(3,.pb 0 0),(5,.pb 1 0),(6,.ow 2),(10,sl Ad a1),(11,.d (.i (a1.length:Int))),(12,.d (.i (i1:Int)))],[(0,.row 2 6 _ Ad x4),(1,.box 1 [.d (.u a2.1),.d (.u a2.2)] 34),(2,.box 0 [.d (.s a0.Client.Who),sl Ac a0.Client.Roots,sl Aj a0.Client.Logs,sl Ag a0.Client.Pool.L,.d (.i a0.Client.Cascade.Day),sl Ae a0.Client.Cascade.Levels,.d (.i a0.Client.View)] 110)],[],3⟩) (fun _=>True) (fun Jp bk3=> ?_) fun _ _=> ?_
  ·refine gx Ad 6 q6<|gD q7 Fb fun x5 q8 q7=>oB q7 fun x6 q9 q7=>gxG Aj 3 q9<|oB q7 fun x7 q10 q7=>gcH q10 MF<|gi q7 ?_ ?_<;>intro hc1 q7
   ·refine gq Ad 6 [x5.2]<|oB q7 fun x8 q11 q7=>gp Ad 6 q11 ?_;obtain rfl:=AhS q7;exact gb bk3 hd () trivial
   obtain rfl:=AhS q7;exact gb bk3 hd () trivial
  exact gM bl1 hle1 q5
 subst e;obtain rfl:=AhS q1;let x1:=x2;obtain rfl:=AhS hm;exact gE
def C9 (k0:Ai)(k1:g_api_Offer)(k2:UInt64×UInt64)(k3:List g_api_Promise):Option (Int×Ai×g_api_Offer×(UInt64×UInt64)×(List g_api_Promise)):=Ab (idx k1.Path 0) fun x1=>Ab (m_client_asked_counting k0 x1.Proms k2) fun x2=>if(decide ((x2.length:Int)<2))=true then some (251,k0,k1,k2,x2)else some (0,k0,k1,k2,x2)
theorem Oq {k0 k1 k2 k3 r}(hm:C9 k0 k1 k2 k3=some r):Sp prog 62 [.pb 0 0,.pb 1 0,.pb 2 0,.pb 3 0] [.box 0 [.d (.s k0.Client.Who),sl Ac k0.Client.Roots,sl Aj k0.Client.Logs,sl Ag k0.Client.Pool.L,.d (.i k0.Client.Cascade.Day),sl Ae k0.Client.Cascade.Levels,.d (.i k0.Client.View)] 110,.box 1 [sl Ac k1.Path,sl Av k1.Where] 52,.box 2 [.d (.u k2.1),.d (.u k2.2)] 34,.box 3 [sl Ad k3] 57] 4 (is (.d (.i r.1)) [.box 0 [.d (.s r.2.1.Client.Who),.d (.sl _ Ac r.2.1.Client.Roots),.d (.sl _ Aj r.2.1.Client.Logs),.d (.sl _ Ag r.2.1.Client.Pool.L),.d (.i r.2.1.Client.Cascade.Day),.d (.sl _ Ae r.2.1.Client.Cascade.Levels),.d (.i r.2.1.Client.View)] 110,.box 1 [.d (.sl _ Ac r.2.2.1.Path),.d (.sl _ Av r.2.2.1.Where)] 52,.box 2 [.d (.u r.2.2.2.1.1),.d (.u r.2.2.2.1.2)] 34,.box 3 [.d (.sl _ Ad r.2.2.2.2)] 57] 4):=by
 refine sq ?_;intros;refine oB hm fun x1 q1 hm=>gx Ac 13 q1<|gD hm Kv fun x2 q2 hm=>gi hm ?_ ?_<;>intro hc1 hm
 ·exact AhS hm▸gE
 exact AhS hm▸gE
def Fu (a0:g_api_Promise)(k0:g_api_Place):Option (Bool×g_api_Place):=some ((a0.Log==k0.Log),k0)
theorem Ls {a0 k0 r}(hm:Fu a0 k0=some r):Sp prog 67 [ag (Ad a0),.pb 0 0] [.box 0 [.d (.i k0.Log),.d (.i k0.At),.d (.i k0.Size),sl Ao k0.Proof] 67] 1 (is (.d (.t r.1)) [.box 0 [.d (.i r.2.Log),.d (.i r.2.At),.d (.i r.2.Size),.d (.sl _ Ao r.2.Proof)] 67] 1):=by
 refine sq ?_;intros;exact AhS hm▸gE
def HG (a0:UInt64):Option Int:=Ab (Fv a0) fun x1=>some x1
theorem Ma {a0 r}(hm:HG a0=some r):Sf prog 156 [.d (.u a0)] (.d (.i r)):=by
 refine sq ?_;intros;refine gi' (b:=false) (fun h=>by cases h) (fun _=> ?_);refine gA hm Lv fun x1 q1 hm=> ?_;exact AhS hm▸gE
def JH (a0:UInt64):Option Int:=bnd ((((Ey a0 1)&&&6148914691236517205)+(a0&&&6148914691236517205))) fun x1=>bnd ((((Ey x1 2)&&&3689348814741910323)+(x1&&&3689348814741910323))) fun x2=>bnd ((((Ey x2 4)+x2)&&&1085102592571150095)) fun x3=>bnd (((x3+(Ey x3 8))+(Ey (x3+(Ey x3 8)) 16))) fun x4=>bnd ((Jm (w64 ((x4+(Ey x4 32)).toNat:Int)) 127)) fun x5=>some x5
theorem NC {a0 r}(hm:JH a0=some r):Sf prog 246 [.d (.u a0)] (.d (.i r)):=by
 refine sq ?_;intros;refine bE hm ?_;intro x1 hm;refine bE hm ?_;intro x2 hm;refine bE hm ?_;intro x3 hm;refine bE hm ?_;intro x4 hm;refine bE hm ?_;intro x5 hm;obtain rfl:=AhS hm;exact gE
def Ig (a0:UInt64):Option Int:=Ab (JH a0) fun x1=>some x1
theorem PE {a0 r}(hm:Ig a0=some r):Sf prog 157 [.d (.u a0)] (.d (.i r)):=by
 refine sq ?_;intros;refine gi' (b:=false) (fun h=>by cases h) (fun _=> ?_);refine gA hm NC fun x1 q1 hm=> ?_;exact AhS hm▸gE
def HL (a0:Int)(a1:Int):Option (Int×Int):=Ab (HG (toU (Ze a0 (w64 (a1-1))))) fun x1=>if(0:Int)≤x1 then Ab (Ig (toU (Bj a0 x1.toNat))) fun x2=>some (x1,x2)else none
theorem Rp {a0 a1 r}(hm:HL a0 a1=some r):Sf prog 80 [.d (.i a0),.d (.i a1)] (.tup [.d (.i r.1),.d (.i r.2)]):=by
 refine sq ?_;intros;refine gA hm Ma fun x1 q1 hm=> ?_;obtain⟨q2,hm⟩:=Bw hm;refine gsh (r:= .i (Bj a0 x1.toNat)) (fun h=>q2)<|gA hm PE fun x2 q3 hm=> ?_;exact AhS hm▸gE
def GF (a0:UInt64×UInt64)(a1:UInt64×UInt64):Option (UInt64×UInt64):=Ab (Ea a0) fun x1=>Ab (Ea a1) fun x2=>Ab (CI (⟨#[110,111,100,101]⟩:ByteArray) ([x1,x2]:List (List UInt8))) fun x3=>some x3
theorem Kr {a0 a1 r}(hm:GF a0 a1=some r):Sf prog 83 [ag (Ao a0),ag (Ao a1)] (ag (Ao r)):=by
 refine sq ?_;intros;refine gD hm Jq fun x1 q1 hm=>gD hm Jq fun x2 q2 hm=>YM (k:=1) (eL eB) ([x1,x2]:List (List UInt8)) (fun _=>rfl)<|gA hm Ef fun x3 q3 hm=> ?_;exact AhS hm▸gE
def Ib (a0:UInt64×UInt64)(k0:UInt64×UInt64):Option (UInt64×UInt64):=Ab (GF a0 k0) fun x1=>some x1
theorem Pv {a0 k0 r}(hm:Ib a0 k0=some r):Sp prog 82 [ag (Ao a0),.pb 0 0] [.box 0 [.d (.u k0.1),.d (.u k0.2)] 34] 1 (is (.tup []) [.box 0 [.d (.u r.1),.d (.u r.2)] 34] 1):=by
 refine sq ?_;intros;refine gA hm Kr fun x1 q1 hm=> ?_;exact AhS hm▸gE
def Ia (a0:UInt64×UInt64)(k0:UInt64×UInt64):Option (UInt64×UInt64):=Ab (GF k0 a0) fun x1=>some x1
theorem Pu {a0 k0 r}(hm:Ia a0 k0=some r):Sp prog 84 [ag (Ao a0),.pb 0 0] [.box 0 [.d (.u k0.1),.d (.u k0.2)] 34] 1 (is (.tup []) [.box 0 [.d (.u r.1),.d (.u r.2)] 34] 1):=by
 refine sq ?_;intros;refine gA hm Kr fun x1 q1 hm=> ?_;exact AhS hm▸gE
def Cg (s2:Int×Int):Option ((Int×Int)⊕(Int×Int)):=if(((Jm s2.1 1)==0)&&(s2.1 !=0))=true then some (.inl ((Bj s2.1 1),(Bj s2.2 1)))else some (.inr (s2.1,s2.2))
def CU (i1:Int)(x2:UInt64×UInt64)(s1:Int×Int×UInt64×UInt64):Option (Int×Int×UInt64×UInt64):=Ab (if(((Jm s1.1 1)==0)&&(s1.1 !=s1.2.1))=true then Ab (Ia x2 s1.2.2) fun x4=>some ((Bj s1.1 1),(Bj s1.2.1 1),x4.1,x4.2)else Ab (Ib x2 s1.2.2) fun x5=>Ab (Ab (iter Cg FA (s1.1,s1.2.1)) fun x7=>some (x7.1,x7.2)) fun x6=>some ((Bj x6.1 1),(Bj x6.2 1),x5.1,x5.2)) fun x3=>some (x3.1,x3.2.1,x3.2.2.1,x3.2.2.2)
def Fi (a0:Int)(a1:Int)(a2:List (UInt64×UInt64))(k0:UInt64×UInt64):Option (UInt64×UInt64):=Ab (D5 CU a2 0 (a0,(w64 (a1-1)),k0.1,k0.2)) fun x1=>some x1.2.2
theorem Lh {a0 a1 a2 k0 r}(hm:Fi a0 a1 a2 k0=some r):Sp prog 81 [.d (.i a0),.d (.i a1),sl Ao a2,.fn (.func 82) [] [.pb 0 0],.fn (.func 84) [] [.pb 0 0]] [.box 0 [.d (.u k0.1),.d (.u k0.2)] 34] 1 (is (.tup []) [.box 0 [.d (.u r.1),.d (.u r.2)] 34] 1):=by
 refine sq fun D0 As η0 m0 hd=>oB hm fun x1 q1 hm=>H6 0 (E:=Ao) (xs:=a2) 15 fun hle1=>gF (E0 _ _ _) q1 (fun p0 (p_0,p_1,p_2,p_3)=>⟨[(0,.d (.i p_0)),(3,.fn (.func 82) [] [.pb 0 0]),(4,.fn (.func 84) [] [.pb 0 0]),(10,.d (.i p_1)),(15,sl Ao a2),(16,.d (.i (a2.length:Int))),(17,.d (.i p0))],[(0,.box 0 [.d (.u p_2),.d (.u p_3)] 34)],[],1⟩) fun i1 s1 Jl bl1=>c0 bl1 (fun x2 y1 q5 q4 bl1=> ?_) fun e=> ?_
 ·refine oB q4 fun x3 q6 q4=>gjU 1 (fun(_:Unit)=>let (y_0,y_1,y_2,y_3):=x3; ⟨[(0,.d (.i y_0)),(3,.fn (.func 82) [] [.pb 0 0]),(4,.fn (.func 84) [] [.pb 0 0]),(10,.d (.i y_1)),(15,sl Ao a2),(16,.d (.i (a2.length:Int))),(17,.d (.i (i1:Int)))],[(0,.box 0 [.d (.u y_2),.d (.u y_3)] 34)],[],1⟩) (fun _=>True) (fun Jp bk2=> ?_) fun _ _=> ?_
  ·refine gx Ao 2 q5<|gi q6 ?_ ?_<;>intro hc1 q6
   ·refine gD q6 Pu fun x4 q7 q6=> ?_;obtain rfl:=AhS q6;exact gb bk2 hd () trivial
   refine gD q6 Pv fun x5 q8 q6=> ?_;obtain⟨x6,q9,q6⟩:=Af q6;refine oB q9 fun x7 q10 q9=>gI q10 (fun(p_0,p_1)=>⟨[(0,.d (.i p_0)),(3,.fn (.func 82) [] [.pb 0 0]),(4,.fn (.func 84) [] [.pb 0 0]),(10,.d (.i p_1)),(15,sl Ao a2),(16,.d (.i (a2.length:Int))),(17,.d (.i (i1:Int))),(12,.pb 1 0)],[(0,.box 0 [.d (.u x5.1),.d (.u x5.2)] 34),(1,.box 1 [.d (.u x2.1),.d (.u x2.2)] 34)],[],2⟩) fun s2 y2 Jl q13 bl2=>gi q13 ?_ ?_<;>intro hc2 q13
   ·exact gN bl2 q13
   obtain rfl:=nR bl2 q13;let x7:=(s2.1,s2.2);obtain rfl:=AhS q9;let x6:=(x7.1,x7.2);obtain rfl:=AhS q6;exact gb bk2 hd () trivial
  exact gM bl1 hle1 q4
 subst e;obtain rfl:=AhS hm;exact gE
def EG (a0:UInt64×UInt64)(a1:Int)(a2:Int)(a3:List (UInt64×UInt64))(a4:UInt64×UInt64):Option Int:=if(((decide (a1<0))||(decide (a1≥a2)))||(decide (a2>256)))=true then some 1 else Ab (HL a1 a2) fun x1=>if((a3.length:Int) !=(w64 (x1.1+x1.2)))=true then some 80 else Ab (Fi a1 a2 a3 a0) fun x2=>if(!N6 x2 a4)=true then some 71 else some 0
theorem Rt {a0 a1 a2 a3 a4 r}(hm:EG a0 a1 a2 a3 a4=some r):Sf prog 27 [ag (Ao a0),.d (.i a1),.d (.i a2),sl Ao a3,ag (Ao a4)] (.d (.i r)):=by
 refine sq ?_;intros;refine gi hm ?_ ?_<;>intro hc1 hm
 ·exact AhS hm▸gE
 refine gA hm Rp fun x1 q1 hm=>gi hm ?_ ?_<;>intro hc2 hm
 ·exact AhS hm▸gE
 refine gD hm Lh fun x2 q2 hm=>gi hm ?_ ?_<;>intro hc3 hm
 ·exact AhS hm▸gE
 exact AhS hm▸gE
def Ft (a0:g_api_Head)(k0:g_api_Place)(k1:UInt64×UInt64):Option (Bool×g_api_Place×(UInt64×UInt64)):=Ab (gu ((a0.Log==k0.Log)&&(a0.Size==k0.Size)) (EG k1 k0.At k0.Size k0.Proof a0.Root)) fun x1=>bnd ((((a0.Log==k0.Log)&&(a0.Size==k0.Size))&&(x1==0))) fun x2=>some (x2,k0,k1)
theorem Lq {a0 k0 k1 r}(hm:Ft a0 k0 k1=some r):Sp prog 143 [ag (Ag a0),.pb 0 0,.pb 1 0] [.box 0 [.d (.i k0.Log),.d (.i k0.At),.d (.i k0.Size),sl Ao k0.Proof] 67,.box 1 [.d (.u k1.1),.d (.u k1.2)] 34] 2 (is (.d (.t r.1)) [.box 0 [.d (.i r.2.1.Log),.d (.i r.2.1.At),.d (.i r.2.1.Size),.d (.sl _ Ao r.2.1.Proof)] 67,.box 1 [.d (.u r.2.2.1),.d (.u r.2.2.2)] 34] 2):=by
 refine sq ?_;intros;refine oB hm fun x1 q1 hm=>gcH q1 Rt<|bE hm ?_;intro x2 hm;obtain rfl:=AhS hm;exact gE
def Bl (a0:List g_api_Head)(i1:Int)(s1:Int×Int×Int×(List (UInt64×UInt64))×UInt64×UInt64):Option ((Int×Int×Int×(List (UInt64×UInt64))×UInt64×UInt64)⊕(Int×g_api_Place×(UInt64×UInt64))):=Ab (idx a0 (i1:Int)) fun x3=>Ab (Ft x3 (⟨s1.1,s1.2.1,s1.2.2.1,s1.2.2.2.1⟩:g_api_Place) s1.2.2.2.2) fun x4=>if x4.1=true then some (.inr ((i1:Int),x4.2.1,x4.2.2))else some (.inl (x4.2.1.Log,x4.2.1.At,x4.2.1.Size,x4.2.1.Proof,x4.2.2.1,x4.2.2.2))
def BG (a0:List g_api_Head)(k0:g_api_Place)(k1:UInt64×UInt64):Option (Int×g_api_Place×(UInt64×UInt64)):=Ab (BU (Bl a0) a0.length 0 (k0.Log,k0.At,k0.Size,k0.Proof,k1.1,k1.2)) fun x1=>match x1 with| .inr r=>some r| .inl y1=>some ((-1),(⟨y1.1,y1.2.1,y1.2.2.1,y1.2.2.2.1⟩:g_api_Place),y1.2.2.2.2)
theorem EL {a0 k0 k1 r}(hm:BG a0 k0 k1=some r):Sp prog 225 [sl Ag a0,.fn (.func 143) [] [.pb 0 0,.pb 1 0]] [.box 0 [.d (.i k0.Log),.d (.i k0.At),.d (.i k0.Size),sl Ao k0.Proof] 67,.box 1 [.d (.u k1.1),.d (.u k1.2)] 34] 2 (is (.d (.i r.1)) [.box 0 [.d (.i r.2.1.Log),.d (.i r.2.1.At),.d (.i r.2.1.Size),.d (.sl _ Ao r.2.1.Proof)] 67,.box 1 [.d (.u r.2.2.1),.d (.u r.2.2.2)] 34] 2):=by
 refine sq ?_;intros;refine oB hm fun x1 q1 hm=>H6 0 (E:=Ag) (xs:=a0) 6 fun hle1=>gF (EN _ _ _) q1 (fun p0 (p_0,p_1,p_2,p_3,p_4,p_5)=>⟨[(0,sl Ag a0),(1,.fn (.func 143) [] [.pb 0 0,.pb 1 0]),(7,.d (.i (a0.length:Int))),(8,.d (.i p0))],[(0,.box 0 [.d (.i p_0),.d (.i p_1),.d (.i p_2),sl Ao p_3] 67),(1,.box 1 [.d (.u p_4),.d (.u p_5)] 34)],[],2⟩) fun i1 s1 Jl bl1=>cN bl1 (a0.length:Int) (fun y2 q4 bl1=> ?_) fun e=> ?_
 ·refine oB q4 fun x3 q6 q4=>gx Ag 7 q6<|gD q4 Lq fun x4 q7 q4=>gi q4 ?_ ?_<;>intro hc1 q4
  ·obtain rfl:=nT bl1 q4;obtain rfl:=AhS hm;exact gE
  exact gT bl1 hle1 q4
 subst e;let y1:=s1;obtain rfl:=AhS hm;exact gE
def Bn (a0:List g_api_Head)(k0:g_api_Place)(k1:UInt64×UInt64):Option (Bool×g_api_Place×(UInt64×UInt64)):=Ab (BG a0 k0 k1) fun x1=>some ((decide (x1.1≥0)),x1.2.1,x1.2.2)
theorem D6 {a0 k0 k1 r}(hm:Bn a0 k0 k1=some r):Sp prog 142 [sl Ag a0,.fn (.func 143) [] [.pb 0 0,.pb 1 0]] [.box 0 [.d (.i k0.Log),.d (.i k0.At),.d (.i k0.Size),sl Ao k0.Proof] 67,.box 1 [.d (.u k1.1),.d (.u k1.2)] 34] 2 (is (.d (.t r.1)) [.box 0 [.d (.i r.2.1.Log),.d (.i r.2.1.At),.d (.i r.2.1.Size),.d (.sl _ Ao r.2.1.Proof)] 67,.box 1 [.d (.u r.2.2.1),.d (.u r.2.2.2)] 34] 2):=by
 refine sq ?_;intros;refine gD hm EL fun x1 q1 hm=> ?_;exact AhS hm▸gE
def Ep (a0:Ai)(a1:g_api_Place)(a2:UInt64×UInt64):Option Bool:=Ab (Bn a0.Client.Pool.L a1 a2) fun x1=>some x1.1
theorem MK {a0 a1 a2 r}(hm:Ep a0 a1 a2=some r):Sf prog 68 [ag (Cb a0),ag (Av a1),ag (Ao a2)] (.d (.t r)):=by
 refine sq ?_;intros;refine gD hm D6 fun x1 q1 hm=> ?_;exact AhS hm▸gE
def A1 (a0:List g_api_Promise)(i1:Int)(s1:Int×Int×Int×(List (UInt64×UInt64))):Option ((Int×Int×Int×(List (UInt64×UInt64)))⊕(Int×g_api_Place)):=Ab (idx a0 (i1:Int)) fun x3=>Ab (Fu x3 (⟨s1.1,s1.2.1,s1.2.2.1,s1.2.2.2⟩:g_api_Place)) fun x4=>if x4.1=true then some (.inr ((i1:Int),x4.2))else some (.inl (x4.2.Log,x4.2.At,x4.2.Size,x4.2.Proof))
def Bb (a0:List g_api_Promise)(k0:g_api_Place):Option (Int×g_api_Place):=Ab (BU (A1 a0) a0.length 0 (k0.Log,k0.At,k0.Size,k0.Proof)) fun x1=>match x1 with| .inr r=>some r| .inl y1=>some ((-1),(⟨y1.1,y1.2.1,y1.2.2.1,y1.2.2.2⟩:g_api_Place))
theorem DS {a0 k0 r}(hm:Bb a0 k0=some r):Sp prog 141 [sl Ad a0,.fn (.func 67) [] [.pb 0 0]] [.box 0 [.d (.i k0.Log),.d (.i k0.At),.d (.i k0.Size),sl Ao k0.Proof] 67] 1 (is (.d (.i r.1)) [.box 0 [.d (.i r.2.Log),.d (.i r.2.At),.d (.i r.2.Size),.d (.sl _ Ao r.2.Proof)] 67] 1):=by
 refine sq ?_;intros;refine oB hm fun x1 q1 hm=>H6 0 (E:=Ad) (xs:=a0) 6 fun hle1=>gF (EN _ _ _) q1 (fun p0 (p_0,p_1,p_2,p_3)=>⟨[(0,sl Ad a0),(1,.fn (.func 67) [] [.pb 0 0]),(7,.d (.i (a0.length:Int))),(8,.d (.i p0))],[(0,.box 0 [.d (.i p_0),.d (.i p_1),.d (.i p_2),sl Ao p_3] 67)],[],1⟩) fun i1 s1 Jl bl1=>cN bl1 (a0.length:Int) (fun y2 q4 bl1=> ?_) fun e=> ?_
 ·refine oB q4 fun x3 q6 q4=>gx Ad 6 q6<|gD q4 Ls fun x4 q7 q4=>gi q4 ?_ ?_<;>intro hc1 q4
  ·obtain rfl:=nT bl1 q4;obtain rfl:=AhS hm;exact gE
  exact gT bl1 hle1 q4
 subst e;let y1:=s1;obtain rfl:=AhS hm;exact gE
def AK (a0:List g_api_Promise)(k0:g_api_Place):Option (Bool×g_api_Place):=Ab (Bb a0 k0) fun x1=>some ((decide (x1.1≥0)),x1.2)
theorem Dm {a0 k0 r}(hm:AK a0 k0=some r):Sp prog 66 [sl Ad a0,.fn (.func 67) [] [.pb 0 0]] [.box 0 [.d (.i k0.Log),.d (.i k0.At),.d (.i k0.Size),sl Ao k0.Proof] 67] 1 (is (.d (.t r.1)) [.box 0 [.d (.i r.2.Log),.d (.i r.2.At),.d (.i r.2.Size),.d (.sl _ Ao r.2.Proof)] 67] 1):=by
 refine sq ?_;intros;refine gD hm DS fun x1 q1 hm=> ?_;exact AhS hm▸gE
def GH (a0:g_api_Place)(k0:List g_api_Promise)(k1:Ai)(k2:UInt64×UInt64):Option (Bool×(List g_api_Promise)×Ai×(UInt64×UInt64)):=Ab (AK k0 a0) fun x1=>Ab (gu x1.1 (Ep k1 x1.2 k2)) fun x2=>some ((x1.1&&x2),k0,k1,k2)
theorem MM {a0 k0 k1 k2 r}(hm:GH a0 k0 k1 k2=some r):Sp prog 65 [ag (Av a0),.pb 0 0,.pb 1 0,.pb 2 0] [.box 0 [sl Ad k0] 57,.box 1 [.d (.s k1.Client.Who),sl Ac k1.Client.Roots,sl Aj k1.Client.Logs,sl Ag k1.Client.Pool.L,.d (.i k1.Client.Cascade.Day),sl Ae k1.Client.Cascade.Levels,.d (.i k1.Client.View)] 110,.box 2 [.d (.u k2.1),.d (.u k2.2)] 34] 3 (is (.d (.t r.1)) [.box 0 [.d (.sl _ Ad r.2.1)] 57,.box 1 [.d (.s r.2.2.1.Client.Who),.d (.sl _ Ac r.2.2.1.Client.Roots),.d (.sl _ Aj r.2.2.1.Client.Logs),.d (.sl _ Ag r.2.2.1.Client.Pool.L),.d (.i r.2.2.1.Client.Cascade.Day),.d (.sl _ Ae r.2.2.1.Client.Cascade.Levels),.d (.i r.2.2.1.Client.View)] 110,.box 2 [.d (.u r.2.2.2.1),.d (.u r.2.2.2.2)] 34] 3):=by
 refine sq ?_;intros;refine gD hm Dm fun x1 q1 hm=>oB hm fun x2 q2 hm=>gcH q2 MK ?_;exact AhS hm▸gE
def Be (a0:List g_api_Place)(i1:Int)(s1:(List g_api_Promise)×ByteArray×(List g_api_Cert)×(List g_api_Key)×(List g_api_Head)×Int×(List g_api_Sieve)×Int×UInt64×UInt64):Option (((List g_api_Promise)×ByteArray×(List g_api_Cert)×(List g_api_Key)×(List g_api_Head)×Int×(List g_api_Sieve)×Int×UInt64×UInt64)⊕(Int×(List g_api_Promise)×Ai×(UInt64×UInt64))):=Ab (idx a0 (i1:Int)) fun x3=>Ab (GH x3 s1.1 (⟨(⟨s1.2.1,s1.2.2.1,s1.2.2.2.1,(⟨s1.2.2.2.2.1⟩:g_api_Pool),(⟨s1.2.2.2.2.2.1,s1.2.2.2.2.2.2.1⟩:g_api_Cascade),s1.2.2.2.2.2.2.2.1⟩:g_api_Client)⟩:Ai) s1.2.2.2.2.2.2.2.2) fun x4=>if x4.1=true then some (.inr ((i1:Int),x4.2.1,x4.2.2.1,x4.2.2.2))else some (.inl (x4.2.1,x4.2.2.1.Client.Who,x4.2.2.1.Client.Roots,x4.2.2.1.Client.Logs,x4.2.2.1.Client.Pool.L,x4.2.2.1.Client.Cascade.Day,x4.2.2.1.Client.Cascade.Levels,x4.2.2.1.Client.View,x4.2.2.2.1,x4.2.2.2.2))
def Bz (a0:List g_api_Place)(k0:List g_api_Promise)(k1:Ai)(k2:UInt64×UInt64):Option (Int×(List g_api_Promise)×Ai×(UInt64×UInt64)):=Ab (BU (Be a0) a0.length 0 (k0,k1.Client.Who,k1.Client.Roots,k1.Client.Logs,k1.Client.Pool.L,k1.Client.Cascade.Day,k1.Client.Cascade.Levels,k1.Client.View,k2.1,k2.2)) fun x1=>match x1 with| .inr r=>some r| .inl y1=>some ((-1),y1.1,(⟨(⟨y1.2.1,y1.2.2.1,y1.2.2.2.1,(⟨y1.2.2.2.2.1⟩:g_api_Pool),(⟨y1.2.2.2.2.2.1,y1.2.2.2.2.2.2.1⟩:g_api_Cascade),y1.2.2.2.2.2.2.2.1⟩:g_api_Client)⟩:Ai),y1.2.2.2.2.2.2.2.2)
theorem Ex {a0 k0 k1 k2 r}(hm:Bz a0 k0 k1 k2=some r):Sp prog 144 [sl Av a0,.fn (.func 65) [] [.pb 0 0,.pb 1 0,.pb 2 0]] [.box 0 [sl Ad k0] 57,.box 1 [.d (.s k1.Client.Who),sl Ac k1.Client.Roots,sl Aj k1.Client.Logs,sl Ag k1.Client.Pool.L,.d (.i k1.Client.Cascade.Day),sl Ae k1.Client.Cascade.Levels,.d (.i k1.Client.View)] 110,.box 2 [.d (.u k2.1),.d (.u k2.2)] 34] 3 (is (.d (.i r.1)) [.box 0 [.d (.sl _ Ad r.2.1)] 57,.box 1 [.d (.s r.2.2.1.Client.Who),.d (.sl _ Ac r.2.2.1.Client.Roots),.d (.sl _ Aj r.2.2.1.Client.Logs),.d (.sl _ Ag r.2.2.1.Client.Pool.L),.d (.i r.2.2.1.Client.Cascade.Day),.d (.sl _ Ae r.2.2.1.Client.Cascade.Levels),.d (.i r.2.2.1.Client.View)] 110,.box 2 [.d (.u r.2.2.2.1),.d (.u r.2.2.2.2)] 34] 3):=by
 refine sq ?_;intros;refine oB hm fun x1 q1 hm=>H6 0 (E:=Av) (xs:=a0) 6 fun hle1=>gF (EN _ _ _) q1 (fun p0 (p_0,p_1,p_2,p_3,p_4,p_5,p_6,p_7,p_8,p_9)=>⟨[(0,sl Av a0),(1,.fn (.func 65) [] [.pb 0 0,.pb 1 0,.pb 2 0]),(7,.d (.i (a0.length:Int))),(8,.d (.i p0))],[(0,.box 0 [sl Ad p_0] 57),(1,.box 1 [.d (.s p_1),sl Ac p_2,sl Aj p_3,sl Ag p_4,.d (.i p_5),sl Ae p_6,.d (.i p_7)] 110),(2,.box 2 [.d (.u p_8),.d (.u p_9)] 34)],[],3⟩) fun i1 s1 Jl bl1=>cN bl1 (a0.length:Int) (fun y2 q4 bl1=> ?_) fun e=> ?_
 ·refine oB q4 fun x3 q6 q4=>gx Av 4 q6<|gD q4 MM fun x4 q7 q4=>gi q4 ?_ ?_<;>intro hc1 q4
  ·obtain rfl:=nT bl1 q4;obtain rfl:=AhS hm;exact gE
  exact gT bl1 hle1 q4
 subst e;let y1:=s1;obtain rfl:=AhS hm;exact gE
def AQ (a0:List g_api_Place)(k0:List g_api_Promise)(k1:Ai)(k2:UInt64×UInt64):Option (Bool×(List g_api_Promise)×Ai×(UInt64×UInt64)):=Ab (Bz a0 k0 k1 k2) fun x1=>some ((decide (x1.1≥0)),x1.2.1,x1.2.2.1,x1.2.2.2)
theorem DX {a0 k0 k1 k2 r}(hm:AQ a0 k0 k1 k2=some r):Sp prog 69 [sl Av a0,.fn (.func 65) [] [.pb 0 0,.pb 1 0,.pb 2 0]] [.box 0 [sl Ad k0] 57,.box 1 [.d (.s k1.Client.Who),sl Ac k1.Client.Roots,sl Aj k1.Client.Logs,sl Ag k1.Client.Pool.L,.d (.i k1.Client.Cascade.Day),sl Ae k1.Client.Cascade.Levels,.d (.i k1.Client.View)] 110,.box 2 [.d (.u k2.1),.d (.u k2.2)] 34] 3 (is (.d (.t r.1)) [.box 0 [.d (.sl _ Ad r.2.1)] 57,.box 1 [.d (.s r.2.2.1.Client.Who),.d (.sl _ Ac r.2.2.1.Client.Roots),.d (.sl _ Aj r.2.2.1.Client.Logs),.d (.sl _ Ag r.2.2.1.Client.Pool.L),.d (.i r.2.2.1.Client.Cascade.Day),.d (.sl _ Ae r.2.2.1.Client.Cascade.Levels),.d (.i r.2.2.1.Client.View)] 110,.box 2 [.d (.u r.2.2.2.1),.d (.u r.2.2.2.2)] 34] 3):=by
 refine sq ?_;intros;refine gD hm Ex fun x1 q1 hm=> ?_;exact AhS hm▸gE
def C8 (k0:List g_api_Promise)(k1:Ai)(k2:UInt64×UInt64)(k3:g_api_Offer):Option (Int×(List g_api_Promise)×Ai×(UInt64×UInt64)×g_api_Offer):=Ab (AQ k3.Where k0 k1 k2) fun x1=>if(!x1.1)=true then some (240,x1.2.1,x1.2.2.1,x1.2.2.2,k3)else some (0,x1.2.1,x1.2.2.1,x1.2.2.2,k3)
theorem Oo {k0 k1 k2 k3 r}(hm:C8 k0 k1 k2 k3=some r):Sp prog 64 [.pb 0 0,.pb 1 0,.pb 2 0,.pb 3 0] [.box 0 [sl Ad k0] 57,.box 1 [.d (.s k1.Client.Who),sl Ac k1.Client.Roots,sl Aj k1.Client.Logs,sl Ag k1.Client.Pool.L,.d (.i k1.Client.Cascade.Day),sl Ae k1.Client.Cascade.Levels,.d (.i k1.Client.View)] 110,.box 2 [.d (.u k2.1),.d (.u k2.2)] 34,.box 3 [sl Ac k3.Path,sl Av k3.Where] 52] 4 (is (.d (.i r.1)) [.box 0 [.d (.sl _ Ad r.2.1)] 57,.box 1 [.d (.s r.2.2.1.Client.Who),.d (.sl _ Ac r.2.2.1.Client.Roots),.d (.sl _ Aj r.2.2.1.Client.Logs),.d (.sl _ Ag r.2.2.1.Client.Pool.L),.d (.i r.2.2.1.Client.Cascade.Day),.d (.sl _ Ae r.2.2.1.Client.Cascade.Levels),.d (.i r.2.2.1.Client.View)] 110,.box 2 [.d (.u r.2.2.2.1.1),.d (.u r.2.2.2.1.2)] 34,.box 3 [.d (.sl _ Ac r.2.2.2.2.Path),.d (.sl _ Av r.2.2.2.2.Where)] 52] 4):=by
 refine sq ?_;intros;refine gD hm DX fun x1 q1 hm=>gi hm ?_ ?_<;>intro hc1 hm
 ·exact AhS hm▸gE
 exact AhS hm▸gE
def D3 (a0:Int)(i1:Int)(s1:(List UInt8)):Option ((List UInt8)):=if(0:Int)≤(w64 (56-(w64 (8*(i1:Int)))))then Ab (idx s1 (i1:Int)) fun x4=>bnd (s1.set (i1:Int).toNat (toB (Bj a0 ((w64 (56-(w64 (8*(i1:Int))))).toNat)))) fun x5=>some x5 else none
def D9 (a0:Int):Option (List UInt8):=Ab (Ab (CR (D3 a0) ((List.replicate 8 (0:UInt8)).length) 0 (List.replicate 8 (0:UInt8))) fun x2=>some x2) fun x1=>some x1
theorem Jn {a0 r}(hm:D9 a0=some r):Sp prog 247 [.d (.i a0)] [] 0 (is (.ow 0) [.row 0 1 _ eB r] 1):=by
 refine sq ?_;intros;unfold D9 at hm;refine gmks (k:=8) (xs:=(List.replicate 8 (0:UInt8))) eB (0:UInt8) (.b 0) 1 rfl ?_;obtain⟨x1,q1,hm⟩:=Af hm;refine oB q1 fun x2 q2 q1=>H6 0 (E:=eB) (xs:=(List.replicate 8 (0:UInt8))) 6 fun hle1=>gF (EM _ _ _) q2 (fun p0 p=>⟨[(0,.d (.i a0)),(3,.ow 0),(7,.d (.i ((List.replicate 8 (0:UInt8)).length:Int))),(8,.d (.i p0))],[(0,.row 0 1 _ eB p)],[],1⟩) fun i1 s1 Jl bl1=>cM bl1 ((List.replicate 8 (0:UInt8)).length:Int) (fun y1 q5 bl1=> ?_) fun e=> ?_
 ·unfold D3 at q5;obtain⟨q7,q5⟩:=Bw q5;refine gsh (r:= .i (Bj a0 ((w64 (56-(w64 (8*(i1:Int))))).toNat))) (fun h=>q7)<|oB q5 fun x4 q8 q5=>Jj (E:=eB) (fun _=>q8)<|bE q5 ?_;intro x5 q5;exact AdK (k:=1) (E:=eB) (toB (Bj a0 ((w64 (56-(w64 (8*(i1:Int))))).toNat))) (fun _=>rfl) q8<|gM bl1 hle1 q5
 subst e;obtain rfl:=AhS q1;let x1:=x2;obtain rfl:=AhS hm;exact gE
def GD {σ:Type}(p0:σ→(Int×UInt8)→Option (Bool×σ))(k0:g_api_Sieve)(k1:List UInt8)(k2:List UInt8)(s1:Int×σ):Option ((Int×σ)⊕((σ)⊕(g_api_Sieve×(List UInt8)×(List UInt8)×σ))):=if(decide (s1.1<k0.Hashes))=true then Ab (CI (⟨#[115,105,101,118,101]⟩:ByteArray) ([k1,([(toB s1.1)]:List UInt8),k2]:List (List UInt8))) fun x3=>Ab (Hy x3 (toU k0.Bits)) fun x4=>if(0:Int)≤(Jm (w64 (x4.toNat:Int)) 7)then Ab (p0 s1.2 ((Bj (w64 (x4.toNat:Int)) 3),(Acb 1 ((Jm (w64 (x4.toNat:Int)) 7).toNat)))) fun x5=>if(!x5.1)=true then some (.inr (.inr (k0,k1,k2,x5.2)))else some (.inl ((w64 (s1.1+1)),x5.2))else none else some (.inr (.inl s1.2))
def Gn {σ:Type}(p0:σ→(Int×UInt8)→Option (Bool×σ))(k0:g_api_Sieve)(k1:List UInt8)(k2:List UInt8)(s0:σ):Option (g_api_Sieve×(List UInt8)×(List UInt8)×σ):=Ab (iter (GD p0 k0 k1 k2) FA (0,s0)) fun x1=>match x1 with| .inr r=>some r| .inl y1=>some (k0,k1,k2,y1)
theorem Pm {σ:Type}{p0:σ→(Int×UInt8)→Option (Bool×σ)}{k0 k1 k2 s0 r}(hm:Gn p0 k0 k1 k2 s0=some r)(g:Value)(R:σ→Mem→Ow)(hcb:Ye prog g (fun x=> [.d (.i x.1),.d (.b x.2)]) R p0):Sp prog 248 [.ow 0,.pb 1 0,.pb 2 0,.pb 3 0] [.hp 0 (.cb g σ R s0),.box 1 [.d (.i k0.Bits),.d (.i k0.Hashes),.d (.i k0.Salt),sl eB k0.B] 98,.box 2 [sl eB k1] 96,.box 3 [sl eB k2] 96] 4 (is (.tup []) [.hp 0 (.cb g σ R r.2.2.2),.box 1 [.d (.i r.1.Bits),.d (.i r.1.Hashes),.d (.i r.1.Salt),.d (.sl _ eB r.1.B)] 98,.box 2 [.d (.sl _ eB r.2.1)] 96,.box 3 [.d (.sl _ eB r.2.2.1)] 96] 4):=by
 refine sq ?_;intros;refine oB hm fun x1 q1 hm=>gI q1 (fun(p_0,p_1)=>⟨[(0,.ow 0),(1,.pb 1 0),(2,.pb 2 0),(3,.pb 3 0),(8,.d (.i k0.Hashes)),(9,.d (.i p_0))],[(0,.box 1 [.d (.i k0.Bits),.d (.i k0.Hashes),.d (.i k0.Salt),sl eB k0.B] 98),(1,.box 2 [sl eB k1] 96),(2,.box 3 [sl eB k2] 96),(3,.hp 0 (.cb g σ R p_1))],[],4⟩) fun s1 y2 Jl q4 bl1=>gi q4 ?_ ?_<;>intro hc1 q4
 ·refine gq eB 1 [(toB s1.1)]<|gq (eL eB) 1 [k1,([(toB s1.1)]:List UInt8),k2]<|gA q4 Ef fun x3 q6 q4=>gA q4 L9 fun x4 q7 q4=> ?_;obtain⟨q8,q4⟩:=Bw q4;refine gsh (r:= .b (Acb 1 ((Jm (w64 (x4.toNat:Int)) 7).toNat))) (fun h=>q8)<|oB q4 fun x5 q9 q4=>gcb ((Bj (w64 (x4.toNat:Int)) 3),(Acb 1 ((Jm (w64 (x4.toNat:Int)) 7).toNat))) hcb q9<|gi q4 ?_ ?_<;>intro hc2 q4
  ·obtain rfl:=nR bl1 q4;obtain rfl:=AhS hm;exact gE
  exact gN bl1 q4
 obtain rfl:=nR bl1 q4;let y1:=s1.2;obtain rfl:=AhS hm;exact gE
def JO (a0:g_api_Sieve)(a1:Int):Option (g_api_Sieve×(List UInt8)×(List UInt8)):=Ab (D9 a0.Salt) fun x1=>Ab (D9 a1) fun x2=>some (a0,x1,x2)
theorem Rm {a0 a1 r}(hm:JO a0 a1=some r):Sp prog 160 [ag (Ae a0),.d (.i a1)] [] 0 (is (.fn (.func 248) [] [.pb 0 0,.pb 1 0,.pb 2 0]) [.box 0 [.d (.i r.1.Bits),.d (.i r.1.Hashes),.d (.i r.1.Salt),sl eB r.1.B] 98,.box 1 [sl eB r.2.1] 96,.box 2 [sl eB r.2.2] 96] 3):=by
 refine sq ?_;intros;refine gD hm Jn fun x1 q1 hm=>gD hm Jn fun x2 q2 hm=> ?_;exact AhS hm▸gE
def Gc (a0:g_api_Sieve)(b7:Int×UInt8)(s1:(Unit)×Nat):Option ((Unit)×Nat):=Ab (idx a0.B b7.1) fun x5=>if(((x5&&&b7.2).toNat:Int)==0)=true then some ((),1)else some ((),0)
def Hw (a0:g_api_Sieve)(a1:Int):Option Bool:=Ab (G4 a0) fun x1=>Ab (gu (!(x1 !=0)) (C1 a1)) fun x2=>if((x1 !=0)||(!x2))=true then some false else Ab (JO a0 a1) fun x3=>Ab (Gn (fun(s:(Unit)×Nat) (b0:Int×UInt8)=>if s.2=0 then Ab (Gc a0 b0 s) fun y=>some (y.2==0,y)else none) x3.1 x3.2.1 x3.2.2 ((),0)) fun x4=>if(x4.2.2.2).2=0 then some true else some false
theorem P3 {a0 a1 r}(hm:Hw a0 a1=some r):Sf prog 87 [ag (Ae a0),.d (.i a1)] (.d (.t r)):=
 spR call87 func87 rfl ntmps87 rfl fun D0 As η0 m0 hD hd=>by
  unfold Hw at hm;refine gA hm Nm fun x1 q1 hm=>oB hm fun x2 q2 hm=>gcH q2 Ik<|gi hm ?_ ?_<;>intro hc1 hm
  ·exact AhS hm▸gE
  refine gD hm Rm fun x3 q3 hm=>oB hm fun x4 q4 hm=>LS hD (n0:=0) 5 5 [⟨2,2,98,[.d (.i x3.1.Bits),.d (.i x3.1.Hashes),.d (.i x3.1.Salt),sl eB x3.1.B],[.d (.i x4.1.Bits),.d (.i x4.1.Hashes),.d (.i x4.1.Salt),sl eB x4.1.B]⟩,⟨3,3,96,[sl eB x3.2.1],[sl eB x4.2.1]⟩,⟨4,4,96,[sl eB x3.2.2],[sl eB x4.2.2.1]⟩] (gt:=17) (ps:=[18,19]) [(2,.pb 0 0),(4,.pb 1 0),(17,.fn (.func 248) [] [.pb 2 0,.pb 3 0,.pb 4 0])] (fun(y1:Unit)=> [(0,.box 1 [.d (.t false)] 4),(1,.box 0 [.d (.i a0.Bits),.d (.i a0.Hashes),.d (.i a0.Salt),sl eB a0.B] 98)]) (fun(y1:(Unit)×Nat)=> [(0,.box 1 [.d (.t false)] 4),(1,.box 0 [.d (.i a0.Bits),.d (.i a0.Hashes),.d (.i a0.Salt),sl eB a0.B] 98)]) (fun x=> [.d (.i x.1),.d (.b x.2)]) (fun(s1:Unit) (b7:Int×UInt8)=>⟨[(2,.pb 0 0),(4,.pb 1 0),(5,.d (.i b7.1)),(6,.d (.b b7.2)),(17,.fn (.func 248) [] [.pb 2 0,.pb 3 0,.pb 4 0])],[(0,.box 1 [.d (.t false)] 4),(1,.box 0 [.d (.i a0.Bits),.d (.i a0.Hashes),.d (.i a0.Salt),sl eB a0.B] 98)],[],5⟩) (pJ fun x s=>Gc a0 x s) () hd (via fJ hyJ rfl fun g R h=>Pm q4 g R h) rfl (fun _=>rfl) (fun _=>rfl) (fun _=>rfl) (fun _=>rfl) ?_ ?_ ?_ ?_
  ·intro s1 b7 s' hp l D0 As η0 m0 hd Ja ba;exact gb ba hd () trivial
  ·intro s1 b7 s' hp l D0 As η0 m0 hd Jb bb Jr br;obtain⟨z1,q5,hp⟩:=Ah2.1 hp;subst hp;unfold Gc at q5;dsimp only at q5;refine oB q5 fun x5 q6 q5=>gx eB 1 q6<|gi q5 ?_ ?_<;>intro hc2 q5
   ·obtain rfl:=AhS q5;exact AdN br hd ((),1) rfl
   obtain rfl:=AhS q5;exact gb bb hd () rfl
  ·intro x hx;obtain⟨hj1,rfl⟩:=XP hx;rw[AhZ hj1]at hm;exact AhS hm▸gE
  intro y hy;obtain⟨hj1,rfl⟩:=XO hy;rw[AhX hj1]at hm;exact AhS hm▸gE
def I7 (a0:g_api_Sieve)(k0:Int):Option (Bool×Int):=Ab (Hw a0 k0) fun x1=>some ((!x1),k0)
theorem Qj {a0 k0 r}(hm:I7 a0 k0=some r):Sp prog 86 [ag (Ae a0),.pb 0 0] [.box 0 [.d (.i k0)] 3] 1 (is (.d (.t r.1)) [.box 0 [.d (.i r.2)] 3] 1):=by
 refine sq ?_;intros;refine gA hm P3 fun x1 q1 hm=> ?_;exact AhS hm▸gE
def AH (a0:List g_api_Sieve)(i1:Int)(s1:Int):Option ((Int)⊕(Int×Int)):=Ab (idx a0 (i1:Int)) fun x3=>Ab (I7 x3 s1) fun x4=>if x4.1=true then some (.inr ((i1:Int),x4.2))else some (.inl x4.2)
def By (a0:List g_api_Sieve)(k0:Int):Option (Int×Int):=Ab (BU (AH a0) a0.length 0 k0) fun x1=>match x1 with| .inr r=>some r| .inl y1=>some ((-1),y1)
theorem Ew {a0 k0 r}(hm:By a0 k0=some r):Sp prog 85 [sl Ae a0,.fn (.func 86) [] [.pb 0 0]] [.box 0 [.d (.i k0)] 3] 1 (is (.d (.i r.1)) [.box 0 [.d (.i r.2)] 3] 1):=by
 refine sq ?_;intros;refine oB hm fun x1 q1 hm=>H6 0 (E:=Ae) (xs:=a0) 6 fun hle1=>gF (EN _ _ _) q1 (fun p0 p=>⟨[(0,sl Ae a0),(1,.fn (.func 86) [] [.pb 0 0]),(7,.d (.i (a0.length:Int))),(8,.d (.i p0))],[(0,.box 0 [.d (.i p)] 3)],[],1⟩) fun i1 s1 Jl bl1=>cN bl1 (a0.length:Int) (fun y2 q4 bl1=> ?_) fun e=> ?_
 ·refine oB q4 fun x3 q6 q4=>gx Ae 4 q6<|gD q4 Qj fun x4 q7 q4=>gi q4 ?_ ?_<;>intro hc1 q4
  ·obtain rfl:=nT bl1 q4;obtain rfl:=AhS hm;exact gE
  exact gT bl1 hle1 q4
 subst e;let y1:=s1;obtain rfl:=AhS hm;exact gE
def m_cascade_Has (a0:g_api_Cascade)(a1:Int):Option Bool:=Ab (CO a0) fun x1=>if(x1 !=0)=true then some false else Ab (By a0.Levels a1) fun x2=>Ab (if(decide (x2.1<0))=true then some (a0.Levels.length:Int)else some x2.1) fun x3=>some ((Jm x3 1)==1)
theorem Ta {a0 a1 r}(hm:m_cascade_Has a0 a1=some r):Sf prog 28 [ag (Ev a0),.d (.i a1)] (.d (.t r)):=by
 refine sq fun D0 As η0 m0 hd=>gA hm IM fun x1 q1 hm=>gi hm ?_ ?_<;>intro hc1 hm
 ·exact AhS hm▸gE
 refine gD hm Ew fun x2 q2 hm=>oB hm fun x3 q3 hm=>gj (fun(_:Unit)=>⟨[(5,.d (.i x3)),(3,.pb 1 0),(2,.pb 0 0)],[(0,.box 1 [.d (.i x2.2)] 3),(1,.box 0 [.d (.i a0.Day),sl Ae a0.Levels] 29)],[],2⟩) (fun _=>True) (fun Jp bk1=> ?_) fun _ _=> ?_
 ·refine gi q3 ?_ ?_<;>intro hc2 q3
  ·obtain rfl:=AhS q3;exact gb bk1 hd () trivial
  obtain rfl:=AhS q3;exact gb bk1 hd () trivial
 exact AhS hm▸gE
def C7 (k0:g_api_Client)(k1:g_api_Offer):Option (Int×g_api_Client×g_api_Offer):=Ab (idx k1.Path 0) fun x1=>Ab (m_cascade_Has k0.Cascade x1.Serial) fun x2=>if x2=true then some (270,k0,k1)else some (0,k0,k1)
theorem On {k0 k1 r}(hm:C7 k0 k1=some r):Sp prog 70 [.pb 0 0,.pb 1 0] [.box 0 [.d (.s k0.Who),sl Ac k0.Roots,sl Aj k0.Logs,sl Ag k0.Pool.L,.d (.i k0.Cascade.Day),sl Ae k0.Cascade.Levels,.d (.i k0.View)] 31,.box 1 [sl Ac k1.Path,sl Av k1.Where] 52] 2 (is (.d (.i r.1)) [.box 0 [.d (.s r.2.1.Who),.d (.sl _ Ac r.2.1.Roots),.d (.sl _ Aj r.2.1.Logs),.d (.sl _ Ag r.2.1.Pool.L),.d (.i r.2.1.Cascade.Day),.d (.sl _ Ae r.2.1.Cascade.Levels),.d (.i r.2.1.View)] 31,.box 1 [.d (.sl _ Ac r.2.2.Path),.d (.sl _ Av r.2.2.Where)] 52] 2):=by
 refine sq ?_;intros;refine oB hm fun x1 q1 hm=>gx Ac 13 q1<|gA hm Ta fun x2 q2 hm=>gi hm ?_ ?_<;>intro hc1 hm
 ·exact AhS hm▸gE
 exact AhS hm▸gE
def Az (i1:Int)(s1:ByteArray×(List g_api_Cert)×(List g_api_Key)×(List g_api_Head)×Int×(List g_api_Sieve)×Int×Int×(List g_api_Cert)×(List g_api_Place)×ByteArray×UInt64×UInt64×ByteArray×(List g_api_Cert)×(List g_api_Key)×(List g_api_Head)×Int×(List g_api_Sieve)×Int×(List g_api_Promise)):Option ((ByteArray×(List g_api_Cert)×(List g_api_Key)×(List g_api_Head)×Int×(List g_api_Sieve)×Int×Int×(List g_api_Cert)×(List g_api_Place)×ByteArray×UInt64×UInt64×ByteArray×(List g_api_Cert)×(List g_api_Key)×(List g_api_Head)×Int×(List g_api_Sieve)×Int×(List g_api_Promise))⊕(Int×g_api_Client×Int×g_api_Offer×ByteArray×(UInt64×UInt64)×Ai×(List g_api_Promise))):=if i1=0 then Ab (Dc (⟨s1.1,s1.2.1,s1.2.2.1,(⟨s1.2.2.2.1⟩:g_api_Pool),(⟨s1.2.2.2.2.1,s1.2.2.2.2.2.1⟩:g_api_Cascade),s1.2.2.2.2.2.2.1⟩:g_api_Client)) fun x3=>if(x3.1 !=0)=true then some (.inr (x3.1,x3.2,s1.2.2.2.2.2.2.2.1,(⟨s1.2.2.2.2.2.2.2.2.1,s1.2.2.2.2.2.2.2.2.2.1⟩:g_api_Offer),s1.2.2.2.2.2.2.2.2.2.2.1,(s1.2.2.2.2.2.2.2.2.2.2.2.1,s1.2.2.2.2.2.2.2.2.2.2.2.2.1),(⟨(⟨s1.2.2.2.2.2.2.2.2.2.2.2.2.2.1,s1.2.2.2.2.2.2.2.2.2.2.2.2.2.2.1,s1.2.2.2.2.2.2.2.2.2.2.2.2.2.2.2.1,(⟨s1.2.2.2.2.2.2.2.2.2.2.2.2.2.2.2.2.1⟩:g_api_Pool),(⟨s1.2.2.2.2.2.2.2.2.2.2.2.2.2.2.2.2.2.1,s1.2.2.2.2.2.2.2.2.2.2.2.2.2.2.2.2.2.2.1⟩:g_api_Cascade),s1.2.2.2.2.2.2.2.2.2.2.2.2.2.2.2.2.2.2.2.1⟩:g_api_Client)⟩:Ai),s1.2.2.2.2.2.2.2.2.2.2.2.2.2.2.2.2.2.2.2.2))else some (.inl (x3.2.Who,x3.2.Roots,x3.2.Logs,x3.2.Pool.L,x3.2.Cascade.Day,x3.2.Cascade.Levels,x3.2.View,s1.2.2.2.2.2.2.2.1,s1.2.2.2.2.2.2.2.2.1,s1.2.2.2.2.2.2.2.2.2.1,s1.2.2.2.2.2.2.2.2.2.2.1,s1.2.2.2.2.2.2.2.2.2.2.2.1,s1.2.2.2.2.2.2.2.2.2.2.2.2.1,s1.2.2.2.2.2.2.2.2.2.2.2.2.2.1,s1.2.2.2.2.2.2.2.2.2.2.2.2.2.2.1,s1.2.2.2.2.2.2.2.2.2.2.2.2.2.2.2.1,s1.2.2.2.2.2.2.2.2.2.2.2.2.2.2.2.2.1,s1.2.2.2.2.2.2.2.2.2.2.2.2.2.2.2.2.2.1,s1.2.2.2.2.2.2.2.2.2.2.2.2.2.2.2.2.2.2.1,s1.2.2.2.2.2.2.2.2.2.2.2.2.2.2.2.2.2.2.2.1,s1.2.2.2.2.2.2.2.2.2.2.2.2.2.2.2.2.2.2.2.2))else if i1=1 then Ab (Db s1.2.2.2.2.2.2.2.1 (⟨s1.1,s1.2.1,s1.2.2.1,(⟨s1.2.2.2.1⟩:g_api_Pool),(⟨s1.2.2.2.2.1,s1.2.2.2.2.2.1⟩:g_api_Cascade),s1.2.2.2.2.2.2.1⟩:g_api_Client) (⟨s1.2.2.2.2.2.2.2.2.1,s1.2.2.2.2.2.2.2.2.2.1⟩:g_api_Offer) s1.2.2.2.2.2.2.2.2.2.2.1) fun x4=>if(x4.1 !=0)=true then some (.inr (x4.1,x4.2.2.1,x4.2.1,x4.2.2.2.1,x4.2.2.2.2,(s1.2.2.2.2.2.2.2.2.2.2.2.1,s1.2.2.2.2.2.2.2.2.2.2.2.2.1),(⟨(⟨s1.2.2.2.2.2.2.2.2.2.2.2.2.2.1,s1.2.2.2.2.2.2.2.2.2.2.2.2.2.2.1,s1.2.2.2.2.2.2.2.2.2.2.2.2.2.2.2.1,(⟨s1.2.2.2.2.2.2.2.2.2.2.2.2.2.2.2.2.1⟩:g_api_Pool),(⟨s1.2.2.2.2.2.2.2.2.2.2.2.2.2.2.2.2.2.1,s1.2.2.2.2.2.2.2.2.2.2.2.2.2.2.2.2.2.2.1⟩:g_api_Cascade),s1.2.2.2.2.2.2.2.2.2.2.2.2.2.2.2.2.2.2.2.1⟩:g_api_Client)⟩:Ai),s1.2.2.2.2.2.2.2.2.2.2.2.2.2.2.2.2.2.2.2.2))else some (.inl (x4.2.2.1.Who,x4.2.2.1.Roots,x4.2.2.1.Logs,x4.2.2.1.Pool.L,x4.2.2.1.Cascade.Day,x4.2.2.1.Cascade.Levels,x4.2.2.1.View,x4.2.1,x4.2.2.2.1.Path,x4.2.2.2.1.Where,x4.2.2.2.2,s1.2.2.2.2.2.2.2.2.2.2.2.1,s1.2.2.2.2.2.2.2.2.2.2.2.2.1,s1.2.2.2.2.2.2.2.2.2.2.2.2.2.1,s1.2.2.2.2.2.2.2.2.2.2.2.2.2.2.1,s1.2.2.2.2.2.2.2.2.2.2.2.2.2.2.2.1,s1.2.2.2.2.2.2.2.2.2.2.2.2.2.2.2.2.1,s1.2.2.2.2.2.2.2.2.2.2.2.2.2.2.2.2.2.1,s1.2.2.2.2.2.2.2.2.2.2.2.2.2.2.2.2.2.2.1,s1.2.2.2.2.2.2.2.2.2.2.2.2.2.2.2.2.2.2.2.1,s1.2.2.2.2.2.2.2.2.2.2.2.2.2.2.2.2.2.2.2.2))else if i1=2 then Ab (Da (⟨s1.2.2.2.2.2.2.2.2.1,s1.2.2.2.2.2.2.2.2.2.1⟩:g_api_Offer) (s1.2.2.2.2.2.2.2.2.2.2.2.1,s1.2.2.2.2.2.2.2.2.2.2.2.2.1)) fun x5=>if(x5.1 !=0)=true then some (.inr (x5.1,(⟨s1.1,s1.2.1,s1.2.2.1,(⟨s1.2.2.2.1⟩:g_api_Pool),(⟨s1.2.2.2.2.1,s1.2.2.2.2.2.1⟩:g_api_Cascade),s1.2.2.2.2.2.2.1⟩:g_api_Client),s1.2.2.2.2.2.2.2.1,x5.2.1,s1.2.2.2.2.2.2.2.2.2.2.1,x5.2.2,(⟨(⟨s1.2.2.2.2.2.2.2.2.2.2.2.2.2.1,s1.2.2.2.2.2.2.2.2.2.2.2.2.2.2.1,s1.2.2.2.2.2.2.2.2.2.2.2.2.2.2.2.1,(⟨s1.2.2.2.2.2.2.2.2.2.2.2.2.2.2.2.2.1⟩:g_api_Pool),(⟨s1.2.2.2.2.2.2.2.2.2.2.2.2.2.2.2.2.2.1,s1.2.2.2.2.2.2.2.2.2.2.2.2.2.2.2.2.2.2.1⟩:g_api_Cascade),s1.2.2.2.2.2.2.2.2.2.2.2.2.2.2.2.2.2.2.2.1⟩:g_api_Client)⟩:Ai),s1.2.2.2.2.2.2.2.2.2.2.2.2.2.2.2.2.2.2.2.2))else some (.inl (s1.1,s1.2.1,s1.2.2.1,s1.2.2.2.1,s1.2.2.2.2.1,s1.2.2.2.2.2.1,s1.2.2.2.2.2.2.1,s1.2.2.2.2.2.2.2.1,x5.2.1.Path,x5.2.1.Where,s1.2.2.2.2.2.2.2.2.2.2.1,x5.2.2.1,x5.2.2.2,s1.2.2.2.2.2.2.2.2.2.2.2.2.2.1,s1.2.2.2.2.2.2.2.2.2.2.2.2.2.2.1,s1.2.2.2.2.2.2.2.2.2.2.2.2.2.2.2.1,s1.2.2.2.2.2.2.2.2.2.2.2.2.2.2.2.2.1,s1.2.2.2.2.2.2.2.2.2.2.2.2.2.2.2.2.2.1,s1.2.2.2.2.2.2.2.2.2.2.2.2.2.2.2.2.2.2.1,s1.2.2.2.2.2.2.2.2.2.2.2.2.2.2.2.2.2.2.2.1,s1.2.2.2.2.2.2.2.2.2.2.2.2.2.2.2.2.2.2.2.2))else if i1=3 then Ab (C9 (⟨(⟨s1.2.2.2.2.2.2.2.2.2.2.2.2.2.1,s1.2.2.2.2.2.2.2.2.2.2.2.2.2.2.1,s1.2.2.2.2.2.2.2.2.2.2.2.2.2.2.2.1,(⟨s1.2.2.2.2.2.2.2.2.2.2.2.2.2.2.2.2.1⟩:g_api_Pool),(⟨s1.2.2.2.2.2.2.2.2.2.2.2.2.2.2.2.2.2.1,s1.2.2.2.2.2.2.2.2.2.2.2.2.2.2.2.2.2.2.1⟩:g_api_Cascade),s1.2.2.2.2.2.2.2.2.2.2.2.2.2.2.2.2.2.2.2.1⟩:g_api_Client)⟩:Ai) (⟨s1.2.2.2.2.2.2.2.2.1,s1.2.2.2.2.2.2.2.2.2.1⟩:g_api_Offer) (s1.2.2.2.2.2.2.2.2.2.2.2.1,s1.2.2.2.2.2.2.2.2.2.2.2.2.1) s1.2.2.2.2.2.2.2.2.2.2.2.2.2.2.2.2.2.2.2.2) fun x6=>if(x6.1 !=0)=true then some (.inr (x6.1,(⟨s1.1,s1.2.1,s1.2.2.1,(⟨s1.2.2.2.1⟩:g_api_Pool),(⟨s1.2.2.2.2.1,s1.2.2.2.2.2.1⟩:g_api_Cascade),s1.2.2.2.2.2.2.1⟩:g_api_Client),s1.2.2.2.2.2.2.2.1,x6.2.2.1,s1.2.2.2.2.2.2.2.2.2.2.1,x6.2.2.2.1,x6.2.1,x6.2.2.2.2))else some (.inl (s1.1,s1.2.1,s1.2.2.1,s1.2.2.2.1,s1.2.2.2.2.1,s1.2.2.2.2.2.1,s1.2.2.2.2.2.2.1,s1.2.2.2.2.2.2.2.1,x6.2.2.1.Path,x6.2.2.1.Where,s1.2.2.2.2.2.2.2.2.2.2.1,x6.2.2.2.1.1,x6.2.2.2.1.2,x6.2.1.Client.Who,x6.2.1.Client.Roots,x6.2.1.Client.Logs,x6.2.1.Client.Pool.L,x6.2.1.Client.Cascade.Day,x6.2.1.Client.Cascade.Levels,x6.2.1.Client.View,x6.2.2.2.2))else if i1=4 then Ab (C8 s1.2.2.2.2.2.2.2.2.2.2.2.2.2.2.2.2.2.2.2.2 (⟨(⟨s1.2.2.2.2.2.2.2.2.2.2.2.2.2.1,s1.2.2.2.2.2.2.2.2.2.2.2.2.2.2.1,s1.2.2.2.2.2.2.2.2.2.2.2.2.2.2.2.1,(⟨s1.2.2.2.2.2.2.2.2.2.2.2.2.2.2.2.2.1⟩:g_api_Pool),(⟨s1.2.2.2.2.2.2.2.2.2.2.2.2.2.2.2.2.2.1,s1.2.2.2.2.2.2.2.2.2.2.2.2.2.2.2.2.2.2.1⟩:g_api_Cascade),s1.2.2.2.2.2.2.2.2.2.2.2.2.2.2.2.2.2.2.2.1⟩:g_api_Client)⟩:Ai) (s1.2.2.2.2.2.2.2.2.2.2.2.1,s1.2.2.2.2.2.2.2.2.2.2.2.2.1) (⟨s1.2.2.2.2.2.2.2.2.1,s1.2.2.2.2.2.2.2.2.2.1⟩:g_api_Offer)) fun x7=>if(x7.1 !=0)=true then some (.inr (x7.1,(⟨s1.1,s1.2.1,s1.2.2.1,(⟨s1.2.2.2.1⟩:g_api_Pool),(⟨s1.2.2.2.2.1,s1.2.2.2.2.2.1⟩:g_api_Cascade),s1.2.2.2.2.2.2.1⟩:g_api_Client),s1.2.2.2.2.2.2.2.1,x7.2.2.2.2,s1.2.2.2.2.2.2.2.2.2.2.1,x7.2.2.2.1,x7.2.2.1,x7.2.1))else some (.inl (s1.1,s1.2.1,s1.2.2.1,s1.2.2.2.1,s1.2.2.2.2.1,s1.2.2.2.2.2.1,s1.2.2.2.2.2.2.1,s1.2.2.2.2.2.2.2.1,x7.2.2.2.2.Path,x7.2.2.2.2.Where,s1.2.2.2.2.2.2.2.2.2.2.1,x7.2.2.2.1.1,x7.2.2.2.1.2,x7.2.2.1.Client.Who,x7.2.2.1.Client.Roots,x7.2.2.1.Client.Logs,x7.2.2.1.Client.Pool.L,x7.2.2.1.Client.Cascade.Day,x7.2.2.1.Client.Cascade.Levels,x7.2.2.1.Client.View,x7.2.1))else Ab (C7 (⟨s1.1,s1.2.1,s1.2.2.1,(⟨s1.2.2.2.1⟩:g_api_Pool),(⟨s1.2.2.2.2.1,s1.2.2.2.2.2.1⟩:g_api_Cascade),s1.2.2.2.2.2.2.1⟩:g_api_Client) (⟨s1.2.2.2.2.2.2.2.2.1,s1.2.2.2.2.2.2.2.2.2.1⟩:g_api_Offer)) fun x8=>if(x8.1 !=0)=true then some (.inr (x8.1,x8.2.1,s1.2.2.2.2.2.2.2.1,x8.2.2,s1.2.2.2.2.2.2.2.2.2.2.1,(s1.2.2.2.2.2.2.2.2.2.2.2.1,s1.2.2.2.2.2.2.2.2.2.2.2.2.1),(⟨(⟨s1.2.2.2.2.2.2.2.2.2.2.2.2.2.1,s1.2.2.2.2.2.2.2.2.2.2.2.2.2.2.1,s1.2.2.2.2.2.2.2.2.2.2.2.2.2.2.2.1,(⟨s1.2.2.2.2.2.2.2.2.2.2.2.2.2.2.2.2.1⟩:g_api_Pool),(⟨s1.2.2.2.2.2.2.2.2.2.2.2.2.2.2.2.2.2.1,s1.2.2.2.2.2.2.2.2.2.2.2.2.2.2.2.2.2.2.1⟩:g_api_Cascade),s1.2.2.2.2.2.2.2.2.2.2.2.2.2.2.2.2.2.2.2.1⟩:g_api_Client)⟩:Ai),s1.2.2.2.2.2.2.2.2.2.2.2.2.2.2.2.2.2.2.2.2))else some (.inl (x8.2.1.Who,x8.2.1.Roots,x8.2.1.Logs,x8.2.1.Pool.L,x8.2.1.Cascade.Day,x8.2.1.Cascade.Levels,x8.2.1.View,s1.2.2.2.2.2.2.2.1,x8.2.2.Path,x8.2.2.Where,s1.2.2.2.2.2.2.2.2.2.2.1,s1.2.2.2.2.2.2.2.2.2.2.2.1,s1.2.2.2.2.2.2.2.2.2.2.2.2.1,s1.2.2.2.2.2.2.2.2.2.2.2.2.2.1,s1.2.2.2.2.2.2.2.2.2.2.2.2.2.2.1,s1.2.2.2.2.2.2.2.2.2.2.2.2.2.2.2.1,s1.2.2.2.2.2.2.2.2.2.2.2.2.2.2.2.2.1,s1.2.2.2.2.2.2.2.2.2.2.2.2.2.2.2.2.2.1,s1.2.2.2.2.2.2.2.2.2.2.2.2.2.2.2.2.2.2.1,s1.2.2.2.2.2.2.2.2.2.2.2.2.2.2.2.2.2.2.2.1,s1.2.2.2.2.2.2.2.2.2.2.2.2.2.2.2.2.2.2.2.2))
def BJ (k0:g_api_Client)(k1:Int)(k2:g_api_Offer)(k3:ByteArray)(k4:UInt64×UInt64)(k5:Ai)(k6:List g_api_Promise):Option (Int×g_api_Client×Int×g_api_Offer×ByteArray×(UInt64×UInt64)×Ai×(List g_api_Promise)):=Ab (BU Az 6 0 (k0.Who,k0.Roots,k0.Logs,k0.Pool.L,k0.Cascade.Day,k0.Cascade.Levels,k0.View,k1,k2.Path,k2.Where,k3,k4.1,k4.2,k5.Client.Who,k5.Client.Roots,k5.Client.Logs,k5.Client.Pool.L,k5.Client.Cascade.Day,k5.Client.Cascade.Levels,k5.Client.View,k6)) fun x1=>match x1 with| .inr r=>some r| .inl y1=>some (0,(⟨y1.1,y1.2.1,y1.2.2.1,(⟨y1.2.2.2.1⟩:g_api_Pool),(⟨y1.2.2.2.2.1,y1.2.2.2.2.2.1⟩:g_api_Cascade),y1.2.2.2.2.2.2.1⟩:g_api_Client),y1.2.2.2.2.2.2.2.1,(⟨y1.2.2.2.2.2.2.2.2.1,y1.2.2.2.2.2.2.2.2.2.1⟩:g_api_Offer),y1.2.2.2.2.2.2.2.2.2.2.1,(y1.2.2.2.2.2.2.2.2.2.2.2.1,y1.2.2.2.2.2.2.2.2.2.2.2.2.1),(⟨(⟨y1.2.2.2.2.2.2.2.2.2.2.2.2.2.1,y1.2.2.2.2.2.2.2.2.2.2.2.2.2.2.1,y1.2.2.2.2.2.2.2.2.2.2.2.2.2.2.2.1,(⟨y1.2.2.2.2.2.2.2.2.2.2.2.2.2.2.2.2.1⟩:g_api_Pool),(⟨y1.2.2.2.2.2.2.2.2.2.2.2.2.2.2.2.2.2.1,y1.2.2.2.2.2.2.2.2.2.2.2.2.2.2.2.2.2.2.1⟩:g_api_Cascade),y1.2.2.2.2.2.2.2.2.2.2.2.2.2.2.2.2.2.2.2.1⟩:g_api_Client)⟩:Ai),y1.2.2.2.2.2.2.2.2.2.2.2.2.2.2.2.2.2.2.2.2)
theorem GY {k0 k1 k2 k3 k4 k5 k6 r}(hm:BJ k0 k1 k2 k3 k4 k5 k6=some r):Sp prog 42 [.bs 0 0 6 6] [.box 0 [.fn (.func 58) [] [.pb 1 0],.fn (.func 59) [] [.pb 2 0,.pb 1 0,.pb 3 0,.pb 4 0],.fn (.func 61) [] [.pb 3 0,.pb 5 0],.fn (.func 62) [] [.pb 6 0,.pb 3 0,.pb 5 0,.pb 7 0],.fn (.func 64) [] [.pb 7 0,.pb 6 0,.pb 5 0,.pb 3 0],.fn (.func 70) [] [.pb 1 0,.pb 3 0]] 106,.box 1 [.d (.s k0.Who),sl Ac k0.Roots,sl Aj k0.Logs,sl Ag k0.Pool.L,.d (.i k0.Cascade.Day),sl Ae k0.Cascade.Levels,.d (.i k0.View)] 31,.box 2 [.d (.i k1)] 3,.box 3 [sl Ac k2.Path,sl Av k2.Where] 52,.box 4 [.d (.s k3)] 9,.box 5 [.d (.u k4.1),.d (.u k4.2)] 34,.box 6 [.d (.s k5.Client.Who),sl Ac k5.Client.Roots,sl Aj k5.Client.Logs,sl Ag k5.Client.Pool.L,.d (.i k5.Client.Cascade.Day),sl Ae k5.Client.Cascade.Levels,.d (.i k5.Client.View)] 110,.box 7 [sl Ad k6] 57] 8 (is (.d (.i r.1)) [.box 1 [.d (.s r.2.1.Who),.d (.sl _ Ac r.2.1.Roots),.d (.sl _ Aj r.2.1.Logs),.d (.sl _ Ag r.2.1.Pool.L),.d (.i r.2.1.Cascade.Day),.d (.sl _ Ae r.2.1.Cascade.Levels),.d (.i r.2.1.View)] 31,.box 2 [.d (.i r.2.2.1)] 3,.box 3 [.d (.sl _ Ac r.2.2.2.1.Path),.d (.sl _ Av r.2.2.2.1.Where)] 52,.box 4 [.d (.s r.2.2.2.2.1)] 9,.box 5 [.d (.u r.2.2.2.2.2.1.1),.d (.u r.2.2.2.2.2.1.2)] 34,.box 6 [.d (.s r.2.2.2.2.2.2.1.Client.Who),.d (.sl _ Ac r.2.2.2.2.2.2.1.Client.Roots),.d (.sl _ Aj r.2.2.2.2.2.2.1.Client.Logs),.d (.sl _ Ag r.2.2.2.2.2.2.1.Client.Pool.L),.d (.i r.2.2.2.2.2.2.1.Client.Cascade.Day),.d (.sl _ Ae r.2.2.2.2.2.2.1.Client.Cascade.Levels),.d (.i r.2.2.2.2.2.2.1.Client.View)] 110,.box 7 [.d (.sl _ Ad r.2.2.2.2.2.2.2)] 57] 8):=by
 refine sq ?_;intros;refine oB hm fun x1 q1 hm=>gF (EN _ 6 _) q1 (fun p0 (p_0,p_1,p_2,p_3,p_4,p_5,p_6,p_7,p_8,p_9,p_10,p_11,p_12,p_13,p_14,p_15,p_16,p_17,p_18,p_19,p_20)=>⟨[(6,.bs 0 0 6 6),(7,.d (.i 6)),(8,.d (.i p0))],[(0,.box 0 [.fn (.func 58) [] [.pb 1 0],.fn (.func 59) [] [.pb 2 0,.pb 1 0,.pb 3 0,.pb 4 0],.fn (.func 61) [] [.pb 3 0,.pb 5 0],.fn (.func 62) [] [.pb 6 0,.pb 3 0,.pb 5 0,.pb 7 0],.fn (.func 64) [] [.pb 7 0,.pb 6 0,.pb 5 0,.pb 3 0],.fn (.func 70) [] [.pb 1 0,.pb 3 0]] 106),(1,.box 1 [.d (.s p_0),sl Ac p_1,sl Aj p_2,sl Ag p_3,.d (.i p_4),sl Ae p_5,.d (.i p_6)] 31),(2,.box 2 [.d (.i p_7)] 3),(3,.box 3 [sl Ac p_8,sl Av p_9] 52),(4,.box 4 [.d (.s p_10)] 9),(5,.box 5 [.d (.u p_11),.d (.u p_12)] 34),(6,.box 6 [.d (.s p_13),sl Ac p_14,sl Aj p_15,sl Ag p_16,.d (.i p_17),sl Ae p_18,.d (.i p_19)] 110),(7,.box 7 [sl Ad p_20] 57)],[],8⟩) fun i1 s1 Jl bl1=>cN bl1 (6:Int) (fun y2 q4 bl1=> ?_) fun e=> ?_
 ·obtain rfl|rfl|rfl|rfl|rfl|rfl:i1=0∨i1=1∨i1=2∨i1=3∨i1=4∨i1=5:=by have h:=bl1.1.1; change i1<6 at h; omega
  ·refine gD q4 Ov fun x3 q6 q4=>gi q4 ?_ ?_<;>intro hc1 q4
   ·obtain rfl:=nT bl1 q4;obtain rfl:=AhS hm;exact gE
   exact gT bl1 lk q4
  ·refine gD q4 Ou fun x4 q7 q4=>gi q4 ?_ ?_<;>intro hc2 q4
   ·obtain rfl:=nT bl1 q4;obtain rfl:=AhS hm;exact gE
   exact gT bl1 lk q4
  ·refine gD q4 Ot fun x5 q8 q4=>gi q4 ?_ ?_<;>intro hc3 q4
   ·obtain rfl:=nT bl1 q4;obtain rfl:=AhS hm;exact gE
   exact gT bl1 lk q4
  ·refine gD q4 Oq fun x6 q9 q4=>gi q4 ?_ ?_<;>intro hc4 q4
   ·obtain rfl:=nT bl1 q4;obtain rfl:=AhS hm;exact gE
   exact gT bl1 lk q4
  ·refine gD q4 Oo fun x7 q10 q4=>gi q4 ?_ ?_<;>intro hc5 q4
   ·obtain rfl:=nT bl1 q4;obtain rfl:=AhS hm;exact gE
   exact gT bl1 lk q4
  refine gD q4 On fun x8 q11 q4=>gi q4 ?_ ?_<;>intro hc6 q4
  ·obtain rfl:=nT bl1 q4;obtain rfl:=AhS hm;exact gE
  exact gT bl1 lk q4
 subst e;let y1:=s1;obtain rfl:=AhS hm;exact gE
def AA (a0:g_api_Client)(a1:g_api_Offer)(a2:ByteArray)(a3:Int):Option Int:=Ab (BJ a0 a3 a1 a2 (0,0) (⟨a0⟩:Ai) ([]:List g_api_Promise)) fun x1=>some x1.1
theorem B4 {a0 a1 a2 a3 r}(hm:AA a0 a1 a2 a3=some r):Sf prog 23 [ag (Cw a0),ag (HI a1),.d (.s a2),.d (.i a3)] (.d (.i r)):=by
 refine sq ?_;intros;refine gfs<|gD hm GY fun x1 q1 hm=> ?_;exact AhS hm▸gE
def R6 (a0:UInt64):Option Bool:=bnd ((((a0.toNat:Int)==0)||(decide ((a0.toNat:Int)≥1152921504606845789)))) fun x1=>some x1
theorem Yj {a0 r}(hm:R6 a0=some r):Sf prog 161 [.d (.u a0)] (.d (.t r)):=by
 refine sq ?_;intros;refine bE hm ?_;intro x1 hm;obtain rfl:=AhS hm;exact gE
def Ip (a0:UInt64):Option (UInt64×Int):=Ab (R6 a0) fun x1=>if x1=true then some (0,1)else Ab (Eo a0) fun x2=>some (x2,0)
theorem Kq {a0 r}(hm:Ip a0=some r):Sf prog 88 [.d (.u a0)] (.tup [.d (.u r.1),.d (.i r.2)]):=by
 refine sq ?_;intros;refine gA hm Yj fun x1 q1 hm=>gi hm ?_ ?_<;>intro hc1 hm
 ·exact AhS hm▸gE
 refine gA hm Ku fun x2 q2 hm=> ?_;exact AhS hm▸gE
def MX (a0:ByteArray)(a1:List (List UInt8)):Option UInt64:=Ab (CI a0 a1) fun x1=>Ab (Hy x1 1152921504606845788) fun x2=>some (x2+1)
theorem P2 {a0 a1 r}(hm:MX a0 a1=some r):Sf prog 163 [.d (.s a0),sl (eL eB) a1] (.d (.u r)):=by
 refine sq ?_;intros;refine gA hm Ef fun x1 q1 hm=>gA hm L9 fun x2 q2 hm=> ?_;exact AhS hm▸gE
def Io (a0:List UInt8):Option UInt64:=Ab (MX (⟨#[115,101,99,114,101,116]⟩:ByteArray) ([a0]:List (List UInt8))) fun x1=>some x1
theorem Kp {a0 r}(hm:Io a0=some r):Sf prog 89 [sl eB a0] (.d (.u r)):=by
 refine sq ?_;intros;refine gq (eL eB) 1 [a0]<|gA hm P2 fun x1 q1 hm=> ?_;exact AhS hm▸gE
def HA (a0:UInt64)(a1:UInt64)(a2:UInt64):Option UInt64:=if a0≠0 then if a0≠0 then Ab (GL (JJ (a1%a0) (a2%a0)) ((a1%a0)+(a2%a0)) a0) fun x1=>some x1 else none else none
theorem Ol {a0 a1 a2 r}(hm:HA a0 a1 a2=some r):Sf prog 259 [.d (.u a0),.d (.u a1),.d (.u a2)] (.d (.u r)):=by
 refine sq ?_;intros;unfold HA at hm;obtain⟨q1,hm⟩:=Bw hm;refine Acm (d:= .u a0) (r:= .u (a1%a0)) (fun h=>q1) ?_;obtain⟨q2,hm⟩:=Bw hm;refine Acm (d:= .u a0) (r:= .u (a2%a0)) (fun h=>q2)<|Afe (p:=(a1%a0)) (q:=(a2%a0)) func305<|gA hm O2 fun x1 q3 hm=> ?_;exact AhS hm▸gE
def NY (a0:UInt64)(a1:UInt64):Option UInt64:=Ab (HA 1152921504606845789 a0 a1) fun x1=>some x1
theorem SW {a0 a1 r}(hm:NY a0 a1=some r):Sf prog 186 [.d (.u a0),.d (.u a1)] (.d (.u r)):=by
 refine sq ?_;intros;refine gA hm Ol fun x1 q1 hm=> ?_;exact AhS hm▸gE
def NX (a0:UInt64)(a1:UInt64):Option UInt64:=Ab (CE 1152921504606845789 a0 a1) fun x1=>some x1
theorem SV {a0 a1 r}(hm:NX a0 a1=some r):Sf prog 187 [.d (.u a0),.d (.u a1)] (.d (.u r)):=by
 refine sq ?_;intros;refine gA hm FE fun x1 q1 hm=> ?_;exact AhS hm▸gE
def IT (a0:UInt64)(a1:List UInt8):Option (g_api_Sig×Int):=Ab (Ip a0) fun x1=>if(x1.2 !=0)=true then some ((⟨0,0⟩:g_api_Sig),x1.2)else Ab (Fh a0) fun x2=>Ab (MX (⟨#[110,111,110,99,101]⟩:ByteArray) ([x2,a1]:List (List UInt8))) fun x3=>Ab (Eo x3) fun x4=>Ab (Dx x4 x1.1 a1) fun x5=>Ab (NX x5 a0) fun x6=>Ab (NY x6 x3) fun x7=>some ((⟨x5,x7⟩:g_api_Sig),0)
theorem Ko {a0 a1 r}(hm:IT a0 a1=some r):Sf prog 101 [.d (.u a0),sl eB a1] (.tup [ag (Kj r.1),.d (.i r.2)]):=by
 refine sq ?_;intros;refine gA hm Kq fun x1 q1 hm=>gi hm ?_ ?_<;>intro hc1 hm
 ·exact AhS hm▸gE
 refine gD hm Ld fun x2 q2 hm=>YM (k:=1) (eL eB) ([x2,a1]:List (List UInt8)) (fun _=>rfl)<|gA hm P2 fun x3 q3 hm=>gA hm Ku fun x4 q4 hm=>gA hm KT fun x5 q5 hm=>gA hm SV fun x6 q6 hm=>gA hm SW fun x7 q7 hm=> ?_;exact AhS hm▸gE
def JP (a0:g_api_Cert)(a1:UInt8):Option (g_api_Cert×Bool):=Ab (I6 a0) fun x1=>Ab (Io ([a1]:List UInt8)) fun x2=>Ab (IT x2 x1.1) fun x3=>some ((⟨a0.Serial,a0.Issuer,a0.Subject,a0.Key,a0.Names,a0.From,a0.Until,a0.Ca,a0.Depth,a0.Permit,a0.Proms,x3.1⟩:g_api_Cert),((x1.2==0)&&(x3.2==0)))
theorem Mp {a0 a1 r}(hm:JP a0 a1=some r):Sf prog 90 [ag (Ac a0),.d (.b a1)] (.tup [ag (Ac r.1),.d (.t r.2)]):=by
 refine sq ?_;intros;refine gD hm Qi fun x1 q1 hm=>gq eB 1 [a1]<|gA hm Kp fun x2 q2 hm=>gD hm Ko fun x3 q3 hm=> ?_;exact AhS hm▸gE
def KG (a0:List UInt8):Option Bool:=bnd (((decide ((a0.length:Int)>0))&&(decide ((a0.length:Int)≤2048)))) fun x1=>some x1
theorem Nu {a0 r}(hm:KG a0=some r):Sf prog 165 [sl eB a0] (.d (.t r)):=by
 refine sq ?_;intros;refine bE hm ?_;intro x1 hm;obtain rfl:=AhS hm;exact gE
def Bt (a1:Int):Option (List g_api_Leaf):=Ab (if(decide (a1<0))=true then none else some ()) fun x1=>Ab (bnd ((w64 (a1-(w64 (0-((0:Nat):Int)))))) fun x3=>if(decide (x3>0))=true then if 0≤x3∧x3*32≤140737488355328∧x3≤140737488355328 then some ([]:List g_api_Leaf)else none else some ([]:List g_api_Leaf)) fun x2=>some x2
theorem Gu {m As w a1 r}(S:St m (As) w)(hm:Bt a1=some r):
  CH Tryz.prog 309 #[.slice none 0 0,vI a1] w fun v w'=> ∃(M:Mem),m≤M∧∃(rv0:Value) (rc0:List Value),St M ((row 2 rv0 rc0 r.length)::As) w'∧v=rv0∧Ck M rc0 r:=by
 unfold Bt at hm;have L0:=Mem.rfl' m;refine Ob (args:=[.slice none 0 0,vI a1]) Tryz.func309 rfl Tryz.ntmps309 (Ah7 rfl)<|AN<|Aw<|F4 (v:= .slice none 0 0) rfl<|AG<|nrm ?_;obtain⟨x1,q1,hm⟩:=Af hm;have L1:=Mem.rfl' m;refine AN<|Km [5,6,7] (fun f' w'=> ∃(M1:Mem),m≤M1∧St M1 (As) w'∧PM f' []) ?_ ?_
 ·refine AN<|Aw<|AW (v:=vI a1) rfl<|ZP (m:=a1) (n:=0) rfl rfl<|AG<|nrm<|IF (t:=(decide (a1<0))) rfl (fun hc1=> ?_) (fun hc1=> ?_)
  ·replace q1:=ifT hc1 q1;cases q1
  replace q1:=ifF hc1 q1;refine FD<|nrm ?_;obtain rfl:=AhS q1;exact⟨R1,m,L1,S,trivial⟩
 rintro f1 w1 ho ⟨m1,l1,S1,ha⟩;obtain⟨u1,rfl⟩:=KR (N:=27) ho ha;replace L0:=Mem.tr L0 l1;clear S;obtain⟨x2,q2,hm⟩:=Af hm;have L2:=Mem.rfl' m1;refine AN<|Km [0,1,8,9,10,11,12,13,14,15,16,17,18,19,20,21,22,23,24,25] (fun f' w'=> ∃(M2:Mem) (v1:Value) (c1:List Value),m1≤M2∧St M2 ((row 2 v1 c1 x2.length)::As) w'∧Ck M2 c1 x2∧PM f' [(0,v1)]) ?_ ?_
 ·refine AN<|Aw<|AW (v:=vI a1) rfl<|AW (v:= .slice none 0 0) rfl<|Me rfl Tryz.underlying79<|AW (v:= .slice none 0 0) rfl<|Qs (n:=0) rfl Tryz.underlying79<|NJ (m:=0) (n:=((0:Nat):Int)) rfl rfl<|NJ (m:=a1) (n:=(w64 (0-((0:Nat):Int)))) rfl rfl ?_;obtain⟨x3,q3,q2⟩:=AbY q2;refine F4 (v:=vI x3) (Aip (fun z=>vI z) q3.symm)<|AG<|nrm<|AN<|Aw<|AW (v:=vI x3) rfl<|Yu (m:=x3) (n:=0) rfl rfl<|AG<|nrm ?_;refine IF (t:=(decide (x3>0))) rfl (fun hc2=> ?_) (fun hc2=> ?_)
  ·replace q2:=ifT hc2 q2;refine Aw<|AW (v:= .slice none 0 0) rfl<|AW (v:= .slice none 0 0) rfl<|Me rfl Tryz.underlying79<|ZT rfl Tryz.underlying79 Tryz.sizeOf222 rfl<|AW (v:=vI x3) rfl ?_;obtain⟨q4,q2⟩:=Bw q2;refine ZW (bytes:=32) (sz:=2) (k:=x3) (ti:=Tryz.t222) S1 rfl rfl q4 Tryz.underlying79 Tryz.underlying3 Tryz.type222 rfl rfl rfl rfl ?_;intro v2 c2 w2 S2;replace S2:St _ ((row 2 v2 c2 x3.toNat)::As) _:=S2;clear S1;refine AW (v:= .slice none 0 0) rfl<|Qs (n:=0) rfl Tryz.underlying79<|Xe (i:=0) S2 rfl rfl Tryz.underlying79 Tryz.sizeOf222 rfl (j:=0) rfl (Int.le_refl 0) (AiI _) ?_;intro v3 S3;rw[show c2.take ((0:Int).toNat*2)=[]from by simp]at S3;have h2:Ck m1 [] ([]:List g_api_Leaf):=Ck.nil;replace S3:St _ ((row 2 v3 [] ([]:List g_api_Leaf).length)::As) _:=S3;clear S2;refine F4 (v:=v3) rfl<|AG<|nrm ?_;obtain rfl:=AhS q2;exact⟨R1,m1,_,_,L2,S3,h2,⟨rfl,trivial⟩⟩
  replace q2:=ifF hc2 q2;refine FD<|nrm ?_;have S4:=St.rowNil S1 2;have h3:Ck m1 [] ([]:List g_api_Leaf):=Ck.nil;replace S4:St _ ((row 2 (.slice none 0 0) [] ([]:List g_api_Leaf).length)::As) _:=S4;clear S1;obtain rfl:=AhS q2;exact⟨R1,m1,_,_,L2,S4,h3,⟨rfl,trivial⟩⟩
 rintro f2 w3 ho ⟨m2,v1,c1,l2,S5,h1,ha⟩;obtain⟨u2,rfl⟩:=KR (N:=27) ho ha;replace L0:=Mem.tr L0 l2;clear S1;refine AN<|Aw<|AW (v:=v1) rfl<|F4 (v:=v1) rfl<|AG<|nrm<|IE<|QC ?_;intro we hpd;replace S5:=St.pd S5 hpd;obtain rfl:=AhS hm;exact Za [_] rfl ⟨rfl,trivial⟩ ⟨_,L0,_,_,S5,rfl,h1⟩
theorem Gz {a1 r}(hm:Bt a1=some r):Sp prog 309 [.d (.v (.slice none 0 0)),.d (.i a1)] [] 0 (is (.ow 0) [.row 0 2 _ Ak r] 1):=
 gnl call309 Y4 (fun S=>Gu S hm)
def Gb (i1:Int)(x3:List g_api_Leaf)(s1:Int):Option (Int):=Ab (bnd ((w64 (s1+(x3.length:Int)))) fun x5=>if(decide (x5<0))=true then none else some x5) fun x4=>some x4
def Ga (i2:Int)(x9:List g_api_Leaf)(s2:(List g_api_Leaf)):Option ((List g_api_Leaf)):=Ab (app 32 s2 x9) fun x10=>some x10
def Co (a0:List (List g_api_Leaf)):Option (List g_api_Leaf):=Ab (Ab (D5 Gb a0 0 0) fun x2=>some x2) fun x1=>Ab (Bt x1) fun x6=>Ab (Ab (D5 Ga a0 0 x6) fun x8=>some x8) fun x7=>some x7
theorem GV {a0 r}(hm:Co a0=some r):Sp prog 251 [sl (eL Ak) a0] [] 0 (is (.ow 0) [.row 0 2 _ Ak r] 1):=by
 refine sq ?_;intros;unfold Co at hm;obtain⟨x1,q1,hm⟩:=Af hm;refine oB q1 fun x2 q2 q1=>H6 0 (E:=(eL Ak)) (xs:=a0) 9 fun hle1=>gF (E0 _ _ _) q2 (fun p0 p=>⟨[(0,sl (eL Ak) a0),(3,.d (.i p)),(9,sl (eL Ak) a0),(10,.d (.i (a0.length:Int))),(11,.d (.i p0))],[],[],0⟩) fun i1 s1 Jl bl1=>c0 bl1 (fun x3 y1 q6 q5 bl1=> ?_) fun e=> ?_
 ·refine oB q5 fun x4 q7 q5=>gx (eL Ak) 1 q6<|bE q7 ?_;intro x5 q7;refine gi q7 ?_ ?_<;>intro hc1 q7
  ·cases q7
  obtain rfl:=AhS q7;let x4:=x5;exact gM bl1 hle1 q5
 subst e;obtain rfl:=AhS q1;let x1:=x2;refine gD hm Gz fun x6 q9 hm=> ?_;obtain⟨x7,q10,hm⟩:=Af hm;refine oB q10 fun x8 q11 q10=>H6 2 (E:=(eL Ak)) (xs:=a0) 25 fun hle2=>gF (E0 _ _ _) q11 (fun p0 p=>⟨[(6,.ow 0),(25,sl (eL Ak) a0),(26,.d (.i (a0.length:Int))),(27,.d (.i p0))],[(0,.row 0 2 _ Ak p)],[],1⟩) fun i2 s2 Jl bl2=>c0 bl2 (fun x9 y2 q15 q14 bl2=> ?_) fun e=> ?_
 ·exact gx (eL Ak) 1 q15<|oB q14 fun x10 q16 q14=>gp Ak 2 q16<|gM bl2 hle2 q14
 subst e;obtain rfl:=AhS q10;let x7:=x8;obtain rfl:=AhS hm;exact gE
def Mg (a0:g_api_Log):Option (List g_api_Leaf):=Ab (Co ([a0.L,a0.Wait]:List (List g_api_Leaf))) fun x1=>some x1
theorem Oi {a0 r}(hm:Mg a0=some r):Sp prog 166 [ag (Au a0)] [] 0 (is (.ow 0) [.row 0 2 _ Ak r] 1):=by
 refine sq ?_;intros;refine gq (eL Ak) 1 [a0.L,a0.Wait]<|gD hm GV fun x1 q1 hm=> ?_;exact AhS hm▸gE
def QI (i1:Int)(x4:g_api_Leaf)(s1:(List (ByteArray×Bool))):Option (((List (ByteArray×Bool)))⊕Int):=Ab (KG x4.Body) fun x5=>Ab (gu (!(!x5)) (C3 x4.At)) fun x6=>if(((!x5)||(!x6))||(lkB s1 (bs x4.Body)))=true then some (.inr 1)else if(lkI s1 (bs x4.Body) 0).isNone=true then some (.inl (s1++[((bs x4.Body),true)]))else none
def QH (a0:g_api_Log)(i2:Int)(x8:Int)(s2:Int):Option ((Int)⊕Int):=if((decide (x8≤s2))||(decide (x8≥(a0.L.length:Int))))=true then some (.inr 1)else some (.inl x8)
def GK (a0:g_api_Log):Option Int:=
 Ab (C3 a0.Id) fun x1=>
 if(((((!x1)||((a0.Key.toNat:Int)==0))||(decide ((a0.Key.toNat:Int)≥1152921504606845789)))||(decide (a0.Delay<0)))||(decide (a0.Delay>1000)))=true then
  some 1
 else
 Ab (Mg a0) fun x2=>
 Ab (Et QI x2 0 ([]:List (ByteArray×Bool))) fun x3=>match x3 with
 | .inr r=>some r
 | .inl y1=>
 Ab (Et (QH a0) a0.Hide 0 (-1)) fun x7=>match x7 with
 | .inr r=>some r
 | .inl y3=>
 if(decide ((y1.length:Int)>256))=true then
  some 2
 else
 some 0
theorem HW {a0 r}(hm:GK a0=some r):Sf prog 111 [ag (Au a0)] (.d (.i r)):=by
 refine sq ?_;intros;refine gA hm Ee fun x1 q1 hm=>gi hm ?_ ?_<;>intro hc1 hm
 ·obtain rfl:=AhS hm;exact gE
 refine gmkm<|gD hm Oi fun x2 q2 hm=>oB hm fun x3 q3 hm=>H6 0 (E:=Ak) (xs:=x2) 35 fun hle1=>gF (ER _ _ _) q3 (fun p0 p=>⟨[(1,.pb 0 0),(3,.ow 1),(35,sl Ak x2),(36,.d (.i (x2.length:Int))),(37,.d (.i p0)),(33,.ow 1)],[(0,.hp 1 (.mp p)),(1,.box 0 [.d (.i a0.Id),.d (.u a0.Key),.d (.i a0.Delay),sl Ak a0.L,sl eI a0.Hide,sl Ak a0.Wait] 82)],[],2⟩) fun i1 s1 Jl bl1=>cR bl1 (fun x4 y2 q7 q6 bl1=> ?_) fun e=> ?_
 ·refine gx Ak 2 q7<|gA q6 Nu fun x5 q8 q6=>oB q6 fun x6 q9 q6=>gcH q9 Ee<|gbs (xs:=x4.Body)<|glk s1 (bs x4.Body)<|gi q6 ?_ ?_<;>intro hc2 q6
  ·obtain rfl:=nT bl1 q6;obtain rfl:=AhS hm;exact gE
  refine gbs (xs:=x4.Body) ?_;obtain⟨q10,q6⟩:=Bw q6;exact gup q10<|gT bl1 hle1 q6
 subst e;let y1:=s1;refine oB hm fun x7 q11 hm=>H6 2 (E:=eI) (xs:=a0.Hide) 64 fun hle2=>gF (ER _ _ _) q11 (fun p0 p=>⟨[(1,.pb 0 0),(3,.ow 1),(6,.d (.i p)),(64,sl eI a0.Hide),(65,.d (.i (a0.Hide.length:Int))),(66,.d (.i p0)),(33,.ow 1)],[(0,.hp 1 (.mp y1)),(1,.box 0 [.d (.i a0.Id),.d (.u a0.Key),.d (.i a0.Delay),sl Ak a0.L,sl eI a0.Hide,sl Ak a0.Wait] 82)],[],2⟩) fun i2 s2 Jl bl2=>cR bl2 (fun x8 y4 q15 q14 bl2=> ?_) fun e=> ?_
 ·refine gx eI 1 q15<|gi q14 ?_ ?_<;>intro hc4 q14
  ·obtain rfl:=nT bl2 q14;obtain rfl:=AhS hm;exact gE
  exact gT bl2 hle2 q14
 subst e;let y3:=s2;refine gln y1<|gi hm ?_ ?_<;>intro hc6 hm
 ·obtain rfl:=AhS hm;exact gE
 obtain rfl:=AhS hm;exact gE
def OJ (a0:Int)(a1:List UInt8)(a2:Int):Option (g_api_Log×Int):=Ab (Io a1) fun x1=>Ab (GK (⟨a0,x1,a2,[],[],[]⟩:g_api_Log)) fun x2=>if(x2 !=0)=true then some ((⟨0,0,0,[],[],[]⟩:g_api_Log),1)else some ((⟨a0,x1,a2,[],[],[]⟩:g_api_Log),0)
theorem RT {a0 a1 a2 r}(hm:OJ a0 a1 a2=some r):Sf prog 91 [.d (.i a0),sl eB a1,.d (.i a2)] (.tup [ag (Au r.1),.d (.i r.2)]):=by
 refine sq ?_;intros;refine gA hm Kp fun x1 q1 hm=>gA hm HW fun x2 q2 hm=>gi hm ?_ ?_<;>intro hc1 hm
 ·exact AhS hm▸gE
 exact AhS hm▸gE
def NZ (a0:List UInt8)(a1:List UInt8):Option Bool:=some (eqS (bs a0) (bs a1))
theorem Tb {a0 a1 r}(hm:NZ a0 a1=some r):Sf prog 110 [sl eB a0,sl eB a1] (.d (.t r)):=by
 refine sq ?_;intros;refine gbs (xs:=a0)<|gbs (xs:=a1) ?_;exact AhS hm▸gE
def Pb (a0:g_api_Leaf)(k0:List UInt8):Option (Bool×(List UInt8)):=Ab (NZ a0.Body k0) fun x1=>some (x1,k0)
theorem Uu {a0 k0 r}(hm:Pb a0 k0=some r):Sp prog 168 [ag (Ak a0),.pb 0 0] [.box 0 [sl eB k0] 96] 1 (is (.d (.t r.1)) [.box 0 [.d (.sl _ eB r.2)] 96] 1):=by
 refine sq ?_;intros;refine gA hm Tb fun x1 q1 hm=> ?_;exact AhS hm▸gE
def Cx (a0:List g_api_Leaf):Option (List g_api_Leaf):=Ab (app 32 ([]:List g_api_Leaf) a0) fun x1=>some x1
theorem Hj {a0 r}(hm:Cx a0=some r):Sp prog 169 [sl Ak a0] [] 0 (is (.ow 0) [.row 0 2 _ Ak r] 1):=by
 refine sq ?_;intros;unfold Cx at hm;refine gnq Ak a0 (fun he1=> ?_) ?_
 ·rw[he1]at hm;replace hm:(some ([]:List g_api_Leaf))=some _:=hm;refine QV Ak 2 2 ?_;exact AhS hm▸gE
 refine Wv (k:=2) Ak ([]:List g_api_Leaf) (fun _=>rfl)<|oB hm fun x1 q1 hm=>gp Ak 2 q1 ?_;exact AhS hm▸gE
def KM (a0:List UInt8):Option (List UInt8):=Ab (app 1 ([]:List UInt8) a0) fun x1=>some x1
theorem Tc {a0 r}(hm:KM a0=some r):Sp prog 170 [sl eB a0] [] 0 (is (.ow 0) [.row 0 1 _ eB r] 1):=by
 refine sq ?_;intros;unfold KM at hm;refine gnq eB a0 (fun he1=> ?_) ?_
 ·rw[he1]at hm;replace hm:(some ([]:List UInt8))=some _:=hm;refine QV eB 2 1 ?_;exact AhS hm▸gE
 refine Wv (k:=1) eB ([]:List UInt8) (fun _=>rfl)<|oB hm fun x1 q1 hm=>gp eB 1 q1 ?_;exact AhS hm▸gE
def D7 (a0:List g_api_Leaf)(i1:Int)(s1:(List UInt8)):Option (((List UInt8))⊕(Int×(List UInt8))):=Ab (idx a0 (i1:Int)) fun x3=>Ab (Pb x3 s1) fun x4=>if x4.1=true then some (.inr ((i1:Int),x4.2))else some (.inl x4.2)
def CA (a0:List g_api_Leaf)(k0:List UInt8):Option (Int×(List UInt8)):=Ab (BU (D7 a0) a0.length 0 k0) fun x1=>match x1 with| .inr r=>some r| .inl y1=>some ((-1),y1)
theorem EK {a0 k0 r}(hm:CA a0 k0=some r):Sp prog 167 [sl Ak a0,.fn (.func 168) [] [.pb 0 0]] [.box 0 [sl eB k0] 96] 1 (is (.d (.i r.1)) [.box 0 [.d (.sl _ eB r.2)] 96] 1):=by
 refine sq ?_;intros;refine oB hm fun x1 q1 hm=>H6 0 (E:=Ak) (xs:=a0) 6 fun hle1=>gF (EN _ _ _) q1 (fun p0 p=>⟨[(0,sl Ak a0),(1,.fn (.func 168) [] [.pb 0 0]),(7,.d (.i (a0.length:Int))),(8,.d (.i p0))],[(0,.box 0 [sl eB p] 96)],[],1⟩) fun i1 s1 Jl bl1=>cN bl1 (a0.length:Int) (fun y2 q4 bl1=> ?_) fun e=> ?_
 ·refine oB q4 fun x3 q6 q4=>gx Ak 2 q6<|gD q4 Uu fun x4 q7 q4=>gi q4 ?_ ?_<;>intro hc1 q4
  ·obtain rfl:=nT bl1 q4;obtain rfl:=AhS hm;exact gE
  exact gT bl1 hle1 q4
 subst e;let y1:=s1;obtain rfl:=AhS hm;exact gE
def OK (a0:g_api_Log)(a1:List UInt8)(a2:Int):Option (g_api_Log×g_api_Promise×Int):=Ab (GK a0) fun x1=>if(x1 !=0)=true then some ((⟨0,0,0,[],[],[]⟩:g_api_Log),(⟨0,0,(0,0),(⟨0,0⟩:g_api_Sig)⟩:g_api_Promise),x1)else Ab (KG a1) fun x2=>Ab (gu (!(!x2)) (C3 a2)) fun x3=>if((!x2)||(!x3))=true then some ((⟨0,0,0,[],[],[]⟩:g_api_Log),(⟨0,0,(0,0),(⟨0,0⟩:g_api_Sig)⟩:g_api_Promise),1)else Ab (Mg a0) fun x4=>Ab (CA x4 a1) fun x5=>if(decide (x5.1≥0))=true then Ab (idx x4 x5.1) fun x6=>Ab (DF x5.2) fun x7=>Ab (Dy (⟨a0.Id,x6.At,x7,(⟨0,0⟩:g_api_Sig)⟩:g_api_Promise)) fun x8=>Ab (IT a0.Key x8) fun x9=>some (a0,(⟨a0.Id,x6.At,x7,x9.1⟩:g_api_Promise),x9.2)else if((x4.length:Int)==256)=true then some ((⟨0,0,0,[],[],[]⟩:g_api_Log),(⟨0,0,(0,0),(⟨0,0⟩:g_api_Sig)⟩:g_api_Promise),2)else Ab (Cx a0.Wait) fun x10=>Ab (KM x5.2) fun x11=>Ab (app 32 x10 ([(⟨x11,a2⟩:g_api_Leaf)]:List g_api_Leaf)) fun x12=>Ab (DF x5.2) fun x13=>Ab (Dy (⟨a0.Id,a2,x13,(⟨0,0⟩:g_api_Sig)⟩:g_api_Promise)) fun x14=>Ab (IT a0.Key x14) fun x15=>some ((⟨a0.Id,a0.Key,a0.Delay,a0.L,a0.Hide,x12⟩:g_api_Log),(⟨a0.Id,a2,x13,x15.1⟩:g_api_Promise),x15.2)
theorem RU {a0 a1 a2 r}(hm:OK a0 a1 a2=some r):Sf prog 92 [ag (Au a0),sl eB a1,.d (.i a2)] (.tup [ag (Au r.1),ag (Ad r.2.1),.d (.i r.2.2)]):=by
 refine sq ?_;intros;refine gA hm HW fun x1 q1 hm=>gi hm ?_ ?_<;>intro hc1 hm
 ·exact AhS hm▸gE
 refine gA hm Nu fun x2 q2 hm=>oB hm fun x3 q3 hm=>gcH q3 Ee<|gi hm ?_ ?_<;>intro hc2 hm
 ·exact AhS hm▸gE
 refine gD hm Oi fun x4 q4 hm=>gD hm EK fun x5 q5 hm=>gi hm ?_ ?_<;>intro hc3 hm
 ·refine oB hm fun x6 q6 hm=>gx Ak 2 q6<|gA hm Il fun x7 q7 hm=>gD hm H8 fun x8 q8 hm=>gD hm Ko fun x9 q9 hm=> ?_;exact AhS hm▸gE
 refine gi hm ?_ ?_<;>intro hc4 hm
 ·exact AhS hm▸gE
 refine gD hm Hj fun x10 q10 hm=>gD hm Tc fun x11 q11 hm=>YM (k:=2) Ak ([(⟨x11,a2⟩:g_api_Leaf)]:List g_api_Leaf) (fun _=>rfl)<|oB hm fun x12 q12 hm=>gp Ak 2 q12<|gA hm Il fun x13 q13 hm=>gD hm H8 fun x14 q14 hm=>gD hm Ko fun x15 q15 hm=> ?_;exact AhS hm▸gE
def NS (a0:g_api_Log):Option (g_api_Key×Int):=Ab (GK a0) fun x1=>if(x1 !=0)=true then some ((⟨0,0,0⟩:g_api_Key),x1)else Ab (Ip a0.Key) fun x2=>some ((⟨a0.Id,x2.1,a0.Delay⟩:g_api_Key),x2.2)
theorem SM {a0 r}(hm:NS a0=some r):Sf prog 171 [ag (Au a0)] (.tup [ag (Aj r.1),.d (.i r.2)]):=by
 refine sq ?_;intros;refine gA hm HW fun x1 q1 hm=>gi hm ?_ ?_<;>intro hc1 hm
 ·exact AhS hm▸gE
 refine gA hm Kq fun x2 q2 hm=> ?_;exact AhS hm▸gE
def QJ (i1:Int)(x2:g_api_Log)(s1:(List g_api_Key)):Option (((List g_api_Key))⊕((List g_api_Key)×Int)):=Ab (NS x2) fun x3=>if(x3.2 !=0)=true then some (.inr (([]:List g_api_Key),x3.2))else Ab (app 24 s1 ([x3.1]:List g_api_Key)) fun x4=>some (.inl x4)
def Pc (a0:List g_api_Log):Option ((List g_api_Key)×Int):=Ab (Et QJ a0 0 ([]:List g_api_Key)) fun x1=>match x1 with| .inr r=>some r| .inl y1=>some (y1,0)
theorem Uw {a0 r}(hm:Pc a0=some r):Sp prog 93 [sl Au a0] [] 0 (is (.tup [.ow 0,.d (.i r.2)]) [.row 0 3 _ Aj r.1] 1):=by
 refine sq ?_;intros;refine oB hm fun x1 q1 hm=>Vk 0 Aj 2 3<|H6 0 (E:=Au) (xs:=a0) 8 fun hle1=>gF (ER _ _ _) q1 (fun p0 p=>⟨[(2,.ow 0),(8,sl Au a0),(9,.d (.i (a0.length:Int))),(10,.d (.i p0))],[(0,.row 0 3 _ Aj p)],[],1⟩) fun i1 s1 Jl bl1=>cR bl1 (fun x2 y2 q5 q4 bl1=> ?_) fun e=> ?_
 ·refine gx Au 6 q5<|gA q4 SM fun x3 q6 q4=>gi q4 ?_ ?_<;>intro hc1 q4
  ·refine QV Aj 2 3 ?_;obtain rfl:=nT bl1 q4;obtain rfl:=AhS hm;exact gE
  exact gq Aj 3 [x3.1]<|oB q4 fun x4 q7 q4=>gp Aj 3 q7<|gT bl1 hle1 q4
 subst e;let y1:=s1;obtain rfl:=AhS hm;exact gE
def JR (a0:Int):Option Bool:=bnd (((decide ((0:Int)≤a0))&&(decide (a0≤1099511627776)))) fun x1=>some x1
theorem Mq {a0 r}(hm:JR a0=some r):Sf prog 172 [.d (.i a0)] (.d (.t r)):=by
 refine sq ?_;intros;refine bE hm ?_;intro x1 hm;obtain rfl:=AhS hm;exact gE
def C0 (a0:List ByteArray):Option (List ByteArray):=Ab (app 16 ([]:List ByteArray) a0) fun x1=>some x1
theorem Ij {a0 r}(hm:C0 a0=some r):Sp prog 173 [sl eS a0] [] 0 (is (.ow 0) [.row 0 1 _ eS r] 1):=by
 refine sq ?_;intros;unfold C0 at hm;refine gnq eS a0 (fun he1=> ?_) ?_
 ·rw[he1]at hm;replace hm:(some ([]:List ByteArray))=some _:=hm;refine QV eS 2 1 ?_;exact AhS hm▸gE
 refine Wv (k:=1) eS ([]:List ByteArray) (fun _=>rfl)<|oB hm fun x1 q1 hm=>gp eS 1 q1 ?_;exact AhS hm▸gE
def NV (a0:Kh)(a1:Int)(a2:Int)(a3:ByteArray):Option (g_api_Cert×Int):=Ab (JR a2) fun x1=>Ab (gu (!(!x1)) (JR a0.Life)) fun x2=>if((!x1)||(!x2))=true then some ((⟨0,ByteArray.empty,ByteArray.empty,0,[],0,0,false,0,[],[],(⟨0,0⟩:g_api_Sig)⟩:g_api_Cert),1)else Ab (C0 a0.Names) fun x3=>Ab (Cv (⟨a1,a3,ByteArray.empty,a0.Key,x3,a2,(w64 (a2+a0.Life)),false,0,[],[],(⟨0,0⟩:g_api_Sig)⟩:g_api_Cert)) fun x4=>if(x4 !=0)=true then some ((⟨0,ByteArray.empty,ByteArray.empty,0,[],0,0,false,0,[],[],(⟨0,0⟩:g_api_Sig)⟩:g_api_Cert),x4)else some ((⟨a1,a3,ByteArray.empty,a0.Key,x3,a2,(w64 (a2+a0.Life)),false,0,[],[],(⟨0,0⟩:g_api_Sig)⟩:g_api_Cert),x4)
theorem SO {a0 a1 a2 a3 r}(hm:NV a0 a1 a2 a3=some r):Sf prog 94 [ag (YS a0),.d (.i a1),.d (.i a2),.d (.s a3)] (.tup [ag (Ac r.1),.d (.i r.2)]):=by
 refine sq ?_;intros;refine gA hm Mq fun x1 q1 hm=>oB hm fun x2 q2 hm=>gcH q2 Mq<|gi hm ?_ ?_<;>intro hc1 hm
 ·exact AhS hm▸gE
 refine gD hm Ij fun x3 q3 hm=>gD hm Fe fun x4 q4 hm=>gi hm ?_ ?_<;>intro hc2 hm
 ·exact AhS hm▸gE
 exact AhS hm▸gE
def CM (a0:List g_api_Log):Option (List g_api_Log):=Ab (app 96 ([]:List g_api_Log) a0) fun x1=>some x1
theorem HT {a0 r}(hm:CM a0=some r):Sp prog 174 [sl Au a0] [] 0 (is (.ow 0) [.row 0 6 _ Au r] 1):=by
 refine sq ?_;intros;unfold CM at hm;refine gnq Au a0 (fun he1=> ?_) ?_
 ·rw[he1]at hm;replace hm:(some ([]:List g_api_Log))=some _:=hm;refine QV Au 2 6 ?_;exact AhS hm▸gE
 refine Wv (k:=6) Au ([]:List g_api_Log) (fun _=>rfl)<|oB hm fun x1 q1 hm=>gp Au 6 q1 ?_;exact AhS hm▸gE
end Go.Proofs.YtnhdojckpcbjeaaGreatDoor
