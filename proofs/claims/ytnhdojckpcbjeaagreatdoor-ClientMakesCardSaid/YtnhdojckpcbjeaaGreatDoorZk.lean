/- The walks of some functions, by the executor, written by program. Conditions: none. -/
import Derived.Test.YtnhdojckpcbjeaaGreatDoorZh
import Derived.Test.YtnhdojckpcbjeaaGreatDoorZi
import Derived.Test.YtnhdojckpcbjeaaGreatDoorZj
set_option linter.unusedSimpArgs false
set_option linter.unusedVariables false
set_option maxHeartbeats 20000000
set_option maxRecDepth 100000
namespace Go.Proofs.YtnhdojckpcbjeaaGreatDoor
open Go Go.Gw Go.Ax Tryz
attribute [local irreducible] Go.Ax.Go
def A3 (a0:List g_api_Head):Option (List g_api_Head):=Ab (app 56 ([]:List g_api_Head) a0) λx1=>some x1
theorem Im {a0 r}(hm:A3 a0=some r):Sp prog 120 [sl Ae a0] [] 0 (is (.ow 0) [.row 0 7 _ Ae r] 1):=by
 refine sq ?_;intros;unfold A3 at hm;refine gnq Ae a0 (λhe1=> ?_) ?_
 ·rw[he1]at hm;replace hm:(some ([]:List g_api_Head))=some _:=hm;refine Tr Ae 2 7 ?_;exact AnO hm▸gE
 refine Sa (k:=7) Ae ([]:List g_api_Head) (λ_=>rfl)<|oB hm λ_ q1 hm=>gp Ae 7 q1 ?_;exact AnO hm▸gE
def Aj (a0:List g_api_Head)(a1:g_api_Head)(s1:Int×Int):Option ((Int×Int)⊕(Int)):=if(decide (s1.1<s1.2))=true then bnd ((w64 ((DL (toU (w64 (s1.1+s1.2))) 1).toNat:Int))) λx4=>Ab (idx a0 x4) λx5=>Ab (Fc x5 a1) λx6=>if(decide (x6<0))=true then some (.inl ((w64 (x4+1)),s1.2))else some (.inl (s1.1,x4))else some (.inr s1.1)
def Au (a0:List g_api_Head)(a1:g_api_Head):Option (Int×Bool):=Ab (Ab (iter (Aj a0 a1) AY (0,(a0.length:Int))) λx2=>some x2) λx1=>Ab (gu (decide (x1<(a0.length:Int))) (idx a0 x1)) λx7=>Ab (gu (decide (x1<(a0.length:Int))) (Fc x7 a1)) λx8=>bnd (((decide (x1<(a0.length:Int)))&&(x8==0))) λx9=>some (x1,x9)
theorem C5 {a0 a1 r}(hm:Au a0 a1=some r):Sf prog 117 [sl Ae a0,ag (Ae a1),.fn (.func 118) [] []] (.tup [.d (.i r.1),.d (.t r.2)]):=by
 refine sq ?_;intros;unfold Au at hm;obtain⟨x1,q1,hm⟩:=Ag hm;refine oB q1 λx2 q2 q1=>gI q2 (λ(p_0,p_1)=>⟨[(0,sl Ae a0),(2,.fn (.func 118) [] []),(4,.pb 0 0),(8,.d (.i (a0.length:Int))),(9,.d (.i p_0)),(10,.d (.i p_1))],[(0,.box 0 [.d (.i a1.Log),.d (.i a1.Size),.d (.u a1.Root.1),.d (.u a1.Root.2),.d (.i a1.At),.d (.u a1.Sig.E),.d (.u a1.Sig.S)] 38)],[],1⟩) λs1 _ Jl q5 bl1=>gi q5 ?_ ?_<;>intro _ q5
 ·refine bE q5 ?_;intro _ q5;refine oB q5 λ_ q8 q5=>gx Ae 7 q8<|gA q5 Lz λ_ q9 q5=>gi q5 ?_ ?_<;>intro _ q5
  ·exact gN bl1 q5
  exact gN bl1 q5
 obtain rfl:=nR bl1 q5;let x2:=s1.1;obtain rfl:=AnO q1;refine oB hm λ_ q10 hm=>gxG Ae 7 q10<|oB hm λ_ q11 hm=>gcH q11 Lz<|bE hm ?_;intro _ hm;exact AnO hm▸gE
def Ls (a0:g_api_Pool)(a1:g_api_Head)(a2:List g_api_Key):Option (g_api_Pool×Int):=Ab (GS a0 a2) λx1=>if(x1 !=0)=true then some ((⟨[]⟩:g_api_Pool),x1)else Ab (GP a1 a2) λx2=>if(!x2)=true then some ((⟨[]⟩:g_api_Pool),40)else Ab (Au a0.L a1) λx3=>if x3.2=true then some (a0,0)else bnd ((decide ((a0.L.length:Int)>=1024))) λx4=>if x4=true then some ((⟨[]⟩:g_api_Pool),2)else Ab (A3 a0.L) λx5=>Ab (AO x5 x3.1 ([a1]:List g_api_Head)) λx6=>some ((⟨x6⟩:g_api_Pool),0)
theorem Zf {a0 a1 a2 r}(hm:Ls a0 a1 a2=some r):Sf prog 40 [ag (Fh a0),ag (Ae a1),sl Ai a2] (.tup [ag (Fh r.1),.d (.i r.2)]):=by
 refine sq ?_;intros;refine gA hm Ps λ_ q1 hm=>gi hm ?_ ?_<;>intro _ hm
 ·exact AnO hm▸gE
 refine gA hm Pq λ_ q2 hm=>gi hm ?_ ?_<;>intro _ hm
 ·exact AnO hm▸gE
 refine gA hm C5 λ_ q3 hm=>gi hm ?_ ?_<;>intro _ hm
 ·exact AnO hm▸gE
 refine bE hm ?_;intro _ hm;refine gi hm ?_ ?_<;>intro _ hm
 ·exact AnO hm▸gE
 refine gD hm Im λ_ q5 hm=>gq Ae 7 [a1]<|gD hm HN λ_ q6 hm=> ?_;exact AnO hm▸gE
def Gp (a0:g_api_Client)(a1:g_api_Head):Option (g_api_Client×Int):=Ab (m_client_Check a0) λx1=>if(x1 !=0)=true then some ((⟨ByteArray.empty,[],[],(⟨[]⟩:g_api_Pool),(⟨0,[]⟩:g_api_Cascade),0⟩:g_api_Client),x1)else Ab (Ls a0.Pool a1 a0.Logs) λx2=>if(x2.2 !=0)=true then some ((⟨ByteArray.empty,[],[],(⟨[]⟩:g_api_Pool),(⟨0,[]⟩:g_api_Cascade),0⟩:g_api_Client),x2.2)else some ((⟨a0.Who,a0.Roots,a0.Logs,x2.1,a0.Cascade,a0.View⟩:g_api_Client),x2.2)
theorem QO {a0 a1 r}(hm:Gp a0 a1=some r):Sf prog 15 [ag (A0 a0),ag (Ae a1)] (.tup [ag (A0 r.1),.d (.i r.2)]):=by
 refine sq ?_;intros;refine gA hm E9 λ_ q1 hm=>gi hm ?_ ?_<;>intro _ hm
 ·exact AnO hm▸gE
 refine gA hm Zf λ_ q2 hm=>gi hm ?_ ?_<;>intro _ hm
 ·exact AnO hm▸gE
 exact AnO hm▸gE
def Ff (k0:g_api_Client):Option (Int×g_api_Client):=Ab (m_client_Check k0) λx1=>some (x1,k0)
theorem VI {k0 r}(hm:Ff k0=some r):Sp prog 43 [.pb 0 0] [.box 0 [.d (.s k0.Who),sl Ac k0.Roots,sl Ai k0.Logs,sl Ae k0.Pool.L,.d (.i k0.Cascade.Day),sl Ah k0.Cascade.Levels,.d (.i k0.View)] 31] 1 (is (.d (.i r.1)) [.box 0 [.d (.s r.2.Who),.d (.sl _ Ac r.2.Roots),.d (.sl _ Ai r.2.Logs),.d (.sl _ Ae r.2.Pool.L),.d (.i r.2.Cascade.Day),.d (.sl _ Ah r.2.Cascade.Levels),.d (.i r.2.View)] 31] 1):=by
 refine sq ?_;intros;refine gA hm E9 λ_ q1 hm=> ?_;exact AnO hm▸gE
def Fe (k0:g_api_Cascade):Option (Int×g_api_Cascade):=Ab (B2 k0) λx1=>some (x1,k0)
theorem VH {k0 r}(hm:Fe k0=some r):Sp prog 44 [.pb 0 0] [.box 0 [.d (.i k0.Day),sl Ah k0.Levels] 29] 1 (is (.d (.i r.1)) [.box 0 [.d (.i r.2.Day),.d (.sl _ Ah r.2.Levels)] 29] 1):=by
 refine sq ?_;intros;refine gA hm Kh λ_ q1 hm=> ?_;exact AnO hm▸gE
def AG (i1:Int)(s1:ByteArray×(List g_api_Cert)×(List g_api_Key)×(List g_api_Head)×Int×(List g_api_Sieve)×Int×Int×(List g_api_Sieve)):Option ((ByteArray×(List g_api_Cert)×(List g_api_Key)×(List g_api_Head)×Int×(List g_api_Sieve)×Int×Int×(List g_api_Sieve))⊕(Int×g_api_Client×g_api_Cascade)):=if i1=0 then Ab (Ff (⟨s1.1,s1.2.1,s1.2.2.1,(⟨s1.2.2.2.1⟩:g_api_Pool),(⟨s1.2.2.2.2.1,s1.2.2.2.2.2.1⟩:g_api_Cascade),s1.2.2.2.2.2.2.1⟩:g_api_Client)) λx3=>if(x3.1 !=0)=true then some (.inr (x3.1,x3.2,(⟨s1.2.2.2.2.2.2.2.1,s1.2.2.2.2.2.2.2.2⟩:g_api_Cascade)))else some (.inl (x3.2.Who,x3.2.Roots,x3.2.Logs,x3.2.Pool.L,x3.2.Cascade.Day,x3.2.Cascade.Levels,x3.2.View,s1.2.2.2.2.2.2.2.1,s1.2.2.2.2.2.2.2.2))else Ab (Fe (⟨s1.2.2.2.2.2.2.2.1,s1.2.2.2.2.2.2.2.2⟩:g_api_Cascade)) λx4=>if(x4.1 !=0)=true then some (.inr (x4.1,(⟨s1.1,s1.2.1,s1.2.2.1,(⟨s1.2.2.2.1⟩:g_api_Pool),(⟨s1.2.2.2.2.1,s1.2.2.2.2.2.1⟩:g_api_Cascade),s1.2.2.2.2.2.2.1⟩:g_api_Client),x4.2))else some (.inl (s1.1,s1.2.1,s1.2.2.1,s1.2.2.2.1,s1.2.2.2.2.1,s1.2.2.2.2.2.1,s1.2.2.2.2.2.2.1,x4.2.Day,x4.2.Levels))
def FZ (k0:g_api_Client)(k1:g_api_Cascade):Option (Int×g_api_Client×g_api_Cascade):=Ab (CE AG 2 0 (k0.Who,k0.Roots,k0.Logs,k0.Pool.L,k0.Cascade.Day,k0.Cascade.Levels,k0.View,k1.Day,k1.Levels)) λx1=>match x1 with| .inr r=>some r| .inl y1=>some (0,(⟨y1.1,y1.2.1,y1.2.2.1,(⟨y1.2.2.2.1⟩:g_api_Pool),(⟨y1.2.2.2.2.1,y1.2.2.2.2.2.1⟩:g_api_Cascade),y1.2.2.2.2.2.2.1⟩:g_api_Client),(⟨y1.2.2.2.2.2.2.2.1,y1.2.2.2.2.2.2.2.2⟩:g_api_Cascade))
theorem N5 {k0 k1 r}(hm:FZ k0 k1=some r):Sp prog 42 [.bs 0 0 2 2] [.box 0 [.fn (.func 43) [] [.pb 1 0],.fn (.func 44) [] [.pb 2 0]] 106,.box 1 [.d (.s k0.Who),sl Ac k0.Roots,sl Ai k0.Logs,sl Ae k0.Pool.L,.d (.i k0.Cascade.Day),sl Ah k0.Cascade.Levels,.d (.i k0.View)] 31,.box 2 [.d (.i k1.Day),sl Ah k1.Levels] 29] 3 (is (.d (.i r.1)) [.box 1 [.d (.s r.2.1.Who),.d (.sl _ Ac r.2.1.Roots),.d (.sl _ Ai r.2.1.Logs),.d (.sl _ Ae r.2.1.Pool.L),.d (.i r.2.1.Cascade.Day),.d (.sl _ Ah r.2.1.Cascade.Levels),.d (.i r.2.1.View)] 31,.box 2 [.d (.i r.2.2.Day),.d (.sl _ Ah r.2.2.Levels)] 29] 3):=by
 refine sq ?_;intros;refine oB hm λ_ q1 hm=>gF (EN _ 2 _) q1 (λp0 (p_0,p_1,p_2,p_3,p_4,p_5,p_6,p_7,p_8)=>⟨[(6,.bs 0 0 2 2),(7,.d (.i 2)),(8,.d (.i p0))],[(0,.box 0 [.fn (.func 43) [] [.pb 1 0],.fn (.func 44) [] [.pb 2 0]] 106),(1,.box 1 [.d (.s p_0),sl Ac p_1,sl Ai p_2,sl Ae p_3,.d (.i p_4),sl Ah p_5,.d (.i p_6)] 31),(2,.box 2 [.d (.i p_7),sl Ah p_8] 29)],[],3⟩) λi1 s1 Jl bl1=>cN bl1 (2:Int) (λ_ q4 bl1=> ?_) λe=> ?_
 ·obtain rfl|rfl:i1=0\/i1=1:=by have h:=bl1.1.1; change i1<2 at h; omega
  ·refine gD q4 VI λ_ q6 q4=>gi q4 ?_ ?_<;>intro _ q4
   ·obtain rfl:=nT bl1 q4;exact AnO hm▸gE
   exact gT bl1 lk q4
  refine gD q4 VH λ_ q7 q4=>gi q4 ?_ ?_<;>intro _ q4
  ·obtain rfl:=nT bl1 q4;exact AnO hm▸gE
  exact gT bl1 lk q4
 subst e;let y1:=s1;exact AnO hm▸gE
def D4 (a0:g_api_Client)(a1:g_api_Cascade):Option (g_api_Client×Int):=Ab (FZ a0 a1) λx1=>if(x1.1 !=0)=true then some ((⟨ByteArray.empty,[],[],(⟨[]⟩:g_api_Pool),(⟨0,[]⟩:g_api_Cascade),0⟩:g_api_Client),x1.1)else bnd ((decide (x1.2.2.Day<x1.2.1.Cascade.Day))) λx2=>if x2=true then some ((⟨ByteArray.empty,[],[],(⟨[]⟩:g_api_Pool),(⟨0,[]⟩:g_api_Cascade),0⟩:g_api_Client),190)else some ((⟨x1.2.1.Who,x1.2.1.Roots,x1.2.1.Logs,x1.2.1.Pool,x1.2.2,x1.2.1.View⟩:g_api_Client),x1.1)
theorem Oa {a0 a1 r}(hm:D4 a0 a1=some r):Sf prog 17 [ag (A0 a0),ag (B5 a1)] (.tup [ag (A0 r.1),.d (.i r.2)]):=by
 refine sq ?_;intros;refine gfs<|gD hm N5 λ_ q1 hm=>gi hm ?_ ?_<;>intro _ hm
 ·exact AnO hm▸gE
 refine bE hm ?_;intro _ hm;refine gi hm ?_ ?_<;>intro _ hm
 ·exact AnO hm▸gE
 exact AnO hm▸gE
def Mi (k0:g_api_Client):Option (Int×g_api_Client):=Ab (m_client_Check k0) λx1=>some (x1,k0)
theorem RS {k0 r}(hm:Mi k0=some r):Sp prog 58 [.pb 0 0] [.box 0 [.d (.s k0.Who),sl Ac k0.Roots,sl Ai k0.Logs,sl Ae k0.Pool.L,.d (.i k0.Cascade.Day),sl Ah k0.Cascade.Levels,.d (.i k0.View)] 31] 1 (is (.d (.i r.1)) [.box 0 [.d (.s r.2.Who),.d (.sl _ Ac r.2.Roots),.d (.sl _ Ai r.2.Logs),.d (.sl _ Ae r.2.Pool.L),.d (.i r.2.Cascade.Day),.d (.sl _ Ah r.2.Cascade.Levels),.d (.i r.2.View)] 31] 1):=by
 refine sq ?_;intros;refine gA hm E9 λ_ q1 hm=> ?_;exact AnO hm▸gE
def Yc (i1:Int)(x2:Ho)(s1:Unit):Option ((Unit)⊕Int):=Ab (US x2) λx3=>if(x3 !=0)=true then some (.inr x3)else some (.inl ())
def Wq (a0:List Ho):Option Int:=Ab (F6 Yc a0 0 ()) λx1=>match x1 with| .inr r=>some r| .inl y1=>some 0
theorem Adu {a0 r}(hm:Wq a0=some r):Sf prog 71 [sl Ru a0] (.d (.i r)):=by
 refine sq ?_;intros;refine oB hm λ_ q1 hm=>Jj 0 (E:=Ru) (xs:=a0) 6 λhle1=>gF (ER _ _ _) q1 (λp0 _=>⟨[(6,sl Ru a0),(7,.d (.i (a0.length:Int))),(8,.d (.i p0))],[],[],0⟩) λi1 s1 Jl bl1=>cR bl1 (λ_ _ q5 q4 bl1=> ?_) λe=> ?_
 ·refine gx Ru 1 q5<|oB q4 λ_ q6 q4=>gdyc (λ_=>AeA q6)<|gi q4 ?_ ?_<;>intro _ q4
  ·obtain rfl:=nT bl1 q4;exact AnO hm▸gE
  exact gT bl1 hle1 q4
 subst e;exact AnO hm▸gE
def m_path_Check (a0:List g_api_Cert)(a1:List g_api_Cert)(a2:ByteArray)(a3:Int):Option Int:=Ab (Wq ([(⟨72,(⟨a0,a1,a2,a3⟩:g_path_trip)⟩:Ho),(⟨73,(⟨a0,a1,a2,a3⟩:g_path_trip)⟩:Ho),(⟨74,(⟨a0,a1,a2,a3⟩:g_path_trip)⟩:Ho),(⟨75,(⟨a0,a1,a2,a3⟩:g_path_trip)⟩:Ho),(⟨76,(⟨a0,a1,a2,a3⟩:g_path_trip)⟩:Ho)]:List Ho)) λx1=>some x1
theorem Y6 {a0 a1 a2 a3 r}(hm:m_path_Check a0 a1 a2 a3=some r):Sf prog 24 [sl Ac a0,sl Ac a1,.d (.s a2),.d (.i a3)] (.d (.i r)):=by
 refine sq ?_;intros;refine gq Ru 1 [(⟨72,(⟨a0,a1,a2,a3⟩:g_path_trip)⟩:Ho),(⟨73,(⟨a0,a1,a2,a3⟩:g_path_trip)⟩:Ho),(⟨74,(⟨a0,a1,a2,a3⟩:g_path_trip)⟩:Ho),(⟨75,(⟨a0,a1,a2,a3⟩:g_path_trip)⟩:Ho),(⟨76,(⟨a0,a1,a2,a3⟩:g_path_trip)⟩:Ho)]<|gA hm Adu λ_ q1 hm=> ?_;exact AnO hm▸gE
def Mh (k0:Int)(k1:g_api_Client)(k2:g_api_Offer)(k3:ByteArray):Option (Int×Int×g_api_Client×g_api_Offer×ByteArray):=Ab (B0 k0) λx1=>if(!x1)=true then some (1,k0,k1,k2,k3)else Ab (m_path_Check k1.Roots k2.Path k3 k0) λx2=>some (x2,k0,k1,k2,k3)
theorem RR {k0 k1 k2 k3 r}(hm:Mh k0 k1 k2 k3=some r):Sp prog 59 [.pb 0 0,.pb 1 0,.pb 2 0,.pb 3 0] [.box 0 [.d (.i k0)] 3,.box 1 [.d (.s k1.Who),sl Ac k1.Roots,sl Ai k1.Logs,sl Ae k1.Pool.L,.d (.i k1.Cascade.Day),sl Ah k1.Cascade.Levels,.d (.i k1.View)] 31,.box 2 [sl Ac k2.Path,sl AQ k2.Where] 52,.box 3 [.d (.s k3)] 9] 4 (is (.d (.i r.1)) [.box 0 [.d (.i r.2.1)] 3,.box 1 [.d (.s r.2.2.1.Who),.d (.sl _ Ac r.2.2.1.Roots),.d (.sl _ Ai r.2.2.1.Logs),.d (.sl _ Ae r.2.2.1.Pool.L),.d (.i r.2.2.1.Cascade.Day),.d (.sl _ Ah r.2.2.1.Cascade.Levels),.d (.i r.2.2.1.View)] 31,.box 2 [.d (.sl _ Ac r.2.2.2.1.Path),.d (.sl _ AQ r.2.2.2.1.Where)] 52,.box 3 [.d (.s r.2.2.2.2)] 9] 4):=by
 refine sq ?_;intros;refine gA hm FH λ_ q1 hm=>gi hm ?_ ?_<;>intro _ hm
 ·exact AnO hm▸gE
 refine gA hm Y6 λ_ q2 hm=> ?_;exact AnO hm▸gE
def Ml (a0:g_api_Cert):Option ((List UInt8)×Int):=Ab (Ci a0) λx1=>if(x1 !=0)=true then some (([]:List UInt8),x1)else Ab (Mj a0) λx2=>Ab (KD x2) λx3=>some (x3.1,x3.2)
theorem RU {a0 r}(hm:Ml a0=some r):Sp prog 151 [ag (Ac a0),.fn (.func 152) [] []] [] 0 (is (.tup [.ow 0,.d (.i r.2)]) [.row 0 1 _ eB r.1] 1):=by
 refine sq ?_;intros;refine gA hm FJ λ_ q1 hm=>gi hm ?_ ?_<;>intro _ hm
 ·refine Tr eB 4 1 ?_;exact AnO hm▸gE
 refine gA hm V9 λ_ q2 hm=>gD hm Ub λ_ q3 hm=> ?_;exact AnO hm▸gE
def R9 (a0:g_api_Cert):Option ((List UInt8)×Int):=Ab (Ml a0) λx1=>some (x1.1,x1.2)
theorem Wa {a0 r}(hm:R9 a0=some r):Sp prog 77 [ag (Ac a0)] [] 0 (is (.tup [.ow 0,.d (.i r.2)]) [.row 0 1 _ eB r.1] 1):=by
 refine sq ?_;intros;refine gD hm RU λ_ q1 hm=> ?_;exact AnO hm▸gE
def H7 (a0:List UInt8):Option (UInt64×UInt64):=Ab (C2 (⟨#[108,101,97,102]⟩:ByteArray) ([a0]:List (List UInt8))) λx1=>some x1
theorem JE {a0 r}(hm:H7 a0=some r):Sf prog 78 [sl eB a0] (ag (Ao r)):=by
 refine sq ?_;intros;refine gq (eL eB) 1 [a0]<|gA hm EK λ_ q1 hm=> ?_;exact AnO hm▸gE
def m_cert_Leaf (a0:g_api_Cert):Option ((UInt64×UInt64)×Int):=Ab (R9 a0) λx1=>if(x1.2 !=0)=true then some ((0,0),x1.2)else Ab (H7 x1.1) λx2=>some (x2,0)
theorem Aa1 {a0 r}(hm:m_cert_Leaf a0=some r):Sf prog 25 [ag (Ac a0)] (.tup [ag (Ao r.1),.d (.i r.2)]):=by
 refine sq ?_;intros;refine gD hm Wa λ_ q1 hm=>gi hm ?_ ?_<;>intro _ hm
 ·exact AnO hm▸gE
 refine gD hm JE λ_ q2 hm=> ?_;exact AnO hm▸gE
def Mg (k0:g_api_Offer)(k1:UInt64×UInt64):Option (Int×g_api_Offer×(UInt64×UInt64)):=Ab (idx k0.Path 0) λx1=>Ab (m_cert_Leaf x1) λx2=>some (x2.2,k0,x2.1)
theorem RQ {k0 k1 r}(hm:Mg k0 k1=some r):Sp prog 61 [.pb 0 0,.pb 1 0] [.box 0 [sl Ac k0.Path,sl AQ k0.Where] 52,.box 1 [.d (.u k1.1),.d (.u k1.2)] 34] 2 (is (.d (.i r.1)) [.box 0 [.d (.sl _ Ac r.2.1.Path),.d (.sl _ AQ r.2.1.Where)] 52,.box 1 [.d (.u r.2.2.1),.d (.u r.2.2.2)] 34] 2):=by
 refine sq ?_;intros;refine oB hm λ_ q1 hm=>gx Ac 13 q1<|gA hm Aa1 λ_ q2 hm=> ?_;exact AnO hm▸gE
def Ha (a0:g_api_Promise):Option (List UInt8):=Ab (DV a0.Log) λx1=>Ab (DV a0.At) λx2=>Ab (ED a0.Leaf) λx3=>Ab (L9 (⟨#[112,114,111,109,105,115,101]⟩:ByteArray) ([x1,x2,x3]:List (List UInt8))) λx4=>some x4
theorem Jo {a0 r}(hm:Ha a0=some r):Sp prog 155 [ag (Ad a0)] [] 0 (is (.ow 0) [.row 0 1 _ eB r] 1):=by
 refine sq ?_;intros;refine gD hm I0 λx1 q1 hm=>gD hm I0 λx2 q2 hm=>gD hm K0 λx3 q3 hm=>Yo (k:=1) (eL eB) ([x1,x2,x3]:List (List UInt8)) (λ_=>rfl)<|gD hm V5 λ_ q4 hm=> ?_;exact AnO hm▸gE
def Kx (a0:g_api_Key)(a1:g_api_Promise):Option Int:=Ab (Dq a1.At) λx1=>Ab (Ha a1) λx2=>Ab (Gh a0 a1.Log x1 x2 a1.Sig) λx3=>some x3
theorem PL {a0 a1 r}(hm:Kx a0 a1=some r):Sf prog 79 [ag (Ai a0),ag (Ad a1)] (.d (.i r)):=by
 refine sq ?_;intros;refine gA hm EJ λ_ q1 hm=>gD hm Jo λ_ q2 hm=>gD hm QJ λ_ q3 hm=> ?_;exact AnO hm▸gE
def GW (a0:g_api_Key)(k0:g_api_Promise):Option (Bool×g_api_Promise):=some ((a0.Log==k0.Log),k0)
theorem LA {a0 k0 r}(hm:GW a0 k0=some r):Sp prog 140 [ag (Ai a0),.pb 0 0] [.box 0 [.d (.i k0.Log),.d (.i k0.At),.d (.u k0.Leaf.1),.d (.u k0.Leaf.2),.d (.u k0.Sig.E),.d (.u k0.Sig.S)] 63] 1 (is (.d (.t r.1)) [.box 0 [.d (.i r.2.Log),.d (.i r.2.At),.d (.u r.2.Leaf.1),.d (.u r.2.Leaf.2),.d (.u r.2.Sig.E),.d (.u r.2.Sig.S)] 63] 1):=by
 refine sq ?_;intros;exact AnO hm▸gE
def E6 (a0:List g_api_Key)(i1:Int)(s1:Int×Int×UInt64×UInt64×UInt64×UInt64):Option ((Int×Int×UInt64×UInt64×UInt64×UInt64)⊕(Int×g_api_Promise)):=Ab (idx a0 (i1:Int)) λx3=>Ab (GW x3 (⟨s1.1,s1.2.1,(s1.2.2.1,s1.2.2.2.1),(⟨s1.2.2.2.2.1,s1.2.2.2.2.2⟩:g_api_Sig)⟩:g_api_Promise)) λx4=>if x4.1=true then some (.inr ((i1:Int),x4.2))else some (.inl (x4.2.Log,x4.2.At,x4.2.Leaf.1,x4.2.Leaf.2,x4.2.Sig.E,x4.2.Sig.S))
def C6 (a0:List g_api_Key)(k0:g_api_Promise):Option (Int×g_api_Promise):=Ab (CE (E6 a0) a0.length 0 (k0.Log,k0.At,k0.Leaf.1,k0.Leaf.2,k0.Sig.E,k0.Sig.S)) λx1=>match x1 with| .inr r=>some r| .inl y1=>some ((-1),(⟨y1.1,y1.2.1,(y1.2.2.1,y1.2.2.2.1),(⟨y1.2.2.2.2.1,y1.2.2.2.2.2⟩:g_api_Sig)⟩:g_api_Promise))
theorem FG {a0 k0 r}(hm:C6 a0 k0=some r):Sp prog 139 [sl Ai a0,.fn (.func 140) [] [.pb 0 0]] [.box 0 [.d (.i k0.Log),.d (.i k0.At),.d (.u k0.Leaf.1),.d (.u k0.Leaf.2),.d (.u k0.Sig.E),.d (.u k0.Sig.S)] 63] 1 (is (.d (.i r.1)) [.box 0 [.d (.i r.2.Log),.d (.i r.2.At),.d (.u r.2.Leaf.1),.d (.u r.2.Leaf.2),.d (.u r.2.Sig.E),.d (.u r.2.Sig.S)] 63] 1):=by
 refine sq ?_;intros;refine oB hm λ_ q1 hm=>Jj 0 (E:=Ai) (xs:=a0) 6 λhle1=>gF (EN _ _ _) q1 (λp0 (p_0,p_1,p_2,p_3,p_4,p_5)=>⟨[(0,sl Ai a0),(1,.fn (.func 140) [] [.pb 0 0]),(7,.d (.i (a0.length:Int))),(8,.d (.i p0))],[(0,.box 0 [.d (.i p_0),.d (.i p_1),.d (.u p_2),.d (.u p_3),.d (.u p_4),.d (.u p_5)] 63)],[],1⟩) λi1 s1 Jl bl1=>cN bl1 (a0.length:Int) (λ_ q4 bl1=> ?_) λe=> ?_
 ·refine oB q4 λ_ q6 q4=>gx Ai 3 q6<|gD q4 LA λ_ q7 q4=>gi q4 ?_ ?_<;>intro _ q4
  ·obtain rfl:=nT bl1 q4;exact AnO hm▸gE
  exact gT bl1 hle1 q4
 subst e;let y1:=s1;exact AnO hm▸gE
def KT (a0:Am)(a2:UInt64×UInt64)(i1:Int)(x3:g_api_Promise)(s1:(List g_api_Promise)):Option ((List g_api_Promise)):=Ab (Ab (C6 a0.Client.Logs x3) λx5=>Ab (gu ((decide (x5.1>=0))&&(Nr x5.2.Leaf a2)) (idx a0.Client.Logs x5.1)) λx6=>Ab (gu ((decide (x5.1>=0))&&(Nr x5.2.Leaf a2)) (Kx x6 x5.2)) λx7=>if(((decide (x5.1>=0))&&(Nr x5.2.Leaf a2))&&(x7==0))=true then Ab (app 48 s1 ([x5.2]:List g_api_Promise)) λx8=>some x8 else some s1) λx4=>some x4
def m_client_asked_counting (a0:Am)(a1:List g_api_Promise)(a2:UInt64×UInt64):Option (List g_api_Promise):=Ab (Ab (FE (KT a0 a2) a1 0 ([]:List g_api_Promise)) λx2=>some x2) λx1=>some x1
theorem MH {a0 a1 a2 r}(hm:m_client_asked_counting a0 a1 a2=some r):Sp prog 63 [ag (B3 a0),sl Ad a1,ag (Ao a2)] [] 0 (is (.ow 0) [.row 0 6 _ Ad r] 1):=by
 refine sq λD0 As u4 m0 hd=> ?_;unfold m_client_asked_counting at hm;obtain⟨x1,q1,hm⟩:=Ag hm;refine oB q1 λ_ q2 q1=>U4 0 Ad 6 6<|Jj 0 (E:=Ad) (xs:=a1) 10 λhle1=>gF (E0 _ _ _) q2 (λp0 p=>⟨[(3,.pb 0 0),(5,.pb 1 0),(6,.ow 2),(10,sl Ad a1),(11,.d (.i (a1.length:Int))),(12,.d (.i p0))],[(0,.row 2 6 _ Ad p),(1,.box 1 [.d (.u a2.1),.d (.u a2.2)] 34),(2,.box 0 [.d (.s a0.Client.Who),sl Ac a0.Client.Roots,sl Ai a0.Client.Logs,sl Ae a0.Client.Pool.L,.d (.i a0.Client.Cascade.Day),sl Ah a0.Client.Cascade.Levels,.d (.i a0.Client.View)] 110)],[],3⟩) λi1 s1 Jl bl1=>c0 bl1 (λ_ _ q6 q5 bl1=> ?_) λe=> ?_
 ·refine oB q5 λx4 q7 q5=>gjU 1 (λ(_:Unit)=>⟨[(3,.pb 0 0),(5,.pb 1 0),(6,.ow 2),(10,sl Ad a1),(11,.d (.i (a1.length:Int))),(12,.d (.i (i1:Int)))],[(0,.row 2 6 _ Ad x4),(1,.box 1 [.d (.u a2.1),.d (.u a2.2)] 34),(2,.box 0 [.d (.s a0.Client.Who),sl Ac a0.Client.Roots,sl Ai a0.Client.Logs,sl Ae a0.Client.Pool.L,.d (.i a0.Client.Cascade.Day),sl Ah a0.Client.Cascade.Levels,.d (.i a0.Client.View)] 110)],[],3⟩) (λ_=>True) (λJp bk3=> ?_) λ_ _=> ?_
  ·refine gx Ad 6 q6<|gD q7 FG λx5 q8 q7=>oB q7 λ_ q9 q7=>gxG Ai 3 q9<|oB q7 λ_ q10 q7=>gcH q10 PL<|gi q7 ?_ ?_<;>intro _ q7
   ·refine gq Ad 6 [x5.2]<|oB q7 λ_ q11 q7=>gp Ad 6 q11 ?_;obtain rfl:=AnO q7;exact gb bk3 hd () trivial
   obtain rfl:=AnO q7;exact gb bk3 hd () trivial
  exact gM bl1 hle1 q5
 subst e;obtain rfl:=AnO q1;exact AnO hm▸gE
def Mf (k0:Am)(k1:g_api_Offer)(k2:UInt64×UInt64)(k3:List g_api_Promise):Option (Int×Am×g_api_Offer×(UInt64×UInt64)×(List g_api_Promise)):=Ab (idx k1.Path 0) λx1=>Ab (m_client_asked_counting k0 x1.Proms k2) λx2=>if(decide ((x2.length:Int)<2))=true then some (251,k0,k1,k2,x2)else some (0,k0,k1,k2,x2)
theorem RP {k0 k1 k2 k3 r}(hm:Mf k0 k1 k2 k3=some r):Sp prog 62 [.pb 0 0,.pb 1 0,.pb 2 0,.pb 3 0] [.box 0 [.d (.s k0.Client.Who),sl Ac k0.Client.Roots,sl Ai k0.Client.Logs,sl Ae k0.Client.Pool.L,.d (.i k0.Client.Cascade.Day),sl Ah k0.Client.Cascade.Levels,.d (.i k0.Client.View)] 110,.box 1 [sl Ac k1.Path,sl AQ k1.Where] 52,.box 2 [.d (.u k2.1),.d (.u k2.2)] 34,.box 3 [sl Ad k3] 57] 4 (is (.d (.i r.1)) [.box 0 [.d (.s r.2.1.Client.Who),.d (.sl _ Ac r.2.1.Client.Roots),.d (.sl _ Ai r.2.1.Client.Logs),.d (.sl _ Ae r.2.1.Client.Pool.L),.d (.i r.2.1.Client.Cascade.Day),.d (.sl _ Ah r.2.1.Client.Cascade.Levels),.d (.i r.2.1.Client.View)] 110,.box 1 [.d (.sl _ Ac r.2.2.1.Path),.d (.sl _ AQ r.2.2.1.Where)] 52,.box 2 [.d (.u r.2.2.2.1.1),.d (.u r.2.2.2.1.2)] 34,.box 3 [.d (.sl _ Ad r.2.2.2.2)] 57] 4):=by
 refine sq ?_;intros;refine oB hm λ_ q1 hm=>gx Ac 13 q1<|gD hm MH λ_ q2 hm=>gi hm ?_ ?_<;>intro _ hm
 ·exact AnO hm▸gE
 exact AnO hm▸gE
def Jg (a0:g_api_Promise)(k0:g_api_Place):Option (Bool×g_api_Place):=some ((a0.Log==k0.Log),k0)
theorem Ob {a0 k0 r}(hm:Jg a0 k0=some r):Sp prog 67 [ag (Ad a0),.pb 0 0] [.box 0 [.d (.i k0.Log),.d (.i k0.At),.d (.i k0.Size),sl Ao k0.Proof] 67] 1 (is (.d (.t r.1)) [.box 0 [.d (.i r.2.Log),.d (.i r.2.At),.d (.i r.2.Size),.d (.sl _ Ao r.2.Proof)] 67] 1):=by
 refine sq ?_;intros;exact AnO hm▸gE
def Mo (a0:UInt64):Option Int:=Ab (Hw a0) λx1=>some x1
theorem OW {a0 r}(hm:Mo a0=some r):Sf prog 156 [.d (.u a0)] (.d (.i r)):=by
 refine sq ?_;intros;refine gi' (b:=false) (λh=>by cases h) (λ_=> ?_);refine gA hm Oe λ_ q1 hm=> ?_;exact AnO hm▸gE
def Lv (a0:UInt64):Option Int:=bnd ((((DL a0 1)&&&6148914691236517205)+(a0&&&6148914691236517205))) λx1=>bnd ((((DL x1 2)&&&3689348814741910323)+(x1&&&3689348814741910323))) λx2=>bnd ((((DL x2 4)+x2)&&&1085102592571150095)) λx3=>bnd (((x3+(DL x3 8))+(DL (x3+(DL x3 8)) 16))) λx4=>bnd ((KV (w64 ((x4+(DL x4 32)).toNat:Int)) 127)) λx5=>some x5
theorem QR {a0 r}(hm:Lv a0=some r):Sf prog 246 [.d (.u a0)] (.d (.i r)):=by
 refine sq ?_;intros;refine bE hm ?_;intro _ hm;refine bE hm ?_;intro _ hm;refine bE hm ?_;intro _ hm;refine bE hm ?_;intro _ hm;refine bE hm ?_;intro _ hm;exact AnO hm▸gE
def NI (a0:UInt64):Option Int:=Ab (Lv a0) λx1=>some x1
theorem Ti {a0 r}(hm:NI a0=some r):Sf prog 157 [.d (.u a0)] (.d (.i r)):=by
 refine sq ?_;intros;refine gi' (b:=false) (λh=>by cases h) (λ_=> ?_);refine gA hm QR λ_ q1 hm=> ?_;exact AnO hm▸gE
def PB (a0:Int)(a1:Int):Option (Int×Int):=Ab (Mo (toU (AhS a0 (w64 (a1-1))))) λx1=>if(0:Int)<=x1 then Ab (NI (toU (A9 a0 x1.toNat))) λx2=>some (x1,x2)else none
theorem VC {a0 a1 r}(hm:PB a0 a1=some r):Sf prog 80 [.d (.i a0),.d (.i a1)] (.tup [.d (.i r.1),.d (.i r.2)]):=by
 refine sq ?_;intros;refine gA hm OW λx1 q1 hm=> ?_;obtain⟨q2,hm⟩:=A2 hm;refine gsh (r:= .i (A9 a0 x1.toNat)) (λh=>q2)<|gA hm Ti λ_ q3 hm=> ?_;exact AnO hm▸gE
def Kz (a0:UInt64×UInt64)(a1:UInt64×UInt64):Option (UInt64×UInt64):=Ab (ED a0) λx1=>Ab (ED a1) λx2=>Ab (C2 (⟨#[110,111,100,101]⟩:ByteArray) ([x1,x2]:List (List UInt8))) λx3=>some x3
theorem MD {a0 a1 r}(hm:Kz a0 a1=some r):Sf prog 83 [ag (Ao a0),ag (Ao a1)] (ag (Ao r)):=by
 refine sq ?_;intros;refine gD hm K0 λx1 q1 hm=>gD hm K0 λx2 q2 hm=>Yo (k:=1) (eL eB) ([x1,x2]:List (List UInt8)) (λ_=>rfl)<|gA hm EK λ_ q3 hm=> ?_;exact AnO hm▸gE
def NF (a0:UInt64×UInt64)(k0:UInt64×UInt64):Option (UInt64×UInt64):=Ab (Kz a0 k0) λx1=>some x1
theorem SZ {a0 k0 r}(hm:NF a0 k0=some r):Sp prog 82 [ag (Ao a0),.pb 0 0] [.box 0 [.d (.u k0.1),.d (.u k0.2)] 34] 1 (is (.tup []) [.box 0 [.d (.u r.1),.d (.u r.2)] 34] 1):=by
 refine sq ?_;intros;refine gA hm MD λ_ q1 hm=> ?_;exact AnO hm▸gE
def ND (a0:UInt64×UInt64)(k0:UInt64×UInt64):Option (UInt64×UInt64):=Ab (Kz k0 a0) λx1=>some x1
theorem SY {a0 k0 r}(hm:ND a0 k0=some r):Sp prog 84 [ag (Ao a0),.pb 0 0] [.box 0 [.d (.u k0.1),.d (.u k0.2)] 34] 1 (is (.tup []) [.box 0 [.d (.u r.1),.d (.u r.2)] 34] 1):=by
 refine sq ?_;intros;refine gA hm MD λ_ q1 hm=> ?_;exact AnO hm▸gE
def L4 (s2:Int×Int):Option ((Int×Int)⊕(Int×Int)):=if(((KV s2.1 1)==0)&&(s2.1 !=0))=true then some (.inl ((A9 s2.1 1),(A9 s2.2 1)))else some (.inr (s2.1,s2.2))
def L7 (i1:Int)(x2:UInt64×UInt64)(s1:Int×Int×UInt64×UInt64):Option (Int×Int×UInt64×UInt64):=Ab (if(((KV s1.1 1)==0)&&(s1.1 !=s1.2.1))=true then Ab (ND x2 s1.2.2) λx4=>some ((A9 s1.1 1),(A9 s1.2.1 1),x4.1,x4.2)else Ab (NF x2 s1.2.2) λx5=>Ab (Ab (iter L4 AY (s1.1,s1.2.1)) λx7=>some (x7.1,x7.2)) λx6=>some ((A9 x6.1 1),(A9 x6.2 1),x5.1,x5.2)) λx3=>some (x3.1,x3.2.1,x3.2.2.1,x3.2.2.2)
def Jc (a0:Int)(a1:Int)(a2:List (UInt64×UInt64))(k0:UInt64×UInt64):Option (UInt64×UInt64):=Ab (FE L7 a2 0 (a0,(w64 (a1-1)),k0.1,k0.2)) λx1=>some x1.2.2
theorem N0 {a0 a1 a2 k0 r}(hm:Jc a0 a1 a2 k0=some r):Sp prog 81 [.d (.i a0),.d (.i a1),sl Ao a2,.fn (.func 82) [] [.pb 0 0],.fn (.func 84) [] [.pb 0 0]] [.box 0 [.d (.u k0.1),.d (.u k0.2)] 34] 1 (is (.tup []) [.box 0 [.d (.u r.1),.d (.u r.2)] 34] 1):=by
 refine sq λD0 As u4 m0 hd=>oB hm λ_ q1 hm=>Jj 0 (E:=Ao) (xs:=a2) 15 λhle1=>gF (E0 _ _ _) q1 (λp0 (p_0,p_1,p_2,p_3)=>⟨[(0,.d (.i p_0)),(3,.fn (.func 82) [] [.pb 0 0]),(4,.fn (.func 84) [] [.pb 0 0]),(10,.d (.i p_1)),(15,sl Ao a2),(16,.d (.i (a2.length:Int))),(17,.d (.i p0))],[(0,.box 0 [.d (.u p_2),.d (.u p_3)] 34)],[],1⟩) λi1 s1 Jl bl1=>c0 bl1 (λx2 _ q5 q4 bl1=> ?_) λe=> ?_
 ·refine oB q4 λx3 q6 q4=>gjU 1 (λ(_:Unit)=>let (y_0,y_1,y_2,y_3):=x3; ⟨[(0,.d (.i y_0)),(3,.fn (.func 82) [] [.pb 0 0]),(4,.fn (.func 84) [] [.pb 0 0]),(10,.d (.i y_1)),(15,sl Ao a2),(16,.d (.i (a2.length:Int))),(17,.d (.i (i1:Int)))],[(0,.box 0 [.d (.u y_2),.d (.u y_3)] 34)],[],1⟩) (λ_=>True) (λJp bk2=> ?_) λ_ _=> ?_
  ·refine gx Ao 2 q5<|gi q6 ?_ ?_<;>intro _ q6
   ·refine gD q6 SY λ_ q7 q6=> ?_;obtain rfl:=AnO q6;exact gb bk2 hd () trivial
   refine gD q6 SZ λx5 q8 q6=> ?_;obtain⟨x6,q9,q6⟩:=Ag q6;refine oB q9 λx7 q10 q9=>gI q10 (λ(p_0,p_1)=>⟨[(0,.d (.i p_0)),(3,.fn (.func 82) [] [.pb 0 0]),(4,.fn (.func 84) [] [.pb 0 0]),(10,.d (.i p_1)),(15,sl Ao a2),(16,.d (.i (a2.length:Int))),(17,.d (.i (i1:Int))),(12,.pb 1 0)],[(0,.box 0 [.d (.u x5.1),.d (.u x5.2)] 34),(1,.box 1 [.d (.u x2.1),.d (.u x2.2)] 34)],[],2⟩) λs2 _ Jl q13 bl2=>gi q13 ?_ ?_<;>intro _ q13
   ·exact gN bl2 q13
   obtain rfl:=nR bl2 q13;let x7:=(s2.1,s2.2);obtain rfl:=AnO q9;obtain rfl:=AnO q6;exact gb bk2 hd () trivial
  exact gM bl1 hle1 q4
 subst e;exact AnO hm▸gE
def LD (a0:UInt64×UInt64)(a1:Int)(a2:Int)(a3:List (UInt64×UInt64))(a4:UInt64×UInt64):Option Int:=if(((decide (a1<0))||(decide (a1>=a2)))||(decide (a2>256)))=true then some 1 else Ab (PB a1 a2) λx1=>if((a3.length:Int) !=(w64 (x1.1+x1.2)))=true then some 80 else Ab (Jc a1 a2 a3 a0) λx2=>if(!Nr x2 a4)=true then some 71 else some 0
theorem VF {a0 a1 a2 a3 a4 r}(hm:LD a0 a1 a2 a3 a4=some r):Sf prog 27 [ag (Ao a0),.d (.i a1),.d (.i a2),sl Ao a3,ag (Ao a4)] (.d (.i r)):=by
 refine sq ?_;intros;refine gi hm ?_ ?_<;>intro _ hm
 ·exact AnO hm▸gE
 refine gA hm VC λ_ q1 hm=>gi hm ?_ ?_<;>intro _ hm
 ·exact AnO hm▸gE
 refine gD hm N0 λ_ q2 hm=>gi hm ?_ ?_<;>intro _ hm
 ·exact AnO hm▸gE
 exact AnO hm▸gE
def Jf (a0:g_api_Head)(k0:g_api_Place)(k1:UInt64×UInt64):Option (Bool×g_api_Place×(UInt64×UInt64)):=Ab (gu ((a0.Log==k0.Log)&&(a0.Size==k0.Size)) (LD k1 k0.At k0.Size k0.Proof a0.Root)) λx1=>bnd ((((a0.Log==k0.Log)&&(a0.Size==k0.Size))&&(x1==0))) λx2=>some (x2,k0,k1)
theorem N8 {a0 k0 k1 r}(hm:Jf a0 k0 k1=some r):Sp prog 143 [ag (Ae a0),.pb 0 0,.pb 1 0] [.box 0 [.d (.i k0.Log),.d (.i k0.At),.d (.i k0.Size),sl Ao k0.Proof] 67,.box 1 [.d (.u k1.1),.d (.u k1.2)] 34] 2 (is (.d (.t r.1)) [.box 0 [.d (.i r.2.1.Log),.d (.i r.2.1.At),.d (.i r.2.1.Size),.d (.sl _ Ao r.2.1.Proof)] 67,.box 1 [.d (.u r.2.2.1),.d (.u r.2.2.2)] 34] 2):=by
 refine sq ?_;intros;refine oB hm λ_ q1 hm=>gcH q1 VF<|bE hm ?_;intro _ hm;exact AnO hm▸gE
def Ez (a0:List g_api_Head)(i1:Int)(s1:Int×Int×Int×(List (UInt64×UInt64))×UInt64×UInt64):Option ((Int×Int×Int×(List (UInt64×UInt64))×UInt64×UInt64)⊕(Int×g_api_Place×(UInt64×UInt64))):=Ab (idx a0 (i1:Int)) λx3=>Ab (Jf x3 (⟨s1.1,s1.2.1,s1.2.2.1,s1.2.2.2.1⟩:g_api_Place) s1.2.2.2.2) λx4=>if x4.1=true then some (.inr ((i1:Int),x4.2.1,x4.2.2))else some (.inl (x4.2.1.Log,x4.2.1.At,x4.2.1.Size,x4.2.1.Proof,x4.2.2.1,x4.2.2.2))
def CR (a0:List g_api_Head)(k0:g_api_Place)(k1:UInt64×UInt64):Option (Int×g_api_Place×(UInt64×UInt64)):=Ab (CE (Ez a0) a0.length 0 (k0.Log,k0.At,k0.Size,k0.Proof,k1.1,k1.2)) λx1=>match x1 with| .inr r=>some r| .inl y1=>some ((-1),(⟨y1.1,y1.2.1,y1.2.2.1,y1.2.2.2.1⟩:g_api_Place),y1.2.2.2.2)
theorem Fk {a0 k0 k1 r}(hm:CR a0 k0 k1=some r):Sp prog 225 [sl Ae a0,.fn (.func 143) [] [.pb 0 0,.pb 1 0]] [.box 0 [.d (.i k0.Log),.d (.i k0.At),.d (.i k0.Size),sl Ao k0.Proof] 67,.box 1 [.d (.u k1.1),.d (.u k1.2)] 34] 2 (is (.d (.i r.1)) [.box 0 [.d (.i r.2.1.Log),.d (.i r.2.1.At),.d (.i r.2.1.Size),.d (.sl _ Ao r.2.1.Proof)] 67,.box 1 [.d (.u r.2.2.1),.d (.u r.2.2.2)] 34] 2):=by
 refine sq ?_;intros;refine oB hm λ_ q1 hm=>Jj 0 (E:=Ae) (xs:=a0) 6 λhle1=>gF (EN _ _ _) q1 (λp0 (p_0,p_1,p_2,p_3,p_4,p_5)=>⟨[(0,sl Ae a0),(1,.fn (.func 143) [] [.pb 0 0,.pb 1 0]),(7,.d (.i (a0.length:Int))),(8,.d (.i p0))],[(0,.box 0 [.d (.i p_0),.d (.i p_1),.d (.i p_2),sl Ao p_3] 67),(1,.box 1 [.d (.u p_4),.d (.u p_5)] 34)],[],2⟩) λi1 s1 Jl bl1=>cN bl1 (a0.length:Int) (λ_ q4 bl1=> ?_) λe=> ?_
 ·refine oB q4 λ_ q6 q4=>gx Ae 7 q6<|gD q4 N8 λ_ q7 q4=>gi q4 ?_ ?_<;>intro _ q4
  ·obtain rfl:=nT bl1 q4;exact AnO hm▸gE
  exact gT bl1 hle1 q4
 subst e;let y1:=s1;exact AnO hm▸gE
def Co (a0:List g_api_Head)(k0:g_api_Place)(k1:UInt64×UInt64):Option (Bool×g_api_Place×(UInt64×UInt64)):=Ab (CR a0 k0 k1) λx1=>some ((decide (x1.1>=0)),x1.2.1,x1.2.2)
theorem Ex {a0 k0 k1 r}(hm:Co a0 k0 k1=some r):Sp prog 142 [sl Ae a0,.fn (.func 143) [] [.pb 0 0,.pb 1 0]] [.box 0 [.d (.i k0.Log),.d (.i k0.At),.d (.i k0.Size),sl Ao k0.Proof] 67,.box 1 [.d (.u k1.1),.d (.u k1.2)] 34] 2 (is (.d (.t r.1)) [.box 0 [.d (.i r.2.1.Log),.d (.i r.2.1.At),.d (.i r.2.1.Size),.d (.sl _ Ao r.2.1.Proof)] 67,.box 1 [.d (.u r.2.2.1),.d (.u r.2.2.2)] 34] 2):=by
 refine sq ?_;intros;refine gD hm Fk λ_ q1 hm=> ?_;exact AnO hm▸gE
def KF (a0:Am)(a1:g_api_Place)(a2:UInt64×UInt64):Option Bool:=Ab (Co a0.Client.Pool.L a1 a2) λx1=>some x1.1
theorem PR {a0 a1 a2 r}(hm:KF a0 a1 a2=some r):Sf prog 68 [ag (B3 a0),ag (AQ a1),ag (Ao a2)] (.d (.t r)):=by
 refine sq ?_;intros;refine gD hm Ex λ_ q1 hm=> ?_;exact AnO hm▸gE
def DH (a0:List g_api_Promise)(i1:Int)(s1:Int×Int×Int×(List (UInt64×UInt64))):Option ((Int×Int×Int×(List (UInt64×UInt64)))⊕(Int×g_api_Place)):=Ab (idx a0 (i1:Int)) λx3=>Ab (Jg x3 (⟨s1.1,s1.2.1,s1.2.2.1,s1.2.2.2⟩:g_api_Place)) λx4=>if x4.1=true then some (.inr ((i1:Int),x4.2))else some (.inl (x4.2.Log,x4.2.At,x4.2.Size,x4.2.Proof))
def B8 (a0:List g_api_Promise)(k0:g_api_Place):Option (Int×g_api_Place):=Ab (CE (DH a0) a0.length 0 (k0.Log,k0.At,k0.Size,k0.Proof)) λx1=>match x1 with| .inr r=>some r| .inl y1=>some ((-1),(⟨y1.1,y1.2.1,y1.2.2.1,y1.2.2.2⟩:g_api_Place))
theorem Eg {a0 k0 r}(hm:B8 a0 k0=some r):Sp prog 141 [sl Ad a0,.fn (.func 67) [] [.pb 0 0]] [.box 0 [.d (.i k0.Log),.d (.i k0.At),.d (.i k0.Size),sl Ao k0.Proof] 67] 1 (is (.d (.i r.1)) [.box 0 [.d (.i r.2.Log),.d (.i r.2.At),.d (.i r.2.Size),.d (.sl _ Ao r.2.Proof)] 67] 1):=by
 refine sq ?_;intros;refine oB hm λ_ q1 hm=>Jj 0 (E:=Ad) (xs:=a0) 6 λhle1=>gF (EN _ _ _) q1 (λp0 (p_0,p_1,p_2,p_3)=>⟨[(0,sl Ad a0),(1,.fn (.func 67) [] [.pb 0 0]),(7,.d (.i (a0.length:Int))),(8,.d (.i p0))],[(0,.box 0 [.d (.i p_0),.d (.i p_1),.d (.i p_2),sl Ao p_3] 67)],[],1⟩) λi1 s1 Jl bl1=>cN bl1 (a0.length:Int) (λ_ q4 bl1=> ?_) λe=> ?_
 ·refine oB q4 λ_ q6 q4=>gx Ad 6 q6<|gD q4 Ob λ_ q7 q4=>gi q4 ?_ ?_<;>intro _ q4
  ·obtain rfl:=nT bl1 q4;exact AnO hm▸gE
  exact gT bl1 hle1 q4
 subst e;let y1:=s1;exact AnO hm▸gE
def BL (a0:List g_api_Promise)(k0:g_api_Place):Option (Bool×g_api_Place):=Ab (B8 a0 k0) λx1=>some ((decide (x1.1>=0)),x1.2)
theorem DE {a0 k0 r}(hm:BL a0 k0=some r):Sp prog 66 [sl Ad a0,.fn (.func 67) [] [.pb 0 0]] [.box 0 [.d (.i k0.Log),.d (.i k0.At),.d (.i k0.Size),sl Ao k0.Proof] 67] 1 (is (.d (.t r.1)) [.box 0 [.d (.i r.2.Log),.d (.i r.2.At),.d (.i r.2.Size),.d (.sl _ Ao r.2.Proof)] 67] 1):=by
 refine sq ?_;intros;refine gD hm Eg λ_ q1 hm=> ?_;exact AnO hm▸gE
def KG (a0:g_api_Place)(k0:List g_api_Promise)(k1:Am)(k2:UInt64×UInt64):Option (Bool×(List g_api_Promise)×Am×(UInt64×UInt64)):=Ab (BL k0 a0) λx1=>Ab (gu x1.1 (KF k1 x1.2 k2)) λx2=>some ((x1.1&&x2),k0,k1,k2)
theorem PU {a0 k0 k1 k2 r}(hm:KG a0 k0 k1 k2=some r):Sp prog 65 [ag (AQ a0),.pb 0 0,.pb 1 0,.pb 2 0] [.box 0 [sl Ad k0] 57,.box 1 [.d (.s k1.Client.Who),sl Ac k1.Client.Roots,sl Ai k1.Client.Logs,sl Ae k1.Client.Pool.L,.d (.i k1.Client.Cascade.Day),sl Ah k1.Client.Cascade.Levels,.d (.i k1.Client.View)] 110,.box 2 [.d (.u k2.1),.d (.u k2.2)] 34] 3 (is (.d (.t r.1)) [.box 0 [.d (.sl _ Ad r.2.1)] 57,.box 1 [.d (.s r.2.2.1.Client.Who),.d (.sl _ Ac r.2.2.1.Client.Roots),.d (.sl _ Ai r.2.2.1.Client.Logs),.d (.sl _ Ae r.2.2.1.Client.Pool.L),.d (.i r.2.2.1.Client.Cascade.Day),.d (.sl _ Ah r.2.2.1.Client.Cascade.Levels),.d (.i r.2.2.1.Client.View)] 110,.box 2 [.d (.u r.2.2.2.1),.d (.u r.2.2.2.2)] 34] 3):=by
 refine sq ?_;intros;refine gD hm DE λ_ q1 hm=>oB hm λ_ q2 hm=>gcH q2 PR ?_;exact AnO hm▸gE
def Er (a0:List g_api_Place)(i1:Int)(s1:(List g_api_Promise)×ByteArray×(List g_api_Cert)×(List g_api_Key)×(List g_api_Head)×Int×(List g_api_Sieve)×Int×UInt64×UInt64):Option (((List g_api_Promise)×ByteArray×(List g_api_Cert)×(List g_api_Key)×(List g_api_Head)×Int×(List g_api_Sieve)×Int×UInt64×UInt64)⊕(Int×(List g_api_Promise)×Am×(UInt64×UInt64))):=Ab (idx a0 (i1:Int)) λx3=>Ab (KG x3 s1.1 (⟨(⟨s1.2.1,s1.2.2.1,s1.2.2.2.1,(⟨s1.2.2.2.2.1⟩:g_api_Pool),(⟨s1.2.2.2.2.2.1,s1.2.2.2.2.2.2.1⟩:g_api_Cascade),s1.2.2.2.2.2.2.2.1⟩:g_api_Client)⟩:Am) s1.2.2.2.2.2.2.2.2) λx4=>if x4.1=true then some (.inr ((i1:Int),x4.2.1,x4.2.2.1,x4.2.2.2))else some (.inl (x4.2.1,x4.2.2.1.Client.Who,x4.2.2.1.Client.Roots,x4.2.2.1.Client.Logs,x4.2.2.1.Client.Pool.L,x4.2.2.1.Client.Cascade.Day,x4.2.2.1.Client.Cascade.Levels,x4.2.2.1.Client.View,x4.2.2.2.1,x4.2.2.2.2))
def CJ (a0:List g_api_Place)(k0:List g_api_Promise)(k1:Am)(k2:UInt64×UInt64):Option (Int×(List g_api_Promise)×Am×(UInt64×UInt64)):=Ab (CE (Er a0) a0.length 0 (k0,k1.Client.Who,k1.Client.Roots,k1.Client.Logs,k1.Client.Pool.L,k1.Client.Cascade.Day,k1.Client.Cascade.Levels,k1.Client.View,k2.1,k2.2)) λx1=>match x1 with| .inr r=>some r| .inl y1=>some ((-1),y1.1,(⟨(⟨y1.2.1,y1.2.2.1,y1.2.2.2.1,(⟨y1.2.2.2.2.1⟩:g_api_Pool),(⟨y1.2.2.2.2.2.1,y1.2.2.2.2.2.2.1⟩:g_api_Cascade),y1.2.2.2.2.2.2.2.1⟩:g_api_Client)⟩:Am),y1.2.2.2.2.2.2.2.2)
theorem E5 {a0 k0 k1 k2 r}(hm:CJ a0 k0 k1 k2=some r):Sp prog 144 [sl AQ a0,.fn (.func 65) [] [.pb 0 0,.pb 1 0,.pb 2 0]] [.box 0 [sl Ad k0] 57,.box 1 [.d (.s k1.Client.Who),sl Ac k1.Client.Roots,sl Ai k1.Client.Logs,sl Ae k1.Client.Pool.L,.d (.i k1.Client.Cascade.Day),sl Ah k1.Client.Cascade.Levels,.d (.i k1.Client.View)] 110,.box 2 [.d (.u k2.1),.d (.u k2.2)] 34] 3 (is (.d (.i r.1)) [.box 0 [.d (.sl _ Ad r.2.1)] 57,.box 1 [.d (.s r.2.2.1.Client.Who),.d (.sl _ Ac r.2.2.1.Client.Roots),.d (.sl _ Ai r.2.2.1.Client.Logs),.d (.sl _ Ae r.2.2.1.Client.Pool.L),.d (.i r.2.2.1.Client.Cascade.Day),.d (.sl _ Ah r.2.2.1.Client.Cascade.Levels),.d (.i r.2.2.1.Client.View)] 110,.box 2 [.d (.u r.2.2.2.1),.d (.u r.2.2.2.2)] 34] 3):=by
 refine sq ?_;intros;refine oB hm λ_ q1 hm=>Jj 0 (E:=AQ) (xs:=a0) 6 λhle1=>gF (EN _ _ _) q1 (λp0 (p_0,p_1,p_2,p_3,p_4,p_5,p_6,p_7,p_8,p_9)=>⟨[(0,sl AQ a0),(1,.fn (.func 65) [] [.pb 0 0,.pb 1 0,.pb 2 0]),(7,.d (.i (a0.length:Int))),(8,.d (.i p0))],[(0,.box 0 [sl Ad p_0] 57),(1,.box 1 [.d (.s p_1),sl Ac p_2,sl Ai p_3,sl Ae p_4,.d (.i p_5),sl Ah p_6,.d (.i p_7)] 110),(2,.box 2 [.d (.u p_8),.d (.u p_9)] 34)],[],3⟩) λi1 s1 Jl bl1=>cN bl1 (a0.length:Int) (λ_ q4 bl1=> ?_) λe=> ?_
 ·refine oB q4 λ_ q6 q4=>gx AQ 4 q6<|gD q4 PU λ_ q7 q4=>gi q4 ?_ ?_<;>intro _ q4
  ·obtain rfl:=nT bl1 q4;exact AnO hm▸gE
  exact gT bl1 hle1 q4
 subst e;let y1:=s1;exact AnO hm▸gE
def Ce (a0:List g_api_Place)(k0:List g_api_Promise)(k1:Am)(k2:UInt64×UInt64):Option (Bool×(List g_api_Promise)×Am×(UInt64×UInt64)):=Ab (CJ a0 k0 k1 k2) λx1=>some ((decide (x1.1>=0)),x1.2.1,x1.2.2.1,x1.2.2.2)
theorem Em {a0 k0 k1 k2 r}(hm:Ce a0 k0 k1 k2=some r):Sp prog 69 [sl AQ a0,.fn (.func 65) [] [.pb 0 0,.pb 1 0,.pb 2 0]] [.box 0 [sl Ad k0] 57,.box 1 [.d (.s k1.Client.Who),sl Ac k1.Client.Roots,sl Ai k1.Client.Logs,sl Ae k1.Client.Pool.L,.d (.i k1.Client.Cascade.Day),sl Ah k1.Client.Cascade.Levels,.d (.i k1.Client.View)] 110,.box 2 [.d (.u k2.1),.d (.u k2.2)] 34] 3 (is (.d (.t r.1)) [.box 0 [.d (.sl _ Ad r.2.1)] 57,.box 1 [.d (.s r.2.2.1.Client.Who),.d (.sl _ Ac r.2.2.1.Client.Roots),.d (.sl _ Ai r.2.2.1.Client.Logs),.d (.sl _ Ae r.2.2.1.Client.Pool.L),.d (.i r.2.2.1.Client.Cascade.Day),.d (.sl _ Ah r.2.2.1.Client.Cascade.Levels),.d (.i r.2.2.1.Client.View)] 110,.box 2 [.d (.u r.2.2.2.1),.d (.u r.2.2.2.2)] 34] 3):=by
 refine sq ?_;intros;refine gD hm E5 λ_ q1 hm=> ?_;exact AnO hm▸gE
def Me (k0:List g_api_Promise)(k1:Am)(k2:UInt64×UInt64)(k3:g_api_Offer):Option (Int×(List g_api_Promise)×Am×(UInt64×UInt64)×g_api_Offer):=Ab (Ce k3.Where k0 k1 k2) λx1=>if(!x1.1)=true then some (240,x1.2.1,x1.2.2.1,x1.2.2.2,k3)else some (0,x1.2.1,x1.2.2.1,x1.2.2.2,k3)
theorem RO {k0 k1 k2 k3 r}(hm:Me k0 k1 k2 k3=some r):Sp prog 64 [.pb 0 0,.pb 1 0,.pb 2 0,.pb 3 0] [.box 0 [sl Ad k0] 57,.box 1 [.d (.s k1.Client.Who),sl Ac k1.Client.Roots,sl Ai k1.Client.Logs,sl Ae k1.Client.Pool.L,.d (.i k1.Client.Cascade.Day),sl Ah k1.Client.Cascade.Levels,.d (.i k1.Client.View)] 110,.box 2 [.d (.u k2.1),.d (.u k2.2)] 34,.box 3 [sl Ac k3.Path,sl AQ k3.Where] 52] 4 (is (.d (.i r.1)) [.box 0 [.d (.sl _ Ad r.2.1)] 57,.box 1 [.d (.s r.2.2.1.Client.Who),.d (.sl _ Ac r.2.2.1.Client.Roots),.d (.sl _ Ai r.2.2.1.Client.Logs),.d (.sl _ Ae r.2.2.1.Client.Pool.L),.d (.i r.2.2.1.Client.Cascade.Day),.d (.sl _ Ah r.2.2.1.Client.Cascade.Levels),.d (.i r.2.2.1.Client.View)] 110,.box 2 [.d (.u r.2.2.2.1.1),.d (.u r.2.2.2.1.2)] 34,.box 3 [.d (.sl _ Ac r.2.2.2.2.Path),.d (.sl _ AQ r.2.2.2.2.Where)] 52] 4):=by
 refine sq ?_;intros;refine gD hm Em λ_ q1 hm=>gi hm ?_ ?_<;>intro _ hm
 ·exact AnO hm▸gE
 exact AnO hm▸gE
def Ou (a0:Int)(i1:Int)(s1:(List UInt8)):Option ((List UInt8)):=if(0:Int)<=(w64 (56-(w64 (8*(i1:Int)))))then Ab (idx s1 (i1:Int)) λx4=>bnd (s1.set (i1:Int).toNat (toB (A9 a0 ((w64 (56-(w64 (8*(i1:Int))))).toNat)))) λx5=>some x5 else none
def Hq (a0:Int):Option (List UInt8):=Ab (Ab (Di (Ou a0) ((List.replicate 8 (0:UInt8)).length) 0 (List.replicate 8 (0:UInt8))) λx2=>some x2) λx1=>some x1
theorem KX {a0 r}(hm:Hq a0=some r):Sp prog 247 [.d (.i a0)] [] 0 (is (.ow 0) [.row 0 1 _ eB r] 1):=by
 refine sq ?_;intros;unfold Hq at hm;refine gmks (k:=8) (xs:=(List.replicate 8 (0:UInt8))) eB (0:UInt8) (.b 0) 1 rfl ?_;obtain⟨x1,q1,hm⟩:=Ag hm;refine oB q1 λ_ q2 q1=>Jj 0 (E:=eB) (xs:=(List.replicate 8 (0:UInt8))) 6 λhle1=>gF (EM _ _ _) q2 (λp0 p=>⟨[(0,.d (.i a0)),(3,.ow 0),(7,.d (.i ((List.replicate 8 (0:UInt8)).length:Int))),(8,.d (.i p0))],[(0,.row 0 1 _ eB p)],[],1⟩) λi1 s1 Jl bl1=>cM bl1 ((List.replicate 8 (0:UInt8)).length:Int) (λ_ q5 bl1=> ?_) λe=> ?_
 ·unfold Ou at q5;obtain⟨q7,q5⟩:=A2 q5;refine gsh (r:= .i (A9 a0 ((w64 (56-(w64 (8*(i1:Int))))).toNat))) (λh=>q7)<|oB q5 λ_ q8 q5=>Jk (E:=eB) (λ_=>q8)<|bE q5 ?_;intro _ q5;exact AhO (k:=1) (E:=eB) (toB (A9 a0 ((w64 (56-(w64 (8*(i1:Int))))).toNat))) (λ_=>rfl) q8<|gM bl1 hle1 q5
 subst e;obtain rfl:=AnO q1;exact AnO hm▸gE
def Qc {σ:Type}(p0:σ->(Int×UInt8)->Option (Bool×σ))(k0:g_api_Sieve)(k1:List UInt8)(k2:List UInt8)(s1:Int×σ):Option ((Int×σ)⊕((σ)⊕(g_api_Sieve×(List UInt8)×(List UInt8)×σ))):=if(decide (s1.1<k0.Hashes))=true then Ab (C2 (⟨#[115,105,101,118,101]⟩:ByteArray) ([k1,([(toB s1.1)]:List UInt8),k2]:List (List UInt8))) λx3=>Ab (IF x3 (toU k0.Bits)) λx4=>if(0:Int)<=(KV (w64 (x4.toNat:Int)) 7)then Ab (p0 s1.2 ((A9 (w64 (x4.toNat:Int)) 3),(Aif 1 ((KV (w64 (x4.toNat:Int)) 7).toNat)))) λx5=>if(!x5.1)=true then some (.inr (.inr (k0,k1,k2,x5.2)))else some (.inl ((w64 (s1.1+1)),x5.2))else none else some (.inr (.inl s1.2))
def Ny {σ:Type}(p0:σ->(Int×UInt8)->Option (Bool×σ))(k0:g_api_Sieve)(k1:List UInt8)(k2:List UInt8)(s0:σ):Option (g_api_Sieve×(List UInt8)×(List UInt8)×σ):=Ab (iter (Qc p0 k0 k1 k2) AY (0,s0)) λx1=>match x1 with| .inr r=>some r| .inl y1=>some (k0,k1,k2,y1)
theorem SR {σ:Type}{p0:σ->(Int×UInt8)->Option (Bool×σ)}{k0 k1 k2 s0 r}(hm:Ny p0 k0 k1 k2 s0=some r)(g:Value)(R:σ->Mem->Ow)(hcb:Adm prog g (λx=> [.d (.i x.1),.d (.b x.2)]) R p0):Sp prog 248 [.ow 0,.pb 1 0,.pb 2 0,.pb 3 0] [.hp 0 (.cb g σ R s0),.box 1 [.d (.i k0.Bits),.d (.i k0.Hashes),.d (.i k0.Salt),sl eB k0.B] 98,.box 2 [sl eB k1] 96,.box 3 [sl eB k2] 96] 4 (is (.tup []) [.hp 0 (.cb g σ R r.2.2.2),.box 1 [.d (.i r.1.Bits),.d (.i r.1.Hashes),.d (.i r.1.Salt),.d (.sl _ eB r.1.B)] 98,.box 2 [.d (.sl _ eB r.2.1)] 96,.box 3 [.d (.sl _ eB r.2.2.1)] 96] 4):=by
 refine sq ?_;intros;refine oB hm λ_ q1 hm=>gI q1 (λ(p_0,p_1)=>⟨[(0,.ow 0),(1,.pb 1 0),(2,.pb 2 0),(3,.pb 3 0),(8,.d (.i k0.Hashes)),(9,.d (.i p_0))],[(0,.box 1 [.d (.i k0.Bits),.d (.i k0.Hashes),.d (.i k0.Salt),sl eB k0.B] 98),(1,.box 2 [sl eB k1] 96),(2,.box 3 [sl eB k2] 96),(3,.hp 0 (.cb g σ R p_1))],[],4⟩) λs1 _ Jl q4 bl1=>gi q4 ?_ ?_<;>intro _ q4
 ·refine gq eB 1 [(toB s1.1)]<|gq (eL eB) 1 [k1,([(toB s1.1)]:List UInt8),k2]<|gA q4 EK λ_ q6 q4=>gA q4 OV λx4 q7 q4=> ?_;obtain⟨q8,q4⟩:=A2 q4;refine gsh (r:= .b (Aif 1 ((KV (w64 (x4.toNat:Int)) 7).toNat))) (λh=>q8)<|oB q4 λ_ q9 q4=>gcb ((A9 (w64 (x4.toNat:Int)) 3),(Aif 1 ((KV (w64 (x4.toNat:Int)) 7).toNat))) hcb q9<|gi q4 ?_ ?_<;>intro _ q4
  ·obtain rfl:=nR bl1 q4;exact AnO hm▸gE
  exact gN bl1 q4
 obtain rfl:=nR bl1 q4;let y1:=s1.2;exact AnO hm▸gE
def Py (a0:g_api_Sieve)(a1:Int):Option (g_api_Sieve×(List UInt8)×(List UInt8)):=Ab (Hq a0.Salt) λx1=>Ab (Hq a1) λx2=>some (a0,x1,x2)
theorem Vv {a0 a1 r}(hm:Py a0 a1=some r):Sp prog 160 [ag (Ah a0),.d (.i a1)] [] 0 (is (.fn (.func 248) [] [.pb 0 0,.pb 1 0,.pb 2 0]) [.box 0 [.d (.i r.1.Bits),.d (.i r.1.Hashes),.d (.i r.1.Salt),sl eB r.1.B] 98,.box 1 [sl eB r.2.1] 96,.box 2 [sl eB r.2.2] 96] 3):=by
 refine sq ?_;intros;refine gD hm KX λ_ q1 hm=>gD hm KX λ_ q2 hm=> ?_;exact AnO hm▸gE
def LC (a0:g_api_Sieve)(b7:Int×UInt8)(s1:(Unit)×Nat):Option ((Unit)×Nat):=Ab (idx a0.B b7.1) λx5=>if(((x5&&&b7.2).toNat:Int)==0)=true then some ((),1)else some ((),0)
def MQ (a0:g_api_Sieve)(a1:Int):Option Bool:=Ab (Dl a0) λx1=>Ab (gu (!(x1 !=0)) (Gb a1)) λx2=>if((x1 !=0)||(!x2))=true then some false else Ab (Py a0 a1) λx3=>Ab (Ny (λ(s:(Unit)×Nat) (b0:Int×UInt8)=>if s.2=0 then Ab (LC a0 b0 s) λy=>some (y.2==0,y)else none) x3.1 x3.2.1 x3.2.2 ((),0)) λx4=>if(x4.2.2.2).2=0 then some true else some false
theorem TS {a0 a1 r}(hm:MQ a0 a1=some r):Sf prog 87 [ag (Ah a0),.d (.i a1)] (.d (.t r)):=
 spR call87 func87 rfl ntmps87 rfl λD0 As u4 m0 hD hd=>by
  unfold MQ at hm;refine gA hm Qz λ_ q1 hm=>oB hm λ_ q2 hm=>gcH q2 JC<|gi hm ?_ ?_<;>intro _ hm
  ·exact AnO hm▸gE
  refine gD hm Vv λx3 q3 hm=>oB hm λx4 q4 hm=>OL hD (n0:=0) 5 5 [⟨2,2,98,[.d (.i x3.1.Bits),.d (.i x3.1.Hashes),.d (.i x3.1.Salt),sl eB x3.1.B],[.d (.i x4.1.Bits),.d (.i x4.1.Hashes),.d (.i x4.1.Salt),sl eB x4.1.B]⟩,⟨3,3,96,[sl eB x3.2.1],[sl eB x4.2.1]⟩,⟨4,4,96,[sl eB x3.2.2],[sl eB x4.2.2.1]⟩] (gt:=17) (ps:=[18,19]) [(2,.pb 0 0),(4,.pb 1 0),(17,.fn (.func 248) [] [.pb 2 0,.pb 3 0,.pb 4 0])] (λ(y1:Unit)=> [(0,.box 1 [.d (.t false)] 4),(1,.box 0 [.d (.i a0.Bits),.d (.i a0.Hashes),.d (.i a0.Salt),sl eB a0.B] 98)]) (λ(y1:(Unit)×Nat)=> [(0,.box 1 [.d (.t false)] 4),(1,.box 0 [.d (.i a0.Bits),.d (.i a0.Hashes),.d (.i a0.Salt),sl eB a0.B] 98)]) (λx=> [.d (.i x.1),.d (.b x.2)]) (λ(s1:Unit) (b7:Int×UInt8)=>⟨[(2,.pb 0 0),(4,.pb 1 0),(5,.d (.i b7.1)),(6,.d (.b b7.2)),(17,.fn (.func 248) [] [.pb 2 0,.pb 3 0,.pb 4 0])],[(0,.box 1 [.d (.t false)] 4),(1,.box 0 [.d (.i a0.Bits),.d (.i a0.Hashes),.d (.i a0.Salt),sl eB a0.B] 98)],[],5⟩) (pJ λx s=>LC a0 x s) () hd (via fJ hyJ rfl λg R h=>SR q4 g R h) rfl (λ_=>rfl) (λ_=>rfl) (λ_=>rfl) (λ_=>rfl) ?_ ?_ ?_ ?_
  ·intro s1 b7 s' hp l D0 As u4 m0 hd Ja ba;exact gb ba hd () trivial
  ·intro s1 b7 s' hp l D0 As u4 m0 hd Jb bb Jr br;obtain⟨z1,q5,hp⟩:=AnZ.1 hp;subst hp;unfold LC at q5;dsimp only at q5;refine oB q5 λ_ q6 q5=>gx eB 1 q6<|gi q5 ?_ ?_<;>intro _ q5
   ·obtain rfl:=AnO q5;exact Ajr br hd ((),1) rfl
   obtain rfl:=AnO q5;exact gb bb hd () rfl
  ·intro x hx;obtain⟨hj1,rfl⟩:=Ac0 hx;rw[AnT hj1]at hm;exact AnO hm▸gE
  intro y hy;obtain⟨hj1,rfl⟩:=AcZ hy;rw[AnW hj1]at hm;exact AnO hm▸gE
def OH (a0:g_api_Sieve)(k0:Int):Option (Bool×Int):=Ab (MQ a0 k0) λx1=>some ((!x1),k0)
theorem Uh {a0 k0 r}(hm:OH a0 k0=some r):Sp prog 86 [ag (Ah a0),.pb 0 0] [.box 0 [.d (.i k0)] 3] 1 (is (.d (.t r.1)) [.box 0 [.d (.i r.2)] 3] 1):=by
 refine sq ?_;intros;refine gA hm TS λ_ q1 hm=> ?_;exact AnO hm▸gE
def Ep (a0:List g_api_Sieve)(i1:Int)(s1:Int):Option ((Int)⊕(Int×Int)):=Ab (idx a0 (i1:Int)) λx3=>Ab (OH x3 s1) λx4=>if x4.1=true then some (.inr ((i1:Int),x4.2))else some (.inl x4.2)
def CI (a0:List g_api_Sieve)(k0:Int):Option (Int×Int):=Ab (CE (Ep a0) a0.length 0 k0) λx1=>match x1 with| .inr r=>some r| .inl y1=>some ((-1),y1)
theorem E4 {a0 k0 r}(hm:CI a0 k0=some r):Sp prog 85 [sl Ah a0,.fn (.func 86) [] [.pb 0 0]] [.box 0 [.d (.i k0)] 3] 1 (is (.d (.i r.1)) [.box 0 [.d (.i r.2)] 3] 1):=by
 refine sq ?_;intros;refine oB hm λ_ q1 hm=>Jj 0 (E:=Ah) (xs:=a0) 6 λhle1=>gF (EN _ _ _) q1 (λp0 p=>⟨[(0,sl Ah a0),(1,.fn (.func 86) [] [.pb 0 0]),(7,.d (.i (a0.length:Int))),(8,.d (.i p0))],[(0,.box 0 [.d (.i p)] 3)],[],1⟩) λi1 s1 Jl bl1=>cN bl1 (a0.length:Int) (λ_ q4 bl1=> ?_) λe=> ?_
 ·refine oB q4 λ_ q6 q4=>gx Ah 4 q6<|gD q4 Uh λ_ q7 q4=>gi q4 ?_ ?_<;>intro _ q4
  ·obtain rfl:=nT bl1 q4;exact AnO hm▸gE
  exact gT bl1 hle1 q4
 subst e;let y1:=s1;exact AnO hm▸gE
def m_cascade_Has (a0:g_api_Cascade)(a1:Int):Option Bool:=Ab (B2 a0) λx1=>if(x1 !=0)=true then some false else Ab (CI a0.Levels a1) λx2=>Ab (if(decide (x2.1<0))=true then some (a0.Levels.length:Int)else some x2.1) λx3=>some ((KV x3 1)==1)
theorem Xy {a0 a1 r}(hm:m_cascade_Has a0 a1=some r):Sf prog 28 [ag (B5 a0),.d (.i a1)] (.d (.t r)):=by
 refine sq λD0 As u4 m0 hd=>gA hm Kh λ_ q1 hm=>gi hm ?_ ?_<;>intro _ hm
 ·exact AnO hm▸gE
 refine gD hm E4 λx2 q2 hm=>oB hm λx3 q3 hm=>gj (λ(_:Unit)=>⟨[(5,.d (.i x3)),(3,.pb 1 0),(2,.pb 0 0)],[(0,.box 1 [.d (.i x2.2)] 3),(1,.box 0 [.d (.i a0.Day),sl Ah a0.Levels] 29)],[],2⟩) (λ_=>True) (λJp bk1=> ?_) λ_ _=> ?_
 ·refine gi q3 ?_ ?_<;>intro _ q3
  ·obtain rfl:=AnO q3;exact gb bk1 hd () trivial
  obtain rfl:=AnO q3;exact gb bk1 hd () trivial
 exact AnO hm▸gE
def Mc (k0:g_api_Client)(k1:g_api_Offer):Option (Int×g_api_Client×g_api_Offer):=Ab (idx k1.Path 0) λx1=>Ab (m_cascade_Has k0.Cascade x1.Serial) λx2=>if x2=true then some (270,k0,k1)else some (0,k0,k1)
theorem RN {k0 k1 r}(hm:Mc k0 k1=some r):Sp prog 70 [.pb 0 0,.pb 1 0] [.box 0 [.d (.s k0.Who),sl Ac k0.Roots,sl Ai k0.Logs,sl Ae k0.Pool.L,.d (.i k0.Cascade.Day),sl Ah k0.Cascade.Levels,.d (.i k0.View)] 31,.box 1 [sl Ac k1.Path,sl AQ k1.Where] 52] 2 (is (.d (.i r.1)) [.box 0 [.d (.s r.2.1.Who),.d (.sl _ Ac r.2.1.Roots),.d (.sl _ Ai r.2.1.Logs),.d (.sl _ Ae r.2.1.Pool.L),.d (.i r.2.1.Cascade.Day),.d (.sl _ Ah r.2.1.Cascade.Levels),.d (.i r.2.1.View)] 31,.box 1 [.d (.sl _ Ac r.2.2.Path),.d (.sl _ AQ r.2.2.Where)] 52] 2):=by
 refine sq ?_;intros;refine oB hm λ_ q1 hm=>gx Ac 13 q1<|gA hm Xy λ_ q2 hm=>gi hm ?_ ?_<;>intro _ hm
 ·exact AnO hm▸gE
 exact AnO hm▸gE
def GV (i1:Int)(s1:ByteArray×(List g_api_Cert)×(List g_api_Key)×(List g_api_Head)×Int×(List g_api_Sieve)×Int×Int×(List g_api_Cert)×(List g_api_Place)×ByteArray×UInt64×UInt64×ByteArray×(List g_api_Cert)×(List g_api_Key)×(List g_api_Head)×Int×(List g_api_Sieve)×Int×(List g_api_Promise)):Option ((ByteArray×(List g_api_Cert)×(List g_api_Key)×(List g_api_Head)×Int×(List g_api_Sieve)×Int×Int×(List g_api_Cert)×(List g_api_Place)×ByteArray×UInt64×UInt64×ByteArray×(List g_api_Cert)×(List g_api_Key)×(List g_api_Head)×Int×(List g_api_Sieve)×Int×(List g_api_Promise))⊕(Int×g_api_Client×Int×g_api_Offer×ByteArray×(UInt64×UInt64)×Am×(List g_api_Promise))):=if i1=0 then Ab (Mi (⟨s1.1,s1.2.1,s1.2.2.1,(⟨s1.2.2.2.1⟩:g_api_Pool),(⟨s1.2.2.2.2.1,s1.2.2.2.2.2.1⟩:g_api_Cascade),s1.2.2.2.2.2.2.1⟩:g_api_Client)) λx3=>if(x3.1 !=0)=true then some (.inr (x3.1,x3.2,s1.2.2.2.2.2.2.2.1,(⟨s1.2.2.2.2.2.2.2.2.1,s1.2.2.2.2.2.2.2.2.2.1⟩:g_api_Offer),s1.2.2.2.2.2.2.2.2.2.2.1,(s1.2.2.2.2.2.2.2.2.2.2.2.1,s1.2.2.2.2.2.2.2.2.2.2.2.2.1),(⟨(⟨s1.2.2.2.2.2.2.2.2.2.2.2.2.2.1,s1.2.2.2.2.2.2.2.2.2.2.2.2.2.2.1,s1.2.2.2.2.2.2.2.2.2.2.2.2.2.2.2.1,(⟨s1.2.2.2.2.2.2.2.2.2.2.2.2.2.2.2.2.1⟩:g_api_Pool),(⟨s1.2.2.2.2.2.2.2.2.2.2.2.2.2.2.2.2.2.1,s1.2.2.2.2.2.2.2.2.2.2.2.2.2.2.2.2.2.2.1⟩:g_api_Cascade),s1.2.2.2.2.2.2.2.2.2.2.2.2.2.2.2.2.2.2.2.1⟩:g_api_Client)⟩:Am),s1.2.2.2.2.2.2.2.2.2.2.2.2.2.2.2.2.2.2.2.2))else some (.inl (x3.2.Who,x3.2.Roots,x3.2.Logs,x3.2.Pool.L,x3.2.Cascade.Day,x3.2.Cascade.Levels,x3.2.View,s1.2.2.2.2.2.2.2.1,s1.2.2.2.2.2.2.2.2.1,s1.2.2.2.2.2.2.2.2.2.1,s1.2.2.2.2.2.2.2.2.2.2.1,s1.2.2.2.2.2.2.2.2.2.2.2.1,s1.2.2.2.2.2.2.2.2.2.2.2.2.1,s1.2.2.2.2.2.2.2.2.2.2.2.2.2.1,s1.2.2.2.2.2.2.2.2.2.2.2.2.2.2.1,s1.2.2.2.2.2.2.2.2.2.2.2.2.2.2.2.1,s1.2.2.2.2.2.2.2.2.2.2.2.2.2.2.2.2.1,s1.2.2.2.2.2.2.2.2.2.2.2.2.2.2.2.2.2.1,s1.2.2.2.2.2.2.2.2.2.2.2.2.2.2.2.2.2.2.1,s1.2.2.2.2.2.2.2.2.2.2.2.2.2.2.2.2.2.2.2.1,s1.2.2.2.2.2.2.2.2.2.2.2.2.2.2.2.2.2.2.2.2))else if i1=1 then Ab (Mh s1.2.2.2.2.2.2.2.1 (⟨s1.1,s1.2.1,s1.2.2.1,(⟨s1.2.2.2.1⟩:g_api_Pool),(⟨s1.2.2.2.2.1,s1.2.2.2.2.2.1⟩:g_api_Cascade),s1.2.2.2.2.2.2.1⟩:g_api_Client) (⟨s1.2.2.2.2.2.2.2.2.1,s1.2.2.2.2.2.2.2.2.2.1⟩:g_api_Offer) s1.2.2.2.2.2.2.2.2.2.2.1) λx4=>if(x4.1 !=0)=true then some (.inr (x4.1,x4.2.2.1,x4.2.1,x4.2.2.2.1,x4.2.2.2.2,(s1.2.2.2.2.2.2.2.2.2.2.2.1,s1.2.2.2.2.2.2.2.2.2.2.2.2.1),(⟨(⟨s1.2.2.2.2.2.2.2.2.2.2.2.2.2.1,s1.2.2.2.2.2.2.2.2.2.2.2.2.2.2.1,s1.2.2.2.2.2.2.2.2.2.2.2.2.2.2.2.1,(⟨s1.2.2.2.2.2.2.2.2.2.2.2.2.2.2.2.2.1⟩:g_api_Pool),(⟨s1.2.2.2.2.2.2.2.2.2.2.2.2.2.2.2.2.2.1,s1.2.2.2.2.2.2.2.2.2.2.2.2.2.2.2.2.2.2.1⟩:g_api_Cascade),s1.2.2.2.2.2.2.2.2.2.2.2.2.2.2.2.2.2.2.2.1⟩:g_api_Client)⟩:Am),s1.2.2.2.2.2.2.2.2.2.2.2.2.2.2.2.2.2.2.2.2))else some (.inl (x4.2.2.1.Who,x4.2.2.1.Roots,x4.2.2.1.Logs,x4.2.2.1.Pool.L,x4.2.2.1.Cascade.Day,x4.2.2.1.Cascade.Levels,x4.2.2.1.View,x4.2.1,x4.2.2.2.1.Path,x4.2.2.2.1.Where,x4.2.2.2.2,s1.2.2.2.2.2.2.2.2.2.2.2.1,s1.2.2.2.2.2.2.2.2.2.2.2.2.1,s1.2.2.2.2.2.2.2.2.2.2.2.2.2.1,s1.2.2.2.2.2.2.2.2.2.2.2.2.2.2.1,s1.2.2.2.2.2.2.2.2.2.2.2.2.2.2.2.1,s1.2.2.2.2.2.2.2.2.2.2.2.2.2.2.2.2.1,s1.2.2.2.2.2.2.2.2.2.2.2.2.2.2.2.2.2.1,s1.2.2.2.2.2.2.2.2.2.2.2.2.2.2.2.2.2.2.1,s1.2.2.2.2.2.2.2.2.2.2.2.2.2.2.2.2.2.2.2.1,s1.2.2.2.2.2.2.2.2.2.2.2.2.2.2.2.2.2.2.2.2))else if i1=2 then Ab (Mg (⟨s1.2.2.2.2.2.2.2.2.1,s1.2.2.2.2.2.2.2.2.2.1⟩:g_api_Offer) (s1.2.2.2.2.2.2.2.2.2.2.2.1,s1.2.2.2.2.2.2.2.2.2.2.2.2.1)) λx5=>if(x5.1 !=0)=true then some (.inr (x5.1,(⟨s1.1,s1.2.1,s1.2.2.1,(⟨s1.2.2.2.1⟩:g_api_Pool),(⟨s1.2.2.2.2.1,s1.2.2.2.2.2.1⟩:g_api_Cascade),s1.2.2.2.2.2.2.1⟩:g_api_Client),s1.2.2.2.2.2.2.2.1,x5.2.1,s1.2.2.2.2.2.2.2.2.2.2.1,x5.2.2,(⟨(⟨s1.2.2.2.2.2.2.2.2.2.2.2.2.2.1,s1.2.2.2.2.2.2.2.2.2.2.2.2.2.2.1,s1.2.2.2.2.2.2.2.2.2.2.2.2.2.2.2.1,(⟨s1.2.2.2.2.2.2.2.2.2.2.2.2.2.2.2.2.1⟩:g_api_Pool),(⟨s1.2.2.2.2.2.2.2.2.2.2.2.2.2.2.2.2.2.1,s1.2.2.2.2.2.2.2.2.2.2.2.2.2.2.2.2.2.2.1⟩:g_api_Cascade),s1.2.2.2.2.2.2.2.2.2.2.2.2.2.2.2.2.2.2.2.1⟩:g_api_Client)⟩:Am),s1.2.2.2.2.2.2.2.2.2.2.2.2.2.2.2.2.2.2.2.2))else some (.inl (s1.1,s1.2.1,s1.2.2.1,s1.2.2.2.1,s1.2.2.2.2.1,s1.2.2.2.2.2.1,s1.2.2.2.2.2.2.1,s1.2.2.2.2.2.2.2.1,x5.2.1.Path,x5.2.1.Where,s1.2.2.2.2.2.2.2.2.2.2.1,x5.2.2.1,x5.2.2.2,s1.2.2.2.2.2.2.2.2.2.2.2.2.2.1,s1.2.2.2.2.2.2.2.2.2.2.2.2.2.2.1,s1.2.2.2.2.2.2.2.2.2.2.2.2.2.2.2.1,s1.2.2.2.2.2.2.2.2.2.2.2.2.2.2.2.2.1,s1.2.2.2.2.2.2.2.2.2.2.2.2.2.2.2.2.2.1,s1.2.2.2.2.2.2.2.2.2.2.2.2.2.2.2.2.2.2.1,s1.2.2.2.2.2.2.2.2.2.2.2.2.2.2.2.2.2.2.2.1,s1.2.2.2.2.2.2.2.2.2.2.2.2.2.2.2.2.2.2.2.2))else if i1=3 then Ab (Mf (⟨(⟨s1.2.2.2.2.2.2.2.2.2.2.2.2.2.1,s1.2.2.2.2.2.2.2.2.2.2.2.2.2.2.1,s1.2.2.2.2.2.2.2.2.2.2.2.2.2.2.2.1,(⟨s1.2.2.2.2.2.2.2.2.2.2.2.2.2.2.2.2.1⟩:g_api_Pool),(⟨s1.2.2.2.2.2.2.2.2.2.2.2.2.2.2.2.2.2.1,s1.2.2.2.2.2.2.2.2.2.2.2.2.2.2.2.2.2.2.1⟩:g_api_Cascade),s1.2.2.2.2.2.2.2.2.2.2.2.2.2.2.2.2.2.2.2.1⟩:g_api_Client)⟩:Am) (⟨s1.2.2.2.2.2.2.2.2.1,s1.2.2.2.2.2.2.2.2.2.1⟩:g_api_Offer) (s1.2.2.2.2.2.2.2.2.2.2.2.1,s1.2.2.2.2.2.2.2.2.2.2.2.2.1) s1.2.2.2.2.2.2.2.2.2.2.2.2.2.2.2.2.2.2.2.2) λx6=>if(x6.1 !=0)=true then some (.inr (x6.1,(⟨s1.1,s1.2.1,s1.2.2.1,(⟨s1.2.2.2.1⟩:g_api_Pool),(⟨s1.2.2.2.2.1,s1.2.2.2.2.2.1⟩:g_api_Cascade),s1.2.2.2.2.2.2.1⟩:g_api_Client),s1.2.2.2.2.2.2.2.1,x6.2.2.1,s1.2.2.2.2.2.2.2.2.2.2.1,x6.2.2.2.1,x6.2.1,x6.2.2.2.2))else some (.inl (s1.1,s1.2.1,s1.2.2.1,s1.2.2.2.1,s1.2.2.2.2.1,s1.2.2.2.2.2.1,s1.2.2.2.2.2.2.1,s1.2.2.2.2.2.2.2.1,x6.2.2.1.Path,x6.2.2.1.Where,s1.2.2.2.2.2.2.2.2.2.2.1,x6.2.2.2.1.1,x6.2.2.2.1.2,x6.2.1.Client.Who,x6.2.1.Client.Roots,x6.2.1.Client.Logs,x6.2.1.Client.Pool.L,x6.2.1.Client.Cascade.Day,x6.2.1.Client.Cascade.Levels,x6.2.1.Client.View,x6.2.2.2.2))else if i1=4 then Ab (Me s1.2.2.2.2.2.2.2.2.2.2.2.2.2.2.2.2.2.2.2.2 (⟨(⟨s1.2.2.2.2.2.2.2.2.2.2.2.2.2.1,s1.2.2.2.2.2.2.2.2.2.2.2.2.2.2.1,s1.2.2.2.2.2.2.2.2.2.2.2.2.2.2.2.1,(⟨s1.2.2.2.2.2.2.2.2.2.2.2.2.2.2.2.2.1⟩:g_api_Pool),(⟨s1.2.2.2.2.2.2.2.2.2.2.2.2.2.2.2.2.2.1,s1.2.2.2.2.2.2.2.2.2.2.2.2.2.2.2.2.2.2.1⟩:g_api_Cascade),s1.2.2.2.2.2.2.2.2.2.2.2.2.2.2.2.2.2.2.2.1⟩:g_api_Client)⟩:Am) (s1.2.2.2.2.2.2.2.2.2.2.2.1,s1.2.2.2.2.2.2.2.2.2.2.2.2.1) (⟨s1.2.2.2.2.2.2.2.2.1,s1.2.2.2.2.2.2.2.2.2.1⟩:g_api_Offer)) λx7=>if(x7.1 !=0)=true then some (.inr (x7.1,(⟨s1.1,s1.2.1,s1.2.2.1,(⟨s1.2.2.2.1⟩:g_api_Pool),(⟨s1.2.2.2.2.1,s1.2.2.2.2.2.1⟩:g_api_Cascade),s1.2.2.2.2.2.2.1⟩:g_api_Client),s1.2.2.2.2.2.2.2.1,x7.2.2.2.2,s1.2.2.2.2.2.2.2.2.2.2.1,x7.2.2.2.1,x7.2.2.1,x7.2.1))else some (.inl (s1.1,s1.2.1,s1.2.2.1,s1.2.2.2.1,s1.2.2.2.2.1,s1.2.2.2.2.2.1,s1.2.2.2.2.2.2.1,s1.2.2.2.2.2.2.2.1,x7.2.2.2.2.Path,x7.2.2.2.2.Where,s1.2.2.2.2.2.2.2.2.2.2.1,x7.2.2.2.1.1,x7.2.2.2.1.2,x7.2.2.1.Client.Who,x7.2.2.1.Client.Roots,x7.2.2.1.Client.Logs,x7.2.2.1.Client.Pool.L,x7.2.2.1.Client.Cascade.Day,x7.2.2.1.Client.Cascade.Levels,x7.2.2.1.Client.View,x7.2.1))else Ab (Mc (⟨s1.1,s1.2.1,s1.2.2.1,(⟨s1.2.2.2.1⟩:g_api_Pool),(⟨s1.2.2.2.2.1,s1.2.2.2.2.2.1⟩:g_api_Cascade),s1.2.2.2.2.2.2.1⟩:g_api_Client) (⟨s1.2.2.2.2.2.2.2.2.1,s1.2.2.2.2.2.2.2.2.2.1⟩:g_api_Offer)) λx8=>if(x8.1 !=0)=true then some (.inr (x8.1,x8.2.1,s1.2.2.2.2.2.2.2.1,x8.2.2,s1.2.2.2.2.2.2.2.2.2.2.1,(s1.2.2.2.2.2.2.2.2.2.2.2.1,s1.2.2.2.2.2.2.2.2.2.2.2.2.1),(⟨(⟨s1.2.2.2.2.2.2.2.2.2.2.2.2.2.1,s1.2.2.2.2.2.2.2.2.2.2.2.2.2.2.1,s1.2.2.2.2.2.2.2.2.2.2.2.2.2.2.2.1,(⟨s1.2.2.2.2.2.2.2.2.2.2.2.2.2.2.2.2.1⟩:g_api_Pool),(⟨s1.2.2.2.2.2.2.2.2.2.2.2.2.2.2.2.2.2.1,s1.2.2.2.2.2.2.2.2.2.2.2.2.2.2.2.2.2.2.1⟩:g_api_Cascade),s1.2.2.2.2.2.2.2.2.2.2.2.2.2.2.2.2.2.2.2.1⟩:g_api_Client)⟩:Am),s1.2.2.2.2.2.2.2.2.2.2.2.2.2.2.2.2.2.2.2.2))else some (.inl (x8.2.1.Who,x8.2.1.Roots,x8.2.1.Logs,x8.2.1.Pool.L,x8.2.1.Cascade.Day,x8.2.1.Cascade.Levels,x8.2.1.View,s1.2.2.2.2.2.2.2.1,x8.2.2.Path,x8.2.2.Where,s1.2.2.2.2.2.2.2.2.2.2.1,s1.2.2.2.2.2.2.2.2.2.2.2.1,s1.2.2.2.2.2.2.2.2.2.2.2.2.1,s1.2.2.2.2.2.2.2.2.2.2.2.2.2.1,s1.2.2.2.2.2.2.2.2.2.2.2.2.2.2.1,s1.2.2.2.2.2.2.2.2.2.2.2.2.2.2.2.1,s1.2.2.2.2.2.2.2.2.2.2.2.2.2.2.2.2.1,s1.2.2.2.2.2.2.2.2.2.2.2.2.2.2.2.2.2.1,s1.2.2.2.2.2.2.2.2.2.2.2.2.2.2.2.2.2.2.1,s1.2.2.2.2.2.2.2.2.2.2.2.2.2.2.2.2.2.2.2.1,s1.2.2.2.2.2.2.2.2.2.2.2.2.2.2.2.2.2.2.2.2))
def D1 (k0:g_api_Client)(k1:Int)(k2:g_api_Offer)(k3:ByteArray)(k4:UInt64×UInt64)(k5:Am)(k6:List g_api_Promise):Option (Int×g_api_Client×Int×g_api_Offer×ByteArray×(UInt64×UInt64)×Am×(List g_api_Promise)):=Ab (CE GV 6 0 (k0.Who,k0.Roots,k0.Logs,k0.Pool.L,k0.Cascade.Day,k0.Cascade.Levels,k0.View,k1,k2.Path,k2.Where,k3,k4.1,k4.2,k5.Client.Who,k5.Client.Roots,k5.Client.Logs,k5.Client.Pool.L,k5.Client.Cascade.Day,k5.Client.Cascade.Levels,k5.Client.View,k6)) λx1=>match x1 with| .inr r=>some r| .inl y1=>some (0,(⟨y1.1,y1.2.1,y1.2.2.1,(⟨y1.2.2.2.1⟩:g_api_Pool),(⟨y1.2.2.2.2.1,y1.2.2.2.2.2.1⟩:g_api_Cascade),y1.2.2.2.2.2.2.1⟩:g_api_Client),y1.2.2.2.2.2.2.2.1,(⟨y1.2.2.2.2.2.2.2.2.1,y1.2.2.2.2.2.2.2.2.2.1⟩:g_api_Offer),y1.2.2.2.2.2.2.2.2.2.2.1,(y1.2.2.2.2.2.2.2.2.2.2.2.1,y1.2.2.2.2.2.2.2.2.2.2.2.2.1),(⟨(⟨y1.2.2.2.2.2.2.2.2.2.2.2.2.2.1,y1.2.2.2.2.2.2.2.2.2.2.2.2.2.2.1,y1.2.2.2.2.2.2.2.2.2.2.2.2.2.2.2.1,(⟨y1.2.2.2.2.2.2.2.2.2.2.2.2.2.2.2.2.1⟩:g_api_Pool),(⟨y1.2.2.2.2.2.2.2.2.2.2.2.2.2.2.2.2.2.1,y1.2.2.2.2.2.2.2.2.2.2.2.2.2.2.2.2.2.2.1⟩:g_api_Cascade),y1.2.2.2.2.2.2.2.2.2.2.2.2.2.2.2.2.2.2.2.1⟩:g_api_Client)⟩:Am),y1.2.2.2.2.2.2.2.2.2.2.2.2.2.2.2.2.2.2.2.2)
theorem HH {k0 k1 k2 k3 k4 k5 k6 r}(hm:D1 k0 k1 k2 k3 k4 k5 k6=some r):Sp prog 42 [.bs 0 0 6 6] [.box 0 [.fn (.func 58) [] [.pb 1 0],.fn (.func 59) [] [.pb 2 0,.pb 1 0,.pb 3 0,.pb 4 0],.fn (.func 61) [] [.pb 3 0,.pb 5 0],.fn (.func 62) [] [.pb 6 0,.pb 3 0,.pb 5 0,.pb 7 0],.fn (.func 64) [] [.pb 7 0,.pb 6 0,.pb 5 0,.pb 3 0],.fn (.func 70) [] [.pb 1 0,.pb 3 0]] 106,.box 1 [.d (.s k0.Who),sl Ac k0.Roots,sl Ai k0.Logs,sl Ae k0.Pool.L,.d (.i k0.Cascade.Day),sl Ah k0.Cascade.Levels,.d (.i k0.View)] 31,.box 2 [.d (.i k1)] 3,.box 3 [sl Ac k2.Path,sl AQ k2.Where] 52,.box 4 [.d (.s k3)] 9,.box 5 [.d (.u k4.1),.d (.u k4.2)] 34,.box 6 [.d (.s k5.Client.Who),sl Ac k5.Client.Roots,sl Ai k5.Client.Logs,sl Ae k5.Client.Pool.L,.d (.i k5.Client.Cascade.Day),sl Ah k5.Client.Cascade.Levels,.d (.i k5.Client.View)] 110,.box 7 [sl Ad k6] 57] 8 (is (.d (.i r.1)) [.box 1 [.d (.s r.2.1.Who),.d (.sl _ Ac r.2.1.Roots),.d (.sl _ Ai r.2.1.Logs),.d (.sl _ Ae r.2.1.Pool.L),.d (.i r.2.1.Cascade.Day),.d (.sl _ Ah r.2.1.Cascade.Levels),.d (.i r.2.1.View)] 31,.box 2 [.d (.i r.2.2.1)] 3,.box 3 [.d (.sl _ Ac r.2.2.2.1.Path),.d (.sl _ AQ r.2.2.2.1.Where)] 52,.box 4 [.d (.s r.2.2.2.2.1)] 9,.box 5 [.d (.u r.2.2.2.2.2.1.1),.d (.u r.2.2.2.2.2.1.2)] 34,.box 6 [.d (.s r.2.2.2.2.2.2.1.Client.Who),.d (.sl _ Ac r.2.2.2.2.2.2.1.Client.Roots),.d (.sl _ Ai r.2.2.2.2.2.2.1.Client.Logs),.d (.sl _ Ae r.2.2.2.2.2.2.1.Client.Pool.L),.d (.i r.2.2.2.2.2.2.1.Client.Cascade.Day),.d (.sl _ Ah r.2.2.2.2.2.2.1.Client.Cascade.Levels),.d (.i r.2.2.2.2.2.2.1.Client.View)] 110,.box 7 [.d (.sl _ Ad r.2.2.2.2.2.2.2)] 57] 8):=by
 refine sq ?_;intros;refine oB hm λ_ q1 hm=>gF (EN _ 6 _) q1 (λp0 (p_0,p_1,p_2,p_3,p_4,p_5,p_6,p_7,p_8,p_9,p_10,p_11,p_12,p_13,p_14,p_15,p_16,p_17,p_18,p_19,p_20)=>⟨[(6,.bs 0 0 6 6),(7,.d (.i 6)),(8,.d (.i p0))],[(0,.box 0 [.fn (.func 58) [] [.pb 1 0],.fn (.func 59) [] [.pb 2 0,.pb 1 0,.pb 3 0,.pb 4 0],.fn (.func 61) [] [.pb 3 0,.pb 5 0],.fn (.func 62) [] [.pb 6 0,.pb 3 0,.pb 5 0,.pb 7 0],.fn (.func 64) [] [.pb 7 0,.pb 6 0,.pb 5 0,.pb 3 0],.fn (.func 70) [] [.pb 1 0,.pb 3 0]] 106),(1,.box 1 [.d (.s p_0),sl Ac p_1,sl Ai p_2,sl Ae p_3,.d (.i p_4),sl Ah p_5,.d (.i p_6)] 31),(2,.box 2 [.d (.i p_7)] 3),(3,.box 3 [sl Ac p_8,sl AQ p_9] 52),(4,.box 4 [.d (.s p_10)] 9),(5,.box 5 [.d (.u p_11),.d (.u p_12)] 34),(6,.box 6 [.d (.s p_13),sl Ac p_14,sl Ai p_15,sl Ae p_16,.d (.i p_17),sl Ah p_18,.d (.i p_19)] 110),(7,.box 7 [sl Ad p_20] 57)],[],8⟩) λi1 s1 Jl bl1=>cN bl1 (6:Int) (λ_ q4 bl1=> ?_) λe=> ?_
 ·obtain rfl|rfl|rfl|rfl|rfl|rfl:i1=0\/i1=1\/i1=2\/i1=3\/i1=4\/i1=5:=by have h:=bl1.1.1; change i1<6 at h; omega
  ·refine gD q4 RS λ_ q6 q4=>gi q4 ?_ ?_<;>intro _ q4
   ·obtain rfl:=nT bl1 q4;exact AnO hm▸gE
   exact gT bl1 lk q4
  ·refine gD q4 RR λ_ q7 q4=>gi q4 ?_ ?_<;>intro _ q4
   ·obtain rfl:=nT bl1 q4;exact AnO hm▸gE
   exact gT bl1 lk q4
  ·refine gD q4 RQ λ_ q8 q4=>gi q4 ?_ ?_<;>intro _ q4
   ·obtain rfl:=nT bl1 q4;exact AnO hm▸gE
   exact gT bl1 lk q4
  ·refine gD q4 RP λ_ q9 q4=>gi q4 ?_ ?_<;>intro _ q4
   ·obtain rfl:=nT bl1 q4;exact AnO hm▸gE
   exact gT bl1 lk q4
  ·refine gD q4 RO λ_ q10 q4=>gi q4 ?_ ?_<;>intro _ q4
   ·obtain rfl:=nT bl1 q4;exact AnO hm▸gE
   exact gT bl1 lk q4
  refine gD q4 RN λ_ q11 q4=>gi q4 ?_ ?_<;>intro _ q4
  ·obtain rfl:=nT bl1 q4;exact AnO hm▸gE
  exact gT bl1 lk q4
 subst e;let y1:=s1;exact AnO hm▸gE
def BD (a0:g_api_Client)(a1:g_api_Offer)(a2:ByteArray)(a3:Int):Option Int:=Ab (D1 a0 a3 a1 a2 (0,0) (⟨a0⟩:Am) ([]:List g_api_Promise)) λx1=>some x1.1
theorem FI {a0 a1 a2 a3 r}(hm:BD a0 a1 a2 a3=some r):Sf prog 23 [ag (A0 a0),ag (AbN a1),.d (.s a2),.d (.i a3)] (.d (.i r)):=by
 refine sq ?_;intros;refine gfs<|gD hm HH λ_ q1 hm=> ?_;exact AnO hm▸gE
def Wo (a0:UInt64):Option Bool:=bnd ((((a0.toNat:Int)==0)||(decide ((a0.toNat:Int)>=1152921504606845789)))) λx1=>some x1
theorem Adr {a0 r}(hm:Wo a0=some r):Sf prog 161 [.d (.u a0)] (.d (.t r)):=by
 refine sq ?_;intros;refine bE hm ?_;intro _ hm;exact AnO hm▸gE
def JH (a0:UInt64):Option (UInt64×Int):=Ab (Wo a0) λx1=>if x1=true then some (0,1)else Ab (DZ a0) λx2=>some (x2,0)
theorem My {a0 r}(hm:JH a0=some r):Sf prog 88 [.d (.u a0)] (.tup [.d (.u r.1),.d (.i r.2)]):=by
 refine sq ?_;intros;refine gA hm Adr λ_ q1 hm=>gi hm ?_ ?_<;>intro _ hm
 ·exact AnO hm▸gE
 refine gA hm MF λ_ q2 hm=> ?_;exact AnO hm▸gE
def Qa (a0:ByteArray)(a1:List (List UInt8)):Option UInt64:=Ab (C2 a0 a1) λx1=>Ab (IF x1 1152921504606845788) λx2=>some (x2+1)
theorem TR {a0 a1 r}(hm:Qa a0 a1=some r):Sf prog 163 [.d (.s a0),sl (eL eB) a1] (.d (.u r)):=by
 refine sq ?_;intros;refine gA hm EK λ_ q1 hm=>gA hm OV λ_ q2 hm=> ?_;exact AnO hm▸gE
def JG (a0:List UInt8):Option UInt64:=Ab (Qa (⟨#[115,101,99,114,101,116]⟩:ByteArray) ([a0]:List (List UInt8))) λx1=>some x1
theorem Mx {a0 r}(hm:JG a0=some r):Sf prog 89 [sl eB a0] (.d (.u r)):=by
 refine sq ?_;intros;refine gq (eL eB) 1 [a0]<|gA hm TR λ_ q1 hm=> ?_;exact AnO hm▸gE
def IH (a0:UInt64)(a1:UInt64)(a2:UInt64):Option UInt64:=if a0≠0 then if a0≠0 then Ab (Hv (Lx (a1%a0) (a2%a0)) ((a1%a0)+(a2%a0)) a0) λx1=>some x1 else none else none
theorem RL {a0 a1 a2 r}(hm:IH a0 a1 a2=some r):Sf prog 259 [.d (.u a0),.d (.u a1),.d (.u a2)] (.d (.u r)):=by
 refine sq ?_;intros;unfold IH at hm;obtain⟨q1,hm⟩:=A2 hm;refine AcV (d:= .u a0) (r:= .u (a1%a0)) (λh=>q1) ?_;obtain⟨q2,hm⟩:=A2 hm;refine AcV (d:= .u a0) (r:= .u (a2%a0)) (λh=>q2)<|AkX (p:=(a1%a0)) (q:=(a2%a0)) func305<|gA hm Sw λ_ q3 hm=> ?_;exact AnO hm▸gE
def Rm (a0:UInt64)(a1:UInt64):Option UInt64:=Ab (IH 1152921504606845789 a0 a1) λx1=>some x1
theorem Xu {a0 a1 r}(hm:Rm a0 a1=some r):Sf prog 186 [.d (.u a0),.d (.u a1)] (.d (.u r)):=by
 refine sq ?_;intros;refine gA hm RL λ_ q1 hm=> ?_;exact AnO hm▸gE
def Rk (a0:UInt64)(a1:UInt64):Option UInt64:=Ab (CV 1152921504606845789 a0 a1) λx1=>some x1
theorem Xt {a0 a1 r}(hm:Rk a0 a1=some r):Sf prog 187 [.d (.u a0),.d (.u a1)] (.d (.u r)):=by
 refine sq ?_;intros;refine gA hm F9 λ_ q1 hm=> ?_;exact AnO hm▸gE
def Ko (a0:UInt64)(a1:List UInt8):Option (g_api_Sig×Int):=Ab (JH a0) λx1=>if(x1.2 !=0)=true then some ((⟨0,0⟩:g_api_Sig),x1.2)else Ab (FN a0) λx2=>Ab (Qa (⟨#[110,111,110,99,101]⟩:ByteArray) ([x2,a1]:List (List UInt8))) λx3=>Ab (DZ x3) λx4=>Ab (Dd x4 x1.1 a1) λx5=>Ab (Rk x5 a0) λx6=>Ab (Rm x6 x3) λx7=>some ((⟨x5,x7⟩:g_api_Sig),0)
theorem Mw {a0 a1 r}(hm:Ko a0 a1=some r):Sf prog 101 [.d (.u a0),sl eB a1] (.tup [ag (Jm r.1),.d (.i r.2)]):=by
 refine sq ?_;intros;refine gA hm My λ_ q1 hm=>gi hm ?_ ?_<;>intro _ hm
 ·exact AnO hm▸gE
 refine gD hm NT λx2 q2 hm=>Yo (k:=1) (eL eB) ([x2,a1]:List (List UInt8)) (λ_=>rfl)<|gA hm TR λ_ q3 hm=>gA hm MF λ_ q4 hm=>gA hm Nu λ_ q5 hm=>gA hm Xt λ_ q6 hm=>gA hm Xu λ_ q7 hm=> ?_;exact AnO hm▸gE
def LF (a0:g_api_Cert)(a1:UInt8):Option (g_api_Cert×Bool):=Ab (Qj a0) λx1=>Ab (JG ([a1]:List UInt8)) λx2=>Ab (Ko x2 x1.1) λx3=>some ((⟨a0.Serial,a0.Issuer,a0.Subject,a0.Key,a0.Names,a0.From,a0.Until,a0.Ca,a0.Depth,a0.Permit,a0.Proms,x3.1⟩:g_api_Cert),((x1.2==0)&&(x3.2==0)))
theorem Pn {a0 a1 r}(hm:LF a0 a1=some r):Sf prog 90 [ag (Ac a0),.d (.b a1)] (.tup [ag (Ac r.1),.d (.t r.2)]):=by
 refine sq ?_;intros;refine gD hm Ug λ_ q1 hm=>gq eB 1 [a1]<|gA hm Mx λ_ q2 hm=>gD hm Mw λ_ q3 hm=> ?_;exact AnO hm▸gE
def Nc (a0:List UInt8):Option Bool:=bnd (((decide ((a0.length:Int)>0))&&(decide ((a0.length:Int)<=2048)))) λx1=>some x1
theorem QL {a0 r}(hm:Nc a0=some r):Sf prog 165 [sl eB a0] (.d (.t r)):=by
 refine sq ?_;intros;refine bE hm ?_;intro _ hm;exact AnO hm▸gE
def Bh (a1:Int):Option (List g_api_Leaf):=Ab (if(decide (a1<0))=true then none else some ()) λx1=>Ab (bnd ((w64 (a1-(w64 (0-((0:Nat):Int)))))) λx3=>if(decide (x3>0))=true then if 0<=x3/\x3*32<=140737488355328/\x3<=140737488355328 then some ([]:List g_api_Leaf)else none else some ([]:List g_api_Leaf)) λx2=>some x2
theorem Hf {m As w a1 r}(S:St m (As) w)(hm:Bh a1=some r):
  C0 Tryz.prog 309 #[.slice none 0 0,vI a1] w λv w'=> ∃(M:Mem),m<=M/\∃(rv0:Value) (rc0:List Value),St M ((row 2 rv0 rc0 r.length)::As) w'/\v=rv0/\Cl M rc0 r:=by
 unfold Bh at hm;have L0:=Mem.rfl' m;refine Rx (args:=[.slice none 0 0,vI a1]) Tryz.func309 rfl Tryz.ntmps309 (An5 rfl)<|AL<|Aw<|Gy (v:= .slice none 0 0) rfl<|AF<|nrm ?_;obtain⟨x1,q1,hm⟩:=Ag hm;have L1:=Mem.rfl' m;refine AL<|Mv [5,6,7] (λf' w'=> ∃(M1:Mem),m<=M1/\St M1 (As) w'/\Tw f' []) ?_ ?_
 ·refine AL<|Aw<|AT (v:=vI a1) rfl<|Ae9 (m:=a1) (n:=0) rfl rfl<|AF<|nrm<|J8 (t:=(decide (a1<0))) rfl (λhc1=> ?_) (λhc1=> ?_)
  ·replace q1:=ifT hc1 q1;cases q1
  replace q1:=ifF hc1 q1;refine F8<|nrm ?_;obtain rfl:=AnO q1;exact⟨Wj,m,L1,S,trivial⟩
 rintro f1 w1 ho ⟨m1,l1,S1,ha⟩;obtain⟨u1,rfl⟩:=No (N:=27) ho ha;replace L0:=Mem.tr L0 l1;clear S;obtain⟨x2,q2,hm⟩:=Ag hm;have L2:=Mem.rfl' m1;refine AL<|Mv [0,1,8,9,10,11,12,13,14,15,16,17,18,19,20,21,22,23,24,25] (λf' w'=> ∃(M2:Mem) (v1:Value) (c1:List Value),m1<=M2/\St M2 ((row 2 v1 c1 x2.length)::As) w'/\Cl M2 c1 x2/\Tw f' [(0,v1)]) ?_ ?_
 ·refine AL<|Aw<|AT (v:=vI a1) rfl<|AT (v:= .slice none 0 0) rfl<|O0 rfl Tryz.underlying79<|AT (v:= .slice none 0 0) rfl<|Uw (n:=0) rfl Tryz.underlying79<|QY (m:=0) (n:=((0:Nat):Int)) rfl rfl<|QY (m:=a1) (n:=(w64 (0-((0:Nat):Int)))) rfl rfl ?_;obtain⟨x3,q3,q2⟩:=Ahq q2;refine Gy (v:=vI x3) (Aos (λz=>vI z) q3.symm)<|AF<|nrm<|AL<|Aw<|AT (v:=vI x3) rfl<|AdE (m:=x3) (n:=0) rfl rfl<|AF<|nrm ?_;refine J8 (t:=(decide (x3>0))) rfl (λhc2=> ?_) (λhc2=> ?_)
  ·replace q2:=ifT hc2 q2;refine Aw<|AT (v:= .slice none 0 0) rfl<|AT (v:= .slice none 0 0) rfl<|O0 rfl Tryz.underlying79<|Afd rfl Tryz.underlying79 Tryz.sizeOf222 rfl<|AT (v:=vI x3) rfl ?_;obtain⟨q4,q2⟩:=A2 q2;refine Afg (bytes:=32) (sz:=2) (k:=x3) (ti:=Tryz.t222) S1 rfl rfl q4 Tryz.underlying79 Tryz.underlying3 Tryz.type222 rfl rfl rfl rfl ?_;intro v2 c2 w2 S2;replace S2:St _ ((row 2 v2 c2 x3.toNat)::As) _:=S2;clear S1;refine AT (v:= .slice none 0 0) rfl<|Uw (n:=0) rfl Tryz.underlying79<|Acq (i:=0) S2 rfl rfl Tryz.underlying79 Tryz.sizeOf222 rfl (j:=0) rfl (Int.le_refl 0) (AoL _) ?_;intro v3 S3;rw[show c2.take ((0:Int).toNat*2)=[]from by simp]at S3;have h2:Cl m1 [] ([]:List g_api_Leaf):=Cl.nil;replace S3:St _ ((row 2 v3 [] ([]:List g_api_Leaf).length)::As) _:=S3;clear S2;refine Gy (v:=v3) rfl<|AF<|nrm ?_;obtain rfl:=AnO q2;exact⟨Wj,m1,_,_,L2,S3,h2,⟨rfl,trivial⟩⟩
  replace q2:=ifF hc2 q2;refine F8<|nrm ?_;have S4:=St.rowNil S1 2;have h3:Cl m1 [] ([]:List g_api_Leaf):=Cl.nil;replace S4:St _ ((row 2 (.slice none 0 0) [] ([]:List g_api_Leaf).length)::As) _:=S4;clear S1;obtain rfl:=AnO q2;exact⟨Wj,m1,_,_,L2,S4,h3,⟨rfl,trivial⟩⟩
 rintro f2 w3 ho ⟨m2,v1,c1,l2,S5,h1,ha⟩;obtain⟨u2,rfl⟩:=No (N:=27) ho ha;replace L0:=Mem.tr L0 l2;clear S1;refine AL<|Aw<|AT (v:=v1) rfl<|Gy (v:=v1) rfl<|AF<|nrm<|J7<|UJ ?_;intro we hpd;replace S5:=St.pd S5 hpd;obtain rfl:=AnO hm;exact Aeo [_] rfl ⟨rfl,trivial⟩ ⟨_,L0,_,_,S5,rfl,h1⟩
theorem Hi {a1 r}(hm:Bh a1=some r):Sp prog 309 [.d (.v (.slice none 0 0)),.d (.i a1)] [] 0 (is (.ow 0) [.row 0 2 _ Ak r] 1):=
 gnl call309 Aeh (λS=>Hf S hm)
def GF (i1:Int)(x3:List g_api_Leaf)(s1:Int):Option (Int):=Ab (bnd ((w64 (s1+(x3.length:Int)))) λx5=>if(decide (x5<0))=true then none else some x5) λx4=>some x4
def GD (i2:Int)(x9:List g_api_Leaf)(s2:(List g_api_Leaf)):Option ((List g_api_Leaf)):=Ab (app 32 s2 x9) λx10=>some x10
def Cs (a0:List (List g_api_Leaf)):Option (List g_api_Leaf):=Ab (Ab (FE GF a0 0 0) λx2=>some x2) λx1=>Ab (Bh x1) λx6=>Ab (Ab (FE GD a0 0 x6) λx8=>some x8) λx7=>some x7
theorem HD {a0 r}(hm:Cs a0=some r):Sp prog 251 [sl (eL Ak) a0] [] 0 (is (.ow 0) [.row 0 2 _ Ak r] 1):=by
 refine sq ?_;intros;unfold Cs at hm;obtain⟨x1,q1,hm⟩:=Ag hm;refine oB q1 λ_ q2 q1=>Jj 0 (E:=(eL Ak)) (xs:=a0) 9 λhle1=>gF (E0 _ _ _) q2 (λp0 p=>⟨[(0,sl (eL Ak) a0),(3,.d (.i p)),(9,sl (eL Ak) a0),(10,.d (.i (a0.length:Int))),(11,.d (.i p0))],[],[],0⟩) λi1 s1 Jl bl1=>c0 bl1 (λ_ _ q6 q5 bl1=> ?_) λe=> ?_
 ·refine oB q5 λ_ q7 q5=>gx (eL Ak) 1 q6<|bE q7 ?_;intro _ q7;refine gi q7 ?_ ?_<;>intro _ q7
  ·cases q7
  obtain rfl:=AnO q7;exact gM bl1 hle1 q5
 subst e;obtain rfl:=AnO q1;refine gD hm Hi λ_ q9 hm=> ?_;obtain⟨x7,q10,hm⟩:=Ag hm;refine oB q10 λ_ q11 q10=>Jj 2 (E:=(eL Ak)) (xs:=a0) 25 λhle2=>gF (E0 _ _ _) q11 (λp0 p=>⟨[(6,.ow 0),(25,sl (eL Ak) a0),(26,.d (.i (a0.length:Int))),(27,.d (.i p0))],[(0,.row 0 2 _ Ak p)],[],1⟩) λi2 s2 Jl bl2=>c0 bl2 (λ_ _ q15 q14 bl2=> ?_) λe=> ?_
 ·exact gx (eL Ak) 1 q15<|oB q14 λ_ q16 q14=>gp Ak 2 q16<|gM bl2 hle2 q14
 subst e;obtain rfl:=AnO q10;exact AnO hm▸gE
def O3 (a0:g_api_Log):Option (List g_api_Leaf):=Ab (Cs ([a0.L,a0.Wait]:List (List g_api_Leaf))) λx1=>some x1
theorem RJ {a0 r}(hm:O3 a0=some r):Sp prog 166 [ag (Av a0)] [] 0 (is (.ow 0) [.row 0 2 _ Ak r] 1):=by
 refine sq ?_;intros;refine gq (eL Ak) 1 [a0.L,a0.Wait]<|gD hm HD λ_ q1 hm=> ?_;exact AnO hm▸gE
def UQ (i1:Int)(x4:g_api_Leaf)(s1:(List (ByteArray×Bool))):Option (((List (ByteArray×Bool)))⊕Int):=Ab (Nc x4.Body) λx5=>Ab (gu (!(!x5)) (Dq x4.At)) λx6=>if(((!x5)||(!x6))||(lkB s1 (bs x4.Body)))=true then some (.inr 1)else if(lkI s1 (bs x4.Body) 0).isNone=true then some (.inl (s1++[((bs x4.Body),true)]))else none
def UP (a0:g_api_Log)(i2:Int)(x8:Int)(s2:Int):Option ((Int)⊕Int):=if((decide (x8<=s2))||(decide (x8>=(a0.L.length:Int))))=true then some (.inr 1)else some (.inl x8)
def Hu (a0:g_api_Log):Option Int:=
 Ab (Dq a0.Id) λx1=>
 if(((((!x1)||((a0.Key.toNat:Int)==0))||(decide ((a0.Key.toNat:Int)>=1152921504606845789)))||(decide (a0.Delay<0)))||(decide (a0.Delay>1000)))=true then
  some 1
 else
 Ab (O3 a0) λx2=>
 Ab (F6 UQ x2 0 ([]:List (ByteArray×Bool))) λx3=>match x3 with
 | .inr r=>some r
 | .inl y1=>
 Ab (F6 (UP a0) a0.Hide 0 (-1)) λx7=>match x7 with
 | .inr r=>some r
 | .inl y3=>
 if(decide ((y1.length:Int)>256))=true then
  some 2
 else
 some 0
theorem I1 {a0 r}(hm:Hu a0=some r):Sf prog 111 [ag (Av a0)] (.d (.i r)):=by
 refine sq ?_;intros;refine gA hm EJ λ_ q1 hm=>gi hm ?_ ?_<;>intro _ hm
 ·exact AnO hm▸gE
 refine gmkm<|gD hm RJ λx2 q2 hm=>oB hm λ_ q3 hm=>Jj 0 (E:=Ak) (xs:=x2) 35 λhle1=>gF (ER _ _ _) q3 (λp0 p=>⟨[(1,.pb 0 0),(3,.ow 1),(35,sl Ak x2),(36,.d (.i (x2.length:Int))),(37,.d (.i p0)),(33,.ow 1)],[(0,.hp 1 (.mp p)),(1,.box 0 [.d (.i a0.Id),.d (.u a0.Key),.d (.i a0.Delay),sl Ak a0.L,sl eI a0.Hide,sl Ak a0.Wait] 82)],[],2⟩) λi1 s1 Jl bl1=>cR bl1 (λx4 _ q7 q6 bl1=> ?_) λe=> ?_
 ·refine gx Ak 2 q7<|gA q6 QL λ_ q8 q6=>oB q6 λ_ q9 q6=>gcH q9 EJ<|gbs (xs:=x4.Body)<|glk s1 (bs x4.Body)<|gi q6 ?_ ?_<;>intro _ q6
  ·obtain rfl:=nT bl1 q6;exact AnO hm▸gE
  refine gbs (xs:=x4.Body) ?_;obtain⟨q10,q6⟩:=A2 q6;exact gup q10<|gT bl1 hle1 q6
 subst e;let y1:=s1;refine oB hm λ_ q11 hm=>Jj 2 (E:=eI) (xs:=a0.Hide) 64 λhle2=>gF (ER _ _ _) q11 (λp0 p=>⟨[(1,.pb 0 0),(3,.ow 1),(6,.d (.i p)),(64,sl eI a0.Hide),(65,.d (.i (a0.Hide.length:Int))),(66,.d (.i p0)),(33,.ow 1)],[(0,.hp 1 (.mp y1)),(1,.box 0 [.d (.i a0.Id),.d (.u a0.Key),.d (.i a0.Delay),sl Ak a0.L,sl eI a0.Hide,sl Ak a0.Wait] 82)],[],2⟩) λi2 s2 Jl bl2=>cR bl2 (λ_ _ q15 q14 bl2=> ?_) λe=> ?_
 ·refine gx eI 1 q15<|gi q14 ?_ ?_<;>intro _ q14
  ·obtain rfl:=nT bl2 q14;exact AnO hm▸gE
  exact gT bl2 hle2 q14
 subst e;let y3:=s2;refine gln y1<|gi hm ?_ ?_<;>intro _ hm
 ·exact AnO hm▸gE
 exact AnO hm▸gE
def R4 (a0:Int)(a1:List UInt8)(a2:Int):Option (g_api_Log×Int):=Ab (JG a1) λx1=>Ab (Hu (⟨a0,x1,a2,[],[],[]⟩:g_api_Log)) λx2=>if(x2 !=0)=true then some ((⟨0,0,0,[],[],[]⟩:g_api_Log),1)else some ((⟨a0,x1,a2,[],[],[]⟩:g_api_Log),0)
theorem V6 {a0 a1 a2 r}(hm:R4 a0 a1 a2=some r):Sf prog 91 [.d (.i a0),sl eB a1,.d (.i a2)] (.tup [ag (Av r.1),.d (.i r.2)]):=by
 refine sq ?_;intros;refine gA hm Mx λ_ q1 hm=>gA hm I1 λ_ q2 hm=>gi hm ?_ ?_<;>intro _ hm
 ·exact AnO hm▸gE
 exact AnO hm▸gE
def Rn (a0:List UInt8)(a1:List UInt8):Option Bool:=some (eqS (bs a0) (bs a1))
theorem Xz {a0 a1 r}(hm:Rn a0 a1=some r):Sf prog 110 [sl eB a0,sl eB a1] (.d (.t r)):=by
 refine sq ?_;intros;refine gbs (xs:=a0)<|gbs (xs:=a1) ?_;exact AnO hm▸gE
def SH (a0:g_api_Leaf)(k0:List UInt8):Option (Bool×(List UInt8)):=Ab (Rn a0.Body k0) λx1=>some (x1,k0)
theorem Y9 {a0 k0 r}(hm:SH a0 k0=some r):Sp prog 168 [ag (Ak a0),.pb 0 0] [.box 0 [sl eB k0] 96] 1 (is (.d (.t r.1)) [.box 0 [.d (.sl _ eB r.2)] 96] 1):=by
 refine sq ?_;intros;refine gA hm Xz λ_ q1 hm=> ?_;exact AnO hm▸gE
def CO (a0:List g_api_Leaf):Option (List g_api_Leaf):=Ab (app 32 ([]:List g_api_Leaf) a0) λx1=>some x1
theorem Ik {a0 r}(hm:CO a0=some r):Sp prog 169 [sl Ak a0] [] 0 (is (.ow 0) [.row 0 2 _ Ak r] 1):=by
 refine sq ?_;intros;unfold CO at hm;refine gnq Ak a0 (λhe1=> ?_) ?_
 ·rw[he1]at hm;replace hm:(some ([]:List g_api_Leaf))=some _:=hm;refine Tr Ak 2 2 ?_;exact AnO hm▸gE
 refine Sa (k:=2) Ak ([]:List g_api_Leaf) (λ_=>rfl)<|oB hm λ_ q1 hm=>gp Ak 2 q1 ?_;exact AnO hm▸gE
def Nk (a0:List UInt8):Option (List UInt8):=Ab (app 1 ([]:List UInt8) a0) λx1=>some x1
theorem XA {a0 r}(hm:Nk a0=some r):Sp prog 170 [sl eB a0] [] 0 (is (.ow 0) [.row 0 1 _ eB r] 1):=by
 refine sq ?_;intros;unfold Nk at hm;refine gnq eB a0 (λhe1=> ?_) ?_
 ·rw[he1]at hm;replace hm:(some ([]:List UInt8))=some _:=hm;refine Tr eB 2 1 ?_;exact AnO hm▸gE
 refine Sa (k:=1) eB ([]:List UInt8) (λ_=>rfl)<|oB hm λ_ q1 hm=>gp eB 1 q1 ?_;exact AnO hm▸gE
def Ey (a0:List g_api_Leaf)(i1:Int)(s1:(List UInt8)):Option (((List UInt8))⊕(Int×(List UInt8))):=Ab (idx a0 (i1:Int)) λx3=>Ab (SH x3 s1) λx4=>if x4.1=true then some (.inr ((i1:Int),x4.2))else some (.inl x4.2)
def CQ (a0:List g_api_Leaf)(k0:List UInt8):Option (Int×(List UInt8)):=Ab (CE (Ey a0) a0.length 0 k0) λx1=>match x1 with| .inr r=>some r| .inl y1=>some ((-1),y1)
theorem Fj {a0 k0 r}(hm:CQ a0 k0=some r):Sp prog 167 [sl Ak a0,.fn (.func 168) [] [.pb 0 0]] [.box 0 [sl eB k0] 96] 1 (is (.d (.i r.1)) [.box 0 [.d (.sl _ eB r.2)] 96] 1):=by
 refine sq ?_;intros;refine oB hm λ_ q1 hm=>Jj 0 (E:=Ak) (xs:=a0) 6 λhle1=>gF (EN _ _ _) q1 (λp0 p=>⟨[(0,sl Ak a0),(1,.fn (.func 168) [] [.pb 0 0]),(7,.d (.i (a0.length:Int))),(8,.d (.i p0))],[(0,.box 0 [sl eB p] 96)],[],1⟩) λi1 s1 Jl bl1=>cN bl1 (a0.length:Int) (λ_ q4 bl1=> ?_) λe=> ?_
 ·refine oB q4 λ_ q6 q4=>gx Ak 2 q6<|gD q4 Y9 λ_ q7 q4=>gi q4 ?_ ?_<;>intro _ q4
  ·obtain rfl:=nT bl1 q4;exact AnO hm▸gE
  exact gT bl1 hle1 q4
 subst e;let y1:=s1;exact AnO hm▸gE
def R5 (a0:g_api_Log)(a1:List UInt8)(a2:Int):Option (g_api_Log×g_api_Promise×Int):=Ab (Hu a0) λx1=>if(x1 !=0)=true then some ((⟨0,0,0,[],[],[]⟩:g_api_Log),(⟨0,0,(0,0),(⟨0,0⟩:g_api_Sig)⟩:g_api_Promise),x1)else Ab (Nc a1) λx2=>Ab (gu (!(!x2)) (Dq a2)) λx3=>if((!x2)||(!x3))=true then some ((⟨0,0,0,[],[],[]⟩:g_api_Log),(⟨0,0,(0,0),(⟨0,0⟩:g_api_Sig)⟩:g_api_Promise),1)else Ab (O3 a0) λx4=>Ab (CQ x4 a1) λx5=>if(decide (x5.1>=0))=true then Ab (idx x4 x5.1) λx6=>Ab (H7 x5.2) λx7=>Ab (Ha (⟨a0.Id,x6.At,x7,(⟨0,0⟩:g_api_Sig)⟩:g_api_Promise)) λx8=>Ab (Ko a0.Key x8) λx9=>some (a0,(⟨a0.Id,x6.At,x7,x9.1⟩:g_api_Promise),x9.2)else if((x4.length:Int)==256)=true then some ((⟨0,0,0,[],[],[]⟩:g_api_Log),(⟨0,0,(0,0),(⟨0,0⟩:g_api_Sig)⟩:g_api_Promise),2)else Ab (CO a0.Wait) λx10=>Ab (Nk x5.2) λx11=>Ab (app 32 x10 ([(⟨x11,a2⟩:g_api_Leaf)]:List g_api_Leaf)) λx12=>Ab (H7 x5.2) λx13=>Ab (Ha (⟨a0.Id,a2,x13,(⟨0,0⟩:g_api_Sig)⟩:g_api_Promise)) λx14=>Ab (Ko a0.Key x14) λx15=>some ((⟨a0.Id,a0.Key,a0.Delay,a0.L,a0.Hide,x12⟩:g_api_Log),(⟨a0.Id,a2,x13,x15.1⟩:g_api_Promise),x15.2)
theorem V7 {a0 a1 a2 r}(hm:R5 a0 a1 a2=some r):Sf prog 92 [ag (Av a0),sl eB a1,.d (.i a2)] (.tup [ag (Av r.1),ag (Ad r.2.1),.d (.i r.2.2)]):=by
 refine sq ?_;intros;refine gA hm I1 λ_ q1 hm=>gi hm ?_ ?_<;>intro _ hm
 ·exact AnO hm▸gE
 refine gA hm QL λ_ q2 hm=>oB hm λ_ q3 hm=>gcH q3 EJ<|gi hm ?_ ?_<;>intro _ hm
 ·exact AnO hm▸gE
 refine gD hm RJ λ_ q4 hm=>gD hm Fj λ_ q5 hm=>gi hm ?_ ?_<;>intro _ hm
 ·refine oB hm λ_ q6 hm=>gx Ak 2 q6<|gA hm JE λ_ q7 hm=>gD hm Jo λ_ q8 hm=>gD hm Mw λ_ q9 hm=> ?_;exact AnO hm▸gE
 refine gi hm ?_ ?_<;>intro _ hm
 ·exact AnO hm▸gE
 refine gD hm Ik λ_ q10 hm=>gD hm XA λx11 q11 hm=>Yo (k:=2) Ak ([(⟨x11,a2⟩:g_api_Leaf)]:List g_api_Leaf) (λ_=>rfl)<|oB hm λ_ q12 hm=>gp Ak 2 q12<|gA hm JE λ_ q13 hm=>gD hm Jo λ_ q14 hm=>gD hm Mw λ_ q15 hm=> ?_;exact AnO hm▸gE
def Rf (a0:g_api_Log):Option (g_api_Key×Int):=Ab (Hu a0) λx1=>if(x1 !=0)=true then some ((⟨0,0,0⟩:g_api_Key),x1)else Ab (JH a0.Key) λx2=>some ((⟨a0.Id,x2.1,a0.Delay⟩:g_api_Key),x2.2)
theorem Xk {a0 r}(hm:Rf a0=some r):Sf prog 171 [ag (Av a0)] (.tup [ag (Ai r.1),.d (.i r.2)]):=by
 refine sq ?_;intros;refine gA hm I1 λ_ q1 hm=>gi hm ?_ ?_<;>intro _ hm
 ·exact AnO hm▸gE
 refine gA hm My λ_ q2 hm=> ?_;exact AnO hm▸gE
def UR (i1:Int)(x2:g_api_Log)(s1:(List g_api_Key)):Option (((List g_api_Key))⊕((List g_api_Key)×Int)):=Ab (Rf x2) λx3=>if(x3.2 !=0)=true then some (.inr (([]:List g_api_Key),x3.2))else Ab (app 24 s1 ([x3.1]:List g_api_Key)) λx4=>some (.inl x4)
def SI (a0:List g_api_Log):Option ((List g_api_Key)×Int):=Ab (F6 UR a0 0 ([]:List g_api_Key)) λx1=>match x1 with| .inr r=>some r| .inl y1=>some (y1,0)
theorem Zb {a0 r}(hm:SI a0=some r):Sp prog 93 [sl Av a0] [] 0 (is (.tup [.ow 0,.d (.i r.2)]) [.row 0 3 _ Ai r.1] 1):=by
 refine sq ?_;intros;refine oB hm λ_ q1 hm=>U4 0 Ai 2 3<|Jj 0 (E:=Av) (xs:=a0) 8 λhle1=>gF (ER _ _ _) q1 (λp0 p=>⟨[(2,.ow 0),(8,sl Av a0),(9,.d (.i (a0.length:Int))),(10,.d (.i p0))],[(0,.row 0 3 _ Ai p)],[],1⟩) λi1 s1 Jl bl1=>cR bl1 (λ_ _ q5 q4 bl1=> ?_) λe=> ?_
 ·refine gx Av 6 q5<|gA q4 Xk λx3 q6 q4=>gi q4 ?_ ?_<;>intro _ q4
  ·refine Tr Ai 2 3 ?_;obtain rfl:=nT bl1 q4;exact AnO hm▸gE
  exact gq Ai 3 [x3.1]<|oB q4 λ_ q7 q4=>gp Ai 3 q7<|gT bl1 hle1 q4
 subst e;let y1:=s1;exact AnO hm▸gE
def LH (a0:Int):Option Bool:=bnd (((decide ((0:Int)<=a0))&&(decide (a0<=1099511627776)))) λx1=>some x1
theorem Pp {a0 r}(hm:LH a0=some r):Sf prog 172 [.d (.i a0)] (.d (.t r)):=by
 refine sq ?_;intros;refine bE hm ?_;intro _ hm;exact AnO hm▸gE
def Dk (a0:List ByteArray):Option (List ByteArray):=Ab (app 16 ([]:List ByteArray) a0) λx1=>some x1
theorem JB {a0 r}(hm:Dk a0=some r):Sp prog 173 [sl eS a0] [] 0 (is (.ow 0) [.row 0 1 _ eS r] 1):=by
 refine sq ?_;intros;unfold Dk at hm;refine gnq eS a0 (λhe1=> ?_) ?_
 ·rw[he1]at hm;replace hm:(some ([]:List ByteArray))=some _:=hm;refine Tr eS 2 1 ?_;exact AnO hm▸gE
 refine Sa (k:=1) eS ([]:List ByteArray) (λ_=>rfl)<|oB hm λ_ q1 hm=>gp eS 1 q1 ?_;exact AnO hm▸gE
def Ri (a0:Mq)(a1:Int)(a2:Int)(a3:ByteArray):Option (g_api_Cert×Int):=Ab (LH a2) λx1=>Ab (gu (!(!x1)) (LH a0.Life)) λx2=>if((!x1)||(!x2))=true then some ((⟨0,ByteArray.empty,ByteArray.empty,0,[],0,0,false,0,[],[],(⟨0,0⟩:g_api_Sig)⟩:g_api_Cert),1)else Ab (Dk a0.Names) λx3=>Ab (Ci (⟨a1,a3,ByteArray.empty,a0.Key,x3,a2,(w64 (a2+a0.Life)),false,0,[],[],(⟨0,0⟩:g_api_Sig)⟩:g_api_Cert)) λx4=>if(x4 !=0)=true then some ((⟨0,ByteArray.empty,ByteArray.empty,0,[],0,0,false,0,[],[],(⟨0,0⟩:g_api_Sig)⟩:g_api_Cert),x4)else some ((⟨a1,a3,ByteArray.empty,a0.Key,x3,a2,(w64 (a2+a0.Life)),false,0,[],[],(⟨0,0⟩:g_api_Sig)⟩:g_api_Cert),x4)
theorem Xm {a0 a1 a2 a3 r}(hm:Ri a0 a1 a2 a3=some r):Sf prog 94 [ag (Ad4 a0),.d (.i a1),.d (.i a2),.d (.s a3)] (.tup [ag (Ac r.1),.d (.i r.2)]):=by
 refine sq ?_;intros;refine gA hm Pp λ_ q1 hm=>oB hm λ_ q2 hm=>gcH q2 Pp<|gi hm ?_ ?_<;>intro _ hm
 ·exact AnO hm▸gE
 refine gD hm JB λ_ q3 hm=>gD hm FJ λ_ q4 hm=>gi hm ?_ ?_<;>intro _ hm
 ·exact AnO hm▸gE
 exact AnO hm▸gE
def C8 (a0:List g_api_Log):Option (List g_api_Log):=Ab (app 96 ([]:List g_api_Log) a0) λx1=>some x1
theorem IY {a0 r}(hm:C8 a0=some r):Sp prog 174 [sl Av a0] [] 0 (is (.ow 0) [.row 0 6 _ Av r] 1):=by
 refine sq ?_;intros;unfold C8 at hm;refine gnq Av a0 (λhe1=> ?_) ?_
 ·rw[he1]at hm;replace hm:(some ([]:List g_api_Log))=some _:=hm;refine Tr Av 2 6 ?_;exact AnO hm▸gE
 refine Sa (k:=6) Av ([]:List g_api_Log) (λ_=>rfl)<|oB hm λ_ q1 hm=>gp Av 6 q1 ?_;exact AnO hm▸gE
end Go.Proofs.YtnhdojckpcbjeaaGreatDoor
