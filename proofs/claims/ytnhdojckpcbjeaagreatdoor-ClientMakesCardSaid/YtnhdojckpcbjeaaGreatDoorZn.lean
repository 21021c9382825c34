/- The walks of some functions, by the executor, written by program. Conditions: none. -/
import Derived.Test.YtnhdojckpcbjeaaGreatDoorZh
import Derived.Test.YtnhdojckpcbjeaaGreatDoorZj
import Derived.Test.YtnhdojckpcbjeaaGreatDoorZk
import Derived.Test.YtnhdojckpcbjeaaGreatDoorZl
import Derived.Test.YtnhdojckpcbjeaaGreatDoorZm
set_option linter.unusedSimpArgs false
set_option linter.unusedVariables false
set_option maxHeartbeats 20000000
set_option maxRecDepth 100000
namespace Go.Proofs.YtnhdojckpcbjeaaGreatDoor
open Go Go.Gw Go.Ax Tryz
attribute [local irreducible] Go.Ax.Go
def HR (a0:g_api_Client)(a1:g_api_Client)(s2:Int):Option ((Int)⊕((Unit)⊕Bool)):=if(decide (s2<(a0.Logs.length:Int)))=true then Ab (idx a0.Logs s2) λx10=>Ab (idx a1.Logs s2) λx11=>if(!O5 x10 x11)=true then some (.inr (.inr false))else some (.inl (w64 (s2+1)))else some (.inr (.inl ()))
def BR (a0:g_api_Client)(a1:g_api_Client):Option Bool:=
 Ab (gu (!(((!eqS a0.Who a1.Who)||((a0.Roots.length:Int) !=(a1.Roots.length:Int)))||((a0.Logs.length:Int) !=(a1.Logs.length:Int)))) (JJ a0.Pool.L a1.Pool.L)) λx1=>
 Ab (gu (!(((((!eqS a0.Who a1.Who)||((a0.Roots.length:Int) !=(a1.Roots.length:Int)))||((a0.Logs.length:Int) !=(a1.Logs.length:Int)))||(!x1))||(a0.View !=a1.View))) (Lf a0.Cascade a1.Cascade)) λx2=>
 if((((((!eqS a0.Who a1.Who)||((a0.Roots.length:Int) !=(a1.Roots.length:Int)))||((a0.Logs.length:Int) !=(a1.Logs.length:Int)))||(!x1))||(a0.View !=a1.View))||(!x2))=true then
  some false
 else
 Ab (iter (HS a0 a1) AY 0) λx3=>match x3 with
 | .inr r=>some r
 | .inl y1=>
 Ab (iter (HR a0 a1) AY 0) λx8=>match x8 with
 | .inr r=>some r
 | .inl y3=>
 some true
theorem NU {a0 a1 r}(hm:BR a0 a1=some r):Sf prog 19 [ag (A0 a0),ag (A0 a1)] (.d (.t r)):=by
 refine sq ?_;intros;refine oB hm λ_ q1 hm=>gcH q1 WY<|oB hm λ_ q2 hm=>gcH q2 Y0<|gi hm ?_ ?_<;>intro _ hm
 ·exact AnO hm▸gE
 refine oB hm λ_ q3 hm=>gI q3 (λp=>⟨[(2,.pb 0 0),(3,.pb 1 0),(5,.d (.i p))],[(0,.box 1 [.d (.s a1.Who),sl Ac a1.Roots,sl Ai a1.Logs,sl Ae a1.Pool.L,.d (.i a1.Cascade.Day),sl Ah a1.Cascade.Levels,.d (.i a1.View)] 31),(1,.box 0 [.d (.s a0.Who),sl Ac a0.Roots,sl Ai a0.Logs,sl Ae a0.Pool.L,.d (.i a0.Cascade.Day),sl Ah a0.Cascade.Levels,.d (.i a0.View)] 31)],[],2⟩) λs1 _ Jl q6 bl1=>gi q6 ?_ ?_<;>intro _ q6
 ·refine oB q6 λ_ q8 q6=>gx Ac 13 q8<|oB q6 λ_ q9 q6=>gx Ac 13 q9<|gA q6 YY λ_ q10 q6=>gi q6 ?_ ?_<;>intro _ q6
  ·obtain rfl:=nR bl1 q6;exact AnO hm▸gE
  exact gN bl1 q6
 obtain rfl:=nR bl1 q6;refine oB hm λ_ q11 hm=>gI q11 (λp=>⟨[(2,.pb 0 0),(3,.pb 1 0),(6,.d (.i p))],[(0,.box 1 [.d (.s a1.Who),sl Ac a1.Roots,sl Ai a1.Logs,sl Ae a1.Pool.L,.d (.i a1.Cascade.Day),sl Ah a1.Cascade.Levels,.d (.i a1.View)] 31),(1,.box 0 [.d (.s a0.Who),sl Ac a0.Roots,sl Ai a0.Logs,sl Ae a0.Pool.L,.d (.i a0.Cascade.Day),sl Ah a0.Cascade.Levels,.d (.i a0.View)] 31)],[],2⟩) λs2 _ Jl q14 bl2=>gi q14 ?_ ?_<;>intro _ q14
 ·refine oB q14 λ_ q16 q14=>gx Ai 3 q16<|oB q14 λ_ q17 q14=>gx Ai 3 q17<|gi q14 ?_ ?_<;>intro _ q14
  ·obtain rfl:=nR bl2 q14;exact AnO hm▸gE
  exact gN bl2 q14
 obtain rfl:=nR bl2 q14;exact AnO hm▸gE
def EW (a0:g_api_Client)(a1:g_api_Head)(a2:g_api_Cascade)(a3:ByteArray)(a4:Int):Option Bool:=Ab (Lk) λx1=>if(!x1)=true then some false else Ab (MS a0) λx2=>Ab (gu (!(!x2)) (DU a2)) λx3=>if(((!x2)||(!x3))||(decide ((a3.size:Int)>100)))=true then some true else Ab (F0 a3 a0.Roots a0.Logs a4) λx4=>Ab (MR a3 a0.Roots a0.Logs a4) λx5=>Ab (Gp a0 a1) λx6=>Ab (La a0 a1) λx7=>Ab (D4 a0 a2) λx8=>Ab (MT a0 a2) λx9=>Ab (BR x4.1 x5.1) λx10=>Ab (gu (x10&&(x4.2==x5.2)) (BR x6.1 x7.1)) λx11=>Ab (gu (((x10&&(x4.2==x5.2))&&x11)&&(x6.2==x7.2)) (BR x8.1 x9.1)) λx12=>Ab (gu (((((x10&&(x4.2==x5.2))&&x11)&&(x6.2==x7.2))&&x12)&&(x8.2==x9.2)) (m_client_Check a0)) λx13=>Ab (gu (((((x10&&(x4.2==x5.2))&&x11)&&(x6.2==x7.2))&&x12)&&(x8.2==x9.2)) (ES a0)) λx14=>bnd (((((((x10&&(x4.2==x5.2))&&x11)&&(x6.2==x7.2))&&x12)&&(x8.2==x9.2))&&(x13==x14))) λx15=>some x15
theorem PM {a0 a1 a2 a3 a4 r}(hm:EW a0 a1 a2 a3 a4=some r):Sf prog 3 [ag (A0 a0),ag (Ae a1),ag (B5 a2),.d (.s a3),.d (.i a4)] (.d (.t r)):=by
 refine sq ?_;intros;refine gA hm Za λ_ q1 hm=>gi hm ?_ ?_<;>intro _ hm
 ·exact AnO hm▸gE
 refine gA hm AaL λ_ q2 hm=>oB hm λ_ q3 hm=>gcH q3 KY<|gi hm ?_ ?_<;>intro _ hm
 ·exact AnO hm▸gE
 refine gA hm N9 λ_ q4 hm=>gA hm AaK λ_ q5 hm=>gA hm QO λ_ q6 hm=>gA hm YT λ_ q7 hm=>gA hm Oa λ_ q8 hm=>gA hm AaM λ_ q9 hm=>gA hm NU λ_ q10 hm=>oB hm λ_ q11 hm=>gcH q11 NU<|oB hm λ_ q12 hm=>gcH q12 NU ?_;refine oB hm λ_ q13 hm=>gcH q13 E9<|oB hm λ_ q14 hm=>gcH q14 JD<|bE hm ?_;intro _ hm;exact AnO hm▸gE
end Go.Proofs.YtnhdojckpcbjeaaGreatDoor
