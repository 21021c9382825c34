/- The walks of some functions, by the executor, written by program. Conditions: none. -/
import Derived.Test.YtnhdojckpcbjeaaGreatDoorZh
import Derived.Test.YtnhdojckpcbjeaaGreatDoorZk
import Derived.Test.YtnhdojckpcbjeaaGreatDoorZl
set_option linter.unusedSimpArgs false
set_option linter.unusedVariables false
set_option maxHeartbeats 20000000
set_option maxRecDepth 100000
namespace Go.Proofs.YtnhdojckpcbjeaaGreatDoor
open Go Go.Gw Go.Ax Tryz
attribute [local irreducible] Go.Ax.Go
def DN (a0:UInt8)(a1:UInt8):Option Bool:=Ab (Km) fun x1=>if(!x1)=true then some false else bnd ((Int.tmod (w64 (a1.toNat:Int)) 6)) fun x2=>Ab (Du a0 (⟨#[120,46,97]⟩:ByteArray) x2) fun x3=>if(!x3.2)=true then some false else Ab (De x3.1) fun x4=>Ab (JJ x4) fun x5=>Ab (Di x5.1 0 (w64 (x2+1)) 4) fun x6=>Ab (Di x5.1 1 (w64 (x2+1)) 4) fun x7=>Ab (Cw x3.1.c_ x6.1) fun x8=>Ab (Cw x3.1.c_ x7.1) fun x9=>if(((((x5.2 !=0)||(x6.2 !=0))||(x7.2 !=0))||(x8.2 !=0))||(x9.2 !=0))=true then some false else Ab (if(Jf x6.1.Root x7.1.Root)=true then some 0 else some 240) fun x10=>Ab (AD x8.1 x3.1.o_ (⟨#[120,46,97]⟩:ByteArray) 4) fun x11=>Ab (gu (x11==0) (AD x9.1 x3.1.o_ (⟨#[120,46,97]⟩:ByteArray) 4)) fun x12=>some ((x11==0)&&(x12==x10))
theorem NM {a0 a1 r}(hm:DN a0 a1=some r):Sf prog 9 [.d (.b a0),.d (.b a1)] (.d (.t r)):=by
 refine sq fun D0 As η0 m0 hd=>gA hm Vv fun _ q1 hm=>gi hm ?_ ?_<;>intro _ hm
 ·exact AkY hm▸gE
 refine bE hm ?_;intro _ hm;refine gA hm Nq fun x3 q3 hm=>gi hm ?_ ?_<;>intro _ hm
 ·exact AkY hm▸gE
 refine gA hm Oo fun _ q4 hm=>gA hm W1 fun x5 q5 hm=>gA hm NK fun x6 q6 hm=>gA hm NK fun x7 q7 hm=>gA hm Lt fun x8 q8 hm=>gA hm Lt fun x9 q9 hm=>gi hm ?_ ?_<;>intro _ hm
 ·exact AkY hm▸gE
 refine oB hm fun x10 q10 hm=>gj (fun(_:Unit)=>⟨[(6,.pb 0 0),(14,.pb 4 0),(16,.pb 5 0),(18,.d (.i x10)),(12,.pb 3 0),(10,.pb 2 0),(8,.pb 1 0)],[(0,.box 5 [.d (.s x9.1.Who),sl Ac x9.1.Roots,sl Aj x9.1.Logs,sl Af x9.1.Pool.L,.d (.i x9.1.Cascade.Day),sl Ag x9.1.Cascade.Levels,.d (.i x9.1.View)] 31),(1,.box 4 [.d (.s x8.1.Who),sl Ac x8.1.Roots,sl Aj x8.1.Logs,sl Af x8.1.Pool.L,.d (.i x8.1.Cascade.Day),sl Ag x8.1.Cascade.Levels,.d (.i x8.1.View)] 31),(2,.box 3 [.d (.i x7.1.Log),.d (.i x7.1.Size),.d (.u x7.1.Root.1),.d (.u x7.1.Root.2),.d (.i x7.1.At),.d (.u x7.1.Sig.E),.d (.u x7.1.Sig.S)] 38),(3,.box 2 [.d (.i x6.1.Log),.d (.i x6.1.Size),.d (.u x6.1.Root.1),.d (.u x6.1.Root.2),.d (.i x6.1.At),.d (.u x6.1.Sig.E),.d (.u x6.1.Sig.S)] 38),(4,.box 1 [.d (.i x5.1.Id),.d (.u x5.1.Key),.d (.i x5.1.Delay),sl Ai x5.1.L,sl eI x5.1.Hide,sl Ai x5.1.Wait] 82),(5,.box 0 [.d (.s x3.1.c_.Who),sl Ac x3.1.c_.Roots,sl Aj x3.1.c_.Logs,sl Af x3.1.c_.Pool.L,.d (.i x3.1.c_.Cascade.Day),sl Ag x3.1.c_.Cascade.Levels,.d (.i x3.1.c_.View),sl Ac x3.1.o_.Path,sl A1 x3.1.o_.Where,sl Av x3.1.logs_] 74)],[],6⟩) (fun _=>True) (fun Jp bk1=> ?_) fun _ _=> ?_
 ·refine gi q10 ?_ ?_<;>intro _ q10
  ·obtain rfl:=AkY q10;exact gb bk1 hd () trivial
  obtain rfl:=AkY q10;exact gb bk1 hd () trivial
 refine gA hm DH fun _ q11 hm=>oB hm fun _ q12 hm=>gcH q12 DH ?_;exact AkY hm▸gE
end Go.Proofs.YtnhdojckpcbjeaaGreatDoor
