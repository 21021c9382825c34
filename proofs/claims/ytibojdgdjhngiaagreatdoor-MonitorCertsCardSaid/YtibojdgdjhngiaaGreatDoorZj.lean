/- The walks of some functions, by the executor, written by program. Conditions: none. -/
import Derived.Test.YtibojdgdjhngiaaGreatDoorZf
import Derived.Test.YtibojdgdjhngiaaGreatDoorZg
import Derived.Test.YtibojdgdjhngiaaGreatDoorZh
import Derived.Test.YtibojdgdjhngiaaGreatDoorZi
set_option linter.unusedSimpArgs false
set_option linter.unusedVariables false
set_option maxHeartbeats 20000000
set_option maxRecDepth 100000
namespace Go.Proofs.YtibojdgdjhngiaaGreatDoor
open Go Go.Gw Go.Ax Tryz
attribute [local irreducible] Go.Ax.Go
def Nr (a0:Ah)(a1:Int)(a2:Int)(a3:Int):Option (CL×Int):=Ab (JY a0 a1 a2) fun x1=>Ab (Ab (gu ((x1.2==0)||(x1.2==80)) (Fp a3)) fun x3=>if(((x1.2==0)||(x1.2==80))&&(!x3))=true then some 1 else some x1.2) fun x2=>if(x2 !=0)=true then some ((⟨0,0,(0,0),0,(⟨0,0⟩:g_api_Sig)⟩:CL),x2)else Ab (IG x1.1) fun x4=>Ab (Oa (⟨a0.Id,a2,x4,a3,(⟨0,0⟩:g_api_Sig)⟩:CL)) fun x5=>Ab (Hq a0.Key x5) fun x6=>some ((⟨a0.Id,a2,x4,a3,x6.1⟩:CL),x6.2)
theorem Qr {a0 a1 a2 a3 r}(hm:Nr a0 a1 a2 a3=some r):Sf prog 31 [ag (Bn a0),.d (.i a1),.d (.i a2),.d (.i a3)] (.tup [ag (O6 r.1),.d (.i r.2)]):=by
 refine sq fun D0 As η0 m0 hd=>gD hm V7 fun x1 q1 hm=> ?_;obtain⟨x2,q2,hm⟩:=Ad hm;refine oB q2 fun x3 q3 q2=>gcH q3 Iv<|gj (fun(_:Unit)=>⟨[(2,.d (.i a2)),(3,.d (.i a3)),(4,.pb 0 0),(8,.pb 1 0),(10,.ow 2),(11,.d (.i x2))],[(0,.row 2 2 _ AF x1.1),(1,.box 1 [.d (.i 0),.d (.i 0),.d (.u 0),.d (.u 0),.d (.i 0),.d (.u 0),.d (.u 0)] 42),(2,.box 0 [.d (.i a0.Id),.d (.u a0.Key),.d (.i a0.Delay),sl Ag a0.L,sl eI a0.Hide,sl Ag a0.Wait] 26)],[],3⟩) (fun _=>True) (fun Jp bk1=> ?_) fun _ _=> ?_
 ·refine gi q2 ?_ ?_<;>intro hc1 q2
  ·obtain rfl:=AjC q2;exact gb bk1 hd () trivial
  obtain rfl:=AjC q2;exact gb bk1 hd () trivial
 refine gi hm ?_ ?_<;>intro hc2 hm
 ·exact AjC hm▸gE
 refine gD hm Uo fun x4 q4 hm=>gD hm TT fun x5 q5 hm=>gD hm M7 fun x6 q6 hm=> ?_;exact AjC hm▸gE
def Mi:Option g_api_Cert:=some (⟨1,(⟨#[103,114,101,97,116,115,101,97,108]⟩:ByteArray),ByteArray.empty,4,([(⟨#[120,46,97]⟩:ByteArray)]:List ByteArray),5,9,false,0,[],[],(⟨0,0⟩:g_api_Sig)⟩:g_api_Cert)
theorem Qt {r}(hm:Mi=some r):Sf prog 36 [] (ag (Am r)):=by
 refine sq ?_;intros;refine gq eS 1 [(⟨#[120,46,97]⟩:ByteArray)] ?_;exact AjC hm▸gE
def Mh:Option Bool:=Ab (Mi) fun x1=>Ab (K7 ([x1]:List g_api_Cert) 5) fun x2=>Ab (Pz x2.1) fun x3=>Ab (Dk x3.1 0) fun x4=>Ab (Ob x2.1) fun x5=>Ab (Nr x2.1 0 0 26) fun x6=>Ab (Nr x2.1 0 0 25) fun x7=>if((((((((!x2.2.2)||(x3.2 !=0))||(x4.2 !=0))||(x5.2 !=0))||(x6.2 !=0))||(x7.2 !=0))||((x4.1.length:Int) !=1))||((x2.2.1.length:Int) !=1))=true then some false else Ab (Cg x4.1 ([(⟨(⟨#[97,110,110]⟩:ByteArray),([(⟨#[120,46,97]⟩:ByteArray)]:List ByteArray),4,6⟩:AP)]:List AP)) fun x8=>Ab (H3 x8 ([0]:List Int)) fun x9=>if x9=true then Ab (Cg x4.1 ([(⟨(⟨#[97,110,110]⟩:ByteArray),([(⟨#[120,46,97]⟩:ByteArray)]:List ByteArray),16,3⟩:AP)]:List AP)) fun x10=>Ab (H3 x10 ([0]:List Int)) fun x11=>if x11=true then Ab (Ap x2.2.1 x6.1 ([]:List (UInt64×UInt64)) x5.1) fun x12=>Ab (H3 x12 ([0]:List Int)) fun x13=>Ab (gu x13 (idx x4.1 0)) fun x14=>Ab (gu x13 (Jz x14 x1)) fun x15=>if(x13&&x15)=true then Ab (Cg x4.1 ([(⟨(⟨#[97,110,110]⟩:ByteArray),([(⟨#[120,46,97]⟩:ByteArray)]:List ByteArray),4,3⟩:AP)]:List AP)) fun x16=>if((x16.length:Int)==0)=true then Ab (Ap x2.2.1 x7.1 ([]:List (UInt64×UInt64)) x5.1) fun x17=>if((x17.length:Int)==0)=true then Ab (idx x2.2.1 0) fun x18=>Ab (Ap x2.2.1 x6.1 ([x18.Leaf]:List (UInt64×UInt64)) x5.1) fun x19=>some ((x19.length:Int)==0)else some false else if false=true then Ab (idx x2.2.1 0) fun x20=>Ab (Ap x2.2.1 x6.1 ([x20.Leaf]:List (UInt64×UInt64)) x5.1) fun x21=>some ((x21.length:Int)==0)else some false else if false=true then Ab (Ap x2.2.1 x7.1 ([]:List (UInt64×UInt64)) x5.1) fun x22=>if((x22.length:Int)==0)=true then Ab (idx x2.2.1 0) fun x23=>Ab (Ap x2.2.1 x6.1 ([x23.Leaf]:List (UInt64×UInt64)) x5.1) fun x24=>some ((x24.length:Int)==0)else some false else if false=true then Ab (idx x2.2.1 0) fun x25=>Ab (Ap x2.2.1 x6.1 ([x25.Leaf]:List (UInt64×UInt64)) x5.1) fun x26=>some ((x26.length:Int)==0)else some false else Ab (gu false (idx x4.1 0)) fun x27=>Ab (gu false (Jz x27 x1)) fun x28=>if(false&&x28)=true then Ab (Cg x4.1 ([(⟨(⟨#[97,110,110]⟩:ByteArray),([(⟨#[120,46,97]⟩:ByteArray)]:List ByteArray),4,3⟩:AP)]:List AP)) fun x29=>if((x29.length:Int)==0)=true then Ab (Ap x2.2.1 x7.1 ([]:List (UInt64×UInt64)) x5.1) fun x30=>if((x30.length:Int)==0)=true then Ab (idx x2.2.1 0) fun x31=>Ab (Ap x2.2.1 x6.1 ([x31.Leaf]:List (UInt64×UInt64)) x5.1) fun x32=>some ((x32.length:Int)==0)else some false else if false=true then Ab (idx x2.2.1 0) fun x33=>Ab (Ap x2.2.1 x6.1 ([x33.Leaf]:List (UInt64×UInt64)) x5.1) fun x34=>some ((x34.length:Int)==0)else some false else if false=true then Ab (Ap x2.2.1 x7.1 ([]:List (UInt64×UInt64)) x5.1) fun x35=>if((x35.length:Int)==0)=true then Ab (idx x2.2.1 0) fun x36=>Ab (Ap x2.2.1 x6.1 ([x36.Leaf]:List (UInt64×UInt64)) x5.1) fun x37=>some ((x37.length:Int)==0)else some false else if false=true then Ab (idx x2.2.1 0) fun x38=>Ab (Ap x2.2.1 x6.1 ([x38.Leaf]:List (UInt64×UInt64)) x5.1) fun x39=>some ((x39.length:Int)==0)else some false else if false=true then Ab (Ap x2.2.1 x6.1 ([]:List (UInt64×UInt64)) x5.1) fun x40=>Ab (H3 x40 ([0]:List Int)) fun x41=>Ab (gu x41 (idx x4.1 0)) fun x42=>Ab (gu x41 (Jz x42 x1)) fun x43=>if(x41&&x43)=true then Ab (Cg x4.1 ([(⟨(⟨#[97,110,110]⟩:ByteArray),([(⟨#[120,46,97]⟩:ByteArray)]:List ByteArray),4,3⟩:AP)]:List AP)) fun x44=>if((x44.length:Int)==0)=true then Ab (Ap x2.2.1 x7.1 ([]:List (UInt64×UInt64)) x5.1) fun x45=>if((x45.length:Int)==0)=true then Ab (idx x2.2.1 0) fun x46=>Ab (Ap x2.2.1 x6.1 ([x46.Leaf]:List (UInt64×UInt64)) x5.1) fun x47=>some ((x47.length:Int)==0)else some false else if false=true then Ab (idx x2.2.1 0) fun x48=>Ab (Ap x2.2.1 x6.1 ([x48.Leaf]:List (UInt64×UInt64)) x5.1) fun x49=>some ((x49.length:Int)==0)else some false else if false=true then Ab (Ap x2.2.1 x7.1 ([]:List (UInt64×UInt64)) x5.1) fun x50=>if((x50.length:Int)==0)=true then Ab (idx x2.2.1 0) fun x51=>Ab (Ap x2.2.1 x6.1 ([x51.Leaf]:List (UInt64×UInt64)) x5.1) fun x52=>some ((x52.length:Int)==0)else some false else if false=true then Ab (idx x2.2.1 0) fun x53=>Ab (Ap x2.2.1 x6.1 ([x53.Leaf]:List (UInt64×UInt64)) x5.1) fun x54=>some ((x54.length:Int)==0)else some false else Ab (gu false (idx x4.1 0)) fun x55=>Ab (gu false (Jz x55 x1)) fun x56=>if(false&&x56)=true then Ab (Cg x4.1 ([(⟨(⟨#[97,110,110]⟩:ByteArray),([(⟨#[120,46,97]⟩:ByteArray)]:List ByteArray),4,3⟩:AP)]:List AP)) fun x57=>if((x57.length:Int)==0)=true then Ab (Ap x2.2.1 x7.1 ([]:List (UInt64×UInt64)) x5.1) fun x58=>if((x58.length:Int)==0)=true then Ab (idx x2.2.1 0) fun x59=>Ab (Ap x2.2.1 x6.1 ([x59.Leaf]:List (UInt64×UInt64)) x5.1) fun x60=>some ((x60.length:Int)==0)else some false else if false=true then Ab (idx x2.2.1 0) fun x61=>Ab (Ap x2.2.1 x6.1 ([x61.Leaf]:List (UInt64×UInt64)) x5.1) fun x62=>some ((x62.length:Int)==0)else some false else if false=true then Ab (Ap x2.2.1 x7.1 ([]:List (UInt64×UInt64)) x5.1) fun x63=>if((x63.length:Int)==0)=true then Ab (idx x2.2.1 0) fun x64=>Ab (Ap x2.2.1 x6.1 ([x64.Leaf]:List (UInt64×UInt64)) x5.1) fun x65=>some ((x65.length:Int)==0)else some false else if false=true then Ab (idx x2.2.1 0) fun x66=>Ab (Ap x2.2.1 x6.1 ([x66.Leaf]:List (UInt64×UInt64)) x5.1) fun x67=>some ((x67.length:Int)==0)else some false
theorem VJ {r}(hm:Mh=some r):Sf prog 11 [] (.d (.t r)):=by
 refine sq ?_;intros;refine gA hm Qt fun x1 q1 hm=>gq Am 13 [x1]<|gA hm U6 fun x2 q2 hm=>gA hm VH fun x3 q3 hm=>gA hm Rr fun x4 q4 hm=>gA hm TU fun x5 q5 hm=>gq eS 1 [(⟨#[120,46,97]⟩:ByteArray)]<|gq DH 4 [(⟨(⟨#[97,110,110]⟩:ByteArray),([(⟨#[120,46,97]⟩:ByteArray)]:List ByteArray),4,3⟩:AP)]<|gq eS 1 [(⟨#[120,46,97]⟩:ByteArray)] ?_;refine gq DH 4 [(⟨(⟨#[97,110,110]⟩:ByteArray),([(⟨#[120,46,97]⟩:ByteArray)]:List ByteArray),4,6⟩:AP)]<|gq eS 1 [(⟨#[120,46,97]⟩:ByteArray)]<|gq DH 4 [(⟨(⟨#[97,110,110]⟩:ByteArray),([(⟨#[120,46,97]⟩:ByteArray)]:List ByteArray),16,3⟩:AP)]<|gA hm Qr fun x6 q6 hm=>gA hm Qr fun x7 q7 hm=>gi hm ?_ ?_<;>intro hc1 hm
 ·exact AjC hm▸gE
 refine gD hm Dh fun x8 q8 hm=>gq eI 1 [0]<|gD hm JK fun x9 q9 hm=>MN 98 hm (fun hc2 hm=> ?_) fun hc2 hm=> ?_
 ·refine gD hm Dh fun x10 q10 hm=>gq eI 1 [0]<|gD hm JK fun x11 q11 hm=>MN 105 hm (fun hc3 hm=> ?_) fun hc3 hm=> ?_
  ·refine gD hm Ar fun x12 q12 hm=>gq eI 1 [0]<|gD hm JK fun x13 q13 hm=>oB hm fun x14 q14 hm=>gxG Am 13 q14<|oB hm fun x15 q15 hm=>gcH q15 KP<|MN 121 hm (fun hc4 hm=> ?_) fun hc4 hm=> ?_
   ·refine gD hm Dh fun x16 q16 hm=>MN 128 hm (fun hc5 hm=> ?_) fun hc5 hm=> ?_
    ·refine gD hm Ar fun x17 q17 hm=>MN 136 hm (fun hc6 hm=> ?_) fun hc6 hm=> ?_
     ·refine oB hm fun x18 q18 hm=>gx Ae 6 q18<|gq AF 2 [x18.Leaf]<|gD hm Ar fun x19 q19 hm=> ?_;exact AjC hm▸gE
     exact AjC hm▸gE
    refine MN 136 hm (fun hc7 hm=> ?_) fun hc7 hm=> ?_
    ·refine oB hm fun x20 q20 hm=>gx Ae 6 q20<|gq AF 2 [x20.Leaf]<|gD hm Ar fun x21 q21 hm=> ?_;exact AjC hm▸gE
    exact AjC hm▸gE
   refine MN 128 hm (fun hc8 hm=> ?_) fun hc8 hm=> ?_
   ·refine gD hm Ar fun x22 q22 hm=>MN 136 hm (fun hc9 hm=> ?_) fun hc9 hm=> ?_
    ·refine oB hm fun x23 q23 hm=>gx Ae 6 q23<|gq AF 2 [x23.Leaf]<|gD hm Ar fun x24 q24 hm=> ?_;exact AjC hm▸gE
    exact AjC hm▸gE
   refine MN 136 hm (fun hc10 hm=> ?_) fun hc10 hm=> ?_
   ·refine oB hm fun x25 q25 hm=>gx Ae 6 q25<|gq AF 2 [x25.Leaf]<|gD hm Ar fun x26 q26 hm=> ?_;exact AjC hm▸gE
   exact AjC hm▸gE
  refine oB hm fun x27 q27 hm=>gxG Am 13 q27<|oB hm fun x28 q28 hm=>gcH q28 KP<|MN 121 hm (fun hc11 hm=> ?_) fun hc11 hm=> ?_
  ·refine gD hm Dh fun x29 q29 hm=>MN 128 hm (fun hc12 hm=> ?_) fun hc12 hm=> ?_
   ·refine gD hm Ar fun x30 q30 hm=>MN 136 hm (fun hc13 hm=> ?_) fun hc13 hm=> ?_
    ·refine oB hm fun x31 q31 hm=>gx Ae 6 q31<|gq AF 2 [x31.Leaf]<|gD hm Ar fun x32 q32 hm=> ?_;exact AjC hm▸gE
    exact AjC hm▸gE
   refine MN 136 hm (fun hc14 hm=> ?_) fun hc14 hm=> ?_
   ·refine oB hm fun x33 q33 hm=>gx Ae 6 q33<|gq AF 2 [x33.Leaf]<|gD hm Ar fun x34 q34 hm=> ?_;exact AjC hm▸gE
   exact AjC hm▸gE
  refine MN 128 hm (fun hc15 hm=> ?_) fun hc15 hm=> ?_
  ·refine gD hm Ar fun x35 q35 hm=>MN 136 hm (fun hc16 hm=> ?_) fun hc16 hm=> ?_
   ·refine oB hm fun x36 q36 hm=>gx Ae 6 q36<|gq AF 2 [x36.Leaf]<|gD hm Ar fun x37 q37 hm=> ?_;exact AjC hm▸gE
   exact AjC hm▸gE
  refine MN 136 hm (fun hc17 hm=> ?_) fun hc17 hm=> ?_
  ·refine oB hm fun x38 q38 hm=>gx Ae 6 q38<|gq AF 2 [x38.Leaf]<|gD hm Ar fun x39 q39 hm=> ?_;exact AjC hm▸gE
  exact AjC hm▸gE
 refine MN 105 hm (fun hc18 hm=> ?_) fun hc18 hm=> ?_
 ·refine gD hm Ar fun x40 q40 hm=>gq eI 1 [0]<|gD hm JK fun x41 q41 hm=>oB hm fun x42 q42 hm=>gxG Am 13 q42<|oB hm fun x43 q43 hm=>gcH q43 KP<|MN 121 hm (fun hc19 hm=> ?_) fun hc19 hm=> ?_
  ·refine gD hm Dh fun x44 q44 hm=>MN 128 hm (fun hc20 hm=> ?_) fun hc20 hm=> ?_
   ·refine gD hm Ar fun x45 q45 hm=>MN 136 hm (fun hc21 hm=> ?_) fun hc21 hm=> ?_
    ·refine oB hm fun x46 q46 hm=>gx Ae 6 q46<|gq AF 2 [x46.Leaf]<|gD hm Ar fun x47 q47 hm=> ?_;exact AjC hm▸gE
    exact AjC hm▸gE
   refine MN 136 hm (fun hc22 hm=> ?_) fun hc22 hm=> ?_
   ·refine oB hm fun x48 q48 hm=>gx Ae 6 q48<|gq AF 2 [x48.Leaf]<|gD hm Ar fun x49 q49 hm=> ?_;exact AjC hm▸gE
   exact AjC hm▸gE
  refine MN 128 hm (fun hc23 hm=> ?_) fun hc23 hm=> ?_
  ·refine gD hm Ar fun x50 q50 hm=>MN 136 hm (fun hc24 hm=> ?_) fun hc24 hm=> ?_
   ·refine oB hm fun x51 q51 hm=>gx Ae 6 q51<|gq AF 2 [x51.Leaf]<|gD hm Ar fun x52 q52 hm=> ?_;exact AjC hm▸gE
   exact AjC hm▸gE
  refine MN 136 hm (fun hc25 hm=> ?_) fun hc25 hm=> ?_
  ·refine oB hm fun x53 q53 hm=>gx Ae 6 q53<|gq AF 2 [x53.Leaf]<|gD hm Ar fun x54 q54 hm=> ?_;exact AjC hm▸gE
  exact AjC hm▸gE
 refine oB hm fun x55 q55 hm=>gxG Am 13 q55<|oB hm fun x56 q56 hm=>gcH q56 KP<|MN 121 hm (fun hc26 hm=> ?_) fun hc26 hm=> ?_
 ·refine gD hm Dh fun x57 q57 hm=>MN 128 hm (fun hc27 hm=> ?_) fun hc27 hm=> ?_
  ·refine gD hm Ar fun x58 q58 hm=>MN 136 hm (fun hc28 hm=> ?_) fun hc28 hm=> ?_
   ·refine oB hm fun x59 q59 hm=>gx Ae 6 q59<|gq AF 2 [x59.Leaf]<|gD hm Ar fun x60 q60 hm=> ?_;exact AjC hm▸gE
   exact AjC hm▸gE
  refine MN 136 hm (fun hc29 hm=> ?_) fun hc29 hm=> ?_
  ·refine oB hm fun x61 q61 hm=>gx Ae 6 q61<|gq AF 2 [x61.Leaf]<|gD hm Ar fun x62 q62 hm=> ?_;exact AjC hm▸gE
  exact AjC hm▸gE
 refine MN 128 hm (fun hc30 hm=> ?_) fun hc30 hm=> ?_
 ·refine gD hm Ar fun x63 q63 hm=>MN 136 hm (fun hc31 hm=> ?_) fun hc31 hm=> ?_
  ·refine oB hm fun x64 q64 hm=>gx Ae 6 q64<|gq AF 2 [x64.Leaf]<|gD hm Ar fun x65 q65 hm=> ?_;exact AjC hm▸gE
  exact AjC hm▸gE
 refine MN 136 hm (fun hc32 hm=> ?_) fun hc32 hm=> ?_
 ·refine oB hm fun x66 q66 hm=>gx Ae 6 q66<|gq AF 2 [x66.Leaf]<|gD hm Ar fun x67 q67 hm=> ?_;exact AjC hm▸gE
 exact AjC hm▸gE
def HL (a0:Ah)(s1:Int×Int):Option ((Int×Int)⊕(Int)):=if((decide (s1.2<(a0.L.length:Int)))&&(decide (s1.2<40)))=true then Ab (idx a0.L s1.2) fun x4=>bnd ((w64 (s1.1+(x4.Body.length:Int)))) fun x5=>some (.inl (x5,(w64 (s1.2+1))))else some (.inr s1.1)
def HJ (a0:Ah)(s2:Int×Int):Option ((Int×Int)⊕(Int)):=if((decide (s2.2<(a0.Wait.length:Int)))&&(decide (s2.2<40)))=true then Ab (idx a0.Wait s2.2) fun x9=>bnd ((w64 (s2.1+(x9.Body.length:Int)))) fun x10=>some (.inl (x10,(w64 (s2.2+1))))else some (.inr s2.1)
def Jc (a0:Ah):Option Bool:=Ab (Ab (iter (HL a0) Bl (0,0)) fun x2=>some x2) fun x1=>Ab (Ab (iter (HJ a0) Bl (x1,0)) fun x7=>some x7) fun x6=>bnd (((((decide ((a0.L.length:Int)≤40))&&(decide ((a0.Wait.length:Int)≤40)))&&(decide ((a0.Hide.length:Int)≤60)))&&(decide (x6≤20000)))) fun x11=>some x11
theorem Xe {a0 r}(hm:Jc a0=some r):Sf prog 12 [ag (Bn a0)] (.d (.t r)):=by
 refine sq ?_;intros;unfold Jc at hm;obtain⟨x1,q1,hm⟩:=Ad hm;refine oB q1 fun x2 q2 q1=>gI q2 (fun(p_0,p_1)=>⟨[(1,.pb 0 0),(3,.d (.i p_0)),(4,.d (.i p_1))],[(0,.box 0 [.d (.i a0.Id),.d (.u a0.Key),.d (.i a0.Delay),sl Ag a0.L,sl eI a0.Hide,sl Ag a0.Wait] 26)],[],1⟩) fun s1 y1 Jl q5 bl1=>gi q5 ?_ ?_<;>intro hc1 q5
 ·refine oB q5 fun x4 q7 q5=>gx Ag 2 q7<|bE q5 ?_;intro x5 q5;exact gN bl1 q5
 obtain rfl:=nR bl1 q5;let x2:=s1.1;obtain rfl:=AjC q1;let x1:=x2;obtain⟨x6,q9,hm⟩:=Ad hm;refine oB q9 fun x7 q10 q9=>gI q10 (fun(p_0,p_1)=>⟨[(1,.pb 0 0),(3,.d (.i p_0)),(5,.d (.i p_1))],[(0,.box 0 [.d (.i a0.Id),.d (.u a0.Key),.d (.i a0.Delay),sl Ag a0.L,sl eI a0.Hide,sl Ag a0.Wait] 26)],[],1⟩) fun s2 y2 Jl q13 bl2=>gi q13 ?_ ?_<;>intro hc2 q13
 ·refine oB q13 fun x9 q15 q13=>gx Ag 2 q15<|bE q13 ?_;intro x10 q13;exact gN bl2 q13
 obtain rfl:=nR bl2 q13;let x7:=s2.1;obtain rfl:=AjC q9;let x6:=x7;refine bE hm ?_;intro x11 hm;obtain rfl:=AjC hm;exact gE
def KZ (a0:Int):Option Bool:=bnd (((decide (a0≥0))&&(decide (a0≤1099511627776)))) fun x1=>some x1
theorem Qi {a0 r}(hm:KZ a0=some r):Sf prog 122 [.d (.i a0)] (.d (.t r)):=by
 refine sq ?_;intros;refine bE hm ?_;intro x1 hm;obtain rfl:=AjC hm;exact gE
def Jd (a0:Ah):Option (List g_api_Leaf):=Ab (app 32 ([]:List g_api_Leaf) a0.L) fun x1=>Ab (app 32 x1 a0.Wait) fun x2=>some x2
theorem Xf {a0 r}(hm:Jd a0=some r):Sp prog 123 [ag (Bn a0)] [] 0 (is (.ow 0) [.row 0 2 _ Ag r] 1):=by
 refine sq ?_;intros;refine Xa (k:=2) Ag ([]:List g_api_Leaf) (fun _=>rfl)<|oB hm fun x1 q1 hm=>gp Ag 2 q1<|oB hm fun x2 q2 hm=>gp Ag 2 q2 ?_;exact AjC hm▸gE
theorem Yt {a0:Ah}{r:List g_api_Leaf}(hm:Jd a0=some r):Sf prog 123 [ag (Bn a0)] (sl Ag r):=Sp.fz (Xf hm) (by kernel_rfl)
def HH (a0:List UInt8):Option Bool:=bnd (((decide ((a0.length:Int)≥1))&&(decide ((a0.length:Int)≤2048)))) fun x1=>some x1
theorem RQ {a0 r}(hm:HH a0=some r):Sf prog 124 [sl eB a0] (.d (.t r)):=by
 refine sq ?_;intros;refine bE hm ?_;intro x1 hm;obtain rfl:=AjC hm;exact gE
def DY (a0:List g_api_Leaf)(a1:List UInt8)(s1:Int):Option ((Int)⊕((Unit)⊕Int)):=if(decide (s1<(a0.length:Int)))=true then Ab (idx a0 s1) fun x3=>if(eqS (bs x3.Body) (bs a1))=true then some (.inr (.inr s1))else some (.inl (w64 (s1+1)))else some (.inr (.inl ()))
def JS (a0:List g_api_Leaf)(a1:List UInt8):Option Int:=Ab (iter (DY a0 a1) Bl 0) fun x1=>match x1 with| .inr r=>some r| .inl y1=>some (-1)
theorem Vu {a0 a1 r}(hm:JS a0 a1=some r):Sf prog 125 [sl Ag a0,sl eB a1] (.d (.i r)):=by
 refine sq ?_;intros;refine oB hm fun x1 q1 hm=>gI q1 (fun p=>⟨[(0,sl Ag a0),(1,sl eB a1),(5,.d (.i p))],[],[],0⟩) fun s1 y2 Jl q4 bl1=>gi q4 ?_ ?_<;>intro hc1 q4
 ·refine oB q4 fun x3 q6 q4=>gx Ag 2 q6<|gbs (xs:=x3.Body)<|gbs (xs:=a1)<|gi q4 ?_ ?_<;>intro hc2 q4
  ·obtain rfl:=nR bl1 q4;exact AjC hm▸gE
  exact gN bl1 q4
 obtain rfl:=nR bl1 q4;exact AjC hm▸gE
def FZ (x2:List g_api_Leaf)(s1:Int):Option ((Int)⊕((Unit)⊕Int)):=if(decide (s1<(x2.length:Int)))=true then Ab (idx x2 s1) fun x5=>Ab (HH x5.Body) fun x6=>Ab (gu (!(!x6)) (idx x2 s1)) fun x7=>Ab (gu (!(!x6)) (KZ x7.At)) fun x8=>Ab (gu (!((!x6)||(!x8))) (idx x2 s1)) fun x9=>Ab (gu (!((!x6)||(!x8))) (JS x2 x9.Body)) fun x10=>if(((!x6)||(!x8))||(x10 !=s1))=true then some (.inr (.inr 1))else some (.inl (w64 (s1+1)))else some (.inr (.inl ()))
def FY (a0:Ah)(s2:Int):Option ((Int)⊕((Unit)⊕Int)):=if(decide (s2<(a0.Hide.length:Int)))=true then Ab (idx a0.Hide s2) fun x13=>Ab (gu (!(decide (x13<0))) (idx a0.Hide s2)) fun x14=>Ab (gu ((!((decide (x13<0))||(decide (x14≥(a0.L.length:Int)))))&&(decide (s2>0))) (idx a0.Hide (w64 (s2-1)))) fun x15=>Ab (gu ((!((decide (x13<0))||(decide (x14≥(a0.L.length:Int)))))&&(decide (s2>0))) (idx a0.Hide s2)) fun x16=>if(((decide (x13<0))||(decide (x14≥(a0.L.length:Int))))||((decide (s2>0))&&(decide (x15≥x16))))=true then some (.inr (.inr 1))else some (.inl (w64 (s2+1)))else some (.inr (.inl ()))
def IA (a0:Ah):Option Int:=
 Ab (KZ a0.Id) fun x1=>
 if(((((!x1)||(decide ((a0.Key.toNat:Int)<1)))||(decide ((a0.Key.toNat:Int)≥1152921504606845789)))||(decide (a0.Delay<0)))||(decide (a0.Delay>1000)))=true then
  some 1
 else
 Ab (Jd a0) fun x2=>
 Ab (iter (FZ x2) Bl 0) fun x3=>match x3 with
 | .inr r=>some r
 | .inl y1=>
 Ab (iter (FY a0) Bl 0) fun x11=>match x11 with
 | .inr r=>some r
 | .inl y3=>
 if(decide ((x2.length:Int)>256))=true then
  some 2
 else
 some 0
theorem TD {a0 r}(hm:IA a0=some r):Sf prog 72 [ag (Bn a0)] (.d (.i r)):=by
 refine sq ?_;intros;refine gA hm Qi fun x1 q1 hm=>gi hm ?_ ?_<;>intro hc1 hm
 ·exact AjC hm▸gE
 refine gA hm Yt fun x2 q2 hm=>oB hm fun x3 q3 hm=>gI q3 (fun p=>⟨[(1,.pb 0 0),(3,sl Ag x2),(4,.d (.i p))],[(0,.box 0 [.d (.i a0.Id),.d (.u a0.Key),.d (.i a0.Delay),sl Ag a0.L,sl eI a0.Hide,sl Ag a0.Wait] 26)],[],1⟩) fun s1 y2 Jl q6 bl1=>gi q6 ?_ ?_<;>intro hc2 q6
 ·refine oB q6 fun x5 q8 q6=>gx Ag 2 q8<|gA q6 RQ fun x6 q9 q6=>oB q6 fun x7 q10 q6=>gxG Ag 2 q10<|oB q6 fun x8 q11 q6=>gcH q11 Qi<|oB q6 fun x9 q12 q6=>gxG Ag 2 q12<|oB q6 fun x10 q13 q6=>gcH q13 Vu<|gi q6 ?_ ?_<;>intro hc3 q6
  ·obtain rfl:=nR bl1 q6;exact AjC hm▸gE
  exact gN bl1 q6
 obtain rfl:=nR bl1 q6;refine oB hm fun x11 q14 hm=>gI q14 (fun p=>⟨[(1,.pb 0 0),(3,sl Ag x2),(5,.d (.i p))],[(0,.box 0 [.d (.i a0.Id),.d (.u a0.Key),.d (.i a0.Delay),sl Ag a0.L,sl eI a0.Hide,sl Ag a0.Wait] 26)],[],1⟩) fun s2 y4 Jl q17 bl2=>gi q17 ?_ ?_<;>intro hc4 q17
 ·refine oB q17 fun x13 q19 q17=>gx eI 1 q19<|oB q17 fun x14 q20 q17=>gxG eI 1 q20<|oB q17 fun x15 q21 q17=>gxG eI 1 q21<|oB q17 fun x16 q22 q17=>gxG eI 1 q22<|gi q17 ?_ ?_<;>intro hc5 q17
  ·obtain rfl:=nR bl2 q17;exact AjC hm▸gE
  exact gN bl2 q17
 obtain rfl:=nR bl2 q17;refine gi hm ?_ ?_<;>intro hc6 hm
 ·exact AjC hm▸gE
 exact AjC hm▸gE
def Hs (a0:Ah)(a1:Int)(s1:Int):Option ((Int)⊕((Unit)⊕Bool)):=if(decide (s1<(a0.Hide.length:Int)))=true then Ab (idx a0.Hide s1) fun x3=>if(x3==a1)=true then some (.inr (.inr true))else some (.inl (w64 (s1+1)))else some (.inr (.inl ()))
def HI (a0:Ah)(a1:Int):Option Bool:=Ab (iter (Hs a0 a1) Bl 0) fun x1=>match x1 with| .inr r=>some r| .inl y1=>some false
theorem RR {a0 a1 r}(hm:HI a0 a1=some r):Sf prog 73 [ag (Bn a0),.d (.i a1)] (.d (.t r)):=by
 refine sq ?_;intros;refine oB hm fun x1 q1 hm=>gI q1 (fun p=>⟨[(1,.d (.i a1)),(2,.pb 0 0),(5,.d (.i p))],[(0,.box 0 [.d (.i a0.Id),.d (.u a0.Key),.d (.i a0.Delay),sl Ag a0.L,sl eI a0.Hide,sl Ag a0.Wait] 26)],[],1⟩) fun s1 y2 Jl q4 bl1=>gi q4 ?_ ?_<;>intro hc1 q4
 ·refine oB q4 fun x3 q6 q4=>gx eI 1 q6<|gi q4 ?_ ?_<;>intro hc2 q4
  ·obtain rfl:=nR bl1 q4;exact AjC hm▸gE
  exact gN bl1 q4
 obtain rfl:=nR bl1 q4;exact AjC hm▸gE
def IF (a0:List UInt8)(s1:(List UInt64)×Int)(s2:UInt64×UInt64×Int):Option ((UInt64×UInt64×Int)⊕(UInt64)):=if((decide (s2.2.2<(a0.length:Int)))&&(decide (s2.2.2<(w64 (s1.2+7)))))=true then Ab (idx a0 s2.2.2) fun x7=>bnd ((s2.1+(s2.2.1*(toU (x7.toNat:Int))))) fun x8=>some (.inl (x8,(s2.2.1*256),(w64 (s2.2.2+1))))else some (.inr s2.1)
def GP (a0:List UInt8)(s1:(List UInt64)×Int):Option (((List UInt64)×Int)⊕((List UInt64))):=if(decide (s1.2<(a0.length:Int)))=true then Ab (Ab (iter (IF a0 s1) Bl (0,1,s1.2)) fun x5=>some x5) fun x4=>Ab (app 8 s1.1 ([x4]:List UInt64)) fun x9=>some (.inl (x9,(w64 (s1.2+7))))else some (.inr s1.1)
def Ky (a0:List UInt8):Option (List UInt64):=Ab (Ab (iter (GP a0) Bl (([]:List UInt64),0)) fun x2=>some x2) fun x1=>some x1
theorem Aac {a0 r}(hm:Ky a0=some r):Sp prog 201 [sl eB a0] [] 0 (is (.ow 0) [.row 0 1 _ eU r] 1):=by
 refine sq ?_;intros;unfold Ky at hm;obtain⟨x1,q1,hm⟩:=Ad hm;refine oB q1 fun x2 q2 q1=>Nt 0 eU 3 1<|gI q2 (fun(p_0,p_1)=>⟨[(0,sl eB a0),(3,.ow 0),(4,.d (.i p_1))],[(0,.row 0 1 _ eU p_0)],[],1⟩) fun s1 y1 Jl q5 bl1=>gi q5 ?_ ?_<;>intro hc1 q5
 ·obtain⟨x4,q7,q5⟩:=Ad q5;refine oB q7 fun x5 q8 q7=>gI q8 (fun(p_0,p_1,p_2)=>⟨[(0,sl eB a0),(3,.ow 0),(4,.d (.i s1.2)),(5,.d (.u p_0)),(6,.d (.u p_1)),(7,.d (.i p_2))],[(0,.row 0 1 _ eU s1.1)],[],1⟩) fun s2 y2 Jl q11 bl2=>gi q11 ?_ ?_<;>intro hc2 q11
  ·refine oB q11 fun x7 q13 q11=>gx eB 1 q13<|bE q11 ?_;intro x8 q11;exact gN bl2 q11
  obtain rfl:=nR bl2 q11;let x5:=s2.1;obtain rfl:=AjC q7;let x4:=x5;exact gq eU 1 [x4]<|oB q5 fun x9 q15 q5=>gp eU 1 q15<|gN bl1 q5
 obtain rfl:=nR bl1 q5;let x2:=s1.1;obtain rfl:=AjC q1;let x1:=x2;obtain rfl:=AjC hm;exact gE
def CX (a0:UInt64)(a1:UInt64):Option UInt64:=bnd ((((a0%2305843009213693951)+(a1%2305843009213693951))%2305843009213693951)) fun x1=>some x1
theorem Eh {a0 a1 r}(hm:CX a0 a1=some r):Sf prog 202 [.d (.u a0),.d (.u a1)] (.d (.u r)):=by
 refine sq ?_;intros;refine bE hm ?_;intro x1 hm;obtain rfl:=AjC hm;exact gE
def Ey (s1:UInt64×UInt64×UInt64):Option ((UInt64×UInt64×UInt64)⊕(UInt64)):=if(decide ((s1.2.1.toNat:Int)>0))=true then Ab (if(((s1.2.1%2).toNat:Int)==1)=true then Ab (CX s1.2.2 s1.1) fun x5=>some x5 else some s1.2.2) fun x4=>Ab (CX s1.1 s1.1) fun x6=>some (.inl (x6,(s1.2.1/2),x4))else some (.inr s1.2.2)
def Jh (a0:UInt64)(a1:UInt64):Option UInt64:=Ab (Ab (iter Ey Bl ((a0%2305843009213693951),(a1%2305843009213693951),0)) fun x2=>some x2) fun x1=>some x1
theorem Xm {a0 a1 r}(hm:Jh a0 a1=some r):Sf prog 269 [.d (.u a0),.d (.u a1)] (.d (.u r)):=by
 refine sq fun D0 As η0 m0 hd=> ?_;unfold Jh at hm;obtain⟨x1,q1,hm⟩:=Ad hm;refine oB q1 fun x2 q2 q1=>gI q2 (fun(p_0,p_1,p_2)=>⟨[(0,.d (.u p_0)),(1,.d (.u p_1)),(5,.d (.u p_2))],[],[],0⟩) fun s1 y1 Jl q5 bl1=>gi q5 ?_ ?_<;>intro hc1 q5
 ·refine oB q5 fun x4 q7 q5=>gj (fun(_:Unit)=>⟨[(0,.d (.u s1.1)),(1,.d (.u s1.2.1)),(5,.d (.u x4))],[],[],0⟩) (fun _=>True) (fun Jp bk3=> ?_) fun _ _=> ?_
  ·refine gi q7 ?_ ?_<;>intro hc2 q7
   ·refine gA q7 Eh fun x5 q8 q7=> ?_;obtain rfl:=AjC q7;exact gb bk3 hd () trivial
   obtain rfl:=AjC q7;exact gb bk3 hd () trivial
  exact gA q5 Eh fun x6 q9 q5=>gN bl1 q5
 obtain rfl:=nR bl1 q5;let x2:=s1.2.2;obtain rfl:=AjC q1;let x1:=x2;obtain rfl:=AjC hm;exact gE
def Fk (a0:UInt64)(a1:Int)(s1:UInt64×Int):Option ((UInt64×Int)⊕(UInt64)):=if(decide (s1.2<a1))=true then Ab (Jh s1.1 a0) fun x4=>some (.inl (x4,(w64 (s1.2+1))))else some (.inr s1.1)
def CO (a0:UInt64)(a1:Int):Option UInt64:=Ab (Ab (iter (Fk a0 a1) Bl (1,0)) fun x2=>some x2) fun x1=>some x1
theorem MT {a0 a1 r}(hm:CO a0 a1=some r):Sf prog 257 [.d (.u a0),.d (.i a1)] (.d (.u r)):=by
 refine sq ?_;intros;unfold CO at hm;obtain⟨x1,q1,hm⟩:=Ad hm;refine oB q1 fun x2 q2 q1=>gI q2 (fun(p_0,p_1)=>⟨[(0,.d (.u a0)),(1,.d (.i a1)),(5,.d (.u p_0)),(6,.d (.i p_1))],[],[],0⟩) fun s1 y1 Jl q5 bl1=>gi q5 ?_ ?_<;>intro hc1 q5
 ·exact gA q5 Xm fun x4 q7 q5=>gN bl1 q5
 obtain rfl:=nR bl1 q5;let x2:=s1.1;obtain rfl:=AjC q1;let x1:=x2;obtain rfl:=AjC hm;exact gE
def CC (a0:UInt64×UInt64×UInt64)(a1:Int)(s1:Int×UInt64×UInt64×UInt64):Option ((Int×UInt64×UInt64×UInt64)⊕(UInt64×UInt64×UInt64)):=if(decide (s1.1<3))=true then Ab (CO (toU (w64 ((w64 ((w64 (3*a1))+s1.1))+1))) 3) fun x4=>Ab (CX x4 7) fun x5=>Ab (idx [a0.1,a0.2.1,a0.2.2] s1.1) fun x6=>Ab (CX x6 x5) fun x7=>Ab (CO x7 17) fun x8=>Ab (idx [s1.2.1,s1.2.2.1,s1.2.2.2] s1.1) fun x9=>bnd (if s1.1=0 then x8 else s1.2.1) fun x10=>bnd (if s1.1=1 then x8 else s1.2.2.1) fun x11=>bnd (if s1.1=2 then x8 else s1.2.2.2) fun x12=>some (.inl ((w64 (s1.1+1)),x10,x11,x12))else some (.inr (s1.2.1,s1.2.2.1,s1.2.2.2))
def CB (x14:UInt64)(s2:Int×UInt64×UInt64×UInt64):Option ((Int×UInt64×UInt64×UInt64)⊕(UInt64×UInt64×UInt64)):=if(decide (s2.1<3))=true then Ab (idx [s2.2.1,s2.2.2.1,s2.2.2.2] s2.1) fun x18=>Ab (CX x18 x14) fun x19=>Ab (idx [s2.2.1,s2.2.2.1,s2.2.2.2] s2.1) fun x20=>bnd (if s2.1=0 then x19 else s2.2.1) fun x21=>bnd (if s2.1=1 then x19 else s2.2.2.1) fun x22=>bnd (if s2.1=2 then x19 else s2.2.2.2) fun x23=>some (.inl ((w64 (s2.1+1)),x21,x22,x23))else some (.inr (s2.2.1,s2.2.2.1,s2.2.2.2))
def GN (a0:UInt64×UInt64×UInt64)(a1:Int):Option (UInt64×UInt64×UInt64):=Ab (Ab (iter (CC a0 a1) Bl (0,0,0,0)) fun x2=>some (x2.1,x2.2.1,x2.2.2)) fun x1=>Ab (CX x1.1 x1.2.1) fun x13=>Ab (CX x13 x1.2.2) fun x14=>Ab (Ab (iter (CB x14) Bl (0,x1.1,x1.2.1,x1.2.2)) fun x16=>some (x16.1,x16.2.1,x16.2.2)) fun x15=>some x15
theorem TM {a0 a1 r}(hm:GN a0 a1=some r):Sf prog 240 [ag (O7 a0),.d (.i a1)] (ag (O7 r)):=by
 refine sq ?_;intros;unfold GN at hm;obtain⟨x1,q1,hm⟩:=Ad hm;refine oB q1 fun x2 q2 q1=>gI q2 (fun(p_0,p_1,p_2,p_3)=>⟨[(1,.d (.i a1)),(2,.pb 0 0),(4,.pb 1 0),(5,.pb 2 0),(6,.d (.i p_0))],[(0,.box 2 [.d (.u p_1),.d (.u p_2),.d (.u p_3)] 224),(1,.box 1 [.d (.u 0),.d (.u 0),.d (.u 0)] 224),(2,.box 0 [.d (.u a0.1),.d (.u a0.2.1),.d (.u a0.2.2)] 224)],[],3⟩) fun s1 y1 Jl q5 bl1=>gi q5 ?_ ?_<;>intro hc1 q5
 ·refine gA q5 MT fun x4 q7 q5=>gA q5 Eh fun x5 q8 q5=>oB q5 fun x6 q9 q5=>O3 (fun _=>q9)<|gldA D.u (fun _=>q9)<|gA q5 Eh fun x7 q10 q5=>gA q5 MT fun x8 q11 q5=>oB q5 fun x9 q12 q5=>O3 (fun _=>q12)<|bE q5 ?_;intro x10 q5;refine bE q5 ?_;intro x11 q5;refine bE q5 ?_;intro x12 q5;exact AgZ D.u x8 q12<|gN bl1 q5
 obtain rfl:=nR bl1 q5;let x2:=(s1.2.1,s1.2.2.1,s1.2.2.2);obtain rfl:=AjC q1;let x1:=(x2.1,x2.2.1,x2.2.2);refine gA hm Eh fun x13 q16 hm=>gA hm Eh fun x14 q17 hm=> ?_;obtain⟨x15,q18,hm⟩:=Ad hm;refine oB q18 fun x16 q19 q18=>gI q19 (fun(p_0,p_1,p_2,p_3)=>⟨[(4,.pb 1 0),(5,.pb 2 0),(8,.d (.u x14)),(9,.d (.i p_0)),(2,.pb 0 0)],[(0,.box 2 [.d (.u p_1),.d (.u p_2),.d (.u p_3)] 224),(1,.box 1 [.d (.u 0),.d (.u 0),.d (.u 0)] 224),(2,.box 0 [.d (.u a0.1),.d (.u a0.2.1),.d (.u a0.2.2)] 224)],[],3⟩) fun s2 y2 Jl q22 bl2=>gi q22 ?_ ?_<;>intro hc2 q22
 ·refine oB q22 fun x18 q24 q22=>O3 (fun _=>q24)<|gldA D.u (fun _=>q24)<|gA q22 Eh fun x19 q25 q22=>oB q22 fun x20 q26 q22=>O3 (fun _=>q26)<|bE q22 ?_;intro x21 q22;refine bE q22 ?_;intro x22 q22;refine bE q22 ?_;intro x23 q22;exact AgZ D.u x19 q26<|gN bl2 q22
 obtain rfl:=nR bl2 q22;let x16:=(s2.2.1,s2.2.2.1,s2.2.2.2);obtain rfl:=AjC q18;let x15:=(x16.1,x16.2.1,x16.2.2);obtain rfl:=AjC hm;exact gE
def HR (s1:Int×UInt64×UInt64×UInt64):Option ((Int×UInt64×UInt64×UInt64)⊕(UInt64×UInt64×UInt64)):=if(decide (s1.1<8))=true then Ab (GN s1.2 s1.1) fun x4=>some (.inl ((w64 (s1.1+1)),x4.1,x4.2.1,x4.2.2))else some (.inr (s1.2.1,s1.2.2.1,s1.2.2.2))
def Jg (a0:UInt64×UInt64×UInt64):Option (UInt64×UInt64×UInt64):=Ab (Ab (iter HR Bl (0,a0.1,a0.2.1,a0.2.2)) fun x2=>some (x2.1,x2.2.1,x2.2.2)) fun x1=>some x1
theorem Xl {a0 r}(hm:Jg a0=some r):Sf prog 203 [ag (O7 a0)] (ag (O7 r)):=by
 refine sq ?_;intros;unfold Jg at hm;obtain⟨x1,q1,hm⟩:=Ad hm;refine oB q1 fun x2 q2 q1=>gI q2 (fun(p_0,p_1,p_2,p_3)=>⟨[(1,.pb 0 0),(2,.pb 1 0),(3,.d (.i p_0))],[(0,.box 1 [.d (.u 0),.d (.u 0),.d (.u 0)] 224),(1,.box 0 [.d (.u p_1),.d (.u p_2),.d (.u p_3)] 224)],[],2⟩) fun s1 y1 Jl q5 bl1=>gi q5 ?_ ?_<;>intro hc1 q5
 ·exact gA q5 TM fun x4 q7 q5=>gN bl1 q5
 obtain rfl:=nR bl1 q5;let x2:=(s1.2.1,s1.2.2.1,s1.2.2.2);obtain rfl:=AjC q1;let x1:=(x2.1,x2.2.1,x2.2.2);obtain rfl:=AjC hm;exact gE
def Cn (x1:List UInt64)(s1:Int×UInt64×UInt64×UInt64):Option ((Int×UInt64×UInt64×UInt64)⊕(UInt64×UInt64×UInt64)):=if((decide (s1.1<(x1.length:Int)))||(s1.1==0))=true then Ab (if(decide (s1.1<(x1.length:Int)))=true then Ab (idx x1 s1.1) fun x6=>Ab (CX s1.2.1 x6) fun x7=>some x7 else some s1.2.1) fun x5=>Ab (if(decide ((w64 (s1.1+1))<(x1.length:Int)))=true then Ab (idx x1 (w64 (s1.1+1))) fun x9=>Ab (CX s1.2.2.1 x9) fun x10=>some x10 else some s1.2.2.1) fun x8=>Ab (Jg (x5,x8,s1.2.2.2)) fun x11=>some (.inl ((w64 (s1.1+2)),x11.1,x11.2.1,x11.2.2))else some (.inr (s1.2.1,s1.2.2.1,s1.2.2.2))
def K5 (a0:List UInt8):Option (UInt64×UInt64):=Ab (Ky a0) fun x1=>Ab (Ab (iter (Cn x1) Bl (0,0,0,(toU (a0.length:Int)))) fun x3=>some (x3.1,x3.2.1,x3.2.2)) fun x2=>some (x2.1,x2.2.1)
theorem Xk {a0 r}(hm:K5 a0=some r):Sf prog 160 [sl eB a0] (ag (AF r)):=by
 refine sq fun D0 As η0 m0 hd=>gD hm Aac fun x1 q1 hm=> ?_;obtain⟨x2,q2,hm⟩:=Ad hm;refine oB q2 fun x3 q3 q2=>gI q3 (fun(p_0,p_1,p_2,p_3)=>⟨[(2,.pb 0 0),(3,.ow 1),(4,.pb 2 0),(5,.d (.i p_0))],[(0,.box 2 [.d (.u p_1),.d (.u p_2),.d (.u p_3)] 224),(1,.row 1 1 _ eU x1),(2,.box 0 [.d (.u 0),.d (.u 0)] 38)],[],3⟩) fun s1 y1 Jl q6 bl1=>gi q6 ?_ ?_<;>intro hc1 q6
 ·refine oB q6 fun x5 q8 q6=>gj (fun(_:Unit)=>⟨[(2,.pb 0 0),(3,.ow 1),(4,.pb 2 0),(5,.d (.i s1.1))],[(0,.box 2 [.d (.u x5),.d (.u s1.2.2.1),.d (.u s1.2.2.2)] 224),(1,.row 1 1 _ eU x1),(2,.box 0 [.d (.u 0),.d (.u 0)] 38)],[],3⟩) (fun _=>True) (fun Jp bk3=> ?_) fun _ _=> ?_
  ·refine gi q8 ?_ ?_<;>intro hc2 q8
   ·refine oB q8 fun x6 q9 q8=>AfD (E:=eU) (fun _=>q9)<|gldO (k:=1) (fo:=0) (nn:=1) (ag:=false) (E:=eU) (fun _=>rfl) (fun _=>q9)<|gA q8 Eh fun x7 q10 q8=> ?_;obtain rfl:=AjC q8;exact gb bk3 hd () trivial
   obtain rfl:=AjC q8;exact gb bk3 hd () trivial
  refine oB q6 fun x8 q11 q6=>gj (fun(_:Unit)=>⟨[(2,.pb 0 0),(3,.ow 1),(4,.pb 2 0),(5,.d (.i s1.1))],[(0,.box 2 [.d (.u x5),.d (.u x8),.d (.u s1.2.2.2)] 224),(1,.row 1 1 _ eU x1),(2,.box 0 [.d (.u 0),.d (.u 0)] 38)],[],3⟩) (fun _=>True) (fun Jp bk4=> ?_) fun _ _=> ?_
  ·refine gi q11 ?_ ?_<;>intro hc3 q11
   ·refine oB q11 fun x9 q12 q11=>AfD (E:=eU) (fun _=>q12)<|gldO (k:=1) (fo:=0) (nn:=1) (ag:=false) (E:=eU) (fun _=>rfl) (fun _=>q12)<|gA q11 Eh fun x10 q13 q11=> ?_;obtain rfl:=AjC q11;exact gb bk4 hd () trivial
   obtain rfl:=AjC q11;exact gb bk4 hd () trivial
  exact gA q6 Xl fun x11 q14 q6=>gN bl1 q6
 obtain rfl:=nR bl1 q6;let x3:=(s1.2.1,s1.2.2.1,s1.2.2.2);obtain rfl:=AjC q2;let x2:=(x3.1,x3.2.1,x3.2.2);obtain rfl:=AjC hm;exact gE
def F0 (a0:UInt64)(s1:(List UInt8)×Int):Option (((List UInt8)×Int)⊕((List UInt8))):=if(decide (s1.2≥0))=true then Ab (app 1 s1.1 ([(toB ((En a0 ((toU (w64 (8*s1.2))).toNat)).toNat:Int))]:List UInt8)) fun x4=>some (.inl (x4,(w64 (s1.2-1))))else some (.inr s1.1)
def GO (a0:UInt64):Option (List UInt8):=Ab (Ab (iter (F0 a0) Bl (([]:List UInt8),7)) fun x2=>some x2) fun x1=>some x1
theorem TN {a0 r}(hm:GO a0=some r):Sp prog 204 [.d (.u a0)] [] 0 (is (.ow 0) [.row 0 1 _ eB r] 1):=by
 refine sq ?_;intros;unfold GO at hm;obtain⟨x1,q1,hm⟩:=Ad hm;refine oB q1 fun x2 q2 q1=>Nt 0 eB 3 1<|gI q2 (fun(p_0,p_1)=>⟨[(0,.d (.u a0)),(3,.ow 0),(4,.d (.i p_1))],[(0,.row 0 1 _ eB p_0)],[],1⟩) fun s1 y1 Jl q5 bl1=>gi q5 ?_ ?_<;>intro hc1 q5
 ·exact gq eB 1 [(toB ((En a0 ((toU (w64 (8*s1.2))).toNat)).toNat:Int))]<|oB q5 fun x4 q7 q5=>gp eB 1 q7<|gN bl1 q5
 obtain rfl:=nR bl1 q5;let x2:=s1.1;obtain rfl:=AjC q1;let x1:=x2;obtain rfl:=AjC hm;exact gE
def F3 (a1:List (List UInt8))(s1:(List UInt8)×Int):Option (((List UInt8)×Int)⊕((List UInt8))):=if(decide (s1.2<(a1.length:Int)))=true then Ab (idx a1 s1.2) fun x5=>Ab (GO (toU (x5.length:Int))) fun x6=>Ab (cut x6 4 (x6.length:Int)) fun x7=>Ab (app 1 s1.1 x7) fun x8=>Ab (idx a1 s1.2) fun x9=>Ab (app 1 x8 x9) fun x10=>some (.inl (x10,(w64 (s1.2+1))))else some (.inr s1.1)
def K6 (a0:ByteArray)(a1:List (List UInt8)):Option (List UInt8):=Ab (app 1 ([(toB (a0.size:Int))]:List UInt8) a0.data.toList) fun x1=>Ab (Ab (iter (F3 a1) Bl (x1,0)) fun x3=>some x3) fun x2=>some x2
theorem TO {a0 a1 r}(hm:K6 a0 a1=some r):Sp prog 161 [.d (.s a0),sl (eL eB) a1] [] 0 (is (.ow 0) [.row 0 1 _ eB r] 1):=by
 refine sq ?_;intros;refine Xa (k:=1) eB ([(toB (a0.size:Int))]:List UInt8) (fun _=>rfl)<|oB hm fun x1 q1 hm=>gapS q1 ?_;obtain⟨x2,q2,hm⟩:=Ad hm;refine oB q2 fun x3 q3 q2=>gI q3 (fun(p_0,p_1)=>⟨[(1,sl (eL eB) a1),(5,.ow 0),(6,.d (.i p_1))],[(0,.row 0 1 _ eB p_0)],[],1⟩) fun s1 y1 Jl q6 bl1=>gi q6 ?_ ?_<;>intro hc1 q6
 ·exact oB q6 fun x5 q8 q6=>gx (eL eB) 1 q8<|gD q6 TN fun x6 q9 q6=>oB q6 fun x7 q10 q6=>gcutF (k:=1) (E:=eB) (fun _=>rfl) q10<|oB q6 fun x8 q11 q6=>gp eB 1 q11<|oB q6 fun x9 q12 q6=>gx (eL eB) 1 q12<|oB q6 fun x10 q13 q6=>gp eB 1 q13<|gN bl1 q6
 obtain rfl:=nR bl1 q6;let x3:=s1.1;obtain rfl:=AjC q2;let x2:=x3;obtain rfl:=AjC hm;exact gE
def HQ (a0:ByteArray)(a1:List (List UInt8)):Option (UInt64×UInt64):=Ab (K6 a0 a1) fun x1=>Ab (K5 x1) fun x2=>some x2
theorem R3 {a0 a1 r}(hm:HQ a0 a1=some r):Sf prog 126 [.d (.s a0),sl (eL eB) a1] (ag (AF r)):=by
 refine sq ?_;intros;refine gD hm TO fun x1 q1 hm=>gD hm Xk fun x2 q2 hm=> ?_;exact AjC hm▸gE
def H6 (a0:List UInt8):Option (UInt64×UInt64):=Ab (HQ (⟨#[108,101,97,102]⟩:ByteArray) ([a0]:List (List UInt8))) fun x1=>some x1
theorem VA {a0 r}(hm:H6 a0=some r):Sf prog 74 [sl eB a0] (ag (AF r)):=by
 refine sq ?_;intros;refine gq (eL eB) 1 [a0]<|gA hm R3 fun x1 q1 hm=> ?_;exact AjC hm▸gE
def Ht (a0:Ah)(a1:Int)(s1:(List (UInt64×UInt64))×Int):Option (((List (UInt64×UInt64))×Int)⊕((List (UInt64×UInt64)))):=if(decide (s1.2<(a0.L.length:Int)))=true then Ab (Ab (gu (a1==1) (HI a0 s1.2)) fun x6=>if((a1==1)&&x6)=true then Ab (app 1 ([]:List UInt8) ([0]:List UInt8)) fun x7=>some x7 else some ([]:List UInt8)) fun x5=>Ab (idx a0.L s1.2) fun x8=>Ab (app 1 x5 x8.Body) fun x9=>Ab (H6 x9) fun x10=>Ab (app 16 s1.1 ([x10]:List (UInt64×UInt64))) fun x11=>some (.inl (x11,(w64 (s1.2+1))))else some (.inr s1.1)
def DJ (a0:Ah)(a1:Int):Option ((List (UInt64×UInt64))×Int):=Ab (IA a0) fun x1=>if(x1 !=0)=true then some (([]:List (UInt64×UInt64)),x1)else if((a1 !=0)&&(a1 !=1))=true then some (([]:List (UInt64×UInt64)),240)else Ab (Ab (iter (Ht a0 a1) Bl (([]:List (UInt64×UInt64)),0)) fun x3=>some x3) fun x2=>some (x2,0)
theorem RS {a0 a1 r}(hm:DJ a0 a1=some r):Sp prog 40 [ag (Bn a0),.d (.i a1)] [] 0 (is (.tup [.ow 0,.d (.i r.2)]) [.row 0 2 _ AF r.1] 1):=by
 refine sq fun D0 As η0 m0 hd=>gA hm TD fun x1 q1 hm=>gi hm ?_ ?_<;>intro hc1 hm
 ·refine W9 AF 4 2 ?_;obtain rfl:=AjC hm;exact gE
 refine gi hm ?_ ?_<;>intro hc2 hm
 ·refine W9 AF 4 2 ?_;obtain rfl:=AjC hm;exact gE
 obtain⟨x2,q2,hm⟩:=Ad hm;refine oB q2 fun x3 q3 q2=>Nt 0 AF 7 2<|gI q3 (fun(p_0,p_1)=>⟨[(1,.d (.i a1)),(2,.pb 0 0),(7,.ow 1),(8,.d (.i p_1))],[(0,.row 1 2 _ AF p_0),(1,.box 0 [.d (.i a0.Id),.d (.u a0.Key),.d (.i a0.Delay),sl Ag a0.L,sl eI a0.Hide,sl Ag a0.Wait] 26)],[],2⟩) fun s1 y1 Jl q6 bl1=>gi q6 ?_ ?_<;>intro hc3 q6
 ·obtain⟨x5,q8,q6⟩:=Ad q6;refine oB q8 fun x6 q9 q8=>gcH q9 RR<|gj (fun(_:Unit)=>⟨[(1,.d (.i a1)),(2,.pb 0 0),(7,.ow 1),(8,.d (.i s1.2)),(9,.ow 2)],[(0,.row 2 1 _ eB x5),(1,.row 1 2 _ AF s1.1),(2,.box 0 [.d (.i a0.Id),.d (.u a0.Key),.d (.i a0.Delay),sl Ag a0.L,sl eI a0.Hide,sl Ag a0.Wait] 26)],[],3⟩) (fun _=>True) (fun Jp bk3=> ?_) fun _ _=> ?_
  ·refine gi q8 ?_ ?_<;>intro hc4 q8
   ·refine gq eB 1 [0]<|oB q8 fun x7 q10 q8=>gp eB 1 q10 ?_;obtain rfl:=AjC q8;exact gb bk3 hd () trivial
   refine W9 eB 9 1 ?_;obtain rfl:=AjC q8;exact gb bk3 hd () trivial
  exact oB q6 fun x8 q11 q6=>gx Ag 2 q11<|oB q6 fun x9 q12 q6=>gp eB 1 q12<|gD q6 VA fun x10 q13 q6=>gq AF 2 [x10]<|oB q6 fun x11 q14 q6=>gp AF 2 q14<|gN bl1 q6
 obtain rfl:=nR bl1 q6;let x3:=s1.1;obtain rfl:=AjC q2;let x2:=x3;obtain rfl:=AjC hm;exact gE
def Hr (a0:Ah)(a1:Int)(s1:Int):Option ((Int)⊕((Unit)⊕Bool)):=if(decide (s1<(a0.Hide.length:Int)))=true then Ab (idx a0.Hide s1) fun x3=>if(x3==a1)=true then some (.inr (.inr true))else some (.inl (w64 (s1+1)))else some (.inr (.inl ()))
def Ev (a0:Ah)(a1:Int):Option Bool:=Ab (iter (Hr a0 a1) Bl 0) fun x1=>match x1 with| .inr r=>some r| .inl y1=>some false
theorem RP {a0 a1 r}(hm:Ev a0 a1=some r):Sf prog 41 [ag (Bn a0),.d (.i a1)] (.d (.t r)):=by
 refine sq ?_;intros;refine oB hm fun x1 q1 hm=>gI q1 (fun p=>⟨[(1,.d (.i a1)),(2,.pb 0 0),(5,.d (.i p))],[(0,.box 0 [.d (.i a0.Id),.d (.u a0.Key),.d (.i a0.Delay),sl Ag a0.L,sl eI a0.Hide,sl Ag a0.Wait] 26)],[],1⟩) fun s1 y2 Jl q4 bl1=>gi q4 ?_ ?_<;>intro hc1 q4
 ·refine oB q4 fun x3 q6 q4=>gx eI 1 q6<|gi q4 ?_ ?_<;>intro hc2 q4
  ·obtain rfl:=nR bl1 q4;exact AjC hm▸gE
  exact gN bl1 q4
 obtain rfl:=nR bl1 q4;exact AjC hm▸gE
def JX (a0:List UInt8)(a1:Int):Option BJ:=if(decide (a1≥(a0.length:Int)))=true then some (⟨0,0,0,70⟩:BJ)else Ab (idx a0 a1) fun x1=>if((((((w64 (x1.toNat:Int)) !=1)&&((w64 (x1.toNat:Int)) !=2))&&((w64 (x1.toNat:Int)) !=4))&&((w64 (x1.toNat:Int)) !=12))&&((w64 (x1.toNat:Int)) !=48))=true then some (⟨0,0,0,71⟩:BJ)else if(decide ((w64 (a1+1))≥(a0.length:Int)))=true then some (⟨0,0,0,70⟩:BJ)else Ab (idx a0 (w64 (a1+1))) fun x2=>if(decide ((w64 (x2.toNat:Int))<128))=true then some (⟨(w64 (x1.toNat:Int)),(w64 (x2.toNat:Int)),(w64 (a1+2)),0⟩:BJ)else if(((w64 (x2.toNat:Int)) !=129)&&((w64 (x2.toNat:Int)) !=130))=true then some (⟨0,0,0,71⟩:BJ)else if(decide ((w64 ((w64 ((w64 (a1+2))+(w64 (x2.toNat:Int))))-128))>(a0.length:Int)))=true then some (⟨0,0,0,70⟩:BJ)else Ab (idx a0 (w64 (a1+2))) fun x3=>Ab (if((w64 (x2.toNat:Int))==130)=true then Ab (idx a0 (w64 (a1+3))) fun x5=>bnd ((w64 ((w64 (256*(w64 (x3.toNat:Int))))+(w64 (x5.toNat:Int))))) fun x6=>some x6 else some (w64 (x3.toNat:Int))) fun x4=>if((((w64 (x2.toNat:Int))==129)&&(decide (x4<128)))||(((w64 (x2.toNat:Int))==130)&&(decide (x4<256))))=true then some (⟨0,0,0,71⟩:BJ)else some (⟨(w64 (x1.toNat:Int)),x4,(w64 ((w64 ((w64 (a1+2))+(w64 (x2.toNat:Int))))-128)),0⟩:BJ)
theorem VD {a0 a1 r}(hm:JX a0 a1=some r):Sf prog 205 [sl eB a0,.d (.i a1)] (ag (WT r)):=by
 refine sq fun D0 As η0 m0 hd=>gi hm ?_ ?_<;>intro hc1 hm
 ·obtain rfl:=AjC hm;exact gE
 refine oB hm fun x1 q1 hm=>gx eB 1 q1<|gi hm ?_ ?_<;>intro hc2 hm
 ·obtain rfl:=AjC hm;exact gE
 refine gi hm ?_ ?_<;>intro hc3 hm
 ·obtain rfl:=AjC hm;exact gE
 refine oB hm fun x2 q2 hm=>gx eB 1 q2<|gi hm ?_ ?_<;>intro hc4 hm
 ·obtain rfl:=AjC hm;exact gE
 refine gi hm ?_ ?_<;>intro hc5 hm
 ·obtain rfl:=AjC hm;exact gE
 refine gi hm ?_ ?_<;>intro hc6 hm
 ·obtain rfl:=AjC hm;exact gE
 refine oB hm fun x3 q3 hm=>gx eB 1 q3<|oB hm fun x4 q4 hm=>gj (fun(_:Unit)=>⟨[(1,.d (.i a1)),(4,.pb 0 0),(5,.d (.i (w64 (x1.toNat:Int)))),(6,.d (.i (w64 (x2.toNat:Int)))),(7,.d (.i x4))],[(0,.box 0 [.d (.i 0),.d (.i 0),.d (.i 0),.d (.i 0)] 251)],[],1⟩) (fun _=>True) (fun Jp bk1=> ?_) fun _ _=> ?_
 ·refine gi q4 ?_ ?_<;>intro hc7 q4
  ·refine oB q4 fun x5 q5 q4=>gx eB 1 q5<|bE q4 ?_;intro x6 q4;obtain rfl:=AjC q4;exact gb bk1 hd () trivial
  obtain rfl:=AjC q4;exact gb bk1 hd () trivial
 refine gi hm ?_ ?_<;>intro hc8 hm
 ·obtain rfl:=AjC hm;exact gE
 obtain rfl:=AjC hm;exact gE
def ID (a0:List UInt8):Option Bool:=if((decide ((a0.length:Int)<1))||(decide ((a0.length:Int)>8)))=true then some false else Ab (gu (!((a0.length:Int)==1)) (idx a0 0)) fun x1=>Ab (gu ((!((a0.length:Int)==1))&&((x1.toNat:Int)==0)) (idx a0 1)) fun x2=>Ab (gu ((!((a0.length:Int)==1))&&(!(((x1.toNat:Int)==0)&&(decide ((x2.toNat:Int)<128))))) (idx a0 0)) fun x3=>Ab (gu (((!((a0.length:Int)==1))&&(!(((x1.toNat:Int)==0)&&(decide ((x2.toNat:Int)<128)))))&&((x3.toNat:Int)==255)) (idx a0 1)) fun x4=>bnd ((((a0.length:Int)==1)||((!(((x1.toNat:Int)==0)&&(decide ((x2.toNat:Int)<128))))&&(!(((x3.toNat:Int)==255)&&(decide ((x4.toNat:Int)≥128))))))) fun x5=>some x5
theorem TH {a0 r}(hm:ID a0=some r):Sf prog 241 [sl eB a0] (.d (.t r)):=by
 refine sq ?_;intros;refine gi hm ?_ ?_<;>intro hc1 hm
 ·obtain rfl:=AjC hm;exact gE
 refine oB hm fun x1 q1 hm=>gxG eB 1 q1<|oB hm fun x2 q2 hm=>gxG eB 1 q2<|oB hm fun x3 q3 hm=>gxG eB 1 q3<|oB hm fun x4 q4 hm=>gxG eB 1 q4<|bE hm ?_;intro x5 hm;obtain rfl:=AjC hm;exact gE
def Cu (a0:List UInt8)(s1:Int):Option ((Int)⊕((Unit)⊕Bool)):=if(decide (s1<(a0.length:Int)))=true then Ab (idx a0 s1) fun x3=>Ab (gu (!(decide ((x3.toNat:Int)<32))) (idx a0 s1)) fun x4=>if((decide ((x3.toNat:Int)<32))||(decide ((x4.toNat:Int)>126)))=true then some (.inr (.inr false))else some (.inl (w64 (s1+1)))else some (.inr (.inl ()))
def JW (a0:List UInt8):Option Bool:=Ab (iter (Cu a0) Bl 0) fun x1=>match x1 with| .inr r=>some r| .inl y1=>some true
theorem VB {a0 r}(hm:JW a0=some r):Sf prog 242 [sl eB a0] (.d (.t r)):=by
 refine sq ?_;intros;refine oB hm fun x1 q1 hm=>gI q1 (fun p=>⟨[(0,sl eB a0),(3,.d (.i p))],[],[],0⟩) fun s1 y2 Jl q4 bl1=>gi q4 ?_ ?_<;>intro hc1 q4
 ·refine oB q4 fun x3 q6 q4=>gx eB 1 q6<|oB q4 fun x4 q7 q4=>gxG eB 1 q7<|gi q4 ?_ ?_<;>intro hc2 q4
  ·obtain rfl:=nR bl1 q4;exact AjC hm▸gE
  exact gN bl1 q4
 obtain rfl:=nR bl1 q4;exact AjC hm▸gE
def PG (rF:g_api_Item→Option Bool):Prop:= ∀{a0:g_api_Item} {r:Bool},rF a0=some r→Sf prog 206 [ag (Ac a0)] (.d (.t r))
def Cv (rF:g_api_Item→Option Bool)(a0:g_api_Item)(s1:Int):Option ((Int)⊕((Unit)⊕Bool)):=if(decide (s1<(a0.L.length:Int)))=true then Ab (idx a0.L s1) fun x8=>Ab (rF x8) fun x9=>if(!x9)=true then some (.inr (.inr false))else some (.inl (w64 (s1+1)))else some (.inr (.inl ()))
def HP (rF:g_api_Item→Option Bool)(a0:g_api_Item):Option Bool:=if((a0.Tag !=48)&&(decide ((a0.L.length:Int)>0)))=true then some false else if(a0.Tag==1)=true then Ab (gu ((a0.B.length:Int)==1) (idx a0.B 0)) fun x1=>Ab (gu (((a0.B.length:Int)==1)&&(!((x1.toNat:Int)==0))) (idx a0.B 0)) fun x2=>bnd ((((a0.B.length:Int)==1)&&(((x1.toNat:Int)==0)||((x2.toNat:Int)==255)))) fun x3=>some x3 else if(a0.Tag==2)=true then Ab (ID a0.B) fun x4=>some x4 else if(a0.Tag==4)=true then some true else if(a0.Tag==12)=true then Ab (JW a0.B) fun x5=>some x5 else if(a0.Tag==48)=true then Ab (iter ((Cv rF) a0) Bl 0) fun x6=>match x6 with| .inr r=>some r| .inl y1=>some ((a0.B.length:Int)==0)else some false
theorem RX {rF:g_api_Item→Option Bool}(hF:PG rF){a0 r}(hm:HP rF a0=some r):Sf prog 206 [ag (Ac a0)] (.d (.t r)):=by
 refine sq ?_;intros;refine gi hm ?_ ?_<;>intro hc1 hm
 ·obtain rfl:=AjC hm;exact gE
 refine gi hm ?_ ?_<;>intro hc2 hm
 ·refine oB hm fun x1 q1 hm=>gxG eB 1 q1<|oB hm fun x2 q2 hm=>gxG eB 1 q2<|bE hm ?_;intro x3 hm;obtain rfl:=AjC hm;exact gE
 refine gi hm ?_ ?_<;>intro hc3 hm
 ·refine gA hm TH fun x4 q4 hm=> ?_;obtain rfl:=AjC hm;exact gE
 refine gi hm ?_ ?_<;>intro hc4 hm
 ·obtain rfl:=AjC hm;exact gE
 refine gi hm ?_ ?_<;>intro hc5 hm
 ·refine gA hm VB fun x5 q5 hm=> ?_;obtain rfl:=AjC hm;exact gE
 refine gi hm ?_ ?_<;>intro hc6 hm
 ·refine oB hm fun x6 q6 hm=>gI q6 (fun p=>⟨[(1,.pb 0 0),(3,.d (.i p))],[(0,.box 0 [.d (.i a0.Tag),sl eB a0.B,sl Ac a0.L] 159)],[],1⟩) fun s1 y2 Jl q9 bl1=>gi q9 ?_ ?_<;>intro hc7 q9
  ·refine oB q9 fun x8 q11 q9=>gx Ac 3 q11<|gA q9 hF fun x9 q12 q9=>gi q9 ?_ ?_<;>intro hc8 q9
   ·obtain rfl:=nR bl1 q9;obtain rfl:=AjC hm;exact gE
   exact gN bl1 q9
  obtain rfl:=nR bl1 q9;obtain rfl:=AjC hm;exact gE
 obtain rfl:=AjC hm;exact gE
def D9:Nat→g_api_Item→Option Bool
 |0,_=>none
 |n+1,a0=>HP (D9 n) a0
def EY (a0:g_api_Item):Option Bool:=D9 Bl a0
theorem ND: ∀n,PG (D9 n)
 |0=>fun hm=>by cases hm
 |n+1=>fun hm=>RX (ND n) hm
theorem Pj {a0:g_api_Item}{r:Bool}(hm:EY a0=some r):Sf prog 206 [ag (Ac a0)] (.d (.t r)):=ND Bl hm
def PF (rF:(List UInt8)→Int→Int→Option (g_api_Item×Int×Int)):Prop:= ∀{a0:List UInt8} {a1:Int} {a2:Int} {r:g_api_Item×Int×Int},rF a0 a1 a2=some r→Sf prog 162 [sl eB a0,.d (.i a1),.d (.i a2)] (.tup [ag (Ac r.1),.d (.i r.2.1),.d (.i r.2.2)])
def Bv (rF:(List UInt8)→Int→Int→Option (g_api_Item×Int×Int))(a0:List UInt8)(a2:Int)(x1:BJ)(s1:Int×(List g_api_Item)):Option ((Int×(List g_api_Item))⊕(((List g_api_Item))⊕(g_api_Item×Int×Int))):=if(decide (s1.1<(w64 (x1.At+x1.Len))))=true then if(decide (a2≤1))=true then some (.inr (.inr ((⟨0,[],[]⟩:g_api_Item),0,71)))else Ab (cut a0 0 (w64 (x1.At+x1.Len))) fun x7=>Ab (rF x7 s1.1 (w64 (a2-1))) fun x8=>if(x8.2.2 !=0)=true then some (.inr (.inr ((⟨0,[],[]⟩:g_api_Item),0,71)))else Ab (app 56 s1.2 ([x8.1]:List g_api_Item)) fun x9=>some (.inl (x8.2.1,x9))else some (.inr (.inl s1.2))
def HN (rF:(List UInt8)→Int→Int→Option (g_api_Item×Int×Int))(a0:List UInt8)(a1:Int)(a2:Int):Option (g_api_Item×Int×Int):=Ab (JX a0 a1) fun x1=>if(x1.E !=0)=true then some ((⟨0,[],[]⟩:g_api_Item),0,x1.E)else if(decide ((w64 ((w64 (x1.At-a1))+x1.Len))>8192))=true then some ((⟨0,[],[]⟩:g_api_Item),0,71)else if(decide (x1.Len>(w64 ((a0.length:Int)-x1.At))))=true then some ((⟨0,[],[]⟩:g_api_Item),0,70)else if(x1.Tag !=48)=true then Ab (cut a0 x1.At (w64 (x1.At+x1.Len))) fun x2=>Ab (app 1 ([]:List UInt8) x2) fun x3=>Ab (EY (⟨x1.Tag,x3,[]⟩:g_api_Item)) fun x4=>if(!x4)=true then some ((⟨0,[],[]⟩:g_api_Item),0,71)else some ((⟨x1.Tag,x3,[]⟩:g_api_Item),(w64 (x1.At+x1.Len)),0)else Ab (iter ((Bv rF) a0 a2 x1) Bl (x1.At,([]:List g_api_Item))) fun x5=>match x5 with| .inr r=>some r| .inl y1=>some ((⟨x1.Tag,[],y1⟩:g_api_Item),(w64 (x1.At+x1.Len)),0)
theorem RV {rF:(List UInt8)→Int→Int→Option (g_api_Item×Int×Int)}(hF:PF rF){a0 a1 a2 r}(hm:HN rF a0 a1 a2=some r):Sf prog 162 [sl eB a0,.d (.i a1),.d (.i a2)] (.tup [ag (Ac r.1),.d (.i r.2.1),.d (.i r.2.2)]):=by
 refine sq ?_;intros;refine gA hm VD fun x1 q1 hm=>gi hm ?_ ?_<;>intro hc1 hm
 ·obtain rfl:=AjC hm;exact gE
 refine gi hm ?_ ?_<;>intro hc2 hm
 ·obtain rfl:=AjC hm;exact gE
 refine gi hm ?_ ?_<;>intro hc3 hm
 ·obtain rfl:=AjC hm;exact gE
 refine gi hm ?_ ?_<;>intro hc4 hm
 ·refine Xa (k:=1) eB ([]:List UInt8) (fun _=>rfl)<|oB hm fun x2 q2 hm=>gk eB 1 q2<|oB hm fun x3 q3 hm=>gp eB 1 q3<|gD hm Pj fun x4 q4 hm=>gi hm ?_ ?_<;>intro hc5 hm
  ·obtain rfl:=AjC hm;exact gE
  obtain rfl:=AjC hm;exact gE
 refine oB hm fun x5 q5 hm=>WI 0 Ac 11 2 3<|gI q5 (fun(p_0,p_1)=>⟨[(0,sl eB a0),(2,.d (.i a2)),(6,.pb 0 0),(10,.d (.i (w64 (x1.At+x1.Len)))),(11,.pb 2 0),(12,.d (.i p_0)),(9,.pb 1 0)],[(0,.row 3 3 _ Ac p_1),(1,.box 2 [.d (.i x1.Tag),sl eB [],.ow 3] 159),(2,.box 1 [.d (.i x1.Tag),.d (.i x1.Len),.d (.i x1.At),.d (.i x1.E)] 251),(3,.box 0 [.d (.i 0),sl eB [],sl Ac []] 159)],[],4⟩) fun s1 y2 Jl q8 bl1=>gi q8 ?_ ?_<;>intro hc6 q8
 ·refine gi q8 ?_ ?_<;>intro hc7 q8
  ·obtain rfl:=nR bl1 q8;obtain rfl:=AjC hm;exact gE
  refine oB q8 fun x7 q10 q8=>gk eB 1 q10<|gA q8 hF fun x8 q11 q8=>gi q8 ?_ ?_<;>intro hc8 q8
  ·obtain rfl:=nR bl1 q8;obtain rfl:=AjC hm;exact gE
  exact gq Ac 3 [x8.1]<|oB q8 fun x9 q12 q8=>gp Ac 3 q12<|gN bl1 q8
 obtain rfl:=nR bl1 q8;let y1:=s1.2;obtain rfl:=AjC hm;exact gE
def D8:Nat→(List UInt8)→Int→Int→Option (g_api_Item×Int×Int)
 |0,_,_,_=>none
 |n+1,a0,a1,a2=>HN (D8 n) a0 a1 a2
def Mc (a0:List UInt8)(a1:Int)(a2:Int):Option (g_api_Item×Int×Int):=D8 Bl a0 a1 a2
theorem NC: ∀n,PF (D8 n)
 |0=>fun hm=>by cases hm
 |n+1=>fun hm=>RV (NC n) hm
theorem VC {a0:List UInt8}{a1:Int}{a2:Int}{r:g_api_Item×Int×Int}(hm:Mc a0 a1 a2=some r):Sf prog 162 [sl eB a0,.d (.i a1),.d (.i a2)] (.tup [ag (Ac r.1),.d (.i r.2.1),.d (.i r.2.2)]):=NC Bl hm
def Hx (a0:List UInt8)(a1:Int):Option (g_api_Item×Int×Int):=if((decide (a1<0))||(decide (a1>(a0.length:Int))))=true then some ((⟨0,[],[]⟩:g_api_Item),0,1)else Ab (Mc a0 a1 8) fun x1=>some (x1.1,x1.2.1,x1.2.2)
theorem Xj {a0 a1 r}(hm:Hx a0 a1=some r):Sf prog 127 [sl eB a0,.d (.i a1)] (.tup [ag (Ac r.1),.d (.i r.2.1),.d (.i r.2.2)]):=by
 refine sq ?_;intros;refine gi hm ?_ ?_<;>intro hc1 hm
 ·exact AjC hm▸gE
 refine gA hm VC fun x1 q1 hm=> ?_;exact AjC hm▸gE
def PI (rF:g_api_Item→Option Int):Prop:= ∀{a0:g_api_Item} {r:Int},rF a0=some r→Sf prog 243 [ag (Ac a0)] (.d (.i r))
def Cx (rF:g_api_Item→Option Int)(a0:g_api_Item)(s1:Int×Int):Option ((Int×Int)⊕(Int)):=if(decide (s1.2<(a0.L.length:Int)))=true then Ab (idx a0.L s1.2) fun x4=>Ab (rF x4) fun x5=>some (.inl ((Afi s1.1 x5),(w64 (s1.2+1))))else some (.inr s1.1)
def FN (rF:g_api_Item→Option Int)(a0:g_api_Item):Option Int:=Ab (Ab (iter ((Cx rF) a0) Bl (0,0)) fun x2=>some x2) fun x1=>some (w64 (x1+1))
theorem RY {rF:g_api_Item→Option Int}(hF:PI rF){a0 r}(hm:FN rF a0=some r):Sf prog 243 [ag (Ac a0)] (.d (.i r)):=by
 refine sq ?_;intros;unfold FN at hm;obtain⟨x1,q1,hm⟩:=Ad hm;refine oB q1 fun x2 q2 q1=>gI q2 (fun(p_0,p_1)=>⟨[(1,.pb 0 0),(3,.d (.i p_0)),(4,.d (.i p_1))],[(0,.box 0 [.d (.i a0.Tag),sl eB a0.B,sl Ac a0.L] 159)],[],1⟩) fun s1 y1 Jl q5 bl1=>gi q5 ?_ ?_<;>intro hc1 q5
 ·exact oB q5 fun x4 q7 q5=>gx Ac 3 q7<|gA q5 hF fun x5 q8 q5=>gN bl1 q5
 obtain rfl:=nR bl1 q5;let x2:=s1.1;obtain rfl:=AjC q1;let x1:=x2;obtain rfl:=AjC hm;exact gE
def ET:Nat→g_api_Item→Option Int
 |0,_=>none
 |n+1,a0=>FN (ET n) a0
def Me (a0:g_api_Item):Option Int:=ET Bl a0
theorem NF: ∀n,PI (ET n)
 |0=>fun hm=>by cases hm
 |n+1=>fun hm=>RY (NF n) hm
theorem VE {a0:g_api_Item}{r:Int}(hm:Me a0=some r):Sf prog 243 [ag (Ac a0)] (.d (.i r)):=NF Bl hm
def Jf (a0:g_api_Item):Option Bool:=Ab (EY a0) fun x1=>Ab (gu x1 (Me a0)) fun x2=>some (x1&&(decide (x2≤8)))
theorem Qo {a0 r}(hm:Jf a0=some r):Sf prog 207 [ag (Ac a0)] (.d (.t r)):=by
 refine sq ?_;intros;refine gA hm Pj fun x1 q1 hm=>oB hm fun x2 q2 hm=>gcH q2 VE ?_;exact AjC hm▸gE
def Hw (a0:g_api_Item)(a1:Int):Option Int:=if(a0.Tag !=a1)=true then some 72 else Ab (Jf a0) fun x1=>if(!x1)=true then some 71 else some 0
theorem Mx {a0 a1 r}(hm:Hw a0 a1=some r):Sf prog 163 [ag (Ac a0),.d (.i a1)] (.d (.i r)):=by
 refine sq ?_;intros;refine gi hm ?_ ?_<;>intro hc1 hm
 ·exact AjC hm▸gE
 refine gA hm Qo fun x1 q1 hm=>gi hm ?_ ?_<;>intro hc2 hm
 ·exact AjC hm▸gE
 exact AjC hm▸gE
def CN (a0:g_api_Item):Option ((List g_api_Item)×Int):=Ab (Hw a0 48) fun x1=>if(x1 !=0)=true then some (([]:List g_api_Item),x1)else Ab (app 56 ([]:List g_api_Item) a0.L) fun x2=>some (x2,0)
theorem NN {a0 r}(hm:CN a0=some r):Sp prog 128 [ag (Ac a0)] [] 0 (is (.tup [.ow 0,.d (.i r.2)]) [.row 0 3 _ Ac r.1] 1):=by
 refine sq ?_;intros;refine gA hm Mx fun x1 q1 hm=>gi hm ?_ ?_<;>intro hc1 hm
 ·refine W9 Ac 2 3 ?_;exact AjC hm▸gE
 refine Xa (k:=3) Ac ([]:List g_api_Item) (fun _=>rfl)<|oB hm fun x2 q2 hm=>gp Ac 3 q2 ?_;exact AjC hm▸gE
theorem U5 {a0:g_api_Item}{r:(List g_api_Item)×Int}(hm:CN a0=some r):Sf prog 128 [ag (Ac a0)] (.tup [sl Ac r.1,.d (.i r.2)]):=Sp.fz (NN hm) (by kernel_rfl)
def B7 (a0:g_api_Item)(s1:Int×Int):Option ((Int×Int)⊕(Int)):=if(decide (s1.2<(a0.B.length:Int)))=true then Ab (idx a0.B s1.2) fun x7=>bnd ((w64 ((w64 (256*s1.1))+(w64 (x7.toNat:Int))))) fun x8=>some (.inl (x8,(w64 (s1.2+1))))else some (.inr s1.1)
def Fj (a0:g_api_Item):Option (Int×Int):=Ab (Hw a0 2) fun x1=>if(x1 !=0)=true then some (0,x1)else Ab (Ab (idx a0.B 0) fun x3=>if(decide ((x3.toNat:Int)≥128))=true then some (-1)else some 0) fun x2=>Ab (Ab (iter (B7 a0) Bl (x2,0)) fun x5=>some x5) fun x4=>some (x4,0)
theorem TL {a0 r}(hm:Fj a0=some r):Sf prog 208 [ag (Ac a0)] (.tup [.d (.i r.1),.d (.i r.2)]):=by
 refine sq fun D0 As η0 m0 hd=>gA hm Mx fun x1 q1 hm=>gi hm ?_ ?_<;>intro hc1 hm
 ·obtain rfl:=AjC hm;exact gE
 obtain⟨x2,q2,hm⟩:=Ad hm;refine oB q2 fun x3 q3 q2=>gx eB 1 q3<|gj (fun(_:Unit)=>⟨[(1,.pb 0 0),(5,.d (.i x2))],[(0,.box 0 [.d (.i a0.Tag),sl eB a0.B,sl Ac a0.L] 159)],[],1⟩) (fun _=>True) (fun Jp bk1=> ?_) fun _ _=> ?_
 ·refine gi q2 ?_ ?_<;>intro hc2 q2
  ·obtain rfl:=AjC q2;exact gb bk1 hd () trivial
  obtain rfl:=AjC q2;exact gb bk1 hd () trivial
 obtain⟨x4,q4,hm⟩:=Ad hm;refine oB q4 fun x5 q5 q4=>gI q5 (fun(p_0,p_1)=>⟨[(1,.pb 0 0),(5,.d (.i p_0)),(6,.d (.i p_1))],[(0,.box 0 [.d (.i a0.Tag),sl eB a0.B,sl Ac a0.L] 159)],[],1⟩) fun s1 y1 Jl q8 bl1=>gi q8 ?_ ?_<;>intro hc3 q8
 ·refine oB q8 fun x7 q10 q8=>gx eB 1 q10<|bE q8 ?_;intro x8 q8;exact gN bl1 q8
 obtain rfl:=nR bl1 q8;let x5:=s1.1;obtain rfl:=AjC q4;let x4:=x5;obtain rfl:=AjC hm;exact gE
def Cb (a0:Ao):Option (g_api_Item×Ao):=if((a0.L.length:Int)==0)=true then some ((⟨0,[],[]⟩:g_api_Item),(⟨a0.L,true⟩:Ao))else Ab (idx a0.L 0) fun x1=>Ab (cut a0.L 1 (a0.L.length:Int)) fun x2=>some (x1,(⟨x2,a0.Bad⟩:Ao))
theorem Ef {a0 r}(hm:Cb a0=some r):Sp prog 209 [.pb 0 0] [.box 0 [sl Ac a0.L,.d (.t a0.Bad)] 215] 1 (is (ag (Ac r.1)) [.box 0 [.d (.sl _ Ac r.2.L),.d (.t r.2.Bad)] 215] 1):=by
 refine sq ?_;intros;refine gi hm ?_ ?_<;>intro hc1 hm
 ·exact AjC hm▸gE
 refine oB hm fun x1 q1 hm=>gx Ac 3 q1<|oB hm fun x2 q2 hm=>gk Ac 3 q2 ?_;exact AjC hm▸gE
def AG (a0:Ao):Option (Int×Ao):=Ab (Cb a0) fun x1=>Ab (Fj x1.1) fun x2=>some (x2.1,(⟨x1.2.L,((x1.2.Bad||(x2.2 !=0))||(decide (x2.1<0)))⟩:Ao))
theorem AT {a0 r}(hm:AG a0=some r):Sp prog 164 [.pb 0 0] [.box 0 [sl Ac a0.L,.d (.t a0.Bad)] 215] 1 (is (.d (.i r.1)) [.box 0 [.d (.sl _ Ac r.2.L),.d (.t r.2.Bad)] 215] 1):=by
 refine sq ?_;intros;refine gD hm Ef fun x1 q1 hm=>gA hm TL fun x2 q2 hm=> ?_;exact AjC hm▸gE
def Ew (a0:g_api_Item):Option (ByteArray×Int):=Ab (Hw a0 12) fun x1=>if(x1 !=0)=true then some ((⟨#[]⟩:ByteArray),x1)else some ((bs a0.B),0)
theorem RZ {a0 r}(hm:Ew a0=some r):Sf prog 210 [ag (Ac a0)] (.tup [.d (.s r.1),.d (.i r.2)]):=by
 refine sq ?_;intros;refine gA hm Mx fun x1 q1 hm=>gi hm ?_ ?_<;>intro hc1 hm
 ·exact AjC hm▸gE
 refine gbs (xs:=a0.B) ?_;exact AjC hm▸gE
def B9 (a0:Ao):Option (ByteArray×Ao):=Ab (Cb a0) fun x1=>Ab (Ew x1.1) fun x2=>some (x2.1,(⟨x1.2.L,(x1.2.Bad||(x2.2 !=0))⟩:Ao))
theorem F8 {a0 r}(hm:B9 a0=some r):Sp prog 165 [.pb 0 0] [.box 0 [sl Ac a0.L,.d (.t a0.Bad)] 215] 1 (is (.d (.s r.1)) [.box 0 [.d (.sl _ Ac r.2.L),.d (.t r.2.Bad)] 215] 1):=by
 refine sq ?_;intros;refine gD hm Ef fun x1 q1 hm=>gA hm RZ fun x2 q2 hm=> ?_;exact AjC hm▸gE
def BA (a0:Ao):Option ((List g_api_Item)×Ao):=Ab (Cb a0) fun x1=>Ab (CN x1.1) fun x2=>some (x2.1,(⟨x1.2.L,(x1.2.Bad||(x2.2 !=0))⟩:Ao))
theorem CT {a0 r}(hm:BA a0=some r):Sp prog 168 [.pb 0 0] [.box 0 [sl Ac a0.L,.d (.t a0.Bad)] 215] 1 (is (.ow 1) [.box 0 [.d (.sl _ Ac r.2.L),.d (.t r.2.Bad)] 215,.row 1 3 _ Ac r.1] 2):=by
 refine sq ?_;intros;refine gD hm Ef fun x1 q1 hm=>gD hm NN fun x2 q2 hm=> ?_;exact AjC hm▸gE
def A1 (s1:(List ByteArray)×(List g_api_Item)×Bool):Option (((List ByteArray)×(List g_api_Item)×Bool)⊕((List ByteArray)×(List g_api_Item)×Bool)):=if(decide ((s1.2.1.length:Int)>0))=true then Ab (B9 (⟨s1.2.1,s1.2.2⟩:Ao)) fun x5=>Ab (app 16 s1.1 ([x5.1]:List ByteArray)) fun x6=>some (.inl (x6,x5.2.L,x5.2.Bad))else some (.inr (s1.1,s1.2.1,s1.2.2))
def C0 (a0:Ao):Option ((List ByteArray)×Ao):=Ab (BA a0) fun x1=>Ab (Ab (iter A1 Bl (([]:List ByteArray),x1.1,false)) fun x3=>some (x3.1,x3.2.1,x3.2.2)) fun x2=>some (x2.1,(⟨x1.2.L,(x1.2.Bad||x2.2.2)⟩:Ao))
theorem Is {a0 r}(hm:C0 a0=some r):Sp prog 166 [.pb 0 0] [.box 0 [sl Ac a0.L,.d (.t a0.Bad)] 215] 1 (is (.ow 1) [.box 0 [.d (.sl _ Ac r.2.L),.d (.t r.2.Bad)] 215,.row 1 1 _ eS r.1] 2):=by
 refine sq ?_;intros;refine gD hm CT fun x1 q1 hm=> ?_;obtain⟨x2,q2,hm⟩:=Ad hm;refine oB q2 fun x3 q3 q2=>Nt 0 eS 4 1<|gI q3 (fun(p_0,p_1,p_2)=>⟨[(0,.pb 0 0),(3,.pb 1 0),(4,.ow 2),(8,.pb 1 0)],[(0,.row 2 1 _ eS p_0),(1,.box 1 [sl Ac p_1,.d (.t p_2)] 215),(2,.box 0 [sl Ac x1.2.L,.d (.t x1.2.Bad)] 215)],[],3⟩) fun s1 y1 Jl q6 bl1=>gi q6 ?_ ?_<;>intro hc1 q6
 ·exact gD q6 F8 fun x5 q8 q6=>gq eS 1 [x5.1]<|oB q6 fun x6 q9 q6=>gp eS 1 q9<|gN bl1 q6
 obtain rfl:=nR bl1 q6;let x3:=(s1.1,s1.2.1,s1.2.2);obtain rfl:=AjC q2;let x2:=(x3.1,x3.2.1,x3.2.2);obtain rfl:=AjC hm;exact gE
def Ex (a0:g_api_Item):Option (Bool×Int):=Ab (Hw a0 1) fun x1=>if(x1 !=0)=true then some (false,x1)else Ab (idx a0.B 0) fun x2=>some (((x2.toNat:Int)==255),0)
theorem R2 {a0 r}(hm:Ex a0=some r):Sf prog 211 [ag (Ac a0)] (.tup [.d (.t r.1),.d (.i r.2)]):=by
 refine sq ?_;intros;refine gA hm Mx fun x1 q1 hm=>gi hm ?_ ?_<;>intro hc1 hm
 ·exact AjC hm▸gE
 refine oB hm fun x2 q2 hm=>gx eB 1 q2 ?_;exact AjC hm▸gE
def DS (a0:Ao):Option (Bool×Ao):=Ab (Cb a0) fun x1=>Ab (Ex x1.1) fun x2=>some (x2.1,(⟨x1.2.L,(x1.2.Bad||(x2.2 !=0))⟩:Ao))
theorem MH {a0 r}(hm:DS a0=some r):Sp prog 167 [.pb 0 0] [.box 0 [sl Ac a0.L,.d (.t a0.Bad)] 215] 1 (is (.d (.t r.1)) [.box 0 [.d (.sl _ Ac r.2.L),.d (.t r.2.Bad)] 215] 1):=by
 refine sq ?_;intros;refine gD hm Ef fun x1 q1 hm=>gA hm R2 fun x2 q2 hm=> ?_;exact AjC hm▸gE
def Fi (a0:List g_api_Item):Option (g_api_Cert×Bool):=Ab (AG (⟨a0,false⟩:Ao)) fun x1=>Ab (B9 x1.2) fun x2=>Ab (B9 x2.2) fun x3=>Ab (AG x3.2) fun x4=>Ab (C0 x4.2) fun x5=>Ab (AG x5.2) fun x6=>Ab (AG x6.2) fun x7=>Ab (DS x7.2) fun x8=>Ab (AG x8.2) fun x9=>Ab (C0 x9.2) fun x10=>bnd (((!x10.2.Bad)&&((x10.2.L.length:Int)==0))) fun x11=>some ((⟨x1.1,x2.1,x3.1,(toU x4.1),x5.1,x6.1,x7.1,x8.1,x9.1,x10.1,[],(⟨0,0⟩:g_api_Sig)⟩:g_api_Cert),x11)
theorem NM {a0 r}(hm:Fi a0=some r):Sf prog 129 [sl Ac a0] (.tup [.agg (List.set (((Am r.1)).map dv) 10 (.d (.v (.slice none 0 0)))),.d (.t r.2)]):=by
 refine sq ?_;intros;refine gD hm AT fun x1 q1 hm=>gD hm F8 fun x2 q2 hm=>gD hm F8 fun x3 q3 hm=>gD hm AT fun x4 q4 hm=>gD hm Is fun x5 q5 hm=>gD hm AT fun x6 q6 hm=>gD hm AT fun x7 q7 hm=>gD hm MH fun x8 q8 hm=>gD hm AT fun x9 q9 hm=> ?_;refine gD hm Is fun x10 q10 hm=>bE hm ?_;intro x11 hm;obtain rfl:=AjC hm;exact gE
def MW (a0:List g_api_Item):Option (g_api_Promise×Bool):=Ab (AG (⟨a0,false⟩:Ao)) fun x1=>Ab (AG x1.2) fun x2=>Ab (AG x2.2) fun x3=>Ab (AG x3.2) fun x4=>Ab (AG x4.2) fun x5=>Ab (AG x5.2) fun x6=>bnd (((!x6.2.Bad)&&((x6.2.L.length:Int)==0))) fun x7=>some ((⟨x1.1,x2.1,((toU x3.1),(toU x4.1)),(⟨(toU x5.1),(toU x6.1)⟩:g_api_Sig)⟩:g_api_Promise),x7)
theorem RT {a0 r}(hm:MW a0=some r):Sf prog 169 [sl Ac a0] (.tup [ag (Ae r.1),.d (.t r.2)]):=by
 refine sq ?_;intros;refine gD hm AT fun x1 q1 hm=>gD hm AT fun x2 q2 hm=>gD hm AT fun x3 q3 hm=>gD hm AT fun x4 q4 hm=>gD hm AT fun x5 q5 hm=>gD hm AT fun x6 q6 hm=>bE hm ?_;intro x7 hm;obtain rfl:=AjC hm;exact gE
def OU (s1:Bool×(List g_api_Item)×Bool×(List g_api_Promise)):Option ((Bool×(List g_api_Item)×Bool×(List g_api_Promise))⊕(Bool×(List g_api_Item)×Bool×(List g_api_Promise))):=if(decide ((s1.2.1.length:Int)>0))=true then Ab (BA (⟨s1.2.1,s1.2.2.1⟩:Ao)) fun x7=>Ab (MW x7.1) fun x8=>Ab (app 48 s1.2.2.2 ([x8.1]:List g_api_Promise)) fun x9=>some (.inl ((s1.1&&x8.2),x7.2.L,x7.2.Bad,x9))else some (.inr (s1.1,s1.2.1,s1.2.2.1,s1.2.2.2))
def J8 (a0:List g_api_Item):Option (g_api_Cert×Bool):=Ab (BA (⟨a0,false⟩:Ao)) fun x1=>Ab (Fi x1.1) fun x2=>Ab (BA x1.2) fun x3=>Ab (Ab (iter OU Bl (x2.2,x3.1,false,([]:List g_api_Promise))) fun x5=>some (x5.1,x5.2.1,x5.2.2.1,x5.2.2.2)) fun x4=>bnd ((((x4.1&&(!x3.2.Bad))&&(!x4.2.2.1))&&((x3.2.L.length:Int)==0))) fun x10=>some ((⟨x2.1.Serial,x2.1.Issuer,x2.1.Subject,x2.1.Key,x2.1.Names,x2.1.From,x2.1.Until,x2.1.Ca,x2.1.Depth,x2.1.Permit,x4.2.2.2,x2.1.Sig⟩:g_api_Cert),x10)
theorem MR {a0 r}(hm:J8 a0=some r):Sf prog 130 [sl Ac a0] (.tup [ag (Am r.1),.d (.t r.2)]):=by
 refine sq ?_;intros;refine gD hm CT fun x1 q1 hm=>gD hm NM fun x2 q2 hm=>gD hm CT fun x3 q3 hm=> ?_;obtain⟨x4,q4,hm⟩:=Ad hm;refine oB q4 fun x5 q5 q4=>WI 0 Ae 5 10 6<|gI q5 (fun(p_0,p_1,p_2,p_3)=>⟨[(2,.pb 0 0),(4,.pb 2 0),(5,.pb 1 0),(6,.d (.t p_0)),(7,.pb 3 0),(22,.pb 3 0),(12,.pb 2 0)],[(0,.row 4 6 _ Ae p_3),(1,.box 3 [sl Ac p_1,.d (.t p_2)] 215),(2,.box 2 [sl Ac x3.2.L,.d (.t x3.2.Bad)] 215),(3,.box 1 [.d (.i x2.1.Serial),.d (.s x2.1.Issuer),.d (.s x2.1.Subject),.d (.u x2.1.Key),sl eS x2.1.Names,.d (.i x2.1.From),.d (.i x2.1.Until),.d (.t x2.1.Ca),.d (.i x2.1.Depth),sl eS x2.1.Permit,.ow 4,.d (.u x2.1.Sig.E),.d (.u x2.1.Sig.S)] 59),(4,.box 0 [.d (.i 0),.d (.s ByteArray.empty),.d (.s ByteArray.empty),.d (.u 0),sl eS [],.d (.i 0),.d (.i 0),.d (.t false),.d (.i 0),sl eS [],sl Ae [],.d (.u 0),.d (.u 0)] 59)],[],5⟩) fun s1 y1 Jl q8 bl1=>gi q8 ?_ ?_<;>intro hc1 q8
 ·exact gD q8 CT fun x7 q10 q8=>gD q8 RT fun x8 q11 q8=>gq Ae 6 [x8.1]<|oB q8 fun x9 q12 q8=>gp Ae 6 q12<|gN bl1 q8
 obtain rfl:=nR bl1 q8;let x5:=(s1.1,s1.2.1,s1.2.2.1,s1.2.2.2);obtain rfl:=AjC q4;let x4:=(x5.1,x5.2.1,x5.2.2.1,x5.2.2.2);refine bE hm ?_;intro x10 hm;obtain rfl:=AjC hm;exact gE
def Mb (a0:List g_api_Item):Option (g_api_Cert×Bool):=Ab (BA (⟨a0,false⟩:Ao)) fun x1=>Ab (J8 x1.1) fun x2=>Ab (BA x1.2) fun x3=>Ab (AG (⟨x3.1,false⟩:Ao)) fun x4=>Ab (AG x4.2) fun x5=>bnd ((((x2.2&&(!x3.2.Bad))&&(!x5.2.Bad))&&((w64 ((x3.2.L.length:Int)+(x5.2.L.length:Int)))==0))) fun x6=>some ((⟨x2.1.Serial,x2.1.Issuer,x2.1.Subject,x2.1.Key,x2.1.Names,x2.1.From,x2.1.Until,x2.1.Ca,x2.1.Depth,x2.1.Permit,x2.1.Proms,(⟨(toU x4.1),(toU x5.1)⟩:g_api_Sig)⟩:g_api_Cert),x6)
theorem Qj {a0 r}(hm:Mb a0=some r):Sf prog 131 [sl Ac a0] (.tup [ag (Am r.1),.d (.t r.2)]):=by
 refine sq ?_;intros;refine gD hm CT fun x1 q1 hm=>gD hm MR fun x2 q2 hm=>gD hm CT fun x3 q3 hm=>gD hm AT fun x4 q4 hm=>gD hm AT fun x5 q5 hm=>bE hm ?_;intro x6 hm;obtain rfl:=AjC hm;exact gE
def Gb (a0:Int):Option Bool:=bnd (((decide (a0≥0))&&(decide (a0≤1099511627776)))) fun x1=>some x1
theorem I0 {a0 r}(hm:Gb a0=some r):Sf prog 212 [.d (.i a0)] (.d (.t r)):=by
 refine sq ?_;intros;refine bE hm ?_;intro x1 hm;obtain rfl:=AjC hm;exact gE
def Ct (a0:ByteArray)(s1:Int):Option ((Int)⊕((Unit)⊕Bool)):=if(decide (s1<(a0.size:Int)))=true then Ab (idx a0.data.toList s1) fun x3=>Ab (gu (!(decide ((x3.toNat:Int)<33))) (idx a0.data.toList s1)) fun x4=>if((decide ((x3.toNat:Int)<33))||(decide ((x4.toNat:Int)>126)))=true then some (.inr (.inr false))else some (.inl (w64 (s1+1)))else some (.inr (.inl ()))
def H5 (a0:ByteArray):Option Bool:=Ab (iter (Ct a0) Bl 0) fun x1=>match x1 with| .inr r=>some r| .inl y1=>bnd (((decide ((a0.size:Int)≥1))&&(decide ((a0.size:Int)≤64)))) fun x5=>some x5
theorem Pg {a0 r}(hm:H5 a0=some r):Sf prog 213 [.d (.s a0)] (.d (.t r)):=by
 refine sq ?_;intros;refine oB hm fun x1 q1 hm=>gI q1 (fun p=>⟨[(0,.d (.s a0)),(3,.d (.i p))],[],[],0⟩) fun s1 y2 Jl q4 bl1=>gi q4 ?_ ?_<;>intro hc1 q4
 ·refine oB q4 fun x3 q6 q4=>Yj (fun _=>q6)<|oB q4 fun x4 q7 q4=>Rh (fun h=>Yh h q7)<|gi q4 ?_ ?_<;>intro hc2 q4
  ·obtain rfl:=nR bl1 q4;obtain rfl:=AjC hm;exact gE
  exact gN bl1 q4
 obtain rfl:=nR bl1 q4;refine bE hm ?_;intro x5 hm;obtain rfl:=AjC hm;exact gE
def FK (a0:g_api_Sig):Option Bool:=bnd (((decide ((a0.E.toNat:Int)<1152921504606845789))&&(decide ((a0.S.toNat:Int)<1152921504606845789)))) fun x1=>some x1
theorem MS {a0 r}(hm:FK a0=some r):Sf prog 214 [ag (Rp a0)] (.d (.t r)):=by
 refine sq ?_;intros;refine bE hm ?_;intro x1 hm;obtain rfl:=AjC hm;exact gE
def GJ (a0:g_api_Promise):Option Bool:=Ab (Gb a0.Log) fun x1=>Ab (gu x1 (Gb a0.At)) fun x2=>Ab (gu (((x1&&x2)&&(decide ((a0.Leaf.1.toNat:Int)<2305843009213693951)))&&(decide ((a0.Leaf.2.toNat:Int)<2305843009213693951))) (FK a0.Sig)) fun x3=>bnd (((((x1&&x2)&&(decide ((a0.Leaf.1.toNat:Int)<2305843009213693951)))&&(decide ((a0.Leaf.2.toNat:Int)<2305843009213693951)))&&x3)) fun x4=>some x4
theorem Qk {a0 r}(hm:GJ a0=some r):Sf prog 215 [ag (Ae a0)] (.d (.t r)):=by
 refine sq ?_;intros;refine gA hm I0 fun x1 q1 hm=>oB hm fun x2 q2 hm=>gcH q2 I0<|oB hm fun x3 q3 hm=>gcH q3 MS<|bE hm ?_;intro x4 hm;obtain rfl:=AjC hm;exact gE
def BL (a0:ByteArray)(s1:(List ByteArray)×Int×Int):Option (((List ByteArray)×Int×Int)⊕((List ByteArray)×Int)):=if(decide (s1.2.2<(a0.size:Int)))=true then Ab (Ab (idx a0.data.toList s1.2.2) fun x5=>if((x5.toNat:Int)==46)=true then Ab (Ru a0 s1.2.1 s1.2.2) fun x6=>Ab (app 16 s1.1 ([x6]:List ByteArray)) fun x7=>some (x7,(w64 (s1.2.2+1)))else some (s1.1,s1.2.1)) fun x4=>some (.inl (x4.1,x4.2,(w64 (s1.2.2+1))))else some (.inr (s1.1,s1.2.1))
def Hv (a0:ByteArray):Option (List ByteArray):=Ab (Ab (iter (BL a0) Bl (([]:List ByteArray),0,0)) fun x2=>some (x2.1,x2.2)) fun x1=>Ab (Ru a0 x1.2 (a0.size:Int)) fun x8=>Ab (app 16 x1.1 ([x8]:List ByteArray)) fun x9=>some x9
theorem Ql {a0 r}(hm:Hv a0=some r):Sp prog 258 [.d (.s a0)] [] 0 (is (.ow 0) [.row 0 1 _ eS r] 1):=by
 refine sq fun D0 As η0 m0 hd=> ?_;unfold Hv at hm;obtain⟨x1,q1,hm⟩:=Ad hm;refine oB q1 fun x2 q2 q1=>Nt 0 eS 3 1<|gI q2 (fun(p_0,p_1,p_2)=>⟨[(0,.d (.s a0)),(3,.ow 0),(4,.d (.i p_1)),(5,.d (.i p_2))],[(0,.row 0 1 _ eS p_0)],[],1⟩) fun s1 y1 Jl q5 bl1=>gi q5 ?_ ?_<;>intro hc1 q5
 ·refine oB q5 fun x4 q7 q5=>gjU 1 (fun(_:Unit)=>let (y_0,y_1):=x4; ⟨[(0,.d (.s a0)),(3,.ow 0),(4,.d (.i y_1)),(5,.d (.i s1.2.2))],[(0,.row 0 1 _ eS y_0)],[],1⟩) (fun _=>True) (fun Jp bk3=> ?_) fun _ _=> ?_
  ·refine oB q7 fun x5 q8 q7=>Yj (fun _=>q8)<|gi q7 ?_ ?_<;>intro hc2 q7
   ·refine oB q7 fun x6 q9 q7=>WK (fun _=>q9)<|gq eS 1 [x6]<|oB q7 fun x7 q10 q7=>gp eS 1 q10 ?_;obtain rfl:=AjC q7;exact gb bk3 hd () trivial
   obtain rfl:=AjC q7;exact gb bk3 hd () trivial
  exact gN bl1 q5
 obtain rfl:=nR bl1 q5;let x2:=(s1.1,s1.2.1);obtain rfl:=AjC q1;let x1:=(x2.1,x2.2);refine oB hm fun x8 q11 hm=>WK (fun _=>q11)<|gq eS 1 [x8]<|oB hm fun x9 q12 hm=>gp eS 1 q12 ?_;obtain rfl:=AjC hm;exact gE
def Ea (a0:UInt8):Option Bool:=bnd ((((decide ((a0.toNat:Int)≥97))&&(decide ((a0.toNat:Int)≤122)))||((decide ((a0.toNat:Int)≥48))&&(decide ((a0.toNat:Int)≤57))))) fun x1=>some x1
theorem LF {a0 r}(hm:Ea a0=some r):Sf prog 270 [.d (.b a0)] (.d (.t r)):=by
 refine sq ?_;intros;refine bE hm ?_;intro x1 hm;obtain rfl:=AjC hm;exact gE
def B6 (a0:ByteArray)(s1:Int):Option ((Int)⊕((Unit)⊕Bool)):=if(decide (s1<(a0.size:Int)))=true then Ab (idx a0.data.toList s1) fun x8=>Ab (Ea x8) fun x9=>Ab (gu (!x9) (idx a0.data.toList s1)) fun x10=>if((!x9)&&((x10.toNat:Int) !=45))=true then some (.inr (.inr false))else some (.inl (w64 (s1+1)))else some (.inr (.inl ()))
def IC (a0:ByteArray):Option Bool:=Ab (gu (!((decide ((a0.size:Int)<1))||(decide ((a0.size:Int)>16)))) (idx a0.data.toList (w64 ((a0.size:Int)-1)))) fun x1=>Ab (gu (!((decide ((a0.size:Int)<1))||(decide ((a0.size:Int)>16)))) (Ea x1)) fun x2=>Ab (gu (!(((decide ((a0.size:Int)<1))||(decide ((a0.size:Int)>16)))||(!x2))) (idx a0.data.toList 0)) fun x3=>Ab (gu (!(((decide ((a0.size:Int)<1))||(decide ((a0.size:Int)>16)))||(!x2))) (Ea x3)) fun x4=>Ab (gu ((!(((decide ((a0.size:Int)<1))||(decide ((a0.size:Int)>16)))||(!x2)))&&(!x4)) (idx a0.data.toList 0)) fun x5=>if((((decide ((a0.size:Int)<1))||(decide ((a0.size:Int)>16)))||(!x2))||((!x4)&&((x5.toNat:Int) !=95)))=true then some false else Ab (iter (B6 a0) Bl 1) fun x6=>match x6 with| .inr r=>some r| .inl y1=>some true
theorem TG {a0 r}(hm:IC a0=some r):Sf prog 259 [.d (.s a0)] (.d (.t r)):=by
 refine sq ?_;intros;refine oB hm fun x1 q1 hm=>Rh (fun h=>Yh h q1)<|oB hm fun x2 q2 hm=>gcH q2 LF<|oB hm fun x3 q3 hm=>Rh (fun h=>Yh h q3)<|oB hm fun x4 q4 hm=>gcH q4 LF<|oB hm fun x5 q5 hm=>Rh (fun h=>Yh h q5)<|gi hm ?_ ?_<;>intro hc1 hm
 ·exact AjC hm▸gE
 refine oB hm fun x6 q6 hm=>gI q6 (fun p=>⟨[(0,.d (.s a0)),(3,.d (.i (a0.size:Int))),(4,.d (.i p))],[],[],0⟩) fun s1 y2 Jl q9 bl1=>gi q9 ?_ ?_<;>intro hc2 q9
 ·refine oB q9 fun x8 q11 q9=>Yj (fun _=>q11)<|gA q9 LF fun x9 q12 q9=>oB q9 fun x10 q13 q9=>Rh (fun h=>Yh h q13)<|gi q9 ?_ ?_<;>intro hc3 q9
  ·obtain rfl:=nR bl1 q9;exact AjC hm▸gE
  exact gN bl1 q9
 obtain rfl:=nR bl1 q9;exact AjC hm▸gE
def B0 (x1:List ByteArray)(s1:Int):Option ((Int)⊕((Unit)⊕Bool)):=if(decide (s1<(x1.length:Int)))=true then Ab (idx x1 s1) fun x4=>Ab (IC x4) fun x5=>if(!x5)=true then some (.inr (.inr false))else some (.inl (w64 (s1+1)))else some (.inr (.inl ()))
def EX (a0:ByteArray):Option Bool:=if(decide ((a0.size:Int)>64))=true then some false else Ab (Hv a0) fun x1=>Ab (iter (B0 x1) Bl 0) fun x2=>match x2 with| .inr r=>some r| .inl y1=>bnd ((decide ((x1.length:Int)≤8))) fun x6=>some x6
theorem LG {a0 r}(hm:EX a0=some r):Sf prog 244 [.d (.s a0)] (.d (.t r)):=by
 refine sq ?_;intros;refine gi hm ?_ ?_<;>intro hc1 hm
 ·obtain rfl:=AjC hm;exact gE
 refine gD hm Ql fun x1 q1 hm=>oB hm fun x2 q2 hm=>gI q2 (fun p=>⟨[(3,.ow 0),(4,.d (.i p))],[(0,.row 0 1 _ eS x1)],[],1⟩) fun s1 y2 Jl q5 bl1=>gi q5 ?_ ?_<;>intro hc2 q5
 ·refine oB q5 fun x4 q7 q5=>AfD (E:=eS) (fun _=>q7)<|gldO (k:=1) (fo:=0) (nn:=1) (ag:=false) (E:=eS) (fun _=>rfl) (fun _=>q7)<|gA q5 TG fun x5 q8 q5=>gi q5 ?_ ?_<;>intro hc3 q5
  ·obtain rfl:=nR bl1 q5;obtain rfl:=AjC hm;exact gE
  exact gN bl1 q5
 obtain rfl:=nR bl1 q5;refine bE hm ?_;intro x6 hm;obtain rfl:=AjC hm;exact gE
def BO (a0:List ByteArray)(s1:Int)(s2:Int):Option ((Int)⊕((Unit)⊕Bool)):=if(decide (s2<s1))=true then Ab (idx a0 s2) fun x5=>Ab (idx a0 s1) fun x6=>if(eqS x5 x6)=true then some (.inr (.inr false))else some (.inl (w64 (s2+1)))else some (.inr (.inl ()))
def BP (a0:List ByteArray)(s1:Int):Option ((Int)⊕((Unit)⊕Bool)):=if(decide (s1<(a0.length:Int)))=true then Ab (iter (BO a0 s1) Bl 0) fun x3=>match x3 with| .inr r=>some (.inr (.inr r))| .inl y3=>some (.inl (w64 (s1+1)))else some (.inr (.inl ()))
def FJ (a0:List ByteArray):Option Bool:=Ab (iter (BP a0) Bl 0) fun x1=>match x1 with| .inr r=>some r| .inl y1=>some true
theorem MQ {a0 r}(hm:FJ a0=some r):Sf prog 245 [sl eS a0] (.d (.t r)):=by
 refine sq ?_;intros;refine oB hm fun x1 q1 hm=>gI q1 (fun p=>⟨[(0,sl eS a0),(3,.d (.i p))],[],[],0⟩) fun s1 y2 Jl q4 bl1=>gi q4 ?_ ?_<;>intro hc1 q4
 ·refine oB q4 fun x3 q6 q4=>gI q6 (fun p=>⟨[(0,sl eS a0),(3,.d (.i s1)),(4,.d (.i p))],[],[],0⟩) fun s2 y4 Jl q9 bl2=>gi q9 ?_ ?_<;>intro hc2 q9
  ·refine oB q9 fun x5 q11 q9=>gx eS 1 q11<|oB q9 fun x6 q12 q9=>gx eS 1 q12<|gi q9 ?_ ?_<;>intro hc3 q9
   ·obtain rfl:=nR bl2 q9;obtain rfl:=nR bl1 q4;exact AjC hm▸gE
   exact gN bl2 q9
  obtain rfl:=nR bl2 q9;exact gN bl1 q4
 obtain rfl:=nR bl1 q4;exact AjC hm▸gE
def JV (a0:ByteArray):Option (ByteArray×Bool):=Ab (gu (!((decide ((a0.size:Int)<3))||(decide ((a0.size:Int)>64)))) (idx a0.data.toList 0)) fun x1=>Ab (gu (!(((decide ((a0.size:Int)<3))||(decide ((a0.size:Int)>64)))||((x1.toNat:Int) !=42))) (idx a0.data.toList 1)) fun x2=>Ab (gu (!((((decide ((a0.size:Int)<3))||(decide ((a0.size:Int)>64)))||((x1.toNat:Int) !=42))||((x2.toNat:Int) !=46))) (Ru a0 2 (a0.size:Int))) fun x3=>Ab (gu (!((((decide ((a0.size:Int)<3))||(decide ((a0.size:Int)>64)))||((x1.toNat:Int) !=42))||((x2.toNat:Int) !=46))) (EX x3)) fun x4=>if(((((decide ((a0.size:Int)<3))||(decide ((a0.size:Int)>64)))||((x1.toNat:Int) !=42))||((x2.toNat:Int) !=46))||(!x4))=true then some ((⟨#[]⟩:ByteArray),false)else Ab (Ru a0 2 (a0.size:Int)) fun x5=>Ab (Hv x5) fun x6=>if(decide ((x6.length:Int)>7))=true then some ((⟨#[]⟩:ByteArray),false)else Ab (Ru a0 2 (a0.size:Int)) fun x7=>some (x7,true)
theorem Vz {a0 r}(hm:JV a0=some r):Sf prog 260 [.d (.s a0)] (.tup [.d (.s r.1),.d (.t r.2)]):=by
 refine sq ?_;intros;refine oB hm fun x1 q1 hm=>Rh (fun h=>Yh h q1)<|oB hm fun x2 q2 hm=>Rh (fun h=>Yh h q2)<|oB hm fun x3 q3 hm=>Ag5 (fun h=>Yh h q3)<|oB hm fun x4 q4 hm=>gcH q4 LG<|MN 28 hm (fun hc1 hm=> ?_) fun hc1 hm=> ?_
 ·refine gi' (b:=true) (fun _=> ?_) (fun h=>by cases h);exact AjC hm▸gE
 refine oB hm fun x5 q5 hm=>WK (fun _=>q5)<|gD hm Ql fun x6 q6 hm=>gi hm ?_ ?_<;>intro hc2 hm
 ·exact AjC hm▸gE
 refine oB hm fun x7 q7 hm=>WK (fun _=>q7) ?_;exact AjC hm▸gE
def GL (a0:ByteArray):Option Int:=Ab (JV a0) fun x1=>Ab (gu (!x1.2) (EX a0)) fun x2=>if((!x1.2)&&(!x2))=true then some 110 else some 0
theorem Qm {a0 r}(hm:GL a0=some r):Sf prog 246 [.d (.s a0)] (.d (.i r)):=by
 refine sq ?_;intros;refine gA hm Vz fun x1 q1 hm=>oB hm fun x2 q2 hm=>gcH q2 LG<|gi hm ?_ ?_<;>intro hc1 hm
 ·exact AjC hm▸gE
 exact AjC hm▸gE
def Cr (a0:g_api_Cert)(s1:Int):Option ((Int)⊕((Unit)⊕Bool)):=if(decide (s1<(a0.Names.length:Int)))=true then Ab (idx a0.Names s1) fun x3=>Ab (EX x3) fun x4=>if(!x4)=true then some (.inr (.inr false))else some (.inl (w64 (s1+1)))else some (.inr (.inl ()))
def Cq (a0:g_api_Cert)(s2:Int):Option ((Int)⊕((Unit)⊕Bool)):=if(decide (s2<(a0.Permit.length:Int)))=true then Ab (idx a0.Permit s2) fun x9=>Ab (GL x9) fun x10=>if(x10 !=0)=true then some (.inr (.inr false))else some (.inl (w64 (s2+1)))else some (.inr (.inl ()))
def JT (a0:g_api_Cert):Option Bool:=
 if(!a0.Ca)=true then
  Ab (iter (Cr a0) Bl 0) fun x1=>match x1 with
  | .inr r=>some r
  | .inl y1=>
  Ab (gu (((eqS a0.Subject (⟨#[]⟩:ByteArray))&&(decide ((a0.Names.length:Int)≥1)))&&(decide ((a0.Names.length:Int)≤8))) (FJ a0.Names)) fun x5=>
  bnd (((((((eqS a0.Subject (⟨#[]⟩:ByteArray))&&(decide ((a0.Names.length:Int)≥1)))&&(decide ((a0.Names.length:Int)≤8)))&&x5)&&(a0.Depth==0))&&((a0.Permit.length:Int)==0))) fun x6=>
  some x6
 else
 Ab (iter (Cq a0) Bl 0) fun x7=>match x7 with
 | .inr r=>some r
 | .inl y3=>
 Ab (H5 a0.Subject) fun x11=>
 Ab (gu ((((x11&&((a0.Names.length:Int)==0))&&(decide (a0.Depth≥0)))&&(decide (a0.Depth≤4)))&&(decide ((a0.Permit.length:Int)≤8))) (FJ a0.Permit)) fun x12=>
 bnd ((((((x11&&((a0.Names.length:Int)==0))&&(decide (a0.Depth≥0)))&&(decide (a0.Depth≤4)))&&(decide ((a0.Permit.length:Int)≤8)))&&x12)) fun x13=>
 some x13
theorem Vv {a0 r}(hm:JT a0=some r):Sf prog 216 [ag (Am a0)] (.d (.t r)):=by
 refine sq ?_;intros;refine gi hm ?_ ?_<;>intro hc1 hm
 ·refine oB hm fun x1 q1 hm=>gI q1 (fun p=>⟨[(1,.pb 0 0),(3,.d (.i p))],[(0,.box 0 [.d (.i a0.Serial),.d (.s a0.Issuer),.d (.s a0.Subject),.d (.u a0.Key),sl eS a0.Names,.d (.i a0.From),.d (.i a0.Until),.d (.t a0.Ca),.d (.i a0.Depth),sl eS a0.Permit,sl Ae a0.Proms,.d (.u a0.Sig.E),.d (.u a0.Sig.S)] 59)],[],1⟩) fun s1 y2 Jl q4 bl1=>gi q4 ?_ ?_<;>intro hc2 q4
  ·refine oB q4 fun x3 q6 q4=>gx eS 1 q6<|gA q4 LG fun x4 q7 q4=>gi q4 ?_ ?_<;>intro hc3 q4
   ·obtain rfl:=nR bl1 q4;obtain rfl:=AjC hm;exact gE
   exact gN bl1 q4
  obtain rfl:=nR bl1 q4;refine oB hm fun x5 q8 hm=>gcH q8 MQ<|bE hm ?_;intro x6 hm;obtain rfl:=AjC hm;exact gE
 refine oB hm fun x7 q10 hm=>gI q10 (fun p=>⟨[(1,.pb 0 0),(4,.d (.i p))],[(0,.box 0 [.d (.i a0.Serial),.d (.s a0.Issuer),.d (.s a0.Subject),.d (.u a0.Key),sl eS a0.Names,.d (.i a0.From),.d (.i a0.Until),.d (.t a0.Ca),.d (.i a0.Depth),sl eS a0.Permit,sl Ae a0.Proms,.d (.u a0.Sig.E),.d (.u a0.Sig.S)] 59)],[],1⟩) fun s2 y4 Jl q13 bl2=>gi q13 ?_ ?_<;>intro hc4 q13
 ·refine oB q13 fun x9 q15 q13=>gx eS 1 q15<|gA q13 Qm fun x10 q16 q13=>gi q13 ?_ ?_<;>intro hc5 q13
  ·obtain rfl:=nR bl2 q13;obtain rfl:=AjC hm;exact gE
  exact gN bl2 q13
 obtain rfl:=nR bl2 q13;refine gA hm Pg fun x11 q17 hm=>oB hm fun x12 q18 hm=>gcH q18 MQ<|bE hm ?_;intro x13 hm;obtain rfl:=AjC hm;exact gE
def Cs (a0:g_api_Cert)(s1:Int):Option ((Int)⊕((Unit)⊕Bool)):=if(decide (s1<(a0.Proms.length:Int)))=true then Ab (idx a0.Proms s1) fun x8=>Ab (GJ x8) fun x9=>Ab (gu ((!(!x9))&&(decide (s1>0))) (idx a0.Proms (w64 (s1-1)))) fun x10=>Ab (gu ((!(!x9))&&(decide (s1>0))) (idx a0.Proms s1)) fun x11=>if((!x9)||((decide (s1>0))&&(decide (x10.Log≥x11.Log))))=true then some (.inr (.inr false))else some (.inl (w64 (s1+1)))else some (.inr (.inl ()))
end Go.Proofs.YtibojdgdjhngiaaGreatDoor
