/- The walks of some functions, by the executor, written by program. Conditions: none. -/
import Derived.Test.YtibojdgdjhngiaaGreatDoorZf
import Derived.Test.YtibojdgdjhngiaaGreatDoorZh
import Derived.Test.YtibojdgdjhngiaaGreatDoorZj
set_option linter.unusedSimpArgs false
set_option linter.unusedVariables false
set_option maxHeartbeats 20000000
set_option maxRecDepth 100000
namespace Go.Proofs.YtibojdgdjhngiaaGreatDoor
open Go Go.Gw Go.Ax Tryz
attribute [local irreducible] Go.Ax.Go
def JU (a0:g_api_Cert):Option Bool:=Ab (Gb a0.Serial) fun x1=>Ab (gu (!(!x1)) (Gb a0.From)) fun x2=>Ab (gu (!((!x1)||(!x2))) (Gb a0.Until)) fun x3=>Ab (gu (!((((!x1)||(!x2))||(!x3))||(decide (a0.From≥a0.Until)))) (H5 a0.Issuer)) fun x4=>Ab (gu (!((((((((!x1)||(!x2))||(!x3))||(decide (a0.From≥a0.Until)))||(!x4))||(decide ((a0.Key.toNat:Int)<1)))||(decide ((a0.Key.toNat:Int)≥2305843009213691579)))||(decide ((a0.Proms.length:Int)>4)))) (FK a0.Sig)) fun x5=>if(((((((((!x1)||(!x2))||(!x3))||(decide (a0.From≥a0.Until)))||(!x4))||(decide ((a0.Key.toNat:Int)<1)))||(decide ((a0.Key.toNat:Int)≥2305843009213691579)))||(decide ((a0.Proms.length:Int)>4)))||(!x5))=true then some false else Ab (iter (Cs a0) Bl 0) fun x6=>match x6 with| .inr r=>some r| .inl y1=>Ab (JT a0) fun x12=>some x12
theorem Vw {a0 r}(hm:JU a0=some r):Sf prog 170 [ag (Am a0)] (.d (.t r)):=by
 refine sq ?_;intros;refine gA hm I0 fun x1 q1 hm=>oB hm fun x2 q2 hm=>gcH q2 I0<|oB hm fun x3 q3 hm=>gcH q3 I0<|oB hm fun x4 q4 hm=>gcH q4 Pg<|oB hm fun x5 q5 hm=>gcH q5 MS<|gi hm ?_ ?_<;>intro hc1 hm
 ·exact AjC hm▸gE
 refine oB hm fun x6 q6 hm=>gI q6 (fun p=>⟨[(1,.pb 0 0),(3,.d (.i p))],[(0,.box 0 [.d (.i a0.Serial),.d (.s a0.Issuer),.d (.s a0.Subject),.d (.u a0.Key),sl eS a0.Names,.d (.i a0.From),.d (.i a0.Until),.d (.t a0.Ca),.d (.i a0.Depth),sl eS a0.Permit,sl Ae a0.Proms,.d (.u a0.Sig.E),.d (.u a0.Sig.S)] 59)],[],1⟩) fun s1 y2 Jl q9 bl1=>gi q9 ?_ ?_<;>intro hc2 q9
 ·refine oB q9 fun x8 q11 q9=>gx Ae 6 q11<|gA q9 Qk fun x9 q12 q9=>oB q9 fun x10 q13 q9=>gxG Ae 6 q13<|oB q9 fun x11 q14 q9=>gxG Ae 6 q14<|gi q9 ?_ ?_<;>intro hc3 q9
  ·obtain rfl:=nR bl1 q9;exact AjC hm▸gE
  exact gN bl1 q9
 obtain rfl:=nR bl1 q9;refine gA hm Vv fun x12 q15 hm=> ?_;exact AjC hm▸gE
def HO (a0:Int):Option (List UInt8):=if(decide (a0<128))=true then some ([(toB a0)]:List UInt8)else if(decide (a0<256))=true then some ([129,(toB a0)]:List UInt8)else bnd (w64 (Int.tdiv a0 256)) fun x1=>some ([130,(toB x1),(toB a0)]:List UInt8)
theorem RW {a0 r}(hm:HO a0=some r):Sp prog 247 [.d (.i a0)] [] 0 (is (.ow 0) [.row 0 1 _ eB r] 1):=by
 refine sq ?_;intros;refine gi hm ?_ ?_<;>intro hc1 hm
 ·refine Xa (k:=1) eB ([(toB a0)]:List UInt8) (fun _=>rfl) ?_;obtain rfl:=AjC hm;exact gE
 refine gi hm ?_ ?_<;>intro hc2 hm
 ·refine Xa (k:=1) eB ([129,(toB a0)]:List UInt8) (fun _=>rfl) ?_;obtain rfl:=AjC hm;exact gE
 refine bE hm ?_;intro x1 hm;refine Xa (k:=1) eB ([130,(toB x1),(toB a0)]:List UInt8) (fun _=>rfl) ?_;obtain rfl:=AjC hm;exact gE
def OD (rF:g_api_Item→Option (List UInt8)):Prop:= ∀{a0:g_api_Item} {r:List UInt8},rF a0=some r→Sp prog 217 [ag (Ac a0)] [] 0 (is (.ow 0) [.row 0 1 _ eB r] 1)
def BM (rF:g_api_Item→Option (List UInt8))(a0:g_api_Item)(s1:(List UInt8)×Int):Option (((List UInt8)×Int)⊕((List UInt8))):=if(decide (s1.2<(a0.L.length:Int)))=true then Ab (idx a0.L s1.2) fun x5=>Ab (rF x5) fun x6=>Ab (app 1 s1.1 x6) fun x7=>some (.inl (x7,(w64 (s1.2+1))))else some (.inr s1.1)
def GM (rF:g_api_Item→Option (List UInt8))(a0:g_api_Item):Option (List UInt8):=Ab (app 1 ([]:List UInt8) a0.B) fun x1=>Ab (Ab (iter ((BM rF) a0) Bl (x1,0)) fun x3=>some x3) fun x2=>Ab (HO (x2.length:Int)) fun x8=>Ab (app 1 ([(toB a0.Tag)]:List UInt8) x8) fun x9=>Ab (app 1 x9 x2) fun x10=>some x10
theorem Qn {rF:g_api_Item→Option (List UInt8)}(hF:OD rF){a0 r}(hm:GM rF a0=some r):Sp prog 217 [ag (Ac a0)] [] 0 (is (.ow 0) [.row 0 1 _ eB r] 1):=by
 refine sq ?_;intros;refine Xa (k:=1) eB ([]:List UInt8) (fun _=>rfl)<|oB hm fun x1 q1 hm=>gp eB 1 q1 ?_;obtain⟨x2,q2,hm⟩:=Ad hm;refine oB q2 fun x3 q3 q2=>gI q3 (fun(p_0,p_1)=>⟨[(1,.pb 0 0),(3,.ow 1),(4,.d (.i p_1))],[(0,.row 1 1 _ eB p_0),(1,.box 0 [.d (.i a0.Tag),sl eB a0.B,sl Ac a0.L] 159)],[],2⟩) fun s1 y1 Jl q6 bl1=>gi q6 ?_ ?_<;>intro hc1 q6
 ·exact oB q6 fun x5 q8 q6=>gx Ac 3 q8<|gD q6 hF fun x6 q9 q6=>oB q6 fun x7 q10 q6=>gp eB 1 q10<|gN bl1 q6
 obtain rfl:=nR bl1 q6;let x3:=s1.1;obtain rfl:=AjC q2;let x2:=x3;refine Xa (k:=1) eB ([(toB a0.Tag)]:List UInt8) (fun _=>rfl)<|gD hm RW fun x8 q11 hm=>oB hm fun x9 q12 hm=>gp eB 1 q12<|oB hm fun x10 q13 hm=>gp eB 1 q13 ?_;obtain rfl:=AjC hm;exact gE
def DA:Nat→g_api_Item→Option (List UInt8)
 |0,_=>none
 |n+1,a0=>GM (DA n) a0
def K3 (a0:g_api_Item):Option (List UInt8):=DA Bl a0
theorem MP: ∀n,OD (DA n)
 |0=>fun hm=>by cases hm
 |n+1=>fun hm=>Qn (MP n) hm
theorem TJ {a0:g_api_Item}{r:List UInt8}(hm:K3 a0=some r):Sp prog 217 [ag (Ac a0)] [] 0 (is (.ow 0) [.row 0 1 _ eB r] 1):=MP Bl hm
def K4 (a0:g_api_Item):Option ((List UInt8)×Int):=Ab (Jf a0) fun x1=>if(!x1)=true then some (([]:List UInt8),1)else Ab (K3 a0) fun x2=>if(decide ((x2.length:Int)>8192))=true then some (([]:List UInt8),2)else some (x2,0)
theorem Xi {a0 r}(hm:K4 a0=some r):Sp prog 171 [ag (Ac a0)] [] 0 (is (.tup [.ow 0,.d (.i r.2)]) [.row 0 1 _ eB r.1] 1):=by
 refine sq ?_;intros;refine gA hm Qo fun x1 q1 hm=>gi hm ?_ ?_<;>intro hc1 hm
 ·refine W9 eB 2 1 ?_;exact AjC hm▸gE
 refine gD hm TJ fun x2 q2 hm=>gi hm ?_ ?_<;>intro hc2 hm
 ·refine W9 eB 2 1 ?_;exact AjC hm▸gE
 exact AjC hm▸gE
def Gc (a0:List g_api_Item):Option g_api_Item:=Ab (app 56 ([]:List g_api_Item) a0) fun x1=>some (⟨48,[],x1⟩:g_api_Item)
theorem KL {a0 r}(hm:Gc a0=some r):Sf prog 218 [sl Ac a0] (ag (Ac r)):=by
 refine sq ?_;intros;refine Xa (k:=3) Ac ([]:List g_api_Item) (fun _=>rfl)<|oB hm fun x1 q1 hm=>gp Ac 3 q1 ?_;exact AjC hm▸gE
def FM (s1:(List UInt8)×Int):Option (((List UInt8)×Int)⊕((List UInt8))):=Ab (gu (s1.2==0) (idx s1.1 0)) fun x4=>Ab (gu ((!((s1.2==0)&&(decide ((x4.toNat:Int)<128))))&&(s1.2==(-1))) (idx s1.1 0)) fun x5=>if((!((s1.2==0)&&(decide ((x4.toNat:Int)<128))))&&(!((s1.2==(-1))&&(decide ((x5.toNat:Int)≥128)))))=true then Ab (app 1 ([(toB s1.2)]:List UInt8) s1.1) fun x6=>some (.inl (x6,(Cl s1.2 8)))else some (.inr s1.1)
def Cw (a0:Int):Option g_api_Item:=Ab (Ab (iter FM Bl (([(toB a0)]:List UInt8),(Cl a0 8))) fun x2=>some x2) fun x1=>some (⟨2,x1,[]⟩:g_api_Item)
theorem Eg {a0 r}(hm:Cw a0=some r):Sf prog 248 [.d (.i a0)] (ag (Ac r)):=by
 refine sq ?_;intros;unfold Cw at hm;refine gq eB 1 [(toB a0)] ?_;obtain⟨x1,q1,hm⟩:=Ad hm;refine oB q1 fun x2 q2 q1=>gI q2 (fun(p_0,p_1)=>⟨[(2,.pb 0 0),(3,sl eB p_0),(4,.d (.i p_1))],[(0,.box 0 [.d (.i 0),sl eB [],sl Ac []] 159)],[],1⟩) fun s1 y1 Jl q5 bl1=>oB q5 fun x4 q7 q5=>gxG eB 1 q7<|oB q5 fun x5 q8 q5=>gxG eB 1 q8<|gi q5 ?_ ?_<;>intro hc1 q5
 ·exact Xa (k:=1) eB ([(toB s1.2)]:List UInt8) (fun _=>rfl)<|oB q5 fun x6 q9 q5=>gp eB 1 q9<|gN bl1 q5
 obtain rfl:=nR bl1 q5;let x2:=s1.1;obtain rfl:=AjC q1;let x1:=x2;obtain rfl:=AjC hm;exact gE
def Hu (a0:UInt64)(a1:UInt64):Option (List g_api_Item):=Ab (Cw (w64 (a0.toNat:Int))) fun x1=>Ab (Cw (w64 (a1.toNat:Int))) fun x2=>some ([x1,x2]:List g_api_Item)
theorem M8 {a0 a1 r}(hm:Hu a0 a1=some r):Sp prog 220 [.d (.u a0),.d (.u a1)] [] 0 (is (.ow 0) [.row 0 3 _ Ac r] 1):=by
 refine sq ?_;intros;refine gA hm Eg fun x1 q1 hm=>gA hm Eg fun x2 q2 hm=>Xa (k:=3) Ac ([x1,x2]:List g_api_Item) (fun _=>rfl) ?_;exact AjC hm▸gE
def Gl (a0:ByteArray):Option g_api_Item:=Ab (app 1 ([]:List UInt8) a0.data.toList) fun x1=>some (⟨12,x1,[]⟩:g_api_Item)
theorem LH {a0 r}(hm:Gl a0=some r):Sf prog 261 [.d (.s a0)] (ag (Ac r)):=by
 refine sq ?_;intros;refine oB hm fun x1 q1 hm=>gofS q1 ?_;exact AjC hm▸gE
def BK (a0:List ByteArray)(s1:Int×(List g_api_Item)):Option ((Int×(List g_api_Item))⊕((List g_api_Item))):=if(decide (s1.1<(a0.length:Int)))=true then Ab (idx a0 s1.1) fun x4=>Ab (Gl x4) fun x5=>Ab (app 56 s1.2 ([x5]:List g_api_Item)) fun x6=>some (.inl ((w64 (s1.1+1)),x6))else some (.inr s1.2)
def Fh (a0:List ByteArray):Option g_api_Item:=Ab (Ab (iter (BK a0) Bl (0,([]:List g_api_Item))) fun x2=>some x2) fun x1=>some (⟨48,[],x1⟩:g_api_Item)
theorem NL {a0 r}(hm:Fh a0=some r):Sf prog 262 [sl eS a0] (ag (Ac r)):=by
 refine sq ?_;intros;unfold Fh at hm;obtain⟨x1,q1,hm⟩:=Ad hm;refine oB q1 fun x2 q2 q1=>WI 0 Ac 3 2 3<|gI q2 (fun(p_0,p_1)=>⟨[(0,sl eS a0),(2,.pb 0 0),(3,.pb 1 0),(4,.d (.i p_0))],[(0,.row 2 3 _ Ac p_1),(1,.box 1 [.d (.i 48),sl eB [],.ow 2] 159),(2,.box 0 [.d (.i 0),sl eB [],sl Ac []] 159)],[],3⟩) fun s1 y1 Jl q5 bl1=>gi q5 ?_ ?_<;>intro hc1 q5
 ·exact oB q5 fun x4 q7 q5=>gx eS 1 q7<|gA q5 LH fun x5 q8 q5=>gq Ac 3 [x5]<|oB q5 fun x6 q9 q5=>gp Ac 3 q9<|gN bl1 q5
 obtain rfl:=nR bl1 q5;let x2:=s1.2;obtain rfl:=AjC q1;let x1:=x2;obtain rfl:=AjC hm;exact gE
def Mf (a0:Bool):Option g_api_Item:=if a0=true then some (⟨1,([255]:List UInt8),[]⟩:g_api_Item)else some (⟨1,([0]:List UInt8),[]⟩:g_api_Item)
theorem VF {a0 r}(hm:Mf a0=some r):Sf prog 263 [.d (.t a0)] (ag (Ac r)):=by
 refine sq ?_;intros;refine gi hm ?_ ?_<;>intro hc1 hm
 ·refine gq eB 1 [255] ?_;exact AjC hm▸gE
 refine gq eB 1 [0] ?_;exact AjC hm▸gE
def K0 (a0:g_api_Cert):Option g_api_Item:=Ab (Cw a0.Serial) fun x1=>Ab (Gl a0.Issuer) fun x2=>Ab (Gl a0.Subject) fun x3=>Ab (Cw (w64 (a0.Key.toNat:Int))) fun x4=>Ab (Fh a0.Names) fun x5=>Ab (Cw a0.From) fun x6=>Ab (Cw a0.Until) fun x7=>Ab (Mf a0.Ca) fun x8=>Ab (Cw a0.Depth) fun x9=>Ab (Fh a0.Permit) fun x10=>Ab (Gc ([x1,x2,x3,x4,x5,x6,x7,x8,x9,x10]:List g_api_Item)) fun x11=>some x11
theorem Xg {a0 r}(hm:K0 a0=some r):Sf prog 249 [ag (Am a0)] (ag (Ac r)):=by
 refine sq ?_;intros;refine gA hm Eg fun x1 q1 hm=>gA hm LH fun x2 q2 hm=>gA hm LH fun x3 q3 hm=>gA hm Eg fun x4 q4 hm=>gA hm NL fun x5 q5 hm=>gA hm Eg fun x6 q6 hm=>gA hm Eg fun x7 q7 hm=>gA hm VF fun x8 q8 hm=>gA hm Eg fun x9 q9 hm=> ?_;refine gA hm NL fun x10 q10 hm=>gq Ac 3 [x1,x2,x3,x4,x5,x6,x7,x8,x9,x10]<|gA hm KL fun x11 q11 hm=> ?_;exact AjC hm▸gE
def IE (a0:List g_api_Item):Option g_api_Item:=Ab (app 56 ([]:List g_api_Item) a0) fun x1=>some (⟨48,[],x1⟩:g_api_Item)
theorem TK {a0 r}(hm:IE a0=some r):Sp prog 218 [sl Ac a0] [] 0 (is (.agg (List.set (((Ac r)).map dv) 2 (.ow 0))) [.row 0 3 _ Ac r.L] 1):=by
 refine sq ?_;intros;refine Xa (k:=3) Ac ([]:List g_api_Item) (fun _=>rfl)<|oB hm fun x1 q1 hm=>gp Ac 3 q1 ?_;exact AjC hm▸gE
def BX (a0:g_api_Cert)(s1:Int×(List g_api_Item)):Option ((Int×(List g_api_Item))⊕((List g_api_Item))):=if(decide (s1.1<(a0.Proms.length:Int)))=true then Ab (idx a0.Proms s1.1) fun x4=>Ab (Cw x4.Log) fun x5=>Ab (Cw x4.At) fun x6=>Ab (IE ([x5,x6]:List g_api_Item)) fun x7=>Ab (Hu x4.Leaf.1 x4.Leaf.2) fun x8=>Ab (app 56 x7.L x8) fun x9=>Ab (Hu x4.Sig.E x4.Sig.S) fun x10=>Ab (app 56 x9 x10) fun x11=>Ab (app 56 s1.2 ([(⟨x7.Tag,x7.B,x11⟩:g_api_Item)]:List g_api_Item)) fun x12=>some (.inl ((w64 (s1.1+1)),x12))else some (.inr s1.2)
def H4 (a0:g_api_Cert):Option g_api_Item:=Ab (Ab (iter (BX a0) Bl (0,([]:List g_api_Item))) fun x2=>some x2) fun x1=>Ab (K0 a0) fun x13=>Ab (Gc ([x13,(⟨48,[],x1⟩:g_api_Item)]:List g_api_Item)) fun x14=>some x14
theorem Vx {a0 r}(hm:H4 a0=some r):Sf prog 219 [ag (Am a0)] (ag (Ac r)):=by
 refine sq ?_;intros;unfold H4 at hm;obtain⟨x1,q1,hm⟩:=Ad hm;refine oB q1 fun x2 q2 q1=>WI 0 Ac 3 2 3<|gI q2 (fun(p_0,p_1)=>⟨[(1,.pb 0 0),(2,.pb 1 0),(3,.pb 2 0),(4,.d (.i p_0))],[(0,.row 3 3 _ Ac p_1),(1,.box 2 [.d (.i 48),sl eB [],.ow 3] 159),(2,.box 1 [.d (.i 0),sl eB [],sl Ac []] 159),(3,.box 0 [.d (.i a0.Serial),.d (.s a0.Issuer),.d (.s a0.Subject),.d (.u a0.Key),sl eS a0.Names,.d (.i a0.From),.d (.i a0.Until),.d (.t a0.Ca),.d (.i a0.Depth),sl eS a0.Permit,sl Ae a0.Proms,.d (.u a0.Sig.E),.d (.u a0.Sig.S)] 59)],[],4⟩) fun s1 y1 Jl q5 bl1=>gi q5 ?_ ?_<;>intro hc1 q5
 ·refine oB q5 fun x4 q7 q5=>gx Ae 6 q7<|gA q5 Eg fun x5 q8 q5=>gA q5 Eg fun x6 q9 q5=>gq Ac 3 [x5,x6]<|gD q5 TK fun x7 q10 q5=>gD q5 M8 fun x8 q11 q5=>oB q5 fun x9 q12 q5=>gp Ac 3 q12<|gD q5 M8 fun x10 q13 q5=>oB q5 fun x11 q14 q5=>gp Ac 3 q14 ?_;exact WJ (k:=3) Ac ([(⟨x7.Tag,x7.B,x11⟩:g_api_Item)]:List g_api_Item) (fun _=>rfl)<|oB q5 fun x12 q15 q5=>gp Ac 3 q15<|gN bl1 q5
 obtain rfl:=nR bl1 q5;let x2:=s1.2;obtain rfl:=AjC q1;let x1:=x2;refine gA hm Xg fun x13 q16 hm=>WJ (k:=3) Ac ([x13,(⟨48,[],x1⟩:g_api_Item)]:List g_api_Item) (fun _=>rfl)<|gA hm KL fun x14 q17 hm=> ?_;obtain rfl:=AjC hm;exact gE
def IB (a0:g_api_Cert):Option g_api_Item:=Ab (H4 a0) fun x1=>Ab (Hu a0.Sig.E a0.Sig.S) fun x2=>Ab (Gc x2) fun x3=>Ab (Gc ([x1,x3]:List g_api_Item)) fun x4=>some x4
theorem TE {a0 r}(hm:IB a0=some r):Sf prog 172 [ag (Am a0)] (ag (Ac r)):=by
 refine sq ?_;intros;refine gA hm Vx fun x1 q1 hm=>gD hm M8 fun x2 q2 hm=>gD hm KL fun x3 q3 hm=>gq Ac 3 [x1,x3]<|gA hm KL fun x4 q4 hm=> ?_;exact AjC hm▸gE
def GK (a0:g_api_Cert):Option Int:=Ab (JU a0) fun x1=>if(!x1)=true then some 1 else Ab (IB a0) fun x2=>Ab (K4 x2) fun x3=>if((x3.2 !=0)||(decide ((x3.1.length:Int)>2048)))=true then some 2 else some 0
theorem TF {a0 r}(hm:GK a0=some r):Sf prog 132 [ag (Am a0)] (.d (.i r)):=by
 refine sq ?_;intros;refine gA hm Vw fun x1 q1 hm=>gi hm ?_ ?_<;>intro hc1 hm
 ·exact AjC hm▸gE
 refine gA hm TE fun x2 q2 hm=>gD hm Xi fun x3 q3 hm=>gi hm ?_ ?_<;>intro hc2 hm
 ·exact AjC hm▸gE
 exact AjC hm▸gE
def Nq (a0:List UInt8)(a1:Int):Option (g_api_Cert×Int):=Ab (Hx a0 0) fun x1=>if(x1.2.2 !=0)=true then some ((⟨0,ByteArray.empty,ByteArray.empty,0,[],0,0,false,0,[],[],(⟨0,0⟩:g_api_Sig)⟩:g_api_Cert),x1.2.2)else Ab (CN x1.1) fun x2=>if((x2.2 !=0)||(x1.2.1 !=(a0.length:Int)))=true then some ((⟨0,ByteArray.empty,ByteArray.empty,0,[],0,0,false,0,[],[],(⟨0,0⟩:g_api_Sig)⟩:g_api_Cert),71)else Ab (Fi x2.1) fun x3=>Ab (if(a1==2)=true then Ab (J8 x2.1) fun x5=>some (x5.2,x5.1.Serial,x5.1.Issuer,x5.1.Subject,x5.1.Key,x5.1.Names,x5.1.From,x5.1.Until,x5.1.Ca,x5.1.Depth,x5.1.Permit,x5.1.Proms,x5.1.Sig.E,x5.1.Sig.S)else some (x3.2,x3.1.Serial,x3.1.Issuer,x3.1.Subject,x3.1.Key,x3.1.Names,x3.1.From,x3.1.Until,x3.1.Ca,x3.1.Depth,x3.1.Permit,[],x3.1.Sig.E,x3.1.Sig.S)) fun x4=>Ab (if(a1==3)=true then Ab (Mb x2.1) fun x7=>some (x7.2,x7.1.Serial,x7.1.Issuer,x7.1.Subject,x7.1.Key,x7.1.Names,x7.1.From,x7.1.Until,x7.1.Ca,x7.1.Depth,x7.1.Permit,x7.1.Proms,x7.1.Sig.E,x7.1.Sig.S)else some (x4.1,x4.2.1,x4.2.2.1,x4.2.2.2.1,x4.2.2.2.2.1,x4.2.2.2.2.2.1,x4.2.2.2.2.2.2.1,x4.2.2.2.2.2.2.2.1,x4.2.2.2.2.2.2.2.2.1,x4.2.2.2.2.2.2.2.2.2.1,x4.2.2.2.2.2.2.2.2.2.2.1,x4.2.2.2.2.2.2.2.2.2.2.2.1,x4.2.2.2.2.2.2.2.2.2.2.2.2.1,x4.2.2.2.2.2.2.2.2.2.2.2.2.2)) fun x6=>Ab (gu (!(!x6.1)) (GK (⟨x6.2.1,x6.2.2.1,x6.2.2.2.1,x6.2.2.2.2.1,x6.2.2.2.2.2.1,x6.2.2.2.2.2.2.1,x6.2.2.2.2.2.2.2.1,x6.2.2.2.2.2.2.2.2.1,x6.2.2.2.2.2.2.2.2.2.1,x6.2.2.2.2.2.2.2.2.2.2.1,x6.2.2.2.2.2.2.2.2.2.2.2.1,(⟨x6.2.2.2.2.2.2.2.2.2.2.2.2.1,x6.2.2.2.2.2.2.2.2.2.2.2.2.2⟩:g_api_Sig)⟩:g_api_Cert))) fun x8=>if((!x6.1)||(x8 !=0))=true then some ((⟨0,ByteArray.empty,ByteArray.empty,0,[],0,0,false,0,[],[],(⟨0,0⟩:g_api_Sig)⟩:g_api_Cert),71)else some ((⟨x6.2.1,x6.2.2.1,x6.2.2.2.1,x6.2.2.2.2.1,x6.2.2.2.2.2.1,x6.2.2.2.2.2.2.1,x6.2.2.2.2.2.2.2.1,x6.2.2.2.2.2.2.2.2.1,x6.2.2.2.2.2.2.2.2.2.1,x6.2.2.2.2.2.2.2.2.2.2.1,x6.2.2.2.2.2.2.2.2.2.2.2.1,(⟨x6.2.2.2.2.2.2.2.2.2.2.2.2.1,x6.2.2.2.2.2.2.2.2.2.2.2.2.2⟩:g_api_Sig)⟩:g_api_Cert),0)
theorem Xh {a0 a1 r}(hm:Nq a0 a1=some r):Sf prog 75 [sl eB a0,.d (.i a1)] (.tup [ag (Am r.1),.d (.i r.2)]):=by
 refine sq fun D0 As η0 m0 hd=>gA hm Xj fun x1 q1 hm=>gi hm ?_ ?_<;>intro hc1 hm
 ·obtain rfl:=AjC hm;exact gE
 refine gA hm U5 fun x2 q2 hm=>gi hm ?_ ?_<;>intro hc2 hm
 ·obtain rfl:=AjC hm;exact gE
 refine gA hm NM fun x3 q3 hm=>oB hm fun x4 q4 hm=>gj (fun(_:Unit)=>let (y_0,y_1,y_2,y_3,y_4,y_5,y_6,y_7,y_8,y_9,y_10,y_11,y_12,y_13):=x4; ⟨[(1,.d (.i a1)),(4,.pb 0 0),(9,sl Ac x2.1),(11,.pb 2 0),(12,.d (.t y_0)),(6,.pb 1 0)],[(0,.box 2 [.d (.i y_1),.d (.s y_2),.d (.s y_3),.d (.u y_4),sl eS y_5,.d (.i y_6),.d (.i y_7),.d (.t y_8),.d (.i y_9),sl eS y_10,sl Ae y_11,.d (.u y_12),.d (.u y_13)] 59),(1,.box 1 [.d (.i x1.1.Tag),sl eB x1.1.B,sl Ac x1.1.L] 159),(2,.box 0 [.d (.i 0),.d (.s ByteArray.empty),.d (.s ByteArray.empty),.d (.u 0),sl eS [],.d (.i 0),.d (.i 0),.d (.t false),.d (.i 0),sl eS [],sl Ae [],.d (.u 0),.d (.u 0)] 59)],[],3⟩) (fun _=>True) (fun Jp bk1=> ?_) fun _ _=> ?_
 ·refine gi q4 ?_ ?_<;>intro hc3 q4
  ·refine gA q4 MR fun x5 q5 q4=> ?_;obtain rfl:=AjC q4;exact gb bk1 hd () trivial
  obtain rfl:=AjC q4;exact gb bk1 hd () trivial
 refine oB hm fun x6 q6 hm=>gj (fun(_:Unit)=>let (y_0,y_1,y_2,y_3,y_4,y_5,y_6,y_7,y_8,y_9,y_10,y_11,y_12,y_13):=x6; ⟨[(4,.pb 0 0),(11,.pb 2 0),(12,.d (.t y_0)),(6,.pb 1 0)],[(0,.box 2 [.d (.i y_1),.d (.s y_2),.d (.s y_3),.d (.u y_4),sl eS y_5,.d (.i y_6),.d (.i y_7),.d (.t y_8),.d (.i y_9),sl eS y_10,sl Ae y_11,.d (.u y_12),.d (.u y_13)] 59),(1,.box 1 [.d (.i x1.1.Tag),sl eB x1.1.B,sl Ac x1.1.L] 159),(2,.box 0 [.d (.i 0),.d (.s ByteArray.empty),.d (.s ByteArray.empty),.d (.u 0),sl eS [],.d (.i 0),.d (.i 0),.d (.t false),.d (.i 0),sl eS [],sl Ae [],.d (.u 0),.d (.u 0)] 59)],[],3⟩) (fun _=>True) (fun Jp bk2=> ?_) fun _ _=> ?_
 ·refine gi q6 ?_ ?_<;>intro hc4 q6
  ·refine gA q6 Qj fun x7 q7 q6=> ?_;obtain rfl:=AjC q6;exact gb bk2 hd () trivial
  obtain rfl:=AjC q6;exact gb bk2 hd () trivial
 refine oB hm fun x8 q8 hm=>gcH q8 TF<|gi hm ?_ ?_<;>intro hc5 hm
 ·obtain rfl:=AjC hm;exact gE
 obtain rfl:=AjC hm;exact gE
def FL (a0:List UInt8):Option (g_api_Cert×Int):=Ab (Nq a0 1) fun x1=>some (x1.1,x1.2)
theorem RU {a0 r}(hm:FL a0=some r):Sf prog 42 [sl eB a0] (.tup [ag (Am r.1),.d (.i r.2)]):=by
 refine sq ?_;intros;refine gA hm Xh fun x1 q1 hm=> ?_;exact AjC hm▸gE
def Eo (a0:Ah)(a1:Int)(s1:(List g_api_Cert)×Int):Option (((List g_api_Cert)×Int)⊕((List g_api_Cert))):=if(decide (s1.2<(a0.L.length:Int)))=true then Ab (Ab (gu (a1==1) (Ev a0 s1.2)) fun x6=>if((a1==1)&&x6)=true then Ab (app 1 ([]:List UInt8) ([0]:List UInt8)) fun x7=>some x7 else some ([]:List UInt8)) fun x5=>Ab (idx a0.L s1.2) fun x8=>Ab (app 1 x5 x8.Body) fun x9=>Ab (FL x9) fun x10=>Ab (if(x10.2 !=0)=true then some (0,ByteArray.empty,ByteArray.empty,0,[],0,0,false,0,[],[],0,0)else some (x10.1.Serial,x10.1.Issuer,x10.1.Subject,x10.1.Key,x10.1.Names,x10.1.From,x10.1.Until,x10.1.Ca,x10.1.Depth,x10.1.Permit,x10.1.Proms,x10.1.Sig.E,x10.1.Sig.S)) fun x11=>Ab (app 168 s1.1 ([(⟨x11.1,x11.2.1,x11.2.2.1,x11.2.2.2.1,x11.2.2.2.2.1,x11.2.2.2.2.2.1,x11.2.2.2.2.2.2.1,x11.2.2.2.2.2.2.2.1,x11.2.2.2.2.2.2.2.2.1,x11.2.2.2.2.2.2.2.2.2.1,x11.2.2.2.2.2.2.2.2.2.2.1,(⟨x11.2.2.2.2.2.2.2.2.2.2.2.1,x11.2.2.2.2.2.2.2.2.2.2.2.2⟩:g_api_Sig)⟩:g_api_Cert)]:List g_api_Cert)) fun x12=>some (.inl (x12,(w64 (s1.2+1))))else some (.inr s1.1)
def GI (a0:Ah)(a1:Int):Option ((List g_api_Cert)×Int):=Ab (DJ a0 a1) fun x1=>if(x1.2 !=0)=true then some (([]:List g_api_Cert),x1.2)else Ab (Ab (iter (Eo a0 a1) Bl (([]:List g_api_Cert),0)) fun x3=>some x3) fun x2=>some (x2,0)
theorem TC {a0 a1 r}(hm:GI a0 a1=some r):Sp prog 14 [ag (Bn a0),.d (.i a1)] [] 0 (is (.tup [.ow 0,.d (.i r.2)]) [.row 0 13 _ Am r.1] 1):=by
 refine sq fun D0 As η0 m0 hd=>gD hm RS fun x1 q1 hm=>gi hm ?_ ?_<;>intro hc1 hm
 ·refine W9 Am 4 13 ?_;obtain rfl:=AjC hm;exact gE
 obtain⟨x2,q2,hm⟩:=Ad hm;refine oB q2 fun x3 q3 q2=>Nt 0 Am 8 13<|gI q3 (fun(p_0,p_1)=>⟨[(1,.d (.i a1)),(2,.pb 0 0),(8,.ow 1),(9,.d (.i p_1))],[(0,.row 1 13 _ Am p_0),(1,.box 0 [.d (.i a0.Id),.d (.u a0.Key),.d (.i a0.Delay),sl Ag a0.L,sl eI a0.Hide,sl Ag a0.Wait] 26)],[],2⟩) fun s1 y1 Jl q6 bl1=>gi q6 ?_ ?_<;>intro hc2 q6
 ·obtain⟨x5,q8,q6⟩:=Ad q6;refine oB q8 fun x6 q9 q8=>gcH q9 RP<|gj (fun(_:Unit)=>⟨[(1,.d (.i a1)),(2,.pb 0 0),(8,.ow 1),(9,.d (.i s1.2)),(10,.ow 2)],[(0,.row 2 1 _ eB x5),(1,.row 1 13 _ Am s1.1),(2,.box 0 [.d (.i a0.Id),.d (.u a0.Key),.d (.i a0.Delay),sl Ag a0.L,sl eI a0.Hide,sl Ag a0.Wait] 26)],[],3⟩) (fun _=>True) (fun Jp bk3=> ?_) fun _ _=> ?_
  ·refine gi q8 ?_ ?_<;>intro hc3 q8
   ·refine gq eB 1 [0]<|oB q8 fun x7 q10 q8=>gp eB 1 q10 ?_;obtain rfl:=AjC q8;exact gb bk3 hd () trivial
   refine W9 eB 10 1 ?_;obtain rfl:=AjC q8;exact gb bk3 hd () trivial
  refine oB q6 fun x8 q11 q6=>gx Ag 2 q11<|oB q6 fun x9 q12 q6=>gp eB 1 q12<|gD q6 RU fun x10 q13 q6=>oB q6 fun x11 q14 q6=>gj (fun(_:Unit)=>let (y_0,y_1,y_2,y_3,y_4,y_5,y_6,y_7,y_8,y_9,y_10,y_11,y_12):=x11; ⟨[(1,.d (.i a1)),(2,.pb 0 0),(8,.ow 1),(9,.d (.i s1.2)),(11,.pb 2 0)],[(0,.box 2 [.d (.i y_0),.d (.s y_1),.d (.s y_2),.d (.u y_3),sl eS y_4,.d (.i y_5),.d (.i y_6),.d (.t y_7),.d (.i y_8),sl eS y_9,sl Ae y_10,.d (.u y_11),.d (.u y_12)] 59),(1,.row 1 13 _ Am s1.1),(2,.box 0 [.d (.i a0.Id),.d (.u a0.Key),.d (.i a0.Delay),sl Ag a0.L,sl eI a0.Hide,sl Ag a0.Wait] 26)],[],3⟩) (fun _=>True) (fun Jp bk4=> ?_) fun _ _=> ?_
  ·refine gi q14 ?_ ?_<;>intro hc4 q14
   ·obtain rfl:=AjC q14;exact gb bk4 hd () trivial
   obtain rfl:=AjC q14;exact gb bk4 hd () trivial
  exact gq Am 13 [(⟨x11.1,x11.2.1,x11.2.2.1,x11.2.2.2.1,x11.2.2.2.2.1,x11.2.2.2.2.2.1,x11.2.2.2.2.2.2.1,x11.2.2.2.2.2.2.2.1,x11.2.2.2.2.2.2.2.2.1,x11.2.2.2.2.2.2.2.2.2.1,x11.2.2.2.2.2.2.2.2.2.2.1,(⟨x11.2.2.2.2.2.2.2.2.2.2.2.1,x11.2.2.2.2.2.2.2.2.2.2.2.2⟩:g_api_Sig)⟩:g_api_Cert)]<|oB q6 fun x12 q15 q6=>gp Am 13 q15<|gN bl1 q6
 obtain rfl:=nR bl1 q6;let x3:=s1.1;obtain rfl:=AjC q2;let x2:=x3;obtain rfl:=AjC hm;exact gE
def BZ (a0:List ByteArray)(a1:List ByteArray)(s1:Int):Option ((Int)⊕((Unit)⊕Bool)):=if(decide (s1<(a0.length:Int)))=true then Ab (idx a0 s1) fun x3=>Ab (idx a1 s1) fun x4=>if(!eqS x3 x4)=true then some (.inr (.inr false))else some (.inl (w64 (s1+1)))else some (.inr (.inl ()))
def Gk (a0:List ByteArray)(a1:List ByteArray):Option Bool:=if((a0.length:Int) !=(a1.length:Int))=true then some false else Ab (iter (BZ a0 a1) Bl 0) fun x1=>match x1 with| .inr r=>some r| .inl y1=>some true
theorem Ph {a0 a1 r}(hm:Gk a0 a1=some r):Sf prog 64 [sl eS a0,sl eS a1] (.d (.t r)):=by
 refine sq ?_;intros;refine gi hm ?_ ?_<;>intro hc1 hm
 ·exact AjC hm▸gE
 refine oB hm fun x1 q1 hm=>gI q1 (fun p=>⟨[(0,sl eS a0),(1,sl eS a1),(5,.d (.i p))],[],[],0⟩) fun s1 y2 Jl q4 bl1=>gi q4 ?_ ?_<;>intro hc2 q4
 ·refine oB q4 fun x3 q6 q4=>gx eS 1 q6<|oB q4 fun x4 q7 q4=>gx eS 1 q7<|gi q4 ?_ ?_<;>intro hc3 q4
  ·obtain rfl:=nR bl1 q4;exact AjC hm▸gE
  exact gN bl1 q4
 obtain rfl:=nR bl1 q4;exact AjC hm▸gE
def BY (a0:g_api_Cert)(a1:g_api_Cert)(s1:Int):Option ((Int)⊕((Unit)⊕Bool)):=if(decide (s1<(a0.Proms.length:Int)))=true then Ab (idx a0.Proms s1) fun x3=>Ab (idx a1.Proms s1) fun x4=>if(!De x3 x4)=true then some (.inr (.inr false))else some (.inl (w64 (s1+1)))else some (.inr (.inl ()))
def Gj (a0:g_api_Cert)(a1:g_api_Cert):Option Bool:=if((((((((((a0.Serial !=a1.Serial)||(!eqS a0.Issuer a1.Issuer))||(!eqS a0.Subject a1.Subject))||((a0.Key.toNat:Int) !=(a1.Key.toNat:Int)))||(a0.From !=a1.From))||(a0.Until !=a1.Until))||(a0.Ca !=a1.Ca))||(a0.Depth !=a1.Depth))||(!HD a0.Sig a1.Sig))||((a0.Proms.length:Int) !=(a1.Proms.length:Int)))=true then some false else Ab (iter (BY a0 a1) Bl 0) fun x1=>match x1 with| .inr r=>some r| .inl y1=>Ab (Gk a0.Names a1.Names) fun x5=>Ab (gu x5 (Gk a0.Permit a1.Permit)) fun x6=>some (x5&&x6)
theorem Vy {a0 a1 r}(hm:Gj a0 a1=some r):Sf prog 34 [ag (Am a0),ag (Am a1)] (.d (.t r)):=by
 refine sq ?_;intros;refine gi hm ?_ ?_<;>intro hc1 hm
 ·exact AjC hm▸gE
 refine oB hm fun x1 q1 hm=>gI q1 (fun p=>⟨[(2,.pb 0 0),(3,.pb 1 0),(5,.d (.i p))],[(0,.box 1 [.d (.i a1.Serial),.d (.s a1.Issuer),.d (.s a1.Subject),.d (.u a1.Key),sl eS a1.Names,.d (.i a1.From),.d (.i a1.Until),.d (.t a1.Ca),.d (.i a1.Depth),sl eS a1.Permit,sl Ae a1.Proms,.d (.u a1.Sig.E),.d (.u a1.Sig.S)] 59),(1,.box 0 [.d (.i a0.Serial),.d (.s a0.Issuer),.d (.s a0.Subject),.d (.u a0.Key),sl eS a0.Names,.d (.i a0.From),.d (.i a0.Until),.d (.t a0.Ca),.d (.i a0.Depth),sl eS a0.Permit,sl Ae a0.Proms,.d (.u a0.Sig.E),.d (.u a0.Sig.S)] 59)],[],2⟩) fun s1 y2 Jl q4 bl1=>gi q4 ?_ ?_<;>intro hc2 q4
 ·refine oB q4 fun x3 q6 q4=>gx Ae 6 q6<|oB q4 fun x4 q7 q4=>gx Ae 6 q7<|gi q4 ?_ ?_<;>intro hc3 q4
  ·obtain rfl:=nR bl1 q4;exact AjC hm▸gE
  exact gN bl1 q4
 obtain rfl:=nR bl1 q4;refine gA hm Ph fun x5 q8 hm=>oB hm fun x6 q9 hm=>gcH q9 Ph ?_;exact AjC hm▸gE
def FC (a0:List g_api_Cert)(a1:List g_api_Cert)(s1:Int):Option ((Int)⊕((Unit)⊕Bool)):=if(decide (s1<(a0.length:Int)))=true then Ab (idx a0 s1) fun x3=>Ab (idx a1 s1) fun x4=>Ab (Gj x3 x4) fun x5=>if(!x5)=true then some (.inr (.inr false))else some (.inl (w64 (s1+1)))else some (.inr (.inl ()))
def DX (a0:List g_api_Cert)(a1:List g_api_Cert):Option Bool:=if((a0.length:Int) !=(a1.length:Int))=true then some false else Ab (iter (FC a0 a1) Bl 0) fun x1=>match x1 with| .inr r=>some r| .inl y1=>some true
theorem OF {a0 a1 r}(hm:DX a0 a1=some r):Sf prog 15 [sl Am a0,sl Am a1] (.d (.t r)):=by
 refine sq ?_;intros;refine gi hm ?_ ?_<;>intro hc1 hm
 ·exact AjC hm▸gE
 refine oB hm fun x1 q1 hm=>gI q1 (fun p=>⟨[(0,sl Am a0),(1,sl Am a1),(5,.d (.i p))],[],[],0⟩) fun s1 y2 Jl q4 bl1=>gi q4 ?_ ?_<;>intro hc2 q4
 ·refine oB q4 fun x3 q6 q4=>gx Am 13 q6<|oB q4 fun x4 q7 q4=>gx Am 13 q7<|gA q4 Vy fun x5 q8 q4=>gi q4 ?_ ?_<;>intro hc3 q4
  ·obtain rfl:=nR bl1 q4;exact AjC hm▸gE
  exact gN bl1 q4
 obtain rfl:=nR bl1 q4;exact AjC hm▸gE
def DT (a0:Ah)(a1:Int):Option Bool:=Ab (Mh) fun x1=>if(!x1)=true then some false else Ab (Jc a0) fun x2=>if(!x2)=true then some true else Ab (Dk a0 a1) fun x3=>Ab (GI a0 a1) fun x4=>Ab (DX x3.1 x4.1) fun x5=>some (x5&&(x3.2==x4.2))
theorem MI {a0 a1 r}(hm:DT a0 a1=some r):Sf prog 3 [ag (Bn a0),.d (.i a1)] (.d (.t r)):=by
 refine sq ?_;intros;refine gA hm VJ fun x1 q1 hm=>gi hm ?_ ?_<;>intro hc1 hm
 ·exact AjC hm▸gE
 refine gA hm Xe fun x2 q2 hm=>gi hm ?_ ?_<;>intro hc2 hm
 ·exact AjC hm▸gE
 refine gD hm LK fun x3 q3 hm=>gD hm TC fun x4 q4 hm=>gD hm OF fun x5 q5 hm=> ?_;exact AjC hm▸gE
end Go.Proofs.YtibojdgdjhngiaaGreatDoor
