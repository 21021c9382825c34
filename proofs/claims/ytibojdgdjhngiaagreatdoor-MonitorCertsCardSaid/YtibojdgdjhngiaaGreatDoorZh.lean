/- The walks of some functions, by the executor, written by program. Conditions: none. -/
import Derived.Test.YtibojdgdjhngiaaGreatDoorZf
import Derived.Test.YtibojdgdjhngiaaGreatDoorZg
set_option linter.unusedSimpArgs false
set_option linter.unusedVariables false
set_option maxHeartbeats 20000000
set_option maxRecDepth 100000
namespace Go.Proofs.YtibojdgdjhngiaaGreatDoor
open Go Go.Gw Go.Ax Tryz
attribute [local irreducible] Go.Ax.Go
def Cy (a0:ByteArray):Option Int:=Ab (E1 a0) fun x1=>Ab (EZ x1.2.2) fun x2=>some x2
theorem Qq {a0 r}(hm:Cy a0=some r):Sf prog 188 [.d (.s a0)] (.d (.i r)):=by
 refine sq ?_;intros;refine gA hm Qp fun x1 q1 hm=>gA hm Pk fun x2 q2 hm=> ?_;exact AjC hm▸gE
def DC (a0:ByteArray):Option Int:=Ab (Fm a0) fun x1=>Ab (EZ x1) fun x2=>some x2
theorem TR {a0 r}(hm:DC a0=some r):Sf prog 189 [.d (.s a0)] (.d (.i r)):=by
 refine sq ?_;intros;refine gA hm Sy fun x1 q1 hm=>gA hm Pk fun x2 q2 hm=> ?_;exact AjC hm▸gE
def Jw (i1:Int)(x2:ByteArray)(s1:(List (ByteArray×Bool))):Option (((List (ByteArray×Bool)))⊕Bool):=Ab (gu (!(lkB s1 x2)) (Cy x2)) fun x3=>if((lkB s1 x2)||(x3 !=0))=true then some (.inr false)else if(lkI s1 x2 0).isNone=true then some (.inl (s1++[(x2,true)]))else none
def F5 (a0:List ByteArray)(a1:Int)(a2:Int):Option Bool:=Ab (JC Jw a0 0 ([]:List (ByteArray×Bool))) fun x1=>match x1 with| .inr r=>some r| .inl y1=>bnd (((decide ((a0.length:Int)≥a1))&&(decide ((a0.length:Int)≤a2)))) fun x4=>some x4
theorem PO {a0 a1 a2 r}(hm:F5 a0 a1 a2=some r):Sf prog 187 [sl eS a0,.d (.i a1),.d (.i a2),.fn (.func 188) [] []] (.d (.t r)):=by
 refine sq ?_;intros;refine gmkm<|oB hm fun x1 q1 hm=>O2 0 (E:=eS) (xs:=a0) 13 fun hle1=>gF (ER _ _ _) q1 (fun p0 p=>⟨[(0,sl eS a0),(1,.d (.i a1)),(2,.d (.i a2)),(3,.fn (.func 188) [] []),(9,.ow 0),(13,sl eS a0),(14,.d (.i (a0.length:Int))),(15,.d (.i p0)),(12,.ow 0)],[(0,.hp 0 (.mp p))],[],1⟩) fun i1 s1 Jl bl1=>cR bl1 (fun x2 y2 q5 q4 bl1=> ?_) fun e=> ?_
 ·refine gx eS 1 q5<|glk s1 x2<|oB q4 fun x3 q6 q4=>gcH q6 Qq<|gi q4 ?_ ?_<;>intro hc1 q4
  ·obtain rfl:=nT bl1 q4;obtain rfl:=AjC hm;exact gE
  obtain⟨q7,q4⟩:=Cz q4;exact gup q7<|gT bl1 hle1 q4
 subst e;let y1:=s1;refine bE hm ?_;intro x4 hm;obtain rfl:=AjC hm;exact gE
def Jv (i1:Int)(x2:ByteArray)(s1:(List (ByteArray×Bool))):Option (((List (ByteArray×Bool)))⊕Bool):=Ab (gu (!(lkB s1 x2)) (DC x2)) fun x3=>if((lkB s1 x2)||(x3 !=0))=true then some (.inr false)else if(lkI s1 x2 0).isNone=true then some (.inl (s1++[(x2,true)]))else none
def F4 (a0:List ByteArray)(a1:Int)(a2:Int):Option Bool:=Ab (JC Jv a0 0 ([]:List (ByteArray×Bool))) fun x1=>match x1 with| .inr r=>some r| .inl y1=>bnd (((decide ((a0.length:Int)≥a1))&&(decide ((a0.length:Int)≤a2)))) fun x4=>some x4
theorem PN {a0 a1 a2 r}(hm:F4 a0 a1 a2=some r):Sf prog 187 [sl eS a0,.d (.i a1),.d (.i a2),.fn (.func 189) [] []] (.d (.t r)):=by
 refine sq ?_;intros;refine gmkm<|oB hm fun x1 q1 hm=>O2 0 (E:=eS) (xs:=a0) 13 fun hle1=>gF (ER _ _ _) q1 (fun p0 p=>⟨[(0,sl eS a0),(1,.d (.i a1)),(2,.d (.i a2)),(3,.fn (.func 189) [] []),(9,.ow 0),(13,sl eS a0),(14,.d (.i (a0.length:Int))),(15,.d (.i p0)),(12,.ow 0)],[(0,.hp 0 (.mp p))],[],1⟩) fun i1 s1 Jl bl1=>cR bl1 (fun x2 y2 q5 q4 bl1=> ?_) fun e=> ?_
 ·refine gx eS 1 q5<|glk s1 x2<|oB q4 fun x3 q6 q4=>gcH q6 TR<|gi q4 ?_ ?_<;>intro hc1 q4
  ·obtain rfl:=nT bl1 q4;obtain rfl:=AjC hm;exact gE
  obtain⟨q7,q4⟩:=Cz q4;exact gup q7<|gT bl1 hle1 q4
 subst e;let y1:=s1;refine bE hm ?_;intro x4 hm;obtain rfl:=AjC hm;exact gE
def Dz (i1:Int)(x2:g_api_Promise)(s1:Int):Option ((Int)⊕Bool):=Ab (G1 x2) fun x3=>if((!x3)||(decide (x2.Log≤s1)))=true then some (.inr false)else some (.inl x2.Log)
def IN (a0:g_api_Cert):Option Bool:=Ab (JC Dz a0.Proms 0 (-1)) fun x1=>match x1 with| .inr r=>some r| .inl y1=>Ab (El a0.Serial) fun x4=>Ab (gu (!(!x4)) (El a0.From)) fun x5=>Ab (gu (!((!x4)||(!x5))) (El a0.Until)) fun x6=>bnd (((((!x4)||(!x5))||(!x6))||(decide (a0.From≥a0.Until)))) fun x7=>if x7=true then some false else Ab (DK a0.Issuer) fun x8=>Ab (gu (!((((!x8)||((a0.Key.toNat:Int)==0))||(decide ((a0.Key.toNat:Int)≥2305843009213691579)))||(decide ((a0.Proms.length:Int)>4)))) (G0 a0.Sig)) fun x9=>bnd ((((((!x8)||((a0.Key.toNat:Int)==0))||(decide ((a0.Key.toNat:Int)≥2305843009213691579)))||(decide ((a0.Proms.length:Int)>4)))||(!x9))) fun x10=>if x10=true then some false else if a0.Ca=true then Ab (DK a0.Subject) fun x11=>Ab (gu (((x11&&((a0.Names.length:Int)==0))&&(decide (a0.Depth≥0)))&&(decide (a0.Depth≤4))) (F5 a0.Permit 0 8)) fun x12=>bnd (((((x11&&((a0.Names.length:Int)==0))&&(decide (a0.Depth≥0)))&&(decide (a0.Depth≤4)))&&x12)) fun x13=>some x13 else Ab (gu (eqS a0.Subject (⟨#[]⟩:ByteArray)) (F4 a0.Names 1 8)) fun x14=>bnd (((((eqS a0.Subject (⟨#[]⟩:ByteArray))&&x14)&&(a0.Depth==0))&&((a0.Permit.length:Int)==0))) fun x15=>some x15
theorem T9 {a0 r}(hm:IN a0=some r):Sf prog 144 [ag (Am a0)] (.d (.t r)):=by
 refine sq ?_;intros;refine oB hm fun x1 q1 hm=>O2 0 (E:=Ae) (xs:=a0.Proms) 7 fun hle1=>gF (ER _ _ _) q1 (fun p0 p=>⟨[(1,.pb 0 0),(3,.d (.i p)),(7,sl Ae a0.Proms),(8,.d (.i (a0.Proms.length:Int))),(9,.d (.i p0))],[(0,.box 0 [.d (.i a0.Serial),.d (.s a0.Issuer),.d (.s a0.Subject),.d (.u a0.Key),sl eS a0.Names,.d (.i a0.From),.d (.i a0.Until),.d (.t a0.Ca),.d (.i a0.Depth),sl eS a0.Permit,sl Ae a0.Proms,.d (.u a0.Sig.E),.d (.u a0.Sig.S)] 59)],[],1⟩) fun i1 s1 Jl bl1=>cR bl1 (fun x2 y2 q5 q4 bl1=> ?_) fun e=> ?_
 ·refine gx Ae 6 q5<|gA q4 QC fun x3 q6 q4=>gi q4 ?_ ?_<;>intro hc1 q4
  ·obtain rfl:=nT bl1 q4;obtain rfl:=AjC hm;exact gE
  exact gT bl1 hle1 q4
 subst e;let y1:=s1;refine gA hm GA fun x4 q7 hm=>oB hm fun x5 q8 hm=>gcH q8 GA<|oB hm fun x6 q9 hm=>gcH q9 GA<|bE hm ?_;intro x7 hm;refine gi hm ?_ ?_<;>intro hc3 hm
 ·obtain rfl:=AjC hm;exact gE
 refine gA hm QB fun x8 q11 hm=>oB hm fun x9 q12 hm=>gcH q12 NS<|bE hm ?_;intro x10 hm;refine gi hm ?_ ?_<;>intro hc4 hm
 ·obtain rfl:=AjC hm;exact gE
 refine gi hm ?_ ?_<;>intro hc5 hm
 ·refine gA hm QB fun x11 q14 hm=>oB hm fun x12 q15 hm=>gcH q15 PO<|bE hm ?_;intro x13 hm;obtain rfl:=AjC hm;exact gE
 refine oB hm fun x14 q17 hm=>gcH q17 PN<|bE hm ?_;intro x15 hm;obtain rfl:=AjC hm;exact gE
def AE (a0:List g_api_Item):Option (List g_api_Item):=Ab (app 56 ([]:List g_api_Item) a0) fun x1=>some x1
theorem G8 {m As w a0}{a0v0:Value}{r}(S:St m (As) w)(a0h0:SlR m a0v0 a0)(hm:AE a0=some r):
  By Tryz.prog 148 #[a0v0] w fun v w'=> ∃(M:Mem),m≤M∧∃(rv0:Value) (rc0:List Value),St M ((row 3 rv0 rc0 r.length)::As) w'∧v=rv0∧Ba M rc0 r:=by
 unfold AE at hm;have L0:=Mem.rfl' m;refine Hh (args:=[a0v0]) Tryz.func148 rfl Tryz.ntmps148 (AjO rfl)<|Ai<|Af<|B5 (v:= .slice none 0 0) rfl<|Ak<|nrm<|Ai<|Ai<|Af ?_;refine AR (v:=a0v0) rfl<|NX rfl rfl a0h0 Tryz.underlying157<|Ak<|nrm<|DM (t:=(MY a0v0)) rfl (fun hc1=> ?_) (fun hc1=> ?_)
 ·have he1:a0=[]:=SlR.nilOf a0h0 hc1;rw[he1]at hm;replace hm:(some ([]:List g_api_Item))=some _:=hm;refine Ai<|Af<|B5 (v:= .slice none 0 0) rfl<|Ak<|nrm<|C4<|thR<|Ix ?_;intro we hpd;replace S:=St.pd S hpd;have S1:=St.rowNil S 3;have h1:Ba m [] ([]:List g_api_Item):=Ba.nil;replace S1:St _ ((row 3 (.slice none 0 0) [] ([]:List g_api_Item).length)::As) _:=S1;clear S;obtain rfl:=AjC hm;exact LZ [_] rfl ⟨rfl,trivial⟩ ⟨_,L0,_,_,S1,rfl,h1⟩
 refine BR<|nrm<|Ai<|Af<|LW (parts:=[]) (vs:=[]) (cls:=[]) (n:=0) (sz:=3) S Tryz.underlying157 Tryz.sizeOf159 Tryz.zeroValue159 rfl trivial rfl rfl (by decide) (by decide) ?_;intro v1 w1 S2;have h2:Ba m [] ([]:List g_api_Item):=Ba.nil;replace S2:St _ ((row 3 v1 [] ([]:List g_api_Item).length)::As) _:=S2;clear S;refine AR (v:=a0v0) rfl ?_;obtain⟨x1,q1,hm⟩:=Ad hm;refine Ur (i:=0) (zs:=x1) (bytes:=56) (ti:=Tryz.t159) S2 rfl rfl h2 rfl rfl a0h0 q1 Tryz.underlying157 Tryz.type159 rfl rfl rfl rfl ?_;intro v2 c1 w2 S3 h3;replace S3:St _ ((row 3 v2 c1 x1.length)::As) _:=S3;clear S2;refine B5 (v:=v2) rfl<|Ak<|nrm<|C4<|Ix ?_;intro we hpd;replace S3:=St.pd S3 hpd;obtain rfl:=AjC hm;exact LZ [_] rfl ⟨rfl,trivial⟩ ⟨_,L0,_,_,S3,rfl,h3⟩
theorem DN {a0 r}(hm:AE a0=some r):Sp prog 148 [sl Ac a0] [] 0 (is (.ow 0) [.row 0 3 _ Ac r] 1):=
 ⟨call148,fun η m As w vs hv0 hd S=>by
  have S:St m As w:=S;obtain⟨v0,u0,rfl,r0,hv1⟩:=BB.cons_inv hv0;have f0:=Br.ofS Tp r0.dd;obtain rfl:=BB.nil_inv hv1;refine By.mono (G8 S f0 hm) ?_;rintro v w' ⟨M,hle,y0,c0,S0,rfl,h0⟩;exact⟨M,(Ahb [v]),_,_,_,hle,AfU hd _,⟨rfl,rfl,rfl⟩,Ln rfl,(.ow rfl (ED S0)),(St.impL S0 (AeK (Br.toR Tp rfl rfl (ED S0) h0) fun _ h=>h))⟩⟩
def FU (a0:List g_api_Item):Option g_api_Item:=Ab (AE a0) fun x1=>some (⟨48,[],x1⟩:g_api_Item)
theorem I2 {a0 r}(hm:FU a0=some r):Sf prog 103 [sl Ac a0] (ag (Ac r)):=by
 refine sq ?_;intros;refine gD hm DN fun x1 q1 hm=> ?_;exact AjC hm▸gE
def Ml (a0:Int)(i1:Int)(s1:UInt8×UInt8×UInt8×UInt8×UInt8×UInt8×UInt8×UInt8):Option (UInt8×UInt8×UInt8×UInt8×UInt8×UInt8×UInt8×UInt8):=if(0:Int)≤(w64 (56-(w64 (8*(i1:Int)))))then Ab (idx [s1.1,s1.2.1,s1.2.2.1,s1.2.2.2.1,s1.2.2.2.2.1,s1.2.2.2.2.2.1,s1.2.2.2.2.2.2.1,s1.2.2.2.2.2.2.2] (i1:Int)) fun x4=>bnd (if(i1:Int)=0 then(toB (Cl a0 ((w64 (56-(w64 (8*(i1:Int))))).toNat)))else s1.1) fun x5=>bnd (if(i1:Int)=1 then(toB (Cl a0 ((w64 (56-(w64 (8*(i1:Int))))).toNat)))else s1.2.1) fun x6=>bnd (if(i1:Int)=2 then(toB (Cl a0 ((w64 (56-(w64 (8*(i1:Int))))).toNat)))else s1.2.2.1) fun x7=>bnd (if(i1:Int)=3 then(toB (Cl a0 ((w64 (56-(w64 (8*(i1:Int))))).toNat)))else s1.2.2.2.1) fun x8=>bnd (if(i1:Int)=4 then(toB (Cl a0 ((w64 (56-(w64 (8*(i1:Int))))).toNat)))else s1.2.2.2.2.1) fun x9=>bnd (if(i1:Int)=5 then(toB (Cl a0 ((w64 (56-(w64 (8*(i1:Int))))).toNat)))else s1.2.2.2.2.2.1) fun x10=>bnd (if(i1:Int)=6 then(toB (Cl a0 ((w64 (56-(w64 (8*(i1:Int))))).toNat)))else s1.2.2.2.2.2.2.1) fun x11=>bnd (if(i1:Int)=7 then(toB (Cl a0 ((w64 (56-(w64 (8*(i1:Int))))).toNat)))else s1.2.2.2.2.2.2.2) fun x12=>some (x5,x6,x7,x8,x9,x10,x11,x12)else none
def Ed (s2:(List UInt8)):Option (((List UInt8))⊕((List UInt8))):=if(decide ((s2.length:Int)>1))=true then Ab (Jq s2) fun x16=>if(!x16)=true then Ab (cut s2 1 (s2.length:Int)) fun x17=>some (.inl x17)else some (.inr s2)else some (.inr s2)
def E4 (a0:Int):Option g_api_Item:=Ab (Ab (B3 (Ml a0) 8 0 (0,0,0,0,0,0,0,0)) fun x2=>some (x2.1,x2.2.1,x2.2.2.1,x2.2.2.2.1,x2.2.2.2.2.1,x2.2.2.2.2.2.1,x2.2.2.2.2.2.2.1,x2.2.2.2.2.2.2.2)) fun x1=>Ab (Ab (iter Ed Bl ([x1.1,x1.2.1,x1.2.2.1,x1.2.2.2.1,x1.2.2.2.2.1,x1.2.2.2.2.2.1,x1.2.2.2.2.2.2.1,x1.2.2.2.2.2.2.2]:List UInt8)) fun x14=>some x14) fun x13=>Ab (AW x13) fun x18=>some (⟨2,x18,[]⟩:g_api_Item)
theorem I3 {a0 r}(hm:E4 a0=some r):Sf prog 104 [.d (.i a0)] (ag (Ac r)):=by
 refine sq fun D0 As η0 m0 hd=> ?_;unfold E4 at hm;obtain⟨x1,q1,hm⟩:=Ad hm;refine oB q1 fun x2 q2 q1=>gF (EM _ 8 _) q2 (fun p0 (p_0,p_1,p_2,p_3,p_4,p_5,p_6,p_7)=>⟨[(0,.d (.i a0)),(2,.pb 0 0),(3,.pb 1 0),(6,.d (.i p0))],[(0,.box 1 [.d (.b p_0),.d (.b p_1),.d (.b p_2),.d (.b p_3),.d (.b p_4),.d (.b p_5),.d (.b p_6),.d (.b p_7)] 192),(1,.box 0 [.d (.i 0),sl eB [],sl Ac []] 159)],[],2⟩) fun i1 s1 Jl bl1=>cM bl1 (8:Int) (fun y1 q5 bl1=> ?_) fun e=> ?_
 ·unfold Ml at q5;obtain⟨q7,q5⟩:=Cz q5;refine gsh (r:= .i (Cl a0 ((w64 (56-(w64 (8*(i1:Int))))).toNat))) (fun h=>q7)<|oB q5 fun x4 q8 q5=>O3 (fun _=>q8)<|bE q5 ?_;intro x5 q5;refine bE q5 ?_;intro x6 q5;refine bE q5 ?_;intro x7 q5;refine bE q5 ?_;intro x8 q5;refine bE q5 ?_;intro x9 q5;refine bE q5 ?_;intro x10 q5;refine bE q5 ?_;intro x11 q5;refine bE q5 ?_;intro x12 q5;exact AgZ D.b (toB (Cl a0 ((w64 (56-(w64 (8*(i1:Int))))).toNat))) q8<|gM bl1 lk q5
 subst e;obtain rfl:=AjC q1;let x1:=(x2.1,x2.2.1,x2.2.2.1,x2.2.2.2.1,x2.2.2.2.2.1,x2.2.2.2.2.2.1,x2.2.2.2.2.2.2.1,x2.2.2.2.2.2.2.2);refine gslA (k:=1) eB ([x1.1,x1.2.1,x1.2.2.1,x1.2.2.2.1,x1.2.2.2.2.1,x1.2.2.2.2.2.1,x1.2.2.2.2.2.2.1,x1.2.2.2.2.2.2.2]:List UInt8) (fun _=>rfl) ?_;obtain⟨x13,q17,hm⟩:=Ad hm;refine oB q17 fun x14 q18 q17=>gjU 2 (fun(_:Unit)=>⟨[(2,.pb 0 0),(5,sl eB x14)],[(0,.box 0 [.d (.i 0),sl eB [],sl Ac []] 159)],[],1⟩) (fun _=>True) (fun Jp bk4=> ?_) fun _ _=> ?_
 ·refine gI q18 (fun p=>⟨[(2,.pb 0 0),(5,sl eB p)],[(0,.box 0 [.d (.i 0),sl eB [],sl Ac []] 159)],[],1⟩) fun s2 y2 Jl q21 bl2=>MN 22 q21 (fun hc2 q21=> ?_) fun hc2 q21=> ?_
  ·refine gA q21 Qv fun x16 q23 q21=>gi q21 ?_ ?_<;>intro hc3 q21
   ·exact oB q21 fun x17 q24 q21=>gk eB 1 q24<|gN bl2 q21
   obtain rfl:=nR bl2 q21;exact gb bk4 hd () trivial
  refine gi' (b:=false) (fun h=>by cases h) (fun _=> ?_);obtain rfl:=nR bl2 q21;exact gb bk4 hd () trivial
 obtain rfl:=AjC q17;let x13:=x14;refine gD hm DU fun x18 q25 hm=> ?_;obtain rfl:=AjC hm;exact gE
def Ez (a0:UInt64):Option g_api_Item:=Ab (E4 (w64 (a0.toNat:Int))) fun x1=>some x1
theorem Hk {a0 r}(hm:Ez a0=some r):Sf prog 106 [.d (.u a0)] (ag (Ac r)):=by
 refine sq ?_;intros;refine gA hm I3 fun x1 q1 hm=> ?_;exact AjC hm▸gE
def IV (a0:ByteArray):Option g_api_Item:=Ab (app 1 ([]:List UInt8) a0.data.toList) fun x1=>some (⟨12,x1,[]⟩:g_api_Item)
theorem OI {a0 r}(hm:IV a0=some r):Sf prog 105 [.d (.s a0)] (ag (Ac r)):=by
 refine sq ?_;intros;refine oB hm fun x1 q1 hm=>gofS q1 ?_;exact AjC hm▸gE
def OV (a0:Bool):Option g_api_Item:=Ab (if a0=true then Ab (idx ([0]:List UInt8) 0) fun x2=>bnd (([0]:List UInt8).set (0:Int).toNat 255) fun x3=>some x3 else some ([0]:List UInt8)) fun x1=>some (⟨1,x1,[]⟩:g_api_Item)
theorem Aai {a0 r}(hm:OV a0=some r):Sf prog 108 [.d (.t a0)] (ag (Ac r)):=by
 refine sq fun D0 As η0 m0 hd=>Xa (k:=1) eB ([0]:List UInt8) (fun _=>rfl)<|oB hm fun x1 q1 hm=>gj (fun(_:Unit)=>⟨[(2,.pb 0 0),(3,.ow 1)],[(0,.row 1 1 _ eB x1),(1,.box 0 [.d (.i 0),sl eB [],sl Ac []] 159)],[],2⟩) (fun _=>True) (fun Jp bk1=> ?_) fun _ _=> ?_
 ·refine gi q1 ?_ ?_<;>intro hc1 q1
  ·refine oB q1 fun x2 q2 q1=>AfD (E:=eB) (fun _=>q2)<|bE q1 ?_;intro x3 q1;refine gstO (k:=1) (E:=eB) 255 (fun _=>rfl) q2 ?_;obtain rfl:=AjC q1;exact gb bk1 hd () trivial
  obtain rfl:=AjC q1;exact gb bk1 hd () trivial
 obtain rfl:=AjC hm;exact gE
def B1 (i1:Int)(x3:ByteArray)(s1:(List g_api_Item)):Option ((List g_api_Item)):=Ab (IV x3) fun x4=>Ab (app 56 s1 ([x4]:List g_api_Item)) fun x5=>some x5
def BT (a0:List ByteArray):Option g_api_Item:=Ab (Ab (Db B1 a0 0 ([]:List g_api_Item)) fun x2=>some x2) fun x1=>Ab (FU x1) fun x6=>some x6
theorem Hf {a0 r}(hm:BT a0=some r):Sf prog 107 [sl eS a0,.fn (.func 105) [] []] (ag (Ac r)):=by
 refine sq ?_;intros;unfold BT at hm;obtain⟨x1,q1,hm⟩:=Ad hm;refine oB q1 fun x2 q2 q1=>Nt 0 Ac 5 3<|O2 0 (E:=eS) (xs:=a0) 8 fun hle1=>gF (E0 _ _ _) q2 (fun p0 p=>⟨[(1,.fn (.func 105) [] []),(4,.pb 0 0),(5,.ow 1),(8,sl eS a0),(9,.d (.i (a0.length:Int))),(10,.d (.i p0))],[(0,.row 1 3 _ Ac p),(1,.box 0 [.d (.i 0),sl eB [],sl Ac []] 159)],[],2⟩) fun i1 s1 Jl bl1=>c0 bl1 (fun x3 y1 q6 q5 bl1=> ?_) fun e=> ?_
 ·exact gx eS 1 q6<|gA q5 OI fun x4 q7 q5=>gq Ac 3 [x4]<|oB q5 fun x5 q8 q5=>gp Ac 3 q8<|gM bl1 hle1 q5
 subst e;obtain rfl:=AjC q1;let x1:=x2;refine gD hm I2 fun x6 q9 hm=> ?_;obtain rfl:=AjC hm;exact gE
def KF (a0:g_api_Cert):Option g_api_Item:=Ab (E4 a0.Serial) fun x1=>Ab (IV a0.Issuer) fun x2=>Ab (IV a0.Subject) fun x3=>Ab (Ez a0.Key) fun x4=>Ab (BT a0.Names) fun x5=>Ab (E4 a0.From) fun x6=>Ab (E4 a0.Until) fun x7=>Ab (OV a0.Ca) fun x8=>Ab (E4 a0.Depth) fun x9=>Ab (BT a0.Permit) fun x10=>Ab (FU ([x1,x2,x3,x4,x5,x6,x7,x8,x9,x10]:List g_api_Item)) fun x11=>some x11
theorem SD {a0 r}(hm:KF a0=some r):Sf prog 66 [ag (Am a0)] (ag (Ac r)):=by
 refine sq ?_;intros;refine gA hm I3 fun x1 q1 hm=>gA hm OI fun x2 q2 hm=>gA hm OI fun x3 q3 hm=>gA hm Hk fun x4 q4 hm=>gA hm Hf fun x5 q5 hm=>gA hm I3 fun x6 q6 hm=>gA hm I3 fun x7 q7 hm=>gA hm Aai fun x8 q8 hm=>gA hm I3 fun x9 q9 hm=> ?_;refine gA hm Hf fun x10 q10 hm=>gq Ac 3 [x1,x2,x3,x4,x5,x6,x7,x8,x9,x10]<|gA hm I2 fun x11 q11 hm=> ?_;exact AjC hm▸gE
def IP (a0:g_api_Promise):Option g_api_Item:=Ab (E4 a0.Log) fun x1=>Ab (E4 a0.At) fun x2=>Ab (Ez a0.Leaf.1) fun x3=>Ab (Ez a0.Leaf.2) fun x4=>Ab (Ez a0.Sig.E) fun x5=>Ab (Ez a0.Sig.S) fun x6=>Ab (FU ([x1,x2,x3,x4,x5,x6]:List g_api_Item)) fun x7=>some x7
theorem Ua {a0 r}(hm:IP a0=some r):Sf prog 236 [ag (Ae a0)] (ag (Ac r)):=by
 refine sq ?_;intros;refine gA hm I3 fun x1 q1 hm=>gA hm I3 fun x2 q2 hm=>gA hm Hk fun x3 q3 hm=>gA hm Hk fun x4 q4 hm=>gA hm Hk fun x5 q5 hm=>gA hm Hk fun x6 q6 hm=>gq Ac 3 [x1,x2,x3,x4,x5,x6]<|gA hm I2 fun x7 q7 hm=> ?_;exact AjC hm▸gE
def Bm (i1:Int)(x3:g_api_Promise)(s1:(List g_api_Item)):Option ((List g_api_Item)):=Ab (IP x3) fun x4=>Ab (app 56 s1 ([x4]:List g_api_Item)) fun x5=>some x5
def BI (a0:List g_api_Promise):Option g_api_Item:=Ab (Ab (Db Bm a0 0 ([]:List g_api_Item)) fun x2=>some x2) fun x1=>Ab (FU x1) fun x6=>some x6
theorem I4 {a0 r}(hm:BI a0=some r):Sf prog 235 [sl Ae a0,.fn (.func 236) [] []] (ag (Ac r)):=by
 refine sq ?_;intros;unfold BI at hm;obtain⟨x1,q1,hm⟩:=Ad hm;refine oB q1 fun x2 q2 q1=>Nt 0 Ac 5 3<|O2 0 (E:=Ae) (xs:=a0) 8 fun hle1=>gF (E0 _ _ _) q2 (fun p0 p=>⟨[(1,.fn (.func 236) [] []),(4,.pb 0 0),(5,.ow 1),(8,sl Ae a0),(9,.d (.i (a0.length:Int))),(10,.d (.i p0))],[(0,.row 1 3 _ Ac p),(1,.box 0 [.d (.i 0),sl eB [],sl Ac []] 159)],[],2⟩) fun i1 s1 Jl bl1=>c0 bl1 (fun x3 y1 q6 q5 bl1=> ?_) fun e=> ?_
 ·exact gx Ae 6 q6<|gA q5 Ua fun x4 q7 q5=>gq Ac 3 [x4]<|oB q5 fun x5 q8 q5=>gp Ac 3 q8<|gM bl1 hle1 q5
 subst e;obtain rfl:=AjC q1;let x1:=x2;refine gD hm I2 fun x6 q9 hm=> ?_;obtain rfl:=AjC hm;exact gE
def Lg (a0:g_api_Cert):Option g_api_Item:=Ab (KF a0) fun x1=>Ab (BI a0.Proms) fun x2=>Ab (FU ([x1,x2]:List g_api_Item)) fun x3=>some x3
theorem Xu {a0 r}(hm:Lg a0=some r):Sf prog 190 [ag (Am a0)] (ag (Ac r)):=by
 refine sq ?_;intros;refine gA hm SD fun x1 q1 hm=>gA hm I4 fun x2 q2 hm=>gq Ac 3 [x1,x2]<|gA hm I2 fun x3 q3 hm=> ?_;exact AjC hm▸gE
def J3 (a0:g_api_Cert):Option g_api_Item:=Ab (Lg a0) fun x1=>Ab (Ez a0.Sig.E) fun x2=>Ab (Ez a0.Sig.S) fun x3=>Ab (FU ([x2,x3]:List g_api_Item)) fun x4=>Ab (FU ([x1,x4]:List g_api_Item)) fun x5=>some x5
theorem VS {a0 r}(hm:J3 a0=some r):Sf prog 145 [ag (Am a0)] (ag (Ac r)):=by
 refine sq ?_;intros;refine gA hm Xu fun x1 q1 hm=>gA hm Hk fun x2 q2 hm=>gA hm Hk fun x3 q3 hm=>gq Ac 3 [x2,x3]<|gA hm I2 fun x4 q4 hm=>gq Ac 3 [x1,x4]<|gA hm I2 fun x5 q5 hm=> ?_;exact AjC hm▸gE
def E5 (a0:g_api_Cert):Option Int:=Ab (IN a0) fun x1=>if(!x1)=true then some 1 else Ab (J3 a0) fun x2=>Ab (KE x2) fun x3=>if((x3.2 !=0)||(decide ((x3.1.length:Int)>2048)))=true then some 2 else some 0
theorem Pn {a0 r}(hm:E5 a0=some r):Sf prog 101 [ag (Am a0)] (.d (.i r)):=by
 refine sq ?_;intros;refine gA hm T9 fun x1 q1 hm=>gi hm ?_ ?_<;>intro hc1 hm
 ·exact AjC hm▸gE
 refine gA hm VS fun x2 q2 hm=>gD hm VO fun x3 q3 hm=>gi hm ?_ ?_<;>intro hc2 hm
 ·exact AjC hm▸gE
 exact AjC hm▸gE
def Dl (i1:Int)(x8:UInt8)(s1:Int):Option (Int):=bnd ((PT (HZ s1 8) (w64 (x8.toNat:Int)))) fun x9=>some x9
def AZ (a0:List UInt8):Option (Int×Int×Int):=if((a0.length:Int)==0)=true then some (0,0,70)else Ab (idx a0 0) fun x1=>if(decide ((w64 (x1.toNat:Int))<128))=true then some ((w64 (x1.toNat:Int)),1,0)else bnd ((w64 ((w64 (x1.toNat:Int))-128))) fun x2=>bnd ((((w64 (x1.toNat:Int)) !=129)&&((w64 (x1.toNat:Int)) !=130))) fun x3=>if x3=true then some (0,0,71)else bnd ((decide ((a0.length:Int)≤x2))) fun x4=>if x4=true then some (0,0,70)else Ab (Ab (cut a0 1 (w64 (x2+1))) fun x6=>Ab (Db Dl x6 0 0) fun x7=>some x7) fun x5=>if((decide (x5<128))||(((w64 (x1.toNat:Int))==130)&&(decide (x5<256))))=true then some (0,0,71)else some (x5,(w64 (x2+1)),0)
theorem VM {a0 r}(hm:AZ a0=some r):Sf prog 195 [sl eB a0] (.tup [.d (.i r.1),.d (.i r.2.1),.d (.i r.2.2)]):=by
 refine sq ?_;intros;refine gi hm ?_ ?_<;>intro hc1 hm
 ·obtain rfl:=AjC hm;exact gE
 refine oB hm fun x1 q1 hm=>gx eB 1 q1<|gi hm ?_ ?_<;>intro hc2 hm
 ·obtain rfl:=AjC hm;exact gE
 refine bE hm ?_;intro x2 hm;refine bE hm ?_;intro x3 hm;refine gi hm ?_ ?_<;>intro hc3 hm
 ·obtain rfl:=AjC hm;exact gE
 refine bE hm ?_;intro x4 hm;refine gi hm ?_ ?_<;>intro hc4 hm
 ·obtain rfl:=AjC hm;exact gE
 obtain⟨x5,q5,hm⟩:=Ad hm;refine oB q5 fun x6 q6 q5=>gk eB 1 q6<|oB q5 fun x7 q7 q5=>O2 1 (E:=eB) (xs:=x6) 36 fun hle1=>gF (E0 _ _ _) q7 (fun p0 p=>⟨[(2,.d (.i p)),(5,.d (.i (w64 (x1.toNat:Int)))),(6,.d (.i x2)),(36,sl eB x6),(37,.d (.i (x6.length:Int))),(38,.d (.i p0))],[],[],0⟩) fun i1 s1 Jl bl1=>c0 bl1 (fun x8 y1 q11 q10 bl1=> ?_) fun e=> ?_
 ·refine gx eB 1 q11<|bE q10 ?_;intro x9 q10;exact gM bl1 hle1 q10
 subst e;obtain rfl:=AjC q5;let x5:=x7;refine gi hm ?_ ?_<;>intro hc6 hm
 ·obtain rfl:=AjC hm;exact gE
 obtain rfl:=AjC hm;exact gE
def W8 (rF:(List UInt8)→Int→Option (g_api_Item×(List UInt8)×Int)):Prop:= ∀{a0:List UInt8} {a1:Int} {r:g_api_Item×(List UInt8)×Int},rF a0 a1=some r→Sf prog 151 [sl eB a0,.d (.i a1)] (.tup [ag (Ac r.1),sl eB r.2.1,.d (.i r.2.2)])
def Ch (rF:(List UInt8)→Int→Option (g_api_Item×(List UInt8)×Int))(a1:Int)(s1:(List UInt8)×(List UInt8)×(List g_api_Item)):Option (((List UInt8)×(List UInt8)×(List g_api_Item))⊕(((List UInt8)×(List g_api_Item))⊕(g_api_Item×(List UInt8)×Int))):=if(decide ((s1.2.1.length:Int)>0))=true then Ab (rF s1.2.1 (w64 (a1-1))) fun x12=>if(x12.2.2 !=0)=true then some (.inr (.inr ((⟨0,[],[]⟩:g_api_Item),([]:List UInt8),71)))else Ab (app 56 s1.2.2 ([x12.1]:List g_api_Item)) fun x13=>some (.inl (s1.1,x12.2.1,x13))else some (.inr (.inl (s1.1,s1.2.2)))
def E3 (rF:(List UInt8)→Int→Option (g_api_Item×(List UInt8)×Int))(a0:List UInt8)(a1:Int):Option (g_api_Item×(List UInt8)×Int):=if((a0.length:Int)==0)=true then some ((⟨0,[],[]⟩:g_api_Item),([]:List UInt8),70)else Ab (idx a0 0) fun x1=>Ab (Hz (w64 (x1.toNat:Int))) fun x2=>if((!x2.2)||(decide (a1<1)))=true then some ((⟨0,[],[]⟩:g_api_Item),([]:List UInt8),71)else Ab (cut a0 1 (a0.length:Int)) fun x3=>Ab (AZ x3) fun x4=>if(x4.2.2 !=0)=true then some ((⟨0,[],[]⟩:g_api_Item),([]:List UInt8),x4.2.2)else if(decide ((w64 ((w64 (1+x4.2.1))+x4.1))>8192))=true then some ((⟨0,[],[]⟩:g_api_Item),([]:List UInt8),71)else Ab (cut a0 (w64 (1+x4.2.1)) (a0.length:Int)) fun x5=>if(decide (x4.1>(x5.length:Int)))=true then some ((⟨0,[],[]⟩:g_api_Item),([]:List UInt8),70)else Ab (cut x5 0 x4.1) fun x6=>Ab (cut x5 x4.1 (x5.length:Int)) fun x7=>if(x2.1.tag_ !=48)=true then Ab (Oc x2.1.may_ x6) fun x8=>if(!x8)=true then some ((⟨0,[],[]⟩:g_api_Item),([]:List UInt8),71)else Ab (AW x6) fun x9=>some ((⟨x2.1.tag_,x9,[]⟩:g_api_Item),x7,0)else Ab (iter ((Ch rF) a1) Bl (x7,x6,([]:List g_api_Item))) fun x10=>match x10 with| .inr r=>some r| .inl y1=>some ((⟨x2.1.tag_,[],y1.2⟩:g_api_Item),y1.1,0)
theorem Xs {rF:(List UInt8)→Int→Option (g_api_Item×(List UInt8)×Int)}(hF:W8 rF){a0 a1 r}(hm:E3 rF a0 a1=some r):Sf prog 151 [sl eB a0,.d (.i a1)] (.tup [ag (Ac r.1),sl eB r.2.1,.d (.i r.2.2)]):=by
 refine sq ?_;intros;refine gi hm ?_ ?_<;>intro hc1 hm
 ·obtain rfl:=AjC hm;exact gE
 refine oB hm fun x1 q1 hm=>gx eB 1 q1<|gA hm SC fun x2 q2 hm=>gi hm ?_ ?_<;>intro hc2 hm
 ·obtain rfl:=AjC hm;exact gE
 refine oB hm fun x3 q3 hm=>gk eB 1 q3<|gA hm VM fun x4 q4 hm=>gi hm ?_ ?_<;>intro hc3 hm
 ·obtain rfl:=AjC hm;exact gE
 refine gi hm ?_ ?_<;>intro hc4 hm
 ·obtain rfl:=AjC hm;exact gE
 refine oB hm fun x5 q5 hm=>gk eB 1 q5<|gi hm ?_ ?_<;>intro hc5 hm
 ·obtain rfl:=AjC hm;exact gE
 refine oB hm fun x6 q6 hm=>gk eB 1 q6<|oB hm fun x7 q7 hm=>gk eB 1 q7<|gi hm ?_ ?_<;>intro hc6 hm
 ·refine oB hm fun x8 q8 hm=>gdyn (fun _=>YP q8)<|gi hm ?_ ?_<;>intro hc7 hm
  ·obtain rfl:=AjC hm;exact gE
  refine gD hm DU fun x9 q9 hm=> ?_;obtain rfl:=AjC hm;exact gE
 refine oB hm fun x10 q10 hm=>WI 0 Ac 4 2 3<|gI q10 (fun(p_0,p_1,p_2)=>⟨[(1,.d (.i a1)),(4,.pb 0 0),(5,sl eB p_0),(11,sl eB p_1),(7,.pb 1 0)],[(0,.row 2 3 _ Ac p_2),(1,.box 1 [.d (.i x2.1.tag_),.d (.v (fnV x2.1.may_))] 236),(2,.box 0 [.d (.i x2.1.tag_),sl eB [],.ow 2] 159)],[],3⟩) fun s1 y2 Jl q13 bl1=>gi q13 ?_ ?_<;>intro hc8 q13
 ·refine gA q13 hF fun x12 q15 q13=>gi q13 ?_ ?_<;>intro hc9 q13
  ·obtain rfl:=nR bl1 q13;obtain rfl:=AjC hm;exact gE
  exact gq Ac 3 [x12.1]<|oB q13 fun x13 q16 q13=>gp Ac 3 q16<|gN bl1 q13
 obtain rfl:=nR bl1 q13;let y1:=(s1.1,s1.2.2);obtain rfl:=AjC hm;exact gE
def Dj:Nat→(List UInt8)→Int→Option (g_api_Item×(List UInt8)×Int)
 |0,_,_=>none
 |n+1,a0,a1=>E3 (Dj n) a0 a1
def Oe (a0:List UInt8)(a1:Int):Option (g_api_Item×(List UInt8)×Int):=Dj Bl a0 a1
theorem Sv: ∀n,W8 (Dj n)
 |0=>fun hm=>by cases hm
 |n+1=>fun hm=>Xs (Sv n) hm
theorem Abo {a0:List UInt8}{a1:Int}{r:g_api_Item×(List UInt8)×Int}(hm:Oe a0 a1=some r):Sf prog 151 [sl eB a0,.d (.i a1)] (.tup [ag (Ac r.1),sl eB r.2.1,.d (.i r.2.2)]):=Sv Bl hm
def H9 (a0:List UInt8)(a1:Int):Option (g_api_Item×Int×Int):=if((decide (a1<0))||(decide (a1>(a0.length:Int))))=true then some ((⟨0,[],[]⟩:g_api_Item),0,1)else Ab (cut a0 a1 (a0.length:Int)) fun x1=>Ab (Oe x1 8) fun x2=>if(x2.2.2 !=0)=true then some ((⟨0,[],[]⟩:g_api_Item),0,x2.2.2)else bnd ((w64 ((a0.length:Int)-(x2.2.1.length:Int)))) fun x3=>some (x2.1,x3,0)
theorem Abp {a0 a1 r}(hm:H9 a0 a1=some r):Sf prog 110 [sl eB a0,.d (.i a1)] (.tup [ag (Ac r.1),.d (.i r.2.1),.d (.i r.2.2)]):=by
 refine sq ?_;intros;refine gi hm ?_ ?_<;>intro hc1 hm
 ·obtain rfl:=AjC hm;exact gE
 refine oB hm fun x1 q1 hm=>gk eB 1 q1<|gA hm Abo fun x2 q2 hm=>gi hm ?_ ?_<;>intro hc2 hm
 ·obtain rfl:=AjC hm;exact gE
 refine bE hm ?_;intro x3 hm;obtain rfl:=AjC hm;exact gE
def UK:Value:= .iface 169 (.agg #[])
def A6 (a0:Bool):Option (Option Unit):=some (if a0=true then some ()else none)
theorem AN {a0 r}(hm:A6 a0=some r):Sb prog 112 [.d (.t a0)] [] 0 UK (Pos r (fun r=> .tup []) (fun r=> []) 0) (r=none):=
 sb call112 func112 rfl ntmps112 rfl fun D0 As η0 m0 hd=>by
  obtain rfl:=AjC hm;refine gi' (b:= !a0) (fun hc=> ?_) fun hc=> ?_
  ·cases a0 with
   |true=>cases hc
   |false=>exact gthrow (by kernel_rfl)
  ·cases a0 with
   |true=>exact PY hd
   |false=>cases hc
def Lc (a0:g_api_Item):Option (List g_api_Item):=Ab (AE a0.L) fun x1=>some x1
theorem T4 {a0 r}(hm:Lc a0=some r):Sp prog 197 [ag (Ac a0)] [] 0 (is (.ow 0) [.row 0 3 _ Ac r] 1):=by
 refine sq ?_;intros;refine gD hm DN fun x1 q1 hm=> ?_;exact AjC hm▸gE
def EH (a0:g_api_Item)(a1:Int):Option ((List g_api_Item)×Int):=if(a0.Tag !=a1)=true then some (([]:List g_api_Item),72)else Ab (Jo a0 8) fun x1=>if(!x1)=true then some (([]:List g_api_Item),71)else Ab (Lc a0) fun x2=>some (x2,0)
theorem Ly {a0 a1 r}(hm:EH a0 a1=some r):Sp prog 196 [ag (Ac a0),.d (.i a1),.fn (.func 197) [] []] [] 0 (is (.tup [.ow 0,.d (.i r.2)]) [.row 0 3 _ Ac r.1] 1):=by
 refine sq ?_;intros;refine gi hm ?_ ?_<;>intro hc1 hm
 ·refine W9 Ac 6 3 ?_;exact AjC hm▸gE
 refine gA hm LL fun x1 q1 hm=>gi hm ?_ ?_<;>intro hc2 hm
 ·refine W9 Ac 6 3 ?_;exact AjC hm▸gE
 refine gD hm T4 fun x2 q2 hm=> ?_;exact AjC hm▸gE
def HB (a0:g_api_Item):Option ((List g_api_Item)×Int):=Ab (EH a0 48) fun x1=>some (x1.1,x1.2)
theorem Qz {a0 r}(hm:HB a0=some r):Sp prog 152 [ag (Ac a0)] [] 0 (is (.tup [.ow 0,.d (.i r.2)]) [.row 0 3 _ Ac r.1] 1):=by
 refine sq ?_;intros;refine gD hm Ly fun x1 q1 hm=> ?_;exact AjC hm▸gE
def Jy (a0:g_api_Item):Option (Option Au):=Ab (HB a0) fun x1=>Ab (A6 (x1.2==0)) fun y1=>match y1 with|none=>some none|some x2=>some (some (⟨x1.1⟩:Au))
theorem VT {a0 r}(hm:Jy a0=some r):Sb prog 113 [ag (Ac a0)] [] 0 UK (Pos r (fun r=> .pb 0 0) (fun r=> [.box 0 [.d (.sl _ Ac r.l_)] 200]) 1) (r=none):=
 sb call113 func113 rfl ntmps113 rfl fun D0 As η0 m0 hd=>by
  unfold Jy at hm;refine gD hm Qz fun x1 q1 hm=> ?_;obtain⟨y1,q2,hm⟩:=Ad hm;rcases y1 with _|x2
  ·dsimp only at hm;obtain rfl:=AjC hm;exact O1 (AN q2)
  dsimp only at hm;refine gc (fun _=>(AN q2).sp) ?_;obtain rfl:=AjC hm;exact PY hd
def Eu (i1:Int)(x5:UInt8)(s1:Int):Option (Int):=bnd ((PT (HZ s1 8) (w64 (x5.toNat:Int)))) fun x6=>some x6
def IL (a0:g_api_Item):Option Int:=Ab (idx a0.B 0) fun x1=>Ab (Ab (cut a0.B 1 (a0.B.length:Int)) fun x3=>Ab (Db Eu x3 0 (w64 (w8 (x1.toNat:Int)))) fun x4=>some x4) fun x2=>some x2
theorem T5 {a0 r}(hm:IL a0=some r):Sf prog 199 [ag (Ac a0)] (.d (.i r)):=by
 refine sq ?_;intros;refine oB hm fun x1 q1 hm=>gx eB 1 q1 ?_;obtain⟨x2,q2,hm⟩:=Ad hm;refine oB q2 fun x3 q3 q2=>gk eB 1 q3<|oB q2 fun x4 q4 q2=>O2 0 (E:=eB) (xs:=x3) 14 fun hle1=>gF (E0 _ _ _) q4 (fun p0 p=>⟨[(3,.d (.i p)),(14,sl eB x3),(15,.d (.i (x3.length:Int))),(16,.d (.i p0)),(1,.pb 0 0)],[(0,.box 0 [.d (.i a0.Tag),sl eB a0.B,sl Ac a0.L] 159)],[],1⟩) fun i1 s1 Jl bl1=>c0 bl1 (fun x5 y1 q8 q7 bl1=> ?_) fun e=> ?_
 ·refine gx eB 1 q8<|bE q7 ?_;intro x6 q7;exact gM bl1 hle1 q7
 subst e;obtain rfl:=AjC q2;let x2:=x4;obtain rfl:=AjC hm;exact gE
def HA (a0:g_api_Item)(a1:Int):Option (Int×Int):=if(a0.Tag !=a1)=true then some (0,72)else Ab (Jo a0 8) fun x1=>if(!x1)=true then some (0,71)else Ab (IL a0) fun x2=>some (x2,0)
theorem OH {a0 a1 r}(hm:HA a0 a1=some r):Sf prog 198 [ag (Ac a0),.d (.i a1),.fn (.func 199) [] []] (.tup [.d (.i r.1),.d (.i r.2)]):=by
 refine sq ?_;intros;refine gi hm ?_ ?_<;>intro hc1 hm
 ·exact AjC hm▸gE
 refine gA hm LL fun x1 q1 hm=>gi hm ?_ ?_<;>intro hc2 hm
 ·exact AjC hm▸gE
 refine gA hm T5 fun x2 q2 hm=> ?_;exact AjC hm▸gE
def Jt (a0:g_api_Item):Option (Int×Int):=Ab (HA a0 2) fun x1=>some (x1.1,x1.2)
theorem Xt {a0 r}(hm:Jt a0=some r):Sf prog 154 [ag (Ac a0)] (.tup [.d (.i r.1),.d (.i r.2)]):=by
 refine sq ?_;intros;refine gA hm OH fun x1 q1 hm=> ?_;exact AjC hm▸gE
def C3 (a0:Au):Option (Option (Int×Au)):=
 Ab (A6 (decide ((a0.l_.length:Int)>0))) fun y1=>match y1 with
 |none=>some none
 |some x1=>
 Ab (idx a0.l_ 0) fun x2=>
 Ab (Jt x2) fun x3=>
 Ab (A6 (x3.2==0)) fun y2=>match y2 with
 |none=>some none
 |some x4=>
 Ab (cut a0.l_ 1 (a0.l_.length:Int)) fun x5=>
 some (some (x3.1,(⟨x5⟩:Au)))
theorem It {a0 r}(hm:C3 a0=some r):Sb prog 153 [.pb 0 0,.fn (.func 154) [] []] [.box 0 [sl Ac a0.l_] 200] 1 UK (Pos r (fun r=> .d (.i r.1)) (fun r=> [.box 0 [.d (.sl _ Ac r.2.l_)] 200]) 1) (r=none):=
 sb call153 func153 rfl ntmps153 rfl fun D0 As η0 m0 hd=>by
  unfold C3 at hm;obtain⟨y1,q1,hm⟩:=Ad hm;rcases y1 with _|x1
  ·dsimp only at hm;obtain rfl:=AjC hm;exact O1 (AN q1)
  dsimp only at hm;refine gc (fun _=>(AN q1).sp)<|oB hm fun x2 q2 hm=>gx Ac 3 q2<|gA hm Xt fun x3 q3 hm=> ?_;obtain⟨y2,q4,hm⟩:=Ad hm;rcases y2 with _|x4
  ·dsimp only at hm;obtain rfl:=AjC hm;exact O1 (AN q4)
  dsimp only at hm;refine gc (fun _=>(AN q4).sp)<|oB hm fun x5 q5 hm=>gk Ac 3 q5 ?_;obtain rfl:=AjC hm;exact PY hd
def Bq (a0:Au):Option (Option (Int×Au)):=
 Ab (C3 a0) fun y1=>match y1 with
 |none=>some none
 |some x1=>
 Ab (A6 (decide (x1.1≥0))) fun y2=>match y2 with
 |none=>some none
 |some x2=>
 some (some (x1.1,x1.2))
theorem Bc {a0 r}(hm:Bq a0=some r):Sb prog 114 [.pb 0 0] [.box 0 [sl Ac a0.l_] 200] 1 UK (Pos r (fun r=> .d (.i r.1)) (fun r=> [.box 0 [.d (.sl _ Ac r.2.l_)] 200]) 1) (r=none):=
 sb call114 func114 rfl ntmps114 rfl fun D0 As η0 m0 hd=>by
  unfold Bq at hm;obtain⟨y1,q1,hm⟩:=Ad hm;rcases y1 with _|x1
  ·dsimp only at hm;obtain rfl:=AjC hm;exact O1 (It q1)
  dsimp only at hm;refine gco (It q1).sp ?_;obtain⟨y2,q2,hm⟩:=Ad hm;rcases y2 with _|x2
  ·dsimp only at hm;obtain rfl:=AjC hm;exact O1 (AN q2)
  dsimp only at hm;refine gc (fun _=>(AN q2).sp) ?_;obtain rfl:=AjC hm;exact PY hd
def MX (a0:g_api_Item):Option ByteArray:=some (bs a0.B)
theorem R5 {a0 r}(hm:MX a0=some r):Sf prog 156 [ag (Ac a0)] (.d (.s r)):=by
 refine sq ?_;intros;refine gbs (xs:=a0.B) ?_;exact AjC hm▸gE
def FD (a0:g_api_Item)(a1:Int):Option (ByteArray×Int):=if(a0.Tag !=a1)=true then some ((⟨#[]⟩:ByteArray),72)else Ab (Jo a0 8) fun x1=>if(!x1)=true then some ((⟨#[]⟩:ByteArray),71)else Ab (MX a0) fun x2=>some (x2,0)
theorem MJ {a0 a1 r}(hm:FD a0 a1=some r):Sf prog 155 [ag (Ac a0),.d (.i a1),.fn (.func 156) [] []] (.tup [.d (.s r.1),.d (.i r.2)]):=by
 refine sq ?_;intros;refine gi hm ?_ ?_<;>intro hc1 hm
 ·exact AjC hm▸gE
 refine gA hm LL fun x1 q1 hm=>gi hm ?_ ?_<;>intro hc2 hm
 ·exact AjC hm▸gE
 refine gA hm R5 fun x2 q2 hm=> ?_;exact AjC hm▸gE
def Ia (a0:g_api_Item):Option (ByteArray×Int):=Ab (FD a0 12) fun x1=>some (x1.1,x1.2)
theorem VP {a0 r}(hm:Ia a0=some r):Sf prog 116 [ag (Ac a0)] (.tup [.d (.s r.1),.d (.i r.2)]):=by
 refine sq ?_;intros;refine gA hm MJ fun x1 q1 hm=> ?_;exact AjC hm▸gE
def D3 (a0:Au):Option (Option (UInt64×Au)):=Ab (Bq a0) fun y1=>match y1 with|none=>some none|some x1=>some (some ((toU x1.1),x1.2))
theorem Kp {a0 r}(hm:D3 a0=some r):Sb prog 117 [.pb 0 0] [.box 0 [sl Ac a0.l_] 200] 1 UK (Pos r (fun r=> .d (.u r.1)) (fun r=> [.box 0 [.d (.sl _ Ac r.2.l_)] 200]) 1) (r=none):=
 sb call117 func117 rfl ntmps117 rfl fun D0 As η0 m0 hd=>by
  unfold D3 at hm;obtain⟨y1,q1,hm⟩:=Ad hm;rcases y1 with _|x1
  ·dsimp only at hm;obtain rfl:=AjC hm;exact O1 (Bc q1)
  dsimp only at hm;refine gco (Bc q1).sp ?_;obtain rfl:=AjC hm;exact PY hd
def B2 (a0:Au):Option (Option ((List g_api_Item)×Au)):=
 Ab (A6 (decide ((a0.l_.length:Int)>0))) fun y1=>match y1 with
 |none=>some none
 |some x1=>
 Ab (idx a0.l_ 0) fun x2=>
 Ab (HB x2) fun x3=>
 Ab (A6 (x3.2==0)) fun y2=>match y2 with
 |none=>some none
 |some x4=>
 Ab (cut a0.l_ 1 (a0.l_.length:Int)) fun x5=>
 some (some (x3.1,(⟨x5⟩:Au)))
theorem FI {a0 r}(hm:B2 a0=some r):Sb prog 200 [.pb 0 0,.fn (.func 152) [] []] [.box 0 [sl Ac a0.l_] 200] 1 UK (Pos r (fun r=> .ow 1) (fun r=> [.box 0 [.d (.sl _ Ac r.2.l_)] 200,.row 1 3 _ Ac r.1]) 2) (r=none):=
 sb call200 func200 rfl ntmps200 rfl fun D0 As η0 m0 hd=>by
  unfold B2 at hm;obtain⟨y1,q1,hm⟩:=Ad hm;rcases y1 with _|x1
  ·dsimp only at hm;obtain rfl:=AjC hm;exact O1 (AN q1)
  dsimp only at hm;refine gc (fun _=>(AN q1).sp)<|oB hm fun x2 q2 hm=>gx Ac 3 q2<|gD hm Qz fun x3 q3 hm=> ?_;obtain⟨y2,q4,hm⟩:=Ad hm;rcases y2 with _|x4
  ·dsimp only at hm;obtain rfl:=AjC hm;exact O1 (AN q4)
  dsimp only at hm;refine gc (fun _=>(AN q4).sp)<|oB hm fun x5 q5 hm=>gk Ac 3 q5 ?_;obtain rfl:=AjC hm;exact PY hd
def D1 (a0:Au):Option (Option (Au×Au)):=Ab (B2 a0) fun y1=>match y1 with|none=>some none|some x1=>some (some ((⟨x1.1⟩:Au),x1.2))
theorem Kl {a0 r}(hm:D1 a0=some r):Sb prog 157 [.pb 0 0] [.box 0 [sl Ac a0.l_] 200] 1 UK (Pos r (fun r=> .pb 1 0) (fun r=> [.box 0 [.d (.sl _ Ac r.2.l_)] 200,.box 1 [.d (.sl _ Ac r.1.l_)] 200]) 2) (r=none):=
 sb call157 func157 rfl ntmps157 rfl fun D0 As η0 m0 hd=>by
  unfold D1 at hm;obtain⟨y1,q1,hm⟩:=Ad hm;rcases y1 with _|x1
  ·dsimp only at hm;obtain rfl:=AjC hm;exact O1 (FI q1)
  dsimp only at hm;refine gco (FI q1).sp ?_;obtain rfl:=AjC hm;exact PY hd
def AM (a0:Au):Option (Option (ByteArray×Au)):=
 Ab (A6 (decide ((a0.l_.length:Int)>0))) fun y1=>match y1 with
 |none=>some none
 |some x1=>
 Ab (idx a0.l_ 0) fun x2=>
 Ab (Ia x2) fun x3=>
 Ab (A6 (x3.2==0)) fun y2=>match y2 with
 |none=>some none
 |some x4=>
 Ab (cut a0.l_ 1 (a0.l_.length:Int)) fun x5=>
 some (some (x3.1,(⟨x5⟩:Au)))
theorem BN {a0 r}(hm:AM a0=some r):Sb prog 115 [.pb 0 0,.fn (.func 116) [] []] [.box 0 [sl Ac a0.l_] 200] 1 UK (Pos r (fun r=> .d (.s r.1)) (fun r=> [.box 0 [.d (.sl _ Ac r.2.l_)] 200]) 1) (r=none):=
 sb call115 func115 rfl ntmps115 rfl fun D0 As η0 m0 hd=>by
  unfold AM at hm;obtain⟨y1,q1,hm⟩:=Ad hm;rcases y1 with _|x1
  ·dsimp only at hm;obtain rfl:=AjC hm;exact O1 (AN q1)
  dsimp only at hm;refine gc (fun _=>(AN q1).sp)<|oB hm fun x2 q2 hm=>gx Ac 3 q2<|gA hm VP fun x3 q3 hm=> ?_;obtain⟨y2,q4,hm⟩:=Ad hm;rcases y2 with _|x4
  ·dsimp only at hm;obtain rfl:=AjC hm;exact O1 (AN q4)
  dsimp only at hm;refine gc (fun _=>(AN q4).sp)<|oB hm fun x5 q5 hm=>gk Ac 3 q5 ?_;obtain rfl:=AjC hm;exact PY hd
def AY (s1:(List ByteArray)×(List g_api_Item)):Option (((List ByteArray)×(List g_api_Item))⊕(((List ByteArray)×(List g_api_Item))⊕(Option ((List ByteArray)×Au)))):=if(decide ((s1.2.length:Int)>0))=true then Ab (AM (⟨s1.2⟩:Au)) fun y4=>match y4 with|none=>some (.inr (.inr none))|some x4=>Ab (app 16 s1.1 ([x4.1]:List ByteArray)) fun x5=>some (.inl (x5,x4.2.l_))else some (.inr (.inl (s1.1,s1.2)))
def CJ (a0:Au):Option (Option ((List ByteArray)×Au)):=
 Ab (D1 a0) fun y1=>match y1 with
 |none=>some none
 |some x1=>
 Ab (iter AY Bl (([]:List ByteArray),x1.1.l_)) fun x2=>match x2 with
 | .inr r=>some r
 | .inl y2=>
 some (some (y2.1,x1.2))
theorem Ei {a0 r}(hm:CJ a0=some r):Sb prog 118 [.pb 0 0] [.box 0 [sl Ac a0.l_] 200] 1 UK (Pos r (fun r=> .ow 1) (fun r=> [.box 0 [.d (.sl _ Ac r.2.l_)] 200,.row 1 1 _ eS r.1]) 2) (r=none):=
 sb call118 func118 rfl ntmps118 rfl fun D0 As η0 m0 hd=>by
  unfold CJ at hm;obtain⟨y1,q1,hm⟩:=Ad hm;rcases y1 with _|x1
  ·dsimp only at hm;obtain rfl:=AjC hm;exact O1 (Kl q1)
  dsimp only at hm;refine gco (Kl q1).sp<|oB hm fun x2 q2 hm=>Nt 0 eS 3 1<|gI q2 (fun(p_0,p_1)=>⟨[(3,.ow 2),(4,.pb 1 0),(6,.pb 1 0)],[(0,.row 2 1 _ eS p_0),(1,.box 1 [sl Ac p_1] 200),(2,.box 0 [sl Ac x1.2.l_] 200)],[],3⟩) fun s1 y3 Jl q5 bl1=> ?_;unfold AY at q5;refine gi q5 ?_ ?_<;>intro hc1 q5
  ·obtain⟨y4,q7,q5⟩:=Ad q5;rcases y4 with _|x4
   ·dsimp only at q5;obtain rfl:=nR bl1 q5;obtain rfl:=AjC hm;exact O1 (BN q7)
   dsimp only at q5;exact gco (BN q7).sp<|gq eS 1 [x4.1]<|oB q5 fun x5 q8 q5=>gp eS 1 q8<|gN bl1 q5
  obtain rfl:=nR bl1 q5;let y2:=(s1.1,s1.2);obtain rfl:=AjC hm;exact PY hd
def Ka (a0:g_api_Item):Option Bool:=Ab (idx a0.B 0) fun x1=>some ((x1.toNat:Int) !=0)
theorem R6 {a0 r}(hm:Ka a0=some r):Sf prog 159 [ag (Ac a0)] (.d (.t r)):=by
 refine sq ?_;intros;refine oB hm fun x1 q1 hm=>gx eB 1 q1 ?_;exact AjC hm▸gE
def GX (a0:g_api_Item)(a1:Int):Option (Bool×Int):=if(a0.Tag !=a1)=true then some (false,72)else Ab (Jo a0 8) fun x1=>if(!x1)=true then some (false,71)else Ab (Ka a0) fun x2=>some (x2,0)
theorem NQ {a0 a1 r}(hm:GX a0 a1=some r):Sf prog 158 [ag (Ac a0),.d (.i a1),.fn (.func 159) [] []] (.tup [.d (.t r.1),.d (.i r.2)]):=by
 refine sq ?_;intros;refine gi hm ?_ ?_<;>intro hc1 hm
 ·exact AjC hm▸gE
 refine gA hm LL fun x1 q1 hm=>gi hm ?_ ?_<;>intro hc2 hm
 ·exact AjC hm▸gE
 refine gA hm R6 fun x2 q2 hm=> ?_;exact AjC hm▸gE
def Ib (a0:g_api_Item):Option (Bool×Int):=Ab (GX a0 1) fun x1=>some (x1.1,x1.2)
theorem VQ {a0 r}(hm:Ib a0=some r):Sf prog 120 [ag (Ac a0)] (.tup [.d (.t r.1),.d (.i r.2)]):=by
 refine sq ?_;intros;refine gA hm NQ fun x1 q1 hm=> ?_;exact AjC hm▸gE
def D2 (a0:Au):Option (Option Au):=Ab (A6 ((a0.l_.length:Int)==0)) fun y1=>match y1 with|none=>some none|some x1=>some (some a0)
theorem Ko {a0 r}(hm:D2 a0=some r):Sb prog 121 [.pb 0 0] [.box 0 [sl Ac a0.l_] 200] 1 UK (Pos r (fun r=> .tup []) (fun r=> [.box 0 [.d (.sl _ Ac r.l_)] 200]) 1) (r=none):=
 sb call121 func121 rfl ntmps121 rfl fun D0 As η0 m0 hd=>by
  unfold D2 at hm;obtain⟨y1,q1,hm⟩:=Ad hm;rcases y1 with _|x1
  ·dsimp only at hm;obtain rfl:=AjC hm;exact O1 (AN q1)
  dsimp only at hm;refine gc (fun _=>(AN q1).sp) ?_;obtain rfl:=AjC hm;exact PY hd
def Ci (a0:Au):Option (Option (Bool×Au)):=
 Ab (A6 (decide ((a0.l_.length:Int)>0))) fun y1=>match y1 with
 |none=>some none
 |some x1=>
 Ab (idx a0.l_ 0) fun x2=>
 Ab (Ib x2) fun x3=>
 Ab (A6 (x3.2==0)) fun y2=>match y2 with
 |none=>some none
 |some x4=>
 Ab (cut a0.l_ 1 (a0.l_.length:Int)) fun x5=>
 some (some (x3.1,(⟨x5⟩:Au)))
theorem HW {a0 r}(hm:Ci a0=some r):Sb prog 119 [.pb 0 0,.fn (.func 120) [] []] [.box 0 [sl Ac a0.l_] 200] 1 UK (Pos r (fun r=> .d (.t r.1)) (fun r=> [.box 0 [.d (.sl _ Ac r.2.l_)] 200]) 1) (r=none):=
 sb call119 func119 rfl ntmps119 rfl fun D0 As η0 m0 hd=>by
  unfold Ci at hm;obtain⟨y1,q1,hm⟩:=Ad hm;rcases y1 with _|x1
  ·dsimp only at hm;obtain rfl:=AjC hm;exact O1 (AN q1)
  dsimp only at hm;refine gc (fun _=>(AN q1).sp)<|oB hm fun x2 q2 hm=>gx Ac 3 q2<|gA hm VQ fun x3 q3 hm=> ?_;obtain⟨y2,q4,hm⟩:=Ad hm;rcases y2 with _|x4
  ·dsimp only at hm;obtain rfl:=AjC hm;exact O1 (AN q4)
  dsimp only at hm;refine gc (fun _=>(AN q4).sp)<|oB hm fun x5 q5 hm=>gk Ac 3 q5 ?_;obtain rfl:=AjC hm;exact PY hd
def CK (a0:Au):Option (Option (g_api_Cert×Au)):=
 Ab (Bq a0) fun y1=>match y1 with
 |none=>some none
 |some x1=>
 Ab (AM x1.2) fun y2=>match y2 with
 |none=>some none
 |some x2=>
 Ab (AM x2.2) fun y3=>match y3 with
 |none=>some none
 |some x3=>
 Ab (D3 x3.2) fun y4=>match y4 with
 |none=>some none
 |some x4=>
 Ab (CJ x4.2) fun y5=>match y5 with
 |none=>some none
 |some x5=>
 Ab (Bq x5.2) fun y6=>match y6 with
 |none=>some none
 |some x6=>
 Ab (Bq x6.2) fun y7=>match y7 with
 |none=>some none
 |some x7=>
 Ab (Ci x7.2) fun y8=>match y8 with
 |none=>some none
 |some x8=>
 Ab (Bq x8.2) fun y9=>match y9 with
 |none=>some none
 |some x9=>
 Ab (CJ x9.2) fun y10=>match y10 with
 |none=>some none
 |some x10=>
 Ab (D2 x10.2) fun y11=>match y11 with
 |none=>some none
 |some x11=>
 some (some ((⟨x1.1,x2.1,x3.1,x4.1,x5.1,x6.1,x7.1,x8.1,x9.1,x10.1,[],(⟨0,0⟩:g_api_Sig)⟩:g_api_Cert),x11))
theorem Km {a0 r}(hm:CK a0=some r):Sb prog 71 [.pb 0 0] [.box 0 [sl Ac a0.l_] 200] 1 UK (Pos r (fun r=> .agg (List.set (((Am r.1)).map dv) 10 (.d (.v (.slice none 0 0))))) (fun r=> [.box 0 [.d (.sl _ Ac r.2.l_)] 200]) 1) (r=none):=
 sb call71 func71 rfl ntmps71 rfl fun D0 As η0 m0 hd=>by
  unfold CK at hm;obtain⟨y1,q1,hm⟩:=Ad hm;rcases y1 with _|x1
  ·dsimp only at hm;obtain rfl:=AjC hm;exact O1 (Bc q1)
  dsimp only at hm;refine gco (Bc q1).sp ?_;obtain⟨y2,q2,hm⟩:=Ad hm;rcases y2 with _|x2
  ·dsimp only at hm;obtain rfl:=AjC hm;exact O1 (BN q2)
  dsimp only at hm;refine gco (BN q2).sp ?_;obtain⟨y3,q3,hm⟩:=Ad hm;rcases y3 with _|x3
  ·dsimp only at hm;obtain rfl:=AjC hm;exact O1 (BN q3)
  dsimp only at hm;refine gco (BN q3).sp ?_;obtain⟨y4,q4,hm⟩:=Ad hm;rcases y4 with _|x4
  ·dsimp only at hm;obtain rfl:=AjC hm;exact O1 (Kp q4)
  dsimp only at hm;refine gco (Kp q4).sp ?_;obtain⟨y5,q5,hm⟩:=Ad hm;rcases y5 with _|x5
  ·dsimp only at hm;obtain rfl:=AjC hm;exact O1 (Ei q5)
  dsimp only at hm;refine gco (Ei q5).sp ?_;obtain⟨y6,q6,hm⟩:=Ad hm;rcases y6 with _|x6
  ·dsimp only at hm;obtain rfl:=AjC hm;exact O1 (Bc q6)
  dsimp only at hm;refine gco (Bc q6).sp ?_;obtain⟨y7,q7,hm⟩:=Ad hm;rcases y7 with _|x7
  ·dsimp only at hm;obtain rfl:=AjC hm;exact O1 (Bc q7)
  dsimp only at hm;refine gco (Bc q7).sp ?_;obtain⟨y8,q8,hm⟩:=Ad hm;rcases y8 with _|x8
  ·dsimp only at hm;obtain rfl:=AjC hm;exact O1 (HW q8)
  dsimp only at hm;refine gco (HW q8).sp ?_;obtain⟨y9,q9,hm⟩:=Ad hm;rcases y9 with _|x9
  ·dsimp only at hm;obtain rfl:=AjC hm;exact O1 (Bc q9)
  dsimp only at hm;refine gco (Bc q9).sp ?_;obtain⟨y10,q10,hm⟩:=Ad hm;rcases y10 with _|x10
  ·dsimp only at hm;obtain rfl:=AjC hm;exact O1 (Ei q10)
  dsimp only at hm;refine gco (Ei q10).sp ?_;obtain⟨y11,q11,hm⟩:=Ad hm;rcases y11 with _|x11
  ·dsimp only at hm;obtain rfl:=AjC hm;exact O1 (Ko q11)
  dsimp only at hm;refine gco (Ko q11).sp ?_;obtain rfl:=AjC hm;exact PY hd
theorem d1_111 (a b:Value)(w:World):CallsDIn (FW none) 0 prog 111 #[a,b] .returning w fun e u' w'=> ∃v,e= .returned v∧u'= .returning∧w'=w:=by
 refine CallsDIn.mono (Ze (N:=11) (args:=[a,b]) (u:= .returning) (u':= .returning) (v:= .nilIface) (R:=fun w'=>w'=w) func111 rfl ntmps111 rfl (AjO rfl) rfl (fun c₀ cs hu=> .inr ⟨by simp[recoverD,hu],rfl,rfl⟩) ?_) fun e u2 w' ⟨x,h1,h2,_,h3⟩=>⟨x,h1,h2,h3⟩;refine Ai (Af (l:=[_]) ?_);refine s_mv ?_;refine Ak (nrm ?_);refine BF (Ai (Af (l:=[_]) ?_));refine AB (v:= .bool true) (w':=w) rfl (fun _ e=>by cases e) (by kernel_rfl) ?_;refine Ak (nrm ?_);refine YL rfl ?_;exact BR (AaH ⟨.inl rfl,rfl⟩)
def zd28:List D:=[.i 0,.s .empty,.s .empty,.u 0,.v (.slice none 0 0),.i 0,.i 0,.t false,.i 0,.v (.slice none 0 0),.v (.slice none 0 0),.u 0,.u 0]
theorem d2_111 (m:Mem)(As:List Ow)(w:World)(bc be:Nat)(cs es:List Value)(hc:cs.length=13)(he:es.length=1)(hc1: ∀v∈cs,v.oneCell'=true)(he1: ∀v∈es,v.oneCell'=true)(S:St m (bx bc cs 59::bx be es 30::As) w):
  CallsDIn (FW none) 0 prog 111 #[pt bc 0,pt be 0] (.panicking (chn UK)) w fun e u' w'=> ∃v,e= .returned v∧u'= .panicking [{v:=UK,recovered:=true}]∧Kd w w'∧
   ∃M zs ze,m≤M∧FRL M zd28 zs∧FR M (.i 71) ze∧St M (bx bc zs 59::bx be [ze] 30::As) w':=by
 refine Ze (N:=11) (args:=[pt bc 0,pt be 0]) (u:= .panicking (chn UK)) (u':= .panicking [{v:=UK,recovered:=true}]) (v:=UK) func111 rfl ntmps111 rfl (AjO rfl) rfl (fun c₀ cs hu=> .inl (by simp[recoverD,hu,chn])) ?_;refine Ai (Af (l:=[_]) ?_);refine s_mv ?_;refine Ak (nrm ?_);refine BF (Ai (Af (l:=[_]) ?_));refine AB (v:= .bool false) (w':=w) rfl (fun _ e=>by cases e) (by kernel_rfl) ?_;refine Ak (nrm ?_);refine Abj rfl ?_;refine Ai (Af (l:=[_,_,_]) ?_);refine AB (v:= .tuple #[.agg #[],.bool true]) (w':=w) rfl (fun _ e=>by cases e) (by kernel_rfl) ?_;refine AB (v:= .bool true) (w':=w) rfl (fun _ e=>by cases e) (by kernel_rfl) ?_;refine AB (v:= .agg #[]) (w':=w) rfl (fun _ e=>by cases e) (by kernel_rfl) ?_;refine Ak (nrm ?_);refine YL rfl ?_;let η0:Env:=fun n=>if n=0 then some (pt bc 0)else if n=1 then some (pt be 0)else none;have h0:η0 0=some (pt bc 0):=rfl;have h1:η0 1=some (pt be 0):=rfl;have hd: ∀n,η0 n≠none→n<2:=fun n h=>by
  show n<2;have h:(if n=0 then some (pt bc 0)else if n=1 then some (pt be 0)else none)≠none:=h;split at h
  ·omega
  ·split at h
   ·omega
   ·exact absurd rfl h
 have ho:=fun(l:List Value) (v:Value) (hv:v∈l) (q: ∀v∈l,v.oneCell'=true)=>q v hv;let s0:AS:=⟨[(0,.pb 0 0),(1,.pb 1 0)],[(0,.box 0 (List.replicate 13 .any) 59),(1,.box 1 [.any] 30)],[],2⟩;have any_rel: ∀{n:Nat} {l:List Value},l.length=n→BB η0 m (List.replicate n .any) l:=fun hl=>⟨by simp[hl],fun k c u a b=>by
  rw[List.getElem?_replicate]at a;split at a
  ·cases a; exact .any _
  ·cases a⟩
 have S2:St m (rep η0 m (.box 0 (List.replicate 13 .any) 59)::rep η0 m (.box 1 [.any] 30)::As) w:=by
  have T:=St.closeBox h0 (any_rel hc) hc1 S;have T2:=T.perm (Akp _ _ _);have T3:=St.closeBox h1 (any_rel (n:=1) he) he1 T2;exact T3.perm (Akp _ _ _)
 refine HE (Q:=Ax.pk none prog 11 (w,[],true) (outG (Rl As η0 m (fun _:Unit=>⟨[],[(0,.box 0 (zd28.map .d) 59),(1,.box 1 [.d (.i 71)] 30)],[],2⟩) (fun _=>True)) UK (fun _ _=>False)) [.blk 0]) ?_ (gat s0 (η:=η0) (m:=m) ?_ (gretG () trivial hd (by kernel_rfl)))
 ·intro e f' w' q;have fin:Rl As η0 m (fun _:Unit=>⟨[],[(0,.box 0 (zd28.map .d) 59),(1,.box 1 [.d (.i 71)] 30)],[],2⟩) (fun _=>True) f' w'→∃M zs ze,m≤M∧FRL M zd28 zs∧FR M (.i 71) ze∧St M (bx bc zs 59::bx be [ze] 30::As) w':=
   fun⟨_,_,η,M,le,l,gm⟩=>let ⟨zs,ze,a,b,c⟩:=Abw h0 h1 le gm; ⟨M,zs,ze,l,a,b,c⟩
  cases e with
  |normal=>exact⟨.inl rfl,fin q⟩
  |ret=>exact⟨.inr rfl,fin q⟩
  |exit id=>
   have q:(bif Nat.beq id 0 then Rl As η0 m (fun _:Unit=>⟨[],[(0,.box 0 (zd28.map .d) 59),(1,.box 1 [.d (.i 71)] 30)],[],2⟩) (fun _=>True) f' w' else False):=q;cases hb:Nat.beq id 0
   ·rw[hb]at q; exact q.elim
   ·rw[hb]at q;refine(show PX 0 _ (.exit id) f' w' from ?_);simp only[PX,hb,cond_true];exact⟨by simp,fin q⟩
  |goto l=>exact q.elim
  |panic ch=>exact q.2.elim
  |outgrown=>exact q.elim
 ·refine⟨fun t=> ?_,fun n d h=>(by cases h),hd,S2,?_,fun t ht=> ?_⟩
  ·match t with
   |0=>exact .pb h0
   |1=>exact .pb h1
   |t+2=>exact .any _
  ·show [0,1].Nodup; decide
  ·have:t∈[0,1]:=ht;show t<2;simp at this; omega
def DV (a0:List UInt8)(x1:g_api_Item×Int×Int):Option (Option (g_api_Cert×Int)):=
 Ab (A6 (x1.2.1==(a0.length:Int))) fun y1=>match y1 with
 |none=>some none
 |some x2=>
 Ab (Jy x1.1) fun y2=>match y2 with
 |none=>some none
 |some x3=>
 Ab (CK x3) fun y3=>match y3 with
 |none=>some none
 |some x4=>
 Ab (E5 (⟨x4.1.Serial,x4.1.Issuer,x4.1.Subject,x4.1.Key,x4.1.Names,x4.1.From,x4.1.Until,x4.1.Ca,x4.1.Depth,x4.1.Permit,[],x4.1.Sig⟩:g_api_Cert)) fun x5=>
 Ab (A6 (x5==0)) fun y4=>match y4 with
 |none=>some none
 |some x6=>
 some (some ((⟨x4.1.Serial,x4.1.Issuer,x4.1.Subject,x4.1.Key,x4.1.Names,x4.1.From,x4.1.Until,x4.1.Ca,x4.1.Depth,x4.1.Permit,[],x4.1.Sig⟩:g_api_Cert),0))
def FV (a0:List UInt8):Option (g_api_Cert×Int):=Ab (H9 a0 0) fun x1=>if(x1.2.2 !=0)=true then some ((⟨0,ByteArray.empty,ByteArray.empty,0,[],0,0,false,0,[],[],(⟨0,0⟩:g_api_Sig)⟩:g_api_Cert),x1.2.2)else Ab (DV a0 x1) fun z=>some (match z with|none=>((⟨0,ByteArray.empty,ByteArray.empty,0,[],0,0,false,0,[],[],(⟨0,0⟩:g_api_Sig)⟩:g_api_Cert),71)|some c=>c)
theorem R9 {a0 r}(hm:FV a0=some r):Sf prog 70 [sl eB a0,.fn (.func 71) [] []] (.tup [ag (Am r.1),.d (.i r.2)]):=by
 unfold FV at hm;obtain⟨x1,q1,hm⟩:=Ad hm;refine get_of (N:=33) (nc:=13) (tc:=59) (te:=30) (zd:=[.i 0,.s ByteArray.empty,.s ByteArray.empty,.u 0,.v (.slice none 0 0),.i 0,.i 0,.t false,.i 0,.v (.slice none 0 0),.v (.slice none 0 0),.u 0,.u 0]) (ev0:= .i 71) (ov:=UK) (ok1:=((x1.2.2 !=0))=false) (okX:=((x1.2.2 !=0))=false∧DV a0 x1=some none) (okE:=fun c=>((x1.2.2 !=0))=false∧DV a0 x1=some (some c)) (JE:=fun(c:g_api_Cert×Int)=>⟨[(4,.pb 0 0),(5,.pb 1 0)],[(0,.box 0 [.d (.i c.1.Serial),.d (.s c.1.Issuer),.d (.s c.1.Subject),.d (.u c.1.Key),sl eS c.1.Names,.d (.i c.1.From),.d (.i c.1.Until),.d (.t c.1.Ca),.d (.i c.1.Depth),sl eS c.1.Permit,sl Ae c.1.Proms,.d (.u c.1.Sig.E),.d (.u c.1.Sig.S)] 59),(1,.box 1 [.d (.i c.2)] 30)],[],2⟩) (J1:=⟨[(0,sl eB a0),(1,.fn (.func 71) [] []),(4,.pb 0 0),(5,.pb 1 0),(6,.pb 2 0),(7,.d (.i x1.2.1))],[(0,.box 2 [.d (.i x1.1.Tag),sl eB x1.1.B,sl Ac x1.1.L] 159),(1,.box 1 [.d (.i x1.2.2)] 30),(2,.box 0 [.d (.i 0),.d (.s ByteArray.empty),.d (.s ByteArray.empty),.d (.u 0),sl eS [],.d (.i 0),.d (.i 0),.d (.t false),.d (.i 0),sl eS [],sl Ae [],.d (.u 0),.d (.u 0)] 59)],[],3⟩) call70 call111 func70 rfl ntmps70 rfl rfl ⟨rfl,rfl⟩ rfl ?_ ?_ ?_ (fun c hc=>rfl) ?_ (d1_111) (d2_111)
 ·intro D0 As η0 m0 Jp hd bk;refine gc (fun _=>Abp q1)<|gi hm ?_ ?_<;>intro hc1 hm
  ·exact AjC hm▸gE
  exact gb bk hd () hc1
 ·intro hok D0 As η0 m0 hd;rw[AjG (by rw[hok]; decide)]at hm;obtain⟨z,hz,hm⟩:=Ad hm;have hz2:=hz;unfold DV at hz2;obtain⟨y1,q2,hz2⟩:=Ad hz2;rcases y1 with _|x2
  ·dsimp only at hz2;obtain rfl:=AjC hz2;exact AfA (AN q2) ⟨hok,hz⟩ hd
  dsimp only at hz2;refine gc (fun _=>(AN q2).sp) ?_;obtain⟨y2,q3,hz2⟩:=Ad hz2;rcases y2 with _|x3
  ·dsimp only at hz2;obtain rfl:=AjC hz2;exact AfA (VT q3) ⟨hok,hz⟩ hd
  dsimp only at hz2;refine gco (VT q3).sp ?_;obtain⟨y3,q4,hz2⟩:=Ad hz2;rcases y3 with _|x4
  ·dsimp only at hz2;obtain rfl:=AjC hz2;exact AfA (Km q4) ⟨hok,hz⟩ hd
  dsimp only at hz2;refine gco (Km q4).sp<|gA hz2 Pn fun x5 q5 hz2=> ?_;obtain⟨y4,q6,hz2⟩:=Ad hz2;rcases y4 with _|x6
  ·dsimp only at hz2;obtain rfl:=AjC hz2;exact AfA (AN q6) ⟨hok,hz⟩ hd
  dsimp only at hz2;refine gc (fun _=>(AN q6).sp) ?_;obtain rfl:=AjC hz2;exact gretG _ ⟨hok,hz⟩ hd
 ·rintro c ⟨hC,hz⟩ D0 As η0 m0 hd;rw[AjG (by rw[hC]; decide),hz]at hm;have e0:c=r:=AjC hm;subst e0;exact gend hd
 ·rintro⟨hC,hz⟩ D0 As η0 m0 hd;rw[AjG (by rw[hC]; decide),hz]at hm;have e0:((⟨0,ByteArray.empty,ByteArray.empty,0,[],0,0,false,0,[],[],(⟨0,0⟩:g_api_Sig)⟩:g_api_Cert),71)=r:=AjC hm;subst e0;exact gend hd
def DF (a0:List UInt8):Option (g_api_Cert×Int):=Ab (FV a0) fun x1=>some (x1.1,x1.2)
theorem Ub {a0 r}(hm:DF a0=some r):Sf prog 39 [sl eB a0] (.tup [ag (Am r.1),.d (.i r.2)]):=by
 refine sq ?_;intros;refine gA hm R9 fun x1 q1 hm=> ?_;exact AjC hm▸gE
def DD (a0:Ah)(a1:Int)(i1:Int)(s1:(List g_api_Cert)):Option ((List g_api_Cert)):=Ab (idx a0.L (i1:Int)) fun x5=>Ab (Ab (A8 a0.Hide (i1:Int)) fun x7=>if(x7.2&&(a1==1))=true then Ab (AL ([([0]:List UInt8),x5.Body]:List (List UInt8))) fun x8=>some x8 else some x5.Body) fun x6=>Ab (DF x6) fun x9=>Ab (app 168 s1 ([x9.1]:List g_api_Cert)) fun x10=>some x10
def Dk (a0:Ah)(a1:Int):Option ((List g_api_Cert)×Int):=Ab (CP a0 a1) fun x1=>if(x1.2 !=0)=true then some (([]:List g_api_Cert),x1.2)else Ab (Ab (B3 (DD a0 a1) a0.L.length 0 ([]:List g_api_Cert)) fun x3=>some x3) fun x2=>some (x2,0)
theorem LK {a0 a1 r}(hm:Dk a0 a1=some r):Sp prog 13 [ag (Bn a0),.d (.i a1)] [] 0 (is (.tup [.ow 0,.d (.i r.2)]) [.row 0 13 _ Am r.1] 1):=by
 refine sq fun D0 As η0 m0 hd=>gD hm NP fun x1 q1 hm=>gi hm ?_ ?_<;>intro hc1 hm
 ·refine W9 Am 4 13 ?_;obtain rfl:=AjC hm;exact gE
 obtain⟨x2,q2,hm⟩:=Ad hm;refine oB q2 fun x3 q3 q2=>Nt 0 Am 8 13<|O2 0 (E:=Ag) (xs:=a0.L) 26 fun hle1=>gF (EM _ _ _) q3 (fun p0 p=>⟨[(1,.d (.i a1)),(2,.pb 0 0),(8,.ow 1),(26,sl Ag a0.L),(27,.d (.i (a0.L.length:Int))),(28,.d (.i p0))],[(0,.row 1 13 _ Am p),(1,.box 0 [.d (.i a0.Id),.d (.u a0.Key),.d (.i a0.Delay),sl Ag a0.L,sl eI a0.Hide,sl Ag a0.Wait] 26)],[],2⟩) fun i1 s1 Jl bl1=>cM bl1 (a0.L.length:Int) (fun y1 q6 bl1=> ?_) fun e=> ?_
 ·refine oB q6 fun x5 q8 q6=>gx Ag 2 q8<|oB q6 fun x6 q9 q6=>gB q9 (fun _=>Ij) fun x7 q10 q9=>gj (fun(_:Unit)=>⟨[(1,.d (.i a1)),(2,.pb 0 0),(8,.ow 1),(11,sl eB x6),(26,sl Ag a0.L),(27,.d (.i (a0.L.length:Int))),(28,.d (.i (i1:Int))),(10,.pb 2 0)],[(0,.box 2 [sl eB x5.Body,.d (.i x5.At)] 79),(1,.row 1 13 _ Am s1),(2,.box 0 [.d (.i a0.Id),.d (.u a0.Key),.d (.i a0.Delay),sl Ag a0.L,sl eI a0.Hide,sl Ag a0.Wait] 26)],[],3⟩) (fun _=>True) (fun Jp bk3=> ?_) fun _ _=> ?_
  ·refine gi q9 ?_ ?_<;>intro hc2 q9
   ·refine gq eB 1 [0]<|gq (eL eB) 1 [([0]:List UInt8),x5.Body]<|gD q9 DI fun x8 q11 q9=> ?_;obtain rfl:=AjC q9;exact gb bk3 hd () trivial
   obtain rfl:=AjC q9;exact gb bk3 hd () trivial
  exact gA q6 Ub fun x9 q12 q6=>gq Am 13 [x9.1]<|oB q6 fun x10 q13 q6=>gp Am 13 q13<|gM bl1 hle1 q6
 subst e;obtain rfl:=AjC q2;let x2:=x3;obtain rfl:=AjC hm;exact gE
theorem Rr {a0:Ah}{a1:Int}{r:(List g_api_Cert)×Int}(hm:Dk a0 a1=some r):Sf prog 13 [ag (Bn a0),.d (.i a1)] (.tup [sl Am r.1,.d (.i r.2)]):=Sp.fz (LK hm) (by kernel_rfl)
def Q8 (a0:List Int)(a1:List Int)(s1:Int):Option ((Int)⊕((Unit)⊕Bool)):=if(decide (s1<(a0.length:Int)))=true then Ab (idx a0 s1) fun x3=>Ab (idx a1 s1) fun x4=>if(x3 !=x4)=true then some (.inr (.inr false))else some (.inl (w64 (s1+1)))else some (.inr (.inl ()))
def H3 (a0:List Int)(a1:List Int):Option Bool:=if((a0.length:Int) !=(a1.length:Int))=true then some false else Ab (iter (Q8 a0 a1) Bl 0) fun x1=>match x1 with| .inr r=>some r| .inl y1=>some true
theorem JK {a0 a1 r}(hm:H3 a0 a1=some r):Sf prog 18 [sl eI a0,sl eI a1] (.d (.t r)):=by
 refine sq ?_;intros;refine gi hm ?_ ?_<;>intro hc1 hm
 ·exact AjC hm▸gE
 refine oB hm fun x1 q1 hm=>gI q1 (fun p=>⟨[(0,sl eI a0),(1,sl eI a1),(5,.d (.i p))],[],[],0⟩) fun s1 y2 Jl q4 bl1=>gi q4 ?_ ?_<;>intro hc2 q4
 ·refine oB q4 fun x3 q6 q4=>gx eI 1 q6<|oB q4 fun x4 q7 q4=>gx eI 1 q7<|gi q4 ?_ ?_<;>intro hc3 q4
  ·obtain rfl:=nR bl1 q4;exact AjC hm▸gE
  exact gN bl1 q4
 obtain rfl:=nR bl1 q4;exact AjC hm▸gE
def H7 (a0:ByteArray)(k0:List (Aj×Int))(k1:g_api_Cert):Option (Bool×(List (Aj×Int))×g_api_Cert):=bnd (((lkG (Bx (⟨a0,k1.Key⟩:Aj)) k0).getD 0)) fun x1=>bnd ((lkG (Bx (⟨a0,k1.Key⟩:Aj)) k0).isSome) fun x2=>bnd (((!x2)||(decide (x1>k1.From)))) fun x3=>some (x3,k0,k1)
theorem LJ {a0 k0 k1 r}(hm:H7 a0 k0 k1=some r):Sp prog 47 [.d (.s a0),.pb 0 0,.pb 2 0] [.box 0 [.ow 1] 89,.hp 1 (.mg _ _ AH D.i k0),.box 2 [.d (.i k1.Serial),.d (.s k1.Issuer),.d (.s k1.Subject),.d (.u k1.Key),sl eS k1.Names,.d (.i k1.From),.d (.i k1.Until),.d (.t k1.Ca),.d (.i k1.Depth),sl eS k1.Permit,sl Ae k1.Proms,.d (.u k1.Sig.E),.d (.u k1.Sig.S)] 59] 3 (is (.d (.t r.1)) [.box 0 [.ow 1] 89,.hp 1 (.mg _ _ AH D.i r.2.1),.box 2 [.d (.i r.2.2.Serial),.d (.s r.2.2.Issuer),.d (.s r.2.2.Subject),.d (.u r.2.2.Key),.d (.sl _ eS r.2.2.Names),.d (.i r.2.2.From),.d (.i r.2.2.Until),.d (.t r.2.2.Ca),.d (.i r.2.2.Depth),.d (.sl _ eS r.2.2.Permit),.d (.sl _ Ae r.2.2.Proms),.d (.u r.2.2.Sig.E),.d (.u r.2.2.Sig.S)] 59] 3):=by
 refine sq ?_;intros;refine glkg (K:=AH) (c:=D.i) k0 (⟨a0,k1.Key⟩:Aj) (Bx (⟨a0,k1.Key⟩:Aj)) 0 91 3 true (by kernel_rfl) (by kernel_rfl) (by kernel_rfl) (by kernel_rfl)<|bE hm ?_;intro x1 hm;refine bE hm ?_;intro x2 hm;refine bE hm ?_;intro x3 hm;obtain rfl:=AjC hm;exact gE
def EV (a0:List ByteArray)(i1:Int)(s1:(List (Aj×Int))×Int×ByteArray×ByteArray×UInt64×(List ByteArray)×Int×Int×Bool×Int×(List ByteArray)×(List g_api_Promise)×UInt64×UInt64):Option (((List (Aj×Int))×Int×ByteArray×ByteArray×UInt64×(List ByteArray)×Int×Int×Bool×Int×(List ByteArray)×(List g_api_Promise)×UInt64×UInt64)⊕(Int×(List (Aj×Int))×g_api_Cert)):=Ab (idx a0 (i1:Int)) fun x3=>Ab (H7 x3 s1.1 (⟨s1.2.1,s1.2.2.1,s1.2.2.2.1,s1.2.2.2.2.1,s1.2.2.2.2.2.1,s1.2.2.2.2.2.2.1,s1.2.2.2.2.2.2.2.1,s1.2.2.2.2.2.2.2.2.1,s1.2.2.2.2.2.2.2.2.2.1,s1.2.2.2.2.2.2.2.2.2.2.1,s1.2.2.2.2.2.2.2.2.2.2.2.1,(⟨s1.2.2.2.2.2.2.2.2.2.2.2.2.1,s1.2.2.2.2.2.2.2.2.2.2.2.2.2⟩:g_api_Sig)⟩:g_api_Cert)) fun x4=>if x4.1=true then some (.inr ((i1:Int),x4.2.1,x4.2.2))else some (.inl (x4.2.1,x4.2.2.Serial,x4.2.2.Issuer,x4.2.2.Subject,x4.2.2.Key,x4.2.2.Names,x4.2.2.From,x4.2.2.Until,x4.2.2.Ca,x4.2.2.Depth,x4.2.2.Permit,x4.2.2.Proms,x4.2.2.Sig.E,x4.2.2.Sig.S))
def Dc (a0:List ByteArray)(k0:List (Aj×Int))(k1:g_api_Cert):Option (Int×(List (Aj×Int))×g_api_Cert):=Ab (Kb (EV a0) a0.length 0 (k0,k1.Serial,k1.Issuer,k1.Subject,k1.Key,k1.Names,k1.From,k1.Until,k1.Ca,k1.Depth,k1.Permit,k1.Proms,k1.Sig.E,k1.Sig.S)) fun x1=>match x1 with| .inr r=>some r| .inl y1=>some ((-1),y1.1,(⟨y1.2.1,y1.2.2.1,y1.2.2.2.1,y1.2.2.2.2.1,y1.2.2.2.2.2.1,y1.2.2.2.2.2.2.1,y1.2.2.2.2.2.2.2.1,y1.2.2.2.2.2.2.2.2.1,y1.2.2.2.2.2.2.2.2.2.1,y1.2.2.2.2.2.2.2.2.2.2.1,y1.2.2.2.2.2.2.2.2.2.2.2.1,(⟨y1.2.2.2.2.2.2.2.2.2.2.2.2.1,y1.2.2.2.2.2.2.2.2.2.2.2.2.2⟩:g_api_Sig)⟩:g_api_Cert))
theorem FG {a0 k0 k1 r}(hm:Dc a0 k0 k1=some r):Sp prog 77 [sl eS a0,.fn (.func 47) [] [.pb 0 0,.pb 2 0]] [.box 0 [.ow 1] 89,.hp 1 (.mg _ _ AH D.i k0),.box 2 [.d (.i k1.Serial),.d (.s k1.Issuer),.d (.s k1.Subject),.d (.u k1.Key),sl eS k1.Names,.d (.i k1.From),.d (.i k1.Until),.d (.t k1.Ca),.d (.i k1.Depth),sl eS k1.Permit,sl Ae k1.Proms,.d (.u k1.Sig.E),.d (.u k1.Sig.S)] 59] 3 (is (.d (.i r.1)) [.box 0 [.ow 1] 89,.hp 1 (.mg _ _ AH D.i r.2.1),.box 2 [.d (.i r.2.2.Serial),.d (.s r.2.2.Issuer),.d (.s r.2.2.Subject),.d (.u r.2.2.Key),.d (.sl _ eS r.2.2.Names),.d (.i r.2.2.From),.d (.i r.2.2.Until),.d (.t r.2.2.Ca),.d (.i r.2.2.Depth),.d (.sl _ eS r.2.2.Permit),.d (.sl _ Ae r.2.2.Proms),.d (.u r.2.2.Sig.E),.d (.u r.2.2.Sig.S)] 59] 3):=by
 refine sq ?_;intros;refine oB hm fun x1 q1 hm=>O2 0 (E:=eS) (xs:=a0) 6 fun hle1=>gF (EN _ _ _) q1 (fun p0 (p_0,p_1,p_2,p_3,p_4,p_5,p_6,p_7,p_8,p_9,p_10,p_11,p_12,p_13)=>⟨[(0,sl eS a0),(1,.fn (.func 47) [] [.pb 0 0,.pb 2 0]),(7,.d (.i (a0.length:Int))),(8,.d (.i p0))],[(0,.box 0 [.ow 1] 89),(1,.hp 1 (.mg _ _ AH D.i p_0)),(2,.box 2 [.d (.i p_1),.d (.s p_2),.d (.s p_3),.d (.u p_4),sl eS p_5,.d (.i p_6),.d (.i p_7),.d (.t p_8),.d (.i p_9),sl eS p_10,sl Ae p_11,.d (.u p_12),.d (.u p_13)] 59)],[],3⟩) fun i1 s1 Jl bl1=>cN bl1 (a0.length:Int) (fun y2 q4 bl1=> ?_) fun e=> ?_
 ·refine oB q4 fun x3 q6 q4=>gx eS 1 q6<|gD q4 LJ fun x4 q7 q4=>gi q4 ?_ ?_<;>intro hc1 q4
  ·obtain rfl:=nT bl1 q4;obtain rfl:=AjC hm;exact gE
  exact gT bl1 hle1 q4
 subst e;let y1:=s1;obtain rfl:=AjC hm;exact gE
def CR (a0:List ByteArray)(k0:List (Aj×Int))(k1:g_api_Cert):Option (Bool×(List (Aj×Int))×g_api_Cert):=Ab (Dc a0 k0 k1) fun x1=>some ((decide (x1.1≥0)),x1.2.1,x1.2.2)
theorem EP {a0 k0 k1 r}(hm:CR a0 k0 k1=some r):Sp prog 46 [sl eS a0,.fn (.func 47) [] [.pb 0 0,.pb 2 0]] [.box 0 [.ow 1] 89,.hp 1 (.mg _ _ AH D.i k0),.box 2 [.d (.i k1.Serial),.d (.s k1.Issuer),.d (.s k1.Subject),.d (.u k1.Key),sl eS k1.Names,.d (.i k1.From),.d (.i k1.Until),.d (.t k1.Ca),.d (.i k1.Depth),sl eS k1.Permit,sl Ae k1.Proms,.d (.u k1.Sig.E),.d (.u k1.Sig.S)] 59] 3 (is (.d (.t r.1)) [.box 0 [.ow 1] 89,.hp 1 (.mg _ _ AH D.i r.2.1),.box 2 [.d (.i r.2.2.Serial),.d (.s r.2.2.Issuer),.d (.s r.2.2.Subject),.d (.u r.2.2.Key),.d (.sl _ eS r.2.2.Names),.d (.i r.2.2.From),.d (.i r.2.2.Until),.d (.t r.2.2.Ca),.d (.i r.2.2.Depth),.d (.sl _ eS r.2.2.Permit),.d (.sl _ Ae r.2.2.Proms),.d (.u r.2.2.Sig.E),.d (.u r.2.2.Sig.S)] 59] 3):=by
 refine sq ?_;intros;refine gD hm FG fun x1 q1 hm=> ?_;exact AjC hm▸gE
def Ji (a0:g_api_Cert)(k0:List (Aj×Int)):Option (Bool×(List (Aj×Int))):=Ab (CR a0.Names k0 a0) fun x1=>some (x1.1,x1.2.1)
theorem M9 {a0 k0 r}(hm:Ji a0 k0=some r):Sp prog 45 [ag (Am a0),.pb 0 0] [.box 0 [.ow 1] 89,.hp 1 (.mg _ _ AH D.i k0)] 2 (is (.d (.t r.1)) [.box 0 [.ow 1] 89,.hp 1 (.mg _ _ AH D.i r.2)] 2):=by
 refine sq ?_;intros;refine gD hm EP fun x1 q1 hm=> ?_;exact AjC hm▸gE
def He (a0:List g_api_Cert)(i1:Int)(s1:(List Int)×(List (Aj×Int))):Option ((List Int)×(List (Aj×Int))):=Ab (Ab (idx a0 (i1:Int)) fun x5=>Ab (Ji x5 s1.2) fun x6=>if x6.1=true then Ab (app 8 s1.1 ([(i1:Int)]:List Int)) fun x7=>some (x7,x6.2)else some (s1.1,x6.2)) fun x4=>some (x4.1,x4.2)
def CY (a0:List g_api_Cert)(k0:List (Aj×Int)):Option ((List Int)×(List (Aj×Int))):=Ab (Ab (B3 (He a0) a0.length 0 (([]:List Int),k0)) fun x2=>some (x2.1,x2.2)) fun x1=>some (x1.1,x1.2)
theorem Ik {a0 k0 r}(hm:CY a0 k0=some r):Sp prog 44 [sl Am a0,.fn (.func 45) [] [.pb 0 0]] [.box 0 [.ow 1] 89,.hp 1 (.mg _ _ AH D.i k0)] 2 (is (.ow 2) [.box 0 [.ow 1] 89,.hp 1 (.mg _ _ AH D.i r.2),.row 2 1 _ eI r.1] 3):=by
 refine sq fun D0 As η0 m0 hd=> ?_;unfold CY at hm;obtain⟨x1,q1,hm⟩:=Ad hm;refine oB q1 fun x2 q2 q1=>Nt 0 eI 5 1<|O2 0 (E:=Am) (xs:=a0) 8 fun hle1=>gF (EM _ _ _) q2 (fun p0 (p_0,p_1)=>⟨[(1,.fn (.func 45) [] [.pb 0 0]),(5,.ow 2),(8,sl Am a0),(9,.d (.i (a0.length:Int))),(10,.d (.i p0))],[(0,.row 2 1 _ eI p_0),(1,.box 0 [.ow 1] 89),(2,.hp 1 (.mg _ _ AH D.i p_1))],[],3⟩) fun i1 s1 Jl bl1=>cM bl1 (a0.length:Int) (fun y1 q5 bl1=> ?_) fun e=> ?_
 ·refine oB q5 fun x4 q7 q5=>gjU 1 (fun(_:Unit)=>let (y_0,y_1):=x4; ⟨[(1,.fn (.func 45) [] [.pb 0 0]),(5,.ow 2),(8,sl Am a0),(9,.d (.i (a0.length:Int))),(10,.d (.i (i1:Int)))],[(0,.row 2 1 _ eI y_0),(1,.box 0 [.ow 1] 89),(2,.hp 1 (.mg _ _ AH D.i y_1))],[],3⟩) (fun _=>True) (fun Jp bk3=> ?_) fun _ _=> ?_
  ·refine oB q7 fun x5 q8 q7=>gx Am 13 q8<|gD q7 M9 fun x6 q9 q7=>gi q7 ?_ ?_<;>intro hc1 q7
   ·refine gq eI 1 [(i1:Int)]<|oB q7 fun x7 q10 q7=>gp eI 1 q10 ?_;obtain rfl:=AjC q7;exact gb bk3 hd () trivial
   obtain rfl:=AjC q7;exact gb bk3 hd () trivial
  exact gM bl1 hle1 q5
 subst e;obtain rfl:=AjC q1;let x1:=(x2.1,x2.2);obtain rfl:=AjC hm;exact gE
def ML (x3:AP)(i2:Int)(x6:ByteArray)(s2:(List (Aj×Int))):Option ((List (Aj×Int))):=Ab (bnd (((lkG (Bx (⟨x6,x3.Key⟩:Aj)) s2).getD 0)) fun x8=>bnd ((lkG (Bx (⟨x6,x3.Key⟩:Aj)) s2).isSome) fun x9=>if((!x9)||(decide (x3.At<x8)))=true then some (upG (Bx (⟨x6,x3.Key⟩:Aj)) ((⟨x6,x3.Key⟩:Aj),x3.At) s2)else some s2) fun x7=>some x7
def MM (i1:Int)(x3:AP)(s1:(List (Aj×Int))):Option ((List (Aj×Int))):=Ab (Ab (Db (ML x3) x3.Names 0 s1) fun x5=>some x5) fun x4=>some x4
def Cg (a0:List g_api_Cert)(a1:List AP):Option (List Int):=Ab (Ab (Db MM a1 0 ([]:List (Aj×Int))) fun x2=>some x2) fun x1=>Ab (CY a0 x1) fun x10=>some x10.1
theorem Dh {a0 a1 r}(hm:Cg a0 a1=some r):Sp prog 19 [sl Am a0,sl DH a1] [] 0 (is (.ow 0) [.row 0 1 _ eI r] 1):=by
 refine sq fun D0 As η0 m0 hd=> ?_;unfold Cg at hm;refine gmkg Aj Int AH D.i ?_;obtain⟨x1,q1,hm⟩:=Ad hm;refine oB q1 fun x2 q2 q1=>O2 0 (E:=DH) (xs:=a1) 14 fun hle1=>gF (E0 _ _ _) q2 (fun p0 p=>⟨[(0,sl Am a0),(5,.pb 1 0),(14,sl DH a1),(15,.d (.i (a1.length:Int))),(16,.d (.i p0)),(13,.ow 0)],[(0,.box 1 [.ow 0] 89),(1,.hp 0 (.mg _ _ AH D.i p))],[],2⟩) fun i1 s1 Jl bl1=>c0 bl1 (fun x3 y1 q6 q5 bl1=> ?_) fun e=> ?_
 ·refine oB q5 fun x4 q7 q5=>gx DH 4 q6<|oB q7 fun x5 q8 q7=>O2 2 (E:=eS) (xs:=x3.Names) 21 fun hle2=>gF (E0 _ _ _) q8 (fun p0 p=>⟨[(0,sl Am a0),(5,.pb 1 0),(7,.pb 2 0),(14,sl DH a1),(15,.d (.i (a1.length:Int))),(16,.d (.i (i1:Int))),(21,sl eS x3.Names),(22,.d (.i (x3.Names.length:Int))),(23,.d (.i p0)),(13,.ow 0)],[(0,.box 2 [.d (.s x3.Who),sl eS x3.Names,.d (.u x3.Key),.d (.i x3.At)] 65),(1,.box 1 [.ow 0] 89),(2,.hp 0 (.mg _ _ AH D.i p))],[],3⟩) fun i2 s2 Jl bl2=>c0 bl2 (fun x6 y2 q12 q11 bl2=> ?_) fun e=> ?_
  ·refine oB q11 fun x7 q13 q11=>gjU 3 (fun(_:Unit)=>⟨[(0,sl Am a0),(5,.pb 1 0),(7,.pb 2 0),(14,sl DH a1),(15,.d (.i (a1.length:Int))),(16,.d (.i (i1:Int))),(21,sl eS x3.Names),(22,.d (.i (x3.Names.length:Int))),(23,.d (.i (i2:Int))),(13,.ow 0)],[(0,.box 2 [.d (.s x3.Who),sl eS x3.Names,.d (.u x3.Key),.d (.i x3.At)] 65),(1,.box 1 [.ow 0] 89),(2,.hp 0 (.mg _ _ AH D.i x7))],[],3⟩) (fun _=>True) (fun Jp bk5=> ?_) fun _ _=> ?_
   ·refine gx eS 1 q12<|glkg (K:=AH) (c:=D.i) s2 (⟨x6,x3.Key⟩:Aj) (Bx (⟨x6,x3.Key⟩:Aj)) 0 91 3 true (by kernel_rfl) (by kernel_rfl) (by kernel_rfl) (by kernel_rfl)<|bE q13 ?_;intro x8 q13;refine bE q13 ?_;intro x9 q13;refine gi q13 ?_ ?_<;>intro hc1 q13
    ·refine gupg (K:=AH) (c:=D.i) s2 (⟨x6,x3.Key⟩:Aj) x3.At (Bx (⟨x6,x3.Key⟩:Aj)) 91 OZ (by kernel_rfl) (by kernel_rfl) (by kernel_rfl) (by kernel_rfl) ?_;obtain rfl:=AjC q13;exact gb bk5 hd () trivial
    obtain rfl:=AjC q13;exact gb bk5 hd () trivial
   exact gM bl2 hle2 q11
  subst e;obtain rfl:=AjC q7;let x4:=x5;exact gM bl1 hle1 q5
 subst e;obtain rfl:=AjC q1;let x1:=x2;refine gD hm Ik fun x10 q16 hm=> ?_;obtain rfl:=AjC hm;exact gE
def Jj (a0:g_api_Promise)(k0:CL)(k1:D4)(k2:List ((UInt64×UInt64)×Bool)):Option (Bool×CL×D4×(List ((UInt64×UInt64)×Bool))):=bnd (((((a0.Log==k0.Log)&&(a0.Log==k1.Log))&&(decide ((w64 (a0.At+k1.Delay))<k0.At)))&&(!((lkG (Oq a0.Leaf) k2).getD false)))) fun x1=>some (x1,k0,k1,k2)
theorem Na {a0 k0 k1 k2 r}(hm:Jj a0 k0 k1 k2=some r):Sp prog 50 [ag (Ae a0),.pb 0 0,.pb 1 0,.pb 2 0] [.box 0 [.d (.i k0.Log),.d (.i k0.Size),.d (.u k0.Root.1),.d (.u k0.Root.2),.d (.i k0.At),.d (.u k0.Sig.E),.d (.u k0.Sig.S)] 42,.box 1 [.d (.i k1.Log),.d (.u k1.Key),.d (.i k1.Delay)] 45,.box 2 [.ow 3] 96,.hp 3 (.mg _ _ AF D.t k2)] 4 (is (.d (.t r.1)) [.box 0 [.d (.i r.2.1.Log),.d (.i r.2.1.Size),.d (.u r.2.1.Root.1),.d (.u r.2.1.Root.2),.d (.i r.2.1.At),.d (.u r.2.1.Sig.E),.d (.u r.2.1.Sig.S)] 42,.box 1 [.d (.i r.2.2.1.Log),.d (.u r.2.2.1.Key),.d (.i r.2.2.1.Delay)] 45,.box 2 [.ow 3] 96,.hp 3 (.mg _ _ AF D.t r.2.2.2)] 4):=by
 refine sq ?_;intros;refine glkg (K:=AF) (c:=D.t) k2 a0.Leaf (Oq a0.Leaf) false 38 4 false (by kernel_rfl) (by kernel_rfl) (by kernel_rfl) (by kernel_rfl)<|bE hm ?_;intro x1 hm;obtain rfl:=AjC hm;exact gE
def Gd (a0:List g_api_Promise)(i1:Int)(s1:(List Int)×Int×Int×UInt64×UInt64×Int×UInt64×UInt64×Int×UInt64×Int×(List ((UInt64×UInt64)×Bool))):Option ((List Int)×Int×Int×UInt64×UInt64×Int×UInt64×UInt64×Int×UInt64×Int×(List ((UInt64×UInt64)×Bool))):=Ab (Ab (idx a0 (i1:Int)) fun x5=>Ab (Jj x5 (⟨s1.2.1,s1.2.2.1,(s1.2.2.2.1,s1.2.2.2.2.1),s1.2.2.2.2.2.1,(⟨s1.2.2.2.2.2.2.1,s1.2.2.2.2.2.2.2.1⟩:g_api_Sig)⟩:CL) (⟨s1.2.2.2.2.2.2.2.2.1,s1.2.2.2.2.2.2.2.2.2.1,s1.2.2.2.2.2.2.2.2.2.2.1⟩:D4) s1.2.2.2.2.2.2.2.2.2.2.2) fun x6=>if x6.1=true then Ab (app 8 s1.1 ([(i1:Int)]:List Int)) fun x7=>some (x7,x6.2.1.Log,x6.2.1.Size,x6.2.1.Root.1,x6.2.1.Root.2,x6.2.1.At,x6.2.1.Sig.E,x6.2.1.Sig.S,x6.2.2.1.Log,x6.2.2.1.Key,x6.2.2.1.Delay,x6.2.2.2)else some (s1.1,x6.2.1.Log,x6.2.1.Size,x6.2.1.Root.1,x6.2.1.Root.2,x6.2.1.At,x6.2.1.Sig.E,x6.2.1.Sig.S,x6.2.2.1.Log,x6.2.2.1.Key,x6.2.2.1.Delay,x6.2.2.2)) fun x4=>some (x4.1,x4.2.1,x4.2.2.1,x4.2.2.2.1,x4.2.2.2.2.1,x4.2.2.2.2.2.1,x4.2.2.2.2.2.2.1,x4.2.2.2.2.2.2.2.1,x4.2.2.2.2.2.2.2.2.1,x4.2.2.2.2.2.2.2.2.2.1,x4.2.2.2.2.2.2.2.2.2.2.1,x4.2.2.2.2.2.2.2.2.2.2.2)
def CF (a0:List g_api_Promise)(k0:CL)(k1:D4)(k2:List ((UInt64×UInt64)×Bool)):Option ((List Int)×CL×D4×(List ((UInt64×UInt64)×Bool))):=Ab (Ab (B3 (Gd a0) a0.length 0 (([]:List Int),k0.Log,k0.Size,k0.Root.1,k0.Root.2,k0.At,k0.Sig.E,k0.Sig.S,k1.Log,k1.Key,k1.Delay,k2)) fun x2=>some (x2.1,x2.2.1,x2.2.2.1,x2.2.2.2.1,x2.2.2.2.2.1,x2.2.2.2.2.2.1,x2.2.2.2.2.2.2.1,x2.2.2.2.2.2.2.2.1,x2.2.2.2.2.2.2.2.2.1,x2.2.2.2.2.2.2.2.2.2.1,x2.2.2.2.2.2.2.2.2.2.2.1,x2.2.2.2.2.2.2.2.2.2.2.2)) fun x1=>some (x1.1,(⟨x1.2.1,x1.2.2.1,(x1.2.2.2.1,x1.2.2.2.2.1),x1.2.2.2.2.2.1,(⟨x1.2.2.2.2.2.2.1,x1.2.2.2.2.2.2.2.1⟩:g_api_Sig)⟩:CL),(⟨x1.2.2.2.2.2.2.2.2.1,x1.2.2.2.2.2.2.2.2.2.1,x1.2.2.2.2.2.2.2.2.2.2.1⟩:D4),x1.2.2.2.2.2.2.2.2.2.2.2)
theorem G9 {a0 k0 k1 k2 r}(hm:CF a0 k0 k1 k2=some r):Sp prog 49 [sl Ae a0,.fn (.func 50) [] [.pb 0 0,.pb 1 0,.pb 2 0]] [.box 0 [.d (.i k0.Log),.d (.i k0.Size),.d (.u k0.Root.1),.d (.u k0.Root.2),.d (.i k0.At),.d (.u k0.Sig.E),.d (.u k0.Sig.S)] 42,.box 1 [.d (.i k1.Log),.d (.u k1.Key),.d (.i k1.Delay)] 45,.box 2 [.ow 3] 96,.hp 3 (.mg _ _ AF D.t k2)] 4 (is (.ow 4) [.box 0 [.d (.i r.2.1.Log),.d (.i r.2.1.Size),.d (.u r.2.1.Root.1),.d (.u r.2.1.Root.2),.d (.i r.2.1.At),.d (.u r.2.1.Sig.E),.d (.u r.2.1.Sig.S)] 42,.box 1 [.d (.i r.2.2.1.Log),.d (.u r.2.2.1.Key),.d (.i r.2.2.1.Delay)] 45,.box 2 [.ow 3] 96,.hp 3 (.mg _ _ AF D.t r.2.2.2),.row 4 1 _ eI r.1] 5):=by
 refine sq fun D0 As η0 m0 hd=> ?_;unfold CF at hm;obtain⟨x1,q1,hm⟩:=Ad hm;refine oB q1 fun x2 q2 q1=>Nt 0 eI 5 1<|O2 0 (E:=Ae) (xs:=a0) 8 fun hle1=>gF (EM _ _ _) q2 (fun p0 (p_0,p_1,p_2,p_3,p_4,p_5,p_6,p_7,p_8,p_9,p_10,p_11)=>⟨[(1,.fn (.func 50) [] [.pb 0 0,.pb 1 0,.pb 2 0]),(5,.ow 4),(8,sl Ae a0),(9,.d (.i (a0.length:Int))),(10,.d (.i p0))],[(0,.row 4 1 _ eI p_0),(1,.box 0 [.d (.i p_1),.d (.i p_2),.d (.u p_3),.d (.u p_4),.d (.i p_5),.d (.u p_6),.d (.u p_7)] 42),(2,.box 1 [.d (.i p_8),.d (.u p_9),.d (.i p_10)] 45),(3,.box 2 [.ow 3] 96),(4,.hp 3 (.mg _ _ AF D.t p_11))],[],5⟩) fun i1 s1 Jl bl1=>cM bl1 (a0.length:Int) (fun y1 q5 bl1=> ?_) fun e=> ?_
 ·refine oB q5 fun x4 q7 q5=>gjU 1 (fun(_:Unit)=>let (y_0,y_1,y_2,y_3,y_4,y_5,y_6,y_7,y_8,y_9,y_10,y_11):=x4; ⟨[(1,.fn (.func 50) [] [.pb 0 0,.pb 1 0,.pb 2 0]),(5,.ow 4),(8,sl Ae a0),(9,.d (.i (a0.length:Int))),(10,.d (.i (i1:Int)))],[(0,.row 4 1 _ eI y_0),(1,.box 0 [.d (.i y_1),.d (.i y_2),.d (.u y_3),.d (.u y_4),.d (.i y_5),.d (.u y_6),.d (.u y_7)] 42),(2,.box 1 [.d (.i y_8),.d (.u y_9),.d (.i y_10)] 45),(3,.box 2 [.ow 3] 96),(4,.hp 3 (.mg _ _ AF D.t y_11))],[],5⟩) (fun _=>True) (fun Jp bk3=> ?_) fun _ _=> ?_
  ·refine oB q7 fun x5 q8 q7=>gx Ae 6 q8<|gD q7 Na fun x6 q9 q7=>gi q7 ?_ ?_<;>intro hc1 q7
   ·refine gq eI 1 [(i1:Int)]<|oB q7 fun x7 q10 q7=>gp eI 1 q10 ?_;obtain rfl:=AjC q7;exact gb bk3 hd () trivial
   obtain rfl:=AjC q7;exact gb bk3 hd () trivial
  exact gM bl1 hle1 q5
 subst e;obtain rfl:=AjC q1;let x1:=(x2.1,x2.2.1,x2.2.2.1,x2.2.2.2.1,x2.2.2.2.2.1,x2.2.2.2.2.2.1,x2.2.2.2.2.2.2.1,x2.2.2.2.2.2.2.2.1,x2.2.2.2.2.2.2.2.2.1,x2.2.2.2.2.2.2.2.2.2.1,x2.2.2.2.2.2.2.2.2.2.2.1,x2.2.2.2.2.2.2.2.2.2.2.2);obtain rfl:=AjC hm;exact gE
def Iu (i1:Int)(x3:UInt64×UInt64)(s1:(List ((UInt64×UInt64)×Bool))):Option ((List ((UInt64×UInt64)×Bool))):=some (upG (Oq x3) (x3,true) s1)
def Ap (a0:List g_api_Promise)(a1:CL)(a2:List (UInt64×UInt64))(a3:D4):Option (List Int):=Ab (Ab (Db Iu a2 0 ([]:List ((UInt64×UInt64)×Bool))) fun x2=>some x2) fun x1=>Ab (CF a0 a1 a3 x1) fun x4=>some x4.1
theorem Ar {a0 a1 a2 a3 r}(hm:Ap a0 a1 a2 a3=some r):Sp prog 21 [sl Ae a0,ag (O6 a1),sl AF a2,ag (WU a3)] [] 0 (is (.ow 0) [.row 0 1 _ eI r] 1):=by
 refine sq ?_;intros;unfold Ap at hm;refine gmkg (UInt64×UInt64) Bool AF D.t ?_;obtain⟨x1,q1,hm⟩:=Ad hm;refine oB q1 fun x2 q2 q1=>O2 0 (E:=AF) (xs:=a2) 13 fun hle1=>gF (E0 _ _ _) q2 (fun p0 p=>⟨[(0,sl Ae a0),(5,.pb 0 0),(7,.pb 1 0),(9,.pb 3 0),(13,sl AF a2),(14,.d (.i (a2.length:Int))),(15,.d (.i p0)),(12,.ow 2)],[(0,.box 3 [.ow 2] 96),(1,.hp 2 (.mg _ _ AF D.t p)),(2,.box 1 [.d (.i a3.Log),.d (.u a3.Key),.d (.i a3.Delay)] 45),(3,.box 0 [.d (.i a1.Log),.d (.i a1.Size),.d (.u a1.Root.1),.d (.u a1.Root.2),.d (.i a1.At),.d (.u a1.Sig.E),.d (.u a1.Sig.S)] 42)],[],4⟩) fun i1 s1 Jl bl1=>c0 bl1 (fun x3 y1 q6 q5 bl1=> ?_) fun e=> ?_
 ·unfold Iu at q5;exact gx AF 2 q6<|gupg (K:=AF) (c:=D.t) s1 x3 true (Oq x3) 38 AiN (by kernel_rfl) (by kernel_rfl) (by kernel_rfl) (by kernel_rfl)<|gM bl1 hle1 q5
 subst e;obtain rfl:=AjC q1;let x1:=x2;refine gD hm G9 fun x4 q7 hm=> ?_;obtain rfl:=AjC hm;exact gE
def Lu (a0:g_api_Cert):Option ((List UInt8)×Int):=Ab (E5 a0) fun x1=>if(x1 !=0)=true then some (([]:List UInt8),x1)else Ab (KF a0) fun x2=>Ab (KE x2) fun x3=>some (x3.1,x3.2)
theorem PQ {a0 r}(hm:Lu a0=some r):Sp prog 65 [ag (Am a0),.fn (.func 66) [] []] [] 0 (is (.tup [.ow 0,.d (.i r.2)]) [.row 0 1 _ eB r.1] 1):=by
 refine sq ?_;intros;refine gA hm Pn fun x1 q1 hm=>gi hm ?_ ?_<;>intro hc1 hm
 ·refine W9 eB 4 1 ?_;exact AjC hm▸gE
 refine gA hm SD fun x2 q2 hm=>gD hm VO fun x3 q3 hm=> ?_;exact AjC hm▸gE
def SV (a0:g_api_Cert):Option ((List UInt8)×Int):=Ab (Lu a0) fun x1=>some (x1.1,x1.2)
theorem Aaj {a0 r}(hm:SV a0=some r):Sp prog 35 [ag (Am a0)] [] 0 (is (.tup [.ow 0,.d (.i r.2)]) [.row 0 1 _ eB r.1] 1):=by
 refine sq ?_;intros;refine gD hm PQ fun x1 q1 hm=> ?_;exact AjC hm▸gE
def Gp (a0:UInt64):Option Int:=Ab (if(decide ((a0.toNat:Int)≥4294967296))=true then some ((En a0 32),32)else some (a0,0)) fun x1=>Ab (if(decide ((x1.1.toNat:Int)≥65536))=true then some ((En x1.1 16),(w64 (x1.2+16)))else some (x1.1,x1.2)) fun x2=>Ab (if(decide ((x2.1.toNat:Int)≥256))=true then some ((En x2.1 8),(w64 (x2.2+8)))else some (x2.1,x2.2)) fun x3=>Ab (idx str_0.data.toList ((toB (x3.1.toNat:Int)).toNat:Int)) fun x4=>bnd ((w64 (x3.2+(w64 (x4.toNat:Int))))) fun x5=>some x5
theorem LO {a0 r}(hm:Gp a0=some r):Sf prog 175 [.d (.u a0)] (.d (.i r)):=by
 refine sq fun D0 As η0 m0 hd=>oB hm fun x1 q1 hm=>gj (fun(_:Unit)=>let (y_0,y_1):=x1; ⟨[(0,.d (.u y_0)),(2,.d (.i y_1))],[],[],0⟩) (fun _=>True) (fun Jp bk1=> ?_) fun _ _=> ?_
 ·refine gi q1 ?_ ?_<;>intro hc1 q1
  ·obtain rfl:=AjC q1;exact gb bk1 hd () trivial
  obtain rfl:=AjC q1;exact gb bk1 hd () trivial
 refine oB hm fun x2 q2 hm=>gj (fun(_:Unit)=>let (y_0,y_1):=x2; ⟨[(0,.d (.u y_0)),(2,.d (.i y_1))],[],[],0⟩) (fun _=>True) (fun Jp bk2=> ?_) fun _ _=> ?_
 ·refine gi q2 ?_ ?_<;>intro hc2 q2
  ·obtain rfl:=AjC q2;exact gb bk2 hd () trivial
  obtain rfl:=AjC q2;exact gb bk2 hd () trivial
 refine oB hm fun x3 q3 hm=>gj (fun(_:Unit)=>let (y_0,y_1):=x3; ⟨[(0,.d (.u y_0)),(2,.d (.i y_1))],[],[],0⟩) (fun _=>True) (fun Jp bk3=> ?_) fun _ _=> ?_
 ·refine gi q3 ?_ ?_<;>intro hc3 q3
  ·obtain rfl:=AjC q3;exact gb bk3 hd () trivial
  obtain rfl:=AjC q3;exact gb bk3 hd () trivial
 refine oB hm fun x4 q4 hm=>Yj (fun _=>q4)<|bE hm ?_;intro x5 hm;obtain rfl:=AjC hm;exact gE
def DG (a0:UInt64):Option Int:=Ab (Gp a0) fun x1=>some (w64 (64-x1))
theorem LP {a0 r}(hm:DG a0=some r):Sf prog 228 [.d (.u a0)] (.d (.i r)):=by
 refine sq ?_;intros;refine gA hm LO fun x1 q1 hm=> ?_;exact AjC hm▸gE
def E7 (x4:UInt64)(x5:UInt64)(x7:UInt64)(s1:UInt64×UInt64):Option ((UInt64×UInt64)⊕(UInt64)):=if((decide ((s1.1.toNat:Int)≥4294967296))||(decide (((s1.1*x5).toNat:Int)>(((4294967296*s1.2)+x7).toNat:Int))))=true then if(decide (((s1.2+x4).toNat:Int)≥4294967296))=true then some (.inr (s1.1-1))else some (.inl ((s1.1-1),(s1.2+x4)))else some (.inr s1.1)
def E6 (x4:UInt64)(x5:UInt64)(x8:UInt64)(s2:UInt64×UInt64):Option ((UInt64×UInt64)⊕(UInt64)):=if((decide ((s2.2.toNat:Int)≥4294967296))||(decide (((s2.2*x5).toNat:Int)>(((4294967296*s2.1)+x8).toNat:Int))))=true then if(decide (((s2.1+x4).toNat:Int)≥4294967296))=true then some (.inr (s2.2-1))else some (.inl ((s2.1+x4),(s2.2-1)))else some (.inr s2.2)
def Ie (a0:UInt64)(a1:UInt64)(a2:UInt64):Option (UInt64×UInt64):=Ab (if((a2.toNat:Int)==0)=true then none else some ()) fun x1=>Ab (if(decide ((a2.toNat:Int)≤(a0.toNat:Int)))=true then none else some ()) fun x2=>if((a0.toNat:Int)==0)=true then if a2≠0 then if a2≠0 then some ((a1/a2),(a1%a2))else none else none else Ab (DG a2) fun x3=>bnd ((En (JO a2 ((toU x3).toNat)) 32)) fun x4=>bnd (((JO a2 ((toU x3).toNat))&&&4294967295)) fun x5=>bnd (((JO a0 ((toU x3).toNat))|||(En a1 ((64-(toU x3)).toNat)))) fun x6=>bnd ((En (JO a1 ((toU x3).toNat)) 32)) fun x7=>bnd (((JO a1 ((toU x3).toNat))&&&4294967295)) fun x8=>if x4≠0 then Ab (Ab (iter (E7 x4 x5 x7) Bl ((x6/x4),(x6-((x6/x4)*x4)))) fun x10=>some x10) fun x9=>bnd ((((x6*4294967296)+x7)-(x9*(JO a2 ((toU x3).toNat))))) fun x12=>if x4≠0 then Ab (Ab (iter (E6 x4 x5 x8) Bl ((x12-((x12/x4)*x4)),(x12/x4))) fun x14=>some x14) fun x13=>bnd ((En (((x12*4294967296)+x8)-(x13*(JO a2 ((toU x3).toNat)))) ((toU x3).toNat))) fun x16=>some (((x9*4294967296)+x13),x16)else none else none
theorem Pq {a0 a1 a2 r}(hm:Ie a0 a1 a2=some r):Sf prog 181 [.d (.u a0),.d (.u a1),.d (.u a2)] (.tup [.d (.u r.1),.d (.u r.2)]):=by
 refine sq fun D0 As η0 m0 hd=>oB hm fun x1 q1 hm=>gi q1 (fun hc1 q1=> ?_) fun hc1 q1=> ?_
 ·cases q1
 obtain rfl:=AjC q1;refine oB hm fun x2 q2 hm=>gi q2 (fun hc2 q2=> ?_) fun hc2 q2=> ?_
 ·cases q2
 obtain rfl:=AjC q2;refine gi hm ?_ ?_<;>intro hc3 hm
 ·obtain⟨q3,hm⟩:=Cz hm;refine Ag0 (d:= .u a2) (r:= .u (a1/a2)) (fun h=>q3) ?_;obtain⟨q4,hm⟩:=Cz hm;refine Ag0 (d:= .u a2) (r:= .u (a1%a2)) (fun h=>q4) ?_;obtain rfl:=AjC hm;exact gE
 refine gA hm LP fun x3 q5 hm=>bE hm ?_;intro x4 hm;refine bE hm ?_;intro x5 hm;refine bE hm ?_;intro x6 hm;refine bE hm ?_;intro x7 hm;refine bE hm ?_;intro x8 hm;obtain⟨q11,hm⟩:=Cz hm;refine Ag0 (d:= .u x4) (r:= .u (x6/x4)) (fun h=>q11) ?_;obtain⟨x9,q12,hm⟩:=Ad hm;refine oB q12 fun x10 q13 q12=>gjU 0 (fun(_:Unit)=>⟨[(2,.d (.u (JO a2 ((toU x3).toNat)))),(8,.d (.u (toU x3))),(9,.d (.u x4)),(10,.d (.u x5)),(11,.d (.u x6)),(13,.d (.u x7)),(14,.d (.u x8)),(15,.d (.u x10))],[],[],0⟩) (fun _=>True) (fun Jp bk4=> ?_) fun _ _=> ?_
 ·refine gI q13 (fun(p_0,p_1)=>⟨[(2,.d (.u (JO a2 ((toU x3).toNat)))),(8,.d (.u (toU x3))),(9,.d (.u x4)),(10,.d (.u x5)),(11,.d (.u x6)),(13,.d (.u x7)),(14,.d (.u x8)),(15,.d (.u p_0)),(16,.d (.u p_1))],[],[],0⟩) fun s1 y1 Jl q16 bl1=>gi q16 ?_ ?_<;>intro hc4 q16
  ·refine gi q16 ?_ ?_<;>intro hc5 q16
   ·obtain rfl:=nR bl1 q16;exact gb bk4 hd () trivial
   exact gN bl1 q16
  obtain rfl:=nR bl1 q16;exact gb bk4 hd () trivial
 obtain rfl:=AjC q12;let x9:=x10;refine bE hm ?_;intro x12 hm;obtain⟨q19,hm⟩:=Cz hm;refine Ag0 (d:= .u x4) (r:= .u (x12/x4)) (fun h=>q19) ?_;obtain⟨x13,q20,hm⟩:=Ad hm;refine oB q20 fun x14 q21 q20=>gjU 2 (fun(_:Unit)=>⟨[(2,.d (.u (JO a2 ((toU x3).toNat)))),(8,.d (.u (toU x3))),(14,.d (.u x8)),(15,.d (.u x9)),(17,.d (.u x12)),(18,.d (.u x14))],[],[],0⟩) (fun _=>True) (fun Jp bk6=> ?_) fun _ _=> ?_
 ·refine gI q21 (fun(p_0,p_1)=>⟨[(2,.d (.u (JO a2 ((toU x3).toNat)))),(8,.d (.u (toU x3))),(9,.d (.u x4)),(10,.d (.u x5)),(14,.d (.u x8)),(15,.d (.u x9)),(16,.d (.u p_0)),(17,.d (.u x12)),(18,.d (.u p_1))],[],[],0⟩) fun s2 y2 Jl q24 bl2=>gi q24 ?_ ?_<;>intro hc6 q24
  ·refine gi q24 ?_ ?_<;>intro hc7 q24
   ·obtain rfl:=nR bl2 q24;exact gb bk6 hd () trivial
   exact gN bl2 q24
  obtain rfl:=nR bl2 q24;exact gb bk6 hd () trivial
 obtain rfl:=AjC q20;let x13:=x14;refine bE hm ?_;intro x16 hm;obtain rfl:=AjC hm;exact gE
def KB (a0:UInt64×UInt64)(a1:UInt64):Option UInt64:=if((a1.toNat:Int)==0)=true then some 0 else Ab (Ic a0.1 2305843009213693952) fun x1=>if a1≠0 then Ab (Ie ((x1.1+(JD x1.2 a0.2))%a1) (x1.2+a0.2) a1) fun x2=>some x2.2 else none
theorem SB {a0 a1 r}(hm:KB a0 a1=some r):Sf prog 141 [ag (AF a0),.d (.u a1)] (.d (.u r)):=by
 refine sq ?_;intros;refine gi hm ?_ ?_<;>intro hc1 hm
 ·exact AjC hm▸gE
 refine gA hm LN fun x1 q1 hm=>Ag6 (p:=x1.2) (q:=a0.2) func180 ?_;obtain⟨q2,hm⟩:=Cz hm;refine Ag0 (d:= .u a1) (r:= .u ((x1.1+(JD x1.2 a0.2))%a1)) (fun h=>q2)<|gA hm Pq fun x2 q3 hm=> ?_;exact AjC hm▸gE
def I8 (a0:ByteArray)(a1:List (List UInt8)):Option UInt64:=Ab (Da a0 a1) fun x1=>Ab (KB x1 1152921504606845788) fun x2=>some (x2+1)
theorem Qh {a0 a1 r}(hm:I8 a0 a1=some r):Sf prog 93 [.d (.s a0),sl (eL eB) a1] (.d (.u r)):=by
 refine sq ?_;intros;refine gA hm Gz fun x1 q1 hm=>gA hm SB fun x2 q2 hm=> ?_;exact AjC hm▸gE
def N9 (a0:List UInt8):Option UInt64:=Ab (I8 (⟨#[115,101,99,114,101,116]⟩:ByteArray) ([a0]:List (List UInt8))) fun x1=>some x1
theorem TB {a0 r}(hm:N9 a0=some r):Sf prog 78 [sl eB a0] (.d (.u r)):=by
 refine sq ?_;intros;refine gq (eL eB) 1 [a0]<|gA hm Qh fun x1 q1 hm=> ?_;exact AjC hm▸gE
def SU (a0:Int)(a1:List UInt8)(a2:Int):Option (Ah×Int):=Ab (N9 a1) fun x1=>Ab (Eb (⟨a0,x1,a2,[],[],[]⟩:Ah)) fun x2=>if(x2 !=0)=true then some ((⟨0,0,0,[],[],[]⟩:Ah),1)else some ((⟨a0,x1,a2,[],[],[]⟩:Ah),0)
theorem Aad {a0 a1 a2 r}(hm:SU a0 a1 a2=some r):Sf prog 51 [.d (.i a0),sl eB a1,.d (.i a2)] (.tup [ag (Bn r.1),.d (.i r.2)]):=by
 refine sq ?_;intros;refine gA hm TB fun x1 q1 hm=>gA hm HV fun x2 q2 hm=>gi hm ?_ ?_<;>intro hc1 hm
 ·exact AjC hm▸gE
 exact AjC hm▸gE
def OT (a0:UInt64):Option Bool:=bnd ((((a0.toNat:Int)==0)||(decide ((a0.toNat:Int)≥1152921504606845789)))) fun x1=>some x1
theorem Aab {a0 r}(hm:OT a0=some r):Sf prog 86 [.d (.u a0)] (.d (.t r)):=by
 refine sq ?_;intros;refine bE hm ?_;intro x1 hm;obtain rfl:=AjC hm;exact gE
def Gn (a0:UInt64)(a1:UInt64)(a2:UInt64):Option UInt64:=if a2≠0 then Ab (Ie (a0%a2) a1 a2) fun x1=>some x1.2 else none
theorem Pp {a0 a1 a2 r}(hm:Gn a0 a1 a2=some r):Sf prog 182 [.d (.u a0),.d (.u a1),.d (.u a2)] (.d (.u r)):=by
 refine sq ?_;intros;unfold Gn at hm;obtain⟨q1,hm⟩:=Cz hm;refine Ag0 (d:= .u a2) (r:= .u (a0%a2)) (fun h=>q1)<|gA hm Pq fun x1 q2 hm=> ?_;exact AjC hm▸gE
def Di (a0:UInt64)(a1:UInt64)(a2:UInt64):Option UInt64:=Ab (Ic a1 a2) fun x1=>Ab (Gn x1.1 x1.2 a0) fun x2=>some x2
theorem Hj {a0 a1 a2 r}(hm:Di a0 a1 a2=some r):Sf prog 143 [.d (.u a0),.d (.u a1),.d (.u a2)] (.d (.u r)):=by
 refine sq ?_;intros;refine gA hm LN fun x1 q1 hm=>gA hm Pp fun x2 q2 hm=> ?_;exact AjC hm▸gE
def C1 {σ:Type}(p0:σ→Bool→Option (Bool×σ))(k0:UInt64)(s1:Int×σ):Option ((Int×σ)⊕((σ)⊕(UInt64×σ))):=if(decide (s1.1≥0))=true then if(0:Int)≤s1.1 then Ab (p0 s1.2 (((k0&&&(JO 1 s1.1.toNat)).toNat:Int) !=0)) fun x4=>if(!x4.1)=true then some (.inr (.inr (k0,x4.2)))else some (.inl ((w64 (s1.1-1)),x4.2))else none else some (.inr (.inl s1.2))
def HC {σ:Type}(p0:σ→Bool→Option (Bool×σ))(k0:UInt64)(s0:σ):Option (UInt64×σ):=Ab (Gp k0) fun x1=>Ab (iter (C1 p0 k0) Bl ((w64 (x1-1)),s0)) fun x2=>match x2 with| .inr r=>some r| .inl y1=>some (k0,y1)
theorem OK {σ:Type}{p0:σ→Bool→Option (Bool×σ)}{k0 s0 r}(hm:HC p0 k0 s0=some r)(g:Value)(R:σ→Mem→Ow)(hcb:Agj prog g (fun x=> [.d (.t x)]) R p0):Sp prog 250 [.ow 0,.pb 1 0] [.hp 0 (.cb g σ R s0),.box 1 [.d (.u k0)] 22] 2 (is (.tup []) [.hp 0 (.cb g σ R r.2),.box 1 [.d (.u r.1)] 22] 2):=by
 refine sq ?_;intros;refine gA hm LO fun x1 q1 hm=>oB hm fun x2 q2 hm=>gI q2 (fun(p_0,p_1)=>⟨[(0,.ow 0),(1,.pb 1 0),(3,.d (.i p_0))],[(0,.box 1 [.d (.u k0)] 22),(1,.hp 0 (.cb g σ R p_1))],[],2⟩) fun s1 y2 Jl q5 bl1=>gi q5 ?_ ?_<;>intro hc1 q5
 ·obtain⟨q7,q5⟩:=Cz q5;refine gsh (r:= .u (JO 1 s1.1.toNat)) (fun h=>q7)<|oB q5 fun x4 q8 q5=>gcb (((k0&&&(JO 1 s1.1.toNat)).toNat:Int) !=0) hcb q8<|gi q5 ?_ ?_<;>intro hc2 q5
  ·obtain rfl:=nR bl1 q5;obtain rfl:=AjC hm;exact gE
  exact gN bl1 q5
 obtain rfl:=nR bl1 q5;let y1:=s1.2;obtain rfl:=AjC hm;exact gE
end Go.Proofs.YtibojdgdjhngiaaGreatDoor
