/- The walks of some functions, by the executor, written by program. Conditions: none. -/
import Derived.Test.YtnhdojckpcbjeaaGreatDoorZh
import Derived.Test.YtnhdojckpcbjeaaGreatDoorZj
import Derived.Test.YtnhdojckpcbjeaaGreatDoorZk
import Derived.Test.YtnhdojckpcbjeaaGreatDoorZl
set_option linter.unusedSimpArgs false
set_option linter.unusedVariables false
set_option maxHeartbeats 20000000
set_option maxRecDepth 100000
namespace Go.Proofs.YtnhdojckpcbjeaaGreatDoor
open Go Go.Gw Go.Ax Tryz
attribute [local irreducible] Go.Ax.Go
def BB (a0:List ByteArray)(a1:List ByteArray)(s1:Int):Option ((Int)⊕((Unit)⊕Bool)):=if(decide (s1<(a0.length:Int)))=true then Ab (idx a0 s1) fun x3=>Ab (idx a1 s1) fun x4=>if(!eqS x3 x4)=true then some (.inr (.inr false))else some (.inl (w64 (s1+1)))else some (.inr (.inl ()))
def FY (a0:List ByteArray)(a1:List ByteArray):Option Bool:=if((a0.length:Int) !=(a1.length:Int))=true then some false else Ab (iter (BB a0 a1) Dq 0) fun x1=>match x1 with| .inr r=>some r| .inl y1=>some true
theorem OT {a0 a1 r}(hm:FY a0 a1=some r):Sf prog 127 [sl eS a0,sl eS a1] (.d (.t r)):=by
 refine sq ?_;intros;refine gi hm ?_ ?_<;>intro _ hm
 ·exact Agf hm▸gE
 refine oB hm fun _ q1 hm=>gI q1 (fun p=>⟨[(0,sl eS a0),(1,sl eS a1),(5,.d (.i p))],[],[],0⟩) fun s1 _ Jl q4 bl1=>gi q4 ?_ ?_<;>intro _ q4
 ·refine oB q4 fun _ q6 q4=>gx eS 1 q6<|oB q4 fun _ q7 q4=>gx eS 1 q7<|gi q4 ?_ ?_<;>intro _ q4
  ·obtain rfl:=nR bl1 q4;exact Agf hm▸gE
  exact gN bl1 q4
 obtain rfl:=nR bl1 q4;exact Agf hm▸gE
def BA (a0:g_api_Cert)(a1:g_api_Cert)(s1:Int):Option ((Int)⊕((Unit)⊕Bool)):=if(decide (s1<(a0.Proms.length:Int)))=true then Ab (idx a0.Proms s1) fun x3=>Ab (idx a1.Proms s1) fun x4=>if(!Dg x3 x4)=true then some (.inr (.inr false))else some (.inl (w64 (s1+1)))else some (.inr (.inl ()))
def FX (a0:g_api_Cert)(a1:g_api_Cert):Option Bool:=if((((((((((a0.Serial !=a1.Serial)||(!eqS a0.Issuer a1.Issuer))||(!eqS a0.Subject a1.Subject))||((a0.Key.toNat:Int) !=(a1.Key.toNat:Int)))||(a0.From !=a1.From))||(a0.Until !=a1.Until))||(a0.Ca !=a1.Ca))||(a0.Depth !=a1.Depth))||(!Ec a0.Sig a1.Sig))||((a0.Proms.length:Int) !=(a1.Proms.length:Int)))=true then some false else Ab (iter (BA a0 a1) Dq 0) fun x1=>match x1 with| .inr r=>some r| .inl y1=>Ab (FY a0.Names a1.Names) fun x5=>Ab (gu x5 (FY a0.Permit a1.Permit)) fun x6=>some (x5&&x6)
theorem T9 {a0 a1 r}(hm:FX a0 a1=some r):Sf prog 48 [ag (Ac a0),ag (Ac a1)] (.d (.t r)):=by
 refine sq ?_;intros;refine gi hm ?_ ?_<;>intro _ hm
 ·exact Agf hm▸gE
 refine oB hm fun _ q1 hm=>gI q1 (fun p=>⟨[(2,.pb 0 0),(3,.pb 1 0),(5,.d (.i p))],[(0,.box 1 [.d (.i a1.Serial),.d (.s a1.Issuer),.d (.s a1.Subject),.d (.u a1.Key),sl eS a1.Names,.d (.i a1.From),.d (.i a1.Until),.d (.t a1.Ca),.d (.i a1.Depth),sl eS a1.Permit,sl Ad a1.Proms,.d (.u a1.Sig.E),.d (.u a1.Sig.S)] 59),(1,.box 0 [.d (.i a0.Serial),.d (.s a0.Issuer),.d (.s a0.Subject),.d (.u a0.Key),sl eS a0.Names,.d (.i a0.From),.d (.i a0.Until),.d (.t a0.Ca),.d (.i a0.Depth),sl eS a0.Permit,sl Ad a0.Proms,.d (.u a0.Sig.E),.d (.u a0.Sig.S)] 59)],[],2⟩) fun s1 _ Jl q4 bl1=>gi q4 ?_ ?_<;>intro _ q4
 ·refine oB q4 fun _ q6 q4=>gx Ad 6 q6<|oB q4 fun _ q7 q4=>gx Ad 6 q7<|gi q4 ?_ ?_<;>intro _ q4
  ·obtain rfl:=nR bl1 q4;exact Agf hm▸gE
  exact gN bl1 q4
 obtain rfl:=nR bl1 q4;refine gA hm OT fun _ q8 hm=>oB hm fun _ q9 hm=>gcH q9 OT ?_;exact Agf hm▸gE
def Gr (a0:g_api_Client)(a1:g_api_Client)(s1:Int):Option ((Int)⊕((Unit)⊕Bool)):=if(decide (s1<(a0.Roots.length:Int)))=true then Ab (idx a0.Roots s1) fun x5=>Ab (idx a1.Roots s1) fun x6=>Ab (FX x5 x6) fun x7=>if(!x7)=true then some (.inr (.inr false))else some (.inl (w64 (s1+1)))else some (.inr (.inl ()))
def Gq (a0:g_api_Client)(a1:g_api_Client)(s2:Int):Option ((Int)⊕((Unit)⊕Bool)):=if(decide (s2<(a0.Logs.length:Int)))=true then Ab (idx a0.Logs s2) fun x10=>Ab (idx a1.Logs s2) fun x11=>if(!Mb x10 x11)=true then some (.inr (.inr false))else some (.inl (w64 (s2+1)))else some (.inr (.inl ()))
def Cu (a0:g_api_Client)(a1:g_api_Client):Option Bool:=
 Ab (gu (!(((!eqS a0.Who a1.Who)||((a0.Roots.length:Int) !=(a1.Roots.length:Int)))||((a0.Logs.length:Int) !=(a1.Logs.length:Int)))) (HJ a0.Pool.L a1.Pool.L)) fun x1=>
 Ab (gu (!(((((!eqS a0.Who a1.Who)||((a0.Roots.length:Int) !=(a1.Roots.length:Int)))||((a0.Logs.length:Int) !=(a1.Logs.length:Int)))||(!x1))||(a0.View !=a1.View))) (IT a0.Cascade a1.Cascade)) fun x2=>
 if((((((!eqS a0.Who a1.Who)||((a0.Roots.length:Int) !=(a1.Roots.length:Int)))||((a0.Logs.length:Int) !=(a1.Logs.length:Int)))||(!x1))||(a0.View !=a1.View))||(!x2))=true then
  some false
 else
 Ab (iter (Gr a0 a1) Dq 0) fun x3=>match x3 with
 | .inr r=>some r
 | .inl y1=>
 Ab (iter (Gq a0 a1) Dq 0) fun x8=>match x8 with
 | .inr r=>some r
 | .inl y3=>
 some true
theorem K0 {a0 a1 r}(hm:Cu a0 a1=some r):Sf prog 19 [ag (BL a0),ag (BL a1)] (.d (.t r)):=by
 refine sq ?_;intros;refine oB hm fun _ q1 hm=>gcH q1 Su<|oB hm fun _ q2 hm=>gcH q2 Ua<|gi hm ?_ ?_<;>intro _ hm
 ·exact Agf hm▸gE
 refine oB hm fun _ q3 hm=>gI q3 (fun p=>⟨[(2,.pb 0 0),(3,.pb 1 0),(5,.d (.i p))],[(0,.box 1 [.d (.s a1.Who),sl Ac a1.Roots,sl Ah a1.Logs,sl Af a1.Pool.L,.d (.i a1.Cascade.Day),sl Ae a1.Cascade.Levels,.d (.i a1.View)] 31),(1,.box 0 [.d (.s a0.Who),sl Ac a0.Roots,sl Ah a0.Logs,sl Af a0.Pool.L,.d (.i a0.Cascade.Day),sl Ae a0.Cascade.Levels,.d (.i a0.View)] 31)],[],2⟩) fun s1 _ Jl q6 bl1=>gi q6 ?_ ?_<;>intro _ q6
 ·refine oB q6 fun _ q8 q6=>gx Ac 13 q8<|oB q6 fun _ q9 q6=>gx Ac 13 q9<|gA q6 T9 fun _ q10 q6=>gi q6 ?_ ?_<;>intro _ q6
  ·obtain rfl:=nR bl1 q6;exact Agf hm▸gE
  exact gN bl1 q6
 obtain rfl:=nR bl1 q6;refine oB hm fun _ q11 hm=>gI q11 (fun p=>⟨[(2,.pb 0 0),(3,.pb 1 0),(6,.d (.i p))],[(0,.box 1 [.d (.s a1.Who),sl Ac a1.Roots,sl Ah a1.Logs,sl Af a1.Pool.L,.d (.i a1.Cascade.Day),sl Ae a1.Cascade.Levels,.d (.i a1.View)] 31),(1,.box 0 [.d (.s a0.Who),sl Ac a0.Roots,sl Ah a0.Logs,sl Af a0.Pool.L,.d (.i a0.Cascade.Day),sl Ae a0.Cascade.Levels,.d (.i a0.View)] 31)],[],2⟩) fun s2 _ Jl q14 bl2=>gi q14 ?_ ?_<;>intro _ q14
 ·refine oB q14 fun _ q16 q14=>gx Ah 3 q16<|oB q14 fun _ q17 q14=>gx Ah 3 q17<|gi q14 ?_ ?_<;>intro _ q14
  ·obtain rfl:=nR bl2 q14;exact Agf hm▸gE
  exact gN bl2 q14
 obtain rfl:=nR bl2 q14;exact Agf hm▸gE
def HB (a0:g_api_Sieve)(a1:g_api_Sieve):Option Bool:=Ab (gu (((a0.Bits==a1.Bits)&&(a0.Hashes==a1.Hashes))&&(a0.Salt==a1.Salt)) (HU a0.B a1.B)) fun x1=>bnd (((((a0.Bits==a1.Bits)&&(a0.Hashes==a1.Hashes))&&(a0.Salt==a1.Salt))&&x1)) fun x2=>some x2
theorem Pz {a0 a1 r}(hm:HB a0 a1=some r):Sf prog 109 [ag (Ae a0),ag (Ae a1)] (.d (.t r)):=by
 refine sq ?_;intros;refine oB hm fun _ q1 hm=>gcH q1 NC<|bE hm ?_;intro _ hm;exact Agf hm▸gE
def Av (a0:List g_api_Sieve)(a1:List g_api_Sieve)(i1:Int)(s1:Unit):Option ((Unit)⊕Bool):=Ab (idx a0 (i1:Int)) fun x3=>Ab (idx a1 (i1:Int)) fun x4=>Ab (HB x3 x4) fun x5=>if(!x5)=true then some (.inr false)else some (.inl ())
def AH (a0:List g_api_Sieve)(a1:List g_api_Sieve):Option Bool:=if((a0.length:Int) !=(a1.length:Int))=true then some false else Ab (BS (Av a0 a1) a0.length 0 ()) fun x1=>match x1 with| .inr r=>some r| .inl y1=>some true
theorem BT {a0 a1 r}(hm:AH a0 a1=some r):Sf prog 108 [sl Ae a0,sl Ae a1,.fn (.func 109) [] []] (.d (.t r)):=by
 refine sq ?_;intros;refine gi hm ?_ ?_<;>intro _ hm
 ·exact Agf hm▸gE
 refine oB hm fun _ q1 hm=>Hd 0 (E:=Ae) (xs:=a0) 15 fun hle1=>gF (EN _ _ _) q1 (fun p0 _=>⟨[(1,sl Ae a1),(2,.fn (.func 109) [] []),(15,sl Ae a0),(16,.d (.i (a0.length:Int))),(17,.d (.i p0))],[],[],0⟩) fun i1 s1 Jl bl1=>cN bl1 (a0.length:Int) (fun _ q4 bl1=> ?_) fun e=> ?_
 ·refine oB q4 fun _ q6 q4=>gx Ae 4 q6<|oB q4 fun _ q7 q4=>gx Ae 4 q7<|gA q4 Pz fun _ q8 q4=>gi q4 ?_ ?_<;>intro _ q4
  ·obtain rfl:=nT bl1 q4;exact Agf hm▸gE
  exact gT bl1 hle1 q4
 subst e;exact Agf hm▸gE
def Hb (a0:g_api_Cascade)(a1:g_api_Cascade):Option Bool:=Ab (gu (a0.Day==a1.Day) (AH a0.Levels a1.Levels)) fun x1=>some ((a0.Day==a1.Day)&&x1)
theorem Ro {a0 a1 r}(hm:Hb a0 a1=some r):Sf prog 35 [ag (BE a0),ag (BE a1)] (.d (.t r)):=by
 refine sq ?_;intros;refine oB hm fun _ q1 hm=>gcH q1 BT ?_;exact Agf hm▸gE
def BJ (a2:g_api_Head)(x9:g_api_Client×Int)(s1:Bool×Int):Option ((Bool×Int)⊕(Bool)):=if(decide (s1.2<(x9.1.Pool.L.length:Int)))=true then Ab (idx x9.1.Pool.L s1.2) fun x14=>bnd ((s1.1||(Dh (⟨x14.Log,x14.Size,x14.Root,x14.At,a2.Sig⟩:g_api_Head) a2))) fun x15=>some (.inl (x15,(w64 (s1.2+1))))else some (.inr s1.1)
def KS (a2:g_api_Head)(x19:g_api_Client×Int)(s2:Bool×Int):Option ((Bool×Int)⊕(Bool)):=if(decide (s2.2<(x19.1.Pool.L.length:Int)))=true then Ab (idx x19.1.Pool.L s2.2) fun x24=>bnd ((s2.1||(Dh (⟨x24.Log,x24.Size,x24.Root,x24.At,a2.Sig⟩:g_api_Head) a2))) fun x25=>some (.inl (x25,(w64 (s2.2+1))))else some (.inr s2.1)
def Eo (a0:g_api_Client)(a1:g_api_Cascade)(a2:g_api_Head):Option Bool:=Ab (IW) fun x1=>if(!x1)=true then some false else Ab (Ki a0) fun x2=>Ab (gu (!(!x2)) (C5 a1)) fun x3=>Ab (gu (!((!x2)||(!x3))) (m_client_Check a0)) fun x4=>if(((!x2)||(!x3))||(x4 !=0))=true then some true else Ab (DM a0 a1) fun x5=>Ab (Bp a1) fun x6=>if(((x5.2==0) !=((x6==0)&&(decide (a1.Day≥a0.Cascade.Day))))||(((x6==0)&&(x5.2 !=0))&&(x5.2 !=190)))=true then some false else if(x5.2==0)=true then Ab (Cu (⟨x5.1.Who,x5.1.Roots,x5.1.Logs,x5.1.Pool,a0.Cascade,x5.1.View⟩:g_api_Client) a0) fun x7=>Ab (gu (!(!x7)) (Hb x5.1.Cascade a1)) fun x8=>if((!x7)||(!x8))=true then some false else Ab (Db a0 a2) fun x9=>if(x9.2 !=0)=true then bnd (((x9.1.Roots.length:Int)==0)) fun x10=>some x10 else Ab (Ab (iter (BJ a2 x9) Dq (false,0)) fun x12=>some x12) fun x11=>Ab (Cu (⟨x9.1.Who,x9.1.Roots,x9.1.Logs,a0.Pool,x9.1.Cascade,x9.1.View⟩:g_api_Client) a0) fun x16=>Ab (gu ((x16&&x11)&&(decide ((x9.1.Pool.L.length:Int)≥(a0.Pool.L.length:Int)))) (m_client_Check x9.1)) fun x17=>bnd ((((x16&&x11)&&(decide ((x9.1.Pool.L.length:Int)≥(a0.Pool.L.length:Int))))&&(x17==0))) fun x18=>some x18 else Ab (Db a0 a2) fun x19=>if(x19.2 !=0)=true then bnd (((x19.1.Roots.length:Int)==0)) fun x20=>some x20 else Ab (Ab (iter (KS a2 x19) Dq (false,0)) fun x22=>some x22) fun x21=>Ab (Cu (⟨x19.1.Who,x19.1.Roots,x19.1.Logs,a0.Pool,x19.1.Cascade,x19.1.View⟩:g_api_Client) a0) fun x26=>Ab (gu ((x26&&x21)&&(decide ((x19.1.Pool.L.length:Int)≥(a0.Pool.L.length:Int)))) (m_client_Check x19.1)) fun x27=>bnd ((((x26&&x21)&&(decide ((x19.1.Pool.L.length:Int)≥(a0.Pool.L.length:Int))))&&(x27==0))) fun x28=>some x28
theorem Nw {a0 a1 a2 r}(hm:Eo a0 a1 a2=some r):Sf prog 8 [ag (BL a0),ag (BE a1),ag (Af a2)] (.d (.t r)):=by
 refine sq ?_;intros;refine gA hm Uf fun _ q1 hm=>gi hm ?_ ?_<;>intro _ hm
 ·exact Agf hm▸gE
 refine gA hm Vm fun _ q2 hm=>oB hm fun _ q3 hm=>gcH q3 IK<|oB hm fun _ q4 hm=>gcH q4 CI<|gi hm ?_ ?_<;>intro _ hm
 ·exact Agf hm▸gE
 refine gA hm Lf fun x5 q5 hm=>gA hm Gg fun _ q6 hm=>gi hm ?_ ?_<;>intro _ hm
 ·exact Agf hm▸gE
 refine gi hm ?_ ?_<;>intro _ hm
 ·refine gA hm K0 fun _ q7 hm=>oB hm fun _ q8 hm=>gcH q8 Ro<|gi hm ?_ ?_<;>intro _ hm
  ·exact Agf hm▸gE
  refine gA hm J9 fun x9 q9 hm=>gi hm ?_ ?_<;>intro _ hm
  ·refine bE hm ?_;intro _ hm;exact Agf hm▸gE
  obtain⟨x11,q11,hm⟩:=Ag hm;refine oB q11 fun x12 q12 q11=>gI q12 (fun(p_0,p_1)=>⟨[(3,.pb 0 0),(5,.pb 2 0),(11,.pb 5 0),(13,.pb 6 0),(14,.d (.t p_0)),(15,.d (.i p_1)),(10,.pb 4 0),(7,.pb 3 0),(4,.pb 1 0)],[(0,.box 6 [.d (.s x9.1.Who),sl Ac x9.1.Roots,sl Ah x9.1.Logs,sl Af a0.Pool.L,.d (.i x9.1.Cascade.Day),sl Ae x9.1.Cascade.Levels,.d (.i x9.1.View)] 31),(1,.box 5 [.d (.s x9.1.Who),sl Ac x9.1.Roots,sl Ah x9.1.Logs,sl Af x9.1.Pool.L,.d (.i x9.1.Cascade.Day),sl Ae x9.1.Cascade.Levels,.d (.i x9.1.View)] 31),(2,.box 4 [.d (.s x5.1.Who),sl Ac x5.1.Roots,sl Ah x5.1.Logs,sl Af x5.1.Pool.L,.d (.i a0.Cascade.Day),sl Ae a0.Cascade.Levels,.d (.i x5.1.View)] 31),(3,.box 3 [.d (.s x5.1.Who),sl Ac x5.1.Roots,sl Ah x5.1.Logs,sl Af x5.1.Pool.L,.d (.i x5.1.Cascade.Day),sl Ae x5.1.Cascade.Levels,.d (.i x5.1.View)] 31),(4,.box 2 [.d (.i a2.Log),.d (.i a2.Size),.d (.u a2.Root.1),.d (.u a2.Root.2),.d (.i a2.At),.d (.u a2.Sig.E),.d (.u a2.Sig.S)] 38),(5,.box 1 [.d (.i a1.Day),sl Ae a1.Levels] 29),(6,.box 0 [.d (.s a0.Who),sl Ac a0.Roots,sl Ah a0.Logs,sl Af a0.Pool.L,.d (.i a0.Cascade.Day),sl Ae a0.Cascade.Levels,.d (.i a0.View)] 31)],[],7⟩) fun s1 _ Jl q15 bl1=>gi q15 ?_ ?_<;>intro _ q15
  ·refine oB q15 fun _ q17 q15=>gx Af 7 q17<|bE q15 ?_;intro _ q15;exact gN bl1 q15
  obtain rfl:=nR bl1 q15;let x12:=s1.1;obtain rfl:=Agf q11;refine gA hm K0 fun _ q19 hm=>oB hm fun _ q20 hm=>gcH q20 CI<|bE hm ?_;intro _ hm;exact Agf hm▸gE
 refine gA hm J9 fun x19 q22 hm=>gi hm ?_ ?_<;>intro _ hm
 ·refine bE hm ?_;intro _ hm;exact Agf hm▸gE
 obtain⟨x21,q24,hm⟩:=Ag hm;refine oB q24 fun x22 q25 q24=>gI q25 (fun(p_0,p_1)=>⟨[(3,.pb 0 0),(5,.pb 2 0),(11,.pb 4 0),(13,.pb 5 0),(14,.d (.t p_0)),(15,.d (.i p_1)),(7,.pb 3 0),(4,.pb 1 0)],[(0,.box 5 [.d (.s x19.1.Who),sl Ac x19.1.Roots,sl Ah x19.1.Logs,sl Af a0.Pool.L,.d (.i x19.1.Cascade.Day),sl Ae x19.1.Cascade.Levels,.d (.i x19.1.View)] 31),(1,.box 4 [.d (.s x19.1.Who),sl Ac x19.1.Roots,sl Ah x19.1.Logs,sl Af x19.1.Pool.L,.d (.i x19.1.Cascade.Day),sl Ae x19.1.Cascade.Levels,.d (.i x19.1.View)] 31),(2,.box 3 [.d (.s x5.1.Who),sl Ac x5.1.Roots,sl Ah x5.1.Logs,sl Af x5.1.Pool.L,.d (.i x5.1.Cascade.Day),sl Ae x5.1.Cascade.Levels,.d (.i x5.1.View)] 31),(3,.box 2 [.d (.i a2.Log),.d (.i a2.Size),.d (.u a2.Root.1),.d (.u a2.Root.2),.d (.i a2.At),.d (.u a2.Sig.E),.d (.u a2.Sig.S)] 38),(4,.box 1 [.d (.i a1.Day),sl Ae a1.Levels] 29),(5,.box 0 [.d (.s a0.Who),sl Ac a0.Roots,sl Ah a0.Logs,sl Af a0.Pool.L,.d (.i a0.Cascade.Day),sl Ae a0.Cascade.Levels,.d (.i a0.View)] 31)],[],6⟩) fun s2 _ Jl q28 bl2=>gi q28 ?_ ?_<;>intro _ q28
 ·refine oB q28 fun _ q30 q28=>gx Af 7 q30<|bE q28 ?_;intro _ q28;exact gN bl2 q28
 obtain rfl:=nR bl2 q28;let x22:=s2.1;obtain rfl:=Agf q24;refine gA hm K0 fun _ q32 hm=>oB hm fun _ q33 hm=>gcH q33 CI<|bE hm ?_;intro _ hm;exact Agf hm▸gE
end Go.Proofs.YtnhdojckpcbjeaaGreatDoor
