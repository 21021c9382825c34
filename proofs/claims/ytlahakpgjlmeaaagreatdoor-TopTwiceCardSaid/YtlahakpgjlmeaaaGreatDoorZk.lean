/- The walks of some functions, by the executor, written by program. Conditions: none. -/
import Derived.Test.YtlahakpgjlmeaaaGreatDoorZh
import Derived.Test.YtlahakpgjlmeaaaGreatDoorZi
import Derived.Test.YtlahakpgjlmeaaaGreatDoorZj
set_option linter.unusedSimpArgs false
set_option linter.unusedVariables false
set_option maxHeartbeats 20000000
set_option maxRecDepth 100000
namespace Go.Proofs.YtlahakpgjlmeaaaGreatDoor
open Go Go.Gw Go.Ax Tryz Go.RowKit
attribute [local irreducible] Go.Ax.Go
def Gr (a0:List UInt8)(a1:List UInt8):Option Bool:=some (eqS (bs a0) (bs a1))
theorem O4 {a0 a1 r}(hm:Gr a0 a1=some r):Sf prog 108 [sl eB a0,sl eB a1] (.d (.t r)):=by
 refine sq ?_;intros;refine gbs (xs:=a0)<|gbs (xs:=a1) ?_;exact Akr hm▸gE
def Nt (a0:g_api_Leaf)(k0:List UInt8):Option (Bool×(List UInt8)):=Ab (Gr a0.Body k0) fun x1=>some (x1,k0)
theorem VM {a0 k0 r}(hm:Nt a0 k0=some r):Sp prog 107 [ag (Ay a0),.pb 0 0] [.box 0 [sl eB k0] 22] 1 (is (.d (.t r.1)) [.box 0 [.d (.sl _ eB r.2)] 22] 1):=by
 refine sq ?_;intros;refine gA hm O4 fun _ q1 hm=> ?_;exact Akr hm▸gE
def B8 (a0:List g_api_Leaf):Option (List g_api_Leaf):=Ab (app 32 ([]:List g_api_Leaf) a0) fun x1=>some x1
theorem H3 {a0 r}(hm:B8 a0=some r):Sp prog 109 [sl Ay a0] [] 0 (is (.ow 0) [.row 0 2 _ Ay r] 1):=by
 refine sq ?_;intros;unfold B8 at hm;refine gnq Ay a0 (fun he1=> ?_) ?_
 ·rw[he1]at hm;replace hm:(some ([]:List g_api_Leaf))=some _:=hm;refine OE Ay 2 2 ?_;exact Akr hm▸gE
 refine TN (k:=2) Ay ([]:List g_api_Leaf) (fun _=>rfl)<|oB hm fun _ q1 hm=>gp Ay 2 q1 ?_;exact Akr hm▸gE
def Ec (a0:List UInt8):Option (List UInt8):=Ab (app 1 ([]:List UInt8) a0) fun x1=>some x1
theorem LQ {a0 r}(hm:Ec a0=some r):Sp prog 110 [sl eB a0] [] 0 (is (.ow 0) [.row 0 1 _ eB r] 1):=by
 refine sq ?_;intros;unfold Ec at hm;refine gnq eB a0 (fun he1=> ?_) ?_
 ·rw[he1]at hm;replace hm:(some ([]:List UInt8))=some _:=hm;refine OE eB 2 1 ?_;exact Akr hm▸gE
 refine TN (k:=1) eB ([]:List UInt8) (fun _=>rfl)<|oB hm fun _ q1 hm=>gp eB 1 q1 ?_;exact Akr hm▸gE
def BH (a1:Int):Option (List UInt8):=Ab (if(decide (a1<0))=true then none else some ()) fun x1=>Ab (bnd ((w64 (a1-(w64 (0-((0:Nat):Int)))))) fun x3=>if(decide (x3>0))=true then if 0≤x3∧x3*1≤140737488355328∧x3≤140737488355328 then some ([]:List UInt8)else none else some ([]:List UInt8)) fun x2=>some x2
theorem JU {m As w a1 r}(S:St m (As) w)(hm:BH a1=some r):
  Ft Tryz.prog 291 #[.slice none 0 0,vI a1] w fun v w'=> ∃(M:Mem),m≤M∧∃(rv0:Value) (rc0:List Value),St M ((row 1 rv0 rc0 r.length)::As) w'∧v=rv0∧DU M rc0 r:=by
 unfold BH at hm;have L0:=Mem.rfl' m;refine ZW (args:=[.slice none 0 0,vI a1]) Tryz.func291 rfl Tryz.ntmps291 (AkG rfl)<|C5<|A9<|We (v:= .slice none 0 0) rfl<|Co<|nrm ?_;obtain⟨x1,q1,hm⟩:=Ac hm;have L1:=Mem.rfl' m;refine C5<|Rb [5,6,7] (fun f' w'=> ∃(M1:Mem),m≤M1∧St M1 (As) w'∧Aa5 f' []) ?_ ?_
 ·refine C5<|A9<|Ls (v:=vI a1) rfl<|Aiy (m:=a1) (n:=0) rfl rfl<|Co<|nrm<|Qu (t:=(decide (a1<0))) rfl (fun hc1=> ?_) (fun hc1=> ?_)
  ·replace q1:=ifT hc1 q1;cases q1
  replace q1:=ifF hc1 q1;refine NK<|nrm ?_;obtain rfl:=Akr q1;exact⟨Afy,m,L1,S,trivial⟩
 rintro f1 w1 ho ⟨m1,l1,S1,ha⟩;obtain⟨u1,rfl⟩:=Agk (N:=27) ho ha;replace L0:=Mem.tr L0 l1;clear S;obtain⟨x2,q2,hm⟩:=Ac hm;have L2:=Mem.rfl' m1;refine C5<|Rb [0,1,8,9,10,11,12,13,14,15,16,17,18,19,20,21,22,23,24,25] (fun f' w'=> ∃(M2:Mem) (v1:Value) (c1:List Value),m1≤M2∧St M2 ((row 1 v1 c1 x2.length)::As) w'∧DU M2 c1 x2∧Aa5 f' [(0,v1)]) ?_ ?_
 ·refine C5<|A9<|Ls (v:=vI a1) rfl<|Ls (v:= .slice none 0 0) rfl<|Re rfl Tryz.underlying22<|Ls (v:= .slice none 0 0) rfl<|Wc (n:=0) rfl Tryz.underlying22<|Wa (m:=0) (n:=((0:Nat):Int)) rfl rfl<|Wa (m:=a1) (n:=(w64 (0-((0:Nat):Int)))) rfl rfl ?_;obtain⟨x3,q3,q2⟩:=Ah1 q2;refine We (v:=vI x3) (Alc (fun z=>vI z) q3.symm)<|Co<|nrm<|C5<|A9<|Ls (v:=vI x3) rfl<|Aiz (m:=x3) (n:=0) rfl rfl<|Co<|nrm ?_;refine Qu (t:=(decide (x3>0))) rfl (fun hc2=> ?_) (fun hc2=> ?_)
  ·replace q2:=ifT hc2 q2;refine A9<|Ls (v:= .slice none 0 0) rfl<|Ls (v:= .slice none 0 0) rfl<|Re rfl Tryz.underlying22<|Ahc rfl Tryz.underlying22 Tryz.sizeOf5 rfl<|Ls (v:=vI x3) rfl ?_;obtain⟨q4,q2⟩:=BY q2;refine Ahd (bytes:=1) (sz:=1) (k:=x3) (ti:=Tryz.t5) S1 rfl rfl q4 Tryz.underlying22 Tryz.underlying3 Tryz.type5 rfl rfl rfl rfl ?_;intro v2 c2 w2 S2;replace S2:St _ ((row 1 v2 c2 x3.toNat)::As) _:=S2;clear S1;refine Ls (v:= .slice none 0 0) rfl<|Wc (n:=0) rfl Tryz.underlying22<|AbX (i:=0) S2 rfl rfl Tryz.underlying22 Tryz.sizeOf5 rfl (j:=0) rfl (Int.le_refl 0) (Ald _) ?_;intro v3 S3;rw[show c2.take ((0:Int).toNat*1)=[]from by simp]at S3;have h2:DU m1 [] ([]:List UInt8):=DU.nil;replace S3:St _ ((row 1 v3 [] ([]:List UInt8).length)::As) _:=S3;clear S2;refine We (v:=v3) rfl<|Co<|nrm ?_;obtain rfl:=Akr q2;exact⟨Afy,m1,_,_,L2,S3,h2,⟨rfl,trivial⟩⟩
  replace q2:=ifF hc2 q2;refine NK<|nrm ?_;have S4:=St.rowNil S1 1;have h3:DU m1 [] ([]:List UInt8):=DU.nil;replace S4:St _ ((row 1 (.slice none 0 0) [] ([]:List UInt8).length)::As) _:=S4;clear S1;obtain rfl:=Akr q2;exact⟨Afy,m1,_,_,L2,S4,h3,⟨rfl,trivial⟩⟩
 rintro f2 w3 ho ⟨m2,v1,c1,l2,S5,h1,ha⟩;obtain⟨u2,rfl⟩:=Agk (N:=27) ho ha;replace L0:=Mem.tr L0 l2;clear S1;refine C5<|A9<|Ls (v:=v1) rfl<|We (v:=v1) rfl<|Co<|nrm<|Xj<|Ai4 ?_;intro we hpd;replace S5:=St.pd S5 hpd;obtain rfl:=Akr hm;exact outR [_] rfl ⟨rfl,trivial⟩ ⟨_,L0,_,_,S5,rfl,h1⟩
theorem J4 {a1 r}(hm:BH a1=some r):Sp prog 291 [.d (.v (.slice none 0 0)),.d (.i a1)] [] 0 (is (.ow 0) [.row 0 1 _ eB r] 1):=
 gnl call291 Br.b (fun S=>JU S hm)
def CG (i1:Int)(x3:List UInt8)(s1:Int):Option (Int):=Ab (bnd ((w64 (s1+(x3.length:Int)))) fun x5=>if(decide (x5<0))=true then none else some x5) fun x4=>some x4
def CF (i2:Int)(x9:List UInt8)(s2:(List UInt8)):Option ((List UInt8)):=Ab (app 1 s2 x9) fun x10=>some x10
def Bb (a0:List (List UInt8)):Option (List UInt8):=Ab (Ab (Et CG a0 0 0) fun x2=>some x2) fun x1=>Ab (BH x1) fun x6=>Ab (Ab (Et CF a0 0 x6) fun x8=>some x8) fun x7=>some x7
theorem Dh {a0 r}(hm:Bb a0=some r):Sp prog 221 [sl (eL eB) a0] [] 0 (is (.ow 0) [.row 0 1 _ eB r] 1):=by
 refine sq ?_;intros;unfold Bb at hm;obtain⟨x1,q1,hm⟩:=Ac hm;refine oB q1 fun _ q2 q1=>Jd 0 (E:=(eL eB)) (xs:=a0) 9 fun hle1=>gF (E0 _ _ _) q2 (fun p0 p=>⟨[(0,sl (eL eB) a0),(3,.d (.i p)),(9,sl (eL eB) a0),(10,.d (.i (a0.length:Int))),(11,.d (.i p0))],[],[],0⟩) fun i1 s1 Jl bl1=>c0 bl1 (fun _ _ q6 q5 bl1=> ?_) fun e=> ?_
 ·refine oB q5 fun _ q7 q5=>gx (eL eB) 1 q6<|bE q7 ?_;intro _ q7;refine gi q7 ?_ ?_<;>intro _ q7
  ·cases q7
  obtain rfl:=Akr q7;exact gM bl1 hle1 q5
 subst e;obtain rfl:=Akr q1;refine gD hm J4 fun _ q9 hm=> ?_;obtain⟨x7,q10,hm⟩:=Ac hm;refine oB q10 fun _ q11 q10=>Jd 2 (E:=(eL eB)) (xs:=a0) 25 fun hle2=>gF (E0 _ _ _) q11 (fun p0 p=>⟨[(6,.ow 0),(25,sl (eL eB) a0),(26,.d (.i (a0.length:Int))),(27,.d (.i p0))],[(0,.row 0 1 _ eB p)],[],1⟩) fun i2 s2 Jl bl2=>c0 bl2 (fun _ _ q15 q14 bl2=> ?_) fun e=> ?_
 ·exact gx (eL eB) 1 q15<|oB q14 fun _ q16 q14=>gp eB 1 q16<|gM bl2 hle2 q14
 subst e;obtain rfl:=Akr q10;exact Akr hm▸gE
def NP (a0:ByteArray)(a1:List (List UInt8)):Option (List UInt8):=Ab (app 1 ([]:List UInt8) a0.data.toList) fun x1=>Ab (Bb a1) fun x2=>Ab (app 1 x1 x2) fun x3=>some x3
theorem Aah {a0 a1 r}(hm:NP a0 a1=some r):Sp prog 195 [.d (.s a0),sl (eL eB) a1] [] 0 (is (.ow 0) [.row 0 1 _ eB r] 1):=by
 refine sq ?_;intros;refine oB hm fun _ q1 hm=>gofS q1<|gD hm Dh fun _ q2 hm=>oB hm fun _ q3 hm=>gp eB 1 q3 ?_;exact Akr hm▸gE
def Kf (a0:Int)(i1:Int)(s1:UInt8×UInt8×UInt8×UInt8×UInt8×UInt8×UInt8×UInt8):Option (UInt8×UInt8×UInt8×UInt8×UInt8×UInt8×UInt8×UInt8):=if(0:Int)≤(w64 (56-(w64 (8*(i1:Int)))))then Ab (idx [s1.1,s1.2.1,s1.2.2.1,s1.2.2.2.1,s1.2.2.2.2.1,s1.2.2.2.2.2.1,s1.2.2.2.2.2.2.1,s1.2.2.2.2.2.2.2] (i1:Int)) fun x4=>bnd (if(i1:Int)=0 then(toB (BE a0 ((w64 (56-(w64 (8*(i1:Int))))).toNat)))else s1.1) fun x5=>bnd (if(i1:Int)=1 then(toB (BE a0 ((w64 (56-(w64 (8*(i1:Int))))).toNat)))else s1.2.1) fun x6=>bnd (if(i1:Int)=2 then(toB (BE a0 ((w64 (56-(w64 (8*(i1:Int))))).toNat)))else s1.2.2.1) fun x7=>bnd (if(i1:Int)=3 then(toB (BE a0 ((w64 (56-(w64 (8*(i1:Int))))).toNat)))else s1.2.2.2.1) fun x8=>bnd (if(i1:Int)=4 then(toB (BE a0 ((w64 (56-(w64 (8*(i1:Int))))).toNat)))else s1.2.2.2.2.1) fun x9=>bnd (if(i1:Int)=5 then(toB (BE a0 ((w64 (56-(w64 (8*(i1:Int))))).toNat)))else s1.2.2.2.2.2.1) fun x10=>bnd (if(i1:Int)=6 then(toB (BE a0 ((w64 (56-(w64 (8*(i1:Int))))).toNat)))else s1.2.2.2.2.2.2.1) fun x11=>bnd (if(i1:Int)=7 then(toB (BE a0 ((w64 (56-(w64 (8*(i1:Int))))).toNat)))else s1.2.2.2.2.2.2.2) fun x12=>some (x5,x6,x7,x8,x9,x10,x11,x12)else none
def G9 (a0:Int):Option (List UInt8):=Ab (Ab (Cg (Kf a0) 8 0 (0,0,0,0,0,0,0,0)) fun x2=>some (x2.1,x2.2.1,x2.2.2.1,x2.2.2.2.1,x2.2.2.2.2.1,x2.2.2.2.2.2.1,x2.2.2.2.2.2.2.1,x2.2.2.2.2.2.2.2)) fun x1=>some ([x1.1,x1.2.1,x1.2.2.1,x1.2.2.2.1,x1.2.2.2.2.1,x1.2.2.2.2.2.1,x1.2.2.2.2.2.2.1,x1.2.2.2.2.2.2.2]:List UInt8)
theorem QD {a0 r}(hm:G9 a0=some r):Sp prog 196 [.d (.i a0)] [] 0 (is (.ow 0) [.row 0 1 _ eB r] 1):=by
 refine sq ?_;intros;unfold G9 at hm;obtain⟨x1,q1,hm⟩:=Ac hm;refine oB q1 fun x2 q2 q1=>gF (EM _ 8 _) q2 (fun p0 (p_0,p_1,p_2,p_3,p_4,p_5,p_6,p_7)=>⟨[(0,.d (.i a0)),(3,.pb 0 0),(5,.d (.i p0))],[(0,.box 0 [.d (.b p_0),.d (.b p_1),.d (.b p_2),.d (.b p_3),.d (.b p_4),.d (.b p_5),.d (.b p_6),.d (.b p_7)] 156)],[],1⟩) fun i1 s1 Jl bl1=>cM bl1 (8:Int) (fun _ q5 bl1=> ?_) fun e=> ?_
 ·unfold Kf at q5;obtain⟨q7,q5⟩:=BY q5;refine gsh (r:= .i (BE a0 ((w64 (56-(w64 (8*(i1:Int))))).toNat))) (fun h=>q7)<|oB q5 fun _ q8 q5=>OF (fun _=>q8)<|bE q5 ?_;intro _ q5;refine bE q5 ?_;intro _ q5;refine bE q5 ?_;intro _ q5;refine bE q5 ?_;intro _ q5;refine bE q5 ?_;intro _ q5;refine bE q5 ?_;intro _ q5;refine bE q5 ?_;intro _ q5;refine bE q5 ?_;intro _ q5;exact Af9 D.b (toB (BE a0 ((w64 (56-(w64 (8*(i1:Int))))).toNat))) q8<|gM bl1 lk q5
 subst e;obtain rfl:=Akr q1;let x1:=(x2.1,x2.2.1,x2.2.2.1,x2.2.2.2.1,x2.2.2.2.2.1,x2.2.2.2.2.2.1,x2.2.2.2.2.2.2.1,x2.2.2.2.2.2.2.2);refine gslA (k:=1) eB ([x1.1,x1.2.1,x1.2.2.1,x1.2.2.2.1,x1.2.2.2.2.1,x1.2.2.2.2.2.1,x1.2.2.2.2.2.2.1,x1.2.2.2.2.2.2.2]:List UInt8) (fun _=>rfl) ?_;exact Akr hm▸gE
def D3 (a0:g_api_Promise):Option (List UInt8):=Ab (G9 a0.Log) fun x1=>Ab (G9 a0.At) fun x2=>Ab (Cm a0.Leaf) fun x3=>Ab (NP (⟨#[112,114,111,109,105,115,101]⟩:ByteArray) ([x1,x2,x3]:List (List UInt8))) fun x4=>some x4
theorem I1 {a0 r}(hm:D3 a0=some r):Sp prog 111 [ag (Ae a0)] [] 0 (is (.ow 0) [.row 0 1 _ eB r] 1):=by
 refine sq ?_;intros;refine gD hm QD fun x1 q1 hm=>gD hm QD fun x2 q2 hm=>gD hm EP fun x3 q3 hm=>WL (k:=1) (eL eB) ([x1,x2,x3]:List (List UInt8)) (fun _=>rfl)<|gD hm Aah fun _ q4 hm=> ?_;exact Akr hm▸gE
def A8 (a0:List g_api_Leaf)(i1:Int)(s1:(List UInt8)):Option (((List UInt8))⊕(Int×(List UInt8))):=Ab (idx a0 (i1:Int)) fun x3=>Ab (Nt x3 s1) fun x4=>if x4.1=true then some (.inr ((i1:Int),x4.2))else some (.inl x4.2)
def Bj (a0:List g_api_Leaf)(k0:List UInt8):Option (Int×(List UInt8)):=Ab (Es (A8 a0) a0.length 0 k0) fun x1=>match x1 with| .inr r=>some r| .inl y1=>some ((-1),y1)
theorem FD {a0 k0 r}(hm:Bj a0 k0=some r):Sp prog 106 [sl Ay a0,.fn (.func 107) [] [.pb 0 0]] [.box 0 [sl eB k0] 22] 1 (is (.d (.i r.1)) [.box 0 [.d (.sl _ eB r.2)] 22] 1):=by
 refine sq ?_;intros;refine oB hm fun _ q1 hm=>Jd 0 (E:=Ay) (xs:=a0) 6 fun hle1=>gF (EN _ _ _) q1 (fun p0 p=>⟨[(0,sl Ay a0),(1,.fn (.func 107) [] [.pb 0 0]),(7,.d (.i (a0.length:Int))),(8,.d (.i p0))],[(0,.box 0 [sl eB p] 22)],[],1⟩) fun i1 s1 Jl bl1=>cN bl1 (a0.length:Int) (fun _ q4 bl1=> ?_) fun e=> ?_
 ·refine oB q4 fun _ q6 q4=>gx Ay 2 q6<|gD q4 VM fun _ q7 q4=>gi q4 ?_ ?_<;>intro _ q4
  ·obtain rfl:=nT bl1 q4;exact Akr hm▸gE
  exact gT bl1 hle1 q4
 subst e;let y1:=s1;exact Akr hm▸gE
def EH (a0:Aj)(a1:List UInt8)(a2:Int):Option (Aj×g_api_Promise×Int):=Ab (Ha a0) fun x1=>if(x1 !=0)=true then some ((⟨0,0,0,[],[],[]⟩:Aj),(⟨0,0,(0,0),(⟨0,0⟩:g_api_Sig)⟩:g_api_Promise),x1)else Ab (HJ a1) fun x2=>Ab (gu (!(!x2)) (E7 a2)) fun x3=>if((!x2)||(!x3))=true then some ((⟨0,0,0,[],[],[]⟩:Aj),(⟨0,0,(0,0),(⟨0,0⟩:g_api_Sig)⟩:g_api_Promise),1)else Ab (LA a0) fun x4=>Ab (Bj x4 a1) fun x5=>if(decide (x5.1≥0))=true then Ab (idx x4 x5.1) fun x6=>Ab (Dk x5.2) fun x7=>Ab (D3 (⟨a0.Id,x6.At,x7,(⟨0,0⟩:g_api_Sig)⟩:g_api_Promise)) fun x8=>Ab (Il a0.Key x8) fun x9=>some (a0,(⟨a0.Id,x6.At,x7,x9.1⟩:g_api_Promise),x9.2)else if((x4.length:Int)==256)=true then some ((⟨0,0,0,[],[],[]⟩:Aj),(⟨0,0,(0,0),(⟨0,0⟩:g_api_Sig)⟩:g_api_Promise),2)else Ab (B8 a0.Wait) fun x10=>Ab (Ec x5.2) fun x11=>Ab (app 32 x10 ([(⟨x11,a2⟩:g_api_Leaf)]:List g_api_Leaf)) fun x12=>Ab (Dk x5.2) fun x13=>Ab (D3 (⟨a0.Id,a2,x13,(⟨0,0⟩:g_api_Sig)⟩:g_api_Promise)) fun x14=>Ab (Il a0.Key x14) fun x15=>some ((⟨a0.Id,a0.Key,a0.Delay,a0.L,a0.Hide,x12⟩:Aj),(⟨a0.Id,a2,x13,x15.1⟩:g_api_Promise),x15.2)
theorem Aaj {a0 a1 a2 r}(hm:EH a0 a1 a2=some r):Sf prog 37 [ag (AJ a0),sl eB a1,.d (.i a2)] (.tup [ag (AJ r.1),ag (Ae r.2.1),.d (.i r.2.2)]):=by
 refine sq ?_;intros;refine gA hm MW fun _ q1 hm=>gi hm ?_ ?_<;>intro _ hm
 ·exact Akr hm▸gE
 refine gA hm OW fun _ q2 hm=>oB hm fun _ q3 hm=>gcH q3 Hp<|gi hm ?_ ?_<;>intro _ hm
 ·exact Akr hm▸gE
 refine gD hm Tn fun _ q4 hm=>gD hm FD fun _ q5 hm=>gi hm ?_ ?_<;>intro _ hm
 ·refine oB hm fun _ q6 hm=>gx Ay 2 q6<|gA hm Jk fun _ q7 hm=>gD hm I1 fun _ q8 hm=>gD hm Ol fun _ q9 hm=> ?_;exact Akr hm▸gE
 refine gi hm ?_ ?_<;>intro _ hm
 ·exact Akr hm▸gE
 refine gD hm H3 fun _ q10 hm=>gD hm LQ fun x11 q11 hm=>WL (k:=2) Ay ([(⟨x11,a2⟩:g_api_Leaf)]:List g_api_Leaf) (fun _=>rfl)<|oB hm fun _ q12 hm=>gp Ay 2 q12<|gA hm Jk fun _ q13 hm=>gD hm I1 fun _ q14 hm=>gD hm Ol fun _ q15 hm=> ?_;exact Akr hm▸gE
def FM (a0:Int)(a1:Aj)(k0:List (Int×Bool))(k1:List UInt8)(k2:Int)(k3:List Aj):Option (g_api_Promise×Bool×(List (Int×Bool))×(List UInt8)×Int×(List Aj)):=if((lkG (eqI a1.Id) k0).getD false)=true then some ((⟨0,0,(0,0),(⟨0,0⟩:g_api_Sig)⟩:g_api_Promise),false,k0,k1,k2,k3)else Ab (EH a1 k1 k2) fun x1=>Ab (if(x1.2.2==0)=true then Ab (idx k3 a0) fun x3=>bnd (k3.set a0.toNat x1.1) fun x4=>some ((upG (eqI a1.Id) (a1.Id,true) k0),x4)else some (k0,k3)) fun x2=>some (x1.2.1,(x1.2.2==0),x2.1,k1,k2,x2.2)
theorem OY {a0 a1 k0 k1 k2 k3 r}(hm:FM a0 a1 k0 k1 k2 k3=some r):Sp prog 36 [.d (.i a0),ag (AJ a1),.pb 0 0,.pb 2 0,.pb 3 0,.pb 4 0] [.box 0 [.ow 1] 106,.hp 1 (.mg _ _ eI D.t k0),.box 2 [sl eB k1] 22,.box 3 [.d (.i k2)] 3,.box 4 [.ow 5] 33,.row 5 6 _ AJ k3] 6 (is (.tup [ag (Ae r.1),.d (.t r.2.1)]) [.box 0 [.ow 1] 106,.hp 1 (.mg _ _ eI D.t r.2.2.1),.box 2 [.d (.sl _ eB r.2.2.2.1)] 22,.box 3 [.d (.i r.2.2.2.2.1)] 3,.box 4 [.ow 6] 33,.row 6 6 _ AJ r.2.2.2.2.2] 7):=by
 refine sq fun D0 As η0 m0 hd=>glkg (K:=eI) (c:=D.t) k0 a1.Id (eqI a1.Id) false 3 4 false (by kernel_rfl) (by kernel_rfl) (by kernel_rfl) (by kernel_rfl)<|gi hm ?_ ?_<;>intro _ hm
 ·exact Akr hm▸gE
 refine gA hm Aaj fun x1 q1 hm=>oB hm fun x2 q2 hm=>gj (fun(_:Unit)=>let (y_0,y_1):=x2; ⟨[(8,.pb 7 0),(11,.pb 9 0),(12,.d (.i x1.2.2)),(10,.pb 8 0),(7,.pb 6 0)],[(0,.box 9 [.d (.i x1.2.1.Log),.d (.i x1.2.1.At),.d (.u x1.2.1.Leaf.1),.d (.u x1.2.1.Leaf.2),.d (.u x1.2.1.Sig.E),.d (.u x1.2.1.Sig.S)] 110),(1,.box 8 [.d (.i x1.1.Id),.d (.u x1.1.Key),.d (.i x1.1.Delay),sl Ay x1.1.L,sl eI x1.1.Hide,sl Ay x1.1.Wait] 97),(2,.box 7 [.d (.i 0),.d (.i 0),.d (.u 0),.d (.u 0),.d (.u 0),.d (.u 0)] 110),(3,.box 6 [.d (.i a1.Id),.d (.u a1.Key),.d (.i a1.Delay),sl Ay a1.L,sl eI a1.Hide,sl Ay a1.Wait] 97),(4,.box 0 [.ow 1] 106),(5,.hp 1 (.mg _ _ eI D.t y_0)),(6,.box 2 [sl eB k1] 22),(7,.box 3 [.d (.i k2)] 3),(8,.box 4 [.ow 5] 33),(9,.row 5 6 _ AJ y_1)],[],10⟩) (fun _=>True) (fun Jp bk1=> ?_) fun _ _=> ?_
 ·refine gi q2 ?_ ?_<;>intro _ q2
  ·refine oB q2 fun _ q3 q2=>G2 (E:=AJ) (fun _=>q3)<|bE q2 ?_;intro _ q2;refine Abc (k:=6) (E:=AJ) x1.1 (fun _=>rfl) q3<|gupg (K:=eI) (c:=D.t) k0 a1.Id true (eqI a1.Id) 3 inj_i (by kernel_rfl) (by kernel_rfl) (by kernel_rfl) (by kernel_rfl) ?_;obtain rfl:=Akr q2;exact gb bk1 hd () trivial
  obtain rfl:=Akr q2;exact gb bk1 hd () trivial
 exact Akr hm▸gE
def KT (a0:g_api_Promise)(a1:g_api_Promise):Option Int:=some (w64 (a0.Log-a1.Log))
theorem OX {a0 a1 r}(hm:KT a0 a1=some r):Sf prog 39 [ag (Ae a0),ag (Ae a1)] (.d (.i r)):=by
 refine sq ?_;intros;exact Akr hm▸gE
def BX (a0:List Aj)(a1:Int)(s1:(List Int)×(List g_api_Promise)×Int×(List (Int×Bool))×(List UInt8)×Int×(List Aj)):Option (((List Int)×(List g_api_Promise)×Int×(List (Int×Bool))×(List UInt8)×Int×(List Aj))⊕((List Int)×(List g_api_Promise)×(List (Int×Bool))×(List UInt8)×Int×(List Aj))):=if(decide (s1.2.2.1<(a0.length:Int)))=true then Ab (idx a0 s1.2.2.1) fun x4=>if((s1.1.length:Int)==a1)=true then some (.inr (s1.1,s1.2.1,s1.2.2.2.1,s1.2.2.2.2.1,s1.2.2.2.2.2.1,s1.2.2.2.2.2.2))else Ab (FM s1.2.2.1 x4 s1.2.2.2.1 s1.2.2.2.2.1 s1.2.2.2.2.2.1 s1.2.2.2.2.2.2) fun x5=>if(!x5.2.1)=true then some (.inl (s1.1,s1.2.1,(w64 (s1.2.2.1+1)),x5.2.2.1,x5.2.2.2.1,x5.2.2.2.2.1,x5.2.2.2.2.2))else Ab (app 8 s1.1 ([s1.2.2.1]:List Int)) fun x6=>Ab (app 48 s1.2.1 ([x5.1]:List g_api_Promise)) fun x7=>some (.inl (x6,x7,(w64 (s1.2.2.1+1)),x5.2.2.1,x5.2.2.2.1,x5.2.2.2.2.1,x5.2.2.2.2.2))else some (.inr (s1.1,s1.2.1,s1.2.2.2.1,s1.2.2.2.2.1,s1.2.2.2.2.2.1,s1.2.2.2.2.2.2))
def A1 (a0:List Aj)(a1:Int)(k0:List (Int×Bool))(k1:List UInt8)(k2:Int)(k3:List Aj):Option ((List Int)×(List g_api_Promise)×Bool×(List (Int×Bool))×(List UInt8)×Int×(List Aj)):=Ab (Ab (iter (BX a0 a1) EV (([]:List Int),([]:List g_api_Promise),0,k0,k1,k2,k3)) fun x2=>some (x2.1,x2.2.1,x2.2.2.1,x2.2.2.2.1,x2.2.2.2.2.1,x2.2.2.2.2.2)) fun x1=>some (x1.1,x1.2.1,((x1.1.length:Int)==a1),x1.2.2.1,x1.2.2.2.1,x1.2.2.2.2.1,x1.2.2.2.2.2)
theorem FX {a0 a1 k0 k1 k2 k3 r}(hm:A1 a0 a1 k0 k1 k2 k3=some r):Sp prog 35 [sl AJ a0,.d (.i a1),.fn (.func 36) [] [.pb 0 0,.pb 2 0,.pb 3 0,.pb 4 0]] [.box 0 [.ow 1] 106,.hp 1 (.mg _ _ eI D.t k0),.box 2 [sl eB k1] 22,.box 3 [.d (.i k2)] 3,.box 4 [.ow 5] 33,.row 5 6 _ AJ k3] 6 (is (.tup [.ow 6,.ow 7,.d (.t r.2.2.1)]) [.box 0 [.ow 1] 106,.hp 1 (.mg _ _ eI D.t r.2.2.2.1),.box 2 [.d (.sl _ eB r.2.2.2.2.1)] 22,.box 3 [.d (.i r.2.2.2.2.2.1)] 3,.box 4 [.ow 8] 33,.row 8 6 _ AJ r.2.2.2.2.2.2,.row 6 1 _ eI r.1,.row 7 6 _ Ae r.2.1] 9):=by
 refine sq fun D0 As η0 m0 hd=> ?_;unfold A1 at hm;obtain⟨x1,q1,hm⟩:=Ac hm;refine oB q1 fun x2 q2 q1=>Sj 0 eI 6 1<|Sj 0 Ae 7 6<|gjU 0 (fun(_:Unit)=>let (y_0,y_1,y_2,y_3,y_4,y_5):=x2; ⟨[(1,.d (.i a1)),(6,.ow 8),(7,.ow 7)],[(0,.row 8 1 _ eI y_0),(1,.row 7 6 _ Ae y_1),(2,.row 6 6 _ AJ y_5),(3,.box 0 [.ow 1] 106),(4,.hp 1 (.mg _ _ eI D.t y_2)),(5,.box 2 [sl eB y_3] 22),(6,.box 3 [.d (.i y_4)] 3),(7,.box 4 [.ow 6] 33)],[],9⟩) (fun _=>True) (fun Jp bk2=> ?_) fun _ _=> ?_
 ·refine gI q2 (fun(p_0,p_1,p_2,p_3,p_4,p_5,p_6)=>⟨[(1,.d (.i a1)),(2,.fn (.func 36) [] [.pb 0 0,.pb 2 0,.pb 3 0,.pb 4 0]),(6,.ow 8),(7,.ow 7),(13,sl AJ a0),(14,.d (.i (a0.length:Int))),(15,.d (.i p_2))],[(0,.row 8 1 _ eI p_0),(1,.row 7 6 _ Ae p_1),(2,.row 6 6 _ AJ p_6),(3,.box 0 [.ow 1] 106),(4,.hp 1 (.mg _ _ eI D.t p_3)),(5,.box 2 [sl eB p_4] 22),(6,.box 3 [.d (.i p_5)] 3),(7,.box 4 [.ow 6] 33)],[],9⟩) fun s1 _ Jl q5 bl1=>gi q5 ?_ ?_<;>intro _ q5
  ·refine oB q5 fun _ q7 q5=>gx AJ 6 q7<|gi q5 ?_ ?_<;>intro _ q5
   ·obtain rfl:=nR bl1 q5;exact gb bk2 hd () trivial
   refine gD q5 OY fun x5 q8 q5=>gi q5 ?_ ?_<;>intro _ q5
   ·exact gN bl1 q5
   exact gq eI 1 [s1.2.2.1]<|oB q5 fun _ q9 q5=>gp eI 1 q9<|gq Ae 6 [x5.1]<|oB q5 fun _ q10 q5=>gp Ae 6 q10<|gN bl1 q5
  obtain rfl:=nR bl1 q5;exact gb bk2 hd () trivial
 obtain rfl:=Akr q1;exact Akr hm▸gE
def AQ (a1:Int)(s2:Int×(List g_api_Promise)):Option ((Int×(List g_api_Promise))⊕((List g_api_Promise))):=Ab (gu (decide (s2.1>a1)) (idx s2.2 s2.1)) fun x6=>Ab (gu (decide (s2.1>a1)) (idx s2.2 (w64 (s2.1-1)))) fun x7=>Ab (gu (decide (s2.1>a1)) (KT x6 x7)) fun x8=>if((decide (s2.1>a1))&&(decide (x8<0)))=true then Ab (idx s2.2 (w64 (s2.1-1))) fun x9=>Ab (idx s2.2 s2.1) fun x10=>Ab (idx s2.2 s2.1) fun x11=>bnd (s2.2.set s2.1.toNat x9) fun x12=>Ab (idx x12 (w64 (s2.1-1))) fun x13=>bnd (x12.set (w64 (s2.1-1)).toNat x10) fun x14=>some (.inl ((w64 (s2.1-1)),x14))else some (.inr s2.2)
def AA (a1:Int)(a2:Int)(s1:Int×(List g_api_Promise)):Option ((Int×(List g_api_Promise))⊕((List g_api_Promise))):=if(decide (s1.1<a2))=true then Ab (Ab (iter (AQ a1) EV (s1.1,s1.2)) fun x4=>some x4) fun x3=>some (.inl ((w64 (s1.1+1)),x3))else some (.inr s1.2)
def AI (a0:List g_api_Promise)(a1:Int)(a2:Int):Option (List g_api_Promise):=Ab (iter (AA a1 a2) EV ((w64 (a1+1)),a0)) fun x1=>some x1
theorem Ex {a0 a1 a2 r}(hm:AI a0 a1 a2=some r):Sp prog 197 [.ow 0,.d (.i a1),.d (.i a2),.fn (.func 39) [] []] [.row 0 6 _ Ae a0] 1 (is (.tup []) [.row 0 6 _ Ae r] 1):=by
 refine sq ?_;intros;refine oB hm fun _ q1 hm=>gI q1 (fun(p_0,p_1)=>⟨[(0,.ow 0),(1,.d (.i a1)),(2,.d (.i a2)),(3,.fn (.func 39) [] []),(8,.d (.i p_0))],[(0,.row 0 6 _ Ae p_1)],[],1⟩) fun s1 _ Jl q4 bl1=>gi q4 ?_ ?_<;>intro _ q4
 ·obtain⟨x3,q6,q4⟩:=Ac q4;refine oB q6 fun x4 q7 q6=>gI q7 (fun(p_0,p_1)=>⟨[(0,.ow 0),(1,.d (.i a1)),(2,.d (.i a2)),(3,.fn (.func 39) [] []),(8,.d (.i s1.1)),(9,.d (.i p_0))],[(0,.row 0 6 _ Ae p_1)],[],1⟩) fun s2 _ Jl q10 bl2=>oB q10 fun _ q12 q10=>AhJ (E:=Ae) (fun h=>Af7 h q12)<|gldOG (k:=6) (fo:=0) (nn:=6) (ag:=true) (E:=Ae) (fun _=>rfl) (fun h=>Af7 h q12)<|oB q10 fun _ q13 q10=>AhJ (E:=Ae) (fun h=>Af7 h q13)<|gldOG (k:=6) (fo:=0) (nn:=6) (ag:=true) (E:=Ae) (fun _=>rfl) (fun h=>Af7 h q13)<|oB q10 fun _ q14 q10=>gcH q14 OX<|gi q10 ?_ ?_<;>intro _ q10
  ·refine oB q10 fun x9 q15 q10=>G2 (E:=Ae) (fun _=>q15)<|Yg (k:=6) (fo:=0) (nn:=6) (ag:=true) (E:=Ae) (fun _=>rfl) (fun _=>q15)<|oB q10 fun x10 q16 q10=>G2 (E:=Ae) (fun _=>q16)<|Yg (k:=6) (fo:=0) (nn:=6) (ag:=true) (E:=Ae) (fun _=>rfl) (fun _=>q16)<|oB q10 fun _ q17 q10=>G2 (E:=Ae) (fun _=>q17)<|bE q10 ?_;intro _ q10;refine Abc (k:=6) (E:=Ae) x9 (fun _=>rfl) q17<|oB q10 fun _ q19 q10=>G2 (E:=Ae) (fun _=>q19)<|bE q10 ?_;intro _ q10;exact Abc (k:=6) (E:=Ae) x10 (fun _=>rfl) q19<|gN bl2 q10
  obtain rfl:=nR bl2 q10;let x4:=s2.2;obtain rfl:=Akr q6;exact gN bl1 q4
 obtain rfl:=nR bl1 q4;exact Akr hm▸gE
def Be (a0:List g_api_Promise)(s1:Int×Int×Int×Bool×Bool):Option ((Int×Int×Int×Bool×Bool)⊕((Unit)⊕(List g_api_Promise))):=if(decide ((w64 (s1.2.1-s1.1))≤12))=true then Ab (AI a0 s1.1 s1.2.1) fun x3=>some (.inr (.inr x3))else if(s1.2.2.1==0)=true then none else none
def Cd (a0:List g_api_Promise)(a1:Int)(a2:Int)(a3:Int):Option (List g_api_Promise):=Ab (iter (Be a0) EV (a1,a2,a3,true,true)) fun x1=>match x1 with| .inr r=>some r| .inl y1=>none
theorem FU {a0 a1 a2 a3 r}(hm:Cd a0 a1 a2 a3=some r):Sp prog 112 [.ow 0,.d (.i a1),.d (.i a2),.d (.i a3),.fn (.func 39) [] []] [.row 0 6 _ Ae a0] 1 (is (.tup []) [.row 0 6 _ Ae r] 1):=by
 refine sq ?_;intros;refine oB hm fun _ q1 hm=>gI q1 (fun(p_0,p_1,p_2,p_3,p_4)=>⟨[(0,.ow 0),(1,.d (.i p_0)),(2,.d (.i p_1)),(3,.d (.i p_2)),(4,.fn (.func 39) [] []),(10,.d (.t p_3)),(11,.d (.t p_4))],[(0,.row 0 6 _ Ae a0)],[],1⟩) fun s1 _ Jl q4 bl1=>gi q4 ?_ ?_<;>intro _ q4
 ·refine gD q4 Ex fun _ q6 q4=> ?_;obtain rfl:=nR bl1 q4;exact Akr hm▸gE
 refine gi q4 ?_ ?_<;>intro _ q4
 ·cases q4
 cases q4
def A4 (a0:List g_api_Promise):Option (List g_api_Promise):=Ab (LG (toU (a0.length:Int))) fun x1=>Ab (Cd a0 0 (a0.length:Int) x1) fun x2=>some x2
theorem Ey {a0 r}(hm:A4 a0=some r):Sp prog 38 [.ow 0,.fn (.func 39) [] []] [.row 0 6 _ Ae a0] 1 (is (.tup []) [.row 0 6 _ Ae r] 1):=by
 refine sq ?_;intros;refine gA hm P2 fun _ q1 hm=>gD hm FU fun _ q2 hm=> ?_;exact Akr hm▸gE
def Fl (a0:List Aj)(a1:Ag)(a2:Int):Option ((List Aj)×Ag×Int):=Ab (JO a1) fun x1=>if(x1.2 !=0)=true then some (([]:List Aj),(⟨0,ByteArray.empty,ByteArray.empty,0,[],0,0,false,0,[],[],(⟨0,0⟩:g_api_Sig)⟩:Ag),x1.2)else Ab (BN a0) fun x2=>Ab (A1 a0 2 ([]:List (Int×Bool)) x1.1 a2 x2) fun x3=>if(!x3.2.2.1)=true then some (([]:List Aj),(⟨0,ByteArray.empty,ByteArray.empty,0,[],0,0,false,0,[],[],(⟨0,0⟩:g_api_Sig)⟩:Ag),251)else Ab (A4 x3.2.1) fun x4=>Ab (Eb (⟨a1.Serial,a1.Issuer,a1.Subject,a1.Key,a1.Names,a1.From,a1.Until,a1.Ca,a1.Depth,a1.Permit,x4,a1.Sig⟩:Ag)) fun x5=>if(x5 !=0)=true then some (([]:List Aj),(⟨0,ByteArray.empty,ByteArray.empty,0,[],0,0,false,0,[],[],(⟨0,0⟩:g_api_Sig)⟩:Ag),x5)else some (x3.2.2.2.2.2.2,(⟨a1.Serial,a1.Issuer,a1.Subject,a1.Key,a1.Names,a1.From,a1.Until,a1.Ca,a1.Depth,a1.Permit,x4,a1.Sig⟩:Ag),x5)
theorem Mx {a0 a1 a2 r}(hm:Fl a0 a1 a2=some r):Sp prog 8 [sl AJ a0,ag (B1 a1),.d (.i a2)] [] 0 (is (.tup [.ow 0,ag (B1 r.2.1),.d (.i r.2.2)]) [.row 0 6 _ AJ r.1] 1):=by
 refine sq ?_;intros;refine gA hm AaR fun _ q1 hm=>gi hm ?_ ?_<;>intro _ hm
 ·refine OE AJ 6 6 ?_;exact Akr hm▸gE
 refine gD hm IG fun _ q2 hm=>gmkg Int Bool eI D.t<|gD hm FX fun _ q3 hm=>gi hm ?_ ?_<;>intro _ hm
 ·refine OE AJ 6 6 ?_;exact Akr hm▸gE
 refine gD hm Ey fun _ q4 hm=>gD hm IK fun _ q5 hm=>gi hm ?_ ?_<;>intro _ hm
 ·refine OE AJ 6 6 ?_;exact Akr hm▸gE
 exact Akr hm▸gE
def F5 (a0:Int)(a1:Int)(a2:Int):Option Bool:=bnd (((decide (a1≤a0))&&(decide (a0≤a2)))) fun x1=>some x1
theorem Ho {a0 a1 a2 r}(hm:F5 a0 a1 a2=some r):Sf prog 318 [.d (.i a0),.d (.i a1),.d (.i a2)] (.d (.t r)):=by
 refine sq ?_;intros;refine bE hm ?_;intro _ hm;exact Akr hm▸gE
def Q7 (a0:g_api_Rule)(i1:Int)(s1:Unit):Option ((Unit)⊕Bool):=Ab (idx a0.Pats (i1:Int)) fun x3=>Ab (CQ x3) fun x4=>Ab (gu (!(x4 !=0)) (cut a0.Pats 0 (i1:Int))) fun x5=>Ab (gu (!(x4 !=0)) (Da x5 x3)) fun x6=>if((x4 !=0)||x6)=true then some (.inr false)else some (.inl ())
def Pm (a0:g_api_Rule):Option Bool:=Ab (Es (Q7 a0) a0.Pats.length 0 ()) fun x1=>match x1 with| .inr r=>some r| .inl y1=>Ab (gu (decide ((a0.KeyMin.toNat:Int)≤2305843009213691579)) (F5 a0.LifeMax 1 1000)) fun x7=>Ab (gu ((decide ((a0.KeyMin.toNat:Int)≤2305843009213691579))&&x7) (F5 a0.Most 0 1000)) fun x8=>bnd ((((decide ((a0.KeyMin.toNat:Int)≤2305843009213691579))&&x7)&&x8)) fun x9=>Ab (if(decide (a0.Most>0))=true then Ab (gu x9 (F5 a0.Window 1 1099511627776)) fun x11=>some (x9&&x11)else some (x9&&(a0.Window==0))) fun x10=>Ab (if(!a0.Allow)=true then bnd ((((((a0.KeyMin.toNat:Int)==0)&&(a0.LifeMax==0))&&(a0.Most==0))&&(a0.Window==0))) fun x13=>some x13 else some x10) fun x12=>Ab (Np a0.Name) fun x14=>Ab (gu x14 (F5 (a0.Pats.length:Int) 1 8)) fun x15=>some ((x14&&x15)&&x12)
theorem Uc {a0 r}(hm:Pm a0=some r):Sf prog 262 [ag (Ah a0)] (.d (.t r)):=by
 refine sq fun D0 As η0 m0 hd=>oB hm fun _ q1 hm=>Jd 0 (E:=eS) (xs:=a0.Pats) 8 fun hle1=>gF (EN _ _ _) q1 (fun p0 _=>⟨[(1,.pb 0 0),(8,sl eS a0.Pats),(9,.d (.i (a0.Pats.length:Int))),(10,.d (.i p0))],[(0,.box 0 [.d (.s a0.Name),.d (.t a0.Allow),sl eS a0.Pats,.d (.u a0.KeyMin),.d (.i a0.LifeMax),.d (.i a0.Most),.d (.i a0.Window)] 85)],[],1⟩) fun i1 s1 Jl bl1=>cN bl1 (a0.Pats.length:Int) (fun _ q4 bl1=> ?_) fun e=> ?_
 ·refine oB q4 fun _ q6 q4=>gx eS 1 q6<|gA q4 JW fun _ q7 q4=>oB q4 fun _ q8 q4=>gcutG (k:=1) (E:=eS) (fun _=>rfl) (fun h=>Af7 h q8)<|oB q4 fun _ q9 q4=>gcH q9 Ez<|gi q4 ?_ ?_<;>intro _ q4
  ·obtain rfl:=nT bl1 q4;exact Akr hm▸gE
  exact gT bl1 hle1 q4
 subst e;refine oB hm fun _ q10 hm=>gcH q10 Ho<|oB hm fun _ q11 hm=>gcH q11 Ho<|bE hm ?_;intro _ hm;refine oB hm fun x10 q13 hm=>gj (fun(_:Unit)=>⟨[(1,.pb 0 0),(5,.fn (.func 318) [] []),(6,.d (.t x10))],[(0,.box 0 [.d (.s a0.Name),.d (.t a0.Allow),sl eS a0.Pats,.d (.u a0.KeyMin),.d (.i a0.LifeMax),.d (.i a0.Most),.d (.i a0.Window)] 85)],[],1⟩) (fun _=>True) (fun Jp bk2=> ?_) fun _ _=> ?_
 ·refine gi q13 ?_ ?_<;>intro _ q13
  ·refine oB q13 fun _ q14 q13=>gcH q14 Ho ?_;obtain rfl:=Akr q13;exact gb bk2 hd () trivial
  obtain rfl:=Akr q13;exact gb bk2 hd () trivial
 refine oB hm fun x12 q15 hm=>gj (fun(_:Unit)=>⟨[(1,.pb 0 0),(5,.fn (.func 318) [] []),(6,.d (.t x12))],[(0,.box 0 [.d (.s a0.Name),.d (.t a0.Allow),sl eS a0.Pats,.d (.u a0.KeyMin),.d (.i a0.LifeMax),.d (.i a0.Most),.d (.i a0.Window)] 85)],[],1⟩) (fun _=>True) (fun Jp bk3=> ?_) fun _ _=> ?_
 ·refine gi q15 ?_ ?_<;>intro _ q15
  ·refine bE q15 ?_;intro _ q15;obtain rfl:=Akr q15;exact gb bk3 hd () trivial
  obtain rfl:=Akr q15;exact gb bk3 hd () trivial
 refine gA hm Qz fun _ q17 hm=>oB hm fun _ q18 hm=>gcH q18 Ho ?_;exact Akr hm▸gE
def Sa (i1:Int)(x2:g_api_Rule)(s1:(List (ByteArray×Bool))):Option (((List (ByteArray×Bool)))⊕Int):=Ab (Pm x2) fun x3=>if((!x3)||(lkB s1 x2.Name))=true then some (.inr 1)else if(lkI s1 x2.Name 0).isNone=true then some (.inl (s1++[(x2.Name,true)]))else none
def QM (a0:List g_api_Rule):Option Int:=Ab (D1 Sa a0 0 ([]:List (ByteArray×Bool))) fun x1=>match x1 with| .inr r=>some r| .inl y1=>if(decide ((a0.length:Int)>32))=true then some 2 else some 0
theorem VJ {a0 r}(hm:QM a0=some r):Sf prog 174 [sl Ah a0] (.d (.i r)):=by
 refine sq ?_;intros;refine gmkm<|oB hm fun _ q1 hm=>Jd 0 (E:=Ah) (xs:=a0) 7 fun hle1=>gF (ER _ _ _) q1 (fun p0 p=>⟨[(0,sl Ah a0),(3,.ow 0),(7,sl Ah a0),(8,.d (.i (a0.length:Int))),(9,.d (.i p0)),(6,.ow 0)],[(0,.hp 0 (.mp p))],[],1⟩) fun i1 s1 Jl bl1=>cR bl1 (fun x2 _ q5 q4 bl1=> ?_) fun e=> ?_
 ·refine gx Ah 7 q5<|gA q4 Uc fun _ q6 q4=>glk s1 x2.Name<|gi q4 ?_ ?_<;>intro _ q4
  ·obtain rfl:=nT bl1 q4;exact Akr hm▸gE
  obtain⟨q7,q4⟩:=BY q4;exact gup q7<|gT bl1 hle1 q4
 subst e;let y1:=s1;refine gi hm ?_ ?_<;>intro _ hm
 ·exact Akr hm▸gE
 exact Akr hm▸gE
def ML:g_api_Rule:=⟨(⟨#[97,108,108]⟩:ByteArray),true,([(⟨#[42,46,97]⟩:ByteArray)]:List ByteArray),0,1000,0,0⟩
def WE:List g_api_Rule→Bool
 | [⟨a,b,c,d,e,f,g⟩]=>decide ((a,b,c,d,e,f,g)=(ML.1,ML.2,ML.3,ML.4,ML.5,ML.6,ML.7))
 |_=>false
theorem WD: ∀{l},WE l=true→l=[ML]
 | [⟨a,b,c,d,e,f,g⟩],h=>by have h:=of_decide_eq_true h; cases h; rfl
def eP (p:Int×Int):List D:=[.i p.1,.i p.2]
theorem TD {α:Type}{E:α→List D}{m:Mem}(k:Nat)(h: ∀x,(E x).length=k:=by intro x; rfl):FR m (.sl α E []) (.slice none 0 0):= .sl (sz:=k) (cs:=[]) ⟨by simp,by simp,.inl ⟨rfl,none,0,rfl⟩⟩ (fun x _=>h x) rfl FRL.nil.2
theorem AbL {P:Program}{k:FuncId}{a1 a2:List AV}{r:AV}(s:Sf P k a1 r)(h: ∀{η m vs},BP η m a2 vs→BP η m a1 vs):Sf P k a2 r:=⟨s.1,fun η m As w vs hv=>s.2 η m As w vs (h hv)⟩
theorem w_ins0:Sf prog 348 [sl eP [],.d (.i 0),.d (.i 0),.fn (.func 264) [] []] (.tup []):=by
 refine sq ?_;intros;refine AjC<|gi' (b:=false) (fun h=>by cases h) fun _=>gE
theorem w_pdq0:Sf prog 319 [sl eP [],.d (.i 0),.d (.i 0),.d (.i 0),.fn (.func 264) [] []] (.tup []):=by
 refine sq ?_;intros;refine AjC<|gi' (b:=true) (fun _=>gc (fun _=>w_ins0) gE) fun h=>by cases h
theorem Aig:Sf prog 263 [.d (.v (.slice none 0 0)),.fn (.func 264) [] []] (.tup []):=by
 refine AbL (a1:=[sl eP [],.fn (.func 264) [] []]) ?_ fun hv=> ?_
 ·refine sq ?_;intros;refine gc (r:= .d (.i 0)) (fun _=>P2 (a0:=0) (by kernel_rfl))<|gc (fun _=>w_pdq0) gE
 ·obtain⟨v,us,rfl,q,h2⟩:=hv.cons_inv;cases q with
  |d q=>
   cases q;exact .cons (.d (TD 2)) h2
theorem AeN:Sf prog 175 [sl Ah [ML]] (sl eP []):=
 sp call175 func175 rfl ntmps175 rfl fun D0 As η0 m0 hd=>by
  refine gmkg ByteArray Unit eS (fun _=> .v (.slice none 0 0)) ?_;refine gmkg (Int×Int) Bool (fun p=> [.i p.1,.i p.2]) D.t ?_;refine AjC ?_;refine gi' (b:=true) (fun _=> ?_) (fun h=>by cases h);refine gx (xs:=[ML]) (j:=0) (x:=ML) Ah 7 rfl ?_;refine AjC ?_;refine gi' (b:=true) (fun _=> ?_) (fun h=>by cases h);refine gx (xs:=ML.Pats) (j:=0) (x:=⟨#[42,46,97]⟩) eS 1 rfl ?_;refine glk0 (sl eI []) (.d (TD 1)) ?_;refine AjC ?_;refine gi' (b:=false) (fun h=>by cases h) (fun _=> ?_);refine glk0 (.d (.v (.slice none 0 0))) (.d (.v _ rfl)) ?_;refine gq eI 1 [0] ?_;refine gp (b:=8) eI 1 (xs:=[]) (ys:=[0]) (zs:=[0]) rfl ?_;refine gup0 ?_;refine gi' (b:=false) (fun h=>by cases h) (fun _=> ?_);refine gi' (b:=false) (fun h=>by cases h) (fun _=> ?_);refine gcG (c:=true) (fun _=>Aig) ?_;exact gE
def K7 (a0:List g_api_Rule):Option (List (Int×Int)):=bif WE a0 then some []else none
theorem SS {a0:List g_api_Rule}{r:List (Int×Int)}(hm:K7 a0=some r):Sf prog 175 [sl Ah a0] (sl eP r):=by
 unfold K7 at hm;cases h:WE a0<;>rw[h]at hm<;>cases hm;exact WD h▸AeN
def Tc (a0:List g_api_Rule):Option Int:=Ab (QM a0) fun x1=>if(x1 !=0)=true then some x1 else Ab (K7 a0) fun x2=>if(decide ((x2.length:Int)>0))=true then some 160 else some 0
theorem SQ {a0 r}(hm:Tc a0=some r):Sf prog 90 [sl Ah a0] (.d (.i r)):=by
 refine sq ?_;intros;refine gA hm VJ fun _ q1 hm=>gi hm ?_ ?_<;>intro _ hm
 ·exact Akr hm▸gE
 refine gA hm SS fun _ q2 hm=>gi hm ?_ ?_<;>intro _ hm
 ·exact Akr hm▸gE
 exact Akr hm▸gE
def Ct {σ:Type}(p0:σ→(Int×ByteArray)→Option (Bool×σ))(k0:List ByteArray)(s1:Int×σ):Option ((Int×σ)⊕((σ)⊕((List ByteArray)×σ))):=if(decide (s1.1≥0))=true then Ab (idx k0 s1.1) fun x4=>Ab (p0 s1.2 (s1.1,x4)) fun x5=>if(!x5.1)=true then some (.inr (.inr (k0,x5.2)))else some (.inl ((w64 (s1.1-1)),x5.2))else some (.inr (.inl s1.2))
def Bu {σ:Type}(p0:σ→(Int×ByteArray)→Option (Bool×σ))(k0:List ByteArray)(s0:σ):Option ((List ByteArray)×σ):=bnd ((w64 ((k0.length:Int)-1))) fun x1=>Ab (iter (Ct p0 k0) EV (x1,s0)) fun x2=>match x2 with| .inr r=>some r| .inl y1=>some (k0,y1)
theorem Hl {σ:Type}{p0:σ→(Int×ByteArray)→Option (Bool×σ)}{k0 s0 r}(hm:Bu p0 k0 s0=some r)(g:Value)(R:σ→Mem→Ow)(hcb:Aab prog g (fun x=> [.d (.i x.1),.d (.s x.2)]) R p0):Sp prog 267 [.ow 0,.pb 1 0] [.hp 0 (.cb g σ R s0),.box 1 [sl eS k0] 23] 2 (is (.tup []) [.hp 0 (.cb g σ R r.2),.box 1 [.d (.sl _ eS r.1)] 23] 2):=by
 refine sq ?_;intros;refine bE hm ?_;intro _ hm;refine oB hm fun _ q2 hm=>gI q2 (fun(p_0,p_1)=>⟨[(0,.ow 0),(1,.pb 1 0),(3,.d (.i p_0))],[(0,.box 1 [sl eS k0] 23),(1,.hp 0 (.cb g σ R p_1))],[],2⟩) fun s1 _ Jl q5 bl1=>gi q5 ?_ ?_<;>intro _ q5
 ·refine oB q5 fun x4 q7 q5=>gx eS 1 q7<|oB q5 fun _ q8 q5=>gcb (s1.1,x4) hcb q8<|gi q5 ?_ ?_<;>intro _ q5
  ·obtain rfl:=nR bl1 q5;exact Akr hm▸gE
  exact gN bl1 q5
 obtain rfl:=nR bl1 q5;let y1:=s1.2;exact Akr hm▸gE
def Db (a0:List ByteArray):Option (List ByteArray):=some a0
theorem Ig {a0 r}(hm:Db a0=some r):Sp prog 178 [sl eS a0] [] 0 (is (.fn (.func 267) [] [.pb 0 0]) [.box 0 [sl eS r] 23] 1):=by
 refine sq ?_;intros;exact Akr hm▸gE
def D5 (a1:ByteArray)(a2:Int)(x3:Int)(s1:ByteArray×Int×(List ByteArray)):Option ((ByteArray×Int×(List ByteArray))⊕(ByteArray×Int×(List ByteArray))):=if(decide (s1.2.1<(w64 (x3-1))))=true then Ab (F0 s1.1 a1) fun x8=>if(decide (x8<0))=true then some (.inr (s1.1,s1.2.1,s1.2.2))else Ab (WX s1.1 0 (w64 (x8+a2))) fun x9=>Ab (idx s1.2.2 s1.2.1) fun x10=>bnd (s1.2.2.set s1.2.1.toNat x9) fun x11=>Ab (WX s1.1 (w64 (x8+(a1.size:Int))) (s1.1.size:Int)) fun x12=>some (.inl (x12,(w64 (s1.2.1+1)),x11))else some (.inr (s1.1,s1.2.1,s1.2.2))
def FK (a0:ByteArray)(a1:ByteArray)(a2:Int)(a3:Int):Option (List ByteArray):=if(a3==0)=true then some ([]:List ByteArray)else if(eqS a1 (⟨#[]⟩:ByteArray))=true then none else Ab (if(decide (a3<0))=true then Ab (EE a0 a1) fun x2=>some (w64 (x2+1))else some a3) fun x1=>bnd ((Q5 x1 (w64 ((a0.size:Int)+1)))) fun x3=>Ab (mkS 16 (ByteArray.empty:ByteArray) x3) fun x4=>Ab (Ab (iter (D5 a1 a2 x3) EV (a0,0,x4)) fun x6=>some (x6.1,x6.2.1,x6.2.2)) fun x5=>Ab (idx x5.2.2 x5.2.1) fun x13=>bnd (x5.2.2.set x5.2.1.toNat x5.1) fun x14=>if(0:Int)≤(w64 (x5.2.1+1))∧(w64 (x5.2.1+1))≤(x14.length:Int)then some (x14.take (w64 (x5.2.1+1)).toNat)else none
theorem OP {a0 a1 a2 a3 r}(hm:FK a0 a1 a2 a3=some r):Sp prog 321 [.d (.s a0),.d (.s a1),.d (.i a2),.d (.i a3)] [] 0 (is (.ow 0) [.row 0 1 _ eS r] 1):=by
 refine sq fun D0 As η0 m0 hd=>gi hm ?_ ?_<;>intro _ hm
 ·refine OE eS 8 1 ?_;exact Akr hm▸gE
 refine gi hm ?_ ?_<;>intro _ hm
 ·cases hm
 refine oB hm fun x1 q1 hm=>gj (fun(_:Unit)=>⟨[(0,.d (.s a0)),(1,.d (.s a1)),(2,.d (.i a2)),(3,.d (.i x1))],[],[],0⟩) (fun _=>True) (fun Jp bk1=> ?_) fun _ _=> ?_
 ·refine gi q1 ?_ ?_<;>intro _ q1
  ·refine gA q1 MO fun _ q2 q1=> ?_;obtain rfl:=Akr q1;exact gb bk1 hd () trivial
  obtain rfl:=Akr q1;exact gb bk1 hd () trivial
 refine bE hm ?_;intro x3 hm;refine oB hm fun _ q4 hm=>gmks eS (ByteArray.empty:ByteArray) (.s ByteArray.empty) 16 q4 ?_;obtain⟨x5,q5,hm⟩:=Ac hm;refine oB q5 fun x6 q6 q5=>gjU 0 (fun(_:Unit)=>let (y_0,y_1,y_2):=x6; ⟨[(0,.d (.s y_0)),(9,.ow 0),(10,.d (.i y_1))],[(0,.row 0 1 _ eS y_2)],[],1⟩) (fun _=>True) (fun Jp bk3=> ?_) fun _ _=> ?_
 ·refine gI q6 (fun(p_0,p_1,p_2)=>⟨[(0,.d (.s p_0)),(1,.d (.s a1)),(2,.d (.i a2)),(3,.d (.i (w64 (x3-1)))),(9,.ow 0),(10,.d (.i p_1))],[(0,.row 0 1 _ eS p_2)],[],1⟩) fun s1 _ Jl q9 bl1=>gi q9 ?_ ?_<;>intro _ q9
  ·refine gA q9 MN fun _ q11 q9=>gi q9 ?_ ?_<;>intro _ q9
   ·obtain rfl:=nR bl1 q9;exact gb bk3 hd () trivial
   refine oB q9 fun x9 q12 q9=>WM (fun _=>q12)<|oB q9 fun _ q13 q9=>G2 (E:=eS) (fun _=>q13)<|bE q9 ?_;intro _ q9;exact Abc (k:=1) (E:=eS) x9 (fun _=>rfl) q13<|oB q9 fun _ q15 q9=>WM (fun _=>q15)<|gN bl1 q9
  obtain rfl:=nR bl1 q9;exact gb bk3 hd () trivial
 obtain rfl:=Akr q5;let x5:=(x6.1,x6.2.1,x6.2.2);refine oB hm fun _ q16 hm=>G2 (E:=eS) (fun _=>q16)<|bE hm ?_;intro _ hm;refine Abc (k:=1) (E:=eS) x5.1 (fun _=>rfl) q16 ?_;obtain⟨⟨q18,q19⟩,hm⟩:=BY hm;refine gcO eS 1 q18 q19 ?_;exact Akr hm▸gE
def HA (a0:ByteArray)(a1:ByteArray):Option (List ByteArray):=Ab (FK a0 a1 0 (-1)) fun x1=>some x1
theorem Rx {a0 a1 r}(hm:HA a0 a1=some r):Sp prog 268 [.d (.s a0),.d (.s a1)] [] 0 (is (.ow 0) [.row 0 1 _ eS r] 1):=by
 refine sq ?_;intros;refine gD hm OP fun _ q1 hm=> ?_;exact Akr hm▸gE
def ID (a0:ByteArray):Option (List ByteArray):=Ab (G8 a0) fun x1=>if(!x1)=true then some ([]:List ByteArray)else Ab (HA a0 (⟨#[46]⟩:ByteArray)) fun x2=>some x2
theorem SV {a0 r}(hm:ID a0=some r):Sp prog 179 [.d (.s a0)] [] 0 (is (.ow 0) [.row 0 1 _ eS r] 1):=by
 refine sq ?_;intros;refine gA hm Ln fun _ q1 hm=>gi hm ?_ ?_<;>intro _ hm
 ·refine OE eS 2 1 ?_;exact Akr hm▸gE
 refine gD hm Rx fun _ q2 hm=> ?_;exact Akr hm▸gE
def Cl {σ:Type}(p0:σ→ByteArray→Option (Bool×σ))(b4:Int×ByteArray)(s1:(σ)×Nat):Option ((σ)×Nat):=Ab (p0 s1.1 b4.2) fun x4=>if(!x4.1)=true then some (x4.2,1)else some (x4.2,0)
def DT {σ:Type}(p0:σ→ByteArray→Option (Bool×σ))(k0:ByteArray)(s0:σ):Option (ByteArray×σ):=Ab (ID k0) fun x1=>Ab (Db x1) fun x2=>Ab (Bu (fun(s:(σ)×Nat) (b0:Int×ByteArray)=>if s.2=0 then Ab (Cl p0 b0 s) fun y=>some (y.2==0,y)else none) x2 (s0,0)) fun x3=>if(x3.2).2=0 then some (k0,x3.2.1)else some (k0,x3.2.1)
theorem MT {σ:Type}{p0:σ→ByteArray→Option (Bool×σ)}{k0 s0 r}(hm:DT p0 k0 s0=some r)(g:Value)(R:σ→Mem→Ow)(hcb:Aab prog g (fun x=> [.d (.s x)]) R p0):Sp prog 177 [.ow 0,.pb 1 0] [.hp 0 (.cb g σ R s0),.box 1 [.d (.s k0)] 9] 2 (is (.tup []) [.hp 0 (.cb g σ R r.2),.box 1 [.d (.s r.1)] 9] 2):=
 spR call177 func177 rfl ntmps177 rfl fun D0 As η0 m0 hD hd=>by
  unfold DT at hm;refine gD hm SV fun _ q1 hm=>gD hm Ig fun x2 q2 hm=>oB hm fun x3 q3 hm=>Lb hD (n0:=2) 4 4 [⟨3,3,23,[sl eS x2],[sl eS x3.1]⟩] (gt:=7) (ps:=[8,9]) [(2,.pb 2 0),(7,.fn (.func 267) [] [.pb 3 0])] (fun(y1:σ)=> [(0,.box 2 [.ow 0] 177),(1,.box 1 [.d (.s k0)] 9),(2,.hp 0 (.cb g σ R y1))]) (fun(y1:(σ)×Nat)=> [(0,.box 2 [.ow 0] 177),(1,.box 1 [.d (.s k0)] 9),(2,.hp 0 (.cb g σ R y1.1))]) (fun x=> [.d (.i x.1),.d (.s x.2)]) (fun(s1:σ) (b4:Int×ByteArray)=>⟨[(2,.pb 2 0),(4,.d (.s b4.2)),(7,.fn (.func 267) [] [.pb 3 0])],[(0,.box 2 [.ow 0] 177),(1,.box 1 [.d (.s k0)] 9),(2,.hp 0 (.cb g σ R s1))],[],4⟩) (pJ fun x s=>Cl p0 x s) s0 hd (via fJ hyJ rfl fun g R h=>Hl q3 g R h) rfl (fun _=>rfl) (fun _=>rfl) (fun _=>rfl) (fun _=>rfl) ?_ ?_ ?_ ?_
  ·intro s1 b4 s' hp l D0 As η0 m0 hd Ja ba;exact gb ba hd () trivial
  ·intro s1 b4 s' hp l D0 As η0 m0 hd Jb bb Jr br;obtain⟨z1,q4,hp⟩:=Akx.1 hp;subst hp;unfold Cl at q4;dsimp only at q4;refine oB q4 fun x4 q5 q4=>gcb b4.2 hcb q5<|gi q4 ?_ ?_<;>intro _ q4
   ·obtain rfl:=Akr q4;exact Agc br hd (x4.2,1) rfl
   obtain rfl:=Akr q4;exact gb bb hd x4.2 rfl
  ·intro x hx;obtain⟨hj1,rfl⟩:=ZM hx;rw[AkA hj1]at hm;exact Akr hm▸gE
  intro y hy;obtain⟨hj1,rfl⟩:=ZL hy;rw[Aky hj1]at hm;exact Akr hm▸gE
def Ju (a0:ByteArray):Option ByteArray:=some a0
theorem OT {a0 r}(hm:Ju a0=some r):Sp prog 92 [.d (.s a0)] [] 0 (is (.fn (.func 177) [] [.pb 0 0]) [.box 0 [.d (.s r)] 9] 1):=by
 refine sq ?_;intros;exact Akr hm▸gE
def Od (a0:Int)(k0:List g_api_Node)(k1:ByteArray):Option (Bool×(List g_api_Node)×ByteArray):=Ab (idx k0 a0) fun x1=>some ((eqS x1.Label k1),k0,k1)
theorem SR {a0 k0 k1 r}(hm:Od a0 k0 k1=some r):Sp prog 181 [.d (.i a0),.pb 0 0,.pb 1 0] [.box 0 [sl Au k0] 36,.box 1 [.d (.s k1)] 9] 2 (is (.d (.t r.1)) [.box 0 [.d (.sl _ Au r.2.1)] 36,.box 1 [.d (.s r.2.2)] 9] 2):=by
 refine sq ?_;intros;refine oB hm fun _ q1 hm=>gx Au 4 q1 ?_;exact Akr hm▸gE
def CJ (a0:List Int)(i1:Int)(s1:(List g_api_Node)×ByteArray):Option (((List g_api_Node)×ByteArray)⊕(Int×(List g_api_Node)×ByteArray)):=Ab (idx a0 (i1:Int)) fun x3=>Ab (Od x3 s1.1 s1.2) fun x4=>if x4.1=true then some (.inr ((i1:Int),x4.2.1,x4.2.2))else some (.inl (x4.2.1,x4.2.2))
def C9 (a0:List Int)(k0:List g_api_Node)(k1:ByteArray):Option (Int×(List g_api_Node)×ByteArray):=Ab (Es (CJ a0) a0.length 0 (k0,k1)) fun x1=>match x1 with| .inr r=>some r| .inl y1=>some ((-1),y1.1,y1.2)
theorem Ie {a0 k0 k1 r}(hm:C9 a0 k0 k1=some r):Sp prog 180 [sl eI a0,.fn (.func 181) [] [.pb 0 0,.pb 1 0]] [.box 0 [sl Au k0] 36,.box 1 [.d (.s k1)] 9] 2 (is (.d (.i r.1)) [.box 0 [.d (.sl _ Au r.2.1)] 36,.box 1 [.d (.s r.2.2)] 9] 2):=by
 refine sq ?_;intros;refine oB hm fun _ q1 hm=>Jd 0 (E:=eI) (xs:=a0) 6 fun hle1=>gF (EN _ _ _) q1 (fun p0 (p_0,p_1)=>⟨[(0,sl eI a0),(1,.fn (.func 181) [] [.pb 0 0,.pb 1 0]),(7,.d (.i (a0.length:Int))),(8,.d (.i p0))],[(0,.box 0 [sl Au p_0] 36),(1,.box 1 [.d (.s p_1)] 9)],[],2⟩) fun i1 s1 Jl bl1=>cN bl1 (a0.length:Int) (fun _ q4 bl1=> ?_) fun e=> ?_
 ·refine oB q4 fun _ q6 q4=>gx eI 1 q6<|gD q4 SR fun _ q7 q4=>gi q4 ?_ ?_<;>intro _ q4
  ·obtain rfl:=nT bl1 q4;exact Akr hm▸gE
  exact gT bl1 hle1 q4
 subst e;let y1:=s1;exact Akr hm▸gE
def IV (a0:List g_api_Node)(a1:Int)(a2:ByteArray):Option (Int×Bool):=Ab (idx a0 a1) fun x1=>Ab (C9 x1.Kids a0 a2) fun x2=>if(decide (x2.1<0))=true then some (0,false)else Ab (idx x2.2.1 a1) fun x3=>Ab (idx x3.Kids x2.1) fun x4=>some (x4,true)
theorem QA {a0 a1 a2 r}(hm:IV a0 a1 a2=some r):Sf prog 93 [sl Au a0,.d (.i a1),.d (.s a2)] (.tup [.d (.i r.1),.d (.t r.2)]):=by
 refine sq ?_;intros;refine oB hm fun _ q1 hm=>gx Au 4 q1<|gD hm Ie fun _ q2 hm=>gi hm ?_ ?_<;>intro _ hm
 ·exact Akr hm▸gE
 refine oB hm fun _ q3 hm=>gx Au 4 q3<|oB hm fun _ q4 hm=>gx eI 1 q4 ?_;exact Akr hm▸gE
def Ep (a0:List g_api_Rule):Option (List g_api_Rule):=Ab (app 80 ([]:List g_api_Rule) a0) fun x1=>some x1
theorem H2 {a0 r}(hm:Ep a0=some r):Sp prog 94 [sl Ah a0] [] 0 (is (.ow 0) [.row 0 7 _ Ah r] 1):=by
 refine sq ?_;intros;unfold Ep at hm;refine gnq Ah a0 (fun he1=> ?_) ?_
 ·rw[he1]at hm;replace hm:(some ([]:List g_api_Rule))=some _:=hm;refine OE Ah 2 7 ?_;exact Akr hm▸gE
 refine TN (k:=7) Ah ([]:List g_api_Rule) (fun _=>rfl)<|oB hm fun _ q1 hm=>gp Ah 7 q1 ?_;exact Akr hm▸gE
def n0s:List g_api_Node:=[⟨⟨#[]⟩,-1,-1,[1]⟩,⟨⟨#[97]⟩,-1,0,[]⟩]
def T0:AG:=⟨[ML],n0s⟩
def eN0 (x:g_api_Node):List D:=[.s x.Label,.i x.Here,.i x.Below,match x.Kids with| []=> .v (.slice none 0 0)|l=> .sl Int eI l]
def nds (b:Bool):List g_api_Node:=bif b then [⟨⟨#[]⟩,-1,-1,[1]⟩,⟨⟨#[97]⟩,-1,-1,[]⟩]else [⟨⟨#[]⟩,-1,-1,[]⟩]
def X8 (l:ByteArray)(s:Bool):Option Bool:=bif eqS l ⟨#[97]⟩&& !s then some true else none
theorem AaF {l s z}(h:X8 l s=some z):l=⟨#[97]⟩∧s=false∧z=true:=by
 unfold X8 at h;cases e:eqS l ⟨#[97]⟩<;>cases s<;>rw[e]at h<;>cases h;exact⟨Sq.1 e,rfl,rfl⟩
theorem AhN {m:Mem}: ∀{xs:List g_api_Node} {cs:List Value},FRL m (xs.flatMap eN0) cs→FRL m (xs.flatMap Au) cs
 | [],_,h=>h
 |x::xs,cs,h=>by
  obtain⟨a,b,c,d⟩:=x;obtain⟨_,_,rfl,h1,h⟩:=FRL.cons_inv h;obtain⟨_,_,rfl,h2,h⟩:=FRL.cons_inv h;obtain⟨_,_,rfl,h3,h⟩:=FRL.cons_inv h;obtain⟨_,_,rfl,h4,h⟩:=FRL.cons_inv h;refine .cons h1 (.cons h2 (.cons h3 (.cons ?_ (AhN h))));cases d with
  |nil=>cases h4; exact TD 1
  |cons=>exact h4
theorem fr_eN {m:Mem}{xs:List g_api_Node}{v:Value}(h:FR m (.sl _ eN0 xs) v):FR m (.sl _ Au xs) v:=by
 cases h with
 |sl h hE hl hr=>
  obtain⟨hl,hr⟩:=AhN ⟨hl,hr⟩;exact .sl h (fun x hx=>hE x hx) hl hr
theorem w_kid0:Sf prog 93 [sl eN0 (nds false),.d (.i 0),.d (.s ⟨#[97]⟩)] (.tup [.d (.i 0),.d (.t false)]):=
 AbL (QA (a0:=nds false) (a1:=0) (a2:=⟨#[97]⟩) (r:=(0,false)) (by kernel_rfl)) fun hv=>by
  obtain⟨_,_,rfl,q,hv⟩:=hv.cons_inv;cases q with|d q=>exact .cons (.d (fr_eN q)) hv
theorem Ae4 {P:Program}{k:FuncId}{a1:List AV}{r1 r2:AV}(s:Sf P k a1 r1)(h: ∀{η m v},Rel η m r1 v→Rel η m r2 v):Sf P k a1 r2:=
 ⟨s.1,fun η m As w vs hv hd S=>Ft.mono (s.2 η m As w vs hv hd S) fun _ _ ⟨M,η',_,_,_,l,le,⟨e2,e3,e4⟩,hd',hr,S'⟩=>⟨M,η',r2,_,_,l,le,⟨rfl,e3,e4⟩,hd',h (e2▸hr),S'⟩⟩
def cSl:Sl:=[(0,sl Ah [ML]),(2,.pb 0 0),(5,.pb 1 0),(6,.pb 3 0),(7,.d (.i 0)),(12,.d (.t true)),(13,.pb 5 0),(27,sl Ah [ML]),(28,.d (.i 1)),(29,.d (.i 0)),(35,sl eS ML.Pats),(36,.d (.i 1)),(37,.d (.i 0)),(47,.fn (.func 177) [] [.pb 6 0])]
def cOb (y:Bool):List Tok:=[(0,.box 0 [.d (.v (.slice none 0 0)),.d (.v (.slice none 0 0))] 38),(1,.box 1 [.d (.s ⟨#[]⟩),.d (.i (-1)),.d (.i (-1)),.d (.v (.slice none 0 0))] 180),(2,.row 7 4 _ eN0 (nds y)),(3,.box 3 [.ow 7] 36),(4,.box 5 [.d (.i (bif y then 1 else 0))] 3)]
theorem back0:Ab (Ju ⟨#[97]⟩) some=some ⟨#[97]⟩:=by kernel_rfl
theorem Aih:Sf prog 25 [sl Ah [ML]] (.tup [ag [.sl _ Ah [ML],.sl _ eN0 n0s],.d (.i 0)]):=
 spR call25 func25 rfl ntmps25 rfl fun D0 As η0 m0 hD hd=>by
  refine gc (r:= .d (.i 0)) (fun _=>SQ (a0:=[ML]) (by kernel_rfl)) ?_;refine gi' (b:=false) (fun h=>by cases h) fun _=> ?_;refine TN (k:=4) eN0 (nds false) (fun _=>rfl) ?_;refine AjC<|gi' (b:=true) (fun _=> ?_) fun h=>by cases h
  refine gx (xs:=[ML]) (j:=0) (x:=ML) Ah 7 rfl ?_;refine AjC<|gi' (b:=true) (fun _=> ?_) fun h=>by cases h
  refine gx (xs:=ML.Pats) (j:=0) (x:=⟨#[42,46,97]⟩) eS 1 rfl ?_;refine gc (r:= .tup [.d (.s ⟨#[97]⟩),.d (.t true)]) (fun _=>JS (a0:=⟨#[42,46,97]⟩) (a1:=⟨#[42,46]⟩) (r:=(⟨#[97]⟩,true)) (by kernel_rfl)) ?_;refine gD back0 OT fun x1 _ e=> ?_;cases e;refine Lb hD (n0:=0) 7 8 [⟨6,6,9,[.d (.s ⟨#[97]⟩)],[.d (.s ⟨#[97]⟩)]⟩] (gt:=47) (ps:=[48]) cSl cOb (fun(_:Unit)=> []) (fun x=> [.d (.s x)]) (fun(s1:Bool) (b6:ByteArray)=>⟨(14,.d (.s b6))::cSl,cOb s1,[],8⟩) (pN fun x s=>X8 x s) false hd (via Sum.inl hyN rfl fun g R h=>MT (k0:=⟨#[97]⟩) (r:=(⟨#[97]⟩,true)) (by kernel_rfl) g R h) rfl (fun _=>rfl) (fun _=>rfl) (fun _=>rfl) (fun _=>rfl) ?_ ?_ ?_ ?_
  ·intro s1 b6 s' hp l D0 As η0 m0 hd Ja ba;exact gb ba hd () trivial
  ·intro s3 b6 s' hp l D0 As η0 m0 hd Jb bb Jr br;obtain⟨z1,q3,hp⟩:=Akx.1 hp;subst hp;obtain⟨rfl,rfl,rfl⟩:=AaF q3;refine gco (Sp.lend (os:=[.row 0 4 _ eN0 (nds false)]) (n1:=1) w_kid0 (.cons (.row (.head _)) (.cons (.same (by kernel_rfl)) (.cons (.same (by kernel_rfl)) .nil))) (by kernel_rfl)) ?_;refine gi' (b:=true) (fun _=> ?_) fun h=>by cases h
   refine G2 (E:=eN0) (xs:=nds false) (j:=0) (x:=⟨⟨#[]⟩,-1,-1,[]⟩) (fun _=>rfl) ?_;refine Yg (k:=4) (fo:=3) (nn:=1) (ag:=false) (E:=eN0) (xs:=nds false) (j:=0) (x:=⟨⟨#[]⟩,-1,-1,[]⟩) (fun _=>rfl) (fun _=>rfl) ?_;refine gq eI 1 [1] ?_;refine gp (b:=8) eI 1 (xs:=[]) (ys:=[1]) (zs:=[1]) rfl ?_;refine G2 (E:=eN0) (xs:=nds false) (j:=0) (x:=⟨⟨#[]⟩,-1,-1,[]⟩) (fun _=>rfl) ?_;refine gstF (k:=4) (E:=eN0) (xs:=nds false) (j:=0) (z0:=⟨⟨#[]⟩,-1,-1,[]⟩) ⟨⟨#[]⟩,-1,-1,[1]⟩ 3 [.sl Int eI [1]] (fun _=>rfl) rfl rfl ?_;refine gq eN0 4 [⟨⟨#[97]⟩,-1,-1,[]⟩] ?_;refine gp (b:=56) eN0 4 (xs:=[⟨⟨#[]⟩,-1,-1,[1]⟩]) (ys:=[⟨⟨#[97]⟩,-1,-1,[]⟩]) (zs:=nds true) rfl ?_;exact gb bb hd true rfl
  ·intro x hx;obtain rfl:=Sum.inl.inj hx;refine gi' (b:=true) (fun _=> ?_) fun h=>by cases h
   refine G2 (E:=eN0) (xs:=nds true) (j:=1) (x:=⟨⟨#[97]⟩,-1,-1,[]⟩) (fun _=>rfl) ?_;refine gstF (k:=4) (E:=eN0) (xs:=nds true) (j:=1) (z0:=⟨⟨#[97]⟩,-1,-1,[]⟩) ⟨⟨#[97]⟩,-1,0,[]⟩ 2 [.i 0] (fun _=>rfl) rfl rfl ?_;refine gi' (b:=false) (fun h=>by cases h) fun _=> ?_;refine gi' (b:=false) (fun h=>by cases h) fun _=> ?_;refine gco (H2 (a0:=[ML]) (r:=[ML]) (by kernel_rfl)) ?_;exact gE
  ·intro y hy;cases hy
theorem Aii:Sf prog 25 [sl Ah [ML]] (.tup [ag (Ff T0),.d (.i 0)]):=
 Ae4 Aih fun h0=>by
  obtain⟨_,rfl,h1⟩:=h0.tup_inv;obtain⟨_,_,rfl,q,h2⟩:=h1.cons_inv;obtain⟨_,rfl,p0⟩:=q.agg_inv;obtain⟨_,_,rfl,q1,p1⟩:=p0.cons_inv;obtain⟨_,_,rfl,q2,p2⟩:=p1.cons_inv;cases q2 with
  |d q2=>
   have r:=BP.cons q1 (BP.cons (.d (fr_eN q2)) p2);have r2:=BP.cons (.agg r.1 r.2) h2;exact .tup r2.1 r2.2
def Fk (a0:List g_api_Rule):Option (AG×Int):=bif WE a0 then some (T0,0)else none
theorem Mw {a0:List g_api_Rule}{r:AG×Int}(hm:Fk a0=some r):Sf prog 25 [sl Ah a0] (.tup [ag (Ff r.1),.d (.i r.2)]):=by
 unfold Fk at hm;cases h:WE a0<;>rw[h]at hm<;>cases hm;exact WD h▸Aii
def CW (a0:UInt64)(a3:List UInt8)(i1:Int)(s1:(List UInt64)):Option ((List UInt64)):=Ab (Ab (idx s1 (i1:Int)) fun x6=>bnd (s1.set (i1:Int).toNat a0) fun x7=>if(decide ((i1:Int)>0))=true then Ab (Cx (⟨#[115,104,97,114,101]⟩:ByteArray) ([a3,([(toB (i1:Int))]:List UInt8)]:List (List UInt8))) fun x8=>Ab (Hb x8 1152921504606845789) fun x9=>Ab (idx x7 (i1:Int)) fun x10=>bnd (x7.set (i1:Int).toNat x9) fun x11=>some x11 else some x7) fun x5=>some x5
def I4 (i2:Int)(i3:Int)(x20:UInt64)(s3:UInt64×(List g_api_Share)):Option (UInt64×(List g_api_Share)):=Ab (idx s3.2 (i2:Int)) fun x21=>Ab (Fa x20 s3.1) fun x22=>Ab (Gq x21.X x22) fun x23=>Ab (idx s3.2 (i2:Int)) fun x24=>bnd (s3.2.set (i2:Int).toNat (⟨x24.Id,x23⟩:g_api_Share)) fun x25=>Ab (Fa s3.1 (toU (w64 ((i2:Int)+1)))) fun x26=>some (x26,x25)
def BW (x2:(List UInt64))(i2:Int)(s2:(List g_api_Share)):Option ((List g_api_Share)):=Ab (Ab (idx s2 (i2:Int)) fun x17=>bnd (s2.set (i2:Int).toNat (⟨(w64 ((i2:Int)+1)),x17.X⟩:g_api_Share)) fun x18=>Ab (Et (I4 i2) x2 0 (1,x18)) fun x19=>some x19.2) fun x16=>some x16
def Js (a0:UInt64)(a1:Int)(a2:Int)(a3:List UInt8):Option ((List g_api_Share)×Int):=if((((decide (a1<1))||(decide (a2<a1)))||(decide (a2>7)))||(decide ((a0.toNat:Int)≥1152921504606845789)))=true then some (([]:List g_api_Share),1)else Ab (mkS 8 (0:UInt64) a1) fun x1=>Ab (Ab (Cg (CW a0 a3) x1.length 0 x1) fun x3=>some x3) fun x2=>Ab (mkS 16 (⟨0,0⟩:g_api_Share) a2) fun x12=>Ab (Ab (Cg (BW x2) x12.length 0 x12) fun x14=>some x14) fun x13=>some (x13,0)
theorem Ub {a0 a1 a2 a3 r}(hm:Js a0 a1 a2 a3=some r):Sp prog 95 [.d (.u a0),.d (.i a1),.d (.i a2),sl eB a3] [] 0 (is (.tup [.ow 0,.d (.i r.2)]) [.row 0 2 _ Ak r.1] 1):=by
 refine sq fun D0 As η0 m0 hd=>gi hm ?_ ?_<;>intro _ hm
 ·refine OE Ak 8 2 ?_;exact Akr hm▸gE
 refine oB hm fun x1 q1 hm=>gmks eU (0:UInt64) (.u 0) 8 q1 ?_;obtain⟨x2,q2,hm⟩:=Ac hm;refine oB q2 fun x3 q3 q2=>Jd 0 (E:=eU) (xs:=x1) 34 fun hle1=>gF (EM _ _ _) q3 (fun p0 p=>⟨[(0,.d (.u a0)),(2,.d (.i a2)),(3,sl eB a3),(10,.ow 0),(35,.d (.i (x1.length:Int))),(36,.d (.i p0))],[(0,.row 0 1 _ eU p)],[],1⟩) fun i1 s1 Jl bl1=>cM bl1 (x1.length:Int) (fun _ q6 bl1=> ?_) fun e=> ?_
 ·refine oB q6 fun x5 q8 q6=>gjU 1 (fun(_:Unit)=>⟨[(0,.d (.u a0)),(2,.d (.i a2)),(3,sl eB a3),(10,.ow 0),(35,.d (.i (x1.length:Int))),(36,.d (.i (i1:Int)))],[(0,.row 0 1 _ eU x5)],[],1⟩) (fun _=>True) (fun Jp bk3=> ?_) fun _ _=> ?_
  ·refine oB q8 fun _ q9 q8=>G2 (E:=eU) (fun _=>q9)<|bE q8 ?_;intro _ q8;refine Abc (k:=1) (E:=eU) a0 (fun _=>rfl) q9<|gi q8 ?_ ?_<;>intro _ q8
   ·refine gq eB 1 [(toB (i1:Int))]<|gq (eL eB) 1 [a3,([(toB (i1:Int))]:List UInt8)]<|gA q8 EY fun _ q11 q8=>gA q8 NN fun x9 q12 q8=>oB q8 fun _ q13 q8=>G2 (E:=eU) (fun _=>q13)<|bE q8 ?_;intro _ q8;refine Abc (k:=1) (E:=eU) x9 (fun _=>rfl) q13 ?_;obtain rfl:=Akr q8;exact gb bk3 hd () trivial
   obtain rfl:=Akr q8;exact gb bk3 hd () trivial
  exact gM bl1 hle1 q6
 subst e;obtain rfl:=Akr q2;let x2:=x3;refine oB hm fun x12 q15 hm=>gmkn Ak (⟨0,0⟩:g_api_Share) [.i 0,.u 0] (16) q15 ?_;obtain⟨x13,q16,hm⟩:=Ac hm;refine oB q16 fun _ q17 q16=>Jd 2 (E:=Ak) (xs:=x12) 58 fun hle2=>gF (EM _ _ _) q17 (fun p0 p=>⟨[(10,sl eU x2),(12,.ow 0),(59,.d (.i (x12.length:Int))),(60,.d (.i p0))],[(0,.row 0 2 _ Ak p)],[],1⟩) fun i2 s2 Jl bl2=>cM bl2 (x12.length:Int) (fun _ q20 bl2=> ?_) fun e=> ?_
 ·unfold BW at q20;obtain⟨x16,q22,q20⟩:=Ac q20;refine oB q22 fun x17 q23 q22=>G2 (E:=Ak) (fun _=>q23) ?_;have q22:=Z2 q22;let x18:List g_api_Share:=s2.set (i2:Int).toNat (⟨(w64 ((i2:Int)+1)),x17.X⟩:g_api_Share);refine gstF (k:=2) (E:=Ak) (⟨(w64 ((i2:Int)+1)),x17.X⟩:g_api_Share) 0 [.i (w64 ((i2:Int)+1))] (fun _=>rfl) q23 rfl<|oB q22 fun _ q24 q22=>Jd 4 (E:=eU) (xs:=x2) 69 fun hle3=>gF (E0 _ _ _) q24 (fun p0 (p_0,p_1)=>⟨[(10,sl eU x2),(12,.ow 0),(13,.d (.i (i2:Int))),(14,.d (.u p_0)),(59,.d (.i (x12.length:Int))),(60,.d (.i (i2:Int))),(69,sl eU x2),(70,.d (.i (x2.length:Int))),(71,.d (.i p0))],[(0,.row 0 2 _ Ak p_1)],[],1⟩) fun i3 s3 Jl bl3=>c0 bl3 (fun _ _ q28 q27 bl3=> ?_) fun e=> ?_
  ·refine gx eU 1 q28<|oB q27 fun _ q29 q27=>G2 (E:=Ak) (fun _=>q29)<|Yg (k:=2) (fo:=1) (nn:=1) (ag:=false) (E:=Ak) (fun _=>rfl) (fun _=>q29)<|gA q27 LP fun _ q30 q27=>gA q27 O2 fun x23 q31 q27=>oB q27 fun x24 q32 q27=>G2 (E:=Ak) (fun _=>q32) ?_;have q27:=Z2 q27;let x25:List g_api_Share:=s3.2.set (i2:Int).toNat (⟨x24.Id,x23⟩:g_api_Share);exact gstF (k:=2) (E:=Ak) (⟨x24.Id,x23⟩:g_api_Share) 1 [.u x23] (fun _=>rfl) q32 rfl<|gA q27 LP fun _ q33 q27=>gM bl3 hle3 q27
  subst e;obtain rfl:=Akr q22;exact gM bl2 hle2 q20
 subst e;obtain rfl:=Akr q16;exact Akr hm▸gE
def Q6 (i1:Int)(x2:Int)(s1:(List (Int×Bool))):Option (((List (Int×Bool)))⊕Bool):=if(((decide (x2<1))||(decide (x2≥1152921504606845789)))||((lkG (eqI x2) s1).getD false))=true then some (.inr false)else some (.inl (upG (eqI x2) (x2,true) s1))
def Pl (a0:List Int):Option Bool:=Ab (D1 Q6 a0 0 ([]:List (Int×Bool))) fun x1=>match x1 with| .inr r=>some r| .inl y1=>bnd (((decide ((a0.length:Int)>0))&&(decide ((a0.length:Int)≤7)))) fun x3=>some x3
theorem Ua {a0 r}(hm:Pl a0=some r):Sf prog 269 [sl eI a0] (.d (.t r)):=by
 refine sq ?_;intros;refine gmkg Int Bool eI D.t<|oB hm fun _ q1 hm=>Jd 0 (E:=eI) (xs:=a0) 7 fun hle1=>gF (ER _ _ _) q1 (fun p0 p=>⟨[(0,sl eI a0),(3,.ow 0),(7,sl eI a0),(8,.d (.i (a0.length:Int))),(9,.d (.i p0)),(6,.ow 0)],[(0,.hp 0 (.mg _ _ eI D.t p))],[],1⟩) fun i1 s1 Jl bl1=>cR bl1 (fun x2 _ q5 q4 bl1=> ?_) fun e=> ?_
 ·refine gx eI 1 q5<|glkg (K:=eI) (c:=D.t) s1 x2 (eqI x2) false 3 4 false (by kernel_rfl) (by kernel_rfl) (by kernel_rfl) (by kernel_rfl)<|gi q4 ?_ ?_<;>intro _ q4
  ·obtain rfl:=nT bl1 q4;exact Akr hm▸gE
  exact gupg (K:=eI) (c:=D.t) s1 x2 true (eqI x2) 3 inj_i (by kernel_rfl) (by kernel_rfl) (by kernel_rfl) (by kernel_rfl)<|gT bl1 hle1 q4
 subst e;let y1:=s1;refine bE hm ?_;intro _ hm;exact Akr hm▸gE
def TG (a0:g_api_Share):Option Int:=some a0.Id
theorem Aaf {a0 r}(hm:TG a0=some r):Sf prog 271 [ag (Ak a0)] (.d (.i r)):=by
 refine sq ?_;intros;exact Akr hm▸gE
def GI (i1:Int)(x3:g_api_Share)(s1:(List Int)):Option ((List Int)):=Ab (TG x3) fun x4=>Ab (app 8 s1 ([x4]:List Int)) fun x5=>some x5
def CO (a0:List g_api_Share):Option (List Int):=Ab (Ab (Et GI a0 0 ([]:List Int)) fun x2=>some x2) fun x1=>some x1
theorem Hm {a0 r}(hm:CO a0=some r):Sp prog 270 [sl Ak a0,.fn (.func 271) [] []] [] 0 (is (.ow 0) [.row 0 1 _ eI r] 1):=by
 refine sq ?_;intros;unfold CO at hm;refine TN (k:=1) eI ([]:List Int) (fun _=>rfl) ?_;obtain⟨x1,q1,hm⟩:=Ac hm;refine oB q1 fun _ q2 q1=>Jd 0 (E:=Ak) (xs:=a0) 9 fun hle1=>gF (E0 _ _ _) q2 (fun p0 p=>⟨[(1,.fn (.func 271) [] []),(5,.ow 0),(9,sl Ak a0),(10,.d (.i (a0.length:Int))),(11,.d (.i p0))],[(0,.row 0 1 _ eI p)],[],1⟩) fun i1 s1 Jl bl1=>c0 bl1 (fun _ _ q6 q5 bl1=> ?_) fun e=> ?_
 ·exact gx Ak 2 q6<|gA q5 Aaf fun x4 q7 q5=>gq eI 1 [x4]<|oB q5 fun _ q8 q5=>gp eI 1 q8<|gM bl1 hle1 q5
 subst e;obtain rfl:=Akr q1;exact Akr hm▸gE
def Iz (i1:Int)(x2:g_api_Share)(s1:Unit):Option ((Unit)⊕Bool):=if(decide ((x2.X.toNat:Int)≥1152921504606845789))=true then some (.inr false)else some (.inl ())
def L7 (a0:List g_api_Share):Option Bool:=Ab (D1 Iz a0 0 ()) fun x1=>match x1 with| .inr r=>some r| .inl y1=>Ab (CO a0) fun x3=>Ab (Pl x3) fun x4=>some x4
theorem Xo {a0 r}(hm:L7 a0=some r):Sf prog 182 [sl Ak a0] (.d (.t r)):=by
 refine sq ?_;intros;refine oB hm fun _ q1 hm=>Jd 0 (E:=Ak) (xs:=a0) 5 fun hle1=>gF (ER _ _ _) q1 (fun p0 _=>⟨[(0,sl Ak a0),(5,sl Ak a0),(6,.d (.i (a0.length:Int))),(7,.d (.i p0))],[],[],0⟩) fun i1 s1 Jl bl1=>cR bl1 (fun _ _ q5 q4 bl1=> ?_) fun e=> ?_
 ·refine gx Ak 2 q5<|gi q4 ?_ ?_<;>intro _ q4
  ·obtain rfl:=nT bl1 q4;exact Akr hm▸gE
  exact gT bl1 hle1 q4
 subst e;refine gD hm Hm fun x3 q6 hm=>oB hm fun _ q7 hm=>gco (Sp.lend (os:=[.row 0 1 _ eI x3]) (n1:=1) (Ua q7) (.cons (.row (.head _)) .nil) (by kernel_rfl)) ?_;exact Akr hm▸gE
def I5 (a0:g_api_Share):Option g_api_Share:=Ab (Ea a0.X) fun x1=>some (⟨a0.Id,x1⟩:g_api_Share)
theorem QU {a0 r}(hm:I5 a0=some r):Sf prog 184 [ag (Ak a0)] (ag (Ak r)):=by
 refine sq ?_;intros;refine gA hm Hq fun _ q1 hm=> ?_;exact Akr hm▸gE
def BV (i1:Int)(x3:g_api_Share)(s1:(List g_api_Share)):Option ((List g_api_Share)):=Ab (I5 x3) fun x4=>Ab (app 16 s1 ([x4]:List g_api_Share)) fun x5=>some x5
def A0 (a0:List g_api_Share):Option (List g_api_Share):=Ab (Ab (Et BV a0 0 ([]:List g_api_Share)) fun x2=>some x2) fun x1=>some x1
theorem FV {a0 r}(hm:A0 a0=some r):Sp prog 183 [sl Ak a0,.fn (.func 184) [] []] [] 0 (is (.ow 0) [.row 0 2 _ Ak r] 1):=by
 refine sq ?_;intros;unfold A0 at hm;refine TN (k:=2) Ak ([]:List g_api_Share) (fun _=>rfl) ?_;obtain⟨x1,q1,hm⟩:=Ac hm;refine oB q1 fun _ q2 q1=>Jd 0 (E:=Ak) (xs:=a0) 9 fun hle1=>gF (E0 _ _ _) q2 (fun p0 p=>⟨[(1,.fn (.func 184) [] []),(5,.ow 0),(9,sl Ak a0),(10,.d (.i (a0.length:Int))),(11,.d (.i p0))],[(0,.row 0 2 _ Ak p)],[],1⟩) fun i1 s1 Jl bl1=>c0 bl1 (fun _ _ q6 q5 bl1=> ?_) fun e=> ?_
 ·exact gx Ak 2 q6<|gA q5 QU fun x4 q7 q5=>gq Ak 2 [x4]<|oB q5 fun _ q8 q5=>gp Ak 2 q8<|gM bl1 hle1 q5
 subst e;obtain rfl:=Akr q1;exact Akr hm▸gE
def Fv (a0:List g_api_Share):Option ((List g_api_Share)×Int):=Ab (L7 a0) fun x1=>if(!x1)=true then some (([]:List g_api_Share),1)else Ab (A0 a0) fun x2=>some (x2,0)
theorem SO {a0 r}(hm:Fv a0=some r):Sp prog 96 [sl Ak a0] [] 0 (is (.tup [.ow 0,.d (.i r.2)]) [.row 0 2 _ Ak r.1] 1):=by
 refine sq ?_;intros;refine gA hm Xo fun _ q1 hm=>gi hm ?_ ?_<;>intro _ hm
 ·refine OE Ak 2 2 ?_;exact Akr hm▸gE
 refine gD hm FV fun _ q2 hm=> ?_;exact Akr hm▸gE
def HH (a0:List UInt8)(a1:Int)(a2:Int):Option (DM×(List g_api_Share)×Int):=Ab (E4 a0) fun x1=>Ab (Js x1 a1 a2 a0) fun x2=>if(x2.2 !=0)=true then some ((⟨0,0,0,[]⟩:DM),([]:List g_api_Share),x2.2)else Ab (Ab (E5 x1) fun x4=>if(x4.2==0)=true then Ab (Fv x2.1) fun x5=>some (x5.2,x4.1,x5.1)else some (x4.2,x4.1,([]:List g_api_Share))) fun x3=>if(x3.1 !=0)=true then some ((⟨0,0,0,[]⟩:DM),([]:List g_api_Share),x3.1)else some ((⟨a1,a2,x3.2.1,x3.2.2⟩:DM),x2.1,0)
theorem Ue {a0 a1 a2 r}(hm:HH a0 a1 a2=some r):Sf prog 26 [sl eB a0,.d (.i a1),.d (.i a2)] (.tup [ag (Qi r.1),sl Ak r.2.1,.d (.i r.2.2)]):=by
 refine sq fun D0 As η0 m0 hd=>gA hm Jh fun _ q1 hm=>gD hm Ub fun x2 q2 hm=>gi hm ?_ ?_<;>intro _ hm
 ·exact Akr hm▸gE
 refine oB hm fun x3 q3 hm=>gB q3 (fun _=>Ji) fun _ q4 q3=>gj (fun(_:Unit)=>let (y_0,y_1,y_2):=x3; ⟨[(6,.pb 0 0),(7,sl Ak x2.1),(8,.d (.i y_0))],[(0,.row 1 2 _ Ak y_2),(1,.box 0 [.d (.i a1),.d (.i a2),.d (.u y_1),.ow 1] 31)],[],2⟩) (fun _=>True) (fun Jp bk1=> ?_) fun _ _=> ?_
 ·refine gi q3 ?_ ?_<;>intro _ q3
  ·refine gD q3 SO fun _ q5 q3=> ?_;obtain rfl:=Akr q3;exact gb bk1 hd () trivial
  refine AjJ Ak 6 3 2 ?_;obtain rfl:=Akr q3;exact gb bk1 hd () trivial
 refine gi hm ?_ ?_<;>intro _ hm
 ·exact Akr hm▸gE
 exact Akr hm▸gE
def DF (a0:g_api_Share):Option Bool:=bnd ((((decide ((1:Int)≤a0.Id))&&(decide (a0.Id≤7)))&&(decide ((a0.X.toNat:Int)<1152921504606845789)))) fun x1=>some x1
theorem N1 {a0 r}(hm:DF a0=some r):Sf prog 97 [ag (Ak a0)] (.d (.t r)):=by
 refine sq ?_;intros;refine bE hm ?_;intro _ hm;exact Akr hm▸gE
def KQ (a0:g_api_Share):Option (Af×Int):=Ab (DF a0) fun x1=>if(!x1)=true then some ((⟨(⟨0,0⟩:g_api_Share),false,false,[],(⟨[],[]⟩:g_api_Store)⟩:Af),1)else some ((⟨a0,false,true,[],(⟨[],[]⟩:g_api_Store)⟩:Af),0)
theorem VH {a0 r}(hm:KQ a0=some r):Sf prog 27 [ag (Ak a0)] (.tup [ag (AK r.1),.d (.i r.2)]):=by
 refine sq ?_;intros;refine gA hm N1 fun _ q1 hm=>gi hm ?_ ?_<;>intro _ hm
 ·exact Akr hm▸gE
 exact Akr hm▸gE
def NQ (a0:Int)(a1:List UInt8)(a2:Int):Option (Aj×Int):=Ab (E4 a1) fun x1=>Ab (Ha (⟨a0,x1,a2,[],[],[]⟩:Aj)) fun x2=>if(x2 !=0)=true then some ((⟨0,0,0,[],[],[]⟩:Aj),1)else some ((⟨a0,x1,a2,[],[],[]⟩:Aj),0)
theorem Aai {a0 a1 a2 r}(hm:NQ a0 a1 a2=some r):Sf prog 28 [.d (.i a0),sl eB a1,.d (.i a2)] (.tup [ag (AJ r.1),.d (.i r.2)]):=by
 refine sq ?_;intros;refine gA hm Jh fun _ q1 hm=>gA hm MW fun _ q2 hm=>gi hm ?_ ?_<;>intro _ hm
 ·exact Akr hm▸gE
 exact Akr hm▸gE
def Jz (a0:Aj):Option (Ar×Int):=Ab (Ha a0) fun x1=>if(x1 !=0)=true then some ((⟨0,0,0⟩:Ar),x1)else Ab (E5 a0.Key) fun x2=>some ((⟨a0.Id,x2.1,a0.Delay⟩:Ar),x2.2)
theorem Ul {a0 r}(hm:Jz a0=some r):Sf prog 99 [ag (AJ a0)] (.tup [ag (AN r.1),.d (.i r.2)]):=by
 refine sq ?_;intros;refine gA hm MW fun _ q1 hm=>gi hm ?_ ?_<;>intro _ hm
 ·exact Akr hm▸gE
 refine gA hm Ji fun _ q2 hm=> ?_;exact Akr hm▸gE
def Kg (i1:Int)(x2:Aj)(s1:(List Ar)):Option (((List Ar))⊕((List Ar)×Int)):=Ab (Jz x2) fun x3=>if(x3.2 !=0)=true then some (.inr (([]:List Ar),x3.2))else Ab (app 24 s1 ([x3.1]:List Ar)) fun x4=>some (.inl x4)
def KU (a0:List Aj):Option ((List Ar)×Int):=Ab (D1 Kg a0 0 ([]:List Ar)) fun x1=>match x1 with| .inr r=>some r| .inl y1=>some (y1,0)
theorem VN {a0 r}(hm:KU a0=some r):Sp prog 29 [sl AJ a0] [] 0 (is (.tup [.ow 0,.d (.i r.2)]) [.row 0 3 _ AN r.1] 1):=by
 refine sq ?_;intros;refine oB hm fun _ q1 hm=>Sj 0 AN 2 3<|Jd 0 (E:=AJ) (xs:=a0) 8 fun hle1=>gF (ER _ _ _) q1 (fun p0 p=>⟨[(2,.ow 0),(8,sl AJ a0),(9,.d (.i (a0.length:Int))),(10,.d (.i p0))],[(0,.row 0 3 _ AN p)],[],1⟩) fun i1 s1 Jl bl1=>cR bl1 (fun _ _ q5 q4 bl1=> ?_) fun e=> ?_
 ·refine gx AJ 6 q5<|gA q4 Ul fun x3 q6 q4=>gi q4 ?_ ?_<;>intro _ q4
  ·refine OE AN 2 3 ?_;obtain rfl:=nT bl1 q4;exact Akr hm▸gE
  exact gq AN 3 [x3.1]<|oB q4 fun _ q7 q4=>gp AN 3 q7<|gT bl1 hle1 q4
 subst e;let y1:=s1;exact Akr hm▸gE
def Hy (x1:AG×Int)(x2:DM×(List g_api_Share)×Int)(i1:Int)(x4:g_api_Share)(s1:(List Af)):Option (((List Af))⊕(DM×(List Af)×(List Aj)×(List Ar)×AG×Ag×Bool)):=Ab (KQ x4) fun x5=>if(x5.2 !=0)=true then some (.inr (x2.1,([]:List Af),([]:List Aj),([]:List Ar),x1.1,(⟨0,ByteArray.empty,ByteArray.empty,0,[],0,0,false,0,[],[],(⟨0,0⟩:g_api_Sig)⟩:Ag),false))else Ab (app 96 s1 ([x5.1]:List Af)) fun x6=>some (.inl x6)
def I2 (a0:List UInt8)(x1:AG×Int)(x2:DM×(List g_api_Share)×Int)(i2:Int)(s2:(List Aj)):Option (((List Aj))⊕(DM×(List Af)×(List Aj)×(List Ar)×AG×Ag×Bool)):=Ab (NQ (i2:Int) a0 20) fun x9=>if(x9.2 !=0)=true then some (.inr (x2.1,([]:List Af),([]:List Aj),([]:List Ar),x1.1,(⟨0,ByteArray.empty,ByteArray.empty,0,[],0,0,false,0,[],[],(⟨0,0⟩:g_api_Sig)⟩:Ag),false))else Ab (app 96 s2 ([x9.1]:List Aj)) fun x10=>some (.inl x10)
def IQ (a0:List UInt8)(a1:Ba):Option (DM×(List Af)×(List Aj)×(List Ar)×AG×Ag×Bool):=
 Ab (Fk ([(⟨(⟨#[97,108,108]⟩:ByteArray),true,([(⟨#[42,46,97]⟩:ByteArray)]:List ByteArray),0,1000,0,0⟩:g_api_Rule)]:List g_api_Rule)) fun x1=>
 Ab (HH a0 2 3) fun x2=>
 if((x1.2 !=0)||(x2.2.2 !=0))=true then
  some (x2.1,([]:List Af),([]:List Aj),([]:List Ar),x1.1,(⟨0,ByteArray.empty,ByteArray.empty,0,[],0,0,false,0,[],[],(⟨0,0⟩:g_api_Sig)⟩:Ag),false)
 else
 Ab (D1 (Hy x1 x2) x2.2.1 0 ([]:List Af)) fun x3=>match x3 with
 | .inr r=>some r
 | .inl y1=>
 Ab (Es (I2 a0 x1 x2) 2 0 ([]:List Aj)) fun x7=>match x7 with
 | .inr r=>some r
 | .inl y3=>
 Ab (KU y3) fun x11=>
 Ab (HN a1 7 100 (⟨#[103,114,101,97,116,115,101,97,108]⟩:ByteArray)) fun x12=>
 if((x11.2 !=0)||(x12.2 !=0))=true then
  some (x2.1,y1,y3,x11.1,x1.1,(⟨0,ByteArray.empty,ByteArray.empty,0,[],0,0,false,0,[],[],(⟨0,0⟩:g_api_Sig)⟩:Ag),false)
 else
 Ab (Fl y3 x12.1 100) fun x13=>
 some (x2.1,y1,x13.1,x11.1,x1.1,x13.2.1,(x13.2.2==0))
theorem VG {a0 a1 r}(hm:IQ a0 a1=some r):Sp prog 6 [sl eB a0,ag (FA a1)] [] 0 (is (.tup [ag (Qi r.1),.ow 0,sl AJ r.2.2.1,.ow 1,ag (Ff r.2.2.2.2.1),ag (B1 r.2.2.2.2.2.1),.d (.t r.2.2.2.2.2.2)]) [.row 0 7 _ AK r.2.1,.row 1 3 _ AN r.2.2.2.1] 2):=by
 refine sq ?_;intros;refine gq eS 1 [(⟨#[42,46,97]⟩:ByteArray)]<|gq Ah 7 [(⟨(⟨#[97,108,108]⟩:ByteArray),true,([(⟨#[42,46,97]⟩:ByteArray)]:List ByteArray),0,1000,0,0⟩:g_api_Rule)]<|gA hm Mw fun x1 q1 hm=>gA hm Ue fun x2 q2 hm=>gi hm ?_ ?_<;>intro _ hm
 ·refine OE AK 5 7<|OE AN 7 3 ?_;obtain rfl:=Akr hm;exact gE
 refine oB hm fun _ q3 hm=>Sj 0 AK 11 7<|Jd 0 (E:=Ak) (xs:=x2.2.1) 52 fun hle1=>gF (ER _ _ _) q3 (fun p0 p=>⟨[(0,sl eB a0),(3,.pb 0 0),(4,.pb 1 0),(8,.pb 2 0),(9,.pb 3 0),(11,.ow 6),(12,.d (.v (.slice none 0 0))),(13,.pb 4 0),(15,.pb 5 0),(52,sl Ak x2.2.1),(53,.d (.i (x2.2.1.length:Int))),(54,.d (.i p0))],[(0,.row 6 7 _ AK p),(1,.box 5 [.d (.i x2.1.T),.d (.i x2.1.N),.d (.u x2.1.Key),sl Ak x2.1.Parts] 31),(2,.box 4 [sl Ah x1.1.Rules,sl Au x1.1.Nodes] 38),(3,.box 3 [.d (.i 0),.d (.s ByteArray.empty),.d (.s ByteArray.empty),.d (.u 0),.d (.v (.slice none 0 0)),.d (.i 0),.d (.i 0),.d (.t false),.d (.i 0),.d (.v (.slice none 0 0)),.d (.v (.slice none 0 0)),.d (.u 0),.d (.u 0)] 43),(4,.box 2 [.d (.v (.slice none 0 0)),.d (.v (.slice none 0 0))] 38),(5,.box 1 [.d (.i 0),.d (.i 0),.d (.u 0),.d (.v (.slice none 0 0))] 31),(6,.box 0 [.d (.i a1.Account),sl eS a1.Names,.d (.u a1.Key),.d (.i a1.Life)] 26)],[],7⟩) fun i1 s1 Jl bl1=>cR bl1 (fun _ _ q7 q6 bl1=> ?_) fun e=> ?_
 ·refine gx Ak 2 q7<|gA q6 VH fun x5 q8 q6=>gi q6 ?_ ?_<;>intro _ q6
  ·refine OE AK 5 7<|OE AN 7 3 ?_;obtain rfl:=nT bl1 q6;obtain rfl:=Akr hm;exact gE
  exact gq AK 7 [x5.1]<|oB q6 fun _ q9 q6=>gp AK 7 q9<|gT bl1 hle1 q6
 subst e;let y1:=s1;refine oB hm fun _ q10 hm=>Sj 2 AJ 12 6<|gF (EN _ 2 _) q10 (fun p0 p=>⟨[(0,sl eB a0),(3,.pb 0 0),(4,.pb 1 0),(8,.pb 2 0),(9,.pb 3 0),(11,.ow 6),(12,.ow 7),(13,.pb 4 0),(15,.pb 5 0),(73,.d (.i p0))],[(0,.row 7 6 _ AJ p),(1,.row 6 7 _ AK y1),(2,.box 5 [.d (.i x2.1.T),.d (.i x2.1.N),.d (.u x2.1.Key),sl Ak x2.1.Parts] 31),(3,.box 4 [sl Ah x1.1.Rules,sl Au x1.1.Nodes] 38),(4,.box 3 [.d (.i 0),.d (.s ByteArray.empty),.d (.s ByteArray.empty),.d (.u 0),.d (.v (.slice none 0 0)),.d (.i 0),.d (.i 0),.d (.t false),.d (.i 0),.d (.v (.slice none 0 0)),.d (.v (.slice none 0 0)),.d (.u 0),.d (.u 0)] 43),(5,.box 2 [.d (.v (.slice none 0 0)),.d (.v (.slice none 0 0))] 38),(6,.box 1 [.d (.i 0),.d (.i 0),.d (.u 0),.d (.v (.slice none 0 0))] 31),(7,.box 0 [.d (.i a1.Account),sl eS a1.Names,.d (.u a1.Key),.d (.i a1.Life)] 26)],[],8⟩) fun i2 s2 Jl bl2=>cN bl2 (2:Int) (fun _ q13 bl2=> ?_) fun e=> ?_
 ·refine gA q13 Aai fun x9 q15 q13=>gi q13 ?_ ?_<;>intro _ q13
  ·refine OE AK 5 7<|OE AN 7 3 ?_;obtain rfl:=nT bl2 q13;obtain rfl:=Akr hm;exact gE
  exact gq AJ 6 [x9.1]<|oB q13 fun _ q16 q13=>gp AJ 6 q16<|gT bl2 lk q13
 subst e;let y3:=s2;refine gD hm VN fun _ q17 hm=>gA hm OZ fun _ q18 hm=>gi hm ?_ ?_<;>intro _ hm
 ·obtain rfl:=Akr hm;exact gE
 refine gD hm Mx fun _ q19 hm=> ?_;obtain rfl:=Akr hm;exact gE
theorem WV {a0:List UInt8}{a1:Ba}{r:DM×(List Af)×(List Aj)×(List Ar)×AG×Ag×Bool}(hm:IQ a0 a1=some r):Sf prog 6 [sl eB a0,ag (FA a1)] (.tup [ag (Qi r.1),sl AK r.2.1,sl AJ r.2.2.1,sl AN r.2.2.2.1,ag (Ff r.2.2.2.2.1),ag (B1 r.2.2.2.2.2.1),.d (.t r.2.2.2.2.2.2)]):=Sp.fz (VG hm) (by kernel_rfl)
def GU (a0:Ag):Option ((List UInt8)×Int):=Ab (Eb a0) fun x1=>if(x1 !=0)=true then some (([]:List UInt8),x1)else Ab (Ks a0) fun x2=>Ab (HS x2) fun x3=>some (x3.1,x3.2)
theorem QZ {a0 r}(hm:GU a0=some r):Sp prog 40 [ag (B1 a0),.fn (.func 41) [] []] [] 0 (is (.tup [.ow 0,.d (.i r.2)]) [.row 0 1 _ eB r.1] 1):=by
 refine sq ?_;intros;refine gA hm IK fun _ q1 hm=>gi hm ?_ ?_<;>intro _ hm
 ·refine OE eB 4 1 ?_;exact Akr hm▸gE
 refine gA hm RO fun _ q2 hm=>gD hm O1 fun _ q3 hm=> ?_;exact Akr hm▸gE
def Fe (a0:Ag):Option ((List UInt8)×Int):=Ab (GU a0) fun x1=>some (x1.1,x1.2)
theorem XA {a0 r}(hm:Fe a0=some r):Sp prog 9 [ag (B1 a0)] [] 0 (is (.tup [.ow 0,.d (.i r.2)]) [.row 0 1 _ eB r.1] 1):=by
 refine sq ?_;intros;refine gD hm QZ fun _ q1 hm=> ?_;exact Akr hm▸gE
theorem Sv {a0:Ag}{r:(List UInt8)×Int}(hm:Fe a0=some r):Sf prog 9 [ag (B1 a0)] (.tup [sl eB r.1,.d (.i r.2)]):=Sp.fz (XA hm) (by kernel_rfl)
def Bq (a0:Int):Option (Except (Int×Int) Unit):=if(a0 !=0)=true then some (.error (a0,0))else some (.ok ())
theorem AD {a0 r}(hm:Bq a0=some r):Sb prog 45 [.d (.i a0)] [] 0 (thV 214 r) (Pos (exo r) (fun r=> .tup []) (fun r=> []) 0) (exo r=none):=
 sb call45 func45 rfl ntmps45 rfl fun D0 As η0 m0 hd=>by
  unfold Bq at hm;refine gi hm ?_ ?_<;>intro hc1 hm
  ·obtain rfl:=Akr hm;exact Ye (by kernel_rfl)
  obtain rfl:=Akr hm;exact Qg hd
def Fi (a0:g_api_Done):Option g_api_Done:=some a0
theorem Mu {a0 r}(hm:Fi a0=some r):Sp prog 124 [ag (Ai a0)] [] 0 (is (.fn (.func 220) [] [.pb 0 0]) [.box 0 [.d (.i r.Session),.d (.i r.Serial),.d (.u r.Body.1),.d (.u r.Body.2)] 124] 1):=by
 refine sq ?_;intros;exact Akr hm▸gE
def Ly (a0:g_api_Store):Option (List UInt8):=Ab (Bb ([a0.Safe,a0.Open]:List (List UInt8))) fun x1=>some x1
theorem Rv {a0 r}(hm:Ly a0=some r):Sp prog 140 [ag (Du a0)] [] 0 (is (.ow 0) [.row 0 1 _ eB r] 1):=by
 refine sq ?_;intros;refine gq (eL eB) 1 [a0.Safe,a0.Open]<|gD hm Dh fun _ q1 hm=> ?_;exact Akr hm▸gE
def Lx (i2:Int)(x5:UInt8)(s2:Int):Option ((Int)⊕Unit):=bnd ((w64 ((NY s2 8)+(w64 (x5.toNat:Int))))) fun x6=>if(decide (x6>4096))=true then some (.inr ())else some (.inl x6)
def C7 {σ:Type}(p0:σ→((List UInt8)×Int)→Option (Bool×σ))(k0:List UInt8)(s1:Int×σ):Option ((Int×σ)⊕(σ)):=if(decide ((w64 ((k0.length:Int)-s1.1))≥20))=true then Ab (cut k0 s1.1 (w64 (s1.1+4))) fun x3=>Ab (D1 Lx x3 0 0) fun x4=>match x4 with| .inr _=>some (.inr s1.2)| .inl y2=>bnd ((w64 ((w64 ((w64 (s1.1+4))+y2))+16))) fun x7=>if(decide (x7>(k0.length:Int)))=true then some (.inr s1.2)else Ab (cut k0 (w64 (s1.1+4)) (w64 (x7-16))) fun x8=>Ab (Im x8) fun x9=>Ab (Cm x9) fun x10=>Ab (cut k0 (w64 (x7-16)) x7) fun x11=>Ab (Gr x10 x11) fun x12=>if(!x12)=true then some (.inr s1.2)else Ab (p0 s1.2 (x8,x7)) fun x13=>if(!x13.1)=true then some (.inr x13.2)else some (.inl (x7,x13.2))else some (.inr s1.2)
def Ek {σ:Type}(p0:σ→((List UInt8)×Int)→Option (Bool×σ))(k0:List UInt8)(s0:σ):Option ((List UInt8)×σ):=Ab (iter (C7 p0 k0) EV (0,s0)) fun x1=>some (k0,x1)
theorem N0 {σ:Type}{p0:σ→((List UInt8)×Int)→Option (Bool×σ)}{k0 s0 r}(hm:Ek p0 k0 s0=some r)(g:Value)(R:σ→Mem→Ow)(hcb:Aab prog g (fun x=> [sl eB x.1,.d (.i x.2)]) R p0):Sp prog 233 [.ow 0,.pb 1 0] [.hp 0 (.cb g σ R s0),.box 1 [sl eB k0] 22] 2 (is (.tup []) [.hp 0 (.cb g σ R r.2),.box 1 [.d (.sl _ eB r.1)] 22] 2):=by
 refine sq fun D0 As η0 m0 hd=>oB hm fun x1 q1 hm=>gjU 0 (fun(_:Unit)=>⟨[],[(0,.box 1 [sl eB k0] 22),(1,.hp 0 (.cb g σ R x1))],[],2⟩) (fun _=>True) (fun Jp bk1=> ?_) fun _ _=> ?_
 ·refine gI q1 (fun(p_0,p_1)=>⟨[(0,.ow 0),(1,.pb 1 0),(3,.d (.i p_0))],[(0,.box 1 [sl eB k0] 22),(1,.hp 0 (.cb g σ R p_1))],[],2⟩) fun s1 _ Jl q4 bl1=>gi q4 ?_ ?_<;>intro _ q4
  ·refine oB q4 fun x3 q6 q4=>gk eB 1 q6<|oB q4 fun _ q7 q4=>Jd 2 (E:=eB) (xs:=x3) 18 fun hle2=>gF (ER _ _ _) q7 (fun p0 p=>⟨[(0,.ow 0),(1,.pb 1 0),(3,.d (.i s1.1)),(4,.d (.i p)),(18,sl eB x3),(19,.d (.i (x3.length:Int))),(20,.d (.i p0))],[(0,.box 1 [sl eB k0] 22),(1,.hp 0 (.cb g σ R s1.2))],[],2⟩) fun i2 s2 Jl bl2=>cR bl2 (fun _ _ q11 q10 bl2=> ?_) fun e=> ?_
   ·refine gx eB 1 q11<|bE q10 ?_;intro _ q10;refine gi q10 ?_ ?_<;>intro _ q10
    ·obtain rfl:=nT bl2 q10;obtain rfl:=nR bl1 q4;exact gb bk1 hd () trivial
    exact gT bl2 hle2 q10
   subst e;let y2:=s2;refine bE q4 ?_;intro x7 q4;refine gi q4 ?_ ?_<;>intro _ q4
   ·obtain rfl:=nR bl1 q4;exact gb bk1 hd () trivial
   refine oB q4 fun x8 q14 q4=>gk eB 1 q14<|gA q4 NM fun _ q15 q4=>gD q4 EP fun x10 q16 q4=>oB q4 fun _ q17 q4=>gk eB 1 q17<|oB q4 fun _ q18 q4=>gco (Sp.lend (os:=[.row 0 1 _ eB x10]) (n1:=1) (O4 q18) (.cons (.row (.head _)) (.cons (.same (by kernel_rfl)) .nil)) (by kernel_rfl))<|AhD 57 q4 (fun hc5 q4=> ?_) fun hc5 q4=> ?_
   ·refine gi' (b:=true) (fun _=> ?_) (fun h=>by cases h);obtain rfl:=nR bl1 q4;exact gb bk1 hd () trivial
   refine oB q4 fun _ q19 q4=>gcb (x8,x7) hcb q19<|gi q4 ?_ ?_<;>intro _ q4
   ·obtain rfl:=nR bl1 q4;exact gb bk1 hd () trivial
   exact gN bl1 q4
  obtain rfl:=nR bl1 q4;exact gb bk1 hd () trivial
 exact Akr hm▸gE
def KO (a0:List UInt8):Option (List UInt8):=some a0
theorem Qv {a0 r}(hm:KO a0=some r):Sp prog 141 [sl eB a0] [] 0 (is (.fn (.func 233) [] [.pb 0 0]) [.box 0 [sl eB r] 22] 1):=by
 refine sq ?_;intros;exact Akr hm▸gE
def Jn (b6:(List UInt8)×Int)(s1:Int×(List (List UInt8))):Option (Int×(List (List UInt8))):=Ab (Ec b6.1) fun x4=>Ab (app 24 s1.2 ([x4]:List (List UInt8))) fun x5=>some (b6.2,x5)
def Ij (a0:g_api_Store):Option ((List (List UInt8))×Int):=Ab (Ly a0) fun x1=>Ab (KO x1) fun x2=>Ab (Ek (fun(s:Int×(List (List UInt8))) (b0:(List UInt8)×Int)=>Ab (Jn b0 s) fun y=>some (true,y)) x2 (0,([]:List (List UInt8)))) fun x3=>some (x3.2.2,x3.2.1)
theorem Aad {a0 r}(hm:Ij a0=some r):Sp prog 142 [ag (Du a0)] [] 0 (is (.tup [.ow 0,.d (.i r.2)]) [.row 0 1 _ (eL eB) r.1] 1):=
 spR call142 func142 rfl ntmps142 rfl fun D0 As η0 m0 hD hd=>by
  unfold Ij at hm;refine gD hm Rv fun _ q1 hm=>gD hm Qv fun x2 q2 hm=>oB hm fun x3 q3 hm=>AjJ (eL eB) 2 0 1<|Lb hD (n0:=0) 4 5 [⟨4,3,22,[sl eB x2],[sl eB x3.1]⟩] (gt:=8) (ps:=[9,10]) [(2,.pb 1 0),(3,.pb 2 0),(8,.fn (.func 233) [] [.pb 3 0])] (fun(y1:Int×(List (List UInt8)))=> [(0,.row 4 1 _ (eL eB) y1.2),(1,.box 2 [.d (.i y1.1)] 3),(2,.box 1 [.ow 4] 244),(3,.box 0 [sl eB a0.Safe,sl eB a0.Open] 57)]) (fun(_:Unit)=> []) (fun x=> [sl eB x.1,.d (.i x.2)]) (fun(s1:Int×(List (List UInt8))) (b6:(List UInt8)×Int)=>⟨[(2,.pb 1 0),(3,.pb 2 0),(4,sl eB b6.1),(5,.d (.i b6.2)),(8,.fn (.func 233) [] [.pb 3 0])],[(0,.row 4 1 _ (eL eB) s1.2),(1,.box 2 [.d (.i s1.1)] 3),(2,.box 1 [.ow 4] 244),(3,.box 0 [sl eB a0.Safe,sl eB a0.Open] 57)],[],5⟩) (pN fun x s=>Jn x s) (0,([]:List (List UInt8))) hd (via Sum.inl hyN rfl fun g R h=>N0 q3 g R h) rfl (fun _=>rfl) (fun _=>rfl) (fun _=>rfl) (fun _=>rfl) ?_ ?_ ?_ ?_
  ·intro s1 b6 s' hp l D0 As η0 m0 hd Ja ba;exact gb ba hd () trivial
  ·intro s1 b6 s' hp l D0 As η0 m0 hd Jb bb Jr br;obtain⟨z1,q4,hp⟩:=Akx.1 hp;subst hp;unfold Jn at q4;refine gD q4 LQ fun x4 q5 q4=>WL (k:=1) (eL eB) ([x4]:List (List UInt8)) (fun _=>rfl)<|oB q4 fun x5 q6 q4=>gp (eL eB) 1 q6 ?_;obtain rfl:=Akr q4;exact gb bb hd (b6.2,x5) rfl
  ·intro x hx;have hx:=Sum.inl.inj hx;subst hx;exact Akr hm▸gE
  intro y hy;cases hy
def DH (a0:List UInt8)(i1:Int)(s1:UInt64×UInt64):Option (UInt64×UInt64):=Ab (Ab (idx a0 (i1:Int)) fun x5=>if(decide ((i1:Int)<16))=true then bnd (w64 (Int.tdiv (i1:Int) 8)) fun x6=>bnd (w64 (Int.tdiv (i1:Int) 8)) fun x7=>Ab (idx [s1.1,s1.2] x7) fun x8=>Ab (idx [s1.1,s1.2] x6) fun x9=>bnd (if x6=0 then((JL x8 8)|||(toU (x5.toNat:Int)))else s1.1) fun x10=>bnd (if x6=1 then((JL x8 8)|||(toU (x5.toNat:Int)))else s1.2) fun x11=>some (x10,x11)else some (s1.1,s1.2)) fun x4=>some (x4.1,x4.2)
def Nu (a0:List UInt8):Option ((UInt64×UInt64)×Int):=if(decide ((a0.length:Int)<16))=true then some ((0,0),70)else Ab (Ab (Cg (DH a0) a0.length 0 (0,0)) fun x2=>some (x2.1,x2.2)) fun x1=>if((decide ((a0.length:Int)>16))||(decide (((P9 x1.1 x1.2).toNat:Int)≥2305843009213693951)))=true then some ((0,0),71)else some (x1,0)
theorem VO {a0 r}(hm:Nu a0=some r):Sf prog 234 [sl eB a0] (.tup [ag (A7 r.1),.d (.i r.2)]):=by
 refine sq fun D0 As η0 m0 hd=>gi hm ?_ ?_<;>intro _ hm
 ·exact Akr hm▸gE
 obtain⟨x1,q1,hm⟩:=Ac hm;refine oB q1 fun _ q2 q1=>Jd 0 (E:=eB) (xs:=a0) 10 fun hle1=>gF (EM _ _ _) q2 (fun p0 (p_0,p_1)=>⟨[(0,sl eB a0),(2,.pb 0 0),(10,sl eB a0),(11,.d (.i (a0.length:Int))),(12,.d (.i p0))],[(0,.box 0 [.d (.u p_0),.d (.u p_1)] 81)],[],1⟩) fun i1 s1 Jl bl1=>cM bl1 (a0.length:Int) (fun _ q5 bl1=> ?_) fun e=> ?_
 ·refine oB q5 fun x4 q7 q5=>gjU 1 (fun(_:Unit)=>let (y_0,y_1):=x4; ⟨[(0,sl eB a0),(2,.pb 0 0),(10,sl eB a0),(11,.d (.i (a0.length:Int))),(12,.d (.i (i1:Int)))],[(0,.box 0 [.d (.u y_0),.d (.u y_1)] 81)],[],1⟩) (fun _=>True) (fun Jp bk3=> ?_) fun _ _=> ?_
  ·refine oB q7 fun x5 q8 q7=>gx eB 1 q8<|gi q7 ?_ ?_<;>intro _ q7
   ·refine bE q7 ?_;intro _ q7;refine bE q7 ?_;intro _ q7;refine oB q7 fun x8 q11 q7=>OF (fun _=>q11)<|gldA D.u (fun _=>q11)<|oB q7 fun _ q12 q7=>OF (fun _=>q12)<|bE q7 ?_;intro _ q7;refine bE q7 ?_;intro _ q7;refine Af9 D.u ((JL x8 8)|||(toU (x5.toNat:Int))) q12 ?_;obtain rfl:=Akr q7;exact gb bk3 hd () trivial
   obtain rfl:=Akr q7;exact gb bk3 hd () trivial
  exact gM bl1 hle1 q5
 subst e;obtain rfl:=Akr q1;refine gi hm ?_ ?_<;>intro _ hm
 ·exact Akr hm▸gE
 exact Akr hm▸gE
def Jq (a0:List UInt8):Option (g_api_Done×Bool):=if((a0.length:Int) !=32)=true then some ((⟨0,0,(0,0)⟩:g_api_Done),false)else Ab (cut a0 0 16) fun x1=>Ab (Nu x1) fun x2=>Ab (cut a0 16 (a0.length:Int)) fun x3=>Ab (Nu x3) fun x4=>if(((x2.2 !=0)||(x4.2 !=0))||(decide (((P9 x2.1.1 x2.1.2).toNat:Int)>1099511627776)))=true then some ((⟨0,0,(0,0)⟩:g_api_Done),false)else some ((⟨(w64 (x2.1.1.toNat:Int)),(w64 (x2.1.2.toNat:Int)),x4.1⟩:g_api_Done),true)
theorem T9 {a0 r}(hm:Jq a0=some r):Sf prog 143 [sl eB a0] (.tup [ag (Ai r.1),.d (.t r.2)]):=by
 refine sq ?_;intros;refine gi hm ?_ ?_<;>intro _ hm
 ·exact Akr hm▸gE
 refine oB hm fun _ q1 hm=>gk eB 1 q1<|gA hm VO fun _ q2 hm=>oB hm fun _ q3 hm=>gk eB 1 q3<|gA hm VO fun _ q4 hm=>gi hm ?_ ?_<;>intro _ hm
 ·exact Akr hm▸gE
 exact Akr hm▸gE
def IS (a0:g_api_Done)(k0:g_api_Done):Option Bool:=bnd (((!CR k0 a0)&&((k0.Session==a0.Session)||((k0.Serial==a0.Serial)&&(!G3 k0.Body a0.Body))))) fun x1=>some x1
theorem MP {a0 k0 r}(hm:IS a0 k0=some r):Sf prog 220 [ag (Ai a0),.d (.pf [.i k0.Session,.i k0.Serial,.u k0.Body.1,.u k0.Body.2])] (.d (.t r)):=by
 refine sq ?_;intros;refine bE hm ?_;intro _ hm;exact Akr hm▸gE
def AF (a0:List g_api_Done)(k0:g_api_Done)(i1:Int)(s1:Unit):Option ((Unit)⊕Int):=Ab (idx a0 (i1:Int)) fun x3=>Ab (IS x3 k0) fun x4=>if x4=true then some (.inr (i1:Int))else some (.inl ())
def BK (a0:List g_api_Done)(k0:g_api_Done):Option Int:=Ab (Es (AF a0 k0) a0.length 0 ()) fun x1=>match x1 with| .inr r=>some r| .inl y1=>some (-1)
theorem EK {a0 k0 r}(hm:BK a0 k0=some r):Sf prog 219 [sl Ai a0,.fn (.func 220) [] [.d (.pf [.i k0.Session,.i k0.Serial,.u k0.Body.1,.u k0.Body.2])]] (.d (.i r)):=by
 refine sq ?_;intros;refine oB hm fun _ q1 hm=>Jd 0 (E:=Ai) (xs:=a0) 6 fun hle1=>gF (EN _ _ _) q1 (fun p0 _=>⟨[(0,sl Ai a0),(1,.fn (.func 220) [] [.d (.pf [.i k0.Session,.i k0.Serial,.u k0.Body.1,.u k0.Body.2])]),(7,.d (.i (a0.length:Int))),(8,.d (.i p0))],[],[],0⟩) fun i1 s1 Jl bl1=>cN bl1 (a0.length:Int) (fun _ q4 bl1=> ?_) fun e=> ?_
 ·refine oB q4 fun _ q6 q4=>gx Ai 4 q6<|gD q4 MP fun _ q7 q4=>gi q4 ?_ ?_<;>intro _ q4
  ·obtain rfl:=nT bl1 q4;exact Akr hm▸gE
  exact gT bl1 hle1 q4
 subst e;exact Akr hm▸gE
def Aw (a0:List g_api_Done)(k0:g_api_Done):Option Bool:=Ab (BK a0 k0) fun x1=>some (decide (x1≥0))
theorem Cp {a0 k0 r}(hm:Aw a0 k0=some r):Sf prog 123 [sl Ai a0,.fn (.func 220) [] [.d (.pf [.i k0.Session,.i k0.Serial,.u k0.Body.1,.u k0.Body.2])]] (.d (.t r)):=by
 refine sq ?_;intros;refine gD hm EK fun _ q1 hm=> ?_;exact Akr hm▸gE
def GO (i1:Int)(x3:List UInt8)(s1:(List g_api_Done)):Option (((List g_api_Done))⊕((List g_api_Done)×Bool×Bool)):=Ab (Jq x3) fun x4=>if(!x4.2)=true then some (.inr (([]:List g_api_Done),false,false))else Ab (Fi x4.1) fun x5=>Ab (Aw s1 x5) fun x6=>if x6=true then some (.inr (([]:List g_api_Done),false,false))else Ab (app 32 s1 ([x4.1]:List g_api_Done)) fun x7=>some (.inl x7)
def Di (a0:g_api_Store):Option ((List g_api_Done)×Bool×Bool):=Ab (Ij a0) fun x1=>Ab (D1 GO x1.1 0 ([]:List g_api_Done)) fun x2=>match x2 with| .inr r=>some r| .inl y1=>bnd ((x1.2==(w64 ((a0.Safe.length:Int)+(a0.Open.length:Int))))) fun x8=>some (y1,x8,true)
theorem OR {a0 r}(hm:Di a0=some r):Sp prog 62 [ag (Du a0)] [] 0 (is (.tup [.ow 0,.d (.t r.2.1),.d (.t r.2.2)]) [.row 0 4 _ Ai r.1] 1):=by
 refine sq ?_;intros;refine gD hm Aad fun x1 q1 hm=>oB hm fun _ q2 hm=>Sj 0 Ai 2 4<|Jd 0 (E:=(eL eB)) (xs:=x1.1) 16 fun hle1=>gF (ER _ _ _) q2 (fun p0 p=>⟨[(1,.pb 0 0),(2,.ow 1),(6,.d (.i x1.2)),(16,sl (eL eB) x1.1),(17,.d (.i (x1.1.length:Int))),(18,.d (.i p0))],[(0,.row 1 4 _ Ai p),(1,.box 0 [sl eB a0.Safe,sl eB a0.Open] 57)],[],2⟩) fun i1 s1 Jl bl1=>cR bl1 (fun _ _ q6 q5 bl1=> ?_) fun e=> ?_
 ·refine gx (eL eB) 1 q6<|gA q5 T9 fun x4 q7 q5=>AhD 29 q5 (fun hc1 q5=> ?_) fun hc1 q5=> ?_
  ·refine gi' (b:=true) (fun _=> ?_) (fun h=>by cases h);refine OE Ai 2 4 ?_;obtain rfl:=nT bl1 q5;exact Akr hm▸gE
  refine gD q5 Mu fun x5 q8 q5=>oB q5 fun _ q9 q5=>gco (Sp.lend (os:=[.row 0 4 _ Ai s1,.box 1 [.d (.i x5.Session),.d (.i x5.Serial),.d (.u x5.Body.1),.d (.u x5.Body.2)] 124]) (n1:=2) (Cp q9) (.cons (.row (.head _)) (.fn (.cons (.pf (.tail _ (.head _)) (.d (.d (.d (.d .nil))))) .nil) .nil)) (by kernel_rfl))<|gi q5 ?_ ?_<;>intro _ q5
  ·refine OE Ai 2 4 ?_;obtain rfl:=nT bl1 q5;exact Akr hm▸gE
  exact gq Ai 4 [x4.1]<|oB q5 fun _ q10 q5=>gp Ai 4 q10<|gT bl1 hle1 q5
 subst e;let y1:=s1;refine bE hm ?_;intro _ hm;exact Akr hm▸gE
end Go.Proofs.YtlahakpgjlmeaaaGreatDoor
