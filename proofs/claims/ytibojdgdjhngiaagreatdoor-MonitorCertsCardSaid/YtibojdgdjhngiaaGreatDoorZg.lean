/- The walks of some functions, by the executor, written by program. Conditions: none. -/
import Derived.Test.YtibojdgdjhngiaaGreatDoorZf
set_option linter.unusedSimpArgs false
set_option linter.unusedVariables false
set_option maxHeartbeats 20000000
set_option maxRecDepth 100000
namespace Go.Proofs.YtibojdgdjhngiaaGreatDoor
open Go Go.Gw Go.Ax Tryz
attribute [local irreducible] Go.Ax.Go
def Fv (a0:List UInt8):Option Bool:=Ab (gu ((a0.length:Int)==1) (idx a0 0)) fun x1=>Ab (gu (((a0.length:Int)==1)&&(!((x1.toNat:Int)==0))) (idx a0 0)) fun x2=>bnd ((((a0.length:Int)==1)&&(((x1.toNat:Int)==0)||((x2.toNat:Int)==255)))) fun x3=>some x3
theorem T0 {a0 r}(hm:Fv a0=some r):Sf prog 305 [sl eB a0] (.d (.t r)):=by
 refine sq ?_;intros;refine oB hm fun x1 q1 hm=>gxG eB 1 q1<|oB hm fun x2 q2 hm=>gxG eB 1 q2<|bE hm ?_;intro x3 hm;obtain rfl:=AjC hm;exact gE
def Jq (a0:List UInt8):Option Bool:=if((a0.length:Int)==0)=true then some false else if((a0.length:Int)==1)=true then some true else Ab (idx a0 1) fun x1=>Ab (gu (decide ((a0.length:Int)≤8)) (idx a0 0)) fun x2=>bnd (((decide ((a0.length:Int)≤8))&&((x2.toNat:Int) !=((toB (-((AbN x1 7).toNat:Int))).toNat:Int)))) fun x3=>some x3
theorem Qv {a0 r}(hm:Jq a0=some r):Sf prog 149 [sl eB a0] (.d (.t r)):=by
 refine sq ?_;intros;refine gi hm ?_ ?_<;>intro hc1 hm
 ·obtain rfl:=AjC hm;exact gE
 refine gi hm ?_ ?_<;>intro hc2 hm
 ·obtain rfl:=AjC hm;exact gE
 refine oB hm fun x1 q1 hm=>gx eB 1 q1<|oB hm fun x2 q2 hm=>gxG eB 1 q2<|bE hm ?_;intro x3 hm;obtain rfl:=AjC hm;exact gE
def Od (a0:List UInt8):Option Bool:=some true
theorem TZ {a0 r}(hm:Od a0=some r):Sf prog 306 [sl eB a0] (.d (.t r)):=by
 refine sq ?_;intros;exact AjC hm▸gE
def Js (a0:UInt8):Option Bool:=bnd (((decide ((a0.toNat:Int)<32))||(decide ((a0.toNat:Int)>126)))) fun x1=>some x1
theorem Qw {a0 r}(hm:Js a0=some r):Sf prog 309 [.d (.b a0)] (.d (.t r)):=by
 refine sq ?_;intros;refine bE hm ?_;intro x1 hm;obtain rfl:=AjC hm;exact gE
def AD (a0:List UInt8)(i1:Int)(s1:Unit):Option ((Unit)⊕Int):=Ab (idx a0 (i1:Int)) fun x3=>Ab (Js x3) fun x4=>if x4=true then some (.inr (i1:Int))else some (.inl ())
def Cp (a0:List UInt8):Option Int:=Ab (Kb (AD a0) a0.length 0 ()) fun x1=>match x1 with| .inr r=>some r| .inl y1=>some (-1)
theorem Gx {a0 r}(hm:Cp a0=some r):Sf prog 311 [sl eB a0,.fn (.func 309) [] []] (.d (.i r)):=by
 refine sq ?_;intros;refine oB hm fun x1 q1 hm=>O2 0 (E:=eB) (xs:=a0) 6 fun hle1=>gF (EN _ _ _) q1 (fun p0 _=>⟨[(0,sl eB a0),(1,.fn (.func 309) [] []),(7,.d (.i (a0.length:Int))),(8,.d (.i p0))],[],[],0⟩) fun i1 s1 Jl bl1=>cN bl1 (a0.length:Int) (fun y2 q4 bl1=> ?_) fun e=> ?_
 ·refine oB q4 fun x3 q6 q4=>gx eB 1 q6<|gA q4 Qw fun x4 q7 q4=>gi q4 ?_ ?_<;>intro hc1 q4
  ·obtain rfl:=nT bl1 q4;exact AjC hm▸gE
  exact gT bl1 hle1 q4
 subst e;exact AjC hm▸gE
def BW (a0:List UInt8):Option Bool:=Ab (Cp a0) fun x1=>some (decide (x1≥0))
theorem FH {a0 r}(hm:BW a0=some r):Sf prog 308 [sl eB a0,.fn (.func 309) [] []] (.d (.t r)):=by
 refine sq ?_;intros;refine gA hm Gx fun x1 q1 hm=> ?_;exact AjC hm▸gE
def IK (a0:List UInt8):Option Bool:=Ab (BW a0) fun x1=>some (!x1)
theorem TY {a0 r}(hm:IK a0=some r):Sf prog 307 [sl eB a0] (.d (.t r)):=by
 refine sq ?_;intros;refine gA hm FH fun x1 q1 hm=> ?_;exact AjC hm▸gE
def IJ (a0:List UInt8):Option Bool:=some ((a0.length:Int)==0)
theorem TX {a0 r}(hm:IJ a0=some r):Sf prog 310 [sl eB a0] (.d (.t r)):=by
 refine sq ?_;intros;exact AjC hm▸gE
def A4 (a1:Int):Option (List g_api_Leaf):=Ab (if(decide (a1<0))=true then none else some ()) fun x1=>Ab (bnd ((w64 (a1-(w64 (0-((0:Nat):Int)))))) fun x3=>if(decide (x3>0))=true then if 0≤x3∧x3*32≤140737488355328∧x3≤140737488355328 then some ([]:List g_api_Leaf)else none else some ([]:List g_api_Leaf)) fun x2=>some x2
theorem F7 {m As w a1 r}(S:St m (As) w)(hm:A4 a1=some r):
  By Tryz.prog 133 #[.slice none 0 0,vI a1] w fun v w'=> ∃(M:Mem),m≤M∧∃(rv0:Value) (rc0:List Value),St M ((row 2 rv0 rc0 r.length)::As) w'∧v=rv0∧Ba M rc0 r:=by
 unfold A4 at hm;have L0:=Mem.rfl' m;refine Hh (args:=[.slice none 0 0,vI a1]) Tryz.func133 rfl Tryz.ntmps133 (AjO rfl)<|Ai<|Af<|B5 (v:= .slice none 0 0) rfl<|Ak<|nrm ?_;obtain⟨x1,q1,hm⟩:=Ad hm;have L1:=Mem.rfl' m;refine Ai<|CG [5,6,7] (fun f' w'=> ∃(M1:Mem),m≤M1∧St M1 (As) w'∧E9 f' []) ?_ ?_
 ·refine Ai<|Af<|AR (v:=vI a1) rfl<|OP (m:=a1) (n:=0) rfl rfl<|Ak<|nrm<|DM (t:=(decide (a1<0))) rfl (fun hc1=> ?_) (fun hc1=> ?_)
  ·replace q1:=ifT hc1 q1;cases q1
  replace q1:=ifF hc1 q1;refine BR<|nrm ?_;obtain rfl:=AjC q1;exact⟨I7,m,L1,S,trivial⟩
 rintro f1 w1 ho ⟨m1,l1,S1,ha⟩;obtain⟨u1,rfl⟩:=Ds (N:=27) ho ha;replace L0:=Mem.tr L0 l1;clear S;obtain⟨x2,q2,hm⟩:=Ad hm;have L2:=Mem.rfl' m1;refine Ai<|CG [0,1,8,9,10,11,12,13,14,15,16,17,18,19,20,21,22,23,24,25] (fun f' w'=> ∃(M2:Mem) (v1:Value) (c1:List Value),m1≤M2∧St M2 ((row 2 v1 c1 x2.length)::As) w'∧Ba M2 c1 x2∧E9 f' [(0,v1)]) ?_ ?_
 ·refine Ai<|Af<|AR (v:=vI a1) rfl<|AR (v:= .slice none 0 0) rfl<|P4 rfl Tryz.underlying23<|AR (v:= .slice none 0 0) rfl<|V8 (n:=0) rfl Tryz.underlying23<|Pv (m:=0) (n:=((0:Nat):Int)) rfl rfl<|Pv (m:=a1) (n:=(w64 (0-((0:Nat):Int)))) rfl rfl ?_;obtain⟨x3,q3,q2⟩:=Mr q2;refine B5 (v:=vI x3) (Aki (fun z=>vI z) q3.symm)<|Ak<|nrm<|Ai<|Af<|AR (v:=vI x3) rfl<|Aaw (m:=x3) (n:=0) rfl rfl<|Ak<|nrm ?_;refine DM (t:=(decide (x3>0))) rfl (fun hc2=> ?_) (fun hc2=> ?_)
  ·replace q2:=ifT hc2 q2;refine Af<|AR (v:= .slice none 0 0) rfl<|AR (v:= .slice none 0 0) rfl<|P4 rfl Tryz.underlying23<|Agz rfl Tryz.underlying23 Tryz.sizeOf79 rfl<|AR (v:=vI x3) rfl ?_;obtain⟨q4,q2⟩:=Cz q2;refine AgB (bytes:=32) (sz:=2) (k:=x3) (ti:=Tryz.t79) S1 rfl rfl q4 Tryz.underlying23 Tryz.underlying3 Tryz.type79 rfl rfl rfl rfl ?_;intro v2 c2 w2 S2;replace S2:St _ ((row 2 v2 c2 x3.toNat)::As) _:=S2;clear S1;refine AR (v:= .slice none 0 0) rfl<|V8 (n:=0) rfl Tryz.underlying23<|Zb (i:=0) S2 rfl rfl Tryz.underlying23 Tryz.sizeOf79 rfl (j:=0) rfl (Int.le_refl 0) (AkC _) ?_;intro v3 S3;rw[show c2.take ((0:Int).toNat*2)=[]from by simp]at S3;have h2:Ba m1 [] ([]:List g_api_Leaf):=Ba.nil;replace S3:St _ ((row 2 v3 [] ([]:List g_api_Leaf).length)::As) _:=S3;clear S2;refine B5 (v:=v3) rfl<|Ak<|nrm ?_;obtain rfl:=AjC q2;exact⟨I7,m1,_,_,L2,S3,h2,⟨rfl,trivial⟩⟩
  replace q2:=ifF hc2 q2;refine BR<|nrm ?_;have S4:=St.rowNil S1 2;have h3:Ba m1 [] ([]:List g_api_Leaf):=Ba.nil;replace S4:St _ ((row 2 (.slice none 0 0) [] ([]:List g_api_Leaf).length)::As) _:=S4;clear S1;obtain rfl:=AjC q2;exact⟨I7,m1,_,_,L2,S4,h3,⟨rfl,trivial⟩⟩
 rintro f2 w3 ho ⟨m2,v1,c1,l2,S5,h1,ha⟩;obtain⟨u2,rfl⟩:=Ds (N:=27) ho ha;replace L0:=Mem.tr L0 l2;clear S1;refine Ai<|Af<|AR (v:=v1) rfl<|B5 (v:=v1) rfl<|Ak<|nrm<|C4<|Ix ?_;intro we hpd;replace S5:=St.pd S5 hpd;obtain rfl:=AjC hm;exact LZ [_] rfl ⟨rfl,trivial⟩ ⟨_,L0,_,_,S5,rfl,h1⟩
def A3 (i1:Int)(x3:List g_api_Leaf)(s1:Int):Option (Int):=Ab (bnd ((w64 (s1+(x3.length:Int)))) fun x5=>if(decide (x5<0))=true then none else some x5) fun x4=>some x4
def A2 (i2:Int)(x9:List g_api_Leaf)(s2:(List g_api_Leaf)):Option ((List g_api_Leaf)):=Ab (app 32 s2 x9) fun x10=>some x10
def AU (a0:List (List g_api_Leaf)):Option (List g_api_Leaf):=Ab (Ab (Db A3 a0 0 0) fun x2=>some x2) fun x1=>Ab (A4 x1) fun x6=>Ab (Ab (Db A2 a0 0 x6) fun x8=>some x8) fun x7=>some x7
theorem Gy {m As w a0}{a0v0:Value}{r}(S:St m (As) w)(a0h0:SlR m a0v0 a0)(hm:AU a0=some r):
  By Tryz.prog 85 #[a0v0] w fun v w'=> ∃(M:Mem),m≤M∧∃(rv0:Value) (rc0:List Value),St M ((row 2 rv0 rc0 r.length)::As) w'∧v=rv0∧Ba M rc0 r:=by
 unfold AU at hm;have L0:=Mem.rfl' m;refine Hh (args:=[a0v0]) Tryz.func85 rfl Tryz.ntmps85 (AjO rfl)<|Ai<|Af<|B5 (v:= .slice none 0 0) rfl<|Ak<|nrm<|Ai<|Af<|B5 (v:=vI 0) rfl ?_;refine Ak<|nrm ?_;obtain⟨x1,q1,hm⟩:=Ad hm;have L1:=Mem.rfl' m;refine Ai<|CG [3,5,9,10,11,12,13,14,15,16,17,18,19,20,21,22] (fun f' w'=> ∃(M1:Mem),m≤M1∧St M1 (As) w'∧E9 f' [(3,vI x1)]) ?_ ?_
 ·refine Ai<|Af<|AR (v:=a0v0) rfl<|NW (xs:=a0) rfl a0h0 Tryz.underlying184<|AR (v:=vI 0) rfl<|Ak<|nrm ?_;obtain⟨x2,q2,q1⟩:=Ad q1;have L2:=Mem.rfl' m;refine CG [3,5,11,12,13,14,15,16,17,18,19,20,21,22] (fun f' w'=> ∃(M2:Mem),m≤M2∧St M2 (As) w'∧E9 f' [(3,vI x2)]) ?_ ?_
  ·refine BF<|Fb [3,5,11,12,13,14,15,16,17,18,19,20,21,22] (fun n1 f' w'=> ∃(i1:Nat) (s1:Int) (m3:Mem),n1=a0.length-i1∧i1≤a0.length∧Db A3 (a0.drop i1) (i1:Int) s1=some x2∧m≤m3∧St m3 (As) w'∧E9 f' [(11,vI (i1:Int)),(3,vI s1)]) a0.length ⟨0,0,m,rfl,AkA _,q2,L2,S,⟨rfl,rfl,trivial⟩⟩ ?_;rintro n1 f1 w1 ho ⟨i1,s1,m1,hn,hi,q3,L4,S1,ha⟩;obtain⟨u1,rfl⟩:=Ds (N:=36) ho ha;clear ho ha;replace a0h0:=a0h0.up L4;have L3:=Mem.rfl' m1;clear S;refine Ai<|Af<|OP (m:=(i1:Int)) (n:=(a0.length:Int)) rfl rfl<|Ak<|nrm<|Ai<|DM (t:=decide ((i1:Int)<(a0.length:Int))) rfl (fun hc2=> ?_) (fun hc2=> ?_)
   ·have hlt1:i1<a0.length:=by have:=AkF hc2; omega
    obtain⟨x3,y1,q6,q5,q4⟩:=MC q3 hlt1;unfold A3 at q5;refine BR<|nrm ?_;obtain⟨x4,q7,q5⟩:=Ad q5;have L5:=Mem.rfl' m1;refine Ai<|CG [3,5,13,14,15,16,17,18,19,20,21] (fun f' w'=> ∃(M3:Mem),m1≤M3∧St M3 (As) w'∧E9 f' [(3,vI x4)]) ?_ ?_
    ·refine BF<|Ai<|Af<|Aav (q:=x3) rfl rfl a0h0 q6 Tryz.underlying184 Tryz.sizeOf23 ?_;intro p1 c1 h1 r1;obtain⟨v1,rfl,h2⟩:=r1;refine Aat (cs:=[v1]) S1 rfl h1 rfl Tryz.isAgg23 Tryz.sizeOf23 (fun _=>rfl)<|B5 (v:=v1) rfl<|Ak<|nrm<|Ai<|Af<|AR (v:=vI s1) rfl<|AR (v:=v1) rfl<|NW (xs:=x3) rfl h2 Tryz.underlying23 ?_;refine LX (m:=s1) (n:=(x3.length:Int)) rfl rfl ?_;obtain⟨x5,q8,q7⟩:=Mr q7;refine B5 (v:=vI x5) (Aki (fun z=>vI z) q8.symm)<|Ak<|nrm<|Ai<|Af<|AR (v:=vI x5) rfl<|OP (m:=x5) (n:=0) rfl rfl<|Ak<|nrm ?_;refine DM (t:=(decide (x5<0))) rfl (fun hc1=> ?_) (fun hc1=> ?_)
     ·replace q7:=ifT hc1 q7;cases q7
     replace q7:=ifF hc1 q7;refine BR<|AaH<|nrm ?_;obtain rfl:=AjC q7;exact⟨I7,m1,L5,S1,⟨rfl,trivial⟩⟩
    rintro f2 w2 ho ⟨m2,l1,S2,ha⟩;obtain⟨u2,rfl⟩:=Ds (N:=36) ho ha;replace a0h0:=a0h0.up l1;replace L3:=Mem.tr L3 l1;clear S1;refine Af<|LX (m:=(i1:Int)) (n:=1) rfl rfl<|AR (v:=vI (w64 ((i1:Int)+1))) rfl<|Ak<|nrm ?_;obtain rfl:=AjC q5;exact⟨I7,_,(by omega),⟨i1+1,x4,m2,rfl,hlt1,q4,Mem.tr L4 L3,S2,⟨Aki (Value.int .i64) (JM hlt1 (SlR.le a0h0)),rfl,trivial⟩⟩⟩
   have hlt1: ¬i1<a0.length:=by have:=AkL hc2; omega
   have e:=Eq.symm (KJ q3 hlt1);subst e;exact HF<|thE<|thE<|exB<|nrm<|⟨I7,m1,Mem.tr L4 L3,S1,⟨rfl,trivial⟩⟩
  rintro f3 w3 ho ⟨m4,l2,S3,ha⟩;obtain⟨u3,rfl⟩:=Ds (N:=36) ho ha;clear ho ha;replace a0h0:=a0h0.up l2;replace L1:=Mem.tr L1 l2;clear S;obtain rfl:=AjC q1;exact⟨I7,m4,L1,S3,⟨rfl,trivial⟩⟩
 rintro f4 w4 ho ⟨m5,l3,S4,ha⟩;obtain⟨u4,rfl⟩:=Ds (N:=36) ho ha;replace a0h0:=a0h0.up l3;replace L0:=Mem.tr L0 l3;clear S;refine Ai<|Af<|AR (v:=vI x1) rfl ?_;obtain⟨x6,q9,hm⟩:=Ad hm;refine Ku Tryz.call133 (F7 (a1:=x1) S4 q9) rfl ?_;rintro v2 w5 ⟨m6,l4,_,c2,S5,rfl,h3⟩;replace a0h0:=a0h0.up l4;replace L0:=Mem.tr L0 l4;clear S4;replace S5:St _ ((row 2 v2 c2 x6.length)::As) _:=S5;refine B5 (v:=v2) rfl<|Ak<|nrm ?_;obtain⟨x7,q10,hm⟩:=Ad hm;have L6:=Mem.rfl' m6;refine Ai<|CG [6,8,25,26,27,28,29,30,31,32,33,34] (fun f' w'=> ∃(M4:Mem) (v3:Value) (c3:List Value),m6≤M4∧St M4 ((row 2 v3 c3 x7.length)::As) w'∧Ba M4 c3 x7∧E9 f' [(6,v3)]) ?_ ?_
 ·refine Ai<|Af<|AR (v:=a0v0) rfl<|NW (xs:=a0) rfl a0h0 Tryz.underlying184<|AR (v:=vI 0) rfl<|Ak<|nrm ?_;obtain⟨x8,q11,q10⟩:=Ad q10;have L7:=Mem.rfl' m6;refine CG [6,8,27,28,29,30,31,32,33,34] (fun f' w'=> ∃(M5:Mem) (v5:Value) (c5:List Value),m6≤M5∧St M5 ((row 2 v5 c5 x8.length)::As) w'∧Ba M5 c5 x8∧E9 f' [(6,v5)]) ?_ ?_
  ·refine BF<|Fb [6,8,27,28,29,30,31,32,33,34] (fun n2 f' w'=> ∃(i2:Nat) (s2:(List g_api_Leaf)) (m8:Mem) (v4:Value) (c4:List Value),n2=a0.length-i2∧i2≤a0.length∧Db A2 (a0.drop i2) (i2:Int) s2=some x8∧m6≤m8∧St m8 ((row 2 v4 c4 s2.length)::As) w'∧Ba m8 c4 s2∧E9 f' [(27,vI (i2:Int)),(6,v4)]) a0.length ⟨0,x6,m6,_,_,rfl,AkA _,q11,L7,S5,h3,⟨rfl,rfl,trivial⟩⟩ ?_;rintro n2 f5 w6 ho ⟨i2,s2,m7,v4,c4,hn,hi,q12,L9,S6,h5,ha⟩;obtain⟨u5,rfl⟩:=Ds (N:=36) ho ha;clear ho ha;replace a0h0:=a0h0.up L9;have L8:=Mem.rfl' m7;clear S5;refine Ai<|Af<|OP (m:=(i2:Int)) (n:=(a0.length:Int)) rfl rfl<|Ak<|nrm<|Ai<|DM (t:=decide ((i2:Int)<(a0.length:Int))) rfl (fun hc3=> ?_) (fun hc3=> ?_)
   ·have hlt2:i2<a0.length:=by have:=AkF hc3; omega
    obtain⟨x9,y2,q15,q14,q13⟩:=MC q12 hlt2;unfold A2 at q14;refine BR<|nrm<|Ai<|BF<|Ai<|Af<|Aav (q:=x9) rfl rfl a0h0 q15 Tryz.underlying184 Tryz.sizeOf23 ?_;intro p2 c6 h7 r6;obtain⟨v6,rfl,h8⟩:=r6;refine Aat (cs:=[v6]) S6 rfl h7 rfl Tryz.isAgg23 Tryz.sizeOf23 (fun _=>rfl)<|B5 (v:=v6) rfl<|Ak<|nrm<|Af<|AR (v:=v4) rfl<|AR (v:=v6) rfl ?_;obtain⟨x10,q16,q14⟩:=Ad q14;refine Ur (i:=0) (zs:=x10) (bytes:=32) (ti:=Tryz.t79) S6 rfl rfl h5 rfl rfl h8 q16 Tryz.underlying23 Tryz.type79 rfl rfl rfl rfl ?_;intro v7 c7 w7 S7 h9;replace S7:St _ ((row 2 v7 c7 x10.length)::As) _:=S7;clear S6;refine B5 (v:=v7) rfl<|Ak<|AaH<|nrm<|Af<|LX (m:=(i2:Int)) (n:=1) rfl rfl<|AR (v:=vI (w64 ((i2:Int)+1))) rfl<|Ak<|nrm ?_;obtain rfl:=AjC q14;exact⟨I7,_,(by omega),⟨i2+1,x10,m7,_,_,rfl,hlt2,q13,Mem.tr L9 L8,S7,h9,⟨Aki (Value.int .i64) (JM hlt2 (SlR.le a0h0)),rfl,trivial⟩⟩⟩
   have hlt2: ¬i2<a0.length:=by have:=AkL hc3; omega
   have e:=Eq.symm (KJ q12 hlt2);subst e;exact HF<|thE<|thE<|exB<|nrm<|⟨I7,m7,_,_,Mem.tr L9 L8,S6,h5,⟨rfl,trivial⟩⟩
  rintro f6 w8 ho ⟨m9,v5,c5,l5,S8,h6,ha⟩;obtain⟨u6,rfl⟩:=Ds (N:=36) ho ha;clear ho ha;replace L6:=Mem.tr L6 l5;clear S5;obtain rfl:=AjC q10;exact⟨I7,m9,_,_,L6,S8,h6,⟨rfl,trivial⟩⟩
 rintro f7 w9 ho ⟨m10,v3,c3,l6,S9,h4,ha⟩;obtain⟨u7,rfl⟩:=Ds (N:=36) ho ha;replace L0:=Mem.tr L0 l6;clear S5;refine Ai<|Af<|AR (v:=v3) rfl<|B5 (v:=v3) rfl<|Ak<|nrm<|C4<|Ix ?_;intro we hpd;replace S9:=St.pd S9 hpd;obtain rfl:=AjC hm;exact LZ [_] rfl ⟨rfl,trivial⟩ ⟨_,L0,_,_,S9,rfl,h4⟩
theorem GC {a0 r}(hm:AU a0=some r):Sp prog 85 [sl (eL Ag) a0] [] 0 (is (.ow 0) [.row 0 2 _ Ag r] 1):=
 ⟨call85,fun η m As w vs hv0 hd S=>by
  have S:St m As w:=S;obtain⟨v0,u0,rfl,r0,hv1⟩:=BB.cons_inv hv0;have f0:=Br.ofS (Br.sl IX) r0.dd;obtain rfl:=BB.nil_inv hv1;refine By.mono (Gy S f0 hm) ?_;rintro v w' ⟨M,hle,y0,c0,S0,rfl,h0⟩;exact⟨M,(Ahb [v]),_,_,_,hle,AfU hd _,⟨rfl,rfl,rfl⟩,Ln rfl,(.ow rfl (ED S0)),(St.impL S0 (AeK (Br.toR IX rfl rfl (ED S0) h0) fun _ h=>h))⟩⟩
def IU (a0:Ah):Option (List g_api_Leaf):=Ab (AU ([a0.L,a0.Wait]:List (List g_api_Leaf))) fun x1=>some x1
theorem OG {a0 r}(hm:IU a0=some r):Sp prog 53 [ag (Bn a0)] [] 0 (is (.ow 0) [.row 0 2 _ Ag r] 1):=by
 refine sq ?_;intros;refine gq (eL Ag) 1 [a0.L,a0.Wait]<|gD hm GC fun x1 q1 hm=> ?_;exact AjC hm▸gE
def Fp (a0:Int):Option Bool:=bnd (((decide (a0≥0))&&(decide (a0≤1099511627776)))) fun x1=>some x1
theorem Iv {a0 r}(hm:Fp a0=some r):Sf prog 58 [.d (.i a0)] (.d (.t r)):=by
 refine sq ?_;intros;refine bE hm ?_;intro x1 hm;obtain rfl:=AjC hm;exact gE
def GQ (a0:List UInt8):Option Bool:=bnd (((decide ((a0.length:Int)>0))&&(decide ((a0.length:Int)≤2048)))) fun x1=>some x1
theorem NO {a0 r}(hm:GQ a0=some r):Sf prog 63 [sl eB a0] (.d (.t r)):=by
 refine sq ?_;intros;refine bE hm ?_;intro x1 hm;obtain rfl:=AjC hm;exact gE
def GU (i1:Int)(x4:g_api_Leaf)(s1:(List (ByteArray×Bool))):Option (((List (ByteArray×Bool)))⊕Int):=Ab (GQ x4.Body) fun x5=>Ab (gu (!(!x5)) (Fp x4.At)) fun x6=>if(((!x5)||(!x6))||(lkB s1 (bs x4.Body)))=true then some (.inr 1)else if(lkI s1 (bs x4.Body) 0).isNone=true then some (.inl (s1++[((bs x4.Body),true)]))else none
def GS (a0:Ah)(i2:Int)(x8:Int)(s2:Int):Option ((Int)⊕Int):=if((decide (x8≤s2))||(decide (x8≥(a0.L.length:Int))))=true then some (.inr 1)else some (.inl x8)
def Eb (a0:Ah):Option Int:=
 Ab (Fp a0.Id) fun x1=>
 if(((((!x1)||((a0.Key.toNat:Int)==0))||(decide ((a0.Key.toNat:Int)≥1152921504606845789)))||(decide (a0.Delay<0)))||(decide (a0.Delay>1000)))=true then
  some 1
 else
 Ab (IU a0) fun x2=>
 Ab (JC GU x2 0 ([]:List (ByteArray×Bool))) fun x3=>match x3 with
 | .inr r=>some r
 | .inl y1=>
 Ab (JC (GS a0) a0.Hide 0 (-1)) fun x7=>match x7 with
 | .inr r=>some r
 | .inl y3=>
 if(decide ((y1.length:Int)>256))=true then
  some 2
 else
 some 0
theorem HV {a0 r}(hm:Eb a0=some r):Sf prog 33 [ag (Bn a0)] (.d (.i r)):=by
 refine sq ?_;intros;refine gA hm Iv fun x1 q1 hm=>gi hm ?_ ?_<;>intro hc1 hm
 ·obtain rfl:=AjC hm;exact gE
 refine gmkm<|gD hm OG fun x2 q2 hm=>oB hm fun x3 q3 hm=>O2 0 (E:=Ag) (xs:=x2) 35 fun hle1=>gF (ER _ _ _) q3 (fun p0 p=>⟨[(1,.pb 0 0),(3,.ow 1),(35,sl Ag x2),(36,.d (.i (x2.length:Int))),(37,.d (.i p0)),(33,.ow 1)],[(0,.hp 1 (.mp p)),(1,.box 0 [.d (.i a0.Id),.d (.u a0.Key),.d (.i a0.Delay),sl Ag a0.L,sl eI a0.Hide,sl Ag a0.Wait] 26)],[],2⟩) fun i1 s1 Jl bl1=>cR bl1 (fun x4 y2 q7 q6 bl1=> ?_) fun e=> ?_
 ·refine gx Ag 2 q7<|gA q6 NO fun x5 q8 q6=>oB q6 fun x6 q9 q6=>gcH q9 Iv<|gbs (xs:=x4.Body)<|glk s1 (bs x4.Body)<|gi q6 ?_ ?_<;>intro hc2 q6
  ·obtain rfl:=nT bl1 q6;obtain rfl:=AjC hm;exact gE
  refine gbs (xs:=x4.Body) ?_;obtain⟨q10,q6⟩:=Cz q6;exact gup q10<|gT bl1 hle1 q6
 subst e;let y1:=s1;refine oB hm fun x7 q11 hm=>O2 2 (E:=eI) (xs:=a0.Hide) 64 fun hle2=>gF (ER _ _ _) q11 (fun p0 p=>⟨[(1,.pb 0 0),(3,.ow 1),(6,.d (.i p)),(64,sl eI a0.Hide),(65,.d (.i (a0.Hide.length:Int))),(66,.d (.i p0)),(33,.ow 1)],[(0,.hp 1 (.mp y1)),(1,.box 0 [.d (.i a0.Id),.d (.u a0.Key),.d (.i a0.Delay),sl Ag a0.L,sl eI a0.Hide,sl Ag a0.Wait] 26)],[],2⟩) fun i2 s2 Jl bl2=>cR bl2 (fun x8 y4 q15 q14 bl2=> ?_) fun e=> ?_
 ·refine gx eI 1 q15<|gi q14 ?_ ?_<;>intro hc4 q14
  ·obtain rfl:=nT bl2 q14;obtain rfl:=AjC hm;exact gE
  exact gT bl2 hle2 q14
 subst e;let y3:=s2;refine gln y1<|gi hm ?_ ?_<;>intro hc6 hm
 ·obtain rfl:=AjC hm;exact gE
 obtain rfl:=AjC hm;exact gE
def BH (a1:Int):Option (List UInt8):=Ab (if(decide (a1<0))=true then none else some ()) fun x1=>Ab (bnd ((w64 (a1-(w64 (0-((0:Nat):Int)))))) fun x3=>if(decide (x3>0))=true then if 0≤x3∧x3*1≤140737488355328∧x3≤140737488355328 then some ([]:List UInt8)else none else some ([]:List UInt8)) fun x2=>some x2
theorem IZ {m As w a1 r}(S:St m (As) w)(hm:BH a1=some r):
  By Tryz.prog 69 #[.slice none 0 0,vI a1] w fun v w'=> ∃(M:Mem),m≤M∧∃(rv0:Value) (rc0:List Value),St M ((row 1 rv0 rc0 r.length)::As) w'∧v=rv0∧Ba M rc0 r:=by
 unfold BH at hm;have L0:=Mem.rfl' m;refine Hh (args:=[.slice none 0 0,vI a1]) Tryz.func69 rfl Tryz.ntmps69 (AjO rfl)<|Ai<|Af<|B5 (v:= .slice none 0 0) rfl<|Ak<|nrm ?_;obtain⟨x1,q1,hm⟩:=Ad hm;have L1:=Mem.rfl' m;refine Ai<|CG [5,6,7] (fun f' w'=> ∃(M1:Mem),m≤M1∧St M1 (As) w'∧E9 f' []) ?_ ?_
 ·refine Ai<|Af<|AR (v:=vI a1) rfl<|OP (m:=a1) (n:=0) rfl rfl<|Ak<|nrm<|DM (t:=(decide (a1<0))) rfl (fun hc1=> ?_) (fun hc1=> ?_)
  ·replace q1:=ifT hc1 q1;cases q1
  replace q1:=ifF hc1 q1;refine BR<|nrm ?_;obtain rfl:=AjC q1;exact⟨I7,m,L1,S,trivial⟩
 rintro f1 w1 ho ⟨m1,l1,S1,ha⟩;obtain⟨u1,rfl⟩:=Ds (N:=27) ho ha;replace L0:=Mem.tr L0 l1;clear S;obtain⟨x2,q2,hm⟩:=Ad hm;have L2:=Mem.rfl' m1;refine Ai<|CG [0,1,8,9,10,11,12,13,14,15,16,17,18,19,20,21,22,23,24,25] (fun f' w'=> ∃(M2:Mem) (v1:Value) (c1:List Value),m1≤M2∧St M2 ((row 1 v1 c1 x2.length)::As) w'∧Ba M2 c1 x2∧E9 f' [(0,v1)]) ?_ ?_
 ·refine Ai<|Af<|AR (v:=vI a1) rfl<|AR (v:= .slice none 0 0) rfl<|P4 rfl Tryz.underlying75<|AR (v:= .slice none 0 0) rfl<|V8 (n:=0) rfl Tryz.underlying75<|Pv (m:=0) (n:=((0:Nat):Int)) rfl rfl<|Pv (m:=a1) (n:=(w64 (0-((0:Nat):Int)))) rfl rfl ?_;obtain⟨x3,q3,q2⟩:=Mr q2;refine B5 (v:=vI x3) (Aki (fun z=>vI z) q3.symm)<|Ak<|nrm<|Ai<|Af<|AR (v:=vI x3) rfl<|Aaw (m:=x3) (n:=0) rfl rfl<|Ak<|nrm ?_;refine DM (t:=(decide (x3>0))) rfl (fun hc2=> ?_) (fun hc2=> ?_)
  ·replace q2:=ifT hc2 q2;refine Af<|AR (v:= .slice none 0 0) rfl<|AR (v:= .slice none 0 0) rfl<|P4 rfl Tryz.underlying75<|Agz rfl Tryz.underlying75 Tryz.sizeOf5 rfl<|AR (v:=vI x3) rfl ?_;obtain⟨q4,q2⟩:=Cz q2;refine AgB (bytes:=1) (sz:=1) (k:=x3) (ti:=Tryz.t5) S1 rfl rfl q4 Tryz.underlying75 Tryz.underlying3 Tryz.type5 rfl rfl rfl rfl ?_;intro v2 c2 w2 S2;replace S2:St _ ((row 1 v2 c2 x3.toNat)::As) _:=S2;clear S1;refine AR (v:= .slice none 0 0) rfl<|V8 (n:=0) rfl Tryz.underlying75<|Zb (i:=0) S2 rfl rfl Tryz.underlying75 Tryz.sizeOf5 rfl (j:=0) rfl (Int.le_refl 0) (AkC _) ?_;intro v3 S3;rw[show c2.take ((0:Int).toNat*1)=[]from by simp]at S3;have h2:Ba m1 [] ([]:List UInt8):=Ba.nil;replace S3:St _ ((row 1 v3 [] ([]:List UInt8).length)::As) _:=S3;clear S2;refine B5 (v:=v3) rfl<|Ak<|nrm ?_;obtain rfl:=AjC q2;exact⟨I7,m1,_,_,L2,S3,h2,⟨rfl,trivial⟩⟩
  replace q2:=ifF hc2 q2;refine BR<|nrm ?_;have S4:=St.rowNil S1 1;have h3:Ba m1 [] ([]:List UInt8):=Ba.nil;replace S4:St _ ((row 1 (.slice none 0 0) [] ([]:List UInt8).length)::As) _:=S4;clear S1;obtain rfl:=AjC q2;exact⟨I7,m1,_,_,L2,S4,h3,⟨rfl,trivial⟩⟩
 rintro f2 w3 ho ⟨m2,v1,c1,l2,S5,h1,ha⟩;obtain⟨u2,rfl⟩:=Ds (N:=27) ho ha;replace L0:=Mem.tr L0 l2;clear S1;refine Ai<|Af<|AR (v:=v1) rfl<|B5 (v:=v1) rfl<|Ak<|nrm<|C4<|Ix ?_;intro we hpd;replace S5:=St.pd S5 hpd;obtain rfl:=AjC hm;exact LZ [_] rfl ⟨rfl,trivial⟩ ⟨_,L0,_,_,S5,rfl,h1⟩
def Be (i1:Int)(x3:List UInt8)(s1:Int):Option (Int):=Ab (bnd ((w64 (s1+(x3.length:Int)))) fun x5=>if(decide (x5<0))=true then none else some x5) fun x4=>some x4
def Bd (i2:Int)(x9:List UInt8)(s2:(List UInt8)):Option ((List UInt8)):=Ab (app 1 s2 x9) fun x10=>some x10
def AL (a0:List (List UInt8)):Option (List UInt8):=Ab (Ab (Db Be a0 0 0) fun x2=>some x2) fun x1=>Ab (BH x1) fun x6=>Ab (Ab (Db Bd a0 0 x6) fun x8=>some x8) fun x7=>some x7
theorem J6 {m As w a0}{a0v0:Value}{r}(S:St m (As) w)(a0h0:SlR m a0v0 a0)(hm:AL a0=some r):
  By Tryz.prog 38 #[a0v0] w fun v w'=> ∃(M:Mem),m≤M∧∃(rv0:Value) (rc0:List Value),St M ((row 1 rv0 rc0 r.length)::As) w'∧v=rv0∧Ba M rc0 r:=by
 unfold AL at hm;have L0:=Mem.rfl' m;refine Hh (args:=[a0v0]) Tryz.func38 rfl Tryz.ntmps38 (AjO rfl)<|Ai<|Af<|B5 (v:= .slice none 0 0) rfl<|Ak<|nrm<|Ai<|Af<|B5 (v:=vI 0) rfl ?_;refine Ak<|nrm ?_;obtain⟨x1,q1,hm⟩:=Ad hm;have L1:=Mem.rfl' m;refine Ai<|CG [3,5,9,10,11,12,13,14,15,16,17,18,19,20,21,22] (fun f' w'=> ∃(M1:Mem),m≤M1∧St M1 (As) w'∧E9 f' [(3,vI x1)]) ?_ ?_
 ·refine Ai<|Af<|AR (v:=a0v0) rfl<|NW (xs:=a0) rfl a0h0 Tryz.underlying120<|AR (v:=vI 0) rfl<|Ak<|nrm ?_;obtain⟨x2,q2,q1⟩:=Ad q1;have L2:=Mem.rfl' m;refine CG [3,5,11,12,13,14,15,16,17,18,19,20,21,22] (fun f' w'=> ∃(M2:Mem),m≤M2∧St M2 (As) w'∧E9 f' [(3,vI x2)]) ?_ ?_
  ·refine BF<|Fb [3,5,11,12,13,14,15,16,17,18,19,20,21,22] (fun n1 f' w'=> ∃(i1:Nat) (s1:Int) (m3:Mem),n1=a0.length-i1∧i1≤a0.length∧Db Be (a0.drop i1) (i1:Int) s1=some x2∧m≤m3∧St m3 (As) w'∧E9 f' [(11,vI (i1:Int)),(3,vI s1)]) a0.length ⟨0,0,m,rfl,AkA _,q2,L2,S,⟨rfl,rfl,trivial⟩⟩ ?_;rintro n1 f1 w1 ho ⟨i1,s1,m1,hn,hi,q3,L4,S1,ha⟩;obtain⟨u1,rfl⟩:=Ds (N:=36) ho ha;clear ho ha;replace a0h0:=a0h0.up L4;have L3:=Mem.rfl' m1;clear S;refine Ai<|Af<|OP (m:=(i1:Int)) (n:=(a0.length:Int)) rfl rfl<|Ak<|nrm<|Ai<|DM (t:=decide ((i1:Int)<(a0.length:Int))) rfl (fun hc2=> ?_) (fun hc2=> ?_)
   ·have hlt1:i1<a0.length:=by have:=AkF hc2; omega
    obtain⟨x3,y1,q6,q5,q4⟩:=MC q3 hlt1;unfold Be at q5;refine BR<|nrm ?_;obtain⟨x4,q7,q5⟩:=Ad q5;have L5:=Mem.rfl' m1;refine Ai<|CG [3,5,13,14,15,16,17,18,19,20,21] (fun f' w'=> ∃(M3:Mem),m1≤M3∧St M3 (As) w'∧E9 f' [(3,vI x4)]) ?_ ?_
    ·refine BF<|Ai<|Af<|Aav (q:=x3) rfl rfl a0h0 q6 Tryz.underlying120 Tryz.sizeOf75 ?_;intro p1 c1 h1 r1;obtain⟨v1,rfl,h2⟩:=r1;refine Aat (cs:=[v1]) S1 rfl h1 rfl Tryz.isAgg75 Tryz.sizeOf75 (fun _=>rfl)<|B5 (v:=v1) rfl<|Ak<|nrm<|Ai<|Af<|AR (v:=vI s1) rfl<|AR (v:=v1) rfl<|NW (xs:=x3) rfl h2 Tryz.underlying75 ?_;refine LX (m:=s1) (n:=(x3.length:Int)) rfl rfl ?_;obtain⟨x5,q8,q7⟩:=Mr q7;refine B5 (v:=vI x5) (Aki (fun z=>vI z) q8.symm)<|Ak<|nrm<|Ai<|Af<|AR (v:=vI x5) rfl<|OP (m:=x5) (n:=0) rfl rfl<|Ak<|nrm ?_;refine DM (t:=(decide (x5<0))) rfl (fun hc1=> ?_) (fun hc1=> ?_)
     ·replace q7:=ifT hc1 q7;cases q7
     replace q7:=ifF hc1 q7;refine BR<|AaH<|nrm ?_;obtain rfl:=AjC q7;exact⟨I7,m1,L5,S1,⟨rfl,trivial⟩⟩
    rintro f2 w2 ho ⟨m2,l1,S2,ha⟩;obtain⟨u2,rfl⟩:=Ds (N:=36) ho ha;replace a0h0:=a0h0.up l1;replace L3:=Mem.tr L3 l1;clear S1;refine Af<|LX (m:=(i1:Int)) (n:=1) rfl rfl<|AR (v:=vI (w64 ((i1:Int)+1))) rfl<|Ak<|nrm ?_;obtain rfl:=AjC q5;exact⟨I7,_,(by omega),⟨i1+1,x4,m2,rfl,hlt1,q4,Mem.tr L4 L3,S2,⟨Aki (Value.int .i64) (JM hlt1 (SlR.le a0h0)),rfl,trivial⟩⟩⟩
   have hlt1: ¬i1<a0.length:=by have:=AkL hc2; omega
   have e:=Eq.symm (KJ q3 hlt1);subst e;exact HF<|thE<|thE<|exB<|nrm<|⟨I7,m1,Mem.tr L4 L3,S1,⟨rfl,trivial⟩⟩
  rintro f3 w3 ho ⟨m4,l2,S3,ha⟩;obtain⟨u3,rfl⟩:=Ds (N:=36) ho ha;clear ho ha;replace a0h0:=a0h0.up l2;replace L1:=Mem.tr L1 l2;clear S;obtain rfl:=AjC q1;exact⟨I7,m4,L1,S3,⟨rfl,trivial⟩⟩
 rintro f4 w4 ho ⟨m5,l3,S4,ha⟩;obtain⟨u4,rfl⟩:=Ds (N:=36) ho ha;replace a0h0:=a0h0.up l3;replace L0:=Mem.tr L0 l3;clear S;refine Ai<|Af<|AR (v:=vI x1) rfl ?_;obtain⟨x6,q9,hm⟩:=Ad hm;refine Ku Tryz.call69 (IZ (a1:=x1) S4 q9) rfl ?_;rintro v2 w5 ⟨m6,l4,_,c2,S5,rfl,h3⟩;replace a0h0:=a0h0.up l4;replace L0:=Mem.tr L0 l4;clear S4;replace S5:St _ ((row 1 v2 c2 x6.length)::As) _:=S5;refine B5 (v:=v2) rfl<|Ak<|nrm ?_;obtain⟨x7,q10,hm⟩:=Ad hm;have L6:=Mem.rfl' m6;refine Ai<|CG [6,8,25,26,27,28,29,30,31,32,33,34] (fun f' w'=> ∃(M4:Mem) (v3:Value) (c3:List Value),m6≤M4∧St M4 ((row 1 v3 c3 x7.length)::As) w'∧Ba M4 c3 x7∧E9 f' [(6,v3)]) ?_ ?_
 ·refine Ai<|Af<|AR (v:=a0v0) rfl<|NW (xs:=a0) rfl a0h0 Tryz.underlying120<|AR (v:=vI 0) rfl<|Ak<|nrm ?_;obtain⟨x8,q11,q10⟩:=Ad q10;have L7:=Mem.rfl' m6;refine CG [6,8,27,28,29,30,31,32,33,34] (fun f' w'=> ∃(M5:Mem) (v5:Value) (c5:List Value),m6≤M5∧St M5 ((row 1 v5 c5 x8.length)::As) w'∧Ba M5 c5 x8∧E9 f' [(6,v5)]) ?_ ?_
  ·refine BF<|Fb [6,8,27,28,29,30,31,32,33,34] (fun n2 f' w'=> ∃(i2:Nat) (s2:(List UInt8)) (m8:Mem) (v4:Value) (c4:List Value),n2=a0.length-i2∧i2≤a0.length∧Db Bd (a0.drop i2) (i2:Int) s2=some x8∧m6≤m8∧St m8 ((row 1 v4 c4 s2.length)::As) w'∧Ba m8 c4 s2∧E9 f' [(27,vI (i2:Int)),(6,v4)]) a0.length ⟨0,x6,m6,_,_,rfl,AkA _,q11,L7,S5,h3,⟨rfl,rfl,trivial⟩⟩ ?_;rintro n2 f5 w6 ho ⟨i2,s2,m7,v4,c4,hn,hi,q12,L9,S6,h5,ha⟩;obtain⟨u5,rfl⟩:=Ds (N:=36) ho ha;clear ho ha;replace a0h0:=a0h0.up L9;have L8:=Mem.rfl' m7;clear S5;refine Ai<|Af<|OP (m:=(i2:Int)) (n:=(a0.length:Int)) rfl rfl<|Ak<|nrm<|Ai<|DM (t:=decide ((i2:Int)<(a0.length:Int))) rfl (fun hc3=> ?_) (fun hc3=> ?_)
   ·have hlt2:i2<a0.length:=by have:=AkF hc3; omega
    obtain⟨x9,y2,q15,q14,q13⟩:=MC q12 hlt2;unfold Bd at q14;refine BR<|nrm<|Ai<|BF<|Ai<|Af<|Aav (q:=x9) rfl rfl a0h0 q15 Tryz.underlying120 Tryz.sizeOf75 ?_;intro p2 c6 h7 r6;obtain⟨v6,rfl,h8⟩:=r6;refine Aat (cs:=[v6]) S6 rfl h7 rfl Tryz.isAgg75 Tryz.sizeOf75 (fun _=>rfl)<|B5 (v:=v6) rfl<|Ak<|nrm<|Af<|AR (v:=v4) rfl<|AR (v:=v6) rfl ?_;obtain⟨x10,q16,q14⟩:=Ad q14;refine Ur (i:=0) (zs:=x10) (bytes:=1) (ti:=Tryz.t5) S6 rfl rfl h5 rfl rfl h8 q16 Tryz.underlying75 Tryz.type5 rfl rfl rfl rfl ?_;intro v7 c7 w7 S7 h9;replace S7:St _ ((row 1 v7 c7 x10.length)::As) _:=S7;clear S6;refine B5 (v:=v7) rfl<|Ak<|AaH<|nrm<|Af<|LX (m:=(i2:Int)) (n:=1) rfl rfl<|AR (v:=vI (w64 ((i2:Int)+1))) rfl<|Ak<|nrm ?_;obtain rfl:=AjC q14;exact⟨I7,_,(by omega),⟨i2+1,x10,m7,_,_,rfl,hlt2,q13,Mem.tr L9 L8,S7,h9,⟨Aki (Value.int .i64) (JM hlt2 (SlR.le a0h0)),rfl,trivial⟩⟩⟩
   have hlt2: ¬i2<a0.length:=by have:=AkL hc3; omega
   have e:=Eq.symm (KJ q12 hlt2);subst e;exact HF<|thE<|thE<|exB<|nrm<|⟨I7,m7,_,_,Mem.tr L9 L8,S6,h5,⟨rfl,trivial⟩⟩
  rintro f6 w8 ho ⟨m9,v5,c5,l5,S8,h6,ha⟩;obtain⟨u6,rfl⟩:=Ds (N:=36) ho ha;clear ho ha;replace L6:=Mem.tr L6 l5;clear S5;obtain rfl:=AjC q10;exact⟨I7,m9,_,_,L6,S8,h6,⟨rfl,trivial⟩⟩
 rintro f7 w9 ho ⟨m10,v3,c3,l6,S9,h4,ha⟩;obtain⟨u7,rfl⟩:=Ds (N:=36) ho ha;replace L0:=Mem.tr L0 l6;clear S5;refine Ai<|Af<|AR (v:=v3) rfl<|B5 (v:=v3) rfl<|Ak<|nrm<|C4<|Ix ?_;intro we hpd;replace S9:=St.pd S9 hpd;obtain rfl:=AjC hm;exact LZ [_] rfl ⟨rfl,trivial⟩ ⟨_,L0,_,_,S9,rfl,h4⟩
theorem DI {a0 r}(hm:AL a0=some r):Sp prog 38 [sl (eL eB) a0] [] 0 (is (.ow 0) [.row 0 1 _ eB r] 1):=
 ⟨call38,fun η m As w vs hv0 hd S=>by
  have S:St m As w:=S;obtain⟨v0,u0,rfl,r0,hv1⟩:=BB.cons_inv hv0;have f0:=Br.ofS (Br.sl Br.b) r0.dd;obtain rfl:=BB.nil_inv hv1;refine By.mono (J6 S f0 hm) ?_;rintro v w' ⟨M,hle,y0,c0,S0,rfl,h0⟩;exact⟨M,(Ahb [v]),_,_,_,hle,AfU hd _,⟨rfl,rfl,rfl⟩,Ln rfl,(.ow rfl (ED S0)),(St.impL S0 (AeK (Br.toR Br.b rfl rfl (ED S0) h0) fun _ h=>h))⟩⟩
def II (a1:UInt64)(s1:(List UInt8)×Int):Option (((List UInt8)×Int)⊕((List UInt8))):=if(decide (s1.2≥0))=true then if(0:Int)≤(w64 (8*s1.2))then Ab (app 1 s1.1 ([(toB ((En a1 ((w64 (8*s1.2)).toNat)).toNat:Int))]:List UInt8)) fun x4=>some (.inl (x4,(w64 (s1.2-1))))else none else some (.inr s1.1)
def Fq (a0:List UInt8)(a1:UInt64)(a2:Int):Option (List UInt8):=Ab (Ab (iter (II a1) Bl (a0,(w64 (a2-1)))) fun x2=>some x2) fun x1=>some x1
theorem SA {a0 a1 a2 r}(hm:Fq a0 a1 a2=some r):Sp prog 139 [.ow 0,.d (.u a1),.d (.i a2)] [.row 0 1 _ eB a0] 1 (is (.ow 1) [.row 1 1 _ eB r] 2):=by
 refine sq ?_;intros;unfold Fq at hm;obtain⟨x1,q1,hm⟩:=Ad hm;refine oB q1 fun x2 q2 q1=>gI q2 (fun(p_0,p_1)=>⟨[(0,.ow 1),(1,.d (.u a1)),(2,.d (.i p_1))],[(0,.row 1 1 _ eB p_0)],[],2⟩) fun s1 y1 Jl q5 bl1=>gi q5 ?_ ?_<;>intro hc1 q5
 ·obtain⟨q7,q5⟩:=Cz q5;exact gsh (r:= .u (En a1 ((w64 (8*s1.2)).toNat))) (fun h=>q7)<|gq eB 1 [(toB ((En a1 ((w64 (8*s1.2)).toNat)).toNat:Int))]<|oB q5 fun x4 q8 q5=>gp eB 1 q8<|gN bl1 q5
 obtain rfl:=nR bl1 q5;let x2:=s1.1;obtain rfl:=AjC q1;let x1:=x2;obtain rfl:=AjC hm;exact gE
def Bu {σ:Type}(p0:σ→(List UInt8)→Option (Bool×σ))(k0:List UInt8)(k1:Int)(s1:Int×σ):Option ((Int×σ)⊕((σ)⊕((List UInt8)×Int×σ))):=if(decide (s1.1<(k0.length:Int)))=true then Ab (cut k0 s1.1 (k0.length:Int)) fun x3=>Ab (cut k0 s1.1 (w64 (s1.1+(Zw k1 (x3.length:Int))))) fun x4=>Ab (p0 s1.2 x4) fun x5=>if(!x5.1)=true then some (.inr (.inr (k0,k1,x5.2)))else some (.inl ((w64 (s1.1+k1)),x5.2))else some (.inr (.inl s1.2))
def Dt {σ:Type}(p0:σ→(List UInt8)→Option (Bool×σ))(k0:List UInt8)(k1:Int)(s0:σ):Option ((List UInt8)×Int×σ):=Ab (iter (Bu p0 k0 k1) Bl (0,s0)) fun x1=>match x1 with| .inr r=>some r| .inl y1=>some (k0,k1,y1)
theorem JH {σ:Type}{p0:σ→(List UInt8)→Option (Bool×σ)}{k0 k1 s0 r}(hm:Dt p0 k0 k1 s0=some r)(g:Value)(R:σ→Mem→Ow)(hcb:Agj prog g (fun x=> [sl eB x]) R p0):Sp prog 251 [.ow 0,.pb 1 0,.pb 2 0] [.hp 0 (.cb g σ R s0),.box 1 [sl eB k0] 75,.box 2 [.d (.i k1)] 3] 3 (is (.tup []) [.hp 0 (.cb g σ R r.2.2),.box 1 [.d (.sl _ eB r.1)] 75,.box 2 [.d (.i r.2.1)] 3] 3):=by
 refine sq ?_;intros;refine oB hm fun x1 q1 hm=>gI q1 (fun(p_0,p_1)=>⟨[(0,.ow 0),(1,.pb 1 0),(2,.pb 2 0),(4,.d (.i p_0))],[(0,.box 1 [sl eB k0] 75),(1,.box 2 [.d (.i k1)] 3),(2,.hp 0 (.cb g σ R p_1))],[],3⟩) fun s1 y2 Jl q4 bl1=>gi q4 ?_ ?_<;>intro hc1 q4
 ·refine oB q4 fun x3 q6 q4=>gk eB 1 q6<|oB q4 fun x4 q7 q4=>gk eB 1 q7<|oB q4 fun x5 q8 q4=>gcb x4 hcb q8<|gi q4 ?_ ?_<;>intro hc2 q4
  ·obtain rfl:=nR bl1 q4;obtain rfl:=AjC hm;exact gE
  exact gN bl1 q4
 obtain rfl:=nR bl1 q4;let y1:=s1.2;obtain rfl:=AjC hm;exact gE
def DW (a0:List UInt8)(a1:Int):Option ((List UInt8)×Int):=Ab (if(decide (a1<1))=true then none else some ()) fun x1=>some (a0,a1)
theorem Kk {a0 a1 r}(hm:DW a0 a1=some r):Sp prog 222 [sl eB a0,.d (.i a1)] [] 0 (is (.fn (.func 251) [] [.pb 0 0,.pb 1 0]) [.box 0 [sl eB r.1] 75,.box 1 [.d (.i r.2)] 3] 2):=by
 refine sq ?_;intros;refine oB hm fun x1 q1 hm=>gi q1 (fun hc1 q1=> ?_) fun hc1 q1=> ?_
 ·cases q1
 obtain rfl:=AjC q1;exact AjC hm▸gE
def Ft (b5:List UInt8)(i1:Int)(s2:UInt64):Option (UInt64):=Ab (idx b5 (i1:Int)) fun x6=>if(0:Int)≤(w64 (8*(i1:Int)))then bnd ((s2|||(JO (toU (x6.toNat:Int)) ((w64 (8*(i1:Int))).toNat)))) fun x7=>some x7 else none
def Fu (b5:List UInt8)(s1:(List UInt64)):Option ((List UInt64)):=Ab (Ab (B3 (Ft b5) b5.length 0 0) fun x4=>some x4) fun x3=>Ab (app 8 s1 ([x3]:List UInt64)) fun x8=>some x8
def KD (a0:List UInt8):Option (List UInt64):=Ab (DW a0 7) fun x1=>Ab (Dt (fun(s:(List UInt64)) (b0:List UInt8)=>Ab (Fu b0 s) fun y=>some (true,y)) x1.1 x1.2 ([]:List UInt64)) fun x2=>some x2.2.2
theorem Aah {a0 r}(hm:KD a0=some r):Sp prog 176 [sl eB a0] [] 0 (is (.ow 0) [.row 0 1 _ eU r] 1):=
 spR call176 func176 rfl ntmps176 rfl fun D0 As η0 m0 hD hd=>by
  unfold KD at hm;refine gD hm Kk fun x1 q1 hm=>oB hm fun x2 q2 hm=>gnilB eU 3 0 1<|Yi hD (n0:=0) 3 4 [⟨2,1,75,[sl eB x1.1],[sl eB x2.1]⟩,⟨3,2,3,[.d (.i x1.2)],[.d (.i x2.2.1)]⟩] (gt:=9) (ps:=[10]) [(3,.pb 0 0),(9,.fn (.func 251) [] [.pb 1 0,.pb 2 0])] (fun(y2:(List UInt64))=> [(0,.row 3 1 _ eU y2),(1,.box 0 [.ow 3] 225)]) (fun(_:Unit)=> []) (fun x=> [sl eB x]) (fun(s1:(List UInt64)) (b5:List UInt8)=>⟨[(3,.pb 0 0),(4,sl eB b5),(9,.fn (.func 251) [] [.pb 1 0,.pb 2 0])],[(0,.row 3 1 _ eU s1),(1,.box 0 [.ow 3] 225)],[],4⟩) (pN fun x s=>Fu x s) ([]:List UInt64) hd (via Sum.inl hyN rfl fun g R h=>JH q2 g R h) rfl (fun _=>rfl) (fun _=>rfl) (fun _=>rfl) (fun _=>rfl) ?_ ?_ ?_ ?_
  ·intro s1 b5 s' hp l D0 As η0 m0 hd Ja ba;exact gb ba hd () trivial
  ·intro s1 b5 s' hp l D0 As η0 m0 hd Jb bb Jr br;obtain⟨z1,q3,hp⟩:=AjT.1 hp;subst hp;unfold Fu at q3;obtain⟨x3,q4,q3⟩:=Ad q3;refine oB q4 fun x4 q5 q4=>O2 2 (E:=eB) (xs:=b5) 11 fun hle1=>gF (EM _ _ _) q5 (fun p0 p=>⟨[(3,.pb 0 0),(5,.d (.u p)),(9,.fn (.func 251) [] [.pb 1 0,.pb 2 0]),(11,sl eB b5),(12,.d (.i (b5.length:Int))),(13,.d (.i p0))],[(0,.row 3 1 _ eU s1),(1,.box 0 [.ow 3] 225)],[],4⟩) fun i1 s2 Jl bl1=>cM bl1 (b5.length:Int) (fun y1 q8 bl1=> ?_) fun e=> ?_
   ·unfold Ft at q8;refine oB q8 fun x6 q10 q8=>gx eB 1 q10 ?_;obtain⟨q11,q8⟩:=Cz q8;refine gsh (r:= .u (JO (toU (x6.toNat:Int)) ((w64 (8*(i1:Int))).toNat))) (fun h=>q11)<|bE q8 ?_;intro x7 q8;exact gM bl1 hle1 q8
   subst e;obtain rfl:=AjC q4;let x3:=x4;refine gq eU 1 [x3]<|oB q3 fun x8 q13 q3=>gp eU 1 q13 ?_;obtain rfl:=AjC q3;exact gb bb hd x8 rfl
  ·intro x hx;have hx:=Sum.inl.inj hx;subst hx;obtain rfl:=AjC hm;exact gE
  intro y hy;cases hy
def H8 (a0:UInt64)(a1:UInt64):Option UInt64:=bnd (((a1&&&2305843009213693951)+((JO a0 3)|||(En a1 61)))) fun x1=>bnd (((x1&&&2305843009213693951)+(En x1 61))) fun x2=>Ab (if(decide ((x2.toNat:Int)≥2305843009213693951))=true then some (x2-2305843009213693951)else some x2) fun x3=>some x3
theorem Pm {a0 a1 r}(hm:H8 a0 a1=some r):Sf prog 252 [.d (.u a0),.d (.u a1)] (.d (.u r)):=by
 refine sq fun D0 As η0 m0 hd=>bE hm ?_;intro x1 hm;refine bE hm ?_;intro x2 hm;refine oB hm fun x3 q3 hm=>gj (fun(_:Unit)=>⟨[(5,.d (.u x3))],[],[],0⟩) (fun _=>True) (fun Jp bk1=> ?_) fun _ _=> ?_
 ·refine gi q3 ?_ ?_<;>intro hc1 q3
  ·obtain rfl:=AjC q3;exact gb bk1 hd () trivial
  obtain rfl:=AjC q3;exact gb bk1 hd () trivial
 obtain rfl:=AjC hm;exact gE
def E2 (a0:UInt64):Option UInt64:=Ab (H8 0 a0) fun x1=>some x1
theorem I1 {a0 r}(hm:E2 a0=some r):Sf prog 223 [.d (.u a0)] (.d (.u r)):=by
 refine sq ?_;intros;refine gA hm Pm fun x1 q1 hm=> ?_;exact AjC hm▸gE
def Gh (a0:UInt64)(a1:UInt64):Option UInt64:=Ab (E2 a0) fun x1=>Ab (E2 a1) fun x2=>Ab (E2 (x1+x2)) fun x3=>some x3
theorem KO {a0 a1 r}(hm:Gh a0 a1=some r):Sf prog 177 [.d (.u a0),.d (.u a1)] (.d (.u r)):=by
 refine sq ?_;intros;refine gA hm I1 fun x1 q1 hm=>gA hm I1 fun x2 q2 hm=>gA hm I1 fun x3 q3 hm=> ?_;exact AjC hm▸gE
def Ic (a0:UInt64)(a1:UInt64):Option (UInt64×UInt64):=bnd (((a0&&&4294967295)*(a1&&&4294967295))) fun x1=>bnd ((((En a0 32)*(a1&&&4294967295))+(En x1 32))) fun x2=>bnd (((x2&&&4294967295)+((a0&&&4294967295)*(En a1 32)))) fun x3=>bnd (((((En a0 32)*(En a1 32))+(En x2 32))+(En x3 32))) fun x4=>some (x4,(a0*a1))
theorem LN {a0 a1 r}(hm:Ic a0 a1=some r):Sf prog 179 [.d (.u a0),.d (.u a1)] (.tup [.d (.u r.1),.d (.u r.2)]):=by
 refine sq ?_;intros;refine bE hm ?_;intro x1 hm;refine bE hm ?_;intro x2 hm;refine bE hm ?_;intro x3 hm;refine bE hm ?_;intro x4 hm;obtain rfl:=AjC hm;exact gE
def Jn (a0:UInt64)(a1:UInt64):Option UInt64:=Ab (E2 a0) fun x1=>Ab (E2 a1) fun x2=>Ab (Ic x1 x2) fun x3=>Ab (H8 x3.1 x3.2) fun x4=>some x4
theorem Qu {a0 a1 r}(hm:Jn a0 a1=some r):Sf prog 253 [.d (.u a0),.d (.u a1)] (.d (.u r)):=by
 refine sq ?_;intros;refine gA hm I1 fun x1 q1 hm=>gA hm I1 fun x2 q2 hm=>gA hm LN fun x3 q3 hm=>gA hm Pm fun x4 q4 hm=> ?_;exact AjC hm▸gE
def Jm (i1:Int)(s1:UInt64):Option (UInt64):=Ab (Jn s1 s1) fun x4=>some x4
def Es (a0:UInt64):Option UInt64:=Ab (Ab (B3 Jm 4 0 a0) fun x2=>some x2) fun x1=>Ab (Jn a0 x1) fun x5=>some x5
theorem PM {a0 r}(hm:Es a0=some r):Sf prog 226 [.d (.u a0)] (.d (.u r)):=by
 refine sq ?_;intros;unfold Es at hm;obtain⟨x1,q1,hm⟩:=Ad hm;refine oB q1 fun x2 q2 q1=>gF (EM _ 4 _) q2 (fun p0 p=>⟨[(0,.d (.u a0)),(3,.d (.u p)),(5,.d (.i p0))],[],[],0⟩) fun i1 s1 Jl bl1=>cM bl1 (4:Int) (fun y1 q5 bl1=> ?_) fun e=> ?_
 ·exact gA q5 Qu fun x4 q7 q5=>gM bl1 lk q5
 subst e;obtain rfl:=AjC q1;let x1:=x2;refine gA hm Qu fun x5 q8 hm=> ?_;obtain rfl:=AjC hm;exact gE
def J0 (a0:Int)(a1:UInt64)(k0:Int)(k1:UInt64):Option (UInt64×Int×UInt64):=bnd ((toU (w64 ((w64 ((w64 (3*k0))+a0))+1)))) fun x1=>Ab (Gh a1 (((x1*x1)*x1)+7)) fun x2=>Ab (Es x2) fun x3=>Ab (Gh k1 x3) fun x4=>some (x3,k0,x4)
theorem VL {a0 a1 k0 k1 r}(hm:J0 a0 a1 k0 k1=some r):Sp prog 225 [.d (.i a0),.d (.u a1),.pb 0 0,.pb 1 0] [.box 0 [.d (.i k0)] 3,.box 1 [.d (.u k1)] 22] 2 (is (.d (.u r.1)) [.box 0 [.d (.i r.2.1)] 3,.box 1 [.d (.u r.2.2)] 22] 2):=by
 refine sq ?_;intros;refine bE hm ?_;intro x1 hm;refine gA hm KO fun x2 q2 hm=>gA hm PM fun x3 q3 hm=>gA hm KO fun x4 q4 hm=> ?_;obtain rfl:=AjC hm;exact gE
def JZ (a0:Int)(a1:UInt64)(k0:UInt64):Option (UInt64×UInt64):=Ab (Gh a1 k0) fun x1=>some (x1,k0)
theorem VK {a0 a1 k0 r}(hm:JZ a0 a1 k0=some r):Sp prog 227 [.d (.i a0),.d (.u a1),.pb 0 0] [.box 0 [.d (.u k0)] 22] 1 (is (.d (.u r.1)) [.box 0 [.d (.u r.2)] 22] 1):=by
 refine sq ?_;intros;refine gA hm KO fun x1 q1 hm=> ?_;exact AjC hm▸gE
def FQ (i1:Int)(s1:UInt64×UInt64×UInt64×Int×UInt64):Option (UInt64×UInt64×UInt64×Int×UInt64):=Ab (idx [s1.1,s1.2.1,s1.2.2.1] (i1:Int)) fun x3=>Ab (J0 (i1:Int) x3 s1.2.2.2.1 s1.2.2.2.2) fun x4=>Ab (idx [s1.1,s1.2.1,s1.2.2.1] (i1:Int)) fun x5=>bnd (if(i1:Int)=0 then x4.1 else s1.1) fun x6=>bnd (if(i1:Int)=1 then x4.1 else s1.2.1) fun x7=>bnd (if(i1:Int)=2 then x4.1 else s1.2.2.1) fun x8=>some (x6,x7,x8,x4.2.1,x4.2.2)
def Dp (a0:UInt64×UInt64×UInt64)(k0:Int)(k1:UInt64):Option ((UInt64×UInt64×UInt64)×Int×UInt64):=Ab (B3 FQ 3 0 (a0.1,a0.2.1,a0.2.2,k0,k1)) fun x1=>some ((x1.1,x1.2.1,x1.2.2.1),x1.2.2.2.1,x1.2.2.2.2)
theorem Lx {a0 k0 k1 r}(hm:Dp a0 k0 k1=some r):Sp prog 224 [.pb 0 0,.fn (.func 225) [] [.pb 1 0,.pb 2 0]] [.box 0 [.d (.u a0.1),.d (.u a0.2.1),.d (.u a0.2.2)] 261,.box 1 [.d (.i k0)] 3,.box 2 [.d (.u k1)] 22] 3 (is (.tup []) [.box 0 [.d (.u r.1.1),.d (.u r.1.2.1),.d (.u r.1.2.2)] 261,.box 1 [.d (.i r.2.1)] 3,.box 2 [.d (.u r.2.2)] 22] 3):=by
 refine sq ?_;intros;refine oB hm fun x1 q1 hm=>gF (EM _ 3 _) q1 (fun p0 (p_0,p_1,p_2,p_3,p_4)=>⟨[(0,.pb 0 0),(1,.fn (.func 225) [] [.pb 1 0,.pb 2 0]),(6,.pb 0 0),(7,.d (.i p0))],[(0,.box 0 [.d (.u p_0),.d (.u p_1),.d (.u p_2)] 261),(1,.box 1 [.d (.i p_3)] 3),(2,.box 2 [.d (.u p_4)] 22)],[],3⟩) fun i1 s1 Jl bl1=>cM bl1 (3:Int) (fun y1 q4 bl1=> ?_) fun e=> ?_
 ·refine oB q4 fun x3 q6 q4=>O3 (fun _=>q6)<|gldA D.u (fun _=>q6)<|gD q4 VL fun x4 q7 q4=>oB q4 fun x5 q8 q4=>O3 (fun _=>q8)<|bE q4 ?_;intro x6 q4;refine bE q4 ?_;intro x7 q4;refine bE q4 ?_;intro x8 q4;exact AgZ D.u x4.1 q8<|gM bl1 lk q4
 subst e;obtain rfl:=AjC hm;exact gE
def FO (i1:Int)(s1:UInt64×UInt64×UInt64×UInt64):Option (UInt64×UInt64×UInt64×UInt64):=Ab (idx [s1.1,s1.2.1,s1.2.2.1] (i1:Int)) fun x3=>Ab (JZ (i1:Int) x3 s1.2.2.2) fun x4=>Ab (idx [s1.1,s1.2.1,s1.2.2.1] (i1:Int)) fun x5=>bnd (if(i1:Int)=0 then x4.1 else s1.1) fun x6=>bnd (if(i1:Int)=1 then x4.1 else s1.2.1) fun x7=>bnd (if(i1:Int)=2 then x4.1 else s1.2.2.1) fun x8=>some (x6,x7,x8,x4.2)
def Dn (a0:UInt64×UInt64×UInt64)(k0:UInt64):Option ((UInt64×UInt64×UInt64)×UInt64):=Ab (B3 FO 3 0 (a0.1,a0.2.1,a0.2.2,k0)) fun x1=>some ((x1.1,x1.2.1,x1.2.2.1),x1.2.2.2)
theorem Lw {a0 k0 r}(hm:Dn a0 k0=some r):Sp prog 224 [.pb 0 0,.fn (.func 227) [] [.pb 1 0]] [.box 0 [.d (.u a0.1),.d (.u a0.2.1),.d (.u a0.2.2)] 261,.box 1 [.d (.u k0)] 22] 2 (is (.tup []) [.box 0 [.d (.u r.1.1),.d (.u r.1.2.1),.d (.u r.1.2.2)] 261,.box 1 [.d (.u r.2)] 22] 2):=by
 refine sq ?_;intros;refine oB hm fun x1 q1 hm=>gF (EM _ 3 _) q1 (fun p0 (p_0,p_1,p_2,p_3)=>⟨[(0,.pb 0 0),(1,.fn (.func 227) [] [.pb 1 0]),(6,.pb 0 0),(7,.d (.i p0))],[(0,.box 0 [.d (.u p_0),.d (.u p_1),.d (.u p_2)] 261),(1,.box 1 [.d (.u p_3)] 22)],[],2⟩) fun i1 s1 Jl bl1=>cM bl1 (3:Int) (fun y1 q4 bl1=> ?_) fun e=> ?_
 ·refine oB q4 fun x3 q6 q4=>O3 (fun _=>q6)<|gldA D.u (fun _=>q6)<|gD q4 VK fun x4 q7 q4=>oB q4 fun x5 q8 q4=>O3 (fun _=>q8)<|bE q4 ?_;intro x6 q4;refine bE q4 ?_;intro x7 q4;refine bE q4 ?_;intro x8 q4;exact AgZ D.u x4.1 q8<|gM bl1 lk q4
 subst e;obtain rfl:=AjC hm;exact gE
def K9 (i1:Int)(s1:UInt64×UInt64×UInt64):Option (UInt64×UInt64×UInt64):=Ab (Dp s1 (i1:Int) 0) fun x4=>Ab (Dn x4.1 x4.2.2) fun x5=>some (x5.1.1,x5.1.2.1,x5.1.2.2)
def KC (a0:UInt64×UInt64×UInt64):Option (UInt64×UInt64×UInt64):=Ab (Ab (B3 K9 8 0 (a0.1,a0.2.1,a0.2.2)) fun x2=>some (x2.1,x2.2.1,x2.2.2)) fun x1=>some x1
theorem Aag {a0 r}(hm:KC a0=some r):Sf prog 178 [ag (O7 a0)] (ag (O7 r)):=by
 refine sq ?_;intros;unfold KC at hm;obtain⟨x1,q1,hm⟩:=Ad hm;refine oB q1 fun x2 q2 q1=>gF (EM _ 8 _) q2 (fun p0 (p_0,p_1,p_2)=>⟨[(2,.pb 1 0),(3,.pb 2 0),(7,.d (.i p0)),(1,.pb 0 0)],[(0,.box 2 [.d (.u p_0),.d (.u p_1),.d (.u p_2)] 261),(1,.box 1 [.d (.u 0),.d (.u 0),.d (.u 0)] 224),(2,.box 0 [.d (.u a0.1),.d (.u a0.2.1),.d (.u a0.2.2)] 224)],[],3⟩) fun i1 s1 Jl bl1=>cM bl1 (8:Int) (fun y1 q5 bl1=> ?_) fun e=> ?_
 ·exact gD q5 Lx fun x4 q7 q5=>gD q5 Lw fun x5 q8 q5=>gM bl1 lk q5
 subst e;obtain rfl:=AjC q1;let x1:=(x2.1,x2.2.1,x2.2.2);obtain rfl:=AjC hm;exact gE
def GV (x6:List UInt64)(i2:Int)(s2:UInt64×UInt64×UInt64):Option (UInt64×UInt64×UInt64):=Ab (idx x6 (i2:Int)) fun x9=>Ab (idx [s2.1,s2.2.1,s2.2.2] (i2:Int)) fun x10=>Ab (Gh x10 x9) fun x11=>Ab (idx [s2.1,s2.2.1,s2.2.2] (i2:Int)) fun x12=>bnd (if(i2:Int)=0 then x11 else s2.1) fun x13=>bnd (if(i2:Int)=1 then x11 else s2.2.1) fun x14=>bnd (if(i2:Int)=2 then x11 else s2.2.2) fun x15=>some (x13,x14,x15)
def CQ (s1:(List UInt64)×Bool×UInt64×UInt64×UInt64):Option (((List UInt64)×Bool×UInt64×UInt64×UInt64)⊕(UInt64×UInt64×UInt64)):=if(s1.2.1||(decide ((s1.1.length:Int)>0)))=true then Ab (Ab (cut s1.1 0 (Zw 2 (s1.1.length:Int))) fun x6=>Ab (B3 (GV x6) x6.length 0 (s1.2.2.1,s1.2.2.2.1,s1.2.2.2.2)) fun x7=>some (x7.1,x7.2.1,x7.2.2)) fun x5=>Ab (cut s1.1 (Zw 2 (s1.1.length:Int)) (s1.1.length:Int)) fun x16=>Ab (KC x5) fun x17=>some (.inl (x16,false,x17.1,x17.2.1,x17.2.2))else some (.inr (s1.2.2.1,s1.2.2.2.1,s1.2.2.2.2))
def MB (a0:List UInt8):Option (UInt64×UInt64):=Ab (KD a0) fun x1=>Ab (Ab (iter CQ Bl (x1,true,0,0,(toU (a0.length:Int)))) fun x3=>some (x3.1,x3.2.1,x3.2.2)) fun x2=>some (x2.1,x2.2.1)
theorem Aaf {a0 r}(hm:MB a0=some r):Sf prog 140 [sl eB a0] (ag (AF r)):=by
 refine sq ?_;intros;refine gD hm Aah fun x1 q1 hm=> ?_;obtain⟨x2,q2,hm⟩:=Ad hm;refine oB q2 fun x3 q3 q2=>gI q3 (fun(p_0,p_1,p_2,p_3,p_4)=>⟨[(2,.pb 0 0),(3,.pb 1 0),(4,sl eU p_0),(5,.d (.t p_1))],[(0,.box 1 [.d (.u p_2),.d (.u p_3),.d (.u p_4)] 224),(1,.box 0 [.d (.u 0),.d (.u 0)] 38)],[],2⟩) fun s1 y1 Jl q6 bl1=>gi q6 ?_ ?_<;>intro hc1 q6
 ·obtain⟨x5,q8,q6⟩:=Ad q6;refine oB q8 fun x6 q9 q8=>gk eU 1 q9<|oB q8 fun x7 q10 q8=>O2 2 (E:=eU) (xs:=x6) 26 fun hle2=>gF (EM _ _ _) q10 (fun p0 (p_0,p_1,p_2)=>⟨[(2,.pb 0 0),(3,.pb 1 0),(4,sl eU s1.1),(6,.d (.i (Zw 2 (s1.1.length:Int)))),(26,sl eU x6),(27,.d (.i (x6.length:Int))),(28,.d (.i p0))],[(0,.box 1 [.d (.u p_0),.d (.u p_1),.d (.u p_2)] 224),(1,.box 0 [.d (.u 0),.d (.u 0)] 38)],[],2⟩) fun i2 s2 Jl bl2=>cM bl2 (x6.length:Int) (fun y2 q13 bl2=> ?_) fun e=> ?_
  ·refine oB q13 fun x9 q15 q13=>gx eU 1 q15<|oB q13 fun x10 q16 q13=>O3 (fun _=>q16)<|gldA D.u (fun _=>q16)<|gA q13 KO fun x11 q17 q13=>oB q13 fun x12 q18 q13=>O3 (fun _=>q18)<|bE q13 ?_;intro x13 q13;refine bE q13 ?_;intro x14 q13;refine bE q13 ?_;intro x15 q13;exact AgZ D.u x11 q18<|gM bl2 hle2 q13
  subst e;obtain rfl:=AjC q8;let x5:=(x7.1,x7.2.1,x7.2.2);exact oB q6 fun x16 q22 q6=>gk eU 1 q22<|gA q6 Aag fun x17 q23 q6=>gN bl1 q6
 obtain rfl:=nR bl1 q6;let x3:=(s1.2.2.1,s1.2.2.2.1,s1.2.2.2.2);obtain rfl:=AjC q2;let x2:=(x3.1,x3.2.1,x3.2.2);obtain rfl:=AjC hm;exact gE
def Iq (i1:Int)(x4:List UInt8)(s1:(List UInt8)):Option ((List UInt8)):=Ab (Fq s1 (toU (x4.length:Int)) 4) fun x5=>Ab (app 1 x5 x4) fun x6=>some x6
def Da (a0:ByteArray)(a1:List (List UInt8)):Option (UInt64×UInt64):=Ab (app 1 ([(toB (a0.size:Int))]:List UInt8) a0.data.toList) fun x1=>Ab (Ab (Db Iq a1 0 x1) fun x3=>some x3) fun x2=>Ab (MB x2) fun x7=>some x7
theorem Gz {a0 a1 r}(hm:Da a0 a1=some r):Sf prog 90 [.d (.s a0),sl (eL eB) a1] (ag (AF r)):=by
 refine sq ?_;intros;refine Xa (k:=1) eB ([(toB (a0.size:Int))]:List UInt8) (fun _=>rfl)<|oB hm fun x1 q1 hm=>gapS q1 ?_;obtain⟨x2,q2,hm⟩:=Ad hm;refine oB q2 fun x3 q3 q2=>O2 0 (E:=(eL eB)) (xs:=a1) 14 fun hle1=>gF (E0 _ _ _) q3 (fun p0 p=>⟨[(4,.pb 0 0),(5,.ow 1),(14,sl (eL eB) a1),(15,.d (.i (a1.length:Int))),(16,.d (.i p0))],[(0,.row 1 1 _ eB p),(1,.box 0 [.d (.u 0),.d (.u 0)] 38)],[],2⟩) fun i1 s1 Jl bl1=>c0 bl1 (fun x4 y1 q7 q6 bl1=> ?_) fun e=> ?_
 ·exact gx (eL eB) 1 q7<|gD q6 SA fun x5 q8 q6=>oB q6 fun x6 q9 q6=>gp eB 1 q9<|gM bl1 hle1 q6
 subst e;obtain rfl:=AjC q2;let x2:=x3;refine gD hm Aaf fun x7 q10 hm=> ?_;obtain rfl:=AjC hm;exact gE
theorem Uf {m:Mem}{As:List Ow}{w:World}{a0:ByteArray}{a1:List (List UInt8)}{a1v0:Value}{r:UInt64×UInt64}(S:St m As w)(a1h0:SlR m a1v0 a1)(hm:Da a0 a1=some r):
  By prog 90 #[vS a0,a1v0] w fun v w'=> ∃(M:Mem),m≤M∧St M (As) w'∧v= .agg #[vU r.1,vU r.2]:=by
 refine By.mono ((Gz hm).2 none0 m As w [vS a0,a1v0] (.cons (.d (.s _)) (.cons (.d (Br.toS (Br.sl Br.b) a1h0)) .nil)) (fun n h=>absurd rfl h) S) ?_;rintro v w' ⟨M,η',r',obs',n1,hle,_,⟨rfl,rfl,rfl⟩,hdom,hR,S'⟩;obtain⟨c0,rfl,g0⟩:=Br.ofA Ms hR;obtain rfl:=ES g0;exact⟨M,hle,S',rfl⟩
def Fo (a0:List UInt8):Option (UInt64×UInt64):=Ab (Da (⟨#[108,101,97,102]⟩:ByteArray) ([a0]:List (List UInt8))) fun x1=>some x1
theorem KM {a0 r}(hm:Fo a0=some r):Sf prog 62 [sl eB a0] (ag (AF r)):=by
 refine sq ?_;intros;refine gq (eL eB) 1 [a0]<|gA hm Gz fun x1 q1 hm=> ?_;exact AjC hm▸gE
def Er (a0:Ah)(a1:Int)(i1:Int)(s1:(List Int)×(List (UInt64×UInt64))):Option ((List Int)×(List (UInt64×UInt64))):=Ab (idx a0.L (i1:Int)) fun x5=>Ab (Ab (gu (decide ((s1.1.length:Int)>0)) (idx s1.1 0)) fun x7=>if((decide ((s1.1.length:Int)>0))&&(x7==(i1:Int)))=true then Ab (cut s1.1 1 (s1.1.length:Int)) fun x8=>if(a1==1)=true then Ab (AL ([([0]:List UInt8),x5.Body]:List (List UInt8))) fun x9=>some (x8,x9)else some (x8,x5.Body)else some (s1.1,x5.Body)) fun x6=>Ab (Fo x6.2) fun x10=>Ab (app 16 s1.2 ([x10]:List (UInt64×UInt64))) fun x11=>some (x6.1,x11)
def CP (a0:Ah)(a1:Int):Option ((List (UInt64×UInt64))×Int):=Ab (Eb a0) fun x1=>if(x1 !=0)=true then some (([]:List (UInt64×UInt64)),x1)else if((a1 !=0)&&(a1 !=1))=true then some (([]:List (UInt64×UInt64)),240)else Ab (Ab (B3 (Er a0 a1) a0.L.length 0 (a0.Hide,([]:List (UInt64×UInt64)))) fun x3=>some x3.2) fun x2=>some (x2,0)
theorem NP {a0 a1 r}(hm:CP a0 a1=some r):Sp prog 32 [ag (Bn a0),.d (.i a1)] [] 0 (is (.tup [.ow 0,.d (.i r.2)]) [.row 0 2 _ AF r.1] 1):=by
 refine sq fun D0 As η0 m0 hd=>gA hm HV fun x1 q1 hm=>gi hm ?_ ?_<;>intro hc1 hm
 ·refine W9 AF 4 2 ?_;obtain rfl:=AjC hm;exact gE
 refine gi hm ?_ ?_<;>intro hc2 hm
 ·refine W9 AF 4 2 ?_;obtain rfl:=AjC hm;exact gE
 obtain⟨x2,q2,hm⟩:=Ad hm;refine oB q2 fun x3 q3 q2=>Nt 0 AF 8 2<|O2 0 (E:=Ag) (xs:=a0.L) 26 fun hle1=>gF (EM _ _ _) q3 (fun p0 (p_0,p_1)=>⟨[(1,.d (.i a1)),(7,sl eI p_0),(8,.ow 1),(26,sl Ag a0.L),(27,.d (.i (a0.L.length:Int))),(28,.d (.i p0)),(2,.pb 0 0)],[(0,.row 1 2 _ AF p_1),(1,.box 0 [.d (.i a0.Id),.d (.u a0.Key),.d (.i a0.Delay),sl Ag a0.L,sl eI a0.Hide,sl Ag a0.Wait] 26)],[],2⟩) fun i1 s1 Jl bl1=>cM bl1 (a0.L.length:Int) (fun y1 q6 bl1=> ?_) fun e=> ?_
 ·refine oB q6 fun x5 q8 q6=>gx Ag 2 q8 ?_;obtain⟨x6,q9,q6⟩:=Ad q6;refine oB q9 fun x7 q10 q9=>gxG eI 1 q10<|gj (fun(_:Unit)=>let (y_0,y_1):=x6; ⟨[(1,.d (.i a1)),(7,sl eI y_0),(8,.ow 1),(11,sl eB y_1),(26,sl Ag a0.L),(27,.d (.i (a0.L.length:Int))),(28,.d (.i (i1:Int))),(10,.pb 2 0),(2,.pb 0 0)],[(0,.box 2 [sl eB x5.Body,.d (.i x5.At)] 79),(1,.row 1 2 _ AF s1.2),(2,.box 0 [.d (.i a0.Id),.d (.u a0.Key),.d (.i a0.Delay),sl Ag a0.L,sl eI a0.Hide,sl Ag a0.Wait] 26)],[],3⟩) (fun _=>True) (fun Jp bk3=> ?_) fun _ _=> ?_
  ·refine gi q9 ?_ ?_<;>intro hc3 q9
   ·refine oB q9 fun x8 q11 q9=>gk eI 1 q11<|gi q9 ?_ ?_<;>intro hc4 q9
    ·refine gq eB 1 [0]<|gq (eL eB) 1 [([0]:List UInt8),x5.Body]<|gD q9 DI fun x9 q12 q9=> ?_;obtain rfl:=AjC q9;exact gb bk3 hd () trivial
    obtain rfl:=AjC q9;exact gb bk3 hd () trivial
   obtain rfl:=AjC q9;exact gb bk3 hd () trivial
  exact gA q6 KM fun x10 q13 q6=>gq AF 2 [x10]<|oB q6 fun x11 q14 q6=>gp AF 2 q14<|gM bl1 hle1 q6
 subst e;obtain rfl:=AjC q2;let x2:=x3.2;obtain rfl:=AjC hm;exact gE
theorem Ue {m:Mem}{As:List Ow}{w:World}{a0:Ah}{a0v3:Value}{a0v4:Value}{a0v5:Value}{a1:Int}{r:(List (UInt64×UInt64))×Int}(S:St m As w)(a0h3:SlR m a0v3 a0.L)(a0h4:SlR m a0v4 a0.Hide)(a0h5:SlR m a0v5 a0.Wait)(hm:CP a0 a1=some r):
  By prog 32 #[.agg #[vI a0.Id,vU a0.Key,vI a0.Delay,a0v3,a0v4,a0v5],vI a1] w fun v w'=> ∃(M:Mem),m≤M∧∃(rv0:Value) (rc0:List Value),St M ((row 2 rv0 rc0 r.1.length)::As) w'∧v= .tuple #[rv0,vI r.2]∧Ba M rc0 r.1:=by
 refine By.mono ((NP hm).2 none0 m As w [.agg #[vI a0.Id,vU a0.Key,vI a0.Delay,a0v3,a0v4,a0v5],vI a1] (.cons (Br.toA RC (Py a0h3 a0h4 a0h5)) (.cons (.d (.i _)) .nil)) (fun n h=>absurd rfl h) S) ?_;rintro v w' ⟨M,η',r',obs',n1,hle,_,⟨rfl,rfl,rfl⟩,hdom,hR,S'⟩;obtain⟨us,rfl,hR0⟩:=hR.tup_inv;obtain⟨v0,u0,rfl,q0,hR1⟩:=BB.cons_inv hR0;obtain⟨v1,u1,rfl,q1,hR2⟩:=BB.cons_inv hR1;obtain rfl:=BB.nil_inv hR2;obtain⟨n0,o0⟩:=q0.ow_inv;obtain⟨y0,c0,k0,_,d0,_,S'⟩:=St.openRow S';rw[n0]at k0; obtain rfl:=AjC k0;obtain rfl:=q1.i_inv;exact⟨M,hle,v0,c0,S',rfl,Br.ofL Ms d0⟩
def GZ (a0:Int):Option Bool:=some (a0 !=a0)
theorem LM {a0 r}(hm:GZ a0=some r):Sf prog 109 [.d (.i a0)] (.d (.t r)):=by
 refine sq ?_;intros;exact AjC hm▸gE
def HS (a0:Int)(a1:Int):Option Bool:=Ab (GZ a0) fun x1=>Ab (gu x1 (GZ a1)) fun x2=>bnd (((x1&&(!x2))||(decide (a0<a1)))) fun x3=>some x3
theorem R8 {a0 a1 r}(hm:HS a0 a1=some r):Sf prog 67 [.d (.i a0),.d (.i a1)] (.d (.t r)):=by
 refine sq ?_;intros;refine gA hm LM fun x1 q1 hm=>oB hm fun x2 q2 hm=>gcH q2 LM<|bE hm ?_;intro x3 hm;obtain rfl:=AjC hm;exact gE
def DB (a0:Int):Option Bool:=some (a0 !=a0)
theorem JJ {a0 r}(hm:DB a0=some r):Sf prog 68 [.d (.i a0)] (.d (.t r)):=by
 refine sq ?_;intros;exact AjC hm▸gE
def CE (a0:List Int)(a1:Int)(s1:Int×Int):Option ((Int×Int)⊕(Int)):=if(decide (s1.1<s1.2))=true then bnd ((w64 ((En (toU (w64 (s1.1+s1.2))) 1).toNat:Int))) fun x4=>Ab (idx a0 x4) fun x5=>Ab (HS x5 a1) fun x6=>if x6=true then some (.inl ((w64 (x4+1)),s1.2))else some (.inl (s1.1,x4))else some (.inr s1.1)
def A8 (a0:List Int)(a1:Int):Option (Int×Bool):=Ab (Ab (iter (CE a0 a1) Bl (0,(a0.length:Int))) fun x2=>some x2) fun x1=>Ab (gu (decide (x1<(a0.length:Int))) (idx a0 x1)) fun x7=>Ab (gu ((decide (x1<(a0.length:Int)))&&(!(x7==a1))) (idx a0 x1)) fun x8=>Ab (gu ((decide (x1<(a0.length:Int)))&&(!(x7==a1))) (DB x8)) fun x9=>Ab (gu (((decide (x1<(a0.length:Int)))&&(!(x7==a1)))&&x9) (DB a1)) fun x10=>bnd (((decide (x1<(a0.length:Int)))&&((x7==a1)||(x9&&x10)))) fun x11=>some (x1,x11)
theorem Ij {a0 a1 r}(hm:A8 a0 a1=some r):Sf prog 37 [sl eI a0,.d (.i a1)] (.tup [.d (.i r.1),.d (.t r.2)]):=by
 refine sq ?_;intros;unfold A8 at hm;obtain⟨x1,q1,hm⟩:=Ad hm;refine oB q1 fun x2 q2 q1=>gI q2 (fun(p_0,p_1)=>⟨[(0,sl eI a0),(1,.d (.i a1)),(6,.d (.i (a0.length:Int))),(7,.d (.i p_0)),(8,.d (.i p_1))],[],[],0⟩) fun s1 y1 Jl q5 bl1=>gi q5 ?_ ?_<;>intro hc1 q5
 ·refine bE q5 ?_;intro x4 q5;refine oB q5 fun x5 q8 q5=>gx eI 1 q8<|gA q5 R8 fun x6 q9 q5=>gi q5 ?_ ?_<;>intro hc2 q5
  ·exact gN bl1 q5
  exact gN bl1 q5
 obtain rfl:=nR bl1 q5;let x2:=s1.1;obtain rfl:=AjC q1;let x1:=x2;refine oB hm fun x7 q10 hm=>gxG eI 1 q10<|oB hm fun x8 q11 hm=>gxG eI 1 q11<|oB hm fun x9 q12 hm=>gcH q12 JJ<|oB hm fun x10 q13 hm=>gcH q13 JJ<|bE hm ?_;intro x11 hm;obtain rfl:=AjC hm;exact gE
def Mk (a0:Fw)(k0:Int):Option (Bool×Int):=some ((a0.tag_==k0),k0)
theorem VN {a0 k0 r}(hm:Mk a0 k0=some r):Sp prog 238 [ag (Gs a0),.pb 0 0] [.box 0 [.d (.i k0)] 3] 1 (is (.d (.t r.1)) [.box 0 [.d (.i r.2)] 3] 1):=by
 refine sq ?_;intros;exact AjC hm▸gE
def An (a0:List Fw)(i1:Int)(s1:Int):Option ((Int)⊕(Int×Int)):=Ab (idx a0 (i1:Int)) fun x3=>Ab (Mk x3 s1) fun x4=>if x4.1=true then some (.inr ((i1:Int),x4.2))else some (.inl x4.2)
def Bz (a0:List Fw)(k0:Int):Option (Int×Int):=Ab (Kb (An a0) a0.length 0 k0) fun x1=>match x1 with| .inr r=>some r| .inl y1=>some ((-1),y1)
theorem EA {a0 k0 r}(hm:Bz a0 k0=some r):Sp prog 237 [sl Gs a0,.fn (.func 238) [] [.pb 0 0]] [.box 0 [.d (.i k0)] 3] 1 (is (.d (.i r.1)) [.box 0 [.d (.i r.2)] 3] 1):=by
 refine sq ?_;intros;refine oB hm fun x1 q1 hm=>O2 0 (E:=Gs) (xs:=a0) 6 fun hle1=>gF (EN _ _ _) q1 (fun p0 p=>⟨[(0,sl Gs a0),(1,.fn (.func 238) [] [.pb 0 0]),(7,.d (.i (a0.length:Int))),(8,.d (.i p0))],[(0,.box 0 [.d (.i p)] 3)],[],1⟩) fun i1 s1 Jl bl1=>cN bl1 (a0.length:Int) (fun y2 q4 bl1=> ?_) fun e=> ?_
 ·refine oB q4 fun x3 q6 q4=>gx Gs 2 q6<|gD q4 VN fun x4 q7 q4=>gi q4 ?_ ?_<;>intro hc1 q4
  ·obtain rfl:=nT bl1 q4;obtain rfl:=AjC hm;exact gE
  exact gT bl1 hle1 q4
 subst e;let y1:=s1;obtain rfl:=AjC hm;exact gE
def Hz (a0:Int):Option (Fw×Bool):=Ab (Bz tab_2 a0) fun x1=>if(decide (x1.1<0))=true then some ((⟨0,(-1)⟩:Fw),false)else Ab (idx tab_2 x1.1) fun x2=>some (x2,true)
theorem SC {a0 r}(hm:Hz a0=some r):Sf prog 191 [.d (.i a0)] (.tup [ag (Gs r.1),.d (.t r.2)]):=by
 refine sq ?_;intros;refine gslG (k:=2) (E:=Gs) tab_2 (fun _=>rfl)<|gD hm EA fun x1 q1 hm=>gi hm ?_ ?_<;>intro hc1 hm
 ·exact AjC hm▸gE
 refine oB hm fun x2 q2 hm=>gidG (k:=2) (E:=Gs) tab_2 (fun _=>rfl) (fun _=>q2) ?_;exact AjC hm▸gE
def Oc (n:Int)(a0:List UInt8):Option Bool:=if n=149 then Jq a0 else if n=305 then Fv a0 else if n=306 then Od a0 else if n=307 then IK a0 else if n=310 then IJ a0 else none
theorem YP {n a0 r}(hm:Oc n a0=some r): ∃k:Nat,n=(k:Int)∧Sf prog k [sl eB a0] (.d (.t r)):=by
 unfold Oc at hm;split at hm
 ·rename_i h;exact⟨149,h,Qv hm⟩
 split at hm
 ·rename_i h;exact⟨305,h,T0 hm⟩
 split at hm
 ·rename_i h;exact⟨306,h,TZ hm⟩
 split at hm
 ·rename_i h;exact⟨307,h,TY hm⟩
 split at hm
 ·rename_i h;exact⟨310,h,TX hm⟩
 cases hm
def Mu (rF:g_api_Item→Int→Option Bool):Prop:= ∀{a0:g_api_Item} {a1:Int} {r:Bool},rF a0 a1=some r→Sf prog 146 [ag (Ac a0),.d (.i a1)] (.d (.t r))
def Lb (rF:g_api_Item→Int→Option Bool)(a0:g_api_Item)(k0:Int):Option (Bool×Int):=Ab (rF a0 (w64 (k0-1))) fun x1=>some ((!x1),k0)
theorem TW {rF:g_api_Item→Int→Option Bool}(hF:Mu rF){a0 k0 r}(hm:Lb rF a0 k0=some r):Sp prog 193 [ag (Ac a0),.pb 0 0] [.box 0 [.d (.i k0)] 3] 1 (is (.d (.t r.1)) [.box 0 [.d (.i r.2)] 3] 1):=by
 refine sq ?_;intros;refine gA hm hF fun x1 q1 hm=> ?_;exact AjC hm▸gE
def Aw (rF:g_api_Item→Int→Option Bool)(a0:List g_api_Item)(i1:Int)(s1:Int):Option ((Int)⊕(Int×Int)):=Ab (idx a0 (i1:Int)) fun x3=>Ab ((Lb rF) x3 s1) fun x4=>if x4.1=true then some (.inr ((i1:Int),x4.2))else some (.inl x4.2)
def Bp (rF:g_api_Item→Int→Option Bool)(a0:List g_api_Item)(k0:Int):Option (Int×Int):=Ab (Kb ((Aw rF) a0) a0.length 0 k0) fun x1=>match x1 with| .inr r=>some r| .inl y1=>some ((-1),y1)
theorem Ee {rF:g_api_Item→Int→Option Bool}(hF:Mu rF){a0 k0 r}(hm:Bp rF a0 k0=some r):Sp prog 239 [sl Ac a0,.fn (.func 193) [] [.pb 0 0]] [.box 0 [.d (.i k0)] 3] 1 (is (.d (.i r.1)) [.box 0 [.d (.i r.2)] 3] 1):=by
 refine sq ?_;intros;refine oB hm fun x1 q1 hm=>O2 0 (E:=Ac) (xs:=a0) 6 fun hle1=>gF (EN _ _ _) q1 (fun p0 p=>⟨[(0,sl Ac a0),(1,.fn (.func 193) [] [.pb 0 0]),(7,.d (.i (a0.length:Int))),(8,.d (.i p0))],[(0,.box 0 [.d (.i p)] 3)],[],1⟩) fun i1 s1 Jl bl1=>cN bl1 (a0.length:Int) (fun y2 q4 bl1=> ?_) fun e=> ?_
 ·refine oB q4 fun x3 q6 q4=>gx Ac 3 q6<|oB q4 fun x4 q7 q4=>gco (TW hF q7)<|gi q4 ?_ ?_<;>intro hc1 q4
  ·obtain rfl:=nT bl1 q4;obtain rfl:=AjC hm;exact gE
  exact gT bl1 hle1 q4
 subst e;let y1:=s1;obtain rfl:=AjC hm;exact gE
def AQ (rF:g_api_Item→Int→Option Bool)(a0:List g_api_Item)(k0:Int):Option (Bool×Int):=Ab ((Bp rF) a0 k0) fun x1=>some ((decide (x1.1≥0)),x1.2)
theorem DP {rF:g_api_Item→Int→Option Bool}(hF:Mu rF){a0 k0 r}(hm:AQ rF a0 k0=some r):Sp prog 192 [sl Ac a0,.fn (.func 193) [] [.pb 0 0]] [.box 0 [.d (.i k0)] 3] 1 (is (.d (.t r.1)) [.box 0 [.d (.i r.2)] 3] 1):=by
 refine sq ?_;intros;refine oB hm fun x1 q1 hm=>gco (Ee hF q1) ?_;exact AjC hm▸gE
def Hy (rF:g_api_Item→Int→Option Bool)(a0:g_api_Item)(a1:Int):Option Bool:=Ab (Hz a0.Tag) fun x1=>Ab (gu (!((!x1.2)||(decide (a1<1)))) (Oc x1.1.may_ a0.B)) fun x2=>if((((!x1.2)||(decide (a1<1)))||(!x2))||((a0.Tag !=48)&&(decide ((a0.L.length:Int)>0))))=true then some false else Ab ((AQ rF) a0.L a1) fun x3=>some (!x3.1)
theorem Xr {rF:g_api_Item→Int→Option Bool}(hF:Mu rF){a0 a1 r}(hm:Hy rF a0 a1=some r):Sf prog 146 [ag (Ac a0),.d (.i a1)] (.d (.t r)):=by
 refine sq ?_;intros;refine gA hm SC fun x1 q1 hm=>oB hm fun x2 q2 hm=>gdynG (fun h=>YP (Yh h q2))<|gi hm ?_ ?_<;>intro hc1 hm
 ·exact AjC hm▸gE
 refine oB hm fun x3 q3 hm=>gco (DP hF q3) ?_;exact AjC hm▸gE
def H2:Nat→g_api_Item→Int→Option Bool
 |0,_,_=>none
 |n+1,a0,a1=>Hy (H2 n) a0 a1
def Jo (a0:g_api_Item)(a1:Int):Option Bool:=H2 Bl a0 a1
theorem Su: ∀n,Mu (H2 n)
 |0=>fun hm=>by cases hm
 |n+1=>fun hm=>Xr (Su n) hm
theorem LL {a0:g_api_Item}{a1:Int}{r:Bool}(hm:Jo a0 a1=some r):Sf prog 146 [ag (Ac a0),.d (.i a1)] (.d (.t r)):=Su Bl hm
def AW (a0:List UInt8):Option (List UInt8):=Ab (app 1 ([]:List UInt8) a0) fun x1=>some x1
theorem Kj {m As w a0}{a0v0:Value}{r}(S:St m (As) w)(a0h0:SlR m a0v0 a0)(hm:AW a0=some r):
  By Tryz.prog 150 #[a0v0] w fun v w'=> ∃(M:Mem),m≤M∧∃(rv0:Value) (rc0:List Value),St M ((row 1 rv0 rc0 r.length)::As) w'∧v=rv0∧Ba M rc0 r:=by
 unfold AW at hm;have L0:=Mem.rfl' m;refine Hh (args:=[a0v0]) Tryz.func150 rfl Tryz.ntmps150 (AjO rfl)<|Ai<|Af<|B5 (v:= .slice none 0 0) rfl<|Ak<|nrm<|Ai<|Ai<|Af ?_;refine AR (v:=a0v0) rfl<|NX rfl rfl a0h0 Tryz.underlying75<|Ak<|nrm<|DM (t:=(MY a0v0)) rfl (fun hc1=> ?_) (fun hc1=> ?_)
 ·have he1:a0=[]:=SlR.nilOf a0h0 hc1;rw[he1]at hm;replace hm:(some ([]:List UInt8))=some _:=hm;refine Ai<|Af<|B5 (v:= .slice none 0 0) rfl<|Ak<|nrm<|C4<|thR<|Ix ?_;intro we hpd;replace S:=St.pd S hpd;have S1:=St.rowNil S 1;have h1:Ba m [] ([]:List UInt8):=Ba.nil;replace S1:St _ ((row 1 (.slice none 0 0) [] ([]:List UInt8).length)::As) _:=S1;clear S;obtain rfl:=AjC hm;exact LZ [_] rfl ⟨rfl,trivial⟩ ⟨_,L0,_,_,S1,rfl,h1⟩
 refine BR<|nrm<|Ai<|Af<|LW (parts:=[]) (vs:=[]) (cls:=[]) (n:=0) (sz:=1) S Tryz.underlying75 Tryz.sizeOf5 Tryz.zeroValue5 rfl trivial rfl rfl (by decide) (by decide) ?_;intro v1 w1 S2;have h2:Ba m [] ([]:List UInt8):=Ba.nil;replace S2:St _ ((row 1 v1 [] ([]:List UInt8).length)::As) _:=S2;clear S;refine AR (v:=a0v0) rfl ?_;obtain⟨x1,q1,hm⟩:=Ad hm;refine Ur (i:=0) (zs:=x1) (bytes:=1) (ti:=Tryz.t5) S2 rfl rfl h2 rfl rfl a0h0 q1 Tryz.underlying75 Tryz.type5 rfl rfl rfl rfl ?_;intro v2 c1 w2 S3 h3;replace S3:St _ ((row 1 v2 c1 x1.length)::As) _:=S3;clear S2;refine B5 (v:=v2) rfl<|Ak<|nrm<|C4<|Ix ?_;intro we hpd;replace S3:=St.pd S3 hpd;obtain rfl:=AjC hm;exact LZ [_] rfl ⟨rfl,trivial⟩ ⟨_,L0,_,_,S3,rfl,h3⟩
theorem DU {a0 r}(hm:AW a0=some r):Sp prog 150 [sl eB a0] [] 0 (is (.ow 0) [.row 0 1 _ eB r] 1):=
 ⟨call150,fun η m As w vs hv0 hd S=>by
  have S:St m As w:=S;obtain⟨v0,u0,rfl,r0,hv1⟩:=BB.cons_inv hv0;have f0:=Br.ofS Br.b r0.dd;obtain rfl:=BB.nil_inv hv1;refine By.mono (Kj S f0 hm) ?_;rintro v w' ⟨M,hle,y0,c0,S0,rfl,h0⟩;exact⟨M,(Ahb [v]),_,_,_,hle,AfU hd _,⟨rfl,rfl,rfl⟩,Ln rfl,(.ow rfl (ED S0)),(St.impL S0 (AeK (Br.toR Br.b rfl rfl (ED S0) h0) fun _ h=>h))⟩⟩
def RK (rF:(List UInt8)→g_api_Item→Option (List UInt8)):Prop:= ∀{a0:List UInt8} {a1:g_api_Item} {r:List UInt8},rF a0 a1=some r→Sp prog 147 [.ow 0,ag (Ac a1)] [.row 0 1 _ eB a0] 1 (is (.ow 1) [.row 1 1 _ eB r] 2)
def Et (rF:(List UInt8)→g_api_Item→Option (List UInt8))(i1:Int)(x4:g_api_Item)(s1:(List UInt8)):Option ((List UInt8)):=Ab (rF s1 x4) fun x5=>some x5
def GW (rF:(List UInt8)→g_api_Item→Option (List UInt8))(a0:g_api_Item):Option (List UInt8):=Ab (AW a0.B) fun x1=>Ab (Ab (Db (Et rF) a0.L 0 x1) fun x3=>some x3) fun x2=>some x2
theorem Qy {rF:(List UInt8)→g_api_Item→Option (List UInt8)}(hF:RK rF){a0 r}(hm:GW rF a0=some r):Sp prog 194 [ag (Ac a0)] [] 0 (is (.ow 0) [.row 0 1 _ eB r] 1):=by
 refine sq ?_;intros;refine gD hm DU fun x1 q1 hm=> ?_;obtain⟨x2,q2,hm⟩:=Ad hm;refine oB q2 fun x3 q3 q2=>O2 0 (E:=Ac) (xs:=a0.L) 10 fun hle1=>gF (E0 _ _ _) q3 (fun p0 p=>⟨[(3,.ow 1),(10,sl Ac a0.L),(11,.d (.i (a0.L.length:Int))),(12,.d (.i p0)),(1,.pb 0 0)],[(0,.row 1 1 _ eB p),(1,.box 0 [.d (.i a0.Tag),sl eB a0.B,sl Ac a0.L] 159)],[],2⟩) fun i1 s1 Jl bl1=>c0 bl1 (fun x4 y1 q7 q6 bl1=> ?_) fun e=> ?_
 ·exact gx Ac 3 q7<|gD q6 hF fun x5 q8 q6=>gM bl1 hle1 q6
 subst e;obtain rfl:=AjC q2;let x2:=x3;obtain rfl:=AjC hm;exact gE
def La (rF:(List UInt8)→g_api_Item→Option (List UInt8))(a0:List UInt8)(a1:g_api_Item):Option (List UInt8):=Ab ((GW rF) a1) fun x1=>Ab (app 1 a0 ([(toB a1.Tag)]:List UInt8)) fun x2=>Ab (bnd ((decide ((x1.length:Int)<128))) fun x4=>if x4=true then Ab (app 1 x2 ([(toB (x1.length:Int))]:List UInt8)) fun x5=>some x5 else bnd ((decide ((x1.length:Int)<256))) fun x6=>if x6=true then Ab (app 1 x2 ([129,(toB (x1.length:Int))]:List UInt8)) fun x7=>some x7 else Ab (app 1 x2 ([130,(toB (Cl (x1.length:Int) 8)),(toB (x1.length:Int))]:List UInt8)) fun x8=>some x8) fun x3=>Ab (app 1 x3 x1) fun x9=>some x9
theorem Xo {rF:(List UInt8)→g_api_Item→Option (List UInt8)}(hF:RK rF){a0 a1 r}(hm:La rF a0 a1=some r):Sp prog 147 [.ow 0,ag (Ac a1)] [.row 0 1 _ eB a0] 1 (is (.ow 1) [.row 1 1 _ eB r] 2):=by
 refine sq fun D0 As η0 m0 hd=>oB hm fun x1 q1 hm=>gco (Qy hF q1)<|gq eB 1 [(toB a1.Tag)]<|oB hm fun x2 q2 hm=>gp eB 1 q2<|oB hm fun x3 q3 hm=>gjU 0 (fun(_:Unit)=>⟨[(0,.ow 3),(5,.ow 2),(3,.pb 1 0)],[(0,.row 3 1 _ eB x3),(1,.row 2 1 _ eB x1),(2,.box 1 [.d (.i a1.Tag),sl eB a1.B,sl Ac a1.L] 159)],[],4⟩) (fun _=>True) (fun Jp bk1=> ?_) fun _ _=> ?_
 ·refine bE q3 ?_;intro x4 q3;refine gi q3 ?_ ?_<;>intro hc1 q3
  ·refine gq eB 1 [(toB (x1.length:Int))]<|oB q3 fun x5 q5 q3=>gp eB 1 q5 ?_;obtain rfl:=AjC q3;exact gb bk1 hd () trivial
  refine bE q3 ?_;intro x6 q3;refine gi q3 ?_ ?_<;>intro hc2 q3
  ·refine gq eB 1 [129,(toB (x1.length:Int))]<|oB q3 fun x7 q7 q3=>gp eB 1 q7 ?_;obtain rfl:=AjC q3;exact gb bk1 hd () trivial
  refine gq eB 1 [130,(toB (Cl (x1.length:Int) 8)),(toB (x1.length:Int))]<|oB q3 fun x8 q8 q3=>gp eB 1 q8 ?_;obtain rfl:=AjC q3;exact gb bk1 hd () trivial
 refine oB hm fun x9 q9 hm=>gp eB 1 q9 ?_;obtain rfl:=AjC hm;exact gE
def GF:Nat→(List UInt8)→g_api_Item→Option (List UInt8)
 |0,_,_=>none
 |n+1,a0,a1=>La (GF n) a0 a1
def Q9 (a0:List UInt8)(a1:g_api_Item):Option (List UInt8):=GF Bl a0 a1
theorem Ss: ∀n,RK (GF n)
 |0=>fun hm=>by cases hm
 |n+1=>fun hm=>Xo (Ss n) hm
theorem Abn {a0:List UInt8}{a1:g_api_Item}{r:List UInt8}(hm:Q9 a0 a1=some r):Sp prog 147 [.ow 0,ag (Ac a1)] [.row 0 1 _ eB a0] 1 (is (.ow 1) [.row 1 1 _ eB r] 2):=Ss Bl hm
def KE (a0:g_api_Item):Option ((List UInt8)×Int):=Ab (Jo a0 8) fun x1=>if(!x1)=true then some (([]:List UInt8),1)else Ab (Q9 ([]:List UInt8) a0) fun x2=>if(decide ((x2.length:Int)>8192))=true then some (([]:List UInt8),2)else some (x2,0)
theorem VO {a0 r}(hm:KE a0=some r):Sp prog 102 [ag (Ac a0)] [] 0 (is (.tup [.ow 0,.d (.i r.2)]) [.row 0 1 _ eB r.1] 1):=by
 refine sq ?_;intros;refine gA hm LL fun x1 q1 hm=>gi hm ?_ ?_<;>intro hc1 hm
 ·refine W9 eB 2 1 ?_;exact AjC hm▸gE
 refine oB hm fun x2 q2 hm=>gco (Sp.nil0 (Abn q2) rfl)<|gi hm ?_ ?_<;>intro hc2 hm
 ·refine W9 eB 2 1 ?_;exact AjC hm▸gE
 exact AjC hm▸gE
def El (a0:Int):Option Bool:=bnd (((decide (a0≥0))&&(decide (a0≤1099511627776)))) fun x1=>some x1
theorem GA {a0 r}(hm:El a0=some r):Sf prog 184 [.d (.i a0)] (.d (.t r)):=by
 refine sq ?_;intros;refine bE hm ?_;intro x1 hm;obtain rfl:=AjC hm;exact gE
def G0 (a0:g_api_Sig):Option Bool:=bnd ((decide (((UR a0.E a0.S).toNat:Int)<1152921504606845789))) fun x1=>some x1
theorem NS {a0 r}(hm:G0 a0=some r):Sf prog 186 [ag (Rp a0)] (.d (.t r)):=by
 refine sq ?_;intros;refine bE hm ?_;intro x1 hm;obtain rfl:=AjC hm;exact gE
def Bt (a0:List UInt64)(s1:UInt64×Int):Option ((UInt64×Int)⊕(UInt64)):=if(decide (s1.2<(a0.length:Int)))=true then Ab (idx a0 s1.2) fun x6=>some (.inl ((UR s1.1 x6),(w64 (s1.2+1))))else some (.inr s1.1)
def CH (a0:List UInt64):Option UInt64:=Ab (if(decide ((a0.length:Int)<1))=true then none else some ()) fun x1=>Ab (idx a0 0) fun x2=>Ab (Ab (iter (Bt a0) Bl (x2,1)) fun x4=>some x4) fun x3=>some x3
theorem JG {a0 r}(hm:CH a0=some r):Sf prog 229 [sl eU a0] (.d (.u r)):=by
 refine sq ?_;intros;refine oB hm fun x1 q1 hm=>gi q1 (fun hc1 q1=> ?_) fun hc1 q1=> ?_
 ·cases q1
 obtain rfl:=AjC q1;refine oB hm fun x2 q2 hm=>gx eU 1 q2 ?_;obtain⟨x3,q3,hm⟩:=Ad hm;refine oB q3 fun x4 q4 q3=>gI q4 (fun(p_0,p_1)=>⟨[(0,sl eU a0),(3,.d (.u p_0)),(4,.d (.i p_1))],[],[],0⟩) fun s1 y1 Jl q7 bl1=>gi q7 ?_ ?_<;>intro hc2 q7
 ·exact oB q7 fun x6 q9 q7=>gx eU 1 q9<|gN bl1 q7
 obtain rfl:=nR bl1 q7;let x4:=s1.1;obtain rfl:=AjC q3;let x3:=x4;obtain rfl:=AjC hm;exact gE
def G1 (a0:g_api_Promise):Option Bool:=Ab (El a0.Log) fun x1=>Ab (gu x1 (El a0.At)) fun x2=>Ab (gu (x1&&x2) (CH ([a0.Leaf.1,a0.Leaf.2]:List UInt64))) fun x3=>Ab (gu ((x1&&x2)&&(decide ((x3.toNat:Int)<2305843009213693951))) (G0 a0.Sig)) fun x4=>bnd ((((x1&&x2)&&(decide ((x3.toNat:Int)<2305843009213693951)))&&x4)) fun x5=>some x5
theorem QC {a0 r}(hm:G1 a0=some r):Sf prog 183 [ag (Ae a0)] (.d (.t r)):=by
 refine sq ?_;intros;refine gboxF 1 [.i a0.Log,.i a0.At,.u a0.Leaf.1,.u a0.Leaf.2,.u a0.Sig.E,.u a0.Sig.S]<|gA hm GA fun x1 q1 hm=>oB hm fun x2 q2 hm=>gcH q2 GA<|gslM (k:=1) (E:=eU) ([a0.Leaf.1,a0.Leaf.2]:List UInt64) (fun _=>rfl)<|oB hm fun x3 q3 hm=>gcH q3 JG<|oB hm fun x4 q4 hm=>gcH q4 NS<|bE hm ?_;intro x5 hm;obtain rfl:=AjC hm;exact gE
def IM (a0:Int):Option Bool:=bnd (((decide (a0≤32))||(decide (a0>126)))) fun x1=>some x1
theorem T8 {a0 r}(hm:IM a0=some r):Sf prog 230 [.d (.r a0)] (.d (.t r)):=by
 refine sq ?_;intros;refine bE hm ?_;intro x1 hm;obtain rfl:=AjC hm;exact gE
def AA (a0:ByteArray)(a2:Bool)(s1:Nat):Option ((Nat)⊕((Nat)⊕Int)):=if s1<a0.size then bnd (((Utf8.decode a0 s1).1:Int)) fun x3=>Ab (IM x3) fun x4=>if(x4==a2)=true then some (.inr (.inr (s1:Int)))else some (.inl (s1+(Utf8.decode a0 s1).2))else some (.inr (.inl s1))
def Cd (a0:ByteArray)(a2:Bool):Option Int:=Ab (iter (AA a0 a2) Bl 0) fun x1=>match x1 with| .inr r=>some r| .inl y1=>some (-1)
theorem Kh {a0 a2 r}(hm:Cd a0 a2=some r):Sf prog 264 [.d (.s a0),.fn (.func 230) [] [],.d (.t a2)] (.d (.i r)):=by
 refine sq ?_;intros;refine grng a0<|oB hm fun x1 q1 hm=>gI q1 (fun p=>⟨[(1,.fn (.func 230) [] []),(2,.d (.t a2)),(10,.ow 0)],[(0,.hp 0 (.it a0 p))],[],1⟩) fun s1 y2 Jl q4 bl1=>gnx q4 (fun hc1 q4=> ?_) fun hc1 q4=> ?_
 ·refine gi' (b:=true) (fun _=> ?_) (fun h=>by cases h);refine bE q4 ?_;intro x3 q4;refine gA q4 T8 fun x4 q7 q4=>gi q4 ?_ ?_<;>intro hc2 q4
  ·obtain rfl:=nR bl1 q4;obtain rfl:=AjC hm;exact gE
  exact gN bl1 q4
 refine gi' (b:=false) (fun h=>by cases h) (fun _=> ?_);obtain rfl:=nR bl1 q4;let y1:=s1;obtain rfl:=AjC hm;exact gE
def CV (a0:ByteArray):Option Int:=Ab (Cd a0 true) fun x1=>some x1
theorem Ki {a0 r}(hm:CV a0=some r):Sf prog 254 [.d (.s a0),.fn (.func 230) [] []] (.d (.i r)):=by
 refine sq ?_;intros;refine gA hm Kh fun x1 q1 hm=> ?_;exact AjC hm▸gE
def BG (a0:ByteArray):Option Bool:=Ab (CV a0) fun x1=>some (decide (x1≥0))
theorem IY {a0 r}(hm:BG a0=some r):Sf prog 231 [.d (.s a0),.fn (.func 230) [] []] (.d (.t r)):=by
 refine sq ?_;intros;refine gA hm Ki fun x1 q1 hm=> ?_;exact AjC hm▸gE
def DK (a0:ByteArray):Option Bool:=Ab (gu ((!eqS a0 (⟨#[]⟩:ByteArray))&&(decide ((a0.size:Int)≤64))) (BG a0)) fun x1=>bnd ((((!eqS a0 (⟨#[]⟩:ByteArray))&&(decide ((a0.size:Int)≤64)))&&(!x1))) fun x2=>some x2
theorem QB {a0 r}(hm:DK a0=some r):Sf prog 185 [.d (.s a0)] (.d (.t r)):=by
 refine sq ?_;intros;refine oB hm fun x1 q1 hm=>gcH q1 IY<|bE hm ?_;intro x2 hm;obtain rfl:=AjC hm;exact gE
def BE (a0:ByteArray)(a1:UInt8):Option Int:=some (AgU a0 a1)
theorem Ha {a0 a1 r}(hm:BE a0 a1=some r):Sf prog 281 [.d (.s a0),.d (.b a1)] (.d (.i r)):=by
 refine sq ?_;intros;refine gext (F:=AgU) (p:=a0) (q:=a1) func286 (extIxb (by kernel_rfl) (by kernel_rfl) (by kernel_rfl) (by kernel_rfl)) ?_;exact AjC hm▸gE
def Cj (a0:ByteArray)(a1:ByteArray):Option Int:=bnd ((((a1.size:Int)==0)||(eqS a1 a0))) fun x1=>if x1=true then some 0 else if((a1.size:Int)==1)=true then Ab (idx a1.data.toList 0) fun x2=>Ab (BE a0 x2) fun x3=>some x3 else bnd ((decide ((a1.size:Int)≥(a0.size:Int)))) fun x4=>if x4=true then some (-1)else none
theorem Iw {a0 a1 r}(hm:Cj a0 a1=some r):Sf prog 278 [.d (.s a0),.d (.s a1)] (.d (.i r)):=by
 refine sq ?_;intros;refine bE hm ?_;intro x1 hm;refine gi hm ?_ ?_<;>intro hc1 hm
 ·obtain rfl:=AjC hm;exact gE
 refine gi hm ?_ ?_<;>intro hc2 hm
 ·refine oB hm fun x2 q2 hm=>Yj (fun _=>q2)<|gA hm Ha fun x3 q3 hm=> ?_;obtain rfl:=AjC hm;exact gE
 refine bE hm ?_;intro x4 hm;refine gi hm ?_ ?_<;>intro hc3 hm
 ·obtain rfl:=AjC hm;exact gE
 cases hm
def Co (a0:ByteArray)(a1:ByteArray):Option Int:=Ab (Cj a0 a1) fun x1=>some x1
theorem Qf {a0 a1 r}(hm:Co a0 a1=some r):Sf prog 274 [.d (.s a0),.d (.s a1)] (.d (.i r)):=by
 refine sq ?_;intros;refine gA hm Iw fun x1 q1 hm=> ?_;exact AjC hm▸gE
def EU (a0:ByteArray)(a1:ByteArray):Option Int:=if((a1.size:Int)==0)=true then none else if((a1.size:Int)==1)=true then Ab (idx a1.data.toList 0) fun x1=>some (cntS a0 x1)else none
theorem Qg {a0 a1 r}(hm:EU a0 a1=some r):Sf prog 266 [.d (.s a0),.d (.s a1)] (.d (.i r)):=by
 refine sq ?_;intros;refine gi hm ?_ ?_<;>intro hc1 hm
 ·cases hm
 refine gi hm ?_ ?_<;>intro hc2 hm
 ·refine oB hm fun x1 q1 hm=>Yj (fun _=>q1)<|gext (F:=cntS) (p:=a0) (q:=x1) func273 (extCnt (by kernel_rfl) (by kernel_rfl) (by kernel_rfl) (by kernel_rfl)) ?_;exact AjC hm▸gE
 cases hm
def KY {σ:Type}(k1:ByteArray)(s1:Unit):Option ((Unit)⊕((Unit)⊕(ByteArray×ByteArray×Int×σ))):=if(decide ((k1.size:Int)>0))=true then none else some (.inr (.inl ()))
def AK {σ:Type}(p0:σ→ByteArray→Option (Bool×σ))(k0:ByteArray)(k2:Int)(s2:ByteArray×σ):Option ((ByteArray×σ)⊕((ByteArray×σ)⊕(ByteArray×ByteArray×Int×σ))):=Ab (Co s2.1 k0) fun x5=>if(decide (x5<0))=true then some (.inr (.inl (s2.1,s2.2)))else Ab (Ru s2.1 0 (w64 (x5+k2))) fun x6=>Ab (p0 s2.2 x6) fun x7=>if(!x7.1)=true then some (.inr (.inr (k0,s2.1,k2,x7.2)))else Ab (Ru s2.1 (w64 (x5+(k0.size:Int))) (s2.1.size:Int)) fun x8=>some (.inl (x8,x7.2))
def Bj {σ:Type}(p0:σ→ByteArray→Option (Bool×σ))(k0:ByteArray)(k1:ByteArray)(k2:Int)(s0:σ):Option (ByteArray×ByteArray×Int×σ):=
 if((k0.size:Int)==0)=true then
  Ab (iter (KY k1) Bl ()) fun x1=>match x1 with
  | .inr r=>some r
  | .inl y1=>
  some (k0,k1,k2,s0)
 else
 Ab (iter (AK p0 k0 k2) Bl (k1,s0)) fun x3=>match x3 with
 | .inr r=>some r
 | .inl y3=>
 Ab (p0 y3.2 y3.1) fun x9=>
 some (k0,y3.1,k2,x9.2)
theorem MF {σ:Type}{p0:σ→ByteArray→Option (Bool×σ)}{k0 k1 k2 s0 r}(hm:Bj p0 k0 k1 k2 s0=some r)(g:Value)(R:σ→Mem→Ow)(hcb:Agj prog g (fun x=> [.d (.s x)]) R p0):Sp prog 279 [.ow 0,.pb 1 0,.pb 2 0,.pb 3 0] [.hp 0 (.cb g σ R s0),.box 1 [.d (.s k0)] 9,.box 2 [.d (.s k1)] 9,.box 3 [.d (.i k2)] 3] 4 (is (.tup []) [.hp 0 (.cb g σ R r.2.2.2),.box 1 [.d (.s r.1)] 9,.box 2 [.d (.s r.2.1)] 9,.box 3 [.d (.i r.2.2.1)] 3] 4):=by
 refine sq ?_;intros;refine gi hm ?_ ?_<;>intro hc1 hm
 ·refine oB hm fun x1 q1 hm=>gI q1 (fun _=>⟨[(0,.ow 0),(2,.pb 2 0)],[(0,.box 1 [.d (.s k0)] 9),(1,.box 2 [.d (.s k1)] 9),(2,.box 3 [.d (.i k2)] 3),(3,.hp 0 (.cb g σ R s0))],[],4⟩) fun s1 y2 Jl q4 bl1=>gi q4 ?_ ?_<;>intro hc2 q4
  ·cases q4
  obtain rfl:=nR bl1 q4;obtain rfl:=AjC hm;exact gE
 refine oB hm fun x3 q6 hm=>gI q6 (fun(p_0,p_1)=>⟨[(0,.ow 0),(1,.pb 1 0),(2,.pb 2 0),(3,.pb 3 0)],[(0,.box 1 [.d (.s k0)] 9),(1,.box 2 [.d (.s p_0)] 9),(2,.box 3 [.d (.i k2)] 3),(3,.hp 0 (.cb g σ R p_1))],[],4⟩) fun s2 y4 Jl q9 bl2=>gA q9 Qf fun x5 q11 q9=>gi q9 ?_ ?_<;>intro hc3 q9
 ·obtain rfl:=nR bl2 q9;let y3:=(s2.1,s2.2);refine oB hm fun x9 q15 hm=>gcb y3.1 hcb q15 ?_;obtain rfl:=AjC hm;exact gE
 refine oB q9 fun x6 q12 q9=>WK (fun _=>q12)<|oB q9 fun x7 q13 q9=>gcb x6 hcb q13<|gi q9 ?_ ?_<;>intro hc4 q9
 ·obtain rfl:=nR bl2 q9;obtain rfl:=AjC hm;exact gE
 exact oB q9 fun x8 q14 q9=>WK (fun _=>q14)<|gN bl2 q9
def JR (a0:ByteArray)(a1:ByteArray)(a2:Int):Option (ByteArray×ByteArray×Int):=some (a1,a0,a2)
theorem NI {a0 a1 a2 r}(hm:JR a0 a1 a2=some r):Sp prog 275 [.d (.s a0),.d (.s a1),.d (.i a2)] [] 0 (is (.fn (.func 279) [] [.pb 0 0,.pb 1 0,.pb 2 0]) [.box 0 [.d (.s r.1)] 9,.box 1 [.d (.s r.2.1)] 9,.box 2 [.d (.i r.2.2)] 3] 3):=by
 refine sq ?_;intros;exact AjC hm▸gE
def GG (a0:ByteArray)(a1:ByteArray):Option (ByteArray×ByteArray×Int):=Ab (JR a0 a1 0) fun x1=>some (x1.1,x1.2.1,x1.2.2)
theorem NJ {a0 a1 r}(hm:GG a0 a1=some r):Sp prog 267 [.d (.s a0),.d (.s a1)] [] 0 (is (.fn (.func 279) [] [.pb 0 0,.pb 1 0,.pb 2 0]) [.box 0 [.d (.s r.1)] 9,.box 1 [.d (.s r.2.1)] 9,.box 2 [.d (.i r.2.2)] 3] 3):=by
 refine sq ?_;intros;refine gD hm NI fun x1 q1 hm=> ?_;exact AjC hm▸gE
def Dd (a0:Int):Option Bool:=bnd ((((decide ((97:Int)≤a0))&&(decide (a0≤122)))||((decide ((48:Int)≤a0))&&(decide (a0≤57))))) fun x1=>some x1
theorem LI {a0 r}(hm:Dd a0=some r):Sf prog 276 [.d (.r a0)] (.d (.t r)):=by
 refine sq ?_;intros;refine bE hm ?_;intro x1 hm;obtain rfl:=AjC hm;exact gE
def C9 (a0:Int):Option Bool:=Ab (gu (!(a0==45)) (Dd a0)) fun x1=>some ((a0==45)||x1)
theorem TQ {a0 r}(hm:C9 a0=some r):Sf prog 277 [.d (.r a0)] (.d (.t r)):=by
 refine sq ?_;intros;refine oB hm fun x1 q1 hm=>gcH q1 LI ?_;exact AjC hm▸gE
def A9 (a0:ByteArray)(s1:Nat):Option ((Nat)⊕((Nat)⊕Bool)):=if s1<a0.size then bnd (((Utf8.decode a0 s1).1:Int)) fun x3=>Ab (gu ((s1:Int)==(w64 ((a0.size:Int)-1))) (Dd x3)) fun x4=>bnd ((((s1:Int)==(w64 ((a0.size:Int)-1)))&&x4)) fun x5=>if x5=true then some (.inl (s1+(Utf8.decode a0 s1).2))else bnd (((s1:Int)==(w64 ((a0.size:Int)-1)))) fun x6=>if x6=true then some (.inr (.inr false))else Ab (gu ((s1:Int)==0) (Dd x3)) fun x7=>bnd ((((s1:Int)==0)&&(x7||(x3==95)))) fun x8=>if x8=true then some (.inl (s1+(Utf8.decode a0 s1).2))else Ab (gu (!((s1:Int)==0)) (C9 x3)) fun x9=>if(((s1:Int)==0)||(!x9))=true then some (.inr (.inr false))else some (.inl (s1+(Utf8.decode a0 s1).2))else some (.inr (.inl s1))
def Fl (a0:ByteArray):Option Bool:=if((eqS a0 (⟨#[]⟩:ByteArray))||(decide ((a0.size:Int)>16)))=true then some false else Ab (iter (A9 a0) Bl 0) fun x1=>match x1 with| .inr r=>some r| .inl y1=>some true
theorem TP {a0 r}(hm:Fl a0=some r):Sf prog 268 [.d (.s a0)] (.d (.t r)):=by
 refine sq ?_;intros;refine gi hm ?_ ?_<;>intro hc1 hm
 ·obtain rfl:=AjC hm;exact gE
 refine grng a0<|oB hm fun x1 q1 hm=>gI q1 (fun p=>⟨[(0,.d (.s a0)),(13,.ow 0)],[(0,.hp 0 (.it a0 p))],[],1⟩) fun s1 y2 Jl q4 bl1=>gnx q4 (fun hc2 q4=> ?_) fun hc2 q4=> ?_
 ·refine gi' (b:=true) (fun _=> ?_) (fun h=>by cases h);refine bE q4 ?_;intro x3 q4;refine oB q4 fun x4 q7 q4=>gcH q7 LI<|bE q4 ?_;intro x5 q4;refine gi q4 ?_ ?_<;>intro hc3 q4
  ·exact gN bl1 q4
  refine bE q4 ?_;intro x6 q4;refine gi q4 ?_ ?_<;>intro hc4 q4
  ·obtain rfl:=nR bl1 q4;obtain rfl:=AjC hm;exact gE
  refine oB q4 fun x7 q10 q4=>gcH q10 LI<|bE q4 ?_;intro x8 q4;refine gi q4 ?_ ?_<;>intro hc5 q4
  ·exact gN bl1 q4
  refine oB q4 fun x9 q12 q4=>gcH q12 TQ<|gi q4 ?_ ?_<;>intro hc6 q4
  ·obtain rfl:=nR bl1 q4;obtain rfl:=AjC hm;exact gE
  exact gN bl1 q4
 refine gi' (b:=false) (fun h=>by cases h) (fun _=> ?_);obtain rfl:=nR bl1 q4;let y1:=s1;obtain rfl:=AjC hm;exact gE
def Bw (b6:ByteArray)(s1:(Unit)×Nat):Option ((Unit)×Nat):=Ab (Fl b6) fun x4=>if(!x4)=true then some ((),1)else some ((),0)
def Ce (a0:ByteArray)(a1:Int)(a2:Int):Option Bool:=Ab (gu (!(decide ((a0.size:Int)>a2))) (EU a0 (⟨#[46]⟩:ByteArray))) fun x1=>if((decide ((a0.size:Int)>a2))||(decide (x1≥a1)))=true then some false else Ab (GG a0 (⟨#[46]⟩:ByteArray)) fun x2=>Ab (Bj (fun(s:(Unit)×Nat) (b0:ByteArray)=>if s.2=0 then Ab (Bw b0 s) fun y=>some (y.2==0,y)else none) x2.1 x2.2.1 x2.2.2 ((),0)) fun x3=>if(x3.2.2.2).2=0 then some true else some false
theorem Pl {a0 a1 a2 r}(hm:Ce a0 a1 a2=some r):Sf prog 256 [.d (.s a0),.d (.i a1),.d (.i a2)] (.d (.t r)):=
 spR call256 func256 rfl ntmps256 rfl fun D0 As η0 m0 hD hd=>by
  unfold Ce at hm;refine oB hm fun x1 q1 hm=>gcH q1 Qg<|gi hm ?_ ?_<;>intro hc1 hm
  ·exact AjC hm▸gE
  refine gD hm NJ fun x2 q2 hm=>oB hm fun x3 q3 hm=>Yi hD (n0:=0) 4 4 [⟨1,1,9,[.d (.s x2.1)],[.d (.s x3.1)]⟩,⟨2,2,9,[.d (.s x2.2.1)],[.d (.s x3.2.1)]⟩,⟨3,3,3,[.d (.i x2.2.2)],[.d (.i x3.2.2.1)]⟩] (gt:=19) (ps:=[20]) [(6,.pb 0 0),(19,.fn (.func 279) [] [.pb 1 0,.pb 2 0,.pb 3 0])] (fun(y1:Unit)=> [(0,.box 0 [.d (.t false)] 4)]) (fun(y1:(Unit)×Nat)=> [(0,.box 0 [.d (.t false)] 4)]) (fun x=> [.d (.s x)]) (fun(s1:Unit) (b6:ByteArray)=>⟨[(6,.pb 0 0),(7,.d (.s b6)),(19,.fn (.func 279) [] [.pb 1 0,.pb 2 0,.pb 3 0])],[(0,.box 0 [.d (.t false)] 4)],[],4⟩) (pJ fun x s=>Bw x s) () hd (via fJ hyJ rfl fun g R h=>MF q3 g R h) rfl (fun _=>rfl) (fun _=>rfl) (fun _=>rfl) (fun _=>rfl) ?_ ?_ ?_ ?_
  ·intro s1 b6 s' hp l D0 As η0 m0 hd Ja ba;exact gb ba hd () trivial
  ·intro s1 b6 s' hp l D0 As η0 m0 hd Jb bb Jr br;obtain⟨z1,q4,hp⟩:=AjT.1 hp;subst hp;unfold Bw at q4;dsimp only at q4;refine gA q4 TP fun x4 q5 q4=>gi q4 ?_ ?_<;>intro hc2 q4
   ·obtain rfl:=AjC q4;exact gretB br hd ((),1) rfl
   obtain rfl:=AjC q4;exact gb bb hd () rfl
  ·intro x hx;obtain⟨hj1,rfl⟩:=fJ_inl hx;rw[AjF hj1]at hm;exact AjC hm▸gE
  intro y hy;obtain⟨hj1,rfl⟩:=fJ_inr hy;rw[AjG hj1]at hm;exact AjC hm▸gE
def Fm (a0:ByteArray):Option Bool:=Ab (Ce a0 8 64) fun x1=>some x1
theorem Sy {a0 r}(hm:Fm a0=some r):Sf prog 234 [.d (.s a0)] (.d (.t r)):=by
 refine sq ?_;intros;refine gA hm Pl fun x1 q1 hm=> ?_;exact AjC hm▸gE
def Bf (a0:ByteArray)(a1:ByteArray):Option Bool:=Ab (gu (decide ((a0.size:Int)≥(a1.size:Int))) (Ru a0 0 (a1.size:Int))) fun x1=>bnd (((decide ((a0.size:Int)≥(a1.size:Int)))&&(eqS x1 a1))) fun x2=>some x2
theorem Hb {a0 a1 r}(hm:Bf a0 a1=some r):Sf prog 271 [.d (.s a0),.d (.s a1)] (.d (.t r)):=by
 refine sq ?_;intros;refine oB hm fun x1 q1 hm=>Ag5 (fun h=>Yh h q1)<|bE hm ?_;intro x2 hm;obtain rfl:=AjC hm;exact gE
def Bg (a0:ByteArray)(a1:ByteArray):Option (ByteArray×Bool):=Ab (Bf a0 a1) fun x1=>if(!x1)=true then some (a0,false)else Ab (Ru a0 (a1.size:Int) (a0.size:Int)) fun x2=>some (x2,true)
theorem Hc {a0 a1 r}(hm:Bg a0 a1=some r):Sf prog 265 [.d (.s a0),.d (.s a1)] (.tup [.d (.s r.1),.d (.t r.2)]):=by
 refine sq ?_;intros;refine gA hm Hb fun x1 q1 hm=>gi hm ?_ ?_<;>intro hc1 hm
 ·exact AjC hm▸gE
 refine oB hm fun x2 q2 hm=>WK (fun _=>q2) ?_;exact AjC hm▸gE
def B8 (a0:ByteArray)(a1:ByteArray):Option (ByteArray×Bool):=Ab (Bg a0 a1) fun x1=>some (x1.1,x1.2)
theorem M6 {a0 a1 r}(hm:B8 a0 a1=some r):Sf prog 255 [.d (.s a0),.d (.s a1)] (.tup [.d (.s r.1),.d (.t r.2)]):=by
 refine sq ?_;intros;refine gA hm Hc fun x1 q1 hm=> ?_;exact AjC hm▸gE
def E1 (a0:ByteArray):Option (ByteArray×Bool×Bool):=Ab (Fm a0) fun x1=>if x1=true then some (a0,false,true)else Ab (B8 a0 (⟨#[42,46]⟩:ByteArray)) fun x2=>Ab (gu x2.2 (Ce x2.1 7 62)) fun x3=>some (x2.1,x2.2,(x2.2&&x3))
theorem Qp {a0 r}(hm:E1 a0=some r):Sf prog 232 [.d (.s a0)] (.tup [.d (.s r.1),.d (.t r.2.1),.d (.t r.2.2)]):=by
 refine sq ?_;intros;refine gA hm Sy fun x1 q1 hm=>gi hm ?_ ?_<;>intro hc1 hm
 ·exact AjC hm▸gE
 refine gA hm M6 fun x2 q2 hm=>oB hm fun x3 q3 hm=>gcH q3 Pl ?_;exact AjC hm▸gE
def EZ (a0:Bool):Option Int:=if a0=true then some 0 else some 110
theorem Pk {a0 r}(hm:EZ a0=some r):Sf prog 233 [.d (.t a0)] (.d (.i r)):=by
 refine sq ?_;intros;refine gi hm ?_ ?_<;>intro hc1 hm
 ·exact AjC hm▸gE
 exact AjC hm▸gE
end Go.Proofs.YtibojdgdjhngiaaGreatDoor
