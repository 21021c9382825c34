/- The walks of some functions, by the executor, written by program. Conditions: none. -/
import Derived.Test.YtbajlmaijjcbmaaGreatDoorZf
import Derived.Test.YtbajlmaijjcbmaaGreatDoorZg
set_option linter.unusedSimpArgs false
set_option linter.unusedVariables false
set_option maxHeartbeats 20000000
set_option maxRecDepth 100000
namespace Go.Proofs.YtbajlmaijjcbmaaGreatDoor
open Go Go.Gw Go.Ax Tryz
attribute [local irreducible] Go.Ax.Go
def He (a0:UInt64)(a1:UInt64):Option UInt64:=Ac (Ei a0) fun x1=>Ac (Ei a1) fun x2=>Ac (Fa x1 x2) fun x3=>Ac (F6 x3.1 x3.2) fun x4=>some x4
theorem NY {a0:UInt64}{a1:UInt64}{r:UInt64}(hm:He a0 a1=some r):Sf prog 230 [.d (.u a0),.d (.u a1)] (.d (.u r)):=
 sp call230 func230 rfl ntmps230 rfl fun D0 As η0 m0 hd=>by
  unfold He at hm;obtain⟨x1,q1,hm⟩:=Aa hm;refine gc (fun _=>H3 q1) ?_;obtain⟨x2,q2,hm⟩:=Aa hm;refine gc (fun _=>H3 q2) ?_;obtain⟨x3,q3,hm⟩:=Aa hm;refine gc (fun _=>J4 q3) ?_;obtain⟨x4,q4,hm⟩:=Aa hm;refine gc (fun _=>MT q4) ?_;have e0:=Option.some.inj hm;subst e0;exact Aq hd
def Eg (i1:Int)(s1:UInt64):Option (UInt64):=Ac (He s1 s1) fun x4=>some x4
def Ds (a0:UInt64):Option UInt64:=Ac (Ac (Dh Eg 4 0 a0) fun x2=>some x2) fun x1=>Ac (He a0 x1) fun x5=>some x5
theorem Nn {a0:UInt64}{r:UInt64}(hm:Ds a0=some r):Sf prog 219 [.d (.u a0)] (.d (.u r)):=
 sp call219 func219 rfl ntmps219 rfl fun D0 As η0 m0 hd=>by
  unfold Ds at hm;obtain⟨x1,q1,hm⟩:=Aa hm;obtain⟨x2,q2,q1⟩:=Aa q1;refine gjU 0 (fun(_:Unit)=>⟨[(0,.d (.u a0)),(3,.d (.u x1))],[],[],0⟩) (fun _=>True) (fun Jp bk1=> ?_) fun _ _=> ?_
  ·refine gjU 0 (fun(_:Unit)=>⟨[(0,.d (.u a0)),(3,.d (.u x2))],[],[],0⟩) (fun _=>True) (fun Jp bk2=> ?_) fun _ _=> ?_
   ·refine gl hd (fun(p:Int×(UInt64))=>let (p0,p_0):=p; ⟨[(0,.d (.u a0)),(3,.d (.u p_0)),(5,.d (.i p0))],[],[],0⟩) (fun p=> ∃i:Nat,p.1=(i:Int)∧i≤4∧Dh Eg (4-i) (i:Int) p.2=some x2) (fun p=>4-p.1.toNat) (0,a0) ⟨0,rfl,Nat.zero_le _,q2⟩ ?_;rintro⟨_,s1⟩ ⟨i1,rfl,hi,q3⟩ Jl bl1;refine gi' (b:=decide ((i1:Int)<(4:Int))) (fun hc1=> ?_) fun hc1=> ?_
    ·have hlt1:i1<4:=by have:=of_decide_eq_true hc1; omega
     obtain⟨y1,q5,q4⟩:=Iw q3 hlt1;unfold Eg at q5;obtain⟨x4,q7,q5⟩:=Aa q5;refine gc (fun _=>NY q7) ?_;have e0:=Option.some.inj q5;subst e0;exact gb bl1 hd (w64 ((i1:Int)+1),x4) ⟨⟨i1+1,Bx hlt1 (by decide),by omega,q4⟩,IC hlt1 (by decide)⟩
    have hlt1: ¬i1<4:=by have:=of_decide_eq_false hc1; omega
    have e:=Eq.symm (Hk q3 hlt1);subst e;exact gb bk2 hd () trivial
   have e0:=Option.some.inj q1;subst e0;exact gb bk1 hd () trivial
  obtain⟨x5,q8,hm⟩:=Aa hm;refine gc (fun _=>NY q8) ?_;have e0:=Option.some.inj hm;subst e0;exact Aq hd
theorem Np {m:Mem}{As:List Ow}{w:World}{a0:UInt64}{r:UInt64}(S:St m As w)(hm:Ds a0=some r):
  AB prog 219 #[vU a0] w fun v w'=> ∃(M:Mem),m≤M∧St M (As) w'∧v=vU r:=by
 refine AB.mono ((Nn hm).2 none0 m As w [vU a0] (.cons (.d (.u _)) .nil) (fun n h=>absurd rfl h) S) ?_;rintro v w' ⟨M,η',r',obs',n1,hle,_,⟨rfl,rfl,rfl⟩,hdom,hR,S'⟩;obtain rfl:=hR.u_inv;exact⟨M,hle,S',rfl⟩
def E3 (a0:Int)(a1:UInt64)(k0:Int)(k1:UInt64):Option (UInt64×Int×UInt64):=bnd ((toU (w64 ((w64 ((w64 (3*k0))+a0))+1)))) fun x1=>Ac (El a1 (((x1*x1)*x1)+7)) fun x2=>Ac (Ds x2) fun x3=>Ac (El k1 x3) fun x4=>some (x3,k0,x4)
theorem R4 {m:Mem}{As:List Ow}{w:World}{a0:Int}{a1:UInt64}{kb0:Nat}{k0:Int}{kb1:Nat}{k1:UInt64}{r:UInt64×Int×UInt64}(S:St m ((bx kb0 [vI k0] 3)::(bx kb1 [vU k1] 22)::As) w)(hm:E3 a0 a1 k0 k1=some r):
  AB Tryz.prog 218 #[vI a0,vU a1,pt kb0 0,pt kb1 0] w fun v w'=> ∃(M:Mem),m≤M∧St M ((bx kb0 [vI r.2.1] 3)::(bx kb1 [vU r.2.2] 22)::As) w'∧v=vU r.1:=by
 unfold E3 at hm;have L0:=Mem.rfl' m;refine C9 (args:=[vI a0,vU a1,pt kb0 0,pt kb1 0]) Tryz.func218 rfl Tryz.ntmps218 (Nat.le_of_ble_eq_true rfl) ?_;refine Ag ?_;refine Ae ?_;refine A4 (v:=vU 0) rfl ?_;refine Ah ?_;refine nrm ?_;refine Ag ?_;refine Ae ?_;refine H8 (i:=0) (cs:=[vI k0]) S rfl rfl Tryz.isAgg3 Tryz.sizeOf3 rfl (fun _=>rfl) ?_;refine PE (m:=3) (n:=k0) rfl rfl ?_;refine Ar (v:=vI a0) rfl ?_;refine FA (m:=(w64 (3*k0))) (n:=a0) rfl rfl ?_;refine FA (m:=(w64 ((w64 (3*k0))+a0))) (n:=1) rfl rfl ?_;refine On rfl Tryz.underlying3 Tryz.underlying22 ?_;obtain⟨x1,q1,hm⟩:=CU hm;refine A4 (v:=vU x1) (congrArg (fun z=>vU z) q1.symm) ?_;refine Ah ?_;refine nrm ?_;refine Ag ?_;refine Ae ?_;refine Ar (v:=vU a1) rfl ?_;refine Ar (v:=vU x1) rfl ?_;refine Ar (v:=vU x1) rfl ?_;refine WY (m:=x1) (n:=x1) rfl rfl ?_;refine Ar (v:=vU x1) rfl ?_;refine WY (m:=(x1*x1)) (n:=x1) rfl rfl ?_;refine AaA (m:=((x1*x1)*x1)) (n:=7) rfl rfl ?_;obtain⟨x2,q2,hm⟩:=Aa hm;refine CJ Tryz.call200 (Jv (a0:=a1) (a1:=(((x1*x1)*x1)+7)) S q2) rfl ?_;rintro _ w1 ⟨m1,l1,S1,rfl⟩;replace L0:=Mem.tr L0 l1;clear S;replace S1:St _ ((bx kb0 [vI k0] 3)::(bx kb1 [vU k1] 22)::As) _:=S1;obtain⟨x3,q3,hm⟩:=Aa hm;refine CJ Tryz.call219 (Np (a0:=x2) S1 q3) rfl ?_;rintro _ w2 ⟨m2,l2,S2,rfl⟩;replace L0:=Mem.tr L0 l2;clear S1;replace S2:St _ ((bx kb0 [vI k0] 3)::(bx kb1 [vU k1] 22)::As) _:=S2;refine A4 (v:=vU x3) rfl ?_;refine Ah ?_;refine nrm ?_;refine Ag ?_;refine Ae ?_;refine H8 (i:=1) (cs:=[vU k1]) S2 rfl rfl Tryz.isAgg22 Tryz.sizeOf22 rfl (fun _=>rfl) ?_;refine Ar (v:=vU x3) rfl ?_;obtain⟨x4,q4,hm⟩:=Aa hm;refine CJ Tryz.call200 (Jv (a0:=k1) (a1:=x3) S2 q4) rfl ?_;rintro _ w3 ⟨m3,l3,S3,rfl⟩;replace L0:=Mem.tr L0 l3;clear S2;replace S3:St _ ((bx kb0 [vI k0] 3)::(bx kb1 [vU k1] 22)::As) _:=S3;refine I5 (i:=1) S3 rfl rfl rfl Tryz.sizeOf22 (Jo rfl MD) rfl ?_;intro w4 S4;replace S4:St _ ((bx kb0 [vI k0] 3)::(bx kb1 [vU x4] 22)::As) _:=S4;clear S3;refine Ah ?_;refine nrm ?_;refine Ag ?_;refine Ae ?_;refine Ar (v:=vU x3) rfl ?_;refine A4 (v:=vU x3) rfl ?_;refine Ah ?_;refine nrm ?_;refine Bw ?_;refine EE ?_;intro we hpd;replace S4:=St.pd S4 hpd;have e0:=Option.some.inj hm;subst e0;exact IW [_] rfl ⟨rfl,trivial⟩ ⟨_,L0,S4,rfl⟩
def E2 (a0:Int)(a1:UInt64)(k0:UInt64):Option (UInt64×UInt64):=Ac (El a1 k0) fun x1=>some (x1,k0)
theorem R3 {m:Mem}{As:List Ow}{w:World}{a0:Int}{a1:UInt64}{kb0:Nat}{k0:UInt64}{r:UInt64×UInt64}(S:St m ((bx kb0 [vU k0] 22)::As) w)(hm:E2 a0 a1 k0=some r):
  AB Tryz.prog 220 #[vI a0,vU a1,pt kb0 0] w fun v w'=> ∃(M:Mem),m≤M∧St M ((bx kb0 [vU r.2] 22)::As) w'∧v=vU r.1:=by
 unfold E2 at hm;have L0:=Mem.rfl' m;refine C9 (args:=[vI a0,vU a1,pt kb0 0]) Tryz.func220 rfl Tryz.ntmps220 (Nat.le_of_ble_eq_true rfl) ?_;refine Ag ?_;refine Ae ?_;refine A4 (v:=vU 0) rfl ?_;refine Ah ?_;refine nrm ?_;refine Ag ?_;refine Ae ?_;refine Ar (v:=vU a1) rfl ?_;refine H8 (i:=0) (cs:=[vU k0]) S rfl rfl Tryz.isAgg22 Tryz.sizeOf22 rfl (fun _=>rfl) ?_;obtain⟨x1,q1,hm⟩:=Aa hm;refine CJ Tryz.call200 (Jv (a0:=a1) (a1:=k0) S q1) rfl ?_;rintro _ w1 ⟨m1,l1,S1,rfl⟩;replace L0:=Mem.tr L0 l1;clear S;replace S1:St _ ((bx kb0 [vU k0] 22)::As) _:=S1;refine A4 (v:=vU x1) rfl ?_;refine Ah ?_;refine nrm ?_;refine Bw ?_;refine EE ?_;intro we hpd;replace S1:=St.pd S1 hpd;have e0:=Option.some.inj hm;subst e0;exact IW [_] rfl ⟨rfl,trivial⟩ ⟨_,L0,S1,rfl⟩
def GC (i1:Int)(s1:UInt64×UInt64×UInt64):Option (UInt64×UInt64×UInt64):=Ac (Cx s1 (fun(s2:Int×UInt64) (b7:Int) (b8:UInt64)=>Ac (E3 b7 b8 ((s2).1) ((s2).2)) fun x4=>some (x4.1,(x4.2.1,x4.2.2))) ((i1:Int),0)) fun x5=>Ac (Cx x5.1 (fun(s3:UInt64) (b9:Int) (b10:UInt64)=>Ac (E2 b9 b10 s3) fun x6=>some (x6.1,x6.2)) x5.2.2) fun x7=>some (x7.1.1,x7.1.2.1,x7.1.2.2)
def Ji (a0:UInt64×UInt64×UInt64):Option (UInt64×UInt64×UInt64):=Ac (Ac (Dh GC 8 0 (a0.1,a0.2.1,a0.2.2)) fun x2=>some (x2.1,x2.2.1,x2.2.2)) fun x1=>some x1
theorem VN {m:Mem}{As:List Ow}{w:World}{a0:UInt64×UInt64×UInt64}{r:UInt64×UInt64×UInt64}(S:St m (As) w)(hm:Ji a0=some r):
  AB Tryz.prog 201 #[.agg #[vU a0.1,vU a0.2.1,vU a0.2.2]] w fun v w'=> ∃(M:Mem),m≤M∧St M (As) w'∧v= .agg #[vU r.1,vU r.2.1,vU r.2.2]:=by
 unfold Ji at hm;have L0:=Mem.rfl' m;refine C9 (args:=[.agg #[vU a0.1,vU a0.2.1,vU a0.2.2]]) Tryz.func201 rfl Tryz.ntmps201 (Nat.le_of_ble_eq_true rfl) ?_;refine Ag ?_;refine Ae ?_;refine Mz S rfl ?_;intro b1 w1 S1;replace S1:St _ ((bx b1 [vU a0.1,vU a0.2.1,vU a0.2.2] 187)::As) _:=S1;clear S;refine Fx S1 Tryz.zeroValue187 ?_;intro b2 w2 S2;replace S2:St _ ((bx b2 [vU 0,vU 0,vU 0] 187)::(bx b1 [vU a0.1,vU a0.2.1,vU a0.2.2] 187)::As) _:=S2;clear S1;refine Ah ?_;refine nrm ?_;refine Ag ?_;refine Ae ?_;refine H8 (i:=1) (cs:=[vU a0.1,vU a0.2.1,vU a0.2.2]) S2 rfl rfl Tryz.isAgg187 Tryz.sizeOf187 rfl (fun h=>by cases h) ?_;refine Fx S2 Tryz.zeroValue198 ?_;intro b3 w3 S3;replace S3:St _ ((bx b3 [vU 0,vU 0,vU 0] 198)::(bx b2 [vU 0,vU 0,vU 0] 187)::(bx b1 [vU a0.1,vU a0.2.1,vU a0.2.2] 187)::As) _:=S3;clear S2;refine I5 (i:=0) S3 rfl rfl rfl Tryz.sizeOf198 (Jo rfl (Jo rfl (Jo rfl MD))) rfl ?_;intro w4 S4;replace S4:St _ ((bx b3 [vU a0.1,vU a0.2.1,vU a0.2.2] 198)::(bx b2 [vU 0,vU 0,vU 0] 187)::(bx b1 [vU a0.1,vU a0.2.1,vU a0.2.2] 187)::As) _:=S4;clear S3;refine Ah ?_;refine nrm ?_;obtain⟨x1,q1,hm⟩:=Aa hm;have L1:=Mem.rfl' m;refine Ag ?_;refine A8 [4,5,7,8,9,10,11,12,13,14] (fun f' w'=> ∃(M1:Mem),m≤M1∧St M1 ((bx b3 [vU x1.1,vU x1.2.1,vU x1.2.2] 198)::(bx b2 [vU 0,vU 0,vU 0] 187)::(bx b1 [vU a0.1,vU a0.2.1,vU a0.2.2] 187)::As) w'∧Cl f' []) ?_ ?_
 ·refine Ag ?_;refine Ae ?_;refine Ar (v:=vI 0) rfl ?_;refine Ah ?_;refine nrm ?_;obtain⟨x2,q2,q1⟩:=Aa q1;have L2:=Mem.rfl' m;refine A8 [4,5,7,8,9,10,11,12,13,14] (fun f' w'=> ∃(M2:Mem),m≤M2∧St M2 ((bx b3 [vU x2.1,vU x2.2.1,vU x2.2.2] 198)::(bx b2 [vU 0,vU 0,vU 0] 187)::(bx b1 [vU a0.1,vU a0.2.1,vU a0.2.2] 187)::As) w'∧Cl f' []) ?_ ?_
  ·refine Az ?_;refine B4 [4,5,7,8,9,10,11,12,13,14] (fun n1 f' w'=> ∃(i1:Nat) (s1:UInt64×UInt64×UInt64) (m10:Mem),n1=8-i1∧i1≤8∧Dh GC (8-i1) (i1:Int) s1=some x2∧m≤m10∧St m10 ((bx b3 [vU s1.1,vU s1.2.1,vU s1.2.2] 198)::(bx b2 [vU 0,vU 0,vU 0] 187)::(bx b1 [vU a0.1,vU a0.2.1,vU a0.2.2] 187)::As) w'∧Cl f' [(7,vI (i1:Int))]) 8 ⟨0,(a0.1,a0.2.1,a0.2.2),m,rfl,Nat.zero_le _,q2,L2,S4,⟨rfl,trivial⟩⟩ ?_;rintro n1 f1 w5 ho ⟨i1,s1,m1,hn,hi,q3,L4,S5,ha⟩;obtain⟨u1,rfl⟩:=B3 (N:=16) ho ha;clear ho ha;have L3:=Mem.rfl' m1;clear S4;refine Ag ?_;refine Ae ?_;refine KO (m:=(i1:Int)) (n:=8) rfl rfl ?_;refine Ah ?_;refine nrm ?_;refine Ag ?_;refine Cz (t:=decide ((i1:Int)<(8:Int))) rfl (fun hc1=> ?_) (fun hc1=> ?_)
   ·have hlt1:i1<8:=by have:=of_decide_eq_true hc1; omega
    obtain⟨y1,q5,q4⟩:=Iw q3 hlt1;unfold GC at q5;refine A6 ?_;refine nrm ?_;refine Ag ?_;refine Az ?_;refine Ag ?_;refine Ae ?_;refine Ar (v:=vI (i1:Int)) rfl ?_;refine Fx S5 Tryz.zeroValue3 ?_;intro b5 w6 S6;replace S6:St _ ((bx b5 [vI 0] 3)::(bx b3 [vU s1.1,vU s1.2.1,vU s1.2.2] 198)::(bx b2 [vU 0,vU 0,vU 0] 187)::(bx b1 [vU a0.1,vU a0.2.1,vU a0.2.2] 187)::As) _:=S6;clear S5;refine I5 (i:=0) S6 rfl rfl rfl Tryz.sizeOf3 (Jo rfl MD) rfl ?_;intro w7 S7;replace S7:St _ ((bx b5 [vI (i1:Int)] 3)::(bx b3 [vU s1.1,vU s1.2.1,vU s1.2.2] 198)::(bx b2 [vU 0,vU 0,vU 0] 187)::(bx b1 [vU a0.1,vU a0.2.1,vU a0.2.2] 187)::As) _:=S7;clear S6;refine Ah ?_;refine nrm ?_;refine Ag ?_;refine Ae ?_;refine Fx S7 Tryz.zeroValue22 ?_;intro b6 w8 S8;replace S8:St _ ((bx b6 [vU 0] 22)::(bx b5 [vI (i1:Int)] 3)::(bx b3 [vU s1.1,vU s1.2.1,vU s1.2.2] 198)::(bx b2 [vU 0,vU 0,vU 0] 187)::(bx b1 [vU a0.1,vU a0.2.1,vU a0.2.2] 187)::As) _:=S8;clear S7;refine Ah ?_;refine nrm ?_;refine Ag ?_;refine Ae ?_;refine My (caps:=[pt b5 0,pt b6 0]) rfl ?_;have hcb1: ∀{m':Mem} {As':List Ow} {w':World} {s:Int×UInt64} {X:List Ow} {b0:Int} {b1:UInt64} {r:UInt64×(Int×UInt64)},St m' (X++As') w'→(X=[bx b5 [vI ((s).1)] 3,bx b6 [vU ((s).2)] 22])→(fun(s2:Int×UInt64) (b7:Int) (b8:UInt64)=>Ac (E3 b7 b8 ((s2).1) ((s2).2)) fun x4=>some (x4.1,(x4.2.1,x4.2.2))) s b0 b1=some r→EN Tryz.prog (.func (.func 218) #[] #[pt b5 0,pt b6 0]) [vI b0,vU b1] w' fun v w''=> ∃(M:Mem) (X':List Ow),m'≤M∧St M (X'++As') w''∧(X'=[bx b5 [vI ((r.2).1)] 3,bx b6 [vU ((r.2).2)] 22])∧v=vU r.1:=by
     intro m2 As1 w9 s2 X1 b7 b8 r1 S9 h1 hm1;subst h1;replace S9:St _ ((bx b5 [vI ((s2).1)] 3)::(bx b6 [vU ((s2).2)] 22)::As1) _:=S9;have L5:=Mem.rfl' m2;obtain⟨x4,q7,hm1⟩:=Aa hm1;refine EN.mono (EN.clo (pre:=[]) Tryz.call218 rfl (R4 (a0:=b7) (a1:=b8) (k0:=((s2).1)) (k1:=((s2).2)) S9 q7)) ?_;rintro _ w10 ⟨m3,l1,S10,rfl⟩;replace L5:=Mem.tr L5 l1;clear S9;replace S10:St _ ((bx b5 [vI x4.2.1] 3)::(bx b6 [vU x4.2.2] 22)::As1) _:=S10;have e0:=Option.some.inj hm1;subst e0;exact⟨_,[bx b5 [vI x4.2.1] 3,bx b6 [vU x4.2.2] 22],L5,S10,rfl,rfl⟩
    have S11:St _ ((bx b3 [vU s1.1,vU s1.2.1,vU s1.2.2] 198)::(bx b5 [vI (i1:Int)] 3)::(bx b6 [vU 0] 22)::(bx b2 [vU 0,vU 0,vU 0] 187)::(bx b1 [vU a0.1,vU a0.2.1,vU a0.2.2] 187)::As) _:=St.perm S8 (List.Perm.trans (List.Perm.cons _ (List.Perm.swap _ _ _)) (List.Perm.trans (List.Perm.swap _ _ _) (List.Perm.cons _ (List.Perm.swap _ _ _))));clear S8;obtain⟨x5,q8,q5⟩:=Aa q5;refine CJ Tryz.call217 (I1 (a0:=s1) (p1:=(fun(s2:Int×UInt64) (b7:Int) (b8:UInt64)=>Ac (E3 b7 b8 ((s2).1) ((s2).2)) fun x4=>some (x4.1,(x4.2.1,x4.2.2)))) (s0:=((i1:Int),0)) (R:=(fun(s:Int×UInt64) (M:Mem) (X:List Ow)=>(X=[bx b5 [vI ((s).1)] 3,bx b6 [vU ((s).2)] 22]))) (X0:=[bx b5 [vI (i1:Int)] 3,bx b6 [vU 0] 22]) (As:=(bx b2 [vU 0,vU 0,vU 0] 187)::(bx b1 [vU a0.1,vU a0.2.1,vU a0.2.2] 187)::As) S11 (fun {_ _ _ _} _ h=>h) rfl @hcb1 rfl q8) rfl ?_;rintro _ w11 ⟨m4,l2,X2,S12,rfl,rfl⟩;replace L3:=Mem.tr L3 l2;clear S11;replace S12:St _ ((bx b3 [vU x5.1.1,vU x5.1.2.1,vU x5.1.2.2] 198)::(bx b5 [vI x5.2.1] 3)::(bx b6 [vU x5.2.2] 22)::(bx b2 [vU 0,vU 0,vU 0] 187)::(bx b1 [vU a0.1,vU a0.2.1,vU a0.2.2] 187)::As) _:=S12;refine Ah ?_;refine nrm ?_;refine Ae ?_;refine My (caps:=[pt b6 0]) rfl ?_;have hcb2: ∀{m':Mem} {As':List Ow} {w':World} {s:UInt64} {X:List Ow} {b0:Int} {b1:UInt64} {r:UInt64×UInt64},St m' (X++As') w'→(X=[bx b6 [vU (s)] 22])→(fun(s3:UInt64) (b9:Int) (b10:UInt64)=>Ac (E2 b9 b10 s3) fun x6=>some (x6.1,x6.2)) s b0 b1=some r→EN Tryz.prog (.func (.func 220) #[] #[pt b6 0]) [vI b0,vU b1] w' fun v w''=> ∃(M:Mem) (X':List Ow),m'≤M∧St M (X'++As') w''∧(X'=[bx b6 [vU (r.2)] 22])∧v=vU r.1:=by
     intro m5 As2 w12 s3 X3 b9 b10 r2 S13 h2 hm2;subst h2;replace S13:St _ ((bx b6 [vU s3] 22)::As2) _:=S13;have L6:=Mem.rfl' m5;obtain⟨x6,q9,hm2⟩:=Aa hm2;refine EN.mono (EN.clo (pre:=[]) Tryz.call220 rfl (R3 (a0:=b9) (a1:=b10) (k0:=s3) S13 q9)) ?_;rintro _ w13 ⟨m6,l3,S14,rfl⟩;replace L6:=Mem.tr L6 l3;clear S13;replace S14:St _ ((bx b6 [vU x6.2] 22)::As2) _:=S14;have e0:=Option.some.inj hm2;subst e0;exact⟨_,[bx b6 [vU x6.2] 22],L6,S14,rfl,rfl⟩
    have S15:St _ ((bx b3 [vU x5.1.1,vU x5.1.2.1,vU x5.1.2.2] 198)::(bx b6 [vU x5.2.2] 22)::(bx b5 [vI x5.2.1] 3)::(bx b2 [vU 0,vU 0,vU 0] 187)::(bx b1 [vU a0.1,vU a0.2.1,vU a0.2.2] 187)::As) _:=St.perm S12 (List.Perm.cons _ (List.Perm.swap _ _ _));clear S12;obtain⟨x7,q10,q5⟩:=Aa q5;refine CJ Tryz.call217 (I1 (a0:=x5.1) (p1:=(fun(s3:UInt64) (b9:Int) (b10:UInt64)=>Ac (E2 b9 b10 s3) fun x6=>some (x6.1,x6.2))) (s0:=x5.2.2) (R:=(fun(s:UInt64) (M:Mem) (X:List Ow)=>(X=[bx b6 [vU (s)] 22]))) (X0:=[bx b6 [vU x5.2.2] 22]) (As:=(bx b5 [vI x5.2.1] 3)::(bx b2 [vU 0,vU 0,vU 0] 187)::(bx b1 [vU a0.1,vU a0.2.1,vU a0.2.2] 187)::As) S15 (fun {_ _ _ _} _ h=>h) rfl @hcb2 rfl q10) rfl ?_;rintro _ w14 ⟨m7,l4,X4,S16,rfl,rfl⟩;replace L3:=Mem.tr L3 l4;clear S15;replace S16:St _ ((bx b3 [vU x7.1.1,vU x7.1.2.1,vU x7.1.2.2] 198)::(bx b6 [vU x7.2] 22)::(bx b5 [vI x5.2.1] 3)::(bx b2 [vU 0,vU 0,vU 0] 187)::(bx b1 [vU a0.1,vU a0.2.1,vU a0.2.2] 187)::As) _:=S16;refine Ah ?_;refine MF ?_;refine nrm ?_;refine Ae ?_;refine FA (m:=(i1:Int)) (n:=1) rfl rfl ?_;refine Ar (v:=vI (w64 ((i1:Int)+1))) rfl ?_;refine Ah ?_;refine nrm ?_;obtain⟨m8,l5,S17⟩:=St.drop S16 1;replace L3:=Mem.tr L3 l5;clear S16;replace S17:St _ ((bx b3 [vU x7.1.1,vU x7.1.2.1,vU x7.1.2.2] 198)::(bx b5 [vI x5.2.1] 3)::(bx b2 [vU 0,vU 0,vU 0] 187)::(bx b1 [vU a0.1,vU a0.2.1,vU a0.2.2] 187)::As) _:=S17;obtain⟨m9,l6,S18⟩:=St.drop S17 1;replace L3:=Mem.tr L3 l6;clear S17;replace S18:St _ ((bx b3 [vU x7.1.1,vU x7.1.2.1,vU x7.1.2.2] 198)::(bx b2 [vU 0,vU 0,vU 0] 187)::(bx b1 [vU a0.1,vU a0.2.1,vU a0.2.2] 187)::As) _:=S18;have e0:=Option.some.inj q5;subst e0;exact⟨FI,_,(by omega),⟨i1+1,(x7.1.1,x7.1.2.1,x7.1.2.2),m9,rfl,hlt1,q4,Mem.tr L4 L3,S18,⟨congrArg (Value.int .i64) (Bx hlt1 (by decide)),trivial⟩⟩⟩
   have hlt1: ¬i1<8:=by have:=of_decide_eq_false hc1; omega
   have e:=Eq.symm (Hk q3 hlt1);subst e;refine CV ?_;refine thE ?_;refine thE ?_;refine exB ?_;refine nrm ?_;exact⟨FI,m1,Mem.tr L4 L3,S5,trivial⟩
  rintro f2 w15 ho ⟨m11,l7,S19,ha⟩;obtain⟨u2,rfl⟩:=B3 (N:=16) ho ha;clear ho ha;replace L1:=Mem.tr L1 l7;clear S4;have e0:=Option.some.inj q1;subst e0;exact⟨FI,m11,L1,S19,trivial⟩
 rintro f3 w16 ho ⟨m12,l8,S20,ha⟩;obtain⟨u3,rfl⟩:=B3 (N:=16) ho ha;replace L0:=Mem.tr L0 l8;clear S4;refine Ag ?_;refine Ae ?_;refine H8 (i:=0) (cs:=[vU x1.1,vU x1.2.1,vU x1.2.2]) S20 rfl rfl Tryz.isAgg198 Tryz.sizeOf198 rfl (fun h=>by cases h) ?_;refine I5 (i:=1) S20 rfl rfl rfl Tryz.sizeOf187 (Jo rfl (Jo rfl (Jo rfl MD))) rfl ?_;intro w17 S21;replace S21:St _ ((bx b3 [vU x1.1,vU x1.2.1,vU x1.2.2] 198)::(bx b2 [vU x1.1,vU x1.2.1,vU x1.2.2] 187)::(bx b1 [vU a0.1,vU a0.2.1,vU a0.2.2] 187)::As) _:=S21;clear S20;refine Ah ?_;refine nrm ?_;refine Bw ?_;refine EE ?_;intro we hpd;replace S21:=St.pd S21 hpd;have SR:=S21;obtain⟨m13,l9,S22⟩:=St.drop S21 0;replace L0:=Mem.tr L0 l9;replace S22:St _ ((bx b2 [vU x1.1,vU x1.2.1,vU x1.2.2] 187)::(bx b1 [vU a0.1,vU a0.2.1,vU a0.2.2] 187)::As) _:=S22;obtain⟨m14,l10,S23⟩:=St.drop S22 0;replace L0:=Mem.tr L0 l10;clear S22;replace S23:St _ ((bx b1 [vU a0.1,vU a0.2.1,vU a0.2.2] 187)::As) _:=S23;obtain⟨m15,l11,S24⟩:=St.drop S23 0;replace L0:=Mem.tr L0 l11;clear S23;replace S24:St _ (As) _:=S24;have e0:=Option.some.inj hm;subst e0;exact IW [_] rfl ⟨IS (i:=1) (off:=0) (cs:=[vU x1.1,vU x1.2.1,vU x1.2.2]) SR rfl rfl Tryz.isAgg187 Tryz.sizeOf187 rfl (fun h=>by cases h),trivial⟩ ⟨_,L0,S24,rfl⟩
def Eh (x6:List UInt64)(i2:Int)(s2:UInt64×UInt64×UInt64):Option (UInt64×UInt64×UInt64):=Ac (idx x6 (i2:Int)) fun x9=>Ac (idx [s2.1,s2.2.1,s2.2.2] (i2:Int)) fun x10=>Ac (El x10 x9) fun x11=>Ac (idx [s2.1,s2.2.1,s2.2.2] (i2:Int)) fun x12=>bnd (if(i2:Int)=0 then x11 else s2.1) fun x13=>bnd (if(i2:Int)=1 then x11 else s2.2.1) fun x14=>bnd (if(i2:Int)=2 then x11 else s2.2.2) fun x15=>some (x13,x14,x15)
def Cb (s1:(List UInt64)×Bool×UInt64×UInt64×UInt64):Option (((List UInt64)×Bool×UInt64×UInt64×UInt64)⊕(UInt64×UInt64×UInt64)):=if(s1.2.1||(decide ((s1.1.length:Int)>0)))=true then Ac (Ac (cut s1.1 0 (NF 2 (s1.1.length:Int))) fun x6=>Ac (Dh (Eh x6) x6.length 0 (s1.2.2.1,s1.2.2.2.1,s1.2.2.2.2)) fun x7=>some (x7.1,x7.2.1,x7.2.2)) fun x5=>Ac (cut s1.1 (NF 2 (s1.1.length:Int)) (s1.1.length:Int)) fun x16=>Ac (Ji x5) fun x17=>some (.inl (x16,false,x17.1,x17.2.1,x17.2.2))else some (.inr (s1.2.2.1,s1.2.2.2.1,s1.2.2.2.2))
def HV (a0:List UInt8):Option (UInt64×UInt64):=Ac (Jj a0) fun x1=>Ac (Ac (iter Cb AR (x1,true,0,0,(toU (a0.length:Int)))) fun x3=>some (x3.1,x3.2.1,x3.2.2)) fun x2=>some (x2.1,x2.2.1)
theorem VM {m:Mem}{As:List Ow}{w:World}{a0:List UInt8}{a0v0:Value}{r:UInt64×UInt64}(S:St m (As) w)(a0h0:SlR m a0v0 a0)(hm:HV a0=some r):
  AB Tryz.prog 165 #[a0v0] w fun v w'=> ∃(M:Mem),m≤M∧St M (As) w'∧v= .agg #[vU r.1,vU r.2]:=by
 unfold HV at hm;have L0:=Mem.rfl' m;refine C9 (args:=[a0v0]) Tryz.func165 rfl Tryz.ntmps165 (Nat.le_of_ble_eq_true rfl) ?_;refine Ag ?_;refine Ae ?_;refine Fx S Tryz.zeroValue84 ?_;intro b1 w1 S1;replace S1:St _ ((bx b1 [vU 0,vU 0] 84)::As) _:=S1;clear S;refine Ah ?_;refine nrm ?_;refine Ag ?_;refine Ae ?_;refine Ar (v:=a0v0) rfl ?_;refine Kb (xs:=a0) rfl a0h0 Tryz.underlying52 ?_;refine On rfl Tryz.underlying3 Tryz.underlying22 ?_;refine TP (parts:=[(2,.tmp 11)]) (ps:=[(2,vU (toU (a0.length:Int)),[vU (toU (a0.length:Int))])]) (cs:=[vU 0,vU 0,vU (toU (a0.length:Int))]) Tryz.zeroValue187 (JN.arr Tryz.underlying187 Tryz.sizeOf22) rfl ⟨rfl,trivial⟩ rfl ?_;refine Fx S1 Tryz.zeroValue187 ?_;intro b2 w2 S2;replace S2:St _ ((bx b2 [vU 0,vU 0,vU 0] 187)::(bx b1 [vU 0,vU 0] 84)::As) _:=S2;clear S1;refine I5 (i:=0) S2 rfl rfl rfl Tryz.sizeOf187 (Jo rfl (Jo rfl (Jo rfl MD))) rfl ?_;intro w3 S3;replace S3:St _ ((bx b2 [vU 0,vU 0,vU (toU (a0.length:Int))] 187)::(bx b1 [vU 0,vU 0] 84)::As) _:=S3;clear S2;refine Ah ?_;refine nrm ?_;refine Ag ?_;refine Ae ?_;refine Ar (v:=a0v0) rfl ?_;obtain⟨x1,q1,hm⟩:=Aa hm;refine CJ Tryz.call199 (VO (a0:=a0) S3 a0h0 q1) rfl ?_;rintro v1 w4 ⟨m1,l1,_,c1,S4,rfl,h1⟩;replace a0h0:=a0h0.up l1;replace L0:=Mem.tr L0 l1;clear S3;replace S4:St _ ((row 1 v1 c1 x1.length)::(bx b2 [vU 0,vU 0,vU (toU (a0.length:Int))] 187)::(bx b1 [vU 0,vU 0] 84)::As) _:=S4;refine A4 (v:=v1) rfl ?_;refine Ah ?_;refine nrm ?_;obtain⟨x2,q2,hm⟩:=Aa hm;have L1:=Mem.rfl' m1;refine Ag ?_;refine A8 [4,5,6,7,8,15,16,17,18,19,20,21,22,23,24,25,26,27,28,29,30,31,32,33,34,35,36,37,38,39,40,41,42,43,44,45] (fun f' w'=> ∃(M1:Mem),m1≤M1∧St M1 ((bx b2 [vU x2.1,vU x2.2.1,vU x2.2.2] 187)::(bx b1 [vU 0,vU 0] 84)::As) w'∧Cl f' []) ?_ ?_
 ·refine Ag ?_;refine Ae ?_;refine A4 (v:=vb true) rfl ?_;refine Ah ?_;refine nrm ?_;obtain⟨x3,q3,q2⟩:=Aa q2;have L2:=Mem.rfl' m1;obtain⟨m2,l2,h3,S5⟩:=St.rowKeepT (i:=0) S4 rfl h1 rfl;replace L2:=Mem.tr L2 l2;clear S4;refine A8 [4,5,6,7,8,15,16,17,18,19,20,21,22,23,24,25,26,27,28,29,30,31,32,33,34,35,36,37,38,39,40,41,42,43,44,45] (fun f' w'=> ∃(M2:Mem),m1≤M2∧St M2 ((bx b2 [vU x3.1,vU x3.2.1,vU x3.2.2] 187)::(bx b1 [vU 0,vU 0] 84)::As) w'∧Cl f' []) ?_ ?_
  ·refine Az ?_;refine B4 [4,5,6,7,8,15,16,17,18,19,20,21,22,23,24,25,26,27,28,29,30,31,32,33,34,35,36,37,38,39,40,41,42,43,44,45] (fun n1 f' w'=> ∃(s1:(List UInt64)×Bool×UInt64×UInt64×UInt64) (m10:Mem) (v2:Value),iter Cb n1 s1=some x3∧m1≤m10∧St m10 ((bx b2 [vU s1.2.2.1,vU s1.2.2.2.1,vU s1.2.2.2.2] 187)::(bx b1 [vU 0,vU 0] 84)::As) w'∧SlR m10 v2 s1.1∧Cl f' [(4,v2),(5,vb s1.2.1)]) AR ⟨(x1,true,0,0,(toU (a0.length:Int))),m2,_,q3,L2,S5,h3,⟨rfl,rfl,trivial⟩⟩ ?_;rintro n1 f1 w5 ho ⟨s1,m3,v2,q4,L4,S6,h2,ha⟩;obtain⟨u1,rfl⟩:=B3 (N:=49) ho ha;clear ho ha;have L3:=Mem.rfl' m3;clear S5;cases n1 with
   |zero=>exact(An q4).elim
   |succ n1=>
    obtain⟨y1,q6,q5⟩:=Am q4;unfold Cb at q6;refine Ag ?_;refine Ag ?_;refine Ae ?_;refine Ar (v:=vb s1.2.1) rfl ?_;refine Ar (v:=vb s1.2.1) rfl ?_;refine P7 4 [17,18,19,20] (fun f' w'=>w'=w5∧Cl f' [(20,vb (s1.2.1||(decide ((s1.1.length:Int)>0))))]) ?_ ?_
    ·rcases RB s1.2.1 with hb1|hb1
     ·refine GZ (d:=16) rfl rfl (congrArg Value.bool hb1) ?_;refine GZ (d:=16) rfl rfl (congrArg Value.bool hb1) ?_;refine GZ (d:=16) rfl rfl (congrArg Value.bool hb1) ?_;refine Jy (congrArg Value.bool hb1) rfl ?_;exact Ah (nrm ⟨FI,rfl,congrArg Value.bool (or_t hb1),trivial⟩)
     ·refine FL (d:=16) rfl rfl (congrArg Value.bool hb1) ?_;refine Ar (v:=v2) rfl ?_;refine FL (d:=16) rfl rfl (congrArg Value.bool hb1) ?_;refine Kb (xs:=s1.1) rfl h2 Tryz.underlying140 ?_;refine FL (d:=16) rfl rfl (congrArg Value.bool hb1) ?_;refine VW (m:=(s1.1.length:Int)) (n:=0) rfl rfl ?_;refine Jz (congrArg Value.bool hb1) rfl ?_;exact Ah (nrm ⟨FI,rfl,congrArg Value.bool (or_f hb1),trivial⟩)
    rintro f2 w6 ho ⟨h4,ha⟩;subst h4;obtain⟨u2,rfl⟩:=B3 (N:=49) ho ha;refine Ah ?_;refine nrm ?_;refine Cz (t:=(s1.2.1||(decide ((s1.1.length:Int)>0)))) rfl (fun hc1=> ?_) (fun hc1=> ?_)
    ·replace q6:=ifT hc1 q6;refine A6 ?_;refine nrm ?_;refine Ag ?_;refine Az ?_;refine Ag ?_;refine Ae ?_;refine Ar (v:=v2) rfl ?_;refine Kb (xs:=s1.1) rfl h2 Tryz.underlying140 ?_;refine WZ (m:=2) rfl rfl ?_;refine A4 (v:=vI (NF 2 (s1.1.length:Int))) rfl ?_;refine Ah ?_;refine nrm ?_;obtain⟨x5,q8,q6⟩:=Aa q6;have L5:=Mem.rfl' m3;refine Ag ?_;refine A8 [7,8,24,25,26,27,28,29,30,31,32,33,34,35,36,37,38,39,40] (fun f' w'=> ∃(M3:Mem),m3≤M3∧St M3 ((bx b2 [vU x5.1,vU x5.2.1,vU x5.2.2] 187)::(bx b1 [vU 0,vU 0] 84)::As) w'∧Cl f' []) ?_ ?_
     ·refine Ag ?_;refine Ae ?_;refine Ar (v:=v2) rfl ?_;refine Ar (v:=vI (NF 2 (s1.1.length:Int))) rfl ?_;obtain⟨x6,q9,q8⟩:=Aa q8;refine TO (ys:=x6) (l:=0) (h:=(NF 2 (s1.1.length:Int))) rfl h2 Tryz.underlying140 Tryz.sizeOf22 (.inl ⟨rfl,rfl⟩) (.inr ⟨_,rfl⟩) (.inl rfl) q9 ?_;intro v3 h5;refine Kb (xs:=x6) rfl h5 Tryz.underlying140 ?_;refine Ar (v:=vI 0) rfl ?_;refine Ah ?_;refine nrm ?_;obtain⟨x7,q10,q8⟩:=Aa q8;have L6:=Mem.rfl' m3;refine A8 [7,8,28,29,30,31,32,33,34,35,36,37,38,39,40] (fun f' w'=> ∃(M4:Mem),m3≤M4∧St M4 ((bx b2 [vU x7.1,vU x7.2.1,vU x7.2.2] 187)::(bx b1 [vU 0,vU 0] 84)::As) w'∧Cl f' []) ?_ ?_
      ·refine Az ?_;refine B4 [7,8,28,29,30,31,32,33,34,35,36,37,38,39,40] (fun n2 f' w'=> ∃(i2:Nat) (s2:UInt64×UInt64×UInt64) (m6:Mem),n2=x6.length-i2∧i2≤x6.length∧Dh (Eh x6) (x6.length-i2) (i2:Int) s2=some x7∧m3≤m6∧St m6 ((bx b2 [vU s2.1,vU s2.2.1,vU s2.2.2] 187)::(bx b1 [vU 0,vU 0] 84)::As) w'∧Cl f' [(28,vI (i2:Int))]) x6.length ⟨0,(s1.2.2.1,s1.2.2.2.1,s1.2.2.2.2),m3,rfl,Nat.zero_le _,q10,L6,S6,⟨rfl,trivial⟩⟩ ?_;rintro n2 f3 w7 ho ⟨i2,s2,m4,hn,hi,q11,L8,S7,ha⟩;obtain⟨u3,rfl⟩:=B3 (N:=49) ho ha;clear ho ha;replace h2:=h2.up L8;replace h5:=h5.up L8;have L7:=Mem.rfl' m4;clear S6;refine Ag ?_;refine Ae ?_;refine KO (m:=(i2:Int)) (n:=(x6.length:Int)) rfl rfl ?_;refine Ah ?_;refine nrm ?_;refine Ag ?_;refine Cz (t:=decide ((i2:Int)<(x6.length:Int))) rfl (fun hc2=> ?_) (fun hc2=> ?_)
       ·have hlt2:i2<x6.length:=by have:=of_decide_eq_true hc2; omega
        obtain⟨y2,q13,q12⟩:=Iw q11 hlt2;unfold Eh at q13;refine A6 ?_;refine nrm ?_;refine Ag ?_;refine Az ?_;refine Ag ?_;refine Ae ?_;refine Ar (v:=vI (i2:Int)) rfl ?_;obtain⟨x9,q15,q13⟩:=Aa q13;refine W5 (q:=x9) rfl rfl h5 q15 Tryz.underlying140 Tryz.sizeOf22 ?_;intro p1 c2 h6 r2;obtain rfl:c2=[vU x9]:=r2;refine W3 (cs:=[vU x9]) S7 rfl h6 rfl Tryz.isAgg22 Tryz.sizeOf22 (fun _=>rfl) ?_;refine A4 (v:=vI (i2:Int)) rfl ?_;refine A4 (v:=vU x9) rfl ?_;refine Ah ?_;refine nrm ?_;refine Ae ?_;refine Ar (v:=vI (i2:Int)) rfl ?_;refine Ar (v:=vI (i2:Int)) rfl ?_;obtain⟨x10,q16,q13⟩:=Aa q13;refine IF (i:=(i2:Int)) rfl rfl Tryz.underlying187 Tryz.sizeOf22 (CS q16).1 (CS q16).2 ?_;refine H8 (i:=0) (off:=0+(i2:Int).toNat*1) (cs:=[vU x10]) S7 rfl rfl Tryz.isAgg22 Tryz.sizeOf22 (by rcases V8 q16 with ⟨h,h'⟩|⟨h,h'⟩|⟨h,h'⟩<;>(rw[h,h']; rfl)) (fun _=>rfl) ?_;refine Ar (v:=vU x9) rfl ?_;obtain⟨x11,q17,q13⟩:=Aa q13;refine CJ Tryz.call200 (Jv (a0:=x10) (a1:=x9) S7 q17) rfl ?_;rintro _ w8 ⟨m5,l3,S8,rfl⟩;replace h2:=h2.up l3;replace h5:=h5.up l3;replace L7:=Mem.tr L7 l3;clear S7;replace S8:St _ ((bx b2 [vU s2.1,vU s2.2.1,vU s2.2.2] 187)::(bx b1 [vU 0,vU 0] 84)::As) _:=S8;obtain⟨x12,q18,q13⟩:=Aa q13;refine IF (i:=(i2:Int)) rfl rfl Tryz.underlying187 Tryz.sizeOf22 (CS q18).1 (CS q18).2 ?_;obtain⟨x13,q19,q13⟩:=CU q13;obtain⟨x14,q20,q13⟩:=CU q13;obtain⟨x15,q21,q13⟩:=CU q13;refine Zp (i:=0) (off:=0+(i2:Int).toNat*1) S8 rfl rfl rfl Tryz.sizeOf22 (Uv.all (Jo rfl MD)) (by rcases V8 q18 with ⟨h,h'⟩|⟨h,h'⟩|⟨h,h'⟩<;>(rw[h]; exact Nat.le_of_ble_eq_true rfl)) ?_;intro w9 S9;replace S9:=St.cellsTo (i:=0) (l':=[vU x13,vU x14,vU x15]) S9 (by rcases V8 q18 with ⟨h,h'⟩|⟨h,h'⟩|⟨h,h'⟩<;>(simp only[q19,q20,q21,h]; rfl)) rfl;replace S9:St _ ((bx b2 [vU x13,vU x14,vU x15] 187)::(bx b1 [vU 0,vU 0] 84)::As) _:=S9;clear S8;refine Ah ?_;refine MF ?_;refine nrm ?_;refine Ae ?_;refine FA (m:=(i2:Int)) (n:=1) rfl rfl ?_;refine Ar (v:=vI (w64 ((i2:Int)+1))) rfl ?_;refine Ah ?_;refine nrm ?_;have e0:=Option.some.inj q13;subst e0;exact⟨FI,_,(by omega),⟨i2+1,(x13,x14,x15),m5,rfl,hlt2,q12,Mem.tr L8 L7,S9,⟨congrArg (Value.int .i64) (Bx hlt2 (SlR.le h5)),trivial⟩⟩⟩
       have hlt2: ¬i2<x6.length:=by have:=of_decide_eq_false hc2; omega
       have e:=Eq.symm (Hk q11 hlt2);subst e;refine CV ?_;refine thE ?_;refine thE ?_;refine exB ?_;refine nrm ?_;exact⟨FI,m4,Mem.tr L8 L7,S7,trivial⟩
      rintro f4 w10 ho ⟨m7,l4,S10,ha⟩;obtain⟨u4,rfl⟩:=B3 (N:=49) ho ha;clear ho ha;replace h2:=h2.up l4;replace L5:=Mem.tr L5 l4;clear S6;have e0:=Option.some.inj q8;subst e0;exact⟨FI,m7,L5,S10,trivial⟩
     rintro f5 w11 ho ⟨m8,l5,S11,ha⟩;obtain⟨u5,rfl⟩:=B3 (N:=49) ho ha;replace h2:=h2.up l5;replace L3:=Mem.tr L3 l5;clear S6;refine Ag ?_;refine Ae ?_;refine Ar (v:=v2) rfl ?_;refine Ar (v:=vI (NF 2 (s1.1.length:Int))) rfl ?_;obtain⟨x16,q22,q6⟩:=Aa q6;refine TO (ys:=x16) (l:=(NF 2 (s1.1.length:Int))) (h:=(s1.1.length:Int)) rfl h2 Tryz.underlying140 Tryz.sizeOf22 (.inr ⟨_,rfl⟩) (.inl ⟨rfl,rfl⟩) (.inl rfl) q22 ?_;intro v4 h7;refine A4 (v:=v4) rfl ?_;refine Ah ?_;refine nrm ?_;refine Ae ?_;refine H8 (i:=0) (cs:=[vU x5.1,vU x5.2.1,vU x5.2.2]) S11 rfl rfl Tryz.isAgg187 Tryz.sizeOf187 rfl (fun h=>by cases h) ?_;obtain⟨x17,q23,q6⟩:=Aa q6;refine CJ Tryz.call201 (VN (a0:=x5) S11 q23) rfl ?_;rintro _ w12 ⟨m9,l6,S12,rfl⟩;replace h7:=h7.up l6;replace L3:=Mem.tr L3 l6;clear S11;replace S12:St _ ((bx b2 [vU x5.1,vU x5.2.1,vU x5.2.2] 187)::(bx b1 [vU 0,vU 0] 84)::As) _:=S12;refine I5 (i:=0) S12 rfl rfl rfl Tryz.sizeOf187 (Jo rfl (Jo rfl (Jo rfl MD))) rfl ?_;intro w13 S13;replace S13:St _ ((bx b2 [vU x17.1,vU x17.2.1,vU x17.2.2] 187)::(bx b1 [vU 0,vU 0] 84)::As) _:=S13;clear S12;refine Ah ?_;refine MF ?_;refine nrm ?_;refine Ae ?_;refine A4 (v:=vb false) rfl ?_;refine Ah ?_;refine nrm ?_;have e0:=Option.some.inj q6;subst e0;rcases q5 with ⟨sn,e,q5'⟩|e
     ·cases e;exact⟨FI,_,Nat.lt_succ_self _,⟨_,m9,_,q5',Mem.tr L4 L3,S13,h7,⟨rfl,rfl,trivial⟩⟩⟩
     ·cases e
    replace q6:=ifF hc1 q6;refine CV ?_;refine thE ?_;refine thE ?_;refine exB ?_;refine nrm ?_;have e0:=Option.some.inj q6;subst e0;rcases q5 with ⟨sn,e,_⟩|e
    ·cases e
    ·cases e;exact⟨FI,m3,Mem.tr L4 L3,S6,trivial⟩
  rintro f6 w14 ho ⟨m11,l7,S14,ha⟩;obtain⟨u6,rfl⟩:=B3 (N:=49) ho ha;clear ho ha;replace L1:=Mem.tr L1 l7;clear S5;have e0:=Option.some.inj q2;subst e0;exact⟨FI,m11,L1,S14,trivial⟩
 rintro f7 w15 ho ⟨m12,l8,S15,ha⟩;obtain⟨u7,rfl⟩:=B3 (N:=49) ho ha;replace L0:=Mem.tr L0 l8;clear S4;refine Ag ?_;refine Ae ?_;refine Ny (k:=2) (n:=3) (sz:=1) rfl Tryz.underlying187 Tryz.sizeOf22 (.inr ⟨_,rfl⟩) (by decide) ?_;refine AbB rfl Tryz.underlying84 (by decide) ?_;refine H8 (i:=0) (cs:=[vU x2.1,vU x2.2.1]) S15 rfl rfl Tryz.isAgg84 Tryz.sizeOf84 rfl (fun h=>by cases h) ?_;refine I5 (i:=1) S15 rfl rfl rfl Tryz.sizeOf84 (Jo rfl (Jo rfl MD)) rfl ?_;intro w16 S16;replace S16:St _ ((bx b2 [vU x2.1,vU x2.2.1,vU x2.2.2] 187)::(bx b1 [vU x2.1,vU x2.2.1] 84)::As) _:=S16;clear S15;refine Ah ?_;refine nrm ?_;refine Bw ?_;refine EE ?_;intro we hpd;replace S16:=St.pd S16 hpd;have SR:=S16;obtain⟨m13,l9,S17⟩:=St.drop S16 0;replace L0:=Mem.tr L0 l9;replace S17:St _ ((bx b1 [vU x2.1,vU x2.2.1] 84)::As) _:=S17;obtain⟨m14,l10,S18⟩:=St.drop S17 0;replace L0:=Mem.tr L0 l10;clear S17;replace S18:St _ (As) _:=S18;have e0:=Option.some.inj hm;subst e0;exact IW [_] rfl ⟨IS (i:=1) (off:=0) (cs:=[vU x2.1,vU x2.2.1]) SR rfl rfl Tryz.isAgg84 Tryz.sizeOf84 rfl (fun h=>by cases h),trivial⟩ ⟨_,L0,S18,rfl⟩
theorem VV {a0:List UInt8}{r:UInt64×UInt64}(hm:HV a0=some r):Sf prog 165 [sl eB a0] (ag (Ku r)):=
 ⟨call165,fun η m As w vs hv0 hd S=>by
  have S:St m As w:=S;obtain⟨v0,u0,rfl,r0,hv1⟩:=BB.cons_inv hv0;have f0:=Br.ofS Br.b r0.dd;obtain rfl:=BB.nil_inv hv1;refine AB.mono (VM S f0 hm) ?_;rintro v w' ⟨M,hle,S0,rfl⟩;exact⟨M,none0,_,_,_,hle,Un hd _,⟨rfl,rfl,rfl⟩,fun n h=>absurd rfl h,(Br.toA YT (Pj)),S0⟩⟩
def Ev (i1:Int)(x4:List UInt8)(s1:(List UInt8)):Option ((List UInt8)):=Ac (HU s1 (toU (x4.length:Int)) 4) fun x5=>Ac (app 1 x5 x4) fun x6=>some x6
def Fo (a0:ByteArray)(a1:List (List UInt8)):Option (UInt64×UInt64):=Ac (app 1 ([(toB (a0.size:Int))]:List UInt8) a0.data.toList) fun x1=>Ac (Ac (GM Ev a1 0 x1) fun x3=>some x3) fun x2=>Ac (HV x2) fun x7=>some x7
theorem LD {a0:ByteArray}{a1:List (List UInt8)}{r:UInt64×UInt64}(hm:Fo a0 a1=some r):Sf prog 111 [.d (.s a0),sl (eL eB) a1] (ag (Ku r)):=
 sp call111 func111 rfl ntmps111 rfl fun D0 As η0 m0 hd=>by
  unfold Fo at hm;refine Wb (k:=1) eB ([(toB (a0.size:Int))]:List UInt8) (fun _=>rfl) ?_;obtain⟨x1,q1,hm⟩:=Aa hm;refine gapS q1 ?_;obtain⟨x2,q2,hm⟩:=Aa hm;obtain⟨x3,q3,q2⟩:=Aa q2;refine PU 0 (E:=(eL eB)) (xs:=a1) 14 fun hle1=> ?_;refine gjU 0 (fun(_:Unit)=>⟨[(4,.pb 0 0),(5,.ow 1)],[(0,.row 1 1 _ eB x2),(1,.box 0 [.d (.u 0),.d (.u 0)] 84)],[],2⟩) (fun _=>True) (fun Jp bk1=> ?_) fun _ _=> ?_
  ·refine gjU 0 (fun(_:Unit)=>⟨[(4,.pb 0 0),(5,.ow 1)],[(0,.row 1 1 _ eB x3),(1,.box 0 [.d (.u 0),.d (.u 0)] 84)],[],2⟩) (fun _=>True) (fun Jp bk2=> ?_) fun _ _=> ?_
   ·refine gl hd (fun(p:Int×((List UInt8)))=>let (p0,p_0):=p; ⟨[(4,.pb 0 0),(5,.ow 1),(14,sl (eL eB) a1),(15,.d (.i (a1.length:Int))),(16,.d (.i p0))],[(0,.row 1 1 _ eB p_0),(1,.box 0 [.d (.u 0),.d (.u 0)] 84)],[],2⟩) (fun p=> ∃i:Nat,p.1=(i:Int)∧i≤a1.length∧GM Ev (a1.drop i) (i:Int) p.2=some x3) (fun p=>a1.length-p.1.toNat) (0,x1) ⟨0,rfl,Nat.zero_le _,q3⟩ ?_;rintro⟨_,s1⟩ ⟨i1,rfl,hi,q4⟩ Jl bl1;refine gi' (b:=decide ((i1:Int)<(a1.length:Int))) (fun hc1=> ?_) fun hc1=> ?_
    ·have hlt1:i1<a1.length:=by have:=of_decide_eq_true hc1; omega
     obtain⟨x4,y1,q7,q6,q5⟩:=KI q4 hlt1;unfold Ev at q6;refine Ga (k:=1) (E:=(eL eB)) (fun _=>rfl) (fun _=>q7) ?_;obtain⟨x5,q8,q6⟩:=Aa q6;refine gco (VL q8) ?_;obtain⟨x6,q9,q6⟩:=Aa q6;refine KZ (k:=1) (E:=eB) (fun _=>rfl) q9 ?_;have e0:=Option.some.inj q6;subst e0;exact gb bl1 hd (w64 ((i1:Int)+1),x6) ⟨⟨i1+1,Bx hlt1 hle1,by omega,q5⟩,IC hlt1 hle1⟩
    have hlt1: ¬i1<a1.length:=by have:=of_decide_eq_false hc1; omega
    have e:=Eq.symm (Jn q4 hlt1);subst e;exact gb bk2 hd () trivial
   have e0:=Option.some.inj q2;subst e0;exact gb bk1 hd () trivial
  obtain⟨x7,q10,hm⟩:=Aa hm;refine gco (VV q10) ?_;have e0:=Option.some.inj hm;subst e0;exact Aq hd
def Gk (a0:UInt64)(i1:Int)(s1:UInt8×UInt8×UInt8×UInt8×UInt8×UInt8×UInt8×UInt8):Option (UInt8×UInt8×UInt8×UInt8×UInt8×UInt8×UInt8×UInt8):=if(0:Int)≤(w64 (8*(i1:Int)))then Ac (idx [s1.1,s1.2.1,s1.2.2.1,s1.2.2.2.1,s1.2.2.2.2.1,s1.2.2.2.2.2.1,s1.2.2.2.2.2.2.1,s1.2.2.2.2.2.2.2] (w64 (7-(i1:Int)))) fun x4=>bnd (if(w64 (7-(i1:Int)))=0 then(toB ((Dj a0 ((w64 (8*(i1:Int))).toNat)).toNat:Int))else s1.1) fun x5=>bnd (if(w64 (7-(i1:Int)))=1 then(toB ((Dj a0 ((w64 (8*(i1:Int))).toNat)).toNat:Int))else s1.2.1) fun x6=>bnd (if(w64 (7-(i1:Int)))=2 then(toB ((Dj a0 ((w64 (8*(i1:Int))).toNat)).toNat:Int))else s1.2.2.1) fun x7=>bnd (if(w64 (7-(i1:Int)))=3 then(toB ((Dj a0 ((w64 (8*(i1:Int))).toNat)).toNat:Int))else s1.2.2.2.1) fun x8=>bnd (if(w64 (7-(i1:Int)))=4 then(toB ((Dj a0 ((w64 (8*(i1:Int))).toNat)).toNat:Int))else s1.2.2.2.2.1) fun x9=>bnd (if(w64 (7-(i1:Int)))=5 then(toB ((Dj a0 ((w64 (8*(i1:Int))).toNat)).toNat:Int))else s1.2.2.2.2.2.1) fun x10=>bnd (if(w64 (7-(i1:Int)))=6 then(toB ((Dj a0 ((w64 (8*(i1:Int))).toNat)).toNat:Int))else s1.2.2.2.2.2.2.1) fun x11=>bnd (if(w64 (7-(i1:Int)))=7 then(toB ((Dj a0 ((w64 (8*(i1:Int))).toNat)).toNat:Int))else s1.2.2.2.2.2.2.2) fun x12=>some (x5,x6,x7,x8,x9,x10,x11,x12)else none
def D4 (a0:UInt64):Option (List UInt8):=Ac (Ac (Dh (Gk a0) 8 0 (0,0,0,0,0,0,0,0)) fun x2=>some (x2.1,x2.2.1,x2.2.2.1,x2.2.2.2.1,x2.2.2.2.2.1,x2.2.2.2.2.2.1,x2.2.2.2.2.2.2.1,x2.2.2.2.2.2.2.2)) fun x1=>some ([x1.1,x1.2.1,x1.2.2.1,x1.2.2.2.1,x1.2.2.2.2.1,x1.2.2.2.2.2.1,x1.2.2.2.2.2.2.1,x1.2.2.2.2.2.2.2]:List UInt8)
theorem RN {m:Mem}{As:List Ow}{w:World}{a0:UInt64}{r:List UInt8}(S:St m (As) w)(hm:D4 a0=some r):
  AB Tryz.prog 112 #[vU a0] w fun v w'=> ∃(M:Mem),m≤M∧∃(rv0:Value) (rc0:List Value),St M ((row 1 rv0 rc0 r.length)::As) w'∧v=rv0∧BK M rc0 r:=by
 unfold D4 at hm;have L0:=Mem.rfl' m;refine C9 (args:=[vU a0]) Tryz.func112 rfl Tryz.ntmps112 (Nat.le_of_ble_eq_true rfl) ?_;refine Ag ?_;refine Ae ?_;refine A4 (v:= .slice none 0 0) rfl ?_;refine Ah ?_;refine nrm ?_;refine Ag ?_;refine Ae ?_;refine Fx S Tryz.zeroValue155 ?_;intro b1 w1 S1;replace S1:St _ ((bx b1 [vB 0,vB 0,vB 0,vB 0,vB 0,vB 0,vB 0,vB 0] 155)::As) _:=S1;clear S;refine Ah ?_;refine nrm ?_;obtain⟨x1,q1,hm⟩:=Aa hm;have L1:=Mem.rfl' m;refine Ag ?_;refine A8 [4,5,6,7,8,9,10,11,12,13,14,15,16] (fun f' w'=> ∃(M1:Mem),m≤M1∧St M1 ((bx b1 [vB x1.1,vB x1.2.1,vB x1.2.2.1,vB x1.2.2.2.1,vB x1.2.2.2.2.1,vB x1.2.2.2.2.2.1,vB x1.2.2.2.2.2.2.1,vB x1.2.2.2.2.2.2.2] 155)::As) w'∧Cl f' []) ?_ ?_
 ·refine Ag ?_;refine Ae ?_;refine Ar (v:=vI 0) rfl ?_;refine Ah ?_;refine nrm ?_;obtain⟨x2,q2,q1⟩:=Aa q1;have L2:=Mem.rfl' m;refine A8 [4,5,6,7,8,9,10,11,12,13,14,15,16] (fun f' w'=> ∃(M2:Mem),m≤M2∧St M2 ((bx b1 [vB x2.1,vB x2.2.1,vB x2.2.2.1,vB x2.2.2.2.1,vB x2.2.2.2.2.1,vB x2.2.2.2.2.2.1,vB x2.2.2.2.2.2.2.1,vB x2.2.2.2.2.2.2.2] 155)::As) w'∧Cl f' []) ?_ ?_
  ·refine Az ?_;refine B4 [4,5,6,7,8,9,10,11,12,13,14,15,16] (fun n1 f' w'=> ∃(i1:Nat) (s1:UInt8×UInt8×UInt8×UInt8×UInt8×UInt8×UInt8×UInt8) (m2:Mem),n1=8-i1∧i1≤8∧Dh (Gk a0) (8-i1) (i1:Int) s1=some x2∧m≤m2∧St m2 ((bx b1 [vB s1.1,vB s1.2.1,vB s1.2.2.1,vB s1.2.2.2.1,vB s1.2.2.2.2.1,vB s1.2.2.2.2.2.1,vB s1.2.2.2.2.2.2.1,vB s1.2.2.2.2.2.2.2] 155)::As) w'∧Cl f' [(5,vI (i1:Int))]) 8 ⟨0,(0,0,0,0,0,0,0,0),m,rfl,Nat.zero_le _,q2,L2,S1,⟨rfl,trivial⟩⟩ ?_;rintro n1 f1 w2 ho ⟨i1,s1,m1,hn,hi,q3,L4,S2,ha⟩;obtain⟨u1,rfl⟩:=B3 (N:=18) ho ha;clear ho ha;have L3:=Mem.rfl' m1;clear S1;refine Ag ?_;refine Ae ?_;refine KO (m:=(i1:Int)) (n:=8) rfl rfl ?_;refine Ah ?_;refine nrm ?_;refine Ag ?_;refine Cz (t:=decide ((i1:Int)<(8:Int))) rfl (fun hc1=> ?_) (fun hc1=> ?_)
   ·have hlt1:i1<8:=by have:=of_decide_eq_true hc1; omega
    obtain⟨y1,q5,q4⟩:=Iw q3 hlt1;unfold Gk at q5;refine A6 ?_;refine nrm ?_;refine Ag ?_;refine Az ?_;refine Ag ?_;refine Ae ?_;refine Ar (v:=vI (i1:Int)) rfl ?_;refine A4 (v:=vI (i1:Int)) rfl ?_;refine Ah ?_;refine nrm ?_;refine Ae ?_;refine Ar (v:=vI (i1:Int)) rfl ?_;refine M6 (m:=7) (n:=(i1:Int)) rfl rfl ?_;refine Ar (v:=vU a0) rfl ?_;refine Ar (v:=vI (i1:Int)) rfl ?_;refine PE (m:=8) (n:=(i1:Int)) rfl rfl ?_;obtain⟨q7,q5⟩:=Ck q5;refine Aaq (m:=a0) (n:=(w64 (8*(i1:Int)))) rfl rfl q7 ?_;refine QT rfl Tryz.underlying22 Tryz.underlying5 ?_;obtain⟨x4,q8,q5⟩:=Aa q5;refine IF (i:=(w64 (7-(i1:Int)))) rfl rfl Tryz.underlying155 Tryz.sizeOf5 (CS q8).1 (CS q8).2 ?_;obtain⟨x5,q9,q5⟩:=CU q5;obtain⟨x6,q10,q5⟩:=CU q5;obtain⟨x7,q11,q5⟩:=CU q5;obtain⟨x8,q12,q5⟩:=CU q5;obtain⟨x9,q13,q5⟩:=CU q5;obtain⟨x10,q14,q5⟩:=CU q5;obtain⟨x11,q15,q5⟩:=CU q5;obtain⟨x12,q16,q5⟩:=CU q5;refine Zp (i:=0) (off:=0+(w64 (7-(i1:Int))).toNat*1) S2 rfl rfl rfl Tryz.sizeOf5 (Uv.all (Jo rfl MD)) (by rcases idx8 q8 with ⟨h,h'⟩|⟨h,h'⟩|⟨h,h'⟩|⟨h,h'⟩|⟨h,h'⟩|⟨h,h'⟩|⟨h,h'⟩|⟨h,h'⟩<;>(rw[h]; exact Nat.le_of_ble_eq_true rfl)) ?_;intro w3 S3;replace S3:=St.cellsTo (i:=0) (l':=[vB x5,vB x6,vB x7,vB x8,vB x9,vB x10,vB x11,vB x12]) S3 (by rcases idx8 q8 with ⟨h,h'⟩|⟨h,h'⟩|⟨h,h'⟩|⟨h,h'⟩|⟨h,h'⟩|⟨h,h'⟩|⟨h,h'⟩|⟨h,h'⟩<;>(simp only[q9,q10,q11,q12,q13,q14,q15,q16,h]; rfl)) rfl;replace S3:St _ ((bx b1 [vB x5,vB x6,vB x7,vB x8,vB x9,vB x10,vB x11,vB x12] 155)::As) _:=S3;clear S2;refine Ah ?_;refine MF ?_;refine nrm ?_;refine Ae ?_;refine FA (m:=(i1:Int)) (n:=1) rfl rfl ?_;refine Ar (v:=vI (w64 ((i1:Int)+1))) rfl ?_;refine Ah ?_;refine nrm ?_;have e0:=Option.some.inj q5;subst e0;exact⟨FI,_,(by omega),⟨i1+1,(x5,x6,x7,x8,x9,x10,x11,x12),m1,rfl,hlt1,q4,Mem.tr L4 L3,S3,⟨congrArg (Value.int .i64) (Bx hlt1 (by decide)),trivial⟩⟩⟩
   have hlt1: ¬i1<8:=by have:=of_decide_eq_false hc1; omega
   have e:=Eq.symm (Hk q3 hlt1);subst e;refine CV ?_;refine thE ?_;refine thE ?_;refine exB ?_;refine nrm ?_;exact⟨FI,m1,Mem.tr L4 L3,S2,trivial⟩
  rintro f2 w4 ho ⟨m3,l1,S4,ha⟩;obtain⟨u2,rfl⟩:=B3 (N:=18) ho ha;clear ho ha;replace L1:=Mem.tr L1 l1;clear S1;have e0:=Option.some.inj q1;subst e0;exact⟨FI,m3,L1,S4,trivial⟩
 rintro f3 w5 ho ⟨m4,l2,S5,ha⟩;obtain⟨u3,rfl⟩:=B3 (N:=18) ho ha;replace L0:=Mem.tr L0 l2;clear S1;refine Ag ?_;refine Ae ?_;refine Ny (k:=8) (n:=8) (sz:=1) (off:=0) rfl Tryz.underlying155 Tryz.sizeOf5 (.inl ⟨rfl,rfl⟩) (Nat.le_refl _) ?_;have S6:=St.bxRow (i:=0) (sz:=1) (n:=8) S5 rfl rfl (by decide);have h1:BK m4 [vB x1.1,vB x1.2.1,vB x1.2.2.1,vB x1.2.2.2.1,vB x1.2.2.2.2.1,vB x1.2.2.2.2.2.1,vB x1.2.2.2.2.2.2.1,vB x1.2.2.2.2.2.2.2] ([x1.1,x1.2.1,x1.2.2.1,x1.2.2.2.1,x1.2.2.2.2.1,x1.2.2.2.2.2.1,x1.2.2.2.2.2.2.1,x1.2.2.2.2.2.2.2]:List UInt8):=(BK.cons (c:=[vB x1.1]) rfl (BK.cons (c:=[vB x1.2.1]) rfl (BK.cons (c:=[vB x1.2.2.1]) rfl (BK.cons (c:=[vB x1.2.2.2.1]) rfl (BK.cons (c:=[vB x1.2.2.2.2.1]) rfl (BK.cons (c:=[vB x1.2.2.2.2.2.1]) rfl (BK.cons (c:=[vB x1.2.2.2.2.2.2.1]) rfl (BK.cons (c:=[vB x1.2.2.2.2.2.2.2]) rfl BK.nil))))))));replace S6:St _ ((row 1 (.slice (some ⟨b1,0,none⟩) 8 8) [vB x1.1,vB x1.2.1,vB x1.2.2.1,vB x1.2.2.2.1,vB x1.2.2.2.2.1,vB x1.2.2.2.2.2.1,vB x1.2.2.2.2.2.2.1,vB x1.2.2.2.2.2.2.2] ([x1.1,x1.2.1,x1.2.2.1,x1.2.2.2.1,x1.2.2.2.2.1,x1.2.2.2.2.2.1,x1.2.2.2.2.2.2.1,x1.2.2.2.2.2.2.2]:List UInt8).length)::As) _:=S6;clear S5;refine A4 (v:=(.slice (some ⟨b1,0,none⟩) 8 8)) rfl ?_;refine Ah ?_;refine nrm ?_;refine Bw ?_;refine EE ?_;intro we hpd;replace S6:=St.pd S6 hpd;have e0:=Option.some.inj hm;subst e0;exact IW [_] rfl ⟨rfl,trivial⟩ ⟨_,L0,_,_,S6,rfl,h1⟩
theorem J9 {a0:UInt64}{r:List UInt8}(hm:D4 a0=some r):Sp prog 112 [.d (.u a0)] [] 0 (is (.ow 0) [.row 0 1 _ eB r] 1):=
 ⟨call112,fun η m As w vs hv0 hd S=>by
  have S:St m As w:=S;obtain⟨v0,u0,rfl,r0,hv1⟩:=BB.cons_inv hv0;obtain rfl:=r0.u_inv;obtain rfl:=BB.nil_inv hv1;refine AB.mono (RN S hm) ?_;rintro v w' ⟨M,hle,y0,c0,S0,rfl,h0⟩;exact⟨M,(AaZ [v]),_,_,_,hle,Un hd _,⟨rfl,rfl,rfl⟩,JL rfl,(.ow rfl (EC S0)),(St.impL S0 (AbA (Br.toR Br.b rfl rfl (EC S0) h0) fun _ h=>h))⟩⟩
def Cn (a0:UInt64)(a1:UInt64)(a2:List UInt8):Option UInt64:=Ac (D4 a0) fun x1=>Ac (D4 a1) fun x2=>Ac (Fo (⟨#[115,105,103,110]⟩:ByteArray) ([x1,x2,a2]:List (List UInt8))) fun x3=>Ac (HW x3 1152921504606845789) fun x4=>some x4
theorem JO {a0:UInt64}{a1:UInt64}{a2:List UInt8}{r:UInt64}(hm:Cn a0 a1 a2=some r):Sf prog 63 [.d (.u a0),.d (.u a1),sl eB a2] (.d (.u r)):=
 sp call63 func63 rfl ntmps63 rfl fun D0 As η0 m0 hd=>by
  unfold Cn at hm;obtain⟨x1,q1,hm⟩:=Aa hm;refine gco (J9 q1) ?_;obtain⟨x2,q2,hm⟩:=Aa hm;refine gco (J9 q2) ?_;refine Wa (k:=1) (eL eB) ([x1,x2,a2]:List (List UInt8)) (fun _=>rfl) ?_;obtain⟨x3,q3,hm⟩:=Aa hm;refine gc (fun _=>LD q3) ?_;obtain⟨x4,q4,hm⟩:=Aa hm;refine gc (fun _=>Pv q4) ?_;have e0:=Option.some.inj hm;subst e0;exact Aq hd
def F7 (a0:UInt64)(a1:UInt64):Option UInt64:=Ac (Bo 2305843009213691579 a0 a1) fun x1=>some x1
theorem R9 {a0:UInt64}{a1:UInt64}{r:UInt64}(hm:F7 a0 a1=some r):Sf prog 64 [.d (.u a0),.d (.u a1)] (.d (.u r)):=
 sp call64 func64 rfl ntmps64 rfl fun D0 As η0 m0 hd=>by
  unfold F7 at hm;obtain⟨x1,q1,hm⟩:=Aa hm;refine gc (fun _=>I7 q1) ?_;have e0:=Option.some.inj hm;subst e0;exact Aq hd
def CX (a0:UInt64):Option UInt64:=Ac (C5 4 a0) fun x1=>some x1
theorem Ju {a0:UInt64}{r:UInt64}(hm:CX a0=some r):Sf prog 65 [.d (.u a0)] (.d (.u r)):=
 sp call65 func65 rfl ntmps65 rfl fun D0 As η0 m0 hd=>by
  unfold CX at hm;obtain⟨x1,q1,hm⟩:=Aa hm;refine gc (fun _=>Kc q1) ?_;have e0:=Option.some.inj hm;subst e0;exact Aq hd
def C1 (a0:UInt64)(a1:List UInt8)(a2:g_api_Sig):Option Int:=Ac (It a0) fun x1=>if(!x1)=true then some 1 else if(decide (((Oz a2.E a2.S).toNat:Int)≥1152921504606845789))=true then some 40 else Ac (C5 a0 a2.E) fun x2=>Ac (DI x2) fun x3=>Ac (gu (!(x3.2 !=0)) (CX a2.S)) fun x4=>Ac (gu (!(x3.2 !=0)) (F7 x4 x3.1)) fun x5=>Ac (gu (!(x3.2 !=0)) (Cn x5 a0 a1)) fun x6=>if((x3.2 !=0)||((x6.toNat:Int) !=(a2.E.toNat:Int)))=true then some 40 else some 0
theorem RO {a0:UInt64}{a1:List UInt8}{a2:g_api_Sig}{r:Int}(hm:C1 a0 a1 a2=some r):Sf prog 29 [.d (.u a0),sl eB a1,ag (Ix a2)] (.d (.i r)):=
 sp call29 func29 rfl ntmps29 rfl fun D0 As η0 m0 hd=>by
  unfold C1 at hm;obtain⟨x1,q1,hm⟩:=Aa hm;refine gc (fun _=>TC q1) ?_;refine gi hm (fun hc1 hm=> ?_) fun hc1 hm=> ?_
  ·skip;have e0:=Option.some.inj hm;subst e0;exact Aq hd
  refine gi hm (fun hc2 hm=> ?_) fun hc2 hm=> ?_
  ·skip;have e0:=Option.some.inj hm;subst e0;exact Aq hd
  obtain⟨x2,q2,hm⟩:=Aa hm;refine gc (fun _=>Kc q2) ?_;obtain⟨x3,q3,hm⟩:=Aa hm;refine gc (fun _=>Sa q3) ?_;obtain⟨x4,q4,hm⟩:=Aa hm;refine gcG (fun h=>Ju (En h q4)) ?_;obtain⟨x5,q5,hm⟩:=Aa hm;refine gcG (fun h=>R9 (En h q5)) ?_;obtain⟨x6,q6,hm⟩:=Aa hm;refine gcG (fun h=>JO (En h q6)) ?_;refine gi hm (fun hc3 hm=> ?_) fun hc3 hm=> ?_
  ·skip;have e0:=Option.some.inj hm;subst e0;exact Aq hd
  have e0:=Option.some.inj hm;subst e0;exact Aq hd
def DN (i1:Int)(x2:g_api_Cert)(s1:Unit):Option ((Unit)⊕Int):=Ac (D7 x2) fun x3=>if(x3 !=0)=true then some (.inr x3)else some (.inl ())
def CQ (a0:g_api_Cert)(a1:g_api_Cert):Option Int:=Ac (Fe DN ([a0,a1]:List g_api_Cert) 0 ()) fun x1=>match x1 with| .inr r=>some r| .inl y1=>if((!a1.Ca)||(!eqS a0.Issuer a1.Subject))=true then some 191 else Ac (Hj a0) fun x4=>Ac (C1 a1.Key x4.1 a0.Sig) fun x5=>if(x5 !=0)=true then some 40 else some 0
theorem G3 {a0:g_api_Cert}{a1:g_api_Cert}{r:Int}(hm:CQ a0 a1=some r):Sf prog 13 [ag (Ad a0),ag (Ad a1)] (.d (.i r)):=
 sp call13 func13 rfl ntmps13 rfl fun D0 As η0 m0 hd=>by
  unfold CQ at hm;refine Fc (k:=13) Ad ([a0,a1]:List g_api_Cert) (fun _=>rfl) ?_;obtain⟨x1,q1,hm⟩:=Aa hm;refine PU 0 (E:=Ad) (xs:=([a0,a1]:List g_api_Cert)) 12 fun hle1=> ?_;refine gjU 0 (fun(y1:Unit)=>⟨[(2,.pb 0 0),(3,.pb 1 0)],[(0,.box 1 [.d (.i a1.Serial),.d (.s a1.Issuer),.d (.s a1.Subject),.d (.u a1.Key),sl eS a1.Names,.d (.i a1.From),.d (.i a1.Until),.d (.t a1.Ca),.d (.i a1.Depth),sl eS a1.Permit,sl Ai a1.Proms,.d (.u a1.Sig.E),.d (.u a1.Sig.S)] 28),(1,.box 0 [.d (.i a0.Serial),.d (.s a0.Issuer),.d (.s a0.Subject),.d (.u a0.Key),sl eS a0.Names,.d (.i a0.From),.d (.i a0.Until),.d (.t a0.Ca),.d (.i a0.Depth),sl eS a0.Permit,sl Ai a0.Proms,.d (.u a0.Sig.E),.d (.u a0.Sig.S)] 28)],[],2⟩) (fun y1=>x1= .inl y1) (fun Jp bk1=> ?_) fun y1 hy=> ?_
  ·refine gl hd (fun(p:Int×(Unit))=>let (p0,_):=p; ⟨[(2,.pb 0 0),(3,.pb 1 0),(12,sl Ad ([a0,a1]:List g_api_Cert)),(13,.d (.i (([a0,a1]:List g_api_Cert).length:Int))),(14,.d (.i p0))],[(0,.box 1 [.d (.i a1.Serial),.d (.s a1.Issuer),.d (.s a1.Subject),.d (.u a1.Key),sl eS a1.Names,.d (.i a1.From),.d (.i a1.Until),.d (.t a1.Ca),.d (.i a1.Depth),sl eS a1.Permit,sl Ai a1.Proms,.d (.u a1.Sig.E),.d (.u a1.Sig.S)] 28),(1,.box 0 [.d (.i a0.Serial),.d (.s a0.Issuer),.d (.s a0.Subject),.d (.u a0.Key),sl eS a0.Names,.d (.i a0.From),.d (.i a0.Until),.d (.t a0.Ca),.d (.i a0.Depth),sl eS a0.Permit,sl Ai a0.Proms,.d (.u a0.Sig.E),.d (.u a0.Sig.S)] 28)],[],2⟩) (fun p=> ∃i:Nat,p.1=(i:Int)∧i≤([a0,a1]:List g_api_Cert).length∧Fe DN (([a0,a1]:List g_api_Cert).drop i) (i:Int) p.2=some x1) (fun p=>([a0,a1]:List g_api_Cert).length-p.1.toNat) (0,()) ⟨0,rfl,Nat.zero_le _,q1⟩ ?_;rintro⟨_,s1⟩ ⟨i1,rfl,hi,q2⟩ Jl bl1;refine gi' (b:=decide ((i1:Int)<(([a0,a1]:List g_api_Cert).length:Int))) (fun hc2=> ?_) fun hc2=> ?_
   ·have hlt1:i1<([a0,a1]:List g_api_Cert).length:=by have:=of_decide_eq_true hc2; omega
    obtain⟨x2,y2,q5,q4,q3⟩:=IN q2 hlt1;unfold DN at q4;refine Ga (k:=13) (E:=Ad) (fun _=>rfl) (fun _=>q5) ?_;obtain⟨x3,q6,q4⟩:=Aa q4;refine gc (fun _=>J3 q6) ?_;refine gi q4 (fun hc1 q4=> ?_) fun hc1 q4=> ?_
    ·skip;cases q4;rcases q3 with ⟨sn,e,_⟩|⟨tn,e,e2⟩
     ·cases e
     cases e;cases e2;dsimp only at hm;have e0:=Option.some.inj hm;subst e0;exact Aq hd
    have e0:=Option.some.inj q4;subst e0;rcases q3 with ⟨sn,e,q3'⟩|⟨tn,e,_⟩
    ·have e:=Sum.inl.inj e;subst e;exact gb bl1 hd (w64 ((i1:Int)+1),_) ⟨⟨i1+1,Bx hlt1 hle1,by omega,q3'⟩,IC hlt1 hle1⟩
    cases AM e
   have hlt1: ¬i1<([a0,a1]:List g_api_Cert).length:=by have:=of_decide_eq_false hc2; omega
   have e:=Hy q2 hlt1;cases e;exact gb bk1 hd _ rfl
  subst hy;dsimp only at hm;refine gi hm (fun hc3 hm=> ?_) fun hc3 hm=> ?_
  ·skip;have e0:=Option.some.inj hm;subst e0;exact Aq hd
  obtain⟨x4,q7,hm⟩:=Aa hm;refine gco (N8 q7) ?_;obtain⟨x5,q8,hm⟩:=Aa hm;refine gco (RO q8) ?_;refine gi hm (fun hc4 hm=> ?_) fun hc4 hm=> ?_
  ·skip;have e0:=Option.some.inj hm;subst e0;exact Aq hd
  have e0:=Option.some.inj hm;subst e0;exact Aq hd
def DD (a0:g_path_trip):Option Int:=if((((((a0.chain_.length:Int)==0)||(decide ((a0.chain_.length:Int)>4)))||(decide ((a0.roots_.length:Int)>16)))||(decide (a0.now_<0)))||(decide (a0.now_>1099511627776)))=true then some 1 else Ac (CB a0.name_) fun x1=>some x1
theorem LA {a0:g_path_trip}{r:Int}(hm:DD a0=some r):Sf prog 34 [ag (Er a0)] (.d (.i r)):=
 sp call34 func34 rfl ntmps34 rfl fun D0 As η0 m0 hd=>by
  unfold DD at hm;refine gi hm (fun hc1 hm=> ?_) fun hc1 hm=> ?_
  ·skip;have e0:=Option.some.inj hm;subst e0;exact Aq hd
  obtain⟨x1,q1,hm⟩:=Aa hm;refine gc (fun _=>LB q1) ?_;have e0:=Option.some.inj hm;subst e0;exact Aq hd
def A1 (a1:Int):Option (List g_api_Cert):=Ac (if(decide (a1<0))=true then none else some ()) fun x1=>Ac (bnd ((w64 (a1-(w64 (0-((0:Nat):Int)))))) fun x3=>if(decide (x3>0))=true then if 0≤x3∧x3*168≤140737488355328∧x3≤140737488355328 then some ([]:List g_api_Cert)else none else some ([]:List g_api_Cert)) fun x2=>some x2
theorem FM {m:Mem}{As:List Ow}{w:World}{a1:Int}{r:List g_api_Cert}(S:St m (As) w)(hm:A1 a1=some r):
  AB Tryz.prog 129 #[.slice none 0 0,vI a1] w fun v w'=> ∃(M:Mem),m≤M∧∃(rv0:Value) (rc0:List Value),St M ((row 13 rv0 rc0 r.length)::As) w'∧v=rv0∧BK M rc0 r:=by
 unfold A1 at hm;have L0:=Mem.rfl' m;refine C9 (args:=[.slice none 0 0,vI a1]) Tryz.func129 rfl Tryz.ntmps129 (Nat.le_of_ble_eq_true rfl) ?_;refine Ag ?_;refine Ae ?_;refine A4 (v:= .slice none 0 0) rfl ?_;refine Ah ?_;refine nrm ?_;obtain⟨x1,q1,hm⟩:=Aa hm;have L1:=Mem.rfl' m;refine Ag ?_;refine A8 [5,6,7] (fun f' w'=> ∃(M1:Mem),m≤M1∧St M1 (As) w'∧Cl f' []) ?_ ?_
 ·refine Ag ?_;refine Ae ?_;refine Ar (v:=vI a1) rfl ?_;refine KO (m:=a1) (n:=0) rfl rfl ?_;refine Ah ?_;refine nrm ?_;refine Cz (t:=(decide (a1<0))) rfl (fun hc1=> ?_) (fun hc1=> ?_)
  ·replace q1:=ifT hc1 q1;cases q1
  replace q1:=ifF hc1 q1;refine A6 ?_;refine nrm ?_;have e0:=Option.some.inj q1;subst e0;exact⟨FI,m,L1,S,trivial⟩
 rintro f1 w1 ho ⟨m1,l1,S1,ha⟩;obtain⟨u1,rfl⟩:=B3 (N:=27) ho ha;replace L0:=Mem.tr L0 l1;clear S;obtain⟨x2,q2,hm⟩:=Aa hm;have L2:=Mem.rfl' m1;refine Ag ?_;refine A8 [0,1,8,9,10,11,12,13,14,15,16,17,18,19,20,21,22,23,24,25] (fun f' w'=> ∃(M2:Mem) (v1:Value) (c1:List Value),m1≤M2∧St M2 ((row 13 v1 c1 x2.length)::As) w'∧BK M2 c1 x2∧Cl f' [(0,v1)]) ?_ ?_
 ·refine Ag ?_;refine Ae ?_;refine Ar (v:=vI a1) rfl ?_;refine Ar (v:= .slice none 0 0) rfl ?_;refine UO rfl Tryz.underlying31 ?_;refine Ar (v:= .slice none 0 0) rfl ?_;refine VU (n:=0) rfl Tryz.underlying31 ?_;refine M6 (m:=0) (n:=((0:Nat):Int)) rfl rfl ?_;refine M6 (m:=a1) (n:=(w64 (0-((0:Nat):Int)))) rfl rfl ?_;obtain⟨x3,q3,q2⟩:=CU q2;refine A4 (v:=vI x3) (congrArg (fun z=>vI z) q3.symm) ?_;refine Ah ?_;refine nrm ?_;refine Ag ?_;refine Ae ?_;refine Ar (v:=vI x3) rfl ?_;refine VW (m:=x3) (n:=0) rfl rfl ?_;refine Ah ?_;refine nrm ?_;refine Cz (t:=(decide (x3>0))) rfl (fun hc2=> ?_) (fun hc2=> ?_)
  ·replace q2:=ifT hc2 q2;refine Ae ?_;refine Ar (v:= .slice none 0 0) rfl ?_;refine Ar (v:= .slice none 0 0) rfl ?_;refine UO rfl Tryz.underlying31 ?_;refine s_cutN rfl Tryz.underlying31 Tryz.sizeOf28 rfl ?_;refine Ar (v:=vI x3) rfl ?_;obtain⟨q4,q2⟩:=Ck q2;refine s_appN (bytes:=168) (sz:=13) (k:=x3) (ti:=Tryz.t28) S1 rfl rfl q4 Tryz.underlying31 Tryz.underlying3 Tryz.type28 rfl rfl rfl rfl ?_;intro v2 c2 w2 S2;replace S2:St _ ((row 13 v2 c2 x3.toNat)::As) _:=S2;clear S1;refine Ar (v:= .slice none 0 0) rfl ?_;refine VU (n:=0) rfl Tryz.underlying31 ?_;refine s_cutO (i:=0) S2 rfl rfl Tryz.underlying31 Tryz.sizeOf28 rfl (j:=0) rfl (Int.le_refl 0) (Int.natCast_nonneg _) ?_;intro v3 S3;rw[show c2.take ((0:Int).toNat*13)=[]from by simp]at S3;have h2:BK m1 [] ([]:List g_api_Cert):=BK.nil;replace S3:St _ ((row 13 v3 [] ([]:List g_api_Cert).length)::As) _:=S3;clear S2;refine A4 (v:=v3) rfl ?_;refine Ah ?_;refine nrm ?_;have e0:=Option.some.inj q2;subst e0;exact⟨FI,m1,_,_,L2,S3,h2,⟨rfl,trivial⟩⟩
  replace q2:=ifF hc2 q2;refine A6 ?_;refine nrm ?_;have S4:=St.rowNil S1 13;have h3:BK m1 [] ([]:List g_api_Cert):=BK.nil;replace S4:St _ ((row 13 (.slice none 0 0) [] ([]:List g_api_Cert).length)::As) _:=S4;clear S1;have e0:=Option.some.inj q2;subst e0;exact⟨FI,m1,_,_,L2,S4,h3,⟨rfl,trivial⟩⟩
 rintro f2 w3 ho ⟨m2,v1,c1,l2,S5,h1,ha⟩;obtain⟨u2,rfl⟩:=B3 (N:=27) ho ha;replace L0:=Mem.tr L0 l2;clear S1;refine Ag ?_;refine Ae ?_;refine Ar (v:=v1) rfl ?_;refine A4 (v:=v1) rfl ?_;refine Ah ?_;refine nrm ?_;refine Bw ?_;refine EE ?_;intro we hpd;replace S5:=St.pd S5 hpd;have e0:=Option.some.inj hm;subst e0;exact IW [_] rfl ⟨rfl,trivial⟩ ⟨_,L0,_,_,S5,rfl,h1⟩
def Aw (i1:Int)(x3:List g_api_Cert)(s1:Int):Option (Int):=Ac (bnd ((w64 (s1+(x3.length:Int)))) fun x5=>if(decide (x5<0))=true then none else some x5) fun x4=>some x4
def AE (i2:Int)(x9:List g_api_Cert)(s2:(List g_api_Cert)):Option ((List g_api_Cert)):=Ac (app 168 s2 x9) fun x10=>some x10
def AQ (a0:List (List g_api_Cert)):Option (List g_api_Cert):=Ac (Ac (GM Aw a0 0 0) fun x2=>some x2) fun x1=>Ac (A1 x1) fun x6=>Ac (Ac (GM AE a0 0 x6) fun x8=>some x8) fun x7=>some x7
theorem Ge {m:Mem}{As:List Ow}{w:World}{a0:List (List g_api_Cert)}{a0v0:Value}{r:List g_api_Cert}(S:St m (As) w)(a0h0:SlR m a0v0 a0)(hm:AQ a0=some r):
  AB Tryz.prog 76 #[a0v0] w fun v w'=> ∃(M:Mem),m≤M∧∃(rv0:Value) (rc0:List Value),St M ((row 13 rv0 rc0 r.length)::As) w'∧v=rv0∧BK M rc0 r:=by
 unfold AQ at hm;have L0:=Mem.rfl' m;refine C9 (args:=[a0v0]) Tryz.func76 rfl Tryz.ntmps76 (Nat.le_of_ble_eq_true rfl) ?_;refine Ag ?_;refine Ae ?_;refine A4 (v:= .slice none 0 0) rfl ?_;refine Ah ?_;refine nrm ?_;refine Ag ?_;refine Ae ?_;refine A4 (v:=vI 0) rfl ?_;refine Ah ?_;refine nrm ?_;obtain⟨x1,q1,hm⟩:=Aa hm;have L1:=Mem.rfl' m;refine Ag ?_;refine A8 [3,5,9,10,11,12,13,14,15,16,17,18,19,20,21,22] (fun f' w'=> ∃(M1:Mem),m≤M1∧St M1 (As) w'∧Cl f' [(3,vI x1)]) ?_ ?_
 ·refine Ag ?_;refine Ae ?_;refine Ar (v:=a0v0) rfl ?_;refine Kb (xs:=a0) rfl a0h0 Tryz.underlying43 ?_;refine Ar (v:=vI 0) rfl ?_;refine Ah ?_;refine nrm ?_;obtain⟨x2,q2,q1⟩:=Aa q1;have L2:=Mem.rfl' m;refine A8 [3,5,11,12,13,14,15,16,17,18,19,20,21,22] (fun f' w'=> ∃(M2:Mem),m≤M2∧St M2 (As) w'∧Cl f' [(3,vI x2)]) ?_ ?_
  ·refine Az ?_;refine B4 [3,5,11,12,13,14,15,16,17,18,19,20,21,22] (fun n1 f' w'=> ∃(i1:Nat) (s1:Int) (m3:Mem),n1=a0.length-i1∧i1≤a0.length∧GM Aw (a0.drop i1) (i1:Int) s1=some x2∧m≤m3∧St m3 (As) w'∧Cl f' [(11,vI (i1:Int)),(3,vI s1)]) a0.length ⟨0,0,m,rfl,Nat.zero_le _,q2,L2,S,⟨rfl,rfl,trivial⟩⟩ ?_;rintro n1 f1 w1 ho ⟨i1,s1,m1,hn,hi,q3,L4,S1,ha⟩;obtain⟨u1,rfl⟩:=B3 (N:=36) ho ha;clear ho ha;replace a0h0:=a0h0.up L4;have L3:=Mem.rfl' m1;clear S;refine Ag ?_;refine Ae ?_;refine KO (m:=(i1:Int)) (n:=(a0.length:Int)) rfl rfl ?_;refine Ah ?_;refine nrm ?_;refine Ag ?_;refine Cz (t:=decide ((i1:Int)<(a0.length:Int))) rfl (fun hc2=> ?_) (fun hc2=> ?_)
   ·have hlt1:i1<a0.length:=by have:=of_decide_eq_true hc2; omega
    obtain⟨x3,y1,q6,q5,q4⟩:=KI q3 hlt1;unfold Aw at q5;refine A6 ?_;refine nrm ?_;obtain⟨x4,q7,q5⟩:=Aa q5;have L5:=Mem.rfl' m1;refine Ag ?_;refine A8 [3,5,13,14,15,16,17,18,19,20,21] (fun f' w'=> ∃(M3:Mem),m1≤M3∧St M3 (As) w'∧Cl f' [(3,vI x4)]) ?_ ?_
    ·refine Az ?_;refine Ag ?_;refine Ae ?_;refine W5 (q:=x3) rfl rfl a0h0 q6 Tryz.underlying43 Tryz.sizeOf31 ?_;intro p1 c1 h1 r1;obtain⟨v1,rfl,h2⟩:=r1;refine W3 (cs:=[v1]) S1 rfl h1 rfl Tryz.isAgg31 Tryz.sizeOf31 (fun _=>rfl) ?_;refine A4 (v:=v1) rfl ?_;refine Ah ?_;refine nrm ?_;refine Ag ?_;refine Ae ?_;refine Ar (v:=vI s1) rfl ?_;refine Ar (v:=v1) rfl ?_;refine Kb (xs:=x3) rfl h2 Tryz.underlying31 ?_;refine FA (m:=s1) (n:=(x3.length:Int)) rfl rfl ?_;obtain⟨x5,q8,q7⟩:=CU q7;refine A4 (v:=vI x5) (congrArg (fun z=>vI z) q8.symm) ?_;refine Ah ?_;refine nrm ?_;refine Ag ?_;refine Ae ?_;refine Ar (v:=vI x5) rfl ?_;refine KO (m:=x5) (n:=0) rfl rfl ?_;refine Ah ?_;refine nrm ?_;refine Cz (t:=(decide (x5<0))) rfl (fun hc1=> ?_) (fun hc1=> ?_)
     ·replace q7:=ifT hc1 q7;cases q7
     replace q7:=ifF hc1 q7;refine A6 ?_;refine MF ?_;refine nrm ?_;have e0:=Option.some.inj q7;subst e0;exact⟨FI,m1,L5,S1,⟨rfl,trivial⟩⟩
    rintro f2 w2 ho ⟨m2,l1,S2,ha⟩;obtain⟨u2,rfl⟩:=B3 (N:=36) ho ha;replace a0h0:=a0h0.up l1;replace L3:=Mem.tr L3 l1;clear S1;refine Ae ?_;refine FA (m:=(i1:Int)) (n:=1) rfl rfl ?_;refine Ar (v:=vI (w64 ((i1:Int)+1))) rfl ?_;refine Ah ?_;refine nrm ?_;have e0:=Option.some.inj q5;subst e0;exact⟨FI,_,(by omega),⟨i1+1,x4,m2,rfl,hlt1,q4,Mem.tr L4 L3,S2,⟨congrArg (Value.int .i64) (Bx hlt1 (SlR.le a0h0)),rfl,trivial⟩⟩⟩
   have hlt1: ¬i1<a0.length:=by have:=of_decide_eq_false hc2; omega
   have e:=Eq.symm (Jn q3 hlt1);subst e;refine CV ?_;refine thE ?_;refine thE ?_;refine exB ?_;refine nrm ?_;exact⟨FI,m1,Mem.tr L4 L3,S1,⟨rfl,trivial⟩⟩
  rintro f3 w3 ho ⟨m4,l2,S3,ha⟩;obtain⟨u3,rfl⟩:=B3 (N:=36) ho ha;clear ho ha;replace a0h0:=a0h0.up l2;replace L1:=Mem.tr L1 l2;clear S;have e0:=Option.some.inj q1;subst e0;exact⟨FI,m4,L1,S3,⟨rfl,trivial⟩⟩
 rintro f4 w4 ho ⟨m5,l3,S4,ha⟩;obtain⟨u4,rfl⟩:=B3 (N:=36) ho ha;replace a0h0:=a0h0.up l3;replace L0:=Mem.tr L0 l3;clear S;refine Ag ?_;refine Ae ?_;refine Ar (v:=vI x1) rfl ?_;obtain⟨x6,q9,hm⟩:=Aa hm;refine CJ Tryz.call129 (FM (a1:=x1) S4 q9) rfl ?_;rintro v2 w5 ⟨m6,l4,_,c2,S5,rfl,h3⟩;replace a0h0:=a0h0.up l4;replace L0:=Mem.tr L0 l4;clear S4;replace S5:St _ ((row 13 v2 c2 x6.length)::As) _:=S5;refine A4 (v:=v2) rfl ?_;refine Ah ?_;refine nrm ?_;obtain⟨x7,q10,hm⟩:=Aa hm;have L6:=Mem.rfl' m6;refine Ag ?_;refine A8 [6,8,25,26,27,28,29,30,31,32,33,34] (fun f' w'=> ∃(M4:Mem) (v3:Value) (c3:List Value),m6≤M4∧St M4 ((row 13 v3 c3 x7.length)::As) w'∧BK M4 c3 x7∧Cl f' [(6,v3)]) ?_ ?_
 ·refine Ag ?_;refine Ae ?_;refine Ar (v:=a0v0) rfl ?_;refine Kb (xs:=a0) rfl a0h0 Tryz.underlying43 ?_;refine Ar (v:=vI 0) rfl ?_;refine Ah ?_;refine nrm ?_;obtain⟨x8,q11,q10⟩:=Aa q10;have L7:=Mem.rfl' m6;refine A8 [6,8,27,28,29,30,31,32,33,34] (fun f' w'=> ∃(M5:Mem) (v5:Value) (c5:List Value),m6≤M5∧St M5 ((row 13 v5 c5 x8.length)::As) w'∧BK M5 c5 x8∧Cl f' [(6,v5)]) ?_ ?_
  ·refine Az ?_;refine B4 [6,8,27,28,29,30,31,32,33,34] (fun n2 f' w'=> ∃(i2:Nat) (s2:(List g_api_Cert)) (m8:Mem) (v4:Value) (c4:List Value),n2=a0.length-i2∧i2≤a0.length∧GM AE (a0.drop i2) (i2:Int) s2=some x8∧m6≤m8∧St m8 ((row 13 v4 c4 s2.length)::As) w'∧BK m8 c4 s2∧Cl f' [(27,vI (i2:Int)),(6,v4)]) a0.length ⟨0,x6,m6,_,_,rfl,Nat.zero_le _,q11,L7,S5,h3,⟨rfl,rfl,trivial⟩⟩ ?_;rintro n2 f5 w6 ho ⟨i2,s2,m7,v4,c4,hn,hi,q12,L9,S6,h5,ha⟩;obtain⟨u5,rfl⟩:=B3 (N:=36) ho ha;clear ho ha;replace a0h0:=a0h0.up L9;have L8:=Mem.rfl' m7;clear S5;refine Ag ?_;refine Ae ?_;refine KO (m:=(i2:Int)) (n:=(a0.length:Int)) rfl rfl ?_;refine Ah ?_;refine nrm ?_;refine Ag ?_;refine Cz (t:=decide ((i2:Int)<(a0.length:Int))) rfl (fun hc3=> ?_) (fun hc3=> ?_)
   ·have hlt2:i2<a0.length:=by have:=of_decide_eq_true hc3; omega
    obtain⟨x9,y2,q15,q14,q13⟩:=KI q12 hlt2;unfold AE at q14;refine A6 ?_;refine nrm ?_;refine Ag ?_;refine Az ?_;refine Ag ?_;refine Ae ?_;refine W5 (q:=x9) rfl rfl a0h0 q15 Tryz.underlying43 Tryz.sizeOf31 ?_;intro p2 c6 h7 r6;obtain⟨v6,rfl,h8⟩:=r6;refine W3 (cs:=[v6]) S6 rfl h7 rfl Tryz.isAgg31 Tryz.sizeOf31 (fun _=>rfl) ?_;refine A4 (v:=v6) rfl ?_;refine Ah ?_;refine nrm ?_;refine Ae ?_;refine Ar (v:=v4) rfl ?_;refine Ar (v:=v6) rfl ?_;obtain⟨x10,q16,q14⟩:=Aa q14;refine TQ (i:=0) (zs:=x10) (bytes:=168) (ti:=Tryz.t28) S6 rfl rfl h5 rfl rfl h8 q16 Tryz.underlying31 Tryz.type28 rfl rfl rfl rfl ?_;intro v7 c7 w7 S7 h9;replace S7:St _ ((row 13 v7 c7 x10.length)::As) _:=S7;clear S6;refine A4 (v:=v7) rfl ?_;refine Ah ?_;refine MF ?_;refine nrm ?_;refine Ae ?_;refine FA (m:=(i2:Int)) (n:=1) rfl rfl ?_;refine Ar (v:=vI (w64 ((i2:Int)+1))) rfl ?_;refine Ah ?_;refine nrm ?_;have e0:=Option.some.inj q14;subst e0;exact⟨FI,_,(by omega),⟨i2+1,x10,m7,_,_,rfl,hlt2,q13,Mem.tr L9 L8,S7,h9,⟨congrArg (Value.int .i64) (Bx hlt2 (SlR.le a0h0)),rfl,trivial⟩⟩⟩
   have hlt2: ¬i2<a0.length:=by have:=of_decide_eq_false hc3; omega
   have e:=Eq.symm (Jn q12 hlt2);subst e;refine CV ?_;refine thE ?_;refine thE ?_;refine exB ?_;refine nrm ?_;exact⟨FI,m7,_,_,Mem.tr L9 L8,S6,h5,⟨rfl,trivial⟩⟩
  rintro f6 w8 ho ⟨m9,v5,c5,l5,S8,h6,ha⟩;obtain⟨u6,rfl⟩:=B3 (N:=36) ho ha;clear ho ha;replace L6:=Mem.tr L6 l5;clear S5;have e0:=Option.some.inj q10;subst e0;exact⟨FI,m9,_,_,L6,S8,h6,⟨rfl,trivial⟩⟩
 rintro f7 w9 ho ⟨m10,v3,c3,l6,S9,h4,ha⟩;obtain⟨u7,rfl⟩:=B3 (N:=36) ho ha;replace L0:=Mem.tr L0 l6;clear S5;refine Ag ?_;refine Ae ?_;refine Ar (v:=v3) rfl ?_;refine A4 (v:=v3) rfl ?_;refine Ah ?_;refine nrm ?_;refine Bw ?_;refine EE ?_;intro we hpd;replace S9:=St.pd S9 hpd;have e0:=Option.some.inj hm;subst e0;exact IW [_] rfl ⟨rfl,trivial⟩ ⟨_,L0,_,_,S9,rfl,h4⟩
theorem Gg {a0:List (List g_api_Cert)}{r:List g_api_Cert}(hm:AQ a0=some r):Sp prog 76 [sl (eL Ad) a0] [] 0 (is (.ow 0) [.row 0 13 _ Ad r] 1):=
 ⟨call76,fun η m As w vs hv0 hd S=>by
  have S:St m As w:=S;obtain⟨v0,u0,rfl,r0,hv1⟩:=BB.cons_inv hv0;have f0:=Br.ofS (Br.sl HY) r0.dd;obtain rfl:=BB.nil_inv hv1;refine AB.mono (Ge S f0 hm) ?_;rintro v w' ⟨M,hle,y0,c0,S0,rfl,h0⟩;exact⟨M,(AaZ [v]),_,_,_,hle,Un hd _,⟨rfl,rfl,rfl⟩,JL rfl,(.ow rfl (EC S0)),(St.impL S0 (AbA (Br.toR HY rfl rfl (EC S0) h0) fun _ h=>h))⟩⟩
def Cw (i1:Int)(x3:g_api_Cert)(s1:Unit):Option ((Unit)⊕Int):=Ac (D7 x3) fun x4=>if(x4 !=0)=true then some (.inr x4)else some (.inl ())
def Eu (a0:g_path_trip):Option Int:=Ac (AQ ([a0.chain_,a0.roots_]:List (List g_api_Cert))) fun x1=>Ac (Fe Cw x1 0 ()) fun x2=>match x2 with| .inr r=>some r| .inl y1=>some 0
theorem Nl {a0:g_path_trip}{r:Int}(hm:Eu a0=some r):Sf prog 35 [ag (Er a0)] (.d (.i r)):=
 sp call35 func35 rfl ntmps35 rfl fun D0 As η0 m0 hd=>by
  unfold Eu at hm;refine Fc (k:=1) (eL Ad) ([a0.chain_,a0.roots_]:List (List g_api_Cert)) (fun _=>rfl) ?_;obtain⟨x1,q1,hm⟩:=Aa hm;refine gco (Gg q1) ?_;obtain⟨x2,q2,hm⟩:=Aa hm;refine PU 0 (E:=Ad) (xs:=x1) 11 fun hle1=> ?_;refine gjU 0 (fun(y1:Unit)=>⟨[(1,.pb 0 0)],[(0,.box 0 [sl Ad a0.roots_,sl Ad a0.chain_,.d (.s a0.name_),.d (.i a0.now_)] 57)],[],1⟩) (fun y1=>x2= .inl y1) (fun Jp bk1=> ?_) fun y1 hy=> ?_
  ·refine gl hd (fun(p:Int×(Unit))=>let (p0,_):=p; ⟨[(11,sl Ad x1),(12,.d (.i (x1.length:Int))),(13,.d (.i p0)),(1,.pb 0 0)],[(0,.box 0 [sl Ad a0.roots_,sl Ad a0.chain_,.d (.s a0.name_),.d (.i a0.now_)] 57)],[],1⟩) (fun p=> ∃i:Nat,p.1=(i:Int)∧i≤x1.length∧Fe Cw (x1.drop i) (i:Int) p.2=some x2) (fun p=>x1.length-p.1.toNat) (0,()) ⟨0,rfl,Nat.zero_le _,q2⟩ ?_;rintro⟨_,s1⟩ ⟨i1,rfl,hi,q3⟩ Jl bl1;refine gi' (b:=decide ((i1:Int)<(x1.length:Int))) (fun hc2=> ?_) fun hc2=> ?_
   ·have hlt1:i1<x1.length:=by have:=of_decide_eq_true hc2; omega
    obtain⟨x3,y2,q6,q5,q4⟩:=IN q3 hlt1;unfold Cw at q5;refine Ga (k:=13) (E:=Ad) (fun _=>rfl) (fun _=>q6) ?_;obtain⟨x4,q7,q5⟩:=Aa q5;refine gc (fun _=>J3 q7) ?_;refine gi q5 (fun hc1 q5=> ?_) fun hc1 q5=> ?_
    ·skip;cases q5;rcases q4 with ⟨sn,e,_⟩|⟨tn,e,e2⟩
     ·cases e
     cases e;cases e2;dsimp only at hm;have e0:=Option.some.inj hm;subst e0;exact Aq hd
    have e0:=Option.some.inj q5;subst e0;rcases q4 with ⟨sn,e,q4'⟩|⟨tn,e,_⟩
    ·have e:=Sum.inl.inj e;subst e;exact gb bl1 hd (w64 ((i1:Int)+1),_) ⟨⟨i1+1,Bx hlt1 hle1,by omega,q4'⟩,IC hlt1 hle1⟩
    cases AM e
   have hlt1: ¬i1<x1.length:=by have:=of_decide_eq_false hc2; omega
   have e:=Hy q3 hlt1;cases e;exact gb bk1 hd _ rfl
  subst hy;dsimp only at hm;have e0:=Option.some.inj hm;subst e0;exact Aq hd
def DC (a0:g_path_trip)(a1:g_api_Cert):Option Bool:=bnd (((decide (a1.From≤a0.now_))&&(decide (a1.Until>a0.now_)))) fun x1=>some x1
theorem IE {a0:g_path_trip}{a1:g_api_Cert}{r:Bool}(hm:DC a0 a1=some r):Sf prog 77 [ag (Er a0),ag (Ad a1)] (.d (.t r)):=
 sp call77 func77 rfl ntmps77 rfl fun D0 As η0 m0 hd=>by
  unfold DC at hm;have hm:=AO hm;let x1:Bool:=(((decide (a1.From≤a0.now_))&&(decide (a1.Until>a0.now_))));have e0:=Option.some.inj hm;subst e0;exact Aq hd
def A0 (a0:List ByteArray)(a1:ByteArray)(i1:Int)(s1:Unit):Option ((Unit)⊕Int):=Ac (idx a0 (i1:Int)) fun x3=>if(eqS a1 x3)=true then some (.inr (i1:Int))else some (.inl ())
def Ce (a0:List ByteArray)(a1:ByteArray):Option Int:=Ac (Ep (A0 a0 a1) a0.length 0 ()) fun x1=>match x1 with| .inr r=>some r| .inl y1=>some (-1)
theorem HG {a0:List ByteArray}{a1:ByteArray}{r:Int}(hm:Ce a0 a1=some r):Sf prog 130 [sl eS a0,.d (.s a1)] (.d (.i r)):=
 sp call130 func130 rfl ntmps130 rfl fun D0 As η0 m0 hd=>by
  unfold Ce at hm;obtain⟨x1,q1,hm⟩:=Aa hm;refine PU 0 (E:=eS) (xs:=a0) 6 fun hle1=> ?_;refine gjU 0 (fun(y1:Unit)=>⟨[],[],[],0⟩) (fun y1=>x1= .inl y1) (fun Jp bk1=> ?_) fun y1 hy=> ?_
  ·refine gl hd (fun(p:Int×(Unit))=>let (p0,_):=p; ⟨[(0,sl eS a0),(1,.d (.s a1)),(7,.d (.i (a0.length:Int))),(8,.d (.i p0))],[],[],0⟩) (fun p=> ∃i:Nat,p.1=(i:Int)∧i≤a0.length∧Ep (A0 a0 a1) (a0.length-i) (i:Int) p.2=some x1) (fun p=>a0.length-p.1.toNat) (0,()) ⟨0,rfl,Nat.zero_le _,q1⟩ ?_;rintro⟨_,s1⟩ ⟨i1,rfl,hi,q2⟩ Jl bl1;refine gi' (b:=decide ((i1:Int)<(a0.length:Int))) (fun hc2=> ?_) fun hc2=> ?_
   ·have hlt1:i1<a0.length:=by have:=of_decide_eq_true hc2; omega
    obtain⟨y2,q4,q3⟩:=HS q2 hlt1;unfold A0 at q4;obtain⟨x3,q6,q4⟩:=Aa q4;refine Ga (k:=1) (E:=eS) (fun _=>rfl) (fun _=>q6) ?_;refine gi q4 (fun hc1 q4=> ?_) fun hc1 q4=> ?_
    ·skip;cases q4;rcases q3 with ⟨sn,e,_⟩|⟨tn,e,e2⟩
     ·cases e
     cases e;cases e2;dsimp only at hm;have e0:=Option.some.inj hm;subst e0;exact Aq hd
    have e0:=Option.some.inj q4;subst e0;rcases q3 with ⟨sn,e,q3'⟩|⟨tn,e,_⟩
    ·have e:=Sum.inl.inj e;subst e;exact gb bl1 hd (w64 ((i1:Int)+1),_) ⟨⟨i1+1,Bx hlt1 hle1,by omega,q3'⟩,IC hlt1 hle1⟩
    cases AM e
   have hlt1: ¬i1<a0.length:=by have:=of_decide_eq_false hc2; omega
   have e:=GL q2 hlt1;cases e;exact gb bk1 hd _ rfl
  subst hy;dsimp only at hm;have e0:=Option.some.inj hm;subst e0;exact Aq hd
def Bl (a0:List ByteArray)(a1:ByteArray):Option Bool:=Ac (Ce a0 a1) fun x1=>some (decide (x1≥0))
theorem G2 {a0:List ByteArray}{a1:ByteArray}{r:Bool}(hm:Bl a0 a1=some r):Sf prog 78 [sl eS a0,.d (.s a1)] (.d (.t r)):=
 sp call78 func78 rfl ntmps78 rfl fun D0 As η0 m0 hd=>by
  unfold Bl at hm;obtain⟨x1,q1,hm⟩:=Aa hm;refine gc (fun _=>HG q1) ?_;have e0:=Option.some.inj hm;subst e0;exact Aq hd
def BI (a0:g_path_trip)(i1:Int)(s1:Bool):Option ((Bool)⊕Int):=Ac (idx a0.chain_ (i1:Int)) fun x3=>Ac (gu (!s1) (DC a0 x3)) fun x4=>if(x3.Ca==(decide ((i1:Int)>0)))=true then some (.inl (s1||(!x4)))else some (.inr 191)
def DX (a0:g_path_trip):Option Int:=Ac (Ep (BI a0) a0.chain_.length 0 false) fun x1=>match x1 with| .inr r=>some r| .inl y1=>Ac (idx a0.chain_ 0) fun x5=>Ac (Bl x5.Names a0.name_) fun x6=>if(!x6)=true then some 110 else if y1=true then some 190 else some 0
theorem Mp {a0:g_path_trip}{r:Int}(hm:DX a0=some r):Sf prog 36 [ag (Er a0)] (.d (.i r)):=
 sp call36 func36 rfl ntmps36 rfl fun D0 As η0 m0 hd=>by
  unfold DX at hm;obtain⟨x1,q1,hm⟩:=Aa hm;refine PU 0 (E:=Ad) (xs:=a0.chain_) 7 fun hle1=> ?_;refine gjU 0 (fun(y1:Bool)=>⟨[(1,.pb 0 0),(3,.d (.t y1))],[(0,.box 0 [sl Ad a0.roots_,sl Ad a0.chain_,.d (.s a0.name_),.d (.i a0.now_)] 57)],[],1⟩) (fun y1=>x1= .inl y1) (fun Jp bk1=> ?_) fun y1 hy=> ?_
  ·refine gl hd (fun(p:Int×(Bool))=>let (p0,p_0):=p; ⟨[(1,.pb 0 0),(3,.d (.t p_0)),(7,sl Ad a0.chain_),(8,.d (.i (a0.chain_.length:Int))),(9,.d (.i p0))],[(0,.box 0 [sl Ad a0.roots_,sl Ad a0.chain_,.d (.s a0.name_),.d (.i a0.now_)] 57)],[],1⟩) (fun p=> ∃i:Nat,p.1=(i:Int)∧i≤a0.chain_.length∧Ep (BI a0) (a0.chain_.length-i) (i:Int) p.2=some x1) (fun p=>a0.chain_.length-p.1.toNat) (0,false) ⟨0,rfl,Nat.zero_le _,q1⟩ ?_;rintro⟨_,s1⟩ ⟨i1,rfl,hi,q2⟩ Jl bl1;refine gi' (b:=decide ((i1:Int)<(a0.chain_.length:Int))) (fun hc2=> ?_) fun hc2=> ?_
   ·have hlt1:i1<a0.chain_.length:=by have:=of_decide_eq_true hc2; omega
    obtain⟨y2,q4,q3⟩:=HS q2 hlt1;unfold BI at q4;obtain⟨x3,q6,q4⟩:=Aa q4;refine Ga (k:=13) (E:=Ad) (fun _=>rfl) (fun _=>q6) ?_;obtain⟨x4,q7,q4⟩:=Aa q4;refine gcG (fun h=>IE (En h q7)) ?_;refine gi q4 (fun hc1 q4=> ?_) fun hc1 q4=> ?_
    ·skip;have e0:=Option.some.inj q4;subst e0;rcases q3 with ⟨sn,e,q3'⟩|⟨tn,e,_⟩
     ·have e:=Sum.inl.inj e;subst e;exact gb bl1 hd (w64 ((i1:Int)+1),_) ⟨⟨i1+1,Bx hlt1 hle1,by omega,q3'⟩,IC hlt1 hle1⟩
     cases AM e
    cases q4;rcases q3 with ⟨sn,e,_⟩|⟨tn,e,e2⟩
    ·cases e
    cases e;cases e2;dsimp only at hm;have e0:=Option.some.inj hm;subst e0;exact Aq hd
   have hlt1: ¬i1<a0.chain_.length:=by have:=of_decide_eq_false hc2; omega
   have e:=GL q2 hlt1;cases e;exact gb bk1 hd _ rfl
  subst hy;dsimp only at hm;obtain⟨x5,q8,hm⟩:=Aa hm;refine Ga (k:=13) (E:=Ad) (fun _=>rfl) (fun _=>q8) ?_;obtain⟨x6,q9,hm⟩:=Aa hm;refine gc (fun _=>G2 q9) ?_;refine gi hm (fun hc3 hm=> ?_) fun hc3 hm=> ?_
  ·skip;have e0:=Option.some.inj hm;subst e0;exact Aq hd
  refine gi hm (fun hc4 hm=> ?_) fun hc4 hm=> ?_
  ·skip;have e0:=Option.some.inj hm;subst e0;exact Aq hd
  have e0:=Option.some.inj hm;subst e0;exact Aq hd
def BH (a0:g_path_trip)(i1:Int)(s1:Unit):Option ((Unit)⊕Int):=Ac (idx a0.chain_ (i1:Int)) fun x3=>Ac (idx a0.chain_ (w64 ((i1:Int)+1))) fun x4=>Ac (CQ x3 x4) fun x5=>if(x5 !=0)=true then some (.inr x5)else some (.inl ())
def DW (a0:g_path_trip):Option Int:=Ac (Ep (BH a0) (Int.toNat (w64 ((a0.chain_.length:Int)-1))) 0 ()) fun x1=>match x1 with| .inr r=>some r| .inl y1=>some 0
theorem Mo {a0:g_path_trip}{r:Int}(hm:DW a0=some r):Sf prog 37 [ag (Er a0)] (.d (.i r)):=
 sp call37 func37 rfl ntmps37 rfl fun D0 As η0 m0 hd=>by
  unfold DW at hm;obtain⟨x1,q1,hm⟩:=Aa hm;refine gjU 0 (fun(y1:Unit)=>⟨[(1,.pb 0 0)],[(0,.box 0 [sl Ad a0.roots_,sl Ad a0.chain_,.d (.s a0.name_),.d (.i a0.now_)] 57)],[],1⟩) (fun y1=>x1= .inl y1) (fun Jp bk1=> ?_) fun y1 hy=> ?_
  ·refine gl hd (fun(p:Int×(Unit))=>let (p0,_):=p; ⟨[(1,.pb 0 0),(8,.d (.i (w64 ((a0.chain_.length:Int)-1)))),(9,.d (.i p0))],[(0,.box 0 [sl Ad a0.roots_,sl Ad a0.chain_,.d (.s a0.name_),.d (.i a0.now_)] 57)],[],1⟩) (fun p=> ∃i:Nat,p.1=(i:Int)∧i≤(Int.toNat (w64 ((a0.chain_.length:Int)-1)))∧Ep (BH a0) ((Int.toNat (w64 ((a0.chain_.length:Int)-1)))-i) (i:Int) p.2=some x1) (fun p=>(Int.toNat (w64 ((a0.chain_.length:Int)-1)))-p.1.toNat) (0,()) ⟨0,rfl,Nat.zero_le _,q1⟩ ?_;rintro⟨_,s1⟩ ⟨i1,rfl,hi,q2⟩ Jl bl1;refine gi' (b:=decide ((i1:Int)<(w64 ((a0.chain_.length:Int)-1)))) (fun hc2=> ?_) fun hc2=> ?_
   ·have hlt1:i1<(Int.toNat (w64 ((a0.chain_.length:Int)-1))):=by have:=of_decide_eq_true hc2; omega
    obtain⟨y2,q4,q3⟩:=HS q2 hlt1;unfold BH at q4;obtain⟨x3,q6,q4⟩:=Aa q4;refine Ga (k:=13) (E:=Ad) (fun _=>rfl) (fun _=>q6) ?_;obtain⟨x4,q7,q4⟩:=Aa q4;refine Ga (k:=13) (E:=Ad) (fun _=>rfl) (fun _=>q7) ?_;obtain⟨x5,q8,q4⟩:=Aa q4;refine gc (fun _=>G3 q8) ?_;refine gi q4 (fun hc1 q4=> ?_) fun hc1 q4=> ?_
    ·skip;cases q4;rcases q3 with ⟨sn,e,_⟩|⟨tn,e,e2⟩
     ·cases e
     cases e;cases e2;dsimp only at hm;have e0:=Option.some.inj hm;subst e0;exact Aq hd
    have e0:=Option.some.inj q4;subst e0;rcases q3 with ⟨sn,e,q3'⟩|⟨tn,e,_⟩
    ·have e:=Sum.inl.inj e;subst e;exact gb bl1 hd (w64 ((i1:Int)+1),_) ⟨⟨i1+1,Bx hlt1 (MX _),by omega,q3'⟩,IC hlt1 (MX _)⟩
    cases AM e
   have hlt1: ¬i1<(Int.toNat (w64 ((a0.chain_.length:Int)-1))):=by have:=of_decide_eq_false hc2; omega
   have e:=GL q2 hlt1;cases e;exact gb bk1 hd _ rfl
  subst hy;dsimp only at hm;have e0:=Option.some.inj hm;subst e0;exact Aq hd
def AX (a0:List g_api_Cert):Option (List g_api_Cert):=Ac (app 168 ([]:List g_api_Cert) a0) fun x1=>some x1
theorem GU {m:Mem}{As:List Ow}{w:World}{a0:List g_api_Cert}{a0v0:Value}{r:List g_api_Cert}(S:St m (As) w)(a0h0:SlR m a0v0 a0)(hm:AX a0=some r):
  AB Tryz.prog 50 #[a0v0] w fun v w'=> ∃(M:Mem),m≤M∧∃(rv0:Value) (rc0:List Value),St M ((row 13 rv0 rc0 r.length)::As) w'∧v=rv0∧BK M rc0 r:=by
 unfold AX at hm;have L0:=Mem.rfl' m;refine C9 (args:=[a0v0]) Tryz.func50 rfl Tryz.ntmps50 (Nat.le_of_ble_eq_true rfl) ?_;refine Ag ?_;refine Ae ?_;refine A4 (v:= .slice none 0 0) rfl ?_;refine Ah ?_;refine nrm ?_;refine Ag ?_;refine Ag ?_;refine Ae ?_;refine Ar (v:=a0v0) rfl ?_;refine Nz rfl rfl a0h0 Tryz.underlying31 ?_;refine Ah ?_;refine nrm ?_;refine Cz (t:=(Mc a0v0)) rfl (fun hc1=> ?_) (fun hc1=> ?_)
 ·have he1:a0=[]:=SlR.nilOf a0h0 hc1;rw[he1]at hm;replace hm:(some ([]:List g_api_Cert))=some _:=hm;refine Ag ?_;refine Ae ?_;refine A4 (v:= .slice none 0 0) rfl ?_;refine Ah ?_;refine nrm ?_;refine Bw ?_;refine thR ?_;refine EE ?_;intro we hpd;replace S:=St.pd S hpd;have S1:=St.rowNil S 13;have h1:BK m [] ([]:List g_api_Cert):=BK.nil;replace S1:St _ ((row 13 (.slice none 0 0) [] ([]:List g_api_Cert).length)::As) _:=S1;clear S;have e0:=Option.some.inj hm;subst e0;exact IW [_] rfl ⟨rfl,trivial⟩ ⟨_,L0,_,_,S1,rfl,h1⟩
 refine A6 ?_;refine nrm ?_;refine Ag ?_;refine Ae ?_;refine Ka (parts:=[]) (vs:=[]) (cls:=[]) (n:=0) (sz:=13) S Tryz.underlying31 Tryz.sizeOf28 Tryz.zeroValue28 rfl trivial rfl rfl (by decide) (by decide) ?_;intro v1 w1 S2;have h2:BK m [] ([]:List g_api_Cert):=BK.nil;replace S2:St _ ((row 13 v1 [] ([]:List g_api_Cert).length)::As) _:=S2;clear S;refine Ar (v:=a0v0) rfl ?_;obtain⟨x1,q1,hm⟩:=Aa hm;refine TQ (i:=0) (zs:=x1) (bytes:=168) (ti:=Tryz.t28) S2 rfl rfl h2 rfl rfl a0h0 q1 Tryz.underlying31 Tryz.type28 rfl rfl rfl rfl ?_;intro v2 c1 w2 S3 h3;replace S3:St _ ((row 13 v2 c1 x1.length)::As) _:=S3;clear S2;refine A4 (v:=v2) rfl ?_;refine Ah ?_;refine nrm ?_;refine Bw ?_;refine EE ?_;intro we hpd;replace S3:=St.pd S3 hpd;have e0:=Option.some.inj hm;subst e0;exact IW [_] rfl ⟨rfl,trivial⟩ ⟨_,L0,_,_,S3,rfl,h3⟩
theorem DQ {a0:List g_api_Cert}{r:List g_api_Cert}(hm:AX a0=some r):Sp prog 50 [sl Ad a0] [] 0 (is (.ow 0) [.row 0 13 _ Ad r] 1):=
 ⟨call50,fun η m As w vs hv0 hd S=>by
  have S:St m As w:=S;obtain⟨v0,u0,rfl,r0,hv1⟩:=BB.cons_inv hv0;have f0:=Br.ofS HY r0.dd;obtain rfl:=BB.nil_inv hv1;refine AB.mono (GU S f0 hm) ?_;rintro v w' ⟨M,hle,y0,c0,S0,rfl,h0⟩;exact⟨M,(AaZ [v]),_,_,_,hle,Un hd _,⟨rfl,rfl,rfl⟩,JL rfl,(.ow rfl (EC S0)),(St.impL S0 (AbA (Br.toR HY rfl rfl (EC S0) h0) fun _ h=>h))⟩⟩
def B1 (a0:ByteArray)(a1:ByteArray):Option (ByteArray×ByteArray×Bool):=Ac (Ay a0 a1) fun x1=>if(decide (x1≥0))=true then Ac (KP a0 0 x1) fun x2=>Ac (KP a0 (w64 (x1+(a1.size:Int))) (a0.size:Int)) fun x3=>some (x2,x3,true)else some (a0,(⟨#[]⟩:ByteArray),false)
theorem IA {a0:ByteArray}{a1:ByteArray}{r:ByteArray×ByteArray×Bool}(hm:B1 a0 a1=some r):Sf prog 222 [.d (.s a0),.d (.s a1)] (.tup [.d (.s r.1),.d (.s r.2.1),.d (.t r.2.2)]):=
 sp call222 func222 rfl ntmps222 rfl fun D0 As η0 m0 hd=>by
  unfold B1 at hm;obtain⟨x1,q1,hm⟩:=Aa hm;refine gc (fun _=>EG q1) ?_;refine gi hm (fun hc1 hm=> ?_) fun hc1 hm=> ?_
  ·skip;obtain⟨x2,q2,hm⟩:=Aa hm;refine Rm (fun _=>q2) ?_;obtain⟨x3,q3,hm⟩:=Aa hm;refine Rm (fun _=>q3) ?_;have e0:=Option.some.inj hm;subst e0;exact Aq hd
  have e0:=Option.some.inj hm;subst e0;exact Aq hd
def Fi (a0:ByteArray)(a1:ByteArray):Option (ByteArray×ByteArray×Bool):=Ac (B1 a0 a1) fun x1=>some (x1.1,x1.2.1,x1.2.2)
theorem P9 {a0:ByteArray}{a1:ByteArray}{r:ByteArray×ByteArray×Bool}(hm:Fi a0 a1=some r):Sf prog 210 [.d (.s a0),.d (.s a1)] (.tup [.d (.s r.1),.d (.s r.2.1),.d (.t r.2.2)]):=
 sp call210 func210 rfl ntmps210 rfl fun D0 As η0 m0 hd=>by
  unfold Fi at hm;obtain⟨x1,q1,hm⟩:=Aa hm;refine gc (fun _=>IA q1) ?_;have e0:=Option.some.inj hm;subst e0;exact Aq hd
def DY (a0:ByteArray):Option ByteArray:=Ac (CO a0) fun x1=>if(!x1)=true then some (⟨#[]⟩:ByteArray)else Ac (Fi a0 (⟨#[46]⟩:ByteArray)) fun x2=>some x2.2.1
theorem VK {a0:ByteArray}{r:ByteArray}(hm:DY a0=some r):Sf prog 184 [.d (.s a0)] (.d (.s r)):=
 sp call184 func184 rfl ntmps184 rfl fun D0 As η0 m0 hd=>by
  unfold DY at hm;obtain⟨x1,q1,hm⟩:=Aa hm;refine gc (fun _=>KB q1) ?_;refine gi hm (fun hc1 hm=> ?_) fun hc1 hm=> ?_
  ·skip;have e0:=Option.some.inj hm;subst e0;exact Aq hd
  obtain⟨x2,q2,hm⟩:=Aa hm;refine gc (fun _=>P9 q2) ?_;have e0:=Option.some.inj hm;subst e0;exact Aq hd
theorem Pw {m:Mem}{As:List Ow}{w:World}{a0:ByteArray}{r:ByteArray}(S:St m As w)(hm:DY a0=some r):
  AB prog 184 #[vS a0] w fun v w'=> ∃(M:Mem),m≤M∧St M (As) w'∧v=vS r:=by
 refine AB.mono ((VK hm).2 none0 m As w [vS a0] (.cons (.d (.s _)) .nil) (fun n h=>absurd rfl h) S) ?_;rintro v w' ⟨M,η',r',obs',n1,hle,_,⟨rfl,rfl,rfl⟩,hdom,hR,S'⟩;obtain rfl:=hR.s_inv;exact⟨M,hle,S',rfl⟩
def CP {σ:Type}(p0:σ→ByteArray→Option (Bool×σ))(s1:ByteArray×σ):Option ((ByteArray×σ)⊕(ByteArray×σ)):=Ac (if(!eqS s1.1 (⟨#[]⟩:ByteArray))=true then Ac (p0 s1.2 s1.1) fun x6=>some (x6.1,x6.2)else some (false,s1.2)) fun x5=>if x5.1=true then Ac (DY s1.1) fun x7=>some (.inl (x7,x5.2))else some (.inr (s1.1,x5.2))
def Gz {σ:Type}(p0:σ→ByteArray→Option (Bool×σ))(k0:ByteArray)(s0:σ):Option (ByteArray×σ):=Ac (DY k0) fun x1=>Ac (iter (CP p0) AR (x1,s0)) fun x2=>some (x2.1,x2.2)
theorem NW {m:Mem}{As:List Ow}{w:World}{σ:Type}{R:σ→Mem→List Ow→Prop}{p0:σ→ByteArray→Option (Bool×σ)}{f0:Value}{kb0:Nat}{k0:ByteArray}{s0:σ}{X0:List Ow}{r:ByteArray×σ}(S:St m ((bx kb0 [vS k0] 9)::(X0++As)) w)(hup: ∀{s M M' X},M≤M'→R s M X→R s M' X)(hX0:R s0 m X0)(cb0: ∀{m':Mem} {As':List Ow} {w':World} {s:σ} {X:List Ow} {b0:ByteArray} {r:Bool×σ},St m' (X++As') w'→R s m' X→p0 s b0=some r→EN Tryz.prog f0 [vS b0] w' fun v w''=> ∃(M:Mem) (X':List Ow),m'≤M∧St M (X'++As') w''∧R r.2 M X'∧v=vb r.1)(fc0:f0.cells= #[f0])(hm:Gz p0 k0 s0=some r):
  AB Tryz.prog 183 #[f0,pt kb0 0] w fun v w'=> ∃(M:Mem),m≤M∧∃(X:List Ow),St M ((bx kb0 [vS r.1] 9)::(X++As)) w'∧v= .tuple #[]∧R r.2 M X:=by
 unfold Gz at hm;have L0:=Mem.rfl' m;refine C9 (args:=[f0,pt kb0 0]) Tryz.func183 rfl Tryz.ntmps183 (Nat.le_of_ble_eq_true rfl) ?_;refine Ag ?_;refine Ae ?_;refine H8 (i:=0) (cs:=[vS k0]) S rfl rfl Tryz.isAgg9 Tryz.sizeOf9 rfl (fun _=>rfl) ?_;obtain⟨x1,q1,hm⟩:=Aa hm;refine CJ Tryz.call184 (Pw (a0:=k0) S q1) rfl ?_;rintro _ w1 ⟨m1,l1,S1,rfl⟩;replace hX0:=hup l1 hX0;replace L0:=Mem.tr L0 l1;clear S;replace S1:St _ ((bx kb0 [vS k0] 9)::(X0++As)) _:=S1;refine I5 (i:=0) S1 rfl rfl rfl Tryz.sizeOf9 (Jo rfl MD) rfl ?_;intro w2 S2;replace S2:St _ ((bx kb0 [vS x1] 9)::(X0++As)) _:=S2;clear S1;refine Ah ?_;refine nrm ?_;obtain⟨x2,q2,hm⟩:=Aa hm;have L1:=Mem.rfl' m1;refine Nv ?_;refine A8 [5,6,7,8,9,10,11,12,13] (fun f' w'=> ∃(M1:Mem) (X2:List Ow),m1≤M1∧St M1 ((bx kb0 [vS x2.1] 9)::(X2++As)) w'∧R x2.2 M1 X2∧Cl f' []) ?_ ?_
 ·refine Az ?_;refine B4 [5,6,7,8,9,10,11,12,13] (fun n1 f' w'=> ∃(s1:ByteArray×σ) (m7:Mem) (X1:List Ow),iter (CP p0) n1 s1=some x2∧m1≤m7∧St m7 ((bx kb0 [vS s1.1] 9)::(X1++As)) w'∧R s1.2 m7 X1∧Cl f' []) AR ⟨(x1,s0),m1,_,q2,L1,S2,hX0,trivial⟩ ?_;rintro n1 f1 w3 ho ⟨s1,m2,X1,q3,L3,S3,h1,ha⟩;obtain⟨u1,rfl⟩:=B3 (N:=14) ho ha;clear ho ha;have L2:=Mem.rfl' m2;clear S2;cases n1 with
  |zero=>exact(An q3).elim
  |succ n1=>
   obtain⟨y1,q5,q4⟩:=Am q3;unfold CP at q5;refine Ag ?_;refine Ag ?_;refine Ae ?_;refine H8 (i:=0) (cs:=[vS s1.1]) S3 rfl rfl Tryz.isAgg9 Tryz.sizeOf9 rfl (fun _=>rfl) ?_;refine Aau (p:=s1.1) (q:=(⟨#[]⟩:ByteArray)) rfl rfl ?_;refine Ar (v:=vb (!eqS s1.1 (⟨#[]⟩:ByteArray))) rfl ?_;obtain⟨x5,q8,q5⟩:=Aa q5;have L4:=Mem.rfl' m2;refine P7 4 [8,9,10,11] (fun f' w'=> ∃(M2:Mem) (X4:List Ow),m2≤M2∧St M2 ((bx kb0 [vS s1.1] 9)::(X4++As)) w'∧R x5.2 M2 X4∧Cl f' [(11,vb x5.1)]) ?_ ?_
   ·rcases RB (!eqS s1.1 (⟨#[]⟩:ByteArray))with hb1|hb1
    ·replace q8:=ifT hb1 q8;refine FL (d:=7) rfl rfl (congrArg Value.bool hb1) ?_;refine Ar (v:=f0) rfl ?_;refine FL (d:=7) rfl rfl (congrArg Value.bool hb1) ?_;refine H8 (i:=0) (cs:=[vS s1.1]) S3 rfl rfl Tryz.isAgg9 Tryz.sizeOf9 rfl (fun _=>rfl) ?_;refine FL (d:=7) rfl rfl (congrArg Value.bool hb1) ?_;obtain⟨x6,q9,q8⟩:=Aa q8;have S6:=St.absF (L:=[bx kb0 [vS s1.1] 9]) (X:=X1) (As:=As) S3;refine HB rfl (cb0 S6 h1 q9) rfl ?_;rintro _ w5 ⟨m4,X5,l3,S7,h5,rfl⟩;replace S7:=St.absF (L:=X5) (X:=[bx kb0 [vS s1.1] 9]) (As:=As) S7;clear S6;replace L4:=Mem.tr L4 l3;replace S7:St _ ((bx kb0 [vS s1.1] 9)::(X5++As)) _:=S7;clear S3;refine Jy (congrArg Value.bool hb1) rfl ?_;refine Ah (nrm ?_);have e0:=Option.some.inj q8;subst e0;exact⟨FI,m4,_,L4,S7,h5,⟨rfl,trivial⟩⟩
    replace q8:=ifF hb1 q8;refine GZ (d:=7) rfl rfl (congrArg Value.bool hb1) ?_;refine GZ (d:=7) rfl rfl (congrArg Value.bool hb1) ?_;refine GZ (d:=7) rfl rfl (congrArg Value.bool hb1) ?_;refine Jz (congrArg Value.bool hb1) rfl ?_;refine Ah (nrm ?_);have e0:=Option.some.inj q8;subst e0;exact⟨FI,m2,_,L4,S3,h1,⟨rfl,trivial⟩⟩
   rintro f2 w6 ho ⟨m5,X4,l4,S8,h4,ha⟩;obtain⟨u2,rfl⟩:=B3 (N:=14) ho ha;replace L2:=Mem.tr L2 l4;clear S3;refine Ah ?_;refine nrm ?_;refine Cz (t:=x5.1) rfl (fun hc1=> ?_) (fun hc1=> ?_)
   ·replace q5:=ifT hc1 q5;refine A6 ?_;refine nrm ?_;refine Ag ?_;refine Az ?_;refine A6 ?_;refine MF ?_;refine nrm ?_;refine Ae ?_;refine H8 (i:=0) (cs:=[vS s1.1]) S8 rfl rfl Tryz.isAgg9 Tryz.sizeOf9 rfl (fun _=>rfl) ?_;obtain⟨x7,q10,q5⟩:=Aa q5;refine CJ Tryz.call184 (Pw (a0:=s1.1) S8 q10) rfl ?_;rintro _ w7 ⟨m6,l5,S9,rfl⟩;replace h4:=hup l5 h4;replace L2:=Mem.tr L2 l5;clear S8;replace S9:St _ ((bx kb0 [vS s1.1] 9)::(X4++As)) _:=S9;refine I5 (i:=0) S9 rfl rfl rfl Tryz.sizeOf9 (Jo rfl MD) rfl ?_;intro w8 S10;replace S10:St _ ((bx kb0 [vS x7] 9)::(X4++As)) _:=S10;clear S9;refine Ah ?_;refine nrm ?_;have e0:=Option.some.inj q5;subst e0;rcases q4 with ⟨sn,e,q4'⟩|e
    ·cases e;exact⟨FI,_,Nat.lt_succ_self _,⟨_,m6,_,q4',Mem.tr L3 L2,S10,h4,trivial⟩⟩
    ·cases e
   replace q5:=ifF hc1 q5;refine CV ?_;refine thE ?_;refine thE ?_;refine exB ?_;refine nrm ?_;have e0:=Option.some.inj q5;subst e0;rcases q4 with ⟨sn,e,_⟩|e
   ·cases e
   ·cases e;exact⟨FI,m5,_,Mem.tr L3 L2,S8,h4,trivial⟩
 rintro f3 w9 ho ⟨m8,X2,l6,S11,h2,ha⟩;obtain⟨u3,rfl⟩:=B3 (N:=14) ho ha;clear ho ha;replace L0:=Mem.tr L0 l6;clear S2;refine V2 ?_;intro we hpd;replace S11:=St.pd S11 hpd;have e0:=Option.some.inj hm;subst e0;exact IW [] rfl trivial ⟨_,L0,_,S11,rfl,h2⟩
def HP (a0:ByteArray):Option ByteArray:=some a0
theorem Qu {m:Mem}{As:List Ow}{w:World}{a0:ByteArray}{r:ByteArray}(S:St m (As) w)(hm:HP a0=some r):
  AB Tryz.prog 138 #[vS a0] w fun v w'=> ∃(M:Mem),m≤M∧∃(rk0_0:Nat),St M ((bx rk0_0 [vS r] 9)::As) w'∧v= .func (.func 183) #[] #[pt rk0_0 0]:=by
 unfold HP at hm;have L0:=Mem.rfl' m;refine C9 (args:=[vS a0]) Tryz.func138 rfl Tryz.ntmps138 (Nat.le_of_ble_eq_true rfl) ?_;refine Ag ?_;refine Ae ?_;refine Mz S rfl ?_;intro b1 w1 S1;replace S1:St _ ((bx b1 [vS a0] 9)::As) _:=S1;clear S;refine A4 (v:= .nilFunc) rfl ?_;refine Ah ?_;refine nrm ?_;refine Ag ?_;refine Ae ?_;refine My (caps:=[pt b1 0]) rfl ?_;refine A4 (v:= .func (.func 183) #[] #[pt b1 0]) rfl ?_;refine Ah ?_;refine nrm ?_;refine Bw ?_;refine EE ?_;intro we hpd;replace S1:=St.pd S1 hpd;have e0:=Option.some.inj hm;subst e0;exact IW [_] rfl ⟨rfl,trivial⟩ ⟨_,L0,_,S1,rfl⟩
def Dr (a1:ByteArray)(b5:ByteArray)(s1:(Bool)×Nat):Option ((Bool)×Nat):=if(eqS b5 a1)=true then some (true,1)else some (s1.1,0)
def Ef (a0:ByteArray)(a1:ByteArray):Option Bool:=Ac (HP a0) fun x1=>Ac (Gz (fun(s:(Bool)×Nat) (b0:ByteArray)=>if s.2=0 then Ac (Dr a1 b0 s) fun y=>some (y.2==0,y)else none) x1 (false,0)) fun x2=>if(x2.2).2=0 then some false else some x2.2.1
theorem Qt {m:Mem}{As:List Ow}{w:World}{a0:ByteArray}{a1:ByteArray}{r:Bool}(S:St m (As) w)(hm:Ef a0 a1=some r):
  AB Tryz.prog 83 #[vS a0,vS a1] w fun v w'=> ∃(M:Mem),m≤M∧St M (As) w'∧v=vb r:=by
 unfold Ef at hm;have L0:=Mem.rfl' m;refine C9 (args:=[vS a0,vS a1]) Tryz.func83 rfl Tryz.ntmps83 (Nat.le_of_ble_eq_true rfl) ?_;refine Ag ?_;refine Ae ?_;refine Mz S rfl ?_;intro b1 w1 S1;replace S1:St _ ((bx b1 [vS a1] 9)::As) _:=S1;clear S;refine Fx S1 Tryz.zeroValue4 ?_;intro b2 w2 S2;replace S2:St _ ((bx b2 [vb false] 4)::(bx b1 [vS a1] 9)::As) _:=S2;clear S1;refine Ah ?_;refine nrm ?_;refine Ag ?_;refine Ag ?_;refine Ae ?_;refine Ar (v:=vS a0) rfl ?_;obtain⟨x1,q1,hm⟩:=Aa hm;refine CJ Tryz.call138 (Qu (a0:=a0) S2 q1) rfl ?_;rintro _ w3 ⟨m1,l1,b3,S3,rfl⟩;replace L0:=Mem.tr L0 l1;clear S2;replace S3:St _ ((bx b3 [vS x1] 9)::(bx b2 [vb false] 4)::(bx b1 [vS a1] 9)::As) _:=S3;refine Ah ?_;refine nrm ?_;refine Az ?_;obtain⟨x2,q2,hm⟩:=Aa hm;refine Gc S3 rfl Tryz.call183 ?_;intro lp1 rip2 w4 h1 S4;replace S4:St _ ((Lp lp1 rip2 .ready none)::(bx b3 [vS x1] 9)::(bx b2 [vb false] 4)::(bx b1 [vS a1] 9)::As) _:=S4;clear S3;have S5:St _ ((bx b3 [vS x1] 9)::(Lp lp1 rip2 .ready none)::(bx b2 [vb false] 4)::(bx b1 [vS a1] 9)::As) _:=St.perm S4 (List.Perm.swap _ _ _);clear S4;have hcb1: ∀{m':Mem} {As':List Ow} {w':World} {s:(Bool)×Nat} {X:List Ow} {b0:ByteArray} {r:Bool×((Bool)×Nat)},St m' (X++As') w'→(m1≤m'∧(((s).2=0∧X=Lp lp1 rip2 .ready none::(bx b2 [vb ((s).1)] 4)::(bx b1 [vS a1] 9)::[])∨((s).2=1∧X=Lp lp1 rip2 .done (some .ret)::(bx b2 [vb ((s).1)] 4)::(bx b1 [vS a1] 9)::[])))→(fun(s:(Bool)×Nat) (b0:ByteArray)=>if s.2=0 then Ac (Dr a1 b0 s) fun y=>some (y.2==0,y)else none) s b0=some r→EN Tryz.prog (.func (.yield lp1) #[] #[]) [vS b0] w' fun v w''=> ∃(M:Mem) (X':List Ow),m'≤M∧St M (X'++As') w''∧(m1≤M∧(((r.2).2=0∧X'=Lp lp1 rip2 .ready none::(bx b2 [vb ((r.2).1)] 4)::(bx b1 [vS a1] 9)::[])∨((r.2).2=1∧X'=Lp lp1 rip2 .done (some .ret)::(bx b2 [vb ((r.2).1)] 4)::(bx b1 [vS a1] 9)::[])))∧v=vb r.1:=by
  intro m2 As1 w5 s1 X1 b5 r1 S6 h2 hm1;obtain⟨L2,h3⟩:=h2;rcases h3 with ⟨hj1,rfl⟩|⟨hj1,rfl⟩
  ·try dsimp only at hm1
   rw[if_pos hj1]at hm1;obtain⟨y1,q3,hm1⟩:=Aa hm1;cases hm1;unfold Dr at q3;replace S6:St _ ((Lp lp1 rip2 .ready none)::(bx b2 [vb s1.1] 4)::(bx b1 [vS a1] 9)::As1) _:=S6;have L1:=Mem.rfl' m2;refine EN.round h1 rfl S6 ?_;refine Ae ?_;refine A4 (v:=vS b5) rfl ?_;refine Ah ?_;refine nrm ?_;refine⟨_,_,S6,?_⟩;intro w6 S7;clear S6;replace S7:St _ ((Lp lp1 rip2 .busy none)::(bx b2 [vb s1.1] 4)::(bx b1 [vS a1] 9)::As1) _:=S7;refine Az ?_;refine Ag ?_;refine Ae ?_;refine Ar (v:=vS b5) rfl ?_;refine H8 (i:=2) (cs:=[vS a1]) S7 rfl rfl Tryz.isAgg9 Tryz.sizeOf9 rfl (fun _=>rfl) ?_;refine Aax (p:=b5) (q:=a1) rfl rfl ?_;refine Ah ?_;refine nrm ?_;refine Cz (t:=(eqS b5 a1)) rfl (fun hc1=> ?_) (fun hc1=> ?_)
   ·replace q3:=ifT hc1 q3;refine Ag ?_;refine Ae ?_;refine I5 (i:=1) S7 rfl rfl rfl Tryz.sizeOf4 (Jo rfl MD) rfl ?_;intro w7 S8;replace S8:St _ ((Lp lp1 rip2 .busy none)::(bx b2 [vb true] 4)::(bx b1 [vS a1] 9)::As1) _:=S8;clear S7;refine Ah ?_;refine nrm ?_;refine Bw ?_;refine blR ?_;refine⟨_,_,S8,?_⟩;intro w8 S9;have e0:=Option.some.inj q3;subst e0;exact⟨_,Lp lp1 rip2 .done (some .ret)::(bx b2 [vb true] 4)::(bx b1 [vS a1] 9)::[],L1,S9,⟨Mem.tr L2 L1,.inr (⟨rfl,rfl⟩)⟩,rfl⟩
   replace q3:=ifF hc1 q3;refine A6 ?_;refine MF ?_;refine⟨_,_,S7,?_⟩;intro w9 S10;have e0:=Option.some.inj q3;subst e0;exact⟨_,Lp lp1 rip2 .ready none::(bx b2 [vb s1.1] 4)::(bx b1 [vS a1] 9)::[],L1,S10,⟨Mem.tr L2 L1,.inl ⟨rfl,rfl⟩⟩,rfl⟩
  ·try dsimp only at hm1
   rw[if_neg (by rw[hj1]; decide)]at hm1;cases hm1
 refine AB.mono (NW (p0:=(fun(s:(Bool)×Nat) (b0:ByteArray)=>if s.2=0 then Ac (Dr a1 b0 s) fun y=>some (y.2==0,y)else none)) (k0:=x1) (s0:=(false,0)) (R:=(fun(s:(Bool)×Nat) (M:Mem) (X:List Ow)=>(m1≤M∧(((s).2=0∧X=Lp lp1 rip2 .ready none::(bx b2 [vb ((s).1)] 4)::(bx b1 [vS a1] 9)::[])∨((s).2=1∧X=Lp lp1 rip2 .done (some .ret)::(bx b2 [vb ((s).1)] 4)::(bx b1 [vS a1] 9)::[]))))) (X0:=((Lp lp1 rip2 .ready none)::(bx b2 [vb false] 4)::(bx b1 [vS a1] 9)::[])) (As:=As) S5 (fun l h=>by obtain⟨Lm,e⟩:=h; exact⟨Mem.tr Lm l,e⟩) ⟨Mem.rfl' _,.inl ⟨rfl,rfl⟩⟩ @hcb1 rfl q2) ?_;rintro _ w10 ⟨m3,l2,X2,S11,rfl,⟨L3,h4⟩⟩;rcases h4 with ⟨hj2,rfl⟩|⟨hj2,rfl⟩
 ·rw[if_pos hj2]at hm;replace S11:St _ ((bx b3 [vS x2.1] 9)::(Lp lp1 rip2 .ready none)::(bx b2 [vb x2.2.1] 4)::(bx b1 [vS a1] 9)::As) _:=S11;have S12:St _ ((Lp lp1 rip2 .ready none)::(bx b3 [vS x2.1] 9)::(bx b2 [vb x2.2.1] 4)::(bx b1 [vS a1] 9)::As) _:=St.perm S11 (List.Perm.swap _ _ _);clear S11;refine⟨_,.ready,none,_,l2,(fun h=>by cases h),S12,?_⟩;intro m4 w11 l3 S13;have l4:=Mem.tr l2 l3;replace L0:=Mem.tr L0 l4;replace S13:St _ ((bx b3 [vS x2.1] 9)::(bx b2 [vb x2.2.1] 4)::(bx b1 [vS a1] 9)::As) _:=S13;refine MF ?_;refine nrm ?_;refine Ag ?_;refine Ae ?_;refine I5 (i:=1) S13 rfl rfl rfl Tryz.sizeOf4 (Jo rfl MD) rfl ?_;intro w12 S14;replace S14:St _ ((bx b3 [vS x2.1] 9)::(bx b2 [vb false] 4)::(bx b1 [vS a1] 9)::As) _:=S14;clear S13;refine Ah ?_;refine nrm ?_;refine Bw ?_;refine EE ?_;intro we hpd;replace S14:=St.pd S14 hpd;have SR:=S14;obtain⟨m5,l5,S15⟩:=St.drop S14 0;replace L0:=Mem.tr L0 l5;replace S15:St _ ((bx b2 [vb false] 4)::(bx b1 [vS a1] 9)::As) _:=S15;obtain⟨m6,l6,S16⟩:=St.drop S15 0;replace L0:=Mem.tr L0 l6;clear S15;replace S16:St _ ((bx b1 [vS a1] 9)::As) _:=S16;obtain⟨m7,l7,S17⟩:=St.drop S16 0;replace L0:=Mem.tr L0 l7;clear S16;replace S17:St _ (As) _:=S17;have e0:=Option.some.inj hm;subst e0;exact IW [_] rfl ⟨IS (i:=1) (off:=0) (cs:=[vb false]) SR rfl rfl Tryz.isAgg4 Tryz.sizeOf4 rfl (fun _=>rfl),trivial⟩ ⟨_,L0,S17,rfl⟩
 ·rw[if_neg (show¬(x2.2).2=0 by rw[hj2]; decide)]at hm;replace S11:St _ ((bx b3 [vS x2.1] 9)::(Lp lp1 rip2 .done (some .ret))::(bx b2 [vb x2.2.1] 4)::(bx b1 [vS a1] 9)::As) _:=S11;have S18:St _ ((Lp lp1 rip2 .done (some .ret))::(bx b3 [vS x2.1] 9)::(bx b2 [vb x2.2.1] 4)::(bx b1 [vS a1] 9)::As) _:=St.perm S11 (List.Perm.swap _ _ _);clear S11;refine⟨_,.done,(some .ret),_,l2,(fun h=>by cases h),S18,?_⟩;intro m8 w13 l8 S19;have l9:=Mem.tr l2 l8;replace L0:=Mem.tr L0 l9;replace S19:St _ ((bx b3 [vS x2.1] 9)::(bx b2 [vb x2.2.1] 4)::(bx b1 [vS a1] 9)::As) _:=S19;refine Bw ?_;refine blR ?_;refine thR ?_;refine EE ?_;intro we hpd;replace S19:=St.pd S19 hpd;have SR:=S19;obtain⟨m9,l10,S20⟩:=St.drop S19 0;replace L0:=Mem.tr L0 l10;replace S20:St _ ((bx b2 [vb x2.2.1] 4)::(bx b1 [vS a1] 9)::As) _:=S20;obtain⟨m10,l11,S21⟩:=St.drop S20 0;replace L0:=Mem.tr L0 l11;clear S20;replace S21:St _ ((bx b1 [vS a1] 9)::As) _:=S21;obtain⟨m11,l12,S22⟩:=St.drop S21 0;replace L0:=Mem.tr L0 l12;clear S21;replace S22:St _ (As) _:=S22;have e0:=Option.some.inj hm;subst e0;exact IW [_] rfl ⟨IS (i:=1) (off:=0) (cs:=[vb x2.2.1]) SR rfl rfl Tryz.isAgg4 Tryz.sizeOf4 rfl (fun _=>rfl),trivial⟩ ⟨_,L0,S22,rfl⟩
theorem QS {a0:ByteArray}{a1:ByteArray}{r:Bool}(hm:Ef a0 a1=some r):Sf prog 83 [.d (.s a0),.d (.s a1)] (.d (.t r)):=
 ⟨call83,fun η m As w vs hv0 hd S=>by
  have S:St m As w:=S;obtain⟨v0,u0,rfl,r0,hv1⟩:=BB.cons_inv hv0;obtain rfl:=r0.s_inv;obtain⟨v1,u1,rfl,r1,hv2⟩:=BB.cons_inv hv1;obtain rfl:=r1.s_inv;obtain rfl:=BB.nil_inv hv2;refine AB.mono (Qt S hm) ?_;rintro v w' ⟨M,hle,S0,rfl⟩;exact⟨M,none0,_,_,_,hle,Un hd _,⟨rfl,rfl,rfl⟩,fun n h=>absurd rfl h,(.d (.t _)),S0⟩⟩
def GA (a0:ByteArray)(a1:ByteArray):Option Bool:=Ac (Cj a0) fun x1=>Ac (gu (!(!x1.2.2)) (CO a1)) fun x2=>if((!x1.2.2)||(!x2))=true then some false else if x1.2.1=true then Ac (Ef a1 x1.1) fun x3=>some x3 else some (eqS x1.1 a1)
theorem Qv {a0:ByteArray}{a1:ByteArray}{r:Bool}(hm:GA a0 a1=some r):Sf prog 44 [.d (.s a0),.d (.s a1)] (.d (.t r)):=
 sp call44 func44 rfl ntmps44 rfl fun D0 As η0 m0 hd=>by
  unfold GA at hm;obtain⟨x1,q1,hm⟩:=Aa hm;refine gc (fun _=>J0 q1) ?_;obtain⟨x2,q2,hm⟩:=Aa hm;refine gcG (fun h=>KB (En h q2)) ?_;refine gi hm (fun hc1 hm=> ?_) fun hc1 hm=> ?_
  ·skip;have e0:=Option.some.inj hm;subst e0;exact Aq hd
  refine gi hm (fun hc2 hm=> ?_) fun hc2 hm=> ?_
  ·skip;obtain⟨x3,q3,hm⟩:=Aa hm;refine gc (fun _=>QS q3) ?_;have e0:=Option.some.inj hm;subst e0;exact Aq hd
  have e0:=Option.some.inj hm;subst e0;exact Aq hd
def EI (a0:ByteArray)(k0:ByteArray):Option (Bool×ByteArray):=Ac (GA a0 k0) fun x1=>some (x1,k0)
theorem Lz {a0:ByteArray}{k0:ByteArray}{r:Bool×ByteArray}(hm:EI a0 k0=some r):Sp prog 133 [.d (.s a0),.pb 0 0] [.box 0 [.d (.s k0)] 9] 1 (is (.d (.t r.1)) [.box 0 [.d (.s r.2)] 9] 1):=
 sp call133 func133 rfl ntmps133 rfl fun D0 As η0 m0 hd=>by
  unfold EI at hm;obtain⟨x1,q1,hm⟩:=Aa hm;refine gc (fun _=>Qv q1) ?_;have e0:=Option.some.inj hm;subst e0;exact Aq hd
def AG (a0:List ByteArray)(i1:Int)(s1:ByteArray):Option ((ByteArray)⊕(Int×ByteArray)):=Ac (idx a0 (i1:Int)) fun x3=>Ac (EI x3 s1) fun x4=>if x4.1=true then some (.inr ((i1:Int),x4.2))else some (.inl x4.2)
def Be (a0:List ByteArray)(k0:ByteArray):Option (Int×ByteArray):=Ac (Ep (AG a0) a0.length 0 k0) fun x1=>match x1 with| .inr r=>some r| .inl y1=>some ((-1),y1)
theorem Fv {a0:List ByteArray}{k0:ByteArray}{r:Int×ByteArray}(hm:Be a0 k0=some r):Sp prog 178 [sl eS a0,.fn (.func 133) [] [.pb 0 0]] [.box 0 [.d (.s k0)] 9] 1 (is (.d (.i r.1)) [.box 0 [.d (.s r.2)] 9] 1):=
 sp call178 func178 rfl ntmps178 rfl fun D0 As η0 m0 hd=>by
  unfold Be at hm;obtain⟨x1,q1,hm⟩:=Aa hm;refine PU 0 (E:=eS) (xs:=a0) 6 fun hle1=> ?_;refine gjU 0 (fun(y1:ByteArray)=>⟨[],[(0,.box 0 [.d (.s y1)] 9)],[],1⟩) (fun y1=>x1= .inl y1) (fun Jp bk1=> ?_) fun y1 hy=> ?_
  ·refine gl hd (fun(p:Int×(ByteArray))=>let (p0,p_0):=p; ⟨[(0,sl eS a0),(1,.fn (.func 133) [] [.pb 0 0]),(7,.d (.i (a0.length:Int))),(8,.d (.i p0))],[(0,.box 0 [.d (.s p_0)] 9)],[],1⟩) (fun p=> ∃i:Nat,p.1=(i:Int)∧i≤a0.length∧Ep (AG a0) (a0.length-i) (i:Int) p.2=some x1) (fun p=>a0.length-p.1.toNat) (0,k0) ⟨0,rfl,Nat.zero_le _,q1⟩ ?_;rintro⟨_,s1⟩ ⟨i1,rfl,hi,q2⟩ Jl bl1;refine gi' (b:=decide ((i1:Int)<(a0.length:Int))) (fun hc2=> ?_) fun hc2=> ?_
   ·have hlt1:i1<a0.length:=by have:=of_decide_eq_true hc2; omega
    obtain⟨y2,q4,q3⟩:=HS q2 hlt1;unfold AG at q4;obtain⟨x3,q6,q4⟩:=Aa q4;refine Ga (k:=1) (E:=eS) (fun _=>rfl) (fun _=>q6) ?_;obtain⟨x4,q7,q4⟩:=Aa q4;refine gco (Lz q7) ?_;refine gi q4 (fun hc1 q4=> ?_) fun hc1 q4=> ?_
    ·skip;cases q4;rcases q3 with ⟨sn,e,_⟩|⟨tn,e,e2⟩
     ·cases e
     cases e;cases e2;dsimp only at hm;have e0:=Option.some.inj hm;subst e0;exact Aq hd
    have e0:=Option.some.inj q4;subst e0;rcases q3 with ⟨sn,e,q3'⟩|⟨tn,e,_⟩
    ·have e:=Sum.inl.inj e;subst e;exact gb bl1 hd (w64 ((i1:Int)+1),_) ⟨⟨i1+1,Bx hlt1 hle1,by omega,q3'⟩,IC hlt1 hle1⟩
    cases AM e
   have hlt1: ¬i1<a0.length:=by have:=of_decide_eq_false hc2; omega
   have e:=GL q2 hlt1;cases e;exact gb bk1 hd _ rfl
  subst hy;dsimp only at hm;have e0:=Option.some.inj hm;subst e0;exact Aq hd
def A5 (a0:List ByteArray)(k0:ByteArray):Option (Bool×ByteArray):=Ac (Be a0 k0) fun x1=>some ((decide (x1.1≥0)),x1.2)
theorem EL {a0:List ByteArray}{k0:ByteArray}{r:Bool×ByteArray}(hm:A5 a0 k0=some r):Sp prog 132 [sl eS a0,.fn (.func 133) [] [.pb 0 0]] [.box 0 [.d (.s k0)] 9] 1 (is (.d (.t r.1)) [.box 0 [.d (.s r.2)] 9] 1):=
 sp call132 func132 rfl ntmps132 rfl fun D0 As η0 m0 hd=>by
  unfold A5 at hm;obtain⟨x1,q1,hm⟩:=Aa hm;refine gco (Fv q1) ?_;have e0:=Option.some.inj hm;subst e0;exact Aq hd
def Dq (a0:ByteArray)(k0:g_api_Cert):Option (Bool×g_api_Cert):=Ac (A5 k0.Permit a0) fun x1=>some ((!x1.1),k0)
theorem Nm {a0:ByteArray}{k0:g_api_Cert}{r:Bool×g_api_Cert}(hm:Dq a0 k0=some r):Sp prog 131 [.d (.s a0),.pb 0 0] [.box 0 [.d (.i k0.Serial),.d (.s k0.Issuer),.d (.s k0.Subject),.d (.u k0.Key),sl eS k0.Names,.d (.i k0.From),.d (.i k0.Until),.d (.t k0.Ca),.d (.i k0.Depth),sl eS k0.Permit,sl Ai k0.Proms,.d (.u k0.Sig.E),.d (.u k0.Sig.S)] 28] 1 (is (.d (.t r.1)) [.box 0 [.d (.i r.2.Serial),.d (.s r.2.Issuer),.d (.s r.2.Subject),.d (.u r.2.Key),.d (.sl _ eS r.2.Names),.d (.i r.2.From),.d (.i r.2.Until),.d (.t r.2.Ca),.d (.i r.2.Depth),.d (.sl _ eS r.2.Permit),.d (.sl _ Ai r.2.Proms),.d (.u r.2.Sig.E),.d (.u r.2.Sig.S)] 28] 1):=
 sp call131 func131 rfl ntmps131 rfl fun D0 As η0 m0 hd=>by
  unfold Dq at hm;obtain⟨x1,q1,hm⟩:=Aa hm;refine gco (EL q1) ?_;have e0:=Option.some.inj hm;subst e0;exact Aq hd
def AH (a0:List ByteArray)(i1:Int)(s1:Int×ByteArray×ByteArray×UInt64×(List ByteArray)×Int×Int×Bool×Int×(List ByteArray)×(List g_api_Promise)×UInt64×UInt64):Option ((Int×ByteArray×ByteArray×UInt64×(List ByteArray)×Int×Int×Bool×Int×(List ByteArray)×(List g_api_Promise)×UInt64×UInt64)⊕(Int×g_api_Cert)):=Ac (idx a0 (i1:Int)) fun x3=>Ac (Dq x3 (⟨s1.1,s1.2.1,s1.2.2.1,s1.2.2.2.1,s1.2.2.2.2.1,s1.2.2.2.2.2.1,s1.2.2.2.2.2.2.1,s1.2.2.2.2.2.2.2.1,s1.2.2.2.2.2.2.2.2.1,s1.2.2.2.2.2.2.2.2.2.1,s1.2.2.2.2.2.2.2.2.2.2.1,(⟨s1.2.2.2.2.2.2.2.2.2.2.2.1,s1.2.2.2.2.2.2.2.2.2.2.2.2⟩:g_api_Sig)⟩:g_api_Cert)) fun x4=>if x4.1=true then some (.inr ((i1:Int),x4.2))else some (.inl (x4.2.Serial,x4.2.Issuer,x4.2.Subject,x4.2.Key,x4.2.Names,x4.2.From,x4.2.Until,x4.2.Ca,x4.2.Depth,x4.2.Permit,x4.2.Proms,x4.2.Sig.E,x4.2.Sig.S))
def Bf (a0:List ByteArray)(k0:g_api_Cert):Option (Int×g_api_Cert):=Ac (Ep (AH a0) a0.length 0 (k0.Serial,k0.Issuer,k0.Subject,k0.Key,k0.Names,k0.From,k0.Until,k0.Ca,k0.Depth,k0.Permit,k0.Proms,k0.Sig.E,k0.Sig.S)) fun x1=>match x1 with| .inr r=>some r| .inl y1=>some ((-1),(⟨y1.1,y1.2.1,y1.2.2.1,y1.2.2.2.1,y1.2.2.2.2.1,y1.2.2.2.2.2.1,y1.2.2.2.2.2.2.1,y1.2.2.2.2.2.2.2.1,y1.2.2.2.2.2.2.2.2.1,y1.2.2.2.2.2.2.2.2.2.1,y1.2.2.2.2.2.2.2.2.2.2.1,(⟨y1.2.2.2.2.2.2.2.2.2.2.2.1,y1.2.2.2.2.2.2.2.2.2.2.2.2⟩:g_api_Sig)⟩:g_api_Cert))
theorem Fw {a0:List ByteArray}{k0:g_api_Cert}{r:Int×g_api_Cert}(hm:Bf a0 k0=some r):Sp prog 178 [sl eS a0,.fn (.func 131) [] [.pb 0 0]] [.box 0 [.d (.i k0.Serial),.d (.s k0.Issuer),.d (.s k0.Subject),.d (.u k0.Key),sl eS k0.Names,.d (.i k0.From),.d (.i k0.Until),.d (.t k0.Ca),.d (.i k0.Depth),sl eS k0.Permit,sl Ai k0.Proms,.d (.u k0.Sig.E),.d (.u k0.Sig.S)] 28] 1 (is (.d (.i r.1)) [.box 0 [.d (.i r.2.Serial),.d (.s r.2.Issuer),.d (.s r.2.Subject),.d (.u r.2.Key),.d (.sl _ eS r.2.Names),.d (.i r.2.From),.d (.i r.2.Until),.d (.t r.2.Ca),.d (.i r.2.Depth),.d (.sl _ eS r.2.Permit),.d (.sl _ Ai r.2.Proms),.d (.u r.2.Sig.E),.d (.u r.2.Sig.S)] 28] 1):=
 sp call178 func178 rfl ntmps178 rfl fun D0 As η0 m0 hd=>by
  unfold Bf at hm;obtain⟨x1,q1,hm⟩:=Aa hm;refine PU 0 (E:=eS) (xs:=a0) 6 fun hle1=> ?_;refine gjU 0 (fun(y1:Int×ByteArray×ByteArray×UInt64×(List ByteArray)×Int×Int×Bool×Int×(List ByteArray)×(List g_api_Promise)×UInt64×UInt64)=>let (y_0,y_1,y_2,y_3,y_4,y_5,y_6,y_7,y_8,y_9,y_10,y_11,y_12):=y1; ⟨[],[(0,.box 0 [.d (.i y_0),.d (.s y_1),.d (.s y_2),.d (.u y_3),sl eS y_4,.d (.i y_5),.d (.i y_6),.d (.t y_7),.d (.i y_8),sl eS y_9,sl Ai y_10,.d (.u y_11),.d (.u y_12)] 28)],[],1⟩) (fun y1=>x1= .inl y1) (fun Jp bk1=> ?_) fun y1 hy=> ?_
  ·refine gl hd (fun(p:Int×(Int×ByteArray×ByteArray×UInt64×(List ByteArray)×Int×Int×Bool×Int×(List ByteArray)×(List g_api_Promise)×UInt64×UInt64))=>let (p0,p_0,p_1,p_2,p_3,p_4,p_5,p_6,p_7,p_8,p_9,p_10,p_11,p_12):=p; ⟨[(0,sl eS a0),(1,.fn (.func 131) [] [.pb 0 0]),(7,.d (.i (a0.length:Int))),(8,.d (.i p0))],[(0,.box 0 [.d (.i p_0),.d (.s p_1),.d (.s p_2),.d (.u p_3),sl eS p_4,.d (.i p_5),.d (.i p_6),.d (.t p_7),.d (.i p_8),sl eS p_9,sl Ai p_10,.d (.u p_11),.d (.u p_12)] 28)],[],1⟩) (fun p=> ∃i:Nat,p.1=(i:Int)∧i≤a0.length∧Ep (AH a0) (a0.length-i) (i:Int) p.2=some x1) (fun p=>a0.length-p.1.toNat) (0,(k0.Serial,k0.Issuer,k0.Subject,k0.Key,k0.Names,k0.From,k0.Until,k0.Ca,k0.Depth,k0.Permit,k0.Proms,k0.Sig.E,k0.Sig.S)) ⟨0,rfl,Nat.zero_le _,q1⟩ ?_;rintro⟨_,s1⟩ ⟨i1,rfl,hi,q2⟩ Jl bl1;refine gi' (b:=decide ((i1:Int)<(a0.length:Int))) (fun hc2=> ?_) fun hc2=> ?_
   ·have hlt1:i1<a0.length:=by have:=of_decide_eq_true hc2; omega
    obtain⟨y2,q4,q3⟩:=HS q2 hlt1;unfold AH at q4;obtain⟨x3,q6,q4⟩:=Aa q4;refine Ga (k:=1) (E:=eS) (fun _=>rfl) (fun _=>q6) ?_;obtain⟨x4,q7,q4⟩:=Aa q4;refine gco (Nm q7) ?_;refine gi q4 (fun hc1 q4=> ?_) fun hc1 q4=> ?_
    ·skip;cases q4;rcases q3 with ⟨sn,e,_⟩|⟨tn,e,e2⟩
     ·cases e
     cases e;cases e2;dsimp only at hm;have e0:=Option.some.inj hm;subst e0;exact Aq hd
    have e0:=Option.some.inj q4;subst e0;rcases q3 with ⟨sn,e,q3'⟩|⟨tn,e,_⟩
    ·have e:=Sum.inl.inj e;subst e;exact gb bl1 hd (w64 ((i1:Int)+1),_) ⟨⟨i1+1,Bx hlt1 hle1,by omega,q3'⟩,IC hlt1 hle1⟩
    cases AM e
   have hlt1: ¬i1<a0.length:=by have:=of_decide_eq_false hc2; omega
   have e:=GL q2 hlt1;cases e;exact gb bk1 hd _ rfl
  subst hy;dsimp only at hm;have e0:=Option.some.inj hm;subst e0;exact Aq hd
def AN (a0:List ByteArray)(k0:g_api_Cert):Option (Bool×g_api_Cert):=Ac (Bf a0 k0) fun x1=>some ((decide (x1.1≥0)),x1.2)
theorem EM {a0:List ByteArray}{k0:g_api_Cert}{r:Bool×g_api_Cert}(hm:AN a0 k0=some r):Sp prog 132 [sl eS a0,.fn (.func 131) [] [.pb 0 0]] [.box 0 [.d (.i k0.Serial),.d (.s k0.Issuer),.d (.s k0.Subject),.d (.u k0.Key),sl eS k0.Names,.d (.i k0.From),.d (.i k0.Until),.d (.t k0.Ca),.d (.i k0.Depth),sl eS k0.Permit,sl Ai k0.Proms,.d (.u k0.Sig.E),.d (.u k0.Sig.S)] 28] 1 (is (.d (.t r.1)) [.box 0 [.d (.i r.2.Serial),.d (.s r.2.Issuer),.d (.s r.2.Subject),.d (.u r.2.Key),.d (.sl _ eS r.2.Names),.d (.i r.2.From),.d (.i r.2.Until),.d (.t r.2.Ca),.d (.i r.2.Depth),.d (.sl _ eS r.2.Permit),.d (.sl _ Ai r.2.Proms),.d (.u r.2.Sig.E),.d (.u r.2.Sig.S)] 28] 1):=
 sp call132 func132 rfl ntmps132 rfl fun D0 As η0 m0 hd=>by
  unfold AN at hm;obtain⟨x1,q1,hm⟩:=Aa hm;refine gco (Fw q1) ?_;have e0:=Option.some.inj hm;subst e0;exact Aq hd
def Db (a0:g_path_trip)(x6:List g_api_Cert)(i1:Int)(s1:Unit):Option ((Unit)⊕Int):=Ac (idx x6 (i1:Int)) fun x9=>bnd ((decide (x9.Depth<(i1:Int)))) fun x10=>if x10=true then some (.inr 191)else if(decide ((x9.Permit.length:Int)>0))=true then Ac (idx a0.chain_ 0) fun x11=>Ac (AN x11.Names x9) fun x12=>if x12.1=true then some (.inr 110)else some (.inl ())else some (.inl ())
def EA (a0:g_path_trip)(a1:g_api_Cert):Option Int:=Ac (idx a0.chain_ (w64 ((a0.chain_.length:Int)-1))) fun x1=>Ac (CQ x1 a1) fun x2=>if(x2 !=0)=true then some x2 else Ac (DC a0 a1) fun x3=>if(!x3)=true then some 190 else Ac (cut a0.chain_ 1 (a0.chain_.length:Int)) fun x4=>Ac (AX x4) fun x5=>Ac (app 168 x5 ([a1]:List g_api_Cert)) fun x6=>Ac (Ep (Db a0 x6) x6.length 0 ()) fun x7=>match x7 with| .inr r=>some r| .inl y1=>some 0
theorem O9 {a0:g_path_trip}{a1:g_api_Cert}{r:Int}(hm:EA a0 a1=some r):Sf prog 79 [ag (Er a0),ag (Ad a1)] (.d (.i r)):=
 sp call79 func79 rfl ntmps79 rfl fun D0 As η0 m0 hd=>by
  unfold EA at hm;obtain⟨x1,q1,hm⟩:=Aa hm;refine Ga (k:=13) (E:=Ad) (fun _=>rfl) (fun _=>q1) ?_;obtain⟨x2,q2,hm⟩:=Aa hm;refine gc (fun _=>G3 q2) ?_;refine gi hm (fun hc1 hm=> ?_) fun hc1 hm=> ?_
  ·skip;have e0:=Option.some.inj hm;subst e0;exact Aq hd
  obtain⟨x3,q3,hm⟩:=Aa hm;refine gc (fun _=>IE q3) ?_;refine gi hm (fun hc2 hm=> ?_) fun hc2 hm=> ?_
  ·skip;have e0:=Option.some.inj hm;subst e0;exact Aq hd
  obtain⟨x4,q4,hm⟩:=Aa hm;refine gcut (k:=13) (E:=Ad) (fun _=>rfl) (fun _=>q4) ?_;obtain⟨x5,q5,hm⟩:=Aa hm;refine gco (DQ q5) ?_;refine Fc (k:=13) Ad ([a1]:List g_api_Cert) (fun _=>rfl) ?_;obtain⟨x6,q6,hm⟩:=Aa hm;refine KZ (k:=13) (E:=Ad) (fun _=>rfl) q6 ?_;obtain⟨x7,q7,hm⟩:=Aa hm;refine PU 0 (E:=Ad) (xs:=x6) 32 fun hle1=> ?_;refine gjU 0 (fun(y1:Unit)=>⟨[(3,.pb 1 0),(2,.pb 0 0)],[(0,.box 1 [.d (.i a1.Serial),.d (.s a1.Issuer),.d (.s a1.Subject),.d (.u a1.Key),sl eS a1.Names,.d (.i a1.From),.d (.i a1.Until),.d (.t a1.Ca),.d (.i a1.Depth),sl eS a1.Permit,sl Ai a1.Proms,.d (.u a1.Sig.E),.d (.u a1.Sig.S)] 28),(1,.box 0 [sl Ad a0.roots_,sl Ad a0.chain_,.d (.s a0.name_),.d (.i a0.now_)] 57)],[],2⟩) (fun y1=>x7= .inl y1) (fun Jp bk1=> ?_) fun y1 hy=> ?_
  ·refine gl hd (fun(p:Int×(Unit))=>let (p0,_):=p; ⟨[(2,.pb 0 0),(32,.ow 2),(33,.d (.i (x6.length:Int))),(34,.d (.i p0)),(3,.pb 1 0)],[(0,.row 2 13 _ Ad x6),(1,.box 1 [.d (.i a1.Serial),.d (.s a1.Issuer),.d (.s a1.Subject),.d (.u a1.Key),sl eS a1.Names,.d (.i a1.From),.d (.i a1.Until),.d (.t a1.Ca),.d (.i a1.Depth),sl eS a1.Permit,sl Ai a1.Proms,.d (.u a1.Sig.E),.d (.u a1.Sig.S)] 28),(2,.box 0 [sl Ad a0.roots_,sl Ad a0.chain_,.d (.s a0.name_),.d (.i a0.now_)] 57)],[],3⟩) (fun p=> ∃i:Nat,p.1=(i:Int)∧i≤x6.length∧Ep (Db a0 x6) (x6.length-i) (i:Int) p.2=some x7) (fun p=>x6.length-p.1.toNat) (0,()) ⟨0,rfl,Nat.zero_le _,q7⟩ ?_;rintro⟨_,s1⟩ ⟨i1,rfl,hi,q8⟩ Jl bl1;refine gi' (b:=decide ((i1:Int)<(x6.length:Int))) (fun hc6=> ?_) fun hc6=> ?_
   ·have hlt1:i1<x6.length:=by have:=of_decide_eq_true hc6; omega
    obtain⟨y2,q10,q9⟩:=HS q8 hlt1;unfold Db at q10;obtain⟨x9,q12,q10⟩:=Aa q10;refine Rk (E:=Ad) (fun _=>q12) ?_;refine Aco (k:=13) (fo:=0) (nn:=13) (ag:=true) (E:=Ad) (fun _=>rfl) (fun _=>q12) ?_;have q10:=AO q10;let x10:Bool:=((decide (x9.Depth<(i1:Int))));refine gi q10 (fun hc3 q10=> ?_) fun hc3 q10=> ?_
    ·skip;cases q10;rcases q9 with ⟨sn,e,_⟩|⟨tn,e,e2⟩
     ·cases e
     cases e;cases e2;dsimp only at hm;have e0:=Option.some.inj hm;subst e0;exact Aq hd
    refine gspl 50 q10 (fun hc4 q10=> ?_) fun hc4 q10=> ?_
    ·obtain⟨x11,q14,q10⟩:=Aa q10;refine Ga (k:=13) (E:=Ad) (fun _=>rfl) (fun _=>q14) ?_;obtain⟨x12,q15,q10⟩:=Aa q10;refine gco (EM q15) ?_;refine gi q10 (fun hc5 q10=> ?_) fun hc5 q10=> ?_
     ·skip;cases q10;rcases q9 with ⟨sn,e,_⟩|⟨tn,e,e2⟩
      ·cases e
      cases e;cases e2;dsimp only at hm;have e0:=Option.some.inj hm;subst e0;exact Aq hd
     have e0:=Option.some.inj q10;subst e0;rcases q9 with ⟨sn,e,q9'⟩|⟨tn,e,_⟩
     ·have e:=Sum.inl.inj e;subst e;exact gb bl1 hd (w64 ((i1:Int)+1),_) ⟨⟨i1+1,Bx hlt1 hle1,by omega,q9'⟩,IC hlt1 hle1⟩
     cases AM e
    refine gi' (b:=false) (fun h=>by cases h) (fun _=> ?_);have e0:=Option.some.inj q10;subst e0;rcases q9 with ⟨sn,e,q9'⟩|⟨tn,e,_⟩
    ·have e:=Sum.inl.inj e;subst e;exact gb bl1 hd (w64 ((i1:Int)+1),_) ⟨⟨i1+1,Bx hlt1 hle1,by omega,q9'⟩,IC hlt1 hle1⟩
    cases AM e
   have hlt1: ¬i1<x6.length:=by have:=of_decide_eq_false hc6; omega
   have e:=GL q8 hlt1;cases e;exact gb bk1 hd _ rfl
  subst hy;dsimp only at hm;have e0:=Option.some.inj hm;subst e0;exact Aq hd
def Bb (a0:g_path_trip)(s1:Int×Int):Option ((Int×Int)⊕((Int)⊕Int)):=if(decide (s1.2≥0))=true then Ac (idx a0.roots_ s1.2) fun x4=>Ac (EA a0 x4) fun x5=>if(x5==0)=true then some (.inr (.inr 0))else some (.inl (x5,(w64 (s1.2-1))))else some (.inr (.inl s1.1))
def Dc (a0:g_path_trip):Option Int:=bnd ((w64 ((a0.roots_.length:Int)-1))) fun x1=>Ac (iter (Bb a0) AR (191,x1)) fun x2=>match x2 with| .inr r=>some r| .inl y1=>some y1
theorem K5 {a0:g_path_trip}{r:Int}(hm:Dc a0=some r):Sf prog 38 [ag (Er a0)] (.d (.i r)):=
 sp call38 func38 rfl ntmps38 rfl fun D0 As η0 m0 hd=>by
  unfold Dc at hm;have hm:=AO hm;let x1:Int:=((w64 ((a0.roots_.length:Int)-1)));obtain⟨x2,q2,hm⟩:=Aa hm;refine gjU 0 (fun(y1:Int)=>⟨[(3,.d (.i y1)),(1,.pb 0 0)],[(0,.box 0 [sl Ad a0.roots_,sl Ad a0.chain_,.d (.s a0.name_),.d (.i a0.now_)] 57)],[],1⟩) (fun y1=>x2= .inl y1) (fun Jp bk1=> ?_) fun y1 hy=> ?_
  ·refine gl hd (fun(p:Nat×(Int×Int))=>let (p0,p_0,p_1):=p; ⟨[(1,.pb 0 0),(3,.d (.i p_0)),(4,.d (.i p_1))],[(0,.box 0 [sl Ad a0.roots_,sl Ad a0.chain_,.d (.s a0.name_),.d (.i a0.now_)] 57)],[],1⟩) (fun p=>iter (Bb a0) p.1 p.2=some x2) (fun p=>p.1) (AR,(191,x1)) q2 ?_;rintro⟨n1,s1⟩ q3 Jl bl1;cases n1 with
   |zero=>exact(An q3).elim
   |succ n1=>
    obtain⟨y2,q5,q4⟩:=Am q3;unfold Bb at q5;refine gi q5 (fun hc1 q5=> ?_) fun hc1 q5=> ?_
    ·skip;obtain⟨x4,q7,q5⟩:=Aa q5;refine Ga (k:=13) (E:=Ad) (fun _=>rfl) (fun _=>q7) ?_;obtain⟨x5,q8,q5⟩:=Aa q5;refine gc (fun _=>O9 q8) ?_;refine gi q5 (fun hc2 q5=> ?_) fun hc2 q5=> ?_
     ·skip;cases q5;rcases q4 with ⟨sn,e,_⟩|e
      ·cases e
      cases e;dsimp only at hm;have e0:=Option.some.inj hm;subst e0;exact Aq hd
     have e0:=Option.some.inj q5;subst e0;rcases q4 with ⟨sn,e,q4'⟩|e
     ·have e:=Sum.inl.inj e;subst e;exact gb bl1 hd (n1,_) ⟨q4',Nat.lt_succ_self _⟩
     cases AM e
    have e0:=Option.some.inj q5;subst e0;rcases q4 with ⟨sn,e,_⟩|e
    ·cases Bv e
    have e:=Sum.inr.inj e;subst e;exact gb bk1 hd s1.1 rfl
  subst hy;dsimp only at hm;have e0:=Option.some.inj hm;subst e0;exact Aq hd
def Hn (x:FH):Option Int:=if x.k=34 then DD x.a else if x.k=35 then Eu x.a else if x.k=36 then DX x.a else if x.k=37 then DW x.a else if x.k=38 then Dc x.a else none
theorem Zd {x:FH}{r:Int}(hm:Hn x=some r):Sf prog x.k [ag (Er x.a)] (.d (.i r)):=by
 unfold Hn at hm;split at hm
 ·rename_i h;rw[h];exact LA hm
 split at hm
 ·rename_i h;rw[h];exact Nl hm
 split at hm
 ·rename_i h;rw[h];exact Mp hm
 split at hm
 ·rename_i h;rw[h];exact Mo hm
 split at hm
 ·rename_i h;rw[h];exact K5 hm
 cases hm
def DE (i1:Int)(x2:FH)(s1:Unit):Option ((Unit)⊕Int):=Ac (Hn x2) fun x3=>if(x3 !=0)=true then some (.inr x3)else some (.inl ())
def KE (a0:List FH):Option Int:=Ac (Fe DE a0 0 ()) fun x1=>match x1 with| .inr r=>some r| .inl y1=>some 0
theorem VJ {a0:List FH}{r:Int}(hm:KE a0=some r):Sf prog 33 [sl OR a0] (.d (.i r)):=
 sp call33 func33 rfl ntmps33 rfl fun D0 As η0 m0 hd=>by
  unfold KE at hm;obtain⟨x1,q1,hm⟩:=Aa hm;refine PU 0 (E:=OR) (xs:=a0) 6 fun hle1=> ?_;refine gjU 0 (fun(y1:Unit)=>⟨[],[],[],0⟩) (fun y1=>x1= .inl y1) (fun Jp bk1=> ?_) fun y1 hy=> ?_
  ·refine gl hd (fun(p:Int×(Unit))=>let (p0,_):=p; ⟨[(6,sl OR a0),(7,.d (.i (a0.length:Int))),(8,.d (.i p0))],[],[],0⟩) (fun p=> ∃i:Nat,p.1=(i:Int)∧i≤a0.length∧Fe DE (a0.drop i) (i:Int) p.2=some x1) (fun p=>a0.length-p.1.toNat) (0,()) ⟨0,rfl,Nat.zero_le _,q1⟩ ?_;rintro⟨_,s1⟩ ⟨i1,rfl,hi,q2⟩ Jl bl1;refine gi' (b:=decide ((i1:Int)<(a0.length:Int))) (fun hc2=> ?_) fun hc2=> ?_
   ·have hlt1:i1<a0.length:=by have:=of_decide_eq_true hc2; omega
    obtain⟨x2,y2,q5,q4,q3⟩:=IN q2 hlt1;unfold DE at q4;refine Ga (k:=1) (E:=OR) (fun _=>rfl) (fun _=>q5) ?_;obtain⟨x3,q6,q4⟩:=Aa q4;refine gdyc (fun _=>Zd q6) ?_;refine gi q4 (fun hc1 q4=> ?_) fun hc1 q4=> ?_
    ·skip;cases q4;rcases q3 with ⟨sn,e,_⟩|⟨tn,e,e2⟩
     ·cases e
     cases e;cases e2;dsimp only at hm;have e0:=Option.some.inj hm;subst e0;exact Aq hd
    have e0:=Option.some.inj q4;subst e0;rcases q3 with ⟨sn,e,q3'⟩|⟨tn,e,_⟩
    ·have e:=Sum.inl.inj e;subst e;exact gb bl1 hd (w64 ((i1:Int)+1),_) ⟨⟨i1+1,Bx hlt1 hle1,by omega,q3'⟩,IC hlt1 hle1⟩
    cases AM e
   have hlt1: ¬i1<a0.length:=by have:=of_decide_eq_false hc2; omega
   have e:=Hy q2 hlt1;cases e;exact gb bk1 hd _ rfl
  subst hy;dsimp only at hm;have e0:=Option.some.inj hm;subst e0;exact Aq hd
def Cd (a0:List g_api_Cert)(a1:List g_api_Cert)(a2:ByteArray)(a3:Int):Option Int:=Ac (KE ([(⟨34,(⟨a0,a1,a2,a3⟩:g_path_trip)⟩:FH),(⟨35,(⟨a0,a1,a2,a3⟩:g_path_trip)⟩:FH),(⟨36,(⟨a0,a1,a2,a3⟩:g_path_trip)⟩:FH),(⟨37,(⟨a0,a1,a2,a3⟩:g_path_trip)⟩:FH),(⟨38,(⟨a0,a1,a2,a3⟩:g_path_trip)⟩:FH)]:List FH)) fun x1=>some x1
theorem Du {a0:List g_api_Cert}{a1:List g_api_Cert}{a2:ByteArray}{a3:Int}{r:Int}(hm:Cd a0 a1 a2 a3=some r):Sf prog 15 [sl Ad a0,sl Ad a1,.d (.s a2),.d (.i a3)] (.d (.i r)):=
 sp call15 func15 rfl ntmps15 rfl fun D0 As η0 m0 hd=>by
  unfold Cd at hm;refine Fc (k:=1) OR ([(⟨34,(⟨a0,a1,a2,a3⟩:g_path_trip)⟩:FH),(⟨35,(⟨a0,a1,a2,a3⟩:g_path_trip)⟩:FH),(⟨36,(⟨a0,a1,a2,a3⟩:g_path_trip)⟩:FH),(⟨37,(⟨a0,a1,a2,a3⟩:g_path_trip)⟩:FH),(⟨38,(⟨a0,a1,a2,a3⟩:g_path_trip)⟩:FH)]:List FH) (fun _=>rfl) ?_;obtain⟨x1,q1,hm⟩:=Aa hm;refine gc (fun _=>VJ q1) ?_;have e0:=Option.some.inj hm;subst e0;exact Aq hd
def MH (a0:UInt64):Option Bool:=bnd ((((a0.toNat:Int)==0)||(decide ((a0.toNat:Int)≥1152921504606845789)))) fun x1=>some x1
theorem VF {a0:UInt64}{r:Bool}(hm:MH a0=some r):Sf prog 142 [.d (.u a0)] (.d (.t r)):=
 sp call142 func142 rfl ntmps142 rfl fun D0 As η0 m0 hd=>by
  unfold MH at hm;have hm:=AO hm;let x1:Bool:=((((a0.toNat:Int)==0)||(decide ((a0.toNat:Int)≥1152921504606845789))));have e0:=Option.some.inj hm;subst e0;exact Aq hd
def HL (a0:UInt64):Option (UInt64×Int):=Ac (MH a0) fun x1=>if x1=true then some (0,1)else Ac (CX a0) fun x2=>some (x2,0)
theorem Lx {a0:UInt64}{r:UInt64×Int}(hm:HL a0=some r):Sf prog 85 [.d (.u a0)] (.tup [.d (.u r.1),.d (.i r.2)]):=
 sp call85 func85 rfl ntmps85 rfl fun D0 As η0 m0 hd=>by
  unfold HL at hm;obtain⟨x1,q1,hm⟩:=Aa hm;refine gc (fun _=>VF q1) ?_;refine gi hm (fun hc1 hm=> ?_) fun hc1 hm=> ?_
  ·skip;have e0:=Option.some.inj hm;subst e0;exact Aq hd
  obtain⟨x2,q2,hm⟩:=Aa hm;refine gc (fun _=>Ju q2) ?_;have e0:=Option.some.inj hm;subst e0;exact Aq hd
def JB (a0:ByteArray)(a1:List (List UInt8)):Option UInt64:=Ac (Fo a0 a1) fun x1=>Ac (HW x1 1152921504606845788) fun x2=>some (x2+1)
theorem NN {a0:ByteArray}{a1:List (List UInt8)}{r:UInt64}(hm:JB a0 a1=some r):Sf prog 143 [.d (.s a0),sl (eL eB) a1] (.d (.u r)):=
 sp call143 func143 rfl ntmps143 rfl fun D0 As η0 m0 hd=>by
  unfold JB at hm;obtain⟨x1,q1,hm⟩:=Aa hm;refine gc (fun _=>LD q1) ?_;obtain⟨x2,q2,hm⟩:=Aa hm;refine gc (fun _=>Pv q2) ?_;have e0:=Option.some.inj hm;subst e0;exact Aq hd
def HJ (a0:List UInt8):Option UInt64:=Ac (JB (⟨#[115,101,99,114,101,116]⟩:ByteArray) ([a0]:List (List UInt8))) fun x1=>some x1
theorem Lw {a0:List UInt8}{r:UInt64}(hm:HJ a0=some r):Sf prog 86 [sl eB a0] (.d (.u r)):=
 sp call86 func86 rfl ntmps86 rfl fun D0 As η0 m0 hd=>by
  unfold HJ at hm;refine Fc (k:=1) (eL eB) ([a0]:List (List UInt8)) (fun _=>rfl) ?_;obtain⟨x1,q1,hm⟩:=Aa hm;refine gc (fun _=>NN q1) ?_;have e0:=Option.some.inj hm;subst e0;exact Aq hd
def Ip (a0:ByteArray):Option UInt64:=Ac (app 1 ([]:List UInt8) a0.data.toList) fun x1=>Ac (HJ x1) fun x2=>Ac (HL x2) fun x3=>some x3.1
theorem K6 {a0:ByteArray}{r:UInt64}(hm:Ip a0=some r):Sf prog 47 [.d (.s a0)] (.d (.u r)):=
 sp call47 func47 rfl ntmps47 rfl fun D0 As η0 m0 hd=>by
  unfold Ip at hm;obtain⟨x1,q1,hm⟩:=Aa hm;refine gofS q1 ?_;obtain⟨x2,q2,hm⟩:=Aa hm;refine gco (Lw q2) ?_;obtain⟨x3,q3,hm⟩:=Aa hm;refine gc (fun _=>Lx q3) ?_;have e0:=Option.some.inj hm;subst e0;exact Aq hd
def Kl (a0:ByteArray)(a1:Int)(a2:Int)(a3:Int):Option g_api_Cert:=Ac (AcK (⟨#[114]⟩:ByteArray) a0) fun x1=>Ac (Ip x1) fun x2=>some (⟨1,(⟨#[114]⟩:ByteArray),(⟨#[114]⟩:ByteArray),x2,[],a2,a3,true,a1,[],[],(⟨0,0⟩:g_api_Sig)⟩:g_api_Cert)
theorem R0 {a0:ByteArray}{a1:Int}{a2:Int}{a3:Int}{r:g_api_Cert}(hm:Kl a0 a1 a2 a3=some r):Sf prog 20 [.d (.s a0),.d (.i a1),.d (.i a2),.d (.i a3)] (ag (Ad r)):=
 sp call20 func20 rfl ntmps20 rfl fun D0 As η0 m0 hd=>by
  unfold Kl at hm;obtain⟨x1,q1,hm⟩:=Aa hm;refine gcat (fun _=>q1) ?_;obtain⟨x2,q2,hm⟩:=Aa hm;refine gc (fun _=>K6 q2) ?_;have e0:=Option.some.inj hm;subst e0;exact Aq hd
def Hh (a0:UInt64)(a1:UInt64)(a2:UInt64):Option UInt64:=if a0≠0 then if a0≠0 then Ac (E9 (IP (a1%a0) (a2%a0)) ((a1%a0)+(a2%a0)) a0) fun x1=>some x1 else none else none
theorem Mr {a0:UInt64}{a1:UInt64}{a2:UInt64}{r:UInt64}(hm:Hh a0 a1 a2=some r):Sf prog 191 [.d (.u a0),.d (.u a1),.d (.u a2)] (.d (.u r)):=
 sp call191 func191 rfl ntmps191 rfl fun D0 As η0 m0 hd=>by
  unfold Hh at hm;obtain⟨q1,hm⟩:=Ck hm;refine Ve (d:= .u a0) (r:= .u (a1%a0)) (fun h=>q1) ?_;obtain⟨q2,hm⟩:=Ck hm;refine Ve (d:= .u a0) (r:= .u (a2%a0)) (fun h=>q2) ?_;refine AaW (p:=(a1%a0)) (q:=(a2%a0)) func162 ?_;obtain⟨x1,q3,hm⟩:=Aa hm;refine gc (fun _=>MU q3) ?_;have e0:=Option.some.inj hm;subst e0;exact Aq hd
def JG (a0:UInt64)(a1:UInt64):Option UInt64:=Ac (Hh 1152921504606845789 a0 a1) fun x1=>some x1
theorem QC {a0:UInt64}{a1:UInt64}{r:UInt64}(hm:JG a0 a1=some r):Sf prog 144 [.d (.u a0),.d (.u a1)] (.d (.u r)):=
 sp call144 func144 rfl ntmps144 rfl fun D0 As η0 m0 hd=>by
  unfold JG at hm;obtain⟨x1,q1,hm⟩:=Aa hm;refine gc (fun _=>Mr q1) ?_;have e0:=Option.some.inj hm;subst e0;exact Aq hd
def JF (a0:UInt64)(a1:UInt64):Option UInt64:=Ac (Bo 1152921504606845789 a0 a1) fun x1=>some x1
theorem QB {a0:UInt64}{a1:UInt64}{r:UInt64}(hm:JF a0 a1=some r):Sf prog 145 [.d (.u a0),.d (.u a1)] (.d (.u r)):=
 sp call145 func145 rfl ntmps145 rfl fun D0 As η0 m0 hd=>by
  unfold JF at hm;obtain⟨x1,q1,hm⟩:=Aa hm;refine gc (fun _=>I7 q1) ?_;have e0:=Option.some.inj hm;subst e0;exact Aq hd
def Lf (a0:UInt64)(a1:List UInt8):Option (g_api_Sig×Int):=Ac (HL a0) fun x1=>if(x1.2 !=0)=true then some ((⟨0,0⟩:g_api_Sig),x1.2)else Ac (D4 a0) fun x2=>Ac (JB (⟨#[110,111,110,99,101]⟩:ByteArray) ([x2,a1]:List (List UInt8))) fun x3=>Ac (CX x3) fun x4=>Ac (Cn x4 x1.1 a1) fun x5=>Ac (JF x5 a0) fun x6=>Ac (JG x6 x3) fun x7=>some ((⟨x5,x7⟩:g_api_Sig),0)
theorem Tn {a0:UInt64}{a1:List UInt8}{r:g_api_Sig×Int}(hm:Lf a0 a1=some r):Sf prog 87 [.d (.u a0),sl eB a1] (.tup [ag (Ix r.1),.d (.i r.2)]):=
 sp call87 func87 rfl ntmps87 rfl fun D0 As η0 m0 hd=>by
  unfold Lf at hm;obtain⟨x1,q1,hm⟩:=Aa hm;refine gc (fun _=>Lx q1) ?_;refine gi hm (fun hc1 hm=> ?_) fun hc1 hm=> ?_
  ·skip;have e0:=Option.some.inj hm;subst e0;exact Aq hd
  obtain⟨x2,q2,hm⟩:=Aa hm;refine gco (J9 q2) ?_;refine Wa (k:=1) (eL eB) ([x2,a1]:List (List UInt8)) (fun _=>rfl) ?_;obtain⟨x3,q3,hm⟩:=Aa hm;refine gc (fun _=>NN q3) ?_;obtain⟨x4,q4,hm⟩:=Aa hm;refine gc (fun _=>Ju q4) ?_;obtain⟨x5,q5,hm⟩:=Aa hm;refine gc (fun _=>JO q5) ?_;obtain⟨x6,q6,hm⟩:=Aa hm;refine gc (fun _=>QB q6) ?_;obtain⟨x7,q7,hm⟩:=Aa hm;refine gc (fun _=>QC q7) ?_;have e0:=Option.some.inj hm;subst e0;exact Aq hd
def Hm (a0:g_api_Cert)(a1:ByteArray):Option g_api_Cert:=Ac (Hj a0) fun x1=>Ac (app 1 ([]:List UInt8) a1.data.toList) fun x2=>Ac (HJ x2) fun x3=>Ac (Lf x3 x1.1) fun x4=>some (⟨a0.Serial,a0.Issuer,a0.Subject,a0.Key,a0.Names,a0.From,a0.Until,a0.Ca,a0.Depth,a0.Permit,a0.Proms,x4.1⟩:g_api_Cert)
theorem KV {a0:g_api_Cert}{a1:ByteArray}{r:g_api_Cert}(hm:Hm a0 a1=some r):Sf prog 48 [ag (Ad a0),.d (.s a1)] (ag (Ad r)):=
 sp call48 func48 rfl ntmps48 rfl fun D0 As η0 m0 hd=>by
  unfold Hm at hm;obtain⟨x1,q1,hm⟩:=Aa hm;refine gco (N8 q1) ?_;obtain⟨x2,q2,hm⟩:=Aa hm;refine gofS q2 ?_;obtain⟨x3,q3,hm⟩:=Aa hm;refine gco (Lw q3) ?_;obtain⟨x4,q4,hm⟩:=Aa hm;refine gco (Tn q4) ?_;have e0:=Option.some.inj hm;subst e0;exact Aq hd
def IT (a0:ByteArray)(a1:List ByteArray)(a2:Int)(a3:Int):Option g_api_Cert:=Ac (AcK (⟨#[109]⟩:ByteArray) a0) fun x1=>Ac (Ip x1) fun x2=>Ac (AcK (⟨#[114]⟩:ByteArray) a0) fun x3=>Ac (Hm (⟨2,(⟨#[114]⟩:ByteArray),(⟨#[109]⟩:ByteArray),x2,[],a2,a3,true,0,a1,[],(⟨0,0⟩:g_api_Sig)⟩:g_api_Cert) x3) fun x4=>some x4
theorem Pa {a0:ByteArray}{a1:List ByteArray}{a2:Int}{a3:Int}{r:g_api_Cert}(hm:IT a0 a1 a2 a3=some r):Sf prog 21 [.d (.s a0),sl eS a1,.d (.i a2),.d (.i a3)] (ag (Ad r)):=
 sp call21 func21 rfl ntmps21 rfl fun D0 As η0 m0 hd=>by
  unfold IT at hm;obtain⟨x1,q1,hm⟩:=Aa hm;refine gcat (fun _=>q1) ?_;obtain⟨x2,q2,hm⟩:=Aa hm;refine gc (fun _=>K6 q2) ?_;obtain⟨x3,q3,hm⟩:=Aa hm;refine gcat (fun _=>q3) ?_;obtain⟨x4,q4,hm⟩:=Aa hm;refine gc (fun _=>KV q4) ?_;have e0:=Option.some.inj hm;subst e0;exact Aq hd
def Km (a0:ByteArray)(a1:ByteArray)(a2:Int)(a3:Int):Option g_api_Cert:=Ac (AcK (⟨#[108]⟩:ByteArray) a0) fun x1=>Ac (Ip x1) fun x2=>Ac (AcK (⟨#[109]⟩:ByteArray) a0) fun x3=>Ac (Hm (⟨3,(⟨#[109]⟩:ByteArray),ByteArray.empty,x2,([a1]:List ByteArray),a2,a3,false,0,[],[],(⟨0,0⟩:g_api_Sig)⟩:g_api_Cert) x3) fun x4=>some x4
theorem R2 {a0:ByteArray}{a1:ByteArray}{a2:Int}{a3:Int}{r:g_api_Cert}(hm:Km a0 a1 a2 a3=some r):Sf prog 22 [.d (.s a0),.d (.s a1),.d (.i a2),.d (.i a3)] (ag (Ad r)):=
 sp call22 func22 rfl ntmps22 rfl fun D0 As η0 m0 hd=>by
  unfold Km at hm;obtain⟨x1,q1,hm⟩:=Aa hm;refine gcat (fun _=>q1) ?_;obtain⟨x2,q2,hm⟩:=Aa hm;refine gc (fun _=>K6 q2) ?_;refine Fc (k:=1) eS ([a1]:List ByteArray) (fun _=>rfl) ?_;obtain⟨x3,q3,hm⟩:=Aa hm;refine gcat (fun _=>q3) ?_;obtain⟨x4,q4,hm⟩:=Aa hm;refine gc (fun _=>KV q4) ?_;have e0:=Option.some.inj hm;subst e0;exact Aq hd
abbrev OC:=Option g_api_Cert
def oD:OC→List D
 |some c=>Ad c
 |none=> []
def eOC (o:OC):List D:=[.op o.isSome (oD o)]
instance:GoT OC:=Ns eOC 1
theorem b_OC:Br OC eOC:=⟨fun h=>h.1,fun h=>⟨h,rfl⟩,fun _=>rfl⟩
def EH (a0:List OC):Option (List OC):=Ac (app 8 ([]:List OC) a0) fun x1=>some x1
theorem Lv {m:Mem}{As:List Ow}{w:World}{a0:List OC}{a0v0:Value}{r:List OC}(S:St m (As) w)(a0h0:SlR m a0v0 a0)(hm:EH a0=some r):
  AB Tryz.prog 89 #[a0v0] w fun v w'=> ∃(M:Mem),m≤M∧∃(rv0:Value) (rc0:List Value),St M ((row 1 rv0 rc0 r.length)::As) w'∧v=rv0∧BK M rc0 r:=by
 unfold EH at hm;have L0:=Mem.rfl' m;refine C9 (args:=[a0v0]) Tryz.func89 rfl Tryz.ntmps89 (Nat.le_of_ble_eq_true rfl) ?_;refine Ag ?_;refine Ae ?_;refine A4 (v:= .slice none 0 0) rfl ?_;refine Ah ?_;refine nrm ?_;refine Ag ?_;refine Ag ?_;refine Ae ?_;refine Ar (v:=a0v0) rfl ?_;refine Nz rfl rfl a0h0 Tryz.underlying69 ?_;refine Ah ?_;refine nrm ?_;refine Cz (t:=(Mc a0v0)) rfl (fun hc1=> ?_) (fun hc1=> ?_)
 ·have he1:a0=[]:=SlR.nilOf a0h0 hc1;rw[he1]at hm;replace hm:(some ([]:List OC))=some _:=hm;refine Ag ?_;refine Ae ?_;refine A4 (v:= .slice none 0 0) rfl ?_;refine Ah ?_;refine nrm ?_;refine Bw ?_;refine thR ?_;refine EE ?_;intro we hpd;replace S:=St.pd S hpd;have S1:=St.rowNil S 1;have h1:BK m [] ([]:List OC):=BK.nil;replace S1:St _ ((row 1 (.slice none 0 0) [] ([]:List OC).length)::As) _:=S1;clear S;have e0:=Option.some.inj hm;subst e0;exact IW [_] rfl ⟨rfl,trivial⟩ ⟨_,L0,_,_,S1,rfl,h1⟩
 refine A6 ?_;refine nrm ?_;refine Ag ?_;refine Ae ?_;refine Ka (parts:=[]) (vs:=[]) (cls:=[]) (n:=0) (sz:=1) S Tryz.underlying69 Tryz.sizeOf70 Tryz.zeroValue70 rfl trivial rfl rfl (by decide) (by decide) ?_;intro v1 w1 S2;have h2:BK m [] ([]:List OC):=BK.nil;replace S2:St _ ((row 1 v1 [] ([]:List OC).length)::As) _:=S2;clear S;refine Ar (v:=a0v0) rfl ?_;obtain⟨x1,q1,hm⟩:=Aa hm;refine TQ (i:=0) (zs:=x1) (bytes:=8) (ti:=Tryz.t70) S2 rfl rfl h2 rfl rfl a0h0 q1 Tryz.underlying69 Tryz.type70 rfl rfl rfl rfl ?_;intro v2 c1 w2 S3 h3;replace S3:St _ ((row 1 v2 c1 x1.length)::As) _:=S3;clear S2;refine A4 (v:=v2) rfl ?_;refine Ah ?_;refine nrm ?_;refine Bw ?_;refine EE ?_;intro we hpd;replace S3:=St.pd S3 hpd;have e0:=Option.some.inj hm;subst e0;exact IW [_] rfl ⟨rfl,trivial⟩ ⟨_,L0,_,_,S3,rfl,h3⟩
theorem LM {a0:List OC}{r:List OC}(hm:EH a0=some r):Sp prog 89 [sl eOC a0] [] 0 (is (.ow 0) [.row 0 1 _ eOC r] 1):=
 ⟨call89,fun η m As w vs hv0 hd S=>by
  have S:St m As w:=S;obtain⟨v0,u0,rfl,r0,hv1⟩:=BB.cons_inv hv0;have f0:=Br.ofS b_OC r0.dd;obtain rfl:=BB.nil_inv hv1;refine AB.mono (Lv S f0 hm) ?_;rintro v w' ⟨M,hle,y0,c0,S0,rfl,h0⟩;exact⟨M,(AaZ [v]),_,_,_,hle,Un hd _,⟨rfl,rfl,rfl⟩,JL rfl,(.ow rfl (EC S0)),(St.impL S0 (AbA (Br.toR b_OC rfl rfl (EC S0) h0) fun _ h=>h))⟩⟩
theorem w_clip {xs:List g_api_Cert}:Sf prog 90 [sl Ad xs] (.d (.kp _ Ad xs)):=
 sp call90 func90 rfl ntmps90 rfl fun D0 As η0 m0 hd=>by
  refine gclip (k:=13) (E:=Ad) (xs:=xs) (fun _=>rfl) ?_;exact Aq hd
theorem Aal {pool:List OC}{chain:List g_api_Cert}:Sf prog 49 [sl eOC pool,sl Ad chain] (.fn (.func 88) [] [.d (.pf [.sl _ Ad chain]),.d (.pf [.sl _ eOC pool])]):=
 sp call49 func49 rfl ntmps49 rfl fun D0 As η0 m0 hd=>by
  refine Uh 2 [.sl _ eOC pool] ?_;refine Uh 3 [.sl _ Ad chain] ?_;exact Aq hd
def wp {σ:Type}(y:σ→List g_api_Cert→Option (Bool×σ))(s:σ)(x:List g_api_Cert):Option (σ⊕σ):=Ac (y s x) fun r=>if(!r.1)=true then some (.inr r.2)else some (.inl r.2)
def Jd {σ:Type}(rec:((σ⊕σ)→List g_api_Cert→Option (Bool×(σ⊕σ)))→List OC→List g_api_Cert→(σ⊕σ)→Option (σ⊕σ))(y:σ→List g_api_Cert→Option (Bool×σ))(pool:List OC)(chain:List g_api_Cert)(i:Int)(c:OC)(s:σ):Option (σ⊕σ):=match c with|none=>some (.inl s)|some d=>Ac (idx chain (w64 ((chain.length:Int)-1))) fun last=>Ac (CQ last d) fun k=>if(k !=0)=true then some (.inl s)else Ac (EH pool) fun rest=>Ac (idx rest i) fun _=>Ac (app 168 chain [d]) fun ch=>rec (VT (wp y)) (rest.set i.toNat none) ch (.inl s)
def Kg:Nat→(σ:Type)→(σ→List g_api_Cert→Option (Bool×σ))→List OC→List g_api_Cert→σ→Option σ
 |0,_,_,_,_,_=>none
 |n+1,σ,y,pool,chain,s=>
  Ac (y s chain) fun r=>
  if((!r.1)||((chain.length:Int)==4))=true then some r.2 else
  Ac (Fe (Jd (Kg n (σ⊕σ)) y pool chain) pool 0 r.2) fun x=>match x with
  | .inr r=>some r
  | .inl r=>some r
theorem ZE {σ τ α:Type}{F:Int→α→σ→Option (σ⊕τ)}{xs:List α}{i:Nat}{s s0:σ}{x1:σ⊕τ}(hlt:i<xs.length)(hn:xs.length≤9223372036854775807)(q:Fe F (xs.drop (i+1)) ((i:Int)+1) s=some x1):
  (fun p:Int×σ=>(∃j:Nat,p.1=(j:Int)∧j≤xs.length∧Fe F (xs.drop j) (j:Int) p.2=some x1)∧xs.length-p.1.toNat<xs.length-((i:Int),s0).1.toNat) (w64 ((i:Int)+1),s):=
 ⟨⟨i+1,Bx hlt hn,hlt,q⟩,IC hlt hn⟩
theorem Ws: ∀(n:Nat) {σ:Type} {y:σ→List g_api_Cert→Option (Bool×σ)} {pool:List OC} {chain:List g_api_Cert} {s r:σ},Kg n σ y pool chain s=some r→
  ∀(g:Value) (R:σ→Mem→Ow),CbOk prog g (fun x=> [sl Ad x]) R y→
  Sp prog 88 [.ow 0,.d (.pf [.sl _ Ad chain]),.d (.pf [.sl _ eOC pool])] [.hp 0 (.cb g σ R s)] 1 (is (.tup []) [.hp 0 (.cb g σ R r)] 1)
 |0,_,_,_,_,_,_,hm=>by cases hm
 |n+1,σ,y,pool,chain,s,r,hm=>fun g R hcb=>spR call88 func88 rfl ntmps88 rfl fun D0 As η0 m0 hD hd=>by
  unfold Kg at hm;obtain⟨r1,q1,hm⟩:=Aa hm;refine gcb chain hcb q1 ?_;refine gi hm (fun hc1 hm=> ?_) fun hc1 hm=> ?_
  ·have e0:=Option.some.inj hm;subst e0;exact Aq hd
  obtain⟨x1,q2,hm⟩:=Aa hm;refine PU 0 (E:=eOC) (xs:=pool) 17 fun hle1=> ?_;refine gjU 0 (fun(y1:σ)=>⟨[(0,.ow 0)],[(0,.hp 0 (.cb g σ R y1))],[],1⟩) (fun y1=>x1= .inl y1) (fun Jp bk1=> ?_) fun y1 hy=> ?_
  ·refine gl hd (fun(p:Int×σ)=>⟨[(0,.ow 0),(1,.d (.pf [.sl _ Ad chain])),(2,.d (.pf [.sl _ eOC pool])),(3,.pb 1 0),(17,sl eOC pool),(18,.d (.i (pool.length:Int))),(19,.d (.i p.1))],[(0,.hp 0 (.cb g σ R p.2)),(1,.box 1 [.ow 0] 104)],[],2⟩)
    (fun p=> ∃i:Nat,p.1=(i:Int)∧i≤pool.length∧Fe (Jd (Kg n (σ⊕σ)) y pool chain) (pool.drop i) (i:Int) p.2=some x1) (fun p=>pool.length-p.1.toNat) ((0:Int),r1.2) ⟨0,rfl,Nat.zero_le _,q2⟩ ?_
   rintro⟨_,s1⟩ ⟨i1,rfl,hi,q3⟩ Jl bl1;refine gi' (b:=decide ((i1:Int)<(pool.length:Int))) (fun hc2=> ?_) fun hc2=> ?_
   ·have hlt1:i1<pool.length:=by have:=of_decide_eq_true hc2; omega
    obtain⟨x2,y2,q5,q4,q6⟩:=IN q3 hlt1;unfold Jd at q4;refine Ga (k:=1) (E:=eOC) (fun _=>rfl) (fun _=>q5) ?_;cases x2 with
    |none=>
     have e0:=Option.some.inj q4;refine geqN (p:=false) (ds:=[]) ?_;refine JT (c:=false) (k:=13) (E:=Ad) (xs:=chain) (j:=w64 ((chain.length:Int)-1)) (x:=default) (fun _=>rfl) (fun h=>by cases h) ?_;refine gnckG (c:=false) (p:=false) (ds:=[]) (ds':=Ad default) (fun h=>by cases h) ?_;refine gcG (c:=false) (k:=13) (ea:=[ag (Ad default),ag (Ad default)]) (r:= .d (.i 0)) (fun h=>by cases h) ?_;refine gi' (b:=true) (fun _=> ?_) (fun h=>by cases h);subst e0;rcases q6 with ⟨sn,e,q6'⟩|⟨tn,e,_⟩
     ·have e:=Sum.inl.inj e;subst e;exact gb bl1 hd (w64 ((i1:Int)+1),s1) (ZE (F:=Jd (Kg n (σ⊕σ)) y pool chain) hlt1 hle1 q6')
     cases AM e
    |some d=>
     obtain⟨last,q7,q4⟩:=Aa q4;obtain⟨k,q8,q4⟩:=Aa q4;refine geqN (p:=true) (ds:=Ad d) ?_;refine JT (c:=true) (k:=13) (E:=Ad) (x:=last) (fun _=>rfl) (fun _=>q7) ?_;refine gnckG (c:=true) (p:=true) (ds:=Ad d) (ds':=Ad d) (fun _=>⟨rfl,rfl⟩) ?_;refine gcG (c:=true) (fun _=>G3 q8) ?_;refine gi q4 (fun hc3 q4=> ?_) fun hc3 q4=> ?_
     ·have e0:=Option.some.inj q4;subst e0;rcases q6 with ⟨sn,e,q6'⟩|⟨tn,e,_⟩
      ·have e:=Sum.inl.inj e;subst e;exact gb bl1 hd (w64 ((i1:Int)+1),s1) (ZE (F:=Jd (Kg n (σ⊕σ)) y pool chain) hlt1 hle1 q6')
      cases AM e
     obtain⟨x3,q9,q4⟩:=Aa q4;refine gco (LM q9) ?_;obtain⟨z3,q10,q4⟩:=Aa q4;refine Rk (E:=eOC) (fun _=>q10) ?_;refine gstOc (k:=1) (E:=eOC) none (fun _=>rfl) q10 ?_;obtain⟨ch,q11,q4⟩:=Aa q4;refine gc (fun _=>w_clip (xs:=chain)) ?_;refine gnck (p:=true) (ds:=Ad d) (ds':=Ad d) (fun _=>⟨rfl,rfl⟩) ?_;refine Fc (k:=13) Ad ([d]:List g_api_Cert) (fun _=>rfl) ?_;refine KZ (k:=13) (E:=Ad) (fun _=>rfl) q11 ?_;refine gco (Aal (pool:=x3.set ((i1:Int)).toNat none) (chain:=ch)) ?_;refine AaT hD (n0:=1) 2 2 (gt:=52) (ps:=[53]) [(0,.ow 0),(1,.d (.pf [.sl _ Ad chain])),(2,.d (.pf [.sl _ eOC pool])),(3,.pb 1 0),(17,sl eOC pool),(18,.d (.i (pool.length:Int))),(19,.d (.i (i1:Int))),(52,.fn (.func 88) [] [.d (.pf [.sl _ Ad ch]),.d (.pf [.sl _ eOC (x3.set ((i1:Int)).toNat none)])])]
      (fun s:σ=> [(0,.hp 0 (.cb g σ R s)),(1,.box 1 [.ow 0] 104)]) (fun s:σ=> [(0,.hp 0 (.cb g σ R s)),(1,.box 1 [.ow 0] 104)]) (fun x=> [sl Ad x])
      (fun(s:σ) (x:List g_api_Cert)=>⟨[(7,sl Ad x),(0,.ow 0),(1,.d (.pf [.sl _ Ad chain])),(2,.d (.pf [.sl _ eOC pool])),(3,.pb 1 0),(17,sl eOC pool),(18,.d (.i (pool.length:Int))),(19,.d (.i (i1:Int))),(52,.fn (.func 88) [] [.d (.pf [.sl _ Ad ch]),.d (.pf [.sl _ eOC (x3.set ((i1:Int)).toNat none)])])],[(0,.hp 0 (.cb g σ R s)),(1,.box 1 [.ow 0] 104)],[],2⟩)
      (wp y) s1 hd (fun g' R' h'=>Ws n q4 g' R' h') rfl (fun _=>rfl) (fun _=>rfl) (fun _=>rfl) ?_ ?_ ?_ ?_
     ·intro x a s' hp l D1 As1 η1 m1 hd1 Ja ba;exact gb ba hd1 () trivial
     ·intro x a s' hp l D1 As1 η1 m1 hd1 Jb bb Jr br;unfold wp at hp;obtain⟨u,qy,hp⟩:=Aa hp;refine gcb a hcb qy ?_;refine gi hp (fun hc4 hp=> ?_) fun hc4 hp=> ?_
      ·exact gretB br hd1 u.2 (Option.some.inj hp).symm
      exact gb bb hd1 u.2 (Option.some.inj hp).symm
     ·intro x hx;subst hx;rcases q6 with ⟨sn,e,q6'⟩|⟨tn,e,_⟩
      ·have e:=Sum.inl.inj e;subst e;exact gb bl1 hd (w64 ((i1:Int)+1),_) (ZE (F:=Jd (Kg n (σ⊕σ)) y pool chain) hlt1 hle1 q6')
      cases AM e
     intro x hx;subst hx;rcases q6 with ⟨sn,e,_⟩|⟨tn,e,e2⟩
     ·cases e
     cases e;cases e2;dsimp only at hm;have e0:=Option.some.inj hm;subst e0;exact Aq hd
   have hlt1: ¬i1<pool.length:=by have:=of_decide_eq_false hc2; omega
   have e:=Hy q3 hlt1;cases e;exact gb bk1 hd _ rfl
  subst hy;dsimp only at hm;have e0:=Option.some.inj hm;subst e0;exact Aq hd
def LX (i:Int)(c:g_api_Cert)(all:List OC):Option (List OC⊕Unit):=Ac (app 8 all ([some c]:List OC)) fun a=>some (.inl a)
def OD (roots:List g_api_Cert)(name:ByteArray)(now:Int)(out:List (List g_api_Cert))(x:List g_api_Cert):Option (List (List g_api_Cert)⊕Unit):=Ac (Cd roots x name now) fun k=>if(k==0)=true then Ac (AX x) fun y=>Ac (app 24 out ([y]:List (List g_api_Cert))) fun o=>some (.inl o)else some (.inl out)
def Kk (a0 a1:List g_api_Cert)(a2:g_api_Cert)(a3:ByteArray)(a4:Int):Option (List (List g_api_Cert)):=
 if(decide ((a1.length:Int)>8))=true then some []else
 Ac (Fe LX a1 0 ([]:List OC)) fun x1=>match x1 with
 | .inr _=>none
 | .inl all=>
  Ac (Kg 8 (List (List g_api_Cert)⊕Unit) (VT (OD a0 a3 a4)) all [a2] (.inl [])) fun r=>match r with
  | .inl out=>some out
  | .inr _=>none
theorem RY {a0 a1:List g_api_Cert}{a2:g_api_Cert}{a3:ByteArray}{a4:Int}{r:List (List g_api_Cert)}(hm:Kk a0 a1 a2 a3 a4=some r):
  Sp prog 23 [sl Ad a0,sl Ad a1,ag (Ad a2),.d (.s a3),.d (.i a4)] [] 0 (is (.ow 0) [.row 0 1 _ (eL Ad) r] 1):=
 spR call23 func23 rfl ntmps23 rfl fun D0 As η0 m0 hD hd=>by
  unfold Kk at hm;refine Uh 5 [.sl _ Ad a0] ?_;refine Uh 7 (Ad a2) ?_;refine Uh 8 [.s a3] ?_;refine Uh 9 [.i a4] ?_;refine gi hm (fun hc1 hm=> ?_) fun hc1 hm=> ?_
  ·have e0:=Option.some.inj hm;subst e0;refine Acn (eL Ad) 10 1 ?_;exact Aq hd
  obtain⟨x1,q2,hm⟩:=Aa hm;refine PU 0 (E:=Ad) (xs:=a1) 18 fun hle1=> ?_;refine V9 0 eOC 12 1 ?_;refine Yk 0 (eL Ad) 11 0 1 ?_;refine gjU 0 (fun(y1:List OC)=>⟨[(5,.d (.pf [.sl _ Ad a0])),(7,.d (.pf (Ad a2))),(8,.d (.pf [.s a3])),(9,.d (.pf [.i a4])),(11,.pb 0 0),(12,.ow 2)],[(0,.box 0 [.ow 1] 43),(1,.row 1 1 _ (eL Ad) []),(2,.row 2 1 _ eOC y1)],[],3⟩) (fun y1=>x1= .inl y1) (fun Jp bk1=> ?_) fun y1 hy=> ?_
  ·refine gl hd (fun(p:Int×List OC)=>⟨[(1,sl Ad a1),(5,.d (.pf [.sl _ Ad a0])),(7,.d (.pf (Ad a2))),(8,.d (.pf [.s a3])),(9,.d (.pf [.i a4])),(11,.pb 0 0),(12,.ow 2),(19,.d (.i (a1.length:Int))),(20,.d (.i p.1))],[(0,.box 0 [.ow 1] 43),(1,.row 1 1 _ (eL Ad) []),(2,.row 2 1 _ eOC p.2)],[],3⟩)
    (fun p=> ∃i:Nat,p.1=(i:Int)∧i≤a1.length∧Fe LX (a1.drop i) (i:Int) p.2=some x1) (fun p=>a1.length-p.1.toNat) ((0:Int),[]) ⟨0,rfl,Nat.zero_le _,q2⟩ ?_
   rintro⟨_,s1⟩ ⟨i1,rfl,hi,q3⟩ Jl bl1;refine gi' (b:=decide ((i1:Int)<(a1.length:Int))) (fun hc2=> ?_) fun hc2=> ?_
   ·have hlt1:i1<a1.length:=by have:=of_decide_eq_true hc2; omega
    obtain⟨x2,y2,q5,q4,q6⟩:=IN q3 hlt1;unfold LX at q4;refine Ga (k:=13) (E:=Ad) (fun _=>rfl) (fun _=>q5) ?_;refine glitFc (k:=1) eOC ([some x2]:List OC) (fun _=>rfl) ?_;obtain⟨x3,q7,q4⟩:=Aa q4;refine KZ (k:=1) (E:=eOC) (fun _=>rfl) q7 ?_;have e0:=Option.some.inj q4;subst e0;rcases q6 with ⟨sn,e,q6'⟩|⟨tn,e,_⟩
    ·have e:=Sum.inl.inj e;subst e;exact gb bl1 hd (w64 ((i1:Int)+1),_) (ZE (F:=LX) hlt1 hle1 q6')
    cases AM e
   have hlt1: ¬i1<a1.length:=by have:=of_decide_eq_false hc2; omega
   have e:=Hy q3 hlt1;cases e;exact gb bk1 hd _ rfl
  subst hy;dsimp only at hm;obtain⟨x4,q8,hm⟩:=Aa hm;refine Fc (k:=13) Ad ([a2]:List g_api_Cert) (fun _=>rfl) ?_;refine gco (Aal (pool:=y1) (chain:=[a2])) ?_;refine AaT hD (n0:=0) 1 2 (gt:=33) (ps:=[34]) [(5,.d (.pf [.sl _ Ad a0])),(8,.d (.pf [.s a3])),(9,.d (.pf [.i a4])),(11,.pb 0 0),(33,.fn (.func 88) [] [.d (.pf [.sl _ Ad [a2]]),.d (.pf [.sl _ eOC y1])])]
   (fun o:List (List g_api_Cert)=> [(0,.box 0 [.ow 1] 43),(1,.row 1 1 _ (eL Ad) o)]) (fun _:Unit=> []) (fun x=> [sl Ad x])
   (fun(o:List (List g_api_Cert)) (x:List g_api_Cert)=>⟨[(14,sl Ad x),(5,.d (.pf [.sl _ Ad a0])),(8,.d (.pf [.s a3])),(9,.d (.pf [.i a4])),(11,.pb 0 0),(33,.fn (.func 88) [] [.d (.pf [.sl _ Ad [a2]]),.d (.pf [.sl _ eOC y1])])],[(0,.box 0 [.ow 1] 43),(1,.row 1 1 _ (eL Ad) o)],[],2⟩)
   (OD a0 a3 a4) [] hd (fun g' R' h'=>Ws 8 q8 g' R' h') rfl (fun _=>rfl) (fun _=>rfl) (fun _=>rfl) ?_ ?_ ?_ ?_
  ·intro o x s' hp l D1 As1 η1 m1 hd1 Ja ba;exact gb ba hd1 () trivial
  ·intro o x s' hp l D1 As1 η1 m1 hd1 Jb bb Jr br;unfold OD at hp;obtain⟨k,q9,hp⟩:=Aa hp;refine gc (fun _=>Du q9) ?_;refine gi hp (fun hc3 hp=> ?_) fun hc3 hp=> ?_
   ·obtain⟨y,q10,hp⟩:=Aa hp;obtain⟨o',q11,hp⟩:=Aa hp;refine gco (DQ q10) ?_;refine Wa (k:=1) (eL Ad) ([y]:List (List g_api_Cert)) (fun _=>rfl) ?_;refine KZ (k:=1) (E:=eL Ad) (fun _=>rfl) q11 ?_;exact gb bb hd1 o' (Option.some.inj hp).symm
   exact gb bb hd1 o (Option.some.inj hp).symm
  ·intro o hx;subst hx;have e0:=Option.some.inj hm;subst e0;exact Aq hd
  intro y hx;subst hx;cases hm
def Ih (a0:List ByteArray)(a1:List ByteArray)(s1:Int):Option ((Int)⊕((Unit)⊕Bool)):=if(decide (s1<(a0.length:Int)))=true then Ac (idx a0 s1) fun x3=>Ac (idx a1 s1) fun x4=>if(!eqS x3 x4)=true then some (.inr (.inr false))else some (.inl (w64 (s1+1)))else some (.inr (.inl ()))
def IH (a0:List ByteArray)(a1:List ByteArray):Option Bool:=if((a0.length:Int) !=(a1.length:Int))=true then some false else Ac (iter (Ih a0 a1) AR 0) fun x1=>match x1 with| .inr r=>some r| .inl y1=>some true
theorem MQ {a0:List ByteArray}{a1:List ByteArray}{r:Bool}(hm:IH a0 a1=some r):Sf prog 91 [sl eS a0,sl eS a1] (.d (.t r)):=
 sp call91 func91 rfl ntmps91 rfl fun D0 As η0 m0 hd=>by
  unfold IH at hm;refine gi hm (fun hc1 hm=> ?_) fun hc1 hm=> ?_
  ·skip;have e0:=Option.some.inj hm;subst e0;exact Aq hd
  obtain⟨x1,q1,hm⟩:=Aa hm;refine gjU 0 (fun(y1:Unit)=>⟨[],[],[],0⟩) (fun y1=>x1= .inl y1) (fun Jp bk1=> ?_) fun y1 hy=> ?_
  ·refine gl hd (fun(p:Nat×(Int))=>let (p0,p_0):=p; ⟨[(0,sl eS a0),(1,sl eS a1),(5,.d (.i p_0))],[],[],0⟩) (fun p=>iter (Ih a0 a1) p.1 p.2=some x1) (fun p=>p.1) (AR,0) q1 ?_;rintro⟨n1,s1⟩ q2 Jl bl1;cases n1 with
   |zero=>exact(An q2).elim
   |succ n1=>
    obtain⟨y2,q4,q3⟩:=Am q2;unfold Ih at q4;refine gi q4 (fun hc2 q4=> ?_) fun hc2 q4=> ?_
    ·skip;obtain⟨x3,q6,q4⟩:=Aa q4;refine Ga (k:=1) (E:=eS) (fun _=>rfl) (fun _=>q6) ?_;obtain⟨x4,q7,q4⟩:=Aa q4;refine Ga (k:=1) (E:=eS) (fun _=>rfl) (fun _=>q7) ?_;refine gi q4 (fun hc3 q4=> ?_) fun hc3 q4=> ?_
     ·skip;cases q4;rcases q3 with ⟨sn,e,_⟩|e
      ·cases e
      cases e;dsimp only at hm;have e0:=Option.some.inj hm;subst e0;exact Aq hd
     have e0:=Option.some.inj q4;subst e0;rcases q3 with ⟨sn,e,q3'⟩|e
     ·have e:=Sum.inl.inj e;subst e;exact gb bl1 hd (n1,_) ⟨q3',Nat.lt_succ_self _⟩
     cases AM e
    have e0:=Option.some.inj q4;subst e0;rcases q3 with ⟨sn,e,_⟩|e
    ·cases Bv e
    have e:=Sum.inr.inj e;subst e;exact gb bk1 hd () rfl
  subst hy;dsimp only at hm;have e0:=Option.some.inj hm;subst e0;exact Aq hd
def Ig (a0:g_api_Cert)(a1:g_api_Cert)(s1:Int):Option ((Int)⊕((Unit)⊕Bool)):=if(decide (s1<(a0.Proms.length:Int)))=true then Ac (idx a0.Proms s1) fun x3=>Ac (idx a1.Proms s1) fun x4=>if(!K0 x3 x4)=true then some (.inr (.inr false))else some (.inl (w64 (s1+1)))else some (.inr (.inl ()))
def Kh (a0:g_api_Cert)(a1:g_api_Cert):Option Bool:=if((((((((((a0.Serial !=a1.Serial)||(!eqS a0.Issuer a1.Issuer))||(!eqS a0.Subject a1.Subject))||((a0.Key.toNat:Int) !=(a1.Key.toNat:Int)))||(a0.From !=a1.From))||(a0.Until !=a1.Until))||(a0.Ca !=a1.Ca))||(a0.Depth !=a1.Depth))||(!KH a0.Sig a1.Sig))||((a0.Proms.length:Int) !=(a1.Proms.length:Int)))=true then some false else Ac (iter (Ig a0 a1) AR 0) fun x1=>match x1 with| .inr r=>some r| .inl y1=>Ac (IH a0.Names a1.Names) fun x5=>Ac (gu x5 (IH a0.Permit a1.Permit)) fun x6=>some (x5&&x6)
theorem RR {a0:g_api_Cert}{a1:g_api_Cert}{r:Bool}(hm:Kh a0 a1=some r):Sf prog 51 [ag (Ad a0),ag (Ad a1)] (.d (.t r)):=
 sp call51 func51 rfl ntmps51 rfl fun D0 As η0 m0 hd=>by
  unfold Kh at hm;refine gi hm (fun hc1 hm=> ?_) fun hc1 hm=> ?_
  ·skip;have e0:=Option.some.inj hm;subst e0;exact Aq hd
  obtain⟨x1,q1,hm⟩:=Aa hm;refine gjU 0 (fun(y1:Unit)=>⟨[(2,.pb 0 0),(3,.pb 1 0)],[(0,.box 1 [.d (.i a1.Serial),.d (.s a1.Issuer),.d (.s a1.Subject),.d (.u a1.Key),sl eS a1.Names,.d (.i a1.From),.d (.i a1.Until),.d (.t a1.Ca),.d (.i a1.Depth),sl eS a1.Permit,sl Ai a1.Proms,.d (.u a1.Sig.E),.d (.u a1.Sig.S)] 28),(1,.box 0 [.d (.i a0.Serial),.d (.s a0.Issuer),.d (.s a0.Subject),.d (.u a0.Key),sl eS a0.Names,.d (.i a0.From),.d (.i a0.Until),.d (.t a0.Ca),.d (.i a0.Depth),sl eS a0.Permit,sl Ai a0.Proms,.d (.u a0.Sig.E),.d (.u a0.Sig.S)] 28)],[],2⟩) (fun y1=>x1= .inl y1) (fun Jp bk1=> ?_) fun y1 hy=> ?_
  ·refine gl hd (fun(p:Nat×(Int))=>let (p0,p_0):=p; ⟨[(2,.pb 0 0),(3,.pb 1 0),(5,.d (.i p_0))],[(0,.box 1 [.d (.i a1.Serial),.d (.s a1.Issuer),.d (.s a1.Subject),.d (.u a1.Key),sl eS a1.Names,.d (.i a1.From),.d (.i a1.Until),.d (.t a1.Ca),.d (.i a1.Depth),sl eS a1.Permit,sl Ai a1.Proms,.d (.u a1.Sig.E),.d (.u a1.Sig.S)] 28),(1,.box 0 [.d (.i a0.Serial),.d (.s a0.Issuer),.d (.s a0.Subject),.d (.u a0.Key),sl eS a0.Names,.d (.i a0.From),.d (.i a0.Until),.d (.t a0.Ca),.d (.i a0.Depth),sl eS a0.Permit,sl Ai a0.Proms,.d (.u a0.Sig.E),.d (.u a0.Sig.S)] 28)],[],2⟩) (fun p=>iter (Ig a0 a1) p.1 p.2=some x1) (fun p=>p.1) (AR,0) q1 ?_;rintro⟨n1,s1⟩ q2 Jl bl1;cases n1 with
   |zero=>exact(An q2).elim
   |succ n1=>
    obtain⟨y2,q4,q3⟩:=Am q2;unfold Ig at q4;refine gi q4 (fun hc2 q4=> ?_) fun hc2 q4=> ?_
    ·skip;obtain⟨x3,q6,q4⟩:=Aa q4;refine Ga (k:=6) (E:=Ai) (fun _=>rfl) (fun _=>q6) ?_;obtain⟨x4,q7,q4⟩:=Aa q4;refine Ga (k:=6) (E:=Ai) (fun _=>rfl) (fun _=>q7) ?_;refine gi q4 (fun hc3 q4=> ?_) fun hc3 q4=> ?_
     ·skip;cases q4;rcases q3 with ⟨sn,e,_⟩|e
      ·cases e
      cases e;dsimp only at hm;have e0:=Option.some.inj hm;subst e0;exact Aq hd
     have e0:=Option.some.inj q4;subst e0;rcases q3 with ⟨sn,e,q3'⟩|e
     ·have e:=Sum.inl.inj e;subst e;exact gb bl1 hd (n1,_) ⟨q3',Nat.lt_succ_self _⟩
     cases AM e
    have e0:=Option.some.inj q4;subst e0;rcases q3 with ⟨sn,e,_⟩|e
    ·cases Bv e
    have e:=Sum.inr.inj e;subst e;exact gb bk1 hd () rfl
  subst hy;dsimp only at hm;obtain⟨x5,q8,hm⟩:=Aa hm;refine gc (fun _=>MQ q8) ?_;obtain⟨x6,q9,hm⟩:=Aa hm;refine gcG (fun h=>MQ (En h q9)) ?_;have e0:=Option.some.inj hm;subst e0;exact Aq hd
def HC (a0:List g_api_Cert)(a1:List g_api_Cert)(s1:Int):Option ((Int)⊕((Unit)⊕Bool)):=if(decide (s1<(a0.length:Int)))=true then Ac (idx a0 s1) fun x3=>Ac (idx a1 s1) fun x4=>Ac (Kh x3 x4) fun x5=>if(!x5)=true then some (.inr (.inr false))else some (.inl (w64 (s1+1)))else some (.inr (.inl ()))
def JC (a0:List g_api_Cert)(a1:List g_api_Cert):Option Bool:=if((a0.length:Int) !=(a1.length:Int))=true then some false else Ac (iter (HC a0 a1) AR 0) fun x1=>match x1 with| .inr r=>some r| .inl y1=>some true
theorem Qc {a0:List g_api_Cert}{a1:List g_api_Cert}{r:Bool}(hm:JC a0 a1=some r):Sf prog 24 [sl Ad a0,sl Ad a1] (.d (.t r)):=
 sp call24 func24 rfl ntmps24 rfl fun D0 As η0 m0 hd=>by
  unfold JC at hm;refine gi hm (fun hc1 hm=> ?_) fun hc1 hm=> ?_
  ·skip;have e0:=Option.some.inj hm;subst e0;exact Aq hd
  obtain⟨x1,q1,hm⟩:=Aa hm;refine gjU 0 (fun(y1:Unit)=>⟨[],[],[],0⟩) (fun y1=>x1= .inl y1) (fun Jp bk1=> ?_) fun y1 hy=> ?_
  ·refine gl hd (fun(p:Nat×(Int))=>let (p0,p_0):=p; ⟨[(0,sl Ad a0),(1,sl Ad a1),(5,.d (.i p_0))],[],[],0⟩) (fun p=>iter (HC a0 a1) p.1 p.2=some x1) (fun p=>p.1) (AR,0) q1 ?_;rintro⟨n1,s1⟩ q2 Jl bl1;cases n1 with
   |zero=>exact(An q2).elim
   |succ n1=>
    obtain⟨y2,q4,q3⟩:=Am q2;unfold HC at q4;refine gi q4 (fun hc2 q4=> ?_) fun hc2 q4=> ?_
    ·skip;obtain⟨x3,q6,q4⟩:=Aa q4;refine Ga (k:=13) (E:=Ad) (fun _=>rfl) (fun _=>q6) ?_;obtain⟨x4,q7,q4⟩:=Aa q4;refine Ga (k:=13) (E:=Ad) (fun _=>rfl) (fun _=>q7) ?_;obtain⟨x5,q8,q4⟩:=Aa q4;refine gc (fun _=>RR q8) ?_;refine gi q4 (fun hc3 q4=> ?_) fun hc3 q4=> ?_
     ·skip;cases q4;rcases q3 with ⟨sn,e,_⟩|e
      ·cases e
      cases e;dsimp only at hm;have e0:=Option.some.inj hm;subst e0;exact Aq hd
     have e0:=Option.some.inj q4;subst e0;rcases q3 with ⟨sn,e,q3'⟩|e
     ·have e:=Sum.inl.inj e;subst e;exact gb bl1 hd (n1,_) ⟨q3',Nat.lt_succ_self _⟩
     cases AM e
    have e0:=Option.some.inj q4;subst e0;rcases q3 with ⟨sn,e,_⟩|e
    ·cases Bv e
    have e:=Sum.inr.inj e;subst e;exact gb bk1 hd () rfl
  subst hy;dsimp only at hm;have e0:=Option.some.inj hm;subst e0;exact Aq hd
def IJ:Option Bool:=Ac (Kl (⟨#[]⟩:ByteArray) 1 0 9) fun x1=>Ac (IT (⟨#[]⟩:ByteArray) ([]:List ByteArray) 0 9) fun x2=>Ac (Km (⟨#[]⟩:ByteArray) (⟨#[97,46,98]⟩:ByteArray) 2 5) fun x3=>Ac (Kk ([x1]:List g_api_Cert) ([x2]:List g_api_Cert) x3 (⟨#[97,46,98]⟩:ByteArray) 3) fun x4=>if((x4.length:Int) !=1)=true then some false else Ac (idx x4 0) fun x5=>Ac (JC x5 ([x3,x2]:List g_api_Cert)) fun x6=>Ac (gu x6 (CQ x3 x2)) fun x7=>Ac (gu (x6&&(x7==0)) (CQ x2 x1)) fun x8=>Ac (gu ((x6&&(x7==0))&&(x8==0)) (CQ x3 x1)) fun x9=>Ac (gu (((x6&&(x7==0))&&(x8==0))&&(x9==191)) (Cd ([x1]:List g_api_Cert) ([x3,x2]:List g_api_Cert) (⟨#[97,46,98]⟩:ByteArray) 3)) fun x10=>Ac (gu ((((x6&&(x7==0))&&(x8==0))&&(x9==191))&&(x10==0)) (Cd ([x1]:List g_api_Cert) ([x3,x2]:List g_api_Cert) (⟨#[97,46,98]⟩:ByteArray) 5)) fun x11=>Ac (gu (((((x6&&(x7==0))&&(x8==0))&&(x9==191))&&(x10==0))&&(x11==190)) (Cd ([x1]:List g_api_Cert) ([x3,x2]:List g_api_Cert) (⟨#[98]⟩:ByteArray) 3)) fun x12=>Ac (gu ((((((x6&&(x7==0))&&(x8==0))&&(x9==191))&&(x10==0))&&(x11==190))&&(x12==110)) (cut ([x3,x2]:List g_api_Cert) 0 1)) fun x13=>Ac (gu ((((((x6&&(x7==0))&&(x8==0))&&(x9==191))&&(x10==0))&&(x11==190))&&(x12==110)) (Cd ([x1]:List g_api_Cert) x13 (⟨#[97,46,98]⟩:ByteArray) 3)) fun x14=>Ac (gu (((((((x6&&(x7==0))&&(x8==0))&&(x9==191))&&(x10==0))&&(x11==190))&&(x12==110))&&(x14==191)) (Cd ([]:List g_api_Cert) ([x3,x2]:List g_api_Cert) (⟨#[97,46,98]⟩:ByteArray) 3)) fun x15=>Ac (gu ((((((((x6&&(x7==0))&&(x8==0))&&(x9==191))&&(x10==0))&&(x11==190))&&(x12==110))&&(x14==191))&&(x15==191)) (Cd ([x1]:List g_api_Cert) ([]:List g_api_Cert) (⟨#[97,46,98]⟩:ByteArray) 3)) fun x16=>Ac (gu (((((((((x6&&(x7==0))&&(x8==0))&&(x9==191))&&(x10==0))&&(x11==190))&&(x12==110))&&(x14==191))&&(x15==191))&&(x16==1)) (Cd ([x1]:List g_api_Cert) ([x3,x2]:List g_api_Cert) (⟨#[]⟩:ByteArray) 3)) fun x17=>bnd (((((((((((x6&&(x7==0))&&(x8==0))&&(x9==191))&&(x10==0))&&(x11==190))&&(x12==110))&&(x14==191))&&(x15==191))&&(x16==1))&&(x17==110))) fun x18=>some x18
theorem R1 {r:Bool}(hm:IJ=some r):Sf prog 11 [] (.d (.t r)):=
 sp call11 func11 rfl ntmps11 rfl fun D0 As η0 m0 hd=>by
  unfold IJ at hm;obtain⟨x1,q1,hm⟩:=Aa hm;refine gc (fun _=>R0 q1) ?_;obtain⟨x2,q2,hm⟩:=Aa hm;refine gc (fun _=>Pa q2) ?_;obtain⟨x3,q3,hm⟩:=Aa hm;refine gc (fun _=>R2 q3) ?_;refine Fc (k:=13) Ad ([x3,x2]:List g_api_Cert) (fun _=>rfl) ?_;refine Fc (k:=13) Ad ([x1]:List g_api_Cert) (fun _=>rfl) ?_;refine Fc (k:=13) Ad ([x2]:List g_api_Cert) (fun _=>rfl) ?_;obtain⟨x4,q4,hm⟩:=Aa hm;refine gco (RY q4) ?_;refine gi hm (fun hc1 hm=> ?_) fun hc1 hm=> ?_
  ·skip;have e0:=Option.some.inj hm;subst e0;exact Aq hd
  obtain⟨x5,q5,hm⟩:=Aa hm;refine Rk (E:=(eL Ad)) (fun _=>q5) ?_;refine Aco (k:=1) (fo:=0) (nn:=1) (ag:=false) (E:=(eL Ad)) (fun _=>rfl) (fun _=>q5) ?_;obtain⟨x6,q6,hm⟩:=Aa hm;refine gc (fun _=>Qc q6) ?_;obtain⟨x7,q7,hm⟩:=Aa hm;refine gcG (fun h=>G3 (En h q7)) ?_;obtain⟨x8,q8,hm⟩:=Aa hm;refine gcG (fun h=>G3 (En h q8)) ?_;obtain⟨x9,q9,hm⟩:=Aa hm;refine gcG (fun h=>G3 (En h q9)) ?_;obtain⟨x10,q10,hm⟩:=Aa hm;refine gcG (fun h=>Du (En h q10)) ?_;obtain⟨x11,q11,hm⟩:=Aa hm;refine gcG (fun h=>Du (En h q11)) ?_;obtain⟨x12,q12,hm⟩:=Aa hm;refine gcG (fun h=>Du (En h q12)) ?_;obtain⟨x13,q13,hm⟩:=Aa hm;refine gcutG (k:=13) (E:=Ad) (fun _=>rfl) (fun h=>En h q13) ?_;obtain⟨x14,q14,hm⟩:=Aa hm;refine gcG (fun h=>Du (En h q14)) ?_;obtain⟨x15,q15,hm⟩:=Aa hm;refine gcG (fun h=>Du (En h q15)) ?_;obtain⟨x16,q16,hm⟩:=Aa hm;refine gcG (fun h=>Du (En h q16)) ?_;obtain⟨x17,q17,hm⟩:=Aa hm;refine gcG (fun h=>Du (En h q17)) ?_;have hm:=AO hm;let x18:Bool:=(((((((((((x6&&(x7==0))&&(x8==0))&&(x9==191))&&(x10==0))&&(x11==190))&&(x12==110))&&(x14==191))&&(x15==191))&&(x16==1))&&(x17==110)));have e0:=Option.some.inj hm;subst e0;exact Aq hd
def BG (a0:List ByteArray)(s1:Int):Option ((Int)⊕((Unit)⊕Bool)):=if((decide (s1<(a0.length:Int)))&&(decide (s1<20)))=true then Ac (idx a0 s1) fun x3=>if(decide ((x3.size:Int)>200))=true then some (.inr (.inr false))else some (.inl (w64 (s1+1)))else some (.inr (.inl ()))
def C2 (a0:List ByteArray):Option Bool:=Ac (iter (BG a0) AR 0) fun x1=>match x1 with| .inr r=>some r| .inl y1=>bnd ((decide ((a0.length:Int)≤16))) fun x4=>some x4
theorem KT {a0:List ByteArray}{r:Bool}(hm:C2 a0=some r):Sf prog 102 [sl eS a0] (.d (.t r)):=
 sp call102 func102 rfl ntmps102 rfl fun D0 As η0 m0 hd=>by
  unfold C2 at hm;obtain⟨x1,q1,hm⟩:=Aa hm;refine gjU 0 (fun(y1:Unit)=>⟨[(0,sl eS a0)],[],[],0⟩) (fun y1=>x1= .inl y1) (fun Jp bk1=> ?_) fun y1 hy=> ?_
  ·refine gl hd (fun(p:Nat×(Int))=>let (p0,p_0):=p; ⟨[(0,sl eS a0),(3,.d (.i p_0))],[],[],0⟩) (fun p=>iter (BG a0) p.1 p.2=some x1) (fun p=>p.1) (AR,0) q1 ?_;rintro⟨n1,s1⟩ q2 Jl bl1;cases n1 with
   |zero=>exact(An q2).elim
   |succ n1=>
    obtain⟨y2,q4,q3⟩:=Am q2;unfold BG at q4;refine gi q4 (fun hc1 q4=> ?_) fun hc1 q4=> ?_
    ·skip;obtain⟨x3,q6,q4⟩:=Aa q4;refine Ga (k:=1) (E:=eS) (fun _=>rfl) (fun _=>q6) ?_;refine gi q4 (fun hc2 q4=> ?_) fun hc2 q4=> ?_
     ·skip;cases q4;rcases q3 with ⟨sn,e,_⟩|e
      ·cases e
      cases e;dsimp only at hm;have e0:=Option.some.inj hm;subst e0;exact Aq hd
     have e0:=Option.some.inj q4;subst e0;rcases q3 with ⟨sn,e,q3'⟩|e
     ·have e:=Sum.inl.inj e;subst e;exact gb bl1 hd (n1,_) ⟨q3',Nat.lt_succ_self _⟩
     cases AM e
    have e0:=Option.some.inj q4;subst e0;rcases q3 with ⟨sn,e,_⟩|e
    ·cases Bv e
    have e:=Sum.inr.inj e;subst e;exact gb bk1 hd () rfl
  subst hy;dsimp only at hm;have hm:=AO hm;let x4:Bool:=((decide ((a0.length:Int)≤16)));have e0:=Option.some.inj hm;subst e0;exact Aq hd
def FQ (a0:g_api_Cert):Option Bool:=Ac (gu ((decide ((a0.Issuer.size:Int)≤300))&&(decide ((a0.Subject.size:Int)≤300))) (C2 a0.Names)) fun x1=>Ac (gu (((decide ((a0.Issuer.size:Int)≤300))&&(decide ((a0.Subject.size:Int)≤300)))&&x1) (C2 a0.Permit)) fun x2=>bnd ((((((decide ((a0.Issuer.size:Int)≤300))&&(decide ((a0.Subject.size:Int)≤300)))&&x1)&&x2)&&(decide ((a0.Proms.length:Int)≤8)))) fun x3=>some x3
theorem Tq {a0:g_api_Cert}{r:Bool}(hm:FQ a0=some r):Sf prog 57 [ag (Ad a0)] (.d (.t r)):=
 sp call57 func57 rfl ntmps57 rfl fun D0 As η0 m0 hd=>by
  unfold FQ at hm;obtain⟨x1,q1,hm⟩:=Aa hm;refine gcG (fun h=>KT (En h q1)) ?_;obtain⟨x2,q2,hm⟩:=Aa hm;refine gcG (fun h=>KT (En h q2)) ?_;have hm:=AO hm;let x3:Bool:=((((((decide ((a0.Issuer.size:Int)≤300))&&(decide ((a0.Subject.size:Int)≤300)))&&x1)&&x2)&&(decide ((a0.Proms.length:Int)≤8))));have e0:=Option.some.inj hm;subst e0;exact Aq hd
def B6 (a0:List g_api_Cert)(a1:Int)(s1:Int):Option ((Int)⊕((Unit)⊕Bool)):=if((decide (s1<(a0.length:Int)))&&(decide (s1<a1)))=true then Ac (idx a0 s1) fun x3=>Ac (FQ x3) fun x4=>if(!x4)=true then some (.inr (.inr false))else some (.inl (w64 (s1+1)))else some (.inr (.inl ()))
def EU (a0:List g_api_Cert)(a1:Int):Option Bool:=Ac (iter (B6 a0 a1) AR 0) fun x1=>match x1 with| .inr r=>some r| .inl y1=>bnd ((decide ((a0.length:Int)≤a1))) fun x5=>some x5
theorem NP {a0:List g_api_Cert}{a1:Int}{r:Bool}(hm:EU a0 a1=some r):Sf prog 27 [sl Ad a0,.d (.i a1)] (.d (.t r)):=
 sp call27 func27 rfl ntmps27 rfl fun D0 As η0 m0 hd=>by
  unfold EU at hm;obtain⟨x1,q1,hm⟩:=Aa hm;refine gjU 0 (fun(y1:Unit)=>⟨[(0,sl Ad a0),(1,.d (.i a1))],[],[],0⟩) (fun y1=>x1= .inl y1) (fun Jp bk1=> ?_) fun y1 hy=> ?_
  ·refine gl hd (fun(p:Nat×(Int))=>let (p0,p_0):=p; ⟨[(0,sl Ad a0),(1,.d (.i a1)),(5,.d (.i p_0))],[],[],0⟩) (fun p=>iter (B6 a0 a1) p.1 p.2=some x1) (fun p=>p.1) (AR,0) q1 ?_;rintro⟨n1,s1⟩ q2 Jl bl1;cases n1 with
   |zero=>exact(An q2).elim
   |succ n1=>
    obtain⟨y2,q4,q3⟩:=Am q2;unfold B6 at q4;refine gi q4 (fun hc1 q4=> ?_) fun hc1 q4=> ?_
    ·skip;obtain⟨x3,q6,q4⟩:=Aa q4;refine Ga (k:=13) (E:=Ad) (fun _=>rfl) (fun _=>q6) ?_;obtain⟨x4,q7,q4⟩:=Aa q4;refine gc (fun _=>Tq q7) ?_;refine gi q4 (fun hc2 q4=> ?_) fun hc2 q4=> ?_
     ·skip;cases q4;rcases q3 with ⟨sn,e,_⟩|e
      ·cases e
      cases e;dsimp only at hm;have e0:=Option.some.inj hm;subst e0;exact Aq hd
     have e0:=Option.some.inj q4;subst e0;rcases q3 with ⟨sn,e,q3'⟩|e
     ·have e:=Sum.inl.inj e;subst e;exact gb bl1 hd (n1,_) ⟨q3',Nat.lt_succ_self _⟩
     cases AM e
    have e0:=Option.some.inj q4;subst e0;rcases q3 with ⟨sn,e,_⟩|e
    ·cases Bv e
    have e:=Sum.inr.inj e;subst e;exact gb bk1 hd () rfl
  subst hy;dsimp only at hm;have hm:=AO hm;let x5:Bool:=((decide ((a0.length:Int)≤a1)));have e0:=Option.some.inj hm;subst e0;exact Aq hd
def Iq (a0:List g_api_Cert)(a1:List g_api_Cert)(a2:ByteArray):Option Bool:=Ac (EU a0 5) fun x1=>Ac (EU a1 6) fun x2=>bnd (((x1&&x2)&&(decide ((a2.size:Int)≤200)))) fun x3=>some x3
theorem Ty {a0:List g_api_Cert}{a1:List g_api_Cert}{a2:ByteArray}{r:Bool}(hm:Iq a0 a1 a2=some r):Sf prog 12 [sl Ad a0,sl Ad a1,.d (.s a2)] (.d (.t r)):=
 sp call12 func12 rfl ntmps12 rfl fun D0 As η0 m0 hd=>by
  unfold Iq at hm;obtain⟨x1,q1,hm⟩:=Aa hm;refine gc (fun _=>NP q1) ?_;obtain⟨x2,q2,hm⟩:=Aa hm;refine gc (fun _=>NP q2) ?_;have hm:=AO hm;let x3:Bool:=(((x1&&x2)&&(decide ((a2.size:Int)≤200))));have e0:=Option.some.inj hm;subst e0;exact Aq hd
def EV (a0:Int):Option Bool:=bnd (((decide (a0≥0))&&(decide (a0≤1099511627776)))) fun x1=>some x1
theorem H0 {a0:Int}{r:Bool}(hm:EV a0=some r):Sf prog 113 [.d (.i a0)] (.d (.t r)):=
 sp call113 func113 rfl ntmps113 rfl fun D0 As η0 m0 hd=>by
  unfold EV at hm;have hm:=AO hm;let x1:Bool:=(((decide (a0≥0))&&(decide (a0≤1099511627776))));have e0:=Option.some.inj hm;subst e0;exact Aq hd
def BP (a0:ByteArray)(s1:Int):Option ((Int)⊕((Unit)⊕Bool)):=if(decide (s1<(a0.size:Int)))=true then Ac (idx a0.data.toList s1) fun x3=>Ac (gu (!(decide ((x3.toNat:Int)<33))) (idx a0.data.toList s1)) fun x4=>if((decide ((x3.toNat:Int)<33))||(decide ((x4.toNat:Int)>126)))=true then some (.inr (.inr false))else some (.inl (w64 (s1+1)))else some (.inr (.inl ()))
def F5 (a0:ByteArray):Option Bool:=Ac (iter (BP a0) AR 0) fun x1=>match x1 with| .inr r=>some r| .inl y1=>bnd (((decide ((a0.size:Int)≥1))&&(decide ((a0.size:Int)≤64)))) fun x5=>some x5
theorem MO {a0:ByteArray}{r:Bool}(hm:F5 a0=some r):Sf prog 114 [.d (.s a0)] (.d (.t r)):=
 sp call114 func114 rfl ntmps114 rfl fun D0 As η0 m0 hd=>by
  unfold F5 at hm;obtain⟨x1,q1,hm⟩:=Aa hm;refine gjU 0 (fun(y1:Unit)=>⟨[(0,.d (.s a0))],[],[],0⟩) (fun y1=>x1= .inl y1) (fun Jp bk1=> ?_) fun y1 hy=> ?_
  ·refine gl hd (fun(p:Nat×(Int))=>let (p0,p_0):=p; ⟨[(0,.d (.s a0)),(3,.d (.i p_0))],[],[],0⟩) (fun p=>iter (BP a0) p.1 p.2=some x1) (fun p=>p.1) (AR,0) q1 ?_;rintro⟨n1,s1⟩ q2 Jl bl1;cases n1 with
   |zero=>exact(An q2).elim
   |succ n1=>
    obtain⟨y2,q4,q3⟩:=Am q2;unfold BP at q4;refine gi q4 (fun hc1 q4=> ?_) fun hc1 q4=> ?_
    ·skip;obtain⟨x3,q6,q4⟩:=Aa q4;refine SN (fun _=>q6) ?_;obtain⟨x4,q7,q4⟩:=Aa q4;refine OM (fun h=>En h q7) ?_;refine gi q4 (fun hc2 q4=> ?_) fun hc2 q4=> ?_
     ·skip;cases q4;rcases q3 with ⟨sn,e,_⟩|e
      ·cases e
      cases e;dsimp only at hm;have e0:=Option.some.inj hm;subst e0;exact Aq hd
     have e0:=Option.some.inj q4;subst e0;rcases q3 with ⟨sn,e,q3'⟩|e
     ·have e:=Sum.inl.inj e;subst e;exact gb bl1 hd (n1,_) ⟨q3',Nat.lt_succ_self _⟩
     cases AM e
    have e0:=Option.some.inj q4;subst e0;rcases q3 with ⟨sn,e,_⟩|e
    ·cases Bv e
    have e:=Sum.inr.inj e;subst e;exact gb bk1 hd () rfl
  subst hy;dsimp only at hm;have hm:=AO hm;let x5:Bool:=(((decide ((a0.size:Int)≥1))&&(decide ((a0.size:Int)≤64))));have e0:=Option.some.inj hm;subst e0;exact Aq hd
def Ey (a0:g_api_Sig):Option Bool:=bnd (((decide ((a0.E.toNat:Int)<1152921504606845789))&&(decide ((a0.S.toNat:Int)<1152921504606845789)))) fun x1=>some x1
theorem KU {a0:g_api_Sig}{r:Bool}(hm:Ey a0=some r):Sf prog 115 [ag (Ix a0)] (.d (.t r)):=
 sp call115 func115 rfl ntmps115 rfl fun D0 As η0 m0 hd=>by
  unfold Ey at hm;have hm:=AO hm;let x1:Bool:=(((decide ((a0.E.toNat:Int)<1152921504606845789))&&(decide ((a0.S.toNat:Int)<1152921504606845789))));have e0:=Option.some.inj hm;subst e0;exact Aq hd
def EW (a0:g_api_Promise):Option Bool:=Ac (EV a0.Log) fun x1=>Ac (gu x1 (EV a0.At)) fun x2=>Ac (gu (((x1&&x2)&&(decide ((a0.Leaf.1.toNat:Int)<2305843009213693951)))&&(decide ((a0.Leaf.2.toNat:Int)<2305843009213693951))) (Ey a0.Sig)) fun x3=>bnd (((((x1&&x2)&&(decide ((a0.Leaf.1.toNat:Int)<2305843009213693951)))&&(decide ((a0.Leaf.2.toNat:Int)<2305843009213693951)))&&x3)) fun x4=>some x4
theorem NQ {a0:g_api_Promise}{r:Bool}(hm:EW a0=some r):Sf prog 116 [ag (Ai a0)] (.d (.t r)):=
 sp call116 func116 rfl ntmps116 rfl fun D0 As η0 m0 hd=>by
  unfold EW at hm;obtain⟨x1,q1,hm⟩:=Aa hm;refine gc (fun _=>H0 q1) ?_;obtain⟨x2,q2,hm⟩:=Aa hm;refine gcG (fun h=>H0 (En h q2)) ?_;obtain⟨x3,q3,hm⟩:=Aa hm;refine gcG (fun h=>KU (En h q3)) ?_;have hm:=AO hm;let x4:Bool:=(((((x1&&x2)&&(decide ((a0.Leaf.1.toNat:Int)<2305843009213693951)))&&(decide ((a0.Leaf.2.toNat:Int)<2305843009213693951)))&&x3));have e0:=Option.some.inj hm;subst e0;exact Aq hd
def Bu (a0:ByteArray)(s1:(List ByteArray)×Int×Int):Option (((List ByteArray)×Int×Int)⊕((List ByteArray)×Int)):=if(decide (s1.2.2<(a0.size:Int)))=true then Ac (Ac (idx a0.data.toList s1.2.2) fun x5=>if((x5.toNat:Int)==46)=true then Ac (KP a0 s1.2.1 s1.2.2) fun x6=>Ac (app 16 s1.1 ([x6]:List ByteArray)) fun x7=>some (x7,(w64 (s1.2.2+1)))else some (s1.1,s1.2.1)) fun x4=>some (.inl (x4.1,x4.2,(w64 (s1.2.2+1))))else some (.inr (s1.1,s1.2.1))
def Ha (a0:ByteArray):Option (List ByteArray):=Ac (Ac (iter (Bu a0) AR (([]:List ByteArray),0,0)) fun x2=>some (x2.1,x2.2)) fun x1=>Ac (KP a0 x1.2 (a0.size:Int)) fun x8=>Ac (app 16 x1.1 ([x8]:List ByteArray)) fun x9=>some x9
theorem NR {a0:ByteArray}{r:List ByteArray}(hm:Ha a0=some r):Sp prog 134 [.d (.s a0)] [] 0 (is (.ow 0) [.row 0 1 _ eS r] 1):=
 sp call134 func134 rfl ntmps134 rfl fun D0 As η0 m0 hd=>by
  unfold Ha at hm;obtain⟨x1,q1,hm⟩:=Aa hm;obtain⟨x2,q2,q1⟩:=Aa q1;refine V9 0 eS 3 1 ?_;refine gjU 0 (fun(_:Unit)=>let (y_0,y_1):=x1; ⟨[(0,.d (.s a0)),(3,.ow 0),(4,.d (.i y_1))],[(0,.row 0 1 _ eS y_0)],[],1⟩) (fun _=>True) (fun Jp bk1=> ?_) fun _ _=> ?_
  ·refine gjU 0 (fun(_:Unit)=>let (y_0,y_1):=x2; ⟨[(0,.d (.s a0)),(3,.ow 0),(4,.d (.i y_1))],[(0,.row 0 1 _ eS y_0)],[],1⟩) (fun _=>True) (fun Jp bk2=> ?_) fun _ _=> ?_
   ·refine gl hd (fun(p:Nat×((List ByteArray)×Int×Int))=>let (p0,p_0,p_1,p_2):=p; ⟨[(0,.d (.s a0)),(3,.ow 0),(4,.d (.i p_1)),(5,.d (.i p_2))],[(0,.row 0 1 _ eS p_0)],[],1⟩) (fun p=>iter (Bu a0) p.1 p.2=some x2) (fun p=>p.1) (AR,(([]:List ByteArray),0,0)) q2 ?_;rintro⟨n1,s1⟩ q3 Jl bl1;cases n1 with
    |zero=>exact(An q3).elim
    |succ n1=>
     obtain⟨y1,q5,q4⟩:=Am q3;unfold Bu at q5;refine gi q5 (fun hc1 q5=> ?_) fun hc1 q5=> ?_
     ·skip;obtain⟨x4,q7,q5⟩:=Aa q5;refine gjU 1 (fun(_:Unit)=>let (y_0,y_1):=x4; ⟨[(0,.d (.s a0)),(3,.ow 0),(4,.d (.i y_1)),(5,.d (.i s1.2.2))],[(0,.row 0 1 _ eS y_0)],[],1⟩) (fun _=>True) (fun Jp bk3=> ?_) fun _ _=> ?_
      ·skip;obtain⟨x5,q8,q7⟩:=Aa q7;refine SN (fun _=>q8) ?_;refine gi q7 (fun hc2 q7=> ?_) fun hc2 q7=> ?_
       ·skip;obtain⟨x6,q9,q7⟩:=Aa q7;refine Rm (fun _=>q9) ?_;refine Fc (k:=1) eS ([x6]:List ByteArray) (fun _=>rfl) ?_;obtain⟨x7,q10,q7⟩:=Aa q7;refine KZ (k:=1) (E:=eS) (fun _=>rfl) q10 ?_;have e0:=Option.some.inj q7;subst e0;exact gb bk3 hd () trivial
       have e0:=Option.some.inj q7;subst e0;exact gb bk3 hd () trivial
      have e0:=Option.some.inj q5;subst e0;rcases q4 with ⟨sn,e,q4'⟩|e
      ·have e:=Sum.inl.inj e;subst e;exact gb bl1 hd (n1,_) ⟨q4',Nat.lt_succ_self _⟩
      cases AM e
     have e0:=Option.some.inj q5;subst e0;rcases q4 with ⟨sn,e,_⟩|e
     ·cases Bv e
     have e:=Sum.inr.inj e;subst e;exact gb bk2 hd () trivial
   have e0:=Option.some.inj q1;subst e0;exact gb bk1 hd () trivial
  obtain⟨x8,q11,hm⟩:=Aa hm;refine Rm (fun _=>q11) ?_;refine Fc (k:=1) eS ([x8]:List ByteArray) (fun _=>rfl) ?_;obtain⟨x9,q12,hm⟩:=Aa hm;refine KZ (k:=1) (E:=eS) (fun _=>rfl) q12 ?_;have e0:=Option.some.inj hm;subst e0;exact Aq hd
def DA (a0:UInt8):Option Bool:=bnd ((((decide ((a0.toNat:Int)≥97))&&(decide ((a0.toNat:Int)≤122)))||((decide ((a0.toNat:Int)≥48))&&(decide ((a0.toNat:Int)≤57))))) fun x1=>some x1
theorem JY {a0:UInt8}{r:Bool}(hm:DA a0=some r):Sf prog 179 [.d (.b a0)] (.d (.t r)):=
 sp call179 func179 rfl ntmps179 rfl fun D0 As η0 m0 hd=>by
  unfold DA at hm;have hm:=AO hm;let x1:Bool:=((((decide ((a0.toNat:Int)≥97))&&(decide ((a0.toNat:Int)≤122)))||((decide ((a0.toNat:Int)≥48))&&(decide ((a0.toNat:Int)≤57)))));have e0:=Option.some.inj hm;subst e0;exact Aq hd
def BD (a0:ByteArray)(s1:Int):Option ((Int)⊕((Unit)⊕Bool)):=if(decide (s1<(a0.size:Int)))=true then Ac (idx a0.data.toList s1) fun x8=>Ac (DA x8) fun x9=>Ac (gu (!x9) (idx a0.data.toList s1)) fun x10=>if((!x9)&&((x10.toNat:Int) !=45))=true then some (.inr (.inr false))else some (.inl (w64 (s1+1)))else some (.inr (.inl ()))
def Gq (a0:ByteArray):Option Bool:=Ac (gu (!((decide ((a0.size:Int)<1))||(decide ((a0.size:Int)>16)))) (idx a0.data.toList (w64 ((a0.size:Int)-1)))) fun x1=>Ac (gu (!((decide ((a0.size:Int)<1))||(decide ((a0.size:Int)>16)))) (DA x1)) fun x2=>Ac (gu (!(((decide ((a0.size:Int)<1))||(decide ((a0.size:Int)>16)))||(!x2))) (idx a0.data.toList 0)) fun x3=>Ac (gu (!(((decide ((a0.size:Int)<1))||(decide ((a0.size:Int)>16)))||(!x2))) (DA x3)) fun x4=>Ac (gu ((!(((decide ((a0.size:Int)<1))||(decide ((a0.size:Int)>16)))||(!x2)))&&(!x4)) (idx a0.data.toList 0)) fun x5=>if((((decide ((a0.size:Int)<1))||(decide ((a0.size:Int)>16)))||(!x2))||((!x4)&&((x5.toNat:Int) !=95)))=true then some false else Ac (iter (BD a0) AR 1) fun x6=>match x6 with| .inr r=>some r| .inl y1=>some true
theorem Qf {a0:ByteArray}{r:Bool}(hm:Gq a0=some r):Sf prog 135 [.d (.s a0)] (.d (.t r)):=
 sp call135 func135 rfl ntmps135 rfl fun D0 As η0 m0 hd=>by
  unfold Gq at hm;obtain⟨x1,q1,hm⟩:=Aa hm;refine OM (fun h=>En h q1) ?_;obtain⟨x2,q2,hm⟩:=Aa hm;refine gcG (fun h=>JY (En h q2)) ?_;obtain⟨x3,q3,hm⟩:=Aa hm;refine OM (fun h=>En h q3) ?_;obtain⟨x4,q4,hm⟩:=Aa hm;refine gcG (fun h=>JY (En h q4)) ?_;obtain⟨x5,q5,hm⟩:=Aa hm;refine OM (fun h=>En h q5) ?_;refine gi hm (fun hc1 hm=> ?_) fun hc1 hm=> ?_
  ·skip;have e0:=Option.some.inj hm;subst e0;exact Aq hd
  obtain⟨x6,q6,hm⟩:=Aa hm;refine gjU 0 (fun(y1:Unit)=>⟨[],[],[],0⟩) (fun y1=>x6= .inl y1) (fun Jp bk1=> ?_) fun y1 hy=> ?_
  ·refine gl hd (fun(p:Nat×(Int))=>let (p0,p_0):=p; ⟨[(0,.d (.s a0)),(3,.d (.i (a0.size:Int))),(4,.d (.i p_0))],[],[],0⟩) (fun p=>iter (BD a0) p.1 p.2=some x6) (fun p=>p.1) (AR,1) q6 ?_;rintro⟨n1,s1⟩ q7 Jl bl1;cases n1 with
   |zero=>exact(An q7).elim
   |succ n1=>
    obtain⟨y2,q9,q8⟩:=Am q7;unfold BD at q9;refine gi q9 (fun hc2 q9=> ?_) fun hc2 q9=> ?_
    ·skip;obtain⟨x8,q11,q9⟩:=Aa q9;refine SN (fun _=>q11) ?_;obtain⟨x9,q12,q9⟩:=Aa q9;refine gc (fun _=>JY q12) ?_;obtain⟨x10,q13,q9⟩:=Aa q9;refine OM (fun h=>En h q13) ?_;refine gi q9 (fun hc3 q9=> ?_) fun hc3 q9=> ?_
     ·skip;cases q9;rcases q8 with ⟨sn,e,_⟩|e
      ·cases e
      cases e;dsimp only at hm;have e0:=Option.some.inj hm;subst e0;exact Aq hd
     have e0:=Option.some.inj q9;subst e0;rcases q8 with ⟨sn,e,q8'⟩|e
     ·have e:=Sum.inl.inj e;subst e;exact gb bl1 hd (n1,_) ⟨q8',Nat.lt_succ_self _⟩
     cases AM e
    have e0:=Option.some.inj q9;subst e0;rcases q8 with ⟨sn,e,_⟩|e
    ·cases Bv e
    have e:=Sum.inr.inj e;subst e;exact gb bk1 hd () rfl
  subst hy;dsimp only at hm;have e0:=Option.some.inj hm;subst e0;exact Aq hd
def BE (x1:List ByteArray)(s1:Int):Option ((Int)⊕((Unit)⊕Bool)):=if(decide (s1<(x1.length:Int)))=true then Ac (idx x1 s1) fun x4=>Ac (Gq x4) fun x5=>if(!x5)=true then some (.inr (.inr false))else some (.inl (w64 (s1+1)))else some (.inr (.inl ()))
def CE (a0:ByteArray):Option Bool:=if(decide ((a0.size:Int)>64))=true then some false else Ac (Ha a0) fun x1=>Ac (iter (BE x1) AR 0) fun x2=>match x2 with| .inr r=>some r| .inl y1=>bnd ((decide ((x1.length:Int)≤8))) fun x6=>some x6
theorem F0 {a0:ByteArray}{r:Bool}(hm:CE a0=some r):Sf prog 80 [.d (.s a0)] (.d (.t r)):=
 sp call80 func80 rfl ntmps80 rfl fun D0 As η0 m0 hd=>by
  unfold CE at hm;refine gi hm (fun hc1 hm=> ?_) fun hc1 hm=> ?_
  ·skip;have e0:=Option.some.inj hm;subst e0;exact Aq hd
  obtain⟨x1,q1,hm⟩:=Aa hm;refine gco (NR q1) ?_;obtain⟨x2,q2,hm⟩:=Aa hm;refine gjU 0 (fun(y1:Unit)=>⟨[(3,.ow 0)],[(0,.row 0 1 _ eS x1)],[],1⟩) (fun y1=>x2= .inl y1) (fun Jp bk1=> ?_) fun y1 hy=> ?_
  ·refine gl hd (fun(p:Nat×(Int))=>let (p0,p_0):=p; ⟨[(3,.ow 0),(4,.d (.i p_0))],[(0,.row 0 1 _ eS x1)],[],1⟩) (fun p=>iter (BE x1) p.1 p.2=some x2) (fun p=>p.1) (AR,0) q2 ?_;rintro⟨n1,s1⟩ q3 Jl bl1;cases n1 with
   |zero=>exact(An q3).elim
   |succ n1=>
    obtain⟨y2,q5,q4⟩:=Am q3;unfold BE at q5;refine gi q5 (fun hc2 q5=> ?_) fun hc2 q5=> ?_
    ·skip;obtain⟨x4,q7,q5⟩:=Aa q5;refine Rk (E:=eS) (fun _=>q7) ?_;refine Aco (k:=1) (fo:=0) (nn:=1) (ag:=false) (E:=eS) (fun _=>rfl) (fun _=>q7) ?_;obtain⟨x5,q8,q5⟩:=Aa q5;refine gc (fun _=>Qf q8) ?_;refine gi q5 (fun hc3 q5=> ?_) fun hc3 q5=> ?_
     ·skip;cases q5;rcases q4 with ⟨sn,e,_⟩|e
      ·cases e
      cases e;dsimp only at hm;have e0:=Option.some.inj hm;subst e0;exact Aq hd
     have e0:=Option.some.inj q5;subst e0;rcases q4 with ⟨sn,e,q4'⟩|e
     ·have e:=Sum.inl.inj e;subst e;exact gb bl1 hd (n1,_) ⟨q4',Nat.lt_succ_self _⟩
     cases AM e
    have e0:=Option.some.inj q5;subst e0;rcases q4 with ⟨sn,e,_⟩|e
    ·cases Bv e
    have e:=Sum.inr.inj e;subst e;exact gb bk1 hd () rfl
  subst hy;dsimp only at hm;have hm:=AO hm;let x6:Bool:=((decide ((x1.length:Int)≤8)));have e0:=Option.some.inj hm;subst e0;exact Aq hd
def Bm (a0:List ByteArray)(s1:Int)(s2:Int):Option ((Int)⊕((Unit)⊕Bool)):=if(decide (s2<s1))=true then Ac (idx a0 s2) fun x5=>Ac (idx a0 s1) fun x6=>if(eqS x5 x6)=true then some (.inr (.inr false))else some (.inl (w64 (s2+1)))else some (.inr (.inl ()))
def Bn (a0:List ByteArray)(s1:Int):Option ((Int)⊕((Unit)⊕Bool)):=if(decide (s1<(a0.length:Int)))=true then Ac (iter (Bm a0 s1) AR 0) fun x3=>match x3 with| .inr r=>some (.inr (.inr r))| .inl y3=>some (.inl (w64 (s1+1)))else some (.inr (.inl ()))
def Ex (a0:List ByteArray):Option Bool:=Ac (iter (Bn a0) AR 0) fun x1=>match x1 with| .inr r=>some r| .inl y1=>some true
theorem KS {a0:List ByteArray}{r:Bool}(hm:Ex a0=some r):Sf prog 166 [sl eS a0] (.d (.t r)):=
 sp call166 func166 rfl ntmps166 rfl fun D0 As η0 m0 hd=>by
  unfold Ex at hm;obtain⟨x1,q1,hm⟩:=Aa hm;refine gjU 0 (fun(y1:Unit)=>⟨[],[],[],0⟩) (fun y1=>x1= .inl y1) (fun Jp bk1=> ?_) fun y1 hy=> ?_
  ·refine gl hd (fun(p:Nat×(Int))=>let (p0,p_0):=p; ⟨[(0,sl eS a0),(3,.d (.i p_0))],[],[],0⟩) (fun p=>iter (Bn a0) p.1 p.2=some x1) (fun p=>p.1) (AR,0) q1 ?_;rintro⟨n1,s1⟩ q2 Jl bl1;cases n1 with
   |zero=>exact(An q2).elim
   |succ n1=>
    obtain⟨y2,q4,q3⟩:=Am q2;unfold Bn at q4;refine gi q4 (fun hc1 q4=> ?_) fun hc1 q4=> ?_
    ·skip;obtain⟨x3,q6,q4⟩:=Aa q4;refine gjU 2 (fun(y3:Unit)=>⟨[(0,sl eS a0),(3,.d (.i s1))],[],[],0⟩) (fun y3=>x3= .inl y3) (fun Jp bk2=> ?_) fun y3 hy=> ?_
     ·refine gl hd (fun(p:Nat×(Int))=>let (p0,p_0):=p; ⟨[(0,sl eS a0),(3,.d (.i s1)),(4,.d (.i p_0))],[],[],0⟩) (fun p=>iter (Bm a0 s1) p.1 p.2=some x3) (fun p=>p.1) (AR,0) q6 ?_;rintro⟨n2,s2⟩ q7 Jl bl2;cases n2 with
      |zero=>exact(An q7).elim
      |succ n2=>
       obtain⟨y4,q9,q8⟩:=Am q7;unfold Bm at q9;refine gi q9 (fun hc2 q9=> ?_) fun hc2 q9=> ?_
       ·skip;obtain⟨x5,q11,q9⟩:=Aa q9;refine Ga (k:=1) (E:=eS) (fun _=>rfl) (fun _=>q11) ?_;obtain⟨x6,q12,q9⟩:=Aa q9;refine Ga (k:=1) (E:=eS) (fun _=>rfl) (fun _=>q12) ?_;refine gi q9 (fun hc3 q9=> ?_) fun hc3 q9=> ?_
        ·skip;cases q9;rcases q8 with ⟨sn,e,_⟩|e
         ·cases e
         cases e;dsimp only at q4;cases q4;rcases q3 with ⟨sn,e,_⟩|e
         ·cases e
         cases e;dsimp only at hm;have e0:=Option.some.inj hm;subst e0;exact Aq hd
        have e0:=Option.some.inj q9;subst e0;rcases q8 with ⟨sn,e,q8'⟩|e
        ·have e:=Sum.inl.inj e;subst e;exact gb bl2 hd (n2,_) ⟨q8',Nat.lt_succ_self _⟩
        cases AM e
       have e0:=Option.some.inj q9;subst e0;rcases q8 with ⟨sn,e,_⟩|e
       ·cases Bv e
       have e:=Sum.inr.inj e;subst e;exact gb bk2 hd () rfl
     subst hy;dsimp only at q4;have e0:=Option.some.inj q4;subst e0;rcases q3 with ⟨sn,e,q3'⟩|e
     ·have e:=Sum.inl.inj e;subst e;exact gb bl1 hd (n1,_) ⟨q3',Nat.lt_succ_self _⟩
     cases AM e
    have e0:=Option.some.inj q4;subst e0;rcases q3 with ⟨sn,e,_⟩|e
    ·cases Bv e
    have e:=Sum.inr.inj e;subst e;exact gb bk1 hd () rfl
  subst hy;dsimp only at hm;have e0:=Option.some.inj hm;subst e0;exact Aq hd
def D5 (a0:ByteArray):Option (ByteArray×Bool):=Ac (gu (!((decide ((a0.size:Int)<3))||(decide ((a0.size:Int)>64)))) (idx a0.data.toList 0)) fun x1=>Ac (gu (!(((decide ((a0.size:Int)<3))||(decide ((a0.size:Int)>64)))||((x1.toNat:Int) !=42))) (idx a0.data.toList 1)) fun x2=>Ac (gu (!((((decide ((a0.size:Int)<3))||(decide ((a0.size:Int)>64)))||((x1.toNat:Int) !=42))||((x2.toNat:Int) !=46))) (KP a0 2 (a0.size:Int))) fun x3=>Ac (gu (!((((decide ((a0.size:Int)<3))||(decide ((a0.size:Int)>64)))||((x1.toNat:Int) !=42))||((x2.toNat:Int) !=46))) (CE x3)) fun x4=>if(((((decide ((a0.size:Int)<3))||(decide ((a0.size:Int)>64)))||((x1.toNat:Int) !=42))||((x2.toNat:Int) !=46))||(!x4))=true then some ((⟨#[]⟩:ByteArray),false)else Ac (KP a0 2 (a0.size:Int)) fun x5=>Ac (Ha x5) fun x6=>if(decide ((x6.length:Int)>7))=true then some ((⟨#[]⟩:ByteArray),false)else Ac (KP a0 2 (a0.size:Int)) fun x7=>some (x7,true)
theorem MP {a0:ByteArray}{r:ByteArray×Bool}(hm:D5 a0=some r):Sf prog 180 [.d (.s a0)] (.tup [.d (.s r.1),.d (.t r.2)]):=
 sp call180 func180 rfl ntmps180 rfl fun D0 As η0 m0 hd=>by
  unfold D5 at hm;obtain⟨x1,q1,hm⟩:=Aa hm;refine OM (fun h=>En h q1) ?_;obtain⟨x2,q2,hm⟩:=Aa hm;refine OM (fun h=>En h q2) ?_;obtain⟨x3,q3,hm⟩:=Aa hm;refine AaV (fun h=>En h q3) ?_;obtain⟨x4,q4,hm⟩:=Aa hm;refine gcG (fun h=>F0 (En h q4)) ?_;refine gspl 28 hm (fun hc1 hm=> ?_) fun hc1 hm=> ?_
  ·skip;refine gi' (b:=true) (fun _=> ?_) (fun h=>by cases h);have e0:=Option.some.inj hm;subst e0;exact Aq hd
  obtain⟨x5,q5,hm⟩:=Aa hm;refine Rm (fun _=>q5) ?_;obtain⟨x6,q6,hm⟩:=Aa hm;refine gco (NR q6) ?_;refine gi hm (fun hc2 hm=> ?_) fun hc2 hm=> ?_
  ·skip;have e0:=Option.some.inj hm;subst e0;exact Aq hd
  obtain⟨x7,q7,hm⟩:=Aa hm;refine Rm (fun _=>q7) ?_;have e0:=Option.some.inj hm;subst e0;exact Aq hd
def EX (a0:ByteArray):Option Int:=Ac (D5 a0) fun x1=>Ac (gu (!x1.2) (CE a0)) fun x2=>if((!x1.2)&&(!x2))=true then some 110 else some 0
theorem NS {a0:ByteArray}{r:Int}(hm:EX a0=some r):Sf prog 167 [.d (.s a0)] (.d (.i r)):=
 sp call167 func167 rfl ntmps167 rfl fun D0 As η0 m0 hd=>by
  unfold EX at hm;obtain⟨x1,q1,hm⟩:=Aa hm;refine gc (fun _=>MP q1) ?_;obtain⟨x2,q2,hm⟩:=Aa hm;refine gcG (fun h=>F0 (En h q2)) ?_;refine gi hm (fun hc1 hm=> ?_) fun hc1 hm=> ?_
  ·skip;have e0:=Option.some.inj hm;subst e0;exact Aq hd
  have e0:=Option.some.inj hm;subst e0;exact Aq hd
def BN (a0:g_api_Cert)(s1:Int):Option ((Int)⊕((Unit)⊕Bool)):=if(decide (s1<(a0.Names.length:Int)))=true then Ac (idx a0.Names s1) fun x3=>Ac (CE x3) fun x4=>if(!x4)=true then some (.inr (.inr false))else some (.inl (w64 (s1+1)))else some (.inr (.inl ()))
def BM (a0:g_api_Cert)(s2:Int):Option ((Int)⊕((Unit)⊕Bool)):=if(decide (s2<(a0.Permit.length:Int)))=true then Ac (idx a0.Permit s2) fun x9=>Ac (EX x9) fun x10=>if(x10 !=0)=true then some (.inr (.inr false))else some (.inl (w64 (s2+1)))else some (.inr (.inl ()))
def Hr (a0:g_api_Cert):Option Bool:=
 if(!a0.Ca)=true then
  Ac (iter (BN a0) AR 0) fun x1=>match x1 with
  | .inr r=>some r
  | .inl y1=>
  Ac (gu (((eqS a0.Subject (⟨#[]⟩:ByteArray))&&(decide ((a0.Names.length:Int)≥1)))&&(decide ((a0.Names.length:Int)≤8))) (Ex a0.Names)) fun x5=>
  bnd (((((((eqS a0.Subject (⟨#[]⟩:ByteArray))&&(decide ((a0.Names.length:Int)≥1)))&&(decide ((a0.Names.length:Int)≤8)))&&x5)&&(a0.Depth==0))&&((a0.Permit.length:Int)==0))) fun x6=>
  some x6
 else
 Ac (iter (BM a0) AR 0) fun x7=>match x7 with
 | .inr r=>some r
 | .inl y3=>
 Ac (F5 a0.Subject) fun x11=>
 Ac (gu ((((x11&&((a0.Names.length:Int)==0))&&(decide (a0.Depth≥0)))&&(decide (a0.Depth≤4)))&&(decide ((a0.Permit.length:Int)≤8))) (Ex a0.Permit)) fun x12=>
 bnd ((((((x11&&((a0.Names.length:Int)==0))&&(decide (a0.Depth≥0)))&&(decide (a0.Depth≤4)))&&(decide ((a0.Permit.length:Int)≤8)))&&x12)) fun x13=>
 some x13
theorem RP {a0:g_api_Cert}{r:Bool}(hm:Hr a0=some r):Sf prog 117 [ag (Ad a0)] (.d (.t r)):=
 sp call117 func117 rfl ntmps117 rfl fun D0 As η0 m0 hd=>by
  unfold Hr at hm;refine gi hm (fun hc1 hm=> ?_) fun hc1 hm=> ?_
  ·skip;obtain⟨x1,q1,hm⟩:=Aa hm;refine gjU 0 (fun(y1:Unit)=>⟨[(1,.pb 0 0)],[(0,.box 0 [.d (.i a0.Serial),.d (.s a0.Issuer),.d (.s a0.Subject),.d (.u a0.Key),sl eS a0.Names,.d (.i a0.From),.d (.i a0.Until),.d (.t a0.Ca),.d (.i a0.Depth),sl eS a0.Permit,sl Ai a0.Proms,.d (.u a0.Sig.E),.d (.u a0.Sig.S)] 28)],[],1⟩) (fun y1=>x1= .inl y1) (fun Jp bk1=> ?_) fun y1 hy=> ?_
   ·refine gl hd (fun(p:Nat×(Int))=>let (p0,p_0):=p; ⟨[(1,.pb 0 0),(3,.d (.i p_0))],[(0,.box 0 [.d (.i a0.Serial),.d (.s a0.Issuer),.d (.s a0.Subject),.d (.u a0.Key),sl eS a0.Names,.d (.i a0.From),.d (.i a0.Until),.d (.t a0.Ca),.d (.i a0.Depth),sl eS a0.Permit,sl Ai a0.Proms,.d (.u a0.Sig.E),.d (.u a0.Sig.S)] 28)],[],1⟩) (fun p=>iter (BN a0) p.1 p.2=some x1) (fun p=>p.1) (AR,0) q1 ?_;rintro⟨n1,s1⟩ q2 Jl bl1;cases n1 with
    |zero=>exact(An q2).elim
    |succ n1=>
     obtain⟨y2,q4,q3⟩:=Am q2;unfold BN at q4;refine gi q4 (fun hc2 q4=> ?_) fun hc2 q4=> ?_
     ·skip;obtain⟨x3,q6,q4⟩:=Aa q4;refine Ga (k:=1) (E:=eS) (fun _=>rfl) (fun _=>q6) ?_;obtain⟨x4,q7,q4⟩:=Aa q4;refine gc (fun _=>F0 q7) ?_;refine gi q4 (fun hc3 q4=> ?_) fun hc3 q4=> ?_
      ·skip;cases q4;rcases q3 with ⟨sn,e,_⟩|e
       ·cases e
       cases e;dsimp only at hm;have e0:=Option.some.inj hm;subst e0;exact Aq hd
      have e0:=Option.some.inj q4;subst e0;rcases q3 with ⟨sn,e,q3'⟩|e
      ·have e:=Sum.inl.inj e;subst e;exact gb bl1 hd (n1,_) ⟨q3',Nat.lt_succ_self _⟩
      cases AM e
     have e0:=Option.some.inj q4;subst e0;rcases q3 with ⟨sn,e,_⟩|e
     ·cases Bv e
     have e:=Sum.inr.inj e;subst e;exact gb bk1 hd () rfl
   subst hy;dsimp only at hm;obtain⟨x5,q8,hm⟩:=Aa hm;refine gcG (fun h=>KS (En h q8)) ?_;have hm:=AO hm;let x6:Bool:=(((((((eqS a0.Subject (⟨#[]⟩:ByteArray))&&(decide ((a0.Names.length:Int)≥1)))&&(decide ((a0.Names.length:Int)≤8)))&&x5)&&(a0.Depth==0))&&((a0.Permit.length:Int)==0)));have e0:=Option.some.inj hm;subst e0;exact Aq hd
  obtain⟨x7,q10,hm⟩:=Aa hm;refine gjU 2 (fun(y3:Unit)=>⟨[(1,.pb 0 0)],[(0,.box 0 [.d (.i a0.Serial),.d (.s a0.Issuer),.d (.s a0.Subject),.d (.u a0.Key),sl eS a0.Names,.d (.i a0.From),.d (.i a0.Until),.d (.t a0.Ca),.d (.i a0.Depth),sl eS a0.Permit,sl Ai a0.Proms,.d (.u a0.Sig.E),.d (.u a0.Sig.S)] 28)],[],1⟩) (fun y3=>x7= .inl y3) (fun Jp bk2=> ?_) fun y3 hy=> ?_
  ·refine gl hd (fun(p:Nat×(Int))=>let (p0,p_0):=p; ⟨[(1,.pb 0 0),(4,.d (.i p_0))],[(0,.box 0 [.d (.i a0.Serial),.d (.s a0.Issuer),.d (.s a0.Subject),.d (.u a0.Key),sl eS a0.Names,.d (.i a0.From),.d (.i a0.Until),.d (.t a0.Ca),.d (.i a0.Depth),sl eS a0.Permit,sl Ai a0.Proms,.d (.u a0.Sig.E),.d (.u a0.Sig.S)] 28)],[],1⟩) (fun p=>iter (BM a0) p.1 p.2=some x7) (fun p=>p.1) (AR,0) q10 ?_;rintro⟨n2,s2⟩ q11 Jl bl2;cases n2 with
   |zero=>exact(An q11).elim
   |succ n2=>
    obtain⟨y4,q13,q12⟩:=Am q11;unfold BM at q13;refine gi q13 (fun hc4 q13=> ?_) fun hc4 q13=> ?_
    ·skip;obtain⟨x9,q15,q13⟩:=Aa q13;refine Ga (k:=1) (E:=eS) (fun _=>rfl) (fun _=>q15) ?_;obtain⟨x10,q16,q13⟩:=Aa q13;refine gc (fun _=>NS q16) ?_;refine gi q13 (fun hc5 q13=> ?_) fun hc5 q13=> ?_
     ·skip;cases q13;rcases q12 with ⟨sn,e,_⟩|e
      ·cases e
      cases e;dsimp only at hm;have e0:=Option.some.inj hm;subst e0;exact Aq hd
     have e0:=Option.some.inj q13;subst e0;rcases q12 with ⟨sn,e,q12'⟩|e
     ·have e:=Sum.inl.inj e;subst e;exact gb bl2 hd (n2,_) ⟨q12',Nat.lt_succ_self _⟩
     cases AM e
    have e0:=Option.some.inj q13;subst e0;rcases q12 with ⟨sn,e,_⟩|e
    ·cases Bv e
    have e:=Sum.inr.inj e;subst e;exact gb bk2 hd () rfl
  subst hy;dsimp only at hm;obtain⟨x11,q17,hm⟩:=Aa hm;refine gc (fun _=>MO q17) ?_;obtain⟨x12,q18,hm⟩:=Aa hm;refine gcG (fun h=>KS (En h q18)) ?_;have hm:=AO hm;let x13:Bool:=((((((x11&&((a0.Names.length:Int)==0))&&(decide (a0.Depth≥0)))&&(decide (a0.Depth≤4)))&&(decide ((a0.Permit.length:Int)≤8)))&&x12));have e0:=Option.some.inj hm;subst e0;exact Aq hd
end Go.Proofs.YtbajlmaijjcbmaaGreatDoor
