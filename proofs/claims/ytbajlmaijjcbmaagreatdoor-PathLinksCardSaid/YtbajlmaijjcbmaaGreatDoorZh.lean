/- The walks of some functions, by the executor, written by program. Conditions: none. -/
import Derived.Test.YtbajlmaijjcbmaaGreatDoorZf
import Derived.Test.YtbajlmaijjcbmaaGreatDoorZg
set_option linter.unusedSimpArgs false
set_option linter.unusedVariables false
set_option maxHeartbeats 20000000
set_option maxRecDepth 100000
namespace Go.Proofs.YtbajlmaijjcbmaaGreatDoor
open Go Go.Gw Go.Ax Tryz
def GG (a0:UInt64)(a1:UInt64):Option UInt64:=Ac (DK a0) fun x1=>Ac (DK a1) fun x2=>Ac (EA x1 x2) fun x3=>Ac (Fq x3.1 x3.2) fun x4=>some x4
theorem Nq {a0:UInt64}{a1:UInt64}{r:UInt64}(hm:GG a0 a1=some r):Sf prog 230 [.d (.u a0),.d (.u a1)] (.d (.u r)):=
 sp call230 func230 rfl ntmps230 rfl fun D0 As η0 m0 hd=>by
  unfold GG at hm;obtain⟨x1,q1,hm⟩:=Aa hm;refine gc (fun _=>Hz q1) (by kernel_rfl) ?_;obtain⟨x2,q2,hm⟩:=Aa hm;refine gc (fun _=>Hz q2) (by kernel_rfl) ?_;obtain⟨x3,q3,hm⟩:=Aa hm;refine gc (fun _=>JE q3) (by kernel_rfl) ?_;obtain⟨x4,q4,hm⟩:=Aa hm;refine gc (fun _=>Mq q4) (by kernel_rfl) ?_;have e0:=Option.some.inj hm;subst e0;exact Au hd (by kernel_rfl)
def DI (i1:Int)(s1:UInt64):Option (UInt64):=Ac (GG s1 s1) fun x4=>some x4
def C3 (a0:UInt64):Option UInt64:=Ac (Ac (CW DI 4 0 a0) fun x2=>some x2) fun x1=>Ac (GG a0 x1) fun x5=>some x5
theorem ML {a0:UInt64}{r:UInt64}(hm:C3 a0=some r):Sf prog 219 [.d (.u a0)] (.d (.u r)):=
 sp call219 func219 rfl ntmps219 rfl fun D0 As η0 m0 hd=>by
  unfold C3 at hm;obtain⟨x1,q1,hm⟩:=Aa hm;obtain⟨x2,q2,q1⟩:=Aa q1;refine gjU 0 (fun(_:Unit)=>⟨[(0,.d (.u a0)),(3,.d (.u x1))],[],[],0⟩) (fun _=>True) (by kernel_rfl) (fun Jp bk1=> ?_) fun _ _=> ?_
  ·refine gjU 0 (fun(_:Unit)=>⟨[(0,.d (.u a0)),(3,.d (.u x2))],[],[],0⟩) (fun _=>True) (by kernel_rfl) (fun Jp bk2=> ?_) fun _ _=> ?_
   ·refine gl hd (fun(p:Int×(UInt64))=>let (p0,p_0):=p; ⟨[(0,.d (.u a0)),(3,.d (.u p_0)),(5,.d (.i p0))],[],[],0⟩) (fun p=> ∃i:Nat,p.1=(i:Int)∧i≤4∧CW DI (4-i) (i:Int) p.2=some x2) (fun p=>4-p.1.toNat) (0,a0) ⟨0,rfl,Nat.zero_le _,q2⟩ (by kernel_rfl) ?_;rintro⟨_,s1⟩ ⟨i1,rfl,hi,q3⟩ Jl bl1;refine gi' (b:=decide ((i1:Int)<(4:Int))) (by kernel_rfl) (fun hc1=> ?_) fun hc1=> ?_
    ·have hlt1:i1<4:=by have:=of_decide_eq_true hc1; omega
     obtain⟨y1,q5,q4⟩:=H0 q3 hlt1;unfold DI at q5;obtain⟨x4,q7,q5⟩:=Aa q5;refine gc (fun _=>Nq q7) (by kernel_rfl) ?_;have e0:=Option.some.inj q5;subst e0;exact gb bl1 hd (w64 ((i1:Int)+1),x4) ⟨⟨i1+1,Bf hlt1 (by decide),by omega,q4⟩,H8 hlt1 (by decide)⟩ (by kernel_rfl)
    have hlt1: ¬i1<4:=by have:=of_decide_eq_false hc1; omega
    have e:=Eq.symm (GM q3 hlt1);subst e;exact gb bk2 hd () trivial (by kernel_rfl)
   have e0:=Option.some.inj q1;subst e0;exact gb bk1 hd () trivial (by kernel_rfl)
  obtain⟨x5,q8,hm⟩:=Aa hm;refine gc (fun _=>Nq q8) (by kernel_rfl) ?_;have e0:=Option.some.inj hm;subst e0;exact Au hd (by kernel_rfl)
theorem MN {m:Mem}{As:List Ow}{w:World}{a0:UInt64}{r:UInt64}(S:St m As w)(hm:C3 a0=some r):
  Aw prog 219 #[vU a0] w fun v w'=> ∃(M:Mem),m≤M∧St M (As) w'∧v=vU r:=by
 refine Aw.mono ((ML hm).2 none0 m As w [vU a0] (.cons (.d (.u _)) .nil) (fun n h=>absurd rfl h) S) ?_;rintro v w' ⟨M,η',r',obs',n1,hle,_,⟨rfl,rfl,rfl⟩,hdom,hR,S'⟩;obtain rfl:=hR.u_inv;exact⟨M,hle,S',rfl⟩
def Es (a0:Int)(a1:UInt64)(k0:Int)(k1:UInt64):Option (UInt64×Int×UInt64):=bnd ((toU (w64 ((w64 ((w64 (3*k0))+a0))+1)))) fun x1=>Ac (DN a1 (((x1*x1)*x1)+7)) fun x2=>Ac (C3 x2) fun x3=>Ac (DN k1 x3) fun x4=>some (x3,k0,x4)
theorem Rm {m:Mem}{As:List Ow}{w:World}{a0:Int}{a1:UInt64}{kb0:Nat}{k0:Int}{kb1:Nat}{k1:UInt64}{r:UInt64×Int×UInt64}(S:St m ((bx kb0 [vI k0] 3)::(bx kb1 [vU k1] 22)::As) w)(hm:Es a0 a1 k0 k1=some r):
  Aw Tryz.prog 218 #[vI a0,vU a1,pt kb0 0,pt kb1 0] w fun v w'=> ∃(M:Mem),m≤M∧St M ((bx kb0 [vI r.2.1] 3)::(bx kb1 [vU r.2.2] 22)::As) w'∧v=vU r.1:=by
 unfold Es at hm;have L0:=Mem.rfl' m;refine CP (args:=[vI a0,vU a1,pt kb0 0,pt kb1 0]) Tryz.func218 rfl Tryz.ntmps218 (Nat.le_of_ble_eq_true rfl) ?_;refine Ag ?_;refine Ad ?_;refine AP (v:=vU 0) rfl ?_;refine Ah ?_;refine nrm ?_;refine Ag ?_;refine Ad ?_;refine HE (i:=0) (cs:=[vI k0]) S rfl rfl Tryz.isAgg3 Tryz.sizeOf3 rfl (fun _=>rfl) ?_;refine OY (m:=3) (n:=k0) rfl rfl ?_;refine Ap (v:=vI a0) rfl ?_;refine EW (m:=(w64 (3*k0))) (n:=a0) rfl rfl ?_;refine EW (m:=(w64 ((w64 (3*k0))+a0))) (n:=1) rfl rfl ?_;refine NQ rfl Tryz.underlying3 Tryz.underlying22 ?_;obtain⟨x1,q1,hm⟩:=CC hm;refine AP (v:=vU x1) (congrArg (fun z=>vU z) q1.symm) ?_;refine Ah ?_;refine nrm ?_;refine Ag ?_;refine Ad ?_;refine Ap (v:=vU a1) rfl ?_;refine Ap (v:=vU x1) rfl ?_;refine Ap (v:=vU x1) rfl ?_;refine We (m:=x1) (n:=x1) rfl rfl ?_;refine Ap (v:=vU x1) rfl ?_;refine We (m:=(x1*x1)) (n:=x1) rfl rfl ?_;refine Z7 (m:=((x1*x1)*x1)) (n:=7) rfl rfl ?_;obtain⟨x2,q2,hm⟩:=Aa hm;refine Cx Tryz.call200 (IY (a0:=a1) (a1:=(((x1*x1)*x1)+7)) S q2) rfl ?_;rintro _ w1 ⟨m1,l1,S1,rfl⟩;replace L0:=Mem.tr L0 l1;clear S;replace S1:St _ ((bx kb0 [vI k0] 3)::(bx kb1 [vU k1] 22)::As) _:=S1;obtain⟨x3,q3,hm⟩:=Aa hm;refine Cx Tryz.call219 (MN (a0:=x2) S1 q3) rfl ?_;rintro _ w2 ⟨m2,l2,S2,rfl⟩;replace L0:=Mem.tr L0 l2;clear S1;replace S2:St _ ((bx kb0 [vI k0] 3)::(bx kb1 [vU k1] 22)::As) _:=S2;refine AP (v:=vU x3) rfl ?_;refine Ah ?_;refine nrm ?_;refine Ag ?_;refine Ad ?_;refine HE (i:=1) (cs:=[vU k1]) S2 rfl rfl Tryz.isAgg22 Tryz.sizeOf22 rfl (fun _=>rfl) ?_;refine Ap (v:=vU x3) rfl ?_;obtain⟨x4,q4,hm⟩:=Aa hm;refine Cx Tryz.call200 (IY (a0:=k1) (a1:=x3) S2 q4) rfl ?_;rintro _ w3 ⟨m3,l3,S3,rfl⟩;replace L0:=Mem.tr L0 l3;clear S2;replace S3:St _ ((bx kb0 [vI k0] 3)::(bx kb1 [vU k1] 22)::As) _:=S3;refine IB (i:=1) S3 rfl rfl rfl Tryz.sizeOf22 (IS rfl LZ) rfl ?_;intro w4 S4;replace S4:St _ ((bx kb0 [vI k0] 3)::(bx kb1 [vU x4] 22)::As) _:=S4;clear S3;refine Ah ?_;refine nrm ?_;refine Ag ?_;refine Ad ?_;refine Ap (v:=vU x3) rfl ?_;refine AP (v:=vU x3) rfl ?_;refine Ah ?_;refine nrm ?_;refine Be ?_;refine D3 ?_;intro we hpd;replace S4:=St.pd S4 hpd;have e0:=Option.some.inj hm;subst e0;exact It [_] rfl ⟨rfl,trivial⟩ ⟨_,L0,S4,rfl⟩
def Er (a0:Int)(a1:UInt64)(k0:UInt64):Option (UInt64×UInt64):=Ac (DN a1 k0) fun x1=>some (x1,k0)
theorem Rk {m:Mem}{As:List Ow}{w:World}{a0:Int}{a1:UInt64}{kb0:Nat}{k0:UInt64}{r:UInt64×UInt64}(S:St m ((bx kb0 [vU k0] 22)::As) w)(hm:Er a0 a1 k0=some r):
  Aw Tryz.prog 220 #[vI a0,vU a1,pt kb0 0] w fun v w'=> ∃(M:Mem),m≤M∧St M ((bx kb0 [vU r.2] 22)::As) w'∧v=vU r.1:=by
 unfold Er at hm;have L0:=Mem.rfl' m;refine CP (args:=[vI a0,vU a1,pt kb0 0]) Tryz.func220 rfl Tryz.ntmps220 (Nat.le_of_ble_eq_true rfl) ?_;refine Ag ?_;refine Ad ?_;refine AP (v:=vU 0) rfl ?_;refine Ah ?_;refine nrm ?_;refine Ag ?_;refine Ad ?_;refine Ap (v:=vU a1) rfl ?_;refine HE (i:=0) (cs:=[vU k0]) S rfl rfl Tryz.isAgg22 Tryz.sizeOf22 rfl (fun _=>rfl) ?_;obtain⟨x1,q1,hm⟩:=Aa hm;refine Cx Tryz.call200 (IY (a0:=a1) (a1:=k0) S q1) rfl ?_;rintro _ w1 ⟨m1,l1,S1,rfl⟩;replace L0:=Mem.tr L0 l1;clear S;replace S1:St _ ((bx kb0 [vU k0] 22)::As) _:=S1;refine AP (v:=vU x1) rfl ?_;refine Ah ?_;refine nrm ?_;refine Be ?_;refine D3 ?_;intro we hpd;replace S1:=St.pd S1 hpd;have e0:=Option.some.inj hm;subst e0;exact It [_] rfl ⟨rfl,trivial⟩ ⟨_,L0,S1,rfl⟩
def FX (i1:Int)(s1:UInt64×UInt64×UInt64):Option (UInt64×UInt64×UInt64):=Ac (Co s1 (fun(s2:Int×UInt64) (b7:Int) (b8:UInt64)=>Ac (Es b7 b8 ((s2).1) ((s2).2)) fun x4=>some (x4.1,(x4.2.1,x4.2.2))) ((i1:Int),0)) fun x5=>Ac (Co x5.1 (fun(s3:UInt64) (b9:Int) (b10:UInt64)=>Ac (Er b9 b10 s3) fun x6=>some (x6.1,x6.2)) x5.2.2) fun x7=>some (x7.1.1,x7.1.2.1,x7.1.2.2)
def IL (a0:UInt64×UInt64×UInt64):Option (UInt64×UInt64×UInt64):=Ac (Ac (CW FX 8 0 (a0.1,a0.2.1,a0.2.2)) fun x2=>some (x2.1,x2.2.1,x2.2.2)) fun x1=>some x1
theorem U4 {m:Mem}{As:List Ow}{w:World}{a0:UInt64×UInt64×UInt64}{r:UInt64×UInt64×UInt64}(S:St m (As) w)(hm:IL a0=some r):
  Aw Tryz.prog 201 #[.agg #[vU a0.1,vU a0.2.1,vU a0.2.2]] w fun v w'=> ∃(M:Mem),m≤M∧St M (As) w'∧v= .agg #[vU r.1,vU r.2.1,vU r.2.2]:=by
 unfold IL at hm;have L0:=Mem.rfl' m;refine CP (args:=[.agg #[vU a0.1,vU a0.2.1,vU a0.2.2]]) Tryz.func201 rfl Tryz.ntmps201 (Nat.le_of_ble_eq_true rfl) ?_;refine Ag ?_;refine Ad ?_;refine LV S rfl ?_;intro b1 w1 S1;replace S1:St _ ((bx b1 [vU a0.1,vU a0.2.1,vU a0.2.2] 187)::As) _:=S1;clear S;refine ES S1 Tryz.zeroValue187 ?_;intro b2 w2 S2;replace S2:St _ ((bx b2 [vU 0,vU 0,vU 0] 187)::(bx b1 [vU a0.1,vU a0.2.1,vU a0.2.2] 187)::As) _:=S2;clear S1;refine Ah ?_;refine nrm ?_;refine Ag ?_;refine Ad ?_;refine HE (i:=1) (cs:=[vU a0.1,vU a0.2.1,vU a0.2.2]) S2 rfl rfl Tryz.isAgg187 Tryz.sizeOf187 rfl (fun h=>by cases h) ?_;refine ES S2 Tryz.zeroValue198 ?_;intro b3 w3 S3;replace S3:St _ ((bx b3 [vU 0,vU 0,vU 0] 198)::(bx b2 [vU 0,vU 0,vU 0] 187)::(bx b1 [vU a0.1,vU a0.2.1,vU a0.2.2] 187)::As) _:=S3;clear S2;refine IB (i:=0) S3 rfl rfl rfl Tryz.sizeOf198 (IS rfl (IS rfl (IS rfl LZ))) rfl ?_;intro w4 S4;replace S4:St _ ((bx b3 [vU a0.1,vU a0.2.1,vU a0.2.2] 198)::(bx b2 [vU 0,vU 0,vU 0] 187)::(bx b1 [vU a0.1,vU a0.2.1,vU a0.2.2] 187)::As) _:=S4;clear S3;refine Ah ?_;refine nrm ?_;obtain⟨x1,q1,hm⟩:=Aa hm;have L1:=Mem.rfl' m;refine Ag ?_;refine AT [4,5,7,8,9,10,11,12,13,14] (fun f' w'=> ∃(M1:Mem),m≤M1∧St M1 ((bx b3 [vU x1.1,vU x1.2.1,vU x1.2.2] 198)::(bx b2 [vU 0,vU 0,vU 0] 187)::(bx b1 [vU a0.1,vU a0.2.1,vU a0.2.2] 187)::As) w'∧Cb f' []) ?_ ?_
 ·refine Ag ?_;refine Ad ?_;refine Ap (v:=vI 0) rfl ?_;refine Ah ?_;refine nrm ?_;obtain⟨x2,q2,q1⟩:=Aa q1;have L2:=Mem.rfl' m;refine AT [4,5,7,8,9,10,11,12,13,14] (fun f' w'=> ∃(M2:Mem),m≤M2∧St M2 ((bx b3 [vU x2.1,vU x2.2.1,vU x2.2.2] 198)::(bx b2 [vU 0,vU 0,vU 0] 187)::(bx b1 [vU a0.1,vU a0.2.1,vU a0.2.2] 187)::As) w'∧Cb f' []) ?_ ?_
  ·refine Av ?_;refine BT [4,5,7,8,9,10,11,12,13,14] (fun n1 f' w'=> ∃(i1:Nat) (s1:UInt64×UInt64×UInt64) (m10:Mem),n1=8-i1∧i1≤8∧CW FX (8-i1) (i1:Int) s1=some x2∧m≤m10∧St m10 ((bx b3 [vU s1.1,vU s1.2.1,vU s1.2.2] 198)::(bx b2 [vU 0,vU 0,vU 0] 187)::(bx b1 [vU a0.1,vU a0.2.1,vU a0.2.2] 187)::As) w'∧Cb f' [(7,vI (i1:Int))]) 8 ⟨0,(a0.1,a0.2.1,a0.2.2),m,rfl,Nat.zero_le _,q2,L2,S4,⟨rfl,trivial⟩⟩ ?_;rintro n1 f1 w5 ho ⟨i1,s1,m1,hn,hi,q3,L4,S5,ha⟩;obtain⟨u1,rfl⟩:=BR (N:=16) ho ha;clear ho ha;have L3:=Mem.rfl' m1;clear S4;refine Ag ?_;refine Ad ?_;refine Kj (m:=(i1:Int)) (n:=8) rfl rfl ?_;refine Ah ?_;refine nrm ?_;refine Ag ?_;refine Cq (t:=decide ((i1:Int)<(8:Int))) rfl (fun hc1=> ?_) (fun hc1=> ?_)
   ·have hlt1:i1<8:=by have:=of_decide_eq_true hc1; omega
    obtain⟨y1,q5,q4⟩:=H0 q3 hlt1;unfold FX at q5;refine AQ ?_;refine nrm ?_;refine Ag ?_;refine Av ?_;refine Ag ?_;refine Ad ?_;refine Ap (v:=vI (i1:Int)) rfl ?_;refine ES S5 Tryz.zeroValue3 ?_;intro b5 w6 S6;replace S6:St _ ((bx b5 [vI 0] 3)::(bx b3 [vU s1.1,vU s1.2.1,vU s1.2.2] 198)::(bx b2 [vU 0,vU 0,vU 0] 187)::(bx b1 [vU a0.1,vU a0.2.1,vU a0.2.2] 187)::As) _:=S6;clear S5;refine IB (i:=0) S6 rfl rfl rfl Tryz.sizeOf3 (IS rfl LZ) rfl ?_;intro w7 S7;replace S7:St _ ((bx b5 [vI (i1:Int)] 3)::(bx b3 [vU s1.1,vU s1.2.1,vU s1.2.2] 198)::(bx b2 [vU 0,vU 0,vU 0] 187)::(bx b1 [vU a0.1,vU a0.2.1,vU a0.2.2] 187)::As) _:=S7;clear S6;refine Ah ?_;refine nrm ?_;refine Ag ?_;refine Ad ?_;refine ES S7 Tryz.zeroValue22 ?_;intro b6 w8 S8;replace S8:St _ ((bx b6 [vU 0] 22)::(bx b5 [vI (i1:Int)] 3)::(bx b3 [vU s1.1,vU s1.2.1,vU s1.2.2] 198)::(bx b2 [vU 0,vU 0,vU 0] 187)::(bx b1 [vU a0.1,vU a0.2.1,vU a0.2.2] 187)::As) _:=S8;clear S7;refine Ah ?_;refine nrm ?_;refine Ag ?_;refine Ad ?_;refine LU (caps:=[pt b5 0,pt b6 0]) rfl ?_;have hcb1: ∀{m':Mem} {As':List Ow} {w':World} {s:Int×UInt64} {X:List Ow} {b0:Int} {b1:UInt64} {r:UInt64×(Int×UInt64)},St m' (X++As') w'→(X=[bx b5 [vI ((s).1)] 3,bx b6 [vU ((s).2)] 22])→(fun(s2:Int×UInt64) (b7:Int) (b8:UInt64)=>Ac (Es b7 b8 ((s2).1) ((s2).2)) fun x4=>some (x4.1,(x4.2.1,x4.2.2))) s b0 b1=some r→Ed Tryz.prog (.func (.func 218) #[] #[pt b5 0,pt b6 0]) [vI b0,vU b1] w' fun v w''=> ∃(M:Mem) (X':List Ow),m'≤M∧St M (X'++As') w''∧(X'=[bx b5 [vI ((r.2).1)] 3,bx b6 [vU ((r.2).2)] 22])∧v=vU r.1:=by
     intro m2 As1 w9 s2 X1 b7 b8 r1 S9 h1 hm1;subst h1;replace S9:St _ ((bx b5 [vI ((s2).1)] 3)::(bx b6 [vU ((s2).2)] 22)::As1) _:=S9;have L5:=Mem.rfl' m2;obtain⟨x4,q7,hm1⟩:=Aa hm1;refine Ed.mono (Ed.clo (pre:=[]) Tryz.call218 rfl (Rm (a0:=b7) (a1:=b8) (k0:=((s2).1)) (k1:=((s2).2)) S9 q7)) ?_;rintro _ w10 ⟨m3,l1,S10,rfl⟩;replace L5:=Mem.tr L5 l1;clear S9;replace S10:St _ ((bx b5 [vI x4.2.1] 3)::(bx b6 [vU x4.2.2] 22)::As1) _:=S10;have e0:=Option.some.inj hm1;subst e0;exact⟨_,[bx b5 [vI x4.2.1] 3,bx b6 [vU x4.2.2] 22],L5,S10,rfl,rfl⟩
    have S11:St _ ((bx b3 [vU s1.1,vU s1.2.1,vU s1.2.2] 198)::(bx b5 [vI (i1:Int)] 3)::(bx b6 [vU 0] 22)::(bx b2 [vU 0,vU 0,vU 0] 187)::(bx b1 [vU a0.1,vU a0.2.1,vU a0.2.2] 187)::As) _:=St.perm S8 (List.Perm.trans (List.Perm.cons _ (List.Perm.swap _ _ _)) (List.Perm.trans (List.Perm.swap _ _ _) (List.Perm.cons _ (List.Perm.swap _ _ _))));clear S8;obtain⟨x5,q8,q5⟩:=Aa q5;refine Cx Tryz.call217 (Ix (a0:=s1) (p1:=(fun(s2:Int×UInt64) (b7:Int) (b8:UInt64)=>Ac (Es b7 b8 ((s2).1) ((s2).2)) fun x4=>some (x4.1,(x4.2.1,x4.2.2)))) (s0:=((i1:Int),0)) (R:=(fun(s:Int×UInt64) (M:Mem) (X:List Ow)=>(X=[bx b5 [vI ((s).1)] 3,bx b6 [vU ((s).2)] 22]))) (X0:=[bx b5 [vI (i1:Int)] 3,bx b6 [vU 0] 22]) (As:=(bx b2 [vU 0,vU 0,vU 0] 187)::(bx b1 [vU a0.1,vU a0.2.1,vU a0.2.2] 187)::As) S11 (fun {_ _ _ _} _ h=>h) rfl @hcb1 rfl q8) rfl ?_;rintro _ w11 ⟨m4,l2,X2,S12,rfl,rfl⟩;replace L3:=Mem.tr L3 l2;clear S11;replace S12:St _ ((bx b3 [vU x5.1.1,vU x5.1.2.1,vU x5.1.2.2] 198)::(bx b5 [vI x5.2.1] 3)::(bx b6 [vU x5.2.2] 22)::(bx b2 [vU 0,vU 0,vU 0] 187)::(bx b1 [vU a0.1,vU a0.2.1,vU a0.2.2] 187)::As) _:=S12;refine Ah ?_;refine nrm ?_;refine Ad ?_;refine LU (caps:=[pt b6 0]) rfl ?_;have hcb2: ∀{m':Mem} {As':List Ow} {w':World} {s:UInt64} {X:List Ow} {b0:Int} {b1:UInt64} {r:UInt64×UInt64},St m' (X++As') w'→(X=[bx b6 [vU (s)] 22])→(fun(s3:UInt64) (b9:Int) (b10:UInt64)=>Ac (Er b9 b10 s3) fun x6=>some (x6.1,x6.2)) s b0 b1=some r→Ed Tryz.prog (.func (.func 220) #[] #[pt b6 0]) [vI b0,vU b1] w' fun v w''=> ∃(M:Mem) (X':List Ow),m'≤M∧St M (X'++As') w''∧(X'=[bx b6 [vU (r.2)] 22])∧v=vU r.1:=by
     intro m5 As2 w12 s3 X3 b9 b10 r2 S13 h2 hm2;subst h2;replace S13:St _ ((bx b6 [vU s3] 22)::As2) _:=S13;have L6:=Mem.rfl' m5;obtain⟨x6,q9,hm2⟩:=Aa hm2;refine Ed.mono (Ed.clo (pre:=[]) Tryz.call220 rfl (Rk (a0:=b9) (a1:=b10) (k0:=s3) S13 q9)) ?_;rintro _ w13 ⟨m6,l3,S14,rfl⟩;replace L6:=Mem.tr L6 l3;clear S13;replace S14:St _ ((bx b6 [vU x6.2] 22)::As2) _:=S14;have e0:=Option.some.inj hm2;subst e0;exact⟨_,[bx b6 [vU x6.2] 22],L6,S14,rfl,rfl⟩
    have S15:St _ ((bx b3 [vU x5.1.1,vU x5.1.2.1,vU x5.1.2.2] 198)::(bx b6 [vU x5.2.2] 22)::(bx b5 [vI x5.2.1] 3)::(bx b2 [vU 0,vU 0,vU 0] 187)::(bx b1 [vU a0.1,vU a0.2.1,vU a0.2.2] 187)::As) _:=St.perm S12 (List.Perm.cons _ (List.Perm.swap _ _ _));clear S12;obtain⟨x7,q10,q5⟩:=Aa q5;refine Cx Tryz.call217 (Ix (a0:=x5.1) (p1:=(fun(s3:UInt64) (b9:Int) (b10:UInt64)=>Ac (Er b9 b10 s3) fun x6=>some (x6.1,x6.2))) (s0:=x5.2.2) (R:=(fun(s:UInt64) (M:Mem) (X:List Ow)=>(X=[bx b6 [vU (s)] 22]))) (X0:=[bx b6 [vU x5.2.2] 22]) (As:=(bx b5 [vI x5.2.1] 3)::(bx b2 [vU 0,vU 0,vU 0] 187)::(bx b1 [vU a0.1,vU a0.2.1,vU a0.2.2] 187)::As) S15 (fun {_ _ _ _} _ h=>h) rfl @hcb2 rfl q10) rfl ?_;rintro _ w14 ⟨m7,l4,X4,S16,rfl,rfl⟩;replace L3:=Mem.tr L3 l4;clear S15;replace S16:St _ ((bx b3 [vU x7.1.1,vU x7.1.2.1,vU x7.1.2.2] 198)::(bx b6 [vU x7.2] 22)::(bx b5 [vI x5.2.1] 3)::(bx b2 [vU 0,vU 0,vU 0] 187)::(bx b1 [vU a0.1,vU a0.2.1,vU a0.2.2] 187)::As) _:=S16;refine Ah ?_;refine Mb ?_;refine nrm ?_;refine Ad ?_;refine EW (m:=(i1:Int)) (n:=1) rfl rfl ?_;refine Ap (v:=vI (w64 ((i1:Int)+1))) rfl ?_;refine Ah ?_;refine nrm ?_;obtain⟨m8,l5,S17⟩:=St.drop S16 1;replace L3:=Mem.tr L3 l5;clear S16;replace S17:St _ ((bx b3 [vU x7.1.1,vU x7.1.2.1,vU x7.1.2.2] 198)::(bx b5 [vI x5.2.1] 3)::(bx b2 [vU 0,vU 0,vU 0] 187)::(bx b1 [vU a0.1,vU a0.2.1,vU a0.2.2] 187)::As) _:=S17;obtain⟨m9,l6,S18⟩:=St.drop S17 1;replace L3:=Mem.tr L3 l6;clear S17;replace S18:St _ ((bx b3 [vU x7.1.1,vU x7.1.2.1,vU x7.1.2.2] 198)::(bx b2 [vU 0,vU 0,vU 0] 187)::(bx b1 [vU a0.1,vU a0.2.1,vU a0.2.2] 187)::As) _:=S18;have e0:=Option.some.inj q5;subst e0;exact⟨E2,_,(by omega),⟨i1+1,(x7.1.1,x7.1.2.1,x7.1.2.2),m9,rfl,hlt1,q4,Mem.tr L4 L3,S18,⟨congrArg (Value.int .i64) (Bf hlt1 (by decide)),trivial⟩⟩⟩
   have hlt1: ¬i1<8:=by have:=of_decide_eq_false hc1; omega
   have e:=Eq.symm (GM q3 hlt1);subst e;refine CD ?_;refine thE ?_;refine thE ?_;refine exB ?_;refine nrm ?_;exact⟨E2,m1,Mem.tr L4 L3,S5,trivial⟩
  rintro f2 w15 ho ⟨m11,l7,S19,ha⟩;obtain⟨u2,rfl⟩:=BR (N:=16) ho ha;clear ho ha;replace L1:=Mem.tr L1 l7;clear S4;have e0:=Option.some.inj q1;subst e0;exact⟨E2,m11,L1,S19,trivial⟩
 rintro f3 w16 ho ⟨m12,l8,S20,ha⟩;obtain⟨u3,rfl⟩:=BR (N:=16) ho ha;replace L0:=Mem.tr L0 l8;clear S4;refine Ag ?_;refine Ad ?_;refine HE (i:=0) (cs:=[vU x1.1,vU x1.2.1,vU x1.2.2]) S20 rfl rfl Tryz.isAgg198 Tryz.sizeOf198 rfl (fun h=>by cases h) ?_;refine IB (i:=1) S20 rfl rfl rfl Tryz.sizeOf187 (IS rfl (IS rfl (IS rfl LZ))) rfl ?_;intro w17 S21;replace S21:St _ ((bx b3 [vU x1.1,vU x1.2.1,vU x1.2.2] 198)::(bx b2 [vU x1.1,vU x1.2.1,vU x1.2.2] 187)::(bx b1 [vU a0.1,vU a0.2.1,vU a0.2.2] 187)::As) _:=S21;clear S20;refine Ah ?_;refine nrm ?_;refine Be ?_;refine D3 ?_;intro we hpd;replace S21:=St.pd S21 hpd;have SR:=S21;obtain⟨m13,l9,S22⟩:=St.drop S21 0;replace L0:=Mem.tr L0 l9;replace S22:St _ ((bx b2 [vU x1.1,vU x1.2.1,vU x1.2.2] 187)::(bx b1 [vU a0.1,vU a0.2.1,vU a0.2.2] 187)::As) _:=S22;obtain⟨m14,l10,S23⟩:=St.drop S22 0;replace L0:=Mem.tr L0 l10;clear S22;replace S23:St _ ((bx b1 [vU a0.1,vU a0.2.1,vU a0.2.2] 187)::As) _:=S23;obtain⟨m15,l11,S24⟩:=St.drop S23 0;replace L0:=Mem.tr L0 l11;clear S23;replace S24:St _ (As) _:=S24;have e0:=Option.some.inj hm;subst e0;exact It [_] rfl ⟨Io (i:=1) (off:=0) (cs:=[vU x1.1,vU x1.2.1,vU x1.2.2]) SR rfl rfl Tryz.isAgg187 Tryz.sizeOf187 rfl (fun h=>by cases h),trivial⟩ ⟨_,L0,S24,rfl⟩
def DJ (x6:List UInt64)(i2:Int)(s2:UInt64×UInt64×UInt64):Option (UInt64×UInt64×UInt64):=Ac (idx x6 (i2:Int)) fun x9=>Ac (idx [s2.1,s2.2.1,s2.2.2] (i2:Int)) fun x10=>Ac (DN x10 x9) fun x11=>Ac (idx [s2.1,s2.2.1,s2.2.2] (i2:Int)) fun x12=>bnd (if(i2:Int)=0 then x11 else s2.1) fun x13=>bnd (if(i2:Int)=1 then x11 else s2.2.1) fun x14=>bnd (if(i2:Int)=2 then x11 else s2.2.2) fun x15=>some (x13,x14,x15)
def B1 (s1:(List UInt64)×Bool×UInt64×UInt64×UInt64):Option (((List UInt64)×Bool×UInt64×UInt64×UInt64)⊕(UInt64×UInt64×UInt64)):=if(s1.2.1||(decide ((s1.1.length:Int)>0)))=true then Ac (Ac (cut s1.1 0 (MZ 2 (s1.1.length:Int))) fun x6=>Ac (CW (DJ x6) x6.length 0 (s1.2.2.1,s1.2.2.2.1,s1.2.2.2.2)) fun x7=>some (x7.1,x7.2.1,x7.2.2)) fun x5=>Ac (cut s1.1 (MZ 2 (s1.1.length:Int)) (s1.1.length:Int)) fun x16=>Ac (IL x5) fun x17=>some (.inl (x16,false,x17.1,x17.2.1,x17.2.2))else some (.inr (s1.2.2.1,s1.2.2.2.1,s1.2.2.2.2))
def Hs (a0:List UInt8):Option (UInt64×UInt64):=Ac (IM a0) fun x1=>Ac (Ac (iter B1 A0 (x1,true,0,0,(toU (a0.length:Int)))) fun x3=>some (x3.1,x3.2.1,x3.2.2)) fun x2=>some (x2.1,x2.2.1)
theorem U3 {m:Mem}{As:List Ow}{w:World}{a0:List UInt8}{a0v0:Value}{r:UInt64×UInt64}(S:St m (As) w)(a0h0:SlR m a0v0 a0)(hm:Hs a0=some r):
  Aw Tryz.prog 165 #[a0v0] w fun v w'=> ∃(M:Mem),m≤M∧St M (As) w'∧v= .agg #[vU r.1,vU r.2]:=by
 unfold Hs at hm;have L0:=Mem.rfl' m;refine CP (args:=[a0v0]) Tryz.func165 rfl Tryz.ntmps165 (Nat.le_of_ble_eq_true rfl) ?_;refine Ag ?_;refine Ad ?_;refine ES S Tryz.zeroValue84 ?_;intro b1 w1 S1;replace S1:St _ ((bx b1 [vU 0,vU 0] 84)::As) _:=S1;clear S;refine Ah ?_;refine nrm ?_;refine Ag ?_;refine Ad ?_;refine Ap (v:=a0v0) rfl ?_;refine JL (xs:=a0) rfl a0h0 Tryz.underlying52 ?_;refine NQ rfl Tryz.underlying3 Tryz.underlying22 ?_;refine SY (parts:=[(2,.tmp 11)]) (ps:=[(2,vU (toU (a0.length:Int)),[vU (toU (a0.length:Int))])]) (cs:=[vU 0,vU 0,vU (toU (a0.length:Int))]) Tryz.zeroValue187 (Jn.arr Tryz.underlying187 Tryz.sizeOf22) rfl ⟨rfl,trivial⟩ rfl ?_;refine ES S1 Tryz.zeroValue187 ?_;intro b2 w2 S2;replace S2:St _ ((bx b2 [vU 0,vU 0,vU 0] 187)::(bx b1 [vU 0,vU 0] 84)::As) _:=S2;clear S1;refine IB (i:=0) S2 rfl rfl rfl Tryz.sizeOf187 (IS rfl (IS rfl (IS rfl LZ))) rfl ?_;intro w3 S3;replace S3:St _ ((bx b2 [vU 0,vU 0,vU (toU (a0.length:Int))] 187)::(bx b1 [vU 0,vU 0] 84)::As) _:=S3;clear S2;refine Ah ?_;refine nrm ?_;refine Ag ?_;refine Ad ?_;refine Ap (v:=a0v0) rfl ?_;obtain⟨x1,q1,hm⟩:=Aa hm;refine Cx Tryz.call199 (U5 (a0:=a0) S3 a0h0 q1) rfl ?_;rintro v1 w4 ⟨m1,l1,_,c1,S4,rfl,h1⟩;replace a0h0:=a0h0.up l1;replace L0:=Mem.tr L0 l1;clear S3;replace S4:St _ ((row 1 v1 c1 x1.length)::(bx b2 [vU 0,vU 0,vU (toU (a0.length:Int))] 187)::(bx b1 [vU 0,vU 0] 84)::As) _:=S4;refine AP (v:=v1) rfl ?_;refine Ah ?_;refine nrm ?_;obtain⟨x2,q2,hm⟩:=Aa hm;have L1:=Mem.rfl' m1;refine Ag ?_;refine AT [4,5,6,7,8,15,16,17,18,19,20,21,22,23,24,25,26,27,28,29,30,31,32,33,34,35,36,37,38,39,40,41,42,43,44,45] (fun f' w'=> ∃(M1:Mem),m1≤M1∧St M1 ((bx b2 [vU x2.1,vU x2.2.1,vU x2.2.2] 187)::(bx b1 [vU 0,vU 0] 84)::As) w'∧Cb f' []) ?_ ?_
 ·refine Ag ?_;refine Ad ?_;refine AP (v:=vb true) rfl ?_;refine Ah ?_;refine nrm ?_;obtain⟨x3,q3,q2⟩:=Aa q2;have L2:=Mem.rfl' m1;obtain⟨m2,l2,h3,S5⟩:=St.rowKeepT (i:=0) S4 rfl h1 rfl;replace L2:=Mem.tr L2 l2;clear S4;refine AT [4,5,6,7,8,15,16,17,18,19,20,21,22,23,24,25,26,27,28,29,30,31,32,33,34,35,36,37,38,39,40,41,42,43,44,45] (fun f' w'=> ∃(M2:Mem),m1≤M2∧St M2 ((bx b2 [vU x3.1,vU x3.2.1,vU x3.2.2] 187)::(bx b1 [vU 0,vU 0] 84)::As) w'∧Cb f' []) ?_ ?_
  ·refine Av ?_;refine BT [4,5,6,7,8,15,16,17,18,19,20,21,22,23,24,25,26,27,28,29,30,31,32,33,34,35,36,37,38,39,40,41,42,43,44,45] (fun n1 f' w'=> ∃(s1:(List UInt64)×Bool×UInt64×UInt64×UInt64) (m10:Mem) (v2:Value),iter B1 n1 s1=some x3∧m1≤m10∧St m10 ((bx b2 [vU s1.2.2.1,vU s1.2.2.2.1,vU s1.2.2.2.2] 187)::(bx b1 [vU 0,vU 0] 84)::As) w'∧SlR m10 v2 s1.1∧Cb f' [(4,v2),(5,vb s1.2.1)]) A0 ⟨(x1,true,0,0,(toU (a0.length:Int))),m2,_,q3,L2,S5,h3,⟨rfl,rfl,trivial⟩⟩ ?_;rintro n1 f1 w5 ho ⟨s1,m3,v2,q4,L4,S6,h2,ha⟩;obtain⟨u1,rfl⟩:=BR (N:=49) ho ha;clear ho ha;have L3:=Mem.rfl' m3;clear S5;cases n1 with
   |zero=>exact(Ar q4).elim
   |succ n1=>
    obtain⟨y1,q6,q5⟩:=Ao q4;unfold B1 at q6;refine Ag ?_;refine Ag ?_;refine Ad ?_;refine Ap (v:=vb s1.2.1) rfl ?_;refine Ap (v:=vb s1.2.1) rfl ?_;refine Ps 4 [17,18,19,20] (fun f' w'=>w'=w5∧Cb f' [(20,vb (s1.2.1||(decide ((s1.1.length:Int)>0))))]) ?_ ?_
    ·rcases QO s1.2.1 with hb1|hb1
     ·refine Gj (d:=16) rfl rfl (congrArg Value.bool hb1) ?_;refine Gj (d:=16) rfl rfl (congrArg Value.bool hb1) ?_;refine Gj (d:=16) rfl rfl (congrArg Value.bool hb1) ?_;refine I0 (congrArg Value.bool hb1) rfl ?_;exact Ah (nrm ⟨E2,rfl,congrArg Value.bool (or_t hb1),trivial⟩)
     ·refine E6 (d:=16) rfl rfl (congrArg Value.bool hb1) ?_;refine Ap (v:=v2) rfl ?_;refine E6 (d:=16) rfl rfl (congrArg Value.bool hb1) ?_;refine JL (xs:=s1.1) rfl h2 Tryz.underlying140 ?_;refine E6 (d:=16) rfl rfl (congrArg Value.bool hb1) ?_;refine Ve (m:=(s1.1.length:Int)) (n:=0) rfl rfl ?_;refine I1 (congrArg Value.bool hb1) rfl ?_;exact Ah (nrm ⟨E2,rfl,congrArg Value.bool (or_f hb1),trivial⟩)
    rintro f2 w6 ho ⟨h4,ha⟩;subst h4;obtain⟨u2,rfl⟩:=BR (N:=49) ho ha;refine Ah ?_;refine nrm ?_;refine Cq (t:=(s1.2.1||(decide ((s1.1.length:Int)>0)))) rfl (fun hc1=> ?_) (fun hc1=> ?_)
    ·replace q6:=ifT hc1 q6;refine AQ ?_;refine nrm ?_;refine Ag ?_;refine Av ?_;refine Ag ?_;refine Ad ?_;refine Ap (v:=v2) rfl ?_;refine JL (xs:=s1.1) rfl h2 Tryz.underlying140 ?_;refine Wg (m:=2) rfl rfl ?_;refine AP (v:=vI (MZ 2 (s1.1.length:Int))) rfl ?_;refine Ah ?_;refine nrm ?_;obtain⟨x5,q8,q6⟩:=Aa q6;have L5:=Mem.rfl' m3;refine Ag ?_;refine AT [7,8,24,25,26,27,28,29,30,31,32,33,34,35,36,37,38,39,40] (fun f' w'=> ∃(M3:Mem),m3≤M3∧St M3 ((bx b2 [vU x5.1,vU x5.2.1,vU x5.2.2] 187)::(bx b1 [vU 0,vU 0] 84)::As) w'∧Cb f' []) ?_ ?_
     ·refine Ag ?_;refine Ad ?_;refine Ap (v:=v2) rfl ?_;refine Ap (v:=vI (MZ 2 (s1.1.length:Int))) rfl ?_;obtain⟨x6,q9,q8⟩:=Aa q8;refine SX (ys:=x6) (l:=0) (h:=(MZ 2 (s1.1.length:Int))) rfl h2 Tryz.underlying140 Tryz.sizeOf22 (.inl ⟨rfl,rfl⟩) (.inr ⟨_,rfl⟩) (.inl rfl) q9 ?_;intro v3 h5;refine JL (xs:=x6) rfl h5 Tryz.underlying140 ?_;refine Ap (v:=vI 0) rfl ?_;refine Ah ?_;refine nrm ?_;obtain⟨x7,q10,q8⟩:=Aa q8;have L6:=Mem.rfl' m3;refine AT [7,8,28,29,30,31,32,33,34,35,36,37,38,39,40] (fun f' w'=> ∃(M4:Mem),m3≤M4∧St M4 ((bx b2 [vU x7.1,vU x7.2.1,vU x7.2.2] 187)::(bx b1 [vU 0,vU 0] 84)::As) w'∧Cb f' []) ?_ ?_
      ·refine Av ?_;refine BT [7,8,28,29,30,31,32,33,34,35,36,37,38,39,40] (fun n2 f' w'=> ∃(i2:Nat) (s2:UInt64×UInt64×UInt64) (m6:Mem),n2=x6.length-i2∧i2≤x6.length∧CW (DJ x6) (x6.length-i2) (i2:Int) s2=some x7∧m3≤m6∧St m6 ((bx b2 [vU s2.1,vU s2.2.1,vU s2.2.2] 187)::(bx b1 [vU 0,vU 0] 84)::As) w'∧Cb f' [(28,vI (i2:Int))]) x6.length ⟨0,(s1.2.2.1,s1.2.2.2.1,s1.2.2.2.2),m3,rfl,Nat.zero_le _,q10,L6,S6,⟨rfl,trivial⟩⟩ ?_;rintro n2 f3 w7 ho ⟨i2,s2,m4,hn,hi,q11,L8,S7,ha⟩;obtain⟨u3,rfl⟩:=BR (N:=49) ho ha;clear ho ha;replace h2:=h2.up L8;replace h5:=h5.up L8;have L7:=Mem.rfl' m4;clear S6;refine Ag ?_;refine Ad ?_;refine Kj (m:=(i2:Int)) (n:=(x6.length:Int)) rfl rfl ?_;refine Ah ?_;refine nrm ?_;refine Ag ?_;refine Cq (t:=decide ((i2:Int)<(x6.length:Int))) rfl (fun hc2=> ?_) (fun hc2=> ?_)
       ·have hlt2:i2<x6.length:=by have:=of_decide_eq_true hc2; omega
        obtain⟨y2,q13,q12⟩:=H0 q11 hlt2;unfold DJ at q13;refine AQ ?_;refine nrm ?_;refine Ag ?_;refine Av ?_;refine Ag ?_;refine Ad ?_;refine Ap (v:=vI (i2:Int)) rfl ?_;obtain⟨x9,q15,q13⟩:=Aa q13;refine Wm (q:=x9) rfl rfl h5 q15 Tryz.underlying140 Tryz.sizeOf22 ?_;intro p1 c2 h6 r2;obtain rfl:c2=[vU x9]:=r2;refine Wk (cs:=[vU x9]) S7 rfl h6 rfl Tryz.isAgg22 Tryz.sizeOf22 (fun _=>rfl) ?_;refine AP (v:=vI (i2:Int)) rfl ?_;refine AP (v:=vU x9) rfl ?_;refine Ah ?_;refine nrm ?_;refine Ad ?_;refine Ap (v:=vI (i2:Int)) rfl ?_;refine Ap (v:=vI (i2:Int)) rfl ?_;obtain⟨x10,q16,q13⟩:=Aa q13;refine Ib (i:=(i2:Int)) rfl rfl Tryz.underlying187 Tryz.sizeOf22 (CB q16).1 (CB q16).2 ?_;refine HE (i:=0) (off:=0+(i2:Int).toNat*1) (cs:=[vU x10]) S7 rfl rfl Tryz.isAgg22 Tryz.sizeOf22 (by rcases Vq q16 with ⟨h,h'⟩|⟨h,h'⟩|⟨h,h'⟩<;>(rw[h,h']; rfl)) (fun _=>rfl) ?_;refine Ap (v:=vU x9) rfl ?_;obtain⟨x11,q17,q13⟩:=Aa q13;refine Cx Tryz.call200 (IY (a0:=x10) (a1:=x9) S7 q17) rfl ?_;rintro _ w8 ⟨m5,l3,S8,rfl⟩;replace h2:=h2.up l3;replace h5:=h5.up l3;replace L7:=Mem.tr L7 l3;clear S7;replace S8:St _ ((bx b2 [vU s2.1,vU s2.2.1,vU s2.2.2] 187)::(bx b1 [vU 0,vU 0] 84)::As) _:=S8;obtain⟨x12,q18,q13⟩:=Aa q13;refine Ib (i:=(i2:Int)) rfl rfl Tryz.underlying187 Tryz.sizeOf22 (CB q18).1 (CB q18).2 ?_;obtain⟨x13,q19,q13⟩:=CC q13;obtain⟨x14,q20,q13⟩:=CC q13;obtain⟨x15,q21,q13⟩:=CC q13;refine YK (i:=0) (off:=0+(i2:Int).toNat*1) S8 rfl rfl rfl Tryz.sizeOf22 (TQ.all (IS rfl LZ)) (by rcases Vq q18 with ⟨h,h'⟩|⟨h,h'⟩|⟨h,h'⟩<;>(rw[h]; exact Nat.le_of_ble_eq_true rfl)) ?_;intro w9 S9;replace S9:=St.cellsTo (i:=0) (l':=[vU x13,vU x14,vU x15]) S9 (by rcases Vq q18 with ⟨h,h'⟩|⟨h,h'⟩|⟨h,h'⟩<;>(simp only[q19,q20,q21,h]; rfl)) rfl;replace S9:St _ ((bx b2 [vU x13,vU x14,vU x15] 187)::(bx b1 [vU 0,vU 0] 84)::As) _:=S9;clear S8;refine Ah ?_;refine Mb ?_;refine nrm ?_;refine Ad ?_;refine EW (m:=(i2:Int)) (n:=1) rfl rfl ?_;refine Ap (v:=vI (w64 ((i2:Int)+1))) rfl ?_;refine Ah ?_;refine nrm ?_;have e0:=Option.some.inj q13;subst e0;exact⟨E2,_,(by omega),⟨i2+1,(x13,x14,x15),m5,rfl,hlt2,q12,Mem.tr L8 L7,S9,⟨congrArg (Value.int .i64) (Bf hlt2 (SlR.le h5)),trivial⟩⟩⟩
       have hlt2: ¬i2<x6.length:=by have:=of_decide_eq_false hc2; omega
       have e:=Eq.symm (GM q11 hlt2);subst e;refine CD ?_;refine thE ?_;refine thE ?_;refine exB ?_;refine nrm ?_;exact⟨E2,m4,Mem.tr L8 L7,S7,trivial⟩
      rintro f4 w10 ho ⟨m7,l4,S10,ha⟩;obtain⟨u4,rfl⟩:=BR (N:=49) ho ha;clear ho ha;replace h2:=h2.up l4;replace L5:=Mem.tr L5 l4;clear S6;have e0:=Option.some.inj q8;subst e0;exact⟨E2,m7,L5,S10,trivial⟩
     rintro f5 w11 ho ⟨m8,l5,S11,ha⟩;obtain⟨u5,rfl⟩:=BR (N:=49) ho ha;replace h2:=h2.up l5;replace L3:=Mem.tr L3 l5;clear S6;refine Ag ?_;refine Ad ?_;refine Ap (v:=v2) rfl ?_;refine Ap (v:=vI (MZ 2 (s1.1.length:Int))) rfl ?_;obtain⟨x16,q22,q6⟩:=Aa q6;refine SX (ys:=x16) (l:=(MZ 2 (s1.1.length:Int))) (h:=(s1.1.length:Int)) rfl h2 Tryz.underlying140 Tryz.sizeOf22 (.inr ⟨_,rfl⟩) (.inl ⟨rfl,rfl⟩) (.inl rfl) q22 ?_;intro v4 h7;refine AP (v:=v4) rfl ?_;refine Ah ?_;refine nrm ?_;refine Ad ?_;refine HE (i:=0) (cs:=[vU x5.1,vU x5.2.1,vU x5.2.2]) S11 rfl rfl Tryz.isAgg187 Tryz.sizeOf187 rfl (fun h=>by cases h) ?_;obtain⟨x17,q23,q6⟩:=Aa q6;refine Cx Tryz.call201 (U4 (a0:=x5) S11 q23) rfl ?_;rintro _ w12 ⟨m9,l6,S12,rfl⟩;replace h7:=h7.up l6;replace L3:=Mem.tr L3 l6;clear S11;replace S12:St _ ((bx b2 [vU x5.1,vU x5.2.1,vU x5.2.2] 187)::(bx b1 [vU 0,vU 0] 84)::As) _:=S12;refine IB (i:=0) S12 rfl rfl rfl Tryz.sizeOf187 (IS rfl (IS rfl (IS rfl LZ))) rfl ?_;intro w13 S13;replace S13:St _ ((bx b2 [vU x17.1,vU x17.2.1,vU x17.2.2] 187)::(bx b1 [vU 0,vU 0] 84)::As) _:=S13;clear S12;refine Ah ?_;refine Mb ?_;refine nrm ?_;refine Ad ?_;refine AP (v:=vb false) rfl ?_;refine Ah ?_;refine nrm ?_;have e0:=Option.some.inj q6;subst e0;rcases q5 with ⟨sn,e,q5'⟩|e
     ·cases e;exact⟨E2,_,Nat.lt_succ_self _,⟨_,m9,_,q5',Mem.tr L4 L3,S13,h7,⟨rfl,rfl,trivial⟩⟩⟩
     ·cases e
    replace q6:=ifF hc1 q6;refine CD ?_;refine thE ?_;refine thE ?_;refine exB ?_;refine nrm ?_;have e0:=Option.some.inj q6;subst e0;rcases q5 with ⟨sn,e,_⟩|e
    ·cases e
    ·cases e;exact⟨E2,m3,Mem.tr L4 L3,S6,trivial⟩
  rintro f6 w14 ho ⟨m11,l7,S14,ha⟩;obtain⟨u6,rfl⟩:=BR (N:=49) ho ha;clear ho ha;replace L1:=Mem.tr L1 l7;clear S5;have e0:=Option.some.inj q2;subst e0;exact⟨E2,m11,L1,S14,trivial⟩
 rintro f7 w15 ho ⟨m12,l8,S15,ha⟩;obtain⟨u7,rfl⟩:=BR (N:=49) ho ha;replace L0:=Mem.tr L0 l8;clear S4;refine Ag ?_;refine Ad ?_;refine MU (k:=2) (n:=3) (sz:=1) rfl Tryz.underlying187 Tryz.sizeOf22 (.inr ⟨_,rfl⟩) (by decide) ?_;refine Aba rfl Tryz.underlying84 (by decide) ?_;refine HE (i:=0) (cs:=[vU x2.1,vU x2.2.1]) S15 rfl rfl Tryz.isAgg84 Tryz.sizeOf84 rfl (fun h=>by cases h) ?_;refine IB (i:=1) S15 rfl rfl rfl Tryz.sizeOf84 (IS rfl (IS rfl LZ)) rfl ?_;intro w16 S16;replace S16:St _ ((bx b2 [vU x2.1,vU x2.2.1,vU x2.2.2] 187)::(bx b1 [vU x2.1,vU x2.2.1] 84)::As) _:=S16;clear S15;refine Ah ?_;refine nrm ?_;refine Be ?_;refine D3 ?_;intro we hpd;replace S16:=St.pd S16 hpd;have SR:=S16;obtain⟨m13,l9,S17⟩:=St.drop S16 0;replace L0:=Mem.tr L0 l9;replace S17:St _ ((bx b1 [vU x2.1,vU x2.2.1] 84)::As) _:=S17;obtain⟨m14,l10,S18⟩:=St.drop S17 0;replace L0:=Mem.tr L0 l10;clear S17;replace S18:St _ (As) _:=S18;have e0:=Option.some.inj hm;subst e0;exact It [_] rfl ⟨Io (i:=1) (off:=0) (cs:=[vU x2.1,vU x2.2.1]) SR rfl rfl Tryz.isAgg84 Tryz.sizeOf84 rfl (fun h=>by cases h),trivial⟩ ⟨_,L0,S18,rfl⟩
theorem Vd {a0:List UInt8}{r:UInt64×UInt64}(hm:Hs a0=some r):Sf prog 165 [sl eB a0] (ag (J2 r)):=
 ⟨call165,fun η m As w vs hv0 hd S=>by
  have S:St m As w:=S;obtain⟨v0,u0,rfl,r0,hv1⟩:=Bg.cons_inv hv0;have f0:=Br.ofS Br.b r0.dd;obtain rfl:=Bg.nil_inv hv1;refine Aw.mono (U3 S f0 hm) ?_;rintro v w' ⟨M,hle,S0,rfl⟩;exact⟨M,none0,_,_,_,hle,TH hd _,⟨rfl,rfl,rfl⟩,fun n h=>absurd rfl h,(Br.toA Yc (OG)),S0⟩⟩
def DS (i1:Int)(x4:List UInt8)(s1:(List UInt8)):Option ((List UInt8)):=Ac (Hr s1 (toU (x4.length:Int)) 4) fun x5=>Ac (app 1 x5 x4) fun x6=>some x6
def EK (a0:ByteArray)(a1:List (List UInt8)):Option (UInt64×UInt64):=Ac (app 1 ([(toB (a0.size:Int))]:List UInt8) a0.data.toList) fun x1=>Ac (Ac (GN DS a1 0 x1) fun x3=>some x3) fun x2=>Ac (Hs x2) fun x7=>some x7
theorem K7 {a0:ByteArray}{a1:List (List UInt8)}{r:UInt64×UInt64}(hm:EK a0 a1=some r):Sf prog 111 [.d (.s a0),sl (eL eB) a1] (ag (J2 r)):=
 sp call111 func111 rfl ntmps111 rfl fun D0 As η0 m0 hd=>by
  unfold EK at hm;refine VB (k:=1) eB ([(toB (a0.size:Int))]:List UInt8) (fun _=>rfl) (by kernel_rfl) ?_;obtain⟨x1,q1,hm⟩:=Aa hm;refine gapS q1 (by kernel_rfl) ?_;obtain⟨x2,q2,hm⟩:=Aa hm;obtain⟨x3,q3,q2⟩:=Aa q2;refine Pb 0 (E:=(eL eB)) (xs:=a1) 14 (by kernel_rfl) fun hle1=> ?_;refine gjU 0 (fun(_:Unit)=>⟨[(4,.pb 0 0),(5,.ow 1)],[(0,.row 1 1 _ eB x2),(1,.box 0 [.d (.u 0),.d (.u 0)] 84)],[],2⟩) (fun _=>True) (by kernel_rfl) (fun Jp bk1=> ?_) fun _ _=> ?_
  ·refine gjU 0 (fun(_:Unit)=>⟨[(4,.pb 0 0),(5,.ow 1)],[(0,.row 1 1 _ eB x3),(1,.box 0 [.d (.u 0),.d (.u 0)] 84)],[],2⟩) (fun _=>True) (by kernel_rfl) (fun Jp bk2=> ?_) fun _ _=> ?_
   ·refine gl hd (fun(p:Int×((List UInt8)))=>let (p0,p_0):=p; ⟨[(4,.pb 0 0),(5,.ow 1),(14,sl (eL eB) a1),(15,.d (.i (a1.length:Int))),(16,.d (.i p0))],[(0,.row 1 1 _ eB p_0),(1,.box 0 [.d (.u 0),.d (.u 0)] 84)],[],2⟩) (fun p=> ∃i:Nat,p.1=(i:Int)∧i≤a1.length∧GN DS (a1.drop i) (i:Int) p.2=some x3) (fun p=>a1.length-p.1.toNat) (0,x1) ⟨0,rfl,Nat.zero_le _,q3⟩ (by kernel_rfl) ?_;rintro⟨_,s1⟩ ⟨i1,rfl,hi,q4⟩ Jl bl1;refine gi' (b:=decide ((i1:Int)<(a1.length:Int))) (by kernel_rfl) (fun hc1=> ?_) fun hc1=> ?_
    ·have hlt1:i1<a1.length:=by have:=of_decide_eq_true hc1; omega
     obtain⟨x4,y1,q7,q6,q5⟩:=Kf q4 hlt1;unfold DS at q6;refine Hc (k:=1) (E:=(eL eB)) (fun _=>rfl) (fun _=>q7) (by kernel_rfl) ?_;obtain⟨x5,q8,q6⟩:=Aa q6;refine gco (U2 q8) (by kernel_rfl) ?_;obtain⟨x6,q9,q6⟩:=Aa q6;refine KS (k:=1) (E:=eB) (fun _=>rfl) q9 (by kernel_rfl) ?_;have e0:=Option.some.inj q6;subst e0;exact gb bl1 hd (w64 ((i1:Int)+1),x6) ⟨⟨i1+1,Bf hlt1 hle1,by omega,q5⟩,H8 hlt1 hle1⟩ (by kernel_rfl)
    have hlt1: ¬i1<a1.length:=by have:=of_decide_eq_false hc1; omega
    have e:=Eq.symm (IQ q4 hlt1);subst e;exact gb bk2 hd () trivial (by kernel_rfl)
   have e0:=Option.some.inj q2;subst e0;exact gb bk1 hd () trivial (by kernel_rfl)
  obtain⟨x7,q10,hm⟩:=Aa hm;refine gco (Vd q10) (by kernel_rfl) ?_;have e0:=Option.some.inj hm;subst e0;exact Au hd (by kernel_rfl)
def FI (a0:UInt64)(i1:Int)(s1:UInt8×UInt8×UInt8×UInt8×UInt8×UInt8×UInt8×UInt8):Option (UInt8×UInt8×UInt8×UInt8×UInt8×UInt8×UInt8×UInt8):=if(0:Int)≤(w64 (8*(i1:Int)))then Ac (idx [s1.1,s1.2.1,s1.2.2.1,s1.2.2.2.1,s1.2.2.2.2.1,s1.2.2.2.2.2.1,s1.2.2.2.2.2.2.1,s1.2.2.2.2.2.2.2] (w64 (7-(i1:Int)))) fun x4=>bnd (if(w64 (7-(i1:Int)))=0 then(toB ((CZ a0 ((w64 (8*(i1:Int))).toNat)).toNat:Int))else s1.1) fun x5=>bnd (if(w64 (7-(i1:Int)))=1 then(toB ((CZ a0 ((w64 (8*(i1:Int))).toNat)).toNat:Int))else s1.2.1) fun x6=>bnd (if(w64 (7-(i1:Int)))=2 then(toB ((CZ a0 ((w64 (8*(i1:Int))).toNat)).toNat:Int))else s1.2.2.1) fun x7=>bnd (if(w64 (7-(i1:Int)))=3 then(toB ((CZ a0 ((w64 (8*(i1:Int))).toNat)).toNat:Int))else s1.2.2.2.1) fun x8=>bnd (if(w64 (7-(i1:Int)))=4 then(toB ((CZ a0 ((w64 (8*(i1:Int))).toNat)).toNat:Int))else s1.2.2.2.2.1) fun x9=>bnd (if(w64 (7-(i1:Int)))=5 then(toB ((CZ a0 ((w64 (8*(i1:Int))).toNat)).toNat:Int))else s1.2.2.2.2.2.1) fun x10=>bnd (if(w64 (7-(i1:Int)))=6 then(toB ((CZ a0 ((w64 (8*(i1:Int))).toNat)).toNat:Int))else s1.2.2.2.2.2.2.1) fun x11=>bnd (if(w64 (7-(i1:Int)))=7 then(toB ((CZ a0 ((w64 (8*(i1:Int))).toNat)).toNat:Int))else s1.2.2.2.2.2.2.2) fun x12=>some (x5,x6,x7,x8,x9,x10,x11,x12)else none
def Dx (a0:UInt64):Option (List UInt8):=Ac (Ac (CW (FI a0) 8 0 (0,0,0,0,0,0,0,0)) fun x2=>some (x2.1,x2.2.1,x2.2.2.1,x2.2.2.2.1,x2.2.2.2.2.1,x2.2.2.2.2.2.1,x2.2.2.2.2.2.2.1,x2.2.2.2.2.2.2.2)) fun x1=>some ([x1.1,x1.2.1,x1.2.2.1,x1.2.2.2.1,x1.2.2.2.2.1,x1.2.2.2.2.2.1,x1.2.2.2.2.2.2.1,x1.2.2.2.2.2.2.2]:List UInt8)
theorem Q1 {m:Mem}{As:List Ow}{w:World}{a0:UInt64}{r:List UInt8}(S:St m (As) w)(hm:Dx a0=some r):
  Aw Tryz.prog 112 #[vU a0] w fun v w'=> ∃(M:Mem),m≤M∧∃(rv0:Value) (rc0:List Value),St M ((row 1 rv0 rc0 r.length)::As) w'∧v=rv0∧Bw M rc0 r:=by
 unfold Dx at hm;have L0:=Mem.rfl' m;refine CP (args:=[vU a0]) Tryz.func112 rfl Tryz.ntmps112 (Nat.le_of_ble_eq_true rfl) ?_;refine Ag ?_;refine Ad ?_;refine AP (v:= .slice none 0 0) rfl ?_;refine Ah ?_;refine nrm ?_;refine Ag ?_;refine Ad ?_;refine ES S Tryz.zeroValue155 ?_;intro b1 w1 S1;replace S1:St _ ((bx b1 [vB 0,vB 0,vB 0,vB 0,vB 0,vB 0,vB 0,vB 0] 155)::As) _:=S1;clear S;refine Ah ?_;refine nrm ?_;obtain⟨x1,q1,hm⟩:=Aa hm;have L1:=Mem.rfl' m;refine Ag ?_;refine AT [4,5,6,7,8,9,10,11,12,13,14,15,16] (fun f' w'=> ∃(M1:Mem),m≤M1∧St M1 ((bx b1 [vB x1.1,vB x1.2.1,vB x1.2.2.1,vB x1.2.2.2.1,vB x1.2.2.2.2.1,vB x1.2.2.2.2.2.1,vB x1.2.2.2.2.2.2.1,vB x1.2.2.2.2.2.2.2] 155)::As) w'∧Cb f' []) ?_ ?_
 ·refine Ag ?_;refine Ad ?_;refine Ap (v:=vI 0) rfl ?_;refine Ah ?_;refine nrm ?_;obtain⟨x2,q2,q1⟩:=Aa q1;have L2:=Mem.rfl' m;refine AT [4,5,6,7,8,9,10,11,12,13,14,15,16] (fun f' w'=> ∃(M2:Mem),m≤M2∧St M2 ((bx b1 [vB x2.1,vB x2.2.1,vB x2.2.2.1,vB x2.2.2.2.1,vB x2.2.2.2.2.1,vB x2.2.2.2.2.2.1,vB x2.2.2.2.2.2.2.1,vB x2.2.2.2.2.2.2.2] 155)::As) w'∧Cb f' []) ?_ ?_
  ·refine Av ?_;refine BT [4,5,6,7,8,9,10,11,12,13,14,15,16] (fun n1 f' w'=> ∃(i1:Nat) (s1:UInt8×UInt8×UInt8×UInt8×UInt8×UInt8×UInt8×UInt8) (m2:Mem),n1=8-i1∧i1≤8∧CW (FI a0) (8-i1) (i1:Int) s1=some x2∧m≤m2∧St m2 ((bx b1 [vB s1.1,vB s1.2.1,vB s1.2.2.1,vB s1.2.2.2.1,vB s1.2.2.2.2.1,vB s1.2.2.2.2.2.1,vB s1.2.2.2.2.2.2.1,vB s1.2.2.2.2.2.2.2] 155)::As) w'∧Cb f' [(5,vI (i1:Int))]) 8 ⟨0,(0,0,0,0,0,0,0,0),m,rfl,Nat.zero_le _,q2,L2,S1,⟨rfl,trivial⟩⟩ ?_;rintro n1 f1 w2 ho ⟨i1,s1,m1,hn,hi,q3,L4,S2,ha⟩;obtain⟨u1,rfl⟩:=BR (N:=18) ho ha;clear ho ha;have L3:=Mem.rfl' m1;clear S1;refine Ag ?_;refine Ad ?_;refine Kj (m:=(i1:Int)) (n:=8) rfl rfl ?_;refine Ah ?_;refine nrm ?_;refine Ag ?_;refine Cq (t:=decide ((i1:Int)<(8:Int))) rfl (fun hc1=> ?_) (fun hc1=> ?_)
   ·have hlt1:i1<8:=by have:=of_decide_eq_true hc1; omega
    obtain⟨y1,q5,q4⟩:=H0 q3 hlt1;unfold FI at q5;refine AQ ?_;refine nrm ?_;refine Ag ?_;refine Av ?_;refine Ag ?_;refine Ad ?_;refine Ap (v:=vI (i1:Int)) rfl ?_;refine AP (v:=vI (i1:Int)) rfl ?_;refine Ah ?_;refine nrm ?_;refine Ad ?_;refine Ap (v:=vI (i1:Int)) rfl ?_;refine My (m:=7) (n:=(i1:Int)) rfl rfl ?_;refine Ap (v:=vU a0) rfl ?_;refine Ap (v:=vI (i1:Int)) rfl ?_;refine OY (m:=8) (n:=(i1:Int)) rfl rfl ?_;obtain⟨q7,q5⟩:=B8 q5;refine ZX (m:=a0) (n:=(w64 (8*(i1:Int)))) rfl rfl q7 ?_;refine Qc rfl Tryz.underlying22 Tryz.underlying5 ?_;obtain⟨x4,q8,q5⟩:=Aa q5;refine Ib (i:=(w64 (7-(i1:Int)))) rfl rfl Tryz.underlying155 Tryz.sizeOf5 (CB q8).1 (CB q8).2 ?_;obtain⟨x5,q9,q5⟩:=CC q5;obtain⟨x6,q10,q5⟩:=CC q5;obtain⟨x7,q11,q5⟩:=CC q5;obtain⟨x8,q12,q5⟩:=CC q5;obtain⟨x9,q13,q5⟩:=CC q5;obtain⟨x10,q14,q5⟩:=CC q5;obtain⟨x11,q15,q5⟩:=CC q5;obtain⟨x12,q16,q5⟩:=CC q5;refine YK (i:=0) (off:=0+(w64 (7-(i1:Int))).toNat*1) S2 rfl rfl rfl Tryz.sizeOf5 (TQ.all (IS rfl LZ)) (by rcases idx8 q8 with ⟨h,h'⟩|⟨h,h'⟩|⟨h,h'⟩|⟨h,h'⟩|⟨h,h'⟩|⟨h,h'⟩|⟨h,h'⟩|⟨h,h'⟩<;>(rw[h]; exact Nat.le_of_ble_eq_true rfl)) ?_;intro w3 S3;replace S3:=St.cellsTo (i:=0) (l':=[vB x5,vB x6,vB x7,vB x8,vB x9,vB x10,vB x11,vB x12]) S3 (by rcases idx8 q8 with ⟨h,h'⟩|⟨h,h'⟩|⟨h,h'⟩|⟨h,h'⟩|⟨h,h'⟩|⟨h,h'⟩|⟨h,h'⟩|⟨h,h'⟩<;>(simp only[q9,q10,q11,q12,q13,q14,q15,q16,h]; rfl)) rfl;replace S3:St _ ((bx b1 [vB x5,vB x6,vB x7,vB x8,vB x9,vB x10,vB x11,vB x12] 155)::As) _:=S3;clear S2;refine Ah ?_;refine Mb ?_;refine nrm ?_;refine Ad ?_;refine EW (m:=(i1:Int)) (n:=1) rfl rfl ?_;refine Ap (v:=vI (w64 ((i1:Int)+1))) rfl ?_;refine Ah ?_;refine nrm ?_;have e0:=Option.some.inj q5;subst e0;exact⟨E2,_,(by omega),⟨i1+1,(x5,x6,x7,x8,x9,x10,x11,x12),m1,rfl,hlt1,q4,Mem.tr L4 L3,S3,⟨congrArg (Value.int .i64) (Bf hlt1 (by decide)),trivial⟩⟩⟩
   have hlt1: ¬i1<8:=by have:=of_decide_eq_false hc1; omega
   have e:=Eq.symm (GM q3 hlt1);subst e;refine CD ?_;refine thE ?_;refine thE ?_;refine exB ?_;refine nrm ?_;exact⟨E2,m1,Mem.tr L4 L3,S2,trivial⟩
  rintro f2 w4 ho ⟨m3,l1,S4,ha⟩;obtain⟨u2,rfl⟩:=BR (N:=18) ho ha;clear ho ha;replace L1:=Mem.tr L1 l1;clear S1;have e0:=Option.some.inj q1;subst e0;exact⟨E2,m3,L1,S4,trivial⟩
 rintro f3 w5 ho ⟨m4,l2,S5,ha⟩;obtain⟨u3,rfl⟩:=BR (N:=18) ho ha;replace L0:=Mem.tr L0 l2;clear S1;refine Ag ?_;refine Ad ?_;refine MU (k:=8) (n:=8) (sz:=1) (off:=0) rfl Tryz.underlying155 Tryz.sizeOf5 (.inl ⟨rfl,rfl⟩) (Nat.le_refl _) ?_;have S6:=St.bxRow (i:=0) (sz:=1) (n:=8) S5 rfl rfl (by decide);have h1:Bw m4 [vB x1.1,vB x1.2.1,vB x1.2.2.1,vB x1.2.2.2.1,vB x1.2.2.2.2.1,vB x1.2.2.2.2.2.1,vB x1.2.2.2.2.2.2.1,vB x1.2.2.2.2.2.2.2] ([x1.1,x1.2.1,x1.2.2.1,x1.2.2.2.1,x1.2.2.2.2.1,x1.2.2.2.2.2.1,x1.2.2.2.2.2.2.1,x1.2.2.2.2.2.2.2]:List UInt8):=(Bw.cons (c:=[vB x1.1]) rfl (Bw.cons (c:=[vB x1.2.1]) rfl (Bw.cons (c:=[vB x1.2.2.1]) rfl (Bw.cons (c:=[vB x1.2.2.2.1]) rfl (Bw.cons (c:=[vB x1.2.2.2.2.1]) rfl (Bw.cons (c:=[vB x1.2.2.2.2.2.1]) rfl (Bw.cons (c:=[vB x1.2.2.2.2.2.2.1]) rfl (Bw.cons (c:=[vB x1.2.2.2.2.2.2.2]) rfl Bw.nil))))))));replace S6:St _ ((row 1 (.slice (some ⟨b1,0,none⟩) 8 8) [vB x1.1,vB x1.2.1,vB x1.2.2.1,vB x1.2.2.2.1,vB x1.2.2.2.2.1,vB x1.2.2.2.2.2.1,vB x1.2.2.2.2.2.2.1,vB x1.2.2.2.2.2.2.2] ([x1.1,x1.2.1,x1.2.2.1,x1.2.2.2.1,x1.2.2.2.2.1,x1.2.2.2.2.2.1,x1.2.2.2.2.2.2.1,x1.2.2.2.2.2.2.2]:List UInt8).length)::As) _:=S6;clear S5;refine AP (v:=(.slice (some ⟨b1,0,none⟩) 8 8)) rfl ?_;refine Ah ?_;refine nrm ?_;refine Be ?_;refine D3 ?_;intro we hpd;replace S6:=St.pd S6 hpd;have e0:=Option.some.inj hm;subst e0;exact It [_] rfl ⟨rfl,trivial⟩ ⟨_,L0,_,_,S6,rfl,h1⟩
theorem JJ {a0:UInt64}{r:List UInt8}(hm:Dx a0=some r):Sp prog 112 [.d (.u a0)] [] 0 (is (.ow 0) [.row 0 1 _ eB r] 1):=
 ⟨call112,fun η m As w vs hv0 hd S=>by
  have S:St m As w:=S;obtain⟨v0,u0,rfl,r0,hv1⟩:=Bg.cons_inv hv0;obtain rfl:=r0.u_inv;obtain rfl:=Bg.nil_inv hv1;refine Aw.mono (Q1 S hm) ?_;rintro v w' ⟨M,hle,y0,c0,S0,rfl,h0⟩;exact⟨M,(Aaz [v]),_,_,_,hle,TH hd _,⟨rfl,rfl,rfl⟩,Jk rfl,(.ow rfl (DZ S0)),(St.impL S0 (Aa9 (Br.toR Br.b rfl rfl (DZ S0) h0) fun _ h=>h))⟩⟩
def Cd (a0:UInt64)(a1:UInt64)(a2:List UInt8):Option UInt64:=Ac (Dx a0) fun x1=>Ac (Dx a1) fun x2=>Ac (EK (⟨#[115,105,103,110]⟩:ByteArray) ([x1,x2,a2]:List (List UInt8))) fun x3=>Ac (Ht x3 1152921504606845789) fun x4=>some x4
theorem Jo {a0:UInt64}{a1:UInt64}{a2:List UInt8}{r:UInt64}(hm:Cd a0 a1 a2=some r):Sf prog 63 [.d (.u a0),.d (.u a1),sl eB a2] (.d (.u r)):=
 sp call63 func63 rfl ntmps63 rfl fun D0 As η0 m0 hd=>by
  unfold Cd at hm;obtain⟨x1,q1,hm⟩:=Aa hm;refine gco (JJ q1) (by kernel_rfl) ?_;obtain⟨x2,q2,hm⟩:=Aa hm;refine gco (JJ q2) (by kernel_rfl) ?_;refine Vs (k:=1) (eL eB) ([x1,x2,a2]:List (List UInt8)) (fun _=>rfl) (by kernel_rfl) ?_;obtain⟨x3,q3,hm⟩:=Aa hm;refine gc (fun _=>K7 q3) (by kernel_rfl) ?_;obtain⟨x4,q4,hm⟩:=Aa hm;refine gc (fun _=>OQ q4) (by kernel_rfl) ?_;have e0:=Option.some.inj hm;subst e0;exact Au hd (by kernel_rfl)
def Ft (a0:UInt64)(a1:UInt64):Option UInt64:=Ac (A8 2305843009213691579 a0 a1) fun x1=>some x1
theorem Rq {a0:UInt64}{a1:UInt64}{r:UInt64}(hm:Ft a0 a1=some r):Sf prog 64 [.d (.u a0),.d (.u a1)] (.d (.u r)):=
 sp call64 func64 rfl ntmps64 rfl fun D0 As η0 m0 hd=>by
  unfold Ft at hm;obtain⟨x1,q1,hm⟩:=Aa hm;refine gc (fun _=>ID q1) (by kernel_rfl) ?_;have e0:=Option.some.inj hm;subst e0;exact Au hd (by kernel_rfl)
def CF (a0:UInt64):Option UInt64:=Ac (CN 4 a0) fun x1=>some x1
theorem IX {a0:UInt64}{r:UInt64}(hm:CF a0=some r):Sf prog 65 [.d (.u a0)] (.d (.u r)):=
 sp call65 func65 rfl ntmps65 rfl fun D0 As η0 m0 hd=>by
  unfold CF at hm;obtain⟨x1,q1,hm⟩:=Aa hm;refine gc (fun _=>JM q1) (by kernel_rfl) ?_;have e0:=Option.some.inj hm;subst e0;exact Au hd (by kernel_rfl)
def Eh (a0:UInt64)(a1:List UInt8)(a2:g_api_Sig):Option Int:=Ac (HX a0) fun x1=>if(!x1)=true then some 1 else if(decide (((NW a2.E a2.S).toNat:Int)≥1152921504606845789))=true then some 40 else Ac (CN a0 a2.E) fun x2=>Ac (Db x2) fun x3=>Ac (gu (!(x3.2 !=0)) (CF a2.S)) fun x4=>Ac (gu (!(x3.2 !=0)) (Ft x4 x3.1)) fun x5=>Ac (gu (!(x3.2 !=0)) (Cd x5 a0 a1)) fun x6=>if((x3.2 !=0)||((x6.toNat:Int) !=(a2.E.toNat:Int)))=true then some 40 else some 0
theorem Q2 {a0:UInt64}{a1:List UInt8}{a2:g_api_Sig}{r:Int}(hm:Eh a0 a1 a2=some r):Sf prog 29 [.d (.u a0),sl eB a1,ag (H2 a2)] (.d (.i r)):=
 sp call29 func29 rfl ntmps29 rfl fun D0 As η0 m0 hd=>by
  unfold Eh at hm;obtain⟨x1,q1,hm⟩:=Aa hm;refine gc (fun _=>SK q1) (by kernel_rfl) ?_;refine gi hm (by kernel_rfl) (fun hc1 hm=> ?_) fun hc1 hm=> ?_
  ·skip;have e0:=Option.some.inj hm;subst e0;exact Au hd (by kernel_rfl)
  refine gi hm (by kernel_rfl) (fun hc2 hm=> ?_) fun hc2 hm=> ?_
  ·skip;have e0:=Option.some.inj hm;subst e0;exact Au hd (by kernel_rfl)
  obtain⟨x2,q2,hm⟩:=Aa hm;refine gc (fun _=>JM q2) (by kernel_rfl) ?_;obtain⟨x3,q3,hm⟩:=Aa hm;refine gc (fun _=>Rr q3) (by kernel_rfl) ?_;obtain⟨x4,q4,hm⟩:=Aa hm;refine gcG (fun h=>IX (DX h q4)) (by kernel_rfl) ?_;obtain⟨x5,q5,hm⟩:=Aa hm;refine gcG (fun h=>Rq (DX h q5)) (by kernel_rfl) ?_;obtain⟨x6,q6,hm⟩:=Aa hm;refine gcG (fun h=>Jo (DX h q6)) (by kernel_rfl) ?_;refine gi hm (by kernel_rfl) (fun hc3 hm=> ?_) fun hc3 hm=> ?_
  ·skip;have e0:=Option.some.inj hm;subst e0;exact Au hd (by kernel_rfl)
  have e0:=Option.some.inj hm;subst e0;exact Au hd (by kernel_rfl)
def GO (i1:Int)(x2:g_api_Cert)(s1:Unit):Option ((Unit)⊕Int):=Ac (Ey x2) fun x3=>if(x3 !=0)=true then some (.inr x3)else some (.inl ())
def CR (a0:g_api_Cert)(a1:g_api_Cert):Option Int:=Ac (Fw GO ([a0,a1]:List g_api_Cert) 0 ()) fun x1=>match x1 with| .inr r=>some r| .inl y1=>if((!a1.Ca)||(!eqS a0.Issuer a1.Subject))=true then some 191 else Ac (GL a0) fun x4=>Ac (Eh a1.Key x4.1 a0.Sig) fun x5=>if(x5 !=0)=true then some 40 else some 0
theorem E8 {a0:g_api_Cert}{a1:g_api_Cert}{r:Int}(hm:CR a0 a1=some r):Sf prog 13 [ag (Ae a0),ag (Ae a1)] (.d (.i r)):=
 sp call13 func13 rfl ntmps13 rfl fun D0 As η0 m0 hd=>by
  unfold CR at hm;refine EC (k:=13) Ae ([a0,a1]:List g_api_Cert) (fun _=>rfl) (by kernel_rfl) ?_;obtain⟨x1,q1,hm⟩:=Aa hm;refine Pb 0 (E:=Ae) (xs:=([a0,a1]:List g_api_Cert)) 12 (by kernel_rfl) fun hle1=> ?_;refine gjU 0 (fun(y1:Unit)=>⟨[(2,.pb 0 0),(3,.pb 1 0)],[(0,.box 1 [.d (.i a1.Serial),.d (.s a1.Issuer),.d (.s a1.Subject),.d (.u a1.Key),sl eS a1.Names,.d (.i a1.From),.d (.i a1.Until),.d (.t a1.Ca),.d (.i a1.Depth),sl eS a1.Permit,sl Ai a1.Proms,.d (.u a1.Sig.E),.d (.u a1.Sig.S)] 28),(1,.box 0 [.d (.i a0.Serial),.d (.s a0.Issuer),.d (.s a0.Subject),.d (.u a0.Key),sl eS a0.Names,.d (.i a0.From),.d (.i a0.Until),.d (.t a0.Ca),.d (.i a0.Depth),sl eS a0.Permit,sl Ai a0.Proms,.d (.u a0.Sig.E),.d (.u a0.Sig.S)] 28)],[],2⟩) (fun y1=>x1= .inl y1) (by kernel_rfl) (fun Jp bk1=> ?_) fun y1 hy=> ?_
  ·refine gl hd (fun(p:Int×(Unit))=>let (p0,_):=p; ⟨[(2,.pb 0 0),(3,.pb 1 0),(12,sl Ae ([a0,a1]:List g_api_Cert)),(13,.d (.i (([a0,a1]:List g_api_Cert).length:Int))),(14,.d (.i p0))],[(0,.box 1 [.d (.i a1.Serial),.d (.s a1.Issuer),.d (.s a1.Subject),.d (.u a1.Key),sl eS a1.Names,.d (.i a1.From),.d (.i a1.Until),.d (.t a1.Ca),.d (.i a1.Depth),sl eS a1.Permit,sl Ai a1.Proms,.d (.u a1.Sig.E),.d (.u a1.Sig.S)] 28),(1,.box 0 [.d (.i a0.Serial),.d (.s a0.Issuer),.d (.s a0.Subject),.d (.u a0.Key),sl eS a0.Names,.d (.i a0.From),.d (.i a0.Until),.d (.t a0.Ca),.d (.i a0.Depth),sl eS a0.Permit,sl Ai a0.Proms,.d (.u a0.Sig.E),.d (.u a0.Sig.S)] 28)],[],2⟩) (fun p=> ∃i:Nat,p.1=(i:Int)∧i≤([a0,a1]:List g_api_Cert).length∧Fw GO (([a0,a1]:List g_api_Cert).drop i) (i:Int) p.2=some x1) (fun p=>([a0,a1]:List g_api_Cert).length-p.1.toNat) (0,()) ⟨0,rfl,Nat.zero_le _,q1⟩ (by kernel_rfl) ?_;rintro⟨_,s1⟩ ⟨i1,rfl,hi,q2⟩ Jl bl1;refine gi' (b:=decide ((i1:Int)<(([a0,a1]:List g_api_Cert).length:Int))) (by kernel_rfl) (fun hc2=> ?_) fun hc2=> ?_
   ·have hlt1:i1<([a0,a1]:List g_api_Cert).length:=by have:=of_decide_eq_true hc2; omega
    obtain⟨x2,y2,q5,q4,q3⟩:=Il q2 hlt1;unfold GO at q4;refine Hc (k:=13) (E:=Ae) (fun _=>rfl) (fun _=>q5) (by kernel_rfl) ?_;obtain⟨x3,q6,q4⟩:=Aa q4;refine gc (fun _=>JD q6) (by kernel_rfl) ?_;refine gi q4 (by kernel_rfl) (fun hc1 q4=> ?_) fun hc1 q4=> ?_
    ·skip;cases q4;rcases q3 with ⟨sn,e,_⟩|⟨tn,e,e2⟩
     ·cases e
     cases e;cases e2;dsimp only at hm;have e0:=Option.some.inj hm;subst e0;exact Au hd (by kernel_rfl)
    have e0:=Option.some.inj q4;subst e0;rcases q3 with ⟨sn,e,q3'⟩|⟨tn,e,_⟩
    ·have e:=Sum.inl.inj e;subst e;exact gb bl1 hd (w64 ((i1:Int)+1),_) ⟨⟨i1+1,Bf hlt1 hle1,by omega,q3'⟩,H8 hlt1 hle1⟩ (by kernel_rfl)
    cases AN e
   have hlt1: ¬i1<([a0,a1]:List g_api_Cert).length:=by have:=of_decide_eq_false hc2; omega
   have e:=G4 q2 hlt1;cases e;exact gb bk1 hd _ rfl (by kernel_rfl)
  subst hy;dsimp only at hm;refine gi hm (by kernel_rfl) (fun hc3 hm=> ?_) fun hc3 hm=> ?_
  ·skip;have e0:=Option.some.inj hm;subst e0;exact Au hd (by kernel_rfl)
  obtain⟨x4,q7,hm⟩:=Aa hm;refine gco (NA q7) (by kernel_rfl) ?_;obtain⟨x5,q8,hm⟩:=Aa hm;refine gco (Q2 q8) (by kernel_rfl) ?_;refine gi hm (by kernel_rfl) (fun hc4 hm=> ?_) fun hc4 hm=> ?_
  ·skip;have e0:=Option.some.inj hm;subst e0;exact Au hd (by kernel_rfl)
  have e0:=Option.some.inj hm;subst e0;exact Au hd (by kernel_rfl)
def FU (a0:g_path_trip):Option Int:=if((((((a0.chain_.length:Int)==0)||(decide ((a0.chain_.length:Int)>4)))||(decide ((a0.roots_.length:Int)>16)))||(decide (a0.now_<0)))||(decide (a0.now_>1099511627776)))=true then some 1 else Ac (Cs a0.name_) fun x1=>some x1
theorem K5 {a0:g_path_trip}{r:Int}(hm:FU a0=some r):Sf prog 34 [ag (DQ a0)] (.d (.i r)):=
 sp call34 func34 rfl ntmps34 rfl fun D0 As η0 m0 hd=>by
  unfold FU at hm;refine gi hm (by kernel_rfl) (fun hc1 hm=> ?_) fun hc1 hm=> ?_
  ·skip;have e0:=Option.some.inj hm;subst e0;exact Au hd (by kernel_rfl)
  obtain⟨x1,q1,hm⟩:=Aa hm;refine gc (fun _=>K6 q1) (by kernel_rfl) ?_;have e0:=Option.some.inj hm;subst e0;exact Au hd (by kernel_rfl)
def B3 (a1:Int):Option (List g_api_Cert):=Ac (if(decide (a1<0))=true then none else some ()) fun x1=>Ac (bnd ((w64 (a1-(w64 (0-((0:Nat):Int)))))) fun x3=>if(decide (x3>0))=true then if 0≤x3∧x3*168≤140737488355328∧x3≤140737488355328 then some ([]:List g_api_Cert)else none else some ([]:List g_api_Cert)) fun x2=>some x2
theorem E7 {m:Mem}{As:List Ow}{w:World}{a1:Int}{r:List g_api_Cert}(S:St m (As) w)(hm:B3 a1=some r):
  Aw Tryz.prog 129 #[.slice none 0 0,vI a1] w fun v w'=> ∃(M:Mem),m≤M∧∃(rv0:Value) (rc0:List Value),St M ((row 13 rv0 rc0 r.length)::As) w'∧v=rv0∧Bw M rc0 r:=by
 unfold B3 at hm;have L0:=Mem.rfl' m;refine CP (args:=[.slice none 0 0,vI a1]) Tryz.func129 rfl Tryz.ntmps129 (Nat.le_of_ble_eq_true rfl) ?_;refine Ag ?_;refine Ad ?_;refine AP (v:= .slice none 0 0) rfl ?_;refine Ah ?_;refine nrm ?_;obtain⟨x1,q1,hm⟩:=Aa hm;have L1:=Mem.rfl' m;refine Ag ?_;refine AT [5,6,7] (fun f' w'=> ∃(M1:Mem),m≤M1∧St M1 (As) w'∧Cb f' []) ?_ ?_
 ·refine Ag ?_;refine Ad ?_;refine Ap (v:=vI a1) rfl ?_;refine Kj (m:=a1) (n:=0) rfl rfl ?_;refine Ah ?_;refine nrm ?_;refine Cq (t:=(decide (a1<0))) rfl (fun hc1=> ?_) (fun hc1=> ?_)
  ·replace q1:=ifT hc1 q1;cases q1
  replace q1:=ifF hc1 q1;refine AQ ?_;refine nrm ?_;have e0:=Option.some.inj q1;subst e0;exact⟨E2,m,L1,S,trivial⟩
 rintro f1 w1 ho ⟨m1,l1,S1,ha⟩;obtain⟨u1,rfl⟩:=BR (N:=27) ho ha;replace L0:=Mem.tr L0 l1;clear S;obtain⟨x2,q2,hm⟩:=Aa hm;have L2:=Mem.rfl' m1;refine Ag ?_;refine AT [0,1,8,9,10,11,12,13,14,15,16,17,18,19,20,21,22,23,24,25] (fun f' w'=> ∃(M2:Mem) (v1:Value) (c1:List Value),m1≤M2∧St M2 ((row 13 v1 c1 x2.length)::As) w'∧Bw M2 c1 x2∧Cb f' [(0,v1)]) ?_ ?_
 ·refine Ag ?_;refine Ad ?_;refine Ap (v:=vI a1) rfl ?_;refine Ap (v:= .slice none 0 0) rfl ?_;refine Ub rfl Tryz.underlying31 ?_;refine Ap (v:= .slice none 0 0) rfl ?_;refine Vc (n:=0) rfl Tryz.underlying31 ?_;refine My (m:=0) (n:=((0:Nat):Int)) rfl rfl ?_;refine My (m:=a1) (n:=(w64 (0-((0:Nat):Int)))) rfl rfl ?_;obtain⟨x3,q3,q2⟩:=CC q2;refine AP (v:=vI x3) (congrArg (fun z=>vI z) q3.symm) ?_;refine Ah ?_;refine nrm ?_;refine Ag ?_;refine Ad ?_;refine Ap (v:=vI x3) rfl ?_;refine Ve (m:=x3) (n:=0) rfl rfl ?_;refine Ah ?_;refine nrm ?_;refine Cq (t:=(decide (x3>0))) rfl (fun hc2=> ?_) (fun hc2=> ?_)
  ·replace q2:=ifT hc2 q2;refine Ad ?_;refine Ap (v:= .slice none 0 0) rfl ?_;refine Ap (v:= .slice none 0 0) rfl ?_;refine Ub rfl Tryz.underlying31 ?_;refine s_cutN rfl Tryz.underlying31 Tryz.sizeOf28 rfl ?_;refine Ap (v:=vI x3) rfl ?_;obtain⟨q4,q2⟩:=B8 q2;refine s_appN (bytes:=168) (sz:=13) (k:=x3) (ti:=Tryz.t28) S1 rfl rfl q4 Tryz.underlying31 Tryz.underlying3 Tryz.type28 rfl rfl rfl rfl ?_;intro v2 c2 w2 S2;replace S2:St _ ((row 13 v2 c2 x3.toNat)::As) _:=S2;clear S1;refine Ap (v:= .slice none 0 0) rfl ?_;refine Vc (n:=0) rfl Tryz.underlying31 ?_;refine s_cutO (i:=0) S2 rfl rfl Tryz.underlying31 Tryz.sizeOf28 rfl (j:=0) rfl (Int.le_refl 0) (Int.natCast_nonneg _) ?_;intro v3 S3;rw[show c2.take ((0:Int).toNat*13)=[]from by simp]at S3;have h2:Bw m1 [] ([]:List g_api_Cert):=Bw.nil;replace S3:St _ ((row 13 v3 [] ([]:List g_api_Cert).length)::As) _:=S3;clear S2;refine AP (v:=v3) rfl ?_;refine Ah ?_;refine nrm ?_;have e0:=Option.some.inj q2;subst e0;exact⟨E2,m1,_,_,L2,S3,h2,⟨rfl,trivial⟩⟩
  replace q2:=ifF hc2 q2;refine AQ ?_;refine nrm ?_;have S4:=St.rowNil S1 13;have h3:Bw m1 [] ([]:List g_api_Cert):=Bw.nil;replace S4:St _ ((row 13 (.slice none 0 0) [] ([]:List g_api_Cert).length)::As) _:=S4;clear S1;have e0:=Option.some.inj q2;subst e0;exact⟨E2,m1,_,_,L2,S4,h3,⟨rfl,trivial⟩⟩
 rintro f2 w3 ho ⟨m2,v1,c1,l2,S5,h1,ha⟩;obtain⟨u2,rfl⟩:=BR (N:=27) ho ha;replace L0:=Mem.tr L0 l2;clear S1;refine Ag ?_;refine Ad ?_;refine Ap (v:=v1) rfl ?_;refine AP (v:=v1) rfl ?_;refine Ah ?_;refine nrm ?_;refine Be ?_;refine D3 ?_;intro we hpd;replace S5:=St.pd S5 hpd;have e0:=Option.some.inj hm;subst e0;exact It [_] rfl ⟨rfl,trivial⟩ ⟨_,L0,_,_,S5,rfl,h1⟩
def BX (i1:Int)(x3:List g_api_Cert)(s1:Int):Option (Int):=Ac (bnd ((w64 (s1+(x3.length:Int)))) fun x5=>if(decide (x5<0))=true then none else some x5) fun x4=>some x4
def BW (i2:Int)(x9:List g_api_Cert)(s2:(List g_api_Cert)):Option ((List g_api_Cert)):=Ac (app 168 s2 x9) fun x10=>some x10
def Bo (a0:List (List g_api_Cert)):Option (List g_api_Cert):=Ac (Ac (GN BX a0 0 0) fun x2=>some x2) fun x1=>Ac (B3 x1) fun x6=>Ac (Ac (GN BW a0 0 x6) fun x8=>some x8) fun x7=>some x7
theorem FB {m:Mem}{As:List Ow}{w:World}{a0:List (List g_api_Cert)}{a0v0:Value}{r:List g_api_Cert}(S:St m (As) w)(a0h0:SlR m a0v0 a0)(hm:Bo a0=some r):
  Aw Tryz.prog 76 #[a0v0] w fun v w'=> ∃(M:Mem),m≤M∧∃(rv0:Value) (rc0:List Value),St M ((row 13 rv0 rc0 r.length)::As) w'∧v=rv0∧Bw M rc0 r:=by
 unfold Bo at hm;have L0:=Mem.rfl' m;refine CP (args:=[a0v0]) Tryz.func76 rfl Tryz.ntmps76 (Nat.le_of_ble_eq_true rfl) ?_;refine Ag ?_;refine Ad ?_;refine AP (v:= .slice none 0 0) rfl ?_;refine Ah ?_;refine nrm ?_;refine Ag ?_;refine Ad ?_;refine AP (v:=vI 0) rfl ?_;refine Ah ?_;refine nrm ?_;obtain⟨x1,q1,hm⟩:=Aa hm;have L1:=Mem.rfl' m;refine Ag ?_;refine AT [3,5,9,10,11,12,13,14,15,16,17,18,19,20,21,22] (fun f' w'=> ∃(M1:Mem),m≤M1∧St M1 (As) w'∧Cb f' [(3,vI x1)]) ?_ ?_
 ·refine Ag ?_;refine Ad ?_;refine Ap (v:=a0v0) rfl ?_;refine JL (xs:=a0) rfl a0h0 Tryz.underlying43 ?_;refine Ap (v:=vI 0) rfl ?_;refine Ah ?_;refine nrm ?_;obtain⟨x2,q2,q1⟩:=Aa q1;have L2:=Mem.rfl' m;refine AT [3,5,11,12,13,14,15,16,17,18,19,20,21,22] (fun f' w'=> ∃(M2:Mem),m≤M2∧St M2 (As) w'∧Cb f' [(3,vI x2)]) ?_ ?_
  ·refine Av ?_;refine BT [3,5,11,12,13,14,15,16,17,18,19,20,21,22] (fun n1 f' w'=> ∃(i1:Nat) (s1:Int) (m3:Mem),n1=a0.length-i1∧i1≤a0.length∧GN BX (a0.drop i1) (i1:Int) s1=some x2∧m≤m3∧St m3 (As) w'∧Cb f' [(11,vI (i1:Int)),(3,vI s1)]) a0.length ⟨0,0,m,rfl,Nat.zero_le _,q2,L2,S,⟨rfl,rfl,trivial⟩⟩ ?_;rintro n1 f1 w1 ho ⟨i1,s1,m1,hn,hi,q3,L4,S1,ha⟩;obtain⟨u1,rfl⟩:=BR (N:=36) ho ha;clear ho ha;replace a0h0:=a0h0.up L4;have L3:=Mem.rfl' m1;clear S;refine Ag ?_;refine Ad ?_;refine Kj (m:=(i1:Int)) (n:=(a0.length:Int)) rfl rfl ?_;refine Ah ?_;refine nrm ?_;refine Ag ?_;refine Cq (t:=decide ((i1:Int)<(a0.length:Int))) rfl (fun hc2=> ?_) (fun hc2=> ?_)
   ·have hlt1:i1<a0.length:=by have:=of_decide_eq_true hc2; omega
    obtain⟨x3,y1,q6,q5,q4⟩:=Kf q3 hlt1;unfold BX at q5;refine AQ ?_;refine nrm ?_;obtain⟨x4,q7,q5⟩:=Aa q5;have L5:=Mem.rfl' m1;refine Ag ?_;refine AT [3,5,13,14,15,16,17,18,19,20,21] (fun f' w'=> ∃(M3:Mem),m1≤M3∧St M3 (As) w'∧Cb f' [(3,vI x4)]) ?_ ?_
    ·refine Av ?_;refine Ag ?_;refine Ad ?_;refine Wm (q:=x3) rfl rfl a0h0 q6 Tryz.underlying43 Tryz.sizeOf31 ?_;intro p1 c1 h1 r1;obtain⟨v1,rfl,h2⟩:=r1;refine Wk (cs:=[v1]) S1 rfl h1 rfl Tryz.isAgg31 Tryz.sizeOf31 (fun _=>rfl) ?_;refine AP (v:=v1) rfl ?_;refine Ah ?_;refine nrm ?_;refine Ag ?_;refine Ad ?_;refine Ap (v:=vI s1) rfl ?_;refine Ap (v:=v1) rfl ?_;refine JL (xs:=x3) rfl h2 Tryz.underlying31 ?_;refine EW (m:=s1) (n:=(x3.length:Int)) rfl rfl ?_;obtain⟨x5,q8,q7⟩:=CC q7;refine AP (v:=vI x5) (congrArg (fun z=>vI z) q8.symm) ?_;refine Ah ?_;refine nrm ?_;refine Ag ?_;refine Ad ?_;refine Ap (v:=vI x5) rfl ?_;refine Kj (m:=x5) (n:=0) rfl rfl ?_;refine Ah ?_;refine nrm ?_;refine Cq (t:=(decide (x5<0))) rfl (fun hc1=> ?_) (fun hc1=> ?_)
     ·replace q7:=ifT hc1 q7;cases q7
     replace q7:=ifF hc1 q7;refine AQ ?_;refine Mb ?_;refine nrm ?_;have e0:=Option.some.inj q7;subst e0;exact⟨E2,m1,L5,S1,⟨rfl,trivial⟩⟩
    rintro f2 w2 ho ⟨m2,l1,S2,ha⟩;obtain⟨u2,rfl⟩:=BR (N:=36) ho ha;replace a0h0:=a0h0.up l1;replace L3:=Mem.tr L3 l1;clear S1;refine Ad ?_;refine EW (m:=(i1:Int)) (n:=1) rfl rfl ?_;refine Ap (v:=vI (w64 ((i1:Int)+1))) rfl ?_;refine Ah ?_;refine nrm ?_;have e0:=Option.some.inj q5;subst e0;exact⟨E2,_,(by omega),⟨i1+1,x4,m2,rfl,hlt1,q4,Mem.tr L4 L3,S2,⟨congrArg (Value.int .i64) (Bf hlt1 (SlR.le a0h0)),rfl,trivial⟩⟩⟩
   have hlt1: ¬i1<a0.length:=by have:=of_decide_eq_false hc2; omega
   have e:=Eq.symm (IQ q3 hlt1);subst e;refine CD ?_;refine thE ?_;refine thE ?_;refine exB ?_;refine nrm ?_;exact⟨E2,m1,Mem.tr L4 L3,S1,⟨rfl,trivial⟩⟩
  rintro f3 w3 ho ⟨m4,l2,S3,ha⟩;obtain⟨u3,rfl⟩:=BR (N:=36) ho ha;clear ho ha;replace a0h0:=a0h0.up l2;replace L1:=Mem.tr L1 l2;clear S;have e0:=Option.some.inj q1;subst e0;exact⟨E2,m4,L1,S3,⟨rfl,trivial⟩⟩
 rintro f4 w4 ho ⟨m5,l3,S4,ha⟩;obtain⟨u4,rfl⟩:=BR (N:=36) ho ha;replace a0h0:=a0h0.up l3;replace L0:=Mem.tr L0 l3;clear S;refine Ag ?_;refine Ad ?_;refine Ap (v:=vI x1) rfl ?_;obtain⟨x6,q9,hm⟩:=Aa hm;refine Cx Tryz.call129 (E7 (a1:=x1) S4 q9) rfl ?_;rintro v2 w5 ⟨m6,l4,_,c2,S5,rfl,h3⟩;replace a0h0:=a0h0.up l4;replace L0:=Mem.tr L0 l4;clear S4;replace S5:St _ ((row 13 v2 c2 x6.length)::As) _:=S5;refine AP (v:=v2) rfl ?_;refine Ah ?_;refine nrm ?_;obtain⟨x7,q10,hm⟩:=Aa hm;have L6:=Mem.rfl' m6;refine Ag ?_;refine AT [6,8,25,26,27,28,29,30,31,32,33,34] (fun f' w'=> ∃(M4:Mem) (v3:Value) (c3:List Value),m6≤M4∧St M4 ((row 13 v3 c3 x7.length)::As) w'∧Bw M4 c3 x7∧Cb f' [(6,v3)]) ?_ ?_
 ·refine Ag ?_;refine Ad ?_;refine Ap (v:=a0v0) rfl ?_;refine JL (xs:=a0) rfl a0h0 Tryz.underlying43 ?_;refine Ap (v:=vI 0) rfl ?_;refine Ah ?_;refine nrm ?_;obtain⟨x8,q11,q10⟩:=Aa q10;have L7:=Mem.rfl' m6;refine AT [6,8,27,28,29,30,31,32,33,34] (fun f' w'=> ∃(M5:Mem) (v5:Value) (c5:List Value),m6≤M5∧St M5 ((row 13 v5 c5 x8.length)::As) w'∧Bw M5 c5 x8∧Cb f' [(6,v5)]) ?_ ?_
  ·refine Av ?_;refine BT [6,8,27,28,29,30,31,32,33,34] (fun n2 f' w'=> ∃(i2:Nat) (s2:(List g_api_Cert)) (m8:Mem) (v4:Value) (c4:List Value),n2=a0.length-i2∧i2≤a0.length∧GN BW (a0.drop i2) (i2:Int) s2=some x8∧m6≤m8∧St m8 ((row 13 v4 c4 s2.length)::As) w'∧Bw m8 c4 s2∧Cb f' [(27,vI (i2:Int)),(6,v4)]) a0.length ⟨0,x6,m6,_,_,rfl,Nat.zero_le _,q11,L7,S5,h3,⟨rfl,rfl,trivial⟩⟩ ?_;rintro n2 f5 w6 ho ⟨i2,s2,m7,v4,c4,hn,hi,q12,L9,S6,h5,ha⟩;obtain⟨u5,rfl⟩:=BR (N:=36) ho ha;clear ho ha;replace a0h0:=a0h0.up L9;have L8:=Mem.rfl' m7;clear S5;refine Ag ?_;refine Ad ?_;refine Kj (m:=(i2:Int)) (n:=(a0.length:Int)) rfl rfl ?_;refine Ah ?_;refine nrm ?_;refine Ag ?_;refine Cq (t:=decide ((i2:Int)<(a0.length:Int))) rfl (fun hc3=> ?_) (fun hc3=> ?_)
   ·have hlt2:i2<a0.length:=by have:=of_decide_eq_true hc3; omega
    obtain⟨x9,y2,q15,q14,q13⟩:=Kf q12 hlt2;unfold BW at q14;refine AQ ?_;refine nrm ?_;refine Ag ?_;refine Av ?_;refine Ag ?_;refine Ad ?_;refine Wm (q:=x9) rfl rfl a0h0 q15 Tryz.underlying43 Tryz.sizeOf31 ?_;intro p2 c6 h7 r6;obtain⟨v6,rfl,h8⟩:=r6;refine Wk (cs:=[v6]) S6 rfl h7 rfl Tryz.isAgg31 Tryz.sizeOf31 (fun _=>rfl) ?_;refine AP (v:=v6) rfl ?_;refine Ah ?_;refine nrm ?_;refine Ad ?_;refine Ap (v:=v4) rfl ?_;refine Ap (v:=v6) rfl ?_;obtain⟨x10,q16,q14⟩:=Aa q14;refine SZ (i:=0) (zs:=x10) (bytes:=168) (ti:=Tryz.t28) S6 rfl rfl h5 rfl rfl h8 q16 Tryz.underlying31 Tryz.type28 rfl rfl rfl rfl ?_;intro v7 c7 w7 S7 h9;replace S7:St _ ((row 13 v7 c7 x10.length)::As) _:=S7;clear S6;refine AP (v:=v7) rfl ?_;refine Ah ?_;refine Mb ?_;refine nrm ?_;refine Ad ?_;refine EW (m:=(i2:Int)) (n:=1) rfl rfl ?_;refine Ap (v:=vI (w64 ((i2:Int)+1))) rfl ?_;refine Ah ?_;refine nrm ?_;have e0:=Option.some.inj q14;subst e0;exact⟨E2,_,(by omega),⟨i2+1,x10,m7,_,_,rfl,hlt2,q13,Mem.tr L9 L8,S7,h9,⟨congrArg (Value.int .i64) (Bf hlt2 (SlR.le a0h0)),rfl,trivial⟩⟩⟩
   have hlt2: ¬i2<a0.length:=by have:=of_decide_eq_false hc3; omega
   have e:=Eq.symm (IQ q12 hlt2);subst e;refine CD ?_;refine thE ?_;refine thE ?_;refine exB ?_;refine nrm ?_;exact⟨E2,m7,_,_,Mem.tr L9 L8,S6,h5,⟨rfl,trivial⟩⟩
  rintro f6 w8 ho ⟨m9,v5,c5,l5,S8,h6,ha⟩;obtain⟨u6,rfl⟩:=BR (N:=36) ho ha;clear ho ha;replace L6:=Mem.tr L6 l5;clear S5;have e0:=Option.some.inj q10;subst e0;exact⟨E2,m9,_,_,L6,S8,h6,⟨rfl,trivial⟩⟩
 rintro f7 w9 ho ⟨m10,v3,c3,l6,S9,h4,ha⟩;obtain⟨u7,rfl⟩:=BR (N:=36) ho ha;replace L0:=Mem.tr L0 l6;clear S5;refine Ag ?_;refine Ad ?_;refine Ap (v:=v3) rfl ?_;refine AP (v:=v3) rfl ?_;refine Ah ?_;refine nrm ?_;refine Be ?_;refine D3 ?_;intro we hpd;replace S9:=St.pd S9 hpd;have e0:=Option.some.inj hm;subst e0;exact It [_] rfl ⟨rfl,trivial⟩ ⟨_,L0,_,_,S9,rfl,h4⟩
theorem FE {a0:List (List g_api_Cert)}{r:List g_api_Cert}(hm:Bo a0=some r):Sp prog 76 [sl (eL Ae) a0] [] 0 (is (.ow 0) [.row 0 13 _ Ae r] 1):=
 ⟨call76,fun η m As w vs hv0 hd S=>by
  have S:St m As w:=S;obtain⟨v0,u0,rfl,r0,hv1⟩:=Bg.cons_inv hv0;have f0:=Br.ofS (Br.sl Hv) r0.dd;obtain rfl:=Bg.nil_inv hv1;refine Aw.mono (FB S f0 hm) ?_;rintro v w' ⟨M,hle,y0,c0,S0,rfl,h0⟩;exact⟨M,(Aaz [v]),_,_,_,hle,TH hd _,⟨rfl,rfl,rfl⟩,Jk rfl,(.ow rfl (DZ S0)),(St.impL S0 (Aa9 (Br.toR Hv rfl rfl (DZ S0) h0) fun _ h=>h))⟩⟩
def Ff (i1:Int)(x3:g_api_Cert)(s1:Unit):Option ((Unit)⊕Int):=Ac (Ey x3) fun x4=>if(x4 !=0)=true then some (.inr x4)else some (.inl ())
def Ha (a0:g_path_trip):Option Int:=Ac (Bo ([a0.chain_,a0.roots_]:List (List g_api_Cert))) fun x1=>Ac (Fw Ff x1 0 ()) fun x2=>match x2 with| .inr r=>some r| .inl y1=>some 0
theorem MJ {a0:g_path_trip}{r:Int}(hm:Ha a0=some r):Sf prog 35 [ag (DQ a0)] (.d (.i r)):=
 sp call35 func35 rfl ntmps35 rfl fun D0 As η0 m0 hd=>by
  unfold Ha at hm;refine EC (k:=1) (eL Ae) ([a0.chain_,a0.roots_]:List (List g_api_Cert)) (fun _=>rfl) (by kernel_rfl) ?_;obtain⟨x1,q1,hm⟩:=Aa hm;refine gco (FE q1) (by kernel_rfl) ?_;obtain⟨x2,q2,hm⟩:=Aa hm;refine Pb 0 (E:=Ae) (xs:=x1) 11 (by kernel_rfl) fun hle1=> ?_;refine gjU 0 (fun(y1:Unit)=>⟨[(1,.pb 0 0)],[(0,.box 0 [sl Ae a0.roots_,sl Ae a0.chain_,.d (.s a0.name_),.d (.i a0.now_)] 57)],[],1⟩) (fun y1=>x2= .inl y1) (by kernel_rfl) (fun Jp bk1=> ?_) fun y1 hy=> ?_
  ·refine gl hd (fun(p:Int×(Unit))=>let (p0,_):=p; ⟨[(11,sl Ae x1),(12,.d (.i (x1.length:Int))),(13,.d (.i p0)),(1,.pb 0 0)],[(0,.box 0 [sl Ae a0.roots_,sl Ae a0.chain_,.d (.s a0.name_),.d (.i a0.now_)] 57)],[],1⟩) (fun p=> ∃i:Nat,p.1=(i:Int)∧i≤x1.length∧Fw Ff (x1.drop i) (i:Int) p.2=some x2) (fun p=>x1.length-p.1.toNat) (0,()) ⟨0,rfl,Nat.zero_le _,q2⟩ (by kernel_rfl) ?_;rintro⟨_,s1⟩ ⟨i1,rfl,hi,q3⟩ Jl bl1;refine gi' (b:=decide ((i1:Int)<(x1.length:Int))) (by kernel_rfl) (fun hc2=> ?_) fun hc2=> ?_
   ·have hlt1:i1<x1.length:=by have:=of_decide_eq_true hc2; omega
    obtain⟨x3,y2,q6,q5,q4⟩:=Il q3 hlt1;unfold Ff at q5;refine Hc (k:=13) (E:=Ae) (fun _=>rfl) (fun _=>q6) (by kernel_rfl) ?_;obtain⟨x4,q7,q5⟩:=Aa q5;refine gc (fun _=>JD q7) (by kernel_rfl) ?_;refine gi q5 (by kernel_rfl) (fun hc1 q5=> ?_) fun hc1 q5=> ?_
    ·skip;cases q5;rcases q4 with ⟨sn,e,_⟩|⟨tn,e,e2⟩
     ·cases e
     cases e;cases e2;dsimp only at hm;have e0:=Option.some.inj hm;subst e0;exact Au hd (by kernel_rfl)
    have e0:=Option.some.inj q5;subst e0;rcases q4 with ⟨sn,e,q4'⟩|⟨tn,e,_⟩
    ·have e:=Sum.inl.inj e;subst e;exact gb bl1 hd (w64 ((i1:Int)+1),_) ⟨⟨i1+1,Bf hlt1 hle1,by omega,q4'⟩,H8 hlt1 hle1⟩ (by kernel_rfl)
    cases AN e
   have hlt1: ¬i1<x1.length:=by have:=of_decide_eq_false hc2; omega
   have e:=G4 q3 hlt1;cases e;exact gb bk1 hd _ rfl (by kernel_rfl)
  subst hy;dsimp only at hm;have e0:=Option.some.inj hm;subst e0;exact Au hd (by kernel_rfl)
def D8 (a0:g_path_trip)(a1:g_api_Cert):Option Bool:=bnd (((decide (a1.From≤a0.now_))&&(decide (a1.Until>a0.now_)))) fun x1=>some x1
theorem Ia {a0:g_path_trip}{a1:g_api_Cert}{r:Bool}(hm:D8 a0 a1=some r):Sf prog 77 [ag (DQ a0),ag (Ae a1)] (.d (.t r)):=
 sp call77 func77 rfl ntmps77 rfl fun D0 As η0 m0 hd=>by
  unfold D8 at hm;have hm:=AE hm;let x1:Bool:=(((decide (a1.From≤a0.now_))&&(decide (a1.Until>a0.now_))));have e0:=Option.some.inj hm;subst e0;exact Au hd (by kernel_rfl)
def Cl (a0:List ByteArray)(a1:ByteArray)(i1:Int)(s1:Unit):Option ((Unit)⊕Int):=Ac (idx a0 (i1:Int)) fun x3=>if(eqS a1 x3)=true then some (.inr (i1:Int))else some (.inl ())
def CE (a0:List ByteArray)(a1:ByteArray):Option Int:=Ac (F8 (Cl a0 a1) a0.length 0 ()) fun x1=>match x1 with| .inr r=>some r| .inl y1=>some (-1)
theorem Hg {a0:List ByteArray}{a1:ByteArray}{r:Int}(hm:CE a0 a1=some r):Sf prog 130 [sl eS a0,.d (.s a1)] (.d (.i r)):=
 sp call130 func130 rfl ntmps130 rfl fun D0 As η0 m0 hd=>by
  unfold CE at hm;obtain⟨x1,q1,hm⟩:=Aa hm;refine Pb 0 (E:=eS) (xs:=a0) 6 (by kernel_rfl) fun hle1=> ?_;refine gjU 0 (fun(y1:Unit)=>⟨[],[],[],0⟩) (fun y1=>x1= .inl y1) (by kernel_rfl) (fun Jp bk1=> ?_) fun y1 hy=> ?_
  ·refine gl hd (fun(p:Int×(Unit))=>let (p0,_):=p; ⟨[(0,sl eS a0),(1,.d (.s a1)),(7,.d (.i (a0.length:Int))),(8,.d (.i p0))],[],[],0⟩) (fun p=> ∃i:Nat,p.1=(i:Int)∧i≤a0.length∧F8 (Cl a0 a1) (a0.length-i) (i:Int) p.2=some x1) (fun p=>a0.length-p.1.toNat) (0,()) ⟨0,rfl,Nat.zero_le _,q1⟩ (by kernel_rfl) ?_;rintro⟨_,s1⟩ ⟨i1,rfl,hi,q2⟩ Jl bl1;refine gi' (b:=decide ((i1:Int)<(a0.length:Int))) (by kernel_rfl) (fun hc2=> ?_) fun hc2=> ?_
   ·have hlt1:i1<a0.length:=by have:=of_decide_eq_true hc2; omega
    obtain⟨y2,q4,q3⟩:=Hp q2 hlt1;unfold Cl at q4;obtain⟨x3,q6,q4⟩:=Aa q4;refine Hc (k:=1) (E:=eS) (fun _=>rfl) (fun _=>q6) (by kernel_rfl) ?_;refine gi q4 (by kernel_rfl) (fun hc1 q4=> ?_) fun hc1 q4=> ?_
    ·skip;cases q4;rcases q3 with ⟨sn,e,_⟩|⟨tn,e,e2⟩
     ·cases e
     cases e;cases e2;dsimp only at hm;have e0:=Option.some.inj hm;subst e0;exact Au hd (by kernel_rfl)
    have e0:=Option.some.inj q4;subst e0;rcases q3 with ⟨sn,e,q3'⟩|⟨tn,e,_⟩
    ·have e:=Sum.inl.inj e;subst e;exact gb bl1 hd (w64 ((i1:Int)+1),_) ⟨⟨i1+1,Bf hlt1 hle1,by omega,q3'⟩,H8 hlt1 hle1⟩ (by kernel_rfl)
    cases AN e
   have hlt1: ¬i1<a0.length:=by have:=of_decide_eq_false hc2; omega
   have e:=F7 q2 hlt1;cases e;exact gb bk1 hd _ rfl (by kernel_rfl)
  subst hy;dsimp only at hm;have e0:=Option.some.inj hm;subst e0;exact Au hd (by kernel_rfl)
def Cm (a0:List ByteArray)(a1:ByteArray):Option Bool:=Ac (CE a0 a1) fun x1=>some (decide (x1≥0))
theorem Gp {a0:List ByteArray}{a1:ByteArray}{r:Bool}(hm:Cm a0 a1=some r):Sf prog 78 [sl eS a0,.d (.s a1)] (.d (.t r)):=
 sp call78 func78 rfl ntmps78 rfl fun D0 As η0 m0 hd=>by
  unfold Cm at hm;obtain⟨x1,q1,hm⟩:=Aa hm;refine gc (fun _=>Hg q1) (by kernel_rfl) ?_;have e0:=Option.some.inj hm;subst e0;exact Au hd (by kernel_rfl)
def EU (a0:g_path_trip)(i1:Int)(s1:Bool):Option ((Bool)⊕Int):=Ac (idx a0.chain_ (i1:Int)) fun x3=>Ac (gu (!s1) (D8 a0 x3)) fun x4=>if(x3.Ca==(decide ((i1:Int)>0)))=true then some (.inl (s1||(!x4)))else some (.inr 191)
def GD (a0:g_path_trip):Option Int:=Ac (F8 (EU a0) a0.chain_.length 0 false) fun x1=>match x1 with| .inr r=>some r| .inl y1=>Ac (idx a0.chain_ 0) fun x5=>Ac (Cm x5.Names a0.name_) fun x6=>if(!x6)=true then some 110 else if y1=true then some 190 else some 0
theorem LK {a0:g_path_trip}{r:Int}(hm:GD a0=some r):Sf prog 36 [ag (DQ a0)] (.d (.i r)):=
 sp call36 func36 rfl ntmps36 rfl fun D0 As η0 m0 hd=>by
  unfold GD at hm;obtain⟨x1,q1,hm⟩:=Aa hm;refine Pb 0 (E:=Ae) (xs:=a0.chain_) 7 (by kernel_rfl) fun hle1=> ?_;refine gjU 0 (fun(y1:Bool)=>⟨[(1,.pb 0 0),(3,.d (.t y1))],[(0,.box 0 [sl Ae a0.roots_,sl Ae a0.chain_,.d (.s a0.name_),.d (.i a0.now_)] 57)],[],1⟩) (fun y1=>x1= .inl y1) (by kernel_rfl) (fun Jp bk1=> ?_) fun y1 hy=> ?_
  ·refine gl hd (fun(p:Int×(Bool))=>let (p0,p_0):=p; ⟨[(1,.pb 0 0),(3,.d (.t p_0)),(7,sl Ae a0.chain_),(8,.d (.i (a0.chain_.length:Int))),(9,.d (.i p0))],[(0,.box 0 [sl Ae a0.roots_,sl Ae a0.chain_,.d (.s a0.name_),.d (.i a0.now_)] 57)],[],1⟩) (fun p=> ∃i:Nat,p.1=(i:Int)∧i≤a0.chain_.length∧F8 (EU a0) (a0.chain_.length-i) (i:Int) p.2=some x1) (fun p=>a0.chain_.length-p.1.toNat) (0,false) ⟨0,rfl,Nat.zero_le _,q1⟩ (by kernel_rfl) ?_;rintro⟨_,s1⟩ ⟨i1,rfl,hi,q2⟩ Jl bl1;refine gi' (b:=decide ((i1:Int)<(a0.chain_.length:Int))) (by kernel_rfl) (fun hc2=> ?_) fun hc2=> ?_
   ·have hlt1:i1<a0.chain_.length:=by have:=of_decide_eq_true hc2; omega
    obtain⟨y2,q4,q3⟩:=Hp q2 hlt1;unfold EU at q4;obtain⟨x3,q6,q4⟩:=Aa q4;refine Hc (k:=13) (E:=Ae) (fun _=>rfl) (fun _=>q6) (by kernel_rfl) ?_;obtain⟨x4,q7,q4⟩:=Aa q4;refine gcG (fun h=>Ia (DX h q7)) (by kernel_rfl) ?_;refine gi q4 (by kernel_rfl) (fun hc1 q4=> ?_) fun hc1 q4=> ?_
    ·skip;have e0:=Option.some.inj q4;subst e0;rcases q3 with ⟨sn,e,q3'⟩|⟨tn,e,_⟩
     ·have e:=Sum.inl.inj e;subst e;exact gb bl1 hd (w64 ((i1:Int)+1),_) ⟨⟨i1+1,Bf hlt1 hle1,by omega,q3'⟩,H8 hlt1 hle1⟩ (by kernel_rfl)
     cases AN e
    cases q4;rcases q3 with ⟨sn,e,_⟩|⟨tn,e,e2⟩
    ·cases e
    cases e;cases e2;dsimp only at hm;have e0:=Option.some.inj hm;subst e0;exact Au hd (by kernel_rfl)
   have hlt1: ¬i1<a0.chain_.length:=by have:=of_decide_eq_false hc2; omega
   have e:=F7 q2 hlt1;cases e;exact gb bk1 hd _ rfl (by kernel_rfl)
  subst hy;dsimp only at hm;obtain⟨x5,q8,hm⟩:=Aa hm;refine Hc (k:=13) (E:=Ae) (fun _=>rfl) (fun _=>q8) (by kernel_rfl) ?_;obtain⟨x6,q9,hm⟩:=Aa hm;refine gc (fun _=>Gp q9) (by kernel_rfl) ?_;refine gi hm (by kernel_rfl) (fun hc3 hm=> ?_) fun hc3 hm=> ?_
  ·skip;have e0:=Option.some.inj hm;subst e0;exact Au hd (by kernel_rfl)
  refine gi hm (by kernel_rfl) (fun hc4 hm=> ?_) fun hc4 hm=> ?_
  ·skip;have e0:=Option.some.inj hm;subst e0;exact Au hd (by kernel_rfl)
  have e0:=Option.some.inj hm;subst e0;exact Au hd (by kernel_rfl)
def ET (a0:g_path_trip)(i1:Int)(s1:Unit):Option ((Unit)⊕Int):=Ac (idx a0.chain_ (i1:Int)) fun x3=>Ac (idx a0.chain_ (w64 ((i1:Int)+1))) fun x4=>Ac (CR x3 x4) fun x5=>if(x5 !=0)=true then some (.inr x5)else some (.inl ())
def GC (a0:g_path_trip):Option Int:=Ac (F8 (ET a0) (Int.toNat (w64 ((a0.chain_.length:Int)-1))) 0 ()) fun x1=>match x1 with| .inr r=>some r| .inl y1=>some 0
theorem LJ {a0:g_path_trip}{r:Int}(hm:GC a0=some r):Sf prog 37 [ag (DQ a0)] (.d (.i r)):=
 sp call37 func37 rfl ntmps37 rfl fun D0 As η0 m0 hd=>by
  unfold GC at hm;obtain⟨x1,q1,hm⟩:=Aa hm;refine gjU 0 (fun(y1:Unit)=>⟨[(1,.pb 0 0)],[(0,.box 0 [sl Ae a0.roots_,sl Ae a0.chain_,.d (.s a0.name_),.d (.i a0.now_)] 57)],[],1⟩) (fun y1=>x1= .inl y1) (by kernel_rfl) (fun Jp bk1=> ?_) fun y1 hy=> ?_
  ·refine gl hd (fun(p:Int×(Unit))=>let (p0,_):=p; ⟨[(1,.pb 0 0),(8,.d (.i (w64 ((a0.chain_.length:Int)-1)))),(9,.d (.i p0))],[(0,.box 0 [sl Ae a0.roots_,sl Ae a0.chain_,.d (.s a0.name_),.d (.i a0.now_)] 57)],[],1⟩) (fun p=> ∃i:Nat,p.1=(i:Int)∧i≤(Int.toNat (w64 ((a0.chain_.length:Int)-1)))∧F8 (ET a0) ((Int.toNat (w64 ((a0.chain_.length:Int)-1)))-i) (i:Int) p.2=some x1) (fun p=>(Int.toNat (w64 ((a0.chain_.length:Int)-1)))-p.1.toNat) (0,()) ⟨0,rfl,Nat.zero_le _,q1⟩ (by kernel_rfl) ?_;rintro⟨_,s1⟩ ⟨i1,rfl,hi,q2⟩ Jl bl1;refine gi' (b:=decide ((i1:Int)<(w64 ((a0.chain_.length:Int)-1)))) (by kernel_rfl) (fun hc2=> ?_) fun hc2=> ?_
   ·have hlt1:i1<(Int.toNat (w64 ((a0.chain_.length:Int)-1))):=by have:=of_decide_eq_true hc2; omega
    obtain⟨y2,q4,q3⟩:=Hp q2 hlt1;unfold ET at q4;obtain⟨x3,q6,q4⟩:=Aa q4;refine Hc (k:=13) (E:=Ae) (fun _=>rfl) (fun _=>q6) (by kernel_rfl) ?_;obtain⟨x4,q7,q4⟩:=Aa q4;refine Hc (k:=13) (E:=Ae) (fun _=>rfl) (fun _=>q7) (by kernel_rfl) ?_;obtain⟨x5,q8,q4⟩:=Aa q4;refine gc (fun _=>E8 q8) (by kernel_rfl) ?_;refine gi q4 (by kernel_rfl) (fun hc1 q4=> ?_) fun hc1 q4=> ?_
    ·skip;cases q4;rcases q3 with ⟨sn,e,_⟩|⟨tn,e,e2⟩
     ·cases e
     cases e;cases e2;dsimp only at hm;have e0:=Option.some.inj hm;subst e0;exact Au hd (by kernel_rfl)
    have e0:=Option.some.inj q4;subst e0;rcases q3 with ⟨sn,e,q3'⟩|⟨tn,e,_⟩
    ·have e:=Sum.inl.inj e;subst e;exact gb bl1 hd (w64 ((i1:Int)+1),_) ⟨⟨i1+1,Bf hlt1 (Mv _),by omega,q3'⟩,H8 hlt1 (Mv _)⟩ (by kernel_rfl)
    cases AN e
   have hlt1: ¬i1<(Int.toNat (w64 ((a0.chain_.length:Int)-1))):=by have:=of_decide_eq_false hc2; omega
   have e:=F7 q2 hlt1;cases e;exact gb bk1 hd _ rfl (by kernel_rfl)
  subst hy;dsimp only at hm;have e0:=Option.some.inj hm;subst e0;exact Au hd (by kernel_rfl)
def AY (a0:List g_api_Cert):Option (List g_api_Cert):=Ac (app 168 ([]:List g_api_Cert) a0) fun x1=>some x1
theorem Ge {m:Mem}{As:List Ow}{w:World}{a0:List g_api_Cert}{a0v0:Value}{r:List g_api_Cert}(S:St m (As) w)(a0h0:SlR m a0v0 a0)(hm:AY a0=some r):
  Aw Tryz.prog 50 #[a0v0] w fun v w'=> ∃(M:Mem),m≤M∧∃(rv0:Value) (rc0:List Value),St M ((row 13 rv0 rc0 r.length)::As) w'∧v=rv0∧Bw M rc0 r:=by
 unfold AY at hm;have L0:=Mem.rfl' m;refine CP (args:=[a0v0]) Tryz.func50 rfl Tryz.ntmps50 (Nat.le_of_ble_eq_true rfl) ?_;refine Ag ?_;refine Ad ?_;refine AP (v:= .slice none 0 0) rfl ?_;refine Ah ?_;refine nrm ?_;refine Ag ?_;refine Ag ?_;refine Ad ?_;refine Ap (v:=a0v0) rfl ?_;refine MV rfl rfl a0h0 Tryz.underlying31 ?_;refine Ah ?_;refine nrm ?_;refine Cq (t:=(Lx a0v0)) rfl (fun hc1=> ?_) (fun hc1=> ?_)
 ·have he1:a0=[]:=SlR.nilOf a0h0 hc1;rw[he1]at hm;replace hm:(some ([]:List g_api_Cert))=some _:=hm;refine Ag ?_;refine Ad ?_;refine AP (v:= .slice none 0 0) rfl ?_;refine Ah ?_;refine nrm ?_;refine Be ?_;refine thR ?_;refine D3 ?_;intro we hpd;replace S:=St.pd S hpd;have S1:=St.rowNil S 13;have h1:Bw m [] ([]:List g_api_Cert):=Bw.nil;replace S1:St _ ((row 13 (.slice none 0 0) [] ([]:List g_api_Cert).length)::As) _:=S1;clear S;have e0:=Option.some.inj hm;subst e0;exact It [_] rfl ⟨rfl,trivial⟩ ⟨_,L0,_,_,S1,rfl,h1⟩
 refine AQ ?_;refine nrm ?_;refine Ag ?_;refine Ad ?_;refine JK (parts:=[]) (vs:=[]) (cls:=[]) (n:=0) (sz:=13) S Tryz.underlying31 Tryz.sizeOf28 Tryz.zeroValue28 rfl trivial rfl rfl (by decide) (by decide) ?_;intro v1 w1 S2;have h2:Bw m [] ([]:List g_api_Cert):=Bw.nil;replace S2:St _ ((row 13 v1 [] ([]:List g_api_Cert).length)::As) _:=S2;clear S;refine Ap (v:=a0v0) rfl ?_;obtain⟨x1,q1,hm⟩:=Aa hm;refine SZ (i:=0) (zs:=x1) (bytes:=168) (ti:=Tryz.t28) S2 rfl rfl h2 rfl rfl a0h0 q1 Tryz.underlying31 Tryz.type28 rfl rfl rfl rfl ?_;intro v2 c1 w2 S3 h3;replace S3:St _ ((row 13 v2 c1 x1.length)::As) _:=S3;clear S2;refine AP (v:=v2) rfl ?_;refine Ah ?_;refine nrm ?_;refine Be ?_;refine D3 ?_;intro we hpd;replace S3:=St.pd S3 hpd;have e0:=Option.some.inj hm;subst e0;exact It [_] rfl ⟨rfl,trivial⟩ ⟨_,L0,_,_,S3,rfl,h3⟩
theorem Dj {a0:List g_api_Cert}{r:List g_api_Cert}(hm:AY a0=some r):Sp prog 50 [sl Ae a0] [] 0 (is (.ow 0) [.row 0 13 _ Ae r] 1):=
 ⟨call50,fun η m As w vs hv0 hd S=>by
  have S:St m As w:=S;obtain⟨v0,u0,rfl,r0,hv1⟩:=Bg.cons_inv hv0;have f0:=Br.ofS Hv r0.dd;obtain rfl:=Bg.nil_inv hv1;refine Aw.mono (Ge S f0 hm) ?_;rintro v w' ⟨M,hle,y0,c0,S0,rfl,h0⟩;exact⟨M,(Aaz [v]),_,_,_,hle,TH hd _,⟨rfl,rfl,rfl⟩,Jk rfl,(.ow rfl (DZ S0)),(St.impL S0 (Aa9 (Br.toR Hv rfl rfl (DZ S0) h0) fun _ h=>h))⟩⟩
def CY (a0:ByteArray)(a1:ByteArray):Option (ByteArray×ByteArray×Bool):=Ac (AU a0 a1) fun x1=>if(decide (x1≥0))=true then Ac (Mh a0 0 x1) fun x2=>Ac (Mh a0 (w64 (x1+(a1.size:Int))) (a0.size:Int)) fun x3=>some (x2,x3,true)else some (a0,(⟨#[]⟩:ByteArray),false)
theorem H6 {a0:ByteArray}{a1:ByteArray}{r:ByteArray×ByteArray×Bool}(hm:CY a0 a1=some r):Sf prog 222 [.d (.s a0),.d (.s a1)] (.tup [.d (.s r.1),.d (.s r.2.1),.d (.t r.2.2)]):=
 sp call222 func222 rfl ntmps222 rfl fun D0 As η0 m0 hd=>by
  unfold CY at hm;obtain⟨x1,q1,hm⟩:=Aa hm;refine gc (fun _=>D6 q1) (by kernel_rfl) ?_;refine gi hm (by kernel_rfl) (fun hc1 hm=> ?_) fun hc1 hm=> ?_
  ·skip;obtain⟨x2,q2,hm⟩:=Aa hm;refine R1 (fun _=>q2) (by kernel_rfl) ?_;obtain⟨x3,q3,hm⟩:=Aa hm;refine R1 (fun _=>q3) (by kernel_rfl) ?_;have e0:=Option.some.inj hm;subst e0;exact Au hd (by kernel_rfl)
  have e0:=Option.some.inj hm;subst e0;exact Au hd (by kernel_rfl)
def I3 (a0:ByteArray)(a1:ByteArray):Option (ByteArray×ByteArray×Bool):=Ac (CY a0 a1) fun x1=>some (x1.1,x1.2.1,x1.2.2)
theorem Pu {a0:ByteArray}{a1:ByteArray}{r:ByteArray×ByteArray×Bool}(hm:I3 a0 a1=some r):Sf prog 210 [.d (.s a0),.d (.s a1)] (.tup [.d (.s r.1),.d (.s r.2.1),.d (.t r.2.2)]):=
 sp call210 func210 rfl ntmps210 rfl fun D0 As η0 m0 hd=>by
  unfold I3 at hm;obtain⟨x1,q1,hm⟩:=Aa hm;refine gc (fun _=>H6 q1) (by kernel_rfl) ?_;have e0:=Option.some.inj hm;subst e0;exact Au hd (by kernel_rfl)
def IK (a0:ByteArray):Option ByteArray:=Ac (C2 a0) fun x1=>if(!x1)=true then some (⟨#[]⟩:ByteArray)else Ac (I3 a0 (⟨#[46]⟩:ByteArray)) fun x2=>some x2.2.1
theorem U1 {a0:ByteArray}{r:ByteArray}(hm:IK a0=some r):Sf prog 184 [.d (.s a0)] (.d (.s r)):=
 sp call184 func184 rfl ntmps184 rfl fun D0 As η0 m0 hd=>by
  unfold IK at hm;obtain⟨x1,q1,hm⟩:=Aa hm;refine gc (fun _=>J8 q1) (by kernel_rfl) ?_;refine gi hm (by kernel_rfl) (fun hc1 hm=> ?_) fun hc1 hm=> ?_
  ·skip;have e0:=Option.some.inj hm;subst e0;exact Au hd (by kernel_rfl)
  obtain⟨x2,q2,hm⟩:=Aa hm;refine gc (fun _=>Pu q2) (by kernel_rfl) ?_;have e0:=Option.some.inj hm;subst e0;exact Au hd (by kernel_rfl)
theorem OR {m:Mem}{As:List Ow}{w:World}{a0:ByteArray}{r:ByteArray}(S:St m As w)(hm:IK a0=some r):
  Aw prog 184 #[vS a0] w fun v w'=> ∃(M:Mem),m≤M∧St M (As) w'∧v=vS r:=by
 refine Aw.mono ((U1 hm).2 none0 m As w [vS a0] (.cons (.d (.s _)) .nil) (fun n h=>absurd rfl h) S) ?_;rintro v w' ⟨M,η',r',obs',n1,hle,_,⟨rfl,rfl,rfl⟩,hdom,hR,S'⟩;obtain rfl:=hR.s_inv;exact⟨M,hle,S',rfl⟩
def FV {σ:Type}(p0:σ→ByteArray→Option (Bool×σ))(s1:ByteArray×σ):Option ((ByteArray×σ)⊕(ByteArray×σ)):=Ac (if(!eqS s1.1 (⟨#[]⟩:ByteArray))=true then Ac (p0 s1.2 s1.1) fun x6=>some (x6.1,x6.2)else some (false,s1.2)) fun x5=>if x5.1=true then Ac (IK s1.1) fun x7=>some (.inl (x7,x5.2))else some (.inr (s1.1,x5.2))
def HT {σ:Type}(p0:σ→ByteArray→Option (Bool×σ))(k0:ByteArray)(s0:σ):Option (ByteArray×σ):=Ac (IK k0) fun x1=>Ac (iter (FV p0) A0 (x1,s0)) fun x2=>some (x2.1,x2.2)
theorem No {m:Mem}{As:List Ow}{w:World}{σ:Type}{R:σ→Mem→List Ow→Prop}{p0:σ→ByteArray→Option (Bool×σ)}{f0:Value}{kb0:Nat}{k0:ByteArray}{s0:σ}{X0:List Ow}{r:ByteArray×σ}(S:St m ((bx kb0 [vS k0] 9)::(X0++As)) w)(hup: ∀{s M M' X},M≤M'→R s M X→R s M' X)(hX0:R s0 m X0)(cb0: ∀{m':Mem} {As':List Ow} {w':World} {s:σ} {X:List Ow} {b0:ByteArray} {r:Bool×σ},St m' (X++As') w'→R s m' X→p0 s b0=some r→Ed Tryz.prog f0 [vS b0] w' fun v w''=> ∃(M:Mem) (X':List Ow),m'≤M∧St M (X'++As') w''∧R r.2 M X'∧v=vb r.1)(fc0:f0.cells= #[f0])(hm:HT p0 k0 s0=some r):
  Aw Tryz.prog 183 #[f0,pt kb0 0] w fun v w'=> ∃(M:Mem),m≤M∧∃(X:List Ow),St M ((bx kb0 [vS r.1] 9)::(X++As)) w'∧v= .tuple #[]∧R r.2 M X:=by
 unfold HT at hm;have L0:=Mem.rfl' m;refine CP (args:=[f0,pt kb0 0]) Tryz.func183 rfl Tryz.ntmps183 (Nat.le_of_ble_eq_true rfl) ?_;refine Ag ?_;refine Ad ?_;refine HE (i:=0) (cs:=[vS k0]) S rfl rfl Tryz.isAgg9 Tryz.sizeOf9 rfl (fun _=>rfl) ?_;obtain⟨x1,q1,hm⟩:=Aa hm;refine Cx Tryz.call184 (OR (a0:=k0) S q1) rfl ?_;rintro _ w1 ⟨m1,l1,S1,rfl⟩;replace hX0:=hup l1 hX0;replace L0:=Mem.tr L0 l1;clear S;replace S1:St _ ((bx kb0 [vS k0] 9)::(X0++As)) _:=S1;refine IB (i:=0) S1 rfl rfl rfl Tryz.sizeOf9 (IS rfl LZ) rfl ?_;intro w2 S2;replace S2:St _ ((bx kb0 [vS x1] 9)::(X0++As)) _:=S2;clear S1;refine Ah ?_;refine nrm ?_;obtain⟨x2,q2,hm⟩:=Aa hm;have L1:=Mem.rfl' m1;refine MR ?_;refine AT [5,6,7,8,9,10,11,12,13] (fun f' w'=> ∃(M1:Mem) (X2:List Ow),m1≤M1∧St M1 ((bx kb0 [vS x2.1] 9)::(X2++As)) w'∧R x2.2 M1 X2∧Cb f' []) ?_ ?_
 ·refine Av ?_;refine BT [5,6,7,8,9,10,11,12,13] (fun n1 f' w'=> ∃(s1:ByteArray×σ) (m7:Mem) (X1:List Ow),iter (FV p0) n1 s1=some x2∧m1≤m7∧St m7 ((bx kb0 [vS s1.1] 9)::(X1++As)) w'∧R s1.2 m7 X1∧Cb f' []) A0 ⟨(x1,s0),m1,_,q2,L1,S2,hX0,trivial⟩ ?_;rintro n1 f1 w3 ho ⟨s1,m2,X1,q3,L3,S3,h1,ha⟩;obtain⟨u1,rfl⟩:=BR (N:=14) ho ha;clear ho ha;have L2:=Mem.rfl' m2;clear S2;cases n1 with
  |zero=>exact(Ar q3).elim
  |succ n1=>
   obtain⟨y1,q5,q4⟩:=Ao q3;unfold FV at q5;refine Ag ?_;refine Ag ?_;refine Ad ?_;refine HE (i:=0) (cs:=[vS s1.1]) S3 rfl rfl Tryz.isAgg9 Tryz.sizeOf9 rfl (fun _=>rfl) ?_;refine Z1 (p:=s1.1) (q:=(⟨#[]⟩:ByteArray)) rfl rfl ?_;refine Ap (v:=vb (!eqS s1.1 (⟨#[]⟩:ByteArray))) rfl ?_;obtain⟨x5,q8,q5⟩:=Aa q5;have L4:=Mem.rfl' m2;refine Ps 4 [8,9,10,11] (fun f' w'=> ∃(M2:Mem) (X4:List Ow),m2≤M2∧St M2 ((bx kb0 [vS s1.1] 9)::(X4++As)) w'∧R x5.2 M2 X4∧Cb f' [(11,vb x5.1)]) ?_ ?_
   ·rcases QO (!eqS s1.1 (⟨#[]⟩:ByteArray))with hb1|hb1
    ·replace q8:=ifT hb1 q8;refine E6 (d:=7) rfl rfl (congrArg Value.bool hb1) ?_;refine Ap (v:=f0) rfl ?_;refine E6 (d:=7) rfl rfl (congrArg Value.bool hb1) ?_;refine HE (i:=0) (cs:=[vS s1.1]) S3 rfl rfl Tryz.isAgg9 Tryz.sizeOf9 rfl (fun _=>rfl) ?_;refine E6 (d:=7) rfl rfl (congrArg Value.bool hb1) ?_;obtain⟨x6,q9,q8⟩:=Aa q8;have S6:=St.absF (L:=[bx kb0 [vS s1.1] 9]) (X:=X1) (As:=As) S3;refine G8 rfl (cb0 S6 h1 q9) rfl ?_;rintro _ w5 ⟨m4,X5,l3,S7,h5,rfl⟩;replace S7:=St.absF (L:=X5) (X:=[bx kb0 [vS s1.1] 9]) (As:=As) S7;clear S6;replace L4:=Mem.tr L4 l3;replace S7:St _ ((bx kb0 [vS s1.1] 9)::(X5++As)) _:=S7;clear S3;refine I0 (congrArg Value.bool hb1) rfl ?_;refine Ah (nrm ?_);have e0:=Option.some.inj q8;subst e0;exact⟨E2,m4,_,L4,S7,h5,⟨rfl,trivial⟩⟩
    replace q8:=ifF hb1 q8;refine Gj (d:=7) rfl rfl (congrArg Value.bool hb1) ?_;refine Gj (d:=7) rfl rfl (congrArg Value.bool hb1) ?_;refine Gj (d:=7) rfl rfl (congrArg Value.bool hb1) ?_;refine I1 (congrArg Value.bool hb1) rfl ?_;refine Ah (nrm ?_);have e0:=Option.some.inj q8;subst e0;exact⟨E2,m2,_,L4,S3,h1,⟨rfl,trivial⟩⟩
   rintro f2 w6 ho ⟨m5,X4,l4,S8,h4,ha⟩;obtain⟨u2,rfl⟩:=BR (N:=14) ho ha;replace L2:=Mem.tr L2 l4;clear S3;refine Ah ?_;refine nrm ?_;refine Cq (t:=x5.1) rfl (fun hc1=> ?_) (fun hc1=> ?_)
   ·replace q5:=ifT hc1 q5;refine AQ ?_;refine nrm ?_;refine Ag ?_;refine Av ?_;refine AQ ?_;refine Mb ?_;refine nrm ?_;refine Ad ?_;refine HE (i:=0) (cs:=[vS s1.1]) S8 rfl rfl Tryz.isAgg9 Tryz.sizeOf9 rfl (fun _=>rfl) ?_;obtain⟨x7,q10,q5⟩:=Aa q5;refine Cx Tryz.call184 (OR (a0:=s1.1) S8 q10) rfl ?_;rintro _ w7 ⟨m6,l5,S9,rfl⟩;replace h4:=hup l5 h4;replace L2:=Mem.tr L2 l5;clear S8;replace S9:St _ ((bx kb0 [vS s1.1] 9)::(X4++As)) _:=S9;refine IB (i:=0) S9 rfl rfl rfl Tryz.sizeOf9 (IS rfl LZ) rfl ?_;intro w8 S10;replace S10:St _ ((bx kb0 [vS x7] 9)::(X4++As)) _:=S10;clear S9;refine Ah ?_;refine nrm ?_;have e0:=Option.some.inj q5;subst e0;rcases q4 with ⟨sn,e,q4'⟩|e
    ·cases e;exact⟨E2,_,Nat.lt_succ_self _,⟨_,m6,_,q4',Mem.tr L3 L2,S10,h4,trivial⟩⟩
    ·cases e
   replace q5:=ifF hc1 q5;refine CD ?_;refine thE ?_;refine thE ?_;refine exB ?_;refine nrm ?_;have e0:=Option.some.inj q5;subst e0;rcases q4 with ⟨sn,e,_⟩|e
   ·cases e
   ·cases e;exact⟨E2,m5,_,Mem.tr L3 L2,S8,h4,trivial⟩
 rintro f3 w9 ho ⟨m8,X2,l6,S11,h2,ha⟩;obtain⟨u3,rfl⟩:=BR (N:=14) ho ha;clear ho ha;replace L0:=Mem.tr L0 l6;clear S2;refine Vk ?_;intro we hpd;replace S11:=St.pd S11 hpd;have e0:=Option.some.inj hm;subst e0;exact It [] rfl trivial ⟨_,L0,_,S11,rfl,h2⟩
def I8 (a0:ByteArray):Option ByteArray:=some a0
theorem PL {m:Mem}{As:List Ow}{w:World}{a0:ByteArray}{r:ByteArray}(S:St m (As) w)(hm:I8 a0=some r):
  Aw Tryz.prog 138 #[vS a0] w fun v w'=> ∃(M:Mem),m≤M∧∃(rk0_0:Nat),St M ((bx rk0_0 [vS r] 9)::As) w'∧v= .func (.func 183) #[] #[pt rk0_0 0]:=by
 unfold I8 at hm;have L0:=Mem.rfl' m;refine CP (args:=[vS a0]) Tryz.func138 rfl Tryz.ntmps138 (Nat.le_of_ble_eq_true rfl) ?_;refine Ag ?_;refine Ad ?_;refine LV S rfl ?_;intro b1 w1 S1;replace S1:St _ ((bx b1 [vS a0] 9)::As) _:=S1;clear S;refine AP (v:= .nilFunc) rfl ?_;refine Ah ?_;refine nrm ?_;refine Ag ?_;refine Ad ?_;refine LU (caps:=[pt b1 0]) rfl ?_;refine AP (v:= .func (.func 183) #[] #[pt b1 0]) rfl ?_;refine Ah ?_;refine nrm ?_;refine Be ?_;refine D3 ?_;intro we hpd;replace S1:=St.pd S1 hpd;have e0:=Option.some.inj hm;subst e0;exact It [_] rfl ⟨rfl,trivial⟩ ⟨_,L0,_,S1,rfl⟩
def E3 (a1:ByteArray)(b5:ByteArray)(s1:(Bool)×Nat):Option ((Bool)×Nat):=if(eqS b5 a1)=true then some (true,1)else some (s1.1,0)
def Hm (a0:ByteArray)(a1:ByteArray):Option Bool:=Ac (I8 a0) fun x1=>Ac (HT (fun(s:(Bool)×Nat) (b0:ByteArray)=>if s.2=0 then Ac (E3 a1 b0 s) fun y=>some (y.2==0,y)else none) x1 (false,0)) fun x2=>if(x2.2).2=0 then some false else some x2.2.1
theorem PK {m:Mem}{As:List Ow}{w:World}{a0:ByteArray}{a1:ByteArray}{r:Bool}(S:St m (As) w)(hm:Hm a0 a1=some r):
  Aw Tryz.prog 83 #[vS a0,vS a1] w fun v w'=> ∃(M:Mem),m≤M∧St M (As) w'∧v=vb r:=by
 unfold Hm at hm;have L0:=Mem.rfl' m;refine CP (args:=[vS a0,vS a1]) Tryz.func83 rfl Tryz.ntmps83 (Nat.le_of_ble_eq_true rfl) ?_;refine Ag ?_;refine Ad ?_;refine LV S rfl ?_;intro b1 w1 S1;replace S1:St _ ((bx b1 [vS a1] 9)::As) _:=S1;clear S;refine ES S1 Tryz.zeroValue4 ?_;intro b2 w2 S2;replace S2:St _ ((bx b2 [vb false] 4)::(bx b1 [vS a1] 9)::As) _:=S2;clear S1;refine Ah ?_;refine nrm ?_;refine Ag ?_;refine Ag ?_;refine Ad ?_;refine Ap (v:=vS a0) rfl ?_;obtain⟨x1,q1,hm⟩:=Aa hm;refine Cx Tryz.call138 (PL (a0:=a0) S2 q1) rfl ?_;rintro _ w3 ⟨m1,l1,b3,S3,rfl⟩;replace L0:=Mem.tr L0 l1;clear S2;replace S3:St _ ((bx b3 [vS x1] 9)::(bx b2 [vb false] 4)::(bx b1 [vS a1] 9)::As) _:=S3;refine Ah ?_;refine nrm ?_;refine Av ?_;obtain⟨x2,q2,hm⟩:=Aa hm;refine Fy S3 rfl Tryz.call183 ?_;intro lp1 rip2 w4 h1 S4;replace S4:St _ ((Lp lp1 rip2 .ready none)::(bx b3 [vS x1] 9)::(bx b2 [vb false] 4)::(bx b1 [vS a1] 9)::As) _:=S4;clear S3;have S5:St _ ((bx b3 [vS x1] 9)::(Lp lp1 rip2 .ready none)::(bx b2 [vb false] 4)::(bx b1 [vS a1] 9)::As) _:=St.perm S4 (List.Perm.swap _ _ _);clear S4;have hcb1: ∀{m':Mem} {As':List Ow} {w':World} {s:(Bool)×Nat} {X:List Ow} {b0:ByteArray} {r:Bool×((Bool)×Nat)},St m' (X++As') w'→(m1≤m'∧(((s).2=0∧X=Lp lp1 rip2 .ready none::(bx b2 [vb ((s).1)] 4)::(bx b1 [vS a1] 9)::[])∨((s).2=1∧X=Lp lp1 rip2 .done (some .ret)::(bx b2 [vb ((s).1)] 4)::(bx b1 [vS a1] 9)::[])))→(fun(s:(Bool)×Nat) (b0:ByteArray)=>if s.2=0 then Ac (E3 a1 b0 s) fun y=>some (y.2==0,y)else none) s b0=some r→Ed Tryz.prog (.func (.yield lp1) #[] #[]) [vS b0] w' fun v w''=> ∃(M:Mem) (X':List Ow),m'≤M∧St M (X'++As') w''∧(m1≤M∧(((r.2).2=0∧X'=Lp lp1 rip2 .ready none::(bx b2 [vb ((r.2).1)] 4)::(bx b1 [vS a1] 9)::[])∨((r.2).2=1∧X'=Lp lp1 rip2 .done (some .ret)::(bx b2 [vb ((r.2).1)] 4)::(bx b1 [vS a1] 9)::[])))∧v=vb r.1:=by
  intro m2 As1 w5 s1 X1 b5 r1 S6 h2 hm1;obtain⟨L2,h3⟩:=h2;rcases h3 with ⟨hj1,rfl⟩|⟨hj1,rfl⟩
  ·try dsimp only at hm1
   rw[if_pos hj1]at hm1;obtain⟨y1,q3,hm1⟩:=Aa hm1;cases hm1;unfold E3 at q3;replace S6:St _ ((Lp lp1 rip2 .ready none)::(bx b2 [vb s1.1] 4)::(bx b1 [vS a1] 9)::As1) _:=S6;have L1:=Mem.rfl' m2;refine Ed.round h1 rfl S6 ?_;refine Ad ?_;refine AP (v:=vS b5) rfl ?_;refine Ah ?_;refine nrm ?_;refine⟨_,_,S6,?_⟩;intro w6 S7;clear S6;replace S7:St _ ((Lp lp1 rip2 .busy none)::(bx b2 [vb s1.1] 4)::(bx b1 [vS a1] 9)::As1) _:=S7;refine Av ?_;refine Ag ?_;refine Ad ?_;refine Ap (v:=vS b5) rfl ?_;refine HE (i:=2) (cs:=[vS a1]) S7 rfl rfl Tryz.isAgg9 Tryz.sizeOf9 rfl (fun _=>rfl) ?_;refine Z4 (p:=b5) (q:=a1) rfl rfl ?_;refine Ah ?_;refine nrm ?_;refine Cq (t:=(eqS b5 a1)) rfl (fun hc1=> ?_) (fun hc1=> ?_)
   ·replace q3:=ifT hc1 q3;refine Ag ?_;refine Ad ?_;refine IB (i:=1) S7 rfl rfl rfl Tryz.sizeOf4 (IS rfl LZ) rfl ?_;intro w7 S8;replace S8:St _ ((Lp lp1 rip2 .busy none)::(bx b2 [vb true] 4)::(bx b1 [vS a1] 9)::As1) _:=S8;clear S7;refine Ah ?_;refine nrm ?_;refine Be ?_;refine blR ?_;refine⟨_,_,S8,?_⟩;intro w8 S9;have e0:=Option.some.inj q3;subst e0;exact⟨_,Lp lp1 rip2 .done (some .ret)::(bx b2 [vb true] 4)::(bx b1 [vS a1] 9)::[],L1,S9,⟨Mem.tr L2 L1,.inr (⟨rfl,rfl⟩)⟩,rfl⟩
   replace q3:=ifF hc1 q3;refine AQ ?_;refine Mb ?_;refine⟨_,_,S7,?_⟩;intro w9 S10;have e0:=Option.some.inj q3;subst e0;exact⟨_,Lp lp1 rip2 .ready none::(bx b2 [vb s1.1] 4)::(bx b1 [vS a1] 9)::[],L1,S10,⟨Mem.tr L2 L1,.inl ⟨rfl,rfl⟩⟩,rfl⟩
  ·try dsimp only at hm1
   rw[if_neg (by rw[hj1]; decide)]at hm1;cases hm1
 refine Aw.mono (No (p0:=(fun(s:(Bool)×Nat) (b0:ByteArray)=>if s.2=0 then Ac (E3 a1 b0 s) fun y=>some (y.2==0,y)else none)) (k0:=x1) (s0:=(false,0)) (R:=(fun(s:(Bool)×Nat) (M:Mem) (X:List Ow)=>(m1≤M∧(((s).2=0∧X=Lp lp1 rip2 .ready none::(bx b2 [vb ((s).1)] 4)::(bx b1 [vS a1] 9)::[])∨((s).2=1∧X=Lp lp1 rip2 .done (some .ret)::(bx b2 [vb ((s).1)] 4)::(bx b1 [vS a1] 9)::[]))))) (X0:=((Lp lp1 rip2 .ready none)::(bx b2 [vb false] 4)::(bx b1 [vS a1] 9)::[])) (As:=As) S5 (fun l h=>by obtain⟨Lm,e⟩:=h; exact⟨Mem.tr Lm l,e⟩) ⟨Mem.rfl' _,.inl ⟨rfl,rfl⟩⟩ @hcb1 rfl q2) ?_;rintro _ w10 ⟨m3,l2,X2,S11,rfl,⟨L3,h4⟩⟩;rcases h4 with ⟨hj2,rfl⟩|⟨hj2,rfl⟩
 ·rw[if_pos hj2]at hm;replace S11:St _ ((bx b3 [vS x2.1] 9)::(Lp lp1 rip2 .ready none)::(bx b2 [vb x2.2.1] 4)::(bx b1 [vS a1] 9)::As) _:=S11;have S12:St _ ((Lp lp1 rip2 .ready none)::(bx b3 [vS x2.1] 9)::(bx b2 [vb x2.2.1] 4)::(bx b1 [vS a1] 9)::As) _:=St.perm S11 (List.Perm.swap _ _ _);clear S11;refine⟨_,.ready,none,_,l2,(fun h=>by cases h),S12,?_⟩;intro m4 w11 l3 S13;have l4:=Mem.tr l2 l3;replace L0:=Mem.tr L0 l4;replace S13:St _ ((bx b3 [vS x2.1] 9)::(bx b2 [vb x2.2.1] 4)::(bx b1 [vS a1] 9)::As) _:=S13;refine Mb ?_;refine nrm ?_;refine Ag ?_;refine Ad ?_;refine IB (i:=1) S13 rfl rfl rfl Tryz.sizeOf4 (IS rfl LZ) rfl ?_;intro w12 S14;replace S14:St _ ((bx b3 [vS x2.1] 9)::(bx b2 [vb false] 4)::(bx b1 [vS a1] 9)::As) _:=S14;clear S13;refine Ah ?_;refine nrm ?_;refine Be ?_;refine D3 ?_;intro we hpd;replace S14:=St.pd S14 hpd;have SR:=S14;obtain⟨m5,l5,S15⟩:=St.drop S14 0;replace L0:=Mem.tr L0 l5;replace S15:St _ ((bx b2 [vb false] 4)::(bx b1 [vS a1] 9)::As) _:=S15;obtain⟨m6,l6,S16⟩:=St.drop S15 0;replace L0:=Mem.tr L0 l6;clear S15;replace S16:St _ ((bx b1 [vS a1] 9)::As) _:=S16;obtain⟨m7,l7,S17⟩:=St.drop S16 0;replace L0:=Mem.tr L0 l7;clear S16;replace S17:St _ (As) _:=S17;have e0:=Option.some.inj hm;subst e0;exact It [_] rfl ⟨Io (i:=1) (off:=0) (cs:=[vb false]) SR rfl rfl Tryz.isAgg4 Tryz.sizeOf4 rfl (fun _=>rfl),trivial⟩ ⟨_,L0,S17,rfl⟩
 ·rw[if_neg (show¬(x2.2).2=0 by rw[hj2]; decide)]at hm;replace S11:St _ ((bx b3 [vS x2.1] 9)::(Lp lp1 rip2 .done (some .ret))::(bx b2 [vb x2.2.1] 4)::(bx b1 [vS a1] 9)::As) _:=S11;have S18:St _ ((Lp lp1 rip2 .done (some .ret))::(bx b3 [vS x2.1] 9)::(bx b2 [vb x2.2.1] 4)::(bx b1 [vS a1] 9)::As) _:=St.perm S11 (List.Perm.swap _ _ _);clear S11;refine⟨_,.done,(some .ret),_,l2,(fun h=>by cases h),S18,?_⟩;intro m8 w13 l8 S19;have l9:=Mem.tr l2 l8;replace L0:=Mem.tr L0 l9;replace S19:St _ ((bx b3 [vS x2.1] 9)::(bx b2 [vb x2.2.1] 4)::(bx b1 [vS a1] 9)::As) _:=S19;refine Be ?_;refine blR ?_;refine thR ?_;refine D3 ?_;intro we hpd;replace S19:=St.pd S19 hpd;have SR:=S19;obtain⟨m9,l10,S20⟩:=St.drop S19 0;replace L0:=Mem.tr L0 l10;replace S20:St _ ((bx b2 [vb x2.2.1] 4)::(bx b1 [vS a1] 9)::As) _:=S20;obtain⟨m10,l11,S21⟩:=St.drop S20 0;replace L0:=Mem.tr L0 l11;clear S20;replace S21:St _ ((bx b1 [vS a1] 9)::As) _:=S21;obtain⟨m11,l12,S22⟩:=St.drop S21 0;replace L0:=Mem.tr L0 l12;clear S21;replace S22:St _ (As) _:=S22;have e0:=Option.some.inj hm;subst e0;exact It [_] rfl ⟨Io (i:=1) (off:=0) (cs:=[vb x2.2.1]) SR rfl rfl Tryz.isAgg4 Tryz.sizeOf4 rfl (fun _=>rfl),trivial⟩ ⟨_,L0,S22,rfl⟩
theorem Qb {a0:ByteArray}{a1:ByteArray}{r:Bool}(hm:Hm a0 a1=some r):Sf prog 83 [.d (.s a0),.d (.s a1)] (.d (.t r)):=
 ⟨call83,fun η m As w vs hv0 hd S=>by
  have S:St m As w:=S;obtain⟨v0,u0,rfl,r0,hv1⟩:=Bg.cons_inv hv0;obtain rfl:=r0.s_inv;obtain⟨v1,u1,rfl,r1,hv2⟩:=Bg.cons_inv hv1;obtain rfl:=r1.s_inv;obtain rfl:=Bg.nil_inv hv2;refine Aw.mono (PK S hm) ?_;rintro v w' ⟨M,hle,S0,rfl⟩;exact⟨M,none0,_,_,_,hle,TH hd _,⟨rfl,rfl,rfl⟩,fun n h=>absurd rfl h,(.d (.t _)),S0⟩⟩
def I9 (a0:ByteArray)(a1:ByteArray):Option Bool:=Ac (CS a0) fun x1=>Ac (gu (!(!x1.2.2)) (C2 a1)) fun x2=>if((!x1.2.2)||(!x2))=true then some false else if x1.2.1=true then Ac (Hm a1 x1.1) fun x3=>some x3 else some (eqS x1.1 a1)
theorem PM {a0:ByteArray}{a1:ByteArray}{r:Bool}(hm:I9 a0 a1=some r):Sf prog 44 [.d (.s a0),.d (.s a1)] (.d (.t r)):=
 sp call44 func44 rfl ntmps44 rfl fun D0 As η0 m0 hd=>by
  unfold I9 at hm;obtain⟨x1,q1,hm⟩:=Aa hm;refine gc (fun _=>JA q1) (by kernel_rfl) ?_;obtain⟨x2,q2,hm⟩:=Aa hm;refine gcG (fun h=>J8 (DX h q2)) (by kernel_rfl) ?_;refine gi hm (by kernel_rfl) (fun hc1 hm=> ?_) fun hc1 hm=> ?_
  ·skip;have e0:=Option.some.inj hm;subst e0;exact Au hd (by kernel_rfl)
  refine gi hm (by kernel_rfl) (fun hc2 hm=> ?_) fun hc2 hm=> ?_
  ·skip;obtain⟨x3,q3,hm⟩:=Aa hm;refine gc (fun _=>Qb q3) (by kernel_rfl) ?_;have e0:=Option.some.inj hm;subst e0;exact Au hd (by kernel_rfl)
  have e0:=Option.some.inj hm;subst e0;exact Au hd (by kernel_rfl)
def FQ (a0:ByteArray)(k0:ByteArray):Option (Bool×ByteArray):=Ac (I9 a0 k0) fun x1=>some (x1,k0)
theorem K4 {a0:ByteArray}{k0:ByteArray}{r:Bool×ByteArray}(hm:FQ a0 k0=some r):Sp prog 133 [.d (.s a0),.pb 0 0] [.box 0 [.d (.s k0)] 9] 1 (is (.d (.t r.1)) [.box 0 [.d (.s r.2)] 9] 1):=
 sp call133 func133 rfl ntmps133 rfl fun D0 As η0 m0 hd=>by
  unfold FQ at hm;obtain⟨x1,q1,hm⟩:=Aa hm;refine gc (fun _=>PM q1) (by kernel_rfl) ?_;have e0:=Option.some.inj hm;subst e0;exact Au hd (by kernel_rfl)
def Bq (a0:List ByteArray)(i1:Int)(s1:ByteArray):Option ((ByteArray)⊕(Int×ByteArray)):=Ac (idx a0 (i1:Int)) fun x3=>Ac (FQ x3 s1) fun x4=>if x4.1=true then some (.inr ((i1:Int),x4.2))else some (.inl x4.2)
def BO (a0:List ByteArray)(k0:ByteArray):Option (Int×ByteArray):=Ac (F8 (Bq a0) a0.length 0 k0) fun x1=>match x1 with| .inr r=>some r| .inl y1=>some ((-1),y1)
theorem EP {a0:List ByteArray}{k0:ByteArray}{r:Int×ByteArray}(hm:BO a0 k0=some r):Sp prog 178 [sl eS a0,.fn (.func 133) [] [.pb 0 0]] [.box 0 [.d (.s k0)] 9] 1 (is (.d (.i r.1)) [.box 0 [.d (.s r.2)] 9] 1):=
 sp call178 func178 rfl ntmps178 rfl fun D0 As η0 m0 hd=>by
  unfold BO at hm;obtain⟨x1,q1,hm⟩:=Aa hm;refine Pb 0 (E:=eS) (xs:=a0) 6 (by kernel_rfl) fun hle1=> ?_;refine gjU 0 (fun(y1:ByteArray)=>⟨[],[(0,.box 0 [.d (.s y1)] 9)],[],1⟩) (fun y1=>x1= .inl y1) (by kernel_rfl) (fun Jp bk1=> ?_) fun y1 hy=> ?_
  ·refine gl hd (fun(p:Int×(ByteArray))=>let (p0,p_0):=p; ⟨[(0,sl eS a0),(1,.fn (.func 133) [] [.pb 0 0]),(7,.d (.i (a0.length:Int))),(8,.d (.i p0))],[(0,.box 0 [.d (.s p_0)] 9)],[],1⟩) (fun p=> ∃i:Nat,p.1=(i:Int)∧i≤a0.length∧F8 (Bq a0) (a0.length-i) (i:Int) p.2=some x1) (fun p=>a0.length-p.1.toNat) (0,k0) ⟨0,rfl,Nat.zero_le _,q1⟩ (by kernel_rfl) ?_;rintro⟨_,s1⟩ ⟨i1,rfl,hi,q2⟩ Jl bl1;refine gi' (b:=decide ((i1:Int)<(a0.length:Int))) (by kernel_rfl) (fun hc2=> ?_) fun hc2=> ?_
   ·have hlt1:i1<a0.length:=by have:=of_decide_eq_true hc2; omega
    obtain⟨y2,q4,q3⟩:=Hp q2 hlt1;unfold Bq at q4;obtain⟨x3,q6,q4⟩:=Aa q4;refine Hc (k:=1) (E:=eS) (fun _=>rfl) (fun _=>q6) (by kernel_rfl) ?_;obtain⟨x4,q7,q4⟩:=Aa q4;refine gco (K4 q7) (by kernel_rfl) ?_;refine gi q4 (by kernel_rfl) (fun hc1 q4=> ?_) fun hc1 q4=> ?_
    ·skip;cases q4;rcases q3 with ⟨sn,e,_⟩|⟨tn,e,e2⟩
     ·cases e
     cases e;cases e2;dsimp only at hm;have e0:=Option.some.inj hm;subst e0;exact Au hd (by kernel_rfl)
    have e0:=Option.some.inj q4;subst e0;rcases q3 with ⟨sn,e,q3'⟩|⟨tn,e,_⟩
    ·have e:=Sum.inl.inj e;subst e;exact gb bl1 hd (w64 ((i1:Int)+1),_) ⟨⟨i1+1,Bf hlt1 hle1,by omega,q3'⟩,H8 hlt1 hle1⟩ (by kernel_rfl)
    cases AN e
   have hlt1: ¬i1<a0.length:=by have:=of_decide_eq_false hc2; omega
   have e:=F7 q2 hlt1;cases e;exact gb bk1 hd _ rfl (by kernel_rfl)
  subst hy;dsimp only at hm;have e0:=Option.some.inj hm;subst e0;exact Au hd (by kernel_rfl)
def Bu (a0:List ByteArray)(k0:ByteArray):Option (Bool×ByteArray):=Ac (BO a0 k0) fun x1=>some ((decide (x1.1≥0)),x1.2)
theorem Eb {a0:List ByteArray}{k0:ByteArray}{r:Bool×ByteArray}(hm:Bu a0 k0=some r):Sp prog 132 [sl eS a0,.fn (.func 133) [] [.pb 0 0]] [.box 0 [.d (.s k0)] 9] 1 (is (.d (.t r.1)) [.box 0 [.d (.s r.2)] 9] 1):=
 sp call132 func132 rfl ntmps132 rfl fun D0 As η0 m0 hd=>by
  unfold Bu at hm;obtain⟨x1,q1,hm⟩:=Aa hm;refine gco (EP q1) (by kernel_rfl) ?_;have e0:=Option.some.inj hm;subst e0;exact Au hd (by kernel_rfl)
def Hb (a0:ByteArray)(k0:g_api_Cert):Option (Bool×g_api_Cert):=Ac (Bu k0.Permit a0) fun x1=>some ((!x1.1),k0)
theorem MK {a0:ByteArray}{k0:g_api_Cert}{r:Bool×g_api_Cert}(hm:Hb a0 k0=some r):Sp prog 131 [.d (.s a0),.pb 0 0] [.box 0 [.d (.i k0.Serial),.d (.s k0.Issuer),.d (.s k0.Subject),.d (.u k0.Key),sl eS k0.Names,.d (.i k0.From),.d (.i k0.Until),.d (.t k0.Ca),.d (.i k0.Depth),sl eS k0.Permit,sl Ai k0.Proms,.d (.u k0.Sig.E),.d (.u k0.Sig.S)] 28] 1 (is (.d (.t r.1)) [.box 0 [.d (.i r.2.Serial),.d (.s r.2.Issuer),.d (.s r.2.Subject),.d (.u r.2.Key),.d (.sl _ eS r.2.Names),.d (.i r.2.From),.d (.i r.2.Until),.d (.t r.2.Ca),.d (.i r.2.Depth),.d (.sl _ eS r.2.Permit),.d (.sl _ Ai r.2.Proms),.d (.u r.2.Sig.E),.d (.u r.2.Sig.S)] 28] 1):=
 sp call131 func131 rfl ntmps131 rfl fun D0 As η0 m0 hd=>by
  unfold Hb at hm;obtain⟨x1,q1,hm⟩:=Aa hm;refine gco (Eb q1) (by kernel_rfl) ?_;have e0:=Option.some.inj hm;subst e0;exact Au hd (by kernel_rfl)
def Bt (a0:List ByteArray)(i1:Int)(s1:Int×ByteArray×ByteArray×UInt64×(List ByteArray)×Int×Int×Bool×Int×(List ByteArray)×(List g_api_Promise)×UInt64×UInt64):Option ((Int×ByteArray×ByteArray×UInt64×(List ByteArray)×Int×Int×Bool×Int×(List ByteArray)×(List g_api_Promise)×UInt64×UInt64)⊕(Int×g_api_Cert)):=Ac (idx a0 (i1:Int)) fun x3=>Ac (Hb x3 (⟨s1.1,s1.2.1,s1.2.2.1,s1.2.2.2.1,s1.2.2.2.2.1,s1.2.2.2.2.2.1,s1.2.2.2.2.2.2.1,s1.2.2.2.2.2.2.2.1,s1.2.2.2.2.2.2.2.2.1,s1.2.2.2.2.2.2.2.2.2.1,s1.2.2.2.2.2.2.2.2.2.2.1,(⟨s1.2.2.2.2.2.2.2.2.2.2.2.1,s1.2.2.2.2.2.2.2.2.2.2.2.2⟩:g_api_Sig)⟩:g_api_Cert)) fun x4=>if x4.1=true then some (.inr ((i1:Int),x4.2))else some (.inl (x4.2.Serial,x4.2.Issuer,x4.2.Subject,x4.2.Key,x4.2.Names,x4.2.From,x4.2.Until,x4.2.Ca,x4.2.Depth,x4.2.Permit,x4.2.Proms,x4.2.Sig.E,x4.2.Sig.S))
def BP (a0:List ByteArray)(k0:g_api_Cert):Option (Int×g_api_Cert):=Ac (F8 (Bt a0) a0.length 0 (k0.Serial,k0.Issuer,k0.Subject,k0.Key,k0.Names,k0.From,k0.Until,k0.Ca,k0.Depth,k0.Permit,k0.Proms,k0.Sig.E,k0.Sig.S)) fun x1=>match x1 with| .inr r=>some r| .inl y1=>some ((-1),(⟨y1.1,y1.2.1,y1.2.2.1,y1.2.2.2.1,y1.2.2.2.2.1,y1.2.2.2.2.2.1,y1.2.2.2.2.2.2.1,y1.2.2.2.2.2.2.2.1,y1.2.2.2.2.2.2.2.2.1,y1.2.2.2.2.2.2.2.2.2.1,y1.2.2.2.2.2.2.2.2.2.2.1,(⟨y1.2.2.2.2.2.2.2.2.2.2.2.1,y1.2.2.2.2.2.2.2.2.2.2.2.2⟩:g_api_Sig)⟩:g_api_Cert))
theorem ER {a0:List ByteArray}{k0:g_api_Cert}{r:Int×g_api_Cert}(hm:BP a0 k0=some r):Sp prog 178 [sl eS a0,.fn (.func 131) [] [.pb 0 0]] [.box 0 [.d (.i k0.Serial),.d (.s k0.Issuer),.d (.s k0.Subject),.d (.u k0.Key),sl eS k0.Names,.d (.i k0.From),.d (.i k0.Until),.d (.t k0.Ca),.d (.i k0.Depth),sl eS k0.Permit,sl Ai k0.Proms,.d (.u k0.Sig.E),.d (.u k0.Sig.S)] 28] 1 (is (.d (.i r.1)) [.box 0 [.d (.i r.2.Serial),.d (.s r.2.Issuer),.d (.s r.2.Subject),.d (.u r.2.Key),.d (.sl _ eS r.2.Names),.d (.i r.2.From),.d (.i r.2.Until),.d (.t r.2.Ca),.d (.i r.2.Depth),.d (.sl _ eS r.2.Permit),.d (.sl _ Ai r.2.Proms),.d (.u r.2.Sig.E),.d (.u r.2.Sig.S)] 28] 1):=
 sp call178 func178 rfl ntmps178 rfl fun D0 As η0 m0 hd=>by
  unfold BP at hm;obtain⟨x1,q1,hm⟩:=Aa hm;refine Pb 0 (E:=eS) (xs:=a0) 6 (by kernel_rfl) fun hle1=> ?_;refine gjU 0 (fun(y1:Int×ByteArray×ByteArray×UInt64×(List ByteArray)×Int×Int×Bool×Int×(List ByteArray)×(List g_api_Promise)×UInt64×UInt64)=>let (y_0,y_1,y_2,y_3,y_4,y_5,y_6,y_7,y_8,y_9,y_10,y_11,y_12):=y1; ⟨[],[(0,.box 0 [.d (.i y_0),.d (.s y_1),.d (.s y_2),.d (.u y_3),sl eS y_4,.d (.i y_5),.d (.i y_6),.d (.t y_7),.d (.i y_8),sl eS y_9,sl Ai y_10,.d (.u y_11),.d (.u y_12)] 28)],[],1⟩) (fun y1=>x1= .inl y1) (by kernel_rfl) (fun Jp bk1=> ?_) fun y1 hy=> ?_
  ·refine gl hd (fun(p:Int×(Int×ByteArray×ByteArray×UInt64×(List ByteArray)×Int×Int×Bool×Int×(List ByteArray)×(List g_api_Promise)×UInt64×UInt64))=>let (p0,p_0,p_1,p_2,p_3,p_4,p_5,p_6,p_7,p_8,p_9,p_10,p_11,p_12):=p; ⟨[(0,sl eS a0),(1,.fn (.func 131) [] [.pb 0 0]),(7,.d (.i (a0.length:Int))),(8,.d (.i p0))],[(0,.box 0 [.d (.i p_0),.d (.s p_1),.d (.s p_2),.d (.u p_3),sl eS p_4,.d (.i p_5),.d (.i p_6),.d (.t p_7),.d (.i p_8),sl eS p_9,sl Ai p_10,.d (.u p_11),.d (.u p_12)] 28)],[],1⟩) (fun p=> ∃i:Nat,p.1=(i:Int)∧i≤a0.length∧F8 (Bt a0) (a0.length-i) (i:Int) p.2=some x1) (fun p=>a0.length-p.1.toNat) (0,(k0.Serial,k0.Issuer,k0.Subject,k0.Key,k0.Names,k0.From,k0.Until,k0.Ca,k0.Depth,k0.Permit,k0.Proms,k0.Sig.E,k0.Sig.S)) ⟨0,rfl,Nat.zero_le _,q1⟩ (by kernel_rfl) ?_;rintro⟨_,s1⟩ ⟨i1,rfl,hi,q2⟩ Jl bl1;refine gi' (b:=decide ((i1:Int)<(a0.length:Int))) (by kernel_rfl) (fun hc2=> ?_) fun hc2=> ?_
   ·have hlt1:i1<a0.length:=by have:=of_decide_eq_true hc2; omega
    obtain⟨y2,q4,q3⟩:=Hp q2 hlt1;unfold Bt at q4;obtain⟨x3,q6,q4⟩:=Aa q4;refine Hc (k:=1) (E:=eS) (fun _=>rfl) (fun _=>q6) (by kernel_rfl) ?_;obtain⟨x4,q7,q4⟩:=Aa q4;refine gco (MK q7) (by kernel_rfl) ?_;refine gi q4 (by kernel_rfl) (fun hc1 q4=> ?_) fun hc1 q4=> ?_
    ·skip;cases q4;rcases q3 with ⟨sn,e,_⟩|⟨tn,e,e2⟩
     ·cases e
     cases e;cases e2;dsimp only at hm;have e0:=Option.some.inj hm;subst e0;exact Au hd (by kernel_rfl)
    have e0:=Option.some.inj q4;subst e0;rcases q3 with ⟨sn,e,q3'⟩|⟨tn,e,_⟩
    ·have e:=Sum.inl.inj e;subst e;exact gb bl1 hd (w64 ((i1:Int)+1),_) ⟨⟨i1+1,Bf hlt1 hle1,by omega,q3'⟩,H8 hlt1 hle1⟩ (by kernel_rfl)
    cases AN e
   have hlt1: ¬i1<a0.length:=by have:=of_decide_eq_false hc2; omega
   have e:=F7 q2 hlt1;cases e;exact gb bk1 hd _ rfl (by kernel_rfl)
  subst hy;dsimp only at hm;have e0:=Option.some.inj hm;subst e0;exact Au hd (by kernel_rfl)
def Bv (a0:List ByteArray)(k0:g_api_Cert):Option (Bool×g_api_Cert):=Ac (BP a0 k0) fun x1=>some ((decide (x1.1≥0)),x1.2)
theorem Ec {a0:List ByteArray}{k0:g_api_Cert}{r:Bool×g_api_Cert}(hm:Bv a0 k0=some r):Sp prog 132 [sl eS a0,.fn (.func 131) [] [.pb 0 0]] [.box 0 [.d (.i k0.Serial),.d (.s k0.Issuer),.d (.s k0.Subject),.d (.u k0.Key),sl eS k0.Names,.d (.i k0.From),.d (.i k0.Until),.d (.t k0.Ca),.d (.i k0.Depth),sl eS k0.Permit,sl Ai k0.Proms,.d (.u k0.Sig.E),.d (.u k0.Sig.S)] 28] 1 (is (.d (.t r.1)) [.box 0 [.d (.i r.2.Serial),.d (.s r.2.Issuer),.d (.s r.2.Subject),.d (.u r.2.Key),.d (.sl _ eS r.2.Names),.d (.i r.2.From),.d (.i r.2.Until),.d (.t r.2.Ca),.d (.i r.2.Depth),.d (.sl _ eS r.2.Permit),.d (.sl _ Ai r.2.Proms),.d (.u r.2.Sig.E),.d (.u r.2.Sig.S)] 28] 1):=
 sp call132 func132 rfl ntmps132 rfl fun D0 As η0 m0 hd=>by
  unfold Bv at hm;obtain⟨x1,q1,hm⟩:=Aa hm;refine gco (ER q1) (by kernel_rfl) ?_;have e0:=Option.some.inj hm;subst e0;exact Au hd (by kernel_rfl)
def GF (a0:g_path_trip)(x6:List g_api_Cert)(i1:Int)(s1:Unit):Option ((Unit)⊕Int):=Ac (idx x6 (i1:Int)) fun x9=>bnd ((decide (x9.Depth<(i1:Int)))) fun x10=>if x10=true then some (.inr 191)else if(decide ((x9.Permit.length:Int)>0))=true then Ac (idx a0.chain_ 0) fun x11=>Ac (Bv x11.Names x9) fun x12=>if x12.1=true then some (.inr 110)else some (.inl ())else some (.inl ())
def Ip (a0:g_path_trip)(a1:g_api_Cert):Option Int:=Ac (idx a0.chain_ (w64 ((a0.chain_.length:Int)-1))) fun x1=>Ac (CR x1 a1) fun x2=>if(x2 !=0)=true then some x2 else Ac (D8 a0 a1) fun x3=>if(!x3)=true then some 190 else Ac (cut a0.chain_ 1 (a0.chain_.length:Int)) fun x4=>Ac (AY x4) fun x5=>Ac (app 168 x5 ([a1]:List g_api_Cert)) fun x6=>Ac (F8 (GF a0 x6) x6.length 0 ()) fun x7=>match x7 with| .inr r=>some r| .inl y1=>some 0
theorem Ox {a0:g_path_trip}{a1:g_api_Cert}{r:Int}(hm:Ip a0 a1=some r):Sf prog 79 [ag (DQ a0),ag (Ae a1)] (.d (.i r)):=
 sp call79 func79 rfl ntmps79 rfl fun D0 As η0 m0 hd=>by
  unfold Ip at hm;obtain⟨x1,q1,hm⟩:=Aa hm;refine Hc (k:=13) (E:=Ae) (fun _=>rfl) (fun _=>q1) (by kernel_rfl) ?_;obtain⟨x2,q2,hm⟩:=Aa hm;refine gc (fun _=>E8 q2) (by kernel_rfl) ?_;refine gi hm (by kernel_rfl) (fun hc1 hm=> ?_) fun hc1 hm=> ?_
  ·skip;have e0:=Option.some.inj hm;subst e0;exact Au hd (by kernel_rfl)
  obtain⟨x3,q3,hm⟩:=Aa hm;refine gc (fun _=>Ia q3) (by kernel_rfl) ?_;refine gi hm (by kernel_rfl) (fun hc2 hm=> ?_) fun hc2 hm=> ?_
  ·skip;have e0:=Option.some.inj hm;subst e0;exact Au hd (by kernel_rfl)
  obtain⟨x4,q4,hm⟩:=Aa hm;refine gcut (k:=13) (E:=Ae) (fun _=>rfl) (fun _=>q4) (by kernel_rfl) ?_;obtain⟨x5,q5,hm⟩:=Aa hm;refine gco (Dj q5) (by kernel_rfl) ?_;refine EC (k:=13) Ae ([a1]:List g_api_Cert) (fun _=>rfl) (by kernel_rfl) ?_;obtain⟨x6,q6,hm⟩:=Aa hm;refine KS (k:=13) (E:=Ae) (fun _=>rfl) q6 (by kernel_rfl) ?_;obtain⟨x7,q7,hm⟩:=Aa hm;refine Pb 0 (E:=Ae) (xs:=x6) 32 (by kernel_rfl) fun hle1=> ?_;refine gjU 0 (fun(y1:Unit)=>⟨[(3,.pb 1 0),(2,.pb 0 0)],[(0,.box 1 [.d (.i a1.Serial),.d (.s a1.Issuer),.d (.s a1.Subject),.d (.u a1.Key),sl eS a1.Names,.d (.i a1.From),.d (.i a1.Until),.d (.t a1.Ca),.d (.i a1.Depth),sl eS a1.Permit,sl Ai a1.Proms,.d (.u a1.Sig.E),.d (.u a1.Sig.S)] 28),(1,.box 0 [sl Ae a0.roots_,sl Ae a0.chain_,.d (.s a0.name_),.d (.i a0.now_)] 57)],[],2⟩) (fun y1=>x7= .inl y1) (by kernel_rfl) (fun Jp bk1=> ?_) fun y1 hy=> ?_
  ·refine gl hd (fun(p:Int×(Unit))=>let (p0,_):=p; ⟨[(2,.pb 0 0),(32,.ow 2),(33,.d (.i (x6.length:Int))),(34,.d (.i p0)),(3,.pb 1 0)],[(0,.row 2 13 _ Ae x6),(1,.box 1 [.d (.i a1.Serial),.d (.s a1.Issuer),.d (.s a1.Subject),.d (.u a1.Key),sl eS a1.Names,.d (.i a1.From),.d (.i a1.Until),.d (.t a1.Ca),.d (.i a1.Depth),sl eS a1.Permit,sl Ai a1.Proms,.d (.u a1.Sig.E),.d (.u a1.Sig.S)] 28),(2,.box 0 [sl Ae a0.roots_,sl Ae a0.chain_,.d (.s a0.name_),.d (.i a0.now_)] 57)],[],3⟩) (fun p=> ∃i:Nat,p.1=(i:Int)∧i≤x6.length∧F8 (GF a0 x6) (x6.length-i) (i:Int) p.2=some x7) (fun p=>x6.length-p.1.toNat) (0,()) ⟨0,rfl,Nat.zero_le _,q7⟩ (by kernel_rfl) ?_;rintro⟨_,s1⟩ ⟨i1,rfl,hi,q8⟩ Jl bl1;refine gi' (b:=decide ((i1:Int)<(x6.length:Int))) (by kernel_rfl) (fun hc6=> ?_) fun hc6=> ?_
   ·have hlt1:i1<x6.length:=by have:=of_decide_eq_true hc6; omega
    obtain⟨y2,q10,q9⟩:=Hp q8 hlt1;unfold GF at q10;obtain⟨x9,q12,q10⟩:=Aa q10;refine TB (E:=Ae) (fun _=>q12) (by kernel_rfl) ?_;refine gldO (k:=13) (fo:=0) (nn:=13) (ag:=true) (E:=Ae) (fun _=>rfl) (fun _=>q12) (by kernel_rfl) ?_;have q10:=AE q10;let x10:Bool:=((decide (x9.Depth<(i1:Int))));refine gi q10 (by kernel_rfl) (fun hc3 q10=> ?_) fun hc3 q10=> ?_
    ·skip;cases q10;rcases q9 with ⟨sn,e,_⟩|⟨tn,e,e2⟩
     ·cases e
     cases e;cases e2;dsimp only at hm;have e0:=Option.some.inj hm;subst e0;exact Au hd (by kernel_rfl)
    refine gspl 50 q10 (by kernel_rfl) (fun hc4 q10=> ?_) fun hc4 q10=> ?_
    ·obtain⟨x11,q14,q10⟩:=Aa q10;refine Hc (k:=13) (E:=Ae) (fun _=>rfl) (fun _=>q14) (by kernel_rfl) ?_;obtain⟨x12,q15,q10⟩:=Aa q10;refine gco (Ec q15) (by kernel_rfl) ?_;refine gi q10 (by kernel_rfl) (fun hc5 q10=> ?_) fun hc5 q10=> ?_
     ·skip;cases q10;rcases q9 with ⟨sn,e,_⟩|⟨tn,e,e2⟩
      ·cases e
      cases e;cases e2;dsimp only at hm;have e0:=Option.some.inj hm;subst e0;exact Au hd (by kernel_rfl)
     have e0:=Option.some.inj q10;subst e0;rcases q9 with ⟨sn,e,q9'⟩|⟨tn,e,_⟩
     ·have e:=Sum.inl.inj e;subst e;exact gb bl1 hd (w64 ((i1:Int)+1),_) ⟨⟨i1+1,Bf hlt1 hle1,by omega,q9'⟩,H8 hlt1 hle1⟩ (by kernel_rfl)
     cases AN e
    refine gi' (b:=false) (by kernel_rfl) (fun h=>by cases h) (fun _=> ?_);have e0:=Option.some.inj q10;subst e0;rcases q9 with ⟨sn,e,q9'⟩|⟨tn,e,_⟩
    ·have e:=Sum.inl.inj e;subst e;exact gb bl1 hd (w64 ((i1:Int)+1),_) ⟨⟨i1+1,Bf hlt1 hle1,by omega,q9'⟩,H8 hlt1 hle1⟩ (by kernel_rfl)
    cases AN e
   have hlt1: ¬i1<x6.length:=by have:=of_decide_eq_false hc6; omega
   have e:=F7 q8 hlt1;cases e;exact gb bk1 hd _ rfl (by kernel_rfl)
  subst hy;dsimp only at hm;have e0:=Option.some.inj hm;subst e0;exact Au hd (by kernel_rfl)
def D5 (a0:g_path_trip)(s1:Int×Int):Option ((Int×Int)⊕((Int)⊕Int)):=if(decide (s1.2≥0))=true then Ac (idx a0.roots_ s1.2) fun x4=>Ac (Ip a0 x4) fun x5=>if(x5==0)=true then some (.inr (.inr 0))else some (.inl (x5,(w64 (s1.2-1))))else some (.inr (.inl s1.1))
def Fe (a0:g_path_trip):Option Int:=bnd ((w64 ((a0.roots_.length:Int)-1))) fun x1=>Ac (iter (D5 a0) A0 (191,x1)) fun x2=>match x2 with| .inr r=>some r| .inl y1=>some y1
theorem Kz {a0:g_path_trip}{r:Int}(hm:Fe a0=some r):Sf prog 38 [ag (DQ a0)] (.d (.i r)):=
 sp call38 func38 rfl ntmps38 rfl fun D0 As η0 m0 hd=>by
  unfold Fe at hm;have hm:=AE hm;let x1:Int:=((w64 ((a0.roots_.length:Int)-1)));obtain⟨x2,q2,hm⟩:=Aa hm;refine gjU 0 (fun(y1:Int)=>⟨[(3,.d (.i y1)),(1,.pb 0 0)],[(0,.box 0 [sl Ae a0.roots_,sl Ae a0.chain_,.d (.s a0.name_),.d (.i a0.now_)] 57)],[],1⟩) (fun y1=>x2= .inl y1) (by kernel_rfl) (fun Jp bk1=> ?_) fun y1 hy=> ?_
  ·refine gl hd (fun(p:Nat×(Int×Int))=>let (p0,p_0,p_1):=p; ⟨[(1,.pb 0 0),(3,.d (.i p_0)),(4,.d (.i p_1))],[(0,.box 0 [sl Ae a0.roots_,sl Ae a0.chain_,.d (.s a0.name_),.d (.i a0.now_)] 57)],[],1⟩) (fun p=>iter (D5 a0) p.1 p.2=some x2) (fun p=>p.1) (A0,(191,x1)) q2 (by kernel_rfl) ?_;rintro⟨n1,s1⟩ q3 Jl bl1;cases n1 with
   |zero=>exact(Ar q3).elim
   |succ n1=>
    obtain⟨y2,q5,q4⟩:=Ao q3;unfold D5 at q5;refine gi q5 (by kernel_rfl) (fun hc1 q5=> ?_) fun hc1 q5=> ?_
    ·skip;obtain⟨x4,q7,q5⟩:=Aa q5;refine Hc (k:=13) (E:=Ae) (fun _=>rfl) (fun _=>q7) (by kernel_rfl) ?_;obtain⟨x5,q8,q5⟩:=Aa q5;refine gc (fun _=>Ox q8) (by kernel_rfl) ?_;refine gi q5 (by kernel_rfl) (fun hc2 q5=> ?_) fun hc2 q5=> ?_
     ·skip;cases q5;rcases q4 with ⟨sn,e,_⟩|e
      ·cases e
      cases e;dsimp only at hm;have e0:=Option.some.inj hm;subst e0;exact Au hd (by kernel_rfl)
     have e0:=Option.some.inj q5;subst e0;rcases q4 with ⟨sn,e,q4'⟩|e
     ·have e:=Sum.inl.inj e;subst e;exact gb bl1 hd (n1,_) ⟨q4',Nat.lt_succ_self _⟩ (by kernel_rfl)
     cases AN e
    have e0:=Option.some.inj q5;subst e0;rcases q4 with ⟨sn,e,_⟩|e
    ·cases B2 e
    have e:=Sum.inr.inj e;subst e;exact gb bk1 hd s1.1 rfl (by kernel_rfl)
  subst hy;dsimp only at hm;have e0:=Option.some.inj hm;subst e0;exact Au hd (by kernel_rfl)
def Qs (x:Gn):Option Int:=if x.k=34 then FU x.a else if x.k=35 then Ha x.a else if x.k=36 then GD x.a else if x.k=37 then GC x.a else if x.k=38 then Fe x.a else none
theorem Yx {x:Gn}{r:Int}(hm:Qs x=some r):Sf prog x.k [ag (DQ x.a)] (.d (.i r)):=by
 unfold Qs at hm;split at hm
 ·rename_i h;rw[h];exact K5 hm
 split at hm
 ·rename_i h;rw[h];exact MJ hm
 split at hm
 ·rename_i h;rw[h];exact LK hm
 split at hm
 ·rename_i h;rw[h];exact LJ hm
 split at hm
 ·rename_i h;rw[h];exact Kz hm
 cases hm
def I7 (i1:Int)(x2:Gn)(s1:Unit):Option ((Unit)⊕Int):=Ac (Qs x2) fun x3=>if(x3 !=0)=true then some (.inr x3)else some (.inl ())
def Me (a0:List Gn):Option Int:=Ac (Fw I7 a0 0 ()) fun x1=>match x1 with| .inr r=>some r| .inl y1=>some 0
theorem U0 {a0:List Gn}{r:Int}(hm:Me a0=some r):Sf prog 33 [sl Ob a0] (.d (.i r)):=
 sp call33 func33 rfl ntmps33 rfl fun D0 As η0 m0 hd=>by
  unfold Me at hm;obtain⟨x1,q1,hm⟩:=Aa hm;refine Pb 0 (E:=Ob) (xs:=a0) 6 (by kernel_rfl) fun hle1=> ?_;refine gjU 0 (fun(y1:Unit)=>⟨[],[],[],0⟩) (fun y1=>x1= .inl y1) (by kernel_rfl) (fun Jp bk1=> ?_) fun y1 hy=> ?_
  ·refine gl hd (fun(p:Int×(Unit))=>let (p0,_):=p; ⟨[(6,sl Ob a0),(7,.d (.i (a0.length:Int))),(8,.d (.i p0))],[],[],0⟩) (fun p=> ∃i:Nat,p.1=(i:Int)∧i≤a0.length∧Fw I7 (a0.drop i) (i:Int) p.2=some x1) (fun p=>a0.length-p.1.toNat) (0,()) ⟨0,rfl,Nat.zero_le _,q1⟩ (by kernel_rfl) ?_;rintro⟨_,s1⟩ ⟨i1,rfl,hi,q2⟩ Jl bl1;refine gi' (b:=decide ((i1:Int)<(a0.length:Int))) (by kernel_rfl) (fun hc2=> ?_) fun hc2=> ?_
   ·have hlt1:i1<a0.length:=by have:=of_decide_eq_true hc2; omega
    obtain⟨x2,y2,q5,q4,q3⟩:=Il q2 hlt1;unfold I7 at q4;refine Hc (k:=1) (E:=Ob) (fun _=>rfl) (fun _=>q5) (by kernel_rfl) ?_;obtain⟨x3,q6,q4⟩:=Aa q4;refine gdyc (fun _=>Yx q6) (by kernel_rfl) ?_;refine gi q4 (by kernel_rfl) (fun hc1 q4=> ?_) fun hc1 q4=> ?_
    ·skip;cases q4;rcases q3 with ⟨sn,e,_⟩|⟨tn,e,e2⟩
     ·cases e
     cases e;cases e2;dsimp only at hm;have e0:=Option.some.inj hm;subst e0;exact Au hd (by kernel_rfl)
    have e0:=Option.some.inj q4;subst e0;rcases q3 with ⟨sn,e,q3'⟩|⟨tn,e,_⟩
    ·have e:=Sum.inl.inj e;subst e;exact gb bl1 hd (w64 ((i1:Int)+1),_) ⟨⟨i1+1,Bf hlt1 hle1,by omega,q3'⟩,H8 hlt1 hle1⟩ (by kernel_rfl)
    cases AN e
   have hlt1: ¬i1<a0.length:=by have:=of_decide_eq_false hc2; omega
   have e:=G4 q2 hlt1;cases e;exact gb bk1 hd _ rfl (by kernel_rfl)
  subst hy;dsimp only at hm;have e0:=Option.some.inj hm;subst e0;exact Au hd (by kernel_rfl)
def CL (a0:List g_api_Cert)(a1:List g_api_Cert)(a2:ByteArray)(a3:Int):Option Int:=Ac (Me ([(⟨34,(⟨a0,a1,a2,a3⟩:g_path_trip)⟩:Gn),(⟨35,(⟨a0,a1,a2,a3⟩:g_path_trip)⟩:Gn),(⟨36,(⟨a0,a1,a2,a3⟩:g_path_trip)⟩:Gn),(⟨37,(⟨a0,a1,a2,a3⟩:g_path_trip)⟩:Gn),(⟨38,(⟨a0,a1,a2,a3⟩:g_path_trip)⟩:Gn)]:List Gn)) fun x1=>some x1
theorem Dt {a0:List g_api_Cert}{a1:List g_api_Cert}{a2:ByteArray}{a3:Int}{r:Int}(hm:CL a0 a1 a2 a3=some r):Sf prog 15 [sl Ae a0,sl Ae a1,.d (.s a2),.d (.i a3)] (.d (.i r)):=
 sp call15 func15 rfl ntmps15 rfl fun D0 As η0 m0 hd=>by
  unfold CL at hm;refine EC (k:=1) Ob ([(⟨34,(⟨a0,a1,a2,a3⟩:g_path_trip)⟩:Gn),(⟨35,(⟨a0,a1,a2,a3⟩:g_path_trip)⟩:Gn),(⟨36,(⟨a0,a1,a2,a3⟩:g_path_trip)⟩:Gn),(⟨37,(⟨a0,a1,a2,a3⟩:g_path_trip)⟩:Gn),(⟨38,(⟨a0,a1,a2,a3⟩:g_path_trip)⟩:Gn)]:List Gn) (fun _=>rfl) (by kernel_rfl) ?_;obtain⟨x1,q1,hm⟩:=Aa hm;refine gc (fun _=>U0 q1) (by kernel_rfl) ?_;have e0:=Option.some.inj hm;subst e0;exact Au hd (by kernel_rfl)
def Mc (a0:UInt64):Option Bool:=bnd ((((a0.toNat:Int)==0)||(decide ((a0.toNat:Int)≥1152921504606845789)))) fun x1=>some x1
theorem UX {a0:UInt64}{r:Bool}(hm:Mc a0=some r):Sf prog 142 [.d (.u a0)] (.d (.t r)):=
 sp call142 func142 rfl ntmps142 rfl fun D0 As η0 m0 hd=>by
  unfold Mc at hm;have hm:=AE hm;let x1:Bool:=((((a0.toNat:Int)==0)||(decide ((a0.toNat:Int)≥1152921504606845789))));have e0:=Option.some.inj hm;subst e0;exact Au hd (by kernel_rfl)
def Hj (a0:UInt64):Option (UInt64×Int):=Ac (Mc a0) fun x1=>if x1=true then some (0,1)else Ac (CF a0) fun x2=>some (x2,0)
theorem K0 {a0:UInt64}{r:UInt64×Int}(hm:Hj a0=some r):Sf prog 85 [.d (.u a0)] (.tup [.d (.u r.1),.d (.i r.2)]):=
 sp call85 func85 rfl ntmps85 rfl fun D0 As η0 m0 hd=>by
  unfold Hj at hm;obtain⟨x1,q1,hm⟩:=Aa hm;refine gc (fun _=>UX q1) (by kernel_rfl) ?_;refine gi hm (by kernel_rfl) (fun hc1 hm=> ?_) fun hc1 hm=> ?_
  ·skip;have e0:=Option.some.inj hm;subst e0;exact Au hd (by kernel_rfl)
  obtain⟨x2,q2,hm⟩:=Aa hm;refine gc (fun _=>IX q2) (by kernel_rfl) ?_;have e0:=Option.some.inj hm;subst e0;exact Au hd (by kernel_rfl)
def I4 (a0:ByteArray)(a1:List (List UInt8)):Option UInt64:=Ac (EK a0 a1) fun x1=>Ac (Ht x1 1152921504606845788) fun x2=>some (x2+1)
theorem Ng {a0:ByteArray}{a1:List (List UInt8)}{r:UInt64}(hm:I4 a0 a1=some r):Sf prog 143 [.d (.s a0),sl (eL eB) a1] (.d (.u r)):=
 sp call143 func143 rfl ntmps143 rfl fun D0 As η0 m0 hd=>by
  unfold I4 at hm;obtain⟨x1,q1,hm⟩:=Aa hm;refine gc (fun _=>K7 q1) (by kernel_rfl) ?_;obtain⟨x2,q2,hm⟩:=Aa hm;refine gc (fun _=>OQ q2) (by kernel_rfl) ?_;have e0:=Option.some.inj hm;subst e0;exact Au hd (by kernel_rfl)
def Hi (a0:List UInt8):Option UInt64:=Ac (I4 (⟨#[115,101,99,114,101,116]⟩:ByteArray) ([a0]:List (List UInt8))) fun x1=>some x1
theorem KZ {a0:List UInt8}{r:UInt64}(hm:Hi a0=some r):Sf prog 86 [sl eB a0] (.d (.u r)):=
 sp call86 func86 rfl ntmps86 rfl fun D0 As η0 m0 hd=>by
  unfold Hi at hm;refine EC (k:=1) (eL eB) ([a0]:List (List UInt8)) (fun _=>rfl) (by kernel_rfl) ?_;obtain⟨x1,q1,hm⟩:=Aa hm;refine gc (fun _=>Ng q1) (by kernel_rfl) ?_;have e0:=Option.some.inj hm;subst e0;exact Au hd (by kernel_rfl)
def HU (a0:ByteArray):Option UInt64:=Ac (app 1 ([]:List UInt8) a0.data.toList) fun x1=>Ac (Hi x1) fun x2=>Ac (Hj x2) fun x3=>some x3.1
theorem KA {a0:ByteArray}{r:UInt64}(hm:HU a0=some r):Sf prog 47 [.d (.s a0)] (.d (.u r)):=
 sp call47 func47 rfl ntmps47 rfl fun D0 As η0 m0 hd=>by
  unfold HU at hm;obtain⟨x1,q1,hm⟩:=Aa hm;refine gofS q1 (by kernel_rfl) ?_;obtain⟨x2,q2,hm⟩:=Aa hm;refine gco (KZ q2) (by kernel_rfl) ?_;obtain⟨x3,q3,hm⟩:=Aa hm;refine gc (fun _=>K0 q3) (by kernel_rfl) ?_;have e0:=Option.some.inj hm;subst e0;exact Au hd (by kernel_rfl)
def JV (a0:ByteArray)(a1:Int)(a2:Int)(a3:Int):Option g_api_Cert:=Ac (AaJ (⟨#[114]⟩:ByteArray) a0) fun x1=>Ac (HU x1) fun x2=>some (⟨1,(⟨#[114]⟩:ByteArray),(⟨#[114]⟩:ByteArray),x2,[],a2,a3,true,a1,[],[],(⟨0,0⟩:g_api_Sig)⟩:g_api_Cert)
theorem Rh {a0:ByteArray}{a1:Int}{a2:Int}{a3:Int}{r:g_api_Cert}(hm:JV a0 a1 a2 a3=some r):Sf prog 20 [.d (.s a0),.d (.i a1),.d (.i a2),.d (.i a3)] (ag (Ae r)):=
 sp call20 func20 rfl ntmps20 rfl fun D0 As η0 m0 hd=>by
  unfold JV at hm;obtain⟨x1,q1,hm⟩:=Aa hm;refine gcat (fun _=>q1) (by kernel_rfl) ?_;obtain⟨x2,q2,hm⟩:=Aa hm;refine gc (fun _=>KA q2) (by kernel_rfl) ?_;have e0:=Option.some.inj hm;subst e0;exact Au hd (by kernel_rfl)
def GJ (a0:UInt64)(a1:UInt64)(a2:UInt64):Option UInt64:=if a0≠0 then if a0≠0 then Ac (Ez (H3 (a1%a0) (a2%a0)) ((a1%a0)+(a2%a0)) a0) fun x1=>some x1 else none else none
theorem LN {a0:UInt64}{a1:UInt64}{a2:UInt64}{r:UInt64}(hm:GJ a0 a1 a2=some r):Sf prog 191 [.d (.u a0),.d (.u a1),.d (.u a2)] (.d (.u r)):=
 sp call191 func191 rfl ntmps191 rfl fun D0 As η0 m0 hd=>by
  unfold GJ at hm;obtain⟨q1,hm⟩:=B8 hm;refine Uy (d:= .u a0) (r:= .u (a1%a0)) (fun h=>q1) (by kernel_rfl) ?_;obtain⟨q2,hm⟩:=B8 hm;refine Uy (d:= .u a0) (r:= .u (a2%a0)) (fun h=>q2) (by kernel_rfl) ?_;refine Aaw (p:=(a1%a0)) (q:=(a2%a0)) func162 (by kernel_rfl) (by kernel_rfl) (by kernel_rfl) (by kernel_rfl) (by kernel_rfl) ?_;obtain⟨x1,q3,hm⟩:=Aa hm;refine gc (fun _=>Mr q3) (by kernel_rfl) ?_;have e0:=Option.some.inj hm;subst e0;exact Au hd (by kernel_rfl)
def Jf (a0:UInt64)(a1:UInt64):Option UInt64:=Ac (GJ 1152921504606845789 a0 a1) fun x1=>some x1
theorem PV {a0:UInt64}{a1:UInt64}{r:UInt64}(hm:Jf a0 a1=some r):Sf prog 144 [.d (.u a0),.d (.u a1)] (.d (.u r)):=
 sp call144 func144 rfl ntmps144 rfl fun D0 As η0 m0 hd=>by
  unfold Jf at hm;obtain⟨x1,q1,hm⟩:=Aa hm;refine gc (fun _=>LN q1) (by kernel_rfl) ?_;have e0:=Option.some.inj hm;subst e0;exact Au hd (by kernel_rfl)
def Jd (a0:UInt64)(a1:UInt64):Option UInt64:=Ac (A8 1152921504606845789 a0 a1) fun x1=>some x1
theorem PU {a0:UInt64}{a1:UInt64}{r:UInt64}(hm:Jd a0 a1=some r):Sf prog 145 [.d (.u a0),.d (.u a1)] (.d (.u r)):=
 sp call145 func145 rfl ntmps145 rfl fun D0 As η0 m0 hd=>by
  unfold Jd at hm;obtain⟨x1,q1,hm⟩:=Aa hm;refine gc (fun _=>ID q1) (by kernel_rfl) ?_;have e0:=Option.some.inj hm;subst e0;exact Au hd (by kernel_rfl)
def KJ (a0:UInt64)(a1:List UInt8):Option (g_api_Sig×Int):=Ac (Hj a0) fun x1=>if(x1.2 !=0)=true then some ((⟨0,0⟩:g_api_Sig),x1.2)else Ac (Dx a0) fun x2=>Ac (I4 (⟨#[110,111,110,99,101]⟩:ByteArray) ([x2,a1]:List (List UInt8))) fun x3=>Ac (CF x3) fun x4=>Ac (Cd x4 x1.1 a1) fun x5=>Ac (Jd x5 a0) fun x6=>Ac (Jf x6 x3) fun x7=>some ((⟨x5,x7⟩:g_api_Sig),0)
theorem Sw {a0:UInt64}{a1:List UInt8}{r:g_api_Sig×Int}(hm:KJ a0 a1=some r):Sf prog 87 [.d (.u a0),sl eB a1] (.tup [ag (H2 r.1),.d (.i r.2)]):=
 sp call87 func87 rfl ntmps87 rfl fun D0 As η0 m0 hd=>by
  unfold KJ at hm;obtain⟨x1,q1,hm⟩:=Aa hm;refine gc (fun _=>K0 q1) (by kernel_rfl) ?_;refine gi hm (by kernel_rfl) (fun hc1 hm=> ?_) fun hc1 hm=> ?_
  ·skip;have e0:=Option.some.inj hm;subst e0;exact Au hd (by kernel_rfl)
  obtain⟨x2,q2,hm⟩:=Aa hm;refine gco (JJ q2) (by kernel_rfl) ?_;refine Vs (k:=1) (eL eB) ([x2,a1]:List (List UInt8)) (fun _=>rfl) (by kernel_rfl) ?_;obtain⟨x3,q3,hm⟩:=Aa hm;refine gc (fun _=>Ng q3) (by kernel_rfl) ?_;obtain⟨x4,q4,hm⟩:=Aa hm;refine gc (fun _=>IX q4) (by kernel_rfl) ?_;obtain⟨x5,q5,hm⟩:=Aa hm;refine gc (fun _=>Jo q5) (by kernel_rfl) ?_;obtain⟨x6,q6,hm⟩:=Aa hm;refine gc (fun _=>PU q6) (by kernel_rfl) ?_;obtain⟨x7,q7,hm⟩:=Aa hm;refine gc (fun _=>PV q7) (by kernel_rfl) ?_;have e0:=Option.some.inj hm;subst e0;exact Au hd (by kernel_rfl)
def GP (a0:g_api_Cert)(a1:ByteArray):Option g_api_Cert:=Ac (GL a0) fun x1=>Ac (app 1 ([]:List UInt8) a1.data.toList) fun x2=>Ac (Hi x2) fun x3=>Ac (KJ x3 x1.1) fun x4=>some (⟨a0.Serial,a0.Issuer,a0.Subject,a0.Key,a0.Names,a0.From,a0.Until,a0.Ca,a0.Depth,a0.Permit,a0.Proms,x4.1⟩:g_api_Cert)
theorem Kq {a0:g_api_Cert}{a1:ByteArray}{r:g_api_Cert}(hm:GP a0 a1=some r):Sf prog 48 [ag (Ae a0),.d (.s a1)] (ag (Ae r)):=
 sp call48 func48 rfl ntmps48 rfl fun D0 As η0 m0 hd=>by
  unfold GP at hm;obtain⟨x1,q1,hm⟩:=Aa hm;refine gco (NA q1) (by kernel_rfl) ?_;obtain⟨x2,q2,hm⟩:=Aa hm;refine gofS q2 (by kernel_rfl) ?_;obtain⟨x3,q3,hm⟩:=Aa hm;refine gco (KZ q3) (by kernel_rfl) ?_;obtain⟨x4,q4,hm⟩:=Aa hm;refine gco (Sw q4) (by kernel_rfl) ?_;have e0:=Option.some.inj hm;subst e0;exact Au hd (by kernel_rfl)
def Iq (a0:ByteArray)(a1:List ByteArray)(a2:Int)(a3:Int):Option g_api_Cert:=Ac (AaJ (⟨#[109]⟩:ByteArray) a0) fun x1=>Ac (HU x1) fun x2=>Ac (AaJ (⟨#[114]⟩:ByteArray) a0) fun x3=>Ac (GP (⟨2,(⟨#[114]⟩:ByteArray),(⟨#[109]⟩:ByteArray),x2,[],a2,a3,true,0,a1,[],(⟨0,0⟩:g_api_Sig)⟩:g_api_Cert) x3) fun x4=>some x4
theorem Oy {a0:ByteArray}{a1:List ByteArray}{a2:Int}{a3:Int}{r:g_api_Cert}(hm:Iq a0 a1 a2 a3=some r):Sf prog 21 [.d (.s a0),sl eS a1,.d (.i a2),.d (.i a3)] (ag (Ae r)):=
 sp call21 func21 rfl ntmps21 rfl fun D0 As η0 m0 hd=>by
  unfold Iq at hm;obtain⟨x1,q1,hm⟩:=Aa hm;refine gcat (fun _=>q1) (by kernel_rfl) ?_;obtain⟨x2,q2,hm⟩:=Aa hm;refine gc (fun _=>KA q2) (by kernel_rfl) ?_;obtain⟨x3,q3,hm⟩:=Aa hm;refine gcat (fun _=>q3) (by kernel_rfl) ?_;obtain⟨x4,q4,hm⟩:=Aa hm;refine gc (fun _=>Kq q4) (by kernel_rfl) ?_;have e0:=Option.some.inj hm;subst e0;exact Au hd (by kernel_rfl)
def JW (a0:ByteArray)(a1:ByteArray)(a2:Int)(a3:Int):Option g_api_Cert:=Ac (AaJ (⟨#[108]⟩:ByteArray) a0) fun x1=>Ac (HU x1) fun x2=>Ac (AaJ (⟨#[109]⟩:ByteArray) a0) fun x3=>Ac (GP (⟨3,(⟨#[109]⟩:ByteArray),ByteArray.empty,x2,([a1]:List ByteArray),a2,a3,false,0,[],[],(⟨0,0⟩:g_api_Sig)⟩:g_api_Cert) x3) fun x4=>some x4
theorem Rj {a0:ByteArray}{a1:ByteArray}{a2:Int}{a3:Int}{r:g_api_Cert}(hm:JW a0 a1 a2 a3=some r):Sf prog 22 [.d (.s a0),.d (.s a1),.d (.i a2),.d (.i a3)] (ag (Ae r)):=
 sp call22 func22 rfl ntmps22 rfl fun D0 As η0 m0 hd=>by
  unfold JW at hm;obtain⟨x1,q1,hm⟩:=Aa hm;refine gcat (fun _=>q1) (by kernel_rfl) ?_;obtain⟨x2,q2,hm⟩:=Aa hm;refine gc (fun _=>KA q2) (by kernel_rfl) ?_;refine EC (k:=1) eS ([a1]:List ByteArray) (fun _=>rfl) (by kernel_rfl) ?_;obtain⟨x3,q3,hm⟩:=Aa hm;refine gcat (fun _=>q3) (by kernel_rfl) ?_;obtain⟨x4,q4,hm⟩:=Aa hm;refine gc (fun _=>Kq q4) (by kernel_rfl) ?_;have e0:=Option.some.inj hm;subst e0;exact Au hd (by kernel_rfl)
abbrev OC:=Option g_api_Cert
def oD:OC→List D
 |some c=>Ae c
 |none=> []
def eOC (o:OC):List D:=[.op o.isSome (oD o)]
instance:GoT OC:=MP eOC 1
theorem b_OC:Br OC eOC:=⟨fun h=>h.1,fun h=>⟨h,rfl⟩,fun _=>rfl⟩
def D7 (a0:List OC):Option (List OC):=Ac (app 8 ([]:List OC) a0) fun x1=>some x1
theorem KY {m:Mem}{As:List Ow}{w:World}{a0:List OC}{a0v0:Value}{r:List OC}(S:St m (As) w)(a0h0:SlR m a0v0 a0)(hm:D7 a0=some r):
  Aw Tryz.prog 89 #[a0v0] w fun v w'=> ∃(M:Mem),m≤M∧∃(rv0:Value) (rc0:List Value),St M ((row 1 rv0 rc0 r.length)::As) w'∧v=rv0∧Bw M rc0 r:=by
 unfold D7 at hm;have L0:=Mem.rfl' m;refine CP (args:=[a0v0]) Tryz.func89 rfl Tryz.ntmps89 (Nat.le_of_ble_eq_true rfl) ?_;refine Ag ?_;refine Ad ?_;refine AP (v:= .slice none 0 0) rfl ?_;refine Ah ?_;refine nrm ?_;refine Ag ?_;refine Ag ?_;refine Ad ?_;refine Ap (v:=a0v0) rfl ?_;refine MV rfl rfl a0h0 Tryz.underlying69 ?_;refine Ah ?_;refine nrm ?_;refine Cq (t:=(Lx a0v0)) rfl (fun hc1=> ?_) (fun hc1=> ?_)
 ·have he1:a0=[]:=SlR.nilOf a0h0 hc1;rw[he1]at hm;replace hm:(some ([]:List OC))=some _:=hm;refine Ag ?_;refine Ad ?_;refine AP (v:= .slice none 0 0) rfl ?_;refine Ah ?_;refine nrm ?_;refine Be ?_;refine thR ?_;refine D3 ?_;intro we hpd;replace S:=St.pd S hpd;have S1:=St.rowNil S 1;have h1:Bw m [] ([]:List OC):=Bw.nil;replace S1:St _ ((row 1 (.slice none 0 0) [] ([]:List OC).length)::As) _:=S1;clear S;have e0:=Option.some.inj hm;subst e0;exact It [_] rfl ⟨rfl,trivial⟩ ⟨_,L0,_,_,S1,rfl,h1⟩
 refine AQ ?_;refine nrm ?_;refine Ag ?_;refine Ad ?_;refine JK (parts:=[]) (vs:=[]) (cls:=[]) (n:=0) (sz:=1) S Tryz.underlying69 Tryz.sizeOf70 Tryz.zeroValue70 rfl trivial rfl rfl (by decide) (by decide) ?_;intro v1 w1 S2;have h2:Bw m [] ([]:List OC):=Bw.nil;replace S2:St _ ((row 1 v1 [] ([]:List OC).length)::As) _:=S2;clear S;refine Ap (v:=a0v0) rfl ?_;obtain⟨x1,q1,hm⟩:=Aa hm;refine SZ (i:=0) (zs:=x1) (bytes:=8) (ti:=Tryz.t70) S2 rfl rfl h2 rfl rfl a0h0 q1 Tryz.underlying69 Tryz.type70 rfl rfl rfl rfl ?_;intro v2 c1 w2 S3 h3;replace S3:St _ ((row 1 v2 c1 x1.length)::As) _:=S3;clear S2;refine AP (v:=v2) rfl ?_;refine Ah ?_;refine nrm ?_;refine Be ?_;refine D3 ?_;intro we hpd;replace S3:=St.pd S3 hpd;have e0:=Option.some.inj hm;subst e0;exact It [_] rfl ⟨rfl,trivial⟩ ⟨_,L0,_,_,S3,rfl,h3⟩
theorem Ld {a0:List OC}{r:List OC}(hm:D7 a0=some r):Sp prog 89 [sl eOC a0] [] 0 (is (.ow 0) [.row 0 1 _ eOC r] 1):=
 ⟨call89,fun η m As w vs hv0 hd S=>by
  have S:St m As w:=S;obtain⟨v0,u0,rfl,r0,hv1⟩:=Bg.cons_inv hv0;have f0:=Br.ofS b_OC r0.dd;obtain rfl:=Bg.nil_inv hv1;refine Aw.mono (KY S f0 hm) ?_;rintro v w' ⟨M,hle,y0,c0,S0,rfl,h0⟩;exact⟨M,(Aaz [v]),_,_,_,hle,TH hd _,⟨rfl,rfl,rfl⟩,Jk rfl,(.ow rfl (DZ S0)),(St.impL S0 (Aa9 (Br.toR b_OC rfl rfl (DZ S0) h0) fun _ h=>h))⟩⟩
theorem w_clip {xs:List g_api_Cert}:Sf prog 90 [sl Ae xs] (.d (.kp _ Ae xs)):=
 sp call90 func90 rfl ntmps90 rfl fun D0 As η0 m0 hd=>by
  refine gclip (k:=13) (E:=Ae) (xs:=xs) (fun _=>rfl) (by kernel_rfl) ?_;exact Au hd (by kernel_rfl)
theorem ZR {pool:List OC}{chain:List g_api_Cert}:Sf prog 49 [sl eOC pool,sl Ae chain] (.fn (.func 88) [] [.d (.pf [.sl _ Ae chain]),.d (.pf [.sl _ eOC pool])]):=
 sp call49 func49 rfl ntmps49 rfl fun D0 As η0 m0 hd=>by
  refine TC 2 [.sl _ eOC pool] (by kernel_rfl) ?_;refine TC 3 [.sl _ Ae chain] (by kernel_rfl) ?_;exact Au hd (by kernel_rfl)
def wp {σ:Type}(y:σ→List g_api_Cert→Option (Bool×σ))(s:σ)(x:List g_api_Cert):Option (σ⊕σ):=Ac (y s x) fun r=>if(!r.1)=true then some (.inr r.2)else some (.inl r.2)
def IH {σ:Type}(rec:((σ⊕σ)→List g_api_Cert→Option (Bool×(σ⊕σ)))→List OC→List g_api_Cert→(σ⊕σ)→Option (σ⊕σ))(y:σ→List g_api_Cert→Option (Bool×σ))(pool:List OC)(chain:List g_api_Cert)(i:Int)(c:OC)(s:σ):Option (σ⊕σ):=match c with|none=>some (.inl s)|some d=>Ac (idx chain (w64 ((chain.length:Int)-1))) fun last=>Ac (CR last d) fun k=>if(k !=0)=true then some (.inl s)else Ac (D7 pool) fun rest=>Ac (idx rest i) fun _=>Ac (app 168 chain [d]) fun ch=>rec (Va (wp y)) (rest.set i.toNat none) ch (.inl s)
def JQ:Nat→(σ:Type)→(σ→List g_api_Cert→Option (Bool×σ))→List OC→List g_api_Cert→σ→Option σ
 |0,_,_,_,_,_=>none
 |n+1,σ,y,pool,chain,s=>
  Ac (y s chain) fun r=>
  if((!r.1)||((chain.length:Int)==4))=true then some r.2 else
  Ac (Fw (IH (JQ n (σ⊕σ)) y pool chain) pool 0 r.2) fun x=>match x with
  | .inr r=>some r
  | .inl r=>some r
theorem YY {σ τ α:Type}{F:Int→α→σ→Option (σ⊕τ)}{xs:List α}{i:Nat}{s s0:σ}{x1:σ⊕τ}(hlt:i<xs.length)(hn:xs.length≤9223372036854775807)(q:Fw F (xs.drop (i+1)) ((i:Int)+1) s=some x1):
  (fun p:Int×σ=>(∃j:Nat,p.1=(j:Int)∧j≤xs.length∧Fw F (xs.drop j) (j:Int) p.2=some x1)∧xs.length-p.1.toNat<xs.length-((i:Int),s0).1.toNat) (w64 ((i:Int)+1),s):=
 ⟨⟨i+1,Bf hlt hn,hlt,q⟩,H8 hlt hn⟩
theorem VK: ∀(n:Nat) {σ:Type} {y:σ→List g_api_Cert→Option (Bool×σ)} {pool:List OC} {chain:List g_api_Cert} {s r:σ},JQ n σ y pool chain s=some r→
  ∀(g:Value) (R:σ→Mem→Ow),Acz prog g (fun x=> [sl Ae x]) R y→
  Sp prog 88 [.ow 0,.d (.pf [.sl _ Ae chain]),.d (.pf [.sl _ eOC pool])] [.hp 0 (.cb g σ R s)] 1 (is (.tup []) [.hp 0 (.cb g σ R r)] 1)
 |0,_,_,_,_,_,_,hm=>by cases hm
 |n+1,σ,y,pool,chain,s,r,hm=>fun g R hcb=>spR call88 func88 rfl ntmps88 rfl fun D0 As η0 m0 hD hd=>by
  unfold JQ at hm;obtain⟨r1,q1,hm⟩:=Aa hm;refine gcb chain hcb q1 (by kernel_rfl) ?_;refine gi hm (by kernel_rfl) (fun hc1 hm=> ?_) fun hc1 hm=> ?_
  ·have e0:=Option.some.inj hm;subst e0;exact Au hd (by kernel_rfl)
  obtain⟨x1,q2,hm⟩:=Aa hm;refine Pb 0 (E:=eOC) (xs:=pool) 17 (by kernel_rfl) fun hle1=> ?_;refine gjU 0 (fun(y1:σ)=>⟨[(0,.ow 0)],[(0,.hp 0 (.cb g σ R y1))],[],1⟩) (fun y1=>x1= .inl y1) (by kernel_rfl) (fun Jp bk1=> ?_) fun y1 hy=> ?_
  ·refine gl hd (fun(p:Int×σ)=>⟨[(0,.ow 0),(1,.d (.pf [.sl _ Ae chain])),(2,.d (.pf [.sl _ eOC pool])),(3,.pb 1 0),(17,sl eOC pool),(18,.d (.i (pool.length:Int))),(19,.d (.i p.1))],[(0,.hp 0 (.cb g σ R p.2)),(1,.box 1 [.ow 0] 104)],[],2⟩)
    (fun p=> ∃i:Nat,p.1=(i:Int)∧i≤pool.length∧Fw (IH (JQ n (σ⊕σ)) y pool chain) (pool.drop i) (i:Int) p.2=some x1) (fun p=>pool.length-p.1.toNat) ((0:Int),r1.2) ⟨0,rfl,Nat.zero_le _,q2⟩ (by kernel_rfl) ?_
   rintro⟨_,s1⟩ ⟨i1,rfl,hi,q3⟩ Jl bl1;refine gi' (b:=decide ((i1:Int)<(pool.length:Int))) (by kernel_rfl) (fun hc2=> ?_) fun hc2=> ?_
   ·have hlt1:i1<pool.length:=by have:=of_decide_eq_true hc2; omega
    obtain⟨x2,y2,q5,q4,q6⟩:=Il q3 hlt1;unfold IH at q4;refine Hc (k:=1) (E:=eOC) (fun _=>rfl) (fun _=>q5) (by kernel_rfl) ?_;cases x2 with
    |none=>
     have e0:=Option.some.inj q4;refine geqN (p:=false) (ds:=[]) (by kernel_rfl) ?_;refine Kk (c:=false) (k:=13) (E:=Ae) (xs:=chain) (j:=w64 ((chain.length:Int)-1)) (x:=default) (fun _=>rfl) (fun h=>by cases h) (by kernel_rfl) ?_;refine gnckG (c:=false) (p:=false) (ds:=[]) (ds':=Ae default) (fun h=>by cases h) (by kernel_rfl) ?_;refine gcG (c:=false) (k:=13) (ea:=[ag (Ae default),ag (Ae default)]) (r:= .d (.i 0)) (fun h=>by cases h) (by kernel_rfl) ?_;refine gi' (b:=true) (by kernel_rfl) (fun _=> ?_) (fun h=>by cases h);subst e0;rcases q6 with ⟨sn,e,q6'⟩|⟨tn,e,_⟩
     ·have e:=Sum.inl.inj e;subst e;exact gb bl1 hd (w64 ((i1:Int)+1),s1) (YY (F:=IH (JQ n (σ⊕σ)) y pool chain) hlt1 hle1 q6') (by kernel_rfl)
     cases AN e
    |some d=>
     obtain⟨last,q7,q4⟩:=Aa q4;obtain⟨k,q8,q4⟩:=Aa q4;refine geqN (p:=true) (ds:=Ae d) (by kernel_rfl) ?_;refine Kk (c:=true) (k:=13) (E:=Ae) (x:=last) (fun _=>rfl) (fun _=>q7) (by kernel_rfl) ?_;refine gnckG (c:=true) (p:=true) (ds:=Ae d) (ds':=Ae d) (fun _=>⟨rfl,rfl⟩) (by kernel_rfl) ?_;refine gcG (c:=true) (fun _=>E8 q8) (by kernel_rfl) ?_;refine gi q4 (by kernel_rfl) (fun hc3 q4=> ?_) fun hc3 q4=> ?_
     ·have e0:=Option.some.inj q4;subst e0;rcases q6 with ⟨sn,e,q6'⟩|⟨tn,e,_⟩
      ·have e:=Sum.inl.inj e;subst e;exact gb bl1 hd (w64 ((i1:Int)+1),s1) (YY (F:=IH (JQ n (σ⊕σ)) y pool chain) hlt1 hle1 q6') (by kernel_rfl)
      cases AN e
     obtain⟨x3,q9,q4⟩:=Aa q4;refine gco (Ld q9) (by kernel_rfl) ?_;obtain⟨z3,q10,q4⟩:=Aa q4;refine TB (E:=eOC) (fun _=>q10) (by kernel_rfl) ?_;refine gstOc (k:=1) (E:=eOC) none (fun _=>rfl) q10 (by kernel_rfl) ?_;obtain⟨ch,q11,q4⟩:=Aa q4;refine gc (fun _=>w_clip (xs:=chain)) (by kernel_rfl) ?_;refine gnck (p:=true) (ds:=Ae d) (ds':=Ae d) (fun _=>⟨rfl,rfl⟩) (by kernel_rfl) ?_;refine EC (k:=13) Ae ([d]:List g_api_Cert) (fun _=>rfl) (by kernel_rfl) ?_;refine KS (k:=13) (E:=Ae) (fun _=>rfl) q11 (by kernel_rfl) ?_;refine gco (ZR (pool:=x3.set ((i1:Int)).toNat none) (chain:=ch)) (by kernel_rfl) ?_;refine Aat hD (n0:=1) 2 2 (gt:=52) (ps:=[53]) [(0,.ow 0),(1,.d (.pf [.sl _ Ae chain])),(2,.d (.pf [.sl _ eOC pool])),(3,.pb 1 0),(17,sl eOC pool),(18,.d (.i (pool.length:Int))),(19,.d (.i (i1:Int))),(52,.fn (.func 88) [] [.d (.pf [.sl _ Ae ch]),.d (.pf [.sl _ eOC (x3.set ((i1:Int)).toNat none)])])]
      (fun s:σ=> [(0,.hp 0 (.cb g σ R s)),(1,.box 1 [.ow 0] 104)]) (fun s:σ=> [(0,.hp 0 (.cb g σ R s)),(1,.box 1 [.ow 0] 104)]) (fun x=> [sl Ae x])
      (fun(s:σ) (x:List g_api_Cert)=>⟨[(7,sl Ae x),(0,.ow 0),(1,.d (.pf [.sl _ Ae chain])),(2,.d (.pf [.sl _ eOC pool])),(3,.pb 1 0),(17,sl eOC pool),(18,.d (.i (pool.length:Int))),(19,.d (.i (i1:Int))),(52,.fn (.func 88) [] [.d (.pf [.sl _ Ae ch]),.d (.pf [.sl _ eOC (x3.set ((i1:Int)).toNat none)])])],[(0,.hp 0 (.cb g σ R s)),(1,.box 1 [.ow 0] 104)],[],2⟩)
      (wp y) s1 hd (fun g' R' h'=>VK n q4 g' R' h') (by kernel_rfl) rfl (by kernel_rfl) (fun _=>rfl) (fun _=>rfl) (fun _=>rfl) ?_ ?_ ?_ ?_
     ·intro x a s' hp l D1 As1 η1 m1 hd1 Ja ba;exact gb ba hd1 () trivial (by kernel_rfl)
     ·intro x a s' hp l D1 As1 η1 m1 hd1 Jb bb Jr br;unfold wp at hp;obtain⟨u,qy,hp⟩:=Aa hp;refine gcb a hcb qy (by kernel_rfl) ?_;refine gi hp (by kernel_rfl) (fun hc4 hp=> ?_) fun hc4 hp=> ?_
      ·exact gretB br hd1 u.2 (Option.some.inj hp).symm (by kernel_rfl)
      exact gb bb hd1 u.2 (Option.some.inj hp).symm (by kernel_rfl)
     ·intro x hx;subst hx;rcases q6 with ⟨sn,e,q6'⟩|⟨tn,e,_⟩
      ·have e:=Sum.inl.inj e;subst e;exact gb bl1 hd (w64 ((i1:Int)+1),_) (YY (F:=IH (JQ n (σ⊕σ)) y pool chain) hlt1 hle1 q6') (by kernel_rfl)
      cases AN e
     intro x hx;subst hx;rcases q6 with ⟨sn,e,_⟩|⟨tn,e,e2⟩
     ·cases e
     cases e;cases e2;dsimp only at hm;have e0:=Option.some.inj hm;subst e0;exact Au hd (by kernel_rfl)
   have hlt1: ¬i1<pool.length:=by have:=of_decide_eq_false hc2; omega
   have e:=G4 q3 hlt1;cases e;exact gb bk1 hd _ rfl (by kernel_rfl)
  subst hy;dsimp only at hm;have e0:=Option.some.inj hm;subst e0;exact Au hd (by kernel_rfl)
def Ls (i:Int)(c:g_api_Cert)(all:List OC):Option (List OC⊕Unit):=Ac (app 8 all ([some c]:List OC)) fun a=>some (.inl a)
def NZ (roots:List g_api_Cert)(name:ByteArray)(now:Int)(out:List (List g_api_Cert))(x:List g_api_Cert):Option (List (List g_api_Cert)⊕Unit):=Ac (CL roots x name now) fun k=>if(k==0)=true then Ac (AY x) fun y=>Ac (app 24 out ([y]:List (List g_api_Cert))) fun o=>some (.inl o)else some (.inl out)
def JU (a0 a1:List g_api_Cert)(a2:g_api_Cert)(a3:ByteArray)(a4:Int):Option (List (List g_api_Cert)):=
 if(decide ((a1.length:Int)>8))=true then some []else
 Ac (Fw Ls a1 0 ([]:List OC)) fun x1=>match x1 with
 | .inr _=>none
 | .inl all=>
  Ac (JQ 8 (List (List g_api_Cert)⊕Unit) (Va (NZ a0 a3 a4)) all [a2] (.inl [])) fun r=>match r with
  | .inl out=>some out
  | .inr _=>none
theorem Rf {a0 a1:List g_api_Cert}{a2:g_api_Cert}{a3:ByteArray}{a4:Int}{r:List (List g_api_Cert)}(hm:JU a0 a1 a2 a3 a4=some r):
  Sp prog 23 [sl Ae a0,sl Ae a1,ag (Ae a2),.d (.s a3),.d (.i a4)] [] 0 (is (.ow 0) [.row 0 1 _ (eL Ae) r] 1):=
 spR call23 func23 rfl ntmps23 rfl fun D0 As η0 m0 hD hd=>by
  unfold JU at hm;refine TC 5 [.sl _ Ae a0] (by kernel_rfl) ?_;refine TC 7 (Ae a2) (by kernel_rfl) ?_;refine TC 8 [.s a3] (by kernel_rfl) ?_;refine TC 9 [.i a4] (by kernel_rfl) ?_;refine gi hm (by kernel_rfl) (fun hc1 hm=> ?_) fun hc1 hm=> ?_
  ·have e0:=Option.some.inj hm;subst e0;refine Ab3 (eL Ae) 10 1 (by kernel_rfl) ?_;exact Au hd (by kernel_rfl)
  obtain⟨x1,q2,hm⟩:=Aa hm;refine Pb 0 (E:=Ae) (xs:=a1) 18 (by kernel_rfl) fun hle1=> ?_;refine Vr 0 eOC 12 1 (by kernel_rfl) ?_;refine Xt 0 (eL Ae) 11 0 1 (by kernel_rfl) ?_;refine gjU 0 (fun(y1:List OC)=>⟨[(5,.d (.pf [.sl _ Ae a0])),(7,.d (.pf (Ae a2))),(8,.d (.pf [.s a3])),(9,.d (.pf [.i a4])),(11,.pb 0 0),(12,.ow 2)],[(0,.box 0 [.ow 1] 43),(1,.row 1 1 _ (eL Ae) []),(2,.row 2 1 _ eOC y1)],[],3⟩) (fun y1=>x1= .inl y1) (by kernel_rfl) (fun Jp bk1=> ?_) fun y1 hy=> ?_
  ·refine gl hd (fun(p:Int×List OC)=>⟨[(1,sl Ae a1),(5,.d (.pf [.sl _ Ae a0])),(7,.d (.pf (Ae a2))),(8,.d (.pf [.s a3])),(9,.d (.pf [.i a4])),(11,.pb 0 0),(12,.ow 2),(19,.d (.i (a1.length:Int))),(20,.d (.i p.1))],[(0,.box 0 [.ow 1] 43),(1,.row 1 1 _ (eL Ae) []),(2,.row 2 1 _ eOC p.2)],[],3⟩)
    (fun p=> ∃i:Nat,p.1=(i:Int)∧i≤a1.length∧Fw Ls (a1.drop i) (i:Int) p.2=some x1) (fun p=>a1.length-p.1.toNat) ((0:Int),[]) ⟨0,rfl,Nat.zero_le _,q2⟩ (by kernel_rfl) ?_
   rintro⟨_,s1⟩ ⟨i1,rfl,hi,q3⟩ Jl bl1;refine gi' (b:=decide ((i1:Int)<(a1.length:Int))) (by kernel_rfl) (fun hc2=> ?_) fun hc2=> ?_
   ·have hlt1:i1<a1.length:=by have:=of_decide_eq_true hc2; omega
    obtain⟨x2,y2,q5,q4,q6⟩:=Il q3 hlt1;unfold Ls at q4;refine Hc (k:=13) (E:=Ae) (fun _=>rfl) (fun _=>q5) (by kernel_rfl) ?_;refine glitFc (k:=1) eOC ([some x2]:List OC) (fun _=>rfl) (by kernel_rfl) ?_;obtain⟨x3,q7,q4⟩:=Aa q4;refine KS (k:=1) (E:=eOC) (fun _=>rfl) q7 (by kernel_rfl) ?_;have e0:=Option.some.inj q4;subst e0;rcases q6 with ⟨sn,e,q6'⟩|⟨tn,e,_⟩
    ·have e:=Sum.inl.inj e;subst e;exact gb bl1 hd (w64 ((i1:Int)+1),_) (YY (F:=Ls) hlt1 hle1 q6') (by kernel_rfl)
    cases AN e
   have hlt1: ¬i1<a1.length:=by have:=of_decide_eq_false hc2; omega
   have e:=G4 q3 hlt1;cases e;exact gb bk1 hd _ rfl (by kernel_rfl)
  subst hy;dsimp only at hm;obtain⟨x4,q8,hm⟩:=Aa hm;refine EC (k:=13) Ae ([a2]:List g_api_Cert) (fun _=>rfl) (by kernel_rfl) ?_;refine gco (ZR (pool:=y1) (chain:=[a2])) (by kernel_rfl) ?_;refine Aat hD (n0:=0) 1 2 (gt:=33) (ps:=[34]) [(5,.d (.pf [.sl _ Ae a0])),(8,.d (.pf [.s a3])),(9,.d (.pf [.i a4])),(11,.pb 0 0),(33,.fn (.func 88) [] [.d (.pf [.sl _ Ae [a2]]),.d (.pf [.sl _ eOC y1])])]
   (fun o:List (List g_api_Cert)=> [(0,.box 0 [.ow 1] 43),(1,.row 1 1 _ (eL Ae) o)]) (fun _:Unit=> []) (fun x=> [sl Ae x])
   (fun(o:List (List g_api_Cert)) (x:List g_api_Cert)=>⟨[(14,sl Ae x),(5,.d (.pf [.sl _ Ae a0])),(8,.d (.pf [.s a3])),(9,.d (.pf [.i a4])),(11,.pb 0 0),(33,.fn (.func 88) [] [.d (.pf [.sl _ Ae [a2]]),.d (.pf [.sl _ eOC y1])])],[(0,.box 0 [.ow 1] 43),(1,.row 1 1 _ (eL Ae) o)],[],2⟩)
   (NZ a0 a3 a4) [] hd (fun g' R' h'=>VK 8 q8 g' R' h') (by kernel_rfl) rfl (by kernel_rfl) (fun _=>rfl) (fun _=>rfl) (fun _=>rfl) ?_ ?_ ?_ ?_
  ·intro o x s' hp l D1 As1 η1 m1 hd1 Ja ba;exact gb ba hd1 () trivial (by kernel_rfl)
  ·intro o x s' hp l D1 As1 η1 m1 hd1 Jb bb Jr br;unfold NZ at hp;obtain⟨k,q9,hp⟩:=Aa hp;refine gc (fun _=>Dt q9) (by kernel_rfl) ?_;refine gi hp (by kernel_rfl) (fun hc3 hp=> ?_) fun hc3 hp=> ?_
   ·obtain⟨y,q10,hp⟩:=Aa hp;obtain⟨o',q11,hp⟩:=Aa hp;refine gco (Dj q10) (by kernel_rfl) ?_;refine Vs (k:=1) (eL Ae) ([y]:List (List g_api_Cert)) (fun _=>rfl) (by kernel_rfl) ?_;refine KS (k:=1) (E:=eL Ae) (fun _=>rfl) q11 (by kernel_rfl) ?_;exact gb bb hd1 o' (Option.some.inj hp).symm (by kernel_rfl)
   exact gb bb hd1 o (Option.some.inj hp).symm (by kernel_rfl)
  ·intro o hx;subst hx;have e0:=Option.some.inj hm;subst e0;exact Au hd (by kernel_rfl)
  intro y hx;subst hx;cases hm
def HL (a0:List ByteArray)(a1:List ByteArray)(s1:Int):Option ((Int)⊕((Unit)⊕Bool)):=if(decide (s1<(a0.length:Int)))=true then Ac (idx a0 s1) fun x3=>Ac (idx a1 s1) fun x4=>if(!eqS x3 x4)=true then some (.inr (.inr false))else some (.inl (w64 (s1+1)))else some (.inr (.inl ()))
def Ie (a0:List ByteArray)(a1:List ByteArray):Option Bool:=if((a0.length:Int) !=(a1.length:Int))=true then some false else Ac (iter (HL a0 a1) A0 0) fun x1=>match x1 with| .inr r=>some r| .inl y1=>some true
theorem Mn {a0:List ByteArray}{a1:List ByteArray}{r:Bool}(hm:Ie a0 a1=some r):Sf prog 91 [sl eS a0,sl eS a1] (.d (.t r)):=
 sp call91 func91 rfl ntmps91 rfl fun D0 As η0 m0 hd=>by
  unfold Ie at hm;refine gi hm (by kernel_rfl) (fun hc1 hm=> ?_) fun hc1 hm=> ?_
  ·skip;have e0:=Option.some.inj hm;subst e0;exact Au hd (by kernel_rfl)
  obtain⟨x1,q1,hm⟩:=Aa hm;refine gjU 0 (fun(y1:Unit)=>⟨[],[],[],0⟩) (fun y1=>x1= .inl y1) (by kernel_rfl) (fun Jp bk1=> ?_) fun y1 hy=> ?_
  ·refine gl hd (fun(p:Nat×(Int))=>let (p0,p_0):=p; ⟨[(0,sl eS a0),(1,sl eS a1),(5,.d (.i p_0))],[],[],0⟩) (fun p=>iter (HL a0 a1) p.1 p.2=some x1) (fun p=>p.1) (A0,0) q1 (by kernel_rfl) ?_;rintro⟨n1,s1⟩ q2 Jl bl1;cases n1 with
   |zero=>exact(Ar q2).elim
   |succ n1=>
    obtain⟨y2,q4,q3⟩:=Ao q2;unfold HL at q4;refine gi q4 (by kernel_rfl) (fun hc2 q4=> ?_) fun hc2 q4=> ?_
    ·skip;obtain⟨x3,q6,q4⟩:=Aa q4;refine Hc (k:=1) (E:=eS) (fun _=>rfl) (fun _=>q6) (by kernel_rfl) ?_;obtain⟨x4,q7,q4⟩:=Aa q4;refine Hc (k:=1) (E:=eS) (fun _=>rfl) (fun _=>q7) (by kernel_rfl) ?_;refine gi q4 (by kernel_rfl) (fun hc3 q4=> ?_) fun hc3 q4=> ?_
     ·skip;cases q4;rcases q3 with ⟨sn,e,_⟩|e
      ·cases e
      cases e;dsimp only at hm;have e0:=Option.some.inj hm;subst e0;exact Au hd (by kernel_rfl)
     have e0:=Option.some.inj q4;subst e0;rcases q3 with ⟨sn,e,q3'⟩|e
     ·have e:=Sum.inl.inj e;subst e;exact gb bl1 hd (n1,_) ⟨q3',Nat.lt_succ_self _⟩ (by kernel_rfl)
     cases AN e
    have e0:=Option.some.inj q4;subst e0;rcases q3 with ⟨sn,e,_⟩|e
    ·cases B2 e
    have e:=Sum.inr.inj e;subst e;exact gb bk1 hd () rfl (by kernel_rfl)
  subst hy;dsimp only at hm;have e0:=Option.some.inj hm;subst e0;exact Au hd (by kernel_rfl)
def HJ (a0:g_api_Cert)(a1:g_api_Cert)(s1:Int):Option ((Int)⊕((Unit)⊕Bool)):=if(decide (s1<(a0.Proms.length:Int)))=true then Ac (idx a0.Proms s1) fun x3=>Ac (idx a1.Proms s1) fun x4=>if(!Kw x3 x4)=true then some (.inr (.inr false))else some (.inl (w64 (s1+1)))else some (.inr (.inl ()))
def JR (a0:g_api_Cert)(a1:g_api_Cert):Option Bool:=if((((((((((a0.Serial !=a1.Serial)||(!eqS a0.Issuer a1.Issuer))||(!eqS a0.Subject a1.Subject))||((a0.Key.toNat:Int) !=(a1.Key.toNat:Int)))||(a0.From !=a1.From))||(a0.Until !=a1.Until))||(a0.Ca !=a1.Ca))||(a0.Depth !=a1.Depth))||(!Ke a0.Sig a1.Sig))||((a0.Proms.length:Int) !=(a1.Proms.length:Int)))=true then some false else Ac (iter (HJ a0 a1) A0 0) fun x1=>match x1 with| .inr r=>some r| .inl y1=>Ac (Ie a0.Names a1.Names) fun x5=>Ac (gu x5 (Ie a0.Permit a1.Permit)) fun x6=>some (x5&&x6)
theorem Q6 {a0:g_api_Cert}{a1:g_api_Cert}{r:Bool}(hm:JR a0 a1=some r):Sf prog 51 [ag (Ae a0),ag (Ae a1)] (.d (.t r)):=
 sp call51 func51 rfl ntmps51 rfl fun D0 As η0 m0 hd=>by
  unfold JR at hm;refine gi hm (by kernel_rfl) (fun hc1 hm=> ?_) fun hc1 hm=> ?_
  ·skip;have e0:=Option.some.inj hm;subst e0;exact Au hd (by kernel_rfl)
  obtain⟨x1,q1,hm⟩:=Aa hm;refine gjU 0 (fun(y1:Unit)=>⟨[(2,.pb 0 0),(3,.pb 1 0)],[(0,.box 1 [.d (.i a1.Serial),.d (.s a1.Issuer),.d (.s a1.Subject),.d (.u a1.Key),sl eS a1.Names,.d (.i a1.From),.d (.i a1.Until),.d (.t a1.Ca),.d (.i a1.Depth),sl eS a1.Permit,sl Ai a1.Proms,.d (.u a1.Sig.E),.d (.u a1.Sig.S)] 28),(1,.box 0 [.d (.i a0.Serial),.d (.s a0.Issuer),.d (.s a0.Subject),.d (.u a0.Key),sl eS a0.Names,.d (.i a0.From),.d (.i a0.Until),.d (.t a0.Ca),.d (.i a0.Depth),sl eS a0.Permit,sl Ai a0.Proms,.d (.u a0.Sig.E),.d (.u a0.Sig.S)] 28)],[],2⟩) (fun y1=>x1= .inl y1) (by kernel_rfl) (fun Jp bk1=> ?_) fun y1 hy=> ?_
  ·refine gl hd (fun(p:Nat×(Int))=>let (p0,p_0):=p; ⟨[(2,.pb 0 0),(3,.pb 1 0),(5,.d (.i p_0))],[(0,.box 1 [.d (.i a1.Serial),.d (.s a1.Issuer),.d (.s a1.Subject),.d (.u a1.Key),sl eS a1.Names,.d (.i a1.From),.d (.i a1.Until),.d (.t a1.Ca),.d (.i a1.Depth),sl eS a1.Permit,sl Ai a1.Proms,.d (.u a1.Sig.E),.d (.u a1.Sig.S)] 28),(1,.box 0 [.d (.i a0.Serial),.d (.s a0.Issuer),.d (.s a0.Subject),.d (.u a0.Key),sl eS a0.Names,.d (.i a0.From),.d (.i a0.Until),.d (.t a0.Ca),.d (.i a0.Depth),sl eS a0.Permit,sl Ai a0.Proms,.d (.u a0.Sig.E),.d (.u a0.Sig.S)] 28)],[],2⟩) (fun p=>iter (HJ a0 a1) p.1 p.2=some x1) (fun p=>p.1) (A0,0) q1 (by kernel_rfl) ?_;rintro⟨n1,s1⟩ q2 Jl bl1;cases n1 with
   |zero=>exact(Ar q2).elim
   |succ n1=>
    obtain⟨y2,q4,q3⟩:=Ao q2;unfold HJ at q4;refine gi q4 (by kernel_rfl) (fun hc2 q4=> ?_) fun hc2 q4=> ?_
    ·skip;obtain⟨x3,q6,q4⟩:=Aa q4;refine Hc (k:=6) (E:=Ai) (fun _=>rfl) (fun _=>q6) (by kernel_rfl) ?_;obtain⟨x4,q7,q4⟩:=Aa q4;refine Hc (k:=6) (E:=Ai) (fun _=>rfl) (fun _=>q7) (by kernel_rfl) ?_;refine gi q4 (by kernel_rfl) (fun hc3 q4=> ?_) fun hc3 q4=> ?_
     ·skip;cases q4;rcases q3 with ⟨sn,e,_⟩|e
      ·cases e
      cases e;dsimp only at hm;have e0:=Option.some.inj hm;subst e0;exact Au hd (by kernel_rfl)
     have e0:=Option.some.inj q4;subst e0;rcases q3 with ⟨sn,e,q3'⟩|e
     ·have e:=Sum.inl.inj e;subst e;exact gb bl1 hd (n1,_) ⟨q3',Nat.lt_succ_self _⟩ (by kernel_rfl)
     cases AN e
    have e0:=Option.some.inj q4;subst e0;rcases q3 with ⟨sn,e,_⟩|e
    ·cases B2 e
    have e:=Sum.inr.inj e;subst e;exact gb bk1 hd () rfl (by kernel_rfl)
  subst hy;dsimp only at hm;obtain⟨x5,q8,hm⟩:=Aa hm;refine gc (fun _=>Mn q8) (by kernel_rfl) ?_;obtain⟨x6,q9,hm⟩:=Aa hm;refine gcG (fun h=>Mn (DX h q9)) (by kernel_rfl) ?_;have e0:=Option.some.inj hm;subst e0;exact Au hd (by kernel_rfl)
def G9 (a0:List g_api_Cert)(a1:List g_api_Cert)(s1:Int):Option ((Int)⊕((Unit)⊕Bool)):=if(decide (s1<(a0.length:Int)))=true then Ac (idx a0 s1) fun x3=>Ac (idx a1 s1) fun x4=>Ac (JR x3 x4) fun x5=>if(!x5)=true then some (.inr (.inr false))else some (.inl (w64 (s1+1)))else some (.inr (.inl ()))
def I5 (a0:List g_api_Cert)(a1:List g_api_Cert):Option Bool:=if((a0.length:Int) !=(a1.length:Int))=true then some false else Ac (iter (G9 a0 a1) A0 0) fun x1=>match x1 with| .inr r=>some r| .inl y1=>some true
theorem Pv {a0:List g_api_Cert}{a1:List g_api_Cert}{r:Bool}(hm:I5 a0 a1=some r):Sf prog 24 [sl Ae a0,sl Ae a1] (.d (.t r)):=
 sp call24 func24 rfl ntmps24 rfl fun D0 As η0 m0 hd=>by
  unfold I5 at hm;refine gi hm (by kernel_rfl) (fun hc1 hm=> ?_) fun hc1 hm=> ?_
  ·skip;have e0:=Option.some.inj hm;subst e0;exact Au hd (by kernel_rfl)
  obtain⟨x1,q1,hm⟩:=Aa hm;refine gjU 0 (fun(y1:Unit)=>⟨[],[],[],0⟩) (fun y1=>x1= .inl y1) (by kernel_rfl) (fun Jp bk1=> ?_) fun y1 hy=> ?_
  ·refine gl hd (fun(p:Nat×(Int))=>let (p0,p_0):=p; ⟨[(0,sl Ae a0),(1,sl Ae a1),(5,.d (.i p_0))],[],[],0⟩) (fun p=>iter (G9 a0 a1) p.1 p.2=some x1) (fun p=>p.1) (A0,0) q1 (by kernel_rfl) ?_;rintro⟨n1,s1⟩ q2 Jl bl1;cases n1 with
   |zero=>exact(Ar q2).elim
   |succ n1=>
    obtain⟨y2,q4,q3⟩:=Ao q2;unfold G9 at q4;refine gi q4 (by kernel_rfl) (fun hc2 q4=> ?_) fun hc2 q4=> ?_
    ·skip;obtain⟨x3,q6,q4⟩:=Aa q4;refine Hc (k:=13) (E:=Ae) (fun _=>rfl) (fun _=>q6) (by kernel_rfl) ?_;obtain⟨x4,q7,q4⟩:=Aa q4;refine Hc (k:=13) (E:=Ae) (fun _=>rfl) (fun _=>q7) (by kernel_rfl) ?_;obtain⟨x5,q8,q4⟩:=Aa q4;refine gc (fun _=>Q6 q8) (by kernel_rfl) ?_;refine gi q4 (by kernel_rfl) (fun hc3 q4=> ?_) fun hc3 q4=> ?_
     ·skip;cases q4;rcases q3 with ⟨sn,e,_⟩|e
      ·cases e
      cases e;dsimp only at hm;have e0:=Option.some.inj hm;subst e0;exact Au hd (by kernel_rfl)
     have e0:=Option.some.inj q4;subst e0;rcases q3 with ⟨sn,e,q3'⟩|e
     ·have e:=Sum.inl.inj e;subst e;exact gb bl1 hd (n1,_) ⟨q3',Nat.lt_succ_self _⟩ (by kernel_rfl)
     cases AN e
    have e0:=Option.some.inj q4;subst e0;rcases q3 with ⟨sn,e,_⟩|e
    ·cases B2 e
    have e:=Sum.inr.inj e;subst e;exact gb bk1 hd () rfl (by kernel_rfl)
  subst hy;dsimp only at hm;have e0:=Option.some.inj hm;subst e0;exact Au hd (by kernel_rfl)
def Ih:Option Bool:=Ac (JV (⟨#[]⟩:ByteArray) 1 0 9) fun x1=>Ac (Iq (⟨#[]⟩:ByteArray) ([]:List ByteArray) 0 9) fun x2=>Ac (JW (⟨#[]⟩:ByteArray) (⟨#[97,46,98]⟩:ByteArray) 2 5) fun x3=>Ac (JU ([x1]:List g_api_Cert) ([x2]:List g_api_Cert) x3 (⟨#[97,46,98]⟩:ByteArray) 3) fun x4=>if((x4.length:Int) !=1)=true then some false else Ac (idx x4 0) fun x5=>Ac (I5 x5 ([x3,x2]:List g_api_Cert)) fun x6=>Ac (gu x6 (CR x3 x2)) fun x7=>Ac (gu (x6&&(x7==0)) (CR x2 x1)) fun x8=>Ac (gu ((x6&&(x7==0))&&(x8==0)) (CR x3 x1)) fun x9=>Ac (gu (((x6&&(x7==0))&&(x8==0))&&(x9==191)) (CL ([x1]:List g_api_Cert) ([x3,x2]:List g_api_Cert) (⟨#[97,46,98]⟩:ByteArray) 3)) fun x10=>Ac (gu ((((x6&&(x7==0))&&(x8==0))&&(x9==191))&&(x10==0)) (CL ([x1]:List g_api_Cert) ([x3,x2]:List g_api_Cert) (⟨#[97,46,98]⟩:ByteArray) 5)) fun x11=>Ac (gu (((((x6&&(x7==0))&&(x8==0))&&(x9==191))&&(x10==0))&&(x11==190)) (CL ([x1]:List g_api_Cert) ([x3,x2]:List g_api_Cert) (⟨#[98]⟩:ByteArray) 3)) fun x12=>Ac (gu ((((((x6&&(x7==0))&&(x8==0))&&(x9==191))&&(x10==0))&&(x11==190))&&(x12==110)) (cut ([x3,x2]:List g_api_Cert) 0 1)) fun x13=>Ac (gu ((((((x6&&(x7==0))&&(x8==0))&&(x9==191))&&(x10==0))&&(x11==190))&&(x12==110)) (CL ([x1]:List g_api_Cert) x13 (⟨#[97,46,98]⟩:ByteArray) 3)) fun x14=>Ac (gu (((((((x6&&(x7==0))&&(x8==0))&&(x9==191))&&(x10==0))&&(x11==190))&&(x12==110))&&(x14==191)) (CL ([]:List g_api_Cert) ([x3,x2]:List g_api_Cert) (⟨#[97,46,98]⟩:ByteArray) 3)) fun x15=>Ac (gu ((((((((x6&&(x7==0))&&(x8==0))&&(x9==191))&&(x10==0))&&(x11==190))&&(x12==110))&&(x14==191))&&(x15==191)) (CL ([x1]:List g_api_Cert) ([]:List g_api_Cert) (⟨#[97,46,98]⟩:ByteArray) 3)) fun x16=>Ac (gu (((((((((x6&&(x7==0))&&(x8==0))&&(x9==191))&&(x10==0))&&(x11==190))&&(x12==110))&&(x14==191))&&(x15==191))&&(x16==1)) (CL ([x1]:List g_api_Cert) ([x3,x2]:List g_api_Cert) (⟨#[]⟩:ByteArray) 3)) fun x17=>bnd (((((((((((x6&&(x7==0))&&(x8==0))&&(x9==191))&&(x10==0))&&(x11==190))&&(x12==110))&&(x14==191))&&(x15==191))&&(x16==1))&&(x17==110))) fun x18=>some x18
theorem Ri {r:Bool}(hm:Ih=some r):Sf prog 11 [] (.d (.t r)):=
 sp call11 func11 rfl ntmps11 rfl fun D0 As η0 m0 hd=>by
  unfold Ih at hm;obtain⟨x1,q1,hm⟩:=Aa hm;refine gc (fun _=>Rh q1) (by kernel_rfl) ?_;obtain⟨x2,q2,hm⟩:=Aa hm;refine gc (fun _=>Oy q2) (by kernel_rfl) ?_;obtain⟨x3,q3,hm⟩:=Aa hm;refine gc (fun _=>Rj q3) (by kernel_rfl) ?_;refine EC (k:=13) Ae ([x3,x2]:List g_api_Cert) (fun _=>rfl) (by kernel_rfl) ?_;refine EC (k:=13) Ae ([x1]:List g_api_Cert) (fun _=>rfl) (by kernel_rfl) ?_;refine EC (k:=13) Ae ([x2]:List g_api_Cert) (fun _=>rfl) (by kernel_rfl) ?_;obtain⟨x4,q4,hm⟩:=Aa hm;refine gco (Rf q4) (by kernel_rfl) ?_;refine gi hm (by kernel_rfl) (fun hc1 hm=> ?_) fun hc1 hm=> ?_
  ·skip;have e0:=Option.some.inj hm;subst e0;exact Au hd (by kernel_rfl)
  obtain⟨x5,q5,hm⟩:=Aa hm;refine TB (E:=(eL Ae)) (fun _=>q5) (by kernel_rfl) ?_;refine gldO (k:=1) (fo:=0) (nn:=1) (ag:=false) (E:=(eL Ae)) (fun _=>rfl) (fun _=>q5) (by kernel_rfl) ?_;obtain⟨x6,q6,hm⟩:=Aa hm;refine gc (fun _=>Pv q6) (by kernel_rfl) ?_;obtain⟨x7,q7,hm⟩:=Aa hm;refine gcG (fun h=>E8 (DX h q7)) (by kernel_rfl) ?_;obtain⟨x8,q8,hm⟩:=Aa hm;refine gcG (fun h=>E8 (DX h q8)) (by kernel_rfl) ?_;obtain⟨x9,q9,hm⟩:=Aa hm;refine gcG (fun h=>E8 (DX h q9)) (by kernel_rfl) ?_;obtain⟨x10,q10,hm⟩:=Aa hm;refine gcG (fun h=>Dt (DX h q10)) (by kernel_rfl) ?_;obtain⟨x11,q11,hm⟩:=Aa hm;refine gcG (fun h=>Dt (DX h q11)) (by kernel_rfl) ?_;obtain⟨x12,q12,hm⟩:=Aa hm;refine gcG (fun h=>Dt (DX h q12)) (by kernel_rfl) ?_;obtain⟨x13,q13,hm⟩:=Aa hm;refine gcutG (k:=13) (E:=Ae) (fun _=>rfl) (fun h=>DX h q13) (by kernel_rfl) ?_;obtain⟨x14,q14,hm⟩:=Aa hm;refine gcG (fun h=>Dt (DX h q14)) (by kernel_rfl) ?_;obtain⟨x15,q15,hm⟩:=Aa hm;refine gcG (fun h=>Dt (DX h q15)) (by kernel_rfl) ?_;obtain⟨x16,q16,hm⟩:=Aa hm;refine gcG (fun h=>Dt (DX h q16)) (by kernel_rfl) ?_;obtain⟨x17,q17,hm⟩:=Aa hm;refine gcG (fun h=>Dt (DX h q17)) (by kernel_rfl) ?_;have hm:=AE hm;let x18:Bool:=(((((((((((x6&&(x7==0))&&(x8==0))&&(x9==191))&&(x10==0))&&(x11==190))&&(x12==110))&&(x14==191))&&(x15==191))&&(x16==1))&&(x17==110)));have e0:=Option.some.inj hm;subst e0;exact Au hd (by kernel_rfl)
def Bm (a0:List ByteArray)(s1:Int):Option ((Int)⊕((Unit)⊕Bool)):=if((decide (s1<(a0.length:Int)))&&(decide (s1<20)))=true then Ac (idx a0 s1) fun x3=>if(decide ((x3.size:Int)>200))=true then some (.inr (.inr false))else some (.inl (w64 (s1+1)))else some (.inr (.inl ()))
def CJ (a0:List ByteArray):Option Bool:=Ac (iter (Bm a0) A0 0) fun x1=>match x1 with| .inr r=>some r| .inl y1=>bnd ((decide ((a0.length:Int)≤16))) fun x4=>some x4
theorem Ko {a0:List ByteArray}{r:Bool}(hm:CJ a0=some r):Sf prog 102 [sl eS a0] (.d (.t r)):=
 sp call102 func102 rfl ntmps102 rfl fun D0 As η0 m0 hd=>by
  unfold CJ at hm;obtain⟨x1,q1,hm⟩:=Aa hm;refine gjU 0 (fun(y1:Unit)=>⟨[(0,sl eS a0)],[],[],0⟩) (fun y1=>x1= .inl y1) (by kernel_rfl) (fun Jp bk1=> ?_) fun y1 hy=> ?_
  ·refine gl hd (fun(p:Nat×(Int))=>let (p0,p_0):=p; ⟨[(0,sl eS a0),(3,.d (.i p_0))],[],[],0⟩) (fun p=>iter (Bm a0) p.1 p.2=some x1) (fun p=>p.1) (A0,0) q1 (by kernel_rfl) ?_;rintro⟨n1,s1⟩ q2 Jl bl1;cases n1 with
   |zero=>exact(Ar q2).elim
   |succ n1=>
    obtain⟨y2,q4,q3⟩:=Ao q2;unfold Bm at q4;refine gi q4 (by kernel_rfl) (fun hc1 q4=> ?_) fun hc1 q4=> ?_
    ·skip;obtain⟨x3,q6,q4⟩:=Aa q4;refine Hc (k:=1) (E:=eS) (fun _=>rfl) (fun _=>q6) (by kernel_rfl) ?_;refine gi q4 (by kernel_rfl) (fun hc2 q4=> ?_) fun hc2 q4=> ?_
     ·skip;cases q4;rcases q3 with ⟨sn,e,_⟩|e
      ·cases e
      cases e;dsimp only at hm;have e0:=Option.some.inj hm;subst e0;exact Au hd (by kernel_rfl)
     have e0:=Option.some.inj q4;subst e0;rcases q3 with ⟨sn,e,q3'⟩|e
     ·have e:=Sum.inl.inj e;subst e;exact gb bl1 hd (n1,_) ⟨q3',Nat.lt_succ_self _⟩ (by kernel_rfl)
     cases AN e
    have e0:=Option.some.inj q4;subst e0;rcases q3 with ⟨sn,e,_⟩|e
    ·cases B2 e
    have e:=Sum.inr.inj e;subst e;exact gb bk1 hd () rfl (by kernel_rfl)
  subst hy;dsimp only at hm;have hm:=AE hm;let x4:Bool:=((decide ((a0.length:Int)≤16)));have e0:=Option.some.inj hm;subst e0;exact Au hd (by kernel_rfl)
def Fc (a0:g_api_Cert):Option Bool:=Ac (gu ((decide ((a0.Issuer.size:Int)≤300))&&(decide ((a0.Subject.size:Int)≤300))) (CJ a0.Names)) fun x1=>Ac (gu (((decide ((a0.Issuer.size:Int)≤300))&&(decide ((a0.Subject.size:Int)≤300)))&&x1) (CJ a0.Permit)) fun x2=>bnd ((((((decide ((a0.Issuer.size:Int)≤300))&&(decide ((a0.Subject.size:Int)≤300)))&&x1)&&x2)&&(decide ((a0.Proms.length:Int)≤8)))) fun x3=>some x3
theorem Sy {a0:g_api_Cert}{r:Bool}(hm:Fc a0=some r):Sf prog 57 [ag (Ae a0)] (.d (.t r)):=
 sp call57 func57 rfl ntmps57 rfl fun D0 As η0 m0 hd=>by
  unfold Fc at hm;obtain⟨x1,q1,hm⟩:=Aa hm;refine gcG (fun h=>Ko (DX h q1)) (by kernel_rfl) ?_;obtain⟨x2,q2,hm⟩:=Aa hm;refine gcG (fun h=>Ko (DX h q2)) (by kernel_rfl) ?_;have hm:=AE hm;let x3:Bool:=((((((decide ((a0.Issuer.size:Int)≤300))&&(decide ((a0.Subject.size:Int)≤300)))&&x1)&&x2)&&(decide ((a0.Proms.length:Int)≤8))));have e0:=Option.some.inj hm;subst e0;exact Au hd (by kernel_rfl)
def BY (a0:List g_api_Cert)(a1:Int)(s1:Int):Option ((Int)⊕((Unit)⊕Bool)):=if((decide (s1<(a0.length:Int)))&&(decide (s1<a1)))=true then Ac (idx a0 s1) fun x3=>Ac (Fc x3) fun x4=>if(!x4)=true then some (.inr (.inr false))else some (.inl (w64 (s1+1)))else some (.inr (.inl ()))
def Ei (a0:List g_api_Cert)(a1:Int):Option Bool:=Ac (iter (BY a0 a1) A0 0) fun x1=>match x1 with| .inr r=>some r| .inl y1=>bnd ((decide ((a0.length:Int)≤a1))) fun x5=>some x5
theorem Nh {a0:List g_api_Cert}{a1:Int}{r:Bool}(hm:Ei a0 a1=some r):Sf prog 27 [sl Ae a0,.d (.i a1)] (.d (.t r)):=
 sp call27 func27 rfl ntmps27 rfl fun D0 As η0 m0 hd=>by
  unfold Ei at hm;obtain⟨x1,q1,hm⟩:=Aa hm;refine gjU 0 (fun(y1:Unit)=>⟨[(0,sl Ae a0),(1,.d (.i a1))],[],[],0⟩) (fun y1=>x1= .inl y1) (by kernel_rfl) (fun Jp bk1=> ?_) fun y1 hy=> ?_
  ·refine gl hd (fun(p:Nat×(Int))=>let (p0,p_0):=p; ⟨[(0,sl Ae a0),(1,.d (.i a1)),(5,.d (.i p_0))],[],[],0⟩) (fun p=>iter (BY a0 a1) p.1 p.2=some x1) (fun p=>p.1) (A0,0) q1 (by kernel_rfl) ?_;rintro⟨n1,s1⟩ q2 Jl bl1;cases n1 with
   |zero=>exact(Ar q2).elim
   |succ n1=>
    obtain⟨y2,q4,q3⟩:=Ao q2;unfold BY at q4;refine gi q4 (by kernel_rfl) (fun hc1 q4=> ?_) fun hc1 q4=> ?_
    ·skip;obtain⟨x3,q6,q4⟩:=Aa q4;refine Hc (k:=13) (E:=Ae) (fun _=>rfl) (fun _=>q6) (by kernel_rfl) ?_;obtain⟨x4,q7,q4⟩:=Aa q4;refine gc (fun _=>Sy q7) (by kernel_rfl) ?_;refine gi q4 (by kernel_rfl) (fun hc2 q4=> ?_) fun hc2 q4=> ?_
     ·skip;cases q4;rcases q3 with ⟨sn,e,_⟩|e
      ·cases e
      cases e;dsimp only at hm;have e0:=Option.some.inj hm;subst e0;exact Au hd (by kernel_rfl)
     have e0:=Option.some.inj q4;subst e0;rcases q3 with ⟨sn,e,q3'⟩|e
     ·have e:=Sum.inl.inj e;subst e;exact gb bl1 hd (n1,_) ⟨q3',Nat.lt_succ_self _⟩ (by kernel_rfl)
     cases AN e
    have e0:=Option.some.inj q4;subst e0;rcases q3 with ⟨sn,e,_⟩|e
    ·cases B2 e
    have e:=Sum.inr.inj e;subst e;exact gb bk1 hd () rfl (by kernel_rfl)
  subst hy;dsimp only at hm;have hm:=AE hm;let x5:Bool:=((decide ((a0.length:Int)≤a1)));have e0:=Option.some.inj hm;subst e0;exact Au hd (by kernel_rfl)
def HV (a0:List g_api_Cert)(a1:List g_api_Cert)(a2:ByteArray):Option Bool:=Ac (Ei a0 5) fun x1=>Ac (Ei a1 6) fun x2=>bnd (((x1&&x2)&&(decide ((a2.size:Int)≤200)))) fun x3=>some x3
theorem SG {a0:List g_api_Cert}{a1:List g_api_Cert}{a2:ByteArray}{r:Bool}(hm:HV a0 a1 a2=some r):Sf prog 12 [sl Ae a0,sl Ae a1,.d (.s a2)] (.d (.t r)):=
 sp call12 func12 rfl ntmps12 rfl fun D0 As η0 m0 hd=>by
  unfold HV at hm;obtain⟨x1,q1,hm⟩:=Aa hm;refine gc (fun _=>Nh q1) (by kernel_rfl) ?_;obtain⟨x2,q2,hm⟩:=Aa hm;refine gc (fun _=>Nh q2) (by kernel_rfl) ?_;have hm:=AE hm;let x3:Bool:=(((x1&&x2)&&(decide ((a2.size:Int)≤200))));have e0:=Option.some.inj hm;subst e0;exact Au hd (by kernel_rfl)
def Ej (a0:Int):Option Bool:=bnd (((decide (a0≥0))&&(decide (a0≤1099511627776)))) fun x1=>some x1
theorem Hx {a0:Int}{r:Bool}(hm:Ej a0=some r):Sf prog 113 [.d (.i a0)] (.d (.t r)):=
 sp call113 func113 rfl ntmps113 rfl fun D0 As η0 m0 hd=>by
  unfold Ej at hm;have hm:=AE hm;let x1:Bool:=(((decide (a0≥0))&&(decide (a0≤1099511627776))));have e0:=Option.some.inj hm;subst e0;exact Au hd (by kernel_rfl)
def BD (a0:ByteArray)(s1:Int):Option ((Int)⊕((Unit)⊕Bool)):=if(decide (s1<(a0.size:Int)))=true then Ac (idx a0.data.toList s1) fun x3=>Ac (gu (!(decide ((x3.toNat:Int)<33))) (idx a0.data.toList s1)) fun x4=>if((decide ((x3.toNat:Int)<33))||(decide ((x4.toNat:Int)>126)))=true then some (.inr (.inr false))else some (.inl (w64 (s1+1)))else some (.inr (.inl ()))
def Fp (a0:ByteArray):Option Bool:=Ac (iter (BD a0) A0 0) fun x1=>match x1 with| .inr r=>some r| .inl y1=>bnd (((decide ((a0.size:Int)≥1))&&(decide ((a0.size:Int)≤64)))) fun x5=>some x5
theorem Mm {a0:ByteArray}{r:Bool}(hm:Fp a0=some r):Sf prog 114 [.d (.s a0)] (.d (.t r)):=
 sp call114 func114 rfl ntmps114 rfl fun D0 As η0 m0 hd=>by
  unfold Fp at hm;obtain⟨x1,q1,hm⟩:=Aa hm;refine gjU 0 (fun(y1:Unit)=>⟨[(0,.d (.s a0))],[],[],0⟩) (fun y1=>x1= .inl y1) (by kernel_rfl) (fun Jp bk1=> ?_) fun y1 hy=> ?_
  ·refine gl hd (fun(p:Nat×(Int))=>let (p0,p_0):=p; ⟨[(0,.d (.s a0)),(3,.d (.i p_0))],[],[],0⟩) (fun p=>iter (BD a0) p.1 p.2=some x1) (fun p=>p.1) (A0,0) q1 (by kernel_rfl) ?_;rintro⟨n1,s1⟩ q2 Jl bl1;cases n1 with
   |zero=>exact(Ar q2).elim
   |succ n1=>
    obtain⟨y2,q4,q3⟩:=Ao q2;unfold BD at q4;refine gi q4 (by kernel_rfl) (fun hc1 q4=> ?_) fun hc1 q4=> ?_
    ·skip;obtain⟨x3,q6,q4⟩:=Aa q4;refine TA (fun _=>q6) (by kernel_rfl) ?_;obtain⟨x4,q7,q4⟩:=Aa q4;refine N6 (fun h=>DX h q7) (by kernel_rfl) ?_;refine gi q4 (by kernel_rfl) (fun hc2 q4=> ?_) fun hc2 q4=> ?_
     ·skip;cases q4;rcases q3 with ⟨sn,e,_⟩|e
      ·cases e
      cases e;dsimp only at hm;have e0:=Option.some.inj hm;subst e0;exact Au hd (by kernel_rfl)
     have e0:=Option.some.inj q4;subst e0;rcases q3 with ⟨sn,e,q3'⟩|e
     ·have e:=Sum.inl.inj e;subst e;exact gb bl1 hd (n1,_) ⟨q3',Nat.lt_succ_self _⟩ (by kernel_rfl)
     cases AN e
    have e0:=Option.some.inj q4;subst e0;rcases q3 with ⟨sn,e,_⟩|e
    ·cases B2 e
    have e:=Sum.inr.inj e;subst e;exact gb bk1 hd () rfl (by kernel_rfl)
  subst hy;dsimp only at hm;have hm:=AE hm;let x5:Bool:=(((decide ((a0.size:Int)≥1))&&(decide ((a0.size:Int)≤64))));have e0:=Option.some.inj hm;subst e0;exact Au hd (by kernel_rfl)
def DV (a0:g_api_Sig):Option Bool:=bnd (((decide ((a0.E.toNat:Int)<1152921504606845789))&&(decide ((a0.S.toNat:Int)<1152921504606845789)))) fun x1=>some x1
theorem Kp {a0:g_api_Sig}{r:Bool}(hm:DV a0=some r):Sf prog 115 [ag (H2 a0)] (.d (.t r)):=
 sp call115 func115 rfl ntmps115 rfl fun D0 As η0 m0 hd=>by
  unfold DV at hm;have hm:=AE hm;let x1:Bool:=(((decide ((a0.E.toNat:Int)<1152921504606845789))&&(decide ((a0.S.toNat:Int)<1152921504606845789))));have e0:=Option.some.inj hm;subst e0;exact Au hd (by kernel_rfl)
def Ek (a0:g_api_Promise):Option Bool:=Ac (Ej a0.Log) fun x1=>Ac (gu x1 (Ej a0.At)) fun x2=>Ac (gu (((x1&&x2)&&(decide ((a0.Leaf.1.toNat:Int)<2305843009213693951)))&&(decide ((a0.Leaf.2.toNat:Int)<2305843009213693951))) (DV a0.Sig)) fun x3=>bnd (((((x1&&x2)&&(decide ((a0.Leaf.1.toNat:Int)<2305843009213693951)))&&(decide ((a0.Leaf.2.toNat:Int)<2305843009213693951)))&&x3)) fun x4=>some x4
theorem Ni {a0:g_api_Promise}{r:Bool}(hm:Ek a0=some r):Sf prog 116 [ag (Ai a0)] (.d (.t r)):=
 sp call116 func116 rfl ntmps116 rfl fun D0 As η0 m0 hd=>by
  unfold Ek at hm;obtain⟨x1,q1,hm⟩:=Aa hm;refine gc (fun _=>Hx q1) (by kernel_rfl) ?_;obtain⟨x2,q2,hm⟩:=Aa hm;refine gcG (fun h=>Hx (DX h q2)) (by kernel_rfl) ?_;obtain⟨x3,q3,hm⟩:=Aa hm;refine gcG (fun h=>Kp (DX h q3)) (by kernel_rfl) ?_;have hm:=AE hm;let x4:Bool:=(((((x1&&x2)&&(decide ((a0.Leaf.1.toNat:Int)<2305843009213693951)))&&(decide ((a0.Leaf.2.toNat:Int)<2305843009213693951)))&&x3));have e0:=Option.some.inj hm;subst e0;exact Au hd (by kernel_rfl)
def Bd (a0:ByteArray)(s1:(List ByteArray)×Int×Int):Option (((List ByteArray)×Int×Int)⊕((List ByteArray)×Int)):=if(decide (s1.2.2<(a0.size:Int)))=true then Ac (Ac (idx a0.data.toList s1.2.2) fun x5=>if((x5.toNat:Int)==46)=true then Ac (Mh a0 s1.2.1 s1.2.2) fun x6=>Ac (app 16 s1.1 ([x6]:List ByteArray)) fun x7=>some (x7,(w64 (s1.2.2+1)))else some (s1.1,s1.2.1)) fun x4=>some (.inl (x4.1,x4.2,(w64 (s1.2.2+1))))else some (.inr (s1.1,s1.2.1))
def Gx (a0:ByteArray):Option (List ByteArray):=Ac (Ac (iter (Bd a0) A0 (([]:List ByteArray),0,0)) fun x2=>some (x2.1,x2.2)) fun x1=>Ac (Mh a0 x1.2 (a0.size:Int)) fun x8=>Ac (app 16 x1.1 ([x8]:List ByteArray)) fun x9=>some x9
theorem Nj {a0:ByteArray}{r:List ByteArray}(hm:Gx a0=some r):Sp prog 134 [.d (.s a0)] [] 0 (is (.ow 0) [.row 0 1 _ eS r] 1):=
 sp call134 func134 rfl ntmps134 rfl fun D0 As η0 m0 hd=>by
  unfold Gx at hm;obtain⟨x1,q1,hm⟩:=Aa hm;obtain⟨x2,q2,q1⟩:=Aa q1;refine Vr 0 eS 3 1 (by kernel_rfl) ?_;refine gjU 0 (fun(_:Unit)=>let (y_0,y_1):=x1; ⟨[(0,.d (.s a0)),(3,.ow 0),(4,.d (.i y_1))],[(0,.row 0 1 _ eS y_0)],[],1⟩) (fun _=>True) (by kernel_rfl) (fun Jp bk1=> ?_) fun _ _=> ?_
  ·refine gjU 0 (fun(_:Unit)=>let (y_0,y_1):=x2; ⟨[(0,.d (.s a0)),(3,.ow 0),(4,.d (.i y_1))],[(0,.row 0 1 _ eS y_0)],[],1⟩) (fun _=>True) (by kernel_rfl) (fun Jp bk2=> ?_) fun _ _=> ?_
   ·refine gl hd (fun(p:Nat×((List ByteArray)×Int×Int))=>let (p0,p_0,p_1,p_2):=p; ⟨[(0,.d (.s a0)),(3,.ow 0),(4,.d (.i p_1)),(5,.d (.i p_2))],[(0,.row 0 1 _ eS p_0)],[],1⟩) (fun p=>iter (Bd a0) p.1 p.2=some x2) (fun p=>p.1) (A0,(([]:List ByteArray),0,0)) q2 (by kernel_rfl) ?_;rintro⟨n1,s1⟩ q3 Jl bl1;cases n1 with
    |zero=>exact(Ar q3).elim
    |succ n1=>
     obtain⟨y1,q5,q4⟩:=Ao q3;unfold Bd at q5;refine gi q5 (by kernel_rfl) (fun hc1 q5=> ?_) fun hc1 q5=> ?_
     ·skip;obtain⟨x4,q7,q5⟩:=Aa q5;refine gjU 1 (fun(_:Unit)=>let (y_0,y_1):=x4; ⟨[(0,.d (.s a0)),(3,.ow 0),(4,.d (.i y_1)),(5,.d (.i s1.2.2))],[(0,.row 0 1 _ eS y_0)],[],1⟩) (fun _=>True) (by kernel_rfl) (fun Jp bk3=> ?_) fun _ _=> ?_
      ·skip;obtain⟨x5,q8,q7⟩:=Aa q7;refine TA (fun _=>q8) (by kernel_rfl) ?_;refine gi q7 (by kernel_rfl) (fun hc2 q7=> ?_) fun hc2 q7=> ?_
       ·skip;obtain⟨x6,q9,q7⟩:=Aa q7;refine R1 (fun _=>q9) (by kernel_rfl) ?_;refine EC (k:=1) eS ([x6]:List ByteArray) (fun _=>rfl) (by kernel_rfl) ?_;obtain⟨x7,q10,q7⟩:=Aa q7;refine KS (k:=1) (E:=eS) (fun _=>rfl) q10 (by kernel_rfl) ?_;have e0:=Option.some.inj q7;subst e0;exact gb bk3 hd () trivial (by kernel_rfl)
       have e0:=Option.some.inj q7;subst e0;exact gb bk3 hd () trivial (by kernel_rfl)
      have e0:=Option.some.inj q5;subst e0;rcases q4 with ⟨sn,e,q4'⟩|e
      ·have e:=Sum.inl.inj e;subst e;exact gb bl1 hd (n1,_) ⟨q4',Nat.lt_succ_self _⟩ (by kernel_rfl)
      cases AN e
     have e0:=Option.some.inj q5;subst e0;rcases q4 with ⟨sn,e,_⟩|e
     ·cases B2 e
     have e:=Sum.inr.inj e;subst e;exact gb bk2 hd () trivial (by kernel_rfl)
   have e0:=Option.some.inj q1;subst e0;exact gb bk1 hd () trivial (by kernel_rfl)
  obtain⟨x8,q11,hm⟩:=Aa hm;refine R1 (fun _=>q11) (by kernel_rfl) ?_;refine EC (k:=1) eS ([x8]:List ByteArray) (fun _=>rfl) (by kernel_rfl) ?_;obtain⟨x9,q12,hm⟩:=Aa hm;refine KS (k:=1) (E:=eS) (fun _=>rfl) q12 (by kernel_rfl) ?_;have e0:=Option.some.inj hm;subst e0;exact Au hd (by kernel_rfl)
def C7 (a0:UInt8):Option Bool:=bnd ((((decide ((a0.toNat:Int)≥97))&&(decide ((a0.toNat:Int)≤122)))||((decide ((a0.toNat:Int)≥48))&&(decide ((a0.toNat:Int)≤57))))) fun x1=>some x1
theorem Jw {a0:UInt8}{r:Bool}(hm:C7 a0=some r):Sf prog 179 [.d (.b a0)] (.d (.t r)):=
 sp call179 func179 rfl ntmps179 rfl fun D0 As η0 m0 hd=>by
  unfold C7 at hm;have hm:=AE hm;let x1:Bool:=((((decide ((a0.toNat:Int)≥97))&&(decide ((a0.toNat:Int)≤122)))||((decide ((a0.toNat:Int)≥48))&&(decide ((a0.toNat:Int)≤57)))));have e0:=Option.some.inj hm;subst e0;exact Au hd (by kernel_rfl)
def Bi (a0:ByteArray)(s1:Int):Option ((Int)⊕((Unit)⊕Bool)):=if(decide (s1<(a0.size:Int)))=true then Ac (idx a0.data.toList s1) fun x8=>Ac (C7 x8) fun x9=>Ac (gu (!x9) (idx a0.data.toList s1)) fun x10=>if((!x9)&&((x10.toNat:Int) !=45))=true then some (.inr (.inr false))else some (.inl (w64 (s1+1)))else some (.inr (.inl ()))
def FK (a0:ByteArray):Option Bool:=Ac (gu (!((decide ((a0.size:Int)<1))||(decide ((a0.size:Int)>16)))) (idx a0.data.toList (w64 ((a0.size:Int)-1)))) fun x1=>Ac (gu (!((decide ((a0.size:Int)<1))||(decide ((a0.size:Int)>16)))) (C7 x1)) fun x2=>Ac (gu (!(((decide ((a0.size:Int)<1))||(decide ((a0.size:Int)>16)))||(!x2))) (idx a0.data.toList 0)) fun x3=>Ac (gu (!(((decide ((a0.size:Int)<1))||(decide ((a0.size:Int)>16)))||(!x2))) (C7 x3)) fun x4=>Ac (gu ((!(((decide ((a0.size:Int)<1))||(decide ((a0.size:Int)>16)))||(!x2)))&&(!x4)) (idx a0.data.toList 0)) fun x5=>if((((decide ((a0.size:Int)<1))||(decide ((a0.size:Int)>16)))||(!x2))||((!x4)&&((x5.toNat:Int) !=95)))=true then some false else Ac (iter (Bi a0) A0 1) fun x6=>match x6 with| .inr r=>some r| .inl y1=>some true
theorem Py {a0:ByteArray}{r:Bool}(hm:FK a0=some r):Sf prog 135 [.d (.s a0)] (.d (.t r)):=
 sp call135 func135 rfl ntmps135 rfl fun D0 As η0 m0 hd=>by
  unfold FK at hm;obtain⟨x1,q1,hm⟩:=Aa hm;refine N6 (fun h=>DX h q1) (by kernel_rfl) ?_;obtain⟨x2,q2,hm⟩:=Aa hm;refine gcG (fun h=>Jw (DX h q2)) (by kernel_rfl) ?_;obtain⟨x3,q3,hm⟩:=Aa hm;refine N6 (fun h=>DX h q3) (by kernel_rfl) ?_;obtain⟨x4,q4,hm⟩:=Aa hm;refine gcG (fun h=>Jw (DX h q4)) (by kernel_rfl) ?_;obtain⟨x5,q5,hm⟩:=Aa hm;refine N6 (fun h=>DX h q5) (by kernel_rfl) ?_;refine gi hm (by kernel_rfl) (fun hc1 hm=> ?_) fun hc1 hm=> ?_
  ·skip;have e0:=Option.some.inj hm;subst e0;exact Au hd (by kernel_rfl)
  obtain⟨x6,q6,hm⟩:=Aa hm;refine gjU 0 (fun(y1:Unit)=>⟨[],[],[],0⟩) (fun y1=>x6= .inl y1) (by kernel_rfl) (fun Jp bk1=> ?_) fun y1 hy=> ?_
  ·refine gl hd (fun(p:Nat×(Int))=>let (p0,p_0):=p; ⟨[(0,.d (.s a0)),(3,.d (.i (a0.size:Int))),(4,.d (.i p_0))],[],[],0⟩) (fun p=>iter (Bi a0) p.1 p.2=some x6) (fun p=>p.1) (A0,1) q6 (by kernel_rfl) ?_;rintro⟨n1,s1⟩ q7 Jl bl1;cases n1 with
   |zero=>exact(Ar q7).elim
   |succ n1=>
    obtain⟨y2,q9,q8⟩:=Ao q7;unfold Bi at q9;refine gi q9 (by kernel_rfl) (fun hc2 q9=> ?_) fun hc2 q9=> ?_
    ·skip;obtain⟨x8,q11,q9⟩:=Aa q9;refine TA (fun _=>q11) (by kernel_rfl) ?_;obtain⟨x9,q12,q9⟩:=Aa q9;refine gc (fun _=>Jw q12) (by kernel_rfl) ?_;obtain⟨x10,q13,q9⟩:=Aa q9;refine N6 (fun h=>DX h q13) (by kernel_rfl) ?_;refine gi q9 (by kernel_rfl) (fun hc3 q9=> ?_) fun hc3 q9=> ?_
     ·skip;cases q9;rcases q8 with ⟨sn,e,_⟩|e
      ·cases e
      cases e;dsimp only at hm;have e0:=Option.some.inj hm;subst e0;exact Au hd (by kernel_rfl)
     have e0:=Option.some.inj q9;subst e0;rcases q8 with ⟨sn,e,q8'⟩|e
     ·have e:=Sum.inl.inj e;subst e;exact gb bl1 hd (n1,_) ⟨q8',Nat.lt_succ_self _⟩ (by kernel_rfl)
     cases AN e
    have e0:=Option.some.inj q9;subst e0;rcases q8 with ⟨sn,e,_⟩|e
    ·cases B2 e
    have e:=Sum.inr.inj e;subst e;exact gb bk1 hd () rfl (by kernel_rfl)
  subst hy;dsimp only at hm;have e0:=Option.some.inj hm;subst e0;exact Au hd (by kernel_rfl)
def Bj (x1:List ByteArray)(s1:Int):Option ((Int)⊕((Unit)⊕Bool)):=if(decide (s1<(x1.length:Int)))=true then Ac (idx x1 s1) fun x4=>Ac (FK x4) fun x5=>if(!x5)=true then some (.inr (.inr false))else some (.inl (w64 (s1+1)))else some (.inr (.inl ()))
def Dy (a0:ByteArray):Option Bool:=if(decide ((a0.size:Int)>64))=true then some false else Ac (Gx a0) fun x1=>Ac (iter (Bj x1) A0 0) fun x2=>match x2 with| .inr r=>some r| .inl y1=>bnd ((decide ((x1.length:Int)≤8))) fun x6=>some x6
theorem Jy {a0:ByteArray}{r:Bool}(hm:Dy a0=some r):Sf prog 80 [.d (.s a0)] (.d (.t r)):=
 sp call80 func80 rfl ntmps80 rfl fun D0 As η0 m0 hd=>by
  unfold Dy at hm;refine gi hm (by kernel_rfl) (fun hc1 hm=> ?_) fun hc1 hm=> ?_
  ·skip;have e0:=Option.some.inj hm;subst e0;exact Au hd (by kernel_rfl)
  obtain⟨x1,q1,hm⟩:=Aa hm;refine gco (Nj q1) (by kernel_rfl) ?_;obtain⟨x2,q2,hm⟩:=Aa hm;refine gjU 0 (fun(y1:Unit)=>⟨[(3,.ow 0)],[(0,.row 0 1 _ eS x1)],[],1⟩) (fun y1=>x2= .inl y1) (by kernel_rfl) (fun Jp bk1=> ?_) fun y1 hy=> ?_
  ·refine gl hd (fun(p:Nat×(Int))=>let (p0,p_0):=p; ⟨[(3,.ow 0),(4,.d (.i p_0))],[(0,.row 0 1 _ eS x1)],[],1⟩) (fun p=>iter (Bj x1) p.1 p.2=some x2) (fun p=>p.1) (A0,0) q2 (by kernel_rfl) ?_;rintro⟨n1,s1⟩ q3 Jl bl1;cases n1 with
   |zero=>exact(Ar q3).elim
   |succ n1=>
    obtain⟨y2,q5,q4⟩:=Ao q3;unfold Bj at q5;refine gi q5 (by kernel_rfl) (fun hc2 q5=> ?_) fun hc2 q5=> ?_
    ·skip;obtain⟨x4,q7,q5⟩:=Aa q5;refine TB (E:=eS) (fun _=>q7) (by kernel_rfl) ?_;refine gldO (k:=1) (fo:=0) (nn:=1) (ag:=false) (E:=eS) (fun _=>rfl) (fun _=>q7) (by kernel_rfl) ?_;obtain⟨x5,q8,q5⟩:=Aa q5;refine gc (fun _=>Py q8) (by kernel_rfl) ?_;refine gi q5 (by kernel_rfl) (fun hc3 q5=> ?_) fun hc3 q5=> ?_
     ·skip;cases q5;rcases q4 with ⟨sn,e,_⟩|e
      ·cases e
      cases e;dsimp only at hm;have e0:=Option.some.inj hm;subst e0;exact Au hd (by kernel_rfl)
     have e0:=Option.some.inj q5;subst e0;rcases q4 with ⟨sn,e,q4'⟩|e
     ·have e:=Sum.inl.inj e;subst e;exact gb bl1 hd (n1,_) ⟨q4',Nat.lt_succ_self _⟩ (by kernel_rfl)
     cases AN e
    have e0:=Option.some.inj q5;subst e0;rcases q4 with ⟨sn,e,_⟩|e
    ·cases B2 e
    have e:=Sum.inr.inj e;subst e;exact gb bk1 hd () rfl (by kernel_rfl)
  subst hy;dsimp only at hm;have hm:=AE hm;let x6:Bool:=((decide ((x1.length:Int)≤8)));have e0:=Option.some.inj hm;subst e0;exact Au hd (by kernel_rfl)
def A6 (a0:List ByteArray)(s1:Int)(s2:Int):Option ((Int)⊕((Unit)⊕Bool)):=if(decide (s2<s1))=true then Ac (idx a0 s2) fun x5=>Ac (idx a0 s1) fun x6=>if(eqS x5 x6)=true then some (.inr (.inr false))else some (.inl (w64 (s2+1)))else some (.inr (.inl ()))
def A7 (a0:List ByteArray)(s1:Int):Option ((Int)⊕((Unit)⊕Bool)):=if(decide (s1<(a0.length:Int)))=true then Ac (iter (A6 a0 s1) A0 0) fun x3=>match x3 with| .inr r=>some (.inr (.inr r))| .inl y3=>some (.inl (w64 (s1+1)))else some (.inr (.inl ()))
def DU (a0:List ByteArray):Option Bool:=Ac (iter (A7 a0) A0 0) fun x1=>match x1 with| .inr r=>some r| .inl y1=>some true
theorem Km {a0:List ByteArray}{r:Bool}(hm:DU a0=some r):Sf prog 166 [sl eS a0] (.d (.t r)):=
 sp call166 func166 rfl ntmps166 rfl fun D0 As η0 m0 hd=>by
  unfold DU at hm;obtain⟨x1,q1,hm⟩:=Aa hm;refine gjU 0 (fun(y1:Unit)=>⟨[],[],[],0⟩) (fun y1=>x1= .inl y1) (by kernel_rfl) (fun Jp bk1=> ?_) fun y1 hy=> ?_
  ·refine gl hd (fun(p:Nat×(Int))=>let (p0,p_0):=p; ⟨[(0,sl eS a0),(3,.d (.i p_0))],[],[],0⟩) (fun p=>iter (A7 a0) p.1 p.2=some x1) (fun p=>p.1) (A0,0) q1 (by kernel_rfl) ?_;rintro⟨n1,s1⟩ q2 Jl bl1;cases n1 with
   |zero=>exact(Ar q2).elim
   |succ n1=>
    obtain⟨y2,q4,q3⟩:=Ao q2;unfold A7 at q4;refine gi q4 (by kernel_rfl) (fun hc1 q4=> ?_) fun hc1 q4=> ?_
    ·skip;obtain⟨x3,q6,q4⟩:=Aa q4;refine gjU 2 (fun(y3:Unit)=>⟨[(0,sl eS a0),(3,.d (.i s1))],[],[],0⟩) (fun y3=>x3= .inl y3) (by kernel_rfl) (fun Jp bk2=> ?_) fun y3 hy=> ?_
     ·refine gl hd (fun(p:Nat×(Int))=>let (p0,p_0):=p; ⟨[(0,sl eS a0),(3,.d (.i s1)),(4,.d (.i p_0))],[],[],0⟩) (fun p=>iter (A6 a0 s1) p.1 p.2=some x3) (fun p=>p.1) (A0,0) q6 (by kernel_rfl) ?_;rintro⟨n2,s2⟩ q7 Jl bl2;cases n2 with
      |zero=>exact(Ar q7).elim
      |succ n2=>
       obtain⟨y4,q9,q8⟩:=Ao q7;unfold A6 at q9;refine gi q9 (by kernel_rfl) (fun hc2 q9=> ?_) fun hc2 q9=> ?_
       ·skip;obtain⟨x5,q11,q9⟩:=Aa q9;refine Hc (k:=1) (E:=eS) (fun _=>rfl) (fun _=>q11) (by kernel_rfl) ?_;obtain⟨x6,q12,q9⟩:=Aa q9;refine Hc (k:=1) (E:=eS) (fun _=>rfl) (fun _=>q12) (by kernel_rfl) ?_;refine gi q9 (by kernel_rfl) (fun hc3 q9=> ?_) fun hc3 q9=> ?_
        ·skip;cases q9;rcases q8 with ⟨sn,e,_⟩|e
         ·cases e
         cases e;dsimp only at q4;cases q4;rcases q3 with ⟨sn,e,_⟩|e
         ·cases e
         cases e;dsimp only at hm;have e0:=Option.some.inj hm;subst e0;exact Au hd (by kernel_rfl)
        have e0:=Option.some.inj q9;subst e0;rcases q8 with ⟨sn,e,q8'⟩|e
        ·have e:=Sum.inl.inj e;subst e;exact gb bl2 hd (n2,_) ⟨q8',Nat.lt_succ_self _⟩ (by kernel_rfl)
        cases AN e
       have e0:=Option.some.inj q9;subst e0;rcases q8 with ⟨sn,e,_⟩|e
       ·cases B2 e
       have e:=Sum.inr.inj e;subst e;exact gb bk2 hd () rfl (by kernel_rfl)
     subst hy;dsimp only at q4;have e0:=Option.some.inj q4;subst e0;rcases q3 with ⟨sn,e,q3'⟩|e
     ·have e:=Sum.inl.inj e;subst e;exact gb bl1 hd (n1,_) ⟨q3',Nat.lt_succ_self _⟩ (by kernel_rfl)
     cases AN e
    have e0:=Option.some.inj q4;subst e0;rcases q3 with ⟨sn,e,_⟩|e
    ·cases B2 e
    have e:=Sum.inr.inj e;subst e;exact gb bk1 hd () rfl (by kernel_rfl)
  subst hy;dsimp only at hm;have e0:=Option.some.inj hm;subst e0;exact Au hd (by kernel_rfl)
def GZ (a0:ByteArray):Option (ByteArray×Bool):=Ac (gu (!((decide ((a0.size:Int)<3))||(decide ((a0.size:Int)>64)))) (idx a0.data.toList 0)) fun x1=>Ac (gu (!(((decide ((a0.size:Int)<3))||(decide ((a0.size:Int)>64)))||((x1.toNat:Int) !=42))) (idx a0.data.toList 1)) fun x2=>Ac (gu (!((((decide ((a0.size:Int)<3))||(decide ((a0.size:Int)>64)))||((x1.toNat:Int) !=42))||((x2.toNat:Int) !=46))) (Mh a0 2 (a0.size:Int))) fun x3=>Ac (gu (!((((decide ((a0.size:Int)<3))||(decide ((a0.size:Int)>64)))||((x1.toNat:Int) !=42))||((x2.toNat:Int) !=46))) (Dy x3)) fun x4=>if(((((decide ((a0.size:Int)<3))||(decide ((a0.size:Int)>64)))||((x1.toNat:Int) !=42))||((x2.toNat:Int) !=46))||(!x4))=true then some ((⟨#[]⟩:ByteArray),false)else Ac (Mh a0 2 (a0.size:Int)) fun x5=>Ac (Gx x5) fun x6=>if(decide ((x6.length:Int)>7))=true then some ((⟨#[]⟩:ByteArray),false)else Ac (Mh a0 2 (a0.size:Int)) fun x7=>some (x7,true)
theorem Q8 {a0:ByteArray}{r:ByteArray×Bool}(hm:GZ a0=some r):Sf prog 180 [.d (.s a0)] (.tup [.d (.s r.1),.d (.t r.2)]):=
 sp call180 func180 rfl ntmps180 rfl fun D0 As η0 m0 hd=>by
  unfold GZ at hm;obtain⟨x1,q1,hm⟩:=Aa hm;refine N6 (fun h=>DX h q1) (by kernel_rfl) ?_;obtain⟨x2,q2,hm⟩:=Aa hm;refine N6 (fun h=>DX h q2) (by kernel_rfl) ?_;obtain⟨x3,q3,hm⟩:=Aa hm;refine Aav (fun h=>DX h q3) (by kernel_rfl) ?_;obtain⟨x4,q4,hm⟩:=Aa hm;refine gcG (fun h=>Jy (DX h q4)) (by kernel_rfl) ?_;refine gspl 28 hm (by kernel_rfl) (fun hc1 hm=> ?_) fun hc1 hm=> ?_
  ·skip;refine gi' (b:=true) (by kernel_rfl) (fun _=> ?_) (fun h=>by cases h);have e0:=Option.some.inj hm;subst e0;exact Au hd (by kernel_rfl)
  obtain⟨x5,q5,hm⟩:=Aa hm;refine R1 (fun _=>q5) (by kernel_rfl) ?_;obtain⟨x6,q6,hm⟩:=Aa hm;refine gco (Nj q6) (by kernel_rfl) ?_;refine gi hm (by kernel_rfl) (fun hc2 hm=> ?_) fun hc2 hm=> ?_
  ·skip;have e0:=Option.some.inj hm;subst e0;exact Au hd (by kernel_rfl)
  obtain⟨x7,q7,hm⟩:=Aa hm;refine R1 (fun _=>q7) (by kernel_rfl) ?_;have e0:=Option.some.inj hm;subst e0;exact Au hd (by kernel_rfl)
def El (a0:ByteArray):Option Int:=Ac (GZ a0) fun x1=>Ac (gu (!x1.2) (Dy a0)) fun x2=>if((!x1.2)&&(!x2))=true then some 110 else some 0
theorem Nk {a0:ByteArray}{r:Int}(hm:El a0=some r):Sf prog 167 [.d (.s a0)] (.d (.i r)):=
 sp call167 func167 rfl ntmps167 rfl fun D0 As η0 m0 hd=>by
  unfold El at hm;obtain⟨x1,q1,hm⟩:=Aa hm;refine gc (fun _=>Q8 q1) (by kernel_rfl) ?_;obtain⟨x2,q2,hm⟩:=Aa hm;refine gcG (fun h=>Jy (DX h q2)) (by kernel_rfl) ?_;refine gi hm (by kernel_rfl) (fun hc1 hm=> ?_) fun hc1 hm=> ?_
  ·skip;have e0:=Option.some.inj hm;subst e0;exact Au hd (by kernel_rfl)
  have e0:=Option.some.inj hm;subst e0;exact Au hd (by kernel_rfl)
def BB (a0:g_api_Cert)(s1:Int):Option ((Int)⊕((Unit)⊕Bool)):=if(decide (s1<(a0.Names.length:Int)))=true then Ac (idx a0.Names s1) fun x3=>Ac (Dy x3) fun x4=>if(!x4)=true then some (.inr (.inr false))else some (.inl (w64 (s1+1)))else some (.inr (.inl ()))
def BA (a0:g_api_Cert)(s2:Int):Option ((Int)⊕((Unit)⊕Bool)):=if(decide (s2<(a0.Permit.length:Int)))=true then Ac (idx a0.Permit s2) fun x9=>Ac (El x9) fun x10=>if(x10 !=0)=true then some (.inr (.inr false))else some (.inl (w64 (s2+1)))else some (.inr (.inl ()))
def GW (a0:g_api_Cert):Option Bool:=
 if(!a0.Ca)=true then
  Ac (iter (BB a0) A0 0) fun x1=>match x1 with
  | .inr r=>some r
  | .inl y1=>
  Ac (gu (((eqS a0.Subject (⟨#[]⟩:ByteArray))&&(decide ((a0.Names.length:Int)≥1)))&&(decide ((a0.Names.length:Int)≤8))) (DU a0.Names)) fun x5=>
  bnd (((((((eqS a0.Subject (⟨#[]⟩:ByteArray))&&(decide ((a0.Names.length:Int)≥1)))&&(decide ((a0.Names.length:Int)≤8)))&&x5)&&(a0.Depth==0))&&((a0.Permit.length:Int)==0))) fun x6=>
  some x6
 else
 Ac (iter (BA a0) A0 0) fun x7=>match x7 with
 | .inr r=>some r
 | .inl y3=>
 Ac (Fp a0.Subject) fun x11=>
 Ac (gu ((((x11&&((a0.Names.length:Int)==0))&&(decide (a0.Depth≥0)))&&(decide (a0.Depth≤4)))&&(decide ((a0.Permit.length:Int)≤8))) (DU a0.Permit)) fun x12=>
 bnd ((((((x11&&((a0.Names.length:Int)==0))&&(decide (a0.Depth≥0)))&&(decide (a0.Depth≤4)))&&(decide ((a0.Permit.length:Int)≤8)))&&x12)) fun x13=>
 some x13
theorem Q4 {a0:g_api_Cert}{r:Bool}(hm:GW a0=some r):Sf prog 117 [ag (Ae a0)] (.d (.t r)):=
 sp call117 func117 rfl ntmps117 rfl fun D0 As η0 m0 hd=>by
  unfold GW at hm;refine gi hm (by kernel_rfl) (fun hc1 hm=> ?_) fun hc1 hm=> ?_
  ·skip;obtain⟨x1,q1,hm⟩:=Aa hm;refine gjU 0 (fun(y1:Unit)=>⟨[(1,.pb 0 0)],[(0,.box 0 [.d (.i a0.Serial),.d (.s a0.Issuer),.d (.s a0.Subject),.d (.u a0.Key),sl eS a0.Names,.d (.i a0.From),.d (.i a0.Until),.d (.t a0.Ca),.d (.i a0.Depth),sl eS a0.Permit,sl Ai a0.Proms,.d (.u a0.Sig.E),.d (.u a0.Sig.S)] 28)],[],1⟩) (fun y1=>x1= .inl y1) (by kernel_rfl) (fun Jp bk1=> ?_) fun y1 hy=> ?_
   ·refine gl hd (fun(p:Nat×(Int))=>let (p0,p_0):=p; ⟨[(1,.pb 0 0),(3,.d (.i p_0))],[(0,.box 0 [.d (.i a0.Serial),.d (.s a0.Issuer),.d (.s a0.Subject),.d (.u a0.Key),sl eS a0.Names,.d (.i a0.From),.d (.i a0.Until),.d (.t a0.Ca),.d (.i a0.Depth),sl eS a0.Permit,sl Ai a0.Proms,.d (.u a0.Sig.E),.d (.u a0.Sig.S)] 28)],[],1⟩) (fun p=>iter (BB a0) p.1 p.2=some x1) (fun p=>p.1) (A0,0) q1 (by kernel_rfl) ?_;rintro⟨n1,s1⟩ q2 Jl bl1;cases n1 with
    |zero=>exact(Ar q2).elim
    |succ n1=>
     obtain⟨y2,q4,q3⟩:=Ao q2;unfold BB at q4;refine gi q4 (by kernel_rfl) (fun hc2 q4=> ?_) fun hc2 q4=> ?_
     ·skip;obtain⟨x3,q6,q4⟩:=Aa q4;refine Hc (k:=1) (E:=eS) (fun _=>rfl) (fun _=>q6) (by kernel_rfl) ?_;obtain⟨x4,q7,q4⟩:=Aa q4;refine gc (fun _=>Jy q7) (by kernel_rfl) ?_;refine gi q4 (by kernel_rfl) (fun hc3 q4=> ?_) fun hc3 q4=> ?_
      ·skip;cases q4;rcases q3 with ⟨sn,e,_⟩|e
       ·cases e
       cases e;dsimp only at hm;have e0:=Option.some.inj hm;subst e0;exact Au hd (by kernel_rfl)
      have e0:=Option.some.inj q4;subst e0;rcases q3 with ⟨sn,e,q3'⟩|e
      ·have e:=Sum.inl.inj e;subst e;exact gb bl1 hd (n1,_) ⟨q3',Nat.lt_succ_self _⟩ (by kernel_rfl)
      cases AN e
     have e0:=Option.some.inj q4;subst e0;rcases q3 with ⟨sn,e,_⟩|e
     ·cases B2 e
     have e:=Sum.inr.inj e;subst e;exact gb bk1 hd () rfl (by kernel_rfl)
   subst hy;dsimp only at hm;obtain⟨x5,q8,hm⟩:=Aa hm;refine gcG (fun h=>Km (DX h q8)) (by kernel_rfl) ?_;have hm:=AE hm;let x6:Bool:=(((((((eqS a0.Subject (⟨#[]⟩:ByteArray))&&(decide ((a0.Names.length:Int)≥1)))&&(decide ((a0.Names.length:Int)≤8)))&&x5)&&(a0.Depth==0))&&((a0.Permit.length:Int)==0)));have e0:=Option.some.inj hm;subst e0;exact Au hd (by kernel_rfl)
  obtain⟨x7,q10,hm⟩:=Aa hm;refine gjU 2 (fun(y3:Unit)=>⟨[(1,.pb 0 0)],[(0,.box 0 [.d (.i a0.Serial),.d (.s a0.Issuer),.d (.s a0.Subject),.d (.u a0.Key),sl eS a0.Names,.d (.i a0.From),.d (.i a0.Until),.d (.t a0.Ca),.d (.i a0.Depth),sl eS a0.Permit,sl Ai a0.Proms,.d (.u a0.Sig.E),.d (.u a0.Sig.S)] 28)],[],1⟩) (fun y3=>x7= .inl y3) (by kernel_rfl) (fun Jp bk2=> ?_) fun y3 hy=> ?_
  ·refine gl hd (fun(p:Nat×(Int))=>let (p0,p_0):=p; ⟨[(1,.pb 0 0),(4,.d (.i p_0))],[(0,.box 0 [.d (.i a0.Serial),.d (.s a0.Issuer),.d (.s a0.Subject),.d (.u a0.Key),sl eS a0.Names,.d (.i a0.From),.d (.i a0.Until),.d (.t a0.Ca),.d (.i a0.Depth),sl eS a0.Permit,sl Ai a0.Proms,.d (.u a0.Sig.E),.d (.u a0.Sig.S)] 28)],[],1⟩) (fun p=>iter (BA a0) p.1 p.2=some x7) (fun p=>p.1) (A0,0) q10 (by kernel_rfl) ?_;rintro⟨n2,s2⟩ q11 Jl bl2;cases n2 with
   |zero=>exact(Ar q11).elim
   |succ n2=>
    obtain⟨y4,q13,q12⟩:=Ao q11;unfold BA at q13;refine gi q13 (by kernel_rfl) (fun hc4 q13=> ?_) fun hc4 q13=> ?_
    ·skip;obtain⟨x9,q15,q13⟩:=Aa q13;refine Hc (k:=1) (E:=eS) (fun _=>rfl) (fun _=>q15) (by kernel_rfl) ?_;obtain⟨x10,q16,q13⟩:=Aa q13;refine gc (fun _=>Nk q16) (by kernel_rfl) ?_;refine gi q13 (by kernel_rfl) (fun hc5 q13=> ?_) fun hc5 q13=> ?_
     ·skip;cases q13;rcases q12 with ⟨sn,e,_⟩|e
      ·cases e
      cases e;dsimp only at hm;have e0:=Option.some.inj hm;subst e0;exact Au hd (by kernel_rfl)
     have e0:=Option.some.inj q13;subst e0;rcases q12 with ⟨sn,e,q12'⟩|e
     ·have e:=Sum.inl.inj e;subst e;exact gb bl2 hd (n2,_) ⟨q12',Nat.lt_succ_self _⟩ (by kernel_rfl)
     cases AN e
    have e0:=Option.some.inj q13;subst e0;rcases q12 with ⟨sn,e,_⟩|e
    ·cases B2 e
    have e:=Sum.inr.inj e;subst e;exact gb bk2 hd () rfl (by kernel_rfl)
  subst hy;dsimp only at hm;obtain⟨x11,q17,hm⟩:=Aa hm;refine gc (fun _=>Mm q17) (by kernel_rfl) ?_;obtain⟨x12,q18,hm⟩:=Aa hm;refine gcG (fun h=>Km (DX h q18)) (by kernel_rfl) ?_;have hm:=AE hm;let x13:Bool:=((((((x11&&((a0.Names.length:Int)==0))&&(decide (a0.Depth≥0)))&&(decide (a0.Depth≤4)))&&(decide ((a0.Permit.length:Int)≤8)))&&x12));have e0:=Option.some.inj hm;subst e0;exact Au hd (by kernel_rfl)
end Go.Proofs.YtbajlmaijjcbmaaGreatDoor
