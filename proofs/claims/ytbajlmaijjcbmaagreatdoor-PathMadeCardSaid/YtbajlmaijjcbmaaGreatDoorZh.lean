/- The walks of some functions, by the executor, written by program. Conditions: none. -/
import Derived.Test.YtbajlmaijjcbmaaGreatDoorZf
import Derived.Test.YtbajlmaijjcbmaaGreatDoorZg
set_option linter.unusedSimpArgs false
set_option linter.unusedVariables false
set_option maxHeartbeats 20000000
set_option maxRecDepth 100000
namespace Go.Proofs.YtbajlmaijjcbmaaGreatDoor
open Go Go.Gw Go.Ax Tryz
attribute [local irreducible] Go.Ax.Go
def Fg (a0:UInt64)(a1:UInt64):Option UInt64:=Ad (CZ a0) fun x1=>Ad (CZ a1) fun x2=>Ad (DJ x1 x2) fun x3=>Ad (Er x3.1 x3.2) fun x4=>some x4
theorem Kq {a0:UInt64}{a1:UInt64}{r:UInt64}(hm:Fg a0 a1=some r):Sf prog 230 [.d (.u a0),.d (.u a1)] (.d (.u r)):=
 sp call230 func230 rfl ntmps230 rfl fun D0 As η0 m0 hd=>by
  unfold Fg at hm;obtain⟨x1,q1,hm⟩:=Aa hm;refine gc (fun _=>FZ q1) ?_;obtain⟨x2,q2,hm⟩:=Aa hm;refine gc (fun _=>FZ q2) ?_;obtain⟨x3,q3,hm⟩:=Aa hm;refine gc (fun _=>Hx q3) ?_;obtain⟨x4,q4,hm⟩:=Aa hm;refine gc (fun _=>JB q4) ?_;have e0:=Option.some.inj hm;subst e0;exact AO hd
def CX (i1:Int)(s1:UInt64):Option (UInt64):=Ad (Fg s1 s1) fun x4=>some x4
def Cr (a0:UInt64):Option UInt64:=Ad (Ad (Ck CX 4 0 a0) fun x2=>some x2) fun x1=>Ad (Fg a0 x1) fun x5=>some x5
theorem JU {a0:UInt64}{r:UInt64}(hm:Cr a0=some r):Sf prog 219 [.d (.u a0)] (.d (.u r)):=
 sp call219 func219 rfl ntmps219 rfl fun D0 As η0 m0 hd=>by
  unfold Cr at hm;obtain⟨x1,q1,hm⟩:=Aa hm;obtain⟨x2,q2,q1⟩:=Aa q1;refine gjU 0 (fun(_:Unit)=>⟨[(0,.d (.u a0)),(3,.d (.u x1))],[],[],0⟩) (fun _=>True) (fun Jp bk1=> ?_) fun _ _=> ?_
  ·refine gjU 0 (fun(_:Unit)=>⟨[(0,.d (.u a0)),(3,.d (.u x2))],[],[],0⟩) (fun _=>True) (fun Jp bk2=> ?_) fun _ _=> ?_
   ·refine gl hd (fun(p:Int×(UInt64))=>let (p0,p_0):=p; ⟨[(0,.d (.u a0)),(3,.d (.u p_0)),(5,.d (.i p0))],[],[],0⟩) (fun p=> ∃i:Nat,p.1=(i:Int)∧i≤4∧Ck CX (4-i) (i:Int) p.2=some x2) (fun p=>4-p.1.toNat) (0,a0) ⟨0,rfl,Nat.zero_le _,q2⟩ ?_;rintro⟨_,s1⟩ ⟨i1,rfl,hi,q3⟩ Jl bl1;refine gi' (b:=decide ((i1:Int)<(4:Int))) (fun hc1=> ?_) fun hc1=> ?_
    ·have hlt1:i1<4:=by have:=of_decide_eq_true hc1; omega
     obtain⟨y1,q5,q4⟩:=Ge q3 hlt1;unfold CX at q5;obtain⟨x4,q7,q5⟩:=Aa q5;refine gc (fun _=>Kq q7) ?_;have e0:=Option.some.inj q5;subst e0;exact gb bl1 hd (w64 ((i1:Int)+1),x4) ⟨⟨i1+1,Bc hlt1 (by decide),by omega,q4⟩,Gl hlt1 (by decide)⟩
    have hlt1: ¬i1<4:=by have:=of_decide_eq_false hc1; omega
    have e:=Eq.symm (Fk q3 hlt1);subst e;exact gb bk2 hd () trivial
   have e0:=Option.some.inj q1;subst e0;exact gb bk1 hd () trivial
  obtain⟨x5,q8,hm⟩:=Aa hm;refine gc (fun _=>Kq q8) ?_;have e0:=Option.some.inj hm;subst e0;exact AO hd
theorem JX {m:Mem}{As:List Ow}{w:World}{a0:UInt64}{r:UInt64}(S:St m As w)(hm:Cr a0=some r):
  Az prog 219 #[vU a0] w fun v w'=> ∃(M:Mem),m≤M∧St M (As) w'∧v=vU r:=by
 refine Az.mono ((JU hm).2 none0 m As w [vU a0] (.cons (.d (.u _)) .nil) (fun n h=>absurd rfl h) S) ?_;rintro v w' ⟨M,η',r',obs',n1,hle,_,⟨rfl,rfl,rfl⟩,hdom,hR,S'⟩;obtain rfl:=hR.u_inv;exact⟨M,hle,S',rfl⟩
def DA (a0:Int)(a1:UInt64)(k0:Int)(k1:UInt64):Option (UInt64×Int×UInt64):=bnd ((toU (w64 ((w64 ((w64 (3*k0))+a0))+1)))) fun x1=>Ad (C2 a1 (((x1*x1)*x1)+7)) fun x2=>Ad (Cr x2) fun x3=>Ad (C2 k1 x3) fun x4=>some (x3,k0,x4)
theorem Od {m:Mem}{As:List Ow}{w:World}{a0:Int}{a1:UInt64}{kb0:Nat}{k0:Int}{kb1:Nat}{k1:UInt64}{r:UInt64×Int×UInt64}(S:St m ((bx kb0 [vI k0] 3)::(bx kb1 [vU k1] 22)::As) w)(hm:DA a0 a1 k0 k1=some r):
  Az Tryz.prog 218 #[vI a0,vU a1,pt kb0 0,pt kb1 0] w fun v w'=> ∃(M:Mem),m≤M∧St M ((bx kb0 [vI r.2.1] 3)::(bx kb1 [vU r.2.2] 22)::As) w'∧v=vU r.1:=by
 unfold DA at hm;have L0:=Mem.rfl' m;refine Co (args:=[vI a0,vU a1,pt kb0 0,pt kb1 0]) Tryz.func218 rfl Tryz.ntmps218 (Nat.le_of_ble_eq_true rfl) ?_;refine Af ?_;refine Ac ?_;refine Bb (v:=vU 0) rfl ?_;refine Ag ?_;refine nrm ?_;refine Af ?_;refine Ac ?_;refine GS (i:=0) (cs:=[vI k0]) S rfl rfl Tryz.isAgg3 Tryz.sizeOf3 rfl (fun _=>rfl) ?_;refine OA (m:=3) (n:=k0) rfl rfl ?_;refine Ap (v:=vI a0) rfl ?_;refine Fp (m:=(w64 (3*k0))) (n:=a0) rfl rfl ?_;refine Fp (m:=(w64 ((w64 (3*k0))+a0))) (n:=1) rfl rfl ?_;refine Nj rfl Tryz.underlying3 Tryz.underlying22 ?_;obtain⟨x1,q1,hm⟩:=CT hm;refine Bb (v:=vU x1) (congrArg (fun z=>vU z) q1.symm) ?_;refine Ag ?_;refine nrm ?_;refine Af ?_;refine Ac ?_;refine Ap (v:=vU a1) rfl ?_;refine Ap (v:=vU x1) rfl ?_;refine Ap (v:=vU x1) rfl ?_;refine SD (m:=x1) (n:=x1) rfl rfl ?_;refine Ap (v:=vU x1) rfl ?_;refine SD (m:=(x1*x1)) (n:=x1) rfl rfl ?_;refine Wm (m:=((x1*x1)*x1)) (n:=7) rfl rfl ?_;obtain⟨x2,q2,hm⟩:=Aa hm;refine CJ Tryz.call200 (G8 (a0:=a1) (a1:=(((x1*x1)*x1)+7)) S q2) rfl ?_;rintro _ w1 ⟨m1,l1,S1,rfl⟩;replace L0:=Mem.tr L0 l1;clear S;replace S1:St _ ((bx kb0 [vI k0] 3)::(bx kb1 [vU k1] 22)::As) _:=S1;obtain⟨x3,q3,hm⟩:=Aa hm;refine CJ Tryz.call219 (JX (a0:=x2) S1 q3) rfl ?_;rintro _ w2 ⟨m2,l2,S2,rfl⟩;replace L0:=Mem.tr L0 l2;clear S1;replace S2:St _ ((bx kb0 [vI k0] 3)::(bx kb1 [vU k1] 22)::As) _:=S2;refine Bb (v:=vU x3) rfl ?_;refine Ag ?_;refine nrm ?_;refine Af ?_;refine Ac ?_;refine GS (i:=1) (cs:=[vU k1]) S2 rfl rfl Tryz.isAgg22 Tryz.sizeOf22 rfl (fun _=>rfl) ?_;refine Ap (v:=vU x3) rfl ?_;obtain⟨x4,q4,hm⟩:=Aa hm;refine CJ Tryz.call200 (G8 (a0:=k1) (a1:=x3) S2 q4) rfl ?_;rintro _ w3 ⟨m3,l3,S3,rfl⟩;replace L0:=Mem.tr L0 l3;clear S2;replace S3:St _ ((bx kb0 [vI k0] 3)::(bx kb1 [vU k1] 22)::As) _:=S3;refine Hb (i:=1) S3 rfl rfl rfl Tryz.sizeOf22 (H0 rfl KV) rfl ?_;intro w4 S4;replace S4:St _ ((bx kb0 [vI k0] 3)::(bx kb1 [vU x4] 22)::As) _:=S4;clear S3;refine Ag ?_;refine nrm ?_;refine Af ?_;refine Ac ?_;refine Ap (v:=vU x3) rfl ?_;refine Bb (v:=vU x3) rfl ?_;refine Ag ?_;refine nrm ?_;refine Bl ?_;refine Dx ?_;intro we hpd;replace S4:=St.pd S4 hpd;have e0:=Option.some.inj hm;subst e0;exact G4 [_] rfl ⟨rfl,trivial⟩ ⟨_,L0,S4,rfl⟩
def Dz (a0:Int)(a1:UInt64)(k0:UInt64):Option (UInt64×UInt64):=Ad (C2 a1 k0) fun x1=>some (x1,k0)
theorem Oc {m:Mem}{As:List Ow}{w:World}{a0:Int}{a1:UInt64}{kb0:Nat}{k0:UInt64}{r:UInt64×UInt64}(S:St m ((bx kb0 [vU k0] 22)::As) w)(hm:Dz a0 a1 k0=some r):
  Az Tryz.prog 220 #[vI a0,vU a1,pt kb0 0] w fun v w'=> ∃(M:Mem),m≤M∧St M ((bx kb0 [vU r.2] 22)::As) w'∧v=vU r.1:=by
 unfold Dz at hm;have L0:=Mem.rfl' m;refine Co (args:=[vI a0,vU a1,pt kb0 0]) Tryz.func220 rfl Tryz.ntmps220 (Nat.le_of_ble_eq_true rfl) ?_;refine Af ?_;refine Ac ?_;refine Bb (v:=vU 0) rfl ?_;refine Ag ?_;refine nrm ?_;refine Af ?_;refine Ac ?_;refine Ap (v:=vU a1) rfl ?_;refine GS (i:=0) (cs:=[vU k0]) S rfl rfl Tryz.isAgg22 Tryz.sizeOf22 rfl (fun _=>rfl) ?_;obtain⟨x1,q1,hm⟩:=Aa hm;refine CJ Tryz.call200 (G8 (a0:=a1) (a1:=k0) S q1) rfl ?_;rintro _ w1 ⟨m1,l1,S1,rfl⟩;replace L0:=Mem.tr L0 l1;clear S;replace S1:St _ ((bx kb0 [vU k0] 22)::As) _:=S1;refine Bb (v:=vU x1) rfl ?_;refine Ag ?_;refine nrm ?_;refine Bl ?_;refine Dx ?_;intro we hpd;replace S1:=St.pd S1 hpd;have e0:=Option.some.inj hm;subst e0;exact G4 [_] rfl ⟨rfl,trivial⟩ ⟨_,L0,S1,rfl⟩
def EJ (i1:Int)(s1:UInt64×UInt64×UInt64):Option (UInt64×UInt64×UInt64):=Ad (BN s1 (fun(s2:Int×UInt64) (b7:Int) (b8:UInt64)=>Ad (DA b7 b8 ((s2).1) ((s2).2)) fun x4=>some (x4.1,(x4.2.1,x4.2.2))) ((i1:Int),0)) fun x5=>Ad (BN x5.1 (fun(s3:UInt64) (b9:Int) (b10:UInt64)=>Ad (Dz b9 b10 s3) fun x6=>some (x6.1,x6.2)) x5.2.2) fun x7=>some (x7.1.1,x7.1.2.1,x7.1.2.2)
def GZ (a0:UInt64×UInt64×UInt64):Option (UInt64×UInt64×UInt64):=Ad (Ad (Ck EJ 8 0 (a0.1,a0.2.1,a0.2.2)) fun x2=>some (x2.1,x2.2.1,x2.2.2)) fun x1=>some x1
theorem Rm {m:Mem}{As:List Ow}{w:World}{a0:UInt64×UInt64×UInt64}{r:UInt64×UInt64×UInt64}(S:St m (As) w)(hm:GZ a0=some r):
  Az Tryz.prog 201 #[.agg #[vU a0.1,vU a0.2.1,vU a0.2.2]] w fun v w'=> ∃(M:Mem),m≤M∧St M (As) w'∧v= .agg #[vU r.1,vU r.2.1,vU r.2.2]:=by
 unfold GZ at hm;have L0:=Mem.rfl' m;refine Co (args:=[.agg #[vU a0.1,vU a0.2.1,vU a0.2.2]]) Tryz.func201 rfl Tryz.ntmps201 (Nat.le_of_ble_eq_true rfl) ?_;refine Af ?_;refine Ac ?_;refine JZ S rfl ?_;intro b1 w1 S1;replace S1:St _ ((bx b1 [vU a0.1,vU a0.2.1,vU a0.2.2] 187)::As) _:=S1;clear S;refine EC S1 Tryz.zeroValue187 ?_;intro b2 w2 S2;replace S2:St _ ((bx b2 [vU 0,vU 0,vU 0] 187)::(bx b1 [vU a0.1,vU a0.2.1,vU a0.2.2] 187)::As) _:=S2;clear S1;refine Ag ?_;refine nrm ?_;refine Af ?_;refine Ac ?_;refine GS (i:=1) (cs:=[vU a0.1,vU a0.2.1,vU a0.2.2]) S2 rfl rfl Tryz.isAgg187 Tryz.sizeOf187 rfl (fun h=>by cases h) ?_;refine EC S2 Tryz.zeroValue198 ?_;intro b3 w3 S3;replace S3:St _ ((bx b3 [vU 0,vU 0,vU 0] 198)::(bx b2 [vU 0,vU 0,vU 0] 187)::(bx b1 [vU a0.1,vU a0.2.1,vU a0.2.2] 187)::As) _:=S3;clear S2;refine Hb (i:=0) S3 rfl rfl rfl Tryz.sizeOf198 (H0 rfl (H0 rfl (H0 rfl KV))) rfl ?_;intro w4 S4;replace S4:St _ ((bx b3 [vU a0.1,vU a0.2.1,vU a0.2.2] 198)::(bx b2 [vU 0,vU 0,vU 0] 187)::(bx b1 [vU a0.1,vU a0.2.1,vU a0.2.2] 187)::As) _:=S4;clear S3;refine Ag ?_;refine nrm ?_;obtain⟨x1,q1,hm⟩:=Aa hm;have L1:=Mem.rfl' m;refine Af ?_;refine Bn [4,5,7,8,9,10,11,12,13,14] (fun f' w'=> ∃(M1:Mem),m≤M1∧St M1 ((bx b3 [vU x1.1,vU x1.2.1,vU x1.2.2] 198)::(bx b2 [vU 0,vU 0,vU 0] 187)::(bx b1 [vU a0.1,vU a0.2.1,vU a0.2.2] 187)::As) w'∧B5 f' []) ?_ ?_
 ·refine Af ?_;refine Ac ?_;refine Ap (v:=vI 0) rfl ?_;refine Ag ?_;refine nrm ?_;obtain⟨x2,q2,q1⟩:=Aa q1;have L2:=Mem.rfl' m;refine Bn [4,5,7,8,9,10,11,12,13,14] (fun f' w'=> ∃(M2:Mem),m≤M2∧St M2 ((bx b3 [vU x2.1,vU x2.2.1,vU x2.2.2] 198)::(bx b2 [vU 0,vU 0,vU 0] 187)::(bx b1 [vU a0.1,vU a0.2.1,vU a0.2.2] 187)::As) w'∧B5 f' []) ?_ ?_
  ·refine AA ?_;refine BL [4,5,7,8,9,10,11,12,13,14] (fun n1 f' w'=> ∃(i1:Nat) (s1:UInt64×UInt64×UInt64) (m10:Mem),n1=8-i1∧i1≤8∧Ck EJ (8-i1) (i1:Int) s1=some x2∧m≤m10∧St m10 ((bx b3 [vU s1.1,vU s1.2.1,vU s1.2.2] 198)::(bx b2 [vU 0,vU 0,vU 0] 187)::(bx b1 [vU a0.1,vU a0.2.1,vU a0.2.2] 187)::As) w'∧B5 f' [(7,vI (i1:Int))]) 8 ⟨0,(a0.1,a0.2.1,a0.2.2),m,rfl,Nat.zero_le _,q2,L2,S4,⟨rfl,trivial⟩⟩ ?_;rintro n1 f1 w5 ho ⟨i1,s1,m1,hn,hi,q3,L4,S5,ha⟩;obtain⟨u1,rfl⟩:=BP (N:=16) ho ha;clear ho ha;have L3:=Mem.rfl' m1;clear S4;refine Af ?_;refine Ac ?_;refine IN (m:=(i1:Int)) (n:=8) rfl rfl ?_;refine Ag ?_;refine nrm ?_;refine Af ?_;refine B3 (t:=decide ((i1:Int)<(8:Int))) rfl (fun hc1=> ?_) (fun hc1=> ?_)
   ·have hlt1:i1<8:=by have:=of_decide_eq_true hc1; omega
    obtain⟨y1,q5,q4⟩:=Ge q3 hlt1;unfold EJ at q5;refine A7 ?_;refine nrm ?_;refine Af ?_;refine AA ?_;refine Af ?_;refine Ac ?_;refine Ap (v:=vI (i1:Int)) rfl ?_;refine EC S5 Tryz.zeroValue3 ?_;intro b5 w6 S6;replace S6:St _ ((bx b5 [vI 0] 3)::(bx b3 [vU s1.1,vU s1.2.1,vU s1.2.2] 198)::(bx b2 [vU 0,vU 0,vU 0] 187)::(bx b1 [vU a0.1,vU a0.2.1,vU a0.2.2] 187)::As) _:=S6;clear S5;refine Hb (i:=0) S6 rfl rfl rfl Tryz.sizeOf3 (H0 rfl KV) rfl ?_;intro w7 S7;replace S7:St _ ((bx b5 [vI (i1:Int)] 3)::(bx b3 [vU s1.1,vU s1.2.1,vU s1.2.2] 198)::(bx b2 [vU 0,vU 0,vU 0] 187)::(bx b1 [vU a0.1,vU a0.2.1,vU a0.2.2] 187)::As) _:=S7;clear S6;refine Ag ?_;refine nrm ?_;refine Af ?_;refine Ac ?_;refine EC S7 Tryz.zeroValue22 ?_;intro b6 w8 S8;replace S8:St _ ((bx b6 [vU 0] 22)::(bx b5 [vI (i1:Int)] 3)::(bx b3 [vU s1.1,vU s1.2.1,vU s1.2.2] 198)::(bx b2 [vU 0,vU 0,vU 0] 187)::(bx b1 [vU a0.1,vU a0.2.1,vU a0.2.2] 187)::As) _:=S8;clear S7;refine Ag ?_;refine nrm ?_;refine Af ?_;refine Ac ?_;refine Jm (caps:=[pt b5 0,pt b6 0]) rfl ?_;have hcb1: ∀{m':Mem} {As':List Ow} {w':World} {s:Int×UInt64} {X:List Ow} {b0:Int} {b1:UInt64} {r:UInt64×(Int×UInt64)},St m' (X++As') w'→(X=[bx b5 [vI ((s).1)] 3,bx b6 [vU ((s).2)] 22])→(fun(s2:Int×UInt64) (b7:Int) (b8:UInt64)=>Ad (DA b7 b8 ((s2).1) ((s2).2)) fun x4=>some (x4.1,(x4.2.1,x4.2.2))) s b0 b1=some r→Dt Tryz.prog (.func (.func 218) #[] #[pt b5 0,pt b6 0]) [vI b0,vU b1] w' fun v w''=> ∃(M:Mem) (X':List Ow),m'≤M∧St M (X'++As') w''∧(X'=[bx b5 [vI ((r.2).1)] 3,bx b6 [vU ((r.2).2)] 22])∧v=vU r.1:=by
     intro m2 As1 w9 s2 X1 b7 b8 r1 S9 h1 hm1;subst h1;replace S9:St _ ((bx b5 [vI ((s2).1)] 3)::(bx b6 [vU ((s2).2)] 22)::As1) _:=S9;have L5:=Mem.rfl' m2;obtain⟨x4,q7,hm1⟩:=Aa hm1;refine Dt.mono (Dt.clo (pre:=[]) Tryz.call218 rfl (Od (a0:=b7) (a1:=b8) (k0:=((s2).1)) (k1:=((s2).2)) S9 q7)) ?_;rintro _ w10 ⟨m3,l1,S10,rfl⟩;replace L5:=Mem.tr L5 l1;clear S9;replace S10:St _ ((bx b5 [vI x4.2.1] 3)::(bx b6 [vU x4.2.2] 22)::As1) _:=S10;have e0:=Option.some.inj hm1;subst e0;exact⟨_,[bx b5 [vI x4.2.1] 3,bx b6 [vU x4.2.2] 22],L5,S10,rfl,rfl⟩
    have S11:St _ ((bx b3 [vU s1.1,vU s1.2.1,vU s1.2.2] 198)::(bx b5 [vI (i1:Int)] 3)::(bx b6 [vU 0] 22)::(bx b2 [vU 0,vU 0,vU 0] 187)::(bx b1 [vU a0.1,vU a0.2.1,vU a0.2.2] 187)::As) _:=St.perm S8 (List.Perm.trans (List.Perm.cons _ (List.Perm.swap _ _ _)) (List.Perm.trans (List.Perm.swap _ _ _) (List.Perm.cons _ (List.Perm.swap _ _ _))));clear S8;obtain⟨x5,q8,q5⟩:=Aa q5;refine CJ Tryz.call217 (GI (a0:=s1) (p1:=(fun(s2:Int×UInt64) (b7:Int) (b8:UInt64)=>Ad (DA b7 b8 ((s2).1) ((s2).2)) fun x4=>some (x4.1,(x4.2.1,x4.2.2)))) (s0:=((i1:Int),0)) (R:=(fun(s:Int×UInt64) (M:Mem) (X:List Ow)=>(X=[bx b5 [vI ((s).1)] 3,bx b6 [vU ((s).2)] 22]))) (X0:=[bx b5 [vI (i1:Int)] 3,bx b6 [vU 0] 22]) (As:=(bx b2 [vU 0,vU 0,vU 0] 187)::(bx b1 [vU a0.1,vU a0.2.1,vU a0.2.2] 187)::As) S11 (fun {_ _ _ _} _ h=>h) rfl @hcb1 rfl q8) rfl ?_;rintro _ w11 ⟨m4,l2,X2,S12,rfl,rfl⟩;replace L3:=Mem.tr L3 l2;clear S11;replace S12:St _ ((bx b3 [vU x5.1.1,vU x5.1.2.1,vU x5.1.2.2] 198)::(bx b5 [vI x5.2.1] 3)::(bx b6 [vU x5.2.2] 22)::(bx b2 [vU 0,vU 0,vU 0] 187)::(bx b1 [vU a0.1,vU a0.2.1,vU a0.2.2] 187)::As) _:=S12;refine Ag ?_;refine nrm ?_;refine Ac ?_;refine Jm (caps:=[pt b6 0]) rfl ?_;have hcb2: ∀{m':Mem} {As':List Ow} {w':World} {s:UInt64} {X:List Ow} {b0:Int} {b1:UInt64} {r:UInt64×UInt64},St m' (X++As') w'→(X=[bx b6 [vU (s)] 22])→(fun(s3:UInt64) (b9:Int) (b10:UInt64)=>Ad (Dz b9 b10 s3) fun x6=>some (x6.1,x6.2)) s b0 b1=some r→Dt Tryz.prog (.func (.func 220) #[] #[pt b6 0]) [vI b0,vU b1] w' fun v w''=> ∃(M:Mem) (X':List Ow),m'≤M∧St M (X'++As') w''∧(X'=[bx b6 [vU (r.2)] 22])∧v=vU r.1:=by
     intro m5 As2 w12 s3 X3 b9 b10 r2 S13 h2 hm2;subst h2;replace S13:St _ ((bx b6 [vU s3] 22)::As2) _:=S13;have L6:=Mem.rfl' m5;obtain⟨x6,q9,hm2⟩:=Aa hm2;refine Dt.mono (Dt.clo (pre:=[]) Tryz.call220 rfl (Oc (a0:=b9) (a1:=b10) (k0:=s3) S13 q9)) ?_;rintro _ w13 ⟨m6,l3,S14,rfl⟩;replace L6:=Mem.tr L6 l3;clear S13;replace S14:St _ ((bx b6 [vU x6.2] 22)::As2) _:=S14;have e0:=Option.some.inj hm2;subst e0;exact⟨_,[bx b6 [vU x6.2] 22],L6,S14,rfl,rfl⟩
    have S15:St _ ((bx b3 [vU x5.1.1,vU x5.1.2.1,vU x5.1.2.2] 198)::(bx b6 [vU x5.2.2] 22)::(bx b5 [vI x5.2.1] 3)::(bx b2 [vU 0,vU 0,vU 0] 187)::(bx b1 [vU a0.1,vU a0.2.1,vU a0.2.2] 187)::As) _:=St.perm S12 (List.Perm.cons _ (List.Perm.swap _ _ _));clear S12;obtain⟨x7,q10,q5⟩:=Aa q5;refine CJ Tryz.call217 (GI (a0:=x5.1) (p1:=(fun(s3:UInt64) (b9:Int) (b10:UInt64)=>Ad (Dz b9 b10 s3) fun x6=>some (x6.1,x6.2))) (s0:=x5.2.2) (R:=(fun(s:UInt64) (M:Mem) (X:List Ow)=>(X=[bx b6 [vU (s)] 22]))) (X0:=[bx b6 [vU x5.2.2] 22]) (As:=(bx b5 [vI x5.2.1] 3)::(bx b2 [vU 0,vU 0,vU 0] 187)::(bx b1 [vU a0.1,vU a0.2.1,vU a0.2.2] 187)::As) S15 (fun {_ _ _ _} _ h=>h) rfl @hcb2 rfl q10) rfl ?_;rintro _ w14 ⟨m7,l4,X4,S16,rfl,rfl⟩;replace L3:=Mem.tr L3 l4;clear S15;replace S16:St _ ((bx b3 [vU x7.1.1,vU x7.1.2.1,vU x7.1.2.2] 198)::(bx b6 [vU x7.2] 22)::(bx b5 [vI x5.2.1] 3)::(bx b2 [vU 0,vU 0,vU 0] 187)::(bx b1 [vU a0.1,vU a0.2.1,vU a0.2.2] 187)::As) _:=S16;refine Ag ?_;refine J9 ?_;refine nrm ?_;refine Ac ?_;refine Fp (m:=(i1:Int)) (n:=1) rfl rfl ?_;refine Ap (v:=vI (w64 ((i1:Int)+1))) rfl ?_;refine Ag ?_;refine nrm ?_;obtain⟨m8,l5,S17⟩:=St.drop S16 1;replace L3:=Mem.tr L3 l5;clear S16;replace S17:St _ ((bx b3 [vU x7.1.1,vU x7.1.2.1,vU x7.1.2.2] 198)::(bx b5 [vI x5.2.1] 3)::(bx b2 [vU 0,vU 0,vU 0] 187)::(bx b1 [vU a0.1,vU a0.2.1,vU a0.2.2] 187)::As) _:=S17;obtain⟨m9,l6,S18⟩:=St.drop S17 1;replace L3:=Mem.tr L3 l6;clear S17;replace S18:St _ ((bx b3 [vU x7.1.1,vU x7.1.2.1,vU x7.1.2.2] 198)::(bx b2 [vU 0,vU 0,vU 0] 187)::(bx b1 [vU a0.1,vU a0.2.1,vU a0.2.2] 187)::As) _:=S18;have e0:=Option.some.inj q5;subst e0;exact⟨Fl,_,(by omega),⟨i1+1,(x7.1.1,x7.1.2.1,x7.1.2.2),m9,rfl,hlt1,q4,Mem.tr L4 L3,S18,⟨congrArg (Value.int .i64) (Bc hlt1 (by decide)),trivial⟩⟩⟩
   have hlt1: ¬i1<8:=by have:=of_decide_eq_false hc1; omega
   have e:=Eq.symm (Fk q3 hlt1);subst e;refine CH ?_;refine thE ?_;refine thE ?_;refine exB ?_;refine nrm ?_;exact⟨Fl,m1,Mem.tr L4 L3,S5,trivial⟩
  rintro f2 w15 ho ⟨m11,l7,S19,ha⟩;obtain⟨u2,rfl⟩:=BP (N:=16) ho ha;clear ho ha;replace L1:=Mem.tr L1 l7;clear S4;have e0:=Option.some.inj q1;subst e0;exact⟨Fl,m11,L1,S19,trivial⟩
 rintro f3 w16 ho ⟨m12,l8,S20,ha⟩;obtain⟨u3,rfl⟩:=BP (N:=16) ho ha;replace L0:=Mem.tr L0 l8;clear S4;refine Af ?_;refine Ac ?_;refine GS (i:=0) (cs:=[vU x1.1,vU x1.2.1,vU x1.2.2]) S20 rfl rfl Tryz.isAgg198 Tryz.sizeOf198 rfl (fun h=>by cases h) ?_;refine Hb (i:=1) S20 rfl rfl rfl Tryz.sizeOf187 (H0 rfl (H0 rfl (H0 rfl KV))) rfl ?_;intro w17 S21;replace S21:St _ ((bx b3 [vU x1.1,vU x1.2.1,vU x1.2.2] 198)::(bx b2 [vU x1.1,vU x1.2.1,vU x1.2.2] 187)::(bx b1 [vU a0.1,vU a0.2.1,vU a0.2.2] 187)::As) _:=S21;clear S20;refine Ag ?_;refine nrm ?_;refine Bl ?_;refine Dx ?_;intro we hpd;replace S21:=St.pd S21 hpd;have SR:=S21;obtain⟨m13,l9,S22⟩:=St.drop S21 0;replace L0:=Mem.tr L0 l9;replace S22:St _ ((bx b2 [vU x1.1,vU x1.2.1,vU x1.2.2] 187)::(bx b1 [vU a0.1,vU a0.2.1,vU a0.2.2] 187)::As) _:=S22;obtain⟨m14,l10,S23⟩:=St.drop S22 0;replace L0:=Mem.tr L0 l10;clear S22;replace S23:St _ ((bx b1 [vU a0.1,vU a0.2.1,vU a0.2.2] 187)::As) _:=S23;obtain⟨m15,l11,S24⟩:=St.drop S23 0;replace L0:=Mem.tr L0 l11;clear S23;replace S24:St _ (As) _:=S24;have e0:=Option.some.inj hm;subst e0;exact G4 [_] rfl ⟨Hf (i:=1) (off:=0) (cs:=[vU x1.1,vU x1.2.1,vU x1.2.2]) SR rfl rfl Tryz.isAgg187 Tryz.sizeOf187 rfl (fun h=>by cases h),trivial⟩ ⟨_,L0,S24,rfl⟩
def CY (x6:List UInt64)(i2:Int)(s2:UInt64×UInt64×UInt64):Option (UInt64×UInt64×UInt64):=Ad (idx x6 (i2:Int)) fun x9=>Ad (idx [s2.1,s2.2.1,s2.2.2] (i2:Int)) fun x10=>Ad (C2 x10 x9) fun x11=>Ad (idx [s2.1,s2.2.1,s2.2.2] (i2:Int)) fun x12=>bnd (if(i2:Int)=0 then x11 else s2.1) fun x13=>bnd (if(i2:Int)=1 then x11 else s2.2.1) fun x14=>bnd (if(i2:Int)=2 then x11 else s2.2.2) fun x15=>some (x13,x14,x15)
def By (s1:(List UInt64)×Bool×UInt64×UInt64×UInt64):Option (((List UInt64)×Bool×UInt64×UInt64×UInt64)⊕(UInt64×UInt64×UInt64)):=if(s1.2.1||(decide ((s1.1.length:Int)>0)))=true then Ad (Ad (cut s1.1 0 (Kc 2 (s1.1.length:Int))) fun x6=>Ad (Ck (CY x6) x6.length 0 (s1.2.2.1,s1.2.2.2.1,s1.2.2.2.2)) fun x7=>some (x7.1,x7.2.1,x7.2.2)) fun x5=>Ad (cut s1.1 (Kc 2 (s1.1.length:Int)) (s1.1.length:Int)) fun x16=>Ad (GZ x5) fun x17=>some (.inl (x16,false,x17.1,x17.2.1,x17.2.2))else some (.inr (s1.2.2.1,s1.2.2.2.1,s1.2.2.2.2))
def FU (a0:List UInt8):Option (UInt64×UInt64):=Ad (G0 a0) fun x1=>Ad (Ad (iter By E4 (x1,true,0,0,(toU (a0.length:Int)))) fun x3=>some (x3.1,x3.2.1,x3.2.2)) fun x2=>some (x2.1,x2.2.1)
theorem Rk {m:Mem}{As:List Ow}{w:World}{a0:List UInt8}{a0v0:Value}{r:UInt64×UInt64}(S:St m (As) w)(a0h0:SlR m a0v0 a0)(hm:FU a0=some r):
  Az Tryz.prog 165 #[a0v0] w fun v w'=> ∃(M:Mem),m≤M∧St M (As) w'∧v= .agg #[vU r.1,vU r.2]:=by
 unfold FU at hm;have L0:=Mem.rfl' m;refine Co (args:=[a0v0]) Tryz.func165 rfl Tryz.ntmps165 (Nat.le_of_ble_eq_true rfl) ?_;refine Af ?_;refine Ac ?_;refine EC S Tryz.zeroValue84 ?_;intro b1 w1 S1;replace S1:St _ ((bx b1 [vU 0,vU 0] 84)::As) _:=S1;clear S;refine Ag ?_;refine nrm ?_;refine Af ?_;refine Ac ?_;refine Ap (v:=a0v0) rfl ?_;refine HF (xs:=a0) rfl a0h0 Tryz.underlying52 ?_;refine Nj rfl Tryz.underlying3 Tryz.underlying22 ?_;refine Pu (parts:=[(2,.tmp 11)]) (ps:=[(2,vU (toU (a0.length:Int)),[vU (toU (a0.length:Int))])]) (cs:=[vU 0,vU 0,vU (toU (a0.length:Int))]) Tryz.zeroValue187 (Hj.arr Tryz.underlying187 Tryz.sizeOf22) rfl ⟨rfl,trivial⟩ rfl ?_;refine EC S1 Tryz.zeroValue187 ?_;intro b2 w2 S2;replace S2:St _ ((bx b2 [vU 0,vU 0,vU 0] 187)::(bx b1 [vU 0,vU 0] 84)::As) _:=S2;clear S1;refine Hb (i:=0) S2 rfl rfl rfl Tryz.sizeOf187 (H0 rfl (H0 rfl (H0 rfl KV))) rfl ?_;intro w3 S3;replace S3:St _ ((bx b2 [vU 0,vU 0,vU (toU (a0.length:Int))] 187)::(bx b1 [vU 0,vU 0] 84)::As) _:=S3;clear S2;refine Ag ?_;refine nrm ?_;refine Af ?_;refine Ac ?_;refine Ap (v:=a0v0) rfl ?_;obtain⟨x1,q1,hm⟩:=Aa hm;refine CJ Tryz.call199 (Rn (a0:=a0) S3 a0h0 q1) rfl ?_;rintro v1 w4 ⟨m1,l1,_,c1,S4,rfl,h1⟩;replace a0h0:=a0h0.up l1;replace L0:=Mem.tr L0 l1;clear S3;replace S4:St _ ((row 1 v1 c1 x1.length)::(bx b2 [vU 0,vU 0,vU (toU (a0.length:Int))] 187)::(bx b1 [vU 0,vU 0] 84)::As) _:=S4;refine Bb (v:=v1) rfl ?_;refine Ag ?_;refine nrm ?_;obtain⟨x2,q2,hm⟩:=Aa hm;have L1:=Mem.rfl' m1;refine Af ?_;refine Bn [4,5,6,7,8,15,16,17,18,19,20,21,22,23,24,25,26,27,28,29,30,31,32,33,34,35,36,37,38,39,40,41,42,43,44,45] (fun f' w'=> ∃(M1:Mem),m1≤M1∧St M1 ((bx b2 [vU x2.1,vU x2.2.1,vU x2.2.2] 187)::(bx b1 [vU 0,vU 0] 84)::As) w'∧B5 f' []) ?_ ?_
 ·refine Af ?_;refine Ac ?_;refine Bb (v:=vb true) rfl ?_;refine Ag ?_;refine nrm ?_;obtain⟨x3,q3,q2⟩:=Aa q2;have L2:=Mem.rfl' m1;obtain⟨m2,l2,h3,S5⟩:=St.rowKeepT (i:=0) S4 rfl h1 rfl;replace L2:=Mem.tr L2 l2;clear S4;refine Bn [4,5,6,7,8,15,16,17,18,19,20,21,22,23,24,25,26,27,28,29,30,31,32,33,34,35,36,37,38,39,40,41,42,43,44,45] (fun f' w'=> ∃(M2:Mem),m1≤M2∧St M2 ((bx b2 [vU x3.1,vU x3.2.1,vU x3.2.2] 187)::(bx b1 [vU 0,vU 0] 84)::As) w'∧B5 f' []) ?_ ?_
  ·refine AA ?_;refine BL [4,5,6,7,8,15,16,17,18,19,20,21,22,23,24,25,26,27,28,29,30,31,32,33,34,35,36,37,38,39,40,41,42,43,44,45] (fun n1 f' w'=> ∃(s1:(List UInt64)×Bool×UInt64×UInt64×UInt64) (m10:Mem) (v2:Value),iter By n1 s1=some x3∧m1≤m10∧St m10 ((bx b2 [vU s1.2.2.1,vU s1.2.2.2.1,vU s1.2.2.2.2] 187)::(bx b1 [vU 0,vU 0] 84)::As) w'∧SlR m10 v2 s1.1∧B5 f' [(4,v2),(5,vb s1.2.1)]) E4 ⟨(x1,true,0,0,(toU (a0.length:Int))),m2,_,q3,L2,S5,h3,⟨rfl,rfl,trivial⟩⟩ ?_;rintro n1 f1 w5 ho ⟨s1,m3,v2,q4,L4,S6,h2,ha⟩;obtain⟨u1,rfl⟩:=BP (N:=49) ho ha;clear ho ha;have L3:=Mem.rfl' m3;clear S5;cases n1 with
   |zero=>exact(BK q4).elim
   |succ n1=>
    obtain⟨y1,q6,q5⟩:=BE q4;unfold By at q6;refine Af ?_;refine Af ?_;refine Ac ?_;refine Ap (v:=vb s1.2.1) rfl ?_;refine Ap (v:=vb s1.2.1) rfl ?_;refine MH 4 [17,18,19,20] (fun f' w'=>w'=w5∧B5 f' [(20,vb (s1.2.1||(decide ((s1.1.length:Int)>0))))]) ?_ ?_
    ·rcases NU s1.2.1 with hb1|hb1
     ·refine E5 (d:=16) rfl rfl (congrArg Value.bool hb1) ?_;refine E5 (d:=16) rfl rfl (congrArg Value.bool hb1) ?_;refine E5 (d:=16) rfl rfl (congrArg Value.bool hb1) ?_;refine Hc (congrArg Value.bool hb1) rfl ?_;exact Ag (nrm ⟨Fl,rfl,congrArg Value.bool (or_t hb1),trivial⟩)
     ·refine Ec (d:=16) rfl rfl (congrArg Value.bool hb1) ?_;refine Ap (v:=v2) rfl ?_;refine Ec (d:=16) rfl rfl (congrArg Value.bool hb1) ?_;refine HF (xs:=s1.1) rfl h2 Tryz.underlying140 ?_;refine Ec (d:=16) rfl rfl (congrArg Value.bool hb1) ?_;refine Rx (m:=(s1.1.length:Int)) (n:=0) rfl rfl ?_;refine Hd (congrArg Value.bool hb1) rfl ?_;exact Ag (nrm ⟨Fl,rfl,congrArg Value.bool (or_f hb1),trivial⟩)
    rintro f2 w6 ho ⟨h4,ha⟩;subst h4;obtain⟨u2,rfl⟩:=BP (N:=49) ho ha;refine Ag ?_;refine nrm ?_;refine B3 (t:=(s1.2.1||(decide ((s1.1.length:Int)>0)))) rfl (fun hc1=> ?_) (fun hc1=> ?_)
    ·replace q6:=ifT hc1 q6;refine A7 ?_;refine nrm ?_;refine Af ?_;refine AA ?_;refine Af ?_;refine Ac ?_;refine Ap (v:=v2) rfl ?_;refine HF (xs:=s1.1) rfl h2 Tryz.underlying140 ?_;refine SE (m:=2) rfl rfl ?_;refine Bb (v:=vI (Kc 2 (s1.1.length:Int))) rfl ?_;refine Ag ?_;refine nrm ?_;obtain⟨x5,q8,q6⟩:=Aa q6;have L5:=Mem.rfl' m3;refine Af ?_;refine Bn [7,8,24,25,26,27,28,29,30,31,32,33,34,35,36,37,38,39,40] (fun f' w'=> ∃(M3:Mem),m3≤M3∧St M3 ((bx b2 [vU x5.1,vU x5.2.1,vU x5.2.2] 187)::(bx b1 [vU 0,vU 0] 84)::As) w'∧B5 f' []) ?_ ?_
     ·refine Af ?_;refine Ac ?_;refine Ap (v:=v2) rfl ?_;refine Ap (v:=vI (Kc 2 (s1.1.length:Int))) rfl ?_;obtain⟨x6,q9,q8⟩:=Aa q8;refine Ry (ys:=x6) (l:=0) (h:=(Kc 2 (s1.1.length:Int))) rfl h2 Tryz.underlying140 Tryz.sizeOf22 (.inl ⟨rfl,rfl⟩) (.inr ⟨_,rfl⟩) (.inl rfl) q9 ?_;intro v3 h5;refine HF (xs:=x6) rfl h5 Tryz.underlying140 ?_;refine Ap (v:=vI 0) rfl ?_;refine Ag ?_;refine nrm ?_;obtain⟨x7,q10,q8⟩:=Aa q8;have L6:=Mem.rfl' m3;refine Bn [7,8,28,29,30,31,32,33,34,35,36,37,38,39,40] (fun f' w'=> ∃(M4:Mem),m3≤M4∧St M4 ((bx b2 [vU x7.1,vU x7.2.1,vU x7.2.2] 187)::(bx b1 [vU 0,vU 0] 84)::As) w'∧B5 f' []) ?_ ?_
      ·refine AA ?_;refine BL [7,8,28,29,30,31,32,33,34,35,36,37,38,39,40] (fun n2 f' w'=> ∃(i2:Nat) (s2:UInt64×UInt64×UInt64) (m6:Mem),n2=x6.length-i2∧i2≤x6.length∧Ck (CY x6) (x6.length-i2) (i2:Int) s2=some x7∧m3≤m6∧St m6 ((bx b2 [vU s2.1,vU s2.2.1,vU s2.2.2] 187)::(bx b1 [vU 0,vU 0] 84)::As) w'∧B5 f' [(28,vI (i2:Int))]) x6.length ⟨0,(s1.2.2.1,s1.2.2.2.1,s1.2.2.2.2),m3,rfl,Nat.zero_le _,q10,L6,S6,⟨rfl,trivial⟩⟩ ?_;rintro n2 f3 w7 ho ⟨i2,s2,m4,hn,hi,q11,L8,S7,ha⟩;obtain⟨u3,rfl⟩:=BP (N:=49) ho ha;clear ho ha;replace h2:=h2.up L8;replace h5:=h5.up L8;have L7:=Mem.rfl' m4;clear S6;refine Af ?_;refine Ac ?_;refine IN (m:=(i2:Int)) (n:=(x6.length:Int)) rfl rfl ?_;refine Ag ?_;refine nrm ?_;refine Af ?_;refine B3 (t:=decide ((i2:Int)<(x6.length:Int))) rfl (fun hc2=> ?_) (fun hc2=> ?_)
       ·have hlt2:i2<x6.length:=by have:=of_decide_eq_true hc2; omega
        obtain⟨y2,q13,q12⟩:=Ge q11 hlt2;unfold CY at q13;refine A7 ?_;refine nrm ?_;refine Af ?_;refine AA ?_;refine Af ?_;refine Ac ?_;refine Ap (v:=vI (i2:Int)) rfl ?_;obtain⟨x9,q15,q13⟩:=Aa q13;refine SK (q:=x9) rfl rfl h5 q15 Tryz.underlying140 Tryz.sizeOf22 ?_;intro p1 c2 h6 r2;obtain rfl:c2=[vU x9]:=r2;refine SI (cs:=[vU x9]) S7 rfl h6 rfl Tryz.isAgg22 Tryz.sizeOf22 (fun _=>rfl) ?_;refine Bb (v:=vI (i2:Int)) rfl ?_;refine Bb (v:=vU x9) rfl ?_;refine Ag ?_;refine nrm ?_;refine Ac ?_;refine Ap (v:=vI (i2:Int)) rfl ?_;refine Ap (v:=vI (i2:Int)) rfl ?_;obtain⟨x10,q16,q13⟩:=Aa q13;refine KO (i:=(i2:Int)) rfl rfl Tryz.underlying187 Tryz.sizeOf22 (El q16).1 (El q16).2 ?_;refine GS (i:=0) (off:=0+(i2:Int).toNat*1) (cs:=[vU x10]) S7 rfl rfl Tryz.isAgg22 Tryz.sizeOf22 (by rcases Yo q16 with ⟨h,h'⟩|⟨h,h'⟩|⟨h,h'⟩<;>(rw[h,h']; rfl)) (fun _=>rfl) ?_;refine Ap (v:=vU x9) rfl ?_;obtain⟨x11,q17,q13⟩:=Aa q13;refine CJ Tryz.call200 (G8 (a0:=x10) (a1:=x9) S7 q17) rfl ?_;rintro _ w8 ⟨m5,l3,S8,rfl⟩;replace h2:=h2.up l3;replace h5:=h5.up l3;replace L7:=Mem.tr L7 l3;clear S7;replace S8:St _ ((bx b2 [vU s2.1,vU s2.2.1,vU s2.2.2] 187)::(bx b1 [vU 0,vU 0] 84)::As) _:=S8;obtain⟨x12,q18,q13⟩:=Aa q13;refine KO (i:=(i2:Int)) rfl rfl Tryz.underlying187 Tryz.sizeOf22 (El q18).1 (El q18).2 ?_;obtain⟨x13,q19,q13⟩:=CT q13;obtain⟨x14,q20,q13⟩:=CT q13;obtain⟨x15,q21,q13⟩:=CT q13;refine Xt (i:=0) (off:=0+(i2:Int).toNat*1) S8 rfl rfl rfl Tryz.sizeOf22 (RS.all (H0 rfl KV)) (by rcases Yo q18 with ⟨h,h'⟩|⟨h,h'⟩|⟨h,h'⟩<;>(rw[h]; exact Nat.le_of_ble_eq_true rfl)) ?_;intro w9 S9;replace S9:=St.cellsTo (i:=0) (l':=[vU x13,vU x14,vU x15]) S9 (by rcases Yo q18 with ⟨h,h'⟩|⟨h,h'⟩|⟨h,h'⟩<;>(simp only[q19,q20,q21,h]; rfl)) rfl;replace S9:St _ ((bx b2 [vU x13,vU x14,vU x15] 187)::(bx b1 [vU 0,vU 0] 84)::As) _:=S9;clear S8;refine Ag ?_;refine J9 ?_;refine nrm ?_;refine Ac ?_;refine Fp (m:=(i2:Int)) (n:=1) rfl rfl ?_;refine Ap (v:=vI (w64 ((i2:Int)+1))) rfl ?_;refine Ag ?_;refine nrm ?_;have e0:=Option.some.inj q13;subst e0;exact⟨Fl,_,(by omega),⟨i2+1,(x13,x14,x15),m5,rfl,hlt2,q12,Mem.tr L8 L7,S9,⟨congrArg (Value.int .i64) (Bc hlt2 (SlR.le h5)),trivial⟩⟩⟩
       have hlt2: ¬i2<x6.length:=by have:=of_decide_eq_false hc2; omega
       have e:=Eq.symm (Fk q11 hlt2);subst e;refine CH ?_;refine thE ?_;refine thE ?_;refine exB ?_;refine nrm ?_;exact⟨Fl,m4,Mem.tr L8 L7,S7,trivial⟩
      rintro f4 w10 ho ⟨m7,l4,S10,ha⟩;obtain⟨u4,rfl⟩:=BP (N:=49) ho ha;clear ho ha;replace h2:=h2.up l4;replace L5:=Mem.tr L5 l4;clear S6;have e0:=Option.some.inj q8;subst e0;exact⟨Fl,m7,L5,S10,trivial⟩
     rintro f5 w11 ho ⟨m8,l5,S11,ha⟩;obtain⟨u5,rfl⟩:=BP (N:=49) ho ha;replace h2:=h2.up l5;replace L3:=Mem.tr L3 l5;clear S6;refine Af ?_;refine Ac ?_;refine Ap (v:=v2) rfl ?_;refine Ap (v:=vI (Kc 2 (s1.1.length:Int))) rfl ?_;obtain⟨x16,q22,q6⟩:=Aa q6;refine Ry (ys:=x16) (l:=(Kc 2 (s1.1.length:Int))) (h:=(s1.1.length:Int)) rfl h2 Tryz.underlying140 Tryz.sizeOf22 (.inr ⟨_,rfl⟩) (.inl ⟨rfl,rfl⟩) (.inl rfl) q22 ?_;intro v4 h7;refine Bb (v:=v4) rfl ?_;refine Ag ?_;refine nrm ?_;refine Ac ?_;refine GS (i:=0) (cs:=[vU x5.1,vU x5.2.1,vU x5.2.2]) S11 rfl rfl Tryz.isAgg187 Tryz.sizeOf187 rfl (fun h=>by cases h) ?_;obtain⟨x17,q23,q6⟩:=Aa q6;refine CJ Tryz.call201 (Rm (a0:=x5) S11 q23) rfl ?_;rintro _ w12 ⟨m9,l6,S12,rfl⟩;replace h7:=h7.up l6;replace L3:=Mem.tr L3 l6;clear S11;replace S12:St _ ((bx b2 [vU x5.1,vU x5.2.1,vU x5.2.2] 187)::(bx b1 [vU 0,vU 0] 84)::As) _:=S12;refine Hb (i:=0) S12 rfl rfl rfl Tryz.sizeOf187 (H0 rfl (H0 rfl (H0 rfl KV))) rfl ?_;intro w13 S13;replace S13:St _ ((bx b2 [vU x17.1,vU x17.2.1,vU x17.2.2] 187)::(bx b1 [vU 0,vU 0] 84)::As) _:=S13;clear S12;refine Ag ?_;refine J9 ?_;refine nrm ?_;refine Ac ?_;refine Bb (v:=vb false) rfl ?_;refine Ag ?_;refine nrm ?_;have e0:=Option.some.inj q6;subst e0;rcases q5 with ⟨sn,e,q5'⟩|e
     ·cases e;exact⟨Fl,_,Nat.lt_succ_self _,⟨_,m9,_,q5',Mem.tr L4 L3,S13,h7,⟨rfl,rfl,trivial⟩⟩⟩
     ·cases e
    replace q6:=ifF hc1 q6;refine CH ?_;refine thE ?_;refine thE ?_;refine exB ?_;refine nrm ?_;have e0:=Option.some.inj q6;subst e0;rcases q5 with ⟨sn,e,_⟩|e
    ·cases e
    ·cases e;exact⟨Fl,m3,Mem.tr L4 L3,S6,trivial⟩
  rintro f6 w14 ho ⟨m11,l7,S14,ha⟩;obtain⟨u6,rfl⟩:=BP (N:=49) ho ha;clear ho ha;replace L1:=Mem.tr L1 l7;clear S5;have e0:=Option.some.inj q2;subst e0;exact⟨Fl,m11,L1,S14,trivial⟩
 rintro f7 w15 ho ⟨m12,l8,S15,ha⟩;obtain⟨u7,rfl⟩:=BP (N:=49) ho ha;replace L0:=Mem.tr L0 l8;clear S4;refine Af ?_;refine Ac ?_;refine J4 (k:=2) (n:=3) (sz:=1) rfl Tryz.underlying187 Tryz.sizeOf22 (.inr ⟨_,rfl⟩) (by decide) ?_;refine Xs rfl Tryz.underlying84 (by decide) ?_;refine GS (i:=0) (cs:=[vU x2.1,vU x2.2.1]) S15 rfl rfl Tryz.isAgg84 Tryz.sizeOf84 rfl (fun h=>by cases h) ?_;refine Hb (i:=1) S15 rfl rfl rfl Tryz.sizeOf84 (H0 rfl (H0 rfl KV)) rfl ?_;intro w16 S16;replace S16:St _ ((bx b2 [vU x2.1,vU x2.2.1,vU x2.2.2] 187)::(bx b1 [vU x2.1,vU x2.2.1] 84)::As) _:=S16;clear S15;refine Ag ?_;refine nrm ?_;refine Bl ?_;refine Dx ?_;intro we hpd;replace S16:=St.pd S16 hpd;have SR:=S16;obtain⟨m13,l9,S17⟩:=St.drop S16 0;replace L0:=Mem.tr L0 l9;replace S17:St _ ((bx b1 [vU x2.1,vU x2.2.1] 84)::As) _:=S17;obtain⟨m14,l10,S18⟩:=St.drop S17 0;replace L0:=Mem.tr L0 l10;clear S17;replace S18:St _ (As) _:=S18;have e0:=Option.some.inj hm;subst e0;exact G4 [_] rfl ⟨Hf (i:=1) (off:=0) (cs:=[vU x2.1,vU x2.2.1]) SR rfl rfl Tryz.isAgg84 Tryz.sizeOf84 rfl (fun h=>by cases h),trivial⟩ ⟨_,L0,S18,rfl⟩
theorem Rw {a0:List UInt8}{r:UInt64×UInt64}(hm:FU a0=some r):Sf prog 165 [sl eB a0] (ag (Lj r)):=
 ⟨call165,fun η m As w vs hv0 hd S=>by
  have S:St m As w:=S;obtain⟨v0,u0,rfl,r0,hv1⟩:=Bj.cons_inv hv0;have f0:=Br.ofS Br.b r0.dd;obtain rfl:=Bj.nil_inv hv1;refine Az.mono (Rk S f0 hm) ?_;rintro v w' ⟨M,hle,S0,rfl⟩;exact⟨M,none0,_,_,_,hle,RM hd _,⟨rfl,rfl,rfl⟩,fun n h=>absurd rfl h,(Br.toA UH (LH)),S0⟩⟩
def Da (i1:Int)(x4:List UInt8)(s1:(List UInt8)):Option ((List UInt8)):=Ad (FQ s1 (toU (x4.length:Int)) 4) fun x5=>Ad (app 1 x5 x4) fun x6=>some x6
def DS (a0:ByteArray)(a1:List (List UInt8)):Option (UInt64×UInt64):=Ad (app 1 ([(toB (a0.size:Int))]:List UInt8) a0.data.toList) fun x1=>Ad (Ad (EU Da a1 0 x1) fun x3=>some x3) fun x2=>Ad (FU x2) fun x7=>some x7
theorem IH {a0:ByteArray}{a1:List (List UInt8)}{r:UInt64×UInt64}(hm:DS a0 a1=some r):Sf prog 111 [.d (.s a0),sl (eL eB) a1] (ag (Lj r)):=
 sp call111 func111 rfl ntmps111 rfl fun D0 As η0 m0 hd=>by
  unfold DS at hm;refine glit (k:=1) eB ([(toB (a0.size:Int))]:List UInt8) (fun _=>rfl) ?_;obtain⟨x1,q1,hm⟩:=Aa hm;refine gapS q1 ?_;obtain⟨x2,q2,hm⟩:=Aa hm;obtain⟨x3,q3,q2⟩:=Aa q2;refine Mq 0 (E:=(eL eB)) (xs:=a1) 14 fun hle1=> ?_;refine gjU 0 (fun(_:Unit)=>⟨[(4,.pb 0 0),(5,.ow 1)],[(0,.row 1 1 _ eB x2),(1,.box 0 [.d (.u 0),.d (.u 0)] 84)],[],2⟩) (fun _=>True) (fun Jp bk1=> ?_) fun _ _=> ?_
  ·refine gjU 0 (fun(_:Unit)=>⟨[(4,.pb 0 0),(5,.ow 1)],[(0,.row 1 1 _ eB x3),(1,.box 0 [.d (.u 0),.d (.u 0)] 84)],[],2⟩) (fun _=>True) (fun Jp bk2=> ?_) fun _ _=> ?_
   ·refine gl hd (fun(p:Int×((List UInt8)))=>let (p0,p_0):=p; ⟨[(4,.pb 0 0),(5,.ow 1),(14,sl (eL eB) a1),(15,.d (.i (a1.length:Int))),(16,.d (.i p0))],[(0,.row 1 1 _ eB p_0),(1,.box 0 [.d (.u 0),.d (.u 0)] 84)],[],2⟩) (fun p=> ∃i:Nat,p.1=(i:Int)∧i≤a1.length∧EU Da (a1.drop i) (i:Int) p.2=some x3) (fun p=>a1.length-p.1.toNat) (0,x1) ⟨0,rfl,Nat.zero_le _,q3⟩ ?_;rintro⟨_,s1⟩ ⟨i1,rfl,hi,q4⟩ Jl bl1;refine gi' (b:=decide ((i1:Int)<(a1.length:Int))) (fun hc1=> ?_) fun hc1=> ?_
    ·have hlt1:i1<a1.length:=by have:=of_decide_eq_true hc1; omega
     obtain⟨x4,y1,q7,q6,q5⟩:=H9 q4 hlt1;unfold Da at q6;refine Hs (k:=1) (E:=(eL eB)) (fun _=>rfl) (fun _=>q7) ?_;obtain⟨x5,q8,q6⟩:=Aa q6;refine gco (Rj q8) ?_;obtain⟨x6,q9,q6⟩:=Aa q6;refine RK (k:=1) (E:=eB) (fun _=>rfl) q9 ?_;have e0:=Option.some.inj q6;subst e0;exact gb bl1 hd (w64 ((i1:Int)+1),x6) ⟨⟨i1+1,Bc hlt1 hle1,by omega,q5⟩,Gl hlt1 hle1⟩
    have hlt1: ¬i1<a1.length:=by have:=of_decide_eq_false hc1; omega
    have e:=Eq.symm (G2 q4 hlt1);subst e;exact gb bk2 hd () trivial
   have e0:=Option.some.inj q2;subst e0;exact gb bk1 hd () trivial
  obtain⟨x7,q10,hm⟩:=Aa hm;refine gco (Rw q10) ?_;have e0:=Option.some.inj hm;subst e0;exact AO hd
def EG (a0:UInt64)(i1:Int)(s1:UInt8×UInt8×UInt8×UInt8×UInt8×UInt8×UInt8×UInt8):Option (UInt8×UInt8×UInt8×UInt8×UInt8×UInt8×UInt8×UInt8):=if(0:Int)≤(w64 (8*(i1:Int)))then Ad (idx [s1.1,s1.2.1,s1.2.2.1,s1.2.2.2.1,s1.2.2.2.2.1,s1.2.2.2.2.2.1,s1.2.2.2.2.2.2.1,s1.2.2.2.2.2.2.2] (w64 (7-(i1:Int)))) fun x4=>bnd (if(w64 (7-(i1:Int)))=0 then(toB ((De a0 ((w64 (8*(i1:Int))).toNat)).toNat:Int))else s1.1) fun x5=>bnd (if(w64 (7-(i1:Int)))=1 then(toB ((De a0 ((w64 (8*(i1:Int))).toNat)).toNat:Int))else s1.2.1) fun x6=>bnd (if(w64 (7-(i1:Int)))=2 then(toB ((De a0 ((w64 (8*(i1:Int))).toNat)).toNat:Int))else s1.2.2.1) fun x7=>bnd (if(w64 (7-(i1:Int)))=3 then(toB ((De a0 ((w64 (8*(i1:Int))).toNat)).toNat:Int))else s1.2.2.2.1) fun x8=>bnd (if(w64 (7-(i1:Int)))=4 then(toB ((De a0 ((w64 (8*(i1:Int))).toNat)).toNat:Int))else s1.2.2.2.2.1) fun x9=>bnd (if(w64 (7-(i1:Int)))=5 then(toB ((De a0 ((w64 (8*(i1:Int))).toNat)).toNat:Int))else s1.2.2.2.2.2.1) fun x10=>bnd (if(w64 (7-(i1:Int)))=6 then(toB ((De a0 ((w64 (8*(i1:Int))).toNat)).toNat:Int))else s1.2.2.2.2.2.2.1) fun x11=>bnd (if(w64 (7-(i1:Int)))=7 then(toB ((De a0 ((w64 (8*(i1:Int))).toNat)).toNat:Int))else s1.2.2.2.2.2.2.2) fun x12=>some (x5,x6,x7,x8,x9,x10,x11,x12)else none
def CP (a0:UInt64):Option (List UInt8):=Ad (Ad (Ck (EG a0) 8 0 (0,0,0,0,0,0,0,0)) fun x2=>some (x2.1,x2.2.1,x2.2.2.1,x2.2.2.2.1,x2.2.2.2.2.1,x2.2.2.2.2.2.1,x2.2.2.2.2.2.2.1,x2.2.2.2.2.2.2.2)) fun x1=>some ([x1.1,x1.2.1,x1.2.2.1,x1.2.2.2.1,x1.2.2.2.2.1,x1.2.2.2.2.2.1,x1.2.2.2.2.2.2.1,x1.2.2.2.2.2.2.2]:List UInt8)
theorem N6 {m:Mem}{As:List Ow}{w:World}{a0:UInt64}{r:List UInt8}(S:St m (As) w)(hm:CP a0=some r):
  Az Tryz.prog 112 #[vU a0] w fun v w'=> ∃(M:Mem),m≤M∧∃(rv0:Value) (rc0:List Value),St M ((row 1 rv0 rc0 r.length)::As) w'∧v=rv0∧Bq M rc0 r:=by
 unfold CP at hm;have L0:=Mem.rfl' m;refine Co (args:=[vU a0]) Tryz.func112 rfl Tryz.ntmps112 (Nat.le_of_ble_eq_true rfl) ?_;refine Af ?_;refine Ac ?_;refine Bb (v:= .slice none 0 0) rfl ?_;refine Ag ?_;refine nrm ?_;refine Af ?_;refine Ac ?_;refine EC S Tryz.zeroValue155 ?_;intro b1 w1 S1;replace S1:St _ ((bx b1 [vB 0,vB 0,vB 0,vB 0,vB 0,vB 0,vB 0,vB 0] 155)::As) _:=S1;clear S;refine Ag ?_;refine nrm ?_;obtain⟨x1,q1,hm⟩:=Aa hm;have L1:=Mem.rfl' m;refine Af ?_;refine Bn [4,5,6,7,8,9,10,11,12,13,14,15,16] (fun f' w'=> ∃(M1:Mem),m≤M1∧St M1 ((bx b1 [vB x1.1,vB x1.2.1,vB x1.2.2.1,vB x1.2.2.2.1,vB x1.2.2.2.2.1,vB x1.2.2.2.2.2.1,vB x1.2.2.2.2.2.2.1,vB x1.2.2.2.2.2.2.2] 155)::As) w'∧B5 f' []) ?_ ?_
 ·refine Af ?_;refine Ac ?_;refine Ap (v:=vI 0) rfl ?_;refine Ag ?_;refine nrm ?_;obtain⟨x2,q2,q1⟩:=Aa q1;have L2:=Mem.rfl' m;refine Bn [4,5,6,7,8,9,10,11,12,13,14,15,16] (fun f' w'=> ∃(M2:Mem),m≤M2∧St M2 ((bx b1 [vB x2.1,vB x2.2.1,vB x2.2.2.1,vB x2.2.2.2.1,vB x2.2.2.2.2.1,vB x2.2.2.2.2.2.1,vB x2.2.2.2.2.2.2.1,vB x2.2.2.2.2.2.2.2] 155)::As) w'∧B5 f' []) ?_ ?_
  ·refine AA ?_;refine BL [4,5,6,7,8,9,10,11,12,13,14,15,16] (fun n1 f' w'=> ∃(i1:Nat) (s1:UInt8×UInt8×UInt8×UInt8×UInt8×UInt8×UInt8×UInt8) (m2:Mem),n1=8-i1∧i1≤8∧Ck (EG a0) (8-i1) (i1:Int) s1=some x2∧m≤m2∧St m2 ((bx b1 [vB s1.1,vB s1.2.1,vB s1.2.2.1,vB s1.2.2.2.1,vB s1.2.2.2.2.1,vB s1.2.2.2.2.2.1,vB s1.2.2.2.2.2.2.1,vB s1.2.2.2.2.2.2.2] 155)::As) w'∧B5 f' [(5,vI (i1:Int))]) 8 ⟨0,(0,0,0,0,0,0,0,0),m,rfl,Nat.zero_le _,q2,L2,S1,⟨rfl,trivial⟩⟩ ?_;rintro n1 f1 w2 ho ⟨i1,s1,m1,hn,hi,q3,L4,S2,ha⟩;obtain⟨u1,rfl⟩:=BP (N:=18) ho ha;clear ho ha;have L3:=Mem.rfl' m1;clear S1;refine Af ?_;refine Ac ?_;refine IN (m:=(i1:Int)) (n:=8) rfl rfl ?_;refine Ag ?_;refine nrm ?_;refine Af ?_;refine B3 (t:=decide ((i1:Int)<(8:Int))) rfl (fun hc1=> ?_) (fun hc1=> ?_)
   ·have hlt1:i1<8:=by have:=of_decide_eq_true hc1; omega
    obtain⟨y1,q5,q4⟩:=Ge q3 hlt1;unfold EG at q5;refine A7 ?_;refine nrm ?_;refine Af ?_;refine AA ?_;refine Af ?_;refine Ac ?_;refine Ap (v:=vI (i1:Int)) rfl ?_;refine Bb (v:=vI (i1:Int)) rfl ?_;refine Ag ?_;refine nrm ?_;refine Ac ?_;refine Ap (v:=vI (i1:Int)) rfl ?_;refine KM (m:=7) (n:=(i1:Int)) rfl rfl ?_;refine Ap (v:=vU a0) rfl ?_;refine Ap (v:=vI (i1:Int)) rfl ?_;refine OA (m:=8) (n:=(i1:Int)) rfl rfl ?_;obtain⟨q7,q5⟩:=B2 q5;refine We (m:=a0) (n:=(w64 (8*(i1:Int)))) rfl rfl q7 ?_;refine Pt rfl Tryz.underlying22 Tryz.underlying5 ?_;obtain⟨x4,q8,q5⟩:=Aa q5;refine KO (i:=(w64 (7-(i1:Int)))) rfl rfl Tryz.underlying155 Tryz.sizeOf5 (El q8).1 (El q8).2 ?_;obtain⟨x5,q9,q5⟩:=CT q5;obtain⟨x6,q10,q5⟩:=CT q5;obtain⟨x7,q11,q5⟩:=CT q5;obtain⟨x8,q12,q5⟩:=CT q5;obtain⟨x9,q13,q5⟩:=CT q5;obtain⟨x10,q14,q5⟩:=CT q5;obtain⟨x11,q15,q5⟩:=CT q5;obtain⟨x12,q16,q5⟩:=CT q5;refine Xt (i:=0) (off:=0+(w64 (7-(i1:Int))).toNat*1) S2 rfl rfl rfl Tryz.sizeOf5 (RS.all (H0 rfl KV)) (by rcases idx8 q8 with ⟨h,h'⟩|⟨h,h'⟩|⟨h,h'⟩|⟨h,h'⟩|⟨h,h'⟩|⟨h,h'⟩|⟨h,h'⟩|⟨h,h'⟩<;>(rw[h]; exact Nat.le_of_ble_eq_true rfl)) ?_;intro w3 S3;replace S3:=St.cellsTo (i:=0) (l':=[vB x5,vB x6,vB x7,vB x8,vB x9,vB x10,vB x11,vB x12]) S3 (by rcases idx8 q8 with ⟨h,h'⟩|⟨h,h'⟩|⟨h,h'⟩|⟨h,h'⟩|⟨h,h'⟩|⟨h,h'⟩|⟨h,h'⟩|⟨h,h'⟩<;>(simp only[q9,q10,q11,q12,q13,q14,q15,q16,h]; rfl)) rfl;replace S3:St _ ((bx b1 [vB x5,vB x6,vB x7,vB x8,vB x9,vB x10,vB x11,vB x12] 155)::As) _:=S3;clear S2;refine Ag ?_;refine J9 ?_;refine nrm ?_;refine Ac ?_;refine Fp (m:=(i1:Int)) (n:=1) rfl rfl ?_;refine Ap (v:=vI (w64 ((i1:Int)+1))) rfl ?_;refine Ag ?_;refine nrm ?_;have e0:=Option.some.inj q5;subst e0;exact⟨Fl,_,(by omega),⟨i1+1,(x5,x6,x7,x8,x9,x10,x11,x12),m1,rfl,hlt1,q4,Mem.tr L4 L3,S3,⟨congrArg (Value.int .i64) (Bc hlt1 (by decide)),trivial⟩⟩⟩
   have hlt1: ¬i1<8:=by have:=of_decide_eq_false hc1; omega
   have e:=Eq.symm (Fk q3 hlt1);subst e;refine CH ?_;refine thE ?_;refine thE ?_;refine exB ?_;refine nrm ?_;exact⟨Fl,m1,Mem.tr L4 L3,S2,trivial⟩
  rintro f2 w4 ho ⟨m3,l1,S4,ha⟩;obtain⟨u2,rfl⟩:=BP (N:=18) ho ha;clear ho ha;replace L1:=Mem.tr L1 l1;clear S1;have e0:=Option.some.inj q1;subst e0;exact⟨Fl,m3,L1,S4,trivial⟩
 rintro f3 w5 ho ⟨m4,l2,S5,ha⟩;obtain⟨u3,rfl⟩:=BP (N:=18) ho ha;replace L0:=Mem.tr L0 l2;clear S1;refine Af ?_;refine Ac ?_;refine J4 (k:=8) (n:=8) (sz:=1) (off:=0) rfl Tryz.underlying155 Tryz.sizeOf5 (.inl ⟨rfl,rfl⟩) (Nat.le_refl _) ?_;have S6:=St.bxRow (i:=0) (sz:=1) (n:=8) S5 rfl rfl (by decide);have h1:Bq m4 [vB x1.1,vB x1.2.1,vB x1.2.2.1,vB x1.2.2.2.1,vB x1.2.2.2.2.1,vB x1.2.2.2.2.2.1,vB x1.2.2.2.2.2.2.1,vB x1.2.2.2.2.2.2.2] ([x1.1,x1.2.1,x1.2.2.1,x1.2.2.2.1,x1.2.2.2.2.1,x1.2.2.2.2.2.1,x1.2.2.2.2.2.2.1,x1.2.2.2.2.2.2.2]:List UInt8):=(Bq.cons (c:=[vB x1.1]) rfl (Bq.cons (c:=[vB x1.2.1]) rfl (Bq.cons (c:=[vB x1.2.2.1]) rfl (Bq.cons (c:=[vB x1.2.2.2.1]) rfl (Bq.cons (c:=[vB x1.2.2.2.2.1]) rfl (Bq.cons (c:=[vB x1.2.2.2.2.2.1]) rfl (Bq.cons (c:=[vB x1.2.2.2.2.2.2.1]) rfl (Bq.cons (c:=[vB x1.2.2.2.2.2.2.2]) rfl Bq.nil))))))));replace S6:St _ ((row 1 (.slice (some ⟨b1,0,none⟩) 8 8) [vB x1.1,vB x1.2.1,vB x1.2.2.1,vB x1.2.2.2.1,vB x1.2.2.2.2.1,vB x1.2.2.2.2.2.1,vB x1.2.2.2.2.2.2.1,vB x1.2.2.2.2.2.2.2] ([x1.1,x1.2.1,x1.2.2.1,x1.2.2.2.1,x1.2.2.2.2.1,x1.2.2.2.2.2.1,x1.2.2.2.2.2.2.1,x1.2.2.2.2.2.2.2]:List UInt8).length)::As) _:=S6;clear S5;refine Bb (v:=(.slice (some ⟨b1,0,none⟩) 8 8)) rfl ?_;refine Ag ?_;refine nrm ?_;refine Bl ?_;refine Dx ?_;intro we hpd;replace S6:=St.pd S6 hpd;have e0:=Option.some.inj hm;subst e0;exact G4 [_] rfl ⟨rfl,trivial⟩ ⟨_,L0,_,_,S6,rfl,h1⟩
theorem HD {a0:UInt64}{r:List UInt8}(hm:CP a0=some r):Sp prog 112 [.d (.u a0)] [] 0 (is (.ow 0) [.row 0 1 _ eB r] 1):=
 ⟨call112,fun η m As w vs hv0 hd S=>by
  have S:St m As w:=S;obtain⟨v0,u0,rfl,r0,hv1⟩:=Bj.cons_inv hv0;obtain rfl:=r0.u_inv;obtain rfl:=Bj.nil_inv hv1;refine Az.mono (N6 S hm) ?_;rintro v w' ⟨M,hle,y0,c0,S0,rfl,h0⟩;exact⟨M,(YE [v]),_,_,_,hle,RM hd _,⟨rfl,rfl,rfl⟩,H8 rfl,(.ow rfl (D4 S0)),(St.impL S0 (sepC (Br.toR Br.b rfl rfl (D4 S0) h0) fun _ h=>h))⟩⟩
def BF (a0:UInt64)(a1:UInt64)(a2:List UInt8):Option UInt64:=Ad (CP a0) fun x1=>Ad (CP a1) fun x2=>Ad (DS (⟨#[115,105,103,110]⟩:ByteArray) ([x1,x2,a2]:List (List UInt8))) fun x3=>Ad (FV x3 1152921504606845789) fun x4=>some x4
theorem Hk {a0:UInt64}{a1:UInt64}{a2:List UInt8}{r:UInt64}(hm:BF a0 a1 a2=some r):Sf prog 63 [.d (.u a0),.d (.u a1),sl eB a2] (.d (.u r)):=
 sp call63 func63 rfl ntmps63 rfl fun D0 As η0 m0 hd=>by
  unfold BF at hm;obtain⟨x1,q1,hm⟩:=Aa hm;refine gco (HD q1) ?_;obtain⟨x2,q2,hm⟩:=Aa hm;refine gco (HD q2) ?_;refine Ys (k:=1) (eL eB) ([x1,x2,a2]:List (List UInt8)) (fun _=>rfl) ?_;obtain⟨x3,q3,hm⟩:=Aa hm;refine gc (fun _=>IH q3) ?_;obtain⟨x4,q4,hm⟩:=Aa hm;refine gc (fun _=>LR q4) ?_;have e0:=Option.some.inj hm;subst e0;exact AO hd
def DD (a0:UInt64)(a1:UInt64):Option UInt64:=Ad (A5 2305843009213691579 a0 a1) fun x1=>some x1
theorem Oh {a0:UInt64}{a1:UInt64}{r:UInt64}(hm:DD a0 a1=some r):Sf prog 64 [.d (.u a0),.d (.u a1)] (.d (.u r)):=
 sp call64 func64 rfl ntmps64 rfl fun D0 As η0 m0 hd=>by
  unfold DD at hm;obtain⟨x1,q1,hm⟩:=Aa hm;refine gc (fun _=>GU q1) ?_;have e0:=Option.some.inj hm;subst e0;exact AO hd
def B7 (a0:UInt64):Option UInt64:=Ad (BU 4 a0) fun x1=>some x1
theorem G7 {a0:UInt64}{r:UInt64}(hm:B7 a0=some r):Sf prog 65 [.d (.u a0)] (.d (.u r)):=
 sp call65 func65 rfl ntmps65 rfl fun D0 As η0 m0 hd=>by
  unfold B7 at hm;obtain⟨x1,q1,hm⟩:=Aa hm;refine gc (fun _=>HG q1) ?_;have e0:=Option.some.inj hm;subst e0;exact AO hd
def Cb (a0:UInt64)(a1:List UInt8)(a2:g_api_Sig):Option Int:=Ad (Ej a0) fun x1=>if(!x1)=true then some 1 else if(decide (((KY a2.E a2.S).toNat:Int)≥1152921504606845789))=true then some 40 else Ad (BU a0 a2.E) fun x2=>Ad (CR x2) fun x3=>Ad (gu (!(x3.2 !=0)) (B7 a2.S)) fun x4=>Ad (gu (!(x3.2 !=0)) (DD x4 x3.1)) fun x5=>Ad (gu (!(x3.2 !=0)) (BF x5 a0 a1)) fun x6=>if((x3.2 !=0)||((x6.toNat:Int) !=(a2.E.toNat:Int)))=true then some 40 else some 0
theorem N7 {a0:UInt64}{a1:List UInt8}{a2:g_api_Sig}{r:Int}(hm:Cb a0 a1 a2=some r):Sf prog 29 [.d (.u a0),sl eB a1,ag (HS a2)] (.d (.i r)):=
 sp call29 func29 rfl ntmps29 rfl fun D0 As η0 m0 hd=>by
  unfold Cb at hm;obtain⟨x1,q1,hm⟩:=Aa hm;refine gc (fun _=>Pl q1) ?_;refine gi hm (fun hc1 hm=> ?_) fun hc1 hm=> ?_
  ·skip;have e0:=Option.some.inj hm;subst e0;exact AO hd
  refine gi hm (fun hc2 hm=> ?_) fun hc2 hm=> ?_
  ·skip;have e0:=Option.some.inj hm;subst e0;exact AO hd
  obtain⟨x2,q2,hm⟩:=Aa hm;refine gc (fun _=>HG q2) ?_;obtain⟨x3,q3,hm⟩:=Aa hm;refine gc (fun _=>Oi q3) ?_;obtain⟨x4,q4,hm⟩:=Aa hm;refine gcG (fun h=>G7 (G5 h q4)) ?_;obtain⟨x5,q5,hm⟩:=Aa hm;refine gcG (fun h=>Oh (G5 h q5)) ?_;obtain⟨x6,q6,hm⟩:=Aa hm;refine gcG (fun h=>Hk (G5 h q6)) ?_;refine gi hm (fun hc3 hm=> ?_) fun hc3 hm=> ?_
  ·skip;have e0:=Option.some.inj hm;subst e0;exact AO hd
  have e0:=Option.some.inj hm;subst e0;exact AO hd
def Dg (i1:Int)(x2:g_api_Cert)(s1:Unit):Option ((Unit)⊕Int):=Ad (CS x2) fun x3=>if(x3 !=0)=true then some (.inr x3)else some (.inl ())
def CA (a0:g_api_Cert)(a1:g_api_Cert):Option Int:=Ad (DX Dg ([a0,a1]:List g_api_Cert) 0 ()) fun x1=>match x1 with| .inr r=>some r| .inl y1=>if((!a1.Ca)||(!eqS a0.Issuer a1.Subject))=true then some 191 else Ad (DH a0) fun x4=>Ad (Cb a1.Key x4.1 a0.Sig) fun x5=>if(x5 !=0)=true then some 40 else some 0
theorem E9 {a0:g_api_Cert}{a1:g_api_Cert}{r:Int}(hm:CA a0 a1=some r):Sf prog 13 [ag (Ae a0),ag (Ae a1)] (.d (.i r)):=
 sp call13 func13 rfl ntmps13 rfl fun D0 As η0 m0 hd=>by
  unfold CA at hm;refine ES (k:=13) Ae ([a0,a1]:List g_api_Cert) (fun _=>rfl) ?_;obtain⟨x1,q1,hm⟩:=Aa hm;refine Mq 0 (E:=Ae) (xs:=([a0,a1]:List g_api_Cert)) 12 fun hle1=> ?_;refine gjU 0 (fun(y1:Unit)=>⟨[(2,.pb 0 0),(3,.pb 1 0)],[(0,.box 1 [.d (.i a1.Serial),.d (.s a1.Issuer),.d (.s a1.Subject),.d (.u a1.Key),sl eS a1.Names,.d (.i a1.From),.d (.i a1.Until),.d (.t a1.Ca),.d (.i a1.Depth),sl eS a1.Permit,sl Ak a1.Proms,.d (.u a1.Sig.E),.d (.u a1.Sig.S)] 28),(1,.box 0 [.d (.i a0.Serial),.d (.s a0.Issuer),.d (.s a0.Subject),.d (.u a0.Key),sl eS a0.Names,.d (.i a0.From),.d (.i a0.Until),.d (.t a0.Ca),.d (.i a0.Depth),sl eS a0.Permit,sl Ak a0.Proms,.d (.u a0.Sig.E),.d (.u a0.Sig.S)] 28)],[],2⟩) (fun y1=>x1= .inl y1) (fun Jp bk1=> ?_) fun y1 hy=> ?_
  ·refine gl hd (fun(p:Int×(Unit))=>let (p0,_):=p; ⟨[(2,.pb 0 0),(3,.pb 1 0),(12,sl Ae ([a0,a1]:List g_api_Cert)),(13,.d (.i (([a0,a1]:List g_api_Cert).length:Int))),(14,.d (.i p0))],[(0,.box 1 [.d (.i a1.Serial),.d (.s a1.Issuer),.d (.s a1.Subject),.d (.u a1.Key),sl eS a1.Names,.d (.i a1.From),.d (.i a1.Until),.d (.t a1.Ca),.d (.i a1.Depth),sl eS a1.Permit,sl Ak a1.Proms,.d (.u a1.Sig.E),.d (.u a1.Sig.S)] 28),(1,.box 0 [.d (.i a0.Serial),.d (.s a0.Issuer),.d (.s a0.Subject),.d (.u a0.Key),sl eS a0.Names,.d (.i a0.From),.d (.i a0.Until),.d (.t a0.Ca),.d (.i a0.Depth),sl eS a0.Permit,sl Ak a0.Proms,.d (.u a0.Sig.E),.d (.u a0.Sig.S)] 28)],[],2⟩) (fun p=> ∃i:Nat,p.1=(i:Int)∧i≤([a0,a1]:List g_api_Cert).length∧DX Dg (([a0,a1]:List g_api_Cert).drop i) (i:Int) p.2=some x1) (fun p=>([a0,a1]:List g_api_Cert).length-p.1.toNat) (0,()) ⟨0,rfl,Nat.zero_le _,q1⟩ ?_;rintro⟨_,s1⟩ ⟨i1,rfl,hi,q2⟩ Jl bl1;refine gi' (b:=decide ((i1:Int)<(([a0,a1]:List g_api_Cert).length:Int))) (fun hc2=> ?_) fun hc2=> ?_
   ·have hlt1:i1<([a0,a1]:List g_api_Cert).length:=by have:=of_decide_eq_true hc2; omega
    obtain⟨x2,y2,q5,q4,q3⟩:=Gy q2 hlt1;unfold Dg at q4;refine Hs (k:=13) (E:=Ae) (fun _=>rfl) (fun _=>q5) ?_;obtain⟨x3,q6,q4⟩:=Aa q4;refine gc (fun _=>Hw q6) ?_;refine gi q4 (fun hc1 q4=> ?_) fun hc1 q4=> ?_
    ·skip;cases q4;rcases q3 with ⟨sn,e,_⟩|⟨tn,e,e2⟩
     ·cases e
     cases e;cases e2;dsimp only at hm;have e0:=Option.some.inj hm;subst e0;exact AO hd
    have e0:=Option.some.inj q4;subst e0;rcases q3 with ⟨sn,e,q3'⟩|⟨tn,e,_⟩
    ·have e:=Sum.inl.inj e;subst e;exact gb bl1 hd (w64 ((i1:Int)+1),_) ⟨⟨i1+1,Bc hlt1 hle1,by omega,q3'⟩,Gl hlt1 hle1⟩
    cases B4 e
   have hlt1: ¬i1<([a0,a1]:List g_api_Cert).length:=by have:=of_decide_eq_false hc2; omega
   have e:=Fu q2 hlt1;cases e;exact gb bk1 hd _ rfl
  subst hy;dsimp only at hm;refine gi hm (fun hc3 hm=> ?_) fun hc3 hm=> ?_
  ·skip;have e0:=Option.some.inj hm;subst e0;exact AO hd
  obtain⟨x4,q7,hm⟩:=Aa hm;refine gco (KB q7) ?_;obtain⟨x5,q8,hm⟩:=Aa hm;refine gco (N7 q8) ?_;refine gi hm (fun hc4 hm=> ?_) fun hc4 hm=> ?_
  ·skip;have e0:=Option.some.inj hm;subst e0;exact AO hd
  have e0:=Option.some.inj hm;subst e0;exact AO hd
def Cu (a0:g_path_trip):Option Int:=if((((((a0.chain_.length:Int)==0)||(decide ((a0.chain_.length:Int)>4)))||(decide ((a0.roots_.length:Int)>16)))||(decide (a0.now_<0)))||(decide (a0.now_>1099511627776)))=true then some 1 else Ad (BD a0.name_) fun x1=>some x1
theorem IG {a0:g_path_trip}{r:Int}(hm:Cu a0=some r):Sf prog 34 [ag (C4 a0)] (.d (.i r)):=
 sp call34 func34 rfl ntmps34 rfl fun D0 As η0 m0 hd=>by
  unfold Cu at hm;refine gi hm (fun hc1 hm=> ?_) fun hc1 hm=> ?_
  ·skip;have e0:=Option.some.inj hm;subst e0;exact AO hd
  obtain⟨x1,q1,hm⟩:=Aa hm;refine gc (fun _=>G6 q1) ?_;have e0:=Option.some.inj hm;subst e0;exact AO hd
def AP (a1:Int):Option (List g_api_Cert):=Ad (if(decide (a1<0))=true then none else some ()) fun x1=>Ad (bnd ((w64 (a1-(w64 (0-((0:Nat):Int)))))) fun x3=>if(decide (x3>0))=true then if 0≤x3∧x3*168≤140737488355328∧x3≤140737488355328 then some ([]:List g_api_Cert)else none else some ([]:List g_api_Cert)) fun x2=>some x2
theorem Ed {m:Mem}{As:List Ow}{w:World}{a1:Int}{r:List g_api_Cert}(S:St m (As) w)(hm:AP a1=some r):
  Az Tryz.prog 129 #[.slice none 0 0,vI a1] w fun v w'=> ∃(M:Mem),m≤M∧∃(rv0:Value) (rc0:List Value),St M ((row 13 rv0 rc0 r.length)::As) w'∧v=rv0∧Bq M rc0 r:=by
 unfold AP at hm;have L0:=Mem.rfl' m;refine Co (args:=[.slice none 0 0,vI a1]) Tryz.func129 rfl Tryz.ntmps129 (Nat.le_of_ble_eq_true rfl) ?_;refine Af ?_;refine Ac ?_;refine Bb (v:= .slice none 0 0) rfl ?_;refine Ag ?_;refine nrm ?_;obtain⟨x1,q1,hm⟩:=Aa hm;have L1:=Mem.rfl' m;refine Af ?_;refine Bn [5,6,7] (fun f' w'=> ∃(M1:Mem),m≤M1∧St M1 (As) w'∧B5 f' []) ?_ ?_
 ·refine Af ?_;refine Ac ?_;refine Ap (v:=vI a1) rfl ?_;refine IN (m:=a1) (n:=0) rfl rfl ?_;refine Ag ?_;refine nrm ?_;refine B3 (t:=(decide (a1<0))) rfl (fun hc1=> ?_) (fun hc1=> ?_)
  ·replace q1:=ifT hc1 q1;cases q1
  replace q1:=ifF hc1 q1;refine A7 ?_;refine nrm ?_;have e0:=Option.some.inj q1;subst e0;exact⟨Fl,m,L1,S,trivial⟩
 rintro f1 w1 ho ⟨m1,l1,S1,ha⟩;obtain⟨u1,rfl⟩:=BP (N:=27) ho ha;replace L0:=Mem.tr L0 l1;clear S;obtain⟨x2,q2,hm⟩:=Aa hm;have L2:=Mem.rfl' m1;refine Af ?_;refine Bn [0,1,8,9,10,11,12,13,14,15,16,17,18,19,20,21,22,23,24,25] (fun f' w'=> ∃(M2:Mem) (v1:Value) (c1:List Value),m1≤M2∧St M2 ((row 13 v1 c1 x2.length)::As) w'∧Bq M2 c1 x2∧B5 f' [(0,v1)]) ?_ ?_
 ·refine Af ?_;refine Ac ?_;refine Ap (v:=vI a1) rfl ?_;refine Ap (v:= .slice none 0 0) rfl ?_;refine Qw rfl Tryz.underlying31 ?_;refine Ap (v:= .slice none 0 0) rfl ?_;refine Rv (n:=0) rfl Tryz.underlying31 ?_;refine KM (m:=0) (n:=((0:Nat):Int)) rfl rfl ?_;refine KM (m:=a1) (n:=(w64 (0-((0:Nat):Int)))) rfl rfl ?_;obtain⟨x3,q3,q2⟩:=CT q2;refine Bb (v:=vI x3) (congrArg (fun z=>vI z) q3.symm) ?_;refine Ag ?_;refine nrm ?_;refine Af ?_;refine Ac ?_;refine Ap (v:=vI x3) rfl ?_;refine Rx (m:=x3) (n:=0) rfl rfl ?_;refine Ag ?_;refine nrm ?_;refine B3 (t:=(decide (x3>0))) rfl (fun hc2=> ?_) (fun hc2=> ?_)
  ·replace q2:=ifT hc2 q2;refine Ac ?_;refine Ap (v:= .slice none 0 0) rfl ?_;refine Ap (v:= .slice none 0 0) rfl ?_;refine Qw rfl Tryz.underlying31 ?_;refine s_cutN rfl Tryz.underlying31 Tryz.sizeOf28 rfl ?_;refine Ap (v:=vI x3) rfl ?_;obtain⟨q4,q2⟩:=B2 q2;refine s_appN (bytes:=168) (sz:=13) (k:=x3) (ti:=Tryz.t28) S1 rfl rfl q4 Tryz.underlying31 Tryz.underlying3 Tryz.type28 rfl rfl rfl rfl ?_;intro v2 c2 w2 S2;replace S2:St _ ((row 13 v2 c2 x3.toNat)::As) _:=S2;clear S1;refine Ap (v:= .slice none 0 0) rfl ?_;refine Rv (n:=0) rfl Tryz.underlying31 ?_;refine s_cutO (i:=0) S2 rfl rfl Tryz.underlying31 Tryz.sizeOf28 rfl (j:=0) rfl (Int.le_refl 0) (Int.natCast_nonneg _) ?_;intro v3 S3;rw[show c2.take ((0:Int).toNat*13)=[]from by simp]at S3;have h2:Bq m1 [] ([]:List g_api_Cert):=Bq.nil;replace S3:St _ ((row 13 v3 [] ([]:List g_api_Cert).length)::As) _:=S3;clear S2;refine Bb (v:=v3) rfl ?_;refine Ag ?_;refine nrm ?_;have e0:=Option.some.inj q2;subst e0;exact⟨Fl,m1,_,_,L2,S3,h2,⟨rfl,trivial⟩⟩
  replace q2:=ifF hc2 q2;refine A7 ?_;refine nrm ?_;have S4:=St.rowNil S1 13;have h3:Bq m1 [] ([]:List g_api_Cert):=Bq.nil;replace S4:St _ ((row 13 (.slice none 0 0) [] ([]:List g_api_Cert).length)::As) _:=S4;clear S1;have e0:=Option.some.inj q2;subst e0;exact⟨Fl,m1,_,_,L2,S4,h3,⟨rfl,trivial⟩⟩
 rintro f2 w3 ho ⟨m2,v1,c1,l2,S5,h1,ha⟩;obtain⟨u2,rfl⟩:=BP (N:=27) ho ha;replace L0:=Mem.tr L0 l2;clear S1;refine Af ?_;refine Ac ?_;refine Ap (v:=v1) rfl ?_;refine Bb (v:=v1) rfl ?_;refine Ag ?_;refine nrm ?_;refine Bl ?_;refine Dx ?_;intro we hpd;replace S5:=St.pd S5 hpd;have e0:=Option.some.inj hm;subst e0;exact G4 [_] rfl ⟨rfl,trivial⟩ ⟨_,L0,_,_,S5,rfl,h1⟩
def Ao (i1:Int)(x3:List g_api_Cert)(s1:Int):Option (Int):=Ad (bnd ((w64 (s1+(x3.length:Int)))) fun x5=>if(decide (x5<0))=true then none else some x5) fun x4=>some x4
def Aq (i2:Int)(x9:List g_api_Cert)(s2:(List g_api_Cert)):Option ((List g_api_Cert)):=Ad (app 168 s2 x9) fun x10=>some x10
def AH (a0:List (List g_api_Cert)):Option (List g_api_Cert):=Ad (Ad (EU Ao a0 0 0) fun x2=>some x2) fun x1=>Ad (AP x1) fun x6=>Ad (Ad (EU Aq a0 0 x6) fun x8=>some x8) fun x7=>some x7
theorem Ey {m:Mem}{As:List Ow}{w:World}{a0:List (List g_api_Cert)}{a0v0:Value}{r:List g_api_Cert}(S:St m (As) w)(a0h0:SlR m a0v0 a0)(hm:AH a0=some r):
  Az Tryz.prog 76 #[a0v0] w fun v w'=> ∃(M:Mem),m≤M∧∃(rv0:Value) (rc0:List Value),St M ((row 13 rv0 rc0 r.length)::As) w'∧v=rv0∧Bq M rc0 r:=by
 unfold AH at hm;have L0:=Mem.rfl' m;refine Co (args:=[a0v0]) Tryz.func76 rfl Tryz.ntmps76 (Nat.le_of_ble_eq_true rfl) ?_;refine Af ?_;refine Ac ?_;refine Bb (v:= .slice none 0 0) rfl ?_;refine Ag ?_;refine nrm ?_;refine Af ?_;refine Ac ?_;refine Bb (v:=vI 0) rfl ?_;refine Ag ?_;refine nrm ?_;obtain⟨x1,q1,hm⟩:=Aa hm;have L1:=Mem.rfl' m;refine Af ?_;refine Bn [3,5,9,10,11,12,13,14,15,16,17,18,19,20,21,22] (fun f' w'=> ∃(M1:Mem),m≤M1∧St M1 (As) w'∧B5 f' [(3,vI x1)]) ?_ ?_
 ·refine Af ?_;refine Ac ?_;refine Ap (v:=a0v0) rfl ?_;refine HF (xs:=a0) rfl a0h0 Tryz.underlying43 ?_;refine Ap (v:=vI 0) rfl ?_;refine Ag ?_;refine nrm ?_;obtain⟨x2,q2,q1⟩:=Aa q1;have L2:=Mem.rfl' m;refine Bn [3,5,11,12,13,14,15,16,17,18,19,20,21,22] (fun f' w'=> ∃(M2:Mem),m≤M2∧St M2 (As) w'∧B5 f' [(3,vI x2)]) ?_ ?_
  ·refine AA ?_;refine BL [3,5,11,12,13,14,15,16,17,18,19,20,21,22] (fun n1 f' w'=> ∃(i1:Nat) (s1:Int) (m3:Mem),n1=a0.length-i1∧i1≤a0.length∧EU Ao (a0.drop i1) (i1:Int) s1=some x2∧m≤m3∧St m3 (As) w'∧B5 f' [(11,vI (i1:Int)),(3,vI s1)]) a0.length ⟨0,0,m,rfl,Nat.zero_le _,q2,L2,S,⟨rfl,rfl,trivial⟩⟩ ?_;rintro n1 f1 w1 ho ⟨i1,s1,m1,hn,hi,q3,L4,S1,ha⟩;obtain⟨u1,rfl⟩:=BP (N:=36) ho ha;clear ho ha;replace a0h0:=a0h0.up L4;have L3:=Mem.rfl' m1;clear S;refine Af ?_;refine Ac ?_;refine IN (m:=(i1:Int)) (n:=(a0.length:Int)) rfl rfl ?_;refine Ag ?_;refine nrm ?_;refine Af ?_;refine B3 (t:=decide ((i1:Int)<(a0.length:Int))) rfl (fun hc2=> ?_) (fun hc2=> ?_)
   ·have hlt1:i1<a0.length:=by have:=of_decide_eq_true hc2; omega
    obtain⟨x3,y1,q6,q5,q4⟩:=H9 q3 hlt1;unfold Ao at q5;refine A7 ?_;refine nrm ?_;obtain⟨x4,q7,q5⟩:=Aa q5;have L5:=Mem.rfl' m1;refine Af ?_;refine Bn [3,5,13,14,15,16,17,18,19,20,21] (fun f' w'=> ∃(M3:Mem),m1≤M3∧St M3 (As) w'∧B5 f' [(3,vI x4)]) ?_ ?_
    ·refine AA ?_;refine Af ?_;refine Ac ?_;refine SK (q:=x3) rfl rfl a0h0 q6 Tryz.underlying43 Tryz.sizeOf31 ?_;intro p1 c1 h1 r1;obtain⟨v1,rfl,h2⟩:=r1;refine SI (cs:=[v1]) S1 rfl h1 rfl Tryz.isAgg31 Tryz.sizeOf31 (fun _=>rfl) ?_;refine Bb (v:=v1) rfl ?_;refine Ag ?_;refine nrm ?_;refine Af ?_;refine Ac ?_;refine Ap (v:=vI s1) rfl ?_;refine Ap (v:=v1) rfl ?_;refine HF (xs:=x3) rfl h2 Tryz.underlying31 ?_;refine Fp (m:=s1) (n:=(x3.length:Int)) rfl rfl ?_;obtain⟨x5,q8,q7⟩:=CT q7;refine Bb (v:=vI x5) (congrArg (fun z=>vI z) q8.symm) ?_;refine Ag ?_;refine nrm ?_;refine Af ?_;refine Ac ?_;refine Ap (v:=vI x5) rfl ?_;refine IN (m:=x5) (n:=0) rfl rfl ?_;refine Ag ?_;refine nrm ?_;refine B3 (t:=(decide (x5<0))) rfl (fun hc1=> ?_) (fun hc1=> ?_)
     ·replace q7:=ifT hc1 q7;cases q7
     replace q7:=ifF hc1 q7;refine A7 ?_;refine J9 ?_;refine nrm ?_;have e0:=Option.some.inj q7;subst e0;exact⟨Fl,m1,L5,S1,⟨rfl,trivial⟩⟩
    rintro f2 w2 ho ⟨m2,l1,S2,ha⟩;obtain⟨u2,rfl⟩:=BP (N:=36) ho ha;replace a0h0:=a0h0.up l1;replace L3:=Mem.tr L3 l1;clear S1;refine Ac ?_;refine Fp (m:=(i1:Int)) (n:=1) rfl rfl ?_;refine Ap (v:=vI (w64 ((i1:Int)+1))) rfl ?_;refine Ag ?_;refine nrm ?_;have e0:=Option.some.inj q5;subst e0;exact⟨Fl,_,(by omega),⟨i1+1,x4,m2,rfl,hlt1,q4,Mem.tr L4 L3,S2,⟨congrArg (Value.int .i64) (Bc hlt1 (SlR.le a0h0)),rfl,trivial⟩⟩⟩
   have hlt1: ¬i1<a0.length:=by have:=of_decide_eq_false hc2; omega
   have e:=Eq.symm (G2 q3 hlt1);subst e;refine CH ?_;refine thE ?_;refine thE ?_;refine exB ?_;refine nrm ?_;exact⟨Fl,m1,Mem.tr L4 L3,S1,⟨rfl,trivial⟩⟩
  rintro f3 w3 ho ⟨m4,l2,S3,ha⟩;obtain⟨u3,rfl⟩:=BP (N:=36) ho ha;clear ho ha;replace a0h0:=a0h0.up l2;replace L1:=Mem.tr L1 l2;clear S;have e0:=Option.some.inj q1;subst e0;exact⟨Fl,m4,L1,S3,⟨rfl,trivial⟩⟩
 rintro f4 w4 ho ⟨m5,l3,S4,ha⟩;obtain⟨u4,rfl⟩:=BP (N:=36) ho ha;replace a0h0:=a0h0.up l3;replace L0:=Mem.tr L0 l3;clear S;refine Af ?_;refine Ac ?_;refine Ap (v:=vI x1) rfl ?_;obtain⟨x6,q9,hm⟩:=Aa hm;refine CJ Tryz.call129 (Ed (a1:=x1) S4 q9) rfl ?_;rintro v2 w5 ⟨m6,l4,_,c2,S5,rfl,h3⟩;replace a0h0:=a0h0.up l4;replace L0:=Mem.tr L0 l4;clear S4;replace S5:St _ ((row 13 v2 c2 x6.length)::As) _:=S5;refine Bb (v:=v2) rfl ?_;refine Ag ?_;refine nrm ?_;obtain⟨x7,q10,hm⟩:=Aa hm;have L6:=Mem.rfl' m6;refine Af ?_;refine Bn [6,8,25,26,27,28,29,30,31,32,33,34] (fun f' w'=> ∃(M4:Mem) (v3:Value) (c3:List Value),m6≤M4∧St M4 ((row 13 v3 c3 x7.length)::As) w'∧Bq M4 c3 x7∧B5 f' [(6,v3)]) ?_ ?_
 ·refine Af ?_;refine Ac ?_;refine Ap (v:=a0v0) rfl ?_;refine HF (xs:=a0) rfl a0h0 Tryz.underlying43 ?_;refine Ap (v:=vI 0) rfl ?_;refine Ag ?_;refine nrm ?_;obtain⟨x8,q11,q10⟩:=Aa q10;have L7:=Mem.rfl' m6;refine Bn [6,8,27,28,29,30,31,32,33,34] (fun f' w'=> ∃(M5:Mem) (v5:Value) (c5:List Value),m6≤M5∧St M5 ((row 13 v5 c5 x8.length)::As) w'∧Bq M5 c5 x8∧B5 f' [(6,v5)]) ?_ ?_
  ·refine AA ?_;refine BL [6,8,27,28,29,30,31,32,33,34] (fun n2 f' w'=> ∃(i2:Nat) (s2:(List g_api_Cert)) (m8:Mem) (v4:Value) (c4:List Value),n2=a0.length-i2∧i2≤a0.length∧EU Aq (a0.drop i2) (i2:Int) s2=some x8∧m6≤m8∧St m8 ((row 13 v4 c4 s2.length)::As) w'∧Bq m8 c4 s2∧B5 f' [(27,vI (i2:Int)),(6,v4)]) a0.length ⟨0,x6,m6,_,_,rfl,Nat.zero_le _,q11,L7,S5,h3,⟨rfl,rfl,trivial⟩⟩ ?_;rintro n2 f5 w6 ho ⟨i2,s2,m7,v4,c4,hn,hi,q12,L9,S6,h5,ha⟩;obtain⟨u5,rfl⟩:=BP (N:=36) ho ha;clear ho ha;replace a0h0:=a0h0.up L9;have L8:=Mem.rfl' m7;clear S5;refine Af ?_;refine Ac ?_;refine IN (m:=(i2:Int)) (n:=(a0.length:Int)) rfl rfl ?_;refine Ag ?_;refine nrm ?_;refine Af ?_;refine B3 (t:=decide ((i2:Int)<(a0.length:Int))) rfl (fun hc3=> ?_) (fun hc3=> ?_)
   ·have hlt2:i2<a0.length:=by have:=of_decide_eq_true hc3; omega
    obtain⟨x9,y2,q15,q14,q13⟩:=H9 q12 hlt2;unfold Aq at q14;refine A7 ?_;refine nrm ?_;refine Af ?_;refine AA ?_;refine Af ?_;refine Ac ?_;refine SK (q:=x9) rfl rfl a0h0 q15 Tryz.underlying43 Tryz.sizeOf31 ?_;intro p2 c6 h7 r6;obtain⟨v6,rfl,h8⟩:=r6;refine SI (cs:=[v6]) S6 rfl h7 rfl Tryz.isAgg31 Tryz.sizeOf31 (fun _=>rfl) ?_;refine Bb (v:=v6) rfl ?_;refine Ag ?_;refine nrm ?_;refine Ac ?_;refine Ap (v:=v4) rfl ?_;refine Ap (v:=v6) rfl ?_;obtain⟨x10,q16,q14⟩:=Aa q14;refine Pv (i:=0) (zs:=x10) (bytes:=168) (ti:=Tryz.t28) S6 rfl rfl h5 rfl rfl h8 q16 Tryz.underlying31 Tryz.type28 rfl rfl rfl rfl ?_;intro v7 c7 w7 S7 h9;replace S7:St _ ((row 13 v7 c7 x10.length)::As) _:=S7;clear S6;refine Bb (v:=v7) rfl ?_;refine Ag ?_;refine J9 ?_;refine nrm ?_;refine Ac ?_;refine Fp (m:=(i2:Int)) (n:=1) rfl rfl ?_;refine Ap (v:=vI (w64 ((i2:Int)+1))) rfl ?_;refine Ag ?_;refine nrm ?_;have e0:=Option.some.inj q14;subst e0;exact⟨Fl,_,(by omega),⟨i2+1,x10,m7,_,_,rfl,hlt2,q13,Mem.tr L9 L8,S7,h9,⟨congrArg (Value.int .i64) (Bc hlt2 (SlR.le a0h0)),rfl,trivial⟩⟩⟩
   have hlt2: ¬i2<a0.length:=by have:=of_decide_eq_false hc3; omega
   have e:=Eq.symm (G2 q12 hlt2);subst e;refine CH ?_;refine thE ?_;refine thE ?_;refine exB ?_;refine nrm ?_;exact⟨Fl,m7,_,_,Mem.tr L9 L8,S6,h5,⟨rfl,trivial⟩⟩
  rintro f6 w8 ho ⟨m9,v5,c5,l5,S8,h6,ha⟩;obtain⟨u6,rfl⟩:=BP (N:=36) ho ha;clear ho ha;replace L6:=Mem.tr L6 l5;clear S5;have e0:=Option.some.inj q10;subst e0;exact⟨Fl,m9,_,_,L6,S8,h6,⟨rfl,trivial⟩⟩
 rintro f7 w9 ho ⟨m10,v3,c3,l6,S9,h4,ha⟩;obtain⟨u7,rfl⟩:=BP (N:=36) ho ha;replace L0:=Mem.tr L0 l6;clear S5;refine Af ?_;refine Ac ?_;refine Ap (v:=v3) rfl ?_;refine Bb (v:=v3) rfl ?_;refine Ag ?_;refine nrm ?_;refine Bl ?_;refine Dx ?_;intro we hpd;replace S9:=St.pd S9 hpd;have e0:=Option.some.inj hm;subst e0;exact G4 [_] rfl ⟨rfl,trivial⟩ ⟨_,L0,_,_,S9,rfl,h4⟩
theorem EB {a0:List (List g_api_Cert)}{r:List g_api_Cert}(hm:AH a0=some r):Sp prog 76 [sl (eL Ae) a0] [] 0 (is (.ow 0) [.row 0 13 _ Ae r] 1):=
 ⟨call76,fun η m As w vs hv0 hd S=>by
  have S:St m As w:=S;obtain⟨v0,u0,rfl,r0,hv1⟩:=Bj.cons_inv hv0;have f0:=Br.ofS (Br.sl Ie) r0.dd;obtain rfl:=Bj.nil_inv hv1;refine Az.mono (Ey S f0 hm) ?_;rintro v w' ⟨M,hle,y0,c0,S0,rfl,h0⟩;exact⟨M,(YE [v]),_,_,_,hle,RM hd _,⟨rfl,rfl,rfl⟩,H8 rfl,(.ow rfl (D4 S0)),(St.impL S0 (sepC (Br.toR Ie rfl rfl (D4 S0) h0) fun _ h=>h))⟩⟩
def BM (i1:Int)(x3:g_api_Cert)(s1:Unit):Option ((Unit)⊕Int):=Ad (CS x3) fun x4=>if(x4 !=0)=true then some (.inr x4)else some (.inl ())
def C7 (a0:g_path_trip):Option Int:=Ad (AH ([a0.chain_,a0.roots_]:List (List g_api_Cert))) fun x1=>Ad (DX BM x1 0 ()) fun x2=>match x2 with| .inr r=>some r| .inl y1=>some 0
theorem JR {a0:g_path_trip}{r:Int}(hm:C7 a0=some r):Sf prog 35 [ag (C4 a0)] (.d (.i r)):=
 sp call35 func35 rfl ntmps35 rfl fun D0 As η0 m0 hd=>by
  unfold C7 at hm;refine ES (k:=1) (eL Ae) ([a0.chain_,a0.roots_]:List (List g_api_Cert)) (fun _=>rfl) ?_;obtain⟨x1,q1,hm⟩:=Aa hm;refine gco (EB q1) ?_;obtain⟨x2,q2,hm⟩:=Aa hm;refine Mq 0 (E:=Ae) (xs:=x1) 11 fun hle1=> ?_;refine gjU 0 (fun(y1:Unit)=>⟨[(1,.pb 0 0)],[(0,.box 0 [sl Ae a0.roots_,sl Ae a0.chain_,.d (.s a0.name_),.d (.i a0.now_)] 57)],[],1⟩) (fun y1=>x2= .inl y1) (fun Jp bk1=> ?_) fun y1 hy=> ?_
  ·refine gl hd (fun(p:Int×(Unit))=>let (p0,_):=p; ⟨[(11,sl Ae x1),(12,.d (.i (x1.length:Int))),(13,.d (.i p0)),(1,.pb 0 0)],[(0,.box 0 [sl Ae a0.roots_,sl Ae a0.chain_,.d (.s a0.name_),.d (.i a0.now_)] 57)],[],1⟩) (fun p=> ∃i:Nat,p.1=(i:Int)∧i≤x1.length∧DX BM (x1.drop i) (i:Int) p.2=some x2) (fun p=>x1.length-p.1.toNat) (0,()) ⟨0,rfl,Nat.zero_le _,q2⟩ ?_;rintro⟨_,s1⟩ ⟨i1,rfl,hi,q3⟩ Jl bl1;refine gi' (b:=decide ((i1:Int)<(x1.length:Int))) (fun hc2=> ?_) fun hc2=> ?_
   ·have hlt1:i1<x1.length:=by have:=of_decide_eq_true hc2; omega
    obtain⟨x3,y2,q6,q5,q4⟩:=Gy q3 hlt1;unfold BM at q5;refine Hs (k:=13) (E:=Ae) (fun _=>rfl) (fun _=>q6) ?_;obtain⟨x4,q7,q5⟩:=Aa q5;refine gc (fun _=>Hw q7) ?_;refine gi q5 (fun hc1 q5=> ?_) fun hc1 q5=> ?_
    ·skip;cases q5;rcases q4 with ⟨sn,e,_⟩|⟨tn,e,e2⟩
     ·cases e
     cases e;cases e2;dsimp only at hm;have e0:=Option.some.inj hm;subst e0;exact AO hd
    have e0:=Option.some.inj q5;subst e0;rcases q4 with ⟨sn,e,q4'⟩|⟨tn,e,_⟩
    ·have e:=Sum.inl.inj e;subst e;exact gb bl1 hd (w64 ((i1:Int)+1),_) ⟨⟨i1+1,Bc hlt1 hle1,by omega,q4'⟩,Gl hlt1 hle1⟩
    cases B4 e
   have hlt1: ¬i1<x1.length:=by have:=of_decide_eq_false hc2; omega
   have e:=Fu q3 hlt1;cases e;exact gb bk1 hd _ rfl
  subst hy;dsimp only at hm;have e0:=Option.some.inj hm;subst e0;exact AO hd
def Ct (a0:g_path_trip)(a1:g_api_Cert):Option Bool:=bnd (((decide (a1.From≤a0.now_))&&(decide (a1.Until>a0.now_)))) fun x1=>some x1
theorem Gp {a0:g_path_trip}{a1:g_api_Cert}{r:Bool}(hm:Ct a0 a1=some r):Sf prog 77 [ag (C4 a0),ag (Ae a1)] (.d (.t r)):=
 sp call77 func77 rfl ntmps77 rfl fun D0 As η0 m0 hd=>by
  unfold Ct at hm;have hm:=Ba hm;let x1:Bool:=(((decide (a1.From≤a0.now_))&&(decide (a1.Until>a0.now_))));have e0:=Option.some.inj hm;subst e0;exact AO hd
def AN (a0:List ByteArray)(a1:ByteArray)(i1:Int)(s1:Unit):Option ((Unit)⊕Int):=Ad (idx a0 (i1:Int)) fun x3=>if(eqS a1 x3)=true then some (.inr (i1:Int))else some (.inl ())
def BA (a0:List ByteArray)(a1:ByteArray):Option Int:=Ad (C3 (AN a0 a1) a0.length 0 ()) fun x1=>match x1 with| .inr r=>some r| .inl y1=>some (-1)
theorem FD {a0:List ByteArray}{a1:ByteArray}{r:Int}(hm:BA a0 a1=some r):Sf prog 130 [sl eS a0,.d (.s a1)] (.d (.i r)):=
 sp call130 func130 rfl ntmps130 rfl fun D0 As η0 m0 hd=>by
  unfold BA at hm;obtain⟨x1,q1,hm⟩:=Aa hm;refine Mq 0 (E:=eS) (xs:=a0) 6 fun hle1=> ?_;refine gjU 0 (fun(y1:Unit)=>⟨[],[],[],0⟩) (fun y1=>x1= .inl y1) (fun Jp bk1=> ?_) fun y1 hy=> ?_
  ·refine gl hd (fun(p:Int×(Unit))=>let (p0,_):=p; ⟨[(0,sl eS a0),(1,.d (.s a1)),(7,.d (.i (a0.length:Int))),(8,.d (.i p0))],[],[],0⟩) (fun p=> ∃i:Nat,p.1=(i:Int)∧i≤a0.length∧C3 (AN a0 a1) (a0.length-i) (i:Int) p.2=some x1) (fun p=>a0.length-p.1.toNat) (0,()) ⟨0,rfl,Nat.zero_le _,q1⟩ ?_;rintro⟨_,s1⟩ ⟨i1,rfl,hi,q2⟩ Jl bl1;refine gi' (b:=decide ((i1:Int)<(a0.length:Int))) (fun hc2=> ?_) fun hc2=> ?_
   ·have hlt1:i1<a0.length:=by have:=of_decide_eq_true hc2; omega
    obtain⟨y2,q4,q3⟩:=FN q2 hlt1;unfold AN at q4;obtain⟨x3,q6,q4⟩:=Aa q4;refine Hs (k:=1) (E:=eS) (fun _=>rfl) (fun _=>q6) ?_;refine gi q4 (fun hc1 q4=> ?_) fun hc1 q4=> ?_
    ·skip;cases q4;rcases q3 with ⟨sn,e,_⟩|⟨tn,e,e2⟩
     ·cases e
     cases e;cases e2;dsimp only at hm;have e0:=Option.some.inj hm;subst e0;exact AO hd
    have e0:=Option.some.inj q4;subst e0;rcases q3 with ⟨sn,e,q3'⟩|⟨tn,e,_⟩
    ·have e:=Sum.inl.inj e;subst e;exact gb bl1 hd (w64 ((i1:Int)+1),_) ⟨⟨i1+1,Bc hlt1 hle1,by omega,q3'⟩,Gl hlt1 hle1⟩
    cases B4 e
   have hlt1: ¬i1<a0.length:=by have:=of_decide_eq_false hc2; omega
   have e:=ET q2 hlt1;cases e;exact gb bk1 hd _ rfl
  subst hy;dsimp only at hm;have e0:=Option.some.inj hm;subst e0;exact AO hd
def A4 (a0:List ByteArray)(a1:ByteArray):Option Bool:=Ad (BA a0 a1) fun x1=>some (decide (x1≥0))
theorem E8 {a0:List ByteArray}{a1:ByteArray}{r:Bool}(hm:A4 a0 a1=some r):Sf prog 78 [sl eS a0,.d (.s a1)] (.d (.t r)):=
 sp call78 func78 rfl ntmps78 rfl fun D0 As η0 m0 hd=>by
  unfold A4 at hm;obtain⟨x1,q1,hm⟩:=Aa hm;refine gc (fun _=>FD q1) ?_;have e0:=Option.some.inj hm;subst e0;exact AO hd
def Bi (a0:g_path_trip)(i1:Int)(s1:Bool):Option ((Bool)⊕Int):=Ad (idx a0.chain_ (i1:Int)) fun x3=>Ad (gu (!s1) (Ct a0 x3)) fun x4=>if(x3.Ca==(decide ((i1:Int)>0)))=true then some (.inl (s1||(!x4)))else some (.inr 191)
def CL (a0:g_path_trip):Option Int:=Ad (C3 (Bi a0) a0.chain_.length 0 false) fun x1=>match x1 with| .inr r=>some r| .inl y1=>Ad (idx a0.chain_ 0) fun x5=>Ad (A4 x5.Names a0.name_) fun x6=>if(!x6)=true then some 110 else if y1=true then some 190 else some 0
theorem Jd {a0:g_path_trip}{r:Int}(hm:CL a0=some r):Sf prog 36 [ag (C4 a0)] (.d (.i r)):=
 sp call36 func36 rfl ntmps36 rfl fun D0 As η0 m0 hd=>by
  unfold CL at hm;obtain⟨x1,q1,hm⟩:=Aa hm;refine Mq 0 (E:=Ae) (xs:=a0.chain_) 7 fun hle1=> ?_;refine gjU 0 (fun(y1:Bool)=>⟨[(1,.pb 0 0),(3,.d (.t y1))],[(0,.box 0 [sl Ae a0.roots_,sl Ae a0.chain_,.d (.s a0.name_),.d (.i a0.now_)] 57)],[],1⟩) (fun y1=>x1= .inl y1) (fun Jp bk1=> ?_) fun y1 hy=> ?_
  ·refine gl hd (fun(p:Int×(Bool))=>let (p0,p_0):=p; ⟨[(1,.pb 0 0),(3,.d (.t p_0)),(7,sl Ae a0.chain_),(8,.d (.i (a0.chain_.length:Int))),(9,.d (.i p0))],[(0,.box 0 [sl Ae a0.roots_,sl Ae a0.chain_,.d (.s a0.name_),.d (.i a0.now_)] 57)],[],1⟩) (fun p=> ∃i:Nat,p.1=(i:Int)∧i≤a0.chain_.length∧C3 (Bi a0) (a0.chain_.length-i) (i:Int) p.2=some x1) (fun p=>a0.chain_.length-p.1.toNat) (0,false) ⟨0,rfl,Nat.zero_le _,q1⟩ ?_;rintro⟨_,s1⟩ ⟨i1,rfl,hi,q2⟩ Jl bl1;refine gi' (b:=decide ((i1:Int)<(a0.chain_.length:Int))) (fun hc2=> ?_) fun hc2=> ?_
   ·have hlt1:i1<a0.chain_.length:=by have:=of_decide_eq_true hc2; omega
    obtain⟨y2,q4,q3⟩:=FN q2 hlt1;unfold Bi at q4;obtain⟨x3,q6,q4⟩:=Aa q4;refine Hs (k:=13) (E:=Ae) (fun _=>rfl) (fun _=>q6) ?_;obtain⟨x4,q7,q4⟩:=Aa q4;refine gcG (fun h=>Gp (G5 h q7)) ?_;refine gi q4 (fun hc1 q4=> ?_) fun hc1 q4=> ?_
    ·skip;have e0:=Option.some.inj q4;subst e0;rcases q3 with ⟨sn,e,q3'⟩|⟨tn,e,_⟩
     ·have e:=Sum.inl.inj e;subst e;exact gb bl1 hd (w64 ((i1:Int)+1),_) ⟨⟨i1+1,Bc hlt1 hle1,by omega,q3'⟩,Gl hlt1 hle1⟩
     cases B4 e
    cases q4;rcases q3 with ⟨sn,e,_⟩|⟨tn,e,e2⟩
    ·cases e
    cases e;cases e2;dsimp only at hm;have e0:=Option.some.inj hm;subst e0;exact AO hd
   have hlt1: ¬i1<a0.chain_.length:=by have:=of_decide_eq_false hc2; omega
   have e:=ET q2 hlt1;cases e;exact gb bk1 hd _ rfl
  subst hy;dsimp only at hm;obtain⟨x5,q8,hm⟩:=Aa hm;refine Hs (k:=13) (E:=Ae) (fun _=>rfl) (fun _=>q8) ?_;obtain⟨x6,q9,hm⟩:=Aa hm;refine gc (fun _=>E8 q9) ?_;refine gi hm (fun hc3 hm=> ?_) fun hc3 hm=> ?_
  ·skip;have e0:=Option.some.inj hm;subst e0;exact AO hd
  refine gi hm (fun hc4 hm=> ?_) fun hc4 hm=> ?_
  ·skip;have e0:=Option.some.inj hm;subst e0;exact AO hd
  have e0:=Option.some.inj hm;subst e0;exact AO hd
def Bh (a0:g_path_trip)(i1:Int)(s1:Unit):Option ((Unit)⊕Int):=Ad (idx a0.chain_ (i1:Int)) fun x3=>Ad (idx a0.chain_ (w64 ((i1:Int)+1))) fun x4=>Ad (CA x3 x4) fun x5=>if(x5 !=0)=true then some (.inr x5)else some (.inl ())
def CK (a0:g_path_trip):Option Int:=Ad (C3 (Bh a0) (Int.toNat (w64 ((a0.chain_.length:Int)-1))) 0 ()) fun x1=>match x1 with| .inr r=>some r| .inl y1=>some 0
theorem Jc {a0:g_path_trip}{r:Int}(hm:CK a0=some r):Sf prog 37 [ag (C4 a0)] (.d (.i r)):=
 sp call37 func37 rfl ntmps37 rfl fun D0 As η0 m0 hd=>by
  unfold CK at hm;obtain⟨x1,q1,hm⟩:=Aa hm;refine gjU 0 (fun(y1:Unit)=>⟨[(1,.pb 0 0)],[(0,.box 0 [sl Ae a0.roots_,sl Ae a0.chain_,.d (.s a0.name_),.d (.i a0.now_)] 57)],[],1⟩) (fun y1=>x1= .inl y1) (fun Jp bk1=> ?_) fun y1 hy=> ?_
  ·refine gl hd (fun(p:Int×(Unit))=>let (p0,_):=p; ⟨[(1,.pb 0 0),(8,.d (.i (w64 ((a0.chain_.length:Int)-1)))),(9,.d (.i p0))],[(0,.box 0 [sl Ae a0.roots_,sl Ae a0.chain_,.d (.s a0.name_),.d (.i a0.now_)] 57)],[],1⟩) (fun p=> ∃i:Nat,p.1=(i:Int)∧i≤(Int.toNat (w64 ((a0.chain_.length:Int)-1)))∧C3 (Bh a0) ((Int.toNat (w64 ((a0.chain_.length:Int)-1)))-i) (i:Int) p.2=some x1) (fun p=>(Int.toNat (w64 ((a0.chain_.length:Int)-1)))-p.1.toNat) (0,()) ⟨0,rfl,Nat.zero_le _,q1⟩ ?_;rintro⟨_,s1⟩ ⟨i1,rfl,hi,q2⟩ Jl bl1;refine gi' (b:=decide ((i1:Int)<(w64 ((a0.chain_.length:Int)-1)))) (fun hc2=> ?_) fun hc2=> ?_
   ·have hlt1:i1<(Int.toNat (w64 ((a0.chain_.length:Int)-1))):=by have:=of_decide_eq_true hc2; omega
    obtain⟨y2,q4,q3⟩:=FN q2 hlt1;unfold Bh at q4;obtain⟨x3,q6,q4⟩:=Aa q4;refine Hs (k:=13) (E:=Ae) (fun _=>rfl) (fun _=>q6) ?_;obtain⟨x4,q7,q4⟩:=Aa q4;refine Hs (k:=13) (E:=Ae) (fun _=>rfl) (fun _=>q7) ?_;obtain⟨x5,q8,q4⟩:=Aa q4;refine gc (fun _=>E9 q8) ?_;refine gi q4 (fun hc1 q4=> ?_) fun hc1 q4=> ?_
    ·skip;cases q4;rcases q3 with ⟨sn,e,_⟩|⟨tn,e,e2⟩
     ·cases e
     cases e;cases e2;dsimp only at hm;have e0:=Option.some.inj hm;subst e0;exact AO hd
    have e0:=Option.some.inj q4;subst e0;rcases q3 with ⟨sn,e,q3'⟩|⟨tn,e,_⟩
    ·have e:=Sum.inl.inj e;subst e;exact gb bl1 hd (w64 ((i1:Int)+1),_) ⟨⟨i1+1,Bc hlt1 (JF _),by omega,q3'⟩,Gl hlt1 (JF _)⟩
    cases B4 e
   have hlt1: ¬i1<(Int.toNat (w64 ((a0.chain_.length:Int)-1))):=by have:=of_decide_eq_false hc2; omega
   have e:=ET q2 hlt1;cases e;exact gb bk1 hd _ rfl
  subst hy;dsimp only at hm;have e0:=Option.some.inj hm;subst e0;exact AO hd
def AL (a0:List g_api_Cert):Option (List g_api_Cert):=Ad (app 168 ([]:List g_api_Cert) a0) fun x1=>some x1
theorem EY {m:Mem}{As:List Ow}{w:World}{a0:List g_api_Cert}{a0v0:Value}{r:List g_api_Cert}(S:St m (As) w)(a0h0:SlR m a0v0 a0)(hm:AL a0=some r):
  Az Tryz.prog 50 #[a0v0] w fun v w'=> ∃(M:Mem),m≤M∧∃(rv0:Value) (rc0:List Value),St M ((row 13 rv0 rc0 r.length)::As) w'∧v=rv0∧Bq M rc0 r:=by
 unfold AL at hm;have L0:=Mem.rfl' m;refine Co (args:=[a0v0]) Tryz.func50 rfl Tryz.ntmps50 (Nat.le_of_ble_eq_true rfl) ?_;refine Af ?_;refine Ac ?_;refine Bb (v:= .slice none 0 0) rfl ?_;refine Ag ?_;refine nrm ?_;refine Af ?_;refine Af ?_;refine Ac ?_;refine Ap (v:=a0v0) rfl ?_;refine J5 rfl rfl a0h0 Tryz.underlying31 ?_;refine Ag ?_;refine nrm ?_;refine B3 (t:=(I2 a0v0)) rfl (fun hc1=> ?_) (fun hc1=> ?_)
 ·have he1:a0=[]:=SlR.nilOf a0h0 hc1;rw[he1]at hm;replace hm:(some ([]:List g_api_Cert))=some _:=hm;refine Af ?_;refine Ac ?_;refine Bb (v:= .slice none 0 0) rfl ?_;refine Ag ?_;refine nrm ?_;refine Bl ?_;refine thR ?_;refine Dx ?_;intro we hpd;replace S:=St.pd S hpd;have S1:=St.rowNil S 13;have h1:Bq m [] ([]:List g_api_Cert):=Bq.nil;replace S1:St _ ((row 13 (.slice none 0 0) [] ([]:List g_api_Cert).length)::As) _:=S1;clear S;have e0:=Option.some.inj hm;subst e0;exact G4 [_] rfl ⟨rfl,trivial⟩ ⟨_,L0,_,_,S1,rfl,h1⟩
 refine A7 ?_;refine nrm ?_;refine Af ?_;refine Ac ?_;refine HE (parts:=[]) (vs:=[]) (cls:=[]) (n:=0) (sz:=13) S Tryz.underlying31 Tryz.sizeOf28 Tryz.zeroValue28 rfl trivial rfl rfl (by decide) (by decide) ?_;intro v1 w1 S2;have h2:Bq m [] ([]:List g_api_Cert):=Bq.nil;replace S2:St _ ((row 13 v1 [] ([]:List g_api_Cert).length)::As) _:=S2;clear S;refine Ap (v:=a0v0) rfl ?_;obtain⟨x1,q1,hm⟩:=Aa hm;refine Pv (i:=0) (zs:=x1) (bytes:=168) (ti:=Tryz.t28) S2 rfl rfl h2 rfl rfl a0h0 q1 Tryz.underlying31 Tryz.type28 rfl rfl rfl rfl ?_;intro v2 c1 w2 S3 h3;replace S3:St _ ((row 13 v2 c1 x1.length)::As) _:=S3;clear S2;refine Bb (v:=v2) rfl ?_;refine Ag ?_;refine nrm ?_;refine Bl ?_;refine Dx ?_;intro we hpd;replace S3:=St.pd S3 hpd;have e0:=Option.some.inj hm;subst e0;exact G4 [_] rfl ⟨rfl,trivial⟩ ⟨_,L0,_,_,S3,rfl,h3⟩
theorem CF {a0:List g_api_Cert}{r:List g_api_Cert}(hm:AL a0=some r):Sp prog 50 [sl Ae a0] [] 0 (is (.ow 0) [.row 0 13 _ Ae r] 1):=
 ⟨call50,fun η m As w vs hv0 hd S=>by
  have S:St m As w:=S;obtain⟨v0,u0,rfl,r0,hv1⟩:=Bj.cons_inv hv0;have f0:=Br.ofS Ie r0.dd;obtain rfl:=Bj.nil_inv hv1;refine Az.mono (EY S f0 hm) ?_;rintro v w' ⟨M,hle,y0,c0,S0,rfl,h0⟩;exact⟨M,(YE [v]),_,_,_,hle,RM hd _,⟨rfl,rfl,rfl⟩,H8 rfl,(.ow rfl (D4 S0)),(St.impL S0 (sepC (Br.toR Ie rfl rfl (D4 S0) h0) fun _ h=>h))⟩⟩
def BJ (a0:ByteArray)(a1:ByteArray):Option (ByteArray×ByteArray×Bool):=Ad (AE a0 a1) fun x1=>if(decide (x1≥0))=true then Ad (Ly a0 0 x1) fun x2=>Ad (Ly a0 (w64 (x1+(a1.size:Int))) (a0.size:Int)) fun x3=>some (x2,x3,true)else some (a0,(⟨#[]⟩:ByteArray),false)
theorem Gj {a0:ByteArray}{a1:ByteArray}{r:ByteArray×ByteArray×Bool}(hm:BJ a0 a1=some r):Sf prog 222 [.d (.s a0),.d (.s a1)] (.tup [.d (.s r.1),.d (.s r.2.1),.d (.t r.2.2)]):=
 sp call222 func222 rfl ntmps222 rfl fun D0 As η0 m0 hd=>by
  unfold BJ at hm;obtain⟨x1,q1,hm⟩:=Aa hm;refine gc (fun _=>Dl q1) ?_;refine gi hm (fun hc1 hm=> ?_) fun hc1 hm=> ?_
  ·skip;obtain⟨x2,q2,hm⟩:=Aa hm;refine VP (fun _=>q2) ?_;obtain⟨x3,q3,hm⟩:=Aa hm;refine VP (fun _=>q3) ?_;have e0:=Option.some.inj hm;subst e0;exact AO hd
  have e0:=Option.some.inj hm;subst e0;exact AO hd
def FF (a0:ByteArray)(a1:ByteArray):Option (ByteArray×ByteArray×Bool):=Ad (BJ a0 a1) fun x1=>some (x1.1,x1.2.1,x1.2.2)
theorem MJ {a0:ByteArray}{a1:ByteArray}{r:ByteArray×ByteArray×Bool}(hm:FF a0 a1=some r):Sf prog 210 [.d (.s a0),.d (.s a1)] (.tup [.d (.s r.1),.d (.s r.2.1),.d (.t r.2.2)]):=
 sp call210 func210 rfl ntmps210 rfl fun D0 As η0 m0 hd=>by
  unfold FF at hm;obtain⟨x1,q1,hm⟩:=Aa hm;refine gc (fun _=>Gj q1) ?_;have e0:=Option.some.inj hm;subst e0;exact AO hd
def DQ (a0:ByteArray):Option ByteArray:=Ad (BY a0) fun x1=>if(!x1)=true then some (⟨#[]⟩:ByteArray)else Ad (FF a0 (⟨#[46]⟩:ByteArray)) fun x2=>some x2.2.1
theorem Ri {a0:ByteArray}{r:ByteArray}(hm:DQ a0=some r):Sf prog 184 [.d (.s a0)] (.d (.s r)):=
 sp call184 func184 rfl ntmps184 rfl fun D0 As η0 m0 hd=>by
  unfold DQ at hm;obtain⟨x1,q1,hm⟩:=Aa hm;refine gc (fun _=>HX q1) ?_;refine gi hm (fun hc1 hm=> ?_) fun hc1 hm=> ?_
  ·skip;have e0:=Option.some.inj hm;subst e0;exact AO hd
  obtain⟨x2,q2,hm⟩:=Aa hm;refine gc (fun _=>MJ q2) ?_;have e0:=Option.some.inj hm;subst e0;exact AO hd
theorem LS {m:Mem}{As:List Ow}{w:World}{a0:ByteArray}{r:ByteArray}(S:St m As w)(hm:DQ a0=some r):
  Az prog 184 #[vS a0] w fun v w'=> ∃(M:Mem),m≤M∧St M (As) w'∧v=vS r:=by
 refine Az.mono ((Ri hm).2 none0 m As w [vS a0] (.cons (.d (.s _)) .nil) (fun n h=>absurd rfl h) S) ?_;rintro v w' ⟨M,η',r',obs',n1,hle,_,⟨rfl,rfl,rfl⟩,hdom,hR,S'⟩;obtain rfl:=hR.s_inv;exact⟨M,hle,S',rfl⟩
def BZ {σ:Type}(p0:σ→ByteArray→Option (Bool×σ))(s1:ByteArray×σ):Option ((ByteArray×σ)⊕(ByteArray×σ)):=Ad (if(!eqS s1.1 (⟨#[]⟩:ByteArray))=true then Ad (p0 s1.2 s1.1) fun x6=>some (x6.1,x6.2)else some (false,s1.2)) fun x5=>if x5.1=true then Ad (DQ s1.1) fun x7=>some (.inl (x7,x5.2))else some (.inr (s1.1,x5.2))
def EH {σ:Type}(p0:σ→ByteArray→Option (Bool×σ))(k0:ByteArray)(s0:σ):Option (ByteArray×σ):=Ad (DQ k0) fun x1=>Ad (iter (BZ p0) E4 (x1,s0)) fun x2=>some (x2.1,x2.2)
theorem Ko {m:Mem}{As:List Ow}{w:World}{σ:Type}{R:σ→Mem→List Ow→Prop}{p0:σ→ByteArray→Option (Bool×σ)}{f0:Value}{kb0:Nat}{k0:ByteArray}{s0:σ}{X0:List Ow}{r:ByteArray×σ}(S:St m ((bx kb0 [vS k0] 9)::(X0++As)) w)(hup: ∀{s M M' X},M≤M'→R s M X→R s M' X)(hX0:R s0 m X0)(cb0: ∀{m':Mem} {As':List Ow} {w':World} {s:σ} {X:List Ow} {b0:ByteArray} {r:Bool×σ},St m' (X++As') w'→R s m' X→p0 s b0=some r→Dt Tryz.prog f0 [vS b0] w' fun v w''=> ∃(M:Mem) (X':List Ow),m'≤M∧St M (X'++As') w''∧R r.2 M X'∧v=vb r.1)(fc0:f0.cells= #[f0])(hm:EH p0 k0 s0=some r):
  Az Tryz.prog 183 #[f0,pt kb0 0] w fun v w'=> ∃(M:Mem),m≤M∧∃(X:List Ow),St M ((bx kb0 [vS r.1] 9)::(X++As)) w'∧v= .tuple #[]∧R r.2 M X:=by
 unfold EH at hm;have L0:=Mem.rfl' m;refine Co (args:=[f0,pt kb0 0]) Tryz.func183 rfl Tryz.ntmps183 (Nat.le_of_ble_eq_true rfl) ?_;refine Af ?_;refine Ac ?_;refine GS (i:=0) (cs:=[vS k0]) S rfl rfl Tryz.isAgg9 Tryz.sizeOf9 rfl (fun _=>rfl) ?_;obtain⟨x1,q1,hm⟩:=Aa hm;refine CJ Tryz.call184 (LS (a0:=k0) S q1) rfl ?_;rintro _ w1 ⟨m1,l1,S1,rfl⟩;replace hX0:=hup l1 hX0;replace L0:=Mem.tr L0 l1;clear S;replace S1:St _ ((bx kb0 [vS k0] 9)::(X0++As)) _:=S1;refine Hb (i:=0) S1 rfl rfl rfl Tryz.sizeOf9 (H0 rfl KV) rfl ?_;intro w2 S2;replace S2:St _ ((bx kb0 [vS x1] 9)::(X0++As)) _:=S2;clear S1;refine Ag ?_;refine nrm ?_;obtain⟨x2,q2,hm⟩:=Aa hm;have L1:=Mem.rfl' m1;refine J2 ?_;refine Bn [5,6,7,8,9,10,11,12,13] (fun f' w'=> ∃(M1:Mem) (X2:List Ow),m1≤M1∧St M1 ((bx kb0 [vS x2.1] 9)::(X2++As)) w'∧R x2.2 M1 X2∧B5 f' []) ?_ ?_
 ·refine AA ?_;refine BL [5,6,7,8,9,10,11,12,13] (fun n1 f' w'=> ∃(s1:ByteArray×σ) (m7:Mem) (X1:List Ow),iter (BZ p0) n1 s1=some x2∧m1≤m7∧St m7 ((bx kb0 [vS s1.1] 9)::(X1++As)) w'∧R s1.2 m7 X1∧B5 f' []) E4 ⟨(x1,s0),m1,_,q2,L1,S2,hX0,trivial⟩ ?_;rintro n1 f1 w3 ho ⟨s1,m2,X1,q3,L3,S3,h1,ha⟩;obtain⟨u1,rfl⟩:=BP (N:=14) ho ha;clear ho ha;have L2:=Mem.rfl' m2;clear S2;cases n1 with
  |zero=>exact(BK q3).elim
  |succ n1=>
   obtain⟨y1,q5,q4⟩:=BE q3;unfold BZ at q5;refine Af ?_;refine Af ?_;refine Ac ?_;refine GS (i:=0) (cs:=[vS s1.1]) S3 rfl rfl Tryz.isAgg9 Tryz.sizeOf9 rfl (fun _=>rfl) ?_;refine Wh (p:=s1.1) (q:=(⟨#[]⟩:ByteArray)) rfl rfl ?_;refine Ap (v:=vb (!eqS s1.1 (⟨#[]⟩:ByteArray))) rfl ?_;obtain⟨x5,q8,q5⟩:=Aa q5;have L4:=Mem.rfl' m2;refine MH 4 [8,9,10,11] (fun f' w'=> ∃(M2:Mem) (X4:List Ow),m2≤M2∧St M2 ((bx kb0 [vS s1.1] 9)::(X4++As)) w'∧R x5.2 M2 X4∧B5 f' [(11,vb x5.1)]) ?_ ?_
   ·rcases NU (!eqS s1.1 (⟨#[]⟩:ByteArray))with hb1|hb1
    ·replace q8:=ifT hb1 q8;refine Ec (d:=7) rfl rfl (congrArg Value.bool hb1) ?_;refine Ap (v:=f0) rfl ?_;refine Ec (d:=7) rfl rfl (congrArg Value.bool hb1) ?_;refine GS (i:=0) (cs:=[vS s1.1]) S3 rfl rfl Tryz.isAgg9 Tryz.sizeOf9 rfl (fun _=>rfl) ?_;refine Ec (d:=7) rfl rfl (congrArg Value.bool hb1) ?_;obtain⟨x6,q9,q8⟩:=Aa q8;have S6:=St.absF (L:=[bx kb0 [vS s1.1] 9]) (X:=X1) (As:=As) S3;refine Fx rfl (cb0 S6 h1 q9) rfl ?_;rintro _ w5 ⟨m4,X5,l3,S7,h5,rfl⟩;replace S7:=St.absF (L:=X5) (X:=[bx kb0 [vS s1.1] 9]) (As:=As) S7;clear S6;replace L4:=Mem.tr L4 l3;replace S7:St _ ((bx kb0 [vS s1.1] 9)::(X5++As)) _:=S7;clear S3;refine Hc (congrArg Value.bool hb1) rfl ?_;refine Ag (nrm ?_);have e0:=Option.some.inj q8;subst e0;exact⟨Fl,m4,_,L4,S7,h5,⟨rfl,trivial⟩⟩
    replace q8:=ifF hb1 q8;refine E5 (d:=7) rfl rfl (congrArg Value.bool hb1) ?_;refine E5 (d:=7) rfl rfl (congrArg Value.bool hb1) ?_;refine E5 (d:=7) rfl rfl (congrArg Value.bool hb1) ?_;refine Hd (congrArg Value.bool hb1) rfl ?_;refine Ag (nrm ?_);have e0:=Option.some.inj q8;subst e0;exact⟨Fl,m2,_,L4,S3,h1,⟨rfl,trivial⟩⟩
   rintro f2 w6 ho ⟨m5,X4,l4,S8,h4,ha⟩;obtain⟨u2,rfl⟩:=BP (N:=14) ho ha;replace L2:=Mem.tr L2 l4;clear S3;refine Ag ?_;refine nrm ?_;refine B3 (t:=x5.1) rfl (fun hc1=> ?_) (fun hc1=> ?_)
   ·replace q5:=ifT hc1 q5;refine A7 ?_;refine nrm ?_;refine Af ?_;refine AA ?_;refine A7 ?_;refine J9 ?_;refine nrm ?_;refine Ac ?_;refine GS (i:=0) (cs:=[vS s1.1]) S8 rfl rfl Tryz.isAgg9 Tryz.sizeOf9 rfl (fun _=>rfl) ?_;obtain⟨x7,q10,q5⟩:=Aa q5;refine CJ Tryz.call184 (LS (a0:=s1.1) S8 q10) rfl ?_;rintro _ w7 ⟨m6,l5,S9,rfl⟩;replace h4:=hup l5 h4;replace L2:=Mem.tr L2 l5;clear S8;replace S9:St _ ((bx kb0 [vS s1.1] 9)::(X4++As)) _:=S9;refine Hb (i:=0) S9 rfl rfl rfl Tryz.sizeOf9 (H0 rfl KV) rfl ?_;intro w8 S10;replace S10:St _ ((bx kb0 [vS x7] 9)::(X4++As)) _:=S10;clear S9;refine Ag ?_;refine nrm ?_;have e0:=Option.some.inj q5;subst e0;rcases q4 with ⟨sn,e,q4'⟩|e
    ·cases e;exact⟨Fl,_,Nat.lt_succ_self _,⟨_,m6,_,q4',Mem.tr L3 L2,S10,h4,trivial⟩⟩
    ·cases e
   replace q5:=ifF hc1 q5;refine CH ?_;refine thE ?_;refine thE ?_;refine exB ?_;refine nrm ?_;have e0:=Option.some.inj q5;subst e0;rcases q4 with ⟨sn,e,_⟩|e
   ·cases e
   ·cases e;exact⟨Fl,m5,_,Mem.tr L3 L2,S8,h4,trivial⟩
 rintro f3 w9 ho ⟨m8,X2,l6,S11,h2,ha⟩;obtain⟨u3,rfl⟩:=BP (N:=14) ho ha;clear ho ha;replace L0:=Mem.tr L0 l6;clear S2;refine RF ?_;intro we hpd;replace S11:=St.pd S11 hpd;have e0:=Option.some.inj hm;subst e0;exact G4 [] rfl trivial ⟨_,L0,_,S11,rfl,h2⟩
def FG (a0:ByteArray):Option ByteArray:=some a0
theorem MO {m:Mem}{As:List Ow}{w:World}{a0:ByteArray}{r:ByteArray}(S:St m (As) w)(hm:FG a0=some r):
  Az Tryz.prog 138 #[vS a0] w fun v w'=> ∃(M:Mem),m≤M∧∃(rk0_0:Nat),St M ((bx rk0_0 [vS r] 9)::As) w'∧v= .func (.func 183) #[] #[pt rk0_0 0]:=by
 unfold FG at hm;have L0:=Mem.rfl' m;refine Co (args:=[vS a0]) Tryz.func138 rfl Tryz.ntmps138 (Nat.le_of_ble_eq_true rfl) ?_;refine Af ?_;refine Ac ?_;refine JZ S rfl ?_;intro b1 w1 S1;replace S1:St _ ((bx b1 [vS a0] 9)::As) _:=S1;clear S;refine Bb (v:= .nilFunc) rfl ?_;refine Ag ?_;refine nrm ?_;refine Af ?_;refine Ac ?_;refine Jm (caps:=[pt b1 0]) rfl ?_;refine Bb (v:= .func (.func 183) #[] #[pt b1 0]) rfl ?_;refine Ag ?_;refine nrm ?_;refine Bl ?_;refine Dx ?_;intro we hpd;replace S1:=St.pd S1 hpd;have e0:=Option.some.inj hm;subst e0;exact G4 [_] rfl ⟨rfl,trivial⟩ ⟨_,L0,_,S1,rfl⟩
def Cq (a1:ByteArray)(b5:ByteArray)(s1:(Bool)×Nat):Option ((Bool)×Nat):=if(eqS b5 a1)=true then some (true,1)else some (s1.1,0)
def CW (a0:ByteArray)(a1:ByteArray):Option Bool:=Ad (FG a0) fun x1=>Ad (EH (fun(s:(Bool)×Nat) (b0:ByteArray)=>if s.2=0 then Ad (Cq a1 b0 s) fun y=>some (y.2==0,y)else none) x1 (false,0)) fun x2=>if(x2.2).2=0 then some false else some x2.2.1
theorem MN {m:Mem}{As:List Ow}{w:World}{a0:ByteArray}{a1:ByteArray}{r:Bool}(S:St m (As) w)(hm:CW a0 a1=some r):
  Az Tryz.prog 83 #[vS a0,vS a1] w fun v w'=> ∃(M:Mem),m≤M∧St M (As) w'∧v=vb r:=by
 unfold CW at hm;have L0:=Mem.rfl' m;refine Co (args:=[vS a0,vS a1]) Tryz.func83 rfl Tryz.ntmps83 (Nat.le_of_ble_eq_true rfl) ?_;refine Af ?_;refine Ac ?_;refine JZ S rfl ?_;intro b1 w1 S1;replace S1:St _ ((bx b1 [vS a1] 9)::As) _:=S1;clear S;refine EC S1 Tryz.zeroValue4 ?_;intro b2 w2 S2;replace S2:St _ ((bx b2 [vb false] 4)::(bx b1 [vS a1] 9)::As) _:=S2;clear S1;refine Ag ?_;refine nrm ?_;refine Af ?_;refine Af ?_;refine Ac ?_;refine Ap (v:=vS a0) rfl ?_;obtain⟨x1,q1,hm⟩:=Aa hm;refine CJ Tryz.call138 (MO (a0:=a0) S2 q1) rfl ?_;rintro _ w3 ⟨m1,l1,b3,S3,rfl⟩;replace L0:=Mem.tr L0 l1;clear S2;replace S3:St _ ((bx b3 [vS x1] 9)::(bx b2 [vb false] 4)::(bx b1 [vS a1] 9)::As) _:=S3;refine Ag ?_;refine nrm ?_;refine AA ?_;obtain⟨x2,q2,hm⟩:=Aa hm;refine Ew S3 rfl Tryz.call183 ?_;intro lp1 rip2 w4 h1 S4;replace S4:St _ ((Lp lp1 rip2 .ready none)::(bx b3 [vS x1] 9)::(bx b2 [vb false] 4)::(bx b1 [vS a1] 9)::As) _:=S4;clear S3;have S5:St _ ((bx b3 [vS x1] 9)::(Lp lp1 rip2 .ready none)::(bx b2 [vb false] 4)::(bx b1 [vS a1] 9)::As) _:=St.perm S4 (List.Perm.swap _ _ _);clear S4;have hcb1: ∀{m':Mem} {As':List Ow} {w':World} {s:(Bool)×Nat} {X:List Ow} {b0:ByteArray} {r:Bool×((Bool)×Nat)},St m' (X++As') w'→(m1≤m'∧(((s).2=0∧X=Lp lp1 rip2 .ready none::(bx b2 [vb ((s).1)] 4)::(bx b1 [vS a1] 9)::[])∨((s).2=1∧X=Lp lp1 rip2 .done (some .ret)::(bx b2 [vb ((s).1)] 4)::(bx b1 [vS a1] 9)::[])))→(fun(s:(Bool)×Nat) (b0:ByteArray)=>if s.2=0 then Ad (Cq a1 b0 s) fun y=>some (y.2==0,y)else none) s b0=some r→Dt Tryz.prog (.func (.yield lp1) #[] #[]) [vS b0] w' fun v w''=> ∃(M:Mem) (X':List Ow),m'≤M∧St M (X'++As') w''∧(m1≤M∧(((r.2).2=0∧X'=Lp lp1 rip2 .ready none::(bx b2 [vb ((r.2).1)] 4)::(bx b1 [vS a1] 9)::[])∨((r.2).2=1∧X'=Lp lp1 rip2 .done (some .ret)::(bx b2 [vb ((r.2).1)] 4)::(bx b1 [vS a1] 9)::[])))∧v=vb r.1:=by
  intro m2 As1 w5 s1 X1 b5 r1 S6 h2 hm1;obtain⟨L2,h3⟩:=h2;rcases h3 with ⟨hj1,rfl⟩|⟨hj1,rfl⟩
  ·try dsimp only at hm1
   rw[if_pos hj1]at hm1;obtain⟨y1,q3,hm1⟩:=Aa hm1;cases hm1;unfold Cq at q3;replace S6:St _ ((Lp lp1 rip2 .ready none)::(bx b2 [vb s1.1] 4)::(bx b1 [vS a1] 9)::As1) _:=S6;have L1:=Mem.rfl' m2;refine Dt.round h1 rfl S6 ?_;refine Ac ?_;refine Bb (v:=vS b5) rfl ?_;refine Ag ?_;refine nrm ?_;refine⟨_,_,S6,?_⟩;intro w6 S7;clear S6;replace S7:St _ ((Lp lp1 rip2 .busy none)::(bx b2 [vb s1.1] 4)::(bx b1 [vS a1] 9)::As1) _:=S7;refine AA ?_;refine Af ?_;refine Ac ?_;refine Ap (v:=vS b5) rfl ?_;refine GS (i:=2) (cs:=[vS a1]) S7 rfl rfl Tryz.isAgg9 Tryz.sizeOf9 rfl (fun _=>rfl) ?_;refine Wj (p:=b5) (q:=a1) rfl rfl ?_;refine Ag ?_;refine nrm ?_;refine B3 (t:=(eqS b5 a1)) rfl (fun hc1=> ?_) (fun hc1=> ?_)
   ·replace q3:=ifT hc1 q3;refine Af ?_;refine Ac ?_;refine Hb (i:=1) S7 rfl rfl rfl Tryz.sizeOf4 (H0 rfl KV) rfl ?_;intro w7 S8;replace S8:St _ ((Lp lp1 rip2 .busy none)::(bx b2 [vb true] 4)::(bx b1 [vS a1] 9)::As1) _:=S8;clear S7;refine Ag ?_;refine nrm ?_;refine Bl ?_;refine blR ?_;refine⟨_,_,S8,?_⟩;intro w8 S9;have e0:=Option.some.inj q3;subst e0;exact⟨_,Lp lp1 rip2 .done (some .ret)::(bx b2 [vb true] 4)::(bx b1 [vS a1] 9)::[],L1,S9,⟨Mem.tr L2 L1,.inr (⟨rfl,rfl⟩)⟩,rfl⟩
   replace q3:=ifF hc1 q3;refine A7 ?_;refine J9 ?_;refine⟨_,_,S7,?_⟩;intro w9 S10;have e0:=Option.some.inj q3;subst e0;exact⟨_,Lp lp1 rip2 .ready none::(bx b2 [vb s1.1] 4)::(bx b1 [vS a1] 9)::[],L1,S10,⟨Mem.tr L2 L1,.inl ⟨rfl,rfl⟩⟩,rfl⟩
  ·try dsimp only at hm1
   rw[if_neg (by rw[hj1]; decide)]at hm1;cases hm1
 refine Az.mono (Ko (p0:=(fun(s:(Bool)×Nat) (b0:ByteArray)=>if s.2=0 then Ad (Cq a1 b0 s) fun y=>some (y.2==0,y)else none)) (k0:=x1) (s0:=(false,0)) (R:=(fun(s:(Bool)×Nat) (M:Mem) (X:List Ow)=>(m1≤M∧(((s).2=0∧X=Lp lp1 rip2 .ready none::(bx b2 [vb ((s).1)] 4)::(bx b1 [vS a1] 9)::[])∨((s).2=1∧X=Lp lp1 rip2 .done (some .ret)::(bx b2 [vb ((s).1)] 4)::(bx b1 [vS a1] 9)::[]))))) (X0:=((Lp lp1 rip2 .ready none)::(bx b2 [vb false] 4)::(bx b1 [vS a1] 9)::[])) (As:=As) S5 (fun l h=>by obtain⟨Lm,e⟩:=h; exact⟨Mem.tr Lm l,e⟩) ⟨Mem.rfl' _,.inl ⟨rfl,rfl⟩⟩ @hcb1 rfl q2) ?_;rintro _ w10 ⟨m3,l2,X2,S11,rfl,⟨L3,h4⟩⟩;rcases h4 with ⟨hj2,rfl⟩|⟨hj2,rfl⟩
 ·rw[if_pos hj2]at hm;replace S11:St _ ((bx b3 [vS x2.1] 9)::(Lp lp1 rip2 .ready none)::(bx b2 [vb x2.2.1] 4)::(bx b1 [vS a1] 9)::As) _:=S11;have S12:St _ ((Lp lp1 rip2 .ready none)::(bx b3 [vS x2.1] 9)::(bx b2 [vb x2.2.1] 4)::(bx b1 [vS a1] 9)::As) _:=St.perm S11 (List.Perm.swap _ _ _);clear S11;refine⟨_,.ready,none,_,l2,(fun h=>by cases h),S12,?_⟩;intro m4 w11 l3 S13;have l4:=Mem.tr l2 l3;replace L0:=Mem.tr L0 l4;replace S13:St _ ((bx b3 [vS x2.1] 9)::(bx b2 [vb x2.2.1] 4)::(bx b1 [vS a1] 9)::As) _:=S13;refine J9 ?_;refine nrm ?_;refine Af ?_;refine Ac ?_;refine Hb (i:=1) S13 rfl rfl rfl Tryz.sizeOf4 (H0 rfl KV) rfl ?_;intro w12 S14;replace S14:St _ ((bx b3 [vS x2.1] 9)::(bx b2 [vb false] 4)::(bx b1 [vS a1] 9)::As) _:=S14;clear S13;refine Ag ?_;refine nrm ?_;refine Bl ?_;refine Dx ?_;intro we hpd;replace S14:=St.pd S14 hpd;have SR:=S14;obtain⟨m5,l5,S15⟩:=St.drop S14 0;replace L0:=Mem.tr L0 l5;replace S15:St _ ((bx b2 [vb false] 4)::(bx b1 [vS a1] 9)::As) _:=S15;obtain⟨m6,l6,S16⟩:=St.drop S15 0;replace L0:=Mem.tr L0 l6;clear S15;replace S16:St _ ((bx b1 [vS a1] 9)::As) _:=S16;obtain⟨m7,l7,S17⟩:=St.drop S16 0;replace L0:=Mem.tr L0 l7;clear S16;replace S17:St _ (As) _:=S17;have e0:=Option.some.inj hm;subst e0;exact G4 [_] rfl ⟨Hf (i:=1) (off:=0) (cs:=[vb false]) SR rfl rfl Tryz.isAgg4 Tryz.sizeOf4 rfl (fun _=>rfl),trivial⟩ ⟨_,L0,S17,rfl⟩
 ·rw[if_neg (show¬(x2.2).2=0 by rw[hj2]; decide)]at hm;replace S11:St _ ((bx b3 [vS x2.1] 9)::(Lp lp1 rip2 .done (some .ret))::(bx b2 [vb x2.2.1] 4)::(bx b1 [vS a1] 9)::As) _:=S11;have S18:St _ ((Lp lp1 rip2 .done (some .ret))::(bx b3 [vS x2.1] 9)::(bx b2 [vb x2.2.1] 4)::(bx b1 [vS a1] 9)::As) _:=St.perm S11 (List.Perm.swap _ _ _);clear S11;refine⟨_,.done,(some .ret),_,l2,(fun h=>by cases h),S18,?_⟩;intro m8 w13 l8 S19;have l9:=Mem.tr l2 l8;replace L0:=Mem.tr L0 l9;replace S19:St _ ((bx b3 [vS x2.1] 9)::(bx b2 [vb x2.2.1] 4)::(bx b1 [vS a1] 9)::As) _:=S19;refine Bl ?_;refine blR ?_;refine thR ?_;refine Dx ?_;intro we hpd;replace S19:=St.pd S19 hpd;have SR:=S19;obtain⟨m9,l10,S20⟩:=St.drop S19 0;replace L0:=Mem.tr L0 l10;replace S20:St _ ((bx b2 [vb x2.2.1] 4)::(bx b1 [vS a1] 9)::As) _:=S20;obtain⟨m10,l11,S21⟩:=St.drop S20 0;replace L0:=Mem.tr L0 l11;clear S20;replace S21:St _ ((bx b1 [vS a1] 9)::As) _:=S21;obtain⟨m11,l12,S22⟩:=St.drop S21 0;replace L0:=Mem.tr L0 l12;clear S21;replace S22:St _ (As) _:=S22;have e0:=Option.some.inj hm;subst e0;exact G4 [_] rfl ⟨Hf (i:=1) (off:=0) (cs:=[vb x2.2.1]) SR rfl rfl Tryz.isAgg4 Tryz.sizeOf4 rfl (fun _=>rfl),trivial⟩ ⟨_,L0,S22,rfl⟩
theorem Ni {a0:ByteArray}{a1:ByteArray}{r:Bool}(hm:CW a0 a1=some r):Sf prog 83 [.d (.s a0),.d (.s a1)] (.d (.t r)):=
 ⟨call83,fun η m As w vs hv0 hd S=>by
  have S:St m As w:=S;obtain⟨v0,u0,rfl,r0,hv1⟩:=Bj.cons_inv hv0;obtain rfl:=r0.s_inv;obtain⟨v1,u1,rfl,r1,hv2⟩:=Bj.cons_inv hv1;obtain rfl:=r1.s_inv;obtain rfl:=Bj.nil_inv hv2;refine Az.mono (MN S hm) ?_;rintro v w' ⟨M,hle,S0,rfl⟩;exact⟨M,none0,_,_,_,hle,RM hd _,⟨rfl,rfl,rfl⟩,fun n h=>absurd rfl h,(.d (.t _)),S0⟩⟩
def EI (a0:ByteArray)(a1:ByteArray):Option Bool:=Ad (BC a0) fun x1=>Ad (gu (!(!x1.2.2)) (BY a1)) fun x2=>if((!x1.2.2)||(!x2))=true then some false else if x1.2.1=true then Ad (CW a1 x1.1) fun x3=>some x3 else some (eqS x1.1 a1)
theorem MP {a0:ByteArray}{a1:ByteArray}{r:Bool}(hm:EI a0 a1=some r):Sf prog 44 [.d (.s a0),.d (.s a1)] (.d (.t r)):=
 sp call44 func44 rfl ntmps44 rfl fun D0 As η0 m0 hd=>by
  unfold EI at hm;obtain⟨x1,q1,hm⟩:=Aa hm;refine gc (fun _=>Ht q1) ?_;obtain⟨x2,q2,hm⟩:=Aa hm;refine gcG (fun h=>HX (G5 h q2)) ?_;refine gi hm (fun hc1 hm=> ?_) fun hc1 hm=> ?_
  ·skip;have e0:=Option.some.inj hm;subst e0;exact AO hd
  refine gi hm (fun hc2 hm=> ?_) fun hc2 hm=> ?_
  ·skip;obtain⟨x3,q3,hm⟩:=Aa hm;refine gc (fun _=>Ni q3) ?_;have e0:=Option.some.inj hm;subst e0;exact AO hd
  have e0:=Option.some.inj hm;subst e0;exact AO hd
def Dn (a0:ByteArray)(k0:ByteArray):Option (Bool×ByteArray):=Ad (EI a0 k0) fun x1=>some (x1,k0)
theorem IF {a0:ByteArray}{k0:ByteArray}{r:Bool×ByteArray}(hm:Dn a0 k0=some r):Sp prog 133 [.d (.s a0),.pb 0 0] [.box 0 [.d (.s k0)] 9] 1 (is (.d (.t r.1)) [.box 0 [.d (.s r.2)] 9] 1):=
 sp call133 func133 rfl ntmps133 rfl fun D0 As η0 m0 hd=>by
  unfold Dn at hm;obtain⟨x1,q1,hm⟩:=Aa hm;refine gc (fun _=>MP q1) ?_;have e0:=Option.some.inj hm;subst e0;exact AO hd
def Av (a0:List ByteArray)(i1:Int)(s1:ByteArray):Option ((ByteArray)⊕(Int×ByteArray)):=Ad (idx a0 (i1:Int)) fun x3=>Ad (Dn x3 s1) fun x4=>if x4.1=true then some (.inr ((i1:Int),x4.2))else some (.inl x4.2)
def A2 (a0:List ByteArray)(k0:ByteArray):Option (Int×ByteArray):=Ad (C3 (Av a0) a0.length 0 k0) fun x1=>match x1 with| .inr r=>some r| .inl y1=>some ((-1),y1)
theorem D2 {a0:List ByteArray}{k0:ByteArray}{r:Int×ByteArray}(hm:A2 a0 k0=some r):Sp prog 178 [sl eS a0,.fn (.func 133) [] [.pb 0 0]] [.box 0 [.d (.s k0)] 9] 1 (is (.d (.i r.1)) [.box 0 [.d (.s r.2)] 9] 1):=
 sp call178 func178 rfl ntmps178 rfl fun D0 As η0 m0 hd=>by
  unfold A2 at hm;obtain⟨x1,q1,hm⟩:=Aa hm;refine Mq 0 (E:=eS) (xs:=a0) 6 fun hle1=> ?_;refine gjU 0 (fun(y1:ByteArray)=>⟨[],[(0,.box 0 [.d (.s y1)] 9)],[],1⟩) (fun y1=>x1= .inl y1) (fun Jp bk1=> ?_) fun y1 hy=> ?_
  ·refine gl hd (fun(p:Int×(ByteArray))=>let (p0,p_0):=p; ⟨[(0,sl eS a0),(1,.fn (.func 133) [] [.pb 0 0]),(7,.d (.i (a0.length:Int))),(8,.d (.i p0))],[(0,.box 0 [.d (.s p_0)] 9)],[],1⟩) (fun p=> ∃i:Nat,p.1=(i:Int)∧i≤a0.length∧C3 (Av a0) (a0.length-i) (i:Int) p.2=some x1) (fun p=>a0.length-p.1.toNat) (0,k0) ⟨0,rfl,Nat.zero_le _,q1⟩ ?_;rintro⟨_,s1⟩ ⟨i1,rfl,hi,q2⟩ Jl bl1;refine gi' (b:=decide ((i1:Int)<(a0.length:Int))) (fun hc2=> ?_) fun hc2=> ?_
   ·have hlt1:i1<a0.length:=by have:=of_decide_eq_true hc2; omega
    obtain⟨y2,q4,q3⟩:=FN q2 hlt1;unfold Av at q4;obtain⟨x3,q6,q4⟩:=Aa q4;refine Hs (k:=1) (E:=eS) (fun _=>rfl) (fun _=>q6) ?_;obtain⟨x4,q7,q4⟩:=Aa q4;refine gco (IF q7) ?_;refine gi q4 (fun hc1 q4=> ?_) fun hc1 q4=> ?_
    ·skip;cases q4;rcases q3 with ⟨sn,e,_⟩|⟨tn,e,e2⟩
     ·cases e
     cases e;cases e2;dsimp only at hm;have e0:=Option.some.inj hm;subst e0;exact AO hd
    have e0:=Option.some.inj q4;subst e0;rcases q3 with ⟨sn,e,q3'⟩|⟨tn,e,_⟩
    ·have e:=Sum.inl.inj e;subst e;exact gb bl1 hd (w64 ((i1:Int)+1),_) ⟨⟨i1+1,Bc hlt1 hle1,by omega,q3'⟩,Gl hlt1 hle1⟩
    cases B4 e
   have hlt1: ¬i1<a0.length:=by have:=of_decide_eq_false hc2; omega
   have e:=ET q2 hlt1;cases e;exact gb bk1 hd _ rfl
  subst hy;dsimp only at hm;have e0:=Option.some.inj hm;subst e0;exact AO hd
def AT (a0:List ByteArray)(k0:ByteArray):Option (Bool×ByteArray):=Ad (A2 a0 k0) fun x1=>some ((decide (x1.1≥0)),x1.2)
theorem Dr {a0:List ByteArray}{k0:ByteArray}{r:Bool×ByteArray}(hm:AT a0 k0=some r):Sp prog 132 [sl eS a0,.fn (.func 133) [] [.pb 0 0]] [.box 0 [.d (.s k0)] 9] 1 (is (.d (.t r.1)) [.box 0 [.d (.s r.2)] 9] 1):=
 sp call132 func132 rfl ntmps132 rfl fun D0 As η0 m0 hd=>by
  unfold AT at hm;obtain⟨x1,q1,hm⟩:=Aa hm;refine gco (D2 q1) ?_;have e0:=Option.some.inj hm;subst e0;exact AO hd
def Cp (a0:ByteArray)(k0:g_api_Cert):Option (Bool×g_api_Cert):=Ad (AT k0.Permit a0) fun x1=>some ((!x1.1),k0)
theorem JS {a0:ByteArray}{k0:g_api_Cert}{r:Bool×g_api_Cert}(hm:Cp a0 k0=some r):Sp prog 131 [.d (.s a0),.pb 0 0] [.box 0 [.d (.i k0.Serial),.d (.s k0.Issuer),.d (.s k0.Subject),.d (.u k0.Key),sl eS k0.Names,.d (.i k0.From),.d (.i k0.Until),.d (.t k0.Ca),.d (.i k0.Depth),sl eS k0.Permit,sl Ak k0.Proms,.d (.u k0.Sig.E),.d (.u k0.Sig.S)] 28] 1 (is (.d (.t r.1)) [.box 0 [.d (.i r.2.Serial),.d (.s r.2.Issuer),.d (.s r.2.Subject),.d (.u r.2.Key),.d (.sl _ eS r.2.Names),.d (.i r.2.From),.d (.i r.2.Until),.d (.t r.2.Ca),.d (.i r.2.Depth),.d (.sl _ eS r.2.Permit),.d (.sl _ Ak r.2.Proms),.d (.u r.2.Sig.E),.d (.u r.2.Sig.S)] 28] 1):=
 sp call131 func131 rfl ntmps131 rfl fun D0 As η0 m0 hd=>by
  unfold Cp at hm;obtain⟨x1,q1,hm⟩:=Aa hm;refine gco (Dr q1) ?_;have e0:=Option.some.inj hm;subst e0;exact AO hd
def Aw (a0:List ByteArray)(i1:Int)(s1:Int×ByteArray×ByteArray×UInt64×(List ByteArray)×Int×Int×Bool×Int×(List ByteArray)×(List g_api_Promise)×UInt64×UInt64):Option ((Int×ByteArray×ByteArray×UInt64×(List ByteArray)×Int×Int×Bool×Int×(List ByteArray)×(List g_api_Promise)×UInt64×UInt64)⊕(Int×g_api_Cert)):=Ad (idx a0 (i1:Int)) fun x3=>Ad (Cp x3 (⟨s1.1,s1.2.1,s1.2.2.1,s1.2.2.2.1,s1.2.2.2.2.1,s1.2.2.2.2.2.1,s1.2.2.2.2.2.2.1,s1.2.2.2.2.2.2.2.1,s1.2.2.2.2.2.2.2.2.1,s1.2.2.2.2.2.2.2.2.2.1,s1.2.2.2.2.2.2.2.2.2.2.1,(⟨s1.2.2.2.2.2.2.2.2.2.2.2.1,s1.2.2.2.2.2.2.2.2.2.2.2.2⟩:g_api_Sig)⟩:g_api_Cert)) fun x4=>if x4.1=true then some (.inr ((i1:Int),x4.2))else some (.inl (x4.2.Serial,x4.2.Issuer,x4.2.Subject,x4.2.Key,x4.2.Names,x4.2.From,x4.2.Until,x4.2.Ca,x4.2.Depth,x4.2.Permit,x4.2.Proms,x4.2.Sig.E,x4.2.Sig.S))
def A3 (a0:List ByteArray)(k0:g_api_Cert):Option (Int×g_api_Cert):=Ad (C3 (Aw a0) a0.length 0 (k0.Serial,k0.Issuer,k0.Subject,k0.Key,k0.Names,k0.From,k0.Until,k0.Ca,k0.Depth,k0.Permit,k0.Proms,k0.Sig.E,k0.Sig.S)) fun x1=>match x1 with| .inr r=>some r| .inl y1=>some ((-1),(⟨y1.1,y1.2.1,y1.2.2.1,y1.2.2.2.1,y1.2.2.2.2.1,y1.2.2.2.2.2.1,y1.2.2.2.2.2.2.1,y1.2.2.2.2.2.2.2.1,y1.2.2.2.2.2.2.2.2.1,y1.2.2.2.2.2.2.2.2.2.1,y1.2.2.2.2.2.2.2.2.2.2.1,(⟨y1.2.2.2.2.2.2.2.2.2.2.2.1,y1.2.2.2.2.2.2.2.2.2.2.2.2⟩:g_api_Sig)⟩:g_api_Cert))
theorem D3 {a0:List ByteArray}{k0:g_api_Cert}{r:Int×g_api_Cert}(hm:A3 a0 k0=some r):Sp prog 178 [sl eS a0,.fn (.func 131) [] [.pb 0 0]] [.box 0 [.d (.i k0.Serial),.d (.s k0.Issuer),.d (.s k0.Subject),.d (.u k0.Key),sl eS k0.Names,.d (.i k0.From),.d (.i k0.Until),.d (.t k0.Ca),.d (.i k0.Depth),sl eS k0.Permit,sl Ak k0.Proms,.d (.u k0.Sig.E),.d (.u k0.Sig.S)] 28] 1 (is (.d (.i r.1)) [.box 0 [.d (.i r.2.Serial),.d (.s r.2.Issuer),.d (.s r.2.Subject),.d (.u r.2.Key),.d (.sl _ eS r.2.Names),.d (.i r.2.From),.d (.i r.2.Until),.d (.t r.2.Ca),.d (.i r.2.Depth),.d (.sl _ eS r.2.Permit),.d (.sl _ Ak r.2.Proms),.d (.u r.2.Sig.E),.d (.u r.2.Sig.S)] 28] 1):=
 sp call178 func178 rfl ntmps178 rfl fun D0 As η0 m0 hd=>by
  unfold A3 at hm;obtain⟨x1,q1,hm⟩:=Aa hm;refine Mq 0 (E:=eS) (xs:=a0) 6 fun hle1=> ?_;refine gjU 0 (fun(y1:Int×ByteArray×ByteArray×UInt64×(List ByteArray)×Int×Int×Bool×Int×(List ByteArray)×(List g_api_Promise)×UInt64×UInt64)=>let (y_0,y_1,y_2,y_3,y_4,y_5,y_6,y_7,y_8,y_9,y_10,y_11,y_12):=y1; ⟨[],[(0,.box 0 [.d (.i y_0),.d (.s y_1),.d (.s y_2),.d (.u y_3),sl eS y_4,.d (.i y_5),.d (.i y_6),.d (.t y_7),.d (.i y_8),sl eS y_9,sl Ak y_10,.d (.u y_11),.d (.u y_12)] 28)],[],1⟩) (fun y1=>x1= .inl y1) (fun Jp bk1=> ?_) fun y1 hy=> ?_
  ·refine gl hd (fun(p:Int×(Int×ByteArray×ByteArray×UInt64×(List ByteArray)×Int×Int×Bool×Int×(List ByteArray)×(List g_api_Promise)×UInt64×UInt64))=>let (p0,p_0,p_1,p_2,p_3,p_4,p_5,p_6,p_7,p_8,p_9,p_10,p_11,p_12):=p; ⟨[(0,sl eS a0),(1,.fn (.func 131) [] [.pb 0 0]),(7,.d (.i (a0.length:Int))),(8,.d (.i p0))],[(0,.box 0 [.d (.i p_0),.d (.s p_1),.d (.s p_2),.d (.u p_3),sl eS p_4,.d (.i p_5),.d (.i p_6),.d (.t p_7),.d (.i p_8),sl eS p_9,sl Ak p_10,.d (.u p_11),.d (.u p_12)] 28)],[],1⟩) (fun p=> ∃i:Nat,p.1=(i:Int)∧i≤a0.length∧C3 (Aw a0) (a0.length-i) (i:Int) p.2=some x1) (fun p=>a0.length-p.1.toNat) (0,(k0.Serial,k0.Issuer,k0.Subject,k0.Key,k0.Names,k0.From,k0.Until,k0.Ca,k0.Depth,k0.Permit,k0.Proms,k0.Sig.E,k0.Sig.S)) ⟨0,rfl,Nat.zero_le _,q1⟩ ?_;rintro⟨_,s1⟩ ⟨i1,rfl,hi,q2⟩ Jl bl1;refine gi' (b:=decide ((i1:Int)<(a0.length:Int))) (fun hc2=> ?_) fun hc2=> ?_
   ·have hlt1:i1<a0.length:=by have:=of_decide_eq_true hc2; omega
    obtain⟨y2,q4,q3⟩:=FN q2 hlt1;unfold Aw at q4;obtain⟨x3,q6,q4⟩:=Aa q4;refine Hs (k:=1) (E:=eS) (fun _=>rfl) (fun _=>q6) ?_;obtain⟨x4,q7,q4⟩:=Aa q4;refine gco (JS q7) ?_;refine gi q4 (fun hc1 q4=> ?_) fun hc1 q4=> ?_
    ·skip;cases q4;rcases q3 with ⟨sn,e,_⟩|⟨tn,e,e2⟩
     ·cases e
     cases e;cases e2;dsimp only at hm;have e0:=Option.some.inj hm;subst e0;exact AO hd
    have e0:=Option.some.inj q4;subst e0;rcases q3 with ⟨sn,e,q3'⟩|⟨tn,e,_⟩
    ·have e:=Sum.inl.inj e;subst e;exact gb bl1 hd (w64 ((i1:Int)+1),_) ⟨⟨i1+1,Bc hlt1 hle1,by omega,q3'⟩,Gl hlt1 hle1⟩
    cases B4 e
   have hlt1: ¬i1<a0.length:=by have:=of_decide_eq_false hc2; omega
   have e:=ET q2 hlt1;cases e;exact gb bk1 hd _ rfl
  subst hy;dsimp only at hm;have e0:=Option.some.inj hm;subst e0;exact AO hd
def AF (a0:List ByteArray)(k0:g_api_Cert):Option (Bool×g_api_Cert):=Ad (A3 a0 k0) fun x1=>some ((decide (x1.1≥0)),x1.2)
theorem Ds {a0:List ByteArray}{k0:g_api_Cert}{r:Bool×g_api_Cert}(hm:AF a0 k0=some r):Sp prog 132 [sl eS a0,.fn (.func 131) [] [.pb 0 0]] [.box 0 [.d (.i k0.Serial),.d (.s k0.Issuer),.d (.s k0.Subject),.d (.u k0.Key),sl eS k0.Names,.d (.i k0.From),.d (.i k0.Until),.d (.t k0.Ca),.d (.i k0.Depth),sl eS k0.Permit,sl Ak k0.Proms,.d (.u k0.Sig.E),.d (.u k0.Sig.S)] 28] 1 (is (.d (.t r.1)) [.box 0 [.d (.i r.2.Serial),.d (.s r.2.Issuer),.d (.s r.2.Subject),.d (.u r.2.Key),.d (.sl _ eS r.2.Names),.d (.i r.2.From),.d (.i r.2.Until),.d (.t r.2.Ca),.d (.i r.2.Depth),.d (.sl _ eS r.2.Permit),.d (.sl _ Ak r.2.Proms),.d (.u r.2.Sig.E),.d (.u r.2.Sig.S)] 28] 1):=
 sp call132 func132 rfl ntmps132 rfl fun D0 As η0 m0 hd=>by
  unfold AF at hm;obtain⟨x1,q1,hm⟩:=Aa hm;refine gco (D3 q1) ?_;have e0:=Option.some.inj hm;subst e0;exact AO hd
def Cg (a0:g_path_trip)(x6:List g_api_Cert)(i1:Int)(s1:Unit):Option ((Unit)⊕Int):=Ad (idx x6 (i1:Int)) fun x9=>bnd ((decide (x9.Depth<(i1:Int)))) fun x10=>if x10=true then some (.inr 191)else if(decide ((x9.Permit.length:Int)>0))=true then Ad (idx a0.chain_ 0) fun x11=>Ad (AF x11.Names x9) fun x12=>if x12.1=true then some (.inr 110)else some (.inl ())else some (.inl ())
def Df (a0:g_path_trip)(a1:g_api_Cert):Option Int:=Ad (idx a0.chain_ (w64 ((a0.chain_.length:Int)-1))) fun x1=>Ad (CA x1 a1) fun x2=>if(x2 !=0)=true then some x2 else Ad (Ct a0 a1) fun x3=>if(!x3)=true then some 190 else Ad (cut a0.chain_ 1 (a0.chain_.length:Int)) fun x4=>Ad (AL x4) fun x5=>Ad (app 168 x5 ([a1]:List g_api_Cert)) fun x6=>Ad (C3 (Cg a0 x6) x6.length 0 ()) fun x7=>match x7 with| .inr r=>some r| .inl y1=>some 0
theorem Lz {a0:g_path_trip}{a1:g_api_Cert}{r:Int}(hm:Df a0 a1=some r):Sf prog 79 [ag (C4 a0),ag (Ae a1)] (.d (.i r)):=
 sp call79 func79 rfl ntmps79 rfl fun D0 As η0 m0 hd=>by
  unfold Df at hm;obtain⟨x1,q1,hm⟩:=Aa hm;refine Hs (k:=13) (E:=Ae) (fun _=>rfl) (fun _=>q1) ?_;obtain⟨x2,q2,hm⟩:=Aa hm;refine gc (fun _=>E9 q2) ?_;refine gi hm (fun hc1 hm=> ?_) fun hc1 hm=> ?_
  ·skip;have e0:=Option.some.inj hm;subst e0;exact AO hd
  obtain⟨x3,q3,hm⟩:=Aa hm;refine gc (fun _=>Gp q3) ?_;refine gi hm (fun hc2 hm=> ?_) fun hc2 hm=> ?_
  ·skip;have e0:=Option.some.inj hm;subst e0;exact AO hd
  obtain⟨x4,q4,hm⟩:=Aa hm;refine gcut (k:=13) (E:=Ae) (fun _=>rfl) (fun _=>q4) ?_;obtain⟨x5,q5,hm⟩:=Aa hm;refine gco (CF q5) ?_;refine ES (k:=13) Ae ([a1]:List g_api_Cert) (fun _=>rfl) ?_;obtain⟨x6,q6,hm⟩:=Aa hm;refine RK (k:=13) (E:=Ae) (fun _=>rfl) q6 ?_;obtain⟨x7,q7,hm⟩:=Aa hm;refine Mq 0 (E:=Ae) (xs:=x6) 32 fun hle1=> ?_;refine gjU 0 (fun(y1:Unit)=>⟨[(3,.pb 1 0),(2,.pb 0 0)],[(0,.box 1 [.d (.i a1.Serial),.d (.s a1.Issuer),.d (.s a1.Subject),.d (.u a1.Key),sl eS a1.Names,.d (.i a1.From),.d (.i a1.Until),.d (.t a1.Ca),.d (.i a1.Depth),sl eS a1.Permit,sl Ak a1.Proms,.d (.u a1.Sig.E),.d (.u a1.Sig.S)] 28),(1,.box 0 [sl Ae a0.roots_,sl Ae a0.chain_,.d (.s a0.name_),.d (.i a0.now_)] 57)],[],2⟩) (fun y1=>x7= .inl y1) (fun Jp bk1=> ?_) fun y1 hy=> ?_
  ·refine gl hd (fun(p:Int×(Unit))=>let (p0,_):=p; ⟨[(2,.pb 0 0),(32,.ow 2),(33,.d (.i (x6.length:Int))),(34,.d (.i p0)),(3,.pb 1 0)],[(0,.row 2 13 _ Ae x6),(1,.box 1 [.d (.i a1.Serial),.d (.s a1.Issuer),.d (.s a1.Subject),.d (.u a1.Key),sl eS a1.Names,.d (.i a1.From),.d (.i a1.Until),.d (.t a1.Ca),.d (.i a1.Depth),sl eS a1.Permit,sl Ak a1.Proms,.d (.u a1.Sig.E),.d (.u a1.Sig.S)] 28),(2,.box 0 [sl Ae a0.roots_,sl Ae a0.chain_,.d (.s a0.name_),.d (.i a0.now_)] 57)],[],3⟩) (fun p=> ∃i:Nat,p.1=(i:Int)∧i≤x6.length∧C3 (Cg a0 x6) (x6.length-i) (i:Int) p.2=some x7) (fun p=>x6.length-p.1.toNat) (0,()) ⟨0,rfl,Nat.zero_le _,q7⟩ ?_;rintro⟨_,s1⟩ ⟨i1,rfl,hi,q8⟩ Jl bl1;refine gi' (b:=decide ((i1:Int)<(x6.length:Int))) (fun hc6=> ?_) fun hc6=> ?_
   ·have hlt1:i1<x6.length:=by have:=of_decide_eq_true hc6; omega
    obtain⟨y2,q10,q9⟩:=FN q8 hlt1;unfold Cg at q10;obtain⟨x9,q12,q10⟩:=Aa q10;refine VO (E:=Ae) (fun _=>q12) ?_;refine gldO (k:=13) (fo:=0) (nn:=13) (ag:=true) (E:=Ae) (fun _=>rfl) (fun _=>q12) ?_;have q10:=Ba q10;let x10:Bool:=((decide (x9.Depth<(i1:Int))));refine gi q10 (fun hc3 q10=> ?_) fun hc3 q10=> ?_
    ·skip;cases q10;rcases q9 with ⟨sn,e,_⟩|⟨tn,e,e2⟩
     ·cases e
     cases e;cases e2;dsimp only at hm;have e0:=Option.some.inj hm;subst e0;exact AO hd
    refine gspl 50 q10 (fun hc4 q10=> ?_) fun hc4 q10=> ?_
    ·obtain⟨x11,q14,q10⟩:=Aa q10;refine Hs (k:=13) (E:=Ae) (fun _=>rfl) (fun _=>q14) ?_;obtain⟨x12,q15,q10⟩:=Aa q10;refine gco (Ds q15) ?_;refine gi q10 (fun hc5 q10=> ?_) fun hc5 q10=> ?_
     ·skip;cases q10;rcases q9 with ⟨sn,e,_⟩|⟨tn,e,e2⟩
      ·cases e
      cases e;cases e2;dsimp only at hm;have e0:=Option.some.inj hm;subst e0;exact AO hd
     have e0:=Option.some.inj q10;subst e0;rcases q9 with ⟨sn,e,q9'⟩|⟨tn,e,_⟩
     ·have e:=Sum.inl.inj e;subst e;exact gb bl1 hd (w64 ((i1:Int)+1),_) ⟨⟨i1+1,Bc hlt1 hle1,by omega,q9'⟩,Gl hlt1 hle1⟩
     cases B4 e
    refine gi' (b:=false) (fun h=>by cases h) (fun _=> ?_);have e0:=Option.some.inj q10;subst e0;rcases q9 with ⟨sn,e,q9'⟩|⟨tn,e,_⟩
    ·have e:=Sum.inl.inj e;subst e;exact gb bl1 hd (w64 ((i1:Int)+1),_) ⟨⟨i1+1,Bc hlt1 hle1,by omega,q9'⟩,Gl hlt1 hle1⟩
    cases B4 e
   have hlt1: ¬i1<x6.length:=by have:=of_decide_eq_false hc6; omega
   have e:=ET q8 hlt1;cases e;exact gb bk1 hd _ rfl
  subst hy;dsimp only at hm;have e0:=Option.some.inj hm;subst e0;exact AO hd
def AZ (a0:g_path_trip)(s1:Int×Int):Option ((Int×Int)⊕((Int)⊕Int)):=if(decide (s1.2≥0))=true then Ad (idx a0.roots_ s1.2) fun x4=>Ad (Df a0 x4) fun x5=>if(x5==0)=true then some (.inr (.inr 0))else some (.inl (x5,(w64 (s1.2-1))))else some (.inr (.inl s1.1))
def Ch (a0:g_path_trip):Option Int:=bnd ((w64 ((a0.roots_.length:Int)-1))) fun x1=>Ad (iter (AZ a0) E4 (191,x1)) fun x2=>match x2 with| .inr r=>some r| .inl y1=>some y1
theorem Im {a0:g_path_trip}{r:Int}(hm:Ch a0=some r):Sf prog 38 [ag (C4 a0)] (.d (.i r)):=
 sp call38 func38 rfl ntmps38 rfl fun D0 As η0 m0 hd=>by
  unfold Ch at hm;have hm:=Ba hm;let x1:Int:=((w64 ((a0.roots_.length:Int)-1)));obtain⟨x2,q2,hm⟩:=Aa hm;refine gjU 0 (fun(y1:Int)=>⟨[(3,.d (.i y1)),(1,.pb 0 0)],[(0,.box 0 [sl Ae a0.roots_,sl Ae a0.chain_,.d (.s a0.name_),.d (.i a0.now_)] 57)],[],1⟩) (fun y1=>x2= .inl y1) (fun Jp bk1=> ?_) fun y1 hy=> ?_
  ·refine gl hd (fun(p:Nat×(Int×Int))=>let (p0,p_0,p_1):=p; ⟨[(1,.pb 0 0),(3,.d (.i p_0)),(4,.d (.i p_1))],[(0,.box 0 [sl Ae a0.roots_,sl Ae a0.chain_,.d (.s a0.name_),.d (.i a0.now_)] 57)],[],1⟩) (fun p=>iter (AZ a0) p.1 p.2=some x2) (fun p=>p.1) (E4,(191,x1)) q2 ?_;rintro⟨n1,s1⟩ q3 Jl bl1;cases n1 with
   |zero=>exact(BK q3).elim
   |succ n1=>
    obtain⟨y2,q5,q4⟩:=BE q3;unfold AZ at q5;refine gi q5 (fun hc1 q5=> ?_) fun hc1 q5=> ?_
    ·skip;obtain⟨x4,q7,q5⟩:=Aa q5;refine Hs (k:=13) (E:=Ae) (fun _=>rfl) (fun _=>q7) ?_;obtain⟨x5,q8,q5⟩:=Aa q5;refine gc (fun _=>Lz q8) ?_;refine gi q5 (fun hc2 q5=> ?_) fun hc2 q5=> ?_
     ·skip;cases q5;rcases q4 with ⟨sn,e,_⟩|e
      ·cases e
      cases e;dsimp only at hm;have e0:=Option.some.inj hm;subst e0;exact AO hd
     have e0:=Option.some.inj q5;subst e0;rcases q4 with ⟨sn,e,q4'⟩|e
     ·have e:=Sum.inl.inj e;subst e;exact gb bl1 hd (n1,_) ⟨q4',Nat.lt_succ_self _⟩
     cases B4 e
    have e0:=Option.some.inj q5;subst e0;rcases q4 with ⟨sn,e,_⟩|e
    ·cases GN e
    have e:=Sum.inr.inj e;subst e;exact gb bk1 hd s1.1 rfl
  subst hy;dsimp only at hm;have e0:=Option.some.inj hm;subst e0;exact AO hd
def Fm (x:D9):Option Int:=if x.k=34 then Cu x.a else if x.k=35 then C7 x.a else if x.k=36 then CL x.a else if x.k=37 then CK x.a else if x.k=38 then Ch x.a else none
theorem U3 {x:D9}{r:Int}(hm:Fm x=some r):Sf prog x.k [ag (C4 x.a)] (.d (.i r)):=by
 unfold Fm at hm;split at hm
 ·rename_i h;rw[h];exact IG hm
 split at hm
 ·rename_i h;rw[h];exact JR hm
 split at hm
 ·rename_i h;rw[h];exact Jd hm
 split at hm
 ·rename_i h;rw[h];exact Jc hm
 split at hm
 ·rename_i h;rw[h];exact Im hm
 cases hm
def Cv (i1:Int)(x2:D9)(s1:Unit):Option ((Unit)⊕Int):=Ad (Fm x2) fun x3=>if(x3 !=0)=true then some (.inr x3)else some (.inl ())
def H3 (a0:List D9):Option Int:=Ad (DX Cv a0 0 ()) fun x1=>match x1 with| .inr r=>some r| .inl y1=>some 0
theorem Rh {a0:List D9}{r:Int}(hm:H3 a0=some r):Sf prog 33 [sl Li a0] (.d (.i r)):=
 sp call33 func33 rfl ntmps33 rfl fun D0 As η0 m0 hd=>by
  unfold H3 at hm;obtain⟨x1,q1,hm⟩:=Aa hm;refine Mq 0 (E:=Li) (xs:=a0) 6 fun hle1=> ?_;refine gjU 0 (fun(y1:Unit)=>⟨[],[],[],0⟩) (fun y1=>x1= .inl y1) (fun Jp bk1=> ?_) fun y1 hy=> ?_
  ·refine gl hd (fun(p:Int×(Unit))=>let (p0,_):=p; ⟨[(6,sl Li a0),(7,.d (.i (a0.length:Int))),(8,.d (.i p0))],[],[],0⟩) (fun p=> ∃i:Nat,p.1=(i:Int)∧i≤a0.length∧DX Cv (a0.drop i) (i:Int) p.2=some x1) (fun p=>a0.length-p.1.toNat) (0,()) ⟨0,rfl,Nat.zero_le _,q1⟩ ?_;rintro⟨_,s1⟩ ⟨i1,rfl,hi,q2⟩ Jl bl1;refine gi' (b:=decide ((i1:Int)<(a0.length:Int))) (fun hc2=> ?_) fun hc2=> ?_
   ·have hlt1:i1<a0.length:=by have:=of_decide_eq_true hc2; omega
    obtain⟨x2,y2,q5,q4,q3⟩:=Gy q2 hlt1;unfold Cv at q4;refine Hs (k:=1) (E:=Li) (fun _=>rfl) (fun _=>q5) ?_;obtain⟨x3,q6,q4⟩:=Aa q4;refine gdyc (fun _=>U3 q6) ?_;refine gi q4 (fun hc1 q4=> ?_) fun hc1 q4=> ?_
    ·skip;cases q4;rcases q3 with ⟨sn,e,_⟩|⟨tn,e,e2⟩
     ·cases e
     cases e;cases e2;dsimp only at hm;have e0:=Option.some.inj hm;subst e0;exact AO hd
    have e0:=Option.some.inj q4;subst e0;rcases q3 with ⟨sn,e,q3'⟩|⟨tn,e,_⟩
    ·have e:=Sum.inl.inj e;subst e;exact gb bl1 hd (w64 ((i1:Int)+1),_) ⟨⟨i1+1,Bc hlt1 hle1,by omega,q3'⟩,Gl hlt1 hle1⟩
    cases B4 e
   have hlt1: ¬i1<a0.length:=by have:=of_decide_eq_false hc2; omega
   have e:=Fu q2 hlt1;cases e;exact gb bk1 hd _ rfl
  subst hy;dsimp only at hm;have e0:=Option.some.inj hm;subst e0;exact AO hd
def Bv (a0:List g_api_Cert)(a1:List g_api_Cert)(a2:ByteArray)(a3:Int):Option Int:=Ad (H3 ([(⟨34,(⟨a0,a1,a2,a3⟩:g_path_trip)⟩:D9),(⟨35,(⟨a0,a1,a2,a3⟩:g_path_trip)⟩:D9),(⟨36,(⟨a0,a1,a2,a3⟩:g_path_trip)⟩:D9),(⟨37,(⟨a0,a1,a2,a3⟩:g_path_trip)⟩:D9),(⟨38,(⟨a0,a1,a2,a3⟩:g_path_trip)⟩:D9)]:List D9)) fun x1=>some x1
theorem B8 {a0:List g_api_Cert}{a1:List g_api_Cert}{a2:ByteArray}{a3:Int}{r:Int}(hm:Bv a0 a1 a2 a3=some r):Sf prog 15 [sl Ae a0,sl Ae a1,.d (.s a2),.d (.i a3)] (.d (.i r)):=
 sp call15 func15 rfl ntmps15 rfl fun D0 As η0 m0 hd=>by
  unfold Bv at hm;refine ES (k:=1) Li ([(⟨34,(⟨a0,a1,a2,a3⟩:g_path_trip)⟩:D9),(⟨35,(⟨a0,a1,a2,a3⟩:g_path_trip)⟩:D9),(⟨36,(⟨a0,a1,a2,a3⟩:g_path_trip)⟩:D9),(⟨37,(⟨a0,a1,a2,a3⟩:g_path_trip)⟩:D9),(⟨38,(⟨a0,a1,a2,a3⟩:g_path_trip)⟩:D9)]:List D9) (fun _=>rfl) ?_;obtain⟨x1,q1,hm⟩:=Aa hm;refine gc (fun _=>Rh q1) ?_;have e0:=Option.some.inj hm;subst e0;exact AO hd
def H2 (a0:UInt64):Option Bool:=bnd ((((a0.toNat:Int)==0)||(decide ((a0.toNat:Int)≥1152921504606845789)))) fun x1=>some x1
theorem Rg {a0:UInt64}{r:Bool}(hm:H2 a0=some r):Sf prog 142 [.d (.u a0)] (.d (.t r)):=
 sp call142 func142 rfl ntmps142 rfl fun D0 As η0 m0 hd=>by
  unfold H2 at hm;have hm:=Ba hm;let x1:Bool:=((((a0.toNat:Int)==0)||(decide ((a0.toNat:Int)≥1152921504606845789))));have e0:=Option.some.inj hm;subst e0;exact AO hd
def DP (a0:UInt64):Option (UInt64×Int):=Ad (H2 a0) fun x1=>if x1=true then some (0,1)else Ad (B7 a0) fun x2=>some (x2,0)
theorem IE {a0:UInt64}{r:UInt64×Int}(hm:DP a0=some r):Sf prog 85 [.d (.u a0)] (.tup [.d (.u r.1),.d (.i r.2)]):=
 sp call85 func85 rfl ntmps85 rfl fun D0 As η0 m0 hd=>by
  unfold DP at hm;obtain⟨x1,q1,hm⟩:=Aa hm;refine gc (fun _=>Rg q1) ?_;refine gi hm (fun hc1 hm=> ?_) fun hc1 hm=> ?_
  ·skip;have e0:=Option.some.inj hm;subst e0;exact AO hd
  obtain⟨x2,q2,hm⟩:=Aa hm;refine gc (fun _=>G7 q2) ?_;have e0:=Option.some.inj hm;subst e0;exact AO hd
def Ff (a0:ByteArray)(a1:List (List UInt8)):Option UInt64:=Ad (DS a0 a1) fun x1=>Ad (FV x1 1152921504606845788) fun x2=>some (x2+1)
theorem Km {a0:ByteArray}{a1:List (List UInt8)}{r:UInt64}(hm:Ff a0 a1=some r):Sf prog 143 [.d (.s a0),sl (eL eB) a1] (.d (.u r)):=
 sp call143 func143 rfl ntmps143 rfl fun D0 As η0 m0 hd=>by
  unfold Ff at hm;obtain⟨x1,q1,hm⟩:=Aa hm;refine gc (fun _=>IH q1) ?_;obtain⟨x2,q2,hm⟩:=Aa hm;refine gc (fun _=>LR q2) ?_;have e0:=Option.some.inj hm;subst e0;exact AO hd
def DO (a0:List UInt8):Option UInt64:=Ad (Ff (⟨#[115,101,99,114,101,116]⟩:ByteArray) ([a0]:List (List UInt8))) fun x1=>some x1
theorem ID {a0:List UInt8}{r:UInt64}(hm:DO a0=some r):Sf prog 86 [sl eB a0] (.d (.u r)):=
 sp call86 func86 rfl ntmps86 rfl fun D0 As η0 m0 hd=>by
  unfold DO at hm;refine ES (k:=1) (eL eB) ([a0]:List (List UInt8)) (fun _=>rfl) ?_;obtain⟨x1,q1,hm⟩:=Aa hm;refine gc (fun _=>Km q1) ?_;have e0:=Option.some.inj hm;subst e0;exact AO hd
def Eg (a0:ByteArray):Option UInt64:=Ad (app 1 ([]:List UInt8) a0.data.toList) fun x1=>Ad (DO x1) fun x2=>Ad (DP x2) fun x3=>some x3.1
theorem Io {a0:ByteArray}{r:UInt64}(hm:Eg a0=some r):Sf prog 47 [.d (.s a0)] (.d (.u r)):=
 sp call47 func47 rfl ntmps47 rfl fun D0 As η0 m0 hd=>by
  unfold Eg at hm;obtain⟨x1,q1,hm⟩:=Aa hm;refine gofS q1 ?_;obtain⟨x2,q2,hm⟩:=Aa hm;refine gco (ID q2) ?_;obtain⟨x3,q3,hm⟩:=Aa hm;refine gc (fun _=>IE q3) ?_;have e0:=Option.some.inj hm;subst e0;exact AO hd
def Eo (a0:ByteArray)(a1:Int)(a2:Int)(a3:Int):Option g_api_Cert:=Ad (RX (⟨#[114]⟩:ByteArray) a0) fun x1=>Ad (Eg x1) fun x2=>some (⟨1,(⟨#[114]⟩:ByteArray),(⟨#[114]⟩:ByteArray),x2,[],a2,a3,true,a1,[],[],(⟨0,0⟩:g_api_Sig)⟩:g_api_Cert)
theorem Jz {a0:ByteArray}{a1:Int}{a2:Int}{a3:Int}{r:g_api_Cert}(hm:Eo a0 a1 a2 a3=some r):Sf prog 20 [.d (.s a0),.d (.i a1),.d (.i a2),.d (.i a3)] (ag (Ae r)):=
 sp call20 func20 rfl ntmps20 rfl fun D0 As η0 m0 hd=>by
  unfold Eo at hm;obtain⟨x1,q1,hm⟩:=Aa hm;refine gcat (fun _=>q1) ?_;obtain⟨x2,q2,hm⟩:=Aa hm;refine gc (fun _=>Io q2) ?_;have e0:=Option.some.inj hm;subst e0;exact AO hd
def CM (a0:UInt64)(a1:UInt64)(a2:UInt64):Option UInt64:=if a0≠0 then if a0≠0 then Ad (DI (Gf (a1%a0) (a2%a0)) ((a1%a0)+(a2%a0)) a0) fun x1=>some x1 else none else none
theorem Jg {a0:UInt64}{a1:UInt64}{a2:UInt64}{r:UInt64}(hm:CM a0 a1 a2=some r):Sf prog 191 [.d (.u a0),.d (.u a1),.d (.u a2)] (.d (.u r)):=
 sp call191 func191 rfl ntmps191 rfl fun D0 As η0 m0 hd=>by
  unfold CM at hm;obtain⟨q1,hm⟩:=B2 hm;refine UZ (d:= .u a0) (r:= .u (a1%a0)) (fun h=>q1) ?_;obtain⟨q2,hm⟩:=B2 hm;refine UZ (d:= .u a0) (r:= .u (a2%a0)) (fun h=>q2) ?_;refine WR (p:=(a1%a0)) (q:=(a2%a0)) func162 ?_;obtain⟨x1,q3,hm⟩:=Aa hm;refine gc (fun _=>JC q3) ?_;have e0:=Option.some.inj hm;subst e0;exact AO hd
def FJ (a0:UInt64)(a1:UInt64):Option UInt64:=Ad (CM 1152921504606845789 a0 a1) fun x1=>some x1
theorem MW {a0:UInt64}{a1:UInt64}{r:UInt64}(hm:FJ a0 a1=some r):Sf prog 144 [.d (.u a0),.d (.u a1)] (.d (.u r)):=
 sp call144 func144 rfl ntmps144 rfl fun D0 As η0 m0 hd=>by
  unfold FJ at hm;obtain⟨x1,q1,hm⟩:=Aa hm;refine gc (fun _=>Jg q1) ?_;have e0:=Option.some.inj hm;subst e0;exact AO hd
def FI (a0:UInt64)(a1:UInt64):Option UInt64:=Ad (A5 1152921504606845789 a0 a1) fun x1=>some x1
theorem MV {a0:UInt64}{a1:UInt64}{r:UInt64}(hm:FI a0 a1=some r):Sf prog 145 [.d (.u a0),.d (.u a1)] (.d (.u r)):=
 sp call145 func145 rfl ntmps145 rfl fun D0 As η0 m0 hd=>by
  unfold FI at hm;obtain⟨x1,q1,hm⟩:=Aa hm;refine gc (fun _=>GU q1) ?_;have e0:=Option.some.inj hm;subst e0;exact AO hd
def F7 (a0:UInt64)(a1:List UInt8):Option (g_api_Sig×Int):=Ad (DP a0) fun x1=>if(x1.2 !=0)=true then some ((⟨0,0⟩:g_api_Sig),x1.2)else Ad (CP a0) fun x2=>Ad (Ff (⟨#[110,111,110,99,101]⟩:ByteArray) ([x2,a1]:List (List UInt8))) fun x3=>Ad (B7 x3) fun x4=>Ad (BF x4 x1.1 a1) fun x5=>Ad (FI x5 a0) fun x6=>Ad (FJ x6 x3) fun x7=>some ((⟨x5,x7⟩:g_api_Sig),0)
theorem Pg {a0:UInt64}{a1:List UInt8}{r:g_api_Sig×Int}(hm:F7 a0 a1=some r):Sf prog 87 [.d (.u a0),sl eB a1] (.tup [ag (HS r.1),.d (.i r.2)]):=
 sp call87 func87 rfl ntmps87 rfl fun D0 As η0 m0 hd=>by
  unfold F7 at hm;obtain⟨x1,q1,hm⟩:=Aa hm;refine gc (fun _=>IE q1) ?_;refine gi hm (fun hc1 hm=> ?_) fun hc1 hm=> ?_
  ·skip;have e0:=Option.some.inj hm;subst e0;exact AO hd
  obtain⟨x2,q2,hm⟩:=Aa hm;refine gco (HD q2) ?_;refine Ys (k:=1) (eL eB) ([x2,a1]:List (List UInt8)) (fun _=>rfl) ?_;obtain⟨x3,q3,hm⟩:=Aa hm;refine gc (fun _=>Km q3) ?_;obtain⟨x4,q4,hm⟩:=Aa hm;refine gc (fun _=>G7 q4) ?_;obtain⟨x5,q5,hm⟩:=Aa hm;refine gc (fun _=>Hk q5) ?_;obtain⟨x6,q6,hm⟩:=Aa hm;refine gc (fun _=>MV q6) ?_;obtain⟨x7,q7,hm⟩:=Aa hm;refine gc (fun _=>MW q7) ?_;have e0:=Option.some.inj hm;subst e0;exact AO hd
def Dh (a0:g_api_Cert)(a1:ByteArray):Option g_api_Cert:=Ad (DH a0) fun x1=>Ad (app 1 ([]:List UInt8) a1.data.toList) fun x2=>Ad (DO x2) fun x3=>Ad (F7 x3 x1.1) fun x4=>some (⟨a0.Serial,a0.Issuer,a0.Subject,a0.Key,a0.Names,a0.From,a0.Until,a0.Ca,a0.Depth,a0.Permit,a0.Proms,x4.1⟩:g_api_Cert)
theorem Ij {a0:g_api_Cert}{a1:ByteArray}{r:g_api_Cert}(hm:Dh a0 a1=some r):Sf prog 48 [ag (Ae a0),.d (.s a1)] (ag (Ae r)):=
 sp call48 func48 rfl ntmps48 rfl fun D0 As η0 m0 hd=>by
  unfold Dh at hm;obtain⟨x1,q1,hm⟩:=Aa hm;refine gco (KB q1) ?_;obtain⟨x2,q2,hm⟩:=Aa hm;refine gofS q2 ?_;obtain⟨x3,q3,hm⟩:=Aa hm;refine gco (ID q3) ?_;obtain⟨x4,q4,hm⟩:=Aa hm;refine gco (Pg q4) ?_;have e0:=Option.some.inj hm;subst e0;exact AO hd
def CB (a0:ByteArray)(a1:List ByteArray)(a2:Int)(a3:Int):Option g_api_Cert:=Ad (RX (⟨#[109]⟩:ByteArray) a0) fun x1=>Ad (Eg x1) fun x2=>Ad (RX (⟨#[114]⟩:ByteArray) a0) fun x3=>Ad (Dh (⟨2,(⟨#[114]⟩:ByteArray),(⟨#[109]⟩:ByteArray),x2,[],a2,a3,true,0,a1,[],(⟨0,0⟩:g_api_Sig)⟩:g_api_Cert) x3) fun x4=>some x4
theorem GA {a0:ByteArray}{a1:List ByteArray}{a2:Int}{a3:Int}{r:g_api_Cert}(hm:CB a0 a1 a2 a3=some r):Sf prog 21 [.d (.s a0),sl eS a1,.d (.i a2),.d (.i a3)] (ag (Ae r)):=
 sp call21 func21 rfl ntmps21 rfl fun D0 As η0 m0 hd=>by
  unfold CB at hm;obtain⟨x1,q1,hm⟩:=Aa hm;refine gcat (fun _=>q1) ?_;obtain⟨x2,q2,hm⟩:=Aa hm;refine gc (fun _=>Io q2) ?_;obtain⟨x3,q3,hm⟩:=Aa hm;refine gcat (fun _=>q3) ?_;obtain⟨x4,q4,hm⟩:=Aa hm;refine gc (fun _=>Ij q4) ?_;have e0:=Option.some.inj hm;subst e0;exact AO hd
def Ep (a0:ByteArray)(a1:ByteArray)(a2:Int)(a3:Int):Option g_api_Cert:=Ad (RX (⟨#[108]⟩:ByteArray) a0) fun x1=>Ad (Eg x1) fun x2=>Ad (RX (⟨#[109]⟩:ByteArray) a0) fun x3=>Ad (Dh (⟨3,(⟨#[109]⟩:ByteArray),ByteArray.empty,x2,([a1]:List ByteArray),a2,a3,false,0,[],[],(⟨0,0⟩:g_api_Sig)⟩:g_api_Cert) x3) fun x4=>some x4
theorem JA {a0:ByteArray}{a1:ByteArray}{a2:Int}{a3:Int}{r:g_api_Cert}(hm:Ep a0 a1 a2 a3=some r):Sf prog 22 [.d (.s a0),.d (.s a1),.d (.i a2),.d (.i a3)] (ag (Ae r)):=
 sp call22 func22 rfl ntmps22 rfl fun D0 As η0 m0 hd=>by
  unfold Ep at hm;obtain⟨x1,q1,hm⟩:=Aa hm;refine gcat (fun _=>q1) ?_;obtain⟨x2,q2,hm⟩:=Aa hm;refine gc (fun _=>Io q2) ?_;refine ES (k:=1) eS ([a1]:List ByteArray) (fun _=>rfl) ?_;obtain⟨x3,q3,hm⟩:=Aa hm;refine gcat (fun _=>q3) ?_;obtain⟨x4,q4,hm⟩:=Aa hm;refine gc (fun _=>Ij q4) ?_;have e0:=Option.some.inj hm;subst e0;exact AO hd
abbrev OC:=Option g_api_Cert
def oD:OC→List D
 |some c=>Ae c
 |none=> []
def eOC (o:OC):List D:=[.op o.isSome (oD o)]
instance:GoT OC:=Kg eOC 1
theorem b_OC:Br OC eOC:=⟨fun h=>h.1,fun h=>⟨h,rfl⟩,fun _=>rfl⟩
def Dm (a0:List OC):Option (List OC):=Ad (app 8 ([]:List OC) a0) fun x1=>some x1
theorem IC {m:Mem}{As:List Ow}{w:World}{a0:List OC}{a0v0:Value}{r:List OC}(S:St m (As) w)(a0h0:SlR m a0v0 a0)(hm:Dm a0=some r):
  Az Tryz.prog 89 #[a0v0] w fun v w'=> ∃(M:Mem),m≤M∧∃(rv0:Value) (rc0:List Value),St M ((row 1 rv0 rc0 r.length)::As) w'∧v=rv0∧Bq M rc0 r:=by
 unfold Dm at hm;have L0:=Mem.rfl' m;refine Co (args:=[a0v0]) Tryz.func89 rfl Tryz.ntmps89 (Nat.le_of_ble_eq_true rfl) ?_;refine Af ?_;refine Ac ?_;refine Bb (v:= .slice none 0 0) rfl ?_;refine Ag ?_;refine nrm ?_;refine Af ?_;refine Af ?_;refine Ac ?_;refine Ap (v:=a0v0) rfl ?_;refine J5 rfl rfl a0h0 Tryz.underlying69 ?_;refine Ag ?_;refine nrm ?_;refine B3 (t:=(I2 a0v0)) rfl (fun hc1=> ?_) (fun hc1=> ?_)
 ·have he1:a0=[]:=SlR.nilOf a0h0 hc1;rw[he1]at hm;replace hm:(some ([]:List OC))=some _:=hm;refine Af ?_;refine Ac ?_;refine Bb (v:= .slice none 0 0) rfl ?_;refine Ag ?_;refine nrm ?_;refine Bl ?_;refine thR ?_;refine Dx ?_;intro we hpd;replace S:=St.pd S hpd;have S1:=St.rowNil S 1;have h1:Bq m [] ([]:List OC):=Bq.nil;replace S1:St _ ((row 1 (.slice none 0 0) [] ([]:List OC).length)::As) _:=S1;clear S;have e0:=Option.some.inj hm;subst e0;exact G4 [_] rfl ⟨rfl,trivial⟩ ⟨_,L0,_,_,S1,rfl,h1⟩
 refine A7 ?_;refine nrm ?_;refine Af ?_;refine Ac ?_;refine HE (parts:=[]) (vs:=[]) (cls:=[]) (n:=0) (sz:=1) S Tryz.underlying69 Tryz.sizeOf70 Tryz.zeroValue70 rfl trivial rfl rfl (by decide) (by decide) ?_;intro v1 w1 S2;have h2:Bq m [] ([]:List OC):=Bq.nil;replace S2:St _ ((row 1 v1 [] ([]:List OC).length)::As) _:=S2;clear S;refine Ap (v:=a0v0) rfl ?_;obtain⟨x1,q1,hm⟩:=Aa hm;refine Pv (i:=0) (zs:=x1) (bytes:=8) (ti:=Tryz.t70) S2 rfl rfl h2 rfl rfl a0h0 q1 Tryz.underlying69 Tryz.type70 rfl rfl rfl rfl ?_;intro v2 c1 w2 S3 h3;replace S3:St _ ((row 1 v2 c1 x1.length)::As) _:=S3;clear S2;refine Bb (v:=v2) rfl ?_;refine Ag ?_;refine nrm ?_;refine Bl ?_;refine Dx ?_;intro we hpd;replace S3:=St.pd S3 hpd;have e0:=Option.some.inj hm;subst e0;exact G4 [_] rfl ⟨rfl,trivial⟩ ⟨_,L0,_,_,S3,rfl,h3⟩
theorem IM {a0:List OC}{r:List OC}(hm:Dm a0=some r):Sp prog 89 [sl eOC a0] [] 0 (is (.ow 0) [.row 0 1 _ eOC r] 1):=
 ⟨call89,fun η m As w vs hv0 hd S=>by
  have S:St m As w:=S;obtain⟨v0,u0,rfl,r0,hv1⟩:=Bj.cons_inv hv0;have f0:=Br.ofS b_OC r0.dd;obtain rfl:=Bj.nil_inv hv1;refine Az.mono (IC S f0 hm) ?_;rintro v w' ⟨M,hle,y0,c0,S0,rfl,h0⟩;exact⟨M,(YE [v]),_,_,_,hle,RM hd _,⟨rfl,rfl,rfl⟩,H8 rfl,(.ow rfl (D4 S0)),(St.impL S0 (sepC (Br.toR b_OC rfl rfl (D4 S0) h0) fun _ h=>h))⟩⟩
theorem w_clip {xs:List g_api_Cert}:Sf prog 90 [sl Ae xs] (.d (.kp _ Ae xs)):=
 sp call90 func90 rfl ntmps90 rfl fun D0 As η0 m0 hd=>by
  refine gclip (k:=13) (E:=Ae) (xs:=xs) (fun _=>rfl) ?_;exact AO hd
theorem Wa {pool:List OC}{chain:List g_api_Cert}:Sf prog 49 [sl eOC pool,sl Ae chain] (.fn (.func 88) [] [.d (.pf [.sl _ Ae chain]),.d (.pf [.sl _ eOC pool])]):=
 sp call49 func49 rfl ntmps49 rfl fun D0 As η0 m0 hd=>by
  refine PZ 2 [.sl _ eOC pool] ?_;refine PZ 3 [.sl _ Ae chain] ?_;exact AO hd
def wp {σ:Type}(y:σ→List g_api_Cert→Option (Bool×σ))(s:σ)(x:List g_api_Cert):Option (σ⊕σ):=Ad (y s x) fun r=>if(!r.1)=true then some (.inr r.2)else some (.inl r.2)
def GY {σ:Type}(rec:((σ⊕σ)→List g_api_Cert→Option (Bool×(σ⊕σ)))→List OC→List g_api_Cert→(σ⊕σ)→Option (σ⊕σ))(y:σ→List g_api_Cert→Option (Bool×σ))(pool:List OC)(chain:List g_api_Cert)(i:Int)(c:OC)(s:σ):Option (σ⊕σ):=match c with|none=>some (.inl s)|some d=>Ad (idx chain (w64 ((chain.length:Int)-1))) fun last=>Ad (CA last d) fun k=>if(k !=0)=true then some (.inl s)else Ad (Dm pool) fun rest=>Ad (idx rest i) fun _=>Ad (app 168 chain [d]) fun ch=>rec (Rt (wp y)) (rest.set i.toNat none) ch (.inl s)
def HI:Nat→(σ:Type)→(σ→List g_api_Cert→Option (Bool×σ))→List OC→List g_api_Cert→σ→Option σ
 |0,_,_,_,_,_=>none
 |n+1,σ,y,pool,chain,s=>
  Ad (y s chain) fun r=>
  if((!r.1)||((chain.length:Int)==4))=true then some r.2 else
  Ad (DX (GY (HI n (σ⊕σ)) y pool chain) pool 0 r.2) fun x=>match x with
  | .inr r=>some r
  | .inl r=>some r
theorem Vr {σ τ α:Type}{F:Int→α→σ→Option (σ⊕τ)}{xs:List α}{i:Nat}{s s0:σ}{x1:σ⊕τ}(hlt:i<xs.length)(hn:xs.length≤9223372036854775807)(q:DX F (xs.drop (i+1)) ((i:Int)+1) s=some x1):
  (fun p:Int×σ=>(∃j:Nat,p.1=(j:Int)∧j≤xs.length∧DX F (xs.drop j) (j:Int) p.2=some x1)∧xs.length-p.1.toNat<xs.length-((i:Int),s0).1.toNat) (w64 ((i:Int)+1),s):=
 ⟨⟨i+1,Bc hlt hn,hlt,q⟩,Gl hlt hn⟩
theorem R5: ∀(n:Nat) {σ:Type} {y:σ→List g_api_Cert→Option (Bool×σ)} {pool:List OC} {chain:List g_api_Cert} {s r:σ},HI n σ y pool chain s=some r→
  ∀(g:Value) (R:σ→Mem→Ow),CbOk prog g (fun x=> [sl Ae x]) R y→
  Sp prog 88 [.ow 0,.d (.pf [.sl _ Ae chain]),.d (.pf [.sl _ eOC pool])] [.hp 0 (.cb g σ R s)] 1 (is (.tup []) [.hp 0 (.cb g σ R r)] 1)
 |0,_,_,_,_,_,_,hm=>by cases hm
 |n+1,σ,y,pool,chain,s,r,hm=>fun g R hcb=>spR call88 func88 rfl ntmps88 rfl fun D0 As η0 m0 hD hd=>by
  unfold HI at hm;obtain⟨r1,q1,hm⟩:=Aa hm;refine gcb chain hcb q1 ?_;refine gi hm (fun hc1 hm=> ?_) fun hc1 hm=> ?_
  ·have e0:=Option.some.inj hm;subst e0;exact AO hd
  obtain⟨x1,q2,hm⟩:=Aa hm;refine Mq 0 (E:=eOC) (xs:=pool) 17 fun hle1=> ?_;refine gjU 0 (fun(y1:σ)=>⟨[(0,.ow 0)],[(0,.hp 0 (.cb g σ R y1))],[],1⟩) (fun y1=>x1= .inl y1) (fun Jp bk1=> ?_) fun y1 hy=> ?_
  ·refine gl hd (fun(p:Int×σ)=>⟨[(0,.ow 0),(1,.d (.pf [.sl _ Ae chain])),(2,.d (.pf [.sl _ eOC pool])),(3,.pb 1 0),(17,sl eOC pool),(18,.d (.i (pool.length:Int))),(19,.d (.i p.1))],[(0,.hp 0 (.cb g σ R p.2)),(1,.box 1 [.ow 0] 104)],[],2⟩)
    (fun p=> ∃i:Nat,p.1=(i:Int)∧i≤pool.length∧DX (GY (HI n (σ⊕σ)) y pool chain) (pool.drop i) (i:Int) p.2=some x1) (fun p=>pool.length-p.1.toNat) ((0:Int),r1.2) ⟨0,rfl,Nat.zero_le _,q2⟩ ?_
   rintro⟨_,s1⟩ ⟨i1,rfl,hi,q3⟩ Jl bl1;refine gi' (b:=decide ((i1:Int)<(pool.length:Int))) (fun hc2=> ?_) fun hc2=> ?_
   ·have hlt1:i1<pool.length:=by have:=of_decide_eq_true hc2; omega
    obtain⟨x2,y2,q5,q4,q6⟩:=Gy q3 hlt1;unfold GY at q4;refine Hs (k:=1) (E:=eOC) (fun _=>rfl) (fun _=>q5) ?_;cases x2 with
    |none=>
     have e0:=Option.some.inj q4;refine geqN (p:=false) (ds:=[]) ?_;refine T9 (c:=false) (k:=13) (E:=Ae) (xs:=chain) (j:=w64 ((chain.length:Int)-1)) (x:=default) (fun _=>rfl) (fun h=>by cases h) ?_;refine gnckG (c:=false) (p:=false) (ds:=[]) (ds':=Ae default) (fun h=>by cases h) ?_;refine gcG (c:=false) (k:=13) (ea:=[ag (Ae default),ag (Ae default)]) (r:= .d (.i 0)) (fun h=>by cases h) ?_;refine gi' (b:=true) (fun _=> ?_) (fun h=>by cases h);subst e0;rcases q6 with ⟨sn,e,q6'⟩|⟨tn,e,_⟩
     ·have e:=Sum.inl.inj e;subst e;exact gb bl1 hd (w64 ((i1:Int)+1),s1) (Vr (F:=GY (HI n (σ⊕σ)) y pool chain) hlt1 hle1 q6')
     cases B4 e
    |some d=>
     obtain⟨last,q7,q4⟩:=Aa q4;obtain⟨k,q8,q4⟩:=Aa q4;refine geqN (p:=true) (ds:=Ae d) ?_;refine T9 (c:=true) (k:=13) (E:=Ae) (x:=last) (fun _=>rfl) (fun _=>q7) ?_;refine gnckG (c:=true) (p:=true) (ds:=Ae d) (ds':=Ae d) (fun _=>⟨rfl,rfl⟩) ?_;refine gcG (c:=true) (fun _=>E9 q8) ?_;refine gi q4 (fun hc3 q4=> ?_) fun hc3 q4=> ?_
     ·have e0:=Option.some.inj q4;subst e0;rcases q6 with ⟨sn,e,q6'⟩|⟨tn,e,_⟩
      ·have e:=Sum.inl.inj e;subst e;exact gb bl1 hd (w64 ((i1:Int)+1),s1) (Vr (F:=GY (HI n (σ⊕σ)) y pool chain) hlt1 hle1 q6')
      cases B4 e
     obtain⟨x3,q9,q4⟩:=Aa q4;refine gco (IM q9) ?_;obtain⟨z3,q10,q4⟩:=Aa q4;refine VO (E:=eOC) (fun _=>q10) ?_;refine gstOc (k:=1) (E:=eOC) none (fun _=>rfl) q10 ?_;obtain⟨ch,q11,q4⟩:=Aa q4;refine gc (fun _=>w_clip (xs:=chain)) ?_;refine gnck (p:=true) (ds:=Ae d) (ds':=Ae d) (fun _=>⟨rfl,rfl⟩) ?_;refine ES (k:=13) Ae ([d]:List g_api_Cert) (fun _=>rfl) ?_;refine RK (k:=13) (E:=Ae) (fun _=>rfl) q11 ?_;refine gco (Wa (pool:=x3.set ((i1:Int)).toNat none) (chain:=ch)) ?_;refine WO hD (n0:=1) 2 2 (gt:=52) (ps:=[53]) [(0,.ow 0),(1,.d (.pf [.sl _ Ae chain])),(2,.d (.pf [.sl _ eOC pool])),(3,.pb 1 0),(17,sl eOC pool),(18,.d (.i (pool.length:Int))),(19,.d (.i (i1:Int))),(52,.fn (.func 88) [] [.d (.pf [.sl _ Ae ch]),.d (.pf [.sl _ eOC (x3.set ((i1:Int)).toNat none)])])]
      (fun s:σ=> [(0,.hp 0 (.cb g σ R s)),(1,.box 1 [.ow 0] 104)]) (fun s:σ=> [(0,.hp 0 (.cb g σ R s)),(1,.box 1 [.ow 0] 104)]) (fun x=> [sl Ae x])
      (fun(s:σ) (x:List g_api_Cert)=>⟨[(7,sl Ae x),(0,.ow 0),(1,.d (.pf [.sl _ Ae chain])),(2,.d (.pf [.sl _ eOC pool])),(3,.pb 1 0),(17,sl eOC pool),(18,.d (.i (pool.length:Int))),(19,.d (.i (i1:Int))),(52,.fn (.func 88) [] [.d (.pf [.sl _ Ae ch]),.d (.pf [.sl _ eOC (x3.set ((i1:Int)).toNat none)])])],[(0,.hp 0 (.cb g σ R s)),(1,.box 1 [.ow 0] 104)],[],2⟩)
      (wp y) s1 hd (fun g' R' h'=>R5 n q4 g' R' h') rfl (fun _=>rfl) (fun _=>rfl) (fun _=>rfl) ?_ ?_ ?_ ?_
     ·intro x a s' hp l D1 As1 η1 m1 hd1 Ja ba;exact gb ba hd1 () trivial
     ·intro x a s' hp l D1 As1 η1 m1 hd1 Jb bb Jr br;unfold wp at hp;obtain⟨u,qy,hp⟩:=Aa hp;refine gcb a hcb qy ?_;refine gi hp (fun hc4 hp=> ?_) fun hc4 hp=> ?_
      ·exact gretB br hd1 u.2 (Option.some.inj hp).symm
      exact gb bb hd1 u.2 (Option.some.inj hp).symm
     ·intro x hx;subst hx;rcases q6 with ⟨sn,e,q6'⟩|⟨tn,e,_⟩
      ·have e:=Sum.inl.inj e;subst e;exact gb bl1 hd (w64 ((i1:Int)+1),_) (Vr (F:=GY (HI n (σ⊕σ)) y pool chain) hlt1 hle1 q6')
      cases B4 e
     intro x hx;subst hx;rcases q6 with ⟨sn,e,_⟩|⟨tn,e,e2⟩
     ·cases e
     cases e;cases e2;dsimp only at hm;have e0:=Option.some.inj hm;subst e0;exact AO hd
   have hlt1: ¬i1<pool.length:=by have:=of_decide_eq_false hc2; omega
   have e:=Fu q3 hlt1;cases e;exact gb bk1 hd _ rfl
  subst hy;dsimp only at hm;have e0:=Option.some.inj hm;subst e0;exact AO hd
def IZ (i:Int)(c:g_api_Cert)(all:List OC):Option (List OC⊕Unit):=Ad (app 8 all ([some c]:List OC)) fun a=>some (.inl a)
def K3 (roots:List g_api_Cert)(name:ByteArray)(now:Int)(out:List (List g_api_Cert))(x:List g_api_Cert):Option (List (List g_api_Cert)⊕Unit):=Ad (Bv roots x name now) fun k=>if(k==0)=true then Ad (AL x) fun y=>Ad (app 24 out ([y]:List (List g_api_Cert))) fun o=>some (.inl o)else some (.inl out)
def HL (a0 a1:List g_api_Cert)(a2:g_api_Cert)(a3:ByteArray)(a4:Int):Option (List (List g_api_Cert)):=
 if(decide ((a1.length:Int)>8))=true then some []else
 Ad (DX IZ a1 0 ([]:List OC)) fun x1=>match x1 with
 | .inr _=>none
 | .inl all=>
  Ad (HI 8 (List (List g_api_Cert)⊕Unit) (Rt (K3 a0 a3 a4)) all [a2] (.inl [])) fun r=>match r with
  | .inl out=>some out
  | .inr _=>none
theorem N9 {a0 a1:List g_api_Cert}{a2:g_api_Cert}{a3:ByteArray}{a4:Int}{r:List (List g_api_Cert)}(hm:HL a0 a1 a2 a3 a4=some r):
  Sp prog 23 [sl Ae a0,sl Ae a1,ag (Ae a2),.d (.s a3),.d (.i a4)] [] 0 (is (.ow 0) [.row 0 1 _ (eL Ae) r] 1):=
 spR call23 func23 rfl ntmps23 rfl fun D0 As η0 m0 hD hd=>by
  unfold HL at hm;refine PZ 5 [.sl _ Ae a0] ?_;refine PZ 7 (Ae a2) ?_;refine PZ 8 [.s a3] ?_;refine PZ 9 [.i a4] ?_;refine gi hm (fun hc1 hm=> ?_) fun hc1 hm=> ?_
  ·have e0:=Option.some.inj hm;subst e0;refine gnil (eL Ae) 10 1 ?_;exact AO hd
  obtain⟨x1,q2,hm⟩:=Aa hm;refine Mq 0 (E:=Ae) (xs:=a1) 18 fun hle1=> ?_;refine Yr 0 eOC 12 1 ?_;refine gnilBU 0 (eL Ae) 11 0 1 ?_;refine gjU 0 (fun(y1:List OC)=>⟨[(5,.d (.pf [.sl _ Ae a0])),(7,.d (.pf (Ae a2))),(8,.d (.pf [.s a3])),(9,.d (.pf [.i a4])),(11,.pb 0 0),(12,.ow 2)],[(0,.box 0 [.ow 1] 43),(1,.row 1 1 _ (eL Ae) []),(2,.row 2 1 _ eOC y1)],[],3⟩) (fun y1=>x1= .inl y1) (fun Jp bk1=> ?_) fun y1 hy=> ?_
  ·refine gl hd (fun(p:Int×List OC)=>⟨[(1,sl Ae a1),(5,.d (.pf [.sl _ Ae a0])),(7,.d (.pf (Ae a2))),(8,.d (.pf [.s a3])),(9,.d (.pf [.i a4])),(11,.pb 0 0),(12,.ow 2),(19,.d (.i (a1.length:Int))),(20,.d (.i p.1))],[(0,.box 0 [.ow 1] 43),(1,.row 1 1 _ (eL Ae) []),(2,.row 2 1 _ eOC p.2)],[],3⟩)
    (fun p=> ∃i:Nat,p.1=(i:Int)∧i≤a1.length∧DX IZ (a1.drop i) (i:Int) p.2=some x1) (fun p=>a1.length-p.1.toNat) ((0:Int),[]) ⟨0,rfl,Nat.zero_le _,q2⟩ ?_
   rintro⟨_,s1⟩ ⟨i1,rfl,hi,q3⟩ Jl bl1;refine gi' (b:=decide ((i1:Int)<(a1.length:Int))) (fun hc2=> ?_) fun hc2=> ?_
   ·have hlt1:i1<a1.length:=by have:=of_decide_eq_true hc2; omega
    obtain⟨x2,y2,q5,q4,q6⟩:=Gy q3 hlt1;unfold IZ at q4;refine Hs (k:=13) (E:=Ae) (fun _=>rfl) (fun _=>q5) ?_;refine glitFc (k:=1) eOC ([some x2]:List OC) (fun _=>rfl) ?_;obtain⟨x3,q7,q4⟩:=Aa q4;refine RK (k:=1) (E:=eOC) (fun _=>rfl) q7 ?_;have e0:=Option.some.inj q4;subst e0;rcases q6 with ⟨sn,e,q6'⟩|⟨tn,e,_⟩
    ·have e:=Sum.inl.inj e;subst e;exact gb bl1 hd (w64 ((i1:Int)+1),_) (Vr (F:=IZ) hlt1 hle1 q6')
    cases B4 e
   have hlt1: ¬i1<a1.length:=by have:=of_decide_eq_false hc2; omega
   have e:=Fu q3 hlt1;cases e;exact gb bk1 hd _ rfl
  subst hy;dsimp only at hm;obtain⟨x4,q8,hm⟩:=Aa hm;refine ES (k:=13) Ae ([a2]:List g_api_Cert) (fun _=>rfl) ?_;refine gco (Wa (pool:=y1) (chain:=[a2])) ?_;refine WO hD (n0:=0) 1 2 (gt:=33) (ps:=[34]) [(5,.d (.pf [.sl _ Ae a0])),(8,.d (.pf [.s a3])),(9,.d (.pf [.i a4])),(11,.pb 0 0),(33,.fn (.func 88) [] [.d (.pf [.sl _ Ae [a2]]),.d (.pf [.sl _ eOC y1])])]
   (fun o:List (List g_api_Cert)=> [(0,.box 0 [.ow 1] 43),(1,.row 1 1 _ (eL Ae) o)]) (fun _:Unit=> []) (fun x=> [sl Ae x])
   (fun(o:List (List g_api_Cert)) (x:List g_api_Cert)=>⟨[(14,sl Ae x),(5,.d (.pf [.sl _ Ae a0])),(8,.d (.pf [.s a3])),(9,.d (.pf [.i a4])),(11,.pb 0 0),(33,.fn (.func 88) [] [.d (.pf [.sl _ Ae [a2]]),.d (.pf [.sl _ eOC y1])])],[(0,.box 0 [.ow 1] 43),(1,.row 1 1 _ (eL Ae) o)],[],2⟩)
   (K3 a0 a3 a4) [] hd (fun g' R' h'=>R5 8 q8 g' R' h') rfl (fun _=>rfl) (fun _=>rfl) (fun _=>rfl) ?_ ?_ ?_ ?_
  ·intro o x s' hp l D1 As1 η1 m1 hd1 Ja ba;exact gb ba hd1 () trivial
  ·intro o x s' hp l D1 As1 η1 m1 hd1 Jb bb Jr br;unfold K3 at hp;obtain⟨k,q9,hp⟩:=Aa hp;refine gc (fun _=>B8 q9) ?_;refine gi hp (fun hc3 hp=> ?_) fun hc3 hp=> ?_
   ·obtain⟨y,q10,hp⟩:=Aa hp;obtain⟨o',q11,hp⟩:=Aa hp;refine gco (CF q10) ?_;refine Ys (k:=1) (eL Ae) ([y]:List (List g_api_Cert)) (fun _=>rfl) ?_;refine RK (k:=1) (E:=eL Ae) (fun _=>rfl) q11 ?_;exact gb bb hd1 o' (Option.some.inj hp).symm
   exact gb bb hd1 o (Option.some.inj hp).symm
  ·intro o hx;subst hx;have e0:=Option.some.inj hm;subst e0;exact AO hd
  intro y hx;subst hx;cases hm
def F9 (a0:List ByteArray)(a1:List ByteArray)(s1:Int):Option ((Int)⊕((Unit)⊕Bool)):=if(decide (s1<(a0.length:Int)))=true then Ad (idx a0 s1) fun x3=>Ad (idx a1 s1) fun x4=>if(!eqS x3 x4)=true then some (.inr (.inr false))else some (.inl (w64 (s1+1)))else some (.inr (.inl ()))
def Gq (a0:List ByteArray)(a1:List ByteArray):Option Bool:=if((a0.length:Int) !=(a1.length:Int))=true then some false else Ad (iter (F9 a0 a1) E4 0) fun x1=>match x1 with| .inr r=>some r| .inl y1=>some true
theorem Jw {a0:List ByteArray}{a1:List ByteArray}{r:Bool}(hm:Gq a0 a1=some r):Sf prog 91 [sl eS a0,sl eS a1] (.d (.t r)):=
 sp call91 func91 rfl ntmps91 rfl fun D0 As η0 m0 hd=>by
  unfold Gq at hm;refine gi hm (fun hc1 hm=> ?_) fun hc1 hm=> ?_
  ·skip;have e0:=Option.some.inj hm;subst e0;exact AO hd
  obtain⟨x1,q1,hm⟩:=Aa hm;refine gjU 0 (fun(y1:Unit)=>⟨[],[],[],0⟩) (fun y1=>x1= .inl y1) (fun Jp bk1=> ?_) fun y1 hy=> ?_
  ·refine gl hd (fun(p:Nat×(Int))=>let (p0,p_0):=p; ⟨[(0,sl eS a0),(1,sl eS a1),(5,.d (.i p_0))],[],[],0⟩) (fun p=>iter (F9 a0 a1) p.1 p.2=some x1) (fun p=>p.1) (E4,0) q1 ?_;rintro⟨n1,s1⟩ q2 Jl bl1;cases n1 with
   |zero=>exact(BK q2).elim
   |succ n1=>
    obtain⟨y2,q4,q3⟩:=BE q2;unfold F9 at q4;refine gi q4 (fun hc2 q4=> ?_) fun hc2 q4=> ?_
    ·skip;obtain⟨x3,q6,q4⟩:=Aa q4;refine Hs (k:=1) (E:=eS) (fun _=>rfl) (fun _=>q6) ?_;obtain⟨x4,q7,q4⟩:=Aa q4;refine Hs (k:=1) (E:=eS) (fun _=>rfl) (fun _=>q7) ?_;refine gi q4 (fun hc3 q4=> ?_) fun hc3 q4=> ?_
     ·skip;cases q4;rcases q3 with ⟨sn,e,_⟩|e
      ·cases e
      cases e;dsimp only at hm;have e0:=Option.some.inj hm;subst e0;exact AO hd
     have e0:=Option.some.inj q4;subst e0;rcases q3 with ⟨sn,e,q3'⟩|e
     ·have e:=Sum.inl.inj e;subst e;exact gb bl1 hd (n1,_) ⟨q3',Nat.lt_succ_self _⟩
     cases B4 e
    have e0:=Option.some.inj q4;subst e0;rcases q3 with ⟨sn,e,_⟩|e
    ·cases GN e
    have e:=Sum.inr.inj e;subst e;exact gb bk1 hd () rfl
  subst hy;dsimp only at hm;have e0:=Option.some.inj hm;subst e0;exact AO hd
def F8 (a0:g_api_Cert)(a1:g_api_Cert)(s1:Int):Option ((Int)⊕((Unit)⊕Bool)):=if(decide (s1<(a0.Proms.length:Int)))=true then Ad (idx a0.Proms s1) fun x3=>Ad (idx a1.Proms s1) fun x4=>if(!Ik x3 x4)=true then some (.inr (.inr false))else some (.inl (w64 (s1+1)))else some (.inr (.inl ()))
def HJ (a0:g_api_Cert)(a1:g_api_Cert):Option Bool:=if((((((((((a0.Serial !=a1.Serial)||(!eqS a0.Issuer a1.Issuer))||(!eqS a0.Subject a1.Subject))||((a0.Key.toNat:Int) !=(a1.Key.toNat:Int)))||(a0.From !=a1.From))||(a0.Until !=a1.Until))||(a0.Ca !=a1.Ca))||(a0.Depth !=a1.Depth))||(!H7 a0.Sig a1.Sig))||((a0.Proms.length:Int) !=(a1.Proms.length:Int)))=true then some false else Ad (iter (F8 a0 a1) E4 0) fun x1=>match x1 with| .inr r=>some r| .inl y1=>Ad (Gq a0.Names a1.Names) fun x5=>Ad (gu x5 (Gq a0.Permit a1.Permit)) fun x6=>some (x5&&x6)
theorem N8 {a0:g_api_Cert}{a1:g_api_Cert}{r:Bool}(hm:HJ a0 a1=some r):Sf prog 51 [ag (Ae a0),ag (Ae a1)] (.d (.t r)):=
 sp call51 func51 rfl ntmps51 rfl fun D0 As η0 m0 hd=>by
  unfold HJ at hm;refine gi hm (fun hc1 hm=> ?_) fun hc1 hm=> ?_
  ·skip;have e0:=Option.some.inj hm;subst e0;exact AO hd
  obtain⟨x1,q1,hm⟩:=Aa hm;refine gjU 0 (fun(y1:Unit)=>⟨[(2,.pb 0 0),(3,.pb 1 0)],[(0,.box 1 [.d (.i a1.Serial),.d (.s a1.Issuer),.d (.s a1.Subject),.d (.u a1.Key),sl eS a1.Names,.d (.i a1.From),.d (.i a1.Until),.d (.t a1.Ca),.d (.i a1.Depth),sl eS a1.Permit,sl Ak a1.Proms,.d (.u a1.Sig.E),.d (.u a1.Sig.S)] 28),(1,.box 0 [.d (.i a0.Serial),.d (.s a0.Issuer),.d (.s a0.Subject),.d (.u a0.Key),sl eS a0.Names,.d (.i a0.From),.d (.i a0.Until),.d (.t a0.Ca),.d (.i a0.Depth),sl eS a0.Permit,sl Ak a0.Proms,.d (.u a0.Sig.E),.d (.u a0.Sig.S)] 28)],[],2⟩) (fun y1=>x1= .inl y1) (fun Jp bk1=> ?_) fun y1 hy=> ?_
  ·refine gl hd (fun(p:Nat×(Int))=>let (p0,p_0):=p; ⟨[(2,.pb 0 0),(3,.pb 1 0),(5,.d (.i p_0))],[(0,.box 1 [.d (.i a1.Serial),.d (.s a1.Issuer),.d (.s a1.Subject),.d (.u a1.Key),sl eS a1.Names,.d (.i a1.From),.d (.i a1.Until),.d (.t a1.Ca),.d (.i a1.Depth),sl eS a1.Permit,sl Ak a1.Proms,.d (.u a1.Sig.E),.d (.u a1.Sig.S)] 28),(1,.box 0 [.d (.i a0.Serial),.d (.s a0.Issuer),.d (.s a0.Subject),.d (.u a0.Key),sl eS a0.Names,.d (.i a0.From),.d (.i a0.Until),.d (.t a0.Ca),.d (.i a0.Depth),sl eS a0.Permit,sl Ak a0.Proms,.d (.u a0.Sig.E),.d (.u a0.Sig.S)] 28)],[],2⟩) (fun p=>iter (F8 a0 a1) p.1 p.2=some x1) (fun p=>p.1) (E4,0) q1 ?_;rintro⟨n1,s1⟩ q2 Jl bl1;cases n1 with
   |zero=>exact(BK q2).elim
   |succ n1=>
    obtain⟨y2,q4,q3⟩:=BE q2;unfold F8 at q4;refine gi q4 (fun hc2 q4=> ?_) fun hc2 q4=> ?_
    ·skip;obtain⟨x3,q6,q4⟩:=Aa q4;refine Hs (k:=6) (E:=Ak) (fun _=>rfl) (fun _=>q6) ?_;obtain⟨x4,q7,q4⟩:=Aa q4;refine Hs (k:=6) (E:=Ak) (fun _=>rfl) (fun _=>q7) ?_;refine gi q4 (fun hc3 q4=> ?_) fun hc3 q4=> ?_
     ·skip;cases q4;rcases q3 with ⟨sn,e,_⟩|e
      ·cases e
      cases e;dsimp only at hm;have e0:=Option.some.inj hm;subst e0;exact AO hd
     have e0:=Option.some.inj q4;subst e0;rcases q3 with ⟨sn,e,q3'⟩|e
     ·have e:=Sum.inl.inj e;subst e;exact gb bl1 hd (n1,_) ⟨q3',Nat.lt_succ_self _⟩
     cases B4 e
    have e0:=Option.some.inj q4;subst e0;rcases q3 with ⟨sn,e,_⟩|e
    ·cases GN e
    have e:=Sum.inr.inj e;subst e;exact gb bk1 hd () rfl
  subst hy;dsimp only at hm;obtain⟨x5,q8,hm⟩:=Aa hm;refine gc (fun _=>Jw q8) ?_;obtain⟨x6,q9,hm⟩:=Aa hm;refine gcG (fun h=>Jw (G5 h q9)) ?_;have e0:=Option.some.inj hm;subst e0;exact AO hd
def FA (a0:List g_api_Cert)(a1:List g_api_Cert)(s1:Int):Option ((Int)⊕((Unit)⊕Bool)):=if(decide (s1<(a0.length:Int)))=true then Ad (idx a0 s1) fun x3=>Ad (idx a1 s1) fun x4=>Ad (HJ x3 x4) fun x5=>if(!x5)=true then some (.inr (.inr false))else some (.inl (w64 (s1+1)))else some (.inr (.inl ()))
def Hg (a0:List g_api_Cert)(a1:List g_api_Cert):Option Bool:=if((a0.length:Int) !=(a1.length:Int))=true then some false else Ad (iter (FA a0 a1) E4 0) fun x1=>match x1 with| .inr r=>some r| .inl y1=>some true
theorem MK {a0:List g_api_Cert}{a1:List g_api_Cert}{r:Bool}(hm:Hg a0 a1=some r):Sf prog 24 [sl Ae a0,sl Ae a1] (.d (.t r)):=
 sp call24 func24 rfl ntmps24 rfl fun D0 As η0 m0 hd=>by
  unfold Hg at hm;refine gi hm (fun hc1 hm=> ?_) fun hc1 hm=> ?_
  ·skip;have e0:=Option.some.inj hm;subst e0;exact AO hd
  obtain⟨x1,q1,hm⟩:=Aa hm;refine gjU 0 (fun(y1:Unit)=>⟨[],[],[],0⟩) (fun y1=>x1= .inl y1) (fun Jp bk1=> ?_) fun y1 hy=> ?_
  ·refine gl hd (fun(p:Nat×(Int))=>let (p0,p_0):=p; ⟨[(0,sl Ae a0),(1,sl Ae a1),(5,.d (.i p_0))],[],[],0⟩) (fun p=>iter (FA a0 a1) p.1 p.2=some x1) (fun p=>p.1) (E4,0) q1 ?_;rintro⟨n1,s1⟩ q2 Jl bl1;cases n1 with
   |zero=>exact(BK q2).elim
   |succ n1=>
    obtain⟨y2,q4,q3⟩:=BE q2;unfold FA at q4;refine gi q4 (fun hc2 q4=> ?_) fun hc2 q4=> ?_
    ·skip;obtain⟨x3,q6,q4⟩:=Aa q4;refine Hs (k:=13) (E:=Ae) (fun _=>rfl) (fun _=>q6) ?_;obtain⟨x4,q7,q4⟩:=Aa q4;refine Hs (k:=13) (E:=Ae) (fun _=>rfl) (fun _=>q7) ?_;obtain⟨x5,q8,q4⟩:=Aa q4;refine gc (fun _=>N8 q8) ?_;refine gi q4 (fun hc3 q4=> ?_) fun hc3 q4=> ?_
     ·skip;cases q4;rcases q3 with ⟨sn,e,_⟩|e
      ·cases e
      cases e;dsimp only at hm;have e0:=Option.some.inj hm;subst e0;exact AO hd
     have e0:=Option.some.inj q4;subst e0;rcases q3 with ⟨sn,e,q3'⟩|e
     ·have e:=Sum.inl.inj e;subst e;exact gb bl1 hd (n1,_) ⟨q3',Nat.lt_succ_self _⟩
     cases B4 e
    have e0:=Option.some.inj q4;subst e0;rcases q3 with ⟨sn,e,_⟩|e
    ·cases GN e
    have e:=Sum.inr.inj e;subst e;exact gb bk1 hd () rfl
  subst hy;dsimp only at hm;have e0:=Option.some.inj hm;subst e0;exact AO hd
def Gr:Option Bool:=Ad (Eo (⟨#[]⟩:ByteArray) 1 0 9) fun x1=>Ad (CB (⟨#[]⟩:ByteArray) ([]:List ByteArray) 0 9) fun x2=>Ad (Ep (⟨#[]⟩:ByteArray) (⟨#[97,46,98]⟩:ByteArray) 2 5) fun x3=>Ad (HL ([x1]:List g_api_Cert) ([x2]:List g_api_Cert) x3 (⟨#[97,46,98]⟩:ByteArray) 3) fun x4=>if((x4.length:Int) !=1)=true then some false else Ad (idx x4 0) fun x5=>Ad (Hg x5 ([x3,x2]:List g_api_Cert)) fun x6=>Ad (gu x6 (CA x3 x2)) fun x7=>Ad (gu (x6&&(x7==0)) (CA x2 x1)) fun x8=>Ad (gu ((x6&&(x7==0))&&(x8==0)) (CA x3 x1)) fun x9=>Ad (gu (((x6&&(x7==0))&&(x8==0))&&(x9==191)) (Bv ([x1]:List g_api_Cert) ([x3,x2]:List g_api_Cert) (⟨#[97,46,98]⟩:ByteArray) 3)) fun x10=>Ad (gu ((((x6&&(x7==0))&&(x8==0))&&(x9==191))&&(x10==0)) (Bv ([x1]:List g_api_Cert) ([x3,x2]:List g_api_Cert) (⟨#[97,46,98]⟩:ByteArray) 5)) fun x11=>Ad (gu (((((x6&&(x7==0))&&(x8==0))&&(x9==191))&&(x10==0))&&(x11==190)) (Bv ([x1]:List g_api_Cert) ([x3,x2]:List g_api_Cert) (⟨#[98]⟩:ByteArray) 3)) fun x12=>Ad (gu ((((((x6&&(x7==0))&&(x8==0))&&(x9==191))&&(x10==0))&&(x11==190))&&(x12==110)) (cut ([x3,x2]:List g_api_Cert) 0 1)) fun x13=>Ad (gu ((((((x6&&(x7==0))&&(x8==0))&&(x9==191))&&(x10==0))&&(x11==190))&&(x12==110)) (Bv ([x1]:List g_api_Cert) x13 (⟨#[97,46,98]⟩:ByteArray) 3)) fun x14=>Ad (gu (((((((x6&&(x7==0))&&(x8==0))&&(x9==191))&&(x10==0))&&(x11==190))&&(x12==110))&&(x14==191)) (Bv ([]:List g_api_Cert) ([x3,x2]:List g_api_Cert) (⟨#[97,46,98]⟩:ByteArray) 3)) fun x15=>Ad (gu ((((((((x6&&(x7==0))&&(x8==0))&&(x9==191))&&(x10==0))&&(x11==190))&&(x12==110))&&(x14==191))&&(x15==191)) (Bv ([x1]:List g_api_Cert) ([]:List g_api_Cert) (⟨#[97,46,98]⟩:ByteArray) 3)) fun x16=>Ad (gu (((((((((x6&&(x7==0))&&(x8==0))&&(x9==191))&&(x10==0))&&(x11==190))&&(x12==110))&&(x14==191))&&(x15==191))&&(x16==1)) (Bv ([x1]:List g_api_Cert) ([x3,x2]:List g_api_Cert) (⟨#[]⟩:ByteArray) 3)) fun x17=>bnd (((((((((((x6&&(x7==0))&&(x8==0))&&(x9==191))&&(x10==0))&&(x11==190))&&(x12==110))&&(x14==191))&&(x15==191))&&(x16==1))&&(x17==110))) fun x18=>some x18
theorem Ob {r:Bool}(hm:Gr=some r):Sf prog 11 [] (.d (.t r)):=
 sp call11 func11 rfl ntmps11 rfl fun D0 As η0 m0 hd=>by
  unfold Gr at hm;obtain⟨x1,q1,hm⟩:=Aa hm;refine gc (fun _=>Jz q1) ?_;obtain⟨x2,q2,hm⟩:=Aa hm;refine gc (fun _=>GA q2) ?_;obtain⟨x3,q3,hm⟩:=Aa hm;refine gc (fun _=>JA q3) ?_;refine ES (k:=13) Ae ([x3,x2]:List g_api_Cert) (fun _=>rfl) ?_;refine ES (k:=13) Ae ([x1]:List g_api_Cert) (fun _=>rfl) ?_;refine ES (k:=13) Ae ([x2]:List g_api_Cert) (fun _=>rfl) ?_;obtain⟨x4,q4,hm⟩:=Aa hm;refine gco (N9 q4) ?_;refine gi hm (fun hc1 hm=> ?_) fun hc1 hm=> ?_
  ·skip;have e0:=Option.some.inj hm;subst e0;exact AO hd
  obtain⟨x5,q5,hm⟩:=Aa hm;refine VO (E:=(eL Ae)) (fun _=>q5) ?_;refine gldO (k:=1) (fo:=0) (nn:=1) (ag:=false) (E:=(eL Ae)) (fun _=>rfl) (fun _=>q5) ?_;obtain⟨x6,q6,hm⟩:=Aa hm;refine gc (fun _=>MK q6) ?_;obtain⟨x7,q7,hm⟩:=Aa hm;refine gcG (fun h=>E9 (G5 h q7)) ?_;obtain⟨x8,q8,hm⟩:=Aa hm;refine gcG (fun h=>E9 (G5 h q8)) ?_;obtain⟨x9,q9,hm⟩:=Aa hm;refine gcG (fun h=>E9 (G5 h q9)) ?_;obtain⟨x10,q10,hm⟩:=Aa hm;refine gcG (fun h=>B8 (G5 h q10)) ?_;obtain⟨x11,q11,hm⟩:=Aa hm;refine gcG (fun h=>B8 (G5 h q11)) ?_;obtain⟨x12,q12,hm⟩:=Aa hm;refine gcG (fun h=>B8 (G5 h q12)) ?_;obtain⟨x13,q13,hm⟩:=Aa hm;refine gcutG (k:=13) (E:=Ae) (fun _=>rfl) (fun h=>G5 h q13) ?_;obtain⟨x14,q14,hm⟩:=Aa hm;refine gcG (fun h=>B8 (G5 h q14)) ?_;obtain⟨x15,q15,hm⟩:=Aa hm;refine gcG (fun h=>B8 (G5 h q15)) ?_;obtain⟨x16,q16,hm⟩:=Aa hm;refine gcG (fun h=>B8 (G5 h q16)) ?_;obtain⟨x17,q17,hm⟩:=Aa hm;refine gcG (fun h=>B8 (G5 h q17)) ?_;have hm:=Ba hm;let x18:Bool:=(((((((((((x6&&(x7==0))&&(x8==0))&&(x9==191))&&(x10==0))&&(x11==190))&&(x12==110))&&(x14==191))&&(x15==191))&&(x16==1))&&(x17==110)));have e0:=Option.some.inj hm;subst e0;exact AO hd
def C9 (a0:ByteArray)(a1:Int)(a2:ByteArray)(a3:Int)(a4:Int)(a5:Int):Option Bool:=Ad (Gr) fun x1=>if(!x1)=true then some false else Ad (gu (!((((((((decide ((a0.size:Int)>50))||(decide (a1<0)))||(decide (a1>4)))||(decide (a3<0)))||(decide (a4≤a3)))||(decide (a4>1099511627776)))||(decide (a5<0)))||(decide (a5>1099511627776)))) (BD a2)) fun x2=>if(((((((((decide ((a0.size:Int)>50))||(decide (a1<0)))||(decide (a1>4)))||(decide (a3<0)))||(decide (a4≤a3)))||(decide (a4>1099511627776)))||(decide (a5<0)))||(decide (a5>1099511627776)))||(x2 !=0))=true then some x1 else Ad (Eo a0 a1 a3 a4) fun x3=>Ad (CB a0 ([a2]:List ByteArray) a3 a4) fun x4=>Ad (Ep a0 a2 a3 a4) fun x5=>Ad (idx ([x5,x4]:List g_api_Cert) 0) fun x6=>Ad (RX (⟨#[42,46]⟩:ByteArray) a2) fun x7=>Ad (CB a0 ([x7]:List ByteArray) a3 a4) fun x8=>Ad (Bv ([x3]:List g_api_Cert) ([x5,x4]:List g_api_Cert) a2 a5) fun x9=>Ad (Bv ([x3]:List g_api_Cert) ([x6,x8]:List g_api_Cert) a2 a5) fun x10=>if((decide (a5<a3))||(decide (a5≥a4)))=true then bnd (((x1&&(x9==190))&&((x10==190)||(x10==1)))) fun x11=>some x11 else if(decide (a1<1))=true then bnd (((x1&&(x9==191))&&(x10 !=0))) fun x12=>some x12 else bnd (((x1&&(x9==0))&&((x10==110)||(x10==1)))) fun x13=>some x13
theorem JT {a0:ByteArray}{a1:Int}{a2:ByteArray}{a3:Int}{a4:Int}{a5:Int}{r:Bool}(hm:C9 a0 a1 a2 a3 a4 a5=some r):Sf prog 6 [.d (.s a0),.d (.i a1),.d (.s a2),.d (.i a3),.d (.i a4),.d (.i a5)] (.d (.t r)):=
 sp call6 func6 rfl ntmps6 rfl fun D0 As η0 m0 hd=>by
  unfold C9 at hm;obtain⟨x1,q1,hm⟩:=Aa hm;refine gc (fun _=>Ob q1) ?_;refine gi hm (fun hc1 hm=> ?_) fun hc1 hm=> ?_
  ·skip;have e0:=Option.some.inj hm;subst e0;exact AO hd
  obtain⟨x2,q2,hm⟩:=Aa hm;refine gcG (fun h=>G6 (G5 h q2)) ?_;refine gi hm (fun hc2 hm=> ?_) fun hc2 hm=> ?_
  ·skip;have e0:=Option.some.inj hm;subst e0;exact AO hd
  obtain⟨x3,q3,hm⟩:=Aa hm;refine gc (fun _=>Jz q3) ?_;refine ES (k:=1) eS ([a2]:List ByteArray) (fun _=>rfl) ?_;obtain⟨x4,q4,hm⟩:=Aa hm;refine gc (fun _=>GA q4) ?_;obtain⟨x5,q5,hm⟩:=Aa hm;refine gc (fun _=>JA q5) ?_;refine ES (k:=13) Ae ([x5,x4]:List g_api_Cert) (fun _=>rfl) ?_;obtain⟨x6,q6,hm⟩:=Aa hm;refine Hs (k:=13) (E:=Ae) (fun _=>rfl) (fun _=>q6) ?_;obtain⟨x7,q7,hm⟩:=Aa hm;refine gcat (fun _=>q7) ?_;refine ES (k:=1) eS ([x7]:List ByteArray) (fun _=>rfl) ?_;obtain⟨x8,q8,hm⟩:=Aa hm;refine gc (fun _=>GA q8) ?_;refine ES (k:=13) Ae ([x6,x8]:List g_api_Cert) (fun _=>rfl) ?_;refine ES (k:=13) Ae ([x3]:List g_api_Cert) (fun _=>rfl) ?_;obtain⟨x9,q9,hm⟩:=Aa hm;refine gc (fun _=>B8 q9) ?_;refine ES (k:=13) Ae ([x3]:List g_api_Cert) (fun _=>rfl) ?_;obtain⟨x10,q10,hm⟩:=Aa hm;refine gc (fun _=>B8 q10) ?_;refine gi hm (fun hc3 hm=> ?_) fun hc3 hm=> ?_
  ·skip;have hm:=Ba hm;let x11:Bool:=(((x1&&(x9==190))&&((x10==190)||(x10==1))));have e0:=Option.some.inj hm;subst e0;exact AO hd
  refine gi hm (fun hc4 hm=> ?_) fun hc4 hm=> ?_
  ·skip;have hm:=Ba hm;let x12:Bool:=(((x1&&(x9==191))&&(x10 !=0)));have e0:=Option.some.inj hm;subst e0;exact AO hd
  have hm:=Ba hm;let x13:Bool:=(((x1&&(x9==0))&&((x10==110)||(x10==1))));have e0:=Option.some.inj hm;subst e0;exact AO hd
end Go.Proofs.YtbajlmaijjcbmaaGreatDoor
