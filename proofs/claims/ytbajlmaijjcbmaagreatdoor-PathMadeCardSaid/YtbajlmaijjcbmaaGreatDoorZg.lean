/- The walks of some functions, by the executor, written by program. Conditions: none. -/
import Derived.Test.YtbajlmaijjcbmaaGreatDoorZf
set_option linter.unusedSimpArgs false
set_option linter.unusedVariables false
set_option maxHeartbeats 20000000
set_option maxRecDepth 100000
namespace Go.Proofs.YtbajlmaijjcbmaaGreatDoor
open Go Go.Gw Go.Ax Tryz
attribute [local irreducible] Go.Ax.Go
def DT (a0:List UInt8):Option Bool:=Ad (gu ((a0.length:Int)==1) (idx a0 0)) fun x1=>Ad (gu (((a0.length:Int)==1)&&(!((x1.toNat:Int)==0))) (idx a0 0)) fun x2=>bnd ((((a0.length:Int)==1)&&(((x1.toNat:Int)==0)||((x2.toNat:Int)==255)))) fun x3=>some x3
theorem MU {a0:List UInt8}{r:Bool}(hm:DT a0=some r):Sf prog 252 [sl eB a0] (.d (.t r)):=
 sp call252 func252 rfl ntmps252 rfl fun D0 As η0 m0 hd=>by
  unfold DT at hm;obtain⟨x1,q1,hm⟩:=Aa hm;refine T9 (k:=1) (E:=eB) (fun _=>rfl) (fun h=>G5 h q1) ?_;obtain⟨x2,q2,hm⟩:=Aa hm;refine T9 (k:=1) (E:=eB) (fun _=>rfl) (fun h=>G5 h q2) ?_;have hm:=Ba hm;let x3:Bool:=((((a0.length:Int)==1)&&(((x1.toNat:Int)==0)||((x2.toNat:Int)==255))));have e0:=Option.some.inj hm;subst e0;exact AO hd
def Ei (a0:List UInt8):Option Bool:=if((a0.length:Int)==0)=true then some false else if((a0.length:Int)==1)=true then some true else Ad (idx a0 1) fun x1=>Ad (gu (decide ((a0.length:Int)≤8)) (idx a0 0)) fun x2=>bnd (((decide ((a0.length:Int)≤8))&&((x2.toNat:Int) !=((toB (-((shrB x1 7).toNat:Int))).toNat:Int)))) fun x3=>some x3
theorem Kr {a0:List UInt8}{r:Bool}(hm:Ei a0=some r):Sf prog 157 [sl eB a0] (.d (.t r)):=
 sp call157 func157 rfl ntmps157 rfl fun D0 As η0 m0 hd=>by
  unfold Ei at hm;refine gi hm (fun hc1 hm=> ?_) fun hc1 hm=> ?_
  ·skip;have e0:=Option.some.inj hm;subst e0;exact AO hd
  refine gi hm (fun hc2 hm=> ?_) fun hc2 hm=> ?_
  ·skip;have e0:=Option.some.inj hm;subst e0;exact AO hd
  obtain⟨x1,q1,hm⟩:=Aa hm;refine Hs (k:=1) (E:=eB) (fun _=>rfl) (fun _=>q1) ?_;obtain⟨x2,q2,hm⟩:=Aa hm;refine T9 (k:=1) (E:=eB) (fun _=>rfl) (fun h=>G5 h q2) ?_;have hm:=Ba hm;let x3:Bool:=(((decide ((a0.length:Int)≤8))&&((x2.toNat:Int) !=((toB (-((shrB x1 7).toNat:Int))).toNat:Int))));have e0:=Option.some.inj hm;subst e0;exact AO hd
theorem Pn {m:Mem}{As:List Ow}{w:World}{a0:List UInt8}{a0v0:Value}{r:Bool}(S:St m As w)(a0h0:SlR m a0v0 a0)(hm:Ei a0=some r):
  Az prog 157 #[a0v0] w fun v w'=> ∃(M:Mem),m≤M∧St M (As) w'∧v=vb r:=by
 refine Az.mono ((Kr hm).2 none0 m As w [a0v0] (.cons (.d (Br.toS Br.b a0h0)) .nil) (fun n h=>absurd rfl h) S) ?_;rintro v w' ⟨M,η',r',obs',n1,hle,_,⟨rfl,rfl,rfl⟩,hdom,hR,S'⟩;obtain rfl:=hR.t_inv;exact⟨M,hle,S',rfl⟩
def Hh (a0:List UInt8):Option Bool:=some true
theorem MT {a0:List UInt8}{r:Bool}(hm:Hh a0=some r):Sf prog 253 [sl eB a0] (.d (.t r)):=
 sp call253 func253 rfl ntmps253 rfl fun D0 As η0 m0 hd=>by
  unfold Hh at hm;have e0:=Option.some.inj hm;subst e0;exact AO hd
def EL (a0:UInt8):Option Bool:=bnd (((decide ((a0.toNat:Int)<32))||(decide ((a0.toNat:Int)>126)))) fun x1=>some x1
theorem Ks {a0:UInt8}{r:Bool}(hm:EL a0=some r):Sf prog 256 [.d (.b a0)] (.d (.t r)):=
 sp call256 func256 rfl ntmps256 rfl fun D0 As η0 m0 hd=>by
  unfold EL at hm;have hm:=Ba hm;let x1:Bool:=(((decide ((a0.toNat:Int)<32))||(decide ((a0.toNat:Int)>126))));have e0:=Option.some.inj hm;subst e0;exact AO hd
def Am (a0:List UInt8)(i1:Int)(s1:Unit):Option ((Unit)⊕Int):=Ad (idx a0 (i1:Int)) fun x3=>Ad (EL x3) fun x4=>if x4=true then some (.inr (i1:Int))else some (.inl ())
def Bm (a0:List UInt8):Option Int:=Ad (C3 (Am a0) a0.length 0 ()) fun x1=>match x1 with| .inr r=>some r| .inl y1=>some (-1)
theorem Ex {a0:List UInt8}{r:Int}(hm:Bm a0=some r):Sf prog 258 [sl eB a0,.fn (.func 256) [] []] (.d (.i r)):=
 sp call258 func258 rfl ntmps258 rfl fun D0 As η0 m0 hd=>by
  unfold Bm at hm;obtain⟨x1,q1,hm⟩:=Aa hm;refine Mq 0 (E:=eB) (xs:=a0) 6 fun hle1=> ?_;refine gjU 0 (fun(y1:Unit)=>⟨[],[],[],0⟩) (fun y1=>x1= .inl y1) (fun Jp bk1=> ?_) fun y1 hy=> ?_
  ·refine gl hd (fun(p:Int×(Unit))=>let (p0,_):=p; ⟨[(0,sl eB a0),(1,.fn (.func 256) [] []),(7,.d (.i (a0.length:Int))),(8,.d (.i p0))],[],[],0⟩) (fun p=> ∃i:Nat,p.1=(i:Int)∧i≤a0.length∧C3 (Am a0) (a0.length-i) (i:Int) p.2=some x1) (fun p=>a0.length-p.1.toNat) (0,()) ⟨0,rfl,Nat.zero_le _,q1⟩ ?_;rintro⟨_,s1⟩ ⟨i1,rfl,hi,q2⟩ Jl bl1;refine gi' (b:=decide ((i1:Int)<(a0.length:Int))) (fun hc2=> ?_) fun hc2=> ?_
   ·have hlt1:i1<a0.length:=by have:=of_decide_eq_true hc2; omega
    obtain⟨y2,q4,q3⟩:=FN q2 hlt1;unfold Am at q4;obtain⟨x3,q6,q4⟩:=Aa q4;refine Hs (k:=1) (E:=eB) (fun _=>rfl) (fun _=>q6) ?_;obtain⟨x4,q7,q4⟩:=Aa q4;refine gc (fun _=>Ks q7) ?_;refine gi q4 (fun hc1 q4=> ?_) fun hc1 q4=> ?_
    ·skip;cases q4;rcases q3 with ⟨sn,e,_⟩|⟨tn,e,e2⟩
     ·cases e
     cases e;cases e2;dsimp only at hm;have e0:=Option.some.inj hm;subst e0;exact AO hd
    have e0:=Option.some.inj q4;subst e0;rcases q3 with ⟨sn,e,q3'⟩|⟨tn,e,_⟩
    ·have e:=Sum.inl.inj e;subst e;exact gb bl1 hd (w64 ((i1:Int)+1),_) ⟨⟨i1+1,Bc hlt1 hle1,by omega,q3'⟩,Gl hlt1 hle1⟩
    cases B4 e
   have hlt1: ¬i1<a0.length:=by have:=of_decide_eq_false hc2; omega
   have e:=ET q2 hlt1;cases e;exact gb bk1 hd _ rfl
  subst hy;dsimp only at hm;have e0:=Option.some.inj hm;subst e0;exact AO hd
def A9 (a0:List UInt8):Option Bool:=Ad (Bm a0) fun x1=>some (decide (x1≥0))
theorem D6 {a0:List UInt8}{r:Bool}(hm:A9 a0=some r):Sf prog 255 [sl eB a0,.fn (.func 256) [] []] (.d (.t r)):=
 sp call255 func255 rfl ntmps255 rfl fun D0 As η0 m0 hd=>by
  unfold A9 at hm;obtain⟨x1,q1,hm⟩:=Aa hm;refine gc (fun _=>Ex q1) ?_;have e0:=Option.some.inj hm;subst e0;exact AO hd
def EM (a0:List UInt8):Option Bool:=Ad (A9 a0) fun x1=>some (!x1)
theorem MS {a0:List UInt8}{r:Bool}(hm:EM a0=some r):Sf prog 254 [sl eB a0] (.d (.t r)):=
 sp call254 func254 rfl ntmps254 rfl fun D0 As η0 m0 hd=>by
  unfold EM at hm;obtain⟨x1,q1,hm⟩:=Aa hm;refine gc (fun _=>D6 q1) ?_;have e0:=Option.some.inj hm;subst e0;exact AO hd
def EK (a0:List UInt8):Option Bool:=some ((a0.length:Int)==0)
theorem MR {a0:List UInt8}{r:Bool}(hm:EK a0=some r):Sf prog 257 [sl eB a0] (.d (.t r)):=
 sp call257 func257 rfl ntmps257 rfl fun D0 As η0 m0 hd=>by
  unfold EK at hm;have e0:=Option.some.inj hm;subst e0;exact AO hd
def CQ (a0:Bool):Option Int:=if a0=true then some 0 else some 110
theorem Jy {a0:Bool}{r:Int}(hm:CQ a0=some r):Sf prog 45 [.d (.t a0)] (.d (.i r)):=
 sp call45 func45 rfl ntmps45 rfl fun D0 As η0 m0 hd=>by
  unfold CQ at hm;refine gi hm (fun hc1 hm=> ?_) fun hc1 hm=> ?_
  ·skip;have e0:=Option.some.inj hm;subst e0;exact AO hd
  have e0:=Option.some.inj hm;subst e0;exact AO hd
def AY (a0:ByteArray)(a1:UInt8):Option Int:=some (TT a0 a1)
theorem EZ {a0:ByteArray}{a1:UInt8}{r:Int}(hm:AY a0 a1=some r):Sf prog 223 [.d (.s a0),.d (.b a1)] (.d (.i r)):=
 sp call223 func223 rfl ntmps223 rfl fun D0 As η0 m0 hd=>by
  unfold AY at hm;refine gext (F:=TT) (p:=a0) (q:=a1) func232 (extIxb (by kernel_rfl) (by kernel_rfl) (by kernel_rfl) (by kernel_rfl)) ?_;have e0:=Option.some.inj hm;subst e0;exact AO hd
def AE (a0:ByteArray)(a1:ByteArray):Option Int:=bnd ((((a1.size:Int)==0)||(eqS a1 a0))) fun x1=>if x1=true then some 0 else if((a1.size:Int)==1)=true then Ad (idx a1.data.toList 0) fun x2=>Ad (AY a0 x2) fun x3=>some x3 else bnd ((decide ((a1.size:Int)≥(a0.size:Int)))) fun x4=>if x4=true then some (-1)else none
theorem Dl {a0:ByteArray}{a1:ByteArray}{r:Int}(hm:AE a0 a1=some r):Sf prog 211 [.d (.s a0),.d (.s a1)] (.d (.i r)):=
 sp call211 func211 rfl ntmps211 rfl fun D0 As η0 m0 hd=>by
  unfold AE at hm;have hm:=Ba hm;let x1:Bool:=((((a1.size:Int)==0)||(eqS a1 a0)));refine gi hm (fun hc1 hm=> ?_) fun hc1 hm=> ?_
  ·skip;have e0:=Option.some.inj hm;subst e0;exact AO hd
  refine gi hm (fun hc2 hm=> ?_) fun hc2 hm=> ?_
  ·skip;obtain⟨x2,q2,hm⟩:=Aa hm;refine Yt (fun _=>q2) ?_;obtain⟨x3,q3,hm⟩:=Aa hm;refine gc (fun _=>EZ q3) ?_;have e0:=Option.some.inj hm;subst e0;exact AO hd
  have hm:=Ba hm;let x4:Bool:=((decide ((a1.size:Int)≥(a0.size:Int))));refine gi hm (fun hc3 hm=> ?_) fun hc3 hm=> ?_
  ·skip;have e0:=Option.some.inj hm;subst e0;exact AO hd
  cases hm
def Be (a0:ByteArray)(a1:ByteArray):Option Int:=Ad (AE a0 a1) fun x1=>some x1
theorem Kk {a0:ByteArray}{a1:ByteArray}{r:Int}(hm:Be a0 a1=some r):Sf prog 187 [.d (.s a0),.d (.s a1)] (.d (.i r)):=
 sp call187 func187 rfl ntmps187 rfl fun D0 As η0 m0 hd=>by
  unfold Be at hm;obtain⟨x1,q1,hm⟩:=Aa hm;refine gc (fun _=>Dl q1) ?_;have e0:=Option.some.inj hm;subst e0;exact AO hd
theorem KC {m:Mem}{As:List Ow}{w:World}{a0:ByteArray}{a1:ByteArray}{r:Int}(S:St m As w)(hm:Be a0 a1=some r):
  Az prog 187 #[vS a0,vS a1] w fun v w'=> ∃(M:Mem),m≤M∧St M (As) w'∧v=vI r:=by
 refine Az.mono ((Kk hm).2 none0 m As w [vS a0,vS a1] (.cons (.d (.s _)) (.cons (.d (.s _)) .nil)) (fun n h=>absurd rfl h) S) ?_;rintro v w' ⟨M,η',r',obs',n1,hle,_,⟨rfl,rfl,rfl⟩,hdom,hR,S'⟩;obtain rfl:=hR.i_inv;exact⟨M,hle,S',rfl⟩
def Dy (a0:ByteArray)(a1:ByteArray):Option Int:=if((a1.size:Int)==0)=true then none else if((a1.size:Int)==1)=true then Ad (idx a1.data.toList 0) fun x1=>some (cntS a0 x1)else none
theorem Kl {a0:ByteArray}{a1:ByteArray}{r:Int}(hm:Dy a0 a1=some r):Sf prog 139 [.d (.s a0),.d (.s a1)] (.d (.i r)):=
 sp call139 func139 rfl ntmps139 rfl fun D0 As η0 m0 hd=>by
  unfold Dy at hm;refine gi hm (fun hc1 hm=> ?_) fun hc1 hm=> ?_
  ·cases hm
  refine gi hm (fun hc2 hm=> ?_) fun hc2 hm=> ?_
  ·skip;obtain⟨x1,q1,hm⟩:=Aa hm;refine Yt (fun _=>q1) ?_;refine gext (F:=cntS) (p:=a0) (q:=x1) func186 (extCnt (by kernel_rfl) (by kernel_rfl) (by kernel_rfl) (by kernel_rfl)) ?_;have e0:=Option.some.inj hm;subst e0;exact AO hd
  cases hm
theorem KD {m:Mem}{As:List Ow}{w:World}{a0:ByteArray}{a1:ByteArray}{r:Int}(S:St m As w)(hm:Dy a0 a1=some r):
  Az prog 139 #[vS a0,vS a1] w fun v w'=> ∃(M:Mem),m≤M∧St M (As) w'∧v=vI r:=by
 refine Az.mono ((Kl hm).2 none0 m As w [vS a0,vS a1] (.cons (.d (.s _)) (.cons (.d (.s _)) .nil)) (fun n h=>absurd rfl h) S) ?_;rintro v w' ⟨M,η',r',obs',n1,hle,_,⟨rfl,rfl,rfl⟩,hdom,hR,S'⟩;obtain rfl:=hR.i_inv;exact⟨M,hle,S',rfl⟩
def CV {σ:Type}(k1:ByteArray)(s1:Unit):Option ((Unit)⊕((Unit)⊕(ByteArray×ByteArray×Int×σ))):=if(decide ((k1.size:Int)>0))=true then none else some (.inr (.inl ()))
def Au {σ:Type}(p0:σ→ByteArray→Option (Bool×σ))(k0:ByteArray)(k2:Int)(s2:ByteArray×σ):Option ((ByteArray×σ)⊕((ByteArray×σ)⊕(ByteArray×ByteArray×Int×σ))):=Ad (Be s2.1 k0) fun x5=>if(decide (x5<0))=true then some (.inr (.inl (s2.1,s2.2)))else Ad (Ly s2.1 0 (w64 (x5+k2))) fun x6=>Ad (p0 s2.2 x6) fun x7=>if(!x7.1)=true then some (.inr (.inr (k0,s2.1,k2,x7.2)))else Ad (Ly s2.1 (w64 (x5+(k0.size:Int))) (s2.1.size:Int)) fun x8=>some (.inl (x8,x7.2))
def A1 {σ:Type}(p0:σ→ByteArray→Option (Bool×σ))(k0:ByteArray)(k1:ByteArray)(k2:Int)(s0:σ):Option (ByteArray×ByteArray×Int×σ):=
 if((k0.size:Int)==0)=true then
  Ad (iter (CV k1) E4 ()) fun x1=>match x1 with
  | .inr r=>some r
  | .inl y1=>
  some (k0,k1,k2,s0)
 else
 Ad (iter (Au p0 k0 k2) E4 (k1,s0)) fun x3=>match x3 with
 | .inr r=>some r
 | .inl y3=>
 Ad (p0 y3.2 y3.1) fun x9=>
 some (k0,y3.1,k2,x9.2)
theorem Ig {m:Mem}{As:List Ow}{w:World}{σ:Type}{R:σ→Mem→List Ow→Prop}{p0:σ→ByteArray→Option (Bool×σ)}{f0:Value}{kb0:Nat}{k0:ByteArray}{kb1:Nat}{k1:ByteArray}{kb2:Nat}{k2:Int}{s0:σ}{X0:List Ow}{r:ByteArray×ByteArray×Int×σ}(S:St m ((bx kb0 [vS k0] 9)::(bx kb1 [vS k1] 9)::(bx kb2 [vI k2] 3)::(X0++As)) w)(hup: ∀{s M M' X},M≤M'→R s M X→R s M' X)(hX0:R s0 m X0)(cb0: ∀{m':Mem} {As':List Ow} {w':World} {s:σ} {X:List Ow} {b0:ByteArray} {r:Bool×σ},St m' (X++As') w'→R s m' X→p0 s b0=some r→Dt Tryz.prog f0 [vS b0] w' fun v w''=> ∃(M:Mem) (X':List Ow),m'≤M∧St M (X'++As') w''∧R r.2 M X'∧v=vb r.1)(fc0:f0.cells= #[f0])(hm:A1 p0 k0 k1 k2 s0=some r):
  Az Tryz.prog 212 #[f0,pt kb0 0,pt kb1 0,pt kb2 0] w fun v w'=> ∃(M:Mem),m≤M∧∃(X:List Ow),St M ((bx kb0 [vS r.1] 9)::(bx kb1 [vS r.2.1] 9)::(bx kb2 [vI r.2.2.1] 3)::(X++As)) w'∧v= .tuple #[]∧R r.2.2.2 M X:=by
 unfold A1 at hm;have L0:=Mem.rfl' m;refine Co (args:=[f0,pt kb0 0,pt kb1 0,pt kb2 0]) Tryz.func212 rfl Tryz.ntmps212 (Nat.le_of_ble_eq_true rfl) ?_;refine Af ?_;refine Af ?_;refine Ac ?_;refine GS (i:=0) (cs:=[vS k0]) S rfl rfl Tryz.isAgg9 Tryz.sizeOf9 rfl (fun _=>rfl) ?_;refine OB (s:=k0) rfl Tryz.underlying9 ?_;refine s_eql (m:=(k0.size:Int)) (n:=0) rfl rfl ?_;refine Ag ?_;refine nrm ?_;refine B3 (t:=((k0.size:Int)==0)) rfl (fun hc1=> ?_) (fun hc1=> ?_)
 ·replace hm:=ifT hc1 hm;refine Af ?_;obtain⟨x1,q1,hm⟩:=Aa hm;have L1:=Mem.rfl' m;refine Bn [5,6,12,13,14,15,16,17,18,19,20,21,22,23,24,25,26,27,28] (fun f' w'=> ∃(M1:Mem) (y1:Unit),x1= .inl y1∧m≤M1∧St M1 ((bx kb0 [vS k0] 9)::(bx kb1 [vS k1] 9)::(bx kb2 [vI k2] 3)::(X0++As)) w'∧B5 f' []) ?_ ?_
  ·refine AA ?_;refine BL [5,6,12,13,14,15,16,17,18,19,20,21,22,23,24,25,26,27,28] (fun n1 f' w'=> ∃(s1:Unit) (m2:Mem),iter (CV k1) n1 s1=some x1∧m≤m2∧St m2 ((bx kb0 [vS k0] 9)::(bx kb1 [vS k1] 9)::(bx kb2 [vI k2] 3)::(X0++As)) w'∧B5 f' []) E4 ⟨(),m,q1,L1,S,trivial⟩ ?_;rintro n1 f1 w1 ho ⟨s1,m1,q2,L3,S1,ha⟩;obtain⟨u1,rfl⟩:=BP (N:=52) ho ha;clear ho ha;replace hX0:=hup L3 hX0;have L2:=Mem.rfl' m1;clear S;cases n1 with
   |zero=>exact(BK q2).elim
   |succ n1=>
    obtain⟨y2,q4,q3⟩:=BE q2;unfold CV at q4;refine Af ?_;refine Af ?_;refine Ac ?_;refine GS (i:=1) (cs:=[vS k1]) S1 rfl rfl Tryz.isAgg9 Tryz.sizeOf9 rfl (fun _=>rfl) ?_;refine OB (s:=k1) rfl Tryz.underlying9 ?_;refine Rx (m:=(k1.size:Int)) (n:=0) rfl rfl ?_;refine Ag ?_;refine nrm ?_;refine B3 (t:=(decide ((k1.size:Int)>0))) rfl (fun hc2=> ?_) (fun hc2=> ?_)
    ·replace q4:=ifT hc2 q4;cases q4
    replace q4:=ifF hc2 q4;refine CH ?_;refine thE ?_;refine thE ?_;refine exB ?_;refine nrm ?_;have e0:=Option.some.inj q4;subst e0;rcases q3 with ⟨sn,e,_⟩|e
    ·cases e
    ·cases e;exact⟨Fl,m1,_,rfl,Mem.tr L3 L2,S1,trivial⟩
  rintro f2 w2 ho ⟨m3,y1,rfl,l1,S2,ha⟩;obtain⟨u2,rfl⟩:=BP (N:=52) ho ha;clear ho ha;dsimp only at hm;replace hX0:=hup l1 hX0;replace L0:=Mem.tr L0 l1;clear S;refine Bl ?_;refine thR ?_;refine Dx ?_;intro we hpd;replace S2:=St.pd S2 hpd;have e0:=Option.some.inj hm;subst e0;exact G4 [] rfl trivial ⟨_,L0,_,S2,rfl,hX0⟩
 replace hm:=ifF hc1 hm;refine A7 ?_;refine nrm ?_;refine Af ?_;obtain⟨x3,q6,hm⟩:=Aa hm;have L4:=Mem.rfl' m;refine Bn [7,8,29,30,31,32,33,34,35,36,37,38,39,40,41,42,43,44,45,46,47,48] (fun f' w'=> ∃(M2:Mem) (y3:ByteArray×σ) (X2:List Ow),x3= .inl y3∧m≤M2∧St M2 ((bx kb0 [vS k0] 9)::(bx kb1 [vS y3.1] 9)::(bx kb2 [vI k2] 3)::(X2++As)) w'∧R y3.2 M2 X2∧B5 f' []) ?_ ?_
 ·refine AA ?_;refine BL [7,8,29,30,31,32,33,34,35,36,37,38,39,40,41,42,43,44,45,46,47,48] (fun n2 f' w'=> ∃(s2:ByteArray×σ) (m7:Mem) (X1:List Ow),iter (Au p0 k0 k2) n2 s2=some x3∧m≤m7∧St m7 ((bx kb0 [vS k0] 9)::(bx kb1 [vS s2.1] 9)::(bx kb2 [vI k2] 3)::(X1++As)) w'∧R s2.2 m7 X1∧B5 f' []) E4 ⟨(k1,s0),m,_,q6,L4,S,hX0,trivial⟩ ?_;rintro n2 f3 w3 ho ⟨s2,m4,X1,q7,L6,S3,h1,ha⟩;obtain⟨u3,rfl⟩:=BP (N:=52) ho ha;clear ho ha;have L5:=Mem.rfl' m4;clear S;cases n2 with
  |zero=>exact(BK q7).elim
  |succ n2=>
   obtain⟨y4,q9,q8⟩:=BE q7;unfold Au at q9;refine AA ?_;refine Af ?_;refine Ac ?_;refine GS (i:=1) (cs:=[vS s2.1]) S3 rfl rfl Tryz.isAgg9 Tryz.sizeOf9 rfl (fun _=>rfl) ?_;refine GS (i:=0) (cs:=[vS k0]) S3 rfl rfl Tryz.isAgg9 Tryz.sizeOf9 rfl (fun _=>rfl) ?_;obtain⟨x5,q11,q9⟩:=Aa q9;refine CJ Tryz.call187 (KC (a0:=s2.1) (a1:=k0) S3 q11) rfl ?_;rintro _ w4 ⟨m5,l2,S4,rfl⟩;replace h1:=hup l2 h1;replace L5:=Mem.tr L5 l2;clear S3;replace S4:St _ ((bx kb0 [vS k0] 9)::(bx kb1 [vS s2.1] 9)::(bx kb2 [vI k2] 3)::(X1++As)) _:=S4;refine Bb (v:=vI x5) rfl ?_;refine Ag ?_;refine nrm ?_;refine Af ?_;refine Af ?_;refine Ac ?_;refine Ap (v:=vI x5) rfl ?_;refine IN (m:=x5) (n:=0) rfl rfl ?_;refine Ag ?_;refine nrm ?_;refine B3 (t:=(decide (x5<0))) rfl (fun hc3=> ?_) (fun hc3=> ?_)
   ·replace q9:=ifT hc3 q9;refine CH ?_;refine thE ?_;refine exN rfl ?_;refine thE ?_;refine exB ?_;refine nrm ?_;have e0:=Option.some.inj q9;subst e0;rcases q8 with ⟨sn,e,_⟩|e
    ·cases e
    ·cases e;exact⟨Fl,m5,_,_,rfl,Mem.tr L6 L5,S4,h1,trivial⟩
   replace q9:=ifF hc3 q9;refine A7 ?_;refine nrm ?_;refine Af ?_;refine Ac ?_;refine GS (i:=1) (cs:=[vS s2.1]) S4 rfl rfl Tryz.isAgg9 Tryz.sizeOf9 rfl (fun _=>rfl) ?_;refine Ap (v:=vI x5) rfl ?_;refine GS (i:=2) (cs:=[vI k2]) S4 rfl rfl Tryz.isAgg3 Tryz.sizeOf3 rfl (fun _=>rfl) ?_;refine Fp (m:=x5) (n:=k2) rfl rfl ?_;obtain⟨x6,q12,q9⟩:=Aa q9;refine SM (s:=s2.1) (z:=x6) (l:=0) (h:=(w64 (x5+k2))) rfl Tryz.underlying9 (.inl ⟨rfl,rfl⟩) (.inr ⟨_,_,rfl,rfl⟩) q12 ?_;refine Bb (v:=vS x6) rfl ?_;refine Ag ?_;refine nrm ?_;refine Af ?_;refine Af ?_;refine Ac ?_;refine Ap (v:=f0) rfl ?_;refine Ap (v:=vS x6) rfl ?_;obtain⟨x7,q13,q9⟩:=Aa q9;have S5:=St.absF (L:=[bx kb0 [vS k0] 9,bx kb1 [vS s2.1] 9,bx kb2 [vI k2] 3]) (X:=X1) (As:=As) S4;refine Fx rfl (cb0 S5 h1 q13) rfl ?_;rintro _ w5 ⟨m6,X3,l3,S6,h3,rfl⟩;replace S6:=St.absF (L:=X3) (X:=[bx kb0 [vS k0] 9,bx kb1 [vS s2.1] 9,bx kb2 [vI k2] 3]) (As:=As) S6;clear S5;replace L5:=Mem.tr L5 l3;replace S6:St _ ((bx kb0 [vS k0] 9)::(bx kb1 [vS s2.1] 9)::(bx kb2 [vI k2] 3)::(X3++As)) _:=S6;clear S4;refine Ps rfl ?_;refine Ag ?_;refine nrm ?_;refine B3 (t:=(!x7.1)) rfl (fun hc4=> ?_) (fun hc4=> ?_)
   ·replace q9:=ifT hc4 q9;refine Bl ?_;refine thR ?_;refine blR ?_;refine thR ?_;refine blR ?_;refine thR ?_;refine Dx ?_;intro we hpd;replace S6:=St.pd S6 hpd;cases q9;rcases q8 with ⟨sn,e,_⟩|e
    ·cases e
    cases e;dsimp only at hm;have e0:=Option.some.inj hm;subst e0;exact G4 [] rfl trivial ⟨_,(Mem.tr L0 (Mem.tr L6 L5)),_,S6,rfl,h3⟩
   replace q9:=ifF hc4 q9;refine A7 ?_;refine nrm ?_;refine Ac ?_;refine GS (i:=1) (cs:=[vS s2.1]) S6 rfl rfl Tryz.isAgg9 Tryz.sizeOf9 rfl (fun _=>rfl) ?_;refine Ap (v:=vI x5) rfl ?_;refine GS (i:=0) (cs:=[vS k0]) S6 rfl rfl Tryz.isAgg9 Tryz.sizeOf9 rfl (fun _=>rfl) ?_;refine OB (s:=k0) rfl Tryz.underlying9 ?_;refine Fp (m:=x5) (n:=(k0.size:Int)) rfl rfl ?_;obtain⟨x8,q14,q9⟩:=Aa q9;refine SM (s:=s2.1) (z:=x8) (l:=(w64 (x5+(k0.size:Int)))) (h:=(s2.1.size:Int)) rfl Tryz.underlying9 (.inr ⟨_,_,rfl,rfl⟩) (.inl ⟨rfl,rfl⟩) q14 ?_;refine Hb (i:=1) S6 rfl rfl rfl Tryz.sizeOf9 (H0 rfl KV) rfl ?_;intro w6 S7;replace S7:St _ ((bx kb0 [vS k0] 9)::(bx kb1 [vS x8] 9)::(bx kb2 [vI k2] 3)::(X3++As)) _:=S7;clear S6;refine Ag ?_;refine J9 ?_;refine nrm ?_;have e0:=Option.some.inj q9;subst e0;rcases q8 with ⟨sn,e,q8'⟩|e
   ·cases e;exact⟨Fl,_,Nat.lt_succ_self _,⟨_,m6,_,q8',Mem.tr L6 L5,S7,h3,trivial⟩⟩
   ·cases e
 rintro f4 w7 ho ⟨m8,y3,X2,rfl,l4,S8,h2,ha⟩;obtain⟨u4,rfl⟩:=BP (N:=52) ho ha;clear ho ha;dsimp only at hm;replace L0:=Mem.tr L0 l4;clear S;refine Ac ?_;refine Ap (v:=f0) rfl ?_;refine GS (i:=1) (cs:=[vS y3.1]) S8 rfl rfl Tryz.isAgg9 Tryz.sizeOf9 rfl (fun _=>rfl) ?_;obtain⟨x9,q15,hm⟩:=Aa hm;have S9:=St.absF (L:=[bx kb0 [vS k0] 9,bx kb1 [vS y3.1] 9,bx kb2 [vI k2] 3]) (X:=X2) (As:=As) S8;refine Fx rfl (cb0 S9 h2 q15) rfl ?_;rintro _ w8 ⟨m9,X4,l5,S10,h4,rfl⟩;replace S10:=St.absF (L:=X4) (X:=[bx kb0 [vS k0] 9,bx kb1 [vS y3.1] 9,bx kb2 [vI k2] 3]) (As:=As) S10;clear S9;replace L0:=Mem.tr L0 l5;replace S10:St _ ((bx kb0 [vS k0] 9)::(bx kb1 [vS y3.1] 9)::(bx kb2 [vI k2] 3)::(X4++As)) _:=S10;clear S8;refine Ag ?_;refine RF ?_;intro we hpd;replace S10:=St.pd S10 hpd;have e0:=Option.some.inj hm;subst e0;exact G4 [] rfl trivial ⟨_,L0,_,S10,rfl,h4⟩
def EE (a0:ByteArray)(a1:ByteArray)(a2:Int):Option (ByteArray×ByteArray×Int):=some (a1,a0,a2)
theorem IA {m:Mem}{As:List Ow}{w:World}{a0:ByteArray}{a1:ByteArray}{a2:Int}{r:ByteArray×ByteArray×Int}(S:St m (As) w)(hm:EE a0 a1 a2=some r):
  Az Tryz.prog 188 #[vS a0,vS a1,vI a2] w fun v w'=> ∃(M:Mem),m≤M∧∃(rk0_0:Nat) (rk0_1:Nat) (rk0_2:Nat),St M ((bx rk0_0 [vS r.1] 9)::(bx rk0_1 [vS r.2.1] 9)::(bx rk0_2 [vI r.2.2] 3)::As) w'∧v= .func (.func 212) #[] #[pt rk0_0 0,pt rk0_1 0,pt rk0_2 0]:=by
 unfold EE at hm;have L0:=Mem.rfl' m;refine Co (args:=[vS a0,vS a1,vI a2]) Tryz.func188 rfl Tryz.ntmps188 (Nat.le_of_ble_eq_true rfl) ?_;refine Af ?_;refine Ac ?_;refine JZ S rfl ?_;intro b1 w1 S1;replace S1:St _ ((bx b1 [vS a0] 9)::As) _:=S1;clear S;refine JZ S1 rfl ?_;intro b2 w2 S2;replace S2:St _ ((bx b2 [vS a1] 9)::(bx b1 [vS a0] 9)::As) _:=S2;clear S1;refine JZ S2 rfl ?_;intro b3 w3 S3;replace S3:St _ ((bx b3 [vI a2] 3)::(bx b2 [vS a1] 9)::(bx b1 [vS a0] 9)::As) _:=S3;clear S2;refine Bb (v:= .nilFunc) rfl ?_;refine Ag ?_;refine nrm ?_;refine Af ?_;refine Ac ?_;refine Jm (caps:=[pt b2 0,pt b1 0,pt b3 0]) rfl ?_;refine Bb (v:= .func (.func 212) #[] #[pt b2 0,pt b1 0,pt b3 0]) rfl ?_;refine Ag ?_;refine nrm ?_;refine Bl ?_;refine Dx ?_;intro we hpd;replace S3:=St.pd S3 hpd;have S4:St _ ((bx b2 [vS a1] 9)::(bx b1 [vS a0] 9)::(bx b3 [vI a2] 3)::As) _:=St.perm S3 (List.Perm.trans (List.Perm.swap _ _ _) (List.Perm.cons _ (List.Perm.swap _ _ _)));have e0:=Option.some.inj hm;subst e0;exact G4 [_] rfl ⟨rfl,trivial⟩ ⟨_,L0,_,_,_,S4,rfl⟩
def EF (a0:ByteArray)(a1:ByteArray):Option (ByteArray×ByteArray×Int):=Ad (EE a0 a1 0) fun x1=>some (x1.1,x1.2.1,x1.2.2)
theorem IB {m:Mem}{As:List Ow}{w:World}{a0:ByteArray}{a1:ByteArray}{r:ByteArray×ByteArray×Int}(S:St m (As) w)(hm:EF a0 a1=some r):
  Az Tryz.prog 140 #[vS a0,vS a1] w fun v w'=> ∃(M:Mem),m≤M∧∃(rk0_0:Nat) (rk0_1:Nat) (rk0_2:Nat),St M ((bx rk0_0 [vS r.1] 9)::(bx rk0_1 [vS r.2.1] 9)::(bx rk0_2 [vI r.2.2] 3)::As) w'∧v= .func (.func 212) #[] #[pt rk0_0 0,pt rk0_1 0,pt rk0_2 0]:=by
 unfold EF at hm;have L0:=Mem.rfl' m;refine Co (args:=[vS a0,vS a1]) Tryz.func140 rfl Tryz.ntmps140 (Nat.le_of_ble_eq_true rfl) ?_;refine Af ?_;refine Ac ?_;refine Bb (v:= .nilFunc) rfl ?_;refine Ag ?_;refine nrm ?_;refine Af ?_;refine Ac ?_;refine Ap (v:=vS a0) rfl ?_;refine Ap (v:=vS a1) rfl ?_;obtain⟨x1,q1,hm⟩:=Aa hm;refine CJ Tryz.call188 (IA (a0:=a0) (a1:=a1) (a2:=0) S q1) rfl ?_;rintro _ w1 ⟨m1,l1,b1,b2,b3,S1,rfl⟩;replace L0:=Mem.tr L0 l1;clear S;replace S1:St _ ((bx b1 [vS x1.1] 9)::(bx b2 [vS x1.2.1] 9)::(bx b3 [vI x1.2.2] 3)::As) _:=S1;refine Bb (v:= .func (.func 212) #[] #[pt b1 0,pt b2 0,pt b3 0]) rfl ?_;refine Ag ?_;refine nrm ?_;refine Bl ?_;refine Dx ?_;intro we hpd;replace S1:=St.pd S1 hpd;have e0:=Option.some.inj hm;subst e0;exact G4 [_] rfl ⟨rfl,trivial⟩ ⟨_,L0,_,_,_,S1,rfl⟩
def BT (a0:Int):Option Bool:=bnd ((((decide ((97:Int)≤a0))&&(decide (a0≤122)))||((decide ((48:Int)≤a0))&&(decide (a0≤57))))) fun x1=>some x1
theorem Hu {a0:Int}{r:Bool}(hm:BT a0=some r):Sf prog 189 [.d (.r a0)] (.d (.t r)):=
 sp call189 func189 rfl ntmps189 rfl fun D0 As η0 m0 hd=>by
  unfold BT at hm;have hm:=Ba hm;let x1:Bool:=((((decide ((97:Int)≤a0))&&(decide (a0≤122)))||((decide ((48:Int)≤a0))&&(decide (a0≤57)))));have e0:=Option.some.inj hm;subst e0;exact AO hd
def BR (a0:Int):Option Bool:=Ad (gu (!(a0==45)) (BT a0)) fun x1=>some ((a0==45)||x1)
theorem MM {a0:Int}{r:Bool}(hm:BR a0=some r):Sf prog 190 [.d (.r a0)] (.d (.t r)):=
 sp call190 func190 rfl ntmps190 rfl fun D0 As η0 m0 hd=>by
  unfold BR at hm;obtain⟨x1,q1,hm⟩:=Aa hm;refine gcG (fun h=>Hu (G5 h q1)) ?_;have e0:=Option.some.inj hm;subst e0;exact AO hd
def AK (a0:ByteArray)(s1:Nat):Option ((Nat)⊕((Nat)⊕Bool)):=if s1<a0.size then bnd (((Utf8.decode a0 s1).1:Int)) fun x3=>Ad (gu ((s1:Int)==(w64 ((a0.size:Int)-1))) (BT x3)) fun x4=>bnd ((((s1:Int)==(w64 ((a0.size:Int)-1)))&&x4)) fun x5=>if x5=true then some (.inl (s1+(Utf8.decode a0 s1).2))else bnd (((s1:Int)==(w64 ((a0.size:Int)-1)))) fun x6=>if x6=true then some (.inr (.inr false))else Ad (gu ((s1:Int)==0) (BT x3)) fun x7=>bnd ((((s1:Int)==0)&&(x7||(x3==95)))) fun x8=>if x8=true then some (.inl (s1+(Utf8.decode a0 s1).2))else Ad (gu (!((s1:Int)==0)) (BR x3)) fun x9=>if(((s1:Int)==0)||(!x9))=true then some (.inr (.inr false))else some (.inl (s1+(Utf8.decode a0 s1).2))else some (.inr (.inl s1))
def Cw (a0:ByteArray):Option Bool:=if((eqS a0 (⟨#[]⟩:ByteArray))||(decide ((a0.size:Int)>16)))=true then some false else Ad (iter (AK a0) E4 0) fun x1=>match x1 with| .inr r=>some r| .inl y1=>some true
theorem ML {a0:ByteArray}{r:Bool}(hm:Cw a0=some r):Sf prog 141 [.d (.s a0)] (.d (.t r)):=
 sp call141 func141 rfl ntmps141 rfl fun D0 As η0 m0 hd=>by
  unfold Cw at hm;refine gi hm (fun hc1 hm=> ?_) fun hc1 hm=> ?_
  ·skip;have e0:=Option.some.inj hm;subst e0;exact AO hd
  refine grng a0 ?_;obtain⟨x1,q1,hm⟩:=Aa hm;refine gjU 0 (fun(y1:Nat)=>⟨[(13,.ow 0)],[(0,.hp 0 (.it a0 y1))],[],1⟩) (fun y1=>x1= .inl y1) (fun Jp bk1=> ?_) fun y1 hy=> ?_
  ·refine gl hd (fun(p:Nat×(Nat))=>let (p0,p_0):=p; ⟨[(0,.d (.s a0)),(13,.ow 0)],[(0,.hp 0 (.it a0 p_0))],[],1⟩) (fun p=>iter (AK a0) p.1 p.2=some x1) (fun p=>p.1) (E4,0) q1 ?_;rintro⟨n1,s1⟩ q2 Jl bl1;cases n1 with
   |zero=>exact(BK q2).elim
   |succ n1=>
    obtain⟨y2,q4,q3⟩:=BE q2;unfold AK at q4;refine gnx q4 (fun hc2 q4=> ?_) fun hc2 q4=> ?_
    ·skip;refine gi' (b:=true) (fun _=> ?_) (fun h=>by cases h);have q4:=Ba q4;let x3:Int:=(((Utf8.decode a0 s1).1:Int));obtain⟨x4,q7,q4⟩:=Aa q4;refine gcG (fun h=>Hu (G5 h q7)) ?_;have q4:=Ba q4;let x5:Bool:=((((s1:Int)==(w64 ((a0.size:Int)-1)))&&x4));refine gi q4 (fun hc3 q4=> ?_) fun hc3 q4=> ?_
     ·skip;have e0:=Option.some.inj q4;subst e0;rcases q3 with ⟨sn,e,q3'⟩|e
      ·have e:=Sum.inl.inj e;subst e;exact gb bl1 hd (n1,_) ⟨q3',Nat.lt_succ_self _⟩
      cases B4 e
     have q4:=Ba q4;let x6:Bool:=(((s1:Int)==(w64 ((a0.size:Int)-1))));refine gi q4 (fun hc4 q4=> ?_) fun hc4 q4=> ?_
     ·skip;cases q4;rcases q3 with ⟨sn,e,_⟩|e
      ·cases e
      cases e;dsimp only at hm;have e0:=Option.some.inj hm;subst e0;exact AO hd
     obtain⟨x7,q10,q4⟩:=Aa q4;refine gcG (fun h=>Hu (G5 h q10)) ?_;have q4:=Ba q4;let x8:Bool:=((((s1:Int)==0)&&(x7||(x3==95))));refine gi q4 (fun hc5 q4=> ?_) fun hc5 q4=> ?_
     ·skip;have e0:=Option.some.inj q4;subst e0;rcases q3 with ⟨sn,e,q3'⟩|e
      ·have e:=Sum.inl.inj e;subst e;exact gb bl1 hd (n1,_) ⟨q3',Nat.lt_succ_self _⟩
      cases B4 e
     obtain⟨x9,q12,q4⟩:=Aa q4;refine gcG (fun h=>MM (G5 h q12)) ?_;refine gi q4 (fun hc6 q4=> ?_) fun hc6 q4=> ?_
     ·skip;cases q4;rcases q3 with ⟨sn,e,_⟩|e
      ·cases e
      cases e;dsimp only at hm;have e0:=Option.some.inj hm;subst e0;exact AO hd
     have e0:=Option.some.inj q4;subst e0;rcases q3 with ⟨sn,e,q3'⟩|e
     ·have e:=Sum.inl.inj e;subst e;exact gb bl1 hd (n1,_) ⟨q3',Nat.lt_succ_self _⟩
     cases B4 e
    refine gi' (b:=false) (fun h=>by cases h) (fun _=> ?_);have e0:=Option.some.inj q4;subst e0;rcases q3 with ⟨sn,e,_⟩|e
    ·cases GN e
    have e:=Sum.inr.inj e;subst e;exact gb bk1 hd s1 rfl
  subst hy;dsimp only at hm;have e0:=Option.some.inj hm;subst e0;exact AO hd
theorem M7 {m:Mem}{As:List Ow}{w:World}{a0:ByteArray}{r:Bool}(S:St m As w)(hm:Cw a0=some r):
  Az prog 141 #[vS a0] w fun v w'=> ∃(M:Mem),m≤M∧St M (As) w'∧v=vb r:=by
 refine Az.mono ((ML hm).2 none0 m As w [vS a0] (.cons (.d (.s _)) .nil) (fun n h=>absurd rfl h) S) ?_;rintro v w' ⟨M,η',r',obs',n1,hle,_,⟨rfl,rfl,rfl⟩,hdom,hR,S'⟩;obtain rfl:=hR.t_inv;exact⟨M,hle,S',rfl⟩
def Bf (b6:ByteArray)(s1:(Unit)×Nat):Option ((Unit)×Nat):=Ad (Cw b6) fun x6=>if(!x6)=true then some ((),1)else some ((),0)
def A0 (a0:ByteArray)(a1:Int)(a2:Int):Option Bool:=Ad (if(decide ((a0.size:Int)>a2))=true then some true else Ad (Dy a0 (⟨#[46]⟩:ByteArray)) fun x3=>some (decide (x3≥a1))) fun x2=>if x2=true then some false else Ad (EF a0 (⟨#[46]⟩:ByteArray)) fun x4=>Ad (A1 (fun(s:(Unit)×Nat) (b0:ByteArray)=>if s.2=0 then Ad (Bf b0 s) fun y=>some (y.2==0,y)else none) x4.1 x4.2.1 x4.2.2 ((),0)) fun x5=>if(x5.2.2.2).2=0 then some true else some false
theorem Oa {m:Mem}{As:List Ow}{w:World}{a0:ByteArray}{a1:Int}{a2:Int}{r:Bool}(S:St m (As) w)(hm:A0 a0 a1 a2=some r):
  Az Tryz.prog 84 #[vS a0,vI a1,vI a2] w fun v w'=> ∃(M:Mem),m≤M∧St M (As) w'∧v=vb r:=by
 unfold A0 at hm;have L0:=Mem.rfl' m;refine Co (args:=[vS a0,vI a1,vI a2]) Tryz.func84 rfl Tryz.ntmps84 (Nat.le_of_ble_eq_true rfl) ?_;refine Af ?_;refine Ac ?_;refine EC S Tryz.zeroValue4 ?_;intro b1 w1 S1;replace S1:St _ ((bx b1 [vb false] 4)::As) _:=S1;clear S;refine Ag ?_;refine nrm ?_;refine Af ?_;refine Af ?_;refine Ac ?_;refine Ap (v:=vS a0) rfl ?_;refine OB (s:=a0) rfl Tryz.underlying9 ?_;refine Ap (v:=vI a2) rfl ?_;refine Rx (m:=(a0.size:Int)) (n:=a2) rfl rfl ?_;refine Ap (v:=vb (decide ((a0.size:Int)>a2))) rfl ?_;obtain⟨x2,q2,hm⟩:=Aa hm;have L1:=Mem.rfl' m;refine MH 5 [13,14,15,16,17] (fun f' w'=> ∃(M1:Mem),m≤M1∧St M1 ((bx b1 [vb false] 4)::As) w'∧B5 f' [(17,vb x2)]) ?_ ?_
 ·rcases NU (decide ((a0.size:Int)>a2))with hb1|hb1
  ·replace q2:=ifT hb1 q2;refine E5 (d:=12) rfl rfl (congrArg Value.bool hb1) ?_;refine E5 (d:=12) rfl rfl (congrArg Value.bool hb1) ?_;refine E5 (d:=12) rfl rfl (congrArg Value.bool hb1) ?_;refine E5 (d:=12) rfl rfl (congrArg Value.bool hb1) ?_;refine Hc (congrArg Value.bool hb1) rfl ?_;refine Ag (nrm ?_);have e0:=Option.some.inj q2;subst e0;exact⟨Fl,m,L1,S1,⟨rfl,trivial⟩⟩
  replace q2:=ifF hb1 q2;refine Ec (d:=12) rfl rfl (congrArg Value.bool hb1) ?_;refine Ap (v:=vS a0) rfl ?_;refine Ec (d:=12) rfl rfl (congrArg Value.bool hb1) ?_;obtain⟨x3,q3,q2⟩:=Aa q2;refine CJ Tryz.call139 (KD (a0:=a0) (a1:=(⟨#[46]⟩:ByteArray)) S1 q3) rfl ?_;rintro _ w3 ⟨m2,l2,S3,rfl⟩;replace L1:=Mem.tr L1 l2;clear S1;replace S3:St _ ((bx b1 [vb false] 4)::As) _:=S3;refine Ec (d:=12) rfl rfl (congrArg Value.bool hb1) ?_;refine Ap (v:=vI a1) rfl ?_;refine Ec (d:=12) rfl rfl (congrArg Value.bool hb1) ?_;refine Xv (m:=x3) (n:=a1) rfl rfl ?_;refine Hd (congrArg Value.bool hb1) rfl ?_;refine Ag (nrm ?_);have e0:=Option.some.inj q2;subst e0;exact⟨Fl,m2,L1,S3,⟨rfl,trivial⟩⟩
 rintro f1 w4 ho ⟨m3,l3,S4,ha⟩;obtain⟨u1,rfl⟩:=BP (N:=24) ho ha;replace L0:=Mem.tr L0 l3;clear S1;refine Ag ?_;refine nrm ?_;refine B3 (t:=x2) rfl (fun hc1=> ?_) (fun hc1=> ?_)
 ·replace hm:=ifT hc1 hm;refine Af ?_;refine Ac ?_;refine Hb (i:=0) S4 rfl rfl rfl Tryz.sizeOf4 (H0 rfl KV) rfl ?_;intro w5 S5;replace S5:St _ ((bx b1 [vb false] 4)::As) _:=S5;clear S4;refine Ag ?_;refine nrm ?_;refine Bl ?_;refine thR ?_;refine Dx ?_;intro we hpd;replace S5:=St.pd S5 hpd;have SR:=S5;obtain⟨m4,l4,S6⟩:=St.drop S5 0;replace L0:=Mem.tr L0 l4;replace S6:St _ (As) _:=S6;have e0:=Option.some.inj hm;subst e0;exact G4 [_] rfl ⟨Hf (i:=0) (off:=0) (cs:=[vb false]) SR rfl rfl Tryz.isAgg4 Tryz.sizeOf4 rfl (fun _=>rfl),trivial⟩ ⟨_,L0,S6,rfl⟩
 replace hm:=ifF hc1 hm;refine A7 ?_;refine nrm ?_;refine Af ?_;refine Af ?_;refine Ac ?_;refine Ap (v:=vS a0) rfl ?_;obtain⟨x4,q4,hm⟩:=Aa hm;refine CJ Tryz.call140 (IB (a0:=a0) (a1:=(⟨#[46]⟩:ByteArray)) S4 q4) rfl ?_;rintro _ w6 ⟨m5,l5,b2,b3,b4,S7,rfl⟩;replace L0:=Mem.tr L0 l5;clear S4;replace S7:St _ ((bx b2 [vS x4.1] 9)::(bx b3 [vS x4.2.1] 9)::(bx b4 [vI x4.2.2] 3)::(bx b1 [vb false] 4)::As) _:=S7;refine Ag ?_;refine nrm ?_;refine AA ?_;obtain⟨x5,q5,hm⟩:=Aa hm;refine Ew S7 rfl Tryz.call212 ?_;intro lp1 rip2 w7 h1 S8;replace S8:St _ ((Lp lp1 rip2 .ready none)::(bx b2 [vS x4.1] 9)::(bx b3 [vS x4.2.1] 9)::(bx b4 [vI x4.2.2] 3)::(bx b1 [vb false] 4)::As) _:=S8;clear S7;have S9:St _ ((bx b2 [vS x4.1] 9)::(bx b3 [vS x4.2.1] 9)::(bx b4 [vI x4.2.2] 3)::(Lp lp1 rip2 .ready none)::(bx b1 [vb false] 4)::As) _:=St.perm S8 (List.Perm.trans (List.Perm.swap _ _ _) (List.Perm.trans (List.Perm.cons _ (List.Perm.swap _ _ _)) (List.Perm.cons _ (List.Perm.cons _ (List.Perm.swap _ _ _)))));clear S8;have hcb1: ∀{m':Mem} {As':List Ow} {w':World} {s:(Unit)×Nat} {X:List Ow} {b0:ByteArray} {r:Bool×((Unit)×Nat)},St m' (X++As') w'→(m5≤m'∧(((s).2=0∧X=Lp lp1 rip2 .ready none::(bx b1 [vb false] 4)::[])∨((s).2=1∧X=Lp lp1 rip2 .done (some .ret)::(bx b1 [vb false] 4)::[])))→(fun(s:(Unit)×Nat) (b0:ByteArray)=>if s.2=0 then Ad (Bf b0 s) fun y=>some (y.2==0,y)else none) s b0=some r→Dt Tryz.prog (.func (.yield lp1) #[] #[]) [vS b0] w' fun v w''=> ∃(M:Mem) (X':List Ow),m'≤M∧St M (X'++As') w''∧(m5≤M∧(((r.2).2=0∧X'=Lp lp1 rip2 .ready none::(bx b1 [vb false] 4)::[])∨((r.2).2=1∧X'=Lp lp1 rip2 .done (some .ret)::(bx b1 [vb false] 4)::[])))∧v=vb r.1:=by
  intro m6 As1 w8 s1 X1 b6 r1 S10 h2 hm1;obtain⟨L3,h3⟩:=h2;rcases h3 with ⟨hj1,rfl⟩|⟨hj1,rfl⟩
  ·try dsimp only at hm1
   rw[if_pos hj1]at hm1;obtain⟨y1,q6,hm1⟩:=Aa hm1;cases hm1;unfold Bf at q6;replace S10:St _ ((Lp lp1 rip2 .ready none)::(bx b1 [vb false] 4)::As1) _:=S10;have L2:=Mem.rfl' m6;refine Dt.round h1 rfl S10 ?_;refine Ac ?_;refine Bb (v:=vS b6) rfl ?_;refine Ag ?_;refine nrm ?_;refine⟨_,_,S10,?_⟩;intro w9 S11;clear S10;replace S11:St _ ((Lp lp1 rip2 .busy none)::(bx b1 [vb false] 4)::As1) _:=S11;refine AA ?_;refine Af ?_;refine Ac ?_;refine Ap (v:=vS b6) rfl ?_;obtain⟨x6,q7,q6⟩:=Aa q6;refine CJ Tryz.call141 (M7 (a0:=b6) S11 q7) rfl ?_;rintro _ w10 ⟨m7,l6,S12,rfl⟩;replace L2:=Mem.tr L2 l6;clear S11;replace S12:St _ ((Lp lp1 rip2 .busy none)::(bx b1 [vb false] 4)::As1) _:=S12;refine Ps rfl ?_;refine Ag ?_;refine nrm ?_;refine B3 (t:=(!x6)) rfl (fun hc2=> ?_) (fun hc2=> ?_)
   ·replace q6:=ifT hc2 q6;refine Af ?_;refine Ac ?_;refine Hb (i:=1) S12 rfl rfl rfl Tryz.sizeOf4 (H0 rfl KV) rfl ?_;intro w11 S13;replace S13:St _ ((Lp lp1 rip2 .busy none)::(bx b1 [vb false] 4)::As1) _:=S13;clear S12;refine Ag ?_;refine nrm ?_;refine Bl ?_;refine blR ?_;refine⟨_,_,S13,?_⟩;intro w12 S14;have e0:=Option.some.inj q6;subst e0;exact⟨_,Lp lp1 rip2 .done (some .ret)::(bx b1 [vb false] 4)::[],L2,S14,⟨Mem.tr L3 L2,.inr (⟨rfl,rfl⟩)⟩,rfl⟩
   replace q6:=ifF hc2 q6;refine A7 ?_;refine J9 ?_;refine⟨_,_,S12,?_⟩;intro w13 S15;have e0:=Option.some.inj q6;subst e0;exact⟨_,Lp lp1 rip2 .ready none::(bx b1 [vb false] 4)::[],L2,S15,⟨Mem.tr L3 L2,.inl ⟨rfl,rfl⟩⟩,rfl⟩
  ·try dsimp only at hm1
   rw[if_neg (by rw[hj1]; decide)]at hm1;cases hm1
 refine Az.mono (Ig (p0:=(fun(s:(Unit)×Nat) (b0:ByteArray)=>if s.2=0 then Ad (Bf b0 s) fun y=>some (y.2==0,y)else none)) (k0:=x4.1) (k1:=x4.2.1) (k2:=x4.2.2) (s0:=((),0)) (R:=(fun(s:(Unit)×Nat) (M:Mem) (X:List Ow)=>(m5≤M∧(((s).2=0∧X=Lp lp1 rip2 .ready none::(bx b1 [vb false] 4)::[])∨((s).2=1∧X=Lp lp1 rip2 .done (some .ret)::(bx b1 [vb false] 4)::[]))))) (X0:=((Lp lp1 rip2 .ready none)::(bx b1 [vb false] 4)::[])) (As:=As) S9 (fun l h=>by obtain⟨Lm,e⟩:=h; exact⟨Mem.tr Lm l,e⟩) ⟨Mem.rfl' _,.inl ⟨rfl,rfl⟩⟩ @hcb1 rfl q5) ?_;rintro _ w14 ⟨m8,l7,X2,S16,rfl,⟨L4,h4⟩⟩;rcases h4 with ⟨hj2,rfl⟩|⟨hj2,rfl⟩
 ·rw[if_pos hj2]at hm;replace S16:St _ ((bx b2 [vS x5.1] 9)::(bx b3 [vS x5.2.1] 9)::(bx b4 [vI x5.2.2.1] 3)::(Lp lp1 rip2 .ready none)::(bx b1 [vb false] 4)::As) _:=S16;have S17:St _ ((Lp lp1 rip2 .ready none)::(bx b2 [vS x5.1] 9)::(bx b3 [vS x5.2.1] 9)::(bx b4 [vI x5.2.2.1] 3)::(bx b1 [vb false] 4)::As) _:=St.perm S16 (List.Perm.trans (List.Perm.cons _ (List.Perm.cons _ (List.Perm.swap _ _ _))) (List.Perm.trans (List.Perm.cons _ (List.Perm.swap _ _ _)) (List.Perm.swap _ _ _)));clear S16;refine⟨_,.ready,none,_,l7,(fun h=>by cases h),S17,?_⟩;intro m9 w15 l8 S18;have l9:=Mem.tr l7 l8;replace L0:=Mem.tr L0 l9;replace S18:St _ ((bx b2 [vS x5.1] 9)::(bx b3 [vS x5.2.1] 9)::(bx b4 [vI x5.2.2.1] 3)::(bx b1 [vb false] 4)::As) _:=S18;refine J9 ?_;refine nrm ?_;refine Af ?_;refine Ac ?_;refine Hb (i:=3) S18 rfl rfl rfl Tryz.sizeOf4 (H0 rfl KV) rfl ?_;intro w16 S19;replace S19:St _ ((bx b2 [vS x5.1] 9)::(bx b3 [vS x5.2.1] 9)::(bx b4 [vI x5.2.2.1] 3)::(bx b1 [vb true] 4)::As) _:=S19;clear S18;refine Ag ?_;refine nrm ?_;refine Bl ?_;refine Dx ?_;intro we hpd;replace S19:=St.pd S19 hpd;have SR:=S19;obtain⟨m10,l10,S20⟩:=St.drop S19 0;replace L0:=Mem.tr L0 l10;replace S20:St _ ((bx b3 [vS x5.2.1] 9)::(bx b4 [vI x5.2.2.1] 3)::(bx b1 [vb true] 4)::As) _:=S20;obtain⟨m11,l11,S21⟩:=St.drop S20 0;replace L0:=Mem.tr L0 l11;clear S20;replace S21:St _ ((bx b4 [vI x5.2.2.1] 3)::(bx b1 [vb true] 4)::As) _:=S21;obtain⟨m12,l12,S22⟩:=St.drop S21 0;replace L0:=Mem.tr L0 l12;clear S21;replace S22:St _ ((bx b1 [vb true] 4)::As) _:=S22;obtain⟨m13,l13,S23⟩:=St.drop S22 0;replace L0:=Mem.tr L0 l13;clear S22;replace S23:St _ (As) _:=S23;have e0:=Option.some.inj hm;subst e0;exact G4 [_] rfl ⟨Hf (i:=3) (off:=0) (cs:=[vb true]) SR rfl rfl Tryz.isAgg4 Tryz.sizeOf4 rfl (fun _=>rfl),trivial⟩ ⟨_,L0,S23,rfl⟩
 ·rw[if_neg (show¬(x5.2.2.2).2=0 by rw[hj2]; decide)]at hm;replace S16:St _ ((bx b2 [vS x5.1] 9)::(bx b3 [vS x5.2.1] 9)::(bx b4 [vI x5.2.2.1] 3)::(Lp lp1 rip2 .done (some .ret))::(bx b1 [vb false] 4)::As) _:=S16;have S24:St _ ((Lp lp1 rip2 .done (some .ret))::(bx b2 [vS x5.1] 9)::(bx b3 [vS x5.2.1] 9)::(bx b4 [vI x5.2.2.1] 3)::(bx b1 [vb false] 4)::As) _:=St.perm S16 (List.Perm.trans (List.Perm.cons _ (List.Perm.cons _ (List.Perm.swap _ _ _))) (List.Perm.trans (List.Perm.cons _ (List.Perm.swap _ _ _)) (List.Perm.swap _ _ _)));clear S16;refine⟨_,.done,(some .ret),_,l7,(fun h=>by cases h),S24,?_⟩;intro m14 w17 l14 S25;have l15:=Mem.tr l7 l14;replace L0:=Mem.tr L0 l15;replace S25:St _ ((bx b2 [vS x5.1] 9)::(bx b3 [vS x5.2.1] 9)::(bx b4 [vI x5.2.2.1] 3)::(bx b1 [vb false] 4)::As) _:=S25;refine Bl ?_;refine blR ?_;refine thR ?_;refine Dx ?_;intro we hpd;replace S25:=St.pd S25 hpd;have SR:=S25;obtain⟨m15,l16,S26⟩:=St.drop S25 0;replace L0:=Mem.tr L0 l16;replace S26:St _ ((bx b3 [vS x5.2.1] 9)::(bx b4 [vI x5.2.2.1] 3)::(bx b1 [vb false] 4)::As) _:=S26;obtain⟨m16,l17,S27⟩:=St.drop S26 0;replace L0:=Mem.tr L0 l17;clear S26;replace S27:St _ ((bx b4 [vI x5.2.2.1] 3)::(bx b1 [vb false] 4)::As) _:=S27;obtain⟨m17,l18,S28⟩:=St.drop S27 0;replace L0:=Mem.tr L0 l18;clear S27;replace S28:St _ ((bx b1 [vb false] 4)::As) _:=S28;obtain⟨m18,l19,S29⟩:=St.drop S28 0;replace L0:=Mem.tr L0 l19;clear S28;replace S29:St _ (As) _:=S29;have e0:=Option.some.inj hm;subst e0;exact G4 [_] rfl ⟨Hf (i:=3) (off:=0) (cs:=[vb false]) SR rfl rfl Tryz.isAgg4 Tryz.sizeOf4 rfl (fun _=>rfl),trivial⟩ ⟨_,L0,S29,rfl⟩
theorem JH {a0:ByteArray}{a1:Int}{a2:Int}{r:Bool}(hm:A0 a0 a1 a2=some r):Sf prog 84 [.d (.s a0),.d (.i a1),.d (.i a2)] (.d (.t r)):=
 ⟨call84,fun η m As w vs hv0 hd S=>by
  have S:St m As w:=S;obtain⟨v0,u0,rfl,r0,hv1⟩:=Bj.cons_inv hv0;obtain rfl:=r0.s_inv;obtain⟨v1,u1,rfl,r1,hv2⟩:=Bj.cons_inv hv1;obtain rfl:=r1.i_inv;obtain⟨v2,u2,rfl,r2,hv3⟩:=Bj.cons_inv hv2;obtain rfl:=r2.i_inv;obtain rfl:=Bj.nil_inv hv3;refine Az.mono (Oa S hm) ?_;rintro v w' ⟨M,hle,S0,rfl⟩;exact⟨M,none0,_,_,_,hle,RM hd _,⟨rfl,rfl,rfl⟩,fun n h=>absurd rfl h,(.d (.t _)),S0⟩⟩
def BY (a0:ByteArray):Option Bool:=Ad (A0 a0 8 64) fun x1=>some x1
theorem HX {a0:ByteArray}{r:Bool}(hm:BY a0=some r):Sf prog 46 [.d (.s a0)] (.d (.t r)):=
 sp call46 func46 rfl ntmps46 rfl fun D0 As η0 m0 hd=>by
  unfold BY at hm;obtain⟨x1,q1,hm⟩:=Aa hm;refine gc (fun _=>JH q1) ?_;have e0:=Option.some.inj hm;subst e0;exact AO hd
def BD (a0:ByteArray):Option Int:=Ad (BY a0) fun x1=>Ad (CQ x1) fun x2=>some x2
theorem G6 {a0:ByteArray}{r:Int}(hm:BD a0=some r):Sf prog 19 [.d (.s a0)] (.d (.i r)):=
 sp call19 func19 rfl ntmps19 rfl fun D0 As η0 m0 hd=>by
  unfold BD at hm;obtain⟨x1,q1,hm⟩:=Aa hm;refine gc (fun _=>HX q1) ?_;obtain⟨x2,q2,hm⟩:=Aa hm;refine gc (fun _=>Jy q2) ?_;have e0:=Option.some.inj hm;subst e0;exact AO hd
def Cy (a0:Int):Option Bool:=bnd (((decide (a0≥0))&&(decide (a0≤1099511627776)))) fun x1=>some x1
theorem Ez {a0:Int}{r:Bool}(hm:Cy a0=some r):Sf prog 93 [.d (.i a0)] (.d (.t r)):=
 sp call93 func93 rfl ntmps93 rfl fun D0 As η0 m0 hd=>by
  unfold Cy at hm;have hm:=Ba hm;let x1:Bool:=(((decide (a0≥0))&&(decide (a0≤1099511627776))));have e0:=Option.some.inj hm;subst e0;exact AO hd
def DV (a0:g_api_Sig):Option Bool:=bnd ((decide (((KY a0.E a0.S).toNat:Int)<1152921504606845789))) fun x1=>some x1
theorem II {a0:g_api_Sig}{r:Bool}(hm:DV a0=some r):Sf prog 95 [ag (HS a0)] (.d (.t r)):=
 sp call95 func95 rfl ntmps95 rfl fun D0 As η0 m0 hd=>by
  unfold DV at hm;have hm:=Ba hm;let x1:Bool:=((decide (((KY a0.E a0.S).toNat:Int)<1152921504606845789)));have e0:=Option.some.inj hm;subst e0;exact AO hd
def AI (a0:List UInt64)(s1:UInt64×Int):Option ((UInt64×Int)⊕(UInt64)):=if(decide (s1.2<(a0.length:Int)))=true then Ad (idx a0 s1.2) fun x6=>some (.inl ((KY s1.1 x6),(w64 (s1.2+1))))else some (.inr s1.1)
def Bt (a0:List UInt64):Option UInt64:=Ad (if(decide ((a0.length:Int)<1))=true then none else some ()) fun x1=>Ad (idx a0 0) fun x2=>Ad (Ad (iter (AI a0) E4 (x2,1)) fun x4=>some x4) fun x3=>some x3
theorem Gh {a0:List UInt64}{r:UInt64}(hm:Bt a0=some r):Sf prog 146 [sl eU a0] (.d (.u r)):=
 sp call146 func146 rfl ntmps146 rfl fun D0 As η0 m0 hd=>by
  unfold Bt at hm;obtain⟨x1,q1,hm⟩:=Aa hm;refine gj (fun(_:Unit)=>⟨[(0,sl eU a0)],[],[],0⟩) (fun _=>True) (fun Jp bk1=> ?_) fun _ _=> ?_
  ·refine gi q1 (fun hc1 q1=> ?_) fun hc1 q1=> ?_
   ·cases q1
   have e0:=Option.some.inj q1;subst e0;exact gb bk1 hd () trivial
  obtain⟨x2,q2,hm⟩:=Aa hm;refine Hs (k:=1) (E:=eU) (fun _=>rfl) (fun _=>q2) ?_;obtain⟨x3,q3,hm⟩:=Aa hm;obtain⟨x4,q4,q3⟩:=Aa q3;refine gjU 0 (fun(_:Unit)=>⟨[(3,.d (.u x3))],[],[],0⟩) (fun _=>True) (fun Jp bk2=> ?_) fun _ _=> ?_
  ·refine gjU 0 (fun(_:Unit)=>⟨[(3,.d (.u x4))],[],[],0⟩) (fun _=>True) (fun Jp bk3=> ?_) fun _ _=> ?_
   ·refine gl hd (fun(p:Nat×(UInt64×Int))=>let (p0,p_0,p_1):=p; ⟨[(0,sl eU a0),(3,.d (.u p_0)),(4,.d (.i p_1))],[],[],0⟩) (fun p=>iter (AI a0) p.1 p.2=some x4) (fun p=>p.1) (E4,(x2,1)) q4 ?_;rintro⟨n1,s1⟩ q5 Jl bl1;cases n1 with
    |zero=>exact(BK q5).elim
    |succ n1=>
     obtain⟨y1,q7,q6⟩:=BE q5;unfold AI at q7;refine gi q7 (fun hc2 q7=> ?_) fun hc2 q7=> ?_
     ·skip;obtain⟨x6,q9,q7⟩:=Aa q7;refine Hs (k:=1) (E:=eU) (fun _=>rfl) (fun _=>q9) ?_;have e0:=Option.some.inj q7;subst e0;rcases q6 with ⟨sn,e,q6'⟩|e
      ·have e:=Sum.inl.inj e;subst e;exact gb bl1 hd (n1,_) ⟨q6',Nat.lt_succ_self _⟩
      cases B4 e
     have e0:=Option.some.inj q7;subst e0;rcases q6 with ⟨sn,e,_⟩|e
     ·cases GN e
     have e:=Sum.inr.inj e;subst e;exact gb bk3 hd () trivial
   have e0:=Option.some.inj q3;subst e0;exact gb bk2 hd () trivial
  have e0:=Option.some.inj hm;subst e0;exact AO hd
def DE (a0:g_api_Promise):Option Bool:=Ad (Cy a0.Log) fun x1=>Ad (gu x1 (Cy a0.At)) fun x2=>Ad (gu (x1&&x2) (Bt ([a0.Leaf.1,a0.Leaf.2]:List UInt64))) fun x3=>Ad (gu ((x1&&x2)&&(decide ((x3.toNat:Int)<2305843009213693951))) (DV a0.Sig)) fun x4=>bnd ((((x1&&x2)&&(decide ((x3.toNat:Int)<2305843009213693951)))&&x4)) fun x5=>some x5
theorem Kx {a0:g_api_Promise}{r:Bool}(hm:DE a0=some r):Sf prog 92 [ag (Ak a0)] (.d (.t r)):=
 sp call92 func92 rfl ntmps92 rfl fun D0 As η0 m0 hd=>by
  unfold DE at hm;refine PZ 1 [.i a0.Log,.i a0.At,.u a0.Leaf.1,.u a0.Leaf.2,.u a0.Sig.E,.u a0.Sig.S] ?_;obtain⟨x1,q1,hm⟩:=Aa hm;refine gc (fun _=>Ez q1) ?_;obtain⟨x2,q2,hm⟩:=Aa hm;refine gcG (fun h=>Ez (G5 h q2)) ?_;refine gslM (k:=1) (E:=eU) ([a0.Leaf.1,a0.Leaf.2]:List UInt64) (fun _=>rfl) ?_;obtain⟨x3,q3,hm⟩:=Aa hm;refine gcG (fun h=>Gh (G5 h q3)) ?_;obtain⟨x4,q4,hm⟩:=Aa hm;refine gcG (fun h=>II (G5 h q4)) ?_;have hm:=Ba hm;let x5:Bool:=((((x1&&x2)&&(decide ((x3.toNat:Int)<2305843009213693951)))&&x4));have e0:=Option.some.inj hm;subst e0;exact AO hd
def FK (a0:Int):Option Bool:=bnd (((decide (a0≤32))||(decide (a0>126)))) fun x1=>some x1
theorem MX {a0:Int}{r:Bool}(hm:FK a0=some r):Sf prog 147 [.d (.r a0)] (.d (.t r)):=
 sp call147 func147 rfl ntmps147 rfl fun D0 As η0 m0 hd=>by
  unfold FK at hm;have hm:=Ba hm;let x1:Bool:=(((decide (a0≤32))||(decide (a0>126))));have e0:=Option.some.inj hm;subst e0;exact AO hd
def Bo (a0:ByteArray)(a2:Bool)(s1:Nat):Option ((Nat)⊕((Nat)⊕Int)):=if s1<a0.size then bnd (((Utf8.decode a0 s1).1:Int)) fun x3=>Ad (FK x3) fun x4=>if(x4==a2)=true then some (.inr (.inr (s1:Int)))else some (.inl (s1+(Utf8.decode a0 s1).2))else some (.inr (.inl s1))
def Bz (a0:ByteArray)(a2:Bool):Option Int:=Ad (iter (Bo a0 a2) E4 0) fun x1=>match x1 with| .inr r=>some r| .inl y1=>some (-1)
theorem GF {a0:ByteArray}{a2:Bool}{r:Int}(hm:Bz a0 a2=some r):Sf prog 214 [.d (.s a0),.fn (.func 147) [] [],.d (.t a2)] (.d (.i r)):=
 sp call214 func214 rfl ntmps214 rfl fun D0 As η0 m0 hd=>by
  unfold Bz at hm;refine grng a0 ?_;obtain⟨x1,q1,hm⟩:=Aa hm;refine gjU 0 (fun(y1:Nat)=>⟨[(10,.ow 0)],[(0,.hp 0 (.it a0 y1))],[],1⟩) (fun y1=>x1= .inl y1) (fun Jp bk1=> ?_) fun y1 hy=> ?_
  ·refine gl hd (fun(p:Nat×(Nat))=>let (p0,p_0):=p; ⟨[(1,.fn (.func 147) [] []),(2,.d (.t a2)),(10,.ow 0)],[(0,.hp 0 (.it a0 p_0))],[],1⟩) (fun p=>iter (Bo a0 a2) p.1 p.2=some x1) (fun p=>p.1) (E4,0) q1 ?_;rintro⟨n1,s1⟩ q2 Jl bl1;cases n1 with
   |zero=>exact(BK q2).elim
   |succ n1=>
    obtain⟨y2,q4,q3⟩:=BE q2;unfold Bo at q4;refine gnx q4 (fun hc1 q4=> ?_) fun hc1 q4=> ?_
    ·skip;refine gi' (b:=true) (fun _=> ?_) (fun h=>by cases h);have q4:=Ba q4;let x3:Int:=(((Utf8.decode a0 s1).1:Int));obtain⟨x4,q7,q4⟩:=Aa q4;refine gc (fun _=>MX q7) ?_;refine gi q4 (fun hc2 q4=> ?_) fun hc2 q4=> ?_
     ·skip;cases q4;rcases q3 with ⟨sn,e,_⟩|e
      ·cases e
      cases e;dsimp only at hm;have e0:=Option.some.inj hm;subst e0;exact AO hd
     have e0:=Option.some.inj q4;subst e0;rcases q3 with ⟨sn,e,q3'⟩|e
     ·have e:=Sum.inl.inj e;subst e;exact gb bl1 hd (n1,_) ⟨q3',Nat.lt_succ_self _⟩
     cases B4 e
    refine gi' (b:=false) (fun h=>by cases h) (fun _=> ?_);have e0:=Option.some.inj q4;subst e0;rcases q3 with ⟨sn,e,_⟩|e
    ·cases GN e
    have e:=Sum.inr.inj e;subst e;exact gb bk1 hd s1 rfl
  subst hy;dsimp only at hm;have e0:=Option.some.inj hm;subst e0;exact AO hd
def BW (a0:ByteArray):Option Int:=Ad (Bz a0 true) fun x1=>some x1
theorem GG {a0:ByteArray}{r:Int}(hm:BW a0=some r):Sf prog 192 [.d (.s a0),.fn (.func 147) [] []] (.d (.i r)):=
 sp call192 func192 rfl ntmps192 rfl fun D0 As η0 m0 hd=>by
  unfold BW at hm;obtain⟨x1,q1,hm⟩:=Aa hm;refine gc (fun _=>GF q1) ?_;have e0:=Option.some.inj hm;subst e0;exact AO hd
def BB (a0:ByteArray):Option Bool:=Ad (BW a0) fun x1=>some (decide (x1≥0))
theorem FY {a0:ByteArray}{r:Bool}(hm:BB a0=some r):Sf prog 148 [.d (.s a0),.fn (.func 147) [] []] (.d (.t r)):=
 sp call148 func148 rfl ntmps148 rfl fun D0 As η0 m0 hd=>by
  unfold BB at hm;obtain⟨x1,q1,hm⟩:=Aa hm;refine gc (fun _=>GG q1) ?_;have e0:=Option.some.inj hm;subst e0;exact AO hd
def CC (a0:ByteArray):Option Bool:=Ad (gu ((!eqS a0 (⟨#[]⟩:ByteArray))&&(decide ((a0.size:Int)≤64))) (BB a0)) fun x1=>bnd ((((!eqS a0 (⟨#[]⟩:ByteArray))&&(decide ((a0.size:Int)≤64)))&&(!x1))) fun x2=>some x2
theorem Kw {a0:ByteArray}{r:Bool}(hm:CC a0=some r):Sf prog 94 [.d (.s a0)] (.d (.t r)):=
 sp call94 func94 rfl ntmps94 rfl fun D0 As η0 m0 hd=>by
  unfold CC at hm;obtain⟨x1,q1,hm⟩:=Aa hm;refine gcG (fun h=>FY (G5 h q1)) ?_;have hm:=Ba hm;let x2:Bool:=((((!eqS a0 (⟨#[]⟩:ByteArray))&&(decide ((a0.size:Int)≤64)))&&(!x1)));have e0:=Option.some.inj hm;subst e0;exact AO hd
def AB (a0:ByteArray)(a1:ByteArray):Option Bool:=Ad (gu (decide ((a0.size:Int)≥(a1.size:Int))) (Ly a0 0 (a1.size:Int))) fun x1=>bnd (((decide ((a0.size:Int)≥(a1.size:Int)))&&(eqS x1 a1))) fun x2=>some x2
theorem E0 {a0:ByteArray}{a1:ByteArray}{r:Bool}(hm:AB a0 a1=some r):Sf prog 209 [.d (.s a0),.d (.s a1)] (.d (.t r)):=
 sp call209 func209 rfl ntmps209 rfl fun D0 As η0 m0 hd=>by
  unfold AB at hm;obtain⟨x1,q1,hm⟩:=Aa hm;refine gcutSG (fun h=>G5 h q1) ?_;have hm:=Ba hm;let x2:Bool:=(((decide ((a0.size:Int)≥(a1.size:Int)))&&(eqS x1 a1)));have e0:=Option.some.inj hm;subst e0;exact AO hd
def AD (a0:ByteArray)(a1:ByteArray):Option (ByteArray×Bool):=Ad (AB a0 a1) fun x1=>if(!x1)=true then some (a0,false)else Ad (Ly a0 (a1.size:Int) (a0.size:Int)) fun x2=>some (x2,true)
theorem E1 {a0:ByteArray}{a1:ByteArray}{r:ByteArray×Bool}(hm:AD a0 a1=some r):Sf prog 182 [.d (.s a0),.d (.s a1)] (.tup [.d (.s r.1),.d (.t r.2)]):=
 sp call182 func182 rfl ntmps182 rfl fun D0 As η0 m0 hd=>by
  unfold AD at hm;obtain⟨x1,q1,hm⟩:=Aa hm;refine gc (fun _=>E0 q1) ?_;refine gi hm (fun hc1 hm=> ?_) fun hc1 hm=> ?_
  ·skip;have e0:=Option.some.inj hm;subst e0;exact AO hd
  obtain⟨x2,q2,hm⟩:=Aa hm;refine VP (fun _=>q2) ?_;have e0:=Option.some.inj hm;subst e0;exact AO hd
def Bd (a0:ByteArray)(a1:ByteArray):Option (ByteArray×Bool):=Ad (AD a0 a1) fun x1=>some (x1.1,x1.2)
theorem Il {a0:ByteArray}{a1:ByteArray}{r:ByteArray×Bool}(hm:Bd a0 a1=some r):Sf prog 137 [.d (.s a0),.d (.s a1)] (.tup [.d (.s r.1),.d (.t r.2)]):=
 sp call137 func137 rfl ntmps137 rfl fun D0 As η0 m0 hd=>by
  unfold Bd at hm;obtain⟨x1,q1,hm⟩:=Aa hm;refine gc (fun _=>E1 q1) ?_;have e0:=Option.some.inj hm;subst e0;exact AO hd
def BC (a0:ByteArray):Option (ByteArray×Bool×Bool):=Ad (BY a0) fun x1=>if x1=true then some (a0,false,true)else Ad (Bd a0 (⟨#[42,46]⟩:ByteArray)) fun x2=>Ad (gu x2.2 (A0 x2.1 7 62)) fun x3=>some (x2.1,x2.2,(x2.2&&x3))
theorem Ht {a0:ByteArray}{r:ByteArray×Bool×Bool}(hm:BC a0=some r):Sf prog 82 [.d (.s a0)] (.tup [.d (.s r.1),.d (.t r.2.1),.d (.t r.2.2)]):=
 sp call82 func82 rfl ntmps82 rfl fun D0 As η0 m0 hd=>by
  unfold BC at hm;obtain⟨x1,q1,hm⟩:=Aa hm;refine gc (fun _=>HX q1) ?_;refine gi hm (fun hc1 hm=> ?_) fun hc1 hm=> ?_
  ·skip;have e0:=Option.some.inj hm;subst e0;exact AO hd
  obtain⟨x2,q2,hm⟩:=Aa hm;refine gc (fun _=>Il q2) ?_;obtain⟨x3,q3,hm⟩:=Aa hm;refine gcG (fun h=>JH (G5 h q3)) ?_;have e0:=Option.some.inj hm;subst e0;exact AO hd
def Bx (a0:ByteArray):Option Int:=Ad (BC a0) fun x1=>Ad (CQ x1.2.2) fun x2=>some x2
theorem Kp {a0:ByteArray}{r:Int}(hm:Bx a0=some r):Sf prog 97 [.d (.s a0)] (.d (.i r)):=
 sp call97 func97 rfl ntmps97 rfl fun D0 As η0 m0 hd=>by
  unfold Bx at hm;obtain⟨x1,q1,hm⟩:=Aa hm;refine gc (fun _=>Ht q1) ?_;obtain⟨x2,q2,hm⟩:=Aa hm;refine gc (fun _=>Jy q2) ?_;have e0:=Option.some.inj hm;subst e0;exact AO hd
def Dp (i1:Int)(x2:ByteArray)(s1:(List (ByteArray×Bool))):Option (((List (ByteArray×Bool)))⊕Bool):=Ad (gu (!(lkB s1 x2)) (Bx x2)) fun x3=>if((lkB s1 x2)||(x3 !=0))=true then some (.inr false)else if(lkI s1 x2 0).isNone=true then some (.inl (s1++[(x2,true)]))else none
def DF (a0:List ByteArray)(a1:Int)(a2:Int):Option Bool:=Ad (DX Dp a0 0 ([]:List (ByteArray×Bool))) fun x1=>match x1 with| .inr r=>some r| .inl y1=>bnd (((decide ((a0.length:Int)≥a1))&&(decide ((a0.length:Int)≤a2)))) fun x4=>some x4
theorem Ky {a0:List ByteArray}{a1:Int}{a2:Int}{r:Bool}(hm:DF a0 a1 a2=some r):Sf prog 96 [sl eS a0,.d (.i a1),.d (.i a2),.fn (.func 97) [] []] (.d (.t r)):=
 sp call96 func96 rfl ntmps96 rfl fun D0 As η0 m0 hd=>by
  unfold DF at hm;refine gmkm ?_;obtain⟨x1,q1,hm⟩:=Aa hm;refine Mq 0 (E:=eS) (xs:=a0) 13 fun hle1=> ?_;refine gjU 0 (fun(y1:(List (ByteArray×Bool)))=>⟨[(0,sl eS a0),(1,.d (.i a1)),(2,.d (.i a2)),(12,.ow 0)],[(0,.hp 0 (.mp y1))],[],1⟩) (fun y1=>x1= .inl y1) (fun Jp bk1=> ?_) fun y1 hy=> ?_
  ·refine gl hd (fun(p:Int×((List (ByteArray×Bool))))=>let (p0,p_0):=p; ⟨[(0,sl eS a0),(1,.d (.i a1)),(2,.d (.i a2)),(3,.fn (.func 97) [] []),(9,.ow 0),(13,sl eS a0),(14,.d (.i (a0.length:Int))),(15,.d (.i p0)),(12,.ow 0)],[(0,.hp 0 (.mp p_0))],[],1⟩) (fun p=> ∃i:Nat,p.1=(i:Int)∧i≤a0.length∧DX Dp (a0.drop i) (i:Int) p.2=some x1) (fun p=>a0.length-p.1.toNat) (0,([]:List (ByteArray×Bool))) ⟨0,rfl,Nat.zero_le _,q1⟩ ?_;rintro⟨_,s1⟩ ⟨i1,rfl,hi,q2⟩ Jl bl1;refine gi' (b:=decide ((i1:Int)<(a0.length:Int))) (fun hc2=> ?_) fun hc2=> ?_
   ·have hlt1:i1<a0.length:=by have:=of_decide_eq_true hc2; omega
    obtain⟨x2,y2,q5,q4,q3⟩:=Gy q2 hlt1;unfold Dp at q4;refine Hs (k:=1) (E:=eS) (fun _=>rfl) (fun _=>q5) ?_;refine glk s1 x2 ?_;obtain⟨x3,q6,q4⟩:=Aa q4;refine gcG (fun h=>Kp (G5 h q6)) ?_;refine gi q4 (fun hc1 q4=> ?_) fun hc1 q4=> ?_
    ·skip;cases q4;rcases q3 with ⟨sn,e,_⟩|⟨tn,e,e2⟩
     ·cases e
     cases e;cases e2;dsimp only at hm;have e0:=Option.some.inj hm;subst e0;exact AO hd
    obtain⟨q7,q4⟩:=B2 q4;refine gup q7 ?_;have e0:=Option.some.inj q4;subst e0;rcases q3 with ⟨sn,e,q3'⟩|⟨tn,e,_⟩
    ·have e:=Sum.inl.inj e;subst e;exact gb bl1 hd (w64 ((i1:Int)+1),_) ⟨⟨i1+1,Bc hlt1 hle1,by omega,q3'⟩,Gl hlt1 hle1⟩
    cases B4 e
   have hlt1: ¬i1<a0.length:=by have:=of_decide_eq_false hc2; omega
   have e:=Fu q2 hlt1;cases e;exact gb bk1 hd _ rfl
  subst hy;dsimp only at hm;have hm:=Ba hm;let x4:Bool:=(((decide ((a0.length:Int)≥a1))&&(decide ((a0.length:Int)≤a2))));have e0:=Option.some.inj hm;subst e0;exact AO hd
def Dq (i1:Int)(x2:ByteArray)(s1:(List (ByteArray×Bool))):Option (((List (ByteArray×Bool)))⊕Bool):=Ad (gu (!(lkB s1 x2)) (BD x2)) fun x3=>if((lkB s1 x2)||(x3 !=0))=true then some (.inr false)else if(lkI s1 x2 0).isNone=true then some (.inl (s1++[(x2,true)]))else none
def DG (a0:List ByteArray)(a1:Int)(a2:Int):Option Bool:=Ad (DX Dq a0 0 ([]:List (ByteArray×Bool))) fun x1=>match x1 with| .inr r=>some r| .inl y1=>bnd (((decide ((a0.length:Int)≥a1))&&(decide ((a0.length:Int)≤a2)))) fun x4=>some x4
theorem Kz {a0:List ByteArray}{a1:Int}{a2:Int}{r:Bool}(hm:DG a0 a1 a2=some r):Sf prog 96 [sl eS a0,.d (.i a1),.d (.i a2),.fn (.func 19) [] []] (.d (.t r)):=
 sp call96 func96 rfl ntmps96 rfl fun D0 As η0 m0 hd=>by
  unfold DG at hm;refine gmkm ?_;obtain⟨x1,q1,hm⟩:=Aa hm;refine Mq 0 (E:=eS) (xs:=a0) 13 fun hle1=> ?_;refine gjU 0 (fun(y1:(List (ByteArray×Bool)))=>⟨[(0,sl eS a0),(1,.d (.i a1)),(2,.d (.i a2)),(12,.ow 0)],[(0,.hp 0 (.mp y1))],[],1⟩) (fun y1=>x1= .inl y1) (fun Jp bk1=> ?_) fun y1 hy=> ?_
  ·refine gl hd (fun(p:Int×((List (ByteArray×Bool))))=>let (p0,p_0):=p; ⟨[(0,sl eS a0),(1,.d (.i a1)),(2,.d (.i a2)),(3,.fn (.func 19) [] []),(9,.ow 0),(13,sl eS a0),(14,.d (.i (a0.length:Int))),(15,.d (.i p0)),(12,.ow 0)],[(0,.hp 0 (.mp p_0))],[],1⟩) (fun p=> ∃i:Nat,p.1=(i:Int)∧i≤a0.length∧DX Dq (a0.drop i) (i:Int) p.2=some x1) (fun p=>a0.length-p.1.toNat) (0,([]:List (ByteArray×Bool))) ⟨0,rfl,Nat.zero_le _,q1⟩ ?_;rintro⟨_,s1⟩ ⟨i1,rfl,hi,q2⟩ Jl bl1;refine gi' (b:=decide ((i1:Int)<(a0.length:Int))) (fun hc2=> ?_) fun hc2=> ?_
   ·have hlt1:i1<a0.length:=by have:=of_decide_eq_true hc2; omega
    obtain⟨x2,y2,q5,q4,q3⟩:=Gy q2 hlt1;unfold Dq at q4;refine Hs (k:=1) (E:=eS) (fun _=>rfl) (fun _=>q5) ?_;refine glk s1 x2 ?_;obtain⟨x3,q6,q4⟩:=Aa q4;refine gcG (fun h=>G6 (G5 h q6)) ?_;refine gi q4 (fun hc1 q4=> ?_) fun hc1 q4=> ?_
    ·skip;cases q4;rcases q3 with ⟨sn,e,_⟩|⟨tn,e,e2⟩
     ·cases e
     cases e;cases e2;dsimp only at hm;have e0:=Option.some.inj hm;subst e0;exact AO hd
    obtain⟨q7,q4⟩:=B2 q4;refine gup q7 ?_;have e0:=Option.some.inj q4;subst e0;rcases q3 with ⟨sn,e,q3'⟩|⟨tn,e,_⟩
    ·have e:=Sum.inl.inj e;subst e;exact gb bl1 hd (w64 ((i1:Int)+1),_) ⟨⟨i1+1,Bc hlt1 hle1,by omega,q3'⟩,Gl hlt1 hle1⟩
    cases B4 e
   have hlt1: ¬i1<a0.length:=by have:=of_decide_eq_false hc2; omega
   have e:=Fu q2 hlt1;cases e;exact gb bk1 hd _ rfl
  subst hy;dsimp only at hm;have hm:=Ba hm;let x4:Bool:=(((decide ((a0.length:Int)≥a1))&&(decide ((a0.length:Int)≤a2))));have e0:=Option.some.inj hm;subst e0;exact AO hd
def BG (i1:Int)(x2:g_api_Promise)(s1:Int):Option ((Int)⊕Bool):=Ad (DE x2) fun x3=>if((!x3)||(decide (x2.Log≤s1)))=true then some (.inr false)else some (.inl x2.Log)
def EO (a0:g_api_Cert):Option Bool:=Ad (DX BG a0.Proms 0 (-1)) fun x1=>match x1 with| .inr r=>some r| .inl y1=>Ad (Cy a0.Serial) fun x4=>Ad (gu (!(!x4)) (Cy a0.From)) fun x5=>Ad (gu (!((!x4)||(!x5))) (Cy a0.Until)) fun x6=>bnd (((((!x4)||(!x5))||(!x6))||(decide (a0.From≥a0.Until)))) fun x7=>if x7=true then some false else Ad (CC a0.Issuer) fun x8=>Ad (gu (!((((!x8)||((a0.Key.toNat:Int)==0))||(decide ((a0.Key.toNat:Int)≥2305843009213691579)))||(decide ((a0.Proms.length:Int)>4)))) (DV a0.Sig)) fun x9=>bnd ((((((!x8)||((a0.Key.toNat:Int)==0))||(decide ((a0.Key.toNat:Int)≥2305843009213691579)))||(decide ((a0.Proms.length:Int)>4)))||(!x9))) fun x10=>if x10=true then some false else if a0.Ca=true then Ad (CC a0.Subject) fun x11=>Ad (gu (((x11&&((a0.Names.length:Int)==0))&&(decide (a0.Depth≥0)))&&(decide (a0.Depth≤4))) (DF a0.Permit 0 8)) fun x12=>bnd (((((x11&&((a0.Names.length:Int)==0))&&(decide (a0.Depth≥0)))&&(decide (a0.Depth≤4)))&&x12)) fun x13=>some x13 else Ad (gu (eqS a0.Subject (⟨#[]⟩:ByteArray)) (DG a0.Names 1 8)) fun x14=>bnd (((((eqS a0.Subject (⟨#[]⟩:ByteArray))&&x14)&&(a0.Depth==0))&&((a0.Permit.length:Int)==0))) fun x15=>some x15
theorem MY {a0:g_api_Cert}{r:Bool}(hm:EO a0=some r):Sf prog 52 [ag (Ae a0)] (.d (.t r)):=
 sp call52 func52 rfl ntmps52 rfl fun D0 As η0 m0 hd=>by
  unfold EO at hm;obtain⟨x1,q1,hm⟩:=Aa hm;refine Mq 0 (E:=Ak) (xs:=a0.Proms) 7 fun hle1=> ?_;refine gjU 0 (fun(y1:Int)=>⟨[(1,.pb 0 0),(3,.d (.i y1))],[(0,.box 0 [.d (.i a0.Serial),.d (.s a0.Issuer),.d (.s a0.Subject),.d (.u a0.Key),sl eS a0.Names,.d (.i a0.From),.d (.i a0.Until),.d (.t a0.Ca),.d (.i a0.Depth),sl eS a0.Permit,sl Ak a0.Proms,.d (.u a0.Sig.E),.d (.u a0.Sig.S)] 28)],[],1⟩) (fun y1=>x1= .inl y1) (fun Jp bk1=> ?_) fun y1 hy=> ?_
  ·refine gl hd (fun(p:Int×(Int))=>let (p0,p_0):=p; ⟨[(1,.pb 0 0),(3,.d (.i p_0)),(7,sl Ak a0.Proms),(8,.d (.i (a0.Proms.length:Int))),(9,.d (.i p0))],[(0,.box 0 [.d (.i a0.Serial),.d (.s a0.Issuer),.d (.s a0.Subject),.d (.u a0.Key),sl eS a0.Names,.d (.i a0.From),.d (.i a0.Until),.d (.t a0.Ca),.d (.i a0.Depth),sl eS a0.Permit,sl Ak a0.Proms,.d (.u a0.Sig.E),.d (.u a0.Sig.S)] 28)],[],1⟩) (fun p=> ∃i:Nat,p.1=(i:Int)∧i≤a0.Proms.length∧DX BG (a0.Proms.drop i) (i:Int) p.2=some x1) (fun p=>a0.Proms.length-p.1.toNat) (0,(-1)) ⟨0,rfl,Nat.zero_le _,q1⟩ ?_;rintro⟨_,s1⟩ ⟨i1,rfl,hi,q2⟩ Jl bl1;refine gi' (b:=decide ((i1:Int)<(a0.Proms.length:Int))) (fun hc2=> ?_) fun hc2=> ?_
   ·have hlt1:i1<a0.Proms.length:=by have:=of_decide_eq_true hc2; omega
    obtain⟨x2,y2,q5,q4,q3⟩:=Gy q2 hlt1;unfold BG at q4;refine Hs (k:=6) (E:=Ak) (fun _=>rfl) (fun _=>q5) ?_;obtain⟨x3,q6,q4⟩:=Aa q4;refine gc (fun _=>Kx q6) ?_;refine gi q4 (fun hc1 q4=> ?_) fun hc1 q4=> ?_
    ·skip;cases q4;rcases q3 with ⟨sn,e,_⟩|⟨tn,e,e2⟩
     ·cases e
     cases e;cases e2;dsimp only at hm;have e0:=Option.some.inj hm;subst e0;exact AO hd
    have e0:=Option.some.inj q4;subst e0;rcases q3 with ⟨sn,e,q3'⟩|⟨tn,e,_⟩
    ·have e:=Sum.inl.inj e;subst e;exact gb bl1 hd (w64 ((i1:Int)+1),_) ⟨⟨i1+1,Bc hlt1 hle1,by omega,q3'⟩,Gl hlt1 hle1⟩
    cases B4 e
   have hlt1: ¬i1<a0.Proms.length:=by have:=of_decide_eq_false hc2; omega
   have e:=Fu q2 hlt1;cases e;exact gb bk1 hd _ rfl
  subst hy;dsimp only at hm;obtain⟨x4,q7,hm⟩:=Aa hm;refine gc (fun _=>Ez q7) ?_;obtain⟨x5,q8,hm⟩:=Aa hm;refine gcG (fun h=>Ez (G5 h q8)) ?_;obtain⟨x6,q9,hm⟩:=Aa hm;refine gcG (fun h=>Ez (G5 h q9)) ?_;have hm:=Ba hm;let x7:Bool:=(((((!x4)||(!x5))||(!x6))||(decide (a0.From≥a0.Until))));refine gi hm (fun hc3 hm=> ?_) fun hc3 hm=> ?_
  ·skip;have e0:=Option.some.inj hm;subst e0;exact AO hd
  obtain⟨x8,q11,hm⟩:=Aa hm;refine gc (fun _=>Kw q11) ?_;obtain⟨x9,q12,hm⟩:=Aa hm;refine gcG (fun h=>II (G5 h q12)) ?_;have hm:=Ba hm;let x10:Bool:=((((((!x8)||((a0.Key.toNat:Int)==0))||(decide ((a0.Key.toNat:Int)≥2305843009213691579)))||(decide ((a0.Proms.length:Int)>4)))||(!x9)));refine gi hm (fun hc4 hm=> ?_) fun hc4 hm=> ?_
  ·skip;have e0:=Option.some.inj hm;subst e0;exact AO hd
  refine gi hm (fun hc5 hm=> ?_) fun hc5 hm=> ?_
  ·skip;obtain⟨x11,q14,hm⟩:=Aa hm;refine gc (fun _=>Kw q14) ?_;obtain⟨x12,q15,hm⟩:=Aa hm;refine gcG (fun h=>Ky (G5 h q15)) ?_;have hm:=Ba hm;let x13:Bool:=(((((x11&&((a0.Names.length:Int)==0))&&(decide (a0.Depth≥0)))&&(decide (a0.Depth≤4)))&&x12));have e0:=Option.some.inj hm;subst e0;exact AO hd
  obtain⟨x14,q17,hm⟩:=Aa hm;refine gcG (fun h=>Kz (G5 h q17)) ?_;have hm:=Ba hm;let x15:Bool:=(((((eqS a0.Subject (⟨#[]⟩:ByteArray))&&x14)&&(a0.Depth==0))&&((a0.Permit.length:Int)==0)));have e0:=Option.some.inj hm;subst e0;exact AO hd
def Gs (a0:Cs)(k0:Int):Option (Bool×Int):=some ((a0.tag_==k0),k0)
theorem Oe {a0:Cs}{k0:Int}{r:Bool×Int}(hm:Gs a0 k0=some r):Sp prog 194 [ag (Et a0),.pb 0 0] [.box 0 [.d (.i k0)] 3] 1 (is (.d (.t r.1)) [.box 0 [.d (.i r.2)] 3] 1):=
 sp call194 func194 rfl ntmps194 rfl fun D0 As η0 m0 hd=>by
  unfold Gs at hm;have e0:=Option.some.inj hm;subst e0;exact AO hd
def Ah (a0:List Cs)(i1:Int)(s1:Int):Option ((Int)⊕(Int×Int)):=Ad (idx a0 (i1:Int)) fun x3=>Ad (Gs x3 s1) fun x4=>if x4.1=true then some (.inr ((i1:Int),x4.2))else some (.inl x4.2)
def AQ (a0:List Cs)(k0:Int):Option (Int×Int):=Ad (C3 (Ah a0) a0.length 0 k0) fun x1=>match x1 with| .inr r=>some r| .inl y1=>some ((-1),y1)
theorem Di {a0:List Cs}{k0:Int}{r:Int×Int}(hm:AQ a0 k0=some r):Sp prog 193 [sl Et a0,.fn (.func 194) [] [.pb 0 0]] [.box 0 [.d (.i k0)] 3] 1 (is (.d (.i r.1)) [.box 0 [.d (.i r.2)] 3] 1):=
 sp call193 func193 rfl ntmps193 rfl fun D0 As η0 m0 hd=>by
  unfold AQ at hm;obtain⟨x1,q1,hm⟩:=Aa hm;refine Mq 0 (E:=Et) (xs:=a0) 6 fun hle1=> ?_;refine gjU 0 (fun(y1:Int)=>⟨[],[(0,.box 0 [.d (.i y1)] 3)],[],1⟩) (fun y1=>x1= .inl y1) (fun Jp bk1=> ?_) fun y1 hy=> ?_
  ·refine gl hd (fun(p:Int×(Int))=>let (p0,p_0):=p; ⟨[(0,sl Et a0),(1,.fn (.func 194) [] [.pb 0 0]),(7,.d (.i (a0.length:Int))),(8,.d (.i p0))],[(0,.box 0 [.d (.i p_0)] 3)],[],1⟩) (fun p=> ∃i:Nat,p.1=(i:Int)∧i≤a0.length∧C3 (Ah a0) (a0.length-i) (i:Int) p.2=some x1) (fun p=>a0.length-p.1.toNat) (0,k0) ⟨0,rfl,Nat.zero_le _,q1⟩ ?_;rintro⟨_,s1⟩ ⟨i1,rfl,hi,q2⟩ Jl bl1;refine gi' (b:=decide ((i1:Int)<(a0.length:Int))) (fun hc2=> ?_) fun hc2=> ?_
   ·have hlt1:i1<a0.length:=by have:=of_decide_eq_true hc2; omega
    obtain⟨y2,q4,q3⟩:=FN q2 hlt1;unfold Ah at q4;obtain⟨x3,q6,q4⟩:=Aa q4;refine Hs (k:=2) (E:=Et) (fun _=>rfl) (fun _=>q6) ?_;obtain⟨x4,q7,q4⟩:=Aa q4;refine gco (Oe q7) ?_;refine gi q4 (fun hc1 q4=> ?_) fun hc1 q4=> ?_
    ·skip;cases q4;rcases q3 with ⟨sn,e,_⟩|⟨tn,e,e2⟩
     ·cases e
     cases e;cases e2;dsimp only at hm;have e0:=Option.some.inj hm;subst e0;exact AO hd
    have e0:=Option.some.inj q4;subst e0;rcases q3 with ⟨sn,e,q3'⟩|⟨tn,e,_⟩
    ·have e:=Sum.inl.inj e;subst e;exact gb bl1 hd (w64 ((i1:Int)+1),_) ⟨⟨i1+1,Bc hlt1 hle1,by omega,q3'⟩,Gl hlt1 hle1⟩
    cases B4 e
   have hlt1: ¬i1<a0.length:=by have:=of_decide_eq_false hc2; omega
   have e:=ET q2 hlt1;cases e;exact gb bk1 hd _ rfl
  subst hy;dsimp only at hm;have e0:=Option.some.inj hm;subst e0;exact AO hd
def Fh (a0:Int):Option (Cs×Bool):=Ad (AQ tab_0 a0) fun x1=>if(decide (x1.1<0))=true then some ((⟨0,(-1)⟩:Cs),false)else Ad (idx tab_0 x1.1) fun x2=>some (x2,true)
theorem Ro {a0:Int}{r:Cs×Bool}(hm:Fh a0=some r):Sf prog 149 [.d (.i a0)] (.tup [ag (Et r.1),.d (.t r.2)]):=
 sp call149 func149 rfl ntmps149 rfl fun D0 As η0 m0 hd=>by
  unfold Fh at hm;refine gslG (k:=2) (E:=Et) tab_0 (fun _=>rfl) ?_;obtain⟨x1,q1,hm⟩:=Aa hm;refine gco (Di q1) ?_;refine gi hm (fun hc1 hm=> ?_) fun hc1 hm=> ?_
  ·skip;have e0:=Option.some.inj hm;subst e0;exact AO hd
  obtain⟨x2,q2,hm⟩:=Aa hm;refine gidG (k:=2) (E:=Et) tab_0 (fun _=>rfl) (fun _=>q2) ?_;have e0:=Option.some.inj hm;subst e0;exact AO hd
def Ke (n:Int)(a0:List UInt8):Option Bool:=if n=157 then Ei a0 else if n=252 then DT a0 else if n=253 then Hh a0 else if n=254 then EM a0 else if n=257 then EK a0 else none
theorem U2 {n:Int}{a0:List UInt8}{r:Bool}(hm:Ke n a0=some r): ∃k:Nat,n=(k:Int)∧Sf prog k [sl eB a0] (.d (.t r)):=by
 unfold Ke at hm;split at hm
 ·rename_i h;exact⟨157,h,Kr hm⟩
 split at hm
 ·rename_i h;exact⟨252,h,MU hm⟩
 split at hm
 ·rename_i h;exact⟨253,h,MT hm⟩
 split at hm
 ·rename_i h;exact⟨254,h,MS hm⟩
 split at hm
 ·rename_i h;exact⟨257,h,MR hm⟩
 cases hm
def HU (rF:g_api_Item→Int→Option Bool):Prop:= ∀{a0:g_api_Item} {a1:Int} {r:Bool},rF a0 a1=some r→Sf prog 98 [ag (Ai a0),.d (.i a1)] (.d (.t r))
def FH (rF:g_api_Item→Int→Option Bool)(a0:g_api_Item)(k0:Int):Option (Bool×Int):=Ad (rF a0 (w64 (k0-1))) fun x1=>some ((!x1),k0)
theorem MQ {rF:g_api_Item→Int→Option Bool}(hF:HU rF){a0:g_api_Item}{k0:Int}{r:Bool×Int}(hm:FH rF a0 k0=some r):Sp prog 151 [ag (Ai a0),.pb 0 0] [.box 0 [.d (.i k0)] 3] 1 (is (.d (.t r.1)) [.box 0 [.d (.i r.2)] 3] 1):=
 sp call151 func151 rfl ntmps151 rfl fun D0 As η0 m0 hd=>by
  unfold FH at hm;obtain⟨x1,q1,hm⟩:=Aa hm;refine gc (fun _=>hF q1) ?_;have e0:=Option.some.inj hm;subst e0;exact AO hd
def Aj (rF:g_api_Item→Int→Option Bool)(a0:List g_api_Item)(i1:Int)(s1:Int):Option ((Int)⊕(Int×Int)):=Ad (idx a0 (i1:Int)) fun x3=>Ad ((FH rF) x3 s1) fun x4=>if x4.1=true then some (.inr ((i1:Int),x4.2))else some (.inl x4.2)
def AM (rF:g_api_Item→Int→Option Bool)(a0:List g_api_Item)(k0:Int):Option (Int×Int):=Ad (C3 ((Aj rF) a0) a0.length 0 k0) fun x1=>match x1 with| .inr r=>some r| .inl y1=>some ((-1),y1)
theorem CU {rF:g_api_Item→Int→Option Bool}(hF:HU rF){a0:List g_api_Item}{k0:Int}{r:Int×Int}(hm:AM rF a0 k0=some r):Sp prog 195 [sl Ai a0,.fn (.func 151) [] [.pb 0 0]] [.box 0 [.d (.i k0)] 3] 1 (is (.d (.i r.1)) [.box 0 [.d (.i r.2)] 3] 1):=
 sp call195 func195 rfl ntmps195 rfl fun D0 As η0 m0 hd=>by
  unfold AM at hm;obtain⟨x1,q1,hm⟩:=Aa hm;refine Mq 0 (E:=Ai) (xs:=a0) 6 fun hle1=> ?_;refine gjU 0 (fun(y1:Int)=>⟨[],[(0,.box 0 [.d (.i y1)] 3)],[],1⟩) (fun y1=>x1= .inl y1) (fun Jp bk1=> ?_) fun y1 hy=> ?_
  ·refine gl hd (fun(p:Int×(Int))=>let (p0,p_0):=p; ⟨[(0,sl Ai a0),(1,.fn (.func 151) [] [.pb 0 0]),(7,.d (.i (a0.length:Int))),(8,.d (.i p0))],[(0,.box 0 [.d (.i p_0)] 3)],[],1⟩) (fun p=> ∃i:Nat,p.1=(i:Int)∧i≤a0.length∧C3 ((Aj rF) a0) (a0.length-i) (i:Int) p.2=some x1) (fun p=>a0.length-p.1.toNat) (0,k0) ⟨0,rfl,Nat.zero_le _,q1⟩ ?_;rintro⟨_,s1⟩ ⟨i1,rfl,hi,q2⟩ Jl bl1;refine gi' (b:=decide ((i1:Int)<(a0.length:Int))) (fun hc2=> ?_) fun hc2=> ?_
   ·have hlt1:i1<a0.length:=by have:=of_decide_eq_true hc2; omega
    obtain⟨y2,q4,q3⟩:=FN q2 hlt1;unfold Aj at q4;obtain⟨x3,q6,q4⟩:=Aa q4;refine Hs (k:=3) (E:=Ai) (fun _=>rfl) (fun _=>q6) ?_;obtain⟨x4,q7,q4⟩:=Aa q4;refine gco (MQ hF q7) ?_;refine gi q4 (fun hc1 q4=> ?_) fun hc1 q4=> ?_
    ·skip;cases q4;rcases q3 with ⟨sn,e,_⟩|⟨tn,e,e2⟩
     ·cases e
     cases e;cases e2;dsimp only at hm;have e0:=Option.some.inj hm;subst e0;exact AO hd
    have e0:=Option.some.inj q4;subst e0;rcases q3 with ⟨sn,e,q3'⟩|⟨tn,e,_⟩
    ·have e:=Sum.inl.inj e;subst e;exact gb bl1 hd (w64 ((i1:Int)+1),_) ⟨⟨i1+1,Bc hlt1 hle1,by omega,q3'⟩,Gl hlt1 hle1⟩
    cases B4 e
   have hlt1: ¬i1<a0.length:=by have:=of_decide_eq_false hc2; omega
   have e:=ET q2 hlt1;cases e;exact gb bk1 hd _ rfl
  subst hy;dsimp only at hm;have e0:=Option.some.inj hm;subst e0;exact AO hd
def Ay (rF:g_api_Item→Int→Option Bool)(a0:List g_api_Item)(k0:Int):Option (Bool×Int):=Ad ((AM rF) a0 k0) fun x1=>some ((decide (x1.1≥0)),x1.2)
theorem CG {rF:g_api_Item→Int→Option Bool}(hF:HU rF){a0:List g_api_Item}{k0:Int}{r:Bool×Int}(hm:Ay rF a0 k0=some r):Sp prog 150 [sl Ai a0,.fn (.func 151) [] [.pb 0 0]] [.box 0 [.d (.i k0)] 3] 1 (is (.d (.t r.1)) [.box 0 [.d (.i r.2)] 3] 1):=
 sp call150 func150 rfl ntmps150 rfl fun D0 As η0 m0 hd=>by
  unfold Ay at hm;obtain⟨x1,q1,hm⟩:=Aa hm;refine gco (CU hF q1) ?_;have e0:=Option.some.inj hm;subst e0;exact AO hd
def Eh (rF:g_api_Item→Int→Option Bool)(a0:g_api_Item)(a1:Int):Option Bool:=Ad (Fh a0.Tag) fun x1=>Ad (gu (!((!x1.2)||(decide (a1<1)))) (Ke x1.1.may_ a0.B)) fun x2=>if((((!x1.2)||(decide (a1<1)))||(!x2))||((a0.Tag !=48)&&(decide ((a0.L.length:Int)>0))))=true then some false else Ad ((Ay rF) a0.L a1) fun x3=>some (!x3.1)
theorem Pk {rF:g_api_Item→Int→Option Bool}(hF:HU rF){a0:g_api_Item}{a1:Int}{r:Bool}(hm:Eh rF a0 a1=some r):Sf prog 98 [ag (Ai a0),.d (.i a1)] (.d (.t r)):=
 sp call98 func98 rfl ntmps98 rfl fun D0 As η0 m0 hd=>by
  unfold Eh at hm;obtain⟨x1,q1,hm⟩:=Aa hm;refine gc (fun _=>Ro q1) ?_;obtain⟨x2,q2,hm⟩:=Aa hm;refine gdynG (fun h=>U2 (G5 h q2)) ?_;refine gi hm (fun hc1 hm=> ?_) fun hc1 hm=> ?_
  ·skip;have e0:=Option.some.inj hm;subst e0;exact AO hd
  obtain⟨x3,q3,hm⟩:=Aa hm;refine gco (CG hF q3) ?_;have e0:=Option.some.inj hm;subst e0;exact AO hd
def Fq:Nat→g_api_Item→Int→Option Bool
 |0,_,_=>none
 |n+1,a0,a1=>Eh (Fq n) a0 a1
def K0 (a0:g_api_Item)(a1:Int):Option Bool:=Fq E4 a0 a1
theorem LQ: ∀n,HU (Fq n)
 |0=>fun hm=>by cases hm
 |n+1=>fun hm=>Pk (LQ n) hm
theorem R8 {a0:g_api_Item}{a1:Int}{r:Bool}(hm:K0 a0 a1=some r):Sf prog 98 [ag (Ai a0),.d (.i a1)] (.d (.t r)):=LQ E4 hm
def AR (a0:List UInt8):Option (List UInt8):=Ad (app 1 ([]:List UInt8) a0) fun x1=>some x1
theorem En {m:Mem}{As:List Ow}{w:World}{a0:List UInt8}{a0v0:Value}{r:List UInt8}(S:St m (As) w)(a0h0:SlR m a0v0 a0)(hm:AR a0=some r):
  Az Tryz.prog 158 #[a0v0] w fun v w'=> ∃(M:Mem),m≤M∧∃(rv0:Value) (rc0:List Value),St M ((row 1 rv0 rc0 r.length)::As) w'∧v=rv0∧Bq M rc0 r:=by
 unfold AR at hm;have L0:=Mem.rfl' m;refine Co (args:=[a0v0]) Tryz.func158 rfl Tryz.ntmps158 (Nat.le_of_ble_eq_true rfl) ?_;refine Af ?_;refine Ac ?_;refine Bb (v:= .slice none 0 0) rfl ?_;refine Ag ?_;refine nrm ?_;refine Af ?_;refine Af ?_;refine Ac ?_;refine Ap (v:=a0v0) rfl ?_;refine J5 rfl rfl a0h0 Tryz.underlying52 ?_;refine Ag ?_;refine nrm ?_;refine B3 (t:=(I2 a0v0)) rfl (fun hc1=> ?_) (fun hc1=> ?_)
 ·have he1:a0=[]:=SlR.nilOf a0h0 hc1;rw[he1]at hm;replace hm:(some ([]:List UInt8))=some _:=hm;refine Af ?_;refine Ac ?_;refine Bb (v:= .slice none 0 0) rfl ?_;refine Ag ?_;refine nrm ?_;refine Bl ?_;refine thR ?_;refine Dx ?_;intro we hpd;replace S:=St.pd S hpd;have S1:=St.rowNil S 1;have h1:Bq m [] ([]:List UInt8):=Bq.nil;replace S1:St _ ((row 1 (.slice none 0 0) [] ([]:List UInt8).length)::As) _:=S1;clear S;have e0:=Option.some.inj hm;subst e0;exact G4 [_] rfl ⟨rfl,trivial⟩ ⟨_,L0,_,_,S1,rfl,h1⟩
 refine A7 ?_;refine nrm ?_;refine Af ?_;refine Ac ?_;refine HE (parts:=[]) (vs:=[]) (cls:=[]) (n:=0) (sz:=1) S Tryz.underlying52 Tryz.sizeOf5 Tryz.zeroValue5 rfl trivial rfl rfl (by decide) (by decide) ?_;intro v1 w1 S2;have h2:Bq m [] ([]:List UInt8):=Bq.nil;replace S2:St _ ((row 1 v1 [] ([]:List UInt8).length)::As) _:=S2;clear S;refine Ap (v:=a0v0) rfl ?_;obtain⟨x1,q1,hm⟩:=Aa hm;refine Pv (i:=0) (zs:=x1) (bytes:=1) (ti:=Tryz.t5) S2 rfl rfl h2 rfl rfl a0h0 q1 Tryz.underlying52 Tryz.type5 rfl rfl rfl rfl ?_;intro v2 c1 w2 S3 h3;replace S3:St _ ((row 1 v2 c1 x1.length)::As) _:=S3;clear S2;refine Bb (v:=v2) rfl ?_;refine Ag ?_;refine nrm ?_;refine Bl ?_;refine Dx ?_;intro we hpd;replace S3:=St.pd S3 hpd;have e0:=Option.some.inj hm;subst e0;exact G4 [_] rfl ⟨rfl,trivial⟩ ⟨_,L0,_,_,S3,rfl,h3⟩
theorem GP {a0:List UInt8}{r:List UInt8}(hm:AR a0=some r):Sp prog 158 [sl eB a0] [] 0 (is (.ow 0) [.row 0 1 _ eB r] 1):=
 ⟨call158,fun η m As w vs hv0 hd S=>by
  have S:St m As w:=S;obtain⟨v0,u0,rfl,r0,hv1⟩:=Bj.cons_inv hv0;have f0:=Br.ofS Br.b r0.dd;obtain rfl:=Bj.nil_inv hv1;refine Az.mono (En S f0 hm) ?_;rintro v w' ⟨M,hle,y0,c0,S0,rfl,h0⟩;exact⟨M,(YE [v]),_,_,_,hle,RM hd _,⟨rfl,rfl,rfl⟩,H8 rfl,(.ow rfl (D4 S0)),(St.impL S0 (sepC (Br.toR Br.b rfl rfl (D4 S0) h0) fun _ h=>h))⟩⟩
def Lw (rF:(List UInt8)→g_api_Item→Option (List UInt8)):Prop:= ∀{a0:List UInt8} {a1:g_api_Item} {r:List UInt8},rF a0 a1=some r→Sp prog 99 [.ow 0,ag (Ai a1)] [.row 0 1 _ eB a0] 1 (is (.ow 1) [.row 1 1 _ eB r] 2)
def B1 (rF:(List UInt8)→g_api_Item→Option (List UInt8))(i1:Int)(x4:g_api_Item)(s1:(List UInt8)):Option ((List UInt8)):=Ad (rF s1 x4) fun x5=>some x5
def DB (rF:(List UInt8)→g_api_Item→Option (List UInt8))(a0:g_api_Item):Option (List UInt8):=Ad (AR a0.B) fun x1=>Ad (Ad (EU (B1 rF) a0.L 0 x1) fun x3=>some x3) fun x2=>some x2
theorem Ku {rF:(List UInt8)→g_api_Item→Option (List UInt8)}(hF:Lw rF){a0:g_api_Item}{r:List UInt8}(hm:DB rF a0=some r):Sp prog 152 [ag (Ai a0)] [] 0 (is (.ow 0) [.row 0 1 _ eB r] 1):=
 sp call152 func152 rfl ntmps152 rfl fun D0 As η0 m0 hd=>by
  unfold DB at hm;obtain⟨x1,q1,hm⟩:=Aa hm;refine gco (GP q1) ?_;obtain⟨x2,q2,hm⟩:=Aa hm;obtain⟨x3,q3,q2⟩:=Aa q2;refine Mq 0 (E:=Ai) (xs:=a0.L) 10 fun hle1=> ?_;refine gjU 0 (fun(_:Unit)=>⟨[(3,.ow 1),(1,.pb 0 0)],[(0,.row 1 1 _ eB x2),(1,.box 0 [.d (.i a0.Tag),sl eB a0.B,sl Ai a0.L] 79)],[],2⟩) (fun _=>True) (fun Jp bk1=> ?_) fun _ _=> ?_
  ·refine gjU 0 (fun(_:Unit)=>⟨[(3,.ow 1),(1,.pb 0 0)],[(0,.row 1 1 _ eB x3),(1,.box 0 [.d (.i a0.Tag),sl eB a0.B,sl Ai a0.L] 79)],[],2⟩) (fun _=>True) (fun Jp bk2=> ?_) fun _ _=> ?_
   ·refine gl hd (fun(p:Int×((List UInt8)))=>let (p0,p_0):=p; ⟨[(3,.ow 1),(10,sl Ai a0.L),(11,.d (.i (a0.L.length:Int))),(12,.d (.i p0)),(1,.pb 0 0)],[(0,.row 1 1 _ eB p_0),(1,.box 0 [.d (.i a0.Tag),sl eB a0.B,sl Ai a0.L] 79)],[],2⟩) (fun p=> ∃i:Nat,p.1=(i:Int)∧i≤a0.L.length∧EU (B1 rF) (a0.L.drop i) (i:Int) p.2=some x3) (fun p=>a0.L.length-p.1.toNat) (0,x1) ⟨0,rfl,Nat.zero_le _,q3⟩ ?_;rintro⟨_,s1⟩ ⟨i1,rfl,hi,q4⟩ Jl bl1;refine gi' (b:=decide ((i1:Int)<(a0.L.length:Int))) (fun hc1=> ?_) fun hc1=> ?_
    ·have hlt1:i1<a0.L.length:=by have:=of_decide_eq_true hc1; omega
     obtain⟨x4,y1,q7,q6,q5⟩:=H9 q4 hlt1;unfold B1 at q6;refine Hs (k:=3) (E:=Ai) (fun _=>rfl) (fun _=>q7) ?_;obtain⟨x5,q8,q6⟩:=Aa q6;refine gco (hF q8) ?_;have e0:=Option.some.inj q6;subst e0;exact gb bl1 hd (w64 ((i1:Int)+1),x5) ⟨⟨i1+1,Bc hlt1 hle1,by omega,q5⟩,Gl hlt1 hle1⟩
    have hlt1: ¬i1<a0.L.length:=by have:=of_decide_eq_false hc1; omega
    have e:=Eq.symm (G2 q4 hlt1);subst e;exact gb bk2 hd () trivial
   have e0:=Option.some.inj q2;subst e0;exact gb bk1 hd () trivial
  have e0:=Option.some.inj hm;subst e0;exact AO hd
def Ga (rF:(List UInt8)→g_api_Item→Option (List UInt8))(a0:List UInt8)(a1:g_api_Item):Option (List UInt8):=Ad ((DB rF) a1) fun x1=>Ad (app 1 a0 ([(toB a1.Tag)]:List UInt8)) fun x2=>Ad (bnd ((decide ((x1.length:Int)<128))) fun x4=>if x4=true then Ad (app 1 x2 ([(toB (x1.length:Int))]:List UInt8)) fun x5=>some x5 else bnd ((decide ((x1.length:Int)<256))) fun x6=>if x6=true then Ad (app 1 x2 ([129,(toB (x1.length:Int))]:List UInt8)) fun x7=>some x7 else Ad (app 1 x2 ([130,(toB (D7 (x1.length:Int) 8)),(toB (x1.length:Int))]:List UInt8)) fun x8=>some x8) fun x3=>Ad (app 1 x3 x1) fun x9=>some x9
theorem Pj {rF:(List UInt8)→g_api_Item→Option (List UInt8)}(hF:Lw rF){a0:List UInt8}{a1:g_api_Item}{r:List UInt8}(hm:Ga rF a0 a1=some r):Sp prog 99 [.ow 0,ag (Ai a1)] [.row 0 1 _ eB a0] 1 (is (.ow 1) [.row 1 1 _ eB r] 2):=
 sp call99 func99 rfl ntmps99 rfl fun D0 As η0 m0 hd=>by
  unfold Ga at hm;obtain⟨x1,q1,hm⟩:=Aa hm;refine gco (Ku hF q1) ?_;refine ES (k:=1) eB ([(toB a1.Tag)]:List UInt8) (fun _=>rfl) ?_;obtain⟨x2,q2,hm⟩:=Aa hm;refine RK (k:=1) (E:=eB) (fun _=>rfl) q2 ?_;obtain⟨x3,q3,hm⟩:=Aa hm;refine gjU 0 (fun(_:Unit)=>⟨[(0,.ow 3),(5,.ow 2),(3,.pb 1 0)],[(0,.row 3 1 _ eB x3),(1,.row 2 1 _ eB x1),(2,.box 1 [.d (.i a1.Tag),sl eB a1.B,sl Ai a1.L] 79)],[],4⟩) (fun _=>True) (fun Jp bk1=> ?_) fun _ _=> ?_
  ·skip;have q3:=Ba q3;let x4:Bool:=((decide ((x1.length:Int)<128)));refine gi q3 (fun hc1 q3=> ?_) fun hc1 q3=> ?_
   ·refine ES (k:=1) eB ([(toB (x1.length:Int))]:List UInt8) (fun _=>rfl) ?_;obtain⟨x5,q5,q3⟩:=Aa q3;refine RK (k:=1) (E:=eB) (fun _=>rfl) q5 ?_;have e0:=Option.some.inj q3;subst e0;exact gb bk1 hd () trivial
   have q3:=Ba q3;let x6:Bool:=((decide ((x1.length:Int)<256)));refine gi q3 (fun hc2 q3=> ?_) fun hc2 q3=> ?_
   ·refine ES (k:=1) eB ([129,(toB (x1.length:Int))]:List UInt8) (fun _=>rfl) ?_;obtain⟨x7,q7,q3⟩:=Aa q3;refine RK (k:=1) (E:=eB) (fun _=>rfl) q7 ?_;have e0:=Option.some.inj q3;subst e0;exact gb bk1 hd () trivial
   refine ES (k:=1) eB ([130,(toB (D7 (x1.length:Int) 8)),(toB (x1.length:Int))]:List UInt8) (fun _=>rfl) ?_;obtain⟨x8,q8,q3⟩:=Aa q3;refine RK (k:=1) (E:=eB) (fun _=>rfl) q8 ?_;have e0:=Option.some.inj q3;subst e0;exact gb bk1 hd () trivial
  obtain⟨x9,q9,hm⟩:=Aa hm;refine RK (k:=1) (E:=eB) (fun _=>rfl) q9 ?_;have e0:=Option.some.inj hm;subst e0;exact AO hd
def ED:Nat→(List UInt8)→g_api_Item→Option (List UInt8)
 |0,_,_=>none
 |n+1,a0,a1=>Ga (ED n) a0 a1
def KZ (a0:List UInt8)(a1:g_api_Item):Option (List UInt8):=ED E4 a0 a1
theorem LP: ∀n,Lw (ED n)
 |0=>fun hm=>by cases hm
 |n+1=>fun hm=>Pj (LP n) hm
theorem R6 {a0:List UInt8}{a1:g_api_Item}{r:List UInt8}(hm:KZ a0 a1=some r):Sp prog 99 [.ow 0,ag (Ai a1)] [.row 0 1 _ eB a0] 1 (is (.ow 1) [.row 1 1 _ eB r] 2):=LP E4 hm
def Gb (a0:g_api_Item):Option ((List UInt8)×Int):=Ad (K0 a0 8) fun x1=>if(!x1)=true then some (([]:List UInt8),1)else Ad (KZ ([]:List UInt8) a0) fun x2=>if(decide ((x2.length:Int)>8192))=true then some (([]:List UInt8),2)else some (x2,0)
theorem Of {a0:g_api_Item}{r:(List UInt8)×Int}(hm:Gb a0=some r):Sp prog 53 [ag (Ai a0)] [] 0 (is (.tup [.ow 0,.d (.i r.2)]) [.row 0 1 _ eB r.1] 1):=
 sp call53 func53 rfl ntmps53 rfl fun D0 As η0 m0 hd=>by
  unfold Gb at hm;obtain⟨x1,q1,hm⟩:=Aa hm;refine gc (fun _=>R8 q1) ?_;refine gi hm (fun hc1 hm=> ?_) fun hc1 hm=> ?_
  ·skip;refine gnil eB 2 1 ?_;have e0:=Option.some.inj hm;subst e0;exact AO hd
  obtain⟨x2,q2,hm⟩:=Aa hm;refine gco (Sp.nil0 (R6 q2) rfl) ?_;refine gi hm (fun hc2 hm=> ?_) fun hc2 hm=> ?_
  ·skip;refine gnil eB 2 1 ?_;have e0:=Option.some.inj hm;subst e0;exact AO hd
  have e0:=Option.some.inj hm;subst e0;exact AO hd
def AX (a0:List g_api_Item):Option (List g_api_Item):=Ad (app 56 ([]:List g_api_Item) a0) fun x1=>some x1
theorem EX {m:Mem}{As:List Ow}{w:World}{a0:List g_api_Item}{a0v0:Value}{r:List g_api_Item}(S:St m (As) w)(a0h0:SlR m a0v0 a0)(hm:AX a0=some r):
  Az Tryz.prog 153 #[a0v0] w fun v w'=> ∃(M:Mem),m≤M∧∃(rv0:Value) (rc0:List Value),St M ((row 3 rv0 rc0 r.length)::As) w'∧v=rv0∧Bq M rc0 r:=by
 unfold AX at hm;have L0:=Mem.rfl' m;refine Co (args:=[a0v0]) Tryz.func153 rfl Tryz.ntmps153 (Nat.le_of_ble_eq_true rfl) ?_;refine Af ?_;refine Ac ?_;refine Bb (v:= .slice none 0 0) rfl ?_;refine Ag ?_;refine nrm ?_;refine Af ?_;refine Af ?_;refine Ac ?_;refine Ap (v:=a0v0) rfl ?_;refine J5 rfl rfl a0h0 Tryz.underlying77 ?_;refine Ag ?_;refine nrm ?_;refine B3 (t:=(I2 a0v0)) rfl (fun hc1=> ?_) (fun hc1=> ?_)
 ·have he1:a0=[]:=SlR.nilOf a0h0 hc1;rw[he1]at hm;replace hm:(some ([]:List g_api_Item))=some _:=hm;refine Af ?_;refine Ac ?_;refine Bb (v:= .slice none 0 0) rfl ?_;refine Ag ?_;refine nrm ?_;refine Bl ?_;refine thR ?_;refine Dx ?_;intro we hpd;replace S:=St.pd S hpd;have S1:=St.rowNil S 3;have h1:Bq m [] ([]:List g_api_Item):=Bq.nil;replace S1:St _ ((row 3 (.slice none 0 0) [] ([]:List g_api_Item).length)::As) _:=S1;clear S;have e0:=Option.some.inj hm;subst e0;exact G4 [_] rfl ⟨rfl,trivial⟩ ⟨_,L0,_,_,S1,rfl,h1⟩
 refine A7 ?_;refine nrm ?_;refine Af ?_;refine Ac ?_;refine HE (parts:=[]) (vs:=[]) (cls:=[]) (n:=0) (sz:=3) S Tryz.underlying77 Tryz.sizeOf79 Tryz.zeroValue79 rfl trivial rfl rfl (by decide) (by decide) ?_;intro v1 w1 S2;have h2:Bq m [] ([]:List g_api_Item):=Bq.nil;replace S2:St _ ((row 3 v1 [] ([]:List g_api_Item).length)::As) _:=S2;clear S;refine Ap (v:=a0v0) rfl ?_;obtain⟨x1,q1,hm⟩:=Aa hm;refine Pv (i:=0) (zs:=x1) (bytes:=56) (ti:=Tryz.t79) S2 rfl rfl h2 rfl rfl a0h0 q1 Tryz.underlying77 Tryz.type79 rfl rfl rfl rfl ?_;intro v2 c1 w2 S3 h3;replace S3:St _ ((row 3 v2 c1 x1.length)::As) _:=S3;clear S2;refine Bb (v:=v2) rfl ?_;refine Ag ?_;refine nrm ?_;refine Bl ?_;refine Dx ?_;intro we hpd;replace S3:=St.pd S3 hpd;have e0:=Option.some.inj hm;subst e0;exact G4 [_] rfl ⟨rfl,trivial⟩ ⟨_,L0,_,_,S3,rfl,h3⟩
theorem E2 {a0:List g_api_Item}{r:List g_api_Item}(hm:AX a0=some r):Sp prog 153 [sl Ai a0] [] 0 (is (.ow 0) [.row 0 3 _ Ai r] 1):=
 ⟨call153,fun η m As w vs hv0 hd S=>by
  have S:St m As w:=S;obtain⟨v0,u0,rfl,r0,hv1⟩:=Bj.cons_inv hv0;have f0:=Br.ofS Jv r0.dd;obtain rfl:=Bj.nil_inv hv1;refine Az.mono (EX S f0 hm) ?_;rintro v w' ⟨M,hle,y0,c0,S0,rfl,h0⟩;exact⟨M,(YE [v]),_,_,_,hle,RM hd _,⟨rfl,rfl,rfl⟩,H8 rfl,(.ow rfl (D4 S0)),(St.impL S0 (sepC (Br.toR Jv rfl rfl (D4 S0) h0) fun _ h=>h))⟩⟩
def DC (a0:List g_api_Item):Option g_api_Item:=Ad (AX a0) fun x1=>some (⟨48,[],x1⟩:g_api_Item)
theorem F0 {a0:List g_api_Item}{r:g_api_Item}(hm:DC a0=some r):Sf prog 100 [sl Ai a0] (ag (Ai r)):=
 sp call100 func100 rfl ntmps100 rfl fun D0 As η0 m0 hd=>by
  unfold DC at hm;obtain⟨x1,q1,hm⟩:=Aa hm;refine gco (E2 q1) ?_;have e0:=Option.some.inj hm;subst e0;exact AO hd
def Gt (a0:Int)(i1:Int)(s1:UInt8×UInt8×UInt8×UInt8×UInt8×UInt8×UInt8×UInt8):Option (UInt8×UInt8×UInt8×UInt8×UInt8×UInt8×UInt8×UInt8):=if(0:Int)≤(w64 (56-(w64 (8*(i1:Int)))))then Ad (idx [s1.1,s1.2.1,s1.2.2.1,s1.2.2.2.1,s1.2.2.2.2.1,s1.2.2.2.2.2.1,s1.2.2.2.2.2.2.1,s1.2.2.2.2.2.2.2] (i1:Int)) fun x4=>bnd (if(i1:Int)=0 then(toB (D7 a0 ((w64 (56-(w64 (8*(i1:Int))))).toNat)))else s1.1) fun x5=>bnd (if(i1:Int)=1 then(toB (D7 a0 ((w64 (56-(w64 (8*(i1:Int))))).toNat)))else s1.2.1) fun x6=>bnd (if(i1:Int)=2 then(toB (D7 a0 ((w64 (56-(w64 (8*(i1:Int))))).toNat)))else s1.2.2.1) fun x7=>bnd (if(i1:Int)=3 then(toB (D7 a0 ((w64 (56-(w64 (8*(i1:Int))))).toNat)))else s1.2.2.2.1) fun x8=>bnd (if(i1:Int)=4 then(toB (D7 a0 ((w64 (56-(w64 (8*(i1:Int))))).toNat)))else s1.2.2.2.2.1) fun x9=>bnd (if(i1:Int)=5 then(toB (D7 a0 ((w64 (56-(w64 (8*(i1:Int))))).toNat)))else s1.2.2.2.2.2.1) fun x10=>bnd (if(i1:Int)=6 then(toB (D7 a0 ((w64 (56-(w64 (8*(i1:Int))))).toNat)))else s1.2.2.2.2.2.2.1) fun x11=>bnd (if(i1:Int)=7 then(toB (D7 a0 ((w64 (56-(w64 (8*(i1:Int))))).toNat)))else s1.2.2.2.2.2.2.2) fun x12=>some (x5,x6,x7,x8,x9,x10,x11,x12)else none
def Cc (s2:(List UInt8)):Option (((List UInt8))⊕((List UInt8))):=Ad (if(decide ((s2.length:Int)>1))=true then Ad (Ei s2) fun x18=>some (!x18)else some false) fun x17=>if x17=true then Ad (cut s2 1 (s2.length:Int)) fun x19=>some (.inl x19)else some (.inr s2)
def Db (a0:Int):Option g_api_Item:=Ad (Ad (Ck (Gt a0) 8 0 (0,0,0,0,0,0,0,0)) fun x2=>some (x2.1,x2.2.1,x2.2.2.1,x2.2.2.2.1,x2.2.2.2.2.1,x2.2.2.2.2.2.1,x2.2.2.2.2.2.2.1,x2.2.2.2.2.2.2.2)) fun x1=>Ad (Ad (iter Cc E4 ([x1.1,x1.2.1,x1.2.2.1,x1.2.2.2.1,x1.2.2.2.2.1,x1.2.2.2.2.2.1,x1.2.2.2.2.2.2.1,x1.2.2.2.2.2.2.2]:List UInt8)) fun x14=>some x14) fun x13=>Ad (AR x13) fun x20=>some (⟨2,x20,[]⟩:g_api_Item)
theorem R9 {m:Mem}{As:List Ow}{w:World}{a0:Int}{r:g_api_Item}(S:St m (As) w)(hm:Db a0=some r):
  Az Tryz.prog 106 #[vI a0] w fun v w'=> ∃(M:Mem),m≤M∧∃(rv0_1:Value) (rv0_2:Value),St M (As) w'∧v= .agg #[vI r.Tag,rv0_1,rv0_2]∧SlR M rv0_1 r.B∧SlR M rv0_2 r.L:=by
 unfold Db at hm;have L0:=Mem.rfl' m;refine Co (args:=[vI a0]) Tryz.func106 rfl Tryz.ntmps106 (Nat.le_of_ble_eq_true rfl) ?_;refine Af ?_;refine Ac ?_;refine EC S Tryz.zeroValue79 ?_;intro b1 w1 S1;replace S1:St _ ((bx b1 [vI 0,.slice none 0 0,.slice none 0 0] 79)::As) _:=S1;clear S;refine Ag ?_;refine nrm ?_;refine Af ?_;refine Ac ?_;refine EC S1 Tryz.zeroValue155 ?_;intro b2 w2 S2;replace S2:St _ ((bx b2 [vB 0,vB 0,vB 0,vB 0,vB 0,vB 0,vB 0,vB 0] 155)::(bx b1 [vI 0,.slice none 0 0,.slice none 0 0] 79)::As) _:=S2;clear S1;refine Ag ?_;refine nrm ?_;obtain⟨x1,q1,hm⟩:=Aa hm;have L1:=Mem.rfl' m;refine Af ?_;refine Bn [4,6,7,8,9,10,11,12,13,14,15,16,17] (fun f' w'=> ∃(M1:Mem),m≤M1∧St M1 ((bx b2 [vB x1.1,vB x1.2.1,vB x1.2.2.1,vB x1.2.2.2.1,vB x1.2.2.2.2.1,vB x1.2.2.2.2.2.1,vB x1.2.2.2.2.2.2.1,vB x1.2.2.2.2.2.2.2] 155)::(bx b1 [vI 0,.slice none 0 0,.slice none 0 0] 79)::As) w'∧B5 f' []) ?_ ?_
 ·refine Af ?_;refine Ac ?_;refine Ap (v:=vI 0) rfl ?_;refine Ag ?_;refine nrm ?_;obtain⟨x2,q2,q1⟩:=Aa q1;have L2:=Mem.rfl' m;refine Bn [4,6,7,8,9,10,11,12,13,14,15,16,17] (fun f' w'=> ∃(M2:Mem),m≤M2∧St M2 ((bx b2 [vB x2.1,vB x2.2.1,vB x2.2.2.1,vB x2.2.2.2.1,vB x2.2.2.2.2.1,vB x2.2.2.2.2.2.1,vB x2.2.2.2.2.2.2.1,vB x2.2.2.2.2.2.2.2] 155)::(bx b1 [vI 0,.slice none 0 0,.slice none 0 0] 79)::As) w'∧B5 f' []) ?_ ?_
  ·refine AA ?_;refine BL [4,6,7,8,9,10,11,12,13,14,15,16,17] (fun n1 f' w'=> ∃(i1:Nat) (s1:UInt8×UInt8×UInt8×UInt8×UInt8×UInt8×UInt8×UInt8) (m2:Mem),n1=8-i1∧i1≤8∧Ck (Gt a0) (8-i1) (i1:Int) s1=some x2∧m≤m2∧St m2 ((bx b2 [vB s1.1,vB s1.2.1,vB s1.2.2.1,vB s1.2.2.2.1,vB s1.2.2.2.2.1,vB s1.2.2.2.2.2.1,vB s1.2.2.2.2.2.2.1,vB s1.2.2.2.2.2.2.2] 155)::(bx b1 [vI 0,.slice none 0 0,.slice none 0 0] 79)::As) w'∧B5 f' [(6,vI (i1:Int))]) 8 ⟨0,(0,0,0,0,0,0,0,0),m,rfl,Nat.zero_le _,q2,L2,S2,⟨rfl,trivial⟩⟩ ?_;rintro n1 f1 w3 ho ⟨i1,s1,m1,hn,hi,q3,L4,S3,ha⟩;obtain⟨u1,rfl⟩:=BP (N:=32) ho ha;clear ho ha;have L3:=Mem.rfl' m1;clear S2;refine Af ?_;refine Ac ?_;refine IN (m:=(i1:Int)) (n:=8) rfl rfl ?_;refine Ag ?_;refine nrm ?_;refine Af ?_;refine B3 (t:=decide ((i1:Int)<(8:Int))) rfl (fun hc1=> ?_) (fun hc1=> ?_)
   ·have hlt1:i1<8:=by have:=of_decide_eq_true hc1; omega
    obtain⟨y1,q5,q4⟩:=Ge q3 hlt1;unfold Gt at q5;refine A7 ?_;refine nrm ?_;refine Af ?_;refine AA ?_;refine Af ?_;refine Ac ?_;refine Ap (v:=vI (i1:Int)) rfl ?_;refine Bb (v:=vI (i1:Int)) rfl ?_;refine Ag ?_;refine nrm ?_;refine Ac ?_;refine Ap (v:=vI (i1:Int)) rfl ?_;refine Ap (v:=vI a0) rfl ?_;refine Ap (v:=vI (i1:Int)) rfl ?_;refine OA (m:=8) (n:=(i1:Int)) rfl rfl ?_;refine KM (m:=56) (n:=(w64 (8*(i1:Int)))) rfl rfl ?_;obtain⟨q7,q5⟩:=B2 q5;refine Wg (m:=a0) (n:=(w64 (56-(w64 (8*(i1:Int)))))) rfl rfl q7 ?_;refine Pt rfl Tryz.underlying3 Tryz.underlying5 ?_;obtain⟨x4,q8,q5⟩:=Aa q5;refine KO (i:=(i1:Int)) rfl rfl Tryz.underlying155 Tryz.sizeOf5 (El q8).1 (El q8).2 ?_;obtain⟨x5,q9,q5⟩:=CT q5;obtain⟨x6,q10,q5⟩:=CT q5;obtain⟨x7,q11,q5⟩:=CT q5;obtain⟨x8,q12,q5⟩:=CT q5;obtain⟨x9,q13,q5⟩:=CT q5;obtain⟨x10,q14,q5⟩:=CT q5;obtain⟨x11,q15,q5⟩:=CT q5;obtain⟨x12,q16,q5⟩:=CT q5;refine Xt (i:=0) (off:=0+(i1:Int).toNat*1) S3 rfl rfl rfl Tryz.sizeOf5 (RS.all (H0 rfl KV)) (by rcases idx8 q8 with ⟨h,h'⟩|⟨h,h'⟩|⟨h,h'⟩|⟨h,h'⟩|⟨h,h'⟩|⟨h,h'⟩|⟨h,h'⟩|⟨h,h'⟩<;>(rw[h]; exact Nat.le_of_ble_eq_true rfl)) ?_;intro w4 S4;replace S4:=St.cellsTo (i:=0) (l':=[vB x5,vB x6,vB x7,vB x8,vB x9,vB x10,vB x11,vB x12]) S4 (by rcases idx8 q8 with ⟨h,h'⟩|⟨h,h'⟩|⟨h,h'⟩|⟨h,h'⟩|⟨h,h'⟩|⟨h,h'⟩|⟨h,h'⟩|⟨h,h'⟩<;>(simp only[q9,q10,q11,q12,q13,q14,q15,q16,h]; rfl)) rfl;replace S4:St _ ((bx b2 [vB x5,vB x6,vB x7,vB x8,vB x9,vB x10,vB x11,vB x12] 155)::(bx b1 [vI 0,.slice none 0 0,.slice none 0 0] 79)::As) _:=S4;clear S3;refine Ag ?_;refine J9 ?_;refine nrm ?_;refine Ac ?_;refine Fp (m:=(i1:Int)) (n:=1) rfl rfl ?_;refine Ap (v:=vI (w64 ((i1:Int)+1))) rfl ?_;refine Ag ?_;refine nrm ?_;have e0:=Option.some.inj q5;subst e0;exact⟨Fl,_,(by omega),⟨i1+1,(x5,x6,x7,x8,x9,x10,x11,x12),m1,rfl,hlt1,q4,Mem.tr L4 L3,S4,⟨congrArg (Value.int .i64) (Bc hlt1 (by decide)),trivial⟩⟩⟩
   have hlt1: ¬i1<8:=by have:=of_decide_eq_false hc1; omega
   have e:=Eq.symm (Fk q3 hlt1);subst e;refine CH ?_;refine thE ?_;refine thE ?_;refine exB ?_;refine nrm ?_;exact⟨Fl,m1,Mem.tr L4 L3,S3,trivial⟩
  rintro f2 w5 ho ⟨m3,l1,S5,ha⟩;obtain⟨u2,rfl⟩:=BP (N:=32) ho ha;clear ho ha;replace L1:=Mem.tr L1 l1;clear S2;have e0:=Option.some.inj q1;subst e0;exact⟨Fl,m3,L1,S5,trivial⟩
 rintro f3 w6 ho ⟨m4,l2,S6,ha⟩;obtain⟨u3,rfl⟩:=BP (N:=32) ho ha;replace L0:=Mem.tr L0 l2;clear S2;refine Af ?_;refine Ac ?_;refine J4 (k:=8) (n:=8) (sz:=1) (off:=0) rfl Tryz.underlying155 Tryz.sizeOf5 (.inl ⟨rfl,rfl⟩) (Nat.le_refl _) ?_;have S7:=St.bxRow (i:=0) (sz:=1) (n:=8) S6 rfl rfl (by decide);have h1:Bq m4 [vB x1.1,vB x1.2.1,vB x1.2.2.1,vB x1.2.2.2.1,vB x1.2.2.2.2.1,vB x1.2.2.2.2.2.1,vB x1.2.2.2.2.2.2.1,vB x1.2.2.2.2.2.2.2] ([x1.1,x1.2.1,x1.2.2.1,x1.2.2.2.1,x1.2.2.2.2.1,x1.2.2.2.2.2.1,x1.2.2.2.2.2.2.1,x1.2.2.2.2.2.2.2]:List UInt8):=(Bq.cons (c:=[vB x1.1]) rfl (Bq.cons (c:=[vB x1.2.1]) rfl (Bq.cons (c:=[vB x1.2.2.1]) rfl (Bq.cons (c:=[vB x1.2.2.2.1]) rfl (Bq.cons (c:=[vB x1.2.2.2.2.1]) rfl (Bq.cons (c:=[vB x1.2.2.2.2.2.1]) rfl (Bq.cons (c:=[vB x1.2.2.2.2.2.2.1]) rfl (Bq.cons (c:=[vB x1.2.2.2.2.2.2.2]) rfl Bq.nil))))))));replace S7:St _ ((row 1 (.slice (some ⟨b2,0,none⟩) 8 8) [vB x1.1,vB x1.2.1,vB x1.2.2.1,vB x1.2.2.2.1,vB x1.2.2.2.2.1,vB x1.2.2.2.2.2.1,vB x1.2.2.2.2.2.2.1,vB x1.2.2.2.2.2.2.2] ([x1.1,x1.2.1,x1.2.2.1,x1.2.2.2.1,x1.2.2.2.2.1,x1.2.2.2.2.2.1,x1.2.2.2.2.2.2.1,x1.2.2.2.2.2.2.2]:List UInt8).length)::(bx b1 [vI 0,.slice none 0 0,.slice none 0 0] 79)::As) _:=S7;clear S6;refine Bb (v:=(.slice (some ⟨b2,0,none⟩) 8 8)) rfl ?_;refine Ag ?_;refine nrm ?_;obtain⟨x13,q17,hm⟩:=Aa hm;have L5:=Mem.rfl' m4;refine Af ?_;refine Bn [5,19,20,21,22,23,24,25,26,27,28] (fun f' w'=> ∃(M3:Mem) (v1:Value),m4≤M3∧St M3 ((bx b1 [vI 0,.slice none 0 0,.slice none 0 0] 79)::As) w'∧SlR M3 v1 x13∧B5 f' [(5,v1)]) ?_ ?_
 ·obtain⟨x14,q18,q17⟩:=Aa q17;have L6:=Mem.rfl' m4;obtain⟨m5,l3,h4,S8⟩:=St.rowKeepT (i:=0) S7 rfl h1 rfl;replace L6:=Mem.tr L6 l3;clear S7;refine Bn [5,19,20,21,22,23,24,25,26,27,28] (fun f' w'=> ∃(M4:Mem) (v3:Value),m4≤M4∧St M4 ((bx b1 [vI 0,.slice none 0 0,.slice none 0 0] 79)::As) w'∧SlR M4 v3 x14∧B5 f' [(5,v3)]) ?_ ?_
  ·refine AA ?_;refine BL [5,19,20,21,22,23,24,25,26,27,28] (fun n2 f' w'=> ∃(s2:(List UInt8)) (m10:Mem) (v2:Value),iter Cc n2 s2=some x14∧m4≤m10∧St m10 ((bx b1 [vI 0,.slice none 0 0,.slice none 0 0] 79)::As) w'∧SlR m10 v2 s2∧B5 f' [(5,v2)]) E4 ⟨([x1.1,x1.2.1,x1.2.2.1,x1.2.2.2.1,x1.2.2.2.2.1,x1.2.2.2.2.2.1,x1.2.2.2.2.2.2.1,x1.2.2.2.2.2.2.2]:List UInt8),m5,_,q18,L6,S8,h4,⟨rfl,trivial⟩⟩ ?_;rintro n2 f4 w7 ho ⟨s2,m6,v2,q19,L8,S9,h3,ha⟩;obtain⟨u4,rfl⟩:=BP (N:=32) ho ha;clear ho ha;have L7:=Mem.rfl' m6;clear S8;cases n2 with
   |zero=>exact(BK q19).elim
   |succ n2=>
    obtain⟨y2,q21,q20⟩:=BE q19;unfold Cc at q21;refine Af ?_;refine Af ?_;refine Ac ?_;refine Ap (v:=v2) rfl ?_;refine HF (xs:=s2) rfl h3 Tryz.underlying52 ?_;refine Rx (m:=(s2.length:Int)) (n:=1) rfl rfl ?_;refine Ap (v:=vb (decide ((s2.length:Int)>1))) rfl ?_;obtain⟨x17,q24,q21⟩:=Aa q21;have L9:=Mem.rfl' m6;refine MH 4 [23,24,25,26] (fun f' w'=> ∃(M5:Mem),m6≤M5∧St M5 ((bx b1 [vI 0,.slice none 0 0,.slice none 0 0] 79)::As) w'∧B5 f' [(26,vb x17)]) ?_ ?_
    ·rcases NU (decide ((s2.length:Int)>1))with hb1|hb1
     ·replace q24:=ifT hb1 q24;refine Ec (d:=22) rfl rfl (congrArg Value.bool hb1) ?_;refine Ap (v:=v2) rfl ?_;refine Ec (d:=22) rfl rfl (congrArg Value.bool hb1) ?_;obtain⟨x18,q25,q24⟩:=Aa q24;refine CJ Tryz.call157 (Pn (a0:=s2) S9 h3 q25) rfl ?_;rintro _ w9 ⟨m8,l5,S11,rfl⟩;replace h3:=h3.up l5;replace L9:=Mem.tr L9 l5;clear S9;replace S11:St _ ((bx b1 [vI 0,.slice none 0 0,.slice none 0 0] 79)::As) _:=S11;refine Ec (d:=22) rfl rfl (congrArg Value.bool hb1) ?_;refine Ps rfl ?_;refine Hc (congrArg Value.bool hb1) rfl ?_;refine Ag (nrm ?_);have e0:=Option.some.inj q24;subst e0;exact⟨Fl,m8,L9,S11,⟨rfl,trivial⟩⟩
     replace q24:=ifF hb1 q24;refine E5 (d:=22) rfl rfl (congrArg Value.bool hb1) ?_;refine E5 (d:=22) rfl rfl (congrArg Value.bool hb1) ?_;refine E5 (d:=22) rfl rfl (congrArg Value.bool hb1) ?_;refine Hd (congrArg Value.bool hb1) rfl ?_;refine Ag (nrm ?_);have e0:=Option.some.inj q24;subst e0;exact⟨Fl,m6,L9,S9,⟨rfl,trivial⟩⟩
    rintro f5 w10 ho ⟨m9,l6,S12,ha⟩;obtain⟨u5,rfl⟩:=BP (N:=32) ho ha;replace h3:=h3.up l6;replace L7:=Mem.tr L7 l6;clear S9;refine Ag ?_;refine nrm ?_;refine B3 (t:=x17) rfl (fun hc2=> ?_) (fun hc2=> ?_)
    ·replace q21:=ifT hc2 q21;refine A7 ?_;refine nrm ?_;refine AA ?_;refine Ac ?_;refine Ap (v:=v2) rfl ?_;obtain⟨x19,q26,q21⟩:=Aa q21;refine Ry (ys:=x19) (l:=1) (h:=(s2.length:Int)) rfl h3 Tryz.underlying52 Tryz.sizeOf5 (.inr ⟨_,rfl⟩) (.inl ⟨rfl,rfl⟩) (.inl rfl) q26 ?_;intro v4 h6;refine Bb (v:=v4) rfl ?_;refine Ag ?_;refine J9 ?_;refine nrm ?_;have e0:=Option.some.inj q21;subst e0;rcases q20 with ⟨sn,e,q20'⟩|e
     ·cases e;exact⟨Fl,_,Nat.lt_succ_self _,⟨_,m9,_,q20',Mem.tr L8 L7,S12,h6,⟨rfl,trivial⟩⟩⟩
     ·cases e
    replace q21:=ifF hc2 q21;refine CH ?_;refine thE ?_;refine thE ?_;refine exB ?_;refine nrm ?_;have e0:=Option.some.inj q21;subst e0;rcases q20 with ⟨sn,e,_⟩|e
    ·cases e
    ·cases e;exact⟨Fl,m9,_,Mem.tr L8 L7,S12,h3,⟨rfl,trivial⟩⟩
  rintro f6 w11 ho ⟨m11,v3,l7,S13,h5,ha⟩;obtain⟨u6,rfl⟩:=BP (N:=32) ho ha;clear ho ha;replace L5:=Mem.tr L5 l7;clear S8;have e0:=Option.some.inj q17;subst e0;exact⟨Fl,m11,_,L5,S13,h5,⟨rfl,trivial⟩⟩
 rintro f7 w12 ho ⟨m12,v1,l8,S14,h2,ha⟩;obtain⟨u7,rfl⟩:=BP (N:=32) ho ha;replace L0:=Mem.tr L0 l8;clear S7;refine Af ?_;refine Ac ?_;refine Ap (v:=v1) rfl ?_;obtain⟨x20,q27,hm⟩:=Aa hm;refine CJ Tryz.call158 (En (a0:=x13) S14 h2 q27) rfl ?_;rintro v5 w13 ⟨m13,l9,_,c1,S15,rfl,h7⟩;replace h2:=h2.up l9;replace L0:=Mem.tr L0 l9;clear S14;replace S15:St _ ((row 1 v5 c1 x20.length)::(bx b1 [vI 0,.slice none 0 0,.slice none 0 0] 79)::As) _:=S15;obtain⟨m14,l10,h8,S16⟩:=St.rowKeepT (i:=0) S15 rfl h7 rfl;replace L0:=Mem.tr L0 l10;clear S15;refine Pu (parts:=[(0,.const (.int .i64 2)),(1,.tmp 30)]) (ps:=[(0,vI 2,[vI 2]),(1,v5,[v5])]) (cs:=[vI 2,v5,.slice none 0 0]) Tryz.zeroValue79 (Hj.str (ss:=[1,1,1]) Tryz.underlying79 ⟨Tryz.sizeOf3,Tryz.sizeOf52,Tryz.sizeOf77,trivial⟩) rfl ⟨rfl,SlR.cells h8,trivial⟩ rfl ?_;refine Hb (i:=0) S16 rfl rfl rfl Tryz.sizeOf79 (H0 rfl (H0 (SlR.one h8) (H0 rfl KV))) rfl ?_;intro w14 S17;replace S17:St _ ((bx b1 [vI 2,v5,.slice none 0 0] 79)::As) _:=S17;clear S16;refine Ag ?_;refine nrm ?_;refine Bl ?_;refine Dx ?_;intro we hpd;replace S17:=St.pd S17 hpd;have SR:=S17;obtain⟨m15,l11,S18⟩:=St.drop S17 0;replace h8:=h8.up l11;replace L0:=Mem.tr L0 l11;replace S18:St _ (As) _:=S18;have e0:=Option.some.inj hm;subst e0;exact G4 [_] rfl ⟨Hf (i:=0) (off:=0) (cs:=[vI 2,v5,.slice none 0 0]) SR rfl rfl Tryz.isAgg79 Tryz.sizeOf79 rfl (fun h=>by cases h),trivial⟩ ⟨_,L0,_,_,S18,rfl,h8,SlR.nil⟩
theorem F4 {a0:Int}{r:g_api_Item}(hm:Db a0=some r):Sf prog 106 [.d (.i a0)] (ag (Ai r)):=
 ⟨call106,fun η m As w vs hv0 hd S=>by
  have S:St m As w:=S;obtain⟨v0,u0,rfl,r0,hv1⟩:=Bj.cons_inv hv0;obtain rfl:=r0.i_inv;obtain rfl:=Bj.nil_inv hv1;refine Az.mono (R9 S hm) ?_;rintro v w' ⟨M,hle,y0_0,y0_1,S0,rfl,h0_0,h0_1⟩;exact⟨M,none0,_,_,_,hle,RM hd _,⟨rfl,rfl,rfl⟩,fun n h=>absurd rfl h,(Br.toA Jv (Nz h0_0 h0_1)),S0⟩⟩
def CN (a0:UInt64):Option g_api_Item:=Ad (Db (w64 (a0.toNat:Int))) fun x1=>some x1
theorem Fa {a0:UInt64}{r:g_api_Item}(hm:CN a0=some r):Sf prog 101 [.d (.u a0)] (ag (Ai r)):=
 sp call101 func101 rfl ntmps101 rfl fun D0 As η0 m0 hd=>by
  unfold CN at hm;obtain⟨x1,q1,hm⟩:=Aa hm;refine gc (fun _=>F4 q1) ?_;have e0:=Option.some.inj hm;subst e0;exact AO hd
def Fi (a0:ByteArray):Option g_api_Item:=Ad (app 1 ([]:List UInt8) a0.data.toList) fun x1=>some (⟨12,x1,[]⟩:g_api_Item)
theorem Jf {a0:ByteArray}{r:g_api_Item}(hm:Fi a0=some r):Sf prog 154 [.d (.s a0)] (ag (Ai r)):=
 sp call154 func154 rfl ntmps154 rfl fun D0 As η0 m0 hd=>by
  unfold Fi at hm;obtain⟨x1,q1,hm⟩:=Aa hm;refine gofS q1 ?_;have e0:=Option.some.inj hm;subst e0;exact AO hd
def H4 (a0:Bool):Option g_api_Item:=Ad (if a0=true then Ad (idx ([0]:List UInt8) 0) fun x2=>bnd (([0]:List UInt8).set (0:Int).toNat 255) fun x3=>some x3 else some ([0]:List UInt8)) fun x1=>some (⟨1,x1,[]⟩:g_api_Item)
theorem Rp {a0:Bool}{r:g_api_Item}(hm:H4 a0=some r):Sf prog 156 [.d (.t a0)] (ag (Ai r)):=
 sp call156 func156 rfl ntmps156 rfl fun D0 As η0 m0 hd=>by
  unfold H4 at hm;refine glit (k:=1) eB ([0]:List UInt8) (fun _=>rfl) ?_;obtain⟨x1,q1,hm⟩:=Aa hm;refine gj (fun(_:Unit)=>⟨[(2,.pb 0 0),(3,.ow 1)],[(0,.row 1 1 _ eB x1),(1,.box 0 [.d (.i 0),sl eB [],sl Ai []] 79)],[],2⟩) (fun _=>True) (fun Jp bk1=> ?_) fun _ _=> ?_
  ·refine gi q1 (fun hc1 q1=> ?_) fun hc1 q1=> ?_
   ·obtain⟨x2,q2,q1⟩:=Aa q1;refine VO (E:=eB) (fun _=>q2) ?_;have q1:=Ba q1;let x3:List UInt8:=(([0]:List UInt8).set (0:Int).toNat 255);refine gstO (k:=1) (E:=eB) 255 (fun _=>rfl) q2 ?_;have e0:=Option.some.inj q1;subst e0;exact gb bk1 hd () trivial
   have e0:=Option.some.inj q1;subst e0;exact gb bk1 hd () trivial
  have e0:=Option.some.inj hm;subst e0;exact AO hd
def AU (i1:Int)(x3:ByteArray)(s1:(List g_api_Item)):Option ((List g_api_Item)):=Ad (Fi x3) fun x4=>Ad (app 56 s1 ([x4]:List g_api_Item)) fun x5=>some x5
def Bw (a0:List ByteArray):Option g_api_Item:=Ad (Ad (EU AU a0 0 ([]:List g_api_Item)) fun x2=>some x2) fun x1=>Ad (DC x1) fun x6=>some x6
theorem E6 {a0:List ByteArray}{r:g_api_Item}(hm:Bw a0=some r):Sf prog 155 [sl eS a0,.fn (.func 154) [] []] (ag (Ai r)):=
 sp call155 func155 rfl ntmps155 rfl fun D0 As η0 m0 hd=>by
  unfold Bw at hm;obtain⟨x1,q1,hm⟩:=Aa hm;obtain⟨x2,q2,q1⟩:=Aa q1;refine Yr 0 Ai 5 3 ?_;refine Mq 0 (E:=eS) (xs:=a0) 8 fun hle1=> ?_;refine gjU 0 (fun(_:Unit)=>⟨[(4,.pb 0 0),(5,.ow 1)],[(0,.row 1 3 _ Ai x1),(1,.box 0 [.d (.i 0),sl eB [],sl Ai []] 79)],[],2⟩) (fun _=>True) (fun Jp bk1=> ?_) fun _ _=> ?_
  ·refine gjU 0 (fun(_:Unit)=>⟨[(4,.pb 0 0),(5,.ow 1)],[(0,.row 1 3 _ Ai x2),(1,.box 0 [.d (.i 0),sl eB [],sl Ai []] 79)],[],2⟩) (fun _=>True) (fun Jp bk2=> ?_) fun _ _=> ?_
   ·refine gl hd (fun(p:Int×((List g_api_Item)))=>let (p0,p_0):=p; ⟨[(1,.fn (.func 154) [] []),(4,.pb 0 0),(5,.ow 1),(8,sl eS a0),(9,.d (.i (a0.length:Int))),(10,.d (.i p0))],[(0,.row 1 3 _ Ai p_0),(1,.box 0 [.d (.i 0),sl eB [],sl Ai []] 79)],[],2⟩) (fun p=> ∃i:Nat,p.1=(i:Int)∧i≤a0.length∧EU AU (a0.drop i) (i:Int) p.2=some x2) (fun p=>a0.length-p.1.toNat) (0,([]:List g_api_Item)) ⟨0,rfl,Nat.zero_le _,q2⟩ ?_;rintro⟨_,s1⟩ ⟨i1,rfl,hi,q3⟩ Jl bl1;refine gi' (b:=decide ((i1:Int)<(a0.length:Int))) (fun hc1=> ?_) fun hc1=> ?_
    ·have hlt1:i1<a0.length:=by have:=of_decide_eq_true hc1; omega
     obtain⟨x3,y1,q6,q5,q4⟩:=H9 q3 hlt1;unfold AU at q5;refine Hs (k:=1) (E:=eS) (fun _=>rfl) (fun _=>q6) ?_;obtain⟨x4,q7,q5⟩:=Aa q5;refine gc (fun _=>Jf q7) ?_;refine ES (k:=3) Ai ([x4]:List g_api_Item) (fun _=>rfl) ?_;obtain⟨x5,q8,q5⟩:=Aa q5;refine RK (k:=3) (E:=Ai) (fun _=>rfl) q8 ?_;have e0:=Option.some.inj q5;subst e0;exact gb bl1 hd (w64 ((i1:Int)+1),x5) ⟨⟨i1+1,Bc hlt1 hle1,by omega,q4⟩,Gl hlt1 hle1⟩
    have hlt1: ¬i1<a0.length:=by have:=of_decide_eq_false hc1; omega
    have e:=Eq.symm (G2 q3 hlt1);subst e;exact gb bk2 hd () trivial
   have e0:=Option.some.inj q1;subst e0;exact gb bk1 hd () trivial
  obtain⟨x6,q9,hm⟩:=Aa hm;refine gco (F0 q9) ?_;have e0:=Option.some.inj hm;subst e0;exact AO hd
def G1 (a0:g_api_Cert):Option g_api_Item:=Ad (Db a0.Serial) fun x1=>Ad (Fi a0.Issuer) fun x2=>Ad (Fi a0.Subject) fun x3=>Ad (CN a0.Key) fun x4=>Ad (Bw a0.Names) fun x5=>Ad (Db a0.From) fun x6=>Ad (Db a0.Until) fun x7=>Ad (H4 a0.Ca) fun x8=>Ad (Db a0.Depth) fun x9=>Ad (Bw a0.Permit) fun x10=>Ad (DC ([x1,x2,x3,x4,x5,x6,x7,x8,x9,x10]:List g_api_Item)) fun x11=>some x11
theorem Rq {a0:g_api_Cert}{r:g_api_Item}(hm:G1 a0=some r):Sf prog 103 [ag (Ae a0)] (ag (Ai r)):=
 sp call103 func103 rfl ntmps103 rfl fun D0 As η0 m0 hd=>by
  unfold G1 at hm;obtain⟨x1,q1,hm⟩:=Aa hm;refine gc (fun _=>F4 q1) ?_;obtain⟨x2,q2,hm⟩:=Aa hm;refine gc (fun _=>Jf q2) ?_;obtain⟨x3,q3,hm⟩:=Aa hm;refine gc (fun _=>Jf q3) ?_;obtain⟨x4,q4,hm⟩:=Aa hm;refine gc (fun _=>Fa q4) ?_;obtain⟨x5,q5,hm⟩:=Aa hm;refine gc (fun _=>E6 q5) ?_;obtain⟨x6,q6,hm⟩:=Aa hm;refine gc (fun _=>F4 q6) ?_;obtain⟨x7,q7,hm⟩:=Aa hm;refine gc (fun _=>F4 q7) ?_;obtain⟨x8,q8,hm⟩:=Aa hm;refine gc (fun _=>Rp q8) ?_;obtain⟨x9,q9,hm⟩:=Aa hm;refine gc (fun _=>F4 q9) ?_;obtain⟨x10,q10,hm⟩:=Aa hm;refine gc (fun _=>E6 q10) ?_;refine ES (k:=3) Ai ([x1,x2,x3,x4,x5,x6,x7,x8,x9,x10]:List g_api_Item) (fun _=>rfl) ?_;obtain⟨x11,q11,hm⟩:=Aa hm;refine gc (fun _=>F0 q11) ?_;have e0:=Option.some.inj hm;subst e0;exact AO hd
def EP (a0:g_api_Promise):Option g_api_Item:=Ad (Db a0.Log) fun x1=>Ad (Db a0.At) fun x2=>Ad (CN a0.Leaf.1) fun x3=>Ad (CN a0.Leaf.2) fun x4=>Ad (CN a0.Sig.E) fun x5=>Ad (CN a0.Sig.S) fun x6=>Ad (DC ([x1,x2,x3,x4,x5,x6]:List g_api_Item)) fun x7=>some x7
theorem MZ {a0:g_api_Promise}{r:g_api_Item}(hm:EP a0=some r):Sf prog 105 [ag (Ak a0)] (ag (Ai r)):=
 sp call105 func105 rfl ntmps105 rfl fun D0 As η0 m0 hd=>by
  unfold EP at hm;obtain⟨x1,q1,hm⟩:=Aa hm;refine gc (fun _=>F4 q1) ?_;obtain⟨x2,q2,hm⟩:=Aa hm;refine gc (fun _=>F4 q2) ?_;obtain⟨x3,q3,hm⟩:=Aa hm;refine gc (fun _=>Fa q3) ?_;obtain⟨x4,q4,hm⟩:=Aa hm;refine gc (fun _=>Fa q4) ?_;obtain⟨x5,q5,hm⟩:=Aa hm;refine gc (fun _=>Fa q5) ?_;obtain⟨x6,q6,hm⟩:=Aa hm;refine gc (fun _=>Fa q6) ?_;refine ES (k:=3) Ai ([x1,x2,x3,x4,x5,x6]:List g_api_Item) (fun _=>rfl) ?_;obtain⟨x7,q7,hm⟩:=Aa hm;refine gc (fun _=>F0 q7) ?_;have e0:=Option.some.inj hm;subst e0;exact AO hd
def AG (i1:Int)(x3:g_api_Promise)(s1:(List g_api_Item)):Option ((List g_api_Item)):=Ad (EP x3) fun x4=>Ad (app 56 s1 ([x4]:List g_api_Item)) fun x5=>some x5
def Bp (a0:List g_api_Promise):Option g_api_Item:=Ad (Ad (EU AG a0 0 ([]:List g_api_Item)) fun x2=>some x2) fun x1=>Ad (DC x1) fun x6=>some x6
theorem F3 {a0:List g_api_Promise}{r:g_api_Item}(hm:Bp a0=some r):Sf prog 104 [sl Ak a0,.fn (.func 105) [] []] (ag (Ai r)):=
 sp call104 func104 rfl ntmps104 rfl fun D0 As η0 m0 hd=>by
  unfold Bp at hm;obtain⟨x1,q1,hm⟩:=Aa hm;obtain⟨x2,q2,q1⟩:=Aa q1;refine Yr 0 Ai 5 3 ?_;refine Mq 0 (E:=Ak) (xs:=a0) 8 fun hle1=> ?_;refine gjU 0 (fun(_:Unit)=>⟨[(4,.pb 0 0),(5,.ow 1)],[(0,.row 1 3 _ Ai x1),(1,.box 0 [.d (.i 0),sl eB [],sl Ai []] 79)],[],2⟩) (fun _=>True) (fun Jp bk1=> ?_) fun _ _=> ?_
  ·refine gjU 0 (fun(_:Unit)=>⟨[(4,.pb 0 0),(5,.ow 1)],[(0,.row 1 3 _ Ai x2),(1,.box 0 [.d (.i 0),sl eB [],sl Ai []] 79)],[],2⟩) (fun _=>True) (fun Jp bk2=> ?_) fun _ _=> ?_
   ·refine gl hd (fun(p:Int×((List g_api_Item)))=>let (p0,p_0):=p; ⟨[(1,.fn (.func 105) [] []),(4,.pb 0 0),(5,.ow 1),(8,sl Ak a0),(9,.d (.i (a0.length:Int))),(10,.d (.i p0))],[(0,.row 1 3 _ Ai p_0),(1,.box 0 [.d (.i 0),sl eB [],sl Ai []] 79)],[],2⟩) (fun p=> ∃i:Nat,p.1=(i:Int)∧i≤a0.length∧EU AG (a0.drop i) (i:Int) p.2=some x2) (fun p=>a0.length-p.1.toNat) (0,([]:List g_api_Item)) ⟨0,rfl,Nat.zero_le _,q2⟩ ?_;rintro⟨_,s1⟩ ⟨i1,rfl,hi,q3⟩ Jl bl1;refine gi' (b:=decide ((i1:Int)<(a0.length:Int))) (fun hc1=> ?_) fun hc1=> ?_
    ·have hlt1:i1<a0.length:=by have:=of_decide_eq_true hc1; omega
     obtain⟨x3,y1,q6,q5,q4⟩:=H9 q3 hlt1;unfold AG at q5;refine Hs (k:=6) (E:=Ak) (fun _=>rfl) (fun _=>q6) ?_;obtain⟨x4,q7,q5⟩:=Aa q5;refine gc (fun _=>MZ q7) ?_;refine ES (k:=3) Ai ([x4]:List g_api_Item) (fun _=>rfl) ?_;obtain⟨x5,q8,q5⟩:=Aa q5;refine RK (k:=3) (E:=Ai) (fun _=>rfl) q8 ?_;have e0:=Option.some.inj q5;subst e0;exact gb bl1 hd (w64 ((i1:Int)+1),x5) ⟨⟨i1+1,Bc hlt1 hle1,by omega,q4⟩,Gl hlt1 hle1⟩
    have hlt1: ¬i1<a0.length:=by have:=of_decide_eq_false hc1; omega
    have e:=Eq.symm (G2 q3 hlt1);subst e;exact gb bk2 hd () trivial
   have e0:=Option.some.inj q1;subst e0;exact gb bk1 hd () trivial
  obtain⟨x6,q9,hm⟩:=Aa hm;refine gco (F0 q9) ?_;have e0:=Option.some.inj hm;subst e0;exact AO hd
def Fj (a0:g_api_Cert):Option g_api_Item:=Ad (G1 a0) fun x1=>Ad (Bp a0.Proms) fun x2=>Ad (DC ([x1,x2]:List g_api_Item)) fun x3=>some x3
theorem KA {a0:g_api_Cert}{r:g_api_Item}(hm:Fj a0=some r):Sf prog 59 [ag (Ae a0)] (ag (Ai r)):=
 sp call59 func59 rfl ntmps59 rfl fun D0 As η0 m0 hd=>by
  unfold Fj at hm;obtain⟨x1,q1,hm⟩:=Aa hm;refine gc (fun _=>Rq q1) ?_;obtain⟨x2,q2,hm⟩:=Aa hm;refine gc (fun _=>F3 q2) ?_;refine ES (k:=3) Ai ([x1,x2]:List g_api_Item) (fun _=>rfl) ?_;obtain⟨x3,q3,hm⟩:=Aa hm;refine gc (fun _=>F0 q3) ?_;have e0:=Option.some.inj hm;subst e0;exact AO hd
def Ft (a0:g_api_Cert):Option g_api_Item:=Ad (Fj a0) fun x1=>Ad (CN a0.Sig.E) fun x2=>Ad (CN a0.Sig.S) fun x3=>Ad (DC ([x2,x3]:List g_api_Item)) fun x4=>Ad (DC ([x1,x4]:List g_api_Item)) fun x5=>some x5
theorem Oj {a0:g_api_Cert}{r:g_api_Item}(hm:Ft a0=some r):Sf prog 54 [ag (Ae a0)] (ag (Ai r)):=
 sp call54 func54 rfl ntmps54 rfl fun D0 As η0 m0 hd=>by
  unfold Ft at hm;obtain⟨x1,q1,hm⟩:=Aa hm;refine gc (fun _=>KA q1) ?_;obtain⟨x2,q2,hm⟩:=Aa hm;refine gc (fun _=>Fa q2) ?_;obtain⟨x3,q3,hm⟩:=Aa hm;refine gc (fun _=>Fa q3) ?_;refine ES (k:=3) Ai ([x2,x3]:List g_api_Item) (fun _=>rfl) ?_;obtain⟨x4,q4,hm⟩:=Aa hm;refine gc (fun _=>F0 q4) ?_;refine ES (k:=3) Ai ([x1,x4]:List g_api_Item) (fun _=>rfl) ?_;obtain⟨x5,q5,hm⟩:=Aa hm;refine gc (fun _=>F0 q5) ?_;have e0:=Option.some.inj hm;subst e0;exact AO hd
def CS (a0:g_api_Cert):Option Int:=Ad (EO a0) fun x1=>if(!x1)=true then some 1 else Ad (Ft a0) fun x2=>Ad (Gb x2) fun x3=>if((x3.2 !=0)||(decide ((x3.1.length:Int)>2048)))=true then some 2 else some 0
theorem Hw {a0:g_api_Cert}{r:Int}(hm:CS a0=some r):Sf prog 25 [ag (Ae a0)] (.d (.i r)):=
 sp call25 func25 rfl ntmps25 rfl fun D0 As η0 m0 hd=>by
  unfold CS at hm;obtain⟨x1,q1,hm⟩:=Aa hm;refine gc (fun _=>MY q1) ?_;refine gi hm (fun hc1 hm=> ?_) fun hc1 hm=> ?_
  ·skip;have e0:=Option.some.inj hm;subst e0;exact AO hd
  obtain⟨x2,q2,hm⟩:=Aa hm;refine gc (fun _=>Oj q2) ?_;obtain⟨x3,q3,hm⟩:=Aa hm;refine gco (Of q3) ?_;refine gi hm (fun hc2 hm=> ?_) fun hc2 hm=> ?_
  ·skip;have e0:=Option.some.inj hm;subst e0;exact AO hd
  have e0:=Option.some.inj hm;subst e0;exact AO hd
def Dc (a0:g_api_Cert):Option ((List UInt8)×Int):=Ad (CS a0) fun x1=>if(x1 !=0)=true then some (([]:List UInt8),x1)else Ad (Fj a0) fun x2=>Ad (Gb x2) fun x3=>some (x3.1,x3.2)
theorem JV {a0:g_api_Cert}{r:(List UInt8)×Int}(hm:Dc a0=some r):Sp prog 58 [ag (Ae a0),.fn (.func 59) [] []] [] 0 (is (.tup [.ow 0,.d (.i r.2)]) [.row 0 1 _ eB r.1] 1):=
 sp call58 func58 rfl ntmps58 rfl fun D0 As η0 m0 hd=>by
  unfold Dc at hm;obtain⟨x1,q1,hm⟩:=Aa hm;refine gc (fun _=>Hw q1) ?_;refine gi hm (fun hc1 hm=> ?_) fun hc1 hm=> ?_
  ·skip;refine gnil eB 4 1 ?_;have e0:=Option.some.inj hm;subst e0;exact AO hd
  obtain⟨x2,q2,hm⟩:=Aa hm;refine gc (fun _=>KA q2) ?_;obtain⟨x3,q3,hm⟩:=Aa hm;refine gco (Of q3) ?_;have e0:=Option.some.inj hm;subst e0;exact AO hd
def DH (a0:g_api_Cert):Option ((List UInt8)×Int):=Ad (Dc a0) fun x1=>some (x1.1,x1.2)
theorem KB {a0:g_api_Cert}{r:(List UInt8)×Int}(hm:DH a0=some r):Sp prog 28 [ag (Ae a0)] [] 0 (is (.tup [.ow 0,.d (.i r.2)]) [.row 0 1 _ eB r.1] 1):=
 sp call28 func28 rfl ntmps28 rfl fun D0 As η0 m0 hd=>by
  unfold DH at hm;obtain⟨x1,q1,hm⟩:=Aa hm;refine gco (JV q1) ?_;have e0:=Option.some.inj hm;subst e0;exact AO hd
def DK (a0:UInt64):Option Int:=Ad (if(decide ((a0.toNat:Int)≥4294967296))=true then some ((De a0 32),32)else some (a0,0)) fun x1=>Ad (if(decide ((x1.1.toNat:Int)≥65536))=true then some ((De x1.1 16),(w64 (x1.2+16)))else some (x1.1,x1.2)) fun x2=>Ad (if(decide ((x2.1.toNat:Int)≥256))=true then some ((De x2.1 8),(w64 (x2.2+8)))else some (x2.1,x2.2)) fun x3=>Ad (idx str_0.data.toList ((toB (x3.1.toNat:Int)).toNat:Int)) fun x4=>bnd ((w64 (x3.2+(w64 (x4.toNat:Int))))) fun x5=>some x5
theorem JD {a0:UInt64}{r:Int}(hm:DK a0=some r):Sf prog 197 [.d (.u a0)] (.d (.i r)):=
 sp call197 func197 rfl ntmps197 rfl fun D0 As η0 m0 hd=>by
  unfold DK at hm;obtain⟨x1,q1,hm⟩:=Aa hm;refine gj (fun(_:Unit)=>let (y_0,y_1):=x1; ⟨[(0,.d (.u y_0)),(2,.d (.i y_1))],[],[],0⟩) (fun _=>True) (fun Jp bk1=> ?_) fun _ _=> ?_
  ·refine gi q1 (fun hc1 q1=> ?_) fun hc1 q1=> ?_
   ·skip;have e0:=Option.some.inj q1;subst e0;exact gb bk1 hd () trivial
   have e0:=Option.some.inj q1;subst e0;exact gb bk1 hd () trivial
  obtain⟨x2,q2,hm⟩:=Aa hm;refine gj (fun(_:Unit)=>let (y_0,y_1):=x2; ⟨[(0,.d (.u y_0)),(2,.d (.i y_1))],[],[],0⟩) (fun _=>True) (fun Jp bk2=> ?_) fun _ _=> ?_
  ·refine gi q2 (fun hc2 q2=> ?_) fun hc2 q2=> ?_
   ·skip;have e0:=Option.some.inj q2;subst e0;exact gb bk2 hd () trivial
   have e0:=Option.some.inj q2;subst e0;exact gb bk2 hd () trivial
  obtain⟨x3,q3,hm⟩:=Aa hm;refine gj (fun(_:Unit)=>let (y_0,y_1):=x3; ⟨[(0,.d (.u y_0)),(2,.d (.i y_1))],[],[],0⟩) (fun _=>True) (fun Jp bk3=> ?_) fun _ _=> ?_
  ·refine gi q3 (fun hc3 q3=> ?_) fun hc3 q3=> ?_
   ·skip;have e0:=Option.some.inj q3;subst e0;exact gb bk3 hd () trivial
   have e0:=Option.some.inj q3;subst e0;exact gb bk3 hd () trivial
  obtain⟨x4,q4,hm⟩:=Aa hm;refine Yt (fun _=>q4) ?_;have hm:=Ba hm;let x5:Int:=((w64 (x3.2+(w64 (x4.toNat:Int)))));have e0:=Option.some.inj hm;subst e0;exact AO hd
theorem On {m:Mem}{As:List Ow}{w:World}{a0:UInt64}{r:Int}(S:St m As w)(hm:DK a0=some r):
  Az prog 197 #[vU a0] w fun v w'=> ∃(M:Mem),m≤M∧St M (As) w'∧v=vI r:=by
 refine Az.mono ((JD hm).2 none0 m As w [vU a0] (.cons (.d (.u _)) .nil) (fun n h=>absurd rfl h) S) ?_;rintro v w' ⟨M,η',r',obs',n1,hle,_,⟨rfl,rfl,rfl⟩,hdom,hR,S'⟩;obtain rfl:=hR.i_inv;exact⟨M,hle,S',rfl⟩
def Bu {σ:Type}(p0:σ→Bool→Option (Bool×σ))(k0:UInt64)(s1:Int×σ):Option ((Int×σ)⊕((σ)⊕(UInt64×σ))):=if(decide (s1.1≥0))=true then if(0:Int)≤s1.1 then Ad (p0 s1.2 (((k0&&&(FB 1 s1.1.toNat)).toNat:Int) !=0)) fun x4=>if(!x4.1)=true then some (.inr (.inr (k0,x4.2)))else some (.inl ((w64 (s1.1-1)),x4.2))else none else some (.inr (.inl s1.2))
def DU {σ:Type}(p0:σ→Bool→Option (Bool×σ))(k0:UInt64)(s0:σ):Option (UInt64×σ):=Ad (DK k0) fun x1=>Ad (iter (Bu p0 k0) E4 ((w64 (x1-1)),s0)) fun x2=>match x2 with| .inr r=>some r| .inl y1=>some (k0,y1)
theorem Jh {m:Mem}{As:List Ow}{w:World}{σ:Type}{R:σ→Mem→List Ow→Prop}{p0:σ→Bool→Option (Bool×σ)}{f0:Value}{kb0:Nat}{k0:UInt64}{s0:σ}{X0:List Ow}{r:UInt64×σ}(S:St m ((bx kb0 [vU k0] 22)::(X0++As)) w)(hup: ∀{s M M' X},M≤M'→R s M X→R s M' X)(hX0:R s0 m X0)(cb0: ∀{m':Mem} {As':List Ow} {w':World} {s:σ} {X:List Ow} {b0:Bool} {r:Bool×σ},St m' (X++As') w'→R s m' X→p0 s b0=some r→Dt Tryz.prog f0 [vb b0] w' fun v w''=> ∃(M:Mem) (X':List Ow),m'≤M∧St M (X'++As') w''∧R r.2 M X'∧v=vb r.1)(fc0:f0.cells= #[f0])(hm:DU p0 k0 s0=some r):
  Az Tryz.prog 196 #[f0,pt kb0 0] w fun v w'=> ∃(M:Mem),m≤M∧∃(X:List Ow),St M ((bx kb0 [vU r.1] 22)::(X++As)) w'∧v= .tuple #[]∧R r.2 M X:=by
 unfold DU at hm;have L0:=Mem.rfl' m;refine Co (args:=[f0,pt kb0 0]) Tryz.func196 rfl Tryz.ntmps196 (Nat.le_of_ble_eq_true rfl) ?_;refine Af ?_;refine Ac ?_;refine GS (i:=0) (cs:=[vU k0]) S rfl rfl Tryz.isAgg22 Tryz.sizeOf22 rfl (fun _=>rfl) ?_;obtain⟨x1,q1,hm⟩:=Aa hm;refine CJ Tryz.call197 (On (a0:=k0) S q1) rfl ?_;rintro _ w1 ⟨m1,l1,S1,rfl⟩;replace hX0:=hup l1 hX0;replace L0:=Mem.tr L0 l1;clear S;replace S1:St _ ((bx kb0 [vU k0] 22)::(X0++As)) _:=S1;refine KM (m:=x1) (n:=1) rfl rfl ?_;refine Bb (v:=vI (w64 (x1-1))) rfl ?_;refine Ag ?_;refine nrm ?_;obtain⟨x2,q2,hm⟩:=Aa hm;have L1:=Mem.rfl' m1;refine J2 ?_;refine Bn [3,7,8,9,10,11,12,13,14,15,16,17,18] (fun f' w'=> ∃(M1:Mem) (y1:σ) (X2:List Ow),x2= .inl y1∧m1≤M1∧St M1 ((bx kb0 [vU k0] 22)::(X2++As)) w'∧R y1 M1 X2∧B5 f' []) ?_ ?_
 ·refine AA ?_;refine BL [3,7,8,9,10,11,12,13,14,15,16,17,18] (fun n1 f' w'=> ∃(s1:Int×σ) (m11:Mem) (X1:List Ow),iter (Bu p0 k0) n1 s1=some x2∧m1≤m11∧St m11 ((bx kb0 [vU k0] 22)::(X1++As)) w'∧R s1.2 m11 X1∧B5 f' [(3,vI s1.1)]) E4 ⟨((w64 (x1-1)),s0),m1,_,q2,L1,S1,hX0,⟨rfl,trivial⟩⟩ ?_;rintro n1 f1 w2 ho ⟨s1,m2,X1,q3,L3,S2,h1,ha⟩;obtain⟨u1,rfl⟩:=BP (N:=19) ho ha;clear ho ha;have L2:=Mem.rfl' m2;clear S1;cases n1 with
  |zero=>exact(BK q3).elim
  |succ n1=>
   obtain⟨y2,q5,q4⟩:=BE q3;unfold Bu at q5;refine Af ?_;refine Af ?_;refine Ac ?_;refine Ap (v:=vI s1.1) rfl ?_;refine Xv (m:=s1.1) (n:=0) rfl rfl ?_;refine Ag ?_;refine nrm ?_;refine B3 (t:=(decide (s1.1≥0))) rfl (fun hc1=> ?_) (fun hc1=> ?_)
   ·replace q5:=ifT hc1 q5;refine A7 ?_;refine nrm ?_;refine Af ?_;refine AA ?_;refine Af ?_;obtain⟨q7,q5⟩:=B2 q5;have HM:Gg [(11,fv f0),(12,fv (vU k0)),(13,fv (vI s1.1)),(14,fv (vU (FB 1 s1.1.toNat))),(15,fv (vU (k0&&&(FB 1 s1.1.toNat)))),(16,fv (vb (((k0&&&(FB 1 s1.1.toNat)).toNat:Int) !=0)))]:=⟨mv,mv,mv,mv,mv,mv,trivial⟩;refine Iy HM 6 Vv rfl rfl rfl [11,12,13,14,15,16] (fun L f M w=>St M ((bx kb0 [vU k0] 22)::(X1++As)) w) (St.drew S2 _) ?_ ?_
    ·refine⟨?_,?_,?_,?_,?_,?_,trivial⟩
     ·exact flp HM rfl [] (fun _ _=>trivial) (fun _ _ q=>Ap (v:=f0) rfl q) rfl
     ·exact flp HM rfl [] (fun _ _=>trivial) (fun _ S4 q=>GS (i:=0) (cs:=[vU k0]) S4 rfl rfl Tryz.isAgg22 Tryz.sizeOf22 rfl (fun _=>rfl) q) rfl
     ·exact flp HM rfl [] (fun _ _=>trivial) (fun _ _ q=>Ap (v:=vI s1.1) rfl q) rfl
     ·exact flp HM rfl [(13,_)] (fun K _=>⟨K 2 rfl,trivial⟩) (fun _ _ q=>SB (m:=1) (n:=s1.1) rfl rfl q7 q) rfl
     ·exact flp HM rfl [(12,_),(14,_)] (fun K _=>⟨K 1 rfl,K 3 rfl,trivial⟩) (fun _ _ q=>Wl (m:=k0) (n:=(FB 1 s1.1.toNat)) rfl rfl q) rfl
     ·exact flp HM rfl [(15,_)] (fun K _=>⟨K 4 rfl,trivial⟩) (fun _ _ q=>s_neq (m:=((k0&&&(FB 1 s1.1.toNat)).toNat:Int)) (n:=0) rfl rfl q) rfl
    intro L f8 w9 hall ⟨m9,L16,S9,K,hO⟩;have d0:L 0=true:=hall 0 (by decide);have e5:=K 0 d0;have d5:L 5=true:=hall 5 (by decide);have e6:=K 5 d5;obtain⟨u8,rfl⟩:=BP (N:=19) (L:=[(11,f0),(16,vb (((k0&&&(FB 1 s1.1.toNat)).toNat:Int) !=0))]) hO ⟨e5,e6,trivial⟩;replace S9:St _ ((bx kb0 [vU k0] 22)::(X1++As)) _:=S9;replace h1:=hup L16 h1;replace L2:=Mem.tr L2 L16;clear S2;obtain⟨x4,q8,q5⟩:=Aa q5;have S10:=St.absF (L:=[bx kb0 [vU k0] 22]) (X:=X1) (As:=As) S9;refine Fx rfl (cb0 S10 h1 q8) rfl ?_;rintro _ w10 ⟨m10,X3,l2,S11,h3,rfl⟩;replace S11:=St.absF (L:=X3) (X:=[bx kb0 [vU k0] 22]) (As:=As) S11;clear S10;replace L2:=Mem.tr L2 l2;replace S11:St _ ((bx kb0 [vU k0] 22)::(X3++As)) _:=S11;clear S9;refine Ps rfl ?_;refine Ag ?_;refine nrm ?_;refine B3 (t:=(!x4.1)) rfl (fun hc2=> ?_) (fun hc2=> ?_)
    ·replace q5:=ifT hc2 q5;refine Bl ?_;refine blR ?_;refine thR ?_;refine thR ?_;refine blR ?_;refine thR ?_;refine Dx ?_;intro we hpd;replace S11:=St.pd S11 hpd;cases q5;rcases q4 with ⟨sn,e,_⟩|e
     ·cases e
     cases e;dsimp only at hm;have e0:=Option.some.inj hm;subst e0;exact G4 [] rfl trivial ⟨_,(Mem.tr L0 (Mem.tr L3 L2)),_,S11,rfl,h3⟩
    replace q5:=ifF hc2 q5;refine A7 ?_;refine J9 ?_;refine nrm ?_;refine Ac ?_;refine Ap (v:=vI s1.1) rfl ?_;refine KM (m:=s1.1) (n:=1) rfl rfl ?_;refine Bb (v:=vI (w64 (s1.1-1))) rfl ?_;refine Ag ?_;refine nrm ?_;have e0:=Option.some.inj q5;subst e0;rcases q4 with ⟨sn,e,q4'⟩|e
    ·cases e;exact⟨Fl,_,Nat.lt_succ_self _,⟨_,m10,_,q4',Mem.tr L3 L2,S11,h3,⟨rfl,trivial⟩⟩⟩
    ·cases e
   replace q5:=ifF hc1 q5;refine CH ?_;refine thE ?_;refine thE ?_;refine exB ?_;refine nrm ?_;have e0:=Option.some.inj q5;subst e0;rcases q4 with ⟨sn,e,_⟩|e
   ·cases e
   ·cases e;exact⟨Fl,m2,_,_,rfl,Mem.tr L3 L2,S2,h1,trivial⟩
 rintro f9 w11 ho ⟨m12,y1,X2,rfl,l3,S12,h2,ha⟩;obtain⟨u9,rfl⟩:=BP (N:=19) ho ha;clear ho ha;dsimp only at hm;replace L0:=Mem.tr L0 l3;clear S1;refine RF ?_;intro we hpd;replace S12:=St.pd S12 hpd;have e0:=Option.some.inj hm;subst e0;exact G4 [] rfl trivial ⟨_,L0,_,S12,rfl,h2⟩
def EN (a0:UInt64):Option UInt64:=some a0
theorem Kv {m:Mem}{As:List Ow}{w:World}{a0:UInt64}{r:UInt64}(S:St m (As) w)(hm:EN a0=some r):
  Az Tryz.prog 159 #[vU a0] w fun v w'=> ∃(M:Mem),m≤M∧∃(rk0_0:Nat),St M ((bx rk0_0 [vU r] 22)::As) w'∧v= .func (.func 196) #[] #[pt rk0_0 0]:=by
 unfold EN at hm;have L0:=Mem.rfl' m;refine Co (args:=[vU a0]) Tryz.func159 rfl Tryz.ntmps159 (Nat.le_of_ble_eq_true rfl) ?_;refine Af ?_;refine Ac ?_;refine JZ S rfl ?_;intro b1 w1 S1;replace S1:St _ ((bx b1 [vU a0] 22)::As) _:=S1;clear S;refine Bb (v:= .nilFunc) rfl ?_;refine Ag ?_;refine nrm ?_;refine Af ?_;refine Ac ?_;refine Jm (caps:=[pt b1 0]) rfl ?_;refine Bb (v:= .func (.func 196) #[] #[pt b1 0]) rfl ?_;refine Ag ?_;refine nrm ?_;refine Bl ?_;refine Dx ?_;intro we hpd;replace S1:=St.pd S1 hpd;have e0:=Option.some.inj hm;subst e0;exact G4 [_] rfl ⟨rfl,trivial⟩ ⟨_,L0,_,S1,rfl⟩
def BO {σ:Type}(p0:σ→UInt64→UInt64→Option (UInt64×σ))(a1:UInt64)(b6:Bool)(s1:UInt64×σ):Option (UInt64×σ):=Ad (p0 ((s1).2) ((s1).1) ((s1).1)) fun x3=>if b6=true then Ad (p0 x3.2 x3.1 a1) fun x4=>some (x4.1,x4.2)else some (x3.1,x3.2)
def D8 {σ:Type}(p0:σ→UInt64→UInt64→Option (UInt64×σ))(a1:UInt64)(a2:UInt64)(s0:σ):Option (UInt64×σ):=Ad (EN a2) fun x1=>Ad (DU (fun(s:UInt64×σ) (b0:Bool)=>Ad (BO p0 a1 b0 s) fun y=>some (true,y)) x1 (1,s0)) fun x2=>some (x2.2.1,x2.2.2)
theorem LA {m:Mem}{As:List Ow}{w:World}{σ:Type}{R:σ→Mem→List Ow→Prop}{p0:σ→UInt64→UInt64→Option (UInt64×σ)}{f0:Value}{a1:UInt64}{a2:UInt64}{s0:σ}{X0:List Ow}{r:UInt64×σ}(S:St m ((X0++As)) w)(hup: ∀{s M M' X},M≤M'→R s M X→R s M' X)(hX0:R s0 m X0)(cb0: ∀{m':Mem} {As':List Ow} {w':World} {s:σ} {X:List Ow} {b0:UInt64} {b1:UInt64} {r:UInt64×σ},St m' (X++As') w'→R s m' X→p0 s b0 b1=some r→Dt Tryz.prog f0 [vU b0,vU b1] w' fun v w''=> ∃(M:Mem) (X':List Ow),m'≤M∧St M (X'++As') w''∧R r.2 M X'∧v=vU r.1)(fc0:f0.cells= #[f0])(hm:D8 p0 a1 a2 s0=some r):
  Az Tryz.prog 108 #[f0,vU a1,vU a2] w fun v w'=> ∃(M:Mem),m≤M∧∃(X:List Ow),St M ((X++As)) w'∧v=vU r.1∧R r.2 M X:=by
 unfold D8 at hm;have L0:=Mem.rfl' m;refine Co (args:=[f0,vU a1,vU a2]) Tryz.func108 rfl Tryz.ntmps108 (Nat.le_of_ble_eq_true rfl) ?_;refine Af ?_;refine Ac ?_;refine Wk S rfl fc0 ?_;intro b1 w1 S1;replace S1:St _ ((bx b1 [f0] 91)::(X0++As)) _:=S1;clear S;refine JZ S1 rfl ?_;intro b2 w2 S2;replace S2:St _ ((bx b2 [vU a1] 22)::(bx b1 [f0] 91)::(X0++As)) _:=S2;clear S1;refine Bb (v:=vU 0) rfl ?_;refine Ag ?_;refine nrm ?_;refine Af ?_;refine Ac ?_;refine EC S2 Tryz.zeroValue22 ?_;intro b3 w3 S3;replace S3:St _ ((bx b3 [vU 0] 22)::(bx b2 [vU a1] 22)::(bx b1 [f0] 91)::(X0++As)) _:=S3;clear S2;refine Hb (i:=0) S3 rfl rfl rfl Tryz.sizeOf22 (H0 rfl KV) rfl ?_;intro w4 S4;replace S4:St _ ((bx b3 [vU 1] 22)::(bx b2 [vU a1] 22)::(bx b1 [f0] 91)::(X0++As)) _:=S4;clear S3;refine Ag ?_;refine nrm ?_;refine Af ?_;refine Af ?_;refine Ac ?_;refine Ap (v:=vU a2) rfl ?_;obtain⟨x1,q1,hm⟩:=Aa hm;refine CJ Tryz.call159 (Kv (a0:=a2) S4 q1) rfl ?_;rintro _ w5 ⟨m1,l1,b4,S5,rfl⟩;replace hX0:=hup l1 hX0;replace L0:=Mem.tr L0 l1;clear S4;replace S5:St _ ((bx b4 [vU x1] 22)::(bx b3 [vU 1] 22)::(bx b2 [vU a1] 22)::(bx b1 [f0] 91)::(X0++As)) _:=S5;refine Ag ?_;refine nrm ?_;refine AA ?_;obtain⟨x2,q2,hm⟩:=Aa hm;refine Ew S5 rfl Tryz.call196 ?_;intro lp1 rip2 w6 h1 S6;replace S6:St _ ((Lp lp1 rip2 .ready none)::(bx b4 [vU x1] 22)::(bx b3 [vU 1] 22)::(bx b2 [vU a1] 22)::(bx b1 [f0] 91)::(X0++As)) _:=S6;clear S5;have S7:St _ ((bx b4 [vU x1] 22)::(Lp lp1 rip2 .ready none)::(bx b3 [vU 1] 22)::(bx b2 [vU a1] 22)::(bx b1 [f0] 91)::(X0++As)) _:=St.perm S6 (List.Perm.swap _ _ _);clear S6;have hcb1: ∀{m':Mem} {As':List Ow} {w':World} {s:UInt64×σ} {X:List Ow} {b0:Bool} {r:Bool×(UInt64×σ)},St m' (X++As') w'→(∃(X2:List Ow),m1≤m'∧X=Lp lp1 rip2 .ready none::(bx b3 [vU ((s).1)] 22)::(bx b2 [vU a1] 22)::(bx b1 [f0] 91)::X2∧R ((s).2) m' X2)→(fun(s:UInt64×σ) (b0:Bool)=>Ad (BO p0 a1 b0 s) fun y=>some (true,y)) s b0=some r→Dt Tryz.prog (.func (.yield lp1) #[] #[]) [vb b0] w' fun v w''=> ∃(M:Mem) (X':List Ow),m'≤M∧St M (X'++As') w''∧(∃(X2:List Ow),m1≤M∧X'=Lp lp1 rip2 .ready none::(bx b3 [vU ((r.2).1)] 22)::(bx b2 [vU a1] 22)::(bx b1 [f0] 91)::X2∧R ((r.2).2) M X2)∧v=vb r.1:=by
  intro m2 As1 w7 s1 X3 b6 r1 S8 h4 hm1;obtain⟨X4,L2,rfl,h5⟩:=h4;obtain⟨y1,q3,hm1⟩:=Aa hm1;cases hm1;unfold BO at q3;replace S8:St _ ((Lp lp1 rip2 .ready none)::(bx b3 [vU ((s1).1)] 22)::(bx b2 [vU a1] 22)::(bx b1 [f0] 91)::(X4++As1)) _:=S8;have L1:=Mem.rfl' m2;refine Dt.round h1 rfl S8 ?_;refine Ac ?_;refine Bb (v:=vb b6) rfl ?_;refine Ag ?_;refine nrm ?_;refine⟨_,_,S8,?_⟩;intro w8 S9;clear S8;replace S9:St _ ((Lp lp1 rip2 .busy none)::(bx b3 [vU ((s1).1)] 22)::(bx b2 [vU a1] 22)::(bx b1 [f0] 91)::(X4++As1)) _:=S9;refine AA ?_;refine Af ?_;refine Ac ?_;refine GS (i:=3) (cs:=[f0]) S9 rfl rfl Tryz.isAgg91 Tryz.sizeOf91 rfl (fun _=>rfl) ?_;refine GS (i:=1) (cs:=[vU ((s1).1)]) S9 rfl rfl Tryz.isAgg22 Tryz.sizeOf22 rfl (fun _=>rfl) ?_;refine GS (i:=1) (cs:=[vU ((s1).1)]) S9 rfl rfl Tryz.isAgg22 Tryz.sizeOf22 rfl (fun _=>rfl) ?_;obtain⟨x3,q4,q3⟩:=Aa q3;have S10:=St.absF (L:=[Lp lp1 rip2 .busy none,bx b3 [vU ((s1).1)] 22,bx b2 [vU a1] 22,bx b1 [f0] 91]) (X:=X4) (As:=As1) S9;refine Fx rfl (cb0 S10 h5 q4) rfl ?_;rintro _ w9 ⟨m3,X5,l2,S11,h6,rfl⟩;replace S11:=St.absF (L:=X5) (X:=[Lp lp1 rip2 .busy none,bx b3 [vU ((s1).1)] 22,bx b2 [vU a1] 22,bx b1 [f0] 91]) (As:=As1) S11;clear S10;replace L1:=Mem.tr L1 l2;replace S11:St _ ((Lp lp1 rip2 .busy none)::(bx b3 [vU ((s1).1)] 22)::(bx b2 [vU a1] 22)::(bx b1 [f0] 91)::(X5++As1)) _:=S11;clear S9;refine Hb (i:=1) S11 rfl rfl rfl Tryz.sizeOf22 (H0 rfl KV) rfl ?_;intro w10 S12;replace S12:St _ ((Lp lp1 rip2 .busy none)::(bx b3 [vU x3.1] 22)::(bx b2 [vU a1] 22)::(bx b1 [f0] 91)::(X5++As1)) _:=S12;clear S11;refine Ag ?_;refine nrm ?_;refine Af ?_;refine Ac ?_;refine Ap (v:=vb b6) rfl ?_;refine Ag ?_;refine nrm ?_;refine B3 (t:=b6) rfl (fun hc1=> ?_) (fun hc1=> ?_)
  ·replace q3:=ifT hc1 q3;refine Ac ?_;refine GS (i:=3) (cs:=[f0]) S12 rfl rfl Tryz.isAgg91 Tryz.sizeOf91 rfl (fun _=>rfl) ?_;refine GS (i:=1) (cs:=[vU x3.1]) S12 rfl rfl Tryz.isAgg22 Tryz.sizeOf22 rfl (fun _=>rfl) ?_;refine GS (i:=2) (cs:=[vU a1]) S12 rfl rfl Tryz.isAgg22 Tryz.sizeOf22 rfl (fun _=>rfl) ?_;obtain⟨x4,q5,q3⟩:=Aa q3;have S13:=St.absF (L:=[Lp lp1 rip2 .busy none,bx b3 [vU x3.1] 22,bx b2 [vU a1] 22,bx b1 [f0] 91]) (X:=X5) (As:=As1) S12;refine Fx rfl (cb0 S13 h6 q5) rfl ?_;rintro _ w11 ⟨m4,X6,l3,S14,h7,rfl⟩;replace S14:=St.absF (L:=X6) (X:=[Lp lp1 rip2 .busy none,bx b3 [vU x3.1] 22,bx b2 [vU a1] 22,bx b1 [f0] 91]) (As:=As1) S14;clear S13;replace L1:=Mem.tr L1 l3;replace S14:St _ ((Lp lp1 rip2 .busy none)::(bx b3 [vU x3.1] 22)::(bx b2 [vU a1] 22)::(bx b1 [f0] 91)::(X6++As1)) _:=S14;clear S12;refine Hb (i:=1) S14 rfl rfl rfl Tryz.sizeOf22 (H0 rfl KV) rfl ?_;intro w12 S15;replace S15:St _ ((Lp lp1 rip2 .busy none)::(bx b3 [vU x4.1] 22)::(bx b2 [vU a1] 22)::(bx b1 [f0] 91)::(X6++As1)) _:=S15;clear S14;refine Ag ?_;refine J9 ?_;refine⟨_,_,S15,?_⟩;intro w13 S16;have e0:=Option.some.inj q3;subst e0;exact⟨_,Lp lp1 rip2 .ready none::(bx b3 [vU x4.1] 22)::(bx b2 [vU a1] 22)::(bx b1 [f0] 91)::X6,L1,S16,⟨_,Mem.tr L2 L1,rfl,h7⟩,rfl⟩
  replace q3:=ifF hc1 q3;refine A7 ?_;refine J9 ?_;refine⟨_,_,S12,?_⟩;intro w14 S17;have e0:=Option.some.inj q3;subst e0;exact⟨_,Lp lp1 rip2 .ready none::(bx b3 [vU x3.1] 22)::(bx b2 [vU a1] 22)::(bx b1 [f0] 91)::X5,L1,S17,⟨_,Mem.tr L2 L1,rfl,h6⟩,rfl⟩
 refine Az.mono (Jh (p0:=(fun(s:UInt64×σ) (b0:Bool)=>Ad (BO p0 a1 b0 s) fun y=>some (true,y))) (k0:=x1) (s0:=(1,s0)) (R:=(fun(s:UInt64×σ) (M:Mem) (X:List Ow)=>(∃(X2:List Ow),m1≤M∧X=Lp lp1 rip2 .ready none::(bx b3 [vU ((s).1)] 22)::(bx b2 [vU a1] 22)::(bx b1 [f0] 91)::X2∧R ((s).2) M X2))) (X0:=((Lp lp1 rip2 .ready none)::(bx b3 [vU 1] 22)::(bx b2 [vU a1] 22)::(bx b1 [f0] 91)::X0)) (As:=As) S7 (fun l h=>by obtain⟨X2,Lm,e,h3⟩:=h; exact⟨_,Mem.tr Lm l,e,hup l h3⟩) ⟨_,Mem.rfl' _,rfl,hX0⟩ @hcb1 rfl q2) ?_;rintro _ w15 ⟨m5,l4,X7,S18,rfl,⟨X8,L3,rfl,h8⟩⟩;replace S18:St _ ((bx b4 [vU x2.1] 22)::(Lp lp1 rip2 .ready none)::(bx b3 [vU x2.2.1] 22)::(bx b2 [vU a1] 22)::(bx b1 [f0] 91)::(X8++As)) _:=S18;have S19:St _ ((Lp lp1 rip2 .ready none)::(bx b4 [vU x2.1] 22)::(bx b3 [vU x2.2.1] 22)::(bx b2 [vU a1] 22)::(bx b1 [f0] 91)::(X8++As)) _:=St.perm S18 (List.Perm.swap _ _ _);clear S18;refine⟨_,.ready,none,_,l4,(fun h=>by cases h),S19,?_⟩;intro m6 w16 l5 S20;have l6:=Mem.tr l4 l5;replace h8:=hup l5 h8;replace L0:=Mem.tr L0 l6;replace S20:St _ ((bx b4 [vU x2.1] 22)::(bx b3 [vU x2.2.1] 22)::(bx b2 [vU a1] 22)::(bx b1 [f0] 91)::(X8++As)) _:=S20;refine J9 ?_;refine nrm ?_;refine Af ?_;refine Ac ?_;refine GS (i:=1) (cs:=[vU x2.2.1]) S20 rfl rfl Tryz.isAgg22 Tryz.sizeOf22 rfl (fun _=>rfl) ?_;refine Bb (v:=vU x2.2.1) rfl ?_;refine Ag ?_;refine nrm ?_;refine Bl ?_;refine Dx ?_;intro we hpd;replace S20:=St.pd S20 hpd;obtain⟨m7,l7,S21⟩:=St.drop S20 0;replace h8:=hup l7 h8;replace L0:=Mem.tr L0 l7;clear S20;replace S21:St _ ((bx b3 [vU x2.2.1] 22)::(bx b2 [vU a1] 22)::(bx b1 [f0] 91)::(X8++As)) _:=S21;obtain⟨m8,l8,S22⟩:=St.drop S21 0;replace h8:=hup l8 h8;replace L0:=Mem.tr L0 l8;clear S21;replace S22:St _ ((bx b2 [vU a1] 22)::(bx b1 [f0] 91)::(X8++As)) _:=S22;obtain⟨m9,l9,S23⟩:=St.drop S22 0;replace h8:=hup l9 h8;replace L0:=Mem.tr L0 l9;clear S22;replace S23:St _ ((bx b1 [f0] 91)::(X8++As)) _:=S23;obtain⟨m10,l10,S24⟩:=St.drop S23 0;replace h8:=hup l10 h8;replace L0:=Mem.tr L0 l10;clear S23;replace S24:St _ ((X8++As)) _:=S24;have e0:=Option.some.inj hm;subst e0;exact G4 [_] rfl ⟨rfl,trivial⟩ ⟨_,L0,_,S24,rfl,h8⟩
def DJ (a0:UInt64)(a1:UInt64):Option (UInt64×UInt64):=bnd (((a0&&&4294967295)*(a1&&&4294967295))) fun x1=>bnd ((((De a0 32)*(a1&&&4294967295))+(De x1 32))) fun x2=>bnd (((x2&&&4294967295)+((a0&&&4294967295)*(De a1 32)))) fun x3=>bnd (((((De a0 32)*(De a1 32))+(De x2 32))+(De x3 32))) fun x4=>some (x4,(a0*a1))
theorem Hx {a0:UInt64}{a1:UInt64}{r:UInt64×UInt64}(hm:DJ a0 a1=some r):Sf prog 160 [.d (.u a0),.d (.u a1)] (.tup [.d (.u r.1),.d (.u r.2)]):=
 sp call160 func160 rfl ntmps160 rfl fun D0 As η0 m0 hd=>by
  unfold DJ at hm;have hm:=Ba hm;let x1:UInt64:=(((a0&&&4294967295)*(a1&&&4294967295)));have hm:=Ba hm;let x2:UInt64:=((((De a0 32)*(a1&&&4294967295))+(De x1 32)));have hm:=Ba hm;let x3:UInt64:=(((x2&&&4294967295)+((a0&&&4294967295)*(De a1 32))));have hm:=Ba hm;let x4:UInt64:=(((((De a0 32)*(De a1 32))+(De x2 32))+(De x3 32)));have e0:=Option.some.inj hm;subst e0;exact AO hd
theorem Om {m:Mem}{As:List Ow}{w:World}{a0:UInt64}{a1:UInt64}{r:UInt64×UInt64}(S:St m As w)(hm:DJ a0 a1=some r):
  Az prog 160 #[vU a0,vU a1] w fun v w'=> ∃(M:Mem),m≤M∧St M (As) w'∧v= .tuple #[vU r.1,vU r.2]:=by
 refine Az.mono ((Hx hm).2 none0 m As w [vU a0,vU a1] (.cons (.d (.u _)) (.cons (.d (.u _)) .nil)) (fun n h=>absurd rfl h) S) ?_;rintro v w' ⟨M,η',r',obs',n1,hle,_,⟨rfl,rfl,rfl⟩,hdom,hR,S'⟩;obtain⟨us,rfl,hR0⟩:=hR.tup_inv;obtain⟨v0,u0,rfl,q0,hR1⟩:=Bj.cons_inv hR0;obtain⟨v1,u1,rfl,q1,hR2⟩:=Bj.cons_inv hR1;obtain rfl:=Bj.nil_inv hR2;obtain rfl:=q0.u_inv;obtain rfl:=q1.u_inv;exact⟨M,hle,S',rfl⟩
def BV (a0:UInt64):Option Int:=Ad (DK a0) fun x1=>some (w64 (64-x1))
theorem Hy {a0:UInt64}{r:Int}(hm:BV a0=some r):Sf prog 198 [.d (.u a0)] (.d (.i r)):=
 sp call198 func198 rfl ntmps198 rfl fun D0 As η0 m0 hd=>by
  unfold BV at hm;obtain⟨x1,q1,hm⟩:=Aa hm;refine gc (fun _=>JD q1) ?_;have e0:=Option.some.inj hm;subst e0;exact AO hd
def Cj (x4:UInt64)(x5:UInt64)(x7:UInt64)(s1:UInt64×UInt64):Option ((UInt64×UInt64)⊕(UInt64)):=if((decide ((s1.1.toNat:Int)≥4294967296))||(decide (((s1.1*x5).toNat:Int)>(((4294967296*s1.2)+x7).toNat:Int))))=true then if(decide (((s1.2+x4).toNat:Int)≥4294967296))=true then some (.inr (s1.1-1))else some (.inl ((s1.1-1),(s1.2+x4)))else some (.inr s1.1)
def Ci (x4:UInt64)(x5:UInt64)(x8:UInt64)(s2:UInt64×UInt64):Option ((UInt64×UInt64)⊕(UInt64)):=if((decide ((s2.2.toNat:Int)≥4294967296))||(decide (((s2.2*x5).toNat:Int)>(((4294967296*s2.1)+x8).toNat:Int))))=true then if(decide (((s2.1+x4).toNat:Int)≥4294967296))=true then some (.inr (s2.2-1))else some (.inl ((s2.1+x4),(s2.2-1)))else some (.inr s2.2)
def Es (a0:UInt64)(a1:UInt64)(a2:UInt64):Option (UInt64×UInt64):=Ad (if((a2.toNat:Int)==0)=true then none else some ()) fun x1=>Ad (if(decide ((a2.toNat:Int)≤(a0.toNat:Int)))=true then none else some ()) fun x2=>if((a0.toNat:Int)==0)=true then if a2≠0 then if a2≠0 then some ((a1/a2),(a1%a2))else none else none else Ad (BV a2) fun x3=>bnd ((De (FB a2 ((toU x3).toNat)) 32)) fun x4=>bnd (((FB a2 ((toU x3).toNat))&&&4294967295)) fun x5=>bnd (((FB a0 ((toU x3).toNat))|||(De a1 ((64-(toU x3)).toNat)))) fun x6=>bnd ((De (FB a1 ((toU x3).toNat)) 32)) fun x7=>bnd (((FB a1 ((toU x3).toNat))&&&4294967295)) fun x8=>if x4≠0 then Ad (Ad (iter (Cj x4 x5 x7) E4 ((x6/x4),(x6-((x6/x4)*x4)))) fun x10=>some x10) fun x9=>bnd ((((x6*4294967296)+x7)-(x9*(FB a2 ((toU x3).toNat))))) fun x12=>if x4≠0 then Ad (Ad (iter (Ci x4 x5 x8) E4 ((x12-((x12/x4)*x4)),(x12/x4))) fun x14=>some x14) fun x13=>bnd ((De (((x12*4294967296)+x8)-(x13*(FB a2 ((toU x3).toNat)))) ((toU x3).toNat))) fun x16=>some (((x9*4294967296)+x13),x16)else none else none
theorem JE {a0:UInt64}{a1:UInt64}{a2:UInt64}{r:UInt64×UInt64}(hm:Es a0 a1 a2=some r):Sf prog 163 [.d (.u a0),.d (.u a1),.d (.u a2)] (.tup [.d (.u r.1),.d (.u r.2)]):=
 sp call163 func163 rfl ntmps163 rfl fun D0 As η0 m0 hd=>by
  unfold Es at hm;obtain⟨x1,q1,hm⟩:=Aa hm;refine gj (fun(_:Unit)=>⟨[(0,.d (.u a0)),(1,.d (.u a1)),(2,.d (.u a2))],[],[],0⟩) (fun _=>True) (fun Jp bk1=> ?_) fun _ _=> ?_
  ·refine gi q1 (fun hc1 q1=> ?_) fun hc1 q1=> ?_
   ·cases q1
   have e0:=Option.some.inj q1;subst e0;exact gb bk1 hd () trivial
  obtain⟨x2,q2,hm⟩:=Aa hm;refine gj (fun(_:Unit)=>⟨[(0,.d (.u a0)),(1,.d (.u a1)),(2,.d (.u a2))],[],[],0⟩) (fun _=>True) (fun Jp bk2=> ?_) fun _ _=> ?_
  ·refine gi q2 (fun hc2 q2=> ?_) fun hc2 q2=> ?_
   ·cases q2
   have e0:=Option.some.inj q2;subst e0;exact gb bk2 hd () trivial
  refine gi hm (fun hc3 hm=> ?_) fun hc3 hm=> ?_
  ·skip;obtain⟨q3,hm⟩:=B2 hm;refine UZ (d:= .u a2) (r:= .u (a1/a2)) (fun h=>q3) ?_;obtain⟨q4,hm⟩:=B2 hm;refine UZ (d:= .u a2) (r:= .u (a1%a2)) (fun h=>q4) ?_;have e0:=Option.some.inj hm;subst e0;exact AO hd
  obtain⟨x3,q5,hm⟩:=Aa hm;refine gc (fun _=>Hy q5) ?_;have hm:=Ba hm;let x4:UInt64:=((De (FB a2 ((toU x3).toNat)) 32));have hm:=Ba hm;let x5:UInt64:=(((FB a2 ((toU x3).toNat))&&&4294967295));have hm:=Ba hm;let x6:UInt64:=(((FB a0 ((toU x3).toNat))|||(De a1 ((64-(toU x3)).toNat))));have hm:=Ba hm;let x7:UInt64:=((De (FB a1 ((toU x3).toNat)) 32));have hm:=Ba hm;let x8:UInt64:=(((FB a1 ((toU x3).toNat))&&&4294967295));obtain⟨q11,hm⟩:=B2 hm;refine UZ (d:= .u x4) (r:= .u (x6/x4)) (fun h=>q11) ?_;obtain⟨x9,q12,hm⟩:=Aa hm;obtain⟨x10,q13,q12⟩:=Aa q12;refine gjU 0 (fun(_:Unit)=>⟨[(2,.d (.u (FB a2 ((toU x3).toNat)))),(8,.d (.u (toU x3))),(9,.d (.u x4)),(10,.d (.u x5)),(11,.d (.u x6)),(13,.d (.u x7)),(14,.d (.u x8)),(15,.d (.u x9))],[],[],0⟩) (fun _=>True) (fun Jp bk3=> ?_) fun _ _=> ?_
  ·refine gjU 0 (fun(_:Unit)=>⟨[(2,.d (.u (FB a2 ((toU x3).toNat)))),(8,.d (.u (toU x3))),(9,.d (.u x4)),(10,.d (.u x5)),(11,.d (.u x6)),(13,.d (.u x7)),(14,.d (.u x8)),(15,.d (.u x10))],[],[],0⟩) (fun _=>True) (fun Jp bk4=> ?_) fun _ _=> ?_
   ·refine gl hd (fun(p:Nat×(UInt64×UInt64))=>let (p0,p_0,p_1):=p; ⟨[(2,.d (.u (FB a2 ((toU x3).toNat)))),(8,.d (.u (toU x3))),(9,.d (.u x4)),(10,.d (.u x5)),(11,.d (.u x6)),(13,.d (.u x7)),(14,.d (.u x8)),(15,.d (.u p_0)),(16,.d (.u p_1))],[],[],0⟩) (fun p=>iter (Cj x4 x5 x7) p.1 p.2=some x10) (fun p=>p.1) (E4,((x6/x4),(x6-((x6/x4)*x4)))) q13 ?_;rintro⟨n1,s1⟩ q14 Jl bl1;cases n1 with
    |zero=>exact(BK q14).elim
    |succ n1=>
     obtain⟨y1,q16,q15⟩:=BE q14;unfold Cj at q16;refine gi q16 (fun hc4 q16=> ?_) fun hc4 q16=> ?_
     ·skip;refine gi q16 (fun hc5 q16=> ?_) fun hc5 q16=> ?_
      ·skip;have e0:=Option.some.inj q16;subst e0;rcases q15 with ⟨sn,e,_⟩|e
       ·cases GN e
       have e:=Sum.inr.inj e;subst e;exact gb bk4 hd () trivial
      have e0:=Option.some.inj q16;subst e0;rcases q15 with ⟨sn,e,q15'⟩|e
      ·have e:=Sum.inl.inj e;subst e;exact gb bl1 hd (n1,_) ⟨q15',Nat.lt_succ_self _⟩
      cases B4 e
     have e0:=Option.some.inj q16;subst e0;rcases q15 with ⟨sn,e,_⟩|e
     ·cases GN e
     have e:=Sum.inr.inj e;subst e;exact gb bk4 hd () trivial
   have e0:=Option.some.inj q12;subst e0;exact gb bk3 hd () trivial
  have hm:=Ba hm;let x12:UInt64:=((((x6*4294967296)+x7)-(x9*(FB a2 ((toU x3).toNat)))));obtain⟨q19,hm⟩:=B2 hm;refine UZ (d:= .u x4) (r:= .u (x12/x4)) (fun h=>q19) ?_;obtain⟨x13,q20,hm⟩:=Aa hm;obtain⟨x14,q21,q20⟩:=Aa q20;refine gjU 2 (fun(_:Unit)=>⟨[(2,.d (.u (FB a2 ((toU x3).toNat)))),(8,.d (.u (toU x3))),(14,.d (.u x8)),(15,.d (.u x9)),(17,.d (.u x12)),(18,.d (.u x13))],[],[],0⟩) (fun _=>True) (fun Jp bk5=> ?_) fun _ _=> ?_
  ·refine gjU 2 (fun(_:Unit)=>⟨[(2,.d (.u (FB a2 ((toU x3).toNat)))),(8,.d (.u (toU x3))),(14,.d (.u x8)),(15,.d (.u x9)),(17,.d (.u x12)),(18,.d (.u x14))],[],[],0⟩) (fun _=>True) (fun Jp bk6=> ?_) fun _ _=> ?_
   ·refine gl hd (fun(p:Nat×(UInt64×UInt64))=>let (p0,p_0,p_1):=p; ⟨[(2,.d (.u (FB a2 ((toU x3).toNat)))),(8,.d (.u (toU x3))),(9,.d (.u x4)),(10,.d (.u x5)),(14,.d (.u x8)),(15,.d (.u x9)),(16,.d (.u p_0)),(17,.d (.u x12)),(18,.d (.u p_1))],[],[],0⟩) (fun p=>iter (Ci x4 x5 x8) p.1 p.2=some x14) (fun p=>p.1) (E4,((x12-((x12/x4)*x4)),(x12/x4))) q21 ?_;rintro⟨n2,s2⟩ q22 Jl bl2;cases n2 with
    |zero=>exact(BK q22).elim
    |succ n2=>
     obtain⟨y2,q24,q23⟩:=BE q22;unfold Ci at q24;refine gi q24 (fun hc6 q24=> ?_) fun hc6 q24=> ?_
     ·skip;refine gi q24 (fun hc7 q24=> ?_) fun hc7 q24=> ?_
      ·skip;have e0:=Option.some.inj q24;subst e0;rcases q23 with ⟨sn,e,_⟩|e
       ·cases GN e
       have e:=Sum.inr.inj e;subst e;exact gb bk6 hd () trivial
      have e0:=Option.some.inj q24;subst e0;rcases q23 with ⟨sn,e,q23'⟩|e
      ·have e:=Sum.inl.inj e;subst e;exact gb bl2 hd (n2,_) ⟨q23',Nat.lt_succ_self _⟩
      cases B4 e
     have e0:=Option.some.inj q24;subst e0;rcases q23 with ⟨sn,e,_⟩|e
     ·cases GN e
     have e:=Sum.inr.inj e;subst e;exact gb bk6 hd () trivial
   have e0:=Option.some.inj q20;subst e0;exact gb bk5 hd () trivial
  have hm:=Ba hm;let x16:UInt64:=((De (((x12*4294967296)+x8)-(x13*(FB a2 ((toU x3).toNat)))) ((toU x3).toNat)));have e0:=Option.some.inj hm;subst e0;exact AO hd
def DI (a0:UInt64)(a1:UInt64)(a2:UInt64):Option UInt64:=if a2≠0 then Ad (Es (a0%a2) a1 a2) fun x1=>some x1.2 else none
theorem JC {a0:UInt64}{a1:UInt64}{a2:UInt64}{r:UInt64}(hm:DI a0 a1 a2=some r):Sf prog 161 [.d (.u a0),.d (.u a1),.d (.u a2)] (.d (.u r)):=
 sp call161 func161 rfl ntmps161 rfl fun D0 As η0 m0 hd=>by
  unfold DI at hm;obtain⟨q1,hm⟩:=B2 hm;refine UZ (d:= .u a2) (r:= .u (a0%a2)) (fun h=>q1) ?_;obtain⟨x1,q2,hm⟩:=Aa hm;refine gc (fun _=>JE q2) ?_;have e0:=Option.some.inj hm;subst e0;exact AO hd
theorem Ol {m:Mem}{As:List Ow}{w:World}{a0:UInt64}{a1:UInt64}{a2:UInt64}{r:UInt64}(S:St m As w)(hm:DI a0 a1 a2=some r):
  Az prog 161 #[vU a0,vU a1,vU a2] w fun v w'=> ∃(M:Mem),m≤M∧St M (As) w'∧v=vU r:=by
 refine Az.mono ((JC hm).2 none0 m As w [vU a0,vU a1,vU a2] (.cons (.d (.u _)) (.cons (.d (.u _)) (.cons (.d (.u _)) .nil))) (fun n h=>absurd rfl h) S) ?_;rintro v w' ⟨M,η',r',obs',n1,hle,_,⟨rfl,rfl,rfl⟩,hdom,hR,S'⟩;obtain rfl:=hR.u_inv;exact⟨M,hle,S',rfl⟩
def A5 (a0:UInt64)(a1:UInt64)(a2:UInt64):Option UInt64:=Ad (DJ a1 a2) fun x1=>Ad (DI x1.1 x1.2 a0) fun x2=>some x2
theorem GJ {m:Mem}{As:List Ow}{w:World}{a0:UInt64}{a1:UInt64}{a2:UInt64}{r:UInt64}(S:St m (As) w)(hm:A5 a0 a1 a2=some r):
  Az Tryz.prog 109 #[vU a0,vU a1,vU a2] w fun v w'=> ∃(M:Mem),m≤M∧St M (As) w'∧v=vU r:=by
 unfold A5 at hm;have L0:=Mem.rfl' m;refine Co (args:=[vU a0,vU a1,vU a2]) Tryz.func109 rfl Tryz.ntmps109 (Nat.le_of_ble_eq_true rfl) ?_;refine Af ?_;refine Ac ?_;refine Bb (v:=vU 0) rfl ?_;refine Ag ?_;refine nrm ?_;refine Af ?_;refine Ac ?_;refine Ap (v:=vU a1) rfl ?_;refine Ap (v:=vU a2) rfl ?_;obtain⟨x1,q1,hm⟩:=Aa hm;refine CJ Tryz.call160 (Om (a0:=a1) (a1:=a2) S q1) rfl ?_;rintro _ w1 ⟨m1,l1,S1,rfl⟩;replace L0:=Mem.tr L0 l1;clear S;replace S1:St _ (As) _:=S1;refine Ap (v:= .tuple #[vU x1.1,vU x1.2]) rfl ?_;refine XA (i:=0) rfl rfl ?_;refine XA (i:=1) rfl rfl ?_;refine Bb (v:=vU x1.1) rfl ?_;refine Bb (v:=vU x1.2) rfl ?_;refine Ag ?_;refine nrm ?_;refine Af ?_;refine Ac ?_;refine Ap (v:=vU x1.1) rfl ?_;refine Ap (v:=vU x1.2) rfl ?_;refine Ap (v:=vU a0) rfl ?_;obtain⟨x2,q2,hm⟩:=Aa hm;refine CJ Tryz.call161 (Ol (a0:=x1.1) (a1:=x1.2) (a2:=a0) S1 q2) rfl ?_;rintro _ w2 ⟨m2,l2,S2,rfl⟩;replace L0:=Mem.tr L0 l2;clear S1;replace S2:St _ (As) _:=S2;refine Bb (v:=vU x2) rfl ?_;refine Ag ?_;refine nrm ?_;refine Bl ?_;refine Dx ?_;intro we hpd;replace S2:=St.pd S2 hpd;have e0:=Option.some.inj hm;subst e0;exact G4 [_] rfl ⟨rfl,trivial⟩ ⟨_,L0,S2,rfl⟩
theorem GU {a0:UInt64}{a1:UInt64}{a2:UInt64}{r:UInt64}(hm:A5 a0 a1 a2=some r):Sf prog 109 [.d (.u a0),.d (.u a1),.d (.u a2)] (.d (.u r)):=
 ⟨call109,fun η m As w vs hv0 hd S=>by
  have S:St m As w:=S;obtain⟨v0,u0,rfl,r0,hv1⟩:=Bj.cons_inv hv0;obtain rfl:=r0.u_inv;obtain⟨v1,u1,rfl,r1,hv2⟩:=Bj.cons_inv hv1;obtain rfl:=r1.u_inv;obtain⟨v2,u2,rfl,r2,hv3⟩:=Bj.cons_inv hv2;obtain rfl:=r2.u_inv;obtain rfl:=Bj.nil_inv hv3;refine Az.mono (GJ S hm) ?_;rintro v w' ⟨M,hle,S0,rfl⟩;exact⟨M,none0,_,_,_,hle,RM hd _,⟨rfl,rfl,rfl⟩,fun n h=>absurd rfl h,(.d (.u _)),S0⟩⟩
def BU (a0:UInt64)(a1:UInt64):Option UInt64:=Ad (D8 (fun(s1:Unit) (b1:UInt64) (b2:UInt64)=>Ad (A5 2305843009213691579 b1 b2) fun x1=>some (x1,())) a0 a1 ()) fun x2=>some x2.1
theorem Og {m:Mem}{As:List Ow}{w:World}{a0:UInt64}{a1:UInt64}{r:UInt64}(S:St m (As) w)(hm:BU a0 a1=some r):
  Az Tryz.prog 62 #[vU a0,vU a1] w fun v w'=> ∃(M:Mem),m≤M∧St M (As) w'∧v=vU r:=by
 unfold BU at hm;have L0:=Mem.rfl' m;refine Co (args:=[vU a0,vU a1]) Tryz.func62 rfl Tryz.ntmps62 (Nat.le_of_ble_eq_true rfl) ?_;refine Af ?_;refine Ac ?_;refine Bb (v:=vU 0) rfl ?_;refine Ag ?_;refine nrm ?_;refine Af ?_;refine Ac ?_;refine Xw (pre:=[vU 2305843009213691579]) (caps:=[]) rfl rfl ?_;refine Ap (v:=vU a0) rfl ?_;refine Ap (v:=vU a1) rfl ?_;have hcb1: ∀{m':Mem} {As':List Ow} {w':World} {s:Unit} {X:List Ow} {b0:UInt64} {b1:UInt64} {r:UInt64×Unit},St m' (X++As') w'→(X=[])→(fun(s1:Unit) (b1:UInt64) (b2:UInt64)=>Ad (A5 2305843009213691579 b1 b2) fun x1=>some (x1,())) s b0 b1=some r→Dt Tryz.prog (.func (.func 109) #[vU 2305843009213691579] #[]) [vU b0,vU b1] w' fun v w''=> ∃(M:Mem) (X':List Ow),m'≤M∧St M (X'++As') w''∧(X'=[])∧v=vU r.1:=by
  intro m1 As1 w1 s1 X1 b1 b2 r1 S1 h1 hm1;subst h1;replace S1:St _ (As1) _:=S1;have L1:=Mem.rfl' m1;obtain⟨x1,q1,hm1⟩:=Aa hm1;refine Dt.mono (Dt.clo (pre:=[vU 2305843009213691579]) Tryz.call109 rfl (GJ (a0:=2305843009213691579) (a1:=b1) (a2:=b2) S1 q1)) ?_;rintro _ w2 ⟨m2,l1,S2,rfl⟩;replace L1:=Mem.tr L1 l1;clear S1;replace S2:St _ (As1) _:=S2;have e0:=Option.some.inj hm1;subst e0;exact⟨_,[],L1,S2,rfl,rfl⟩
 obtain⟨x2,q2,hm⟩:=Aa hm;refine CJ Tryz.call108 (LA (p0:=(fun(s1:Unit) (b1:UInt64) (b2:UInt64)=>Ad (A5 2305843009213691579 b1 b2) fun x1=>some (x1,()))) (a1:=a0) (a2:=a1) (s0:=()) (R:=(fun(s:Unit) (M:Mem) (X:List Ow)=>(X=[]))) (X0:=[]) (As:=As) S (fun {_ _ _ _} _ h=>h) rfl @hcb1 rfl q2) rfl ?_;rintro _ w3 ⟨m3,l2,X2,S3,rfl,rfl⟩;replace L0:=Mem.tr L0 l2;clear S;replace S3:St _ (As) _:=S3;refine Bb (v:=vU x2.1) rfl ?_;refine Ag ?_;refine nrm ?_;refine Bl ?_;refine Dx ?_;intro we hpd;replace S3:=St.pd S3 hpd;have e0:=Option.some.inj hm;subst e0;exact G4 [_] rfl ⟨rfl,trivial⟩ ⟨_,L0,S3,rfl⟩
theorem HG {a0:UInt64}{a1:UInt64}{r:UInt64}(hm:BU a0 a1=some r):Sf prog 62 [.d (.u a0),.d (.u a1)] (.d (.u r)):=
 ⟨call62,fun η m As w vs hv0 hd S=>by
  have S:St m As w:=S;obtain⟨v0,u0,rfl,r0,hv1⟩:=Bj.cons_inv hv0;obtain rfl:=r0.u_inv;obtain⟨v1,u1,rfl,r1,hv2⟩:=Bj.cons_inv hv1;obtain rfl:=r1.u_inv;obtain rfl:=Bj.nil_inv hv2;refine Az.mono (Og S hm) ?_;rintro v w' ⟨M,hle,S0,rfl⟩;exact⟨M,none0,_,_,_,hle,RM hd _,⟨rfl,rfl,rfl⟩,fun n h=>absurd rfl h,(.d (.u _)),S0⟩⟩
def Ej (a0:UInt64):Option Bool:=Ad (gu ((decide ((a0.toNat:Int)>0))&&(decide ((a0.toNat:Int)<2305843009213691579))) (BU a0 1152921504606845789)) fun x1=>bnd ((((decide ((a0.toNat:Int)>0))&&(decide ((a0.toNat:Int)<2305843009213691579)))&&((x1.toNat:Int)==1))) fun x2=>some x2
theorem Pl {a0:UInt64}{r:Bool}(hm:Ej a0=some r):Sf prog 60 [.d (.u a0)] (.d (.t r)):=
 sp call60 func60 rfl ntmps60 rfl fun D0 As η0 m0 hd=>by
  unfold Ej at hm;obtain⟨x1,q1,hm⟩:=Aa hm;refine gcG (fun h=>HG (G5 h q1)) ?_;have hm:=Ba hm;let x2:Bool:=((((decide ((a0.toNat:Int)>0))&&(decide ((a0.toNat:Int)<2305843009213691579)))&&((x1.toNat:Int)==1)));have e0:=Option.some.inj hm;subst e0;exact AO hd
def A6 (s1:UInt64×UInt64×Int×Int):Option ((UInt64×UInt64×Int×Int)⊕(Int)):=if((s1.2.1.toNat:Int) !=0)=true then if s1.2.1≠0 then bnd ((s1.1-((s1.1/s1.2.1)*s1.2.1))) fun x4=>bnd ((w64 (s1.2.2.1-(w64 ((w64 ((s1.1/s1.2.1).toNat:Int))*s1.2.2.2))))) fun x5=>some (.inl (s1.2.1,x4,s1.2.2.2,x5))else none else some (.inr s1.2.2.1)
def Cx (a0:UInt64)(a1:UInt64):Option (UInt64×Int):=if a0≠0 then if(((a1%a0).toNat:Int)==0)=true then some (0,10)else Ad (Ad (iter A6 E4 ((a1%a0),a0,1,0)) fun x2=>some x2) fun x1=>Ad (if(decide (x1<0))=true then bnd ((w64 (x1+(w64 (a0.toNat:Int))))) fun x7=>some x7 else some x1) fun x6=>some ((toU x6),0)else none
theorem Hv {a0:UInt64}{a1:UInt64}{r:UInt64×Int}(hm:Cx a0 a1=some r):Sf prog 107 [.d (.u a0),.d (.u a1)] (.tup [.d (.u r.1),.d (.i r.2)]):=
 sp call107 func107 rfl ntmps107 rfl fun D0 As η0 m0 hd=>by
  unfold Cx at hm;obtain⟨q1,hm⟩:=B2 hm;refine UZ (d:= .u a0) (r:= .u (a1%a0)) (fun h=>q1) ?_;refine gi hm (fun hc1 hm=> ?_) fun hc1 hm=> ?_
  ·skip;have e0:=Option.some.inj hm;subst e0;exact AO hd
  obtain⟨x1,q2,hm⟩:=Aa hm;obtain⟨x2,q3,q2⟩:=Aa q2;refine gjU 0 (fun(_:Unit)=>⟨[(0,.d (.u a0)),(8,.d (.i x1))],[],[],0⟩) (fun _=>True) (fun Jp bk1=> ?_) fun _ _=> ?_
  ·refine gjU 0 (fun(_:Unit)=>⟨[(0,.d (.u a0)),(8,.d (.i x2))],[],[],0⟩) (fun _=>True) (fun Jp bk2=> ?_) fun _ _=> ?_
   ·refine gl hd (fun(p:Nat×(UInt64×UInt64×Int×Int))=>let (p0,p_0,p_1,p_2,p_3):=p; ⟨[(0,.d (.u a0)),(6,.d (.u p_0)),(7,.d (.u p_1)),(8,.d (.i p_2)),(9,.d (.i p_3))],[],[],0⟩) (fun p=>iter A6 p.1 p.2=some x2) (fun p=>p.1) (E4,((a1%a0),a0,1,0)) q3 ?_;rintro⟨n1,s1⟩ q4 Jl bl1;cases n1 with
    |zero=>exact(BK q4).elim
    |succ n1=>
     obtain⟨y1,q6,q5⟩:=BE q4;unfold A6 at q6;refine gi q6 (fun hc2 q6=> ?_) fun hc2 q6=> ?_
     ·skip;obtain⟨q8,q6⟩:=B2 q6;refine UZ (d:= .u s1.2.1) (r:= .u (s1.1/s1.2.1)) (fun h=>q8) ?_;have q6:=Ba q6;let x4:UInt64:=((s1.1-((s1.1/s1.2.1)*s1.2.1)));have q6:=Ba q6;let x5:Int:=((w64 (s1.2.2.1-(w64 ((w64 ((s1.1/s1.2.1).toNat:Int))*s1.2.2.2)))));have e0:=Option.some.inj q6;subst e0;rcases q5 with ⟨sn,e,q5'⟩|e
      ·have e:=Sum.inl.inj e;subst e;exact gb bl1 hd (n1,_) ⟨q5',Nat.lt_succ_self _⟩
      cases B4 e
     have e0:=Option.some.inj q6;subst e0;rcases q5 with ⟨sn,e,_⟩|e
     ·cases GN e
     have e:=Sum.inr.inj e;subst e;exact gb bk2 hd () trivial
   have e0:=Option.some.inj q2;subst e0;exact gb bk1 hd () trivial
  obtain⟨x6,q11,hm⟩:=Aa hm;refine gj (fun(_:Unit)=>⟨[(8,.d (.i x6))],[],[],0⟩) (fun _=>True) (fun Jp bk3=> ?_) fun _ _=> ?_
  ·refine gi q11 (fun hc3 q11=> ?_) fun hc3 q11=> ?_
   ·have q11:=Ba q11;let x7:Int:=((w64 (x1+(w64 (a0.toNat:Int)))));have e0:=Option.some.inj q11;subst e0;exact gb bk3 hd () trivial
   have e0:=Option.some.inj q11;subst e0;exact gb bk3 hd () trivial
  have e0:=Option.some.inj hm;subst e0;exact AO hd
def CR (a0:UInt64):Option (UInt64×Int):=Ad (Cx 2305843009213691579 a0) fun x1=>some (x1.1,x1.2)
theorem Oi {a0:UInt64}{r:UInt64×Int}(hm:CR a0=some r):Sf prog 61 [.d (.u a0)] (.tup [.d (.u r.1),.d (.i r.2)]):=
 sp call61 func61 rfl ntmps61 rfl fun D0 As η0 m0 hd=>by
  unfold CR at hm;obtain⟨x1,q1,hm⟩:=Aa hm;refine gc (fun _=>Hv q1) ?_;have e0:=Option.some.inj hm;subst e0;exact AO hd
def FV (a0:UInt64×UInt64)(a1:UInt64):Option UInt64:=if((a1.toNat:Int)==0)=true then some 0 else Ad (DJ a0.1 2305843009213693952) fun x1=>if a1≠0 then Ad (Es ((x1.1+(Gf x1.2 a0.2))%a1) (x1.2+a0.2) a1) fun x2=>some x2.2 else none
theorem LR {a0:UInt64×UInt64}{a1:UInt64}{r:UInt64}(hm:FV a0 a1=some r):Sf prog 110 [ag (Lj a0),.d (.u a1)] (.d (.u r)):=
 sp call110 func110 rfl ntmps110 rfl fun D0 As η0 m0 hd=>by
  unfold FV at hm;refine gi hm (fun hc1 hm=> ?_) fun hc1 hm=> ?_
  ·skip;have e0:=Option.some.inj hm;subst e0;exact AO hd
  obtain⟨x1,q1,hm⟩:=Aa hm;refine gc (fun _=>Hx q1) ?_;refine WR (p:=x1.2) (q:=a0.2) func162 ?_;obtain⟨q2,hm⟩:=B2 hm;refine UZ (d:= .u a1) (r:= .u ((x1.1+(Gf x1.2 a0.2))%a1)) (fun h=>q2) ?_;obtain⟨x2,q3,hm⟩:=Aa hm;refine gc (fun _=>JE q3) ?_;have e0:=Option.some.inj hm;subst e0;exact AO hd
def DR (a1:UInt64)(s1:(List UInt8)×Int):Option (((List UInt8)×Int)⊕((List UInt8))):=if(decide (s1.2≥0))=true then if(0:Int)≤(w64 (8*s1.2))then Ad (app 1 s1.1 ([(toB ((De a1 ((w64 (8*s1.2)).toNat)).toNat:Int))]:List UInt8)) fun x4=>some (.inl (x4,(w64 (s1.2-1))))else none else some (.inr s1.1)
def FQ (a0:List UInt8)(a1:UInt64)(a2:Int):Option (List UInt8):=Ad (Ad (iter (DR a1) E4 (a0,(w64 (a2-1)))) fun x2=>some x2) fun x1=>some x1
theorem Rj {a0:List UInt8}{a1:UInt64}{a2:Int}{r:List UInt8}(hm:FQ a0 a1 a2=some r):Sp prog 164 [.ow 0,.d (.u a1),.d (.i a2)] [.row 0 1 _ eB a0] 1 (is (.ow 1) [.row 1 1 _ eB r] 2):=
 sp call164 func164 rfl ntmps164 rfl fun D0 As η0 m0 hd=>by
  unfold FQ at hm;obtain⟨x1,q1,hm⟩:=Aa hm;obtain⟨x2,q2,q1⟩:=Aa q1;refine gjU 0 (fun(_:Unit)=>⟨[(0,.ow 1)],[(0,.row 1 1 _ eB x1)],[],2⟩) (fun _=>True) (fun Jp bk1=> ?_) fun _ _=> ?_
  ·refine gjU 0 (fun(_:Unit)=>⟨[(0,.ow 1)],[(0,.row 1 1 _ eB x2)],[],2⟩) (fun _=>True) (fun Jp bk2=> ?_) fun _ _=> ?_
   ·refine gl hd (fun(p:Nat×((List UInt8)×Int))=>let (p0,p_0,p_1):=p; ⟨[(0,.ow 1),(1,.d (.u a1)),(2,.d (.i p_1))],[(0,.row 1 1 _ eB p_0)],[],2⟩) (fun p=>iter (DR a1) p.1 p.2=some x2) (fun p=>p.1) (E4,(a0,(w64 (a2-1)))) q2 ?_;rintro⟨n1,s1⟩ q3 Jl bl1;cases n1 with
    |zero=>exact(BK q3).elim
    |succ n1=>
     obtain⟨y1,q5,q4⟩:=BE q3;unfold DR at q5;refine gi q5 (fun hc1 q5=> ?_) fun hc1 q5=> ?_
     ·skip;obtain⟨q7,q5⟩:=B2 q5;refine gsh (r:= .u (De a1 ((w64 (8*s1.2)).toNat))) (fun h=>q7) ?_;refine ES (k:=1) eB ([(toB ((De a1 ((w64 (8*s1.2)).toNat)).toNat:Int))]:List UInt8) (fun _=>rfl) ?_;obtain⟨x4,q8,q5⟩:=Aa q5;refine RK (k:=1) (E:=eB) (fun _=>rfl) q8 ?_;have e0:=Option.some.inj q5;subst e0;rcases q4 with ⟨sn,e,q4'⟩|e
      ·have e:=Sum.inl.inj e;subst e;exact gb bl1 hd (n1,_) ⟨q4',Nat.lt_succ_self _⟩
      cases B4 e
     have e0:=Option.some.inj q5;subst e0;rcases q4 with ⟨sn,e,_⟩|e
     ·cases GN e
     have e:=Sum.inr.inj e;subst e;exact gb bk2 hd () trivial
   have e0:=Option.some.inj q1;subst e0;exact gb bk1 hd () trivial
  have e0:=Option.some.inj hm;subst e0;exact AO hd
def AJ {σ:Type}(p0:σ→(List UInt8)→Option (Bool×σ))(k0:List UInt8)(k1:Int)(s1:Int×σ):Option ((Int×σ)⊕((σ)⊕((List UInt8)×Int×σ))):=if(decide (s1.1<(k0.length:Int)))=true then Ad (cut k0 s1.1 (k0.length:Int)) fun x3=>Ad (cut k0 s1.1 (w64 (s1.1+(Kc k1 (x3.length:Int))))) fun x4=>Ad (p0 s1.2 x4) fun x5=>if(!x5.1)=true then some (.inr (.inr (k0,k1,x5.2)))else some (.inl ((w64 (s1.1+k1)),x5.2))else some (.inr (.inl s1.2))
def BI {σ:Type}(p0:σ→(List UInt8)→Option (Bool×σ))(k0:List UInt8)(k1:Int)(s0:σ):Option ((List UInt8)×Int×σ):=Ad (iter (AJ p0 k0 k1) E4 (0,s0)) fun x1=>match x1 with| .inr r=>some r| .inl y1=>some (k0,k1,y1)
theorem Gi {m:Mem}{As:List Ow}{w:World}{σ:Type}{R:σ→Mem→List Ow→Prop}{p0:σ→(List UInt8)→Option (Bool×σ)}{f0:Value}{kb0:Nat}{k0:List UInt8}{k0v0:Value}{kb1:Nat}{k1:Int}{s0:σ}{X0:List Ow}{r:(List UInt8)×Int×σ}(S:St m ((bx kb0 [k0v0] 52)::(bx kb1 [vI k1] 3)::(X0++As)) w)(hup: ∀{s M M' X},M≤M'→R s M X→R s M' X)(hX0:R s0 m X0)(cb0: ∀{m':Mem} {As':List Ow} {w':World} {s:σ} {X:List Ow} {b0:List UInt8} {b0v0:Value} {r:Bool×σ},St m' (X++As') w'→R s m' X→SlR m' b0v0 b0→p0 s b0=some r→Dt Tryz.prog f0 [b0v0] w' fun v w''=> ∃(M:Mem) (X':List Ow),m'≤M∧St M (X'++As') w''∧R r.2 M X'∧v=vb r.1)(fc0:f0.cells= #[f0])(k0h0:SlR m k0v0 k0)(hm:BI p0 k0 k1 s0=some r):
  Az Tryz.prog 228 #[f0,pt kb0 0,pt kb1 0] w fun v w'=> ∃(M:Mem),m≤M∧∃(rb0_0:Value) (X:List Ow),St M ((bx kb0 [rb0_0] 52)::(bx kb1 [vI r.2.1] 3)::(X++As)) w'∧v= .tuple #[]∧SlR M rb0_0 r.1∧R r.2.2 M X:=by
 unfold BI at hm;have L0:=Mem.rfl' m;refine Co (args:=[f0,pt kb0 0,pt kb1 0]) Tryz.func228 rfl Tryz.ntmps228 (Nat.le_of_ble_eq_true rfl) ?_;refine Af ?_;refine Ac ?_;refine Bb (v:=vI 0) rfl ?_;refine Ag ?_;refine nrm ?_;obtain⟨x1,q1,hm⟩:=Aa hm;have L1:=Mem.rfl' m;refine J2 ?_;refine Bn [4,5,6,7,8,9,10,11,12,13,14,15,16,17,18,19,20,21,22,23,24,25,26,27,28,29,30] (fun f' w'=> ∃(M1:Mem) (y1:σ) (X2:List Ow),x1= .inl y1∧m≤M1∧St M1 ((bx kb0 [k0v0] 52)::(bx kb1 [vI k1] 3)::(X2++As)) w'∧R y1 M1 X2∧B5 f' []) ?_ ?_
 ·refine AA ?_;refine BL [4,5,6,7,8,9,10,11,12,13,14,15,16,17,18,19,20,21,22,23,24,25,26,27,28,29,30] (fun n1 f' w'=> ∃(s1:Int×σ) (m9:Mem) (X1:List Ow),iter (AJ p0 k0 k1) n1 s1=some x1∧m≤m9∧St m9 ((bx kb0 [k0v0] 52)::(bx kb1 [vI k1] 3)::(X1++As)) w'∧R s1.2 m9 X1∧B5 f' [(4,vI s1.1)]) E4 ⟨(0,s0),m,_,q1,L1,S,hX0,⟨rfl,trivial⟩⟩ ?_;rintro n1 f1 w1 ho ⟨s1,m1,X1,q2,L3,S1,h1,ha⟩;obtain⟨u1,rfl⟩:=BP (N:=31) ho ha;clear ho ha;replace k0h0:=k0h0.up L3;have L2:=Mem.rfl' m1;clear S;cases n1 with
  |zero=>exact(BK q2).elim
  |succ n1=>
   obtain⟨y2,q4,q3⟩:=BE q2;unfold AJ at q4;refine Af ?_;refine Af ?_;refine Ac ?_;refine Ap (v:=vI s1.1) rfl ?_;refine GS (i:=0) (cs:=[k0v0]) S1 rfl rfl Tryz.isAgg52 Tryz.sizeOf52 rfl (fun _=>rfl) ?_;refine HF (xs:=k0) rfl k0h0 Tryz.underlying52 ?_;refine IN (m:=s1.1) (n:=(k0.length:Int)) rfl rfl ?_;refine Ag ?_;refine nrm ?_;refine B3 (t:=(decide (s1.1<(k0.length:Int)))) rfl (fun hc1=> ?_) (fun hc1=> ?_)
   ·replace q4:=ifT hc1 q4;refine A7 ?_;refine nrm ?_;refine Af ?_;refine AA ?_;refine Af ?_;obtain⟨x3,q6,q4⟩:=Aa q4;have HM:Gg [(13,fv (vI k1)),(14,fv k0v0),(15,fv (vI s1.1)),(16,fun(M:Mem) (v:Value)=> ∃(v1:Value),v=v1∧SlR M v1 x3),(17,fv (vI (x3.length:Int)))]:=⟨mv,mv,mv,(fun _ _ _ l ⟨v1,e,h3⟩=>⟨v1,e,h3.up l⟩),mv,trivial⟩;refine Iy HM 5 Vv rfl rfl rfl [13,14,15,16,17] (fun L f M w=>St M ((bx kb0 [k0v0] 52)::(bx kb1 [vI k1] 3)::(X1++As)) w) (St.drew S1 _) ?_ ?_
    ·refine⟨?_,?_,?_,?_,?_,trivial⟩
     ·exact flp HM rfl [] (fun _ _=>trivial) (fun _ S2 q=>GS (i:=1) (cs:=[vI k1]) S2 rfl rfl Tryz.isAgg3 Tryz.sizeOf3 rfl (fun _=>rfl) q) rfl
     ·exact flp HM rfl [] (fun _ _=>trivial) (fun _ S3 q=>GS (i:=0) (cs:=[k0v0]) S3 rfl rfl Tryz.isAgg52 Tryz.sizeOf52 rfl (fun _=>rfl) q) rfl
     ·exact flp HM rfl [] (fun _ _=>trivial) (fun _ _ q=>Ap (v:=vI s1.1) rfl q) rfl
     ·intro L f5 w5 hL hd hc ⟨m5,L10,S5,K,hO⟩;have d1:L 1=true:=dep hd rfl;have e1:=K 1 d1;have d2:L 2=true:=dep hd rfl;have e2:=K 2 d2;obtain⟨u5,rfl⟩:=BP (N:=31) (L:=[(14,k0v0),(15,vI s1.1)]) hO ⟨e1,e2,trivial⟩;replace S5:St _ ((bx kb0 [k0v0] 52)::(bx kb1 [vI k1] 3)::(X1++As)) _:=S5;replace k0h0:=k0h0.up L10;replace h1:=hup L10 h1;have L11:=Mem.rfl' m5;refine Ry (ys:=x3) (l:=s1.1) (h:=(k0.length:Int)) rfl k0h0 Tryz.underlying52 Tryz.sizeOf5 (.inr ⟨_,rfl⟩) (.inl ⟨rfl,rfl⟩) (.inl rfl) q6 ?_;intro v1 h3;refine wpn ?_;refine⟨m5,Mem.tr L10 L11,?_,H6 HM rfl K L11 rfl rfl ⟨v1,rfl,h3⟩,Fl⟩;exact S5
     ·intro L f6 w6 hL hd hc ⟨m6,L12,S6,K,hO⟩;have d3:L 3=true:=dep hd rfl;obtain⟨v2,e3,h4⟩:=K 3 d3;obtain⟨u6,rfl⟩:=BP (N:=31) (L:=[(16,v2)]) hO ⟨e3,trivial⟩;replace S6:St _ ((bx kb0 [k0v0] 52)::(bx kb1 [vI k1] 3)::(X1++As)) _:=S6;replace k0h0:=k0h0.up L12;replace h1:=hup L12 h1;have L13:=Mem.rfl' m6;refine HF (xs:=x3) rfl h4 Tryz.underlying52 ?_;refine wpn ?_;refine⟨m6,Mem.tr L12 L13,?_,H6 HM rfl K L13 rfl rfl rfl,Fl⟩;exact S6
    intro L f7 w7 hall ⟨m7,L14,S7,K,hO⟩;have d0:L 0=true:=hall 0 (by decide);have e4:=K 0 d0;have d4:L 4=true:=hall 4 (by decide);have e5:=K 4 d4;obtain⟨u7,rfl⟩:=BP (N:=31) (L:=[(13,vI k1),(17,vI (x3.length:Int))]) hO ⟨e4,e5,trivial⟩;replace S7:St _ ((bx kb0 [k0v0] 52)::(bx kb1 [vI k1] 3)::(X1++As)) _:=S7;replace k0h0:=k0h0.up L14;replace h1:=hup L14 h1;replace L2:=Mem.tr L2 L14;clear S1;refine SE rfl rfl ?_;refine Bb (v:=vI (Kc k1 (x3.length:Int))) rfl ?_;refine Ag ?_;refine nrm ?_;refine Af ?_;refine Ac ?_;refine Ap (v:=f0) rfl ?_;refine GS (i:=0) (cs:=[k0v0]) S7 rfl rfl Tryz.isAgg52 Tryz.sizeOf52 rfl (fun _=>rfl) ?_;refine Ap (v:=vI s1.1) rfl ?_;refine Ap (v:=vI s1.1) rfl ?_;refine Ap (v:=vI (Kc k1 (x3.length:Int))) rfl ?_;refine Fp (m:=s1.1) (n:=(Kc k1 (x3.length:Int))) rfl rfl ?_;refine Ap (v:=vI s1.1) rfl ?_;refine Ap (v:=vI (Kc k1 (x3.length:Int))) rfl ?_;refine Fp (m:=s1.1) (n:=(Kc k1 (x3.length:Int))) rfl rfl ?_;obtain⟨x4,q7,q4⟩:=Aa q4;refine Ry (ys:=x4) (l:=s1.1) (h:=(w64 (s1.1+(Kc k1 (x3.length:Int))))) rfl k0h0 Tryz.underlying52 Tryz.sizeOf5 (.inr ⟨_,rfl⟩) (.inr ⟨_,rfl⟩) (.inr ⟨(fun h=>by cases h),_,rfl⟩) q7 ?_;intro v3 h5;obtain⟨x5,q8,q4⟩:=Aa q4;have S8:=St.absF (L:=[bx kb0 [k0v0] 52,bx kb1 [vI k1] 3]) (X:=X1) (As:=As) S7;refine Fx rfl (cb0 S8 h1 h5 q8) rfl ?_;rintro _ w8 ⟨m8,X3,l1,S9,h6,rfl⟩;replace S9:=St.absF (L:=X3) (X:=[bx kb0 [k0v0] 52,bx kb1 [vI k1] 3]) (As:=As) S9;clear S8;replace h5:=h5.up l1;replace k0h0:=k0h0.up l1;replace L2:=Mem.tr L2 l1;replace S9:St _ ((bx kb0 [k0v0] 52)::(bx kb1 [vI k1] 3)::(X3++As)) _:=S9;clear S7;refine Ps rfl ?_;refine Ag ?_;refine nrm ?_;refine B3 (t:=(!x5.1)) rfl (fun hc2=> ?_) (fun hc2=> ?_)
    ·replace q4:=ifT hc2 q4;refine Bl ?_;refine blR ?_;refine thR ?_;refine thR ?_;refine blR ?_;refine thR ?_;refine Dx ?_;intro we hpd;replace S9:=St.pd S9 hpd;cases q4;rcases q3 with ⟨sn,e,_⟩|e
     ·cases e
     cases e;dsimp only at hm;have e0:=Option.some.inj hm;subst e0;exact G4 [] rfl trivial ⟨_,(Mem.tr L0 (Mem.tr L3 L2)),_,_,S9,rfl,k0h0,h6⟩
    replace q4:=ifF hc2 q4;refine A7 ?_;refine J9 ?_;refine nrm ?_;refine Ac ?_;refine Ap (v:=vI s1.1) rfl ?_;refine GS (i:=1) (cs:=[vI k1]) S9 rfl rfl Tryz.isAgg3 Tryz.sizeOf3 rfl (fun _=>rfl) ?_;refine Fp (m:=s1.1) (n:=k1) rfl rfl ?_;refine Bb (v:=vI (w64 (s1.1+k1))) rfl ?_;refine Ag ?_;refine nrm ?_;have e0:=Option.some.inj q4;subst e0;rcases q3 with ⟨sn,e,q3'⟩|e
    ·cases e;exact⟨Fl,_,Nat.lt_succ_self _,⟨_,m8,_,q3',Mem.tr L3 L2,S9,h6,⟨rfl,trivial⟩⟩⟩
    ·cases e
   replace q4:=ifF hc1 q4;refine CH ?_;refine thE ?_;refine thE ?_;refine exB ?_;refine nrm ?_;have e0:=Option.some.inj q4;subst e0;rcases q3 with ⟨sn,e,_⟩|e
   ·cases e
   ·cases e;exact⟨Fl,m1,_,_,rfl,Mem.tr L3 L2,S1,h1,trivial⟩
 rintro f8 w9 ho ⟨m10,y1,X2,rfl,l2,S10,h2,ha⟩;obtain⟨u8,rfl⟩:=BP (N:=31) ho ha;clear ho ha;dsimp only at hm;replace k0h0:=k0h0.up l2;replace L0:=Mem.tr L0 l2;clear S;refine RF ?_;intro we hpd;replace S10:=St.pd S10 hpd;have e0:=Option.some.inj hm;subst e0;exact G4 [] rfl trivial ⟨_,L0,_,_,S10,rfl,k0h0,h2⟩
def BX (a0:List UInt8)(a1:Int):Option ((List UInt8)×Int):=Ad (if(decide (a1<1))=true then none else some ()) fun x1=>some (a0,a1)
theorem GH {m:Mem}{As:List Ow}{w:World}{a0:List UInt8}{a0v0:Value}{a1:Int}{r:(List UInt8)×Int}(S:St m (As) w)(a0h0:SlR m a0v0 a0)(hm:BX a0 a1=some r):
  Az Tryz.prog 215 #[a0v0,vI a1] w fun v w'=> ∃(M:Mem),m≤M∧∃(rk0_0:Nat) (rc0_0_0:Value) (rk0_1:Nat),St M ((bx rk0_0 [rc0_0_0] 52)::(bx rk0_1 [vI r.2] 3)::As) w'∧v= .func (.func 228) #[] #[pt rk0_0 0,pt rk0_1 0]∧SlR M rc0_0_0 r.1:=by
 unfold BX at hm;have L0:=Mem.rfl' m;refine Co (args:=[a0v0,vI a1]) Tryz.func215 rfl Tryz.ntmps215 (Nat.le_of_ble_eq_true rfl) ?_;refine Af ?_;refine Ac ?_;refine Wk S rfl (SlR.cells a0h0) ?_;intro b1 w1 S1;replace S1:St _ ((bx b1 [a0v0] 52)::As) _:=S1;clear S;refine JZ S1 rfl ?_;intro b2 w2 S2;replace S2:St _ ((bx b2 [vI a1] 3)::(bx b1 [a0v0] 52)::As) _:=S2;clear S1;refine Bb (v:= .nilFunc) rfl ?_;refine Ag ?_;refine nrm ?_;obtain⟨x1,q1,hm⟩:=Aa hm;have L1:=Mem.rfl' m;refine Af ?_;refine Bn [5,6,7] (fun f' w'=> ∃(M1:Mem),m≤M1∧St M1 ((bx b2 [vI a1] 3)::(bx b1 [a0v0] 52)::As) w'∧B5 f' []) ?_ ?_
 ·refine Af ?_;refine Ac ?_;refine GS (i:=0) (cs:=[vI a1]) S2 rfl rfl Tryz.isAgg3 Tryz.sizeOf3 rfl (fun _=>rfl) ?_;refine IN (m:=a1) (n:=1) rfl rfl ?_;refine Ag ?_;refine nrm ?_;refine B3 (t:=(decide (a1<1))) rfl (fun hc1=> ?_) (fun hc1=> ?_)
  ·replace q1:=ifT hc1 q1;cases q1
  replace q1:=ifF hc1 q1;refine A7 ?_;refine nrm ?_;have e0:=Option.some.inj q1;subst e0;exact⟨Fl,m,L1,S2,trivial⟩
 rintro f1 w3 ho ⟨m1,l1,S3,ha⟩;obtain⟨u1,rfl⟩:=BP (N:=9) ho ha;replace a0h0:=a0h0.up l1;replace L0:=Mem.tr L0 l1;clear S2;refine Af ?_;refine Ac ?_;refine Jm (caps:=[pt b1 0,pt b2 0]) rfl ?_;refine Bb (v:= .func (.func 228) #[] #[pt b1 0,pt b2 0]) rfl ?_;refine Ag ?_;refine nrm ?_;refine Bl ?_;refine Dx ?_;intro we hpd;replace S3:=St.pd S3 hpd;have S4:St _ ((bx b1 [a0v0] 52)::(bx b2 [vI a1] 3)::As) _:=St.perm S3 (List.Perm.swap _ _ _);have e0:=Option.some.inj hm;subst e0;exact G4 [_] rfl ⟨rfl,trivial⟩ ⟨_,L0,_,_,_,S4,rfl,a0h0⟩
def C0 (b5:List UInt8)(i1:Int)(s2:UInt64):Option (UInt64):=Ad (idx b5 (i1:Int)) fun x6=>if(0:Int)≤(w64 (8*(i1:Int)))then bnd ((s2|||(FB (toU (x6.toNat:Int)) ((w64 (8*(i1:Int))).toNat)))) fun x7=>some x7 else none
def C1 (b5:List UInt8)(s1:(List UInt64)):Option ((List UInt64)):=Ad (Ad (Ck (C0 b5) b5.length 0 0) fun x4=>some x4) fun x3=>Ad (app 8 s1 ([x3]:List UInt64)) fun x8=>some x8
def G0 (a0:List UInt8):Option (List UInt64):=Ad (BX a0 7) fun x1=>Ad (BI (fun(s:(List UInt64)) (b0:List UInt8)=>Ad (C1 b0 s) fun y=>some (true,y)) x1.1 x1.2 ([]:List UInt64)) fun x2=>some x2.2.2
theorem Rn {m:Mem}{As:List Ow}{w:World}{a0:List UInt8}{a0v0:Value}{r:List UInt64}(S:St m (As) w)(a0h0:SlR m a0v0 a0)(hm:G0 a0=some r):
  Az Tryz.prog 199 #[a0v0] w fun v w'=> ∃(M:Mem),m≤M∧∃(rv0:Value) (rc0:List Value),St M ((row 1 rv0 rc0 r.length)::As) w'∧v=rv0∧Bq M rc0 r:=by
 unfold G0 at hm;have L0:=Mem.rfl' m;refine Co (args:=[a0v0]) Tryz.func199 rfl Tryz.ntmps199 (Nat.le_of_ble_eq_true rfl) ?_;refine Af ?_;refine Ac ?_;refine Bb (v:= .slice none 0 0) rfl ?_;refine Ag ?_;refine nrm ?_;refine Af ?_;refine Ac ?_;refine EC S Tryz.zeroValue140 ?_;intro b1 w1 S1;replace S1:St _ ((bx b1 [.slice none 0 0] 140)::As) _:=S1;clear S;refine Ag ?_;refine nrm ?_;refine Af ?_;refine Af ?_;refine Ac ?_;refine Ap (v:=a0v0) rfl ?_;obtain⟨x1,q1,hm⟩:=Aa hm;refine CJ Tryz.call215 (GH (a0:=a0) (a1:=7) S1 a0h0 q1) rfl ?_;rintro _ w2 ⟨m1,l1,b2,v1,b3,S2,rfl,h1⟩;replace a0h0:=a0h0.up l1;replace L0:=Mem.tr L0 l1;clear S1;replace S2:St _ ((bx b2 [v1] 52)::(bx b3 [vI x1.2] 3)::(bx b1 [.slice none 0 0] 140)::As) _:=S2;refine Ag ?_;refine nrm ?_;refine AA ?_;obtain⟨x2,q2,hm⟩:=Aa hm;refine Ew S2 rfl Tryz.call228 ?_;intro lp1 rip2 w3 h2 S3;replace S3:St _ ((Lp lp1 rip2 .ready none)::(bx b2 [v1] 52)::(bx b3 [vI x1.2] 3)::(bx b1 [.slice none 0 0] 140)::As) _:=S3;clear S2;have S4:=St.rowNil S3 1;have h4:Bq m1 [] ([]:List UInt64):=Bq.nil;replace S4:St _ ((row 1 (.slice none 0 0) [] ([]:List UInt64).length)::(Lp lp1 rip2 .ready none)::(bx b2 [v1] 52)::(bx b3 [vI x1.2] 3)::(bx b1 [.slice none 0 0] 140)::As) _:=S4;clear S3;have S5:St _ ((bx b2 [v1] 52)::(bx b3 [vI x1.2] 3)::(Lp lp1 rip2 .ready none)::(row 1 (.slice none 0 0) [] ([]:List UInt64).length)::(bx b1 [(.slice none 0 0)] 140)::As) _:=St.perm S4 (List.Perm.trans (List.Perm.cons _ (List.Perm.swap _ _ _)) (List.Perm.trans (List.Perm.swap _ _ _) (List.Perm.trans (List.Perm.cons _ (List.Perm.cons _ (List.Perm.swap _ _ _))) (List.Perm.trans (List.Perm.cons _ (List.Perm.swap _ _ _)) (List.Perm.cons _ (List.Perm.cons _ (List.Perm.swap _ _ _)))))));clear S4;have hcb1: ∀{m':Mem} {As':List Ow} {w':World} {s:(List UInt64)} {X:List Ow} {b0:List UInt8} {b0v0:Value} {r:Bool×(List UInt64)},St m' (X++As') w'→(∃(v3:Value) (c2:List Value),m1≤m'∧X=Lp lp1 rip2 .ready none::(row 1 v3 c2 (s).length)::(bx b1 [v3] 140)::[]∧Bq m' c2 (s))→SlR m' b0v0 b0→(fun(s:(List UInt64)) (b0:List UInt8)=>Ad (C1 b0 s) fun y=>some (true,y)) s b0=some r→Dt Tryz.prog (.func (.yield lp1) #[] #[]) [b0v0] w' fun v w''=> ∃(M:Mem) (X':List Ow),m'≤M∧St M (X'++As') w''∧(∃(v3:Value) (c2:List Value),m1≤M∧X'=Lp lp1 rip2 .ready none::(row 1 v3 c2 (r.2).length)::(bx b1 [v3] 140)::[]∧Bq M c2 (r.2))∧v=vb r.1:=by
  intro m2 As1 w4 s1 X1 b5 v4 r4 S6 h6 h7 hm1;obtain⟨v5,c3,L2,rfl,h8⟩:=h6;obtain⟨y1,q3,hm1⟩:=Aa hm1;cases hm1;unfold C1 at q3;replace S6:St _ ((Lp lp1 rip2 .ready none)::(row 1 v5 c3 s1.length)::(bx b1 [v5] 140)::As1) _:=S6;have L1:=Mem.rfl' m2;refine Dt.round h2 rfl S6 ?_;refine Ac ?_;refine Bb (v:=v4) rfl ?_;refine Ag ?_;refine nrm ?_;refine⟨_,_,S6,?_⟩;intro w5 S7;clear S6;replace S7:St _ ((Lp lp1 rip2 .busy none)::(row 1 v5 c3 s1.length)::(bx b1 [v5] 140)::As1) _:=S7;refine AA ?_;refine Af ?_;refine Ac ?_;refine Bb (v:=vU 0) rfl ?_;refine Ag ?_;refine nrm ?_;obtain⟨x3,q4,q3⟩:=Aa q3;have L3:=Mem.rfl' m2;refine Af ?_;refine Bn [5,6,7,11,12,13,14,15,16,17,18,19,20,21,22,23,24,25] (fun f' w'=> ∃(M1:Mem),m2≤M1∧St M1 ((Lp lp1 rip2 .busy none)::(row 1 v5 c3 s1.length)::(bx b1 [v5] 140)::As1) w'∧B5 f' [(5,vU x3)]) ?_ ?_
  ·refine Af ?_;refine Ac ?_;refine Ap (v:=v4) rfl ?_;refine HF (xs:=b5) rfl h7 Tryz.underlying52 ?_;refine Ap (v:=vI 0) rfl ?_;refine Ag ?_;refine nrm ?_;obtain⟨x4,q5,q4⟩:=Aa q4;have L4:=Mem.rfl' m2;refine Bn [5,6,7,13,14,15,16,17,18,19,20,21,22,23,24,25] (fun f' w'=> ∃(M2:Mem),m2≤M2∧St M2 ((Lp lp1 rip2 .busy none)::(row 1 v5 c3 s1.length)::(bx b1 [v5] 140)::As1) w'∧B5 f' [(5,vU x4)]) ?_ ?_
   ·refine AA ?_;refine BL [5,6,7,13,14,15,16,17,18,19,20,21,22,23,24,25] (fun n1 f' w'=> ∃(i1:Nat) (s2:UInt64) (m4:Mem),n1=b5.length-i1∧i1≤b5.length∧Ck (C0 b5) (b5.length-i1) (i1:Int) s2=some x4∧m2≤m4∧St m4 ((Lp lp1 rip2 .busy none)::(row 1 v5 c3 s1.length)::(bx b1 [v5] 140)::As1) w'∧B5 f' [(13,vI (i1:Int)),(5,vU s2)]) b5.length ⟨0,0,m2,rfl,Nat.zero_le _,q5,L4,S7,⟨rfl,rfl,trivial⟩⟩ ?_;rintro n1 f1 w6 ho ⟨i1,s2,m3,hn,hi,q6,L6,S8,ha⟩;obtain⟨u1,rfl⟩:=BP (N:=31) ho ha;clear ho ha;replace h7:=h7.up L6;replace h8:=Bq.up L6 h8;have L5:=Mem.rfl' m3;clear S7;refine Af ?_;refine Ac ?_;refine IN (m:=(i1:Int)) (n:=(b5.length:Int)) rfl rfl ?_;refine Ag ?_;refine nrm ?_;refine Af ?_;refine B3 (t:=decide ((i1:Int)<(b5.length:Int))) rfl (fun hc1=> ?_) (fun hc1=> ?_)
    ·have hlt1:i1<b5.length:=by have:=of_decide_eq_true hc1; omega
     obtain⟨y2,q8,q7⟩:=Ge q6 hlt1;unfold C0 at q8;refine A7 ?_;refine nrm ?_;refine Af ?_;refine AA ?_;refine Af ?_;refine Ac ?_;refine Ap (v:=vI (i1:Int)) rfl ?_;obtain⟨x6,q10,q8⟩:=Aa q8;refine SK (q:=x6) rfl rfl h7 q10 Tryz.underlying52 Tryz.sizeOf5 ?_;intro p3 c4 h9 r5;obtain rfl:c4=[vB x6]:=r5;refine SI (cs:=[vB x6]) S8 rfl h9 rfl Tryz.isAgg5 Tryz.sizeOf5 (fun _=>rfl) ?_;refine Bb (v:=vI (i1:Int)) rfl ?_;refine Bb (v:=vB x6) rfl ?_;refine Ag ?_;refine nrm ?_;refine Ac ?_;refine Ap (v:=vU s2) rfl ?_;refine Ap (v:=vB x6) rfl ?_;refine Nj rfl Tryz.underlying5 Tryz.underlying22 ?_;refine Ap (v:=vI (i1:Int)) rfl ?_;refine OA (m:=8) (n:=(i1:Int)) rfl rfl ?_;obtain⟨q11,q8⟩:=B2 q8;refine SB (m:=(toU (x6.toNat:Int))) (n:=(w64 (8*(i1:Int)))) rfl rfl q11 ?_;refine s_orU (m:=s2) (n:=(FB (toU (x6.toNat:Int)) ((w64 (8*(i1:Int))).toNat))) rfl rfl ?_;obtain⟨x7,q12,q8⟩:=CT q8;refine Bb (v:=vU x7) (congrArg (fun z=>vU z) q12.symm) ?_;refine Ag ?_;refine J9 ?_;refine nrm ?_;refine Ac ?_;refine Fp (m:=(i1:Int)) (n:=1) rfl rfl ?_;refine Ap (v:=vI (w64 ((i1:Int)+1))) rfl ?_;refine Ag ?_;refine nrm ?_;have e0:=Option.some.inj q8;subst e0;exact⟨Fl,_,(by omega),⟨i1+1,x7,m3,rfl,hlt1,q7,Mem.tr L6 L5,S8,⟨congrArg (Value.int .i64) (Bc hlt1 (SlR.le h7)),rfl,trivial⟩⟩⟩
    have hlt1: ¬i1<b5.length:=by have:=of_decide_eq_false hc1; omega
    have e:=Eq.symm (Fk q6 hlt1);subst e;refine CH ?_;refine thE ?_;refine thE ?_;refine exB ?_;refine nrm ?_;exact⟨Fl,m3,Mem.tr L6 L5,S8,⟨rfl,trivial⟩⟩
   rintro f2 w7 ho ⟨m5,l2,S9,ha⟩;obtain⟨u2,rfl⟩:=BP (N:=31) ho ha;clear ho ha;replace h8:=Bq.up l2 h8;replace L3:=Mem.tr L3 l2;clear S7;have e0:=Option.some.inj q4;subst e0;exact⟨Fl,m5,L3,S9,⟨rfl,trivial⟩⟩
  rintro f3 w8 ho ⟨m6,l3,S10,ha⟩;obtain⟨u3,rfl⟩:=BP (N:=31) ho ha;replace h8:=Bq.up l3 h8;replace L1:=Mem.tr L1 l3;clear S7;refine Ac ?_;refine GS (i:=2) (cs:=[v5]) S10 rfl rfl Tryz.isAgg140 Tryz.sizeOf140 rfl (fun _=>rfl) ?_;refine Ap (v:=vU x3) rfl ?_;refine s_litC (parts:=[.tmp 27]) (vs:=[vU x3]) (cls:=[[vU x3]]) (xs:=([x3]:List UInt64)) (n:=1) S10 Tryz.underlying140 Tryz.sizeOf22 Tryz.zeroValue22 rfl ⟨rfl,trivial⟩ (Bq.cons (c:=[vU x3]) (x:=x3) rfl Bq.nil) rfl rfl rfl (by decide) (by decide) ?_;intro v6 m7 w9 l4 S11 h10;replace h8:=Bq.up l4 h8;replace L1:=Mem.tr L1 l4;clear S10;obtain⟨x8,q13,q3⟩:=Aa q3;refine Pv (i:=1) (zs:=x8) (bytes:=8) (ti:=Tryz.t22) S11 rfl rfl h8 rfl rfl h10 q13 Tryz.underlying140 Tryz.type22 rfl rfl rfl rfl ?_;intro v7 c5 w10 S12 h11;replace S12:St _ ((Lp lp1 rip2 .busy none)::(row 1 v7 c5 x8.length)::(bx b1 [v5] 140)::As1) _:=S12;clear S11;refine s_stS (i:=2) S12 rfl rfl rfl Tryz.sizeOf140 (St.rowCells (i:=1) S12 rfl) rfl ?_;intro w11 S13;replace S13:St _ ((Lp lp1 rip2 .busy none)::(row 1 v7 c5 x8.length)::(bx b1 [v7] 140)::As1) _:=S13;clear S12;refine Ag ?_;refine J9 ?_;have S14:St _ ((row 1 v7 c5 x8.length)::(Lp lp1 rip2 .busy none)::(bx b1 [v7] 140)::As1) _:=St.perm S13 (List.Perm.swap _ _ _);clear S13;have S15:St _ ((Lp lp1 rip2 .busy none)::(row 1 v7 c5 x8.length)::(bx b1 [v7] 140)::As1) _:=St.perm S14 (List.Perm.swap _ _ _);clear S14;refine⟨_,_,S15,?_⟩;intro w12 S16;have e0:=Option.some.inj q3;subst e0;exact⟨_,Lp lp1 rip2 .ready none::(row 1 v7 c5 x8.length)::(bx b1 [v7] 140)::[],L1,S16,⟨_,_,Mem.tr L2 L1,rfl,h11⟩,rfl⟩
 refine Az.mono (Gi (p0:=(fun(s:(List UInt64)) (b0:List UInt8)=>Ad (C1 b0 s) fun y=>some (true,y))) (k0:=x1.1) (k1:=x1.2) (s0:=([]:List UInt64)) (R:=(fun(s:(List UInt64)) (M:Mem) (X:List Ow)=>(∃(v3:Value) (c2:List Value),m1≤M∧X=Lp lp1 rip2 .ready none::(row 1 v3 c2 (s).length)::(bx b1 [v3] 140)::[]∧Bq M c2 (s)))) (X0:=((Lp lp1 rip2 .ready none)::(row 1 (.slice none 0 0) [] ([]:List UInt64).length)::(bx b1 [(.slice none 0 0)] 140)::[])) (As:=As) S5 (fun l h=>by obtain⟨v3,c2,Lm,e,h5⟩:=h; exact⟨_,_,Mem.tr Lm l,e,Bq.up l h5⟩) ⟨_,_,Mem.rfl' _,rfl,h4⟩ @hcb1 rfl h1 q2) ?_;rintro _ w13 ⟨m8,l5,v8,X2,S17,rfl,h12,⟨v9,c6,L7,rfl,h13⟩⟩;replace S17:St _ ((bx b2 [v8] 52)::(bx b3 [vI x2.2.1] 3)::(Lp lp1 rip2 .ready none)::(row 1 v9 c6 x2.2.2.length)::(bx b1 [v9] 140)::As) _:=S17;have S18:St _ ((Lp lp1 rip2 .ready none)::(bx b2 [v8] 52)::(bx b3 [vI x2.2.1] 3)::(row 1 v9 c6 x2.2.2.length)::(bx b1 [v9] 140)::As) _:=St.perm S17 (List.Perm.trans (List.Perm.cons _ (List.Perm.swap _ _ _)) (List.Perm.swap _ _ _));clear S17;refine⟨_,.ready,none,_,l5,(fun h=>by cases h),S18,?_⟩;intro m9 w14 l6 S19;have l7:=Mem.tr l5 l6;replace h12:=h12.up l6;replace h13:=Bq.up l6 h13;replace L0:=Mem.tr L0 l7;replace S19:St _ ((bx b2 [v8] 52)::(bx b3 [vI x2.2.1] 3)::(row 1 v9 c6 x2.2.2.length)::(bx b1 [v9] 140)::As) _:=S19;refine J9 ?_;refine nrm ?_;refine Af ?_;refine Ac ?_;refine GS (i:=3) (cs:=[v9]) S19 rfl rfl Tryz.isAgg140 Tryz.sizeOf140 rfl (fun _=>rfl) ?_;refine Bb (v:=v9) rfl ?_;refine Ag ?_;refine nrm ?_;refine Bl ?_;refine Dx ?_;intro we hpd;replace S19:=St.pd S19 hpd;obtain⟨m10,l8,S20⟩:=St.drop S19 0;replace h13:=Bq.up l8 h13;replace L0:=Mem.tr L0 l8;clear S19;replace S20:St _ ((bx b3 [vI x2.2.1] 3)::(row 1 v9 c6 x2.2.2.length)::(bx b1 [v9] 140)::As) _:=S20;obtain⟨m11,l9,S21⟩:=St.drop S20 0;replace h13:=Bq.up l9 h13;replace L0:=Mem.tr L0 l9;clear S20;replace S21:St _ ((row 1 v9 c6 x2.2.2.length)::(bx b1 [v9] 140)::As) _:=S21;obtain⟨m12,l10,S22⟩:=St.drop S21 1;replace h13:=Bq.up l10 h13;replace L0:=Mem.tr L0 l10;clear S21;replace S22:St _ ((row 1 v9 c6 x2.2.2.length)::As) _:=S22;have e0:=Option.some.inj hm;subst e0;exact G4 [_] rfl ⟨rfl,trivial⟩ ⟨_,L0,_,_,S22,rfl,h13⟩
def Er (a0:UInt64)(a1:UInt64):Option UInt64:=bnd (((a1&&&2305843009213693951)+((FB a0 3)|||(De a1 61)))) fun x1=>bnd (((x1&&&2305843009213693951)+(De x1 61))) fun x2=>Ad (if(decide ((x2.toNat:Int)≥2305843009213693951))=true then some (x2-2305843009213693951)else some x2) fun x3=>some x3
theorem JB {a0:UInt64}{a1:UInt64}{r:UInt64}(hm:Er a0 a1=some r):Sf prog 229 [.d (.u a0),.d (.u a1)] (.d (.u r)):=
 sp call229 func229 rfl ntmps229 rfl fun D0 As η0 m0 hd=>by
  unfold Er at hm;have hm:=Ba hm;let x1:UInt64:=(((a1&&&2305843009213693951)+((FB a0 3)|||(De a1 61))));have hm:=Ba hm;let x2:UInt64:=(((x1&&&2305843009213693951)+(De x1 61)));obtain⟨x3,q3,hm⟩:=Aa hm;refine gj (fun(_:Unit)=>⟨[(5,.d (.u x3))],[],[],0⟩) (fun _=>True) (fun Jp bk1=> ?_) fun _ _=> ?_
  ·refine gi q3 (fun hc1 q3=> ?_) fun hc1 q3=> ?_
   ·skip;have e0:=Option.some.inj q3;subst e0;exact gb bk1 hd () trivial
   have e0:=Option.some.inj q3;subst e0;exact gb bk1 hd () trivial
  have e0:=Option.some.inj hm;subst e0;exact AO hd
def CZ (a0:UInt64):Option UInt64:=Ad (Er 0 a0) fun x1=>some x1
theorem FZ {a0:UInt64}{r:UInt64}(hm:CZ a0=some r):Sf prog 216 [.d (.u a0)] (.d (.u r)):=
 sp call216 func216 rfl ntmps216 rfl fun D0 As η0 m0 hd=>by
  unfold CZ at hm;obtain⟨x1,q1,hm⟩:=Aa hm;refine gc (fun _=>JB q1) ?_;have e0:=Option.some.inj hm;subst e0;exact AO hd
def C2 (a0:UInt64)(a1:UInt64):Option UInt64:=Ad (CZ a0) fun x1=>Ad (CZ a1) fun x2=>Ad (CZ (x1+x2)) fun x3=>some x3
theorem Ph {a0:UInt64}{a1:UInt64}{r:UInt64}(hm:C2 a0 a1=some r):Sf prog 200 [.d (.u a0),.d (.u a1)] (.d (.u r)):=
 sp call200 func200 rfl ntmps200 rfl fun D0 As η0 m0 hd=>by
  unfold C2 at hm;obtain⟨x1,q1,hm⟩:=Aa hm;refine gc (fun _=>FZ q1) ?_;obtain⟨x2,q2,hm⟩:=Aa hm;refine gc (fun _=>FZ q2) ?_;obtain⟨x3,q3,hm⟩:=Aa hm;refine gc (fun _=>FZ q3) ?_;have e0:=Option.some.inj hm;subst e0;exact AO hd
theorem G8 {m:Mem}{As:List Ow}{w:World}{a0:UInt64}{a1:UInt64}{r:UInt64}(S:St m As w)(hm:C2 a0 a1=some r):
  Az prog 200 #[vU a0,vU a1] w fun v w'=> ∃(M:Mem),m≤M∧St M (As) w'∧v=vU r:=by
 refine Az.mono ((Ph hm).2 none0 m As w [vU a0,vU a1] (.cons (.d (.u _)) (.cons (.d (.u _)) .nil)) (fun n h=>absurd rfl h) S) ?_;rintro v w' ⟨M,η',r',obs',n1,hle,_,⟨rfl,rfl,rfl⟩,hdom,hR,S'⟩;obtain rfl:=hR.u_inv;exact⟨M,hle,S',rfl⟩
def CI {σ:Type}(p1:σ→Int→UInt64→Option (UInt64×σ))(i1:Int)(s1:UInt64×UInt64×UInt64×σ):Option (UInt64×UInt64×UInt64×σ):=Ad (idx [s1.1,s1.2.1,s1.2.2.1] (i1:Int)) fun x3=>Ad (p1 s1.2.2.2 (i1:Int) x3) fun x4=>Ad (idx [s1.1,s1.2.1,s1.2.2.1] (i1:Int)) fun x5=>bnd (if(i1:Int)=0 then x4.1 else s1.1) fun x6=>bnd (if(i1:Int)=1 then x4.1 else s1.2.1) fun x7=>bnd (if(i1:Int)=2 then x4.1 else s1.2.2.1) fun x8=>some (x6,x7,x8,x4.2)
def BN {σ:Type}(a0:UInt64×UInt64×UInt64)(p1:σ→Int→UInt64→Option (UInt64×σ))(s0:σ):Option ((UInt64×UInt64×UInt64)×σ):=Ad (Ck (CI p1) 3 0 (a0.1,a0.2.1,a0.2.2,s0)) fun x1=>some ((x1.1,x1.2.1,x1.2.2.1),x1.2.2.2)
theorem GI {m:Mem}{As:List Ow}{w:World}{σ:Type}{R:σ→Mem→List Ow→Prop}{pb0:Nat}{a0:UInt64×UInt64×UInt64}{p1:σ→Int→UInt64→Option (UInt64×σ)}{f1:Value}{s0:σ}{X0:List Ow}{r:(UInt64×UInt64×UInt64)×σ}(S:St m ((bx pb0 [vU a0.1,vU a0.2.1,vU a0.2.2] 198)::(X0++As)) w)(hup: ∀{s M M' X},M≤M'→R s M X→R s M' X)(hX0:R s0 m X0)(cb1: ∀{m':Mem} {As':List Ow} {w':World} {s:σ} {X:List Ow} {b0:Int} {b1:UInt64} {r:UInt64×σ},St m' (X++As') w'→R s m' X→p1 s b0 b1=some r→Dt Tryz.prog f1 [vI b0,vU b1] w' fun v w''=> ∃(M:Mem) (X':List Ow),m'≤M∧St M (X'++As') w''∧R r.2 M X'∧v=vU r.1)(fc1:f1.cells= #[f1])(hm:BN a0 p1 s0=some r):
  Az Tryz.prog 217 #[pt pb0 0,f1] w fun v w'=> ∃(M:Mem),m≤M∧∃(X:List Ow),St M ((bx pb0 [vU r.1.1,vU r.1.2.1,vU r.1.2.2] 198)::(X++As)) w'∧v= .tuple #[]∧R r.2 M X:=by
 unfold BN at hm;have L0:=Mem.rfl' m;refine Co (args:=[pt pb0 0,f1]) Tryz.func217 rfl Tryz.ntmps217 (Nat.le_of_ble_eq_true rfl) ?_;refine Af ?_;refine Ac ?_;refine Ap (v:=pt pb0 0) rfl ?_;refine Ap (v:=vI 0) rfl ?_;refine Ag ?_;refine nrm ?_;obtain⟨x1,q1,hm⟩:=Aa hm;have L1:=Mem.rfl' m;refine J2 ?_;refine Bn [4,5,7,8,9,10,11,12,13,14,15,16,17,18,19,20,21] (fun f' w'=> ∃(M1:Mem) (X2:List Ow),m≤M1∧St M1 ((bx pb0 [vU x1.1,vU x1.2.1,vU x1.2.2.1] 198)::(X2++As)) w'∧R x1.2.2.2 M1 X2∧B5 f' []) ?_ ?_
 ·refine AA ?_;refine BL [4,5,7,8,9,10,11,12,13,14,15,16,17,18,19,20,21] (fun n1 f' w'=> ∃(i1:Nat) (s1:UInt64×UInt64×UInt64×σ) (m17:Mem) (X1:List Ow),n1=3-i1∧i1≤3∧Ck (CI p1) (3-i1) (i1:Int) s1=some x1∧m≤m17∧St m17 ((bx pb0 [vU s1.1,vU s1.2.1,vU s1.2.2.1] 198)::(X1++As)) w'∧R s1.2.2.2 m17 X1∧B5 f' [(7,vI (i1:Int))]) 3 ⟨0,(a0.1,a0.2.1,a0.2.2,s0),m,_,rfl,Nat.zero_le _,q1,L1,S,hX0,⟨rfl,trivial⟩⟩ ?_;rintro n1 f1 w1 ho ⟨i1,s1,m1,X1,hn,hi,q2,L3,S1,h1,ha⟩;obtain⟨u1,rfl⟩:=BP (N:=22) ho ha;clear ho ha;have L2:=Mem.rfl' m1;clear S;refine Af ?_;refine Ac ?_;refine IN (m:=(i1:Int)) (n:=3) rfl rfl ?_;refine Ag ?_;refine nrm ?_;refine Af ?_;refine B3 (t:=decide ((i1:Int)<(3:Int))) rfl (fun hc1=> ?_) (fun hc1=> ?_)
  ·have hlt1:i1<3:=by have:=of_decide_eq_true hc1; omega
   obtain⟨y1,q4,q3⟩:=Ge q2 hlt1;unfold CI at q4;refine A7 ?_;refine nrm ?_;refine Af ?_;refine AA ?_;refine Af ?_;obtain⟨x3,q6,q4⟩:=Aa q4;have HM:Gg [(9,fv (vI (i1:Int))),(10,fv (pt pb0 0)),(11,fv (pt pb0 (0+(i1:Int).toNat*1))),(12,fv (vU x3)),(4,fv (vI (i1:Int)))]:=⟨mv,mv,mv,mv,mv,trivial⟩;refine Iy HM 5 Vv rfl rfl rfl [4,9,10,11,12] (fun L f M w=>St M ((bx pb0 [vU s1.1,vU s1.2.1,vU s1.2.2.1] 198)::(X1++As)) w) (St.drew S1 _) ?_ ?_
   ·refine⟨?_,?_,?_,?_,?_,trivial⟩
    ·exact flp HM rfl [] (fun _ _=>trivial) (fun _ _ q=>Ap (v:=vI (i1:Int)) rfl q) rfl
    ·exact flp HM rfl [] (fun _ _=>trivial) (fun _ _ q=>SC rfl q) rfl
    ·exact flp HM rfl [(10,_)] (fun K _=>⟨K 1 rfl,trivial⟩) (fun _ _ q=>KO (i:=(i1:Int)) rfl rfl Tryz.underlying198 Tryz.sizeOf22 (El q6).1 (El q6).2 q) rfl
    ·exact flp HM rfl [(11,_)] (fun K _=>⟨K 2 rfl,trivial⟩) (fun _ S5 q=>GS (i:=0) (off:=0+(i1:Int).toNat*1) (cs:=[vU x3]) S5 rfl rfl Tryz.isAgg22 Tryz.sizeOf22 (by rcases Yo q6 with ⟨h,h'⟩|⟨h,h'⟩|⟨h,h'⟩<;>(rw[h,h']; rfl)) (fun _=>rfl) q) rfl
    ·exact flp HM rfl [(9,_)] (fun K _=>⟨K 0 rfl,trivial⟩) (fun _ _ q=>Bb (v:=vI (i1:Int)) rfl q) rfl
   intro L f7 w7 hall ⟨m7,L14,S7,K,hO⟩;have d4:L 4=true:=hall 4 (by decide);have e4:=K 4 d4;have d3:L 3=true:=hall 3 (by decide);have e5:=K 3 d3;obtain⟨u7,rfl⟩:=BP (N:=22) (L:=[(4,vI (i1:Int)),(12,vU x3)]) hO ⟨e4,e5,trivial⟩;replace S7:St _ ((bx pb0 [vU s1.1,vU s1.2.1,vU s1.2.2.1] 198)::(X1++As)) _:=S7;replace h1:=hup L14 h1;replace L2:=Mem.tr L2 L14;clear S1;refine Bb (v:=vU x3) rfl ?_;refine Ag ?_;refine nrm ?_;obtain⟨x4,q7,q4⟩:=Aa q4;have HM:Gg [(13,fv (pt pb0 0)),(14,fv (vI (i1:Int))),(15,fv f1),(16,fv (vI (i1:Int))),(17,fv (vU x3)),(18,fv (vU x4.1)),(19,fv (pt pb0 0))]:=⟨mv,mv,mv,mv,mv,mv,mv,trivial⟩;refine Iy HM 7 Vv rfl rfl rfl [13,14,15,16,17,18,19] (fun L f M w=> ∃(X3:List Ow),((L 5=false→R s1.2.2.2 M X3)∧(L 5=true→R x4.2 M X3))∧St M ((bx pb0 [vU s1.1,vU s1.2.1,vU s1.2.2.1] 198)::(X3++As)) w) (⟨X1,⟨fun _=>h1,fun hx=>ff hx⟩,St.drew S7 _⟩) ?_ ?_
   ·refine⟨?_,?_,?_,?_,?_,?_,?_,trivial⟩
    ·exact flp HM rfl [] (fun _ _=>trivial) (fun _ _ q=>Ap (v:=pt pb0 0) rfl q) rfl
    ·exact flp HM rfl [] (fun _ _=>trivial) (fun _ _ q=>Ap (v:=vI (i1:Int)) rfl q) rfl
    ·exact flp HM rfl [] (fun _ _=>trivial) (fun _ _ q=>Ap (v:=f1) rfl q) rfl
    ·exact flp HM rfl [] (fun _ _=>trivial) (fun _ _ q=>Ap (v:=vI (i1:Int)) rfl q) rfl
    ·exact flp HM rfl [] (fun _ _=>trivial) (fun _ _ q=>Ap (v:=vU x3) rfl q) rfl
    ·intro L f13 w13 hL hd hc ⟨m13,L25,⟨X3,C6,S13⟩,K,hO⟩;have d2:L 2=true:=dep hd rfl;have e6:=K 2 d2;have d3:L 3=true:=dep hd rfl;have e7:=K 3 d3;have d4:L 4=true:=dep hd rfl;have e8:=K 4 d4;have d5:L 5=false:=hL;obtain⟨u13,rfl⟩:=BP (N:=22) (L:=[(15,f1),(16,vI (i1:Int)),(17,vU x3)]) hO ⟨e6,e7,e8,trivial⟩;replace S13:St _ ((bx pb0 [vU s1.1,vU s1.2.1,vU s1.2.2.1] 198)::(X3++As)) _:=S13;have h3:=C6.1 d5;replace S13:St _ ((bx pb0 [vU s1.1,vU s1.2.1,vU s1.2.2.1] 198)::(X3++As)) _:=S13;have L26:=Mem.rfl' m13;have S14:=St.absF (L:=[bx pb0 [vU s1.1,vU s1.2.1,vU s1.2.2.1] 198]) (X:=X3) (As:=As) S13;refine Fx rfl (cb1 S14 h3 q7) rfl ?_;rintro _ w14 ⟨m14,X4,l1,S15,h4,rfl⟩;replace S15:=St.absF (L:=X4) (X:=[bx pb0 [vU s1.1,vU s1.2.1,vU s1.2.2.1] 198]) (As:=As) S15;clear S14;replace L26:=Mem.tr L26 l1;replace S15:St _ ((bx pb0 [vU s1.1,vU s1.2.1,vU s1.2.2.1] 198)::(X4++As)) _:=S15;clear S13;refine wpn ?_;refine⟨m14,Mem.tr L25 L26,⟨X4,⟨fun hx=>tf rfl hx,fun _=>h4⟩,?_⟩,H6 HM rfl K L26 rfl rfl rfl,Fl⟩;exact S15
    ·exact flp HM rfl [(13,_)] (fun K _=>⟨K 0 rfl,trivial⟩) (fun _ _ q=>SC rfl q) rfl
   intro L f15 w16 hall ⟨m16,L29,⟨X3,C8,S17⟩,K,hO⟩;have d1:L 1=true:=hall 1 (by decide);have e10:=K 1 d1;have d5:L 5=true:=hall 5 (by decide);have e11:=K 5 d5;have d6:L 6=true:=hall 6 (by decide);have e12:=K 6 d6;obtain⟨u15,rfl⟩:=BP (N:=22) (L:=[(14,vI (i1:Int)),(18,vU x4.1),(19,pt pb0 0)]) hO ⟨e10,e11,e12,trivial⟩;replace S17:St _ ((bx pb0 [vU s1.1,vU s1.2.1,vU s1.2.2.1] 198)::(X3++As)) _:=S17;have h5:=C8.2 d5;replace S17:St _ ((bx pb0 [vU s1.1,vU s1.2.1,vU s1.2.2.1] 198)::(X3++As)) _:=S17;replace L2:=Mem.tr L2 L29;clear S7;obtain⟨x5,q8,q4⟩:=Aa q4;refine KO (i:=(i1:Int)) rfl rfl Tryz.underlying198 Tryz.sizeOf22 (El q8).1 (El q8).2 ?_;obtain⟨x6,q9,q4⟩:=CT q4;obtain⟨x7,q10,q4⟩:=CT q4;obtain⟨x8,q11,q4⟩:=CT q4;refine Xt (i:=0) (off:=0+(i1:Int).toNat*1) S17 rfl rfl rfl Tryz.sizeOf22 (RS.all (H0 rfl KV)) (by rcases Yo q8 with ⟨h,h'⟩|⟨h,h'⟩|⟨h,h'⟩<;>(rw[h]; exact Nat.le_of_ble_eq_true rfl)) ?_;intro w17 S18;replace S18:=St.cellsTo (i:=0) (l':=[vU x6,vU x7,vU x8]) S18 (by rcases Yo q8 with ⟨h,h'⟩|⟨h,h'⟩|⟨h,h'⟩<;>(simp only[q9,q10,q11,h]; rfl)) rfl;replace S18:St _ ((bx pb0 [vU x6,vU x7,vU x8] 198)::(X3++As)) _:=S18;clear S17;refine Ag ?_;refine J9 ?_;refine nrm ?_;refine Ac ?_;refine Fp (m:=(i1:Int)) (n:=1) rfl rfl ?_;refine Ap (v:=vI (w64 ((i1:Int)+1))) rfl ?_;refine Ag ?_;refine nrm ?_;have e0:=Option.some.inj q4;subst e0;exact⟨Fl,_,(by omega),⟨i1+1,(x6,x7,x8,x4.2),m16,_,rfl,hlt1,q3,Mem.tr L3 L2,S18,h5,⟨congrArg (Value.int .i64) (Bc hlt1 (by decide)),trivial⟩⟩⟩
  have hlt1: ¬i1<3:=by have:=of_decide_eq_false hc1; omega
  have e:=Eq.symm (Fk q2 hlt1);subst e;refine CH ?_;refine thE ?_;refine thE ?_;refine exB ?_;refine nrm ?_;exact⟨Fl,m1,_,Mem.tr L3 L2,S1,h1,trivial⟩
 rintro f16 w18 ho ⟨m18,X2,l2,S19,h2,ha⟩;obtain⟨u16,rfl⟩:=BP (N:=22) ho ha;clear ho ha;replace L0:=Mem.tr L0 l2;clear S;refine RF ?_;intro we hpd;replace S19:=St.pd S19 hpd;have e0:=Option.some.inj hm;subst e0;exact G4 [] rfl trivial ⟨_,L0,_,S19,rfl,h2⟩
end Go.Proofs.YtbajlmaijjcbmaaGreatDoor
