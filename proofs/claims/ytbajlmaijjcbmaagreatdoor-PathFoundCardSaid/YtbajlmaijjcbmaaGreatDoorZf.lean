/- The walks of some functions, by the executor, written by program. Conditions: none. -/
import Derived.Test.YtbajlmaijjcbmaaGreatDoorZe
set_option linter.unusedSimpArgs false
set_option linter.unusedVariables false
set_option maxHeartbeats 20000000
set_option maxRecDepth 100000
namespace Go.Proofs.YtbajlmaijjcbmaaGreatDoor
open Go Go.Gw Go.Ax Tryz
def D9 (a0:List UInt8):Option Bool:=Ae (gu ((a0.length:Int)==1) (idx a0 0)) fun x1=>Ae (gu (((a0.length:Int)==1)&&(!((x1.toNat:Int)==0))) (idx a0 0)) fun x2=>bnd ((((a0.length:Int)==1)&&(((x1.toNat:Int)==0)||((x2.toNat:Int)==255)))) fun x3=>some x3
theorem MQ {a0:List UInt8}{r:Bool}(hm:D9 a0=some r):Sf prog 252 [sl eB a0] (.d (.t r)):=
 sp call252 func252 rfl ntmps252 rfl fun D0 As η0 m0 hd=>by
  unfold D9 at hm;obtain⟨x1,q1,hm⟩:=Aa hm;refine OT (k:=1) (E:=eB) (fun _=>rfl) (fun h=>E1 h q1) (by kernel_rfl) ?_;obtain⟨x2,q2,hm⟩:=Aa hm;refine OT (k:=1) (E:=eB) (fun _=>rfl) (fun h=>E1 h q2) (by kernel_rfl) ?_;have hm:=AY hm;let x3:Bool:=((((a0.length:Int)==1)&&(((x1.toNat:Int)==0)||((x2.toNat:Int)==255))));have e0:=Option.some.inj hm;subst e0;exact AN hd (by kernel_rfl)
def Ev (a0:List UInt8):Option Bool:=if((a0.length:Int)==0)=true then some false else if((a0.length:Int)==1)=true then some true else Ae (idx a0 1) fun x1=>Ae (gu (decide ((a0.length:Int)≤8)) (idx a0 0)) fun x2=>bnd (((decide ((a0.length:Int)≤8))&&((x2.toNat:Int) !=((toB (-((shrB x1 7).toNat:Int))).toNat:Int)))) fun x3=>some x3
theorem Ky {a0:List UInt8}{r:Bool}(hm:Ev a0=some r):Sf prog 157 [sl eB a0] (.d (.t r)):=
 sp call157 func157 rfl ntmps157 rfl fun D0 As η0 m0 hd=>by
  unfold Ev at hm;refine gi hm (by kernel_rfl) (fun hc1 hm=> ?_) fun hc1 hm=> ?_
  ·skip;have e0:=Option.some.inj hm;subst e0;exact AN hd (by kernel_rfl)
  refine gi hm (by kernel_rfl) (fun hc2 hm=> ?_) fun hc2 hm=> ?_
  ·skip;have e0:=Option.some.inj hm;subst e0;exact AN hd (by kernel_rfl)
  obtain⟨x1,q1,hm⟩:=Aa hm;refine Hf (k:=1) (E:=eB) (fun _=>rfl) (fun _=>q1) (by kernel_rfl) ?_;obtain⟨x2,q2,hm⟩:=Aa hm;refine OT (k:=1) (E:=eB) (fun _=>rfl) (fun h=>E1 h q2) (by kernel_rfl) ?_;have hm:=AY hm;let x3:Bool:=(((decide ((a0.length:Int)≤8))&&((x2.toNat:Int) !=((toB (-((shrB x1 7).toNat:Int))).toNat:Int))));have e0:=Option.some.inj hm;subst e0;exact AN hd (by kernel_rfl)
theorem Pq {m:Mem}{As:List Ow}{w:World}{a0:List UInt8}{a0v0:Value}{r:Bool}(S:St m As w)(a0h0:SlR m a0v0 a0)(hm:Ev a0=some r):
  AB prog 157 #[a0v0] w fun v w'=> ∃(M:Mem),m≤M∧St M (As) w'∧v=vb r:=by
 refine AB.mono ((Ky hm).2 none0 m As w [a0v0] (.cons (.d (Br.toS Br.b a0h0)) .nil) (fun n h=>absurd rfl h) S) ?_;rintro v w' ⟨M,η',r',obs',n1,hle,_,⟨rfl,rfl,rfl⟩,hdom,hR,S'⟩;obtain rfl:=hR.t_inv;exact⟨M,hle,S',rfl⟩
def Hs (a0:List UInt8):Option Bool:=some true
theorem MP {a0:List UInt8}{r:Bool}(hm:Hs a0=some r):Sf prog 253 [sl eB a0] (.d (.t r)):=
 sp call253 func253 rfl ntmps253 rfl fun D0 As η0 m0 hd=>by
  unfold Hs at hm;have e0:=Option.some.inj hm;subst e0;exact AN hd (by kernel_rfl)
def EW (a0:UInt8):Option Bool:=bnd (((decide ((a0.toNat:Int)<32))||(decide ((a0.toNat:Int)>126)))) fun x1=>some x1
theorem Kz {a0:UInt8}{r:Bool}(hm:EW a0=some r):Sf prog 256 [.d (.b a0)] (.d (.t r)):=
 sp call256 func256 rfl ntmps256 rfl fun D0 As η0 m0 hd=>by
  unfold EW at hm;have hm:=AY hm;let x1:Bool:=(((decide ((a0.toNat:Int)<32))||(decide ((a0.toNat:Int)>126))));have e0:=Option.some.inj hm;subst e0;exact AN hd (by kernel_rfl)
def An (a0:List UInt8)(i1:Int)(s1:Unit):Option ((Unit)⊕Int):=Ae (idx a0 (i1:Int)) fun x3=>Ae (EW x3) fun x4=>if x4=true then some (.inr (i1:Int))else some (.inl ())
def Bq (a0:List UInt8):Option Int:=Ae (Cl (An a0) a0.length 0 ()) fun x1=>match x1 with| .inr r=>some r| .inl y1=>some (-1)
theorem EI {a0:List UInt8}{r:Int}(hm:Bq a0=some r):Sf prog 258 [sl eB a0,.fn (.func 256) [] []] (.d (.i r)):=
 sp call258 func258 rfl ntmps258 rfl fun D0 As η0 m0 hd=>by
  unfold Bq at hm;obtain⟨x1,q1,hm⟩:=Aa hm;refine Lx 0 (E:=eB) (xs:=a0) 6 (by kernel_rfl) fun hle1=> ?_;refine gjU 0 (fun(y1:Unit)=>⟨[],[],[],0⟩) (fun y1=>x1= .inl y1) (by kernel_rfl) (fun Jp bk1=> ?_) fun y1 hy=> ?_
  ·refine gl hd (fun(p:Int×(Unit))=>let (p0,_):=p; ⟨[(0,sl eB a0),(1,.fn (.func 256) [] []),(7,.d (.i (a0.length:Int))),(8,.d (.i p0))],[],[],0⟩) (fun p=> ∃i:Nat,p.1=(i:Int)∧i≤a0.length∧Cl (An a0) (a0.length-i) (i:Int) p.2=some x1) (fun p=>a0.length-p.1.toNat) (0,()) ⟨0,rfl,Nat.zero_le _,q1⟩ (by kernel_rfl) ?_;rintro⟨_,s1⟩ ⟨i1,rfl,hi,q2⟩ Jl bl1;refine gi' (b:=decide ((i1:Int)<(a0.length:Int))) (by kernel_rfl) (fun hc2=> ?_) fun hc2=> ?_
   ·have hlt1:i1<a0.length:=by have:=of_decide_eq_true hc2; omega
    obtain⟨y2,q4,q3⟩:=E3 q2 hlt1;unfold An at q4;obtain⟨x3,q6,q4⟩:=Aa q4;refine Hf (k:=1) (E:=eB) (fun _=>rfl) (fun _=>q6) (by kernel_rfl) ?_;obtain⟨x4,q7,q4⟩:=Aa q4;refine gc (fun _=>Kz q7) (by kernel_rfl) ?_;refine gi q4 (by kernel_rfl) (fun hc1 q4=> ?_) fun hc1 q4=> ?_
    ·skip;cases q4;rcases q3 with ⟨sn,e,_⟩|⟨tn,e,e2⟩
     ·cases e
     cases e;cases e2;dsimp only at hm;have e0:=Option.some.inj hm;subst e0;exact AN hd (by kernel_rfl)
    have e0:=Option.some.inj q4;subst e0;rcases q3 with ⟨sn,e,q3'⟩|⟨tn,e,_⟩
    ·have e:=Sum.inl.inj e;subst e;exact gb bl1 hd (w64 ((i1:Int)+1),_) ⟨⟨i1+1,A5 hlt1 hle1,by omega,q3'⟩,F8 hlt1 hle1⟩ (by kernel_rfl)
    cases BM e
   have hlt1: ¬i1<a0.length:=by have:=of_decide_eq_false hc2; omega
   have e:=DZ q2 hlt1;cases e;exact gb bk1 hd _ rfl (by kernel_rfl)
  subst hy;dsimp only at hm;have e0:=Option.some.inj hm;subst e0;exact AN hd (by kernel_rfl)
def Bf (a0:List UInt8):Option Bool:=Ae (Bq a0) fun x1=>some (decide (x1≥0))
theorem Ej {a0:List UInt8}{r:Bool}(hm:Bf a0=some r):Sf prog 255 [sl eB a0,.fn (.func 256) [] []] (.d (.t r)):=
 sp call255 func255 rfl ntmps255 rfl fun D0 As η0 m0 hd=>by
  unfold Bf at hm;obtain⟨x1,q1,hm⟩:=Aa hm;refine gc (fun _=>EI q1) (by kernel_rfl) ?_;have e0:=Option.some.inj hm;subst e0;exact AN hd (by kernel_rfl)
def EX (a0:List UInt8):Option Bool:=Ae (Bf a0) fun x1=>some (!x1)
theorem MO {a0:List UInt8}{r:Bool}(hm:EX a0=some r):Sf prog 254 [sl eB a0] (.d (.t r)):=
 sp call254 func254 rfl ntmps254 rfl fun D0 As η0 m0 hd=>by
  unfold EX at hm;obtain⟨x1,q1,hm⟩:=Aa hm;refine gc (fun _=>Ej q1) (by kernel_rfl) ?_;have e0:=Option.some.inj hm;subst e0;exact AN hd (by kernel_rfl)
def EV (a0:List UInt8):Option Bool:=some ((a0.length:Int)==0)
theorem MN {a0:List UInt8}{r:Bool}(hm:EV a0=some r):Sf prog 257 [sl eB a0] (.d (.t r)):=
 sp call257 func257 rfl ntmps257 rfl fun D0 As η0 m0 hd=>by
  unfold EV at hm;have e0:=Option.some.inj hm;subst e0;exact AN hd (by kernel_rfl)
def DO (a0:Bool):Option Int:=if a0=true then some 0 else some 110
theorem JN {a0:Bool}{r:Int}(hm:DO a0=some r):Sf prog 45 [.d (.t a0)] (.d (.i r)):=
 sp call45 func45 rfl ntmps45 rfl fun D0 As η0 m0 hd=>by
  unfold DO at hm;refine gi hm (by kernel_rfl) (fun hc1 hm=> ?_) fun hc1 hm=> ?_
  ·skip;have e0:=Option.some.inj hm;subst e0;exact AN hd (by kernel_rfl)
  have e0:=Option.some.inj hm;subst e0;exact AN hd (by kernel_rfl)
def A2 (a0:ByteArray)(a1:UInt8):Option Int:=some (TR a0 a1)
theorem Fa {a0:ByteArray}{a1:UInt8}{r:Int}(hm:A2 a0 a1=some r):Sf prog 223 [.d (.s a0),.d (.b a1)] (.d (.i r)):=
 sp call223 func223 rfl ntmps223 rfl fun D0 As η0 m0 hd=>by
  unfold A2 at hm;refine gext (F:=TR) (p:=a0) (q:=a1) func232 (extIxb (by kernel_rfl) (by kernel_rfl) (by kernel_rfl) (by kernel_rfl)) (by kernel_rfl) ?_;have e0:=Option.some.inj hm;subst e0;exact AN hd (by kernel_rfl)
def AF (a0:ByteArray)(a1:ByteArray):Option Int:=bnd ((((a1.size:Int)==0)||(eqS a1 a0))) fun x1=>if x1=true then some 0 else if((a1.size:Int)==1)=true then Ae (idx a1.data.toList 0) fun x2=>Ae (A2 a0 x2) fun x3=>some x3 else bnd ((decide ((a1.size:Int)≥(a0.size:Int)))) fun x4=>if x4=true then some (-1)else none
theorem DD {a0:ByteArray}{a1:ByteArray}{r:Int}(hm:AF a0 a1=some r):Sf prog 211 [.d (.s a0),.d (.s a1)] (.d (.i r)):=
 sp call211 func211 rfl ntmps211 rfl fun D0 As η0 m0 hd=>by
  unfold AF at hm;have hm:=AY hm;let x1:Bool:=((((a1.size:Int)==0)||(eqS a1 a0)));refine gi hm (by kernel_rfl) (fun hc1 hm=> ?_) fun hc1 hm=> ?_
  ·skip;have e0:=Option.some.inj hm;subst e0;exact AN hd (by kernel_rfl)
  refine gi hm (by kernel_rfl) (fun hc2 hm=> ?_) fun hc2 hm=> ?_
  ·skip;obtain⟨x2,q2,hm⟩:=Aa hm;refine YJ (fun _=>q2) (by kernel_rfl) ?_;obtain⟨x3,q3,hm⟩:=Aa hm;refine gc (fun _=>Fa q3) (by kernel_rfl) ?_;have e0:=Option.some.inj hm;subst e0;exact AN hd (by kernel_rfl)
  have hm:=AY hm;let x4:Bool:=((decide ((a1.size:Int)≥(a0.size:Int))));refine gi hm (by kernel_rfl) (fun hc3 hm=> ?_) fun hc3 hm=> ?_
  ·skip;have e0:=Option.some.inj hm;subst e0;exact AN hd (by kernel_rfl)
  cases hm
def Bi (a0:ByteArray)(a1:ByteArray):Option Int:=Ae (AF a0 a1) fun x1=>some x1
theorem Kp {a0:ByteArray}{a1:ByteArray}{r:Int}(hm:Bi a0 a1=some r):Sf prog 187 [.d (.s a0),.d (.s a1)] (.d (.i r)):=
 sp call187 func187 rfl ntmps187 rfl fun D0 As η0 m0 hd=>by
  unfold Bi at hm;obtain⟨x1,q1,hm⟩:=Aa hm;refine gc (fun _=>DD q1) (by kernel_rfl) ?_;have e0:=Option.some.inj hm;subst e0;exact AN hd (by kernel_rfl)
theorem KK {m:Mem}{As:List Ow}{w:World}{a0:ByteArray}{a1:ByteArray}{r:Int}(S:St m As w)(hm:Bi a0 a1=some r):
  AB prog 187 #[vS a0,vS a1] w fun v w'=> ∃(M:Mem),m≤M∧St M (As) w'∧v=vI r:=by
 refine AB.mono ((Kp hm).2 none0 m As w [vS a0,vS a1] (.cons (.d (.s _)) (.cons (.d (.s _)) .nil)) (fun n h=>absurd rfl h) S) ?_;rintro v w' ⟨M,η',r',obs',n1,hle,_,⟨rfl,rfl,rfl⟩,hdom,hR,S'⟩;obtain rfl:=hR.i_inv;exact⟨M,hle,S',rfl⟩
def DM (a0:ByteArray)(a1:ByteArray):Option Int:=if((a1.size:Int)==0)=true then none else if((a1.size:Int)==1)=true then Ae (idx a1.data.toList 0) fun x1=>some (cntS a0 x1)else none
theorem Kq {a0:ByteArray}{a1:ByteArray}{r:Int}(hm:DM a0 a1=some r):Sf prog 139 [.d (.s a0),.d (.s a1)] (.d (.i r)):=
 sp call139 func139 rfl ntmps139 rfl fun D0 As η0 m0 hd=>by
  unfold DM at hm;refine gi hm (by kernel_rfl) (fun hc1 hm=> ?_) fun hc1 hm=> ?_
  ·cases hm
  refine gi hm (by kernel_rfl) (fun hc2 hm=> ?_) fun hc2 hm=> ?_
  ·skip;obtain⟨x1,q1,hm⟩:=Aa hm;refine YJ (fun _=>q1) (by kernel_rfl) ?_;refine gext (F:=cntS) (p:=a0) (q:=x1) func186 (extCnt (by kernel_rfl) (by kernel_rfl) (by kernel_rfl) (by kernel_rfl)) (by kernel_rfl) ?_;have e0:=Option.some.inj hm;subst e0;exact AN hd (by kernel_rfl)
  cases hm
theorem KL {m:Mem}{As:List Ow}{w:World}{a0:ByteArray}{a1:ByteArray}{r:Int}(S:St m As w)(hm:DM a0 a1=some r):
  AB prog 139 #[vS a0,vS a1] w fun v w'=> ∃(M:Mem),m≤M∧St M (As) w'∧v=vI r:=by
 refine AB.mono ((Kq hm).2 none0 m As w [vS a0,vS a1] (.cons (.d (.s _)) (.cons (.d (.s _)) .nil)) (fun n h=>absurd rfl h) S) ?_;rintro v w' ⟨M,η',r',obs',n1,hle,_,⟨rfl,rfl,rfl⟩,hdom,hR,S'⟩;obtain rfl:=hR.i_inv;exact⟨M,hle,S',rfl⟩
def Df {σ:Type}(k1:ByteArray)(s1:Unit):Option ((Unit)⊕((Unit)⊕(ByteArray×ByteArray×Int×σ))):=if(decide ((k1.size:Int)>0))=true then none else some (.inr (.inl ()))
def Aw {σ:Type}(p0:σ→ByteArray→Option (Bool×σ))(k0:ByteArray)(k2:Int)(s2:ByteArray×σ):Option ((ByteArray×σ)⊕((ByteArray×σ)⊕(ByteArray×ByteArray×Int×σ))):=Ae (Bi s2.1 k0) fun x5=>if(decide (x5<0))=true then some (.inr (.inl (s2.1,s2.2)))else Ae (LI s2.1 0 (w64 (x5+k2))) fun x6=>Ae (p0 s2.2 x6) fun x7=>if(!x7.1)=true then some (.inr (.inr (k0,s2.1,k2,x7.2)))else Ae (LI s2.1 (w64 (x5+(k0.size:Int))) (s2.1.size:Int)) fun x8=>some (.inl (x8,x7.2))
def A6 {σ:Type}(p0:σ→ByteArray→Option (Bool×σ))(k0:ByteArray)(k1:ByteArray)(k2:Int)(s0:σ):Option (ByteArray×ByteArray×Int×σ):=
 if((k0.size:Int)==0)=true then
  Ae (iter (Df k1) C7 ()) fun x1=>match x1 with
  | .inr r=>some r
  | .inl y1=>
  some (k0,k1,k2,s0)
 else
 Ae (iter (Aw p0 k0 k2) C7 (k1,s0)) fun x3=>match x3 with
 | .inr r=>some r
 | .inl y3=>
 Ae (p0 y3.2 y3.1) fun x9=>
 some (k0,y3.1,k2,x9.2)
theorem Ip {m:Mem}{As:List Ow}{w:World}{σ:Type}{R:σ→Mem→List Ow→Prop}{p0:σ→ByteArray→Option (Bool×σ)}{f0:Value}{kb0:Nat}{k0:ByteArray}{kb1:Nat}{k1:ByteArray}{kb2:Nat}{k2:Int}{s0:σ}{X0:List Ow}{r:ByteArray×ByteArray×Int×σ}(S:St m ((bx kb0 [vS k0] 9)::(bx kb1 [vS k1] 9)::(bx kb2 [vI k2] 3)::(X0++As)) w)(hup: ∀{s M M' X},M≤M'→R s M X→R s M' X)(hX0:R s0 m X0)(cb0: ∀{m':Mem} {As':List Ow} {w':World} {s:σ} {X:List Ow} {b0:ByteArray} {r:Bool×σ},St m' (X++As') w'→R s m' X→p0 s b0=some r→DJ Tryz.prog f0 [vS b0] w' fun v w''=> ∃(M:Mem) (X':List Ow),m'≤M∧St M (X'++As') w''∧R r.2 M X'∧v=vb r.1)(fc0:f0.cells= #[f0])(hm:A6 p0 k0 k1 k2 s0=some r):
  AB Tryz.prog 212 #[f0,pt kb0 0,pt kb1 0,pt kb2 0] w fun v w'=> ∃(M:Mem),m≤M∧∃(X:List Ow),St M ((bx kb0 [vS r.1] 9)::(bx kb1 [vS r.2.1] 9)::(bx kb2 [vI r.2.2.1] 3)::(X++As)) w'∧v= .tuple #[]∧R r.2.2.2 M X:=by
 unfold A6 at hm;have L0:=Mem.rfl' m;refine CD (args:=[f0,pt kb0 0,pt kb1 0,pt kb2 0]) Tryz.func212 rfl Tryz.ntmps212 (Nat.le_of_ble_eq_true rfl) ?_;refine Af ?_;refine Af ?_;refine Ad ?_;refine G9 (i:=0) (cs:=[vS k0]) S rfl rfl Tryz.isAgg9 Tryz.sizeOf9 rfl (fun _=>rfl) ?_;refine Oz (s:=k0) rfl Tryz.underlying9 ?_;refine s_eql (m:=(k0.size:Int)) (n:=0) rfl rfl ?_;refine Ag ?_;refine nrm ?_;refine Ch (t:=((k0.size:Int)==0)) rfl (fun hc1=> ?_) (fun hc1=> ?_)
 ·replace hm:=ifT hc1 hm;refine Af ?_;obtain⟨x1,q1,hm⟩:=Aa hm;have L1:=Mem.rfl' m;refine Bt [5,6,12,13,14,15,16,17,18,19,20,21,22,23,24,25,26,27,28] (fun f' w'=> ∃(M1:Mem) (y1:Unit),x1= .inl y1∧m≤M1∧St M1 ((bx kb0 [vS k0] 9)::(bx kb1 [vS k1] 9)::(bx kb2 [vI k2] 3)::(X0++As)) w'∧Cj f' []) ?_ ?_
  ·refine AD ?_;refine BV [5,6,12,13,14,15,16,17,18,19,20,21,22,23,24,25,26,27,28] (fun n1 f' w'=> ∃(s1:Unit) (m2:Mem),iter (Df k1) n1 s1=some x1∧m≤m2∧St m2 ((bx kb0 [vS k0] 9)::(bx kb1 [vS k1] 9)::(bx kb2 [vI k2] 3)::(X0++As)) w'∧Cj f' []) C7 ⟨(),m,q1,L1,S,trivial⟩ ?_;rintro n1 f1 w1 ho ⟨s1,m1,q2,L3,S1,ha⟩;obtain⟨u1,rfl⟩:=B1 (N:=52) ho ha;clear ho ha;replace hX0:=hup L3 hX0;have L2:=Mem.rfl' m1;clear S;cases n1 with
   |zero=>exact(Bx q2).elim
   |succ n1=>
    obtain⟨y2,q4,q3⟩:=Bh q2;unfold Df at q4;refine Af ?_;refine Af ?_;refine Ad ?_;refine G9 (i:=1) (cs:=[vS k1]) S1 rfl rfl Tryz.isAgg9 Tryz.sizeOf9 rfl (fun _=>rfl) ?_;refine Oz (s:=k1) rfl Tryz.underlying9 ?_;refine RC (m:=(k1.size:Int)) (n:=0) rfl rfl ?_;refine Ag ?_;refine nrm ?_;refine Ch (t:=(decide ((k1.size:Int)>0))) rfl (fun hc2=> ?_) (fun hc2=> ?_)
    ·replace q4:=ifT hc2 q4;cases q4
    replace q4:=ifF hc2 q4;refine CX ?_;refine thE ?_;refine thE ?_;refine exB ?_;refine nrm ?_;have e0:=Option.some.inj q4;subst e0;rcases q3 with ⟨sn,e,_⟩|e
    ·cases e
    ·cases e;exact⟨FC,m1,_,rfl,Mem.tr L3 L2,S1,trivial⟩
  rintro f2 w2 ho ⟨m3,y1,rfl,l1,S2,ha⟩;obtain⟨u2,rfl⟩:=B1 (N:=52) ho ha;clear ho ha;dsimp only at hm;replace hX0:=hup l1 hX0;replace L0:=Mem.tr L0 l1;clear S;refine Bp ?_;refine thR ?_;refine DL ?_;intro we hpd;replace S2:=St.pd S2 hpd;have e0:=Option.some.inj hm;subst e0;exact Hh [] rfl trivial ⟨_,L0,_,S2,rfl,hX0⟩
 replace hm:=ifF hc1 hm;refine Bd ?_;refine nrm ?_;refine Af ?_;obtain⟨x3,q6,hm⟩:=Aa hm;have L4:=Mem.rfl' m;refine Bt [7,8,29,30,31,32,33,34,35,36,37,38,39,40,41,42,43,44,45,46,47,48] (fun f' w'=> ∃(M2:Mem) (y3:ByteArray×σ) (X2:List Ow),x3= .inl y3∧m≤M2∧St M2 ((bx kb0 [vS k0] 9)::(bx kb1 [vS y3.1] 9)::(bx kb2 [vI k2] 3)::(X2++As)) w'∧R y3.2 M2 X2∧Cj f' []) ?_ ?_
 ·refine AD ?_;refine BV [7,8,29,30,31,32,33,34,35,36,37,38,39,40,41,42,43,44,45,46,47,48] (fun n2 f' w'=> ∃(s2:ByteArray×σ) (m7:Mem) (X1:List Ow),iter (Aw p0 k0 k2) n2 s2=some x3∧m≤m7∧St m7 ((bx kb0 [vS k0] 9)::(bx kb1 [vS s2.1] 9)::(bx kb2 [vI k2] 3)::(X1++As)) w'∧R s2.2 m7 X1∧Cj f' []) C7 ⟨(k1,s0),m,_,q6,L4,S,hX0,trivial⟩ ?_;rintro n2 f3 w3 ho ⟨s2,m4,X1,q7,L6,S3,h1,ha⟩;obtain⟨u3,rfl⟩:=B1 (N:=52) ho ha;clear ho ha;have L5:=Mem.rfl' m4;clear S;cases n2 with
  |zero=>exact(Bx q7).elim
  |succ n2=>
   obtain⟨y4,q9,q8⟩:=Bh q7;unfold Aw at q9;refine AD ?_;refine Af ?_;refine Ad ?_;refine G9 (i:=1) (cs:=[vS s2.1]) S3 rfl rfl Tryz.isAgg9 Tryz.sizeOf9 rfl (fun _=>rfl) ?_;refine G9 (i:=0) (cs:=[vS k0]) S3 rfl rfl Tryz.isAgg9 Tryz.sizeOf9 rfl (fun _=>rfl) ?_;obtain⟨x5,q11,q9⟩:=Aa q9;refine CZ Tryz.call187 (KK (a0:=s2.1) (a1:=k0) S3 q11) rfl ?_;rintro _ w4 ⟨m5,l2,S4,rfl⟩;replace h1:=hup l2 h1;replace L5:=Mem.tr L5 l2;clear S3;replace S4:St _ ((bx kb0 [vS k0] 9)::(bx kb1 [vS s2.1] 9)::(bx kb2 [vI k2] 3)::(X1++As)) _:=S4;refine Bg (v:=vI x5) rfl ?_;refine Ag ?_;refine nrm ?_;refine Af ?_;refine Af ?_;refine Ad ?_;refine Ar (v:=vI x5) rfl ?_;refine I0 (m:=x5) (n:=0) rfl rfl ?_;refine Ag ?_;refine nrm ?_;refine Ch (t:=(decide (x5<0))) rfl (fun hc3=> ?_) (fun hc3=> ?_)
   ·replace q9:=ifT hc3 q9;refine CX ?_;refine thE ?_;refine exN rfl ?_;refine thE ?_;refine exB ?_;refine nrm ?_;have e0:=Option.some.inj q9;subst e0;rcases q8 with ⟨sn,e,_⟩|e
    ·cases e
    ·cases e;exact⟨FC,m5,_,_,rfl,Mem.tr L6 L5,S4,h1,trivial⟩
   replace q9:=ifF hc3 q9;refine Bd ?_;refine nrm ?_;refine Af ?_;refine Ad ?_;refine G9 (i:=1) (cs:=[vS s2.1]) S4 rfl rfl Tryz.isAgg9 Tryz.sizeOf9 rfl (fun _=>rfl) ?_;refine Ar (v:=vI x5) rfl ?_;refine G9 (i:=2) (cs:=[vI k2]) S4 rfl rfl Tryz.isAgg3 Tryz.sizeOf3 rfl (fun _=>rfl) ?_;refine FI (m:=x5) (n:=k2) rfl rfl ?_;obtain⟨x6,q12,q9⟩:=Aa q9;refine SK (s:=s2.1) (z:=x6) (l:=0) (h:=(w64 (x5+k2))) rfl Tryz.underlying9 (.inl ⟨rfl,rfl⟩) (.inr ⟨_,_,rfl,rfl⟩) q12 ?_;refine Bg (v:=vS x6) rfl ?_;refine Ag ?_;refine nrm ?_;refine Af ?_;refine Af ?_;refine Ad ?_;refine Ar (v:=f0) rfl ?_;refine Ar (v:=vS x6) rfl ?_;obtain⟨x7,q13,q9⟩:=Aa q9;have S5:=St.absF (L:=[bx kb0 [vS k0] 9,bx kb1 [vS s2.1] 9,bx kb2 [vI k2] 3]) (X:=X1) (As:=As) S4;refine FX rfl (cb0 S5 h1 q13) rfl ?_;rintro _ w5 ⟨m6,X3,l3,S6,h3,rfl⟩;replace S6:=St.absF (L:=X3) (X:=[bx kb0 [vS k0] 9,bx kb1 [vS s2.1] 9,bx kb2 [vI k2] 3]) (As:=As) S6;clear S5;replace L5:=Mem.tr L5 l3;replace S6:St _ ((bx kb0 [vS k0] 9)::(bx kb1 [vS s2.1] 9)::(bx kb2 [vI k2] 3)::(X3++As)) _:=S6;clear S4;refine Pv rfl ?_;refine Ag ?_;refine nrm ?_;refine Ch (t:=(!x7.1)) rfl (fun hc4=> ?_) (fun hc4=> ?_)
   ·replace q9:=ifT hc4 q9;refine Bp ?_;refine thR ?_;refine blR ?_;refine thR ?_;refine blR ?_;refine thR ?_;refine DL ?_;intro we hpd;replace S6:=St.pd S6 hpd;cases q9;rcases q8 with ⟨sn,e,_⟩|e
    ·cases e
    cases e;dsimp only at hm;have e0:=Option.some.inj hm;subst e0;exact Hh [] rfl trivial ⟨_,(Mem.tr L0 (Mem.tr L6 L5)),_,S6,rfl,h3⟩
   replace q9:=ifF hc4 q9;refine Bd ?_;refine nrm ?_;refine Ad ?_;refine G9 (i:=1) (cs:=[vS s2.1]) S6 rfl rfl Tryz.isAgg9 Tryz.sizeOf9 rfl (fun _=>rfl) ?_;refine Ar (v:=vI x5) rfl ?_;refine G9 (i:=0) (cs:=[vS k0]) S6 rfl rfl Tryz.isAgg9 Tryz.sizeOf9 rfl (fun _=>rfl) ?_;refine Oz (s:=k0) rfl Tryz.underlying9 ?_;refine FI (m:=x5) (n:=(k0.size:Int)) rfl rfl ?_;obtain⟨x8,q14,q9⟩:=Aa q9;refine SK (s:=s2.1) (z:=x8) (l:=(w64 (x5+(k0.size:Int)))) (h:=(s2.1.size:Int)) rfl Tryz.underlying9 (.inr ⟨_,_,rfl,rfl⟩) (.inl ⟨rfl,rfl⟩) q14 ?_;refine Hl (i:=1) S6 rfl rfl rfl Tryz.sizeOf9 (Ic rfl KY) rfl ?_;intro w6 S7;replace S7:St _ ((bx kb0 [vS k0] 9)::(bx kb1 [vS x8] 9)::(bx kb2 [vI k2] 3)::(X3++As)) _:=S7;clear S6;refine Ag ?_;refine Kf ?_;refine nrm ?_;have e0:=Option.some.inj q9;subst e0;rcases q8 with ⟨sn,e,q8'⟩|e
   ·cases e;exact⟨FC,_,Nat.lt_succ_self _,⟨_,m6,_,q8',Mem.tr L6 L5,S7,h3,trivial⟩⟩
   ·cases e
 rintro f4 w7 ho ⟨m8,y3,X2,rfl,l4,S8,h2,ha⟩;obtain⟨u4,rfl⟩:=B1 (N:=52) ho ha;clear ho ha;dsimp only at hm;replace L0:=Mem.tr L0 l4;clear S;refine Ad ?_;refine Ar (v:=f0) rfl ?_;refine G9 (i:=1) (cs:=[vS y3.1]) S8 rfl rfl Tryz.isAgg9 Tryz.sizeOf9 rfl (fun _=>rfl) ?_;obtain⟨x9,q15,hm⟩:=Aa hm;have S9:=St.absF (L:=[bx kb0 [vS k0] 9,bx kb1 [vS y3.1] 9,bx kb2 [vI k2] 3]) (X:=X2) (As:=As) S8;refine FX rfl (cb0 S9 h2 q15) rfl ?_;rintro _ w8 ⟨m9,X4,l5,S10,h4,rfl⟩;replace S10:=St.absF (L:=X4) (X:=[bx kb0 [vS k0] 9,bx kb1 [vS y3.1] 9,bx kb2 [vI k2] 3]) (As:=As) S10;clear S9;replace L0:=Mem.tr L0 l5;replace S10:St _ ((bx kb0 [vS k0] 9)::(bx kb1 [vS y3.1] 9)::(bx kb2 [vI k2] 3)::(X4++As)) _:=S10;clear S8;refine Ag ?_;refine RJ ?_;intro we hpd;replace S10:=St.pd S10 hpd;have e0:=Option.some.inj hm;subst e0;exact Hh [] rfl trivial ⟨_,L0,_,S10,rfl,h4⟩
def EO (a0:ByteArray)(a1:ByteArray)(a2:Int):Option (ByteArray×ByteArray×Int):=some (a1,a0,a2)
theorem IK {m:Mem}{As:List Ow}{w:World}{a0:ByteArray}{a1:ByteArray}{a2:Int}{r:ByteArray×ByteArray×Int}(S:St m (As) w)(hm:EO a0 a1 a2=some r):
  AB Tryz.prog 188 #[vS a0,vS a1,vI a2] w fun v w'=> ∃(M:Mem),m≤M∧∃(rk0_0:Nat) (rk0_1:Nat) (rk0_2:Nat),St M ((bx rk0_0 [vS r.1] 9)::(bx rk0_1 [vS r.2.1] 9)::(bx rk0_2 [vI r.2.2] 3)::As) w'∧v= .func (.func 212) #[] #[pt rk0_0 0,pt rk0_1 0,pt rk0_2 0]:=by
 unfold EO at hm;have L0:=Mem.rfl' m;refine CD (args:=[vS a0,vS a1,vI a2]) Tryz.func188 rfl Tryz.ntmps188 (Nat.le_of_ble_eq_true rfl) ?_;refine Af ?_;refine Ad ?_;refine J5 S rfl ?_;intro b1 w1 S1;replace S1:St _ ((bx b1 [vS a0] 9)::As) _:=S1;clear S;refine J5 S1 rfl ?_;intro b2 w2 S2;replace S2:St _ ((bx b2 [vS a1] 9)::(bx b1 [vS a0] 9)::As) _:=S2;clear S1;refine J5 S2 rfl ?_;intro b3 w3 S3;replace S3:St _ ((bx b3 [vI a2] 3)::(bx b2 [vS a1] 9)::(bx b1 [vS a0] 9)::As) _:=S3;clear S2;refine Bg (v:= .nilFunc) rfl ?_;refine Ag ?_;refine nrm ?_;refine Af ?_;refine Ad ?_;refine JC (caps:=[pt b2 0,pt b1 0,pt b3 0]) rfl ?_;refine Bg (v:= .func (.func 212) #[] #[pt b2 0,pt b1 0,pt b3 0]) rfl ?_;refine Ag ?_;refine nrm ?_;refine Bp ?_;refine DL ?_;intro we hpd;replace S3:=St.pd S3 hpd;have S4:St _ ((bx b2 [vS a1] 9)::(bx b1 [vS a0] 9)::(bx b3 [vI a2] 3)::As) _:=St.perm S3 (List.Perm.trans (List.Perm.swap _ _ _) (List.Perm.cons _ (List.Perm.swap _ _ _)));have e0:=Option.some.inj hm;subst e0;exact Hh [_] rfl ⟨rfl,trivial⟩ ⟨_,L0,_,_,_,S4,rfl⟩
def EP (a0:ByteArray)(a1:ByteArray):Option (ByteArray×ByteArray×Int):=Ae (EO a0 a1 0) fun x1=>some (x1.1,x1.2.1,x1.2.2)
theorem IL {m:Mem}{As:List Ow}{w:World}{a0:ByteArray}{a1:ByteArray}{r:ByteArray×ByteArray×Int}(S:St m (As) w)(hm:EP a0 a1=some r):
  AB Tryz.prog 140 #[vS a0,vS a1] w fun v w'=> ∃(M:Mem),m≤M∧∃(rk0_0:Nat) (rk0_1:Nat) (rk0_2:Nat),St M ((bx rk0_0 [vS r.1] 9)::(bx rk0_1 [vS r.2.1] 9)::(bx rk0_2 [vI r.2.2] 3)::As) w'∧v= .func (.func 212) #[] #[pt rk0_0 0,pt rk0_1 0,pt rk0_2 0]:=by
 unfold EP at hm;have L0:=Mem.rfl' m;refine CD (args:=[vS a0,vS a1]) Tryz.func140 rfl Tryz.ntmps140 (Nat.le_of_ble_eq_true rfl) ?_;refine Af ?_;refine Ad ?_;refine Bg (v:= .nilFunc) rfl ?_;refine Ag ?_;refine nrm ?_;refine Af ?_;refine Ad ?_;refine Ar (v:=vS a0) rfl ?_;refine Ar (v:=vS a1) rfl ?_;obtain⟨x1,q1,hm⟩:=Aa hm;refine CZ Tryz.call188 (IK (a0:=a0) (a1:=a1) (a2:=0) S q1) rfl ?_;rintro _ w1 ⟨m1,l1,b1,b2,b3,S1,rfl⟩;replace L0:=Mem.tr L0 l1;clear S;replace S1:St _ ((bx b1 [vS x1.1] 9)::(bx b2 [vS x1.2.1] 9)::(bx b3 [vI x1.2.2] 3)::As) _:=S1;refine Bg (v:= .func (.func 212) #[] #[pt b1 0,pt b2 0,pt b3 0]) rfl ?_;refine Ag ?_;refine nrm ?_;refine Bp ?_;refine DL ?_;intro we hpd;replace S1:=St.pd S1 hpd;have e0:=Option.some.inj hm;subst e0;exact Hh [_] rfl ⟨rfl,trivial⟩ ⟨_,L0,_,_,_,S1,rfl⟩
def B4 (a0:Int):Option Bool:=bnd ((((decide ((97:Int)≤a0))&&(decide (a0≤122)))||((decide ((48:Int)≤a0))&&(decide (a0≤57))))) fun x1=>some x1
theorem HF {a0:Int}{r:Bool}(hm:B4 a0=some r):Sf prog 189 [.d (.r a0)] (.d (.t r)):=
 sp call189 func189 rfl ntmps189 rfl fun D0 As η0 m0 hd=>by
  unfold B4 at hm;have hm:=AY hm;let x1:Bool:=((((decide ((97:Int)≤a0))&&(decide (a0≤122)))||((decide ((48:Int)≤a0))&&(decide (a0≤57)))));have e0:=Option.some.inj hm;subst e0;exact AN hd (by kernel_rfl)
def B2 (a0:Int):Option Bool:=Ae (gu (!(a0==45)) (B4 a0)) fun x1=>some ((a0==45)||x1)
theorem MI {a0:Int}{r:Bool}(hm:B2 a0=some r):Sf prog 190 [.d (.r a0)] (.d (.t r)):=
 sp call190 func190 rfl ntmps190 rfl fun D0 As η0 m0 hd=>by
  unfold B2 at hm;obtain⟨x1,q1,hm⟩:=Aa hm;refine gcG (fun h=>HF (E1 h q1)) (by kernel_rfl) ?_;have e0:=Option.some.inj hm;subst e0;exact AN hd (by kernel_rfl)
def AM (a0:ByteArray)(s1:Nat):Option ((Nat)⊕((Nat)⊕Bool)):=if s1<a0.size then bnd (((Utf8.decode a0 s1).1:Int)) fun x3=>Ae (gu ((s1:Int)==(w64 ((a0.size:Int)-1))) (B4 x3)) fun x4=>bnd ((((s1:Int)==(w64 ((a0.size:Int)-1)))&&x4)) fun x5=>if x5=true then some (.inl (s1+(Utf8.decode a0 s1).2))else bnd (((s1:Int)==(w64 ((a0.size:Int)-1)))) fun x6=>if x6=true then some (.inr (.inr false))else Ae (gu ((s1:Int)==0) (B4 x3)) fun x7=>bnd ((((s1:Int)==0)&&(x7||(x3==95)))) fun x8=>if x8=true then some (.inl (s1+(Utf8.decode a0 s1).2))else Ae (gu (!((s1:Int)==0)) (B2 x3)) fun x9=>if(((s1:Int)==0)||(!x9))=true then some (.inr (.inr false))else some (.inl (s1+(Utf8.decode a0 s1).2))else some (.inr (.inl s1))
def CL (a0:ByteArray):Option Bool:=if((eqS a0 (⟨#[]⟩:ByteArray))||(decide ((a0.size:Int)>16)))=true then some false else Ae (iter (AM a0) C7 0) fun x1=>match x1 with| .inr r=>some r| .inl y1=>some true
theorem MH {a0:ByteArray}{r:Bool}(hm:CL a0=some r):Sf prog 141 [.d (.s a0)] (.d (.t r)):=
 sp call141 func141 rfl ntmps141 rfl fun D0 As η0 m0 hd=>by
  unfold CL at hm;refine gi hm (by kernel_rfl) (fun hc1 hm=> ?_) fun hc1 hm=> ?_
  ·skip;have e0:=Option.some.inj hm;subst e0;exact AN hd (by kernel_rfl)
  refine grng a0 (by kernel_rfl) ?_;obtain⟨x1,q1,hm⟩:=Aa hm;refine gjU 0 (fun(y1:Nat)=>⟨[(13,.ow 0)],[(0,.hp 0 (.it a0 y1))],[],1⟩) (fun y1=>x1= .inl y1) (by kernel_rfl) (fun Jp bk1=> ?_) fun y1 hy=> ?_
  ·refine gl hd (fun(p:Nat×(Nat))=>let (p0,p_0):=p; ⟨[(0,.d (.s a0)),(13,.ow 0)],[(0,.hp 0 (.it a0 p_0))],[],1⟩) (fun p=>iter (AM a0) p.1 p.2=some x1) (fun p=>p.1) (C7,0) q1 (by kernel_rfl) ?_;rintro⟨n1,s1⟩ q2 Jl bl1;cases n1 with
   |zero=>exact(Bx q2).elim
   |succ n1=>
    obtain⟨y2,q4,q3⟩:=Bh q2;unfold AM at q4;refine gnx q4 (by kernel_rfl) (fun hc2 q4=> ?_) fun hc2 q4=> ?_
    ·skip;refine gi' (b:=true) (by kernel_rfl) (fun _=> ?_) (fun h=>by cases h);have q4:=AY q4;let x3:Int:=(((Utf8.decode a0 s1).1:Int));obtain⟨x4,q7,q4⟩:=Aa q4;refine gcG (fun h=>HF (E1 h q7)) (by kernel_rfl) ?_;have q4:=AY q4;let x5:Bool:=((((s1:Int)==(w64 ((a0.size:Int)-1)))&&x4));refine gi q4 (by kernel_rfl) (fun hc3 q4=> ?_) fun hc3 q4=> ?_
     ·skip;have e0:=Option.some.inj q4;subst e0;rcases q3 with ⟨sn,e,q3'⟩|e
      ·have e:=Sum.inl.inj e;subst e;exact gb bl1 hd (n1,_) ⟨q3',Nat.lt_succ_self _⟩ (by kernel_rfl)
      cases BM e
     have q4:=AY q4;let x6:Bool:=(((s1:Int)==(w64 ((a0.size:Int)-1))));refine gi q4 (by kernel_rfl) (fun hc4 q4=> ?_) fun hc4 q4=> ?_
     ·skip;cases q4;rcases q3 with ⟨sn,e,_⟩|e
      ·cases e
      cases e;dsimp only at hm;have e0:=Option.some.inj hm;subst e0;exact AN hd (by kernel_rfl)
     obtain⟨x7,q10,q4⟩:=Aa q4;refine gcG (fun h=>HF (E1 h q10)) (by kernel_rfl) ?_;have q4:=AY q4;let x8:Bool:=((((s1:Int)==0)&&(x7||(x3==95))));refine gi q4 (by kernel_rfl) (fun hc5 q4=> ?_) fun hc5 q4=> ?_
     ·skip;have e0:=Option.some.inj q4;subst e0;rcases q3 with ⟨sn,e,q3'⟩|e
      ·have e:=Sum.inl.inj e;subst e;exact gb bl1 hd (n1,_) ⟨q3',Nat.lt_succ_self _⟩ (by kernel_rfl)
      cases BM e
     obtain⟨x9,q12,q4⟩:=Aa q4;refine gcG (fun h=>MI (E1 h q12)) (by kernel_rfl) ?_;refine gi q4 (by kernel_rfl) (fun hc6 q4=> ?_) fun hc6 q4=> ?_
     ·skip;cases q4;rcases q3 with ⟨sn,e,_⟩|e
      ·cases e
      cases e;dsimp only at hm;have e0:=Option.some.inj hm;subst e0;exact AN hd (by kernel_rfl)
     have e0:=Option.some.inj q4;subst e0;rcases q3 with ⟨sn,e,q3'⟩|e
     ·have e:=Sum.inl.inj e;subst e;exact gb bl1 hd (n1,_) ⟨q3',Nat.lt_succ_self _⟩ (by kernel_rfl)
     cases BM e
    refine gi' (b:=false) (by kernel_rfl) (fun h=>by cases h) (fun _=> ?_);have e0:=Option.some.inj q4;subst e0;rcases q3 with ⟨sn,e,_⟩|e
    ·cases Fi e
    have e:=Sum.inr.inj e;subst e;exact gb bk1 hd s1 rfl (by kernel_rfl)
  subst hy;dsimp only at hm;have e0:=Option.some.inj hm;subst e0;exact AN hd (by kernel_rfl)
theorem MX {m:Mem}{As:List Ow}{w:World}{a0:ByteArray}{r:Bool}(S:St m As w)(hm:CL a0=some r):
  AB prog 141 #[vS a0] w fun v w'=> ∃(M:Mem),m≤M∧St M (As) w'∧v=vb r:=by
 refine AB.mono ((MH hm).2 none0 m As w [vS a0] (.cons (.d (.s _)) .nil) (fun n h=>absurd rfl h) S) ?_;rintro v w' ⟨M,η',r',obs',n1,hle,_,⟨rfl,rfl,rfl⟩,hdom,hR,S'⟩;obtain rfl:=hR.t_inv;exact⟨M,hle,S',rfl⟩
def Bj (b6:ByteArray)(s1:(Unit)×Nat):Option ((Unit)×Nat):=Ae (CL b6) fun x6=>if(!x6)=true then some ((),1)else some ((),0)
def BF (a0:ByteArray)(a1:Int)(a2:Int):Option Bool:=Ae (if(decide ((a0.size:Int)>a2))=true then some true else Ae (DM a0 (⟨#[46]⟩:ByteArray)) fun x3=>some (decide (x3≥a1))) fun x2=>if x2=true then some false else Ae (EP a0 (⟨#[46]⟩:ByteArray)) fun x4=>Ae (A6 (fun(s:(Unit)×Nat) (b0:ByteArray)=>if s.2=0 then Ae (Bj b0 s) fun y=>some (y.2==0,y)else none) x4.1 x4.2.1 x4.2.2 ((),0)) fun x5=>if(x5.2.2.2).2=0 then some true else some false
theorem N5 {m:Mem}{As:List Ow}{w:World}{a0:ByteArray}{a1:Int}{a2:Int}{r:Bool}(S:St m (As) w)(hm:BF a0 a1 a2=some r):
  AB Tryz.prog 84 #[vS a0,vI a1,vI a2] w fun v w'=> ∃(M:Mem),m≤M∧St M (As) w'∧v=vb r:=by
 unfold BF at hm;have L0:=Mem.rfl' m;refine CD (args:=[vS a0,vI a1,vI a2]) Tryz.func84 rfl Tryz.ntmps84 (Nat.le_of_ble_eq_true rfl) ?_;refine Af ?_;refine Ad ?_;refine EM S Tryz.zeroValue4 ?_;intro b1 w1 S1;replace S1:St _ ((bx b1 [vb false] 4)::As) _:=S1;clear S;refine Ag ?_;refine nrm ?_;refine Af ?_;refine Af ?_;refine Ad ?_;refine Ar (v:=vS a0) rfl ?_;refine Oz (s:=a0) rfl Tryz.underlying9 ?_;refine Ar (v:=vI a2) rfl ?_;refine RC (m:=(a0.size:Int)) (n:=a2) rfl rfl ?_;refine Ar (v:=vb (decide ((a0.size:Int)>a2))) rfl ?_;obtain⟨x2,q2,hm⟩:=Aa hm;have L1:=Mem.rfl' m;refine MC 5 [13,14,15,16,17] (fun f' w'=> ∃(M1:Mem),m≤M1∧St M1 ((bx b1 [vb false] 4)::As) w'∧Cj f' [(17,vb x2)]) ?_ ?_
 ·rcases NS (decide ((a0.size:Int)>a2))with hb1|hb1
  ·replace q2:=ifT hb1 q2;refine Fg (d:=12) rfl rfl (congrArg Value.bool hb1) ?_;refine Fg (d:=12) rfl rfl (congrArg Value.bool hb1) ?_;refine Fg (d:=12) rfl rfl (congrArg Value.bool hb1) ?_;refine Fg (d:=12) rfl rfl (congrArg Value.bool hb1) ?_;refine Hm (congrArg Value.bool hb1) rfl ?_;refine Ag (nrm ?_);have e0:=Option.some.inj q2;subst e0;exact⟨FC,m,L1,S1,⟨rfl,trivial⟩⟩
  replace q2:=ifF hb1 q2;refine Ep (d:=12) rfl rfl (congrArg Value.bool hb1) ?_;refine Ar (v:=vS a0) rfl ?_;refine Ep (d:=12) rfl rfl (congrArg Value.bool hb1) ?_;obtain⟨x3,q3,q2⟩:=Aa q2;refine CZ Tryz.call139 (KL (a0:=a0) (a1:=(⟨#[46]⟩:ByteArray)) S1 q3) rfl ?_;rintro _ w3 ⟨m2,l2,S3,rfl⟩;replace L1:=Mem.tr L1 l2;clear S1;replace S3:St _ ((bx b1 [vb false] 4)::As) _:=S3;refine Ep (d:=12) rfl rfl (congrArg Value.bool hb1) ?_;refine Ar (v:=vI a1) rfl ?_;refine Ep (d:=12) rfl rfl (congrArg Value.bool hb1) ?_;refine XC (m:=x3) (n:=a1) rfl rfl ?_;refine Hn (congrArg Value.bool hb1) rfl ?_;refine Ag (nrm ?_);have e0:=Option.some.inj q2;subst e0;exact⟨FC,m2,L1,S3,⟨rfl,trivial⟩⟩
 rintro f1 w4 ho ⟨m3,l3,S4,ha⟩;obtain⟨u1,rfl⟩:=B1 (N:=24) ho ha;replace L0:=Mem.tr L0 l3;clear S1;refine Ag ?_;refine nrm ?_;refine Ch (t:=x2) rfl (fun hc1=> ?_) (fun hc1=> ?_)
 ·replace hm:=ifT hc1 hm;refine Af ?_;refine Ad ?_;refine Hl (i:=0) S4 rfl rfl rfl Tryz.sizeOf4 (Ic rfl KY) rfl ?_;intro w5 S5;replace S5:St _ ((bx b1 [vb false] 4)::As) _:=S5;clear S4;refine Ag ?_;refine nrm ?_;refine Bp ?_;refine thR ?_;refine DL ?_;intro we hpd;replace S5:=St.pd S5 hpd;have SR:=S5;obtain⟨m4,l4,S6⟩:=St.drop S5 0;replace L0:=Mem.tr L0 l4;replace S6:St _ (As) _:=S6;have e0:=Option.some.inj hm;subst e0;exact Hh [_] rfl ⟨Hp (i:=0) (off:=0) (cs:=[vb false]) SR rfl rfl Tryz.isAgg4 Tryz.sizeOf4 rfl (fun _=>rfl),trivial⟩ ⟨_,L0,S6,rfl⟩
 replace hm:=ifF hc1 hm;refine Bd ?_;refine nrm ?_;refine Af ?_;refine Af ?_;refine Ad ?_;refine Ar (v:=vS a0) rfl ?_;obtain⟨x4,q4,hm⟩:=Aa hm;refine CZ Tryz.call140 (IL (a0:=a0) (a1:=(⟨#[46]⟩:ByteArray)) S4 q4) rfl ?_;rintro _ w6 ⟨m5,l5,b2,b3,b4,S7,rfl⟩;replace L0:=Mem.tr L0 l5;clear S4;replace S7:St _ ((bx b2 [vS x4.1] 9)::(bx b3 [vS x4.2.1] 9)::(bx b4 [vI x4.2.2] 3)::(bx b1 [vb false] 4)::As) _:=S7;refine Ag ?_;refine nrm ?_;refine AD ?_;obtain⟨x5,q5,hm⟩:=Aa hm;refine EH S7 rfl Tryz.call212 ?_;intro lp1 rip2 w7 h1 S8;replace S8:St _ ((Lp lp1 rip2 .ready none)::(bx b2 [vS x4.1] 9)::(bx b3 [vS x4.2.1] 9)::(bx b4 [vI x4.2.2] 3)::(bx b1 [vb false] 4)::As) _:=S8;clear S7;have S9:St _ ((bx b2 [vS x4.1] 9)::(bx b3 [vS x4.2.1] 9)::(bx b4 [vI x4.2.2] 3)::(Lp lp1 rip2 .ready none)::(bx b1 [vb false] 4)::As) _:=St.perm S8 (List.Perm.trans (List.Perm.swap _ _ _) (List.Perm.trans (List.Perm.cons _ (List.Perm.swap _ _ _)) (List.Perm.cons _ (List.Perm.cons _ (List.Perm.swap _ _ _)))));clear S8;have hcb1: ∀{m':Mem} {As':List Ow} {w':World} {s:(Unit)×Nat} {X:List Ow} {b0:ByteArray} {r:Bool×((Unit)×Nat)},St m' (X++As') w'→(m5≤m'∧(((s).2=0∧X=Lp lp1 rip2 .ready none::(bx b1 [vb false] 4)::[])∨((s).2=1∧X=Lp lp1 rip2 .done (some .ret)::(bx b1 [vb false] 4)::[])))→(fun(s:(Unit)×Nat) (b0:ByteArray)=>if s.2=0 then Ae (Bj b0 s) fun y=>some (y.2==0,y)else none) s b0=some r→DJ Tryz.prog (.func (.yield lp1) #[] #[]) [vS b0] w' fun v w''=> ∃(M:Mem) (X':List Ow),m'≤M∧St M (X'++As') w''∧(m5≤M∧(((r.2).2=0∧X'=Lp lp1 rip2 .ready none::(bx b1 [vb false] 4)::[])∨((r.2).2=1∧X'=Lp lp1 rip2 .done (some .ret)::(bx b1 [vb false] 4)::[])))∧v=vb r.1:=by
  intro m6 As1 w8 s1 X1 b6 r1 S10 h2 hm1;obtain⟨L3,h3⟩:=h2;rcases h3 with ⟨hj1,rfl⟩|⟨hj1,rfl⟩
  ·try dsimp only at hm1
   rw[if_pos hj1]at hm1;obtain⟨y1,q6,hm1⟩:=Aa hm1;cases hm1;unfold Bj at q6;replace S10:St _ ((Lp lp1 rip2 .ready none)::(bx b1 [vb false] 4)::As1) _:=S10;have L2:=Mem.rfl' m6;refine DJ.round h1 rfl S10 ?_;refine Ad ?_;refine Bg (v:=vS b6) rfl ?_;refine Ag ?_;refine nrm ?_;refine⟨_,_,S10,?_⟩;intro w9 S11;clear S10;replace S11:St _ ((Lp lp1 rip2 .busy none)::(bx b1 [vb false] 4)::As1) _:=S11;refine AD ?_;refine Af ?_;refine Ad ?_;refine Ar (v:=vS b6) rfl ?_;obtain⟨x6,q7,q6⟩:=Aa q6;refine CZ Tryz.call141 (MX (a0:=b6) S11 q7) rfl ?_;rintro _ w10 ⟨m7,l6,S12,rfl⟩;replace L2:=Mem.tr L2 l6;clear S11;replace S12:St _ ((Lp lp1 rip2 .busy none)::(bx b1 [vb false] 4)::As1) _:=S12;refine Pv rfl ?_;refine Ag ?_;refine nrm ?_;refine Ch (t:=(!x6)) rfl (fun hc2=> ?_) (fun hc2=> ?_)
   ·replace q6:=ifT hc2 q6;refine Af ?_;refine Ad ?_;refine Hl (i:=1) S12 rfl rfl rfl Tryz.sizeOf4 (Ic rfl KY) rfl ?_;intro w11 S13;replace S13:St _ ((Lp lp1 rip2 .busy none)::(bx b1 [vb false] 4)::As1) _:=S13;clear S12;refine Ag ?_;refine nrm ?_;refine Bp ?_;refine blR ?_;refine⟨_,_,S13,?_⟩;intro w12 S14;have e0:=Option.some.inj q6;subst e0;exact⟨_,Lp lp1 rip2 .done (some .ret)::(bx b1 [vb false] 4)::[],L2,S14,⟨Mem.tr L3 L2,.inr (⟨rfl,rfl⟩)⟩,rfl⟩
   replace q6:=ifF hc2 q6;refine Bd ?_;refine Kf ?_;refine⟨_,_,S12,?_⟩;intro w13 S15;have e0:=Option.some.inj q6;subst e0;exact⟨_,Lp lp1 rip2 .ready none::(bx b1 [vb false] 4)::[],L2,S15,⟨Mem.tr L3 L2,.inl ⟨rfl,rfl⟩⟩,rfl⟩
  ·try dsimp only at hm1
   rw[if_neg (by rw[hj1]; decide)]at hm1;cases hm1
 refine AB.mono (Ip (p0:=(fun(s:(Unit)×Nat) (b0:ByteArray)=>if s.2=0 then Ae (Bj b0 s) fun y=>some (y.2==0,y)else none)) (k0:=x4.1) (k1:=x4.2.1) (k2:=x4.2.2) (s0:=((),0)) (R:=(fun(s:(Unit)×Nat) (M:Mem) (X:List Ow)=>(m5≤M∧(((s).2=0∧X=Lp lp1 rip2 .ready none::(bx b1 [vb false] 4)::[])∨((s).2=1∧X=Lp lp1 rip2 .done (some .ret)::(bx b1 [vb false] 4)::[]))))) (X0:=((Lp lp1 rip2 .ready none)::(bx b1 [vb false] 4)::[])) (As:=As) S9 (fun l h=>by obtain⟨Lm,e⟩:=h; exact⟨Mem.tr Lm l,e⟩) ⟨Mem.rfl' _,.inl ⟨rfl,rfl⟩⟩ @hcb1 rfl q5) ?_;rintro _ w14 ⟨m8,l7,X2,S16,rfl,⟨L4,h4⟩⟩;rcases h4 with ⟨hj2,rfl⟩|⟨hj2,rfl⟩
 ·rw[if_pos hj2]at hm;replace S16:St _ ((bx b2 [vS x5.1] 9)::(bx b3 [vS x5.2.1] 9)::(bx b4 [vI x5.2.2.1] 3)::(Lp lp1 rip2 .ready none)::(bx b1 [vb false] 4)::As) _:=S16;have S17:St _ ((Lp lp1 rip2 .ready none)::(bx b2 [vS x5.1] 9)::(bx b3 [vS x5.2.1] 9)::(bx b4 [vI x5.2.2.1] 3)::(bx b1 [vb false] 4)::As) _:=St.perm S16 (List.Perm.trans (List.Perm.cons _ (List.Perm.cons _ (List.Perm.swap _ _ _))) (List.Perm.trans (List.Perm.cons _ (List.Perm.swap _ _ _)) (List.Perm.swap _ _ _)));clear S16;refine⟨_,.ready,none,_,l7,(fun h=>by cases h),S17,?_⟩;intro m9 w15 l8 S18;have l9:=Mem.tr l7 l8;replace L0:=Mem.tr L0 l9;replace S18:St _ ((bx b2 [vS x5.1] 9)::(bx b3 [vS x5.2.1] 9)::(bx b4 [vI x5.2.2.1] 3)::(bx b1 [vb false] 4)::As) _:=S18;refine Kf ?_;refine nrm ?_;refine Af ?_;refine Ad ?_;refine Hl (i:=3) S18 rfl rfl rfl Tryz.sizeOf4 (Ic rfl KY) rfl ?_;intro w16 S19;replace S19:St _ ((bx b2 [vS x5.1] 9)::(bx b3 [vS x5.2.1] 9)::(bx b4 [vI x5.2.2.1] 3)::(bx b1 [vb true] 4)::As) _:=S19;clear S18;refine Ag ?_;refine nrm ?_;refine Bp ?_;refine DL ?_;intro we hpd;replace S19:=St.pd S19 hpd;have SR:=S19;obtain⟨m10,l10,S20⟩:=St.drop S19 0;replace L0:=Mem.tr L0 l10;replace S20:St _ ((bx b3 [vS x5.2.1] 9)::(bx b4 [vI x5.2.2.1] 3)::(bx b1 [vb true] 4)::As) _:=S20;obtain⟨m11,l11,S21⟩:=St.drop S20 0;replace L0:=Mem.tr L0 l11;clear S20;replace S21:St _ ((bx b4 [vI x5.2.2.1] 3)::(bx b1 [vb true] 4)::As) _:=S21;obtain⟨m12,l12,S22⟩:=St.drop S21 0;replace L0:=Mem.tr L0 l12;clear S21;replace S22:St _ ((bx b1 [vb true] 4)::As) _:=S22;obtain⟨m13,l13,S23⟩:=St.drop S22 0;replace L0:=Mem.tr L0 l13;clear S22;replace S23:St _ (As) _:=S23;have e0:=Option.some.inj hm;subst e0;exact Hh [_] rfl ⟨Hp (i:=3) (off:=0) (cs:=[vb true]) SR rfl rfl Tryz.isAgg4 Tryz.sizeOf4 rfl (fun _=>rfl),trivial⟩ ⟨_,L0,S23,rfl⟩
 ·rw[if_neg (show¬(x5.2.2.2).2=0 by rw[hj2]; decide)]at hm;replace S16:St _ ((bx b2 [vS x5.1] 9)::(bx b3 [vS x5.2.1] 9)::(bx b4 [vI x5.2.2.1] 3)::(Lp lp1 rip2 .done (some .ret))::(bx b1 [vb false] 4)::As) _:=S16;have S24:St _ ((Lp lp1 rip2 .done (some .ret))::(bx b2 [vS x5.1] 9)::(bx b3 [vS x5.2.1] 9)::(bx b4 [vI x5.2.2.1] 3)::(bx b1 [vb false] 4)::As) _:=St.perm S16 (List.Perm.trans (List.Perm.cons _ (List.Perm.cons _ (List.Perm.swap _ _ _))) (List.Perm.trans (List.Perm.cons _ (List.Perm.swap _ _ _)) (List.Perm.swap _ _ _)));clear S16;refine⟨_,.done,(some .ret),_,l7,(fun h=>by cases h),S24,?_⟩;intro m14 w17 l14 S25;have l15:=Mem.tr l7 l14;replace L0:=Mem.tr L0 l15;replace S25:St _ ((bx b2 [vS x5.1] 9)::(bx b3 [vS x5.2.1] 9)::(bx b4 [vI x5.2.2.1] 3)::(bx b1 [vb false] 4)::As) _:=S25;refine Bp ?_;refine blR ?_;refine thR ?_;refine DL ?_;intro we hpd;replace S25:=St.pd S25 hpd;have SR:=S25;obtain⟨m15,l16,S26⟩:=St.drop S25 0;replace L0:=Mem.tr L0 l16;replace S26:St _ ((bx b3 [vS x5.2.1] 9)::(bx b4 [vI x5.2.2.1] 3)::(bx b1 [vb false] 4)::As) _:=S26;obtain⟨m16,l17,S27⟩:=St.drop S26 0;replace L0:=Mem.tr L0 l17;clear S26;replace S27:St _ ((bx b4 [vI x5.2.2.1] 3)::(bx b1 [vb false] 4)::As) _:=S27;obtain⟨m17,l18,S28⟩:=St.drop S27 0;replace L0:=Mem.tr L0 l18;clear S27;replace S28:St _ ((bx b1 [vb false] 4)::As) _:=S28;obtain⟨m18,l19,S29⟩:=St.drop S28 0;replace L0:=Mem.tr L0 l19;clear S28;replace S29:St _ (As) _:=S29;have e0:=Option.some.inj hm;subst e0;exact Hh [_] rfl ⟨Hp (i:=3) (off:=0) (cs:=[vb false]) SR rfl rfl Tryz.isAgg4 Tryz.sizeOf4 rfl (fun _=>rfl),trivial⟩ ⟨_,L0,S29,rfl⟩
theorem JU {a0:ByteArray}{a1:Int}{a2:Int}{r:Bool}(hm:BF a0 a1 a2=some r):Sf prog 84 [.d (.s a0),.d (.i a1),.d (.i a2)] (.d (.t r)):=
 ⟨call84,fun η m As w vs hv0 hd S=>by
  have S:St m As w:=S;obtain⟨v0,u0,rfl,r0,hv1⟩:=Bo.cons_inv hv0;obtain rfl:=r0.s_inv;obtain⟨v1,u1,rfl,r1,hv2⟩:=Bo.cons_inv hv1;obtain rfl:=r1.i_inv;obtain⟨v2,u2,rfl,r2,hv3⟩:=Bo.cons_inv hv2;obtain rfl:=r2.i_inv;obtain rfl:=Bo.nil_inv hv3;refine AB.mono (N5 S hm) ?_;rintro v w' ⟨M,hle,S0,rfl⟩;exact⟨M,none0,_,_,_,hle,RP hd _,⟨rfl,rfl,rfl⟩,fun n h=>absurd rfl h,(.d (.t _)),S0⟩⟩
def Dy (a0:ByteArray):Option Bool:=Ae (BF a0 8 64) fun x1=>some x1
theorem Ia {a0:ByteArray}{r:Bool}(hm:Dy a0=some r):Sf prog 46 [.d (.s a0)] (.d (.t r)):=
 sp call46 func46 rfl ntmps46 rfl fun D0 As η0 m0 hd=>by
  unfold Dy at hm;obtain⟨x1,q1,hm⟩:=Aa hm;refine gc (fun _=>JU q1) (by kernel_rfl) ?_;have e0:=Option.some.inj hm;subst e0;exact AN hd (by kernel_rfl)
def Ck (a0:ByteArray):Option Int:=Ae (Dy a0) fun x1=>Ae (DO x1) fun x2=>some x2
theorem IT {a0:ByteArray}{r:Int}(hm:Ck a0=some r):Sf prog 19 [.d (.s a0)] (.d (.i r)):=
 sp call19 func19 rfl ntmps19 rfl fun D0 As η0 m0 hd=>by
  unfold Ck at hm;obtain⟨x1,q1,hm⟩:=Aa hm;refine gc (fun _=>Ia q1) (by kernel_rfl) ?_;obtain⟨x2,q2,hm⟩:=Aa hm;refine gc (fun _=>JN q2) (by kernel_rfl) ?_;have e0:=Option.some.inj hm;subst e0;exact AN hd (by kernel_rfl)
def CP (a0:Int):Option Bool:=bnd (((decide (a0≥0))&&(decide (a0≤1099511627776)))) fun x1=>some x1
theorem EK {a0:Int}{r:Bool}(hm:CP a0=some r):Sf prog 93 [.d (.i a0)] (.d (.t r)):=
 sp call93 func93 rfl ntmps93 rfl fun D0 As η0 m0 hd=>by
  unfold CP at hm;have hm:=AY hm;let x1:Bool:=(((decide (a0≥0))&&(decide (a0≤1099511627776))));have e0:=Option.some.inj hm;subst e0;exact AN hd (by kernel_rfl)
def Eb (a0:g_api_Sig):Option Bool:=bnd ((decide (((Nx a0.E a0.S).toNat:Int)<1152921504606845789))) fun x1=>some x1
theorem IV {a0:g_api_Sig}{r:Bool}(hm:Eb a0=some r):Sf prog 95 [ag (H5 a0)] (.d (.t r)):=
 sp call95 func95 rfl ntmps95 rfl fun D0 As η0 m0 hd=>by
  unfold Eb at hm;have hm:=AY hm;let x1:Bool:=((decide (((Nx a0.E a0.S).toNat:Int)<1152921504606845789)));have e0:=Option.some.inj hm;subst e0;exact AN hd (by kernel_rfl)
def AK (a0:List UInt64)(s1:UInt64×Int):Option ((UInt64×Int)⊕(UInt64)):=if(decide (s1.2<(a0.length:Int)))=true then Ae (idx a0 s1.2) fun x6=>some (.inl ((Nx s1.1 x6),(w64 (s1.2+1))))else some (.inr s1.1)
def Bz (a0:List UInt64):Option UInt64:=Ae (if(decide ((a0.length:Int)<1))=true then none else some ()) fun x1=>Ae (idx a0 0) fun x2=>Ae (Ae (iter (AK a0) C7 (x2,1)) fun x4=>some x4) fun x3=>some x3
theorem GI {a0:List UInt64}{r:UInt64}(hm:Bz a0=some r):Sf prog 146 [sl eU a0] (.d (.u r)):=
 sp call146 func146 rfl ntmps146 rfl fun D0 As η0 m0 hd=>by
  unfold Bz at hm;obtain⟨x1,q1,hm⟩:=Aa hm;refine gj (fun(_:Unit)=>⟨[(0,sl eU a0)],[],[],0⟩) (fun _=>True) (by kernel_rfl) (fun Jp bk1=> ?_) fun _ _=> ?_
  ·refine gi q1 (by kernel_rfl) (fun hc1 q1=> ?_) fun hc1 q1=> ?_
   ·cases q1
   have e0:=Option.some.inj q1;subst e0;exact gb bk1 hd () trivial (by kernel_rfl)
  obtain⟨x2,q2,hm⟩:=Aa hm;refine Hf (k:=1) (E:=eU) (fun _=>rfl) (fun _=>q2) (by kernel_rfl) ?_;obtain⟨x3,q3,hm⟩:=Aa hm;obtain⟨x4,q4,q3⟩:=Aa q3;refine gjU 0 (fun(_:Unit)=>⟨[(3,.d (.u x3))],[],[],0⟩) (fun _=>True) (by kernel_rfl) (fun Jp bk2=> ?_) fun _ _=> ?_
  ·refine gjU 0 (fun(_:Unit)=>⟨[(3,.d (.u x4))],[],[],0⟩) (fun _=>True) (by kernel_rfl) (fun Jp bk3=> ?_) fun _ _=> ?_
   ·refine gl hd (fun(p:Nat×(UInt64×Int))=>let (p0,p_0,p_1):=p; ⟨[(0,sl eU a0),(3,.d (.u p_0)),(4,.d (.i p_1))],[],[],0⟩) (fun p=>iter (AK a0) p.1 p.2=some x4) (fun p=>p.1) (C7,(x2,1)) q4 (by kernel_rfl) ?_;rintro⟨n1,s1⟩ q5 Jl bl1;cases n1 with
    |zero=>exact(Bx q5).elim
    |succ n1=>
     obtain⟨y1,q7,q6⟩:=Bh q5;unfold AK at q7;refine gi q7 (by kernel_rfl) (fun hc2 q7=> ?_) fun hc2 q7=> ?_
     ·skip;obtain⟨x6,q9,q7⟩:=Aa q7;refine Hf (k:=1) (E:=eU) (fun _=>rfl) (fun _=>q9) (by kernel_rfl) ?_;have e0:=Option.some.inj q7;subst e0;rcases q6 with ⟨sn,e,q6'⟩|e
      ·have e:=Sum.inl.inj e;subst e;exact gb bl1 hd (n1,_) ⟨q6',Nat.lt_succ_self _⟩ (by kernel_rfl)
      cases BM e
     have e0:=Option.some.inj q7;subst e0;rcases q6 with ⟨sn,e,_⟩|e
     ·cases Fi e
     have e:=Sum.inr.inj e;subst e;exact gb bk3 hd () trivial (by kernel_rfl)
   have e0:=Option.some.inj q3;subst e0;exact gb bk2 hd () trivial (by kernel_rfl)
  have e0:=Option.some.inj hm;subst e0;exact AN hd (by kernel_rfl)
def DT (a0:g_api_Promise):Option Bool:=Ae (CP a0.Log) fun x1=>Ae (gu x1 (CP a0.At)) fun x2=>Ae (gu (x1&&x2) (Bz ([a0.Leaf.1,a0.Leaf.2]:List UInt64))) fun x3=>Ae (gu ((x1&&x2)&&(decide ((x3.toNat:Int)<2305843009213693951))) (Eb a0.Sig)) fun x4=>bnd ((((x1&&x2)&&(decide ((x3.toNat:Int)<2305843009213693951)))&&x4)) fun x5=>some x5
theorem KD {a0:g_api_Promise}{r:Bool}(hm:DT a0=some r):Sf prog 92 [ag (Ai a0)] (.d (.t r)):=
 sp call92 func92 rfl ntmps92 rfl fun D0 As η0 m0 hd=>by
  unfold DT at hm;refine P2 1 [.i a0.Log,.i a0.At,.u a0.Leaf.1,.u a0.Leaf.2,.u a0.Sig.E,.u a0.Sig.S] (by kernel_rfl) ?_;obtain⟨x1,q1,hm⟩:=Aa hm;refine gc (fun _=>EK q1) (by kernel_rfl) ?_;obtain⟨x2,q2,hm⟩:=Aa hm;refine gcG (fun h=>EK (E1 h q2)) (by kernel_rfl) ?_;refine gslM (k:=1) (E:=eU) ([a0.Leaf.1,a0.Leaf.2]:List UInt64) (fun _=>rfl) (by kernel_rfl) ?_;obtain⟨x3,q3,hm⟩:=Aa hm;refine gcG (fun h=>GI (E1 h q3)) (by kernel_rfl) ?_;obtain⟨x4,q4,hm⟩:=Aa hm;refine gcG (fun h=>IV (E1 h q4)) (by kernel_rfl) ?_;have hm:=AY hm;let x5:Bool:=((((x1&&x2)&&(decide ((x3.toNat:Int)<2305843009213693951)))&&x4));have e0:=Option.some.inj hm;subst e0;exact AN hd (by kernel_rfl)
def Gf (a0:Int):Option Bool:=bnd (((decide (a0≤32))||(decide (a0>126)))) fun x1=>some x1
theorem MT {a0:Int}{r:Bool}(hm:Gf a0=some r):Sf prog 147 [.d (.r a0)] (.d (.t r)):=
 sp call147 func147 rfl ntmps147 rfl fun D0 As η0 m0 hd=>by
  unfold Gf at hm;have hm:=AY hm;let x1:Bool:=(((decide (a0≤32))||(decide (a0>126))));have e0:=Option.some.inj hm;subst e0;exact AN hd (by kernel_rfl)
def Bu (a0:ByteArray)(a2:Bool)(s1:Nat):Option ((Nat)⊕((Nat)⊕Int)):=if s1<a0.size then bnd (((Utf8.decode a0 s1).1:Int)) fun x3=>Ae (Gf x3) fun x4=>if(x4==a2)=true then some (.inr (.inr (s1:Int)))else some (.inl (s1+(Utf8.decode a0 s1).2))else some (.inr (.inl s1))
def BK (a0:ByteArray)(a2:Bool):Option Int:=Ae (iter (Bu a0 a2) C7 0) fun x1=>match x1 with| .inr r=>some r| .inl y1=>some (-1)
theorem G1 {a0:ByteArray}{a2:Bool}{r:Int}(hm:BK a0 a2=some r):Sf prog 214 [.d (.s a0),.fn (.func 147) [] [],.d (.t a2)] (.d (.i r)):=
 sp call214 func214 rfl ntmps214 rfl fun D0 As η0 m0 hd=>by
  unfold BK at hm;refine grng a0 (by kernel_rfl) ?_;obtain⟨x1,q1,hm⟩:=Aa hm;refine gjU 0 (fun(y1:Nat)=>⟨[(10,.ow 0)],[(0,.hp 0 (.it a0 y1))],[],1⟩) (fun y1=>x1= .inl y1) (by kernel_rfl) (fun Jp bk1=> ?_) fun y1 hy=> ?_
  ·refine gl hd (fun(p:Nat×(Nat))=>let (p0,p_0):=p; ⟨[(1,.fn (.func 147) [] []),(2,.d (.t a2)),(10,.ow 0)],[(0,.hp 0 (.it a0 p_0))],[],1⟩) (fun p=>iter (Bu a0 a2) p.1 p.2=some x1) (fun p=>p.1) (C7,0) q1 (by kernel_rfl) ?_;rintro⟨n1,s1⟩ q2 Jl bl1;cases n1 with
   |zero=>exact(Bx q2).elim
   |succ n1=>
    obtain⟨y2,q4,q3⟩:=Bh q2;unfold Bu at q4;refine gnx q4 (by kernel_rfl) (fun hc1 q4=> ?_) fun hc1 q4=> ?_
    ·skip;refine gi' (b:=true) (by kernel_rfl) (fun _=> ?_) (fun h=>by cases h);have q4:=AY q4;let x3:Int:=(((Utf8.decode a0 s1).1:Int));obtain⟨x4,q7,q4⟩:=Aa q4;refine gc (fun _=>MT q7) (by kernel_rfl) ?_;refine gi q4 (by kernel_rfl) (fun hc2 q4=> ?_) fun hc2 q4=> ?_
     ·skip;cases q4;rcases q3 with ⟨sn,e,_⟩|e
      ·cases e
      cases e;dsimp only at hm;have e0:=Option.some.inj hm;subst e0;exact AN hd (by kernel_rfl)
     have e0:=Option.some.inj q4;subst e0;rcases q3 with ⟨sn,e,q3'⟩|e
     ·have e:=Sum.inl.inj e;subst e;exact gb bl1 hd (n1,_) ⟨q3',Nat.lt_succ_self _⟩ (by kernel_rfl)
     cases BM e
    refine gi' (b:=false) (by kernel_rfl) (fun h=>by cases h) (fun _=> ?_);have e0:=Option.some.inj q4;subst e0;rcases q3 with ⟨sn,e,_⟩|e
    ·cases Fi e
    have e:=Sum.inr.inj e;subst e;exact gb bk1 hd s1 rfl (by kernel_rfl)
  subst hy;dsimp only at hm;have e0:=Option.some.inj hm;subst e0;exact AN hd (by kernel_rfl)
def B7 (a0:ByteArray):Option Int:=Ae (BK a0 true) fun x1=>some x1
theorem G2 {a0:ByteArray}{r:Int}(hm:B7 a0=some r):Sf prog 192 [.d (.s a0),.fn (.func 147) [] []] (.d (.i r)):=
 sp call192 func192 rfl ntmps192 rfl fun D0 As η0 m0 hd=>by
  unfold B7 at hm;obtain⟨x1,q1,hm⟩:=Aa hm;refine gc (fun _=>G1 q1) (by kernel_rfl) ?_;have e0:=Option.some.inj hm;subst e0;exact AN hd (by kernel_rfl)
def BN (a0:ByteArray):Option Bool:=Ae (B7 a0) fun x1=>some (decide (x1≥0))
theorem Gl {a0:ByteArray}{r:Bool}(hm:BN a0=some r):Sf prog 148 [.d (.s a0),.fn (.func 147) [] []] (.d (.t r)):=
 sp call148 func148 rfl ntmps148 rfl fun D0 As η0 m0 hd=>by
  unfold BN at hm;obtain⟨x1,q1,hm⟩:=Aa hm;refine gc (fun _=>G2 q1) (by kernel_rfl) ?_;have e0:=Option.some.inj hm;subst e0;exact AN hd (by kernel_rfl)
def CR (a0:ByteArray):Option Bool:=Ae (gu ((!eqS a0 (⟨#[]⟩:ByteArray))&&(decide ((a0.size:Int)≤64))) (BN a0)) fun x1=>bnd ((((!eqS a0 (⟨#[]⟩:ByteArray))&&(decide ((a0.size:Int)≤64)))&&(!x1))) fun x2=>some x2
theorem KC {a0:ByteArray}{r:Bool}(hm:CR a0=some r):Sf prog 94 [.d (.s a0)] (.d (.t r)):=
 sp call94 func94 rfl ntmps94 rfl fun D0 As η0 m0 hd=>by
  unfold CR at hm;obtain⟨x1,q1,hm⟩:=Aa hm;refine gcG (fun h=>Gl (E1 h q1)) (by kernel_rfl) ?_;have hm:=AY hm;let x2:Bool:=((((!eqS a0 (⟨#[]⟩:ByteArray))&&(decide ((a0.size:Int)≤64)))&&(!x1)));have e0:=Option.some.inj hm;subst e0;exact AN hd (by kernel_rfl)
def AO (a0:ByteArray)(a1:ByteArray):Option Bool:=Ae (gu (decide ((a0.size:Int)≥(a1.size:Int))) (LI a0 0 (a1.size:Int))) fun x1=>bnd (((decide ((a0.size:Int)≥(a1.size:Int)))&&(eqS x1 a1))) fun x2=>some x2
theorem Fb {a0:ByteArray}{a1:ByteArray}{r:Bool}(hm:AO a0 a1=some r):Sf prog 209 [.d (.s a0),.d (.s a1)] (.d (.t r)):=
 sp call209 func209 rfl ntmps209 rfl fun D0 As η0 m0 hd=>by
  unfold AO at hm;obtain⟨x1,q1,hm⟩:=Aa hm;refine gcutSG (fun h=>E1 h q1) (by kernel_rfl) ?_;have hm:=AY hm;let x2:Bool:=(((decide ((a0.size:Int)≥(a1.size:Int)))&&(eqS x1 a1)));have e0:=Option.some.inj hm;subst e0;exact AN hd (by kernel_rfl)
def AP (a0:ByteArray)(a1:ByteArray):Option (ByteArray×Bool):=Ae (AO a0 a1) fun x1=>if(!x1)=true then some (a0,false)else Ae (LI a0 (a1.size:Int) (a0.size:Int)) fun x2=>some (x2,true)
theorem Fc {a0:ByteArray}{a1:ByteArray}{r:ByteArray×Bool}(hm:AP a0 a1=some r):Sf prog 182 [.d (.s a0),.d (.s a1)] (.tup [.d (.s r.1),.d (.t r.2)]):=
 sp call182 func182 rfl ntmps182 rfl fun D0 As η0 m0 hd=>by
  unfold AP at hm;obtain⟨x1,q1,hm⟩:=Aa hm;refine gc (fun _=>Fb q1) (by kernel_rfl) ?_;refine gi hm (by kernel_rfl) (fun hc1 hm=> ?_) fun hc1 hm=> ?_
  ·skip;have e0:=Option.some.inj hm;subst e0;exact AN hd (by kernel_rfl)
  obtain⟨x2,q2,hm⟩:=Aa hm;refine VU (fun _=>q2) (by kernel_rfl) ?_;have e0:=Option.some.inj hm;subst e0;exact AN hd (by kernel_rfl)
def Bv (a0:ByteArray)(a1:ByteArray):Option (ByteArray×Bool):=Ae (AP a0 a1) fun x1=>some (x1.1,x1.2)
theorem Iv {a0:ByteArray}{a1:ByteArray}{r:ByteArray×Bool}(hm:Bv a0 a1=some r):Sf prog 137 [.d (.s a0),.d (.s a1)] (.tup [.d (.s r.1),.d (.t r.2)]):=
 sp call137 func137 rfl ntmps137 rfl fun D0 As η0 m0 hd=>by
  unfold Bv at hm;obtain⟨x1,q1,hm⟩:=Aa hm;refine gc (fun _=>Fc q1) (by kernel_rfl) ?_;have e0:=Option.some.inj hm;subst e0;exact AN hd (by kernel_rfl)
def B3 (a0:ByteArray):Option (ByteArray×Bool×Bool):=Ae (Dy a0) fun x1=>if x1=true then some (a0,false,true)else Ae (Bv a0 (⟨#[42,46]⟩:ByteArray)) fun x2=>Ae (gu x2.2 (BF x2.1 7 62)) fun x3=>some (x2.1,x2.2,(x2.2&&x3))
theorem HE {a0:ByteArray}{r:ByteArray×Bool×Bool}(hm:B3 a0=some r):Sf prog 82 [.d (.s a0)] (.tup [.d (.s r.1),.d (.t r.2.1),.d (.t r.2.2)]):=
 sp call82 func82 rfl ntmps82 rfl fun D0 As η0 m0 hd=>by
  unfold B3 at hm;obtain⟨x1,q1,hm⟩:=Aa hm;refine gc (fun _=>Ia q1) (by kernel_rfl) ?_;refine gi hm (by kernel_rfl) (fun hc1 hm=> ?_) fun hc1 hm=> ?_
  ·skip;have e0:=Option.some.inj hm;subst e0;exact AN hd (by kernel_rfl)
  obtain⟨x2,q2,hm⟩:=Aa hm;refine gc (fun _=>Iv q2) (by kernel_rfl) ?_;obtain⟨x3,q3,hm⟩:=Aa hm;refine gcG (fun h=>JU (E1 h q3)) (by kernel_rfl) ?_;have e0:=Option.some.inj hm;subst e0;exact AN hd (by kernel_rfl)
def B5 (a0:ByteArray):Option Int:=Ae (B3 a0) fun x1=>Ae (DO x1.2.2) fun x2=>some x2
theorem Kv {a0:ByteArray}{r:Int}(hm:B5 a0=some r):Sf prog 97 [.d (.s a0)] (.d (.i r)):=
 sp call97 func97 rfl ntmps97 rfl fun D0 As η0 m0 hd=>by
  unfold B5 at hm;obtain⟨x1,q1,hm⟩:=Aa hm;refine gc (fun _=>HE q1) (by kernel_rfl) ?_;obtain⟨x2,q2,hm⟩:=Aa hm;refine gc (fun _=>JN q2) (by kernel_rfl) ?_;have e0:=Option.some.inj hm;subst e0;exact AN hd (by kernel_rfl)
def DF (i1:Int)(x2:ByteArray)(s1:(List (ByteArray×Bool))):Option (((List (ByteArray×Bool)))⊕Bool):=Ae (gu (!(lkB s1 x2)) (B5 x2)) fun x3=>if((lkB s1 x2)||(x3 !=0))=true then some (.inr false)else if(lkI s1 x2 0).isNone=true then some (.inl (s1++[(x2,true)]))else none
def DU (a0:List ByteArray)(a1:Int)(a2:Int):Option Bool:=Ae (Ds DF a0 0 ([]:List (ByteArray×Bool))) fun x1=>match x1 with| .inr r=>some r| .inl y1=>bnd (((decide ((a0.length:Int)≥a1))&&(decide ((a0.length:Int)≤a2)))) fun x4=>some x4
theorem KE {a0:List ByteArray}{a1:Int}{a2:Int}{r:Bool}(hm:DU a0 a1 a2=some r):Sf prog 96 [sl eS a0,.d (.i a1),.d (.i a2),.fn (.func 97) [] []] (.d (.t r)):=
 sp call96 func96 rfl ntmps96 rfl fun D0 As η0 m0 hd=>by
  unfold DU at hm;refine gmkm (by kernel_rfl) ?_;obtain⟨x1,q1,hm⟩:=Aa hm;refine Lx 0 (E:=eS) (xs:=a0) 13 (by kernel_rfl) fun hle1=> ?_;refine gjU 0 (fun(y1:(List (ByteArray×Bool)))=>⟨[(0,sl eS a0),(1,.d (.i a1)),(2,.d (.i a2)),(12,.ow 0)],[(0,.hp 0 (.mp y1))],[],1⟩) (fun y1=>x1= .inl y1) (by kernel_rfl) (fun Jp bk1=> ?_) fun y1 hy=> ?_
  ·refine gl hd (fun(p:Int×((List (ByteArray×Bool))))=>let (p0,p_0):=p; ⟨[(0,sl eS a0),(1,.d (.i a1)),(2,.d (.i a2)),(3,.fn (.func 97) [] []),(9,.ow 0),(13,sl eS a0),(14,.d (.i (a0.length:Int))),(15,.d (.i p0)),(12,.ow 0)],[(0,.hp 0 (.mp p_0))],[],1⟩) (fun p=> ∃i:Nat,p.1=(i:Int)∧i≤a0.length∧Ds DF (a0.drop i) (i:Int) p.2=some x1) (fun p=>a0.length-p.1.toNat) (0,([]:List (ByteArray×Bool))) ⟨0,rfl,Nat.zero_le _,q1⟩ (by kernel_rfl) ?_;rintro⟨_,s1⟩ ⟨i1,rfl,hi,q2⟩ Jl bl1;refine gi' (b:=decide ((i1:Int)<(a0.length:Int))) (by kernel_rfl) (fun hc2=> ?_) fun hc2=> ?_
   ·have hlt1:i1<a0.length:=by have:=of_decide_eq_true hc2; omega
    obtain⟨x2,y2,q5,q4,q3⟩:=GX q2 hlt1;unfold DF at q4;refine Hf (k:=1) (E:=eS) (fun _=>rfl) (fun _=>q5) (by kernel_rfl) ?_;refine glk s1 x2 (by kernel_rfl) ?_;obtain⟨x3,q6,q4⟩:=Aa q4;refine gcG (fun h=>Kv (E1 h q6)) (by kernel_rfl) ?_;refine gi q4 (by kernel_rfl) (fun hc1 q4=> ?_) fun hc1 q4=> ?_
    ·skip;cases q4;rcases q3 with ⟨sn,e,_⟩|⟨tn,e,e2⟩
     ·cases e
     cases e;cases e2;dsimp only at hm;have e0:=Option.some.inj hm;subst e0;exact AN hd (by kernel_rfl)
    obtain⟨q7,q4⟩:=Cg q4;refine gup q7 (by kernel_rfl) ?_;have e0:=Option.some.inj q4;subst e0;rcases q3 with ⟨sn,e,q3'⟩|⟨tn,e,_⟩
    ·have e:=Sum.inl.inj e;subst e;exact gb bl1 hd (w64 ((i1:Int)+1),_) ⟨⟨i1+1,A5 hlt1 hle1,by omega,q3'⟩,F8 hlt1 hle1⟩ (by kernel_rfl)
    cases BM e
   have hlt1: ¬i1<a0.length:=by have:=of_decide_eq_false hc2; omega
   have e:=FO q2 hlt1;cases e;exact gb bk1 hd _ rfl (by kernel_rfl)
  subst hy;dsimp only at hm;have hm:=AY hm;let x4:Bool:=(((decide ((a0.length:Int)≥a1))&&(decide ((a0.length:Int)≤a2))));have e0:=Option.some.inj hm;subst e0;exact AN hd (by kernel_rfl)
def DG (i1:Int)(x2:ByteArray)(s1:(List (ByteArray×Bool))):Option (((List (ByteArray×Bool)))⊕Bool):=Ae (gu (!(lkB s1 x2)) (Ck x2)) fun x3=>if((lkB s1 x2)||(x3 !=0))=true then some (.inr false)else if(lkI s1 x2 0).isNone=true then some (.inl (s1++[(x2,true)]))else none
def DV (a0:List ByteArray)(a1:Int)(a2:Int):Option Bool:=Ae (Ds DG a0 0 ([]:List (ByteArray×Bool))) fun x1=>match x1 with| .inr r=>some r| .inl y1=>bnd (((decide ((a0.length:Int)≥a1))&&(decide ((a0.length:Int)≤a2)))) fun x4=>some x4
theorem KF {a0:List ByteArray}{a1:Int}{a2:Int}{r:Bool}(hm:DV a0 a1 a2=some r):Sf prog 96 [sl eS a0,.d (.i a1),.d (.i a2),.fn (.func 19) [] []] (.d (.t r)):=
 sp call96 func96 rfl ntmps96 rfl fun D0 As η0 m0 hd=>by
  unfold DV at hm;refine gmkm (by kernel_rfl) ?_;obtain⟨x1,q1,hm⟩:=Aa hm;refine Lx 0 (E:=eS) (xs:=a0) 13 (by kernel_rfl) fun hle1=> ?_;refine gjU 0 (fun(y1:(List (ByteArray×Bool)))=>⟨[(0,sl eS a0),(1,.d (.i a1)),(2,.d (.i a2)),(12,.ow 0)],[(0,.hp 0 (.mp y1))],[],1⟩) (fun y1=>x1= .inl y1) (by kernel_rfl) (fun Jp bk1=> ?_) fun y1 hy=> ?_
  ·refine gl hd (fun(p:Int×((List (ByteArray×Bool))))=>let (p0,p_0):=p; ⟨[(0,sl eS a0),(1,.d (.i a1)),(2,.d (.i a2)),(3,.fn (.func 19) [] []),(9,.ow 0),(13,sl eS a0),(14,.d (.i (a0.length:Int))),(15,.d (.i p0)),(12,.ow 0)],[(0,.hp 0 (.mp p_0))],[],1⟩) (fun p=> ∃i:Nat,p.1=(i:Int)∧i≤a0.length∧Ds DG (a0.drop i) (i:Int) p.2=some x1) (fun p=>a0.length-p.1.toNat) (0,([]:List (ByteArray×Bool))) ⟨0,rfl,Nat.zero_le _,q1⟩ (by kernel_rfl) ?_;rintro⟨_,s1⟩ ⟨i1,rfl,hi,q2⟩ Jl bl1;refine gi' (b:=decide ((i1:Int)<(a0.length:Int))) (by kernel_rfl) (fun hc2=> ?_) fun hc2=> ?_
   ·have hlt1:i1<a0.length:=by have:=of_decide_eq_true hc2; omega
    obtain⟨x2,y2,q5,q4,q3⟩:=GX q2 hlt1;unfold DG at q4;refine Hf (k:=1) (E:=eS) (fun _=>rfl) (fun _=>q5) (by kernel_rfl) ?_;refine glk s1 x2 (by kernel_rfl) ?_;obtain⟨x3,q6,q4⟩:=Aa q4;refine gcG (fun h=>IT (E1 h q6)) (by kernel_rfl) ?_;refine gi q4 (by kernel_rfl) (fun hc1 q4=> ?_) fun hc1 q4=> ?_
    ·skip;cases q4;rcases q3 with ⟨sn,e,_⟩|⟨tn,e,e2⟩
     ·cases e
     cases e;cases e2;dsimp only at hm;have e0:=Option.some.inj hm;subst e0;exact AN hd (by kernel_rfl)
    obtain⟨q7,q4⟩:=Cg q4;refine gup q7 (by kernel_rfl) ?_;have e0:=Option.some.inj q4;subst e0;rcases q3 with ⟨sn,e,q3'⟩|⟨tn,e,_⟩
    ·have e:=Sum.inl.inj e;subst e;exact gb bl1 hd (w64 ((i1:Int)+1),_) ⟨⟨i1+1,A5 hlt1 hle1,by omega,q3'⟩,F8 hlt1 hle1⟩ (by kernel_rfl)
    cases BM e
   have hlt1: ¬i1<a0.length:=by have:=of_decide_eq_false hc2; omega
   have e:=FO q2 hlt1;cases e;exact gb bk1 hd _ rfl (by kernel_rfl)
  subst hy;dsimp only at hm;have hm:=AY hm;let x4:Bool:=(((decide ((a0.length:Int)≥a1))&&(decide ((a0.length:Int)≤a2))));have e0:=Option.some.inj hm;subst e0;exact AN hd (by kernel_rfl)
def BP (i1:Int)(x2:g_api_Promise)(s1:Int):Option ((Int)⊕Bool):=Ae (DT x2) fun x3=>if((!x3)||(decide (x2.Log≤s1)))=true then some (.inr false)else some (.inl x2.Log)
def EZ (a0:g_api_Cert):Option Bool:=Ae (Ds BP a0.Proms 0 (-1)) fun x1=>match x1 with| .inr r=>some r| .inl y1=>Ae (CP a0.Serial) fun x4=>Ae (gu (!(!x4)) (CP a0.From)) fun x5=>Ae (gu (!((!x4)||(!x5))) (CP a0.Until)) fun x6=>bnd (((((!x4)||(!x5))||(!x6))||(decide (a0.From≥a0.Until)))) fun x7=>if x7=true then some false else Ae (CR a0.Issuer) fun x8=>Ae (gu (!((((!x8)||((a0.Key.toNat:Int)==0))||(decide ((a0.Key.toNat:Int)≥2305843009213691579)))||(decide ((a0.Proms.length:Int)>4)))) (Eb a0.Sig)) fun x9=>bnd ((((((!x8)||((a0.Key.toNat:Int)==0))||(decide ((a0.Key.toNat:Int)≥2305843009213691579)))||(decide ((a0.Proms.length:Int)>4)))||(!x9))) fun x10=>if x10=true then some false else if a0.Ca=true then Ae (CR a0.Subject) fun x11=>Ae (gu (((x11&&((a0.Names.length:Int)==0))&&(decide (a0.Depth≥0)))&&(decide (a0.Depth≤4))) (DU a0.Permit 0 8)) fun x12=>bnd (((((x11&&((a0.Names.length:Int)==0))&&(decide (a0.Depth≥0)))&&(decide (a0.Depth≤4)))&&x12)) fun x13=>some x13 else Ae (gu (eqS a0.Subject (⟨#[]⟩:ByteArray)) (DV a0.Names 1 8)) fun x14=>bnd (((((eqS a0.Subject (⟨#[]⟩:ByteArray))&&x14)&&(a0.Depth==0))&&((a0.Permit.length:Int)==0))) fun x15=>some x15
theorem MU {a0:g_api_Cert}{r:Bool}(hm:EZ a0=some r):Sf prog 52 [ag (Ac a0)] (.d (.t r)):=
 sp call52 func52 rfl ntmps52 rfl fun D0 As η0 m0 hd=>by
  unfold EZ at hm;obtain⟨x1,q1,hm⟩:=Aa hm;refine Lx 0 (E:=Ai) (xs:=a0.Proms) 7 (by kernel_rfl) fun hle1=> ?_;refine gjU 0 (fun(y1:Int)=>⟨[(1,.pb 0 0),(3,.d (.i y1))],[(0,.box 0 [.d (.i a0.Serial),.d (.s a0.Issuer),.d (.s a0.Subject),.d (.u a0.Key),sl eS a0.Names,.d (.i a0.From),.d (.i a0.Until),.d (.t a0.Ca),.d (.i a0.Depth),sl eS a0.Permit,sl Ai a0.Proms,.d (.u a0.Sig.E),.d (.u a0.Sig.S)] 28)],[],1⟩) (fun y1=>x1= .inl y1) (by kernel_rfl) (fun Jp bk1=> ?_) fun y1 hy=> ?_
  ·refine gl hd (fun(p:Int×(Int))=>let (p0,p_0):=p; ⟨[(1,.pb 0 0),(3,.d (.i p_0)),(7,sl Ai a0.Proms),(8,.d (.i (a0.Proms.length:Int))),(9,.d (.i p0))],[(0,.box 0 [.d (.i a0.Serial),.d (.s a0.Issuer),.d (.s a0.Subject),.d (.u a0.Key),sl eS a0.Names,.d (.i a0.From),.d (.i a0.Until),.d (.t a0.Ca),.d (.i a0.Depth),sl eS a0.Permit,sl Ai a0.Proms,.d (.u a0.Sig.E),.d (.u a0.Sig.S)] 28)],[],1⟩) (fun p=> ∃i:Nat,p.1=(i:Int)∧i≤a0.Proms.length∧Ds BP (a0.Proms.drop i) (i:Int) p.2=some x1) (fun p=>a0.Proms.length-p.1.toNat) (0,(-1)) ⟨0,rfl,Nat.zero_le _,q1⟩ (by kernel_rfl) ?_;rintro⟨_,s1⟩ ⟨i1,rfl,hi,q2⟩ Jl bl1;refine gi' (b:=decide ((i1:Int)<(a0.Proms.length:Int))) (by kernel_rfl) (fun hc2=> ?_) fun hc2=> ?_
   ·have hlt1:i1<a0.Proms.length:=by have:=of_decide_eq_true hc2; omega
    obtain⟨x2,y2,q5,q4,q3⟩:=GX q2 hlt1;unfold BP at q4;refine Hf (k:=6) (E:=Ai) (fun _=>rfl) (fun _=>q5) (by kernel_rfl) ?_;obtain⟨x3,q6,q4⟩:=Aa q4;refine gc (fun _=>KD q6) (by kernel_rfl) ?_;refine gi q4 (by kernel_rfl) (fun hc1 q4=> ?_) fun hc1 q4=> ?_
    ·skip;cases q4;rcases q3 with ⟨sn,e,_⟩|⟨tn,e,e2⟩
     ·cases e
     cases e;cases e2;dsimp only at hm;have e0:=Option.some.inj hm;subst e0;exact AN hd (by kernel_rfl)
    have e0:=Option.some.inj q4;subst e0;rcases q3 with ⟨sn,e,q3'⟩|⟨tn,e,_⟩
    ·have e:=Sum.inl.inj e;subst e;exact gb bl1 hd (w64 ((i1:Int)+1),_) ⟨⟨i1+1,A5 hlt1 hle1,by omega,q3'⟩,F8 hlt1 hle1⟩ (by kernel_rfl)
    cases BM e
   have hlt1: ¬i1<a0.Proms.length:=by have:=of_decide_eq_false hc2; omega
   have e:=FO q2 hlt1;cases e;exact gb bk1 hd _ rfl (by kernel_rfl)
  subst hy;dsimp only at hm;obtain⟨x4,q7,hm⟩:=Aa hm;refine gc (fun _=>EK q7) (by kernel_rfl) ?_;obtain⟨x5,q8,hm⟩:=Aa hm;refine gcG (fun h=>EK (E1 h q8)) (by kernel_rfl) ?_;obtain⟨x6,q9,hm⟩:=Aa hm;refine gcG (fun h=>EK (E1 h q9)) (by kernel_rfl) ?_;have hm:=AY hm;let x7:Bool:=(((((!x4)||(!x5))||(!x6))||(decide (a0.From≥a0.Until))));refine gi hm (by kernel_rfl) (fun hc3 hm=> ?_) fun hc3 hm=> ?_
  ·skip;have e0:=Option.some.inj hm;subst e0;exact AN hd (by kernel_rfl)
  obtain⟨x8,q11,hm⟩:=Aa hm;refine gc (fun _=>KC q11) (by kernel_rfl) ?_;obtain⟨x9,q12,hm⟩:=Aa hm;refine gcG (fun h=>IV (E1 h q12)) (by kernel_rfl) ?_;have hm:=AY hm;let x10:Bool:=((((((!x8)||((a0.Key.toNat:Int)==0))||(decide ((a0.Key.toNat:Int)≥2305843009213691579)))||(decide ((a0.Proms.length:Int)>4)))||(!x9)));refine gi hm (by kernel_rfl) (fun hc4 hm=> ?_) fun hc4 hm=> ?_
  ·skip;have e0:=Option.some.inj hm;subst e0;exact AN hd (by kernel_rfl)
  refine gi hm (by kernel_rfl) (fun hc5 hm=> ?_) fun hc5 hm=> ?_
  ·skip;obtain⟨x11,q14,hm⟩:=Aa hm;refine gc (fun _=>KC q14) (by kernel_rfl) ?_;obtain⟨x12,q15,hm⟩:=Aa hm;refine gcG (fun h=>KE (E1 h q15)) (by kernel_rfl) ?_;have hm:=AY hm;let x13:Bool:=(((((x11&&((a0.Names.length:Int)==0))&&(decide (a0.Depth≥0)))&&(decide (a0.Depth≤4)))&&x12));have e0:=Option.some.inj hm;subst e0;exact AN hd (by kernel_rfl)
  obtain⟨x14,q17,hm⟩:=Aa hm;refine gcG (fun h=>KF (E1 h q17)) (by kernel_rfl) ?_;have hm:=AY hm;let x15:Bool:=(((((eqS a0.Subject (⟨#[]⟩:ByteArray))&&x14)&&(a0.Depth==0))&&((a0.Permit.length:Int)==0)));have e0:=Option.some.inj hm;subst e0;exact AN hd (by kernel_rfl)
def GS (a0:CH)(k0:Int):Option (Bool×Int):=some ((a0.tag_==k0),k0)
theorem Ob {a0:CH}{k0:Int}{r:Bool×Int}(hm:GS a0 k0=some r):Sp prog 194 [ag (EE a0),.pb 0 0] [.box 0 [.d (.i k0)] 3] 1 (is (.d (.t r.1)) [.box 0 [.d (.i r.2)] 3] 1):=
 sp call194 func194 rfl ntmps194 rfl fun D0 As η0 m0 hd=>by
  unfold GS at hm;have e0:=Option.some.inj hm;subst e0;exact AN hd (by kernel_rfl)
def Ah (a0:List CH)(i1:Int)(s1:Int):Option ((Int)⊕(Int×Int)):=Ae (idx a0 (i1:Int)) fun x3=>Ae (GS x3 s1) fun x4=>if x4.1=true then some (.inr ((i1:Int),x4.2))else some (.inl x4.2)
def AU (a0:List CH)(k0:Int):Option (Int×Int):=Ae (Cl (Ah a0) a0.length 0 k0) fun x1=>match x1 with| .inr r=>some r| .inl y1=>some ((-1),y1)
theorem Dz {a0:List CH}{k0:Int}{r:Int×Int}(hm:AU a0 k0=some r):Sp prog 193 [sl EE a0,.fn (.func 194) [] [.pb 0 0]] [.box 0 [.d (.i k0)] 3] 1 (is (.d (.i r.1)) [.box 0 [.d (.i r.2)] 3] 1):=
 sp call193 func193 rfl ntmps193 rfl fun D0 As η0 m0 hd=>by
  unfold AU at hm;obtain⟨x1,q1,hm⟩:=Aa hm;refine Lx 0 (E:=EE) (xs:=a0) 6 (by kernel_rfl) fun hle1=> ?_;refine gjU 0 (fun(y1:Int)=>⟨[],[(0,.box 0 [.d (.i y1)] 3)],[],1⟩) (fun y1=>x1= .inl y1) (by kernel_rfl) (fun Jp bk1=> ?_) fun y1 hy=> ?_
  ·refine gl hd (fun(p:Int×(Int))=>let (p0,p_0):=p; ⟨[(0,sl EE a0),(1,.fn (.func 194) [] [.pb 0 0]),(7,.d (.i (a0.length:Int))),(8,.d (.i p0))],[(0,.box 0 [.d (.i p_0)] 3)],[],1⟩) (fun p=> ∃i:Nat,p.1=(i:Int)∧i≤a0.length∧Cl (Ah a0) (a0.length-i) (i:Int) p.2=some x1) (fun p=>a0.length-p.1.toNat) (0,k0) ⟨0,rfl,Nat.zero_le _,q1⟩ (by kernel_rfl) ?_;rintro⟨_,s1⟩ ⟨i1,rfl,hi,q2⟩ Jl bl1;refine gi' (b:=decide ((i1:Int)<(a0.length:Int))) (by kernel_rfl) (fun hc2=> ?_) fun hc2=> ?_
   ·have hlt1:i1<a0.length:=by have:=of_decide_eq_true hc2; omega
    obtain⟨y2,q4,q3⟩:=E3 q2 hlt1;unfold Ah at q4;obtain⟨x3,q6,q4⟩:=Aa q4;refine Hf (k:=2) (E:=EE) (fun _=>rfl) (fun _=>q6) (by kernel_rfl) ?_;obtain⟨x4,q7,q4⟩:=Aa q4;refine gco (Ob q7) (by kernel_rfl) ?_;refine gi q4 (by kernel_rfl) (fun hc1 q4=> ?_) fun hc1 q4=> ?_
    ·skip;cases q4;rcases q3 with ⟨sn,e,_⟩|⟨tn,e,e2⟩
     ·cases e
     cases e;cases e2;dsimp only at hm;have e0:=Option.some.inj hm;subst e0;exact AN hd (by kernel_rfl)
    have e0:=Option.some.inj q4;subst e0;rcases q3 with ⟨sn,e,q3'⟩|⟨tn,e,_⟩
    ·have e:=Sum.inl.inj e;subst e;exact gb bl1 hd (w64 ((i1:Int)+1),_) ⟨⟨i1+1,A5 hlt1 hle1,by omega,q3'⟩,F8 hlt1 hle1⟩ (by kernel_rfl)
    cases BM e
   have hlt1: ¬i1<a0.length:=by have:=of_decide_eq_false hc2; omega
   have e:=DZ q2 hlt1;cases e;exact gb bk1 hd _ rfl (by kernel_rfl)
  subst hy;dsimp only at hm;have e0:=Option.some.inj hm;subst e0;exact AN hd (by kernel_rfl)
def Fu (a0:Int):Option (CH×Bool):=Ae (AU tab_0 a0) fun x1=>if(decide (x1.1<0))=true then some ((⟨0,(-1)⟩:CH),false)else Ae (idx tab_0 x1.1) fun x2=>some (x2,true)
theorem Rv {a0:Int}{r:CH×Bool}(hm:Fu a0=some r):Sf prog 149 [.d (.i a0)] (.tup [ag (EE r.1),.d (.t r.2)]):=
 sp call149 func149 rfl ntmps149 rfl fun D0 As η0 m0 hd=>by
  unfold Fu at hm;refine gslG (k:=2) (E:=EE) tab_0 (fun _=>rfl) (by kernel_rfl) ?_;obtain⟨x1,q1,hm⟩:=Aa hm;refine gco (Dz q1) (by kernel_rfl) ?_;refine gi hm (by kernel_rfl) (fun hc1 hm=> ?_) fun hc1 hm=> ?_
  ·skip;have e0:=Option.some.inj hm;subst e0;exact AN hd (by kernel_rfl)
  obtain⟨x2,q2,hm⟩:=Aa hm;refine gidG (k:=2) (E:=EE) tab_0 (fun _=>rfl) (fun _=>q2) (by kernel_rfl) ?_;have e0:=Option.some.inj hm;subst e0;exact AN hd (by kernel_rfl)
def Kh (n:Int)(a0:List UInt8):Option Bool:=if n=157 then Ev a0 else if n=252 then D9 a0 else if n=253 then Hs a0 else if n=254 then EX a0 else if n=257 then EV a0 else none
theorem U0 {n:Int}{a0:List UInt8}{r:Bool}(hm:Kh n a0=some r): ∃k:Nat,n=(k:Int)∧Sf prog k [sl eB a0] (.d (.t r)):=by
 unfold Kh at hm;split at hm
 ·rename_i h;exact⟨157,h,Ky hm⟩
 split at hm
 ·rename_i h;exact⟨252,h,MQ hm⟩
 split at hm
 ·rename_i h;exact⟨253,h,MP hm⟩
 split at hm
 ·rename_i h;exact⟨254,h,MO hm⟩
 split at hm
 ·rename_i h;exact⟨257,h,MN hm⟩
 cases hm
def H7 (rF:g_api_Item→Int→Option Bool):Prop:= ∀{a0:g_api_Item} {a1:Int} {r:Bool},rF a0 a1=some r→Sf prog 98 [ag (Aj a0),.d (.i a1)] (.d (.t r))
def Ge (rF:g_api_Item→Int→Option Bool)(a0:g_api_Item)(k0:Int):Option (Bool×Int):=Ae (rF a0 (w64 (k0-1))) fun x1=>some ((!x1),k0)
theorem MM {rF:g_api_Item→Int→Option Bool}(hF:H7 rF){a0:g_api_Item}{k0:Int}{r:Bool×Int}(hm:Ge rF a0 k0=some r):Sp prog 151 [ag (Aj a0),.pb 0 0] [.box 0 [.d (.i k0)] 3] 1 (is (.d (.t r.1)) [.box 0 [.d (.i r.2)] 3] 1):=
 sp call151 func151 rfl ntmps151 rfl fun D0 As η0 m0 hd=>by
  unfold Ge at hm;obtain⟨x1,q1,hm⟩:=Aa hm;refine gc (fun _=>hF q1) (by kernel_rfl) ?_;have e0:=Option.some.inj hm;subst e0;exact AN hd (by kernel_rfl)
def Ak (rF:g_api_Item→Int→Option Bool)(a0:List g_api_Item)(i1:Int)(s1:Int):Option ((Int)⊕(Int×Int)):=Ae (idx a0 (i1:Int)) fun x3=>Ae ((Ge rF) x3 s1) fun x4=>if x4.1=true then some (.inr ((i1:Int),x4.2))else some (.inl x4.2)
def AQ (rF:g_api_Item→Int→Option Bool)(a0:List g_api_Item)(k0:Int):Option (Int×Int):=Ae (Cl ((Ak rF) a0) a0.length 0 k0) fun x1=>match x1 with| .inr r=>some r| .inl y1=>some ((-1),y1)
theorem De {rF:g_api_Item→Int→Option Bool}(hF:H7 rF){a0:List g_api_Item}{k0:Int}{r:Int×Int}(hm:AQ rF a0 k0=some r):Sp prog 195 [sl Aj a0,.fn (.func 151) [] [.pb 0 0]] [.box 0 [.d (.i k0)] 3] 1 (is (.d (.i r.1)) [.box 0 [.d (.i r.2)] 3] 1):=
 sp call195 func195 rfl ntmps195 rfl fun D0 As η0 m0 hd=>by
  unfold AQ at hm;obtain⟨x1,q1,hm⟩:=Aa hm;refine Lx 0 (E:=Aj) (xs:=a0) 6 (by kernel_rfl) fun hle1=> ?_;refine gjU 0 (fun(y1:Int)=>⟨[],[(0,.box 0 [.d (.i y1)] 3)],[],1⟩) (fun y1=>x1= .inl y1) (by kernel_rfl) (fun Jp bk1=> ?_) fun y1 hy=> ?_
  ·refine gl hd (fun(p:Int×(Int))=>let (p0,p_0):=p; ⟨[(0,sl Aj a0),(1,.fn (.func 151) [] [.pb 0 0]),(7,.d (.i (a0.length:Int))),(8,.d (.i p0))],[(0,.box 0 [.d (.i p_0)] 3)],[],1⟩) (fun p=> ∃i:Nat,p.1=(i:Int)∧i≤a0.length∧Cl ((Ak rF) a0) (a0.length-i) (i:Int) p.2=some x1) (fun p=>a0.length-p.1.toNat) (0,k0) ⟨0,rfl,Nat.zero_le _,q1⟩ (by kernel_rfl) ?_;rintro⟨_,s1⟩ ⟨i1,rfl,hi,q2⟩ Jl bl1;refine gi' (b:=decide ((i1:Int)<(a0.length:Int))) (by kernel_rfl) (fun hc2=> ?_) fun hc2=> ?_
   ·have hlt1:i1<a0.length:=by have:=of_decide_eq_true hc2; omega
    obtain⟨y2,q4,q3⟩:=E3 q2 hlt1;unfold Ak at q4;obtain⟨x3,q6,q4⟩:=Aa q4;refine Hf (k:=3) (E:=Aj) (fun _=>rfl) (fun _=>q6) (by kernel_rfl) ?_;obtain⟨x4,q7,q4⟩:=Aa q4;refine gco (MM hF q7) (by kernel_rfl) ?_;refine gi q4 (by kernel_rfl) (fun hc1 q4=> ?_) fun hc1 q4=> ?_
    ·skip;cases q4;rcases q3 with ⟨sn,e,_⟩|⟨tn,e,e2⟩
     ·cases e
     cases e;cases e2;dsimp only at hm;have e0:=Option.some.inj hm;subst e0;exact AN hd (by kernel_rfl)
    have e0:=Option.some.inj q4;subst e0;rcases q3 with ⟨sn,e,q3'⟩|⟨tn,e,_⟩
    ·have e:=Sum.inl.inj e;subst e;exact gb bl1 hd (w64 ((i1:Int)+1),_) ⟨⟨i1+1,A5 hlt1 hle1,by omega,q3'⟩,F8 hlt1 hle1⟩ (by kernel_rfl)
    cases BM e
   have hlt1: ¬i1<a0.length:=by have:=of_decide_eq_false hc2; omega
   have e:=DZ q2 hlt1;cases e;exact gb bk1 hd _ rfl (by kernel_rfl)
  subst hy;dsimp only at hm;have e0:=Option.some.inj hm;subst e0;exact AN hd (by kernel_rfl)
def AA (rF:g_api_Item→Int→Option Bool)(a0:List g_api_Item)(k0:Int):Option (Bool×Int):=Ae ((AQ rF) a0 k0) fun x1=>some ((decide (x1.1≥0)),x1.2)
theorem CW {rF:g_api_Item→Int→Option Bool}(hF:H7 rF){a0:List g_api_Item}{k0:Int}{r:Bool×Int}(hm:AA rF a0 k0=some r):Sp prog 150 [sl Aj a0,.fn (.func 151) [] [.pb 0 0]] [.box 0 [.d (.i k0)] 3] 1 (is (.d (.t r.1)) [.box 0 [.d (.i r.2)] 3] 1):=
 sp call150 func150 rfl ntmps150 rfl fun D0 As η0 m0 hd=>by
  unfold AA at hm;obtain⟨x1,q1,hm⟩:=Aa hm;refine gco (De hF q1) (by kernel_rfl) ?_;have e0:=Option.some.inj hm;subst e0;exact AN hd (by kernel_rfl)
def Eu (rF:g_api_Item→Int→Option Bool)(a0:g_api_Item)(a1:Int):Option Bool:=Ae (Fu a0.Tag) fun x1=>Ae (gu (!((!x1.2)||(decide (a1<1)))) (Kh x1.1.may_ a0.B)) fun x2=>if((((!x1.2)||(decide (a1<1)))||(!x2))||((a0.Tag !=48)&&(decide ((a0.L.length:Int)>0))))=true then some false else Ae ((AA rF) a0.L a1) fun x3=>some (!x3.1)
theorem Pm {rF:g_api_Item→Int→Option Bool}(hF:H7 rF){a0:g_api_Item}{a1:Int}{r:Bool}(hm:Eu rF a0 a1=some r):Sf prog 98 [ag (Aj a0),.d (.i a1)] (.d (.t r)):=
 sp call98 func98 rfl ntmps98 rfl fun D0 As η0 m0 hd=>by
  unfold Eu at hm;obtain⟨x1,q1,hm⟩:=Aa hm;refine gc (fun _=>Rv q1) (by kernel_rfl) ?_;obtain⟨x2,q2,hm⟩:=Aa hm;refine gdynG (fun h=>U0 (E1 h q2)) (by kernel_rfl) ?_;refine gi hm (by kernel_rfl) (fun hc1 hm=> ?_) fun hc1 hm=> ?_
  ·skip;have e0:=Option.some.inj hm;subst e0;exact AN hd (by kernel_rfl)
  obtain⟨x3,q3,hm⟩:=Aa hm;refine gco (CW hF q3) (by kernel_rfl) ?_;have e0:=Option.some.inj hm;subst e0;exact AN hd (by kernel_rfl)
def FJ:Nat→g_api_Item→Int→Option Bool
 |0,_,_=>none
 |n+1,a0,a1=>Eu (FJ n) a0 a1
def K3 (a0:g_api_Item)(a1:Int):Option Bool:=FJ C7 a0 a1
theorem LP: ∀n,H7 (FJ n)
 |0=>fun hm=>by cases hm
 |n+1=>fun hm=>Pm (LP n) hm
theorem R8 {a0:g_api_Item}{a1:Int}{r:Bool}(hm:K3 a0 a1=some r):Sf prog 98 [ag (Aj a0),.d (.i a1)] (.d (.t r)):=LP C7 hm
def AW (a0:List UInt8):Option (List UInt8):=Ae (app 1 ([]:List UInt8) a0) fun x1=>some x1
theorem Ey {m:Mem}{As:List Ow}{w:World}{a0:List UInt8}{a0v0:Value}{r:List UInt8}(S:St m (As) w)(a0h0:SlR m a0v0 a0)(hm:AW a0=some r):
  AB Tryz.prog 158 #[a0v0] w fun v w'=> ∃(M:Mem),m≤M∧∃(rv0:Value) (rc0:List Value),St M ((row 1 rv0 rc0 r.length)::As) w'∧v=rv0∧By M rc0 r:=by
 unfold AW at hm;have L0:=Mem.rfl' m;refine CD (args:=[a0v0]) Tryz.func158 rfl Tryz.ntmps158 (Nat.le_of_ble_eq_true rfl) ?_;refine Af ?_;refine Ad ?_;refine Bg (v:= .slice none 0 0) rfl ?_;refine Ag ?_;refine nrm ?_;refine Af ?_;refine Af ?_;refine Ad ?_;refine Ar (v:=a0v0) rfl ?_;refine Kb rfl rfl a0h0 Tryz.underlying52 ?_;refine Ag ?_;refine nrm ?_;refine Ch (t:=(Jf a0v0)) rfl (fun hc1=> ?_) (fun hc1=> ?_)
 ·have he1:a0=[]:=SlR.nilOf a0h0 hc1;rw[he1]at hm;replace hm:(some ([]:List UInt8))=some _:=hm;refine Af ?_;refine Ad ?_;refine Bg (v:= .slice none 0 0) rfl ?_;refine Ag ?_;refine nrm ?_;refine Bp ?_;refine thR ?_;refine DL ?_;intro we hpd;replace S:=St.pd S hpd;have S1:=St.rowNil S 1;have h1:By m [] ([]:List UInt8):=By.nil;replace S1:St _ ((row 1 (.slice none 0 0) [] ([]:List UInt8).length)::As) _:=S1;clear S;have e0:=Option.some.inj hm;subst e0;exact Hh [_] rfl ⟨rfl,trivial⟩ ⟨_,L0,_,_,S1,rfl,h1⟩
 refine Bd ?_;refine nrm ?_;refine Af ?_;refine Ad ?_;refine HQ (parts:=[]) (vs:=[]) (cls:=[]) (n:=0) (sz:=1) S Tryz.underlying52 Tryz.sizeOf5 Tryz.zeroValue5 rfl trivial rfl rfl (by decide) (by decide) ?_;intro v1 w1 S2;have h2:By m [] ([]:List UInt8):=By.nil;replace S2:St _ ((row 1 v1 [] ([]:List UInt8).length)::As) _:=S2;clear S;refine Ar (v:=a0v0) rfl ?_;obtain⟨x1,q1,hm⟩:=Aa hm;refine Py (i:=0) (zs:=x1) (bytes:=1) (ti:=Tryz.t5) S2 rfl rfl h2 rfl rfl a0h0 q1 Tryz.underlying52 Tryz.type5 rfl rfl rfl rfl ?_;intro v2 c1 w2 S3 h3;replace S3:St _ ((row 1 v2 c1 x1.length)::As) _:=S3;clear S2;refine Bg (v:=v2) rfl ?_;refine Ag ?_;refine nrm ?_;refine Bp ?_;refine DL ?_;intro we hpd;replace S3:=St.pd S3 hpd;have e0:=Option.some.inj hm;subst e0;exact Hh [_] rfl ⟨rfl,trivial⟩ ⟨_,L0,_,_,S3,rfl,h3⟩
theorem G8 {a0:List UInt8}{r:List UInt8}(hm:AW a0=some r):Sp prog 158 [sl eB a0] [] 0 (is (.ow 0) [.row 0 1 _ eB r] 1):=
 ⟨call158,fun η m As w vs hv0 hd S=>by
  have S:St m As w:=S;obtain⟨v0,u0,rfl,r0,hv1⟩:=Bo.cons_inv hv0;have f0:=Br.ofS Br.b r0.dd;obtain rfl:=Bo.nil_inv hv1;refine AB.mono (Ey S f0 hm) ?_;rintro v w' ⟨M,hle,y0,c0,S0,rfl,h0⟩;exact⟨M,(YV [v]),_,_,_,hle,RP hd _,⟨rfl,rfl,rfl⟩,Ij rfl,(.ow rfl (Ei S0)),(St.impL S0 (sepC (Br.toR Br.b rfl rfl (Ei S0) h0) fun _ h=>h))⟩⟩
def Lw (rF:(List UInt8)→g_api_Item→Option (List UInt8)):Prop:= ∀{a0:List UInt8} {a1:g_api_Item} {r:List UInt8},rF a0 a1=some r→Sp prog 99 [.ow 0,ag (Aj a1)] [.row 0 1 _ eB a0] 1 (is (.ow 1) [.row 1 1 _ eB r] 2)
def Ce (rF:(List UInt8)→g_api_Item→Option (List UInt8))(i1:Int)(x4:g_api_Item)(s1:(List UInt8)):Option ((List UInt8)):=Ae (rF s1 x4) fun x5=>some x5
def DR (rF:(List UInt8)→g_api_Item→Option (List UInt8))(a0:g_api_Item):Option (List UInt8):=Ae (AW a0.B) fun x1=>Ae (Ae (E4 (Ce rF) a0.L 0 x1) fun x3=>some x3) fun x2=>some x2
theorem KA {rF:(List UInt8)→g_api_Item→Option (List UInt8)}(hF:Lw rF){a0:g_api_Item}{r:List UInt8}(hm:DR rF a0=some r):Sp prog 152 [ag (Aj a0)] [] 0 (is (.ow 0) [.row 0 1 _ eB r] 1):=
 sp call152 func152 rfl ntmps152 rfl fun D0 As η0 m0 hd=>by
  unfold DR at hm;obtain⟨x1,q1,hm⟩:=Aa hm;refine gco (G8 q1) (by kernel_rfl) ?_;obtain⟨x2,q2,hm⟩:=Aa hm;obtain⟨x3,q3,q2⟩:=Aa q2;refine Lx 0 (E:=Aj) (xs:=a0.L) 10 (by kernel_rfl) fun hle1=> ?_;refine gjU 0 (fun(_:Unit)=>⟨[(3,.ow 1),(1,.pb 0 0)],[(0,.row 1 1 _ eB x2),(1,.box 0 [.d (.i a0.Tag),sl eB a0.B,sl Aj a0.L] 79)],[],2⟩) (fun _=>True) (by kernel_rfl) (fun Jp bk1=> ?_) fun _ _=> ?_
  ·refine gjU 0 (fun(_:Unit)=>⟨[(3,.ow 1),(1,.pb 0 0)],[(0,.row 1 1 _ eB x3),(1,.box 0 [.d (.i a0.Tag),sl eB a0.B,sl Aj a0.L] 79)],[],2⟩) (fun _=>True) (by kernel_rfl) (fun Jp bk2=> ?_) fun _ _=> ?_
   ·refine gl hd (fun(p:Int×((List UInt8)))=>let (p0,p_0):=p; ⟨[(3,.ow 1),(10,sl Aj a0.L),(11,.d (.i (a0.L.length:Int))),(12,.d (.i p0)),(1,.pb 0 0)],[(0,.row 1 1 _ eB p_0),(1,.box 0 [.d (.i a0.Tag),sl eB a0.B,sl Aj a0.L] 79)],[],2⟩) (fun p=> ∃i:Nat,p.1=(i:Int)∧i≤a0.L.length∧E4 (Ce rF) (a0.L.drop i) (i:Int) p.2=some x3) (fun p=>a0.L.length-p.1.toNat) (0,x1) ⟨0,rfl,Nat.zero_le _,q3⟩ (by kernel_rfl) ?_;rintro⟨_,s1⟩ ⟨i1,rfl,hi,q4⟩ Jl bl1;refine gi' (b:=decide ((i1:Int)<(a0.L.length:Int))) (by kernel_rfl) (fun hc1=> ?_) fun hc1=> ?_
    ·have hlt1:i1<a0.L.length:=by have:=of_decide_eq_true hc1; omega
     obtain⟨x4,y1,q7,q6,q5⟩:=Ik q4 hlt1;unfold Ce at q6;refine Hf (k:=3) (E:=Aj) (fun _=>rfl) (fun _=>q7) (by kernel_rfl) ?_;obtain⟨x5,q8,q6⟩:=Aa q6;refine gco (hF q8) (by kernel_rfl) ?_;have e0:=Option.some.inj q6;subst e0;exact gb bl1 hd (w64 ((i1:Int)+1),x5) ⟨⟨i1+1,A5 hlt1 hle1,by omega,q5⟩,F8 hlt1 hle1⟩ (by kernel_rfl)
    have hlt1: ¬i1<a0.L.length:=by have:=of_decide_eq_false hc1; omega
    have e:=Eq.symm (Hg q4 hlt1);subst e;exact gb bk2 hd () trivial (by kernel_rfl)
   have e0:=Option.some.inj q2;subst e0;exact gb bk1 hd () trivial (by kernel_rfl)
  have e0:=Option.some.inj hm;subst e0;exact AN hd (by kernel_rfl)
def Gy (rF:(List UInt8)→g_api_Item→Option (List UInt8))(a0:List UInt8)(a1:g_api_Item):Option (List UInt8):=Ae ((DR rF) a1) fun x1=>Ae (app 1 a0 ([(toB a1.Tag)]:List UInt8)) fun x2=>Ae (bnd ((decide ((x1.length:Int)<128))) fun x4=>if x4=true then Ae (app 1 x2 ([(toB (x1.length:Int))]:List UInt8)) fun x5=>some x5 else bnd ((decide ((x1.length:Int)<256))) fun x6=>if x6=true then Ae (app 1 x2 ([129,(toB (x1.length:Int))]:List UInt8)) fun x7=>some x7 else Ae (app 1 x2 ([130,(toB (Ek (x1.length:Int) 8)),(toB (x1.length:Int))]:List UInt8)) fun x8=>some x8) fun x3=>Ae (app 1 x3 x1) fun x9=>some x9
theorem Pl {rF:(List UInt8)→g_api_Item→Option (List UInt8)}(hF:Lw rF){a0:List UInt8}{a1:g_api_Item}{r:List UInt8}(hm:Gy rF a0 a1=some r):Sp prog 99 [.ow 0,ag (Aj a1)] [.row 0 1 _ eB a0] 1 (is (.ow 1) [.row 1 1 _ eB r] 2):=
 sp call99 func99 rfl ntmps99 rfl fun D0 As η0 m0 hd=>by
  unfold Gy at hm;obtain⟨x1,q1,hm⟩:=Aa hm;refine gco (KA hF q1) (by kernel_rfl) ?_;refine F3 (k:=1) eB ([(toB a1.Tag)]:List UInt8) (fun _=>rfl) (by kernel_rfl) ?_;obtain⟨x2,q2,hm⟩:=Aa hm;refine RO (k:=1) (E:=eB) (fun _=>rfl) q2 (by kernel_rfl) ?_;obtain⟨x3,q3,hm⟩:=Aa hm;refine gjU 0 (fun(_:Unit)=>⟨[(0,.ow 3),(5,.ow 2),(3,.pb 1 0)],[(0,.row 3 1 _ eB x3),(1,.row 2 1 _ eB x1),(2,.box 1 [.d (.i a1.Tag),sl eB a1.B,sl Aj a1.L] 79)],[],4⟩) (fun _=>True) (by kernel_rfl) (fun Jp bk1=> ?_) fun _ _=> ?_
  ·skip;have q3:=AY q3;let x4:Bool:=((decide ((x1.length:Int)<128)));refine gi q3 (by kernel_rfl) (fun hc1 q3=> ?_) fun hc1 q3=> ?_
   ·refine F3 (k:=1) eB ([(toB (x1.length:Int))]:List UInt8) (fun _=>rfl) (by kernel_rfl) ?_;obtain⟨x5,q5,q3⟩:=Aa q3;refine RO (k:=1) (E:=eB) (fun _=>rfl) q5 (by kernel_rfl) ?_;have e0:=Option.some.inj q3;subst e0;exact gb bk1 hd () trivial (by kernel_rfl)
   have q3:=AY q3;let x6:Bool:=((decide ((x1.length:Int)<256)));refine gi q3 (by kernel_rfl) (fun hc2 q3=> ?_) fun hc2 q3=> ?_
   ·refine F3 (k:=1) eB ([129,(toB (x1.length:Int))]:List UInt8) (fun _=>rfl) (by kernel_rfl) ?_;obtain⟨x7,q7,q3⟩:=Aa q3;refine RO (k:=1) (E:=eB) (fun _=>rfl) q7 (by kernel_rfl) ?_;have e0:=Option.some.inj q3;subst e0;exact gb bk1 hd () trivial (by kernel_rfl)
   refine F3 (k:=1) eB ([130,(toB (Ek (x1.length:Int) 8)),(toB (x1.length:Int))]:List UInt8) (fun _=>rfl) (by kernel_rfl) ?_;obtain⟨x8,q8,q3⟩:=Aa q3;refine RO (k:=1) (E:=eB) (fun _=>rfl) q8 (by kernel_rfl) ?_;have e0:=Option.some.inj q3;subst e0;exact gb bk1 hd () trivial (by kernel_rfl)
  obtain⟨x9,q9,hm⟩:=Aa hm;refine RO (k:=1) (E:=eB) (fun _=>rfl) q9 (by kernel_rfl) ?_;have e0:=Option.some.inj hm;subst e0;exact AN hd (by kernel_rfl)
def EN:Nat→(List UInt8)→g_api_Item→Option (List UInt8)
 |0,_,_=>none
 |n+1,a0,a1=>Gy (EN n) a0 a1
def K0 (a0:List UInt8)(a1:g_api_Item):Option (List UInt8):=EN C7 a0 a1
theorem LO: ∀n,Lw (EN n)
 |0=>fun hm=>by cases hm
 |n+1=>fun hm=>Pl (LO n) hm
theorem R6 {a0:List UInt8}{a1:g_api_Item}{r:List UInt8}(hm:K0 a0 a1=some r):Sp prog 99 [.ow 0,ag (Aj a1)] [.row 0 1 _ eB a0] 1 (is (.ow 1) [.row 1 1 _ eB r] 2):=LO C7 hm
def Gz (a0:g_api_Item):Option ((List UInt8)×Int):=Ae (K3 a0 8) fun x1=>if(!x1)=true then some (([]:List UInt8),1)else Ae (K0 ([]:List UInt8) a0) fun x2=>if(decide ((x2.length:Int)>8192))=true then some (([]:List UInt8),2)else some (x2,0)
theorem Oc {a0:g_api_Item}{r:(List UInt8)×Int}(hm:Gz a0=some r):Sp prog 53 [ag (Aj a0)] [] 0 (is (.tup [.ow 0,.d (.i r.2)]) [.row 0 1 _ eB r.1] 1):=
 sp call53 func53 rfl ntmps53 rfl fun D0 As η0 m0 hd=>by
  unfold Gz at hm;obtain⟨x1,q1,hm⟩:=Aa hm;refine gc (fun _=>R8 q1) (by kernel_rfl) ?_;refine gi hm (by kernel_rfl) (fun hc1 hm=> ?_) fun hc1 hm=> ?_
  ·skip;refine gnil eB 2 1 (by kernel_rfl) ?_;have e0:=Option.some.inj hm;subst e0;exact AN hd (by kernel_rfl)
  obtain⟨x2,q2,hm⟩:=Aa hm;refine gco (Sp.nil0 (R6 q2) rfl) (by kernel_rfl) ?_;refine gi hm (by kernel_rfl) (fun hc2 hm=> ?_) fun hc2 hm=> ?_
  ·skip;refine gnil eB 2 1 (by kernel_rfl) ?_;have e0:=Option.some.inj hm;subst e0;exact AN hd (by kernel_rfl)
  have e0:=Option.some.inj hm;subst e0;exact AN hd (by kernel_rfl)
def A1 (a0:List g_api_Item):Option (List g_api_Item):=Ae (app 56 ([]:List g_api_Item) a0) fun x1=>some x1
theorem E8 {m:Mem}{As:List Ow}{w:World}{a0:List g_api_Item}{a0v0:Value}{r:List g_api_Item}(S:St m (As) w)(a0h0:SlR m a0v0 a0)(hm:A1 a0=some r):
  AB Tryz.prog 153 #[a0v0] w fun v w'=> ∃(M:Mem),m≤M∧∃(rv0:Value) (rc0:List Value),St M ((row 3 rv0 rc0 r.length)::As) w'∧v=rv0∧By M rc0 r:=by
 unfold A1 at hm;have L0:=Mem.rfl' m;refine CD (args:=[a0v0]) Tryz.func153 rfl Tryz.ntmps153 (Nat.le_of_ble_eq_true rfl) ?_;refine Af ?_;refine Ad ?_;refine Bg (v:= .slice none 0 0) rfl ?_;refine Ag ?_;refine nrm ?_;refine Af ?_;refine Af ?_;refine Ad ?_;refine Ar (v:=a0v0) rfl ?_;refine Kb rfl rfl a0h0 Tryz.underlying77 ?_;refine Ag ?_;refine nrm ?_;refine Ch (t:=(Jf a0v0)) rfl (fun hc1=> ?_) (fun hc1=> ?_)
 ·have he1:a0=[]:=SlR.nilOf a0h0 hc1;rw[he1]at hm;replace hm:(some ([]:List g_api_Item))=some _:=hm;refine Af ?_;refine Ad ?_;refine Bg (v:= .slice none 0 0) rfl ?_;refine Ag ?_;refine nrm ?_;refine Bp ?_;refine thR ?_;refine DL ?_;intro we hpd;replace S:=St.pd S hpd;have S1:=St.rowNil S 3;have h1:By m [] ([]:List g_api_Item):=By.nil;replace S1:St _ ((row 3 (.slice none 0 0) [] ([]:List g_api_Item).length)::As) _:=S1;clear S;have e0:=Option.some.inj hm;subst e0;exact Hh [_] rfl ⟨rfl,trivial⟩ ⟨_,L0,_,_,S1,rfl,h1⟩
 refine Bd ?_;refine nrm ?_;refine Af ?_;refine Ad ?_;refine HQ (parts:=[]) (vs:=[]) (cls:=[]) (n:=0) (sz:=3) S Tryz.underlying77 Tryz.sizeOf79 Tryz.zeroValue79 rfl trivial rfl rfl (by decide) (by decide) ?_;intro v1 w1 S2;have h2:By m [] ([]:List g_api_Item):=By.nil;replace S2:St _ ((row 3 v1 [] ([]:List g_api_Item).length)::As) _:=S2;clear S;refine Ar (v:=a0v0) rfl ?_;obtain⟨x1,q1,hm⟩:=Aa hm;refine Py (i:=0) (zs:=x1) (bytes:=56) (ti:=Tryz.t79) S2 rfl rfl h2 rfl rfl a0h0 q1 Tryz.underlying77 Tryz.type79 rfl rfl rfl rfl ?_;intro v2 c1 w2 S3 h3;replace S3:St _ ((row 3 v2 c1 x1.length)::As) _:=S3;clear S2;refine Bg (v:=v2) rfl ?_;refine Ag ?_;refine nrm ?_;refine Bp ?_;refine DL ?_;intro we hpd;replace S3:=St.pd S3 hpd;have e0:=Option.some.inj hm;subst e0;exact Hh [_] rfl ⟨rfl,trivial⟩ ⟨_,L0,_,_,S3,rfl,h3⟩
theorem Fe {a0:List g_api_Item}{r:List g_api_Item}(hm:A1 a0=some r):Sp prog 153 [sl Aj a0] [] 0 (is (.ow 0) [.row 0 3 _ Aj r] 1):=
 ⟨call153,fun η m As w vs hv0 hd S=>by
  have S:St m As w:=S;obtain⟨v0,u0,rfl,r0,hv1⟩:=Bo.cons_inv hv0;have f0:=Br.ofS JK r0.dd;obtain rfl:=Bo.nil_inv hv1;refine AB.mono (E8 S f0 hm) ?_;rintro v w' ⟨M,hle,y0,c0,S0,rfl,h0⟩;exact⟨M,(YV [v]),_,_,_,hle,RP hd _,⟨rfl,rfl,rfl⟩,Ij rfl,(.ow rfl (Ei S0)),(St.impL S0 (sepC (Br.toR JK rfl rfl (Ei S0) h0) fun _ h=>h))⟩⟩
def DS (a0:List g_api_Item):Option g_api_Item:=Ae (A1 a0) fun x1=>some (⟨48,[],x1⟩:g_api_Item)
theorem Gp {a0:List g_api_Item}{r:g_api_Item}(hm:DS a0=some r):Sf prog 100 [sl Aj a0] (ag (Aj r)):=
 sp call100 func100 rfl ntmps100 rfl fun D0 As η0 m0 hd=>by
  unfold DS at hm;obtain⟨x1,q1,hm⟩:=Aa hm;refine gco (Fe q1) (by kernel_rfl) ?_;have e0:=Option.some.inj hm;subst e0;exact AN hd (by kernel_rfl)
def GU (a0:Int)(i1:Int)(s1:UInt8×UInt8×UInt8×UInt8×UInt8×UInt8×UInt8×UInt8):Option (UInt8×UInt8×UInt8×UInt8×UInt8×UInt8×UInt8×UInt8):=if(0:Int)≤(w64 (56-(w64 (8*(i1:Int)))))then Ae (idx [s1.1,s1.2.1,s1.2.2.1,s1.2.2.2.1,s1.2.2.2.2.1,s1.2.2.2.2.2.1,s1.2.2.2.2.2.2.1,s1.2.2.2.2.2.2.2] (i1:Int)) fun x4=>bnd (if(i1:Int)=0 then(toB (Ek a0 ((w64 (56-(w64 (8*(i1:Int))))).toNat)))else s1.1) fun x5=>bnd (if(i1:Int)=1 then(toB (Ek a0 ((w64 (56-(w64 (8*(i1:Int))))).toNat)))else s1.2.1) fun x6=>bnd (if(i1:Int)=2 then(toB (Ek a0 ((w64 (56-(w64 (8*(i1:Int))))).toNat)))else s1.2.2.1) fun x7=>bnd (if(i1:Int)=3 then(toB (Ek a0 ((w64 (56-(w64 (8*(i1:Int))))).toNat)))else s1.2.2.2.1) fun x8=>bnd (if(i1:Int)=4 then(toB (Ek a0 ((w64 (56-(w64 (8*(i1:Int))))).toNat)))else s1.2.2.2.2.1) fun x9=>bnd (if(i1:Int)=5 then(toB (Ek a0 ((w64 (56-(w64 (8*(i1:Int))))).toNat)))else s1.2.2.2.2.2.1) fun x10=>bnd (if(i1:Int)=6 then(toB (Ek a0 ((w64 (56-(w64 (8*(i1:Int))))).toNat)))else s1.2.2.2.2.2.2.1) fun x11=>bnd (if(i1:Int)=7 then(toB (Ek a0 ((w64 (56-(w64 (8*(i1:Int))))).toNat)))else s1.2.2.2.2.2.2.2) fun x12=>some (x5,x6,x7,x8,x9,x10,x11,x12)else none
def Co (s2:(List UInt8)):Option (((List UInt8))⊕((List UInt8))):=Ae (if(decide ((s2.length:Int)>1))=true then Ae (Ev s2) fun x18=>some (!x18)else some false) fun x17=>if x17=true then Ae (cut s2 1 (s2.length:Int)) fun x19=>some (.inl x19)else some (.inr s2)
def Dr (a0:Int):Option g_api_Item:=Ae (Ae (Cx (GU a0) 8 0 (0,0,0,0,0,0,0,0)) fun x2=>some (x2.1,x2.2.1,x2.2.2.1,x2.2.2.2.1,x2.2.2.2.2.1,x2.2.2.2.2.2.1,x2.2.2.2.2.2.2.1,x2.2.2.2.2.2.2.2)) fun x1=>Ae (Ae (iter Co C7 ([x1.1,x1.2.1,x1.2.2.1,x1.2.2.2.1,x1.2.2.2.2.1,x1.2.2.2.2.2.1,x1.2.2.2.2.2.2.1,x1.2.2.2.2.2.2.2]:List UInt8)) fun x14=>some x14) fun x13=>Ae (AW x13) fun x20=>some (⟨2,x20,[]⟩:g_api_Item)
theorem R9 {m:Mem}{As:List Ow}{w:World}{a0:Int}{r:g_api_Item}(S:St m (As) w)(hm:Dr a0=some r):
  AB Tryz.prog 106 #[vI a0] w fun v w'=> ∃(M:Mem),m≤M∧∃(rv0_1:Value) (rv0_2:Value),St M (As) w'∧v= .agg #[vI r.Tag,rv0_1,rv0_2]∧SlR M rv0_1 r.B∧SlR M rv0_2 r.L:=by
 unfold Dr at hm;have L0:=Mem.rfl' m;refine CD (args:=[vI a0]) Tryz.func106 rfl Tryz.ntmps106 (Nat.le_of_ble_eq_true rfl) ?_;refine Af ?_;refine Ad ?_;refine EM S Tryz.zeroValue79 ?_;intro b1 w1 S1;replace S1:St _ ((bx b1 [vI 0,.slice none 0 0,.slice none 0 0] 79)::As) _:=S1;clear S;refine Ag ?_;refine nrm ?_;refine Af ?_;refine Ad ?_;refine EM S1 Tryz.zeroValue155 ?_;intro b2 w2 S2;replace S2:St _ ((bx b2 [vB 0,vB 0,vB 0,vB 0,vB 0,vB 0,vB 0,vB 0] 155)::(bx b1 [vI 0,.slice none 0 0,.slice none 0 0] 79)::As) _:=S2;clear S1;refine Ag ?_;refine nrm ?_;obtain⟨x1,q1,hm⟩:=Aa hm;have L1:=Mem.rfl' m;refine Af ?_;refine Bt [4,6,7,8,9,10,11,12,13,14,15,16,17] (fun f' w'=> ∃(M1:Mem),m≤M1∧St M1 ((bx b2 [vB x1.1,vB x1.2.1,vB x1.2.2.1,vB x1.2.2.2.1,vB x1.2.2.2.2.1,vB x1.2.2.2.2.2.1,vB x1.2.2.2.2.2.2.1,vB x1.2.2.2.2.2.2.2] 155)::(bx b1 [vI 0,.slice none 0 0,.slice none 0 0] 79)::As) w'∧Cj f' []) ?_ ?_
 ·refine Af ?_;refine Ad ?_;refine Ar (v:=vI 0) rfl ?_;refine Ag ?_;refine nrm ?_;obtain⟨x2,q2,q1⟩:=Aa q1;have L2:=Mem.rfl' m;refine Bt [4,6,7,8,9,10,11,12,13,14,15,16,17] (fun f' w'=> ∃(M2:Mem),m≤M2∧St M2 ((bx b2 [vB x2.1,vB x2.2.1,vB x2.2.2.1,vB x2.2.2.2.1,vB x2.2.2.2.2.1,vB x2.2.2.2.2.2.1,vB x2.2.2.2.2.2.2.1,vB x2.2.2.2.2.2.2.2] 155)::(bx b1 [vI 0,.slice none 0 0,.slice none 0 0] 79)::As) w'∧Cj f' []) ?_ ?_
  ·refine AD ?_;refine BV [4,6,7,8,9,10,11,12,13,14,15,16,17] (fun n1 f' w'=> ∃(i1:Nat) (s1:UInt8×UInt8×UInt8×UInt8×UInt8×UInt8×UInt8×UInt8) (m2:Mem),n1=8-i1∧i1≤8∧Cx (GU a0) (8-i1) (i1:Int) s1=some x2∧m≤m2∧St m2 ((bx b2 [vB s1.1,vB s1.2.1,vB s1.2.2.1,vB s1.2.2.2.1,vB s1.2.2.2.2.1,vB s1.2.2.2.2.2.1,vB s1.2.2.2.2.2.2.1,vB s1.2.2.2.2.2.2.2] 155)::(bx b1 [vI 0,.slice none 0 0,.slice none 0 0] 79)::As) w'∧Cj f' [(6,vI (i1:Int))]) 8 ⟨0,(0,0,0,0,0,0,0,0),m,rfl,Nat.zero_le _,q2,L2,S2,⟨rfl,trivial⟩⟩ ?_;rintro n1 f1 w3 ho ⟨i1,s1,m1,hn,hi,q3,L4,S3,ha⟩;obtain⟨u1,rfl⟩:=B1 (N:=32) ho ha;clear ho ha;have L3:=Mem.rfl' m1;clear S2;refine Af ?_;refine Ad ?_;refine I0 (m:=(i1:Int)) (n:=8) rfl rfl ?_;refine Ag ?_;refine nrm ?_;refine Af ?_;refine Ch (t:=decide ((i1:Int)<(8:Int))) rfl (fun hc1=> ?_) (fun hc1=> ?_)
   ·have hlt1:i1<8:=by have:=of_decide_eq_true hc1; omega
    obtain⟨y1,q5,q4⟩:=GF q3 hlt1;unfold GU at q5;refine Bd ?_;refine nrm ?_;refine Af ?_;refine AD ?_;refine Af ?_;refine Ad ?_;refine Ar (v:=vI (i1:Int)) rfl ?_;refine Bg (v:=vI (i1:Int)) rfl ?_;refine Ag ?_;refine nrm ?_;refine Ad ?_;refine Ar (v:=vI (i1:Int)) rfl ?_;refine Ar (v:=vI a0) rfl ?_;refine Ar (v:=vI (i1:Int)) rfl ?_;refine Oy (m:=8) (n:=(i1:Int)) rfl rfl ?_;refine KU (m:=56) (n:=(w64 (8*(i1:Int)))) rfl rfl ?_;obtain⟨q7,q5⟩:=Cg q5;refine Wq (m:=a0) (n:=(w64 (56-(w64 (8*(i1:Int)))))) rfl rfl q7 ?_;refine Pw rfl Tryz.underlying3 Tryz.underlying5 ?_;obtain⟨x4,q8,q5⟩:=Aa q5;refine KV (i:=(i1:Int)) rfl rfl Tryz.underlying155 Tryz.sizeOf5 (Ew q8).1 (Ew q8).2 ?_;obtain⟨x5,q9,q5⟩:=Dd q5;obtain⟨x6,q10,q5⟩:=Dd q5;obtain⟨x7,q11,q5⟩:=Dd q5;obtain⟨x8,q12,q5⟩:=Dd q5;obtain⟨x9,q13,q5⟩:=Dd q5;obtain⟨x10,q14,q5⟩:=Dd q5;obtain⟨x11,q15,q5⟩:=Dd q5;obtain⟨x12,q16,q5⟩:=Dd q5;refine XA (i:=0) (off:=0+(i1:Int).toNat*1) S3 rfl rfl rfl Tryz.sizeOf5 (RT.all (Ic rfl KY)) (by rcases idx8 q8 with ⟨h,h'⟩|⟨h,h'⟩|⟨h,h'⟩|⟨h,h'⟩|⟨h,h'⟩|⟨h,h'⟩|⟨h,h'⟩|⟨h,h'⟩<;>(rw[h]; exact Nat.le_of_ble_eq_true rfl)) ?_;intro w4 S4;replace S4:=St.cellsTo (i:=0) (l':=[vB x5,vB x6,vB x7,vB x8,vB x9,vB x10,vB x11,vB x12]) S4 (by rcases idx8 q8 with ⟨h,h'⟩|⟨h,h'⟩|⟨h,h'⟩|⟨h,h'⟩|⟨h,h'⟩|⟨h,h'⟩|⟨h,h'⟩|⟨h,h'⟩<;>(simp only[q9,q10,q11,q12,q13,q14,q15,q16,h]; rfl)) rfl;replace S4:St _ ((bx b2 [vB x5,vB x6,vB x7,vB x8,vB x9,vB x10,vB x11,vB x12] 155)::(bx b1 [vI 0,.slice none 0 0,.slice none 0 0] 79)::As) _:=S4;clear S3;refine Ag ?_;refine Kf ?_;refine nrm ?_;refine Ad ?_;refine FI (m:=(i1:Int)) (n:=1) rfl rfl ?_;refine Ar (v:=vI (w64 ((i1:Int)+1))) rfl ?_;refine Ag ?_;refine nrm ?_;have e0:=Option.some.inj q5;subst e0;exact⟨FC,_,(by omega),⟨i1+1,(x5,x6,x7,x8,x9,x10,x11,x12),m1,rfl,hlt1,q4,Mem.tr L4 L3,S4,⟨congrArg (Value.int .i64) (A5 hlt1 (by decide)),trivial⟩⟩⟩
   have hlt1: ¬i1<8:=by have:=of_decide_eq_false hc1; omega
   have e:=Eq.symm (FA q3 hlt1);subst e;refine CX ?_;refine thE ?_;refine thE ?_;refine exB ?_;refine nrm ?_;exact⟨FC,m1,Mem.tr L4 L3,S3,trivial⟩
  rintro f2 w5 ho ⟨m3,l1,S5,ha⟩;obtain⟨u2,rfl⟩:=B1 (N:=32) ho ha;clear ho ha;replace L1:=Mem.tr L1 l1;clear S2;have e0:=Option.some.inj q1;subst e0;exact⟨FC,m3,L1,S5,trivial⟩
 rintro f3 w6 ho ⟨m4,l2,S6,ha⟩;obtain⟨u3,rfl⟩:=B1 (N:=32) ho ha;replace L0:=Mem.tr L0 l2;clear S2;refine Af ?_;refine Ad ?_;refine Ka (k:=8) (n:=8) (sz:=1) (off:=0) rfl Tryz.underlying155 Tryz.sizeOf5 (.inl ⟨rfl,rfl⟩) (Nat.le_refl _) ?_;have S7:=St.bxRow (i:=0) (sz:=1) (n:=8) S6 rfl rfl (by decide);have h1:By m4 [vB x1.1,vB x1.2.1,vB x1.2.2.1,vB x1.2.2.2.1,vB x1.2.2.2.2.1,vB x1.2.2.2.2.2.1,vB x1.2.2.2.2.2.2.1,vB x1.2.2.2.2.2.2.2] ([x1.1,x1.2.1,x1.2.2.1,x1.2.2.2.1,x1.2.2.2.2.1,x1.2.2.2.2.2.1,x1.2.2.2.2.2.2.1,x1.2.2.2.2.2.2.2]:List UInt8):=(By.cons (c:=[vB x1.1]) rfl (By.cons (c:=[vB x1.2.1]) rfl (By.cons (c:=[vB x1.2.2.1]) rfl (By.cons (c:=[vB x1.2.2.2.1]) rfl (By.cons (c:=[vB x1.2.2.2.2.1]) rfl (By.cons (c:=[vB x1.2.2.2.2.2.1]) rfl (By.cons (c:=[vB x1.2.2.2.2.2.2.1]) rfl (By.cons (c:=[vB x1.2.2.2.2.2.2.2]) rfl By.nil))))))));replace S7:St _ ((row 1 (.slice (some ⟨b2,0,none⟩) 8 8) [vB x1.1,vB x1.2.1,vB x1.2.2.1,vB x1.2.2.2.1,vB x1.2.2.2.2.1,vB x1.2.2.2.2.2.1,vB x1.2.2.2.2.2.2.1,vB x1.2.2.2.2.2.2.2] ([x1.1,x1.2.1,x1.2.2.1,x1.2.2.2.1,x1.2.2.2.2.1,x1.2.2.2.2.2.1,x1.2.2.2.2.2.2.1,x1.2.2.2.2.2.2.2]:List UInt8).length)::(bx b1 [vI 0,.slice none 0 0,.slice none 0 0] 79)::As) _:=S7;clear S6;refine Bg (v:=(.slice (some ⟨b2,0,none⟩) 8 8)) rfl ?_;refine Ag ?_;refine nrm ?_;obtain⟨x13,q17,hm⟩:=Aa hm;have L5:=Mem.rfl' m4;refine Af ?_;refine Bt [5,19,20,21,22,23,24,25,26,27,28] (fun f' w'=> ∃(M3:Mem) (v1:Value),m4≤M3∧St M3 ((bx b1 [vI 0,.slice none 0 0,.slice none 0 0] 79)::As) w'∧SlR M3 v1 x13∧Cj f' [(5,v1)]) ?_ ?_
 ·obtain⟨x14,q18,q17⟩:=Aa q17;have L6:=Mem.rfl' m4;obtain⟨m5,l3,h4,S8⟩:=St.rowKeepT (i:=0) S7 rfl h1 rfl;replace L6:=Mem.tr L6 l3;clear S7;refine Bt [5,19,20,21,22,23,24,25,26,27,28] (fun f' w'=> ∃(M4:Mem) (v3:Value),m4≤M4∧St M4 ((bx b1 [vI 0,.slice none 0 0,.slice none 0 0] 79)::As) w'∧SlR M4 v3 x14∧Cj f' [(5,v3)]) ?_ ?_
  ·refine AD ?_;refine BV [5,19,20,21,22,23,24,25,26,27,28] (fun n2 f' w'=> ∃(s2:(List UInt8)) (m10:Mem) (v2:Value),iter Co n2 s2=some x14∧m4≤m10∧St m10 ((bx b1 [vI 0,.slice none 0 0,.slice none 0 0] 79)::As) w'∧SlR m10 v2 s2∧Cj f' [(5,v2)]) C7 ⟨([x1.1,x1.2.1,x1.2.2.1,x1.2.2.2.1,x1.2.2.2.2.1,x1.2.2.2.2.2.1,x1.2.2.2.2.2.2.1,x1.2.2.2.2.2.2.2]:List UInt8),m5,_,q18,L6,S8,h4,⟨rfl,trivial⟩⟩ ?_;rintro n2 f4 w7 ho ⟨s2,m6,v2,q19,L8,S9,h3,ha⟩;obtain⟨u4,rfl⟩:=B1 (N:=32) ho ha;clear ho ha;have L7:=Mem.rfl' m6;clear S8;cases n2 with
   |zero=>exact(Bx q19).elim
   |succ n2=>
    obtain⟨y2,q21,q20⟩:=Bh q19;unfold Co at q21;refine Af ?_;refine Af ?_;refine Ad ?_;refine Ar (v:=v2) rfl ?_;refine HR (xs:=s2) rfl h3 Tryz.underlying52 ?_;refine RC (m:=(s2.length:Int)) (n:=1) rfl rfl ?_;refine Ar (v:=vb (decide ((s2.length:Int)>1))) rfl ?_;obtain⟨x17,q24,q21⟩:=Aa q21;have L9:=Mem.rfl' m6;refine MC 4 [23,24,25,26] (fun f' w'=> ∃(M5:Mem),m6≤M5∧St M5 ((bx b1 [vI 0,.slice none 0 0,.slice none 0 0] 79)::As) w'∧Cj f' [(26,vb x17)]) ?_ ?_
    ·rcases NS (decide ((s2.length:Int)>1))with hb1|hb1
     ·replace q24:=ifT hb1 q24;refine Ep (d:=22) rfl rfl (congrArg Value.bool hb1) ?_;refine Ar (v:=v2) rfl ?_;refine Ep (d:=22) rfl rfl (congrArg Value.bool hb1) ?_;obtain⟨x18,q25,q24⟩:=Aa q24;refine CZ Tryz.call157 (Pq (a0:=s2) S9 h3 q25) rfl ?_;rintro _ w9 ⟨m8,l5,S11,rfl⟩;replace h3:=h3.up l5;replace L9:=Mem.tr L9 l5;clear S9;replace S11:St _ ((bx b1 [vI 0,.slice none 0 0,.slice none 0 0] 79)::As) _:=S11;refine Ep (d:=22) rfl rfl (congrArg Value.bool hb1) ?_;refine Pv rfl ?_;refine Hm (congrArg Value.bool hb1) rfl ?_;refine Ag (nrm ?_);have e0:=Option.some.inj q24;subst e0;exact⟨FC,m8,L9,S11,⟨rfl,trivial⟩⟩
     replace q24:=ifF hb1 q24;refine Fg (d:=22) rfl rfl (congrArg Value.bool hb1) ?_;refine Fg (d:=22) rfl rfl (congrArg Value.bool hb1) ?_;refine Fg (d:=22) rfl rfl (congrArg Value.bool hb1) ?_;refine Hn (congrArg Value.bool hb1) rfl ?_;refine Ag (nrm ?_);have e0:=Option.some.inj q24;subst e0;exact⟨FC,m6,L9,S9,⟨rfl,trivial⟩⟩
    rintro f5 w10 ho ⟨m9,l6,S12,ha⟩;obtain⟨u5,rfl⟩:=B1 (N:=32) ho ha;replace h3:=h3.up l6;replace L7:=Mem.tr L7 l6;clear S9;refine Ag ?_;refine nrm ?_;refine Ch (t:=x17) rfl (fun hc2=> ?_) (fun hc2=> ?_)
    ·replace q21:=ifT hc2 q21;refine Bd ?_;refine nrm ?_;refine AD ?_;refine Ad ?_;refine Ar (v:=v2) rfl ?_;obtain⟨x19,q26,q21⟩:=Aa q21;refine RD (ys:=x19) (l:=1) (h:=(s2.length:Int)) rfl h3 Tryz.underlying52 Tryz.sizeOf5 (.inr ⟨_,rfl⟩) (.inl ⟨rfl,rfl⟩) (.inl rfl) q26 ?_;intro v4 h6;refine Bg (v:=v4) rfl ?_;refine Ag ?_;refine Kf ?_;refine nrm ?_;have e0:=Option.some.inj q21;subst e0;rcases q20 with ⟨sn,e,q20'⟩|e
     ·cases e;exact⟨FC,_,Nat.lt_succ_self _,⟨_,m9,_,q20',Mem.tr L8 L7,S12,h6,⟨rfl,trivial⟩⟩⟩
     ·cases e
    replace q21:=ifF hc2 q21;refine CX ?_;refine thE ?_;refine thE ?_;refine exB ?_;refine nrm ?_;have e0:=Option.some.inj q21;subst e0;rcases q20 with ⟨sn,e,_⟩|e
    ·cases e
    ·cases e;exact⟨FC,m9,_,Mem.tr L8 L7,S12,h3,⟨rfl,trivial⟩⟩
  rintro f6 w11 ho ⟨m11,v3,l7,S13,h5,ha⟩;obtain⟨u6,rfl⟩:=B1 (N:=32) ho ha;clear ho ha;replace L5:=Mem.tr L5 l7;clear S8;have e0:=Option.some.inj q17;subst e0;exact⟨FC,m11,_,L5,S13,h5,⟨rfl,trivial⟩⟩
 rintro f7 w12 ho ⟨m12,v1,l8,S14,h2,ha⟩;obtain⟨u7,rfl⟩:=B1 (N:=32) ho ha;replace L0:=Mem.tr L0 l8;clear S7;refine Af ?_;refine Ad ?_;refine Ar (v:=v1) rfl ?_;obtain⟨x20,q27,hm⟩:=Aa hm;refine CZ Tryz.call158 (Ey (a0:=x13) S14 h2 q27) rfl ?_;rintro v5 w13 ⟨m13,l9,_,c1,S15,rfl,h7⟩;replace h2:=h2.up l9;replace L0:=Mem.tr L0 l9;clear S14;replace S15:St _ ((row 1 v5 c1 x20.length)::(bx b1 [vI 0,.slice none 0 0,.slice none 0 0] 79)::As) _:=S15;obtain⟨m14,l10,h8,S16⟩:=St.rowKeepT (i:=0) S15 rfl h7 rfl;replace L0:=Mem.tr L0 l10;clear S15;refine Px (parts:=[(0,.const (.int .i64 2)),(1,.tmp 30)]) (ps:=[(0,vI 2,[vI 2]),(1,v5,[v5])]) (cs:=[vI 2,v5,.slice none 0 0]) Tryz.zeroValue79 (Hx.str (ss:=[1,1,1]) Tryz.underlying79 ⟨Tryz.sizeOf3,Tryz.sizeOf52,Tryz.sizeOf77,trivial⟩) rfl ⟨rfl,SlR.cells h8,trivial⟩ rfl ?_;refine Hl (i:=0) S16 rfl rfl rfl Tryz.sizeOf79 (Ic rfl (Ic (SlR.one h8) (Ic rfl KY))) rfl ?_;intro w14 S17;replace S17:St _ ((bx b1 [vI 2,v5,.slice none 0 0] 79)::As) _:=S17;clear S16;refine Ag ?_;refine nrm ?_;refine Bp ?_;refine DL ?_;intro we hpd;replace S17:=St.pd S17 hpd;have SR:=S17;obtain⟨m15,l11,S18⟩:=St.drop S17 0;replace h8:=h8.up l11;replace L0:=Mem.tr L0 l11;replace S18:St _ (As) _:=S18;have e0:=Option.some.inj hm;subst e0;exact Hh [_] rfl ⟨Hp (i:=0) (off:=0) (cs:=[vI 2,v5,.slice none 0 0]) SR rfl rfl Tryz.isAgg79 Tryz.sizeOf79 rfl (fun h=>by cases h),trivial⟩ ⟨_,L0,_,_,S18,rfl,h8,SlR.nil⟩
theorem Gr {a0:Int}{r:g_api_Item}(hm:Dr a0=some r):Sf prog 106 [.d (.i a0)] (ag (Aj r)):=
 ⟨call106,fun η m As w vs hv0 hd S=>by
  have S:St m As w:=S;obtain⟨v0,u0,rfl,r0,hv1⟩:=Bo.cons_inv hv0;obtain rfl:=r0.i_inv;obtain rfl:=Bo.nil_inv hv1;refine AB.mono (R9 S hm) ?_;rintro v w' ⟨M,hle,y0_0,y0_1,S0,rfl,h0_0,h0_1⟩;exact⟨M,none0,_,_,_,hle,RP hd _,⟨rfl,rfl,rfl⟩,fun n h=>absurd rfl h,(Br.toA JK (Nv h0_0 h0_1)),S0⟩⟩
def C3 (a0:UInt64):Option g_api_Item:=Ae (Dr (w64 (a0.toNat:Int))) fun x1=>some x1
theorem Fl {a0:UInt64}{r:g_api_Item}(hm:C3 a0=some r):Sf prog 101 [.d (.u a0)] (ag (Aj r)):=
 sp call101 func101 rfl ntmps101 rfl fun D0 As η0 m0 hd=>by
  unfold C3 at hm;obtain⟨x1,q1,hm⟩:=Aa hm;refine gc (fun _=>Gr q1) (by kernel_rfl) ?_;have e0:=Option.some.inj hm;subst e0;exact AN hd (by kernel_rfl)
def Fv (a0:ByteArray):Option g_api_Item:=Ae (app 1 ([]:List UInt8) a0.data.toList) fun x1=>some (⟨12,x1,[]⟩:g_api_Item)
theorem Jv {a0:ByteArray}{r:g_api_Item}(hm:Fv a0=some r):Sf prog 154 [.d (.s a0)] (ag (Aj r)):=
 sp call154 func154 rfl ntmps154 rfl fun D0 As η0 m0 hd=>by
  unfold Fv at hm;obtain⟨x1,q1,hm⟩:=Aa hm;refine gofS q1 (by kernel_rfl) ?_;have e0:=Option.some.inj hm;subst e0;exact AN hd (by kernel_rfl)
def Ig (a0:Bool):Option g_api_Item:=Ae (if a0=true then Ae (idx ([0]:List UInt8) 0) fun x2=>bnd (([0]:List UInt8).set (0:Int).toNat 255) fun x3=>some x3 else some ([0]:List UInt8)) fun x1=>some (⟨1,x1,[]⟩:g_api_Item)
theorem Rw {a0:Bool}{r:g_api_Item}(hm:Ig a0=some r):Sf prog 156 [.d (.t a0)] (ag (Aj r)):=
 sp call156 func156 rfl ntmps156 rfl fun D0 As η0 m0 hd=>by
  unfold Ig at hm;refine glit (k:=1) eB ([0]:List UInt8) (fun _=>rfl) (by kernel_rfl) ?_;obtain⟨x1,q1,hm⟩:=Aa hm;refine gj (fun(_:Unit)=>⟨[(2,.pb 0 0),(3,.ow 1)],[(0,.row 1 1 _ eB x1),(1,.box 0 [.d (.i 0),sl eB [],sl Aj []] 79)],[],2⟩) (fun _=>True) (by kernel_rfl) (fun Jp bk1=> ?_) fun _ _=> ?_
  ·refine gi q1 (by kernel_rfl) (fun hc1 q1=> ?_) fun hc1 q1=> ?_
   ·obtain⟨x2,q2,q1⟩:=Aa q1;refine P1 (E:=eB) (fun _=>q2) (by kernel_rfl) ?_;have q1:=AY q1;let x3:List UInt8:=(([0]:List UInt8).set (0:Int).toNat 255);refine gstO (k:=1) (E:=eB) 255 (fun _=>rfl) q2 (by kernel_rfl) ?_;have e0:=Option.some.inj q1;subst e0;exact gb bk1 hd () trivial (by kernel_rfl)
   have e0:=Option.some.inj q1;subst e0;exact gb bk1 hd () trivial (by kernel_rfl)
  have e0:=Option.some.inj hm;subst e0;exact AN hd (by kernel_rfl)
def AZ (i1:Int)(x3:ByteArray)(s1:(List g_api_Item)):Option ((List g_api_Item)):=Ae (Fv x3) fun x4=>Ae (app 56 s1 ([x4]:List g_api_Item)) fun x5=>some x5
def BG (a0:List ByteArray):Option g_api_Item:=Ae (Ae (E4 AZ a0 0 ([]:List g_api_Item)) fun x2=>some x2) fun x1=>Ae (DS x1) fun x6=>some x6
theorem Fh {a0:List ByteArray}{r:g_api_Item}(hm:BG a0=some r):Sf prog 155 [sl eS a0,.fn (.func 154) [] []] (ag (Aj r)):=
 sp call155 func155 rfl ntmps155 rfl fun D0 As η0 m0 hd=>by
  unfold BG at hm;obtain⟨x1,q1,hm⟩:=Aa hm;obtain⟨x2,q2,q1⟩:=Aa q1;refine YH 0 Aj 5 3 (by kernel_rfl) ?_;refine Lx 0 (E:=eS) (xs:=a0) 8 (by kernel_rfl) fun hle1=> ?_;refine gjU 0 (fun(_:Unit)=>⟨[(4,.pb 0 0),(5,.ow 1)],[(0,.row 1 3 _ Aj x1),(1,.box 0 [.d (.i 0),sl eB [],sl Aj []] 79)],[],2⟩) (fun _=>True) (by kernel_rfl) (fun Jp bk1=> ?_) fun _ _=> ?_
  ·refine gjU 0 (fun(_:Unit)=>⟨[(4,.pb 0 0),(5,.ow 1)],[(0,.row 1 3 _ Aj x2),(1,.box 0 [.d (.i 0),sl eB [],sl Aj []] 79)],[],2⟩) (fun _=>True) (by kernel_rfl) (fun Jp bk2=> ?_) fun _ _=> ?_
   ·refine gl hd (fun(p:Int×((List g_api_Item)))=>let (p0,p_0):=p; ⟨[(1,.fn (.func 154) [] []),(4,.pb 0 0),(5,.ow 1),(8,sl eS a0),(9,.d (.i (a0.length:Int))),(10,.d (.i p0))],[(0,.row 1 3 _ Aj p_0),(1,.box 0 [.d (.i 0),sl eB [],sl Aj []] 79)],[],2⟩) (fun p=> ∃i:Nat,p.1=(i:Int)∧i≤a0.length∧E4 AZ (a0.drop i) (i:Int) p.2=some x2) (fun p=>a0.length-p.1.toNat) (0,([]:List g_api_Item)) ⟨0,rfl,Nat.zero_le _,q2⟩ (by kernel_rfl) ?_;rintro⟨_,s1⟩ ⟨i1,rfl,hi,q3⟩ Jl bl1;refine gi' (b:=decide ((i1:Int)<(a0.length:Int))) (by kernel_rfl) (fun hc1=> ?_) fun hc1=> ?_
    ·have hlt1:i1<a0.length:=by have:=of_decide_eq_true hc1; omega
     obtain⟨x3,y1,q6,q5,q4⟩:=Ik q3 hlt1;unfold AZ at q5;refine Hf (k:=1) (E:=eS) (fun _=>rfl) (fun _=>q6) (by kernel_rfl) ?_;obtain⟨x4,q7,q5⟩:=Aa q5;refine gc (fun _=>Jv q7) (by kernel_rfl) ?_;refine F3 (k:=3) Aj ([x4]:List g_api_Item) (fun _=>rfl) (by kernel_rfl) ?_;obtain⟨x5,q8,q5⟩:=Aa q5;refine RO (k:=3) (E:=Aj) (fun _=>rfl) q8 (by kernel_rfl) ?_;have e0:=Option.some.inj q5;subst e0;exact gb bl1 hd (w64 ((i1:Int)+1),x5) ⟨⟨i1+1,A5 hlt1 hle1,by omega,q4⟩,F8 hlt1 hle1⟩ (by kernel_rfl)
    have hlt1: ¬i1<a0.length:=by have:=of_decide_eq_false hc1; omega
    have e:=Eq.symm (Hg q3 hlt1);subst e;exact gb bk2 hd () trivial (by kernel_rfl)
   have e0:=Option.some.inj q1;subst e0;exact gb bk1 hd () trivial (by kernel_rfl)
  obtain⟨x6,q9,hm⟩:=Aa hm;refine gco (Gp q9) (by kernel_rfl) ?_;have e0:=Option.some.inj hm;subst e0;exact AN hd (by kernel_rfl)
def He (a0:g_api_Cert):Option g_api_Item:=Ae (Dr a0.Serial) fun x1=>Ae (Fv a0.Issuer) fun x2=>Ae (Fv a0.Subject) fun x3=>Ae (C3 a0.Key) fun x4=>Ae (BG a0.Names) fun x5=>Ae (Dr a0.From) fun x6=>Ae (Dr a0.Until) fun x7=>Ae (Ig a0.Ca) fun x8=>Ae (Dr a0.Depth) fun x9=>Ae (BG a0.Permit) fun x10=>Ae (DS ([x1,x2,x3,x4,x5,x6,x7,x8,x9,x10]:List g_api_Item)) fun x11=>some x11
theorem Rx {a0:g_api_Cert}{r:g_api_Item}(hm:He a0=some r):Sf prog 103 [ag (Ac a0)] (ag (Aj r)):=
 sp call103 func103 rfl ntmps103 rfl fun D0 As η0 m0 hd=>by
  unfold He at hm;obtain⟨x1,q1,hm⟩:=Aa hm;refine gc (fun _=>Gr q1) (by kernel_rfl) ?_;obtain⟨x2,q2,hm⟩:=Aa hm;refine gc (fun _=>Jv q2) (by kernel_rfl) ?_;obtain⟨x3,q3,hm⟩:=Aa hm;refine gc (fun _=>Jv q3) (by kernel_rfl) ?_;obtain⟨x4,q4,hm⟩:=Aa hm;refine gc (fun _=>Fl q4) (by kernel_rfl) ?_;obtain⟨x5,q5,hm⟩:=Aa hm;refine gc (fun _=>Fh q5) (by kernel_rfl) ?_;obtain⟨x6,q6,hm⟩:=Aa hm;refine gc (fun _=>Gr q6) (by kernel_rfl) ?_;obtain⟨x7,q7,hm⟩:=Aa hm;refine gc (fun _=>Gr q7) (by kernel_rfl) ?_;obtain⟨x8,q8,hm⟩:=Aa hm;refine gc (fun _=>Rw q8) (by kernel_rfl) ?_;obtain⟨x9,q9,hm⟩:=Aa hm;refine gc (fun _=>Gr q9) (by kernel_rfl) ?_;obtain⟨x10,q10,hm⟩:=Aa hm;refine gc (fun _=>Fh q10) (by kernel_rfl) ?_;refine F3 (k:=3) Aj ([x1,x2,x3,x4,x5,x6,x7,x8,x9,x10]:List g_api_Item) (fun _=>rfl) (by kernel_rfl) ?_;obtain⟨x11,q11,hm⟩:=Aa hm;refine gc (fun _=>Gp q11) (by kernel_rfl) ?_;have e0:=Option.some.inj hm;subst e0;exact AN hd (by kernel_rfl)
def E0 (a0:g_api_Promise):Option g_api_Item:=Ae (Dr a0.Log) fun x1=>Ae (Dr a0.At) fun x2=>Ae (C3 a0.Leaf.1) fun x3=>Ae (C3 a0.Leaf.2) fun x4=>Ae (C3 a0.Sig.E) fun x5=>Ae (C3 a0.Sig.S) fun x6=>Ae (DS ([x1,x2,x3,x4,x5,x6]:List g_api_Item)) fun x7=>some x7
theorem MV {a0:g_api_Promise}{r:g_api_Item}(hm:E0 a0=some r):Sf prog 105 [ag (Ai a0)] (ag (Aj r)):=
 sp call105 func105 rfl ntmps105 rfl fun D0 As η0 m0 hd=>by
  unfold E0 at hm;obtain⟨x1,q1,hm⟩:=Aa hm;refine gc (fun _=>Gr q1) (by kernel_rfl) ?_;obtain⟨x2,q2,hm⟩:=Aa hm;refine gc (fun _=>Gr q2) (by kernel_rfl) ?_;obtain⟨x3,q3,hm⟩:=Aa hm;refine gc (fun _=>Fl q3) (by kernel_rfl) ?_;obtain⟨x4,q4,hm⟩:=Aa hm;refine gc (fun _=>Fl q4) (by kernel_rfl) ?_;obtain⟨x5,q5,hm⟩:=Aa hm;refine gc (fun _=>Fl q5) (by kernel_rfl) ?_;obtain⟨x6,q6,hm⟩:=Aa hm;refine gc (fun _=>Fl q6) (by kernel_rfl) ?_;refine F3 (k:=3) Aj ([x1,x2,x3,x4,x5,x6]:List g_api_Item) (fun _=>rfl) (by kernel_rfl) ?_;obtain⟨x7,q7,hm⟩:=Aa hm;refine gc (fun _=>Gp q7) (by kernel_rfl) ?_;have e0:=Option.some.inj hm;subst e0;exact AN hd (by kernel_rfl)
def AH (i1:Int)(x3:g_api_Promise)(s1:(List g_api_Item)):Option ((List g_api_Item)):=Ae (E0 x3) fun x4=>Ae (app 56 s1 ([x4]:List g_api_Item)) fun x5=>some x5
def Bw (a0:List g_api_Promise):Option g_api_Item:=Ae (Ae (E4 AH a0 0 ([]:List g_api_Item)) fun x2=>some x2) fun x1=>Ae (DS x1) fun x6=>some x6
theorem Gq {a0:List g_api_Promise}{r:g_api_Item}(hm:Bw a0=some r):Sf prog 104 [sl Ai a0,.fn (.func 105) [] []] (ag (Aj r)):=
 sp call104 func104 rfl ntmps104 rfl fun D0 As η0 m0 hd=>by
  unfold Bw at hm;obtain⟨x1,q1,hm⟩:=Aa hm;obtain⟨x2,q2,q1⟩:=Aa q1;refine YH 0 Aj 5 3 (by kernel_rfl) ?_;refine Lx 0 (E:=Ai) (xs:=a0) 8 (by kernel_rfl) fun hle1=> ?_;refine gjU 0 (fun(_:Unit)=>⟨[(4,.pb 0 0),(5,.ow 1)],[(0,.row 1 3 _ Aj x1),(1,.box 0 [.d (.i 0),sl eB [],sl Aj []] 79)],[],2⟩) (fun _=>True) (by kernel_rfl) (fun Jp bk1=> ?_) fun _ _=> ?_
  ·refine gjU 0 (fun(_:Unit)=>⟨[(4,.pb 0 0),(5,.ow 1)],[(0,.row 1 3 _ Aj x2),(1,.box 0 [.d (.i 0),sl eB [],sl Aj []] 79)],[],2⟩) (fun _=>True) (by kernel_rfl) (fun Jp bk2=> ?_) fun _ _=> ?_
   ·refine gl hd (fun(p:Int×((List g_api_Item)))=>let (p0,p_0):=p; ⟨[(1,.fn (.func 105) [] []),(4,.pb 0 0),(5,.ow 1),(8,sl Ai a0),(9,.d (.i (a0.length:Int))),(10,.d (.i p0))],[(0,.row 1 3 _ Aj p_0),(1,.box 0 [.d (.i 0),sl eB [],sl Aj []] 79)],[],2⟩) (fun p=> ∃i:Nat,p.1=(i:Int)∧i≤a0.length∧E4 AH (a0.drop i) (i:Int) p.2=some x2) (fun p=>a0.length-p.1.toNat) (0,([]:List g_api_Item)) ⟨0,rfl,Nat.zero_le _,q2⟩ (by kernel_rfl) ?_;rintro⟨_,s1⟩ ⟨i1,rfl,hi,q3⟩ Jl bl1;refine gi' (b:=decide ((i1:Int)<(a0.length:Int))) (by kernel_rfl) (fun hc1=> ?_) fun hc1=> ?_
    ·have hlt1:i1<a0.length:=by have:=of_decide_eq_true hc1; omega
     obtain⟨x3,y1,q6,q5,q4⟩:=Ik q3 hlt1;unfold AH at q5;refine Hf (k:=6) (E:=Ai) (fun _=>rfl) (fun _=>q6) (by kernel_rfl) ?_;obtain⟨x4,q7,q5⟩:=Aa q5;refine gc (fun _=>MV q7) (by kernel_rfl) ?_;refine F3 (k:=3) Aj ([x4]:List g_api_Item) (fun _=>rfl) (by kernel_rfl) ?_;obtain⟨x5,q8,q5⟩:=Aa q5;refine RO (k:=3) (E:=Aj) (fun _=>rfl) q8 (by kernel_rfl) ?_;have e0:=Option.some.inj q5;subst e0;exact gb bl1 hd (w64 ((i1:Int)+1),x5) ⟨⟨i1+1,A5 hlt1 hle1,by omega,q4⟩,F8 hlt1 hle1⟩ (by kernel_rfl)
    have hlt1: ¬i1<a0.length:=by have:=of_decide_eq_false hc1; omega
    have e:=Eq.symm (Hg q3 hlt1);subst e;exact gb bk2 hd () trivial (by kernel_rfl)
   have e0:=Option.some.inj q1;subst e0;exact gb bk1 hd () trivial (by kernel_rfl)
  obtain⟨x6,q9,hm⟩:=Aa hm;refine gco (Gp q9) (by kernel_rfl) ?_;have e0:=Option.some.inj hm;subst e0;exact AN hd (by kernel_rfl)
def Fx (a0:g_api_Cert):Option g_api_Item:=Ae (He a0) fun x1=>Ae (Bw a0.Proms) fun x2=>Ae (DS ([x1,x2]:List g_api_Item)) fun x3=>some x3
theorem KG {a0:g_api_Cert}{r:g_api_Item}(hm:Fx a0=some r):Sf prog 59 [ag (Ac a0)] (ag (Aj r)):=
 sp call59 func59 rfl ntmps59 rfl fun D0 As η0 m0 hd=>by
  unfold Fx at hm;obtain⟨x1,q1,hm⟩:=Aa hm;refine gc (fun _=>Rx q1) (by kernel_rfl) ?_;obtain⟨x2,q2,hm⟩:=Aa hm;refine gc (fun _=>Gq q2) (by kernel_rfl) ?_;refine F3 (k:=3) Aj ([x1,x2]:List g_api_Item) (fun _=>rfl) (by kernel_rfl) ?_;obtain⟨x3,q3,hm⟩:=Aa hm;refine gc (fun _=>Gp q3) (by kernel_rfl) ?_;have e0:=Option.some.inj hm;subst e0;exact AN hd (by kernel_rfl)
def FL (a0:g_api_Cert):Option g_api_Item:=Ae (Fx a0) fun x1=>Ae (C3 a0.Sig.E) fun x2=>Ae (C3 a0.Sig.S) fun x3=>Ae (DS ([x2,x3]:List g_api_Item)) fun x4=>Ae (DS ([x1,x4]:List g_api_Item)) fun x5=>some x5
theorem Og {a0:g_api_Cert}{r:g_api_Item}(hm:FL a0=some r):Sf prog 54 [ag (Ac a0)] (ag (Aj r)):=
 sp call54 func54 rfl ntmps54 rfl fun D0 As η0 m0 hd=>by
  unfold FL at hm;obtain⟨x1,q1,hm⟩:=Aa hm;refine gc (fun _=>KG q1) (by kernel_rfl) ?_;obtain⟨x2,q2,hm⟩:=Aa hm;refine gc (fun _=>Fl q2) (by kernel_rfl) ?_;obtain⟨x3,q3,hm⟩:=Aa hm;refine gc (fun _=>Fl q3) (by kernel_rfl) ?_;refine F3 (k:=3) Aj ([x2,x3]:List g_api_Item) (fun _=>rfl) (by kernel_rfl) ?_;obtain⟨x4,q4,hm⟩:=Aa hm;refine gc (fun _=>Gp q4) (by kernel_rfl) ?_;refine F3 (k:=3) Aj ([x1,x4]:List g_api_Item) (fun _=>rfl) (by kernel_rfl) ?_;obtain⟨x5,q5,hm⟩:=Aa hm;refine gc (fun _=>Gp q5) (by kernel_rfl) ?_;have e0:=Option.some.inj hm;subst e0;exact AN hd (by kernel_rfl)
def Dc (a0:g_api_Cert):Option Int:=Ae (EZ a0) fun x1=>if(!x1)=true then some 1 else Ae (FL a0) fun x2=>Ae (Gz x2) fun x3=>if((x3.2 !=0)||(decide ((x3.1.length:Int)>2048)))=true then some 2 else some 0
theorem HH {a0:g_api_Cert}{r:Int}(hm:Dc a0=some r):Sf prog 25 [ag (Ac a0)] (.d (.i r)):=
 sp call25 func25 rfl ntmps25 rfl fun D0 As η0 m0 hd=>by
  unfold Dc at hm;obtain⟨x1,q1,hm⟩:=Aa hm;refine gc (fun _=>MU q1) (by kernel_rfl) ?_;refine gi hm (by kernel_rfl) (fun hc1 hm=> ?_) fun hc1 hm=> ?_
  ·skip;have e0:=Option.some.inj hm;subst e0;exact AN hd (by kernel_rfl)
  obtain⟨x2,q2,hm⟩:=Aa hm;refine gc (fun _=>Og q2) (by kernel_rfl) ?_;obtain⟨x3,q3,hm⟩:=Aa hm;refine gco (Oc q3) (by kernel_rfl) ?_;refine gi hm (by kernel_rfl) (fun hc2 hm=> ?_) fun hc2 hm=> ?_
  ·skip;have e0:=Option.some.inj hm;subst e0;exact AN hd (by kernel_rfl)
  have e0:=Option.some.inj hm;subst e0;exact AN hd (by kernel_rfl)
def Eo (a0:g_api_Cert):Option ((List UInt8)×Int):=Ae (Dc a0) fun x1=>if(x1 !=0)=true then some (([]:List UInt8),x1)else Ae (Fx a0) fun x2=>Ae (Gz x2) fun x3=>some (x3.1,x3.2)
theorem J3 {a0:g_api_Cert}{r:(List UInt8)×Int}(hm:Eo a0=some r):Sp prog 58 [ag (Ac a0),.fn (.func 59) [] []] [] 0 (is (.tup [.ow 0,.d (.i r.2)]) [.row 0 1 _ eB r.1] 1):=
 sp call58 func58 rfl ntmps58 rfl fun D0 As η0 m0 hd=>by
  unfold Eo at hm;obtain⟨x1,q1,hm⟩:=Aa hm;refine gc (fun _=>HH q1) (by kernel_rfl) ?_;refine gi hm (by kernel_rfl) (fun hc1 hm=> ?_) fun hc1 hm=> ?_
  ·skip;refine gnil eB 4 1 (by kernel_rfl) ?_;have e0:=Option.some.inj hm;subst e0;exact AN hd (by kernel_rfl)
  obtain⟨x2,q2,hm⟩:=Aa hm;refine gc (fun _=>KG q2) (by kernel_rfl) ?_;obtain⟨x3,q3,hm⟩:=Aa hm;refine gco (Oc q3) (by kernel_rfl) ?_;have e0:=Option.some.inj hm;subst e0;exact AN hd (by kernel_rfl)
def Fy (a0:g_api_Cert):Option ((List UInt8)×Int):=Ae (Eo a0) fun x1=>some (x1.1,x1.2)
theorem KI {a0:g_api_Cert}{r:(List UInt8)×Int}(hm:Fy a0=some r):Sp prog 28 [ag (Ac a0)] [] 0 (is (.tup [.ow 0,.d (.i r.2)]) [.row 0 1 _ eB r.1] 1):=
 sp call28 func28 rfl ntmps28 rfl fun D0 As η0 m0 hd=>by
  unfold Fy at hm;obtain⟨x1,q1,hm⟩:=Aa hm;refine gco (J3 q1) (by kernel_rfl) ?_;have e0:=Option.some.inj hm;subst e0;exact AN hd (by kernel_rfl)
def DY (a0:UInt64):Option Int:=Ae (if(decide ((a0.toNat:Int)≥4294967296))=true then some ((Dt a0 32),32)else some (a0,0)) fun x1=>Ae (if(decide ((x1.1.toNat:Int)≥65536))=true then some ((Dt x1.1 16),(w64 (x1.2+16)))else some (x1.1,x1.2)) fun x2=>Ae (if(decide ((x2.1.toNat:Int)≥256))=true then some ((Dt x2.1 8),(w64 (x2.2+8)))else some (x2.1,x2.2)) fun x3=>Ae (idx str_0.data.toList ((toB (x3.1.toNat:Int)).toNat:Int)) fun x4=>bnd ((w64 (x3.2+(w64 (x4.toNat:Int))))) fun x5=>some x5
theorem JQ {a0:UInt64}{r:Int}(hm:DY a0=some r):Sf prog 197 [.d (.u a0)] (.d (.i r)):=
 sp call197 func197 rfl ntmps197 rfl fun D0 As η0 m0 hd=>by
  unfold DY at hm;obtain⟨x1,q1,hm⟩:=Aa hm;refine gj (fun(_:Unit)=>let (y_0,y_1):=x1; ⟨[(0,.d (.u y_0)),(2,.d (.i y_1))],[],[],0⟩) (fun _=>True) (by kernel_rfl) (fun Jp bk1=> ?_) fun _ _=> ?_
  ·refine gi q1 (by kernel_rfl) (fun hc1 q1=> ?_) fun hc1 q1=> ?_
   ·skip;have e0:=Option.some.inj q1;subst e0;exact gb bk1 hd () trivial (by kernel_rfl)
   have e0:=Option.some.inj q1;subst e0;exact gb bk1 hd () trivial (by kernel_rfl)
  obtain⟨x2,q2,hm⟩:=Aa hm;refine gj (fun(_:Unit)=>let (y_0,y_1):=x2; ⟨[(0,.d (.u y_0)),(2,.d (.i y_1))],[],[],0⟩) (fun _=>True) (by kernel_rfl) (fun Jp bk2=> ?_) fun _ _=> ?_
  ·refine gi q2 (by kernel_rfl) (fun hc2 q2=> ?_) fun hc2 q2=> ?_
   ·skip;have e0:=Option.some.inj q2;subst e0;exact gb bk2 hd () trivial (by kernel_rfl)
   have e0:=Option.some.inj q2;subst e0;exact gb bk2 hd () trivial (by kernel_rfl)
  obtain⟨x3,q3,hm⟩:=Aa hm;refine gj (fun(_:Unit)=>let (y_0,y_1):=x3; ⟨[(0,.d (.u y_0)),(2,.d (.i y_1))],[],[],0⟩) (fun _=>True) (by kernel_rfl) (fun Jp bk3=> ?_) fun _ _=> ?_
  ·refine gi q3 (by kernel_rfl) (fun hc3 q3=> ?_) fun hc3 q3=> ?_
   ·skip;have e0:=Option.some.inj q3;subst e0;exact gb bk3 hd () trivial (by kernel_rfl)
   have e0:=Option.some.inj q3;subst e0;exact gb bk3 hd () trivial (by kernel_rfl)
  obtain⟨x4,q4,hm⟩:=Aa hm;refine YJ (fun _=>q4) (by kernel_rfl) ?_;have hm:=AY hm;let x5:Int:=((w64 (x3.2+(w64 (x4.toNat:Int)))));have e0:=Option.some.inj hm;subst e0;exact AN hd (by kernel_rfl)
theorem Oj {m:Mem}{As:List Ow}{w:World}{a0:UInt64}{r:Int}(S:St m As w)(hm:DY a0=some r):
  AB prog 197 #[vU a0] w fun v w'=> ∃(M:Mem),m≤M∧St M (As) w'∧v=vI r:=by
 refine AB.mono ((JQ hm).2 none0 m As w [vU a0] (.cons (.d (.u _)) .nil) (fun n h=>absurd rfl h) S) ?_;rintro v w' ⟨M,η',r',obs',n1,hle,_,⟨rfl,rfl,rfl⟩,hdom,hR,S'⟩;obtain rfl:=hR.i_inv;exact⟨M,hle,S',rfl⟩
def BD {σ:Type}(p0:σ→Bool→Option (Bool×σ))(k0:UInt64)(s1:Int×σ):Option ((Int×σ)⊕((σ)⊕(UInt64×σ))):=if(decide (s1.1≥0))=true then if(0:Int)≤s1.1 then Ae (p0 s1.2 (((k0&&&(F5 1 s1.1.toNat)).toNat:Int) !=0)) fun x4=>if(!x4.1)=true then some (.inr (.inr (k0,x4.2)))else some (.inl ((w64 (s1.1-1)),x4.2))else none else some (.inr (.inl s1.2))
def Ea {σ:Type}(p0:σ→Bool→Option (Bool×σ))(k0:UInt64)(s0:σ):Option (UInt64×σ):=Ae (DY k0) fun x1=>Ae (iter (BD p0 k0) C7 ((w64 (x1-1)),s0)) fun x2=>match x2 with| .inr r=>some r| .inl y1=>some (k0,y1)
theorem Jy {m:Mem}{As:List Ow}{w:World}{σ:Type}{R:σ→Mem→List Ow→Prop}{p0:σ→Bool→Option (Bool×σ)}{f0:Value}{kb0:Nat}{k0:UInt64}{s0:σ}{X0:List Ow}{r:UInt64×σ}(S:St m ((bx kb0 [vU k0] 22)::(X0++As)) w)(hup: ∀{s M M' X},M≤M'→R s M X→R s M' X)(hX0:R s0 m X0)(cb0: ∀{m':Mem} {As':List Ow} {w':World} {s:σ} {X:List Ow} {b0:Bool} {r:Bool×σ},St m' (X++As') w'→R s m' X→p0 s b0=some r→DJ Tryz.prog f0 [vb b0] w' fun v w''=> ∃(M:Mem) (X':List Ow),m'≤M∧St M (X'++As') w''∧R r.2 M X'∧v=vb r.1)(fc0:f0.cells= #[f0])(hm:Ea p0 k0 s0=some r):
  AB Tryz.prog 196 #[f0,pt kb0 0] w fun v w'=> ∃(M:Mem),m≤M∧∃(X:List Ow),St M ((bx kb0 [vU r.1] 22)::(X++As)) w'∧v= .tuple #[]∧R r.2 M X:=by
 unfold Ea at hm;have L0:=Mem.rfl' m;refine CD (args:=[f0,pt kb0 0]) Tryz.func196 rfl Tryz.ntmps196 (Nat.le_of_ble_eq_true rfl) ?_;refine Af ?_;refine Ad ?_;refine G9 (i:=0) (cs:=[vU k0]) S rfl rfl Tryz.isAgg22 Tryz.sizeOf22 rfl (fun _=>rfl) ?_;obtain⟨x1,q1,hm⟩:=Aa hm;refine CZ Tryz.call197 (Oj (a0:=k0) S q1) rfl ?_;rintro _ w1 ⟨m1,l1,S1,rfl⟩;replace hX0:=hup l1 hX0;replace L0:=Mem.tr L0 l1;clear S;replace S1:St _ ((bx kb0 [vU k0] 22)::(X0++As)) _:=S1;refine KU (m:=x1) (n:=1) rfl rfl ?_;refine Bg (v:=vI (w64 (x1-1))) rfl ?_;refine Ag ?_;refine nrm ?_;obtain⟨x2,q2,hm⟩:=Aa hm;have L1:=Mem.rfl' m1;refine J7 ?_;refine Bt [3,7,8,9,10,11,12,13,14,15,16,17,18] (fun f' w'=> ∃(M1:Mem) (y1:σ) (X2:List Ow),x2= .inl y1∧m1≤M1∧St M1 ((bx kb0 [vU k0] 22)::(X2++As)) w'∧R y1 M1 X2∧Cj f' []) ?_ ?_
 ·refine AD ?_;refine BV [3,7,8,9,10,11,12,13,14,15,16,17,18] (fun n1 f' w'=> ∃(s1:Int×σ) (m11:Mem) (X1:List Ow),iter (BD p0 k0) n1 s1=some x2∧m1≤m11∧St m11 ((bx kb0 [vU k0] 22)::(X1++As)) w'∧R s1.2 m11 X1∧Cj f' [(3,vI s1.1)]) C7 ⟨((w64 (x1-1)),s0),m1,_,q2,L1,S1,hX0,⟨rfl,trivial⟩⟩ ?_;rintro n1 f1 w2 ho ⟨s1,m2,X1,q3,L3,S2,h1,ha⟩;obtain⟨u1,rfl⟩:=B1 (N:=19) ho ha;clear ho ha;have L2:=Mem.rfl' m2;clear S1;cases n1 with
  |zero=>exact(Bx q3).elim
  |succ n1=>
   obtain⟨y2,q5,q4⟩:=Bh q3;unfold BD at q5;refine Af ?_;refine Af ?_;refine Ad ?_;refine Ar (v:=vI s1.1) rfl ?_;refine XC (m:=s1.1) (n:=0) rfl rfl ?_;refine Ag ?_;refine nrm ?_;refine Ch (t:=(decide (s1.1≥0))) rfl (fun hc1=> ?_) (fun hc1=> ?_)
   ·replace q5:=ifT hc1 q5;refine Bd ?_;refine nrm ?_;refine Af ?_;refine AD ?_;refine Af ?_;obtain⟨q7,q5⟩:=Cg q5;have HM:GH [(11,fv f0),(12,fv (vU k0)),(13,fv (vI s1.1)),(14,fv (vU (F5 1 s1.1.toNat))),(15,fv (vU (k0&&&(F5 1 s1.1.toNat)))),(16,fv (vb (((k0&&&(F5 1 s1.1.toNat)).toNat:Int) !=0)))]:=⟨mv,mv,mv,mv,mv,mv,trivial⟩;refine II HM 6 BW rfl rfl rfl [11,12,13,14,15,16] (fun L f M w=>St M ((bx kb0 [vU k0] 22)::(X1++As)) w) (St.drew S2 _) ?_ ?_
    ·refine⟨?_,?_,?_,?_,?_,?_,trivial⟩
     ·exact flp HM rfl [] (fun _ _=>trivial) (fun _ _ q=>Ar (v:=f0) rfl q) rfl
     ·exact flp HM rfl [] (fun _ _=>trivial) (fun _ S4 q=>G9 (i:=0) (cs:=[vU k0]) S4 rfl rfl Tryz.isAgg22 Tryz.sizeOf22 rfl (fun _=>rfl) q) rfl
     ·exact flp HM rfl [] (fun _ _=>trivial) (fun _ _ q=>Ar (v:=vI s1.1) rfl q) rfl
     ·exact flp HM rfl [(13,_)] (fun K _=>⟨K 2 rfl,trivial⟩) (fun _ _ q=>Sz (m:=1) (n:=s1.1) rfl rfl q7 q) rfl
     ·exact flp HM rfl [(12,_),(14,_)] (fun K _=>⟨K 1 rfl,K 3 rfl,trivial⟩) (fun _ _ q=>Wv (m:=k0) (n:=(F5 1 s1.1.toNat)) rfl rfl q) rfl
     ·exact flp HM rfl [(15,_)] (fun K _=>⟨K 4 rfl,trivial⟩) (fun _ _ q=>s_neq (m:=((k0&&&(F5 1 s1.1.toNat)).toNat:Int)) (n:=0) rfl rfl q) rfl
    intro L f8 w9 hall ⟨m9,L16,S9,K,hO⟩;have d0:L 0=true:=hall 0 (by decide);have e5:=K 0 d0;have d5:L 5=true:=hall 5 (by decide);have e6:=K 5 d5;obtain⟨u8,rfl⟩:=B1 (N:=19) (L:=[(11,f0),(16,vb (((k0&&&(F5 1 s1.1.toNat)).toNat:Int) !=0))]) hO ⟨e5,e6,trivial⟩;replace S9:St _ ((bx kb0 [vU k0] 22)::(X1++As)) _:=S9;replace h1:=hup L16 h1;replace L2:=Mem.tr L2 L16;clear S2;obtain⟨x4,q8,q5⟩:=Aa q5;have S10:=St.absF (L:=[bx kb0 [vU k0] 22]) (X:=X1) (As:=As) S9;refine FX rfl (cb0 S10 h1 q8) rfl ?_;rintro _ w10 ⟨m10,X3,l2,S11,h3,rfl⟩;replace S11:=St.absF (L:=X3) (X:=[bx kb0 [vU k0] 22]) (As:=As) S11;clear S10;replace L2:=Mem.tr L2 l2;replace S11:St _ ((bx kb0 [vU k0] 22)::(X3++As)) _:=S11;clear S9;refine Pv rfl ?_;refine Ag ?_;refine nrm ?_;refine Ch (t:=(!x4.1)) rfl (fun hc2=> ?_) (fun hc2=> ?_)
    ·replace q5:=ifT hc2 q5;refine Bp ?_;refine blR ?_;refine thR ?_;refine thR ?_;refine blR ?_;refine thR ?_;refine DL ?_;intro we hpd;replace S11:=St.pd S11 hpd;cases q5;rcases q4 with ⟨sn,e,_⟩|e
     ·cases e
     cases e;dsimp only at hm;have e0:=Option.some.inj hm;subst e0;exact Hh [] rfl trivial ⟨_,(Mem.tr L0 (Mem.tr L3 L2)),_,S11,rfl,h3⟩
    replace q5:=ifF hc2 q5;refine Bd ?_;refine Kf ?_;refine nrm ?_;refine Ad ?_;refine Ar (v:=vI s1.1) rfl ?_;refine KU (m:=s1.1) (n:=1) rfl rfl ?_;refine Bg (v:=vI (w64 (s1.1-1))) rfl ?_;refine Ag ?_;refine nrm ?_;have e0:=Option.some.inj q5;subst e0;rcases q4 with ⟨sn,e,q4'⟩|e
    ·cases e;exact⟨FC,_,Nat.lt_succ_self _,⟨_,m10,_,q4',Mem.tr L3 L2,S11,h3,⟨rfl,trivial⟩⟩⟩
    ·cases e
   replace q5:=ifF hc1 q5;refine CX ?_;refine thE ?_;refine thE ?_;refine exB ?_;refine nrm ?_;have e0:=Option.some.inj q5;subst e0;rcases q4 with ⟨sn,e,_⟩|e
   ·cases e
   ·cases e;exact⟨FC,m2,_,_,rfl,Mem.tr L3 L2,S2,h1,trivial⟩
 rintro f9 w11 ho ⟨m12,y1,X2,rfl,l3,S12,h2,ha⟩;obtain⟨u9,rfl⟩:=B1 (N:=19) ho ha;clear ho ha;dsimp only at hm;replace L0:=Mem.tr L0 l3;clear S1;refine RJ ?_;intro we hpd;replace S12:=St.pd S12 hpd;have e0:=Option.some.inj hm;subst e0;exact Hh [] rfl trivial ⟨_,L0,_,S12,rfl,h2⟩
def EY (a0:UInt64):Option UInt64:=some a0
theorem KB {m:Mem}{As:List Ow}{w:World}{a0:UInt64}{r:UInt64}(S:St m (As) w)(hm:EY a0=some r):
  AB Tryz.prog 159 #[vU a0] w fun v w'=> ∃(M:Mem),m≤M∧∃(rk0_0:Nat),St M ((bx rk0_0 [vU r] 22)::As) w'∧v= .func (.func 196) #[] #[pt rk0_0 0]:=by
 unfold EY at hm;have L0:=Mem.rfl' m;refine CD (args:=[vU a0]) Tryz.func159 rfl Tryz.ntmps159 (Nat.le_of_ble_eq_true rfl) ?_;refine Af ?_;refine Ad ?_;refine J5 S rfl ?_;intro b1 w1 S1;replace S1:St _ ((bx b1 [vU a0] 22)::As) _:=S1;clear S;refine Bg (v:= .nilFunc) rfl ?_;refine Ag ?_;refine nrm ?_;refine Af ?_;refine Ad ?_;refine JC (caps:=[pt b1 0]) rfl ?_;refine Bg (v:= .func (.func 196) #[] #[pt b1 0]) rfl ?_;refine Ag ?_;refine nrm ?_;refine Bp ?_;refine DL ?_;intro we hpd;replace S1:=St.pd S1 hpd;have e0:=Option.some.inj hm;subst e0;exact Hh [_] rfl ⟨rfl,trivial⟩ ⟨_,L0,_,S1,rfl⟩
def B0 {σ:Type}(p0:σ→UInt64→UInt64→Option (UInt64×σ))(a1:UInt64)(b6:Bool)(s1:UInt64×σ):Option (UInt64×σ):=Ae (p0 ((s1).2) ((s1).1) ((s1).1)) fun x3=>if b6=true then Ae (p0 x3.2 x3.1 a1) fun x4=>some (x4.1,x4.2)else some (x3.1,x3.2)
def Em {σ:Type}(p0:σ→UInt64→UInt64→Option (UInt64×σ))(a1:UInt64)(a2:UInt64)(s0:σ):Option (UInt64×σ):=Ae (EY a2) fun x1=>Ae (Ea (fun(s:UInt64×σ) (b0:Bool)=>Ae (B0 p0 a1 b0 s) fun y=>some (true,y)) x1 (1,s0)) fun x2=>some (x2.2.1,x2.2.2)
theorem LA {m:Mem}{As:List Ow}{w:World}{σ:Type}{R:σ→Mem→List Ow→Prop}{p0:σ→UInt64→UInt64→Option (UInt64×σ)}{f0:Value}{a1:UInt64}{a2:UInt64}{s0:σ}{X0:List Ow}{r:UInt64×σ}(S:St m ((X0++As)) w)(hup: ∀{s M M' X},M≤M'→R s M X→R s M' X)(hX0:R s0 m X0)(cb0: ∀{m':Mem} {As':List Ow} {w':World} {s:σ} {X:List Ow} {b0:UInt64} {b1:UInt64} {r:UInt64×σ},St m' (X++As') w'→R s m' X→p0 s b0 b1=some r→DJ Tryz.prog f0 [vU b0,vU b1] w' fun v w''=> ∃(M:Mem) (X':List Ow),m'≤M∧St M (X'++As') w''∧R r.2 M X'∧v=vU r.1)(fc0:f0.cells= #[f0])(hm:Em p0 a1 a2 s0=some r):
  AB Tryz.prog 108 #[f0,vU a1,vU a2] w fun v w'=> ∃(M:Mem),m≤M∧∃(X:List Ow),St M ((X++As)) w'∧v=vU r.1∧R r.2 M X:=by
 unfold Em at hm;have L0:=Mem.rfl' m;refine CD (args:=[f0,vU a1,vU a2]) Tryz.func108 rfl Tryz.ntmps108 (Nat.le_of_ble_eq_true rfl) ?_;refine Af ?_;refine Ad ?_;refine Wu S rfl fc0 ?_;intro b1 w1 S1;replace S1:St _ ((bx b1 [f0] 91)::(X0++As)) _:=S1;clear S;refine J5 S1 rfl ?_;intro b2 w2 S2;replace S2:St _ ((bx b2 [vU a1] 22)::(bx b1 [f0] 91)::(X0++As)) _:=S2;clear S1;refine Bg (v:=vU 0) rfl ?_;refine Ag ?_;refine nrm ?_;refine Af ?_;refine Ad ?_;refine EM S2 Tryz.zeroValue22 ?_;intro b3 w3 S3;replace S3:St _ ((bx b3 [vU 0] 22)::(bx b2 [vU a1] 22)::(bx b1 [f0] 91)::(X0++As)) _:=S3;clear S2;refine Hl (i:=0) S3 rfl rfl rfl Tryz.sizeOf22 (Ic rfl KY) rfl ?_;intro w4 S4;replace S4:St _ ((bx b3 [vU 1] 22)::(bx b2 [vU a1] 22)::(bx b1 [f0] 91)::(X0++As)) _:=S4;clear S3;refine Ag ?_;refine nrm ?_;refine Af ?_;refine Af ?_;refine Ad ?_;refine Ar (v:=vU a2) rfl ?_;obtain⟨x1,q1,hm⟩:=Aa hm;refine CZ Tryz.call159 (KB (a0:=a2) S4 q1) rfl ?_;rintro _ w5 ⟨m1,l1,b4,S5,rfl⟩;replace hX0:=hup l1 hX0;replace L0:=Mem.tr L0 l1;clear S4;replace S5:St _ ((bx b4 [vU x1] 22)::(bx b3 [vU 1] 22)::(bx b2 [vU a1] 22)::(bx b1 [f0] 91)::(X0++As)) _:=S5;refine Ag ?_;refine nrm ?_;refine AD ?_;obtain⟨x2,q2,hm⟩:=Aa hm;refine EH S5 rfl Tryz.call196 ?_;intro lp1 rip2 w6 h1 S6;replace S6:St _ ((Lp lp1 rip2 .ready none)::(bx b4 [vU x1] 22)::(bx b3 [vU 1] 22)::(bx b2 [vU a1] 22)::(bx b1 [f0] 91)::(X0++As)) _:=S6;clear S5;have S7:St _ ((bx b4 [vU x1] 22)::(Lp lp1 rip2 .ready none)::(bx b3 [vU 1] 22)::(bx b2 [vU a1] 22)::(bx b1 [f0] 91)::(X0++As)) _:=St.perm S6 (List.Perm.swap _ _ _);clear S6;have hcb1: ∀{m':Mem} {As':List Ow} {w':World} {s:UInt64×σ} {X:List Ow} {b0:Bool} {r:Bool×(UInt64×σ)},St m' (X++As') w'→(∃(X2:List Ow),m1≤m'∧X=Lp lp1 rip2 .ready none::(bx b3 [vU ((s).1)] 22)::(bx b2 [vU a1] 22)::(bx b1 [f0] 91)::X2∧R ((s).2) m' X2)→(fun(s:UInt64×σ) (b0:Bool)=>Ae (B0 p0 a1 b0 s) fun y=>some (true,y)) s b0=some r→DJ Tryz.prog (.func (.yield lp1) #[] #[]) [vb b0] w' fun v w''=> ∃(M:Mem) (X':List Ow),m'≤M∧St M (X'++As') w''∧(∃(X2:List Ow),m1≤M∧X'=Lp lp1 rip2 .ready none::(bx b3 [vU ((r.2).1)] 22)::(bx b2 [vU a1] 22)::(bx b1 [f0] 91)::X2∧R ((r.2).2) M X2)∧v=vb r.1:=by
  intro m2 As1 w7 s1 X3 b6 r1 S8 h4 hm1;obtain⟨X4,L2,rfl,h5⟩:=h4;obtain⟨y1,q3,hm1⟩:=Aa hm1;cases hm1;unfold B0 at q3;replace S8:St _ ((Lp lp1 rip2 .ready none)::(bx b3 [vU ((s1).1)] 22)::(bx b2 [vU a1] 22)::(bx b1 [f0] 91)::(X4++As1)) _:=S8;have L1:=Mem.rfl' m2;refine DJ.round h1 rfl S8 ?_;refine Ad ?_;refine Bg (v:=vb b6) rfl ?_;refine Ag ?_;refine nrm ?_;refine⟨_,_,S8,?_⟩;intro w8 S9;clear S8;replace S9:St _ ((Lp lp1 rip2 .busy none)::(bx b3 [vU ((s1).1)] 22)::(bx b2 [vU a1] 22)::(bx b1 [f0] 91)::(X4++As1)) _:=S9;refine AD ?_;refine Af ?_;refine Ad ?_;refine G9 (i:=3) (cs:=[f0]) S9 rfl rfl Tryz.isAgg91 Tryz.sizeOf91 rfl (fun _=>rfl) ?_;refine G9 (i:=1) (cs:=[vU ((s1).1)]) S9 rfl rfl Tryz.isAgg22 Tryz.sizeOf22 rfl (fun _=>rfl) ?_;refine G9 (i:=1) (cs:=[vU ((s1).1)]) S9 rfl rfl Tryz.isAgg22 Tryz.sizeOf22 rfl (fun _=>rfl) ?_;obtain⟨x3,q4,q3⟩:=Aa q3;have S10:=St.absF (L:=[Lp lp1 rip2 .busy none,bx b3 [vU ((s1).1)] 22,bx b2 [vU a1] 22,bx b1 [f0] 91]) (X:=X4) (As:=As1) S9;refine FX rfl (cb0 S10 h5 q4) rfl ?_;rintro _ w9 ⟨m3,X5,l2,S11,h6,rfl⟩;replace S11:=St.absF (L:=X5) (X:=[Lp lp1 rip2 .busy none,bx b3 [vU ((s1).1)] 22,bx b2 [vU a1] 22,bx b1 [f0] 91]) (As:=As1) S11;clear S10;replace L1:=Mem.tr L1 l2;replace S11:St _ ((Lp lp1 rip2 .busy none)::(bx b3 [vU ((s1).1)] 22)::(bx b2 [vU a1] 22)::(bx b1 [f0] 91)::(X5++As1)) _:=S11;clear S9;refine Hl (i:=1) S11 rfl rfl rfl Tryz.sizeOf22 (Ic rfl KY) rfl ?_;intro w10 S12;replace S12:St _ ((Lp lp1 rip2 .busy none)::(bx b3 [vU x3.1] 22)::(bx b2 [vU a1] 22)::(bx b1 [f0] 91)::(X5++As1)) _:=S12;clear S11;refine Ag ?_;refine nrm ?_;refine Af ?_;refine Ad ?_;refine Ar (v:=vb b6) rfl ?_;refine Ag ?_;refine nrm ?_;refine Ch (t:=b6) rfl (fun hc1=> ?_) (fun hc1=> ?_)
  ·replace q3:=ifT hc1 q3;refine Ad ?_;refine G9 (i:=3) (cs:=[f0]) S12 rfl rfl Tryz.isAgg91 Tryz.sizeOf91 rfl (fun _=>rfl) ?_;refine G9 (i:=1) (cs:=[vU x3.1]) S12 rfl rfl Tryz.isAgg22 Tryz.sizeOf22 rfl (fun _=>rfl) ?_;refine G9 (i:=2) (cs:=[vU a1]) S12 rfl rfl Tryz.isAgg22 Tryz.sizeOf22 rfl (fun _=>rfl) ?_;obtain⟨x4,q5,q3⟩:=Aa q3;have S13:=St.absF (L:=[Lp lp1 rip2 .busy none,bx b3 [vU x3.1] 22,bx b2 [vU a1] 22,bx b1 [f0] 91]) (X:=X5) (As:=As1) S12;refine FX rfl (cb0 S13 h6 q5) rfl ?_;rintro _ w11 ⟨m4,X6,l3,S14,h7,rfl⟩;replace S14:=St.absF (L:=X6) (X:=[Lp lp1 rip2 .busy none,bx b3 [vU x3.1] 22,bx b2 [vU a1] 22,bx b1 [f0] 91]) (As:=As1) S14;clear S13;replace L1:=Mem.tr L1 l3;replace S14:St _ ((Lp lp1 rip2 .busy none)::(bx b3 [vU x3.1] 22)::(bx b2 [vU a1] 22)::(bx b1 [f0] 91)::(X6++As1)) _:=S14;clear S12;refine Hl (i:=1) S14 rfl rfl rfl Tryz.sizeOf22 (Ic rfl KY) rfl ?_;intro w12 S15;replace S15:St _ ((Lp lp1 rip2 .busy none)::(bx b3 [vU x4.1] 22)::(bx b2 [vU a1] 22)::(bx b1 [f0] 91)::(X6++As1)) _:=S15;clear S14;refine Ag ?_;refine Kf ?_;refine⟨_,_,S15,?_⟩;intro w13 S16;have e0:=Option.some.inj q3;subst e0;exact⟨_,Lp lp1 rip2 .ready none::(bx b3 [vU x4.1] 22)::(bx b2 [vU a1] 22)::(bx b1 [f0] 91)::X6,L1,S16,⟨_,Mem.tr L2 L1,rfl,h7⟩,rfl⟩
  replace q3:=ifF hc1 q3;refine Bd ?_;refine Kf ?_;refine⟨_,_,S12,?_⟩;intro w14 S17;have e0:=Option.some.inj q3;subst e0;exact⟨_,Lp lp1 rip2 .ready none::(bx b3 [vU x3.1] 22)::(bx b2 [vU a1] 22)::(bx b1 [f0] 91)::X5,L1,S17,⟨_,Mem.tr L2 L1,rfl,h6⟩,rfl⟩
 refine AB.mono (Jy (p0:=(fun(s:UInt64×σ) (b0:Bool)=>Ae (B0 p0 a1 b0 s) fun y=>some (true,y))) (k0:=x1) (s0:=(1,s0)) (R:=(fun(s:UInt64×σ) (M:Mem) (X:List Ow)=>(∃(X2:List Ow),m1≤M∧X=Lp lp1 rip2 .ready none::(bx b3 [vU ((s).1)] 22)::(bx b2 [vU a1] 22)::(bx b1 [f0] 91)::X2∧R ((s).2) M X2))) (X0:=((Lp lp1 rip2 .ready none)::(bx b3 [vU 1] 22)::(bx b2 [vU a1] 22)::(bx b1 [f0] 91)::X0)) (As:=As) S7 (fun l h=>by obtain⟨X2,Lm,e,h3⟩:=h; exact⟨_,Mem.tr Lm l,e,hup l h3⟩) ⟨_,Mem.rfl' _,rfl,hX0⟩ @hcb1 rfl q2) ?_;rintro _ w15 ⟨m5,l4,X7,S18,rfl,⟨X8,L3,rfl,h8⟩⟩;replace S18:St _ ((bx b4 [vU x2.1] 22)::(Lp lp1 rip2 .ready none)::(bx b3 [vU x2.2.1] 22)::(bx b2 [vU a1] 22)::(bx b1 [f0] 91)::(X8++As)) _:=S18;have S19:St _ ((Lp lp1 rip2 .ready none)::(bx b4 [vU x2.1] 22)::(bx b3 [vU x2.2.1] 22)::(bx b2 [vU a1] 22)::(bx b1 [f0] 91)::(X8++As)) _:=St.perm S18 (List.Perm.swap _ _ _);clear S18;refine⟨_,.ready,none,_,l4,(fun h=>by cases h),S19,?_⟩;intro m6 w16 l5 S20;have l6:=Mem.tr l4 l5;replace h8:=hup l5 h8;replace L0:=Mem.tr L0 l6;replace S20:St _ ((bx b4 [vU x2.1] 22)::(bx b3 [vU x2.2.1] 22)::(bx b2 [vU a1] 22)::(bx b1 [f0] 91)::(X8++As)) _:=S20;refine Kf ?_;refine nrm ?_;refine Af ?_;refine Ad ?_;refine G9 (i:=1) (cs:=[vU x2.2.1]) S20 rfl rfl Tryz.isAgg22 Tryz.sizeOf22 rfl (fun _=>rfl) ?_;refine Bg (v:=vU x2.2.1) rfl ?_;refine Ag ?_;refine nrm ?_;refine Bp ?_;refine DL ?_;intro we hpd;replace S20:=St.pd S20 hpd;obtain⟨m7,l7,S21⟩:=St.drop S20 0;replace h8:=hup l7 h8;replace L0:=Mem.tr L0 l7;clear S20;replace S21:St _ ((bx b3 [vU x2.2.1] 22)::(bx b2 [vU a1] 22)::(bx b1 [f0] 91)::(X8++As)) _:=S21;obtain⟨m8,l8,S22⟩:=St.drop S21 0;replace h8:=hup l8 h8;replace L0:=Mem.tr L0 l8;clear S21;replace S22:St _ ((bx b2 [vU a1] 22)::(bx b1 [f0] 91)::(X8++As)) _:=S22;obtain⟨m9,l9,S23⟩:=St.drop S22 0;replace h8:=hup l9 h8;replace L0:=Mem.tr L0 l9;clear S22;replace S23:St _ ((bx b1 [f0] 91)::(X8++As)) _:=S23;obtain⟨m10,l10,S24⟩:=St.drop S23 0;replace h8:=hup l10 h8;replace L0:=Mem.tr L0 l10;clear S23;replace S24:St _ ((X8++As)) _:=S24;have e0:=Option.some.inj hm;subst e0;exact Hh [_] rfl ⟨rfl,trivial⟩ ⟨_,L0,_,S24,rfl,h8⟩
def DX (a0:UInt64)(a1:UInt64):Option (UInt64×UInt64):=bnd (((a0&&&4294967295)*(a1&&&4294967295))) fun x1=>bnd ((((Dt a0 32)*(a1&&&4294967295))+(Dt x1 32))) fun x2=>bnd (((x2&&&4294967295)+((a0&&&4294967295)*(Dt a1 32)))) fun x3=>bnd (((((Dt a0 32)*(Dt a1 32))+(Dt x2 32))+(Dt x3 32))) fun x4=>some (x4,(a0*a1))
theorem HI {a0:UInt64}{a1:UInt64}{r:UInt64×UInt64}(hm:DX a0 a1=some r):Sf prog 160 [.d (.u a0),.d (.u a1)] (.tup [.d (.u r.1),.d (.u r.2)]):=
 sp call160 func160 rfl ntmps160 rfl fun D0 As η0 m0 hd=>by
  unfold DX at hm;have hm:=AY hm;let x1:UInt64:=(((a0&&&4294967295)*(a1&&&4294967295)));have hm:=AY hm;let x2:UInt64:=((((Dt a0 32)*(a1&&&4294967295))+(Dt x1 32)));have hm:=AY hm;let x3:UInt64:=(((x2&&&4294967295)+((a0&&&4294967295)*(Dt a1 32))));have hm:=AY hm;let x4:UInt64:=(((((Dt a0 32)*(Dt a1 32))+(Dt x2 32))+(Dt x3 32)));have e0:=Option.some.inj hm;subst e0;exact AN hd (by kernel_rfl)
theorem Oi {m:Mem}{As:List Ow}{w:World}{a0:UInt64}{a1:UInt64}{r:UInt64×UInt64}(S:St m As w)(hm:DX a0 a1=some r):
  AB prog 160 #[vU a0,vU a1] w fun v w'=> ∃(M:Mem),m≤M∧St M (As) w'∧v= .tuple #[vU r.1,vU r.2]:=by
 refine AB.mono ((HI hm).2 none0 m As w [vU a0,vU a1] (.cons (.d (.u _)) (.cons (.d (.u _)) .nil)) (fun n h=>absurd rfl h) S) ?_;rintro v w' ⟨M,η',r',obs',n1,hle,_,⟨rfl,rfl,rfl⟩,hdom,hR,S'⟩;obtain⟨us,rfl,hR0⟩:=hR.tup_inv;obtain⟨v0,u0,rfl,q0,hR1⟩:=Bo.cons_inv hR0;obtain⟨v1,u1,rfl,q1,hR2⟩:=Bo.cons_inv hR1;obtain rfl:=Bo.nil_inv hR2;obtain rfl:=q0.u_inv;obtain rfl:=q1.u_inv;exact⟨M,hle,S',rfl⟩
def B6 (a0:UInt64):Option Int:=Ae (DY a0) fun x1=>some (w64 (64-x1))
theorem HJ {a0:UInt64}{r:Int}(hm:B6 a0=some r):Sf prog 198 [.d (.u a0)] (.d (.i r)):=
 sp call198 func198 rfl ntmps198 rfl fun D0 As η0 m0 hd=>by
  unfold B6 at hm;obtain⟨x1,q1,hm⟩:=Aa hm;refine gc (fun _=>JQ q1) (by kernel_rfl) ?_;have e0:=Option.some.inj hm;subst e0;exact AN hd (by kernel_rfl)
def Cw (x4:UInt64)(x5:UInt64)(x7:UInt64)(s1:UInt64×UInt64):Option ((UInt64×UInt64)⊕(UInt64)):=if((decide ((s1.1.toNat:Int)≥4294967296))||(decide (((s1.1*x5).toNat:Int)>(((4294967296*s1.2)+x7).toNat:Int))))=true then if(decide (((s1.2+x4).toNat:Int)≥4294967296))=true then some (.inr (s1.1-1))else some (.inl ((s1.1-1),(s1.2+x4)))else some (.inr s1.1)
def Cv (x4:UInt64)(x5:UInt64)(x8:UInt64)(s2:UInt64×UInt64):Option ((UInt64×UInt64)⊕(UInt64)):=if((decide ((s2.2.toNat:Int)≥4294967296))||(decide (((s2.2*x5).toNat:Int)>(((4294967296*s2.1)+x8).toNat:Int))))=true then if(decide (((s2.1+x4).toNat:Int)≥4294967296))=true then some (.inr (s2.2-1))else some (.inl ((s2.1+x4),(s2.2-1)))else some (.inr s2.2)
def EC (a0:UInt64)(a1:UInt64)(a2:UInt64):Option (UInt64×UInt64):=Ae (if((a2.toNat:Int)==0)=true then none else some ()) fun x1=>Ae (if(decide ((a2.toNat:Int)≤(a0.toNat:Int)))=true then none else some ()) fun x2=>if((a0.toNat:Int)==0)=true then if a2≠0 then if a2≠0 then some ((a1/a2),(a1%a2))else none else none else Ae (B6 a2) fun x3=>bnd ((Dt (F5 a2 ((toU x3).toNat)) 32)) fun x4=>bnd (((F5 a2 ((toU x3).toNat))&&&4294967295)) fun x5=>bnd (((F5 a0 ((toU x3).toNat))|||(Dt a1 ((64-(toU x3)).toNat)))) fun x6=>bnd ((Dt (F5 a1 ((toU x3).toNat)) 32)) fun x7=>bnd (((F5 a1 ((toU x3).toNat))&&&4294967295)) fun x8=>if x4≠0 then Ae (Ae (iter (Cw x4 x5 x7) C7 ((x6/x4),(x6-((x6/x4)*x4)))) fun x10=>some x10) fun x9=>bnd ((((x6*4294967296)+x7)-(x9*(F5 a2 ((toU x3).toNat))))) fun x12=>if x4≠0 then Ae (Ae (iter (Cv x4 x5 x8) C7 ((x12-((x12/x4)*x4)),(x12/x4))) fun x14=>some x14) fun x13=>bnd ((Dt (((x12*4294967296)+x8)-(x13*(F5 a2 ((toU x3).toNat)))) ((toU x3).toNat))) fun x16=>some (((x9*4294967296)+x13),x16)else none else none
theorem JR {a0:UInt64}{a1:UInt64}{a2:UInt64}{r:UInt64×UInt64}(hm:EC a0 a1 a2=some r):Sf prog 163 [.d (.u a0),.d (.u a1),.d (.u a2)] (.tup [.d (.u r.1),.d (.u r.2)]):=
 sp call163 func163 rfl ntmps163 rfl fun D0 As η0 m0 hd=>by
  unfold EC at hm;obtain⟨x1,q1,hm⟩:=Aa hm;refine gj (fun(_:Unit)=>⟨[(0,.d (.u a0)),(1,.d (.u a1)),(2,.d (.u a2))],[],[],0⟩) (fun _=>True) (by kernel_rfl) (fun Jp bk1=> ?_) fun _ _=> ?_
  ·refine gi q1 (by kernel_rfl) (fun hc1 q1=> ?_) fun hc1 q1=> ?_
   ·cases q1
   have e0:=Option.some.inj q1;subst e0;exact gb bk1 hd () trivial (by kernel_rfl)
  obtain⟨x2,q2,hm⟩:=Aa hm;refine gj (fun(_:Unit)=>⟨[(0,.d (.u a0)),(1,.d (.u a1)),(2,.d (.u a2))],[],[],0⟩) (fun _=>True) (by kernel_rfl) (fun Jp bk2=> ?_) fun _ _=> ?_
  ·refine gi q2 (by kernel_rfl) (fun hc2 q2=> ?_) fun hc2 q2=> ?_
   ·cases q2
   have e0:=Option.some.inj q2;subst e0;exact gb bk2 hd () trivial (by kernel_rfl)
  refine gi hm (by kernel_rfl) (fun hc3 hm=> ?_) fun hc3 hm=> ?_
  ·skip;obtain⟨q3,hm⟩:=Cg hm;refine UY (d:= .u a2) (r:= .u (a1/a2)) (fun h=>q3) (by kernel_rfl) ?_;obtain⟨q4,hm⟩:=Cg hm;refine UY (d:= .u a2) (r:= .u (a1%a2)) (fun h=>q4) (by kernel_rfl) ?_;have e0:=Option.some.inj hm;subst e0;exact AN hd (by kernel_rfl)
  obtain⟨x3,q5,hm⟩:=Aa hm;refine gc (fun _=>HJ q5) (by kernel_rfl) ?_;have hm:=AY hm;let x4:UInt64:=((Dt (F5 a2 ((toU x3).toNat)) 32));have hm:=AY hm;let x5:UInt64:=(((F5 a2 ((toU x3).toNat))&&&4294967295));have hm:=AY hm;let x6:UInt64:=(((F5 a0 ((toU x3).toNat))|||(Dt a1 ((64-(toU x3)).toNat))));have hm:=AY hm;let x7:UInt64:=((Dt (F5 a1 ((toU x3).toNat)) 32));have hm:=AY hm;let x8:UInt64:=(((F5 a1 ((toU x3).toNat))&&&4294967295));obtain⟨q11,hm⟩:=Cg hm;refine UY (d:= .u x4) (r:= .u (x6/x4)) (fun h=>q11) (by kernel_rfl) ?_;obtain⟨x9,q12,hm⟩:=Aa hm;obtain⟨x10,q13,q12⟩:=Aa q12;refine gjU 0 (fun(_:Unit)=>⟨[(2,.d (.u (F5 a2 ((toU x3).toNat)))),(8,.d (.u (toU x3))),(9,.d (.u x4)),(10,.d (.u x5)),(11,.d (.u x6)),(13,.d (.u x7)),(14,.d (.u x8)),(15,.d (.u x9))],[],[],0⟩) (fun _=>True) (by kernel_rfl) (fun Jp bk3=> ?_) fun _ _=> ?_
  ·refine gjU 0 (fun(_:Unit)=>⟨[(2,.d (.u (F5 a2 ((toU x3).toNat)))),(8,.d (.u (toU x3))),(9,.d (.u x4)),(10,.d (.u x5)),(11,.d (.u x6)),(13,.d (.u x7)),(14,.d (.u x8)),(15,.d (.u x10))],[],[],0⟩) (fun _=>True) (by kernel_rfl) (fun Jp bk4=> ?_) fun _ _=> ?_
   ·refine gl hd (fun(p:Nat×(UInt64×UInt64))=>let (p0,p_0,p_1):=p; ⟨[(2,.d (.u (F5 a2 ((toU x3).toNat)))),(8,.d (.u (toU x3))),(9,.d (.u x4)),(10,.d (.u x5)),(11,.d (.u x6)),(13,.d (.u x7)),(14,.d (.u x8)),(15,.d (.u p_0)),(16,.d (.u p_1))],[],[],0⟩) (fun p=>iter (Cw x4 x5 x7) p.1 p.2=some x10) (fun p=>p.1) (C7,((x6/x4),(x6-((x6/x4)*x4)))) q13 (by kernel_rfl) ?_;rintro⟨n1,s1⟩ q14 Jl bl1;cases n1 with
    |zero=>exact(Bx q14).elim
    |succ n1=>
     obtain⟨y1,q16,q15⟩:=Bh q14;unfold Cw at q16;refine gi q16 (by kernel_rfl) (fun hc4 q16=> ?_) fun hc4 q16=> ?_
     ·skip;refine gi q16 (by kernel_rfl) (fun hc5 q16=> ?_) fun hc5 q16=> ?_
      ·skip;have e0:=Option.some.inj q16;subst e0;rcases q15 with ⟨sn,e,_⟩|e
       ·cases Fi e
       have e:=Sum.inr.inj e;subst e;exact gb bk4 hd () trivial (by kernel_rfl)
      have e0:=Option.some.inj q16;subst e0;rcases q15 with ⟨sn,e,q15'⟩|e
      ·have e:=Sum.inl.inj e;subst e;exact gb bl1 hd (n1,_) ⟨q15',Nat.lt_succ_self _⟩ (by kernel_rfl)
      cases BM e
     have e0:=Option.some.inj q16;subst e0;rcases q15 with ⟨sn,e,_⟩|e
     ·cases Fi e
     have e:=Sum.inr.inj e;subst e;exact gb bk4 hd () trivial (by kernel_rfl)
   have e0:=Option.some.inj q12;subst e0;exact gb bk3 hd () trivial (by kernel_rfl)
  have hm:=AY hm;let x12:UInt64:=((((x6*4294967296)+x7)-(x9*(F5 a2 ((toU x3).toNat)))));obtain⟨q19,hm⟩:=Cg hm;refine UY (d:= .u x4) (r:= .u (x12/x4)) (fun h=>q19) (by kernel_rfl) ?_;obtain⟨x13,q20,hm⟩:=Aa hm;obtain⟨x14,q21,q20⟩:=Aa q20;refine gjU 2 (fun(_:Unit)=>⟨[(2,.d (.u (F5 a2 ((toU x3).toNat)))),(8,.d (.u (toU x3))),(14,.d (.u x8)),(15,.d (.u x9)),(17,.d (.u x12)),(18,.d (.u x13))],[],[],0⟩) (fun _=>True) (by kernel_rfl) (fun Jp bk5=> ?_) fun _ _=> ?_
  ·refine gjU 2 (fun(_:Unit)=>⟨[(2,.d (.u (F5 a2 ((toU x3).toNat)))),(8,.d (.u (toU x3))),(14,.d (.u x8)),(15,.d (.u x9)),(17,.d (.u x12)),(18,.d (.u x14))],[],[],0⟩) (fun _=>True) (by kernel_rfl) (fun Jp bk6=> ?_) fun _ _=> ?_
   ·refine gl hd (fun(p:Nat×(UInt64×UInt64))=>let (p0,p_0,p_1):=p; ⟨[(2,.d (.u (F5 a2 ((toU x3).toNat)))),(8,.d (.u (toU x3))),(9,.d (.u x4)),(10,.d (.u x5)),(14,.d (.u x8)),(15,.d (.u x9)),(16,.d (.u p_0)),(17,.d (.u x12)),(18,.d (.u p_1))],[],[],0⟩) (fun p=>iter (Cv x4 x5 x8) p.1 p.2=some x14) (fun p=>p.1) (C7,((x12-((x12/x4)*x4)),(x12/x4))) q21 (by kernel_rfl) ?_;rintro⟨n2,s2⟩ q22 Jl bl2;cases n2 with
    |zero=>exact(Bx q22).elim
    |succ n2=>
     obtain⟨y2,q24,q23⟩:=Bh q22;unfold Cv at q24;refine gi q24 (by kernel_rfl) (fun hc6 q24=> ?_) fun hc6 q24=> ?_
     ·skip;refine gi q24 (by kernel_rfl) (fun hc7 q24=> ?_) fun hc7 q24=> ?_
      ·skip;have e0:=Option.some.inj q24;subst e0;rcases q23 with ⟨sn,e,_⟩|e
       ·cases Fi e
       have e:=Sum.inr.inj e;subst e;exact gb bk6 hd () trivial (by kernel_rfl)
      have e0:=Option.some.inj q24;subst e0;rcases q23 with ⟨sn,e,q23'⟩|e
      ·have e:=Sum.inl.inj e;subst e;exact gb bl2 hd (n2,_) ⟨q23',Nat.lt_succ_self _⟩ (by kernel_rfl)
      cases BM e
     have e0:=Option.some.inj q24;subst e0;rcases q23 with ⟨sn,e,_⟩|e
     ·cases Fi e
     have e:=Sum.inr.inj e;subst e;exact gb bk6 hd () trivial (by kernel_rfl)
   have e0:=Option.some.inj q20;subst e0;exact gb bk5 hd () trivial (by kernel_rfl)
  have hm:=AY hm;let x16:UInt64:=((Dt (((x12*4294967296)+x8)-(x13*(F5 a2 ((toU x3).toNat)))) ((toU x3).toNat)));have e0:=Option.some.inj hm;subst e0;exact AN hd (by kernel_rfl)
def DW (a0:UInt64)(a1:UInt64)(a2:UInt64):Option UInt64:=if a2≠0 then Ae (EC (a0%a2) a1 a2) fun x1=>some x1.2 else none
theorem JP {a0:UInt64}{a1:UInt64}{a2:UInt64}{r:UInt64}(hm:DW a0 a1 a2=some r):Sf prog 161 [.d (.u a0),.d (.u a1),.d (.u a2)] (.d (.u r)):=
 sp call161 func161 rfl ntmps161 rfl fun D0 As η0 m0 hd=>by
  unfold DW at hm;obtain⟨q1,hm⟩:=Cg hm;refine UY (d:= .u a2) (r:= .u (a0%a2)) (fun h=>q1) (by kernel_rfl) ?_;obtain⟨x1,q2,hm⟩:=Aa hm;refine gc (fun _=>JR q2) (by kernel_rfl) ?_;have e0:=Option.some.inj hm;subst e0;exact AN hd (by kernel_rfl)
theorem Oh {m:Mem}{As:List Ow}{w:World}{a0:UInt64}{a1:UInt64}{a2:UInt64}{r:UInt64}(S:St m As w)(hm:DW a0 a1 a2=some r):
  AB prog 161 #[vU a0,vU a1,vU a2] w fun v w'=> ∃(M:Mem),m≤M∧St M (As) w'∧v=vU r:=by
 refine AB.mono ((JP hm).2 none0 m As w [vU a0,vU a1,vU a2] (.cons (.d (.u _)) (.cons (.d (.u _)) (.cons (.d (.u _)) .nil))) (fun n h=>absurd rfl h) S) ?_;rintro v w' ⟨M,η',r',obs',n1,hle,_,⟨rfl,rfl,rfl⟩,hdom,hR,S'⟩;obtain rfl:=hR.u_inv;exact⟨M,hle,S',rfl⟩
def Bb (a0:UInt64)(a1:UInt64)(a2:UInt64):Option UInt64:=Ae (DX a1 a2) fun x1=>Ae (DW x1.1 x1.2 a0) fun x2=>some x2
theorem G5 {m:Mem}{As:List Ow}{w:World}{a0:UInt64}{a1:UInt64}{a2:UInt64}{r:UInt64}(S:St m (As) w)(hm:Bb a0 a1 a2=some r):
  AB Tryz.prog 109 #[vU a0,vU a1,vU a2] w fun v w'=> ∃(M:Mem),m≤M∧St M (As) w'∧v=vU r:=by
 unfold Bb at hm;have L0:=Mem.rfl' m;refine CD (args:=[vU a0,vU a1,vU a2]) Tryz.func109 rfl Tryz.ntmps109 (Nat.le_of_ble_eq_true rfl) ?_;refine Af ?_;refine Ad ?_;refine Bg (v:=vU 0) rfl ?_;refine Ag ?_;refine nrm ?_;refine Af ?_;refine Ad ?_;refine Ar (v:=vU a1) rfl ?_;refine Ar (v:=vU a2) rfl ?_;obtain⟨x1,q1,hm⟩:=Aa hm;refine CZ Tryz.call160 (Oi (a0:=a1) (a1:=a2) S q1) rfl ?_;rintro _ w1 ⟨m1,l1,S1,rfl⟩;replace L0:=Mem.tr L0 l1;clear S;replace S1:St _ (As) _:=S1;refine Ar (v:= .tuple #[vU x1.1,vU x1.2]) rfl ?_;refine XH (i:=0) rfl rfl ?_;refine XH (i:=1) rfl rfl ?_;refine Bg (v:=vU x1.1) rfl ?_;refine Bg (v:=vU x1.2) rfl ?_;refine Ag ?_;refine nrm ?_;refine Af ?_;refine Ad ?_;refine Ar (v:=vU x1.1) rfl ?_;refine Ar (v:=vU x1.2) rfl ?_;refine Ar (v:=vU a0) rfl ?_;obtain⟨x2,q2,hm⟩:=Aa hm;refine CZ Tryz.call161 (Oh (a0:=x1.1) (a1:=x1.2) (a2:=a0) S1 q2) rfl ?_;rintro _ w2 ⟨m2,l2,S2,rfl⟩;replace L0:=Mem.tr L0 l2;clear S1;replace S2:St _ (As) _:=S2;refine Bg (v:=vU x2) rfl ?_;refine Ag ?_;refine nrm ?_;refine Bp ?_;refine DL ?_;intro we hpd;replace S2:=St.pd S2 hpd;have e0:=Option.some.inj hm;subst e0;exact Hh [_] rfl ⟨rfl,trivial⟩ ⟨_,L0,S2,rfl⟩
theorem Ha {a0:UInt64}{a1:UInt64}{a2:UInt64}{r:UInt64}(hm:Bb a0 a1 a2=some r):Sf prog 109 [.d (.u a0),.d (.u a1),.d (.u a2)] (.d (.u r)):=
 ⟨call109,fun η m As w vs hv0 hd S=>by
  have S:St m As w:=S;obtain⟨v0,u0,rfl,r0,hv1⟩:=Bo.cons_inv hv0;obtain rfl:=r0.u_inv;obtain⟨v1,u1,rfl,r1,hv2⟩:=Bo.cons_inv hv1;obtain rfl:=r1.u_inv;obtain⟨v2,u2,rfl,r2,hv3⟩:=Bo.cons_inv hv2;obtain rfl:=r2.u_inv;obtain rfl:=Bo.nil_inv hv3;refine AB.mono (G5 S hm) ?_;rintro v w' ⟨M,hle,S0,rfl⟩;exact⟨M,none0,_,_,_,hle,RP hd _,⟨rfl,rfl,rfl⟩,fun n h=>absurd rfl h,(.d (.u _)),S0⟩⟩
def CN (a0:UInt64)(a1:UInt64):Option UInt64:=Ae (Em (fun(s1:Unit) (b1:UInt64) (b2:UInt64)=>Ae (Bb 2305843009213691579 b1 b2) fun x1=>some (x1,())) a0 a1 ()) fun x2=>some x2.1
theorem Od {m:Mem}{As:List Ow}{w:World}{a0:UInt64}{a1:UInt64}{r:UInt64}(S:St m (As) w)(hm:CN a0 a1=some r):
  AB Tryz.prog 62 #[vU a0,vU a1] w fun v w'=> ∃(M:Mem),m≤M∧St M (As) w'∧v=vU r:=by
 unfold CN at hm;have L0:=Mem.rfl' m;refine CD (args:=[vU a0,vU a1]) Tryz.func62 rfl Tryz.ntmps62 (Nat.le_of_ble_eq_true rfl) ?_;refine Af ?_;refine Ad ?_;refine Bg (v:=vU 0) rfl ?_;refine Ag ?_;refine nrm ?_;refine Af ?_;refine Ad ?_;refine XD (pre:=[vU 2305843009213691579]) (caps:=[]) rfl rfl ?_;refine Ar (v:=vU a0) rfl ?_;refine Ar (v:=vU a1) rfl ?_;have hcb1: ∀{m':Mem} {As':List Ow} {w':World} {s:Unit} {X:List Ow} {b0:UInt64} {b1:UInt64} {r:UInt64×Unit},St m' (X++As') w'→(X=[])→(fun(s1:Unit) (b1:UInt64) (b2:UInt64)=>Ae (Bb 2305843009213691579 b1 b2) fun x1=>some (x1,())) s b0 b1=some r→DJ Tryz.prog (.func (.func 109) #[vU 2305843009213691579] #[]) [vU b0,vU b1] w' fun v w''=> ∃(M:Mem) (X':List Ow),m'≤M∧St M (X'++As') w''∧(X'=[])∧v=vU r.1:=by
  intro m1 As1 w1 s1 X1 b1 b2 r1 S1 h1 hm1;subst h1;replace S1:St _ (As1) _:=S1;have L1:=Mem.rfl' m1;obtain⟨x1,q1,hm1⟩:=Aa hm1;refine DJ.mono (DJ.clo (pre:=[vU 2305843009213691579]) Tryz.call109 rfl (G5 (a0:=2305843009213691579) (a1:=b1) (a2:=b2) S1 q1)) ?_;rintro _ w2 ⟨m2,l1,S2,rfl⟩;replace L1:=Mem.tr L1 l1;clear S1;replace S2:St _ (As1) _:=S2;have e0:=Option.some.inj hm1;subst e0;exact⟨_,[],L1,S2,rfl,rfl⟩
 obtain⟨x2,q2,hm⟩:=Aa hm;refine CZ Tryz.call108 (LA (p0:=(fun(s1:Unit) (b1:UInt64) (b2:UInt64)=>Ae (Bb 2305843009213691579 b1 b2) fun x1=>some (x1,()))) (a1:=a0) (a2:=a1) (s0:=()) (R:=(fun(s:Unit) (M:Mem) (X:List Ow)=>(X=[]))) (X0:=[]) (As:=As) S (fun {_ _ _ _} _ h=>h) rfl @hcb1 rfl q2) rfl ?_;rintro _ w3 ⟨m3,l2,X2,S3,rfl,rfl⟩;replace L0:=Mem.tr L0 l2;clear S;replace S3:St _ (As) _:=S3;refine Bg (v:=vU x2.1) rfl ?_;refine Ag ?_;refine nrm ?_;refine Bp ?_;refine DL ?_;intro we hpd;replace S3:=St.pd S3 hpd;have e0:=Option.some.inj hm;subst e0;exact Hh [_] rfl ⟨rfl,trivial⟩ ⟨_,L0,S3,rfl⟩
theorem HS {a0:UInt64}{a1:UInt64}{r:UInt64}(hm:CN a0 a1=some r):Sf prog 62 [.d (.u a0),.d (.u a1)] (.d (.u r)):=
 ⟨call62,fun η m As w vs hv0 hd S=>by
  have S:St m As w:=S;obtain⟨v0,u0,rfl,r0,hv1⟩:=Bo.cons_inv hv0;obtain rfl:=r0.u_inv;obtain⟨v1,u1,rfl,r1,hv2⟩:=Bo.cons_inv hv1;obtain rfl:=r1.u_inv;obtain rfl:=Bo.nil_inv hv2;refine AB.mono (Od S hm) ?_;rintro v w' ⟨M,hle,S0,rfl⟩;exact⟨M,none0,_,_,_,hle,RP hd _,⟨rfl,rfl,rfl⟩,fun n h=>absurd rfl h,(.d (.u _)),S0⟩⟩
def GA (a0:UInt64):Option Bool:=Ae (gu ((decide ((a0.toNat:Int)>0))&&(decide ((a0.toNat:Int)<2305843009213691579))) (CN a0 1152921504606845789)) fun x1=>bnd ((((decide ((a0.toNat:Int)>0))&&(decide ((a0.toNat:Int)<2305843009213691579)))&&((x1.toNat:Int)==1))) fun x2=>some x2
theorem Pn {a0:UInt64}{r:Bool}(hm:GA a0=some r):Sf prog 60 [.d (.u a0)] (.d (.t r)):=
 sp call60 func60 rfl ntmps60 rfl fun D0 As η0 m0 hd=>by
  unfold GA at hm;obtain⟨x1,q1,hm⟩:=Aa hm;refine gcG (fun h=>HS (E1 h q1)) (by kernel_rfl) ?_;have hm:=AY hm;let x2:Bool:=((((decide ((a0.toNat:Int)>0))&&(decide ((a0.toNat:Int)<2305843009213691579)))&&((x1.toNat:Int)==1)));have e0:=Option.some.inj hm;subst e0;exact AN hd (by kernel_rfl)
def Bc (s1:UInt64×UInt64×Int×Int):Option ((UInt64×UInt64×Int×Int)⊕(Int)):=if((s1.2.1.toNat:Int) !=0)=true then if s1.2.1≠0 then bnd ((s1.1-((s1.1/s1.2.1)*s1.2.1))) fun x4=>bnd ((w64 (s1.2.2.1-(w64 ((w64 ((s1.1/s1.2.1).toNat:Int))*s1.2.2.2))))) fun x5=>some (.inl (s1.2.1,x4,s1.2.2.2,x5))else none else some (.inr s1.2.2.1)
def CM (a0:UInt64)(a1:UInt64):Option (UInt64×Int):=if a0≠0 then if(((a1%a0).toNat:Int)==0)=true then some (0,10)else Ae (Ae (iter Bc C7 ((a1%a0),a0,1,0)) fun x2=>some x2) fun x1=>Ae (if(decide (x1<0))=true then bnd ((w64 (x1+(w64 (a0.toNat:Int))))) fun x7=>some x7 else some x1) fun x6=>some ((toU x6),0)else none
theorem HG {a0:UInt64}{a1:UInt64}{r:UInt64×Int}(hm:CM a0 a1=some r):Sf prog 107 [.d (.u a0),.d (.u a1)] (.tup [.d (.u r.1),.d (.i r.2)]):=
 sp call107 func107 rfl ntmps107 rfl fun D0 As η0 m0 hd=>by
  unfold CM at hm;obtain⟨q1,hm⟩:=Cg hm;refine UY (d:= .u a0) (r:= .u (a1%a0)) (fun h=>q1) (by kernel_rfl) ?_;refine gi hm (by kernel_rfl) (fun hc1 hm=> ?_) fun hc1 hm=> ?_
  ·skip;have e0:=Option.some.inj hm;subst e0;exact AN hd (by kernel_rfl)
  obtain⟨x1,q2,hm⟩:=Aa hm;obtain⟨x2,q3,q2⟩:=Aa q2;refine gjU 0 (fun(_:Unit)=>⟨[(0,.d (.u a0)),(8,.d (.i x1))],[],[],0⟩) (fun _=>True) (by kernel_rfl) (fun Jp bk1=> ?_) fun _ _=> ?_
  ·refine gjU 0 (fun(_:Unit)=>⟨[(0,.d (.u a0)),(8,.d (.i x2))],[],[],0⟩) (fun _=>True) (by kernel_rfl) (fun Jp bk2=> ?_) fun _ _=> ?_
   ·refine gl hd (fun(p:Nat×(UInt64×UInt64×Int×Int))=>let (p0,p_0,p_1,p_2,p_3):=p; ⟨[(0,.d (.u a0)),(6,.d (.u p_0)),(7,.d (.u p_1)),(8,.d (.i p_2)),(9,.d (.i p_3))],[],[],0⟩) (fun p=>iter Bc p.1 p.2=some x2) (fun p=>p.1) (C7,((a1%a0),a0,1,0)) q3 (by kernel_rfl) ?_;rintro⟨n1,s1⟩ q4 Jl bl1;cases n1 with
    |zero=>exact(Bx q4).elim
    |succ n1=>
     obtain⟨y1,q6,q5⟩:=Bh q4;unfold Bc at q6;refine gi q6 (by kernel_rfl) (fun hc2 q6=> ?_) fun hc2 q6=> ?_
     ·skip;obtain⟨q8,q6⟩:=Cg q6;refine UY (d:= .u s1.2.1) (r:= .u (s1.1/s1.2.1)) (fun h=>q8) (by kernel_rfl) ?_;have q6:=AY q6;let x4:UInt64:=((s1.1-((s1.1/s1.2.1)*s1.2.1)));have q6:=AY q6;let x5:Int:=((w64 (s1.2.2.1-(w64 ((w64 ((s1.1/s1.2.1).toNat:Int))*s1.2.2.2)))));have e0:=Option.some.inj q6;subst e0;rcases q5 with ⟨sn,e,q5'⟩|e
      ·have e:=Sum.inl.inj e;subst e;exact gb bl1 hd (n1,_) ⟨q5',Nat.lt_succ_self _⟩ (by kernel_rfl)
      cases BM e
     have e0:=Option.some.inj q6;subst e0;rcases q5 with ⟨sn,e,_⟩|e
     ·cases Fi e
     have e:=Sum.inr.inj e;subst e;exact gb bk2 hd () trivial (by kernel_rfl)
   have e0:=Option.some.inj q2;subst e0;exact gb bk1 hd () trivial (by kernel_rfl)
  obtain⟨x6,q11,hm⟩:=Aa hm;refine gj (fun(_:Unit)=>⟨[(8,.d (.i x6))],[],[],0⟩) (fun _=>True) (by kernel_rfl) (fun Jp bk3=> ?_) fun _ _=> ?_
  ·refine gi q11 (by kernel_rfl) (fun hc3 q11=> ?_) fun hc3 q11=> ?_
   ·have q11:=AY q11;let x7:Int:=((w64 (x1+(w64 (a0.toNat:Int)))));have e0:=Option.some.inj q11;subst e0;exact gb bk3 hd () trivial (by kernel_rfl)
   have e0:=Option.some.inj q11;subst e0;exact gb bk3 hd () trivial (by kernel_rfl)
  have e0:=Option.some.inj hm;subst e0;exact AN hd (by kernel_rfl)
def Db (a0:UInt64):Option (UInt64×Int):=Ae (CM 2305843009213691579 a0) fun x1=>some (x1.1,x1.2)
theorem Of {a0:UInt64}{r:UInt64×Int}(hm:Db a0=some r):Sf prog 61 [.d (.u a0)] (.tup [.d (.u r.1),.d (.i r.2)]):=
 sp call61 func61 rfl ntmps61 rfl fun D0 As η0 m0 hd=>by
  unfold Db at hm;obtain⟨x1,q1,hm⟩:=Aa hm;refine gc (fun _=>HG q1) (by kernel_rfl) ?_;have e0:=Option.some.inj hm;subst e0;exact AN hd (by kernel_rfl)
def Gj (a0:UInt64×UInt64)(a1:UInt64):Option UInt64:=if((a1.toNat:Int)==0)=true then some 0 else Ae (DX a0.1 2305843009213693952) fun x1=>if a1≠0 then Ae (EC ((x1.1+(GG x1.2 a0.2))%a1) (x1.2+a0.2) a1) fun x2=>some x2.2 else none
theorem LQ {a0:UInt64×UInt64}{a1:UInt64}{r:UInt64}(hm:Gj a0 a1=some r):Sf prog 110 [ag (Lk a0),.d (.u a1)] (.d (.u r)):=
 sp call110 func110 rfl ntmps110 rfl fun D0 As η0 m0 hd=>by
  unfold Gj at hm;refine gi hm (by kernel_rfl) (fun hc1 hm=> ?_) fun hc1 hm=> ?_
  ·skip;have e0:=Option.some.inj hm;subst e0;exact AN hd (by kernel_rfl)
  obtain⟨x1,q1,hm⟩:=Aa hm;refine gc (fun _=>HI q1) (by kernel_rfl) ?_;refine WY (p:=x1.2) (q:=a0.2) func162 (by kernel_rfl) (by kernel_rfl) (by kernel_rfl) (by kernel_rfl) (by kernel_rfl) ?_;obtain⟨q2,hm⟩:=Cg hm;refine UY (d:= .u a1) (r:= .u ((x1.1+(GG x1.2 a0.2))%a1)) (fun h=>q2) (by kernel_rfl) ?_;obtain⟨x2,q3,hm⟩:=Aa hm;refine gc (fun _=>JR q3) (by kernel_rfl) ?_;have e0:=Option.some.inj hm;subst e0;exact AN hd (by kernel_rfl)
def D7 (a1:UInt64)(s1:(List UInt8)×Int):Option (((List UInt8)×Int)⊕((List UInt8))):=if(decide (s1.2≥0))=true then if(0:Int)≤(w64 (8*s1.2))then Ae (app 1 s1.1 ([(toB ((Dt a1 ((w64 (8*s1.2)).toNat)).toNat:Int))]:List UInt8)) fun x4=>some (.inl (x4,(w64 (s1.2-1))))else none else some (.inr s1.1)
def Gh (a0:List UInt8)(a1:UInt64)(a2:Int):Option (List UInt8):=Ae (Ae (iter (D7 a1) C7 (a0,(w64 (a2-1)))) fun x2=>some x2) fun x1=>some x1
theorem Rq {a0:List UInt8}{a1:UInt64}{a2:Int}{r:List UInt8}(hm:Gh a0 a1 a2=some r):Sp prog 164 [.ow 0,.d (.u a1),.d (.i a2)] [.row 0 1 _ eB a0] 1 (is (.ow 1) [.row 1 1 _ eB r] 2):=
 sp call164 func164 rfl ntmps164 rfl fun D0 As η0 m0 hd=>by
  unfold Gh at hm;obtain⟨x1,q1,hm⟩:=Aa hm;obtain⟨x2,q2,q1⟩:=Aa q1;refine gjU 0 (fun(_:Unit)=>⟨[(0,.ow 1)],[(0,.row 1 1 _ eB x1)],[],2⟩) (fun _=>True) (by kernel_rfl) (fun Jp bk1=> ?_) fun _ _=> ?_
  ·refine gjU 0 (fun(_:Unit)=>⟨[(0,.ow 1)],[(0,.row 1 1 _ eB x2)],[],2⟩) (fun _=>True) (by kernel_rfl) (fun Jp bk2=> ?_) fun _ _=> ?_
   ·refine gl hd (fun(p:Nat×((List UInt8)×Int))=>let (p0,p_0,p_1):=p; ⟨[(0,.ow 1),(1,.d (.u a1)),(2,.d (.i p_1))],[(0,.row 1 1 _ eB p_0)],[],2⟩) (fun p=>iter (D7 a1) p.1 p.2=some x2) (fun p=>p.1) (C7,(a0,(w64 (a2-1)))) q2 (by kernel_rfl) ?_;rintro⟨n1,s1⟩ q3 Jl bl1;cases n1 with
    |zero=>exact(Bx q3).elim
    |succ n1=>
     obtain⟨y1,q5,q4⟩:=Bh q3;unfold D7 at q5;refine gi q5 (by kernel_rfl) (fun hc1 q5=> ?_) fun hc1 q5=> ?_
     ·skip;obtain⟨q7,q5⟩:=Cg q5;refine gsh (r:= .u (Dt a1 ((w64 (8*s1.2)).toNat))) (fun h=>q7) (by kernel_rfl) ?_;refine F3 (k:=1) eB ([(toB ((Dt a1 ((w64 (8*s1.2)).toNat)).toNat:Int))]:List UInt8) (fun _=>rfl) (by kernel_rfl) ?_;obtain⟨x4,q8,q5⟩:=Aa q5;refine RO (k:=1) (E:=eB) (fun _=>rfl) q8 (by kernel_rfl) ?_;have e0:=Option.some.inj q5;subst e0;rcases q4 with ⟨sn,e,q4'⟩|e
      ·have e:=Sum.inl.inj e;subst e;exact gb bl1 hd (n1,_) ⟨q4',Nat.lt_succ_self _⟩ (by kernel_rfl)
      cases BM e
     have e0:=Option.some.inj q5;subst e0;rcases q4 with ⟨sn,e,_⟩|e
     ·cases Fi e
     have e:=Sum.inr.inj e;subst e;exact gb bk2 hd () trivial (by kernel_rfl)
   have e0:=Option.some.inj q1;subst e0;exact gb bk1 hd () trivial (by kernel_rfl)
  have e0:=Option.some.inj hm;subst e0;exact AN hd (by kernel_rfl)
def AL {σ:Type}(p0:σ→(List UInt8)→Option (Bool×σ))(k0:List UInt8)(k1:Int)(s1:Int×σ):Option ((Int×σ)⊕((σ)⊕((List UInt8)×Int×σ))):=if(decide (s1.1<(k0.length:Int)))=true then Ae (cut k0 s1.1 (k0.length:Int)) fun x3=>Ae (cut k0 s1.1 (w64 (s1.1+(Kg k1 (x3.length:Int))))) fun x4=>Ae (p0 s1.2 x4) fun x5=>if(!x5.1)=true then some (.inr (.inr (k0,k1,x5.2)))else some (.inl ((w64 (s1.1+k1)),x5.2))else some (.inr (.inl s1.2))
def BT {σ:Type}(p0:σ→(List UInt8)→Option (Bool×σ))(k0:List UInt8)(k1:Int)(s0:σ):Option ((List UInt8)×Int×σ):=Ae (iter (AL p0 k0 k1) C7 (0,s0)) fun x1=>match x1 with| .inr r=>some r| .inl y1=>some (k0,k1,y1)
theorem GJ {m:Mem}{As:List Ow}{w:World}{σ:Type}{R:σ→Mem→List Ow→Prop}{p0:σ→(List UInt8)→Option (Bool×σ)}{f0:Value}{kb0:Nat}{k0:List UInt8}{k0v0:Value}{kb1:Nat}{k1:Int}{s0:σ}{X0:List Ow}{r:(List UInt8)×Int×σ}(S:St m ((bx kb0 [k0v0] 52)::(bx kb1 [vI k1] 3)::(X0++As)) w)(hup: ∀{s M M' X},M≤M'→R s M X→R s M' X)(hX0:R s0 m X0)(cb0: ∀{m':Mem} {As':List Ow} {w':World} {s:σ} {X:List Ow} {b0:List UInt8} {b0v0:Value} {r:Bool×σ},St m' (X++As') w'→R s m' X→SlR m' b0v0 b0→p0 s b0=some r→DJ Tryz.prog f0 [b0v0] w' fun v w''=> ∃(M:Mem) (X':List Ow),m'≤M∧St M (X'++As') w''∧R r.2 M X'∧v=vb r.1)(fc0:f0.cells= #[f0])(k0h0:SlR m k0v0 k0)(hm:BT p0 k0 k1 s0=some r):
  AB Tryz.prog 228 #[f0,pt kb0 0,pt kb1 0] w fun v w'=> ∃(M:Mem),m≤M∧∃(rb0_0:Value) (X:List Ow),St M ((bx kb0 [rb0_0] 52)::(bx kb1 [vI r.2.1] 3)::(X++As)) w'∧v= .tuple #[]∧SlR M rb0_0 r.1∧R r.2.2 M X:=by
 unfold BT at hm;have L0:=Mem.rfl' m;refine CD (args:=[f0,pt kb0 0,pt kb1 0]) Tryz.func228 rfl Tryz.ntmps228 (Nat.le_of_ble_eq_true rfl) ?_;refine Af ?_;refine Ad ?_;refine Bg (v:=vI 0) rfl ?_;refine Ag ?_;refine nrm ?_;obtain⟨x1,q1,hm⟩:=Aa hm;have L1:=Mem.rfl' m;refine J7 ?_;refine Bt [4,5,6,7,8,9,10,11,12,13,14,15,16,17,18,19,20,21,22,23,24,25,26,27,28,29,30] (fun f' w'=> ∃(M1:Mem) (y1:σ) (X2:List Ow),x1= .inl y1∧m≤M1∧St M1 ((bx kb0 [k0v0] 52)::(bx kb1 [vI k1] 3)::(X2++As)) w'∧R y1 M1 X2∧Cj f' []) ?_ ?_
 ·refine AD ?_;refine BV [4,5,6,7,8,9,10,11,12,13,14,15,16,17,18,19,20,21,22,23,24,25,26,27,28,29,30] (fun n1 f' w'=> ∃(s1:Int×σ) (m9:Mem) (X1:List Ow),iter (AL p0 k0 k1) n1 s1=some x1∧m≤m9∧St m9 ((bx kb0 [k0v0] 52)::(bx kb1 [vI k1] 3)::(X1++As)) w'∧R s1.2 m9 X1∧Cj f' [(4,vI s1.1)]) C7 ⟨(0,s0),m,_,q1,L1,S,hX0,⟨rfl,trivial⟩⟩ ?_;rintro n1 f1 w1 ho ⟨s1,m1,X1,q2,L3,S1,h1,ha⟩;obtain⟨u1,rfl⟩:=B1 (N:=31) ho ha;clear ho ha;replace k0h0:=k0h0.up L3;have L2:=Mem.rfl' m1;clear S;cases n1 with
  |zero=>exact(Bx q2).elim
  |succ n1=>
   obtain⟨y2,q4,q3⟩:=Bh q2;unfold AL at q4;refine Af ?_;refine Af ?_;refine Ad ?_;refine Ar (v:=vI s1.1) rfl ?_;refine G9 (i:=0) (cs:=[k0v0]) S1 rfl rfl Tryz.isAgg52 Tryz.sizeOf52 rfl (fun _=>rfl) ?_;refine HR (xs:=k0) rfl k0h0 Tryz.underlying52 ?_;refine I0 (m:=s1.1) (n:=(k0.length:Int)) rfl rfl ?_;refine Ag ?_;refine nrm ?_;refine Ch (t:=(decide (s1.1<(k0.length:Int)))) rfl (fun hc1=> ?_) (fun hc1=> ?_)
   ·replace q4:=ifT hc1 q4;refine Bd ?_;refine nrm ?_;refine Af ?_;refine AD ?_;refine Af ?_;obtain⟨x3,q6,q4⟩:=Aa q4;have HM:GH [(13,fv (vI k1)),(14,fv k0v0),(15,fv (vI s1.1)),(16,fun(M:Mem) (v:Value)=> ∃(v1:Value),v=v1∧SlR M v1 x3),(17,fv (vI (x3.length:Int)))]:=⟨mv,mv,mv,(fun _ _ _ l ⟨v1,e,h3⟩=>⟨v1,e,h3.up l⟩),mv,trivial⟩;refine II HM 5 BW rfl rfl rfl [13,14,15,16,17] (fun L f M w=>St M ((bx kb0 [k0v0] 52)::(bx kb1 [vI k1] 3)::(X1++As)) w) (St.drew S1 _) ?_ ?_
    ·refine⟨?_,?_,?_,?_,?_,trivial⟩
     ·exact flp HM rfl [] (fun _ _=>trivial) (fun _ S2 q=>G9 (i:=1) (cs:=[vI k1]) S2 rfl rfl Tryz.isAgg3 Tryz.sizeOf3 rfl (fun _=>rfl) q) rfl
     ·exact flp HM rfl [] (fun _ _=>trivial) (fun _ S3 q=>G9 (i:=0) (cs:=[k0v0]) S3 rfl rfl Tryz.isAgg52 Tryz.sizeOf52 rfl (fun _=>rfl) q) rfl
     ·exact flp HM rfl [] (fun _ _=>trivial) (fun _ _ q=>Ar (v:=vI s1.1) rfl q) rfl
     ·intro L f5 w5 hL hd hc ⟨m5,L10,S5,K,hO⟩;have d1:L 1=true:=dep hd rfl;have e1:=K 1 d1;have d2:L 2=true:=dep hd rfl;have e2:=K 2 d2;obtain⟨u5,rfl⟩:=B1 (N:=31) (L:=[(14,k0v0),(15,vI s1.1)]) hO ⟨e1,e2,trivial⟩;replace S5:St _ ((bx kb0 [k0v0] 52)::(bx kb1 [vI k1] 3)::(X1++As)) _:=S5;replace k0h0:=k0h0.up L10;replace h1:=hup L10 h1;have L11:=Mem.rfl' m5;refine RD (ys:=x3) (l:=s1.1) (h:=(k0.length:Int)) rfl k0h0 Tryz.underlying52 Tryz.sizeOf5 (.inr ⟨_,rfl⟩) (.inl ⟨rfl,rfl⟩) (.inl rfl) q6 ?_;intro v1 h3;refine wpn ?_;refine⟨m5,Mem.tr L10 L11,?_,Ii HM rfl K L11 rfl rfl ⟨v1,rfl,h3⟩,FC⟩;exact S5
     ·intro L f6 w6 hL hd hc ⟨m6,L12,S6,K,hO⟩;have d3:L 3=true:=dep hd rfl;obtain⟨v2,e3,h4⟩:=K 3 d3;obtain⟨u6,rfl⟩:=B1 (N:=31) (L:=[(16,v2)]) hO ⟨e3,trivial⟩;replace S6:St _ ((bx kb0 [k0v0] 52)::(bx kb1 [vI k1] 3)::(X1++As)) _:=S6;replace k0h0:=k0h0.up L12;replace h1:=hup L12 h1;have L13:=Mem.rfl' m6;refine HR (xs:=x3) rfl h4 Tryz.underlying52 ?_;refine wpn ?_;refine⟨m6,Mem.tr L12 L13,?_,Ii HM rfl K L13 rfl rfl rfl,FC⟩;exact S6
    intro L f7 w7 hall ⟨m7,L14,S7,K,hO⟩;have d0:L 0=true:=hall 0 (by decide);have e4:=K 0 d0;have d4:L 4=true:=hall 4 (by decide);have e5:=K 4 d4;obtain⟨u7,rfl⟩:=B1 (N:=31) (L:=[(13,vI k1),(17,vI (x3.length:Int))]) hO ⟨e4,e5,trivial⟩;replace S7:St _ ((bx kb0 [k0v0] 52)::(bx kb1 [vI k1] 3)::(X1++As)) _:=S7;replace k0h0:=k0h0.up L14;replace h1:=hup L14 h1;replace L2:=Mem.tr L2 L14;clear S1;refine SC rfl rfl ?_;refine Bg (v:=vI (Kg k1 (x3.length:Int))) rfl ?_;refine Ag ?_;refine nrm ?_;refine Af ?_;refine Ad ?_;refine Ar (v:=f0) rfl ?_;refine G9 (i:=0) (cs:=[k0v0]) S7 rfl rfl Tryz.isAgg52 Tryz.sizeOf52 rfl (fun _=>rfl) ?_;refine Ar (v:=vI s1.1) rfl ?_;refine Ar (v:=vI s1.1) rfl ?_;refine Ar (v:=vI (Kg k1 (x3.length:Int))) rfl ?_;refine FI (m:=s1.1) (n:=(Kg k1 (x3.length:Int))) rfl rfl ?_;refine Ar (v:=vI s1.1) rfl ?_;refine Ar (v:=vI (Kg k1 (x3.length:Int))) rfl ?_;refine FI (m:=s1.1) (n:=(Kg k1 (x3.length:Int))) rfl rfl ?_;obtain⟨x4,q7,q4⟩:=Aa q4;refine RD (ys:=x4) (l:=s1.1) (h:=(w64 (s1.1+(Kg k1 (x3.length:Int))))) rfl k0h0 Tryz.underlying52 Tryz.sizeOf5 (.inr ⟨_,rfl⟩) (.inr ⟨_,rfl⟩) (.inr ⟨(fun h=>by cases h),_,rfl⟩) q7 ?_;intro v3 h5;obtain⟨x5,q8,q4⟩:=Aa q4;have S8:=St.absF (L:=[bx kb0 [k0v0] 52,bx kb1 [vI k1] 3]) (X:=X1) (As:=As) S7;refine FX rfl (cb0 S8 h1 h5 q8) rfl ?_;rintro _ w8 ⟨m8,X3,l1,S9,h6,rfl⟩;replace S9:=St.absF (L:=X3) (X:=[bx kb0 [k0v0] 52,bx kb1 [vI k1] 3]) (As:=As) S9;clear S8;replace h5:=h5.up l1;replace k0h0:=k0h0.up l1;replace L2:=Mem.tr L2 l1;replace S9:St _ ((bx kb0 [k0v0] 52)::(bx kb1 [vI k1] 3)::(X3++As)) _:=S9;clear S7;refine Pv rfl ?_;refine Ag ?_;refine nrm ?_;refine Ch (t:=(!x5.1)) rfl (fun hc2=> ?_) (fun hc2=> ?_)
    ·replace q4:=ifT hc2 q4;refine Bp ?_;refine blR ?_;refine thR ?_;refine thR ?_;refine blR ?_;refine thR ?_;refine DL ?_;intro we hpd;replace S9:=St.pd S9 hpd;cases q4;rcases q3 with ⟨sn,e,_⟩|e
     ·cases e
     cases e;dsimp only at hm;have e0:=Option.some.inj hm;subst e0;exact Hh [] rfl trivial ⟨_,(Mem.tr L0 (Mem.tr L3 L2)),_,_,S9,rfl,k0h0,h6⟩
    replace q4:=ifF hc2 q4;refine Bd ?_;refine Kf ?_;refine nrm ?_;refine Ad ?_;refine Ar (v:=vI s1.1) rfl ?_;refine G9 (i:=1) (cs:=[vI k1]) S9 rfl rfl Tryz.isAgg3 Tryz.sizeOf3 rfl (fun _=>rfl) ?_;refine FI (m:=s1.1) (n:=k1) rfl rfl ?_;refine Bg (v:=vI (w64 (s1.1+k1))) rfl ?_;refine Ag ?_;refine nrm ?_;have e0:=Option.some.inj q4;subst e0;rcases q3 with ⟨sn,e,q3'⟩|e
    ·cases e;exact⟨FC,_,Nat.lt_succ_self _,⟨_,m8,_,q3',Mem.tr L3 L2,S9,h6,⟨rfl,trivial⟩⟩⟩
    ·cases e
   replace q4:=ifF hc1 q4;refine CX ?_;refine thE ?_;refine thE ?_;refine exB ?_;refine nrm ?_;have e0:=Option.some.inj q4;subst e0;rcases q3 with ⟨sn,e,_⟩|e
   ·cases e
   ·cases e;exact⟨FC,m1,_,_,rfl,Mem.tr L3 L2,S1,h1,trivial⟩
 rintro f8 w9 ho ⟨m10,y1,X2,rfl,l2,S10,h2,ha⟩;obtain⟨u8,rfl⟩:=B1 (N:=31) ho ha;clear ho ha;dsimp only at hm;replace k0h0:=k0h0.up l2;replace L0:=Mem.tr L0 l2;clear S;refine RJ ?_;intro we hpd;replace S10:=St.pd S10 hpd;have e0:=Option.some.inj hm;subst e0;exact Hh [] rfl trivial ⟨_,L0,_,_,S10,rfl,k0h0,h2⟩
def B9 (a0:List UInt8)(a1:Int):Option ((List UInt8)×Int):=Ae (if(decide (a1<1))=true then none else some ()) fun x1=>some (a0,a1)
theorem G3 {m:Mem}{As:List Ow}{w:World}{a0:List UInt8}{a0v0:Value}{a1:Int}{r:(List UInt8)×Int}(S:St m (As) w)(a0h0:SlR m a0v0 a0)(hm:B9 a0 a1=some r):
  AB Tryz.prog 215 #[a0v0,vI a1] w fun v w'=> ∃(M:Mem),m≤M∧∃(rk0_0:Nat) (rc0_0_0:Value) (rk0_1:Nat),St M ((bx rk0_0 [rc0_0_0] 52)::(bx rk0_1 [vI r.2] 3)::As) w'∧v= .func (.func 228) #[] #[pt rk0_0 0,pt rk0_1 0]∧SlR M rc0_0_0 r.1:=by
 unfold B9 at hm;have L0:=Mem.rfl' m;refine CD (args:=[a0v0,vI a1]) Tryz.func215 rfl Tryz.ntmps215 (Nat.le_of_ble_eq_true rfl) ?_;refine Af ?_;refine Ad ?_;refine Wu S rfl (SlR.cells a0h0) ?_;intro b1 w1 S1;replace S1:St _ ((bx b1 [a0v0] 52)::As) _:=S1;clear S;refine J5 S1 rfl ?_;intro b2 w2 S2;replace S2:St _ ((bx b2 [vI a1] 3)::(bx b1 [a0v0] 52)::As) _:=S2;clear S1;refine Bg (v:= .nilFunc) rfl ?_;refine Ag ?_;refine nrm ?_;obtain⟨x1,q1,hm⟩:=Aa hm;have L1:=Mem.rfl' m;refine Af ?_;refine Bt [5,6,7] (fun f' w'=> ∃(M1:Mem),m≤M1∧St M1 ((bx b2 [vI a1] 3)::(bx b1 [a0v0] 52)::As) w'∧Cj f' []) ?_ ?_
 ·refine Af ?_;refine Ad ?_;refine G9 (i:=0) (cs:=[vI a1]) S2 rfl rfl Tryz.isAgg3 Tryz.sizeOf3 rfl (fun _=>rfl) ?_;refine I0 (m:=a1) (n:=1) rfl rfl ?_;refine Ag ?_;refine nrm ?_;refine Ch (t:=(decide (a1<1))) rfl (fun hc1=> ?_) (fun hc1=> ?_)
  ·replace q1:=ifT hc1 q1;cases q1
  replace q1:=ifF hc1 q1;refine Bd ?_;refine nrm ?_;have e0:=Option.some.inj q1;subst e0;exact⟨FC,m,L1,S2,trivial⟩
 rintro f1 w3 ho ⟨m1,l1,S3,ha⟩;obtain⟨u1,rfl⟩:=B1 (N:=9) ho ha;replace a0h0:=a0h0.up l1;replace L0:=Mem.tr L0 l1;clear S2;refine Af ?_;refine Ad ?_;refine JC (caps:=[pt b1 0,pt b2 0]) rfl ?_;refine Bg (v:= .func (.func 228) #[] #[pt b1 0,pt b2 0]) rfl ?_;refine Ag ?_;refine nrm ?_;refine Bp ?_;refine DL ?_;intro we hpd;replace S3:=St.pd S3 hpd;have S4:St _ ((bx b1 [a0v0] 52)::(bx b2 [vI a1] 3)::As) _:=St.perm S3 (List.Perm.swap _ _ _);have e0:=Option.some.inj hm;subst e0;exact Hh [_] rfl ⟨rfl,trivial⟩ ⟨_,L0,_,_,_,S4,rfl,a0h0⟩
def Dk (b5:List UInt8)(i1:Int)(s2:UInt64):Option (UInt64):=Ae (idx b5 (i1:Int)) fun x6=>if(0:Int)≤(w64 (8*(i1:Int)))then bnd ((s2|||(F5 (toU (x6.toNat:Int)) ((w64 (8*(i1:Int))).toNat)))) fun x7=>some x7 else none
def Dl (b5:List UInt8)(s1:(List UInt64)):Option ((List UInt64)):=Ae (Ae (Cx (Dk b5) b5.length 0 0) fun x4=>some x4) fun x3=>Ae (app 8 s1 ([x3]:List UInt64)) fun x8=>some x8
def Hd (a0:List UInt8):Option (List UInt64):=Ae (B9 a0 7) fun x1=>Ae (BT (fun(s:(List UInt64)) (b0:List UInt8)=>Ae (Dl b0 s) fun y=>some (true,y)) x1.1 x1.2 ([]:List UInt64)) fun x2=>some x2.2.2
theorem Ru {m:Mem}{As:List Ow}{w:World}{a0:List UInt8}{a0v0:Value}{r:List UInt64}(S:St m (As) w)(a0h0:SlR m a0v0 a0)(hm:Hd a0=some r):
  AB Tryz.prog 199 #[a0v0] w fun v w'=> ∃(M:Mem),m≤M∧∃(rv0:Value) (rc0:List Value),St M ((row 1 rv0 rc0 r.length)::As) w'∧v=rv0∧By M rc0 r:=by
 unfold Hd at hm;have L0:=Mem.rfl' m;refine CD (args:=[a0v0]) Tryz.func199 rfl Tryz.ntmps199 (Nat.le_of_ble_eq_true rfl) ?_;refine Af ?_;refine Ad ?_;refine Bg (v:= .slice none 0 0) rfl ?_;refine Ag ?_;refine nrm ?_;refine Af ?_;refine Ad ?_;refine EM S Tryz.zeroValue140 ?_;intro b1 w1 S1;replace S1:St _ ((bx b1 [.slice none 0 0] 140)::As) _:=S1;clear S;refine Ag ?_;refine nrm ?_;refine Af ?_;refine Af ?_;refine Ad ?_;refine Ar (v:=a0v0) rfl ?_;obtain⟨x1,q1,hm⟩:=Aa hm;refine CZ Tryz.call215 (G3 (a0:=a0) (a1:=7) S1 a0h0 q1) rfl ?_;rintro _ w2 ⟨m1,l1,b2,v1,b3,S2,rfl,h1⟩;replace a0h0:=a0h0.up l1;replace L0:=Mem.tr L0 l1;clear S1;replace S2:St _ ((bx b2 [v1] 52)::(bx b3 [vI x1.2] 3)::(bx b1 [.slice none 0 0] 140)::As) _:=S2;refine Ag ?_;refine nrm ?_;refine AD ?_;obtain⟨x2,q2,hm⟩:=Aa hm;refine EH S2 rfl Tryz.call228 ?_;intro lp1 rip2 w3 h2 S3;replace S3:St _ ((Lp lp1 rip2 .ready none)::(bx b2 [v1] 52)::(bx b3 [vI x1.2] 3)::(bx b1 [.slice none 0 0] 140)::As) _:=S3;clear S2;have S4:=St.rowNil S3 1;have h4:By m1 [] ([]:List UInt64):=By.nil;replace S4:St _ ((row 1 (.slice none 0 0) [] ([]:List UInt64).length)::(Lp lp1 rip2 .ready none)::(bx b2 [v1] 52)::(bx b3 [vI x1.2] 3)::(bx b1 [.slice none 0 0] 140)::As) _:=S4;clear S3;have S5:St _ ((bx b2 [v1] 52)::(bx b3 [vI x1.2] 3)::(Lp lp1 rip2 .ready none)::(row 1 (.slice none 0 0) [] ([]:List UInt64).length)::(bx b1 [(.slice none 0 0)] 140)::As) _:=St.perm S4 (List.Perm.trans (List.Perm.cons _ (List.Perm.swap _ _ _)) (List.Perm.trans (List.Perm.swap _ _ _) (List.Perm.trans (List.Perm.cons _ (List.Perm.cons _ (List.Perm.swap _ _ _))) (List.Perm.trans (List.Perm.cons _ (List.Perm.swap _ _ _)) (List.Perm.cons _ (List.Perm.cons _ (List.Perm.swap _ _ _)))))));clear S4;have hcb1: ∀{m':Mem} {As':List Ow} {w':World} {s:(List UInt64)} {X:List Ow} {b0:List UInt8} {b0v0:Value} {r:Bool×(List UInt64)},St m' (X++As') w'→(∃(v3:Value) (c2:List Value),m1≤m'∧X=Lp lp1 rip2 .ready none::(row 1 v3 c2 (s).length)::(bx b1 [v3] 140)::[]∧By m' c2 (s))→SlR m' b0v0 b0→(fun(s:(List UInt64)) (b0:List UInt8)=>Ae (Dl b0 s) fun y=>some (true,y)) s b0=some r→DJ Tryz.prog (.func (.yield lp1) #[] #[]) [b0v0] w' fun v w''=> ∃(M:Mem) (X':List Ow),m'≤M∧St M (X'++As') w''∧(∃(v3:Value) (c2:List Value),m1≤M∧X'=Lp lp1 rip2 .ready none::(row 1 v3 c2 (r.2).length)::(bx b1 [v3] 140)::[]∧By M c2 (r.2))∧v=vb r.1:=by
  intro m2 As1 w4 s1 X1 b5 v4 r4 S6 h6 h7 hm1;obtain⟨v5,c3,L2,rfl,h8⟩:=h6;obtain⟨y1,q3,hm1⟩:=Aa hm1;cases hm1;unfold Dl at q3;replace S6:St _ ((Lp lp1 rip2 .ready none)::(row 1 v5 c3 s1.length)::(bx b1 [v5] 140)::As1) _:=S6;have L1:=Mem.rfl' m2;refine DJ.round h2 rfl S6 ?_;refine Ad ?_;refine Bg (v:=v4) rfl ?_;refine Ag ?_;refine nrm ?_;refine⟨_,_,S6,?_⟩;intro w5 S7;clear S6;replace S7:St _ ((Lp lp1 rip2 .busy none)::(row 1 v5 c3 s1.length)::(bx b1 [v5] 140)::As1) _:=S7;refine AD ?_;refine Af ?_;refine Ad ?_;refine Bg (v:=vU 0) rfl ?_;refine Ag ?_;refine nrm ?_;obtain⟨x3,q4,q3⟩:=Aa q3;have L3:=Mem.rfl' m2;refine Af ?_;refine Bt [5,6,7,11,12,13,14,15,16,17,18,19,20,21,22,23,24,25] (fun f' w'=> ∃(M1:Mem),m2≤M1∧St M1 ((Lp lp1 rip2 .busy none)::(row 1 v5 c3 s1.length)::(bx b1 [v5] 140)::As1) w'∧Cj f' [(5,vU x3)]) ?_ ?_
  ·refine Af ?_;refine Ad ?_;refine Ar (v:=v4) rfl ?_;refine HR (xs:=b5) rfl h7 Tryz.underlying52 ?_;refine Ar (v:=vI 0) rfl ?_;refine Ag ?_;refine nrm ?_;obtain⟨x4,q5,q4⟩:=Aa q4;have L4:=Mem.rfl' m2;refine Bt [5,6,7,13,14,15,16,17,18,19,20,21,22,23,24,25] (fun f' w'=> ∃(M2:Mem),m2≤M2∧St M2 ((Lp lp1 rip2 .busy none)::(row 1 v5 c3 s1.length)::(bx b1 [v5] 140)::As1) w'∧Cj f' [(5,vU x4)]) ?_ ?_
   ·refine AD ?_;refine BV [5,6,7,13,14,15,16,17,18,19,20,21,22,23,24,25] (fun n1 f' w'=> ∃(i1:Nat) (s2:UInt64) (m4:Mem),n1=b5.length-i1∧i1≤b5.length∧Cx (Dk b5) (b5.length-i1) (i1:Int) s2=some x4∧m2≤m4∧St m4 ((Lp lp1 rip2 .busy none)::(row 1 v5 c3 s1.length)::(bx b1 [v5] 140)::As1) w'∧Cj f' [(13,vI (i1:Int)),(5,vU s2)]) b5.length ⟨0,0,m2,rfl,Nat.zero_le _,q5,L4,S7,⟨rfl,rfl,trivial⟩⟩ ?_;rintro n1 f1 w6 ho ⟨i1,s2,m3,hn,hi,q6,L6,S8,ha⟩;obtain⟨u1,rfl⟩:=B1 (N:=31) ho ha;clear ho ha;replace h7:=h7.up L6;replace h8:=By.up L6 h8;have L5:=Mem.rfl' m3;clear S7;refine Af ?_;refine Ad ?_;refine I0 (m:=(i1:Int)) (n:=(b5.length:Int)) rfl rfl ?_;refine Ag ?_;refine nrm ?_;refine Af ?_;refine Ch (t:=decide ((i1:Int)<(b5.length:Int))) rfl (fun hc1=> ?_) (fun hc1=> ?_)
    ·have hlt1:i1<b5.length:=by have:=of_decide_eq_true hc1; omega
     obtain⟨y2,q8,q7⟩:=GF q6 hlt1;unfold Dk at q8;refine Bd ?_;refine nrm ?_;refine Af ?_;refine AD ?_;refine Af ?_;refine Ad ?_;refine Ar (v:=vI (i1:Int)) rfl ?_;obtain⟨x6,q10,q8⟩:=Aa q8;refine SI (q:=x6) rfl rfl h7 q10 Tryz.underlying52 Tryz.sizeOf5 ?_;intro p3 c4 h9 r5;obtain rfl:c4=[vB x6]:=r5;refine SG (cs:=[vB x6]) S8 rfl h9 rfl Tryz.isAgg5 Tryz.sizeOf5 (fun _=>rfl) ?_;refine Bg (v:=vI (i1:Int)) rfl ?_;refine Bg (v:=vB x6) rfl ?_;refine Ag ?_;refine nrm ?_;refine Ad ?_;refine Ar (v:=vU s2) rfl ?_;refine Ar (v:=vB x6) rfl ?_;refine Nf rfl Tryz.underlying5 Tryz.underlying22 ?_;refine Ar (v:=vI (i1:Int)) rfl ?_;refine Oy (m:=8) (n:=(i1:Int)) rfl rfl ?_;obtain⟨q11,q8⟩:=Cg q8;refine Sz (m:=(toU (x6.toNat:Int))) (n:=(w64 (8*(i1:Int)))) rfl rfl q11 ?_;refine s_orU (m:=s2) (n:=(F5 (toU (x6.toNat:Int)) ((w64 (8*(i1:Int))).toNat))) rfl rfl ?_;obtain⟨x7,q12,q8⟩:=Dd q8;refine Bg (v:=vU x7) (congrArg (fun z=>vU z) q12.symm) ?_;refine Ag ?_;refine Kf ?_;refine nrm ?_;refine Ad ?_;refine FI (m:=(i1:Int)) (n:=1) rfl rfl ?_;refine Ar (v:=vI (w64 ((i1:Int)+1))) rfl ?_;refine Ag ?_;refine nrm ?_;have e0:=Option.some.inj q8;subst e0;exact⟨FC,_,(by omega),⟨i1+1,x7,m3,rfl,hlt1,q7,Mem.tr L6 L5,S8,⟨congrArg (Value.int .i64) (A5 hlt1 (SlR.le h7)),rfl,trivial⟩⟩⟩
    have hlt1: ¬i1<b5.length:=by have:=of_decide_eq_false hc1; omega
    have e:=Eq.symm (FA q6 hlt1);subst e;refine CX ?_;refine thE ?_;refine thE ?_;refine exB ?_;refine nrm ?_;exact⟨FC,m3,Mem.tr L6 L5,S8,⟨rfl,trivial⟩⟩
   rintro f2 w7 ho ⟨m5,l2,S9,ha⟩;obtain⟨u2,rfl⟩:=B1 (N:=31) ho ha;clear ho ha;replace h8:=By.up l2 h8;replace L3:=Mem.tr L3 l2;clear S7;have e0:=Option.some.inj q4;subst e0;exact⟨FC,m5,L3,S9,⟨rfl,trivial⟩⟩
  rintro f3 w8 ho ⟨m6,l3,S10,ha⟩;obtain⟨u3,rfl⟩:=B1 (N:=31) ho ha;replace h8:=By.up l3 h8;replace L1:=Mem.tr L1 l3;clear S7;refine Ad ?_;refine G9 (i:=2) (cs:=[v5]) S10 rfl rfl Tryz.isAgg140 Tryz.sizeOf140 rfl (fun _=>rfl) ?_;refine Ar (v:=vU x3) rfl ?_;refine s_litC (parts:=[.tmp 27]) (vs:=[vU x3]) (cls:=[[vU x3]]) (xs:=([x3]:List UInt64)) (n:=1) S10 Tryz.underlying140 Tryz.sizeOf22 Tryz.zeroValue22 rfl ⟨rfl,trivial⟩ (By.cons (c:=[vU x3]) (x:=x3) rfl By.nil) rfl rfl rfl (by decide) (by decide) ?_;intro v6 m7 w9 l4 S11 h10;replace h8:=By.up l4 h8;replace L1:=Mem.tr L1 l4;clear S10;obtain⟨x8,q13,q3⟩:=Aa q3;refine Py (i:=1) (zs:=x8) (bytes:=8) (ti:=Tryz.t22) S11 rfl rfl h8 rfl rfl h10 q13 Tryz.underlying140 Tryz.type22 rfl rfl rfl rfl ?_;intro v7 c5 w10 S12 h11;replace S12:St _ ((Lp lp1 rip2 .busy none)::(row 1 v7 c5 x8.length)::(bx b1 [v5] 140)::As1) _:=S12;clear S11;refine s_stS (i:=2) S12 rfl rfl rfl Tryz.sizeOf140 (St.rowCells (i:=1) S12 rfl) rfl ?_;intro w11 S13;replace S13:St _ ((Lp lp1 rip2 .busy none)::(row 1 v7 c5 x8.length)::(bx b1 [v7] 140)::As1) _:=S13;clear S12;refine Ag ?_;refine Kf ?_;have S14:St _ ((row 1 v7 c5 x8.length)::(Lp lp1 rip2 .busy none)::(bx b1 [v7] 140)::As1) _:=St.perm S13 (List.Perm.swap _ _ _);clear S13;have S15:St _ ((Lp lp1 rip2 .busy none)::(row 1 v7 c5 x8.length)::(bx b1 [v7] 140)::As1) _:=St.perm S14 (List.Perm.swap _ _ _);clear S14;refine⟨_,_,S15,?_⟩;intro w12 S16;have e0:=Option.some.inj q3;subst e0;exact⟨_,Lp lp1 rip2 .ready none::(row 1 v7 c5 x8.length)::(bx b1 [v7] 140)::[],L1,S16,⟨_,_,Mem.tr L2 L1,rfl,h11⟩,rfl⟩
 refine AB.mono (GJ (p0:=(fun(s:(List UInt64)) (b0:List UInt8)=>Ae (Dl b0 s) fun y=>some (true,y))) (k0:=x1.1) (k1:=x1.2) (s0:=([]:List UInt64)) (R:=(fun(s:(List UInt64)) (M:Mem) (X:List Ow)=>(∃(v3:Value) (c2:List Value),m1≤M∧X=Lp lp1 rip2 .ready none::(row 1 v3 c2 (s).length)::(bx b1 [v3] 140)::[]∧By M c2 (s)))) (X0:=((Lp lp1 rip2 .ready none)::(row 1 (.slice none 0 0) [] ([]:List UInt64).length)::(bx b1 [(.slice none 0 0)] 140)::[])) (As:=As) S5 (fun l h=>by obtain⟨v3,c2,Lm,e,h5⟩:=h; exact⟨_,_,Mem.tr Lm l,e,By.up l h5⟩) ⟨_,_,Mem.rfl' _,rfl,h4⟩ @hcb1 rfl h1 q2) ?_;rintro _ w13 ⟨m8,l5,v8,X2,S17,rfl,h12,⟨v9,c6,L7,rfl,h13⟩⟩;replace S17:St _ ((bx b2 [v8] 52)::(bx b3 [vI x2.2.1] 3)::(Lp lp1 rip2 .ready none)::(row 1 v9 c6 x2.2.2.length)::(bx b1 [v9] 140)::As) _:=S17;have S18:St _ ((Lp lp1 rip2 .ready none)::(bx b2 [v8] 52)::(bx b3 [vI x2.2.1] 3)::(row 1 v9 c6 x2.2.2.length)::(bx b1 [v9] 140)::As) _:=St.perm S17 (List.Perm.trans (List.Perm.cons _ (List.Perm.swap _ _ _)) (List.Perm.swap _ _ _));clear S17;refine⟨_,.ready,none,_,l5,(fun h=>by cases h),S18,?_⟩;intro m9 w14 l6 S19;have l7:=Mem.tr l5 l6;replace h12:=h12.up l6;replace h13:=By.up l6 h13;replace L0:=Mem.tr L0 l7;replace S19:St _ ((bx b2 [v8] 52)::(bx b3 [vI x2.2.1] 3)::(row 1 v9 c6 x2.2.2.length)::(bx b1 [v9] 140)::As) _:=S19;refine Kf ?_;refine nrm ?_;refine Af ?_;refine Ad ?_;refine G9 (i:=3) (cs:=[v9]) S19 rfl rfl Tryz.isAgg140 Tryz.sizeOf140 rfl (fun _=>rfl) ?_;refine Bg (v:=v9) rfl ?_;refine Ag ?_;refine nrm ?_;refine Bp ?_;refine DL ?_;intro we hpd;replace S19:=St.pd S19 hpd;obtain⟨m10,l8,S20⟩:=St.drop S19 0;replace h13:=By.up l8 h13;replace L0:=Mem.tr L0 l8;clear S19;replace S20:St _ ((bx b3 [vI x2.2.1] 3)::(row 1 v9 c6 x2.2.2.length)::(bx b1 [v9] 140)::As) _:=S20;obtain⟨m11,l9,S21⟩:=St.drop S20 0;replace h13:=By.up l9 h13;replace L0:=Mem.tr L0 l9;clear S20;replace S21:St _ ((row 1 v9 c6 x2.2.2.length)::(bx b1 [v9] 140)::As) _:=S21;obtain⟨m12,l10,S22⟩:=St.drop S21 1;replace h13:=By.up l10 h13;replace L0:=Mem.tr L0 l10;clear S21;replace S22:St _ ((row 1 v9 c6 x2.2.2.length)::As) _:=S22;have e0:=Option.some.inj hm;subst e0;exact Hh [_] rfl ⟨rfl,trivial⟩ ⟨_,L0,_,_,S22,rfl,h13⟩
def EB (a0:UInt64)(a1:UInt64):Option UInt64:=bnd (((a1&&&2305843009213693951)+((F5 a0 3)|||(Dt a1 61)))) fun x1=>bnd (((x1&&&2305843009213693951)+(Dt x1 61))) fun x2=>Ae (if(decide ((x2.toNat:Int)≥2305843009213693951))=true then some (x2-2305843009213693951)else some x2) fun x3=>some x3
theorem JO {a0:UInt64}{a1:UInt64}{r:UInt64}(hm:EB a0 a1=some r):Sf prog 229 [.d (.u a0),.d (.u a1)] (.d (.u r)):=
 sp call229 func229 rfl ntmps229 rfl fun D0 As η0 m0 hd=>by
  unfold EB at hm;have hm:=AY hm;let x1:UInt64:=(((a1&&&2305843009213693951)+((F5 a0 3)|||(Dt a1 61))));have hm:=AY hm;let x2:UInt64:=(((x1&&&2305843009213693951)+(Dt x1 61)));obtain⟨x3,q3,hm⟩:=Aa hm;refine gj (fun(_:Unit)=>⟨[(5,.d (.u x3))],[],[],0⟩) (fun _=>True) (by kernel_rfl) (fun Jp bk1=> ?_) fun _ _=> ?_
  ·refine gi q3 (by kernel_rfl) (fun hc1 q3=> ?_) fun hc1 q3=> ?_
   ·skip;have e0:=Option.some.inj q3;subst e0;exact gb bk1 hd () trivial (by kernel_rfl)
   have e0:=Option.some.inj q3;subst e0;exact gb bk1 hd () trivial (by kernel_rfl)
  have e0:=Option.some.inj hm;subst e0;exact AN hd (by kernel_rfl)
def Dj (a0:UInt64):Option UInt64:=Ae (EB 0 a0) fun x1=>some x1
theorem Gn {a0:UInt64}{r:UInt64}(hm:Dj a0=some r):Sf prog 216 [.d (.u a0)] (.d (.u r)):=
 sp call216 func216 rfl ntmps216 rfl fun D0 As η0 m0 hd=>by
  unfold Dj at hm;obtain⟨x1,q1,hm⟩:=Aa hm;refine gc (fun _=>JO q1) (by kernel_rfl) ?_;have e0:=Option.some.inj hm;subst e0;exact AN hd (by kernel_rfl)
def Dm (a0:UInt64)(a1:UInt64):Option UInt64:=Ae (Dj a0) fun x1=>Ae (Dj a1) fun x2=>Ae (Dj (x1+x2)) fun x3=>some x3
theorem Pk {a0:UInt64}{a1:UInt64}{r:UInt64}(hm:Dm a0 a1=some r):Sf prog 200 [.d (.u a0),.d (.u a1)] (.d (.u r)):=
 sp call200 func200 rfl ntmps200 rfl fun D0 As η0 m0 hd=>by
  unfold Dm at hm;obtain⟨x1,q1,hm⟩:=Aa hm;refine gc (fun _=>Gn q1) (by kernel_rfl) ?_;obtain⟨x2,q2,hm⟩:=Aa hm;refine gc (fun _=>Gn q2) (by kernel_rfl) ?_;obtain⟨x3,q3,hm⟩:=Aa hm;refine gc (fun _=>Gn q3) (by kernel_rfl) ?_;have e0:=Option.some.inj hm;subst e0;exact AN hd (by kernel_rfl)
theorem Hj {m:Mem}{As:List Ow}{w:World}{a0:UInt64}{a1:UInt64}{r:UInt64}(S:St m As w)(hm:Dm a0 a1=some r):
  AB prog 200 #[vU a0,vU a1] w fun v w'=> ∃(M:Mem),m≤M∧St M (As) w'∧v=vU r:=by
 refine AB.mono ((Pk hm).2 none0 m As w [vU a0,vU a1] (.cons (.d (.u _)) (.cons (.d (.u _)) .nil)) (fun n h=>absurd rfl h) S) ?_;rintro v w' ⟨M,η',r',obs',n1,hle,_,⟨rfl,rfl,rfl⟩,hdom,hR,S'⟩;obtain rfl:=hR.u_inv;exact⟨M,hle,S',rfl⟩
def CY {σ:Type}(p1:σ→Int→UInt64→Option (UInt64×σ))(i1:Int)(s1:UInt64×UInt64×UInt64×σ):Option (UInt64×UInt64×UInt64×σ):=Ae (idx [s1.1,s1.2.1,s1.2.2.1] (i1:Int)) fun x3=>Ae (p1 s1.2.2.2 (i1:Int) x3) fun x4=>Ae (idx [s1.1,s1.2.1,s1.2.2.1] (i1:Int)) fun x5=>bnd (if(i1:Int)=0 then x4.1 else s1.1) fun x6=>bnd (if(i1:Int)=1 then x4.1 else s1.2.1) fun x7=>bnd (if(i1:Int)=2 then x4.1 else s1.2.2.1) fun x8=>some (x6,x7,x8,x4.2)
def BZ {σ:Type}(a0:UInt64×UInt64×UInt64)(p1:σ→Int→UInt64→Option (UInt64×σ))(s0:σ):Option ((UInt64×UInt64×UInt64)×σ):=Ae (Cx (CY p1) 3 0 (a0.1,a0.2.1,a0.2.2,s0)) fun x1=>some ((x1.1,x1.2.1,x1.2.2.1),x1.2.2.2)
theorem G4 {m:Mem}{As:List Ow}{w:World}{σ:Type}{R:σ→Mem→List Ow→Prop}{pb0:Nat}{a0:UInt64×UInt64×UInt64}{p1:σ→Int→UInt64→Option (UInt64×σ)}{f1:Value}{s0:σ}{X0:List Ow}{r:(UInt64×UInt64×UInt64)×σ}(S:St m ((bx pb0 [vU a0.1,vU a0.2.1,vU a0.2.2] 198)::(X0++As)) w)(hup: ∀{s M M' X},M≤M'→R s M X→R s M' X)(hX0:R s0 m X0)(cb1: ∀{m':Mem} {As':List Ow} {w':World} {s:σ} {X:List Ow} {b0:Int} {b1:UInt64} {r:UInt64×σ},St m' (X++As') w'→R s m' X→p1 s b0 b1=some r→DJ Tryz.prog f1 [vI b0,vU b1] w' fun v w''=> ∃(M:Mem) (X':List Ow),m'≤M∧St M (X'++As') w''∧R r.2 M X'∧v=vU r.1)(fc1:f1.cells= #[f1])(hm:BZ a0 p1 s0=some r):
  AB Tryz.prog 217 #[pt pb0 0,f1] w fun v w'=> ∃(M:Mem),m≤M∧∃(X:List Ow),St M ((bx pb0 [vU r.1.1,vU r.1.2.1,vU r.1.2.2] 198)::(X++As)) w'∧v= .tuple #[]∧R r.2 M X:=by
 unfold BZ at hm;have L0:=Mem.rfl' m;refine CD (args:=[pt pb0 0,f1]) Tryz.func217 rfl Tryz.ntmps217 (Nat.le_of_ble_eq_true rfl) ?_;refine Af ?_;refine Ad ?_;refine Ar (v:=pt pb0 0) rfl ?_;refine Ar (v:=vI 0) rfl ?_;refine Ag ?_;refine nrm ?_;obtain⟨x1,q1,hm⟩:=Aa hm;have L1:=Mem.rfl' m;refine J7 ?_;refine Bt [4,5,7,8,9,10,11,12,13,14,15,16,17,18,19,20,21] (fun f' w'=> ∃(M1:Mem) (X2:List Ow),m≤M1∧St M1 ((bx pb0 [vU x1.1,vU x1.2.1,vU x1.2.2.1] 198)::(X2++As)) w'∧R x1.2.2.2 M1 X2∧Cj f' []) ?_ ?_
 ·refine AD ?_;refine BV [4,5,7,8,9,10,11,12,13,14,15,16,17,18,19,20,21] (fun n1 f' w'=> ∃(i1:Nat) (s1:UInt64×UInt64×UInt64×σ) (m17:Mem) (X1:List Ow),n1=3-i1∧i1≤3∧Cx (CY p1) (3-i1) (i1:Int) s1=some x1∧m≤m17∧St m17 ((bx pb0 [vU s1.1,vU s1.2.1,vU s1.2.2.1] 198)::(X1++As)) w'∧R s1.2.2.2 m17 X1∧Cj f' [(7,vI (i1:Int))]) 3 ⟨0,(a0.1,a0.2.1,a0.2.2,s0),m,_,rfl,Nat.zero_le _,q1,L1,S,hX0,⟨rfl,trivial⟩⟩ ?_;rintro n1 f1 w1 ho ⟨i1,s1,m1,X1,hn,hi,q2,L3,S1,h1,ha⟩;obtain⟨u1,rfl⟩:=B1 (N:=22) ho ha;clear ho ha;have L2:=Mem.rfl' m1;clear S;refine Af ?_;refine Ad ?_;refine I0 (m:=(i1:Int)) (n:=3) rfl rfl ?_;refine Ag ?_;refine nrm ?_;refine Af ?_;refine Ch (t:=decide ((i1:Int)<(3:Int))) rfl (fun hc1=> ?_) (fun hc1=> ?_)
  ·have hlt1:i1<3:=by have:=of_decide_eq_true hc1; omega
   obtain⟨y1,q4,q3⟩:=GF q2 hlt1;unfold CY at q4;refine Bd ?_;refine nrm ?_;refine Af ?_;refine AD ?_;refine Af ?_;obtain⟨x3,q6,q4⟩:=Aa q4;have HM:GH [(9,fv (vI (i1:Int))),(10,fv (pt pb0 0)),(11,fv (pt pb0 (0+(i1:Int).toNat*1))),(12,fv (vU x3)),(4,fv (vI (i1:Int)))]:=⟨mv,mv,mv,mv,mv,trivial⟩;refine II HM 5 BW rfl rfl rfl [4,9,10,11,12] (fun L f M w=>St M ((bx pb0 [vU s1.1,vU s1.2.1,vU s1.2.2.1] 198)::(X1++As)) w) (St.drew S1 _) ?_ ?_
   ·refine⟨?_,?_,?_,?_,?_,trivial⟩
    ·exact flp HM rfl [] (fun _ _=>trivial) (fun _ _ q=>Ar (v:=vI (i1:Int)) rfl q) rfl
    ·exact flp HM rfl [] (fun _ _=>trivial) (fun _ _ q=>SA rfl q) rfl
    ·exact flp HM rfl [(10,_)] (fun K _=>⟨K 1 rfl,trivial⟩) (fun _ _ q=>KV (i:=(i1:Int)) rfl rfl Tryz.underlying198 Tryz.sizeOf22 (Ew q6).1 (Ew q6).2 q) rfl
    ·exact flp HM rfl [(11,_)] (fun K _=>⟨K 2 rfl,trivial⟩) (fun _ S5 q=>G9 (i:=0) (off:=0+(i1:Int).toNat*1) (cs:=[vU x3]) S5 rfl rfl Tryz.isAgg22 Tryz.sizeOf22 (by rcases Yt q6 with ⟨h,h'⟩|⟨h,h'⟩|⟨h,h'⟩<;>(rw[h,h']; rfl)) (fun _=>rfl) q) rfl
    ·exact flp HM rfl [(9,_)] (fun K _=>⟨K 0 rfl,trivial⟩) (fun _ _ q=>Bg (v:=vI (i1:Int)) rfl q) rfl
   intro L f7 w7 hall ⟨m7,L14,S7,K,hO⟩;have d4:L 4=true:=hall 4 (by decide);have e4:=K 4 d4;have d3:L 3=true:=hall 3 (by decide);have e5:=K 3 d3;obtain⟨u7,rfl⟩:=B1 (N:=22) (L:=[(4,vI (i1:Int)),(12,vU x3)]) hO ⟨e4,e5,trivial⟩;replace S7:St _ ((bx pb0 [vU s1.1,vU s1.2.1,vU s1.2.2.1] 198)::(X1++As)) _:=S7;replace h1:=hup L14 h1;replace L2:=Mem.tr L2 L14;clear S1;refine Bg (v:=vU x3) rfl ?_;refine Ag ?_;refine nrm ?_;obtain⟨x4,q7,q4⟩:=Aa q4;have HM:GH [(13,fv (pt pb0 0)),(14,fv (vI (i1:Int))),(15,fv f1),(16,fv (vI (i1:Int))),(17,fv (vU x3)),(18,fv (vU x4.1)),(19,fv (pt pb0 0))]:=⟨mv,mv,mv,mv,mv,mv,mv,trivial⟩;refine II HM 7 BW rfl rfl rfl [13,14,15,16,17,18,19] (fun L f M w=> ∃(X3:List Ow),((L 5=false→R s1.2.2.2 M X3)∧(L 5=true→R x4.2 M X3))∧St M ((bx pb0 [vU s1.1,vU s1.2.1,vU s1.2.2.1] 198)::(X3++As)) w) (⟨X1,⟨fun _=>h1,fun hx=>ff hx⟩,St.drew S7 _⟩) ?_ ?_
   ·refine⟨?_,?_,?_,?_,?_,?_,?_,trivial⟩
    ·exact flp HM rfl [] (fun _ _=>trivial) (fun _ _ q=>Ar (v:=pt pb0 0) rfl q) rfl
    ·exact flp HM rfl [] (fun _ _=>trivial) (fun _ _ q=>Ar (v:=vI (i1:Int)) rfl q) rfl
    ·exact flp HM rfl [] (fun _ _=>trivial) (fun _ _ q=>Ar (v:=f1) rfl q) rfl
    ·exact flp HM rfl [] (fun _ _=>trivial) (fun _ _ q=>Ar (v:=vI (i1:Int)) rfl q) rfl
    ·exact flp HM rfl [] (fun _ _=>trivial) (fun _ _ q=>Ar (v:=vU x3) rfl q) rfl
    ·intro L f13 w13 hL hd hc ⟨m13,L25,⟨X3,C6,S13⟩,K,hO⟩;have d2:L 2=true:=dep hd rfl;have e6:=K 2 d2;have d3:L 3=true:=dep hd rfl;have e7:=K 3 d3;have d4:L 4=true:=dep hd rfl;have e8:=K 4 d4;have d5:L 5=false:=hL;obtain⟨u13,rfl⟩:=B1 (N:=22) (L:=[(15,f1),(16,vI (i1:Int)),(17,vU x3)]) hO ⟨e6,e7,e8,trivial⟩;replace S13:St _ ((bx pb0 [vU s1.1,vU s1.2.1,vU s1.2.2.1] 198)::(X3++As)) _:=S13;have h3:=C6.1 d5;replace S13:St _ ((bx pb0 [vU s1.1,vU s1.2.1,vU s1.2.2.1] 198)::(X3++As)) _:=S13;have L26:=Mem.rfl' m13;have S14:=St.absF (L:=[bx pb0 [vU s1.1,vU s1.2.1,vU s1.2.2.1] 198]) (X:=X3) (As:=As) S13;refine FX rfl (cb1 S14 h3 q7) rfl ?_;rintro _ w14 ⟨m14,X4,l1,S15,h4,rfl⟩;replace S15:=St.absF (L:=X4) (X:=[bx pb0 [vU s1.1,vU s1.2.1,vU s1.2.2.1] 198]) (As:=As) S15;clear S14;replace L26:=Mem.tr L26 l1;replace S15:St _ ((bx pb0 [vU s1.1,vU s1.2.1,vU s1.2.2.1] 198)::(X4++As)) _:=S15;clear S13;refine wpn ?_;refine⟨m14,Mem.tr L25 L26,⟨X4,⟨fun hx=>tf rfl hx,fun _=>h4⟩,?_⟩,Ii HM rfl K L26 rfl rfl rfl,FC⟩;exact S15
    ·exact flp HM rfl [(13,_)] (fun K _=>⟨K 0 rfl,trivial⟩) (fun _ _ q=>SA rfl q) rfl
   intro L f15 w16 hall ⟨m16,L29,⟨X3,C8,S17⟩,K,hO⟩;have d1:L 1=true:=hall 1 (by decide);have e10:=K 1 d1;have d5:L 5=true:=hall 5 (by decide);have e11:=K 5 d5;have d6:L 6=true:=hall 6 (by decide);have e12:=K 6 d6;obtain⟨u15,rfl⟩:=B1 (N:=22) (L:=[(14,vI (i1:Int)),(18,vU x4.1),(19,pt pb0 0)]) hO ⟨e10,e11,e12,trivial⟩;replace S17:St _ ((bx pb0 [vU s1.1,vU s1.2.1,vU s1.2.2.1] 198)::(X3++As)) _:=S17;have h5:=C8.2 d5;replace S17:St _ ((bx pb0 [vU s1.1,vU s1.2.1,vU s1.2.2.1] 198)::(X3++As)) _:=S17;replace L2:=Mem.tr L2 L29;clear S7;obtain⟨x5,q8,q4⟩:=Aa q4;refine KV (i:=(i1:Int)) rfl rfl Tryz.underlying198 Tryz.sizeOf22 (Ew q8).1 (Ew q8).2 ?_;obtain⟨x6,q9,q4⟩:=Dd q4;obtain⟨x7,q10,q4⟩:=Dd q4;obtain⟨x8,q11,q4⟩:=Dd q4;refine XA (i:=0) (off:=0+(i1:Int).toNat*1) S17 rfl rfl rfl Tryz.sizeOf22 (RT.all (Ic rfl KY)) (by rcases Yt q8 with ⟨h,h'⟩|⟨h,h'⟩|⟨h,h'⟩<;>(rw[h]; exact Nat.le_of_ble_eq_true rfl)) ?_;intro w17 S18;replace S18:=St.cellsTo (i:=0) (l':=[vU x6,vU x7,vU x8]) S18 (by rcases Yt q8 with ⟨h,h'⟩|⟨h,h'⟩|⟨h,h'⟩<;>(simp only[q9,q10,q11,h]; rfl)) rfl;replace S18:St _ ((bx pb0 [vU x6,vU x7,vU x8] 198)::(X3++As)) _:=S18;clear S17;refine Ag ?_;refine Kf ?_;refine nrm ?_;refine Ad ?_;refine FI (m:=(i1:Int)) (n:=1) rfl rfl ?_;refine Ar (v:=vI (w64 ((i1:Int)+1))) rfl ?_;refine Ag ?_;refine nrm ?_;have e0:=Option.some.inj q4;subst e0;exact⟨FC,_,(by omega),⟨i1+1,(x6,x7,x8,x4.2),m16,_,rfl,hlt1,q3,Mem.tr L3 L2,S18,h5,⟨congrArg (Value.int .i64) (A5 hlt1 (by decide)),trivial⟩⟩⟩
  have hlt1: ¬i1<3:=by have:=of_decide_eq_false hc1; omega
  have e:=Eq.symm (FA q2 hlt1);subst e;refine CX ?_;refine thE ?_;refine thE ?_;refine exB ?_;refine nrm ?_;exact⟨FC,m1,_,Mem.tr L3 L2,S1,h1,trivial⟩
 rintro f16 w18 ho ⟨m18,X2,l2,S19,h2,ha⟩;obtain⟨u16,rfl⟩:=B1 (N:=22) ho ha;clear ho ha;replace L0:=Mem.tr L0 l2;clear S;refine RJ ?_;intro we hpd;replace S19:=St.pd S19 hpd;have e0:=Option.some.inj hm;subst e0;exact Hh [] rfl trivial ⟨_,L0,_,S19,rfl,h2⟩
end Go.Proofs.YtbajlmaijjcbmaaGreatDoor
