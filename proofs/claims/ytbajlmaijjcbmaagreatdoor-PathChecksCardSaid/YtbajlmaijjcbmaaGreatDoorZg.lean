/- The walks of some functions, by the executor, written by program. Conditions: none. -/
import Derived.Test.YtbajlmaijjcbmaaGreatDoorZf
set_option linter.unusedSimpArgs false
set_option linter.unusedVariables false
set_option maxHeartbeats 20000000
set_option maxRecDepth 100000
namespace Go.Proofs.YtbajlmaijjcbmaaGreatDoor
open Go Go.Gw Go.Ax Tryz
attribute [local irreducible] Go.Ax.Go
def Em (a0:List UInt8):Option Bool:=Ac (gu ((a0.length:Int)==1) (idx a0 0)) fun x1=>Ac (gu (((a0.length:Int)==1)&&(!((x1.toNat:Int)==0))) (idx a0 0)) fun x2=>bnd ((((a0.length:Int)==1)&&(((x1.toNat:Int)==0)||((x2.toNat:Int)==255)))) fun x3=>some x3
theorem QA {a0:List UInt8}{r:Bool}(hm:Em a0=some r):Sf prog 252 [sl eB a0] (.d (.t r)):=
 sp call252 func252 rfl ntmps252 rfl fun D0 As η0 m0 hd=>by
  unfold Em at hm;obtain⟨x1,q1,hm⟩:=Aa hm;refine JT (k:=1) (E:=eB) (fun _=>rfl) (fun h=>En h q1) ?_;obtain⟨x2,q2,hm⟩:=Aa hm;refine JT (k:=1) (E:=eB) (fun _=>rfl) (fun h=>En h q2) ?_;have hm:=AO hm;let x3:Bool:=((((a0.length:Int)==1)&&(((x1.toNat:Int)==0)||((x2.toNat:Int)==255))));have e0:=Option.some.inj hm;subst e0;exact Aq hd
def FV (a0:List UInt8):Option Bool:=if((a0.length:Int)==0)=true then some false else if((a0.length:Int)==1)=true then some true else Ac (idx a0 1) fun x1=>Ac (gu (decide ((a0.length:Int)≤8)) (idx a0 0)) fun x2=>bnd (((decide ((a0.length:Int)≤8))&&((x2.toNat:Int) !=((toB (-((Wg x1 7).toNat:Int))).toNat:Int)))) fun x3=>some x3
theorem NZ {a0:List UInt8}{r:Bool}(hm:FV a0=some r):Sf prog 157 [sl eB a0] (.d (.t r)):=
 sp call157 func157 rfl ntmps157 rfl fun D0 As η0 m0 hd=>by
  unfold FV at hm;refine gi hm (fun hc1 hm=> ?_) fun hc1 hm=> ?_
  ·skip;have e0:=Option.some.inj hm;subst e0;exact Aq hd
  refine gi hm (fun hc2 hm=> ?_) fun hc2 hm=> ?_
  ·skip;have e0:=Option.some.inj hm;subst e0;exact Aq hd
  obtain⟨x1,q1,hm⟩:=Aa hm;refine Ga (k:=1) (E:=eB) (fun _=>rfl) (fun _=>q1) ?_;obtain⟨x2,q2,hm⟩:=Aa hm;refine JT (k:=1) (E:=eB) (fun _=>rfl) (fun h=>En h q2) ?_;have hm:=AO hm;let x3:Bool:=(((decide ((a0.length:Int)≤8))&&((x2.toNat:Int) !=((toB (-((Wg x1 7).toNat:Int))).toNat:Int))));have e0:=Option.some.inj hm;subst e0;exact Aq hd
theorem TE {m:Mem}{As:List Ow}{w:World}{a0:List UInt8}{a0v0:Value}{r:Bool}(S:St m As w)(a0h0:SlR m a0v0 a0)(hm:FV a0=some r):
  AB prog 157 #[a0v0] w fun v w'=> ∃(M:Mem),m≤M∧St M (As) w'∧v=vb r:=by
 refine AB.mono ((NZ hm).2 none0 m As w [a0v0] (.cons (.d (Br.toS Br.b a0h0)) .nil) (fun n h=>absurd rfl h) S) ?_;rintro v w' ⟨M,η',r',obs',n1,hle,_,⟨rfl,rfl,rfl⟩,hdom,hR,S'⟩;obtain rfl:=hR.t_inv;exact⟨M,hle,S',rfl⟩
def JE (a0:List UInt8):Option Bool:=some true
theorem Qz {a0:List UInt8}{r:Bool}(hm:JE a0=some r):Sf prog 253 [sl eB a0] (.d (.t r)):=
 sp call253 func253 rfl ntmps253 rfl fun D0 As η0 m0 hd=>by
  unfold JE at hm;have e0:=Option.some.inj hm;subst e0;exact Aq hd
def GF (a0:UInt8):Option Bool:=bnd (((decide ((a0.toNat:Int)<32))||(decide ((a0.toNat:Int)>126)))) fun x1=>some x1
theorem N0 {a0:UInt8}{r:Bool}(hm:GF a0=some r):Sf prog 256 [.d (.b a0)] (.d (.t r)):=
 sp call256 func256 rfl ntmps256 rfl fun D0 As η0 m0 hd=>by
  unfold GF at hm;have hm:=AO hm;let x1:Bool:=(((decide ((a0.toNat:Int)<32))||(decide ((a0.toNat:Int)>126))));have e0:=Option.some.inj hm;subst e0;exact Aq hd
def Ap (a0:List UInt8)(i1:Int)(s1:Unit):Option ((Unit)⊕Int):=Ac (idx a0 (i1:Int)) fun x3=>Ac (GF x3) fun x4=>if x4=true then some (.inr (i1:Int))else some (.inl ())
def BJ (a0:List UInt8):Option Int:=Ac (Ep (Ap a0) a0.length 0 ()) fun x1=>match x1 with| .inr r=>some r| .inl y1=>some (-1)
theorem Gd {a0:List UInt8}{r:Int}(hm:BJ a0=some r):Sf prog 258 [sl eB a0,.fn (.func 256) [] []] (.d (.i r)):=
 sp call258 func258 rfl ntmps258 rfl fun D0 As η0 m0 hd=>by
  unfold BJ at hm;obtain⟨x1,q1,hm⟩:=Aa hm;refine PU 0 (E:=eB) (xs:=a0) 6 fun hle1=> ?_;refine gjU 0 (fun(y1:Unit)=>⟨[],[],[],0⟩) (fun y1=>x1= .inl y1) (fun Jp bk1=> ?_) fun y1 hy=> ?_
  ·refine gl hd (fun(p:Int×(Unit))=>let (p0,_):=p; ⟨[(0,sl eB a0),(1,.fn (.func 256) [] []),(7,.d (.i (a0.length:Int))),(8,.d (.i p0))],[],[],0⟩) (fun p=> ∃i:Nat,p.1=(i:Int)∧i≤a0.length∧Ep (Ap a0) (a0.length-i) (i:Int) p.2=some x1) (fun p=>a0.length-p.1.toNat) (0,()) ⟨0,rfl,Nat.zero_le _,q1⟩ ?_;rintro⟨_,s1⟩ ⟨i1,rfl,hi,q2⟩ Jl bl1;refine gi' (b:=decide ((i1:Int)<(a0.length:Int))) (fun hc2=> ?_) fun hc2=> ?_
   ·have hlt1:i1<a0.length:=by have:=of_decide_eq_true hc2; omega
    obtain⟨y2,q4,q3⟩:=HS q2 hlt1;unfold Ap at q4;obtain⟨x3,q6,q4⟩:=Aa q4;refine Ga (k:=1) (E:=eB) (fun _=>rfl) (fun _=>q6) ?_;obtain⟨x4,q7,q4⟩:=Aa q4;refine gc (fun _=>N0 q7) ?_;refine gi q4 (fun hc1 q4=> ?_) fun hc1 q4=> ?_
    ·skip;cases q4;rcases q3 with ⟨sn,e,_⟩|⟨tn,e,e2⟩
     ·cases e
     cases e;cases e2;dsimp only at hm;have e0:=Option.some.inj hm;subst e0;exact Aq hd
    have e0:=Option.some.inj q4;subst e0;rcases q3 with ⟨sn,e,q3'⟩|⟨tn,e,_⟩
    ·have e:=Sum.inl.inj e;subst e;exact gb bl1 hd (w64 ((i1:Int)+1),_) ⟨⟨i1+1,Bx hlt1 hle1,by omega,q3'⟩,IC hlt1 hle1⟩
    cases AM e
   have hlt1: ¬i1<a0.length:=by have:=of_decide_eq_false hc2; omega
   have e:=GL q2 hlt1;cases e;exact gb bk1 hd _ rfl
  subst hy;dsimp only at hm;have e0:=Option.some.inj hm;subst e0;exact Aq hd
def Bt (a0:List UInt8):Option Bool:=Ac (BJ a0) fun x1=>some (decide (x1≥0))
theorem Fy {a0:List UInt8}{r:Bool}(hm:Bt a0=some r):Sf prog 255 [sl eB a0,.fn (.func 256) [] []] (.d (.t r)):=
 sp call255 func255 rfl ntmps255 rfl fun D0 As η0 m0 hd=>by
  unfold Bt at hm;obtain⟨x1,q1,hm⟩:=Aa hm;refine gc (fun _=>Gd q1) ?_;have e0:=Option.some.inj hm;subst e0;exact Aq hd
def GG (a0:List UInt8):Option Bool:=Ac (Bt a0) fun x1=>some (!x1)
theorem Qy {a0:List UInt8}{r:Bool}(hm:GG a0=some r):Sf prog 254 [sl eB a0] (.d (.t r)):=
 sp call254 func254 rfl ntmps254 rfl fun D0 As η0 m0 hd=>by
  unfold GG at hm;obtain⟨x1,q1,hm⟩:=Aa hm;refine gc (fun _=>Fy q1) ?_;have e0:=Option.some.inj hm;subst e0;exact Aq hd
def GD (a0:List UInt8):Option Bool:=some ((a0.length:Int)==0)
theorem Qx {a0:List UInt8}{r:Bool}(hm:GD a0=some r):Sf prog 257 [sl eB a0] (.d (.t r)):=
 sp call257 func257 rfl ntmps257 rfl fun D0 As η0 m0 hd=>by
  unfold GD at hm;have e0:=Option.some.inj hm;subst e0;exact Aq hd
def D6 (a0:Bool):Option Int:=if a0=true then some 0 else some 110
theorem MS {a0:Bool}{r:Int}(hm:D6 a0=some r):Sf prog 45 [.d (.t a0)] (.d (.i r)):=
 sp call45 func45 rfl ntmps45 rfl fun D0 As η0 m0 hd=>by
  unfold D6 at hm;refine gi hm (fun hc1 hm=> ?_) fun hc1 hm=> ?_
  ·skip;have e0:=Option.some.inj hm;subst e0;exact Aq hd
  have e0:=Option.some.inj hm;subst e0;exact Aq hd
def Ba (a0:ByteArray)(a1:UInt8):Option Int:=some (Vb a0 a1)
theorem GV {a0:ByteArray}{a1:UInt8}{r:Int}(hm:Ba a0 a1=some r):Sf prog 223 [.d (.s a0),.d (.b a1)] (.d (.i r)):=
 sp call223 func223 rfl ntmps223 rfl fun D0 As η0 m0 hd=>by
  unfold Ba at hm;refine gext (F:=Vb) (p:=a0) (q:=a1) func232 (extIxb (by kernel_rfl) (by kernel_rfl) (by kernel_rfl) (by kernel_rfl)) ?_;have e0:=Option.some.inj hm;subst e0;exact Aq hd
def Ay (a0:ByteArray)(a1:ByteArray):Option Int:=bnd ((((a1.size:Int)==0)||(eqS a1 a0))) fun x1=>if x1=true then some 0 else if((a1.size:Int)==1)=true then Ac (idx a1.data.toList 0) fun x2=>Ac (Ba a0 x2) fun x3=>some x3 else bnd ((decide ((a1.size:Int)≥(a0.size:Int)))) fun x4=>if x4=true then some (-1)else none
theorem EG {a0:ByteArray}{a1:ByteArray}{r:Int}(hm:Ay a0 a1=some r):Sf prog 211 [.d (.s a0),.d (.s a1)] (.d (.i r)):=
 sp call211 func211 rfl ntmps211 rfl fun D0 As η0 m0 hd=>by
  unfold Ay at hm;have hm:=AO hm;let x1:Bool:=((((a1.size:Int)==0)||(eqS a1 a0)));refine gi hm (fun hc1 hm=> ?_) fun hc1 hm=> ?_
  ·skip;have e0:=Option.some.inj hm;subst e0;exact Aq hd
  refine gi hm (fun hc2 hm=> ?_) fun hc2 hm=> ?_
  ·skip;obtain⟨x2,q2,hm⟩:=Aa hm;refine SN (fun _=>q2) ?_;obtain⟨x3,q3,hm⟩:=Aa hm;refine gc (fun _=>GV q3) ?_;have e0:=Option.some.inj hm;subst e0;exact Aq hd
  have hm:=AO hm;let x4:Bool:=((decide ((a1.size:Int)≥(a0.size:Int))));refine gi hm (fun hc3 hm=> ?_) fun hc3 hm=> ?_
  ·skip;have e0:=Option.some.inj hm;subst e0;exact Aq hd
  cases hm
def Bi (a0:ByteArray)(a1:ByteArray):Option Int:=Ac (Ay a0 a1) fun x1=>some x1
theorem NL {a0:ByteArray}{a1:ByteArray}{r:Int}(hm:Bi a0 a1=some r):Sf prog 187 [.d (.s a0),.d (.s a1)] (.d (.i r)):=
 sp call187 func187 rfl ntmps187 rfl fun D0 As η0 m0 hd=>by
  unfold Bi at hm;obtain⟨x1,q1,hm⟩:=Aa hm;refine gc (fun _=>EG q1) ?_;have e0:=Option.some.inj hm;subst e0;exact Aq hd
theorem N9 {m:Mem}{As:List Ow}{w:World}{a0:ByteArray}{a1:ByteArray}{r:Int}(S:St m As w)(hm:Bi a0 a1=some r):
  AB prog 187 #[vS a0,vS a1] w fun v w'=> ∃(M:Mem),m≤M∧St M (As) w'∧v=vI r:=by
 refine AB.mono ((NL hm).2 none0 m As w [vS a0,vS a1] (.cons (.d (.s _)) (.cons (.d (.s _)) .nil)) (fun n h=>absurd rfl h) S) ?_;rintro v w' ⟨M,η',r',obs',n1,hle,_,⟨rfl,rfl,rfl⟩,hdom,hR,S'⟩;obtain rfl:=hR.i_inv;exact⟨M,hle,S',rfl⟩
def ER (a0:ByteArray)(a1:ByteArray):Option Int:=if((a1.size:Int)==0)=true then none else if((a1.size:Int)==1)=true then Ac (idx a1.data.toList 0) fun x1=>some (cntS a0 x1)else none
theorem NM {a0:ByteArray}{a1:ByteArray}{r:Int}(hm:ER a0 a1=some r):Sf prog 139 [.d (.s a0),.d (.s a1)] (.d (.i r)):=
 sp call139 func139 rfl ntmps139 rfl fun D0 As η0 m0 hd=>by
  unfold ER at hm;refine gi hm (fun hc1 hm=> ?_) fun hc1 hm=> ?_
  ·cases hm
  refine gi hm (fun hc2 hm=> ?_) fun hc2 hm=> ?_
  ·skip;obtain⟨x1,q1,hm⟩:=Aa hm;refine SN (fun _=>q1) ?_;refine gext (F:=cntS) (p:=a0) (q:=x1) func186 (extCnt (by kernel_rfl) (by kernel_rfl) (by kernel_rfl) (by kernel_rfl)) ?_;have e0:=Option.some.inj hm;subst e0;exact Aq hd
  cases hm
theorem Oa {m:Mem}{As:List Ow}{w:World}{a0:ByteArray}{a1:ByteArray}{r:Int}(S:St m As w)(hm:ER a0 a1=some r):
  AB prog 139 #[vS a0,vS a1] w fun v w'=> ∃(M:Mem),m≤M∧St M (As) w'∧v=vI r:=by
 refine AB.mono ((NM hm).2 none0 m As w [vS a0,vS a1] (.cons (.d (.s _)) (.cons (.d (.s _)) .nil)) (fun n h=>absurd rfl h) S) ?_;rintro v w' ⟨M,η',r',obs',n1,hle,_,⟨rfl,rfl,rfl⟩,hdom,hR,S'⟩;obtain rfl:=hR.i_inv;exact⟨M,hle,S',rfl⟩
def Ea {σ:Type}(k1:ByteArray)(s1:Unit):Option ((Unit)⊕((Unit)⊕(ByteArray×ByteArray×Int×σ))):=if(decide ((k1.size:Int)>0))=true then none else some (.inr (.inl ()))
def AF {σ:Type}(p0:σ→ByteArray→Option (Bool×σ))(k0:ByteArray)(k2:Int)(s2:ByteArray×σ):Option ((ByteArray×σ)⊕((ByteArray×σ)⊕(ByteArray×ByteArray×Int×σ))):=Ac (Bi s2.1 k0) fun x5=>if(decide (x5<0))=true then some (.inr (.inl (s2.1,s2.2)))else Ac (KP s2.1 0 (w64 (x5+k2))) fun x6=>Ac (p0 s2.2 x6) fun x7=>if(!x7.1)=true then some (.inr (.inr (k0,s2.1,k2,x7.2)))else Ac (KP s2.1 (w64 (x5+(k0.size:Int))) (s2.1.size:Int)) fun x8=>some (.inl (x8,x7.2))
def Bd {σ:Type}(p0:σ→ByteArray→Option (Bool×σ))(k0:ByteArray)(k1:ByteArray)(k2:Int)(s0:σ):Option (ByteArray×ByteArray×Int×σ):=
 if((k0.size:Int)==0)=true then
  Ac (iter (Ea k1) AR ()) fun x1=>match x1 with
  | .inr r=>some r
  | .inl y1=>
  some (k0,k1,k2,s0)
 else
 Ac (iter (AF p0 k0 k2) AR (k1,s0)) fun x3=>match x3 with
 | .inr r=>some r
 | .inl y3=>
 Ac (p0 y3.2 y3.1) fun x9=>
 some (k0,y3.1,k2,x9.2)
theorem KM {m:Mem}{As:List Ow}{w:World}{σ:Type}{R:σ→Mem→List Ow→Prop}{p0:σ→ByteArray→Option (Bool×σ)}{f0:Value}{kb0:Nat}{k0:ByteArray}{kb1:Nat}{k1:ByteArray}{kb2:Nat}{k2:Int}{s0:σ}{X0:List Ow}{r:ByteArray×ByteArray×Int×σ}(S:St m ((bx kb0 [vS k0] 9)::(bx kb1 [vS k1] 9)::(bx kb2 [vI k2] 3)::(X0++As)) w)(hup: ∀{s M M' X},M≤M'→R s M X→R s M' X)(hX0:R s0 m X0)(cb0: ∀{m':Mem} {As':List Ow} {w':World} {s:σ} {X:List Ow} {b0:ByteArray} {r:Bool×σ},St m' (X++As') w'→R s m' X→p0 s b0=some r→EN Tryz.prog f0 [vS b0] w' fun v w''=> ∃(M:Mem) (X':List Ow),m'≤M∧St M (X'++As') w''∧R r.2 M X'∧v=vb r.1)(fc0:f0.cells= #[f0])(hm:Bd p0 k0 k1 k2 s0=some r):
  AB Tryz.prog 212 #[f0,pt kb0 0,pt kb1 0,pt kb2 0] w fun v w'=> ∃(M:Mem),m≤M∧∃(X:List Ow),St M ((bx kb0 [vS r.1] 9)::(bx kb1 [vS r.2.1] 9)::(bx kb2 [vI r.2.2.1] 3)::(X++As)) w'∧v= .tuple #[]∧R r.2.2.2 M X:=by
 unfold Bd at hm;have L0:=Mem.rfl' m;refine C9 (args:=[f0,pt kb0 0,pt kb1 0,pt kb2 0]) Tryz.func212 rfl Tryz.ntmps212 (Nat.le_of_ble_eq_true rfl) ?_;refine Ag ?_;refine Ag ?_;refine Ae ?_;refine H8 (i:=0) (cs:=[vS k0]) S rfl rfl Tryz.isAgg9 Tryz.sizeOf9 rfl (fun _=>rfl) ?_;refine Sq (s:=k0) rfl Tryz.underlying9 ?_;refine s_eql (m:=(k0.size:Int)) (n:=0) rfl rfl ?_;refine Ah ?_;refine nrm ?_;refine Cz (t:=((k0.size:Int)==0)) rfl (fun hc1=> ?_) (fun hc1=> ?_)
 ·replace hm:=ifT hc1 hm;refine Ag ?_;obtain⟨x1,q1,hm⟩:=Aa hm;have L1:=Mem.rfl' m;refine A8 [5,6,12,13,14,15,16,17,18,19,20,21,22,23,24,25,26,27,28] (fun f' w'=> ∃(M1:Mem) (y1:Unit),x1= .inl y1∧m≤M1∧St M1 ((bx kb0 [vS k0] 9)::(bx kb1 [vS k1] 9)::(bx kb2 [vI k2] 3)::(X0++As)) w'∧Cl f' []) ?_ ?_
  ·refine Az ?_;refine B4 [5,6,12,13,14,15,16,17,18,19,20,21,22,23,24,25,26,27,28] (fun n1 f' w'=> ∃(s1:Unit) (m2:Mem),iter (Ea k1) n1 s1=some x1∧m≤m2∧St m2 ((bx kb0 [vS k0] 9)::(bx kb1 [vS k1] 9)::(bx kb2 [vI k2] 3)::(X0++As)) w'∧Cl f' []) AR ⟨(),m,q1,L1,S,trivial⟩ ?_;rintro n1 f1 w1 ho ⟨s1,m1,q2,L3,S1,ha⟩;obtain⟨u1,rfl⟩:=B3 (N:=52) ho ha;clear ho ha;replace hX0:=hup L3 hX0;have L2:=Mem.rfl' m1;clear S;cases n1 with
   |zero=>exact(An q2).elim
   |succ n1=>
    obtain⟨y2,q4,q3⟩:=Am q2;unfold Ea at q4;refine Ag ?_;refine Ag ?_;refine Ae ?_;refine H8 (i:=1) (cs:=[vS k1]) S1 rfl rfl Tryz.isAgg9 Tryz.sizeOf9 rfl (fun _=>rfl) ?_;refine Sq (s:=k1) rfl Tryz.underlying9 ?_;refine VW (m:=(k1.size:Int)) (n:=0) rfl rfl ?_;refine Ah ?_;refine nrm ?_;refine Cz (t:=(decide ((k1.size:Int)>0))) rfl (fun hc2=> ?_) (fun hc2=> ?_)
    ·replace q4:=ifT hc2 q4;cases q4
    replace q4:=ifF hc2 q4;refine CV ?_;refine thE ?_;refine thE ?_;refine exB ?_;refine nrm ?_;have e0:=Option.some.inj q4;subst e0;rcases q3 with ⟨sn,e,_⟩|e
    ·cases e
    ·cases e;exact⟨FI,m1,_,rfl,Mem.tr L3 L2,S1,trivial⟩
  rintro f2 w2 ho ⟨m3,y1,rfl,l1,S2,ha⟩;obtain⟨u2,rfl⟩:=B3 (N:=52) ho ha;clear ho ha;dsimp only at hm;replace hX0:=hup l1 hX0;replace L0:=Mem.tr L0 l1;clear S;refine Bw ?_;refine thR ?_;refine EE ?_;intro we hpd;replace S2:=St.pd S2 hpd;have e0:=Option.some.inj hm;subst e0;exact IW [] rfl trivial ⟨_,L0,_,S2,rfl,hX0⟩
 replace hm:=ifF hc1 hm;refine A6 ?_;refine nrm ?_;refine Ag ?_;obtain⟨x3,q6,hm⟩:=Aa hm;have L4:=Mem.rfl' m;refine A8 [7,8,29,30,31,32,33,34,35,36,37,38,39,40,41,42,43,44,45,46,47,48] (fun f' w'=> ∃(M2:Mem) (y3:ByteArray×σ) (X2:List Ow),x3= .inl y3∧m≤M2∧St M2 ((bx kb0 [vS k0] 9)::(bx kb1 [vS y3.1] 9)::(bx kb2 [vI k2] 3)::(X2++As)) w'∧R y3.2 M2 X2∧Cl f' []) ?_ ?_
 ·refine Az ?_;refine B4 [7,8,29,30,31,32,33,34,35,36,37,38,39,40,41,42,43,44,45,46,47,48] (fun n2 f' w'=> ∃(s2:ByteArray×σ) (m7:Mem) (X1:List Ow),iter (AF p0 k0 k2) n2 s2=some x3∧m≤m7∧St m7 ((bx kb0 [vS k0] 9)::(bx kb1 [vS s2.1] 9)::(bx kb2 [vI k2] 3)::(X1++As)) w'∧R s2.2 m7 X1∧Cl f' []) AR ⟨(k1,s0),m,_,q6,L4,S,hX0,trivial⟩ ?_;rintro n2 f3 w3 ho ⟨s2,m4,X1,q7,L6,S3,h1,ha⟩;obtain⟨u3,rfl⟩:=B3 (N:=52) ho ha;clear ho ha;have L5:=Mem.rfl' m4;clear S;cases n2 with
  |zero=>exact(An q7).elim
  |succ n2=>
   obtain⟨y4,q9,q8⟩:=Am q7;unfold AF at q9;refine Az ?_;refine Ag ?_;refine Ae ?_;refine H8 (i:=1) (cs:=[vS s2.1]) S3 rfl rfl Tryz.isAgg9 Tryz.sizeOf9 rfl (fun _=>rfl) ?_;refine H8 (i:=0) (cs:=[vS k0]) S3 rfl rfl Tryz.isAgg9 Tryz.sizeOf9 rfl (fun _=>rfl) ?_;obtain⟨x5,q11,q9⟩:=Aa q9;refine CJ Tryz.call187 (N9 (a0:=s2.1) (a1:=k0) S3 q11) rfl ?_;rintro _ w4 ⟨m5,l2,S4,rfl⟩;replace h1:=hup l2 h1;replace L5:=Mem.tr L5 l2;clear S3;replace S4:St _ ((bx kb0 [vS k0] 9)::(bx kb1 [vS s2.1] 9)::(bx kb2 [vI k2] 3)::(X1++As)) _:=S4;refine A4 (v:=vI x5) rfl ?_;refine Ah ?_;refine nrm ?_;refine Ag ?_;refine Ag ?_;refine Ae ?_;refine Ar (v:=vI x5) rfl ?_;refine KO (m:=x5) (n:=0) rfl rfl ?_;refine Ah ?_;refine nrm ?_;refine Cz (t:=(decide (x5<0))) rfl (fun hc3=> ?_) (fun hc3=> ?_)
   ·replace q9:=ifT hc3 q9;refine CV ?_;refine thE ?_;refine exN rfl ?_;refine thE ?_;refine exB ?_;refine nrm ?_;have e0:=Option.some.inj q9;subst e0;rcases q8 with ⟨sn,e,_⟩|e
    ·cases e
    ·cases e;exact⟨FI,m5,_,_,rfl,Mem.tr L6 L5,S4,h1,trivial⟩
   replace q9:=ifF hc3 q9;refine A6 ?_;refine nrm ?_;refine Ag ?_;refine Ae ?_;refine H8 (i:=1) (cs:=[vS s2.1]) S4 rfl rfl Tryz.isAgg9 Tryz.sizeOf9 rfl (fun _=>rfl) ?_;refine Ar (v:=vI x5) rfl ?_;refine H8 (i:=2) (cs:=[vI k2]) S4 rfl rfl Tryz.isAgg3 Tryz.sizeOf3 rfl (fun _=>rfl) ?_;refine FA (m:=x5) (n:=k2) rfl rfl ?_;obtain⟨x6,q12,q9⟩:=Aa q9;refine W7 (s:=s2.1) (z:=x6) (l:=0) (h:=(w64 (x5+k2))) rfl Tryz.underlying9 (.inl ⟨rfl,rfl⟩) (.inr ⟨_,_,rfl,rfl⟩) q12 ?_;refine A4 (v:=vS x6) rfl ?_;refine Ah ?_;refine nrm ?_;refine Ag ?_;refine Ag ?_;refine Ae ?_;refine Ar (v:=f0) rfl ?_;refine Ar (v:=vS x6) rfl ?_;obtain⟨x7,q13,q9⟩:=Aa q9;have S5:=St.absF (L:=[bx kb0 [vS k0] 9,bx kb1 [vS s2.1] 9,bx kb2 [vI k2] 3]) (X:=X1) (As:=As) S4;refine HB rfl (cb0 S5 h1 q13) rfl ?_;rintro _ w5 ⟨m6,X3,l3,S6,h3,rfl⟩;replace S6:=St.absF (L:=X3) (X:=[bx kb0 [vS k0] 9,bx kb1 [vS s2.1] 9,bx kb2 [vI k2] 3]) (As:=As) S6;clear S5;replace L5:=Mem.tr L5 l3;replace S6:St _ ((bx kb0 [vS k0] 9)::(bx kb1 [vS s2.1] 9)::(bx kb2 [vI k2] 3)::(X3++As)) _:=S6;clear S4;refine TN rfl ?_;refine Ah ?_;refine nrm ?_;refine Cz (t:=(!x7.1)) rfl (fun hc4=> ?_) (fun hc4=> ?_)
   ·replace q9:=ifT hc4 q9;refine Bw ?_;refine thR ?_;refine blR ?_;refine thR ?_;refine blR ?_;refine thR ?_;refine EE ?_;intro we hpd;replace S6:=St.pd S6 hpd;cases q9;rcases q8 with ⟨sn,e,_⟩|e
    ·cases e
    cases e;dsimp only at hm;have e0:=Option.some.inj hm;subst e0;exact IW [] rfl trivial ⟨_,(Mem.tr L0 (Mem.tr L6 L5)),_,S6,rfl,h3⟩
   replace q9:=ifF hc4 q9;refine A6 ?_;refine nrm ?_;refine Ae ?_;refine H8 (i:=1) (cs:=[vS s2.1]) S6 rfl rfl Tryz.isAgg9 Tryz.sizeOf9 rfl (fun _=>rfl) ?_;refine Ar (v:=vI x5) rfl ?_;refine H8 (i:=0) (cs:=[vS k0]) S6 rfl rfl Tryz.isAgg9 Tryz.sizeOf9 rfl (fun _=>rfl) ?_;refine Sq (s:=k0) rfl Tryz.underlying9 ?_;refine FA (m:=x5) (n:=(k0.size:Int)) rfl rfl ?_;obtain⟨x8,q14,q9⟩:=Aa q9;refine W7 (s:=s2.1) (z:=x8) (l:=(w64 (x5+(k0.size:Int)))) (h:=(s2.1.size:Int)) rfl Tryz.underlying9 (.inr ⟨_,_,rfl,rfl⟩) (.inl ⟨rfl,rfl⟩) q14 ?_;refine I5 (i:=1) S6 rfl rfl rfl Tryz.sizeOf9 (Jo rfl MD) rfl ?_;intro w6 S7;replace S7:St _ ((bx kb0 [vS k0] 9)::(bx kb1 [vS x8] 9)::(bx kb2 [vI k2] 3)::(X3++As)) _:=S7;clear S6;refine Ah ?_;refine MF ?_;refine nrm ?_;have e0:=Option.some.inj q9;subst e0;rcases q8 with ⟨sn,e,q8'⟩|e
   ·cases e;exact⟨FI,_,Nat.lt_succ_self _,⟨_,m6,_,q8',Mem.tr L6 L5,S7,h3,trivial⟩⟩
   ·cases e
 rintro f4 w7 ho ⟨m8,y3,X2,rfl,l4,S8,h2,ha⟩;obtain⟨u4,rfl⟩:=B3 (N:=52) ho ha;clear ho ha;dsimp only at hm;replace L0:=Mem.tr L0 l4;clear S;refine Ae ?_;refine Ar (v:=f0) rfl ?_;refine H8 (i:=1) (cs:=[vS y3.1]) S8 rfl rfl Tryz.isAgg9 Tryz.sizeOf9 rfl (fun _=>rfl) ?_;obtain⟨x9,q15,hm⟩:=Aa hm;have S9:=St.absF (L:=[bx kb0 [vS k0] 9,bx kb1 [vS y3.1] 9,bx kb2 [vI k2] 3]) (X:=X2) (As:=As) S8;refine HB rfl (cb0 S9 h2 q15) rfl ?_;rintro _ w8 ⟨m9,X4,l5,S10,h4,rfl⟩;replace S10:=St.absF (L:=X4) (X:=[bx kb0 [vS k0] 9,bx kb1 [vS y3.1] 9,bx kb2 [vI k2] 3]) (As:=As) S10;clear S9;replace L0:=Mem.tr L0 l5;replace S10:St _ ((bx kb0 [vS k0] 9)::(bx kb1 [vS y3.1] 9)::(bx kb2 [vI k2] 3)::(X4++As)) _:=S10;clear S8;refine Ah ?_;refine V2 ?_;intro we hpd;replace S10:=St.pd S10 hpd;have e0:=Option.some.inj hm;subst e0;exact IW [] rfl trivial ⟨_,L0,_,S10,rfl,h4⟩
def Gi (a0:ByteArray)(a1:ByteArray)(a2:Int):Option (ByteArray×ByteArray×Int):=some (a1,a0,a2)
theorem Lt {m:Mem}{As:List Ow}{w:World}{a0:ByteArray}{a1:ByteArray}{a2:Int}{r:ByteArray×ByteArray×Int}(S:St m (As) w)(hm:Gi a0 a1 a2=some r):
  AB Tryz.prog 188 #[vS a0,vS a1,vI a2] w fun v w'=> ∃(M:Mem),m≤M∧∃(rk0_0:Nat) (rk0_1:Nat) (rk0_2:Nat),St M ((bx rk0_0 [vS r.1] 9)::(bx rk0_1 [vS r.2.1] 9)::(bx rk0_2 [vI r.2.2] 3)::As) w'∧v= .func (.func 212) #[] #[pt rk0_0 0,pt rk0_1 0,pt rk0_2 0]:=by
 unfold Gi at hm;have L0:=Mem.rfl' m;refine C9 (args:=[vS a0,vS a1,vI a2]) Tryz.func188 rfl Tryz.ntmps188 (Nat.le_of_ble_eq_true rfl) ?_;refine Ag ?_;refine Ae ?_;refine Mz S rfl ?_;intro b1 w1 S1;replace S1:St _ ((bx b1 [vS a0] 9)::As) _:=S1;clear S;refine Mz S1 rfl ?_;intro b2 w2 S2;replace S2:St _ ((bx b2 [vS a1] 9)::(bx b1 [vS a0] 9)::As) _:=S2;clear S1;refine Mz S2 rfl ?_;intro b3 w3 S3;replace S3:St _ ((bx b3 [vI a2] 3)::(bx b2 [vS a1] 9)::(bx b1 [vS a0] 9)::As) _:=S3;clear S2;refine A4 (v:= .nilFunc) rfl ?_;refine Ah ?_;refine nrm ?_;refine Ag ?_;refine Ae ?_;refine My (caps:=[pt b2 0,pt b1 0,pt b3 0]) rfl ?_;refine A4 (v:= .func (.func 212) #[] #[pt b2 0,pt b1 0,pt b3 0]) rfl ?_;refine Ah ?_;refine nrm ?_;refine Bw ?_;refine EE ?_;intro we hpd;replace S3:=St.pd S3 hpd;have S4:St _ ((bx b2 [vS a1] 9)::(bx b1 [vS a0] 9)::(bx b3 [vI a2] 3)::As) _:=St.perm S3 (List.Perm.trans (List.Perm.swap _ _ _) (List.Perm.cons _ (List.Perm.swap _ _ _)));have e0:=Option.some.inj hm;subst e0;exact IW [_] rfl ⟨rfl,trivial⟩ ⟨_,L0,_,_,_,S4,rfl⟩
def Gj (a0:ByteArray)(a1:ByteArray):Option (ByteArray×ByteArray×Int):=Ac (Gi a0 a1 0) fun x1=>some (x1.1,x1.2.1,x1.2.2)
theorem Lu {m:Mem}{As:List Ow}{w:World}{a0:ByteArray}{a1:ByteArray}{r:ByteArray×ByteArray×Int}(S:St m (As) w)(hm:Gj a0 a1=some r):
  AB Tryz.prog 140 #[vS a0,vS a1] w fun v w'=> ∃(M:Mem),m≤M∧∃(rk0_0:Nat) (rk0_1:Nat) (rk0_2:Nat),St M ((bx rk0_0 [vS r.1] 9)::(bx rk0_1 [vS r.2.1] 9)::(bx rk0_2 [vI r.2.2] 3)::As) w'∧v= .func (.func 212) #[] #[pt rk0_0 0,pt rk0_1 0,pt rk0_2 0]:=by
 unfold Gj at hm;have L0:=Mem.rfl' m;refine C9 (args:=[vS a0,vS a1]) Tryz.func140 rfl Tryz.ntmps140 (Nat.le_of_ble_eq_true rfl) ?_;refine Ag ?_;refine Ae ?_;refine A4 (v:= .nilFunc) rfl ?_;refine Ah ?_;refine nrm ?_;refine Ag ?_;refine Ae ?_;refine Ar (v:=vS a0) rfl ?_;refine Ar (v:=vS a1) rfl ?_;obtain⟨x1,q1,hm⟩:=Aa hm;refine CJ Tryz.call188 (Lt (a0:=a0) (a1:=a1) (a2:=0) S q1) rfl ?_;rintro _ w1 ⟨m1,l1,b1,b2,b3,S1,rfl⟩;replace L0:=Mem.tr L0 l1;clear S;replace S1:St _ ((bx b1 [vS x1.1] 9)::(bx b2 [vS x1.2.1] 9)::(bx b3 [vI x1.2.2] 3)::As) _:=S1;refine A4 (v:= .func (.func 212) #[] #[pt b1 0,pt b2 0,pt b3 0]) rfl ?_;refine Ah ?_;refine nrm ?_;refine Bw ?_;refine EE ?_;intro we hpd;replace S1:=St.pd S1 hpd;have e0:=Option.some.inj hm;subst e0;exact IW [_] rfl ⟨rfl,trivial⟩ ⟨_,L0,_,_,_,S1,rfl⟩
def CF (a0:Int):Option Bool:=bnd ((((decide ((97:Int)≤a0))&&(decide (a0≤122)))||((decide ((48:Int)≤a0))&&(decide (a0≤57))))) fun x1=>some x1
theorem J1 {a0:Int}{r:Bool}(hm:CF a0=some r):Sf prog 189 [.d (.r a0)] (.d (.t r)):=
 sp call189 func189 rfl ntmps189 rfl fun D0 As η0 m0 hd=>by
  unfold CF at hm;have hm:=AO hm;let x1:Bool:=((((decide ((97:Int)≤a0))&&(decide (a0≤122)))||((decide ((48:Int)≤a0))&&(decide (a0≤57)))));have e0:=Option.some.inj hm;subst e0;exact Aq hd
def CA (a0:Int):Option Bool:=Ac (gu (!(a0==45)) (CF a0)) fun x1=>some ((a0==45)||x1)
theorem Qs {a0:Int}{r:Bool}(hm:CA a0=some r):Sf prog 190 [.d (.r a0)] (.d (.t r)):=
 sp call190 func190 rfl ntmps190 rfl fun D0 As η0 m0 hd=>by
  unfold CA at hm;obtain⟨x1,q1,hm⟩:=Aa hm;refine gcG (fun h=>J1 (En h q1)) ?_;have e0:=Option.some.inj hm;subst e0;exact Aq hd
def AW (a0:ByteArray)(s1:Nat):Option ((Nat)⊕((Nat)⊕Bool)):=if s1<a0.size then bnd (((Utf8.decode a0 s1).1:Int)) fun x3=>Ac (gu ((s1:Int)==(w64 ((a0.size:Int)-1))) (CF x3)) fun x4=>bnd ((((s1:Int)==(w64 ((a0.size:Int)-1)))&&x4)) fun x5=>if x5=true then some (.inl (s1+(Utf8.decode a0 s1).2))else bnd (((s1:Int)==(w64 ((a0.size:Int)-1)))) fun x6=>if x6=true then some (.inr (.inr false))else Ac (gu ((s1:Int)==0) (CF x3)) fun x7=>bnd ((((s1:Int)==0)&&(x7||(x3==95)))) fun x8=>if x8=true then some (.inl (s1+(Utf8.decode a0 s1).2))else Ac (gu (!((s1:Int)==0)) (CA x3)) fun x9=>if(((s1:Int)==0)||(!x9))=true then some (.inr (.inr false))else some (.inl (s1+(Utf8.decode a0 s1).2))else some (.inr (.inl s1))
def DF (a0:ByteArray):Option Bool:=if((eqS a0 (⟨#[]⟩:ByteArray))||(decide ((a0.size:Int)>16)))=true then some false else Ac (iter (AW a0) AR 0) fun x1=>match x1 with| .inr r=>some r| .inl y1=>some true
theorem Qr {a0:ByteArray}{r:Bool}(hm:DF a0=some r):Sf prog 141 [.d (.s a0)] (.d (.t r)):=
 sp call141 func141 rfl ntmps141 rfl fun D0 As η0 m0 hd=>by
  unfold DF at hm;refine gi hm (fun hc1 hm=> ?_) fun hc1 hm=> ?_
  ·skip;have e0:=Option.some.inj hm;subst e0;exact Aq hd
  refine grng a0 ?_;obtain⟨x1,q1,hm⟩:=Aa hm;refine gjU 0 (fun(y1:Nat)=>⟨[(13,.ow 0)],[(0,.hp 0 (.it a0 y1))],[],1⟩) (fun y1=>x1= .inl y1) (fun Jp bk1=> ?_) fun y1 hy=> ?_
  ·refine gl hd (fun(p:Nat×(Nat))=>let (p0,p_0):=p; ⟨[(0,.d (.s a0)),(13,.ow 0)],[(0,.hp 0 (.it a0 p_0))],[],1⟩) (fun p=>iter (AW a0) p.1 p.2=some x1) (fun p=>p.1) (AR,0) q1 ?_;rintro⟨n1,s1⟩ q2 Jl bl1;cases n1 with
   |zero=>exact(An q2).elim
   |succ n1=>
    obtain⟨y2,q4,q3⟩:=Am q2;unfold AW at q4;refine gnx q4 (fun hc2 q4=> ?_) fun hc2 q4=> ?_
    ·skip;refine gi' (b:=true) (fun _=> ?_) (fun h=>by cases h);have q4:=AO q4;let x3:Int:=(((Utf8.decode a0 s1).1:Int));obtain⟨x4,q7,q4⟩:=Aa q4;refine gcG (fun h=>J1 (En h q7)) ?_;have q4:=AO q4;let x5:Bool:=((((s1:Int)==(w64 ((a0.size:Int)-1)))&&x4));refine gi q4 (fun hc3 q4=> ?_) fun hc3 q4=> ?_
     ·skip;have e0:=Option.some.inj q4;subst e0;rcases q3 with ⟨sn,e,q3'⟩|e
      ·have e:=Sum.inl.inj e;subst e;exact gb bl1 hd (n1,_) ⟨q3',Nat.lt_succ_self _⟩
      cases AM e
     have q4:=AO q4;let x6:Bool:=(((s1:Int)==(w64 ((a0.size:Int)-1))));refine gi q4 (fun hc4 q4=> ?_) fun hc4 q4=> ?_
     ·skip;cases q4;rcases q3 with ⟨sn,e,_⟩|e
      ·cases e
      cases e;dsimp only at hm;have e0:=Option.some.inj hm;subst e0;exact Aq hd
     obtain⟨x7,q10,q4⟩:=Aa q4;refine gcG (fun h=>J1 (En h q10)) ?_;have q4:=AO q4;let x8:Bool:=((((s1:Int)==0)&&(x7||(x3==95))));refine gi q4 (fun hc5 q4=> ?_) fun hc5 q4=> ?_
     ·skip;have e0:=Option.some.inj q4;subst e0;rcases q3 with ⟨sn,e,q3'⟩|e
      ·have e:=Sum.inl.inj e;subst e;exact gb bl1 hd (n1,_) ⟨q3',Nat.lt_succ_self _⟩
      cases AM e
     obtain⟨x9,q12,q4⟩:=Aa q4;refine gcG (fun h=>Qs (En h q12)) ?_;refine gi q4 (fun hc6 q4=> ?_) fun hc6 q4=> ?_
     ·skip;cases q4;rcases q3 with ⟨sn,e,_⟩|e
      ·cases e
      cases e;dsimp only at hm;have e0:=Option.some.inj hm;subst e0;exact Aq hd
     have e0:=Option.some.inj q4;subst e0;rcases q3 with ⟨sn,e,q3'⟩|e
     ·have e:=Sum.inl.inj e;subst e;exact gb bl1 hd (n1,_) ⟨q3',Nat.lt_succ_self _⟩
     cases AM e
    refine gi' (b:=false) (fun h=>by cases h) (fun _=> ?_);have e0:=Option.some.inj q4;subst e0;rcases q3 with ⟨sn,e,_⟩|e
    ·cases Bv e
    have e:=Sum.inr.inj e;subst e;exact gb bk1 hd s1 rfl
  subst hy;dsimp only at hm;have e0:=Option.some.inj hm;subst e0;exact Aq hd
theorem QH {m:Mem}{As:List Ow}{w:World}{a0:ByteArray}{r:Bool}(S:St m As w)(hm:DF a0=some r):
  AB prog 141 #[vS a0] w fun v w'=> ∃(M:Mem),m≤M∧St M (As) w'∧v=vb r:=by
 refine AB.mono ((Qr hm).2 none0 m As w [vS a0] (.cons (.d (.s _)) .nil) (fun n h=>absurd rfl h) S) ?_;rintro v w' ⟨M,η',r',obs',n1,hle,_,⟨rfl,rfl,rfl⟩,hdom,hR,S'⟩;obtain rfl:=hR.t_inv;exact⟨M,hle,S',rfl⟩
def BF (b6:ByteArray)(s1:(Unit)×Nat):Option ((Unit)×Nat):=Ac (DF b6) fun x6=>if(!x6)=true then some ((),1)else some ((),0)
def Bc (a0:ByteArray)(a1:Int)(a2:Int):Option Bool:=Ac (if(decide ((a0.size:Int)>a2))=true then some true else Ac (ER a0 (⟨#[46]⟩:ByteArray)) fun x3=>some (decide (x3≥a1))) fun x2=>if x2=true then some false else Ac (Gj a0 (⟨#[46]⟩:ByteArray)) fun x4=>Ac (Bd (fun(s:(Unit)×Nat) (b0:ByteArray)=>if s.2=0 then Ac (BF b0 s) fun y=>some (y.2==0,y)else none) x4.1 x4.2.1 x4.2.2 ((),0)) fun x5=>if(x5.2.2.2).2=0 then some true else some false
theorem RZ {m:Mem}{As:List Ow}{w:World}{a0:ByteArray}{a1:Int}{a2:Int}{r:Bool}(S:St m (As) w)(hm:Bc a0 a1 a2=some r):
  AB Tryz.prog 84 #[vS a0,vI a1,vI a2] w fun v w'=> ∃(M:Mem),m≤M∧St M (As) w'∧v=vb r:=by
 unfold Bc at hm;have L0:=Mem.rfl' m;refine C9 (args:=[vS a0,vI a1,vI a2]) Tryz.func84 rfl Tryz.ntmps84 (Nat.le_of_ble_eq_true rfl) ?_;refine Ag ?_;refine Ae ?_;refine Fx S Tryz.zeroValue4 ?_;intro b1 w1 S1;replace S1:St _ ((bx b1 [vb false] 4)::As) _:=S1;clear S;refine Ah ?_;refine nrm ?_;refine Ag ?_;refine Ag ?_;refine Ae ?_;refine Ar (v:=vS a0) rfl ?_;refine Sq (s:=a0) rfl Tryz.underlying9 ?_;refine Ar (v:=vI a2) rfl ?_;refine VW (m:=(a0.size:Int)) (n:=a2) rfl rfl ?_;refine Ar (v:=vb (decide ((a0.size:Int)>a2))) rfl ?_;obtain⟨x2,q2,hm⟩:=Aa hm;have L1:=Mem.rfl' m;refine P7 5 [13,14,15,16,17] (fun f' w'=> ∃(M1:Mem),m≤M1∧St M1 ((bx b1 [vb false] 4)::As) w'∧Cl f' [(17,vb x2)]) ?_ ?_
 ·rcases RB (decide ((a0.size:Int)>a2))with hb1|hb1
  ·replace q2:=ifT hb1 q2;refine GZ (d:=12) rfl rfl (congrArg Value.bool hb1) ?_;refine GZ (d:=12) rfl rfl (congrArg Value.bool hb1) ?_;refine GZ (d:=12) rfl rfl (congrArg Value.bool hb1) ?_;refine GZ (d:=12) rfl rfl (congrArg Value.bool hb1) ?_;refine Jy (congrArg Value.bool hb1) rfl ?_;refine Ah (nrm ?_);have e0:=Option.some.inj q2;subst e0;exact⟨FI,m,L1,S1,⟨rfl,trivial⟩⟩
  replace q2:=ifF hb1 q2;refine FL (d:=12) rfl rfl (congrArg Value.bool hb1) ?_;refine Ar (v:=vS a0) rfl ?_;refine FL (d:=12) rfl rfl (congrArg Value.bool hb1) ?_;obtain⟨x3,q3,q2⟩:=Aa q2;refine CJ Tryz.call139 (Oa (a0:=a0) (a1:=(⟨#[46]⟩:ByteArray)) S1 q3) rfl ?_;rintro _ w3 ⟨m2,l2,S3,rfl⟩;replace L1:=Mem.tr L1 l2;clear S1;replace S3:St _ ((bx b1 [vb false] 4)::As) _:=S3;refine FL (d:=12) rfl rfl (congrArg Value.bool hb1) ?_;refine Ar (v:=vI a1) rfl ?_;refine FL (d:=12) rfl rfl (congrArg Value.bool hb1) ?_;refine Zr (m:=x3) (n:=a1) rfl rfl ?_;refine Jz (congrArg Value.bool hb1) rfl ?_;refine Ah (nrm ?_);have e0:=Option.some.inj q2;subst e0;exact⟨FI,m2,L1,S3,⟨rfl,trivial⟩⟩
 rintro f1 w4 ho ⟨m3,l3,S4,ha⟩;obtain⟨u1,rfl⟩:=B3 (N:=24) ho ha;replace L0:=Mem.tr L0 l3;clear S1;refine Ah ?_;refine nrm ?_;refine Cz (t:=x2) rfl (fun hc1=> ?_) (fun hc1=> ?_)
 ·replace hm:=ifT hc1 hm;refine Ag ?_;refine Ae ?_;refine I5 (i:=0) S4 rfl rfl rfl Tryz.sizeOf4 (Jo rfl MD) rfl ?_;intro w5 S5;replace S5:St _ ((bx b1 [vb false] 4)::As) _:=S5;clear S4;refine Ah ?_;refine nrm ?_;refine Bw ?_;refine thR ?_;refine EE ?_;intro we hpd;replace S5:=St.pd S5 hpd;have SR:=S5;obtain⟨m4,l4,S6⟩:=St.drop S5 0;replace L0:=Mem.tr L0 l4;replace S6:St _ (As) _:=S6;have e0:=Option.some.inj hm;subst e0;exact IW [_] rfl ⟨IS (i:=0) (off:=0) (cs:=[vb false]) SR rfl rfl Tryz.isAgg4 Tryz.sizeOf4 rfl (fun _=>rfl),trivial⟩ ⟨_,L0,S6,rfl⟩
 replace hm:=ifF hc1 hm;refine A6 ?_;refine nrm ?_;refine Ag ?_;refine Ag ?_;refine Ae ?_;refine Ar (v:=vS a0) rfl ?_;obtain⟨x4,q4,hm⟩:=Aa hm;refine CJ Tryz.call140 (Lu (a0:=a0) (a1:=(⟨#[46]⟩:ByteArray)) S4 q4) rfl ?_;rintro _ w6 ⟨m5,l5,b2,b3,b4,S7,rfl⟩;replace L0:=Mem.tr L0 l5;clear S4;replace S7:St _ ((bx b2 [vS x4.1] 9)::(bx b3 [vS x4.2.1] 9)::(bx b4 [vI x4.2.2] 3)::(bx b1 [vb false] 4)::As) _:=S7;refine Ah ?_;refine nrm ?_;refine Az ?_;obtain⟨x5,q5,hm⟩:=Aa hm;refine Gc S7 rfl Tryz.call212 ?_;intro lp1 rip2 w7 h1 S8;replace S8:St _ ((Lp lp1 rip2 .ready none)::(bx b2 [vS x4.1] 9)::(bx b3 [vS x4.2.1] 9)::(bx b4 [vI x4.2.2] 3)::(bx b1 [vb false] 4)::As) _:=S8;clear S7;have S9:St _ ((bx b2 [vS x4.1] 9)::(bx b3 [vS x4.2.1] 9)::(bx b4 [vI x4.2.2] 3)::(Lp lp1 rip2 .ready none)::(bx b1 [vb false] 4)::As) _:=St.perm S8 (List.Perm.trans (List.Perm.swap _ _ _) (List.Perm.trans (List.Perm.cons _ (List.Perm.swap _ _ _)) (List.Perm.cons _ (List.Perm.cons _ (List.Perm.swap _ _ _)))));clear S8;have hcb1: ∀{m':Mem} {As':List Ow} {w':World} {s:(Unit)×Nat} {X:List Ow} {b0:ByteArray} {r:Bool×((Unit)×Nat)},St m' (X++As') w'→(m5≤m'∧(((s).2=0∧X=Lp lp1 rip2 .ready none::(bx b1 [vb false] 4)::[])∨((s).2=1∧X=Lp lp1 rip2 .done (some .ret)::(bx b1 [vb false] 4)::[])))→(fun(s:(Unit)×Nat) (b0:ByteArray)=>if s.2=0 then Ac (BF b0 s) fun y=>some (y.2==0,y)else none) s b0=some r→EN Tryz.prog (.func (.yield lp1) #[] #[]) [vS b0] w' fun v w''=> ∃(M:Mem) (X':List Ow),m'≤M∧St M (X'++As') w''∧(m5≤M∧(((r.2).2=0∧X'=Lp lp1 rip2 .ready none::(bx b1 [vb false] 4)::[])∨((r.2).2=1∧X'=Lp lp1 rip2 .done (some .ret)::(bx b1 [vb false] 4)::[])))∧v=vb r.1:=by
  intro m6 As1 w8 s1 X1 b6 r1 S10 h2 hm1;obtain⟨L3,h3⟩:=h2;rcases h3 with ⟨hj1,rfl⟩|⟨hj1,rfl⟩
  ·try dsimp only at hm1
   rw[if_pos hj1]at hm1;obtain⟨y1,q6,hm1⟩:=Aa hm1;cases hm1;unfold BF at q6;replace S10:St _ ((Lp lp1 rip2 .ready none)::(bx b1 [vb false] 4)::As1) _:=S10;have L2:=Mem.rfl' m6;refine EN.round h1 rfl S10 ?_;refine Ae ?_;refine A4 (v:=vS b6) rfl ?_;refine Ah ?_;refine nrm ?_;refine⟨_,_,S10,?_⟩;intro w9 S11;clear S10;replace S11:St _ ((Lp lp1 rip2 .busy none)::(bx b1 [vb false] 4)::As1) _:=S11;refine Az ?_;refine Ag ?_;refine Ae ?_;refine Ar (v:=vS b6) rfl ?_;obtain⟨x6,q7,q6⟩:=Aa q6;refine CJ Tryz.call141 (QH (a0:=b6) S11 q7) rfl ?_;rintro _ w10 ⟨m7,l6,S12,rfl⟩;replace L2:=Mem.tr L2 l6;clear S11;replace S12:St _ ((Lp lp1 rip2 .busy none)::(bx b1 [vb false] 4)::As1) _:=S12;refine TN rfl ?_;refine Ah ?_;refine nrm ?_;refine Cz (t:=(!x6)) rfl (fun hc2=> ?_) (fun hc2=> ?_)
   ·replace q6:=ifT hc2 q6;refine Ag ?_;refine Ae ?_;refine I5 (i:=1) S12 rfl rfl rfl Tryz.sizeOf4 (Jo rfl MD) rfl ?_;intro w11 S13;replace S13:St _ ((Lp lp1 rip2 .busy none)::(bx b1 [vb false] 4)::As1) _:=S13;clear S12;refine Ah ?_;refine nrm ?_;refine Bw ?_;refine blR ?_;refine⟨_,_,S13,?_⟩;intro w12 S14;have e0:=Option.some.inj q6;subst e0;exact⟨_,Lp lp1 rip2 .done (some .ret)::(bx b1 [vb false] 4)::[],L2,S14,⟨Mem.tr L3 L2,.inr (⟨rfl,rfl⟩)⟩,rfl⟩
   replace q6:=ifF hc2 q6;refine A6 ?_;refine MF ?_;refine⟨_,_,S12,?_⟩;intro w13 S15;have e0:=Option.some.inj q6;subst e0;exact⟨_,Lp lp1 rip2 .ready none::(bx b1 [vb false] 4)::[],L2,S15,⟨Mem.tr L3 L2,.inl ⟨rfl,rfl⟩⟩,rfl⟩
  ·try dsimp only at hm1
   rw[if_neg (by rw[hj1]; decide)]at hm1;cases hm1
 refine AB.mono (KM (p0:=(fun(s:(Unit)×Nat) (b0:ByteArray)=>if s.2=0 then Ac (BF b0 s) fun y=>some (y.2==0,y)else none)) (k0:=x4.1) (k1:=x4.2.1) (k2:=x4.2.2) (s0:=((),0)) (R:=(fun(s:(Unit)×Nat) (M:Mem) (X:List Ow)=>(m5≤M∧(((s).2=0∧X=Lp lp1 rip2 .ready none::(bx b1 [vb false] 4)::[])∨((s).2=1∧X=Lp lp1 rip2 .done (some .ret)::(bx b1 [vb false] 4)::[]))))) (X0:=((Lp lp1 rip2 .ready none)::(bx b1 [vb false] 4)::[])) (As:=As) S9 (fun l h=>by obtain⟨Lm,e⟩:=h; exact⟨Mem.tr Lm l,e⟩) ⟨Mem.rfl' _,.inl ⟨rfl,rfl⟩⟩ @hcb1 rfl q5) ?_;rintro _ w14 ⟨m8,l7,X2,S16,rfl,⟨L4,h4⟩⟩;rcases h4 with ⟨hj2,rfl⟩|⟨hj2,rfl⟩
 ·rw[if_pos hj2]at hm;replace S16:St _ ((bx b2 [vS x5.1] 9)::(bx b3 [vS x5.2.1] 9)::(bx b4 [vI x5.2.2.1] 3)::(Lp lp1 rip2 .ready none)::(bx b1 [vb false] 4)::As) _:=S16;have S17:St _ ((Lp lp1 rip2 .ready none)::(bx b2 [vS x5.1] 9)::(bx b3 [vS x5.2.1] 9)::(bx b4 [vI x5.2.2.1] 3)::(bx b1 [vb false] 4)::As) _:=St.perm S16 (List.Perm.trans (List.Perm.cons _ (List.Perm.cons _ (List.Perm.swap _ _ _))) (List.Perm.trans (List.Perm.cons _ (List.Perm.swap _ _ _)) (List.Perm.swap _ _ _)));clear S16;refine⟨_,.ready,none,_,l7,(fun h=>by cases h),S17,?_⟩;intro m9 w15 l8 S18;have l9:=Mem.tr l7 l8;replace L0:=Mem.tr L0 l9;replace S18:St _ ((bx b2 [vS x5.1] 9)::(bx b3 [vS x5.2.1] 9)::(bx b4 [vI x5.2.2.1] 3)::(bx b1 [vb false] 4)::As) _:=S18;refine MF ?_;refine nrm ?_;refine Ag ?_;refine Ae ?_;refine I5 (i:=3) S18 rfl rfl rfl Tryz.sizeOf4 (Jo rfl MD) rfl ?_;intro w16 S19;replace S19:St _ ((bx b2 [vS x5.1] 9)::(bx b3 [vS x5.2.1] 9)::(bx b4 [vI x5.2.2.1] 3)::(bx b1 [vb true] 4)::As) _:=S19;clear S18;refine Ah ?_;refine nrm ?_;refine Bw ?_;refine EE ?_;intro we hpd;replace S19:=St.pd S19 hpd;have SR:=S19;obtain⟨m10,l10,S20⟩:=St.drop S19 0;replace L0:=Mem.tr L0 l10;replace S20:St _ ((bx b3 [vS x5.2.1] 9)::(bx b4 [vI x5.2.2.1] 3)::(bx b1 [vb true] 4)::As) _:=S20;obtain⟨m11,l11,S21⟩:=St.drop S20 0;replace L0:=Mem.tr L0 l11;clear S20;replace S21:St _ ((bx b4 [vI x5.2.2.1] 3)::(bx b1 [vb true] 4)::As) _:=S21;obtain⟨m12,l12,S22⟩:=St.drop S21 0;replace L0:=Mem.tr L0 l12;clear S21;replace S22:St _ ((bx b1 [vb true] 4)::As) _:=S22;obtain⟨m13,l13,S23⟩:=St.drop S22 0;replace L0:=Mem.tr L0 l13;clear S22;replace S23:St _ (As) _:=S23;have e0:=Option.some.inj hm;subst e0;exact IW [_] rfl ⟨IS (i:=3) (off:=0) (cs:=[vb true]) SR rfl rfl Tryz.isAgg4 Tryz.sizeOf4 rfl (fun _=>rfl),trivial⟩ ⟨_,L0,S23,rfl⟩
 ·rw[if_neg (show¬(x5.2.2.2).2=0 by rw[hj2]; decide)]at hm;replace S16:St _ ((bx b2 [vS x5.1] 9)::(bx b3 [vS x5.2.1] 9)::(bx b4 [vI x5.2.2.1] 3)::(Lp lp1 rip2 .done (some .ret))::(bx b1 [vb false] 4)::As) _:=S16;have S24:St _ ((Lp lp1 rip2 .done (some .ret))::(bx b2 [vS x5.1] 9)::(bx b3 [vS x5.2.1] 9)::(bx b4 [vI x5.2.2.1] 3)::(bx b1 [vb false] 4)::As) _:=St.perm S16 (List.Perm.trans (List.Perm.cons _ (List.Perm.cons _ (List.Perm.swap _ _ _))) (List.Perm.trans (List.Perm.cons _ (List.Perm.swap _ _ _)) (List.Perm.swap _ _ _)));clear S16;refine⟨_,.done,(some .ret),_,l7,(fun h=>by cases h),S24,?_⟩;intro m14 w17 l14 S25;have l15:=Mem.tr l7 l14;replace L0:=Mem.tr L0 l15;replace S25:St _ ((bx b2 [vS x5.1] 9)::(bx b3 [vS x5.2.1] 9)::(bx b4 [vI x5.2.2.1] 3)::(bx b1 [vb false] 4)::As) _:=S25;refine Bw ?_;refine blR ?_;refine thR ?_;refine EE ?_;intro we hpd;replace S25:=St.pd S25 hpd;have SR:=S25;obtain⟨m15,l16,S26⟩:=St.drop S25 0;replace L0:=Mem.tr L0 l16;replace S26:St _ ((bx b3 [vS x5.2.1] 9)::(bx b4 [vI x5.2.2.1] 3)::(bx b1 [vb false] 4)::As) _:=S26;obtain⟨m16,l17,S27⟩:=St.drop S26 0;replace L0:=Mem.tr L0 l17;clear S26;replace S27:St _ ((bx b4 [vI x5.2.2.1] 3)::(bx b1 [vb false] 4)::As) _:=S27;obtain⟨m17,l18,S28⟩:=St.drop S27 0;replace L0:=Mem.tr L0 l18;clear S27;replace S28:St _ ((bx b1 [vb false] 4)::As) _:=S28;obtain⟨m18,l19,S29⟩:=St.drop S28 0;replace L0:=Mem.tr L0 l19;clear S28;replace S29:St _ (As) _:=S29;have e0:=Option.some.inj hm;subst e0;exact IW [_] rfl ⟨IS (i:=3) (off:=0) (cs:=[vb false]) SR rfl rfl Tryz.isAgg4 Tryz.sizeOf4 rfl (fun _=>rfl),trivial⟩ ⟨_,L0,S29,rfl⟩
theorem M7 {a0:ByteArray}{a1:Int}{a2:Int}{r:Bool}(hm:Bc a0 a1 a2=some r):Sf prog 84 [.d (.s a0),.d (.i a1),.d (.i a2)] (.d (.t r)):=
 ⟨call84,fun η m As w vs hv0 hd S=>by
  have S:St m As w:=S;obtain⟨v0,u0,rfl,r0,hv1⟩:=BB.cons_inv hv0;obtain rfl:=r0.s_inv;obtain⟨v1,u1,rfl,r1,hv2⟩:=BB.cons_inv hv1;obtain rfl:=r1.i_inv;obtain⟨v2,u2,rfl,r2,hv3⟩:=BB.cons_inv hv2;obtain rfl:=r2.i_inv;obtain rfl:=BB.nil_inv hv3;refine AB.mono (RZ S hm) ?_;rintro v w' ⟨M,hle,S0,rfl⟩;exact⟨M,none0,_,_,_,hle,Un hd _,⟨rfl,rfl,rfl⟩,fun n h=>absurd rfl h,(.d (.t _)),S0⟩⟩
def CO (a0:ByteArray):Option Bool:=Ac (Bc a0 8 64) fun x1=>some x1
theorem KB {a0:ByteArray}{r:Bool}(hm:CO a0=some r):Sf prog 46 [.d (.s a0)] (.d (.t r)):=
 sp call46 func46 rfl ntmps46 rfl fun D0 As η0 m0 hd=>by
  unfold CO at hm;obtain⟨x1,q1,hm⟩:=Aa hm;refine gc (fun _=>M7 q1) ?_;have e0:=Option.some.inj hm;subst e0;exact Aq hd
def CB (a0:ByteArray):Option Int:=Ac (CO a0) fun x1=>Ac (D6 x1) fun x2=>some x2
theorem LB {a0:ByteArray}{r:Int}(hm:CB a0=some r):Sf prog 19 [.d (.s a0)] (.d (.i r)):=
 sp call19 func19 rfl ntmps19 rfl fun D0 As η0 m0 hd=>by
  unfold CB at hm;obtain⟨x1,q1,hm⟩:=Aa hm;refine gc (fun _=>KB q1) ?_;obtain⟨x2,q2,hm⟩:=Aa hm;refine gc (fun _=>MS q2) ?_;have e0:=Option.some.inj hm;subst e0;exact Aq hd
def DJ (a0:Int):Option Bool:=bnd (((decide (a0≥0))&&(decide (a0≤1099511627776)))) fun x1=>some x1
theorem Gf {a0:Int}{r:Bool}(hm:DJ a0=some r):Sf prog 93 [.d (.i a0)] (.d (.t r)):=
 sp call93 func93 rfl ntmps93 rfl fun D0 As η0 m0 hd=>by
  unfold DJ at hm;have hm:=AO hm;let x1:Bool:=(((decide (a0≥0))&&(decide (a0≤1099511627776))));have e0:=Option.some.inj hm;subst e0;exact Aq hd
def Fq (a0:g_api_Sig):Option Bool:=bnd ((decide (((Oz a0.E a0.S).toNat:Int)<1152921504606845789))) fun x1=>some x1
theorem LF {a0:g_api_Sig}{r:Bool}(hm:Fq a0=some r):Sf prog 95 [ag (Ix a0)] (.d (.t r)):=
 sp call95 func95 rfl ntmps95 rfl fun D0 As η0 m0 hd=>by
  unfold Fq at hm;have hm:=AO hm;let x1:Bool:=((decide (((Oz a0.E a0.S).toNat:Int)<1152921504606845789)));have e0:=Option.some.inj hm;subst e0;exact Aq hd
def AT (a0:List UInt64)(s1:UInt64×Int):Option ((UInt64×Int)⊕(UInt64)):=if(decide (s1.2<(a0.length:Int)))=true then Ac (idx a0 s1.2) fun x6=>some (.inl ((Oz s1.1 x6),(w64 (s1.2+1))))else some (.inr s1.1)
def B0 (a0:List UInt64):Option UInt64:=Ac (if(decide ((a0.length:Int)<1))=true then none else some ()) fun x1=>Ac (idx a0 0) fun x2=>Ac (Ac (iter (AT a0) AR (x2,1)) fun x4=>some x4) fun x3=>some x3
theorem Iy {a0:List UInt64}{r:UInt64}(hm:B0 a0=some r):Sf prog 146 [sl eU a0] (.d (.u r)):=
 sp call146 func146 rfl ntmps146 rfl fun D0 As η0 m0 hd=>by
  unfold B0 at hm;obtain⟨x1,q1,hm⟩:=Aa hm;refine gj (fun(_:Unit)=>⟨[(0,sl eU a0)],[],[],0⟩) (fun _=>True) (fun Jp bk1=> ?_) fun _ _=> ?_
  ·refine gi q1 (fun hc1 q1=> ?_) fun hc1 q1=> ?_
   ·cases q1
   have e0:=Option.some.inj q1;subst e0;exact gb bk1 hd () trivial
  obtain⟨x2,q2,hm⟩:=Aa hm;refine Ga (k:=1) (E:=eU) (fun _=>rfl) (fun _=>q2) ?_;obtain⟨x3,q3,hm⟩:=Aa hm;obtain⟨x4,q4,q3⟩:=Aa q3;refine gjU 0 (fun(_:Unit)=>⟨[(3,.d (.u x3))],[],[],0⟩) (fun _=>True) (fun Jp bk2=> ?_) fun _ _=> ?_
  ·refine gjU 0 (fun(_:Unit)=>⟨[(3,.d (.u x4))],[],[],0⟩) (fun _=>True) (fun Jp bk3=> ?_) fun _ _=> ?_
   ·refine gl hd (fun(p:Nat×(UInt64×Int))=>let (p0,p_0,p_1):=p; ⟨[(0,sl eU a0),(3,.d (.u p_0)),(4,.d (.i p_1))],[],[],0⟩) (fun p=>iter (AT a0) p.1 p.2=some x4) (fun p=>p.1) (AR,(x2,1)) q4 ?_;rintro⟨n1,s1⟩ q5 Jl bl1;cases n1 with
    |zero=>exact(An q5).elim
    |succ n1=>
     obtain⟨y1,q7,q6⟩:=Am q5;unfold AT at q7;refine gi q7 (fun hc2 q7=> ?_) fun hc2 q7=> ?_
     ·skip;obtain⟨x6,q9,q7⟩:=Aa q7;refine Ga (k:=1) (E:=eU) (fun _=>rfl) (fun _=>q9) ?_;have e0:=Option.some.inj q7;subst e0;rcases q6 with ⟨sn,e,q6'⟩|e
      ·have e:=Sum.inl.inj e;subst e;exact gb bl1 hd (n1,_) ⟨q6',Nat.lt_succ_self _⟩
      cases AM e
     have e0:=Option.some.inj q7;subst e0;rcases q6 with ⟨sn,e,_⟩|e
     ·cases Bv e
     have e:=Sum.inr.inj e;subst e;exact gb bk3 hd () trivial
   have e0:=Option.some.inj q3;subst e0;exact gb bk2 hd () trivial
  have e0:=Option.some.inj hm;subst e0;exact Aq hd
def E6 (a0:g_api_Promise):Option Bool:=Ac (DJ a0.Log) fun x1=>Ac (gu x1 (DJ a0.At)) fun x2=>Ac (gu (x1&&x2) (B0 ([a0.Leaf.1,a0.Leaf.2]:List UInt64))) fun x3=>Ac (gu ((x1&&x2)&&(decide ((x3.toNat:Int)<2305843009213693951))) (Fq a0.Sig)) fun x4=>bnd ((((x1&&x2)&&(decide ((x3.toNat:Int)<2305843009213693951)))&&x4)) fun x5=>some x5
theorem N4 {a0:g_api_Promise}{r:Bool}(hm:E6 a0=some r):Sf prog 92 [ag (Ai a0)] (.d (.t r)):=
 sp call92 func92 rfl ntmps92 rfl fun D0 As η0 m0 hd=>by
  unfold E6 at hm;refine Uh 1 [.i a0.Log,.i a0.At,.u a0.Leaf.1,.u a0.Leaf.2,.u a0.Sig.E,.u a0.Sig.S] ?_;obtain⟨x1,q1,hm⟩:=Aa hm;refine gc (fun _=>Gf q1) ?_;obtain⟨x2,q2,hm⟩:=Aa hm;refine gcG (fun h=>Gf (En h q2)) ?_;refine gslM (k:=1) (E:=eU) ([a0.Leaf.1,a0.Leaf.2]:List UInt64) (fun _=>rfl) ?_;obtain⟨x3,q3,hm⟩:=Aa hm;refine gcG (fun h=>Iy (En h q3)) ?_;obtain⟨x4,q4,hm⟩:=Aa hm;refine gcG (fun h=>LF (En h q4)) ?_;have hm:=AO hm;let x5:Bool:=((((x1&&x2)&&(decide ((x3.toNat:Int)<2305843009213693951)))&&x4));have e0:=Option.some.inj hm;subst e0;exact Aq hd
def GI (a0:Int):Option Bool:=bnd (((decide (a0≤32))||(decide (a0>126)))) fun x1=>some x1
theorem QD {a0:Int}{r:Bool}(hm:GI a0=some r):Sf prog 147 [.d (.r a0)] (.d (.t r)):=
 sp call147 func147 rfl ntmps147 rfl fun D0 As η0 m0 hd=>by
  unfold GI at hm;have hm:=AO hm;let x1:Bool:=(((decide (a0≤32))||(decide (a0>126))));have e0:=Option.some.inj hm;subst e0;exact Aq hd
def Ao (a0:ByteArray)(a2:Bool)(s1:Nat):Option ((Nat)⊕((Nat)⊕Int)):=if s1<a0.size then bnd (((Utf8.decode a0 s1).1:Int)) fun x3=>Ac (GI x3) fun x4=>if(x4==a2)=true then some (.inr (.inr (s1:Int)))else some (.inl (s1+(Utf8.decode a0 s1).2))else some (.inr (.inl s1))
def BL (a0:ByteArray)(a2:Bool):Option Int:=Ac (iter (Ao a0 a2) AR 0) fun x1=>match x1 with| .inr r=>some r| .inl y1=>some (-1)
theorem IY {a0:ByteArray}{a2:Bool}{r:Int}(hm:BL a0 a2=some r):Sf prog 214 [.d (.s a0),.fn (.func 147) [] [],.d (.t a2)] (.d (.i r)):=
 sp call214 func214 rfl ntmps214 rfl fun D0 As η0 m0 hd=>by
  unfold BL at hm;refine grng a0 ?_;obtain⟨x1,q1,hm⟩:=Aa hm;refine gjU 0 (fun(y1:Nat)=>⟨[(10,.ow 0)],[(0,.hp 0 (.it a0 y1))],[],1⟩) (fun y1=>x1= .inl y1) (fun Jp bk1=> ?_) fun y1 hy=> ?_
  ·refine gl hd (fun(p:Nat×(Nat))=>let (p0,p_0):=p; ⟨[(1,.fn (.func 147) [] []),(2,.d (.t a2)),(10,.ow 0)],[(0,.hp 0 (.it a0 p_0))],[],1⟩) (fun p=>iter (Ao a0 a2) p.1 p.2=some x1) (fun p=>p.1) (AR,0) q1 ?_;rintro⟨n1,s1⟩ q2 Jl bl1;cases n1 with
   |zero=>exact(An q2).elim
   |succ n1=>
    obtain⟨y2,q4,q3⟩:=Am q2;unfold Ao at q4;refine gnx q4 (fun hc1 q4=> ?_) fun hc1 q4=> ?_
    ·skip;refine gi' (b:=true) (fun _=> ?_) (fun h=>by cases h);have q4:=AO q4;let x3:Int:=(((Utf8.decode a0 s1).1:Int));obtain⟨x4,q7,q4⟩:=Aa q4;refine gc (fun _=>QD q7) ?_;refine gi q4 (fun hc2 q4=> ?_) fun hc2 q4=> ?_
     ·skip;cases q4;rcases q3 with ⟨sn,e,_⟩|e
      ·cases e
      cases e;dsimp only at hm;have e0:=Option.some.inj hm;subst e0;exact Aq hd
     have e0:=Option.some.inj q4;subst e0;rcases q3 with ⟨sn,e,q3'⟩|e
     ·have e:=Sum.inl.inj e;subst e;exact gb bl1 hd (n1,_) ⟨q3',Nat.lt_succ_self _⟩
     cases AM e
    refine gi' (b:=false) (fun h=>by cases h) (fun _=> ?_);have e0:=Option.some.inj q4;subst e0;rcases q3 with ⟨sn,e,_⟩|e
    ·cases Bv e
    have e:=Sum.inr.inj e;subst e;exact gb bk1 hd s1 rfl
  subst hy;dsimp only at hm;have e0:=Option.some.inj hm;subst e0;exact Aq hd
def Cc (a0:ByteArray):Option Int:=Ac (BL a0 true) fun x1=>some x1
theorem IZ {a0:ByteArray}{r:Int}(hm:Cc a0=some r):Sf prog 192 [.d (.s a0),.fn (.func 147) [] []] (.d (.i r)):=
 sp call192 func192 rfl ntmps192 rfl fun D0 As η0 m0 hd=>by
  unfold Cc at hm;obtain⟨x1,q1,hm⟩:=Aa hm;refine gc (fun _=>IY q1) ?_;have e0:=Option.some.inj hm;subst e0;exact Aq hd
def Bj (a0:ByteArray):Option Bool:=Ac (Cc a0) fun x1=>some (decide (x1≥0))
theorem HZ {a0:ByteArray}{r:Bool}(hm:Bj a0=some r):Sf prog 148 [.d (.s a0),.fn (.func 147) [] []] (.d (.t r)):=
 sp call148 func148 rfl ntmps148 rfl fun D0 As η0 m0 hd=>by
  unfold Bj at hm;obtain⟨x1,q1,hm⟩:=Aa hm;refine gc (fun _=>IZ q1) ?_;have e0:=Option.some.inj hm;subst e0;exact Aq hd
def Dd (a0:ByteArray):Option Bool:=Ac (gu ((!eqS a0 (⟨#[]⟩:ByteArray))&&(decide ((a0.size:Int)≤64))) (Bj a0)) fun x1=>bnd ((((!eqS a0 (⟨#[]⟩:ByteArray))&&(decide ((a0.size:Int)≤64)))&&(!x1))) fun x2=>some x2
theorem N3 {a0:ByteArray}{r:Bool}(hm:Dd a0=some r):Sf prog 94 [.d (.s a0)] (.d (.t r)):=
 sp call94 func94 rfl ntmps94 rfl fun D0 As η0 m0 hd=>by
  unfold Dd at hm;obtain⟨x1,q1,hm⟩:=Aa hm;refine gcG (fun h=>HZ (En h q1)) ?_;have hm:=AO hm;let x2:Bool:=((((!eqS a0 (⟨#[]⟩:ByteArray))&&(decide ((a0.size:Int)≤64)))&&(!x1)));have e0:=Option.some.inj hm;subst e0;exact Aq hd
def AJ (a0:ByteArray)(a1:ByteArray):Option Bool:=Ac (gu (decide ((a0.size:Int)≥(a1.size:Int))) (KP a0 0 (a1.size:Int))) fun x1=>bnd (((decide ((a0.size:Int)≥(a1.size:Int)))&&(eqS x1 a1))) fun x2=>some x2
theorem GW {a0:ByteArray}{a1:ByteArray}{r:Bool}(hm:AJ a0 a1=some r):Sf prog 209 [.d (.s a0),.d (.s a1)] (.d (.t r)):=
 sp call209 func209 rfl ntmps209 rfl fun D0 As η0 m0 hd=>by
  unfold AJ at hm;obtain⟨x1,q1,hm⟩:=Aa hm;refine AaV (fun h=>En h q1) ?_;have hm:=AO hm;let x2:Bool:=(((decide ((a0.size:Int)≥(a1.size:Int)))&&(eqS x1 a1)));have e0:=Option.some.inj hm;subst e0;exact Aq hd
def AK (a0:ByteArray)(a1:ByteArray):Option (ByteArray×Bool):=Ac (AJ a0 a1) fun x1=>if(!x1)=true then some (a0,false)else Ac (KP a0 (a1.size:Int) (a0.size:Int)) fun x2=>some (x2,true)
theorem GX {a0:ByteArray}{a1:ByteArray}{r:ByteArray×Bool}(hm:AK a0 a1=some r):Sf prog 182 [.d (.s a0),.d (.s a1)] (.tup [.d (.s r.1),.d (.t r.2)]):=
 sp call182 func182 rfl ntmps182 rfl fun D0 As η0 m0 hd=>by
  unfold AK at hm;obtain⟨x1,q1,hm⟩:=Aa hm;refine gc (fun _=>GW q1) ?_;refine gi hm (fun hc1 hm=> ?_) fun hc1 hm=> ?_
  ·skip;have e0:=Option.some.inj hm;subst e0;exact Aq hd
  obtain⟨x2,q2,hm⟩:=Aa hm;refine Rm (fun _=>q2) ?_;have e0:=Option.some.inj hm;subst e0;exact Aq hd
def By (a0:ByteArray)(a1:ByteArray):Option (ByteArray×Bool):=Ac (AK a0 a1) fun x1=>some (x1.1,x1.2)
theorem K3 {a0:ByteArray}{a1:ByteArray}{r:ByteArray×Bool}(hm:By a0 a1=some r):Sf prog 137 [.d (.s a0),.d (.s a1)] (.tup [.d (.s r.1),.d (.t r.2)]):=
 sp call137 func137 rfl ntmps137 rfl fun D0 As η0 m0 hd=>by
  unfold By at hm;obtain⟨x1,q1,hm⟩:=Aa hm;refine gc (fun _=>GX q1) ?_;have e0:=Option.some.inj hm;subst e0;exact Aq hd
def Cj (a0:ByteArray):Option (ByteArray×Bool×Bool):=Ac (CO a0) fun x1=>if x1=true then some (a0,false,true)else Ac (By a0 (⟨#[42,46]⟩:ByteArray)) fun x2=>Ac (gu x2.2 (Bc x2.1 7 62)) fun x3=>some (x2.1,x2.2,(x2.2&&x3))
theorem J0 {a0:ByteArray}{r:ByteArray×Bool×Bool}(hm:Cj a0=some r):Sf prog 82 [.d (.s a0)] (.tup [.d (.s r.1),.d (.t r.2.1),.d (.t r.2.2)]):=
 sp call82 func82 rfl ntmps82 rfl fun D0 As η0 m0 hd=>by
  unfold Cj at hm;obtain⟨x1,q1,hm⟩:=Aa hm;refine gc (fun _=>KB q1) ?_;refine gi hm (fun hc1 hm=> ?_) fun hc1 hm=> ?_
  ·skip;have e0:=Option.some.inj hm;subst e0;exact Aq hd
  obtain⟨x2,q2,hm⟩:=Aa hm;refine gc (fun _=>K3 q2) ?_;obtain⟨x3,q3,hm⟩:=Aa hm;refine gcG (fun h=>M7 (En h q3)) ?_;have e0:=Option.some.inj hm;subst e0;exact Aq hd
def B7 (a0:ByteArray):Option Int:=Ac (Cj a0) fun x1=>Ac (D6 x1.2.2) fun x2=>some x2
theorem NX {a0:ByteArray}{r:Int}(hm:B7 a0=some r):Sf prog 97 [.d (.s a0)] (.d (.i r)):=
 sp call97 func97 rfl ntmps97 rfl fun D0 As η0 m0 hd=>by
  unfold B7 at hm;obtain⟨x1,q1,hm⟩:=Aa hm;refine gc (fun _=>J0 q1) ?_;obtain⟨x2,q2,hm⟩:=Aa hm;refine gc (fun _=>MS q2) ?_;have e0:=Option.some.inj hm;subst e0;exact Aq hd
def EJ (i1:Int)(x2:ByteArray)(s1:(List (ByteArray×Bool))):Option (((List (ByteArray×Bool)))⊕Bool):=Ac (gu (!(lkB s1 x2)) (B7 x2)) fun x3=>if((lkB s1 x2)||(x3 !=0))=true then some (.inr false)else if(lkI s1 x2 0).isNone=true then some (.inl (s1++[(x2,true)]))else none
def E7 (a0:List ByteArray)(a1:Int)(a2:Int):Option Bool:=Ac (Fe EJ a0 0 ([]:List (ByteArray×Bool))) fun x1=>match x1 with| .inr r=>some r| .inl y1=>bnd (((decide ((a0.length:Int)≥a1))&&(decide ((a0.length:Int)≤a2)))) fun x4=>some x4
theorem N5 {a0:List ByteArray}{a1:Int}{a2:Int}{r:Bool}(hm:E7 a0 a1 a2=some r):Sf prog 96 [sl eS a0,.d (.i a1),.d (.i a2),.fn (.func 97) [] []] (.d (.t r)):=
 sp call96 func96 rfl ntmps96 rfl fun D0 As η0 m0 hd=>by
  unfold E7 at hm;refine gmkm ?_;obtain⟨x1,q1,hm⟩:=Aa hm;refine PU 0 (E:=eS) (xs:=a0) 13 fun hle1=> ?_;refine gjU 0 (fun(y1:(List (ByteArray×Bool)))=>⟨[(0,sl eS a0),(1,.d (.i a1)),(2,.d (.i a2)),(12,.ow 0)],[(0,.hp 0 (.mp y1))],[],1⟩) (fun y1=>x1= .inl y1) (fun Jp bk1=> ?_) fun y1 hy=> ?_
  ·refine gl hd (fun(p:Int×((List (ByteArray×Bool))))=>let (p0,p_0):=p; ⟨[(0,sl eS a0),(1,.d (.i a1)),(2,.d (.i a2)),(3,.fn (.func 97) [] []),(9,.ow 0),(13,sl eS a0),(14,.d (.i (a0.length:Int))),(15,.d (.i p0)),(12,.ow 0)],[(0,.hp 0 (.mp p_0))],[],1⟩) (fun p=> ∃i:Nat,p.1=(i:Int)∧i≤a0.length∧Fe EJ (a0.drop i) (i:Int) p.2=some x1) (fun p=>a0.length-p.1.toNat) (0,([]:List (ByteArray×Bool))) ⟨0,rfl,Nat.zero_le _,q1⟩ ?_;rintro⟨_,s1⟩ ⟨i1,rfl,hi,q2⟩ Jl bl1;refine gi' (b:=decide ((i1:Int)<(a0.length:Int))) (fun hc2=> ?_) fun hc2=> ?_
   ·have hlt1:i1<a0.length:=by have:=of_decide_eq_true hc2; omega
    obtain⟨x2,y2,q5,q4,q3⟩:=IN q2 hlt1;unfold EJ at q4;refine Ga (k:=1) (E:=eS) (fun _=>rfl) (fun _=>q5) ?_;refine glk s1 x2 ?_;obtain⟨x3,q6,q4⟩:=Aa q4;refine gcG (fun h=>NX (En h q6)) ?_;refine gi q4 (fun hc1 q4=> ?_) fun hc1 q4=> ?_
    ·skip;cases q4;rcases q3 with ⟨sn,e,_⟩|⟨tn,e,e2⟩
     ·cases e
     cases e;cases e2;dsimp only at hm;have e0:=Option.some.inj hm;subst e0;exact Aq hd
    obtain⟨q7,q4⟩:=Ck q4;refine gup q7 ?_;have e0:=Option.some.inj q4;subst e0;rcases q3 with ⟨sn,e,q3'⟩|⟨tn,e,_⟩
    ·have e:=Sum.inl.inj e;subst e;exact gb bl1 hd (w64 ((i1:Int)+1),_) ⟨⟨i1+1,Bx hlt1 hle1,by omega,q3'⟩,IC hlt1 hle1⟩
    cases AM e
   have hlt1: ¬i1<a0.length:=by have:=of_decide_eq_false hc2; omega
   have e:=Hy q2 hlt1;cases e;exact gb bk1 hd _ rfl
  subst hy;dsimp only at hm;have hm:=AO hm;let x4:Bool:=(((decide ((a0.length:Int)≥a1))&&(decide ((a0.length:Int)≤a2))));have e0:=Option.some.inj hm;subst e0;exact Aq hd
def EK (i1:Int)(x2:ByteArray)(s1:(List (ByteArray×Bool))):Option (((List (ByteArray×Bool)))⊕Bool):=Ac (gu (!(lkB s1 x2)) (CB x2)) fun x3=>if((lkB s1 x2)||(x3 !=0))=true then some (.inr false)else if(lkI s1 x2 0).isNone=true then some (.inl (s1++[(x2,true)]))else none
def E8 (a0:List ByteArray)(a1:Int)(a2:Int):Option Bool:=Ac (Fe EK a0 0 ([]:List (ByteArray×Bool))) fun x1=>match x1 with| .inr r=>some r| .inl y1=>bnd (((decide ((a0.length:Int)≥a1))&&(decide ((a0.length:Int)≤a2)))) fun x4=>some x4
theorem N6 {a0:List ByteArray}{a1:Int}{a2:Int}{r:Bool}(hm:E8 a0 a1 a2=some r):Sf prog 96 [sl eS a0,.d (.i a1),.d (.i a2),.fn (.func 19) [] []] (.d (.t r)):=
 sp call96 func96 rfl ntmps96 rfl fun D0 As η0 m0 hd=>by
  unfold E8 at hm;refine gmkm ?_;obtain⟨x1,q1,hm⟩:=Aa hm;refine PU 0 (E:=eS) (xs:=a0) 13 fun hle1=> ?_;refine gjU 0 (fun(y1:(List (ByteArray×Bool)))=>⟨[(0,sl eS a0),(1,.d (.i a1)),(2,.d (.i a2)),(12,.ow 0)],[(0,.hp 0 (.mp y1))],[],1⟩) (fun y1=>x1= .inl y1) (fun Jp bk1=> ?_) fun y1 hy=> ?_
  ·refine gl hd (fun(p:Int×((List (ByteArray×Bool))))=>let (p0,p_0):=p; ⟨[(0,sl eS a0),(1,.d (.i a1)),(2,.d (.i a2)),(3,.fn (.func 19) [] []),(9,.ow 0),(13,sl eS a0),(14,.d (.i (a0.length:Int))),(15,.d (.i p0)),(12,.ow 0)],[(0,.hp 0 (.mp p_0))],[],1⟩) (fun p=> ∃i:Nat,p.1=(i:Int)∧i≤a0.length∧Fe EK (a0.drop i) (i:Int) p.2=some x1) (fun p=>a0.length-p.1.toNat) (0,([]:List (ByteArray×Bool))) ⟨0,rfl,Nat.zero_le _,q1⟩ ?_;rintro⟨_,s1⟩ ⟨i1,rfl,hi,q2⟩ Jl bl1;refine gi' (b:=decide ((i1:Int)<(a0.length:Int))) (fun hc2=> ?_) fun hc2=> ?_
   ·have hlt1:i1<a0.length:=by have:=of_decide_eq_true hc2; omega
    obtain⟨x2,y2,q5,q4,q3⟩:=IN q2 hlt1;unfold EK at q4;refine Ga (k:=1) (E:=eS) (fun _=>rfl) (fun _=>q5) ?_;refine glk s1 x2 ?_;obtain⟨x3,q6,q4⟩:=Aa q4;refine gcG (fun h=>LB (En h q6)) ?_;refine gi q4 (fun hc1 q4=> ?_) fun hc1 q4=> ?_
    ·skip;cases q4;rcases q3 with ⟨sn,e,_⟩|⟨tn,e,e2⟩
     ·cases e
     cases e;cases e2;dsimp only at hm;have e0:=Option.some.inj hm;subst e0;exact Aq hd
    obtain⟨q7,q4⟩:=Ck q4;refine gup q7 ?_;have e0:=Option.some.inj q4;subst e0;rcases q3 with ⟨sn,e,q3'⟩|⟨tn,e,_⟩
    ·have e:=Sum.inl.inj e;subst e;exact gb bl1 hd (w64 ((i1:Int)+1),_) ⟨⟨i1+1,Bx hlt1 hle1,by omega,q3'⟩,IC hlt1 hle1⟩
    cases AM e
   have hlt1: ¬i1<a0.length:=by have:=of_decide_eq_false hc2; omega
   have e:=Hy q2 hlt1;cases e;exact gb bk1 hd _ rfl
  subst hy;dsimp only at hm;have hm:=AO hm;let x4:Bool:=(((decide ((a0.length:Int)≥a1))&&(decide ((a0.length:Int)≤a2))));have e0:=Option.some.inj hm;subst e0;exact Aq hd
def Cs (i1:Int)(x2:g_api_Promise)(s1:Int):Option ((Int)⊕Bool):=Ac (E6 x2) fun x3=>if((!x3)||(decide (x2.Log≤s1)))=true then some (.inr false)else some (.inl x2.Log)
def GJ (a0:g_api_Cert):Option Bool:=Ac (Fe Cs a0.Proms 0 (-1)) fun x1=>match x1 with| .inr r=>some r| .inl y1=>Ac (DJ a0.Serial) fun x4=>Ac (gu (!(!x4)) (DJ a0.From)) fun x5=>Ac (gu (!((!x4)||(!x5))) (DJ a0.Until)) fun x6=>bnd (((((!x4)||(!x5))||(!x6))||(decide (a0.From≥a0.Until)))) fun x7=>if x7=true then some false else Ac (Dd a0.Issuer) fun x8=>Ac (gu (!((((!x8)||((a0.Key.toNat:Int)==0))||(decide ((a0.Key.toNat:Int)≥2305843009213691579)))||(decide ((a0.Proms.length:Int)>4)))) (Fq a0.Sig)) fun x9=>bnd ((((((!x8)||((a0.Key.toNat:Int)==0))||(decide ((a0.Key.toNat:Int)≥2305843009213691579)))||(decide ((a0.Proms.length:Int)>4)))||(!x9))) fun x10=>if x10=true then some false else if a0.Ca=true then Ac (Dd a0.Subject) fun x11=>Ac (gu (((x11&&((a0.Names.length:Int)==0))&&(decide (a0.Depth≥0)))&&(decide (a0.Depth≤4))) (E7 a0.Permit 0 8)) fun x12=>bnd (((((x11&&((a0.Names.length:Int)==0))&&(decide (a0.Depth≥0)))&&(decide (a0.Depth≤4)))&&x12)) fun x13=>some x13 else Ac (gu (eqS a0.Subject (⟨#[]⟩:ByteArray)) (E8 a0.Names 1 8)) fun x14=>bnd (((((eqS a0.Subject (⟨#[]⟩:ByteArray))&&x14)&&(a0.Depth==0))&&((a0.Permit.length:Int)==0))) fun x15=>some x15
theorem QE {a0:g_api_Cert}{r:Bool}(hm:GJ a0=some r):Sf prog 52 [ag (Ad a0)] (.d (.t r)):=
 sp call52 func52 rfl ntmps52 rfl fun D0 As η0 m0 hd=>by
  unfold GJ at hm;obtain⟨x1,q1,hm⟩:=Aa hm;refine PU 0 (E:=Ai) (xs:=a0.Proms) 7 fun hle1=> ?_;refine gjU 0 (fun(y1:Int)=>⟨[(1,.pb 0 0),(3,.d (.i y1))],[(0,.box 0 [.d (.i a0.Serial),.d (.s a0.Issuer),.d (.s a0.Subject),.d (.u a0.Key),sl eS a0.Names,.d (.i a0.From),.d (.i a0.Until),.d (.t a0.Ca),.d (.i a0.Depth),sl eS a0.Permit,sl Ai a0.Proms,.d (.u a0.Sig.E),.d (.u a0.Sig.S)] 28)],[],1⟩) (fun y1=>x1= .inl y1) (fun Jp bk1=> ?_) fun y1 hy=> ?_
  ·refine gl hd (fun(p:Int×(Int))=>let (p0,p_0):=p; ⟨[(1,.pb 0 0),(3,.d (.i p_0)),(7,sl Ai a0.Proms),(8,.d (.i (a0.Proms.length:Int))),(9,.d (.i p0))],[(0,.box 0 [.d (.i a0.Serial),.d (.s a0.Issuer),.d (.s a0.Subject),.d (.u a0.Key),sl eS a0.Names,.d (.i a0.From),.d (.i a0.Until),.d (.t a0.Ca),.d (.i a0.Depth),sl eS a0.Permit,sl Ai a0.Proms,.d (.u a0.Sig.E),.d (.u a0.Sig.S)] 28)],[],1⟩) (fun p=> ∃i:Nat,p.1=(i:Int)∧i≤a0.Proms.length∧Fe Cs (a0.Proms.drop i) (i:Int) p.2=some x1) (fun p=>a0.Proms.length-p.1.toNat) (0,(-1)) ⟨0,rfl,Nat.zero_le _,q1⟩ ?_;rintro⟨_,s1⟩ ⟨i1,rfl,hi,q2⟩ Jl bl1;refine gi' (b:=decide ((i1:Int)<(a0.Proms.length:Int))) (fun hc2=> ?_) fun hc2=> ?_
   ·have hlt1:i1<a0.Proms.length:=by have:=of_decide_eq_true hc2; omega
    obtain⟨x2,y2,q5,q4,q3⟩:=IN q2 hlt1;unfold Cs at q4;refine Ga (k:=6) (E:=Ai) (fun _=>rfl) (fun _=>q5) ?_;obtain⟨x3,q6,q4⟩:=Aa q4;refine gc (fun _=>N4 q6) ?_;refine gi q4 (fun hc1 q4=> ?_) fun hc1 q4=> ?_
    ·skip;cases q4;rcases q3 with ⟨sn,e,_⟩|⟨tn,e,e2⟩
     ·cases e
     cases e;cases e2;dsimp only at hm;have e0:=Option.some.inj hm;subst e0;exact Aq hd
    have e0:=Option.some.inj q4;subst e0;rcases q3 with ⟨sn,e,q3'⟩|⟨tn,e,_⟩
    ·have e:=Sum.inl.inj e;subst e;exact gb bl1 hd (w64 ((i1:Int)+1),_) ⟨⟨i1+1,Bx hlt1 hle1,by omega,q3'⟩,IC hlt1 hle1⟩
    cases AM e
   have hlt1: ¬i1<a0.Proms.length:=by have:=of_decide_eq_false hc2; omega
   have e:=Hy q2 hlt1;cases e;exact gb bk1 hd _ rfl
  subst hy;dsimp only at hm;obtain⟨x4,q7,hm⟩:=Aa hm;refine gc (fun _=>Gf q7) ?_;obtain⟨x5,q8,hm⟩:=Aa hm;refine gcG (fun h=>Gf (En h q8)) ?_;obtain⟨x6,q9,hm⟩:=Aa hm;refine gcG (fun h=>Gf (En h q9)) ?_;have hm:=AO hm;let x7:Bool:=(((((!x4)||(!x5))||(!x6))||(decide (a0.From≥a0.Until))));refine gi hm (fun hc3 hm=> ?_) fun hc3 hm=> ?_
  ·skip;have e0:=Option.some.inj hm;subst e0;exact Aq hd
  obtain⟨x8,q11,hm⟩:=Aa hm;refine gc (fun _=>N3 q11) ?_;obtain⟨x9,q12,hm⟩:=Aa hm;refine gcG (fun h=>LF (En h q12)) ?_;have hm:=AO hm;let x10:Bool:=((((((!x8)||((a0.Key.toNat:Int)==0))||(decide ((a0.Key.toNat:Int)≥2305843009213691579)))||(decide ((a0.Proms.length:Int)>4)))||(!x9)));refine gi hm (fun hc4 hm=> ?_) fun hc4 hm=> ?_
  ·skip;have e0:=Option.some.inj hm;subst e0;exact Aq hd
  refine gi hm (fun hc5 hm=> ?_) fun hc5 hm=> ?_
  ·skip;obtain⟨x11,q14,hm⟩:=Aa hm;refine gc (fun _=>N3 q14) ?_;obtain⟨x12,q15,hm⟩:=Aa hm;refine gcG (fun h=>N5 (En h q15)) ?_;have hm:=AO hm;let x13:Bool:=(((((x11&&((a0.Names.length:Int)==0))&&(decide (a0.Depth≥0)))&&(decide (a0.Depth≤4)))&&x12));have e0:=Option.some.inj hm;subst e0;exact Aq hd
  obtain⟨x14,q17,hm⟩:=Aa hm;refine gcG (fun h=>N6 (En h q17)) ?_;have hm:=AO hm;let x15:Bool:=(((((eqS a0.Subject (⟨#[]⟩:ByteArray))&&x14)&&(a0.Depth==0))&&((a0.Permit.length:Int)==0)));have e0:=Option.some.inj hm;subst e0;exact Aq hd
def IK (a0:Dt)(k0:Int):Option (Bool×Int):=some ((a0.tag_==k0),k0)
theorem R5 {a0:Dt}{k0:Int}{r:Bool×Int}(hm:IK a0 k0=some r):Sp prog 194 [ag (F9 a0),.pb 0 0] [.box 0 [.d (.i k0)] 3] 1 (is (.d (.t r.1)) [.box 0 [.d (.i r.2)] 3] 1):=
 sp call194 func194 rfl ntmps194 rfl fun D0 As η0 m0 hd=>by
  unfold IK at hm;have e0:=Option.some.inj hm;subst e0;exact Aq hd
def Aj (a0:List Dt)(i1:Int)(s1:Int):Option ((Int)⊕(Int×Int)):=Ac (idx a0 (i1:Int)) fun x3=>Ac (IK x3 s1) fun x4=>if x4.1=true then some (.inr ((i1:Int),x4.2))else some (.inl x4.2)
def A2 (a0:List Dt)(k0:Int):Option (Int×Int):=Ac (Ep (Aj a0) a0.length 0 k0) fun x1=>match x1 with| .inr r=>some r| .inl y1=>some ((-1),y1)
theorem EB {a0:List Dt}{k0:Int}{r:Int×Int}(hm:A2 a0 k0=some r):Sp prog 193 [sl F9 a0,.fn (.func 194) [] [.pb 0 0]] [.box 0 [.d (.i k0)] 3] 1 (is (.d (.i r.1)) [.box 0 [.d (.i r.2)] 3] 1):=
 sp call193 func193 rfl ntmps193 rfl fun D0 As η0 m0 hd=>by
  unfold A2 at hm;obtain⟨x1,q1,hm⟩:=Aa hm;refine PU 0 (E:=F9) (xs:=a0) 6 fun hle1=> ?_;refine gjU 0 (fun(y1:Int)=>⟨[],[(0,.box 0 [.d (.i y1)] 3)],[],1⟩) (fun y1=>x1= .inl y1) (fun Jp bk1=> ?_) fun y1 hy=> ?_
  ·refine gl hd (fun(p:Int×(Int))=>let (p0,p_0):=p; ⟨[(0,sl F9 a0),(1,.fn (.func 194) [] [.pb 0 0]),(7,.d (.i (a0.length:Int))),(8,.d (.i p0))],[(0,.box 0 [.d (.i p_0)] 3)],[],1⟩) (fun p=> ∃i:Nat,p.1=(i:Int)∧i≤a0.length∧Ep (Aj a0) (a0.length-i) (i:Int) p.2=some x1) (fun p=>a0.length-p.1.toNat) (0,k0) ⟨0,rfl,Nat.zero_le _,q1⟩ ?_;rintro⟨_,s1⟩ ⟨i1,rfl,hi,q2⟩ Jl bl1;refine gi' (b:=decide ((i1:Int)<(a0.length:Int))) (fun hc2=> ?_) fun hc2=> ?_
   ·have hlt1:i1<a0.length:=by have:=of_decide_eq_true hc2; omega
    obtain⟨y2,q4,q3⟩:=HS q2 hlt1;unfold Aj at q4;obtain⟨x3,q6,q4⟩:=Aa q4;refine Ga (k:=2) (E:=F9) (fun _=>rfl) (fun _=>q6) ?_;obtain⟨x4,q7,q4⟩:=Aa q4;refine gco (R5 q7) ?_;refine gi q4 (fun hc1 q4=> ?_) fun hc1 q4=> ?_
    ·skip;cases q4;rcases q3 with ⟨sn,e,_⟩|⟨tn,e,e2⟩
     ·cases e
     cases e;cases e2;dsimp only at hm;have e0:=Option.some.inj hm;subst e0;exact Aq hd
    have e0:=Option.some.inj q4;subst e0;rcases q3 with ⟨sn,e,q3'⟩|⟨tn,e,_⟩
    ·have e:=Sum.inl.inj e;subst e;exact gb bl1 hd (w64 ((i1:Int)+1),_) ⟨⟨i1+1,Bx hlt1 hle1,by omega,q3'⟩,IC hlt1 hle1⟩
    cases AM e
   have hlt1: ¬i1<a0.length:=by have:=of_decide_eq_false hc2; omega
   have e:=GL q2 hlt1;cases e;exact gb bk1 hd _ rfl
  subst hy;dsimp only at hm;have e0:=Option.some.inj hm;subst e0;exact Aq hd
def Hf (a0:Int):Option (Dt×Bool):=Ac (A2 tab_0 a0) fun x1=>if(decide (x1.1<0))=true then some ((⟨0,(-1)⟩:Dt),false)else Ac (idx tab_0 x1.1) fun x2=>some (x2,true)
theorem VP {a0:Int}{r:Dt×Bool}(hm:Hf a0=some r):Sf prog 149 [.d (.i a0)] (.tup [ag (F9 r.1),.d (.t r.2)]):=
 sp call149 func149 rfl ntmps149 rfl fun D0 As η0 m0 hd=>by
  unfold Hf at hm;refine gslG (k:=2) (E:=F9) tab_0 (fun _=>rfl) ?_;obtain⟨x1,q1,hm⟩:=Aa hm;refine gco (EB q1) ?_;refine gi hm (fun hc1 hm=> ?_) fun hc1 hm=> ?_
  ·skip;have e0:=Option.some.inj hm;subst e0;exact Aq hd
  obtain⟨x2,q2,hm⟩:=Aa hm;refine gidG (k:=2) (E:=F9) tab_0 (fun _=>rfl) (fun _=>q2) ?_;have e0:=Option.some.inj hm;subst e0;exact Aq hd
def NG (n:Int)(a0:List UInt8):Option Bool:=if n=157 then FV a0 else if n=252 then Em a0 else if n=253 then JE a0 else if n=254 then GG a0 else if n=257 then GD a0 else none
theorem Zc {n:Int}{a0:List UInt8}{r:Bool}(hm:NG n a0=some r): ∃k:Nat,n=(k:Int)∧Sf prog k [sl eB a0] (.d (.t r)):=by
 unfold NG at hm;split at hm
 ·rename_i h;exact⟨157,h,NZ hm⟩
 split at hm
 ·rename_i h;exact⟨252,h,QA hm⟩
 split at hm
 ·rename_i h;exact⟨253,h,Qz hm⟩
 split at hm
 ·rename_i h;exact⟨254,h,Qy hm⟩
 split at hm
 ·rename_i h;exact⟨257,h,Qx hm⟩
 cases hm
def Ky (rF:g_api_Item→Int→Option Bool):Prop:= ∀{a0:g_api_Item} {a1:Int} {r:Bool},rF a0 a1=some r→Sf prog 98 [ag (Af a0),.d (.i a1)] (.d (.t r))
def HQ (rF:g_api_Item→Int→Option Bool)(a0:g_api_Item)(k0:Int):Option (Bool×Int):=Ac (rF a0 (w64 (k0-1))) fun x1=>some ((!x1),k0)
theorem Qw {rF:g_api_Item→Int→Option Bool}(hF:Ky rF){a0:g_api_Item}{k0:Int}{r:Bool×Int}(hm:HQ rF a0 k0=some r):Sp prog 151 [ag (Af a0),.pb 0 0] [.box 0 [.d (.i k0)] 3] 1 (is (.d (.t r.1)) [.box 0 [.d (.i r.2)] 3] 1):=
 sp call151 func151 rfl ntmps151 rfl fun D0 As η0 m0 hd=>by
  unfold HQ at hm;obtain⟨x1,q1,hm⟩:=Aa hm;refine gc (fun _=>hF q1) ?_;have e0:=Option.some.inj hm;subst e0;exact Aq hd
def Ak (rF:g_api_Item→Int→Option Bool)(a0:List g_api_Item)(i1:Int)(s1:Int):Option ((Int)⊕(Int×Int)):=Ac (idx a0 (i1:Int)) fun x3=>Ac ((HQ rF) x3 s1) fun x4=>if x4.1=true then some (.inr ((i1:Int),x4.2))else some (.inl x4.2)
def AY (rF:g_api_Item→Int→Option Bool)(a0:List g_api_Item)(k0:Int):Option (Int×Int):=Ac (Ep ((Ak rF) a0) a0.length 0 k0) fun x1=>match x1 with| .inr r=>some r| .inl y1=>some ((-1),y1)
theorem D8 {rF:g_api_Item→Int→Option Bool}(hF:Ky rF){a0:List g_api_Item}{k0:Int}{r:Int×Int}(hm:AY rF a0 k0=some r):Sp prog 195 [sl Af a0,.fn (.func 151) [] [.pb 0 0]] [.box 0 [.d (.i k0)] 3] 1 (is (.d (.i r.1)) [.box 0 [.d (.i r.2)] 3] 1):=
 sp call195 func195 rfl ntmps195 rfl fun D0 As η0 m0 hd=>by
  unfold AY at hm;obtain⟨x1,q1,hm⟩:=Aa hm;refine PU 0 (E:=Af) (xs:=a0) 6 fun hle1=> ?_;refine gjU 0 (fun(y1:Int)=>⟨[],[(0,.box 0 [.d (.i y1)] 3)],[],1⟩) (fun y1=>x1= .inl y1) (fun Jp bk1=> ?_) fun y1 hy=> ?_
  ·refine gl hd (fun(p:Int×(Int))=>let (p0,p_0):=p; ⟨[(0,sl Af a0),(1,.fn (.func 151) [] [.pb 0 0]),(7,.d (.i (a0.length:Int))),(8,.d (.i p0))],[(0,.box 0 [.d (.i p_0)] 3)],[],1⟩) (fun p=> ∃i:Nat,p.1=(i:Int)∧i≤a0.length∧Ep ((Ak rF) a0) (a0.length-i) (i:Int) p.2=some x1) (fun p=>a0.length-p.1.toNat) (0,k0) ⟨0,rfl,Nat.zero_le _,q1⟩ ?_;rintro⟨_,s1⟩ ⟨i1,rfl,hi,q2⟩ Jl bl1;refine gi' (b:=decide ((i1:Int)<(a0.length:Int))) (fun hc2=> ?_) fun hc2=> ?_
   ·have hlt1:i1<a0.length:=by have:=of_decide_eq_true hc2; omega
    obtain⟨y2,q4,q3⟩:=HS q2 hlt1;unfold Ak at q4;obtain⟨x3,q6,q4⟩:=Aa q4;refine Ga (k:=3) (E:=Af) (fun _=>rfl) (fun _=>q6) ?_;obtain⟨x4,q7,q4⟩:=Aa q4;refine gco (Qw hF q7) ?_;refine gi q4 (fun hc1 q4=> ?_) fun hc1 q4=> ?_
    ·skip;cases q4;rcases q3 with ⟨sn,e,_⟩|⟨tn,e,e2⟩
     ·cases e
     cases e;cases e2;dsimp only at hm;have e0:=Option.some.inj hm;subst e0;exact Aq hd
    have e0:=Option.some.inj q4;subst e0;rcases q3 with ⟨sn,e,q3'⟩|⟨tn,e,_⟩
    ·have e:=Sum.inl.inj e;subst e;exact gb bl1 hd (w64 ((i1:Int)+1),_) ⟨⟨i1+1,Bx hlt1 hle1,by omega,q3'⟩,IC hlt1 hle1⟩
    cases AM e
   have hlt1: ¬i1<a0.length:=by have:=of_decide_eq_false hc2; omega
   have e:=GL q2 hlt1;cases e;exact gb bk1 hd _ rfl
  subst hy;dsimp only at hm;have e0:=Option.some.inj hm;subst e0;exact Aq hd
def AI (rF:g_api_Item→Int→Option Bool)(a0:List g_api_Item)(k0:Int):Option (Bool×Int):=Ac ((AY rF) a0 k0) fun x1=>some ((decide (x1.1≥0)),x1.2)
theorem DR {rF:g_api_Item→Int→Option Bool}(hF:Ky rF){a0:List g_api_Item}{k0:Int}{r:Bool×Int}(hm:AI rF a0 k0=some r):Sp prog 150 [sl Af a0,.fn (.func 151) [] [.pb 0 0]] [.box 0 [.d (.i k0)] 3] 1 (is (.d (.t r.1)) [.box 0 [.d (.i r.2)] 3] 1):=
 sp call150 func150 rfl ntmps150 rfl fun D0 As η0 m0 hd=>by
  unfold AI at hm;obtain⟨x1,q1,hm⟩:=Aa hm;refine gco (D8 hF q1) ?_;have e0:=Option.some.inj hm;subst e0;exact Aq hd
def FU (rF:g_api_Item→Int→Option Bool)(a0:g_api_Item)(a1:Int):Option Bool:=Ac (Hf a0.Tag) fun x1=>Ac (gu (!((!x1.2)||(decide (a1<1)))) (NG x1.1.may_ a0.B)) fun x2=>if((((!x1.2)||(decide (a1<1)))||(!x2))||((a0.Tag !=48)&&(decide ((a0.L.length:Int)>0))))=true then some false else Ac ((AI rF) a0.L a1) fun x3=>some (!x3.1)
theorem TB {rF:g_api_Item→Int→Option Bool}(hF:Ky rF){a0:g_api_Item}{a1:Int}{r:Bool}(hm:FU rF a0 a1=some r):Sf prog 98 [ag (Af a0),.d (.i a1)] (.d (.t r)):=
 sp call98 func98 rfl ntmps98 rfl fun D0 As η0 m0 hd=>by
  unfold FU at hm;obtain⟨x1,q1,hm⟩:=Aa hm;refine gc (fun _=>VP q1) ?_;obtain⟨x2,q2,hm⟩:=Aa hm;refine gdynG (fun h=>Zc (En h q2)) ?_;refine gi hm (fun hc1 hm=> ?_) fun hc1 hm=> ?_
  ·skip;have e0:=Option.some.inj hm;subst e0;exact Aq hd
  obtain⟨x3,q3,hm⟩:=Aa hm;refine gco (DR hF q3) ?_;have e0:=Option.some.inj hm;subst e0;exact Aq hd
def Hq:Nat→g_api_Item→Int→Option Bool
 |0,_,_=>none
 |n+1,a0,a1=>FU (Hq n) a0 a1
def OB (a0:g_api_Item)(a1:Int):Option Bool:=Hq AR a0 a1
theorem Pt: ∀n,Ky (Hq n)
 |0=>fun hm=>by cases hm
 |n+1=>fun hm=>TB (Pt n) hm
theorem Wu {a0:g_api_Item}{a1:Int}{r:Bool}(hm:OB a0 a1=some r):Sf prog 98 [ag (Af a0),.d (.i a1)] (.d (.t r)):=Pt AR hm
def A3 (a0:List UInt8):Option (List UInt8):=Ac (app 1 ([]:List UInt8) a0) fun x1=>some x1
theorem FZ {m:Mem}{As:List Ow}{w:World}{a0:List UInt8}{a0v0:Value}{r:List UInt8}(S:St m (As) w)(a0h0:SlR m a0v0 a0)(hm:A3 a0=some r):
  AB Tryz.prog 158 #[a0v0] w fun v w'=> ∃(M:Mem),m≤M∧∃(rv0:Value) (rc0:List Value),St M ((row 1 rv0 rc0 r.length)::As) w'∧v=rv0∧BK M rc0 r:=by
 unfold A3 at hm;have L0:=Mem.rfl' m;refine C9 (args:=[a0v0]) Tryz.func158 rfl Tryz.ntmps158 (Nat.le_of_ble_eq_true rfl) ?_;refine Ag ?_;refine Ae ?_;refine A4 (v:= .slice none 0 0) rfl ?_;refine Ah ?_;refine nrm ?_;refine Ag ?_;refine Ag ?_;refine Ae ?_;refine Ar (v:=a0v0) rfl ?_;refine Nz rfl rfl a0h0 Tryz.underlying52 ?_;refine Ah ?_;refine nrm ?_;refine Cz (t:=(Mc a0v0)) rfl (fun hc1=> ?_) (fun hc1=> ?_)
 ·have he1:a0=[]:=SlR.nilOf a0h0 hc1;rw[he1]at hm;replace hm:(some ([]:List UInt8))=some _:=hm;refine Ag ?_;refine Ae ?_;refine A4 (v:= .slice none 0 0) rfl ?_;refine Ah ?_;refine nrm ?_;refine Bw ?_;refine thR ?_;refine EE ?_;intro we hpd;replace S:=St.pd S hpd;have S1:=St.rowNil S 1;have h1:BK m [] ([]:List UInt8):=BK.nil;replace S1:St _ ((row 1 (.slice none 0 0) [] ([]:List UInt8).length)::As) _:=S1;clear S;have e0:=Option.some.inj hm;subst e0;exact IW [_] rfl ⟨rfl,trivial⟩ ⟨_,L0,_,_,S1,rfl,h1⟩
 refine A6 ?_;refine nrm ?_;refine Ag ?_;refine Ae ?_;refine Ka (parts:=[]) (vs:=[]) (cls:=[]) (n:=0) (sz:=1) S Tryz.underlying52 Tryz.sizeOf5 Tryz.zeroValue5 rfl trivial rfl rfl (by decide) (by decide) ?_;intro v1 w1 S2;have h2:BK m [] ([]:List UInt8):=BK.nil;replace S2:St _ ((row 1 v1 [] ([]:List UInt8).length)::As) _:=S2;clear S;refine Ar (v:=a0v0) rfl ?_;obtain⟨x1,q1,hm⟩:=Aa hm;refine TQ (i:=0) (zs:=x1) (bytes:=1) (ti:=Tryz.t5) S2 rfl rfl h2 rfl rfl a0h0 q1 Tryz.underlying52 Tryz.type5 rfl rfl rfl rfl ?_;intro v2 c1 w2 S3 h3;replace S3:St _ ((row 1 v2 c1 x1.length)::As) _:=S3;clear S2;refine A4 (v:=v2) rfl ?_;refine Ah ?_;refine nrm ?_;refine Bw ?_;refine EE ?_;intro we hpd;replace S3:=St.pd S3 hpd;have e0:=Option.some.inj hm;subst e0;exact IW [_] rfl ⟨rfl,trivial⟩ ⟨_,L0,_,_,S3,rfl,h3⟩
theorem I6 {a0:List UInt8}{r:List UInt8}(hm:A3 a0=some r):Sp prog 158 [sl eB a0] [] 0 (is (.ow 0) [.row 0 1 _ eB r] 1):=
 ⟨call158,fun η m As w vs hv0 hd S=>by
  have S:St m As w:=S;obtain⟨v0,u0,rfl,r0,hv1⟩:=BB.cons_inv hv0;have f0:=Br.ofS Br.b r0.dd;obtain rfl:=BB.nil_inv hv1;refine AB.mono (FZ S f0 hm) ?_;rintro v w' ⟨M,hle,y0,c0,S0,rfl,h0⟩;exact⟨M,(AaZ [v]),_,_,_,hle,Un hd _,⟨rfl,rfl,rfl⟩,JL rfl,(.ow rfl (EC S0)),(St.impL S0 (AbA (Br.toR Br.b rfl rfl (EC S0) h0) fun _ h=>h))⟩⟩
def O1 (rF:(List UInt8)→g_api_Item→Option (List UInt8)):Prop:= ∀{a0:List UInt8} {a1:g_api_Item} {r:List UInt8},rF a0 a1=some r→Sp prog 99 [.ow 0,ag (Af a1)] [.row 0 1 _ eB a0] 1 (is (.ow 1) [.row 1 1 _ eB r] 2)
def CR (rF:(List UInt8)→g_api_Item→Option (List UInt8))(i1:Int)(x4:g_api_Item)(s1:(List UInt8)):Option ((List UInt8)):=Ac (rF s1 x4) fun x5=>some x5
def E4 (rF:(List UInt8)→g_api_Item→Option (List UInt8))(a0:g_api_Item):Option (List UInt8):=Ac (A3 a0.B) fun x1=>Ac (Ac (GM (CR rF) a0.L 0 x1) fun x3=>some x3) fun x2=>some x2
theorem N1 {rF:(List UInt8)→g_api_Item→Option (List UInt8)}(hF:O1 rF){a0:g_api_Item}{r:List UInt8}(hm:E4 rF a0=some r):Sp prog 152 [ag (Af a0)] [] 0 (is (.ow 0) [.row 0 1 _ eB r] 1):=
 sp call152 func152 rfl ntmps152 rfl fun D0 As η0 m0 hd=>by
  unfold E4 at hm;obtain⟨x1,q1,hm⟩:=Aa hm;refine gco (I6 q1) ?_;obtain⟨x2,q2,hm⟩:=Aa hm;obtain⟨x3,q3,q2⟩:=Aa q2;refine PU 0 (E:=Af) (xs:=a0.L) 10 fun hle1=> ?_;refine gjU 0 (fun(_:Unit)=>⟨[(3,.ow 1),(1,.pb 0 0)],[(0,.row 1 1 _ eB x2),(1,.box 0 [.d (.i a0.Tag),sl eB a0.B,sl Af a0.L] 79)],[],2⟩) (fun _=>True) (fun Jp bk1=> ?_) fun _ _=> ?_
  ·refine gjU 0 (fun(_:Unit)=>⟨[(3,.ow 1),(1,.pb 0 0)],[(0,.row 1 1 _ eB x3),(1,.box 0 [.d (.i a0.Tag),sl eB a0.B,sl Af a0.L] 79)],[],2⟩) (fun _=>True) (fun Jp bk2=> ?_) fun _ _=> ?_
   ·refine gl hd (fun(p:Int×((List UInt8)))=>let (p0,p_0):=p; ⟨[(3,.ow 1),(10,sl Af a0.L),(11,.d (.i (a0.L.length:Int))),(12,.d (.i p0)),(1,.pb 0 0)],[(0,.row 1 1 _ eB p_0),(1,.box 0 [.d (.i a0.Tag),sl eB a0.B,sl Af a0.L] 79)],[],2⟩) (fun p=> ∃i:Nat,p.1=(i:Int)∧i≤a0.L.length∧GM (CR rF) (a0.L.drop i) (i:Int) p.2=some x3) (fun p=>a0.L.length-p.1.toNat) (0,x1) ⟨0,rfl,Nat.zero_le _,q3⟩ ?_;rintro⟨_,s1⟩ ⟨i1,rfl,hi,q4⟩ Jl bl1;refine gi' (b:=decide ((i1:Int)<(a0.L.length:Int))) (fun hc1=> ?_) fun hc1=> ?_
    ·have hlt1:i1<a0.L.length:=by have:=of_decide_eq_true hc1; omega
     obtain⟨x4,y1,q7,q6,q5⟩:=KI q4 hlt1;unfold CR at q6;refine Ga (k:=3) (E:=Af) (fun _=>rfl) (fun _=>q7) ?_;obtain⟨x5,q8,q6⟩:=Aa q6;refine gco (hF q8) ?_;have e0:=Option.some.inj q6;subst e0;exact gb bl1 hd (w64 ((i1:Int)+1),x5) ⟨⟨i1+1,Bx hlt1 hle1,by omega,q5⟩,IC hlt1 hle1⟩
    have hlt1: ¬i1<a0.L.length:=by have:=of_decide_eq_false hc1; omega
    have e:=Eq.symm (Jn q4 hlt1);subst e;exact gb bk2 hd () trivial
   have e0:=Option.some.inj q2;subst e0;exact gb bk1 hd () trivial
  have e0:=Option.some.inj hm;subst e0;exact Aq hd
def Is (rF:(List UInt8)→g_api_Item→Option (List UInt8))(a0:List UInt8)(a1:g_api_Item):Option (List UInt8):=Ac ((E4 rF) a1) fun x1=>Ac (app 1 a0 ([(toB a1.Tag)]:List UInt8)) fun x2=>Ac (bnd ((decide ((x1.length:Int)<128))) fun x4=>if x4=true then Ac (app 1 x2 ([(toB (x1.length:Int))]:List UInt8)) fun x5=>some x5 else bnd ((decide ((x1.length:Int)<256))) fun x6=>if x6=true then Ac (app 1 x2 ([129,(toB (x1.length:Int))]:List UInt8)) fun x7=>some x7 else Ac (app 1 x2 ([130,(toB (DS (x1.length:Int) 8)),(toB (x1.length:Int))]:List UInt8)) fun x8=>some x8) fun x3=>Ac (app 1 x3 x1) fun x9=>some x9
theorem TA {rF:(List UInt8)→g_api_Item→Option (List UInt8)}(hF:O1 rF){a0:List UInt8}{a1:g_api_Item}{r:List UInt8}(hm:Is rF a0 a1=some r):Sp prog 99 [.ow 0,ag (Af a1)] [.row 0 1 _ eB a0] 1 (is (.ow 1) [.row 1 1 _ eB r] 2):=
 sp call99 func99 rfl ntmps99 rfl fun D0 As η0 m0 hd=>by
  unfold Is at hm;obtain⟨x1,q1,hm⟩:=Aa hm;refine gco (N1 hF q1) ?_;refine Fc (k:=1) eB ([(toB a1.Tag)]:List UInt8) (fun _=>rfl) ?_;obtain⟨x2,q2,hm⟩:=Aa hm;refine KZ (k:=1) (E:=eB) (fun _=>rfl) q2 ?_;obtain⟨x3,q3,hm⟩:=Aa hm;refine gjU 0 (fun(_:Unit)=>⟨[(0,.ow 3),(5,.ow 2),(3,.pb 1 0)],[(0,.row 3 1 _ eB x3),(1,.row 2 1 _ eB x1),(2,.box 1 [.d (.i a1.Tag),sl eB a1.B,sl Af a1.L] 79)],[],4⟩) (fun _=>True) (fun Jp bk1=> ?_) fun _ _=> ?_
  ·skip;have q3:=AO q3;let x4:Bool:=((decide ((x1.length:Int)<128)));refine gi q3 (fun hc1 q3=> ?_) fun hc1 q3=> ?_
   ·refine Fc (k:=1) eB ([(toB (x1.length:Int))]:List UInt8) (fun _=>rfl) ?_;obtain⟨x5,q5,q3⟩:=Aa q3;refine KZ (k:=1) (E:=eB) (fun _=>rfl) q5 ?_;have e0:=Option.some.inj q3;subst e0;exact gb bk1 hd () trivial
   have q3:=AO q3;let x6:Bool:=((decide ((x1.length:Int)<256)));refine gi q3 (fun hc2 q3=> ?_) fun hc2 q3=> ?_
   ·refine Fc (k:=1) eB ([129,(toB (x1.length:Int))]:List UInt8) (fun _=>rfl) ?_;obtain⟨x7,q7,q3⟩:=Aa q3;refine KZ (k:=1) (E:=eB) (fun _=>rfl) q7 ?_;have e0:=Option.some.inj q3;subst e0;exact gb bk1 hd () trivial
   refine Fc (k:=1) eB ([130,(toB (DS (x1.length:Int) 8)),(toB (x1.length:Int))]:List UInt8) (fun _=>rfl) ?_;obtain⟨x8,q8,q3⟩:=Aa q3;refine KZ (k:=1) (E:=eB) (fun _=>rfl) q8 ?_;have e0:=Option.some.inj q3;subst e0;exact gb bk1 hd () trivial
  obtain⟨x9,q9,hm⟩:=Aa hm;refine KZ (k:=1) (E:=eB) (fun _=>rfl) q9 ?_;have e0:=Option.some.inj hm;subst e0;exact Aq hd
def Gh:Nat→(List UInt8)→g_api_Item→Option (List UInt8)
 |0,_,_=>none
 |n+1,a0,a1=>Is (Gh n) a0 a1
def OA (a0:List UInt8)(a1:g_api_Item):Option (List UInt8):=Gh AR a0 a1
theorem Ps: ∀n,O1 (Gh n)
 |0=>fun hm=>by cases hm
 |n+1=>fun hm=>TA (Ps n) hm
theorem Wt {a0:List UInt8}{a1:g_api_Item}{r:List UInt8}(hm:OA a0 a1=some r):Sp prog 99 [.ow 0,ag (Af a1)] [.row 0 1 _ eB a0] 1 (is (.ow 1) [.row 1 1 _ eB r] 2):=Ps AR hm
def Hw (a0:g_api_Item):Option ((List UInt8)×Int):=Ac (OB a0 8) fun x1=>if(!x1)=true then some (([]:List UInt8),1)else Ac (OA ([]:List UInt8) a0) fun x2=>if(decide ((x2.length:Int)>8192))=true then some (([]:List UInt8),2)else some (x2,0)
theorem R6 {a0:g_api_Item}{r:(List UInt8)×Int}(hm:Hw a0=some r):Sp prog 53 [ag (Af a0)] [] 0 (is (.tup [.ow 0,.d (.i r.2)]) [.row 0 1 _ eB r.1] 1):=
 sp call53 func53 rfl ntmps53 rfl fun D0 As η0 m0 hd=>by
  unfold Hw at hm;obtain⟨x1,q1,hm⟩:=Aa hm;refine gc (fun _=>Wu q1) ?_;refine gi hm (fun hc1 hm=> ?_) fun hc1 hm=> ?_
  ·skip;refine Acn eB 2 1 ?_;have e0:=Option.some.inj hm;subst e0;exact Aq hd
  obtain⟨x2,q2,hm⟩:=Aa hm;refine gco (Sp.nil0 (Wt q2) rfl) ?_;refine gi hm (fun hc2 hm=> ?_) fun hc2 hm=> ?_
  ·skip;refine Acn eB 2 1 ?_;have e0:=Option.some.inj hm;subst e0;exact Aq hd
  have e0:=Option.some.inj hm;subst e0;exact Aq hd
def A9 (a0:List g_api_Item):Option (List g_api_Item):=Ac (app 56 ([]:List g_api_Item) a0) fun x1=>some x1
theorem GS {m:Mem}{As:List Ow}{w:World}{a0:List g_api_Item}{a0v0:Value}{r:List g_api_Item}(S:St m (As) w)(a0h0:SlR m a0v0 a0)(hm:A9 a0=some r):
  AB Tryz.prog 153 #[a0v0] w fun v w'=> ∃(M:Mem),m≤M∧∃(rv0:Value) (rc0:List Value),St M ((row 3 rv0 rc0 r.length)::As) w'∧v=rv0∧BK M rc0 r:=by
 unfold A9 at hm;have L0:=Mem.rfl' m;refine C9 (args:=[a0v0]) Tryz.func153 rfl Tryz.ntmps153 (Nat.le_of_ble_eq_true rfl) ?_;refine Ag ?_;refine Ae ?_;refine A4 (v:= .slice none 0 0) rfl ?_;refine Ah ?_;refine nrm ?_;refine Ag ?_;refine Ag ?_;refine Ae ?_;refine Ar (v:=a0v0) rfl ?_;refine Nz rfl rfl a0h0 Tryz.underlying77 ?_;refine Ah ?_;refine nrm ?_;refine Cz (t:=(Mc a0v0)) rfl (fun hc1=> ?_) (fun hc1=> ?_)
 ·have he1:a0=[]:=SlR.nilOf a0h0 hc1;rw[he1]at hm;replace hm:(some ([]:List g_api_Item))=some _:=hm;refine Ag ?_;refine Ae ?_;refine A4 (v:= .slice none 0 0) rfl ?_;refine Ah ?_;refine nrm ?_;refine Bw ?_;refine thR ?_;refine EE ?_;intro we hpd;replace S:=St.pd S hpd;have S1:=St.rowNil S 3;have h1:BK m [] ([]:List g_api_Item):=BK.nil;replace S1:St _ ((row 3 (.slice none 0 0) [] ([]:List g_api_Item).length)::As) _:=S1;clear S;have e0:=Option.some.inj hm;subst e0;exact IW [_] rfl ⟨rfl,trivial⟩ ⟨_,L0,_,_,S1,rfl,h1⟩
 refine A6 ?_;refine nrm ?_;refine Ag ?_;refine Ae ?_;refine Ka (parts:=[]) (vs:=[]) (cls:=[]) (n:=0) (sz:=3) S Tryz.underlying77 Tryz.sizeOf79 Tryz.zeroValue79 rfl trivial rfl rfl (by decide) (by decide) ?_;intro v1 w1 S2;have h2:BK m [] ([]:List g_api_Item):=BK.nil;replace S2:St _ ((row 3 v1 [] ([]:List g_api_Item).length)::As) _:=S2;clear S;refine Ar (v:=a0v0) rfl ?_;obtain⟨x1,q1,hm⟩:=Aa hm;refine TQ (i:=0) (zs:=x1) (bytes:=56) (ti:=Tryz.t79) S2 rfl rfl h2 rfl rfl a0h0 q1 Tryz.underlying77 Tryz.type79 rfl rfl rfl rfl ?_;intro v2 c1 w2 S3 h3;replace S3:St _ ((row 3 v2 c1 x1.length)::As) _:=S3;clear S2;refine A4 (v:=v2) rfl ?_;refine Ah ?_;refine nrm ?_;refine Bw ?_;refine EE ?_;intro we hpd;replace S3:=St.pd S3 hpd;have e0:=Option.some.inj hm;subst e0;exact IW [_] rfl ⟨rfl,trivial⟩ ⟨_,L0,_,_,S3,rfl,h3⟩
theorem GY {a0:List g_api_Item}{r:List g_api_Item}(hm:A9 a0=some r):Sp prog 153 [sl Af a0] [] 0 (is (.ow 0) [.row 0 3 _ Af r] 1):=
 ⟨call153,fun η m As w vs hv0 hd S=>by
  have S:St m As w:=S;obtain⟨v0,u0,rfl,r0,hv1⟩:=BB.cons_inv hv0;have f0:=Br.ofS ML r0.dd;obtain rfl:=BB.nil_inv hv1;refine AB.mono (GS S f0 hm) ?_;rintro v w' ⟨M,hle,y0,c0,S0,rfl,h0⟩;exact⟨M,(AaZ [v]),_,_,_,hle,Un hd _,⟨rfl,rfl,rfl⟩,JL rfl,(.ow rfl (EC S0)),(St.impL S0 (AbA (Br.toR ML rfl rfl (EC S0) h0) fun _ h=>h))⟩⟩
def E5 (a0:List g_api_Item):Option g_api_Item:=Ac (A9 a0) fun x1=>some (⟨48,[],x1⟩:g_api_Item)
theorem H4 {a0:List g_api_Item}{r:g_api_Item}(hm:E5 a0=some r):Sf prog 100 [sl Af a0] (ag (Af r)):=
 sp call100 func100 rfl ntmps100 rfl fun D0 As η0 m0 hd=>by
  unfold E5 at hm;obtain⟨x1,q1,hm⟩:=Aa hm;refine gco (GY q1) ?_;have e0:=Option.some.inj hm;subst e0;exact Aq hd
def IL (a0:Int)(i1:Int)(s1:UInt8×UInt8×UInt8×UInt8×UInt8×UInt8×UInt8×UInt8):Option (UInt8×UInt8×UInt8×UInt8×UInt8×UInt8×UInt8×UInt8):=if(0:Int)≤(w64 (56-(w64 (8*(i1:Int)))))then Ac (idx [s1.1,s1.2.1,s1.2.2.1,s1.2.2.2.1,s1.2.2.2.2.1,s1.2.2.2.2.2.1,s1.2.2.2.2.2.2.1,s1.2.2.2.2.2.2.2] (i1:Int)) fun x4=>bnd (if(i1:Int)=0 then(toB (DS a0 ((w64 (56-(w64 (8*(i1:Int))))).toNat)))else s1.1) fun x5=>bnd (if(i1:Int)=1 then(toB (DS a0 ((w64 (56-(w64 (8*(i1:Int))))).toNat)))else s1.2.1) fun x6=>bnd (if(i1:Int)=2 then(toB (DS a0 ((w64 (56-(w64 (8*(i1:Int))))).toNat)))else s1.2.2.1) fun x7=>bnd (if(i1:Int)=3 then(toB (DS a0 ((w64 (56-(w64 (8*(i1:Int))))).toNat)))else s1.2.2.2.1) fun x8=>bnd (if(i1:Int)=4 then(toB (DS a0 ((w64 (56-(w64 (8*(i1:Int))))).toNat)))else s1.2.2.2.2.1) fun x9=>bnd (if(i1:Int)=5 then(toB (DS a0 ((w64 (56-(w64 (8*(i1:Int))))).toNat)))else s1.2.2.2.2.2.1) fun x10=>bnd (if(i1:Int)=6 then(toB (DS a0 ((w64 (56-(w64 (8*(i1:Int))))).toNat)))else s1.2.2.2.2.2.2.1) fun x11=>bnd (if(i1:Int)=7 then(toB (DS a0 ((w64 (56-(w64 (8*(i1:Int))))).toNat)))else s1.2.2.2.2.2.2.2) fun x12=>some (x5,x6,x7,x8,x9,x10,x11,x12)else none
def C4 (s2:(List UInt8)):Option (((List UInt8))⊕((List UInt8))):=Ac (if(decide ((s2.length:Int)>1))=true then Ac (FV s2) fun x18=>some (!x18)else some false) fun x17=>if x17=true then Ac (cut s2 1 (s2.length:Int)) fun x19=>some (.inl x19)else some (.inr s2)
def Ew (a0:Int):Option g_api_Item:=Ac (Ac (Dh (IL a0) 8 0 (0,0,0,0,0,0,0,0)) fun x2=>some (x2.1,x2.2.1,x2.2.2.1,x2.2.2.2.1,x2.2.2.2.2.1,x2.2.2.2.2.2.1,x2.2.2.2.2.2.2.1,x2.2.2.2.2.2.2.2)) fun x1=>Ac (Ac (iter C4 AR ([x1.1,x1.2.1,x1.2.2.1,x1.2.2.2.1,x1.2.2.2.2.1,x1.2.2.2.2.2.1,x1.2.2.2.2.2.2.1,x1.2.2.2.2.2.2.2]:List UInt8)) fun x14=>some x14) fun x13=>Ac (A3 x13) fun x20=>some (⟨2,x20,[]⟩:g_api_Item)
theorem Wv {m:Mem}{As:List Ow}{w:World}{a0:Int}{r:g_api_Item}(S:St m (As) w)(hm:Ew a0=some r):
  AB Tryz.prog 106 #[vI a0] w fun v w'=> ∃(M:Mem),m≤M∧∃(rv0_1:Value) (rv0_2:Value),St M (As) w'∧v= .agg #[vI r.Tag,rv0_1,rv0_2]∧SlR M rv0_1 r.B∧SlR M rv0_2 r.L:=by
 unfold Ew at hm;have L0:=Mem.rfl' m;refine C9 (args:=[vI a0]) Tryz.func106 rfl Tryz.ntmps106 (Nat.le_of_ble_eq_true rfl) ?_;refine Ag ?_;refine Ae ?_;refine Fx S Tryz.zeroValue79 ?_;intro b1 w1 S1;replace S1:St _ ((bx b1 [vI 0,.slice none 0 0,.slice none 0 0] 79)::As) _:=S1;clear S;refine Ah ?_;refine nrm ?_;refine Ag ?_;refine Ae ?_;refine Fx S1 Tryz.zeroValue155 ?_;intro b2 w2 S2;replace S2:St _ ((bx b2 [vB 0,vB 0,vB 0,vB 0,vB 0,vB 0,vB 0,vB 0] 155)::(bx b1 [vI 0,.slice none 0 0,.slice none 0 0] 79)::As) _:=S2;clear S1;refine Ah ?_;refine nrm ?_;obtain⟨x1,q1,hm⟩:=Aa hm;have L1:=Mem.rfl' m;refine Ag ?_;refine A8 [4,6,7,8,9,10,11,12,13,14,15,16,17] (fun f' w'=> ∃(M1:Mem),m≤M1∧St M1 ((bx b2 [vB x1.1,vB x1.2.1,vB x1.2.2.1,vB x1.2.2.2.1,vB x1.2.2.2.2.1,vB x1.2.2.2.2.2.1,vB x1.2.2.2.2.2.2.1,vB x1.2.2.2.2.2.2.2] 155)::(bx b1 [vI 0,.slice none 0 0,.slice none 0 0] 79)::As) w'∧Cl f' []) ?_ ?_
 ·refine Ag ?_;refine Ae ?_;refine Ar (v:=vI 0) rfl ?_;refine Ah ?_;refine nrm ?_;obtain⟨x2,q2,q1⟩:=Aa q1;have L2:=Mem.rfl' m;refine A8 [4,6,7,8,9,10,11,12,13,14,15,16,17] (fun f' w'=> ∃(M2:Mem),m≤M2∧St M2 ((bx b2 [vB x2.1,vB x2.2.1,vB x2.2.2.1,vB x2.2.2.2.1,vB x2.2.2.2.2.1,vB x2.2.2.2.2.2.1,vB x2.2.2.2.2.2.2.1,vB x2.2.2.2.2.2.2.2] 155)::(bx b1 [vI 0,.slice none 0 0,.slice none 0 0] 79)::As) w'∧Cl f' []) ?_ ?_
  ·refine Az ?_;refine B4 [4,6,7,8,9,10,11,12,13,14,15,16,17] (fun n1 f' w'=> ∃(i1:Nat) (s1:UInt8×UInt8×UInt8×UInt8×UInt8×UInt8×UInt8×UInt8) (m2:Mem),n1=8-i1∧i1≤8∧Dh (IL a0) (8-i1) (i1:Int) s1=some x2∧m≤m2∧St m2 ((bx b2 [vB s1.1,vB s1.2.1,vB s1.2.2.1,vB s1.2.2.2.1,vB s1.2.2.2.2.1,vB s1.2.2.2.2.2.1,vB s1.2.2.2.2.2.2.1,vB s1.2.2.2.2.2.2.2] 155)::(bx b1 [vI 0,.slice none 0 0,.slice none 0 0] 79)::As) w'∧Cl f' [(6,vI (i1:Int))]) 8 ⟨0,(0,0,0,0,0,0,0,0),m,rfl,Nat.zero_le _,q2,L2,S2,⟨rfl,trivial⟩⟩ ?_;rintro n1 f1 w3 ho ⟨i1,s1,m1,hn,hi,q3,L4,S3,ha⟩;obtain⟨u1,rfl⟩:=B3 (N:=32) ho ha;clear ho ha;have L3:=Mem.rfl' m1;clear S2;refine Ag ?_;refine Ae ?_;refine KO (m:=(i1:Int)) (n:=8) rfl rfl ?_;refine Ah ?_;refine nrm ?_;refine Ag ?_;refine Cz (t:=decide ((i1:Int)<(8:Int))) rfl (fun hc1=> ?_) (fun hc1=> ?_)
   ·have hlt1:i1<8:=by have:=of_decide_eq_true hc1; omega
    obtain⟨y1,q5,q4⟩:=Iw q3 hlt1;unfold IL at q5;refine A6 ?_;refine nrm ?_;refine Ag ?_;refine Az ?_;refine Ag ?_;refine Ae ?_;refine Ar (v:=vI (i1:Int)) rfl ?_;refine A4 (v:=vI (i1:Int)) rfl ?_;refine Ah ?_;refine nrm ?_;refine Ae ?_;refine Ar (v:=vI (i1:Int)) rfl ?_;refine Ar (v:=vI a0) rfl ?_;refine Ar (v:=vI (i1:Int)) rfl ?_;refine PE (m:=8) (n:=(i1:Int)) rfl rfl ?_;refine M6 (m:=56) (n:=(w64 (8*(i1:Int)))) rfl rfl ?_;obtain⟨q7,q5⟩:=Ck q5;refine Aar (m:=a0) (n:=(w64 (56-(w64 (8*(i1:Int)))))) rfl rfl q7 ?_;refine QT rfl Tryz.underlying3 Tryz.underlying5 ?_;obtain⟨x4,q8,q5⟩:=Aa q5;refine IF (i:=(i1:Int)) rfl rfl Tryz.underlying155 Tryz.sizeOf5 (CS q8).1 (CS q8).2 ?_;obtain⟨x5,q9,q5⟩:=CU q5;obtain⟨x6,q10,q5⟩:=CU q5;obtain⟨x7,q11,q5⟩:=CU q5;obtain⟨x8,q12,q5⟩:=CU q5;obtain⟨x9,q13,q5⟩:=CU q5;obtain⟨x10,q14,q5⟩:=CU q5;obtain⟨x11,q15,q5⟩:=CU q5;obtain⟨x12,q16,q5⟩:=CU q5;refine Zp (i:=0) (off:=0+(i1:Int).toNat*1) S3 rfl rfl rfl Tryz.sizeOf5 (Uv.all (Jo rfl MD)) (by rcases idx8 q8 with ⟨h,h'⟩|⟨h,h'⟩|⟨h,h'⟩|⟨h,h'⟩|⟨h,h'⟩|⟨h,h'⟩|⟨h,h'⟩|⟨h,h'⟩<;>(rw[h]; exact Nat.le_of_ble_eq_true rfl)) ?_;intro w4 S4;replace S4:=St.cellsTo (i:=0) (l':=[vB x5,vB x6,vB x7,vB x8,vB x9,vB x10,vB x11,vB x12]) S4 (by rcases idx8 q8 with ⟨h,h'⟩|⟨h,h'⟩|⟨h,h'⟩|⟨h,h'⟩|⟨h,h'⟩|⟨h,h'⟩|⟨h,h'⟩|⟨h,h'⟩<;>(simp only[q9,q10,q11,q12,q13,q14,q15,q16,h]; rfl)) rfl;replace S4:St _ ((bx b2 [vB x5,vB x6,vB x7,vB x8,vB x9,vB x10,vB x11,vB x12] 155)::(bx b1 [vI 0,.slice none 0 0,.slice none 0 0] 79)::As) _:=S4;clear S3;refine Ah ?_;refine MF ?_;refine nrm ?_;refine Ae ?_;refine FA (m:=(i1:Int)) (n:=1) rfl rfl ?_;refine Ar (v:=vI (w64 ((i1:Int)+1))) rfl ?_;refine Ah ?_;refine nrm ?_;have e0:=Option.some.inj q5;subst e0;exact⟨FI,_,(by omega),⟨i1+1,(x5,x6,x7,x8,x9,x10,x11,x12),m1,rfl,hlt1,q4,Mem.tr L4 L3,S4,⟨congrArg (Value.int .i64) (Bx hlt1 (by decide)),trivial⟩⟩⟩
   have hlt1: ¬i1<8:=by have:=of_decide_eq_false hc1; omega
   have e:=Eq.symm (Hk q3 hlt1);subst e;refine CV ?_;refine thE ?_;refine thE ?_;refine exB ?_;refine nrm ?_;exact⟨FI,m1,Mem.tr L4 L3,S3,trivial⟩
  rintro f2 w5 ho ⟨m3,l1,S5,ha⟩;obtain⟨u2,rfl⟩:=B3 (N:=32) ho ha;clear ho ha;replace L1:=Mem.tr L1 l1;clear S2;have e0:=Option.some.inj q1;subst e0;exact⟨FI,m3,L1,S5,trivial⟩
 rintro f3 w6 ho ⟨m4,l2,S6,ha⟩;obtain⟨u3,rfl⟩:=B3 (N:=32) ho ha;replace L0:=Mem.tr L0 l2;clear S2;refine Ag ?_;refine Ae ?_;refine Ny (k:=8) (n:=8) (sz:=1) (off:=0) rfl Tryz.underlying155 Tryz.sizeOf5 (.inl ⟨rfl,rfl⟩) (Nat.le_refl _) ?_;have S7:=St.bxRow (i:=0) (sz:=1) (n:=8) S6 rfl rfl (by decide);have h1:BK m4 [vB x1.1,vB x1.2.1,vB x1.2.2.1,vB x1.2.2.2.1,vB x1.2.2.2.2.1,vB x1.2.2.2.2.2.1,vB x1.2.2.2.2.2.2.1,vB x1.2.2.2.2.2.2.2] ([x1.1,x1.2.1,x1.2.2.1,x1.2.2.2.1,x1.2.2.2.2.1,x1.2.2.2.2.2.1,x1.2.2.2.2.2.2.1,x1.2.2.2.2.2.2.2]:List UInt8):=(BK.cons (c:=[vB x1.1]) rfl (BK.cons (c:=[vB x1.2.1]) rfl (BK.cons (c:=[vB x1.2.2.1]) rfl (BK.cons (c:=[vB x1.2.2.2.1]) rfl (BK.cons (c:=[vB x1.2.2.2.2.1]) rfl (BK.cons (c:=[vB x1.2.2.2.2.2.1]) rfl (BK.cons (c:=[vB x1.2.2.2.2.2.2.1]) rfl (BK.cons (c:=[vB x1.2.2.2.2.2.2.2]) rfl BK.nil))))))));replace S7:St _ ((row 1 (.slice (some ⟨b2,0,none⟩) 8 8) [vB x1.1,vB x1.2.1,vB x1.2.2.1,vB x1.2.2.2.1,vB x1.2.2.2.2.1,vB x1.2.2.2.2.2.1,vB x1.2.2.2.2.2.2.1,vB x1.2.2.2.2.2.2.2] ([x1.1,x1.2.1,x1.2.2.1,x1.2.2.2.1,x1.2.2.2.2.1,x1.2.2.2.2.2.1,x1.2.2.2.2.2.2.1,x1.2.2.2.2.2.2.2]:List UInt8).length)::(bx b1 [vI 0,.slice none 0 0,.slice none 0 0] 79)::As) _:=S7;clear S6;refine A4 (v:=(.slice (some ⟨b2,0,none⟩) 8 8)) rfl ?_;refine Ah ?_;refine nrm ?_;obtain⟨x13,q17,hm⟩:=Aa hm;have L5:=Mem.rfl' m4;refine Ag ?_;refine A8 [5,19,20,21,22,23,24,25,26,27,28] (fun f' w'=> ∃(M3:Mem) (v1:Value),m4≤M3∧St M3 ((bx b1 [vI 0,.slice none 0 0,.slice none 0 0] 79)::As) w'∧SlR M3 v1 x13∧Cl f' [(5,v1)]) ?_ ?_
 ·obtain⟨x14,q18,q17⟩:=Aa q17;have L6:=Mem.rfl' m4;obtain⟨m5,l3,h4,S8⟩:=St.rowKeepT (i:=0) S7 rfl h1 rfl;replace L6:=Mem.tr L6 l3;clear S7;refine A8 [5,19,20,21,22,23,24,25,26,27,28] (fun f' w'=> ∃(M4:Mem) (v3:Value),m4≤M4∧St M4 ((bx b1 [vI 0,.slice none 0 0,.slice none 0 0] 79)::As) w'∧SlR M4 v3 x14∧Cl f' [(5,v3)]) ?_ ?_
  ·refine Az ?_;refine B4 [5,19,20,21,22,23,24,25,26,27,28] (fun n2 f' w'=> ∃(s2:(List UInt8)) (m10:Mem) (v2:Value),iter C4 n2 s2=some x14∧m4≤m10∧St m10 ((bx b1 [vI 0,.slice none 0 0,.slice none 0 0] 79)::As) w'∧SlR m10 v2 s2∧Cl f' [(5,v2)]) AR ⟨([x1.1,x1.2.1,x1.2.2.1,x1.2.2.2.1,x1.2.2.2.2.1,x1.2.2.2.2.2.1,x1.2.2.2.2.2.2.1,x1.2.2.2.2.2.2.2]:List UInt8),m5,_,q18,L6,S8,h4,⟨rfl,trivial⟩⟩ ?_;rintro n2 f4 w7 ho ⟨s2,m6,v2,q19,L8,S9,h3,ha⟩;obtain⟨u4,rfl⟩:=B3 (N:=32) ho ha;clear ho ha;have L7:=Mem.rfl' m6;clear S8;cases n2 with
   |zero=>exact(An q19).elim
   |succ n2=>
    obtain⟨y2,q21,q20⟩:=Am q19;unfold C4 at q21;refine Ag ?_;refine Ag ?_;refine Ae ?_;refine Ar (v:=v2) rfl ?_;refine Kb (xs:=s2) rfl h3 Tryz.underlying52 ?_;refine VW (m:=(s2.length:Int)) (n:=1) rfl rfl ?_;refine Ar (v:=vb (decide ((s2.length:Int)>1))) rfl ?_;obtain⟨x17,q24,q21⟩:=Aa q21;have L9:=Mem.rfl' m6;refine P7 4 [23,24,25,26] (fun f' w'=> ∃(M5:Mem),m6≤M5∧St M5 ((bx b1 [vI 0,.slice none 0 0,.slice none 0 0] 79)::As) w'∧Cl f' [(26,vb x17)]) ?_ ?_
    ·rcases RB (decide ((s2.length:Int)>1))with hb1|hb1
     ·replace q24:=ifT hb1 q24;refine FL (d:=22) rfl rfl (congrArg Value.bool hb1) ?_;refine Ar (v:=v2) rfl ?_;refine FL (d:=22) rfl rfl (congrArg Value.bool hb1) ?_;obtain⟨x18,q25,q24⟩:=Aa q24;refine CJ Tryz.call157 (TE (a0:=s2) S9 h3 q25) rfl ?_;rintro _ w9 ⟨m8,l5,S11,rfl⟩;replace h3:=h3.up l5;replace L9:=Mem.tr L9 l5;clear S9;replace S11:St _ ((bx b1 [vI 0,.slice none 0 0,.slice none 0 0] 79)::As) _:=S11;refine FL (d:=22) rfl rfl (congrArg Value.bool hb1) ?_;refine TN rfl ?_;refine Jy (congrArg Value.bool hb1) rfl ?_;refine Ah (nrm ?_);have e0:=Option.some.inj q24;subst e0;exact⟨FI,m8,L9,S11,⟨rfl,trivial⟩⟩
     replace q24:=ifF hb1 q24;refine GZ (d:=22) rfl rfl (congrArg Value.bool hb1) ?_;refine GZ (d:=22) rfl rfl (congrArg Value.bool hb1) ?_;refine GZ (d:=22) rfl rfl (congrArg Value.bool hb1) ?_;refine Jz (congrArg Value.bool hb1) rfl ?_;refine Ah (nrm ?_);have e0:=Option.some.inj q24;subst e0;exact⟨FI,m6,L9,S9,⟨rfl,trivial⟩⟩
    rintro f5 w10 ho ⟨m9,l6,S12,ha⟩;obtain⟨u5,rfl⟩:=B3 (N:=32) ho ha;replace h3:=h3.up l6;replace L7:=Mem.tr L7 l6;clear S9;refine Ah ?_;refine nrm ?_;refine Cz (t:=x17) rfl (fun hc2=> ?_) (fun hc2=> ?_)
    ·replace q21:=ifT hc2 q21;refine A6 ?_;refine nrm ?_;refine Az ?_;refine Ae ?_;refine Ar (v:=v2) rfl ?_;obtain⟨x19,q26,q21⟩:=Aa q21;refine TO (ys:=x19) (l:=1) (h:=(s2.length:Int)) rfl h3 Tryz.underlying52 Tryz.sizeOf5 (.inr ⟨_,rfl⟩) (.inl ⟨rfl,rfl⟩) (.inl rfl) q26 ?_;intro v4 h6;refine A4 (v:=v4) rfl ?_;refine Ah ?_;refine MF ?_;refine nrm ?_;have e0:=Option.some.inj q21;subst e0;rcases q20 with ⟨sn,e,q20'⟩|e
     ·cases e;exact⟨FI,_,Nat.lt_succ_self _,⟨_,m9,_,q20',Mem.tr L8 L7,S12,h6,⟨rfl,trivial⟩⟩⟩
     ·cases e
    replace q21:=ifF hc2 q21;refine CV ?_;refine thE ?_;refine thE ?_;refine exB ?_;refine nrm ?_;have e0:=Option.some.inj q21;subst e0;rcases q20 with ⟨sn,e,_⟩|e
    ·cases e
    ·cases e;exact⟨FI,m9,_,Mem.tr L8 L7,S12,h3,⟨rfl,trivial⟩⟩
  rintro f6 w11 ho ⟨m11,v3,l7,S13,h5,ha⟩;obtain⟨u6,rfl⟩:=B3 (N:=32) ho ha;clear ho ha;replace L5:=Mem.tr L5 l7;clear S8;have e0:=Option.some.inj q17;subst e0;exact⟨FI,m11,_,L5,S13,h5,⟨rfl,trivial⟩⟩
 rintro f7 w12 ho ⟨m12,v1,l8,S14,h2,ha⟩;obtain⟨u7,rfl⟩:=B3 (N:=32) ho ha;replace L0:=Mem.tr L0 l8;clear S7;refine Ag ?_;refine Ae ?_;refine Ar (v:=v1) rfl ?_;obtain⟨x20,q27,hm⟩:=Aa hm;refine CJ Tryz.call158 (FZ (a0:=x13) S14 h2 q27) rfl ?_;rintro v5 w13 ⟨m13,l9,_,c1,S15,rfl,h7⟩;replace h2:=h2.up l9;replace L0:=Mem.tr L0 l9;clear S14;replace S15:St _ ((row 1 v5 c1 x20.length)::(bx b1 [vI 0,.slice none 0 0,.slice none 0 0] 79)::As) _:=S15;obtain⟨m14,l10,h8,S16⟩:=St.rowKeepT (i:=0) S15 rfl h7 rfl;replace L0:=Mem.tr L0 l10;clear S15;refine TP (parts:=[(0,.const (.int .i64 2)),(1,.tmp 30)]) (ps:=[(0,vI 2,[vI 2]),(1,v5,[v5])]) (cs:=[vI 2,v5,.slice none 0 0]) Tryz.zeroValue79 (JN.str (ss:=[1,1,1]) Tryz.underlying79 ⟨Tryz.sizeOf3,Tryz.sizeOf52,Tryz.sizeOf77,trivial⟩) rfl ⟨rfl,SlR.cells h8,trivial⟩ rfl ?_;refine I5 (i:=0) S16 rfl rfl rfl Tryz.sizeOf79 (Jo rfl (Jo (SlR.one h8) (Jo rfl MD))) rfl ?_;intro w14 S17;replace S17:St _ ((bx b1 [vI 2,v5,.slice none 0 0] 79)::As) _:=S17;clear S16;refine Ah ?_;refine nrm ?_;refine Bw ?_;refine EE ?_;intro we hpd;replace S17:=St.pd S17 hpd;have SR:=S17;obtain⟨m15,l11,S18⟩:=St.drop S17 0;replace h8:=h8.up l11;replace L0:=Mem.tr L0 l11;replace S18:St _ (As) _:=S18;have e0:=Option.some.inj hm;subst e0;exact IW [_] rfl ⟨IS (i:=0) (off:=0) (cs:=[vI 2,v5,.slice none 0 0]) SR rfl rfl Tryz.isAgg79 Tryz.sizeOf79 rfl (fun h=>by cases h),trivial⟩ ⟨_,L0,_,_,S18,rfl,h8,SlR.nil⟩
theorem H9 {a0:Int}{r:g_api_Item}(hm:Ew a0=some r):Sf prog 106 [.d (.i a0)] (ag (Af r)):=
 ⟨call106,fun η m As w vs hv0 hd S=>by
  have S:St m As w:=S;obtain⟨v0,u0,rfl,r0,hv1⟩:=BB.cons_inv hv0;obtain rfl:=r0.i_inv;obtain rfl:=BB.nil_inv hv1;refine AB.mono (Wv S hm) ?_;rintro v w' ⟨M,hle,y0_0,y0_1,S0,rfl,h0_0,h0_1⟩;exact⟨M,none0,_,_,_,hle,Un hd _,⟨rfl,rfl,rfl⟩,fun n h=>absurd rfl h,(Br.toA ML (Q8 h0_0 h0_1)),S0⟩⟩
def DZ (a0:UInt64):Option g_api_Item:=Ac (Ew (w64 (a0.toNat:Int))) fun x1=>some x1
theorem G4 {a0:UInt64}{r:g_api_Item}(hm:DZ a0=some r):Sf prog 101 [.d (.u a0)] (ag (Af r)):=
 sp call101 func101 rfl ntmps101 rfl fun D0 As η0 m0 hd=>by
  unfold DZ at hm;obtain⟨x1,q1,hm⟩:=Aa hm;refine gc (fun _=>H9 q1) ?_;have e0:=Option.some.inj hm;subst e0;exact Aq hd
def Hg (a0:ByteArray):Option g_api_Item:=Ac (app 1 ([]:List UInt8) a0.data.toList) fun x1=>some (⟨12,x1,[]⟩:g_api_Item)
theorem Mq {a0:ByteArray}{r:g_api_Item}(hm:Hg a0=some r):Sf prog 154 [.d (.s a0)] (ag (Af r)):=
 sp call154 func154 rfl ntmps154 rfl fun D0 As η0 m0 hd=>by
  unfold Hg at hm;obtain⟨x1,q1,hm⟩:=Aa hm;refine gofS q1 ?_;have e0:=Option.some.inj hm;subst e0;exact Aq hd
def KF (a0:Bool):Option g_api_Item:=Ac (if a0=true then Ac (idx ([0]:List UInt8) 0) fun x2=>bnd (([0]:List UInt8).set (0:Int).toNat 255) fun x3=>some x3 else some ([0]:List UInt8)) fun x1=>some (⟨1,x1,[]⟩:g_api_Item)
theorem VQ {a0:Bool}{r:g_api_Item}(hm:KF a0=some r):Sf prog 156 [.d (.t a0)] (ag (Af r)):=
 sp call156 func156 rfl ntmps156 rfl fun D0 As η0 m0 hd=>by
  unfold KF at hm;refine Wb (k:=1) eB ([0]:List UInt8) (fun _=>rfl) ?_;obtain⟨x1,q1,hm⟩:=Aa hm;refine gj (fun(_:Unit)=>⟨[(2,.pb 0 0),(3,.ow 1)],[(0,.row 1 1 _ eB x1),(1,.box 0 [.d (.i 0),sl eB [],sl Af []] 79)],[],2⟩) (fun _=>True) (fun Jp bk1=> ?_) fun _ _=> ?_
  ·refine gi q1 (fun hc1 q1=> ?_) fun hc1 q1=> ?_
   ·obtain⟨x2,q2,q1⟩:=Aa q1;refine Rk (E:=eB) (fun _=>q2) ?_;have q1:=AO q1;let x3:List UInt8:=(([0]:List UInt8).set (0:Int).toNat 255);refine gstO (k:=1) (E:=eB) 255 (fun _=>rfl) q2 ?_;have e0:=Option.some.inj q1;subst e0;exact gb bk1 hd () trivial
   have e0:=Option.some.inj q1;subst e0;exact gb bk1 hd () trivial
  have e0:=Option.some.inj hm;subst e0;exact Aq hd
def A7 (i1:Int)(x3:ByteArray)(s1:(List g_api_Item)):Option ((List g_api_Item)):=Ac (Hg x3) fun x4=>Ac (app 56 s1 ([x4]:List g_api_Item)) fun x5=>some x5
def B5 (a0:List ByteArray):Option g_api_Item:=Ac (Ac (GM A7 a0 0 ([]:List g_api_Item)) fun x2=>some x2) fun x1=>Ac (E5 x1) fun x6=>some x6
theorem G0 {a0:List ByteArray}{r:g_api_Item}(hm:B5 a0=some r):Sf prog 155 [sl eS a0,.fn (.func 154) [] []] (ag (Af r)):=
 sp call155 func155 rfl ntmps155 rfl fun D0 As η0 m0 hd=>by
  unfold B5 at hm;obtain⟨x1,q1,hm⟩:=Aa hm;obtain⟨x2,q2,q1⟩:=Aa q1;refine V9 0 Af 5 3 ?_;refine PU 0 (E:=eS) (xs:=a0) 8 fun hle1=> ?_;refine gjU 0 (fun(_:Unit)=>⟨[(4,.pb 0 0),(5,.ow 1)],[(0,.row 1 3 _ Af x1),(1,.box 0 [.d (.i 0),sl eB [],sl Af []] 79)],[],2⟩) (fun _=>True) (fun Jp bk1=> ?_) fun _ _=> ?_
  ·refine gjU 0 (fun(_:Unit)=>⟨[(4,.pb 0 0),(5,.ow 1)],[(0,.row 1 3 _ Af x2),(1,.box 0 [.d (.i 0),sl eB [],sl Af []] 79)],[],2⟩) (fun _=>True) (fun Jp bk2=> ?_) fun _ _=> ?_
   ·refine gl hd (fun(p:Int×((List g_api_Item)))=>let (p0,p_0):=p; ⟨[(1,.fn (.func 154) [] []),(4,.pb 0 0),(5,.ow 1),(8,sl eS a0),(9,.d (.i (a0.length:Int))),(10,.d (.i p0))],[(0,.row 1 3 _ Af p_0),(1,.box 0 [.d (.i 0),sl eB [],sl Af []] 79)],[],2⟩) (fun p=> ∃i:Nat,p.1=(i:Int)∧i≤a0.length∧GM A7 (a0.drop i) (i:Int) p.2=some x2) (fun p=>a0.length-p.1.toNat) (0,([]:List g_api_Item)) ⟨0,rfl,Nat.zero_le _,q2⟩ ?_;rintro⟨_,s1⟩ ⟨i1,rfl,hi,q3⟩ Jl bl1;refine gi' (b:=decide ((i1:Int)<(a0.length:Int))) (fun hc1=> ?_) fun hc1=> ?_
    ·have hlt1:i1<a0.length:=by have:=of_decide_eq_true hc1; omega
     obtain⟨x3,y1,q6,q5,q4⟩:=KI q3 hlt1;unfold A7 at q5;refine Ga (k:=1) (E:=eS) (fun _=>rfl) (fun _=>q6) ?_;obtain⟨x4,q7,q5⟩:=Aa q5;refine gc (fun _=>Mq q7) ?_;refine Fc (k:=3) Af ([x4]:List g_api_Item) (fun _=>rfl) ?_;obtain⟨x5,q8,q5⟩:=Aa q5;refine KZ (k:=3) (E:=Af) (fun _=>rfl) q8 ?_;have e0:=Option.some.inj q5;subst e0;exact gb bl1 hd (w64 ((i1:Int)+1),x5) ⟨⟨i1+1,Bx hlt1 hle1,by omega,q4⟩,IC hlt1 hle1⟩
    have hlt1: ¬i1<a0.length:=by have:=of_decide_eq_false hc1; omega
    have e:=Eq.symm (Jn q3 hlt1);subst e;exact gb bk2 hd () trivial
   have e0:=Option.some.inj q1;subst e0;exact gb bk1 hd () trivial
  obtain⟨x6,q9,hm⟩:=Aa hm;refine gco (H4 q9) ?_;have e0:=Option.some.inj hm;subst e0;exact Aq hd
def Jk (a0:g_api_Cert):Option g_api_Item:=Ac (Ew a0.Serial) fun x1=>Ac (Hg a0.Issuer) fun x2=>Ac (Hg a0.Subject) fun x3=>Ac (DZ a0.Key) fun x4=>Ac (B5 a0.Names) fun x5=>Ac (Ew a0.From) fun x6=>Ac (Ew a0.Until) fun x7=>Ac (KF a0.Ca) fun x8=>Ac (Ew a0.Depth) fun x9=>Ac (B5 a0.Permit) fun x10=>Ac (E5 ([x1,x2,x3,x4,x5,x6,x7,x8,x9,x10]:List g_api_Item)) fun x11=>some x11
theorem VR {a0:g_api_Cert}{r:g_api_Item}(hm:Jk a0=some r):Sf prog 103 [ag (Ad a0)] (ag (Af r)):=
 sp call103 func103 rfl ntmps103 rfl fun D0 As η0 m0 hd=>by
  unfold Jk at hm;obtain⟨x1,q1,hm⟩:=Aa hm;refine gc (fun _=>H9 q1) ?_;obtain⟨x2,q2,hm⟩:=Aa hm;refine gc (fun _=>Mq q2) ?_;obtain⟨x3,q3,hm⟩:=Aa hm;refine gc (fun _=>Mq q3) ?_;obtain⟨x4,q4,hm⟩:=Aa hm;refine gc (fun _=>G4 q4) ?_;obtain⟨x5,q5,hm⟩:=Aa hm;refine gc (fun _=>G0 q5) ?_;obtain⟨x6,q6,hm⟩:=Aa hm;refine gc (fun _=>H9 q6) ?_;obtain⟨x7,q7,hm⟩:=Aa hm;refine gc (fun _=>H9 q7) ?_;obtain⟨x8,q8,hm⟩:=Aa hm;refine gc (fun _=>VQ q8) ?_;obtain⟨x9,q9,hm⟩:=Aa hm;refine gc (fun _=>H9 q9) ?_;obtain⟨x10,q10,hm⟩:=Aa hm;refine gc (fun _=>G0 q10) ?_;refine Fc (k:=3) Af ([x1,x2,x3,x4,x5,x6,x7,x8,x9,x10]:List g_api_Item) (fun _=>rfl) ?_;obtain⟨x11,q11,hm⟩:=Aa hm;refine gc (fun _=>H4 q11) ?_;have e0:=Option.some.inj hm;subst e0;exact Aq hd
def GK (a0:g_api_Promise):Option g_api_Item:=Ac (Ew a0.Log) fun x1=>Ac (Ew a0.At) fun x2=>Ac (DZ a0.Leaf.1) fun x3=>Ac (DZ a0.Leaf.2) fun x4=>Ac (DZ a0.Sig.E) fun x5=>Ac (DZ a0.Sig.S) fun x6=>Ac (E5 ([x1,x2,x3,x4,x5,x6]:List g_api_Item)) fun x7=>some x7
theorem QF {a0:g_api_Promise}{r:g_api_Item}(hm:GK a0=some r):Sf prog 105 [ag (Ai a0)] (ag (Af r)):=
 sp call105 func105 rfl ntmps105 rfl fun D0 As η0 m0 hd=>by
  unfold GK at hm;obtain⟨x1,q1,hm⟩:=Aa hm;refine gc (fun _=>H9 q1) ?_;obtain⟨x2,q2,hm⟩:=Aa hm;refine gc (fun _=>H9 q2) ?_;obtain⟨x3,q3,hm⟩:=Aa hm;refine gc (fun _=>G4 q3) ?_;obtain⟨x4,q4,hm⟩:=Aa hm;refine gc (fun _=>G4 q4) ?_;obtain⟨x5,q5,hm⟩:=Aa hm;refine gc (fun _=>G4 q5) ?_;obtain⟨x6,q6,hm⟩:=Aa hm;refine gc (fun _=>G4 q6) ?_;refine Fc (k:=3) Af ([x1,x2,x3,x4,x5,x6]:List g_api_Item) (fun _=>rfl) ?_;obtain⟨x7,q7,hm⟩:=Aa hm;refine gc (fun _=>H4 q7) ?_;have e0:=Option.some.inj hm;subst e0;exact Aq hd
def AP (i1:Int)(x3:g_api_Promise)(s1:(List g_api_Item)):Option ((List g_api_Item)):=Ac (GK x3) fun x4=>Ac (app 56 s1 ([x4]:List g_api_Item)) fun x5=>some x5
def BU (a0:List g_api_Promise):Option g_api_Item:=Ac (Ac (GM AP a0 0 ([]:List g_api_Item)) fun x2=>some x2) fun x1=>Ac (E5 x1) fun x6=>some x6
theorem H5 {a0:List g_api_Promise}{r:g_api_Item}(hm:BU a0=some r):Sf prog 104 [sl Ai a0,.fn (.func 105) [] []] (ag (Af r)):=
 sp call104 func104 rfl ntmps104 rfl fun D0 As η0 m0 hd=>by
  unfold BU at hm;obtain⟨x1,q1,hm⟩:=Aa hm;obtain⟨x2,q2,q1⟩:=Aa q1;refine V9 0 Af 5 3 ?_;refine PU 0 (E:=Ai) (xs:=a0) 8 fun hle1=> ?_;refine gjU 0 (fun(_:Unit)=>⟨[(4,.pb 0 0),(5,.ow 1)],[(0,.row 1 3 _ Af x1),(1,.box 0 [.d (.i 0),sl eB [],sl Af []] 79)],[],2⟩) (fun _=>True) (fun Jp bk1=> ?_) fun _ _=> ?_
  ·refine gjU 0 (fun(_:Unit)=>⟨[(4,.pb 0 0),(5,.ow 1)],[(0,.row 1 3 _ Af x2),(1,.box 0 [.d (.i 0),sl eB [],sl Af []] 79)],[],2⟩) (fun _=>True) (fun Jp bk2=> ?_) fun _ _=> ?_
   ·refine gl hd (fun(p:Int×((List g_api_Item)))=>let (p0,p_0):=p; ⟨[(1,.fn (.func 105) [] []),(4,.pb 0 0),(5,.ow 1),(8,sl Ai a0),(9,.d (.i (a0.length:Int))),(10,.d (.i p0))],[(0,.row 1 3 _ Af p_0),(1,.box 0 [.d (.i 0),sl eB [],sl Af []] 79)],[],2⟩) (fun p=> ∃i:Nat,p.1=(i:Int)∧i≤a0.length∧GM AP (a0.drop i) (i:Int) p.2=some x2) (fun p=>a0.length-p.1.toNat) (0,([]:List g_api_Item)) ⟨0,rfl,Nat.zero_le _,q2⟩ ?_;rintro⟨_,s1⟩ ⟨i1,rfl,hi,q3⟩ Jl bl1;refine gi' (b:=decide ((i1:Int)<(a0.length:Int))) (fun hc1=> ?_) fun hc1=> ?_
    ·have hlt1:i1<a0.length:=by have:=of_decide_eq_true hc1; omega
     obtain⟨x3,y1,q6,q5,q4⟩:=KI q3 hlt1;unfold AP at q5;refine Ga (k:=6) (E:=Ai) (fun _=>rfl) (fun _=>q6) ?_;obtain⟨x4,q7,q5⟩:=Aa q5;refine gc (fun _=>QF q7) ?_;refine Fc (k:=3) Af ([x4]:List g_api_Item) (fun _=>rfl) ?_;obtain⟨x5,q8,q5⟩:=Aa q5;refine KZ (k:=3) (E:=Af) (fun _=>rfl) q8 ?_;have e0:=Option.some.inj q5;subst e0;exact gb bl1 hd (w64 ((i1:Int)+1),x5) ⟨⟨i1+1,Bx hlt1 hle1,by omega,q4⟩,IC hlt1 hle1⟩
    have hlt1: ¬i1<a0.length:=by have:=of_decide_eq_false hc1; omega
    have e:=Eq.symm (Jn q3 hlt1);subst e;exact gb bk2 hd () trivial
   have e0:=Option.some.inj q1;subst e0;exact gb bk1 hd () trivial
  obtain⟨x6,q9,hm⟩:=Aa hm;refine gco (H4 q9) ?_;have e0:=Option.some.inj hm;subst e0;exact Aq hd
def Hi (a0:g_api_Cert):Option g_api_Item:=Ac (Jk a0) fun x1=>Ac (BU a0.Proms) fun x2=>Ac (E5 ([x1,x2]:List g_api_Item)) fun x3=>some x3
theorem N7 {a0:g_api_Cert}{r:g_api_Item}(hm:Hi a0=some r):Sf prog 59 [ag (Ad a0)] (ag (Af r)):=
 sp call59 func59 rfl ntmps59 rfl fun D0 As η0 m0 hd=>by
  unfold Hi at hm;obtain⟨x1,q1,hm⟩:=Aa hm;refine gc (fun _=>VR q1) ?_;obtain⟨x2,q2,hm⟩:=Aa hm;refine gc (fun _=>H5 q2) ?_;refine Fc (k:=3) Af ([x1,x2]:List g_api_Item) (fun _=>rfl) ?_;obtain⟨x3,q3,hm⟩:=Aa hm;refine gc (fun _=>H4 q3) ?_;have e0:=Option.some.inj hm;subst e0;exact Aq hd
def Hx (a0:g_api_Cert):Option g_api_Item:=Ac (Hi a0) fun x1=>Ac (DZ a0.Sig.E) fun x2=>Ac (DZ a0.Sig.S) fun x3=>Ac (E5 ([x2,x3]:List g_api_Item)) fun x4=>Ac (E5 ([x1,x4]:List g_api_Item)) fun x5=>some x5
theorem Sc {a0:g_api_Cert}{r:g_api_Item}(hm:Hx a0=some r):Sf prog 54 [ag (Ad a0)] (ag (Af r)):=
 sp call54 func54 rfl ntmps54 rfl fun D0 As η0 m0 hd=>by
  unfold Hx at hm;obtain⟨x1,q1,hm⟩:=Aa hm;refine gc (fun _=>N7 q1) ?_;obtain⟨x2,q2,hm⟩:=Aa hm;refine gc (fun _=>G4 q2) ?_;obtain⟨x3,q3,hm⟩:=Aa hm;refine gc (fun _=>G4 q3) ?_;refine Fc (k:=3) Af ([x2,x3]:List g_api_Item) (fun _=>rfl) ?_;obtain⟨x4,q4,hm⟩:=Aa hm;refine gc (fun _=>H4 q4) ?_;refine Fc (k:=3) Af ([x1,x4]:List g_api_Item) (fun _=>rfl) ?_;obtain⟨x5,q5,hm⟩:=Aa hm;refine gc (fun _=>H4 q5) ?_;have e0:=Option.some.inj hm;subst e0;exact Aq hd
def D7 (a0:g_api_Cert):Option Int:=Ac (GJ a0) fun x1=>if(!x1)=true then some 1 else Ac (Hx a0) fun x2=>Ac (Hw x2) fun x3=>if((x3.2 !=0)||(decide ((x3.1.length:Int)>2048)))=true then some 2 else some 0
theorem J3 {a0:g_api_Cert}{r:Int}(hm:D7 a0=some r):Sf prog 25 [ag (Ad a0)] (.d (.i r)):=
 sp call25 func25 rfl ntmps25 rfl fun D0 As η0 m0 hd=>by
  unfold D7 at hm;obtain⟨x1,q1,hm⟩:=Aa hm;refine gc (fun _=>QE q1) ?_;refine gi hm (fun hc1 hm=> ?_) fun hc1 hm=> ?_
  ·skip;have e0:=Option.some.inj hm;subst e0;exact Aq hd
  obtain⟨x2,q2,hm⟩:=Aa hm;refine gc (fun _=>Sc q2) ?_;obtain⟨x3,q3,hm⟩:=Aa hm;refine gco (R6 q3) ?_;refine gi hm (fun hc2 hm=> ?_) fun hc2 hm=> ?_
  ·skip;have e0:=Option.some.inj hm;subst e0;exact Aq hd
  have e0:=Option.some.inj hm;subst e0;exact Aq hd
def FJ (a0:g_api_Cert):Option ((List UInt8)×Int):=Ac (D7 a0) fun x1=>if(x1 !=0)=true then some (([]:List UInt8),x1)else Ac (Hi a0) fun x2=>Ac (Hw x2) fun x3=>some (x3.1,x3.2)
theorem No {a0:g_api_Cert}{r:(List UInt8)×Int}(hm:FJ a0=some r):Sp prog 58 [ag (Ad a0),.fn (.func 59) [] []] [] 0 (is (.tup [.ow 0,.d (.i r.2)]) [.row 0 1 _ eB r.1] 1):=
 sp call58 func58 rfl ntmps58 rfl fun D0 As η0 m0 hd=>by
  unfold FJ at hm;obtain⟨x1,q1,hm⟩:=Aa hm;refine gc (fun _=>J3 q1) ?_;refine gi hm (fun hc1 hm=> ?_) fun hc1 hm=> ?_
  ·skip;refine Acn eB 4 1 ?_;have e0:=Option.some.inj hm;subst e0;exact Aq hd
  obtain⟨x2,q2,hm⟩:=Aa hm;refine gc (fun _=>N7 q2) ?_;obtain⟨x3,q3,hm⟩:=Aa hm;refine gco (R6 q3) ?_;have e0:=Option.some.inj hm;subst e0;exact Aq hd
def Hj (a0:g_api_Cert):Option ((List UInt8)×Int):=Ac (FJ a0) fun x1=>some (x1.1,x1.2)
theorem N8 {a0:g_api_Cert}{r:(List UInt8)×Int}(hm:Hj a0=some r):Sp prog 28 [ag (Ad a0)] [] 0 (is (.tup [.ow 0,.d (.i r.2)]) [.row 0 1 _ eB r.1] 1):=
 sp call28 func28 rfl ntmps28 rfl fun D0 As η0 m0 hd=>by
  unfold Hj at hm;obtain⟨x1,q1,hm⟩:=Aa hm;refine gco (No q1) ?_;have e0:=Option.some.inj hm;subst e0;exact Aq hd
def Fb (a0:UInt64):Option Int:=Ac (if(decide ((a0.toNat:Int)≥4294967296))=true then some ((Dj a0 32),32)else some (a0,0)) fun x1=>Ac (if(decide ((x1.1.toNat:Int)≥65536))=true then some ((Dj x1.1 16),(w64 (x1.2+16)))else some (x1.1,x1.2)) fun x2=>Ac (if(decide ((x2.1.toNat:Int)≥256))=true then some ((Dj x2.1 8),(w64 (x2.2+8)))else some (x2.1,x2.2)) fun x3=>Ac (idx str_0.data.toList ((toB (x3.1.toNat:Int)).toNat:Int)) fun x4=>bnd ((w64 (x3.2+(w64 (x4.toNat:Int))))) fun x5=>some x5
theorem MV {a0:UInt64}{r:Int}(hm:Fb a0=some r):Sf prog 197 [.d (.u a0)] (.d (.i r)):=
 sp call197 func197 rfl ntmps197 rfl fun D0 As η0 m0 hd=>by
  unfold Fb at hm;obtain⟨x1,q1,hm⟩:=Aa hm;refine gj (fun(_:Unit)=>let (y_0,y_1):=x1; ⟨[(0,.d (.u y_0)),(2,.d (.i y_1))],[],[],0⟩) (fun _=>True) (fun Jp bk1=> ?_) fun _ _=> ?_
  ·refine gi q1 (fun hc1 q1=> ?_) fun hc1 q1=> ?_
   ·skip;have e0:=Option.some.inj q1;subst e0;exact gb bk1 hd () trivial
   have e0:=Option.some.inj q1;subst e0;exact gb bk1 hd () trivial
  obtain⟨x2,q2,hm⟩:=Aa hm;refine gj (fun(_:Unit)=>let (y_0,y_1):=x2; ⟨[(0,.d (.u y_0)),(2,.d (.i y_1))],[],[],0⟩) (fun _=>True) (fun Jp bk2=> ?_) fun _ _=> ?_
  ·refine gi q2 (fun hc2 q2=> ?_) fun hc2 q2=> ?_
   ·skip;have e0:=Option.some.inj q2;subst e0;exact gb bk2 hd () trivial
   have e0:=Option.some.inj q2;subst e0;exact gb bk2 hd () trivial
  obtain⟨x3,q3,hm⟩:=Aa hm;refine gj (fun(_:Unit)=>let (y_0,y_1):=x3; ⟨[(0,.d (.u y_0)),(2,.d (.i y_1))],[],[],0⟩) (fun _=>True) (fun Jp bk3=> ?_) fun _ _=> ?_
  ·refine gi q3 (fun hc3 q3=> ?_) fun hc3 q3=> ?_
   ·skip;have e0:=Option.some.inj q3;subst e0;exact gb bk3 hd () trivial
   have e0:=Option.some.inj q3;subst e0;exact gb bk3 hd () trivial
  obtain⟨x4,q4,hm⟩:=Aa hm;refine SN (fun _=>q4) ?_;have hm:=AO hm;let x5:Int:=((w64 (x3.2+(w64 (x4.toNat:Int)))));have e0:=Option.some.inj hm;subst e0;exact Aq hd
theorem Sh {m:Mem}{As:List Ow}{w:World}{a0:UInt64}{r:Int}(S:St m As w)(hm:Fb a0=some r):
  AB prog 197 #[vU a0] w fun v w'=> ∃(M:Mem),m≤M∧St M (As) w'∧v=vI r:=by
 refine AB.mono ((MV hm).2 none0 m As w [vU a0] (.cons (.d (.u _)) .nil) (fun n h=>absurd rfl h) S) ?_;rintro v w' ⟨M,η',r',obs',n1,hle,_,⟨rfl,rfl,rfl⟩,hdom,hR,S'⟩;obtain rfl:=hR.i_inv;exact⟨M,hle,S',rfl⟩
def B2 {σ:Type}(p0:σ→Bool→Option (Bool×σ))(k0:UInt64)(s1:Int×σ):Option ((Int×σ)⊕((σ)⊕(UInt64×σ))):=if(decide (s1.1≥0))=true then if(0:Int)≤s1.1 then Ac (p0 s1.2 (((k0&&&(GO 1 s1.1.toNat)).toNat:Int) !=0)) fun x4=>if(!x4.1)=true then some (.inr (.inr (k0,x4.2)))else some (.inl ((w64 (s1.1-1)),x4.2))else none else some (.inr (.inl s1.2))
def Fp {σ:Type}(p0:σ→Bool→Option (Bool×σ))(k0:UInt64)(s0:σ):Option (UInt64×σ):=Ac (Fb k0) fun x1=>Ac (iter (B2 p0 k0) AR ((w64 (x1-1)),s0)) fun x2=>match x2 with| .inr r=>some r| .inl y1=>some (k0,y1)
theorem Ms {m:Mem}{As:List Ow}{w:World}{σ:Type}{R:σ→Mem→List Ow→Prop}{p0:σ→Bool→Option (Bool×σ)}{f0:Value}{kb0:Nat}{k0:UInt64}{s0:σ}{X0:List Ow}{r:UInt64×σ}(S:St m ((bx kb0 [vU k0] 22)::(X0++As)) w)(hup: ∀{s M M' X},M≤M'→R s M X→R s M' X)(hX0:R s0 m X0)(cb0: ∀{m':Mem} {As':List Ow} {w':World} {s:σ} {X:List Ow} {b0:Bool} {r:Bool×σ},St m' (X++As') w'→R s m' X→p0 s b0=some r→EN Tryz.prog f0 [vb b0] w' fun v w''=> ∃(M:Mem) (X':List Ow),m'≤M∧St M (X'++As') w''∧R r.2 M X'∧v=vb r.1)(fc0:f0.cells= #[f0])(hm:Fp p0 k0 s0=some r):
  AB Tryz.prog 196 #[f0,pt kb0 0] w fun v w'=> ∃(M:Mem),m≤M∧∃(X:List Ow),St M ((bx kb0 [vU r.1] 22)::(X++As)) w'∧v= .tuple #[]∧R r.2 M X:=by
 unfold Fp at hm;have L0:=Mem.rfl' m;refine C9 (args:=[f0,pt kb0 0]) Tryz.func196 rfl Tryz.ntmps196 (Nat.le_of_ble_eq_true rfl) ?_;refine Ag ?_;refine Ae ?_;refine H8 (i:=0) (cs:=[vU k0]) S rfl rfl Tryz.isAgg22 Tryz.sizeOf22 rfl (fun _=>rfl) ?_;obtain⟨x1,q1,hm⟩:=Aa hm;refine CJ Tryz.call197 (Sh (a0:=k0) S q1) rfl ?_;rintro _ w1 ⟨m1,l1,S1,rfl⟩;replace hX0:=hup l1 hX0;replace L0:=Mem.tr L0 l1;clear S;replace S1:St _ ((bx kb0 [vU k0] 22)::(X0++As)) _:=S1;refine M6 (m:=x1) (n:=1) rfl rfl ?_;refine A4 (v:=vI (w64 (x1-1))) rfl ?_;refine Ah ?_;refine nrm ?_;obtain⟨x2,q2,hm⟩:=Aa hm;have L1:=Mem.rfl' m1;refine Nv ?_;refine A8 [3,7,8,9,10,11,12,13,14,15,16,17,18] (fun f' w'=> ∃(M1:Mem) (y1:σ) (X2:List Ow),x2= .inl y1∧m1≤M1∧St M1 ((bx kb0 [vU k0] 22)::(X2++As)) w'∧R y1 M1 X2∧Cl f' []) ?_ ?_
 ·refine Az ?_;refine B4 [3,7,8,9,10,11,12,13,14,15,16,17,18] (fun n1 f' w'=> ∃(s1:Int×σ) (m11:Mem) (X1:List Ow),iter (B2 p0 k0) n1 s1=some x2∧m1≤m11∧St m11 ((bx kb0 [vU k0] 22)::(X1++As)) w'∧R s1.2 m11 X1∧Cl f' [(3,vI s1.1)]) AR ⟨((w64 (x1-1)),s0),m1,_,q2,L1,S1,hX0,⟨rfl,trivial⟩⟩ ?_;rintro n1 f1 w2 ho ⟨s1,m2,X1,q3,L3,S2,h1,ha⟩;obtain⟨u1,rfl⟩:=B3 (N:=19) ho ha;clear ho ha;have L2:=Mem.rfl' m2;clear S1;cases n1 with
  |zero=>exact(An q3).elim
  |succ n1=>
   obtain⟨y2,q5,q4⟩:=Am q3;unfold B2 at q5;refine Ag ?_;refine Ag ?_;refine Ae ?_;refine Ar (v:=vI s1.1) rfl ?_;refine Zr (m:=s1.1) (n:=0) rfl rfl ?_;refine Ah ?_;refine nrm ?_;refine Cz (t:=(decide (s1.1≥0))) rfl (fun hc1=> ?_) (fun hc1=> ?_)
   ·replace q5:=ifT hc1 q5;refine A6 ?_;refine nrm ?_;refine Ag ?_;refine Az ?_;refine Ag ?_;obtain⟨q7,q5⟩:=Ck q5;have HM:HD [(11,fv f0),(12,fv (vU k0)),(13,fv (vI s1.1)),(14,fv (vU (GO 1 s1.1.toNat))),(15,fv (vU (k0&&&(GO 1 s1.1.toNat)))),(16,fv (vb (((k0&&&(GO 1 s1.1.toNat)).toNat:Int) !=0)))]:=⟨mv,mv,mv,mv,mv,mv,trivial⟩;refine JW HM 6 XM rfl rfl rfl [11,12,13,14,15,16] (fun L f M w=>St M ((bx kb0 [vU k0] 22)::(X1++As)) w) (St.drew S2 _) ?_ ?_
    ·refine⟨?_,?_,?_,?_,?_,?_,trivial⟩
     ·exact flp HM rfl [] (fun _ _=>trivial) (fun _ _ q=>Ar (v:=f0) rfl q) rfl
     ·exact flp HM rfl [] (fun _ _=>trivial) (fun _ S4 q=>H8 (i:=0) (cs:=[vU k0]) S4 rfl rfl Tryz.isAgg22 Tryz.sizeOf22 rfl (fun _=>rfl) q) rfl
     ·exact flp HM rfl [] (fun _ _=>trivial) (fun _ _ q=>Ar (v:=vI s1.1) rfl q) rfl
     ·exact flp HM rfl [(13,_)] (fun K _=>⟨K 2 rfl,trivial⟩) (fun _ _ q=>WW (m:=1) (n:=s1.1) rfl rfl q7 q) rfl
     ·exact flp HM rfl [(12,_),(14,_)] (fun K _=>⟨K 1 rfl,K 3 rfl,trivial⟩) (fun _ _ q=>Aaz (m:=k0) (n:=(GO 1 s1.1.toNat)) rfl rfl q) rfl
     ·exact flp HM rfl [(15,_)] (fun K _=>⟨K 4 rfl,trivial⟩) (fun _ _ q=>s_neq (m:=((k0&&&(GO 1 s1.1.toNat)).toNat:Int)) (n:=0) rfl rfl q) rfl
    intro L f8 w9 hall ⟨m9,L16,S9,K,hO⟩;have d0:L 0=true:=hall 0 (by decide);have e5:=K 0 d0;have d5:L 5=true:=hall 5 (by decide);have e6:=K 5 d5;obtain⟨u8,rfl⟩:=B3 (N:=19) (L:=[(11,f0),(16,vb (((k0&&&(GO 1 s1.1.toNat)).toNat:Int) !=0))]) hO ⟨e5,e6,trivial⟩;replace S9:St _ ((bx kb0 [vU k0] 22)::(X1++As)) _:=S9;replace h1:=hup L16 h1;replace L2:=Mem.tr L2 L16;clear S2;obtain⟨x4,q8,q5⟩:=Aa q5;have S10:=St.absF (L:=[bx kb0 [vU k0] 22]) (X:=X1) (As:=As) S9;refine HB rfl (cb0 S10 h1 q8) rfl ?_;rintro _ w10 ⟨m10,X3,l2,S11,h3,rfl⟩;replace S11:=St.absF (L:=X3) (X:=[bx kb0 [vU k0] 22]) (As:=As) S11;clear S10;replace L2:=Mem.tr L2 l2;replace S11:St _ ((bx kb0 [vU k0] 22)::(X3++As)) _:=S11;clear S9;refine TN rfl ?_;refine Ah ?_;refine nrm ?_;refine Cz (t:=(!x4.1)) rfl (fun hc2=> ?_) (fun hc2=> ?_)
    ·replace q5:=ifT hc2 q5;refine Bw ?_;refine blR ?_;refine thR ?_;refine thR ?_;refine blR ?_;refine thR ?_;refine EE ?_;intro we hpd;replace S11:=St.pd S11 hpd;cases q5;rcases q4 with ⟨sn,e,_⟩|e
     ·cases e
     cases e;dsimp only at hm;have e0:=Option.some.inj hm;subst e0;exact IW [] rfl trivial ⟨_,(Mem.tr L0 (Mem.tr L3 L2)),_,S11,rfl,h3⟩
    replace q5:=ifF hc2 q5;refine A6 ?_;refine MF ?_;refine nrm ?_;refine Ae ?_;refine Ar (v:=vI s1.1) rfl ?_;refine M6 (m:=s1.1) (n:=1) rfl rfl ?_;refine A4 (v:=vI (w64 (s1.1-1))) rfl ?_;refine Ah ?_;refine nrm ?_;have e0:=Option.some.inj q5;subst e0;rcases q4 with ⟨sn,e,q4'⟩|e
    ·cases e;exact⟨FI,_,Nat.lt_succ_self _,⟨_,m10,_,q4',Mem.tr L3 L2,S11,h3,⟨rfl,trivial⟩⟩⟩
    ·cases e
   replace q5:=ifF hc1 q5;refine CV ?_;refine thE ?_;refine thE ?_;refine exB ?_;refine nrm ?_;have e0:=Option.some.inj q5;subst e0;rcases q4 with ⟨sn,e,_⟩|e
   ·cases e
   ·cases e;exact⟨FI,m2,_,_,rfl,Mem.tr L3 L2,S2,h1,trivial⟩
 rintro f9 w11 ho ⟨m12,y1,X2,rfl,l3,S12,h2,ha⟩;obtain⟨u9,rfl⟩:=B3 (N:=19) ho ha;clear ho ha;dsimp only at hm;replace L0:=Mem.tr L0 l3;clear S1;refine V2 ?_;intro we hpd;replace S12:=St.pd S12 hpd;have e0:=Option.some.inj hm;subst e0;exact IW [] rfl trivial ⟨_,L0,_,S12,rfl,h2⟩
def GH (a0:UInt64):Option UInt64:=some a0
theorem N2 {m:Mem}{As:List Ow}{w:World}{a0:UInt64}{r:UInt64}(S:St m (As) w)(hm:GH a0=some r):
  AB Tryz.prog 159 #[vU a0] w fun v w'=> ∃(M:Mem),m≤M∧∃(rk0_0:Nat),St M ((bx rk0_0 [vU r] 22)::As) w'∧v= .func (.func 196) #[] #[pt rk0_0 0]:=by
 unfold GH at hm;have L0:=Mem.rfl' m;refine C9 (args:=[vU a0]) Tryz.func159 rfl Tryz.ntmps159 (Nat.le_of_ble_eq_true rfl) ?_;refine Ag ?_;refine Ae ?_;refine Mz S rfl ?_;intro b1 w1 S1;replace S1:St _ ((bx b1 [vU a0] 22)::As) _:=S1;clear S;refine A4 (v:= .nilFunc) rfl ?_;refine Ah ?_;refine nrm ?_;refine Ag ?_;refine Ae ?_;refine My (caps:=[pt b1 0]) rfl ?_;refine A4 (v:= .func (.func 196) #[] #[pt b1 0]) rfl ?_;refine Ah ?_;refine nrm ?_;refine Bw ?_;refine EE ?_;intro we hpd;replace S1:=St.pd S1 hpd;have e0:=Option.some.inj hm;subst e0;exact IW [_] rfl ⟨rfl,trivial⟩ ⟨_,L0,_,S1,rfl⟩
def Cy {σ:Type}(p0:σ→UInt64→UInt64→Option (UInt64×σ))(a1:UInt64)(b6:Bool)(s1:UInt64×σ):Option (UInt64×σ):=Ac (p0 ((s1).2) ((s1).1) ((s1).1)) fun x3=>if b6=true then Ac (p0 x3.2 x3.1 a1) fun x4=>some (x4.1,x4.2)else some (x3.1,x3.2)
def FG {σ:Type}(p0:σ→UInt64→UInt64→Option (UInt64×σ))(a1:UInt64)(a2:UInt64)(s0:σ):Option (UInt64×σ):=Ac (GH a2) fun x1=>Ac (Fp (fun(s:UInt64×σ) (b0:Bool)=>Ac (Cy p0 a1 b0 s) fun y=>some (true,y)) x1 (1,s0)) fun x2=>some (x2.2.1,x2.2.2)
theorem Pb {m:Mem}{As:List Ow}{w:World}{σ:Type}{R:σ→Mem→List Ow→Prop}{p0:σ→UInt64→UInt64→Option (UInt64×σ)}{f0:Value}{a1:UInt64}{a2:UInt64}{s0:σ}{X0:List Ow}{r:UInt64×σ}(S:St m ((X0++As)) w)(hup: ∀{s M M' X},M≤M'→R s M X→R s M' X)(hX0:R s0 m X0)(cb0: ∀{m':Mem} {As':List Ow} {w':World} {s:σ} {X:List Ow} {b0:UInt64} {b1:UInt64} {r:UInt64×σ},St m' (X++As') w'→R s m' X→p0 s b0 b1=some r→EN Tryz.prog f0 [vU b0,vU b1] w' fun v w''=> ∃(M:Mem) (X':List Ow),m'≤M∧St M (X'++As') w''∧R r.2 M X'∧v=vU r.1)(fc0:f0.cells= #[f0])(hm:FG p0 a1 a2 s0=some r):
  AB Tryz.prog 108 #[f0,vU a1,vU a2] w fun v w'=> ∃(M:Mem),m≤M∧∃(X:List Ow),St M ((X++As)) w'∧v=vU r.1∧R r.2 M X:=by
 unfold FG at hm;have L0:=Mem.rfl' m;refine C9 (args:=[f0,vU a1,vU a2]) Tryz.func108 rfl Tryz.ntmps108 (Nat.le_of_ble_eq_true rfl) ?_;refine Ag ?_;refine Ae ?_;refine Aay S rfl fc0 ?_;intro b1 w1 S1;replace S1:St _ ((bx b1 [f0] 91)::(X0++As)) _:=S1;clear S;refine Mz S1 rfl ?_;intro b2 w2 S2;replace S2:St _ ((bx b2 [vU a1] 22)::(bx b1 [f0] 91)::(X0++As)) _:=S2;clear S1;refine A4 (v:=vU 0) rfl ?_;refine Ah ?_;refine nrm ?_;refine Ag ?_;refine Ae ?_;refine Fx S2 Tryz.zeroValue22 ?_;intro b3 w3 S3;replace S3:St _ ((bx b3 [vU 0] 22)::(bx b2 [vU a1] 22)::(bx b1 [f0] 91)::(X0++As)) _:=S3;clear S2;refine I5 (i:=0) S3 rfl rfl rfl Tryz.sizeOf22 (Jo rfl MD) rfl ?_;intro w4 S4;replace S4:St _ ((bx b3 [vU 1] 22)::(bx b2 [vU a1] 22)::(bx b1 [f0] 91)::(X0++As)) _:=S4;clear S3;refine Ah ?_;refine nrm ?_;refine Ag ?_;refine Ag ?_;refine Ae ?_;refine Ar (v:=vU a2) rfl ?_;obtain⟨x1,q1,hm⟩:=Aa hm;refine CJ Tryz.call159 (N2 (a0:=a2) S4 q1) rfl ?_;rintro _ w5 ⟨m1,l1,b4,S5,rfl⟩;replace hX0:=hup l1 hX0;replace L0:=Mem.tr L0 l1;clear S4;replace S5:St _ ((bx b4 [vU x1] 22)::(bx b3 [vU 1] 22)::(bx b2 [vU a1] 22)::(bx b1 [f0] 91)::(X0++As)) _:=S5;refine Ah ?_;refine nrm ?_;refine Az ?_;obtain⟨x2,q2,hm⟩:=Aa hm;refine Gc S5 rfl Tryz.call196 ?_;intro lp1 rip2 w6 h1 S6;replace S6:St _ ((Lp lp1 rip2 .ready none)::(bx b4 [vU x1] 22)::(bx b3 [vU 1] 22)::(bx b2 [vU a1] 22)::(bx b1 [f0] 91)::(X0++As)) _:=S6;clear S5;have S7:St _ ((bx b4 [vU x1] 22)::(Lp lp1 rip2 .ready none)::(bx b3 [vU 1] 22)::(bx b2 [vU a1] 22)::(bx b1 [f0] 91)::(X0++As)) _:=St.perm S6 (List.Perm.swap _ _ _);clear S6;have hcb1: ∀{m':Mem} {As':List Ow} {w':World} {s:UInt64×σ} {X:List Ow} {b0:Bool} {r:Bool×(UInt64×σ)},St m' (X++As') w'→(∃(X2:List Ow),m1≤m'∧X=Lp lp1 rip2 .ready none::(bx b3 [vU ((s).1)] 22)::(bx b2 [vU a1] 22)::(bx b1 [f0] 91)::X2∧R ((s).2) m' X2)→(fun(s:UInt64×σ) (b0:Bool)=>Ac (Cy p0 a1 b0 s) fun y=>some (true,y)) s b0=some r→EN Tryz.prog (.func (.yield lp1) #[] #[]) [vb b0] w' fun v w''=> ∃(M:Mem) (X':List Ow),m'≤M∧St M (X'++As') w''∧(∃(X2:List Ow),m1≤M∧X'=Lp lp1 rip2 .ready none::(bx b3 [vU ((r.2).1)] 22)::(bx b2 [vU a1] 22)::(bx b1 [f0] 91)::X2∧R ((r.2).2) M X2)∧v=vb r.1:=by
  intro m2 As1 w7 s1 X3 b6 r1 S8 h4 hm1;obtain⟨X4,L2,rfl,h5⟩:=h4;obtain⟨y1,q3,hm1⟩:=Aa hm1;cases hm1;unfold Cy at q3;replace S8:St _ ((Lp lp1 rip2 .ready none)::(bx b3 [vU ((s1).1)] 22)::(bx b2 [vU a1] 22)::(bx b1 [f0] 91)::(X4++As1)) _:=S8;have L1:=Mem.rfl' m2;refine EN.round h1 rfl S8 ?_;refine Ae ?_;refine A4 (v:=vb b6) rfl ?_;refine Ah ?_;refine nrm ?_;refine⟨_,_,S8,?_⟩;intro w8 S9;clear S8;replace S9:St _ ((Lp lp1 rip2 .busy none)::(bx b3 [vU ((s1).1)] 22)::(bx b2 [vU a1] 22)::(bx b1 [f0] 91)::(X4++As1)) _:=S9;refine Az ?_;refine Ag ?_;refine Ae ?_;refine H8 (i:=3) (cs:=[f0]) S9 rfl rfl Tryz.isAgg91 Tryz.sizeOf91 rfl (fun _=>rfl) ?_;refine H8 (i:=1) (cs:=[vU ((s1).1)]) S9 rfl rfl Tryz.isAgg22 Tryz.sizeOf22 rfl (fun _=>rfl) ?_;refine H8 (i:=1) (cs:=[vU ((s1).1)]) S9 rfl rfl Tryz.isAgg22 Tryz.sizeOf22 rfl (fun _=>rfl) ?_;obtain⟨x3,q4,q3⟩:=Aa q3;have S10:=St.absF (L:=[Lp lp1 rip2 .busy none,bx b3 [vU ((s1).1)] 22,bx b2 [vU a1] 22,bx b1 [f0] 91]) (X:=X4) (As:=As1) S9;refine HB rfl (cb0 S10 h5 q4) rfl ?_;rintro _ w9 ⟨m3,X5,l2,S11,h6,rfl⟩;replace S11:=St.absF (L:=X5) (X:=[Lp lp1 rip2 .busy none,bx b3 [vU ((s1).1)] 22,bx b2 [vU a1] 22,bx b1 [f0] 91]) (As:=As1) S11;clear S10;replace L1:=Mem.tr L1 l2;replace S11:St _ ((Lp lp1 rip2 .busy none)::(bx b3 [vU ((s1).1)] 22)::(bx b2 [vU a1] 22)::(bx b1 [f0] 91)::(X5++As1)) _:=S11;clear S9;refine I5 (i:=1) S11 rfl rfl rfl Tryz.sizeOf22 (Jo rfl MD) rfl ?_;intro w10 S12;replace S12:St _ ((Lp lp1 rip2 .busy none)::(bx b3 [vU x3.1] 22)::(bx b2 [vU a1] 22)::(bx b1 [f0] 91)::(X5++As1)) _:=S12;clear S11;refine Ah ?_;refine nrm ?_;refine Ag ?_;refine Ae ?_;refine Ar (v:=vb b6) rfl ?_;refine Ah ?_;refine nrm ?_;refine Cz (t:=b6) rfl (fun hc1=> ?_) (fun hc1=> ?_)
  ·replace q3:=ifT hc1 q3;refine Ae ?_;refine H8 (i:=3) (cs:=[f0]) S12 rfl rfl Tryz.isAgg91 Tryz.sizeOf91 rfl (fun _=>rfl) ?_;refine H8 (i:=1) (cs:=[vU x3.1]) S12 rfl rfl Tryz.isAgg22 Tryz.sizeOf22 rfl (fun _=>rfl) ?_;refine H8 (i:=2) (cs:=[vU a1]) S12 rfl rfl Tryz.isAgg22 Tryz.sizeOf22 rfl (fun _=>rfl) ?_;obtain⟨x4,q5,q3⟩:=Aa q3;have S13:=St.absF (L:=[Lp lp1 rip2 .busy none,bx b3 [vU x3.1] 22,bx b2 [vU a1] 22,bx b1 [f0] 91]) (X:=X5) (As:=As1) S12;refine HB rfl (cb0 S13 h6 q5) rfl ?_;rintro _ w11 ⟨m4,X6,l3,S14,h7,rfl⟩;replace S14:=St.absF (L:=X6) (X:=[Lp lp1 rip2 .busy none,bx b3 [vU x3.1] 22,bx b2 [vU a1] 22,bx b1 [f0] 91]) (As:=As1) S14;clear S13;replace L1:=Mem.tr L1 l3;replace S14:St _ ((Lp lp1 rip2 .busy none)::(bx b3 [vU x3.1] 22)::(bx b2 [vU a1] 22)::(bx b1 [f0] 91)::(X6++As1)) _:=S14;clear S12;refine I5 (i:=1) S14 rfl rfl rfl Tryz.sizeOf22 (Jo rfl MD) rfl ?_;intro w12 S15;replace S15:St _ ((Lp lp1 rip2 .busy none)::(bx b3 [vU x4.1] 22)::(bx b2 [vU a1] 22)::(bx b1 [f0] 91)::(X6++As1)) _:=S15;clear S14;refine Ah ?_;refine MF ?_;refine⟨_,_,S15,?_⟩;intro w13 S16;have e0:=Option.some.inj q3;subst e0;exact⟨_,Lp lp1 rip2 .ready none::(bx b3 [vU x4.1] 22)::(bx b2 [vU a1] 22)::(bx b1 [f0] 91)::X6,L1,S16,⟨_,Mem.tr L2 L1,rfl,h7⟩,rfl⟩
  replace q3:=ifF hc1 q3;refine A6 ?_;refine MF ?_;refine⟨_,_,S12,?_⟩;intro w14 S17;have e0:=Option.some.inj q3;subst e0;exact⟨_,Lp lp1 rip2 .ready none::(bx b3 [vU x3.1] 22)::(bx b2 [vU a1] 22)::(bx b1 [f0] 91)::X5,L1,S17,⟨_,Mem.tr L2 L1,rfl,h6⟩,rfl⟩
 refine AB.mono (Ms (p0:=(fun(s:UInt64×σ) (b0:Bool)=>Ac (Cy p0 a1 b0 s) fun y=>some (true,y))) (k0:=x1) (s0:=(1,s0)) (R:=(fun(s:UInt64×σ) (M:Mem) (X:List Ow)=>(∃(X2:List Ow),m1≤M∧X=Lp lp1 rip2 .ready none::(bx b3 [vU ((s).1)] 22)::(bx b2 [vU a1] 22)::(bx b1 [f0] 91)::X2∧R ((s).2) M X2))) (X0:=((Lp lp1 rip2 .ready none)::(bx b3 [vU 1] 22)::(bx b2 [vU a1] 22)::(bx b1 [f0] 91)::X0)) (As:=As) S7 (fun l h=>by obtain⟨X2,Lm,e,h3⟩:=h; exact⟨_,Mem.tr Lm l,e,hup l h3⟩) ⟨_,Mem.rfl' _,rfl,hX0⟩ @hcb1 rfl q2) ?_;rintro _ w15 ⟨m5,l4,X7,S18,rfl,⟨X8,L3,rfl,h8⟩⟩;replace S18:St _ ((bx b4 [vU x2.1] 22)::(Lp lp1 rip2 .ready none)::(bx b3 [vU x2.2.1] 22)::(bx b2 [vU a1] 22)::(bx b1 [f0] 91)::(X8++As)) _:=S18;have S19:St _ ((Lp lp1 rip2 .ready none)::(bx b4 [vU x2.1] 22)::(bx b3 [vU x2.2.1] 22)::(bx b2 [vU a1] 22)::(bx b1 [f0] 91)::(X8++As)) _:=St.perm S18 (List.Perm.swap _ _ _);clear S18;refine⟨_,.ready,none,_,l4,(fun h=>by cases h),S19,?_⟩;intro m6 w16 l5 S20;have l6:=Mem.tr l4 l5;replace h8:=hup l5 h8;replace L0:=Mem.tr L0 l6;replace S20:St _ ((bx b4 [vU x2.1] 22)::(bx b3 [vU x2.2.1] 22)::(bx b2 [vU a1] 22)::(bx b1 [f0] 91)::(X8++As)) _:=S20;refine MF ?_;refine nrm ?_;refine Ag ?_;refine Ae ?_;refine H8 (i:=1) (cs:=[vU x2.2.1]) S20 rfl rfl Tryz.isAgg22 Tryz.sizeOf22 rfl (fun _=>rfl) ?_;refine A4 (v:=vU x2.2.1) rfl ?_;refine Ah ?_;refine nrm ?_;refine Bw ?_;refine EE ?_;intro we hpd;replace S20:=St.pd S20 hpd;obtain⟨m7,l7,S21⟩:=St.drop S20 0;replace h8:=hup l7 h8;replace L0:=Mem.tr L0 l7;clear S20;replace S21:St _ ((bx b3 [vU x2.2.1] 22)::(bx b2 [vU a1] 22)::(bx b1 [f0] 91)::(X8++As)) _:=S21;obtain⟨m8,l8,S22⟩:=St.drop S21 0;replace h8:=hup l8 h8;replace L0:=Mem.tr L0 l8;clear S21;replace S22:St _ ((bx b2 [vU a1] 22)::(bx b1 [f0] 91)::(X8++As)) _:=S22;obtain⟨m9,l9,S23⟩:=St.drop S22 0;replace h8:=hup l9 h8;replace L0:=Mem.tr L0 l9;clear S22;replace S23:St _ ((bx b1 [f0] 91)::(X8++As)) _:=S23;obtain⟨m10,l10,S24⟩:=St.drop S23 0;replace h8:=hup l10 h8;replace L0:=Mem.tr L0 l10;clear S23;replace S24:St _ ((X8++As)) _:=S24;have e0:=Option.some.inj hm;subst e0;exact IW [_] rfl ⟨rfl,trivial⟩ ⟨_,L0,_,S24,rfl,h8⟩
def Fa (a0:UInt64)(a1:UInt64):Option (UInt64×UInt64):=bnd (((a0&&&4294967295)*(a1&&&4294967295))) fun x1=>bnd ((((Dj a0 32)*(a1&&&4294967295))+(Dj x1 32))) fun x2=>bnd (((x2&&&4294967295)+((a0&&&4294967295)*(Dj a1 32)))) fun x3=>bnd (((((Dj a0 32)*(Dj a1 32))+(Dj x2 32))+(Dj x3 32))) fun x4=>some (x4,(a0*a1))
theorem J4 {a0:UInt64}{a1:UInt64}{r:UInt64×UInt64}(hm:Fa a0 a1=some r):Sf prog 160 [.d (.u a0),.d (.u a1)] (.tup [.d (.u r.1),.d (.u r.2)]):=
 sp call160 func160 rfl ntmps160 rfl fun D0 As η0 m0 hd=>by
  unfold Fa at hm;have hm:=AO hm;let x1:UInt64:=(((a0&&&4294967295)*(a1&&&4294967295)));have hm:=AO hm;let x2:UInt64:=((((Dj a0 32)*(a1&&&4294967295))+(Dj x1 32)));have hm:=AO hm;let x3:UInt64:=(((x2&&&4294967295)+((a0&&&4294967295)*(Dj a1 32))));have hm:=AO hm;let x4:UInt64:=(((((Dj a0 32)*(Dj a1 32))+(Dj x2 32))+(Dj x3 32)));have e0:=Option.some.inj hm;subst e0;exact Aq hd
theorem Sg {m:Mem}{As:List Ow}{w:World}{a0:UInt64}{a1:UInt64}{r:UInt64×UInt64}(S:St m As w)(hm:Fa a0 a1=some r):
  AB prog 160 #[vU a0,vU a1] w fun v w'=> ∃(M:Mem),m≤M∧St M (As) w'∧v= .tuple #[vU r.1,vU r.2]:=by
 refine AB.mono ((J4 hm).2 none0 m As w [vU a0,vU a1] (.cons (.d (.u _)) (.cons (.d (.u _)) .nil)) (fun n h=>absurd rfl h) S) ?_;rintro v w' ⟨M,η',r',obs',n1,hle,_,⟨rfl,rfl,rfl⟩,hdom,hR,S'⟩;obtain⟨us,rfl,hR0⟩:=hR.tup_inv;obtain⟨v0,u0,rfl,q0,hR1⟩:=BB.cons_inv hR0;obtain⟨v1,u1,rfl,q1,hR2⟩:=BB.cons_inv hR1;obtain rfl:=BB.nil_inv hR2;obtain rfl:=q0.u_inv;obtain rfl:=q1.u_inv;exact⟨M,hle,S',rfl⟩
def CG (a0:UInt64):Option Int:=Ac (Fb a0) fun x1=>some (w64 (64-x1))
theorem J5 {a0:UInt64}{r:Int}(hm:CG a0=some r):Sf prog 198 [.d (.u a0)] (.d (.i r)):=
 sp call198 func198 rfl ntmps198 rfl fun D0 As η0 m0 hd=>by
  unfold CG at hm;obtain⟨x1,q1,hm⟩:=Aa hm;refine gc (fun _=>MV q1) ?_;have e0:=Option.some.inj hm;subst e0;exact Aq hd
def Df (x4:UInt64)(x5:UInt64)(x7:UInt64)(s1:UInt64×UInt64):Option ((UInt64×UInt64)⊕(UInt64)):=if((decide ((s1.1.toNat:Int)≥4294967296))||(decide (((s1.1*x5).toNat:Int)>(((4294967296*s1.2)+x7).toNat:Int))))=true then if(decide (((s1.2+x4).toNat:Int)≥4294967296))=true then some (.inr (s1.1-1))else some (.inl ((s1.1-1),(s1.2+x4)))else some (.inr s1.1)
def De (x4:UInt64)(x5:UInt64)(x8:UInt64)(s2:UInt64×UInt64):Option ((UInt64×UInt64)⊕(UInt64)):=if((decide ((s2.2.toNat:Int)≥4294967296))||(decide (((s2.2*x5).toNat:Int)>(((4294967296*s2.1)+x8).toNat:Int))))=true then if(decide (((s2.1+x4).toNat:Int)≥4294967296))=true then some (.inr (s2.2-1))else some (.inl ((s2.1+x4),(s2.2-1)))else some (.inr s2.2)
def F8 (a0:UInt64)(a1:UInt64)(a2:UInt64):Option (UInt64×UInt64):=Ac (if((a2.toNat:Int)==0)=true then none else some ()) fun x1=>Ac (if(decide ((a2.toNat:Int)≤(a0.toNat:Int)))=true then none else some ()) fun x2=>if((a0.toNat:Int)==0)=true then if a2≠0 then if a2≠0 then some ((a1/a2),(a1%a2))else none else none else Ac (CG a2) fun x3=>bnd ((Dj (GO a2 ((toU x3).toNat)) 32)) fun x4=>bnd (((GO a2 ((toU x3).toNat))&&&4294967295)) fun x5=>bnd (((GO a0 ((toU x3).toNat))|||(Dj a1 ((64-(toU x3)).toNat)))) fun x6=>bnd ((Dj (GO a1 ((toU x3).toNat)) 32)) fun x7=>bnd (((GO a1 ((toU x3).toNat))&&&4294967295)) fun x8=>if x4≠0 then Ac (Ac (iter (Df x4 x5 x7) AR ((x6/x4),(x6-((x6/x4)*x4)))) fun x10=>some x10) fun x9=>bnd ((((x6*4294967296)+x7)-(x9*(GO a2 ((toU x3).toNat))))) fun x12=>if x4≠0 then Ac (Ac (iter (De x4 x5 x8) AR ((x12-((x12/x4)*x4)),(x12/x4))) fun x14=>some x14) fun x13=>bnd ((Dj (((x12*4294967296)+x8)-(x13*(GO a2 ((toU x3).toNat)))) ((toU x3).toNat))) fun x16=>some (((x9*4294967296)+x13),x16)else none else none
theorem MW {a0:UInt64}{a1:UInt64}{a2:UInt64}{r:UInt64×UInt64}(hm:F8 a0 a1 a2=some r):Sf prog 163 [.d (.u a0),.d (.u a1),.d (.u a2)] (.tup [.d (.u r.1),.d (.u r.2)]):=
 sp call163 func163 rfl ntmps163 rfl fun D0 As η0 m0 hd=>by
  unfold F8 at hm;obtain⟨x1,q1,hm⟩:=Aa hm;refine gj (fun(_:Unit)=>⟨[(0,.d (.u a0)),(1,.d (.u a1)),(2,.d (.u a2))],[],[],0⟩) (fun _=>True) (fun Jp bk1=> ?_) fun _ _=> ?_
  ·refine gi q1 (fun hc1 q1=> ?_) fun hc1 q1=> ?_
   ·cases q1
   have e0:=Option.some.inj q1;subst e0;exact gb bk1 hd () trivial
  obtain⟨x2,q2,hm⟩:=Aa hm;refine gj (fun(_:Unit)=>⟨[(0,.d (.u a0)),(1,.d (.u a1)),(2,.d (.u a2))],[],[],0⟩) (fun _=>True) (fun Jp bk2=> ?_) fun _ _=> ?_
  ·refine gi q2 (fun hc2 q2=> ?_) fun hc2 q2=> ?_
   ·cases q2
   have e0:=Option.some.inj q2;subst e0;exact gb bk2 hd () trivial
  refine gi hm (fun hc3 hm=> ?_) fun hc3 hm=> ?_
  ·skip;obtain⟨q3,hm⟩:=Ck hm;refine Ve (d:= .u a2) (r:= .u (a1/a2)) (fun h=>q3) ?_;obtain⟨q4,hm⟩:=Ck hm;refine Ve (d:= .u a2) (r:= .u (a1%a2)) (fun h=>q4) ?_;have e0:=Option.some.inj hm;subst e0;exact Aq hd
  obtain⟨x3,q5,hm⟩:=Aa hm;refine gc (fun _=>J5 q5) ?_;have hm:=AO hm;let x4:UInt64:=((Dj (GO a2 ((toU x3).toNat)) 32));have hm:=AO hm;let x5:UInt64:=(((GO a2 ((toU x3).toNat))&&&4294967295));have hm:=AO hm;let x6:UInt64:=(((GO a0 ((toU x3).toNat))|||(Dj a1 ((64-(toU x3)).toNat))));have hm:=AO hm;let x7:UInt64:=((Dj (GO a1 ((toU x3).toNat)) 32));have hm:=AO hm;let x8:UInt64:=(((GO a1 ((toU x3).toNat))&&&4294967295));obtain⟨q11,hm⟩:=Ck hm;refine Ve (d:= .u x4) (r:= .u (x6/x4)) (fun h=>q11) ?_;obtain⟨x9,q12,hm⟩:=Aa hm;obtain⟨x10,q13,q12⟩:=Aa q12;refine gjU 0 (fun(_:Unit)=>⟨[(2,.d (.u (GO a2 ((toU x3).toNat)))),(8,.d (.u (toU x3))),(9,.d (.u x4)),(10,.d (.u x5)),(11,.d (.u x6)),(13,.d (.u x7)),(14,.d (.u x8)),(15,.d (.u x9))],[],[],0⟩) (fun _=>True) (fun Jp bk3=> ?_) fun _ _=> ?_
  ·refine gjU 0 (fun(_:Unit)=>⟨[(2,.d (.u (GO a2 ((toU x3).toNat)))),(8,.d (.u (toU x3))),(9,.d (.u x4)),(10,.d (.u x5)),(11,.d (.u x6)),(13,.d (.u x7)),(14,.d (.u x8)),(15,.d (.u x10))],[],[],0⟩) (fun _=>True) (fun Jp bk4=> ?_) fun _ _=> ?_
   ·refine gl hd (fun(p:Nat×(UInt64×UInt64))=>let (p0,p_0,p_1):=p; ⟨[(2,.d (.u (GO a2 ((toU x3).toNat)))),(8,.d (.u (toU x3))),(9,.d (.u x4)),(10,.d (.u x5)),(11,.d (.u x6)),(13,.d (.u x7)),(14,.d (.u x8)),(15,.d (.u p_0)),(16,.d (.u p_1))],[],[],0⟩) (fun p=>iter (Df x4 x5 x7) p.1 p.2=some x10) (fun p=>p.1) (AR,((x6/x4),(x6-((x6/x4)*x4)))) q13 ?_;rintro⟨n1,s1⟩ q14 Jl bl1;cases n1 with
    |zero=>exact(An q14).elim
    |succ n1=>
     obtain⟨y1,q16,q15⟩:=Am q14;unfold Df at q16;refine gi q16 (fun hc4 q16=> ?_) fun hc4 q16=> ?_
     ·skip;refine gi q16 (fun hc5 q16=> ?_) fun hc5 q16=> ?_
      ·skip;have e0:=Option.some.inj q16;subst e0;rcases q15 with ⟨sn,e,_⟩|e
       ·cases Bv e
       have e:=Sum.inr.inj e;subst e;exact gb bk4 hd () trivial
      have e0:=Option.some.inj q16;subst e0;rcases q15 with ⟨sn,e,q15'⟩|e
      ·have e:=Sum.inl.inj e;subst e;exact gb bl1 hd (n1,_) ⟨q15',Nat.lt_succ_self _⟩
      cases AM e
     have e0:=Option.some.inj q16;subst e0;rcases q15 with ⟨sn,e,_⟩|e
     ·cases Bv e
     have e:=Sum.inr.inj e;subst e;exact gb bk4 hd () trivial
   have e0:=Option.some.inj q12;subst e0;exact gb bk3 hd () trivial
  have hm:=AO hm;let x12:UInt64:=((((x6*4294967296)+x7)-(x9*(GO a2 ((toU x3).toNat)))));obtain⟨q19,hm⟩:=Ck hm;refine Ve (d:= .u x4) (r:= .u (x12/x4)) (fun h=>q19) ?_;obtain⟨x13,q20,hm⟩:=Aa hm;obtain⟨x14,q21,q20⟩:=Aa q20;refine gjU 2 (fun(_:Unit)=>⟨[(2,.d (.u (GO a2 ((toU x3).toNat)))),(8,.d (.u (toU x3))),(14,.d (.u x8)),(15,.d (.u x9)),(17,.d (.u x12)),(18,.d (.u x13))],[],[],0⟩) (fun _=>True) (fun Jp bk5=> ?_) fun _ _=> ?_
  ·refine gjU 2 (fun(_:Unit)=>⟨[(2,.d (.u (GO a2 ((toU x3).toNat)))),(8,.d (.u (toU x3))),(14,.d (.u x8)),(15,.d (.u x9)),(17,.d (.u x12)),(18,.d (.u x14))],[],[],0⟩) (fun _=>True) (fun Jp bk6=> ?_) fun _ _=> ?_
   ·refine gl hd (fun(p:Nat×(UInt64×UInt64))=>let (p0,p_0,p_1):=p; ⟨[(2,.d (.u (GO a2 ((toU x3).toNat)))),(8,.d (.u (toU x3))),(9,.d (.u x4)),(10,.d (.u x5)),(14,.d (.u x8)),(15,.d (.u x9)),(16,.d (.u p_0)),(17,.d (.u x12)),(18,.d (.u p_1))],[],[],0⟩) (fun p=>iter (De x4 x5 x8) p.1 p.2=some x14) (fun p=>p.1) (AR,((x12-((x12/x4)*x4)),(x12/x4))) q21 ?_;rintro⟨n2,s2⟩ q22 Jl bl2;cases n2 with
    |zero=>exact(An q22).elim
    |succ n2=>
     obtain⟨y2,q24,q23⟩:=Am q22;unfold De at q24;refine gi q24 (fun hc6 q24=> ?_) fun hc6 q24=> ?_
     ·skip;refine gi q24 (fun hc7 q24=> ?_) fun hc7 q24=> ?_
      ·skip;have e0:=Option.some.inj q24;subst e0;rcases q23 with ⟨sn,e,_⟩|e
       ·cases Bv e
       have e:=Sum.inr.inj e;subst e;exact gb bk6 hd () trivial
      have e0:=Option.some.inj q24;subst e0;rcases q23 with ⟨sn,e,q23'⟩|e
      ·have e:=Sum.inl.inj e;subst e;exact gb bl2 hd (n2,_) ⟨q23',Nat.lt_succ_self _⟩
      cases AM e
     have e0:=Option.some.inj q24;subst e0;rcases q23 with ⟨sn,e,_⟩|e
     ·cases Bv e
     have e:=Sum.inr.inj e;subst e;exact gb bk6 hd () trivial
   have e0:=Option.some.inj q20;subst e0;exact gb bk5 hd () trivial
  have hm:=AO hm;let x16:UInt64:=((Dj (((x12*4294967296)+x8)-(x13*(GO a2 ((toU x3).toNat)))) ((toU x3).toNat)));have e0:=Option.some.inj hm;subst e0;exact Aq hd
def E9 (a0:UInt64)(a1:UInt64)(a2:UInt64):Option UInt64:=if a2≠0 then Ac (F8 (a0%a2) a1 a2) fun x1=>some x1.2 else none
theorem MU {a0:UInt64}{a1:UInt64}{a2:UInt64}{r:UInt64}(hm:E9 a0 a1 a2=some r):Sf prog 161 [.d (.u a0),.d (.u a1),.d (.u a2)] (.d (.u r)):=
 sp call161 func161 rfl ntmps161 rfl fun D0 As η0 m0 hd=>by
  unfold E9 at hm;obtain⟨q1,hm⟩:=Ck hm;refine Ve (d:= .u a2) (r:= .u (a0%a2)) (fun h=>q1) ?_;obtain⟨x1,q2,hm⟩:=Aa hm;refine gc (fun _=>MW q2) ?_;have e0:=Option.some.inj hm;subst e0;exact Aq hd
theorem Se {m:Mem}{As:List Ow}{w:World}{a0:UInt64}{a1:UInt64}{a2:UInt64}{r:UInt64}(S:St m As w)(hm:E9 a0 a1 a2=some r):
  AB prog 161 #[vU a0,vU a1,vU a2] w fun v w'=> ∃(M:Mem),m≤M∧St M (As) w'∧v=vU r:=by
 refine AB.mono ((MU hm).2 none0 m As w [vU a0,vU a1,vU a2] (.cons (.d (.u _)) (.cons (.d (.u _)) (.cons (.d (.u _)) .nil))) (fun n h=>absurd rfl h) S) ?_;rintro v w' ⟨M,η',r',obs',n1,hle,_,⟨rfl,rfl,rfl⟩,hdom,hR,S'⟩;obtain rfl:=hR.u_inv;exact⟨M,hle,S',rfl⟩
def Bo (a0:UInt64)(a1:UInt64)(a2:UInt64):Option UInt64:=Ac (Fa a1 a2) fun x1=>Ac (E9 x1.1 x1.2 a0) fun x2=>some x2
theorem I2 {m:Mem}{As:List Ow}{w:World}{a0:UInt64}{a1:UInt64}{a2:UInt64}{r:UInt64}(S:St m (As) w)(hm:Bo a0 a1 a2=some r):
  AB Tryz.prog 109 #[vU a0,vU a1,vU a2] w fun v w'=> ∃(M:Mem),m≤M∧St M (As) w'∧v=vU r:=by
 unfold Bo at hm;have L0:=Mem.rfl' m;refine C9 (args:=[vU a0,vU a1,vU a2]) Tryz.func109 rfl Tryz.ntmps109 (Nat.le_of_ble_eq_true rfl) ?_;refine Ag ?_;refine Ae ?_;refine A4 (v:=vU 0) rfl ?_;refine Ah ?_;refine nrm ?_;refine Ag ?_;refine Ae ?_;refine Ar (v:=vU a1) rfl ?_;refine Ar (v:=vU a2) rfl ?_;obtain⟨x1,q1,hm⟩:=Aa hm;refine CJ Tryz.call160 (Sg (a0:=a1) (a1:=a2) S q1) rfl ?_;rintro _ w1 ⟨m1,l1,S1,rfl⟩;replace L0:=Mem.tr L0 l1;clear S;replace S1:St _ (As) _:=S1;refine Ar (v:= .tuple #[vU x1.1,vU x1.2]) rfl ?_;refine AbH (i:=0) rfl rfl ?_;refine AbH (i:=1) rfl rfl ?_;refine A4 (v:=vU x1.1) rfl ?_;refine A4 (v:=vU x1.2) rfl ?_;refine Ah ?_;refine nrm ?_;refine Ag ?_;refine Ae ?_;refine Ar (v:=vU x1.1) rfl ?_;refine Ar (v:=vU x1.2) rfl ?_;refine Ar (v:=vU a0) rfl ?_;obtain⟨x2,q2,hm⟩:=Aa hm;refine CJ Tryz.call161 (Se (a0:=x1.1) (a1:=x1.2) (a2:=a0) S1 q2) rfl ?_;rintro _ w2 ⟨m2,l2,S2,rfl⟩;replace L0:=Mem.tr L0 l2;clear S1;replace S2:St _ (As) _:=S2;refine A4 (v:=vU x2) rfl ?_;refine Ah ?_;refine nrm ?_;refine Bw ?_;refine EE ?_;intro we hpd;replace S2:=St.pd S2 hpd;have e0:=Option.some.inj hm;subst e0;exact IW [_] rfl ⟨rfl,trivial⟩ ⟨_,L0,S2,rfl⟩
theorem I7 {a0:UInt64}{a1:UInt64}{a2:UInt64}{r:UInt64}(hm:Bo a0 a1 a2=some r):Sf prog 109 [.d (.u a0),.d (.u a1),.d (.u a2)] (.d (.u r)):=
 ⟨call109,fun η m As w vs hv0 hd S=>by
  have S:St m As w:=S;obtain⟨v0,u0,rfl,r0,hv1⟩:=BB.cons_inv hv0;obtain rfl:=r0.u_inv;obtain⟨v1,u1,rfl,r1,hv2⟩:=BB.cons_inv hv1;obtain rfl:=r1.u_inv;obtain⟨v2,u2,rfl,r2,hv3⟩:=BB.cons_inv hv2;obtain rfl:=r2.u_inv;obtain rfl:=BB.nil_inv hv3;refine AB.mono (I2 S hm) ?_;rintro v w' ⟨M,hle,S0,rfl⟩;exact⟨M,none0,_,_,_,hle,Un hd _,⟨rfl,rfl,rfl⟩,fun n h=>absurd rfl h,(.d (.u _)),S0⟩⟩
def C5 (a0:UInt64)(a1:UInt64):Option UInt64:=Ac (FG (fun(s1:Unit) (b1:UInt64) (b2:UInt64)=>Ac (Bo 2305843009213691579 b1 b2) fun x1=>some (x1,())) a0 a1 ()) fun x2=>some x2.1
theorem R8 {m:Mem}{As:List Ow}{w:World}{a0:UInt64}{a1:UInt64}{r:UInt64}(S:St m (As) w)(hm:C5 a0 a1=some r):
  AB Tryz.prog 62 #[vU a0,vU a1] w fun v w'=> ∃(M:Mem),m≤M∧St M (As) w'∧v=vU r:=by
 unfold C5 at hm;have L0:=Mem.rfl' m;refine C9 (args:=[vU a0,vU a1]) Tryz.func62 rfl Tryz.ntmps62 (Nat.le_of_ble_eq_true rfl) ?_;refine Ag ?_;refine Ae ?_;refine A4 (v:=vU 0) rfl ?_;refine Ah ?_;refine nrm ?_;refine Ag ?_;refine Ae ?_;refine AbD (pre:=[vU 2305843009213691579]) (caps:=[]) rfl rfl ?_;refine Ar (v:=vU a0) rfl ?_;refine Ar (v:=vU a1) rfl ?_;have hcb1: ∀{m':Mem} {As':List Ow} {w':World} {s:Unit} {X:List Ow} {b0:UInt64} {b1:UInt64} {r:UInt64×Unit},St m' (X++As') w'→(X=[])→(fun(s1:Unit) (b1:UInt64) (b2:UInt64)=>Ac (Bo 2305843009213691579 b1 b2) fun x1=>some (x1,())) s b0 b1=some r→EN Tryz.prog (.func (.func 109) #[vU 2305843009213691579] #[]) [vU b0,vU b1] w' fun v w''=> ∃(M:Mem) (X':List Ow),m'≤M∧St M (X'++As') w''∧(X'=[])∧v=vU r.1:=by
  intro m1 As1 w1 s1 X1 b1 b2 r1 S1 h1 hm1;subst h1;replace S1:St _ (As1) _:=S1;have L1:=Mem.rfl' m1;obtain⟨x1,q1,hm1⟩:=Aa hm1;refine EN.mono (EN.clo (pre:=[vU 2305843009213691579]) Tryz.call109 rfl (I2 (a0:=2305843009213691579) (a1:=b1) (a2:=b2) S1 q1)) ?_;rintro _ w2 ⟨m2,l1,S2,rfl⟩;replace L1:=Mem.tr L1 l1;clear S1;replace S2:St _ (As1) _:=S2;have e0:=Option.some.inj hm1;subst e0;exact⟨_,[],L1,S2,rfl,rfl⟩
 obtain⟨x2,q2,hm⟩:=Aa hm;refine CJ Tryz.call108 (Pb (p0:=(fun(s1:Unit) (b1:UInt64) (b2:UInt64)=>Ac (Bo 2305843009213691579 b1 b2) fun x1=>some (x1,()))) (a1:=a0) (a2:=a1) (s0:=()) (R:=(fun(s:Unit) (M:Mem) (X:List Ow)=>(X=[]))) (X0:=[]) (As:=As) S (fun {_ _ _ _} _ h=>h) rfl @hcb1 rfl q2) rfl ?_;rintro _ w3 ⟨m3,l2,X2,S3,rfl,rfl⟩;replace L0:=Mem.tr L0 l2;clear S;replace S3:St _ (As) _:=S3;refine A4 (v:=vU x2.1) rfl ?_;refine Ah ?_;refine nrm ?_;refine Bw ?_;refine EE ?_;intro we hpd;replace S3:=St.pd S3 hpd;have e0:=Option.some.inj hm;subst e0;exact IW [_] rfl ⟨rfl,trivial⟩ ⟨_,L0,S3,rfl⟩
theorem Kc {a0:UInt64}{a1:UInt64}{r:UInt64}(hm:C5 a0 a1=some r):Sf prog 62 [.d (.u a0),.d (.u a1)] (.d (.u r)):=
 ⟨call62,fun η m As w vs hv0 hd S=>by
  have S:St m As w:=S;obtain⟨v0,u0,rfl,r0,hv1⟩:=BB.cons_inv hv0;obtain rfl:=r0.u_inv;obtain⟨v1,u1,rfl,r1,hv2⟩:=BB.cons_inv hv1;obtain rfl:=r1.u_inv;obtain rfl:=BB.nil_inv hv2;refine AB.mono (R8 S hm) ?_;rintro v w' ⟨M,hle,S0,rfl⟩;exact⟨M,none0,_,_,_,hle,Un hd _,⟨rfl,rfl,rfl⟩,fun n h=>absurd rfl h,(.d (.u _)),S0⟩⟩
def It (a0:UInt64):Option Bool:=Ac (gu ((decide ((a0.toNat:Int)>0))&&(decide ((a0.toNat:Int)<2305843009213691579))) (C5 a0 1152921504606845789)) fun x1=>bnd ((((decide ((a0.toNat:Int)>0))&&(decide ((a0.toNat:Int)<2305843009213691579)))&&((x1.toNat:Int)==1))) fun x2=>some x2
theorem TC {a0:UInt64}{r:Bool}(hm:It a0=some r):Sf prog 60 [.d (.u a0)] (.d (.t r)):=
 sp call60 func60 rfl ntmps60 rfl fun D0 As η0 m0 hd=>by
  unfold It at hm;obtain⟨x1,q1,hm⟩:=Aa hm;refine gcG (fun h=>Kc (En h q1)) ?_;have hm:=AO hm;let x2:Bool:=((((decide ((a0.toNat:Int)>0))&&(decide ((a0.toNat:Int)<2305843009213691579)))&&((x1.toNat:Int)==1)));have e0:=Option.some.inj hm;subst e0;exact Aq hd
def Bp (s1:UInt64×UInt64×Int×Int):Option ((UInt64×UInt64×Int×Int)⊕(Int)):=if((s1.2.1.toNat:Int) !=0)=true then if s1.2.1≠0 then bnd ((s1.1-((s1.1/s1.2.1)*s1.2.1))) fun x4=>bnd ((w64 (s1.2.2.1-(w64 ((w64 ((s1.1/s1.2.1).toNat:Int))*s1.2.2.2))))) fun x5=>some (.inl (s1.2.1,x4,s1.2.2.2,x5))else none else some (.inr s1.2.2.1)
def DH (a0:UInt64)(a1:UInt64):Option (UInt64×Int):=if a0≠0 then if(((a1%a0).toNat:Int)==0)=true then some (0,10)else Ac (Ac (iter Bp AR ((a1%a0),a0,1,0)) fun x2=>some x2) fun x1=>Ac (if(decide (x1<0))=true then bnd ((w64 (x1+(w64 (a0.toNat:Int))))) fun x7=>some x7 else some x1) fun x6=>some ((toU x6),0)else none
theorem J2 {a0:UInt64}{a1:UInt64}{r:UInt64×Int}(hm:DH a0 a1=some r):Sf prog 107 [.d (.u a0),.d (.u a1)] (.tup [.d (.u r.1),.d (.i r.2)]):=
 sp call107 func107 rfl ntmps107 rfl fun D0 As η0 m0 hd=>by
  unfold DH at hm;obtain⟨q1,hm⟩:=Ck hm;refine Ve (d:= .u a0) (r:= .u (a1%a0)) (fun h=>q1) ?_;refine gi hm (fun hc1 hm=> ?_) fun hc1 hm=> ?_
  ·skip;have e0:=Option.some.inj hm;subst e0;exact Aq hd
  obtain⟨x1,q2,hm⟩:=Aa hm;obtain⟨x2,q3,q2⟩:=Aa q2;refine gjU 0 (fun(_:Unit)=>⟨[(0,.d (.u a0)),(8,.d (.i x1))],[],[],0⟩) (fun _=>True) (fun Jp bk1=> ?_) fun _ _=> ?_
  ·refine gjU 0 (fun(_:Unit)=>⟨[(0,.d (.u a0)),(8,.d (.i x2))],[],[],0⟩) (fun _=>True) (fun Jp bk2=> ?_) fun _ _=> ?_
   ·refine gl hd (fun(p:Nat×(UInt64×UInt64×Int×Int))=>let (p0,p_0,p_1,p_2,p_3):=p; ⟨[(0,.d (.u a0)),(6,.d (.u p_0)),(7,.d (.u p_1)),(8,.d (.i p_2)),(9,.d (.i p_3))],[],[],0⟩) (fun p=>iter Bp p.1 p.2=some x2) (fun p=>p.1) (AR,((a1%a0),a0,1,0)) q3 ?_;rintro⟨n1,s1⟩ q4 Jl bl1;cases n1 with
    |zero=>exact(An q4).elim
    |succ n1=>
     obtain⟨y1,q6,q5⟩:=Am q4;unfold Bp at q6;refine gi q6 (fun hc2 q6=> ?_) fun hc2 q6=> ?_
     ·skip;obtain⟨q8,q6⟩:=Ck q6;refine Ve (d:= .u s1.2.1) (r:= .u (s1.1/s1.2.1)) (fun h=>q8) ?_;have q6:=AO q6;let x4:UInt64:=((s1.1-((s1.1/s1.2.1)*s1.2.1)));have q6:=AO q6;let x5:Int:=((w64 (s1.2.2.1-(w64 ((w64 ((s1.1/s1.2.1).toNat:Int))*s1.2.2.2)))));have e0:=Option.some.inj q6;subst e0;rcases q5 with ⟨sn,e,q5'⟩|e
      ·have e:=Sum.inl.inj e;subst e;exact gb bl1 hd (n1,_) ⟨q5',Nat.lt_succ_self _⟩
      cases AM e
     have e0:=Option.some.inj q6;subst e0;rcases q5 with ⟨sn,e,_⟩|e
     ·cases Bv e
     have e:=Sum.inr.inj e;subst e;exact gb bk2 hd () trivial
   have e0:=Option.some.inj q2;subst e0;exact gb bk1 hd () trivial
  obtain⟨x6,q11,hm⟩:=Aa hm;refine gj (fun(_:Unit)=>⟨[(8,.d (.i x6))],[],[],0⟩) (fun _=>True) (fun Jp bk3=> ?_) fun _ _=> ?_
  ·refine gi q11 (fun hc3 q11=> ?_) fun hc3 q11=> ?_
   ·have q11:=AO q11;let x7:Int:=((w64 (x1+(w64 (a0.toNat:Int)))));have e0:=Option.some.inj q11;subst e0;exact gb bk3 hd () trivial
   have e0:=Option.some.inj q11;subst e0;exact gb bk3 hd () trivial
  have e0:=Option.some.inj hm;subst e0;exact Aq hd
def DI (a0:UInt64):Option (UInt64×Int):=Ac (DH 2305843009213691579 a0) fun x1=>some (x1.1,x1.2)
theorem Sa {a0:UInt64}{r:UInt64×Int}(hm:DI a0=some r):Sf prog 61 [.d (.u a0)] (.tup [.d (.u r.1),.d (.i r.2)]):=
 sp call61 func61 rfl ntmps61 rfl fun D0 As η0 m0 hd=>by
  unfold DI at hm;obtain⟨x1,q1,hm⟩:=Aa hm;refine gc (fun _=>J2 q1) ?_;have e0:=Option.some.inj hm;subst e0;exact Aq hd
def HW (a0:UInt64×UInt64)(a1:UInt64):Option UInt64:=if((a1.toNat:Int)==0)=true then some 0 else Ac (Fa a0.1 2305843009213693952) fun x1=>if a1≠0 then Ac (F8 ((x1.1+(IP x1.2 a0.2))%a1) (x1.2+a0.2) a1) fun x2=>some x2.2 else none
theorem Pv {a0:UInt64×UInt64}{a1:UInt64}{r:UInt64}(hm:HW a0 a1=some r):Sf prog 110 [ag (Ku a0),.d (.u a1)] (.d (.u r)):=
 sp call110 func110 rfl ntmps110 rfl fun D0 As η0 m0 hd=>by
  unfold HW at hm;refine gi hm (fun hc1 hm=> ?_) fun hc1 hm=> ?_
  ·skip;have e0:=Option.some.inj hm;subst e0;exact Aq hd
  obtain⟨x1,q1,hm⟩:=Aa hm;refine gc (fun _=>J4 q1) ?_;refine AaW (p:=x1.2) (q:=a0.2) func162 ?_;obtain⟨q2,hm⟩:=Ck hm;refine Ve (d:= .u a1) (r:= .u ((x1.1+(IP x1.2 a0.2))%a1)) (fun h=>q2) ?_;obtain⟨x2,q3,hm⟩:=Aa hm;refine gc (fun _=>MW q3) ?_;have e0:=Option.some.inj hm;subst e0;exact Aq hd
def Fm (a1:UInt64)(s1:(List UInt8)×Int):Option (((List UInt8)×Int)⊕((List UInt8))):=if(decide (s1.2≥0))=true then if(0:Int)≤(w64 (8*s1.2))then Ac (app 1 s1.1 ([(toB ((Dj a1 ((w64 (8*s1.2)).toNat)).toNat:Int))]:List UInt8)) fun x4=>some (.inl (x4,(w64 (s1.2-1))))else none else some (.inr s1.1)
def HU (a0:List UInt8)(a1:UInt64)(a2:Int):Option (List UInt8):=Ac (Ac (iter (Fm a1) AR (a0,(w64 (a2-1)))) fun x2=>some x2) fun x1=>some x1
theorem VL {a0:List UInt8}{a1:UInt64}{a2:Int}{r:List UInt8}(hm:HU a0 a1 a2=some r):Sp prog 164 [.ow 0,.d (.u a1),.d (.i a2)] [.row 0 1 _ eB a0] 1 (is (.ow 1) [.row 1 1 _ eB r] 2):=
 sp call164 func164 rfl ntmps164 rfl fun D0 As η0 m0 hd=>by
  unfold HU at hm;obtain⟨x1,q1,hm⟩:=Aa hm;obtain⟨x2,q2,q1⟩:=Aa q1;refine gjU 0 (fun(_:Unit)=>⟨[(0,.ow 1)],[(0,.row 1 1 _ eB x1)],[],2⟩) (fun _=>True) (fun Jp bk1=> ?_) fun _ _=> ?_
  ·refine gjU 0 (fun(_:Unit)=>⟨[(0,.ow 1)],[(0,.row 1 1 _ eB x2)],[],2⟩) (fun _=>True) (fun Jp bk2=> ?_) fun _ _=> ?_
   ·refine gl hd (fun(p:Nat×((List UInt8)×Int))=>let (p0,p_0,p_1):=p; ⟨[(0,.ow 1),(1,.d (.u a1)),(2,.d (.i p_1))],[(0,.row 1 1 _ eB p_0)],[],2⟩) (fun p=>iter (Fm a1) p.1 p.2=some x2) (fun p=>p.1) (AR,(a0,(w64 (a2-1)))) q2 ?_;rintro⟨n1,s1⟩ q3 Jl bl1;cases n1 with
    |zero=>exact(An q3).elim
    |succ n1=>
     obtain⟨y1,q5,q4⟩:=Am q3;unfold Fm at q5;refine gi q5 (fun hc1 q5=> ?_) fun hc1 q5=> ?_
     ·skip;obtain⟨q7,q5⟩:=Ck q5;refine gsh (r:= .u (Dj a1 ((w64 (8*s1.2)).toNat))) (fun h=>q7) ?_;refine Fc (k:=1) eB ([(toB ((Dj a1 ((w64 (8*s1.2)).toNat)).toNat:Int))]:List UInt8) (fun _=>rfl) ?_;obtain⟨x4,q8,q5⟩:=Aa q5;refine KZ (k:=1) (E:=eB) (fun _=>rfl) q8 ?_;have e0:=Option.some.inj q5;subst e0;rcases q4 with ⟨sn,e,q4'⟩|e
      ·have e:=Sum.inl.inj e;subst e;exact gb bl1 hd (n1,_) ⟨q4',Nat.lt_succ_self _⟩
      cases AM e
     have e0:=Option.some.inj q5;subst e0;rcases q4 with ⟨sn,e,_⟩|e
     ·cases Bv e
     have e:=Sum.inr.inj e;subst e;exact gb bk2 hd () trivial
   have e0:=Option.some.inj q1;subst e0;exact gb bk1 hd () trivial
  have e0:=Option.some.inj hm;subst e0;exact Aq hd
def AU {σ:Type}(p0:σ→(List UInt8)→Option (Bool×σ))(k0:List UInt8)(k1:Int)(s1:Int×σ):Option ((Int×σ)⊕((σ)⊕((List UInt8)×Int×σ))):=if(decide (s1.1<(k0.length:Int)))=true then Ac (cut k0 s1.1 (k0.length:Int)) fun x3=>Ac (cut k0 s1.1 (w64 (s1.1+(NF k1 (x3.length:Int))))) fun x4=>Ac (p0 s1.2 x4) fun x5=>if(!x5.1)=true then some (.inr (.inr (k0,k1,x5.2)))else some (.inl ((w64 (s1.1+k1)),x5.2))else some (.inr (.inl s1.2))
def Cu {σ:Type}(p0:σ→(List UInt8)→Option (Bool×σ))(k0:List UInt8)(k1:Int)(s0:σ):Option ((List UInt8)×Int×σ):=Ac (iter (AU p0 k0 k1) AR (0,s0)) fun x1=>match x1 with| .inr r=>some r| .inl y1=>some (k0,k1,y1)
theorem Iz {m:Mem}{As:List Ow}{w:World}{σ:Type}{R:σ→Mem→List Ow→Prop}{p0:σ→(List UInt8)→Option (Bool×σ)}{f0:Value}{kb0:Nat}{k0:List UInt8}{k0v0:Value}{kb1:Nat}{k1:Int}{s0:σ}{X0:List Ow}{r:(List UInt8)×Int×σ}(S:St m ((bx kb0 [k0v0] 52)::(bx kb1 [vI k1] 3)::(X0++As)) w)(hup: ∀{s M M' X},M≤M'→R s M X→R s M' X)(hX0:R s0 m X0)(cb0: ∀{m':Mem} {As':List Ow} {w':World} {s:σ} {X:List Ow} {b0:List UInt8} {b0v0:Value} {r:Bool×σ},St m' (X++As') w'→R s m' X→SlR m' b0v0 b0→p0 s b0=some r→EN Tryz.prog f0 [b0v0] w' fun v w''=> ∃(M:Mem) (X':List Ow),m'≤M∧St M (X'++As') w''∧R r.2 M X'∧v=vb r.1)(fc0:f0.cells= #[f0])(k0h0:SlR m k0v0 k0)(hm:Cu p0 k0 k1 s0=some r):
  AB Tryz.prog 228 #[f0,pt kb0 0,pt kb1 0] w fun v w'=> ∃(M:Mem),m≤M∧∃(rb0_0:Value) (X:List Ow),St M ((bx kb0 [rb0_0] 52)::(bx kb1 [vI r.2.1] 3)::(X++As)) w'∧v= .tuple #[]∧SlR M rb0_0 r.1∧R r.2.2 M X:=by
 unfold Cu at hm;have L0:=Mem.rfl' m;refine C9 (args:=[f0,pt kb0 0,pt kb1 0]) Tryz.func228 rfl Tryz.ntmps228 (Nat.le_of_ble_eq_true rfl) ?_;refine Ag ?_;refine Ae ?_;refine A4 (v:=vI 0) rfl ?_;refine Ah ?_;refine nrm ?_;obtain⟨x1,q1,hm⟩:=Aa hm;have L1:=Mem.rfl' m;refine Nv ?_;refine A8 [4,5,6,7,8,9,10,11,12,13,14,15,16,17,18,19,20,21,22,23,24,25,26,27,28,29,30] (fun f' w'=> ∃(M1:Mem) (y1:σ) (X2:List Ow),x1= .inl y1∧m≤M1∧St M1 ((bx kb0 [k0v0] 52)::(bx kb1 [vI k1] 3)::(X2++As)) w'∧R y1 M1 X2∧Cl f' []) ?_ ?_
 ·refine Az ?_;refine B4 [4,5,6,7,8,9,10,11,12,13,14,15,16,17,18,19,20,21,22,23,24,25,26,27,28,29,30] (fun n1 f' w'=> ∃(s1:Int×σ) (m9:Mem) (X1:List Ow),iter (AU p0 k0 k1) n1 s1=some x1∧m≤m9∧St m9 ((bx kb0 [k0v0] 52)::(bx kb1 [vI k1] 3)::(X1++As)) w'∧R s1.2 m9 X1∧Cl f' [(4,vI s1.1)]) AR ⟨(0,s0),m,_,q1,L1,S,hX0,⟨rfl,trivial⟩⟩ ?_;rintro n1 f1 w1 ho ⟨s1,m1,X1,q2,L3,S1,h1,ha⟩;obtain⟨u1,rfl⟩:=B3 (N:=31) ho ha;clear ho ha;replace k0h0:=k0h0.up L3;have L2:=Mem.rfl' m1;clear S;cases n1 with
  |zero=>exact(An q2).elim
  |succ n1=>
   obtain⟨y2,q4,q3⟩:=Am q2;unfold AU at q4;refine Ag ?_;refine Ag ?_;refine Ae ?_;refine Ar (v:=vI s1.1) rfl ?_;refine H8 (i:=0) (cs:=[k0v0]) S1 rfl rfl Tryz.isAgg52 Tryz.sizeOf52 rfl (fun _=>rfl) ?_;refine Kb (xs:=k0) rfl k0h0 Tryz.underlying52 ?_;refine KO (m:=s1.1) (n:=(k0.length:Int)) rfl rfl ?_;refine Ah ?_;refine nrm ?_;refine Cz (t:=(decide (s1.1<(k0.length:Int)))) rfl (fun hc1=> ?_) (fun hc1=> ?_)
   ·replace q4:=ifT hc1 q4;refine A6 ?_;refine nrm ?_;refine Ag ?_;refine Az ?_;refine Ag ?_;obtain⟨x3,q6,q4⟩:=Aa q4;have HM:HD [(13,fv (vI k1)),(14,fv k0v0),(15,fv (vI s1.1)),(16,fun(M:Mem) (v:Value)=> ∃(v1:Value),v=v1∧SlR M v1 x3),(17,fv (vI (x3.length:Int)))]:=⟨mv,mv,mv,(fun _ _ _ l ⟨v1,e,h3⟩=>⟨v1,e,h3.up l⟩),mv,trivial⟩;refine JW HM 5 XM rfl rfl rfl [13,14,15,16,17] (fun L f M w=>St M ((bx kb0 [k0v0] 52)::(bx kb1 [vI k1] 3)::(X1++As)) w) (St.drew S1 _) ?_ ?_
    ·refine⟨?_,?_,?_,?_,?_,trivial⟩
     ·exact flp HM rfl [] (fun _ _=>trivial) (fun _ S2 q=>H8 (i:=1) (cs:=[vI k1]) S2 rfl rfl Tryz.isAgg3 Tryz.sizeOf3 rfl (fun _=>rfl) q) rfl
     ·exact flp HM rfl [] (fun _ _=>trivial) (fun _ S3 q=>H8 (i:=0) (cs:=[k0v0]) S3 rfl rfl Tryz.isAgg52 Tryz.sizeOf52 rfl (fun _=>rfl) q) rfl
     ·exact flp HM rfl [] (fun _ _=>trivial) (fun _ _ q=>Ar (v:=vI s1.1) rfl q) rfl
     ·intro L f5 w5 hL hd hc ⟨m5,L10,S5,K,hO⟩;have d1:L 1=true:=dep hd rfl;have e1:=K 1 d1;have d2:L 2=true:=dep hd rfl;have e2:=K 2 d2;obtain⟨u5,rfl⟩:=B3 (N:=31) (L:=[(14,k0v0),(15,vI s1.1)]) hO ⟨e1,e2,trivial⟩;replace S5:St _ ((bx kb0 [k0v0] 52)::(bx kb1 [vI k1] 3)::(X1++As)) _:=S5;replace k0h0:=k0h0.up L10;replace h1:=hup L10 h1;have L11:=Mem.rfl' m5;refine TO (ys:=x3) (l:=s1.1) (h:=(k0.length:Int)) rfl k0h0 Tryz.underlying52 Tryz.sizeOf5 (.inr ⟨_,rfl⟩) (.inl ⟨rfl,rfl⟩) (.inl rfl) q6 ?_;intro v1 h3;refine wpn ?_;refine⟨m5,Mem.tr L10 L11,?_,Jm HM rfl K L11 rfl rfl ⟨v1,rfl,h3⟩,FI⟩;exact S5
     ·intro L f6 w6 hL hd hc ⟨m6,L12,S6,K,hO⟩;have d3:L 3=true:=dep hd rfl;obtain⟨v2,e3,h4⟩:=K 3 d3;obtain⟨u6,rfl⟩:=B3 (N:=31) (L:=[(16,v2)]) hO ⟨e3,trivial⟩;replace S6:St _ ((bx kb0 [k0v0] 52)::(bx kb1 [vI k1] 3)::(X1++As)) _:=S6;replace k0h0:=k0h0.up L12;replace h1:=hup L12 h1;have L13:=Mem.rfl' m6;refine Kb (xs:=x3) rfl h4 Tryz.underlying52 ?_;refine wpn ?_;refine⟨m6,Mem.tr L12 L13,?_,Jm HM rfl K L13 rfl rfl rfl,FI⟩;exact S6
    intro L f7 w7 hall ⟨m7,L14,S7,K,hO⟩;have d0:L 0=true:=hall 0 (by decide);have e4:=K 0 d0;have d4:L 4=true:=hall 4 (by decide);have e5:=K 4 d4;obtain⟨u7,rfl⟩:=B3 (N:=31) (L:=[(13,vI k1),(17,vI (x3.length:Int))]) hO ⟨e4,e5,trivial⟩;replace S7:St _ ((bx kb0 [k0v0] 52)::(bx kb1 [vI k1] 3)::(X1++As)) _:=S7;replace k0h0:=k0h0.up L14;replace h1:=hup L14 h1;replace L2:=Mem.tr L2 L14;clear S1;refine WZ rfl rfl ?_;refine A4 (v:=vI (NF k1 (x3.length:Int))) rfl ?_;refine Ah ?_;refine nrm ?_;refine Ag ?_;refine Ae ?_;refine Ar (v:=f0) rfl ?_;refine H8 (i:=0) (cs:=[k0v0]) S7 rfl rfl Tryz.isAgg52 Tryz.sizeOf52 rfl (fun _=>rfl) ?_;refine Ar (v:=vI s1.1) rfl ?_;refine Ar (v:=vI s1.1) rfl ?_;refine Ar (v:=vI (NF k1 (x3.length:Int))) rfl ?_;refine FA (m:=s1.1) (n:=(NF k1 (x3.length:Int))) rfl rfl ?_;refine Ar (v:=vI s1.1) rfl ?_;refine Ar (v:=vI (NF k1 (x3.length:Int))) rfl ?_;refine FA (m:=s1.1) (n:=(NF k1 (x3.length:Int))) rfl rfl ?_;obtain⟨x4,q7,q4⟩:=Aa q4;refine TO (ys:=x4) (l:=s1.1) (h:=(w64 (s1.1+(NF k1 (x3.length:Int))))) rfl k0h0 Tryz.underlying52 Tryz.sizeOf5 (.inr ⟨_,rfl⟩) (.inr ⟨_,rfl⟩) (.inr ⟨(fun h=>by cases h),_,rfl⟩) q7 ?_;intro v3 h5;obtain⟨x5,q8,q4⟩:=Aa q4;have S8:=St.absF (L:=[bx kb0 [k0v0] 52,bx kb1 [vI k1] 3]) (X:=X1) (As:=As) S7;refine HB rfl (cb0 S8 h1 h5 q8) rfl ?_;rintro _ w8 ⟨m8,X3,l1,S9,h6,rfl⟩;replace S9:=St.absF (L:=X3) (X:=[bx kb0 [k0v0] 52,bx kb1 [vI k1] 3]) (As:=As) S9;clear S8;replace h5:=h5.up l1;replace k0h0:=k0h0.up l1;replace L2:=Mem.tr L2 l1;replace S9:St _ ((bx kb0 [k0v0] 52)::(bx kb1 [vI k1] 3)::(X3++As)) _:=S9;clear S7;refine TN rfl ?_;refine Ah ?_;refine nrm ?_;refine Cz (t:=(!x5.1)) rfl (fun hc2=> ?_) (fun hc2=> ?_)
    ·replace q4:=ifT hc2 q4;refine Bw ?_;refine blR ?_;refine thR ?_;refine thR ?_;refine blR ?_;refine thR ?_;refine EE ?_;intro we hpd;replace S9:=St.pd S9 hpd;cases q4;rcases q3 with ⟨sn,e,_⟩|e
     ·cases e
     cases e;dsimp only at hm;have e0:=Option.some.inj hm;subst e0;exact IW [] rfl trivial ⟨_,(Mem.tr L0 (Mem.tr L3 L2)),_,_,S9,rfl,k0h0,h6⟩
    replace q4:=ifF hc2 q4;refine A6 ?_;refine MF ?_;refine nrm ?_;refine Ae ?_;refine Ar (v:=vI s1.1) rfl ?_;refine H8 (i:=1) (cs:=[vI k1]) S9 rfl rfl Tryz.isAgg3 Tryz.sizeOf3 rfl (fun _=>rfl) ?_;refine FA (m:=s1.1) (n:=k1) rfl rfl ?_;refine A4 (v:=vI (w64 (s1.1+k1))) rfl ?_;refine Ah ?_;refine nrm ?_;have e0:=Option.some.inj q4;subst e0;rcases q3 with ⟨sn,e,q3'⟩|e
    ·cases e;exact⟨FI,_,Nat.lt_succ_self _,⟨_,m8,_,q3',Mem.tr L3 L2,S9,h6,⟨rfl,trivial⟩⟩⟩
    ·cases e
   replace q4:=ifF hc1 q4;refine CV ?_;refine thE ?_;refine thE ?_;refine exB ?_;refine nrm ?_;have e0:=Option.some.inj q4;subst e0;rcases q3 with ⟨sn,e,_⟩|e
   ·cases e
   ·cases e;exact⟨FI,m1,_,_,rfl,Mem.tr L3 L2,S1,h1,trivial⟩
 rintro f8 w9 ho ⟨m10,y1,X2,rfl,l2,S10,h2,ha⟩;obtain⟨u8,rfl⟩:=B3 (N:=31) ho ha;clear ho ha;dsimp only at hm;replace k0h0:=k0h0.up l2;replace L0:=Mem.tr L0 l2;clear S;refine V2 ?_;intro we hpd;replace S10:=St.pd S10 hpd;have e0:=Option.some.inj hm;subst e0;exact IW [] rfl trivial ⟨_,L0,_,_,S10,rfl,k0h0,h2⟩
def CL (a0:List UInt8)(a1:Int):Option ((List UInt8)×Int):=Ac (if(decide (a1<1))=true then none else some ()) fun x1=>some (a0,a1)
theorem I0 {m:Mem}{As:List Ow}{w:World}{a0:List UInt8}{a0v0:Value}{a1:Int}{r:(List UInt8)×Int}(S:St m (As) w)(a0h0:SlR m a0v0 a0)(hm:CL a0 a1=some r):
  AB Tryz.prog 215 #[a0v0,vI a1] w fun v w'=> ∃(M:Mem),m≤M∧∃(rk0_0:Nat) (rc0_0_0:Value) (rk0_1:Nat),St M ((bx rk0_0 [rc0_0_0] 52)::(bx rk0_1 [vI r.2] 3)::As) w'∧v= .func (.func 228) #[] #[pt rk0_0 0,pt rk0_1 0]∧SlR M rc0_0_0 r.1:=by
 unfold CL at hm;have L0:=Mem.rfl' m;refine C9 (args:=[a0v0,vI a1]) Tryz.func215 rfl Tryz.ntmps215 (Nat.le_of_ble_eq_true rfl) ?_;refine Ag ?_;refine Ae ?_;refine Aay S rfl (SlR.cells a0h0) ?_;intro b1 w1 S1;replace S1:St _ ((bx b1 [a0v0] 52)::As) _:=S1;clear S;refine Mz S1 rfl ?_;intro b2 w2 S2;replace S2:St _ ((bx b2 [vI a1] 3)::(bx b1 [a0v0] 52)::As) _:=S2;clear S1;refine A4 (v:= .nilFunc) rfl ?_;refine Ah ?_;refine nrm ?_;obtain⟨x1,q1,hm⟩:=Aa hm;have L1:=Mem.rfl' m;refine Ag ?_;refine A8 [5,6,7] (fun f' w'=> ∃(M1:Mem),m≤M1∧St M1 ((bx b2 [vI a1] 3)::(bx b1 [a0v0] 52)::As) w'∧Cl f' []) ?_ ?_
 ·refine Ag ?_;refine Ae ?_;refine H8 (i:=0) (cs:=[vI a1]) S2 rfl rfl Tryz.isAgg3 Tryz.sizeOf3 rfl (fun _=>rfl) ?_;refine KO (m:=a1) (n:=1) rfl rfl ?_;refine Ah ?_;refine nrm ?_;refine Cz (t:=(decide (a1<1))) rfl (fun hc1=> ?_) (fun hc1=> ?_)
  ·replace q1:=ifT hc1 q1;cases q1
  replace q1:=ifF hc1 q1;refine A6 ?_;refine nrm ?_;have e0:=Option.some.inj q1;subst e0;exact⟨FI,m,L1,S2,trivial⟩
 rintro f1 w3 ho ⟨m1,l1,S3,ha⟩;obtain⟨u1,rfl⟩:=B3 (N:=9) ho ha;replace a0h0:=a0h0.up l1;replace L0:=Mem.tr L0 l1;clear S2;refine Ag ?_;refine Ae ?_;refine My (caps:=[pt b1 0,pt b2 0]) rfl ?_;refine A4 (v:= .func (.func 228) #[] #[pt b1 0,pt b2 0]) rfl ?_;refine Ah ?_;refine nrm ?_;refine Bw ?_;refine EE ?_;intro we hpd;replace S3:=St.pd S3 hpd;have S4:St _ ((bx b1 [a0v0] 52)::(bx b2 [vI a1] 3)::As) _:=St.perm S3 (List.Perm.swap _ _ _);have e0:=Option.some.inj hm;subst e0;exact IW [_] rfl ⟨rfl,trivial⟩ ⟨_,L0,_,_,_,S4,rfl,a0h0⟩
def Ej (b5:List UInt8)(i1:Int)(s2:UInt64):Option (UInt64):=Ac (idx b5 (i1:Int)) fun x6=>if(0:Int)≤(w64 (8*(i1:Int)))then bnd ((s2|||(GO (toU (x6.toNat:Int)) ((w64 (8*(i1:Int))).toNat)))) fun x7=>some x7 else none
def Ek (b5:List UInt8)(s1:(List UInt64)):Option ((List UInt64)):=Ac (Ac (Dh (Ej b5) b5.length 0 0) fun x4=>some x4) fun x3=>Ac (app 8 s1 ([x3]:List UInt64)) fun x8=>some x8
def Jj (a0:List UInt8):Option (List UInt64):=Ac (CL a0 7) fun x1=>Ac (Cu (fun(s:(List UInt64)) (b0:List UInt8)=>Ac (Ek b0 s) fun y=>some (true,y)) x1.1 x1.2 ([]:List UInt64)) fun x2=>some x2.2.2
theorem VO {m:Mem}{As:List Ow}{w:World}{a0:List UInt8}{a0v0:Value}{r:List UInt64}(S:St m (As) w)(a0h0:SlR m a0v0 a0)(hm:Jj a0=some r):
  AB Tryz.prog 199 #[a0v0] w fun v w'=> ∃(M:Mem),m≤M∧∃(rv0:Value) (rc0:List Value),St M ((row 1 rv0 rc0 r.length)::As) w'∧v=rv0∧BK M rc0 r:=by
 unfold Jj at hm;have L0:=Mem.rfl' m;refine C9 (args:=[a0v0]) Tryz.func199 rfl Tryz.ntmps199 (Nat.le_of_ble_eq_true rfl) ?_;refine Ag ?_;refine Ae ?_;refine A4 (v:= .slice none 0 0) rfl ?_;refine Ah ?_;refine nrm ?_;refine Ag ?_;refine Ae ?_;refine Fx S Tryz.zeroValue140 ?_;intro b1 w1 S1;replace S1:St _ ((bx b1 [.slice none 0 0] 140)::As) _:=S1;clear S;refine Ah ?_;refine nrm ?_;refine Ag ?_;refine Ag ?_;refine Ae ?_;refine Ar (v:=a0v0) rfl ?_;obtain⟨x1,q1,hm⟩:=Aa hm;refine CJ Tryz.call215 (I0 (a0:=a0) (a1:=7) S1 a0h0 q1) rfl ?_;rintro _ w2 ⟨m1,l1,b2,v1,b3,S2,rfl,h1⟩;replace a0h0:=a0h0.up l1;replace L0:=Mem.tr L0 l1;clear S1;replace S2:St _ ((bx b2 [v1] 52)::(bx b3 [vI x1.2] 3)::(bx b1 [.slice none 0 0] 140)::As) _:=S2;refine Ah ?_;refine nrm ?_;refine Az ?_;obtain⟨x2,q2,hm⟩:=Aa hm;refine Gc S2 rfl Tryz.call228 ?_;intro lp1 rip2 w3 h2 S3;replace S3:St _ ((Lp lp1 rip2 .ready none)::(bx b2 [v1] 52)::(bx b3 [vI x1.2] 3)::(bx b1 [.slice none 0 0] 140)::As) _:=S3;clear S2;have S4:=St.rowNil S3 1;have h4:BK m1 [] ([]:List UInt64):=BK.nil;replace S4:St _ ((row 1 (.slice none 0 0) [] ([]:List UInt64).length)::(Lp lp1 rip2 .ready none)::(bx b2 [v1] 52)::(bx b3 [vI x1.2] 3)::(bx b1 [.slice none 0 0] 140)::As) _:=S4;clear S3;have S5:St _ ((bx b2 [v1] 52)::(bx b3 [vI x1.2] 3)::(Lp lp1 rip2 .ready none)::(row 1 (.slice none 0 0) [] ([]:List UInt64).length)::(bx b1 [(.slice none 0 0)] 140)::As) _:=St.perm S4 (List.Perm.trans (List.Perm.cons _ (List.Perm.swap _ _ _)) (List.Perm.trans (List.Perm.swap _ _ _) (List.Perm.trans (List.Perm.cons _ (List.Perm.cons _ (List.Perm.swap _ _ _))) (List.Perm.trans (List.Perm.cons _ (List.Perm.swap _ _ _)) (List.Perm.cons _ (List.Perm.cons _ (List.Perm.swap _ _ _)))))));clear S4;have hcb1: ∀{m':Mem} {As':List Ow} {w':World} {s:(List UInt64)} {X:List Ow} {b0:List UInt8} {b0v0:Value} {r:Bool×(List UInt64)},St m' (X++As') w'→(∃(v3:Value) (c2:List Value),m1≤m'∧X=Lp lp1 rip2 .ready none::(row 1 v3 c2 (s).length)::(bx b1 [v3] 140)::[]∧BK m' c2 (s))→SlR m' b0v0 b0→(fun(s:(List UInt64)) (b0:List UInt8)=>Ac (Ek b0 s) fun y=>some (true,y)) s b0=some r→EN Tryz.prog (.func (.yield lp1) #[] #[]) [b0v0] w' fun v w''=> ∃(M:Mem) (X':List Ow),m'≤M∧St M (X'++As') w''∧(∃(v3:Value) (c2:List Value),m1≤M∧X'=Lp lp1 rip2 .ready none::(row 1 v3 c2 (r.2).length)::(bx b1 [v3] 140)::[]∧BK M c2 (r.2))∧v=vb r.1:=by
  intro m2 As1 w4 s1 X1 b5 v4 r4 S6 h6 h7 hm1;obtain⟨v5,c3,L2,rfl,h8⟩:=h6;obtain⟨y1,q3,hm1⟩:=Aa hm1;cases hm1;unfold Ek at q3;replace S6:St _ ((Lp lp1 rip2 .ready none)::(row 1 v5 c3 s1.length)::(bx b1 [v5] 140)::As1) _:=S6;have L1:=Mem.rfl' m2;refine EN.round h2 rfl S6 ?_;refine Ae ?_;refine A4 (v:=v4) rfl ?_;refine Ah ?_;refine nrm ?_;refine⟨_,_,S6,?_⟩;intro w5 S7;clear S6;replace S7:St _ ((Lp lp1 rip2 .busy none)::(row 1 v5 c3 s1.length)::(bx b1 [v5] 140)::As1) _:=S7;refine Az ?_;refine Ag ?_;refine Ae ?_;refine A4 (v:=vU 0) rfl ?_;refine Ah ?_;refine nrm ?_;obtain⟨x3,q4,q3⟩:=Aa q3;have L3:=Mem.rfl' m2;refine Ag ?_;refine A8 [5,6,7,11,12,13,14,15,16,17,18,19,20,21,22,23,24,25] (fun f' w'=> ∃(M1:Mem),m2≤M1∧St M1 ((Lp lp1 rip2 .busy none)::(row 1 v5 c3 s1.length)::(bx b1 [v5] 140)::As1) w'∧Cl f' [(5,vU x3)]) ?_ ?_
  ·refine Ag ?_;refine Ae ?_;refine Ar (v:=v4) rfl ?_;refine Kb (xs:=b5) rfl h7 Tryz.underlying52 ?_;refine Ar (v:=vI 0) rfl ?_;refine Ah ?_;refine nrm ?_;obtain⟨x4,q5,q4⟩:=Aa q4;have L4:=Mem.rfl' m2;refine A8 [5,6,7,13,14,15,16,17,18,19,20,21,22,23,24,25] (fun f' w'=> ∃(M2:Mem),m2≤M2∧St M2 ((Lp lp1 rip2 .busy none)::(row 1 v5 c3 s1.length)::(bx b1 [v5] 140)::As1) w'∧Cl f' [(5,vU x4)]) ?_ ?_
   ·refine Az ?_;refine B4 [5,6,7,13,14,15,16,17,18,19,20,21,22,23,24,25] (fun n1 f' w'=> ∃(i1:Nat) (s2:UInt64) (m4:Mem),n1=b5.length-i1∧i1≤b5.length∧Dh (Ej b5) (b5.length-i1) (i1:Int) s2=some x4∧m2≤m4∧St m4 ((Lp lp1 rip2 .busy none)::(row 1 v5 c3 s1.length)::(bx b1 [v5] 140)::As1) w'∧Cl f' [(13,vI (i1:Int)),(5,vU s2)]) b5.length ⟨0,0,m2,rfl,Nat.zero_le _,q5,L4,S7,⟨rfl,rfl,trivial⟩⟩ ?_;rintro n1 f1 w6 ho ⟨i1,s2,m3,hn,hi,q6,L6,S8,ha⟩;obtain⟨u1,rfl⟩:=B3 (N:=31) ho ha;clear ho ha;replace h7:=h7.up L6;replace h8:=BK.up L6 h8;have L5:=Mem.rfl' m3;clear S7;refine Ag ?_;refine Ae ?_;refine KO (m:=(i1:Int)) (n:=(b5.length:Int)) rfl rfl ?_;refine Ah ?_;refine nrm ?_;refine Ag ?_;refine Cz (t:=decide ((i1:Int)<(b5.length:Int))) rfl (fun hc1=> ?_) (fun hc1=> ?_)
    ·have hlt1:i1<b5.length:=by have:=of_decide_eq_true hc1; omega
     obtain⟨y2,q8,q7⟩:=Iw q6 hlt1;unfold Ej at q8;refine A6 ?_;refine nrm ?_;refine Ag ?_;refine Az ?_;refine Ag ?_;refine Ae ?_;refine Ar (v:=vI (i1:Int)) rfl ?_;obtain⟨x6,q10,q8⟩:=Aa q8;refine W5 (q:=x6) rfl rfl h7 q10 Tryz.underlying52 Tryz.sizeOf5 ?_;intro p3 c4 h9 r5;obtain rfl:c4=[vB x6]:=r5;refine W3 (cs:=[vB x6]) S8 rfl h9 rfl Tryz.isAgg5 Tryz.sizeOf5 (fun _=>rfl) ?_;refine A4 (v:=vI (i1:Int)) rfl ?_;refine A4 (v:=vB x6) rfl ?_;refine Ah ?_;refine nrm ?_;refine Ae ?_;refine Ar (v:=vU s2) rfl ?_;refine Ar (v:=vB x6) rfl ?_;refine On rfl Tryz.underlying5 Tryz.underlying22 ?_;refine Ar (v:=vI (i1:Int)) rfl ?_;refine PE (m:=8) (n:=(i1:Int)) rfl rfl ?_;obtain⟨q11,q8⟩:=Ck q8;refine WW (m:=(toU (x6.toNat:Int))) (n:=(w64 (8*(i1:Int)))) rfl rfl q11 ?_;refine s_orU (m:=s2) (n:=(GO (toU (x6.toNat:Int)) ((w64 (8*(i1:Int))).toNat))) rfl rfl ?_;obtain⟨x7,q12,q8⟩:=CU q8;refine A4 (v:=vU x7) (congrArg (fun z=>vU z) q12.symm) ?_;refine Ah ?_;refine MF ?_;refine nrm ?_;refine Ae ?_;refine FA (m:=(i1:Int)) (n:=1) rfl rfl ?_;refine Ar (v:=vI (w64 ((i1:Int)+1))) rfl ?_;refine Ah ?_;refine nrm ?_;have e0:=Option.some.inj q8;subst e0;exact⟨FI,_,(by omega),⟨i1+1,x7,m3,rfl,hlt1,q7,Mem.tr L6 L5,S8,⟨congrArg (Value.int .i64) (Bx hlt1 (SlR.le h7)),rfl,trivial⟩⟩⟩
    have hlt1: ¬i1<b5.length:=by have:=of_decide_eq_false hc1; omega
    have e:=Eq.symm (Hk q6 hlt1);subst e;refine CV ?_;refine thE ?_;refine thE ?_;refine exB ?_;refine nrm ?_;exact⟨FI,m3,Mem.tr L6 L5,S8,⟨rfl,trivial⟩⟩
   rintro f2 w7 ho ⟨m5,l2,S9,ha⟩;obtain⟨u2,rfl⟩:=B3 (N:=31) ho ha;clear ho ha;replace h8:=BK.up l2 h8;replace L3:=Mem.tr L3 l2;clear S7;have e0:=Option.some.inj q4;subst e0;exact⟨FI,m5,L3,S9,⟨rfl,trivial⟩⟩
  rintro f3 w8 ho ⟨m6,l3,S10,ha⟩;obtain⟨u3,rfl⟩:=B3 (N:=31) ho ha;replace h8:=BK.up l3 h8;replace L1:=Mem.tr L1 l3;clear S7;refine Ae ?_;refine H8 (i:=2) (cs:=[v5]) S10 rfl rfl Tryz.isAgg140 Tryz.sizeOf140 rfl (fun _=>rfl) ?_;refine Ar (v:=vU x3) rfl ?_;refine s_litC (parts:=[.tmp 27]) (vs:=[vU x3]) (cls:=[[vU x3]]) (xs:=([x3]:List UInt64)) (n:=1) S10 Tryz.underlying140 Tryz.sizeOf22 Tryz.zeroValue22 rfl ⟨rfl,trivial⟩ (BK.cons (c:=[vU x3]) (x:=x3) rfl BK.nil) rfl rfl rfl (by decide) (by decide) ?_;intro v6 m7 w9 l4 S11 h10;replace h8:=BK.up l4 h8;replace L1:=Mem.tr L1 l4;clear S10;obtain⟨x8,q13,q3⟩:=Aa q3;refine TQ (i:=1) (zs:=x8) (bytes:=8) (ti:=Tryz.t22) S11 rfl rfl h8 rfl rfl h10 q13 Tryz.underlying140 Tryz.type22 rfl rfl rfl rfl ?_;intro v7 c5 w10 S12 h11;replace S12:St _ ((Lp lp1 rip2 .busy none)::(row 1 v7 c5 x8.length)::(bx b1 [v5] 140)::As1) _:=S12;clear S11;refine s_stS (i:=2) S12 rfl rfl rfl Tryz.sizeOf140 (St.rowCells (i:=1) S12 rfl) rfl ?_;intro w11 S13;replace S13:St _ ((Lp lp1 rip2 .busy none)::(row 1 v7 c5 x8.length)::(bx b1 [v7] 140)::As1) _:=S13;clear S12;refine Ah ?_;refine MF ?_;have S14:St _ ((row 1 v7 c5 x8.length)::(Lp lp1 rip2 .busy none)::(bx b1 [v7] 140)::As1) _:=St.perm S13 (List.Perm.swap _ _ _);clear S13;have S15:St _ ((Lp lp1 rip2 .busy none)::(row 1 v7 c5 x8.length)::(bx b1 [v7] 140)::As1) _:=St.perm S14 (List.Perm.swap _ _ _);clear S14;refine⟨_,_,S15,?_⟩;intro w12 S16;have e0:=Option.some.inj q3;subst e0;exact⟨_,Lp lp1 rip2 .ready none::(row 1 v7 c5 x8.length)::(bx b1 [v7] 140)::[],L1,S16,⟨_,_,Mem.tr L2 L1,rfl,h11⟩,rfl⟩
 refine AB.mono (Iz (p0:=(fun(s:(List UInt64)) (b0:List UInt8)=>Ac (Ek b0 s) fun y=>some (true,y))) (k0:=x1.1) (k1:=x1.2) (s0:=([]:List UInt64)) (R:=(fun(s:(List UInt64)) (M:Mem) (X:List Ow)=>(∃(v3:Value) (c2:List Value),m1≤M∧X=Lp lp1 rip2 .ready none::(row 1 v3 c2 (s).length)::(bx b1 [v3] 140)::[]∧BK M c2 (s)))) (X0:=((Lp lp1 rip2 .ready none)::(row 1 (.slice none 0 0) [] ([]:List UInt64).length)::(bx b1 [(.slice none 0 0)] 140)::[])) (As:=As) S5 (fun l h=>by obtain⟨v3,c2,Lm,e,h5⟩:=h; exact⟨_,_,Mem.tr Lm l,e,BK.up l h5⟩) ⟨_,_,Mem.rfl' _,rfl,h4⟩ @hcb1 rfl h1 q2) ?_;rintro _ w13 ⟨m8,l5,v8,X2,S17,rfl,h12,⟨v9,c6,L7,rfl,h13⟩⟩;replace S17:St _ ((bx b2 [v8] 52)::(bx b3 [vI x2.2.1] 3)::(Lp lp1 rip2 .ready none)::(row 1 v9 c6 x2.2.2.length)::(bx b1 [v9] 140)::As) _:=S17;have S18:St _ ((Lp lp1 rip2 .ready none)::(bx b2 [v8] 52)::(bx b3 [vI x2.2.1] 3)::(row 1 v9 c6 x2.2.2.length)::(bx b1 [v9] 140)::As) _:=St.perm S17 (List.Perm.trans (List.Perm.cons _ (List.Perm.swap _ _ _)) (List.Perm.swap _ _ _));clear S17;refine⟨_,.ready,none,_,l5,(fun h=>by cases h),S18,?_⟩;intro m9 w14 l6 S19;have l7:=Mem.tr l5 l6;replace h12:=h12.up l6;replace h13:=BK.up l6 h13;replace L0:=Mem.tr L0 l7;replace S19:St _ ((bx b2 [v8] 52)::(bx b3 [vI x2.2.1] 3)::(row 1 v9 c6 x2.2.2.length)::(bx b1 [v9] 140)::As) _:=S19;refine MF ?_;refine nrm ?_;refine Ag ?_;refine Ae ?_;refine H8 (i:=3) (cs:=[v9]) S19 rfl rfl Tryz.isAgg140 Tryz.sizeOf140 rfl (fun _=>rfl) ?_;refine A4 (v:=v9) rfl ?_;refine Ah ?_;refine nrm ?_;refine Bw ?_;refine EE ?_;intro we hpd;replace S19:=St.pd S19 hpd;obtain⟨m10,l8,S20⟩:=St.drop S19 0;replace h13:=BK.up l8 h13;replace L0:=Mem.tr L0 l8;clear S19;replace S20:St _ ((bx b3 [vI x2.2.1] 3)::(row 1 v9 c6 x2.2.2.length)::(bx b1 [v9] 140)::As) _:=S20;obtain⟨m11,l9,S21⟩:=St.drop S20 0;replace h13:=BK.up l9 h13;replace L0:=Mem.tr L0 l9;clear S20;replace S21:St _ ((row 1 v9 c6 x2.2.2.length)::(bx b1 [v9] 140)::As) _:=S21;obtain⟨m12,l10,S22⟩:=St.drop S21 1;replace h13:=BK.up l10 h13;replace L0:=Mem.tr L0 l10;clear S21;replace S22:St _ ((row 1 v9 c6 x2.2.2.length)::As) _:=S22;have e0:=Option.some.inj hm;subst e0;exact IW [_] rfl ⟨rfl,trivial⟩ ⟨_,L0,_,_,S22,rfl,h13⟩
def F6 (a0:UInt64)(a1:UInt64):Option UInt64:=bnd (((a1&&&2305843009213693951)+((GO a0 3)|||(Dj a1 61)))) fun x1=>bnd (((x1&&&2305843009213693951)+(Dj x1 61))) fun x2=>Ac (if(decide ((x2.toNat:Int)≥2305843009213693951))=true then some (x2-2305843009213693951)else some x2) fun x3=>some x3
theorem MT {a0:UInt64}{a1:UInt64}{r:UInt64}(hm:F6 a0 a1=some r):Sf prog 229 [.d (.u a0),.d (.u a1)] (.d (.u r)):=
 sp call229 func229 rfl ntmps229 rfl fun D0 As η0 m0 hd=>by
  unfold F6 at hm;have hm:=AO hm;let x1:UInt64:=(((a1&&&2305843009213693951)+((GO a0 3)|||(Dj a1 61))));have hm:=AO hm;let x2:UInt64:=(((x1&&&2305843009213693951)+(Dj x1 61)));obtain⟨x3,q3,hm⟩:=Aa hm;refine gj (fun(_:Unit)=>⟨[(5,.d (.u x3))],[],[],0⟩) (fun _=>True) (fun Jp bk1=> ?_) fun _ _=> ?_
  ·refine gi q3 (fun hc1 q3=> ?_) fun hc1 q3=> ?_
   ·skip;have e0:=Option.some.inj q3;subst e0;exact gb bk1 hd () trivial
   have e0:=Option.some.inj q3;subst e0;exact gb bk1 hd () trivial
  have e0:=Option.some.inj hm;subst e0;exact Aq hd
def Ei (a0:UInt64):Option UInt64:=Ac (F6 0 a0) fun x1=>some x1
theorem H3 {a0:UInt64}{r:UInt64}(hm:Ei a0=some r):Sf prog 216 [.d (.u a0)] (.d (.u r)):=
 sp call216 func216 rfl ntmps216 rfl fun D0 As η0 m0 hd=>by
  unfold Ei at hm;obtain⟨x1,q1,hm⟩:=Aa hm;refine gc (fun _=>MT q1) ?_;have e0:=Option.some.inj hm;subst e0;exact Aq hd
def El (a0:UInt64)(a1:UInt64):Option UInt64:=Ac (Ei a0) fun x1=>Ac (Ei a1) fun x2=>Ac (Ei (x1+x2)) fun x3=>some x3
theorem Tz {a0:UInt64}{a1:UInt64}{r:UInt64}(hm:El a0 a1=some r):Sf prog 200 [.d (.u a0),.d (.u a1)] (.d (.u r)):=
 sp call200 func200 rfl ntmps200 rfl fun D0 As η0 m0 hd=>by
  unfold El at hm;obtain⟨x1,q1,hm⟩:=Aa hm;refine gc (fun _=>H3 q1) ?_;obtain⟨x2,q2,hm⟩:=Aa hm;refine gc (fun _=>H3 q2) ?_;obtain⟨x3,q3,hm⟩:=Aa hm;refine gc (fun _=>H3 q3) ?_;have e0:=Option.some.inj hm;subst e0;exact Aq hd
theorem Jv {m:Mem}{As:List Ow}{w:World}{a0:UInt64}{a1:UInt64}{r:UInt64}(S:St m As w)(hm:El a0 a1=some r):
  AB prog 200 #[vU a0,vU a1] w fun v w'=> ∃(M:Mem),m≤M∧St M (As) w'∧v=vU r:=by
 refine AB.mono ((Tz hm).2 none0 m As w [vU a0,vU a1] (.cons (.d (.u _)) (.cons (.d (.u _)) .nil)) (fun n h=>absurd rfl h) S) ?_;rintro v w' ⟨M,η',r',obs',n1,hle,_,⟨rfl,rfl,rfl⟩,hdom,hR,S'⟩;obtain rfl:=hR.u_inv;exact⟨M,hle,S',rfl⟩
def DU {σ:Type}(p1:σ→Int→UInt64→Option (UInt64×σ))(i1:Int)(s1:UInt64×UInt64×UInt64×σ):Option (UInt64×UInt64×UInt64×σ):=Ac (idx [s1.1,s1.2.1,s1.2.2.1] (i1:Int)) fun x3=>Ac (p1 s1.2.2.2 (i1:Int) x3) fun x4=>Ac (idx [s1.1,s1.2.1,s1.2.2.1] (i1:Int)) fun x5=>bnd (if(i1:Int)=0 then x4.1 else s1.1) fun x6=>bnd (if(i1:Int)=1 then x4.1 else s1.2.1) fun x7=>bnd (if(i1:Int)=2 then x4.1 else s1.2.2.1) fun x8=>some (x6,x7,x8,x4.2)
def Cx {σ:Type}(a0:UInt64×UInt64×UInt64)(p1:σ→Int→UInt64→Option (UInt64×σ))(s0:σ):Option ((UInt64×UInt64×UInt64)×σ):=Ac (Dh (DU p1) 3 0 (a0.1,a0.2.1,a0.2.2,s0)) fun x1=>some ((x1.1,x1.2.1,x1.2.2.1),x1.2.2.2)
theorem I1 {m:Mem}{As:List Ow}{w:World}{σ:Type}{R:σ→Mem→List Ow→Prop}{pb0:Nat}{a0:UInt64×UInt64×UInt64}{p1:σ→Int→UInt64→Option (UInt64×σ)}{f1:Value}{s0:σ}{X0:List Ow}{r:(UInt64×UInt64×UInt64)×σ}(S:St m ((bx pb0 [vU a0.1,vU a0.2.1,vU a0.2.2] 198)::(X0++As)) w)(hup: ∀{s M M' X},M≤M'→R s M X→R s M' X)(hX0:R s0 m X0)(cb1: ∀{m':Mem} {As':List Ow} {w':World} {s:σ} {X:List Ow} {b0:Int} {b1:UInt64} {r:UInt64×σ},St m' (X++As') w'→R s m' X→p1 s b0 b1=some r→EN Tryz.prog f1 [vI b0,vU b1] w' fun v w''=> ∃(M:Mem) (X':List Ow),m'≤M∧St M (X'++As') w''∧R r.2 M X'∧v=vU r.1)(fc1:f1.cells= #[f1])(hm:Cx a0 p1 s0=some r):
  AB Tryz.prog 217 #[pt pb0 0,f1] w fun v w'=> ∃(M:Mem),m≤M∧∃(X:List Ow),St M ((bx pb0 [vU r.1.1,vU r.1.2.1,vU r.1.2.2] 198)::(X++As)) w'∧v= .tuple #[]∧R r.2 M X:=by
 unfold Cx at hm;have L0:=Mem.rfl' m;refine C9 (args:=[pt pb0 0,f1]) Tryz.func217 rfl Tryz.ntmps217 (Nat.le_of_ble_eq_true rfl) ?_;refine Ag ?_;refine Ae ?_;refine Ar (v:=pt pb0 0) rfl ?_;refine Ar (v:=vI 0) rfl ?_;refine Ah ?_;refine nrm ?_;obtain⟨x1,q1,hm⟩:=Aa hm;have L1:=Mem.rfl' m;refine Nv ?_;refine A8 [4,5,7,8,9,10,11,12,13,14,15,16,17,18,19,20,21] (fun f' w'=> ∃(M1:Mem) (X2:List Ow),m≤M1∧St M1 ((bx pb0 [vU x1.1,vU x1.2.1,vU x1.2.2.1] 198)::(X2++As)) w'∧R x1.2.2.2 M1 X2∧Cl f' []) ?_ ?_
 ·refine Az ?_;refine B4 [4,5,7,8,9,10,11,12,13,14,15,16,17,18,19,20,21] (fun n1 f' w'=> ∃(i1:Nat) (s1:UInt64×UInt64×UInt64×σ) (m17:Mem) (X1:List Ow),n1=3-i1∧i1≤3∧Dh (DU p1) (3-i1) (i1:Int) s1=some x1∧m≤m17∧St m17 ((bx pb0 [vU s1.1,vU s1.2.1,vU s1.2.2.1] 198)::(X1++As)) w'∧R s1.2.2.2 m17 X1∧Cl f' [(7,vI (i1:Int))]) 3 ⟨0,(a0.1,a0.2.1,a0.2.2,s0),m,_,rfl,Nat.zero_le _,q1,L1,S,hX0,⟨rfl,trivial⟩⟩ ?_;rintro n1 f1 w1 ho ⟨i1,s1,m1,X1,hn,hi,q2,L3,S1,h1,ha⟩;obtain⟨u1,rfl⟩:=B3 (N:=22) ho ha;clear ho ha;have L2:=Mem.rfl' m1;clear S;refine Ag ?_;refine Ae ?_;refine KO (m:=(i1:Int)) (n:=3) rfl rfl ?_;refine Ah ?_;refine nrm ?_;refine Ag ?_;refine Cz (t:=decide ((i1:Int)<(3:Int))) rfl (fun hc1=> ?_) (fun hc1=> ?_)
  ·have hlt1:i1<3:=by have:=of_decide_eq_true hc1; omega
   obtain⟨y1,q4,q3⟩:=Iw q2 hlt1;unfold DU at q4;refine A6 ?_;refine nrm ?_;refine Ag ?_;refine Az ?_;refine Ag ?_;obtain⟨x3,q6,q4⟩:=Aa q4;have HM:HD [(9,fv (vI (i1:Int))),(10,fv (pt pb0 0)),(11,fv (pt pb0 (0+(i1:Int).toNat*1))),(12,fv (vU x3)),(4,fv (vI (i1:Int)))]:=⟨mv,mv,mv,mv,mv,trivial⟩;refine JW HM 5 XM rfl rfl rfl [4,9,10,11,12] (fun L f M w=>St M ((bx pb0 [vU s1.1,vU s1.2.1,vU s1.2.2.1] 198)::(X1++As)) w) (St.drew S1 _) ?_ ?_
   ·refine⟨?_,?_,?_,?_,?_,trivial⟩
    ·exact flp HM rfl [] (fun _ _=>trivial) (fun _ _ q=>Ar (v:=vI (i1:Int)) rfl q) rfl
    ·exact flp HM rfl [] (fun _ _=>trivial) (fun _ _ q=>WX rfl q) rfl
    ·exact flp HM rfl [(10,_)] (fun K _=>⟨K 1 rfl,trivial⟩) (fun _ _ q=>IF (i:=(i1:Int)) rfl rfl Tryz.underlying198 Tryz.sizeOf22 (CS q6).1 (CS q6).2 q) rfl
    ·exact flp HM rfl [(11,_)] (fun K _=>⟨K 2 rfl,trivial⟩) (fun _ S5 q=>H8 (i:=0) (off:=0+(i1:Int).toNat*1) (cs:=[vU x3]) S5 rfl rfl Tryz.isAgg22 Tryz.sizeOf22 (by rcases V8 q6 with ⟨h,h'⟩|⟨h,h'⟩|⟨h,h'⟩<;>(rw[h,h']; rfl)) (fun _=>rfl) q) rfl
    ·exact flp HM rfl [(9,_)] (fun K _=>⟨K 0 rfl,trivial⟩) (fun _ _ q=>A4 (v:=vI (i1:Int)) rfl q) rfl
   intro L f7 w7 hall ⟨m7,L14,S7,K,hO⟩;have d4:L 4=true:=hall 4 (by decide);have e4:=K 4 d4;have d3:L 3=true:=hall 3 (by decide);have e5:=K 3 d3;obtain⟨u7,rfl⟩:=B3 (N:=22) (L:=[(4,vI (i1:Int)),(12,vU x3)]) hO ⟨e4,e5,trivial⟩;replace S7:St _ ((bx pb0 [vU s1.1,vU s1.2.1,vU s1.2.2.1] 198)::(X1++As)) _:=S7;replace h1:=hup L14 h1;replace L2:=Mem.tr L2 L14;clear S1;refine A4 (v:=vU x3) rfl ?_;refine Ah ?_;refine nrm ?_;obtain⟨x4,q7,q4⟩:=Aa q4;have HM:HD [(13,fv (pt pb0 0)),(14,fv (vI (i1:Int))),(15,fv f1),(16,fv (vI (i1:Int))),(17,fv (vU x3)),(18,fv (vU x4.1)),(19,fv (pt pb0 0))]:=⟨mv,mv,mv,mv,mv,mv,mv,trivial⟩;refine JW HM 7 XM rfl rfl rfl [13,14,15,16,17,18,19] (fun L f M w=> ∃(X3:List Ow),((L 5=false→R s1.2.2.2 M X3)∧(L 5=true→R x4.2 M X3))∧St M ((bx pb0 [vU s1.1,vU s1.2.1,vU s1.2.2.1] 198)::(X3++As)) w) (⟨X1,⟨fun _=>h1,fun hx=>ff hx⟩,St.drew S7 _⟩) ?_ ?_
   ·refine⟨?_,?_,?_,?_,?_,?_,?_,trivial⟩
    ·exact flp HM rfl [] (fun _ _=>trivial) (fun _ _ q=>Ar (v:=pt pb0 0) rfl q) rfl
    ·exact flp HM rfl [] (fun _ _=>trivial) (fun _ _ q=>Ar (v:=vI (i1:Int)) rfl q) rfl
    ·exact flp HM rfl [] (fun _ _=>trivial) (fun _ _ q=>Ar (v:=f1) rfl q) rfl
    ·exact flp HM rfl [] (fun _ _=>trivial) (fun _ _ q=>Ar (v:=vI (i1:Int)) rfl q) rfl
    ·exact flp HM rfl [] (fun _ _=>trivial) (fun _ _ q=>Ar (v:=vU x3) rfl q) rfl
    ·intro L f13 w13 hL hd hc ⟨m13,L25,⟨X3,C6,S13⟩,K,hO⟩;have d2:L 2=true:=dep hd rfl;have e6:=K 2 d2;have d3:L 3=true:=dep hd rfl;have e7:=K 3 d3;have d4:L 4=true:=dep hd rfl;have e8:=K 4 d4;have d5:L 5=false:=hL;obtain⟨u13,rfl⟩:=B3 (N:=22) (L:=[(15,f1),(16,vI (i1:Int)),(17,vU x3)]) hO ⟨e6,e7,e8,trivial⟩;replace S13:St _ ((bx pb0 [vU s1.1,vU s1.2.1,vU s1.2.2.1] 198)::(X3++As)) _:=S13;have h3:=C6.1 d5;replace S13:St _ ((bx pb0 [vU s1.1,vU s1.2.1,vU s1.2.2.1] 198)::(X3++As)) _:=S13;have L26:=Mem.rfl' m13;have S14:=St.absF (L:=[bx pb0 [vU s1.1,vU s1.2.1,vU s1.2.2.1] 198]) (X:=X3) (As:=As) S13;refine HB rfl (cb1 S14 h3 q7) rfl ?_;rintro _ w14 ⟨m14,X4,l1,S15,h4,rfl⟩;replace S15:=St.absF (L:=X4) (X:=[bx pb0 [vU s1.1,vU s1.2.1,vU s1.2.2.1] 198]) (As:=As) S15;clear S14;replace L26:=Mem.tr L26 l1;replace S15:St _ ((bx pb0 [vU s1.1,vU s1.2.1,vU s1.2.2.1] 198)::(X4++As)) _:=S15;clear S13;refine wpn ?_;refine⟨m14,Mem.tr L25 L26,⟨X4,⟨fun hx=>tf rfl hx,fun _=>h4⟩,?_⟩,Jm HM rfl K L26 rfl rfl rfl,FI⟩;exact S15
    ·exact flp HM rfl [(13,_)] (fun K _=>⟨K 0 rfl,trivial⟩) (fun _ _ q=>WX rfl q) rfl
   intro L f15 w16 hall ⟨m16,L29,⟨X3,C8,S17⟩,K,hO⟩;have d1:L 1=true:=hall 1 (by decide);have e10:=K 1 d1;have d5:L 5=true:=hall 5 (by decide);have e11:=K 5 d5;have d6:L 6=true:=hall 6 (by decide);have e12:=K 6 d6;obtain⟨u15,rfl⟩:=B3 (N:=22) (L:=[(14,vI (i1:Int)),(18,vU x4.1),(19,pt pb0 0)]) hO ⟨e10,e11,e12,trivial⟩;replace S17:St _ ((bx pb0 [vU s1.1,vU s1.2.1,vU s1.2.2.1] 198)::(X3++As)) _:=S17;have h5:=C8.2 d5;replace S17:St _ ((bx pb0 [vU s1.1,vU s1.2.1,vU s1.2.2.1] 198)::(X3++As)) _:=S17;replace L2:=Mem.tr L2 L29;clear S7;obtain⟨x5,q8,q4⟩:=Aa q4;refine IF (i:=(i1:Int)) rfl rfl Tryz.underlying198 Tryz.sizeOf22 (CS q8).1 (CS q8).2 ?_;obtain⟨x6,q9,q4⟩:=CU q4;obtain⟨x7,q10,q4⟩:=CU q4;obtain⟨x8,q11,q4⟩:=CU q4;refine Zp (i:=0) (off:=0+(i1:Int).toNat*1) S17 rfl rfl rfl Tryz.sizeOf22 (Uv.all (Jo rfl MD)) (by rcases V8 q8 with ⟨h,h'⟩|⟨h,h'⟩|⟨h,h'⟩<;>(rw[h]; exact Nat.le_of_ble_eq_true rfl)) ?_;intro w17 S18;replace S18:=St.cellsTo (i:=0) (l':=[vU x6,vU x7,vU x8]) S18 (by rcases V8 q8 with ⟨h,h'⟩|⟨h,h'⟩|⟨h,h'⟩<;>(simp only[q9,q10,q11,h]; rfl)) rfl;replace S18:St _ ((bx pb0 [vU x6,vU x7,vU x8] 198)::(X3++As)) _:=S18;clear S17;refine Ah ?_;refine MF ?_;refine nrm ?_;refine Ae ?_;refine FA (m:=(i1:Int)) (n:=1) rfl rfl ?_;refine Ar (v:=vI (w64 ((i1:Int)+1))) rfl ?_;refine Ah ?_;refine nrm ?_;have e0:=Option.some.inj q4;subst e0;exact⟨FI,_,(by omega),⟨i1+1,(x6,x7,x8,x4.2),m16,_,rfl,hlt1,q3,Mem.tr L3 L2,S18,h5,⟨congrArg (Value.int .i64) (Bx hlt1 (by decide)),trivial⟩⟩⟩
  have hlt1: ¬i1<3:=by have:=of_decide_eq_false hc1; omega
  have e:=Eq.symm (Hk q2 hlt1);subst e;refine CV ?_;refine thE ?_;refine thE ?_;refine exB ?_;refine nrm ?_;exact⟨FI,m1,_,Mem.tr L3 L2,S1,h1,trivial⟩
 rintro f16 w18 ho ⟨m18,X2,l2,S19,h2,ha⟩;obtain⟨u16,rfl⟩:=B3 (N:=22) ho ha;clear ho ha;replace L0:=Mem.tr L0 l2;clear S;refine V2 ?_;intro we hpd;replace S19:=St.pd S19 hpd;have e0:=Option.some.inj hm;subst e0;exact IW [] rfl trivial ⟨_,L0,_,S19,rfl,h2⟩
end Go.Proofs.YtbajlmaijjcbmaaGreatDoor
