/- The walks of some functions, by the executor, written by program. Conditions: none. -/
import Derived.Test.YtbajlmaijjcbmaaGreatDoorZf
set_option linter.unusedSimpArgs false
set_option linter.unusedVariables false
set_option maxHeartbeats 20000000
set_option maxRecDepth 100000
namespace Go.Proofs.YtbajlmaijjcbmaaGreatDoor
open Go Go.Gw Go.Ax Tryz
def DO (a0:List UInt8):Option Bool:=Ac (gu ((a0.length:Int)==1) (idx a0 0)) fun x1=>Ac (gu (((a0.length:Int)==1)&&(!((x1.toNat:Int)==0))) (idx a0 0)) fun x2=>bnd ((((a0.length:Int)==1)&&(((x1.toNat:Int)==0)||((x2.toNat:Int)==255)))) fun x3=>some x3
theorem PT {a0:List UInt8}{r:Bool}(hm:DO a0=some r):Sf prog 252 [sl eB a0] (.d (.t r)):=
 sp call252 func252 rfl ntmps252 rfl fun D0 As η0 m0 hd=>by
  unfold DO at hm;obtain⟨x1,q1,hm⟩:=Aa hm;refine Kk (k:=1) (E:=eB) (fun _=>rfl) (fun h=>DX h q1) (by kernel_rfl) ?_;obtain⟨x2,q2,hm⟩:=Aa hm;refine Kk (k:=1) (E:=eB) (fun _=>rfl) (fun h=>DX h q2) (by kernel_rfl) ?_;have hm:=AE hm;let x3:Bool:=((((a0.length:Int)==1)&&(((x1.toNat:Int)==0)||((x2.toNat:Int)==255))));have e0:=Option.some.inj hm;subst e0;exact Au hd (by kernel_rfl)
def Fh (a0:List UInt8):Option Bool:=if((a0.length:Int)==0)=true then some false else if((a0.length:Int)==1)=true then some true else Ac (idx a0 1) fun x1=>Ac (gu (decide ((a0.length:Int)≤8)) (idx a0 0)) fun x2=>bnd (((decide ((a0.length:Int)≤8))&&((x2.toNat:Int) !=((toB (-((Vw x1 7).toNat:Int))).toNat:Int)))) fun x3=>some x3
theorem Nr {a0:List UInt8}{r:Bool}(hm:Fh a0=some r):Sf prog 157 [sl eB a0] (.d (.t r)):=
 sp call157 func157 rfl ntmps157 rfl fun D0 As η0 m0 hd=>by
  unfold Fh at hm;refine gi hm (by kernel_rfl) (fun hc1 hm=> ?_) fun hc1 hm=> ?_
  ·skip;have e0:=Option.some.inj hm;subst e0;exact Au hd (by kernel_rfl)
  refine gi hm (by kernel_rfl) (fun hc2 hm=> ?_) fun hc2 hm=> ?_
  ·skip;have e0:=Option.some.inj hm;subst e0;exact Au hd (by kernel_rfl)
  obtain⟨x1,q1,hm⟩:=Aa hm;refine Hc (k:=1) (E:=eB) (fun _=>rfl) (fun _=>q1) (by kernel_rfl) ?_;obtain⟨x2,q2,hm⟩:=Aa hm;refine Kk (k:=1) (E:=eB) (fun _=>rfl) (fun h=>DX h q2) (by kernel_rfl) ?_;have hm:=AE hm;let x3:Bool:=(((decide ((a0.length:Int)≤8))&&((x2.toNat:Int) !=((toB (-((Vw x1 7).toNat:Int))).toNat:Int))));have e0:=Option.some.inj hm;subst e0;exact Au hd (by kernel_rfl)
theorem SM {m:Mem}{As:List Ow}{w:World}{a0:List UInt8}{a0v0:Value}{r:Bool}(S:St m As w)(a0h0:SlR m a0v0 a0)(hm:Fh a0=some r):
  Aw prog 157 #[a0v0] w fun v w'=> ∃(M:Mem),m≤M∧St M (As) w'∧v=vb r:=by
 refine Aw.mono ((Nr hm).2 none0 m As w [a0v0] (.cons (.d (Br.toS Br.b a0h0)) .nil) (fun n h=>absurd rfl h) S) ?_;rintro v w' ⟨M,η',r',obs',n1,hle,_,⟨rfl,rfl,rfl⟩,hdom,hR,S'⟩;obtain rfl:=hR.t_inv;exact⟨M,hle,S',rfl⟩
def Jc (a0:List UInt8):Option Bool:=some true
theorem PR {a0:List UInt8}{r:Bool}(hm:Jc a0=some r):Sf prog 253 [sl eB a0] (.d (.t r)):=
 sp call253 func253 rfl ntmps253 rfl fun D0 As η0 m0 hd=>by
  unfold Jc at hm;have e0:=Option.some.inj hm;subst e0;exact Au hd (by kernel_rfl)
def FZ (a0:UInt8):Option Bool:=bnd (((decide ((a0.toNat:Int)<32))||(decide ((a0.toNat:Int)>126)))) fun x1=>some x1
theorem Ns {a0:UInt8}{r:Bool}(hm:FZ a0=some r):Sf prog 256 [.d (.b a0)] (.d (.t r)):=
 sp call256 func256 rfl ntmps256 rfl fun D0 As η0 m0 hd=>by
  unfold FZ at hm;have hm:=AE hm;let x1:Bool:=(((decide ((a0.toNat:Int)<32))||(decide ((a0.toNat:Int)>126))));have e0:=Option.some.inj hm;subst e0;exact Au hd (by kernel_rfl)
def An (a0:List UInt8)(i1:Int)(s1:Unit):Option ((Unit)⊕Int):=Ac (idx a0 (i1:Int)) fun x3=>Ac (FZ x3) fun x4=>if x4=true then some (.inr (i1:Int))else some (.inl ())
def Bn (a0:List UInt8):Option Int:=Ac (F8 (An a0) a0.length 0 ()) fun x1=>match x1 with| .inr r=>some r| .inl y1=>some (-1)
theorem FA {a0:List UInt8}{r:Int}(hm:Bn a0=some r):Sf prog 258 [sl eB a0,.fn (.func 256) [] []] (.d (.i r)):=
 sp call258 func258 rfl ntmps258 rfl fun D0 As η0 m0 hd=>by
  unfold Bn at hm;obtain⟨x1,q1,hm⟩:=Aa hm;refine Pb 0 (E:=eB) (xs:=a0) 6 (by kernel_rfl) fun hle1=> ?_;refine gjU 0 (fun(y1:Unit)=>⟨[],[],[],0⟩) (fun y1=>x1= .inl y1) (by kernel_rfl) (fun Jp bk1=> ?_) fun y1 hy=> ?_
  ·refine gl hd (fun(p:Int×(Unit))=>let (p0,_):=p; ⟨[(0,sl eB a0),(1,.fn (.func 256) [] []),(7,.d (.i (a0.length:Int))),(8,.d (.i p0))],[],[],0⟩) (fun p=> ∃i:Nat,p.1=(i:Int)∧i≤a0.length∧F8 (An a0) (a0.length-i) (i:Int) p.2=some x1) (fun p=>a0.length-p.1.toNat) (0,()) ⟨0,rfl,Nat.zero_le _,q1⟩ (by kernel_rfl) ?_;rintro⟨_,s1⟩ ⟨i1,rfl,hi,q2⟩ Jl bl1;refine gi' (b:=decide ((i1:Int)<(a0.length:Int))) (by kernel_rfl) (fun hc2=> ?_) fun hc2=> ?_
   ·have hlt1:i1<a0.length:=by have:=of_decide_eq_true hc2; omega
    obtain⟨y2,q4,q3⟩:=Hp q2 hlt1;unfold An at q4;obtain⟨x3,q6,q4⟩:=Aa q4;refine Hc (k:=1) (E:=eB) (fun _=>rfl) (fun _=>q6) (by kernel_rfl) ?_;obtain⟨x4,q7,q4⟩:=Aa q4;refine gc (fun _=>Ns q7) (by kernel_rfl) ?_;refine gi q4 (by kernel_rfl) (fun hc1 q4=> ?_) fun hc1 q4=> ?_
    ·skip;cases q4;rcases q3 with ⟨sn,e,_⟩|⟨tn,e,e2⟩
     ·cases e
     cases e;cases e2;dsimp only at hm;have e0:=Option.some.inj hm;subst e0;exact Au hd (by kernel_rfl)
    have e0:=Option.some.inj q4;subst e0;rcases q3 with ⟨sn,e,q3'⟩|⟨tn,e,_⟩
    ·have e:=Sum.inl.inj e;subst e;exact gb bl1 hd (w64 ((i1:Int)+1),_) ⟨⟨i1+1,Bf hlt1 hle1,by omega,q3'⟩,H8 hlt1 hle1⟩ (by kernel_rfl)
    cases AN e
   have hlt1: ¬i1<a0.length:=by have:=of_decide_eq_false hc2; omega
   have e:=F7 q2 hlt1;cases e;exact gb bk1 hd _ rfl (by kernel_rfl)
  subst hy;dsimp only at hm;have e0:=Option.some.inj hm;subst e0;exact Au hd (by kernel_rfl)
def Bc (a0:List UInt8):Option Bool:=Ac (Bn a0) fun x1=>some (decide (x1≥0))
theorem EV {a0:List UInt8}{r:Bool}(hm:Bc a0=some r):Sf prog 255 [sl eB a0,.fn (.func 256) [] []] (.d (.t r)):=
 sp call255 func255 rfl ntmps255 rfl fun D0 As η0 m0 hd=>by
  unfold Bc at hm;obtain⟨x1,q1,hm⟩:=Aa hm;refine gc (fun _=>FA q1) (by kernel_rfl) ?_;have e0:=Option.some.inj hm;subst e0;exact Au hd (by kernel_rfl)
def F0 (a0:List UInt8):Option Bool:=Ac (Bc a0) fun x1=>some (!x1)
theorem PQ {a0:List UInt8}{r:Bool}(hm:F0 a0=some r):Sf prog 254 [sl eB a0] (.d (.t r)):=
 sp call254 func254 rfl ntmps254 rfl fun D0 As η0 m0 hd=>by
  unfold F0 at hm;obtain⟨x1,q1,hm⟩:=Aa hm;refine gc (fun _=>EV q1) (by kernel_rfl) ?_;have e0:=Option.some.inj hm;subst e0;exact Au hd (by kernel_rfl)
def FY (a0:List UInt8):Option Bool:=some ((a0.length:Int)==0)
theorem PO {a0:List UInt8}{r:Bool}(hm:FY a0=some r):Sf prog 257 [sl eB a0] (.d (.t r)):=
 sp call257 func257 rfl ntmps257 rfl fun D0 As η0 m0 hd=>by
  unfold FY at hm;have e0:=Option.some.inj hm;subst e0;exact Au hd (by kernel_rfl)
def Dz (a0:Bool):Option Int:=if a0=true then some 0 else some 110
theorem Mp {a0:Bool}{r:Int}(hm:Dz a0=some r):Sf prog 45 [.d (.t a0)] (.d (.i r)):=
 sp call45 func45 rfl ntmps45 rfl fun D0 As η0 m0 hd=>by
  unfold Dz at hm;refine gi hm (by kernel_rfl) (fun hc1 hm=> ?_) fun hc1 hm=> ?_
  ·skip;have e0:=Option.some.inj hm;subst e0;exact Au hd (by kernel_rfl)
  have e0:=Option.some.inj hm;subst e0;exact Au hd (by kernel_rfl)
def AZ (a0:ByteArray)(a1:UInt8):Option Int:=some (Aap a0 a1)
theorem Gf {a0:ByteArray}{a1:UInt8}{r:Int}(hm:AZ a0 a1=some r):Sf prog 223 [.d (.s a0),.d (.b a1)] (.d (.i r)):=
 sp call223 func223 rfl ntmps223 rfl fun D0 As η0 m0 hd=>by
  unfold AZ at hm;refine gext (F:=Aap) (p:=a0) (q:=a1) func232 (extIxb (by kernel_rfl) (by kernel_rfl) (by kernel_rfl) (by kernel_rfl)) (by kernel_rfl) ?_;have e0:=Option.some.inj hm;subst e0;exact Au hd (by kernel_rfl)
def AU (a0:ByteArray)(a1:ByteArray):Option Int:=bnd ((((a1.size:Int)==0)||(eqS a1 a0))) fun x1=>if x1=true then some 0 else if((a1.size:Int)==1)=true then Ac (idx a1.data.toList 0) fun x2=>Ac (AZ a0 x2) fun x3=>some x3 else bnd ((decide ((a1.size:Int)≥(a0.size:Int)))) fun x4=>if x4=true then some (-1)else none
theorem D6 {a0:ByteArray}{a1:ByteArray}{r:Int}(hm:AU a0 a1=some r):Sf prog 211 [.d (.s a0),.d (.s a1)] (.d (.i r)):=
 sp call211 func211 rfl ntmps211 rfl fun D0 As η0 m0 hd=>by
  unfold AU at hm;have hm:=AE hm;let x1:Bool:=((((a1.size:Int)==0)||(eqS a1 a0)));refine gi hm (by kernel_rfl) (fun hc1 hm=> ?_) fun hc1 hm=> ?_
  ·skip;have e0:=Option.some.inj hm;subst e0;exact Au hd (by kernel_rfl)
  refine gi hm (by kernel_rfl) (fun hc2 hm=> ?_) fun hc2 hm=> ?_
  ·skip;obtain⟨x2,q2,hm⟩:=Aa hm;refine TA (fun _=>q2) (by kernel_rfl) ?_;obtain⟨x3,q3,hm⟩:=Aa hm;refine gc (fun _=>Gf q3) (by kernel_rfl) ?_;have e0:=Option.some.inj hm;subst e0;exact Au hd (by kernel_rfl)
  have hm:=AE hm;let x4:Bool:=((decide ((a1.size:Int)≥(a0.size:Int))));refine gi hm (by kernel_rfl) (fun hc3 hm=> ?_) fun hc3 hm=> ?_
  ·skip;have e0:=Option.some.inj hm;subst e0;exact Au hd (by kernel_rfl)
  cases hm
def By (a0:ByteArray)(a1:ByteArray):Option Int:=Ac (AU a0 a1) fun x1=>some x1
theorem Nc {a0:ByteArray}{a1:ByteArray}{r:Int}(hm:By a0 a1=some r):Sf prog 187 [.d (.s a0),.d (.s a1)] (.d (.i r)):=
 sp call187 func187 rfl ntmps187 rfl fun D0 As η0 m0 hd=>by
  unfold By at hm;obtain⟨x1,q1,hm⟩:=Aa hm;refine gc (fun _=>D6 q1) (by kernel_rfl) ?_;have e0:=Option.some.inj hm;subst e0;exact Au hd (by kernel_rfl)
theorem NB {m:Mem}{As:List Ow}{w:World}{a0:ByteArray}{a1:ByteArray}{r:Int}(S:St m As w)(hm:By a0 a1=some r):
  Aw prog 187 #[vS a0,vS a1] w fun v w'=> ∃(M:Mem),m≤M∧St M (As) w'∧v=vI r:=by
 refine Aw.mono ((Nc hm).2 none0 m As w [vS a0,vS a1] (.cons (.d (.s _)) (.cons (.d (.s _)) .nil)) (fun n h=>absurd rfl h) S) ?_;rintro v w' ⟨M,η',r',obs',n1,hle,_,⟨rfl,rfl,rfl⟩,hdom,hR,S'⟩;obtain rfl:=hR.i_inv;exact⟨M,hle,S',rfl⟩
def Eg (a0:ByteArray)(a1:ByteArray):Option Int:=if((a1.size:Int)==0)=true then none else if((a1.size:Int)==1)=true then Ac (idx a1.data.toList 0) fun x1=>some (cntS a0 x1)else none
theorem Nf {a0:ByteArray}{a1:ByteArray}{r:Int}(hm:Eg a0 a1=some r):Sf prog 139 [.d (.s a0),.d (.s a1)] (.d (.i r)):=
 sp call139 func139 rfl ntmps139 rfl fun D0 As η0 m0 hd=>by
  unfold Eg at hm;refine gi hm (by kernel_rfl) (fun hc1 hm=> ?_) fun hc1 hm=> ?_
  ·cases hm
  refine gi hm (by kernel_rfl) (fun hc2 hm=> ?_) fun hc2 hm=> ?_
  ·skip;obtain⟨x1,q1,hm⟩:=Aa hm;refine TA (fun _=>q1) (by kernel_rfl) ?_;refine gext (F:=cntS) (p:=a0) (q:=x1) func186 (extCnt (by kernel_rfl) (by kernel_rfl) (by kernel_rfl) (by kernel_rfl)) (by kernel_rfl) ?_;have e0:=Option.some.inj hm;subst e0;exact Au hd (by kernel_rfl)
  cases hm
theorem NC {m:Mem}{As:List Ow}{w:World}{a0:ByteArray}{a1:ByteArray}{r:Int}(S:St m As w)(hm:Eg a0 a1=some r):
  Aw prog 139 #[vS a0,vS a1] w fun v w'=> ∃(M:Mem),m≤M∧St M (As) w'∧v=vI r:=by
 refine Aw.mono ((Nf hm).2 none0 m As w [vS a0,vS a1] (.cons (.d (.s _)) (.cons (.d (.s _)) .nil)) (fun n h=>absurd rfl h) S) ?_;rintro v w' ⟨M,η',r',obs',n1,hle,_,⟨rfl,rfl,rfl⟩,hdom,hR,S'⟩;obtain rfl:=hR.i_inv;exact⟨M,hle,S',rfl⟩
def DC {σ:Type}(k1:ByteArray)(s1:Unit):Option ((Unit)⊕((Unit)⊕(ByteArray×ByteArray×Int×σ))):=if(decide ((k1.size:Int)>0))=true then none else some (.inr (.inl ()))
def Az {σ:Type}(p0:σ→ByteArray→Option (Bool×σ))(k0:ByteArray)(k2:Int)(s2:ByteArray×σ):Option ((ByteArray×σ)⊕((ByteArray×σ)⊕(ByteArray×ByteArray×Int×σ))):=Ac (By s2.1 k0) fun x5=>if(decide (x5<0))=true then some (.inr (.inl (s2.1,s2.2)))else Ac (Mh s2.1 0 (w64 (x5+k2))) fun x6=>Ac (p0 s2.2 x6) fun x7=>if(!x7.1)=true then some (.inr (.inr (k0,s2.1,k2,x7.2)))else Ac (Mh s2.1 (w64 (x5+(k0.size:Int))) (s2.1.size:Int)) fun x8=>some (.inl (x8,x7.2))
def A1 {σ:Type}(p0:σ→ByteArray→Option (Bool×σ))(k0:ByteArray)(k1:ByteArray)(k2:Int)(s0:σ):Option (ByteArray×ByteArray×Int×σ):=
 if((k0.size:Int)==0)=true then
  Ac (iter (DC k1) A0 ()) fun x1=>match x1 with
  | .inr r=>some r
  | .inl y1=>
  some (k0,k1,k2,s0)
 else
 Ac (iter (Az p0 k0 k2) A0 (k1,s0)) fun x3=>match x3 with
 | .inr r=>some r
 | .inl y3=>
 Ac (p0 y3.2 y3.1) fun x9=>
 some (k0,y3.1,k2,x9.2)
theorem Ki {m:Mem}{As:List Ow}{w:World}{σ:Type}{R:σ→Mem→List Ow→Prop}{p0:σ→ByteArray→Option (Bool×σ)}{f0:Value}{kb0:Nat}{k0:ByteArray}{kb1:Nat}{k1:ByteArray}{kb2:Nat}{k2:Int}{s0:σ}{X0:List Ow}{r:ByteArray×ByteArray×Int×σ}(S:St m ((bx kb0 [vS k0] 9)::(bx kb1 [vS k1] 9)::(bx kb2 [vI k2] 3)::(X0++As)) w)(hup: ∀{s M M' X},M≤M'→R s M X→R s M' X)(hX0:R s0 m X0)(cb0: ∀{m':Mem} {As':List Ow} {w':World} {s:σ} {X:List Ow} {b0:ByteArray} {r:Bool×σ},St m' (X++As') w'→R s m' X→p0 s b0=some r→Ed Tryz.prog f0 [vS b0] w' fun v w''=> ∃(M:Mem) (X':List Ow),m'≤M∧St M (X'++As') w''∧R r.2 M X'∧v=vb r.1)(fc0:f0.cells= #[f0])(hm:A1 p0 k0 k1 k2 s0=some r):
  Aw Tryz.prog 212 #[f0,pt kb0 0,pt kb1 0,pt kb2 0] w fun v w'=> ∃(M:Mem),m≤M∧∃(X:List Ow),St M ((bx kb0 [vS r.1] 9)::(bx kb1 [vS r.2.1] 9)::(bx kb2 [vI r.2.2.1] 3)::(X++As)) w'∧v= .tuple #[]∧R r.2.2.2 M X:=by
 unfold A1 at hm;have L0:=Mem.rfl' m;refine CP (args:=[f0,pt kb0 0,pt kb1 0,pt kb2 0]) Tryz.func212 rfl Tryz.ntmps212 (Nat.le_of_ble_eq_true rfl) ?_;refine Ag ?_;refine Ag ?_;refine Ad ?_;refine HE (i:=0) (cs:=[vS k0]) S rfl rfl Tryz.isAgg9 Tryz.sizeOf9 rfl (fun _=>rfl) ?_;refine RE (s:=k0) rfl Tryz.underlying9 ?_;refine s_eql (m:=(k0.size:Int)) (n:=0) rfl rfl ?_;refine Ah ?_;refine nrm ?_;refine Cq (t:=((k0.size:Int)==0)) rfl (fun hc1=> ?_) (fun hc1=> ?_)
 ·replace hm:=ifT hc1 hm;refine Ag ?_;obtain⟨x1,q1,hm⟩:=Aa hm;have L1:=Mem.rfl' m;refine AT [5,6,12,13,14,15,16,17,18,19,20,21,22,23,24,25,26,27,28] (fun f' w'=> ∃(M1:Mem) (y1:Unit),x1= .inl y1∧m≤M1∧St M1 ((bx kb0 [vS k0] 9)::(bx kb1 [vS k1] 9)::(bx kb2 [vI k2] 3)::(X0++As)) w'∧Cb f' []) ?_ ?_
  ·refine Av ?_;refine BT [5,6,12,13,14,15,16,17,18,19,20,21,22,23,24,25,26,27,28] (fun n1 f' w'=> ∃(s1:Unit) (m2:Mem),iter (DC k1) n1 s1=some x1∧m≤m2∧St m2 ((bx kb0 [vS k0] 9)::(bx kb1 [vS k1] 9)::(bx kb2 [vI k2] 3)::(X0++As)) w'∧Cb f' []) A0 ⟨(),m,q1,L1,S,trivial⟩ ?_;rintro n1 f1 w1 ho ⟨s1,m1,q2,L3,S1,ha⟩;obtain⟨u1,rfl⟩:=BR (N:=52) ho ha;clear ho ha;replace hX0:=hup L3 hX0;have L2:=Mem.rfl' m1;clear S;cases n1 with
   |zero=>exact(Ar q2).elim
   |succ n1=>
    obtain⟨y2,q4,q3⟩:=Ao q2;unfold DC at q4;refine Ag ?_;refine Ag ?_;refine Ad ?_;refine HE (i:=1) (cs:=[vS k1]) S1 rfl rfl Tryz.isAgg9 Tryz.sizeOf9 rfl (fun _=>rfl) ?_;refine RE (s:=k1) rfl Tryz.underlying9 ?_;refine Ve (m:=(k1.size:Int)) (n:=0) rfl rfl ?_;refine Ah ?_;refine nrm ?_;refine Cq (t:=(decide ((k1.size:Int)>0))) rfl (fun hc2=> ?_) (fun hc2=> ?_)
    ·replace q4:=ifT hc2 q4;cases q4
    replace q4:=ifF hc2 q4;refine CD ?_;refine thE ?_;refine thE ?_;refine exB ?_;refine nrm ?_;have e0:=Option.some.inj q4;subst e0;rcases q3 with ⟨sn,e,_⟩|e
    ·cases e
    ·cases e;exact⟨E2,m1,_,rfl,Mem.tr L3 L2,S1,trivial⟩
  rintro f2 w2 ho ⟨m3,y1,rfl,l1,S2,ha⟩;obtain⟨u2,rfl⟩:=BR (N:=52) ho ha;clear ho ha;dsimp only at hm;replace hX0:=hup l1 hX0;replace L0:=Mem.tr L0 l1;clear S;refine Be ?_;refine thR ?_;refine D3 ?_;intro we hpd;replace S2:=St.pd S2 hpd;have e0:=Option.some.inj hm;subst e0;exact It [] rfl trivial ⟨_,L0,_,S2,rfl,hX0⟩
 replace hm:=ifF hc1 hm;refine AQ ?_;refine nrm ?_;refine Ag ?_;obtain⟨x3,q6,hm⟩:=Aa hm;have L4:=Mem.rfl' m;refine AT [7,8,29,30,31,32,33,34,35,36,37,38,39,40,41,42,43,44,45,46,47,48] (fun f' w'=> ∃(M2:Mem) (y3:ByteArray×σ) (X2:List Ow),x3= .inl y3∧m≤M2∧St M2 ((bx kb0 [vS k0] 9)::(bx kb1 [vS y3.1] 9)::(bx kb2 [vI k2] 3)::(X2++As)) w'∧R y3.2 M2 X2∧Cb f' []) ?_ ?_
 ·refine Av ?_;refine BT [7,8,29,30,31,32,33,34,35,36,37,38,39,40,41,42,43,44,45,46,47,48] (fun n2 f' w'=> ∃(s2:ByteArray×σ) (m7:Mem) (X1:List Ow),iter (Az p0 k0 k2) n2 s2=some x3∧m≤m7∧St m7 ((bx kb0 [vS k0] 9)::(bx kb1 [vS s2.1] 9)::(bx kb2 [vI k2] 3)::(X1++As)) w'∧R s2.2 m7 X1∧Cb f' []) A0 ⟨(k1,s0),m,_,q6,L4,S,hX0,trivial⟩ ?_;rintro n2 f3 w3 ho ⟨s2,m4,X1,q7,L6,S3,h1,ha⟩;obtain⟨u3,rfl⟩:=BR (N:=52) ho ha;clear ho ha;have L5:=Mem.rfl' m4;clear S;cases n2 with
  |zero=>exact(Ar q7).elim
  |succ n2=>
   obtain⟨y4,q9,q8⟩:=Ao q7;unfold Az at q9;refine Av ?_;refine Ag ?_;refine Ad ?_;refine HE (i:=1) (cs:=[vS s2.1]) S3 rfl rfl Tryz.isAgg9 Tryz.sizeOf9 rfl (fun _=>rfl) ?_;refine HE (i:=0) (cs:=[vS k0]) S3 rfl rfl Tryz.isAgg9 Tryz.sizeOf9 rfl (fun _=>rfl) ?_;obtain⟨x5,q11,q9⟩:=Aa q9;refine Cx Tryz.call187 (NB (a0:=s2.1) (a1:=k0) S3 q11) rfl ?_;rintro _ w4 ⟨m5,l2,S4,rfl⟩;replace h1:=hup l2 h1;replace L5:=Mem.tr L5 l2;clear S3;replace S4:St _ ((bx kb0 [vS k0] 9)::(bx kb1 [vS s2.1] 9)::(bx kb2 [vI k2] 3)::(X1++As)) _:=S4;refine AP (v:=vI x5) rfl ?_;refine Ah ?_;refine nrm ?_;refine Ag ?_;refine Ag ?_;refine Ad ?_;refine Ap (v:=vI x5) rfl ?_;refine Kj (m:=x5) (n:=0) rfl rfl ?_;refine Ah ?_;refine nrm ?_;refine Cq (t:=(decide (x5<0))) rfl (fun hc3=> ?_) (fun hc3=> ?_)
   ·replace q9:=ifT hc3 q9;refine CD ?_;refine thE ?_;refine exN rfl ?_;refine thE ?_;refine exB ?_;refine nrm ?_;have e0:=Option.some.inj q9;subst e0;rcases q8 with ⟨sn,e,_⟩|e
    ·cases e
    ·cases e;exact⟨E2,m5,_,_,rfl,Mem.tr L6 L5,S4,h1,trivial⟩
   replace q9:=ifF hc3 q9;refine AQ ?_;refine nrm ?_;refine Ag ?_;refine Ad ?_;refine HE (i:=1) (cs:=[vS s2.1]) S4 rfl rfl Tryz.isAgg9 Tryz.sizeOf9 rfl (fun _=>rfl) ?_;refine Ap (v:=vI x5) rfl ?_;refine HE (i:=2) (cs:=[vI k2]) S4 rfl rfl Tryz.isAgg3 Tryz.sizeOf3 rfl (fun _=>rfl) ?_;refine EW (m:=x5) (n:=k2) rfl rfl ?_;obtain⟨x6,q12,q9⟩:=Aa q9;refine Wo (s:=s2.1) (z:=x6) (l:=0) (h:=(w64 (x5+k2))) rfl Tryz.underlying9 (.inl ⟨rfl,rfl⟩) (.inr ⟨_,_,rfl,rfl⟩) q12 ?_;refine AP (v:=vS x6) rfl ?_;refine Ah ?_;refine nrm ?_;refine Ag ?_;refine Ag ?_;refine Ad ?_;refine Ap (v:=f0) rfl ?_;refine Ap (v:=vS x6) rfl ?_;obtain⟨x7,q13,q9⟩:=Aa q9;have S5:=St.absF (L:=[bx kb0 [vS k0] 9,bx kb1 [vS s2.1] 9,bx kb2 [vI k2] 3]) (X:=X1) (As:=As) S4;refine G8 rfl (cb0 S5 h1 q13) rfl ?_;rintro _ w5 ⟨m6,X3,l3,S6,h3,rfl⟩;replace S6:=St.absF (L:=X3) (X:=[bx kb0 [vS k0] 9,bx kb1 [vS s2.1] 9,bx kb2 [vI k2] 3]) (As:=As) S6;clear S5;replace L5:=Mem.tr L5 l3;replace S6:St _ ((bx kb0 [vS k0] 9)::(bx kb1 [vS s2.1] 9)::(bx kb2 [vI k2] 3)::(X3++As)) _:=S6;clear S4;refine SW rfl ?_;refine Ah ?_;refine nrm ?_;refine Cq (t:=(!x7.1)) rfl (fun hc4=> ?_) (fun hc4=> ?_)
   ·replace q9:=ifT hc4 q9;refine Be ?_;refine thR ?_;refine blR ?_;refine thR ?_;refine blR ?_;refine thR ?_;refine D3 ?_;intro we hpd;replace S6:=St.pd S6 hpd;cases q9;rcases q8 with ⟨sn,e,_⟩|e
    ·cases e
    cases e;dsimp only at hm;have e0:=Option.some.inj hm;subst e0;exact It [] rfl trivial ⟨_,(Mem.tr L0 (Mem.tr L6 L5)),_,S6,rfl,h3⟩
   replace q9:=ifF hc4 q9;refine AQ ?_;refine nrm ?_;refine Ad ?_;refine HE (i:=1) (cs:=[vS s2.1]) S6 rfl rfl Tryz.isAgg9 Tryz.sizeOf9 rfl (fun _=>rfl) ?_;refine Ap (v:=vI x5) rfl ?_;refine HE (i:=0) (cs:=[vS k0]) S6 rfl rfl Tryz.isAgg9 Tryz.sizeOf9 rfl (fun _=>rfl) ?_;refine RE (s:=k0) rfl Tryz.underlying9 ?_;refine EW (m:=x5) (n:=(k0.size:Int)) rfl rfl ?_;obtain⟨x8,q14,q9⟩:=Aa q9;refine Wo (s:=s2.1) (z:=x8) (l:=(w64 (x5+(k0.size:Int)))) (h:=(s2.1.size:Int)) rfl Tryz.underlying9 (.inr ⟨_,_,rfl,rfl⟩) (.inl ⟨rfl,rfl⟩) q14 ?_;refine IB (i:=1) S6 rfl rfl rfl Tryz.sizeOf9 (IS rfl LZ) rfl ?_;intro w6 S7;replace S7:St _ ((bx kb0 [vS k0] 9)::(bx kb1 [vS x8] 9)::(bx kb2 [vI k2] 3)::(X3++As)) _:=S7;clear S6;refine Ah ?_;refine Mb ?_;refine nrm ?_;have e0:=Option.some.inj q9;subst e0;rcases q8 with ⟨sn,e,q8'⟩|e
   ·cases e;exact⟨E2,_,Nat.lt_succ_self _,⟨_,m6,_,q8',Mem.tr L6 L5,S7,h3,trivial⟩⟩
   ·cases e
 rintro f4 w7 ho ⟨m8,y3,X2,rfl,l4,S8,h2,ha⟩;obtain⟨u4,rfl⟩:=BR (N:=52) ho ha;clear ho ha;dsimp only at hm;replace L0:=Mem.tr L0 l4;clear S;refine Ad ?_;refine Ap (v:=f0) rfl ?_;refine HE (i:=1) (cs:=[vS y3.1]) S8 rfl rfl Tryz.isAgg9 Tryz.sizeOf9 rfl (fun _=>rfl) ?_;obtain⟨x9,q15,hm⟩:=Aa hm;have S9:=St.absF (L:=[bx kb0 [vS k0] 9,bx kb1 [vS y3.1] 9,bx kb2 [vI k2] 3]) (X:=X2) (As:=As) S8;refine G8 rfl (cb0 S9 h2 q15) rfl ?_;rintro _ w8 ⟨m9,X4,l5,S10,h4,rfl⟩;replace S10:=St.absF (L:=X4) (X:=[bx kb0 [vS k0] 9,bx kb1 [vS y3.1] 9,bx kb2 [vI k2] 3]) (As:=As) S10;clear S9;replace L0:=Mem.tr L0 l5;replace S10:St _ ((bx kb0 [vS k0] 9)::(bx kb1 [vS y3.1] 9)::(bx kb2 [vI k2] 3)::(X4++As)) _:=S10;clear S8;refine Ah ?_;refine Vk ?_;intro we hpd;replace S10:=St.pd S10 hpd;have e0:=Option.some.inj hm;subst e0;exact It [] rfl trivial ⟨_,L0,_,S10,rfl,h4⟩
def FG (a0:ByteArray)(a1:ByteArray)(a2:Int):Option (ByteArray×ByteArray×Int):=some (a1,a0,a2)
theorem KW {m:Mem}{As:List Ow}{w:World}{a0:ByteArray}{a1:ByteArray}{a2:Int}{r:ByteArray×ByteArray×Int}(S:St m (As) w)(hm:FG a0 a1 a2=some r):
  Aw Tryz.prog 188 #[vS a0,vS a1,vI a2] w fun v w'=> ∃(M:Mem),m≤M∧∃(rk0_0:Nat) (rk0_1:Nat) (rk0_2:Nat),St M ((bx rk0_0 [vS r.1] 9)::(bx rk0_1 [vS r.2.1] 9)::(bx rk0_2 [vI r.2.2] 3)::As) w'∧v= .func (.func 212) #[] #[pt rk0_0 0,pt rk0_1 0,pt rk0_2 0]:=by
 unfold FG at hm;have L0:=Mem.rfl' m;refine CP (args:=[vS a0,vS a1,vI a2]) Tryz.func188 rfl Tryz.ntmps188 (Nat.le_of_ble_eq_true rfl) ?_;refine Ag ?_;refine Ad ?_;refine LV S rfl ?_;intro b1 w1 S1;replace S1:St _ ((bx b1 [vS a0] 9)::As) _:=S1;clear S;refine LV S1 rfl ?_;intro b2 w2 S2;replace S2:St _ ((bx b2 [vS a1] 9)::(bx b1 [vS a0] 9)::As) _:=S2;clear S1;refine LV S2 rfl ?_;intro b3 w3 S3;replace S3:St _ ((bx b3 [vI a2] 3)::(bx b2 [vS a1] 9)::(bx b1 [vS a0] 9)::As) _:=S3;clear S2;refine AP (v:= .nilFunc) rfl ?_;refine Ah ?_;refine nrm ?_;refine Ag ?_;refine Ad ?_;refine LU (caps:=[pt b2 0,pt b1 0,pt b3 0]) rfl ?_;refine AP (v:= .func (.func 212) #[] #[pt b2 0,pt b1 0,pt b3 0]) rfl ?_;refine Ah ?_;refine nrm ?_;refine Be ?_;refine D3 ?_;intro we hpd;replace S3:=St.pd S3 hpd;have S4:St _ ((bx b2 [vS a1] 9)::(bx b1 [vS a0] 9)::(bx b3 [vI a2] 3)::As) _:=St.perm S3 (List.Perm.trans (List.Perm.swap _ _ _) (List.Perm.cons _ (List.Perm.swap _ _ _)));have e0:=Option.some.inj hm;subst e0;exact It [_] rfl ⟨rfl,trivial⟩ ⟨_,L0,_,_,_,S4,rfl⟩
def FH (a0:ByteArray)(a1:ByteArray):Option (ByteArray×ByteArray×Int):=Ac (FG a0 a1 0) fun x1=>some (x1.1,x1.2.1,x1.2.2)
theorem KX {m:Mem}{As:List Ow}{w:World}{a0:ByteArray}{a1:ByteArray}{r:ByteArray×ByteArray×Int}(S:St m (As) w)(hm:FH a0 a1=some r):
  Aw Tryz.prog 140 #[vS a0,vS a1] w fun v w'=> ∃(M:Mem),m≤M∧∃(rk0_0:Nat) (rk0_1:Nat) (rk0_2:Nat),St M ((bx rk0_0 [vS r.1] 9)::(bx rk0_1 [vS r.2.1] 9)::(bx rk0_2 [vI r.2.2] 3)::As) w'∧v= .func (.func 212) #[] #[pt rk0_0 0,pt rk0_1 0,pt rk0_2 0]:=by
 unfold FH at hm;have L0:=Mem.rfl' m;refine CP (args:=[vS a0,vS a1]) Tryz.func140 rfl Tryz.ntmps140 (Nat.le_of_ble_eq_true rfl) ?_;refine Ag ?_;refine Ad ?_;refine AP (v:= .nilFunc) rfl ?_;refine Ah ?_;refine nrm ?_;refine Ag ?_;refine Ad ?_;refine Ap (v:=vS a0) rfl ?_;refine Ap (v:=vS a1) rfl ?_;obtain⟨x1,q1,hm⟩:=Aa hm;refine Cx Tryz.call188 (KW (a0:=a0) (a1:=a1) (a2:=0) S q1) rfl ?_;rintro _ w1 ⟨m1,l1,b1,b2,b3,S1,rfl⟩;replace L0:=Mem.tr L0 l1;clear S;replace S1:St _ ((bx b1 [vS x1.1] 9)::(bx b2 [vS x1.2.1] 9)::(bx b3 [vI x1.2.2] 3)::As) _:=S1;refine AP (v:= .func (.func 212) #[] #[pt b1 0,pt b2 0,pt b3 0]) rfl ?_;refine Ah ?_;refine nrm ?_;refine Be ?_;refine D3 ?_;intro we hpd;replace S1:=St.pd S1 hpd;have e0:=Option.some.inj hm;subst e0;exact It [_] rfl ⟨rfl,trivial⟩ ⟨_,L0,_,_,_,S1,rfl⟩
def Cu (a0:Int):Option Bool:=bnd ((((decide ((97:Int)≤a0))&&(decide (a0≤122)))||((decide ((48:Int)≤a0))&&(decide (a0≤57))))) fun x1=>some x1
theorem JB {a0:Int}{r:Bool}(hm:Cu a0=some r):Sf prog 189 [.d (.r a0)] (.d (.t r)):=
 sp call189 func189 rfl ntmps189 rfl fun D0 As η0 m0 hd=>by
  unfold Cu at hm;have hm:=AE hm;let x1:Bool:=((((decide ((97:Int)≤a0))&&(decide (a0≤122)))||((decide ((48:Int)≤a0))&&(decide (a0≤57)))));have e0:=Option.some.inj hm;subst e0;exact Au hd (by kernel_rfl)
def Cr (a0:Int):Option Bool:=Ac (gu (!(a0==45)) (Cu a0)) fun x1=>some ((a0==45)||x1)
theorem PJ {a0:Int}{r:Bool}(hm:Cr a0=some r):Sf prog 190 [.d (.r a0)] (.d (.t r)):=
 sp call190 func190 rfl ntmps190 rfl fun D0 As η0 m0 hd=>by
  unfold Cr at hm;obtain⟨x1,q1,hm⟩:=Aa hm;refine gcG (fun h=>JB (DX h q1)) (by kernel_rfl) ?_;have e0:=Option.some.inj hm;subst e0;exact Au hd (by kernel_rfl)
def AI (a0:ByteArray)(s1:Nat):Option ((Nat)⊕((Nat)⊕Bool)):=if s1<a0.size then bnd (((Utf8.decode a0 s1).1:Int)) fun x3=>Ac (gu ((s1:Int)==(w64 ((a0.size:Int)-1))) (Cu x3)) fun x4=>bnd ((((s1:Int)==(w64 ((a0.size:Int)-1)))&&x4)) fun x5=>if x5=true then some (.inl (s1+(Utf8.decode a0 s1).2))else bnd (((s1:Int)==(w64 ((a0.size:Int)-1)))) fun x6=>if x6=true then some (.inr (.inr false))else Ac (gu ((s1:Int)==0) (Cu x3)) fun x7=>bnd ((((s1:Int)==0)&&(x7||(x3==95)))) fun x8=>if x8=true then some (.inl (s1+(Utf8.decode a0 s1).2))else Ac (gu (!((s1:Int)==0)) (Cr x3)) fun x9=>if(((s1:Int)==0)||(!x9))=true then some (.inr (.inr false))else some (.inl (s1+(Utf8.decode a0 s1).2))else some (.inr (.inl s1))
def C9 (a0:ByteArray):Option Bool:=if((eqS a0 (⟨#[]⟩:ByteArray))||(decide ((a0.size:Int)>16)))=true then some false else Ac (iter (AI a0) A0 0) fun x1=>match x1 with| .inr r=>some r| .inl y1=>some true
theorem PI {a0:ByteArray}{r:Bool}(hm:C9 a0=some r):Sf prog 141 [.d (.s a0)] (.d (.t r)):=
 sp call141 func141 rfl ntmps141 rfl fun D0 As η0 m0 hd=>by
  unfold C9 at hm;refine gi hm (by kernel_rfl) (fun hc1 hm=> ?_) fun hc1 hm=> ?_
  ·skip;have e0:=Option.some.inj hm;subst e0;exact Au hd (by kernel_rfl)
  refine grng a0 (by kernel_rfl) ?_;obtain⟨x1,q1,hm⟩:=Aa hm;refine gjU 0 (fun(y1:Nat)=>⟨[(13,.ow 0)],[(0,.hp 0 (.it a0 y1))],[],1⟩) (fun y1=>x1= .inl y1) (by kernel_rfl) (fun Jp bk1=> ?_) fun y1 hy=> ?_
  ·refine gl hd (fun(p:Nat×(Nat))=>let (p0,p_0):=p; ⟨[(0,.d (.s a0)),(13,.ow 0)],[(0,.hp 0 (.it a0 p_0))],[],1⟩) (fun p=>iter (AI a0) p.1 p.2=some x1) (fun p=>p.1) (A0,0) q1 (by kernel_rfl) ?_;rintro⟨n1,s1⟩ q2 Jl bl1;cases n1 with
   |zero=>exact(Ar q2).elim
   |succ n1=>
    obtain⟨y2,q4,q3⟩:=Ao q2;unfold AI at q4;refine gnx q4 (by kernel_rfl) (fun hc2 q4=> ?_) fun hc2 q4=> ?_
    ·skip;refine gi' (b:=true) (by kernel_rfl) (fun _=> ?_) (fun h=>by cases h);have q4:=AE q4;let x3:Int:=(((Utf8.decode a0 s1).1:Int));obtain⟨x4,q7,q4⟩:=Aa q4;refine gcG (fun h=>JB (DX h q7)) (by kernel_rfl) ?_;have q4:=AE q4;let x5:Bool:=((((s1:Int)==(w64 ((a0.size:Int)-1)))&&x4));refine gi q4 (by kernel_rfl) (fun hc3 q4=> ?_) fun hc3 q4=> ?_
     ·skip;have e0:=Option.some.inj q4;subst e0;rcases q3 with ⟨sn,e,q3'⟩|e
      ·have e:=Sum.inl.inj e;subst e;exact gb bl1 hd (n1,_) ⟨q3',Nat.lt_succ_self _⟩ (by kernel_rfl)
      cases AN e
     have q4:=AE q4;let x6:Bool:=(((s1:Int)==(w64 ((a0.size:Int)-1))));refine gi q4 (by kernel_rfl) (fun hc4 q4=> ?_) fun hc4 q4=> ?_
     ·skip;cases q4;rcases q3 with ⟨sn,e,_⟩|e
      ·cases e
      cases e;dsimp only at hm;have e0:=Option.some.inj hm;subst e0;exact Au hd (by kernel_rfl)
     obtain⟨x7,q10,q4⟩:=Aa q4;refine gcG (fun h=>JB (DX h q10)) (by kernel_rfl) ?_;have q4:=AE q4;let x8:Bool:=((((s1:Int)==0)&&(x7||(x3==95))));refine gi q4 (by kernel_rfl) (fun hc5 q4=> ?_) fun hc5 q4=> ?_
     ·skip;have e0:=Option.some.inj q4;subst e0;rcases q3 with ⟨sn,e,q3'⟩|e
      ·have e:=Sum.inl.inj e;subst e;exact gb bl1 hd (n1,_) ⟨q3',Nat.lt_succ_self _⟩ (by kernel_rfl)
      cases AN e
     obtain⟨x9,q12,q4⟩:=Aa q4;refine gcG (fun h=>PJ (DX h q12)) (by kernel_rfl) ?_;refine gi q4 (by kernel_rfl) (fun hc6 q4=> ?_) fun hc6 q4=> ?_
     ·skip;cases q4;rcases q3 with ⟨sn,e,_⟩|e
      ·cases e
      cases e;dsimp only at hm;have e0:=Option.some.inj hm;subst e0;exact Au hd (by kernel_rfl)
     have e0:=Option.some.inj q4;subst e0;rcases q3 with ⟨sn,e,q3'⟩|e
     ·have e:=Sum.inl.inj e;subst e;exact gb bl1 hd (n1,_) ⟨q3',Nat.lt_succ_self _⟩ (by kernel_rfl)
     cases AN e
    refine gi' (b:=false) (by kernel_rfl) (fun h=>by cases h) (fun _=> ?_);have e0:=Option.some.inj q4;subst e0;rcases q3 with ⟨sn,e,_⟩|e
    ·cases B2 e
    have e:=Sum.inr.inj e;subst e;exact gb bk1 hd s1 rfl (by kernel_rfl)
  subst hy;dsimp only at hm;have e0:=Option.some.inj hm;subst e0;exact Au hd (by kernel_rfl)
theorem P0 {m:Mem}{As:List Ow}{w:World}{a0:ByteArray}{r:Bool}(S:St m As w)(hm:C9 a0=some r):
  Aw prog 141 #[vS a0] w fun v w'=> ∃(M:Mem),m≤M∧St M (As) w'∧v=vb r:=by
 refine Aw.mono ((PI hm).2 none0 m As w [vS a0] (.cons (.d (.s _)) .nil) (fun n h=>absurd rfl h) S) ?_;rintro v w' ⟨M,η',r',obs',n1,hle,_,⟨rfl,rfl,rfl⟩,hdom,hR,S'⟩;obtain rfl:=hR.t_inv;exact⟨M,hle,S',rfl⟩
def Bl (b6:ByteArray)(s1:(Unit)×Nat):Option ((Unit)×Nat):=Ac (C9 b6) fun x6=>if(!x6)=true then some ((),1)else some ((),0)
def BH (a0:ByteArray)(a1:Int)(a2:Int):Option Bool:=Ac (if(decide ((a0.size:Int)>a2))=true then some true else Ac (Eg a0 (⟨#[46]⟩:ByteArray)) fun x3=>some (decide (x3≥a1))) fun x2=>if x2=true then some false else Ac (FH a0 (⟨#[46]⟩:ByteArray)) fun x4=>Ac (A1 (fun(s:(Unit)×Nat) (b0:ByteArray)=>if s.2=0 then Ac (Bl b0 s) fun y=>some (y.2==0,y)else none) x4.1 x4.2.1 x4.2.2 ((),0)) fun x5=>if(x5.2.2.2).2=0 then some true else some false
theorem Rg {m:Mem}{As:List Ow}{w:World}{a0:ByteArray}{a1:Int}{a2:Int}{r:Bool}(S:St m (As) w)(hm:BH a0 a1 a2=some r):
  Aw Tryz.prog 84 #[vS a0,vI a1,vI a2] w fun v w'=> ∃(M:Mem),m≤M∧St M (As) w'∧v=vb r:=by
 unfold BH at hm;have L0:=Mem.rfl' m;refine CP (args:=[vS a0,vI a1,vI a2]) Tryz.func84 rfl Tryz.ntmps84 (Nat.le_of_ble_eq_true rfl) ?_;refine Ag ?_;refine Ad ?_;refine ES S Tryz.zeroValue4 ?_;intro b1 w1 S1;replace S1:St _ ((bx b1 [vb false] 4)::As) _:=S1;clear S;refine Ah ?_;refine nrm ?_;refine Ag ?_;refine Ag ?_;refine Ad ?_;refine Ap (v:=vS a0) rfl ?_;refine RE (s:=a0) rfl Tryz.underlying9 ?_;refine Ap (v:=vI a2) rfl ?_;refine Ve (m:=(a0.size:Int)) (n:=a2) rfl rfl ?_;refine Ap (v:=vb (decide ((a0.size:Int)>a2))) rfl ?_;obtain⟨x2,q2,hm⟩:=Aa hm;have L1:=Mem.rfl' m;refine Ps 5 [13,14,15,16,17] (fun f' w'=> ∃(M1:Mem),m≤M1∧St M1 ((bx b1 [vb false] 4)::As) w'∧Cb f' [(17,vb x2)]) ?_ ?_
 ·rcases QO (decide ((a0.size:Int)>a2))with hb1|hb1
  ·replace q2:=ifT hb1 q2;refine Gj (d:=12) rfl rfl (congrArg Value.bool hb1) ?_;refine Gj (d:=12) rfl rfl (congrArg Value.bool hb1) ?_;refine Gj (d:=12) rfl rfl (congrArg Value.bool hb1) ?_;refine Gj (d:=12) rfl rfl (congrArg Value.bool hb1) ?_;refine I0 (congrArg Value.bool hb1) rfl ?_;refine Ah (nrm ?_);have e0:=Option.some.inj q2;subst e0;exact⟨E2,m,L1,S1,⟨rfl,trivial⟩⟩
  replace q2:=ifF hb1 q2;refine E6 (d:=12) rfl rfl (congrArg Value.bool hb1) ?_;refine Ap (v:=vS a0) rfl ?_;refine E6 (d:=12) rfl rfl (congrArg Value.bool hb1) ?_;obtain⟨x3,q3,q2⟩:=Aa q2;refine Cx Tryz.call139 (NC (a0:=a0) (a1:=(⟨#[46]⟩:ByteArray)) S1 q3) rfl ?_;rintro _ w3 ⟨m2,l2,S3,rfl⟩;replace L1:=Mem.tr L1 l2;clear S1;replace S3:St _ ((bx b1 [vb false] 4)::As) _:=S3;refine E6 (d:=12) rfl rfl (congrArg Value.bool hb1) ?_;refine Ap (v:=vI a1) rfl ?_;refine E6 (d:=12) rfl rfl (congrArg Value.bool hb1) ?_;refine YM (m:=x3) (n:=a1) rfl rfl ?_;refine I1 (congrArg Value.bool hb1) rfl ?_;refine Ah (nrm ?_);have e0:=Option.some.inj q2;subst e0;exact⟨E2,m2,L1,S3,⟨rfl,trivial⟩⟩
 rintro f1 w4 ho ⟨m3,l3,S4,ha⟩;obtain⟨u1,rfl⟩:=BR (N:=24) ho ha;replace L0:=Mem.tr L0 l3;clear S1;refine Ah ?_;refine nrm ?_;refine Cq (t:=x2) rfl (fun hc1=> ?_) (fun hc1=> ?_)
 ·replace hm:=ifT hc1 hm;refine Ag ?_;refine Ad ?_;refine IB (i:=0) S4 rfl rfl rfl Tryz.sizeOf4 (IS rfl LZ) rfl ?_;intro w5 S5;replace S5:St _ ((bx b1 [vb false] 4)::As) _:=S5;clear S4;refine Ah ?_;refine nrm ?_;refine Be ?_;refine thR ?_;refine D3 ?_;intro we hpd;replace S5:=St.pd S5 hpd;have SR:=S5;obtain⟨m4,l4,S6⟩:=St.drop S5 0;replace L0:=Mem.tr L0 l4;replace S6:St _ (As) _:=S6;have e0:=Option.some.inj hm;subst e0;exact It [_] rfl ⟨Io (i:=0) (off:=0) (cs:=[vb false]) SR rfl rfl Tryz.isAgg4 Tryz.sizeOf4 rfl (fun _=>rfl),trivial⟩ ⟨_,L0,S6,rfl⟩
 replace hm:=ifF hc1 hm;refine AQ ?_;refine nrm ?_;refine Ag ?_;refine Ag ?_;refine Ad ?_;refine Ap (v:=vS a0) rfl ?_;obtain⟨x4,q4,hm⟩:=Aa hm;refine Cx Tryz.call140 (KX (a0:=a0) (a1:=(⟨#[46]⟩:ByteArray)) S4 q4) rfl ?_;rintro _ w6 ⟨m5,l5,b2,b3,b4,S7,rfl⟩;replace L0:=Mem.tr L0 l5;clear S4;replace S7:St _ ((bx b2 [vS x4.1] 9)::(bx b3 [vS x4.2.1] 9)::(bx b4 [vI x4.2.2] 3)::(bx b1 [vb false] 4)::As) _:=S7;refine Ah ?_;refine nrm ?_;refine Av ?_;obtain⟨x5,q5,hm⟩:=Aa hm;refine Fy S7 rfl Tryz.call212 ?_;intro lp1 rip2 w7 h1 S8;replace S8:St _ ((Lp lp1 rip2 .ready none)::(bx b2 [vS x4.1] 9)::(bx b3 [vS x4.2.1] 9)::(bx b4 [vI x4.2.2] 3)::(bx b1 [vb false] 4)::As) _:=S8;clear S7;have S9:St _ ((bx b2 [vS x4.1] 9)::(bx b3 [vS x4.2.1] 9)::(bx b4 [vI x4.2.2] 3)::(Lp lp1 rip2 .ready none)::(bx b1 [vb false] 4)::As) _:=St.perm S8 (List.Perm.trans (List.Perm.swap _ _ _) (List.Perm.trans (List.Perm.cons _ (List.Perm.swap _ _ _)) (List.Perm.cons _ (List.Perm.cons _ (List.Perm.swap _ _ _)))));clear S8;have hcb1: ∀{m':Mem} {As':List Ow} {w':World} {s:(Unit)×Nat} {X:List Ow} {b0:ByteArray} {r:Bool×((Unit)×Nat)},St m' (X++As') w'→(m5≤m'∧(((s).2=0∧X=Lp lp1 rip2 .ready none::(bx b1 [vb false] 4)::[])∨((s).2=1∧X=Lp lp1 rip2 .done (some .ret)::(bx b1 [vb false] 4)::[])))→(fun(s:(Unit)×Nat) (b0:ByteArray)=>if s.2=0 then Ac (Bl b0 s) fun y=>some (y.2==0,y)else none) s b0=some r→Ed Tryz.prog (.func (.yield lp1) #[] #[]) [vS b0] w' fun v w''=> ∃(M:Mem) (X':List Ow),m'≤M∧St M (X'++As') w''∧(m5≤M∧(((r.2).2=0∧X'=Lp lp1 rip2 .ready none::(bx b1 [vb false] 4)::[])∨((r.2).2=1∧X'=Lp lp1 rip2 .done (some .ret)::(bx b1 [vb false] 4)::[])))∧v=vb r.1:=by
  intro m6 As1 w8 s1 X1 b6 r1 S10 h2 hm1;obtain⟨L3,h3⟩:=h2;rcases h3 with ⟨hj1,rfl⟩|⟨hj1,rfl⟩
  ·try dsimp only at hm1
   rw[if_pos hj1]at hm1;obtain⟨y1,q6,hm1⟩:=Aa hm1;cases hm1;unfold Bl at q6;replace S10:St _ ((Lp lp1 rip2 .ready none)::(bx b1 [vb false] 4)::As1) _:=S10;have L2:=Mem.rfl' m6;refine Ed.round h1 rfl S10 ?_;refine Ad ?_;refine AP (v:=vS b6) rfl ?_;refine Ah ?_;refine nrm ?_;refine⟨_,_,S10,?_⟩;intro w9 S11;clear S10;replace S11:St _ ((Lp lp1 rip2 .busy none)::(bx b1 [vb false] 4)::As1) _:=S11;refine Av ?_;refine Ag ?_;refine Ad ?_;refine Ap (v:=vS b6) rfl ?_;obtain⟨x6,q7,q6⟩:=Aa q6;refine Cx Tryz.call141 (P0 (a0:=b6) S11 q7) rfl ?_;rintro _ w10 ⟨m7,l6,S12,rfl⟩;replace L2:=Mem.tr L2 l6;clear S11;replace S12:St _ ((Lp lp1 rip2 .busy none)::(bx b1 [vb false] 4)::As1) _:=S12;refine SW rfl ?_;refine Ah ?_;refine nrm ?_;refine Cq (t:=(!x6)) rfl (fun hc2=> ?_) (fun hc2=> ?_)
   ·replace q6:=ifT hc2 q6;refine Ag ?_;refine Ad ?_;refine IB (i:=1) S12 rfl rfl rfl Tryz.sizeOf4 (IS rfl LZ) rfl ?_;intro w11 S13;replace S13:St _ ((Lp lp1 rip2 .busy none)::(bx b1 [vb false] 4)::As1) _:=S13;clear S12;refine Ah ?_;refine nrm ?_;refine Be ?_;refine blR ?_;refine⟨_,_,S13,?_⟩;intro w12 S14;have e0:=Option.some.inj q6;subst e0;exact⟨_,Lp lp1 rip2 .done (some .ret)::(bx b1 [vb false] 4)::[],L2,S14,⟨Mem.tr L3 L2,.inr (⟨rfl,rfl⟩)⟩,rfl⟩
   replace q6:=ifF hc2 q6;refine AQ ?_;refine Mb ?_;refine⟨_,_,S12,?_⟩;intro w13 S15;have e0:=Option.some.inj q6;subst e0;exact⟨_,Lp lp1 rip2 .ready none::(bx b1 [vb false] 4)::[],L2,S15,⟨Mem.tr L3 L2,.inl ⟨rfl,rfl⟩⟩,rfl⟩
  ·try dsimp only at hm1
   rw[if_neg (by rw[hj1]; decide)]at hm1;cases hm1
 refine Aw.mono (Ki (p0:=(fun(s:(Unit)×Nat) (b0:ByteArray)=>if s.2=0 then Ac (Bl b0 s) fun y=>some (y.2==0,y)else none)) (k0:=x4.1) (k1:=x4.2.1) (k2:=x4.2.2) (s0:=((),0)) (R:=(fun(s:(Unit)×Nat) (M:Mem) (X:List Ow)=>(m5≤M∧(((s).2=0∧X=Lp lp1 rip2 .ready none::(bx b1 [vb false] 4)::[])∨((s).2=1∧X=Lp lp1 rip2 .done (some .ret)::(bx b1 [vb false] 4)::[]))))) (X0:=((Lp lp1 rip2 .ready none)::(bx b1 [vb false] 4)::[])) (As:=As) S9 (fun l h=>by obtain⟨Lm,e⟩:=h; exact⟨Mem.tr Lm l,e⟩) ⟨Mem.rfl' _,.inl ⟨rfl,rfl⟩⟩ @hcb1 rfl q5) ?_;rintro _ w14 ⟨m8,l7,X2,S16,rfl,⟨L4,h4⟩⟩;rcases h4 with ⟨hj2,rfl⟩|⟨hj2,rfl⟩
 ·rw[if_pos hj2]at hm;replace S16:St _ ((bx b2 [vS x5.1] 9)::(bx b3 [vS x5.2.1] 9)::(bx b4 [vI x5.2.2.1] 3)::(Lp lp1 rip2 .ready none)::(bx b1 [vb false] 4)::As) _:=S16;have S17:St _ ((Lp lp1 rip2 .ready none)::(bx b2 [vS x5.1] 9)::(bx b3 [vS x5.2.1] 9)::(bx b4 [vI x5.2.2.1] 3)::(bx b1 [vb false] 4)::As) _:=St.perm S16 (List.Perm.trans (List.Perm.cons _ (List.Perm.cons _ (List.Perm.swap _ _ _))) (List.Perm.trans (List.Perm.cons _ (List.Perm.swap _ _ _)) (List.Perm.swap _ _ _)));clear S16;refine⟨_,.ready,none,_,l7,(fun h=>by cases h),S17,?_⟩;intro m9 w15 l8 S18;have l9:=Mem.tr l7 l8;replace L0:=Mem.tr L0 l9;replace S18:St _ ((bx b2 [vS x5.1] 9)::(bx b3 [vS x5.2.1] 9)::(bx b4 [vI x5.2.2.1] 3)::(bx b1 [vb false] 4)::As) _:=S18;refine Mb ?_;refine nrm ?_;refine Ag ?_;refine Ad ?_;refine IB (i:=3) S18 rfl rfl rfl Tryz.sizeOf4 (IS rfl LZ) rfl ?_;intro w16 S19;replace S19:St _ ((bx b2 [vS x5.1] 9)::(bx b3 [vS x5.2.1] 9)::(bx b4 [vI x5.2.2.1] 3)::(bx b1 [vb true] 4)::As) _:=S19;clear S18;refine Ah ?_;refine nrm ?_;refine Be ?_;refine D3 ?_;intro we hpd;replace S19:=St.pd S19 hpd;have SR:=S19;obtain⟨m10,l10,S20⟩:=St.drop S19 0;replace L0:=Mem.tr L0 l10;replace S20:St _ ((bx b3 [vS x5.2.1] 9)::(bx b4 [vI x5.2.2.1] 3)::(bx b1 [vb true] 4)::As) _:=S20;obtain⟨m11,l11,S21⟩:=St.drop S20 0;replace L0:=Mem.tr L0 l11;clear S20;replace S21:St _ ((bx b4 [vI x5.2.2.1] 3)::(bx b1 [vb true] 4)::As) _:=S21;obtain⟨m12,l12,S22⟩:=St.drop S21 0;replace L0:=Mem.tr L0 l12;clear S21;replace S22:St _ ((bx b1 [vb true] 4)::As) _:=S22;obtain⟨m13,l13,S23⟩:=St.drop S22 0;replace L0:=Mem.tr L0 l13;clear S22;replace S23:St _ (As) _:=S23;have e0:=Option.some.inj hm;subst e0;exact It [_] rfl ⟨Io (i:=3) (off:=0) (cs:=[vb true]) SR rfl rfl Tryz.isAgg4 Tryz.sizeOf4 rfl (fun _=>rfl),trivial⟩ ⟨_,L0,S23,rfl⟩
 ·rw[if_neg (show¬(x5.2.2.2).2=0 by rw[hj2]; decide)]at hm;replace S16:St _ ((bx b2 [vS x5.1] 9)::(bx b3 [vS x5.2.1] 9)::(bx b4 [vI x5.2.2.1] 3)::(Lp lp1 rip2 .done (some .ret))::(bx b1 [vb false] 4)::As) _:=S16;have S24:St _ ((Lp lp1 rip2 .done (some .ret))::(bx b2 [vS x5.1] 9)::(bx b3 [vS x5.2.1] 9)::(bx b4 [vI x5.2.2.1] 3)::(bx b1 [vb false] 4)::As) _:=St.perm S16 (List.Perm.trans (List.Perm.cons _ (List.Perm.cons _ (List.Perm.swap _ _ _))) (List.Perm.trans (List.Perm.cons _ (List.Perm.swap _ _ _)) (List.Perm.swap _ _ _)));clear S16;refine⟨_,.done,(some .ret),_,l7,(fun h=>by cases h),S24,?_⟩;intro m14 w17 l14 S25;have l15:=Mem.tr l7 l14;replace L0:=Mem.tr L0 l15;replace S25:St _ ((bx b2 [vS x5.1] 9)::(bx b3 [vS x5.2.1] 9)::(bx b4 [vI x5.2.2.1] 3)::(bx b1 [vb false] 4)::As) _:=S25;refine Be ?_;refine blR ?_;refine thR ?_;refine D3 ?_;intro we hpd;replace S25:=St.pd S25 hpd;have SR:=S25;obtain⟨m15,l16,S26⟩:=St.drop S25 0;replace L0:=Mem.tr L0 l16;replace S26:St _ ((bx b3 [vS x5.2.1] 9)::(bx b4 [vI x5.2.2.1] 3)::(bx b1 [vb false] 4)::As) _:=S26;obtain⟨m16,l17,S27⟩:=St.drop S26 0;replace L0:=Mem.tr L0 l17;clear S26;replace S27:St _ ((bx b4 [vI x5.2.2.1] 3)::(bx b1 [vb false] 4)::As) _:=S27;obtain⟨m17,l18,S28⟩:=St.drop S27 0;replace L0:=Mem.tr L0 l18;clear S27;replace S28:St _ ((bx b1 [vb false] 4)::As) _:=S28;obtain⟨m18,l19,S29⟩:=St.drop S28 0;replace L0:=Mem.tr L0 l19;clear S28;replace S29:St _ (As) _:=S29;have e0:=Option.some.inj hm;subst e0;exact It [_] rfl ⟨Io (i:=3) (off:=0) (cs:=[vb false]) SR rfl rfl Tryz.isAgg4 Tryz.sizeOf4 rfl (fun _=>rfl),trivial⟩ ⟨_,L0,S29,rfl⟩
theorem Mz {a0:ByteArray}{a1:Int}{a2:Int}{r:Bool}(hm:BH a0 a1 a2=some r):Sf prog 84 [.d (.s a0),.d (.i a1),.d (.i a2)] (.d (.t r)):=
 ⟨call84,fun η m As w vs hv0 hd S=>by
  have S:St m As w:=S;obtain⟨v0,u0,rfl,r0,hv1⟩:=Bg.cons_inv hv0;obtain rfl:=r0.s_inv;obtain⟨v1,u1,rfl,r1,hv2⟩:=Bg.cons_inv hv1;obtain rfl:=r1.i_inv;obtain⟨v2,u2,rfl,r2,hv3⟩:=Bg.cons_inv hv2;obtain rfl:=r2.i_inv;obtain rfl:=Bg.nil_inv hv3;refine Aw.mono (Rg S hm) ?_;rintro v w' ⟨M,hle,S0,rfl⟩;exact⟨M,none0,_,_,_,hle,TH hd _,⟨rfl,rfl,rfl⟩,fun n h=>absurd rfl h,(.d (.t _)),S0⟩⟩
def C2 (a0:ByteArray):Option Bool:=Ac (BH a0 8 64) fun x1=>some x1
theorem J8 {a0:ByteArray}{r:Bool}(hm:C2 a0=some r):Sf prog 46 [.d (.s a0)] (.d (.t r)):=
 sp call46 func46 rfl ntmps46 rfl fun D0 As η0 m0 hd=>by
  unfold C2 at hm;obtain⟨x1,q1,hm⟩:=Aa hm;refine gc (fun _=>Mz q1) (by kernel_rfl) ?_;have e0:=Option.some.inj hm;subst e0;exact Au hd (by kernel_rfl)
def Cs (a0:ByteArray):Option Int:=Ac (C2 a0) fun x1=>Ac (Dz x1) fun x2=>some x2
theorem K6 {a0:ByteArray}{r:Int}(hm:Cs a0=some r):Sf prog 19 [.d (.s a0)] (.d (.i r)):=
 sp call19 func19 rfl ntmps19 rfl fun D0 As η0 m0 hd=>by
  unfold Cs at hm;obtain⟨x1,q1,hm⟩:=Aa hm;refine gc (fun _=>J8 q1) (by kernel_rfl) ?_;obtain⟨x2,q2,hm⟩:=Aa hm;refine gc (fun _=>Mp q2) (by kernel_rfl) ?_;have e0:=Option.some.inj hm;subst e0;exact Au hd (by kernel_rfl)
def Dc (a0:Int):Option Bool:=bnd (((decide (a0≥0))&&(decide (a0≤1099511627776)))) fun x1=>some x1
theorem FC {a0:Int}{r:Bool}(hm:Dc a0=some r):Sf prog 93 [.d (.i a0)] (.d (.t r)):=
 sp call93 func93 rfl ntmps93 rfl fun D0 As η0 m0 hd=>by
  unfold Dc at hm;have hm:=AE hm;let x1:Bool:=(((decide (a0≥0))&&(decide (a0≤1099511627776))));have e0:=Option.some.inj hm;subst e0;exact Au hd (by kernel_rfl)
def EM (a0:g_api_Sig):Option Bool:=bnd ((decide (((NW a0.E a0.S).toNat:Int)<1152921504606845789))) fun x1=>some x1
theorem K8 {a0:g_api_Sig}{r:Bool}(hm:EM a0=some r):Sf prog 95 [ag (H2 a0)] (.d (.t r)):=
 sp call95 func95 rfl ntmps95 rfl fun D0 As η0 m0 hd=>by
  unfold EM at hm;have hm:=AE hm;let x1:Bool:=((decide (((NW a0.E a0.S).toNat:Int)<1152921504606845789)));have e0:=Option.some.inj hm;subst e0;exact Au hd (by kernel_rfl)
def AG (a0:List UInt64)(s1:UInt64×Int):Option ((UInt64×Int)⊕(UInt64)):=if(decide (s1.2<(a0.length:Int)))=true then Ac (idx a0 s1.2) fun x6=>some (.inl ((NW s1.1 x6),(w64 (s1.2+1))))else some (.inr s1.1)
def BN (a0:List UInt64):Option UInt64:=Ac (if(decide ((a0.length:Int)<1))=true then none else some ()) fun x1=>Ac (idx a0 0) fun x2=>Ac (Ac (iter (AG a0) A0 (x2,1)) fun x4=>some x4) fun x3=>some x3
theorem H4 {a0:List UInt64}{r:UInt64}(hm:BN a0=some r):Sf prog 146 [sl eU a0] (.d (.u r)):=
 sp call146 func146 rfl ntmps146 rfl fun D0 As η0 m0 hd=>by
  unfold BN at hm;obtain⟨x1,q1,hm⟩:=Aa hm;refine gj (fun(_:Unit)=>⟨[(0,sl eU a0)],[],[],0⟩) (fun _=>True) (by kernel_rfl) (fun Jp bk1=> ?_) fun _ _=> ?_
  ·refine gi q1 (by kernel_rfl) (fun hc1 q1=> ?_) fun hc1 q1=> ?_
   ·cases q1
   have e0:=Option.some.inj q1;subst e0;exact gb bk1 hd () trivial (by kernel_rfl)
  obtain⟨x2,q2,hm⟩:=Aa hm;refine Hc (k:=1) (E:=eU) (fun _=>rfl) (fun _=>q2) (by kernel_rfl) ?_;obtain⟨x3,q3,hm⟩:=Aa hm;obtain⟨x4,q4,q3⟩:=Aa q3;refine gjU 0 (fun(_:Unit)=>⟨[(3,.d (.u x3))],[],[],0⟩) (fun _=>True) (by kernel_rfl) (fun Jp bk2=> ?_) fun _ _=> ?_
  ·refine gjU 0 (fun(_:Unit)=>⟨[(3,.d (.u x4))],[],[],0⟩) (fun _=>True) (by kernel_rfl) (fun Jp bk3=> ?_) fun _ _=> ?_
   ·refine gl hd (fun(p:Nat×(UInt64×Int))=>let (p0,p_0,p_1):=p; ⟨[(0,sl eU a0),(3,.d (.u p_0)),(4,.d (.i p_1))],[],[],0⟩) (fun p=>iter (AG a0) p.1 p.2=some x4) (fun p=>p.1) (A0,(x2,1)) q4 (by kernel_rfl) ?_;rintro⟨n1,s1⟩ q5 Jl bl1;cases n1 with
    |zero=>exact(Ar q5).elim
    |succ n1=>
     obtain⟨y1,q7,q6⟩:=Ao q5;unfold AG at q7;refine gi q7 (by kernel_rfl) (fun hc2 q7=> ?_) fun hc2 q7=> ?_
     ·skip;obtain⟨x6,q9,q7⟩:=Aa q7;refine Hc (k:=1) (E:=eU) (fun _=>rfl) (fun _=>q9) (by kernel_rfl) ?_;have e0:=Option.some.inj q7;subst e0;rcases q6 with ⟨sn,e,q6'⟩|e
      ·have e:=Sum.inl.inj e;subst e;exact gb bl1 hd (n1,_) ⟨q6',Nat.lt_succ_self _⟩ (by kernel_rfl)
      cases AN e
     have e0:=Option.some.inj q7;subst e0;rcases q6 with ⟨sn,e,_⟩|e
     ·cases B2 e
     have e:=Sum.inr.inj e;subst e;exact gb bk3 hd () trivial (by kernel_rfl)
   have e0:=Option.some.inj q3;subst e0;exact gb bk2 hd () trivial (by kernel_rfl)
  have e0:=Option.some.inj hm;subst e0;exact Au hd (by kernel_rfl)
def Ev (a0:g_api_Promise):Option Bool:=Ac (Dc a0.Log) fun x1=>Ac (gu x1 (Dc a0.At)) fun x2=>Ac (gu (x1&&x2) (BN ([a0.Leaf.1,a0.Leaf.2]:List UInt64))) fun x3=>Ac (gu ((x1&&x2)&&(decide ((x3.toNat:Int)<2305843009213693951))) (EM a0.Sig)) fun x4=>bnd ((((x1&&x2)&&(decide ((x3.toNat:Int)<2305843009213693951)))&&x4)) fun x5=>some x5
theorem Nw {a0:g_api_Promise}{r:Bool}(hm:Ev a0=some r):Sf prog 92 [ag (Ai a0)] (.d (.t r)):=
 sp call92 func92 rfl ntmps92 rfl fun D0 As η0 m0 hd=>by
  unfold Ev at hm;refine TC 1 [.i a0.Log,.i a0.At,.u a0.Leaf.1,.u a0.Leaf.2,.u a0.Sig.E,.u a0.Sig.S] (by kernel_rfl) ?_;obtain⟨x1,q1,hm⟩:=Aa hm;refine gc (fun _=>FC q1) (by kernel_rfl) ?_;obtain⟨x2,q2,hm⟩:=Aa hm;refine gcG (fun h=>FC (DX h q2)) (by kernel_rfl) ?_;refine gslM (k:=1) (E:=eU) ([a0.Leaf.1,a0.Leaf.2]:List UInt64) (fun _=>rfl) (by kernel_rfl) ?_;obtain⟨x3,q3,hm⟩:=Aa hm;refine gcG (fun h=>H4 (DX h q3)) (by kernel_rfl) ?_;obtain⟨x4,q4,hm⟩:=Aa hm;refine gcG (fun h=>K8 (DX h q4)) (by kernel_rfl) ?_;have hm:=AE hm;let x5:Bool:=((((x1&&x2)&&(decide ((x3.toNat:Int)<2305843009213693951)))&&x4));have e0:=Option.some.inj hm;subst e0;exact Au hd (by kernel_rfl)
def F4 (a0:Int):Option Bool:=bnd (((decide (a0≤32))||(decide (a0>126)))) fun x1=>some x1
theorem PW {a0:Int}{r:Bool}(hm:F4 a0=some r):Sf prog 147 [.d (.r a0)] (.d (.t r)):=
 sp call147 func147 rfl ntmps147 rfl fun D0 As η0 m0 hd=>by
  unfold F4 at hm;have hm:=AE hm;let x1:Bool:=(((decide (a0≤32))||(decide (a0>126))));have e0:=Option.some.inj hm;subst e0;exact Au hd (by kernel_rfl)
def Am (a0:ByteArray)(a2:Bool)(s1:Nat):Option ((Nat)⊕((Nat)⊕Int)):=if s1<a0.size then bnd (((Utf8.decode a0 s1).1:Int)) fun x3=>Ac (F4 x3) fun x4=>if(x4==a2)=true then some (.inr (.inr (s1:Int)))else some (.inl (s1+(Utf8.decode a0 s1).2))else some (.inr (.inl s1))
def Bx (a0:ByteArray)(a2:Bool):Option Int:=Ac (iter (Am a0 a2) A0 0) fun x1=>match x1 with| .inr r=>some r| .inl y1=>some (-1)
theorem Iu {a0:ByteArray}{a2:Bool}{r:Int}(hm:Bx a0 a2=some r):Sf prog 214 [.d (.s a0),.fn (.func 147) [] [],.d (.t a2)] (.d (.i r)):=
 sp call214 func214 rfl ntmps214 rfl fun D0 As η0 m0 hd=>by
  unfold Bx at hm;refine grng a0 (by kernel_rfl) ?_;obtain⟨x1,q1,hm⟩:=Aa hm;refine gjU 0 (fun(y1:Nat)=>⟨[(10,.ow 0)],[(0,.hp 0 (.it a0 y1))],[],1⟩) (fun y1=>x1= .inl y1) (by kernel_rfl) (fun Jp bk1=> ?_) fun y1 hy=> ?_
  ·refine gl hd (fun(p:Nat×(Nat))=>let (p0,p_0):=p; ⟨[(1,.fn (.func 147) [] []),(2,.d (.t a2)),(10,.ow 0)],[(0,.hp 0 (.it a0 p_0))],[],1⟩) (fun p=>iter (Am a0 a2) p.1 p.2=some x1) (fun p=>p.1) (A0,0) q1 (by kernel_rfl) ?_;rintro⟨n1,s1⟩ q2 Jl bl1;cases n1 with
   |zero=>exact(Ar q2).elim
   |succ n1=>
    obtain⟨y2,q4,q3⟩:=Ao q2;unfold Am at q4;refine gnx q4 (by kernel_rfl) (fun hc1 q4=> ?_) fun hc1 q4=> ?_
    ·skip;refine gi' (b:=true) (by kernel_rfl) (fun _=> ?_) (fun h=>by cases h);have q4:=AE q4;let x3:Int:=(((Utf8.decode a0 s1).1:Int));obtain⟨x4,q7,q4⟩:=Aa q4;refine gc (fun _=>PW q7) (by kernel_rfl) ?_;refine gi q4 (by kernel_rfl) (fun hc2 q4=> ?_) fun hc2 q4=> ?_
     ·skip;cases q4;rcases q3 with ⟨sn,e,_⟩|e
      ·cases e
      cases e;dsimp only at hm;have e0:=Option.some.inj hm;subst e0;exact Au hd (by kernel_rfl)
     have e0:=Option.some.inj q4;subst e0;rcases q3 with ⟨sn,e,q3'⟩|e
     ·have e:=Sum.inl.inj e;subst e;exact gb bl1 hd (n1,_) ⟨q3',Nat.lt_succ_self _⟩ (by kernel_rfl)
     cases AN e
    refine gi' (b:=false) (by kernel_rfl) (fun h=>by cases h) (fun _=> ?_);have e0:=Option.some.inj q4;subst e0;rcases q3 with ⟨sn,e,_⟩|e
    ·cases B2 e
    have e:=Sum.inr.inj e;subst e;exact gb bk1 hd s1 rfl (by kernel_rfl)
  subst hy;dsimp only at hm;have e0:=Option.some.inj hm;subst e0;exact Au hd (by kernel_rfl)
def B4 (a0:ByteArray):Option Int:=Ac (Bx a0 true) fun x1=>some x1
theorem Iv {a0:ByteArray}{r:Int}(hm:B4 a0=some r):Sf prog 192 [.d (.s a0),.fn (.func 147) [] []] (.d (.i r)):=
 sp call192 func192 rfl ntmps192 rfl fun D0 As η0 m0 hd=>by
  unfold B4 at hm;obtain⟨x1,q1,hm⟩:=Aa hm;refine gc (fun _=>Iu q1) (by kernel_rfl) ?_;have e0:=Option.some.inj hm;subst e0;exact Au hd (by kernel_rfl)
def A5 (a0:ByteArray):Option Bool:=Ac (B4 a0) fun x1=>some (decide (x1≥0))
theorem Hw {a0:ByteArray}{r:Bool}(hm:A5 a0=some r):Sf prog 148 [.d (.s a0),.fn (.func 147) [] []] (.d (.t r)):=
 sp call148 func148 rfl ntmps148 rfl fun D0 As η0 m0 hd=>by
  unfold A5 at hm;obtain⟨x1,q1,hm⟩:=Aa hm;refine gc (fun _=>Iv q1) (by kernel_rfl) ?_;have e0:=Option.some.inj hm;subst e0;exact Au hd (by kernel_rfl)
def CT (a0:ByteArray):Option Bool:=Ac (gu ((!eqS a0 (⟨#[]⟩:ByteArray))&&(decide ((a0.size:Int)≤64))) (A5 a0)) fun x1=>bnd ((((!eqS a0 (⟨#[]⟩:ByteArray))&&(decide ((a0.size:Int)≤64)))&&(!x1))) fun x2=>some x2
theorem Nv {a0:ByteArray}{r:Bool}(hm:CT a0=some r):Sf prog 94 [.d (.s a0)] (.d (.t r)):=
 sp call94 func94 rfl ntmps94 rfl fun D0 As η0 m0 hd=>by
  unfold CT at hm;obtain⟨x1,q1,hm⟩:=Aa hm;refine gcG (fun h=>Hw (DX h q1)) (by kernel_rfl) ?_;have hm:=AE hm;let x2:Bool:=((((!eqS a0 (⟨#[]⟩:ByteArray))&&(decide ((a0.size:Int)≤64)))&&(!x1)));have e0:=Option.some.inj hm;subst e0;exact Au hd (by kernel_rfl)
def AJ (a0:ByteArray)(a1:ByteArray):Option Bool:=Ac (gu (decide ((a0.size:Int)≥(a1.size:Int))) (Mh a0 0 (a1.size:Int))) fun x1=>bnd (((decide ((a0.size:Int)≥(a1.size:Int)))&&(eqS x1 a1))) fun x2=>some x2
theorem Gg {a0:ByteArray}{a1:ByteArray}{r:Bool}(hm:AJ a0 a1=some r):Sf prog 209 [.d (.s a0),.d (.s a1)] (.d (.t r)):=
 sp call209 func209 rfl ntmps209 rfl fun D0 As η0 m0 hd=>by
  unfold AJ at hm;obtain⟨x1,q1,hm⟩:=Aa hm;refine Aav (fun h=>DX h q1) (by kernel_rfl) ?_;have hm:=AE hm;let x2:Bool:=(((decide ((a0.size:Int)≥(a1.size:Int)))&&(eqS x1 a1)));have e0:=Option.some.inj hm;subst e0;exact Au hd (by kernel_rfl)
def AK (a0:ByteArray)(a1:ByteArray):Option (ByteArray×Bool):=Ac (AJ a0 a1) fun x1=>if(!x1)=true then some (a0,false)else Ac (Mh a0 (a1.size:Int) (a0.size:Int)) fun x2=>some (x2,true)
theorem Gh {a0:ByteArray}{a1:ByteArray}{r:ByteArray×Bool}(hm:AK a0 a1=some r):Sf prog 182 [.d (.s a0),.d (.s a1)] (.tup [.d (.s r.1),.d (.t r.2)]):=
 sp call182 func182 rfl ntmps182 rfl fun D0 As η0 m0 hd=>by
  unfold AK at hm;obtain⟨x1,q1,hm⟩:=Aa hm;refine gc (fun _=>Gg q1) (by kernel_rfl) ?_;refine gi hm (by kernel_rfl) (fun hc1 hm=> ?_) fun hc1 hm=> ?_
  ·skip;have e0:=Option.some.inj hm;subst e0;exact Au hd (by kernel_rfl)
  obtain⟨x2,q2,hm⟩:=Aa hm;refine R1 (fun _=>q2) (by kernel_rfl) ?_;have e0:=Option.some.inj hm;subst e0;exact Au hd (by kernel_rfl)
def Bz (a0:ByteArray)(a1:ByteArray):Option (ByteArray×Bool):=Ac (AK a0 a1) fun x1=>some (x1.1,x1.2)
theorem Kx {a0:ByteArray}{a1:ByteArray}{r:ByteArray×Bool}(hm:Bz a0 a1=some r):Sf prog 137 [.d (.s a0),.d (.s a1)] (.tup [.d (.s r.1),.d (.t r.2)]):=
 sp call137 func137 rfl ntmps137 rfl fun D0 As η0 m0 hd=>by
  unfold Bz at hm;obtain⟨x1,q1,hm⟩:=Aa hm;refine gc (fun _=>Gh q1) (by kernel_rfl) ?_;have e0:=Option.some.inj hm;subst e0;exact Au hd (by kernel_rfl)
def CS (a0:ByteArray):Option (ByteArray×Bool×Bool):=Ac (C2 a0) fun x1=>if x1=true then some (a0,false,true)else Ac (Bz a0 (⟨#[42,46]⟩:ByteArray)) fun x2=>Ac (gu x2.2 (BH x2.1 7 62)) fun x3=>some (x2.1,x2.2,(x2.2&&x3))
theorem JA {a0:ByteArray}{r:ByteArray×Bool×Bool}(hm:CS a0=some r):Sf prog 82 [.d (.s a0)] (.tup [.d (.s r.1),.d (.t r.2.1),.d (.t r.2.2)]):=
 sp call82 func82 rfl ntmps82 rfl fun D0 As η0 m0 hd=>by
  unfold CS at hm;obtain⟨x1,q1,hm⟩:=Aa hm;refine gc (fun _=>J8 q1) (by kernel_rfl) ?_;refine gi hm (by kernel_rfl) (fun hc1 hm=> ?_) fun hc1 hm=> ?_
  ·skip;have e0:=Option.some.inj hm;subst e0;exact Au hd (by kernel_rfl)
  obtain⟨x2,q2,hm⟩:=Aa hm;refine gc (fun _=>Kx q2) (by kernel_rfl) ?_;obtain⟨x3,q3,hm⟩:=Aa hm;refine gcG (fun h=>Mz (DX h q3)) (by kernel_rfl) ?_;have e0:=Option.some.inj hm;subst e0;exact Au hd (by kernel_rfl)
def BZ (a0:ByteArray):Option Int:=Ac (CS a0) fun x1=>Ac (Dz x1.2.2) fun x2=>some x2
theorem Np {a0:ByteArray}{r:Int}(hm:BZ a0=some r):Sf prog 97 [.d (.s a0)] (.d (.i r)):=
 sp call97 func97 rfl ntmps97 rfl fun D0 As η0 m0 hd=>by
  unfold BZ at hm;obtain⟨x1,q1,hm⟩:=Aa hm;refine gc (fun _=>JA q1) (by kernel_rfl) ?_;obtain⟨x2,q2,hm⟩:=Aa hm;refine gc (fun _=>Mp q2) (by kernel_rfl) ?_;have e0:=Option.some.inj hm;subst e0;exact Au hd (by kernel_rfl)
def D9 (i1:Int)(x2:ByteArray)(s1:(List (ByteArray×Bool))):Option (((List (ByteArray×Bool)))⊕Bool):=Ac (gu (!(lkB s1 x2)) (BZ x2)) fun x3=>if((lkB s1 x2)||(x3 !=0))=true then some (.inr false)else if(lkI s1 x2 0).isNone=true then some (.inl (s1++[(x2,true)]))else none
def Ew (a0:List ByteArray)(a1:Int)(a2:Int):Option Bool:=Ac (Fw D9 a0 0 ([]:List (ByteArray×Bool))) fun x1=>match x1 with| .inr r=>some r| .inl y1=>bnd (((decide ((a0.length:Int)≥a1))&&(decide ((a0.length:Int)≤a2)))) fun x4=>some x4
theorem Nx {a0:List ByteArray}{a1:Int}{a2:Int}{r:Bool}(hm:Ew a0 a1 a2=some r):Sf prog 96 [sl eS a0,.d (.i a1),.d (.i a2),.fn (.func 97) [] []] (.d (.t r)):=
 sp call96 func96 rfl ntmps96 rfl fun D0 As η0 m0 hd=>by
  unfold Ew at hm;refine gmkm (by kernel_rfl) ?_;obtain⟨x1,q1,hm⟩:=Aa hm;refine Pb 0 (E:=eS) (xs:=a0) 13 (by kernel_rfl) fun hle1=> ?_;refine gjU 0 (fun(y1:(List (ByteArray×Bool)))=>⟨[(0,sl eS a0),(1,.d (.i a1)),(2,.d (.i a2)),(12,.ow 0)],[(0,.hp 0 (.mp y1))],[],1⟩) (fun y1=>x1= .inl y1) (by kernel_rfl) (fun Jp bk1=> ?_) fun y1 hy=> ?_
  ·refine gl hd (fun(p:Int×((List (ByteArray×Bool))))=>let (p0,p_0):=p; ⟨[(0,sl eS a0),(1,.d (.i a1)),(2,.d (.i a2)),(3,.fn (.func 97) [] []),(9,.ow 0),(13,sl eS a0),(14,.d (.i (a0.length:Int))),(15,.d (.i p0)),(12,.ow 0)],[(0,.hp 0 (.mp p_0))],[],1⟩) (fun p=> ∃i:Nat,p.1=(i:Int)∧i≤a0.length∧Fw D9 (a0.drop i) (i:Int) p.2=some x1) (fun p=>a0.length-p.1.toNat) (0,([]:List (ByteArray×Bool))) ⟨0,rfl,Nat.zero_le _,q1⟩ (by kernel_rfl) ?_;rintro⟨_,s1⟩ ⟨i1,rfl,hi,q2⟩ Jl bl1;refine gi' (b:=decide ((i1:Int)<(a0.length:Int))) (by kernel_rfl) (fun hc2=> ?_) fun hc2=> ?_
   ·have hlt1:i1<a0.length:=by have:=of_decide_eq_true hc2; omega
    obtain⟨x2,y2,q5,q4,q3⟩:=Il q2 hlt1;unfold D9 at q4;refine Hc (k:=1) (E:=eS) (fun _=>rfl) (fun _=>q5) (by kernel_rfl) ?_;refine glk s1 x2 (by kernel_rfl) ?_;obtain⟨x3,q6,q4⟩:=Aa q4;refine gcG (fun h=>Np (DX h q6)) (by kernel_rfl) ?_;refine gi q4 (by kernel_rfl) (fun hc1 q4=> ?_) fun hc1 q4=> ?_
    ·skip;cases q4;rcases q3 with ⟨sn,e,_⟩|⟨tn,e,e2⟩
     ·cases e
     cases e;cases e2;dsimp only at hm;have e0:=Option.some.inj hm;subst e0;exact Au hd (by kernel_rfl)
    obtain⟨q7,q4⟩:=B8 q4;refine gup q7 (by kernel_rfl) ?_;have e0:=Option.some.inj q4;subst e0;rcases q3 with ⟨sn,e,q3'⟩|⟨tn,e,_⟩
    ·have e:=Sum.inl.inj e;subst e;exact gb bl1 hd (w64 ((i1:Int)+1),_) ⟨⟨i1+1,Bf hlt1 hle1,by omega,q3'⟩,H8 hlt1 hle1⟩ (by kernel_rfl)
    cases AN e
   have hlt1: ¬i1<a0.length:=by have:=of_decide_eq_false hc2; omega
   have e:=G4 q2 hlt1;cases e;exact gb bk1 hd _ rfl (by kernel_rfl)
  subst hy;dsimp only at hm;have hm:=AE hm;let x4:Bool:=(((decide ((a0.length:Int)≥a1))&&(decide ((a0.length:Int)≤a2))));have e0:=Option.some.inj hm;subst e0;exact Au hd (by kernel_rfl)
def Ea (i1:Int)(x2:ByteArray)(s1:(List (ByteArray×Bool))):Option (((List (ByteArray×Bool)))⊕Bool):=Ac (gu (!(lkB s1 x2)) (Cs x2)) fun x3=>if((lkB s1 x2)||(x3 !=0))=true then some (.inr false)else if(lkI s1 x2 0).isNone=true then some (.inl (s1++[(x2,true)]))else none
def Ex (a0:List ByteArray)(a1:Int)(a2:Int):Option Bool:=Ac (Fw Ea a0 0 ([]:List (ByteArray×Bool))) fun x1=>match x1 with| .inr r=>some r| .inl y1=>bnd (((decide ((a0.length:Int)≥a1))&&(decide ((a0.length:Int)≤a2)))) fun x4=>some x4
theorem Ny {a0:List ByteArray}{a1:Int}{a2:Int}{r:Bool}(hm:Ex a0 a1 a2=some r):Sf prog 96 [sl eS a0,.d (.i a1),.d (.i a2),.fn (.func 19) [] []] (.d (.t r)):=
 sp call96 func96 rfl ntmps96 rfl fun D0 As η0 m0 hd=>by
  unfold Ex at hm;refine gmkm (by kernel_rfl) ?_;obtain⟨x1,q1,hm⟩:=Aa hm;refine Pb 0 (E:=eS) (xs:=a0) 13 (by kernel_rfl) fun hle1=> ?_;refine gjU 0 (fun(y1:(List (ByteArray×Bool)))=>⟨[(0,sl eS a0),(1,.d (.i a1)),(2,.d (.i a2)),(12,.ow 0)],[(0,.hp 0 (.mp y1))],[],1⟩) (fun y1=>x1= .inl y1) (by kernel_rfl) (fun Jp bk1=> ?_) fun y1 hy=> ?_
  ·refine gl hd (fun(p:Int×((List (ByteArray×Bool))))=>let (p0,p_0):=p; ⟨[(0,sl eS a0),(1,.d (.i a1)),(2,.d (.i a2)),(3,.fn (.func 19) [] []),(9,.ow 0),(13,sl eS a0),(14,.d (.i (a0.length:Int))),(15,.d (.i p0)),(12,.ow 0)],[(0,.hp 0 (.mp p_0))],[],1⟩) (fun p=> ∃i:Nat,p.1=(i:Int)∧i≤a0.length∧Fw Ea (a0.drop i) (i:Int) p.2=some x1) (fun p=>a0.length-p.1.toNat) (0,([]:List (ByteArray×Bool))) ⟨0,rfl,Nat.zero_le _,q1⟩ (by kernel_rfl) ?_;rintro⟨_,s1⟩ ⟨i1,rfl,hi,q2⟩ Jl bl1;refine gi' (b:=decide ((i1:Int)<(a0.length:Int))) (by kernel_rfl) (fun hc2=> ?_) fun hc2=> ?_
   ·have hlt1:i1<a0.length:=by have:=of_decide_eq_true hc2; omega
    obtain⟨x2,y2,q5,q4,q3⟩:=Il q2 hlt1;unfold Ea at q4;refine Hc (k:=1) (E:=eS) (fun _=>rfl) (fun _=>q5) (by kernel_rfl) ?_;refine glk s1 x2 (by kernel_rfl) ?_;obtain⟨x3,q6,q4⟩:=Aa q4;refine gcG (fun h=>K6 (DX h q6)) (by kernel_rfl) ?_;refine gi q4 (by kernel_rfl) (fun hc1 q4=> ?_) fun hc1 q4=> ?_
    ·skip;cases q4;rcases q3 with ⟨sn,e,_⟩|⟨tn,e,e2⟩
     ·cases e
     cases e;cases e2;dsimp only at hm;have e0:=Option.some.inj hm;subst e0;exact Au hd (by kernel_rfl)
    obtain⟨q7,q4⟩:=B8 q4;refine gup q7 (by kernel_rfl) ?_;have e0:=Option.some.inj q4;subst e0;rcases q3 with ⟨sn,e,q3'⟩|⟨tn,e,_⟩
    ·have e:=Sum.inl.inj e;subst e;exact gb bl1 hd (w64 ((i1:Int)+1),_) ⟨⟨i1+1,Bf hlt1 hle1,by omega,q3'⟩,H8 hlt1 hle1⟩ (by kernel_rfl)
    cases AN e
   have hlt1: ¬i1<a0.length:=by have:=of_decide_eq_false hc2; omega
   have e:=G4 q2 hlt1;cases e;exact gb bk1 hd _ rfl (by kernel_rfl)
  subst hy;dsimp only at hm;have hm:=AE hm;let x4:Bool:=(((decide ((a0.length:Int)≥a1))&&(decide ((a0.length:Int)≤a2))));have e0:=Option.some.inj hm;subst e0;exact Au hd (by kernel_rfl)
def Ch (i1:Int)(x2:g_api_Promise)(s1:Int):Option ((Int)⊕Bool):=Ac (Ev x2) fun x3=>if((!x3)||(decide (x2.Log≤s1)))=true then some (.inr false)else some (.inl x2.Log)
def F5 (a0:g_api_Cert):Option Bool:=Ac (Fw Ch a0.Proms 0 (-1)) fun x1=>match x1 with| .inr r=>some r| .inl y1=>Ac (Dc a0.Serial) fun x4=>Ac (gu (!(!x4)) (Dc a0.From)) fun x5=>Ac (gu (!((!x4)||(!x5))) (Dc a0.Until)) fun x6=>bnd (((((!x4)||(!x5))||(!x6))||(decide (a0.From≥a0.Until)))) fun x7=>if x7=true then some false else Ac (CT a0.Issuer) fun x8=>Ac (gu (!((((!x8)||((a0.Key.toNat:Int)==0))||(decide ((a0.Key.toNat:Int)≥2305843009213691579)))||(decide ((a0.Proms.length:Int)>4)))) (EM a0.Sig)) fun x9=>bnd ((((((!x8)||((a0.Key.toNat:Int)==0))||(decide ((a0.Key.toNat:Int)≥2305843009213691579)))||(decide ((a0.Proms.length:Int)>4)))||(!x9))) fun x10=>if x10=true then some false else if a0.Ca=true then Ac (CT a0.Subject) fun x11=>Ac (gu (((x11&&((a0.Names.length:Int)==0))&&(decide (a0.Depth≥0)))&&(decide (a0.Depth≤4))) (Ew a0.Permit 0 8)) fun x12=>bnd (((((x11&&((a0.Names.length:Int)==0))&&(decide (a0.Depth≥0)))&&(decide (a0.Depth≤4)))&&x12)) fun x13=>some x13 else Ac (gu (eqS a0.Subject (⟨#[]⟩:ByteArray)) (Ex a0.Names 1 8)) fun x14=>bnd (((((eqS a0.Subject (⟨#[]⟩:ByteArray))&&x14)&&(a0.Depth==0))&&((a0.Permit.length:Int)==0))) fun x15=>some x15
theorem PX {a0:g_api_Cert}{r:Bool}(hm:F5 a0=some r):Sf prog 52 [ag (Ae a0)] (.d (.t r)):=
 sp call52 func52 rfl ntmps52 rfl fun D0 As η0 m0 hd=>by
  unfold F5 at hm;obtain⟨x1,q1,hm⟩:=Aa hm;refine Pb 0 (E:=Ai) (xs:=a0.Proms) 7 (by kernel_rfl) fun hle1=> ?_;refine gjU 0 (fun(y1:Int)=>⟨[(1,.pb 0 0),(3,.d (.i y1))],[(0,.box 0 [.d (.i a0.Serial),.d (.s a0.Issuer),.d (.s a0.Subject),.d (.u a0.Key),sl eS a0.Names,.d (.i a0.From),.d (.i a0.Until),.d (.t a0.Ca),.d (.i a0.Depth),sl eS a0.Permit,sl Ai a0.Proms,.d (.u a0.Sig.E),.d (.u a0.Sig.S)] 28)],[],1⟩) (fun y1=>x1= .inl y1) (by kernel_rfl) (fun Jp bk1=> ?_) fun y1 hy=> ?_
  ·refine gl hd (fun(p:Int×(Int))=>let (p0,p_0):=p; ⟨[(1,.pb 0 0),(3,.d (.i p_0)),(7,sl Ai a0.Proms),(8,.d (.i (a0.Proms.length:Int))),(9,.d (.i p0))],[(0,.box 0 [.d (.i a0.Serial),.d (.s a0.Issuer),.d (.s a0.Subject),.d (.u a0.Key),sl eS a0.Names,.d (.i a0.From),.d (.i a0.Until),.d (.t a0.Ca),.d (.i a0.Depth),sl eS a0.Permit,sl Ai a0.Proms,.d (.u a0.Sig.E),.d (.u a0.Sig.S)] 28)],[],1⟩) (fun p=> ∃i:Nat,p.1=(i:Int)∧i≤a0.Proms.length∧Fw Ch (a0.Proms.drop i) (i:Int) p.2=some x1) (fun p=>a0.Proms.length-p.1.toNat) (0,(-1)) ⟨0,rfl,Nat.zero_le _,q1⟩ (by kernel_rfl) ?_;rintro⟨_,s1⟩ ⟨i1,rfl,hi,q2⟩ Jl bl1;refine gi' (b:=decide ((i1:Int)<(a0.Proms.length:Int))) (by kernel_rfl) (fun hc2=> ?_) fun hc2=> ?_
   ·have hlt1:i1<a0.Proms.length:=by have:=of_decide_eq_true hc2; omega
    obtain⟨x2,y2,q5,q4,q3⟩:=Il q2 hlt1;unfold Ch at q4;refine Hc (k:=6) (E:=Ai) (fun _=>rfl) (fun _=>q5) (by kernel_rfl) ?_;obtain⟨x3,q6,q4⟩:=Aa q4;refine gc (fun _=>Nw q6) (by kernel_rfl) ?_;refine gi q4 (by kernel_rfl) (fun hc1 q4=> ?_) fun hc1 q4=> ?_
    ·skip;cases q4;rcases q3 with ⟨sn,e,_⟩|⟨tn,e,e2⟩
     ·cases e
     cases e;cases e2;dsimp only at hm;have e0:=Option.some.inj hm;subst e0;exact Au hd (by kernel_rfl)
    have e0:=Option.some.inj q4;subst e0;rcases q3 with ⟨sn,e,q3'⟩|⟨tn,e,_⟩
    ·have e:=Sum.inl.inj e;subst e;exact gb bl1 hd (w64 ((i1:Int)+1),_) ⟨⟨i1+1,Bf hlt1 hle1,by omega,q3'⟩,H8 hlt1 hle1⟩ (by kernel_rfl)
    cases AN e
   have hlt1: ¬i1<a0.Proms.length:=by have:=of_decide_eq_false hc2; omega
   have e:=G4 q2 hlt1;cases e;exact gb bk1 hd _ rfl (by kernel_rfl)
  subst hy;dsimp only at hm;obtain⟨x4,q7,hm⟩:=Aa hm;refine gc (fun _=>FC q7) (by kernel_rfl) ?_;obtain⟨x5,q8,hm⟩:=Aa hm;refine gcG (fun h=>FC (DX h q8)) (by kernel_rfl) ?_;obtain⟨x6,q9,hm⟩:=Aa hm;refine gcG (fun h=>FC (DX h q9)) (by kernel_rfl) ?_;have hm:=AE hm;let x7:Bool:=(((((!x4)||(!x5))||(!x6))||(decide (a0.From≥a0.Until))));refine gi hm (by kernel_rfl) (fun hc3 hm=> ?_) fun hc3 hm=> ?_
  ·skip;have e0:=Option.some.inj hm;subst e0;exact Au hd (by kernel_rfl)
  obtain⟨x8,q11,hm⟩:=Aa hm;refine gc (fun _=>Nv q11) (by kernel_rfl) ?_;obtain⟨x9,q12,hm⟩:=Aa hm;refine gcG (fun h=>K8 (DX h q12)) (by kernel_rfl) ?_;have hm:=AE hm;let x10:Bool:=((((((!x8)||((a0.Key.toNat:Int)==0))||(decide ((a0.Key.toNat:Int)≥2305843009213691579)))||(decide ((a0.Proms.length:Int)>4)))||(!x9)));refine gi hm (by kernel_rfl) (fun hc4 hm=> ?_) fun hc4 hm=> ?_
  ·skip;have e0:=Option.some.inj hm;subst e0;exact Au hd (by kernel_rfl)
  refine gi hm (by kernel_rfl) (fun hc5 hm=> ?_) fun hc5 hm=> ?_
  ·skip;obtain⟨x11,q14,hm⟩:=Aa hm;refine gc (fun _=>Nv q14) (by kernel_rfl) ?_;obtain⟨x12,q15,hm⟩:=Aa hm;refine gcG (fun h=>Nx (DX h q15)) (by kernel_rfl) ?_;have hm:=AE hm;let x13:Bool:=(((((x11&&((a0.Names.length:Int)==0))&&(decide (a0.Depth≥0)))&&(decide (a0.Depth≤4)))&&x12));have e0:=Option.some.inj hm;subst e0;exact Au hd (by kernel_rfl)
  obtain⟨x14,q17,hm⟩:=Aa hm;refine gcG (fun h=>Ny (DX h q17)) (by kernel_rfl) ?_;have hm:=AE hm;let x15:Bool:=(((((eqS a0.Subject (⟨#[]⟩:ByteArray))&&x14)&&(a0.Depth==0))&&((a0.Permit.length:Int)==0)));have e0:=Option.some.inj hm;subst e0;exact Au hd (by kernel_rfl)
def Ii (a0:C4)(k0:Int):Option (Bool×Int):=some ((a0.tag_==k0),k0)
theorem Rn {a0:C4}{k0:Int}{r:Bool×Int}(hm:Ii a0 k0=some r):Sp prog 194 [ag (Fv a0),.pb 0 0] [.box 0 [.d (.i k0)] 3] 1 (is (.d (.t r.1)) [.box 0 [.d (.i r.2)] 3] 1):=
 sp call194 func194 rfl ntmps194 rfl fun D0 As η0 m0 hd=>by
  unfold Ii at hm;have e0:=Option.some.inj hm;subst e0;exact Au hd (by kernel_rfl)
def Aj (a0:List C4)(i1:Int)(s1:Int):Option ((Int)⊕(Int×Int)):=Ac (idx a0 (i1:Int)) fun x3=>Ac (Ii x3 s1) fun x4=>if x4.1=true then some (.inr ((i1:Int),x4.2))else some (.inl x4.2)
def AM (a0:List C4)(k0:Int):Option (Int×Int):=Ac (F8 (Aj a0) a0.length 0 k0) fun x1=>match x1 with| .inr r=>some r| .inl y1=>some ((-1),y1)
theorem DY {a0:List C4}{k0:Int}{r:Int×Int}(hm:AM a0 k0=some r):Sp prog 193 [sl Fv a0,.fn (.func 194) [] [.pb 0 0]] [.box 0 [.d (.i k0)] 3] 1 (is (.d (.i r.1)) [.box 0 [.d (.i r.2)] 3] 1):=
 sp call193 func193 rfl ntmps193 rfl fun D0 As η0 m0 hd=>by
  unfold AM at hm;obtain⟨x1,q1,hm⟩:=Aa hm;refine Pb 0 (E:=Fv) (xs:=a0) 6 (by kernel_rfl) fun hle1=> ?_;refine gjU 0 (fun(y1:Int)=>⟨[],[(0,.box 0 [.d (.i y1)] 3)],[],1⟩) (fun y1=>x1= .inl y1) (by kernel_rfl) (fun Jp bk1=> ?_) fun y1 hy=> ?_
  ·refine gl hd (fun(p:Int×(Int))=>let (p0,p_0):=p; ⟨[(0,sl Fv a0),(1,.fn (.func 194) [] [.pb 0 0]),(7,.d (.i (a0.length:Int))),(8,.d (.i p0))],[(0,.box 0 [.d (.i p_0)] 3)],[],1⟩) (fun p=> ∃i:Nat,p.1=(i:Int)∧i≤a0.length∧F8 (Aj a0) (a0.length-i) (i:Int) p.2=some x1) (fun p=>a0.length-p.1.toNat) (0,k0) ⟨0,rfl,Nat.zero_le _,q1⟩ (by kernel_rfl) ?_;rintro⟨_,s1⟩ ⟨i1,rfl,hi,q2⟩ Jl bl1;refine gi' (b:=decide ((i1:Int)<(a0.length:Int))) (by kernel_rfl) (fun hc2=> ?_) fun hc2=> ?_
   ·have hlt1:i1<a0.length:=by have:=of_decide_eq_true hc2; omega
    obtain⟨y2,q4,q3⟩:=Hp q2 hlt1;unfold Aj at q4;obtain⟨x3,q6,q4⟩:=Aa q4;refine Hc (k:=2) (E:=Fv) (fun _=>rfl) (fun _=>q6) (by kernel_rfl) ?_;obtain⟨x4,q7,q4⟩:=Aa q4;refine gco (Rn q7) (by kernel_rfl) ?_;refine gi q4 (by kernel_rfl) (fun hc1 q4=> ?_) fun hc1 q4=> ?_
    ·skip;cases q4;rcases q3 with ⟨sn,e,_⟩|⟨tn,e,e2⟩
     ·cases e
     cases e;cases e2;dsimp only at hm;have e0:=Option.some.inj hm;subst e0;exact Au hd (by kernel_rfl)
    have e0:=Option.some.inj q4;subst e0;rcases q3 with ⟨sn,e,q3'⟩|⟨tn,e,_⟩
    ·have e:=Sum.inl.inj e;subst e;exact gb bl1 hd (w64 ((i1:Int)+1),_) ⟨⟨i1+1,Bf hlt1 hle1,by omega,q3'⟩,H8 hlt1 hle1⟩ (by kernel_rfl)
    cases AN e
   have hlt1: ¬i1<a0.length:=by have:=of_decide_eq_false hc2; omega
   have e:=F7 q2 hlt1;cases e;exact gb bk1 hd _ rfl (by kernel_rfl)
  subst hy;dsimp only at hm;have e0:=Option.some.inj hm;subst e0;exact Au hd (by kernel_rfl)
def GH (a0:Int):Option (C4×Bool):=Ac (AM tab_0 a0) fun x1=>if(decide (x1.1<0))=true then some ((⟨0,(-1)⟩:C4),false)else Ac (idx tab_0 x1.1) fun x2=>some (x2,true)
theorem U6 {a0:Int}{r:C4×Bool}(hm:GH a0=some r):Sf prog 149 [.d (.i a0)] (.tup [ag (Fv r.1),.d (.t r.2)]):=
 sp call149 func149 rfl ntmps149 rfl fun D0 As η0 m0 hd=>by
  unfold GH at hm;refine gslG (k:=2) (E:=Fv) tab_0 (fun _=>rfl) (by kernel_rfl) ?_;obtain⟨x1,q1,hm⟩:=Aa hm;refine gco (DY q1) (by kernel_rfl) ?_;refine gi hm (by kernel_rfl) (fun hc1 hm=> ?_) fun hc1 hm=> ?_
  ·skip;have e0:=Option.some.inj hm;subst e0;exact Au hd (by kernel_rfl)
  obtain⟨x2,q2,hm⟩:=Aa hm;refine gidG (k:=2) (E:=Fv) tab_0 (fun _=>rfl) (fun _=>q2) (by kernel_rfl) ?_;have e0:=Option.some.inj hm;subst e0;exact Au hd (by kernel_rfl)
def M6 (n:Int)(a0:List UInt8):Option Bool:=if n=157 then Fh a0 else if n=252 then DO a0 else if n=253 then Jc a0 else if n=254 then F0 a0 else if n=257 then FY a0 else none
theorem Yw {n:Int}{a0:List UInt8}{r:Bool}(hm:M6 n a0=some r): ∃k:Nat,n=(k:Int)∧Sf prog k [sl eB a0] (.d (.t r)):=by
 unfold M6 at hm;split at hm
 ·rename_i h;exact⟨157,h,Nr hm⟩
 split at hm
 ·rename_i h;exact⟨252,h,PT hm⟩
 split at hm
 ·rename_i h;exact⟨253,h,PR hm⟩
 split at hm
 ·rename_i h;exact⟨254,h,PQ hm⟩
 split at hm
 ·rename_i h;exact⟨257,h,PO hm⟩
 cases hm
def J5 (rF:g_api_Item→Int→Option Bool):Prop:= ∀{a0:g_api_Item} {a1:Int} {r:Bool},rF a0 a1=some r→Sf prog 98 [ag (Af a0),.d (.i a1)] (.d (.t r))
def Hn (rF:g_api_Item→Int→Option Bool)(a0:g_api_Item)(k0:Int):Option (Bool×Int):=Ac (rF a0 (w64 (k0-1))) fun x1=>some ((!x1),k0)
theorem PN {rF:g_api_Item→Int→Option Bool}(hF:J5 rF){a0:g_api_Item}{k0:Int}{r:Bool×Int}(hm:Hn rF a0 k0=some r):Sp prog 151 [ag (Af a0),.pb 0 0] [.box 0 [.d (.i k0)] 3] 1 (is (.d (.t r.1)) [.box 0 [.d (.i r.2)] 3] 1):=
 sp call151 func151 rfl ntmps151 rfl fun D0 As η0 m0 hd=>by
  unfold Hn at hm;obtain⟨x1,q1,hm⟩:=Aa hm;refine gc (fun _=>hF q1) (by kernel_rfl) ?_;have e0:=Option.some.inj hm;subst e0;exact Au hd (by kernel_rfl)
def Ak (rF:g_api_Item→Int→Option Bool)(a0:List g_api_Item)(i1:Int)(s1:Int):Option ((Int)⊕(Int×Int)):=Ac (idx a0 (i1:Int)) fun x3=>Ac ((Hn rF) x3 s1) fun x4=>if x4.1=true then some (.inr ((i1:Int),x4.2))else some (.inl x4.2)
def AL (rF:g_api_Item→Int→Option Bool)(a0:List g_api_Item)(k0:Int):Option (Int×Int):=Ac (F8 ((Ak rF) a0) a0.length 0 k0) fun x1=>match x1 with| .inr r=>some r| .inl y1=>some ((-1),y1)
theorem DA {rF:g_api_Item→Int→Option Bool}(hF:J5 rF){a0:List g_api_Item}{k0:Int}{r:Int×Int}(hm:AL rF a0 k0=some r):Sp prog 195 [sl Af a0,.fn (.func 151) [] [.pb 0 0]] [.box 0 [.d (.i k0)] 3] 1 (is (.d (.i r.1)) [.box 0 [.d (.i r.2)] 3] 1):=
 sp call195 func195 rfl ntmps195 rfl fun D0 As η0 m0 hd=>by
  unfold AL at hm;obtain⟨x1,q1,hm⟩:=Aa hm;refine Pb 0 (E:=Af) (xs:=a0) 6 (by kernel_rfl) fun hle1=> ?_;refine gjU 0 (fun(y1:Int)=>⟨[],[(0,.box 0 [.d (.i y1)] 3)],[],1⟩) (fun y1=>x1= .inl y1) (by kernel_rfl) (fun Jp bk1=> ?_) fun y1 hy=> ?_
  ·refine gl hd (fun(p:Int×(Int))=>let (p0,p_0):=p; ⟨[(0,sl Af a0),(1,.fn (.func 151) [] [.pb 0 0]),(7,.d (.i (a0.length:Int))),(8,.d (.i p0))],[(0,.box 0 [.d (.i p_0)] 3)],[],1⟩) (fun p=> ∃i:Nat,p.1=(i:Int)∧i≤a0.length∧F8 ((Ak rF) a0) (a0.length-i) (i:Int) p.2=some x1) (fun p=>a0.length-p.1.toNat) (0,k0) ⟨0,rfl,Nat.zero_le _,q1⟩ (by kernel_rfl) ?_;rintro⟨_,s1⟩ ⟨i1,rfl,hi,q2⟩ Jl bl1;refine gi' (b:=decide ((i1:Int)<(a0.length:Int))) (by kernel_rfl) (fun hc2=> ?_) fun hc2=> ?_
   ·have hlt1:i1<a0.length:=by have:=of_decide_eq_true hc2; omega
    obtain⟨y2,q4,q3⟩:=Hp q2 hlt1;unfold Ak at q4;obtain⟨x3,q6,q4⟩:=Aa q4;refine Hc (k:=3) (E:=Af) (fun _=>rfl) (fun _=>q6) (by kernel_rfl) ?_;obtain⟨x4,q7,q4⟩:=Aa q4;refine gco (PN hF q7) (by kernel_rfl) ?_;refine gi q4 (by kernel_rfl) (fun hc1 q4=> ?_) fun hc1 q4=> ?_
    ·skip;cases q4;rcases q3 with ⟨sn,e,_⟩|⟨tn,e,e2⟩
     ·cases e
     cases e;cases e2;dsimp only at hm;have e0:=Option.some.inj hm;subst e0;exact Au hd (by kernel_rfl)
    have e0:=Option.some.inj q4;subst e0;rcases q3 with ⟨sn,e,q3'⟩|⟨tn,e,_⟩
    ·have e:=Sum.inl.inj e;subst e;exact gb bl1 hd (w64 ((i1:Int)+1),_) ⟨⟨i1+1,Bf hlt1 hle1,by omega,q3'⟩,H8 hlt1 hle1⟩ (by kernel_rfl)
    cases AN e
   have hlt1: ¬i1<a0.length:=by have:=of_decide_eq_false hc2; omega
   have e:=F7 q2 hlt1;cases e;exact gb bk1 hd _ rfl (by kernel_rfl)
  subst hy;dsimp only at hm;have e0:=Option.some.inj hm;subst e0;exact Au hd (by kernel_rfl)
def AA (rF:g_api_Item→Int→Option Bool)(a0:List g_api_Item)(k0:Int):Option (Bool×Int):=Ac ((AL rF) a0 k0) fun x1=>some ((decide (x1.1≥0)),x1.2)
theorem Dk {rF:g_api_Item→Int→Option Bool}(hF:J5 rF){a0:List g_api_Item}{k0:Int}{r:Bool×Int}(hm:AA rF a0 k0=some r):Sp prog 150 [sl Af a0,.fn (.func 151) [] [.pb 0 0]] [.box 0 [.d (.i k0)] 3] 1 (is (.d (.t r.1)) [.box 0 [.d (.i r.2)] 3] 1):=
 sp call150 func150 rfl ntmps150 rfl fun D0 As η0 m0 hd=>by
  unfold AA at hm;obtain⟨x1,q1,hm⟩:=Aa hm;refine gco (DA hF q1) (by kernel_rfl) ?_;have e0:=Option.some.inj hm;subst e0;exact Au hd (by kernel_rfl)
def Fg (rF:g_api_Item→Int→Option Bool)(a0:g_api_Item)(a1:Int):Option Bool:=Ac (GH a0.Tag) fun x1=>Ac (gu (!((!x1.2)||(decide (a1<1)))) (M6 x1.1.may_ a0.B)) fun x2=>if((((!x1.2)||(decide (a1<1)))||(!x2))||((a0.Tag !=48)&&(decide ((a0.L.length:Int)>0))))=true then some false else Ac ((AA rF) a0.L a1) fun x3=>some (!x3.1)
theorem SJ {rF:g_api_Item→Int→Option Bool}(hF:J5 rF){a0:g_api_Item}{a1:Int}{r:Bool}(hm:Fg rF a0 a1=some r):Sf prog 98 [ag (Af a0),.d (.i a1)] (.d (.t r)):=
 sp call98 func98 rfl ntmps98 rfl fun D0 As η0 m0 hd=>by
  unfold Fg at hm;obtain⟨x1,q1,hm⟩:=Aa hm;refine gc (fun _=>U6 q1) (by kernel_rfl) ?_;obtain⟨x2,q2,hm⟩:=Aa hm;refine gdynG (fun h=>Yw (DX h q2)) (by kernel_rfl) ?_;refine gi hm (by kernel_rfl) (fun hc1 hm=> ?_) fun hc1 hm=> ?_
  ·skip;have e0:=Option.some.inj hm;subst e0;exact Au hd (by kernel_rfl)
  obtain⟨x3,q3,hm⟩:=Aa hm;refine gco (Dk hF q3) (by kernel_rfl) ?_;have e0:=Option.some.inj hm;subst e0;exact Au hd (by kernel_rfl)
def GU:Nat→g_api_Item→Int→Option Bool
 |0,_,_=>none
 |n+1,a0,a1=>Fg (GU n) a0 a1
def NY (a0:g_api_Item)(a1:Int):Option Bool:=GU A0 a0 a1
theorem OO: ∀n,J5 (GU n)
 |0=>fun hm=>by cases hm
 |n+1=>fun hm=>SJ (OO n) hm
theorem VM {a0:g_api_Item}{a1:Int}{r:Bool}(hm:NY a0 a1=some r):Sf prog 98 [ag (Af a0),.d (.i a1)] (.d (.t r)):=OO A0 hm
def AO (a0:List UInt8):Option (List UInt8):=Ac (app 1 ([]:List UInt8) a0) fun x1=>some x1
theorem Fl {m:Mem}{As:List Ow}{w:World}{a0:List UInt8}{a0v0:Value}{r:List UInt8}(S:St m (As) w)(a0h0:SlR m a0v0 a0)(hm:AO a0=some r):
  Aw Tryz.prog 158 #[a0v0] w fun v w'=> ∃(M:Mem),m≤M∧∃(rv0:Value) (rc0:List Value),St M ((row 1 rv0 rc0 r.length)::As) w'∧v=rv0∧Bw M rc0 r:=by
 unfold AO at hm;have L0:=Mem.rfl' m;refine CP (args:=[a0v0]) Tryz.func158 rfl Tryz.ntmps158 (Nat.le_of_ble_eq_true rfl) ?_;refine Ag ?_;refine Ad ?_;refine AP (v:= .slice none 0 0) rfl ?_;refine Ah ?_;refine nrm ?_;refine Ag ?_;refine Ag ?_;refine Ad ?_;refine Ap (v:=a0v0) rfl ?_;refine MV rfl rfl a0h0 Tryz.underlying52 ?_;refine Ah ?_;refine nrm ?_;refine Cq (t:=(Lx a0v0)) rfl (fun hc1=> ?_) (fun hc1=> ?_)
 ·have he1:a0=[]:=SlR.nilOf a0h0 hc1;rw[he1]at hm;replace hm:(some ([]:List UInt8))=some _:=hm;refine Ag ?_;refine Ad ?_;refine AP (v:= .slice none 0 0) rfl ?_;refine Ah ?_;refine nrm ?_;refine Be ?_;refine thR ?_;refine D3 ?_;intro we hpd;replace S:=St.pd S hpd;have S1:=St.rowNil S 1;have h1:Bw m [] ([]:List UInt8):=Bw.nil;replace S1:St _ ((row 1 (.slice none 0 0) [] ([]:List UInt8).length)::As) _:=S1;clear S;have e0:=Option.some.inj hm;subst e0;exact It [_] rfl ⟨rfl,trivial⟩ ⟨_,L0,_,_,S1,rfl,h1⟩
 refine AQ ?_;refine nrm ?_;refine Ag ?_;refine Ad ?_;refine JK (parts:=[]) (vs:=[]) (cls:=[]) (n:=0) (sz:=1) S Tryz.underlying52 Tryz.sizeOf5 Tryz.zeroValue5 rfl trivial rfl rfl (by decide) (by decide) ?_;intro v1 w1 S2;have h2:Bw m [] ([]:List UInt8):=Bw.nil;replace S2:St _ ((row 1 v1 [] ([]:List UInt8).length)::As) _:=S2;clear S;refine Ap (v:=a0v0) rfl ?_;obtain⟨x1,q1,hm⟩:=Aa hm;refine SZ (i:=0) (zs:=x1) (bytes:=1) (ti:=Tryz.t5) S2 rfl rfl h2 rfl rfl a0h0 q1 Tryz.underlying52 Tryz.type5 rfl rfl rfl rfl ?_;intro v2 c1 w2 S3 h3;replace S3:St _ ((row 1 v2 c1 x1.length)::As) _:=S3;clear S2;refine AP (v:=v2) rfl ?_;refine Ah ?_;refine nrm ?_;refine Be ?_;refine D3 ?_;intro we hpd;replace S3:=St.pd S3 hpd;have e0:=Option.some.inj hm;subst e0;exact It [_] rfl ⟨rfl,trivial⟩ ⟨_,L0,_,_,S3,rfl,h3⟩
theorem IC {a0:List UInt8}{r:List UInt8}(hm:AO a0=some r):Sp prog 158 [sl eB a0] [] 0 (is (.ow 0) [.row 0 1 _ eB r] 1):=
 ⟨call158,fun η m As w vs hv0 hd S=>by
  have S:St m As w:=S;obtain⟨v0,u0,rfl,r0,hv1⟩:=Bg.cons_inv hv0;have f0:=Br.ofS Br.b r0.dd;obtain rfl:=Bg.nil_inv hv1;refine Aw.mono (Fl S f0 hm) ?_;rintro v w' ⟨M,hle,y0,c0,S0,rfl,h0⟩;exact⟨M,(Aaz [v]),_,_,_,hle,TH hd _,⟨rfl,rfl,rfl⟩,Jk rfl,(.ow rfl (DZ S0)),(St.impL S0 (Aa9 (Br.toR Br.b rfl rfl (DZ S0) h0) fun _ h=>h))⟩⟩
def Ol (rF:(List UInt8)→g_api_Item→Option (List UInt8)):Prop:= ∀{a0:List UInt8} {a1:g_api_Item} {r:List UInt8},rF a0 a1=some r→Sp prog 99 [.ow 0,ag (Af a1)] [.row 0 1 _ eB a0] 1 (is (.ow 1) [.row 1 1 _ eB r] 2)
def CA (rF:(List UInt8)→g_api_Item→Option (List UInt8))(i1:Int)(x4:g_api_Item)(s1:(List UInt8)):Option ((List UInt8)):=Ac (rF s1 x4) fun x5=>some x5
def Et (rF:(List UInt8)→g_api_Item→Option (List UInt8))(a0:g_api_Item):Option (List UInt8):=Ac (AO a0.B) fun x1=>Ac (Ac (GN (CA rF) a0.L 0 x1) fun x3=>some x3) fun x2=>some x2
theorem Nt {rF:(List UInt8)→g_api_Item→Option (List UInt8)}(hF:Ol rF){a0:g_api_Item}{r:List UInt8}(hm:Et rF a0=some r):Sp prog 152 [ag (Af a0)] [] 0 (is (.ow 0) [.row 0 1 _ eB r] 1):=
 sp call152 func152 rfl ntmps152 rfl fun D0 As η0 m0 hd=>by
  unfold Et at hm;obtain⟨x1,q1,hm⟩:=Aa hm;refine gco (IC q1) (by kernel_rfl) ?_;obtain⟨x2,q2,hm⟩:=Aa hm;obtain⟨x3,q3,q2⟩:=Aa q2;refine Pb 0 (E:=Af) (xs:=a0.L) 10 (by kernel_rfl) fun hle1=> ?_;refine gjU 0 (fun(_:Unit)=>⟨[(3,.ow 1),(1,.pb 0 0)],[(0,.row 1 1 _ eB x2),(1,.box 0 [.d (.i a0.Tag),sl eB a0.B,sl Af a0.L] 79)],[],2⟩) (fun _=>True) (by kernel_rfl) (fun Jp bk1=> ?_) fun _ _=> ?_
  ·refine gjU 0 (fun(_:Unit)=>⟨[(3,.ow 1),(1,.pb 0 0)],[(0,.row 1 1 _ eB x3),(1,.box 0 [.d (.i a0.Tag),sl eB a0.B,sl Af a0.L] 79)],[],2⟩) (fun _=>True) (by kernel_rfl) (fun Jp bk2=> ?_) fun _ _=> ?_
   ·refine gl hd (fun(p:Int×((List UInt8)))=>let (p0,p_0):=p; ⟨[(3,.ow 1),(10,sl Af a0.L),(11,.d (.i (a0.L.length:Int))),(12,.d (.i p0)),(1,.pb 0 0)],[(0,.row 1 1 _ eB p_0),(1,.box 0 [.d (.i a0.Tag),sl eB a0.B,sl Af a0.L] 79)],[],2⟩) (fun p=> ∃i:Nat,p.1=(i:Int)∧i≤a0.L.length∧GN (CA rF) (a0.L.drop i) (i:Int) p.2=some x3) (fun p=>a0.L.length-p.1.toNat) (0,x1) ⟨0,rfl,Nat.zero_le _,q3⟩ (by kernel_rfl) ?_;rintro⟨_,s1⟩ ⟨i1,rfl,hi,q4⟩ Jl bl1;refine gi' (b:=decide ((i1:Int)<(a0.L.length:Int))) (by kernel_rfl) (fun hc1=> ?_) fun hc1=> ?_
    ·have hlt1:i1<a0.L.length:=by have:=of_decide_eq_true hc1; omega
     obtain⟨x4,y1,q7,q6,q5⟩:=Kf q4 hlt1;unfold CA at q6;refine Hc (k:=3) (E:=Af) (fun _=>rfl) (fun _=>q7) (by kernel_rfl) ?_;obtain⟨x5,q8,q6⟩:=Aa q6;refine gco (hF q8) (by kernel_rfl) ?_;have e0:=Option.some.inj q6;subst e0;exact gb bl1 hd (w64 ((i1:Int)+1),x5) ⟨⟨i1+1,Bf hlt1 hle1,by omega,q5⟩,H8 hlt1 hle1⟩ (by kernel_rfl)
    have hlt1: ¬i1<a0.L.length:=by have:=of_decide_eq_false hc1; omega
    have e:=Eq.symm (IQ q4 hlt1);subst e;exact gb bk2 hd () trivial (by kernel_rfl)
   have e0:=Option.some.inj q2;subst e0;exact gb bk1 hd () trivial (by kernel_rfl)
  have e0:=Option.some.inj hm;subst e0;exact Au hd (by kernel_rfl)
def HW (rF:(List UInt8)→g_api_Item→Option (List UInt8))(a0:List UInt8)(a1:g_api_Item):Option (List UInt8):=Ac ((Et rF) a1) fun x1=>Ac (app 1 a0 ([(toB a1.Tag)]:List UInt8)) fun x2=>Ac (bnd ((decide ((x1.length:Int)<128))) fun x4=>if x4=true then Ac (app 1 x2 ([(toB (x1.length:Int))]:List UInt8)) fun x5=>some x5 else bnd ((decide ((x1.length:Int)<256))) fun x6=>if x6=true then Ac (app 1 x2 ([129,(toB (x1.length:Int))]:List UInt8)) fun x7=>some x7 else Ac (app 1 x2 ([130,(toB (Dl (x1.length:Int) 8)),(toB (x1.length:Int))]:List UInt8)) fun x8=>some x8) fun x3=>Ac (app 1 x3 x1) fun x9=>some x9
theorem SI {rF:(List UInt8)→g_api_Item→Option (List UInt8)}(hF:Ol rF){a0:List UInt8}{a1:g_api_Item}{r:List UInt8}(hm:HW rF a0 a1=some r):Sp prog 99 [.ow 0,ag (Af a1)] [.row 0 1 _ eB a0] 1 (is (.ow 1) [.row 1 1 _ eB r] 2):=
 sp call99 func99 rfl ntmps99 rfl fun D0 As η0 m0 hd=>by
  unfold HW at hm;obtain⟨x1,q1,hm⟩:=Aa hm;refine gco (Nt hF q1) (by kernel_rfl) ?_;refine EC (k:=1) eB ([(toB a1.Tag)]:List UInt8) (fun _=>rfl) (by kernel_rfl) ?_;obtain⟨x2,q2,hm⟩:=Aa hm;refine KS (k:=1) (E:=eB) (fun _=>rfl) q2 (by kernel_rfl) ?_;obtain⟨x3,q3,hm⟩:=Aa hm;refine gjU 0 (fun(_:Unit)=>⟨[(0,.ow 3),(5,.ow 2),(3,.pb 1 0)],[(0,.row 3 1 _ eB x3),(1,.row 2 1 _ eB x1),(2,.box 1 [.d (.i a1.Tag),sl eB a1.B,sl Af a1.L] 79)],[],4⟩) (fun _=>True) (by kernel_rfl) (fun Jp bk1=> ?_) fun _ _=> ?_
  ·skip;have q3:=AE q3;let x4:Bool:=((decide ((x1.length:Int)<128)));refine gi q3 (by kernel_rfl) (fun hc1 q3=> ?_) fun hc1 q3=> ?_
   ·refine EC (k:=1) eB ([(toB (x1.length:Int))]:List UInt8) (fun _=>rfl) (by kernel_rfl) ?_;obtain⟨x5,q5,q3⟩:=Aa q3;refine KS (k:=1) (E:=eB) (fun _=>rfl) q5 (by kernel_rfl) ?_;have e0:=Option.some.inj q3;subst e0;exact gb bk1 hd () trivial (by kernel_rfl)
   have q3:=AE q3;let x6:Bool:=((decide ((x1.length:Int)<256)));refine gi q3 (by kernel_rfl) (fun hc2 q3=> ?_) fun hc2 q3=> ?_
   ·refine EC (k:=1) eB ([129,(toB (x1.length:Int))]:List UInt8) (fun _=>rfl) (by kernel_rfl) ?_;obtain⟨x7,q7,q3⟩:=Aa q3;refine KS (k:=1) (E:=eB) (fun _=>rfl) q7 (by kernel_rfl) ?_;have e0:=Option.some.inj q3;subst e0;exact gb bk1 hd () trivial (by kernel_rfl)
   refine EC (k:=1) eB ([130,(toB (Dl (x1.length:Int) 8)),(toB (x1.length:Int))]:List UInt8) (fun _=>rfl) (by kernel_rfl) ?_;obtain⟨x8,q8,q3⟩:=Aa q3;refine KS (k:=1) (E:=eB) (fun _=>rfl) q8 (by kernel_rfl) ?_;have e0:=Option.some.inj q3;subst e0;exact gb bk1 hd () trivial (by kernel_rfl)
  obtain⟨x9,q9,hm⟩:=Aa hm;refine KS (k:=1) (E:=eB) (fun _=>rfl) q9 (by kernel_rfl) ?_;have e0:=Option.some.inj hm;subst e0;exact Au hd (by kernel_rfl)
def FF:Nat→(List UInt8)→g_api_Item→Option (List UInt8)
 |0,_,_=>none
 |n+1,a0,a1=>HW (FF n) a0 a1
def NX (a0:List UInt8)(a1:g_api_Item):Option (List UInt8):=FF A0 a0 a1
theorem ON: ∀n,Ol (FF n)
 |0=>fun hm=>by cases hm
 |n+1=>fun hm=>SI (ON n) hm
theorem VL {a0:List UInt8}{a1:g_api_Item}{r:List UInt8}(hm:NX a0 a1=some r):Sp prog 99 [.ow 0,ag (Af a1)] [.row 0 1 _ eB a0] 1 (is (.ow 1) [.row 1 1 _ eB r] 2):=ON A0 hm
def G2 (a0:g_api_Item):Option ((List UInt8)×Int):=Ac (NY a0 8) fun x1=>if(!x1)=true then some (([]:List UInt8),1)else Ac (NX ([]:List UInt8) a0) fun x2=>if(decide ((x2.length:Int)>8192))=true then some (([]:List UInt8),2)else some (x2,0)
theorem Ro {a0:g_api_Item}{r:(List UInt8)×Int}(hm:G2 a0=some r):Sp prog 53 [ag (Af a0)] [] 0 (is (.tup [.ow 0,.d (.i r.2)]) [.row 0 1 _ eB r.1] 1):=
 sp call53 func53 rfl ntmps53 rfl fun D0 As η0 m0 hd=>by
  unfold G2 at hm;obtain⟨x1,q1,hm⟩:=Aa hm;refine gc (fun _=>VM q1) (by kernel_rfl) ?_;refine gi hm (by kernel_rfl) (fun hc1 hm=> ?_) fun hc1 hm=> ?_
  ·skip;refine Ab3 eB 2 1 (by kernel_rfl) ?_;have e0:=Option.some.inj hm;subst e0;exact Au hd (by kernel_rfl)
  obtain⟨x2,q2,hm⟩:=Aa hm;refine gco (Sp.nil0 (VL q2) rfl) (by kernel_rfl) ?_;refine gi hm (by kernel_rfl) (fun hc2 hm=> ?_) fun hc2 hm=> ?_
  ·skip;refine Ab3 eB 2 1 (by kernel_rfl) ?_;have e0:=Option.some.inj hm;subst e0;exact Au hd (by kernel_rfl)
  have e0:=Option.some.inj hm;subst e0;exact Au hd (by kernel_rfl)
def AX (a0:List g_api_Item):Option (List g_api_Item):=Ac (app 56 ([]:List g_api_Item) a0) fun x1=>some x1
theorem Gd {m:Mem}{As:List Ow}{w:World}{a0:List g_api_Item}{a0v0:Value}{r:List g_api_Item}(S:St m (As) w)(a0h0:SlR m a0v0 a0)(hm:AX a0=some r):
  Aw Tryz.prog 153 #[a0v0] w fun v w'=> ∃(M:Mem),m≤M∧∃(rv0:Value) (rc0:List Value),St M ((row 3 rv0 rc0 r.length)::As) w'∧v=rv0∧Bw M rc0 r:=by
 unfold AX at hm;have L0:=Mem.rfl' m;refine CP (args:=[a0v0]) Tryz.func153 rfl Tryz.ntmps153 (Nat.le_of_ble_eq_true rfl) ?_;refine Ag ?_;refine Ad ?_;refine AP (v:= .slice none 0 0) rfl ?_;refine Ah ?_;refine nrm ?_;refine Ag ?_;refine Ag ?_;refine Ad ?_;refine Ap (v:=a0v0) rfl ?_;refine MV rfl rfl a0h0 Tryz.underlying77 ?_;refine Ah ?_;refine nrm ?_;refine Cq (t:=(Lx a0v0)) rfl (fun hc1=> ?_) (fun hc1=> ?_)
 ·have he1:a0=[]:=SlR.nilOf a0h0 hc1;rw[he1]at hm;replace hm:(some ([]:List g_api_Item))=some _:=hm;refine Ag ?_;refine Ad ?_;refine AP (v:= .slice none 0 0) rfl ?_;refine Ah ?_;refine nrm ?_;refine Be ?_;refine thR ?_;refine D3 ?_;intro we hpd;replace S:=St.pd S hpd;have S1:=St.rowNil S 3;have h1:Bw m [] ([]:List g_api_Item):=Bw.nil;replace S1:St _ ((row 3 (.slice none 0 0) [] ([]:List g_api_Item).length)::As) _:=S1;clear S;have e0:=Option.some.inj hm;subst e0;exact It [_] rfl ⟨rfl,trivial⟩ ⟨_,L0,_,_,S1,rfl,h1⟩
 refine AQ ?_;refine nrm ?_;refine Ag ?_;refine Ad ?_;refine JK (parts:=[]) (vs:=[]) (cls:=[]) (n:=0) (sz:=3) S Tryz.underlying77 Tryz.sizeOf79 Tryz.zeroValue79 rfl trivial rfl rfl (by decide) (by decide) ?_;intro v1 w1 S2;have h2:Bw m [] ([]:List g_api_Item):=Bw.nil;replace S2:St _ ((row 3 v1 [] ([]:List g_api_Item).length)::As) _:=S2;clear S;refine Ap (v:=a0v0) rfl ?_;obtain⟨x1,q1,hm⟩:=Aa hm;refine SZ (i:=0) (zs:=x1) (bytes:=56) (ti:=Tryz.t79) S2 rfl rfl h2 rfl rfl a0h0 q1 Tryz.underlying77 Tryz.type79 rfl rfl rfl rfl ?_;intro v2 c1 w2 S3 h3;replace S3:St _ ((row 3 v2 c1 x1.length)::As) _:=S3;clear S2;refine AP (v:=v2) rfl ?_;refine Ah ?_;refine nrm ?_;refine Be ?_;refine D3 ?_;intro we hpd;replace S3:=St.pd S3 hpd;have e0:=Option.some.inj hm;subst e0;exact It [_] rfl ⟨rfl,trivial⟩ ⟨_,L0,_,_,S3,rfl,h3⟩
theorem Gi {a0:List g_api_Item}{r:List g_api_Item}(hm:AX a0=some r):Sp prog 153 [sl Af a0] [] 0 (is (.ow 0) [.row 0 3 _ Af r] 1):=
 ⟨call153,fun η m As w vs hv0 hd S=>by
  have S:St m As w:=S;obtain⟨v0,u0,rfl,r0,hv1⟩:=Bg.cons_inv hv0;have f0:=Br.ofS Mk r0.dd;obtain rfl:=Bg.nil_inv hv1;refine Aw.mono (Gd S f0 hm) ?_;rintro v w' ⟨M,hle,y0,c0,S0,rfl,h0⟩;exact⟨M,(Aaz [v]),_,_,_,hle,TH hd _,⟨rfl,rfl,rfl⟩,Jk rfl,(.ow rfl (DZ S0)),(St.impL S0 (Aa9 (Br.toR Mk rfl rfl (DZ S0) h0) fun _ h=>h))⟩⟩
def Eu (a0:List g_api_Item):Option g_api_Item:=Ac (AX a0) fun x1=>some (⟨48,[],x1⟩:g_api_Item)
theorem HA {a0:List g_api_Item}{r:g_api_Item}(hm:Eu a0=some r):Sf prog 100 [sl Af a0] (ag (Af r)):=
 sp call100 func100 rfl ntmps100 rfl fun D0 As η0 m0 hd=>by
  unfold Eu at hm;obtain⟨x1,q1,hm⟩:=Aa hm;refine gco (Gi q1) (by kernel_rfl) ?_;have e0:=Option.some.inj hm;subst e0;exact Au hd (by kernel_rfl)
def Ij (a0:Int)(i1:Int)(s1:UInt8×UInt8×UInt8×UInt8×UInt8×UInt8×UInt8×UInt8):Option (UInt8×UInt8×UInt8×UInt8×UInt8×UInt8×UInt8×UInt8):=if(0:Int)≤(w64 (56-(w64 (8*(i1:Int)))))then Ac (idx [s1.1,s1.2.1,s1.2.2.1,s1.2.2.2.1,s1.2.2.2.2.1,s1.2.2.2.2.2.1,s1.2.2.2.2.2.2.1,s1.2.2.2.2.2.2.2] (i1:Int)) fun x4=>bnd (if(i1:Int)=0 then(toB (Dl a0 ((w64 (56-(w64 (8*(i1:Int))))).toNat)))else s1.1) fun x5=>bnd (if(i1:Int)=1 then(toB (Dl a0 ((w64 (56-(w64 (8*(i1:Int))))).toNat)))else s1.2.1) fun x6=>bnd (if(i1:Int)=2 then(toB (Dl a0 ((w64 (56-(w64 (8*(i1:Int))))).toNat)))else s1.2.2.1) fun x7=>bnd (if(i1:Int)=3 then(toB (Dl a0 ((w64 (56-(w64 (8*(i1:Int))))).toNat)))else s1.2.2.2.1) fun x8=>bnd (if(i1:Int)=4 then(toB (Dl a0 ((w64 (56-(w64 (8*(i1:Int))))).toNat)))else s1.2.2.2.2.1) fun x9=>bnd (if(i1:Int)=5 then(toB (Dl a0 ((w64 (56-(w64 (8*(i1:Int))))).toNat)))else s1.2.2.2.2.2.1) fun x10=>bnd (if(i1:Int)=6 then(toB (Dl a0 ((w64 (56-(w64 (8*(i1:Int))))).toNat)))else s1.2.2.2.2.2.2.1) fun x11=>bnd (if(i1:Int)=7 then(toB (Dl a0 ((w64 (56-(w64 (8*(i1:Int))))).toNat)))else s1.2.2.2.2.2.2.2) fun x12=>some (x5,x6,x7,x8,x9,x10,x11,x12)else none
def CM (s2:(List UInt8)):Option (((List UInt8))⊕((List UInt8))):=Ac (if(decide ((s2.length:Int)>1))=true then Ac (Fh s2) fun x18=>some (!x18)else some false) fun x17=>if x17=true then Ac (cut s2 1 (s2.length:Int)) fun x19=>some (.inl x19)else some (.inr s2)
def DT (a0:Int):Option g_api_Item:=Ac (Ac (CW (Ij a0) 8 0 (0,0,0,0,0,0,0,0)) fun x2=>some (x2.1,x2.2.1,x2.2.2.1,x2.2.2.2.1,x2.2.2.2.2.1,x2.2.2.2.2.2.1,x2.2.2.2.2.2.2.1,x2.2.2.2.2.2.2.2)) fun x1=>Ac (Ac (iter CM A0 ([x1.1,x1.2.1,x1.2.2.1,x1.2.2.2.1,x1.2.2.2.2.1,x1.2.2.2.2.2.1,x1.2.2.2.2.2.2.1,x1.2.2.2.2.2.2.2]:List UInt8)) fun x14=>some x14) fun x13=>Ac (AO x13) fun x20=>some (⟨2,x20,[]⟩:g_api_Item)
theorem VN {m:Mem}{As:List Ow}{w:World}{a0:Int}{r:g_api_Item}(S:St m (As) w)(hm:DT a0=some r):
  Aw Tryz.prog 106 #[vI a0] w fun v w'=> ∃(M:Mem),m≤M∧∃(rv0_1:Value) (rv0_2:Value),St M (As) w'∧v= .agg #[vI r.Tag,rv0_1,rv0_2]∧SlR M rv0_1 r.B∧SlR M rv0_2 r.L:=by
 unfold DT at hm;have L0:=Mem.rfl' m;refine CP (args:=[vI a0]) Tryz.func106 rfl Tryz.ntmps106 (Nat.le_of_ble_eq_true rfl) ?_;refine Ag ?_;refine Ad ?_;refine ES S Tryz.zeroValue79 ?_;intro b1 w1 S1;replace S1:St _ ((bx b1 [vI 0,.slice none 0 0,.slice none 0 0] 79)::As) _:=S1;clear S;refine Ah ?_;refine nrm ?_;refine Ag ?_;refine Ad ?_;refine ES S1 Tryz.zeroValue155 ?_;intro b2 w2 S2;replace S2:St _ ((bx b2 [vB 0,vB 0,vB 0,vB 0,vB 0,vB 0,vB 0,vB 0] 155)::(bx b1 [vI 0,.slice none 0 0,.slice none 0 0] 79)::As) _:=S2;clear S1;refine Ah ?_;refine nrm ?_;obtain⟨x1,q1,hm⟩:=Aa hm;have L1:=Mem.rfl' m;refine Ag ?_;refine AT [4,6,7,8,9,10,11,12,13,14,15,16,17] (fun f' w'=> ∃(M1:Mem),m≤M1∧St M1 ((bx b2 [vB x1.1,vB x1.2.1,vB x1.2.2.1,vB x1.2.2.2.1,vB x1.2.2.2.2.1,vB x1.2.2.2.2.2.1,vB x1.2.2.2.2.2.2.1,vB x1.2.2.2.2.2.2.2] 155)::(bx b1 [vI 0,.slice none 0 0,.slice none 0 0] 79)::As) w'∧Cb f' []) ?_ ?_
 ·refine Ag ?_;refine Ad ?_;refine Ap (v:=vI 0) rfl ?_;refine Ah ?_;refine nrm ?_;obtain⟨x2,q2,q1⟩:=Aa q1;have L2:=Mem.rfl' m;refine AT [4,6,7,8,9,10,11,12,13,14,15,16,17] (fun f' w'=> ∃(M2:Mem),m≤M2∧St M2 ((bx b2 [vB x2.1,vB x2.2.1,vB x2.2.2.1,vB x2.2.2.2.1,vB x2.2.2.2.2.1,vB x2.2.2.2.2.2.1,vB x2.2.2.2.2.2.2.1,vB x2.2.2.2.2.2.2.2] 155)::(bx b1 [vI 0,.slice none 0 0,.slice none 0 0] 79)::As) w'∧Cb f' []) ?_ ?_
  ·refine Av ?_;refine BT [4,6,7,8,9,10,11,12,13,14,15,16,17] (fun n1 f' w'=> ∃(i1:Nat) (s1:UInt8×UInt8×UInt8×UInt8×UInt8×UInt8×UInt8×UInt8) (m2:Mem),n1=8-i1∧i1≤8∧CW (Ij a0) (8-i1) (i1:Int) s1=some x2∧m≤m2∧St m2 ((bx b2 [vB s1.1,vB s1.2.1,vB s1.2.2.1,vB s1.2.2.2.1,vB s1.2.2.2.2.1,vB s1.2.2.2.2.2.1,vB s1.2.2.2.2.2.2.1,vB s1.2.2.2.2.2.2.2] 155)::(bx b1 [vI 0,.slice none 0 0,.slice none 0 0] 79)::As) w'∧Cb f' [(6,vI (i1:Int))]) 8 ⟨0,(0,0,0,0,0,0,0,0),m,rfl,Nat.zero_le _,q2,L2,S2,⟨rfl,trivial⟩⟩ ?_;rintro n1 f1 w3 ho ⟨i1,s1,m1,hn,hi,q3,L4,S3,ha⟩;obtain⟨u1,rfl⟩:=BR (N:=32) ho ha;clear ho ha;have L3:=Mem.rfl' m1;clear S2;refine Ag ?_;refine Ad ?_;refine Kj (m:=(i1:Int)) (n:=8) rfl rfl ?_;refine Ah ?_;refine nrm ?_;refine Ag ?_;refine Cq (t:=decide ((i1:Int)<(8:Int))) rfl (fun hc1=> ?_) (fun hc1=> ?_)
   ·have hlt1:i1<8:=by have:=of_decide_eq_true hc1; omega
    obtain⟨y1,q5,q4⟩:=H0 q3 hlt1;unfold Ij at q5;refine AQ ?_;refine nrm ?_;refine Ag ?_;refine Av ?_;refine Ag ?_;refine Ad ?_;refine Ap (v:=vI (i1:Int)) rfl ?_;refine AP (v:=vI (i1:Int)) rfl ?_;refine Ah ?_;refine nrm ?_;refine Ad ?_;refine Ap (v:=vI (i1:Int)) rfl ?_;refine Ap (v:=vI a0) rfl ?_;refine Ap (v:=vI (i1:Int)) rfl ?_;refine OY (m:=8) (n:=(i1:Int)) rfl rfl ?_;refine My (m:=56) (n:=(w64 (8*(i1:Int)))) rfl rfl ?_;obtain⟨q7,q5⟩:=B8 q5;refine ZY (m:=a0) (n:=(w64 (56-(w64 (8*(i1:Int)))))) rfl rfl q7 ?_;refine Qc rfl Tryz.underlying3 Tryz.underlying5 ?_;obtain⟨x4,q8,q5⟩:=Aa q5;refine Ib (i:=(i1:Int)) rfl rfl Tryz.underlying155 Tryz.sizeOf5 (CB q8).1 (CB q8).2 ?_;obtain⟨x5,q9,q5⟩:=CC q5;obtain⟨x6,q10,q5⟩:=CC q5;obtain⟨x7,q11,q5⟩:=CC q5;obtain⟨x8,q12,q5⟩:=CC q5;obtain⟨x9,q13,q5⟩:=CC q5;obtain⟨x10,q14,q5⟩:=CC q5;obtain⟨x11,q15,q5⟩:=CC q5;obtain⟨x12,q16,q5⟩:=CC q5;refine YK (i:=0) (off:=0+(i1:Int).toNat*1) S3 rfl rfl rfl Tryz.sizeOf5 (TQ.all (IS rfl LZ)) (by rcases idx8 q8 with ⟨h,h'⟩|⟨h,h'⟩|⟨h,h'⟩|⟨h,h'⟩|⟨h,h'⟩|⟨h,h'⟩|⟨h,h'⟩|⟨h,h'⟩<;>(rw[h]; exact Nat.le_of_ble_eq_true rfl)) ?_;intro w4 S4;replace S4:=St.cellsTo (i:=0) (l':=[vB x5,vB x6,vB x7,vB x8,vB x9,vB x10,vB x11,vB x12]) S4 (by rcases idx8 q8 with ⟨h,h'⟩|⟨h,h'⟩|⟨h,h'⟩|⟨h,h'⟩|⟨h,h'⟩|⟨h,h'⟩|⟨h,h'⟩|⟨h,h'⟩<;>(simp only[q9,q10,q11,q12,q13,q14,q15,q16,h]; rfl)) rfl;replace S4:St _ ((bx b2 [vB x5,vB x6,vB x7,vB x8,vB x9,vB x10,vB x11,vB x12] 155)::(bx b1 [vI 0,.slice none 0 0,.slice none 0 0] 79)::As) _:=S4;clear S3;refine Ah ?_;refine Mb ?_;refine nrm ?_;refine Ad ?_;refine EW (m:=(i1:Int)) (n:=1) rfl rfl ?_;refine Ap (v:=vI (w64 ((i1:Int)+1))) rfl ?_;refine Ah ?_;refine nrm ?_;have e0:=Option.some.inj q5;subst e0;exact⟨E2,_,(by omega),⟨i1+1,(x5,x6,x7,x8,x9,x10,x11,x12),m1,rfl,hlt1,q4,Mem.tr L4 L3,S4,⟨congrArg (Value.int .i64) (Bf hlt1 (by decide)),trivial⟩⟩⟩
   have hlt1: ¬i1<8:=by have:=of_decide_eq_false hc1; omega
   have e:=Eq.symm (GM q3 hlt1);subst e;refine CD ?_;refine thE ?_;refine thE ?_;refine exB ?_;refine nrm ?_;exact⟨E2,m1,Mem.tr L4 L3,S3,trivial⟩
  rintro f2 w5 ho ⟨m3,l1,S5,ha⟩;obtain⟨u2,rfl⟩:=BR (N:=32) ho ha;clear ho ha;replace L1:=Mem.tr L1 l1;clear S2;have e0:=Option.some.inj q1;subst e0;exact⟨E2,m3,L1,S5,trivial⟩
 rintro f3 w6 ho ⟨m4,l2,S6,ha⟩;obtain⟨u3,rfl⟩:=BR (N:=32) ho ha;replace L0:=Mem.tr L0 l2;clear S2;refine Ag ?_;refine Ad ?_;refine MU (k:=8) (n:=8) (sz:=1) (off:=0) rfl Tryz.underlying155 Tryz.sizeOf5 (.inl ⟨rfl,rfl⟩) (Nat.le_refl _) ?_;have S7:=St.bxRow (i:=0) (sz:=1) (n:=8) S6 rfl rfl (by decide);have h1:Bw m4 [vB x1.1,vB x1.2.1,vB x1.2.2.1,vB x1.2.2.2.1,vB x1.2.2.2.2.1,vB x1.2.2.2.2.2.1,vB x1.2.2.2.2.2.2.1,vB x1.2.2.2.2.2.2.2] ([x1.1,x1.2.1,x1.2.2.1,x1.2.2.2.1,x1.2.2.2.2.1,x1.2.2.2.2.2.1,x1.2.2.2.2.2.2.1,x1.2.2.2.2.2.2.2]:List UInt8):=(Bw.cons (c:=[vB x1.1]) rfl (Bw.cons (c:=[vB x1.2.1]) rfl (Bw.cons (c:=[vB x1.2.2.1]) rfl (Bw.cons (c:=[vB x1.2.2.2.1]) rfl (Bw.cons (c:=[vB x1.2.2.2.2.1]) rfl (Bw.cons (c:=[vB x1.2.2.2.2.2.1]) rfl (Bw.cons (c:=[vB x1.2.2.2.2.2.2.1]) rfl (Bw.cons (c:=[vB x1.2.2.2.2.2.2.2]) rfl Bw.nil))))))));replace S7:St _ ((row 1 (.slice (some ⟨b2,0,none⟩) 8 8) [vB x1.1,vB x1.2.1,vB x1.2.2.1,vB x1.2.2.2.1,vB x1.2.2.2.2.1,vB x1.2.2.2.2.2.1,vB x1.2.2.2.2.2.2.1,vB x1.2.2.2.2.2.2.2] ([x1.1,x1.2.1,x1.2.2.1,x1.2.2.2.1,x1.2.2.2.2.1,x1.2.2.2.2.2.1,x1.2.2.2.2.2.2.1,x1.2.2.2.2.2.2.2]:List UInt8).length)::(bx b1 [vI 0,.slice none 0 0,.slice none 0 0] 79)::As) _:=S7;clear S6;refine AP (v:=(.slice (some ⟨b2,0,none⟩) 8 8)) rfl ?_;refine Ah ?_;refine nrm ?_;obtain⟨x13,q17,hm⟩:=Aa hm;have L5:=Mem.rfl' m4;refine Ag ?_;refine AT [5,19,20,21,22,23,24,25,26,27,28] (fun f' w'=> ∃(M3:Mem) (v1:Value),m4≤M3∧St M3 ((bx b1 [vI 0,.slice none 0 0,.slice none 0 0] 79)::As) w'∧SlR M3 v1 x13∧Cb f' [(5,v1)]) ?_ ?_
 ·obtain⟨x14,q18,q17⟩:=Aa q17;have L6:=Mem.rfl' m4;obtain⟨m5,l3,h4,S8⟩:=St.rowKeepT (i:=0) S7 rfl h1 rfl;replace L6:=Mem.tr L6 l3;clear S7;refine AT [5,19,20,21,22,23,24,25,26,27,28] (fun f' w'=> ∃(M4:Mem) (v3:Value),m4≤M4∧St M4 ((bx b1 [vI 0,.slice none 0 0,.slice none 0 0] 79)::As) w'∧SlR M4 v3 x14∧Cb f' [(5,v3)]) ?_ ?_
  ·refine Av ?_;refine BT [5,19,20,21,22,23,24,25,26,27,28] (fun n2 f' w'=> ∃(s2:(List UInt8)) (m10:Mem) (v2:Value),iter CM n2 s2=some x14∧m4≤m10∧St m10 ((bx b1 [vI 0,.slice none 0 0,.slice none 0 0] 79)::As) w'∧SlR m10 v2 s2∧Cb f' [(5,v2)]) A0 ⟨([x1.1,x1.2.1,x1.2.2.1,x1.2.2.2.1,x1.2.2.2.2.1,x1.2.2.2.2.2.1,x1.2.2.2.2.2.2.1,x1.2.2.2.2.2.2.2]:List UInt8),m5,_,q18,L6,S8,h4,⟨rfl,trivial⟩⟩ ?_;rintro n2 f4 w7 ho ⟨s2,m6,v2,q19,L8,S9,h3,ha⟩;obtain⟨u4,rfl⟩:=BR (N:=32) ho ha;clear ho ha;have L7:=Mem.rfl' m6;clear S8;cases n2 with
   |zero=>exact(Ar q19).elim
   |succ n2=>
    obtain⟨y2,q21,q20⟩:=Ao q19;unfold CM at q21;refine Ag ?_;refine Ag ?_;refine Ad ?_;refine Ap (v:=v2) rfl ?_;refine JL (xs:=s2) rfl h3 Tryz.underlying52 ?_;refine Ve (m:=(s2.length:Int)) (n:=1) rfl rfl ?_;refine Ap (v:=vb (decide ((s2.length:Int)>1))) rfl ?_;obtain⟨x17,q24,q21⟩:=Aa q21;have L9:=Mem.rfl' m6;refine Ps 4 [23,24,25,26] (fun f' w'=> ∃(M5:Mem),m6≤M5∧St M5 ((bx b1 [vI 0,.slice none 0 0,.slice none 0 0] 79)::As) w'∧Cb f' [(26,vb x17)]) ?_ ?_
    ·rcases QO (decide ((s2.length:Int)>1))with hb1|hb1
     ·replace q24:=ifT hb1 q24;refine E6 (d:=22) rfl rfl (congrArg Value.bool hb1) ?_;refine Ap (v:=v2) rfl ?_;refine E6 (d:=22) rfl rfl (congrArg Value.bool hb1) ?_;obtain⟨x18,q25,q24⟩:=Aa q24;refine Cx Tryz.call157 (SM (a0:=s2) S9 h3 q25) rfl ?_;rintro _ w9 ⟨m8,l5,S11,rfl⟩;replace h3:=h3.up l5;replace L9:=Mem.tr L9 l5;clear S9;replace S11:St _ ((bx b1 [vI 0,.slice none 0 0,.slice none 0 0] 79)::As) _:=S11;refine E6 (d:=22) rfl rfl (congrArg Value.bool hb1) ?_;refine SW rfl ?_;refine I0 (congrArg Value.bool hb1) rfl ?_;refine Ah (nrm ?_);have e0:=Option.some.inj q24;subst e0;exact⟨E2,m8,L9,S11,⟨rfl,trivial⟩⟩
     replace q24:=ifF hb1 q24;refine Gj (d:=22) rfl rfl (congrArg Value.bool hb1) ?_;refine Gj (d:=22) rfl rfl (congrArg Value.bool hb1) ?_;refine Gj (d:=22) rfl rfl (congrArg Value.bool hb1) ?_;refine I1 (congrArg Value.bool hb1) rfl ?_;refine Ah (nrm ?_);have e0:=Option.some.inj q24;subst e0;exact⟨E2,m6,L9,S9,⟨rfl,trivial⟩⟩
    rintro f5 w10 ho ⟨m9,l6,S12,ha⟩;obtain⟨u5,rfl⟩:=BR (N:=32) ho ha;replace h3:=h3.up l6;replace L7:=Mem.tr L7 l6;clear S9;refine Ah ?_;refine nrm ?_;refine Cq (t:=x17) rfl (fun hc2=> ?_) (fun hc2=> ?_)
    ·replace q21:=ifT hc2 q21;refine AQ ?_;refine nrm ?_;refine Av ?_;refine Ad ?_;refine Ap (v:=v2) rfl ?_;obtain⟨x19,q26,q21⟩:=Aa q21;refine SX (ys:=x19) (l:=1) (h:=(s2.length:Int)) rfl h3 Tryz.underlying52 Tryz.sizeOf5 (.inr ⟨_,rfl⟩) (.inl ⟨rfl,rfl⟩) (.inl rfl) q26 ?_;intro v4 h6;refine AP (v:=v4) rfl ?_;refine Ah ?_;refine Mb ?_;refine nrm ?_;have e0:=Option.some.inj q21;subst e0;rcases q20 with ⟨sn,e,q20'⟩|e
     ·cases e;exact⟨E2,_,Nat.lt_succ_self _,⟨_,m9,_,q20',Mem.tr L8 L7,S12,h6,⟨rfl,trivial⟩⟩⟩
     ·cases e
    replace q21:=ifF hc2 q21;refine CD ?_;refine thE ?_;refine thE ?_;refine exB ?_;refine nrm ?_;have e0:=Option.some.inj q21;subst e0;rcases q20 with ⟨sn,e,_⟩|e
    ·cases e
    ·cases e;exact⟨E2,m9,_,Mem.tr L8 L7,S12,h3,⟨rfl,trivial⟩⟩
  rintro f6 w11 ho ⟨m11,v3,l7,S13,h5,ha⟩;obtain⟨u6,rfl⟩:=BR (N:=32) ho ha;clear ho ha;replace L5:=Mem.tr L5 l7;clear S8;have e0:=Option.some.inj q17;subst e0;exact⟨E2,m11,_,L5,S13,h5,⟨rfl,trivial⟩⟩
 rintro f7 w12 ho ⟨m12,v1,l8,S14,h2,ha⟩;obtain⟨u7,rfl⟩:=BR (N:=32) ho ha;replace L0:=Mem.tr L0 l8;clear S7;refine Ag ?_;refine Ad ?_;refine Ap (v:=v1) rfl ?_;obtain⟨x20,q27,hm⟩:=Aa hm;refine Cx Tryz.call158 (Fl (a0:=x13) S14 h2 q27) rfl ?_;rintro v5 w13 ⟨m13,l9,_,c1,S15,rfl,h7⟩;replace h2:=h2.up l9;replace L0:=Mem.tr L0 l9;clear S14;replace S15:St _ ((row 1 v5 c1 x20.length)::(bx b1 [vI 0,.slice none 0 0,.slice none 0 0] 79)::As) _:=S15;obtain⟨m14,l10,h8,S16⟩:=St.rowKeepT (i:=0) S15 rfl h7 rfl;replace L0:=Mem.tr L0 l10;clear S15;refine SY (parts:=[(0,.const (.int .i64 2)),(1,.tmp 30)]) (ps:=[(0,vI 2,[vI 2]),(1,v5,[v5])]) (cs:=[vI 2,v5,.slice none 0 0]) Tryz.zeroValue79 (Jn.str (ss:=[1,1,1]) Tryz.underlying79 ⟨Tryz.sizeOf3,Tryz.sizeOf52,Tryz.sizeOf77,trivial⟩) rfl ⟨rfl,SlR.cells h8,trivial⟩ rfl ?_;refine IB (i:=0) S16 rfl rfl rfl Tryz.sizeOf79 (IS rfl (IS (SlR.one h8) (IS rfl LZ))) rfl ?_;intro w14 S17;replace S17:St _ ((bx b1 [vI 2,v5,.slice none 0 0] 79)::As) _:=S17;clear S16;refine Ah ?_;refine nrm ?_;refine Be ?_;refine D3 ?_;intro we hpd;replace S17:=St.pd S17 hpd;have SR:=S17;obtain⟨m15,l11,S18⟩:=St.drop S17 0;replace h8:=h8.up l11;replace L0:=Mem.tr L0 l11;replace S18:St _ (As) _:=S18;have e0:=Option.some.inj hm;subst e0;exact It [_] rfl ⟨Io (i:=0) (off:=0) (cs:=[vI 2,v5,.slice none 0 0]) SR rfl rfl Tryz.isAgg79 Tryz.sizeOf79 rfl (fun h=>by cases h),trivial⟩ ⟨_,L0,_,_,S18,rfl,h8,SlR.nil⟩
theorem HF {a0:Int}{r:g_api_Item}(hm:DT a0=some r):Sf prog 106 [.d (.i a0)] (ag (Af r)):=
 ⟨call106,fun η m As w vs hv0 hd S=>by
  have S:St m As w:=S;obtain⟨v0,u0,rfl,r0,hv1⟩:=Bg.cons_inv hv0;obtain rfl:=r0.i_inv;obtain rfl:=Bg.nil_inv hv1;refine Aw.mono (VN S hm) ?_;rintro v w' ⟨M,hle,y0_0,y0_1,S0,rfl,h0_0,h0_1⟩;exact⟨M,none0,_,_,_,hle,TH hd _,⟨rfl,rfl,rfl⟩,fun n h=>absurd rfl h,(Br.toA Mk (Qr h0_0 h0_1)),S0⟩⟩
def Dq (a0:UInt64):Option g_api_Item:=Ac (DT (w64 (a0.toNat:Int))) fun x1=>some x1
theorem Gq {a0:UInt64}{r:g_api_Item}(hm:Dq a0=some r):Sf prog 101 [.d (.u a0)] (ag (Af r)):=
 sp call101 func101 rfl ntmps101 rfl fun D0 As η0 m0 hd=>by
  unfold Dq at hm;obtain⟨x1,q1,hm⟩:=Aa hm;refine gc (fun _=>HF q1) (by kernel_rfl) ?_;have e0:=Option.some.inj hm;subst e0;exact Au hd (by kernel_rfl)
def GI (a0:ByteArray):Option g_api_Item:=Ac (app 1 ([]:List UInt8) a0.data.toList) fun x1=>some (⟨12,x1,[]⟩:g_api_Item)
theorem LM {a0:ByteArray}{r:g_api_Item}(hm:GI a0=some r):Sf prog 154 [.d (.s a0)] (ag (Af r)):=
 sp call154 func154 rfl ntmps154 rfl fun D0 As η0 m0 hd=>by
  unfold GI at hm;obtain⟨x1,q1,hm⟩:=Aa hm;refine gofS q1 (by kernel_rfl) ?_;have e0:=Option.some.inj hm;subst e0;exact Au hd (by kernel_rfl)
def Kb (a0:Bool):Option g_api_Item:=Ac (if a0=true then Ac (idx ([0]:List UInt8) 0) fun x2=>bnd (([0]:List UInt8).set (0:Int).toNat 255) fun x3=>some x3 else some ([0]:List UInt8)) fun x1=>some (⟨1,x1,[]⟩:g_api_Item)
theorem U7 {a0:Bool}{r:g_api_Item}(hm:Kb a0=some r):Sf prog 156 [.d (.t a0)] (ag (Af r)):=
 sp call156 func156 rfl ntmps156 rfl fun D0 As η0 m0 hd=>by
  unfold Kb at hm;refine VB (k:=1) eB ([0]:List UInt8) (fun _=>rfl) (by kernel_rfl) ?_;obtain⟨x1,q1,hm⟩:=Aa hm;refine gj (fun(_:Unit)=>⟨[(2,.pb 0 0),(3,.ow 1)],[(0,.row 1 1 _ eB x1),(1,.box 0 [.d (.i 0),sl eB [],sl Af []] 79)],[],2⟩) (fun _=>True) (by kernel_rfl) (fun Jp bk1=> ?_) fun _ _=> ?_
  ·refine gi q1 (by kernel_rfl) (fun hc1 q1=> ?_) fun hc1 q1=> ?_
   ·obtain⟨x2,q2,q1⟩:=Aa q1;refine TB (E:=eB) (fun _=>q2) (by kernel_rfl) ?_;have q1:=AE q1;let x3:List UInt8:=(([0]:List UInt8).set (0:Int).toNat 255);refine gstO (k:=1) (E:=eB) 255 (fun _=>rfl) q2 (by kernel_rfl) ?_;have e0:=Option.some.inj q1;subst e0;exact gb bk1 hd () trivial (by kernel_rfl)
   have e0:=Option.some.inj q1;subst e0;exact gb bk1 hd () trivial (by kernel_rfl)
  have e0:=Option.some.inj hm;subst e0;exact Au hd (by kernel_rfl)
def AR (i1:Int)(x3:ByteArray)(s1:(List g_api_Item)):Option ((List g_api_Item)):=Ac (GI x3) fun x4=>Ac (app 56 s1 ([x4]:List g_api_Item)) fun x5=>some x5
def BU (a0:List ByteArray):Option g_api_Item:=Ac (Ac (GN AR a0 0 ([]:List g_api_Item)) fun x2=>some x2) fun x1=>Ac (Eu x1) fun x6=>some x6
theorem Gk {a0:List ByteArray}{r:g_api_Item}(hm:BU a0=some r):Sf prog 155 [sl eS a0,.fn (.func 154) [] []] (ag (Af r)):=
 sp call155 func155 rfl ntmps155 rfl fun D0 As η0 m0 hd=>by
  unfold BU at hm;obtain⟨x1,q1,hm⟩:=Aa hm;obtain⟨x2,q2,q1⟩:=Aa q1;refine Vr 0 Af 5 3 (by kernel_rfl) ?_;refine Pb 0 (E:=eS) (xs:=a0) 8 (by kernel_rfl) fun hle1=> ?_;refine gjU 0 (fun(_:Unit)=>⟨[(4,.pb 0 0),(5,.ow 1)],[(0,.row 1 3 _ Af x1),(1,.box 0 [.d (.i 0),sl eB [],sl Af []] 79)],[],2⟩) (fun _=>True) (by kernel_rfl) (fun Jp bk1=> ?_) fun _ _=> ?_
  ·refine gjU 0 (fun(_:Unit)=>⟨[(4,.pb 0 0),(5,.ow 1)],[(0,.row 1 3 _ Af x2),(1,.box 0 [.d (.i 0),sl eB [],sl Af []] 79)],[],2⟩) (fun _=>True) (by kernel_rfl) (fun Jp bk2=> ?_) fun _ _=> ?_
   ·refine gl hd (fun(p:Int×((List g_api_Item)))=>let (p0,p_0):=p; ⟨[(1,.fn (.func 154) [] []),(4,.pb 0 0),(5,.ow 1),(8,sl eS a0),(9,.d (.i (a0.length:Int))),(10,.d (.i p0))],[(0,.row 1 3 _ Af p_0),(1,.box 0 [.d (.i 0),sl eB [],sl Af []] 79)],[],2⟩) (fun p=> ∃i:Nat,p.1=(i:Int)∧i≤a0.length∧GN AR (a0.drop i) (i:Int) p.2=some x2) (fun p=>a0.length-p.1.toNat) (0,([]:List g_api_Item)) ⟨0,rfl,Nat.zero_le _,q2⟩ (by kernel_rfl) ?_;rintro⟨_,s1⟩ ⟨i1,rfl,hi,q3⟩ Jl bl1;refine gi' (b:=decide ((i1:Int)<(a0.length:Int))) (by kernel_rfl) (fun hc1=> ?_) fun hc1=> ?_
    ·have hlt1:i1<a0.length:=by have:=of_decide_eq_true hc1; omega
     obtain⟨x3,y1,q6,q5,q4⟩:=Kf q3 hlt1;unfold AR at q5;refine Hc (k:=1) (E:=eS) (fun _=>rfl) (fun _=>q6) (by kernel_rfl) ?_;obtain⟨x4,q7,q5⟩:=Aa q5;refine gc (fun _=>LM q7) (by kernel_rfl) ?_;refine EC (k:=3) Af ([x4]:List g_api_Item) (fun _=>rfl) (by kernel_rfl) ?_;obtain⟨x5,q8,q5⟩:=Aa q5;refine KS (k:=3) (E:=Af) (fun _=>rfl) q8 (by kernel_rfl) ?_;have e0:=Option.some.inj q5;subst e0;exact gb bl1 hd (w64 ((i1:Int)+1),x5) ⟨⟨i1+1,Bf hlt1 hle1,by omega,q4⟩,H8 hlt1 hle1⟩ (by kernel_rfl)
    have hlt1: ¬i1<a0.length:=by have:=of_decide_eq_false hc1; omega
    have e:=Eq.symm (IQ q3 hlt1);subst e;exact gb bk2 hd () trivial (by kernel_rfl)
   have e0:=Option.some.inj q1;subst e0;exact gb bk1 hd () trivial (by kernel_rfl)
  obtain⟨x6,q9,hm⟩:=Aa hm;refine gco (HA q9) (by kernel_rfl) ?_;have e0:=Option.some.inj hm;subst e0;exact Au hd (by kernel_rfl)
def IN (a0:g_api_Cert):Option g_api_Item:=Ac (DT a0.Serial) fun x1=>Ac (GI a0.Issuer) fun x2=>Ac (GI a0.Subject) fun x3=>Ac (Dq a0.Key) fun x4=>Ac (BU a0.Names) fun x5=>Ac (DT a0.From) fun x6=>Ac (DT a0.Until) fun x7=>Ac (Kb a0.Ca) fun x8=>Ac (DT a0.Depth) fun x9=>Ac (BU a0.Permit) fun x10=>Ac (Eu ([x1,x2,x3,x4,x5,x6,x7,x8,x9,x10]:List g_api_Item)) fun x11=>some x11
theorem U8 {a0:g_api_Cert}{r:g_api_Item}(hm:IN a0=some r):Sf prog 103 [ag (Ae a0)] (ag (Af r)):=
 sp call103 func103 rfl ntmps103 rfl fun D0 As η0 m0 hd=>by
  unfold IN at hm;obtain⟨x1,q1,hm⟩:=Aa hm;refine gc (fun _=>HF q1) (by kernel_rfl) ?_;obtain⟨x2,q2,hm⟩:=Aa hm;refine gc (fun _=>LM q2) (by kernel_rfl) ?_;obtain⟨x3,q3,hm⟩:=Aa hm;refine gc (fun _=>LM q3) (by kernel_rfl) ?_;obtain⟨x4,q4,hm⟩:=Aa hm;refine gc (fun _=>Gq q4) (by kernel_rfl) ?_;obtain⟨x5,q5,hm⟩:=Aa hm;refine gc (fun _=>Gk q5) (by kernel_rfl) ?_;obtain⟨x6,q6,hm⟩:=Aa hm;refine gc (fun _=>HF q6) (by kernel_rfl) ?_;obtain⟨x7,q7,hm⟩:=Aa hm;refine gc (fun _=>HF q7) (by kernel_rfl) ?_;obtain⟨x8,q8,hm⟩:=Aa hm;refine gc (fun _=>U7 q8) (by kernel_rfl) ?_;obtain⟨x9,q9,hm⟩:=Aa hm;refine gc (fun _=>HF q9) (by kernel_rfl) ?_;obtain⟨x10,q10,hm⟩:=Aa hm;refine gc (fun _=>Gk q10) (by kernel_rfl) ?_;refine EC (k:=3) Af ([x1,x2,x3,x4,x5,x6,x7,x8,x9,x10]:List g_api_Item) (fun _=>rfl) (by kernel_rfl) ?_;obtain⟨x11,q11,hm⟩:=Aa hm;refine gc (fun _=>HA q11) (by kernel_rfl) ?_;have e0:=Option.some.inj hm;subst e0;exact Au hd (by kernel_rfl)
def F6 (a0:g_api_Promise):Option g_api_Item:=Ac (DT a0.Log) fun x1=>Ac (DT a0.At) fun x2=>Ac (Dq a0.Leaf.1) fun x3=>Ac (Dq a0.Leaf.2) fun x4=>Ac (Dq a0.Sig.E) fun x5=>Ac (Dq a0.Sig.S) fun x6=>Ac (Eu ([x1,x2,x3,x4,x5,x6]:List g_api_Item)) fun x7=>some x7
theorem PY {a0:g_api_Promise}{r:g_api_Item}(hm:F6 a0=some r):Sf prog 105 [ag (Ai a0)] (ag (Af r)):=
 sp call105 func105 rfl ntmps105 rfl fun D0 As η0 m0 hd=>by
  unfold F6 at hm;obtain⟨x1,q1,hm⟩:=Aa hm;refine gc (fun _=>HF q1) (by kernel_rfl) ?_;obtain⟨x2,q2,hm⟩:=Aa hm;refine gc (fun _=>HF q2) (by kernel_rfl) ?_;obtain⟨x3,q3,hm⟩:=Aa hm;refine gc (fun _=>Gq q3) (by kernel_rfl) ?_;obtain⟨x4,q4,hm⟩:=Aa hm;refine gc (fun _=>Gq q4) (by kernel_rfl) ?_;obtain⟨x5,q5,hm⟩:=Aa hm;refine gc (fun _=>Gq q5) (by kernel_rfl) ?_;obtain⟨x6,q6,hm⟩:=Aa hm;refine gc (fun _=>Gq q6) (by kernel_rfl) ?_;refine EC (k:=3) Af ([x1,x2,x3,x4,x5,x6]:List g_api_Item) (fun _=>rfl) (by kernel_rfl) ?_;obtain⟨x7,q7,hm⟩:=Aa hm;refine gc (fun _=>HA q7) (by kernel_rfl) ?_;have e0:=Option.some.inj hm;subst e0;exact Au hd (by kernel_rfl)
def AD (i1:Int)(x3:g_api_Promise)(s1:(List g_api_Item)):Option ((List g_api_Item)):=Ac (F6 x3) fun x4=>Ac (app 56 s1 ([x4]:List g_api_Item)) fun x5=>some x5
def BI (a0:List g_api_Promise):Option g_api_Item:=Ac (Ac (GN AD a0 0 ([]:List g_api_Item)) fun x2=>some x2) fun x1=>Ac (Eu x1) fun x6=>some x6
theorem HB {a0:List g_api_Promise}{r:g_api_Item}(hm:BI a0=some r):Sf prog 104 [sl Ai a0,.fn (.func 105) [] []] (ag (Af r)):=
 sp call104 func104 rfl ntmps104 rfl fun D0 As η0 m0 hd=>by
  unfold BI at hm;obtain⟨x1,q1,hm⟩:=Aa hm;obtain⟨x2,q2,q1⟩:=Aa q1;refine Vr 0 Af 5 3 (by kernel_rfl) ?_;refine Pb 0 (E:=Ai) (xs:=a0) 8 (by kernel_rfl) fun hle1=> ?_;refine gjU 0 (fun(_:Unit)=>⟨[(4,.pb 0 0),(5,.ow 1)],[(0,.row 1 3 _ Af x1),(1,.box 0 [.d (.i 0),sl eB [],sl Af []] 79)],[],2⟩) (fun _=>True) (by kernel_rfl) (fun Jp bk1=> ?_) fun _ _=> ?_
  ·refine gjU 0 (fun(_:Unit)=>⟨[(4,.pb 0 0),(5,.ow 1)],[(0,.row 1 3 _ Af x2),(1,.box 0 [.d (.i 0),sl eB [],sl Af []] 79)],[],2⟩) (fun _=>True) (by kernel_rfl) (fun Jp bk2=> ?_) fun _ _=> ?_
   ·refine gl hd (fun(p:Int×((List g_api_Item)))=>let (p0,p_0):=p; ⟨[(1,.fn (.func 105) [] []),(4,.pb 0 0),(5,.ow 1),(8,sl Ai a0),(9,.d (.i (a0.length:Int))),(10,.d (.i p0))],[(0,.row 1 3 _ Af p_0),(1,.box 0 [.d (.i 0),sl eB [],sl Af []] 79)],[],2⟩) (fun p=> ∃i:Nat,p.1=(i:Int)∧i≤a0.length∧GN AD (a0.drop i) (i:Int) p.2=some x2) (fun p=>a0.length-p.1.toNat) (0,([]:List g_api_Item)) ⟨0,rfl,Nat.zero_le _,q2⟩ (by kernel_rfl) ?_;rintro⟨_,s1⟩ ⟨i1,rfl,hi,q3⟩ Jl bl1;refine gi' (b:=decide ((i1:Int)<(a0.length:Int))) (by kernel_rfl) (fun hc1=> ?_) fun hc1=> ?_
    ·have hlt1:i1<a0.length:=by have:=of_decide_eq_true hc1; omega
     obtain⟨x3,y1,q6,q5,q4⟩:=Kf q3 hlt1;unfold AD at q5;refine Hc (k:=6) (E:=Ai) (fun _=>rfl) (fun _=>q6) (by kernel_rfl) ?_;obtain⟨x4,q7,q5⟩:=Aa q5;refine gc (fun _=>PY q7) (by kernel_rfl) ?_;refine EC (k:=3) Af ([x4]:List g_api_Item) (fun _=>rfl) (by kernel_rfl) ?_;obtain⟨x5,q8,q5⟩:=Aa q5;refine KS (k:=3) (E:=Af) (fun _=>rfl) q8 (by kernel_rfl) ?_;have e0:=Option.some.inj q5;subst e0;exact gb bl1 hd (w64 ((i1:Int)+1),x5) ⟨⟨i1+1,Bf hlt1 hle1,by omega,q4⟩,H8 hlt1 hle1⟩ (by kernel_rfl)
    have hlt1: ¬i1<a0.length:=by have:=of_decide_eq_false hc1; omega
    have e:=Eq.symm (IQ q3 hlt1);subst e;exact gb bk2 hd () trivial (by kernel_rfl)
   have e0:=Option.some.inj q1;subst e0;exact gb bk1 hd () trivial (by kernel_rfl)
  obtain⟨x6,q9,hm⟩:=Aa hm;refine gco (HA q9) (by kernel_rfl) ?_;have e0:=Option.some.inj hm;subst e0;exact Au hd (by kernel_rfl)
def GK (a0:g_api_Cert):Option g_api_Item:=Ac (IN a0) fun x1=>Ac (BI a0.Proms) fun x2=>Ac (Eu ([x1,x2]:List g_api_Item)) fun x3=>some x3
theorem Nz {a0:g_api_Cert}{r:g_api_Item}(hm:GK a0=some r):Sf prog 59 [ag (Ae a0)] (ag (Af r)):=
 sp call59 func59 rfl ntmps59 rfl fun D0 As η0 m0 hd=>by
  unfold GK at hm;obtain⟨x1,q1,hm⟩:=Aa hm;refine gc (fun _=>U8 q1) (by kernel_rfl) ?_;obtain⟨x2,q2,hm⟩:=Aa hm;refine gc (fun _=>HB q2) (by kernel_rfl) ?_;refine EC (k:=3) Af ([x1,x2]:List g_api_Item) (fun _=>rfl) (by kernel_rfl) ?_;obtain⟨x3,q3,hm⟩:=Aa hm;refine gc (fun _=>HA q3) (by kernel_rfl) ?_;have e0:=Option.some.inj hm;subst e0;exact Au hd (by kernel_rfl)
def G3 (a0:g_api_Cert):Option g_api_Item:=Ac (GK a0) fun x1=>Ac (Dq a0.Sig.E) fun x2=>Ac (Dq a0.Sig.S) fun x3=>Ac (Eu ([x2,x3]:List g_api_Item)) fun x4=>Ac (Eu ([x1,x4]:List g_api_Item)) fun x5=>some x5
theorem Rt {a0:g_api_Cert}{r:g_api_Item}(hm:G3 a0=some r):Sf prog 54 [ag (Ae a0)] (ag (Af r)):=
 sp call54 func54 rfl ntmps54 rfl fun D0 As η0 m0 hd=>by
  unfold G3 at hm;obtain⟨x1,q1,hm⟩:=Aa hm;refine gc (fun _=>Nz q1) (by kernel_rfl) ?_;obtain⟨x2,q2,hm⟩:=Aa hm;refine gc (fun _=>Gq q2) (by kernel_rfl) ?_;obtain⟨x3,q3,hm⟩:=Aa hm;refine gc (fun _=>Gq q3) (by kernel_rfl) ?_;refine EC (k:=3) Af ([x2,x3]:List g_api_Item) (fun _=>rfl) (by kernel_rfl) ?_;obtain⟨x4,q4,hm⟩:=Aa hm;refine gc (fun _=>HA q4) (by kernel_rfl) ?_;refine EC (k:=3) Af ([x1,x4]:List g_api_Item) (fun _=>rfl) (by kernel_rfl) ?_;obtain⟨x5,q5,hm⟩:=Aa hm;refine gc (fun _=>HA q5) (by kernel_rfl) ?_;have e0:=Option.some.inj hm;subst e0;exact Au hd (by kernel_rfl)
def Ey (a0:g_api_Cert):Option Int:=Ac (F5 a0) fun x1=>if(!x1)=true then some 1 else Ac (G3 a0) fun x2=>Ac (G2 x2) fun x3=>if((x3.2 !=0)||(decide ((x3.1.length:Int)>2048)))=true then some 2 else some 0
theorem JD {a0:g_api_Cert}{r:Int}(hm:Ey a0=some r):Sf prog 25 [ag (Ae a0)] (.d (.i r)):=
 sp call25 func25 rfl ntmps25 rfl fun D0 As η0 m0 hd=>by
  unfold Ey at hm;obtain⟨x1,q1,hm⟩:=Aa hm;refine gc (fun _=>PX q1) (by kernel_rfl) ?_;refine gi hm (by kernel_rfl) (fun hc1 hm=> ?_) fun hc1 hm=> ?_
  ·skip;have e0:=Option.some.inj hm;subst e0;exact Au hd (by kernel_rfl)
  obtain⟨x2,q2,hm⟩:=Aa hm;refine gc (fun _=>Rt q2) (by kernel_rfl) ?_;obtain⟨x3,q3,hm⟩:=Aa hm;refine gco (Ro q3) (by kernel_rfl) ?_;refine gi hm (by kernel_rfl) (fun hc2 hm=> ?_) fun hc2 hm=> ?_
  ·skip;have e0:=Option.some.inj hm;subst e0;exact Au hd (by kernel_rfl)
  have e0:=Option.some.inj hm;subst e0;exact Au hd (by kernel_rfl)
def E4 (a0:g_api_Cert):Option ((List UInt8)×Int):=Ac (Ey a0) fun x1=>if(x1 !=0)=true then some (([]:List UInt8),x1)else Ac (GK a0) fun x2=>Ac (G2 x2) fun x3=>some (x3.1,x3.2)
theorem MM {a0:g_api_Cert}{r:(List UInt8)×Int}(hm:E4 a0=some r):Sp prog 58 [ag (Ae a0),.fn (.func 59) [] []] [] 0 (is (.tup [.ow 0,.d (.i r.2)]) [.row 0 1 _ eB r.1] 1):=
 sp call58 func58 rfl ntmps58 rfl fun D0 As η0 m0 hd=>by
  unfold E4 at hm;obtain⟨x1,q1,hm⟩:=Aa hm;refine gc (fun _=>JD q1) (by kernel_rfl) ?_;refine gi hm (by kernel_rfl) (fun hc1 hm=> ?_) fun hc1 hm=> ?_
  ·skip;refine Ab3 eB 4 1 (by kernel_rfl) ?_;have e0:=Option.some.inj hm;subst e0;exact Au hd (by kernel_rfl)
  obtain⟨x2,q2,hm⟩:=Aa hm;refine gc (fun _=>Nz q2) (by kernel_rfl) ?_;obtain⟨x3,q3,hm⟩:=Aa hm;refine gco (Ro q3) (by kernel_rfl) ?_;have e0:=Option.some.inj hm;subst e0;exact Au hd (by kernel_rfl)
def GL (a0:g_api_Cert):Option ((List UInt8)×Int):=Ac (E4 a0) fun x1=>some (x1.1,x1.2)
theorem NA {a0:g_api_Cert}{r:(List UInt8)×Int}(hm:GL a0=some r):Sp prog 28 [ag (Ae a0)] [] 0 (is (.tup [.ow 0,.d (.i r.2)]) [.row 0 1 _ eB r.1] 1):=
 sp call28 func28 rfl ntmps28 rfl fun D0 As η0 m0 hd=>by
  unfold GL at hm;obtain⟨x1,q1,hm⟩:=Aa hm;refine gco (MM q1) (by kernel_rfl) ?_;have e0:=Option.some.inj hm;subst e0;exact Au hd (by kernel_rfl)
def EB (a0:UInt64):Option Int:=Ac (if(decide ((a0.toNat:Int)≥4294967296))=true then some ((CZ a0 32),32)else some (a0,0)) fun x1=>Ac (if(decide ((x1.1.toNat:Int)≥65536))=true then some ((CZ x1.1 16),(w64 (x1.2+16)))else some (x1.1,x1.2)) fun x2=>Ac (if(decide ((x2.1.toNat:Int)≥256))=true then some ((CZ x2.1 8),(w64 (x2.2+8)))else some (x2.1,x2.2)) fun x3=>Ac (idx str_0.data.toList ((toB (x3.1.toNat:Int)).toNat:Int)) fun x4=>bnd ((w64 (x3.2+(w64 (x4.toNat:Int))))) fun x5=>some x5
theorem Ms {a0:UInt64}{r:Int}(hm:EB a0=some r):Sf prog 197 [.d (.u a0)] (.d (.i r)):=
 sp call197 func197 rfl ntmps197 rfl fun D0 As η0 m0 hd=>by
  unfold EB at hm;obtain⟨x1,q1,hm⟩:=Aa hm;refine gj (fun(_:Unit)=>let (y_0,y_1):=x1; ⟨[(0,.d (.u y_0)),(2,.d (.i y_1))],[],[],0⟩) (fun _=>True) (by kernel_rfl) (fun Jp bk1=> ?_) fun _ _=> ?_
  ·refine gi q1 (by kernel_rfl) (fun hc1 q1=> ?_) fun hc1 q1=> ?_
   ·skip;have e0:=Option.some.inj q1;subst e0;exact gb bk1 hd () trivial (by kernel_rfl)
   have e0:=Option.some.inj q1;subst e0;exact gb bk1 hd () trivial (by kernel_rfl)
  obtain⟨x2,q2,hm⟩:=Aa hm;refine gj (fun(_:Unit)=>let (y_0,y_1):=x2; ⟨[(0,.d (.u y_0)),(2,.d (.i y_1))],[],[],0⟩) (fun _=>True) (by kernel_rfl) (fun Jp bk2=> ?_) fun _ _=> ?_
  ·refine gi q2 (by kernel_rfl) (fun hc2 q2=> ?_) fun hc2 q2=> ?_
   ·skip;have e0:=Option.some.inj q2;subst e0;exact gb bk2 hd () trivial (by kernel_rfl)
   have e0:=Option.some.inj q2;subst e0;exact gb bk2 hd () trivial (by kernel_rfl)
  obtain⟨x3,q3,hm⟩:=Aa hm;refine gj (fun(_:Unit)=>let (y_0,y_1):=x3; ⟨[(0,.d (.u y_0)),(2,.d (.i y_1))],[],[],0⟩) (fun _=>True) (by kernel_rfl) (fun Jp bk3=> ?_) fun _ _=> ?_
  ·refine gi q3 (by kernel_rfl) (fun hc3 q3=> ?_) fun hc3 q3=> ?_
   ·skip;have e0:=Option.some.inj q3;subst e0;exact gb bk3 hd () trivial (by kernel_rfl)
   have e0:=Option.some.inj q3;subst e0;exact gb bk3 hd () trivial (by kernel_rfl)
  obtain⟨x4,q4,hm⟩:=Aa hm;refine TA (fun _=>q4) (by kernel_rfl) ?_;have hm:=AE hm;let x5:Int:=((w64 (x3.2+(w64 (x4.toNat:Int)))));have e0:=Option.some.inj hm;subst e0;exact Au hd (by kernel_rfl)
theorem Rx {m:Mem}{As:List Ow}{w:World}{a0:UInt64}{r:Int}(S:St m As w)(hm:EB a0=some r):
  Aw prog 197 #[vU a0] w fun v w'=> ∃(M:Mem),m≤M∧St M (As) w'∧v=vI r:=by
 refine Aw.mono ((Ms hm).2 none0 m As w [vU a0] (.cons (.d (.u _)) .nil) (fun n h=>absurd rfl h) S) ?_;rintro v w' ⟨M,η',r',obs',n1,hle,_,⟨rfl,rfl,rfl⟩,hdom,hR,S'⟩;obtain rfl:=hR.i_inv;exact⟨M,hle,S',rfl⟩
def BQ {σ:Type}(p0:σ→Bool→Option (Bool×σ))(k0:UInt64)(s1:Int×σ):Option ((Int×σ)⊕((σ)⊕(UInt64×σ))):=if(decide (s1.1≥0))=true then if(0:Int)≤s1.1 then Ac (p0 s1.2 (((k0&&&(Gb 1 s1.1.toNat)).toNat:Int) !=0)) fun x4=>if(!x4.1)=true then some (.inr (.inr (k0,x4.2)))else some (.inl ((w64 (s1.1-1)),x4.2))else none else some (.inr (.inl s1.2))
def EL {σ:Type}(p0:σ→Bool→Option (Bool×σ))(k0:UInt64)(s0:σ):Option (UInt64×σ):=Ac (EB k0) fun x1=>Ac (iter (BQ p0 k0) A0 ((w64 (x1-1)),s0)) fun x2=>match x2 with| .inr r=>some r| .inl y1=>some (k0,y1)
theorem LO {m:Mem}{As:List Ow}{w:World}{σ:Type}{R:σ→Mem→List Ow→Prop}{p0:σ→Bool→Option (Bool×σ)}{f0:Value}{kb0:Nat}{k0:UInt64}{s0:σ}{X0:List Ow}{r:UInt64×σ}(S:St m ((bx kb0 [vU k0] 22)::(X0++As)) w)(hup: ∀{s M M' X},M≤M'→R s M X→R s M' X)(hX0:R s0 m X0)(cb0: ∀{m':Mem} {As':List Ow} {w':World} {s:σ} {X:List Ow} {b0:Bool} {r:Bool×σ},St m' (X++As') w'→R s m' X→p0 s b0=some r→Ed Tryz.prog f0 [vb b0] w' fun v w''=> ∃(M:Mem) (X':List Ow),m'≤M∧St M (X'++As') w''∧R r.2 M X'∧v=vb r.1)(fc0:f0.cells= #[f0])(hm:EL p0 k0 s0=some r):
  Aw Tryz.prog 196 #[f0,pt kb0 0] w fun v w'=> ∃(M:Mem),m≤M∧∃(X:List Ow),St M ((bx kb0 [vU r.1] 22)::(X++As)) w'∧v= .tuple #[]∧R r.2 M X:=by
 unfold EL at hm;have L0:=Mem.rfl' m;refine CP (args:=[f0,pt kb0 0]) Tryz.func196 rfl Tryz.ntmps196 (Nat.le_of_ble_eq_true rfl) ?_;refine Ag ?_;refine Ad ?_;refine HE (i:=0) (cs:=[vU k0]) S rfl rfl Tryz.isAgg22 Tryz.sizeOf22 rfl (fun _=>rfl) ?_;obtain⟨x1,q1,hm⟩:=Aa hm;refine Cx Tryz.call197 (Rx (a0:=k0) S q1) rfl ?_;rintro _ w1 ⟨m1,l1,S1,rfl⟩;replace hX0:=hup l1 hX0;replace L0:=Mem.tr L0 l1;clear S;replace S1:St _ ((bx kb0 [vU k0] 22)::(X0++As)) _:=S1;refine My (m:=x1) (n:=1) rfl rfl ?_;refine AP (v:=vI (w64 (x1-1))) rfl ?_;refine Ah ?_;refine nrm ?_;obtain⟨x2,q2,hm⟩:=Aa hm;have L1:=Mem.rfl' m1;refine MR ?_;refine AT [3,7,8,9,10,11,12,13,14,15,16,17,18] (fun f' w'=> ∃(M1:Mem) (y1:σ) (X2:List Ow),x2= .inl y1∧m1≤M1∧St M1 ((bx kb0 [vU k0] 22)::(X2++As)) w'∧R y1 M1 X2∧Cb f' []) ?_ ?_
 ·refine Av ?_;refine BT [3,7,8,9,10,11,12,13,14,15,16,17,18] (fun n1 f' w'=> ∃(s1:Int×σ) (m11:Mem) (X1:List Ow),iter (BQ p0 k0) n1 s1=some x2∧m1≤m11∧St m11 ((bx kb0 [vU k0] 22)::(X1++As)) w'∧R s1.2 m11 X1∧Cb f' [(3,vI s1.1)]) A0 ⟨((w64 (x1-1)),s0),m1,_,q2,L1,S1,hX0,⟨rfl,trivial⟩⟩ ?_;rintro n1 f1 w2 ho ⟨s1,m2,X1,q3,L3,S2,h1,ha⟩;obtain⟨u1,rfl⟩:=BR (N:=19) ho ha;clear ho ha;have L2:=Mem.rfl' m2;clear S1;cases n1 with
  |zero=>exact(Ar q3).elim
  |succ n1=>
   obtain⟨y2,q5,q4⟩:=Ao q3;unfold BQ at q5;refine Ag ?_;refine Ag ?_;refine Ad ?_;refine Ap (v:=vI s1.1) rfl ?_;refine YM (m:=s1.1) (n:=0) rfl rfl ?_;refine Ah ?_;refine nrm ?_;refine Cq (t:=(decide (s1.1≥0))) rfl (fun hc1=> ?_) (fun hc1=> ?_)
   ·replace q5:=ifT hc1 q5;refine AQ ?_;refine nrm ?_;refine Ag ?_;refine Av ?_;refine Ag ?_;obtain⟨q7,q5⟩:=B8 q5;have HM:Hd [(11,fv f0),(12,fv (vU k0)),(13,fv (vI s1.1)),(14,fv (vU (Gb 1 s1.1.toNat))),(15,fv (vU (k0&&&(Gb 1 s1.1.toNat)))),(16,fv (vb (((k0&&&(Gb 1 s1.1.toNat)).toNat:Int) !=0)))]:=⟨mv,mv,mv,mv,mv,mv,trivial⟩;refine Jv HM 6 Ci rfl rfl rfl [11,12,13,14,15,16] (fun L f M w=>St M ((bx kb0 [vU k0] 22)::(X1++As)) w) (St.drew S2 _) ?_ ?_
    ·refine⟨?_,?_,?_,?_,?_,?_,trivial⟩
     ·exact flp HM rfl [] (fun _ _=>trivial) (fun _ _ q=>Ap (v:=f0) rfl q) rfl
     ·exact flp HM rfl [] (fun _ _=>trivial) (fun _ S4 q=>HE (i:=0) (cs:=[vU k0]) S4 rfl rfl Tryz.isAgg22 Tryz.sizeOf22 rfl (fun _=>rfl) q) rfl
     ·exact flp HM rfl [] (fun _ _=>trivial) (fun _ _ q=>Ap (v:=vI s1.1) rfl q) rfl
     ·exact flp HM rfl [(13,_)] (fun K _=>⟨K 2 rfl,trivial⟩) (fun _ _ q=>Wc (m:=1) (n:=s1.1) rfl rfl q7 q) rfl
     ·exact flp HM rfl [(12,_),(14,_)] (fun K _=>⟨K 1 rfl,K 3 rfl,trivial⟩) (fun _ _ q=>Z6 (m:=k0) (n:=(Gb 1 s1.1.toNat)) rfl rfl q) rfl
     ·exact flp HM rfl [(15,_)] (fun K _=>⟨K 4 rfl,trivial⟩) (fun _ _ q=>s_neq (m:=((k0&&&(Gb 1 s1.1.toNat)).toNat:Int)) (n:=0) rfl rfl q) rfl
    intro L f8 w9 hall ⟨m9,L16,S9,K,hO⟩;have d0:L 0=true:=hall 0 (by decide);have e5:=K 0 d0;have d5:L 5=true:=hall 5 (by decide);have e6:=K 5 d5;obtain⟨u8,rfl⟩:=BR (N:=19) (L:=[(11,f0),(16,vb (((k0&&&(Gb 1 s1.1.toNat)).toNat:Int) !=0))]) hO ⟨e5,e6,trivial⟩;replace S9:St _ ((bx kb0 [vU k0] 22)::(X1++As)) _:=S9;replace h1:=hup L16 h1;replace L2:=Mem.tr L2 L16;clear S2;obtain⟨x4,q8,q5⟩:=Aa q5;have S10:=St.absF (L:=[bx kb0 [vU k0] 22]) (X:=X1) (As:=As) S9;refine G8 rfl (cb0 S10 h1 q8) rfl ?_;rintro _ w10 ⟨m10,X3,l2,S11,h3,rfl⟩;replace S11:=St.absF (L:=X3) (X:=[bx kb0 [vU k0] 22]) (As:=As) S11;clear S10;replace L2:=Mem.tr L2 l2;replace S11:St _ ((bx kb0 [vU k0] 22)::(X3++As)) _:=S11;clear S9;refine SW rfl ?_;refine Ah ?_;refine nrm ?_;refine Cq (t:=(!x4.1)) rfl (fun hc2=> ?_) (fun hc2=> ?_)
    ·replace q5:=ifT hc2 q5;refine Be ?_;refine blR ?_;refine thR ?_;refine thR ?_;refine blR ?_;refine thR ?_;refine D3 ?_;intro we hpd;replace S11:=St.pd S11 hpd;cases q5;rcases q4 with ⟨sn,e,_⟩|e
     ·cases e
     cases e;dsimp only at hm;have e0:=Option.some.inj hm;subst e0;exact It [] rfl trivial ⟨_,(Mem.tr L0 (Mem.tr L3 L2)),_,S11,rfl,h3⟩
    replace q5:=ifF hc2 q5;refine AQ ?_;refine Mb ?_;refine nrm ?_;refine Ad ?_;refine Ap (v:=vI s1.1) rfl ?_;refine My (m:=s1.1) (n:=1) rfl rfl ?_;refine AP (v:=vI (w64 (s1.1-1))) rfl ?_;refine Ah ?_;refine nrm ?_;have e0:=Option.some.inj q5;subst e0;rcases q4 with ⟨sn,e,q4'⟩|e
    ·cases e;exact⟨E2,_,Nat.lt_succ_self _,⟨_,m10,_,q4',Mem.tr L3 L2,S11,h3,⟨rfl,trivial⟩⟩⟩
    ·cases e
   replace q5:=ifF hc1 q5;refine CD ?_;refine thE ?_;refine thE ?_;refine exB ?_;refine nrm ?_;have e0:=Option.some.inj q5;subst e0;rcases q4 with ⟨sn,e,_⟩|e
   ·cases e
   ·cases e;exact⟨E2,m2,_,_,rfl,Mem.tr L3 L2,S2,h1,trivial⟩
 rintro f9 w11 ho ⟨m12,y1,X2,rfl,l3,S12,h2,ha⟩;obtain⟨u9,rfl⟩:=BR (N:=19) ho ha;clear ho ha;dsimp only at hm;replace L0:=Mem.tr L0 l3;clear S1;refine Vk ?_;intro we hpd;replace S12:=St.pd S12 hpd;have e0:=Option.some.inj hm;subst e0;exact It [] rfl trivial ⟨_,L0,_,S12,rfl,h2⟩
def F3 (a0:UInt64):Option UInt64:=some a0
theorem Nu {m:Mem}{As:List Ow}{w:World}{a0:UInt64}{r:UInt64}(S:St m (As) w)(hm:F3 a0=some r):
  Aw Tryz.prog 159 #[vU a0] w fun v w'=> ∃(M:Mem),m≤M∧∃(rk0_0:Nat),St M ((bx rk0_0 [vU r] 22)::As) w'∧v= .func (.func 196) #[] #[pt rk0_0 0]:=by
 unfold F3 at hm;have L0:=Mem.rfl' m;refine CP (args:=[vU a0]) Tryz.func159 rfl Tryz.ntmps159 (Nat.le_of_ble_eq_true rfl) ?_;refine Ag ?_;refine Ad ?_;refine LV S rfl ?_;intro b1 w1 S1;replace S1:St _ ((bx b1 [vU a0] 22)::As) _:=S1;clear S;refine AP (v:= .nilFunc) rfl ?_;refine Ah ?_;refine nrm ?_;refine Ag ?_;refine Ad ?_;refine LU (caps:=[pt b1 0]) rfl ?_;refine AP (v:= .func (.func 196) #[] #[pt b1 0]) rfl ?_;refine Ah ?_;refine nrm ?_;refine Be ?_;refine D3 ?_;intro we hpd;replace S1:=St.pd S1 hpd;have e0:=Option.some.inj hm;subst e0;exact It [_] rfl ⟨rfl,trivial⟩ ⟨_,L0,_,S1,rfl⟩
def Cp {σ:Type}(p0:σ→UInt64→UInt64→Option (UInt64×σ))(a1:UInt64)(b6:Bool)(s1:UInt64×σ):Option (UInt64×σ):=Ac (p0 ((s1).2) ((s1).1) ((s1).1)) fun x3=>if b6=true then Ac (p0 x3.2 x3.1 a1) fun x4=>some (x4.1,x4.2)else some (x3.1,x3.2)
def E1 {σ:Type}(p0:σ→UInt64→UInt64→Option (UInt64×σ))(a1:UInt64)(a2:UInt64)(s0:σ):Option (UInt64×σ):=Ac (F3 a2) fun x1=>Ac (EL (fun(s:UInt64×σ) (b0:Bool)=>Ac (Cp p0 a1 b0 s) fun y=>some (true,y)) x1 (1,s0)) fun x2=>some (x2.2.1,x2.2.2)
theorem Oz {m:Mem}{As:List Ow}{w:World}{σ:Type}{R:σ→Mem→List Ow→Prop}{p0:σ→UInt64→UInt64→Option (UInt64×σ)}{f0:Value}{a1:UInt64}{a2:UInt64}{s0:σ}{X0:List Ow}{r:UInt64×σ}(S:St m ((X0++As)) w)(hup: ∀{s M M' X},M≤M'→R s M X→R s M' X)(hX0:R s0 m X0)(cb0: ∀{m':Mem} {As':List Ow} {w':World} {s:σ} {X:List Ow} {b0:UInt64} {b1:UInt64} {r:UInt64×σ},St m' (X++As') w'→R s m' X→p0 s b0 b1=some r→Ed Tryz.prog f0 [vU b0,vU b1] w' fun v w''=> ∃(M:Mem) (X':List Ow),m'≤M∧St M (X'++As') w''∧R r.2 M X'∧v=vU r.1)(fc0:f0.cells= #[f0])(hm:E1 p0 a1 a2 s0=some r):
  Aw Tryz.prog 108 #[f0,vU a1,vU a2] w fun v w'=> ∃(M:Mem),m≤M∧∃(X:List Ow),St M ((X++As)) w'∧v=vU r.1∧R r.2 M X:=by
 unfold E1 at hm;have L0:=Mem.rfl' m;refine CP (args:=[f0,vU a1,vU a2]) Tryz.func108 rfl Tryz.ntmps108 (Nat.le_of_ble_eq_true rfl) ?_;refine Ag ?_;refine Ad ?_;refine Z5 S rfl fc0 ?_;intro b1 w1 S1;replace S1:St _ ((bx b1 [f0] 91)::(X0++As)) _:=S1;clear S;refine LV S1 rfl ?_;intro b2 w2 S2;replace S2:St _ ((bx b2 [vU a1] 22)::(bx b1 [f0] 91)::(X0++As)) _:=S2;clear S1;refine AP (v:=vU 0) rfl ?_;refine Ah ?_;refine nrm ?_;refine Ag ?_;refine Ad ?_;refine ES S2 Tryz.zeroValue22 ?_;intro b3 w3 S3;replace S3:St _ ((bx b3 [vU 0] 22)::(bx b2 [vU a1] 22)::(bx b1 [f0] 91)::(X0++As)) _:=S3;clear S2;refine IB (i:=0) S3 rfl rfl rfl Tryz.sizeOf22 (IS rfl LZ) rfl ?_;intro w4 S4;replace S4:St _ ((bx b3 [vU 1] 22)::(bx b2 [vU a1] 22)::(bx b1 [f0] 91)::(X0++As)) _:=S4;clear S3;refine Ah ?_;refine nrm ?_;refine Ag ?_;refine Ag ?_;refine Ad ?_;refine Ap (v:=vU a2) rfl ?_;obtain⟨x1,q1,hm⟩:=Aa hm;refine Cx Tryz.call159 (Nu (a0:=a2) S4 q1) rfl ?_;rintro _ w5 ⟨m1,l1,b4,S5,rfl⟩;replace hX0:=hup l1 hX0;replace L0:=Mem.tr L0 l1;clear S4;replace S5:St _ ((bx b4 [vU x1] 22)::(bx b3 [vU 1] 22)::(bx b2 [vU a1] 22)::(bx b1 [f0] 91)::(X0++As)) _:=S5;refine Ah ?_;refine nrm ?_;refine Av ?_;obtain⟨x2,q2,hm⟩:=Aa hm;refine Fy S5 rfl Tryz.call196 ?_;intro lp1 rip2 w6 h1 S6;replace S6:St _ ((Lp lp1 rip2 .ready none)::(bx b4 [vU x1] 22)::(bx b3 [vU 1] 22)::(bx b2 [vU a1] 22)::(bx b1 [f0] 91)::(X0++As)) _:=S6;clear S5;have S7:St _ ((bx b4 [vU x1] 22)::(Lp lp1 rip2 .ready none)::(bx b3 [vU 1] 22)::(bx b2 [vU a1] 22)::(bx b1 [f0] 91)::(X0++As)) _:=St.perm S6 (List.Perm.swap _ _ _);clear S6;have hcb1: ∀{m':Mem} {As':List Ow} {w':World} {s:UInt64×σ} {X:List Ow} {b0:Bool} {r:Bool×(UInt64×σ)},St m' (X++As') w'→(∃(X2:List Ow),m1≤m'∧X=Lp lp1 rip2 .ready none::(bx b3 [vU ((s).1)] 22)::(bx b2 [vU a1] 22)::(bx b1 [f0] 91)::X2∧R ((s).2) m' X2)→(fun(s:UInt64×σ) (b0:Bool)=>Ac (Cp p0 a1 b0 s) fun y=>some (true,y)) s b0=some r→Ed Tryz.prog (.func (.yield lp1) #[] #[]) [vb b0] w' fun v w''=> ∃(M:Mem) (X':List Ow),m'≤M∧St M (X'++As') w''∧(∃(X2:List Ow),m1≤M∧X'=Lp lp1 rip2 .ready none::(bx b3 [vU ((r.2).1)] 22)::(bx b2 [vU a1] 22)::(bx b1 [f0] 91)::X2∧R ((r.2).2) M X2)∧v=vb r.1:=by
  intro m2 As1 w7 s1 X3 b6 r1 S8 h4 hm1;obtain⟨X4,L2,rfl,h5⟩:=h4;obtain⟨y1,q3,hm1⟩:=Aa hm1;cases hm1;unfold Cp at q3;replace S8:St _ ((Lp lp1 rip2 .ready none)::(bx b3 [vU ((s1).1)] 22)::(bx b2 [vU a1] 22)::(bx b1 [f0] 91)::(X4++As1)) _:=S8;have L1:=Mem.rfl' m2;refine Ed.round h1 rfl S8 ?_;refine Ad ?_;refine AP (v:=vb b6) rfl ?_;refine Ah ?_;refine nrm ?_;refine⟨_,_,S8,?_⟩;intro w8 S9;clear S8;replace S9:St _ ((Lp lp1 rip2 .busy none)::(bx b3 [vU ((s1).1)] 22)::(bx b2 [vU a1] 22)::(bx b1 [f0] 91)::(X4++As1)) _:=S9;refine Av ?_;refine Ag ?_;refine Ad ?_;refine HE (i:=3) (cs:=[f0]) S9 rfl rfl Tryz.isAgg91 Tryz.sizeOf91 rfl (fun _=>rfl) ?_;refine HE (i:=1) (cs:=[vU ((s1).1)]) S9 rfl rfl Tryz.isAgg22 Tryz.sizeOf22 rfl (fun _=>rfl) ?_;refine HE (i:=1) (cs:=[vU ((s1).1)]) S9 rfl rfl Tryz.isAgg22 Tryz.sizeOf22 rfl (fun _=>rfl) ?_;obtain⟨x3,q4,q3⟩:=Aa q3;have S10:=St.absF (L:=[Lp lp1 rip2 .busy none,bx b3 [vU ((s1).1)] 22,bx b2 [vU a1] 22,bx b1 [f0] 91]) (X:=X4) (As:=As1) S9;refine G8 rfl (cb0 S10 h5 q4) rfl ?_;rintro _ w9 ⟨m3,X5,l2,S11,h6,rfl⟩;replace S11:=St.absF (L:=X5) (X:=[Lp lp1 rip2 .busy none,bx b3 [vU ((s1).1)] 22,bx b2 [vU a1] 22,bx b1 [f0] 91]) (As:=As1) S11;clear S10;replace L1:=Mem.tr L1 l2;replace S11:St _ ((Lp lp1 rip2 .busy none)::(bx b3 [vU ((s1).1)] 22)::(bx b2 [vU a1] 22)::(bx b1 [f0] 91)::(X5++As1)) _:=S11;clear S9;refine IB (i:=1) S11 rfl rfl rfl Tryz.sizeOf22 (IS rfl LZ) rfl ?_;intro w10 S12;replace S12:St _ ((Lp lp1 rip2 .busy none)::(bx b3 [vU x3.1] 22)::(bx b2 [vU a1] 22)::(bx b1 [f0] 91)::(X5++As1)) _:=S12;clear S11;refine Ah ?_;refine nrm ?_;refine Ag ?_;refine Ad ?_;refine Ap (v:=vb b6) rfl ?_;refine Ah ?_;refine nrm ?_;refine Cq (t:=b6) rfl (fun hc1=> ?_) (fun hc1=> ?_)
  ·replace q3:=ifT hc1 q3;refine Ad ?_;refine HE (i:=3) (cs:=[f0]) S12 rfl rfl Tryz.isAgg91 Tryz.sizeOf91 rfl (fun _=>rfl) ?_;refine HE (i:=1) (cs:=[vU x3.1]) S12 rfl rfl Tryz.isAgg22 Tryz.sizeOf22 rfl (fun _=>rfl) ?_;refine HE (i:=2) (cs:=[vU a1]) S12 rfl rfl Tryz.isAgg22 Tryz.sizeOf22 rfl (fun _=>rfl) ?_;obtain⟨x4,q5,q3⟩:=Aa q3;have S13:=St.absF (L:=[Lp lp1 rip2 .busy none,bx b3 [vU x3.1] 22,bx b2 [vU a1] 22,bx b1 [f0] 91]) (X:=X5) (As:=As1) S12;refine G8 rfl (cb0 S13 h6 q5) rfl ?_;rintro _ w11 ⟨m4,X6,l3,S14,h7,rfl⟩;replace S14:=St.absF (L:=X6) (X:=[Lp lp1 rip2 .busy none,bx b3 [vU x3.1] 22,bx b2 [vU a1] 22,bx b1 [f0] 91]) (As:=As1) S14;clear S13;replace L1:=Mem.tr L1 l3;replace S14:St _ ((Lp lp1 rip2 .busy none)::(bx b3 [vU x3.1] 22)::(bx b2 [vU a1] 22)::(bx b1 [f0] 91)::(X6++As1)) _:=S14;clear S12;refine IB (i:=1) S14 rfl rfl rfl Tryz.sizeOf22 (IS rfl LZ) rfl ?_;intro w12 S15;replace S15:St _ ((Lp lp1 rip2 .busy none)::(bx b3 [vU x4.1] 22)::(bx b2 [vU a1] 22)::(bx b1 [f0] 91)::(X6++As1)) _:=S15;clear S14;refine Ah ?_;refine Mb ?_;refine⟨_,_,S15,?_⟩;intro w13 S16;have e0:=Option.some.inj q3;subst e0;exact⟨_,Lp lp1 rip2 .ready none::(bx b3 [vU x4.1] 22)::(bx b2 [vU a1] 22)::(bx b1 [f0] 91)::X6,L1,S16,⟨_,Mem.tr L2 L1,rfl,h7⟩,rfl⟩
  replace q3:=ifF hc1 q3;refine AQ ?_;refine Mb ?_;refine⟨_,_,S12,?_⟩;intro w14 S17;have e0:=Option.some.inj q3;subst e0;exact⟨_,Lp lp1 rip2 .ready none::(bx b3 [vU x3.1] 22)::(bx b2 [vU a1] 22)::(bx b1 [f0] 91)::X5,L1,S17,⟨_,Mem.tr L2 L1,rfl,h6⟩,rfl⟩
 refine Aw.mono (LO (p0:=(fun(s:UInt64×σ) (b0:Bool)=>Ac (Cp p0 a1 b0 s) fun y=>some (true,y))) (k0:=x1) (s0:=(1,s0)) (R:=(fun(s:UInt64×σ) (M:Mem) (X:List Ow)=>(∃(X2:List Ow),m1≤M∧X=Lp lp1 rip2 .ready none::(bx b3 [vU ((s).1)] 22)::(bx b2 [vU a1] 22)::(bx b1 [f0] 91)::X2∧R ((s).2) M X2))) (X0:=((Lp lp1 rip2 .ready none)::(bx b3 [vU 1] 22)::(bx b2 [vU a1] 22)::(bx b1 [f0] 91)::X0)) (As:=As) S7 (fun l h=>by obtain⟨X2,Lm,e,h3⟩:=h; exact⟨_,Mem.tr Lm l,e,hup l h3⟩) ⟨_,Mem.rfl' _,rfl,hX0⟩ @hcb1 rfl q2) ?_;rintro _ w15 ⟨m5,l4,X7,S18,rfl,⟨X8,L3,rfl,h8⟩⟩;replace S18:St _ ((bx b4 [vU x2.1] 22)::(Lp lp1 rip2 .ready none)::(bx b3 [vU x2.2.1] 22)::(bx b2 [vU a1] 22)::(bx b1 [f0] 91)::(X8++As)) _:=S18;have S19:St _ ((Lp lp1 rip2 .ready none)::(bx b4 [vU x2.1] 22)::(bx b3 [vU x2.2.1] 22)::(bx b2 [vU a1] 22)::(bx b1 [f0] 91)::(X8++As)) _:=St.perm S18 (List.Perm.swap _ _ _);clear S18;refine⟨_,.ready,none,_,l4,(fun h=>by cases h),S19,?_⟩;intro m6 w16 l5 S20;have l6:=Mem.tr l4 l5;replace h8:=hup l5 h8;replace L0:=Mem.tr L0 l6;replace S20:St _ ((bx b4 [vU x2.1] 22)::(bx b3 [vU x2.2.1] 22)::(bx b2 [vU a1] 22)::(bx b1 [f0] 91)::(X8++As)) _:=S20;refine Mb ?_;refine nrm ?_;refine Ag ?_;refine Ad ?_;refine HE (i:=1) (cs:=[vU x2.2.1]) S20 rfl rfl Tryz.isAgg22 Tryz.sizeOf22 rfl (fun _=>rfl) ?_;refine AP (v:=vU x2.2.1) rfl ?_;refine Ah ?_;refine nrm ?_;refine Be ?_;refine D3 ?_;intro we hpd;replace S20:=St.pd S20 hpd;obtain⟨m7,l7,S21⟩:=St.drop S20 0;replace h8:=hup l7 h8;replace L0:=Mem.tr L0 l7;clear S20;replace S21:St _ ((bx b3 [vU x2.2.1] 22)::(bx b2 [vU a1] 22)::(bx b1 [f0] 91)::(X8++As)) _:=S21;obtain⟨m8,l8,S22⟩:=St.drop S21 0;replace h8:=hup l8 h8;replace L0:=Mem.tr L0 l8;clear S21;replace S22:St _ ((bx b2 [vU a1] 22)::(bx b1 [f0] 91)::(X8++As)) _:=S22;obtain⟨m9,l9,S23⟩:=St.drop S22 0;replace h8:=hup l9 h8;replace L0:=Mem.tr L0 l9;clear S22;replace S23:St _ ((bx b1 [f0] 91)::(X8++As)) _:=S23;obtain⟨m10,l10,S24⟩:=St.drop S23 0;replace h8:=hup l10 h8;replace L0:=Mem.tr L0 l10;clear S23;replace S24:St _ ((X8++As)) _:=S24;have e0:=Option.some.inj hm;subst e0;exact It [_] rfl ⟨rfl,trivial⟩ ⟨_,L0,_,S24,rfl,h8⟩
def EA (a0:UInt64)(a1:UInt64):Option (UInt64×UInt64):=bnd (((a0&&&4294967295)*(a1&&&4294967295))) fun x1=>bnd ((((CZ a0 32)*(a1&&&4294967295))+(CZ x1 32))) fun x2=>bnd (((x2&&&4294967295)+((a0&&&4294967295)*(CZ a1 32)))) fun x3=>bnd (((((CZ a0 32)*(CZ a1 32))+(CZ x2 32))+(CZ x3 32))) fun x4=>some (x4,(a0*a1))
theorem JE {a0:UInt64}{a1:UInt64}{r:UInt64×UInt64}(hm:EA a0 a1=some r):Sf prog 160 [.d (.u a0),.d (.u a1)] (.tup [.d (.u r.1),.d (.u r.2)]):=
 sp call160 func160 rfl ntmps160 rfl fun D0 As η0 m0 hd=>by
  unfold EA at hm;have hm:=AE hm;let x1:UInt64:=(((a0&&&4294967295)*(a1&&&4294967295)));have hm:=AE hm;let x2:UInt64:=((((CZ a0 32)*(a1&&&4294967295))+(CZ x1 32)));have hm:=AE hm;let x3:UInt64:=(((x2&&&4294967295)+((a0&&&4294967295)*(CZ a1 32))));have hm:=AE hm;let x4:UInt64:=(((((CZ a0 32)*(CZ a1 32))+(CZ x2 32))+(CZ x3 32)));have e0:=Option.some.inj hm;subst e0;exact Au hd (by kernel_rfl)
theorem Rw {m:Mem}{As:List Ow}{w:World}{a0:UInt64}{a1:UInt64}{r:UInt64×UInt64}(S:St m As w)(hm:EA a0 a1=some r):
  Aw prog 160 #[vU a0,vU a1] w fun v w'=> ∃(M:Mem),m≤M∧St M (As) w'∧v= .tuple #[vU r.1,vU r.2]:=by
 refine Aw.mono ((JE hm).2 none0 m As w [vU a0,vU a1] (.cons (.d (.u _)) (.cons (.d (.u _)) .nil)) (fun n h=>absurd rfl h) S) ?_;rintro v w' ⟨M,η',r',obs',n1,hle,_,⟨rfl,rfl,rfl⟩,hdom,hR,S'⟩;obtain⟨us,rfl,hR0⟩:=hR.tup_inv;obtain⟨v0,u0,rfl,q0,hR1⟩:=Bg.cons_inv hR0;obtain⟨v1,u1,rfl,q1,hR2⟩:=Bg.cons_inv hR1;obtain rfl:=Bg.nil_inv hR2;obtain rfl:=q0.u_inv;obtain rfl:=q1.u_inv;exact⟨M,hle,S',rfl⟩
def Cv (a0:UInt64):Option Int:=Ac (EB a0) fun x1=>some (w64 (64-x1))
theorem JF {a0:UInt64}{r:Int}(hm:Cv a0=some r):Sf prog 198 [.d (.u a0)] (.d (.i r)):=
 sp call198 func198 rfl ntmps198 rfl fun D0 As η0 m0 hd=>by
  unfold Cv at hm;obtain⟨x1,q1,hm⟩:=Aa hm;refine gc (fun _=>Ms q1) (by kernel_rfl) ?_;have e0:=Option.some.inj hm;subst e0;exact Au hd (by kernel_rfl)
def CV (x4:UInt64)(x5:UInt64)(x7:UInt64)(s1:UInt64×UInt64):Option ((UInt64×UInt64)⊕(UInt64)):=if((decide ((s1.1.toNat:Int)≥4294967296))||(decide (((s1.1*x5).toNat:Int)>(((4294967296*s1.2)+x7).toNat:Int))))=true then if(decide (((s1.2+x4).toNat:Int)≥4294967296))=true then some (.inr (s1.1-1))else some (.inl ((s1.1-1),(s1.2+x4)))else some (.inr s1.1)
def CU (x4:UInt64)(x5:UInt64)(x8:UInt64)(s2:UInt64×UInt64):Option ((UInt64×UInt64)⊕(UInt64)):=if((decide ((s2.2.toNat:Int)≥4294967296))||(decide (((s2.2*x5).toNat:Int)>(((4294967296*s2.1)+x8).toNat:Int))))=true then if(decide (((s2.1+x4).toNat:Int)≥4294967296))=true then some (.inr (s2.2-1))else some (.inl ((s2.1+x4),(s2.2-1)))else some (.inr s2.2)
def Fu (a0:UInt64)(a1:UInt64)(a2:UInt64):Option (UInt64×UInt64):=Ac (if((a2.toNat:Int)==0)=true then none else some ()) fun x1=>Ac (if(decide ((a2.toNat:Int)≤(a0.toNat:Int)))=true then none else some ()) fun x2=>if((a0.toNat:Int)==0)=true then if a2≠0 then if a2≠0 then some ((a1/a2),(a1%a2))else none else none else Ac (Cv a2) fun x3=>bnd ((CZ (Gb a2 ((toU x3).toNat)) 32)) fun x4=>bnd (((Gb a2 ((toU x3).toNat))&&&4294967295)) fun x5=>bnd (((Gb a0 ((toU x3).toNat))|||(CZ a1 ((64-(toU x3)).toNat)))) fun x6=>bnd ((CZ (Gb a1 ((toU x3).toNat)) 32)) fun x7=>bnd (((Gb a1 ((toU x3).toNat))&&&4294967295)) fun x8=>if x4≠0 then Ac (Ac (iter (CV x4 x5 x7) A0 ((x6/x4),(x6-((x6/x4)*x4)))) fun x10=>some x10) fun x9=>bnd ((((x6*4294967296)+x7)-(x9*(Gb a2 ((toU x3).toNat))))) fun x12=>if x4≠0 then Ac (Ac (iter (CU x4 x5 x8) A0 ((x12-((x12/x4)*x4)),(x12/x4))) fun x14=>some x14) fun x13=>bnd ((CZ (((x12*4294967296)+x8)-(x13*(Gb a2 ((toU x3).toNat)))) ((toU x3).toNat))) fun x16=>some (((x9*4294967296)+x13),x16)else none else none
theorem Mu {a0:UInt64}{a1:UInt64}{a2:UInt64}{r:UInt64×UInt64}(hm:Fu a0 a1 a2=some r):Sf prog 163 [.d (.u a0),.d (.u a1),.d (.u a2)] (.tup [.d (.u r.1),.d (.u r.2)]):=
 sp call163 func163 rfl ntmps163 rfl fun D0 As η0 m0 hd=>by
  unfold Fu at hm;obtain⟨x1,q1,hm⟩:=Aa hm;refine gj (fun(_:Unit)=>⟨[(0,.d (.u a0)),(1,.d (.u a1)),(2,.d (.u a2))],[],[],0⟩) (fun _=>True) (by kernel_rfl) (fun Jp bk1=> ?_) fun _ _=> ?_
  ·refine gi q1 (by kernel_rfl) (fun hc1 q1=> ?_) fun hc1 q1=> ?_
   ·cases q1
   have e0:=Option.some.inj q1;subst e0;exact gb bk1 hd () trivial (by kernel_rfl)
  obtain⟨x2,q2,hm⟩:=Aa hm;refine gj (fun(_:Unit)=>⟨[(0,.d (.u a0)),(1,.d (.u a1)),(2,.d (.u a2))],[],[],0⟩) (fun _=>True) (by kernel_rfl) (fun Jp bk2=> ?_) fun _ _=> ?_
  ·refine gi q2 (by kernel_rfl) (fun hc2 q2=> ?_) fun hc2 q2=> ?_
   ·cases q2
   have e0:=Option.some.inj q2;subst e0;exact gb bk2 hd () trivial (by kernel_rfl)
  refine gi hm (by kernel_rfl) (fun hc3 hm=> ?_) fun hc3 hm=> ?_
  ·skip;obtain⟨q3,hm⟩:=B8 hm;refine Uy (d:= .u a2) (r:= .u (a1/a2)) (fun h=>q3) (by kernel_rfl) ?_;obtain⟨q4,hm⟩:=B8 hm;refine Uy (d:= .u a2) (r:= .u (a1%a2)) (fun h=>q4) (by kernel_rfl) ?_;have e0:=Option.some.inj hm;subst e0;exact Au hd (by kernel_rfl)
  obtain⟨x3,q5,hm⟩:=Aa hm;refine gc (fun _=>JF q5) (by kernel_rfl) ?_;have hm:=AE hm;let x4:UInt64:=((CZ (Gb a2 ((toU x3).toNat)) 32));have hm:=AE hm;let x5:UInt64:=(((Gb a2 ((toU x3).toNat))&&&4294967295));have hm:=AE hm;let x6:UInt64:=(((Gb a0 ((toU x3).toNat))|||(CZ a1 ((64-(toU x3)).toNat))));have hm:=AE hm;let x7:UInt64:=((CZ (Gb a1 ((toU x3).toNat)) 32));have hm:=AE hm;let x8:UInt64:=(((Gb a1 ((toU x3).toNat))&&&4294967295));obtain⟨q11,hm⟩:=B8 hm;refine Uy (d:= .u x4) (r:= .u (x6/x4)) (fun h=>q11) (by kernel_rfl) ?_;obtain⟨x9,q12,hm⟩:=Aa hm;obtain⟨x10,q13,q12⟩:=Aa q12;refine gjU 0 (fun(_:Unit)=>⟨[(2,.d (.u (Gb a2 ((toU x3).toNat)))),(8,.d (.u (toU x3))),(9,.d (.u x4)),(10,.d (.u x5)),(11,.d (.u x6)),(13,.d (.u x7)),(14,.d (.u x8)),(15,.d (.u x9))],[],[],0⟩) (fun _=>True) (by kernel_rfl) (fun Jp bk3=> ?_) fun _ _=> ?_
  ·refine gjU 0 (fun(_:Unit)=>⟨[(2,.d (.u (Gb a2 ((toU x3).toNat)))),(8,.d (.u (toU x3))),(9,.d (.u x4)),(10,.d (.u x5)),(11,.d (.u x6)),(13,.d (.u x7)),(14,.d (.u x8)),(15,.d (.u x10))],[],[],0⟩) (fun _=>True) (by kernel_rfl) (fun Jp bk4=> ?_) fun _ _=> ?_
   ·refine gl hd (fun(p:Nat×(UInt64×UInt64))=>let (p0,p_0,p_1):=p; ⟨[(2,.d (.u (Gb a2 ((toU x3).toNat)))),(8,.d (.u (toU x3))),(9,.d (.u x4)),(10,.d (.u x5)),(11,.d (.u x6)),(13,.d (.u x7)),(14,.d (.u x8)),(15,.d (.u p_0)),(16,.d (.u p_1))],[],[],0⟩) (fun p=>iter (CV x4 x5 x7) p.1 p.2=some x10) (fun p=>p.1) (A0,((x6/x4),(x6-((x6/x4)*x4)))) q13 (by kernel_rfl) ?_;rintro⟨n1,s1⟩ q14 Jl bl1;cases n1 with
    |zero=>exact(Ar q14).elim
    |succ n1=>
     obtain⟨y1,q16,q15⟩:=Ao q14;unfold CV at q16;refine gi q16 (by kernel_rfl) (fun hc4 q16=> ?_) fun hc4 q16=> ?_
     ·skip;refine gi q16 (by kernel_rfl) (fun hc5 q16=> ?_) fun hc5 q16=> ?_
      ·skip;have e0:=Option.some.inj q16;subst e0;rcases q15 with ⟨sn,e,_⟩|e
       ·cases B2 e
       have e:=Sum.inr.inj e;subst e;exact gb bk4 hd () trivial (by kernel_rfl)
      have e0:=Option.some.inj q16;subst e0;rcases q15 with ⟨sn,e,q15'⟩|e
      ·have e:=Sum.inl.inj e;subst e;exact gb bl1 hd (n1,_) ⟨q15',Nat.lt_succ_self _⟩ (by kernel_rfl)
      cases AN e
     have e0:=Option.some.inj q16;subst e0;rcases q15 with ⟨sn,e,_⟩|e
     ·cases B2 e
     have e:=Sum.inr.inj e;subst e;exact gb bk4 hd () trivial (by kernel_rfl)
   have e0:=Option.some.inj q12;subst e0;exact gb bk3 hd () trivial (by kernel_rfl)
  have hm:=AE hm;let x12:UInt64:=((((x6*4294967296)+x7)-(x9*(Gb a2 ((toU x3).toNat)))));obtain⟨q19,hm⟩:=B8 hm;refine Uy (d:= .u x4) (r:= .u (x12/x4)) (fun h=>q19) (by kernel_rfl) ?_;obtain⟨x13,q20,hm⟩:=Aa hm;obtain⟨x14,q21,q20⟩:=Aa q20;refine gjU 2 (fun(_:Unit)=>⟨[(2,.d (.u (Gb a2 ((toU x3).toNat)))),(8,.d (.u (toU x3))),(14,.d (.u x8)),(15,.d (.u x9)),(17,.d (.u x12)),(18,.d (.u x13))],[],[],0⟩) (fun _=>True) (by kernel_rfl) (fun Jp bk5=> ?_) fun _ _=> ?_
  ·refine gjU 2 (fun(_:Unit)=>⟨[(2,.d (.u (Gb a2 ((toU x3).toNat)))),(8,.d (.u (toU x3))),(14,.d (.u x8)),(15,.d (.u x9)),(17,.d (.u x12)),(18,.d (.u x14))],[],[],0⟩) (fun _=>True) (by kernel_rfl) (fun Jp bk6=> ?_) fun _ _=> ?_
   ·refine gl hd (fun(p:Nat×(UInt64×UInt64))=>let (p0,p_0,p_1):=p; ⟨[(2,.d (.u (Gb a2 ((toU x3).toNat)))),(8,.d (.u (toU x3))),(9,.d (.u x4)),(10,.d (.u x5)),(14,.d (.u x8)),(15,.d (.u x9)),(16,.d (.u p_0)),(17,.d (.u x12)),(18,.d (.u p_1))],[],[],0⟩) (fun p=>iter (CU x4 x5 x8) p.1 p.2=some x14) (fun p=>p.1) (A0,((x12-((x12/x4)*x4)),(x12/x4))) q21 (by kernel_rfl) ?_;rintro⟨n2,s2⟩ q22 Jl bl2;cases n2 with
    |zero=>exact(Ar q22).elim
    |succ n2=>
     obtain⟨y2,q24,q23⟩:=Ao q22;unfold CU at q24;refine gi q24 (by kernel_rfl) (fun hc6 q24=> ?_) fun hc6 q24=> ?_
     ·skip;refine gi q24 (by kernel_rfl) (fun hc7 q24=> ?_) fun hc7 q24=> ?_
      ·skip;have e0:=Option.some.inj q24;subst e0;rcases q23 with ⟨sn,e,_⟩|e
       ·cases B2 e
       have e:=Sum.inr.inj e;subst e;exact gb bk6 hd () trivial (by kernel_rfl)
      have e0:=Option.some.inj q24;subst e0;rcases q23 with ⟨sn,e,q23'⟩|e
      ·have e:=Sum.inl.inj e;subst e;exact gb bl2 hd (n2,_) ⟨q23',Nat.lt_succ_self _⟩ (by kernel_rfl)
      cases AN e
     have e0:=Option.some.inj q24;subst e0;rcases q23 with ⟨sn,e,_⟩|e
     ·cases B2 e
     have e:=Sum.inr.inj e;subst e;exact gb bk6 hd () trivial (by kernel_rfl)
   have e0:=Option.some.inj q20;subst e0;exact gb bk5 hd () trivial (by kernel_rfl)
  have hm:=AE hm;let x16:UInt64:=((CZ (((x12*4294967296)+x8)-(x13*(Gb a2 ((toU x3).toNat)))) ((toU x3).toNat)));have e0:=Option.some.inj hm;subst e0;exact Au hd (by kernel_rfl)
def Ez (a0:UInt64)(a1:UInt64)(a2:UInt64):Option UInt64:=if a2≠0 then Ac (Fu (a0%a2) a1 a2) fun x1=>some x1.2 else none
theorem Mr {a0:UInt64}{a1:UInt64}{a2:UInt64}{r:UInt64}(hm:Ez a0 a1 a2=some r):Sf prog 161 [.d (.u a0),.d (.u a1),.d (.u a2)] (.d (.u r)):=
 sp call161 func161 rfl ntmps161 rfl fun D0 As η0 m0 hd=>by
  unfold Ez at hm;obtain⟨q1,hm⟩:=B8 hm;refine Uy (d:= .u a2) (r:= .u (a0%a2)) (fun h=>q1) (by kernel_rfl) ?_;obtain⟨x1,q2,hm⟩:=Aa hm;refine gc (fun _=>Mu q2) (by kernel_rfl) ?_;have e0:=Option.some.inj hm;subst e0;exact Au hd (by kernel_rfl)
theorem Rv {m:Mem}{As:List Ow}{w:World}{a0:UInt64}{a1:UInt64}{a2:UInt64}{r:UInt64}(S:St m As w)(hm:Ez a0 a1 a2=some r):
  Aw prog 161 #[vU a0,vU a1,vU a2] w fun v w'=> ∃(M:Mem),m≤M∧St M (As) w'∧v=vU r:=by
 refine Aw.mono ((Mr hm).2 none0 m As w [vU a0,vU a1,vU a2] (.cons (.d (.u _)) (.cons (.d (.u _)) (.cons (.d (.u _)) .nil))) (fun n h=>absurd rfl h) S) ?_;rintro v w' ⟨M,η',r',obs',n1,hle,_,⟨rfl,rfl,rfl⟩,hdom,hR,S'⟩;obtain rfl:=hR.u_inv;exact⟨M,hle,S',rfl⟩
def A8 (a0:UInt64)(a1:UInt64)(a2:UInt64):Option UInt64:=Ac (EA a1 a2) fun x1=>Ac (Ez x1.1 x1.2 a0) fun x2=>some x2
theorem Iy {m:Mem}{As:List Ow}{w:World}{a0:UInt64}{a1:UInt64}{a2:UInt64}{r:UInt64}(S:St m (As) w)(hm:A8 a0 a1 a2=some r):
  Aw Tryz.prog 109 #[vU a0,vU a1,vU a2] w fun v w'=> ∃(M:Mem),m≤M∧St M (As) w'∧v=vU r:=by
 unfold A8 at hm;have L0:=Mem.rfl' m;refine CP (args:=[vU a0,vU a1,vU a2]) Tryz.func109 rfl Tryz.ntmps109 (Nat.le_of_ble_eq_true rfl) ?_;refine Ag ?_;refine Ad ?_;refine AP (v:=vU 0) rfl ?_;refine Ah ?_;refine nrm ?_;refine Ag ?_;refine Ad ?_;refine Ap (v:=vU a1) rfl ?_;refine Ap (v:=vU a2) rfl ?_;obtain⟨x1,q1,hm⟩:=Aa hm;refine Cx Tryz.call160 (Rw (a0:=a1) (a1:=a2) S q1) rfl ?_;rintro _ w1 ⟨m1,l1,S1,rfl⟩;replace L0:=Mem.tr L0 l1;clear S;replace S1:St _ (As) _:=S1;refine Ap (v:= .tuple #[vU x1.1,vU x1.2]) rfl ?_;refine Abg (i:=0) rfl rfl ?_;refine Abg (i:=1) rfl rfl ?_;refine AP (v:=vU x1.1) rfl ?_;refine AP (v:=vU x1.2) rfl ?_;refine Ah ?_;refine nrm ?_;refine Ag ?_;refine Ad ?_;refine Ap (v:=vU x1.1) rfl ?_;refine Ap (v:=vU x1.2) rfl ?_;refine Ap (v:=vU a0) rfl ?_;obtain⟨x2,q2,hm⟩:=Aa hm;refine Cx Tryz.call161 (Rv (a0:=x1.1) (a1:=x1.2) (a2:=a0) S1 q2) rfl ?_;rintro _ w2 ⟨m2,l2,S2,rfl⟩;replace L0:=Mem.tr L0 l2;clear S1;replace S2:St _ (As) _:=S2;refine AP (v:=vU x2) rfl ?_;refine Ah ?_;refine nrm ?_;refine Be ?_;refine D3 ?_;intro we hpd;replace S2:=St.pd S2 hpd;have e0:=Option.some.inj hm;subst e0;exact It [_] rfl ⟨rfl,trivial⟩ ⟨_,L0,S2,rfl⟩
theorem ID {a0:UInt64}{a1:UInt64}{a2:UInt64}{r:UInt64}(hm:A8 a0 a1 a2=some r):Sf prog 109 [.d (.u a0),.d (.u a1),.d (.u a2)] (.d (.u r)):=
 ⟨call109,fun η m As w vs hv0 hd S=>by
  have S:St m As w:=S;obtain⟨v0,u0,rfl,r0,hv1⟩:=Bg.cons_inv hv0;obtain rfl:=r0.u_inv;obtain⟨v1,u1,rfl,r1,hv2⟩:=Bg.cons_inv hv1;obtain rfl:=r1.u_inv;obtain⟨v2,u2,rfl,r2,hv3⟩:=Bg.cons_inv hv2;obtain rfl:=r2.u_inv;obtain rfl:=Bg.nil_inv hv3;refine Aw.mono (Iy S hm) ?_;rintro v w' ⟨M,hle,S0,rfl⟩;exact⟨M,none0,_,_,_,hle,TH hd _,⟨rfl,rfl,rfl⟩,fun n h=>absurd rfl h,(.d (.u _)),S0⟩⟩
def CN (a0:UInt64)(a1:UInt64):Option UInt64:=Ac (E1 (fun(s1:Unit) (b1:UInt64) (b2:UInt64)=>Ac (A8 2305843009213691579 b1 b2) fun x1=>some (x1,())) a0 a1 ()) fun x2=>some x2.1
theorem Rp {m:Mem}{As:List Ow}{w:World}{a0:UInt64}{a1:UInt64}{r:UInt64}(S:St m (As) w)(hm:CN a0 a1=some r):
  Aw Tryz.prog 62 #[vU a0,vU a1] w fun v w'=> ∃(M:Mem),m≤M∧St M (As) w'∧v=vU r:=by
 unfold CN at hm;have L0:=Mem.rfl' m;refine CP (args:=[vU a0,vU a1]) Tryz.func62 rfl Tryz.ntmps62 (Nat.le_of_ble_eq_true rfl) ?_;refine Ag ?_;refine Ad ?_;refine AP (v:=vU 0) rfl ?_;refine Ah ?_;refine nrm ?_;refine Ag ?_;refine Ad ?_;refine Abc (pre:=[vU 2305843009213691579]) (caps:=[]) rfl rfl ?_;refine Ap (v:=vU a0) rfl ?_;refine Ap (v:=vU a1) rfl ?_;have hcb1: ∀{m':Mem} {As':List Ow} {w':World} {s:Unit} {X:List Ow} {b0:UInt64} {b1:UInt64} {r:UInt64×Unit},St m' (X++As') w'→(X=[])→(fun(s1:Unit) (b1:UInt64) (b2:UInt64)=>Ac (A8 2305843009213691579 b1 b2) fun x1=>some (x1,())) s b0 b1=some r→Ed Tryz.prog (.func (.func 109) #[vU 2305843009213691579] #[]) [vU b0,vU b1] w' fun v w''=> ∃(M:Mem) (X':List Ow),m'≤M∧St M (X'++As') w''∧(X'=[])∧v=vU r.1:=by
  intro m1 As1 w1 s1 X1 b1 b2 r1 S1 h1 hm1;subst h1;replace S1:St _ (As1) _:=S1;have L1:=Mem.rfl' m1;obtain⟨x1,q1,hm1⟩:=Aa hm1;refine Ed.mono (Ed.clo (pre:=[vU 2305843009213691579]) Tryz.call109 rfl (Iy (a0:=2305843009213691579) (a1:=b1) (a2:=b2) S1 q1)) ?_;rintro _ w2 ⟨m2,l1,S2,rfl⟩;replace L1:=Mem.tr L1 l1;clear S1;replace S2:St _ (As1) _:=S2;have e0:=Option.some.inj hm1;subst e0;exact⟨_,[],L1,S2,rfl,rfl⟩
 obtain⟨x2,q2,hm⟩:=Aa hm;refine Cx Tryz.call108 (Oz (p0:=(fun(s1:Unit) (b1:UInt64) (b2:UInt64)=>Ac (A8 2305843009213691579 b1 b2) fun x1=>some (x1,()))) (a1:=a0) (a2:=a1) (s0:=()) (R:=(fun(s:Unit) (M:Mem) (X:List Ow)=>(X=[]))) (X0:=[]) (As:=As) S (fun {_ _ _ _} _ h=>h) rfl @hcb1 rfl q2) rfl ?_;rintro _ w3 ⟨m3,l2,X2,S3,rfl,rfl⟩;replace L0:=Mem.tr L0 l2;clear S;replace S3:St _ (As) _:=S3;refine AP (v:=vU x2.1) rfl ?_;refine Ah ?_;refine nrm ?_;refine Be ?_;refine D3 ?_;intro we hpd;replace S3:=St.pd S3 hpd;have e0:=Option.some.inj hm;subst e0;exact It [_] rfl ⟨rfl,trivial⟩ ⟨_,L0,S3,rfl⟩
theorem JM {a0:UInt64}{a1:UInt64}{r:UInt64}(hm:CN a0 a1=some r):Sf prog 62 [.d (.u a0),.d (.u a1)] (.d (.u r)):=
 ⟨call62,fun η m As w vs hv0 hd S=>by
  have S:St m As w:=S;obtain⟨v0,u0,rfl,r0,hv1⟩:=Bg.cons_inv hv0;obtain rfl:=r0.u_inv;obtain⟨v1,u1,rfl,r1,hv2⟩:=Bg.cons_inv hv1;obtain rfl:=r1.u_inv;obtain rfl:=Bg.nil_inv hv2;refine Aw.mono (Rp S hm) ?_;rintro v w' ⟨M,hle,S0,rfl⟩;exact⟨M,none0,_,_,_,hle,TH hd _,⟨rfl,rfl,rfl⟩,fun n h=>absurd rfl h,(.d (.u _)),S0⟩⟩
def HX (a0:UInt64):Option Bool:=Ac (gu ((decide ((a0.toNat:Int)>0))&&(decide ((a0.toNat:Int)<2305843009213691579))) (CN a0 1152921504606845789)) fun x1=>bnd ((((decide ((a0.toNat:Int)>0))&&(decide ((a0.toNat:Int)<2305843009213691579)))&&((x1.toNat:Int)==1))) fun x2=>some x2
theorem SK {a0:UInt64}{r:Bool}(hm:HX a0=some r):Sf prog 60 [.d (.u a0)] (.d (.t r)):=
 sp call60 func60 rfl ntmps60 rfl fun D0 As η0 m0 hd=>by
  unfold HX at hm;obtain⟨x1,q1,hm⟩:=Aa hm;refine gcG (fun h=>JM (DX h q1)) (by kernel_rfl) ?_;have hm:=AE hm;let x2:Bool:=((((decide ((a0.toNat:Int)>0))&&(decide ((a0.toNat:Int)<2305843009213691579)))&&((x1.toNat:Int)==1)));have e0:=Option.some.inj hm;subst e0;exact Au hd (by kernel_rfl)
def A9 (s1:UInt64×UInt64×Int×Int):Option ((UInt64×UInt64×Int×Int)⊕(Int)):=if((s1.2.1.toNat:Int) !=0)=true then if s1.2.1≠0 then bnd ((s1.1-((s1.1/s1.2.1)*s1.2.1))) fun x4=>bnd ((w64 (s1.2.2.1-(w64 ((w64 ((s1.1/s1.2.1).toNat:Int))*s1.2.2.2))))) fun x5=>some (.inl (s1.2.1,x4,s1.2.2.2,x5))else none else some (.inr s1.2.2.1)
def Da (a0:UInt64)(a1:UInt64):Option (UInt64×Int):=if a0≠0 then if(((a1%a0).toNat:Int)==0)=true then some (0,10)else Ac (Ac (iter A9 A0 ((a1%a0),a0,1,0)) fun x2=>some x2) fun x1=>Ac (if(decide (x1<0))=true then bnd ((w64 (x1+(w64 (a0.toNat:Int))))) fun x7=>some x7 else some x1) fun x6=>some ((toU x6),0)else none
theorem JC {a0:UInt64}{a1:UInt64}{r:UInt64×Int}(hm:Da a0 a1=some r):Sf prog 107 [.d (.u a0),.d (.u a1)] (.tup [.d (.u r.1),.d (.i r.2)]):=
 sp call107 func107 rfl ntmps107 rfl fun D0 As η0 m0 hd=>by
  unfold Da at hm;obtain⟨q1,hm⟩:=B8 hm;refine Uy (d:= .u a0) (r:= .u (a1%a0)) (fun h=>q1) (by kernel_rfl) ?_;refine gi hm (by kernel_rfl) (fun hc1 hm=> ?_) fun hc1 hm=> ?_
  ·skip;have e0:=Option.some.inj hm;subst e0;exact Au hd (by kernel_rfl)
  obtain⟨x1,q2,hm⟩:=Aa hm;obtain⟨x2,q3,q2⟩:=Aa q2;refine gjU 0 (fun(_:Unit)=>⟨[(0,.d (.u a0)),(8,.d (.i x1))],[],[],0⟩) (fun _=>True) (by kernel_rfl) (fun Jp bk1=> ?_) fun _ _=> ?_
  ·refine gjU 0 (fun(_:Unit)=>⟨[(0,.d (.u a0)),(8,.d (.i x2))],[],[],0⟩) (fun _=>True) (by kernel_rfl) (fun Jp bk2=> ?_) fun _ _=> ?_
   ·refine gl hd (fun(p:Nat×(UInt64×UInt64×Int×Int))=>let (p0,p_0,p_1,p_2,p_3):=p; ⟨[(0,.d (.u a0)),(6,.d (.u p_0)),(7,.d (.u p_1)),(8,.d (.i p_2)),(9,.d (.i p_3))],[],[],0⟩) (fun p=>iter A9 p.1 p.2=some x2) (fun p=>p.1) (A0,((a1%a0),a0,1,0)) q3 (by kernel_rfl) ?_;rintro⟨n1,s1⟩ q4 Jl bl1;cases n1 with
    |zero=>exact(Ar q4).elim
    |succ n1=>
     obtain⟨y1,q6,q5⟩:=Ao q4;unfold A9 at q6;refine gi q6 (by kernel_rfl) (fun hc2 q6=> ?_) fun hc2 q6=> ?_
     ·skip;obtain⟨q8,q6⟩:=B8 q6;refine Uy (d:= .u s1.2.1) (r:= .u (s1.1/s1.2.1)) (fun h=>q8) (by kernel_rfl) ?_;have q6:=AE q6;let x4:UInt64:=((s1.1-((s1.1/s1.2.1)*s1.2.1)));have q6:=AE q6;let x5:Int:=((w64 (s1.2.2.1-(w64 ((w64 ((s1.1/s1.2.1).toNat:Int))*s1.2.2.2)))));have e0:=Option.some.inj q6;subst e0;rcases q5 with ⟨sn,e,q5'⟩|e
      ·have e:=Sum.inl.inj e;subst e;exact gb bl1 hd (n1,_) ⟨q5',Nat.lt_succ_self _⟩ (by kernel_rfl)
      cases AN e
     have e0:=Option.some.inj q6;subst e0;rcases q5 with ⟨sn,e,_⟩|e
     ·cases B2 e
     have e:=Sum.inr.inj e;subst e;exact gb bk2 hd () trivial (by kernel_rfl)
   have e0:=Option.some.inj q2;subst e0;exact gb bk1 hd () trivial (by kernel_rfl)
  obtain⟨x6,q11,hm⟩:=Aa hm;refine gj (fun(_:Unit)=>⟨[(8,.d (.i x6))],[],[],0⟩) (fun _=>True) (by kernel_rfl) (fun Jp bk3=> ?_) fun _ _=> ?_
  ·refine gi q11 (by kernel_rfl) (fun hc3 q11=> ?_) fun hc3 q11=> ?_
   ·have q11:=AE q11;let x7:Int:=((w64 (x1+(w64 (a0.toNat:Int)))));have e0:=Option.some.inj q11;subst e0;exact gb bk3 hd () trivial (by kernel_rfl)
   have e0:=Option.some.inj q11;subst e0;exact gb bk3 hd () trivial (by kernel_rfl)
  have e0:=Option.some.inj hm;subst e0;exact Au hd (by kernel_rfl)
def Db (a0:UInt64):Option (UInt64×Int):=Ac (Da 2305843009213691579 a0) fun x1=>some (x1.1,x1.2)
theorem Rr {a0:UInt64}{r:UInt64×Int}(hm:Db a0=some r):Sf prog 61 [.d (.u a0)] (.tup [.d (.u r.1),.d (.i r.2)]):=
 sp call61 func61 rfl ntmps61 rfl fun D0 As η0 m0 hd=>by
  unfold Db at hm;obtain⟨x1,q1,hm⟩:=Aa hm;refine gc (fun _=>JC q1) (by kernel_rfl) ?_;have e0:=Option.some.inj hm;subst e0;exact Au hd (by kernel_rfl)
def Ht (a0:UInt64×UInt64)(a1:UInt64):Option UInt64:=if((a1.toNat:Int)==0)=true then some 0 else Ac (EA a0.1 2305843009213693952) fun x1=>if a1≠0 then Ac (Fu ((x1.1+(H3 x1.2 a0.2))%a1) (x1.2+a0.2) a1) fun x2=>some x2.2 else none
theorem OQ {a0:UInt64×UInt64}{a1:UInt64}{r:UInt64}(hm:Ht a0 a1=some r):Sf prog 110 [ag (J2 a0),.d (.u a1)] (.d (.u r)):=
 sp call110 func110 rfl ntmps110 rfl fun D0 As η0 m0 hd=>by
  unfold Ht at hm;refine gi hm (by kernel_rfl) (fun hc1 hm=> ?_) fun hc1 hm=> ?_
  ·skip;have e0:=Option.some.inj hm;subst e0;exact Au hd (by kernel_rfl)
  obtain⟨x1,q1,hm⟩:=Aa hm;refine gc (fun _=>JE q1) (by kernel_rfl) ?_;refine Aaw (p:=x1.2) (q:=a0.2) func162 (by kernel_rfl) (by kernel_rfl) (by kernel_rfl) (by kernel_rfl) (by kernel_rfl) ?_;obtain⟨q2,hm⟩:=B8 hm;refine Uy (d:= .u a1) (r:= .u ((x1.1+(H3 x1.2 a0.2))%a1)) (fun h=>q2) (by kernel_rfl) ?_;obtain⟨x2,q3,hm⟩:=Aa hm;refine gc (fun _=>Mu q3) (by kernel_rfl) ?_;have e0:=Option.some.inj hm;subst e0;exact Au hd (by kernel_rfl)
def EJ (a1:UInt64)(s1:(List UInt8)×Int):Option (((List UInt8)×Int)⊕((List UInt8))):=if(decide (s1.2≥0))=true then if(0:Int)≤(w64 (8*s1.2))then Ac (app 1 s1.1 ([(toB ((CZ a1 ((w64 (8*s1.2)).toNat)).toNat:Int))]:List UInt8)) fun x4=>some (.inl (x4,(w64 (s1.2-1))))else none else some (.inr s1.1)
def Hr (a0:List UInt8)(a1:UInt64)(a2:Int):Option (List UInt8):=Ac (Ac (iter (EJ a1) A0 (a0,(w64 (a2-1)))) fun x2=>some x2) fun x1=>some x1
theorem U2 {a0:List UInt8}{a1:UInt64}{a2:Int}{r:List UInt8}(hm:Hr a0 a1 a2=some r):Sp prog 164 [.ow 0,.d (.u a1),.d (.i a2)] [.row 0 1 _ eB a0] 1 (is (.ow 1) [.row 1 1 _ eB r] 2):=
 sp call164 func164 rfl ntmps164 rfl fun D0 As η0 m0 hd=>by
  unfold Hr at hm;obtain⟨x1,q1,hm⟩:=Aa hm;obtain⟨x2,q2,q1⟩:=Aa q1;refine gjU 0 (fun(_:Unit)=>⟨[(0,.ow 1)],[(0,.row 1 1 _ eB x1)],[],2⟩) (fun _=>True) (by kernel_rfl) (fun Jp bk1=> ?_) fun _ _=> ?_
  ·refine gjU 0 (fun(_:Unit)=>⟨[(0,.ow 1)],[(0,.row 1 1 _ eB x2)],[],2⟩) (fun _=>True) (by kernel_rfl) (fun Jp bk2=> ?_) fun _ _=> ?_
   ·refine gl hd (fun(p:Nat×((List UInt8)×Int))=>let (p0,p_0,p_1):=p; ⟨[(0,.ow 1),(1,.d (.u a1)),(2,.d (.i p_1))],[(0,.row 1 1 _ eB p_0)],[],2⟩) (fun p=>iter (EJ a1) p.1 p.2=some x2) (fun p=>p.1) (A0,(a0,(w64 (a2-1)))) q2 (by kernel_rfl) ?_;rintro⟨n1,s1⟩ q3 Jl bl1;cases n1 with
    |zero=>exact(Ar q3).elim
    |succ n1=>
     obtain⟨y1,q5,q4⟩:=Ao q3;unfold EJ at q5;refine gi q5 (by kernel_rfl) (fun hc1 q5=> ?_) fun hc1 q5=> ?_
     ·skip;obtain⟨q7,q5⟩:=B8 q5;refine gsh (r:= .u (CZ a1 ((w64 (8*s1.2)).toNat))) (fun h=>q7) (by kernel_rfl) ?_;refine EC (k:=1) eB ([(toB ((CZ a1 ((w64 (8*s1.2)).toNat)).toNat:Int))]:List UInt8) (fun _=>rfl) (by kernel_rfl) ?_;obtain⟨x4,q8,q5⟩:=Aa q5;refine KS (k:=1) (E:=eB) (fun _=>rfl) q8 (by kernel_rfl) ?_;have e0:=Option.some.inj q5;subst e0;rcases q4 with ⟨sn,e,q4'⟩|e
      ·have e:=Sum.inl.inj e;subst e;exact gb bl1 hd (n1,_) ⟨q4',Nat.lt_succ_self _⟩ (by kernel_rfl)
      cases AN e
     have e0:=Option.some.inj q5;subst e0;rcases q4 with ⟨sn,e,_⟩|e
     ·cases B2 e
     have e:=Sum.inr.inj e;subst e;exact gb bk2 hd () trivial (by kernel_rfl)
   have e0:=Option.some.inj q1;subst e0;exact gb bk1 hd () trivial (by kernel_rfl)
  have e0:=Option.some.inj hm;subst e0;exact Au hd (by kernel_rfl)
def AH {σ:Type}(p0:σ→(List UInt8)→Option (Bool×σ))(k0:List UInt8)(k1:Int)(s1:Int×σ):Option ((Int×σ)⊕((σ)⊕((List UInt8)×Int×σ))):=if(decide (s1.1<(k0.length:Int)))=true then Ac (cut k0 s1.1 (k0.length:Int)) fun x3=>Ac (cut k0 s1.1 (w64 (s1.1+(MZ k1 (x3.length:Int))))) fun x4=>Ac (p0 s1.2 x4) fun x5=>if(!x5.1)=true then some (.inr (.inr (k0,k1,x5.2)))else some (.inl ((w64 (s1.1+k1)),x5.2))else some (.inr (.inl s1.2))
def Ck {σ:Type}(p0:σ→(List UInt8)→Option (Bool×σ))(k0:List UInt8)(k1:Int)(s0:σ):Option ((List UInt8)×Int×σ):=Ac (iter (AH p0 k0 k1) A0 (0,s0)) fun x1=>match x1 with| .inr r=>some r| .inl y1=>some (k0,k1,y1)
theorem H5 {m:Mem}{As:List Ow}{w:World}{σ:Type}{R:σ→Mem→List Ow→Prop}{p0:σ→(List UInt8)→Option (Bool×σ)}{f0:Value}{kb0:Nat}{k0:List UInt8}{k0v0:Value}{kb1:Nat}{k1:Int}{s0:σ}{X0:List Ow}{r:(List UInt8)×Int×σ}(S:St m ((bx kb0 [k0v0] 52)::(bx kb1 [vI k1] 3)::(X0++As)) w)(hup: ∀{s M M' X},M≤M'→R s M X→R s M' X)(hX0:R s0 m X0)(cb0: ∀{m':Mem} {As':List Ow} {w':World} {s:σ} {X:List Ow} {b0:List UInt8} {b0v0:Value} {r:Bool×σ},St m' (X++As') w'→R s m' X→SlR m' b0v0 b0→p0 s b0=some r→Ed Tryz.prog f0 [b0v0] w' fun v w''=> ∃(M:Mem) (X':List Ow),m'≤M∧St M (X'++As') w''∧R r.2 M X'∧v=vb r.1)(fc0:f0.cells= #[f0])(k0h0:SlR m k0v0 k0)(hm:Ck p0 k0 k1 s0=some r):
  Aw Tryz.prog 228 #[f0,pt kb0 0,pt kb1 0] w fun v w'=> ∃(M:Mem),m≤M∧∃(rb0_0:Value) (X:List Ow),St M ((bx kb0 [rb0_0] 52)::(bx kb1 [vI r.2.1] 3)::(X++As)) w'∧v= .tuple #[]∧SlR M rb0_0 r.1∧R r.2.2 M X:=by
 unfold Ck at hm;have L0:=Mem.rfl' m;refine CP (args:=[f0,pt kb0 0,pt kb1 0]) Tryz.func228 rfl Tryz.ntmps228 (Nat.le_of_ble_eq_true rfl) ?_;refine Ag ?_;refine Ad ?_;refine AP (v:=vI 0) rfl ?_;refine Ah ?_;refine nrm ?_;obtain⟨x1,q1,hm⟩:=Aa hm;have L1:=Mem.rfl' m;refine MR ?_;refine AT [4,5,6,7,8,9,10,11,12,13,14,15,16,17,18,19,20,21,22,23,24,25,26,27,28,29,30] (fun f' w'=> ∃(M1:Mem) (y1:σ) (X2:List Ow),x1= .inl y1∧m≤M1∧St M1 ((bx kb0 [k0v0] 52)::(bx kb1 [vI k1] 3)::(X2++As)) w'∧R y1 M1 X2∧Cb f' []) ?_ ?_
 ·refine Av ?_;refine BT [4,5,6,7,8,9,10,11,12,13,14,15,16,17,18,19,20,21,22,23,24,25,26,27,28,29,30] (fun n1 f' w'=> ∃(s1:Int×σ) (m9:Mem) (X1:List Ow),iter (AH p0 k0 k1) n1 s1=some x1∧m≤m9∧St m9 ((bx kb0 [k0v0] 52)::(bx kb1 [vI k1] 3)::(X1++As)) w'∧R s1.2 m9 X1∧Cb f' [(4,vI s1.1)]) A0 ⟨(0,s0),m,_,q1,L1,S,hX0,⟨rfl,trivial⟩⟩ ?_;rintro n1 f1 w1 ho ⟨s1,m1,X1,q2,L3,S1,h1,ha⟩;obtain⟨u1,rfl⟩:=BR (N:=31) ho ha;clear ho ha;replace k0h0:=k0h0.up L3;have L2:=Mem.rfl' m1;clear S;cases n1 with
  |zero=>exact(Ar q2).elim
  |succ n1=>
   obtain⟨y2,q4,q3⟩:=Ao q2;unfold AH at q4;refine Ag ?_;refine Ag ?_;refine Ad ?_;refine Ap (v:=vI s1.1) rfl ?_;refine HE (i:=0) (cs:=[k0v0]) S1 rfl rfl Tryz.isAgg52 Tryz.sizeOf52 rfl (fun _=>rfl) ?_;refine JL (xs:=k0) rfl k0h0 Tryz.underlying52 ?_;refine Kj (m:=s1.1) (n:=(k0.length:Int)) rfl rfl ?_;refine Ah ?_;refine nrm ?_;refine Cq (t:=(decide (s1.1<(k0.length:Int)))) rfl (fun hc1=> ?_) (fun hc1=> ?_)
   ·replace q4:=ifT hc1 q4;refine AQ ?_;refine nrm ?_;refine Ag ?_;refine Av ?_;refine Ag ?_;obtain⟨x3,q6,q4⟩:=Aa q4;have HM:Hd [(13,fv (vI k1)),(14,fv k0v0),(15,fv (vI s1.1)),(16,fun(M:Mem) (v:Value)=> ∃(v1:Value),v=v1∧SlR M v1 x3),(17,fv (vI (x3.length:Int)))]:=⟨mv,mv,mv,(fun _ _ _ l ⟨v1,e,h3⟩=>⟨v1,e,h3.up l⟩),mv,trivial⟩;refine Jv HM 5 Ci rfl rfl rfl [13,14,15,16,17] (fun L f M w=>St M ((bx kb0 [k0v0] 52)::(bx kb1 [vI k1] 3)::(X1++As)) w) (St.drew S1 _) ?_ ?_
    ·refine⟨?_,?_,?_,?_,?_,trivial⟩
     ·exact flp HM rfl [] (fun _ _=>trivial) (fun _ S2 q=>HE (i:=1) (cs:=[vI k1]) S2 rfl rfl Tryz.isAgg3 Tryz.sizeOf3 rfl (fun _=>rfl) q) rfl
     ·exact flp HM rfl [] (fun _ _=>trivial) (fun _ S3 q=>HE (i:=0) (cs:=[k0v0]) S3 rfl rfl Tryz.isAgg52 Tryz.sizeOf52 rfl (fun _=>rfl) q) rfl
     ·exact flp HM rfl [] (fun _ _=>trivial) (fun _ _ q=>Ap (v:=vI s1.1) rfl q) rfl
     ·intro L f5 w5 hL hd hc ⟨m5,L10,S5,K,hO⟩;have d1:L 1=true:=dep hd rfl;have e1:=K 1 d1;have d2:L 2=true:=dep hd rfl;have e2:=K 2 d2;obtain⟨u5,rfl⟩:=BR (N:=31) (L:=[(14,k0v0),(15,vI s1.1)]) hO ⟨e1,e2,trivial⟩;replace S5:St _ ((bx kb0 [k0v0] 52)::(bx kb1 [vI k1] 3)::(X1++As)) _:=S5;replace k0h0:=k0h0.up L10;replace h1:=hup L10 h1;have L11:=Mem.rfl' m5;refine SX (ys:=x3) (l:=s1.1) (h:=(k0.length:Int)) rfl k0h0 Tryz.underlying52 Tryz.sizeOf5 (.inr ⟨_,rfl⟩) (.inl ⟨rfl,rfl⟩) (.inl rfl) q6 ?_;intro v1 h3;refine wpn ?_;refine⟨m5,Mem.tr L10 L11,?_,IP HM rfl K L11 rfl rfl ⟨v1,rfl,h3⟩,E2⟩;exact S5
     ·intro L f6 w6 hL hd hc ⟨m6,L12,S6,K,hO⟩;have d3:L 3=true:=dep hd rfl;obtain⟨v2,e3,h4⟩:=K 3 d3;obtain⟨u6,rfl⟩:=BR (N:=31) (L:=[(16,v2)]) hO ⟨e3,trivial⟩;replace S6:St _ ((bx kb0 [k0v0] 52)::(bx kb1 [vI k1] 3)::(X1++As)) _:=S6;replace k0h0:=k0h0.up L12;replace h1:=hup L12 h1;have L13:=Mem.rfl' m6;refine JL (xs:=x3) rfl h4 Tryz.underlying52 ?_;refine wpn ?_;refine⟨m6,Mem.tr L12 L13,?_,IP HM rfl K L13 rfl rfl rfl,E2⟩;exact S6
    intro L f7 w7 hall ⟨m7,L14,S7,K,hO⟩;have d0:L 0=true:=hall 0 (by decide);have e4:=K 0 d0;have d4:L 4=true:=hall 4 (by decide);have e5:=K 4 d4;obtain⟨u7,rfl⟩:=BR (N:=31) (L:=[(13,vI k1),(17,vI (x3.length:Int))]) hO ⟨e4,e5,trivial⟩;replace S7:St _ ((bx kb0 [k0v0] 52)::(bx kb1 [vI k1] 3)::(X1++As)) _:=S7;replace k0h0:=k0h0.up L14;replace h1:=hup L14 h1;replace L2:=Mem.tr L2 L14;clear S1;refine Wg rfl rfl ?_;refine AP (v:=vI (MZ k1 (x3.length:Int))) rfl ?_;refine Ah ?_;refine nrm ?_;refine Ag ?_;refine Ad ?_;refine Ap (v:=f0) rfl ?_;refine HE (i:=0) (cs:=[k0v0]) S7 rfl rfl Tryz.isAgg52 Tryz.sizeOf52 rfl (fun _=>rfl) ?_;refine Ap (v:=vI s1.1) rfl ?_;refine Ap (v:=vI s1.1) rfl ?_;refine Ap (v:=vI (MZ k1 (x3.length:Int))) rfl ?_;refine EW (m:=s1.1) (n:=(MZ k1 (x3.length:Int))) rfl rfl ?_;refine Ap (v:=vI s1.1) rfl ?_;refine Ap (v:=vI (MZ k1 (x3.length:Int))) rfl ?_;refine EW (m:=s1.1) (n:=(MZ k1 (x3.length:Int))) rfl rfl ?_;obtain⟨x4,q7,q4⟩:=Aa q4;refine SX (ys:=x4) (l:=s1.1) (h:=(w64 (s1.1+(MZ k1 (x3.length:Int))))) rfl k0h0 Tryz.underlying52 Tryz.sizeOf5 (.inr ⟨_,rfl⟩) (.inr ⟨_,rfl⟩) (.inr ⟨(fun h=>by cases h),_,rfl⟩) q7 ?_;intro v3 h5;obtain⟨x5,q8,q4⟩:=Aa q4;have S8:=St.absF (L:=[bx kb0 [k0v0] 52,bx kb1 [vI k1] 3]) (X:=X1) (As:=As) S7;refine G8 rfl (cb0 S8 h1 h5 q8) rfl ?_;rintro _ w8 ⟨m8,X3,l1,S9,h6,rfl⟩;replace S9:=St.absF (L:=X3) (X:=[bx kb0 [k0v0] 52,bx kb1 [vI k1] 3]) (As:=As) S9;clear S8;replace h5:=h5.up l1;replace k0h0:=k0h0.up l1;replace L2:=Mem.tr L2 l1;replace S9:St _ ((bx kb0 [k0v0] 52)::(bx kb1 [vI k1] 3)::(X3++As)) _:=S9;clear S7;refine SW rfl ?_;refine Ah ?_;refine nrm ?_;refine Cq (t:=(!x5.1)) rfl (fun hc2=> ?_) (fun hc2=> ?_)
    ·replace q4:=ifT hc2 q4;refine Be ?_;refine blR ?_;refine thR ?_;refine thR ?_;refine blR ?_;refine thR ?_;refine D3 ?_;intro we hpd;replace S9:=St.pd S9 hpd;cases q4;rcases q3 with ⟨sn,e,_⟩|e
     ·cases e
     cases e;dsimp only at hm;have e0:=Option.some.inj hm;subst e0;exact It [] rfl trivial ⟨_,(Mem.tr L0 (Mem.tr L3 L2)),_,_,S9,rfl,k0h0,h6⟩
    replace q4:=ifF hc2 q4;refine AQ ?_;refine Mb ?_;refine nrm ?_;refine Ad ?_;refine Ap (v:=vI s1.1) rfl ?_;refine HE (i:=1) (cs:=[vI k1]) S9 rfl rfl Tryz.isAgg3 Tryz.sizeOf3 rfl (fun _=>rfl) ?_;refine EW (m:=s1.1) (n:=k1) rfl rfl ?_;refine AP (v:=vI (w64 (s1.1+k1))) rfl ?_;refine Ah ?_;refine nrm ?_;have e0:=Option.some.inj q4;subst e0;rcases q3 with ⟨sn,e,q3'⟩|e
    ·cases e;exact⟨E2,_,Nat.lt_succ_self _,⟨_,m8,_,q3',Mem.tr L3 L2,S9,h6,⟨rfl,trivial⟩⟩⟩
    ·cases e
   replace q4:=ifF hc1 q4;refine CD ?_;refine thE ?_;refine thE ?_;refine exB ?_;refine nrm ?_;have e0:=Option.some.inj q4;subst e0;rcases q3 with ⟨sn,e,_⟩|e
   ·cases e
   ·cases e;exact⟨E2,m1,_,_,rfl,Mem.tr L3 L2,S1,h1,trivial⟩
 rintro f8 w9 ho ⟨m10,y1,X2,rfl,l2,S10,h2,ha⟩;obtain⟨u8,rfl⟩:=BR (N:=31) ho ha;clear ho ha;dsimp only at hm;replace k0h0:=k0h0.up l2;replace L0:=Mem.tr L0 l2;clear S;refine Vk ?_;intro we hpd;replace S10:=St.pd S10 hpd;have e0:=Option.some.inj hm;subst e0;exact It [] rfl trivial ⟨_,L0,_,_,S10,rfl,k0h0,h2⟩
def Cz (a0:List UInt8)(a1:Int):Option ((List UInt8)×Int):=Ac (if(decide (a1<1))=true then none else some ()) fun x1=>some (a0,a1)
theorem Iw {m:Mem}{As:List Ow}{w:World}{a0:List UInt8}{a0v0:Value}{a1:Int}{r:(List UInt8)×Int}(S:St m (As) w)(a0h0:SlR m a0v0 a0)(hm:Cz a0 a1=some r):
  Aw Tryz.prog 215 #[a0v0,vI a1] w fun v w'=> ∃(M:Mem),m≤M∧∃(rk0_0:Nat) (rc0_0_0:Value) (rk0_1:Nat),St M ((bx rk0_0 [rc0_0_0] 52)::(bx rk0_1 [vI r.2] 3)::As) w'∧v= .func (.func 228) #[] #[pt rk0_0 0,pt rk0_1 0]∧SlR M rc0_0_0 r.1:=by
 unfold Cz at hm;have L0:=Mem.rfl' m;refine CP (args:=[a0v0,vI a1]) Tryz.func215 rfl Tryz.ntmps215 (Nat.le_of_ble_eq_true rfl) ?_;refine Ag ?_;refine Ad ?_;refine Z5 S rfl (SlR.cells a0h0) ?_;intro b1 w1 S1;replace S1:St _ ((bx b1 [a0v0] 52)::As) _:=S1;clear S;refine LV S1 rfl ?_;intro b2 w2 S2;replace S2:St _ ((bx b2 [vI a1] 3)::(bx b1 [a0v0] 52)::As) _:=S2;clear S1;refine AP (v:= .nilFunc) rfl ?_;refine Ah ?_;refine nrm ?_;obtain⟨x1,q1,hm⟩:=Aa hm;have L1:=Mem.rfl' m;refine Ag ?_;refine AT [5,6,7] (fun f' w'=> ∃(M1:Mem),m≤M1∧St M1 ((bx b2 [vI a1] 3)::(bx b1 [a0v0] 52)::As) w'∧Cb f' []) ?_ ?_
 ·refine Ag ?_;refine Ad ?_;refine HE (i:=0) (cs:=[vI a1]) S2 rfl rfl Tryz.isAgg3 Tryz.sizeOf3 rfl (fun _=>rfl) ?_;refine Kj (m:=a1) (n:=1) rfl rfl ?_;refine Ah ?_;refine nrm ?_;refine Cq (t:=(decide (a1<1))) rfl (fun hc1=> ?_) (fun hc1=> ?_)
  ·replace q1:=ifT hc1 q1;cases q1
  replace q1:=ifF hc1 q1;refine AQ ?_;refine nrm ?_;have e0:=Option.some.inj q1;subst e0;exact⟨E2,m,L1,S2,trivial⟩
 rintro f1 w3 ho ⟨m1,l1,S3,ha⟩;obtain⟨u1,rfl⟩:=BR (N:=9) ho ha;replace a0h0:=a0h0.up l1;replace L0:=Mem.tr L0 l1;clear S2;refine Ag ?_;refine Ad ?_;refine LU (caps:=[pt b1 0,pt b2 0]) rfl ?_;refine AP (v:= .func (.func 228) #[] #[pt b1 0,pt b2 0]) rfl ?_;refine Ah ?_;refine nrm ?_;refine Be ?_;refine D3 ?_;intro we hpd;replace S3:=St.pd S3 hpd;have S4:St _ ((bx b1 [a0v0] 52)::(bx b2 [vI a1] 3)::As) _:=St.perm S3 (List.Perm.swap _ _ _);have e0:=Option.some.inj hm;subst e0;exact It [_] rfl ⟨rfl,trivial⟩ ⟨_,L0,_,_,_,S4,rfl,a0h0⟩
def DL (b5:List UInt8)(i1:Int)(s2:UInt64):Option (UInt64):=Ac (idx b5 (i1:Int)) fun x6=>if(0:Int)≤(w64 (8*(i1:Int)))then bnd ((s2|||(Gb (toU (x6.toNat:Int)) ((w64 (8*(i1:Int))).toNat)))) fun x7=>some x7 else none
def DM (b5:List UInt8)(s1:(List UInt64)):Option ((List UInt64)):=Ac (Ac (CW (DL b5) b5.length 0 0) fun x4=>some x4) fun x3=>Ac (app 8 s1 ([x3]:List UInt64)) fun x8=>some x8
def IM (a0:List UInt8):Option (List UInt64):=Ac (Cz a0 7) fun x1=>Ac (Ck (fun(s:(List UInt64)) (b0:List UInt8)=>Ac (DM b0 s) fun y=>some (true,y)) x1.1 x1.2 ([]:List UInt64)) fun x2=>some x2.2.2
theorem U5 {m:Mem}{As:List Ow}{w:World}{a0:List UInt8}{a0v0:Value}{r:List UInt64}(S:St m (As) w)(a0h0:SlR m a0v0 a0)(hm:IM a0=some r):
  Aw Tryz.prog 199 #[a0v0] w fun v w'=> ∃(M:Mem),m≤M∧∃(rv0:Value) (rc0:List Value),St M ((row 1 rv0 rc0 r.length)::As) w'∧v=rv0∧Bw M rc0 r:=by
 unfold IM at hm;have L0:=Mem.rfl' m;refine CP (args:=[a0v0]) Tryz.func199 rfl Tryz.ntmps199 (Nat.le_of_ble_eq_true rfl) ?_;refine Ag ?_;refine Ad ?_;refine AP (v:= .slice none 0 0) rfl ?_;refine Ah ?_;refine nrm ?_;refine Ag ?_;refine Ad ?_;refine ES S Tryz.zeroValue140 ?_;intro b1 w1 S1;replace S1:St _ ((bx b1 [.slice none 0 0] 140)::As) _:=S1;clear S;refine Ah ?_;refine nrm ?_;refine Ag ?_;refine Ag ?_;refine Ad ?_;refine Ap (v:=a0v0) rfl ?_;obtain⟨x1,q1,hm⟩:=Aa hm;refine Cx Tryz.call215 (Iw (a0:=a0) (a1:=7) S1 a0h0 q1) rfl ?_;rintro _ w2 ⟨m1,l1,b2,v1,b3,S2,rfl,h1⟩;replace a0h0:=a0h0.up l1;replace L0:=Mem.tr L0 l1;clear S1;replace S2:St _ ((bx b2 [v1] 52)::(bx b3 [vI x1.2] 3)::(bx b1 [.slice none 0 0] 140)::As) _:=S2;refine Ah ?_;refine nrm ?_;refine Av ?_;obtain⟨x2,q2,hm⟩:=Aa hm;refine Fy S2 rfl Tryz.call228 ?_;intro lp1 rip2 w3 h2 S3;replace S3:St _ ((Lp lp1 rip2 .ready none)::(bx b2 [v1] 52)::(bx b3 [vI x1.2] 3)::(bx b1 [.slice none 0 0] 140)::As) _:=S3;clear S2;have S4:=St.rowNil S3 1;have h4:Bw m1 [] ([]:List UInt64):=Bw.nil;replace S4:St _ ((row 1 (.slice none 0 0) [] ([]:List UInt64).length)::(Lp lp1 rip2 .ready none)::(bx b2 [v1] 52)::(bx b3 [vI x1.2] 3)::(bx b1 [.slice none 0 0] 140)::As) _:=S4;clear S3;have S5:St _ ((bx b2 [v1] 52)::(bx b3 [vI x1.2] 3)::(Lp lp1 rip2 .ready none)::(row 1 (.slice none 0 0) [] ([]:List UInt64).length)::(bx b1 [(.slice none 0 0)] 140)::As) _:=St.perm S4 (List.Perm.trans (List.Perm.cons _ (List.Perm.swap _ _ _)) (List.Perm.trans (List.Perm.swap _ _ _) (List.Perm.trans (List.Perm.cons _ (List.Perm.cons _ (List.Perm.swap _ _ _))) (List.Perm.trans (List.Perm.cons _ (List.Perm.swap _ _ _)) (List.Perm.cons _ (List.Perm.cons _ (List.Perm.swap _ _ _)))))));clear S4;have hcb1: ∀{m':Mem} {As':List Ow} {w':World} {s:(List UInt64)} {X:List Ow} {b0:List UInt8} {b0v0:Value} {r:Bool×(List UInt64)},St m' (X++As') w'→(∃(v3:Value) (c2:List Value),m1≤m'∧X=Lp lp1 rip2 .ready none::(row 1 v3 c2 (s).length)::(bx b1 [v3] 140)::[]∧Bw m' c2 (s))→SlR m' b0v0 b0→(fun(s:(List UInt64)) (b0:List UInt8)=>Ac (DM b0 s) fun y=>some (true,y)) s b0=some r→Ed Tryz.prog (.func (.yield lp1) #[] #[]) [b0v0] w' fun v w''=> ∃(M:Mem) (X':List Ow),m'≤M∧St M (X'++As') w''∧(∃(v3:Value) (c2:List Value),m1≤M∧X'=Lp lp1 rip2 .ready none::(row 1 v3 c2 (r.2).length)::(bx b1 [v3] 140)::[]∧Bw M c2 (r.2))∧v=vb r.1:=by
  intro m2 As1 w4 s1 X1 b5 v4 r4 S6 h6 h7 hm1;obtain⟨v5,c3,L2,rfl,h8⟩:=h6;obtain⟨y1,q3,hm1⟩:=Aa hm1;cases hm1;unfold DM at q3;replace S6:St _ ((Lp lp1 rip2 .ready none)::(row 1 v5 c3 s1.length)::(bx b1 [v5] 140)::As1) _:=S6;have L1:=Mem.rfl' m2;refine Ed.round h2 rfl S6 ?_;refine Ad ?_;refine AP (v:=v4) rfl ?_;refine Ah ?_;refine nrm ?_;refine⟨_,_,S6,?_⟩;intro w5 S7;clear S6;replace S7:St _ ((Lp lp1 rip2 .busy none)::(row 1 v5 c3 s1.length)::(bx b1 [v5] 140)::As1) _:=S7;refine Av ?_;refine Ag ?_;refine Ad ?_;refine AP (v:=vU 0) rfl ?_;refine Ah ?_;refine nrm ?_;obtain⟨x3,q4,q3⟩:=Aa q3;have L3:=Mem.rfl' m2;refine Ag ?_;refine AT [5,6,7,11,12,13,14,15,16,17,18,19,20,21,22,23,24,25] (fun f' w'=> ∃(M1:Mem),m2≤M1∧St M1 ((Lp lp1 rip2 .busy none)::(row 1 v5 c3 s1.length)::(bx b1 [v5] 140)::As1) w'∧Cb f' [(5,vU x3)]) ?_ ?_
  ·refine Ag ?_;refine Ad ?_;refine Ap (v:=v4) rfl ?_;refine JL (xs:=b5) rfl h7 Tryz.underlying52 ?_;refine Ap (v:=vI 0) rfl ?_;refine Ah ?_;refine nrm ?_;obtain⟨x4,q5,q4⟩:=Aa q4;have L4:=Mem.rfl' m2;refine AT [5,6,7,13,14,15,16,17,18,19,20,21,22,23,24,25] (fun f' w'=> ∃(M2:Mem),m2≤M2∧St M2 ((Lp lp1 rip2 .busy none)::(row 1 v5 c3 s1.length)::(bx b1 [v5] 140)::As1) w'∧Cb f' [(5,vU x4)]) ?_ ?_
   ·refine Av ?_;refine BT [5,6,7,13,14,15,16,17,18,19,20,21,22,23,24,25] (fun n1 f' w'=> ∃(i1:Nat) (s2:UInt64) (m4:Mem),n1=b5.length-i1∧i1≤b5.length∧CW (DL b5) (b5.length-i1) (i1:Int) s2=some x4∧m2≤m4∧St m4 ((Lp lp1 rip2 .busy none)::(row 1 v5 c3 s1.length)::(bx b1 [v5] 140)::As1) w'∧Cb f' [(13,vI (i1:Int)),(5,vU s2)]) b5.length ⟨0,0,m2,rfl,Nat.zero_le _,q5,L4,S7,⟨rfl,rfl,trivial⟩⟩ ?_;rintro n1 f1 w6 ho ⟨i1,s2,m3,hn,hi,q6,L6,S8,ha⟩;obtain⟨u1,rfl⟩:=BR (N:=31) ho ha;clear ho ha;replace h7:=h7.up L6;replace h8:=Bw.up L6 h8;have L5:=Mem.rfl' m3;clear S7;refine Ag ?_;refine Ad ?_;refine Kj (m:=(i1:Int)) (n:=(b5.length:Int)) rfl rfl ?_;refine Ah ?_;refine nrm ?_;refine Ag ?_;refine Cq (t:=decide ((i1:Int)<(b5.length:Int))) rfl (fun hc1=> ?_) (fun hc1=> ?_)
    ·have hlt1:i1<b5.length:=by have:=of_decide_eq_true hc1; omega
     obtain⟨y2,q8,q7⟩:=H0 q6 hlt1;unfold DL at q8;refine AQ ?_;refine nrm ?_;refine Ag ?_;refine Av ?_;refine Ag ?_;refine Ad ?_;refine Ap (v:=vI (i1:Int)) rfl ?_;obtain⟨x6,q10,q8⟩:=Aa q8;refine Wm (q:=x6) rfl rfl h7 q10 Tryz.underlying52 Tryz.sizeOf5 ?_;intro p3 c4 h9 r5;obtain rfl:c4=[vB x6]:=r5;refine Wk (cs:=[vB x6]) S8 rfl h9 rfl Tryz.isAgg5 Tryz.sizeOf5 (fun _=>rfl) ?_;refine AP (v:=vI (i1:Int)) rfl ?_;refine AP (v:=vB x6) rfl ?_;refine Ah ?_;refine nrm ?_;refine Ad ?_;refine Ap (v:=vU s2) rfl ?_;refine Ap (v:=vB x6) rfl ?_;refine NQ rfl Tryz.underlying5 Tryz.underlying22 ?_;refine Ap (v:=vI (i1:Int)) rfl ?_;refine OY (m:=8) (n:=(i1:Int)) rfl rfl ?_;obtain⟨q11,q8⟩:=B8 q8;refine Wc (m:=(toU (x6.toNat:Int))) (n:=(w64 (8*(i1:Int)))) rfl rfl q11 ?_;refine s_orU (m:=s2) (n:=(Gb (toU (x6.toNat:Int)) ((w64 (8*(i1:Int))).toNat))) rfl rfl ?_;obtain⟨x7,q12,q8⟩:=CC q8;refine AP (v:=vU x7) (congrArg (fun z=>vU z) q12.symm) ?_;refine Ah ?_;refine Mb ?_;refine nrm ?_;refine Ad ?_;refine EW (m:=(i1:Int)) (n:=1) rfl rfl ?_;refine Ap (v:=vI (w64 ((i1:Int)+1))) rfl ?_;refine Ah ?_;refine nrm ?_;have e0:=Option.some.inj q8;subst e0;exact⟨E2,_,(by omega),⟨i1+1,x7,m3,rfl,hlt1,q7,Mem.tr L6 L5,S8,⟨congrArg (Value.int .i64) (Bf hlt1 (SlR.le h7)),rfl,trivial⟩⟩⟩
    have hlt1: ¬i1<b5.length:=by have:=of_decide_eq_false hc1; omega
    have e:=Eq.symm (GM q6 hlt1);subst e;refine CD ?_;refine thE ?_;refine thE ?_;refine exB ?_;refine nrm ?_;exact⟨E2,m3,Mem.tr L6 L5,S8,⟨rfl,trivial⟩⟩
   rintro f2 w7 ho ⟨m5,l2,S9,ha⟩;obtain⟨u2,rfl⟩:=BR (N:=31) ho ha;clear ho ha;replace h8:=Bw.up l2 h8;replace L3:=Mem.tr L3 l2;clear S7;have e0:=Option.some.inj q4;subst e0;exact⟨E2,m5,L3,S9,⟨rfl,trivial⟩⟩
  rintro f3 w8 ho ⟨m6,l3,S10,ha⟩;obtain⟨u3,rfl⟩:=BR (N:=31) ho ha;replace h8:=Bw.up l3 h8;replace L1:=Mem.tr L1 l3;clear S7;refine Ad ?_;refine HE (i:=2) (cs:=[v5]) S10 rfl rfl Tryz.isAgg140 Tryz.sizeOf140 rfl (fun _=>rfl) ?_;refine Ap (v:=vU x3) rfl ?_;refine s_litC (parts:=[.tmp 27]) (vs:=[vU x3]) (cls:=[[vU x3]]) (xs:=([x3]:List UInt64)) (n:=1) S10 Tryz.underlying140 Tryz.sizeOf22 Tryz.zeroValue22 rfl ⟨rfl,trivial⟩ (Bw.cons (c:=[vU x3]) (x:=x3) rfl Bw.nil) rfl rfl rfl (by decide) (by decide) ?_;intro v6 m7 w9 l4 S11 h10;replace h8:=Bw.up l4 h8;replace L1:=Mem.tr L1 l4;clear S10;obtain⟨x8,q13,q3⟩:=Aa q3;refine SZ (i:=1) (zs:=x8) (bytes:=8) (ti:=Tryz.t22) S11 rfl rfl h8 rfl rfl h10 q13 Tryz.underlying140 Tryz.type22 rfl rfl rfl rfl ?_;intro v7 c5 w10 S12 h11;replace S12:St _ ((Lp lp1 rip2 .busy none)::(row 1 v7 c5 x8.length)::(bx b1 [v5] 140)::As1) _:=S12;clear S11;refine s_stS (i:=2) S12 rfl rfl rfl Tryz.sizeOf140 (St.rowCells (i:=1) S12 rfl) rfl ?_;intro w11 S13;replace S13:St _ ((Lp lp1 rip2 .busy none)::(row 1 v7 c5 x8.length)::(bx b1 [v7] 140)::As1) _:=S13;clear S12;refine Ah ?_;refine Mb ?_;have S14:St _ ((row 1 v7 c5 x8.length)::(Lp lp1 rip2 .busy none)::(bx b1 [v7] 140)::As1) _:=St.perm S13 (List.Perm.swap _ _ _);clear S13;have S15:St _ ((Lp lp1 rip2 .busy none)::(row 1 v7 c5 x8.length)::(bx b1 [v7] 140)::As1) _:=St.perm S14 (List.Perm.swap _ _ _);clear S14;refine⟨_,_,S15,?_⟩;intro w12 S16;have e0:=Option.some.inj q3;subst e0;exact⟨_,Lp lp1 rip2 .ready none::(row 1 v7 c5 x8.length)::(bx b1 [v7] 140)::[],L1,S16,⟨_,_,Mem.tr L2 L1,rfl,h11⟩,rfl⟩
 refine Aw.mono (H5 (p0:=(fun(s:(List UInt64)) (b0:List UInt8)=>Ac (DM b0 s) fun y=>some (true,y))) (k0:=x1.1) (k1:=x1.2) (s0:=([]:List UInt64)) (R:=(fun(s:(List UInt64)) (M:Mem) (X:List Ow)=>(∃(v3:Value) (c2:List Value),m1≤M∧X=Lp lp1 rip2 .ready none::(row 1 v3 c2 (s).length)::(bx b1 [v3] 140)::[]∧Bw M c2 (s)))) (X0:=((Lp lp1 rip2 .ready none)::(row 1 (.slice none 0 0) [] ([]:List UInt64).length)::(bx b1 [(.slice none 0 0)] 140)::[])) (As:=As) S5 (fun l h=>by obtain⟨v3,c2,Lm,e,h5⟩:=h; exact⟨_,_,Mem.tr Lm l,e,Bw.up l h5⟩) ⟨_,_,Mem.rfl' _,rfl,h4⟩ @hcb1 rfl h1 q2) ?_;rintro _ w13 ⟨m8,l5,v8,X2,S17,rfl,h12,⟨v9,c6,L7,rfl,h13⟩⟩;replace S17:St _ ((bx b2 [v8] 52)::(bx b3 [vI x2.2.1] 3)::(Lp lp1 rip2 .ready none)::(row 1 v9 c6 x2.2.2.length)::(bx b1 [v9] 140)::As) _:=S17;have S18:St _ ((Lp lp1 rip2 .ready none)::(bx b2 [v8] 52)::(bx b3 [vI x2.2.1] 3)::(row 1 v9 c6 x2.2.2.length)::(bx b1 [v9] 140)::As) _:=St.perm S17 (List.Perm.trans (List.Perm.cons _ (List.Perm.swap _ _ _)) (List.Perm.swap _ _ _));clear S17;refine⟨_,.ready,none,_,l5,(fun h=>by cases h),S18,?_⟩;intro m9 w14 l6 S19;have l7:=Mem.tr l5 l6;replace h12:=h12.up l6;replace h13:=Bw.up l6 h13;replace L0:=Mem.tr L0 l7;replace S19:St _ ((bx b2 [v8] 52)::(bx b3 [vI x2.2.1] 3)::(row 1 v9 c6 x2.2.2.length)::(bx b1 [v9] 140)::As) _:=S19;refine Mb ?_;refine nrm ?_;refine Ag ?_;refine Ad ?_;refine HE (i:=3) (cs:=[v9]) S19 rfl rfl Tryz.isAgg140 Tryz.sizeOf140 rfl (fun _=>rfl) ?_;refine AP (v:=v9) rfl ?_;refine Ah ?_;refine nrm ?_;refine Be ?_;refine D3 ?_;intro we hpd;replace S19:=St.pd S19 hpd;obtain⟨m10,l8,S20⟩:=St.drop S19 0;replace h13:=Bw.up l8 h13;replace L0:=Mem.tr L0 l8;clear S19;replace S20:St _ ((bx b3 [vI x2.2.1] 3)::(row 1 v9 c6 x2.2.2.length)::(bx b1 [v9] 140)::As) _:=S20;obtain⟨m11,l9,S21⟩:=St.drop S20 0;replace h13:=Bw.up l9 h13;replace L0:=Mem.tr L0 l9;clear S20;replace S21:St _ ((row 1 v9 c6 x2.2.2.length)::(bx b1 [v9] 140)::As) _:=S21;obtain⟨m12,l10,S22⟩:=St.drop S21 1;replace h13:=Bw.up l10 h13;replace L0:=Mem.tr L0 l10;clear S21;replace S22:St _ ((row 1 v9 c6 x2.2.2.length)::As) _:=S22;have e0:=Option.some.inj hm;subst e0;exact It [_] rfl ⟨rfl,trivial⟩ ⟨_,L0,_,_,S22,rfl,h13⟩
def Fq (a0:UInt64)(a1:UInt64):Option UInt64:=bnd (((a1&&&2305843009213693951)+((Gb a0 3)|||(CZ a1 61)))) fun x1=>bnd (((x1&&&2305843009213693951)+(CZ x1 61))) fun x2=>Ac (if(decide ((x2.toNat:Int)≥2305843009213693951))=true then some (x2-2305843009213693951)else some x2) fun x3=>some x3
theorem Mq {a0:UInt64}{a1:UInt64}{r:UInt64}(hm:Fq a0 a1=some r):Sf prog 229 [.d (.u a0),.d (.u a1)] (.d (.u r)):=
 sp call229 func229 rfl ntmps229 rfl fun D0 As η0 m0 hd=>by
  unfold Fq at hm;have hm:=AE hm;let x1:UInt64:=(((a1&&&2305843009213693951)+((Gb a0 3)|||(CZ a1 61))));have hm:=AE hm;let x2:UInt64:=(((x1&&&2305843009213693951)+(CZ x1 61)));obtain⟨x3,q3,hm⟩:=Aa hm;refine gj (fun(_:Unit)=>⟨[(5,.d (.u x3))],[],[],0⟩) (fun _=>True) (by kernel_rfl) (fun Jp bk1=> ?_) fun _ _=> ?_
  ·refine gi q3 (by kernel_rfl) (fun hc1 q3=> ?_) fun hc1 q3=> ?_
   ·skip;have e0:=Option.some.inj q3;subst e0;exact gb bk1 hd () trivial (by kernel_rfl)
   have e0:=Option.some.inj q3;subst e0;exact gb bk1 hd () trivial (by kernel_rfl)
  have e0:=Option.some.inj hm;subst e0;exact Au hd (by kernel_rfl)
def DK (a0:UInt64):Option UInt64:=Ac (Fq 0 a0) fun x1=>some x1
theorem Hz {a0:UInt64}{r:UInt64}(hm:DK a0=some r):Sf prog 216 [.d (.u a0)] (.d (.u r)):=
 sp call216 func216 rfl ntmps216 rfl fun D0 As η0 m0 hd=>by
  unfold DK at hm;obtain⟨x1,q1,hm⟩:=Aa hm;refine gc (fun _=>Mq q1) (by kernel_rfl) ?_;have e0:=Option.some.inj hm;subst e0;exact Au hd (by kernel_rfl)
def DN (a0:UInt64)(a1:UInt64):Option UInt64:=Ac (DK a0) fun x1=>Ac (DK a1) fun x2=>Ac (DK (x1+x2)) fun x3=>some x3
theorem SH {a0:UInt64}{a1:UInt64}{r:UInt64}(hm:DN a0 a1=some r):Sf prog 200 [.d (.u a0),.d (.u a1)] (.d (.u r)):=
 sp call200 func200 rfl ntmps200 rfl fun D0 As η0 m0 hd=>by
  unfold DN at hm;obtain⟨x1,q1,hm⟩:=Aa hm;refine gc (fun _=>Hz q1) (by kernel_rfl) ?_;obtain⟨x2,q2,hm⟩:=Aa hm;refine gc (fun _=>Hz q2) (by kernel_rfl) ?_;obtain⟨x3,q3,hm⟩:=Aa hm;refine gc (fun _=>Hz q3) (by kernel_rfl) ?_;have e0:=Option.some.inj hm;subst e0;exact Au hd (by kernel_rfl)
theorem IY {m:Mem}{As:List Ow}{w:World}{a0:UInt64}{a1:UInt64}{r:UInt64}(S:St m As w)(hm:DN a0 a1=some r):
  Aw prog 200 #[vU a0,vU a1] w fun v w'=> ∃(M:Mem),m≤M∧St M (As) w'∧v=vU r:=by
 refine Aw.mono ((SH hm).2 none0 m As w [vU a0,vU a1] (.cons (.d (.u _)) (.cons (.d (.u _)) .nil)) (fun n h=>absurd rfl h) S) ?_;rintro v w' ⟨M,η',r',obs',n1,hle,_,⟨rfl,rfl,rfl⟩,hdom,hR,S'⟩;obtain rfl:=hR.u_inv;exact⟨M,hle,S',rfl⟩
def Dn {σ:Type}(p1:σ→Int→UInt64→Option (UInt64×σ))(i1:Int)(s1:UInt64×UInt64×UInt64×σ):Option (UInt64×UInt64×UInt64×σ):=Ac (idx [s1.1,s1.2.1,s1.2.2.1] (i1:Int)) fun x3=>Ac (p1 s1.2.2.2 (i1:Int) x3) fun x4=>Ac (idx [s1.1,s1.2.1,s1.2.2.1] (i1:Int)) fun x5=>bnd (if(i1:Int)=0 then x4.1 else s1.1) fun x6=>bnd (if(i1:Int)=1 then x4.1 else s1.2.1) fun x7=>bnd (if(i1:Int)=2 then x4.1 else s1.2.2.1) fun x8=>some (x6,x7,x8,x4.2)
def Co {σ:Type}(a0:UInt64×UInt64×UInt64)(p1:σ→Int→UInt64→Option (UInt64×σ))(s0:σ):Option ((UInt64×UInt64×UInt64)×σ):=Ac (CW (Dn p1) 3 0 (a0.1,a0.2.1,a0.2.2,s0)) fun x1=>some ((x1.1,x1.2.1,x1.2.2.1),x1.2.2.2)
theorem Ix {m:Mem}{As:List Ow}{w:World}{σ:Type}{R:σ→Mem→List Ow→Prop}{pb0:Nat}{a0:UInt64×UInt64×UInt64}{p1:σ→Int→UInt64→Option (UInt64×σ)}{f1:Value}{s0:σ}{X0:List Ow}{r:(UInt64×UInt64×UInt64)×σ}(S:St m ((bx pb0 [vU a0.1,vU a0.2.1,vU a0.2.2] 198)::(X0++As)) w)(hup: ∀{s M M' X},M≤M'→R s M X→R s M' X)(hX0:R s0 m X0)(cb1: ∀{m':Mem} {As':List Ow} {w':World} {s:σ} {X:List Ow} {b0:Int} {b1:UInt64} {r:UInt64×σ},St m' (X++As') w'→R s m' X→p1 s b0 b1=some r→Ed Tryz.prog f1 [vI b0,vU b1] w' fun v w''=> ∃(M:Mem) (X':List Ow),m'≤M∧St M (X'++As') w''∧R r.2 M X'∧v=vU r.1)(fc1:f1.cells= #[f1])(hm:Co a0 p1 s0=some r):
  Aw Tryz.prog 217 #[pt pb0 0,f1] w fun v w'=> ∃(M:Mem),m≤M∧∃(X:List Ow),St M ((bx pb0 [vU r.1.1,vU r.1.2.1,vU r.1.2.2] 198)::(X++As)) w'∧v= .tuple #[]∧R r.2 M X:=by
 unfold Co at hm;have L0:=Mem.rfl' m;refine CP (args:=[pt pb0 0,f1]) Tryz.func217 rfl Tryz.ntmps217 (Nat.le_of_ble_eq_true rfl) ?_;refine Ag ?_;refine Ad ?_;refine Ap (v:=pt pb0 0) rfl ?_;refine Ap (v:=vI 0) rfl ?_;refine Ah ?_;refine nrm ?_;obtain⟨x1,q1,hm⟩:=Aa hm;have L1:=Mem.rfl' m;refine MR ?_;refine AT [4,5,7,8,9,10,11,12,13,14,15,16,17,18,19,20,21] (fun f' w'=> ∃(M1:Mem) (X2:List Ow),m≤M1∧St M1 ((bx pb0 [vU x1.1,vU x1.2.1,vU x1.2.2.1] 198)::(X2++As)) w'∧R x1.2.2.2 M1 X2∧Cb f' []) ?_ ?_
 ·refine Av ?_;refine BT [4,5,7,8,9,10,11,12,13,14,15,16,17,18,19,20,21] (fun n1 f' w'=> ∃(i1:Nat) (s1:UInt64×UInt64×UInt64×σ) (m17:Mem) (X1:List Ow),n1=3-i1∧i1≤3∧CW (Dn p1) (3-i1) (i1:Int) s1=some x1∧m≤m17∧St m17 ((bx pb0 [vU s1.1,vU s1.2.1,vU s1.2.2.1] 198)::(X1++As)) w'∧R s1.2.2.2 m17 X1∧Cb f' [(7,vI (i1:Int))]) 3 ⟨0,(a0.1,a0.2.1,a0.2.2,s0),m,_,rfl,Nat.zero_le _,q1,L1,S,hX0,⟨rfl,trivial⟩⟩ ?_;rintro n1 f1 w1 ho ⟨i1,s1,m1,X1,hn,hi,q2,L3,S1,h1,ha⟩;obtain⟨u1,rfl⟩:=BR (N:=22) ho ha;clear ho ha;have L2:=Mem.rfl' m1;clear S;refine Ag ?_;refine Ad ?_;refine Kj (m:=(i1:Int)) (n:=3) rfl rfl ?_;refine Ah ?_;refine nrm ?_;refine Ag ?_;refine Cq (t:=decide ((i1:Int)<(3:Int))) rfl (fun hc1=> ?_) (fun hc1=> ?_)
  ·have hlt1:i1<3:=by have:=of_decide_eq_true hc1; omega
   obtain⟨y1,q4,q3⟩:=H0 q2 hlt1;unfold Dn at q4;refine AQ ?_;refine nrm ?_;refine Ag ?_;refine Av ?_;refine Ag ?_;obtain⟨x3,q6,q4⟩:=Aa q4;have HM:Hd [(9,fv (vI (i1:Int))),(10,fv (pt pb0 0)),(11,fv (pt pb0 (0+(i1:Int).toNat*1))),(12,fv (vU x3)),(4,fv (vI (i1:Int)))]:=⟨mv,mv,mv,mv,mv,trivial⟩;refine Jv HM 5 Ci rfl rfl rfl [4,9,10,11,12] (fun L f M w=>St M ((bx pb0 [vU s1.1,vU s1.2.1,vU s1.2.2.1] 198)::(X1++As)) w) (St.drew S1 _) ?_ ?_
   ·refine⟨?_,?_,?_,?_,?_,trivial⟩
    ·exact flp HM rfl [] (fun _ _=>trivial) (fun _ _ q=>Ap (v:=vI (i1:Int)) rfl q) rfl
    ·exact flp HM rfl [] (fun _ _=>trivial) (fun _ _ q=>Wd rfl q) rfl
    ·exact flp HM rfl [(10,_)] (fun K _=>⟨K 1 rfl,trivial⟩) (fun _ _ q=>Ib (i:=(i1:Int)) rfl rfl Tryz.underlying198 Tryz.sizeOf22 (CB q6).1 (CB q6).2 q) rfl
    ·exact flp HM rfl [(11,_)] (fun K _=>⟨K 2 rfl,trivial⟩) (fun _ S5 q=>HE (i:=0) (off:=0+(i1:Int).toNat*1) (cs:=[vU x3]) S5 rfl rfl Tryz.isAgg22 Tryz.sizeOf22 (by rcases Vq q6 with ⟨h,h'⟩|⟨h,h'⟩|⟨h,h'⟩<;>(rw[h,h']; rfl)) (fun _=>rfl) q) rfl
    ·exact flp HM rfl [(9,_)] (fun K _=>⟨K 0 rfl,trivial⟩) (fun _ _ q=>AP (v:=vI (i1:Int)) rfl q) rfl
   intro L f7 w7 hall ⟨m7,L14,S7,K,hO⟩;have d4:L 4=true:=hall 4 (by decide);have e4:=K 4 d4;have d3:L 3=true:=hall 3 (by decide);have e5:=K 3 d3;obtain⟨u7,rfl⟩:=BR (N:=22) (L:=[(4,vI (i1:Int)),(12,vU x3)]) hO ⟨e4,e5,trivial⟩;replace S7:St _ ((bx pb0 [vU s1.1,vU s1.2.1,vU s1.2.2.1] 198)::(X1++As)) _:=S7;replace h1:=hup L14 h1;replace L2:=Mem.tr L2 L14;clear S1;refine AP (v:=vU x3) rfl ?_;refine Ah ?_;refine nrm ?_;obtain⟨x4,q7,q4⟩:=Aa q4;have HM:Hd [(13,fv (pt pb0 0)),(14,fv (vI (i1:Int))),(15,fv f1),(16,fv (vI (i1:Int))),(17,fv (vU x3)),(18,fv (vU x4.1)),(19,fv (pt pb0 0))]:=⟨mv,mv,mv,mv,mv,mv,mv,trivial⟩;refine Jv HM 7 Ci rfl rfl rfl [13,14,15,16,17,18,19] (fun L f M w=> ∃(X3:List Ow),((L 5=false→R s1.2.2.2 M X3)∧(L 5=true→R x4.2 M X3))∧St M ((bx pb0 [vU s1.1,vU s1.2.1,vU s1.2.2.1] 198)::(X3++As)) w) (⟨X1,⟨fun _=>h1,fun hx=>ff hx⟩,St.drew S7 _⟩) ?_ ?_
   ·refine⟨?_,?_,?_,?_,?_,?_,?_,trivial⟩
    ·exact flp HM rfl [] (fun _ _=>trivial) (fun _ _ q=>Ap (v:=pt pb0 0) rfl q) rfl
    ·exact flp HM rfl [] (fun _ _=>trivial) (fun _ _ q=>Ap (v:=vI (i1:Int)) rfl q) rfl
    ·exact flp HM rfl [] (fun _ _=>trivial) (fun _ _ q=>Ap (v:=f1) rfl q) rfl
    ·exact flp HM rfl [] (fun _ _=>trivial) (fun _ _ q=>Ap (v:=vI (i1:Int)) rfl q) rfl
    ·exact flp HM rfl [] (fun _ _=>trivial) (fun _ _ q=>Ap (v:=vU x3) rfl q) rfl
    ·intro L f13 w13 hL hd hc ⟨m13,L25,⟨X3,C6,S13⟩,K,hO⟩;have d2:L 2=true:=dep hd rfl;have e6:=K 2 d2;have d3:L 3=true:=dep hd rfl;have e7:=K 3 d3;have d4:L 4=true:=dep hd rfl;have e8:=K 4 d4;have d5:L 5=false:=hL;obtain⟨u13,rfl⟩:=BR (N:=22) (L:=[(15,f1),(16,vI (i1:Int)),(17,vU x3)]) hO ⟨e6,e7,e8,trivial⟩;replace S13:St _ ((bx pb0 [vU s1.1,vU s1.2.1,vU s1.2.2.1] 198)::(X3++As)) _:=S13;have h3:=C6.1 d5;replace S13:St _ ((bx pb0 [vU s1.1,vU s1.2.1,vU s1.2.2.1] 198)::(X3++As)) _:=S13;have L26:=Mem.rfl' m13;have S14:=St.absF (L:=[bx pb0 [vU s1.1,vU s1.2.1,vU s1.2.2.1] 198]) (X:=X3) (As:=As) S13;refine G8 rfl (cb1 S14 h3 q7) rfl ?_;rintro _ w14 ⟨m14,X4,l1,S15,h4,rfl⟩;replace S15:=St.absF (L:=X4) (X:=[bx pb0 [vU s1.1,vU s1.2.1,vU s1.2.2.1] 198]) (As:=As) S15;clear S14;replace L26:=Mem.tr L26 l1;replace S15:St _ ((bx pb0 [vU s1.1,vU s1.2.1,vU s1.2.2.1] 198)::(X4++As)) _:=S15;clear S13;refine wpn ?_;refine⟨m14,Mem.tr L25 L26,⟨X4,⟨fun hx=>tf rfl hx,fun _=>h4⟩,?_⟩,IP HM rfl K L26 rfl rfl rfl,E2⟩;exact S15
    ·exact flp HM rfl [(13,_)] (fun K _=>⟨K 0 rfl,trivial⟩) (fun _ _ q=>Wd rfl q) rfl
   intro L f15 w16 hall ⟨m16,L29,⟨X3,C8,S17⟩,K,hO⟩;have d1:L 1=true:=hall 1 (by decide);have e10:=K 1 d1;have d5:L 5=true:=hall 5 (by decide);have e11:=K 5 d5;have d6:L 6=true:=hall 6 (by decide);have e12:=K 6 d6;obtain⟨u15,rfl⟩:=BR (N:=22) (L:=[(14,vI (i1:Int)),(18,vU x4.1),(19,pt pb0 0)]) hO ⟨e10,e11,e12,trivial⟩;replace S17:St _ ((bx pb0 [vU s1.1,vU s1.2.1,vU s1.2.2.1] 198)::(X3++As)) _:=S17;have h5:=C8.2 d5;replace S17:St _ ((bx pb0 [vU s1.1,vU s1.2.1,vU s1.2.2.1] 198)::(X3++As)) _:=S17;replace L2:=Mem.tr L2 L29;clear S7;obtain⟨x5,q8,q4⟩:=Aa q4;refine Ib (i:=(i1:Int)) rfl rfl Tryz.underlying198 Tryz.sizeOf22 (CB q8).1 (CB q8).2 ?_;obtain⟨x6,q9,q4⟩:=CC q4;obtain⟨x7,q10,q4⟩:=CC q4;obtain⟨x8,q11,q4⟩:=CC q4;refine YK (i:=0) (off:=0+(i1:Int).toNat*1) S17 rfl rfl rfl Tryz.sizeOf22 (TQ.all (IS rfl LZ)) (by rcases Vq q8 with ⟨h,h'⟩|⟨h,h'⟩|⟨h,h'⟩<;>(rw[h]; exact Nat.le_of_ble_eq_true rfl)) ?_;intro w17 S18;replace S18:=St.cellsTo (i:=0) (l':=[vU x6,vU x7,vU x8]) S18 (by rcases Vq q8 with ⟨h,h'⟩|⟨h,h'⟩|⟨h,h'⟩<;>(simp only[q9,q10,q11,h]; rfl)) rfl;replace S18:St _ ((bx pb0 [vU x6,vU x7,vU x8] 198)::(X3++As)) _:=S18;clear S17;refine Ah ?_;refine Mb ?_;refine nrm ?_;refine Ad ?_;refine EW (m:=(i1:Int)) (n:=1) rfl rfl ?_;refine Ap (v:=vI (w64 ((i1:Int)+1))) rfl ?_;refine Ah ?_;refine nrm ?_;have e0:=Option.some.inj q4;subst e0;exact⟨E2,_,(by omega),⟨i1+1,(x6,x7,x8,x4.2),m16,_,rfl,hlt1,q3,Mem.tr L3 L2,S18,h5,⟨congrArg (Value.int .i64) (Bf hlt1 (by decide)),trivial⟩⟩⟩
  have hlt1: ¬i1<3:=by have:=of_decide_eq_false hc1; omega
  have e:=Eq.symm (GM q2 hlt1);subst e;refine CD ?_;refine thE ?_;refine thE ?_;refine exB ?_;refine nrm ?_;exact⟨E2,m1,_,Mem.tr L3 L2,S1,h1,trivial⟩
 rintro f16 w18 ho ⟨m18,X2,l2,S19,h2,ha⟩;obtain⟨u16,rfl⟩:=BR (N:=22) ho ha;clear ho ha;replace L0:=Mem.tr L0 l2;clear S;refine Vk ?_;intro we hpd;replace S19:=St.pd S19 hpd;have e0:=Option.some.inj hm;subst e0;exact It [] rfl trivial ⟨_,L0,_,S19,rfl,h2⟩
end Go.Proofs.YtbajlmaijjcbmaaGreatDoor
