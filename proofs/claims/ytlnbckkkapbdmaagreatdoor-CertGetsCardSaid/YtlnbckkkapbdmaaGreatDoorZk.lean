/- Several texts, one behind the other. Conditions: none. -/
import Derived.Test.YtlnbckkkapbdmaaGreatDoorZj
import Derived.Test.YtlnbckkkapbdmaaGreatDoorZg
import Derived.Test.YtlnbckkkapbdmaaGreatDoorZh
import Derived.KernelRfl
import Derived.Test.YtlnbckkkapbdmaaGreatDoorZb
import Derived.Test.YtlnbckkkapbdmaaGreatDoorZi
import Derived.Test.YtlnbckkkapbdmaaGreatDoorCards
import Derived.Test.YtlnbckkkapbdmaaGreatDoorTie
import Derived.WalkKit
import Derived.ProofKit
import Derived.OpenShut
import Derived.Deep.DeepHandedRow
import Derived.Lib.LaidTab
import Derived.SevenTiedAt
import Derived.Stop.LaidErr
set_option linter.unusedSimpArgs false
set_option linter.unusedVariables false
set_option maxHeartbeats 2000000
set_option maxRecDepth 100000
section
namespace Go.Proofs.YtlnbckkkapbdmaaGreatDoor
open Go Go.Gw Go.Ax
theorem least07_eq (l:List UInt8):Fk l=some (E4 l):=by
 match l with
 | []=>rfl
 | [a]=>rfl
 |a::b::l=>
  unfold Fk;by_cases h8:(a::b::l).length≤8
  ·have e0:(decide (((a::b::l).length:Int)<1)||decide (((a::b::l).length:Int)>8))=false:=by
    rw[Bool.or_eq_false_iff,decide_eq_false_iff_not,decide_eq_false_iff_not];simp only[List.length_cons]at h8⊢;omega
   have e1:(((a::b::l).length:Int)==1)=false:=by simp only[beq_eq_false_iff_ne,List.length_cons]; omega
   have i0:idx (a::b::l) 0=some a:=rfl;have i1:idx (a::b::l) 1=some b:=rfl;have el:E4 (a::b::l)= !((a.toNat:Int)==if b.toNat<128 then 0 else 255):=by
    show(decide (((a::b::l).length:Int)≤8)&& !((a.toNat:Int)==((toB (-((T0 b 7).toNat:Int))).toNat:Int)))=_;rw[Qd,decide_eq_true (show((a::b::l).length:Int)≤8 from by omega),Bool.true_and]
   rw[e0,if_neg (by decide),e1,i0,i1,el];rw[show gu (!false) (some a)=some a from rfl,oZ0];have ha:=a.toNat_lt;cases hz:((a.toNat:Int)==0)with
   |true=>
    have hz':(a.toNat:Int)=0:=by simpa using hz
    have h255:((a.toNat:Int)==255)=false:=by rw[beq_eq_false_iff_ne]; omega
    rw[show gu ((!false)&&true) (some b)=some b from rfl,oZ0];by_cases hb:b.toNat<128
    ·rw[decide_eq_true (show(b.toNat:Int)<128 from by omega),if_pos hb,hz];rfl
    ·rw[decide_eq_false (show¬(b.toNat:Int)<128 from by omega),if_neg hb,h255];rw[show gu ((!false)&&(!(true&&false))) (some a)=some a from rfl,oZ0,h255];rfl
   |false=>
    rw[show gu ((!false)&&false) (some b)=some default from rfl,oZ0];rw[show gu ((!false)&&(!(false&&decide (((default:UInt8).toNat:Int)<128)))) (some a)=some a from rfl,oZ0];cases h255:((a.toNat:Int)==255)with
    |true=>
     rw[show gu (((!false)&&(!(false&&decide (((default:UInt8).toNat:Int)<128))))&&true) (some b)=some b from rfl,oZ0,Ao];by_cases hb:b.toNat<128
     ·rw[decide_eq_false (show¬(b.toNat:Int)≥128 from by omega),if_pos hb,hz];rfl
     ·rw[decide_eq_true (show(b.toNat:Int)≥128 from by omega),if_neg hb,h255];rfl
    |false=>
     rw[show gu (((!false)&&(!(false&&decide (((default:UInt8).toNat:Int)<128))))&&false) (some b)=some default from rfl,oZ0,Ao];by_cases hb:b.toNat<128
     ·rw[if_pos hb,hz]; rfl
     ·rw[if_neg hb,h255]; rfl
  ·have e0:(decide (((a::b::l).length:Int)<1)||decide (((a::b::l).length:Int)>8))=true:=by
    rw[Bool.or_eq_true,decide_eq_true_eq,decide_eq_true_eq]; omega
   rw[e0,if_pos rfl];show some false=some (decide (((a::b::l).length:Int)≤8)&&_);rw[decide_eq_false (by omega),Bool.false_and]
theorem text07_loop {l:List UInt8}(hn:l.length≤1000000): ∀(r:List UInt8) (i f:Nat),l.drop i=r→r.length<f→iter (BN l) f (i:Int)=some (if HE r=true then .inl ()else .inr false)
 |r,i,0,_,h=>by omega
 | [],i,f+1,h,_=>by
  have hl:l.length≤i:=List.drop_eq_nil_iff.1 h;have e:BN l (i:Int)=some (.inr (.inl ())):=by
   unfold BN;rw[decide_eq_false (by omega)];rfl
  show Ab (BN l (i:Int)) _=_;rw[e]; rfl
 |c::r,i,f+1,h,hf=>by
  obtain⟨hc,hr,hlt⟩:=Dh h;have ih:=text07_loop hn r (i+1) f hr (by rw[List.length_cons]at hf; omega);have e:BN l (i:Int)=some (if(decide (32≤c.toNat)&&decide (c.toNat≤126))=true then .inl ((i+1:Nat):Int)else .inr (.inr false)):=by
   unfold BN;rw[decide_eq_true (by omega),if_pos rfl,Ce hc,oZ0,EI (by omega)];have e33:decide ((c.toNat:Int)<32)= !decide (32≤c.toNat):=by rw[←decide_not,decide_eq_decide]; omega
   have e126:decide ((c.toNat:Int)>126)= !decide (c.toNat≤126):=by rw[←decide_not,decide_eq_decide]; omega
   rw[e33];cases decide (32≤c.toNat)with
   |false=>rfl
   |true=>
    rw[show gu (!(!true)) (some c)=some c from rfl,oZ0,e126];cases decide (c.toNat≤126)<;>rfl
  show Ab (BN l (i:Int)) _=_;rw[e];show _=some (if((decide (32≤c.toNat)&&decide (c.toNat≤126))&&HE r)=true then _ else _);cases decide (32≤c.toNat)&&decide (c.toNat≤126)with
  |false=>rfl
  |true=>rw[if_pos rfl,Bool.true_and]; exact ih
theorem textP_eq {l:List UInt8}(hn:l.length≤1000000):Gf l=some (HE l):=by
 have h:=text07_loop hn l 0 Bv rfl (by have:=AJ; omega);have h:iter (BN l) Bv 0=some (if HE l=true then .inl ()else .inr false):=h;unfold Gf;rw[h];cases HE l<;>rfl
def DM:Nat→g_api_Item→Prop
 |0,_=>True
 |d+1,x=>x.B.length≤1000000∧x.L.length≤1000000∧∀y∈x.L,DM d y
theorem form_loop (rF:g_api_Item→Option Bool)(p:g_api_Item→Bool){x:g_api_Item}(hn:x.L.length≤1000000)(hp: ∀y∈x.L,rF y=some (p y)): ∀(r:List g_api_Item) (i f:Nat),x.L.drop i=r→r.length<f→
  iter (BO rF x) f (i:Int)=some (if r.all p=true then .inl ()else .inr false)
 |r,i,0,_,h=>by omega
 | [],i,f+1,h,_=>by
  have hl:x.L.length≤i:=List.drop_eq_nil_iff.1 h;have e:BO rF x (i:Int)=some (.inr (.inl ())):=by
   unfold BO;rw[decide_eq_false (by omega)];rfl
  show Ab (BO rF x (i:Int)) _=_;rw[e]; rfl
 |y::r,i,f+1,h,hf=>by
  obtain⟨hc,hr,hlt⟩:=Dh h;have ih:=form_loop rF p hn hp r (i+1) f hr (by rw[List.length_cons]at hf; omega);have e:BO rF x (i:Int)=some (if p y=true then .inl ((i+1:Nat):Int)else .inr (.inr false)):=by
   unfold BO;rw[decide_eq_true (by omega),if_pos rfl,Ce hc,oZ0,hp y (List.mem_of_getElem? hc),oZ0,EI (by omega)];cases p y<;>rfl
  show Ab (BO rF x (i:Int)) _=_;rw[e,List.all_cons];cases p y with
  |false=>rfl
  |true=>rw[if_pos rfl,Bool.true_and]; exact ih
theorem form07_eq: ∀(d n:Nat) (x:g_api_Item),d≤n→Li d x→DM d x→Dj n x=some (mayB d x)
 |0,n,x,_,h,_=>h.elim
 |d+1,0,x,h,_,_=>by omega
 |d+1,n+1,x,hn,hd,hs=>by
  have ih: ∀y∈x.L,Dj n y=some (mayB d y):=fun y hy=>form07_eq d n y (by omega) (hd y hy) (hs.2.2 y hy);have hl:=form_loop (Dj n) (mayB d) hs.2.1 ih x.L 0 Bv rfl (by have:=AJ; have:=hs.2.1; omega);have hl:iter (BO (Dj n) x) Bv 0=some (if x.L.all (mayB d)=true then .inl ()else .inr false):=hl;show EB (Dj n) x=_;unfold EB mayB;have e2:decide ((x.L.length:Int)>0)= !x.L.isEmpty:=by
   cases x.L with
   |nil=>rfl
   |cons a l=>show decide _=true; rw[decide_eq_true_eq,List.length_cons]; omega
  rw[e2,show(x.Tag !=48)= !(x.Tag==48)from rfl];cases hE:x.L.isEmpty with
  |false=>
   cases h48:x.Tag==48 with
   |false=>
    rw[show((!false)&&(!false))=true from rfl,if_pos rfl,Bool.false_or,Bool.and_false,Bool.false_and]
   |true=>
    have ht:x.Tag=48:=by simpa using h48
    rw[show((!true)&&(!false))=false from rfl,if_neg (by decide),ht,if_neg (by decide),if_neg (by decide),if_neg (by decide),if_neg (by decide),if_pos (by decide),hl];show _=some ((x.B.isEmpty&&(true||false))&&x.L.all (mayB d));have eb:((x.B.length:Int)==0)=x.B.isEmpty:=by
     cases x.B with
     |nil=>rfl
     |cons a l=>show _=false; rw[beq_eq_false_iff_ne,List.length_cons]; omega
    cases x.L.all (mayB d)with
    |false=>rw[Bool.and_false]; rfl
    |true=>
     show some ((x.B.length:Int)==0)=_;rw[eb,Bool.and_true,Bool.true_or,Bool.and_true]
  |true=>
   have hLn:x.L=[]:=List.isEmpty_iff.1 hE;have hall:x.L.all (mayB d)=true:=by rw[hLn]; rfl
   rw[hall]at hl;rw[hall,Bool.or_true,Bool.and_true,Bool.and_true,Bool.not_true,Bool.and_false,if_neg (by decide)];by_cases h1:x.Tag=1
   ·rw[h1,if_pos (by decide)];have:=Qz x.B;unfold Dt at this;rw[this];rfl
   rw[if_neg (show¬(x.Tag==1)=true from by simp[h1])];by_cases h2:x.Tag=2
   ·rw[h2,if_pos (by decide),least07_eq];rfl
   rw[if_neg (show¬(x.Tag==2)=true from by simp[h2])];by_cases h4:x.Tag=4
   ·rw[h4,if_pos (by decide)];rfl
   rw[if_neg (show¬(x.Tag==4)=true from by simp[h4])];by_cases h12:x.Tag=12
   ·rw[h12,if_pos (by decide),textP_eq hs.1];rfl
   rw[if_neg (show¬(x.Tag==12)=true from by simp[h12])];by_cases h48:x.Tag=48
   ·rw[h48,if_pos (by decide),hl];have eb:((x.B.length:Int)==0)=x.B.isEmpty:=by
     cases x.B with
     |nil=>rfl
     |cons a l=>show _=false; rw[beq_eq_false_iff_ne,List.length_cons]; omega
    show some ((x.B.length:Int)==0)=some x.B.isEmpty;rw[eb]
   ·rw[if_neg (show¬(x.Tag==48)=true from by simp[h48])];unfold Lc;rw[if_neg h1,if_neg h2,if_neg h4,if_neg h12,if_neg h48]
theorem deep_loop (rF:g_api_Item→Option Int)(d:Nat){x:g_api_Item}(hn:x.L.length≤1000000)(hp: ∀y∈x.L,∃k:Int,rF y=some k∧1≤k∧k≤d): ∀(r:List g_api_Item) (i f:Nat) (m:Int),x.L.drop i=r→r.length<f→0≤m→m≤d→
  ∃k:Int,iter (BP rF x) f (m,(i:Int))=some k∧0≤k∧k≤d
 |r,i,0,m,_,h,_,_=>by omega
 | [],i,f+1,m,h,_,h0,h1=>by
  have hl:x.L.length≤i:=List.drop_eq_nil_iff.1 h;have e:BP rF x (m,(i:Int))=some (.inr m):=by
   unfold BP;show(if decide ((i:Int)<(x.L.length:Int))=true then _ else _)=_;rw[decide_eq_false (by omega)];rfl
  refine⟨m,?_,h0,h1⟩;show Ab (BP rF x (m,(i:Int))) _=_;rw[e]; rfl
 |y::r,i,f+1,m,h,hf,h0,h1=>by
  obtain⟨hc,hr,hlt⟩:=Dh h;obtain⟨q,hq,q1,q2⟩:=hp y (List.mem_of_getElem? hc);obtain⟨k,e,k0,k1⟩:=deep_loop rF d hn hp r (i+1) f (Xc m q) hr (by rw[List.length_cons]at hf; omega) (by unfold Xc; split<;>omega) (by unfold Xc; split<;>omega);refine⟨k,?_,k0,k1⟩;have es:BP rF x (m,(i:Int))=some (.inl (Xc m q,((i+1:Nat):Int))):=by
   unfold BP;show(if decide ((i:Int)<(x.L.length:Int))=true then _ else _)=_;rw[decide_eq_true (by omega),if_pos rfl];show Ab (idx x.L (i:Int)) _=_;rw[Ce hc,oZ0,hq,oZ0,EI (by omega)]
  show Ab (BP rF x (m,(i:Int))) _=_;rw[es];exact e
theorem deep_le: ∀(d n:Nat) (x:g_api_Item),d≤n→d≤1000→Li d x→DM d x→∃k:Int,DT n x=some k∧1≤k∧k≤d
 |0,n,x,_,_,h,_=>h.elim
 |d+1,0,x,h,_,_,_=>by omega
 |d+1,n+1,x,hn,hk,hd,hs=>by
  obtain⟨k,e,k0,k1⟩:=deep_loop (DT n) d hs.2.1 (fun y hy=>deep_le d n y (by omega) (by omega) (hd y hy) (hs.2.2 y hy)) x.L 0 Bv 0 rfl (by have:=AJ; have:=hs.2.1; omega) (by omega) (by omega);have e:iter (BP (DT n) x) Bv (0,0)=some k:=e;refine⟨k+1,?_,by omega,by omega⟩;show EC (DT n) x=_;unfold EC;rw[e,oZ0,oZ0,AF (by omega) (by omega)]
theorem May07_eq {x:g_api_Item}(hd:Li 8 x)(hs:DM 8 x):FM x=some (mayB 8 x):=by
 obtain⟨k,e,k0,k1⟩:=deep_le 8 Bv x (by have:=AJ; omega) (by decide) hd hs;have e:IE x=some k:=e;have ef:D5 x=some (mayB 8 x):=form07_eq 8 Bv x (by have:=AJ; omega) hd hs;unfold FM;rw[ef,oZ0,e];cases mayB 8 x with
 |false=>rfl
 |true=>
  rw[Lg,oZ0,decide_eq_true (show k≤8 from by omega)];rfl
theorem length07_eq {n:Nat}(hn:n≤100000000000000):EA (n:Int)=some (FG n):=by
 unfold EA FG;by_cases h1:n<128
 ·rw[decide_eq_true (show(n:Int)<128 from by omega),if_pos rfl,if_pos h1]
 ·rw[decide_eq_false (show¬(n:Int)<128 from by omega),if_neg (by decide),if_neg h1];by_cases h2:n<256
  ·rw[decide_eq_true (show(n:Int)<256 from by omega),if_pos rfl,if_pos h2]
  ·rw[decide_eq_false (show¬(n:Int)<256 from by omega),if_neg (by decide),if_neg h2,Ao];have e:w64 (Int.tdiv (n:Int) 256)=C9 (n:Int) 8:=by
    have:Int.tdiv (n:Int) 256=(n:Int)/256:=Int.tdiv_eq_ediv_of_nonneg (by omega);rw[this];unfold C9;rw[Int.fdiv_eq_ediv_of_nonneg _ (by decide)];show w64 ((n:Int)/256)=(n:Int)/256;rw[AF (by omega) (by omega)]
   rw[e]
theorem bytes_loop (rF:g_api_Item→Option (List UInt8))(p:g_api_Item→List UInt8){x:g_api_Item}(hn:x.L.length≤1000000)(hp: ∀y∈x.L,rF y=some (p y)): ∀(r:List g_api_Item) (i f:Nat) (a:List UInt8),x.L.drop i=r→r.length<f→a.length+(r.flatMap p).length≤100000000000000→
  iter (Bc rF x) f (a,(i:Int))=some (a++r.flatMap p)
 |r,i,0,a,_,h,_=>by omega
 | [],i,f+1,a,h,_,_=>by
  have hl:x.L.length≤i:=List.drop_eq_nil_iff.1 h;have e:Bc rF x (a,(i:Int))=some (.inr a):=by
   unfold Bc;show(if decide ((i:Int)<(x.L.length:Int))=true then _ else _)=_;rw[decide_eq_false (by omega)];rfl
  show Ab (Bc rF x (a,(i:Int))) _=_;rw[e];simp
 |y::r,i,f+1,a,h,hf,ha=>by
  obtain⟨hc,hr,hlt⟩:=Dh h;rw[List.flatMap_cons,List.length_append]at ha;have es:Bc rF x (a,(i:Int))=some (.inl (a++p y,((i+1:Nat):Int))):=by
   unfold Bc;show(if decide ((i:Int)<(x.L.length:Int))=true then _ else _)=_;rw[decide_eq_true (by omega),if_pos rfl];show Ab (idx x.L (i:Int)) _=_;rw[Ce hc,oZ0,hp y (List.mem_of_getElem? hc),oZ0];show Ab (app 1 a (p y)) _=_;rw[Fa 1 (by omega) (by omega),oZ0,EI (by omega)]
  show Ab (Bc rF x (a,(i:Int))) _=_;rw[es];show iter (Bc rF x) f (a++p y,((i+1:Nat):Int))=_;rw[bytes_loop rF p hn hp r (i+1) f (a++p y) hr (by rw[List.length_cons]at hf; omega) (by rw[List.length_append]; omega),List.flatMap_cons,List.append_assoc]
theorem memF_len (p:g_api_Item→List UInt8){y:g_api_Item}: ∀{l:List g_api_Item},y∈l→(p y).length≤(l.flatMap p).length
 |z::l,h=>by
  rw[List.flatMap_cons,List.length_append];rcases List.mem_cons.1 h with e|h
  ·rw[e]; omega
  ·have:=memF_len p h; omega
theorem bytes07: ∀(d n:Nat) (x:g_api_Item),d≤n→Li d x→DM d x→(putB d x).length≤10000000000000→CR n x=some (putB d x)
 |0,n,x,_,h,_,_=>h.elim
 |d+1,0,x,h,_,_,_=>by omega
 |d+1,n+1,x,hn,hd,hs,hl=>by
  have eP:putB (d+1) x=toB x.Tag::(FG (x.B++x.L.flatMap (putB d)).length++(x.B++x.L.flatMap (putB d))):=rfl;rw[eP]at hl⊢;simp only[List.length_cons,List.length_append]at hl;have ih: ∀y∈x.L,CR n y=some (putB d y):=fun y hy=>bytes07 d n y (by omega) (hd y hy) (hs.2.2 y hy) (by have:=memF_len (putB d) hy; omega);have hloop:=bytes_loop (CR n) (putB d) hs.2.1 ih x.L 0 Bv x.B rfl (by have:=AJ; have:=hs.2.1; omega) (by omega);have hloop:iter (Bc (CR n) x) Bv (x.B,0)=some (x.B++x.L.flatMap (putB d)):=hloop;show D6 (CR n) x=_;unfold D6;have hb:=JY (x.B++x.L.flatMap (putB d)).length;rw[Hs 1 (by omega) (by omega),oZ0,hloop,oZ0,oZ0];have hc:(x.B++x.L.flatMap (putB d)).length≤10000000000000:=by rw[List.length_append]; omega
  generalize x.B++x.L.flatMap (putB d)=c at hb hc⊢;rw[length07_eq (by omega),oZ0,Fa 1 (by simp only[List.length_cons,List.length_nil]; omega) (by simp only[List.length_cons,List.length_nil]; omega),oZ0,Fa 1 (by simp only[List.length_append,List.length_cons,List.length_nil]; omega) (by simp only[List.length_append,List.length_cons,List.length_nil]; omega),oZ0];simp
theorem Put07_eq {x:g_api_Item}(hd:Li 8 x)(hs:DM 8 x)(hl:(putB 8 x).length≤10000000000):G1 x=Fq x:=by
 rw[Wz (by omega)];unfold G1;rw[May07_eq hd hs,oZ0];cases hm:mayB 8 x with
 |false=>rfl
 |true=>
  have eb:HX x=some (putB 8 x):=bytes07 8 Bv x (by have:=AJ; omega) hd hs (by omega);rw[show(!true)=false from rfl,if_neg (by decide),eb,oZ0,if_pos rfl];by_cases h:(putB 8 x).length≤8192
  ·rw[decide_eq_false (show¬((putB 8 x).length:Int)>8192 from by omega),if_pos h];rfl
  ·rw[decide_eq_true (show((putB 8 x).length:Int)>8192 from by omega),if_neg h];rfl
end Go.Proofs.YtlnbckkkapbdmaaGreatDoor
end
section
namespace Go.Proofs.YtlnbckkkapbdmaaGreatDoor
open Go Go.Gw Go.Ax
theorem toB_back (c:UInt8):toB (c.toNat:Int)=c:=by
 apply UInt8.toNat_inj.1;have h:=Is (c.toNat:Int);have:=c.toNat_lt;omega
theorem len_some (l:List UInt8)(hl:l.length≤1000000): ∃n long e:Int,AL l=some (n,long,e)∧(e=0→∃(k:Nat) (r:List UInt8),k<65536∧l=FG k++r∧n=(k:Int)∧long=((FG k).length:Int)):=by
 match l with
 | []=>exact⟨0,0,70,rfl,fun h=>by omega⟩
 |b::r=>
  have e0:(((b::r).length:Int)==0)=false:=by simp only[beq_eq_false_iff_ne,List.length_cons]; omega
  have hb:=b.toNat_lt;have e1:w64 (b.toNat:Int)=(b.toNat:Int):=AF (by omega) (by omega);by_cases h1:b.toNat<128
  ·refine⟨(b.toNat:Int),1,0,fst1 b r h1,fun _=>⟨b.toNat,r,by omega,?_,rfl,?_⟩⟩
   ·unfold FG;rw[if_pos h1,toB_back];rfl
   ·unfold FG;rw[if_pos h1];rfl
  by_cases h2:b.toNat=129
  ·have hbe:b=129:=UInt8.toNat_inj.1 h2;subst hbe;match r with
   | []=>
    refine⟨0,0,70,?_,fun h=>by omega⟩;unfold AL;have f1:w64 (((129:UInt8).toNat:Int))=129:=AF (x:=129) (by decide) (by decide);have f2:w64 ((129:Int)-128)=1:=rfl;have f4:decide ((([129]:List UInt8).length:Int)≤1)=true:=by simp
    rw[e0,Ky,if_neg (by decide),oZ0,f1,if_neg (by decide),Ao,f2,Ao,if_neg (by decide),Ao,f4,if_pos rfl]
   |c::r=>
    have hc:=c.toNat_lt;by_cases h3:128≤c.toNat
    ·refine⟨(c.toNat:Int),2,0,fst2 c r h3,fun _=>⟨c.toNat,r,by omega,?_,rfl,?_⟩⟩
     ·unfold FG;rw[if_neg (by omega),if_pos (by omega),toB_back];rfl
     ·unfold FG;rw[if_neg (by omega),if_pos (by omega)];rfl
    ·refine⟨0,0,71,?_,fun h=>by omega⟩;unfold AL;have f1:w64 (((129:UInt8).toNat:Int))=129:=AF (x:=129) (by decide) (by decide);have f2:w64 ((129:Int)-128)=1:=rfl;have f3:w64 ((1:Int)+1)=2:=rfl;have f4:decide (((129::c::r).length:Int)≤1)=false:=by simp only[decide_eq_false_iff_not,List.length_cons]; omega
     have f5:cut (129::c::r) 1 2=some [c]:=KD 129 [c] r;have f6:Ks (FJ 0 8) (w64 (c.toNat:Int))=(c.toNat:Int):=by
      rw[AF (x:=(c.toNat:Int)) (by omega) (by omega),Hm 0 _ (by omega) (by omega),Int.zero_mul,Int.zero_add,AF (by omega) (by omega)]
     have f7:EE Cd [c] 0 0=some (c.toNat:Int):=by
      show some (Ks (FJ 0 8) (w64 (c.toNat:Int)))=_;rw[f6]
     have f8:decide ((c.toNat:Int)<128)=true:=by simp only[decide_eq_true_eq]; omega
     rw[e0,Ky,if_neg (by decide),oZ0,f1,if_neg (by decide),Ao,f2,Ao,if_neg (by decide),Ao,f4,if_neg (by decide),f3,f5,oZ0,f7,oZ0,oZ0,f8,if_pos (by simp)]
  by_cases h3:b.toNat=130
  ·have hbe:b=130:=UInt8.toNat_inj.1 h3;subst hbe;have f1:w64 (((130:UInt8).toNat:Int))=130:=AF (x:=130) (by decide) (by decide);have f2:w64 ((130:Int)-128)=2:=rfl;have f3:w64 ((2:Int)+1)=3:=rfl;match r with
   | []=>
    refine⟨0,0,70,?_,fun h=>by omega⟩;unfold AL;have f4:decide ((([130]:List UInt8).length:Int)≤2)=true:=by simp
    rw[e0,Ky,if_neg (by decide),oZ0,f1,if_neg (by decide),Ao,f2,Ao,if_neg (by decide),Ao,f4,if_pos rfl]
   | [c]=>
    refine⟨0,0,70,?_,fun h=>by omega⟩;unfold AL;have f4:decide (((130::[c]:List UInt8).length:Int)≤2)=true:=by simp
    rw[e0,Ky,if_neg (by decide),oZ0,f1,if_neg (by decide),Ao,f2,Ao,if_neg (by decide),Ao,f4,if_pos rfl]
   |c::d::r=>
    have hc:=c.toNat_lt;have hd:=d.toNat_lt;by_cases h4:1≤c.toNat
    ·refine⟨(c.toNat:Int)*256+(d.toNat:Int),3,0,fst3 c d r h4,fun _=>⟨c.toNat*256+d.toNat,r,by omega,?_,by omega,?_⟩⟩
     ·unfold FG;rw[if_neg (by omega),if_neg (by omega),Mr];have q1:(((c.toNat*256+d.toNat:Nat):Int)/256)=(c.toNat:Int):=by omega
      have q2:toB ((c.toNat*256+d.toNat:Nat):Int)=d:=by
       apply UInt8.toNat_inj.1;have:=Is ((c.toNat*256+d.toNat:Nat):Int);omega
      rw[q1,toB_back,q2];rfl
     ·unfold FG;rw[if_neg (by omega),if_neg (by omega)];rfl
    ·refine⟨0,0,71,?_,fun h=>by omega⟩;unfold AL;have f4:decide (((130::c::d::r).length:Int)≤2)=false:=by simp only[decide_eq_false_iff_not,List.length_cons]; omega
     have f5:cut (130::c::d::r) 1 3=some [c,d]:=KD 130 [c,d] r;have f6:Ks (FJ 0 8) (w64 (c.toNat:Int))=(c.toNat:Int):=by
      rw[AF (x:=(c.toNat:Int)) (by omega) (by omega),Hm 0 _ (by omega) (by omega),Int.zero_mul,Int.zero_add,AF (by omega) (by omega)]
     have f6':Ks (FJ (c.toNat:Int) 8) (w64 (d.toNat:Int))=(c.toNat:Int)*256+(d.toNat:Int):=by
      rw[AF (x:=(d.toNat:Int)) (by omega) (by omega),Hm _ _ (by omega) (by omega),AF (by omega) (by omega)]
     have f7:EE Cd [c,d] 0 0=some ((c.toNat:Int)*256+(d.toNat:Int)):=by
      show some (Ks (FJ (Ks (FJ 0 8) (w64 (c.toNat:Int))) 8) (w64 (d.toNat:Int)))=_;rw[f6,f6']
     have f9:decide ((c.toNat:Int)*256+(d.toNat:Int)<256)=true:=by simp only[decide_eq_true_eq]; omega
     rw[e0,Ky,if_neg (by decide),oZ0,f1,if_neg (by decide),Ao,f2,Ao,if_neg (by decide),Ao,f4,if_neg (by decide),f3,f5,oZ0,f7,oZ0,oZ0,f9,if_pos (by simp)]
  ·refine⟨0,0,71,?_,fun h=>by omega⟩;unfold AL;have f1:decide ((b.toNat:Int)<128)=false:=by simp only[decide_eq_false_iff_not]; omega
   have f2:(((b.toNat:Int) !=129)&&((b.toNat:Int) !=130))=true:=by
    rw[Bool.and_eq_true,bne_iff_ne,bne_iff_ne]; omega
   rw[e0,Ky,if_neg (by decide),oZ0,e1,f1,if_neg (by decide),Ao,Ao,f2,if_pos rfl]
def GotI (D:Nat)(b:List UInt8)(q:g_api_Item×List UInt8×Int):Prop:=q.2.2=0→mayB D q.1=true∧b=putB D q.1++q.2.1
theorem got_loop (rF:List UInt8→Int→Option (g_api_Item×List UInt8×Int))(D:Nat)(hD:D≤100)(r0:List UInt8)(hF: ∀b:List UInt8,b.length≤1000000→∃q,rF b (D:Int)=some q∧GotI D b q):
  ∀(m:Nat) (inb:List UInt8) (acc:List g_api_Item) (n:Nat),inb.length≤m→m<n→m≤1000000→acc.length+m≤1000000→
   ∃t,iter (BR rF ((D+1:Nat):Int)) n (r0,inb,acc)=some t∧(t= .inr ((⟨0,[],[]⟩:g_api_Item),([]:List UInt8),71)∨∃l,t= .inl (r0,acc++l)∧(∀y∈l,mayB D y=true)∧l.flatMap (putB D)=inb)
 |m,inb,acc,0,_,h,_,_=>by omega
 |m,[],acc,n+1,_,_,_,_=>by
  refine⟨.inl (r0,acc),?_,.inr ⟨[],by simp,fun y hy=>(by cases hy),rfl⟩⟩;have e:BR rF ((D+1:Nat):Int) (r0,[],acc)=some (.inr (.inl (r0,acc))):=rfl;show Ab (BR rF ((D+1:Nat):Int) (r0,[],acc)) _=_;rw[e]; rfl
 |m,c::inb,acc,n+1,hm,hn,h1,h2=>by
  have hw:w64 (((D+1:Nat):Int)-1)=(D:Int):=by rw[AF (by omega) (by omega)]; omega
  obtain⟨⟨y,r,e⟩,hq,hg⟩:=hF (c::inb) (by omega);have e0:decide (((c::inb).length:Int)>0)=true:=by rw[decide_eq_true_eq,List.length_cons]; omega
  by_cases he:e=0
  ·subst he;obtain⟨g1,g2⟩:=hg rfl;have g1:mayB D y=true:=g1;have g2:c::inb=putB D y++r:=g2;have hp:=Rw g1;have hlen:(c::inb).length=(putB D y).length+r.length:=by rw[g2,List.length_append]
   rw[List.length_cons]at hm hlen;obtain⟨t,ht,hc⟩:=got_loop rF D hD r0 hF (m-1) r (acc++[y]) n (by omega) (by omega) (by omega) (by rw[List.length_append]; show acc.length+1+_≤_; omega);refine⟨t,?_,?_⟩
   ·have es:BR rF ((D+1:Nat):Int) (r0,c::inb,acc)=some (.inl (r0,r,acc++[y])):=by
     unfold BR;show(if decide (((c::inb).length:Int)>0)=true then _ else _)=_;rw[e0,if_pos rfl,hw];show Ab (rF (c::inb) (D:Int)) _=_;rw[hq,oZ0,if_neg (by simp)];show Ab (app 56 acc [y]) _=_;rw[Fa 56 (by show(acc.length+1)*56≤_; omega) (by show acc.length+1≤_; omega)];rfl
    show Ab (BR rF ((D+1:Nat):Int) (r0,c::inb,acc)) _=_;rw[es];exact ht
   ·rcases hc with hc|⟨l,c1,c2,c3⟩
    ·exact .inl hc
    ·refine .inr ⟨y::l,?_,?_,?_⟩
     ·rw[c1,List.append_assoc]; rfl
     ·intro z hz;rcases List.mem_cons.1 hz with q|q
      ·rw[q]; exact g1
      ·exact c2 z q
     ·rw[List.flatMap_cons,c3,g2]
  ·refine⟨.inr ((⟨0,[],[]⟩:g_api_Item),([]:List UInt8),71),?_,.inl rfl⟩;have es:BR rF ((D+1:Nat):Int) (r0,c::inb,acc)=some (.inr (.inr ((⟨0,[],[]⟩:g_api_Item),([]:List UInt8),71))):=by
    unfold BR;show(if decide (((c::inb).length:Int)>0)=true then _ else _)=_;rw[e0,if_pos rfl,hw];show Ab (rF (c::inb) (D:Int)) _=_;rw[hq,oZ0,if_pos (by simpa using he)]
   show Ab (BR rF ((D+1:Nat):Int) (r0,c::inb,acc)) _=_;rw[es]; rfl
theorem cut_all {α:Type}(l:List α)(k:Nat)(h:k≤l.length):cut l 0 (k:Int)=some (l.take k)∧cut l (k:Int) (l.length:Int)=some (l.drop k):=by
 have e:=List.take_append_drop k l;have h1:=RS (l.take k) (l.drop k);have h2:=RT (l.take k) (l.drop k);rw[e]at h1 h2;rw[show(l.take k).length=k from by rw[List.length_take]; omega]at h1 h2;exact⟨h1,h2⟩
theorem got_eq (D:Nat): ∀(n:Nat) (b:List UInt8),D≤100→D<n→b.length≤1000000→∃q,CG n b (D:Int)=some q∧GotI D b q:=by
 induction D with
 |zero=>
  intro n b _ hn hb;obtain⟨n,rfl⟩: ∃k,n=k+1:=⟨n-1,by omega⟩;show∃q,Du (CG n) b 0=some q∧_;unfold Du;cases b with
  |nil=>exact⟨_,rfl,fun h=>by cases h⟩
  |cons c b=>
   have e0:(((c::b).length:Int)==0)=false:=by simp only[beq_eq_false_iff_ne,List.length_cons]; omega
   rw[e0,if_neg (by decide),Ky,oZ0];cases hk:Gk (w64 (c.toNat:Int))with
   |false=>
    rw[(E5 hk).1,oZ0,if_pos (by simp)];exact⟨_,rfl,fun h=>by cases h⟩
   |true=>
    obtain⟨k,e,_,_⟩:=HI hk;rw[e,oZ0,if_pos (by simp)];exact⟨_,rfl,fun h=>by cases h⟩
 |succ D IH=>
  intro n b hD hn hb;obtain⟨n,rfl⟩: ∃k,n=k+1:=⟨n-1,by omega⟩;have hF: ∀b:List UInt8,b.length≤1000000→∃q,CG n b (D:Int)=some q∧GotI D b q:=fun b h=>IH n b (by omega) (by omega) h;show∃q,Du (CG n) b ((D+1:Nat):Int)=some q∧_;unfold Du;cases b with
  |nil=>exact⟨_,rfl,fun h=>by cases h⟩
  |cons c b=>
   have e0:(((c::b).length:Int)==0)=false:=by simp only[beq_eq_false_iff_ne,List.length_cons]; omega
   have hc:=c.toNat_lt;have ew:w64 (c.toNat:Int)=(c.toNat:Int):=AF (by omega) (by omega);have eD:decide (((D+1:Nat):Int)<1)=false:=by rw[decide_eq_false_iff_not]; omega
   rw[e0,if_neg (by decide),Ky,oZ0,ew,eD];cases hk:Gk (c.toNat:Int)with
   |false=>
    rw[(E5 hk).1,oZ0,if_pos (by simp)];exact⟨_,rfl,fun h=>by cases h⟩
   |true=>
    obtain⟨k,e,ht,hm⟩:=HI hk;rw[e,oZ0,if_neg (by simp),J7,oZ0];rw[List.length_cons]at hb;obtain⟨ln,long,le,hl,hl0⟩:=len_some b (by omega);rw[hl,oZ0];by_cases hle:le=0;rotate_left
    ·rw[if_pos (by simpa using hle)];exact⟨_,rfl,fun h=>absurd h hle⟩
    subst hle;rw[if_neg (by simp)];obtain⟨z,r,hz,hb2,rfl,rfl⟩:=hl0 rfl;have hll:=JY z;have hbl:b.length=(FG z).length+r.length:=by rw[hb2,List.length_append]
    have e4:w64 (w64 (1+((FG z).length:Int))+(z:Int))=1+((FG z).length:Int)+(z:Int):=by
     rw[AF (x:=1+((FG z).length:Int)) (by omega) (by omega),AF (by omega) (by omega)]
    show∃q,(if decide (w64 (w64 (1+((FG z).length:Int))+(z:Int))>8192)=true then _ else _)=some q∧_;rw[e4];by_cases h8:1+((FG z).length:Int)+(z:Int)>8192
    ·rw[decide_eq_true h8,if_pos rfl];exact⟨_,rfl,fun h=>by cases h⟩
    rw[decide_eq_false h8,if_neg (by decide)];have e6:cut (c::b) (w64 (1+((FG z).length:Int))) ((c::b).length:Int)=some r:=by
     have:=RT (c::FG z) r;rw[AF (x:=1+((FG z).length:Int)) (by omega) (by omega)];rw[show((c::FG z).length:Int)=1+((FG z).length:Int)from by rw[List.length_cons]; omega]at this;rw[hb2];exact this
    show∃q,Ab (cut (c::b) (w64 (1+((FG z).length:Int))) ((c::b).length:Int)) _=some q∧_;rw[e6,oZ0];by_cases hzr:z≤r.length;rotate_left
    ·rw[if_pos (by rw[decide_eq_true_eq]; show(z:Int)>_; omega)];exact⟨_,rfl,fun h=>by cases h⟩
    rw[if_neg (by rw[decide_eq_true_eq]; show¬(z:Int)>_; omega)];obtain⟨k1,k2⟩:=cut_all r z hzr;show∃q,Ab (cut r 0 (z:Int)) _=some q∧_;rw[k1,oZ0];show∃q,Ab (cut r (z:Int) (r.length:Int)) _=some q∧_;rw[k2,oZ0];have htl:(r.take z).length=z:=by rw[List.length_take]; omega
    have hback:toB k.tag_=c:=by rw[ht]; exact toB_back c
    show∃q,(if(k.tag_ !=48)=true then _ else _)=some q∧_;by_cases h48:k.tag_=48
    ·rw[if_neg (by simp[h48])];obtain⟨t,ht1,ht2⟩:=got_loop (CG n) D (by omega) (r.drop z) hF z (r.take z) [] Bv (by omega) (by have:=AJ; omega) (by omega) (by simp only[List.length_nil]; omega);rw[ht1,oZ0];rcases ht2 with q|⟨l,q1,q2,q3⟩
     ·subst q;exact⟨_,rfl,fun h=>by cases h⟩
     ·subst q1;refine⟨_,rfl,fun _=>⟨?_,?_⟩⟩
      ·show mayB (D+1) ⟨k.tag_,[],[]++l⟩=true;rw[h48];unfold mayB;simp only[Bool.and_eq_true,List.all_eq_true];exact⟨⟨rfl,rfl⟩,q2⟩
      ·show c::b=(toB k.tag_::(FG ([]++([]++l).flatMap (putB D)).length++([]++([]++l).flatMap (putB D))))++r.drop z;rw[List.nil_append,List.nil_append,q3,htl,hback,hb2,List.cons_append,List.append_assoc,List.take_append_drop]
    ·rw[if_pos (by simpa using h48),hm,oZ0];cases hkb:Lc (c.toNat:Int) (r.take z)with
     |false=>
      rw[if_pos (by simp)];exact⟨_,rfl,fun h=>by cases h⟩
     |true=>
      rw[if_neg (by simp),Ly (by omega),oZ0];refine⟨_,rfl,fun _=>⟨?_,?_⟩⟩
      ·show mayB (D+1) ⟨k.tag_,r.take z,[]⟩=true;unfold mayB;simp only[Bool.and_eq_true,List.all_eq_true];refine⟨⟨?_,by simp⟩,fun y hy=>(by cases hy)⟩;show Lc k.tag_ (r.take z)=true;rw[ht]; exact hkb
      ·show c::b=(toB k.tag_::(FG (r.take z++([]:List g_api_Item).flatMap (putB D)).length++(r.take z++([]:List g_api_Item).flatMap (putB D))))++r.drop z;rw[List.flatMap_nil,List.append_nil,htl,hback,hb2,List.cons_append,List.append_assoc,List.take_append_drop]
end Go.Proofs.YtlnbckkkapbdmaaGreatDoor
end
section
namespace Go.Proofs.YtlnbckkkapbdmaaGreatDoor
open Go Go.Gw Go.Ax
def szs (d:Nat)(l:List g_api_Item):Nat:=(l.flatMap (putB d)).length
structure Okc (c:Ac):Prop where
 form:Form c
 fb:formB c=true
 may:mayB 8 (wholeI c)=true
 len:(putB 8 (wholeI c)).length≤2048
def wholeB (c:Ac):List UInt8:=putB 8 (wholeI c)
def bodyBy (c:Ac):List UInt8:=putB 8 (Kc c)
def preBy (c:Ac):List UInt8:=putB 8 (SJ c)
end Go.Proofs.YtlnbckkkapbdmaaGreatDoor
end
section
namespace Go.Proofs.YtlnbckkkapbdmaaGreatDoor
open Go Go.Gw Go.Ax
theorem live18_true:Hh=some true:=by kernel_rfl
end Go.Proofs.YtlnbckkkapbdmaaGreatDoor
end
section
namespace Go.Proofs.YtlnbckkkapbdmaaGreatDoor
open Go Go.Gw Go.Ax
theorem L_few {d:Nat}{x:g_api_Item}(h:mayB (d+1) x=true)(hl:(putB (d+1) x).length≤100000):x.L.length≤100000∧∀y∈x.L,mayB d y=true∧(putB d y).length≤100000:=by
 have hp: ∀y∈x.L,1≤(putB d y).length:=fun y hy=>Rw (Yo h hy);have h1:=Tb (putB d) x.L hp;have e:(putB (d+1) x).length=1+(FG (x.B++x.L.flatMap (putB d)).length).length+(x.B.length+(x.L.flatMap (putB d)).length):=by
  show(toB x.Tag::(FG (x.B++x.L.flatMap (putB d)).length++(x.B++x.L.flatMap (putB d)))).length=_;have q:(x.B++x.L.flatMap (putB d)).length=x.B.length+(x.L.flatMap (putB d)).length:=List.length_append;rw[List.length_cons,List.length_append,q];omega
 refine⟨by omega,fun y hy=>⟨Yo h hy,?_⟩⟩;have:=Tc (putB d) hy;omega
theorem few_all {x:g_api_Item}(h:mayB 8 x=true)(hl:(putB 8 x).length≤100000):x.L.length≤100000∧few3D x.L:=by
 obtain⟨a1,a2⟩:=L_few h hl;refine⟨a1,fun y hy=>(L_few (a2 y hy).1 (a2 y hy).2).1,fun y hy=> ?_⟩;obtain⟨b1,b2⟩:=L_few (a2 y hy).1 (a2 y hy).2;refine⟨fun z hz=>(L_few (b2 z hz).1 (b2 z hz).2).1,fun z hz=> ?_⟩;obtain⟨c1,c2⟩:=L_few (b2 z hz).1 (b2 z hz).2;exact fun u hu=>(L_few (c2 u hu).1 (c2 u hu).2).1
def zc:Ac:=⟨0,ByteArray.empty,ByteArray.empty,0,[],0,0,false,0,[],[],⟨0,0⟩⟩
theorem Get_any {b:List UInt8}(hb:b.length≤3000): ∃(x:g_api_Item) (n e:Int),Eb b 0=some (x,n,e)∧(e=0→mayB 8 x=true∧(putB 8 x).length≤3000∧(n=(b.length:Int)→b=putB 8 x)):=by
 obtain⟨⟨x,r,e⟩,h1,h2⟩:=got_eq 8 Bv b (by decide) (by have:=AJ; omega) (by omega);have h1:JX b 8=some (x,r,e):=h1;unfold Eb;have e0:(decide ((0:Int)<0)||decide ((0:Int)>(b.length:Int)))=false:=by
  have: ¬(0:Int)>(b.length:Int):=by omega
  rw[decide_eq_false this]; rfl
 have e1:cut b 0 (b.length:Int)=some b:=by
  have:=RS b [];rw[List.append_nil]at this;exact this
 rw[e0,if_neg (by decide),e1,oZ0,h1,oZ0];by_cases he:e=0
 ·subst he;obtain⟨g1,g2⟩:=h2 rfl;have g1:mayB 8 x=true:=g1;have g2:b=putB 8 x++r:=g2;have hl:b.length=(putB 8 x).length+r.length:=by rw[g2,List.length_append]
  rw[if_neg (by simp),Ao];refine⟨x,w64 ((b.length:Int)-(r.length:Int)),0,rfl,fun _=>⟨g1,by omega,fun hn=> ?_⟩⟩;rw[AF (by omega) (by omega)]at hn;have:r=[]:=List.eq_nil_of_length_eq_zero (by omega);rw[g2,this,List.append_nil]
 ·rw[if_pos (by simpa using he)];exact⟨_,_,e,rfl,fun h=>absurd h he⟩
theorem in_any {x:g_api_Item}(hm:mayB 8 x=true)(hl:x.L.length≤100000):ED x=some (if x.Tag=48 then some ⟨x.L⟩else none):=by
 unfold ED;rw[IV hl];by_cases h:x.Tag=48
 ·rw[if_pos h,if_pos h,if_pos hm]; rfl
 ·rw[if_neg h,if_neg h]; rfl
theorem mustB (v:Bool):AN v=some (if v=true then some ()else none):=by cases v<;>rfl
end Go.Proofs.YtlnbckkkapbdmaaGreatDoor
end
section
namespace Go.Proofs.YtlnbckkkapbdmaaGreatDoor
open Go Go.Gw Go.Ax
def PD (d:Nat)(x:g_api_Item):Prop:=mayB d x=true∧(putB d x).length≤100000
theorem pd_in {d:Nat}{x y:g_api_Item}(h:PD (d+1) x)(hy:y∈x.L):PD d y:=(L_few h.1 h.2).2 y hy
theorem pd_small: ∀(d e:Nat) {x:g_api_Item},PD d x→DM e x
 |_,0,x,_=>trivial
 |0,e+1,x,h=>by cases h.1
 |d+1,e+1,x,h=>by
  have hb:x.B.length≤(putB (d+1) x).length:=by
   show _≤(toB x.Tag::(FG (x.B++x.L.flatMap (putB d)).length++(x.B++x.L.flatMap (putB d)))).length;have q:(x.B++x.L.flatMap (putB d)).length=x.B.length+(x.L.flatMap (putB d)).length:=List.length_append;rw[List.length_cons,List.length_append,q];omega
  have h2:=h.2;exact⟨by omega,by have:=(L_few h.1 h.2).1; omega,fun y hy=>pd_small d e (pd_in h hy)⟩
theorem pd_dep {d:Nat}{x:g_api_Item}(h:PD d x)(hd:d≤8):Li 8 x:=RR (Qt hd h.1)
def PL (d:Nat)(l:Its):Prop:= ∀x∈l,PD d x
theorem PL.tail {d:Nat}{l:Its}(h:PL d l):PL d l.tail:=fun x hx=>h x (List.mem_of_mem_tail hx)
abbrev zI0:g_api_Item:=⟨0,[],[]⟩
theorem w64_u8' (c:UInt8):w64 (c.toNat:Int)=(c.toNat:Int):=by have:=c.toNat_lt; exact AF (by omega) (by omega)
theorem as07_eq {x:g_api_Item}{t:Int}(h:Li 8 x∧DM 8 x∨x.Tag≠t):EZ x t=some (if x.Tag=t then(if mayB 8 x=true then 0 else 71)else 72):=by
 unfold EZ;by_cases ht:x.Tag=t
 ·rw[if_neg (by simp[ht]),if_pos ht];rcases h with h|h
  ·rw[May07_eq h.1 h.2,oZ0];cases mayB 8 x<;>rfl
  ·exact absurd ht h
 ·rw[if_pos (by simpa using ht),if_neg ht]
theorem int07_loop {x:g_api_Item}(hn:x.B.length≤1000000): ∀(r:List UInt8) (i f:Nat) (s:Int),x.B.drop i=r→r.length<f→iter (Bt x) f (s,(i:Int))=some (Ob s r)
 |r,i,0,s,_,h=>by omega
 | [],i,f+1,s,h,_=>by
  have hl:x.B.length≤i:=List.drop_eq_nil_iff.1 h;have e:Bt x (s,(i:Int))=some (.inr s):=by
   unfold Bt;show(if decide ((i:Int)<(x.B.length:Int))=true then _ else _)=_;rw[decide_eq_false (by omega)];rfl
  show Ab (Bt x (s,(i:Int))) _=_;rw[e]; rfl
 |c::r,i,f+1,s,h,hf=>by
  obtain⟨hc,hr,hlt⟩:=Dh h;have hcl:=c.toNat_lt;have e:Bt x (s,(i:Int))=some (.inl (w64 (s*256+(c.toNat:Int)),((i+1:Nat):Int))):=by
   unfold Bt;show(if decide ((i:Int)<(x.B.length:Int))=true then _ else _)=_;rw[decide_eq_true (by omega),if_pos rfl];show Ab (idx x.B (i:Int)) _=_;rw[Ce hc,oZ0,Ao,EI (by omega),AF (x:=(c.toNat:Int)) (by omega) (by omega)];have:w64 (w64 (256*s)+(c.toNat:Int))=w64 (s*256+(c.toNat:Int)):=by unfold w64; omega
   rw[this]
  show Ab (Bt x (s,(i:Int))) _=_;rw[e];exact int07_loop hn r (i+1) f _ hr (by rw[List.length_cons]at hf; omega)
theorem wfold_cons (s:Int)(a:UInt8)(l:List UInt8):Ob s (a::l)=Ob (w64 (s*256+(a.toNat:Int))) l:=rfl
theorem asintV_cons (a:UInt8)(l:List UInt8):E9 (a::l)=Ob (s8 a) l:=rfl
theorem asInt07_eq {x:g_api_Item}(h:Li 8 x∧DM 8 x∨x.Tag≠2):Ds x=FO x:=by
 rw[LB];unfold Ds;rw[as07_eq h,oZ0];by_cases ht:x.Tag=2
 ·rw[if_pos ht,if_pos ht];cases hm:mayB 8 x with
  |false=>rfl
  |true=>
   rcases h with h|h;rotate_left
   ·exact absurd ht h
   have hk:=HW hm;rw[ht]at hk;have hk:E4 x.B=true:=hk;rw[if_pos rfl,if_pos rfl,if_neg (by decide)];cases hb:x.B with
   |nil=>rw[hb]at hk; cases hk
   |cons a l=>
    have hn:=h.2.1;have hal:=a.toNat_lt;have hst: ∀s,iter (Bt x) Bv (s,0)=some (Ob s (a::l)):=fun s=>by
     have:=int07_loop (x:=x) h.2.1 x.B 0 Bv s rfl (by have:=AJ; omega);rw[hb]at this;exact this
    rw[Ky,oZ0];by_cases h128:a.toNat<128
    ·rw[decide_eq_false (show¬(a.toNat:Int)≥128 from by omega),if_neg (by decide),oZ0,hst,oZ0,oZ0];have e1:s8 a=(a.toNat:Int):=if_pos h128;have e2:(0:Int)*256+(a.toNat:Int)=(a.toNat:Int):=by omega
     rw[wfold_cons,asintV_cons,e1,e2,w64_u8']
    ·rw[decide_eq_true (show(a.toNat:Int)≥128 from by omega),if_pos rfl,oZ0,hst,oZ0,oZ0];have e1:s8 a=(a.toNat:Int)-256:=if_neg h128;have e2:(-1:Int)*256+(a.toNat:Int)=(a.toNat:Int)-256:=by omega
     rw[wfold_cons,asintV_cons,e1,e2,AF (by omega) (by omega)]
 ·rw[if_neg ht,if_neg ht];rfl
theorem asText07_eq {x:g_api_Item}(h:Li 8 x∧DM 8 x∨x.Tag≠12):C0 x=E1 x:=by
 rw[Ke];unfold C0;rw[as07_eq h,oZ0];by_cases ht:x.Tag=12
 ·rw[if_pos ht,if_pos ht];cases hm:mayB 8 x<;>rfl
 ·rw[if_neg ht,if_neg ht];rfl
theorem asBool07_eq {x:g_api_Item}(h:Li 8 x∧DM 8 x∨x.Tag≠1):C1 x=E2 x:=by
 rw[Kf];unfold C1;rw[as07_eq h,oZ0];by_cases ht:x.Tag=1
 ·rw[if_pos ht,if_pos ht];cases hm:mayB 8 x with
  |false=>rfl
  |true=>
   have hk:=HW hm;rw[ht]at hk;have hk:XS x.B=true:=hk;rw[if_pos rfl,if_pos rfl,if_neg (by decide)];match hb:x.B,hk with
   | [c],hk=>
    have hk:(c==0||c==255)=true:=hk;rw[Bool.or_eq_true,beq_iff_eq,beq_iff_eq]at hk;rw[Ky];rcases hk with q|q<;>rw[q]<;>rfl
 ·rw[if_neg ht,if_neg ht];rfl
theorem asSeq07_eq {x:g_api_Item}(h:Li 8 x∧DM 8 x∨x.Tag≠48)(hL:x.L.length≤100000):BW x=ER x:=by
 rw[IV hL];unfold BW;rw[as07_eq h,oZ0];by_cases ht:x.Tag=48
 ·rw[if_pos ht,if_pos ht];cases hm:mayB 8 x with
  |false=>rfl
  |true=>
   rw[if_pos rfl,if_pos rfl,if_neg (by decide),Hs 56 (by omega) (by omega)];rfl
 ·rw[if_neg ht,if_neg ht];rfl
theorem nextR (l:Its)(b:Bool):BM ⟨l,b⟩=some (match l with| []=>((zI0,⟨[],true⟩):g_api_Item×Ag)|x::r=>(x,⟨r,b⟩)):=by
 unfold BM;cases l with
 |nil=>rfl
 |cons x r=>
  have e:(((x::r).length:Int)==0)=false:=by simp only[beq_eq_false_iff_ne,List.length_cons]; omega
  show(if(((x::r).length:Int)==0)=true then _ else _)=_;rw[e,if_neg (by decide)];show Ab (idx (x::r) 0) _=_;rw[Ky,oZ0];show Ab (cut (x::r) 1 ((x::r).length:Int)) _=_;rw[J7];rfl
theorem intR {d:Nat}{l:Its}{b:Bool}(h:PL d l)(hd:d≤8): ∃v,Av ⟨l,b⟩=some (v,⟨l.tail,b||(Ap l).isNone⟩)∧∀n r,Ap l=some (n,r)→v=n∧l.tail=r:=by
 unfold Av;rw[nextR,oZ0];cases l with
 |nil=>
  refine⟨0,?_,fun n r h=>by cases h⟩;show Ab (Ds zI0) _=_;rw[asInt07_eq (.inr (by decide)),LB,oZ0];cases b<;>rfl
 |cons x r=>
  have hx:=h x List.mem_cons_self;show∃v,Ab (Ds x) _=_∧_;rw[asInt07_eq (.inl ⟨pd_dep hx hd,pd_small d 8 hx⟩),LB,oZ0];have hm:mayB 8 x=true:=Qt hd hx.1;unfold Ap;rw[Cg,hm];by_cases ht:x.Tag=2
  ·rw[if_pos ht,if_pos rfl,if_pos ⟨ht,rfl⟩,Option.bind_some];by_cases h0:0≤E9 x.B
   ·refine⟨E9 x.B,?_,?_⟩
    ·rw[if_pos h0];show some (E9 x.B,(⟨r,((b||((0:Int) !=0))||(decide (E9 x.B<0)))⟩:Ag))=some (E9 x.B,⟨r,b||false⟩);rw[decide_eq_false (by omega)];cases b<;>rfl
    ·intro n q hq;rw[if_pos h0]at hq;cases hq;exact⟨rfl,rfl⟩
   ·refine⟨E9 x.B,?_,?_⟩
    ·rw[if_neg h0];show some (E9 x.B,(⟨r,((b||((0:Int) !=0))||(decide (E9 x.B<0)))⟩:Ag))=some (E9 x.B,⟨r,b||true⟩);rw[decide_eq_true (by omega)];cases b<;>rfl
    ·intro n q hq;rw[if_neg h0]at hq;cases hq
  ·rw[if_neg ht,if_neg (by simp[ht])];refine⟨0,?_,fun n q hq=>by cases hq⟩;show some ((0:Int),(⟨r,((b||((72:Int) !=0))||(decide ((0:Int)<0)))⟩:Ag))=some (0,⟨r,b||true⟩);cases b<;>rfl
theorem textR {d:Nat}{l:Its}{b:Bool}(h:PL d l)(hd:d≤8): ∃v,BL ⟨l,b⟩=some (v,⟨l.tail,b||(DG l).isNone⟩)∧∀n r,DG l=some (n,r)→v=n∧l.tail=r:=by
 unfold BL;rw[nextR,oZ0];cases l with
 |nil=>
  refine⟨(⟨#[]⟩:ByteArray),?_,fun n r h=>by cases h⟩;show Ab (C0 zI0) _=_;rw[asText07_eq (.inr (by decide)),Ke,oZ0];cases b<;>rfl
 |cons x r=>
  have hx:=h x List.mem_cons_self;show∃v,Ab (C0 x) _=_∧_;rw[asText07_eq (.inl ⟨pd_dep hx hd,pd_small d 8 hx⟩),Ke,oZ0];have hm:mayB 8 x=true:=Qt hd hx.1;show∃v,_=some (v,(⟨r,b||(GE 12 (fun x=>bs x.B) (x::r)).isNone⟩:Ag))∧∀n q,GE 12 (fun x=>bs x.B) (x::r)=some (n,q)→v=n∧r=q;rw[Cg,hm];by_cases ht:x.Tag=12
  ·rw[if_pos ht,if_pos rfl,if_pos ⟨ht,rfl⟩];refine⟨bs x.B,by cases b<;>rfl,fun n q hq=>by cases hq; exact⟨rfl,rfl⟩⟩
  ·rw[if_neg ht,if_neg (by simp[ht])];exact⟨_,by cases b<;>rfl,fun n q hq=>by cases hq⟩
theorem truthR {d:Nat}{l:Its}{b:Bool}(h:PL d l)(hd:d≤8): ∃v,Cw ⟨l,b⟩=some (v,⟨l.tail,b||(MS l).isNone⟩)∧∀n r,MS l=some (n,r)→v=n∧l.tail=r:=by
 unfold Cw;rw[nextR,oZ0];cases l with
 |nil=>
  refine⟨false,?_,fun n r h=>by cases h⟩;show Ab (C1 zI0) _=_;rw[asBool07_eq (.inr (by decide)),Kf,oZ0];cases b<;>rfl
 |cons x r=>
  have hx:=h x List.mem_cons_self;show∃v,Ab (C1 x) _=_∧_;rw[asBool07_eq (.inl ⟨pd_dep hx hd,pd_small d 8 hx⟩),Kf,oZ0];have hm:mayB 8 x=true:=Qt hd hx.1;show∃v,_=some (v,(⟨r,b||(GE 1 (fun x=>NE x.B) (x::r)).isNone⟩:Ag))∧∀n q,GE 1 (fun x=>NE x.B) (x::r)=some (n,q)→v=n∧r=q;rw[Cg,hm];by_cases ht:x.Tag=1
  ·rw[if_pos ht,if_pos rfl,if_pos ⟨ht,rfl⟩];refine⟨NE x.B,by cases b<;>rfl,fun n q hq=>by cases hq; exact⟨rfl,rfl⟩⟩
  ·rw[if_neg ht,if_neg (by simp[ht])];exact⟨_,by cases b<;>rfl,fun n q hq=>by cases hq⟩
theorem seqR {d:Nat}{l:Its}{b:Bool}(h:PL (d+1) l)(hd:d+1≤8): ∃v,A6 ⟨l,b⟩=some (v,⟨l.tail,b||(Hc l).isNone⟩)∧(∀n r,Hc l=some (n,r)→v=n∧l.tail=r)∧PL d v∧v.length≤100000:=by
 unfold A6;rw[nextR,oZ0];cases l with
 |nil=>
  refine⟨[],?_,fun n r h=>(by cases h),fun x hx=>(by cases hx),by simp⟩;show Ab (BW zI0) _=_;rw[asSeq07_eq (.inr (by decide)) (by decide),IV (by decide),oZ0];cases b<;>rfl
 |cons x r=>
  have hx:=h x List.mem_cons_self;have hxL:=(L_few hx.1 hx.2).1;show∃v,Ab (BW x) _=_∧_;rw[asSeq07_eq (.inl ⟨pd_dep hx hd,pd_small (d+1) 8 hx⟩) hxL,IV hxL,oZ0];have hm:mayB 8 x=true:=Qt hd hx.1;show∃v,_=some (v,(⟨r,b||(GE 48 (fun x=>x.L) (x::r)).isNone⟩:Ag))∧(∀n q,GE 48 (fun x=>x.L) (x::r)=some (n,q)→v=n∧r=q)∧_;rw[Cg,hm];by_cases ht:x.Tag=48
  ·rw[if_pos ht,if_pos rfl,if_pos ⟨ht,rfl⟩];exact⟨x.L,by cases b<;>rfl,fun n q hq=>by cases hq; exact⟨rfl,rfl⟩,fun y hy=>pd_in hx hy,hxL⟩
  ·rw[if_neg ht,if_neg (by simp[ht])];exact⟨[],by cases b<;>rfl,fun n q hq=>(by cases hq),fun y hy=>(by cases hy),by simp⟩
theorem textsR_loop {d:Nat}(hd:d≤8): ∀(l:Its) (a:List ByteArray) (b:Bool) (f:Nat),PL d l→l.length<f→a.length+l.length≤1000000→∃t,iter AE f (a,l,b)=some (a++t,[],b||(LC l).isNone)∧∀q,LC l=some q→t=q
 |l,a,b,0,_,h,_=>by omega
 | [],a,b,f+1,_,_,_=>by
  refine⟨[],?_,fun q h=>by cases h; rfl⟩;have e:AE (a,[],b)=some (.inr (a,[],b)):=rfl;show Ab (AE (a,[],b)) _=_;rw[e,List.append_nil];cases b<;>rfl
 |x::l,a,b,f+1,h,hf,ha=>by
  rw[List.length_cons]at hf ha;obtain⟨v,e,hv⟩:=textR (b:=b) h hd;obtain⟨t,e2,ht⟩:=textsR_loop hd l (a++[v]) (b||(DG (x::l)).isNone) f h.tail (by omega) (by rw[List.length_append]; show a.length+1+_≤_; omega);have hx1:LC (x::l)=(DG (x::l)).bind fun p=>(LC l).map fun t=>p.1::t:=by
   show(if x.Tag=12∧mayB 8 x=true then(LC l).map fun t=>bs x.B::t else none)=(GE 12 (fun x=>bs x.B) (x::l)).bind _;rw[Cg];by_cases hx:x.Tag=12∧mayB 8 x=true
   ·rw[if_pos hx,if_pos hx]; rfl
   ·rw[if_neg hx,if_neg hx]; rfl
  refine⟨v::t,?_,?_⟩
  ·have es:AE (a,x::l,b)=some (.inl (a++[v],l,b||(DG (x::l)).isNone)):=by
    unfold AE;show(if decide (((x::l).length:Int)>0)=true then _ else _)=_;rw[IG,if_pos rfl];show Ab (BL ⟨x::l,b⟩) _=_;rw[e,oZ0];show Ab (app 16 a [v]) _=_;rw[Fa 16 (by show(a.length+1)*16≤_; omega) (by show a.length+1≤_; omega)];rfl
   show Ab (AE (a,x::l,b)) _=_;rw[es];show iter AE f (a++[v],l,b||(DG (x::l)).isNone)=_;rw[e2,hx1,List.append_assoc];cases DG (x::l)with
   |none=>cases b<;>rfl
   |some p=>cases LC l<;>cases b<;>rfl
  ·intro q hq;rw[hx1]at hq;cases ht1:DG (x::l)with
   |none=>rw[ht1]at hq; cases hq
   |some p=>
    rw[ht1,Option.bind_some]at hq;cases ha1:LC l with
    |none=>rw[ha1]at hq; cases hq
    |some t'=>
     rw[ha1]at hq;cases hq;rw[(hv p.1 p.2 ht1).1,ht t' ha1]
theorem textsR {d:Nat}{l:Its}{b:Bool}(h:PL (d+1) l)(hd:d+1≤8): ∃v,Ch ⟨l,b⟩=some (v,⟨l.tail,b||(Dx l).isNone⟩)∧∀n r,Dx l=some (n,r)→v=n∧l.tail=r:=by
 obtain⟨v,e,hv,hp,hl⟩:=seqR (b:=b) h hd;obtain⟨t,e2,ht⟩:=textsR_loop (d:=d) (by omega) v [] false Bv hp (by have:=AJ; omega) (by simp only[List.length_nil]; omega);unfold Ch;rw[e,oZ0];show∃w,Ab (Ab (iter AE Bv ([],v,false)) _) _=_∧_;rw[e2,oZ0,oZ0];refine⟨t,?_,?_⟩
 ·show some (([]++t),(⟨l.tail,((b||(Hc l).isNone)||(false||(LC v).isNone))⟩:Ag))=_;rw[List.nil_append];unfold Dx;cases hs:Hc l with
  |none=>cases b<;>cases (LC v).isNone<;>rfl
  |some p=>
   obtain⟨p1,p2⟩:=p;obtain⟨hv1,_⟩:=hv p1 p2 hs;rw[Option.bind_some,hv1];cases LC p1<;>cases b<;>rfl
 ·intro n r hq;unfold Dx at hq;cases hs:Hc l with
  |none=>rw[hs]at hq; cases hq
  |some p=>
   obtain⟨p1,p2⟩:=p;obtain⟨hv1,hv2⟩:=hv p1 p2 hs;rw[hs,Option.bind_some]at hq;cases ha:LC p1 with
   |none=>rw[ha]at hq; cases hq
   |some t'=>
    rw[ha]at hq;have hq':=sI0 hq;have q1:t'=n:=congrArg (·.1) hq';have q2:p2=r:=congrArg (·.2) hq';exact⟨by rw[←q1]; exact ht t' (by rw[hv1]; exact ha),by rw[hv2]; exact q2⟩
end Go.Proofs.YtlnbckkkapbdmaaGreatDoor
end
section
namespace Go.Proofs.YtlnbckkkapbdmaaGreatDoor
open Go Go.Gw Go.Ax
def TZ {α:Type}(ok:Bool)(c:α):Option (α×Its)→Prop
 |some q=>ok=true∧c=q.1
 |none=>ok=false
theorem asPre_eq {d:Nat}{l:Its}(h:PL (d+1) l)(hd:d+1≤8): ∃c ok,Dr l=some (c,ok)∧TZ ok c (Ql l):=by
 obtain⟨v0,e0,s0⟩:=intR (b:=false) h hd;obtain⟨v1,e1,s1⟩:=textR (b:=(false||(Ap (l)).isNone)) h.tail hd;obtain⟨v2,e2,s2⟩:=textR (b:=((false||(Ap (l)).isNone)||(DG (l.tail)).isNone)) (h.tail).tail hd;obtain⟨v3,e3,s3⟩:=intR (b:=(((false||(Ap (l)).isNone)||(DG (l.tail)).isNone)||(DG (l.tail.tail)).isNone)) ((h.tail).tail).tail hd;obtain⟨v4,e4,s4⟩:=textsR (b:=((((false||(Ap (l)).isNone)||(DG (l.tail)).isNone)||(DG (l.tail.tail)).isNone)||(Ap (l.tail.tail.tail)).isNone)) (((h.tail).tail).tail).tail hd;obtain⟨v5,e5,s5⟩:=intR (b:=(((((false||(Ap (l)).isNone)||(DG (l.tail)).isNone)||(DG (l.tail.tail)).isNone)||(Ap (l.tail.tail.tail)).isNone)||(Dx (l.tail.tail.tail.tail)).isNone)) ((((h.tail).tail).tail).tail).tail hd;obtain⟨v6,e6,s6⟩:=intR (b:=((((((false||(Ap (l)).isNone)||(DG (l.tail)).isNone)||(DG (l.tail.tail)).isNone)||(Ap (l.tail.tail.tail)).isNone)||(Dx (l.tail.tail.tail.tail)).isNone)||(Ap (l.tail.tail.tail.tail.tail)).isNone)) (((((h.tail).tail).tail).tail).tail).tail hd;obtain⟨v7,e7,s7⟩:=truthR (b:=(((((((false||(Ap (l)).isNone)||(DG (l.tail)).isNone)||(DG (l.tail.tail)).isNone)||(Ap (l.tail.tail.tail)).isNone)||(Dx (l.tail.tail.tail.tail)).isNone)||(Ap (l.tail.tail.tail.tail.tail)).isNone)||(Ap (l.tail.tail.tail.tail.tail.tail)).isNone)) ((((((h.tail).tail).tail).tail).tail).tail).tail hd;obtain⟨v8,e8,s8⟩:=intR (b:=((((((((false||(Ap (l)).isNone)||(DG (l.tail)).isNone)||(DG (l.tail.tail)).isNone)||(Ap (l.tail.tail.tail)).isNone)||(Dx (l.tail.tail.tail.tail)).isNone)||(Ap (l.tail.tail.tail.tail.tail)).isNone)||(Ap (l.tail.tail.tail.tail.tail.tail)).isNone)||(MS (l.tail.tail.tail.tail.tail.tail.tail)).isNone)) (((((((h.tail).tail).tail).tail).tail).tail).tail).tail hd;obtain⟨v9,e9,s9⟩:=textsR (b:=(((((((((false||(Ap (l)).isNone)||(DG (l.tail)).isNone)||(DG (l.tail.tail)).isNone)||(Ap (l.tail.tail.tail)).isNone)||(Dx (l.tail.tail.tail.tail)).isNone)||(Ap (l.tail.tail.tail.tail.tail)).isNone)||(Ap (l.tail.tail.tail.tail.tail.tail)).isNone)||(MS (l.tail.tail.tail.tail.tail.tail.tail)).isNone)||(Ap (l.tail.tail.tail.tail.tail.tail.tail.tail)).isNone)) ((((((((h.tail).tail).tail).tail).tail).tail).tail).tail).tail hd;have E:Dr l=some ((⟨v0,v1,v2,(toU v3),v4,v5,v6,v7,v8,v9,[],⟨0,0⟩⟩:Ac),((!((((((((((false||(Ap (l)).isNone)||(DG (l.tail)).isNone)||(DG (l.tail.tail)).isNone)||(Ap (l.tail.tail.tail)).isNone)||(Dx (l.tail.tail.tail.tail)).isNone)||(Ap (l.tail.tail.tail.tail.tail)).isNone)||(Ap (l.tail.tail.tail.tail.tail.tail)).isNone)||(MS (l.tail.tail.tail.tail.tail.tail.tail)).isNone)||(Ap (l.tail.tail.tail.tail.tail.tail.tail.tail)).isNone)||(Dx (l.tail.tail.tail.tail.tail.tail.tail.tail.tail)).isNone))&&((((l.tail.tail.tail.tail.tail.tail.tail.tail.tail.tail).length:Nat):Int)==0))):=by
  unfold Dr;rw[e0,oZ0];dsimp only;rw[e1,oZ0];dsimp only;rw[e2,oZ0];dsimp only;rw[e3,oZ0];dsimp only;rw[e4,oZ0];dsimp only;rw[e5,oZ0];dsimp only;rw[e6,oZ0];dsimp only;rw[e7,oZ0];dsimp only;rw[e8,oZ0];dsimp only;rw[e9,oZ0];rfl
 refine⟨_,_,E,?_⟩;clear E e0 e1 e2 e3 e4 e5 e6 e7 e8 e9;unfold Ql;cases h0:Ap (l)with
 |none=>
  show(_:Bool)=false;simp
 |some q=>
  obtain⟨x0,r0⟩:=q;obtain⟨a0,t0⟩:=s0 x0 r0 h0;rw[Option.bind_some,←t0];cases h1:DG (l.tail)with
  |none=>
   show(_:Bool)=false;simp
  |some q=>
   obtain⟨x1,r1⟩:=q;obtain⟨a1,t1⟩:=s1 x1 r1 h1;rw[Option.bind_some,←t1];cases h2:DG (l.tail.tail)with
   |none=>
    show(_:Bool)=false;simp
   |some q=>
    obtain⟨x2,r2⟩:=q;obtain⟨a2,t2⟩:=s2 x2 r2 h2;rw[Option.bind_some,←t2];cases h3:Ap (l.tail.tail.tail)with
    |none=>
     have hb:FX (l.tail.tail.tail)=none:=by unfold FX; rw[h3]; rfl
     rw[hb];show(_:Bool)=false;simp
    |some q=>
     obtain⟨x3,r3⟩:=q;obtain⟨a3,t3⟩:=s3 x3 r3 h3;have hb:FX (l.tail.tail.tail)=some (toU x3,r3):=by unfold FX; rw[h3]; rfl
     rw[hb,Option.bind_some,←t3];cases h4:Dx (l.tail.tail.tail.tail)with
     |none=>
      show(_:Bool)=false;simp
     |some q=>
      obtain⟨x4,r4⟩:=q;obtain⟨a4,t4⟩:=s4 x4 r4 h4;rw[Option.bind_some,←t4];cases h5:Ap (l.tail.tail.tail.tail.tail)with
      |none=>
       show(_:Bool)=false;simp
      |some q=>
       obtain⟨x5,r5⟩:=q;obtain⟨a5,t5⟩:=s5 x5 r5 h5;rw[Option.bind_some,←t5];cases h6:Ap (l.tail.tail.tail.tail.tail.tail)with
       |none=>
        show(_:Bool)=false;simp
       |some q=>
        obtain⟨x6,r6⟩:=q;obtain⟨a6,t6⟩:=s6 x6 r6 h6;rw[Option.bind_some,←t6];cases h7:MS (l.tail.tail.tail.tail.tail.tail.tail)with
        |none=>
         show(_:Bool)=false;simp
        |some q=>
         obtain⟨x7,r7⟩:=q;obtain⟨a7,t7⟩:=s7 x7 r7 h7;rw[Option.bind_some,←t7];cases h8:Ap (l.tail.tail.tail.tail.tail.tail.tail.tail)with
         |none=>
          show(_:Bool)=false;simp
         |some q=>
          obtain⟨x8,r8⟩:=q;obtain⟨a8,t8⟩:=s8 x8 r8 h8;rw[Option.bind_some,←t8];cases h9:Dx (l.tail.tail.tail.tail.tail.tail.tail.tail.tail)with
          |none=>
           show(_:Bool)=false;simp
          |some q=>
           obtain⟨x9,r9⟩:=q;obtain⟨a9,t9⟩:=s9 x9 r9 h9;rw[Option.bind_some,←t9];by_cases he:l.tail.tail.tail.tail.tail.tail.tail.tail.tail.tail=[]
           ·show TZ _ _ (if l.tail.tail.tail.tail.tail.tail.tail.tail.tail.tail=[]then some _ else none);rw[if_pos he];refine⟨?_,?_⟩
            ·rw[he]; rfl
            ·rw[a0,a1,a2,a3,a4,a5,a6,a7,a8,a9]
           ·show TZ _ _ (if l.tail.tail.tail.tail.tail.tail.tail.tail.tail.tail=[]then some _ else none);rw[if_neg he];show(_&&_)=false;have:((((l.tail.tail.tail.tail.tail.tail.tail.tail.tail.tail).length:Nat):Int)==0)=false:=by
             rw[beq_eq_false_iff_ne];intro q;exact he (List.eq_nil_of_length_eq_zero (by omega))
            rw[this,Bool.and_false]
theorem asProm_eq {d:Nat}{l:Its}(h:PL d l)(hd:d≤8): ∃p ok,CX l=some (p,ok)∧TZ ok p ((Qk l).bind fun q=>if q.2=[]then some q else none):=by
 obtain⟨v0,e0,s0⟩:=intR (b:=false) h hd;obtain⟨v1,e1,s1⟩:=intR (b:=(false||(Ap (l)).isNone)) h.tail hd;obtain⟨v2,e2,s2⟩:=intR (b:=((false||(Ap (l)).isNone)||(Ap (l.tail)).isNone)) (h.tail).tail hd;obtain⟨v3,e3,s3⟩:=intR (b:=(((false||(Ap (l)).isNone)||(Ap (l.tail)).isNone)||(Ap (l.tail.tail)).isNone)) ((h.tail).tail).tail hd;obtain⟨v4,e4,s4⟩:=intR (b:=((((false||(Ap (l)).isNone)||(Ap (l.tail)).isNone)||(Ap (l.tail.tail)).isNone)||(Ap (l.tail.tail.tail)).isNone)) (((h.tail).tail).tail).tail hd;obtain⟨v5,e5,s5⟩:=intR (b:=(((((false||(Ap (l)).isNone)||(Ap (l.tail)).isNone)||(Ap (l.tail.tail)).isNone)||(Ap (l.tail.tail.tail)).isNone)||(Ap (l.tail.tail.tail.tail)).isNone)) ((((h.tail).tail).tail).tail).tail hd;have E:CX l=some ((⟨v0,v1,(toU v2,toU v3),⟨toU v4,toU v5⟩⟩:g_api_Promise),((!((((((false||(Ap (l)).isNone)||(Ap (l.tail)).isNone)||(Ap (l.tail.tail)).isNone)||(Ap (l.tail.tail.tail)).isNone)||(Ap (l.tail.tail.tail.tail)).isNone)||(Ap (l.tail.tail.tail.tail.tail)).isNone))&&((((l.tail.tail.tail.tail.tail.tail).length:Nat):Int)==0))):=by
  unfold CX;rw[e0,oZ0];dsimp only;rw[e1,oZ0];dsimp only;rw[e2,oZ0];dsimp only;rw[e3,oZ0];dsimp only;rw[e4,oZ0];dsimp only;rw[e5,oZ0];rfl
 refine⟨_,_,E,?_⟩;clear E e0 e1 e2 e3 e4 e5;unfold Qk;cases h0:Ap (l)with
 |none=>
  show(_:Bool)=false;simp
 |some q=>
  obtain⟨x0,r0⟩:=q;obtain⟨a0,t0⟩:=s0 x0 r0 h0;rw[Option.bind_some,←t0];cases h1:Ap (l.tail)with
  |none=>
   show(_:Bool)=false;simp
  |some q=>
   obtain⟨x1,r1⟩:=q;obtain⟨a1,t1⟩:=s1 x1 r1 h1;rw[Option.bind_some,←t1];cases h2:Ap (l.tail.tail)with
   |none=>
    have hb:FX (l.tail.tail)=none:=by unfold FX; rw[h2]; rfl
    rw[hb];show(_:Bool)=false;simp
   |some q=>
    obtain⟨x2,r2⟩:=q;obtain⟨a2,t2⟩:=s2 x2 r2 h2;have hb:FX (l.tail.tail)=some (toU x2,r2):=by unfold FX; rw[h2]; rfl
    rw[hb,Option.bind_some,←t2];cases h3:Ap (l.tail.tail.tail)with
    |none=>
     have hb:FX (l.tail.tail.tail)=none:=by unfold FX; rw[h3]; rfl
     rw[hb];show(_:Bool)=false;simp
    |some q=>
     obtain⟨x3,r3⟩:=q;obtain⟨a3,t3⟩:=s3 x3 r3 h3;have hb:FX (l.tail.tail.tail)=some (toU x3,r3):=by unfold FX; rw[h3]; rfl
     rw[hb,Option.bind_some,←t3];cases h4:Ap (l.tail.tail.tail.tail)with
     |none=>
      have hb:FX (l.tail.tail.tail.tail)=none:=by unfold FX; rw[h4]; rfl
      rw[hb];show(_:Bool)=false;simp
     |some q=>
      obtain⟨x4,r4⟩:=q;obtain⟨a4,t4⟩:=s4 x4 r4 h4;have hb:FX (l.tail.tail.tail.tail)=some (toU x4,r4):=by unfold FX; rw[h4]; rfl
      rw[hb,Option.bind_some,←t4];cases h5:Ap (l.tail.tail.tail.tail.tail)with
      |none=>
       have hb:FX (l.tail.tail.tail.tail.tail)=none:=by unfold FX; rw[h5]; rfl
       rw[hb];show(_:Bool)=false;simp
      |some q=>
       obtain⟨x5,r5⟩:=q;obtain⟨a5,t5⟩:=s5 x5 r5 h5;have hb:FX (l.tail.tail.tail.tail.tail)=some (toU x5,r5):=by unfold FX; rw[h5]; rfl
       rw[hb,Option.bind_some,←t5];rw[Option.bind_some];by_cases he:l.tail.tail.tail.tail.tail.tail=[]
       ·show TZ _ _ (if l.tail.tail.tail.tail.tail.tail=[]then some _ else none);rw[if_pos he];refine⟨?_,?_⟩
        ·rw[he]; rfl
        ·rw[a0,a1,a2,a3,a4,a5]
       ·show TZ _ _ (if l.tail.tail.tail.tail.tail.tail=[]then some _ else none);rw[if_neg he];show(_&&_)=false;have:((((l.tail.tail.tail.tail.tail.tail).length:Nat):Int)==0)=false:=by
         rw[beq_eq_false_iff_ne];intro q;exact he (List.eq_nil_of_length_eq_zero (by omega))
        rw[this,Bool.and_false]
end Go.Proofs.YtlnbckkkapbdmaaGreatDoor
end
section
namespace Go.Proofs.YtlnbckkkapbdmaaGreatDoor
open Go Go.Gw Go.Ax
def Told1 {α:Type}(ok:Bool)(c:α):Option α→Prop
 |some q=>ok=true∧c=q
 |none=>ok=false
theorem sub1_cons (x:g_api_Item)(l:Its):Hc (x::l)=if x.Tag=48∧mayB 8 x=true then some (x.L,l)else none:=by
 unfold Hc;rw[Cg]
theorem readP_sub (x:g_api_Item)(l:Its):OT x=(Hc (x::l)).bind fun y=>(Qk y.1).bind fun q=>if q.2=[]then some q.1 else none:=by
 rw[sub1_cons];unfold OT;by_cases h:x.Tag=48∧mayB 8 x=true
 ·rw[if_pos h,if_pos h]; rfl
 ·rw[if_neg h,if_neg h]; rfl
theorem proms_loop {d:Nat}(hd:d+1≤8): ∀(l:Its) (ok b:Bool) (a:List g_api_Promise) (f:Nat),PL (d+1) l→l.length<f→a.length+l.length≤100000→
  ∃okP bP ps,iter By f (ok,l,b,a)=some (ok&&okP,[],b||bP,a++ps)∧Told1 (okP&& !bP) ps (Tp l)
 |l,ok,b,a,0,_,h,_=>by omega
 | [],ok,b,a,f+1,_,_,_=>by
  refine⟨true,false,[],?_,rfl,rfl⟩;have e:By (ok,[],b,a)=some (.inr (ok,[],b,a)):=rfl;show Ab (By (ok,[],b,a)) _=_;rw[e,List.append_nil,Bool.and_true,Bool.or_false];rfl
 |x::l,ok,b,a,f+1,h,hf,ha=>by
  rw[List.length_cons]at hf ha;obtain⟨v,e1,hv,hp,hl⟩:=seqR (b:=b) h hd;obtain⟨p,ok1,e2,t1⟩:=asProm_eq hp (by omega);obtain⟨okP,bP,ps,e3,t2⟩:=proms_loop hd l (ok&&ok1) (b||(Hc (x::l)).isNone) (a++[p]) f h.tail (by omega) (by rw[List.length_append]; show a.length+1+_≤_; omega);refine⟨ok1&&okP,(Hc (x::l)).isNone||bP,p::ps,?_,?_⟩
  ·have es:By (ok,x::l,b,a)=some (.inl (ok&&ok1,l,b||(Hc (x::l)).isNone,a++[p])):=by
    unfold By;show(if decide (((x::l).length:Int)>0)=true then _ else _)=_;rw[IG,if_pos rfl];show Ab (A6 ⟨x::l,b⟩) _=_;rw[e1,oZ0];show Ab (CX v) _=_;rw[e2,oZ0];show Ab (app 48 a [p]) _=_;rw[Fa 48 (by show(a.length+1)*48≤_; omega) (by show a.length+1≤_; omega)];rfl
   show Ab (By (ok,x::l,b,a)) _=_;rw[es];show iter By f (ok&&ok1,l,b||(Hc (x::l)).isNone,a++[p])=_;rw[e3,Bool.and_assoc,Bool.or_assoc,List.append_assoc];rfl
  ·unfold Tp;rw[readP_sub x l];cases hs:Hc (x::l)with
   |none=>
    show(_&& !(true||bP))=false;rw[Bool.true_or];simp
   |some q=>
    obtain⟨q1,q2⟩:=q;obtain⟨hv1,_⟩:=hv q1 q2 hs;subst hv1;rw[Option.bind_some];show Told1 ((ok1&&okP)&& !(false||bP)) (p::ps) (Option.bind (Option.bind (Qk v) fun q=>if q.2=[]then some q.1 else none) _);rw[Bool.false_or];cases hq:Qk v with
    |none=>
     rw[hq]at t1;have t1:ok1=false:=t1;rw[t1];rfl
    |some q=>
     rw[hq,Option.bind_some]at t1;rw[Option.bind_some];by_cases he:q.2=[]
     ·rw[if_pos he]at t1;obtain⟨k1,k2⟩:=t1;rw[if_pos he,Option.bind_some,k1,Bool.true_and];cases hA:Tp l with
      |none=>
       rw[hA]at t2;exact t2
      |some ps'=>
       rw[hA]at t2;obtain⟨k3,k4⟩:=t2;exact⟨k3,by rw[k2,k4]⟩
     ·rw[if_neg he]at t1;have t1:ok1=false:=t1;rw[if_neg he,t1];rfl
theorem len_zero {l:Its}(h:l≠[]):(((l.length:Nat):Int)==0)=false:=by
 rw[beq_eq_false_iff_ne];intro q;exact h (List.eq_nil_of_length_eq_zero (by omega))
theorem asBody_eq {d:Nat}{l:Its}(h:PL (d+2) l)(hd:d+2≤8): ∃c ok,CY l=some (c,ok)∧TZ ok c (Jt l):=by
 obtain⟨v1,e1,s1,p1,n1⟩:=seqR (b:=false) h hd;obtain⟨c,ok,e2,t2⟩:=asPre_eq p1 (by omega);obtain⟨v3,e3,s3,p3,n3⟩:=seqR (b:=false||(Hc l).isNone) h.tail hd;obtain⟨okP,bP,ps,e4,t4⟩:=proms_loop (d:=d) (by omega) v3 ok false [] Bv p3 (by have:=AJ; omega) (by simp only[List.length_nil]; omega);have E:CY l=some (Ui c ps,((((ok&&okP)&&(!((false||(Hc l).isNone)||(Hc l.tail).isNone)))&&(!(false||bP)))&&(((l.tail.tail.length:Nat):Int)==0))):=by
  unfold CY;rw[e1,oZ0];dsimp only;rw[e2,oZ0];dsimp only;rw[e3,oZ0];dsimp only;rw[e4,oZ0,oZ0,List.nil_append];rfl
 refine⟨_,_,E,?_⟩;clear E e1 e2 e3 e4;unfold Jt;cases h1:Hc l with
 |none=>
  show(_:Bool)=false;simp
 |some q=>
  obtain⟨x1,r1⟩:=q;obtain⟨a1,b1⟩:=s1 x1 r1 h1;subst a1 b1;rw[Option.bind_some];cases h2:Ql v1 with
  |none=>
   rw[h2]at t2;have t2:ok=false:=t2;rw[t2];show(_:Bool)=false;simp
  |some q=>
   rw[h2]at t2;obtain⟨k1,k2⟩:=t2;rw[Option.bind_some];cases h3:Hc l.tail with
   |none=>
    show(_:Bool)=false;simp
   |some q3=>
    obtain⟨x3,r3⟩:=q3;obtain⟨a3,b3⟩:=s3 x3 r3 h3;subst a3 b3;rw[Option.bind_some];cases h4:Tp v3 with
    |none=>
     rw[h4]at t4;have t4:(okP&& !bP)=false:=t4;show(_:Bool)=false;cases okP<;>cases bP<;>simp_all
    |some ps'=>
     rw[h4]at t4;obtain⟨k3,k4⟩:=t4;rw[Option.bind_some];by_cases he:l.tail.tail=[]
     ·show TZ _ _ (if l.tail.tail=[]then some _ else none);rw[if_pos he];refine⟨?_,?_⟩
      ·rw[he,k1];cases okP<;>cases bP<;>simp_all
      ·rw[k2,k4]
     ·show TZ _ _ (if l.tail.tail=[]then some _ else none);rw[if_neg he];show(_&&_)=false;rw[len_zero he,Bool.and_false]
theorem two_lens {a b:Its}(ha:a.length≤100000)(hb:b.length≤100000):(w64 (((a.length:Nat):Int)+((b.length:Nat):Int))==0)=((a.length==0)&&(b.length==0)):=by
 rw[AF (by omega) (by omega),Bool.eq_iff_iff,Bool.and_eq_true,beq_iff_eq,beq_iff_eq,beq_iff_eq];omega
theorem big_count {l:Its}{n:Int}{r:Its}(h:Ap l=some (n,r)):FX l=some (toU n,r):=by unfold FX; rw[h]; rfl
theorem big_no {l:Its}(h:Ap l=none):FX l=none:=by unfold FX; rw[h]; rfl
theorem asWhole_eq {d:Nat}{l:Its}(h:PL (d+3) l)(hd:d+3≤8)(hl:l.length≤100000): ∃c ok,De l=some (c,ok)∧TZ ok c (Ij l):=by
 obtain⟨v1,e1,s1,p1,n1⟩:=seqR (b:=false) h hd;obtain⟨c,ok,e2,t2⟩:=asBody_eq p1 (by omega);obtain⟨v3,e3,s3,p3,n3⟩:=seqR (b:=false||(Hc l).isNone) h.tail hd;obtain⟨i4,e4,s4⟩:=intR (b:=false) p3 (by omega);obtain⟨i5,e5,s5⟩:=intR (b:=false||(Ap v3).isNone) p3.tail (by omega);have E:De l=some (Ts c ⟨toU i4,toU i5⟩,(((ok&&(!((false||(Hc l).isNone)||(Hc l.tail).isNone)))&&(!((false||(Ap v3).isNone)||(Ap v3.tail).isNone)))&&(l.tail.tail.length==0&&v3.tail.tail.length==0))):=by
  unfold De;rw[e1,oZ0];dsimp only;rw[e2,oZ0];dsimp only;rw[e3,oZ0];dsimp only;rw[e4,oZ0];dsimp only;rw[e5,oZ0];dsimp only;rw[two_lens (by simp only[List.length_tail]; omega) (by simp only[List.length_tail]; omega)];rfl
 refine⟨_,_,E,?_⟩;clear E e1 e2 e3 e4 e5;unfold Ij;cases h1:Hc l with
 |none=>
  show(_:Bool)=false;simp
 |some q=>
  obtain⟨x1,r1⟩:=q;obtain⟨a1,b1⟩:=s1 x1 r1 h1;subst a1 b1;rw[Option.bind_some];cases h2:Jt v1 with
  |none=>
   rw[h2]at t2;have t2:ok=false:=t2;rw[t2];show(_:Bool)=false;simp
  |some q=>
   rw[h2]at t2;obtain⟨k1,k2⟩:=t2;rw[Option.bind_some];cases h3:Hc l.tail with
   |none=>
    show(_:Bool)=false;simp
   |some q3=>
    obtain⟨x3,r3⟩:=q3;obtain⟨a3,b3⟩:=s3 x3 r3 h3;subst a3 b3;rw[Option.bind_some];cases h4:Ap v3 with
    |none=>
     rw[show FX (v3,l.tail.tail).1=none from big_no h4];show(_:Bool)=false;simp
    |some q4=>
     obtain⟨x4,r4⟩:=q4;obtain⟨a4,b4⟩:=s4 x4 r4 h4;subst a4 b4;rw[show FX (v3,l.tail.tail).1=_ from big_count h4,Option.bind_some];cases h5:Ap v3.tail with
     |none=>
      rw[show FX (toU i4,v3.tail).2=none from big_no h5];show(_:Bool)=false;simp
     |some q5=>
      obtain⟨x5,r5⟩:=q5;obtain⟨a5,b5⟩:=s5 x5 r5 h5;subst a5 b5;rw[show FX (toU i4,v3.tail).2=_ from big_count h5,Option.bind_some];show TZ _ _ (if v3.tail.tail=[]then(if l.tail.tail=[]then some (Ts q.1 ⟨toU i4,toU i5⟩,[])else none)else none);by_cases he:v3.tail.tail=[]
      ·rw[if_pos he];by_cases he2:l.tail.tail=[]
       ·rw[if_pos he2];refine⟨?_,?_⟩
        ·rw[k1,he,he2]; rfl
        ·rw[k2]
       ·rw[if_neg he2];have:(l.tail.tail.length==0)=false:=by rw[beq_eq_false_iff_ne]; exact fun q=>he2 (List.eq_nil_of_length_eq_zero q)
        show(_&&_)=false;rw[this,Bool.false_and,Bool.and_false]
      ·rw[if_neg he];have:(v3.tail.tail.length==0)=false:=by rw[beq_eq_false_iff_ne]; exact fun q=>he (List.eq_nil_of_length_eq_zero q)
       show(_&&_)=false;rw[this,Bool.and_false,Bool.and_false]
end Go.Proofs.YtlnbckkkapbdmaaGreatDoor
end
section
namespace Go.Proofs.YtlnbckkkapbdmaaGreatDoor
open Go Go.Gw Go.Ax
def TP:List UInt8→Int×Int×Int
 | []=>(0,0,70)
 |b::r=>if b.toNat<128 then((b.toNat:Int),1,0)
  else if b.toNat=129 then(match r with| []=>(0,0,70)|c::_=>if c.toNat<128 then(0,0,71)else((c.toNat:Int),2,0))
  else if b.toNat=130 then(match r with| []=>(0,0,70)| [_]=>(0,0,70)|c::d::_=>if c.toNat=0 then(0,0,71)else((c.toNat:Int)*256+(d.toNat:Int),3,0))
  else(0,0,71)
theorem lenF_cons (b:UInt8)(r:List UInt8):TP (b::r)=(if b.toNat<128 then((b.toNat:Int),1,0)
 else if b.toNat=129 then(match r with| []=>(0,0,70)|c::_=>if c.toNat<128 then(0,0,71)else((c.toNat:Int),2,0))
 else if b.toNat=130 then(match r with| []=>(0,0,70)| [_]=>(0,0,70)|c::d::_=>if c.toNat=0 then(0,0,71)else((c.toNat:Int)*256+(d.toNat:Int),3,0))
 else(0,0,71):Int×Int×Int):=rfl
theorem lenF_eq (l:List UInt8)(hl:l.length≤1000000):AL l=some (TP l):=by
 match l with
 | []=>rfl
 |b::r=>
  have e0:(((b::r).length:Int)==0)=false:=by simp only[beq_eq_false_iff_ne,List.length_cons]; omega
  have hb:=b.toNat_lt;have e1:w64 (b.toNat:Int)=(b.toNat:Int):=AF (by omega) (by omega);rw[lenF_cons];by_cases h1:b.toNat<128
  ·rw[if_pos h1]; exact fst1 b r h1
  rw[if_neg h1];by_cases h2:b.toNat=129
  ·rw[if_pos h2];have hbe:b=129:=UInt8.toNat_inj.1 h2;subst hbe;have f1:w64 (((129:UInt8).toNat:Int))=129:=AF (x:=129) (by decide) (by decide);have f2:w64 ((129:Int)-128)=1:=rfl;have f3:w64 ((1:Int)+1)=2:=rfl;match r with
   | []=>
    unfold AL;have f4:decide ((([129]:List UInt8).length:Int)≤1)=true:=by simp
    rw[e0,Ky,if_neg (by decide),oZ0,f1,if_neg (by decide),Ao,f2,Ao,if_neg (by decide),Ao,f4,if_pos rfl]
   |c::r=>
    have hc:=c.toNat_lt;by_cases h3:c.toNat<128
    ·show _=some (if c.toNat<128 then(0,0,71)else((c.toNat:Int),2,0));rw[if_pos h3];unfold AL;have f4:decide (((129::c::r).length:Int)≤1)=false:=by simp only[decide_eq_false_iff_not,List.length_cons]; omega
     have f5:cut (129::c::r) 1 2=some [c]:=KD 129 [c] r;have f6:Ks (FJ 0 8) (w64 (c.toNat:Int))=(c.toNat:Int):=by
      rw[AF (x:=(c.toNat:Int)) (by omega) (by omega),Hm 0 _ (by omega) (by omega),Int.zero_mul,Int.zero_add,AF (by omega) (by omega)]
     have f7:EE Cd [c] 0 0=some (c.toNat:Int):=by
      show some (Ks (FJ 0 8) (w64 (c.toNat:Int)))=_;rw[f6]
     have f8:decide ((c.toNat:Int)<128)=true:=by simp only[decide_eq_true_eq]; omega
     rw[e0,Ky,if_neg (by decide),oZ0,f1,if_neg (by decide),Ao,f2,Ao,if_neg (by decide),Ao,f4,if_neg (by decide),f3,f5,oZ0,f7,oZ0,oZ0,f8,if_pos (by simp)]
    ·show _=some (if c.toNat<128 then(0,0,71)else((c.toNat:Int),2,0));rw[if_neg h3];exact fst2 c r (by omega)
  rw[if_neg h2];by_cases h3:b.toNat=130
  ·rw[if_pos h3];have hbe:b=130:=UInt8.toNat_inj.1 h3;subst hbe;have f1:w64 (((130:UInt8).toNat:Int))=130:=AF (x:=130) (by decide) (by decide);have f2:w64 ((130:Int)-128)=2:=rfl;have f3:w64 ((2:Int)+1)=3:=rfl;match r with
   | []=>
    unfold AL;have f4:decide ((([130]:List UInt8).length:Int)≤2)=true:=by simp
    rw[e0,Ky,if_neg (by decide),oZ0,f1,if_neg (by decide),Ao,f2,Ao,if_neg (by decide),Ao,f4,if_pos rfl]
   | [c]=>
    unfold AL;have f4:decide (((130::[c]:List UInt8).length:Int)≤2)=true:=by simp
    rw[e0,Ky,if_neg (by decide),oZ0,f1,if_neg (by decide),Ao,f2,Ao,if_neg (by decide),Ao,f4,if_pos rfl]
   |c::d::r=>
    have hc:=c.toNat_lt;have hd:=d.toNat_lt;show _=some (if c.toNat=0 then(0,0,71)else((c.toNat:Int)*256+(d.toNat:Int),3,0));by_cases h4:c.toNat=0
    ·rw[if_pos h4];unfold AL;have f4:decide (((130::c::d::r).length:Int)≤2)=false:=by simp only[decide_eq_false_iff_not,List.length_cons]; omega
     have f5:cut (130::c::d::r) 1 3=some [c,d]:=KD 130 [c,d] r;have f6:Ks (FJ 0 8) (w64 (c.toNat:Int))=(c.toNat:Int):=by
      rw[AF (x:=(c.toNat:Int)) (by omega) (by omega),Hm 0 _ (by omega) (by omega),Int.zero_mul,Int.zero_add,AF (by omega) (by omega)]
     have f6':Ks (FJ (c.toNat:Int) 8) (w64 (d.toNat:Int))=(c.toNat:Int)*256+(d.toNat:Int):=by
      rw[AF (x:=(d.toNat:Int)) (by omega) (by omega),Hm _ _ (by omega) (by omega),AF (by omega) (by omega)]
     have f7:EE Cd [c,d] 0 0=some ((c.toNat:Int)*256+(d.toNat:Int)):=by
      show some (Ks (FJ (Ks (FJ 0 8) (w64 (c.toNat:Int))) 8) (w64 (d.toNat:Int)))=_;rw[f6,f6']
     have f9:decide ((c.toNat:Int)*256+(d.toNat:Int)<256)=true:=by simp only[decide_eq_true_eq]; omega
     rw[e0,Ky,if_neg (by decide),oZ0,f1,if_neg (by decide),Ao,f2,Ao,if_neg (by decide),Ao,f4,if_neg (by decide),f3,f5,oZ0,f7,oZ0,oZ0,f9,if_pos (by simp)]
    ·rw[if_neg h4];exact fst3 c d r (by omega)
  ·rw[if_neg h3];unfold AL;have f1:decide ((b.toNat:Int)<128)=false:=by simp only[decide_eq_false_iff_not]; omega
   have f2:(((b.toNat:Int) !=129)&&((b.toNat:Int) !=130))=true:=by
    rw[Bool.and_eq_true,bne_iff_ne,bne_iff_ne]; omega
   rw[e0,Ky,if_neg (by decide),oZ0,e1,f1,if_neg (by decide),Ao,Ao,f2,if_pos rfl]
theorem idx_off {α:Type}{b d:List α}{at_ k:Nat}{x:α}(h:b.drop at_=d)(hx:d[k]? =some x):idx b ((at_+k:Nat):Int)=some x:=by
 refine Ce ?_;rw[←h,List.getElem?_drop]at hx;exact hx
def Xu (at_:Nat):List UInt8→BA
 | []=>⟨0,0,0,70⟩
 |c::t=>if Gk (c.toNat:Int)=true then(if(TP t).2.2=0 then⟨(c.toNat:Int),(TP t).1,(at_:Int)+1+(TP t).2.1,0⟩else⟨0,0,0,(TP t).2.2⟩)else⟨0,0,0,71⟩
theorem headF_cons (at_:Nat)(c:UInt8)(t:List UInt8):Xu at_ (c::t)=if Gk (c.toNat:Int)=true then(if(TP t).2.2=0 then⟨(c.toNat:Int),(TP t).1,(at_:Int)+1+(TP t).2.1,0⟩else⟨0,0,0,(TP t).2.2⟩)else⟨0,0,0,71⟩:=rfl
theorem w64_u8 (c:UInt8):w64 (c.toNat:Int)=(c.toNat:Int):=by have:=c.toNat_lt; exact AF (by omega) (by omega)
theorem w64_p1 {a:Nat}(h:a≤1000000):w64 ((a:Int)+1)=((a+1:Nat):Int):=by rw[AF (by omega) (by omega)]; omega
theorem w64_p2 {a:Nat}(h:a≤1000000):w64 ((a:Int)+2)=((a+2:Nat):Int):=by rw[AF (by omega) (by omega)]; omega
theorem w64_p3 {a:Nat}(h:a≤1000000):w64 ((a:Int)+3)=((a+3:Nat):Int):=by rw[AF (by omega) (by omega)]; omega
theorem w64_pA {a k:Nat}{e:UInt8}(h:a≤1000000)(he:e.toNat=128+k):w64 (w64 (((a+2:Nat):Int)+(e.toNat:Int))-128)=((a+2+k:Nat):Int):=by
 have:=e.toNat_lt;rw[AF (x:=((a+2:Nat):Int)+(e.toNat:Int)) (by omega) (by omega),AF (by omega) (by omega)];omega
theorem w64_pB (f g:UInt8):w64 (w64 (256*(f.toNat:Int))+(g.toNat:Int))=(f.toNat:Int)*256+(g.toNat:Int):=by
 have:=f.toNat_lt;have:=g.toNat_lt;rw[AF (x:=256*(f.toNat:Int)) (by omega) (by omega),AF (by omega) (by omega)];omega
theorem headF_ok {at_:Nat}{c:UInt8}{t:List UInt8}{n long:Int}(hk:Gk (c.toNat:Int)=true)(h:TP t=(n,long,0)):Xu at_ (c::t)=⟨(c.toNat:Int),n,(at_:Int)+1+long,0⟩:=by
 rw[headF_cons,if_pos hk,h]; rfl
theorem headF_err {at_:Nat}{c:UInt8}{t:List UInt8}{e:Int}(hk:Gk (c.toNat:Int)=true)(h:TP t=(0,0,e))(he:e≠0):Xu at_ (c::t)=⟨0,0,0,e⟩:=by
 rw[headF_cons,if_pos hk,h,if_neg he]
theorem head_eq {b:List UInt8}(hb:b.length≤1000000)(at_:Nat)(hat:at_≤b.length):Gg b (at_:Int)=some (Xu at_ (b.drop at_)):=by
 have hlen:(b.drop at_).length=b.length-at_:=List.length_drop;unfold Gg;generalize hd:b.drop at_=d at hlen;match d with
 | []=>
  rw[List.length_nil]at hlen;rw[decide_eq_true (show(at_:Int)≥(b.length:Int)from by omega),if_pos rfl];rfl
 |c::t=>
  rw[List.length_cons]at hlen;have hc:=c.toNat_lt;have ha:at_≤1000000:=Nat.le_trans hat hb;have i0:idx b (at_:Int)=some c:=idx_off (k:=0) hd rfl;have ek:((((((c.toNat:Int) !=1)&&((c.toNat:Int) !=2))&&((c.toNat:Int) !=4))&&((c.toNat:Int) !=12))&&((c.toNat:Int) !=48))= !Gk (c.toNat:Int):=by
   unfold Gk bne;cases ((c.toNat:Int)==1)<;>cases ((c.toNat:Int)==2)<;>cases ((c.toNat:Int)==4)<;>cases ((c.toNat:Int)==12)<;>cases ((c.toNat:Int)==48)<;>rfl
  rw[decide_eq_false (show¬(at_:Int)≥(b.length:Int)from by omega),if_neg (by decide),i0,oZ0,w64_u8,ek];cases hk:Gk (c.toNat:Int)with
  |false=>
   rw[show(!false)=true from rfl,if_pos rfl,headF_cons,hk,if_neg (by decide)]
  |true=>
   rw[show(!true)=false from rfl,if_neg (by decide),w64_p1 ha,w64_p2 ha,w64_p3 ha];match t with
   | []=>
    rw[List.length_nil]at hlen;rw[decide_eq_true (show((at_+1:Nat):Int)≥(b.length:Int)from by omega),if_pos rfl,headF_err hk (e:=70) rfl (by decide)]
   |e::t=>
    rw[List.length_cons]at hlen;have he:=e.toNat_lt;have i1:idx b ((at_+1:Nat):Int)=some e:=idx_off (k:=1) hd rfl;rw[decide_eq_false (show¬((at_+1:Nat):Int)≥(b.length:Int)from by omega),if_neg (by decide),i1,oZ0,w64_u8];by_cases h1:e.toNat<128
    ·rw[decide_eq_true (show(e.toNat:Int)<128 from by omega),if_pos rfl,headF_ok hk (n:=(e.toNat:Int)) (long:=1) (by rw[lenF_cons,if_pos h1])];rw[show((at_+2:Nat):Int)=(at_:Int)+1+1 from by omega]
    rw[decide_eq_false (show¬(e.toNat:Int)<128 from by omega),if_neg (by decide)];by_cases h2:e.toNat=129
    ·have eb:(((e.toNat:Int) !=129)&&((e.toNat:Int) !=130))=false:=by rw[h2]; rfl
     have e29:((e.toNat:Int)==129)=true:=by rw[h2]; rfl
     have e30:((e.toNat:Int)==130)=false:=by rw[h2]; rfl
     rw[eb,if_neg (by decide),w64_pA (k:=1) ha h2,e29,e30];match t with
     | []=>
      rw[List.length_nil]at hlen;rw[decide_eq_true (show((at_+3:Nat):Int)>(b.length:Int)from by omega),if_pos rfl,headF_err hk (e:=70) (by rw[lenF_cons,if_neg h1,if_pos h2]) (by decide)]
     |f::t=>
      rw[List.length_cons]at hlen;have hf:=f.toNat_lt;have i2:idx b ((at_+2:Nat):Int)=some f:=idx_off (k:=2) hd rfl;rw[decide_eq_false (show¬((at_+3:Nat):Int)>(b.length:Int)from by omega),if_neg (by decide),i2,oZ0,if_neg (by decide),oZ0,w64_u8];by_cases h3:f.toNat<128
      ·rw[decide_eq_true (show(f.toNat:Int)<128 from by omega),headF_err hk (e:=71) (by rw[lenF_cons,if_neg h1,if_pos h2]; exact if_pos h3) (by decide),if_pos (by simp)]
      ·rw[decide_eq_false (show¬(f.toNat:Int)<128 from by omega),headF_ok hk (n:=(f.toNat:Int)) (long:=2) (by rw[lenF_cons,if_neg h1,if_pos h2]; exact if_neg h3),if_neg (by simp)];rw[show((at_+3:Nat):Int)=(at_:Int)+1+2 from by omega]
    by_cases h3:e.toNat=130
    ·have eb:(((e.toNat:Int) !=129)&&((e.toNat:Int) !=130))=false:=by rw[h3]; rfl
     have e29:((e.toNat:Int)==129)=false:=by rw[h3]; rfl
     have e30:((e.toNat:Int)==130)=true:=by rw[h3]; rfl
     rw[eb,if_neg (by decide),w64_pA (k:=2) ha h3,e29,e30];match t with
     | []=>
      rw[List.length_nil]at hlen;rw[decide_eq_true (show((at_+4:Nat):Int)>(b.length:Int)from by omega),if_pos rfl,headF_err hk (e:=70) (by rw[lenF_cons,if_neg h1,if_neg h2,if_pos h3]) (by decide)]
     | [f]=>
      rw[List.length_cons,List.length_nil]at hlen;rw[decide_eq_true (show((at_+4:Nat):Int)>(b.length:Int)from by omega),if_pos rfl,headF_err hk (e:=70) (by rw[lenF_cons,if_neg h1,if_neg h2,if_pos h3]) (by decide)]
     |f::g::t=>
      rw[List.length_cons,List.length_cons]at hlen;have hf:=f.toNat_lt;have hg:=g.toNat_lt;have i2:idx b ((at_+2:Nat):Int)=some f:=idx_off (k:=2) hd rfl;have i3:idx b ((at_+3:Nat):Int)=some g:=idx_off (k:=3) hd rfl;rw[decide_eq_false (show¬((at_+4:Nat):Int)>(b.length:Int)from by omega),if_neg (by decide),i2,oZ0,if_pos rfl,i3,oZ0,Ao,oZ0,w64_u8,w64_u8,w64_pB];by_cases h4:f.toNat=0
      ·rw[decide_eq_true (show(f.toNat:Int)*256+(g.toNat:Int)<256 from by omega),headF_err hk (e:=71) (by rw[lenF_cons,if_neg h1,if_neg h2,if_pos h3]; exact if_pos h4) (by decide),if_pos (by simp)]
      ·rw[decide_eq_false (show¬(f.toNat:Int)*256+(g.toNat:Int)<256 from by omega),headF_ok hk (n:=(f.toNat:Int)*256+(g.toNat:Int)) (long:=3) (by rw[lenF_cons,if_neg h1,if_neg h2,if_pos h3]; exact if_neg h4),if_neg (by simp)];rw[show((at_+4:Nat):Int)=(at_:Int)+1+3 from by omega]
    ·have eb:(((e.toNat:Int) !=129)&&((e.toNat:Int) !=130))=true:=by
      rw[Bool.and_eq_true,bne_iff_ne,bne_iff_ne]; omega
     rw[eb,if_pos rfl,headF_err hk (e:=71) (by rw[lenF_cons,if_neg h1,if_neg h2,if_neg h3]) (by decide)]
end Go.Proofs.YtlnbckkkapbdmaaGreatDoor
end
section
namespace Go.Proofs.YtlnbckkkapbdmaaGreatDoor
open Go Go.Gw Go.Ax
abbrev zI:g_api_Item:=⟨0,[],[]⟩
def I5 (b:List UInt8)(q:g_api_Item×List UInt8×Int):g_api_Item×Int×Int:=if q.2.2=0 then(q.1,((b.length-q.2.1.length:Nat):Int),0)else(zI,0,q.2.2)
theorem outR_ok {b r:List UInt8}{x:g_api_Item}:I5 b (x,r,0)=(x,((b.length-r.length:Nat):Int),0):=rfl
theorem outR_err {b r:List UInt8}{x:g_api_Item}{e:Int}(h:e≠0):I5 b (x,r,e)=(zI,0,e):=if_neg h
theorem w64_m1 {d:Nat}(h:d≤1000):w64 (((d+1:Nat):Int)-1)=(d:Int):=by rw[AF (by omega) (by omega)]; omega
theorem w64_add3 {a k n:Nat}(h1:a≤1000000)(h2:k≤10)(h3:n≤100000):w64 ((a:Int)+1+(k:Int)+(n:Int))=((a+1+k+n:Nat):Int):=by
 rw[AF (by omega) (by omega)]; omega
theorem w64_q1 {l z:Nat}(h1:l≤10)(h2:z≤100000):w64 (w64 (1+(l:Int))+(z:Int))=1+(l:Int)+(z:Int):=by
 rw[AF (x:=1+(l:Int)) (by omega) (by omega),AF (by omega) (by omega)]
theorem w64_q2 {i l z:Nat}(h1:l≤10)(h2:z≤100000)(h3:i≤1000000):w64 (w64 ((i:Int)+1+(l:Int)-(i:Int))+(z:Int))=1+(l:Int)+(z:Int):=by
 rw[AF (x:=(i:Int)+1+(l:Int)-(i:Int)) (by omega) (by omega),AF (by omega) (by omega)];omega
theorem w64_q3 {l:Nat}(h1:l≤10):w64 (1+(l:Int))=1+(l:Int):=AF (by omega) (by omega)
theorem w64_q4 {b i l r:Nat}(h:b=i+1+l+r)(hb:b≤1000000):w64 ((b:Int)-((i:Int)+1+(l:Int)))=(r:Int):=by
 rw[AF (by omega) (by omega)];omega
theorem suffix {b p r:List UInt8}{i:Nat}(h:b.drop i=p++r)(hi:i≤b.length):r.length≤b.length∧b.drop (b.length-r.length)=r∧i+p.length=b.length-r.length:=by
 have hl:b.length-i=p.length+r.length:=by rw[←List.length_drop,h,List.length_append]
 have e:i+p.length=b.length-r.length:=by omega
 refine⟨by omega,?_,e⟩;rw[←e,←List.drop_drop,h,List.drop_left]
theorem loops (rF:List UInt8→Int→Option (g_api_Item×List UInt8×Int))(rG:List UInt8→Int→Int→Option (g_api_Item×Int×Int))(D:Nat)(hD:D≤100)(r0 b:List UInt8)(hd:BA)(en:Nat)(hb:b.length≤1000000)(hen:en≤b.length)(hw:w64 (hd.At+hd.Len)=(en:Int))
  (hF: ∀d:List UInt8,d.length≤1000000→∃q,rF d (D:Int)=some q∧GotI D d q)
  (hG: ∀(c:List UInt8) (i:Nat) (q:g_api_Item×List UInt8×Int),1≤D→c.length≤1000000→i≤c.length→rF (c.drop i) (D:Int)=some q→rG c (i:Int) (D:Int)=some (I5 c q)):
  ∀(m i:Nat) (acc:List g_api_Item) (f1 f2:Nat) (t:(List UInt8×List g_api_Item)⊕(g_api_Item×List UInt8×Int)),en-i≤m→i≤en→m<f2→acc.length+m≤1000000→iter (BR rF ((D+1:Nat):Int)) f1 (r0,(b.take en).drop i,acc)=some t→
    iter (A7 rG b ((D+1:Nat):Int) hd) f2 ((i:Int),acc)=some (match t with| .inl l=> .inl l.2| .inr _=> .inr (zI,0,71))
 |m,i,acc,0,f2,t,_,_,_,_,h=>by cases h
 |m,i,acc,f1+1,0,t,_,_,h,_,_=>by omega
 |m,i,acc,f1+1,f2+1,t,hm,hi,hf2,hacc,h=>by
  have hlen:((b.take en).drop i).length=en-i:=by rw[List.length_drop,List.length_take]; omega
  show Ab (A7 rG b ((D+1:Nat):Int) hd ((i:Int),acc)) _=_;obtain⟨y,hy,hq⟩:=AO h;unfold BR at hy;by_cases hlt:i<en;rotate_left
  ·
    have e0:decide ((((b.take en).drop i).length:Int)>0)=false:=by rw[decide_eq_false_iff_not,hlen]; omega
    have hy:(if decide ((((b.take en).drop i).length:Int)>0)=true then _ else some (.inr (.inl (r0,acc))))=some y:=hy;rw[e0,if_neg (by decide)]at hy;have hy:=sI0 hy;subst hy;have es:A7 rG b ((D+1:Nat):Int) hd ((i:Int),acc)=some (.inr (.inl acc)):=by
     unfold A7;show(if decide ((i:Int)<w64 (hd.At+hd.Len))=true then _ else _)=_;rw[hw,decide_eq_false (by omega),if_neg (by decide)]
    rw[es];rcases hq with ⟨s',e',_⟩|e'
    ·cases e'
    ·have e':=Sum.inr.inj e';subst e';rfl
  have e0:decide ((((b.take en).drop i).length:Int)>0)=true:=by rw[decide_eq_true_eq,hlen]; omega
  have hy:(if decide ((((b.take en).drop i).length:Int)>0)=true then Ab (rF ((b.take en).drop i) (w64 (((D+1:Nat):Int)-1))) _ else _)=some y:=hy;rw[e0,if_pos rfl,w64_m1 (by omega)]at hy;obtain⟨⟨x,r,e⟩,q1,q2⟩:=hF ((b.take en).drop i) (by rw[hlen]; omega);rw[q1,oZ0]at hy;by_cases hD0:D=0
  ·
    have he:e≠0:=by
     intro q;have:=(q2 q).1;rw[hD0]at this;cases this
    rw[if_pos (by simpa using he)]at hy;have hy:=sI0 hy;subst hy;have es:A7 rG b ((D+1:Nat):Int) hd ((i:Int),acc)=some (.inr (.inr (zI,0,71))):=by
     unfold A7;show(if decide ((i:Int)<w64 (hd.At+hd.Len))=true then _ else _)=_;rw[hw,decide_eq_true (by omega),if_pos rfl,decide_eq_true (by omega),if_pos rfl]
    rw[es];rcases hq with ⟨s',e',_⟩|e'
    ·cases e'
    ·have e':=Sum.inr.inj e';subst e';rfl
  have hcut:cut b 0 (en:Int)=some (b.take en):=(cut_all b en hen).1;have hg:=hG (b.take en) i (x,r,e) (by omega) (by rw[List.length_take]; omega) (by rw[List.length_take]; omega) q1;by_cases he:e=0;rotate_left
  · rw[if_pos (by simpa using he)]at hy;have hy:=sI0 hy;subst hy;rw[outR_err he]at hg;have es:A7 rG b ((D+1:Nat):Int) hd ((i:Int),acc)=some (.inr (.inr (zI,0,71))):=by
     unfold A7;show(if decide ((i:Int)<w64 (hd.At+hd.Len))=true then _ else _)=_;rw[hw,decide_eq_true (by omega),if_pos rfl,decide_eq_false (by omega),if_neg (by decide),hcut,oZ0,w64_m1 (by omega)];show Ab (rG (b.take en) (i:Int) (D:Int)) _=_;rw[hg,oZ0,if_pos (by simpa using he)]
    rw[es];rcases hq with ⟨s',e',_⟩|e'
    ·cases e'
    ·have e':=Sum.inr.inj e';subst e';rfl
  subst he;obtain⟨g1,g2⟩:=q2 rfl;have g1:mayB D x=true:=g1;have g2:(b.take en).drop i=putB D x++r:=g2;have hp:=Rw g1;have hlt2:(b.take en).length=en:=by rw[List.length_take]; omega
  obtain⟨s1,s2,s3⟩:=suffix g2 (by rw[hlt2]; exact hi);rw[hlt2]at s1 s2 s3;rw[outR_ok,hlt2]at hg;have ea:app 56 acc [x]=some (acc++[x]):=Fa 56 (by show(acc.length+1)*56≤_; omega) (by show acc.length+1≤_; omega);rw[if_neg (by simp)]at hy;have hy:Ab (app 56 acc [x]) _=some y:=hy;rw[ea,oZ0]at hy;have hy:=sI0 hy;subst hy;have es:A7 rG b ((D+1:Nat):Int) hd ((i:Int),acc)=some (.inl (((en-r.length:Nat):Int),acc++[x])):=by
    unfold A7;show(if decide ((i:Int)<w64 (hd.At+hd.Len))=true then _ else _)=_;rw[hw,decide_eq_true (by omega),if_pos rfl,decide_eq_false (by omega),if_neg (by decide),hcut,oZ0,w64_m1 (by omega)];show Ab (rG (b.take en) (i:Int) (D:Int)) _=_;rw[hg,oZ0,if_neg (by simp)];show Ab (app 56 acc [x]) _=_;rw[ea,oZ0]
  rw[es];rcases hq with ⟨s',e',h'⟩|e'
  · have e':=Sum.inl.inj e';subst e';have h':iter (BR rF ((D+1:Nat):Int)) f1 (r0,r,acc++[x])=some t:=h';rw[←s2]at h';have:=loops rF rG D hD r0 b hd en hb hen hw hF hG (m-1) (en-r.length) (acc++[x]) f1 f2 t (by omega) (by omega) (by omega) (by rw[List.length_append]; show acc.length+1+_≤_; omega) h';exact this
  · cases e'
theorem drop_tail {b t:List UInt8}{c:UInt8}{i k:Nat}(h:b.drop i=c::t):b.drop (i+1+k)=t.drop k:=by
 rw[←List.drop_drop,←List.drop_drop,h]; rfl
theorem read_of (D:Nat): ∀(n m:Nat) (b:List UInt8) (i:Nat) (q:g_api_Item×List UInt8×Int),1≤D→D≤100→D<n→D<m→b.length≤1000000→i≤b.length→CG m (b.drop i) (D:Int)=some q→Di n b (i:Int) (D:Int)=some (I5 b q):=by
 induction D with
 |zero=>intro n m b i q h; omega
 |succ D IH=>
  intro n m b i q _ hD hn hm hb hi h;obtain⟨n,rfl⟩: ∃k,n=k+1:=⟨n-1,by omega⟩;obtain⟨m,rfl⟩: ∃k,m=k+1:=⟨m-1,by omega⟩;have hF: ∀d:List UInt8,d.length≤1000000→∃q,CG m d (D:Int)=some q∧GotI D d q:=fun d hd=>got_eq D m d (by omega) (by omega) hd;have hG: ∀(c:List UInt8) (i:Nat) (q:g_api_Item×List UInt8×Int),1≤D→c.length≤1000000→i≤c.length→CG m (c.drop i) (D:Int)=some q→Di n c (i:Int) (D:Int)=some (I5 c q):=
   fun c i q h1 h2 h3 h4=>IH n m c i q h1 (by omega) (by omega) (by omega) h2 h3 h4
  have hlen:(b.drop i).length=b.length-i:=List.length_drop;show Ez (Di n) b (i:Int) ((D+1:Nat):Int)=_;unfold Ez;rw[head_eq hb i hi,oZ0];have h:Du (CG m) (b.drop i) ((D+1:Nat):Int)=some q:=h;unfold Du at h;generalize hd:b.drop i=d at h hlen;cases d with
  |nil=>
   rw[if_pos (by rfl)]at h;have h:=sI0 h;subst h;rfl
  |cons c t=>
   rw[List.length_cons]at hlen;have e0:(((c::t).length:Int)==0)=false:=by simp only[beq_eq_false_iff_ne,List.length_cons]; omega
   have eD:decide (((D+1:Nat):Int)<1)=false:=by rw[decide_eq_false_iff_not]; omega
   rw[e0,if_neg (by decide),Ky,oZ0,w64_u8,eD]at h;cases hk:Gk (c.toNat:Int)with
   |false=>
    rw[(E5 hk).1,oZ0,if_pos (by simp)]at h;have h:=sI0 h;subst h;rw[headF_cons,hk];rfl
   |true=>
    obtain⟨kd,e,ht,hmk⟩:=HI hk;rw[e,oZ0,if_neg (by simp),J7,oZ0,lenF_eq t (by omega),oZ0]at h;obtain⟨ln,long,le,hl,hl0⟩:=len_some t (by omega);have hlf:TP t=(ln,long,le):=by
     have:=lenF_eq t (by omega);rw[hl]at this;exact(sI0 this).symm
    rw[hlf]at h;by_cases hle:le=0;rotate_left
    ·rw[if_pos (by simpa using hle)]at h;have h:=sI0 h;subst h;rw[headF_cons,hk,if_pos rfl,hlf,if_neg hle];show(if(le !=0)=true then _ else _)=_;rw[if_pos (by simpa using hle),outR_err hle]
    subst hle;rw[headF_ok hk hlf];obtain⟨z,r,hz,ht2,rfl,rfl⟩:=hl0 rfl;have hll:=JY z;have htl:t.length=(FG z).length+r.length:=by rw[ht2,List.length_append]
    have e6:cut (c::t) (w64 (1+((FG z).length:Int))) ((c::t).length:Int)=some r:=by
     have:=RT (c::FG z) r;rw[w64_q3 (by omega)];rw[show((c::FG z).length:Int)=1+((FG z).length:Int)from by rw[List.length_cons]; omega]at this;rw[ht2];exact this
    have hrd:b.drop (i+1+(FG z).length)=r:=by rw[drop_tail hd,ht2,List.drop_left]
    clear hl hl0 hlf ht2;generalize (FG z).length=L at*;rw[if_neg (by simp)]at h;have h:(if decide (w64 (w64 (1+(L:Int))+(z:Int))>8192)=true then _ else _)=some q:=h;rw[w64_q1 (by omega) (by omega)]at h;show(if((0:Int) !=0)=true then _ else _)=_;rw[if_neg (by decide)];show(if decide (w64 (w64 ((i:Int)+1+(L:Int)-(i:Int))+(z:Int))>8192)=true then _ else _)=_;rw[w64_q2 (by omega) (by omega) (by omega)];by_cases h8:1+(L:Int)+(z:Int)>8192
    ·rw[decide_eq_true h8,if_pos rfl]at h⊢;have h:=sI0 h;subst h;rfl
    rw[decide_eq_false h8,if_neg (by decide)]at h⊢;have h:Ab (cut (c::t) (w64 (1+(L:Int))) ((c::t).length:Int)) _=some q:=h;rw[e6,oZ0]at h;clear e6;show(if decide ((z:Int)>w64 ((b.length:Int)-((i:Int)+1+(L:Int))))=true then _ else _)=_;rw[w64_q4 (r:=r.length) (by omega) hb];by_cases hzr:z≤r.length;rotate_left
    ·rw[if_pos (by rw[decide_eq_true_eq]; show(z:Int)>_; omega)]at h;have h:=sI0 h;subst h;rw[decide_eq_true (by omega),if_pos rfl];rfl
    rw[if_neg (by rw[decide_eq_true_eq]; show¬(z:Int)>_; omega)]at h;rw[decide_eq_false (by omega),if_neg (by decide)];obtain⟨k1,k2⟩:=cut_all r z hzr;have h:Ab (cut r 0 (z:Int)) _=some q:=h;rw[k1,oZ0]at h;have h:Ab (cut r (z:Int) (r.length:Int)) _=some q:=h;rw[k2,oZ0]at h;have o1:i≤1000000:=by omega
    have o2:L≤10:=by omega
    have o3:z≤100000:=by omega
    have o4:((i+1+L:Nat):Int)+(z:Int)=(i:Int)+1+(L:Int)+(z:Int):=by omega
    have o5:(i:Int)+1+(L:Int)=((i+1+L:Nat):Int):=by omega
    have hend:b.length-(r.drop z).length=i+1+L+z:=by rw[List.length_drop]; omega
    show(if((c.toNat:Int) !=48)=true then _ else _)=_;have h:(if(kd.tag_ !=48)=true then _ else _)=some q:=h;rw[ht]at h;by_cases h48:(c.toNat:Int)=48
    ·rw[if_neg (by simp[h48])]at h;rw[if_neg (by simp[h48])];obtain⟨tt,t1,t2⟩:=oY0 h;have hin:(b.take (i+1+L+z)).drop (i+1+L)=r.take z:=by
      rw[←List.take_drop,hrd]
     rw[←hin]at t1;have hlo:=loops (CG m) (Di n) D (by omega) (r.drop z) b ⟨(c.toNat:Int),(z:Int),(i:Int)+1+(L:Int),0⟩ (i+1+L+z) hb (by omega) (w64_add3 o1 o2 o3) hF hG z (i+1+L) [] Bv Bv tt (by omega) (by omega) (by have:=AJ; omega) (by simp only[List.length_nil]; omega) t1;show Ab (iter (A7 (Di n) b ((D+1:Nat):Int) ⟨(c.toNat:Int),(z:Int),(i:Int)+1+(L:Int),0⟩) Bv ((i:Int)+1+(L:Int),([]:List g_api_Item))) _=_;rw[o5]at hlo⊢;rw[hlo,oZ0];cases tt with
     |inr v=>
      have h2:=sI0 t2;obtain⟨tt',u1,u2⟩:=got_loop (CG m) D (by omega) (r.drop z) hF z (r.take z) [] Bv (by rw[List.length_take]; omega) (by have:=AJ; omega) (by omega) (by simp only[List.length_nil]; omega);rw[←hin,t1]at u1;have u1:=sI0 u1;rcases u2 with u2|⟨l,u2,_⟩
      ·rw[←u1]at u2;have u2:=Sum.inr.inj u2;rw[←h2,u2];rfl
      ·rw[←u1]at u2; cases u2
     |inl v=>
      have h2:=sI0 t2;obtain⟨tt',u1,u2⟩:=got_loop (CG m) D (by omega) (r.drop z) hF z (r.take z) [] Bv (by rw[List.length_take]; omega) (by have:=AJ; omega) (by omega) (by simp only[List.length_nil]; omega);rw[←hin,t1]at u1;have u1:=sI0 u1;rcases u2 with u2|⟨l,u2,_⟩
      ·rw[←u1]at u2; cases u2
      ·rw[←u1]at u2;have u2:=Sum.inl.inj u2;rw[←h2,u2];show some (_,w64 (((i+1+L:Nat):Int)+(z:Int)),0)=_;rw[o4,w64_add3 o1 o2 o3];show _=some (I5 b (_,r.drop z,0));rw[outR_ok,hend]
    ·rw[if_pos (by simpa using h48),hmk,oZ0]at h;rw[if_pos (by simpa using h48)];have hcut:cut b ((i:Int)+1+(L:Int)) (w64 ((i:Int)+1+(L:Int)+(z:Int)))=some (r.take z):=by
      rw[w64_add3 o1 o2 o3];unfold cut;rw[if_pos ⟨by omega,by omega,by omega⟩];rw[show((i:Int)+1+(L:Int)).toNat=i+1+L from by omega,hrd,Int.toNat_natCast,show i+1+L+z-(i+1+L)=z from by omega]
     show Ab (cut b ((i:Int)+1+(L:Int)) (w64 ((i:Int)+1+(L:Int)+(z:Int)))) _=_;have hzt:(r.take z).length=z:=by rw[List.length_take]; omega
     rw[hcut,oZ0,Hs 1 (by omega) (by omega),oZ0];have hform:D5 (⟨(c.toNat:Int),r.take z,[]⟩:g_api_Item)=some (Lc (c.toNat:Int) (r.take z)):=by
      have hf:=form07_eq 1 Bv ⟨(c.toNat:Int),r.take z,[]⟩ (by have:=AJ; omega) (fun y hy=>by cases hy) ⟨by show(r.take z).length≤_; omega,by simp,fun y hy=>by cases hy⟩;have hf:D5 (⟨(c.toNat:Int),r.take z,[]⟩:g_api_Item)=some ((Lc (c.toNat:Int) (r.take z)&&((c.toNat:Int)==48||true))&&true):=hf;rw[hf,Bool.or_true,Bool.and_true,Bool.and_true]
     show Ab (D5 (⟨(c.toNat:Int),r.take z,[]⟩:g_api_Item)) _=_;rw[hform,oZ0];cases hkb:Lc (c.toNat:Int) (r.take z)with
     |false=>
      rw[hkb,if_pos (by simp)]at h;have h:=sI0 h;subst h;rfl
     |true=>
      rw[hkb,if_neg (by simp),Ly (by omega),oZ0]at h;have h:=sI0 h;subst h;show some (_,w64 ((i:Int)+1+(L:Int)+(z:Int)),0)=some (I5 b (_,r.drop z,0));rw[w64_add3 o1 o2 o3,outR_ok,hend]
theorem Get07_eq {b:List UInt8}(hb:b.length≤3000): ∃(x:g_api_Item) (n e:Int),Eb b 0=some (x,n,e)∧EL b 0=some (if e=0 then x else zI,if e=0 then n else 0,e):=by
 obtain⟨⟨x,r,e⟩,h1,h2⟩:=got_eq 8 Bv b (by decide) (by have:=AJ; omega) (by omega);have h3:=read_of 8 Bv Bv b 0 (x,r,e) (by decide) (by decide) (by have:=AJ; omega) (by have:=AJ; omega) (by omega) (by omega) h1;have h3:ID b 0 8=some (I5 b (x,r,e)):=h3;have h1:JX b 8=some (x,r,e):=h1;have e0:(decide ((0:Int)<0)||decide ((0:Int)>(b.length:Int)))=false:=by
  have: ¬(0:Int)>(b.length:Int):=by omega
  rw[decide_eq_false this]; rfl
 have e1:cut b 0 (b.length:Int)=some b:=by
  have:=RS b [];rw[List.append_nil]at this;exact this
 unfold Eb EL;rw[e0,if_neg (by decide),if_neg (by decide),e1,oZ0,h1,oZ0,h3,oZ0];by_cases he:e=0
 ·subst he;obtain⟨g1,g2⟩:=h2 rfl;have g2:b=putB 8 x++r:=g2;have hl:b.length=(putB 8 x).length+r.length:=by rw[g2,List.length_append]
  rw[if_neg (by simp),Ao,outR_ok];refine⟨x,w64 ((b.length:Int)-(r.length:Int)),0,rfl,?_⟩;rw[if_pos rfl,if_pos rfl,AF (by omega) (by omega)];show some (x,((b.length-r.length:Nat):Int),0)=_;rw[show((b.length-r.length:Nat):Int)=(b.length:Int)-(r.length:Int)from by omega]
 ·rw[if_pos (by simpa using he),outR_err he];refine⟨_,_,e,rfl,?_⟩;rw[if_neg he,if_neg he]
end Go.Proofs.YtlnbckkkapbdmaaGreatDoor
end
section
namespace Go.Proofs.YtlnbckkkapbdmaaGreatDoor
open Go Go.Gw Go.Ax
end Go.Proofs.YtlnbckkkapbdmaaGreatDoor
end
section
namespace Go.Proofs.YtlnbckkkapbdmaaGreatDoor
open Go Go.Gw Go.Ax
end Go.Proofs.YtlnbckkkapbdmaaGreatDoor
end
section
namespace Go.Proofs.YtlnbckkkapbdmaaGreatDoor
open Go Go.Gw Go.Ax
theorem eqSig_iff {p q:g_api_Sig}:E6 p q=true↔p=q:=by
 cases p; cases q;unfold E6;simp
theorem eqProm_iff {p q:g_api_Promise}:CE p q=true↔p=q:=by
 obtain⟨a,b,⟨c,d⟩,e⟩:=p;obtain⟨a',b',⟨c',d'⟩,e'⟩:=q;unfold CE KB;simp[eqSig_iff]
end Go.Proofs.YtlnbckkkapbdmaaGreatDoor
end
section
namespace Go.Proofs.YtlnbckkkapbdmaaGreatDoor
open Go Go.Gw Go.Ax
theorem fits_of {c:Ac}(h:FewP c)(F:Form c):Fits c:=by
 have n:=F.nums;have h1:=n.serial; have h2:=n.frm; have h3:=n.til; have h4:=n.depth;refine⟨h,by omega,by omega,by omega,by omega,fun p hp=> ?_⟩;obtain⟨q1,q2,_⟩:=Vk (n.proms p hp);omega
theorem dep_atom {x:g_api_Item}(h:x.L=[])(d:Nat):Li (d+1) x:=by
 intro y hy;rw[h]at hy;cases hy
theorem dep_seq {d:Nat}{l:List g_api_Item}(h: ∀y∈l,Li d y):Li (d+1) (Nm l):=h
theorem sm_atom {x:g_api_Item}(h:x.L=[])(hb:x.B.length≤1000000)(d:Nat):DM d x:=by
 cases d with
 |zero=>trivial
 |succ d=>
  refine⟨hb,by rw[h]; simp,fun y hy=> ?_⟩;rw[h]at hy;cases hy
theorem sm_seq {d:Nat}{l:List g_api_Item}(hl:l.length≤1000000)(h: ∀y∈l,DM d y):DM (d+1) (Nm l):=⟨by show(0:Nat)≤_; omega,hl,h⟩
theorem sm_int (n:Int)(d:Nat):DM d (J2 n):=sm_atom rfl (by have:=Ls (be8 n); have h8:(be8 n).length=8:=rfl; show(P3 (be8 n)).length≤_; omega) d
theorem sm_text {s:ByteArray}(h:s.size≤1000000)(d:Nat):DM d (Et s):=sm_atom rfl (by show s.data.toList.length≤_; rw[AK]; exact h) d
theorem sm_bool (v:Bool)(d:Nat):DM d (MR v):=sm_atom rfl (by show(1:Nat)≤_; omega) d
theorem dep_texts (l:List ByteArray)(d:Nat):Li (d+2) (F8 l):=dep_seq fun y hy=>by
 obtain⟨s,_,e⟩:=List.mem_map.1 hy;rw[←e]; exact dep_atom rfl d
theorem sm_texts {l:List ByteArray}(hl:l.length≤100000)(h: ∀s∈l,s.size≤100000)(d:Nat):DM (d+1) (F8 l):=sm_seq (by rw[List.length_map]; omega) fun y hy=>by
 obtain⟨s,hs,e⟩:=List.mem_map.1 hy;rw[←e]; exact sm_text (by have:=h s hs; omega) d
theorem dep_pre (c:Ac)(d:Nat):Li (d+3) (SJ c):=dep_seq fun y hy=>by
 simp only[List.mem_cons,List.not_mem_nil,or_false]at hy;rcases hy with q|q|q|q|q|q|q|q|q|q<;>rw[q]
 ·exact dep_atom rfl _
 ·exact dep_atom rfl _
 ·exact dep_atom rfl _
 ·exact dep_atom rfl _
 ·exact dep_texts _ _
 ·exact dep_atom rfl _
 ·exact dep_atom rfl _
 ·exact dep_atom rfl _
 ·exact dep_atom rfl _
 ·exact dep_texts _ _
theorem sm_pre {c:Ac}(h:FewP c)(d:Nat):DM (d+2) (SJ c):=sm_seq (by simp) fun y hy=>by
 have h1:=h.issuer; have h2:=h.subject; have h3:=h.nnames; have h4:=h.npermit;simp only[List.mem_cons,List.not_mem_nil,or_false]at hy;rcases hy with q|q|q|q|q|q|q|q|q|q<;>rw[q]
 ·exact sm_int _ _
 ·exact sm_text (by omega) _
 ·exact sm_text (by omega) _
 ·exact sm_int _ _
 ·exact sm_texts (by omega) (fun s hs=>by have:=h.names s hs; omega) _
 ·exact sm_int _ _
 ·exact sm_int _ _
 ·exact sm_bool _ _
 ·exact sm_int _ _
 ·exact sm_texts (by omega) (fun s hs=>by have:=h.permit s hs; omega) _
theorem dep_prom (p:g_api_Promise)(d:Nat):Li (d+2) (HU p):=dep_seq fun y hy=>by
 simp only[List.mem_cons,List.not_mem_nil,or_false]at hy;rcases hy with q|q|q|q|q|q<;>rw[q]<;>exact dep_atom rfl _
theorem sm_prom (p:g_api_Promise)(d:Nat):DM (d+1) (HU p):=sm_seq (by simp) fun y hy=>by
 simp only[List.mem_cons,List.not_mem_nil,or_false]at hy;rcases hy with q|q|q|q|q|q<;>rw[q]<;>exact sm_int _ _
theorem dep_body (c:Ac)(d:Nat):Li (d+4) (Kc c):=dep_seq (Xb (dep_pre c d) (dep_seq fun y hy=>by
 obtain⟨p,_,e⟩:=List.mem_map.1 hy;rw[←e]; exact dep_prom p d))
theorem sm_body {c:Ac}(h:FewP c)(d:Nat):DM (d+3) (Kc c):=sm_seq (by simp) (Xb (sm_pre h d) (sm_seq (by rw[List.length_map]; have:=h.nproms; omega) fun y hy=>by
 obtain⟨p,_,e⟩:=List.mem_map.1 hy;rw[←e]; exact sm_prom p d))
theorem dep_sig (a b:UInt64)(d:Nat):Li (d+2) (Nm [I7 a,I7 b]):=dep_seq (Xb (dep_atom rfl d) (dep_atom rfl d))
theorem sm_sig (a b:UInt64)(d:Nat):DM (d+1) (Nm [I7 a,I7 b]):=sm_seq (by simp) (Xb (sm_int _ d) (sm_int _ d))
theorem dep_whole (c:Ac):Li 8 (wholeI c):=dep_seq (Xb (dep_body c 3) (dep_sig _ _ 5))
theorem sm_whole {c:Ac}(h:FewP c):DM 8 (wholeI c):=sm_seq (by simp) (Xb (sm_body h 4) (sm_sig _ _ 6))
theorem check18_eq {c:Ac}(h:FewP c):Ek c=some (E8 c):=by
 unfold Ek E8;rw[V3 h,oZ0];cases hf:formB c with
 |false=>rfl
 |true=>
  have F:=V2 hf;have hs:=F.sized;have hl:=Nz 8 hs;rw[show(!true)=false from rfl,if_neg (by decide),Tt (fits_of h F),oZ0,Put07_eq (dep_whole c) (sm_whole h) (by omega),Wz (by omega),Wk,if_pos rfl]
theorem same18_loop {a b:Ac}(hab:a.Proms.length=b.Proms.length)(hn:a.Proms.length≤100000): ∀(r q:List g_api_Promise) (i f:Nat),a.Proms.drop i=r→b.Proms.drop i=q→r.length<f→
  ∃z,iter (Bn a b) f (i:Int)=some z∧(z= .inl ()↔r=q)∧(z= .inl ()∨z= .inr false)
 |r,q,i,0,_,_,h=>by omega
 | [],q,i,f+1,h,hq,_=>by
  have hl:a.Proms.length≤i:=List.drop_eq_nil_iff.1 h;have hqn:q=[]:=by rw[←hq]; exact List.drop_eq_nil_of_le (by omega)
  have e:Bn a b (i:Int)=some (.inr (.inl ())):=by
   unfold Bn;rw[decide_eq_false (by omega)];rfl
  refine⟨.inl (),?_,by simp[hqn],.inl rfl⟩;show Ab (Bn a b (i:Int)) _=_;rw[e]; rfl
 |p::r,[],i,f+1,h,hq,_=>by
  obtain⟨hc,hr,hlt⟩:=Dh h;have:=List.drop_eq_nil_iff.1 hq;omega
 |p::r,s::q,i,f+1,h,hq,hf=>by
  obtain⟨hc,hr,hlt⟩:=Dh h;obtain⟨hc2,hq2,hlt2⟩:=Dh hq;obtain⟨z,ih,z1,z2⟩:=same18_loop hab hn r q (i+1) f hr hq2 (by rw[List.length_cons]at hf; omega);have e:Bn a b (i:Int)=some (if CE p s=true then .inl ((i+1:Nat):Int)else .inr (.inr false)):=by
   unfold Bn;rw[decide_eq_true (by omega),if_pos rfl,Ce hc,oZ0,Ce hc2,oZ0,EI (by omega)];cases CE p s<;>rfl
  cases hp:CE p s with
  |false=>
   have ne:p::r≠s::q:=fun x=>by
    have:=eqProm_iff.2 (List.cons.inj x).1;rw[hp]at this; cases this
   refine⟨.inr false,?_,by simp only[reduceCtorEq,false_iff]; exact ne,.inr rfl⟩;show Ab (Bn a b (i:Int)) _=_;rw[e,hp]; rfl
  |true=>
   refine⟨z,?_,?_,z2⟩
   ·show Ab (Bn a b (i:Int)) _=_;rw[e,hp,if_pos rfl];exact ih
   ·rw[z1,eqProm_iff.1 hp];exact⟨fun x=>by rw[x],fun x=>(List.cons.inj x).2⟩
theorem same11_loop {a b:List ByteArray}(hab:a.length=b.length)(hn:a.length≤100000): ∀(r q:List ByteArray) (i f:Nat),a.drop i=r→b.drop i=q→r.length<f→
  iter (Bp a b) f (i:Int)=some (if r=q then .inl ()else .inr false)
 |r,q,i,0,_,_,h=>by omega
 | [],q,i,f+1,h,hq,_=>by
  have hl:a.length≤i:=List.drop_eq_nil_iff.1 h;have hqn:q=[]:=by rw[←hq]; exact List.drop_eq_nil_of_le (by omega)
  have e:Bp a b (i:Int)=some (.inr (.inl ())):=by
   unfold Bp;rw[decide_eq_false (by omega)];rfl
  show Ab (Bp a b (i:Int)) _=_;rw[e,hqn,if_pos rfl]; rfl
 |p::r,[],i,f+1,h,hq,_=>by
  obtain⟨hc,hr,hlt⟩:=Dh h;have:=List.drop_eq_nil_iff.1 hq;omega
 |p::r,s::q,i,f+1,h,hq,hf=>by
  obtain⟨hc,hr,hlt⟩:=Dh h;obtain⟨hc2,hq2,hlt2⟩:=Dh hq;have ih:=same11_loop hab hn r q (i+1) f hr hq2 (by rw[List.length_cons]at hf; omega);have e:Bp a b (i:Int)=some (if eqS p s=true then .inl ((i+1:Nat):Int)else .inr (.inr false)):=by
   unfold Bp;rw[decide_eq_true (by omega),if_pos rfl,Ce hc,oZ0,Ce hc2,oZ0,EI (by omega)];cases eqS p s<;>rfl
  show Ab (Bp a b (i:Int)) _=_;rw[e];cases hp:eqS p s with
  |false=>
   have:p::r≠s::q:=fun x=>by
    have:=Ia.2 (List.cons.inj x).1;rw[hp]at this; cases this
   rw[if_neg this]; rfl
  |true=>
   rw[if_pos rfl];show iter (Bp a b) f ((i+1:Nat):Int)=_;rw[ih,Ia.1 hp];by_cases hrq:r=q
   ·rw[if_pos hrq,if_pos (by rw[hrq])]
   ·rw[if_neg hrq,if_neg (fun x=>hrq (List.cons.inj x).2)]
theorem same11 {a b:List ByteArray}(hn:a.length≤100000): ∃r,D3 a b=some r∧(r=true↔a=b):=by
 unfold D3;by_cases h:a.length=b.length
 ·have e:((a.length:Int) !=(b.length:Int))=false:=by rw[h]; simp
  have hl:=same11_loop h hn a b 0 Bv rfl rfl (by have:=AJ; omega);have hl:iter (Bp a b) Bv 0=some (if a=b then .inl ()else .inr false):=hl;rw[e,if_neg (by decide),hl];by_cases hq:a=b
  ·rw[if_pos hq]; exact⟨true,rfl,by simp[hq]⟩
  ·rw[if_neg hq]; exact⟨false,rfl,by simp[hq]⟩
 ·have e:((a.length:Int) !=(b.length:Int))=true:=by simp; omega
  rw[e,if_pos rfl];exact⟨false,rfl,by simp only[Bool.false_eq_true,false_iff]; exact fun x=>h (by rw[x])⟩
theorem same18_iff {a b:Ac}(ha:a.Proms.length≤100000∧a.Names.length≤100000∧a.Permit.length≤100000): ∃r,Cq a b=some r∧(r=true↔a=b):=by
 obtain⟨r1,e1,h1⟩:=same11 (a:=a.Names) (b:=b.Names) ha.2.1;obtain⟨r2,e2,h2⟩:=same11 (a:=a.Permit) (b:=b.Permit) ha.2.2;have hk:((a.Key.toNat:Int) !=(b.Key.toNat:Int))= !(a.Key==b.Key):=by
  show(!((a.Key.toNat:Int)==(b.Key.toNat:Int)))=_;have:((a.Key.toNat:Int)==(b.Key.toNat:Int))=(a.Key==b.Key):=by
   rw[Bool.eq_iff_iff,beq_iff_eq,beq_iff_eq,←UInt64.toNat_inj];omega
  rw[this]
 unfold Cq;split
 ·rename_i hc;refine⟨false,rfl,?_⟩;simp only[Bool.false_eq_true,false_iff];rintro rfl;simp only[Bool.or_eq_true,bne_self_eq_false,Bool.not_eq_true',Bool.false_eq_true,false_or,or_false,Ia.2 rfl,eqSig_iff.2 rfl,Bool.true_eq_false]at hc
 ·rename_i hc;rw[hk]at hc;simp only[Bool.or_eq_true,not_or,Bool.not_eq_true,bne_eq_false_iff_eq,Bool.not_eq_false',Ia,eqSig_iff,beq_iff_eq]at hc;obtain⟨⟨⟨⟨⟨⟨⟨⟨⟨q1,q2⟩,q3⟩,q4⟩,q5⟩,q6⟩,q7⟩,q8⟩,q9⟩,q10⟩:=hc;have hlen:a.Proms.length=b.Proms.length:=by omega
  obtain⟨z,hl,z1,z2⟩:=same18_loop hlen ha.1 a.Proms b.Proms 0 Bv rfl rfl (by have:=AJ; omega);have hl:iter (Bn a b) Bv 0=some z:=hl;rw[hl,oZ0];rcases z2 with z2|z2
  ·subst z2;have hp:=z1.1 rfl;show∃r,Ab (D3 a.Names b.Names) _=some r∧_;rw[e1,oZ0,e2,Ph,oZ0];refine⟨_,rfl,?_⟩;have:(r1&&(r1&&r2))=true↔(a.Names=b.Names∧a.Permit=b.Permit):=by
    rw[←h1,←h2];cases r1<;>cases r2<;>simp
   rw[this];constructor
   ·rintro⟨n1,n2⟩;cases a; cases b;simp only at*;simp[q1,q2,q3,q4,q5,q6,q7,q8,q9,hp,n1,n2]
   ·rintro rfl;exact⟨rfl,rfl⟩
  ·subst z2;exact⟨false,rfl,by simp only[Bool.false_eq_true,false_iff]; exact fun x=>absurd (z1.2 (by rw[x])) (by simp)⟩
end Go.Proofs.YtlnbckkkapbdmaaGreatDoor
end
section
namespace Go.Proofs.YtlnbckkkapbdmaaGreatDoor
open Go Go.Gw Go.Ax
theorem pd_len {d:Nat}{x:g_api_Item}(h:PD (d+1) x):x.B.length≤100000∧x.L.length≤100000:=by
 have hb:x.B.length≤(putB (d+1) x).length:=by
  show _≤(toB x.Tag::(FG (x.B++x.L.flatMap (putB d)).length++(x.B++x.L.flatMap (putB d)))).length;have q:(x.B++x.L.flatMap (putB d)).length=x.B.length+(x.L.flatMap (putB d)).length:=List.length_append;rw[List.length_cons,List.length_append,q];omega
 have h2:=h.2;exact⟨by omega,(L_few h.1 h.2).1⟩
theorem pd_text {d:Nat}{s:ByteArray}(h:PD (d+1) (Et s)):s.size≤100000:=by
 have:=(pd_len h).1;have e:(Et s).B.length=s.size:=AK s;omega
theorem pd_texts {d:Nat}{l:List ByteArray}(h:PD (d+2) (F8 l)):l.length≤100000∧∀s∈l,s.size≤100000:=by
 have:=(pd_len h).2;have e:(F8 l).L.length=l.length:=List.length_map ..;refine⟨by omega,fun s hs=>pd_text (pd_in h (?_:Et s∈l.map Et))⟩;exact List.mem_map_of_mem hs
theorem few_of_pre {d:Nat}{c:Ac}(h:PD (d+3) (SJ c))(hp:c.Proms.length≤100000):FewP c:=by
 have hm: ∀y∈[J2 c.Serial,Et c.Issuer,Et c.Subject,I7 c.Key,F8 c.Names,J2 c.From,J2 c.Until,MR c.Ca,J2 c.Depth,F8 c.Permit],PD (d+2) y:=fun y hy=>pd_in h hy;have m2:PD (d+2) (Et c.Issuer):=hm _ (by simp);have m3:PD (d+2) (Et c.Subject):=hm _ (by simp);have m5:PD (d+2) (F8 c.Names):=hm _ (by simp);have m10:PD (d+2) (F8 c.Permit):=hm _ (by simp);exact⟨pd_text m2,pd_text m3,(pd_texts m5).2,(pd_texts m5).1,(pd_texts m10).2,(pd_texts m10).1,hp⟩
theorem few_of_body {d:Nat}{c:Ac}(h:PD (d+4) (Kc c)):FewP c:=by
 have hm: ∀y∈[SJ c,Mw c.Proms],PD (d+3) y:=fun y hy=>pd_in h hy;have m1:PD (d+3) (SJ c):=hm _ (by simp);have m2:PD (d+3) (Mw c.Proms):=hm _ (by simp);have e:(Mw c.Proms).L.length=c.Proms.length:=List.length_map ..;have:=(pd_len m2).2;exact few_of_pre m1 (by omega)
theorem few_of_whole {d:Nat}{c:Ac}(h:PD (d+5) (wholeI c)):FewP c:=by
 have hm: ∀y∈[Kc c,Nm [I7 c.Sig.E,I7 c.Sig.S]],PD (d+4) y:=fun y hy=>pd_in h hy;exact few_of_body (hm _ (by simp):PD (d+4) (Kc c))
def Qj (f:Its→Option (Ac×Its))(b:List UInt8)(x:g_api_Item)(n e:Int):Ac×Int:=if e=0 then(if n=(b.length:Int)∧x.Tag=48 then(match f x.L with|some q=>if E8 q.1=0 then(q.1,0)else(zc,71)|none=>(zc,71))else(zc,71))else(zc,e)
theorem resC_err {f:Its→Option (Ac×Its)}{b:List UInt8}{x:g_api_Item}{n e:Int}(h:e≠0):Qj f b x n e=(zc,e):=if_neg h
theorem resC_no {f:Its→Option (Ac×Its)}{b:List UInt8}{x:g_api_Item}{n:Int}(h: ¬(n=(b.length:Int)∧x.Tag=48)):Qj f b x n 0=(zc,71):=by
 unfold Qj; rw[if_pos rfl,if_neg h]
theorem resC_yes {f:Its→Option (Ac×Its)}{b:List UInt8}{x:g_api_Item}{n:Int}(h:n=(b.length:Int))(h2:x.Tag=48):Qj f b x n 0=(match f x.L with|some q=>if E8 q.1=0 then(q.1,0)else(zc,71)|none=>(zc,71)):=by
 unfold Qj; rw[if_pos rfl,if_pos ⟨h,h2⟩]
theorem resC_none {f:Its→Option (Ac×Its)}{b:List UInt8}{x:g_api_Item}{n:Int}(h:n=(b.length:Int))(h2:x.Tag=48)(hf:f x.L=none):Qj f b x n 0=(zc,71):=by
 rw[resC_yes h h2,hf]
theorem resC_some {f:Its→Option (Ac×Its)}{b:List UInt8}{x:g_api_Item}{n:Int}{q:Ac×Its}(h:n=(b.length:Int))(h2:x.Tag=48)(hf:f x.L=some q):Qj f b x n 0=if E8 q.1=0 then(q.1,0)else(zc,71):=by
 rw[resC_yes h h2,hf]
theorem Get_pd {b:List UInt8}(hb:b.length≤3000): ∃(x:g_api_Item) (n e:Int),Eb b 0=some (x,n,e)∧EL b 0=some (if e=0 then x else zI,if e=0 then n else 0,e)∧(e=0→PD 8 x):=by
 obtain⟨x,n,e,h1,h2⟩:=Get_any hb;obtain⟨x',n',e',h3,h4⟩:=Get07_eq hb;rw[h1]at h3;have h3:=sI0 h3;have q1:x=x':=congrArg (·.1) h3;have q2:n=n':=congrArg (·.2.1) h3;have q3:e=e':=congrArg (·.2.2) h3;subst q1 q2 q3;exact⟨x,n,e,h1,h4,fun he=>⟨(h2 he).1,by have:=(h2 he).2.1; omega⟩⟩
section
variable {b:List UInt8}{x:g_api_Item}{n e:Int}(h1:Eb b 0=some (x,n,e))(hp:e=0→PD 8 x)
include h1 hp
theorem resW:FU b=some (Qj Ij b x n e):=by
 unfold FU F4 DW;rw[h1,oZ0];by_cases he:e=0;rotate_left
 ·rw[if_pos (by simpa using he),resC_err he]; rfl
 subst he;have g1:=hp rfl;obtain⟨f1,f2⟩:=few_all g1.1 g1.2;rw[if_neg (by simp),mustB];by_cases hn:n=(b.length:Int);rotate_left
 ·have:((x,n,(0:Int)).2.1==(b.length:Int))=false:=by rw[beq_eq_false_iff_ne]; exact hn
  rw[this,resC_no fun q=>hn q.1];rfl
 have:((x,n,(0:Int)).2.1==(b.length:Int))=true:=by rw[beq_iff_eq]; exact hn
 rw[this,if_pos rfl,oZ0];show Ab (Ab (Ab (ED x) _) _) _=_;rw[in_any g1.1 f1];by_cases ht:x.Tag=48;rotate_left
 ·rw[if_neg ht,resC_no fun q=>ht q.2]; rfl
 rw[if_pos ht,oZ0];show Ab (Ab (Ab (Cl ⟨x.L⟩) _) _) _=_;rw[Uj f2];cases hw:Ij x.L with
 |none=>rw[resC_none hn ht hw]; rfl
 |some q=>
  obtain⟨c,r⟩:=q;rw[CF,oZ0,resC_some hn ht hw];show Ab (Ab (Ab (Bz c) _) _) _=some (if E8 c=0 then(c,0)else(zc,71));rw[Ps,oZ0,mustB];by_cases hc:E8 c=0
  ·rw[if_pos hc,hc]; rfl
  ·have:(E8 c==0)=false:=by rw[beq_eq_false_iff_ne]; exact hc
   rw[if_neg hc,this]; rfl
theorem resB:DE b=some (Qj Jt b x n e):=by
 unfold DE F3 DV;rw[h1,oZ0];by_cases he:e=0;rotate_left
 ·rw[if_pos (by simpa using he),resC_err he]; rfl
 subst he;have g1:=hp rfl;obtain⟨f1,f2⟩:=few_all g1.1 g1.2;rw[if_neg (by simp),mustB];by_cases hn:n=(b.length:Int);rotate_left
 ·have:((x,n,(0:Int)).2.1==(b.length:Int))=false:=by rw[beq_eq_false_iff_ne]; exact hn
  rw[this,resC_no fun q=>hn q.1];rfl
 have:((x,n,(0:Int)).2.1==(b.length:Int))=true:=by rw[beq_iff_eq]; exact hn
 rw[this,if_pos rfl,oZ0];show Ab (Ab (Ab (ED x) _) _) _=_;rw[in_any g1.1 f1];by_cases ht:x.Tag=48;rotate_left
 ·rw[if_neg ht,resC_no fun q=>ht q.2]; rfl
 rw[if_pos ht,oZ0];show Ab (Ab (Ab (BZ ⟨x.L⟩) _) _) _=_;rw[Tm ⟨f2.1,fun y hy=>(f2.2 y hy).1⟩];cases hw:Jt x.L with
 |none=>rw[resC_none hn ht hw]; rfl
 |some q=>
  obtain⟨c,r⟩:=q;rw[CF,oZ0,resC_some hn ht hw];show Ab (Ab (Ab (Bz c) _) _) _=some (if E8 c=0 then(c,0)else(zc,71));rw[Ps,oZ0,mustB];by_cases hc:E8 c=0
  ·rw[if_pos hc,hc]; rfl
  ·have:(E8 c==0)=false:=by rw[beq_eq_false_iff_ne]; exact hc
   rw[if_neg hc,this]; rfl
theorem resP:Eo b=some (Qj Ql b x n e):=by
 unfold Eo F0 DU;rw[h1,oZ0];by_cases he:e=0;rotate_left
 ·rw[if_pos (by simpa using he),resC_err he]; rfl
 subst he;have g1:=hp rfl;obtain⟨f1,f2⟩:=few_all g1.1 g1.2;rw[if_neg (by simp),mustB];by_cases hn:n=(b.length:Int);rotate_left
 ·have:((x,n,(0:Int)).2.1==(b.length:Int))=false:=by rw[beq_eq_false_iff_ne]; exact hn
  rw[this,resC_no fun q=>hn q.1];rfl
 have:((x,n,(0:Int)).2.1==(b.length:Int))=true:=by rw[beq_iff_eq]; exact hn
 rw[this,if_pos rfl,oZ0];show Ab (Ab (Ab (ED x) _) _) _=_;rw[in_any g1.1 f1];by_cases ht:x.Tag=48;rotate_left
 ·rw[if_neg ht,resC_no fun q=>ht q.2]; rfl
 rw[if_pos ht,oZ0];show Ab (Ab (Ab (B5 ⟨x.L⟩) _) _) _=_;rw[Vn f2.1];cases hw:Ql x.L with
 |none=>rw[resC_none hn ht hw]; rfl
 |some q=>
  obtain⟨c,r⟩:=q;obtain⟨w1,w2⟩:=SI hw;have wp:(⟨c.Serial,c.Issuer,c.Subject,c.Key,c.Names,c.From,c.Until,c.Ca,c.Depth,c.Permit,[],c.Sig⟩:Ac)=c:=by rw[←w2]; rfl
  rw[CF,oZ0,resC_some hn ht hw];show Ab (Ab (Ab (Bz (⟨c.Serial,c.Issuer,c.Subject,c.Key,c.Names,c.From,c.Until,c.Ca,c.Depth,c.Permit,[],c.Sig⟩:Ac)) _) _) _=some (if E8 c=0 then(c,0)else(zc,71));dsimp only;rw[wp,Ps,oZ0,mustB];by_cases hc:E8 c=0
  ·rw[if_pos hc,hc]; rfl
  ·have:(E8 c==0)=false:=by rw[beq_eq_false_iff_ne]; exact hc
   rw[if_neg hc,this]; rfl
end
theorem whole_few {x:g_api_Item}{c:Ac}{r:Its}(hp:PD 8 x)(ht:x.Tag=48)(h:Ij x.L=some (c,r)):FewP c:=by
 have e:x=wholeI c:=by rw[JP ht hp.1,WM h]; rfl
 rw[e]at hp;exact few_of_whole hp
theorem body_few {x:g_api_Item}{c:Ac}{r:Its}(hp:PD 8 x)(ht:x.Tag=48)(h:Jt x.L=some (c,r)):FewP c:=by
 have e:x=Kc c:=by rw[JP ht hp.1,(Wp h).1]; rfl
 rw[e]at hp;exact few_of_body hp
theorem pre_few {x:g_api_Item}{c:Ac}{r:Its}(hp:PD 8 x)(ht:x.Tag=48)(h:Ql x.L=some (c,r)):FewP c:=by
 obtain⟨h1,h2⟩:=SI h;have e:x=SJ c:=by rw[JP ht hp.1,h1]; rfl
 rw[e]at hp;exact few_of_pre hp (by rw[←h2]; exact Nat.zero_le _)
def VJ (c:Ac)(ok:Bool):Option (Ac×Int):=Ab (gu (!(!ok)) (Ek c)) fun x8=>if((!ok)||(x8 !=0))=true then some (zc,71)else some (c,0)
theorem last_eq {f:Its→Option (Ac×Its)}{b:List UInt8}{x:g_api_Item}{n:Int}(hn:n=(b.length:Int))(ht:x.Tag=48){c:Ac}{ok:Bool}(hT:TZ ok c (f x.L))(hF: ∀c r,f x.L=some (c,r)→FewP c):VJ c ok=some (Qj f b x n 0):=by
 unfold VJ;cases hf:f x.L with
 |none=>
  rw[hf]at hT;have hT:ok=false:=hT;rw[resC_none hn ht hf,hT];rfl
 |some q=>
  rw[hf]at hT;obtain⟨k1,k2⟩:=hT;have P:=hF q.1 q.2 hf;rw[resC_some hn ht hf,k1,k2,show(!(!true))=true from rfl,Lg,check18_eq P,oZ0];by_cases hc:E8 q.1=0
  ·rw[if_pos hc,hc]; rfl
  ·rw[if_neg hc,if_pos (by simpa using hc)]
theorem seq18 {x:g_api_Item}(hp:PD 8 x):BW x=some (if x.Tag=48 then(x.L,0)else([],72)):=by
 have hL:=(pd_len hp).2;rw[asSeq07_eq (.inl ⟨pd_dep hp (by decide),pd_small 8 8 hp⟩) hL,IV hL,if_pos hp.1]
section
variable {b:List UInt8}{x:g_api_Item}{n e:Int}(h1:EL b 0=some (if e=0 then x else zI,if e=0 then n else 0,e))(hp:e=0→PD 8 x)
include h1 hp
theorem res18W:G0 b=some (Qj Ij b x n e):=by
 unfold G0 DZ;rw[h1,oZ0];by_cases he:e=0;rotate_left
 ·rw[if_pos (by simpa using he),resC_err he]; rfl
 subst he;have g1:=hp rfl;rw[if_neg (by simp)];show Ab (Ab (BW x) _) _=_;rw[seq18 g1,oZ0];by_cases ht:x.Tag=48;rotate_left
 ·rw[if_neg ht,resC_no fun q=>ht q.2,if_pos (by simp)]; rfl
 rw[if_pos ht];by_cases hn:n=(b.length:Int);rotate_left
 ·rw[resC_no fun q=>hn q.1,if_pos (by simp[hn])]; rfl
 rw[if_neg (by simp[hn])];have hL:PL 7 x.L:=fun y hy=>pd_in g1 hy;obtain⟨c0,ok0,e0,_⟩:=asPre_eq hL (by decide);obtain⟨c,ok,e1,hT⟩:=asWhole_eq hL (by decide) (pd_len g1).2;rw[e0,oZ0,if_neg (by decide),oZ0,if_pos (by decide),e1,oZ0,oZ0];show Ab (VJ c ok) (fun x1=>some (x1.1,x1.2))=_;rw[last_eq hn ht hT fun c r h=>whole_few g1 ht h];rfl
theorem res18B:D2 b=some (Qj Jt b x n e):=by
 unfold D2 DZ;rw[h1,oZ0];by_cases he:e=0;rotate_left
 ·rw[if_pos (by simpa using he),resC_err he]; rfl
 subst he;have g1:=hp rfl;rw[if_neg (by simp)];show Ab (Ab (BW x) _) _=_;rw[seq18 g1,oZ0];by_cases ht:x.Tag=48;rotate_left
 ·rw[if_neg ht,resC_no fun q=>ht q.2,if_pos (by simp)]; rfl
 rw[if_pos ht];by_cases hn:n=(b.length:Int);rotate_left
 ·rw[resC_no fun q=>hn q.1,if_pos (by simp[hn])]; rfl
 rw[if_neg (by simp[hn])];have hL:PL 7 x.L:=fun y hy=>pd_in g1 hy;obtain⟨c0,ok0,e0,_⟩:=asPre_eq hL (by decide);obtain⟨c,ok,e1,hT⟩:=asBody_eq hL (by decide);rw[e0,oZ0,if_pos (by decide),e1,oZ0,oZ0,if_neg (by decide),oZ0];show Ab (VJ c ok) (fun x1=>some (x1.1,x1.2))=_;rw[last_eq hn ht hT fun c r h=>body_few g1 ht h];rfl
theorem res18P:Ey b=some (Qj Ql b x n e):=by
 unfold Ey DZ;rw[h1,oZ0];by_cases he:e=0;rotate_left
 ·rw[if_pos (by simpa using he),resC_err he]; rfl
 subst he;have g1:=hp rfl;rw[if_neg (by simp)];show Ab (Ab (BW x) _) _=_;rw[seq18 g1,oZ0];by_cases ht:x.Tag=48;rotate_left
 ·rw[if_neg ht,resC_no fun q=>ht q.2,if_pos (by simp)]; rfl
 rw[if_pos ht];by_cases hn:n=(b.length:Int);rotate_left
 ·rw[resC_no fun q=>hn q.1,if_pos (by simp[hn])]; rfl
 rw[if_neg (by simp[hn])];have hL:PL 7 x.L:=fun y hy=>pd_in g1 hy;obtain⟨c,ok,e1,hT⟩:=asPre_eq hL (by decide);rw[e1,oZ0,if_neg (by decide),oZ0,if_neg (by decide),oZ0];show Ab (VJ (⟨c.Serial,c.Issuer,c.Subject,c.Key,c.Names,c.From,c.Until,c.Ca,c.Depth,c.Permit,[],c.Sig⟩:Ac) ok) (fun x1=>some (x1.1,x1.2))=_;have hT2:TZ ok (⟨c.Serial,c.Issuer,c.Subject,c.Key,c.Names,c.From,c.Until,c.Ca,c.Depth,c.Permit,[],c.Sig⟩:Ac) (Ql x.L):=by
  cases hq:Ql x.L with
  |none=>rw[hq]at hT; exact hT
  |some q=>
   rw[hq]at hT;obtain⟨k1,k2⟩:=hT;refine⟨k1,?_⟩;obtain⟨_,w⟩:=SI hq;rw[k2,←w];rfl
 rw[last_eq hn ht hT2 fun c r h=>pre_few g1 ht h];rfl
end
theorem res_self {f:Its→Option (Ac×Its)}{b:List UInt8}{x:g_api_Item}{n e:Int}(hF:e=0→x.Tag=48→∀c r,f x.L=some (c,r)→FewP c):Cq (Qj f b x n e).1 (Qj f b x n e).1=some true:=by
 have key: ∀c:Ac,(c.Proms.length≤100000∧c.Names.length≤100000∧c.Permit.length≤100000)→Cq c c=some true:=fun c hc=>by
  obtain⟨r,e,h⟩:=same18_iff (a:=c) (b:=c) hc;rw[e,h.2 rfl]
 have kz:Cq zc zc=some true:=key zc (by decide);unfold Qj;by_cases he:e=0;rotate_left
 ·rw[if_neg he]; exact kz
 rw[if_pos he];by_cases ht:n=(b.length:Int)∧x.Tag=48;rotate_left
 ·rw[if_neg ht]; exact kz
 rw[if_pos ht];cases hf:f x.L with
 |none=>exact kz
 |some q=>
  have P:=hF he ht.2 q.1 q.2 hf;show Cq (if E8 q.1=0 then(q.1,(0:Int))else(zc,71)).1 (if E8 q.1=0 then(q.1,(0:Int))else(zc,71)).1=some true;by_cases hc:E8 q.1=0
  ·rw[if_pos hc]; exact key q.1 ⟨P.nproms,P.nnames,P.npermit⟩
  ·rw[if_neg hc]; exact kz
theorem gets_true (b:List UInt8):Dy b=some true:=by
 unfold Dy;rw[live18_true,oZ0,if_neg (by decide)];by_cases hb:b.length≤3000;rotate_left
 ·rw[decide_eq_true (by omega),if_pos rfl]
 rw[decide_eq_false (by omega),if_neg (by decide)];obtain⟨x,n,e,h1,h2,hp⟩:=Get_pd hb;have s1:=res_self (f:=Ij) (b:=b) (x:=x) (n:=n) (e:=e) fun he ht c r h=>whole_few (hp he) ht h;have s2:=res_self (f:=Jt) (b:=b) (x:=x) (n:=n) (e:=e) fun he ht c r h=>body_few (hp he) ht h;have s3:=res_self (f:=Ql) (b:=b) (x:=x) (n:=n) (e:=e) fun he ht c r h=>pre_few (hp he) ht h;rw[resW h1 hp,oZ0,res18W h2 hp,oZ0,resB h1 hp,oZ0,res18B h2 hp,oZ0,resP h1 hp,oZ0,res18P h2 hp,oZ0,s1,oZ0,s2,s3];simp only[beq_self_eq_true,Bool.and_self,Lg,oZ0,Ao]
end Go.Proofs.YtlnbckkkapbdmaaGreatDoor
end
section
namespace Go.Proofs.YtlnbckkkapbdmaaGreatDoor.lawCertGets
open Go Go.Gw Go.ChangeShapes Go.WideShapes Go.ChangeAt Go.RowKit
theorem own:ownKnob Tryz.prog.godebug=none:=by kernel_rfl
theorem tab_ir:Ir Tryz.prog 160 (.agg [.agg [.lit (.int .i64 1),.held [103,114,101,97,116,115,101,97,108,47,100,101,114,46,107,105,110,100,115,36,49]],.agg [.lit (.int .i64 2),.held [103,114,101,97,116,115,101,97,108,47,100,101,114,46,108,101,97,115,116]],.agg [.lit (.int .i64 4),.held [103,114,101,97,116,115,101,97,108,47,100,101,114,46,107,105,110,100,115,36,50]],.agg [.lit (.int .i64 12),.held [103,114,101,97,116,115,101,97,108,47,100,101,114,46,107,105,110,100,115,36,51]],.agg [.lit (.int .i64 48),.held [103,114,101,97,116,115,101,97,108,47,100,101,114,46,107,105,110,100,115,36,52]]]) [[.int .i64 1,.func (.func 228) #[] #[]],[.int .i64 2,.func (.func 128) #[] #[]],[.int .i64 4,.func (.func 229) #[] #[]],[.int .i64 12,.func (.func 230) #[] #[]],[.int .i64 48,.func (.func 233) #[] #[]]].flatten:=
 Ir.arr (n:=5) (k:=2) Tryz.underlying160 (by kernel_rfl) (by kernel_rfl) rfl rfl fun i d c h1 h2=>by
  match i,h1,h2 with
  |0,h1,h2=>cases h1; cases h2; exact Ir.pair Tryz.underlying120 rfl rfl rfl (by kernel_rfl) rfl rfl (by kernel_rfl) (by kernel_rfl) (Ir.int Tryz.underlying3) (Ir.fn Tryz.underlying43 Tryz.func228 (by kernel_rfl) (by kernel_rfl))
  |1,h1,h2=>cases h1; cases h2; exact Ir.pair Tryz.underlying120 rfl rfl rfl (by kernel_rfl) rfl rfl (by kernel_rfl) (by kernel_rfl) (Ir.int Tryz.underlying3) (Ir.fn Tryz.underlying43 Tryz.func128 (by kernel_rfl) (by kernel_rfl))
  |2,h1,h2=>cases h1; cases h2; exact Ir.pair Tryz.underlying120 rfl rfl rfl (by kernel_rfl) rfl rfl (by kernel_rfl) (by kernel_rfl) (Ir.int Tryz.underlying3) (Ir.fn Tryz.underlying43 Tryz.func229 (by kernel_rfl) (by kernel_rfl))
  |3,h1,h2=>cases h1; cases h2; exact Ir.pair Tryz.underlying120 rfl rfl rfl (by kernel_rfl) rfl rfl (by kernel_rfl) (by kernel_rfl) (Ir.int Tryz.underlying3) (Ir.fn Tryz.underlying43 Tryz.func230 (by kernel_rfl) (by kernel_rfl))
  |4,h1,h2=>cases h1; cases h2; exact Ir.pair Tryz.underlying120 rfl rfl rfl (by kernel_rfl) rfl rfl (by kernel_rfl) (by kernel_rfl) (Ir.int Tryz.underlying3) (Ir.fn Tryz.underlying43 Tryz.func233 (by kernel_rfl) (by kernel_rfl))
  |n+5,h1,h2=>cases h1
theorem gB {W:World}(h:laidMetH Tryz.prog Rows.certGetsRow.laid W):GB (memOf W):=fun p hp=>by
 obtain rfl:=List.mem_singleton.1 hp;exact gb_of (name:= "greatseal/der.kinds") (by kernel_rfl) (by kernel_rfl) (laidMetH.funcs h (d:= .agg [.agg [.lit (.int .i64 1),.iface "func" (.lit (.string [103,114,101,97,116,115,101,97,108,47,100,101,114,46,107,105,110,100,115,36,49]))],.agg [.lit (.int .i64 2),.iface "func" (.lit (.string [103,114,101,97,116,115,101,97,108,47,100,101,114,46,108,101,97,115,116]))],.agg [.lit (.int .i64 4),.iface "func" (.lit (.string [103,114,101,97,116,115,101,97,108,47,100,101,114,46,107,105,110,100,115,36,50]))],.agg [.lit (.int .i64 12),.iface "func" (.lit (.string [103,114,101,97,116,115,101,97,108,47,100,101,114,46,107,105,110,100,115,36,51]))],.agg [.lit (.int .i64 48),.iface "func" (.lit (.string [103,114,101,97,116,115,101,97,108,47,100,101,114,46,107,105,110,100,115,36,52]))]]) (List.Mem.tail _ (List.Mem.head _))) tab_ir
theorem rd5:Rd Tryz.prog 5 (UInt8):=Rd.u8 Tryz.underlying5
theorem rd34:Rd Tryz.prog 34 (List UInt8):=Rd.slice Tryz.underlying34 rd5 (by kernel_rfl) (by decide)
theorem contract (H:Type)(enc:TypeId×Value→H)(W:World)(base:Nat)(args:Array Value)(ds gs:List (DataW H))(before:List MemPlace)
  (hval: ∀(j:Nat) t v,Tryz.f5.params[j]? =some t→args[j]? =some v→Value.okWide Tryz.prog W .any base t v)
  (hW:DataW.Whole enc Tryz.prog Tryz.f5.params.toList Rows.certGetsSpec.vars false W args.toList ds gs before) (hL:laidMetH Tryz.prog Rows.certGetsRow.laid W):
  Calls Tryz.prog 5 args W fun e W'=> ∃v,e= .returned v∧Rows.certGetsSpec.post enc Tryz.prog Tryz.f5 false true false false W args v W':=by
 have hW':=hW;obtain⟨p,q,hA0,hV,rfl,hfz,hnd⟩:=hW;obtain⟨rfl,rfl⟩:=trodVars_none hV;rw[List.append_nil]at hW';have hA:DataW.TrodAll enc Tryz.prog W 0 (fun _=>true) true Tryz.f5.params.toList args.toList ds p:=hA0;have hA1:=hA;have hpl:Tryz.f5.params.toList=[34]:=by rw[Tryz.params5]
 rw[hpl]at hA1;obtain⟨v0,w0,d0,e0,p0,q0,ha0,he0,hp0,h0,r0⟩:=trodAll_cons hA1;obtain⟨z1,z2,z3⟩:=trodAll_nil r0;obtain rfl:args= #[v0]:=by
  apply Array.ext'; rw[ha0,z1]
 obtain rfl:ds=[d0]:=by rw[he0,z2]
 rw[Tryz.params5]at hval;obtain⟨x0,l0,c0,rfl⟩:=okWide_slice Tryz.underlying34 (hval 0 34 v0 rfl rfl);obtain⟨a0,s0⟩:=rd34.openS h0;have hc:=K9 (St.of W (gB hL)) s0 (gets_true a0);refine Calls.mono hc ?_;rintro e W' ⟨v,rfl,hk,M,hle,S,rfl⟩;refine⟨.bool true,rfl,Vo (tb:=4) (by kernel_rfl) (by kernel_rfl) rfl (by kernel_rfl) Tryz.underlying4 hW' hA rfl rfl rfl hle S hk⟩
noncomputable def MF (os:Os):World:=
 {World.holding Tryz.prog os ⟨#[],#[],[]⟩with heap:=((((World.holding Tryz.prog os ⟨#[],#[],[]⟩).heap.modify 3 fun| .cells _ t fr=> .cells #[.int .u8 128,.int .u8 191,.int .u8 160,.int .u8 191,.int .u8 128,.int .u8 159,.int .u8 144,.int .u8 191,.int .u8 128,.int .u8 143,.int .u8 0,.int .u8 0,.int .u8 0,.int .u8 0,.int .u8 0,.int .u8 0,.int .u8 0,.int .u8 0,.int .u8 0,.int .u8 0,.int .u8 0,.int .u8 0,.int .u8 0,.int .u8 0,.int .u8 0,.int .u8 0,.int .u8 0,.int .u8 0,.int .u8 0,.int .u8 0,.int .u8 0,.int .u8 0] t fr|o=>o).modify 0 fun| .cells _ t fr=> .cells [[.int .i64 1,.func (.func 228) #[] #[]],[.int .i64 2,.func (.func 128) #[] #[]],[.int .i64 4,.func (.func 229) #[] #[]],[.int .i64 12,.func (.func 230) #[] #[]],[.int .i64 48,.func (.func 233) #[] #[]]].flatten.toArray t fr|o=>o).modify 2 fun| .cells _ t fr=> .cells ((List.replicate 128 240++List.replicate 66 241++List.replicate 30 2++[19]++List.replicate 12 3++[35,3,3,52,4,4,4,68]++List.replicate 11 241:List Int).map fun n=>Value.int .u8 n).toArray t fr|o=>o)}
theorem laid_met (os:Os):laidMetH Tryz.prog Rows.certGetsRow.laid ((MF os).forCall (fun _ _=>0) ⟨#[],#[(.slice none 0 0:Value)],[]⟩).memory:=
 laidMetH_of_parts3 (fuel:=8) (laidMet_of_run' 8 (by kernel_rfl) (by kernel_rfl)) (by kernel_rfl) (by kernel_rfl)
theorem reads (os:Os){H:Type}(enc:TypeId×Value→H): ∃places,DataW.whole enc Tryz.prog ((MF os).forCall (fun _ _=>0) ⟨#[],#[(.slice none 0 0:Value)],[]⟩).memory Tryz.f5.params.toList Rows.certGetsSpec.vars false #[(.slice none 0 0:Value)].toList 8=some ([.nil],[],places):=
 ⟨[],by kernel_rfl⟩
theorem lifted (os:Os)(started:os.Started)(H:Type)(enc:TypeId×Value→H)(F:Stop.Interp):
  ReturnsInHanded {} Tryz.checked os 5 .any ((OpenSpec.ofChange Rows.certGetsSpec).preRow enc Tryz.prog Tryz.f5 Rows.certGetsRow.domain false Rows.certGetsRow.laid) (((OpenSpec.ofChange Rows.certGetsSpec).at F).post enc Tryz.prog Tryz.f5 false true false false):=by
 obtain⟨places,hx⟩:=reads os enc;refine returnsInHanded_of_row (C:=Tryz.checked) (s:=OpenSpec.ofChange Rows.certGetsSpec) own started (by kernel_rfl) Tryz.func5
  (witness_row_at (enc:=enc) (C:=Tryz.checked) false (MF os) #[(.slice none 0 0:Value)] rfl (by kernel_rfl) (by kernel_rfl) (by kernel_rfl)
   (OpenSpec.preRow_of_cond 8 hx (by kernel_rfl) (fun k hk=>by cases hk) (by kernel_rfl) (laid_met os))) ?_
 intro W base args ds gs before hval hW _ _ _ hL _ _;exact contract H enc W base args ds gs before hval hW hL
theorem said:Rows.CertGetsSaid:=
 OpenClaim.holds_of_cond 5 Tryz.f5 rfl rfl rfl rfl rfl rfl rfl ⟨rfl,rfl,rfl,rfl,rfl⟩ rfl rfl rfl rfl rfl (by kernel_rfl) Tryz.func5 (by kernel_rfl)
  (of_decide_eq_true (by kernel_rfl)) (by unfold Func.isWrapper; first|(rw[if_pos (by decide+kernel)]; kernel_rfl)|(rw[if_neg (by decide+kernel)]; exact⟨rfl,rfl⟩))
  (fun os started H enc _ F=>by rw[OpenClaim.pre_eq_preRow]; exact lifted os started H enc F)
theorem plain (f:FuncId)(fn:Func)(hf:Tryz.pinned.checked.prog.funcNamed "greatseal/greatseallaw18.CertGets" =some f)(hfn:Tryz.pinned.checked.prog.funcs[f]? =some fn):
  true=Tryz.pinned.checked.prog.looks []∧∀(j:Nat) t,fn.params[j]? =some t→Tryz.pinned.checked.prog.wantsStandIn t=false:=by
 obtain rfl:f=5:=sI0 ((show Tryz.prog.funcNamed "greatseal/greatseallaw18.CertGets" =some 5 by kernel_rfl).symm.trans hf)|>.symm;obtain rfl:fn=Tryz.f5:=(sI0 (Tryz.func5.symm.trans hfn)).symm;refine⟨by kernel_rfl,fun j t ht=> ?_⟩;rw[Tryz.params5]at ht;have hm:t∈[34]:=by simpa using Array.mem_of_getElem? ht
 have hall:([34].all fun u=> !Tryz.prog.wantsStandIn u)=true:=by kernel_rfl
 exact(show Tryz.prog.wantsStandIn t=false by simpa using List.all_eq_true.1 hall t hm)
theorem card:Rows.CertGetsCardSaid:=
 Claim7.holds_tied_plain_at .later [] _ _ _ _ said (fun _ h=>by cases h) (by kernel_rfl) (fun _ h=>by cases h) certGets_row_tie rfl ⟨rfl,rfl⟩ (by kernel_rfl) rfl plain (by kernel_rfl)
end Go.Proofs.YtlnbckkkapbdmaaGreatDoor.lawCertGets
end
