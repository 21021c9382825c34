/- Several texts, one behind the other. Conditions: none. -/
import Derived.Test.YtibojdgdjhngiaaGreatDoorZg
import Derived.Test.YtibojdgdjhngiaaGreatDoorZh
import Derived.Test.YtibojdgdjhngiaaGreatDoorZi
import Derived.KernelRfl
import Derived.Test.YtibojdgdjhngiaaGreatDoorZb
import Derived.Test.YtibojdgdjhngiaaGreatDoorZj
import Derived.Test.YtibojdgdjhngiaaGreatDoorCards
import Derived.Test.YtibojdgdjhngiaaGreatDoorTie
import Derived.WalkKit
import Derived.ProofKit
import Derived.OpenShut
import Derived.Deep.DeepHandedRow
import Derived.Lib.LaidTab
import Derived.SevenTiedAt
import Derived.Stop.LaidErr
set_option linter.unusedSimpArgs false
set_option linter.unusedVariables false
set_option maxHeartbeats 20000000
set_option maxRecDepth 100000
section
namespace Go.Proofs.YtibojdgdjhngiaaGreatDoor
open Go Go.Gw Go.Ax
theorem w64_sucN {i n:Nat}(h:i<n)(hn:n≤1000000):w64 ((i:Int)+1)=((i+1:Nat):Int):=by rw[MW (by omega) (by omega)]; rfl
theorem drop_at {α:Type}{xs:List α}{i:Nat}{x:α}(h:xs[i]? =some x):xs.drop i=x::xs.drop (i+1):=by
 obtain⟨hi,rfl⟩:=List.getElem?_eq_some_iff.1 h;exact List.drop_eq_getElem_cons hi
def WM {α β:Type}(f:α→Option β):List α→(Unit⊕β)
 | []=> .inl ()
 |x::r=>match f x with|some b=> .inr b|none=>WM f r
theorem iter_find {α β:Type}{step:Int→Option (Int⊕(Unit⊕β))}(xs:List α)(f:α→Option β)
  (hs: ∀(i:Nat) (x:α),xs[i]? =some x→step (i:Int)=some (match f x with|some b=> .inr (.inr b)|none=> .inl ((i+1:Nat):Int)))
  (he:step (xs.length:Int)=some (.inr (.inl ()))): ∀(k i n:Nat),i+k=xs.length→k<n→iter step n (i:Int)=some (WM f (xs.drop i))
 |0,i,n,h,hn=>by
  obtain⟨n,rfl⟩: ∃q,n=q+1:=⟨n-1,by omega⟩;have h:i=xs.length:=by omega
  subst h;show Ac (step _) _=_;rw[he,List.drop_length]; rfl
 |k+1,i,n,h,hn=>by
  obtain⟨n,rfl⟩: ∃q,n=q+1:=⟨n-1,by omega⟩;have hi:i<xs.length:=by omega
  have hx:xs[i]? =some xs[i]:=List.getElem?_eq_getElem hi;show Ac (step _) _=_;rw[hs i _ hx,drop_at hx];unfold WM;cases f xs[i]with
  |some b=>rfl
  |none=>exact iter_find xs f hs he k (i+1) n (by omega) (by omega)
theorem iter_find0 {α β:Type}{step:Int→Option (Int⊕(Unit⊕β))}(xs:List α)(f:α→Option β)(hl:xs.length≤1000000)
  (hs: ∀(i:Nat) (x:α),xs[i]? =some x→step (i:Int)=some (match f x with|some b=> .inr (.inr b)|none=> .inl ((i+1:Nat):Int)))
  (he:step (xs.length:Int)=some (.inr (.inl ()))):iter step Ek 0=some (WM f xs):=
 iter_find xs f hs he xs.length 0 Ek (by omega) (by have:(1000001:Nat)≤Ek:=Nat.le_of_ble_eq_true rfl; omega)
def fldI {α σ:Type}(g:Nat→σ→α→σ):List α→Nat→σ→σ
 | [],_,s=>s
 |x::r,i,s=>fldI g r (i+1) (g i s x)
theorem eachN_find {α β σ:Type}{body:Int→σ→Option (σ⊕β)}(xs:List α)(f:Nat→α→Option β)(s0:σ)
  (hs: ∀(i:Nat) (x:α),xs[i]? =some x→body (i:Int) s0=some (match f i x with|some b=> .inr b|none=> .inl s0)):
  ∀(k i:Nat),i+k=xs.length→∃r,Io body k (i:Int) s0=some r∧((∃(j:Nat) (x:α) (b:β),xs[j]? =some x∧i≤j∧f j x=some b∧r= .inr b)∨(r= .inl s0∧∀(j:Nat) (x:α),i≤j→xs[j]? =some x→f j x=none))
 |0,i,h=>⟨.inl s0,rfl,.inr ⟨rfl,fun j x hj hx=>by
   have:=(List.getElem?_eq_some_iff.1 hx).1; omega⟩⟩
 |k+1,i,h=>by
  have hi:i<xs.length:=by omega
  have hx:xs[i]? =some xs[i]:=List.getElem?_eq_getElem hi;show∃r,Ac (body _ _) _=_∧_;rw[hs i _ hx];cases hf:f i xs[i]with
  |some b=>exact⟨.inr b,rfl,.inl ⟨i,_,b,hx,Nat.le_refl _,hf,rfl⟩⟩
  |none=>
   obtain⟨r,h1,h2⟩:=eachN_find xs f s0 hs k (i+1) (by omega);refine⟨r,h1,?_⟩;rcases h2 with ⟨j,x,b,a1,a2,a3,a4⟩|⟨a1,a2⟩
   ·exact .inl ⟨j,x,b,a1,by omega,a3,a4⟩
   ·refine .inr ⟨a1,fun j x hj hx'=> ?_⟩;rcases Nat.lt_or_ge i j with q|q
    ·exact a2 j x q hx'
    ·have:j=i:=by omega
     subst this; rw[hx]at hx'; cases hx'; exact hf
theorem fndO_any {α:Type}(p:α→Bool)(v:Bool): ∀(xs:List α),WM (fun x=>if p x=true then some v else none) xs=if xs.any p=true then .inr v else .inl ()
 | []=>rfl
 |x::r=>by
  unfold WM;cases h:p x with
  |true=>simp[h]
  |false=>simp[h,fndO_any p v r]
def plc {α:Type}(p:α→Bool):List α→Nat→List Int
 | [],_=> []
 |x::r,i=>if p x=true then(i:Int)::plc p r (i+1)else plc p r (i+1)
theorem plc_len {α:Type}(p:α→Bool): ∀(xs:List α) (i:Nat),(plc p xs i).length≤xs.length
 | [],_=>Nat.le_refl _
 |x::r,i=>by
  unfold plc;have:=plc_len p r (i+1);split<;>simp<;>omega
theorem plc_mem {α:Type}{p:α→Bool}: ∀{xs:List α} {i:Nat} {n:Int},n∈plc p xs i↔∃(j:Nat) (x:α),xs[j]? =some x∧p x=true∧n=((i+j:Nat):Int)
 | [],i,n=>by simp[plc]
 |x::r,i,n=>by
  unfold plc;have ih:= @plc_mem α p r (i+1) n;constructor
  ·intro h;have h':(p x=true∧n=(i:Int))∨n∈plc p r (i+1):=by
    split at h
    ·rename_i hp;rcases List.mem_cons.1 h with q|q
     ·exact .inl ⟨hp,q⟩
     ·exact .inr q
    ·exact .inr h
   rcases h' with ⟨q1,q2⟩|q
   ·exact⟨0,x,rfl,q1,by rw[q2]; rfl⟩
   ·obtain⟨j,y,a,b,c⟩:=ih.1 q;exact⟨j+1,y,a,b,by rw[c]; congr 1; omega⟩
  ·rintro⟨j,y,a,b,c⟩;cases j with
   |zero=>
    cases a;rw[if_pos b,c]; exact List.mem_cons_self
   |succ j=>
    have:n∈plc p r (i+1):=ih.2 ⟨j,y,a,b,by rw[c]; congr 1; omega⟩;split
    ·exact List.mem_cons_of_mem _ this
    ·exact this
theorem plc_srt {α:Type}{p:α→Bool}: ∀{xs:List α} {i:Nat},(plc p xs i).Pairwise (· < ·)∧∀n∈plc p xs i,(i:Int)≤n
 | [],_=>⟨List.Pairwise.nil,fun n h=>by cases h⟩
 |x::r,i=>by
  obtain⟨h1,h2⟩:= @plc_srt α p r (i+1);unfold plc;split
  ·refine⟨List.pairwise_cons.2 ⟨fun n hn=> ?_,h1⟩,fun n hn=> ?_⟩
   ·have:=h2 n hn; omega
   ·rcases List.mem_cons.1 hn with q|q
    ·omega
    ·have:=h2 n q; omega
  ·exact⟨h1,fun n hn=>by have:=h2 n hn; omega⟩
def Mj (l:List ByteArray):Bool:= !(l.take 20).any (fun s=>decide ((s.size:Int)>200))&&decide ((l.length:Int)≤16)
theorem idx_take {α:Type}{l:List α}{n i:Nat}{x:α}(h:(l.take n)[i]? =some x):idx l (i:Int)=some x∧i<l.length∧i<n:=by
 rw[List.getElem?_take]at h;split at h
 ·exact⟨JI h,(List.getElem?_eq_some_iff.1 h).1,‹_›⟩
 ·cases h
theorem little_eq (l:List ByteArray):C9 l=some (Mj l):=by
 unfold C9 Mj;rw[iter_find0 (l.take 20) (fun s=>if decide ((s.size:Int)>200)=true then some false else none) (by simp; omega) (fun i x hx=> ?_) ?_,fndO_any]
 ·simp only[AE];cases (l.take 20).any fun s=>decide ((s.size:Int)>200)<;>rfl
 ·unfold CR;rw[if_neg (by simp; omega)]
 ·obtain⟨h1,h2,h3⟩:=idx_take hx;unfold CR;rw[if_pos (by simp; omega),h1];simp only[AE];split
  ·rfl
  ·rw[w64_sucN h3 (by omega)]
def Mp (c:Ah):Bool:=((((decide ((c.Issuer.size:Int)≤300))&&(decide ((c.Subject.size:Int)≤300)))&&Mj c.Names)&&Mj c.Permit)&&(decide ((c.Proms.length:Int)≤8))
theorem few18_eq (c:Ah):Gn c=some (Mp c):=by
 unfold Gn Mp;rw[little_eq,little_eq];cases (decide ((c.Issuer.size:Int)≤300))&&(decide ((c.Subject.size:Int)≤300))
 ·rfl
 ·cases Mj c.Names<;>rfl
def Tx (l:List Ah):Bool:= !(l.take 40).any (fun c=> !Mp c)&&decide ((l.length:Int)≤40)
theorem fewC_eq (l:List Ah):C4 l=some (Tx l):=by
 unfold C4 Tx;rw[iter_find0 (l.take 40) (fun c=>if(!Mp c)=true then some false else none) (by simp; omega) (fun i x hx=> ?_) ?_,fndO_any]
 ·simp only[AE];cases (l.take 40).any fun c=> !Mp c<;>rfl
 ·unfold Cq;rw[if_neg (by simp; omega)]
 ·obtain⟨h1,h2,h3⟩:=idx_take hx;unfold Cq;rw[if_pos (by simp; omega),h1];simp only[AE,few18_eq];split
  ·rfl
  ·rw[w64_sucN h3 (by omega)]
theorem fewC_in {l:List Ah}(h:Tx l=true):l.length≤40∧∀c∈l,Mp c=true:=by
 simp only[Tx,Bool.and_eq_true,decide_eq_true_eq,Bool.not_eq_true',List.any_eq_false]at h;have hl:l.length≤40:=by omega
 refine⟨hl,fun c hc=> ?_⟩;rw[List.take_of_length_le hl]at h;have:=h.1 c hc;cases e:Mp c
 ·rw[e]at this; exact absurd rfl this
 ·rfl
def Ty (l:List Ak):Bool:= !(l.take 40).any (fun b=>decide ((b.Names.length:Int)>20))&&decide ((l.length:Int)≤40)
theorem fewB_eq (l:List Ak):C5 l=some (Ty l):=by
 unfold C5 Ty;rw[iter_find0 (l.take 40) (fun b=>if decide ((b.Names.length:Int)>20)=true then some false else none) (by simp; omega) (fun i x hx=> ?_) ?_,fndO_any]
 ·simp only[AE];cases (l.take 40).any fun b=>decide ((b.Names.length:Int)>20)<;>rfl
 ·unfold Cr;rw[if_neg (by simp; omega)]
 ·obtain⟨h1,h2,h3⟩:=idx_take hx;unfold Cr;rw[if_pos (by simp; omega),h1];simp only[AE];split
  ·rfl
  ·rw[w64_sucN h3 (by omega)]
theorem fewB_in {l:List Ak}(h:Ty l=true):l.length≤40∧∀b∈l,b.Names.length≤20:=by
 simp only[Ty,Bool.and_eq_true,decide_eq_true_eq,Bool.not_eq_true',List.any_eq_false]at h;have hl:l.length≤40:=by omega
 refine⟨hl,fun b hb=> ?_⟩;rw[List.take_of_length_le hl]at h;have:=h.1 b hb;omega
theorem lkG_up {κ γ:Type}{E:κ→κ→Bool}(hE: ∀a b,E a b=true↔a=b)(o k:κ)(v:γ): ∀(kv:List (κ×γ)),lkG (E o) (upG (E k) (k,v) kv)=if E o k=true then some v else lkG (E o) kv
 | []=>by
  unfold upG lkG lkG;cases E o k<;>rfl
 |y::r=>by
  unfold upG;cases hk:E k y.1 with
  |true=>
   have hy:=(hE _ _).1 hk;simp only[cond_true,lkG];rw[←hy];cases E o k<;>rfl
  |false=>
   simp only[cond_false,lkG];cases ho:E o y.1 with
   |true=>
    have hy:=(hE _ _).1 ho;have:E o k=false:=by
     cases e:E o k with
     |false=>rfl
     |true=>
      have:=(hE _ _).1 e;rw[←this,hy]at hk;rw[(hE y.1 y.1).2 rfl]at hk; cases hk
    rw[this]; rfl
   |false=>exact lkG_up hE o k v r
theorem eqO_iff (a b:Ag):Aq a b=true↔a=b:=by
 cases a; cases b;simp[Aq,KH]
abbrev OM:=List (Ag×Int)
def qO (kv:OM)(o:Ag)(n:Int):Bool:=match lkG (Aq o) kv with|some v=>decide (v≤n)|none=>false
def putO (kv:OM)(o:Ag)(at_:Int):OM:=if((!(lkG (Aq o) kv).isSome)||(decide (at_<(lkG (Aq o) kv).getD 0)))=true then upG (Aq o) (o,at_) kv else kv
theorem qO_put (kv:OM)(o k:Ag)(at_ n:Int):qO (putO kv k at_) o n=(qO kv o n||(Aq o k&&decide (at_≤n))):=by
 unfold putO;split
 ·rename_i h;unfold qO;rw[lkG_up eqO_iff];cases he:Aq o k with
  |false=>simp
  |true=>
   have:=(eqO_iff _ _).1 he;subst this;simp only[if_true,Bool.true_and];cases hl:lkG (Aq o) kv with
   |none=>simp
   |some v=>
    rw[hl]at h;simp only[Option.isSome_some,Bool.not_true,Option.getD_some,Bool.false_or,decide_eq_true_eq]at h;by_cases h1:at_≤n
    ·simp[h1]
    ·have: ¬v≤n:=by omega
     simp[h1,this]
 ·rename_i h;cases he:Aq o k with
  |false=>simp
  |true=>
   have:=(eqO_iff _ _).1 he;subst this;unfold qO;cases hl:lkG (Aq o) kv with
   |none=>rw[hl]at h; simp at h
   |some v=>
    rw[hl]at h;simp only[Option.isSome_some,Bool.not_true,Option.getD_some,Bool.false_or,decide_eq_true_eq]at h;by_cases h1:at_≤n
    ·have:v≤n:=by omega
     simp[h1,this]
    ·simp[h1]
def putN (key:UInt64)(at_:Int):List ByteArray→OM→OM
 | [],kv=>kv
 |s::r,kv=>putN key at_ r (putO kv ⟨s,key⟩ at_)
def Qe:List Ak→OM→OM
 | [],kv=>kv
 |b::r,kv=>Qe r (putN b.Key b.At b.Names kv)
theorem strange_b5 (b:Ak)(i:Int)(s:ByteArray)(kv:OM):Bw b i s kv=some (putO kv ⟨s,b.Key⟩ b.At):=by
 unfold Bw putO;show Ac (if((!(lkG (Aq ⟨s,b.Key⟩) kv).isSome)||(decide (b.At<(lkG (Aq ⟨s,b.Key⟩) kv).getD 0)))=true then _ else _) _=_;split<;>rfl
theorem strange_n (b:Ak): ∀(l:List ByteArray) (i:Int) (kv:OM),DE (Bw b) l i kv=some (putN b.Key b.At l kv)
 | [],_,_=>rfl
 |s::r,i,kv=>by
  show Ac (Bw b i s kv) _=_;rw[strange_b5];exact strange_n b r (i+1) _
theorem strange_b: ∀(l:List Ak) (i:Int) (kv:OM),DE BR l i kv=some (Qe l kv)
 | [],_,_=>rfl
 |b::r,i,kv=>by
  show Ac (BR i b kv) _=_;unfold BR;rw[strange_n];exact strange_b r (i+1) _
def bkd (l:List Ak)(s:ByteArray)(key:UInt64)(n:Int):Bool:=l.any fun b=>b.Key==key&&decide (b.At≤n)&&b.Names.any (fun t=>eqS t s)
theorem qO_n (key:UInt64)(at_ n:Int)(s:ByteArray)(k:UInt64): ∀(l:List ByteArray) (kv:OM),qO (putN key at_ l kv) ⟨s,k⟩ n=(qO kv ⟨s,k⟩ n||(key==k&&decide (at_≤n)&&l.any (fun t=>eqS t s)))
 | [],kv=>by simp[putN]
 |t::r,kv=>by
  unfold putN;rw[qO_n key at_ n s k r,qO_put];have e:Aq ⟨s,k⟩ ⟨t,key⟩=(eqS t s&&(key==k)):=by
   have h1:eqS s t=eqS t s:=Bool.eq_iff_iff.2 (by rw[KH,KH]; exact eq_comm);have h2:(k==key)=(key==k):=Bool.beq_comm;simp[Aq,h1,h2]
  rw[e];simp only[List.any_cons];cases qO kv ⟨s,k⟩ n<;>cases eqS t s<;>cases (key==k)<;>cases decide (at_≤n)<;>simp
theorem qO_b (n:Int)(s:ByteArray)(k:UInt64): ∀(l:List Ak) (kv:OM),qO (Qe l kv) ⟨s,k⟩ n=(qO kv ⟨s,k⟩ n||bkd l s k n)
 | [],kv=>by simp[Qe,bkd]
 |b::r,kv=>by
  unfold Qe;rw[qO_b n s k r,qO_n];simp only[bkd,List.any_cons,Bool.or_assoc]
def KW (books:List Ak)(c:Ah):Bool:=c.Names.any fun s=> !bkd books s c.Key c.From
theorem strange_in (kv:OM)(c:Ah):Cs c kv=some (c.Names.any (fun s=> !qO kv ⟨s,c.Key⟩ c.From),kv):=by
 have h11: ∀(s:ByteArray),BJ s kv c=some (!qO kv ⟨s,c.Key⟩ c.From,kv,c):=by
  intro s;unfold BJ bnd qO;cases lkG (Aq ⟨s,c.Key⟩) kv with
  |none=>rfl
  |some v=>
   have:(decide (v>c.From))= !decide (v≤c.From):=by
    by_cases h:v≤c.From
    ·simp[h]
    ·simp[h]; omega
   simp[this]
 have hb: ∀(i:Nat) (s:ByteArray),c.Names[i]? =some s→AF c.Names (i:Int) (kv,c.Serial,c.Issuer,c.Subject,c.Key,c.Names,c.From,c.Until,c.Ca,c.Depth,c.Permit,c.Proms,c.Sig.E,c.Sig.S)=
   some (match (if(!qO kv ⟨s,c.Key⟩ c.From)=true then some ((i:Int),kv,c)else none)with|some b=> .inr b|none=> .inl (kv,c.Serial,c.Issuer,c.Subject,c.Key,c.Names,c.From,c.Until,c.Ca,c.Depth,c.Permit,c.Proms,c.Sig.E,c.Sig.S)):=by
  intro i s hs;unfold AF;rw[JI hs];simp only[AE];show Ac (BJ s kv c) _=_;rw[h11];cases (!qO kv ⟨s,c.Key⟩ c.From)<;>rfl
 obtain⟨r,h1,h2⟩:=eachN_find (body:=AF c.Names) c.Names (fun i s=>if(!qO kv ⟨s,c.Key⟩ c.From)=true then some ((i:Int),kv,c)else none) (kv,c.Serial,c.Issuer,c.Subject,c.Key,c.Names,c.From,c.Until,c.Ca,c.Depth,c.Permit,c.Proms,c.Sig.E,c.Sig.S) (fun i x hx=>by rw[hb i x hx]; by_cases hq:(!qO kv ⟨x,c.Key⟩ c.From)=true<;>simp[hq]) c.Names.length 0 (by omega);unfold Cs AW A3;rw[show((0:Nat):Int)=0 from rfl]at h1;rw[h1];rcases h2 with ⟨j,x,b,a1,a2,a3,rfl⟩|⟨rfl,a2⟩
 ·split at a3
  ·rename_i hp;cases a3;have:c.Names.any (fun s=> !qO kv ⟨s,c.Key⟩ c.From)=true:=List.any_eq_true.2 ⟨x,List.mem_of_getElem? a1,hp⟩;rw[this];have:decide ((j:Int)≥0)=true:=decide_eq_true (by omega);simp only[AE,this]
  ·cases a3
 ·have:c.Names.any (fun s=> !qO kv ⟨s,c.Key⟩ c.From)=false:=by
   rw[List.any_eq_false];intro s hs;obtain⟨j,hj⟩:=List.getElem?_of_mem hs;have:=a2 j s (by omega) hj;intro h; rw[if_pos h]at this; cases this
  rw[this]; rfl
theorem app1 {α:Type}{b n:Nat}{s:List α}{x:α}(h:s.length≤n)(hb:(n+1)*b≤140737488355328)(hn:n+1≤140737488355328):app b s [x]=some (s++[x]):=by
 unfold app;have:(s.length+[x].length)*b≤(n+1)*b:=Nat.mul_le_mul_right b (by simp; omega);rw[if_pos ⟨by omega,by simp; omega⟩]
theorem places_c1 (kv:OM){certs:List Ah}{i:Nat}{x:Ah}{out:List Int}(hx:certs[i]? =some x)(ho:out.length≤1000000):
  AJ certs (i:Int) (out,kv)=some (if x.Names.any (fun s=> !qO kv ⟨s,x.Key⟩ x.From)=true then out++[(i:Int)]else out,kv):=by
 unfold AJ;rw[JI hx];simp only[AE,strange_in];split
 ·rw[app1 ho (by decide) (by decide)]; rfl
 ·rfl
theorem places_c (kv:OM)(certs:List Ah)(hl:certs.length≤1000000): ∀(k i:Nat) (out:List Int),i+k=certs.length→out.length≤i→
  Cb (AJ certs) k (i:Int) (out,kv)=some (out++plc (fun c=>c.Names.any (fun s=> !qO kv ⟨s,c.Key⟩ c.From)) (certs.drop i) i,kv)
 |0,i,out,h,ho=>by
  rw[List.drop_of_length_le (by omega)];simp[Cb,plc]
 |k+1,i,out,h,ho=>by
  have hi:i<certs.length:=by omega
  have hx:certs[i]? =some certs[i]:=List.getElem?_eq_getElem hi;show Ac (AJ certs (i:Int) (out,kv)) _=_;rw[places_c1 kv hx (by omega),drop_at hx];unfold plc;split
  ·have:=places_c kv certs hl k (i+1) (out++[(i:Int)]) (by omega) (by simp; omega);rw[List.append_assoc]at this;exact this
  ·exact places_c kv certs hl k (i+1) out (by omega) (by omega)
theorem strange_eq {certs:List Ah}(books:List Ak)(hl:certs.length≤1000000):AN certs books=some (plc (KW books) certs 0):=by
 unfold AN;rw[strange_b];simp only[AE];unfold BF;have:=places_c (Qe books []) certs hl certs.length 0 [] (by omega) (Nat.le_refl _);rw[show((0:Nat):Int)=0 from rfl]at this;rw[this];have e:(fun(c:Ah)=>c.Names.any (fun s=> !qO (Qe books []) ⟨s,c.Key⟩ c.From))=KW books:=by
  funext c;unfold KW;congr 1;funext s;rw[qO_b];rfl
 simp only[AE,List.drop_zero,List.nil_append,e]
def mis (h:A2)(leaves:List (UInt64×UInt64))(k:BK)(p:g_api_Promise):Bool:=(((p.Log==h.Log)&&(p.Log==k.Log))&&(decide ((w64 (p.At+k.Delay))<h.At)))&& !leaves.any (fun x=>Iw x p.Leaf)
abbrev LM:=List ((UInt64×UInt64)×Bool)
def thr (kv:LM)(x:UInt64×UInt64):Bool:=(lkG (Iw x) kv).getD false
def putL:List (UInt64×UInt64)→LM→LM
 | [],kv=>kv
 |x::r,kv=>putL r (upG (Iw x) (x,true) kv)
end Go.Proofs.YtibojdgdjhngiaaGreatDoor
end
section
namespace Go.Proofs.YtibojdgdjhngiaaGreatDoor
open Go Go.Gw Go.Ax
theorem gu_tt {α:Type} [Inhabited α](o:Option α):gu true o=o:=rfl
theorem gu_ff {α:Type} [Inhabited α](o:Option α):gu false o=some default:=rfl
theorem lt_dec {a b:Nat}(h:a<b):decide (((a:Nat):Int)<(b:Int))=true:=decide_eq_true (by omega)
theorem lt_dec' (a:Nat):decide (((a:Nat):Int)<(a:Int))=false:=decide_eq_false (by omega)
theorem and64_low (a:Int):0≤KO a 65535∧KO a 65535≤65535:=by
 unfold KO;have h:(BitVec.ofInt 64 a&&&BitVec.ofInt 64 65535).toNat≤65535:=by
  rw[BitVec.toNat_and];exact Nat.le_trans Nat.and_le_right (by decide)
 rw[MW (by omega) (by omega)];omega
theorem tmod_low (a:Int){n:Nat}(hn:0<n): ∃j:Nat,Int.tmod (KO a 65535) (n:Int)=(j:Int)∧j<n:=by
 obtain⟨h0,h1⟩:=and64_low a;rw[Int.tmod_eq_emod_of_nonneg h0];have a1:=Int.emod_nonneg (KO a 65535) (b:=(n:Int)) (by omega);have a2:=Int.emod_lt_of_pos (KO a 65535) (b:=(n:Int)) (by omega);exact⟨(KO a 65535% (n:Int)).toNat,by omega,by omega⟩
theorem idx_lt {α:Type}{l:List α}{i:Nat}(h:i<l.length):idx l (i:Int)=some l[i]:=JI (List.getElem?_eq_getElem h)
theorem has_eq {l:List Int}(n:Int)(hl:l.length≤1000000):Dr l n=some (l.any (· ==n)):=by
 unfold Dr;rw[iter_find0 l (fun x=>if(x==n)=true then some true else none) hl (fun i x hx=>by
  have hi:=(List.getElem?_eq_some_iff.1 hx).1;unfold DT;rw[lt_dec hi,if_pos rfl,JI hx];simp only[AE];split
  ·rfl
  ·rw[w64_sucN hi hl]) (by unfold DT; rw[lt_dec',if_neg (by decide)]),fndO_any (fun x=>x==n)]
 simp only[AE];cases l.any fun x=>x==n<;>rfl
theorem any_mem {l:List Int}{n:Int}:l.any (· ==n)=true↔n∈l:=by simp
theorem fnd_none {α β:Type}: ∀(l:List α),WM (fun _=>(none:Option β)) l= .inl ()
 | []=>rfl
 |x::r=>fnd_none r
theorem find_none {β:Type}{step:Int→Option (Int⊕(Unit⊕β))}(n:Nat)(hl:n≤1000000)
  (hs: ∀(i:Nat),i<n→step (i:Int)=some (.inl ((i+1:Nat):Int))) (he:step (n:Int)=some (.inr (.inl ()))):iter step Ek 0=some (.inl ()):=by
 have:=iter_find0 (step:=step) (List.replicate n ()) (fun _=>none) (by simpa using hl) (fun i x hx=>hs i (by simpa using (List.getElem?_eq_some_iff.1 hx).1)) (by simpa using he);rw[this,fnd_none]
theorem srt_at {l:List Int}(h:l.Pairwise (· < ·)){i:Nat}(h0:0<i)(hi:i<l.length): ∃a b,idx l (w64 ((i:Int)-1))=some a∧idx l (i:Int)=some b∧¬a≥b∨1000000<i:=by
 by_cases hq:i≤1000000
 ·refine⟨l[i-1],l[i],.inl ⟨?_,idx_lt hi,?_⟩⟩
  ·rw[MW (by omega) (by omega),show(i:Int)-1=((i-1:Nat):Int)from by omega];exact idx_lt (by omega)
  ·have:=(List.pairwise_iff_getElem.1 h) (i-1) i (by omega) hi (by omega);omega
 ·exact⟨0,0,.inr (by omega)⟩
theorem bkd_take {l:List Ak}(n:Nat){s:ByteArray}{k:UInt64}{a:Int}(h:bkd (l.take n) s k a=true):bkd l s k a=true:=by
 unfold bkd at*;obtain⟨b,h1,h2⟩:=List.any_eq_true.1 h;exact List.any_eq_true.2 ⟨b,List.mem_of_mem_take h1,h2⟩
theorem strP_less {l m:List Ak}(h: ∀s k a,bkd m s k a=true→bkd l s k a=true){c:Ah}(hc:KW l c=true):KW m c=true:=by
 unfold KW at*;obtain⟨s,h1,h2⟩:=List.any_eq_true.1 hc;refine List.any_eq_true.2 ⟨s,h1,?_⟩;cases e:bkd m s c.Key c.From with
 |false=>rfl
 |true=>rw[h _ _ _ e]at h2; cases h2
theorem plc_sub {α:Type}{p q:α→Bool}{l:List α}{i:Nat}(h: ∀x,p x=true→q x=true){n:Int}(hn:n∈plc p l i):n∈plc q l i:=by
 obtain⟨j,x,a,b,c⟩:=plc_mem.1 hn;exact plc_mem.2 ⟨j,x,a,h x b,c⟩
theorem plc_at {α:Type}{p:α→Bool}{l:List α}{i:Nat}(hi:i<l.length):(plc p l 0).any (· ==(i:Int))=p l[i]:=by
 refine Bool.eq_iff_iff.2 ?_;rw[any_mem,plc_mem];constructor
 ·rintro⟨j,x,a,b,c⟩;have:j=i:=by omega
  subst this;rw[List.getElem?_eq_getElem hi]at a;cases a; exact b
 ·intro h;exact⟨i,l[i],List.getElem?_eq_getElem hi,h,by simp⟩
end Go.Proofs.YtibojdgdjhngiaaGreatDoor
end
section
namespace Go.Proofs.YtibojdgdjhngiaaGreatDoor
open Go Go.Gw Go.Ax
theorem live30_true:GX=some true:=by kernel_rfl
end Go.Proofs.YtibojdgdjhngiaaGreatDoor
end
section
namespace Go.Proofs.YtibojdgdjhngiaaGreatDoor
open Go Go.Gw Go.Ax
theorem strP_none (c:Ah):KW [] c=decide ((c.Names.length:Int)>0):=by
 unfold KW;cases c.Names with
 |nil=>rfl
 |cons s r=>
  have:decide (((s::r).length:Int)>0)=true:=decide_eq_true (by rw[List.length_cons]; omega);rw[this]; simp[bkd]
theorem less_b1 {a0:List Ah}{a1:List Ak}{n:Nat}(hl:a0.length≤40){i:Nat}(hi:i<(plc (KW a1) a0 0).length):
  Bz (plc (KW a1) a0 0) (plc (KW (a1.take n)) a0 0) (i:Int)=some (.inl ((i+1:Nat):Int)):=by
 have L1:=plc_len (KW a1) a0 0;have L2:=plc_len (KW (a1.take n)) a0 0;have e1:(plc (KW (a1.take n)) a0 0).any (· ==(plc (KW a1) a0 0)[i])=true:=any_mem.2 (plc_sub (fun x h=>strP_less (fun s k a q=>bkd_take n q) h) (List.getElem_mem hi));have S:=(plc_srt (p:=KW a1) (xs:=a0) (i:=0)).1;generalize plc (KW a1) a0 0=X at*;generalize plc (KW (a1.take n)) a0 0=Y at*;unfold Bz;rw[lt_dec hi,if_pos rfl,idx_lt hi,AE,has_eq _ (by omega),e1,AE];by_cases h0:0<i
 ·have:decide ((i:Int)>0)=true:=decide_eq_true (by omega);rw[this];obtain⟨a,b,h|h⟩:=srt_at S h0 hi
  ·obtain⟨h1,h2,h3⟩:=h;rw[h1];rw[idx_lt hi]at h2;cases h2;simp only[Bool.not_true,Bool.not_false,Bool.true_and,gu_tt,AE,decide_eq_false h3,Bool.and_false,Bool.or_false,Bool.false_eq_true,if_false];rw[w64_sucN hi (by omega)]
  ·omega
 ·have:decide ((i:Int)>0)=false:=decide_eq_false (by omega);rw[this];simp only[Bool.not_true,Bool.not_false,Bool.true_and,gu_ff,AE,Bool.false_and,Bool.or_false,Bool.false_eq_true,if_false];rw[w64_sucN hi (by omega)]
theorem less_b2 {a0:List Ah}{m:List Ak}(hl:a0.length≤40){i:Nat}(hi:i<a0.length):
  By a0 (plc (KW m) a0 0) (plc (KW []) a0 0) (i:Int)=some (.inl ((i+1:Nat):Int)):=by
 have L2:=plc_len (KW m) a0 0;have L3:=plc_len (KW []) a0 0;unfold By;rw[lt_dec hi,if_pos rfl,has_eq _ (by omega),plc_at hi,AE,idx_lt hi,AE,strP_none];rw[bne_self_eq_false,Bool.not_false,gu_tt,has_eq _ (by omega),plc_at hi,AE,Bool.true_and];cases h:KW m a0[i]with
 |false=>rw[gu_ff,AE,Bool.false_and,Bool.or_false,if_neg (by decide),w64_sucN hi (by omega)]
 |true=>
  have:KW [] a0[i]=true:=strP_less (l:=m) (m:=[]) (fun s k a q=>by simp[bkd]at q) h;rw[strP_none]at this;rw[gu_tt,AE,this,if_neg (by decide),w64_sucN hi (by omega)]
theorem less_true (a0:List Ah)(a1:List Ak)(a2:Int):Ct a0 a1 a2=some true:=by
 unfold Ct;rw[live30_true,AE,if_neg (by decide),fewC_eq,AE];cases hc:Tx a0
 case false=>rfl
 obtain⟨hl,hn⟩:=fewC_in hc;rw[fewB_eq,show(!!true)=true from rfl,gu_tt,AE];cases hb:Ty a1
 case false=>rfl
 obtain⟨hbl,hbn⟩:=fewB_in hb;rw[if_neg (by decide)];have e0:w64 ((a1.length:Int)+1)=((a1.length+1:Nat):Int):=MW (by omega) (by omega);obtain⟨n,en,hlt⟩:=tmod_low a2 (n:=a1.length+1) (by omega);have ecut:cut a1 0 (n:Int)=some (a1.take n):=by
  unfold cut;rw[if_pos ⟨by omega,by omega,by omega⟩];simp
 rw[e0,if_pos (by omega),en];show Ac (AN a0 a1) _=_;have L1:=plc_len (KW a1) a0 0;rw[strange_eq a1 (by omega),AE,ecut,AE,strange_eq (a1.take n) (by omega),AE,strange_eq [] (by omega),AE];rw[find_none (plc (KW a1) a0 0).length (by omega) (fun i hi=>less_b1 hl hi) (by unfold Bz; rw[lt_dec',if_neg (by decide)]),AE];dsimp only;rw[find_none a0.length (by omega) (fun i hi=>less_b2 hl hi) (by unfold By; rw[lt_dec',if_neg (by decide)]),AE]
end Go.Proofs.YtibojdgdjhngiaaGreatDoor
end
section
namespace Go.Proofs.YtibojdgdjhngiaaGreatDoor.lawMonitorLess
open Go Go.Gw Go.ChangeShapes Go.WideShapes Go.ChangeAt Go.RowKit
theorem own:ownKnob Tryz.prog.godebug=none:=by kernel_rfl
theorem tab_ir:Ir Tryz.prog 276 (.agg [.agg [.lit (.int .i64 1),.held [103,114,101,97,116,115,101,97,108,47,100,101,114,46,107,105,110,100,115,36,49]],.agg [.lit (.int .i64 2),.held [103,114,101,97,116,115,101,97,108,47,100,101,114,46,108,101,97,115,116]],.agg [.lit (.int .i64 4),.held [103,114,101,97,116,115,101,97,108,47,100,101,114,46,107,105,110,100,115,36,50]],.agg [.lit (.int .i64 12),.held [103,114,101,97,116,115,101,97,108,47,100,101,114,46,107,105,110,100,115,36,51]],.agg [.lit (.int .i64 48),.held [103,114,101,97,116,115,101,97,108,47,100,101,114,46,107,105,110,100,115,36,52]]]) [[.int .i64 1,.func (.func 305) #[] #[]],[.int .i64 2,.func (.func 149) #[] #[]],[.int .i64 4,.func (.func 306) #[] #[]],[.int .i64 12,.func (.func 307) #[] #[]],[.int .i64 48,.func (.func 310) #[] #[]]].flatten:=
 Ir.arr (n:=5) (k:=2) Tryz.underlying276 (by kernel_rfl) (by kernel_rfl) rfl rfl fun i d c h1 h2=>by
  match i,h1,h2 with
  |0,h1,h2=>cases h1; cases h2; exact Ir.pair Tryz.underlying236 rfl rfl rfl (by kernel_rfl) rfl rfl (by kernel_rfl) (by kernel_rfl) (Ir.int Tryz.underlying3) (Ir.fn Tryz.underlying115 Tryz.func305 (by kernel_rfl) (by kernel_rfl))
  |1,h1,h2=>cases h1; cases h2; exact Ir.pair Tryz.underlying236 rfl rfl rfl (by kernel_rfl) rfl rfl (by kernel_rfl) (by kernel_rfl) (Ir.int Tryz.underlying3) (Ir.fn Tryz.underlying115 Tryz.func149 (by kernel_rfl) (by kernel_rfl))
  |2,h1,h2=>cases h1; cases h2; exact Ir.pair Tryz.underlying236 rfl rfl rfl (by kernel_rfl) rfl rfl (by kernel_rfl) (by kernel_rfl) (Ir.int Tryz.underlying3) (Ir.fn Tryz.underlying115 Tryz.func306 (by kernel_rfl) (by kernel_rfl))
  |3,h1,h2=>cases h1; cases h2; exact Ir.pair Tryz.underlying236 rfl rfl rfl (by kernel_rfl) rfl rfl (by kernel_rfl) (by kernel_rfl) (Ir.int Tryz.underlying3) (Ir.fn Tryz.underlying115 Tryz.func307 (by kernel_rfl) (by kernel_rfl))
  |4,h1,h2=>cases h1; cases h2; exact Ir.pair Tryz.underlying236 rfl rfl rfl (by kernel_rfl) rfl rfl (by kernel_rfl) (by kernel_rfl) (Ir.int Tryz.underlying3) (Ir.fn Tryz.underlying115 Tryz.func310 (by kernel_rfl) (by kernel_rfl))
  |n+5,h1,h2=>cases h1
theorem gB {W:World}(h:laidMetH Tryz.prog Rows.monitorLessRow.laid W):GB (memOf W):=fun p hp=>by
 obtain rfl:=List.mem_singleton.1 hp;exact gb_of (name:= "greatseal/der.kinds") (by kernel_rfl) (by kernel_rfl) (laidMetH.funcs h (d:= .agg [.agg [.lit (.int .i64 1),.iface "func" (.lit (.string [103,114,101,97,116,115,101,97,108,47,100,101,114,46,107,105,110,100,115,36,49]))],.agg [.lit (.int .i64 2),.iface "func" (.lit (.string [103,114,101,97,116,115,101,97,108,47,100,101,114,46,108,101,97,115,116]))],.agg [.lit (.int .i64 4),.iface "func" (.lit (.string [103,114,101,97,116,115,101,97,108,47,100,101,114,46,107,105,110,100,115,36,50]))],.agg [.lit (.int .i64 12),.iface "func" (.lit (.string [103,114,101,97,116,115,101,97,108,47,100,101,114,46,107,105,110,100,115,36,51]))],.agg [.lit (.int .i64 48),.iface "func" (.lit (.string [103,114,101,97,116,115,101,97,108,47,100,101,114,46,107,105,110,100,115,36,52]))]]) (List.Mem.tail _ (List.Mem.head _))) tab_ir
theorem rd3:Rd Tryz.prog 3 (Int):=Rd.int Tryz.underlying3
theorem rd9:Rd Tryz.prog 9 (ByteArray):=Rd.str Tryz.underlying9
theorem rd22:Rd Tryz.prog 22 (UInt64):=Rd.u64 Tryz.underlying22
theorem rd57:Rd Tryz.prog 57 (List ByteArray):=Rd.slice Tryz.underlying57 rd9 (by kernel_rfl) (by decide)
theorem rd4:Rd Tryz.prog 4 (Bool):=Rd.bool Tryz.underlying4
theorem rd38:Rd Tryz.prog 38 (UInt64×UInt64):=Rd.arr2 Tryz.underlying38 rd22 (by kernel_rfl) (by kernel_rfl)
theorem rd40:Rd Tryz.prog 40 (g_api_Sig):=Rd.struct Tryz.underlying40 (Kj.more rfl rd22 (by kernel_rfl) (Kj.last rfl rd22 (by kernel_rfl))) (by kernel_rfl) (fun b=>⟨b.1,b.2⟩) (fun h=>h)
theorem rd82:Rd Tryz.prog 82 (g_api_Promise):=Rd.struct Tryz.underlying82 (Kj.more rfl rd3 (by kernel_rfl) (Kj.more rfl rd3 (by kernel_rfl) (Kj.more rfl rd38 (by kernel_rfl) (Kj.last rfl rd40 (by kernel_rfl))))) (by kernel_rfl) (fun b=>⟨b.1,b.2.1,b.2.2.1,b.2.2.2⟩) (fun h=>h)
theorem rd36:Rd Tryz.prog 36 (List g_api_Promise):=Rd.slice Tryz.underlying36 rd82 (by kernel_rfl) (by decide)
theorem rd59:Rd Tryz.prog 59 (Ah):=Rd.struct Tryz.underlying59 (Kj.more rfl rd3 (by kernel_rfl) (Kj.more rfl rd9 (by kernel_rfl) (Kj.more rfl rd9 (by kernel_rfl) (Kj.more rfl rd22 (by kernel_rfl) (Kj.more rfl rd57 (by kernel_rfl) (Kj.more rfl rd3 (by kernel_rfl) (Kj.more rfl rd3 (by kernel_rfl) (Kj.more rfl rd4 (by kernel_rfl) (Kj.more rfl rd3 (by kernel_rfl) (Kj.more rfl rd57 (by kernel_rfl) (Kj.more rfl rd36 (by kernel_rfl) (Kj.last rfl rd40 (by kernel_rfl))))))))))))) (by kernel_rfl) (fun b=>⟨b.1,b.2.1,b.2.2.1,b.2.2.2.1,b.2.2.2.2.1,b.2.2.2.2.2.1,b.2.2.2.2.2.2.1,b.2.2.2.2.2.2.2.1,b.2.2.2.2.2.2.2.2.1,b.2.2.2.2.2.2.2.2.2.1,b.2.2.2.2.2.2.2.2.2.2.1,b.2.2.2.2.2.2.2.2.2.2.2⟩) (fun h=>h)
theorem rd29:Rd Tryz.prog 29 (List Ah):=Rd.slice Tryz.underlying29 rd59 (by kernel_rfl) (by decide)
theorem rd65:Rd Tryz.prog 65 (Ak):=Rd.struct Tryz.underlying65 (Kj.more rfl rd9 (by kernel_rfl) (Kj.more rfl rd57 (by kernel_rfl) (Kj.more rfl rd22 (by kernel_rfl) (Kj.last rfl rd3 (by kernel_rfl))))) (by kernel_rfl) (fun b=>⟨b.1,b.2.1,b.2.2.1,b.2.2.2⟩) (fun h=>h)
theorem rd35:Rd Tryz.prog 35 (List Ak):=Rd.slice Tryz.underlying35 rd65 (by kernel_rfl) (by decide)
theorem contract (H:Type)(enc:TypeId×Value→H)(W:World)(base:Nat)(args:Array Value)(ds gs:List (DataW H))(before:List MemPlace)
  (hval: ∀(j:Nat) t v,Tryz.f7.params[j]? =some t→args[j]? =some v→Value.okWide Tryz.prog W .any base t v)
  (hW:DataW.Whole enc Tryz.prog Tryz.f7.params.toList Rows.monitorLessSpec.vars false W args.toList ds gs before) (hL:laidMetH Tryz.prog Rows.monitorLessRow.laid W):
  Calls Tryz.prog 7 args W fun e W'=> ∃v,e= .returned v∧Rows.monitorLessSpec.post enc Tryz.prog Tryz.f7 false true false false W args v W':=by
 have hW':=hW;obtain⟨p,q,hA0,hV,rfl,hfz,hnd⟩:=hW;obtain⟨rfl,rfl⟩:=trodVars_none hV;rw[List.append_nil]at hW';have hA:DataW.TrodAll enc Tryz.prog W 0 (fun _=>true) true Tryz.f7.params.toList args.toList ds p:=hA0;have hA1:=hA;have hpl:Tryz.f7.params.toList=[29,35,3]:=by rw[Tryz.params7]
 rw[hpl]at hA1;obtain⟨v0,w0,d0,e0,p0,q0,ha0,he0,hp0,h0,r0⟩:=trodAll_cons hA1;obtain⟨v1,w1,d1,e1,p1,q1,ha1,he1,hp1,h1,r1⟩:=trodAll_cons r0;obtain⟨v2,w2,d2,e2,p2,q2,ha2,he2,hp2,h2,r2⟩:=trodAll_cons r1;obtain⟨z1,z2,z3⟩:=trodAll_nil r2;obtain rfl:args= #[v0,v1,v2]:=by
  apply Array.ext'; rw[ha0,ha1,ha2,z1]
 obtain rfl:ds=[d0,d1,d2]:=by rw[he0,he1,he2,z2]
 rw[Tryz.params7]at hval;obtain⟨x0,l0,c0,rfl⟩:=okWide_slice Tryz.underlying29 (hval 0 29 v0 rfl rfl);obtain⟨a0,s0⟩:=rd29.openS h0;obtain⟨x1,l1,c1,rfl⟩:=okWide_slice Tryz.underlying35 (hval 1 35 v1 rfl rfl);obtain⟨a1,s1⟩:=rd35.openS h1;obtain⟨a2,rfl,_,_,_⟩:=open_int Tryz.underlying3 (hval 2 3 v2 rfl rfl) h2;have hc:=Jv (St.of W (gB hL)) s0 s1 (less_true a0 a1 a2);refine Calls.mono hc ?_;rintro e W' ⟨v,rfl,hk,M,hle,S,rfl⟩;refine⟨.bool true,rfl,SZ (tb:=4) (by kernel_rfl) (by kernel_rfl) rfl (by kernel_rfl) Tryz.underlying4 hW' hA rfl rfl rfl hle S hk⟩
noncomputable def Mk (os:Os):World:=
 {World.holding Tryz.prog os ⟨#[], #[],[]⟩with heap:=((((World.holding Tryz.prog os ⟨#[], #[],[]⟩).heap.modify 5 fun| .cells _ t fr=> .cells #[.int .u8 128,.int .u8 191,.int .u8 160,.int .u8 191,.int .u8 128,.int .u8 159,.int .u8 144,.int .u8 191,.int .u8 128,.int .u8 143,.int .u8 0,.int .u8 0,.int .u8 0,.int .u8 0,.int .u8 0,.int .u8 0,.int .u8 0,.int .u8 0,.int .u8 0,.int .u8 0,.int .u8 0,.int .u8 0,.int .u8 0,.int .u8 0,.int .u8 0,.int .u8 0,.int .u8 0,.int .u8 0,.int .u8 0,.int .u8 0,.int .u8 0,.int .u8 0] t fr|o=>o).modify 2 fun| .cells _ t fr=> .cells [[.int .i64 1,.func (.func 305) #[] #[]],[.int .i64 2,.func (.func 149) #[] #[]],[.int .i64 4,.func (.func 306) #[] #[]],[.int .i64 12,.func (.func 307) #[] #[]],[.int .i64 48,.func (.func 310) #[] #[]]].flatten.toArray t fr|o=>o).modify 4 fun| .cells _ t fr=> .cells ((List.replicate 128 240++List.replicate 66 241++List.replicate 30 2++[19]++List.replicate 12 3++[35,3,3,52,4,4,4,68]++List.replicate 11 241:List Int).map fun n=>Value.int .u8 n).toArray t fr|o=>o)}
theorem laid_met (os:Os):laidMetH Tryz.prog Rows.monitorLessRow.laid ((Mk os).forCall (fun _ _=>0) ⟨#[], #[(.slice none 0 0:Value),(.slice none 0 0:Value),(.int .i64 0:Value)],[]⟩).memory:=
 laidMetH_of_parts3 (fuel:=8) (laidMet_of_run' 8 (by kernel_rfl) (by kernel_rfl)) (by kernel_rfl) (by kernel_rfl)
theorem reads (os:Os){H:Type}(enc:TypeId×Value→H): ∃places,DataW.whole enc Tryz.prog ((Mk os).forCall (fun _ _=>0) ⟨#[], #[(.slice none 0 0:Value),(.slice none 0 0:Value),(.int .i64 0:Value)],[]⟩).memory Tryz.f7.params.toList Rows.monitorLessSpec.vars false #[(.slice none 0 0:Value),(.slice none 0 0:Value),(.int .i64 0:Value)].toList 8=some ([.nil,.nil,.lit (.int .i64 0)],[],places):=
 ⟨[],by kernel_rfl⟩
theorem lifted (os:Os)(started:os.Started)(H:Type)(enc:TypeId×Value→H)(F:Stop.Interp):
  ReturnsInHanded {} Tryz.checked os 7 .any ((OpenSpec.ofChange Rows.monitorLessSpec).preRow enc Tryz.prog Tryz.f7 Rows.monitorLessRow.domain false Rows.monitorLessRow.laid) (((OpenSpec.ofChange Rows.monitorLessSpec).at F).post enc Tryz.prog Tryz.f7 false true false false):=by
 obtain⟨places,hx⟩:=reads os enc;refine returnsInHanded_of_row (C:=Tryz.checked) (s:=OpenSpec.ofChange Rows.monitorLessSpec) own started (by kernel_rfl) Tryz.func7
  (witness_row_at (enc:=enc) (C:=Tryz.checked) false (Mk os) #[(.slice none 0 0:Value),(.slice none 0 0:Value),(.int .i64 0:Value)] rfl (by kernel_rfl) (by kernel_rfl) (by kernel_rfl)
   (OpenSpec.preRow_of_cond 8 hx (by kernel_rfl) (fun k hk=>by cases hk) (by kernel_rfl) (laid_met os))) ?_
 intro W base args ds gs before hval hW _ _ _ hL _ _;exact contract H enc W base args ds gs before hval hW hL
theorem j0:laidOutB Tryz.prog=true:=by kernel_rfl
theorem j1:mapsRowed Tryz.prog=true:=by kernel_rfl
theorem j2:(Rows.monitorLessRow.inPlace==Tryz.prog.inPlace 7)=true:=by kernel_rfl
theorem j3:(Rows.monitorLessRow.unfollowed==Tryz.prog.unfollowed 7)=true:=by kernel_rfl
theorem j4:(Rows.monitorLessRow.recurses==Tryz.prog.recurses 7)=true:=by kernel_rfl
theorem j5:(Rows.monitorLessRow.named==Tryz.prog.varsNamed 7)=true:=by kernel_rfl
theorem joined:joinedFacts Tryz.prog 7 Tryz.f7 (OpenSpec.ofChange Rows.monitorLessSpec).bare Rows.monitorLessRow=true:=by
 unfold joinedFacts;rw[j0,j1,j2,j3,j4,j5];kernel_rfl
theorem said:Rows.MonitorLessSaid:=
 OpenClaim.holds_of_cond 7 Tryz.f7 rfl rfl rfl rfl rfl rfl rfl ⟨rfl,rfl,rfl,rfl,rfl⟩ rfl rfl rfl rfl rfl (by kernel_rfl) Tryz.func7 joined
  (of_decide_eq_true (by kernel_rfl)) (by unfold Func.isWrapper; first|(rw[if_pos (by decide+kernel)]; kernel_rfl)|(rw[if_neg (by decide+kernel)]; exact⟨rfl,rfl⟩))
  (fun os started H enc _ F=>by rw[OpenClaim.pre_eq_preRow]; exact lifted os started H enc F)
theorem plain (f:FuncId)(fn:Func)(hf:Tryz.pinned.checked.prog.funcNamed "greatseal/greatseallaw30.MonitorLess" =some f)(hfn:Tryz.pinned.checked.prog.funcs[f]? =some fn):
  true=Tryz.pinned.checked.prog.looks []∧∀(j:Nat) t,fn.params[j]? =some t→Tryz.pinned.checked.prog.wantsStandIn t=false:=by
 obtain rfl:f=7:=Option.some.inj ((show Tryz.prog.funcNamed "greatseal/greatseallaw30.MonitorLess" =some 7 by kernel_rfl).symm.trans hf)|>.symm;obtain rfl:fn=Tryz.f7:=(Option.some.inj (Tryz.func7.symm.trans hfn)).symm;refine⟨by kernel_rfl,fun j t ht=> ?_⟩;rw[Tryz.params7]at ht;have hm:t∈[29,35,3]:=by simpa using Array.mem_of_getElem? ht
 have hall:([29,35,3].all fun u=> !Tryz.prog.wantsStandIn u)=true:=by kernel_rfl
 exact(show Tryz.prog.wantsStandIn t=false by simpa using List.all_eq_true.1 hall t hm)
theorem card:Rows.MonitorLessCardSaid:=
 Claim7.holds_tied_plain_at .later [] _ _ _ _ said (fun _ h=>by cases h) (by kernel_rfl) (fun _ h=>by cases h) monitorLess_row_tie rfl ⟨rfl,rfl⟩ (by kernel_rfl) rfl plain (by kernel_rfl)
end Go.Proofs.YtibojdgdjhngiaaGreatDoor.lawMonitorLess
end
