/- Several texts, one behind the other. Conditions: none. -/
import Derived.Test.YtibojdgdjhngiaaGreatDoorZg
import Derived.Test.YtibojdgdjhngiaaGreatDoorZh
import Derived.Test.YtibojdgdjhngiaaGreatDoorZi
import Derived.KernelRfl
import Derived.Test.YtibojdgdjhngiaaGreatDoorZb
import Derived.Test.YtibojdgdjhngiaaGreatDoorZj
import Derived.Test.YtibojdgdjhngiaaGreatDoorCards
import Derived.Test.YtibojdgdjhngiaaGreatDoorTie
import Derived.WalkKit
import Derived.ProofKit
import Derived.OpenShut
import Derived.Deep.DeepHandedRow
import Derived.Lib.LaidTab
import Derived.SevenTiedAt
import Derived.Stop.LaidErr
set_option linter.unusedSimpArgs false
set_option linter.unusedVariables false
set_option maxHeartbeats 20000000
set_option maxRecDepth 100000
section
namespace Go.Proofs.YtibojdgdjhngiaaGreatDoor
open Go Go.Gw Go.Ax
theorem w64_sN {i n:Nat}(h:i<n)(hn:n≤1000000):w64 ((i:Int)+1)=((i+1:Nat):Int):=by rw[O2 (by omega) (by omega)]; rfl
theorem drop_at {α:Type}{xs:List α}{i:Nat}{x:α}(h:xs[i]? =some x):xs.drop i=x::xs.drop (i+1):=by
 obtain⟨hi,rfl⟩:=List.getElem?_eq_some_iff.1 h;exact List.drop_eq_getElem_cons hi
def WK {α β:Type}(f:α→Option β):List α→(Unit⊕β)
 | []=> .inl ()
 |x::r=>match f x with|some b=> .inr b|none=>WK f r
theorem iter_find {α β:Type}{step:Int→Option (Int⊕(Unit⊕β))}(xs:List α)(f:α→Option β)
  (hs: ∀(i:Nat) (x:α),xs[i]? =some x→step (i:Int)=some (match f x with|some b=> .inr (.inr b)|none=> .inl ((i+1:Nat):Int)))
  (he:step (xs.length:Int)=some (.inr (.inl ()))): ∀(k i n:Nat),i+k=xs.length→k<n→iter step n (i:Int)=some (WK f (xs.drop i))
 |0,i,n,h,hn=>by
  obtain⟨n,rfl⟩: ∃q,n=q+1:=⟨n-1,by omega⟩;have h:i=xs.length:=by omega
  subst h;show Ac (step _) _=_;rw[he,List.drop_length]; rfl
 |k+1,i,n,h,hn=>by
  obtain⟨n,rfl⟩: ∃q,n=q+1:=⟨n-1,by omega⟩;have hi:i<xs.length:=by omega
  have hx:xs[i]? =some xs[i]:=List.getElem?_eq_getElem hi;show Ac (step _) _=_;rw[hs i _ hx,drop_at hx];unfold WK;cases f xs[i]with
  |some b=>rfl
  |none=>exact iter_find xs f hs he k (i+1) n (by omega) (by omega)
theorem iter_find0 {α β:Type}{step:Int→Option (Int⊕(Unit⊕β))}(xs:List α)(f:α→Option β)(hl:xs.length≤1000000)
  (hs: ∀(i:Nat) (x:α),xs[i]? =some x→step (i:Int)=some (match f x with|some b=> .inr (.inr b)|none=> .inl ((i+1:Nat):Int)))
  (he:step (xs.length:Int)=some (.inr (.inl ()))):iter step DX 0=some (WK f xs):=
 iter_find xs f hs he xs.length 0 DX (by omega) (by have:(1000001:Nat)≤DX:=Nat.le_of_ble_eq_true rfl; omega)
def Q6 {α σ:Type}(g:Nat→σ→α→σ):List α→Nat→σ→σ
 | [],_,s=>s
 |x::r,i,s=>Q6 g r (i+1) (g i s x)
theorem iter_fold {α σ τ:Type}{step:τ→Option (τ⊕σ)}(pr:σ→Int→τ)(xs:List α)(g:Nat→σ→α→σ)(I:Nat→σ→Prop)
  (hs: ∀(i:Nat) (x:α) (s:σ),xs[i]? =some x→I i s→step (pr s (i:Int))=some (.inl (pr (g i s x) ((i+1:Nat):Int)))∧I (i+1) (g i s x))
  (he: ∀s,I xs.length s→step (pr s (xs.length:Int))=some (.inr s)): ∀(k i n:Nat) (s:σ),i+k=xs.length→k<n→I i s→iter step n (pr s (i:Int))=some (Q6 g (xs.drop i) i s)
 |0,i,n,s,h,hn,hI=>by
  obtain⟨n,rfl⟩: ∃q,n=q+1:=⟨n-1,by omega⟩;have h:i=xs.length:=by omega
  subst h;show Ac (step _) _=_;rw[he s hI,List.drop_length]; rfl
 |k+1,i,n,s,h,hn,hI=>by
  obtain⟨n,rfl⟩: ∃q,n=q+1:=⟨n-1,by omega⟩;have hi:i<xs.length:=by omega
  have hx:xs[i]? =some xs[i]:=List.getElem?_eq_getElem hi;obtain⟨h1,h2⟩:=hs i _ s hx hI;show Ac (step _) _=_;rw[h1,drop_at hx];exact iter_fold pr xs g I hs he k (i+1) n _ (by omega) (by omega) h2
theorem iter_fold0 {α σ τ:Type}{step:τ→Option (τ⊕σ)}(pr:σ→Int→τ)(xs:List α)(g:Nat→σ→α→σ)(I:Nat→σ→Prop)(hl:xs.length≤1000000)
  (hs: ∀(i:Nat) (x:α) (s:σ),xs[i]? =some x→I i s→step (pr s (i:Int))=some (.inl (pr (g i s x) ((i+1:Nat):Int)))∧I (i+1) (g i s x))
  (he: ∀s,I xs.length s→step (pr s (xs.length:Int))=some (.inr s)) (s:σ) (hI:I 0 s):iter step DX (pr s 0)=some (Q6 g xs 0 s):=
 iter_fold pr xs g I hs he xs.length 0 DX s (by omega) (by have:(1000001:Nat)≤DX:=Nat.le_of_ble_eq_true rfl; omega) hI
theorem eachN_find {α β σ:Type}{body:Int→σ→Option (σ⊕β)}(xs:List α)(f:Nat→α→Option β)(s0:σ)
  (hs: ∀(i:Nat) (x:α),xs[i]? =some x→body (i:Int) s0=some (match f i x with|some b=> .inr b|none=> .inl s0)):
  ∀(k i:Nat),i+k=xs.length→∃r,Il body k (i:Int) s0=some r∧((∃(j:Nat) (x:α) (b:β),xs[j]? =some x∧i≤j∧f j x=some b∧r= .inr b)∨(r= .inl s0∧∀(j:Nat) (x:α),i≤j→xs[j]? =some x→f j x=none))
 |0,i,h=>⟨.inl s0,rfl,.inr ⟨rfl,fun j x hj hx=>by
   have:=(List.getElem?_eq_some_iff.1 hx).1; omega⟩⟩
 |k+1,i,h=>by
  have hi:i<xs.length:=by omega
  have hx:xs[i]? =some xs[i]:=List.getElem?_eq_getElem hi;show∃r,Ac (body _ _) _=_∧_;rw[hs i _ hx];cases hf:f i xs[i]with
  |some b=>exact⟨.inr b,rfl,.inl ⟨i,_,b,hx,Nat.le_refl _,hf,rfl⟩⟩
  |none=>
   obtain⟨r,h1,h2⟩:=eachN_find xs f s0 hs k (i+1) (by omega);refine⟨r,h1,?_⟩;rcases h2 with ⟨j,x,b,a1,a2,a3,a4⟩|⟨a1,a2⟩
   ·exact .inl ⟨j,x,b,a1,by omega,a3,a4⟩
   ·refine .inr ⟨a1,fun j x hj hx'=> ?_⟩;rcases Nat.lt_or_ge i j with q|q
    ·exact a2 j x q hx'
    ·have:j=i:=by omega
     subst this; rw[hx]at hx'; cases hx'; exact hf
theorem fndO_any {α:Type}(p:α→Bool)(v:Bool): ∀(xs:List α),WK (fun x=>if p x=true then some v else none) xs=if xs.any p=true then .inr v else .inl ()
 | []=>rfl
 |x::r=>by
  unfold WK;cases h:p x with
  |true=>simp[h]
  |false=>simp[h,fndO_any p v r]
def plc {α:Type}(p:α→Bool):List α→Nat→List Int
 | [],_=> []
 |x::r,i=>if p x=true then(i:Int)::plc p r (i+1)else plc p r (i+1)
theorem plc_len {α:Type}(p:α→Bool): ∀(xs:List α) (i:Nat),(plc p xs i).length≤xs.length
 | [],_=>Nat.le_refl _
 |x::r,i=>by
  unfold plc;have:=plc_len p r (i+1);split<;>simp<;>omega
theorem plc_nil {α:Type}{p:α→Bool}: ∀{xs:List α} {i:Nat},(∀x∈xs,p x=false)→plc p xs i=[]
 | [],_,_=>rfl
 |x::r,i,h=>by
  unfold plc;rw[if_neg (by rw[h x List.mem_cons_self]; decide)];exact plc_nil fun y hy=>h y (List.mem_cons_of_mem _ hy)
theorem plc_mem {α:Type}{p:α→Bool}: ∀{xs:List α} {i:Nat} {n:Int},n∈plc p xs i↔∃(j:Nat) (x:α),xs[j]? =some x∧p x=true∧n=((i+j:Nat):Int)
 | [],i,n=>by simp[plc]
 |x::r,i,n=>by
  unfold plc;have ih:= @plc_mem α p r (i+1) n;constructor
  ·intro h;have h':(p x=true∧n=(i:Int))∨n∈plc p r (i+1):=by
    split at h
    ·rename_i hp;rcases List.mem_cons.1 h with q|q
     ·exact .inl ⟨hp,q⟩
     ·exact .inr q
    ·exact .inr h
   rcases h' with ⟨q1,q2⟩|q
   ·exact⟨0,x,rfl,q1,by rw[q2]; rfl⟩
   ·obtain⟨j,y,a,b,c⟩:=ih.1 q;exact⟨j+1,y,a,b,by rw[c]; congr 1; omega⟩
  ·rintro⟨j,y,a,b,c⟩;cases j with
   |zero=>
    cases a;rw[if_pos b,c]; exact List.mem_cons_self
   |succ j=>
    have:n∈plc p r (i+1):=ih.2 ⟨j,y,a,b,by rw[c]; congr 1; omega⟩;split
    ·exact List.mem_cons_of_mem _ this
    ·exact this
def KD (l:List ByteArray):Bool:= !(l.take 20).any (fun s=>decide ((s.size:Int)>200))&&decide ((l.length:Int)≤16)
theorem idx_take {α:Type}{l:List α}{n i:Nat}{x:α}(h:(l.take n)[i]? =some x):idx l (i:Int)=some x∧i<l.length∧i<n:=by
 rw[List.getElem?_take]at h;split at h
 ·exact⟨JH h,(List.getElem?_eq_some_iff.1 h).1,‹_›⟩
 ·cases h
theorem little_eq (l:List ByteArray):Da l=some (KD l):=by
 unfold Da KD;rw[iter_find0 (l.take 20) (fun s=>if decide ((s.size:Int)>200)=true then some false else none) (by simp; omega) (fun i x hx=> ?_) ?_,fndO_any]
 ·simp only[Aw];cases (l.take 20).any fun s=>decide ((s.size:Int)>200)<;>rfl
 ·unfold CS;rw[if_neg (by simp; omega)]
 ·obtain⟨h1,h2,h3⟩:=idx_take hx;unfold CS;rw[if_pos (by simp; omega),h1];simp only[Aw];split
  ·rfl
  ·rw[w64_sN h3 (by omega)]
def J8 (c:Ah):Bool:=((((decide ((c.Issuer.size:Int)≤300))&&(decide ((c.Subject.size:Int)≤300)))&&KD c.Names)&&KD c.Permit)&&(decide ((c.Proms.length:Int)≤8))
theorem few18_eq (c:Ah):Gl c=some (J8 c):=by
 unfold Gl J8;rw[little_eq,little_eq];cases (decide ((c.Issuer.size:Int)≤300))&&(decide ((c.Subject.size:Int)≤300))
 ·rfl
 ·cases KD c.Names<;>rfl
theorem few18_names {c:Ah}(h:J8 c=true):c.Names.length≤16:=by
 simp only[J8,KD,Bool.and_eq_true,decide_eq_true_eq]at h;omega
def Tv (l:List Ah):Bool:= !(l.take 40).any (fun c=> !J8 c)&&decide ((l.length:Int)≤40)
theorem fewC_eq (l:List Ah):C5 l=some (Tv l):=by
 unfold C5 Tv;rw[iter_find0 (l.take 40) (fun c=>if(!J8 c)=true then some false else none) (by simp; omega) (fun i x hx=> ?_) ?_,fndO_any]
 ·simp only[Aw];cases (l.take 40).any fun c=> !J8 c<;>rfl
 ·unfold Cs;rw[if_neg (by simp; omega)]
 ·obtain⟨h1,h2,h3⟩:=idx_take hx;unfold Cs;rw[if_pos (by simp; omega),h1];simp only[Aw,few18_eq];split
  ·rfl
  ·rw[w64_sN h3 (by omega)]
theorem fewC_in {l:List Ah}(h:Tv l=true):l.length≤40∧∀c∈l,J8 c=true:=by
 simp only[Tv,Bool.and_eq_true,decide_eq_true_eq,Bool.not_eq_true',List.any_eq_false]at h;have hl:l.length≤40:=by omega
 refine⟨hl,fun c hc=> ?_⟩;rw[List.take_of_length_le hl]at h;have:=h.1 c hc;cases e:J8 c
 ·rw[e]at this; exact absurd rfl this
 ·rfl
def Tw (l:List Ag):Bool:= !(l.take 40).any (fun b=>decide ((b.Names.length:Int)>20))&&decide ((l.length:Int)≤40)
theorem fewB_eq (l:List Ag):C9 l=some (Tw l):=by
 unfold C9 Tw;rw[iter_find0 (l.take 40) (fun b=>if decide ((b.Names.length:Int)>20)=true then some false else none) (by simp; omega) (fun i x hx=> ?_) ?_,fndO_any]
 ·simp only[Aw];cases (l.take 40).any fun b=>decide ((b.Names.length:Int)>20)<;>rfl
 ·unfold Ct;rw[if_neg (by simp; omega)]
 ·obtain⟨h1,h2,h3⟩:=idx_take hx;unfold Ct;rw[if_pos (by simp; omega),h1];simp only[Aw];split
  ·rfl
  ·rw[w64_sN h3 (by omega)]
theorem fewB_in {l:List Ag}(h:Tw l=true):l.length≤40∧∀b∈l,b.Names.length≤20:=by
 simp only[Tw,Bool.and_eq_true,decide_eq_true_eq,Bool.not_eq_true',List.any_eq_false]at h;have hl:l.length≤40:=by omega
 refine⟨hl,fun b hb=> ?_⟩;rw[List.take_of_length_le hl]at h;have:=h.1 b hb;omega
theorem lkG_up {κ γ:Type}{E:κ→κ→Bool}(hE: ∀a b,E a b=true↔a=b)(o k:κ)(v:γ): ∀(kv:List (κ×γ)),lkG (E o) (upG (E k) (k,v) kv)=if E o k=true then some v else lkG (E o) kv
 | []=>by
  unfold upG lkG lkG;cases E o k<;>rfl
 |y::r=>by
  unfold upG;cases hk:E k y.1 with
  |true=>
   have hy:=(hE _ _).1 hk;simp only[cond_true,lkG];rw[←hy];cases E o k<;>rfl
  |false=>
   simp only[cond_false,lkG];cases ho:E o y.1 with
   |true=>
    have hy:=(hE _ _).1 ho;have:E o k=false:=by
     cases e:E o k with
     |false=>rfl
     |true=>
      have:=(hE _ _).1 e;rw[←this,hy]at hk;rw[(hE y.1 y.1).2 rfl]at hk; cases hk
    rw[this]; rfl
   |false=>exact lkG_up hE o k v r
theorem eqO_iff (a b:Ai):Ar a b=true↔a=b:=by
 cases a; cases b;simp[Ar,JK]
abbrev OM:=List (Ai×Int)
def qO (kv:OM)(o:Ai)(n:Int):Bool:=match lkG (Ar o) kv with|some v=>decide (v≤n)|none=>false
def putO (kv:OM)(o:Ai)(at_:Int):OM:=if((!(lkG (Ar o) kv).isSome)||(decide (at_<(lkG (Ar o) kv).getD 0)))=true then upG (Ar o) (o,at_) kv else kv
theorem qO_put (kv:OM)(o k:Ai)(at_ n:Int):qO (putO kv k at_) o n=(qO kv o n||(Ar o k&&decide (at_≤n))):=by
 unfold putO;split
 ·rename_i h;unfold qO;rw[lkG_up eqO_iff];cases he:Ar o k with
  |false=>simp
  |true=>
   have:=(eqO_iff _ _).1 he;subst this;simp only[if_true,Bool.true_and];cases hl:lkG (Ar o) kv with
   |none=>simp
   |some v=>
    rw[hl]at h;simp only[Option.isSome_some,Bool.not_true,Option.getD_some,Bool.false_or,decide_eq_true_eq]at h;by_cases h1:at_≤n
    ·simp[h1]
    ·have: ¬v≤n:=by omega
     simp[h1,this]
 ·rename_i h;cases he:Ar o k with
  |false=>simp
  |true=>
   have:=(eqO_iff _ _).1 he;subst this;unfold qO;cases hl:lkG (Ar o) kv with
   |none=>rw[hl]at h; simp at h
   |some v=>
    rw[hl]at h;simp only[Option.isSome_some,Bool.not_true,Option.getD_some,Bool.false_or,decide_eq_true_eq]at h;by_cases h1:at_≤n
    ·have:v≤n:=by omega
     simp[h1,this]
    ·simp[h1]
def putN (key:UInt64)(at_:Int):List ByteArray→OM→OM
 | [],kv=>kv
 |s::r,kv=>putN key at_ r (putO kv ⟨s,key⟩ at_)
def Qb:List Ag→OM→OM
 | [],kv=>kv
 |b::r,kv=>Qb r (putN b.Key b.At b.Names kv)
theorem strange_b5 (b:Ag)(i:Int)(s:ByteArray)(kv:OM):By b i s kv=some (putO kv ⟨s,b.Key⟩ b.At):=by
 unfold By putO;show Ac (if((!(lkG (Ar ⟨s,b.Key⟩) kv).isSome)||(decide (b.At<(lkG (Ar ⟨s,b.Key⟩) kv).getD 0)))=true then _ else _) _=_;split<;>rfl
theorem strange_n (b:Ag): ∀(l:List ByteArray) (i:Int) (kv:OM),DE (By b) l i kv=some (putN b.Key b.At l kv)
 | [],_,_=>rfl
 |s::r,i,kv=>by
  show Ac (By b i s kv) _=_;rw[strange_b5];exact strange_n b r (i+1) _
theorem strange_b: ∀(l:List Ag) (i:Int) (kv:OM),DE BR l i kv=some (Qb l kv)
 | [],_,_=>rfl
 |b::r,i,kv=>by
  show Ac (BR i b kv) _=_;unfold BR;rw[strange_n];exact strange_b r (i+1) _
def bkd (l:List Ag)(s:ByteArray)(key:UInt64)(n:Int):Bool:=l.any fun b=>b.Key==key&&decide (b.At≤n)&&b.Names.any (fun t=>eqS t s)
theorem qO_n (key:UInt64)(at_ n:Int)(s:ByteArray)(k:UInt64): ∀(l:List ByteArray) (kv:OM),qO (putN key at_ l kv) ⟨s,k⟩ n=(qO kv ⟨s,k⟩ n||(key==k&&decide (at_≤n)&&l.any (fun t=>eqS t s)))
 | [],kv=>by simp[putN]
 |t::r,kv=>by
  unfold putN;rw[qO_n key at_ n s k r,qO_put];have e:Ar ⟨s,k⟩ ⟨t,key⟩=(eqS t s&&(key==k)):=by
   have h1:eqS s t=eqS t s:=Bool.eq_iff_iff.2 (by rw[JK,JK]; exact eq_comm);have h2:(k==key)=(key==k):=Bool.beq_comm;simp[Ar,h1,h2]
  rw[e];simp only[List.any_cons];cases qO kv ⟨s,k⟩ n<;>cases eqS t s<;>cases (key==k)<;>cases decide (at_≤n)<;>simp
theorem qO_b (n:Int)(s:ByteArray)(k:UInt64): ∀(l:List Ag) (kv:OM),qO (Qb l kv) ⟨s,k⟩ n=(qO kv ⟨s,k⟩ n||bkd l s k n)
 | [],kv=>by simp[Qb,bkd]
 |b::r,kv=>by
  unfold Qb;rw[qO_b n s k r,qO_n];simp only[bkd,List.any_cons,Bool.or_assoc]
def NQ (books:List Ag)(c:Ah):Bool:=c.Names.any fun s=> !bkd books s c.Key c.From
theorem strange_in (kv:OM)(c:Ah):Cu c kv=some (c.Names.any (fun s=> !qO kv ⟨s,c.Key⟩ c.From),kv):=by
 have h11: ∀(s:ByteArray),BJ s kv c=some (!qO kv ⟨s,c.Key⟩ c.From,kv,c):=by
  intro s;unfold BJ bnd qO;cases lkG (Ar ⟨s,c.Key⟩) kv with
  |none=>rfl
  |some v=>
   have:(decide (v>c.From))= !decide (v≤c.From):=by
    by_cases h:v≤c.From
    ·simp[h]
    ·simp[h]; omega
   simp[this]
 have hb: ∀(i:Nat) (s:ByteArray),c.Names[i]? =some s→AG c.Names (i:Int) (kv,c.Serial,c.Issuer,c.Subject,c.Key,c.Names,c.From,c.Until,c.Ca,c.Depth,c.Permit,c.Proms,c.Sig.E,c.Sig.S)=
   some (match (if(!qO kv ⟨s,c.Key⟩ c.From)=true then some ((i:Int),kv,c)else none)with|some b=> .inr b|none=> .inl (kv,c.Serial,c.Issuer,c.Subject,c.Key,c.Names,c.From,c.Until,c.Ca,c.Depth,c.Permit,c.Proms,c.Sig.E,c.Sig.S)):=by
  intro i s hs;unfold AG;rw[JH hs];simp only[Aw];show Ac (BJ s kv c) _=_;rw[h11];cases (!qO kv ⟨s,c.Key⟩ c.From)<;>rfl
 obtain⟨r,h1,h2⟩:=eachN_find (body:=AG c.Names) c.Names (fun i s=>if(!qO kv ⟨s,c.Key⟩ c.From)=true then some ((i:Int),kv,c)else none) (kv,c.Serial,c.Issuer,c.Subject,c.Key,c.Names,c.From,c.Until,c.Ca,c.Depth,c.Permit,c.Proms,c.Sig.E,c.Sig.S) (fun i x hx=>by rw[hb i x hx]; by_cases hq:(!qO kv ⟨x,c.Key⟩ c.From)=true<;>simp[hq]) c.Names.length 0 (by omega);unfold Cu AX A5;rw[show((0:Nat):Int)=0 from rfl]at h1;rw[h1];rcases h2 with ⟨j,x,b,a1,a2,a3,rfl⟩|⟨rfl,a2⟩
 ·split at a3
  ·rename_i hp;cases a3;have:c.Names.any (fun s=> !qO kv ⟨s,c.Key⟩ c.From)=true:=List.any_eq_true.2 ⟨x,List.mem_of_getElem? a1,hp⟩;rw[this];have:decide ((j:Int)≥0)=true:=decide_eq_true (by omega);simp only[Aw,this]
  ·cases a3
 ·have:c.Names.any (fun s=> !qO kv ⟨s,c.Key⟩ c.From)=false:=by
   rw[List.any_eq_false];intro s hs;obtain⟨j,hj⟩:=List.getElem?_of_mem hs;have:=a2 j s (by omega) hj;intro h; rw[if_pos h]at this; cases this
  rw[this]; rfl
theorem app1 {α:Type}{b n:Nat}{s:List α}{x:α}(h:s.length≤n)(hb:(n+1)*b≤140737488355328)(hn:n+1≤140737488355328):app b s [x]=some (s++[x]):=by
 unfold app;have:(s.length+[x].length)*b≤(n+1)*b:=Nat.mul_le_mul_right b (by simp; omega);rw[if_pos ⟨by omega,by simp; omega⟩]
theorem places_c1 (kv:OM){certs:List Ah}{i:Nat}{x:Ah}{out:List Int}(hx:certs[i]? =some x)(ho:out.length≤1000000):
  AK certs (i:Int) (out,kv)=some (if x.Names.any (fun s=> !qO kv ⟨s,x.Key⟩ x.From)=true then out++[(i:Int)]else out,kv):=by
 unfold AK;rw[JH hx];simp only[Aw,strange_in];split
 ·rw[app1 ho (by decide) (by decide)]; rfl
 ·rfl
theorem places_c (kv:OM)(certs:List Ah)(hl:certs.length≤1000000): ∀(k i:Nat) (out:List Int),i+k=certs.length→out.length≤i→
  Cd (AK certs) k (i:Int) (out,kv)=some (out++plc (fun c=>c.Names.any (fun s=> !qO kv ⟨s,c.Key⟩ c.From)) (certs.drop i) i,kv)
 |0,i,out,h,ho=>by
  rw[List.drop_of_length_le (by omega)];simp[Cd,plc]
 |k+1,i,out,h,ho=>by
  have hi:i<certs.length:=by omega
  have hx:certs[i]? =some certs[i]:=List.getElem?_eq_getElem hi;show Ac (AK certs (i:Int) (out,kv)) _=_;rw[places_c1 kv hx (by omega),drop_at hx];unfold plc;split
  ·have:=places_c kv certs hl k (i+1) (out++[(i:Int)]) (by omega) (by simp; omega);rw[List.append_assoc]at this;exact this
  ·exact places_c kv certs hl k (i+1) out (by omega) (by omega)
theorem strange_eq {certs:List Ah}(books:List Ag)(hl:certs.length≤1000000):AO certs books=some (plc (NQ books) certs 0):=by
 unfold AO;rw[strange_b];simp only[Aw];unfold BF;have:=places_c (Qb books []) certs hl certs.length 0 [] (by omega) (Nat.le_refl _);rw[show((0:Nat):Int)=0 from rfl]at this;rw[this];have e:(fun(c:Ah)=>c.Names.any (fun s=> !qO (Qb books []) ⟨s,c.Key⟩ c.From))=NQ books:=by
  funext c;unfold NQ;congr 1;funext s;rw[qO_b];rfl
 simp only[Aw,List.drop_zero,List.nil_append,e]
def mis (h:A4)(leaves:List (UInt64×UInt64))(k:BK)(p:g_api_Promise):Bool:=(((p.Log==h.Log)&&(p.Log==k.Log))&&(decide ((w64 (p.At+k.Delay))<h.At)))&& !leaves.any (fun x=>Iu x p.Leaf)
abbrev LM:=List ((UInt64×UInt64)×Bool)
def thr (kv:LM)(x:UInt64×UInt64):Bool:=(lkG (Iu x) kv).getD false
def putL:List (UInt64×UInt64)→LM→LM
 | [],kv=>kv
 |x::r,kv=>putL r (upG (Iu x) (x,true) kv)
end Go.Proofs.YtibojdgdjhngiaaGreatDoor
end
section
namespace Go.Proofs.YtibojdgdjhngiaaGreatDoor
open Go Go.Gw Go.Ax
theorem guT {α:Type} [Inhabited α](o:Option α):gu true o=o:=rfl
theorem bnd_k {α β:Type}(a:α)(k:α→β):bnd a k=k a:=rfl
theorem lt_dec {a b:Nat}(h:a<b):decide (((a:Nat):Int)<(b:Int))=true:=decide_eq_true (by omega)
theorem lt_dec' (a:Nat):decide (((a:Nat):Int)<(a:Int))=false:=decide_eq_false (by omega)
theorem and64_low (a:Int):0≤KM a 65535∧KM a 65535≤65535:=by
 unfold KM;have h:(BitVec.ofInt 64 a&&&BitVec.ofInt 64 65535).toNat≤65535:=by
  rw[BitVec.toNat_and];exact Nat.le_trans Nat.and_le_right (by decide)
 rw[O2 (by omega) (by omega)];omega
theorem tmod_low (a:Int){n:Nat}(hn:0<n): ∃j:Nat,Int.tmod (KM a 65535) (n:Int)=(j:Int)∧j<n:=by
 obtain⟨h0,h1⟩:=and64_low a;rw[Int.tmod_eq_emod_of_nonneg h0];have a1:=Int.emod_nonneg (KM a 65535) (b:=(n:Int)) (by omega);have a2:=Int.emod_lt_of_pos (KM a 65535) (b:=(n:Int)) (by omega);exact⟨(KM a 65535% (n:Int)).toNat,by omega,by omega⟩
theorem idxL {α:Type}{l:List α}{i:Nat}(h:i<l.length):idx l (i:Int)=some l[i]:=JH (List.getElem?_eq_getElem h)
theorem fnd_none {α β:Type}: ∀(l:List α),WK (fun _=>(none:Option β)) l= .inl ()
 | []=>rfl
 |x::r=>fnd_none r
theorem find_none {β:Type}{step:Int→Option (Int⊕(Unit⊕β))}(n:Nat)(hl:n≤1000000)
  (hs: ∀(i:Nat),i<n→step (i:Int)=some (.inl ((i+1:Nat):Int))) (he:step (n:Int)=some (.inr (.inl ()))):iter step DX 0=some (.inl ()):=by
 have:=iter_find0 (step:=step) (List.replicate n ()) (fun _=>none) (by simpa using hl) (fun i x hx=>hs i (by simpa using (List.getElem?_eq_some_iff.1 hx).1)) (by simpa using he);rw[this,fnd_none]
end Go.Proofs.YtibojdgdjhngiaaGreatDoor
end
section
namespace Go.Proofs.YtibojdgdjhngiaaGreatDoor
open Go Go.Gw Go.Ax
theorem live30_true:GW=some true:=by kernel_rfl
end Go.Proofs.YtibojdgdjhngiaaGreatDoor
end
section
namespace Go.Proofs.YtibojdgdjhngiaaGreatDoor
open Go Go.Gw Go.Ax
def annS:ByteArray:=⟨#[97,110,110]⟩
def bk (c:Ah):Ag:=⟨annS,c.Names,c.Key,c.From⟩
def hf1 (c:Ah):Ag:=⟨ByteArray.empty,c.Names.drop (c.Names.length/2),c.Key,c.From⟩
def hf2 (c:Ah):Ag:=⟨ByteArray.empty,c.Names.take (c.Names.length/2),c.Key,c.From⟩
abbrev B3:=List Ag×List Ag×List Ag
def stp (at_:Nat)(i:Nat)(s:B3)(c:Ah):B3:=(s.1++[bk c],s.2.1++[hf1 c]++[hf2 c],if i=at_ then s.2.2 else s.2.2++[bk c])
theorem u56 {s:List Ag}{x:Ag}(h:s.length≤1000000):app 56 s [x]=some (s++[x]):=app1 h (by decide) (by decide)
theorem half_w (n:Nat)(h:n≤16):w64 (Int.tdiv (n:Int) 2)=((n/2:Nat):Int):=by
 rw[Int.tdiv_eq_ediv_of_nonneg (by omega),O2 (by omega) (by omega)]; omega
theorem cut_hi {α:Type}(l:List α)(n:Nat)(h:n≤l.length):cut l (n:Int) (l.length:Int)=some (l.drop n):=by
 unfold cut;rw[if_pos ⟨by omega,by omega,by omega⟩,Int.toNat_natCast,Int.toNat_natCast,List.take_of_length_le (by rw[List.length_drop]; exact Nat.le_refl _)]
theorem cut_lo {α:Type}(l:List α)(n:Nat)(h:n≤l.length):cut l 0 (n:Int)=some (l.take n):=by
 unfold cut;rw[if_pos ⟨by omega,by omega,by omega⟩,Int.toNat_natCast];rfl
theorem bne_nat {a b:Nat}:((a:Int) !=(b:Int))= !decide (a=b):=by
 by_cases h:a=b
 ·subst h; simp
 ·have:((a:Int)==(b:Int))=false:=by simp only[beq_eq_false_iff_ne]; omega
  simp only[bne,this,decide_eq_false h]
theorem booked_step {a0:List Ah}{at_ i:Nat}{c:Ah}{s:B3}(hl:a0.length≤40)(hn:c.Names.length≤16)(hx:a0[i]? =some c)(h1:s.1.length≤i∧s.2.1.length≤2*i∧s.2.2.length≤i):
  AU a0 (at_:Int) (s.1,s.2.1,s.2.2,(i:Int))=some (.inl ((stp at_ i s c).1,(stp at_ i s c).2.1,(stp at_ i s c).2.2,((i+1:Nat):Int))):=by
 have hi:=(List.getElem?_eq_some_iff.1 hx).1;obtain⟨q1,q2,q3⟩:=h1;have p1:s.1.length≤1000000:=by omega
 have p2:s.2.1.length≤1000000:=by omega
 have p3:s.2.2.length≤1000000:=by omega
 have p4:(s.2.1++[hf1 c]).length≤1000000:=by rw[List.length_append]; simp only[List.length_singleton]; omega
 have p5:a0.length≤1000000:=by omega
 have p6:c.Names.length/2≤c.Names.length:=by omega
 unfold AU;rw[show decide (((s.1,s.2.1,s.2.2,(i:Int)):_×_×_×Int).2.2.2<(a0.length:Int))=true from lt_dec hi,if_pos rfl];dsimp only;rw[JH hx,Aw,Aw,Aw,u56 p1,Aw,u56 p3,bne_nat];by_cases ha:i=at_
 ·rw[decide_eq_true ha];rw[show(!true)=false from rfl];rw[if_neg (by decide)];rw[Aw];rw[bnd_k,half_w _ hn,cut_hi _ _ p6,Aw,u56 p2,Aw,cut_lo _ _ p6,Aw];show Ac (app 56 (s.2.1++[hf1 c]) [hf2 c]) _=_;rw[u56 p4,Aw,w64_sN hi p5];unfold stp;rw[if_pos ha];rfl
 ·rw[decide_eq_false ha,show(!false)=true from rfl,if_pos rfl,Aw,Aw];rw[bnd_k,half_w _ hn,cut_hi _ _ p6,Aw,u56 p2,Aw,cut_lo _ _ p6,Aw];show Ac (app 56 (s.2.1++[hf1 c]) [hf2 c]) _=_;rw[u56 p4,Aw,w64_sN hi p5];unfold stp;rw[if_neg ha];rfl
def W1 (at_:Nat)(l:List Ah):B3:=Q6 (stp at_) l 0 ([],[],[])
theorem booked_loop {a0:List Ah}(at_:Nat)(hl:a0.length≤40)(hn: ∀c∈a0,c.Names.length≤16):
  iter (AU a0 (at_:Int)) DX (([]:List Ag),([]:List Ag),([]:List Ag),(0:Int))=some (W1 at_ a0):=
 iter_fold0 (step:=AU a0 (at_:Int)) (fun(s:B3) (n:Int)=>(s.1,s.2.1,s.2.2,n)) a0 (stp at_) (fun i s=>s.1.length≤i∧s.2.1.length≤2*i∧s.2.2.length≤i) (by omega)
  (fun i x s hx hI=>⟨booked_step hl (hn x (List.mem_of_getElem? hx)) hx hI,by
   obtain⟨q1,q2,q3⟩:=hI;unfold stp;refine⟨by simp; omega,by simp; omega,?_⟩;dsimp only;split
   ·omega
   ·simp; omega⟩)
  (fun s hI=>by
   unfold AU;rw[show decide (((s.1,s.2.1,s.2.2,(a0.length:Int)):_×_×_×Int).2.2.2<(a0.length:Int))=false from lt_dec' _,if_neg (by decide)])
  ([],[],[]) ⟨by simp,by simp,by simp⟩
theorem fld_in (at_:Nat): ∀(l:List Ah) (i:Nat) (s:B3),
  (∀b∈s.1,b∈(Q6 (stp at_) l i s).1)∧(∀b∈s.2.1,b∈(Q6 (stp at_) l i s).2.1)∧(∀b∈s.2.2,b∈(Q6 (stp at_) l i s).2.2)∧
  (∀(j:Nat) (c:Ah),l[j]? =some c→bk c∈(Q6 (stp at_) l i s).1∧hf1 c∈(Q6 (stp at_) l i s).2.1∧hf2 c∈(Q6 (stp at_) l i s).2.1∧(i+j≠at_→bk c∈(Q6 (stp at_) l i s).2.2))
 | [],i,s=>⟨fun b h=>h,fun b h=>h,fun b h=>h,fun j c h=>by simp at h⟩
 |x::r,i,s=>by
  obtain⟨h1,h2,h3,h4⟩:=fld_in at_ r (i+1) (stp at_ i s x);unfold Q6;refine⟨fun b hb=>h1 b (by unfold stp; simp[hb]),fun b hb=>h2 b (by unfold stp; simp[hb]),fun b hb=>h3 b (by unfold stp; dsimp only; split<;>simp[hb]),fun j c hc=> ?_⟩;cases j with
  |zero=>
   cases hc;exact⟨h1 _ (by unfold stp; simp),h2 _ (by unfold stp; simp),h2 _ (by unfold stp; simp),fun hne=>h3 _ (by unfold stp; dsimp only; rw[if_neg (by omega)]; simp)⟩
  |succ j=>
   obtain⟨a,b,c',d⟩:=h4 j c hc;exact⟨a,b,c',fun hne=>d (by omega)⟩
theorem fld_len (at_:Nat): ∀(l:List Ah) (i:Nat) (s:B3),(Q6 (stp at_) l i s).1.length=s.1.length+l.length
 | [],i,s=>rfl
 |x::r,i,s=>by
  unfold Q6;rw[fld_len at_ r];unfold stp;simp; omega
theorem not_strange {l:List Ag}{c:Ah}(h: ∀s∈c.Names,∃b∈l,b.Key=c.Key∧b.At≤c.From∧s∈b.Names):NQ l c=false:=by
 unfold NQ;rw[List.any_eq_false];intro s hs;obtain⟨b,h1,h2,h3,h4⟩:=h s hs;have:bkd l s c.Key c.From=true:=by
  unfold bkd;refine List.any_eq_true.2 ⟨b,h1,?_⟩;rw[h2,decide_eq_true h3];simp only[beq_self_eq_true,Bool.and_self,Bool.true_and];exact List.any_eq_true.2 ⟨s,h4,JK.2 rfl⟩
 rw[this]; decide
theorem booked_b3 {a0:List Ah}{l:List Ag}{at_:Nat}(hl:a0.length≤40)(h: ∀(j:Nat) (c:Ah),a0[j]? =some c→j≠at_→NQ l c=false){i:Nat}(hi:i<(plc (NQ l) a0 0).length):
  Bu a0 (at_:Int) (plc (NQ l) a0 0) (i:Int)=some (.inl ((i+1:Nat):Int)):=by
 have L1:=plc_len (NQ l) a0 0;obtain⟨j,x,y1,y2,y3⟩:=plc_mem.1 (List.getElem_mem hi);have hj:=(List.getElem?_eq_some_iff.1 y1).1;have f1:decide ((plc (NQ l) a0 0)[i]<0)=false:=decide_eq_false (by rw[y3]; omega);have f2:decide ((plc (NQ l) a0 0)[i]≥(a0.length:Int))=false:=decide_eq_false (by rw[y3]; omega);have f3:((plc (NQ l) a0 0)[i] !=(at_:Int))=false:=by
  have:j=at_:=by
   by_cases e:j=at_
   ·exact e
   ·rw[h j x y1 e]at y2; cases y2
  rw[y3,this]; simp
 clear y1 y2 y3;generalize plc (NQ l) a0 0=X at*;unfold Bu;rw[lt_dec hi,if_pos rfl,idxL hi,Aw,f1,show(!false)=true from rfl,guT,Aw,f2,show(!(false||false))=true from rfl,guT,Aw,f3,if_neg (by decide),w64_sN hi (by omega)]
theorem booked_true (a0:List Ah)(a1:List Ag)(a2:Int):B7 a0 a1 a2=some true:=by
 unfold B7;rw[live30_true,Aw,if_neg (by decide),fewC_eq,Aw];cases hc:Tv a0
 case false=>rfl
 obtain⟨hl,hn⟩:=fewC_in hc;rw[fewB_eq,show(!!true)=true from rfl,guT,Aw];cases hb:Tw a1
 case false=>rfl
 obtain⟨hbl,hbn⟩:=fewB_in hb;by_cases h0:a0.length=0
 ·have:((a0.length:Int)==0)=true:=by rw[h0]; rfl
  rw[this]; rfl
 have e0:((a0.length:Int)==0)=false:=by simp only[beq_eq_false_iff_ne]; omega
 rw[e0,if_neg (by decide),if_pos (by omega)];obtain⟨at_,en,hlt⟩:=tmod_low a2 (n:=a0.length) (by omega);rw[en,bnd_k];have hn': ∀c∈a0,c.Names.length≤16:=fun c hc=>few18_names (hn c hc);rw[booked_loop at_ hl hn',Aw];obtain⟨k1,k2,k3,k4⟩:=fld_in at_ a0 0 ([],[],[]);have kl:=fld_len at_ a0 0 ([],[],[]);change∀(j:Nat) (c:Ah),a0[j]? =some c→bk c∈(W1 at_ a0).1∧hf1 c∈(W1 at_ a0).2.1∧hf2 c∈(W1 at_ a0).2.1∧(0+j≠at_→bk c∈(W1 at_ a0).2.2)at k4;change (W1 at_ a0).1.length=0+a0.length at kl;clear k1 k2 k3;generalize W1 at_ a0=Z at*;obtain⟨z1,z2,z3⟩:=Z;dsimp only at k4 kl⊢;have ea:app 56 ([]:List Ag) a1=some a1:=by unfold app; rw[if_pos ⟨by simp; omega,by simp; omega⟩]; rfl
 have eb:app 56 a1 z1=some (a1++z1):=by unfold app; rw[if_pos ⟨by omega,by omega⟩]
 rw[Aw,ea,Aw,eb,Aw,strange_eq _ (by omega),Aw];have q3: ∀(j:Nat) (c:Ah),a0[j]? =some c→j≠at_→NQ z3 c=false:=fun j c hc hne=>not_strange fun s hs=>⟨bk c,(k4 j c hc).2.2.2 (by omega),rfl,Int.le_refl _,hs⟩;have L1:=plc_len (NQ z3) a0 0;rw[find_none (plc (NQ z3) a0 0).length (by omega) (fun i hi=>booked_b3 hl q3 hi) (by unfold Bu; rw[lt_dec',if_neg (by decide)]),Aw];dsimp only;have n1:plc (NQ z1) a0 0=[]:=plc_nil fun c hc=>by
  obtain⟨j,hj⟩:=List.getElem?_of_mem hc;exact not_strange fun s hs=>⟨bk c,(k4 j c hj).1,rfl,Int.le_refl _,hs⟩
 have n2:plc (NQ z2) a0 0=[]:=plc_nil fun c hc=>by
  obtain⟨j,hj⟩:=List.getElem?_of_mem hc;refine not_strange fun s hs=> ?_;rw[←List.take_append_drop (c.Names.length/2) c.Names]at hs;rcases List.mem_append.1 hs with q|q
  ·exact⟨hf2 c,(k4 j c hj).2.2.1,rfl,Int.le_refl _,q⟩
  ·exact⟨hf1 c,(k4 j c hj).2.1,rfl,Int.le_refl _,q⟩
 have n3:plc (NQ (a1++z1)) a0 0=[]:=plc_nil fun c hc=>by
  obtain⟨j,hj⟩:=List.getElem?_of_mem hc;exact not_strange fun s hs=>⟨bk c,List.mem_append_right _ (k4 j c hj).1,rfl,Int.le_refl _,hs⟩
 rw[strange_eq _ (by omega),Aw,n1,if_pos (by decide),strange_eq _ (by omega),Aw,n2,if_pos (by decide),strange_eq _ (by omega),Aw,n3];rfl
end Go.Proofs.YtibojdgdjhngiaaGreatDoor
end
section
namespace Go.Proofs.YtibojdgdjhngiaaGreatDoor.lawMonitorBooked
open Go Go.Gw Go.ChangeShapes Go.WideShapes Go.ChangeAt Go.RowKit
theorem own:ownKnob Tryz.prog.godebug=none:=by kernel_rfl
theorem tab_ir:Ir Tryz.prog 276 (.agg [.agg [.lit (.int .i64 1),.held [103,114,101,97,116,115,101,97,108,47,100,101,114,46,107,105,110,100,115,36,49]],.agg [.lit (.int .i64 2),.held [103,114,101,97,116,115,101,97,108,47,100,101,114,46,108,101,97,115,116]],.agg [.lit (.int .i64 4),.held [103,114,101,97,116,115,101,97,108,47,100,101,114,46,107,105,110,100,115,36,50]],.agg [.lit (.int .i64 12),.held [103,114,101,97,116,115,101,97,108,47,100,101,114,46,107,105,110,100,115,36,51]],.agg [.lit (.int .i64 48),.held [103,114,101,97,116,115,101,97,108,47,100,101,114,46,107,105,110,100,115,36,52]]]) [[.int .i64 1,.func (.func 305) #[] #[]],[.int .i64 2,.func (.func 149) #[] #[]],[.int .i64 4,.func (.func 306) #[] #[]],[.int .i64 12,.func (.func 307) #[] #[]],[.int .i64 48,.func (.func 310) #[] #[]]].flatten:=
 Ir.arr (n:=5) (k:=2) Tryz.underlying276 (by kernel_rfl) (by kernel_rfl) rfl rfl fun i d c h1 h2=>by
  match i,h1,h2 with
  |0,h1,h2=>cases h1; cases h2; exact Ir.pair Tryz.underlying236 rfl rfl rfl (by kernel_rfl) rfl rfl (by kernel_rfl) (by kernel_rfl) (Ir.int Tryz.underlying3) (Ir.fn Tryz.underlying115 Tryz.func305 (by kernel_rfl) (by kernel_rfl))
  |1,h1,h2=>cases h1; cases h2; exact Ir.pair Tryz.underlying236 rfl rfl rfl (by kernel_rfl) rfl rfl (by kernel_rfl) (by kernel_rfl) (Ir.int Tryz.underlying3) (Ir.fn Tryz.underlying115 Tryz.func149 (by kernel_rfl) (by kernel_rfl))
  |2,h1,h2=>cases h1; cases h2; exact Ir.pair Tryz.underlying236 rfl rfl rfl (by kernel_rfl) rfl rfl (by kernel_rfl) (by kernel_rfl) (Ir.int Tryz.underlying3) (Ir.fn Tryz.underlying115 Tryz.func306 (by kernel_rfl) (by kernel_rfl))
  |3,h1,h2=>cases h1; cases h2; exact Ir.pair Tryz.underlying236 rfl rfl rfl (by kernel_rfl) rfl rfl (by kernel_rfl) (by kernel_rfl) (Ir.int Tryz.underlying3) (Ir.fn Tryz.underlying115 Tryz.func307 (by kernel_rfl) (by kernel_rfl))
  |4,h1,h2=>cases h1; cases h2; exact Ir.pair Tryz.underlying236 rfl rfl rfl (by kernel_rfl) rfl rfl (by kernel_rfl) (by kernel_rfl) (Ir.int Tryz.underlying3) (Ir.fn Tryz.underlying115 Tryz.func310 (by kernel_rfl) (by kernel_rfl))
  |n+5,h1,h2=>cases h1
theorem gB {W:World}(h:laidMetH Tryz.prog Rows.monitorBookedRow.laid W):GB (memOf W):=fun p hp=>by
 obtain rfl:=List.mem_singleton.1 hp;exact gb_of (name:= "greatseal/der.kinds") (by kernel_rfl) (by kernel_rfl) (laidMetH.funcs h (d:= .agg [.agg [.lit (.int .i64 1),.iface "func" (.lit (.string [103,114,101,97,116,115,101,97,108,47,100,101,114,46,107,105,110,100,115,36,49]))],.agg [.lit (.int .i64 2),.iface "func" (.lit (.string [103,114,101,97,116,115,101,97,108,47,100,101,114,46,108,101,97,115,116]))],.agg [.lit (.int .i64 4),.iface "func" (.lit (.string [103,114,101,97,116,115,101,97,108,47,100,101,114,46,107,105,110,100,115,36,50]))],.agg [.lit (.int .i64 12),.iface "func" (.lit (.string [103,114,101,97,116,115,101,97,108,47,100,101,114,46,107,105,110,100,115,36,51]))],.agg [.lit (.int .i64 48),.iface "func" (.lit (.string [103,114,101,97,116,115,101,97,108,47,100,101,114,46,107,105,110,100,115,36,52]))]]) (List.Mem.tail _ (List.Mem.head _))) tab_ir
theorem rd3:Rd Tryz.prog 3 (Int):=Rd.int Tryz.underlying3
theorem rd9:Rd Tryz.prog 9 (ByteArray):=Rd.str Tryz.underlying9
theorem rd22:Rd Tryz.prog 22 (UInt64):=Rd.u64 Tryz.underlying22
theorem rd57:Rd Tryz.prog 57 (List ByteArray):=Rd.slice Tryz.underlying57 rd9 (by kernel_rfl) (by decide)
theorem rd4:Rd Tryz.prog 4 (Bool):=Rd.bool Tryz.underlying4
theorem rd38:Rd Tryz.prog 38 (UInt64×UInt64):=Rd.arr2 Tryz.underlying38 rd22 (by kernel_rfl) (by kernel_rfl)
theorem rd40:Rd Tryz.prog 40 (g_api_Sig):=Rd.struct Tryz.underlying40 (Kj.more rfl rd22 (by kernel_rfl) (Kj.last rfl rd22 (by kernel_rfl))) (by kernel_rfl) (fun b=>⟨b.1,b.2⟩) (fun h=>h)
theorem rd82:Rd Tryz.prog 82 (g_api_Promise):=Rd.struct Tryz.underlying82 (Kj.more rfl rd3 (by kernel_rfl) (Kj.more rfl rd3 (by kernel_rfl) (Kj.more rfl rd38 (by kernel_rfl) (Kj.last rfl rd40 (by kernel_rfl))))) (by kernel_rfl) (fun b=>⟨b.1,b.2.1,b.2.2.1,b.2.2.2⟩) (fun h=>h)
theorem rd36:Rd Tryz.prog 36 (List g_api_Promise):=Rd.slice Tryz.underlying36 rd82 (by kernel_rfl) (by decide)
theorem rd59:Rd Tryz.prog 59 (Ah):=Rd.struct Tryz.underlying59 (Kj.more rfl rd3 (by kernel_rfl) (Kj.more rfl rd9 (by kernel_rfl) (Kj.more rfl rd9 (by kernel_rfl) (Kj.more rfl rd22 (by kernel_rfl) (Kj.more rfl rd57 (by kernel_rfl) (Kj.more rfl rd3 (by kernel_rfl) (Kj.more rfl rd3 (by kernel_rfl) (Kj.more rfl rd4 (by kernel_rfl) (Kj.more rfl rd3 (by kernel_rfl) (Kj.more rfl rd57 (by kernel_rfl) (Kj.more rfl rd36 (by kernel_rfl) (Kj.last rfl rd40 (by kernel_rfl))))))))))))) (by kernel_rfl) (fun b=>⟨b.1,b.2.1,b.2.2.1,b.2.2.2.1,b.2.2.2.2.1,b.2.2.2.2.2.1,b.2.2.2.2.2.2.1,b.2.2.2.2.2.2.2.1,b.2.2.2.2.2.2.2.2.1,b.2.2.2.2.2.2.2.2.2.1,b.2.2.2.2.2.2.2.2.2.2.1,b.2.2.2.2.2.2.2.2.2.2.2⟩) (fun h=>h)
theorem rd29:Rd Tryz.prog 29 (List Ah):=Rd.slice Tryz.underlying29 rd59 (by kernel_rfl) (by decide)
theorem rd65:Rd Tryz.prog 65 (Ag):=Rd.struct Tryz.underlying65 (Kj.more rfl rd9 (by kernel_rfl) (Kj.more rfl rd57 (by kernel_rfl) (Kj.more rfl rd22 (by kernel_rfl) (Kj.last rfl rd3 (by kernel_rfl))))) (by kernel_rfl) (fun b=>⟨b.1,b.2.1,b.2.2.1,b.2.2.2⟩) (fun h=>h)
theorem rd35:Rd Tryz.prog 35 (List Ag):=Rd.slice Tryz.underlying35 rd65 (by kernel_rfl) (by decide)
theorem contract (H:Type)(enc:TypeId×Value→H)(W:World)(base:Nat)(args:Array Value)(ds gs:List (DataW H))(before:List MemPlace)
  (hval: ∀(j:Nat) t v,Tryz.f6.params[j]? =some t→args[j]? =some v→Value.okWide Tryz.prog W .any base t v)
  (hW:DataW.Whole enc Tryz.prog Tryz.f6.params.toList Rows.monitorBookedSpec.vars false W args.toList ds gs before) (hL:laidMetH Tryz.prog Rows.monitorBookedRow.laid W):
  Calls Tryz.prog 6 args W fun e W'=> ∃v,e= .returned v∧Rows.monitorBookedSpec.post enc Tryz.prog Tryz.f6 false true false false W args v W':=by
 have hW':=hW;obtain⟨p,q,hA0,hV,rfl,hfz,hnd⟩:=hW;obtain⟨rfl,rfl⟩:=trodVars_none hV;rw[List.append_nil]at hW';have hA:DataW.TrodAll enc Tryz.prog W 0 (fun _=>true) true Tryz.f6.params.toList args.toList ds p:=hA0;have hA1:=hA;have hpl:Tryz.f6.params.toList=[29,35,3]:=by rw[Tryz.params6]
 rw[hpl]at hA1;obtain⟨v0,w0,d0,e0,p0,q0,ha0,he0,hp0,h0,r0⟩:=trodAll_cons hA1;obtain⟨v1,w1,d1,e1,p1,q1,ha1,he1,hp1,h1,r1⟩:=trodAll_cons r0;obtain⟨v2,w2,d2,e2,p2,q2,ha2,he2,hp2,h2,r2⟩:=trodAll_cons r1;obtain⟨z1,z2,z3⟩:=trodAll_nil r2;obtain rfl:args= #[v0,v1,v2]:=by
  apply Array.ext'; rw[ha0,ha1,ha2,z1]
 obtain rfl:ds=[d0,d1,d2]:=by rw[he0,he1,he2,z2]
 rw[Tryz.params6]at hval;obtain⟨x0,l0,c0,rfl⟩:=okWide_slice Tryz.underlying29 (hval 0 29 v0 rfl rfl);obtain⟨a0,s0⟩:=rd29.openS h0;obtain⟨x1,l1,c1,rfl⟩:=okWide_slice Tryz.underlying35 (hval 1 35 v1 rfl rfl);obtain⟨a1,s1⟩:=rd35.openS h1;obtain⟨a2,rfl,_,_,_⟩:=open_int Tryz.underlying3 (hval 2 3 v2 rfl rfl) h2;have hc:=IF (St.of W (gB hL)) s0 s1 (booked_true a0 a1 a2);refine Calls.mono hc ?_;rintro e W' ⟨v,rfl,hk,M,hle,S,rfl⟩;refine⟨.bool true,rfl,SX (tb:=4) (by kernel_rfl) (by kernel_rfl) rfl (by kernel_rfl) Tryz.underlying4 hW' hA rfl rfl rfl hle S hk⟩
noncomputable def Mj (os:Os):World:=
 {World.holding Tryz.prog os ⟨#[], #[],[]⟩with heap:=((((World.holding Tryz.prog os ⟨#[], #[],[]⟩).heap.modify 5 fun| .cells _ t fr=> .cells #[.int .u8 128,.int .u8 191,.int .u8 160,.int .u8 191,.int .u8 128,.int .u8 159,.int .u8 144,.int .u8 191,.int .u8 128,.int .u8 143,.int .u8 0,.int .u8 0,.int .u8 0,.int .u8 0,.int .u8 0,.int .u8 0,.int .u8 0,.int .u8 0,.int .u8 0,.int .u8 0,.int .u8 0,.int .u8 0,.int .u8 0,.int .u8 0,.int .u8 0,.int .u8 0,.int .u8 0,.int .u8 0,.int .u8 0,.int .u8 0,.int .u8 0,.int .u8 0] t fr|o=>o).modify 2 fun| .cells _ t fr=> .cells [[.int .i64 1,.func (.func 305) #[] #[]],[.int .i64 2,.func (.func 149) #[] #[]],[.int .i64 4,.func (.func 306) #[] #[]],[.int .i64 12,.func (.func 307) #[] #[]],[.int .i64 48,.func (.func 310) #[] #[]]].flatten.toArray t fr|o=>o).modify 4 fun| .cells _ t fr=> .cells ((List.replicate 128 240++List.replicate 66 241++List.replicate 30 2++[19]++List.replicate 12 3++[35,3,3,52,4,4,4,68]++List.replicate 11 241:List Int).map fun n=>Value.int .u8 n).toArray t fr|o=>o)}
theorem laid_met (os:Os):laidMetH Tryz.prog Rows.monitorBookedRow.laid ((Mj os).forCall (fun _ _=>0) ⟨#[], #[(.slice none 0 0:Value),(.slice none 0 0:Value),(.int .i64 0:Value)],[]⟩).memory:=
 laidMetH_of_parts3 (fuel:=8) (laidMet_of_run' 8 (by kernel_rfl) (by kernel_rfl)) (by kernel_rfl) (by kernel_rfl)
theorem reads (os:Os){H:Type}(enc:TypeId×Value→H): ∃places,DataW.whole enc Tryz.prog ((Mj os).forCall (fun _ _=>0) ⟨#[], #[(.slice none 0 0:Value),(.slice none 0 0:Value),(.int .i64 0:Value)],[]⟩).memory Tryz.f6.params.toList Rows.monitorBookedSpec.vars false #[(.slice none 0 0:Value),(.slice none 0 0:Value),(.int .i64 0:Value)].toList 8=some ([.nil,.nil,.lit (.int .i64 0)],[],places):=
 ⟨[],by kernel_rfl⟩
theorem lifted (os:Os)(started:os.Started)(H:Type)(enc:TypeId×Value→H)(F:Stop.Interp):
  ReturnsInHanded {} Tryz.checked os 6 .any ((OpenSpec.ofChange Rows.monitorBookedSpec).preRow enc Tryz.prog Tryz.f6 Rows.monitorBookedRow.domain false Rows.monitorBookedRow.laid) (((OpenSpec.ofChange Rows.monitorBookedSpec).at F).post enc Tryz.prog Tryz.f6 false true false false):=by
 obtain⟨places,hx⟩:=reads os enc;refine returnsInHanded_of_row (C:=Tryz.checked) (s:=OpenSpec.ofChange Rows.monitorBookedSpec) own started (by kernel_rfl) Tryz.func6
  (witness_row_at (enc:=enc) (C:=Tryz.checked) false (Mj os) #[(.slice none 0 0:Value),(.slice none 0 0:Value),(.int .i64 0:Value)] rfl (by kernel_rfl) (by kernel_rfl) (by kernel_rfl)
   (OpenSpec.preRow_of_cond 8 hx (by kernel_rfl) (fun k hk=>by cases hk) (by kernel_rfl) (laid_met os))) ?_
 intro W base args ds gs before hval hW _ _ _ hL _ _;exact contract H enc W base args ds gs before hval hW hL
theorem j0:laidOutB Tryz.prog=true:=by kernel_rfl
theorem j1:mapsRowed Tryz.prog=true:=by kernel_rfl
theorem j2:(Rows.monitorBookedRow.inPlace==Tryz.prog.inPlace 6)=true:=by kernel_rfl
theorem j3:(Rows.monitorBookedRow.unfollowed==Tryz.prog.unfollowed 6)=true:=by kernel_rfl
theorem j4:(Rows.monitorBookedRow.recurses==Tryz.prog.recurses 6)=true:=by kernel_rfl
theorem j5:(Rows.monitorBookedRow.named==Tryz.prog.varsNamed 6)=true:=by kernel_rfl
theorem joined:joinedFacts Tryz.prog 6 Tryz.f6 (OpenSpec.ofChange Rows.monitorBookedSpec).bare Rows.monitorBookedRow=true:=by
 unfold joinedFacts;rw[j0,j1,j2,j3,j4,j5];kernel_rfl
theorem s1:Tryz.pinned.checked.prog.funcNamed Rows.monitorBookedRow.func=some 6:=by kernel_rfl
theorem s2:Tryz.f6.isInstance Tryz.pinned.checked.prog Rows.monitorBookedRow.origin Rows.monitorBookedRow.targs:=of_decide_eq_true (by kernel_rfl)
theorem s3:Tryz.f6.isWrapper Tryz.pinned.checked.prog Rows.monitorBookedRow.wrapper Rows.monitorBookedRow.mainSum:=by unfold Func.isWrapper; first|(rw[if_pos (by decide+kernel)]; kernel_rfl)|(rw[if_neg (by decide+kernel)]; exact⟨rfl,rfl⟩)
theorem s4:joinedFacts Tryz.pinned.checked.prog 6 Tryz.f6 (OpenSpec.ofChange Rows.monitorBookedSpec).bare Rows.monitorBookedRow=true:=joined
theorem s5 (os:Os)(started:os.Started)(H:Type)(enc:TypeId×Value→H)(F:Stop.Interp):ReturnsInHanded Rows.monitorBookedRow.assume Tryz.pinned.checked os 6 .any (Rows.monitorBookedRow.pre enc Tryz.pinned.checked.prog Tryz.f6 (OpenSpec.ofChange Rows.monitorBookedSpec)) (((OpenSpec.ofChange Rows.monitorBookedSpec).at F).post enc Tryz.pinned.checked.prog Tryz.f6 Rows.monitorBookedRow.apart Rows.monitorBookedRow.fresh Rows.monitorBookedRow.handsOn Rows.monitorBookedRow.again):=by rw[OpenClaim.pre_eq_preRow]; exact lifted os started H enc F
theorem said:Rows.MonitorBookedSaid:=
 OpenClaim.holds_of_cond 6 Tryz.f6 rfl rfl rfl rfl rfl rfl rfl ⟨rfl,rfl,rfl,rfl,rfl⟩ rfl rfl rfl rfl rfl s1 Tryz.func6 s4 s2 s3 (fun os started H enc _ F=>s5 os started H enc F)
theorem plain (f:FuncId)(fn:Func)(hf:Tryz.pinned.checked.prog.funcNamed "greatseal/greatseallaw30.MonitorBooked" =some f)(hfn:Tryz.pinned.checked.prog.funcs[f]? =some fn):
  true=Tryz.pinned.checked.prog.looks []∧∀(j:Nat) t,fn.params[j]? =some t→Tryz.pinned.checked.prog.wantsStandIn t=false:=by
 obtain rfl:f=6:=Option.some.inj ((show Tryz.prog.funcNamed "greatseal/greatseallaw30.MonitorBooked" =some 6 by kernel_rfl).symm.trans hf)|>.symm;obtain rfl:fn=Tryz.f6:=(Option.some.inj (Tryz.func6.symm.trans hfn)).symm;refine⟨by kernel_rfl,fun j t ht=> ?_⟩;rw[Tryz.params6]at ht;have hm:t∈[29,35,3]:=by simpa using Array.mem_of_getElem? ht
 have hall:([29,35,3].all fun u=> !Tryz.prog.wantsStandIn u)=true:=by kernel_rfl
 exact(show Tryz.prog.wantsStandIn t=false by simpa using List.all_eq_true.1 hall t hm)
theorem card:Rows.MonitorBookedCardSaid:=
 Claim7.holds_tied_plain_at .later [] _ _ _ _ said (fun _ h=>by cases h) (by kernel_rfl) (fun _ h=>by cases h) monitorBooked_row_tie rfl ⟨rfl,rfl⟩ (by kernel_rfl) rfl plain (by kernel_rfl)
end Go.Proofs.YtibojdgdjhngiaaGreatDoor.lawMonitorBooked
end
