/- Several texts, one behind the other. Conditions: none. -/
import Derived.Test.YtibojdgdjhngiaaGreatDoorZg
import Derived.Test.YtibojdgdjhngiaaGreatDoorZh
import Derived.Test.YtibojdgdjhngiaaGreatDoorZi
import Derived.KernelRfl
import Derived.Test.YtibojdgdjhngiaaGreatDoorZb
import Derived.Test.YtibojdgdjhngiaaGreatDoorZj
import Derived.Test.YtibojdgdjhngiaaGreatDoorCards
import Derived.Test.YtibojdgdjhngiaaGreatDoorTie
import Derived.WalkKit
import Derived.ProofKit
import Derived.OpenShut
import Derived.Deep.DeepHandedRow
import Derived.Lib.LaidTab
import Derived.SevenTiedAt
import Derived.Stop.LaidErr
set_option linter.unusedSimpArgs false
set_option linter.unusedVariables false
set_option maxHeartbeats 20000000
set_option maxRecDepth 100000
section
namespace Go.Proofs.YtibojdgdjhngiaaGreatDoor
open Go Go.Gw Go.Ax
theorem w64_sN {i n:Nat}(h:i<n)(hn:n≤1000000):w64 ((i:Int)+1)=((i+1:Nat):Int):=by rw[Sh (by omega) (by omega)]; rfl
theorem drop_at {α:Type}{xs:List α}{i:Nat}{x:α}(h:xs[i]? =some x):xs.drop i=x::xs.drop (i+1):=by
 obtain⟨hi,rfl⟩:=List.getElem?_eq_some_iff.1 h;exact List.drop_eq_getElem_cons hi
def W0 {α β:Type}(f:α→Option β):List α→(Unit⊕β)
 | []=> .inl ()
 |x::r=>match f x with|some b=> .inr b|none=>W0 f r
theorem iter_find {α β:Type}{step:Int→Option (Int⊕(Unit⊕β))}(xs:List α)(f:α→Option β)
  (hs: ∀(i:Nat) (x:α),xs[i]? =some x→step (i:Int)=some (match f x with|some b=> .inr (.inr b)|none=> .inl ((i+1:Nat):Int)))
  (he:step (xs.length:Int)=some (.inr (.inl ()))): ∀(k i n:Nat),i+k=xs.length→k<n→iter step n (i:Int)=some (W0 f (xs.drop i))
 |0,i,n,h,hn=>by
  obtain⟨n,rfl⟩: ∃q,n=q+1:=⟨n-1,by omega⟩;have h:i=xs.length:=by omega
  subst h;show Ac (step _) _=_;rw[he,List.drop_length]; rfl
 |k+1,i,n,h,hn=>by
  obtain⟨n,rfl⟩: ∃q,n=q+1:=⟨n-1,by omega⟩;have hi:i<xs.length:=by omega
  have hx:xs[i]? =some xs[i]:=List.getElem?_eq_getElem hi;show Ac (step _) _=_;rw[hs i _ hx,drop_at hx];unfold W0;cases f xs[i]with
  |some b=>rfl
  |none=>exact iter_find xs f hs he k (i+1) n (by omega) (by omega)
theorem iter_find0 {α β:Type}{step:Int→Option (Int⊕(Unit⊕β))}(xs:List α)(f:α→Option β)(hl:xs.length≤1000000)
  (hs: ∀(i:Nat) (x:α),xs[i]? =some x→step (i:Int)=some (match f x with|some b=> .inr (.inr b)|none=> .inl ((i+1:Nat):Int)))
  (he:step (xs.length:Int)=some (.inr (.inl ()))):iter step Dt 0=some (W0 f xs):=
 iter_find xs f hs he xs.length 0 Dt (by omega) (by have:(1000001:Nat)≤Dt:=Nat.le_of_ble_eq_true rfl; omega)
def RZ {α σ:Type}(g:Nat→σ→α→σ):List α→Nat→σ→σ
 | [],_,s=>s
 |x::r,i,s=>RZ g r (i+1) (g i s x)
theorem iter_fold {α σ τ:Type}{step:τ→Option (τ⊕σ)}(pr:σ→Int→τ)(xs:List α)(g:Nat→σ→α→σ)(I:Nat→σ→Prop)
  (hs: ∀(i:Nat) (x:α) (s:σ),xs[i]? =some x→I i s→step (pr s (i:Int))=some (.inl (pr (g i s x) ((i+1:Nat):Int)))∧I (i+1) (g i s x))
  (he: ∀s,I xs.length s→step (pr s (xs.length:Int))=some (.inr s)): ∀(k i n:Nat) (s:σ),i+k=xs.length→k<n→I i s→iter step n (pr s (i:Int))=some (RZ g (xs.drop i) i s)
 |0,i,n,s,h,hn,hI=>by
  obtain⟨n,rfl⟩: ∃q,n=q+1:=⟨n-1,by omega⟩;have h:i=xs.length:=by omega
  subst h;show Ac (step _) _=_;rw[he s hI,List.drop_length]; rfl
 |k+1,i,n,s,h,hn,hI=>by
  obtain⟨n,rfl⟩: ∃q,n=q+1:=⟨n-1,by omega⟩;have hi:i<xs.length:=by omega
  have hx:xs[i]? =some xs[i]:=List.getElem?_eq_getElem hi;obtain⟨h1,h2⟩:=hs i _ s hx hI;show Ac (step _) _=_;rw[h1,drop_at hx];exact iter_fold pr xs g I hs he k (i+1) n _ (by omega) (by omega) h2
theorem iter_fold0 {α σ τ:Type}{step:τ→Option (τ⊕σ)}(pr:σ→Int→τ)(xs:List α)(g:Nat→σ→α→σ)(I:Nat→σ→Prop)(hl:xs.length≤1000000)
  (hs: ∀(i:Nat) (x:α) (s:σ),xs[i]? =some x→I i s→step (pr s (i:Int))=some (.inl (pr (g i s x) ((i+1:Nat):Int)))∧I (i+1) (g i s x))
  (he: ∀s,I xs.length s→step (pr s (xs.length:Int))=some (.inr s)) (s:σ) (hI:I 0 s):iter step Dt (pr s 0)=some (RZ g xs 0 s):=
 iter_fold pr xs g I hs he xs.length 0 Dt s (by omega) (by have:(1000001:Nat)≤Dt:=Nat.le_of_ble_eq_true rfl; omega) hI
theorem eachN_find {α β σ:Type}{body:Int→σ→Option (σ⊕β)}(xs:List α)(f:Nat→α→Option β)(s0:σ)
  (hs: ∀(i:Nat) (x:α),xs[i]? =some x→body (i:Int) s0=some (match f i x with|some b=> .inr b|none=> .inl s0)):
  ∀(k i:Nat),i+k=xs.length→∃r,Iw body k (i:Int) s0=some r∧((∃(j:Nat) (x:α) (b:β),xs[j]? =some x∧i≤j∧f j x=some b∧r= .inr b)∨(r= .inl s0∧∀(j:Nat) (x:α),i≤j→xs[j]? =some x→f j x=none))
 |0,i,h=>⟨.inl s0,rfl,.inr ⟨rfl,fun j x hj hx=>by
   have:=(List.getElem?_eq_some_iff.1 hx).1; omega⟩⟩
 |k+1,i,h=>by
  have hi:i<xs.length:=by omega
  have hx:xs[i]? =some xs[i]:=List.getElem?_eq_getElem hi;show∃r,Ac (body _ _) _=_∧_;rw[hs i _ hx];cases hf:f i xs[i]with
  |some b=>exact⟨.inr b,rfl,.inl ⟨i,_,b,hx,Nat.le_refl _,hf,rfl⟩⟩
  |none=>
   obtain⟨r,h1,h2⟩:=eachN_find xs f s0 hs k (i+1) (by omega);refine⟨r,h1,?_⟩;rcases h2 with ⟨j,x,b,a1,a2,a3,a4⟩|⟨a1,a2⟩
   ·exact .inl ⟨j,x,b,a1,by omega,a3,a4⟩
   ·refine .inr ⟨a1,fun j x hj hx'=> ?_⟩;rcases Nat.lt_or_ge i j with q|q
    ·exact a2 j x q hx'
    ·have:j=i:=by omega
     subst this; rw[hx]at hx'; cases hx'; exact hf
theorem fndO_any {α:Type}(p:α→Bool)(v:Bool): ∀(xs:List α),W0 (fun x=>if p x=true then some v else none) xs=if xs.any p=true then .inr v else .inl ()
 | []=>rfl
 |x::r=>by
  unfold W0;cases h:p x with
  |true=>simp[h]
  |false=>simp[h,fndO_any p v r]
def plc {α:Type}(p:α→Bool):List α→Nat→List Int
 | [],_=> []
 |x::r,i=>if p x=true then(i:Int)::plc p r (i+1)else plc p r (i+1)
theorem plc_len {α:Type}(p:α→Bool): ∀(xs:List α) (i:Nat),(plc p xs i).length≤xs.length
 | [],_=>Nat.le_refl _
 |x::r,i=>by
  unfold plc;have:=plc_len p r (i+1);split<;>simp<;>omega
theorem plc_snoc {α:Type}(p:α→Bool): ∀(xs:List α) (i:Nat) (out:List Int),RZ (fun i (s:List Int) x=>if p x=true then s++[(i:Int)]else s) xs i out=out++plc p xs i
 | [],_,out=>by simp[RZ,plc]
 |x::r,i,out=>by
  unfold RZ plc;rw[plc_snoc p r (i+1)];split<;>simp
def KM (l:List ByteArray):Bool:= !(l.take 20).any (fun s=>decide ((s.size:Int)>200))&&decide ((l.length:Int)≤16)
theorem idx_take {α:Type}{l:List α}{n i:Nat}{x:α}(h:(l.take n)[i]? =some x):idx l (i:Int)=some x∧i<l.length∧i<n:=by
 rw[List.getElem?_take]at h;split at h
 ·exact⟨DZ h,(List.getElem?_eq_some_iff.1 h).1,‹_›⟩
 ·cases h
theorem little_eq (l:List ByteArray):Dg l=some (KM l):=by
 unfold Dg KM;rw[iter_find0 (l.take 20) (fun s=>if decide ((s.size:Int)>200)=true then some false else none) (by simp; omega) (fun i x hx=> ?_) ?_,fndO_any]
 ·simp only[Am];cases (l.take 20).any fun s=>decide ((s.size:Int)>200)<;>rfl
 ·unfold CY;rw[if_neg (by simp; omega)]
 ·obtain⟨h1,h2,h3⟩:=idx_take hx;unfold CY;rw[if_pos (by simp; omega),h1];simp only[Am];split
  ·rfl
  ·rw[w64_sN h3 (by omega)]
def Ki (c:Ag):Bool:=((((decide ((c.Issuer.size:Int)≤300))&&(decide ((c.Subject.size:Int)≤300)))&&KM c.Names)&&KM c.Permit)&&(decide ((c.Proms.length:Int)≤8))
theorem few18_eq (c:Ag):Gz c=some (Ki c):=by
 unfold Gz Ki;rw[little_eq,little_eq];cases (decide ((c.Issuer.size:Int)≤300))&&(decide ((c.Subject.size:Int)≤300))
 ·rfl
 ·cases KM c.Names<;>rfl
theorem few18_names {c:Ag}(h:Ki c=true):c.Names.length≤16:=by
 simp only[Ki,KM,Bool.and_eq_true,decide_eq_true_eq]at h;omega
def TD (l:List Ag):Bool:= !(l.take 40).any (fun c=> !Ki c)&&decide ((l.length:Int)≤40)
theorem fewC_eq (l:List Ag):De l=some (TD l):=by
 unfold De TD;rw[iter_find0 (l.take 40) (fun c=>if(!Ki c)=true then some false else none) (by simp; omega) (fun i x hx=> ?_) ?_,fndO_any]
 ·simp only[Am];cases (l.take 40).any fun c=> !Ki c<;>rfl
 ·unfold Cv;rw[if_neg (by simp; omega)]
 ·obtain⟨h1,h2,h3⟩:=idx_take hx;unfold Cv;rw[if_pos (by simp; omega),h1];simp only[Am,few18_eq];split
  ·rfl
  ·rw[w64_sN h3 (by omega)]
theorem fewC_in {l:List Ag}(h:TD l=true):l.length≤40∧∀c∈l,Ki c=true:=by
 simp only[TD,Bool.and_eq_true,decide_eq_true_eq,Bool.not_eq_true',List.any_eq_false]at h;have hl:l.length≤40:=by omega
 refine⟨hl,fun c hc=> ?_⟩;rw[List.take_of_length_le hl]at h;have:=h.1 c hc;cases e:Ki c
 ·rw[e]at this; exact absurd rfl this
 ·rfl
def TE (l:List Aj):Bool:= !(l.take 40).any (fun b=>decide ((b.Names.length:Int)>20))&&decide ((l.length:Int)≤40)
theorem fewB_eq (l:List Aj):Df l=some (TE l):=by
 unfold Df TE;rw[iter_find0 (l.take 40) (fun b=>if decide ((b.Names.length:Int)>20)=true then some false else none) (by simp; omega) (fun i x hx=> ?_) ?_,fndO_any]
 ·simp only[Am];cases (l.take 40).any fun b=>decide ((b.Names.length:Int)>20)<;>rfl
 ·unfold Cw;rw[if_neg (by simp; omega)]
 ·obtain⟨h1,h2,h3⟩:=idx_take hx;unfold Cw;rw[if_pos (by simp; omega),h1];simp only[Am];split
  ·rfl
  ·rw[w64_sN h3 (by omega)]
theorem fewB_in {l:List Aj}(h:TE l=true):l.length≤40∧∀b∈l,b.Names.length≤20:=by
 simp only[TE,Bool.and_eq_true,decide_eq_true_eq,Bool.not_eq_true',List.any_eq_false]at h;have hl:l.length≤40:=by omega
 refine⟨hl,fun b hb=> ?_⟩;rw[List.take_of_length_le hl]at h;have:=h.1 b hb;omega
theorem lkG_up {κ γ:Type}{E:κ→κ→Bool}(hE: ∀a b,E a b=true↔a=b)(o k:κ)(v:γ): ∀(kv:List (κ×γ)),lkG (E o) (upG (E k) (k,v) kv)=if E o k=true then some v else lkG (E o) kv
 | []=>by
  unfold upG lkG lkG;cases E o k<;>rfl
 |y::r=>by
  unfold upG;cases hk:E k y.1 with
  |true=>
   have hy:=(hE _ _).1 hk;simp only[cond_true,lkG];rw[←hy];cases E o k<;>rfl
  |false=>
   simp only[cond_false,lkG];cases ho:E o y.1 with
   |true=>
    have hy:=(hE _ _).1 ho;have:E o k=false:=by
     cases e:E o k with
     |false=>rfl
     |true=>
      have:=(hE _ _).1 e;rw[←this,hy]at hk;rw[(hE y.1 y.1).2 rfl]at hk; cases hk
    rw[this]; rfl
   |false=>exact lkG_up hE o k v r
theorem eqO_iff (a b:Ah):Au a b=true↔a=b:=by
 cases a; cases b;simp[Au,KS]
theorem eqSm_iff (a b:UInt64×UInt64):Em a b=true↔a=b:=by
 cases a; cases b;simp[Em]
abbrev OM:=List (Ah×Int)
def qO (kv:OM)(o:Ah)(n:Int):Bool:=match lkG (Au o) kv with|some v=>decide (v≤n)|none=>false
def putO (kv:OM)(o:Ah)(at_:Int):OM:=if((!(lkG (Au o) kv).isSome)||(decide (at_<(lkG (Au o) kv).getD 0)))=true then upG (Au o) (o,at_) kv else kv
theorem qO_put (kv:OM)(o k:Ah)(at_ n:Int):qO (putO kv k at_) o n=(qO kv o n||(Au o k&&decide (at_≤n))):=by
 unfold putO;split
 ·rename_i h;unfold qO;rw[lkG_up eqO_iff];cases he:Au o k with
  |false=>simp
  |true=>
   have:=(eqO_iff _ _).1 he;subst this;simp only[if_true,Bool.true_and];cases hl:lkG (Au o) kv with
   |none=>simp
   |some v=>
    rw[hl]at h;simp only[Option.isSome_some,Bool.not_true,Option.getD_some,Bool.false_or,decide_eq_true_eq]at h;by_cases h1:at_≤n
    ·simp[h1]
    ·have: ¬v≤n:=by omega
     simp[h1,this]
 ·rename_i h;cases he:Au o k with
  |false=>simp
  |true=>
   have:=(eqO_iff _ _).1 he;subst this;unfold qO;cases hl:lkG (Au o) kv with
   |none=>rw[hl]at h; simp at h
   |some v=>
    rw[hl]at h;simp only[Option.isSome_some,Bool.not_true,Option.getD_some,Bool.false_or,decide_eq_true_eq]at h;by_cases h1:at_≤n
    ·have:v≤n:=by omega
     simp[h1,this]
    ·simp[h1]
def putN (key:UInt64)(at_:Int):List ByteArray→OM→OM
 | [],kv=>kv
 |s::r,kv=>putN key at_ r (putO kv ⟨s,key⟩ at_)
def Qh:List Aj→OM→OM
 | [],kv=>kv
 |b::r,kv=>Qh r (putN b.Key b.At b.Names kv)
theorem strange_b5 (b:Aj)(i:Int)(s:ByteArray)(kv:OM):By b i s kv=some (putO kv ⟨s,b.Key⟩ b.At):=by
 unfold By putO;show Ac (if((!(lkG (Au ⟨s,b.Key⟩) kv).isSome)||(decide (b.At<(lkG (Au ⟨s,b.Key⟩) kv).getD 0)))=true then _ else _) _=_;split<;>rfl
theorem strange_n (b:Aj): ∀(l:List ByteArray) (i:Int) (kv:OM),DF (By b) l i kv=some (putN b.Key b.At l kv)
 | [],_,_=>rfl
 |s::r,i,kv=>by
  show Ac (By b i s kv) _=_;rw[strange_b5];exact strange_n b r (i+1) _
theorem strange_b: ∀(l:List Aj) (i:Int) (kv:OM),DF BQ l i kv=some (Qh l kv)
 | [],_,_=>rfl
 |b::r,i,kv=>by
  show Ac (BQ i b kv) _=_;unfold BQ;rw[strange_n];exact strange_b r (i+1) _
def bkd (l:List Aj)(s:ByteArray)(key:UInt64)(n:Int):Bool:=l.any fun b=>b.Key==key&&decide (b.At≤n)&&b.Names.any (fun t=>eqS t s)
theorem qO_n (key:UInt64)(at_ n:Int)(s:ByteArray)(k:UInt64): ∀(l:List ByteArray) (kv:OM),qO (putN key at_ l kv) ⟨s,k⟩ n=(qO kv ⟨s,k⟩ n||(key==k&&decide (at_≤n)&&l.any (fun t=>eqS t s)))
 | [],kv=>by simp[putN]
 |t::r,kv=>by
  unfold putN;rw[qO_n key at_ n s k r,qO_put];have e:Au ⟨s,k⟩ ⟨t,key⟩=(eqS t s&&(key==k)):=by
   have h1:eqS s t=eqS t s:=Bool.eq_iff_iff.2 (by rw[KS,KS]; exact eq_comm);have h2:(k==key)=(key==k):=Bool.beq_comm;simp[Au,h1,h2]
  rw[e];simp only[List.any_cons];cases qO kv ⟨s,k⟩ n<;>cases eqS t s<;>cases (key==k)<;>cases decide (at_≤n)<;>simp
theorem qO_b (n:Int)(s:ByteArray)(k:UInt64): ∀(l:List Aj) (kv:OM),qO (Qh l kv) ⟨s,k⟩ n=(qO kv ⟨s,k⟩ n||bkd l s k n)
 | [],kv=>by simp[Qh,bkd]
 |b::r,kv=>by
  unfold Qh;rw[qO_b n s k r,qO_n];simp only[bkd,List.any_cons,Bool.or_assoc]
def U9 (books:List Aj)(c:Ag):Bool:=c.Names.any fun s=> !bkd books s c.Key c.From
theorem strange_in (kv:OM)(c:Ag):Cx c kv=some (c.Names.any (fun s=> !qO kv ⟨s,c.Key⟩ c.From),kv):=by
 have h11: ∀(s:ByteArray),BI s kv c=some (!qO kv ⟨s,c.Key⟩ c.From,kv,c):=by
  intro s;unfold BI bnd qO;cases lkG (Au ⟨s,c.Key⟩) kv with
  |none=>rfl
  |some v=>
   have:(decide (v>c.From))= !decide (v≤c.From):=by
    by_cases h:v≤c.From
    ·simp[h]
    ·simp[h]; omega
   simp[this]
 have hb: ∀(i:Nat) (s:ByteArray),c.Names[i]? =some s→AJ c.Names (i:Int) (kv,c.Serial,c.Issuer,c.Subject,c.Key,c.Names,c.From,c.Until,c.Ca,c.Depth,c.Permit,c.Proms,c.Sig.E,c.Sig.S)=
   some (match (if(!qO kv ⟨s,c.Key⟩ c.From)=true then some ((i:Int),kv,c)else none)with|some b=> .inr b|none=> .inl (kv,c.Serial,c.Issuer,c.Subject,c.Key,c.Names,c.From,c.Until,c.Ca,c.Depth,c.Permit,c.Proms,c.Sig.E,c.Sig.S)):=by
  intro i s hs;unfold AJ;rw[DZ hs];simp only[Am];show Ac (BI s kv c) _=_;rw[h11];cases (!qO kv ⟨s,c.Key⟩ c.From)<;>rfl
 obtain⟨r,h1,h2⟩:=eachN_find (body:=AJ c.Names) c.Names (fun i s=>if(!qO kv ⟨s,c.Key⟩ c.From)=true then some ((i:Int),kv,c)else none) (kv,c.Serial,c.Issuer,c.Subject,c.Key,c.Names,c.From,c.Until,c.Ca,c.Depth,c.Permit,c.Proms,c.Sig.E,c.Sig.S) (fun i x hx=>by rw[hb i x hx]; by_cases hq:(!qO kv ⟨x,c.Key⟩ c.From)=true<;>simp[hq]) c.Names.length 0 (by omega);unfold Cx AY A6;rw[show((0:Nat):Int)=0 from rfl]at h1;rw[h1];rcases h2 with ⟨j,x,b,a1,a2,a3,rfl⟩|⟨rfl,a2⟩
 ·split at a3
  ·rename_i hp;cases a3;have:c.Names.any (fun s=> !qO kv ⟨s,c.Key⟩ c.From)=true:=List.any_eq_true.2 ⟨x,List.mem_of_getElem? a1,hp⟩;rw[this];have:decide ((j:Int)≥0)=true:=decide_eq_true (by omega);simp only[Am,this]
  ·cases a3
 ·have:c.Names.any (fun s=> !qO kv ⟨s,c.Key⟩ c.From)=false:=by
   rw[List.any_eq_false];intro s hs;obtain⟨j,hj⟩:=List.getElem?_of_mem hs;have:=a2 j s (by omega) hj;intro h; rw[if_pos h]at this; cases this
  rw[this]; rfl
theorem app1 {α:Type}{b n:Nat}{s:List α}{x:α}(h:s.length≤n)(hb:(n+1)*b≤140737488355328)(hn:n+1≤140737488355328):app b s [x]=some (s++[x]):=by
 unfold app;have:(s.length+[x].length)*b≤(n+1)*b:=Nat.mul_le_mul_right b (by simp; omega);rw[if_pos ⟨by omega,by simp; omega⟩]
theorem places_c1 (kv:OM){certs:List Ag}{i:Nat}{x:Ag}{out:List Int}(hx:certs[i]? =some x)(ho:out.length≤1000000):
  AM certs (i:Int) (out,kv)=some (if x.Names.any (fun s=> !qO kv ⟨s,x.Key⟩ x.From)=true then out++[(i:Int)]else out,kv):=by
 unfold AM;rw[DZ hx];simp only[Am,strange_in];split
 ·rw[app1 ho (by decide) (by decide)]; rfl
 ·rfl
theorem places_c (kv:OM)(certs:List Ag)(hl:certs.length≤1000000): ∀(k i:Nat) (out:List Int),i+k=certs.length→out.length≤i→
  B4 (AM certs) k (i:Int) (out,kv)=some (out++plc (fun c=>c.Names.any (fun s=> !qO kv ⟨s,c.Key⟩ c.From)) (certs.drop i) i,kv)
 |0,i,out,h,ho=>by
  rw[List.drop_of_length_le (by omega)];simp[B4,plc]
 |k+1,i,out,h,ho=>by
  have hi:i<certs.length:=by omega
  have hx:certs[i]? =some certs[i]:=List.getElem?_eq_getElem hi;show Ac (AM certs (i:Int) (out,kv)) _=_;rw[places_c1 kv hx (by omega),drop_at hx];unfold plc;split
  ·have:=places_c kv certs hl k (i+1) (out++[(i:Int)]) (by omega) (by simp; omega);rw[List.append_assoc]at this;exact this
  ·exact places_c kv certs hl k (i+1) out (by omega) (by omega)
theorem strange_eq {certs:List Ag}(books:List Aj)(hl:certs.length≤1000000):A5 certs books=some (plc (U9 books) certs 0):=by
 unfold A5;rw[strange_b];simp only[Am];unfold BF;have:=places_c (Qh books []) certs hl certs.length 0 [] (by omega) (Nat.le_refl _);rw[show((0:Nat):Int)=0 from rfl]at this;rw[this];have e:(fun(c:Ag)=>c.Names.any (fun s=> !qO (Qh books []) ⟨s,c.Key⟩ c.From))=U9 books:=by
  funext c;unfold U9;congr 1;funext s;rw[qO_b];rfl
 simp only[Am,List.drop_zero,List.nil_append,e]
def mis (h:AE)(leaves:List (UInt64×UInt64))(k:AO)(p:g_api_Promise):Bool:=(((p.Log==h.Log)&&(p.Log==k.Log))&&(decide ((w64 (p.At+k.Delay))<h.At)))&& !leaves.any (fun x=>Em x p.Leaf)
abbrev LM:=List ((UInt64×UInt64)×Bool)
def thr (kv:LM)(x:UInt64×UInt64):Bool:=(lkG (Em x) kv).getD false
def Wi:List (UInt64×UInt64)→LM→LM
 | [],kv=>kv
 |x::r,kv=>Wi r (upG (Em x) (x,true) kv)
theorem missing_l: ∀(l:List (UInt64×UInt64)) (i:Int) (kv:LM),DF CT l i kv=some (Wi l kv)
 | [],_,_=>rfl
 |x::r,i,kv=>missing_l r (i+1) (upG (Em x) (x,true) kv)
theorem thr_l (y:UInt64×UInt64): ∀(l:List (UInt64×UInt64)) (kv:LM),thr (Wi l kv) y=(thr kv y||l.any (fun x=>Em x y))
 | [],kv=>by simp[Wi]
 |x::r,kv=>by
  unfold Wi;rw[thr_l y r];unfold thr;rw[lkG_up eqSm_iff];have e:Em y x=Em x y:=by
   unfold Em;rw[Bool.beq_comm (a:=y.1),Bool.beq_comm (a:=y.2)]
  rw[e,List.any_cons];cases Em x y<;>simp
theorem missing_in (h:AE)(k:AO)(kv:LM)(p:g_api_Promise):Cy p h k kv=some ((((((p.Log==h.Log)&&(p.Log==k.Log))&&(decide ((w64 (p.At+k.Delay))<h.At)))&&(!thr kv p.Leaf))),h,k,kv):=rfl
theorem places_p1 (h:AE)(k:AO)(kv:LM){l:List g_api_Promise}{i:Nat}{x:g_api_Promise}{out:List Int}(hx:l[i]? =some x)(ho:out.length≤1000000):
  AI l (i:Int) (out,h.Log,h.Size,h.Root.1,h.Root.2,h.At,h.Sig.E,h.Sig.S,k.Log,k.Key,k.Delay,kv)=
   some (if(((((x.Log==h.Log)&&(x.Log==k.Log))&&(decide ((w64 (x.At+k.Delay))<h.At)))&&(!thr kv x.Leaf)))=true then out++[(i:Int)]else out,h.Log,h.Size,h.Root.1,h.Root.2,h.At,h.Sig.E,h.Sig.S,k.Log,k.Key,k.Delay,kv):=by
 unfold AI;rw[DZ hx];simp only[Am];show Ac (Ac (Cy x h k kv) _) _=_;rw[missing_in];simp only[Am];split
 ·rw[app1 ho (by decide) (by decide)]; rfl
 ·rfl
theorem places_p (h:AE)(k:AO)(kv:LM)(l:List g_api_Promise)(hl:l.length≤1000000): ∀(q i:Nat) (out:List Int),i+q=l.length→out.length≤i→
  B4 (AI l) q (i:Int) (out,h.Log,h.Size,h.Root.1,h.Root.2,h.At,h.Sig.E,h.Sig.S,k.Log,k.Key,k.Delay,kv)=some (out++plc (fun p=>(((p.Log==h.Log)&&(p.Log==k.Log))&&(decide ((w64 (p.At+k.Delay))<h.At)))&&(!thr kv p.Leaf)) (l.drop i) i,h.Log,h.Size,h.Root.1,h.Root.2,h.At,h.Sig.E,h.Sig.S,k.Log,k.Key,k.Delay,kv)
 |0,i,out,e,ho=>by
  rw[List.drop_of_length_le (by omega)];simp[B4,plc]
 |q+1,i,out,e,ho=>by
  have hi:i<l.length:=by omega
  have hx:l[i]? =some l[i]:=List.getElem?_eq_getElem hi;show Ac (AI l (i:Int) (out,h.Log,h.Size,h.Root.1,h.Root.2,h.At,h.Sig.E,h.Sig.S,k.Log,k.Key,k.Delay,kv)) _=_;rw[places_p1 h k kv hx (by omega),drop_at hx];unfold plc;split
  ·have:=places_p h k kv l hl q (i+1) (out++[(i:Int)]) (by omega) (by simp; omega);rw[List.append_assoc]at this;exact this
  ·exact places_p h k kv l hl q (i+1) out (by omega) (by omega)
theorem missing_eq {l:List g_api_Promise}(h:AE)(leaves:List (UInt64×UInt64))(k:AO)(hl:l.length≤1000000):Ao l h leaves k=some (plc (mis h leaves k) l 0):=by
 unfold Ao;rw[missing_l];simp only[Am];unfold Bu;have:=places_p h k (Wi leaves []) l hl l.length 0 [] (by omega) (Nat.le_refl _);rw[show((0:Nat):Int)=0 from rfl]at this;rw[this];have e:(fun(p:g_api_Promise)=>(((p.Log==h.Log)&&(p.Log==k.Log))&&(decide ((w64 (p.At+k.Delay))<h.At)))&&(!thr (Wi leaves []) p.Leaf))=mis h leaves k:=by
  funext p;unfold mis;rw[thr_l];rfl
 simp only[Am,List.drop_zero,List.nil_append,e]
end Go.Proofs.YtibojdgdjhngiaaGreatDoor
end
section
namespace Go.Proofs.YtibojdgdjhngiaaGreatDoor
open Go Go.Gw Go.Ax
theorem guT {α:Type} [Inhabited α](o:Option α):gu true o=o:=rfl
theorem guF {α:Type} [Inhabited α](o:Option α):gu false o=some default:=rfl
theorem lt_dec {a b:Nat}(h:a<b):decide (((a:Nat):Int)<(b:Int))=true:=decide_eq_true (by omega)
theorem lt_dec' (a:Nat):decide (((a:Nat):Int)<(a:Int))=false:=decide_eq_false (by omega)
theorem idxL {α:Type}{l:List α}{i:Nat}(h:i<l.length):idx l (i:Int)=some l[i]:=DZ (List.getElem?_eq_getElem h)
theorem fnd_none {α β:Type}: ∀(l:List α),W0 (fun _=>(none:Option β)) l= .inl ()
 | []=>rfl
 |x::r=>fnd_none r
theorem find_none {β:Type}{step:Int→Option (Int⊕(Unit⊕β))}(n:Nat)(hl:n≤1000000)
  (hs: ∀(i:Nat),i<n→step (i:Int)=some (.inl ((i+1:Nat):Int))) (he:step (n:Int)=some (.inr (.inl ()))):iter step Dt 0=some (.inl ()):=by
 have:=iter_find0 (step:=step) (List.replicate n ()) (fun _=>none) (by simpa using hl) (fun i x hx=>hs i (by simpa using (List.getElem?_eq_some_iff.1 hx).1)) (by simpa using he);rw[this,fnd_none]
theorem u64_ne (a b:UInt64):((a.toNat:Int) !=(b.toNat:Int))= !(a==b):=by
 by_cases h:a=b
 ·subst h; simp
 ·have:a.toNat≠b.toNat:=fun e=>h (UInt64.toNat_inj.1 e);have h1:(a==b)=false:=by simpa using h
  rw[h1];have:((a.toNat:Int)==(b.toNat:Int))=false:=by simp only[beq_eq_false_iff_ne]; omega
  simp only[bne,this]
end Go.Proofs.YtibojdgdjhngiaaGreatDoor
end
section
namespace Go.Proofs.YtibojdgdjhngiaaGreatDoor
open Go Go.Gw Go.Ax
theorem ints_self (l:List Int)(hl:l.length≤1000000):Cn l l=some true:=by
 unfold Cn;rw[bne_self_eq_false,if_neg (by decide),find_none l.length hl (fun i hi=>by
  unfold DB;rw[lt_dec hi,if_pos rfl,idxL hi,Am,Am,bne_self_eq_false,if_neg (by decide),w64_sN hi hl]) (by unfold DB; rw[lt_dec',if_neg (by decide)]),Am]
theorem booked_b3' {books:List Aj}{b:Aj}{i:Nat}(s:ByteArray)(hx:books[i]? =some b)(hn:b.Names.length≤1000000):
  iter (Cq s books (i:Int)) Dt 0=some (if b.Names.any (fun t=>eqS t s)=true then .inr true else .inl ()):=by
 rw[iter_find0 b.Names (fun t=>if eqS t s=true then some true else none) hn (fun j t ht=>by
  have hj:=(List.getElem?_eq_some_iff.1 ht).1;unfold Cq;rw[DZ hx,Am,lt_dec hj,if_pos rfl,Am,DZ ht,Am];split
  ·rfl
  ·rw[w64_sN hj hn]) (by unfold Cq; rw[DZ hx,Am,lt_dec',if_neg (by decide)]),fndO_any]
def bkP (s:ByteArray)(key:UInt64)(n:Int)(b:Aj):Bool:=b.Key==key&&decide (b.At≤n)&&b.Names.any (fun t=>eqS t s)
theorem booked_ref (c:Ag)(s:ByteArray){books:List Aj}(hl:books.length≤1000000)(hn: ∀b∈books,b.Names.length≤1000000):D6 c s books=some (bkd books s c.Key c.From):=by
 unfold D6;rw[iter_find0 books (fun b=>if bkP s c.Key c.From b=true then some true else none) hl (fun i b hx=>by
  have hi:=(List.getElem?_eq_some_iff.1 hx).1;unfold CX;rw[lt_dec hi,if_pos rfl,DZ hx,Am,u64_ne,Bool.not_not];unfold bkP;cases hk:b.Key==c.Key with
  |false=>
   rw[guF,Am,show((!false)||_)=true from rfl,if_pos rfl,w64_sN hi hl];rfl
  |true=>
   rw[guT,Am];by_cases ha:b.At>c.From
   ·rw[decide_eq_true ha,show((!true)||true)=true from rfl,if_pos rfl,w64_sN hi hl,decide_eq_false (by omega: ¬b.At≤c.From)];rfl
   ·rw[decide_eq_false ha,show((!true)||false)=false from rfl,if_neg (by decide),booked_b3' s hx (hn b (List.mem_of_getElem? hx)),Am,decide_eq_true (by omega:b.At≤c.From),Bool.true_and,Bool.true_and];cases b.Names.any fun t=>eqS t s with
    |true=>rfl
    |false=>
     show some (Sum.inl (w64 ((i:Int)+1)))=_;rw[w64_sN hi hl];rfl) (by unfold CX; rw[lt_dec',if_neg (by decide)]),fndO_any,Am]
 show _=some (books.any (bkP s c.Key c.From));cases books.any (bkP s c.Key c.From)<;>rfl
def U6 (books:List Aj)(c:Ag)(i:Nat)(s:Bool)(t:ByteArray):Bool:=s&&bkd books t c.Key c.From
theorem fld_all (books:List Aj)(c:Ag): ∀(l:List ByteArray) (i:Nat) (s:Bool),RZ (U6 books c) l i s=(s&&l.all (fun t=>bkd books t c.Key c.From))
 | [],_,s=>by simp[RZ]
 |t::r,i,s=>by
  unfold RZ;rw[fld_all books c r];unfold U6;simp[Bool.and_assoc]
theorem strange_b2 {certs:List Ag}{books:List Aj}{c:Ag}{i:Nat}(out:List Int)(hl:books.length≤1000000)(hn: ∀b∈books,b.Names.length≤1000000)(hx:certs[i]? =some c)(hc:c.Names.length≤1000000):
  iter (BM certs books (out,(i:Int))) Dt (true,0)=some (c.Names.all (fun t=>bkd books t c.Key c.From)):=by
 have h:=iter_fold0 (step:=BM certs books (out,(i:Int))) (fun(s:Bool) (n:Int)=>(s,n)) c.Names (U6 books c) (fun _ _=>True) hc
  (fun j t s ht _=>⟨by
   have hj:=(List.getElem?_eq_some_iff.1 ht).1;unfold BM;dsimp only;rw[DZ hx,Am,lt_dec hj,if_pos rfl];unfold U6;cases s with
   |false=>rw[guF,Am,Am,guF,Am,guF,Am,w64_sN hj hc]; rfl
   |true=>rw[guT,Am,Am,guT,DZ ht,Am,guT,booked_ref c t hl hn,Am,w64_sN hj hc],trivial⟩)
  (fun s _=>by
   unfold BM;dsimp only;rw[DZ hx,Am,lt_dec',if_neg (by decide)]) true trivial
 rw[h,fld_all,Bool.true_and]
theorem not_all (books:List Aj)(c:Ag):(!c.Names.all (fun t=>bkd books t c.Key c.From))=U9 books c:=by
 unfold U9;rw[List.not_all_eq_any_not]
theorem strange_ref {certs:List Ag}{books:List Aj}(hl:certs.length≤1000000)(hc: ∀c∈certs,c.Names.length≤1000000)(hb:books.length≤1000000)(hn: ∀b∈books,b.Names.length≤1000000):
  Dz certs books=some (plc (U9 books) certs 0):=by
 have h:=iter_fold0 (step:=Cb certs books) (fun(s:List Int) (n:Int)=>(s,n)) certs (fun i s x=>if U9 books x=true then s++[(i:Int)]else s) (fun i s=>s.length≤i) hl
  (fun i c s hx hI=>⟨by
   have hi:=(List.getElem?_eq_some_iff.1 hx).1;unfold Cb;dsimp only;rw[lt_dec hi,if_pos rfl,strange_b2 s hb hn hx (hc c (List.mem_of_getElem? hx)),Am,Am,not_all];split
   ·rw[app1 (n:=1000000) (by omega) (by decide) (by decide),Am,Am,w64_sN hi hl]
   ·rw[Am,w64_sN hi hl],by
   split
   ·rw[List.length_append]; simp only[List.length_singleton]; omega
   ·omega⟩)
  (fun s _=>by
   unfold Cb;dsimp only;rw[lt_dec',if_neg (by decide)]) [] (Nat.le_refl _)
 unfold Dz;rw[h,Am,Am,plc_snoc];rfl
theorem miss_b5 (leaves:List (UInt64×UInt64))(p:g_api_Promise)(hl:leaves.length≤1000000):iter (BN leaves p) Dt (false,0)=some (leaves.any (fun x=>Em x p.Leaf)):=by
 have h:=iter_fold0 (step:=BN leaves p) (fun(s:Bool) (n:Int)=>(s,n)) leaves (fun _ s x=>s||Em x p.Leaf) (fun _ _=>True) hl
  (fun j t s ht _=>⟨by
   have hj:=(List.getElem?_eq_some_iff.1 ht).1;unfold BN;dsimp only;rw[lt_dec hj,if_pos rfl,DZ ht];cases s with
   |false=>rw[show(!false)=true from rfl,guT,Am,w64_sN hj hl]
   |true=>rw[show(!true)=false from rfl,guF,Am,w64_sN hj hl]; rfl,trivial⟩)
  (fun s _=>by
   unfold BN;dsimp only;rw[lt_dec',if_neg (by decide)]) false trivial
 rw[h];have: ∀(l:List (UInt64×UInt64)) (i:Nat) (s:Bool),RZ (fun _ s x=>s||Em x p.Leaf) l i s=(s||l.any (fun x=>Em x p.Leaf)):=by
  intro l;induction l with
  |nil=>intro i s; simp[RZ]
  |cons x r ih=>intro i s; unfold RZ; rw[ih]; simp[Bool.or_assoc]
 rw[this,Bool.false_or]
theorem missing_ref {l:List g_api_Promise}{leaves:List (UInt64×UInt64)}(h:AE)(k:AO)(hl:l.length≤1000000)(hv:leaves.length≤1000000):DA l h leaves k=some (plc (mis h leaves k) l 0):=by
 have hh:=iter_fold0 (step:=Cc l h leaves k) (fun(s:List Int) (n:Int)=>(s,n)) l (fun i s x=>if mis h leaves k x=true then s++[(i:Int)]else s) (fun i s=>s.length≤i) hl
  (fun i p s hx hI=>⟨by
   have hi:=(List.getElem?_eq_some_iff.1 hx).1;unfold Cc;dsimp only;rw[lt_dec hi,if_pos rfl,DZ hx,Am,miss_b5 leaves p hv];have e:(((p.Log !=h.Log)||(p.Log !=k.Log))||(decide ((w64 (p.At+k.Delay))≥h.At)))= !(((p.Log==h.Log)&&(p.Log==k.Log))&&(decide ((w64 (p.At+k.Delay))<h.At))):=by
    generalize w64 (p.At+k.Delay)=t;have:decide (t≥h.At)= !decide (t<h.At):=by
     by_cases q:t<h.At
     ·rw[decide_eq_true q,decide_eq_false (by omega)]; rfl
     ·rw[decide_eq_false q,decide_eq_true (by omega)]; rfl
    rw[this];unfold bne;cases p.Log==h.Log<;>cases p.Log==k.Log<;>cases decide (t<h.At)<;>rfl
   rw[e];unfold mis;cases ((p.Log==h.Log)&&(p.Log==k.Log))&&(decide ((w64 (p.At+k.Delay))<h.At))with
   |false=>
    rw[show(!false)=true from rfl,if_pos rfl,Am,w64_sN hi hl];rfl
   |true=>
    rw[show(!true)=false from rfl,if_neg (by decide),Am,Am,Bool.true_and];split
    ·rw[app1 (n:=1000000) (by omega) (by decide) (by decide),Am,Am,w64_sN hi hl]
    ·rw[Am,w64_sN hi hl],by
   split
   ·rw[List.length_append]; simp only[List.length_singleton]; omega
   ·omega⟩)
  (fun s _=>by
   unfold Cc;dsimp only;rw[lt_dec',if_neg (by decide)]) [] (Nat.le_refl _)
 unfold DA;rw[hh,Am,Am,plc_snoc];rfl
end Go.Proofs.YtibojdgdjhngiaaGreatDoor
end
section
namespace Go.Proofs.YtibojdgdjhngiaaGreatDoor
open Go Go.Gw Go.Ax
theorem live30_true:G6=some true:=by kernel_rfl
end Go.Proofs.YtibojdgdjhngiaaGreatDoor
end
section
namespace Go.Proofs.YtibojdgdjhngiaaGreatDoor
open Go Go.Gw Go.Ax
theorem finds_true (a0:List Ag)(a1:List Aj)(a2:List g_api_Promise)(a3:AE)(a4:List (UInt64×UInt64))(a5:AO):Cj a0 a1 a2 a3 a4 a5=some true:=by
 unfold Cj;rw[live30_true,Am,if_neg (by decide),fewC_eq,Am];cases hc:TD a0
 case false=>rfl
 obtain⟨hl,hn⟩:=fewC_in hc;rw[fewB_eq,show(!!true)=true from rfl,guT,Am];cases hb:TE a1
 case false=>rfl
 obtain⟨hbl,hbn⟩:=fewB_in hb;by_cases g1:(a2.length:Int)>60
 ·rw[decide_eq_true g1]; rfl
 by_cases g2:(a4.length:Int)>100
 ·rw[decide_eq_true g2,decide_eq_false g1]; rfl
 rw[decide_eq_false g1,decide_eq_false g2,if_neg (by decide)];have L1:=plc_len (U9 a1) a0 0;have L2:=plc_len (mis a3 a4 a5) a2 0;rw[strange_eq _ (by omega),Am,strange_ref (by omega) (fun c hc=>by have:=few18_names (hn c hc); omega) (by omega) (fun b hb=>by have:=hbn b hb; omega),Am,ints_self _ (by omega),Am,if_pos rfl,
  missing_eq _ _ _ (by omega),Am,missing_ref _ _ (by omega) (by omega),Am,ints_self _ (by omega),Am]
end Go.Proofs.YtibojdgdjhngiaaGreatDoor
end
section
namespace Go.Proofs.YtibojdgdjhngiaaGreatDoor.lawMonitorFinds
open Go Go.Gw Go.ChangeShapes Go.WideShapes Go.ChangeAt Go.RowKit
theorem own:ownKnob Tryz.prog.godebug=none:=by kernel_rfl
theorem tab_ir:Ir Tryz.prog 276 (.agg [.agg [.lit (.int .i64 1),.held [103,114,101,97,116,115,101,97,108,47,100,101,114,46,107,105,110,100,115,36,49]],.agg [.lit (.int .i64 2),.held [103,114,101,97,116,115,101,97,108,47,100,101,114,46,108,101,97,115,116]],.agg [.lit (.int .i64 4),.held [103,114,101,97,116,115,101,97,108,47,100,101,114,46,107,105,110,100,115,36,50]],.agg [.lit (.int .i64 12),.held [103,114,101,97,116,115,101,97,108,47,100,101,114,46,107,105,110,100,115,36,51]],.agg [.lit (.int .i64 48),.held [103,114,101,97,116,115,101,97,108,47,100,101,114,46,107,105,110,100,115,36,52]]]) [[.int .i64 1,.func (.func 305) #[] #[]],[.int .i64 2,.func (.func 149) #[] #[]],[.int .i64 4,.func (.func 306) #[] #[]],[.int .i64 12,.func (.func 307) #[] #[]],[.int .i64 48,.func (.func 310) #[] #[]]].flatten:=
 Ir.arr (n:=5) (k:=2) Tryz.underlying276 (by kernel_rfl) (by kernel_rfl) rfl rfl fun i d c h1 h2=>by
  match i,h1,h2 with
  |0,h1,h2=>cases h1; cases h2; exact Ir.pair Tryz.underlying236 rfl rfl rfl (by kernel_rfl) rfl rfl (by kernel_rfl) (by kernel_rfl) (Ir.int Tryz.underlying3) (Ir.fn Tryz.underlying115 Tryz.func305 (by kernel_rfl) (by kernel_rfl))
  |1,h1,h2=>cases h1; cases h2; exact Ir.pair Tryz.underlying236 rfl rfl rfl (by kernel_rfl) rfl rfl (by kernel_rfl) (by kernel_rfl) (Ir.int Tryz.underlying3) (Ir.fn Tryz.underlying115 Tryz.func149 (by kernel_rfl) (by kernel_rfl))
  |2,h1,h2=>cases h1; cases h2; exact Ir.pair Tryz.underlying236 rfl rfl rfl (by kernel_rfl) rfl rfl (by kernel_rfl) (by kernel_rfl) (Ir.int Tryz.underlying3) (Ir.fn Tryz.underlying115 Tryz.func306 (by kernel_rfl) (by kernel_rfl))
  |3,h1,h2=>cases h1; cases h2; exact Ir.pair Tryz.underlying236 rfl rfl rfl (by kernel_rfl) rfl rfl (by kernel_rfl) (by kernel_rfl) (Ir.int Tryz.underlying3) (Ir.fn Tryz.underlying115 Tryz.func307 (by kernel_rfl) (by kernel_rfl))
  |4,h1,h2=>cases h1; cases h2; exact Ir.pair Tryz.underlying236 rfl rfl rfl (by kernel_rfl) rfl rfl (by kernel_rfl) (by kernel_rfl) (Ir.int Tryz.underlying3) (Ir.fn Tryz.underlying115 Tryz.func310 (by kernel_rfl) (by kernel_rfl))
  |n+5,h1,h2=>cases h1
theorem gB {W:World}(h:laidMetH Tryz.prog Rows.monitorFindsRow.laid W):GB (memOf W):=fun p hp=>by
 obtain rfl:=List.mem_singleton.1 hp;exact gb_of (name:= "greatseal/der.kinds") (by kernel_rfl) (by kernel_rfl) (laidMetH.funcs h (d:= .agg [.agg [.lit (.int .i64 1),.iface "func" (.lit (.string [103,114,101,97,116,115,101,97,108,47,100,101,114,46,107,105,110,100,115,36,49]))],.agg [.lit (.int .i64 2),.iface "func" (.lit (.string [103,114,101,97,116,115,101,97,108,47,100,101,114,46,108,101,97,115,116]))],.agg [.lit (.int .i64 4),.iface "func" (.lit (.string [103,114,101,97,116,115,101,97,108,47,100,101,114,46,107,105,110,100,115,36,50]))],.agg [.lit (.int .i64 12),.iface "func" (.lit (.string [103,114,101,97,116,115,101,97,108,47,100,101,114,46,107,105,110,100,115,36,51]))],.agg [.lit (.int .i64 48),.iface "func" (.lit (.string [103,114,101,97,116,115,101,97,108,47,100,101,114,46,107,105,110,100,115,36,52]))]]) (List.Mem.tail _ (List.Mem.head _))) tab_ir
theorem rd3:Rd Tryz.prog 3 (Int):=Rd.int Tryz.underlying3
theorem rd9:Rd Tryz.prog 9 (ByteArray):=Rd.str Tryz.underlying9
theorem rd22:Rd Tryz.prog 22 (UInt64):=Rd.u64 Tryz.underlying22
theorem rd57:Rd Tryz.prog 57 (List ByteArray):=Rd.slice Tryz.underlying57 rd9 (by kernel_rfl) (by decide)
theorem rd4:Rd Tryz.prog 4 (Bool):=Rd.bool Tryz.underlying4
theorem rd38:Rd Tryz.prog 38 (UInt64×UInt64):=Rd.arr2 Tryz.underlying38 rd22 (by kernel_rfl) (by kernel_rfl)
theorem rd40:Rd Tryz.prog 40 (g_api_Sig):=Rd.struct Tryz.underlying40 (IE.more rfl rd22 (by kernel_rfl) (IE.last rfl rd22 (by kernel_rfl))) (by kernel_rfl) (fun b=>⟨b.1,b.2⟩) (fun h=>h)
theorem rd82:Rd Tryz.prog 82 (g_api_Promise):=Rd.struct Tryz.underlying82 (IE.more rfl rd3 (by kernel_rfl) (IE.more rfl rd3 (by kernel_rfl) (IE.more rfl rd38 (by kernel_rfl) (IE.last rfl rd40 (by kernel_rfl))))) (by kernel_rfl) (fun b=>⟨b.1,b.2.1,b.2.2.1,b.2.2.2⟩) (fun h=>h)
theorem rd36:Rd Tryz.prog 36 (List g_api_Promise):=Rd.slice Tryz.underlying36 rd82 (by kernel_rfl) (by decide)
theorem rd59:Rd Tryz.prog 59 (Ag):=Rd.struct Tryz.underlying59 (IE.more rfl rd3 (by kernel_rfl) (IE.more rfl rd9 (by kernel_rfl) (IE.more rfl rd9 (by kernel_rfl) (IE.more rfl rd22 (by kernel_rfl) (IE.more rfl rd57 (by kernel_rfl) (IE.more rfl rd3 (by kernel_rfl) (IE.more rfl rd3 (by kernel_rfl) (IE.more rfl rd4 (by kernel_rfl) (IE.more rfl rd3 (by kernel_rfl) (IE.more rfl rd57 (by kernel_rfl) (IE.more rfl rd36 (by kernel_rfl) (IE.last rfl rd40 (by kernel_rfl))))))))))))) (by kernel_rfl) (fun b=>⟨b.1,b.2.1,b.2.2.1,b.2.2.2.1,b.2.2.2.2.1,b.2.2.2.2.2.1,b.2.2.2.2.2.2.1,b.2.2.2.2.2.2.2.1,b.2.2.2.2.2.2.2.2.1,b.2.2.2.2.2.2.2.2.2.1,b.2.2.2.2.2.2.2.2.2.2.1,b.2.2.2.2.2.2.2.2.2.2.2⟩) (fun h=>h)
theorem rd29:Rd Tryz.prog 29 (List Ag):=Rd.slice Tryz.underlying29 rd59 (by kernel_rfl) (by decide)
theorem rd65:Rd Tryz.prog 65 (Aj):=Rd.struct Tryz.underlying65 (IE.more rfl rd9 (by kernel_rfl) (IE.more rfl rd57 (by kernel_rfl) (IE.more rfl rd22 (by kernel_rfl) (IE.last rfl rd3 (by kernel_rfl))))) (by kernel_rfl) (fun b=>⟨b.1,b.2.1,b.2.2.1,b.2.2.2⟩) (fun h=>h)
theorem rd35:Rd Tryz.prog 35 (List Aj):=Rd.slice Tryz.underlying35 rd65 (by kernel_rfl) (by decide)
theorem rd42:Rd Tryz.prog 42 (AE):=Rd.struct Tryz.underlying42 (IE.more rfl rd3 (by kernel_rfl) (IE.more rfl rd3 (by kernel_rfl) (IE.more rfl rd38 (by kernel_rfl) (IE.more rfl rd3 (by kernel_rfl) (IE.last rfl rd40 (by kernel_rfl)))))) (by kernel_rfl) (fun b=>⟨b.1,b.2.1,b.2.2.1,b.2.2.2.1,b.2.2.2.2⟩) (fun h=>h)
theorem rd43:Rd Tryz.prog 43 (List (UInt64×UInt64)):=Rd.slice Tryz.underlying43 rd38 (by kernel_rfl) (by decide)
theorem rd45:Rd Tryz.prog 45 (AO):=Rd.struct Tryz.underlying45 (IE.more rfl rd3 (by kernel_rfl) (IE.more rfl rd22 (by kernel_rfl) (IE.last rfl rd3 (by kernel_rfl)))) (by kernel_rfl) (fun b=>⟨b.1,b.2.1,b.2.2⟩) (fun h=>h)
theorem rp_g_api_Head {m:Mem}{cs:List Value}{x:AE}(h:GoT.rep m cs x):cs=[vI x.Log,vI x.Size,vU x.Root.1,vU x.Root.2,vI x.At,vU x.Sig.E,vU x.Sig.S]:=by
 obtain⟨_,_,rfl,rfl,⟨_,_,rfl,rfl,⟨_,_,rfl,⟨_,_,rfl,rfl,rfl⟩,⟨_,_,rfl,rfl,⟨_,_,rfl,rfl,rfl⟩⟩⟩⟩⟩:=h;exact rfl
theorem rp_g_api_Key {m:Mem}{cs:List Value}{x:AO}(h:GoT.rep m cs x):cs=[vI x.Log,vU x.Key,vI x.Delay]:=by
 obtain⟨_,_,rfl,rfl,⟨_,_,rfl,rfl,rfl⟩⟩:=h;exact rfl
theorem contract (H:Type)(enc:TypeId×Value→H)(W:World)(base:Nat)(args:Array Value)(ds gs:List (DataW H))(before:List MemPlace)
  (hval: ∀(j:Nat) t v,Tryz.f4.params[j]? =some t→args[j]? =some v→Value.okWide Tryz.prog W .any base t v)
  (hW:DataW.Whole enc Tryz.prog Tryz.f4.params.toList Rows.monitorFindsSpec.vars false W args.toList ds gs before) (hL:laidMetH Tryz.prog Rows.monitorFindsRow.laid W):
  Calls Tryz.prog 4 args W fun e W'=> ∃v,e= .returned v∧Rows.monitorFindsSpec.post enc Tryz.prog Tryz.f4 false true false false W args v W':=by
 have hW':=hW;obtain⟨p,q,hA0,hV,rfl,hfz,hnd⟩:=hW;obtain⟨rfl,rfl⟩:=trodVars_none hV;rw[List.append_nil]at hW';have hA:DataW.TrodAll enc Tryz.prog W 0 (fun _=>true) true Tryz.f4.params.toList args.toList ds p:=hA0;have hA1:=hA;have hpl:Tryz.f4.params.toList=[29,35,36,42,43,45]:=by rw[Tryz.params4]
 rw[hpl]at hA1;obtain⟨v0,w0,d0,e0,p0,q0,ha0,he0,hp0,h0,r0⟩:=trodAll_cons hA1;obtain⟨v1,w1,d1,e1,p1,q1,ha1,he1,hp1,h1,r1⟩:=trodAll_cons r0;obtain⟨v2,w2,d2,e2,p2,q2,ha2,he2,hp2,h2,r2⟩:=trodAll_cons r1;obtain⟨v3,w3,d3,e3,p3,q3,ha3,he3,hp3,h3,r3⟩:=trodAll_cons r2;obtain⟨v4,w4,d4,e4,p4,q4,ha4,he4,hp4,h4,r4⟩:=trodAll_cons r3;obtain⟨v5,w5,d5,e5,p5,q5,ha5,he5,hp5,h5,r5⟩:=trodAll_cons r4;obtain⟨z1,z2,z3⟩:=trodAll_nil r5;obtain rfl:args= #[v0,v1,v2,v3,v4,v5]:=by
  apply Array.ext'; rw[ha0,ha1,ha2,ha3,ha4,ha5,z1]
 obtain rfl:ds=[d0,d1,d2,d3,d4,d5]:=by rw[he0,he1,he2,he3,he4,he5,z2]
 rw[Tryz.params4]at hval;obtain⟨x0,l0,c0,rfl⟩:=okWide_slice Tryz.underlying29 (hval 0 29 v0 rfl rfl);obtain⟨a0,s0⟩:=rd29.openS h0;obtain⟨x1,l1,c1,rfl⟩:=okWide_slice Tryz.underlying35 (hval 1 35 v1 rfl rfl);obtain⟨a1,s1⟩:=rd35.openS h1;obtain⟨x2,l2,c2,rfl⟩:=okWide_slice Tryz.underlying36 (hval 2 36 v2 rfl rfl);obtain⟨a2,s2⟩:=rd36.openS h2;obtain⟨c3,rfl,_⟩:=okWide_struct Tryz.underlying42 (hval 3 42 v3 rfl rfl);obtain⟨a3,s3⟩:=rd42.openA h3;obtain rfl:=VM (rp_g_api_Head s3);obtain⟨x4,l4,c4,rfl⟩:=okWide_slice Tryz.underlying43 (hval 4 43 v4 rfl rfl);obtain⟨a4,s4⟩:=rd43.openS h4;obtain⟨c5,rfl,_⟩:=okWide_struct Tryz.underlying45 (hval 5 45 v5 rfl rfl);obtain⟨a5,s5⟩:=rd45.openA h5;obtain rfl:=VM (rp_g_api_Key s5);have hc:=Jo (St.of W (gB hL)) s0 s1 s2 s4 (finds_true a0 a1 a2 a3 a4 a5);refine Calls.mono hc ?_;rintro e W' ⟨v,rfl,hk,M,hle,S,rfl⟩;refine⟨.bool true,rfl,Th (tb:=4) (by kernel_rfl) (by kernel_rfl) rfl (by kernel_rfl) Tryz.underlying4 hW' hA rfl rfl rfl hle S hk⟩
noncomputable def Mq (os:Os):World:=
 {World.holding Tryz.prog os ⟨#[], #[],[]⟩with heap:=((((World.holding Tryz.prog os ⟨#[], #[],[]⟩).heap.modify 5 fun| .cells _ t fr=> .cells #[.int .u8 128,.int .u8 191,.int .u8 160,.int .u8 191,.int .u8 128,.int .u8 159,.int .u8 144,.int .u8 191,.int .u8 128,.int .u8 143,.int .u8 0,.int .u8 0,.int .u8 0,.int .u8 0,.int .u8 0,.int .u8 0,.int .u8 0,.int .u8 0,.int .u8 0,.int .u8 0,.int .u8 0,.int .u8 0,.int .u8 0,.int .u8 0,.int .u8 0,.int .u8 0,.int .u8 0,.int .u8 0,.int .u8 0,.int .u8 0,.int .u8 0,.int .u8 0] t fr|o=>o).modify 2 fun| .cells _ t fr=> .cells [[.int .i64 1,.func (.func 305) #[] #[]],[.int .i64 2,.func (.func 149) #[] #[]],[.int .i64 4,.func (.func 306) #[] #[]],[.int .i64 12,.func (.func 307) #[] #[]],[.int .i64 48,.func (.func 310) #[] #[]]].flatten.toArray t fr|o=>o).modify 4 fun| .cells _ t fr=> .cells ((List.replicate 128 240++List.replicate 66 241++List.replicate 30 2++[19]++List.replicate 12 3++[35,3,3,52,4,4,4,68]++List.replicate 11 241:List Int).map fun n=>Value.int .u8 n).toArray t fr|o=>o)}
theorem laid_met (os:Os):laidMetH Tryz.prog Rows.monitorFindsRow.laid ((Mq os).forCall (fun _ _=>0) ⟨#[], #[(.slice none 0 0:Value),(.slice none 0 0:Value),(.slice none 0 0:Value),(.agg #[.int .i64 0,.int .i64 0,.int .u64 0,.int .u64 0,.int .i64 0,.int .u64 0,.int .u64 0]:Value),(.slice none 0 0:Value),(.agg #[.int .i64 0,.int .u64 0,.int .i64 0]:Value)],[]⟩).memory:=
 laidMetH_of_parts3 (fuel:=8) (laidMet_of_run' 8 (by kernel_rfl) (by kernel_rfl)) (by kernel_rfl) (by kernel_rfl)
theorem reads (os:Os){H:Type}(enc:TypeId×Value→H): ∃places,DataW.whole enc Tryz.prog ((Mq os).forCall (fun _ _=>0) ⟨#[], #[(.slice none 0 0:Value),(.slice none 0 0:Value),(.slice none 0 0:Value),(.agg #[.int .i64 0,.int .i64 0,.int .u64 0,.int .u64 0,.int .i64 0,.int .u64 0,.int .u64 0]:Value),(.slice none 0 0:Value),(.agg #[.int .i64 0,.int .u64 0,.int .i64 0]:Value)],[]⟩).memory Tryz.f4.params.toList Rows.monitorFindsSpec.vars false #[(.slice none 0 0:Value),(.slice none 0 0:Value),(.slice none 0 0:Value),(.agg #[.int .i64 0,.int .i64 0,.int .u64 0,.int .u64 0,.int .i64 0,.int .u64 0,.int .u64 0]:Value),(.slice none 0 0:Value),(.agg #[.int .i64 0,.int .u64 0,.int .i64 0]:Value)].toList 8=some ([.nil,.nil,.nil,.agg [.lit (.int .i64 0),.lit (.int .i64 0),.agg [.lit (.int .u64 0),.lit (.int .u64 0)],.lit (.int .i64 0),.agg [.lit (.int .u64 0),.lit (.int .u64 0)]],.nil,.agg [.lit (.int .i64 0),.lit (.int .u64 0),.lit (.int .i64 0)]],[],places):=
 ⟨[],by kernel_rfl⟩
theorem lifted (os:Os)(started:os.Started)(H:Type)(enc:TypeId×Value→H)(F:Stop.Interp):
  ReturnsInHanded {} Tryz.checked os 4 .any ((OpenSpec.ofChange Rows.monitorFindsSpec).preRow enc Tryz.prog Tryz.f4 Rows.monitorFindsRow.domain false Rows.monitorFindsRow.laid) (((OpenSpec.ofChange Rows.monitorFindsSpec).at F).post enc Tryz.prog Tryz.f4 false true false false):=by
 obtain⟨places,hx⟩:=reads os enc;refine returnsInHanded_of_row (C:=Tryz.checked) (s:=OpenSpec.ofChange Rows.monitorFindsSpec) own started (by kernel_rfl) Tryz.func4
  (witness_row_at (enc:=enc) (C:=Tryz.checked) false (Mq os) #[(.slice none 0 0:Value),(.slice none 0 0:Value),(.slice none 0 0:Value),(.agg #[.int .i64 0,.int .i64 0,.int .u64 0,.int .u64 0,.int .i64 0,.int .u64 0,.int .u64 0]:Value),(.slice none 0 0:Value),(.agg #[.int .i64 0,.int .u64 0,.int .i64 0]:Value)] rfl (by kernel_rfl) (by kernel_rfl) (by kernel_rfl)
   (OpenSpec.preRow_of_cond 8 hx (by kernel_rfl) (fun k hk=>by cases hk) (by kernel_rfl) (laid_met os))) ?_
 intro W base args ds gs before hval hW _ _ _ hL _ _;exact contract H enc W base args ds gs before hval hW hL
theorem j0:laidOutB Tryz.prog=true:=by kernel_rfl
theorem j1:mapsRowed Tryz.prog=true:=by kernel_rfl
theorem j2:(Rows.monitorFindsRow.inPlace==Tryz.prog.inPlace 4)=true:=by kernel_rfl
theorem j3:(Rows.monitorFindsRow.unfollowed==Tryz.prog.unfollowed 4)=true:=by kernel_rfl
theorem j4:(Rows.monitorFindsRow.recurses==Tryz.prog.recurses 4)=true:=by kernel_rfl
theorem j5:(Rows.monitorFindsRow.named==Tryz.prog.varsNamed 4)=true:=by kernel_rfl
theorem joined:joinedFacts Tryz.prog 4 Tryz.f4 (OpenSpec.ofChange Rows.monitorFindsSpec).bare Rows.monitorFindsRow=true:=by
 unfold joinedFacts;rw[j0,j1,j2,j3,j4,j5];kernel_rfl
theorem s1:Tryz.pinned.checked.prog.funcNamed Rows.monitorFindsRow.func=some 4:=by kernel_rfl
theorem s2:Tryz.f4.isInstance Tryz.pinned.checked.prog Rows.monitorFindsRow.origin Rows.monitorFindsRow.targs:=of_decide_eq_true (by kernel_rfl)
theorem s3:Tryz.f4.isWrapper Tryz.pinned.checked.prog Rows.monitorFindsRow.wrapper Rows.monitorFindsRow.mainSum:=by unfold Func.isWrapper; first|(rw[if_pos (by decide+kernel)]; kernel_rfl)|(rw[if_neg (by decide+kernel)]; exact⟨rfl,rfl⟩)
theorem s4:joinedFacts Tryz.pinned.checked.prog 4 Tryz.f4 (OpenSpec.ofChange Rows.monitorFindsSpec).bare Rows.monitorFindsRow=true:=joined
theorem s5 (os:Os)(started:os.Started)(H:Type)(enc:TypeId×Value→H)(F:Stop.Interp):ReturnsInHanded Rows.monitorFindsRow.assume Tryz.pinned.checked os 4 .any (Rows.monitorFindsRow.pre enc Tryz.pinned.checked.prog Tryz.f4 (OpenSpec.ofChange Rows.monitorFindsSpec)) (((OpenSpec.ofChange Rows.monitorFindsSpec).at F).post enc Tryz.pinned.checked.prog Tryz.f4 Rows.monitorFindsRow.apart Rows.monitorFindsRow.fresh Rows.monitorFindsRow.handsOn Rows.monitorFindsRow.again):=by rw[OpenClaim.pre_eq_preRow]; exact lifted os started H enc F
theorem said:Rows.MonitorFindsSaid:=
 OpenClaim.holds_of_cond 4 Tryz.f4 rfl rfl rfl rfl rfl rfl rfl ⟨rfl,rfl,rfl,rfl,rfl⟩ rfl rfl rfl rfl rfl s1 Tryz.func4 s4 s2 s3 (fun os started H enc _ F=>s5 os started H enc F)
theorem plain (f:FuncId)(fn:Func)(hf:Tryz.pinned.checked.prog.funcNamed "greatseal/greatseallaw30.MonitorFinds" =some f)(hfn:Tryz.pinned.checked.prog.funcs[f]? =some fn):
  true=Tryz.pinned.checked.prog.looks []∧∀(j:Nat) t,fn.params[j]? =some t→Tryz.pinned.checked.prog.wantsStandIn t=false:=by
 obtain rfl:f=4:=Option.some.inj ((show Tryz.prog.funcNamed "greatseal/greatseallaw30.MonitorFinds" =some 4 by kernel_rfl).symm.trans hf)|>.symm;obtain rfl:fn=Tryz.f4:=(Option.some.inj (Tryz.func4.symm.trans hfn)).symm;refine⟨by kernel_rfl,fun j t ht=> ?_⟩;rw[Tryz.params4]at ht;have hm:t∈[29,35,36,42,43,45]:=by simpa using Array.mem_of_getElem? ht
 have hall:([29,35,36,42,43,45].all fun u=> !Tryz.prog.wantsStandIn u)=true:=by kernel_rfl
 exact(show Tryz.prog.wantsStandIn t=false by simpa using List.all_eq_true.1 hall t hm)
theorem card:Rows.MonitorFindsCardSaid:=
 Claim7.holds_tied_plain_at .later [] _ _ _ _ said (fun _ h=>by cases h) (by kernel_rfl) (fun _ h=>by cases h) monitorFinds_row_tie rfl ⟨rfl,rfl⟩ (by kernel_rfl) rfl plain (by kernel_rfl)
end Go.Proofs.YtibojdgdjhngiaaGreatDoor.lawMonitorFinds
end
