/- Several texts, one behind the other. Conditions: none. -/
import Derived.Test.YtibojdgdjhngiaaGreatDoorZg
import Derived.Test.YtibojdgdjhngiaaGreatDoorZh
import Derived.Test.YtibojdgdjhngiaaGreatDoorZi
import Derived.KernelRfl
import Derived.Test.YtibojdgdjhngiaaGreatDoorZb
set_option linter.unusedSimpArgs false
set_option linter.unusedVariables false
set_option maxHeartbeats 4000000
set_option maxRecDepth 100000
section
namespace Go.Proofs.YtibojdgdjhngiaaGreatDoor
open Go Go.Gw Go.Ax
theorem IE {i n:Nat}(h:i<n)(hn:n≤1000000):w64 ((i:Int)+1)=((i+1:Nat):Int):=by rw[D4 (by omega) (by omega)]; rfl
theorem QH {α:Type}{xs:List α}{i:Nat}{x:α}(h:xs[i]? =some x):xs.drop i=x::xs.drop (i+1):=by
 obtain⟨hi,rfl⟩:=List.getElem?_eq_some_iff.1 h;exact List.drop_eq_getElem_cons hi
def AcX {α β:Type}(f:α→Option β):List α→(Unit⊕β)
 | []=> .inl ()
 |x::r=>match f x with|some b=> .inr b|none=>AcX f r
theorem R5 {α β:Type}{step:Int→Option (Int⊕(Unit⊕β))}(xs:List α)(f:α→Option β)
  (hs: ∀(i:Nat) (x:α),xs[i]? =some x→step (i:Int)=some (match f x with|some b=> .inr (.inr b)|none=> .inl ((i+1:Nat):Int)))
  (he:step (xs.length:Int)=some (.inr (.inl ()))): ∀(k i n:Nat),i+k=xs.length→k<n→iter step n (i:Int)=some (AcX f (xs.drop i))
 |0,i,n,h,hn=>by
  obtain⟨n,rfl⟩: ∃q,n=q+1:=⟨n-1,by omega⟩;have h:i=xs.length:=by omega
  subst h;show Ad (step _) _=_;rw[he,List.drop_length]; rfl
 |k+1,i,n,h,hn=>by
  obtain⟨n,rfl⟩: ∃q,n=q+1:=⟨n-1,by omega⟩;have hi:i<xs.length:=by omega
  have hx:xs[i]? =some xs[i]:=List.getElem?_eq_getElem hi;show Ad (step _) _=_;rw[hs i _ hx,QH hx];unfold AcX;cases f xs[i]with
  |some b=>rfl
  |none=>exact R5 xs f hs he k (i+1) n (by omega) (by omega)
theorem HY {α β:Type}{step:Int→Option (Int⊕(Unit⊕β))}(xs:List α)(f:α→Option β)(hl:xs.length≤1000000)
  (hs: ∀(i:Nat) (x:α),xs[i]? =some x→step (i:Int)=some (match f x with|some b=> .inr (.inr b)|none=> .inl ((i+1:Nat):Int)))
  (he:step (xs.length:Int)=some (.inr (.inl ()))):iter step C3 0=some (AcX f xs):=
 R5 xs f hs he xs.length 0 C3 (by omega) (by have:(1000001:Nat)≤C3:=Nat.le_of_ble_eq_true rfl; omega)
def Y7 {α σ:Type}(g:Nat→σ→α→σ):List α→Nat→σ→σ
 | [],_,s=>s
 |x::r,i,s=>Y7 g r (i+1) (g i s x)
theorem R4 {α σ τ:Type}{step:τ→Option (τ⊕σ)}(pr:σ→Int→τ)(xs:List α)(g:Nat→σ→α→σ)(I:Nat→σ→Prop)
  (hs: ∀(i:Nat) (x:α) (s:σ),xs[i]? =some x→I i s→step (pr s (i:Int))=some (.inl (pr (g i s x) ((i+1:Nat):Int)))∧I (i+1) (g i s x))
  (he: ∀s,I xs.length s→step (pr s (xs.length:Int))=some (.inr s)): ∀(k i n:Nat) (s:σ),i+k=xs.length→k<n→I i s→iter step n (pr s (i:Int))=some (Y7 g (xs.drop i) i s)
 |0,i,n,s,h,hn,hI=>by
  obtain⟨n,rfl⟩: ∃q,n=q+1:=⟨n-1,by omega⟩;have h:i=xs.length:=by omega
  subst h;show Ad (step _) _=_;rw[he s hI,List.drop_length]; rfl
 |k+1,i,n,s,h,hn,hI=>by
  obtain⟨n,rfl⟩: ∃q,n=q+1:=⟨n-1,by omega⟩;have hi:i<xs.length:=by omega
  have hx:xs[i]? =some xs[i]:=List.getElem?_eq_getElem hi;obtain⟨h1,h2⟩:=hs i _ s hx hI;show Ad (step _) _=_;rw[h1,QH hx];exact R4 pr xs g I hs he k (i+1) n _ (by omega) (by omega) h2
theorem Mf {α σ τ:Type}{step:τ→Option (τ⊕σ)}(pr:σ→Int→τ)(xs:List α)(g:Nat→σ→α→σ)(I:Nat→σ→Prop)(hl:xs.length≤1000000)
  (hs: ∀(i:Nat) (x:α) (s:σ),xs[i]? =some x→I i s→step (pr s (i:Int))=some (.inl (pr (g i s x) ((i+1:Nat):Int)))∧I (i+1) (g i s x))
  (he: ∀s,I xs.length s→step (pr s (xs.length:Int))=some (.inr s)) (s:σ) (hI:I 0 s):iter step C3 (pr s 0)=some (Y7 g xs 0 s):=
 R4 pr xs g I hs he xs.length 0 C3 s (by omega) (by have:(1000001:Nat)≤C3:=Nat.le_of_ble_eq_true rfl; omega) hI
theorem O5 {α β σ:Type}{body:Int→σ→Option (σ⊕β)}(xs:List α)(f:Nat→α→Option β)(s0:σ)
  (hs: ∀(i:Nat) (x:α),xs[i]? =some x→body (i:Int) s0=some (match f i x with|some b=> .inr b|none=> .inl s0)):
  ∀(k i:Nat),i+k=xs.length→∃r,Ft body k (i:Int) s0=some r∧((∃(j:Nat) (x:α) (b:β),xs[j]? =some x∧i≤j∧f j x=some b∧r= .inr b)∨(r= .inl s0∧∀(j:Nat) (x:α),i≤j→xs[j]? =some x→f j x=none))
 |0,i,h=>⟨.inl s0,rfl,.inr ⟨rfl,fun j x hj hx=>by
   have:=(List.getElem?_eq_some_iff.1 hx).1; omega⟩⟩
 |k+1,i,h=>by
  have hi:i<xs.length:=by omega
  have hx:xs[i]? =some xs[i]:=List.getElem?_eq_getElem hi;show∃r,Ad (body _ _) _=_∧_;rw[hs i _ hx];cases hf:f i xs[i]with
  |some b=>exact⟨.inr b,rfl,.inl ⟨i,_,b,hx,Nat.le_refl _,hf,rfl⟩⟩
  |none=>
   obtain⟨r,h1,h2⟩:=O5 xs f s0 hs k (i+1) (by omega);refine⟨r,h1,?_⟩;rcases h2 with ⟨j,x,b,a1,a2,a3,a4⟩|⟨a1,a2⟩
   ·exact .inl ⟨j,x,b,a1,by omega,a3,a4⟩
   ·refine .inr ⟨a1,fun j x hj hx'=> ?_⟩;rcases Nat.lt_or_ge i j with q|q
    ·exact a2 j x q hx'
    ·have:j=i:=by omega
     subst this; rw[hx]at hx'; cases hx'; exact hf
theorem Kw {α:Type}(p:α→Bool)(v:Bool): ∀(xs:List α),AcX (fun x=>if p x=true then some v else none) xs=if xs.any p=true then .inr v else .inl ()
 | []=>rfl
 |x::r=>by
  unfold AcX;cases h:p x with
  |true=>simp[h]
  |false=>simp[h,Kw p v r]
def plc {α:Type}(p:α→Bool):List α→Nat→List Int
 | [],_=> []
 |x::r,i=>if p x=true then(i:Int)::plc p r (i+1)else plc p r (i+1)
theorem Xj {α:Type}(p:α→Bool): ∀(xs:List α) (i:Nat),(plc p xs i).length≤xs.length
 | [],_=>Nat.le_refl _
 |x::r,i=>by
  unfold plc;have:=Xj p r (i+1);split<;>simp<;>omega
theorem Xi {α:Type}{p:α→Bool}: ∀{xs:List α} {i:Nat} {n:Int},n∈plc p xs i↔∃(j:Nat) (x:α),xs[j]? =some x∧p x=true∧n=((i+j:Nat):Int)
 | [],i,n=>by simp[plc]
 |x::r,i,n=>by
  unfold plc;have ih:= @Xi α p r (i+1) n;constructor
  ·intro h;have h':(p x=true∧n=(i:Int))∨n∈plc p r (i+1):=by
    split at h
    ·rename_i hp;rcases List.mem_cons.1 h with q|q
     ·exact .inl ⟨hp,q⟩
     ·exact .inr q
    ·exact .inr h
   rcases h' with ⟨q1,q2⟩|q
   ·exact⟨0,x,rfl,q1,by rw[q2]; rfl⟩
   ·obtain⟨j,y,a,b,c⟩:=ih.1 q;exact⟨j+1,y,a,b,by rw[c]; congr 1; omega⟩
  ·rintro⟨j,y,a,b,c⟩;cases j with
   |zero=>
    cases a;rw[if_pos b,c]; exact List.mem_cons_self
   |succ j=>
    have:n∈plc p r (i+1):=ih.2 ⟨j,y,a,b,by rw[c]; congr 1; omega⟩;split
    ·exact List.mem_cons_of_mem _ this
    ·exact this
def Ma (l:List ByteArray):Bool:= !(l.take 20).any (fun s=>decide ((s.size:Int)>200))&&decide ((l.length:Int)≤16)
theorem QB {α:Type}{l:List α}{n i:Nat}{x:α}(h:(l.take n)[i]? =some x):idx l (i:Int)=some x∧i<l.length∧i<n:=by
 rw[List.getElem?_take]at h;split at h
 ·exact⟨Er h,(List.getElem?_eq_some_iff.1 h).1,‹_›⟩
 ·cases h
theorem RX (l:List ByteArray):EI l=some (Ma l):=by
 unfold EI Ma;rw[HY (l.take 20) (fun s=>if decide ((s.size:Int)>200)=true then some false else none) (by simp; omega) (fun i x hx=> ?_) ?_,Kw]
 ·simp only[Ab];cases (l.take 20).any fun s=>decide ((s.size:Int)>200)<;>rfl
 ·unfold DV;rw[if_neg (by simp; omega)]
 ·obtain⟨h1,h2,h3⟩:=QB hx;unfold DV;rw[if_pos (by simp; omega),h1];simp only[Ab];split
  ·rfl
  ·rw[IE h3 (by omega)]
def Lz (c:g_api_Cert):Bool:=((((decide ((c.Issuer.size:Int)≤300))&&(decide ((c.Subject.size:Int)≤300)))&&Ma c.Names)&&Ma c.Permit)&&(decide ((c.Proms.length:Int)≤8))
theorem Aaf (c:g_api_Cert):Ie c=some (Lz c):=by
 unfold Ie Lz;rw[RX,RX];cases (decide ((c.Issuer.size:Int)≤300))&&(decide ((c.Subject.size:Int)≤300))
 ·rfl
 ·cases Ma c.Names<;>rfl
theorem TH {c:g_api_Cert}(h:Lz c=true):c.Names.length≤16:=by
 simp only[Lz,Ma,Bool.and_eq_true,decide_eq_true_eq]at h;omega
def Yk (l:List g_api_Cert):Bool:= !(l.take 40).any (fun c=> !Lz c)&&decide ((l.length:Int)≤40)
theorem Ac3 (l:List g_api_Cert):Ex l=some (Yk l):=by
 unfold Ex Yk;rw[HY (l.take 40) (fun c=>if(!Lz c)=true then some false else none) (by simp; omega) (fun i x hx=> ?_) ?_,Kw]
 ·simp only[Ab];cases (l.take 40).any fun c=> !Lz c<;>rfl
 ·unfold Df;rw[if_neg (by simp; omega)]
 ·obtain⟨h1,h2,h3⟩:=QB hx;unfold Df;rw[if_pos (by simp; omega),h1];simp only[Ab,Aaf];split
  ·rfl
  ·rw[IE h3 (by omega)]
theorem Ac2 {l:List g_api_Cert}(h:Yk l=true):l.length≤40∧∀c∈l,Lz c=true:=by
 simp only[Yk,Bool.and_eq_true,decide_eq_true_eq,Bool.not_eq_true',List.any_eq_false]at h;have hl:l.length≤40:=by omega
 refine⟨hl,fun c hc=> ?_⟩;rw[List.take_of_length_le hl]at h;have:=h.1 c hc;cases e:Lz c
 ·rw[e]at this; exact absurd rfl this
 ·rfl
def Yl (l:List An):Bool:= !(l.take 40).any (fun b=>decide ((b.Names.length:Int)>20))&&decide ((l.length:Int)≤40)
theorem Ac5 (l:List An):Ey l=some (Yl l):=by
 unfold Ey Yl;rw[HY (l.take 40) (fun b=>if decide ((b.Names.length:Int)>20)=true then some false else none) (by simp; omega) (fun i x hx=> ?_) ?_,Kw]
 ·simp only[Ab];cases (l.take 40).any fun b=>decide ((b.Names.length:Int)>20)<;>rfl
 ·unfold Dg;rw[if_neg (by simp; omega)]
 ·obtain⟨h1,h2,h3⟩:=QB hx;unfold Dg;rw[if_pos (by simp; omega),h1];simp only[Ab];split
  ·rfl
  ·rw[IE h3 (by omega)]
theorem Ac4 {l:List An}(h:Yl l=true):l.length≤40∧∀b∈l,b.Names.length≤20:=by
 simp only[Yl,Bool.and_eq_true,decide_eq_true_eq,Bool.not_eq_true',List.any_eq_false]at h;have hl:l.length≤40:=by omega
 refine⟨hl,fun b hb=> ?_⟩;rw[List.take_of_length_le hl]at h;have:=h.1 b hb;omega
theorem Aa5 {κ γ:Type}{E:κ→κ→Bool}(hE: ∀a b,E a b=true↔a=b)(o k:κ)(v:γ): ∀(kv:List (κ×γ)),lkG (E o) (upG (E k) (k,v) kv)=if E o k=true then some v else lkG (E o) kv
 | []=>by
  unfold upG lkG lkG;cases E o k<;>rfl
 |y::r=>by
  unfold upG;cases hk:E k y.1 with
  |true=>
   have hy:=(hE _ _).1 hk;simp only[cond_true,lkG];rw[←hy];cases E o k<;>rfl
  |false=>
   simp only[cond_false,lkG];cases ho:E o y.1 with
   |true=>
    have hy:=(hE _ _).1 ho;have:E o k=false:=by
     cases e:E o k with
     |false=>rfl
     |true=>
      have:=(hE _ _).1 e;rw[←this,hy]at hk;rw[(hE y.1 y.1).2 rfl]at hk; cases hk
    rw[this]; rfl
   |false=>exact Aa5 hE o k v r
theorem TL (a b:Ah):Au a b=true↔a=b:=by
 cases a; cases b;simp[Au,IZ]
abbrev OM:=List (Ah×Int)
def qO (kv:OM)(o:Ah)(n:Int):Bool:=match lkG (Au o) kv with|some v=>decide (v≤n)|none=>false
def putO (kv:OM)(o:Ah)(at_:Int):OM:=if((!(lkG (Au o) kv).isSome)||(decide (at_<(lkG (Au o) kv).getD 0)))=true then upG (Au o) (o,at_) kv else kv
theorem qO_put (kv:OM)(o k:Ah)(at_ n:Int):qO (putO kv k at_) o n=(qO kv o n||(Au o k&&decide (at_≤n))):=by
 unfold putO;split
 ·rename_i h;unfold qO;rw[Aa5 TL];cases he:Au o k with
  |false=>simp
  |true=>
   have:=(TL _ _).1 he;subst this;simp only[if_true,Bool.true_and];cases hl:lkG (Au o) kv with
   |none=>simp
   |some v=>
    rw[hl]at h;simp only[Option.isSome_some,Bool.not_true,Option.getD_some,Bool.false_or,decide_eq_true_eq]at h;by_cases h1:at_≤n
    ·simp[h1]
    ·have: ¬v≤n:=by omega
     simp[h1,this]
 ·rename_i h;cases he:Au o k with
  |false=>simp
  |true=>
   have:=(TL _ _).1 he;subst this;unfold qO;cases hl:lkG (Au o) kv with
   |none=>rw[hl]at h; simp at h
   |some v=>
    rw[hl]at h;simp only[Option.isSome_some,Bool.not_true,Option.getD_some,Bool.false_or,decide_eq_true_eq]at h;by_cases h1:at_≤n
    ·have:v≤n:=by omega
     simp[h1,this]
    ·simp[h1]
def putN (key:UInt64)(at_:Int):List ByteArray→OM→OM
 | [],kv=>kv
 |s::r,kv=>putN key at_ r (putO kv ⟨s,key⟩ at_)
def Tl:List An→OM→OM
 | [],kv=>kv
 |b::r,kv=>Tl r (putN b.Key b.At b.Names kv)
theorem Vn (b:An)(i:Int)(s:ByteArray)(kv:OM):B6 b i s kv=some (putO kv ⟨s,b.Key⟩ b.At):=by
 unfold B6 putO;show Ad (if((!(lkG (Au ⟨s,b.Key⟩) kv).isSome)||(decide (b.At<(lkG (Au ⟨s,b.Key⟩) kv).getD 0)))=true then _ else _) _=_;split<;>rfl
theorem RA (b:An): ∀(l:List ByteArray) (i:Int) (kv:OM),CC (B6 b) l i kv=some (putN b.Key b.At l kv)
 | [],_,_=>rfl
 |s::r,i,kv=>by
  show Ad (B6 b i s kv) _=_;rw[Vn];exact RA b r (i+1) _
theorem RB: ∀(l:List An) (i:Int) (kv:OM),CC Cw l i kv=some (Tl l kv)
 | [],_,_=>rfl
 |b::r,i,kv=>by
  show Ad (Cw i b kv) _=_;unfold Cw;rw[RA];exact RB r (i+1) _
def bkd (l:List An)(s:ByteArray)(key:UInt64)(n:Int):Bool:=l.any fun b=>b.Key==key&&decide (b.At≤n)&&b.Names.any (fun t=>eqS t s)
theorem qO_n (key:UInt64)(at_ n:Int)(s:ByteArray)(k:UInt64): ∀(l:List ByteArray) (kv:OM),qO (putN key at_ l kv) ⟨s,k⟩ n=(qO kv ⟨s,k⟩ n||(key==k&&decide (at_≤n)&&l.any (fun t=>eqS t s)))
 | [],kv=>by simp[putN]
 |t::r,kv=>by
  unfold putN;rw[qO_n key at_ n s k r,qO_put];have e:Au ⟨s,k⟩ ⟨t,key⟩=(eqS t s&&(key==k)):=by
   have h1:eqS s t=eqS t s:=Bool.eq_iff_iff.2 (by rw[IZ,IZ]; exact eq_comm);have h2:(k==key)=(key==k):=Bool.beq_comm;simp[Au,h1,h2]
  rw[e];simp only[List.any_cons];cases qO kv ⟨s,k⟩ n<;>cases eqS t s<;>cases (key==k)<;>cases decide (at_≤n)<;>simp
theorem qO_b (n:Int)(s:ByteArray)(k:UInt64): ∀(l:List An) (kv:OM),qO (Tl l kv) ⟨s,k⟩ n=(qO kv ⟨s,k⟩ n||bkd l s k n)
 | [],kv=>by simp[Tl,bkd]
 |b::r,kv=>by
  unfold Tl;rw[qO_b n s k r,qO_n];simp only[bkd,List.any_cons,Bool.or_assoc]
def AbO (books:List An)(c:g_api_Cert):Bool:=c.Names.any fun s=> !bkd books s c.Key c.From
theorem Vl (kv:OM)(c:g_api_Cert):Dh c kv=some (c.Names.any (fun s=> !qO kv ⟨s,c.Key⟩ c.From),kv):=by
 have h11: ∀(s:ByteArray),Cn s kv c=some (!qO kv ⟨s,c.Key⟩ c.From,kv,c):=by
  intro s;unfold Cn bnd qO;cases lkG (Au ⟨s,c.Key⟩) kv with
  |none=>rfl
  |some v=>
   have:(decide (v>c.From))= !decide (v≤c.From):=by
    by_cases h:v≤c.From
    ·simp[h]
    ·simp[h]; omega
   simp[this]
 have hb: ∀(i:Nat) (s:ByteArray),c.Names[i]? =some s→AO c.Names (i:Int) (kv,c.Serial,c.Issuer,c.Subject,c.Key,c.Names,c.From,c.Until,c.Ca,c.Depth,c.Permit,c.Proms,c.Sig.E,c.Sig.S)=
   some (match (if(!qO kv ⟨s,c.Key⟩ c.From)=true then some ((i:Int),kv,c)else none)with|some b=> .inr b|none=> .inl (kv,c.Serial,c.Issuer,c.Subject,c.Key,c.Names,c.From,c.Until,c.Ca,c.Depth,c.Permit,c.Proms,c.Sig.E,c.Sig.S)):=by
  intro i s hs;unfold AO;rw[Er hs];simp only[Ab];show Ad (Cn s kv c) _=_;rw[h11];cases (!qO kv ⟨s,c.Key⟩ c.From)<;>rfl
 obtain⟨r,h1,h2⟩:=O5 (body:=AO c.Names) c.Names (fun i s=>if(!qO kv ⟨s,c.Key⟩ c.From)=true then some ((i:Int),kv,c)else none) (kv,c.Serial,c.Issuer,c.Subject,c.Key,c.Names,c.From,c.Until,c.Ca,c.Depth,c.Permit,c.Proms,c.Sig.E,c.Sig.S) (fun i x hx=>by rw[hb i x hx]; by_cases hq:(!qO kv ⟨x,c.Key⟩ c.From)=true<;>simp[hq]) c.Names.length 0 (by omega);unfold Dh Bo BF;rw[show((0:Nat):Int)=0 from rfl]at h1;rw[h1];rcases h2 with ⟨j,x,b,a1,a2,a3,rfl⟩|⟨rfl,a2⟩
 ·split at a3
  ·rename_i hp;cases a3;have:c.Names.any (fun s=> !qO kv ⟨s,c.Key⟩ c.From)=true:=List.any_eq_true.2 ⟨x,List.mem_of_getElem? a1,hp⟩;rw[this];have:decide ((j:Int)≥0)=true:=decide_eq_true (by omega);simp only[Ab,this]
  ·cases a3
 ·have:c.Names.any (fun s=> !qO kv ⟨s,c.Key⟩ c.From)=false:=by
   rw[List.any_eq_false];intro s hs;obtain⟨j,hj⟩:=List.getElem?_of_mem hs;have:=a2 j s (by omega) hj;intro h; rw[if_pos h]at this; cases this
  rw[this]; rfl
theorem app1 {α:Type}{b n:Nat}{s:List α}{x:α}(h:s.length≤n)(hb:(n+1)*b≤140737488355328)(hn:n+1≤140737488355328):app b s [x]=some (s++[x]):=by
 unfold app;have:(s.length+[x].length)*b≤(n+1)*b:=Nat.mul_le_mul_right b (by simp; omega);rw[if_pos ⟨by omega,by simp; omega⟩]
theorem Xk (kv:OM){certs:List g_api_Cert}{i:Nat}{x:g_api_Cert}{out:List Int}(hx:certs[i]? =some x)(ho:out.length≤1000000):
  AU certs (i:Int) (out,kv)=some (if x.Names.any (fun s=> !qO kv ⟨s,x.Key⟩ x.From)=true then out++[(i:Int)]else out,kv):=by
 unfold AU;rw[Er hx];simp only[Ab,Vl];split
 ·rw[app1 ho (by decide) (by decide)]; rfl
 ·rfl
theorem Qk (kv:OM)(certs:List g_api_Cert)(hl:certs.length≤1000000): ∀(k i:Nat) (out:List Int),i+k=certs.length→out.length≤i→
  BE (AU certs) k (i:Int) (out,kv)=some (out++plc (fun c=>c.Names.any (fun s=> !qO kv ⟨s,c.Key⟩ c.From)) (certs.drop i) i,kv)
 |0,i,out,h,ho=>by
  rw[List.drop_of_length_le (by omega)];simp[BE,plc]
 |k+1,i,out,h,ho=>by
  have hi:i<certs.length:=by omega
  have hx:certs[i]? =some certs[i]:=List.getElem?_eq_getElem hi;show Ad (AU certs (i:Int) (out,kv)) _=_;rw[Xk kv hx (by omega),QH hx];unfold plc;split
  ·have:=Qk kv certs hl k (i+1) (out++[(i:Int)]) (by omega) (by simp; omega);rw[List.append_assoc]at this;exact this
  ·exact Qk kv certs hl k (i+1) out (by omega) (by omega)
theorem Vm {certs:List g_api_Cert}(books:List An)(hl:certs.length≤1000000):Bm certs books=some (plc (AbO books) certs 0):=by
 unfold Bm;rw[RB];simp only[Ab];unfold Cg;have:=Qk (Tl books []) certs hl certs.length 0 [] (by omega) (Nat.le_refl _);rw[show((0:Nat):Int)=0 from rfl]at this;rw[this];have e:(fun(c:g_api_Cert)=>c.Names.any (fun s=> !qO (Tl books []) ⟨s,c.Key⟩ c.From))=AbO books:=by
  funext c;unfold AbO;congr 1;funext s;rw[qO_b];rfl
 simp only[Ab,List.drop_zero,List.nil_append,e]
def mis (h:Bn)(leaves:List (UInt64×UInt64))(k:Cc)(p:g_api_Promise):Bool:=(((p.Log==h.Log)&&(p.Log==k.Log))&&(decide ((w64 (p.At+k.Delay))<h.At)))&& !leaves.any (fun x=>JK x p.Leaf)
abbrev LM:=List ((UInt64×UInt64)×Bool)
def thr (kv:LM)(x:UInt64×UInt64):Bool:=(lkG (JK x) kv).getD false
def putL:List (UInt64×UInt64)→LM→LM
 | [],kv=>kv
 |x::r,kv=>putL r (upG (JK x) (x,true) kv)
end Go.Proofs.YtibojdgdjhngiaaGreatDoor
end
section
namespace Go.Proofs.YtibojdgdjhngiaaGreatDoor
open Go Go.Gw Go.Ax
theorem guT {α:Type} [Inhabited α](o:Option α):gu true o=o:=rfl
theorem YI {α β:Type}(a:α)(k:α→β):bnd a k=k a:=rfl
theorem guF {α:Type} [Inhabited α](o:Option α):gu false o=some default:=rfl
theorem NZ {a b:Nat}(h:a<b):decide (((a:Nat):Int)<(b:Int))=true:=decide_eq_true (by omega)
theorem KX (a:Nat):decide (((a:Nat):Int)<(a:Int))=false:=decide_eq_false (by omega)
theorem has_eq {l:List Int}(n:Int)(hl:l.length≤1000000):Ig l n=some (l.any (· ==n)):=by
 unfold Ig;rw[HY l (fun x=>if(x==n)=true then some true else none) hl (fun i x hx=>by
  have hi:=(List.getElem?_eq_some_iff.1 hx).1;unfold FG;rw[NZ hi,if_pos rfl,Er hx];simp only[Ab];split
  ·rfl
  ·rw[IE hi hl]) (by unfold FG; rw[KX,if_neg (by decide)]),Kw (fun x=>x==n)]
 simp only[Ab];cases l.any fun x=>x==n<;>rfl
theorem Adn {l:List Int}{n:Int}:l.any (· ==n)=true↔n∈l:=by simp
theorem UO {α β:Type}: ∀(l:List α),AcX (fun _=>(none:Option β)) l= .inl ()
 | []=>rfl
 |x::r=>UO r
theorem Yi {β:Type}{step:Int→Option (Int⊕(Unit⊕β))}(n:Nat)(hl:n≤1000000)
  (hs: ∀(i:Nat),i<n→step (i:Int)=some (.inl ((i+1:Nat):Int))) (he:step (n:Int)=some (.inr (.inl ()))):iter step C3 0=some (.inl ()):=by
 have:=HY (step:=step) (List.replicate n ()) (fun _=>none) (by simpa using hl) (fun i x hx=>hs i (by simpa using (List.getElem?_eq_some_iff.1 hx).1)) (by simpa using he);rw[this,UO]
theorem plc_at {α:Type}{p:α→Bool}{l:List α}{i:Nat}(hi:i<l.length):(plc p l 0).any (· ==(i:Int))=p l[i]:=by
 refine Bool.eq_iff_iff.2 ?_;rw[Adn,Xi];constructor
 ·rintro⟨j,x,a,b,c⟩;have:j=i:=by omega
  subst this;rw[List.getElem?_eq_getElem hi]at a;cases a; exact b
 ·intro h;exact⟨i,l[i],List.getElem?_eq_getElem hi,h,by simp⟩
theorem u64_ne (a b:UInt64):((a.toNat:Int) !=(b.toNat:Int))= !(a==b):=by
 by_cases h:a=b
 ·subst h; simp
 ·have:a.toNat≠b.toNat:=fun e=>h (UInt64.toNat_inj.1 e);have h1:(a==b)=false:=by simpa using h
  rw[h1];have:((a.toNat:Int)==(b.toNat:Int))=false:=by simp only[beq_eq_false_iff_ne]; omega
  simp only[bne,this]
end Go.Proofs.YtibojdgdjhngiaaGreatDoor
end
section
namespace Go.Proofs.YtibojdgdjhngiaaGreatDoor
open Go Go.Gw Go.Ax
theorem DM {α β:Type}(a:α)(k:α→β):bnd a k=k a:=rfl
theorem Me {σ τ:Type}{step:σ→Option (σ⊕τ)}{s:σ}{t:τ}(n:Nat)(h:iter step n s=some t)(hn:n≤18446744073709551616):iter step C3 s=some t:=R3 h hn
theorem E9 {σ τ:Type}{step:σ→Option (σ⊕τ)}{n:Nat}{s s':σ}(h:step s=some (.inl s')):iter step (n+1) s=iter step n s':=by simp only[iter,h,Ab]
theorem He {σ τ:Type}{step:σ→Option (σ⊕τ)}{n:Nat}{s:σ}{t:τ}(h:step s=some (.inr t)):iter step (n+1) s=some t:=by simp only[iter,h,Ab]
theorem JT {α:Type}(b:Nat){xs ys:List α}(h:(xs.length+ys.length)*b≤140737488355328)(h1:xs.length+ys.length≤140737488355328):app b xs ys=some (xs++ys):=by unfold app; rw[if_pos ⟨h,h1⟩]
theorem Sk {α:Type}{xs:List α}{lo hi:Nat}(h1:lo≤hi)(h2:hi≤xs.length):cut xs (lo:Int) (hi:Int)=some ((xs.drop lo).take (hi-lo)):=by
 unfold cut; rw[if_pos ⟨by omega,by omega,by omega⟩]; simp
def ZA (hi lo:UInt64):UInt64:=
 let n:=(lo&&&2305843009213693951)+((HC hi 3)|||(Ec lo 61))
 let k:=(n&&&2305843009213693951)+Ec n 61
 if 2305843009213693951≤k.toNat then k-2305843009213693951 else k
theorem Yh (a b:UInt64):F6 a b=some (ZA a b):=by
 unfold F6 ZA;simp only[DM];generalize (b&&&2305843009213693951)+((HC a 3)|||(Ec b 61))=n;generalize (n&&&2305843009213693951)+Ec n 61=k;by_cases h:2305843009213693951≤k.toNat
 ·rw[if_pos h,if_pos (decide_eq_true (by omega))]; rfl
 ·rw[if_neg h,if_neg (by simp; omega)]; rfl
def AaS (a:UInt64):UInt64:=ZA 0 a
theorem AaX (a:UInt64):Ej a=some (AaS a):=by simp only[Ej,Yh,Ab]; rfl
def GY (a b:UInt64):UInt64:=AaS (AaS a+AaS b)
theorem U5 (a b:UInt64):Em a b=some (GY a b):=by simp only[Em,AaX,Ab]; rfl
def phi (a0 a1:UInt64):UInt64:=
 let x1:=(a0&&&4294967295)*(a1&&&4294967295)
 let x2:=((Ec a0 32)*(a1&&&4294967295))+(Ec x1 32)
 let x3:=(x2&&&4294967295)+((a0&&&4294967295)*(Ec a1 32))
 (((Ec a0 32)*(Ec a1 32))+(Ec x2 32))+(Ec x3 32)
theorem Qq (a b:UInt64):E8 a b=some (phi a b,a*b):=rfl
def pmul (a b:UInt64):UInt64:=ZA (phi (AaS a) (AaS b)) (AaS a*AaS b)
theorem mul_eq (a b:UInt64):G8 a b=some (pmul a b):=by simp only[G8,AaX,Qq,Yh,Ab]; rfl
def Ox (a:UInt64):UInt64:=
 let b:=pmul a a
 let c:=pmul b b
 let d:=pmul c c
 pmul a (pmul d d)
theorem sev_eq (a:UInt64):Dy a=some (Ox a):=by
 simp only[Dy,BE,Eh,mul_eq,Ab]; rfl
def OU (r i:Int):UInt64:=let n:=toU (w64 ((w64 ((w64 (3*r))+i))+1)); n*n*n+7
def AaV (r:Int)(s:UInt64×UInt64×UInt64):UInt64:=GY (GY (GY 0 (Ox (GY s.1 (OU r 0)))) (Ox (GY s.2.1 (OU r 1)))) (Ox (GY s.2.2 (OU r 2)))
def Ln (r:Int)(s:UInt64×UInt64×UInt64):UInt64×UInt64×UInt64:=(GY (Ox (GY s.1 (OU r 0))) (AaV r s),GY (Ox (GY s.2.1 (OU r 1))) (AaV r s),GY (Ox (GY s.2.2 (OU r 2))) (AaV r s))
theorem Tx (i:Int)(a:UInt64)(r:Int)(all:UInt64):E2 i a r all=some (Ox (GY a (OU r i)),r,GY all (Ox (GY a (OU r i)))):=by
 simp only[E2,DM,U5,sev_eq,Ab]; rfl
theorem Tw (i:Int)(a:UInt64)(all:UInt64):E1 i a all=some (GY a all,all):=by
 simp only[E1,U5,Ab]
theorem Yp {σ:Type}{p:σ→Int→UInt64→Option (UInt64×σ)}{a b c a' b' c':UInt64}{s0 s1 s2 s3:σ}(h0:p s0 0 a=some (a',s1))(h1:p s1 1 b=some (b',s2))(h2:p s2 2 c=some (c',s3)):
  CH (a,b,c) p s0=some ((a',b',c'),s3):=by
 have e0:idx [a,b,c] 0=some a:=rfl;have e1:idx [a',b,c] 1=some b:=rfl;have e2:idx [a',b',c] 2=some c:=rfl;simp[CH,BE,DR,DM,h0,e0,h1,e1,h2,e2]
theorem Acp (r:Int)(s:UInt64×UInt64×UInt64):Gt r s=some (Ln r s):=by
 obtain⟨a,b,c⟩:=s;unfold Gt;rw[Yp (a':=Ox (GY a (OU r 0))) (b':=Ox (GY b (OU r 1))) (c':=Ox (GY c (OU r 2))) (s1:=(r,GY 0 (Ox (GY a (OU r 0))))) (s2:=(r,GY (GY 0 (Ox (GY a (OU r 0)))) (Ox (GY b (OU r 1)))))
  (s3:=(r,GY (GY (GY 0 (Ox (GY a (OU r 0)))) (Ox (GY b (OU r 1)))) (Ox (GY c (OU r 2))))) (by simp only[Tx,Ab]) (by simp only[Tx,Ab]) (by simp only[Tx,Ab])]
 simp only[Ab];change Ad (CH _ _ (AaV r (a,b,c))) _=some (GY _ (AaV r (a,b,c)),GY _ (AaV r (a,b,c)),GY _ (AaV r (a,b,c)));generalize AaV r (a,b,c)=all;rw[Yp (s1:=all) (s2:=all) (s3:=all) (a':=GY (Ox (GY a (OU r 0))) all) (b':=GY (Ox (GY b (OU r 1))) all) (c':=GY (Ox (GY c (OU r 2))) all) (by simp only[Tw,Ab]) (by simp only[Tw,Ab]) (by simp only[Tw,Ab])];rfl
def VX (s:UInt64×UInt64×UInt64):UInt64×UInt64×UInt64:=Ln 7 (Ln 6 (Ln 5 (Ln 4 (Ln 3 (Ln 2 (Ln 1 (Ln 0 s)))))))
theorem XI (s:UInt64×UInt64×UInt64):Jm s=some (VX s):=by
 simp only[Jm,BE,Acp,Ab];rfl
def ple:List UInt8→Nat→UInt64→UInt64
 | [],_,s=>s
 |b::bs,i,s=>ple bs (i+1) (s|||HC (toU (b.toNat:Int)) (8*i))
theorem b6_eq (b5:List UInt8): ∀(l:List UInt8) (i:Nat) (s:UInt64),b5.drop i=l→i+l.length≤1000000→BE (Ek b5) l.length (i:Int) s=some (ple l i s):=by
 intro l;induction l with
 |nil=>intro i s _ _; rfl
 |cons b l ih=>
  intro i s h hb;have hx:idx b5 (i:Int)=some b:=Er (by
   have:(b5.drop i)[0]? =some b:=by rw[h]; rfl
   simpa using this)
  simp only[List.length_cons]at hb;have hw:w64 (8*(i:Int))=((8*i:Nat):Int):=by rw[D4 (by omega) (by omega)]; omega
  have hstep:Ek b5 (i:Int) s=some (s|||HC (toU (b.toNat:Int)) (8*i)):=by
   simp only[Ek,hx,Ab,hw,DM];rw[if_pos (by omega)]; rfl
  show BE (Ek b5) (l.length+1) _ _=_;simp only[BE,hstep,Ab,ple];have:=ih (i+1) (s|||HC (toU (b.toNat:Int)) (8*i)) (by rw[←List.drop_drop,h]; rfl) (by omega);simpa using this
def pof (n:Nat)(l:List UInt8):List UInt64:=match n,l with|_,[]=> []|0,_=> []|n+1,l=>ple (l.take 7) 0 0::pof n (l.drop 7)
theorem Ace (n:Nat): ∀l,(pof n l).length≤n:=by
 induction n with
 |zero=>intro l; cases l<;>simp[pof]
 |succ n ih=>intro l; cases l with
  |nil=>simp[pof]
  |cons a l=>simp only[pof,List.length_cons]; have:=ih ((a::l).drop 7); omega
theorem Aak (a0:List UInt8)(hb:a0.length≤1000000): ∀(n i:Nat) (out:List UInt64),a0.length≤i+n→i≤1000000+7→out.length+n≤1000000→
  iter (A9 (fun(s:(List UInt64)) (b0:List UInt8)=>Ad (El b0 s) fun y=>some (true,y)) a0 7) (n+1) ((i:Int),out)=some (.inl (out++pof n (a0.drop i))):=by
 intro n;induction n with
 |zero=>
  intro i out h _ _;have:a0.drop i=[]:=List.drop_eq_nil_of_le (by omega);refine He ?_;simp only[A9,this];rw[if_neg (by simp; omega)];simp[pof]
 |succ n ih=>
  intro i out h hi ho;by_cases hlt:i<a0.length
  ·obtain⟨b,l,hl⟩: ∃b l,a0.drop i=b::l:=⟨a0[i],a0.drop (i+1),List.drop_eq_getElem_cons hlt⟩;have hc1:cut a0 (i:Int) (a0.length:Int)=some (a0.drop i):=by
    rw[Sk (by omega) (by omega)]; congr 1; rw[List.take_of_length_le (by simp)]
   have hlen:(a0.drop i).length=a0.length-i:=by simp
   have hm:w64 ((i:Int)+Nf 7 ((a0.drop i).length:Int))=((i+min 7 (a0.length-i):Nat):Int):=by
    rw[D4]<;>unfold Nf<;>split<;>omega
   have hc2:cut a0 (i:Int) ((i+min 7 (a0.length-i):Nat):Int)=some ((a0.drop i).take 7):=by
    rw[Sk (by omega) (by omega)]; congr 1;rw[Nat.add_sub_cancel_left];by_cases h7:7≤a0.length-i
    ·rw[Nat.min_eq_left h7]
    ·rw[Nat.min_eq_right (by omega),List.take_of_length_le (by simp),List.take_of_length_le (by simp; omega)]
   have hw:w64 ((i:Int)+7)=((i+7:Nat):Int):=by rw[D4 (by omega) (by omega)]; omega
   have hb4:El ((a0.drop i).take 7) out=some (out++[ple ((a0.drop i).take 7) 0 0]):=by
    have:=b6_eq ((a0.drop i).take 7) ((a0.drop i).take 7) 0 0 rfl (by simp; omega);simp only[El];rw[show((0:Int))=((0:Nat):Int)from rfl,this];simp only[Ab];rw[JT 8 (by simp; omega) (by simp; omega)];rfl
   rw[E9 (s':=(((i+7:Nat):Int),out++[ple ((a0.drop i).take 7) 0 0]))]
   ·rw[ih (i+7) _ (by omega) (by omega) (by simp; omega)];rw[hl];simp only[pof];rw[←hl,List.drop_drop];simp
   ·simp only[A9];rw[if_pos (decide_eq_true (by omega)),hc1];simp only[Ab,hm,hc2,hb4,hw];rfl
  ·have:a0.drop i=[]:=List.drop_eq_nil_of_le (by omega);refine He ?_;simp only[A9,this];rw[if_neg (by simp; omega)];simp[pof]
theorem of_eq (a0:List UInt8)(hb:a0.length≤900000):Jn a0=some (pof a0.length a0):=by
 have h:=Aak a0 (by omega) a0.length 0 [] (by omega) (by omega) (by simp; omega);have h':=Me _ h (by omega);simp only[Jn,CV,CD];rw[if_neg (by decide)];simp only[Ab,List.drop_zero,List.nil_append]at h'⊢;rw[show((0:Int))=((0:Nat):Int)from rfl,h'];simp only[Ab]
def Kz (n:Nat)(l:List UInt64)(s:UInt64×UInt64×UInt64):UInt64×UInt64×UInt64:=match n,l with|_,[]=>s|0,_=>s|_+1,[x]=>VX (GY s.1 x,s.2.1,s.2.2)|n+1,x::y::l=>Kz n l (VX (GY s.1 x,GY s.2.1 y,s.2.2))
theorem b4_eq1 (x:UInt64)(s:UInt64×UInt64×UInt64):BE (Ei [x]) 1 0 s=some (GY s.1 x,s.2.1,s.2.2):=by
 have e0:idx [x] (0:Int)=some x:=rfl;have e1:idx [s.1,s.2.1,s.2.2] (0:Int)=some s.1:=rfl;simp[BE,Ei,e0,e1,U5,DM]
theorem b4_eq2 (x y:UInt64)(s:UInt64×UInt64×UInt64):BE (Ei [x,y]) 2 0 s=some (GY s.1 x,GY s.2.1 y,s.2.2):=by
 have e0:idx [x,y] (0:Int)=some x:=rfl;have e1:idx [s.1,s.2.1,s.2.2] (0:Int)=some s.1:=rfl;have e2:idx [x,y] 1=some y:=rfl;have e3:idx [GY s.1 x,s.2.1,s.2.2] 1=some s.2.1:=rfl;simp[BE,Ei,e0,e1,e2,e3,U5,DM]
theorem b3_nil (fst:Bool)(hf:fst=true)(s:UInt64×UInt64×UInt64):Ch ([],fst,s.1,s.2.1,s.2.2)=some (.inl ([],false,VX s)):=by
 subst hf;have hc:cut ([]:List UInt64) 0 0=some []:=rfl;have hmin:Nf 2 (([]:List UInt64).length:Int)=0:=rfl;simp only[Ch,Bool.true_or,if_true,hmin];rw[show((([]:List UInt64).length:Int))=0 from rfl,hc];simp only[Ab,BE,List.length_nil,XI]
theorem Abz (s:UInt64×UInt64×UInt64):Ch ([],false,s.1,s.2.1,s.2.2)=some (.inr s):=rfl
theorem Aby (fst:Bool)(x:UInt64)(s:UInt64×UInt64×UInt64):Ch ([x],fst,s.1,s.2.1,s.2.2)=some (.inl ([],false,VX (GY s.1 x,s.2.1,s.2.2))):=by
 have hmin:Nf 2 (([x]:List UInt64).length:Int)=1:=rfl;have h0:(fst||decide ((([x]:List UInt64).length:Int)>0))=true:=by simp
 have hc:cut [x] 0 1=some [x]:=rfl;have hc2:cut [x] 1 1=some []:=rfl;simp only[Ch,h0,if_true,hmin];rw[show((([x]:List UInt64).length:Int))=1 from rfl,hc,hc2];simp only[Ab,List.length_cons,List.length_nil];rw[b4_eq1];simp only[Ab,XI]
theorem Abx (fst:Bool)(x y:UInt64)(l:List UInt64)(s:UInt64×UInt64×UInt64):Ch (x::y::l,fst,s.1,s.2.1,s.2.2)=some (.inl (l,false,VX (GY s.1 x,GY s.2.1 y,s.2.2))):=by
 have hmin:Nf 2 ((x::y::l).length:Int)=((2:Nat):Int):=by unfold Nf; rw[if_neg (by simp; omega)]; rfl
 have h0:(fst||decide (((x::y::l).length:Int)>0))=true:=by simp; right; omega
 have hc:cut (x::y::l) ((0:Nat):Int) ((2:Nat):Int)=some [x,y]:=by rw[Sk (by omega) (by simp)]; rfl
 have hc2:cut (x::y::l) ((2:Nat):Int) ((x::y::l).length:Int)=some l:=by rw[Sk (by simp) (by omega)]; simp
 simp only[Ch,h0,if_true,hmin];rw[show((0:Int))=((0:Nat):Int)from rfl,hc,hc2];simp only[Ab,List.length_cons,List.length_nil];rw[show((0:Nat):Int)=0 from rfl,b4_eq2];simp only[Ab,XI]
theorem TW: ∀(n:Nat) (l:List UInt64) (s:UInt64×UInt64×UInt64),l.length≤n→iter Ch (n+1) (l,false,s.1,s.2.1,s.2.2)=some (Kz n l s):=by
 intro n;induction n with
 |zero=>
  intro l s h;have:l=[]:=List.eq_nil_of_length_eq_zero (by omega);subst this;rw[He (Abz s)]; simp[Kz]
 |succ n ih=>
  intro l s h;match l,h with
  | [],_=>rw[He (Abz s)]; simp[Kz]
  | [x],_=>
   rw[E9 (Aby false x s)];have:=ih [] (VX (GY s.1 x,s.2.1,s.2.2)) (by simp);rw[this]; simp[Kz]
  |x::y::l,h=>
   rw[E9 (Abx false x y l s)];have:=ih l (VX (GY s.1 x,GY s.2.1 y,s.2.2)) (by simp at h; omega);rw[this]; simp[Kz]
def AaT (l:List UInt64)(s:UInt64×UInt64×UInt64):UInt64×UInt64×UInt64:=match l with| []=>VX s|l=>Kz l.length l s
def hsum (b:List UInt8):UInt64×UInt64:=((AaT (pof b.length b) (0,0,toU (b.length:Int))).1,(AaT (pof b.length b) (0,0,toU (b.length:Int))).2.1)
theorem sum_eq (b:List UInt8)(hb:b.length≤900000):HV b=some (hsum b):=by
 simp only[HV,of_eq b hb,Ab];have hl:=Ace b.length b;have hk:hsum b=((AaT (pof b.length b) (0,0,toU (b.length:Int))).1,(AaT (pof b.length b) (0,0,toU (b.length:Int))).2.1):=rfl;rw[hk];clear hk;generalize pof b.length b=l at*;have h:iter Ch C3 (l,true,0,0,toU (b.length:Int))=some (AaT l (0,0,toU (b.length:Int))):=by
  refine Me (l.length+2) ?_ (by omega);match l with
  | []=>
   rw[show([]:List UInt64).length+2=1+1 from rfl,E9 (b3_nil true rfl (0,0,toU (b.length:Int)))];have:=TW 0 [] (VX (0,0,toU (b.length:Int))) (by simp);rw[this]; simp[Kz,AaT]
  | [x]=>
   rw[show([x]:List UInt64).length+2=2+1 from rfl,E9 (Aby true x (0,0,toU (b.length:Int)))];have:=TW 1 [] (VX (GY 0 x,0,toU (b.length:Int))) (by simp);rw[this]; simp[Kz,AaT]
  |x::y::l=>
   rw[E9 (Abx true x y l (0,0,toU (b.length:Int)))];have:=TW (l.length+2) l (VX (GY 0 x,GY 0 y,toU (b.length:Int))) (by omega);have e:(x::y::l).length+1=l.length+2+1:=rfl;rw[e,this];simp only[Kz,AaT,List.length_cons];congr 1;clear this hl;have: ∀(n k:Nat) (l:List UInt64) (s:UInt64×UInt64×UInt64),l.length≤n→l.length≤k→Kz n l s=Kz k l s:=by
    intro n;induction n with
    |zero=>intro k l s h _; have:l=[]:=List.eq_nil_of_length_eq_zero (by omega); subst this; simp[Kz]
    |succ n ih=>
     intro k l s h hk;match l,k,h,hk with
     | [],k,_,_=>cases k<;>simp[Kz]
     | [x],k+1,_,_=>simp[Kz]
     |x::y::l,k+1,h,hk=>simp only[Kz]; exact ih k l _ (by simp at h; omega) (by simp at hk; omega)
   exact this _ _ _ _ (by omega) (by omega)
 rw[h];simp only[Ab]
def Oy:Nat→UInt64→List UInt8
 |0,_=> []
 |k+1,n=>toB ((Ec n (8*k)).toNat:Int)::Oy k n
theorem IG (k:Nat)(n:UInt64):(Oy k n).length=k:=by induction k with|zero=>rfl|succ k ih=>simp[Oy,ih]
theorem Zu (n:UInt64): ∀(k:Nat) (b:List UInt8),k≤8→b.length+k≤1000000→iter (Fj n) (k+1) (b,(k:Int)-1)=some (b++Oy k n):=by
 intro k;induction k with
 |zero=>intro b _ _; refine He ?_; simp only[Fj,Oy,List.append_nil]; rw[if_neg (by simp)]
 |succ k ih=>
  intro b hk hb;have hw:w64 (8*(((k+1:Nat):Int)-1))=((8*k:Nat):Int):=by rw[D4 (by omega) (by omega)]; omega
  have hw2:w64 ((((k+1:Nat):Int)-1)-1)=(k:Int)-1:=by rw[D4 (by omega) (by omega)]; omega
  rw[E9 (s':=(b++[toB ((Ec n (8*k)).toNat:Int)],(k:Int)-1))]
  ·rw[ih _ (by omega) (by simp; omega)]; simp[Oy]
  ·simp only[Fj,hw,hw2];rw[if_pos (decide_eq_true (by omega)),if_pos (by omega),JT 1 (by simp; omega) (by simp; omega)];simp only[Ab,Int.toNat_natCast]
theorem Xc (n:UInt64)(k:Nat)(b:List UInt8)(hk:k≤8)(hb:b.length≤900000):Fk b n (k:Int)=some (b++Oy k n):=by
 have hw:w64 ((k:Int)-1)=(k:Int)-1:=D4 (by omega) (by omega);simp only[Fk,hw,Me (k+1) (Zu n k b hk (by omega)) (by omega),Ab]
def MH (s:UInt64×UInt64):List UInt8:=Oy 8 s.1++Oy 8 s.2
theorem OV (s:UInt64×UInt64):(MH s).length=16:=by simp[MH,IG]
theorem Aao (s:UInt64×UInt64):D6 s=some (MH s):=by
 have e0:idx [s.1,s.2] 0=some s.1:=rfl;have e1:idx [s.1,s.2] 1=some s.2:=rfl;have h0:Fk [] s.1 8=some ([]++Oy 8 s.1):=Xc s.1 8 [] (by omega) (by simp);have h1:Fk (Oy 8 s.1) s.2 8=some (Oy 8 s.1++Oy 8 s.2):=Xc s.2 8 _ (by omega) (by rw[IG]; omega);simp[D6,BE,Gu,e0,e1,h0,h1,MH]
def Xo:List UInt8→List (List UInt8)→List UInt8
 |b,[]=>b
 |b,p::ps=>Xo (b++Oy 4 (toU (p.length:Int))++p) ps
def Y3:List (List UInt8)→Nat
 | []=>0
 |p::ps=>4+p.length+Y3 ps
theorem Xn: ∀(ps:List (List UInt8)) (b:List UInt8),(Xo b ps).length=b.length+Y3 ps:=by
 intro ps;induction ps with
 |nil=>intro b; rfl
 |cons p ps ih=>intro b; simp only[Xo,ih,Y3,List.length_append,IG]; omega
theorem Zg: ∀(ps:List (List UInt8)) (i:Int) (b:List UInt8),b.length+Y3 ps≤800000→CC EB ps i b=some (Xo b ps):=by
 intro ps;induction ps with
 |nil=>intro i b _; rfl
 |cons p ps ih=>
  intro i b h;simp only[Y3]at h;have h0:Fk b (toU (p.length:Int)) 4=some (b++Oy 4 (toU (p.length:Int))):=Xc _ 4 b (by omega) (by omega);simp only[CC,EB,h0,Ab];rw[JT 1 (by simp[IG]; omega) (by simp[IG]; omega)];simp only[Ab];rw[ih _ _ (by simp[IG]; omega)];rfl
def AaR (t:ByteArray)(ps:List (List UInt8)):UInt64×UInt64:=hsum (Xo (toB (t.size:Int)::t.data.toList) ps)
theorem NO (t:ByteArray)(ps:List (List UInt8))(h:t.data.toList.length+Y3 ps≤700000):CL t ps=some (AaR t ps):=by
 simp only[CL];rw[JT 1 (by simp at h⊢; omega) (by simp at h⊢; omega)];simp only[Ab];rw[Zg _ _ _ (by simp at h⊢; omega)];simp only[Ab];rw[sum_eq _ (by rw[Xn]; simp at h⊢; omega)];rfl
def RO (a b:UInt64×UInt64):UInt64×UInt64:=AaR ⟨#[110,111,100,101]⟩ [MH a,MH b]
end Go.Proofs.YtibojdgdjhngiaaGreatDoor
end
section
namespace Go.Proofs.YtibojdgdjhngiaaGreatDoor
open Go Go.Gw Go.Ax
abbrev FP:Nat:=2305843009213693951
theorem Rw {n:Nat}(h:n<18446744073709551616):(toU (n:Int)).toNat=n:=by
 unfold toU;rw[UInt64.toNat_ofNat'];omega
theorem EH (x:UInt64)(k:Nat)(hk:k≤64):(Ec x k).toNat=x.toNat/2^k:=by
 unfold Ec;rw[UInt64.toNat_ofNat',Nat.min_eq_left hk];exact Nat.mod_eq_of_lt (Nat.lt_of_le_of_lt (Nat.div_le_self _ _) x.toNat_lt)
theorem ZH {p q r s:Nat}(hp:p<4294967296)(hq:q<4294967296)(hr:r<4294967296)(hs:s<4294967296):
  (p*r+((p*s+q*s/4294967296)/4294967296)+(((p*s+q*s/4294967296)%4294967296+q*r)/4294967296))=((p*4294967296+q)*(r*4294967296+s))/18446744073709551616:=by
 have h1:(p*4294967296+q)*(r*4294967296+s)=(p*r)*18446744073709551616+(p*s+q*r)*4294967296+q*s:=by
  rw[Nat.add_mul,Nat.mul_add,Nat.mul_add,Nat.add_mul];have a1:p*4294967296*(r*4294967296)=p*r*18446744073709551616:=by rw[Nat.mul_assoc,Nat.mul_left_comm 4294967296,←Nat.mul_assoc p]
  have a2:p*4294967296*s=p*s*4294967296:=Nat.mul_right_comm _ _ _;have a3:q*(r*4294967296)=q*r*4294967296:=(Nat.mul_assoc _ _ _).symm;rw[a1,a2,a3]; omega
 rw[h1];generalize p*r=A;generalize p*s=B;generalize q*r=C;generalize q*s=D;omega
theorem Xl (a b:UInt64):(phi a b).toNat=(a.toNat*b.toNat)/18446744073709551616:=by
 have ha:=a.toNat_lt;have hb:=b.toNat_lt;have m32: ∀x:UInt64,(x&&&4294967295).toNat=x.toNat%4294967296:=fun x=>by
  rw[UInt64.toNat_and]; exact Nat.and_two_pow_sub_one_eq_mod _ 32
 have s32: ∀x:UInt64,(Ec x 32).toNat=x.toNat/4294967296:=fun x=>EH x 32 (by omega);have hp:a.toNat/4294967296<4294967296:=by omega
 have hq:a.toNat%4294967296<4294967296:=by omega
 have hr:b.toNat/4294967296<4294967296:=by omega
 have hs:b.toNat%4294967296<4294967296:=by omega
 have ea:a.toNat/4294967296*4294967296+a.toNat%4294967296=a.toNat:=Nat.div_add_mod' _ _;have eb:b.toNat/4294967296*4294967296+b.toNat%4294967296=b.toNat:=Nat.div_add_mod' _ _;have key:=ZH hp hq hr hs;rw[ea,eb]at key;have bd: ∀x y:Nat,x<4294967296→y<4294967296→x*y≤18446744065119617025:=fun x y hx hy=>Nat.mul_le_mul (show x≤4294967295 by omega) (show y≤4294967295 by omega);have b1:=bd _ _ hp hr;have b2:=bd _ _ hp hs;have b3:=bd _ _ hq hr;have b4:=bd _ _ hq hs;have ab:a.toNat*b.toNat/18446744073709551616<18446744073709551616:=by
  rw[Nat.div_lt_iff_lt_mul (by omega)];exact Nat.lt_of_le_of_lt (Nat.mul_le_mul (show a.toNat≤18446744073709551615 by omega) (show b.toNat≤18446744073709551615 by omega)) (by omega)
 unfold phi;dsimp only;rw[←key]at ab⊢;simp only[UInt64.toNat_add,UInt64.toNat_mul,s32,m32];generalize a.toNat/4294967296*(b.toNat/4294967296)=A at*;generalize a.toNat/4294967296*(b.toNat%4294967296)=B at*;generalize a.toNat%4294967296*(b.toNat/4294967296)=C at*;generalize a.toNat%4294967296*(b.toNat%4294967296)=D at*;omega
theorem u_ext {a b:UInt64}(h:a.toNat=b.toNat):a=b:=UInt64.toNat_inj.1 h
end Go.Proofs.YtibojdgdjhngiaaGreatDoor
end
section
namespace Go.Proofs.YtibojdgdjhngiaaGreatDoor
open Go Go.Gw Go.Ax
section
variable {x4 x5 x7 y u:UInt64}
theorem dq_lt (hd:x7.toNat<4294967296)(hu:u.toNat<y.toNat):(u.toNat*4294967296+x7.toNat)/y.toNat<4294967296:=by
 rw[Nat.div_lt_iff_lt_mul (by omega)];have:(u.toNat+1)*4294967296≤y.toNat*4294967296:=Nat.mul_le_mul_right _ hu;omega
theorem dcond {q r:UInt64}(h1:2147483648≤x4.toNat∧x4.toNat<4294967296)(h0:x5.toNat<4294967296)(hd:x7.toNat<4294967296)(hy:y.toNat=x4.toNat*4294967296+x5.toNat)(hu:u.toNat<y.toNat)
  (hq:q.toNat*x4.toNat+r.toNat=u.toNat) (hr:r.toNat<4294967296):
  (((decide ((q.toNat:Int)≥4294967296))||(decide (((q*x5).toNat:Int)>(((4294967296*r)+x7).toNat:Int))))=true↔(u.toNat*4294967296+x7.toNat)/y.toNat<q.toNat):=by
 have hlt:=dq_lt hd hu;have e1:((4294967296*r)+x7).toNat=4294967296*r.toNat+x7.toNat:=by
  rw[UInt64.toNat_add,UInt64.toNat_mul,show(4294967296:UInt64).toNat=4294967296 from rfl]; omega
 rw[Bool.or_eq_true,decide_eq_true_eq,decide_eq_true_eq,e1];by_cases hb:4294967296≤q.toNat
 ·constructor
  ·intro _; omega
  ·intro _; left; omega
 ·have hB:q.toNat*x5.toNat≤4294967295*4294967295:=Nat.mul_le_mul (by omega) (by omega);have e2:(q*x5).toNat=q.toNat*x5.toNat:=by rw[UInt64.toNat_mul]; omega
  have e3:q.toNat*y.toNat=q.toNat*x4.toNat*4294967296+q.toNat*x5.toNat:=by rw[hy,Nat.mul_add,Nat.mul_assoc]
  rw[e2,Nat.div_lt_iff_lt_mul (by omega),e3];generalize q.toNat*x4.toNat=A at*;generalize q.toNat*x5.toNat=B at*;omega
theorem dstep {q r:UInt64}(h1:2147483648≤x4.toNat∧x4.toNat<4294967296)(h0:x5.toNat<4294967296)(hd:x7.toNat<4294967296)(hy:y.toNat=x4.toNat*4294967296+x5.toNat)(hu:u.toNat<y.toNat)
  (hq:q.toNat*x4.toNat+r.toNat=u.toNat) (hr:r.toNat<4294967296) (hq2:q.toNat≤4294967297) (hc:(u.toNat*4294967296+x7.toNat)/y.toNat<q.toNat):
  (q-1).toNat=q.toNat-1∧(r+x4).toNat=r.toNat+x4.toNat∧(q-1).toNat*x4.toNat+(r+x4).toNat=u.toNat∧(u.toNat*4294967296+x7.toNat)/y.toNat≤(q-1).toNat∧
  (4294967296≤(r+x4).toNat→(q-1).toNat=(u.toNat*4294967296+x7.toNat)/y.toNat):=by
 have q1:1≤q.toNat:=Nat.lt_of_le_of_lt (Nat.zero_le _) hc;have e1:(q-1).toNat=q.toNat-1:=by rw[UInt64.toNat_sub_of_le _ _ (by rw[UInt64.le_iff_toNat_le]; exact q1)]; rfl
 have e2:(r+x4).toNat=r.toNat+x4.toNat:=by rw[UInt64.toNat_add]; omega
 have e3:(q.toNat-1)*x4.toNat+x4.toNat=q.toNat*x4.toNat:=by
  rw[←Nat.succ_mul]; congr 1; omega
 refine⟨e1,e2,by rw[e1,e2,Nat.add_comm r.toNat,←Nat.add_assoc,e3,hq],by rw[e1]; exact Nat.le_sub_one_of_lt hc,fun hb=> ?_⟩;rw[e2]at hb;refine Nat.le_antisymm ?_ (by rw[e1]; exact Nat.le_sub_one_of_lt hc);rw[e1,Nat.le_div_iff_mul_le (Nat.lt_of_le_of_lt (Nat.zero_le _) hu)];clear hc e1 e2;have hB:(q.toNat-1)*x5.toNat≤4294967296*4294967295:=Nat.mul_le_mul (by omega) (by omega);have e4:(q.toNat-1)*y.toNat=(q.toNat-1)*x4.toNat*4294967296+(q.toNat-1)*x5.toNat:=by rw[hy,Nat.mul_add,Nat.mul_assoc]
 rw[e4];generalize (q.toNat-1)*x4.toNat=A at*;generalize (q.toNat-1)*x5.toNat=B at*;generalize q.toNat*x4.toNat=C at*;omega
theorem dloop1 (h1:2147483648≤x4.toNat∧x4.toNat<4294967296)(h0:x5.toNat<4294967296)(hd:x7.toNat<4294967296)(hy:y.toNat=x4.toNat*4294967296+x5.toNat)(hu:u.toNat<y.toNat):
  ∀(n:Nat) (q r:UInt64),q.toNat*x4.toNat+r.toNat=u.toNat→r.toNat<4294967296→q.toNat≤4294967297→(u.toNat*4294967296+x7.toNat)/y.toNat≤q.toNat→4294967296≤r.toNat+n*2147483648→
   ∃p,iter (Dp x4 x5 x7) (n+1) (q,r)=some p∧p.toNat=(u.toNat*4294967296+x7.toNat)/y.toNat:=by
 intro n;induction n with
 |zero=>intro q r _ hr _ _ hn; omega
 |succ n ih=>
  intro q r hq hr hq2 hle hn;have hc:=dcond h1 h0 hd hy hu hq hr;by_cases hcc:(u.toNat*4294967296+x7.toNat)/y.toNat<q.toNat
  ·obtain⟨s1,s2,s3,s4,s5⟩:=dstep h1 h0 hd hy hu hq hr hq2 hcc;by_cases hb:4294967296≤(r+x4).toNat
   ·refine⟨q-1,He ?_,s5 hb⟩;unfold Dp;rw[if_pos (hc.2 hcc),if_pos (by rw[decide_eq_true_eq]; dsimp only; omega)]
   ·obtain⟨p,p1,p2⟩:=ih (q-1) (r+x4) s3 (by omega) (by omega) s4 (by omega);refine⟨p,?_,p2⟩;rw[E9 (s':=(q-1,r+x4)),p1];unfold Dp;rw[if_pos (hc.2 hcc),if_neg (by rw[decide_eq_true_eq]; dsimp only; omega)]
  ·refine⟨q,He ?_,by omega⟩;unfold Dp;rw[if_neg (fun h=>hcc (hc.1 h))]
theorem dloop2 (h1:2147483648≤x4.toNat∧x4.toNat<4294967296)(h0:x5.toNat<4294967296)(hd:x7.toNat<4294967296)(hy:y.toNat=x4.toNat*4294967296+x5.toNat)(hu:u.toNat<y.toNat):
  ∀(n:Nat) (q r:UInt64),q.toNat*x4.toNat+r.toNat=u.toNat→r.toNat<4294967296→q.toNat≤4294967297→(u.toNat*4294967296+x7.toNat)/y.toNat≤q.toNat→4294967296≤r.toNat+n*2147483648→
   ∃p,iter (Dn x4 x5 x7) (n+1) (r,q)=some p∧p.toNat=(u.toNat*4294967296+x7.toNat)/y.toNat:=by
 intro n;induction n with
 |zero=>intro q r _ hr _ _ hn; omega
 |succ n ih=>
  intro q r hq hr hq2 hle hn;have hc:=dcond h1 h0 hd hy hu hq hr;by_cases hcc:(u.toNat*4294967296+x7.toNat)/y.toNat<q.toNat
  ·obtain⟨s1,s2,s3,s4,s5⟩:=dstep h1 h0 hd hy hu hq hr hq2 hcc;by_cases hb:4294967296≤(r+x4).toNat
   ·refine⟨q-1,He ?_,s5 hb⟩;unfold Dn;rw[if_pos (hc.2 hcc),if_pos (by rw[decide_eq_true_eq]; dsimp only; omega)]
   ·obtain⟨p,p1,p2⟩:=ih (q-1) (r+x4) s3 (by omega) (by omega) s4 (by omega);refine⟨p,?_,p2⟩;rw[E9 (s':=(r+x4,q-1)),p1];unfold Dn;rw[if_pos (hc.2 hcc),if_neg (by rw[decide_eq_true_eq]; dsimp only; omega)]
  ·refine⟨q,He ?_,by omega⟩;unfold Dn;rw[if_neg (fun h=>hcc (hc.1 h))]
theorem Abp (h1:2147483648≤x4.toNat∧x4.toNat<4294967296)(h0:x5.toNat<4294967296)(hd:x7.toNat<4294967296)(hy:y.toNat=x4.toNat*4294967296+x5.toNat)(hu:u.toNat<y.toNat):
  (u/x4).toNat*x4.toNat+(u-(u/x4)*x4).toNat=u.toNat∧(u-(u/x4)*x4).toNat<4294967296∧(u/x4).toNat≤4294967297∧(u.toNat*4294967296+x7.toNat)/y.toNat≤(u/x4).toNat:=by
 have e1:(u/x4).toNat=u.toNat/x4.toNat:=UInt64.toNat_div _ _;have hmul:u.toNat/x4.toNat*x4.toNat≤u.toNat:=Nat.div_mul_le_self _ _;have hul:=u.toNat_lt;have e2:((u/x4)*x4).toNat=u.toNat/x4.toNat*x4.toNat:=by rw[UInt64.toNat_mul,e1]; omega
 have e3:(u-(u/x4)*x4).toNat=u.toNat-u.toNat/x4.toNat*x4.toNat:=by
  rw[UInt64.toNat_sub_of_le _ _ (by rw[UInt64.le_iff_toNat_le,e2]; exact hmul),e2]
 have e4:u.toNat-u.toNat/x4.toNat*x4.toNat=u.toNat%x4.toNat:=by
  have:=Nat.div_add_mod' u.toNat x4.toNat; omega
 have e5:=Nat.mod_lt u.toNat (show 0<x4.toNat by omega);refine⟨by rw[e1,e3]; omega,by rw[e3,e4]; omega,?_,?_⟩
 ·rw[e1];have:u.toNat/x4.toNat<4294967298:=by
   rw[Nat.div_lt_iff_lt_mul (by omega)];omega
  omega
 ·rw[e1,Nat.le_div_iff_mul_le (by omega)];have h2:(u.toNat*4294967296+x7.toNat)/y.toNat*y.toNat≤u.toNat*4294967296+x7.toNat:=Nat.div_mul_le_self _ _;generalize (u.toNat*4294967296+x7.toNat)/y.toNat=Q at*;have h3:Q*y.toNat=Q*x4.toNat*4294967296+Q*x5.toNat:=by rw[hy,Nat.mul_add,Nat.mul_assoc]
  rw[h3]at h2;generalize Q*x4.toNat=A at*;generalize Q*x5.toNat=B at*;omega
theorem drest {q:UInt64}(hu:u.toNat<y.toNat)(hq:q.toNat=(u.toNat*4294967296+x7.toNat)/y.toNat):(((u*4294967296)+x7)-(q*y)).toNat=(u.toNat*4294967296+x7.toNat)%y.toNat:=by
 have hyl:=y.toNat_lt;have hm:=Nat.mod_lt (u.toNat*4294967296+x7.toNat) (show 0<y.toNat by omega);have hdm:=Nat.div_add_mod' (u.toNat*4294967296+x7.toNat) y.toNat;rw[UInt64.toNat_sub,UInt64.toNat_add,UInt64.toNat_mul,UInt64.toNat_mul,hq,show(4294967296:UInt64).toNat=4294967296 from rfl];generalize (u.toNat*4294967296+x7.toNat)/y.toNat*y.toNat=Z at*;omega
end
theorem Na {x:UInt64}{k:Nat}(hk:k≤63):(HC x k).toNat=(x.toNat*2^k)%18446744073709551616:=by
 unfold HC;rw[Nat.min_eq_left (by omega),show(x.toNat:Int)*2^k=((x.toNat*2^k:Nat):Int)from by simp];unfold toU;rw[UInt64.toNat_ofNat'];generalize x.toNat*2^k=z;omega
theorem or_nat {a b k:Nat}(h:b<2^k):a*2^k|||b=a*2^k+b:=by
 rw[Nat.mul_comm]; exact(Nat.two_pow_add_eq_or_of_lt h a).symm
theorem UT {hi lo y0:UInt64}{s:Nat}(hs:s≤63)(hlz:CR y0=some (s:Int))(hn1:9223372036854775808≤y0.toNat*2^s)(hn2:y0.toNat*2^s<18446744073709551616)(hh:hi.toNat<y0.toNat):
  ∃q r,F9 hi lo y0=some (q,r)∧r.toNat=(hi.toNat*18446744073709551616+lo.toNat)%y0.toNat:=by
 have hyne:y0≠0:=fun e=>by rw[e]at hh; simp at hh
 unfold F9;rw[if_neg (by rw[beq_iff_eq]; omega),Ab,if_neg (by rw[decide_eq_true_eq]; omega),Ab];by_cases hz:hi.toNat=0
 ·rw[if_pos (by rw[beq_iff_eq]; omega),if_pos hyne,if_pos hyne];refine⟨_,_,rfl,?_⟩;rw[UInt64.toNat_mod,hz]; simp
 ·have hts:(toU (s:Int)).toNat=s:=Rw (by omega);have h64:(64-toU (s:Int)).toNat=64-s:=by
   rw[UInt64.toNat_sub_of_le _ _ (by rw[UInt64.le_iff_toNat_le,hts]; show s≤64; omega),hts]; rfl
  rw[if_neg (by rw[beq_iff_eq]; omega),hlz,Ab,hts,h64];simp only[DM];have hps:0<2^s:=Nat.two_pow_pos s;have hpp:2^s*2^ (64-s)=18446744073709551616:=by rw[←Nat.pow_add,show s+(64-s)=64 from by omega]
  have hY:(HC y0 s).toNat=y0.toNat*2^s:=by rw[Na (by omega)]; exact Nat.mod_eq_of_lt hn2
  have hlo:=lo.toNat_lt;have hlod:lo.toNat/2^ (64-s)<2^s:=by rw[Nat.div_lt_iff_lt_mul (Nat.two_pow_pos _),hpp]; omega
  have hhs:hi.toNat*2^s+2^s≤y0.toNat*2^s:=by rw[←Nat.succ_mul]; exact Nat.mul_le_mul_right _ hh
  have hU:((HC hi s)|||(Ec lo (64-s))).toNat=hi.toNat*2^s+lo.toNat/2^ (64-s):=by
   rw[UInt64.toNat_or,Na (by omega),EH _ _ (by omega),Nat.mod_eq_of_lt (by omega),or_nat hlod]
  have hL:(HC lo s).toNat=(lo.toNat*2^s)%18446744073709551616:=Na (by omega);have m32: ∀x:UInt64,(x&&&4294967295).toNat=x.toNat%4294967296:=fun x=>by
   rw[UInt64.toNat_and]; exact Nat.and_two_pow_sub_one_eq_mod _ 32
  have s32: ∀x:UInt64,(Ec x 32).toNat=x.toNat/4294967296:=fun x=>EH x 32 (by omega);have hlos:lo.toNat*2^s=lo.toNat/2^ (64-s)*18446744073709551616+(lo.toNat*2^s)%18446744073709551616:=by
   have e1:lo.toNat*2^s/18446744073709551616=lo.toNat/2^ (64-s):=by
    rw[←hpp,Nat.mul_comm,Nat.mul_div_mul_left _ _ hps]
   rw[←e1]; exact(Nat.div_add_mod' _ _).symm
  have hN:(hi.toNat*18446744073709551616+lo.toNat)*2^s=(hi.toNat*2^s+lo.toNat/2^ (64-s))*18446744073709551616+(lo.toNat*2^s)%18446744073709551616:=by
   rw[Nat.add_mul,hlos,Nat.add_mul,Nat.mul_right_comm];omega
  generalize hgy:HC y0 s=y at*;generalize hgu:(HC hi s)|||(Ec lo (64-s))=u at*;generalize hgl:HC lo s=l at*;have hyl:=y.toNat_lt;have a1:2147483648≤(Ec y 32).toNat∧(Ec y 32).toNat<4294967296:=by rw[s32]; omega
  have a0:(y&&&4294967295).toNat<4294967296:=by rw[m32]; omega
  have ay:y.toNat=(Ec y 32).toNat*4294967296+(y&&&4294967295).toNat:=by rw[s32,m32]; omega
  have ad:(Ec l 32).toNat<4294967296:=by rw[s32]; have:=l.toNat_lt; omega
  have ae:(l&&&4294967295).toNat<4294967296:=by rw[m32]; omega
  have au:u.toNat<y.toNat:=by rw[hU,hY]; omega
  have hx4:Ec y 32≠0:=fun e=>by rw[e]at a1; simp at a1
  obtain⟨b1,b2,b3,b4⟩:=Abp a1 a0 ad ay au;obtain⟨q1,c1,c2⟩:=dloop1 a1 a0 ad ay au 2 _ _ b1 b2 b3 b4 (by omega);have hr1:=drest au c2;have hr1l:=Nat.mod_lt (u.toNat*4294967296+(Ec l 32).toNat) (show 0<y.toNat by omega);rw[if_pos hx4,Me _ c1 (by omega),Ab,Ab,if_pos hx4];generalize hgv:((u*4294967296)+(Ec l 32))-(q1*y)=v at*;have av:v.toNat<y.toNat:=by omega
  obtain⟨d1,d2,d3,d4⟩:=Abp a1 a0 ae ay av;obtain⟨q0,e1,e2⟩:=dloop2 a1 a0 ae ay av 2 _ _ d1 d2 d3 d4 (by omega);have hr0:=drest av e2;rw[Me _ e1 (by omega),Ab,Ab];refine⟨_,_,rfl,?_⟩;rw[EH _ _ (by omega),hr0,hr1];have f1:(((u.toNat*4294967296+(Ec l 32).toNat)%y.toNat)*4294967296+(l&&&4294967295).toNat)%y.toNat=((hi.toNat*18446744073709551616+lo.toNat)*2^s)%y.toNat:=by
   rw[Nat.add_mod,Nat.mod_mul_mod,←Nat.add_mod,hN,←hU,←hL,s32,m32];have e9:(u.toNat*4294967296+l.toNat/4294967296)*4294967296+l.toNat%4294967296=u.toNat*18446744073709551616+l.toNat:=by omega
   rw[e9]
  rw[f1,hY,Nat.mul_mod_mul_right,Nat.mul_div_cancel _ hps]
end Go.Proofs.YtibojdgdjhngiaaGreatDoor
end
section
namespace Go.Proofs.YtibojdgdjhngiaaGreatDoor
open Go Go.Gw Go.Ax
abbrev GQ:Nat:=2305843009213691579
abbrev GR:Nat:=1152921504606845789
def Dv (y:UInt64):Prop:= ∃s:Nat,s≤63∧CR y=some (s:Int)∧9223372036854775808≤y.toNat*2^s∧y.toNat*2^s<18446744073709551616
theorem dvQ:Dv 2305843009213691579:=⟨3,by omega,by kernel_rfl,by decide,by decide⟩
theorem dvR:Dv 1152921504606845789:=⟨4,by omega,by kernel_rfl,by decide,by decide⟩
theorem dvR1:Dv 1152921504606845788:=⟨4,by omega,by kernel_rfl,by decide,by decide⟩
theorem Dv.pos {y:UInt64}(h:Dv y):0<y.toNat:=by
 obtain⟨s,_,_,h1,_⟩:=h;by_cases e:y.toNat=0
 ·rw[e]at h1; simp at h1
 ·omega
theorem AaP {y:UInt64}(h:Dv y)(hi lo:UInt64): ∃z,E7 hi lo y=some z∧z.toNat=(hi.toNat*18446744073709551616+lo.toNat)%y.toNat:=by
 have hpos:=h.pos;obtain⟨s,h1,h2,h3,h4⟩:=h;have hyne:y≠0:=fun e=>by rw[e]at hpos; simp at hpos
 have hm:(hi%y).toNat=hi.toNat%y.toNat:=UInt64.toNat_mod _ _;obtain⟨q,r,e1,e2⟩:=UT (hi:=hi%y) (lo:=lo) h1 h2 h3 h4 (by rw[hm]; exact Nat.mod_lt _ hpos);refine⟨r,?_,?_⟩
 ·unfold E7;rw[if_pos hyne,e1,Ab]
 ·rw[e2,hm,Nat.add_mod,Nat.mod_mul_mod,←Nat.add_mod]
def ofN (n:Nat):UInt64:=UInt64.ofNat n
theorem XC {n:Nat}(h:n<18446744073709551616):(ofN n).toNat=n:=by
 unfold ofN; rw[UInt64.toNat_ofNat']; exact Nat.mod_eq_of_lt h
theorem Acj (n:Nat){y:UInt64}(h:0<y.toNat):(ofN (n%y.toNat)).toNat=n%y.toNat:=XC (Nat.lt_of_lt_of_le (Nat.mod_lt _ h) (Nat.le_of_lt y.toNat_lt))
theorem UD {z:UInt64}{n:Nat}(h:z.toNat=n):z=ofN n:=by
 rw[←h]; exact u_ext (XC z.toNat_lt).symm
def Vy (y a b:UInt64):UInt64:=ofN ((a.toNat*b.toNat)%y.toNat)
theorem UG {y:UInt64}(h:Dv y)(a b:UInt64):(Vy y a b).toNat=(a.toNat*b.toNat)%y.toNat:=Acj _ h.pos
theorem LY {y:UInt64}(h:Dv y)(a b:UInt64):BO y a b=some (Vy y a b):=by
 obtain⟨z,e1,e2⟩:=AaP h (phi a b) (a*b);unfold BO;rw[Qq,Ab,e1,Ab];rw[Xl,UInt64.toNat_mul,Nat.div_add_mod']at e2;rw[UD e2]; rfl
def addM (y a b:UInt64):UInt64:=ofN ((a.toNat+b.toNat)%y.toNat)
theorem Sr (a b:UInt64):(HD a b).toNat*18446744073709551616+(a+b).toNat=a.toNat+b.toNat:=by
 have:=a.toNat_lt;have:=b.toNat_lt;unfold HD;rw[UInt64.toNat_ofNat',UInt64.toNat_add];omega
theorem Vs {y:UInt64}(h:Dv y)(a b:UInt64):DY y a b=some (addM y a b):=by
 have hpos:=h.pos;have hyne:y≠0:=fun e=>by rw[e]at hpos; simp at hpos
 obtain⟨z,e1,e2⟩:=AaP h (HD (a%y) (b%y)) ((a%y)+(b%y));unfold DY;rw[if_pos hyne,if_pos hyne,e1,Ab];rw[Sr,UInt64.toNat_mod,UInt64.toNat_mod,←Nat.add_mod]at e2;rw[UD e2]; rfl
theorem Ack {P d r c sm t:Nat}(hP:d*18446744073709551616+r=P)(hr:r<18446744073709551616)(hd:d<2305843009213693952)(hc:c*18446744073709551616+sm=r+t)(ht:t<18446744073709551616):
  ((d+c)%18446744073709551616)*18446744073709551616+sm=P+t:=by
 have h1:c≤1:=by omega
 rw[Nat.mod_eq_of_lt (show d+c<18446744073709551616 by omega),Nat.add_mul,←hP,Nat.add_assoc,hc,Nat.add_assoc]
def numM (s:UInt64×UInt64)(y:UInt64):UInt64:=ofN ((s.1.toNat*2305843009213693952+s.2.toNat)%y.toNat)
theorem AaY {y:UInt64}(h:Dv y)(s:UInt64×UInt64):HW s y=some (numM s y):=by
 have hpos:=h.pos;have hyne:y≠0:=fun e=>by rw[e]at hpos; simp at hpos
 obtain⟨t,h1,h2,h3,h4⟩:=h;have hp:(phi s.1 2305843009213693952).toNat=s.1.toNat*2305843009213693952/18446744073709551616:=Xl _ _;have hl:(s.1*2305843009213693952).toNat=s.1.toNat*2305843009213693952%18446744073709551616:=UInt64.toNat_mul _ _;have hs1:=s.1.toNat_lt;have hs2:=s.2.toNat_lt;have hc:=Sr (s.1*2305843009213693952) s.2;have hsum:(phi s.1 2305843009213693952+HD (s.1*2305843009213693952) s.2).toNat*18446744073709551616+(s.1*2305843009213693952+s.2).toNat=s.1.toNat*2305843009213693952+s.2.toNat:=by
  rw[UInt64.toNat_add,hp];rw[hl]at hc;have hdl:s.1.toNat*2305843009213693952/18446744073709551616<2305843009213693952:=by
   rw[Nat.div_lt_iff_lt_mul (by decide),Nat.mul_comm (2305843009213693952)];exact Nat.mul_lt_mul_of_pos_right hs1 (by decide)
  exact Ack (Nat.div_add_mod' _ _) (Nat.mod_lt _ (by decide)) hdl hc hs2
 have hm:((phi s.1 2305843009213693952+HD (s.1*2305843009213693952) s.2)%y).toNat=(phi s.1 2305843009213693952+HD (s.1*2305843009213693952) s.2).toNat%y.toNat:=UInt64.toNat_mod _ _;obtain⟨q,r,e1,e2⟩:=UT (hi:=(phi s.1 2305843009213693952+HD (s.1*2305843009213693952) s.2)%y) (lo:=s.1*2305843009213693952+s.2) h1 h2 h3 h4 (by rw[hm]; exact Nat.mod_lt _ hpos);unfold HW;rw[if_neg (by rw[beq_iff_eq]; omega),Qq,Ab,if_pos hyne];dsimp only;rw[e1,Ab];rw[hm,Nat.add_mod,Nat.mod_mul_mod,←Nat.add_mod,hsum]at e2;rw[UD e2]; rfl
theorem Zk:((List.range 256).all fun n=>decide (n<2^ (str_0.data.toList.getD n 0).toNat)&&decide ((str_0.data.toList.getD n 0).toNat≤8))=true:=by kernel_rfl
theorem Zj:str_0.data.toList.length=256:=by kernel_rfl
theorem tabL (x:UInt64)(hx:x.toNat<256): ∃b,idx str_0.data.toList ((toB (x.toNat:Int)).toNat:Int)=some b∧x.toNat<2^b.toNat∧b.toNat≤8:=by
 have hb:(toB (x.toNat:Int)).toNat=x.toNat:=by unfold toB; rw[UInt8.toNat_ofNat']; omega
 have h:=List.all_eq_true.1 Zk x.toNat (List.mem_range.2 hx);rw[Bool.and_eq_true,decide_eq_true_eq,decide_eq_true_eq]at h;have hlt:x.toNat<str_0.data.toList.length:=by rw[Zj]; exact hx
 rw[List.getD_eq_getElem?_getD,List.getElem?_eq_getElem hlt,Option.getD_some]at h;rw[hb];exact⟨str_0.data.toList[x.toNat],Er (by simp),h.1,h.2⟩
theorem ZR (a:UInt64): ∃L:Nat,D8 a=some (L:Int)∧a.toNat<2^L∧L≤64:=by
 have ha:=a.toNat_lt;have h1: ∃(x:UInt64) (n:Nat),(if(decide ((a.toNat:Int)≥4294967296))=true then some ((Ec a 32),(32:Int))else some (a,0))=some (x,(n:Int))∧n≤32∧x.toNat<4294967296∧a.toNat<(x.toNat+1)*2^n:=by
  split
  ·refine⟨Ec a 32,32,rfl,by omega,?_,?_⟩<;>rw[EH a 32 (by omega)]<;>omega
  ·rename_i h; rw[decide_eq_true_eq]at h; exact⟨a,0,rfl,by omega,by omega,by omega⟩
 obtain⟨x,n,e1,n1,hx,hn⟩:=h1;have h2: ∃(y:UInt64) (k:Nat),(if(decide ((x.toNat:Int)≥65536))=true then some ((Ec x 16),(w64 ((n:Int)+16)))else some (x,(n:Int)))=some (y,(k:Int))∧k≤48∧y.toNat<65536∧a.toNat<(y.toNat+1)*2^k:=by
  split
  ·refine⟨Ec x 16,n+16,by rw[D4 (by omega) (by omega)]; rfl,by omega,?_,?_⟩
   ·rw[EH x 16 (by omega)]; omega
   ·rw[EH x 16 (by omega),Nat.pow_add];refine Nat.lt_of_lt_of_le hn ?_;have:x.toNat+1≤(x.toNat/2^16+1)*2^16:=by omega
    calc (x.toNat+1)*2^n≤((x.toNat/2^16+1)*2^16)*2^n:=Nat.mul_le_mul_right _ this
     _=(x.toNat/2^16+1)*(2^n*2^16):=by rw[Nat.mul_assoc,Nat.mul_comm (2^16)]
  ·rename_i h; rw[decide_eq_true_eq]at h; exact⟨x,n,rfl,by omega,by omega,hn⟩
 obtain⟨y,k,e2,k1,hy,hk⟩:=h2;have h3: ∃(z:UInt64) (j:Nat),(if(decide ((y.toNat:Int)≥256))=true then some ((Ec y 8),(w64 ((k:Int)+8)))else some (y,(k:Int)))=some (z,(j:Int))∧j≤56∧z.toNat<256∧a.toNat<(z.toNat+1)*2^j:=by
  split
  ·refine⟨Ec y 8,k+8,by rw[D4 (by omega) (by omega)]; rfl,by omega,?_,?_⟩
   ·rw[EH y 8 (by omega)]; omega
   ·rw[EH y 8 (by omega),Nat.pow_add];refine Nat.lt_of_lt_of_le hk ?_;have:y.toNat+1≤(y.toNat/2^8+1)*2^8:=by omega
    calc (y.toNat+1)*2^k≤((y.toNat/2^8+1)*2^8)*2^k:=Nat.mul_le_mul_right _ this
     _=(y.toNat/2^8+1)*(2^k*2^8):=by rw[Nat.mul_assoc,Nat.mul_comm (2^8)]
  ·rename_i h; rw[decide_eq_true_eq]at h; exact⟨y,k,rfl,by omega,by omega,hk⟩
 obtain⟨z,j,e3,j1,hz,hj⟩:=h3;obtain⟨b,e4,b1,b2⟩:=tabL z hz;refine⟨j+b.toNat,?_,?_,by omega⟩
 ·unfold D8;rw[e1,Ab];dsimp only;rw[e2,Ab];dsimp only;rw[e3,Ab,e4,Ab,DM,D4 (n:=(b.toNat:Int)) (by omega) (by omega),D4 (by omega) (by omega)]; rfl
 ·refine Nat.lt_of_lt_of_le hj ?_;rw[Nat.add_comm j,Nat.pow_add];exact Nat.mul_le_mul_right _ b1
def powN (y a n:UInt64):UInt64:=ofN (a.toNat^n.toNat%y.toNat)
theorem Ado (n j:Nat):n&&&2^j=(n.testBit j).toNat*2^j:=by
 apply Nat.eq_of_testBit_eq;intro i;rw[Nat.testBit_and,Nat.testBit_two_pow];by_cases h:j=i
 ·subst h;cases hb:n.testBit j<;>simp[hb,Nat.testBit_two_pow_self]
 ·cases hb:n.testBit j<;>simp[h,Nat.testBit_two_pow]
theorem bit_eq (n:UInt64){j:Nat}(hj:j≤63):(((n&&&(HC 1 j)).toNat:Int) !=0)=decide (n.toNat/2^j%2=1):=by
 have h1:(HC 1 j).toNat=2^j:=by
  rw[Na hj,show(1:UInt64).toNat=1 from rfl,Nat.one_mul];exact Nat.mod_eq_of_lt (Nat.lt_of_le_of_lt (Nat.pow_le_pow_right (by omega) hj) (by decide))
 have h2:(n&&&(HC 1 j)).toNat=(n.toNat.testBit j).toNat*2^j:=by rw[UInt64.toNat_and,h1,Ado]
 rw[h2];have hp:=Nat.two_pow_pos j;rw[Nat.testBit_eq_decide_div_mod_eq];by_cases hb:n.toNat/2^j%2=1
 ·simp only[hb,decide_true,Bool.toNat_true,Nat.one_mul];rw[bne_iff_ne]; omega
 ·simp only[hb,decide_false,Bool.toNat_false,Nat.zero_mul]; rfl
def mulF (y:UInt64):Unit→UInt64→UInt64→Option (UInt64×Unit):=fun(s1:Unit) (b1:UInt64) (b2:UInt64)=>Ad (BO y b1 b2) fun x1=>some (x1,())
theorem pow_it {y:UInt64}(h:Dv y)(a n:UInt64): ∀(j:Nat) (out:UInt64),j≤64→out.toNat=a.toNat^ (n.toNat/2^j)%y.toNat→
  ∃r,iter (B7 (fun(s:UInt64×Unit) (b0:Bool)=>Ad (CI (mulF y) a b0 s) fun z=>some (true,z)) n) (j+1) ((j:Int)-1,(out,()))=some (.inl (r,()))∧r.toNat=a.toNat^n.toNat%y.toNat:=by
 intro j;induction j with
 |zero=>
  intro out _ ho;refine⟨out,He ?_,by rw[ho]; simp⟩;unfold B7;rw[if_neg (by simp)]
 |succ j ih=>
  intro out hj ho;have hw:w64 ((((j+1:Nat):Int)-1)-1)=(j:Int)-1:=by rw[D4 (by omega) (by omega)]; omega
  have hk:(((j+1:Nat):Int)-1).toNat=j:=by omega
  have hbit:=bit_eq n (j:=j) (by omega);have hdiv:n.toNat/2^ (j+1)=n.toNat/2^j/2:=by rw[Nat.pow_succ,Nat.div_div_eq_div_mul]
  have hsq:(Vy y out out).toNat=a.toNat^ (2*(n.toNat/2^ (j+1)))%y.toNat:=by
   rw[UG h,ho,←Nat.mul_mod,←Nat.pow_add,←Nat.two_mul]
  by_cases hb:n.toNat/2^j%2=1
  ·have hn:(Vy y (Vy y out out) a).toNat=a.toNat^ (n.toNat/2^j)%y.toNat:=by
    rw[UG h,hsq,Nat.mod_mul_mod,←Nat.pow_succ];congr 2; omega
   obtain⟨r,r1,r2⟩:=ih (Vy y (Vy y out out) a) (by omega) hn;refine⟨r,?_,r2⟩;rw[E9 (s':=((j:Int)-1,(Vy y (Vy y out out) a,()))),r1];unfold B7;dsimp only;rw[if_pos (by rw[decide_eq_true_eq]; omega),if_pos (by omega),hk,hbit];simp only[CI,mulF,LY h,Ab,hb,decide_true,if_true,Bool.not_true,Bool.false_eq_true,if_false,hw]
  ·have hn:(Vy y out out).toNat=a.toNat^ (n.toNat/2^j)%y.toNat:=by
    rw[hsq]; congr 2; omega
   obtain⟨r,r1,r2⟩:=ih (Vy y out out) (by omega) hn;refine⟨r,?_,r2⟩;rw[E9 (s':=((j:Int)-1,(Vy y out out,()))),r1];unfold B7;dsimp only;rw[if_pos (by rw[decide_eq_true_eq]; omega),if_pos (by omega),hk,hbit];simp only[CI,mulF,LY h,Ab,hb,decide_false,Bool.not_true,Bool.false_eq_true,if_false,hw]
theorem Zz {y:UInt64}(h:Dv y)(a n:UInt64)(h1:1<y.toNat):FH (mulF y) a n ()=some (powN y a n,()):=by
 obtain⟨L,e1,e2,e3⟩:=ZR n;have hw:w64 ((L:Int)-1)=(L:Int)-1:=D4 (by omega) (by omega);obtain⟨r,r1,r2⟩:=pow_it h a n L 1 e3 (by rw[Nat.div_eq_of_lt e2]; simp; exact(Nat.mod_eq_of_lt h1).symm);have r1':=Me _ r1 (by omega);unfold FH Fo;rw[show GA n=some n from rfl,Ab,e1,Ab,hw,r1',Ab];simp only[Ab];rw[UD r2]; rfl
theorem pow_eq (a n:UInt64):F8 a n=some (powN 2305843009213691579 a n):=by
 unfold F8;have:=Zz dvQ a n (by decide);unfold mulF at this;rw[this,Ab]
theorem YK (n:UInt64):Fp n=some (powN 2305843009213691579 4 n):=by
 unfold Fp;rw[pow_eq,Ab]
end Go.Proofs.YtibojdgdjhngiaaGreatDoor
end
section
namespace Go.Proofs.YtibojdgdjhngiaaGreatDoor
open Go Go.Gw Go.Ax
end Go.Proofs.YtibojdgdjhngiaaGreatDoor
end
section
namespace Go.Proofs.YtibojdgdjhngiaaGreatDoor
open Go Go.Gw Go.Ax
theorem Od (n:UInt64):D5 n=some (Oy 8 n):=by
 unfold D5;simp[BE,Gq,idx,w64,DM,Oy]
def pubK (k:UInt64):UInt64:=powN 2305843009213691579 4 k
theorem Xd {k:UInt64}(h1:1≤k.toNat)(h2:k.toNat<GR):Fg k=some (pubK k,0):=by
 simp only[GR]at h2;unfold Fg Kr;rw[DM,Ab,if_neg (by simp; omega),YK,Ab]; rfl
def chal (c p:UInt64)(msg:List UInt8):UInt64:=numM (AaR ⟨#[115,105,103,110]⟩ [Oy 8 c,Oy 8 p,msg]) 1152921504606845789
theorem Ade (c p:UInt64){msg:List UInt8}(h:msg.length≤600000):Ew c p msg=some (chal c p msg):=by
 unfold Ew;rw[Od,Ab,Od,Ab,NO _ _ (by simp[Y3,IG]; omega),Ab,AaY dvR,Ab]; rfl
def XE (k:UInt64)(msg:List UInt8):UInt64:=numM (AaR ⟨#[110,111,110,99,101]⟩ [Oy 8 k,msg]) 1152921504606845788+1
theorem Zn {t:ByteArray}{ps:List (List UInt8)}(h:t.data.toList.length+Y3 ps≤700000):G6 t ps=some (numM (AaR t ps) 1152921504606845788+1):=by
 unfold G6;rw[NO _ _ h,Ab,AaY dvR1,Ab]
def signE (k:UInt64)(msg:List UInt8):UInt64:=chal (pubK (XE k msg)) (pubK k) msg
def AbQ (k:UInt64)(msg:List UInt8):g_api_Sig:=⟨signE k msg,addM 1152921504606845789 (Vy 1152921504606845789 (signE k msg) k) (XE k msg)⟩
theorem Wx {k:UInt64}{msg:List UInt8}(h1:1≤k.toNat)(h2:k.toNat<GR)(hm:msg.length≤600000):FM k msg=some (AbQ k msg,0):=by
 unfold FM;rw[Xd h1 h2,Ab,if_neg (by simp),Od,Ab,Zn (by simp[Y3,IG]; omega),Ab,YK,Ab];dsimp only;rw[show powN 2305843009213691579 4 (numM (AaR ⟨#[110,111,110,99,101]⟩ [Oy 8 k,msg]) 1152921504606845788+1)=pubK (XE k msg)from rfl,Ade _ _ hm,Ab];unfold HN HO;rw[LY dvR,Ab,Ab,Vs dvR,Ab,Ab]; rfl
def gr:Nat:=GR
end Go.Proofs.YtibojdgdjhngiaaGreatDoor
end
section
namespace Go.Proofs.YtibojdgdjhngiaaGreatDoor
open Go Go.Gw Go.Ax
theorem ZZ (n:Nat)(h:n≤1000000):Bg (n:Int)=some []:=by
 have hw:w64 ((n:Int)-(w64 (0-((0:Nat):Int))))=(n:Int):=by rw[D4 (n:=0-((0:Nat):Int)) (by omega) (by omega),D4 (by omega) (by omega)]; omega
 unfold Bg;rw[if_neg (by rw[decide_eq_true_eq]; omega),Ab,hw,DM];by_cases h0:n=0
 ·rw[if_neg (by simp; omega),Ab]
 ·rw[if_pos (by simp; omega),if_pos (by omega),Ab]
theorem VM {xs ys:List g_api_Leaf}(h:xs.length+ys.length≤100000):A6 [xs,ys]=some (xs++ys):=by
 have w1:w64 (0+(xs.length:Int))=(xs.length:Int):=by rw[D4 (by omega) (by omega)]; omega
 have w2:w64 ((xs.length:Int)+(ys.length:Int))=((xs.length+ys.length:Nat):Int):=by rw[D4 (by omega) (by omega)]; omega
 have b1: ∀(i:Int) (x:List g_api_Leaf) (s:Int),0≤w64 (s+(x.length:Int))→Be i x s=some (w64 (s+(x.length:Int))):=by
  intro i x s hs;unfold Be;rw[DM,if_neg (by rw[decide_eq_true_eq]; omega),Ab]
 have b2: ∀(i:Int) (x s:List g_api_Leaf),s.length+x.length≤100000→Bd i x s=some (s++x):=by
  intro i x s hs;unfold Bd;rw[JT 32 (by omega) (by omega),Ab]
 unfold A6;simp only[CC];rw[b1 _ _ _ (by rw[w1]; omega),Ab,w1,b1 _ _ _ (by rw[w2]; omega),Ab,w2,Ab,Ab,ZZ _ (by omega),Ab,b2 _ _ _ (by simp; omega),Ab,List.nil_append,b2 _ _ _ h,Ab,Ab,Ab]
theorem Sz {l:Ak}(h:l.L.length+l.Wait.length≤100000):G7 l=some (l.L++l.Wait):=by
 unfold G7;rw[VM h,Ab]
def okBody (b:List UInt8):Bool:=decide (0<b.length)&&decide (b.length≤2048)
def okNum (n:Int):Bool:=decide (0≤n)&&decide (n≤1099511627776)
theorem Jj (n:Int):Ef n=some (okNum n):=rfl
theorem Ki (b:List UInt8):Fi b=some (okBody b):=by
 unfold Fi okBody;rw[DM];congr 2
 ·rw[decide_eq_decide]; omega
 ·rw[decide_eq_decide]; omega
def VZ (ks:List (List UInt8)):List (ByteArray×Bool):=ks.map fun b=>(bs b,true)
theorem U1 {a b:List UInt8}:eqS (bs a) (bs b)=true↔a=b:=by simp[eqS,bs]
theorem XL (b:List UInt8): ∀(ks:List (List UInt8)) (i:Nat),(b∈ks→∃j,lkI (VZ ks) (bs b) i=some (j,true))∧(b∉ks→lkI (VZ ks) (bs b) i=none):=by
 intro ks;induction ks with
 |nil=>intro i; exact⟨fun h=>absurd h (by simp),fun _=>rfl⟩
 |cons k ks ih=>
  intro i;simp only[VZ,List.map_cons,lkI];by_cases hk:b=k
  ·subst hk;rw[if_pos (U1.2 rfl)];exact⟨fun _=>⟨i,rfl⟩,fun h=>absurd (List.mem_cons_self ..) h⟩
  ·rw[if_neg (fun h=>hk (U1.1 h))];refine⟨fun h=>(ih (i+1)).1 ((List.mem_cons.1 h).resolve_left hk),fun h=>(ih (i+1)).2 fun h'=>h (List.mem_cons_of_mem _ h')⟩
theorem lkB_kv (b:List UInt8)(ks:List (List UInt8)):lkB (VZ ks) (bs b)=decide (b∈ks):=by
 unfold lkB;by_cases h:b∈ks
 ·obtain⟨j,hj⟩:=(XL b ks 0).1 h;rw[hj,decide_eq_true h]; rfl
 ·rw[(XL b ks 0).2 h,decide_eq_false h]; rfl
def okL:List g_api_Leaf→List (List UInt8)→Bool
 | [],_=>true
 |x::r,ks=>(okBody x.Body&&okNum x.At&& !decide (x.Body∈ks))&&okL r (ks++[x.Body])
theorem Aam: ∀(xs:List g_api_Leaf) (ks:List (List UInt8)) (i:Int),Hc DX xs i (VZ ks)=some (if okL xs ks=true then .inl (VZ (ks++xs.map (·.Body)))else .inr 1):=by
 intro xs;induction xs with
 |nil=>intro ks i; simp[Hc,okL]
 |cons x xs ih=>
  intro ks i;have hb:DX i x (VZ ks)=some (if(okBody x.Body&&okNum x.At&& !decide (x.Body∈ks))=true then .inl (VZ (ks++[x.Body]))else .inr 1):=by
   unfold DX;rw[Ki,Ab,Jj,lkB_kv];cases h1:okBody x.Body with
   |false=>rfl
   |true=>
    cases h2:okNum x.At with
    |false=>rfl
    |true=>
     by_cases h3:x.Body∈ks
     ·rw[decide_eq_true h3]; rfl
     ·rw[decide_eq_false h3,show gu (!!true) (some true)=some true from rfl];simp only[Bool.not_true,Bool.false_eq_true,if_false,Ab,Bool.or_self,Bool.and_self,Bool.not_false,if_true];rw[(XL x.Body ks 0).2 h3];simp[VZ]
  have hc:okL (x::xs) ks=((okBody x.Body&&okNum x.At&& !decide (x.Body∈ks))&&okL xs (ks++[x.Body])):=rfl;simp only[Hc,hb,Ab];by_cases h:(okBody x.Body&&okNum x.At&& !decide (x.Body∈ks))=true
  ·have e:okL (x::xs) ks=okL xs (ks++[x.Body]):=by rw[hc,h,Bool.true_and]
   rw[if_pos h,e];dsimp only;rw[ih];simp
  ·have e:okL (x::xs) ks=false:=by rw[hc,Bool.not_eq_true _|>.mp h,Bool.false_and]
   rw[if_neg h,e]; rfl
def okH:List Int→Int→Int→Bool
 | [],_,_=>true
 |x::r,last,n=>(!decide (x≤last)&& !decide (n≤x))&&okH r x n
theorem Aal (l:Ak): ∀(xs:List Int) (last:Int) (i:Int),∃z,Hc (DW l) xs i last=some (if okH xs last (l.L.length:Int)=true then .inl z else .inr 1):=by
 intro xs;induction xs with
 |nil=>intro last i; exact⟨last,by simp[Hc,okH]⟩
 |cons x xs ih=>
  intro last i;obtain⟨z,hz⟩:=ih x (i+1);refine⟨z,?_⟩;have hb:DW l i x last=some (if(!decide (x≤last)&& !decide ((l.L.length:Int)≤x))=true then .inl x else .inr 1):=by
   unfold DW;by_cases h1:x≤last
   ·simp[h1]
   ·by_cases h2:(l.L.length:Int)≤x
    ·simp[h2]
    ·have h2': ¬(x≥(l.L.length:Int)):=h2;simp[h1,h2,h2']
  have hc:okH (x::xs) last (l.L.length:Int)=((!decide (x≤last)&& !decide ((l.L.length:Int)≤x))&&okH xs x (l.L.length:Int)):=rfl;simp only[Hc,hb,Ab];by_cases h:(!decide (x≤last)&& !decide ((l.L.length:Int)≤x))=true
  ·have e:okH (x::xs) last (l.L.length:Int)=okH xs x (l.L.length:Int):=by rw[hc,h,Bool.true_and]
   rw[if_pos h,e];exact hz
  ·have e:okH (x::xs) last (l.L.length:Int)=false:=by rw[hc,Bool.not_eq_true _|>.mp h,Bool.false_and]
   rw[if_neg h,e]; rfl
def Y4 (l:Ak):Bool:=okNum l.Id&& !decide (l.Key.toNat=0)&&decide (l.Key.toNat<1152921504606845789)&&decide (0≤l.Delay)&&decide (l.Delay≤1000)
def chk (l:Ak):Int:=if Y4 l=true then(if okL (l.L++l.Wait) []=true then(if okH l.Hide (-1) (l.L.length:Int)=true then(if 256<(l.L++l.Wait).length then 2 else 0)else 1)else 1)else 1
theorem Mn {l:Ak}(h:l.L.length+l.Wait.length≤100000):DC l=some (chk l):=by
 unfold DC;rw[Jj,Ab];have hc:(((((!okNum l.Id)||((l.Key.toNat:Int)==0))||(decide ((l.Key.toNat:Int)≥1152921504606845789)))||(decide (l.Delay<0)))||(decide (l.Delay>1000)))= !Y4 l:=by
  unfold Y4;rw[Bool.eq_iff_iff];cases okNum l.Id<;>simp<;>omega
 rw[hc];unfold chk;cases h0:Y4 l with
 |false=>rfl
 |true=>
  rw[Bool.not_true,if_neg (by decide),if_pos rfl,Sz h,Ab];have h3:=Aam (l.L++l.Wait) [] 0;rw[show VZ []=([]:List (ByteArray×Bool))from rfl]at h3;rw[h3,Ab];cases h1:okL (l.L++l.Wait) []with
  |false=>simp
  |true=>
   simp only[if_true];obtain⟨z,hz⟩:=Aal l l.Hide (-1) 0;rw[hz,Ab];cases h2:okH l.Hide (-1) (l.L.length:Int)with
   |false=>simp
   |true=>
    simp only[if_true];have hl:(VZ ([]++(l.L++l.Wait).map (·.Body))).length=(l.L++l.Wait).length:=by simp[VZ]
    rw[hl];by_cases h4:256<(l.L++l.Wait).length
    ·rw[if_pos h4,if_pos (by rw[decide_eq_true_eq]; omega)]
    ·rw[if_neg h4,if_neg (by rw[decide_eq_true_eq]; omega)]
end Go.Proofs.YtibojdgdjhngiaaGreatDoor
end
section
namespace Go.Proofs.YtibojdgdjhngiaaGreatDoor
open Go Go.Gw Go.Ax
theorem Z0 (n:Nat)(h:n≤1000000):BZ (n:Int)=some []:=by
 have hw:w64 ((n:Int)-(w64 (0-((0:Nat):Int))))=(n:Int):=by rw[D4 (n:=0-((0:Nat):Int)) (by omega) (by omega),D4 (by omega) (by omega)]; omega
 unfold BZ;rw[if_neg (by rw[decide_eq_true_eq]; omega),Ab,hw,DM];by_cases h0:n=0
 ·rw[if_neg (by simp; omega),Ab]
 ·rw[if_pos (by simp; omega),if_pos (by omega),Ab]
theorem TP: ∀(xs:List (List UInt8)) (i:Int) (n:Nat),n+xs.flatten.length≤1000000→CC Bx xs i (n:Int)=some ((n+xs.flatten.length:Nat):Int):=by
 intro xs;induction xs with
 |nil=>intro i n _; simp[CC]
 |cons x xs ih=>
  intro i n h;simp only[List.flatten_cons,List.length_append]at h;have hw:w64 ((n:Int)+(x.length:Int))=((n+x.length:Nat):Int):=by rw[D4 (by omega) (by omega)]; omega
  have hb:Bx i x (n:Int)=some ((n+x.length:Nat):Int):=by
   unfold Bx;rw[DM,hw,if_neg (by rw[decide_eq_true_eq]; omega),Ab]
  simp only[CC,hb,Ab];rw[ih _ _ (by omega),List.flatten_cons,List.length_append,Nat.add_assoc]
theorem TQ: ∀(xs:List (List UInt8)) (i:Int) (s:List UInt8),s.length+xs.flatten.length≤1000000→CC Bw xs i s=some (s++xs.flatten):=by
 intro xs;induction xs with
 |nil=>intro i s _; simp[CC]
 |cons x xs ih=>
  intro i s h;simp only[List.flatten_cons,List.length_append]at h;have hb:Bw i x s=some (s++x):=by
   unfold Bw;rw[JT 1 (by omega) (by omega),Ab]
  simp only[CC,hb,Ab];rw[ih _ _ (by rw[List.length_append]; omega),List.flatten_cons,List.append_assoc]
theorem Mm {xs:List (List UInt8)}(h:xs.flatten.length≤1000000):A0 xs=some xs.flatten:=by
 have h1:=TP xs 0 0 (by omega);rw[show((0:Nat):Int)=0 from rfl,Nat.zero_add]at h1;unfold A0;rw[h1,Ab,Ab,Z0 _ h,Ab,TQ xs 0 [] (by simpa using h),Ab,Ab,List.nil_append]
theorem msg_eq {w:ByteArray}{ps:List (List UInt8)}(hw:w.data.toList.length≤100)(h:ps.flatten.length≤100000):HU w ps=some (w.data.toList++ps.flatten):=by
 unfold HU;have h0:([]:List UInt8).length=0:=rfl;rw[JT 1 (by omega) (by omega),Ab,Mm (by omega),Ab,List.nil_append,JT 1 (by omega) (by omega),Ab]
def e8 (n:Int):List UInt8:=[toB (B1 n 56),toB (B1 n 48),toB (B1 n 40),toB (B1 n 32),toB (B1 n 24),toB (B1 n 16),toB (B1 n 8),toB (B1 n 0)]
theorem Sg (n:Int):C9 n=some (e8 n):=by
 unfold C9;simp[BE,Gs,idx,w64,DM,e8]
def Zw (p:g_api_Promise):List UInt8:=[112,114,111,109,105,115,101]++[e8 p.Log,e8 p.At,MH p.Leaf].flatten
def headB (h:Bn):List UInt8:=[104,101,97,100]++[e8 h.Log,e8 h.Size,MH h.Root,e8 h.At].flatten
theorem Abo (n:Int):(e8 n).length=8:=rfl
theorem MI (p:g_api_Promise):Dx p=some (Zw p):=by
 unfold Dx;rw[Sg,Ab,Sg,Ab,Aao,Ab,msg_eq (by decide) (by simp[Abo,OV]),Ab]; rfl
theorem RN (p:g_api_Promise):(Zw p).length≤600000:=by simp[Zw,Abo,OV]
def pleaf (b:List UInt8):UInt64×UInt64:=AaR ⟨#[108,101,97,102]⟩ [b]
theorem Mb {b:List UInt8}(h:b.length≤600000):Ee b=some (pleaf b):=by
 unfold Ee;rw[NO _ _ (by simp[Y3]; omega),Ab]; rfl
def findB:List g_api_Leaf→List UInt8→Nat→Option Nat
 | [],_,_=>none
 |x::r,b,i=>if x.Body=b then some i else findB r b (i+1)
theorem ZU (all:List g_api_Leaf)(b:List UInt8)(hl:all.length≤100000): ∀(xs:List g_api_Leaf) (i:Nat),all.drop i=xs→
  Ft (AH all) xs.length (i:Int) b=
   some (match findB xs b i with|some j=> .inr ((j:Int),b)|none=> .inl b):=by
 intro xs;induction xs with
 |nil=>intro i _; rfl
 |cons x xs ih=>
  intro i hd;have hx:idx all (i:Int)=some x:=Er (by
   have:(all.drop i)[0]? =some x:=by rw[hd]; rfl
   simpa using this)
  have hd':all.drop (i+1)=xs:=by rw[←List.drop_drop,hd]; rfl
  have hb:AH all (i:Int) b=some (if x.Body=b then .inr ((i:Int),b)else .inl b):=by
   unfold AH IJ HQ;rw[hx];simp only[Ab];by_cases h:x.Body=b
   ·rw[if_pos h,if_pos (U1.2 h)]
   ·rw[if_neg h,if_neg (fun q=>h (U1.1 q))]
  simp only[List.length_cons,Ft,hb,Ab,findB];by_cases h:x.Body=b
  ·rw[if_pos h,if_pos h]
  ·rw[if_neg h,if_neg h];exact ih (i+1) hd'
theorem Qz {all:List g_api_Leaf}{b:List UInt8}(hl:all.length≤100000):
  AZ all b=some (match findB all b 0 with|some j=>(j:Int)|none=> -1,b):=by
 have h:=ZU all b hl all 0 rfl;unfold AZ;rw[show(0:Int)=((0:Nat):Int)from rfl,h,Ab];cases findB all b 0<;>rfl
theorem VF: ∀{xs:List g_api_Leaf} {b:List UInt8} {i j:Nat},findB xs b i=some j→∃x,i≤j∧xs[j-i]? =some x∧x.Body=b:=by
 intro xs;induction xs with
 |nil=>intro b i j h; cases h
 |cons y xs ih=>
  intro b i j h;simp only[findB]at h;by_cases hy:y.Body=b
  ·rw[if_pos hy]at h;cases h;exact⟨y,Nat.le_refl _,by simp,hy⟩
  ·rw[if_neg hy]at h;obtain⟨x,h1,h2,h3⟩:=ih h;refine⟨x,by omega,?_,h3⟩;rw[show j-i=(j-(i+1))+1 from by omega];exact h2
theorem VG: ∀{xs:List g_api_Leaf} {b:List UInt8} {i:Nat},findB xs b i=none→∀x∈xs,x.Body≠b:=by
 intro xs;induction xs with
 |nil=>intro b i _ x hx; cases hx
 |cons y xs ih=>
  intro b i h x hx;simp only[findB]at h;by_cases hy:y.Body=b
  ·rw[if_pos hy]at h; cases h
  ·rw[if_neg hy]at h;rcases List.mem_cons.1 hx with rfl|hx
   ·exact hy
   ·exact ih h x hx
end Go.Proofs.YtibojdgdjhngiaaGreatDoor
end
section
namespace Go.Proofs.YtibojdgdjhngiaaGreatDoor
open Go Go.Gw Go.Ax
theorem IS {l:Ak}(h:chk l=0):Y4 l=true∧okL (l.L++l.Wait) []=true∧okH l.Hide (-1) (l.L.length:Int)=true∧(l.L++l.Wait).length≤256:=by
 unfold chk at h;cases h0:Y4 l with
 |false=>rw[h0]at h; simp at h
 |true=>
  cases h1:okL (l.L++l.Wait) []with
  |false=>rw[h0,h1]at h; simp at h
  |true=>
   cases h2:okH l.Hide (-1) (l.L.length:Int)with
   |false=>rw[h0,h1,h2]at h; simp at h
   |true=>
    rw[h0,h1,h2]at h;simp only[if_true]at h;by_cases h3:256<(l.L++l.Wait).length
    ·rw[if_pos h3]at h; cases h
    ·exact⟨rfl,rfl,rfl,by omega⟩
theorem YD {l:Ak}(h0:Y4 l=true)(h1:okL (l.L++l.Wait) []=true)(h2:okH l.Hide (-1) (l.L.length:Int)=true)(h3:(l.L++l.Wait).length≤256):chk l=0:=by
 unfold chk;rw[h0,h1,h2];simp only[if_true];rw[if_neg (by omega)]
theorem Aa7 {l:Ak}(h:Y4 l=true):1≤l.Key.toNat∧l.Key.toNat<GR∧okNum l.Id=true:=by
 unfold Y4 at h;simp only[Bool.and_eq_true,Bool.not_eq_true',decide_eq_true_eq,decide_eq_false_iff_not]at h;simp only[GR];exact⟨by omega,by omega,h.1.1.1.1⟩
theorem Aci: ∀(xs:List g_api_Leaf) (ks:List (List UInt8)) (x:g_api_Leaf),okL (xs++[x]) ks=(okL xs ks&&(okBody x.Body&&okNum x.At&& !decide (x.Body∈ks++xs.map (·.Body)))):=by
 intro xs;induction xs with
 |nil=>intro ks x; simp[okL]
 |cons y xs ih=>
  intro ks x;show((okBody y.Body&&okNum y.At&& !decide (y.Body∈ks))&&okL (xs++[x]) (ks++[y.Body]))=(((okBody y.Body&&okNum y.At&& !decide (y.Body∈ks))&&okL xs (ks++[y.Body]))&&_);rw[ih,Bool.and_assoc];simp[Bool.and_assoc]
theorem UC: ∀{xs:List g_api_Leaf} {ks:List (List UInt8)},okL xs ks=true→∀x∈xs,x.Body.length≤2048:=by
 intro xs;induction xs with
 |nil=>intro ks _ x hx; cases hx
 |cons y xs ih=>
  intro ks h x hx;have h':((okBody y.Body&&okNum y.At&& !decide (y.Body∈ks))&&okL xs (ks++[y.Body]))=true:=h;rw[Bool.and_eq_true,Bool.and_eq_true,Bool.and_eq_true]at h';rcases List.mem_cons.1 hx with rfl|hx
  ·have:=h'.1.1.1;unfold okBody at this;simp at this;exact this.2
  ·exact ih h'.2 x hx
theorem ZC: ∀{xs:List Int} {last n m:Int},n≤m→okH xs last n=true→okH xs last m=true:=by
 intro xs;induction xs with
 |nil=>intro last n m _ _; rfl
 |cons x xs ih=>
  intro last n m hnm h;have h':((!decide (x≤last)&& !decide (n≤x))&&okH xs x n)=true:=h;show((!decide (x≤last)&& !decide (m≤x))&&okH xs x m)=true;rw[Bool.and_eq_true,Bool.and_eq_true]at h'⊢;refine⟨⟨h'.1.1,?_⟩,ih hnm h'.2⟩;have:=h'.1.2;simp at this⊢;omega
def pubOf (l:Ak):Cc:=⟨l.Id,pubK l.Key,l.Delay⟩
def Ji (l:Ak)(t:Int)(b:List UInt8):g_api_Promise:=⟨l.Id,t,pleaf b,AbQ l.Key (Zw ⟨l.Id,t,pleaf b,⟨0,0⟩⟩)⟩
def Q5 (l:Ak)(b:List UInt8)(t:Int):Ak:=⟨l.Id,l.Key,l.Delay,l.L,l.Hide,l.Wait++[⟨b,t⟩]⟩
def merged (l:Ak):Ak:=⟨l.Id,l.Key,l.Delay,l.L++l.Wait,l.Hide,[]⟩
def AbF:Ak:=⟨0,0,0,[],[],[]⟩
def AbE:g_api_Promise:=⟨0,0,(0,0),⟨0,0⟩⟩
theorem Adq {l:Ak}{b:List UInt8}{now:Int}(hl:l.L.length+l.Wait.length≤100000)(h:chk l=0)(ha:(okBody b&&okNum now)=false):B8 l b now=some (AbF,AbE,1):=by
 unfold B8;rw[Mn hl,Ab,h,if_neg (by decide),Ki,Ab,Jj];cases h1:okBody b with
 |false=>rfl
 |true=>
  rw[h1,Bool.true_and]at ha;rw[ha]; rfl
theorem Of {l:Ak}{b:List UInt8}{now:Int}{j:Nat}{x:g_api_Leaf}(hl:l.L.length+l.Wait.length≤100000)(h:chk l=0)(ha:(okBody b&&okNum now)=true)(hj:findB (l.L++l.Wait) b 0=some j)(hx:(l.L++l.Wait)[j]? =some x):
  B8 l b now=some (l,Ji l x.At b,0):=by
 obtain⟨k1,k2,k3⟩:=Aa7 (IS h).1;rw[Bool.and_eq_true]at ha;have hbl:b.length≤600000:=by have:=ha.1; unfold okBody at this; simp at this; omega
 unfold B8;rw[Mn hl,Ab,h,if_neg (by decide),Ki,Ab,Jj,ha.1,ha.2];rw[show gu (!!true) (some true)=some true from rfl,Ab,if_neg (show¬((!true)||(!true))=true by decide),Sz hl,Ab,Qz (by simp; omega),hj,Ab];dsimp only;rw[if_pos (decide_eq_true (show(j:Int)≥0 from Int.natCast_nonneg j)),Er hx,Ab,Mb hbl,Ab,MI,Ab,Wx k1 k2 (RN _),Ab]; rfl
theorem Aaw {l:Ak}{b:List UInt8}{now:Int}(hl:l.L.length+l.Wait.length≤100000)(h:chk l=0)(ha:(okBody b&&okNum now)=true)(hj:findB (l.L++l.Wait) b 0=none)(hn:(l.L++l.Wait).length=256):
  B8 l b now=some (AbF,AbE,2):=by
 rw[Bool.and_eq_true]at ha;unfold B8;rw[Mn hl,Ab,h,if_neg (by decide),Ki,Ab,Jj,ha.1,ha.2];rw[show gu (!!true) (some true)=some true from rfl,Ab,if_neg (show¬((!true)||(!true))=true by decide),Sz hl,Ab,Qz (by simp; omega),hj,Ab];dsimp only;rw[if_neg (by simp),if_pos (by rw[hn]; rfl)]; rfl
theorem Adp {l:Ak}{b:List UInt8}{now:Int}(hl:l.L.length+l.Wait.length≤100000)(h:chk l=0)(ha:(okBody b&&okNum now)=true)(hj:findB (l.L++l.Wait) b 0=none)(hn:(l.L++l.Wait).length≠256):
  B8 l b now=some (Q5 l b now,Ji l now b,0):=by
 obtain⟨k1,k2,k3⟩:=Aa7 (IS h).1;rw[Bool.and_eq_true]at ha;have hbl:b.length≤600000:=by have:=ha.1; unfold okBody at this; simp at this; omega
 have hnil:([]:List g_api_Leaf).length=0:=rfl;have hnb:([]:List UInt8).length=0:=rfl;unfold B8;rw[Mn hl,Ab,h,if_neg (by decide),Ki,Ab,Jj,ha.1,ha.2];rw[show gu (!!true) (some true)=some true from rfl,Ab,if_neg (show¬((!true)||(!true))=true by decide),Sz hl,Ab,Qz (by simp; omega),hj,Ab];dsimp only;rw[if_neg (by simp),if_neg (by rw[beq_iff_eq]; omega)];unfold By GG;rw[JT 32 (by omega) (by omega),Ab,Ab,JT 1 (by omega) (by omega),Ab,Ab,List.nil_append,List.nil_append,JT 32 (by simp; omega) (by simp; omega),Ab,Mb hbl,Ab,MI,Ab,Wx k1 k2 (RN _),Ab]; rfl
theorem YC {l:Ak}{b:List UInt8}{now:Int}(h:chk l=0)(ha:(okBody b&&okNum now)=true)(hj:findB (l.L++l.Wait) b 0=none)(hn:(l.L++l.Wait).length≠256):chk (Q5 l b now)=0:=by
 obtain⟨h0,h1,h2,h3⟩:=IS h;have e:(Q5 l b now).L++(Q5 l b now).Wait=(l.L++l.Wait)++[⟨b,now⟩]:=by simp[Q5]
 refine YD h0 ?_ h2 ?_
 ·rw[e,Aci,h1,Bool.true_and,List.nil_append];rw[ha,Bool.true_and,Bool.not_eq_true',decide_eq_false_iff_not];intro hm;obtain⟨x,hx,hxb⟩:=List.mem_map.1 hm;exact VG hj x hx hxb
 ·rw[e,List.length_append]; simp at h3 hn⊢; omega
theorem O8 {l:Ak}(h:chk l=0):chk (merged l)=0:=by
 obtain⟨h0,h1,h2,h3⟩:=IS h;have e:(merged l).L++(merged l).Wait=l.L++l.Wait:=by simp[merged]
 refine YD h0 (by rw[e]; exact h1) ?_ (by rw[e]; exact h3);refine ZC ?_ h2;show(l.L.length:Int)≤((l.L++l.Wait).length:Int);simp; omega
theorem ZK {l:Ak}(hl:l.L.length+l.Wait.length≤100000)(h:chk l=0):F5 l=some (merged l,0):=by
 unfold F5;rw[Mn hl,Ab,h,if_neg (by decide),Sz hl,Ab]; rfl
def headOf (l:Ak)(n:Int)(r:UInt64×UInt64)(t:Int):Bn:=⟨l.Id,n,r,t,AbQ l.Key (headB ⟨l.Id,n,r,t,⟨0,0⟩⟩)⟩
end Go.Proofs.YtibojdgdjhngiaaGreatDoor
end
section
namespace Go.Proofs.YtibojdgdjhngiaaGreatDoor
open Go Go.Gw Go.Ax
abbrev Sm:=UInt64×UInt64
def hp (n:Nat):Nat:=2^Nat.log2 (n-1)
theorem ZX {n:Nat}(h:2≤n):hp n<n:=by
 have:=Nat.log2_self_le (n:=n-1) (by omega);unfold hp; omega
theorem UM (n:Nat):0<hp n:=Nat.two_pow_pos _
def P7 (l:List Sm):Sm:=if h:l.length≤1 then l.headD default else RO (P7 (l.take (hp l.length))) (P7 (l.drop (hp l.length)))
termination_by l.length
decreasing_by
 ·have:=ZX (n:=l.length) (by omega); simp; omega
 ·have:=UM l.length; simp; omega
def AaW:List Sm→List Sm
 |x::y::l=>RO x y::AaW l
 |_=> []
def red:Nat→List Sm→List Sm
 |0,l=>l
 |j+1,l=>red j (AaW l)
end Go.Proofs.YtibojdgdjhngiaaGreatDoor
end
section
namespace Go.Proofs.YtibojdgdjhngiaaGreatDoor
open Go Go.Gw Go.Ax
def partsL:Nat→List Sm→List Aq
 |0,_=> []
 |n+1,l=>if l.length=0 then []else⟨((2^Nat.log2 l.length:Nat):Int),P7 (l.take (2^Nat.log2 l.length))⟩::partsL n (l.drop (2^Nat.log2 l.length))
def pcoll:List Aq→Aq→Option (Bool×List Aq):=fun s b0=>Ad (AK b0 s) fun y=>some (true,y)
def foldP:List Aq→Sm
 | []=>default
 | [p]=>p.root_
 |p::q::ps=>RO p.root_ (foldP (q::ps))
def rootP (l:List Sm):Sm:=if l.length=0 then AaR ⟨#[101,109,112,116,121]⟩ []else P7 l
end Go.Proofs.YtibojdgdjhngiaaGreatDoor
end
section
namespace Go.Proofs.YtibojdgdjhngiaaGreatDoor
open Go Go.Gw Go.Ax
def TN (a l:Nat):List Bool:=if h:l=0 then []else if a%2=1 then true::TN (a/2) (l/2)else if a=l then TN (a/2) (l/2)else false::TN (a/2) (l/2)
termination_by l
decreasing_by all_goals omega
theorem Sj (a:Nat):TN a 0=[]:=by rw[TN]; simp
theorem UU {a l:Nat}(h:l≠0)(h1:a%2=1):TN a l=true::TN (a/2) (l/2):=by rw[TN,dif_neg h,if_pos h1]
theorem Yr {a:Nat}(h:a≠0)(h1:a%2=0):TN a a=TN (a/2) (a/2):=by rw[TN,dif_neg h,if_neg (by omega),if_pos rfl]
theorem VK {a l:Nat}(h:l≠0)(h1:a%2=0)(h2:a≠l):TN a l=false::TN (a/2) (l/2):=by rw[TN,dif_neg h,if_neg (by omega),if_neg h2]
def pop:Nat→Nat→Nat
 |0,_=>0
 |k+1,n=>n%2+pop k (n/2)
theorem pop_up: ∀(k n:Nat),n<2^k→pop (k+1) n=pop k n:=by
 intro k;induction k with
 |zero=>
   intro n h; have:n=0:=by simp at h; omega
   subst this; rfl
 |succ k ih=>
  intro n h;have e1:2^ (k+1)=2*2^k:=by rw[Nat.pow_succ]; omega
  have:=ih (n/2) (by omega);rw[pop,this,pop]
def bits (n:Nat):Nat:=if n=0 then 0 else Nat.log2 n+1
theorem YJ {n:Nat}(h:n≠0):bits n=bits (n/2)+1:=by
 unfold bits;rw[if_neg h];by_cases h1:n/2=0
 ·have:n=1:=by omega
  subst this; rfl
 ·rw[if_neg h1,Nat.log2_def,if_pos (by omega)]
theorem Za (a b:Nat):(a^^^b)/2=a/2^^^b/2:=by
 have:=Nat.shiftRight_xor_distrib (a:=a) (b:=b) (i:=1);rw[Nat.shiftRight_eq_div_pow,Nat.shiftRight_eq_div_pow,Nat.shiftRight_eq_div_pow]at this;exact this
theorem Y9 {a b:Nat}:a^^^b=0↔a=b:=by
 constructor
 ·intro h;apply Nat.eq_of_testBit_eq;intro i;have:=congrArg (fun x=>Nat.testBit x i) h;simp at this;exact this
 ·intro h; subst h; simp
theorem count: ∀(k a l:Nat),a≤l→l<2^k→bits (a^^^l)+pop k (a>>>bits (a^^^l))=(TN a l).length:=by
 intro k;induction k with
 |zero=>
  intro a l h1 h2;have:l=0:=by simp at h2; omega
  have:a=0:=by omega
  subst this;subst l;simp[Sj,pop,bits]
 |succ k ih=>
  intro a l h1 h2;have e1:2^ (k+1)=2*2^k:=by rw[Nat.pow_succ]; omega
  have:=ih (a/2) (l/2) (by omega) (by omega);by_cases hl:l=0
  ·have:a=0:=by omega
   subst this;subst l;have hz: ∀k,pop k 0=0:=by intro k; induction k with|zero=>rfl|succ k ih=>simp[pop,ih]
   simp[Sj,bits,hz]
  ·by_cases he:a=l
   ·subst he;simp only[Nat.xor_self]at this⊢;rw[show bits 0=0 from rfl]at this⊢;simp only[Nat.shiftRight_zero,Nat.zero_add]at this⊢;rw[pop];by_cases ho:a%2=1
    ·rw[UU hl ho,List.length_cons,←this]; omega
    ·rw[Yr hl (by omega),←this]; omega
   ·have hx:a^^^l≠0:=fun h=>he (Y9.1 h);rw[YJ hx,Za];have hsh:a>>>(bits (a/2^^^l/2)+1)=(a/2)>>>bits (a/2^^^l/2):=by
     rw[Nat.add_comm,Nat.shiftRight_add,Nat.shiftRight_eq_div_pow a 1]
    have hlt:(a/2)>>>bits (a/2^^^l/2)<2^k:=by
     have:(a/2)>>>bits (a/2^^^l/2)≤a/2:=by rw[Nat.shiftRight_eq_div_pow]; exact Nat.div_le_self _ _
     omega
    rw[hsh,pop_up _ _ hlt];by_cases ho:a%2=1
    ·rw[UU hl ho,List.length_cons,←this]; omega
    ·rw[VK hl (by omega) he,List.length_cons,←this]; omega
def goD {σ:Type}(f g:σ→Sm→σ):List Bool→List Sm→σ→σ
 |d::ds,p::ps,x=>goD f g ds ps (if d then f x p else g x p)
 |_,_,x=>x
def lead (ds:List Bool)(ps:List Sm)(x:Sm):Sm:=goD (fun x p=>RO p x) (fun x p=>RO x p) ds ps x
end Go.Proofs.YtibojdgdjhngiaaGreatDoor
end
section
namespace Go.Proofs.YtibojdgdjhngiaaGreatDoor
open Go Go.Gw Go.Ax
def wayR (l:List Sm)(a:Nat):List Sm:=if h:l.length≤1 then []else if a<hp l.length then wayR (l.take (hp l.length)) a++[P7 (l.drop (hp l.length))]else wayR (l.drop (hp l.length)) (a-hp l.length)++[P7 (l.take (hp l.length))]
termination_by l.length
decreasing_by
 ·have:=ZX (n:=l.length) (by omega); simp; omega
 ·have:=UM l.length; simp; omega
def Aaz (l:List Sm)(f:Nat)(Mc:Bool):List Sm:=if f=l.length then(if Mc then []else [P7 l])else if h:l.length≤1 then []else if f≤hp l.length then Aaz (l.take (hp l.length)) f Mc++[P7 (l.drop (hp l.length))]else Aaz (l.drop (hp l.length)) (f-hp l.length) false++[P7 (l.take (hp l.length))]
termination_by l.length
decreasing_by
 ·have:=ZX (n:=l.length) (by omega); simp; omega
 ·have:=UM l.length; simp; omega
def gd (f s:Nat)(Mc:Bool):Bool×List Bool:=if h:s≤1∨f=s then(!Mc,[])else if f≤hp s then((gd f (hp s) Mc).1,(gd f (hp s) Mc).2++[false])else((gd (f-hp s) (s-hp s) false).1,(gd (f-hp s) (s-hp s) false).2++[true])
termination_by s
decreasing_by
 all_goals first|exact ZX (by omega)|(have:=UM s; omega)
def both (ds:List Bool)(ps:List Sm)(x:Sm×Sm):Sm×Sm:=goD (fun x p=>(RO p x.1,RO p x.2)) (fun x p=>(x.1,RO x.2 p)) ds ps x
def Uj (e:Bool)(a:Sm)(ps:List Sm):Sm:=if e then ps.headD default else a
def restG (e:Bool)(ps:List Sm):List Sm:=if e then ps.tail else ps
def growC (f s:Nat)(a b:Sm)(ps:List Sm):Int:=if ps.length=(gd f s true).2.length+(if(gd f s true).1 then 1 else 0)then(if both (gd f s true).2 (restG (gd f s true).1 ps) (Uj (gd f s true).1 a ps,Uj (gd f s true).1 a ps)=(a,b)then 0 else 71)else 80
end Go.Proofs.YtibojdgdjhngiaaGreatDoor
end
section
namespace Go.Proofs.YtibojdgdjhngiaaGreatDoor
open Go Go.Gw Go.Ax
theorem Hf {α:Type} [Inhabited α]{c:Bool}(o:Option α)(h:c=true):gu c o=o:=by rw[h]; rfl
theorem gu_f {α:Type} [Inhabited α]{c:Bool}(o:Option α)(h:c=false):gu c o=some default:=by rw[h]; rfl
def bothG (f s:Nat)(Mc:Bool)(a:Sm)(ps:List Sm):Sm×Sm:=both (gd f s Mc).2 (restG (gd f s Mc).1 ps) (Uj (gd f s Mc).1 a ps,Uj (gd f s Mc).1 a ps)
end Go.Proofs.YtibojdgdjhngiaaGreatDoor
end
section
namespace Go.Gw
open Go
theorem XX {σ τ:Type}{step:σ→Option (σ⊕τ)}{T:τ→Prop}(I:Nat→σ→Prop)(n:Nat)(h: ∀i s,i≤n→I i s→(∃t,step s=some (.inr t)∧T t)∨(i<n∧∃s',step s=some (.inl s')∧I (i+1) s')):
  ∀k i s,i+k=n→I i s→∃t,iter step (k+1) s=some t∧T t:=by
 intro k;induction k with
 |zero=>
  intro i s hk hi;rcases h i s (by omega) hi with ⟨t,h1,h2⟩|⟨h1,_⟩
  ·exact⟨t,by simp only[iter,h1,Ab],h2⟩
  ·omega
 |succ k ih=>
  intro i s hk hi;rcases h i s (by omega) hi with ⟨t,h1,h2⟩|⟨_,s',h1,h2⟩
  ·exact⟨t,by simp only[iter,h1,Ab],h2⟩
  ·obtain⟨t,h3,h4⟩:=ih (i+1) s' (by omega) h2;exact⟨t,by rw[iter,h1,Ab]; exact h3,h4⟩
theorem XY {σ τ:Type}{step:σ→Option (σ⊕τ)}{T:τ→Prop}(I:Nat→σ→Prop)(n:Nat)(hn:n<1000000000000000000){s0:σ}(h0:I 0 s0)(h: ∀i s,i≤n→I i s→(∃t,step s=some (.inr t)∧T t)∨(i<n∧∃s',step s=some (.inl s')∧I (i+1) s')):
  ∃t,iter step C3 s0=some t∧T t:=by
 obtain⟨t,h1,h2⟩:=XX I n h n 0 s0 (by omega) h0;exact⟨t,R3 h1 (by unfold C3; omega),h2⟩
theorem Abc {α:Type}{xs:List α}{i:Nat}(h:i<xs.length):idx xs (i:Int)=some xs[i]:=by
 unfold idx; rw[if_pos (Int.natCast_nonneg i),Int.toNat_natCast]; simp[h]
theorem idx_of {α:Type}{xs:List α}{i:Nat}{x:α}(h:xs[i]? =some x):idx xs (i:Int)=some x:=by
 unfold idx; rw[if_pos (Int.natCast_nonneg i),Int.toNat_natCast]; exact h
theorem Zd {i:Nat}(h:i<9223372036854775807):w64 ((i:Int)+1)=((i+1:Nat):Int):=by rw[D4 (by omega) (by omega)]; omega
end Go.Gw
end
section
namespace Go.Proofs.YtibojdgdjhngiaaGreatDoor
open Go Go.Gw Go.Ax
def hid (hd:List Int)(i:Nat):Bool:=match hd with| []=>false|h::_=>decide (h=(i:Int))
def cur (v h:Bool)(b:List UInt8):UInt64×UInt64:=if(v&&h)=true then pleaf (0::b)else pleaf b
def nxt (hd:List Int)(i:Nat):List Int:=if hid hd i=true then hd.tail else hd
def lv (v:Bool):List Int→List g_api_Leaf→Nat→List (UInt64×UInt64)
 |_,[],_=> []
 |hd,x::xs,i=>cur v (hid hd i) x.Body::lv v (nxt hd i) xs (i+1)
theorem Ty {l:Ak}{v:Bool}{a1:Int}(hv:(a1==1)=v){i:Nat}{x:g_api_Leaf}(hx:l.L[i]? =some x)(hb:x.Body.length≤2048){hd:List Int}{out:List (UInt64×UInt64)}(ho:out.length≤100000):
  CY l a1 (i:Int) (hd,out)=some (nxt hd i,out++[cur v (hid hd i) x.Body]):=by
 have hbl:x.Body.length≤600000:=by omega
 have hnil: ∀y:UInt64×UInt64,app 16 out [y]=some (out++[y]):=fun y=>JT 16 (by simp; omega) (by simp; omega);unfold CY;rw[idx_of hx,Ab];dsimp only;cases hd with
 |nil=>
  have e0:decide ((([]:List Int).length:Int)>0)=false:=rfl;rw[e0,gu_f _ rfl,Ab,Bool.false_and,if_neg Bool.false_ne_true,Ab,Mb hbl,Ab,hnil,Ab];simp[nxt,hid,cur]
 |cons a hd=>
  have e1:idx (a::hd) 0=some a:=rfl;have e0:decide (((a::hd).length:Int)>0)=true:=by first|(simp; done)|(simp; omega)
  rw[e0,Hf _ rfl,e1,Ab,Bool.true_and];by_cases ha:a=(i:Int)
  ·have hc:cut (a::hd) 1 ((a::hd).length:Int)=some hd:=by
    have:=Sk (xs:=a::hd) (lo:=1) (hi:=(a::hd).length) (by simp) (by omega);rw[show((1:Nat):Int)=1 from rfl]at this;rw[this]; simp[List.take_of_length_le]
   rw[if_pos (by simpa using ha),hc,Ab,hv];have hh:hid (a::hd) i=true:=by simp[hid,ha]
   cases v with
   |true=>
    rw[if_pos rfl,Mm (by simp; omega),Ab,Ab];dsimp only;have:([[0],x.Body]:List (List UInt8)).flatten=0::x.Body:=by simp
    rw[this,Mb (by simp; omega),Ab,hnil,Ab];simp[nxt,hh,cur]
   |false=>
    rw[if_neg (by decide),Ab];dsimp only;rw[Mb hbl,Ab,hnil,Ab];simp[nxt,hh,cur]
  ·rw[if_neg (by simpa using ha),Ab];dsimp only;have hh:hid (a::hd) i=false:=by simp[hid,ha]
   rw[Mb hbl,Ab,hnil,Ab];simp[nxt,hh,cur]
theorem VA {l:Ak}{v:Bool}{a1:Int}(hv:(a1==1)=v)(hb: ∀x∈l.L,x.Body.length≤2048)(hl:l.L.length≤100000): ∀(k i:Nat) (hd:List Int) (out:List (UInt64×UInt64)),i+k=l.L.length→out.length=i→
  ∃hd',BE (CY l a1) k (i:Int) (hd,out)=some (hd',out++lv v hd (l.L.drop i) i):=by
 intro k;induction k with
 |zero=>
  intro i hd out h ho;have:l.L.drop i=[]:=List.drop_eq_nil_of_le (by omega);exact⟨hd,by rw[this]; simp[BE,lv]⟩
 |succ k ih=>
  intro i hd out h ho;have hlt:i<l.L.length:=by omega
  have hs:=Ty (l:=l) hv (i:=i) (x:=l.L[i]) (by simp[hlt]) (hb _ (List.getElem_mem hlt)) (hd:=hd) (out:=out) (by omega);obtain⟨hd2,h2⟩:=ih (i+1) (nxt hd i) (out++[cur v (hid hd i) l.L[i].Body]) (by omega) (by simp; omega);refine⟨hd2,?_⟩;simp only[BE,hs,Ab];rw[show(i:Int)+1=((i+1:Nat):Int)from rfl,h2,List.drop_eq_getElem_cons hlt,lv,List.append_assoc]; rfl
def XR (v:Bool)(l:Ak):List (UInt64×UInt64):=lv v l.Hide l.L 0
theorem VB {l:Ak}(hl:l.L.length+l.Wait.length≤100000)(h:chk l=0)(v:Bool):Eg l (if v=true then 1 else 0)=some (XR v l,0):=by
 obtain⟨h0,h1,h2,h3⟩:=IS h;have hv:((if v=true then(1:Int)else 0)==1)=v:=by cases v<;>rfl
 obtain⟨hd,he⟩:=VA (l:=l) hv (fun x hx=>UC h1 x (List.mem_append_left _ hx)) (by omega) l.L.length 0 l.Hide [] (by omega) rfl;have he':BE (CY l (if v=true then 1 else 0)) l.L.length 0 (l.Hide,[])=_:=he;unfold Eg;rw[Mn hl,Ab,h,if_neg (by decide),if_neg (by cases v<;>decide),he',Ab,Ab];simp[XR]
theorem okH_up {a b n:Int}: ∀{xs:List Int},okH xs a n=true→(∀x,xs.head? =some x→b<x)→okH xs b n=true:=by
 intro xs h hb;cases xs with
 |nil=>rfl
 |cons x r=>
  simp only[okH,Bool.and_eq_true,Bool.not_eq_true',decide_eq_false_iff_not]at h⊢;have:=hb x rfl;exact⟨⟨by omega,h.1.2⟩,h.2⟩
theorem RP {n:Int}{hd:List Int}{i:Nat}(h:okH hd ((i:Int)-1) n=true):okH (nxt hd i) (((i+1:Nat):Int)-1) n=true:=by
 have e1:((i+1:Nat):Int)-1=(i:Int):=by omega
 rw[e1];unfold nxt;cases hd with
 |nil=>simp[hid,okH]
 |cons x r=>
  have h':=h;simp only[okH,Bool.and_eq_true,Bool.not_eq_true',decide_eq_false_iff_not]at h';by_cases e:x=(i:Int)
  ·rw[if_pos (by simp[hid,e]),List.tail_cons,←e]; exact h'.2
  ·rw[if_neg (by simp[hid,e])];exact okH_up h fun y hy=>by simp at hy; subst hy; omega
end Go.Proofs.YtibojdgdjhngiaaGreatDoor
end
section
namespace Go.Proofs.YtibojdgdjhngiaaGreatDoor
open Go Go.Gw Go.Ax
structure VT (l:Ak)(b:List UInt8)(now:Int)(l':Ak)(t:Int):Prop where
 was:chk l=0
 holds:chk l'=0
 body:okBody b=true
 num:okNum now=true
 at_:okNum t=true
 L:l'.L=l.L
 Id:l'.Id=l.Id
 Key:l'.Key=l.Key
 Hide:l'.Hide=l.Hide
 few:l'.Wait.length≤l.Wait.length+1
 there: ∃(j:Nat) (x:g_api_Leaf),findB (l'.L++l'.Wait) b 0=some j∧(l'.L++l'.Wait)[j]? =some x∧x.At=t∧x.Body=b
theorem VT.prom {l l':Ak}{b:List UInt8}{now t:Int}(A:VT l b now l' t):Ji l' t b=Ji l t b:=by
 unfold Ji; rw[A.Id,A.Key]
theorem VT.again {l l':Ak}{b:List UInt8}{now t:Int}(A:VT l b now l' t)(hl:l.L.length+l.Wait.length≤90000){then_:Int}(ht:okNum then_=true):
  B8 l' b then_=some (l',Ji l t b,0):=by
 obtain⟨j,x,h1,h2,h3,h4⟩:=A.there;have:=A.few;rw[←A.prom,←h3];exact Of (by rw[A.L]; omega) A.holds (by rw[A.body,ht]; rfl) h1 h2
theorem VT.merged {l l':Ak}{b:List UInt8}{now t:Int}(A:VT l b now l' t)(hl:l.L.length+l.Wait.length≤90000){then_:Int}(ht:okNum then_=true):
  B8 (merged l') b then_=some (merged l',Ji l t b,0):=by
 obtain⟨j,x,h1,h2,h3,h4⟩:=A.there;have:=A.few;have e:(Go.Proofs.YtibojdgdjhngiaaGreatDoor.merged l').L++(Go.Proofs.YtibojdgdjhngiaaGreatDoor.merged l').Wait=l'.L++l'.Wait:=by simp[Go.Proofs.YtibojdgdjhngiaaGreatDoor.merged]
 have hp:Ji (Go.Proofs.YtibojdgdjhngiaaGreatDoor.merged l') t b=Ji l' t b:=rfl;rw[←A.prom,←hp,←h3];refine Of ?_ (O8 A.holds) (by rw[A.body,ht]; rfl) (by rw[e]; exact h1) (by rw[e]; exact h2);have:(Go.Proofs.YtibojdgdjhngiaaGreatDoor.merged l').L.length+(Go.Proofs.YtibojdgdjhngiaaGreatDoor.merged l').Wait.length=l'.L.length+l'.Wait.length:=by simp[Go.Proofs.YtibojdgdjhngiaaGreatDoor.merged]
 rw[this,A.L]; omega
end Go.Proofs.YtibojdgdjhngiaaGreatDoor
end
section
namespace Go.Proofs.YtibojdgdjhngiaaGreatDoor
open Go Go.Gw Go.Ax
def Tot {α:Type}(x:Option α):Prop:= ∃r,x=some r
theorem tot {α:Type}(r:α):Tot (some r):=⟨r,rfl⟩
theorem C4 {α β:Type}{x:Option α}{k:α→Option β}(h:Tot x)(hk: ∀a,x=some a→Tot (k a)):Tot (Ad x k):=by
 obtain⟨a,h⟩:=h;rw[h]; exact hk a h
theorem NK {α:Type} [Inhabited α]{b:Bool}{x:Option α}(h:b=true→Tot x):Tot (gu b x):=by
 cases b with
 |true=>exact h rfl
 |false=>exact tot default
theorem NJ {α:Type}{b:Bool}{x y:Option α}(h1:b=true→Tot x)(h0:b=false→Tot y):Tot (if b=true then x else y):=by
 cases b with
 |true=>exact h1 rfl
 |false=>exact h0 rfl
theorem AbL {α:Type}{c:Prop} [Decidable c]{x y:Option α}(h1:c→Tot x)(h0: ¬c→Tot y):Tot (if c then x else y):=by
 split
 ·exact h1 ‹_›
 ·exact h0 ‹_›
theorem Nh {σ τ:Type}{step:σ→Option (σ⊕τ)}(μ:σ→Nat)(I:σ→Prop)(Q:τ→Prop)
  (h: ∀s,I s→∃r,step s=some r∧(∀s',r= .inl s'→I s'∧μ s'<μ s)∧∀t,r= .inr t→Q t): ∀n s,I s→μ s<n→∃t,iter step n s=some t∧Q t
 |0,s,_,hn=>by omega
 |n+1,s,hI,hn=>by
  obtain⟨r,h1,h2,h3⟩:=h s hI;cases r with
  |inr t=>exact⟨t,by show Ad (step s) _=_; rw[h1]; rfl,h3 t rfl⟩
  |inl s'=>
   obtain⟨i',lt⟩:=h2 s' rfl;obtain⟨t,e,q⟩:=Nh μ I Q h n s' i' (by omega);exact⟨t,by show Ad (step s) _=_; rw[h1]; exact e,q⟩
theorem O6 (s:ByteArray)(i:Nat):1≤(Utf8.decode s i).2:=by
 unfold Utf8.decode;simp only;repeat' split
 all_goals simp
theorem GK:9223372036854775808≤C3:=Nat.le_of_ble_eq_true rfl
theorem Wq (c:Int):HP c=some (decide (c≤32)||decide (c>126)):=rfl
theorem QA (s:ByteArray)(b:Bool)(hs:s.size<9223372036854775808):Tot (Cm s b):=by
 unfold Cm;refine C4 ?_ fun a _=> ?_
 ·obtain⟨t,e,_⟩:=Nh (step:=BY s b) (fun i=>s.size-i) (fun _=>True) (fun _=>True) (fun i _=>by
   unfold BY;by_cases hi:i<s.size
   ·rw[if_pos hi];simp only[bnd,Wq,Ab];split
    ·exact⟨_,rfl,fun s' h=>(by cases h),fun _ _=>trivial⟩
    ·refine⟨_,rfl,fun s' h=> ?_,fun _ _=>trivial⟩;cases h;have:=O6 s i;exact⟨trivial,by omega⟩
   ·rw[if_neg hi];exact⟨_,rfl,fun s' h=>(by cases h),fun _ _=>trivial⟩) C3 0 trivial (by have:=GK; omega)
  exact⟨t,e⟩
 ·cases a with
  |inl _=>exact tot _
  |inr _=>exact tot _
theorem Zf (s:ByteArray):Tot (DJ s):=by
 unfold DJ;refine C4 (NK fun h=> ?_) fun a _=>tot _;simp only[Bool.and_eq_true,decide_eq_true_eq]at h;unfold Cs CT;refine C4 (C4 (QA s true (by omega)) fun a _=>tot _) fun a _=>tot _
theorem Wo {s:ByteArray}{b:Bool}(h:DJ s=some b):b=true→eqS s (⟨#[]⟩:ByteArray)=false∧s.size≤64:=by
 unfold DJ at h;obtain⟨x,_,h⟩:=Aa h;have h:=Option.some.inj (Ba h);intro hb;rw[hb]at h;simp only[Bool.and_eq_true,Bool.not_eq_true',decide_eq_true_eq]at h;exact⟨h.1.1,by omega⟩
theorem QG (c:Int):Tot (F4 c):=tot _
theorem Yb (c:Int):Tot (Gr c):=by
 unfold Gr;exact C4 (NK fun _=>QG c) fun a _=>tot _
theorem XS (s:ByteArray):Tot (Fh s):=by
 unfold Fh;refine NJ (fun _=>tot _) fun h=> ?_;simp only[Bool.or_eq_false_iff,decide_eq_false_iff_not]at h;refine C4 ?_ fun a _=> ?_
 ·obtain⟨t,e,_⟩:=Nh (step:=Ez s) (fun i=>s.size-i) (fun _=>True) (fun _=>True) (fun i _=>by
   unfold Ez;by_cases hi:i<s.size
   ·rw[if_pos hi];have hd:=O6 s i;obtain⟨x4,h4⟩:=NK (b:=((i:Int)==(w64 ((s.size:Int)-1)))) fun _=>QG ((Utf8.decode s i).1:Int);obtain⟨x7,h7⟩:=NK (b:=((i:Int)==0)) fun _=>QG ((Utf8.decode s i).1:Int);obtain⟨x9,h9⟩:=NK (b:=(!((i:Int)==0))) fun _=>Yb ((Utf8.decode s i).1:Int);simp only[bnd,h4,h7,h9,Ab];split
    ·exact⟨_,rfl,fun s' h=>(by cases h; exact⟨trivial,by omega⟩),fun _ _=>trivial⟩
    ·split
     ·exact⟨_,rfl,fun s' h=>(by cases h),fun _ _=>trivial⟩
     ·split
      ·exact⟨_,rfl,fun s' h=>(by cases h; exact⟨trivial,by omega⟩),fun _ _=>trivial⟩
      ·split
       ·exact⟨_,rfl,fun s' h=>(by cases h),fun _ _=>trivial⟩
       ·exact⟨_,rfl,fun s' h=>(by cases h; exact⟨trivial,by omega⟩),fun _ _=>trivial⟩
   ·rw[if_neg hi];exact⟨_,rfl,fun s' h=>(by cases h),fun _ _=>trivial⟩) C3 0 trivial (by have:=GK; omega)
  exact⟨t,e⟩
 ·cases a with
  |inl _=>exact tot _
  |inr _=>exact tot _
theorem Aa8: ∀(l:List UInt8) (c:UInt8),Lib.indexByte l c<l.length
 | [],c=>by simp[Lib.indexByte]
 |b::l,c=>by
  have:=Aa8 l c;unfold Lib.indexByte;split
  ·rw[List.length_cons]; omega
  ·split
   ·rw[List.length_cons]; omega
   ·rw[List.length_cons]; omega
theorem J9 (s:ByteArray):s.data.toList.length=s.size:=by rw[Array.length_toList]; rfl
theorem Yc (s:ByteArray): ∃x:Int,DU s (⟨#[46]⟩:ByteArray)=some x∧ -1≤x∧x<s.size:=by
 unfold DU Cq BW;simp only[bnd];by_cases h:((((⟨#[46]⟩:ByteArray).size:Int)==0)||eqS (⟨#[46]⟩:ByteArray) s)=true
 ·rw[if_pos h];refine⟨0,rfl,by omega,?_⟩;have h1:eqS (⟨#[46]⟩:ByteArray) s=true:=by
   cases he:eqS (⟨#[46]⟩:ByteArray) s with
   |true=>rfl
   |false=>rw[he]at h; cases h
  have h2: [(46:UInt8)]=s.data.toList:=by simpa[eqS]using h1
  have h3:=J9 s;rw[←h2]at h3;simp only[List.length_cons,List.length_nil]at h3;omega
 ·rw[if_neg h];refine⟨ixbS s 46,rfl,Lib.indexByte_ge _ _,?_⟩;have:=Aa8 s.data.toList 46;rw[J9]at this;exact this
theorem BC {x:Int}(h0: -9223372036854775808≤x)(h1:x≤9223372036854775807):w64 x=x:=by
 unfold w64; omega
theorem Nj {s:ByteArray}{lo hi:Int}(h0:0≤lo)(h1:lo≤hi)(h2:hi≤s.size):VL s lo hi=some (s.extract lo.toNat hi.toNat):=by
 unfold VL; rw[if_pos ⟨h0,h1,h2⟩]
theorem UE (s:ByteArray)(n k:Int)(hk:k≤64):Tot (DA s n k):=by
 unfold DA;refine C4 ?_ fun x2 hx2=> ?_
 ·refine NJ (fun _=>tot _) fun _=> ?_;exact⟨_,rfl⟩
 ·refine NJ (fun _=>tot _) fun h=> ?_;have hsz:s.size≤64:=by
   cases hd:decide ((s.size:Int)>k)with
   |true=>rw[if_pos hd]at hx2; cases hx2; cases h
   |false=>simp only[decide_eq_false_iff_not]at hd; omega
  have key: ∃r,Cv (fun(s:(Unit)×Nat) (b0:ByteArray)=>if s.2=0 then Ad (Ct b0 s) fun y=>some (y.2==0,y)else none) (⟨#[46]⟩:ByteArray) s 0 ((),0)=some r:=by
   have hb5: ∀(b0:ByteArray) (s:Unit×Nat),∃z:Nat,Ct b0 s=some ((),z):=fun b0 s=>by
    unfold Ct;obtain⟨y,hy⟩:=XS b0;rw[hy];simp only[Ab];split
    ·exact⟨1,rfl⟩
    ·exact⟨0,rfl⟩
   unfold Cv;rw[if_neg (by decide)];obtain⟨tt,hit,hq⟩: ∃t,iter (B3 (fun(s:(Unit)×Nat) (b0:ByteArray)=>if s.2=0 then Ad (Ct b0 s) fun y=>some (y.2==0,y)else none) (⟨#[46]⟩:ByteArray) 0) C3 (s,((),0))=some t∧∀y,t= .inl y→y.2.2=0:=by
    exact Nh (step:=B3 (fun(s:(Unit)×Nat) (b0:ByteArray)=>if s.2=0 then Ad (Ct b0 s) fun y=>some (y.2==0,y)else none) (⟨#[46]⟩:ByteArray) 0) (fun z=>z.1.size) (fun z=>z.1.size≤64∧z.2.2=0) (fun t=> ∀y,t= .inl y→y.2.2=0) (fun z hz=>by
     obtain⟨x,h1,h2,h3⟩:=Yc z.1;unfold B3;rw[h1];simp only[Ab];by_cases hx:x<0
     ·rw[if_pos (by simpa using hx)];exact⟨_,rfl,fun s' h=>(by cases h),fun t ht y hy=>by subst hy; cases ht; exact hz.2⟩
     ·rw[if_neg (by simpa using hx)];have hw:w64 (x+0)=x:=by rw[Int.add_zero]; exact BC (by omega) (by omega)
      have hw1:w64 (x+((⟨#[46]⟩:ByteArray).size:Int))=x+1:=BC (x:=x+1) (by omega) (by omega);rw[hw,hw1,Nj (by omega) (by omega) (by omega),Nj (lo:=x+1) (by omega) (by omega) (by omega)];simp only[Ab,if_pos hz.2];obtain⟨zz,hzz⟩:=hb5 (z.1.extract (0:Int).toNat x.toNat) z.2;rw[hzz];simp only[Ab];split
      ·exact⟨_,rfl,fun s' h=>(by cases h),fun t ht y hy=>by subst hy; cases ht⟩
      ·rename_i hne;refine⟨_,rfl,fun s' h=> ?_,fun t ht=>by cases ht⟩;cases h;have e0:zz=0:=by simpa using hne
       refine⟨⟨?_,e0⟩,?_⟩
       ·simp only[ByteArray.size_extract]; omega
       ·simp only[ByteArray.size_extract]; omega) C3 (s,((),0)) ⟨hsz,rfl⟩ (by have:=GK; show s.size<C3; omega)
   show Tot (Ad (iter _ C3 (s,((),0))) _);rw[hit];cases tt with
   |inr _=>exact tot _
   |inl y3=>
    have h0:=hq y3 rfl;obtain⟨zz,hzz⟩:=hb5 y3.1 y3.2;simp only[Ab,if_pos h0,hzz];exact tot _
  obtain⟨r,hr⟩:=key;show Tot (Ad (Cv _ (⟨#[46]⟩:ByteArray) s 0 ((),0)) _);rw[hr];simp only[Ab];exact AbL (fun _=>tot _) fun _=>tot _
theorem Aa9 (s:ByteArray):Tot (HT s):=C4 (UE s 8 64 (by decide)) fun a _=>tot _
theorem YV (s:ByteArray):Tot (DB s):=by
 unfold DB;refine C4 (Aa9 s) fun a _=>C4 ?_ fun a _=>tot _;unfold EZ;exact NJ (fun _=>tot _) fun _=>tot _
theorem QN (s:ByteArray):Tot (Ci s (⟨#[42,46]⟩:ByteArray)):=by
 unfold Ci BB BA;refine C4 (C4 (C4 (NK fun h=> ?_) fun a _=>tot _) fun b hb=> ?_) fun a _=>tot _
 ·simp only[decide_eq_true_eq]at h;exact⟨_,Nj (by omega) (by omega) h⟩
 ·refine NJ (fun _=>tot _) fun h=> ?_;obtain⟨x,_,hx⟩:=Aa hb;have hx:=Option.some.inj (Ba hx);have hb:b=true:=by simpa using h
  rw[hb]at hx;simp only[Bool.and_eq_true,decide_eq_true_eq]at hx;exact C4 ⟨_,Nj (by omega) hx.1 (by omega)⟩ fun a _=>tot _
theorem T4 (s:ByteArray):Tot (CQ s):=by
 unfold CQ E0;refine C4 (C4 (Aa9 s) fun a _=>NJ (fun _=>tot _) fun _=>C4 (QN s) fun b _=>C4 (NK fun _=>UE _ 7 62 (by decide)) fun c _=>tot _) fun a _=>C4 ?_ fun a _=>tot _;unfold EZ;exact NJ (fun _=>tot _) fun _=>tot _
end Go.Proofs.YtibojdgdjhngiaaGreatDoor
end
section
namespace Go.Proofs.YtibojdgdjhngiaaGreatDoor
open Go Go.Gw Go.Ax
theorem Wm {α:Type}{x:Option α}{d:α}(h:Tot x):x=some (x.getD d):=by
 obtain⟨r,h⟩:=h;rw[h]; rfl
def textV (s:ByteArray):Bool:=(DJ s).getD false
def nameV (s:ByteArray):Int:=(DB s).getD 0
def patV (s:ByteArray):Int:=(CQ s).getD 0
theorem Wp (s:ByteArray):DJ s=some (textV s):=Wm (Zf s)
theorem UF (s:ByteArray):DB s=some (nameV s):=Wm (YV s)
theorem Xs (s:ByteArray):CQ s=some (patV s):=Wm (T4 s)
theorem Ug {s:ByteArray}(h:textV s=true):eqS s (⟨#[]⟩:ByteArray)=false∧s.size≤64:=Wo (Wp s) h
theorem RS {s:ByteArray}{n k:Int}(h:DA s n k=some true):(s.size:Int)≤k:=by
 unfold DA at h;obtain⟨x,hx,h⟩:=Aa h;cases hd:decide ((s.size:Int)>k)with
 |true=>
  rw[if_pos hd]at hx;cases hx;cases h
 |false=>simp only[decide_eq_false_iff_not]at hd; omega
theorem XZ {s:ByteArray}(h:HT s=some true):s.size≤64:=by
 obtain⟨x,hx,h⟩:=Aa h;cases h;have:=RS hx;omega
theorem Rv {b:Bool}{r:Int}(h:EZ b=some r)(h0:r=0):b=true:=by
 cases b with
 |true=>rfl
 |false=>
  have h2:(110:Int)=r:=Option.some.inj h;omega
theorem Vx {s:ByteArray}(h:nameV s=0):s.size≤64:=by
 have e:=UF s;rw[h]at e;obtain⟨x,hx,e⟩:=Aa e;obtain⟨y,hy,e⟩:=Aa e;cases e;have:=Rv hy rfl;rw[this]at hx;exact XZ hx
theorem OC {s:ByteArray}{c:ByteArray×Bool}(h:Ci s (⟨#[42,46]⟩:ByteArray)=some c)(h1:c.2=true):c.1.size+2=s.size:=by
 unfold Ci BB BA at h;obtain⟨d,hd,h⟩:=Aa h;have h:=Option.some.inj h;subst h;obtain⟨p,hp,hd⟩:=Aa hd;cases p with
 |false=>
  have hd:=Option.some.inj hd;subst hd;cases h1
 |true=>
  obtain⟨q,hq,hd⟩:=Aa hd;have hd:=Option.some.inj hd;subst hd;unfold VL at hq;split at hq
  ·rename_i hc;have hq:=Option.some.inj hq;have e2:(⟨#[42,46]⟩:ByteArray).size=2:=rfl;rw[e2]at hq hc;show q.size+2=s.size;rw[←hq,ByteArray.size_extract];omega
  ·cases hq
theorem Xr {s:ByteArray}(h:patV s=0):s.size≤64:=by
 have e:=Xs s;rw[h]at e;obtain⟨x,hx,e⟩:=Aa e;obtain⟨y,hy,e⟩:=Aa e;cases e;have h1:=Rv hy rfl;unfold E0 at hx;obtain⟨b,hb,hx⟩:=Aa hx;cases b with
 |true=>exact XZ hb
 |false=>
  rw[if_neg (by decide)]at hx;obtain⟨c,hc,hx⟩:=Aa hx;obtain⟨d,hd,hx⟩:=Aa hx;have hx:=Option.some.inj hx;subst hx;have h2:(c.2&&d)=true:=h1;simp only[Bool.and_eq_true]at h2;rw[h2.1,h2.2]at hd;have h3:=RS hd;have h4:=OC hc h2.1;omega
def N1 (right:ByteArray→Int):List ByteArray→List ByteArray→Bool
 |_,[]=>true
 |met,s::l=> !(met.any (eqS s))&&right s==0&&N1 right (met++[s]) l
def J8 (met:List ByteArray):List (ByteArray×Bool):=met.map fun s=>(s,true)
theorem N0: ∀(met:List ByteArray) (s:ByteArray) (i:Nat),(lkI (J8 met) s i).isSome=met.any (eqS s)∧∀p,lkI (J8 met) s i=some p→p.2=true
 | [],s,i=>⟨rfl,fun p h=>by cases h⟩
 |a::met,s,i=>by
  have ih:=N0 met s (i+1);rw[List.any_cons];cases h:eqS s a with
  |true=>
   refine⟨?_,fun p hp=> ?_⟩
   ·show(if eqS s a=true then some (i,true)else lkI (J8 met) s (i+1)).isSome=_;rw[if_pos h]; rfl
   ·have hp:(if eqS s a=true then some (i,true)else lkI (J8 met) s (i+1))=some p:=hp;rw[if_pos h]at hp;cases hp; rfl
  |false=>
   refine⟨?_,fun p hp=> ?_⟩
   ·show(if eqS s a=true then some (i,true)else lkI (J8 met) s (i+1)).isSome=_;rw[if_neg (by rw[h]; decide)]; exact ih.1
   ·have hp:(if eqS s a=true then some (i,true)else lkI (J8 met) s (i+1))=some p:=hp;rw[if_neg (by rw[h]; decide)]at hp;exact ih.2 p hp
theorem XM (met:List ByteArray)(s:ByteArray):lkB (J8 met) s=met.any (eqS s):=by
 have h:=N0 met s 0;unfold lkB;rw[←h.1];cases e:lkI (J8 met) s 0 with
 |none=>rfl
 |some p=>rw[Option.map_some,Option.getD_some,h.2 p e]; rfl
theorem ZN (met:List ByteArray)(s:ByteArray)(h:met.any (eqS s)=false):(lkI (J8 met) s 0).isNone=true:=by
 have h1:=(N0 met s 0).1;rw[h]at h1;cases e:lkI (J8 met) s 0 with
 |none=>rfl
 |some p=>rw[e]at h1; cases h1
theorem Acr (right:ByteArray→Int)(mr:ByteArray→Option Int)(hr: ∀s,mr s=some (right s)): ∀(l met:List ByteArray) (i:Int),
  Hc (fun(i1:Int) (x2:ByteArray) (s1:List (ByteArray×Bool))=>Ad (gu (!(lkB s1 x2)) (mr x2)) fun x3=>if((lkB s1 x2)||(x3 !=0))=true then some (.inr false)else if(lkI s1 x2 0).isNone=true then some (.inl (s1++[(x2,true)]))else none) l i (J8 met)
   =some (if N1 right met l=true then .inl (J8 (met++l))else .inr false)
 | [],met,i=>by simp[Hc,N1]
 |s::l,met,i=>by
  have ih:=Acr right mr hr l (met++[s]) (i+1);have hm':=XM met s;simp only[Hc,hr]at ih⊢;rw[hm'];cases hm:met.any (eqS s)with
  |true=>simp[gu,N1,hm]
  |false=>
   simp only[gu,Bool.not_false,cond_true,Ab,Bool.false_or];cases h0:right s==0 with
   |false=>
    have h1:(right s !=0)=true:=by simp only[bne,h0,Bool.not_false]
    rw[if_pos h1];simp[N1,hm,h0]
   |true=>
    have h1:(right s !=0)=false:=by simp only[bne,h0,Bool.not_true]
    rw[h1];simp only[Bool.false_eq_true,if_false,ZN met s hm,if_true,Ab];have e:J8 met++[(s,true)]=J8 (met++[s]):=by simp[J8]
    rw[e];simp only[gu]at ih;rw[ih];simp[N1,hm,h0]
def listV (right:ByteArray→Int)(l:List ByteArray)(a b:Int):Bool:=N1 right [] l&&decide ((l.length:Int)≥a)&&decide ((l.length:Int)≤b)
theorem XP (l:List ByteArray)(a b:Int):EE l a b=some (listV patV l a b):=by
 unfold EE;have h:=Acr patV CQ Xs l [] 0;show Ad (Hc _ l 0 (J8 [])) _=_;unfold Ep;rw[h];unfold listV;cases N1 patV [] l<;>rfl
theorem XO (l:List ByteArray)(a b:Int):ED l a b=some (listV nameV l a b):=by
 unfold ED;have h:=Acr nameV DB UF l [] 0;show Ad (Hc _ l 0 (J8 [])) _=_;unfold Eo;rw[h];unfold listV;cases N1 nameV [] l<;>rfl
theorem RZ {right:ByteArray→Int}: ∀{l met:List ByteArray},N1 right met l=true→∀s∈l,right s=0
 | [],met,_,s,hs=>by cases hs
 |a::l,met,h,s,hs=>by
  simp only[N1,Bool.and_eq_true,beq_iff_eq]at h;rcases List.mem_cons.1 hs with e|hs
  ·rw[e]; exact h.1.2
  ·exact RZ h.2 s hs
def numB (n:Int):Bool:=decide (n≥0)&&decide (n≤1099511627776)
def sigB (s:g_api_Sig):Bool:=decide ((SD s.E s.S).toNat<1152921504606845789)
def promBC (p:g_api_Promise):Bool:=numB p.Log&&numB p.At&&decide ((SD p.Leaf.1 p.Leaf.2).toNat<2305843009213693951)&&sigB p.Sig
theorem OW (n:Int):DE n=some (numB n):=rfl
theorem RC (s:g_api_Sig):Fq s=some (sigB s):=by
 unfold Fq sigB;simp only[bnd,Option.some.injEq,decide_eq_decide];omega
theorem max_eq (a b:UInt64):B5 [a,b]=some (SD a b):=by
 have e1:A8 [a,b] (a,1)=some (.inl (SD a b,2)):=rfl;have e2:A8 [a,b] (SD a b,2)=some (.inr (SD a b)):=rfl;have h: ∀n,iter (A8 [a,b]) (n+1+1) (a,1)=some (SD a b):=fun n=>by
  simp only[iter,e1,Ab,e2]
 have hf:iter (A8 [a,b]) C3 (a,1)=some (SD a b):=h 18446744073709551614;have i0:idx [a,b] 0=some a:=rfl;have d0:decide ((([a,b]:List UInt64).length:Int)<1)=false:=rfl;unfold B5;rw[d0,i0];simp only[Bool.false_eq_true,if_false,Ab,hf]
theorem gu_b {c v:Bool}:gu c (some v)=some (c&&v):=by cases c<;>rfl
theorem UN {α:Type} [Inhabited α](o:Option α):gu true o=o:=rfl
theorem Abd {α:Type} [Inhabited α](o:Option α):gu false o=some default:=rfl
theorem B4 {α β:Type}(a:α)(k:α→β):bnd a k=k a:=rfl
theorem Tm (p:g_api_Promise):E6 p=some (promBC p):=by
 unfold E6 promBC;simp only[OW,max_eq,RC,gu_b,B4,Ab];have e: ∀x:UInt64,decide ((x.toNat:Int)<2305843009213693951)=decide (x.toNat<2305843009213693951):=fun x=>by
  rw[decide_eq_decide]; omega
 simp only[e];cases numB p.Log with
 |false=>simp only[Bool.false_and,Abd,Ab]
 |true=>
  cases numB p.At with
  |false=>simp only[Bool.false_and,Bool.true_and,Abd,Ab]
  |true=>
   simp only[Bool.true_and,UN,Ab];cases decide ((SD p.Leaf.1 p.Leaf.2).toNat<2305843009213693951)<;>simp only[Bool.false_and,Bool.true_and]
def promsB:Int→List g_api_Promise→Bool
 |_,[]=>true
 |last,p::l=>promBC p&& !(decide (p.Log≤last))&&promsB p.Log l
theorem Ux: ∀(l:List g_api_Promise) (i last:Int),∃z:Int,Hc Cx l i last=some (if promsB last l=true then .inl z else .inr false)
 | [],i,last=>⟨last,rfl⟩
 |p::l,i,last=>by
  obtain⟨z,ih⟩:=Ux l (i+1) p.Log;refine⟨z,?_⟩;have e:Cx i p last=some (if(promBC p&& !(decide (p.Log≤last)))=true then .inl p.Log else .inr false):=by
   unfold Cx;rw[Tm,Ab];cases promBC p<;>cases decide (p.Log≤last)<;>rfl
  show Ad (Cx i p last) _=_;rw[e];cases h:promBC p&& !(decide (p.Log≤last))with
  |false=>
   simp[promsB,h]
  |true=>
   rw[if_pos rfl,Ab];show Hc Cx l (i+1) p.Log=_;rw[ih];simp[promsB,h]
theorem OS: ∀{l:List g_api_Promise} {last:Int},promsB last l=true→∀p∈l,promBC p=true
 | [],_,_,p,hp=>by cases hp
 |a::l,last,h,p,hp=>by
  simp only[promsB,Bool.and_eq_true]at h;rcases List.mem_cons.1 hp with e|hp
  ·rw[e]; exact h.1.1
  ·exact OS h.2 p hp
def formB (c:g_api_Cert):Bool:=promsB (-1) c.Proms&&(numB c.Serial&&numB c.From&&numB c.Until&&decide (c.From<c.Until))&&(textV c.Issuer&&(!((c.Key.toNat:Int)==0))&&decide ((c.Key.toNat:Int)<2305843009213691579)&&decide ((c.Proms.length:Int)≤4)&&sigB c.Sig)&&(if c.Ca=true then textV c.Subject&&((c.Names.length:Int)==0)&&decide (c.Depth≥0)&&decide (c.Depth≤4)&&listV patV c.Permit 0 8 else eqS c.Subject (⟨#[]⟩:ByteArray)&&listV nameV c.Names 1 8&&(c.Depth==0)&&((c.Permit.length:Int)==0))
theorem Yg (c:g_api_Cert):GD c=some (formB c):=by
 obtain⟨z,hz⟩:=Ux c.Proms 0 (-1);unfold GD formB;rw[hz];cases promsB (-1) c.Proms with
 |false=>rfl
 |true=>
  rw[if_pos rfl,Ab];simp only[OW,Wp,RC,XP,XO,gu_b,B4,Ab,Bool.true_and];have e1:decide (c.From≥c.Until)= !decide (c.From<c.Until):=by
   rw[←decide_not,decide_eq_decide]; omega
  have e2:decide ((c.Key.toNat:Int)≥2305843009213691579)= !decide ((c.Key.toNat:Int)<2305843009213691579):=by
   rw[←decide_not,decide_eq_decide]; omega
  have e3:decide ((c.Proms.length:Int)>4)= !decide ((c.Proms.length:Int)≤4):=by
   rw[←decide_not,decide_eq_decide]; omega
  rw[e1,e2,e3];generalize numB c.Serial=a1;generalize numB c.From=a2;generalize numB c.Until=a3;generalize decide (c.From<c.Until)=a4;generalize textV c.Issuer=b1;generalize ((c.Key.toNat:Int)==0)=b2;generalize decide ((c.Key.toNat:Int)<2305843009213691579)=b3;generalize decide ((c.Proms.length:Int)≤4)=b4;generalize sigB c.Sig=b5;cases a1<;>cases a2<;>cases a3<;>cases a4<;>try rfl
  all_goals cases b1<;>cases b2<;>cases b3<;>cases b4<;>cases b5<;>try rfl
  cases c.Ca with
  |true=>
   show some _=some _;generalize listV patV c.Permit 0 8=d1;generalize textV c.Subject=d2;generalize ((c.Names.length:Int)==0)=d3;generalize decide (c.Depth≥0)=d4;generalize decide (c.Depth≤4)=d5;cases d1<;>cases d2<;>cases d3<;>cases d4<;>cases d5<;>rfl
  |false=>
   show some _=some _;generalize listV nameV c.Names 1 8=d1;generalize eqS c.Subject (⟨#[]⟩:ByteArray)=d2;cases d1<;>cases d2<;>rfl
end Go.Proofs.YtibojdgdjhngiaaGreatDoor
end
section
namespace Go.Proofs.YtibojdgdjhngiaaGreatDoor
open Go Go.Gw Go.Ax
theorem LK {α:Type}(b:Nat){xs ys:List α}(h:(xs.length+ys.length)*b≤140737488355328)(h1:xs.length+ys.length≤140737488355328):app b xs ys=some (xs++ys):=by unfold app; rw[if_pos ⟨h,h1⟩]
theorem QX {α:Type}(b:Nat){ys:List α}(h:ys.length*b≤140737488355328)(h1:ys.length≤140737488355328):app b [] ys=some ys:=by
 rw[LK b (by simpa using h) (by simpa using h1)]; rfl
theorem MN {α:Type}(x:α)(xs:List α):cut (x::xs) 1 (((x::xs).length:Nat):Int)=some xs:=by
 unfold cut;rw[if_pos ⟨by omega,by rw[List.length_cons]; omega,by omega⟩];show some (List.take _ xs)=_;rw[List.take_of_length_le];simp
def be8 (n:Int):List UInt8:=[toB (B1 n 56),toB (B1 n 48),toB (B1 n 40),toB (B1 n 32),toB (B1 n 24),toB (B1 n 16),toB (B1 n 8),toB (B1 n 0)]
def Ht:List UInt8→Bool
 | []=>false
 | [_]=>true
 |a::b::l=>decide (((a::b::l).length:Int)≤8)&&((a.toNat:Int) !=((toB (-((Wz b 7).toNat:Int))).toNat:Int))
def M9:List UInt8→List UInt8
 | []=> []
 | [a]=> [a]
 |a::b::l=>if Ht (a::b::l)=true then a::b::l else M9 (b::l)
theorem Qt (l:List UInt8):FX l=some (Ht l):=by
 match l with
 | []=>rfl
 | [a]=>rfl
 |a::b::l=>
  unfold FX;have e0:(((a::b::l).length:Int)==0)=false:=by simp only[beq_eq_false_iff_ne,List.length_cons]; omega
  have e1:(((a::b::l).length:Int)==1)=false:=by simp only[beq_eq_false_iff_ne,List.length_cons]; omega
  have i0:idx (a::b::l) 0=some a:=rfl;have i1:idx (a::b::l) 1=some b:=rfl;rw[e0,e1,i0,i1];simp only[Bool.false_eq_true,if_false,Ab,B4,Ht];cases decide (((a::b::l).length:Int)≤8)<;>rfl
theorem Wl: ∀(n:Nat) (l:List UInt8),l.length<n→iter Da n l=some (M9 l)
 |0,l,h=>by omega
 |n+1,l,h=>by
  show Ad (Da l) _=_;match l with
  | []=>rfl
  | [a]=>rfl
  |a::b::l=>
   have ih:=Wl n (b::l) (by simp only[List.length_cons]at h⊢; omega);have e0:decide (((a::b::l).length:Int)>1)=true:=by simp only[decide_eq_true_eq,List.length_cons]; omega
   cases hl:Ht (a::b::l)with
   |true=>
    have e:Da (a::b::l)=some (.inr (a::b::l)):=by
     unfold Da;rw[e0,if_pos rfl,Qt,hl];rfl
    rw[e];simp[M9,hl]
   |false=>
    have e:Da (a::b::l)=some (.inl (b::l)):=by
     unfold Da;rw[e0,if_pos rfl,Qt,hl,MN];rfl
    rw[e];simp only[Ab];rw[ih];simp[M9,hl]
theorem PQ: ∀(l:List UInt8),(M9 l).length≤l.length
 | []=>Nat.le_refl _
 | [a]=>Nat.le_refl _
 |a::b::l=>by
  have ih:=PQ (b::l);unfold M9;split
  ·exact Nat.le_refl _
  ·rw[List.length_cons]; omega
def G1 (n:Int):g_api_Item:=⟨2,M9 (be8 n),[]⟩
theorem be8_eq (n:Int):BE (IN n) 8 0 (0,0,0,0,0,0,0,0)=some (toB (B1 n 56),toB (B1 n 48),toB (B1 n 40),toB (B1 n 32),toB (B1 n 24),toB (B1 n 16),toB (B1 n 8),toB (B1 n 0)):=rfl
theorem Nk {l:List UInt8}(h:l.length≤140737488355328):A7 l=some l:=by
 unfold A7;rw[QX 1 (by omega) h]; rfl
theorem Ya (n:Int):EC n=some (G1 n):=by
 have h8:(be8 n).length=8:=rfl;have h:=PQ (be8 n);unfold EC;rw[be8_eq];show Ad (Ad (iter Da C3 (be8 n)) _) _=_;rw[Wl C3 (be8 n) (by rw[h8]; have:=GK; omega)];show Ad (A7 (M9 (be8 n))) _=_;rw[Nk (by omega)];rfl
def Jq (x:UInt64):g_api_Item:=G1 (w64 (x.toNat:Int))
theorem U2 (x:UInt64):D3 x=some (Jq x):=by unfold D3; rw[Ya]; rfl
def EL (s:ByteArray):g_api_Item:=⟨12,s.data.toList,[]⟩
def LJ (v:Bool):g_api_Item:=⟨1,[if v=true then 255 else 0],[]⟩
def JP (l:List g_api_Item):g_api_Item:=⟨48,[],l⟩
theorem PR {s:ByteArray}(h:s.size≤140737488355328):G9 s=some (EL s):=by
 unfold G9;rw[QX 1 (by rw[J9]; omega) (by rw[J9]; exact h)]; rfl
theorem Aap (v:Bool):Ku v=some (LJ v):=by cases v<;>rfl
theorem KS {l:List g_api_Item}(h:l.length≤1000000):E4 l=some (JP l):=by
 unfold E4 AM;rw[QX 56 (by omega) (by omega)]; rfl
theorem Ue: ∀(l:List ByteArray) (i:Int) (a:List g_api_Item),(∀s∈l,s.size≤64)→a.length+l.length≤1000000→CC Bu l i a=some (a++l.map EL)
 | [],i,a,_,_=>by simp[CC]
 |s::l,i,a,h,hn=>by
  rw[List.length_cons]at hn;have ih:=Ue l (i+1) (a++[EL s]) (fun x hx=>h x (List.mem_cons_of_mem _ hx)) (by rw[List.length_append]; show a.length+1+_≤_; omega);have e:Bu i s a=some (a++[EL s]):=by
   unfold Bu;rw[PR (by have:=h s List.mem_cons_self; omega),Ab,LK 56 (by show(a.length+1)*56≤_; omega) (by show a.length+1≤_; omega)];rfl
  show Ad (Bu i s a) _=_;rw[e];show CC _ l (i+1) (a++[EL s])=_;rw[ih];simp
def Gi (l:List ByteArray):g_api_Item:=JP (l.map EL)
theorem Uf {l:List ByteArray}(h: ∀s∈l,s.size≤64)(hn:l.length≤1000000):B9 l=some (Gi l):=by
 unfold B9;rw[Ue l 0 [] h (by simpa using hn)];simp only[Ab,List.nil_append];rw[KS (by rw[List.length_map]; exact hn)]; rfl
def Qg (p:g_api_Promise):g_api_Item:=JP [G1 p.Log,G1 p.At,Jq p.Leaf.1,Jq p.Leaf.2,Jq p.Sig.E,Jq p.Sig.S]
theorem Zv (p:g_api_Promise):GF p=some (Qg p):=by
 unfold GF;simp only[Ya,U2,Ab];rw[KS (by simp)]; rfl
theorem Uw: ∀(l:List g_api_Promise) (i:Int) (a:List g_api_Item),a.length+l.length≤1000000→CC A3 l i a=some (a++l.map Qg)
 | [],i,a,_=>by simp[CC]
 |s::l,i,a,hn=>by
  rw[List.length_cons]at hn;have ih:=Uw l (i+1) (a++[Qg s]) (by rw[List.length_append]; show a.length+1+_≤_; omega);have e:A3 i s a=some (a++[Qg s]):=by
   unfold A3;rw[Zv,Ab,LK 56 (by show(a.length+1)*56≤_; omega) (by show a.length+1≤_; omega)];rfl
  show Ad (A3 i s a) _=_;rw[e];show CC _ l (i+1) (a++[Qg s])=_;rw[ih];simp
def Kg (l:List g_api_Promise):g_api_Item:=JP (l.map Qg)
theorem Xe {l:List g_api_Promise}(hn:l.length≤1000000):B0 l=some (Kg l):=by
 unfold B0;rw[Uw l 0 [] (by simpa using hn)];simp only[Ab,List.nil_append];rw[KS (by rw[List.length_map]; exact hn)]; rfl
structure SA (c:g_api_Cert):Prop where
 issuer:c.Issuer.size≤64
 subject:c.Subject.size≤64
 names: ∀s∈c.Names,s.size≤64
 few:c.Names.length≤8
 permit: ∀s∈c.Permit,s.size≤64
 fewP:c.Permit.length≤8
 proms:c.Proms.length≤4
def K5 (c:g_api_Cert):g_api_Item:=JP [G1 c.Serial,EL c.Issuer,EL c.Subject,Jq c.Key,Gi c.Names,G1 c.From,G1 c.Until,LJ c.Ca,G1 c.Depth,Gi c.Permit]
def Mq (c:g_api_Cert):g_api_Item:=JP [K5 c,Kg c.Proms]
def wholeI (c:g_api_Cert):g_api_Item:=JP [Mq c,JP [Jq c.Sig.E,Jq c.Sig.S]]
theorem Xg {c:g_api_Cert}(h:SA c):HX c=some (K5 c):=by
 unfold HX;have h1:=h.issuer; have h2:=h.subject; have h3:=h.few; have h4:=h.fewP;simp only[Ya,U2,Aap,PR (s:=c.Issuer) (by omega),PR (s:=c.Subject) (by omega),Uf h.names (by omega),Uf h.permit (by omega),Ab];rw[KS (by simp)]; rfl
theorem Aar {c:g_api_Cert}(h:SA c):Iq c=some (Mq c):=by
 unfold Iq;have h1:=h.proms;rw[Xg h,Xe (by omega)];simp only[Ab];rw[KS (by simp)]; rfl
theorem Wa {c:g_api_Cert}(h:SA c):Hr c=some (wholeI c):=by
 unfold Hr;rw[Aar h,U2,U2];simp only[Ab];rw[KS (by simp)];simp only[Ab];rw[KS (by simp)]; rfl
structure Form (c:g_api_Cert):Prop where
 proms:promsB (-1) c.Proms=true
 serial:numB c.Serial=true
 frm:numB c.From=true
 til:numB c.Until=true
 lt:c.From<c.Until
 issuer:textV c.Issuer=true
 key0:(c.Key.toNat:Int)≠0
 keyQ:(c.Key.toNat:Int)<2305843009213691579
 nproms:(c.Proms.length:Int)≤4
 sig:sigB c.Sig=true
 ca:c.Ca=true→textV c.Subject=true∧c.Names=[]∧0≤c.Depth∧c.Depth≤4∧listV patV c.Permit 0 8=true
 leaf:c.Ca=false→c.Subject=(⟨#[]⟩:ByteArray)∧listV nameV c.Names 1 8=true∧c.Depth=0∧c.Permit=[]
theorem TF {c:g_api_Cert}(h:formB c=true):Form c:=by
 unfold formB at h;simp only[Bool.and_eq_true,decide_eq_true_eq,Bool.not_eq_true',beq_eq_false_iff_ne]at h;obtain⟨⟨⟨h1,⟨⟨h2,h3⟩,h4⟩,h5⟩,⟨⟨⟨h6,h7⟩,h8⟩,h9⟩,h10⟩,h11⟩:=h;refine⟨h1,h2,h3,h4,h5,h6,h7,h8,h9,h10,fun e=> ?_,fun e=> ?_⟩
 ·rw[if_pos e]at h11;simp only[Bool.and_eq_true,decide_eq_true_eq,beq_iff_eq]at h11;obtain⟨⟨⟨⟨a,b⟩,d⟩,f⟩,g⟩:=h11;exact⟨a,List.eq_nil_of_length_eq_zero (by omega),by omega,f,g⟩
 ·rw[e]at h11;simp only[Bool.false_eq_true,if_false,Bool.and_eq_true,decide_eq_true_eq,beq_iff_eq]at h11;obtain⟨⟨⟨a,b⟩,d⟩,f⟩:=h11;exact⟨IZ.1 a,b,d,List.eq_nil_of_length_eq_zero (by omega)⟩
theorem RY {right:ByteArray→Int}{l:List ByteArray}{a b:Int}(h:listV right l a b=true):a≤l.length∧(l.length:Int)≤b∧∀s∈l,right s=0:=by
 unfold listV at h;simp only[Bool.and_eq_true,decide_eq_true_eq]at h;exact⟨by omega,h.2,RZ h.1.1⟩
theorem Form.sized {c:g_api_Cert}(h:Form c):SA c:=by
 have hi:=(Ug h.issuer).2;have hp:=h.nproms;cases hc:c.Ca with
 |true=>
  obtain⟨h1,h2,h3,h4,h5⟩:=h.ca hc;obtain⟨l1,l2,l3⟩:=RY h5;exact⟨hi,(Ug h1).2,(by rw[h2]; intro s hs; cases hs),by rw[h2]; decide,fun s hs=>Xr (l3 s hs),by omega,by omega⟩
 |false=>
  obtain⟨h1,h2,h3,h4⟩:=h.leaf hc;obtain⟨l1,l2,l3⟩:=RY h2;exact⟨hi,by rw[h1]; decide,fun s hs=>Vx (l3 s hs),by omega,(by rw[h4]; intro s hs; cases hs),by rw[h4]; decide,by omega⟩
end Go.Proofs.YtibojdgdjhngiaaGreatDoor
end
section
namespace Go.Proofs.YtibojdgdjhngiaaGreatDoor
open Go Go.Gw Go.Ax
theorem Ac0 (t:Int):F7 t=some (if t=1 then(⟨1,305⟩,true)else if t=2 then(⟨2,149⟩,true)else if t=4 then(⟨4,306⟩,true)else if t=12 then(⟨12,307⟩,true)else if t=48 then(⟨48,310⟩,true)else(⟨0,-1⟩,false)):=by
 by_cases h1:t=1
 ·subst h1; rfl
 by_cases h2:t=2
 ·subst h2; rfl
 by_cases h3:t=4
 ·subst h3; rfl
 by_cases h4:t=12
 ·subst h4; rfl
 by_cases h5:t=48
 ·subst h5; rfl
 rw[if_neg h1,if_neg h2,if_neg h3,if_neg h4,if_neg h5];have b: ∀(k:Int),t≠k→((k==t)=true)=False:=fun k h=>by simp only[beq_iff_eq,eq_iff_iff,iff_false]; exact fun e=>h e.symm
 have g:Ft (Ap tab_2) tab_2.length 0 t=some (.inl t):=by
  have i: ∀(j:Nat) (k:Dz),idx tab_2 (j:Int)=some k→t≠k.tag_→Ap tab_2 (j:Int) t=some (.inl t):=fun j k e hk=>by
   have hb:(k.tag_==t)=false:=by simp only[beq_eq_false_iff_ne]; exact fun e=>hk e.symm
   unfold Ap IM;rw[e];simp only[Ab,hb,Bool.false_eq_true,if_false]
  show Ad (Ap tab_2 ((0:Nat):Int) t) _=_;rw[i 0 ⟨1,305⟩ rfl h1];show Ad (Ap tab_2 ((1:Nat):Int) t) _=_;rw[i 1 ⟨2,149⟩ rfl h2];show Ad (Ap tab_2 ((2:Nat):Int) t) _=_;rw[i 2 ⟨4,306⟩ rfl h3];show Ad (Ap tab_2 ((3:Nat):Int) t) _=_;rw[i 3 ⟨12,307⟩ rfl h4];show Ad (Ap tab_2 ((4:Nat):Int) t) _=_;rw[i 4 ⟨48,310⟩ rfl h5];rfl
 unfold F7 Bh;rw[g];rfl
def JR (t:Int):Bool:=t==1||t==2||t==4||t==12||t==48
def Adi (b:List UInt8):Bool:=match b with| [x]=>x==0||x==255|_=>false
def MF (b:List UInt8):Bool:=b.all fun c=>decide (32≤c.toNat)&&decide (c.toNat≤126)
def OA (t:Int)(b:List UInt8):Bool:=if t=1 then Adi b else if t=2 then Ht b else if t=4 then true else if t=12 then MF b else if t=48 then b.isEmpty else false
theorem XV (b:List UInt8):Fl b=some (Adi b):=by
 match b with
 | []=>rfl
 | [x]=>
  unfold Fl;have e1:((([x]:List UInt8).length:Int)==1)=true:=rfl;have e2:idx [x] 0=some x:=rfl;rw[e1,e2];have e3: ∀n:UInt8,((x.toNat:Int)==n.toNat)=(x==n):=fun n=>by
   rw[Bool.eq_iff_iff,beq_iff_eq,beq_iff_eq,←UInt8.toNat_inj];omega
  have z0:((x.toNat:Int)==0)=(x==0):=e3 0;have z1:((x.toNat:Int)==255)=(x==255):=e3 255;simp only[UN,Ab,B4,z0,z1,Bool.true_and];show _=some (x==0||x==255);cases h:x==0 with
  |true=>rfl
  |false=>simp only[Bool.not_false,UN,Ab,B4,z1,Bool.false_or]
 |x::y::l=>
  unfold Fl;have e1:(((x::y::l).length:Int)==1)=false:=by simp only[beq_eq_false_iff_ne,List.length_cons]; omega
  rw[e1];rfl
theorem Aba: ∀(a b:List UInt8),∃r,Ft (AE (a++b)) b.length (a.length:Int) ()=some r∧(r= .inl ()↔MF b=true)∧∀i,r= .inr i→0≤i
 |a,[]=>⟨.inl (),rfl,by simp[MF],fun i h=>by cases h⟩
 |a,c::b=>by
  have hi:idx (a++c::b) (a.length:Int)=some c:=by
   unfold idx;rw[if_pos (by omega)];simp
  obtain⟨r,h1,h2,h3⟩:=Aba (a++[c]) b;have ec:(decide ((c.toNat:Int)<32)||decide ((c.toNat:Int)>126))= !(decide (32≤c.toNat)&&decide (c.toNat≤126)):=by
   rw[Bool.eq_iff_iff];simp only[Bool.or_eq_true,Bool.not_eq_true',Bool.and_eq_false_iff,decide_eq_true_eq,decide_eq_false_iff_not];omega
  have st:AE (a++c::b) (a.length:Int) ()=some (if(decide (32≤c.toNat)&&decide (c.toNat≤126))=true then .inl ()else .inr (a.length:Int)):=by
   unfold AE Gx;rw[hi];simp only[Ab,B4,ec];cases decide (32≤c.toNat)&&decide (c.toNat≤126)<;>rfl
  show∃r,Ad (AE (a++c::b) (a.length:Int) ()) _=some r∧_;rw[st];cases hc:decide (32≤c.toNat)&&decide (c.toNat≤126)with
  |false=>exact⟨.inr (a.length:Int),rfl,by simp[MF,hc],fun i h=>(by cases h; omega)⟩
  |true=>
   refine⟨r,?_,?_,h3⟩
   ·show Ft (AE (a++c::b)) b.length ((a.length:Int)+1) ()=some r;rw[←h1];simp
   ·rw[h2];simp only[MF,List.all_cons,hc,Bool.true_and]
theorem XU (b:List UInt8):Gy b=some (MF b):=by
 obtain⟨r,h1,h2,h3⟩:=Aba [] b;unfold Gy BG BR;have h1:Ft (AE b) b.length 0 ()=some r:=h1;rw[h1];cases r with
 |inl u=>rw[h2.1 rfl]; rfl
 |inr i=>
  have hp:MF b=false:=by
   cases h:MF b with
   |false=>rfl
   |true=>exact absurd (h2.2 h) (by simp)
  have hi:=h3 i rfl;rw[hp];show some (!(decide (i≥0)))=_;rw[decide_eq_true hi]; rfl
theorem XT (b:List UInt8):Gv b=some b.isEmpty:=by
 cases b with
 |nil=>rfl
 |cons a l=>
  unfold Gv;have:(((a::l).length:Int)==0)=false:=by simp only[beq_eq_false_iff_ne,List.length_cons]; omega
  rw[this]; rfl
theorem N4 {t:Int}(h:JR t=true):t=1∨t=2∨t=4∨t=12∨t=48:=by
 unfold JR at h;simp only[Bool.or_eq_true,beq_iff_eq]at h;omega
theorem Jo {t:Int}(h:JR t=true): ∃k,F7 t=some (k,true)∧k.tag_=t∧∀b,Lu k.may_ b=some (OA t b):=by
 rcases N4 h with e|e|e|e|e
 ·subst e; exact⟨_,rfl,rfl,XV⟩
 ·subst e; exact⟨_,rfl,rfl,Qt⟩
 ·subst e; exact⟨_,rfl,rfl,fun b=>rfl⟩
 ·subst e; exact⟨_,rfl,rfl,XU⟩
 ·subst e; exact⟨_,rfl,rfl,XT⟩
theorem Ga {t:Int}(h:JR t=false):F7 t=some (⟨0,-1⟩,false)∧∀b,OA t b=false:=by
 unfold JR at h;simp only[Bool.or_eq_false_iff,beq_eq_false_iff_ne]at h;obtain⟨⟨⟨⟨h1,h2⟩,h3⟩,h4⟩,h5⟩:=h;refine⟨?_,fun b=> ?_⟩
 ·rw[Ac0,if_neg h1,if_neg h2,if_neg h3,if_neg h4,if_neg h5]
 ·unfold OA;rw[if_neg h1,if_neg h2,if_neg h3,if_neg h4,if_neg h5]
theorem Tz {t:Int}{b:List UInt8}(h:OA t b=true):JR t=true:=by
 cases e:JR t with
 |true=>rfl
 |false=>rw[(Ga e).2 b]at h; cases h
def mayB:Nat→g_api_Item→Bool
 |0,_=>false
 |d+1,x=>OA x.Tag x.B&&(x.Tag==48||x.L.isEmpty)&&x.L.all (mayB d)
theorem Abb (rF:g_api_Item→Int→Option Bool)(p:g_api_Item→Bool)(d:Int): ∀(a b:List g_api_Item),(∀y∈b,rF y (w64 (d-1))=some (p y))→
  ∃r,Ft (Av rF (a++b)) b.length (a.length:Int) d=some r∧(r= .inl d↔b.all p=true)∧(∀e,r= .inl e→e=d)∧∀i,r= .inr i→0≤i.1
 |a,[],_=>⟨.inl d,rfl,by simp,fun e h=>by cases h; rfl,fun i h=>by cases h⟩
 |a,c::b,h=>by
  have hi:idx (a++c::b) (a.length:Int)=some c:=by
   unfold idx;rw[if_pos (by omega)];simp
  obtain⟨r,h1,h2,h4,h3⟩:=Abb rF p d (a++[c]) b fun y hy=>h y (List.mem_cons_of_mem _ hy);have st:Av rF (a++c::b) (a.length:Int) d=some (if p c=true then .inl d else .inr ((a.length:Int),d)):=by
   unfold Av HJ;rw[hi];simp only[Ab,h c List.mem_cons_self];cases p c<;>rfl
  show∃r,Ad (Av rF (a++c::b) (a.length:Int) d) _=some r∧_;rw[st];cases hc:p c with
  |false=>exact⟨.inr ((a.length:Int),d),rfl,by simp[hc],fun e h=>(by cases h),fun i h=>(by cases h; exact Int.natCast_nonneg _)⟩
  |true=>
   refine⟨r,?_,?_,h4,h3⟩
   ·show Ft (Av rF (a++c::b)) b.length ((a.length:Int)+1) d=some r;rw[←h1];simp
   ·rw[h2];simp only[List.all_cons,hc,Bool.true_and]
theorem TO (rF:g_api_Item→Int→Option Bool)(p:g_api_Item→Bool)(d:Int)(l:List g_api_Item)(h: ∀y∈l,rF y (w64 (d-1))=some (p y)):
  ∃z,AN rF l d=some (!(l.all p),z):=by
 obtain⟨r,h1,h2,h4,h3⟩:=Abb rF p d [] l h;have h1:Ft (Av rF l) l.length 0 d=some r:=h1;unfold AN Bb;rw[h1];cases r with
 |inl u=>
  have:=h4 u rfl;subst this;rw[h2.1 rfl];exact⟨_,rfl⟩
 |inr i=>
  have hp:l.all p=false:=by
   cases h:l.all p with
   |false=>rfl
   |true=>exact absurd (h2.2 h) (by simp)
  have hi:=h3 i rfl;rw[hp];refine⟨i.2,?_⟩;show some (decide (i.1≥0),i.2)=_;rw[decide_eq_true hi]; rfl
theorem Aa3: ∀(d n:Nat) (x:g_api_Item),d<n→d≤100→Hn n x (d:Int)=some (mayB d x)
 |d,0,x,h,_=>by omega
 |0,n+1,x,_,_=>by
  show FV (Hn n) x 0=some false;unfold FV;cases hk:JR x.Tag with
  |false=>rw[(Ga hk).1]; rfl
  |true=>
   obtain⟨k,e,_,_⟩:=Jo hk;rw[e]; rfl
 |d+1,n+1,x,h,hd=>by
  have ih: ∀y∈x.L,Hn n y (w64 (((d+1:Nat):Int)-1))=some (mayB d y):=fun y _=>by
   rw[show w64 (((d+1:Nat):Int)-1)=(d:Int)from by rw[BC (by omega) (by omega)]; omega];exact Aa3 d n y (by omega) (by omega)
  obtain⟨z,hz⟩:=TO (Hn n) (mayB d) ((d+1:Nat):Int) x.L ih;show FV (Hn n) x ((d+1:Nat):Int)=some (mayB (d+1) x);unfold FV mayB;have e1:decide (((d+1:Nat):Int)<1)=false:=by rw[decide_eq_false_iff_not]; omega
  have e2:decide ((x.L.length:Int)>0)= !x.L.isEmpty:=by
   cases x.L with
   |nil=>rfl
   |cons a l=>show decide _=true; rw[decide_eq_true_eq,List.length_cons]; omega
  have e3:(x.Tag !=48)= !(x.Tag==48):=rfl;rw[e1,e2,e3];cases hk:JR x.Tag with
  |false=>
   rw[(Ga hk).1,(Ga hk).2]; rfl
  |true=>
   obtain⟨k,e,_,hm⟩:=Jo hk;rw[e];simp only[Ab,Bool.not_true,Bool.or_false,Bool.not_false,UN,hm,hz,Bool.not_not];cases OA x.Tag x.B<;>cases x.Tag==48<;>cases x.L.isEmpty<;>rfl
theorem NX (x:g_api_Item):Il x 8=some (mayB 8 x):=Aa3 8 C3 x (by have:=GK; omega) (by decide)
end Go.Proofs.YtibojdgdjhngiaaGreatDoor
end
section
namespace Go.Proofs.YtibojdgdjhngiaaGreatDoor
open Go Go.Gw Go.Ax
def EG (n:Nat):List UInt8:=if n<128 then [toB (n:Int)]else if n<256 then [129,toB (n:Int)]else [130,toB (B1 (n:Int) 8),toB (n:Int)]
def putB:Nat→g_api_Item→List UInt8
 |0,_=> []
 |d+1,x=>toB x.Tag::(EG (x.B++x.L.flatMap (putB d)).length++(x.B++x.L.flatMap (putB d)))
def depB:Nat→g_api_Item→Prop
 |0,_=>False
 |d+1,x=> ∀y∈x.L,depB d y
theorem Ys: ∀{d:Nat} {x:g_api_Item},mayB d x=true→depB d x
 |0,x,h=>by cases h
 |d+1,x,h=>by
  simp only[mayB,Bool.and_eq_true,List.all_eq_true]at h;exact fun y hy=>Ys (h.2 y hy)
theorem Ng (n:Nat):1≤(EG n).length∧(EG n).length≤3:=by
 unfold EG;split
 ·exact⟨by simp,by simp⟩
 ·split
  ·exact⟨by simp,by simp⟩
  ·exact⟨by simp,by simp⟩
theorem putE: ∀(d n:Nat) (x:g_api_Item) (b:List UInt8),d≤n→depB d x→b.length+(putB d x).length≤100000000000000→Gk n b x=some (b++putB d x)
 |0,n,x,b,_,h,_=>h.elim
 |d+1,0,x,b,h,_,_=>by omega
 |d+1,n+1,x,b,hn,hd,hb=>by
  have eP:putB (d+1) x=toB x.Tag::(EG (x.B++x.L.flatMap (putB d)).length++(x.B++x.L.flatMap (putB d))):=rfl;have go: ∀(l:List g_api_Item) (i:Int) (s:List UInt8),(∀y∈l,depB d y)→s.length+(l.flatMap (putB d)).length≤100000000000000→CC (CZ (Gk n)) l i s=some (s++l.flatMap (putB d)):=by
   intro l;induction l with
   |nil=>intro i s _ _; simp[CC]
   |cons y l ih=>
    intro i s h hs;rw[List.flatMap_cons,List.length_append]at hs;have e:CZ (Gk n) i y s=some (s++putB d y):=by
     unfold CZ;rw[putE d n y s (by omega) (h y List.mem_cons_self) (by omega)];rfl
    show Ad (CZ (Gk n) i y s) _=_;rw[e];show CC _ l (i+1) (s++putB d y)=_;rw[ih (i+1) (s++putB d y) (fun z hz=>h z (List.mem_cons_of_mem _ hz)) (by rw[List.length_append]; omega),List.flatMap_cons,List.append_assoc]
  rw[eP]at hb⊢;simp only[List.length_cons,List.length_append]at hb;have hc:E3 (Gk n) x=some (x.B++x.L.flatMap (putB d)):=by
   unfold E3;rw[Nk (by omega),Ab,go x.L 0 x.B hd (by omega)];rfl
  show Ik (Gk n) b x=_;unfold Ik;rw[hc,Ab,LK 1 (by simp only[List.length_cons,List.length_nil]; omega) (by simp only[List.length_cons,List.length_nil]; omega),Ab];rw[←List.length_append]at hb;have hL:(x.B++x.L.flatMap (putB d)).length=(x.B++x.L.flatMap (putB d)).length:=rfl;generalize (x.B++x.L.flatMap (putB d))=c at hb hL⊢;have hl:=Ng c.length;have hm: ∀z:List UInt8,z.length≤3→app 1 (b++[toB x.Tag]) z=some (b++[toB x.Tag]++z):=fun z hz=>LK 1 (by simp only[List.length_append,List.length_cons,List.length_nil]; omega) (by simp only[List.length_append,List.length_cons,List.length_nil]; omega);have fin:app 1 (b++[toB x.Tag]++EG c.length) c=some (b++toB x.Tag::(EG c.length++c)):=by
   rw[LK 1 (by simp only[List.length_append,List.length_cons,List.length_nil]; omega) (by simp only[List.length_append,List.length_cons,List.length_nil]; omega)];simp
  have mid:(bnd (decide ((c.length:Int)<128)) fun x4=>
    if x4=true then
     Ad (app 1 (b++[toB x.Tag]) ([(toB (c.length:Int))]:List UInt8)) fun x5=>
     some x5
    else
    bnd ((decide ((c.length:Int)<256))) fun x6=>
    if x6=true then
     Ad (app 1 (b++[toB x.Tag]) ([129,(toB (c.length:Int))]:List UInt8)) fun x7=>
     some x7
    else
    Ad (app 1 (b++[toB x.Tag]) ([130,(toB (B1 (c.length:Int) 8)),(toB (c.length:Int))]:List UInt8)) fun x8=>
    some x8)=some (b++[toB x.Tag]++EG c.length):=by
   rw[hm [toB (c.length:Int)] (by simp),hm [129,toB (c.length:Int)] (by simp),hm [130,toB (B1 (c.length:Int) 8),toB (c.length:Int)] (by simp)];simp only[B4,Ab,decide_eq_true_eq];unfold EG;by_cases h1:c.length<128
   ·rw[if_pos h1,if_pos (by omega)]
   ·rw[if_neg h1,if_neg (by omega)];by_cases h2:c.length<256
    ·rw[if_pos h2,if_pos (by omega)]
    ·rw[if_neg h2,if_neg (by omega)]
  rw[mid];simp only[Ab];rw[fin];rfl
theorem Ab9 {x:g_api_Item}(h:depB 8 x)(hs:(putB 8 x).length≤100000000000000):NY [] x=some (putB 8 x):=by
 have:=putE 8 C3 x [] (by have:=GK; omega) h (by simpa using hs);exact this
theorem AbB {x:g_api_Item}(hs:(putB 8 x).length≤100000000000000):
  Im x=some (if mayB 8 x=true then(if(putB 8 x).length≤8192 then(putB 8 x,0)else([],2))else([],1)):=by
 unfold Im;rw[NX];cases hm:mayB 8 x with
 |false=>rfl
 |true=>
  simp only[Ab,Bool.not_true,Bool.false_eq_true,if_false,if_true];rw[Ab9 (Ys hm) hs];simp only[Ab,decide_eq_true_eq];by_cases h:(putB 8 x).length≤8192
  ·rw[if_neg (by omega),if_pos h]
  ·rw[if_pos (by omega),if_neg h]
theorem UP {α:Type}(f:α→List UInt8)(k:Nat): ∀(l:List α),(∀y∈l,(f y).length≤k)→(l.flatMap f).length≤l.length*k
 | [],_=>by simp
 |y::l,h=>by
  have h1:=h y List.mem_cons_self;have h2:=UP f k l fun z hz=>h z (List.mem_cons_of_mem _ hz);rw[List.flatMap_cons,List.length_append,List.length_cons,Nat.succ_mul];omega
theorem Qf (d:Nat)(x:g_api_Item):(putB (d+1) x).length≤4+x.B.length+(x.L.flatMap (putB d)).length:=by
 have:=Ng (x.B++x.L.flatMap (putB d)).length;show(toB x.Tag::(EG (x.B++x.L.flatMap (putB d)).length++(x.B++x.L.flatMap (putB d)))).length≤_;rw[List.length_cons,List.length_append,List.length_append]at*;omega
theorem Kj (d:Nat)(n:Int):(putB d (G1 n)).length≤12:=by
 cases d with
 |zero=>simp[putB]
 |succ d=>
  have h:=Qf d (G1 n);have h1:(G1 n).B.length≤8:=PQ (be8 n);have h2:(G1 n).L=[]:=rfl;rw[h2]at h;simp only[List.flatMap_nil,List.length_nil]at h;omega
theorem NM (d:Nat){s:ByteArray}(hs:s.size≤64):(putB d (EL s)).length≤68:=by
 cases d with
 |zero=>simp[putB]
 |succ d=>
  have h:=Qf d (EL s);have h1:(EL s).B.length=s.size:=J9 s;have h2:(EL s).L=[]:=rfl;rw[h2]at h;simp only[List.flatMap_nil,List.length_nil]at h;omega
theorem YG (d:Nat)(v:Bool):(putB d (LJ v)).length≤5:=by
 cases d with
 |zero=>simp[putB]
 |succ d=>
  have h:=Qf d (LJ v);have h1:(LJ v).B.length=1:=rfl;have h2:(LJ v).L=[]:=rfl;rw[h2]at h;simp only[List.flatMap_nil,List.length_nil]at h;omega
theorem Ju (d:Nat)(l:List g_api_Item)(k:Nat)(hk: ∀e y,y∈l→(putB e y).length≤k):(putB d (JP l)).length≤4+l.length*k:=by
 cases d with
 |zero=>simp[putB]
 |succ d=>
  have h:=Qf d (JP l);have h1:(JP l).B.length=0:=rfl;have h3:=UP (putB d) k l fun y hy=>hk d y hy;have h2:(JP l).L=l:=rfl;rw[h2]at h;omega
theorem OR (d:Nat){l:List ByteArray}(h: ∀s∈l,s.size≤64)(hn:l.length≤8):(putB d (Gi l)).length≤1000:=by
 have:=Ju d (l.map EL) 68 fun e y hy=>by
  obtain⟨s,hs,e2⟩:=List.mem_map.1 hy;rw[←e2];exact NM e (h s hs)
 rw[List.length_map]at this;unfold Gi;omega
theorem mem2 {α:Type}{p:α→Prop}{a b:α}(ha:p a)(hb:p b): ∀y∈[a,b],p y:=by
 intro y hy;simp only[List.mem_cons,List.not_mem_nil,or_false]at hy;rcases hy with e|e<;>rw[e]<;>assumption
theorem Zx (d:Nat){c:g_api_Cert}(h:SA c):(putB d (K5 c)).length≤20000:=by
 have:=Ju d [G1 c.Serial,EL c.Issuer,EL c.Subject,Jq c.Key,Gi c.Names,G1 c.From,G1 c.Until,LJ c.Ca,G1 c.Depth,Gi c.Permit] 1000 fun e y hy=>by
  simp only[List.mem_cons,List.not_mem_nil,or_false]at hy;rcases hy with q|q|q|q|q|q|q|q|q|q<;>rw[q]
  ·have:=Kj e c.Serial; omega
  ·have:=NM e h.issuer; omega
  ·have:=NM e h.subject; omega
  ·have:=Kj e (w64 (c.Key.toNat:Int)); unfold Jq; omega
  ·exact OR e h.names h.few
  ·have:=Kj e c.From; omega
  ·have:=Kj e c.Until; omega
  ·have:=YG e c.Ca; omega
  ·have:=Kj e c.Depth; omega
  ·exact OR e h.permit h.fewP
 simp only[List.length_cons,List.length_nil]at this;unfold K5;omega
theorem Xf (d:Nat)(p:g_api_Promise):(putB d (Qg p)).length≤100:=by
 have:=Ju d [G1 p.Log,G1 p.At,Jq p.Leaf.1,Jq p.Leaf.2,Jq p.Sig.E,Jq p.Sig.S] 12 fun e y hy=>by
  simp only[List.mem_cons,List.not_mem_nil,or_false]at hy;rcases hy with q|q|q|q|q|q<;>rw[q]<;>exact Kj e _
 simp only[List.length_cons,List.length_nil]at this;unfold Qg;omega
theorem YH (d:Nat){c:g_api_Cert}(h:SA c):(putB d (Mq c)).length≤50000:=by
 have:=Ju d [K5 c,Kg c.Proms] 20000 fun e=>mem2 (p:=fun y=>(putB e y).length≤20000) (Zx e h) (by
  have:=Ju e (c.Proms.map Qg) 100 fun f y hy=>by
   obtain⟨p,hp,e2⟩:=List.mem_map.1 hy;rw[←e2];exact Xf f p
  rw[List.length_map]at this;have:=h.proms;unfold Kg;omega)
 simp only[List.length_cons,List.length_nil]at this;unfold Mq;omega
theorem U9 (d:Nat){c:g_api_Cert}(h:SA c):(putB d (wholeI c)).length≤200000:=by
 have:=Ju d [Mq c,JP [Jq c.Sig.E,Jq c.Sig.S]] 50000 fun e=>mem2 (p:=fun y=>(putB e y).length≤50000) (YH e h) (by
  have:=Ju e [Jq c.Sig.E,Jq c.Sig.S] 12 fun f=>mem2 (p:=fun y=>(putB f y).length≤12) (Kj f _) (Kj f _);simp only[List.length_cons,List.length_nil]at this;omega)
 simp only[List.length_cons,List.length_nil]at this;unfold wholeI;omega
def checkV (c:g_api_Cert):Int:=if formB c=true then(if mayB 8 (wholeI c)=true∧(putB 8 (wholeI c)).length≤2048 then 0 else 2)else 1
theorem Adc (b:List UInt8)(m:Bool):(Ad (some (if m=true then(if b.length≤8192 then(b,(0:Int))else([],2))else([],1))) fun x3=>if((x3.2 !=0)||(decide ((x3.1.length:Int)>2048)))=true then some (2:Int)else some 0)=some (if m=true∧b.length≤2048 then 0 else 2):=by
 cases m with
 |false=>rfl
 |true=>
  simp only[if_true,Ab,true_and];by_cases h1:b.length≤8192
  ·rw[if_pos h1];by_cases h2:b.length≤2048
   ·rw[if_pos h2,if_neg];simp only[bne_self_eq_false,Bool.false_or,decide_eq_true_eq];omega
   ·rw[if_neg h2,if_pos];simp only[bne_self_eq_false,Bool.false_or,decide_eq_true_eq];omega
  ·rw[if_neg h1];have h2: ¬b.length≤2048:=by omega
   rw[if_neg h2];rfl
theorem LG (c:g_api_Cert):D7 c=some (checkV c):=by
 unfold D7 checkV;rw[Yg];cases hf:formB c with
 |false=>rfl
 |true=>
  have hs:=(TF hf).sized;simp only[Ab,Bool.not_true,Bool.false_eq_true,if_false,if_true];have hl:=U9 8 hs;rw[Wa hs,Ab,AbB (by omega),Adc]
end Go.Proofs.YtibojdgdjhngiaaGreatDoor
end
section
namespace Go.Proofs.YtibojdgdjhngiaaGreatDoor
open Go Go.Gw Go.Ax
theorem Wg (x:Int):w64 (x%18446744073709551616)=w64 x:=by unfold w64; omega
theorem nat_or (q b:Nat)(h:b<256):256*q|||b=256*q+b:=(Nat.two_pow_add_eq_or_of_lt (i:=8) h q).symm
theorem KV (s b:Int)(h0:0≤b)(h1:b<256):Oz (Iy s 8) b=w64 (s*256+b):=by
 have e1:(Iy s 8)=w64 (s*256):=rfl;unfold Oz;rw[BitVec.toNat_or,BitVec.toNat_ofInt,BitVec.toNat_ofInt,e1];obtain⟨q,hq⟩: ∃q:Nat,(w64 (s*256)% ((2^64:Nat):Int)).toNat=256*q:=by
  refine⟨(w64 (s*256)% ((2^64:Nat):Int)).toNat/256,?_⟩;unfold w64;omega
 have hb:(b% ((2^64:Nat):Int)).toNat=b.toNat:=by omega
 rw[hb,hq,nat_or q b.toNat (by omega),←Wg,←Wg (s*256+b)];congr 1;have hq':w64 (s*256)%18446744073709551616=256*q:=by
  have:(0:Int)≤w64 (s*256)% ((2^64:Nat):Int):=Int.emod_nonneg _ (by decide);have e:(((2^64:Nat):Int))=18446744073709551616:=rfl;rw[e]at this hq;omega
 unfold w64 at hq';omega
theorem Jt (n:Int):((toB n).toNat:Int)=n%256:=by
 have h:0≤n%256:=Int.emod_nonneg _ (by decide);have h2:n%256<256:=Int.emod_lt_of_pos _ (by decide);unfold toB;rw[UInt8.toNat_ofNat'];omega
theorem Te (n:Int):B1 n 8=n/256:=by
 unfold B1;rw[Int.fdiv_eq_ediv_of_nonneg _ (by decide)];rfl
theorem R8 {α:Type}(x:α)(l:List α):idx (x::l) 0=some x:=rfl
theorem fst1 (b:UInt8)(r:List UInt8)(h:b.toNat<128):BI (b::r)=some ((b.toNat:Int),1,0):=by
 unfold BI;have e0:(((b::r).length:Int)==0)=false:=by simp only[beq_eq_false_iff_ne,List.length_cons]; omega
 have e1:w64 (b.toNat:Int)=(b.toNat:Int):=BC (by omega) (by omega);rw[e0,R8,if_neg (by decide),Ab,e1,if_pos (by simp only[decide_eq_true_eq]; omega)]
theorem QK (a:UInt8)(l r:List UInt8):cut (a::l++r) 1 ((l.length:Int)+1)=some l:=by
 unfold cut;rw[if_pos ⟨by decide,by omega,by simp only[List.length_append,List.length_cons]; omega⟩];have e:((l.length:Int)+1).toNat-(1:Int).toNat=l.length:=by show((l.length:Int)+1).toNat-1=_; omega
 rw[e];show some (List.take l.length (l++r))=_;rw[List.take_left]
theorem fst2 (b:UInt8)(r:List UInt8)(h:128≤b.toNat):BI (129::b::r)=some ((b.toNat:Int),2,0):=by
 unfold BI;have e0:(((129::b::r).length:Int)==0)=false:=by simp only[beq_eq_false_iff_ne,List.length_cons]; omega
 have e1:w64 (((129:UInt8).toNat:Int))=129:=BC (x:=129) (by decide) (by decide);have e2:w64 ((129:Int)-128)=1:=rfl;have e3:w64 ((1:Int)+1)=2:=rfl;have e4:decide (((129::b::r).length:Int)≤1)=false:=by simp only[decide_eq_false_iff_not,List.length_cons]; omega
 have e5:cut (129::b::r) 1 2=some [b]:=QK 129 [b] r;have hb:=b.toNat_lt;have e6:Oz (Iy 0 8) (w64 (b.toNat:Int))=(b.toNat:Int):=by
  rw[BC (x:=(b.toNat:Int)) (by omega) (by omega),KV 0 _ (by omega) (by omega),Int.zero_mul,Int.zero_add,BC (by omega) (by omega)]
 have e7:CC Dl [b] 0 0=some (b.toNat:Int):=by
  show some (Oz (Iy 0 8) (w64 (b.toNat:Int)))=_;rw[e6]
 have e8:decide ((b.toNat:Int)<128)=false:=by simp only[decide_eq_false_iff_not]; omega
 rw[e0,R8,if_neg (by decide),Ab,e1,if_neg (by decide),B4,e2,B4,if_neg (by decide),B4,e4,if_neg (by decide),e3,e5,Ab,e7,Ab,Ab,e8,if_neg (by simp)]
theorem fst3 (b1 b2:UInt8)(r:List UInt8)(h:1≤b1.toNat):BI (130::b1::b2::r)=some ((b1.toNat:Int)*256+(b2.toNat:Int),3,0):=by
 unfold BI;have e0:(((130::b1::b2::r).length:Int)==0)=false:=by simp only[beq_eq_false_iff_ne,List.length_cons]; omega
 have e1:w64 (((130:UInt8).toNat:Int))=130:=BC (x:=130) (by decide) (by decide);have e2:w64 ((130:Int)-128)=2:=rfl;have e3:w64 ((2:Int)+1)=3:=rfl;have e4:decide (((130::b1::b2::r).length:Int)≤2)=false:=by simp only[decide_eq_false_iff_not,List.length_cons]; omega
 have e5:cut (130::b1::b2::r) 1 3=some [b1,b2]:=QK 130 [b1,b2] r;have hb1:=b1.toNat_lt;have hb2:=b2.toNat_lt;have e6:Oz (Iy 0 8) (w64 (b1.toNat:Int))=(b1.toNat:Int):=by
  rw[BC (x:=(b1.toNat:Int)) (by omega) (by omega),KV 0 _ (by omega) (by omega),Int.zero_mul,Int.zero_add,BC (by omega) (by omega)]
 have e6':Oz (Iy (b1.toNat:Int) 8) (w64 (b2.toNat:Int))=(b1.toNat:Int)*256+(b2.toNat:Int):=by
  rw[BC (x:=(b2.toNat:Int)) (by omega) (by omega),KV _ _ (by omega) (by omega),BC (by omega) (by omega)]
 have e7:CC Dl [b1,b2] 0 0=some ((b1.toNat:Int)*256+(b2.toNat:Int)):=by
  show some (Oz (Iy (Oz (Iy 0 8) (w64 (b1.toNat:Int))) 8) (w64 (b2.toNat:Int)))=_;rw[e6,e6']
 have e8:decide ((b1.toNat:Int)*256+(b2.toNat:Int)<128)=false:=by simp only[decide_eq_false_iff_not]; omega
 have e9:decide ((b1.toNat:Int)*256+(b2.toNat:Int)<256)=false:=by simp only[decide_eq_false_iff_not]; omega
 rw[e0,R8,if_neg (by decide),Ab,e1,if_neg (by decide),B4,e2,B4,if_neg (by decide),B4,e4,if_neg (by decide),e3,e5,Ab,e7,Ab,Ab,e8,e9,if_neg (by decide)]
theorem XQ {n:Nat}(hn:n<65536)(r:List UInt8):BI (EG n++r)=some ((n:Int),((EG n).length:Int),0):=by
 have n2:=Jt (n:Int);have n1:=Jt (B1 (n:Int) 8);rw[Te]at n1;unfold EG;rw[Te];generalize toB (n:Int)=b2 at n2;generalize toB ((n:Int)/256)=b1 at n1;by_cases h1:n<128
 ·rw[if_pos h1];have e:(b2.toNat:Int)=n:=by omega
  have:=fst1 b2 r (by omega);rw[e]at this;exact this
 ·rw[if_neg h1];by_cases h2:n<256
  ·rw[if_pos h2];have e:(b2.toNat:Int)=n:=by omega
   have:=fst2 b2 r (by omega);rw[e]at this;exact this
  ·rw[if_neg h2];have e:(b1.toNat:Int)*256+(b2.toNat:Int)=n:=by omega
   have:=fst3 b1 b2 r (by omega);rw[e]at this;exact this
theorem QM {α:Type}(a b:List α):cut (a++b) (a.length:Int) (((a++b).length:Nat):Int)=some b:=by
 unfold cut;rw[if_pos ⟨by omega,by rw[List.length_append]; omega,by omega⟩];simp only[Int.toNat_natCast,List.drop_left];rw[List.take_of_length_le];rw[List.length_append]; omega
theorem QL {α:Type}(a b:List α):cut (a++b) 0 (a.length:Int)=some a:=by
 unfold cut;rw[if_pos ⟨by omega,by omega,by rw[List.length_append]; omega⟩];simp
theorem Tk {d:Nat}{x:g_api_Item}(h:mayB d x=true):1≤(putB d x).length:=by
 cases d with
 |zero=>cases h
 |succ d=>show 1≤(_::_:List UInt8).length; rw[List.length_cons]; omega
theorem Zh {t:Int}(h:JR t=true):w64 ((toB t).toNat:Int)=t:=by
 rw[Jt];rcases N4 h with e|e|e|e|e<;>subst e<;>rfl
theorem XK (rF:List UInt8→Int→Option (g_api_Item×List UInt8×Int))(p:g_api_Item→List UInt8)(D:Int)(r0:List UInt8): ∀(l acc:List g_api_Item) (m:Nat),l.length<m→acc.length+l.length≤100000→
  (∀y∈l,1≤(p y).length∧∀r,rF (p y++r) (w64 (D-1))=some (y,r,0))→iter (Bp rF D) m (r0,l.flatMap p,acc)=some (.inl (r0,acc++l))
 |l,acc,0,h,_,_=>by omega
 | [],acc,m+1,_,_,_=>by
  have e:Bp rF D (r0,[],acc)=some (.inr (.inl (r0,acc))):=rfl;show Ad (Bp rF D (r0,[],acc)) _=_;rw[e];simp
 |y::l,acc,m+1,h,ha,hy=>by
  rw[List.length_cons]at h ha;obtain⟨h1,h2⟩:=hy y List.mem_cons_self;have e:Bp rF D (r0,(y::l).flatMap p,acc)=some (.inl (r0,l.flatMap p,acc++[y])):=by
   unfold Bp;have e0:decide ((((y::l).flatMap p).length:Int)>0)=true:=by rw[decide_eq_true_eq,List.flatMap_cons,List.length_append]; omega
   show(if decide ((((y::l).flatMap p).length:Int)>0)=true then _ else _)=_;rw[if_pos e0];simp only[List.flatMap_cons,h2,Ab,bne_self_eq_false,Bool.false_eq_true,if_false];rw[LK 56 (by show(acc.length+1)*56≤_; omega) (by show acc.length+1≤_; omega)];rfl
  show Ad (Bp rF D (r0,(y::l).flatMap p,acc)) _=_;rw[e];show iter (Bp rF D) m (r0,l.flatMap p,acc++[y])=_;rw[XK rF p D r0 l (acc++[y]) m (by omega) (by rw[List.length_append]; show acc.length+1+_≤_; omega) fun z hz=>hy z (List.mem_cons_of_mem _ hz),List.append_assoc];rfl
theorem QE (p:g_api_Item→List UInt8): ∀(l:List g_api_Item),(∀y∈l,1≤(p y).length)→l.length≤(l.flatMap p).length
 | [],_=>by simp
 |y::l,h=>by
  have h1:=h y List.mem_cons_self;have h2:=QE p l fun z hz=>h z (List.mem_cons_of_mem _ hz);rw[List.flatMap_cons,List.length_append,List.length_cons];omega
theorem Ni (p:g_api_Item→List UInt8){y:g_api_Item}: ∀{l:List g_api_Item},y∈l→(p y).length≤(l.flatMap p).length
 |z::l,h=>by
  rw[List.flatMap_cons,List.length_append];rcases List.mem_cons.1 h with e|h
  ·rw[e]; omega
  ·have:=Ni p h; omega
theorem AcR (d:Nat): ∀(D n:Nat) (x:g_api_Item) (r:List UInt8),mayB d x=true→d≤D→d≤n→D≤100→(putB d x).length≤8192→Ev n (putB d x++r) (D:Int)=some (x,r,0):=by
 induction d with
 |zero=>intro D n x r h; cases h
 |succ d IH=>
  intro D n x r hm hD hn hDD hl;obtain⟨n,rfl⟩: ∃k,n=k+1:=⟨n-1,by omega⟩;have eP:putB (d+1) x=toB x.Tag::(EG (x.B++x.L.flatMap (putB d)).length++(x.B++x.L.flatMap (putB d))):=rfl;have ih: ∀y∈x.L,mayB d y=true∧∀r,(putB d y).length≤8192→Ev n (putB d y++r) (w64 ((D:Int)-1))=some (y,r,0):=fun y hy=>by
   simp only[mayB,Bool.and_eq_true,List.all_eq_true]at hm;refine⟨hm.2 y hy,fun r h1=> ?_⟩;have:=IH (D-1) n y r (hm.2 y hy) (by omega) (by omega) (by omega) h1;rw[show w64 ((D:Int)-1)=((D-1:Nat):Int)from by rw[BC (by omega) (by omega)]; omega];exact this
  have hm0:=hm;simp only[mayB,Bool.and_eq_true,List.all_eq_true]at hm0;have hk:=Tz hm0.1.1;rw[eP]at hl⊢;generalize hc:x.B++x.L.flatMap (putB d)=c at hl⊢;have hlen:=Ng c.length;simp only[List.length_cons,List.length_append]at hl;obtain⟨k,f1,f2,f3⟩:=Jo hk;show En (Ev n) (toB x.Tag::(EG c.length++c)++r) (D:Int)=_;unfold En;have e0:(((toB x.Tag::(EG c.length++c)++r).length:Int)==0)=false:=by simp only[beq_eq_false_iff_ne,List.length_append,List.length_cons]; omega
  have e1:idx (toB x.Tag::(EG c.length++c)++r) 0=some (toB x.Tag):=rfl;rw[e0,e1,if_neg (by decide),Ab,Zh hk,f1,Ab];have e2:decide ((D:Int)<1)=false:=by rw[decide_eq_false_iff_not]; omega
  have e3:cut (toB x.Tag::(EG c.length++c)++r) 1 ((toB x.Tag::(EG c.length++c)++r).length:Int)=some (EG c.length++(c++r)):=by
   rw[List.cons_append,MN,List.append_assoc]
  rw[e2,if_neg (by simp),e3,Ab,XQ (by omega),Ab,if_neg (by simp)];have e4:w64 (w64 (1+((EG c.length).length:Int))+(c.length:Int))=1+((EG c.length).length:Int)+(c.length:Int):=by
   rw[BC (x:=1+((EG c.length).length:Int)) (by omega) (by omega),BC (by omega) (by omega)]
  have e5:decide (1+((EG c.length).length:Int)+(c.length:Int)>8192)=false:=by rw[decide_eq_false_iff_not]; omega
  have e6:cut (toB x.Tag::(EG c.length++c)++r) (w64 (1+((EG c.length).length:Int))) ((toB x.Tag::(EG c.length++c)++r).length:Int)=some (c++r):=by
   have:=QM (toB x.Tag::EG c.length) (c++r);rw[BC (x:=1+((EG c.length).length:Int)) (by omega) (by omega)];rw[show((toB x.Tag::EG c.length).length:Int)=1+((EG c.length).length:Int)from by rw[List.length_cons]; omega]at this;rw[show toB x.Tag::(EG c.length++c)++r=toB x.Tag::EG c.length++(c++r)from by simp];exact this
  have e7:decide ((c.length:Int)>((c++r).length:Int))=false:=by rw[decide_eq_false_iff_not,List.length_append]; omega
  rw[e4,e5,if_neg (by decide),e6,Ab,e7,if_neg (by decide),QL,Ab,QM,Ab,f2];cases ht:x.Tag==48 with
  |false=>
   have hL:x.L=[]:=by
    have:=hm0.1.2;rw[ht]at this;simpa using this
   have hcB:c=x.B:=by rw[←hc,hL]; simp
   have e8:(x.Tag !=48)=true:=by simp only[bne,ht,Bool.not_false]
   rw[if_pos e8,hcB,f3,Ab,hm0.1.1,if_neg (by decide),Nk (by rw[←hcB]; omega),Ab];cases x;simp only at hL;rw[hL]
  |true=>
   have e8:(x.Tag !=48)=false:=by simp only[bne,ht,Bool.not_true]
   have ht2:x.Tag=48:=by simpa using ht
   have hB:x.B=[]:=by
    have:=hm0.1.1;rw[ht2]at this;exact List.isEmpty_iff.1 this
   have hcL:c=x.L.flatMap (putB d):=by rw[←hc,hB]; rfl
   rw[e8,if_neg (by decide)];have hp: ∀y∈x.L,1≤(putB d y).length:=fun y hy=>Tk (ih y hy).1;have hn1:=QE (putB d) x.L hp;have:=XK (Ev n) (putB d) (D:Int) r x.L [] C3 (by have:=GK; rw[hcL]at hl; omega) (by rw[hcL]at hl; simp only[List.length_nil]; omega) fun y hy=>⟨hp y hy,fun r'=>by
    exact(ih y hy).2 r' (by have:=Ni (putB d) hy; rw[hcL]at hl; omega)⟩
   rw[hcL,this];cases x;simp only at hB;rw[hB];rfl
end Go.Proofs.YtibojdgdjhngiaaGreatDoor
end
section
namespace Go.Proofs.YtibojdgdjhngiaaGreatDoor
open Go Go.Gw Go.Ax
def s8 (a:UInt8):Int:=if a.toNat<128 then(a.toNat:Int)else(a.toNat:Int)-256
def SV (s:Int)(l:List UInt8):Int:=l.foldl (fun s b=>s*256+(b.toNat:Int)) s
def Zc (s:Int)(l:List UInt8):Int:=l.foldl (fun s b=>w64 (s*256+(b.toNat:Int))) s
def PU:List UInt8→Int
 | []=>0
 |a::l=>SV (s8 a) l
def JS:List UInt8→Int
 | []=>0
 |a::l=>Zc (s8 a) l
theorem Ze (x b:Int):w64 (w64 x*256+b)=w64 (x*256+b):=by unfold w64; omega
theorem T9: ∀(l:List UInt8) (s x:Int),s=w64 x→Zc s l=w64 (SV x l)
 | [],s,x,h=>h
 |b::l,s,x,h=>by
  show Zc (w64 (s*256+(b.toNat:Int))) l=w64 (SV (x*256+(b.toNat:Int)) l);exact T9 l _ _ (by rw[h,Ze])
theorem WT (a:UInt8): -128≤s8 a∧s8 a<128:=by
 have:=a.toNat_lt;unfold s8;split<;>omega
theorem Ms (l:List UInt8)(h:l≠[]):JS l=w64 (PU l):=by
 cases l with
 |nil=>exact absurd rfl h
 |cons a l=>
  have:=WT a;exact T9 l (s8 a) (s8 a) (BC (by omega) (by omega)).symm
theorem w8_s8 (a:UInt8):w64 (w8 (a.toNat:Int))=s8 a:=by
 have h:=a.toNat_lt;have e:w8 (a.toNat:Int)=s8 a:=by
  show(if(true&&decide ((a.toNat:Int)%256≥128))=true then(a.toNat:Int)%256-256 else(a.toNat:Int)%256)=s8 a;unfold s8;simp only[Bool.true_and,decide_eq_true_eq];split
  ·rw[if_neg (by omega)]; omega
  ·rw[if_pos (by omega)]; omega
 have:=WT a;rw[e,BC (by omega) (by omega)]
theorem U3: ∀(l:List UInt8) (i s:Int),CC C0 l i s=some (Zc s l)
 | [],i,s=>rfl
 |b::l,i,s=>by
  have h:=b.toNat_lt;have e:C0 i b s=some (w64 (s*256+(b.toNat:Int))):=by
   unfold C0;rw[B4,BC (x:=(b.toNat:Int)) (by omega) (by omega),KV s _ (by omega) (by omega)]
  show Ad (C0 i b s) _=_;rw[e,Ab];exact U3 l (i+1) _
theorem YM {x:g_api_Item}(h:x.B≠[]):Gz x=some (JS x.B):=by
 unfold Gz;cases hb:x.B with
 |nil=>exact absurd hb h
 |cons a l=>
  rw[R8,Ab,MN,Ab,w8_s8,U3,Ab,Ab];rfl
theorem Wy (b:UInt8):((toB (-((Wz b 7).toNat:Int))).toNat:Int)=if b.toNat<128 then 0 else 255:=by
 have h:=b.toNat_lt;rw[Jt];have e:(Wz b 7).toNat=b.toNat/128:=by
  unfold Wz;rw[UInt8.toNat_ofNat'];show b.toNat/128%256=_;omega
 rw[e];split<;>omega
theorem R2 {a b:UInt8}{l:List UInt8}(hl:l.length≤6):Ht (a::b::l)=false↔(a.toNat:Int)=if b.toNat<128 then 0 else 255:=by
 show(decide (((a::b::l).length:Int)≤8)&&((a.toNat:Int) !=((toB (-((Wz b 7).toNat:Int))).toNat:Int)))=false↔_;rw[Wy,decide_eq_true (by simp only[List.length_cons]; omega),Bool.true_and];simp only[bne_eq_false_iff_eq]
theorem Rz {a b:UInt8}{l:List UInt8}(h:(a.toNat:Int)=if b.toNat<128 then 0 else 255):PU (a::b::l)=PU (b::l):=by
 show SV (s8 a*256+(b.toNat:Int)) l=SV (s8 b) l;have hb:=b.toNat_lt;congr 1;unfold s8;by_cases h1:b.toNat<128
 ·rw[if_pos h1]at h⊢;rw[if_pos (by omega)];omega
 ·rw[if_neg h1]at h⊢;rw[if_neg (by omega)];omega
theorem Ru: ∀(l:List UInt8),l.length≤8→PU (M9 l)=PU l
 | [],_=>rfl
 | [a],_=>rfl
 |a::b::l,h=>by
  simp only[List.length_cons]at h;unfold M9;cases hl:Ht (a::b::l)with
  |true=>rfl
  |false=>
   rw[if_neg (by decide),Ru (b::l) (by simp only[List.length_cons]; omega),Rz ((R2 (by omega)).1 hl)]
theorem SX: ∀(l:List UInt8),l≠[]→M9 l≠[]
 | [],h=>h
 | [a],h=>h
 |a::b::l,h=>by
  unfold M9;split
  ·exact h
  ·exact SX (b::l) (by simp)
theorem OP: ∀(l:List UInt8),l≠[]→Ht (M9 l)=true
 | [],h=>absurd rfl h
 | [a],_=>rfl
 |a::b::l,_=>by
  unfold M9;cases hl:Ht (a::b::l)with
  |true=>rw[if_pos rfl]; exact hl
  |false=>rw[if_neg (by decide)]; exact OP (b::l) (by simp)
theorem PX (n:Int)(k:Nat)(hk:k≤64)(hp:(0:Int)≤2^k):((toB (B1 n k)).toNat:Int)=n/2^k%256:=by
 rw[Jt];unfold B1;rw[Nat.min_eq_left hk,Int.fdiv_eq_ediv_of_nonneg _ hp]
theorem s8_of {a:UInt8}{q:Int}(h:(a.toNat:Int)=q%256)(h0: -128≤q)(h1:q<128):s8 a=q:=by
 unfold s8;split<;>omega
theorem Aas {n:Int}(h0: -9223372036854775808≤n)(h1:n≤9223372036854775807):PU (be8 n)=n:=by
 have e7:((toB (B1 n 56)).toNat:Int)=n/72057594037927936%256:=PX n 56 (by decide) (by decide);have e6:((toB (B1 n 48)).toNat:Int)=n/281474976710656%256:=PX n 48 (by decide) (by decide);have e5:((toB (B1 n 40)).toNat:Int)=n/1099511627776%256:=PX n 40 (by decide) (by decide);have e4:((toB (B1 n 32)).toNat:Int)=n/4294967296%256:=PX n 32 (by decide) (by decide);have e3:((toB (B1 n 24)).toNat:Int)=n/16777216%256:=PX n 24 (by decide) (by decide);have e2:((toB (B1 n 16)).toNat:Int)=n/65536%256:=PX n 16 (by decide) (by decide);have e1:((toB (B1 n 8)).toNat:Int)=n/256%256:=PX n 8 (by decide) (by decide);have e0:((toB (B1 n 0)).toNat:Int)=n%256:=by
  have:=PX n 0 (by decide) (by decide);rw[Int.pow_zero,Int.ediv_one]at this;exact this
 have s7:=s8_of e7 (by omega) (by omega);show SV (s8 (toB (B1 n 56))) [toB (B1 n 48),toB (B1 n 40),toB (B1 n 32),toB (B1 n 24),toB (B1 n 16),toB (B1 n 8),toB (B1 n 0)]=n;unfold SV;simp only[List.foldl_cons,List.foldl_nil];rw[s7,e6,e5,e4,e3,e2,e1,e0];omega
theorem YL {n:Int}(h0: -9223372036854775808≤n)(h1:n≤9223372036854775807):JS (G1 n).B=n:=by
 have h8:(be8 n).length=8:=rfl;have hne:be8 n≠[]:=by intro h; rw[h]at h8; cases h8
 show JS (M9 (be8 n))=n;rw[Ms _ (SX _ hne),Ru _ (by omega),Aas h0 h1,BC h0 h1]
theorem X9 (n:Int)(d:Nat):mayB (d+1) (G1 n)=true:=by
 have h8:(be8 n).length=8:=rfl;have hne:be8 n≠[]:=by intro h; rw[h]at h8; cases h8
 unfold mayB;have e:OA (G1 n).Tag (G1 n).B=true:=OP _ hne;rw[e];rfl
end Go.Proofs.YtibojdgdjhngiaaGreatDoor
end
section
namespace Go.Proofs.YtibojdgdjhngiaaGreatDoor
open Go Go.Gw Go.Ax
def fewI:Nat→g_api_Item→Prop
 |0,_=>True
 |d+1,x=>x.L.length≤100000∧∀y∈x.L,fewI d y
theorem TR {l:List g_api_Item}(h:l.length≤100000):AM l=some l:=by
 unfold AM;rw[QX 56 (by omega) (by omega)]; rfl
theorem Lt {d:Nat}{x:g_api_Item}(h:mayB d x=true):OA x.Tag x.B=true:=by
 cases d with
 |zero=>cases h
 |succ d=>
  simp only[mayB,Bool.and_eq_true]at h;exact h.1.1
theorem Aau (x:g_api_Item):Ip x=some (if x.Tag=2 then(if mayB 8 x=true then(JS x.B,0)else(0,71))else(0,72)):=by
 unfold Ip Fm;by_cases ht:x.Tag=2
 ·have e:(x.Tag !=2)=false:=by simp[ht]
  rw[if_pos ht,e,if_neg (by decide),NX,Ab];cases hm:mayB 8 x with
  |false=>rfl
  |true=>
   have hk:=Lt hm;rw[ht]at hk;have hB:x.B≠[]:=by
    intro hb;rw[hb]at hk;cases hk
   rw[if_neg (by decide),YM hB];rfl
 ·have e:(x.Tag !=2)=true:=by simp[ht]
  rw[if_neg ht,e,if_pos rfl];rfl
theorem YN (x:g_api_Item):Hp x=some (if x.Tag=12 then(if mayB 8 x=true then(bs x.B,0)else((⟨#[]⟩:ByteArray),71))else((⟨#[]⟩:ByteArray),72)):=by
 unfold Hp DS;by_cases ht:x.Tag=12
 ·have e:(x.Tag !=12)=false:=by simp[ht]
  rw[if_pos ht,e,if_neg (by decide),NX,Ab];cases hm:mayB 8 x with
  |false=>rfl
  |true=>rfl
 ·have e:(x.Tag !=12)=true:=by simp[ht]
  rw[if_neg ht,e,if_pos rfl];rfl
def Uc:List UInt8→Bool
 | []=>false
 |a::_=>(a.toNat:Int) !=0
theorem YO (x:g_api_Item):Hq x=some (if x.Tag=1 then(if mayB 8 x=true then(Uc x.B,0)else(false,71))else(false,72)):=by
 unfold Hq ET;by_cases ht:x.Tag=1
 ·have e:(x.Tag !=1)=false:=by simp[ht]
  rw[if_pos ht,e,if_neg (by decide),NX,Ab];cases hm:mayB 8 x with
  |false=>rfl
  |true=>
   have hk:=Lt hm;rw[ht]at hk;unfold Hd;cases hb:x.B with
   |nil=>rw[hb]at hk; cases hk
   |cons a l=>
    rw[if_neg (by decide),R8];rfl
 ·have e:(x.Tag !=1)=true:=by simp[ht]
  rw[if_neg ht,e,if_pos rfl];rfl
theorem QW {x:g_api_Item}(hx:x.L.length≤100000):Ha x=some (if x.Tag=48 then(if mayB 8 x=true then(x.L,0)else([],71))else([],72)):=by
 unfold Ha Dq;by_cases ht:x.Tag=48
 ·have e:(x.Tag !=48)=false:=by simp[ht]
  rw[if_pos ht,e,if_neg (by decide),NX,Ab];cases hm:mayB 8 x with
  |false=>rfl
  |true=>
   unfold HL;rw[if_neg (by decide),TR hx];rfl
 ·have e:(x.Tag !=48)=true:=by simp[ht]
  rw[if_neg ht,e,if_pos rfl];rfl
abbrev Its:=List g_api_Item
def rd {α:Type}(p:Option (α×Its)):Option (Option (α×Am)):=some (p.map fun q=>(q.1,⟨q.2⟩))
def Jk {α:Type}(tag:Int)(v:g_api_Item→α):Its→Option (α×Its)
 | []=>none
 |x::r=>if x.Tag=tag∧mayB 8 x=true then some (v x,r)else none
theorem Dd {α:Type}(tag:Int)(v:g_api_Item→α)(x:g_api_Item)(r:Its):Jk tag v (x::r)=if x.Tag=tag∧mayB 8 x=true then some (v x,r)else none:=rfl
theorem N2 (x:g_api_Item)(r:Its):decide (((x::r).length:Int)>0)=true:=by rw[decide_eq_true_eq,List.length_cons]; omega
theorem RT:Bc true=some (some ()):=rfl
theorem Aa2:Bc false=some none:=rfl
theorem Acv (l:Its):C1 ⟨l⟩=rd (Jk 2 (fun x=>JS x.B) l):=by
 unfold C1;cases l with
 |nil=>rfl
 |cons x r=>
  show Ad (Bc (decide (((x::r).length:Int)>0))) _=_;rw[N2,RT,Ab];show Ad (idx (x::r) 0) _=_;rw[R8,Ab,Aau,Ab];rw[Dd];by_cases ht:x.Tag=2
  ·rw[if_pos ht];cases hm:mayB 8 x with
   |false=>
    rw[if_neg (by decide),if_neg (by simp)];rfl
   |true=>
    rw[if_pos rfl,if_pos ⟨ht,rfl⟩];show Ad (cut (x::r) 1 ((x::r).length:Int)) _=_;rw[MN];rfl
  ·rw[if_neg ht,if_neg (by simp[ht])];rfl
theorem Tb (l:Its):A1 ⟨l⟩=rd (Jk 12 (fun x=>bs x.B) l):=by
 unfold A1;cases l with
 |nil=>rfl
 |cons x r=>
  show Ad (Bc (decide (((x::r).length:Int)>0))) _=_;rw[N2,RT,Ab];show Ad (idx (x::r) 0) _=_;rw[R8,Ab,YN,Ab];rw[Dd];by_cases ht:x.Tag=12
  ·rw[if_pos ht];cases hm:mayB 8 x with
   |false=>
    rw[if_neg (by decide),if_neg (by simp)];rfl
   |true=>
    rw[if_pos rfl,if_pos ⟨ht,rfl⟩];show Ad (cut (x::r) 1 ((x::r).length:Int)) _=_;rw[MN];rfl
  ·rw[if_neg ht,if_neg (by simp[ht])];rfl
theorem Aaq (l:Its):Cp ⟨l⟩=rd (Jk 1 (fun x=>Uc x.B) l):=by
 unfold Cp;cases l with
 |nil=>rfl
 |cons x r=>
  show Ad (Bc (decide (((x::r).length:Int)>0))) _=_;rw[N2,RT,Ab];show Ad (idx (x::r) 0) _=_;rw[R8,Ab,YO,Ab];rw[Dd];by_cases ht:x.Tag=1
  ·rw[if_pos ht];cases hm:mayB 8 x with
   |false=>
    rw[if_neg (by decide),if_neg (by simp)];rfl
   |true=>
    rw[if_pos rfl,if_pos ⟨ht,rfl⟩];show Ad (cut (x::r) 1 ((x::r).length:Int)) _=_;rw[MN];rfl
  ·rw[if_neg ht,if_neg (by simp[ht])];rfl
theorem AbR {l:Its}(hl: ∀x∈l,x.L.length≤100000):Cb ⟨l⟩=rd (Jk 48 (fun x=>x.L) l):=by
 unfold Cb;cases l with
 |nil=>rfl
 |cons x r=>
  show Ad (Bc (decide (((x::r).length:Int)>0))) _=_;rw[N2,RT,Ab];show Ad (idx (x::r) 0) _=_;rw[R8,Ab,QW (hl x List.mem_cons_self),Ab];rw[Dd];by_cases ht:x.Tag=48
  ·rw[if_pos ht];cases hm:mayB 8 x with
   |false=>
    rw[if_neg (by decide),if_neg (by simp)];rfl
   |true=>
    rw[if_pos rfl,if_pos ⟨ht,rfl⟩];show Ad (cut (x::r) 1 ((x::r).length:Int)) _=_;rw[MN];rfl
  ·rw[if_neg ht,if_neg (by simp[ht])];rfl
def D9 (l:Its):Option (Int×Its):=(Jk 2 (fun x=>JS x.B) l).bind fun p=>if 0≤p.1 then some p else none
theorem LC (l:Its):BN ⟨l⟩=rd (D9 l):=by
 unfold BN;rw[Acv];unfold D9 rd;cases Jk 2 (fun x=>JS x.B) l with
 |none=>rfl
 |some p=>
  obtain⟨n,r⟩:=p;simp only[Option.map_some,Ab,Option.bind_some];by_cases h:0≤n
  ·rw[decide_eq_true h,RT,if_pos h];rfl
  ·rw[decide_eq_false h,Aa2,if_neg h];rfl
def Su (l:Its):Option (UInt64×Its):=(D9 l).map fun p=>(toU p.1,p.2)
theorem Adj (l:Its):D2 ⟨l⟩=rd (Su l):=by
 unfold D2;rw[LC];unfold Su rd;cases D9 l<;>rfl
def Ui (l:Its):Option (Its×Its):=Jk 48 (fun x=>x.L) l
theorem sub_eq {l:Its}(hl: ∀x∈l,x.L.length≤100000):DZ ⟨l⟩=some ((Ui l).map fun p=>(⟨p.1⟩,⟨p.2⟩)):=by
 unfold DZ;rw[AbR hl];unfold Ui rd;cases Jk 48 (fun x=>x.L) l<;>rfl
theorem end_eq (l:Its):D1 ⟨l⟩=some (if l=[]then some ⟨[]⟩else none):=by
 unfold D1;cases l with
 |nil=>rfl
 |cons x r=>
  have e:(((x::r).length:Int)==0)=false:=by simp only[beq_eq_false_iff_ne,List.length_cons]; omega
  show Ad (Bc (((x::r).length:Int)==0)) _=_;rw[e,Aa2,if_neg (by simp)];rfl
def TY:Its→Option (List ByteArray)
 | []=>some []
 |x::r=>if x.Tag=12∧mayB 8 x=true then(TY r).map fun t=>bs x.B::t else none
theorem OQ: ∀(l:Its) (a:List ByteArray) (n:Nat),l.length<n→a.length+l.length≤1000000→
  iter AW n (a,l)=some (match TY l with|some t=> .inl (a++t,[])|none=> .inr none)
 |l,a,0,h,_=>by omega
 | [],a,n+1,_,_=>by
  have e:AW (a,[])=some (.inr (.inl (a,[]))):=rfl;show Ad (AW (a,[])) _=_;rw[e];simp[TY]
 |x::l,a,n+1,h,ha=>by
  rw[List.length_cons]at h ha;have e:AW (a,x::l)=some (if x.Tag=12∧mayB 8 x=true then .inl (a++[bs x.B],l)else .inr (.inr none)):=by
   unfold AW;show(if decide (((x::l).length:Int)>0)=true then _ else _)=_;rw[N2,if_pos rfl];show Ad (A1 ⟨x::l⟩) _=_;rw[Tb];unfold rd;rw[Dd];by_cases hx:x.Tag=12∧mayB 8 x=true
   ·rw[if_pos hx,if_pos hx];show Ad (app 16 a [bs x.B]) _=_;rw[LK 16 (by show(a.length+1)*16≤_; omega) (by show a.length+1≤_; omega)];rfl
   ·rw[if_neg hx,if_neg hx];rfl
  show Ad (AW (a,x::l)) _=_;rw[e];unfold TY;by_cases hx:x.Tag=12∧mayB 8 x=true
  ·rw[if_pos hx,if_pos hx];show iter AW n (a++[bs x.B],l)=_;rw[OQ l (a++[bs x.B]) n (by omega) (by rw[List.length_append]; show a.length+1+_≤_; omega)];cases TY l with
   |none=>rfl
   |some t=>simp
  ·rw[if_neg hx,if_neg hx];rfl
def IF (l:Its):Option (List ByteArray×Its):=(Ui l).bind fun p=>(TY p.1).map fun t=>(t,p.2)
theorem Ry {l:Its}(hl: ∀x∈l,x.L.length≤100000):CJ ⟨l⟩=rd (IF l):=by
 unfold CJ;rw[sub_eq hl];unfold IF rd;cases hs:Ui l with
 |none=>rfl
 |some p=>
  have hp:p.1.length≤100000:=by
   unfold Ui Jk at hs;cases l with
   |nil=>cases hs
   |cons x r=>
    simp only at hs;split at hs
    ·have hs:=Option.some.inj hs;rw[←hs];exact hl x List.mem_cons_self
    ·cases hs
  show Ad (iter AW C3 ([],p.1)) _=_;rw[OQ p.1 [] C3 (by have:=GK; omega) (by simp only[List.length_nil]; omega)];show _=some (Option.map _ ((TY p.1).map fun t=>(t,p.2)));cases TY p.1<;>rfl
end Go.Proofs.YtibojdgdjhngiaaGreatDoor
end
