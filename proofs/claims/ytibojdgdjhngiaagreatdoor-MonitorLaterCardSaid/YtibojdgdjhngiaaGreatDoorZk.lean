/- Several texts, one behind the other. Conditions: none. -/
import Derived.Test.YtibojdgdjhngiaaGreatDoorZg
import Derived.Test.YtibojdgdjhngiaaGreatDoorZh
import Derived.Test.YtibojdgdjhngiaaGreatDoorZi
import Derived.KernelRfl
import Derived.Test.YtibojdgdjhngiaaGreatDoorZb
import Derived.Test.YtibojdgdjhngiaaGreatDoorZj
import Derived.Test.YtibojdgdjhngiaaGreatDoorCards
import Derived.Test.YtibojdgdjhngiaaGreatDoorTie
import Derived.WalkKit
import Derived.ProofKit
import Derived.OpenShut
import Derived.Deep.DeepHandedRow
import Derived.Lib.LaidTab
import Derived.SevenTiedAt
import Derived.Stop.LaidErr
set_option linter.unusedSimpArgs false
set_option linter.unusedVariables false
set_option maxHeartbeats 20000000
set_option maxRecDepth 100000
section
namespace Go.Proofs.YtibojdgdjhngiaaGreatDoor
open Go Go.Gw Go.Ax
theorem w64_sN {i n:Nat}(h:i<n)(hn:n≤1000000):w64 ((i:Int)+1)=((i+1:Nat):Int):=by rw[Qt (by omega) (by omega)]; rfl
theorem drop_at {α:Type}{xs:List α}{i:Nat}{x:α}(h:xs[i]? =some x):xs.drop i=x::xs.drop (i+1):=by
 obtain⟨hi,rfl⟩:=List.getElem?_eq_some_iff.1 h;exact List.drop_eq_getElem_cons hi
def WA {α β:Type}(f:α→Option β):List α→(Unit⊕β)
 | []=> .inl ()
 |x::r=>match f x with|some b=> .inr b|none=>WA f r
theorem iter_find {α β:Type}{step:Int→Option (Int⊕(Unit⊕β))}(xs:List α)(f:α→Option β)
  (hs: ∀(i:Nat) (x:α),xs[i]? =some x→step (i:Int)=some (match f x with|some b=> .inr (.inr b)|none=> .inl ((i+1:Nat):Int)))
  (he:step (xs.length:Int)=some (.inr (.inl ()))): ∀(k i n:Nat),i+k=xs.length→k<n→iter step n (i:Int)=some (WA f (xs.drop i))
 |0,i,n,h,hn=>by
  obtain⟨n,rfl⟩: ∃q,n=q+1:=⟨n-1,by omega⟩;have h:i=xs.length:=by omega
  subst h;show Ac (step _) _=_;rw[he,List.drop_length]; rfl
 |k+1,i,n,h,hn=>by
  obtain⟨n,rfl⟩: ∃q,n=q+1:=⟨n-1,by omega⟩;have hi:i<xs.length:=by omega
  have hx:xs[i]? =some xs[i]:=List.getElem?_eq_getElem hi;show Ac (step _) _=_;rw[hs i _ hx,drop_at hx];unfold WA;cases f xs[i]with
  |some b=>rfl
  |none=>exact iter_find xs f hs he k (i+1) n (by omega) (by omega)
theorem iter_find0 {α β:Type}{step:Int→Option (Int⊕(Unit⊕β))}(xs:List α)(f:α→Option β)(hl:xs.length≤1000000)
  (hs: ∀(i:Nat) (x:α),xs[i]? =some x→step (i:Int)=some (match f x with|some b=> .inr (.inr b)|none=> .inl ((i+1:Nat):Int)))
  (he:step (xs.length:Int)=some (.inr (.inl ()))):iter step EN 0=some (WA f xs):=
 iter_find xs f hs he xs.length 0 EN (by omega) (by have:(1000001:Nat)≤EN:=Nat.le_of_ble_eq_true rfl; omega)
def fldI {α σ:Type}(g:Nat→σ→α→σ):List α→Nat→σ→σ
 | [],_,s=>s
 |x::r,i,s=>fldI g r (i+1) (g i s x)
theorem fndO_any {α:Type}(p:α→Bool)(v:Bool): ∀(xs:List α),WA (fun x=>if p x=true then some v else none) xs=if xs.any p=true then .inr v else .inl ()
 | []=>rfl
 |x::r=>by
  unfold WA;cases h:p x with
  |true=>simp[h]
  |false=>simp[h,fndO_any p v r]
def plc {α:Type}(p:α→Bool):List α→Nat→List Int
 | [],_=> []
 |x::r,i=>if p x=true then(i:Int)::plc p r (i+1)else plc p r (i+1)
theorem plc_len {α:Type}(p:α→Bool): ∀(xs:List α) (i:Nat),(plc p xs i).length≤xs.length
 | [],_=>Nat.le_refl _
 |x::r,i=>by
  unfold plc;have:=plc_len p r (i+1);split<;>simp<;>omega
theorem plc_nil {α:Type}{p:α→Bool}: ∀{xs:List α} {i:Nat},(∀x∈xs,p x=false)→plc p xs i=[]
 | [],_,_=>rfl
 |x::r,i,h=>by
  unfold plc;rw[if_neg (by rw[h x List.mem_cons_self]; decide)];exact plc_nil fun y hy=>h y (List.mem_cons_of_mem _ hy)
theorem plc_mem {α:Type}{p:α→Bool}: ∀{xs:List α} {i:Nat} {n:Int},n∈plc p xs i↔∃(j:Nat) (x:α),xs[j]? =some x∧p x=true∧n=((i+j:Nat):Int)
 | [],i,n=>by simp[plc]
 |x::r,i,n=>by
  unfold plc;have ih:= @plc_mem α p r (i+1) n;constructor
  ·intro h;have h':(p x=true∧n=(i:Int))∨n∈plc p r (i+1):=by
    split at h
    ·rename_i hp;rcases List.mem_cons.1 h with q|q
     ·exact .inl ⟨hp,q⟩
     ·exact .inr q
    ·exact .inr h
   rcases h' with ⟨q1,q2⟩|q
   ·exact⟨0,x,rfl,q1,by rw[q2]; rfl⟩
   ·obtain⟨j,y,a,b,c⟩:=ih.1 q;exact⟨j+1,y,a,b,by rw[c]; congr 1; omega⟩
  ·rintro⟨j,y,a,b,c⟩;cases j with
   |zero=>
    cases a;rw[if_pos b,c]; exact List.mem_cons_self
   |succ j=>
    have:n∈plc p r (i+1):=ih.2 ⟨j,y,a,b,by rw[c]; congr 1; omega⟩;split
    ·exact List.mem_cons_of_mem _ this
    ·exact this
theorem plc_srt {α:Type}{p:α→Bool}: ∀{xs:List α} {i:Nat},(plc p xs i).Pairwise (· < ·)∧∀n∈plc p xs i,(i:Int)≤n
 | [],_=>⟨List.Pairwise.nil,fun n h=>by cases h⟩
 |x::r,i=>by
  obtain⟨h1,h2⟩:= @plc_srt α p r (i+1);unfold plc;split
  ·refine⟨List.pairwise_cons.2 ⟨fun n hn=> ?_,h1⟩,fun n hn=> ?_⟩
   ·have:=h2 n hn; omega
   ·rcases List.mem_cons.1 hn with q|q
    ·omega
    ·have:=h2 n q; omega
  ·exact⟨h1,fun n hn=>by have:=h2 n hn; omega⟩
def Tb (l:List ByteArray):Bool:= !(l.take 20).any (fun s=>decide ((s.size:Int)>200))&&decide ((l.length:Int)≤16)
def few18B (c:Ai):Bool:=((((decide ((c.Issuer.size:Int)≤300))&&(decide ((c.Subject.size:Int)≤300)))&&Tb c.Names)&&Tb c.Permit)&&(decide ((c.Proms.length:Int)≤8))
def fewCB (l:List Ai):Bool:= !(l.take 40).any (fun c=> !few18B c)&&decide ((l.length:Int)≤40)
def fewBB (l:List Az):Bool:= !(l.take 40).any (fun b=>decide ((b.Names.length:Int)>20))&&decide ((l.length:Int)≤40)
theorem lkG_up {κ γ:Type}{E:κ→κ→Bool}(hE: ∀a b,E a b=true↔a=b)(o k:κ)(v:γ): ∀(kv:List (κ×γ)),lkG (E o) (upG (E k) (k,v) kv)=if E o k=true then some v else lkG (E o) kv
 | []=>by
  unfold upG lkG lkG;cases E o k<;>rfl
 |y::r=>by
  unfold upG;cases hk:E k y.1 with
  |true=>
   have hy:=(hE _ _).1 hk;simp only[cond_true,lkG];rw[←hy];cases E o k<;>rfl
  |false=>
   simp only[cond_false,lkG];cases ho:E o y.1 with
   |true=>
    have hy:=(hE _ _).1 ho;have:E o k=false:=by
     cases e:E o k with
     |false=>rfl
     |true=>
      have:=(hE _ _).1 e;rw[←this,hy]at hk;rw[(hE y.1 y.1).2 rfl]at hk; cases hk
    rw[this]; rfl
   |false=>exact lkG_up hE o k v r
theorem eqSm_iff (a b:UInt64×UInt64):Fi a b=true↔a=b:=by
 cases a; cases b;simp[Fi]
abbrev OM:=List (Ag×Int)
def qO (kv:OM)(o:Ag)(n:Int):Bool:=match lkG (AE o) kv with|some v=>decide (v≤n)|none=>false
def putO (kv:OM)(o:Ag)(at_:Int):OM:=if((!(lkG (AE o) kv).isSome)||(decide (at_<(lkG (AE o) kv).getD 0)))=true then upG (AE o) (o,at_) kv else kv
def putN (key:UInt64)(at_:Int):List ByteArray→OM→OM
 | [],kv=>kv
 |s::r,kv=>putN key at_ r (putO kv ⟨s,key⟩ at_)
def putB':List Az→OM→OM
 | [],kv=>kv
 |b::r,kv=>putB' r (putN b.Key b.At b.Names kv)
def bkd (l:List Az)(s:ByteArray)(key:UInt64)(n:Int):Bool:=l.any fun b=>b.Key==key&&decide (b.At≤n)&&b.Names.any (fun t=>eqS t s)
def strP (books:List Az)(c:Ai):Bool:=c.Names.any fun s=> !bkd books s c.Key c.From
theorem app1 {α:Type}{b n:Nat}{s:List α}{x:α}(h:s.length≤n)(hb:(n+1)*b≤140737488355328)(hn:n+1≤140737488355328):app b s [x]=some (s++[x]):=by
 unfold app;have:(s.length+[x].length)*b≤(n+1)*b:=Nat.mul_le_mul_right b (by simp; omega);rw[if_pos ⟨by omega,by simp; omega⟩]
def mis (h:AA)(leaves:List (UInt64×UInt64))(k:AN)(p:g_api_Promise):Bool:=(((p.Log==h.Log)&&(p.Log==k.Log))&&(decide ((w64 (p.At+k.Delay))<h.At)))&& !leaves.any (fun x=>Fi x p.Leaf)
abbrev LM:=List ((UInt64×UInt64)×Bool)
def thr (kv:LM)(x:UInt64×UInt64):Bool:=(lkG (Fi x) kv).getD false
def VT:List (UInt64×UInt64)→LM→LM
 | [],kv=>kv
 |x::r,kv=>VT r (upG (Fi x) (x,true) kv)
theorem missing_l: ∀(l:List (UInt64×UInt64)) (i:Int) (kv:LM),DG CJ l i kv=some (VT l kv)
 | [],_,_=>rfl
 |x::r,i,kv=>missing_l r (i+1) (upG (Fi x) (x,true) kv)
theorem thr_l (y:UInt64×UInt64): ∀(l:List (UInt64×UInt64)) (kv:LM),thr (VT l kv) y=(thr kv y||l.any (fun x=>Fi x y))
 | [],kv=>by simp[VT]
 |x::r,kv=>by
  unfold VT;rw[thr_l y r];unfold thr;rw[lkG_up eqSm_iff];have e:Fi y x=Fi x y:=by
   unfold Fi;rw[Bool.beq_comm (a:=y.1),Bool.beq_comm (a:=y.2)]
  rw[e,List.any_cons];cases Fi x y<;>simp
theorem missing_in (h:AA)(k:AN)(kv:LM)(p:g_api_Promise):Cn p h k kv=some ((((((p.Log==h.Log)&&(p.Log==k.Log))&&(decide ((w64 (p.At+k.Delay))<h.At)))&&(!thr kv p.Leaf))),h,k,kv):=rfl
theorem places_p1 (h:AA)(k:AN)(kv:LM){l:List g_api_Promise}{i:Nat}{x:g_api_Promise}{out:List Int}(hx:l[i]? =some x)(ho:out.length≤1000000):
  AG l (i:Int) (out,h.Log,h.Size,h.Root.1,h.Root.2,h.At,h.Sig.E,h.Sig.S,k.Log,k.Key,k.Delay,kv)=
   some (if(((((x.Log==h.Log)&&(x.Log==k.Log))&&(decide ((w64 (x.At+k.Delay))<h.At)))&&(!thr kv x.Leaf)))=true then out++[(i:Int)]else out,h.Log,h.Size,h.Root.1,h.Root.2,h.At,h.Sig.E,h.Sig.S,k.Log,k.Key,k.Delay,kv):=by
 unfold AG;rw[LU hx];simp only[AP];show Ac (Ac (Cn x h k kv) _) _=_;rw[missing_in];simp only[AP];split
 ·rw[app1 ho (by decide) (by decide)]; rfl
 ·rfl
theorem places_p (h:AA)(k:AN)(kv:LM)(l:List g_api_Promise)(hl:l.length≤1000000): ∀(q i:Nat) (out:List Int),i+q=l.length→out.length≤i→
  B5 (AG l) q (i:Int) (out,h.Log,h.Size,h.Root.1,h.Root.2,h.At,h.Sig.E,h.Sig.S,k.Log,k.Key,k.Delay,kv)=some (out++plc (fun p=>(((p.Log==h.Log)&&(p.Log==k.Log))&&(decide ((w64 (p.At+k.Delay))<h.At)))&&(!thr kv p.Leaf)) (l.drop i) i,h.Log,h.Size,h.Root.1,h.Root.2,h.At,h.Sig.E,h.Sig.S,k.Log,k.Key,k.Delay,kv)
 |0,i,out,e,ho=>by
  rw[List.drop_of_length_le (by omega)];simp[B5,plc]
 |q+1,i,out,e,ho=>by
  have hi:i<l.length:=by omega
  have hx:l[i]? =some l[i]:=List.getElem?_eq_getElem hi;show Ac (AG l (i:Int) (out,h.Log,h.Size,h.Root.1,h.Root.2,h.At,h.Sig.E,h.Sig.S,k.Log,k.Key,k.Delay,kv)) _=_;rw[places_p1 h k kv hx (by omega),drop_at hx];unfold plc;split
  ·have:=places_p h k kv l hl q (i+1) (out++[(i:Int)]) (by omega) (by simp; omega);rw[List.append_assoc]at this;exact this
  ·exact places_p h k kv l hl q (i+1) out (by omega) (by omega)
theorem missing_eq {l:List g_api_Promise}(h:AA)(leaves:List (UInt64×UInt64))(k:AN)(hl:l.length≤1000000):Ak l h leaves k=some (plc (mis h leaves k) l 0):=by
 unfold Ak;rw[missing_l];simp only[AP];unfold Bl;have:=places_p h k (VT leaves []) l hl l.length 0 [] (by omega) (Nat.le_refl _);rw[show((0:Nat):Int)=0 from rfl]at this;rw[this];have e:(fun(p:g_api_Promise)=>(((p.Log==h.Log)&&(p.Log==k.Log))&&(decide ((w64 (p.At+k.Delay))<h.At)))&&(!thr (VT leaves []) p.Leaf))=mis h leaves k:=by
  funext p;unfold mis;rw[thr_l];rfl
 simp only[AP,List.drop_zero,List.nil_append,e]
end Go.Proofs.YtibojdgdjhngiaaGreatDoor
end
section
namespace Go.Proofs.YtibojdgdjhngiaaGreatDoor
open Go Go.Gw Go.Ax
theorem guT {α:Type} [Inhabited α](o:Option α):gu true o=o:=rfl
theorem guF {α:Type} [Inhabited α](o:Option α):gu false o=some default:=rfl
theorem lt_dec {a b:Nat}(h:a<b):decide (((a:Nat):Int)<(b:Int))=true:=decide_eq_true (by omega)
theorem lt_dec' (a:Nat):decide (((a:Nat):Int)<(a:Int))=false:=decide_eq_false (by omega)
theorem xor64_ne (a:Int):Py a 1≠a:=by
 intro h;unfold Py at h;have e:((BitVec.ofInt 64 a^^^BitVec.ofInt 64 1).toNat)%2≠(BitVec.ofInt 64 a).toNat%2:=by
  rw[BitVec.toNat_xor];generalize (BitVec.ofInt 64 a).toNat=x;intro q;have t:Nat.testBit (x^^^ (BitVec.ofInt 64 1).toNat) 0= !Nat.testBit x 0:=by rw[Nat.testBit_xor]; simp
  rw[Nat.testBit_zero,Nat.testBit_zero,q]at t;cases hd:decide (x%2=1)<;>rw[hd]at t<;>cases t
 have e2:((BitVec.ofInt 64 a).toNat:Int)%2=a%2:=by
  rw[BitVec.toNat_ofInt];have:((a% ((2^64:Nat):Int)).toNat:Int)=a%18446744073709551616:=by
   rw[Int.toNat_of_nonneg (Int.emod_nonneg _ (by decide))]; rfl
  rw[this]; omega
 generalize (BitVec.ofInt 64 a^^^BitVec.ofInt 64 1).toNat=y at*;generalize (BitVec.ofInt 64 a).toNat=x at*;unfold w64 at h;omega
theorem idxL {α:Type}{l:List α}{i:Nat}(h:i<l.length):idx l (i:Int)=some l[i]:=LU (List.getElem?_eq_getElem h)
theorem has_eq {l:List Int}(n:Int)(hl:l.length≤1000000):ET l n=some (l.any (· ==n)):=by
 unfold ET;rw[iter_find0 l (fun x=>if(x==n)=true then some true else none) hl (fun i x hx=>by
  have hi:=(List.getElem?_eq_some_iff.1 hx).1;unfold DM;rw[lt_dec hi,if_pos rfl,LU hx];simp only[AP];split
  ·rfl
  ·rw[w64_sN hi hl]) (by unfold DM; rw[lt_dec',if_neg (by decide)]),fndO_any (fun x=>x==n)]
 simp only[AP];cases l.any fun x=>x==n<;>rfl
theorem any_mem {l:List Int}{n:Int}:l.any (· ==n)=true↔n∈l:=by simp
theorem fnd_none {α β:Type}: ∀(l:List α),WA (fun _=>(none:Option β)) l= .inl ()
 | []=>rfl
 |x::r=>fnd_none r
theorem find_none {β:Type}{step:Int→Option (Int⊕(Unit⊕β))}(n:Nat)(hl:n≤1000000)
  (hs: ∀(i:Nat),i<n→step (i:Int)=some (.inl ((i+1:Nat):Int))) (he:step (n:Int)=some (.inr (.inl ()))):iter step EN 0=some (.inl ()):=by
 have:=iter_find0 (step:=step) (List.replicate n ()) (fun _=>none) (by simpa using hl) (fun i x hx=>hs i (by simpa using (List.getElem?_eq_some_iff.1 hx).1)) (by simpa using he);rw[this,fnd_none]
theorem srt_at {l:List Int}(h:l.Pairwise (· < ·)){i:Nat}(h0:0<i)(hi:i<l.length): ∃a b,idx l (w64 ((i:Int)-1))=some a∧idx l (i:Int)=some b∧¬a≥b∨1000000<i:=by
 by_cases hq:i≤1000000
 ·refine⟨l[i-1],l[i],.inl ⟨?_,idxL hi,?_⟩⟩
  ·rw[Qt (by omega) (by omega),show(i:Int)-1=((i-1:Nat):Int)from by omega];exact idxL (by omega)
  ·have:=(List.pairwise_iff_getElem.1 h) (i-1) i (by omega) hi (by omega);omega
 ·exact⟨0,0,.inr (by omega)⟩
theorem plc_sub {α:Type}{p q:α→Bool}{l:List α}{i:Nat}(h: ∀x,p x=true→q x=true){n:Int}(hn:n∈plc p l i):n∈plc q l i:=by
 obtain⟨j,x,a,b,c⟩:=plc_mem.1 hn;exact plc_mem.2 ⟨j,x,a,h x b,c⟩
end Go.Proofs.YtibojdgdjhngiaaGreatDoor
end
section
namespace Go.Proofs.YtibojdgdjhngiaaGreatDoor
open Go Go.Gw Go.Ax
theorem live30_true:GS=some true:=by kernel_rfl
end Go.Proofs.YtibojdgdjhngiaaGreatDoor
end
section
namespace Go.Proofs.YtibojdgdjhngiaaGreatDoor
open Go Go.Gw Go.Ax
theorem later_b4 {a0:List g_api_Promise}{p q:g_api_Promise→Bool}(hl:a0.length≤60)(hpq: ∀x,p x=true→q x=true){i:Nat}(hi:i<(plc p a0 0).length):
  Bv a0 (plc p a0 0) (plc q a0 0) (i:Int)=some (.inl ((i+1:Nat):Int)):=by
 have L1:=plc_len p a0 0;have L2:=plc_len q a0 0;have e1:(plc q a0 0).any (· ==(plc p a0 0)[i])=true:=any_mem.2 (plc_sub hpq (List.getElem_mem hi));have S:=(plc_srt (p:=p) (xs:=a0) (i:=0)).1;obtain⟨j,x,y1,y2,y3⟩:=plc_mem.1 (List.getElem_mem hi);have hj:=(List.getElem?_eq_some_iff.1 y1).1;have f1:decide ((plc p a0 0)[i]<0)=false:=decide_eq_false (by rw[y3]; omega);have f2:decide ((plc p a0 0)[i]≥(a0.length:Int))=false:=decide_eq_false (by rw[y3]; omega);clear y1 y2 y3;generalize plc p a0 0=X at*;generalize plc q a0 0=Y at*;unfold Bv;rw[lt_dec hi,if_pos rfl,idxL hi,AP,has_eq _ (by omega),e1,AP,show(!(!true))=true from rfl,guT,AP,f1,show(!((!true)||false))=true from rfl,guT,AP,f2];by_cases h0:0<i
 ·have:decide ((i:Int)>0)=true:=decide_eq_true (by omega);rw[this];obtain⟨a,b,h|h⟩:=srt_at S h0 hi
  ·obtain⟨h1,h2,h3⟩:=h;rw[h1];rw[idxL hi]at h2;cases h2;rw[show((!(((!true)||false)||false))&&true)=true from rfl,guT,AP,guT,AP,decide_eq_false h3,if_neg (by decide),w64_sN hi (by omega)]
  ·omega
 ·have:decide ((i:Int)>0)=false:=decide_eq_false (by omega);rw[this,show((!(((!true)||false)||false))&&false)=false from rfl,guF,AP,guF,AP,Bool.false_and,if_neg (by decide),w64_sN hi (by omega)]
theorem later_b5 {a0:List g_api_Promise}{p q:g_api_Promise→Bool}(hl:a0.length≤60)(hpq: ∀x,p x=true→q x=true){i:Nat}(hi:i<(plc p a0 0).length):
  Bu (plc q a0 0) (plc p a0 0) (i:Int)=some (.inl ((i+1:Nat):Int)):=by
 have L1:=plc_len p a0 0;have L2:=plc_len q a0 0;have e1:(plc q a0 0).any (· ==(plc p a0 0)[i])=true:=any_mem.2 (plc_sub hpq (List.getElem_mem hi));generalize plc p a0 0=X at*;generalize plc q a0 0=Y at*;unfold Bu;rw[lt_dec hi,if_pos rfl,idxL hi,AP,has_eq _ (by omega),e1,AP,if_neg (by decide),w64_sN hi (by omega)]
theorem mis_later {h:AA}{l:List (UInt64×UInt64)}{k:AN}{t:Int}(ht: ¬t<h.At)(x:g_api_Promise)(hx:mis h l k x=true):mis ⟨h.Log,h.Size,h.Root,t,h.Sig⟩ l k x=true:=by
 unfold mis at*;simp only[Bool.and_eq_true,decide_eq_true_eq]at*;obtain⟨⟨⟨q1,q2⟩,q3⟩,q4⟩:=hx;exact⟨⟨⟨q1,q2⟩,Int.lt_of_lt_of_le q3 (Int.not_lt.1 ht)⟩,q4⟩
theorem mis_more {h:AA}{l m:List (UInt64×UInt64)}{k:AN}(x:g_api_Promise)(hx:mis h (l++m) k x=true):mis h l k x=true:=by
 unfold mis at*;rw[List.any_append]at hx;simp only[Bool.and_eq_true,Bool.not_eq_true',Bool.or_eq_false_iff]at*;exact⟨hx.1,hx.2.1⟩
theorem later_true (a0:List g_api_Promise)(a1:AA)(a2:List (UInt64×UInt64))(a3:AN)(a4:Int)(a5:List (UInt64×UInt64)):Cb a0 a1 a2 a3 a4 a5=some true:=by
 unfold Cb;rw[live30_true,AP,if_neg (by decide)];generalize w64 (a1.At+a4)=t;by_cases hg:(((((decide ((a0.length:Int)>60))||(decide ((a2.length:Int)>100)))||(decide ((a5.length:Int)>100)))||(decide (a4<0)))||(decide (t<a1.At)))=true
 ·rw[if_pos hg]
 rw[if_neg hg];simp only[Bool.or_eq_true,decide_eq_true_eq,not_or]at hg;obtain⟨⟨⟨⟨g1,g2⟩,g3⟩,g4⟩,g5⟩:=hg;have n1:a0.length≤60:=by omega
 have ea:app 16 ([]:List (UInt64×UInt64)) a2=some a2:=by unfold app; rw[if_pos ⟨by simp; omega,by simp; omega⟩]; rfl
 have eb:app 16 a2 a5=some (a2++a5):=by unfold app; rw[if_pos ⟨by omega,by omega⟩]
 have L1:=plc_len (mis a1 a2 a3) a0 0;have L2:=plc_len (mis a1 (a2++a5) a3) a0 0;rw[missing_eq _ _ _ (by omega),AP,missing_eq _ _ _ (by omega),AP,ea,AP,eb,AP,missing_eq _ _ _ (by omega),AP];rw[find_none (plc (mis a1 a2 a3) a0 0).length (by omega) (fun i hi=>later_b4 n1 (mis_later g5) hi) (by unfold Bv; rw[lt_dec',if_neg (by decide)]),AP];dsimp only;rw[find_none (plc (mis a1 (a2++a5) a3) a0 0).length (by omega) (fun i hi=>later_b5 n1 mis_more hi) (by unfold Bu; rw[lt_dec',if_neg (by decide)]),AP];dsimp only;rw[missing_eq _ _ _ (by omega),AP,plc_nil (fun x _=>by
  unfold mis;cases h1:x.Log==Py a3.Log 1 with
  |false=>rfl
  |true=>
   have h2:(x.Log==a3.Log)=false:=by
    simp only[beq_eq_false_iff_ne];intro e;rw[beq_iff_eq]at h1;exact xor64_ne a3.Log (by rw[←h1,e])
   rw[h2]; rfl)]
 rfl
end Go.Proofs.YtibojdgdjhngiaaGreatDoor
end
section
namespace Go.Proofs.YtibojdgdjhngiaaGreatDoor.lawMonitorLater
open Go Go.Gw Go.ChangeShapes Go.WideShapes Go.ChangeAt Go.RowKit
theorem own:ownKnob Tryz.prog.godebug=none:=by kernel_rfl
theorem tab_ir:Ir Tryz.prog 276 (.agg [.agg [.lit (.int .i64 1),.held [103,114,101,97,116,115,101,97,108,47,100,101,114,46,107,105,110,100,115,36,49]],.agg [.lit (.int .i64 2),.held [103,114,101,97,116,115,101,97,108,47,100,101,114,46,108,101,97,115,116]],.agg [.lit (.int .i64 4),.held [103,114,101,97,116,115,101,97,108,47,100,101,114,46,107,105,110,100,115,36,50]],.agg [.lit (.int .i64 12),.held [103,114,101,97,116,115,101,97,108,47,100,101,114,46,107,105,110,100,115,36,51]],.agg [.lit (.int .i64 48),.held [103,114,101,97,116,115,101,97,108,47,100,101,114,46,107,105,110,100,115,36,52]]]) [[.int .i64 1,.func (.func 305) #[] #[]],[.int .i64 2,.func (.func 149) #[] #[]],[.int .i64 4,.func (.func 306) #[] #[]],[.int .i64 12,.func (.func 307) #[] #[]],[.int .i64 48,.func (.func 310) #[] #[]]].flatten:=
 Ir.arr (n:=5) (k:=2) Tryz.underlying276 (by kernel_rfl) (by kernel_rfl) rfl rfl fun i d c h1 h2=>by
  match i,h1,h2 with
  |0,h1,h2=>cases h1; cases h2; exact Ir.pair Tryz.underlying236 rfl rfl rfl (by kernel_rfl) rfl rfl (by kernel_rfl) (by kernel_rfl) (Ir.int Tryz.underlying3) (Ir.fn Tryz.underlying115 Tryz.func305 (by kernel_rfl) (by kernel_rfl))
  |1,h1,h2=>cases h1; cases h2; exact Ir.pair Tryz.underlying236 rfl rfl rfl (by kernel_rfl) rfl rfl (by kernel_rfl) (by kernel_rfl) (Ir.int Tryz.underlying3) (Ir.fn Tryz.underlying115 Tryz.func149 (by kernel_rfl) (by kernel_rfl))
  |2,h1,h2=>cases h1; cases h2; exact Ir.pair Tryz.underlying236 rfl rfl rfl (by kernel_rfl) rfl rfl (by kernel_rfl) (by kernel_rfl) (Ir.int Tryz.underlying3) (Ir.fn Tryz.underlying115 Tryz.func306 (by kernel_rfl) (by kernel_rfl))
  |3,h1,h2=>cases h1; cases h2; exact Ir.pair Tryz.underlying236 rfl rfl rfl (by kernel_rfl) rfl rfl (by kernel_rfl) (by kernel_rfl) (Ir.int Tryz.underlying3) (Ir.fn Tryz.underlying115 Tryz.func307 (by kernel_rfl) (by kernel_rfl))
  |4,h1,h2=>cases h1; cases h2; exact Ir.pair Tryz.underlying236 rfl rfl rfl (by kernel_rfl) rfl rfl (by kernel_rfl) (by kernel_rfl) (Ir.int Tryz.underlying3) (Ir.fn Tryz.underlying115 Tryz.func310 (by kernel_rfl) (by kernel_rfl))
  |n+5,h1,h2=>cases h1
theorem gB {W:World}(h:laidMetH Tryz.prog Rows.monitorLaterRow.laid W):GB (memOf W):=fun p hp=>by
 obtain rfl:=List.mem_singleton.1 hp;exact gb_of (name:= "greatseal/der.kinds") (by kernel_rfl) (by kernel_rfl) (laidMetH.funcs h (d:= .agg [.agg [.lit (.int .i64 1),.iface "func" (.lit (.string [103,114,101,97,116,115,101,97,108,47,100,101,114,46,107,105,110,100,115,36,49]))],.agg [.lit (.int .i64 2),.iface "func" (.lit (.string [103,114,101,97,116,115,101,97,108,47,100,101,114,46,108,101,97,115,116]))],.agg [.lit (.int .i64 4),.iface "func" (.lit (.string [103,114,101,97,116,115,101,97,108,47,100,101,114,46,107,105,110,100,115,36,50]))],.agg [.lit (.int .i64 12),.iface "func" (.lit (.string [103,114,101,97,116,115,101,97,108,47,100,101,114,46,107,105,110,100,115,36,51]))],.agg [.lit (.int .i64 48),.iface "func" (.lit (.string [103,114,101,97,116,115,101,97,108,47,100,101,114,46,107,105,110,100,115,36,52]))]]) (List.Mem.tail _ (List.Mem.head _))) tab_ir
theorem rd3:Rd Tryz.prog 3 (Int):=Rd.int Tryz.underlying3
theorem rd22:Rd Tryz.prog 22 (UInt64):=Rd.u64 Tryz.underlying22
theorem rd38:Rd Tryz.prog 38 (UInt64×UInt64):=Rd.arr2 Tryz.underlying38 rd22 (by kernel_rfl) (by kernel_rfl)
theorem rd40:Rd Tryz.prog 40 (g_api_Sig):=Rd.struct Tryz.underlying40 (MU.more rfl rd22 (by kernel_rfl) (MU.last rfl rd22 (by kernel_rfl))) (by kernel_rfl) (fun b=>⟨b.1,b.2⟩) (fun h=>h)
theorem rd82:Rd Tryz.prog 82 (g_api_Promise):=Rd.struct Tryz.underlying82 (MU.more rfl rd3 (by kernel_rfl) (MU.more rfl rd3 (by kernel_rfl) (MU.more rfl rd38 (by kernel_rfl) (MU.last rfl rd40 (by kernel_rfl))))) (by kernel_rfl) (fun b=>⟨b.1,b.2.1,b.2.2.1,b.2.2.2⟩) (fun h=>h)
theorem rd36:Rd Tryz.prog 36 (List g_api_Promise):=Rd.slice Tryz.underlying36 rd82 (by kernel_rfl) (by decide)
theorem rd42:Rd Tryz.prog 42 (AA):=Rd.struct Tryz.underlying42 (MU.more rfl rd3 (by kernel_rfl) (MU.more rfl rd3 (by kernel_rfl) (MU.more rfl rd38 (by kernel_rfl) (MU.more rfl rd3 (by kernel_rfl) (MU.last rfl rd40 (by kernel_rfl)))))) (by kernel_rfl) (fun b=>⟨b.1,b.2.1,b.2.2.1,b.2.2.2.1,b.2.2.2.2⟩) (fun h=>h)
theorem rd43:Rd Tryz.prog 43 (List (UInt64×UInt64)):=Rd.slice Tryz.underlying43 rd38 (by kernel_rfl) (by decide)
theorem rd45:Rd Tryz.prog 45 (AN):=Rd.struct Tryz.underlying45 (MU.more rfl rd3 (by kernel_rfl) (MU.more rfl rd22 (by kernel_rfl) (MU.last rfl rd3 (by kernel_rfl)))) (by kernel_rfl) (fun b=>⟨b.1,b.2.1,b.2.2⟩) (fun h=>h)
theorem rp_g_api_Head {m:Mem}{cs:List Value}{x:AA}(h:GoT.rep m cs x):cs=[vI x.Log,vI x.Size,vU x.Root.1,vU x.Root.2,vI x.At,vU x.Sig.E,vU x.Sig.S]:=by
 obtain⟨_,_,rfl,rfl,⟨_,_,rfl,rfl,⟨_,_,rfl,⟨_,_,rfl,rfl,rfl⟩,⟨_,_,rfl,rfl,⟨_,_,rfl,rfl,rfl⟩⟩⟩⟩⟩:=h;exact rfl
theorem rp_g_api_Key {m:Mem}{cs:List Value}{x:AN}(h:GoT.rep m cs x):cs=[vI x.Log,vU x.Key,vI x.Delay]:=by
 obtain⟨_,_,rfl,rfl,⟨_,_,rfl,rfl,rfl⟩⟩:=h;exact rfl
theorem contract (H:Type)(enc:TypeId×Value→H)(W:World)(base:Nat)(args:Array Value)(ds gs:List (DataW H))(before:List MemPlace)
  (hval: ∀(j:Nat) t v,Tryz.f9.params[j]? =some t→args[j]? =some v→Value.okWide Tryz.prog W .any base t v)
  (hW:DataW.Whole enc Tryz.prog Tryz.f9.params.toList Rows.monitorLaterSpec.vars false W args.toList ds gs before) (hL:laidMetH Tryz.prog Rows.monitorLaterRow.laid W):
  Calls Tryz.prog 9 args W fun e W'=> ∃v,e= .returned v∧Rows.monitorLaterSpec.post enc Tryz.prog Tryz.f9 false true false false W args v W':=by
 have hW':=hW;obtain⟨p,q,hA0,hV,rfl,hfz,hnd⟩:=hW;obtain⟨rfl,rfl⟩:=trodVars_none hV;rw[List.append_nil]at hW';have hA:DataW.TrodAll enc Tryz.prog W 0 (fun _=>true) true Tryz.f9.params.toList args.toList ds p:=hA0;have hA1:=hA;have hpl:Tryz.f9.params.toList=[36,42,43,45,3,43]:=by rw[Tryz.params9]
 rw[hpl]at hA1;obtain⟨v0,w0,d0,e0,p0,q0,ha0,he0,hp0,h0,r0⟩:=trodAll_cons hA1;obtain⟨v1,w1,d1,e1,p1,q1,ha1,he1,hp1,h1,r1⟩:=trodAll_cons r0;obtain⟨v2,w2,d2,e2,p2,q2,ha2,he2,hp2,h2,r2⟩:=trodAll_cons r1;obtain⟨v3,w3,d3,e3,p3,q3,ha3,he3,hp3,h3,r3⟩:=trodAll_cons r2;obtain⟨v4,w4,d4,e4,p4,q4,ha4,he4,hp4,h4,r4⟩:=trodAll_cons r3;obtain⟨v5,w5,d5,e5,p5,q5,ha5,he5,hp5,h5,r5⟩:=trodAll_cons r4;obtain⟨z1,z2,z3⟩:=trodAll_nil r5;obtain rfl:args= #[v0,v1,v2,v3,v4,v5]:=by
  apply Array.ext'; rw[ha0,ha1,ha2,ha3,ha4,ha5,z1]
 obtain rfl:ds=[d0,d1,d2,d3,d4,d5]:=by rw[he0,he1,he2,he3,he4,he5,z2]
 rw[Tryz.params9]at hval;obtain⟨x0,l0,c0,rfl⟩:=okWide_slice Tryz.underlying36 (hval 0 36 v0 rfl rfl);obtain⟨a0,s0⟩:=rd36.openS h0;obtain⟨c1,rfl,_⟩:=okWide_struct Tryz.underlying42 (hval 1 42 v1 rfl rfl);obtain⟨a1,s1⟩:=rd42.openA h1;obtain rfl:=Vp (rp_g_api_Head s1);obtain⟨x2,l2,c2,rfl⟩:=okWide_slice Tryz.underlying43 (hval 2 43 v2 rfl rfl);obtain⟨a2,s2⟩:=rd43.openS h2;obtain⟨c3,rfl,_⟩:=okWide_struct Tryz.underlying45 (hval 3 45 v3 rfl rfl);obtain⟨a3,s3⟩:=rd45.openA h3;obtain rfl:=Vp (rp_g_api_Key s3);obtain⟨a4,rfl,_,_,_⟩:=open_int Tryz.underlying3 (hval 4 3 v4 rfl rfl) h4;obtain⟨x5,l5,c5,rfl⟩:=okWide_slice Tryz.underlying43 (hval 5 43 v5 rfl rfl);obtain⟨a5,s5⟩:=rd43.openS h5;have hc:=I8 (St.of W (gB hL)) s0 s2 s5 (later_true a0 a1 a2 a3 a4 a5);refine Calls.mono hc ?_;rintro e W' ⟨v,rfl,hk,M,hle,S,rfl⟩;refine⟨.bool true,rfl,SJ (tb:=4) (by kernel_rfl) (by kernel_rfl) rfl (by kernel_rfl) Tryz.underlying4 hW' hA rfl rfl rfl hle S hk⟩
noncomputable def LS (os:Os):World:=
 {World.holding Tryz.prog os ⟨#[], #[],[]⟩with heap:=((((World.holding Tryz.prog os ⟨#[], #[],[]⟩).heap.modify 5 fun| .cells _ t fr=> .cells #[.int .u8 128,.int .u8 191,.int .u8 160,.int .u8 191,.int .u8 128,.int .u8 159,.int .u8 144,.int .u8 191,.int .u8 128,.int .u8 143,.int .u8 0,.int .u8 0,.int .u8 0,.int .u8 0,.int .u8 0,.int .u8 0,.int .u8 0,.int .u8 0,.int .u8 0,.int .u8 0,.int .u8 0,.int .u8 0,.int .u8 0,.int .u8 0,.int .u8 0,.int .u8 0,.int .u8 0,.int .u8 0,.int .u8 0,.int .u8 0,.int .u8 0,.int .u8 0] t fr|o=>o).modify 2 fun| .cells _ t fr=> .cells [[.int .i64 1,.func (.func 305) #[] #[]],[.int .i64 2,.func (.func 149) #[] #[]],[.int .i64 4,.func (.func 306) #[] #[]],[.int .i64 12,.func (.func 307) #[] #[]],[.int .i64 48,.func (.func 310) #[] #[]]].flatten.toArray t fr|o=>o).modify 4 fun| .cells _ t fr=> .cells ((List.replicate 128 240++List.replicate 66 241++List.replicate 30 2++[19]++List.replicate 12 3++[35,3,3,52,4,4,4,68]++List.replicate 11 241:List Int).map fun n=>Value.int .u8 n).toArray t fr|o=>o)}
theorem laid_met (os:Os):laidMetH Tryz.prog Rows.monitorLaterRow.laid ((LS os).forCall (fun _ _=>0) ⟨#[], #[(.slice none 0 0:Value),(.agg #[.int .i64 0,.int .i64 0,.int .u64 0,.int .u64 0,.int .i64 0,.int .u64 0,.int .u64 0]:Value),(.slice none 0 0:Value),(.agg #[.int .i64 0,.int .u64 0,.int .i64 0]:Value),(.int .i64 0:Value),(.slice none 0 0:Value)],[]⟩).memory:=
 laidMetH_of_parts3 (fuel:=8) (laidMet_of_run' 8 (by kernel_rfl) (by kernel_rfl)) (by kernel_rfl) (by kernel_rfl)
theorem reads (os:Os){H:Type}(enc:TypeId×Value→H): ∃places,DataW.whole enc Tryz.prog ((LS os).forCall (fun _ _=>0) ⟨#[], #[(.slice none 0 0:Value),(.agg #[.int .i64 0,.int .i64 0,.int .u64 0,.int .u64 0,.int .i64 0,.int .u64 0,.int .u64 0]:Value),(.slice none 0 0:Value),(.agg #[.int .i64 0,.int .u64 0,.int .i64 0]:Value),(.int .i64 0:Value),(.slice none 0 0:Value)],[]⟩).memory Tryz.f9.params.toList Rows.monitorLaterSpec.vars false #[(.slice none 0 0:Value),(.agg #[.int .i64 0,.int .i64 0,.int .u64 0,.int .u64 0,.int .i64 0,.int .u64 0,.int .u64 0]:Value),(.slice none 0 0:Value),(.agg #[.int .i64 0,.int .u64 0,.int .i64 0]:Value),(.int .i64 0:Value),(.slice none 0 0:Value)].toList 8=some ([.nil,.agg [.lit (.int .i64 0),.lit (.int .i64 0),.agg [.lit (.int .u64 0),.lit (.int .u64 0)],.lit (.int .i64 0),.agg [.lit (.int .u64 0),.lit (.int .u64 0)]],.nil,.agg [.lit (.int .i64 0),.lit (.int .u64 0),.lit (.int .i64 0)],.lit (.int .i64 0),.nil],[],places):=
 ⟨[],by kernel_rfl⟩
theorem lifted (os:Os)(started:os.Started)(H:Type)(enc:TypeId×Value→H)(F:Stop.Interp):
  ReturnsInHanded {} Tryz.checked os 9 .any ((OpenSpec.ofChange Rows.monitorLaterSpec).preRow enc Tryz.prog Tryz.f9 Rows.monitorLaterRow.domain false Rows.monitorLaterRow.laid) (((OpenSpec.ofChange Rows.monitorLaterSpec).at F).post enc Tryz.prog Tryz.f9 false true false false):=by
 obtain⟨places,hx⟩:=reads os enc;refine returnsInHanded_of_row (C:=Tryz.checked) (s:=OpenSpec.ofChange Rows.monitorLaterSpec) own started (by kernel_rfl) Tryz.func9
  (witness_row_at (enc:=enc) (C:=Tryz.checked) false (LS os) #[(.slice none 0 0:Value),(.agg #[.int .i64 0,.int .i64 0,.int .u64 0,.int .u64 0,.int .i64 0,.int .u64 0,.int .u64 0]:Value),(.slice none 0 0:Value),(.agg #[.int .i64 0,.int .u64 0,.int .i64 0]:Value),(.int .i64 0:Value),(.slice none 0 0:Value)] rfl (by kernel_rfl) (by kernel_rfl) (by kernel_rfl)
   (OpenSpec.preRow_of_cond 8 hx (by kernel_rfl) (fun k hk=>by cases hk) (by kernel_rfl) (laid_met os))) ?_
 intro W base args ds gs before hval hW _ _ _ hL _ _;exact contract H enc W base args ds gs before hval hW hL
theorem j0:laidOutB Tryz.prog=true:=by kernel_rfl
theorem j1:mapsRowed Tryz.prog=true:=by kernel_rfl
theorem j2:(Rows.monitorLaterRow.inPlace==Tryz.prog.inPlace 9)=true:=by kernel_rfl
theorem j3:(Rows.monitorLaterRow.unfollowed==Tryz.prog.unfollowed 9)=true:=by kernel_rfl
theorem j4:(Rows.monitorLaterRow.recurses==Tryz.prog.recurses 9)=true:=by kernel_rfl
theorem j5:(Rows.monitorLaterRow.named==Tryz.prog.varsNamed 9)=true:=by kernel_rfl
theorem joined:joinedFacts Tryz.prog 9 Tryz.f9 (OpenSpec.ofChange Rows.monitorLaterSpec).bare Rows.monitorLaterRow=true:=by
 unfold joinedFacts;rw[j0,j1,j2,j3,j4,j5];kernel_rfl
theorem s1:Tryz.pinned.checked.prog.funcNamed Rows.monitorLaterRow.func=some 9:=by kernel_rfl
theorem s2:Tryz.f9.isInstance Tryz.pinned.checked.prog Rows.monitorLaterRow.origin Rows.monitorLaterRow.targs:=of_decide_eq_true (by kernel_rfl)
theorem s3:Tryz.f9.isWrapper Tryz.pinned.checked.prog Rows.monitorLaterRow.wrapper Rows.monitorLaterRow.mainSum:=by unfold Func.isWrapper; first|(rw[if_pos (by decide+kernel)]; kernel_rfl)|(rw[if_neg (by decide+kernel)]; exact⟨rfl,rfl⟩)
theorem s4:joinedFacts Tryz.pinned.checked.prog 9 Tryz.f9 (OpenSpec.ofChange Rows.monitorLaterSpec).bare Rows.monitorLaterRow=true:=joined
theorem s5 (os:Os)(started:os.Started)(H:Type)(enc:TypeId×Value→H)(F:Stop.Interp):ReturnsInHanded Rows.monitorLaterRow.assume Tryz.pinned.checked os 9 .any (Rows.monitorLaterRow.pre enc Tryz.pinned.checked.prog Tryz.f9 (OpenSpec.ofChange Rows.monitorLaterSpec)) (((OpenSpec.ofChange Rows.monitorLaterSpec).at F).post enc Tryz.pinned.checked.prog Tryz.f9 Rows.monitorLaterRow.apart Rows.monitorLaterRow.fresh Rows.monitorLaterRow.handsOn Rows.monitorLaterRow.again):=by rw[OpenClaim.pre_eq_preRow]; exact lifted os started H enc F
theorem said:Rows.MonitorLaterSaid:=
 OpenClaim.holds_of_cond 9 Tryz.f9 rfl rfl rfl rfl rfl rfl rfl ⟨rfl,rfl,rfl,rfl,rfl⟩ rfl rfl rfl rfl rfl s1 Tryz.func9 s4 s2 s3 (fun os started H enc _ F=>s5 os started H enc F)
theorem plain (f:FuncId)(fn:Func)(hf:Tryz.pinned.checked.prog.funcNamed "greatseal/greatseallaw30.MonitorLater" =some f)(hfn:Tryz.pinned.checked.prog.funcs[f]? =some fn):
  true=Tryz.pinned.checked.prog.looks []∧∀(j:Nat) t,fn.params[j]? =some t→Tryz.pinned.checked.prog.wantsStandIn t=false:=by
 obtain rfl:f=9:=Option.some.inj ((show Tryz.prog.funcNamed "greatseal/greatseallaw30.MonitorLater" =some 9 by kernel_rfl).symm.trans hf)|>.symm;obtain rfl:fn=Tryz.f9:=(Option.some.inj (Tryz.func9.symm.trans hfn)).symm;refine⟨by kernel_rfl,fun j t ht=> ?_⟩;rw[Tryz.params9]at ht;have hm:t∈[36,42,43,45,3,43]:=by simpa using Array.mem_of_getElem? ht
 have hall:([36,42,43,45,3,43].all fun u=> !Tryz.prog.wantsStandIn u)=true:=by kernel_rfl
 exact(show Tryz.prog.wantsStandIn t=false by simpa using List.all_eq_true.1 hall t hm)
theorem card:Rows.MonitorLaterCardSaid:=
 Claim7.holds_tied_plain_at .later [] _ _ _ _ said (fun _ h=>by cases h) (by kernel_rfl) (fun _ h=>by cases h) monitorLater_row_tie rfl ⟨rfl,rfl⟩ (by kernel_rfl) rfl plain (by kernel_rfl)
end Go.Proofs.YtibojdgdjhngiaaGreatDoor.lawMonitorLater
end
