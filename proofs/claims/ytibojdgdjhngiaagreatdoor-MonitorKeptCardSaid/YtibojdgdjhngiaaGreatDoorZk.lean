/- Several texts, one behind the other. Conditions: none. -/
import Derived.Test.YtibojdgdjhngiaaGreatDoorZg
import Derived.Test.YtibojdgdjhngiaaGreatDoorZh
import Derived.Test.YtibojdgdjhngiaaGreatDoorZi
import Derived.KernelRfl
import Derived.Test.YtibojdgdjhngiaaGreatDoorZb
set_option linter.unusedSimpArgs false
set_option linter.unusedVariables false
set_option maxHeartbeats 20000000
set_option maxRecDepth 100000
section
namespace Go.Proofs.YtibojdgdjhngiaaGreatDoor
open Go Go.Gw Go.Ax
theorem Vf {i n:Nat}(h:i<n)(hn:n≤1000000):w64 ((i:Int)+1)=((i+1:Nat):Int):=by rw[C5 (by omega) (by omega)]; rfl
theorem Xh {α:Type}{xs:List α}{i:Nat}{x:α}(h:xs[i]? =some x):xs.drop i=x::xs.drop (i+1):=by
 obtain⟨hi,rfl⟩:=List.getElem?_eq_some_iff.1 h;exact List.drop_eq_getElem_cons hi
def fndO {α β:Type}(f:α→Option β):List α→(Unit⊕β)
 | []=> .inl ()
 |x::r=>match f x with|some b=> .inr b|none=>fndO f r
theorem Q3 {α β:Type}{step:Int→Option (Int⊕(Unit⊕β))}(xs:List α)(f:α→Option β)
  (hs: ∀(i:Nat) (x:α),xs[i]? =some x→step (i:Int)=some (match f x with|some b=> .inr (.inr b)|none=> .inl ((i+1:Nat):Int)))
  (he:step (xs.length:Int)=some (.inr (.inl ()))): ∀(k i n:Nat),i+k=xs.length→k<n→iter step n (i:Int)=some (fndO f (xs.drop i))
 |0,i,n,h,hn=>by
  obtain⟨n,rfl⟩: ∃q,n=q+1:=⟨n-1,by omega⟩;have h:i=xs.length:=by omega
  subst h;show Ad (step _) _=_;rw[he,List.drop_length]; rfl
 |k+1,i,n,h,hn=>by
  obtain⟨n,rfl⟩: ∃q,n=q+1:=⟨n-1,by omega⟩;have hi:i<xs.length:=by omega
  have hx:xs[i]? =some xs[i]:=List.getElem?_eq_getElem hi;show Ad (step _) _=_;rw[hs i _ hx,Xh hx];unfold fndO;cases f xs[i]with
  |some b=>rfl
  |none=>exact Q3 xs f hs he k (i+1) n (by omega) (by omega)
theorem Oa {α β:Type}{step:Int→Option (Int⊕(Unit⊕β))}(xs:List α)(f:α→Option β)(hl:xs.length≤1000000)
  (hs: ∀(i:Nat) (x:α),xs[i]? =some x→step (i:Int)=some (match f x with|some b=> .inr (.inr b)|none=> .inl ((i+1:Nat):Int)))
  (he:step (xs.length:Int)=some (.inr (.inl ()))):iter step EF 0=some (fndO f xs):=
 Q3 xs f hs he xs.length 0 EF (by omega) (by have:(1000001:Nat)≤EF:=Nat.le_of_ble_eq_true rfl; omega)
def fldI {α σ:Type}(g:Nat→σ→α→σ):List α→Nat→σ→σ
 | [],_,s=>s
 |x::r,i,s=>fldI g r (i+1) (g i s x)
theorem PM {α:Type}(p:α→Bool)(v:Bool): ∀(xs:List α),fndO (fun x=>if p x=true then some v else none) xs=if xs.any p=true then .inr v else .inl ()
 | []=>rfl
 |x::r=>by
  unfold fndO;cases h:p x with
  |true=>simp[h]
  |false=>simp[h,PM p v r]
def plc {α:Type}(p:α→Bool):List α→Nat→List Int
 | [],_=> []
 |x::r,i=>if p x=true then(i:Int)::plc p r (i+1)else plc p r (i+1)
theorem RW {α:Type}{p:α→Bool}: ∀{xs:List α} {i:Nat},(∀x∈xs,p x=false)→plc p xs i=[]
 | [],_,_=>rfl
 |x::r,i,h=>by
  unfold plc;rw[if_neg (by rw[h x List.mem_cons_self]; decide)];exact RW fun y hy=>h y (List.mem_cons_of_mem _ hy)
def Nb (l:List ByteArray):Bool:= !(l.take 20).any (fun s=>decide ((s.size:Int)>200))&&decide ((l.length:Int)≤16)
theorem TC {α:Type}{l:List α}{n i:Nat}{x:α}(h:(l.take n)[i]? =some x):idx l (i:Int)=some x∧i<l.length∧i<n:=by
 rw[List.getElem?_take]at h;split at h
 ·exact⟨Fi h,(List.getElem?_eq_some_iff.1 h).1,‹_›⟩
 ·cases h
theorem QZ (l:List ByteArray):D9 l=some (Nb l):=by
 unfold D9 Nb;rw[Oa (l.take 20) (fun s=>if decide ((s.size:Int)>200)=true then some false else none) (by simp; omega) (fun i x hx=> ?_) ?_,PM]
 ·simp only[Ab];cases (l.take 20).any fun s=>decide ((s.size:Int)>200)<;>rfl
 ·unfold Dy;rw[if_neg (by simp; omega)]
 ·obtain⟨h1,h2,h3⟩:=TC hx;unfold Dy;rw[if_pos (by simp; omega),h1];simp only[Ab];split
  ·rfl
  ·rw[Vf h3 (by omega)]
def Rb (c:g_api_Cert):Bool:=((((decide ((c.Issuer.size:Int)≤300))&&(decide ((c.Subject.size:Int)≤300)))&&Nb c.Names)&&Nb c.Permit)&&(decide ((c.Proms.length:Int)≤8))
theorem Zd (c:g_api_Cert):HH c=some (Rb c):=by
 unfold HH Rb;rw[QZ,QZ];cases (decide ((c.Issuer.size:Int)≤300))&&(decide ((c.Subject.size:Int)≤300))
 ·rfl
 ·cases Nb c.Names<;>rfl
def Ab6 (l:List g_api_Cert):Bool:= !(l.take 40).any (fun c=> !Rb c)&&decide ((l.length:Int)≤40)
theorem Ab5 (l:List g_api_Cert):D1 l=some (Ab6 l):=by
 unfold D1 Ab6;rw[Oa (l.take 40) (fun c=>if(!Rb c)=true then some false else none) (by simp; omega) (fun i x hx=> ?_) ?_,PM]
 ·simp only[Ab];cases (l.take 40).any fun c=> !Rb c<;>rfl
 ·unfold CQ;rw[if_neg (by simp; omega)]
 ·obtain⟨h1,h2,h3⟩:=TC hx;unfold CQ;rw[if_pos (by simp; omega),h1];simp only[Ab,Zd];split
  ·rfl
  ·rw[Vf h3 (by omega)]
def fewBB (l:List AE):Bool:= !(l.take 40).any (fun b=>decide ((b.Names.length:Int)>20))&&decide ((l.length:Int)≤40)
theorem Z1 {κ γ:Type}{E:κ→κ→Bool}(hE: ∀a b,E a b=true↔a=b)(o k:κ)(v:γ): ∀(kv:List (κ×γ)),lkG (E o) (upG (E k) (k,v) kv)=if E o k=true then some v else lkG (E o) kv
 | []=>by
  unfold upG lkG lkG;cases E o k<;>rfl
 |y::r=>by
  unfold upG;cases hk:E k y.1 with
  |true=>
   have hy:=(hE _ _).1 hk;simp only[cond_true,lkG];rw[←hy];cases E o k<;>rfl
  |false=>
   simp only[cond_false,lkG];cases ho:E o y.1 with
   |true=>
    have hy:=(hE _ _).1 ho;have:E o k=false:=by
     cases e:E o k with
     |false=>rfl
     |true=>
      have:=(hE _ _).1 e;rw[←this,hy]at hk;rw[(hE y.1 y.1).2 rfl]at hk; cases hk
    rw[this]; rfl
   |false=>exact Z1 hE o k v r
theorem TL (a b:UInt64×UInt64):GK a b=true↔a=b:=by
 cases a; cases b;simp[GK]
abbrev OM:=List (Ah×Int)
def qO (kv:OM)(o:Ah)(n:Int):Bool:=match lkG (AI o) kv with|some v=>decide (v≤n)|none=>false
def putO (kv:OM)(o:Ah)(at_:Int):OM:=if((!(lkG (AI o) kv).isSome)||(decide (at_<(lkG (AI o) kv).getD 0)))=true then upG (AI o) (o,at_) kv else kv
def putN (key:UInt64)(at_:Int):List ByteArray→OM→OM
 | [],kv=>kv
 |s::r,kv=>putN key at_ r (putO kv ⟨s,key⟩ at_)
def putB':List AE→OM→OM
 | [],kv=>kv
 |b::r,kv=>putB' r (putN b.Key b.At b.Names kv)
def bkd (l:List AE)(s:ByteArray)(key:UInt64)(n:Int):Bool:=l.any fun b=>b.Key==key&&decide (b.At≤n)&&b.Names.any (fun t=>eqS t s)
def strP (books:List AE)(c:g_api_Cert):Bool:=c.Names.any fun s=> !bkd books s c.Key c.From
theorem app1 {α:Type}{b n:Nat}{s:List α}{x:α}(h:s.length≤n)(hb:(n+1)*b≤140737488355328)(hn:n+1≤140737488355328):app b s [x]=some (s++[x]):=by
 unfold app;have:(s.length+[x].length)*b≤(n+1)*b:=Nat.mul_le_mul_right b (by simp; omega);rw[if_pos ⟨by omega,by simp; omega⟩]
def mis (h:AT)(leaves:List (UInt64×UInt64))(k:Bx)(p:g_api_Promise):Bool:=(((p.Log==h.Log)&&(p.Log==k.Log))&&(decide ((w64 (p.At+k.Delay))<h.At)))&& !leaves.any (fun x=>GK x p.Leaf)
abbrev LM:=List ((UInt64×UInt64)×Bool)
def thr (kv:LM)(x:UInt64×UInt64):Bool:=(lkG (GK x) kv).getD false
def Aa9:List (UInt64×UInt64)→LM→LM
 | [],kv=>kv
 |x::r,kv=>Aa9 r (upG (GK x) (x,true) kv)
theorem QV: ∀(l:List (UInt64×UInt64)) (i:Int) (kv:LM),Cx Dt l i kv=some (Aa9 l kv)
 | [],_,_=>rfl
 |x::r,i,kv=>QV r (i+1) (upG (GK x) (x,true) kv)
theorem thr_l (y:UInt64×UInt64): ∀(l:List (UInt64×UInt64)) (kv:LM),thr (Aa9 l kv) y=(thr kv y||l.any (fun x=>GK x y))
 | [],kv=>by simp[Aa9]
 |x::r,kv=>by
  unfold Aa9;rw[thr_l y r];unfold thr;rw[Z1 TL];have e:GK y x=GK x y:=by
   unfold GK;rw[Bool.beq_comm (a:=y.1),Bool.beq_comm (a:=y.2)]
  rw[e,List.any_cons];cases GK x y<;>simp
theorem UA (h:AT)(k:Bx)(kv:LM)(p:g_api_Promise):CR p h k kv=some ((((((p.Log==h.Log)&&(p.Log==k.Log))&&(decide ((w64 (p.At+k.Delay))<h.At)))&&(!thr kv p.Leaf))),h,k,kv):=rfl
theorem Wi (h:AT)(k:Bx)(kv:LM){l:List g_api_Promise}{i:Nat}{x:g_api_Promise}{out:List Int}(hx:l[i]? =some x)(ho:out.length≤1000000):
  AL l (i:Int) (out,h.Log,h.Size,h.Root.1,h.Root.2,h.At,h.Sig.E,h.Sig.S,k.Log,k.Key,k.Delay,kv)=
   some (if(((((x.Log==h.Log)&&(x.Log==k.Log))&&(decide ((w64 (x.At+k.Delay))<h.At)))&&(!thr kv x.Leaf)))=true then out++[(i:Int)]else out,h.Log,h.Size,h.Root.1,h.Root.2,h.At,h.Sig.E,h.Sig.S,k.Log,k.Key,k.Delay,kv):=by
 unfold AL;rw[Fi hx];simp only[Ab];show Ad (Ad (CR x h k kv) _) _=_;rw[UA];simp only[Ab];split
 ·rw[app1 ho (by decide) (by decide)]; rfl
 ·rfl
theorem Pt (h:AT)(k:Bx)(kv:LM)(l:List g_api_Promise)(hl:l.length≤1000000): ∀(q i:Nat) (out:List Int),i+q=l.length→out.length≤i→
  Bf (AL l) q (i:Int) (out,h.Log,h.Size,h.Root.1,h.Root.2,h.At,h.Sig.E,h.Sig.S,k.Log,k.Key,k.Delay,kv)=some (out++plc (fun p=>(((p.Log==h.Log)&&(p.Log==k.Log))&&(decide ((w64 (p.At+k.Delay))<h.At)))&&(!thr kv p.Leaf)) (l.drop i) i,h.Log,h.Size,h.Root.1,h.Root.2,h.At,h.Sig.E,h.Sig.S,k.Log,k.Key,k.Delay,kv)
 |0,i,out,e,ho=>by
  rw[List.drop_of_length_le (by omega)];simp[Bf,plc]
 |q+1,i,out,e,ho=>by
  have hi:i<l.length:=by omega
  have hx:l[i]? =some l[i]:=List.getElem?_eq_getElem hi;show Ad (AL l (i:Int) (out,h.Log,h.Size,h.Root.1,h.Root.2,h.At,h.Sig.E,h.Sig.S,k.Log,k.Key,k.Delay,kv)) _=_;rw[Wi h k kv hx (by omega),Xh hx];unfold plc;split
  ·have:=Pt h k kv l hl q (i+1) (out++[(i:Int)]) (by omega) (by simp; omega);rw[List.append_assoc]at this;exact this
  ·exact Pt h k kv l hl q (i+1) out (by omega) (by omega)
theorem N4 {l:List g_api_Promise}(h:AT)(leaves:List (UInt64×UInt64))(k:Bx)(hl:l.length≤1000000):Ao l h leaves k=some (plc (mis h leaves k) l 0):=by
 unfold Ao;rw[QV];simp only[Ab];unfold BE;have:=Pt h k (Aa9 leaves []) l hl l.length 0 [] (by omega) (Nat.le_refl _);rw[show((0:Nat):Int)=0 from rfl]at this;rw[this];have e:(fun(p:g_api_Promise)=>(((p.Log==h.Log)&&(p.Log==k.Log))&&(decide ((w64 (p.At+k.Delay))<h.At)))&&(!thr (Aa9 leaves []) p.Leaf))=mis h leaves k:=by
  funext p;unfold mis;rw[thr_l];rfl
 simp only[Ab,List.drop_zero,List.nil_append,e]
end Go.Proofs.YtibojdgdjhngiaaGreatDoor
end
section
namespace Go.Proofs.YtibojdgdjhngiaaGreatDoor
open Go Go.Gw Go.Ax
theorem Acl {α β:Type}(a:α)(k:α→β):bnd a k=k a:=rfl
theorem lt_dec {a b:Nat}(h:a<b):decide (((a:Nat):Int)<(b:Int))=true:=decide_eq_true (by omega)
theorem Abu (a:Nat):decide (((a:Nat):Int)<(a:Int))=false:=decide_eq_false (by omega)
end Go.Proofs.YtibojdgdjhngiaaGreatDoor
end
section
namespace Go.Proofs.YtibojdgdjhngiaaGreatDoor
open Go Go.Gw Go.Ax
theorem CY {α β:Type}(a:α)(k:α→β):bnd a k=k a:=rfl
theorem I6 {σ τ:Type}{step:σ→Option (σ⊕τ)}{s:σ}{t:τ}(n:Nat)(h:iter step n s=some t)(hn:n≤18446744073709551616):iter step EF s=some t:=WW h hn
theorem Df {σ τ:Type}{step:σ→Option (σ⊕τ)}{n:Nat}{s s':σ}(h:step s=some (.inl s')):iter step (n+1) s=iter step n s':=by simp only[iter,h,Ab]
theorem DU {σ τ:Type}{step:σ→Option (σ⊕τ)}{n:Nat}{s:σ}{t:τ}(h:step s=some (.inr t)):iter step (n+1) s=some t:=by simp only[iter,h,Ab]
theorem Ib {α:Type}(b:Nat){xs ys:List α}(h:(xs.length+ys.length)*b≤140737488355328)(h1:xs.length+ys.length≤140737488355328):app b xs ys=some (xs++ys):=by unfold app; rw[if_pos ⟨h,h1⟩]
theorem LQ {α:Type}{xs:List α}{lo hi:Nat}(h1:lo≤hi)(h2:hi≤xs.length):cut xs (lo:Int) (hi:Int)=some ((xs.drop lo).take (hi-lo)):=by
 unfold cut; rw[if_pos ⟨by omega,by omega,by omega⟩]; simp
def Yr (hi lo:UInt64):UInt64:=
 let n:=(lo&&&2305843009213693951)+((Ha hi 3)|||(DX lo 61))
 let k:=(n&&&2305843009213693951)+DX n 61
 if 2305843009213693951≤k.toNat then k-2305843009213693951 else k
theorem W8 (a b:UInt64):Ft a b=some (Yr a b):=by
 unfold Ft Yr;simp only[CY];generalize (b&&&2305843009213693951)+((Ha a 3)|||(DX b 61))=n;generalize (n&&&2305843009213693951)+DX n 61=k;by_cases h:2305843009213693951≤k.toNat
 ·rw[if_pos h,if_pos (decide_eq_true (by omega))]; rfl
 ·rw[if_neg h,if_neg (by simp; omega)]; rfl
def ZO (a:UInt64):UInt64:=Yr 0 a
theorem ZS (a:UInt64):DN a=some (ZO a):=by simp only[DN,W8,Ab]; rfl
def Gq (a b:UInt64):UInt64:=ZO (ZO a+ZO b)
theorem TZ (a b:UInt64):DQ a b=some (Gq a b):=by simp only[DQ,ZS,Ab]; rfl
def phi (a0 a1:UInt64):UInt64:=
 let x1:=(a0&&&4294967295)*(a1&&&4294967295)
 let x2:=((DX a0 32)*(a1&&&4294967295))+(DX x1 32)
 let x3:=(x2&&&4294967295)+((a0&&&4294967295)*(DX a1 32))
 (((DX a0 32)*(DX a1 32))+(DX x2 32))+(DX x3 32)
theorem Pz (a b:UInt64):ED a b=some (phi a b,a*b):=rfl
def pmul (a b:UInt64):UInt64:=Yr (phi (ZO a) (ZO b)) (ZO a*ZO b)
theorem mul_eq (a b:UInt64):GA a b=some (pmul a b):=by simp only[GA,ZS,Pz,W8,Ab]; rfl
def NI (a:UInt64):UInt64:=
 let b:=pmul a a
 let c:=pmul b b
 let d:=pmul c c
 pmul a (pmul d d)
theorem sev_eq (a:UInt64):C3 a=some (NI a):=by
 simp only[C3,Bf,DL,mul_eq,Ab]; rfl
def N1 (r i:Int):UInt64:=let n:=toU (w64 ((w64 ((w64 (3*r))+i))+1)); n*n*n+7
def ZR (r:Int)(s:UInt64×UInt64×UInt64):UInt64:=Gq (Gq (Gq 0 (NI (Gq s.1 (N1 r 0)))) (NI (Gq s.2.1 (N1 r 1)))) (NI (Gq s.2.2 (N1 r 2)))
def KM (r:Int)(s:UInt64×UInt64×UInt64):UInt64×UInt64×UInt64:=(Gq (NI (Gq s.1 (N1 r 0))) (ZR r s),Gq (NI (Gq s.2.1 (N1 r 1))) (ZR r s),Gq (NI (Gq s.2.2 (N1 r 2))) (ZR r s))
theorem Sa (i:Int)(a:UInt64)(r:Int)(all:UInt64):Ex i a r all=some (NI (Gq a (N1 r i)),r,Gq all (NI (Gq a (N1 r i)))):=by
 simp only[Ex,CY,TZ,sev_eq,Ab]; rfl
theorem R9 (i:Int)(a:UInt64)(all:UInt64):Ew i a all=some (Gq a all,all):=by
 simp only[Ew,TZ,Ab]
theorem Xf {σ:Type}{p:σ→Int→UInt64→Option (UInt64×σ)}{a b c a' b' c':UInt64}{s0 s1 s2 s3:σ}(h0:p s0 0 a=some (a',s1))(h1:p s1 1 b=some (b',s2))(h2:p s2 2 c=some (c',s3)):
  Cp (a,b,c) p s0=some ((a',b',c'),s3):=by
 have e0:idx [a,b,c] 0=some a:=rfl;have e1:idx [a',b,c] 1=some b:=rfl;have e2:idx [a',b',c] 2=some c:=rfl;simp[Cp,Bf,Du,CY,h0,e0,h1,e1,h2,e2]
theorem Abr (r:Int)(s:UInt64×UInt64×UInt64):FY r s=some (KM r s):=by
 obtain⟨a,b,c⟩:=s;unfold FY;rw[Xf (a':=NI (Gq a (N1 r 0))) (b':=NI (Gq b (N1 r 1))) (c':=NI (Gq c (N1 r 2))) (s1:=(r,Gq 0 (NI (Gq a (N1 r 0))))) (s2:=(r,Gq (Gq 0 (NI (Gq a (N1 r 0)))) (NI (Gq b (N1 r 1)))))
  (s3:=(r,Gq (Gq (Gq 0 (NI (Gq a (N1 r 0)))) (NI (Gq b (N1 r 1)))) (NI (Gq c (N1 r 2))))) (by simp only[Sa,Ab]) (by simp only[Sa,Ab]) (by simp only[Sa,Ab])]
 simp only[Ab];change Ad (Cp _ _ (ZR r (a,b,c))) _=some (Gq _ (ZR r (a,b,c)),Gq _ (ZR r (a,b,c)),Gq _ (ZR r (a,b,c)));generalize ZR r (a,b,c)=all;rw[Xf (s1:=all) (s2:=all) (s3:=all) (a':=Gq (NI (Gq a (N1 r 0))) all) (b':=Gq (NI (Gq b (N1 r 1))) all) (c':=Gq (NI (Gq c (N1 r 2))) all) (by simp only[R9,Ab]) (by simp only[R9,Ab]) (by simp only[R9,Ab])];rfl
def UX (s:UInt64×UInt64×UInt64):UInt64×UInt64×UInt64:=KM 7 (KM 6 (KM 5 (KM 4 (KM 3 (KM 2 (KM 1 (KM 0 s)))))))
theorem WH (s:UInt64×UInt64×UInt64):IJ s=some (UX s):=by
 simp only[IJ,Bf,Abr,Ab];rfl
def ple:List UInt8→Nat→UInt64→UInt64
 | [],_,s=>s
 |b::bs,i,s=>ple bs (i+1) (s|||Ha (toU (b.toNat:Int)) (8*i))
theorem b6_eq (b5:List UInt8): ∀(l:List UInt8) (i:Nat) (s:UInt64),b5.drop i=l→i+l.length≤1000000→Bf (DO b5) l.length (i:Int) s=some (ple l i s):=by
 intro l;induction l with
 |nil=>intro i s _ _; rfl
 |cons b l ih=>
  intro i s h hb;have hx:idx b5 (i:Int)=some b:=Fi (by
   have:(b5.drop i)[0]? =some b:=by rw[h]; rfl
   simpa using this)
  simp only[List.length_cons]at hb;have hw:w64 (8*(i:Int))=((8*i:Nat):Int):=by rw[C5 (by omega) (by omega)]; omega
  have hstep:DO b5 (i:Int) s=some (s|||Ha (toU (b.toNat:Int)) (8*i)):=by
   simp only[DO,hx,Ab,hw,CY];rw[if_pos (by omega)]; rfl
  show Bf (DO b5) (l.length+1) _ _=_;simp only[Bf,hstep,Ab,ple];have:=ih (i+1) (s|||Ha (toU (b.toNat:Int)) (8*i)) (by rw[←List.drop_drop,h]; rfl) (by omega);simpa using this
def pof (n:Nat)(l:List UInt8):List UInt64:=match n,l with|_,[]=> []|0,_=> []|n+1,l=>ple (l.take 7) 0 0::pof n (l.drop 7)
theorem Abf (n:Nat): ∀l,(pof n l).length≤n:=by
 induction n with
 |zero=>intro l; cases l<;>simp[pof]
 |succ n ih=>intro l; cases l with
  |nil=>simp[pof]
  |cons a l=>simp only[pof,List.length_cons]; have:=ih ((a::l).drop 7); omega
theorem Zi (a0:List UInt8)(hb:a0.length≤1000000): ∀(n i:Nat) (out:List UInt64),a0.length≤i+n→i≤1000000+7→out.length+n≤1000000→
  iter (A3 (fun(s:(List UInt64)) (b0:List UInt8)=>Ad (DP b0 s) fun y=>some (true,y)) a0 7) (n+1) ((i:Int),out)=some (.inl (out++pof n (a0.drop i))):=by
 intro n;induction n with
 |zero=>
  intro i out h _ _;have:a0.drop i=[]:=List.drop_eq_nil_of_le (by omega);refine DU ?_;simp only[A3,this];rw[if_neg (by simp; omega)];simp[pof]
 |succ n ih=>
  intro i out h hi ho;by_cases hlt:i<a0.length
  ·obtain⟨b,l,hl⟩: ∃b l,a0.drop i=b::l:=⟨a0[i],a0.drop (i+1),List.drop_eq_getElem_cons hlt⟩;have hc1:cut a0 (i:Int) (a0.length:Int)=some (a0.drop i):=by
    rw[LQ (by omega) (by omega)]; congr 1; rw[List.take_of_length_le (by simp)]
   have hlen:(a0.drop i).length=a0.length-i:=by simp
   have hm:w64 ((i:Int)+Ml 7 ((a0.drop i).length:Int))=((i+min 7 (a0.length-i):Nat):Int):=by
    rw[C5]<;>unfold Ml<;>split<;>omega
   have hc2:cut a0 (i:Int) ((i+min 7 (a0.length-i):Nat):Int)=some ((a0.drop i).take 7):=by
    rw[LQ (by omega) (by omega)]; congr 1;rw[Nat.add_sub_cancel_left];by_cases h7:7≤a0.length-i
    ·rw[Nat.min_eq_left h7]
    ·rw[Nat.min_eq_right (by omega),List.take_of_length_le (by simp),List.take_of_length_le (by simp; omega)]
   have hw:w64 ((i:Int)+7)=((i+7:Nat):Int):=by rw[C5 (by omega) (by omega)]; omega
   have hb4:DP ((a0.drop i).take 7) out=some (out++[ple ((a0.drop i).take 7) 0 0]):=by
    have:=b6_eq ((a0.drop i).take 7) ((a0.drop i).take 7) 0 0 rfl (by simp; omega);simp only[DP];rw[show((0:Int))=((0:Nat):Int)from rfl,this];simp only[Ab];rw[Ib 8 (by simp; omega) (by simp; omega)];rfl
   rw[Df (s':=(((i+7:Nat):Int),out++[ple ((a0.drop i).take 7) 0 0]))]
   ·rw[ih (i+7) _ (by omega) (by omega) (by simp; omega)];rw[hl];simp only[pof];rw[←hl,List.drop_drop];simp
   ·simp only[A3];rw[if_pos (decide_eq_true (by omega)),hc1];simp only[Ab,hm,hc2,hb4,hw];rfl
  ·have:a0.drop i=[]:=List.drop_eq_nil_of_le (by omega);refine DU ?_;simp only[A3,this];rw[if_neg (by simp; omega)];simp[pof]
theorem of_eq (a0:List UInt8)(hb:a0.length≤900000):IK a0=some (pof a0.length a0):=by
 have h:=Zi a0 (by omega) a0.length 0 [] (by omega) (by omega) (by simp; omega);have h':=I6 _ h (by omega);simp only[IK,CB,Cm];rw[if_neg (by decide)];simp only[Ab,List.drop_zero,List.nil_append]at h'⊢;rw[show((0:Int))=((0:Nat):Int)from rfl,h'];simp only[Ab]
def JY (n:Nat)(l:List UInt64)(s:UInt64×UInt64×UInt64):UInt64×UInt64×UInt64:=match n,l with|_,[]=>s|0,_=>s|_+1,[x]=>UX (Gq s.1 x,s.2.1,s.2.2)|n+1,x::y::l=>JY n l (UX (Gq s.1 x,Gq s.2.1 y,s.2.2))
theorem b4_eq1 (x:UInt64)(s:UInt64×UInt64×UInt64):Bf (DM [x]) 1 0 s=some (Gq s.1 x,s.2.1,s.2.2):=by
 have e0:idx [x] (0:Int)=some x:=rfl;have e1:idx [s.1,s.2.1,s.2.2] (0:Int)=some s.1:=rfl;simp[Bf,DM,e0,e1,TZ,CY]
theorem b4_eq2 (x y:UInt64)(s:UInt64×UInt64×UInt64):Bf (DM [x,y]) 2 0 s=some (Gq s.1 x,Gq s.2.1 y,s.2.2):=by
 have e0:idx [x,y] (0:Int)=some x:=rfl;have e1:idx [s.1,s.2.1,s.2.2] (0:Int)=some s.1:=rfl;have e2:idx [x,y] 1=some y:=rfl;have e3:idx [Gq s.1 x,s.2.1,s.2.2] 1=some s.2.1:=rfl;simp[Bf,DM,e0,e1,e2,e3,TZ,CY]
theorem b3_nil (fst:Bool)(hf:fst=true)(s:UInt64×UInt64×UInt64):B2 ([],fst,s.1,s.2.1,s.2.2)=some (.inl ([],false,UX s)):=by
 subst hf;have hc:cut ([]:List UInt64) 0 0=some []:=rfl;have hmin:Ml 2 (([]:List UInt64).length:Int)=0:=rfl;simp only[B2,Bool.true_or,if_true,hmin];rw[show((([]:List UInt64).length:Int))=0 from rfl,hc];simp only[Ab,Bf,List.length_nil,WH]
theorem Aau (s:UInt64×UInt64×UInt64):B2 ([],false,s.1,s.2.1,s.2.2)=some (.inr s):=rfl
theorem Aat (fst:Bool)(x:UInt64)(s:UInt64×UInt64×UInt64):B2 ([x],fst,s.1,s.2.1,s.2.2)=some (.inl ([],false,UX (Gq s.1 x,s.2.1,s.2.2))):=by
 have hmin:Ml 2 (([x]:List UInt64).length:Int)=1:=rfl;have h0:(fst||decide ((([x]:List UInt64).length:Int)>0))=true:=by simp
 have hc:cut [x] 0 1=some [x]:=rfl;have hc2:cut [x] 1 1=some []:=rfl;simp only[B2,h0,if_true,hmin];rw[show((([x]:List UInt64).length:Int))=1 from rfl,hc,hc2];simp only[Ab,List.length_cons,List.length_nil];rw[b4_eq1];simp only[Ab,WH]
theorem Aas (fst:Bool)(x y:UInt64)(l:List UInt64)(s:UInt64×UInt64×UInt64):B2 (x::y::l,fst,s.1,s.2.1,s.2.2)=some (.inl (l,false,UX (Gq s.1 x,Gq s.2.1 y,s.2.2))):=by
 have hmin:Ml 2 ((x::y::l).length:Int)=((2:Nat):Int):=by unfold Ml; rw[if_neg (by simp; omega)]; rfl
 have h0:(fst||decide (((x::y::l).length:Int)>0))=true:=by simp; right; omega
 have hc:cut (x::y::l) ((0:Nat):Int) ((2:Nat):Int)=some [x,y]:=by rw[LQ (by omega) (by simp)]; rfl
 have hc2:cut (x::y::l) ((2:Nat):Int) ((x::y::l).length:Int)=some l:=by rw[LQ (by simp) (by omega)]; simp
 simp only[B2,h0,if_true,hmin];rw[show((0:Int))=((0:Nat):Int)from rfl,hc,hc2];simp only[Ab,List.length_cons,List.length_nil];rw[show((0:Nat):Int)=0 from rfl,b4_eq2];simp only[Ab,WH]
theorem SC: ∀(n:Nat) (l:List UInt64) (s:UInt64×UInt64×UInt64),l.length≤n→iter B2 (n+1) (l,false,s.1,s.2.1,s.2.2)=some (JY n l s):=by
 intro n;induction n with
 |zero=>
  intro l s h;have:l=[]:=List.eq_nil_of_length_eq_zero (by omega);subst this;rw[DU (Aau s)]; simp[JY]
 |succ n ih=>
  intro l s h;match l,h with
  | [],_=>rw[DU (Aau s)]; simp[JY]
  | [x],_=>
   rw[Df (Aat false x s)];have:=ih [] (UX (Gq s.1 x,s.2.1,s.2.2)) (by simp);rw[this]; simp[JY]
  |x::y::l,h=>
   rw[Df (Aas false x y l s)];have:=ih l (UX (Gq s.1 x,Gq s.2.1 y,s.2.2)) (by simp at h; omega);rw[this]; simp[JY]
def ZP (l:List UInt64)(s:UInt64×UInt64×UInt64):UInt64×UInt64×UInt64:=match l with| []=>UX s|l=>JY l.length l s
def hsum (b:List UInt8):UInt64×UInt64:=((ZP (pof b.length b) (0,0,toU (b.length:Int))).1,(ZP (pof b.length b) (0,0,toU (b.length:Int))).2.1)
theorem sum_eq (b:List UInt8)(hb:b.length≤900000):Hp b=some (hsum b):=by
 simp only[Hp,of_eq b hb,Ab];have hl:=Abf b.length b;have hk:hsum b=((ZP (pof b.length b) (0,0,toU (b.length:Int))).1,(ZP (pof b.length b) (0,0,toU (b.length:Int))).2.1):=rfl;rw[hk];clear hk;generalize pof b.length b=l at*;have h:iter B2 EF (l,true,0,0,toU (b.length:Int))=some (ZP l (0,0,toU (b.length:Int))):=by
  refine I6 (l.length+2) ?_ (by omega);match l with
  | []=>
   rw[show([]:List UInt64).length+2=1+1 from rfl,Df (b3_nil true rfl (0,0,toU (b.length:Int)))];have:=SC 0 [] (UX (0,0,toU (b.length:Int))) (by simp);rw[this]; simp[JY,ZP]
  | [x]=>
   rw[show([x]:List UInt64).length+2=2+1 from rfl,Df (Aat true x (0,0,toU (b.length:Int)))];have:=SC 1 [] (UX (Gq 0 x,0,toU (b.length:Int))) (by simp);rw[this]; simp[JY,ZP]
  |x::y::l=>
   rw[Df (Aas true x y l (0,0,toU (b.length:Int)))];have:=SC (l.length+2) l (UX (Gq 0 x,Gq 0 y,toU (b.length:Int))) (by omega);have e:(x::y::l).length+1=l.length+2+1:=rfl;rw[e,this];simp only[JY,ZP,List.length_cons];congr 1;clear this hl;have: ∀(n k:Nat) (l:List UInt64) (s:UInt64×UInt64×UInt64),l.length≤n→l.length≤k→JY n l s=JY k l s:=by
    intro n;induction n with
    |zero=>intro k l s h _; have:l=[]:=List.eq_nil_of_length_eq_zero (by omega); subst this; simp[JY]
    |succ n ih=>
     intro k l s h hk;match l,k,h,hk with
     | [],k,_,_=>cases k<;>simp[JY]
     | [x],k+1,_,_=>simp[JY]
     |x::y::l,k+1,h,hk=>simp only[JY]; exact ih k l _ (by simp at h; omega) (by simp at hk; omega)
   exact this _ _ _ _ (by omega) (by omega)
 rw[h];simp only[Ab]
def NJ:Nat→UInt64→List UInt8
 |0,_=> []
 |k+1,n=>toB ((DX n (8*k)).toNat:Int)::NJ k n
theorem H4 (k:Nat)(n:UInt64):(NJ k n).length=k:=by induction k with|zero=>rfl|succ k ih=>simp[NJ,ih]
theorem Ym (n:UInt64): ∀(k:Nat) (b:List UInt8),k≤8→b.length+k≤1000000→iter (ER n) (k+1) (b,(k:Int)-1)=some (b++NJ k n):=by
 intro k;induction k with
 |zero=>intro b _ _; refine DU ?_; simp only[ER,NJ,List.append_nil]; rw[if_neg (by simp)]
 |succ k ih=>
  intro b hk hb;have hw:w64 (8*(((k+1:Nat):Int)-1))=((8*k:Nat):Int):=by rw[C5 (by omega) (by omega)]; omega
  have hw2:w64 ((((k+1:Nat):Int)-1)-1)=(k:Int)-1:=by rw[C5 (by omega) (by omega)]; omega
  rw[Df (s':=(b++[toB ((DX n (8*k)).toNat:Int)],(k:Int)-1))]
  ·rw[ih _ (by omega) (by simp; omega)]; simp[NJ]
  ·simp only[ER,hw,hw2];rw[if_pos (decide_eq_true (by omega)),if_pos (by omega),Ib 1 (by simp; omega) (by simp; omega)];simp only[Ab,Int.toNat_natCast]
theorem V9 (n:UInt64)(k:Nat)(b:List UInt8)(hk:k≤8)(hb:b.length≤900000):ES b n (k:Int)=some (b++NJ k n):=by
 have hw:w64 ((k:Int)-1)=(k:Int)-1:=C5 (by omega) (by omega);simp only[ES,hw,I6 (k+1) (Ym n k b hk (by omega)) (by omega),Ab]
def LJ (s:UInt64×UInt64):List UInt8:=NJ 8 s.1++NJ 8 s.2
theorem IH (s:UInt64×UInt64):(LJ s).length=16:=by simp[LJ,H4]
theorem P0 (s:UInt64×UInt64):DE s=some (LJ s):=by
 have e0:idx [s.1,s.2] 0=some s.1:=rfl;have e1:idx [s.1,s.2] 1=some s.2:=rfl;have h0:ES [] s.1 8=some ([]++NJ 8 s.1):=V9 s.1 8 [] (by omega) (by simp);have h1:ES (NJ 8 s.1) s.2 8=some (NJ 8 s.1++NJ 8 s.2):=V9 s.2 8 _ (by omega) (by rw[H4]; omega);simp[DE,Bf,FZ,e0,e1,h0,h1,LJ]
def Wm:List UInt8→List (List UInt8)→List UInt8
 |b,[]=>b
 |b,p::ps=>Wm (b++NJ 4 (toU (p.length:Int))++p) ps
def Wh:List (List UInt8)→Nat
 | []=>0
 |p::ps=>4+p.length+Wh ps
theorem Wl: ∀(ps:List (List UInt8)) (b:List UInt8),(Wm b ps).length=b.length+Wh ps:=by
 intro ps;induction ps with
 |nil=>intro b; rfl
 |cons p ps ih=>intro b; simp only[Wm,ih,Wh,List.length_append,H4]; omega
theorem XZ: ∀(ps:List (List UInt8)) (i:Int) (b:List UInt8),b.length+Wh ps≤800000→Cx D4 ps i b=some (Wm b ps):=by
 intro ps;induction ps with
 |nil=>intro i b _; rfl
 |cons p ps ih=>
  intro i b h;simp only[Wh]at h;have h0:ES b (toU (p.length:Int)) 4=some (b++NJ 4 (toU (p.length:Int))):=V9 _ 4 b (by omega) (by omega);simp only[Cx,D4,h0,Ab];rw[Ib 1 (by simp[H4]; omega) (by simp[H4]; omega)];simp only[Ab];rw[ih _ _ (by simp[H4]; omega)];rfl
def ZN (t:ByteArray)(ps:List (List UInt8)):UInt64×UInt64:=hsum (Wm (toB (t.size:Int)::t.data.toList) ps)
theorem Jv (t:ByteArray)(ps:List (List UInt8))(h:t.data.toList.length+Wh ps≤700000):Cs t ps=some (ZN t ps):=by
 simp only[Cs];rw[Ib 1 (by simp at h⊢; omega) (by simp at h⊢; omega)];simp only[Ab];rw[XZ _ _ _ (by simp at h⊢; omega)];simp only[Ab];rw[sum_eq _ (by rw[Wl]; simp at h⊢; omega)];rfl
def Li (a b:UInt64×UInt64):UInt64×UInt64:=ZN ⟨#[110,111,100,101]⟩ [LJ a,LJ b]
theorem Wp (a b:UInt64×UInt64):Ff a b=some (Li a b):=by
 simp only[Ff,P0,Ab];rw[Jv _ _ (by simp[Wh,IH])];rfl
end Go.Proofs.YtibojdgdjhngiaaGreatDoor
end
section
namespace Go.Proofs.YtibojdgdjhngiaaGreatDoor
open Go Go.Gw Go.Ax
abbrev FP:Nat:=2305843009213693951
theorem Vm {n:Nat}(h:n<18446744073709551616):(toU (n:Int)).toNat=n:=by
 unfold toU;rw[UInt64.toNat_ofNat'];omega
theorem EH (x:UInt64)(k:Nat)(hk:k≤64):(DX x k).toNat=x.toNat/2^k:=by
 unfold DX;rw[UInt64.toNat_ofNat',Nat.min_eq_left hk];exact Nat.mod_eq_of_lt (Nat.lt_of_le_of_lt (Nat.div_le_self _ _) x.toNat_lt)
theorem YC {p q r s:Nat}(hp:p<4294967296)(hq:q<4294967296)(hr:r<4294967296)(hs:s<4294967296):
  (p*r+((p*s+q*s/4294967296)/4294967296)+(((p*s+q*s/4294967296)%4294967296+q*r)/4294967296))=((p*4294967296+q)*(r*4294967296+s))/18446744073709551616:=by
 have h1:(p*4294967296+q)*(r*4294967296+s)=(p*r)*18446744073709551616+(p*s+q*r)*4294967296+q*s:=by
  rw[Nat.add_mul,Nat.mul_add,Nat.mul_add,Nat.add_mul];have a1:p*4294967296*(r*4294967296)=p*r*18446744073709551616:=by rw[Nat.mul_assoc,Nat.mul_left_comm 4294967296,←Nat.mul_assoc p]
  have a2:p*4294967296*s=p*s*4294967296:=Nat.mul_right_comm _ _ _;have a3:q*(r*4294967296)=q*r*4294967296:=(Nat.mul_assoc _ _ _).symm;rw[a1,a2,a3]; omega
 rw[h1];generalize p*r=A;generalize p*s=B;generalize q*r=C;generalize q*s=D;omega
theorem Wj (a b:UInt64):(phi a b).toNat=(a.toNat*b.toNat)/18446744073709551616:=by
 have ha:=a.toNat_lt;have hb:=b.toNat_lt;have m32: ∀x:UInt64,(x&&&4294967295).toNat=x.toNat%4294967296:=fun x=>by
  rw[UInt64.toNat_and]; exact Nat.and_two_pow_sub_one_eq_mod _ 32
 have s32: ∀x:UInt64,(DX x 32).toNat=x.toNat/4294967296:=fun x=>EH x 32 (by omega);have hp:a.toNat/4294967296<4294967296:=by omega
 have hq:a.toNat%4294967296<4294967296:=by omega
 have hr:b.toNat/4294967296<4294967296:=by omega
 have hs:b.toNat%4294967296<4294967296:=by omega
 have ea:a.toNat/4294967296*4294967296+a.toNat%4294967296=a.toNat:=Nat.div_add_mod' _ _;have eb:b.toNat/4294967296*4294967296+b.toNat%4294967296=b.toNat:=Nat.div_add_mod' _ _;have key:=YC hp hq hr hs;rw[ea,eb]at key;have bd: ∀x y:Nat,x<4294967296→y<4294967296→x*y≤18446744065119617025:=fun x y hx hy=>Nat.mul_le_mul (show x≤4294967295 by omega) (show y≤4294967295 by omega);have b1:=bd _ _ hp hr;have b2:=bd _ _ hp hs;have b3:=bd _ _ hq hr;have b4:=bd _ _ hq hs;have ab:a.toNat*b.toNat/18446744073709551616<18446744073709551616:=by
  rw[Nat.div_lt_iff_lt_mul (by omega)];exact Nat.lt_of_le_of_lt (Nat.mul_le_mul (show a.toNat≤18446744073709551615 by omega) (show b.toNat≤18446744073709551615 by omega)) (by omega)
 unfold phi;dsimp only;rw[←key]at ab⊢;simp only[UInt64.toNat_add,UInt64.toNat_mul,s32,m32];generalize a.toNat/4294967296*(b.toNat/4294967296)=A at*;generalize a.toNat/4294967296*(b.toNat%4294967296)=B at*;generalize a.toNat%4294967296*(b.toNat/4294967296)=C at*;generalize a.toNat%4294967296*(b.toNat%4294967296)=D at*;omega
theorem u_ext {a b:UInt64}(h:a.toNat=b.toNat):a=b:=UInt64.toNat_inj.1 h
end Go.Proofs.YtibojdgdjhngiaaGreatDoor
end
section
namespace Go.Proofs.YtibojdgdjhngiaaGreatDoor
open Go Go.Gw Go.Ax
section
variable {x4 x5 x7 y u:UInt64}
theorem dq_lt (hd:x7.toNat<4294967296)(hu:u.toNat<y.toNat):(u.toNat*4294967296+x7.toNat)/y.toNat<4294967296:=by
 rw[Nat.div_lt_iff_lt_mul (by omega)];have:(u.toNat+1)*4294967296≤y.toNat*4294967296:=Nat.mul_le_mul_right _ hu;omega
theorem dcond {q r:UInt64}(h1:2147483648≤x4.toNat∧x4.toNat<4294967296)(h0:x5.toNat<4294967296)(hd:x7.toNat<4294967296)(hy:y.toNat=x4.toNat*4294967296+x5.toNat)(hu:u.toNat<y.toNat)
  (hq:q.toNat*x4.toNat+r.toNat=u.toNat) (hr:r.toNat<4294967296):
  (((decide ((q.toNat:Int)≥4294967296))||(decide (((q*x5).toNat:Int)>(((4294967296*r)+x7).toNat:Int))))=true↔(u.toNat*4294967296+x7.toNat)/y.toNat<q.toNat):=by
 have hlt:=dq_lt hd hu;have e1:((4294967296*r)+x7).toNat=4294967296*r.toNat+x7.toNat:=by
  rw[UInt64.toNat_add,UInt64.toNat_mul,show(4294967296:UInt64).toNat=4294967296 from rfl]; omega
 rw[Bool.or_eq_true,decide_eq_true_eq,decide_eq_true_eq,e1];by_cases hb:4294967296≤q.toNat
 ·constructor
  ·intro _; omega
  ·intro _; left; omega
 ·have hB:q.toNat*x5.toNat≤4294967295*4294967295:=Nat.mul_le_mul (by omega) (by omega);have e2:(q*x5).toNat=q.toNat*x5.toNat:=by rw[UInt64.toNat_mul]; omega
  have e3:q.toNat*y.toNat=q.toNat*x4.toNat*4294967296+q.toNat*x5.toNat:=by rw[hy,Nat.mul_add,Nat.mul_assoc]
  rw[e2,Nat.div_lt_iff_lt_mul (by omega),e3];generalize q.toNat*x4.toNat=A at*;generalize q.toNat*x5.toNat=B at*;omega
theorem dstep {q r:UInt64}(h1:2147483648≤x4.toNat∧x4.toNat<4294967296)(h0:x5.toNat<4294967296)(hd:x7.toNat<4294967296)(hy:y.toNat=x4.toNat*4294967296+x5.toNat)(hu:u.toNat<y.toNat)
  (hq:q.toNat*x4.toNat+r.toNat=u.toNat) (hr:r.toNat<4294967296) (hq2:q.toNat≤4294967297) (hc:(u.toNat*4294967296+x7.toNat)/y.toNat<q.toNat):
  (q-1).toNat=q.toNat-1∧(r+x4).toNat=r.toNat+x4.toNat∧(q-1).toNat*x4.toNat+(r+x4).toNat=u.toNat∧(u.toNat*4294967296+x7.toNat)/y.toNat≤(q-1).toNat∧
  (4294967296≤(r+x4).toNat→(q-1).toNat=(u.toNat*4294967296+x7.toNat)/y.toNat):=by
 have q1:1≤q.toNat:=Nat.lt_of_le_of_lt (Nat.zero_le _) hc;have e1:(q-1).toNat=q.toNat-1:=by rw[UInt64.toNat_sub_of_le _ _ (by rw[UInt64.le_iff_toNat_le]; exact q1)]; rfl
 have e2:(r+x4).toNat=r.toNat+x4.toNat:=by rw[UInt64.toNat_add]; omega
 have e3:(q.toNat-1)*x4.toNat+x4.toNat=q.toNat*x4.toNat:=by
  rw[←Nat.succ_mul]; congr 1; omega
 refine⟨e1,e2,by rw[e1,e2,Nat.add_comm r.toNat,←Nat.add_assoc,e3,hq],by rw[e1]; exact Nat.le_sub_one_of_lt hc,fun hb=> ?_⟩;rw[e2]at hb;refine Nat.le_antisymm ?_ (by rw[e1]; exact Nat.le_sub_one_of_lt hc);rw[e1,Nat.le_div_iff_mul_le (Nat.lt_of_le_of_lt (Nat.zero_le _) hu)];clear hc e1 e2;have hB:(q.toNat-1)*x5.toNat≤4294967296*4294967295:=Nat.mul_le_mul (by omega) (by omega);have e4:(q.toNat-1)*y.toNat=(q.toNat-1)*x4.toNat*4294967296+(q.toNat-1)*x5.toNat:=by rw[hy,Nat.mul_add,Nat.mul_assoc]
 rw[e4];generalize (q.toNat-1)*x4.toNat=A at*;generalize (q.toNat-1)*x5.toNat=B at*;generalize q.toNat*x4.toNat=C at*;omega
theorem dloop1 (h1:2147483648≤x4.toNat∧x4.toNat<4294967296)(h0:x5.toNat<4294967296)(hd:x7.toNat<4294967296)(hy:y.toNat=x4.toNat*4294967296+x5.toNat)(hu:u.toNat<y.toNat):
  ∀(n:Nat) (q r:UInt64),q.toNat*x4.toNat+r.toNat=u.toNat→r.toNat<4294967296→q.toNat≤4294967297→(u.toNat*4294967296+x7.toNat)/y.toNat≤q.toNat→4294967296≤r.toNat+n*2147483648→
   ∃p,iter (CU x4 x5 x7) (n+1) (q,r)=some p∧p.toNat=(u.toNat*4294967296+x7.toNat)/y.toNat:=by
 intro n;induction n with
 |zero=>intro q r _ hr _ _ hn; omega
 |succ n ih=>
  intro q r hq hr hq2 hle hn;have hc:=dcond h1 h0 hd hy hu hq hr;by_cases hcc:(u.toNat*4294967296+x7.toNat)/y.toNat<q.toNat
  ·obtain⟨s1,s2,s3,s4,s5⟩:=dstep h1 h0 hd hy hu hq hr hq2 hcc;by_cases hb:4294967296≤(r+x4).toNat
   ·refine⟨q-1,DU ?_,s5 hb⟩;unfold CU;rw[if_pos (hc.2 hcc),if_pos (by rw[decide_eq_true_eq]; dsimp only; omega)]
   ·obtain⟨p,p1,p2⟩:=ih (q-1) (r+x4) s3 (by omega) (by omega) s4 (by omega);refine⟨p,?_,p2⟩;rw[Df (s':=(q-1,r+x4)),p1];unfold CU;rw[if_pos (hc.2 hcc),if_neg (by rw[decide_eq_true_eq]; dsimp only; omega)]
  ·refine⟨q,DU ?_,by omega⟩;unfold CU;rw[if_neg (fun h=>hcc (hc.1 h))]
theorem dloop2 (h1:2147483648≤x4.toNat∧x4.toNat<4294967296)(h0:x5.toNat<4294967296)(hd:x7.toNat<4294967296)(hy:y.toNat=x4.toNat*4294967296+x5.toNat)(hu:u.toNat<y.toNat):
  ∀(n:Nat) (q r:UInt64),q.toNat*x4.toNat+r.toNat=u.toNat→r.toNat<4294967296→q.toNat≤4294967297→(u.toNat*4294967296+x7.toNat)/y.toNat≤q.toNat→4294967296≤r.toNat+n*2147483648→
   ∃p,iter (CT x4 x5 x7) (n+1) (r,q)=some p∧p.toNat=(u.toNat*4294967296+x7.toNat)/y.toNat:=by
 intro n;induction n with
 |zero=>intro q r _ hr _ _ hn; omega
 |succ n ih=>
  intro q r hq hr hq2 hle hn;have hc:=dcond h1 h0 hd hy hu hq hr;by_cases hcc:(u.toNat*4294967296+x7.toNat)/y.toNat<q.toNat
  ·obtain⟨s1,s2,s3,s4,s5⟩:=dstep h1 h0 hd hy hu hq hr hq2 hcc;by_cases hb:4294967296≤(r+x4).toNat
   ·refine⟨q-1,DU ?_,s5 hb⟩;unfold CT;rw[if_pos (hc.2 hcc),if_pos (by rw[decide_eq_true_eq]; dsimp only; omega)]
   ·obtain⟨p,p1,p2⟩:=ih (q-1) (r+x4) s3 (by omega) (by omega) s4 (by omega);refine⟨p,?_,p2⟩;rw[Df (s':=(r+x4,q-1)),p1];unfold CT;rw[if_pos (hc.2 hcc),if_neg (by rw[decide_eq_true_eq]; dsimp only; omega)]
  ·refine⟨q,DU ?_,by omega⟩;unfold CT;rw[if_neg (fun h=>hcc (hc.1 h))]
theorem Aak (h1:2147483648≤x4.toNat∧x4.toNat<4294967296)(h0:x5.toNat<4294967296)(hd:x7.toNat<4294967296)(hy:y.toNat=x4.toNat*4294967296+x5.toNat)(hu:u.toNat<y.toNat):
  (u/x4).toNat*x4.toNat+(u-(u/x4)*x4).toNat=u.toNat∧(u-(u/x4)*x4).toNat<4294967296∧(u/x4).toNat≤4294967297∧(u.toNat*4294967296+x7.toNat)/y.toNat≤(u/x4).toNat:=by
 have e1:(u/x4).toNat=u.toNat/x4.toNat:=UInt64.toNat_div _ _;have hmul:u.toNat/x4.toNat*x4.toNat≤u.toNat:=Nat.div_mul_le_self _ _;have hul:=u.toNat_lt;have e2:((u/x4)*x4).toNat=u.toNat/x4.toNat*x4.toNat:=by rw[UInt64.toNat_mul,e1]; omega
 have e3:(u-(u/x4)*x4).toNat=u.toNat-u.toNat/x4.toNat*x4.toNat:=by
  rw[UInt64.toNat_sub_of_le _ _ (by rw[UInt64.le_iff_toNat_le,e2]; exact hmul),e2]
 have e4:u.toNat-u.toNat/x4.toNat*x4.toNat=u.toNat%x4.toNat:=by
  have:=Nat.div_add_mod' u.toNat x4.toNat; omega
 have e5:=Nat.mod_lt u.toNat (show 0<x4.toNat by omega);refine⟨by rw[e1,e3]; omega,by rw[e3,e4]; omega,?_,?_⟩
 ·rw[e1];have:u.toNat/x4.toNat<4294967298:=by
   rw[Nat.div_lt_iff_lt_mul (by omega)];omega
  omega
 ·rw[e1,Nat.le_div_iff_mul_le (by omega)];have h2:(u.toNat*4294967296+x7.toNat)/y.toNat*y.toNat≤u.toNat*4294967296+x7.toNat:=Nat.div_mul_le_self _ _;generalize (u.toNat*4294967296+x7.toNat)/y.toNat=Q at*;have h3:Q*y.toNat=Q*x4.toNat*4294967296+Q*x5.toNat:=by rw[hy,Nat.mul_add,Nat.mul_assoc]
  rw[h3]at h2;generalize Q*x4.toNat=A at*;generalize Q*x5.toNat=B at*;omega
theorem drest {q:UInt64}(hu:u.toNat<y.toNat)(hq:q.toNat=(u.toNat*4294967296+x7.toNat)/y.toNat):(((u*4294967296)+x7)-(q*y)).toNat=(u.toNat*4294967296+x7.toNat)%y.toNat:=by
 have hyl:=y.toNat_lt;have hm:=Nat.mod_lt (u.toNat*4294967296+x7.toNat) (show 0<y.toNat by omega);have hdm:=Nat.div_add_mod' (u.toNat*4294967296+x7.toNat) y.toNat;rw[UInt64.toNat_sub,UInt64.toNat_add,UInt64.toNat_mul,UInt64.toNat_mul,hq,show(4294967296:UInt64).toNat=4294967296 from rfl];generalize (u.toNat*4294967296+x7.toNat)/y.toNat*y.toNat=Z at*;omega
end
theorem Mi {x:UInt64}{k:Nat}(hk:k≤63):(Ha x k).toNat=(x.toNat*2^k)%18446744073709551616:=by
 unfold Ha;rw[Nat.min_eq_left (by omega),show(x.toNat:Int)*2^k=((x.toNat*2^k:Nat):Int)from by simp];unfold toU;rw[UInt64.toNat_ofNat'];generalize x.toNat*2^k=z;omega
theorem or_nat {a b k:Nat}(h:b<2^k):a*2^k|||b=a*2^k+b:=by
 rw[Nat.mul_comm]; exact(Nat.two_pow_add_eq_or_of_lt h a).symm
theorem TN {hi lo y0:UInt64}{s:Nat}(hs:s≤63)(hlz:Cw y0=some (s:Int))(hn1:9223372036854775808≤y0.toNat*2^s)(hn2:y0.toNat*2^s<18446744073709551616)(hh:hi.toNat<y0.toNat):
  ∃q r,Fx hi lo y0=some (q,r)∧r.toNat=(hi.toNat*18446744073709551616+lo.toNat)%y0.toNat:=by
 have hyne:y0≠0:=fun e=>by rw[e]at hh; simp at hh
 unfold Fx;rw[if_neg (by rw[beq_iff_eq]; omega),Ab,if_neg (by rw[decide_eq_true_eq]; omega),Ab];by_cases hz:hi.toNat=0
 ·rw[if_pos (by rw[beq_iff_eq]; omega),if_pos hyne,if_pos hyne];refine⟨_,_,rfl,?_⟩;rw[UInt64.toNat_mod,hz]; simp
 ·have hts:(toU (s:Int)).toNat=s:=Vm (by omega);have h64:(64-toU (s:Int)).toNat=64-s:=by
   rw[UInt64.toNat_sub_of_le _ _ (by rw[UInt64.le_iff_toNat_le,hts]; show s≤64; omega),hts]; rfl
  rw[if_neg (by rw[beq_iff_eq]; omega),hlz,Ab,hts,h64];simp only[CY];have hps:0<2^s:=Nat.two_pow_pos s;have hpp:2^s*2^ (64-s)=18446744073709551616:=by rw[←Nat.pow_add,show s+(64-s)=64 from by omega]
  have hY:(Ha y0 s).toNat=y0.toNat*2^s:=by rw[Mi (by omega)]; exact Nat.mod_eq_of_lt hn2
  have hlo:=lo.toNat_lt;have hlod:lo.toNat/2^ (64-s)<2^s:=by rw[Nat.div_lt_iff_lt_mul (Nat.two_pow_pos _),hpp]; omega
  have hhs:hi.toNat*2^s+2^s≤y0.toNat*2^s:=by rw[←Nat.succ_mul]; exact Nat.mul_le_mul_right _ hh
  have hU:((Ha hi s)|||(DX lo (64-s))).toNat=hi.toNat*2^s+lo.toNat/2^ (64-s):=by
   rw[UInt64.toNat_or,Mi (by omega),EH _ _ (by omega),Nat.mod_eq_of_lt (by omega),or_nat hlod]
  have hL:(Ha lo s).toNat=(lo.toNat*2^s)%18446744073709551616:=Mi (by omega);have m32: ∀x:UInt64,(x&&&4294967295).toNat=x.toNat%4294967296:=fun x=>by
   rw[UInt64.toNat_and]; exact Nat.and_two_pow_sub_one_eq_mod _ 32
  have s32: ∀x:UInt64,(DX x 32).toNat=x.toNat/4294967296:=fun x=>EH x 32 (by omega);have hlos:lo.toNat*2^s=lo.toNat/2^ (64-s)*18446744073709551616+(lo.toNat*2^s)%18446744073709551616:=by
   have e1:lo.toNat*2^s/18446744073709551616=lo.toNat/2^ (64-s):=by
    rw[←hpp,Nat.mul_comm,Nat.mul_div_mul_left _ _ hps]
   rw[←e1]; exact(Nat.div_add_mod' _ _).symm
  have hN:(hi.toNat*18446744073709551616+lo.toNat)*2^s=(hi.toNat*2^s+lo.toNat/2^ (64-s))*18446744073709551616+(lo.toNat*2^s)%18446744073709551616:=by
   rw[Nat.add_mul,hlos,Nat.add_mul,Nat.mul_right_comm];omega
  generalize hgy:Ha y0 s=y at*;generalize hgu:(Ha hi s)|||(DX lo (64-s))=u at*;generalize hgl:Ha lo s=l at*;have hyl:=y.toNat_lt;have a1:2147483648≤(DX y 32).toNat∧(DX y 32).toNat<4294967296:=by rw[s32]; omega
  have a0:(y&&&4294967295).toNat<4294967296:=by rw[m32]; omega
  have ay:y.toNat=(DX y 32).toNat*4294967296+(y&&&4294967295).toNat:=by rw[s32,m32]; omega
  have ad:(DX l 32).toNat<4294967296:=by rw[s32]; have:=l.toNat_lt; omega
  have ae:(l&&&4294967295).toNat<4294967296:=by rw[m32]; omega
  have au:u.toNat<y.toNat:=by rw[hU,hY]; omega
  have hx4:DX y 32≠0:=fun e=>by rw[e]at a1; simp at a1
  obtain⟨b1,b2,b3,b4⟩:=Aak a1 a0 ad ay au;obtain⟨q1,c1,c2⟩:=dloop1 a1 a0 ad ay au 2 _ _ b1 b2 b3 b4 (by omega);have hr1:=drest au c2;have hr1l:=Nat.mod_lt (u.toNat*4294967296+(DX l 32).toNat) (show 0<y.toNat by omega);rw[if_pos hx4,I6 _ c1 (by omega),Ab,Ab,if_pos hx4];generalize hgv:((u*4294967296)+(DX l 32))-(q1*y)=v at*;have av:v.toNat<y.toNat:=by omega
  obtain⟨d1,d2,d3,d4⟩:=Aak a1 a0 ae ay av;obtain⟨q0,e1,e2⟩:=dloop2 a1 a0 ae ay av 2 _ _ d1 d2 d3 d4 (by omega);have hr0:=drest av e2;rw[I6 _ e1 (by omega),Ab,Ab];refine⟨_,_,rfl,?_⟩;rw[EH _ _ (by omega),hr0,hr1];have f1:(((u.toNat*4294967296+(DX l 32).toNat)%y.toNat)*4294967296+(l&&&4294967295).toNat)%y.toNat=((hi.toNat*18446744073709551616+lo.toNat)*2^s)%y.toNat:=by
   rw[Nat.add_mod,Nat.mod_mul_mod,←Nat.add_mod,hN,←hU,←hL,s32,m32];have e9:(u.toNat*4294967296+l.toNat/4294967296)*4294967296+l.toNat%4294967296=u.toNat*18446744073709551616+l.toNat:=by omega
   rw[e9]
  rw[f1,hY,Nat.mul_mod_mul_right,Nat.mul_div_cancel _ hps]
end Go.Proofs.YtibojdgdjhngiaaGreatDoor
end
section
namespace Go.Proofs.YtibojdgdjhngiaaGreatDoor
open Go Go.Gw Go.Ax
abbrev GQ:Nat:=2305843009213691579
abbrev GR:Nat:=1152921504606845789
def Dv (y:UInt64):Prop:= ∃s:Nat,s≤63∧Cw y=some (s:Int)∧9223372036854775808≤y.toNat*2^s∧y.toNat*2^s<18446744073709551616
theorem dvQ:Dv 2305843009213691579:=⟨3,by omega,by kernel_rfl,by decide,by decide⟩
theorem dvR:Dv 1152921504606845789:=⟨4,by omega,by kernel_rfl,by decide,by decide⟩
theorem dvR1:Dv 1152921504606845788:=⟨4,by omega,by kernel_rfl,by decide,by decide⟩
theorem Dv.pos {y:UInt64}(h:Dv y):0<y.toNat:=by
 obtain⟨s,_,_,h1,_⟩:=h;by_cases e:y.toNat=0
 ·rw[e]at h1; simp at h1
 ·omega
theorem ZL {y:UInt64}(h:Dv y)(hi lo:UInt64): ∃z,EC hi lo y=some z∧z.toNat=(hi.toNat*18446744073709551616+lo.toNat)%y.toNat:=by
 have hpos:=h.pos;obtain⟨s,h1,h2,h3,h4⟩:=h;have hyne:y≠0:=fun e=>by rw[e]at hpos; simp at hpos
 have hm:(hi%y).toNat=hi.toNat%y.toNat:=UInt64.toNat_mod _ _;obtain⟨q,r,e1,e2⟩:=TN (hi:=hi%y) (lo:=lo) h1 h2 h3 h4 (by rw[hm]; exact Nat.mod_lt _ hpos);refine⟨r,?_,?_⟩
 ·unfold EC;rw[if_pos hyne,e1,Ab]
 ·rw[e2,hm,Nat.add_mod,Nat.mod_mul_mod,←Nat.add_mod]
def ofN (n:Nat):UInt64:=UInt64.ofNat n
theorem Wz {n:Nat}(h:n<18446744073709551616):(ofN n).toNat=n:=by
 unfold ofN; rw[UInt64.toNat_ofNat']; exact Nat.mod_eq_of_lt h
theorem Abl (n:Nat){y:UInt64}(h:0<y.toNat):(ofN (n%y.toNat)).toNat=n%y.toNat:=Wz (Nat.lt_of_lt_of_le (Nat.mod_lt _ h) (Nat.le_of_lt y.toNat_lt))
theorem Tq {z:UInt64}{n:Nat}(h:z.toNat=n):z=ofN n:=by
 rw[←h]; exact u_ext (Wz z.toNat_lt).symm
def Uz (y a b:UInt64):UInt64:=ofN ((a.toNat*b.toNat)%y.toNat)
theorem Tt {y:UInt64}(h:Dv y)(a b:UInt64):(Uz y a b).toNat=(a.toNat*b.toNat)%y.toNat:=Abl _ h.pos
theorem Lf {y:UInt64}(h:Dv y)(a b:UInt64):By y a b=some (Uz y a b):=by
 obtain⟨z,e1,e2⟩:=ZL h (phi a b) (a*b);unfold By;rw[Pz,Ab,e1,Ab];rw[Wj,UInt64.toNat_mul,Nat.div_add_mod']at e2;rw[Tq e2]; rfl
def addM (y a b:UInt64):UInt64:=ofN ((a.toNat+b.toNat)%y.toNat)
theorem Rk (a b:UInt64):(Hb a b).toNat*18446744073709551616+(a+b).toNat=a.toNat+b.toNat:=by
 have:=a.toNat_lt;have:=b.toNat_lt;unfold Hb;rw[UInt64.toNat_ofNat',UInt64.toNat_add];omega
theorem Uo {y:UInt64}(h:Dv y)(a b:UInt64):DB y a b=some (addM y a b):=by
 have hpos:=h.pos;have hyne:y≠0:=fun e=>by rw[e]at hpos; simp at hpos
 obtain⟨z,e1,e2⟩:=ZL h (Hb (a%y) (b%y)) ((a%y)+(b%y));unfold DB;rw[if_pos hyne,if_pos hyne,e1,Ab];rw[Rk,UInt64.toNat_mod,UInt64.toNat_mod,←Nat.add_mod]at e2;rw[Tq e2]; rfl
theorem Abm {P d r c sm t:Nat}(hP:d*18446744073709551616+r=P)(hr:r<18446744073709551616)(hd:d<2305843009213693952)(hc:c*18446744073709551616+sm=r+t)(ht:t<18446744073709551616):
  ((d+c)%18446744073709551616)*18446744073709551616+sm=P+t:=by
 have h1:c≤1:=by omega
 rw[Nat.mod_eq_of_lt (show d+c<18446744073709551616 by omega),Nat.add_mul,←hP,Nat.add_assoc,hc,Nat.add_assoc]
def numM (s:UInt64×UInt64)(y:UInt64):UInt64:=ofN ((s.1.toNat*2305843009213693952+s.2.toNat)%y.toNat)
theorem ZT {y:UInt64}(h:Dv y)(s:UInt64×UInt64):Hq s y=some (numM s y):=by
 have hpos:=h.pos;have hyne:y≠0:=fun e=>by rw[e]at hpos; simp at hpos
 obtain⟨t,h1,h2,h3,h4⟩:=h;have hp:(phi s.1 2305843009213693952).toNat=s.1.toNat*2305843009213693952/18446744073709551616:=Wj _ _;have hl:(s.1*2305843009213693952).toNat=s.1.toNat*2305843009213693952%18446744073709551616:=UInt64.toNat_mul _ _;have hs1:=s.1.toNat_lt;have hs2:=s.2.toNat_lt;have hc:=Rk (s.1*2305843009213693952) s.2;have hsum:(phi s.1 2305843009213693952+Hb (s.1*2305843009213693952) s.2).toNat*18446744073709551616+(s.1*2305843009213693952+s.2).toNat=s.1.toNat*2305843009213693952+s.2.toNat:=by
  rw[UInt64.toNat_add,hp];rw[hl]at hc;have hdl:s.1.toNat*2305843009213693952/18446744073709551616<2305843009213693952:=by
   rw[Nat.div_lt_iff_lt_mul (by decide),Nat.mul_comm (2305843009213693952)];exact Nat.mul_lt_mul_of_pos_right hs1 (by decide)
  exact Abm (Nat.div_add_mod' _ _) (Nat.mod_lt _ (by decide)) hdl hc hs2
 have hm:((phi s.1 2305843009213693952+Hb (s.1*2305843009213693952) s.2)%y).toNat=(phi s.1 2305843009213693952+Hb (s.1*2305843009213693952) s.2).toNat%y.toNat:=UInt64.toNat_mod _ _;obtain⟨q,r,e1,e2⟩:=TN (hi:=(phi s.1 2305843009213693952+Hb (s.1*2305843009213693952) s.2)%y) (lo:=s.1*2305843009213693952+s.2) h1 h2 h3 h4 (by rw[hm]; exact Nat.mod_lt _ hpos);unfold Hq;rw[if_neg (by rw[beq_iff_eq]; omega),Pz,Ab,if_pos hyne];dsimp only;rw[e1,Ab];rw[hm,Nat.add_mod,Nat.mod_mul_mod,←Nat.add_mod,hsum]at e2;rw[Tq e2]; rfl
theorem Yb:((List.range 256).all fun n=>decide (n<2^ (str_0.data.toList.getD n 0).toNat)&&decide ((str_0.data.toList.getD n 0).toNat≤8))=true:=by kernel_rfl
theorem Ya:str_0.data.toList.length=256:=by kernel_rfl
theorem tabL (x:UInt64)(hx:x.toNat<256): ∃b,idx str_0.data.toList ((toB (x.toNat:Int)).toNat:Int)=some b∧x.toNat<2^b.toNat∧b.toNat≤8:=by
 have hb:(toB (x.toNat:Int)).toNat=x.toNat:=by unfold toB; rw[UInt8.toNat_ofNat']; omega
 have h:=List.all_eq_true.1 Yb x.toNat (List.mem_range.2 hx);rw[Bool.and_eq_true,decide_eq_true_eq,decide_eq_true_eq]at h;have hlt:x.toNat<str_0.data.toList.length:=by rw[Ya]; exact hx
 rw[List.getD_eq_getElem?_getD,List.getElem?_eq_getElem hlt,Option.getD_some]at h;rw[hb];exact⟨str_0.data.toList[x.toNat],Fi (by simp),h.1,h.2⟩
theorem YN (a:UInt64): ∃L:Nat,DF a=some (L:Int)∧a.toNat<2^L∧L≤64:=by
 have ha:=a.toNat_lt;have h1: ∃(x:UInt64) (n:Nat),(if(decide ((a.toNat:Int)≥4294967296))=true then some ((DX a 32),(32:Int))else some (a,0))=some (x,(n:Int))∧n≤32∧x.toNat<4294967296∧a.toNat<(x.toNat+1)*2^n:=by
  split
  ·refine⟨DX a 32,32,rfl,by omega,?_,?_⟩<;>rw[EH a 32 (by omega)]<;>omega
  ·rename_i h; rw[decide_eq_true_eq]at h; exact⟨a,0,rfl,by omega,by omega,by omega⟩
 obtain⟨x,n,e1,n1,hx,hn⟩:=h1;have h2: ∃(y:UInt64) (k:Nat),(if(decide ((x.toNat:Int)≥65536))=true then some ((DX x 16),(w64 ((n:Int)+16)))else some (x,(n:Int)))=some (y,(k:Int))∧k≤48∧y.toNat<65536∧a.toNat<(y.toNat+1)*2^k:=by
  split
  ·refine⟨DX x 16,n+16,by rw[C5 (by omega) (by omega)]; rfl,by omega,?_,?_⟩
   ·rw[EH x 16 (by omega)]; omega
   ·rw[EH x 16 (by omega),Nat.pow_add];refine Nat.lt_of_lt_of_le hn ?_;have:x.toNat+1≤(x.toNat/2^16+1)*2^16:=by omega
    calc (x.toNat+1)*2^n≤((x.toNat/2^16+1)*2^16)*2^n:=Nat.mul_le_mul_right _ this
     _=(x.toNat/2^16+1)*(2^n*2^16):=by rw[Nat.mul_assoc,Nat.mul_comm (2^16)]
  ·rename_i h; rw[decide_eq_true_eq]at h; exact⟨x,n,rfl,by omega,by omega,hn⟩
 obtain⟨y,k,e2,k1,hy,hk⟩:=h2;have h3: ∃(z:UInt64) (j:Nat),(if(decide ((y.toNat:Int)≥256))=true then some ((DX y 8),(w64 ((k:Int)+8)))else some (y,(k:Int)))=some (z,(j:Int))∧j≤56∧z.toNat<256∧a.toNat<(z.toNat+1)*2^j:=by
  split
  ·refine⟨DX y 8,k+8,by rw[C5 (by omega) (by omega)]; rfl,by omega,?_,?_⟩
   ·rw[EH y 8 (by omega)]; omega
   ·rw[EH y 8 (by omega),Nat.pow_add];refine Nat.lt_of_lt_of_le hk ?_;have:y.toNat+1≤(y.toNat/2^8+1)*2^8:=by omega
    calc (y.toNat+1)*2^k≤((y.toNat/2^8+1)*2^8)*2^k:=Nat.mul_le_mul_right _ this
     _=(y.toNat/2^8+1)*(2^k*2^8):=by rw[Nat.mul_assoc,Nat.mul_comm (2^8)]
  ·rename_i h; rw[decide_eq_true_eq]at h; exact⟨y,k,rfl,by omega,by omega,hk⟩
 obtain⟨z,j,e3,j1,hz,hj⟩:=h3;obtain⟨b,e4,b1,b2⟩:=tabL z hz;refine⟨j+b.toNat,?_,?_,by omega⟩
 ·unfold DF;rw[e1,Ab];dsimp only;rw[e2,Ab];dsimp only;rw[e3,Ab,e4,Ab,CY,C5 (n:=(b.toNat:Int)) (by omega) (by omega),C5 (by omega) (by omega)]; rfl
 ·refine Nat.lt_of_lt_of_le hj ?_;rw[Nat.add_comm j,Nat.pow_add];exact Nat.mul_le_mul_right _ b1
def powN (y a n:UInt64):UInt64:=ofN (a.toNat^n.toNat%y.toNat)
theorem Acw (n j:Nat):n&&&2^j=(n.testBit j).toNat*2^j:=by
 apply Nat.eq_of_testBit_eq;intro i;rw[Nat.testBit_and,Nat.testBit_two_pow];by_cases h:j=i
 ·subst h;cases hb:n.testBit j<;>simp[hb,Nat.testBit_two_pow_self]
 ·cases hb:n.testBit j<;>simp[h,Nat.testBit_two_pow]
theorem bit_eq (n:UInt64){j:Nat}(hj:j≤63):(((n&&&(Ha 1 j)).toNat:Int) !=0)=decide (n.toNat/2^j%2=1):=by
 have h1:(Ha 1 j).toNat=2^j:=by
  rw[Mi hj,show(1:UInt64).toNat=1 from rfl,Nat.one_mul];exact Nat.mod_eq_of_lt (Nat.lt_of_le_of_lt (Nat.pow_le_pow_right (by omega) hj) (by decide))
 have h2:(n&&&(Ha 1 j)).toNat=(n.toNat.testBit j).toNat*2^j:=by rw[UInt64.toNat_and,h1,Acw]
 rw[h2];have hp:=Nat.two_pow_pos j;rw[Nat.testBit_eq_decide_div_mod_eq];by_cases hb:n.toNat/2^j%2=1
 ·simp only[hb,decide_true,Bool.toNat_true,Nat.one_mul];rw[bne_iff_ne]; omega
 ·simp only[hb,decide_false,Bool.toNat_false,Nat.zero_mul]; rfl
def mulF (y:UInt64):Unit→UInt64→UInt64→Option (UInt64×Unit):=fun(s1:Unit) (b1:UInt64) (b2:UInt64)=>Ad (By y b1 b2) fun x1=>some (x1,())
theorem pow_it {y:UInt64}(h:Dv y)(a n:UInt64): ∀(j:Nat) (out:UInt64),j≤64→out.toNat=a.toNat^ (n.toNat/2^j)%y.toNat→
  ∃r,iter (BW (fun(s:UInt64×Unit) (b0:Bool)=>Ad (Cq (mulF y) a b0 s) fun z=>some (true,z)) n) (j+1) ((j:Int)-1,(out,()))=some (.inl (r,()))∧r.toNat=a.toNat^n.toNat%y.toNat:=by
 intro j;induction j with
 |zero=>
  intro out _ ho;refine⟨out,DU ?_,by rw[ho]; simp⟩;unfold BW;rw[if_neg (by simp)]
 |succ j ih=>
  intro out hj ho;have hw:w64 ((((j+1:Nat):Int)-1)-1)=(j:Int)-1:=by rw[C5 (by omega) (by omega)]; omega
  have hk:(((j+1:Nat):Int)-1).toNat=j:=by omega
  have hbit:=bit_eq n (j:=j) (by omega);have hdiv:n.toNat/2^ (j+1)=n.toNat/2^j/2:=by rw[Nat.pow_succ,Nat.div_div_eq_div_mul]
  have hsq:(Uz y out out).toNat=a.toNat^ (2*(n.toNat/2^ (j+1)))%y.toNat:=by
   rw[Tt h,ho,←Nat.mul_mod,←Nat.pow_add,←Nat.two_mul]
  by_cases hb:n.toNat/2^j%2=1
  ·have hn:(Uz y (Uz y out out) a).toNat=a.toNat^ (n.toNat/2^j)%y.toNat:=by
    rw[Tt h,hsq,Nat.mod_mul_mod,←Nat.pow_succ];congr 2; omega
   obtain⟨r,r1,r2⟩:=ih (Uz y (Uz y out out) a) (by omega) hn;refine⟨r,?_,r2⟩;rw[Df (s':=((j:Int)-1,(Uz y (Uz y out out) a,()))),r1];unfold BW;dsimp only;rw[if_pos (by rw[decide_eq_true_eq]; omega),if_pos (by omega),hk,hbit];simp only[Cq,mulF,Lf h,Ab,hb,decide_true,if_true,Bool.not_true,Bool.false_eq_true,if_false,hw]
  ·have hn:(Uz y out out).toNat=a.toNat^ (n.toNat/2^j)%y.toNat:=by
    rw[hsq]; congr 2; omega
   obtain⟨r,r1,r2⟩:=ih (Uz y out out) (by omega) hn;refine⟨r,?_,r2⟩;rw[Df (s':=((j:Int)-1,(Uz y out out,()))),r1];unfold BW;dsimp only;rw[if_pos (by rw[decide_eq_true_eq]; omega),if_pos (by omega),hk,hbit];simp only[Cq,mulF,Lf h,Ab,hb,decide_false,Bool.not_true,Bool.false_eq_true,if_false,hw]
theorem Yq {y:UInt64}(h:Dv y)(a n:UInt64)(h1:1<y.toNat):E9 (mulF y) a n ()=some (powN y a n,()):=by
 obtain⟨L,e1,e2,e3⟩:=YN n;have hw:w64 ((L:Int)-1)=(L:Int)-1:=C5 (by omega) (by omega);obtain⟨r,r1,r2⟩:=pow_it h a n L 1 e3 (by rw[Nat.div_eq_of_lt e2]; simp; exact(Nat.mod_eq_of_lt h1).symm);have r1':=I6 _ r1 (by omega);unfold E9 EU;rw[show F6 n=some n from rfl,Ab,e1,Ab,hw,r1',Ab];simp only[Ab];rw[Tq r2]; rfl
theorem pow_eq (a n:UInt64):Fv a n=some (powN 2305843009213691579 a n):=by
 unfold Fv;have:=Yq dvQ a n (by decide);unfold mulF at this;rw[this,Ab]
theorem XC (n:UInt64):EV n=some (powN 2305843009213691579 4 n):=by
 unfold EV;rw[pow_eq,Ab]
end Go.Proofs.YtibojdgdjhngiaaGreatDoor
end
section
namespace Go.Proofs.YtibojdgdjhngiaaGreatDoor
open Go Go.Gw Go.Ax
end Go.Proofs.YtibojdgdjhngiaaGreatDoor
end
section
namespace Go.Proofs.YtibojdgdjhngiaaGreatDoor
open Go Go.Gw Go.Ax
theorem Nr (n:UInt64):DD n=some (NJ 8 n):=by
 unfold DD;simp[Bf,FN,idx,w64,CY,NJ]
def pubK (k:UInt64):UInt64:=powN 2305843009213691579 4 k
theorem QO {k:UInt64}(h1:1≤k.toNat)(h2:k.toNat<GR):EL k=some (pubK k,0):=by
 simp only[GR]at h2;unfold EL JS;rw[CY,Ab,if_neg (by simp; omega),XC,Ab]; rfl
def chal (c p:UInt64)(msg:List UInt8):UInt64:=numM (ZN ⟨#[115,105,103,110]⟩ [NJ 8 c,NJ 8 p,msg]) 1152921504606845789
theorem Acf (c p:UInt64){msg:List UInt8}(h:msg.length≤600000):DZ c p msg=some (chal c p msg):=by
 unfold DZ;rw[Nr,Ab,Nr,Ab,Jv _ _ (by simp[Wh,H4]; omega),Ab,ZT dvR,Ab]; rfl
def WC (k:UInt64)(msg:List UInt8):UInt64:=numM (ZN ⟨#[110,111,110,99,101]⟩ [NJ 8 k,msg]) 1152921504606845788+1
theorem Ye {t:ByteArray}{ps:List (List UInt8)}(h:t.data.toList.length+Wh ps≤700000):Gy t ps=some (numM (ZN t ps) 1152921504606845788+1):=by
 unfold Gy;rw[Jv _ _ h,Ab,ZT dvR1,Ab]
def signE (k:UInt64)(msg:List UInt8):UInt64:=chal (pubK (WC k msg)) (pubK k) msg
def AaL (k:UInt64)(msg:List UInt8):g_api_Sig:=⟨signE k msg,addM 1152921504606845789 (Uz 1152921504606845789 (signE k msg) k) (WC k msg)⟩
theorem RP {k:UInt64}{msg:List UInt8}(h1:1≤k.toNat)(h2:k.toNat<GR)(hm:msg.length≤600000):Fc k msg=some (AaL k msg,0):=by
 unfold Fc;rw[QO h1 h2,Ab,if_neg (by simp),Nr,Ab,Ye (by simp[Wh,H4]; omega),Ab,XC,Ab];dsimp only;rw[show powN 2305843009213691579 4 (numM (ZN ⟨#[110,111,110,99,101]⟩ [NJ 8 k,msg]) 1152921504606845788+1)=pubK (WC k msg)from rfl,Acf _ _ hm,Ab];unfold Hh Hi;rw[Lf dvR,Ab,Ab,Uo dvR,Ab,Ab]; rfl
def gr:Nat:=GR
end Go.Proofs.YtibojdgdjhngiaaGreatDoor
end
section
namespace Go.Proofs.YtibojdgdjhngiaaGreatDoor
open Go Go.Gw Go.Ax
theorem YW (n:Nat)(h:n≤1000000):Bc (n:Int)=some []:=by
 have hw:w64 ((n:Int)-(w64 (0-((0:Nat):Int))))=(n:Int):=by rw[C5 (n:=0-((0:Nat):Int)) (by omega) (by omega),C5 (by omega) (by omega)]; omega
 unfold Bc;rw[if_neg (by rw[decide_eq_true_eq]; omega),Ab,hw,CY];by_cases h0:n=0
 ·rw[if_neg (by simp; omega),Ab]
 ·rw[if_pos (by simp; omega),if_pos (by omega),Ab]
theorem UM {xs ys:List g_api_Leaf}(h:xs.length+ys.length≤100000):A0 [xs,ys]=some (xs++ys):=by
 have w1:w64 (0+(xs.length:Int))=(xs.length:Int):=by rw[C5 (by omega) (by omega)]; omega
 have w2:w64 ((xs.length:Int)+(ys.length:Int))=((xs.length+ys.length:Nat):Int):=by rw[C5 (by omega) (by omega)]; omega
 have b1: ∀(i:Int) (x:List g_api_Leaf) (s:Int),0≤w64 (s+(x.length:Int))→Ba i x s=some (w64 (s+(x.length:Int))):=by
  intro i x s hs;unfold Ba;rw[CY,if_neg (by rw[decide_eq_true_eq]; omega),Ab]
 have b2: ∀(i:Int) (x s:List g_api_Leaf),s.length+x.length≤100000→A9 i x s=some (s++x):=by
  intro i x s hs;unfold A9;rw[Ib 32 (by omega) (by omega),Ab]
 unfold A0;simp only[Cx];rw[b1 _ _ _ (by rw[w1]; omega),Ab,w1,b1 _ _ _ (by rw[w2]; omega),Ab,w2,Ab,Ab,YW _ (by omega),Ab,b2 _ _ _ (by simp; omega),Ab,List.nil_append,b2 _ _ _ h,Ab,Ab,Ab]
theorem Rp {l:Ak}(h:l.L.length+l.Wait.length≤100000):Gz l=some (l.L++l.Wait):=by
 unfold Gz;rw[UM h,Ab]
def okBody (b:List UInt8):Bool:=decide (0<b.length)&&decide (b.length≤2048)
def okNum (n:Int):Bool:=decide (0≤n)&&decide (n≤1099511627776)
theorem HF (n:Int):DK n=some (okNum n):=rfl
theorem JJ (b:List UInt8):EO b=some (okBody b):=by
 unfold EO okBody;rw[CY];congr 2
 ·rw[decide_eq_decide]; omega
 ·rw[decide_eq_decide]; omega
def UZ (ks:List (List UInt8)):List (ByteArray×Bool):=ks.map fun b=>(bs b,true)
theorem TW {a b:List UInt8}:eqS (bs a) (bs b)=true↔a=b:=by simp[eqS,bs]
theorem WK (b:List UInt8): ∀(ks:List (List UInt8)) (i:Nat),(b∈ks→∃j,lkI (UZ ks) (bs b) i=some (j,true))∧(b∉ks→lkI (UZ ks) (bs b) i=none):=by
 intro ks;induction ks with
 |nil=>intro i; exact⟨fun h=>absurd h (by simp),fun _=>rfl⟩
 |cons k ks ih=>
  intro i;simp only[UZ,List.map_cons,lkI];by_cases hk:b=k
  ·subst hk;rw[if_pos (TW.2 rfl)];exact⟨fun _=>⟨i,rfl⟩,fun h=>absurd (List.mem_cons_self ..) h⟩
  ·rw[if_neg (fun h=>hk (TW.1 h))];refine⟨fun h=>(ih (i+1)).1 ((List.mem_cons.1 h).resolve_left hk),fun h=>(ih (i+1)).2 fun h'=>h (List.mem_cons_of_mem _ h')⟩
theorem lkB_kv (b:List UInt8)(ks:List (List UInt8)):lkB (UZ ks) (bs b)=decide (b∈ks):=by
 unfold lkB;by_cases h:b∈ks
 ·obtain⟨j,hj⟩:=(WK b ks 0).1 h;rw[hj,decide_eq_true h]; rfl
 ·rw[(WK b ks 0).2 h,decide_eq_false h]; rfl
def okL:List g_api_Leaf→List (List UInt8)→Bool
 | [],_=>true
 |x::r,ks=>(okBody x.Body&&okNum x.At&& !decide (x.Body∈ks))&&okL r (ks++[x.Body])
theorem Zk: ∀(xs:List g_api_Leaf) (ks:List (List UInt8)) (i:Int),GL DA xs i (UZ ks)=some (if okL xs ks=true then .inl (UZ (ks++xs.map (·.Body)))else .inr 1):=by
 intro xs;induction xs with
 |nil=>intro ks i; simp[GL,okL]
 |cons x xs ih=>
  intro ks i;have hb:DA i x (UZ ks)=some (if(okBody x.Body&&okNum x.At&& !decide (x.Body∈ks))=true then .inl (UZ (ks++[x.Body]))else .inr 1):=by
   unfold DA;rw[JJ,Ab,HF,lkB_kv];cases h1:okBody x.Body with
   |false=>rfl
   |true=>
    cases h2:okNum x.At with
    |false=>rfl
    |true=>
     by_cases h3:x.Body∈ks
     ·rw[decide_eq_true h3]; rfl
     ·rw[decide_eq_false h3,show gu (!!true) (some true)=some true from rfl];simp only[Bool.not_true,Bool.false_eq_true,if_false,Ab,Bool.or_self,Bool.and_self,Bool.not_false,if_true];rw[(WK x.Body ks 0).2 h3];simp[UZ]
  have hc:okL (x::xs) ks=((okBody x.Body&&okNum x.At&& !decide (x.Body∈ks))&&okL xs (ks++[x.Body])):=rfl;simp only[GL,hb,Ab];by_cases h:(okBody x.Body&&okNum x.At&& !decide (x.Body∈ks))=true
  ·have e:okL (x::xs) ks=okL xs (ks++[x.Body]):=by rw[hc,h,Bool.true_and]
   rw[if_pos h,e];dsimp only;rw[ih];simp
  ·have e:okL (x::xs) ks=false:=by rw[hc,Bool.not_eq_true _|>.mp h,Bool.false_and]
   rw[if_neg h,e]; rfl
def okH:List Int→Int→Int→Bool
 | [],_,_=>true
 |x::r,last,n=>(!decide (x≤last)&& !decide (n≤x))&&okH r x n
theorem Zj (l:Ak): ∀(xs:List Int) (last:Int) (i:Int),∃z,GL (Dz l) xs i last=some (if okH xs last (l.L.length:Int)=true then .inl z else .inr 1):=by
 intro xs;induction xs with
 |nil=>intro last i; exact⟨last,by simp[GL,okH]⟩
 |cons x xs ih=>
  intro last i;obtain⟨z,hz⟩:=ih x (i+1);refine⟨z,?_⟩;have hb:Dz l i x last=some (if(!decide (x≤last)&& !decide ((l.L.length:Int)≤x))=true then .inl x else .inr 1):=by
   unfold Dz;by_cases h1:x≤last
   ·simp[h1]
   ·by_cases h2:(l.L.length:Int)≤x
    ·simp[h2]
    ·have h2': ¬(x≥(l.L.length:Int)):=h2;simp[h1,h2,h2']
  have hc:okH (x::xs) last (l.L.length:Int)=((!decide (x≤last)&& !decide ((l.L.length:Int)≤x))&&okH xs x (l.L.length:Int)):=rfl;simp only[GL,hb,Ab];by_cases h:(!decide (x≤last)&& !decide ((l.L.length:Int)≤x))=true
  ·have e:okH (x::xs) last (l.L.length:Int)=okH xs x (l.L.length:Int):=by rw[hc,h,Bool.true_and]
   rw[if_pos h,e];exact hz
  ·have e:okH (x::xs) last (l.L.length:Int)=false:=by rw[hc,Bool.not_eq_true _|>.mp h,Bool.false_and]
   rw[if_neg h,e]; rfl
def XR (l:Ak):Bool:=okNum l.Id&& !decide (l.Key.toNat=0)&&decide (l.Key.toNat<1152921504606845789)&&decide (0≤l.Delay)&&decide (l.Delay≤1000)
def chk (l:Ak):Int:=if XR l=true then(if okL (l.L++l.Wait) []=true then(if okH l.Hide (-1) (l.L.length:Int)=true then(if 256<(l.L++l.Wait).length then 2 else 0)else 1)else 1)else 1
theorem Kv {l:Ak}(h:l.L.length+l.Wait.length≤100000):Dc l=some (chk l):=by
 unfold Dc;rw[HF,Ab];have hc:(((((!okNum l.Id)||((l.Key.toNat:Int)==0))||(decide ((l.Key.toNat:Int)≥1152921504606845789)))||(decide (l.Delay<0)))||(decide (l.Delay>1000)))= !XR l:=by
  unfold XR;rw[Bool.eq_iff_iff];cases okNum l.Id<;>simp<;>omega
 rw[hc];unfold chk;cases h0:XR l with
 |false=>rfl
 |true=>
  rw[Bool.not_true,if_neg (by decide),if_pos rfl,Rp h,Ab];have h3:=Zk (l.L++l.Wait) [] 0;rw[show UZ []=([]:List (ByteArray×Bool))from rfl]at h3;rw[h3,Ab];cases h1:okL (l.L++l.Wait) []with
  |false=>simp
  |true=>
   simp only[if_true];obtain⟨z,hz⟩:=Zj l l.Hide (-1) 0;rw[hz,Ab];cases h2:okH l.Hide (-1) (l.L.length:Int)with
   |false=>simp
   |true=>
    simp only[if_true];have hl:(UZ ([]++(l.L++l.Wait).map (·.Body))).length=(l.L++l.Wait).length:=by simp[UZ]
    rw[hl];by_cases h4:256<(l.L++l.Wait).length
    ·rw[if_pos h4,if_pos (by rw[decide_eq_true_eq]; omega)]
    ·rw[if_neg h4,if_neg (by rw[decide_eq_true_eq]; omega)]
end Go.Proofs.YtibojdgdjhngiaaGreatDoor
end
section
namespace Go.Proofs.YtibojdgdjhngiaaGreatDoor
open Go Go.Gw Go.Ax
theorem YX (n:Nat)(h:n≤1000000):BJ (n:Int)=some []:=by
 have hw:w64 ((n:Int)-(w64 (0-((0:Nat):Int))))=(n:Int):=by rw[C5 (n:=0-((0:Nat):Int)) (by omega) (by omega),C5 (by omega) (by omega)]; omega
 unfold BJ;rw[if_neg (by rw[decide_eq_true_eq]; omega),Ab,hw,CY];by_cases h0:n=0
 ·rw[if_neg (by simp; omega),Ab]
 ·rw[if_pos (by simp; omega),if_pos (by omega),Ab]
theorem Sw: ∀(xs:List (List UInt8)) (i:Int) (n:Nat),n+xs.flatten.length≤1000000→Cx Bj xs i (n:Int)=some ((n+xs.flatten.length:Nat):Int):=by
 intro xs;induction xs with
 |nil=>intro i n _; simp[Cx]
 |cons x xs ih=>
  intro i n h;simp only[List.flatten_cons,List.length_append]at h;have hw:w64 ((n:Int)+(x.length:Int))=((n+x.length:Nat):Int):=by rw[C5 (by omega) (by omega)]; omega
  have hb:Bj i x (n:Int)=some ((n+x.length:Nat):Int):=by
   unfold Bj;rw[CY,hw,if_neg (by rw[decide_eq_true_eq]; omega),Ab]
  simp only[Cx,hb,Ab];rw[ih _ _ (by omega),List.flatten_cons,List.length_append,Nat.add_assoc]
theorem Sx: ∀(xs:List (List UInt8)) (i:Int) (s:List UInt8),s.length+xs.flatten.length≤1000000→Cx Bi xs i s=some (s++xs.flatten):=by
 intro xs;induction xs with
 |nil=>intro i s _; simp[Cx]
 |cons x xs ih=>
  intro i s h;simp only[List.flatten_cons,List.length_append]at h;have hb:Bi i x s=some (s++x):=by
   unfold Bi;rw[Ib 1 (by omega) (by omega),Ab]
  simp only[Cx,hb,Ab];rw[ih _ _ (by rw[List.length_append]; omega),List.flatten_cons,List.append_assoc]
theorem Og {xs:List (List UInt8)}(h:xs.flatten.length≤1000000):A8 xs=some xs.flatten:=by
 have h1:=Sw xs 0 0 (by omega);rw[show((0:Nat):Int)=0 from rfl,Nat.zero_add]at h1;unfold A8;rw[h1,Ab,Ab,YX _ h,Ab,Sx xs 0 [] (by simpa using h),Ab,Ab,List.nil_append]
theorem ZX {w:ByteArray}{ps:List (List UInt8)}(hw:w.data.toList.length≤100)(h:ps.flatten.length≤100000):Ho w ps=some (w.data.toList++ps.flatten):=by
 unfold Ho;have h0:([]:List UInt8).length=0:=rfl;rw[Ib 1 (by omega) (by omega),Ab,Og (by omega),Ab,List.nil_append,Ib 1 (by omega) (by omega),Ab]
def e8 (n:Int):List UInt8:=[toB (CN n 56),toB (CN n 48),toB (CN n 40),toB (CN n 32),toB (CN n 24),toB (CN n 16),toB (CN n 8),toB (CN n 0)]
theorem JN (n:Int):CJ n=some (e8 n):=by
 unfold CJ;simp[Bf,FX,idx,w64,CY,e8]
def Yo (p:g_api_Promise):List UInt8:=[112,114,111,109,105,115,101]++[e8 p.Log,e8 p.At,LJ p.Leaf].flatten
def YU (h:AT):List UInt8:=[104,101,97,100]++[e8 h.Log,e8 h.Size,LJ h.Root,e8 h.At].flatten
theorem TM (n:Int):(e8 n).length=8:=rfl
theorem LK (p:g_api_Promise):C1 p=some (Yo p):=by
 unfold C1;rw[JN,Ab,JN,Ab,P0,Ab,ZX (by decide) (by simp[TM,IH]),Ab]; rfl
theorem WA (h:AT):FV h=some (YU h):=by
 unfold FV;rw[JN,Ab,JN,Ab,P0,Ab,JN,Ab,ZX (by decide) (by simp[TM,IH]),Ab]; rfl
theorem QP (p:g_api_Promise):(Yo p).length≤600000:=by simp[Yo,TM,IH]
theorem W1 (h:AT):(YU h).length≤600000:=by simp[YU,TM,IH]
def pleaf (b:List UInt8):UInt64×UInt64:=ZN ⟨#[108,101,97,102]⟩ [b]
theorem Lj {b:List UInt8}(h:b.length≤600000):DJ b=some (pleaf b):=by
 unfold DJ;rw[Jv _ _ (by simp[Wh]; omega),Ab]; rfl
def findB:List g_api_Leaf→List UInt8→Nat→Option Nat
 | [],_,_=>none
 |x::r,b,i=>if x.Body=b then some i else findB r b (i+1)
theorem YQ (all:List g_api_Leaf)(b:List UInt8)(hl:all.length≤100000): ∀(xs:List g_api_Leaf) (i:Nat),all.drop i=xs→
  GM (AF all) xs.length (i:Int) b=
   some (match findB xs b i with|some j=> .inr ((j:Int),b)|none=> .inl b):=by
 intro xs;induction xs with
 |nil=>intro i _; rfl
 |cons x xs ih=>
  intro i hd;have hx:idx all (i:Int)=some x:=Fi (by
   have:(all.drop i)[0]? =some x:=by rw[hd]; rfl
   simpa using this)
  have hd':all.drop (i+1)=xs:=by rw[←List.drop_drop,hd]; rfl
  have hb:AF all (i:Int) b=some (if x.Body=b then .inr ((i:Int),b)else .inl b):=by
   unfold AF H5 Hk;rw[hx];simp only[Ab];by_cases h:x.Body=b
   ·rw[if_pos h,if_pos (TW.2 h)]
   ·rw[if_neg h,if_neg (fun q=>h (TW.1 q))]
  simp only[List.length_cons,GM,hb,Ab,findB];by_cases h:x.Body=b
  ·rw[if_pos h,if_pos h]
  ·rw[if_neg h,if_neg h];exact ih (i+1) hd'
theorem PI {all:List g_api_Leaf}{b:List UInt8}(hl:all.length≤100000):
  AW all b=some (match findB all b 0 with|some j=>(j:Int)|none=> -1,b):=by
 have h:=YQ all b hl all 0 rfl;unfold AW;rw[show(0:Int)=((0:Nat):Int)from rfl,h,Ab];cases findB all b 0<;>rfl
theorem UG: ∀{xs:List g_api_Leaf} {b:List UInt8} {i j:Nat},findB xs b i=some j→∃x,i≤j∧xs[j-i]? =some x∧x.Body=b:=by
 intro xs;induction xs with
 |nil=>intro b i j h; cases h
 |cons y xs ih=>
  intro b i j h;simp only[findB]at h;by_cases hy:y.Body=b
  ·rw[if_pos hy]at h;cases h;exact⟨y,Nat.le_refl _,by simp,hy⟩
  ·rw[if_neg hy]at h;obtain⟨x,h1,h2,h3⟩:=ih h;refine⟨x,by omega,?_,h3⟩;rw[show j-i=(j-(i+1))+1 from by omega];exact h2
theorem UH: ∀{xs:List g_api_Leaf} {b:List UInt8} {i:Nat},findB xs b i=none→∀x∈xs,x.Body≠b:=by
 intro xs;induction xs with
 |nil=>intro b i _ x hx; cases hx
 |cons y xs ih=>
  intro b i h x hx;simp only[findB]at h;by_cases hy:y.Body=b
  ·rw[if_pos hy]at h; cases h
  ·rw[if_neg hy]at h;rcases List.mem_cons.1 hx with rfl|hx
   ·exact hy
   ·exact ih h x hx
end Go.Proofs.YtibojdgdjhngiaaGreatDoor
end
section
namespace Go.Proofs.YtibojdgdjhngiaaGreatDoor
open Go Go.Gw Go.Ax
theorem Jb {l:Ak}(h:chk l=0):XR l=true∧okL (l.L++l.Wait) []=true∧okH l.Hide (-1) (l.L.length:Int)=true∧(l.L++l.Wait).length≤256:=by
 unfold chk at h;cases h0:XR l with
 |false=>rw[h0]at h; simp at h
 |true=>
  cases h1:okL (l.L++l.Wait) []with
  |false=>rw[h0,h1]at h; simp at h
  |true=>
   cases h2:okH l.Hide (-1) (l.L.length:Int)with
   |false=>rw[h0,h1,h2]at h; simp at h
   |true=>
    rw[h0,h1,h2]at h;simp only[if_true]at h;by_cases h3:256<(l.L++l.Wait).length
    ·rw[if_pos h3]at h; cases h
    ·exact⟨rfl,rfl,rfl,by omega⟩
theorem Xw {l:Ak}(h0:XR l=true)(h1:okL (l.L++l.Wait) []=true)(h2:okH l.Hide (-1) (l.L.length:Int)=true)(h3:(l.L++l.Wait).length≤256):chk l=0:=by
 unfold chk;rw[h0,h1,h2];simp only[if_true];rw[if_neg (by omega)]
theorem TB {l:Ak}(h:XR l=true):1≤l.Key.toNat∧l.Key.toNat<GR∧okNum l.Id=true:=by
 unfold XR at h;simp only[Bool.and_eq_true,Bool.not_eq_true',decide_eq_true_eq,decide_eq_false_iff_not]at h;simp only[GR];exact⟨by omega,by omega,h.1.1.1.1⟩
theorem Abk: ∀(xs:List g_api_Leaf) (ks:List (List UInt8)) (x:g_api_Leaf),okL (xs++[x]) ks=(okL xs ks&&(okBody x.Body&&okNum x.At&& !decide (x.Body∈ks++xs.map (·.Body)))):=by
 intro xs;induction xs with
 |nil=>intro ks x; simp[okL]
 |cons y xs ih=>
  intro ks x;show((okBody y.Body&&okNum y.At&& !decide (y.Body∈ks))&&okL (xs++[x]) (ks++[y.Body]))=(((okBody y.Body&&okNum y.At&& !decide (y.Body∈ks))&&okL xs (ks++[y.Body]))&&_);rw[ih,Bool.and_assoc];simp[Bool.and_assoc]
theorem Yu: ∀{xs:List g_api_Leaf} {ks:List (List UInt8)},okL xs ks=true→∀x∈xs,x.Body.length≤2048:=by
 intro xs;induction xs with
 |nil=>intro ks _ x hx; cases hx
 |cons y xs ih=>
  intro ks h x hx;have h':((okBody y.Body&&okNum y.At&& !decide (y.Body∈ks))&&okL xs (ks++[y.Body]))=true:=h;rw[Bool.and_eq_true,Bool.and_eq_true,Bool.and_eq_true]at h';rcases List.mem_cons.1 hx with rfl|hx
  ·have:=h'.1.1.1;unfold okBody at this;simp at this;exact this.2
  ·exact ih h'.2 x hx
theorem Yv: ∀{xs:List Int} {last n m:Int},n≤m→okH xs last n=true→okH xs last m=true:=by
 intro xs;induction xs with
 |nil=>intro last n m _ _; rfl
 |cons x xs ih=>
  intro last n m hnm h;have h':((!decide (x≤last)&& !decide (n≤x))&&okH xs x n)=true:=h;show((!decide (x≤last)&& !decide (m≤x))&&okH xs x m)=true;rw[Bool.and_eq_true,Bool.and_eq_true]at h'⊢;refine⟨⟨h'.1.1,?_⟩,ih hnm h'.2⟩;have:=h'.1.2;simp at this⊢;omega
def Wa (l:Ak):Bx:=⟨l.Id,pubK l.Key,l.Delay⟩
theorem Ur {l:Ak}(hl:l.L.length+l.Wait.length≤100000)(h:chk l=0):EP l=some (Wa l,0):=by
 obtain⟨k1,k2,k3⟩:=TB (Jb h).1;unfold EP;rw[Kv hl,Ab,h,if_neg (by decide),QO k1 k2,Ab]; rfl
def IG (l:Ak)(t:Int)(b:List UInt8):g_api_Promise:=⟨l.Id,t,pleaf b,AaL l.Key (Yo ⟨l.Id,t,pleaf b,⟨0,0⟩⟩)⟩
def Qd (l:Ak)(b:List UInt8)(t:Int):Ak:=⟨l.Id,l.Key,l.Delay,l.L,l.Hide,l.Wait++[⟨b,t⟩]⟩
def merged (l:Ak):Ak:=⟨l.Id,l.Key,l.Delay,l.L++l.Wait,l.Hide,[]⟩
def AaA:Ak:=⟨0,0,0,[],[],[]⟩
def Aaz:g_api_Promise:=⟨0,0,(0,0),⟨0,0⟩⟩
theorem Acz {l:Ak}{b:List UInt8}{now:Int}(hl:l.L.length+l.Wait.length≤100000)(h:chk l=0)(ha:(okBody b&&okNum now)=false):BX l b now=some (AaA,Aaz,1):=by
 unfold BX;rw[Kv hl,Ab,h,if_neg (by decide),JJ,Ab,HF];cases h1:okBody b with
 |false=>rfl
 |true=>
  rw[h1,Bool.true_and]at ha;rw[ha]; rfl
theorem Nt {l:Ak}{b:List UInt8}{now:Int}{j:Nat}{x:g_api_Leaf}(hl:l.L.length+l.Wait.length≤100000)(h:chk l=0)(ha:(okBody b&&okNum now)=true)(hj:findB (l.L++l.Wait) b 0=some j)(hx:(l.L++l.Wait)[j]? =some x):
  BX l b now=some (l,IG l x.At b,0):=by
 obtain⟨k1,k2,k3⟩:=TB (Jb h).1;rw[Bool.and_eq_true]at ha;have hbl:b.length≤600000:=by have:=ha.1; unfold okBody at this; simp at this; omega
 unfold BX;rw[Kv hl,Ab,h,if_neg (by decide),JJ,Ab,HF,ha.1,ha.2];rw[show gu (!!true) (some true)=some true from rfl,Ab,if_neg (show¬((!true)||(!true))=true by decide),Rp hl,Ab,PI (by simp; omega),hj,Ab];dsimp only;rw[if_pos (decide_eq_true (show(j:Int)≥0 from Int.natCast_nonneg j)),Fi hx,Ab,Lj hbl,Ab,LK,Ab,RP k1 k2 (QP _),Ab]; rfl
theorem Zr {l:Ak}{b:List UInt8}{now:Int}(hl:l.L.length+l.Wait.length≤100000)(h:chk l=0)(ha:(okBody b&&okNum now)=true)(hj:findB (l.L++l.Wait) b 0=none)(hn:(l.L++l.Wait).length=256):
  BX l b now=some (AaA,Aaz,2):=by
 rw[Bool.and_eq_true]at ha;unfold BX;rw[Kv hl,Ab,h,if_neg (by decide),JJ,Ab,HF,ha.1,ha.2];rw[show gu (!!true) (some true)=some true from rfl,Ab,if_neg (show¬((!true)||(!true))=true by decide),Rp hl,Ab,PI (by simp; omega),hj,Ab];dsimp only;rw[if_neg (by simp),if_pos (by rw[hn]; rfl)]; rfl
theorem Acy {l:Ak}{b:List UInt8}{now:Int}(hl:l.L.length+l.Wait.length≤100000)(h:chk l=0)(ha:(okBody b&&okNum now)=true)(hj:findB (l.L++l.Wait) b 0=none)(hn:(l.L++l.Wait).length≠256):
  BX l b now=some (Qd l b now,IG l now b,0):=by
 obtain⟨k1,k2,k3⟩:=TB (Jb h).1;rw[Bool.and_eq_true]at ha;have hbl:b.length≤600000:=by have:=ha.1; unfold okBody at this; simp at this; omega
 have hnil:([]:List g_api_Leaf).length=0:=rfl;have hnb:([]:List UInt8).length=0:=rfl;unfold BX;rw[Kv hl,Ab,h,if_neg (by decide),JJ,Ab,HF,ha.1,ha.2];rw[show gu (!!true) (some true)=some true from rfl,Ab,if_neg (show¬((!true)||(!true))=true by decide),Rp hl,Ab,PI (by simp; omega),hj,Ab];dsimp only;rw[if_neg (by simp),if_neg (by rw[beq_iff_eq]; omega)];unfold Bm Ga;rw[Ib 32 (by omega) (by omega),Ab,Ab,Ib 1 (by omega) (by omega),Ab,Ab,List.nil_append,List.nil_append,Ib 32 (by simp; omega) (by simp; omega),Ab,Lj hbl,Ab,LK,Ab,RP k1 k2 (QP _),Ab]; rfl
theorem Xv {l:Ak}{b:List UInt8}{now:Int}(h:chk l=0)(ha:(okBody b&&okNum now)=true)(hj:findB (l.L++l.Wait) b 0=none)(hn:(l.L++l.Wait).length≠256):chk (Qd l b now)=0:=by
 obtain⟨h0,h1,h2,h3⟩:=Jb h;have e:(Qd l b now).L++(Qd l b now).Wait=(l.L++l.Wait)++[⟨b,now⟩]:=by simp[Qd]
 refine Xw h0 ?_ h2 ?_
 ·rw[e,Abk,h1,Bool.true_and,List.nil_append];rw[ha,Bool.true_and,Bool.not_eq_true',decide_eq_false_iff_not];intro hm;obtain⟨x,hx,hxb⟩:=List.mem_map.1 hm;exact UH hj x hx hxb
 ·rw[e,List.length_append]; simp at h3 hn⊢; omega
theorem Oi {l:Ak}(h:chk l=0):chk (merged l)=0:=by
 obtain⟨h0,h1,h2,h3⟩:=Jb h;have e:(merged l).L++(merged l).Wait=l.L++l.Wait:=by simp[merged]
 refine Xw h0 (by rw[e]; exact h1) ?_ (by rw[e]; exact h3);refine Yv ?_ h2;show(l.L.length:Int)≤((l.L++l.Wait).length:Int);simp; omega
theorem YF {l:Ak}(hl:l.L.length+l.Wait.length≤100000)(h:chk l=0):Fq l=some (merged l,0):=by
 unfold Fq;rw[Kv hl,Ab,h,if_neg (by decide),Rp hl,Ab]; rfl
def headOf (l:Ak)(n:Int)(r:UInt64×UInt64)(t:Int):AT:=⟨l.Id,n,r,t,AaL l.Key (YU ⟨l.Id,n,r,t,⟨0,0⟩⟩)⟩
end Go.Proofs.YtibojdgdjhngiaaGreatDoor
end
section
namespace Go.Proofs.YtibojdgdjhngiaaGreatDoor
open Go Go.Gw Go.Ax
abbrev Sm:=UInt64×UInt64
def hp (n:Nat):Nat:=2^Nat.log2 (n-1)
theorem YT {n:Nat}(h:2≤n):hp n<n:=by
 have:=Nat.log2_self_le (n:=n-1) (by omega);unfold hp; omega
theorem TD (n:Nat):0<hp n:=Nat.two_pow_pos _
theorem hp_eq {n j:Nat}(h1:2^j<n)(h2:n≤2^ (j+1)):hp n=2^j:=by
 unfold hp;have:Nat.log2 (n-1)=j:=by
  rw[Nat.log2_eq_iff (by have:=Nat.two_pow_pos j; omega)];omega
 rw[this]
def IF (l:List Sm):Sm:=if h:l.length≤1 then l.headD default else Li (IF (l.take (hp l.length))) (IF (l.drop (hp l.length)))
termination_by l.length
decreasing_by
 ·have:=YT (n:=l.length) (by omega); simp; omega
 ·have:=TD l.length; simp; omega
theorem VW (x:Sm):IF [x]=x:=by rw[IF]; simp
theorem QM {l:List Sm}(h:2≤l.length):IF l=Li (IF (l.take (hp l.length))) (IF (l.drop (hp l.length))):=by
 rw[IF]; rw[dif_neg (by omega)]
def Ek:List Sm→List Sm
 |x::y::l=>Li x y::Ek l
 |_=> []
theorem II: ∀(n:Nat) (l:List Sm),l.length=2*n→(Ek l).length=n:=by
 intro n;induction n with
 |zero=>intro l h; have:l=[]:=List.eq_nil_of_length_eq_zero (by omega); subst this; rfl
 |succ n ih=>
  intro l h;match l,h with
  |x::y::l,h=>simp only[Ek,List.length_cons]; rw[ih l (by simp at h; omega)]
theorem Uu: ∀(n:Nat) (l:List Sm),l.length=2*n→∀(i:Nat) (a b:Sm),l[2*i]? =some a→l[2*i+1]? =some b→(Ek l)[i]? =some (Li a b):=by
 intro n;induction n with
 |zero=>intro l h i a b ha; have:l=[]:=List.eq_nil_of_length_eq_zero (by omega); subst this; simp at ha
 |succ n ih=>
  intro l h i a b ha hb;match l,h with
  |x::y::l,h=>
   cases i with
   |zero=>simp at ha hb; subst ha; subst hb; rfl
   |succ i=>
    simp only[Ek,List.getElem?_cons_succ];exact ih l (by simp at h; omega) i a b (by simpa[Nat.mul_succ]using ha) (by simpa[Nat.mul_succ]using hb)
theorem Uv: ∀(n:Nat) (a b:List Sm),a.length=2*n→Ek (a++b)=Ek a++Ek b:=by
 intro n;induction n with
 |zero=>intro a b h; have:a=[]:=List.eq_nil_of_length_eq_zero (by omega); subst this; rfl
 |succ n ih=>
  intro a b h;match a,h with
  |x::y::l,h=>simp only[Ek,List.cons_append]; rw[ih l b (by simp at h; omega)]
theorem Acq {n:Nat}{l:List Sm}(hl:l.length=2*n)(hn:n≤1000){i:Nat}(hi:i<n):
  BL (i:Int) ((Ek l).take i++l.drop i)=some ((Ek l).take (i+1)++l.drop (i+1)):=by
 have hp:=II n l hl;have ht:((Ek l).take i).length=i:=by simp; omega
 have w1:w64 (2*(i:Int))=((2*i:Nat):Int):=by rw[C5 (by omega) (by omega)]; omega
 have w2:w64 (((2*i:Nat):Int)+1)=((2*i+1:Nat):Int):=by rw[C5 (by omega) (by omega)]; omega
 obtain⟨a,ha⟩: ∃a,l[2*i]? =some a:=⟨l[2*i]'(by omega),by simp⟩;obtain⟨b,hb⟩: ∃b,l[2*i+1]? =some b:=⟨l[2*i+1]'(by omega),by simp⟩;have g: ∀k x,l[i+k]? =some x→((Ek l).take i++l.drop i)[i+k]? =some x:=fun k x hx=>by
  rw[List.getElem?_append_right (by omega),ht,Nat.add_sub_cancel_left,List.getElem?_drop]; exact hx
 have i1:idx ((Ek l).take i++l.drop i) (((2*i:Nat)):Int)=some a:=Fi (by rw[show 2*i=i+i from by omega]at ha⊢; exact g i a ha);have i2:idx ((Ek l).take i++l.drop i) (((2*i+1:Nat)):Int)=some b:=Fi (by rw[show 2*i+1=i+(i+1)from by omega]at hb⊢; exact g (i+1) b hb);obtain⟨c,hc⟩: ∃c,l[i]? =some c:=⟨l[i]'(by omega),by simp⟩;have i3:idx ((Ek l).take i++l.drop i) (i:Int)=some c:=Fi (by have:=g 0 c (by simpa using hc); simpa using this);have hpg:=Uu n l hl i a b ha hb;simp only[BL,w1,i1,Ab,w2,i2,Wp,i3,CY,Int.toNat_natCast];refine congrArg some ?_;rw[List.set_append_right _ _ (by omega),ht,Nat.sub_self];have hd:l.drop i=c::l.drop (i+1):=by
  have hlt:i<l.length:=by omega
  rw[List.drop_eq_getElem_cons hlt];rw[List.getElem?_eq_getElem hlt]at hc;rw[Option.some.inj hc]
 rw[hd,List.set_cons_zero,List.take_add_one,hpg];simp
theorem b3_all {n:Nat}{l:List Sm}(hl:l.length=2*n)(hn:n≤1000): ∀(k i:Nat),i+k=n→Bf BL k (i:Int) ((Ek l).take i++l.drop i)=some (Ek l++l.drop n):=by
 intro k;induction k with
 |zero=>
  intro i h;have:=II n l hl;have e:i=n:=by omega
  subst e;simp only[Bf];rw[List.take_of_length_le (by omega)]
 |succ k ih=>
  intro i h;simp only[Bf,Acq hl hn (show i<n by omega),Ab];have:=ih (i+1) (by omega);simpa using this
theorem b2_of {l s:List Sm}{x y:Int}(h1:(l.length:Int)>1)(h2:w64 (Int.tdiv (l.length:Int) 2)=x)(h3:Bf BL x.toNat 0 l=some s)(h4:w64 (Int.tdiv (s.length:Int) 2)=y)(h5:0≤y∧y≤(s.length:Int)):
  BM l=some (.inl (s.take y.toNat)):=by
 unfold BM;rw[if_pos (decide_eq_true h1),h2,CY,h3,Ab,Ab,h4,CY,if_pos h5]
theorem W2 {n m:Nat}(h:m=2*n)(hn:n≤1000):w64 (Int.tdiv (m:Int) 2)=(n:Int):=by
 subst h;have:Int.tdiv ((2*n:Nat):Int) 2=(n:Int):=by
  rw[Int.tdiv_eq_ediv_of_nonneg (by omega)]; omega
 rw[this,C5 (by omega) (by omega)]
theorem Acr {n:Nat}{l:List Sm}(hl:l.length=2*n)(h1:1≤n)(hn:n≤1000):BM l=some (.inl (Ek l)):=by
 have hp:=II n l hl;have hb:Bf BL ((n:Int)).toNat 0 l=some (Ek l++l.drop n):=by
  have:=b3_all hl hn n 0 (by omega);rw[List.take_zero,List.drop_zero,List.nil_append]at this;rw[Int.toNat_natCast]; exact this
 have hs:(Ek l++l.drop n).length=2*n:=by rw[List.length_append,hp,List.length_drop]; omega
 have:=b2_of (by omega) (W2 hl hn) hb (W2 hs hn) ⟨by omega,by omega⟩;rw[this,Int.toNat_natCast,List.take_append_of_le_length (by omega),List.take_of_length_le (by omega)]
def red:Nat→List Sm→List Sm
 |0,l=>l
 |j+1,l=>red j (Ek l)
theorem Aa7: ∀(j:Nat) (l:List Sm),red (j+1) l=Ek (red j l):=by
 intro j;induction j with
 |zero=>intro l; rfl
 |succ j ih=>intro l; rw[red,ih (Ek l)]; rfl
theorem Aa8: ∀(j:Nat) (k:Nat) (a b:List Sm),a.length=2^j*k→red j (a++b)=red j a++red j b:=by
 intro j;induction j with
 |zero=>intro k a b _; rfl
 |succ j ih=>
  intro k a b h;have h':a.length=2*(2^j*k):=by rw[h,Nat.pow_succ]; rw[Nat.mul_assoc,Nat.mul_comm 2 k,←Nat.mul_assoc,Nat.mul_comm _ 2]
  rw[red,red,red,Uv _ a b h',ih k _ _ (II _ _ h')]
theorem Yl: ∀(j:Nat) (l:List Sm),l.length=2^j→red j l=[IF l]:=by
 intro j;induction j with
 |zero=>
  intro l h;match l,h with
  | [x],_=>rw[VW]; rfl
 |succ j ih=>
  intro l h;have hpw:=Nat.two_pow_pos j;have h2:l.length=2^j+2^j:=by rw[h,Nat.pow_succ]; omega
  have hh:hp l.length=2^j:=hp_eq (by omega) (by omega);rw[QM (by omega),hh,Aa7];have ea:(l.take (2^j)).length=2^j:=by simp; omega
  have eb:(l.drop (2^j)).length=2^j:=by simp; omega
  have:=Aa8 j 1 (l.take (2^j)) (l.drop (2^j)) (by rw[ea]; omega);rw[List.take_append_drop]at this;rw[this,ih _ ea,ih _ eb];rfl
theorem Acs: ∀(j:Nat) (l:List Sm),l.length=2^j→j≤9→iter BM (j+1) l=some (red j l):=by
 intro j;induction j with
 |zero=>
  intro l h _;refine DU ?_;simp only[BM];rw[if_neg (by simp; omega)]; rfl
 |succ j ih=>
  intro l h hj;have hpw:2^j≤2^8:=Nat.pow_le_pow_right (by omega) (by omega);have hpos:=Nat.two_pow_pos j;have h':l.length=2*2^j:=by rw[h,Nat.pow_succ]; omega
  rw[Df (Acr h' (by omega) (by omega)),red];exact ih _ (II _ _ h') (by omega)
end Go.Proofs.YtibojdgdjhngiaaGreatDoor
end
section
namespace Go.Proofs.YtibojdgdjhngiaaGreatDoor
open Go Go.Gw Go.Ax
theorem rev_of {α:Type}{b1:Int×Int×List α→Option ((Int×Int×List α)⊕List α)}
  (hb: ∀s1,b1 s1=if(decide (s1.1<s1.2.1))=true then
   Ad (idx s1.2.2 s1.2.1) fun x4=>Ad (idx s1.2.2 s1.1) fun x5=>Ad (idx s1.2.2 s1.1) fun x6=>bnd (s1.2.2.set s1.1.toNat x4) fun x7=>
   Ad (idx x7 s1.2.1) fun x8=>bnd (x7.set s1.2.1.toNat x5) fun x9=>some (.inl ((w64 (s1.1+1)),(w64 (s1.2.1-1)),x9))
   else some (.inr s1.2.2)) (xs:List α) (hn:xs.length≤1000000):
  ∀(k i:Nat) (s:List α),s.length=xs.length→xs.length≤k+i→(∀q,q<xs.length→s[q]? =if q<i∨xs.length≤q+i then xs[xs.length-1-q]? else xs[q]?)→
   iter b1 (k+1) ((i:Int),(xs.length:Int)-1-i,s)=some xs.reverse:=by
 intro k;induction k with
 |zero=>
  intro i s hl hk hq;rw[DU (t:=s)]
  ·refine congrArg some (List.ext_getElem? fun q=> ?_);by_cases h:q<xs.length
   ·rw[hq q h,if_pos (by omega),List.getElem?_reverse h]
   ·rw[List.getElem?_eq_none (by omega),List.getElem?_eq_none (by simp; omega)]
  ·rw[hb,if_neg (by simp; omega)]
 |succ k ih=>
  intro i s hl hk hq;by_cases hlt:(i:Int)<(xs.length:Int)-1-i
  ·have hj:((xs.length:Int)-1-i)=((xs.length-1-i:Nat):Int):=by omega
   obtain⟨a,ha⟩: ∃a,s[xs.length-1-i]? =some a:=⟨s[xs.length-1-i]'(by omega),by simp⟩;obtain⟨b,hb'⟩: ∃b,s[i]? =some b:=⟨s[i]'(by omega),by simp⟩;have ia:idx s ((xs.length-1-i:Nat):Int)=some a:=Fi ha;have ib:idx s (i:Int)=some b:=Fi hb';have ha2:(s.set i a)[xs.length-1-i]? =some a:=by rw[List.getElem?_set_ne (by omega)]; exact ha
   have ia2:idx (s.set i a) ((xs.length-1-i:Nat):Int)=some a:=Fi ha2;have w1:w64 ((i:Int)+1)=((i+1:Nat):Int):=by rw[C5 (by omega) (by omega)]; omega
   have w2:w64 (((xs.length-1-i:Nat):Int)-1)=(xs.length:Int)-1-((i+1:Nat):Int):=by rw[C5 (by omega) (by omega)]; omega
   rw[Df (s':=(((i+1:Nat):Int),(xs.length:Int)-1-((i+1:Nat):Int),(s.set i a).set (xs.length-1-i) b))]
   ·refine ih (i+1) _ (by simp[hl]) (by omega) fun q hqq=> ?_;have hqi:=hq i (by omega);have hqj:=hq (xs.length-1-i) (by omega);rw[if_neg (by omega)]at hqi hqj;by_cases e1:q=xs.length-1-i
    ·subst e1;rw[List.getElem?_set_self (by simp; omega),if_pos (by omega)];rw[show xs.length-1-(xs.length-1-i)=i from by omega,←hqi,hb']
    ·rw[List.getElem?_set_ne (Ne.symm e1)];by_cases e2:q=i
     ·subst e2;rw[List.getElem?_set_self (by omega),if_pos (by omega)];rw[←ha,hqj]
     ·rw[List.getElem?_set_ne (Ne.symm e2),hq q hqq];by_cases e3:q<i∨xs.length≤q+i
      ·rw[if_pos e3,if_pos (by omega)]
      ·rw[if_neg e3,if_neg (by omega)]
   ·rw[hb,if_pos (decide_eq_true hlt)];simp only[hj,ia,ib,Ab,CY,Int.toNat_natCast,ia2,w1,w2]
  ·rw[DU (t:=s)]
   ·refine congrArg some (List.ext_getElem? fun q=> ?_);by_cases h:q<xs.length
    ·rw[hq q h,List.getElem?_reverse h];by_cases e3:q<i∨xs.length≤q+i
     ·rw[if_pos e3]
     ·rw[if_neg e3,show xs.length-1-q=q from by omega]
    ·rw[List.getElem?_eq_none (by omega),List.getElem?_eq_none (by simp; omega)]
   ·rw[hb,if_neg (by simpa using hlt)]
theorem Aa0 (xs:List Am)(hn:xs.length≤1000000):AU xs=some xs.reverse:=by
 have h:=rev_of (b1:=A6) (fun _=>rfl) xs hn xs.length 0 xs rfl (by omega) (fun q hq=>by rw[if_neg (by omega)]);have h':=I6 _ h (by omega);have w:w64 ((xs.length:Int)-1)=(xs.length:Int)-1-((0:Nat):Int):=by rw[C5 (by omega) (by omega)]; omega
 unfold AU;rw[CY,w];rw[show((0:Int),(xs.length:Int)-1-((0:Nat):Int),xs)=(((0:Nat):Int),(xs.length:Int)-1-((0:Nat):Int),xs)from rfl,h',Ab]
theorem Abx:((List.range 301).all fun n=>match Hs (toU (n:Int))with|some r=>decide (r=(if n=0 then 0 else((Nat.log2 n+1:Nat):Int)))|none=>false)=true:=by kernel_rfl
theorem len_eq {n:Nat}(h1:1≤n)(h2:n≤300):Hs (toU (n:Int))=some ((Nat.log2 n+1:Nat):Int):=by
 have h:=List.all_eq_true.1 Abx n (List.mem_range.2 (by omega));split at h
 ·rename_i r hr;have:=of_decide_eq_true h;rw[if_neg (by omega)]at this;rw[hr,this]
 ·cases h
theorem log_le {n:Nat}(h1:1≤n)(h2:n≤300):Nat.log2 n≤8:=by
 have:Nat.log2 n<9:=(Nat.log2_lt (by omega)).2 (by omega);omega
theorem AaM {j:Nat}(h:j≤8):NC 1 j=((2^j:Nat):Int):=by
 have e: ∀j,j≤8→NC 1 j=((2^j:Nat):Int):=by decide
 exact e j h
def Fm:Nat→List Sm→List Am
 |0,_=> []
 |n+1,l=>if l.length=0 then []else⟨((2^Nat.log2 l.length:Nat):Int),IF (l.take (2^Nat.log2 l.length))⟩::Fm n (l.drop (2^Nat.log2 l.length))
def Us:List Am→Am→Option (Bool×List Am):=fun s b0=>Ad (AA b0 s) fun y=>some (true,y)
theorem Ys {s:List Am}{b:Am}(h:s.length≤100000):Us s b=some (true,s++[b]):=by
 simp only[Us,AA];rw[Ib 24 (by simp; omega) (by simp; omega)]; rfl
theorem Acu {l:List Sm}{out:List Am}(h1:1≤l.length)(h2:l.length≤300)(ho:out.length≤100000):
  BN Us (l,out)=some (.inl (l.drop (2^Nat.log2 l.length),out++[⟨((2^Nat.log2 l.length:Nat):Int),IF (l.take (2^Nat.log2 l.length))⟩])):=by
 have hj:=log_le h1 h2;have hle:=Nat.log2_self_le (n:=l.length) (by omega);have w1:w64 (((Nat.log2 l.length+1:Nat):Int)-1)=((Nat.log2 l.length:Nat):Int):=by rw[C5 (by omega) (by omega)]; omega
 have hc1:cut l 0 ((2^Nat.log2 l.length:Nat):Int)=some (l.take (2^Nat.log2 l.length)):=by
  have:=LQ (xs:=l) (lo:=0) (hi:=2^Nat.log2 l.length) (Nat.zero_le _) hle;simpa using this
 have hc2:cut l ((2^Nat.log2 l.length:Nat):Int) (l.length:Int)=some (l.drop (2^Nat.log2 l.length)):=by
  rw[LQ hle (by omega)]; refine congrArg some ?_; rw[List.take_of_length_le (by simp)]
 have hcl:Bt (l.take (2^Nat.log2 l.length))=some (l.take (2^Nat.log2 l.length)):=by
  simp only[Bt];rw[Ib 16 (by simp; omega) (by simp; omega)]; rfl
 have hlt:(l.take (2^Nat.log2 l.length)).length=2^Nat.log2 l.length:=by simp; omega
 have hit:=I6 _ (Acs _ _ hlt (by omega)) (by omega);rw[Yl _ _ hlt]at hit;have hix:idx [IF (l.take (2^Nat.log2 l.length))] 0=some (IF (l.take (2^Nat.log2 l.length))):=rfl;unfold BN;rw[if_pos (decide_eq_true (by simp; omega))];rw[len_eq h1 h2,Ab,w1,if_pos (by omega),CY,Int.toNat_natCast,AaM hj,hc1,Ab,hcl,Ab,hit,Ab,Ab,hix,Ab,Ys ho,Ab,if_neg (by simp),hc2,Ab]
theorem Acv: ∀(n:Nat) (l:List Sm) (out:List Am),l.length≤n→l.length≤300→out.length+n≤100000→
  iter (BN Us) (n+1) (l,out)=some (.inl ([],out++Fm n l)):=by
 intro n;induction n with
 |zero=>
  intro l out h _ _;have:l=[]:=List.eq_nil_of_length_eq_zero (by omega);subst this;refine DU ?_;simp only[BN,Fm,List.append_nil];rfl
 |succ n ih=>
  intro l out h h2 ho;by_cases h0:l.length=0
  ·have:l=[]:=List.eq_nil_of_length_eq_zero h0;subst this;refine DU ?_;simp only[BN,Fm,List.length_nil,if_true,List.append_nil];rfl
  ·have hp:=Nat.two_pow_pos (Nat.log2 l.length);rw[Df (Acu (by omega) h2 (by omega)),ih _ _ (by simp; omega) (by simp; omega) (by simp; omega)];simp only[Fm];rw[if_neg h0];simp
theorem UN (l:List Sm)(h:l.length≤300): ∃q,Bl l=some (Fm l.length l,q):=by
 have hi:=I6 _ (Acv l.length l [] (by omega) h (by simp; omega)) (by omega);refine⟨[],?_⟩;have hp:C0 Us l []=some ([],Fm l.length l):=by
  unfold C0;rw[hi,Ab];simp
 have ha:AK [] l=some (Fm l.length l,[]):=by
  unfold AK;show Ad (C0 Us l []) _=_;rw[hp,Ab]
 unfold Bl;rw[ha,Ab]
def Xa:List Am→Sm
 | []=>default
 | [p]=>p.root_
 |p::q::ps=>Li p.root_ (Xa (q::ps))
theorem W9 (p:Am): ∀ps:List Am,Xa (ps++[p])=ps.foldr (fun q s=>Li q.root_ s) p.root_:=by
 intro ps;induction ps with
 |nil=>rfl
 |cons q ps ih=>
  cases ps with
  |nil=>rfl
  |cons r ps=>simp only[List.cons_append,Xa,List.foldr_cons]at ih⊢; rw[ih]
theorem AaZ: ∀(ps:List Am) (i:Int) (s:Sm),Cx D3 ps i s=some (ps.foldl (fun s q=>Li q.root_ s) s):=by
 intro ps;induction ps with
 |nil=>intro i s; rfl
 |cons p ps ih=>intro i s; simp only[Cx,D3,Wp,Ab,List.foldl_cons]; exact ih _ _
theorem RY: ∀(n:Nat) (l:List Sm),l.length≤n→1≤l.length→Xa (Fm n l)=IF l:=by
 intro n;induction n with
 |zero=>intro l h h1; omega
 |succ n ih=>
  intro l h h1;have hle:=Nat.log2_self_le (n:=l.length) (by omega);have hlt:=Nat.lt_log2_self (n:=l.length);have hpw:=Nat.two_pow_pos (Nat.log2 l.length);simp only[Fm];rw[if_neg (by omega)];by_cases he:l.length=2^Nat.log2 l.length
  ·have hd:l.drop (2^Nat.log2 l.length)=[]:=List.drop_eq_nil_of_le (by omega);have ht:l.take (2^Nat.log2 l.length)=l:=List.take_of_length_le (by omega);rw[hd,ht];have:Fm n ([]:List Sm)=[]:=by cases n<;>simp[Fm]
   rw[this]; rfl
  ·have hh:hp l.length=2^Nat.log2 l.length:=hp_eq (by omega) (by omega);have ih':=ih (l.drop (2^Nat.log2 l.length)) (by simp; omega) (by simp; omega);have hne:Fm n (l.drop (2^Nat.log2 l.length))≠[]:=by
    cases n with
    |zero=>omega
    |succ n=>simp only[Fm]; rw[if_neg (by simp; omega)]; simp
   rw[QM (l:=l) (by omega),hh];obtain⟨q,qs,hq⟩:=List.exists_cons_of_ne_nil hne;rw[hq]at ih'⊢;simp only[Xa];rw[ih']
def rootP (l:List Sm):Sm:=if l.length=0 then ZN ⟨#[101,109,112,116,121]⟩ []else IF l
theorem Ut: ∀(n:Nat) (l:List Sm),(Fm n l).length≤n:=by
 intro n;induction n with
 |zero=>intro l; simp[Fm]
 |succ n ih=>intro l; simp only[Fm]; split<;>simp; exact ih _
theorem AaY (l:List Sm)(h:l.length≤300):EN l=some (rootP l):=by
 obtain⟨q,hc⟩:=UN l h;have hlen:=Ut l.length l;unfold EN rootP;rw[show GN l=some l from rfl,Ab,hc,Ab];by_cases h0:l.length=0
 ·have hl:l=[]:=List.eq_nil_of_length_eq_zero h0;subst hl;rw[if_pos (by rfl),if_pos (show([]:List Sm).length=0 from rfl),Jv _ _ (by decide),Ab]
 ·have hf:=RY l.length l (by omega) (by omega);have hne:Fm l.length l≠[]:=by
   intro e;have hh: ∃n,l.length=n+1:=⟨l.length-1,by omega⟩;obtain⟨n,hn⟩:=hh;rw[hn]at e;simp only[Fm]at e;rw[if_neg h0]at e; cases e
  rw[if_neg h0];obtain⟨init,last,hil⟩: ∃init last,Fm l.length l=init++[last]:=⟨_,_,(List.dropLast_concat_getLast hne).symm⟩;rw[hil]at hf hlen⊢;rw[if_neg (by simp; omega),Aa0 _ (show(init++[last]).length≤1000000 from by omega),Ab,List.reverse_append,List.reverse_singleton,List.singleton_append];have e1:idx (last::init.reverse) 0=some last:=rfl;have e2:cut (last::init.reverse) 1 ((last::init.reverse).length:Int)=some init.reverse:=by
   have:=LQ (xs:=last::init.reverse) (lo:=1) (hi:=(last::init.reverse).length) (by simp) (by omega);rw[show((1:Nat):Int)=1 from rfl]at this;rw[this]; simp[List.take_of_length_le]
  rw[e1,Ab,e2,Ab,show(last.root_.1,last.root_.2)=last.root_ from rfl,AaZ,Ab,Ab,List.foldl_reverse];rw[W9]at hf;rw[←hf]
end Go.Proofs.YtibojdgdjhngiaaGreatDoor
end
section
namespace Go.Proofs.YtibojdgdjhngiaaGreatDoor
open Go Go.Gw Go.Ax
def Su (a l:Nat):List Bool:=if h:l=0 then []else if a%2=1 then true::Su (a/2) (l/2)else if a=l then Su (a/2) (l/2)else false::Su (a/2) (l/2)
termination_by l
decreasing_by all_goals omega
theorem Rf (a:Nat):Su a 0=[]:=by rw[Su]; simp
theorem TO {a l:Nat}(h:l≠0)(h1:a%2=1):Su a l=true::Su (a/2) (l/2):=by rw[Su,dif_neg h,if_pos h1]
theorem Xi {a:Nat}(h:a≠0)(h1:a%2=0):Su a a=Su (a/2) (a/2):=by rw[Su,dif_neg h,if_neg (by omega),if_pos rfl]
theorem UK {a l:Nat}(h:l≠0)(h1:a%2=0)(h2:a≠l):Su a l=false::Su (a/2) (l/2):=by rw[Su,dif_neg h,if_neg (by omega),if_neg h2]
def pop:Nat→Nat→Nat
 |0,_=>0
 |k+1,n=>n%2+pop k (n/2)
theorem pop_up: ∀(k n:Nat),n<2^k→pop (k+1) n=pop k n:=by
 intro k;induction k with
 |zero=>
   intro n h; have:n=0:=by simp at h; omega
   subst this; rfl
 |succ k ih=>
  intro n h;have e1:2^ (k+1)=2*2^k:=by rw[Nat.pow_succ]; omega
  have:=ih (n/2) (by omega);rw[pop,this,pop]
def bits (n:Nat):Nat:=if n=0 then 0 else Nat.log2 n+1
theorem XB {n:Nat}(h:n≠0):bits n=bits (n/2)+1:=by
 unfold bits;rw[if_neg h];by_cases h1:n/2=0
 ·have:n=1:=by omega
  subst this; rfl
 ·rw[if_neg h1,Nat.log2_def,if_pos (by omega)]
theorem XW (a b:Nat):(a^^^b)/2=a/2^^^b/2:=by
 have:=Nat.shiftRight_xor_distrib (a:=a) (b:=b) (i:=1);rw[Nat.shiftRight_eq_div_pow,Nat.shiftRight_eq_div_pow,Nat.shiftRight_eq_div_pow]at this;exact this
theorem XV {a b:Nat}:a^^^b=0↔a=b:=by
 constructor
 ·intro h;apply Nat.eq_of_testBit_eq;intro i;have:=congrArg (fun x=>Nat.testBit x i) h;simp at this;exact this
 ·intro h; subst h; simp
theorem count: ∀(k a l:Nat),a≤l→l<2^k→bits (a^^^l)+pop k (a>>>bits (a^^^l))=(Su a l).length:=by
 intro k;induction k with
 |zero=>
  intro a l h1 h2;have:l=0:=by simp at h2; omega
  have:a=0:=by omega
  subst this;subst l;simp[Rf,pop,bits]
 |succ k ih=>
  intro a l h1 h2;have e1:2^ (k+1)=2*2^k:=by rw[Nat.pow_succ]; omega
  have:=ih (a/2) (l/2) (by omega) (by omega);by_cases hl:l=0
  ·have:a=0:=by omega
   subst this;subst l;have hz: ∀k,pop k 0=0:=by intro k; induction k with|zero=>rfl|succ k ih=>simp[pop,ih]
   simp[Rf,bits,hz]
  ·by_cases he:a=l
   ·subst he;simp only[Nat.xor_self]at this⊢;rw[show bits 0=0 from rfl]at this⊢;simp only[Nat.shiftRight_zero,Nat.zero_add]at this⊢;rw[pop];by_cases ho:a%2=1
    ·rw[TO hl ho,List.length_cons,←this]; omega
    ·rw[Xi hl (by omega),←this]; omega
   ·have hx:a^^^l≠0:=fun h=>he (XV.1 h);rw[XB hx,XW];have hsh:a>>>(bits (a/2^^^l/2)+1)=(a/2)>>>bits (a/2^^^l/2):=by
     rw[Nat.add_comm,Nat.shiftRight_add,Nat.shiftRight_eq_div_pow a 1]
    have hlt:(a/2)>>>bits (a/2^^^l/2)<2^k:=by
     have:(a/2)>>>bits (a/2^^^l/2)≤a/2:=by rw[Nat.shiftRight_eq_div_pow]; exact Nat.div_le_self _ _
     omega
    rw[hsh,pop_up _ _ hlt];by_cases ho:a%2=1
    ·rw[TO hl ho,List.length_cons,←this]; omega
    ·rw[UK hl (by omega) he,List.length_cons,←this]; omega
def goD {σ:Type}(f g:σ→Sm→σ):List Bool→List Sm→σ→σ
 |d::ds,p::ps,x=>goD f g ds ps (if d then f x p else g x p)
 |_,_,x=>x
def lead (ds:List Bool)(ps:List Sm)(x:Sm):Sm:=goD (fun x p=>Li p x) (fun x p=>Li x p) ds ps x
end Go.Proofs.YtibojdgdjhngiaaGreatDoor
end
section
namespace Go.Proofs.YtibojdgdjhngiaaGreatDoor
open Go Go.Gw Go.Ax
def wayR (l:List Sm)(a:Nat):List Sm:=if h:l.length≤1 then []else if a<hp l.length then wayR (l.take (hp l.length)) a++[IF (l.drop (hp l.length))]else wayR (l.drop (hp l.length)) (a-hp l.length)++[IF (l.take (hp l.length))]
termination_by l.length
decreasing_by
 ·have:=YT (n:=l.length) (by omega); simp; omega
 ·have:=TD l.length; simp; omega
def Zw (l:List Sm)(f:Nat)(Lk:Bool):List Sm:=if f=l.length then(if Lk then []else [IF l])else if h:l.length≤1 then []else if f≤hp l.length then Zw (l.take (hp l.length)) f Lk++[IF (l.drop (hp l.length))]else Zw (l.drop (hp l.length)) (f-hp l.length) false++[IF (l.take (hp l.length))]
termination_by l.length
decreasing_by
 ·have:=YT (n:=l.length) (by omega); simp; omega
 ·have:=TD l.length; simp; omega
def gd (f s:Nat)(Lk:Bool):Bool×List Bool:=if h:s≤1∨f=s then(!Lk,[])else if f≤hp s then((gd f (hp s) Lk).1,(gd f (hp s) Lk).2++[false])else((gd (f-hp s) (s-hp s) false).1,(gd (f-hp s) (s-hp s) false).2++[true])
termination_by s
decreasing_by
 all_goals first|exact YT (by omega)|(have:=TD s; omega)
def both (ds:List Bool)(ps:List Sm)(x:Sm×Sm):Sm×Sm:=goD (fun x p=>(Li p x.1,Li p x.2)) (fun x p=>(x.1,Li x.2 p)) ds ps x
def SV (e:Bool)(a:Sm)(ps:List Sm):Sm:=if e then ps.headD default else a
def restG (e:Bool)(ps:List Sm):List Sm:=if e then ps.tail else ps
def growC (f s:Nat)(a b:Sm)(ps:List Sm):Int:=if ps.length=(gd f s true).2.length+(if(gd f s true).1 then 1 else 0)then(if both (gd f s true).2 (restG (gd f s true).1 ps) (SV (gd f s true).1 a ps,SV (gd f s true).1 a ps)=(a,b)then 0 else 71)else 80
end Go.Proofs.YtibojdgdjhngiaaGreatDoor
end
section
namespace Go.Proofs.YtibojdgdjhngiaaGreatDoor
open Go Go.Gw Go.Ax
theorem HX {α:Type} [Inhabited α]{c:Bool}(o:Option α)(h:c=true):gu c o=o:=by rw[h]; rfl
theorem gu_f {α:Type} [Inhabited α]{c:Bool}(o:Option α)(h:c=false):gu c o=some default:=by rw[h]; rfl
def bothG (f s:Nat)(Lk:Bool)(a:Sm)(ps:List Sm):Sm×Sm:=both (gd f s Lk).2 (restG (gd f s Lk).1 ps) (SV (gd f s Lk).1 a ps,SV (gd f s Lk).1 a ps)
end Go.Proofs.YtibojdgdjhngiaaGreatDoor
end
section
namespace Go.Gw
open Go
theorem idx_of {α:Type}{xs:List α}{i:Nat}{x:α}(h:xs[i]? =some x):idx xs (i:Int)=some x:=by
 unfold idx; rw[if_pos (Int.natCast_nonneg i),Int.toNat_natCast]; exact h
end Go.Gw
end
section
namespace Go.Proofs.YtibojdgdjhngiaaGreatDoor
open Go Go.Gw Go.Ax
def hid (hd:List Int)(i:Nat):Bool:=match hd with| []=>false|h::_=>decide (h=(i:Int))
def cur (v h:Bool)(b:List UInt8):UInt64×UInt64:=if(v&&h)=true then pleaf (0::b)else pleaf b
def nxt (hd:List Int)(i:Nat):List Int:=if hid hd i=true then hd.tail else hd
def lv (v:Bool):List Int→List g_api_Leaf→Nat→List (UInt64×UInt64)
 |_,[],_=> []
 |hd,x::xs,i=>cur v (hid hd i) x.Body::lv v (nxt hd i) xs (i+1)
theorem lv_len (v:Bool): ∀(xs:List g_api_Leaf) (hd:List Int) (i:Nat),(lv v hd xs i).length=xs.length:=by
 intro xs;induction xs with
 |nil=>intro hd i; rfl
 |cons x xs ih=>intro hd i; simp[lv,ih]
theorem YH: ∀(xs:List g_api_Leaf) (hd:List Int) (i:Nat),lv false hd xs i=xs.map fun x=>pleaf x.Body:=by
 intro xs;induction xs with
 |nil=>intro hd i; rfl
 |cons x xs ih=>intro hd i; simp[lv,ih,cur]
theorem Sd {l:Ak}{v:Bool}{a1:Int}(hv:(a1==1)=v){i:Nat}{x:g_api_Leaf}(hx:l.L[i]? =some x)(hb:x.Body.length≤2048){hd:List Int}{out:List (UInt64×UInt64)}(ho:out.length≤100000):
  CG l a1 (i:Int) (hd,out)=some (nxt hd i,out++[cur v (hid hd i) x.Body]):=by
 have hbl:x.Body.length≤600000:=by omega
 have hnil: ∀y:UInt64×UInt64,app 16 out [y]=some (out++[y]):=fun y=>Ib 16 (by simp; omega) (by simp; omega);unfold CG;rw[idx_of hx,Ab];dsimp only;cases hd with
 |nil=>
  have e0:decide ((([]:List Int).length:Int)>0)=false:=rfl;rw[e0,gu_f _ rfl,Ab,Bool.false_and,if_neg Bool.false_ne_true,Ab,Lj hbl,Ab,hnil,Ab];simp[nxt,hid,cur]
 |cons a hd=>
  have e1:idx (a::hd) 0=some a:=rfl;have e0:decide (((a::hd).length:Int)>0)=true:=by first|(simp; done)|(simp; omega)
  rw[e0,HX _ rfl,e1,Ab,Bool.true_and];by_cases ha:a=(i:Int)
  ·have hc:cut (a::hd) 1 ((a::hd).length:Int)=some hd:=by
    have:=LQ (xs:=a::hd) (lo:=1) (hi:=(a::hd).length) (by simp) (by omega);rw[show((1:Nat):Int)=1 from rfl]at this;rw[this]; simp[List.take_of_length_le]
   rw[if_pos (by simpa using ha),hc,Ab,hv];have hh:hid (a::hd) i=true:=by simp[hid,ha]
   cases v with
   |true=>
    rw[if_pos rfl,Og (by simp; omega),Ab,Ab];dsimp only;have:([[0],x.Body]:List (List UInt8)).flatten=0::x.Body:=by simp
    rw[this,Lj (by simp; omega),Ab,hnil,Ab];simp[nxt,hh,cur]
   |false=>
    rw[if_neg (by decide),Ab];dsimp only;rw[Lj hbl,Ab,hnil,Ab];simp[nxt,hh,cur]
  ·rw[if_neg (by simpa using ha),Ab];dsimp only;have hh:hid (a::hd) i=false:=by simp[hid,ha]
   rw[Lj hbl,Ab,hnil,Ab];simp[nxt,hh,cur]
theorem UC {l:Ak}{v:Bool}{a1:Int}(hv:(a1==1)=v)(hb: ∀x∈l.L,x.Body.length≤2048)(hl:l.L.length≤100000): ∀(k i:Nat) (hd:List Int) (out:List (UInt64×UInt64)),i+k=l.L.length→out.length=i→
  ∃hd',Bf (CG l a1) k (i:Int) (hd,out)=some (hd',out++lv v hd (l.L.drop i) i):=by
 intro k;induction k with
 |zero=>
  intro i hd out h ho;have:l.L.drop i=[]:=List.drop_eq_nil_of_le (by omega);exact⟨hd,by rw[this]; simp[Bf,lv]⟩
 |succ k ih=>
  intro i hd out h ho;have hlt:i<l.L.length:=by omega
  have hs:=Sd (l:=l) hv (i:=i) (x:=l.L[i]) (by simp[hlt]) (hb _ (List.getElem_mem hlt)) (hd:=hd) (out:=out) (by omega);obtain⟨hd2,h2⟩:=ih (i+1) (nxt hd i) (out++[cur v (hid hd i) l.L[i].Body]) (by omega) (by simp; omega);refine⟨hd2,?_⟩;simp only[Bf,hs,Ab];rw[show(i:Int)+1=((i+1:Nat):Int)from rfl,h2,List.drop_eq_getElem_cons hlt,lv,List.append_assoc]; rfl
def PB (v:Bool)(l:Ak):List (UInt64×UInt64):=lv v l.Hide l.L 0
theorem N8 {l:Ak}(hl:l.L.length+l.Wait.length≤100000)(h:chk l=0)(v:Bool):Db l (if v=true then 1 else 0)=some (PB v l,0):=by
 obtain⟨h0,h1,h2,h3⟩:=Jb h;have hv:((if v=true then(1:Int)else 0)==1)=v:=by cases v<;>rfl
 obtain⟨hd,he⟩:=UC (l:=l) hv (fun x hx=>Yu h1 x (List.mem_append_left _ hx)) (by omega) l.L.length 0 l.Hide [] (by omega) rfl;have he':Bf (CG l (if v=true then 1 else 0)) l.L.length 0 (l.Hide,[])=_:=he;unfold Db;rw[Kv hl,Ab,h,if_neg (by decide),if_neg (by cases v<;>decide),he',Ab,Ab];simp[PB]
theorem okH_up {a b n:Int}: ∀{xs:List Int},okH xs a n=true→(∀x,xs.head? =some x→b<x)→okH xs b n=true:=by
 intro xs h hb;cases xs with
 |nil=>rfl
 |cons x r=>
  simp only[okH,Bool.and_eq_true,Bool.not_eq_true',decide_eq_false_iff_not]at h⊢;have:=hb x rfl;exact⟨⟨by omega,h.1.2⟩,h.2⟩
theorem QQ {n:Int}{hd:List Int}{i:Nat}(h:okH hd ((i:Int)-1) n=true):okH (nxt hd i) (((i+1:Nat):Int)-1) n=true:=by
 have e1:((i+1:Nat):Int)-1=(i:Int):=by omega
 rw[e1];unfold nxt;cases hd with
 |nil=>simp[hid,okH]
 |cons x r=>
  have h':=h;simp only[okH,Bool.and_eq_true,Bool.not_eq_true',decide_eq_false_iff_not]at h';by_cases e:x=(i:Int)
  ·rw[if_pos (by simp[hid,e]),List.tail_cons,←e]; exact h'.2
  ·rw[if_neg (by simp[hid,e])];exact okH_up h fun y hy=>by simp at hy; subst hy; omega
theorem Se (v:Bool)(l:Ak):(PB v l).length=l.L.length:=lv_len _ _ _ _
end Go.Proofs.YtibojdgdjhngiaaGreatDoor
end
section
namespace Go.Proofs.YtibojdgdjhngiaaGreatDoor
open Go Go.Gw Go.Ax
structure US (l:Ak)(b:List UInt8)(now:Int)(l':Ak)(t:Int):Prop where
 was:chk l=0
 holds:chk l'=0
 body:okBody b=true
 num:okNum now=true
 at_:okNum t=true
 L:l'.L=l.L
 Id:l'.Id=l.Id
 Key:l'.Key=l.Key
 Hide:l'.Hide=l.Hide
 few:l'.Wait.length≤l.Wait.length+1
 there: ∃(j:Nat) (x:g_api_Leaf),findB (l'.L++l'.Wait) b 0=some j∧(l'.L++l'.Wait)[j]? =some x∧x.At=t∧x.Body=b
theorem US.prom {l l':Ak}{b:List UInt8}{now t:Int}(A:US l b now l' t):IG l' t b=IG l t b:=by
 unfold IG; rw[A.Id,A.Key]
theorem US.again {l l':Ak}{b:List UInt8}{now t:Int}(A:US l b now l' t)(hl:l.L.length+l.Wait.length≤90000){then_:Int}(ht:okNum then_=true):
  BX l' b then_=some (l',IG l t b,0):=by
 obtain⟨j,x,h1,h2,h3,h4⟩:=A.there;have:=A.few;rw[←A.prom,←h3];exact Nt (by rw[A.L]; omega) A.holds (by rw[A.body,ht]; rfl) h1 h2
theorem US.merged {l l':Ak}{b:List UInt8}{now t:Int}(A:US l b now l' t)(hl:l.L.length+l.Wait.length≤90000){then_:Int}(ht:okNum then_=true):
  BX (merged l') b then_=some (merged l',IG l t b,0):=by
 obtain⟨j,x,h1,h2,h3,h4⟩:=A.there;have:=A.few;have e:(Go.Proofs.YtibojdgdjhngiaaGreatDoor.merged l').L++(Go.Proofs.YtibojdgdjhngiaaGreatDoor.merged l').Wait=l'.L++l'.Wait:=by simp[Go.Proofs.YtibojdgdjhngiaaGreatDoor.merged]
 have hp:IG (Go.Proofs.YtibojdgdjhngiaaGreatDoor.merged l') t b=IG l' t b:=rfl;rw[←A.prom,←hp,←h3];refine Nt ?_ (Oi A.holds) (by rw[A.body,ht]; rfl) (by rw[e]; exact h1) (by rw[e]; exact h2);have:(Go.Proofs.YtibojdgdjhngiaaGreatDoor.merged l').L.length+(Go.Proofs.YtibojdgdjhngiaaGreatDoor.merged l').Wait.length=l'.L.length+l'.Wait.length:=by simp[Go.Proofs.YtibojdgdjhngiaaGreatDoor.merged]
 rw[this,A.L]; omega
end Go.Proofs.YtibojdgdjhngiaaGreatDoor
end
section
namespace Go.Proofs.YtibojdgdjhngiaaGreatDoor
open Go Go.Gw Go.Ax
def Tot {α:Type}(x:Option α):Prop:= ∃r,x=some r
theorem tot {α:Type}(r:α):Tot (some r):=⟨r,rfl⟩
theorem CI {α β:Type}{x:Option α}{k:α→Option β}(h:Tot x)(hk: ∀a,x=some a→Tot (k a)):Tot (Ad x k):=by
 obtain⟨a,h⟩:=h;rw[h]; exact hk a h
theorem MP {α:Type} [Inhabited α]{b:Bool}{x:Option α}(h:b=true→Tot x):Tot (gu b x):=by
 cases b with
 |true=>exact h rfl
 |false=>exact tot default
theorem MO {α:Type}{b:Bool}{x y:Option α}(h1:b=true→Tot x)(h0:b=false→Tot y):Tot (if b=true then x else y):=by
 cases b with
 |true=>exact h1 rfl
 |false=>exact h0 rfl
theorem AaG {α:Type}{c:Prop} [Decidable c]{x y:Option α}(h1:c→Tot x)(h0: ¬c→Tot y):Tot (if c then x else y):=by
 split
 ·exact h1 ‹_›
 ·exact h0 ‹_›
theorem Mm {σ τ:Type}{step:σ→Option (σ⊕τ)}(μ:σ→Nat)(I:σ→Prop)(Q:τ→Prop)
  (h: ∀s,I s→∃r,step s=some r∧(∀s',r= .inl s'→I s'∧μ s'<μ s)∧∀t,r= .inr t→Q t): ∀n s,I s→μ s<n→∃t,iter step n s=some t∧Q t
 |0,s,_,hn=>by omega
 |n+1,s,hI,hn=>by
  obtain⟨r,h1,h2,h3⟩:=h s hI;cases r with
  |inr t=>exact⟨t,by show Ad (step s) _=_; rw[h1]; rfl,h3 t rfl⟩
  |inl s'=>
   obtain⟨i',lt⟩:=h2 s' rfl;obtain⟨t,e,q⟩:=Mm μ I Q h n s' i' (by omega);exact⟨t,by show Ad (step s) _=_; rw[h1]; exact e,q⟩
theorem Of (s:ByteArray)(i:Nat):1≤(Utf8.decode s i).2:=by
 unfold Utf8.decode;simp only;repeat' split
 all_goals simp
theorem JV:9223372036854775808≤EF:=Nat.le_of_ble_eq_true rfl
theorem Vr (c:Int):Hj c=some (decide (c≤32)||decide (c>126)):=rfl
theorem PJ (s:ByteArray)(b:Bool)(hs:s.size<9223372036854775808):Tot (B5 s b):=by
 unfold B5;refine CI ?_ fun a _=> ?_
 ·obtain⟨t,e,_⟩:=Mm (step:=BH s b) (fun i=>s.size-i) (fun _=>True) (fun _=>True) (fun i _=>by
   unfold BH;by_cases hi:i<s.size
   ·rw[if_pos hi];simp only[bnd,Vr,Ab];split
    ·exact⟨_,rfl,fun s' h=>(by cases h),fun _ _=>trivial⟩
    ·refine⟨_,rfl,fun s' h=> ?_,fun _ _=>trivial⟩;cases h;have:=Of s i;exact⟨trivial,by omega⟩
   ·rw[if_neg hi];exact⟨_,rfl,fun s' h=>(by cases h),fun _ _=>trivial⟩) EF 0 trivial (by have:=JV; omega)
  exact⟨t,e⟩
 ·cases a with
  |inl _=>exact tot _
  |inr _=>exact tot _
theorem XY (s:ByteArray):Tot (Dk s):=by
 unfold Dk;refine CI (MP fun h=> ?_) fun a _=>tot _;simp only[Bool.and_eq_true,decide_eq_true_eq]at h;unfold Cb CA;refine CI (CI (PJ s true (by omega)) fun a _=>tot _) fun a _=>tot _
theorem Vp {s:ByteArray}{b:Bool}(h:Dk s=some b):b=true→eqS s (⟨#[]⟩:ByteArray)=false∧s.size≤64:=by
 unfold Dk at h;obtain⟨x,_,h⟩:=Aa h;have h:=Option.some.inj (A4 h);intro hb;rw[hb]at h;simp only[Bool.and_eq_true,Bool.not_eq_true',decide_eq_true_eq]at h;exact⟨h.1.1,by omega⟩
theorem PQ (c:Int):Tot (Fp c):=tot _
theorem WZ (c:Int):Tot (FO c):=by
 unfold FO;exact CI (MP fun _=>PQ c) fun a _=>tot _
theorem WQ (s:ByteArray):Tot (EM s):=by
 unfold EM;refine MO (fun _=>tot _) fun h=> ?_;simp only[Bool.or_eq_false_iff,decide_eq_false_iff_not]at h;refine CI ?_ fun a _=> ?_
 ·obtain⟨t,e,_⟩:=Mm (step:=D2 s) (fun i=>s.size-i) (fun _=>True) (fun _=>True) (fun i _=>by
   unfold D2;by_cases hi:i<s.size
   ·rw[if_pos hi];have hd:=Of s i;obtain⟨x4,h4⟩:=MP (b:=((i:Int)==(w64 ((s.size:Int)-1)))) fun _=>PQ ((Utf8.decode s i).1:Int);obtain⟨x7,h7⟩:=MP (b:=((i:Int)==0)) fun _=>PQ ((Utf8.decode s i).1:Int);obtain⟨x9,h9⟩:=MP (b:=(!((i:Int)==0))) fun _=>WZ ((Utf8.decode s i).1:Int);simp only[bnd,h4,h7,h9,Ab];split
    ·exact⟨_,rfl,fun s' h=>(by cases h; exact⟨trivial,by omega⟩),fun _ _=>trivial⟩
    ·split
     ·exact⟨_,rfl,fun s' h=>(by cases h),fun _ _=>trivial⟩
     ·split
      ·exact⟨_,rfl,fun s' h=>(by cases h; exact⟨trivial,by omega⟩),fun _ _=>trivial⟩
      ·split
       ·exact⟨_,rfl,fun s' h=>(by cases h),fun _ _=>trivial⟩
       ·exact⟨_,rfl,fun s' h=>(by cases h; exact⟨trivial,by omega⟩),fun _ _=>trivial⟩
   ·rw[if_neg hi];exact⟨_,rfl,fun s' h=>(by cases h),fun _ _=>trivial⟩) EF 0 trivial (by have:=JV; omega)
  exact⟨t,e⟩
 ·cases a with
  |inl _=>exact tot _
  |inr _=>exact tot _
theorem Z3: ∀(l:List UInt8) (c:UInt8),Lib.indexByte l c<l.length
 | [],c=>by simp[Lib.indexByte]
 |b::l,c=>by
  have:=Z3 l c;unfold Lib.indexByte;split
  ·rw[List.length_cons]; omega
  ·split
   ·rw[List.length_cons]; omega
   ·rw[List.length_cons]; omega
theorem Jw (s:ByteArray):s.data.toList.length=s.size:=by rw[Array.length_toList]; rfl
theorem W0 (s:ByteArray): ∃x:Int,Dx s (⟨#[46]⟩:ByteArray)=some x∧ -1≤x∧x<s.size:=by
 unfold Dx B8 BF;simp only[bnd];by_cases h:((((⟨#[46]⟩:ByteArray).size:Int)==0)||eqS (⟨#[46]⟩:ByteArray) s)=true
 ·rw[if_pos h];refine⟨0,rfl,by omega,?_⟩;have h1:eqS (⟨#[46]⟩:ByteArray) s=true:=by
   cases he:eqS (⟨#[46]⟩:ByteArray) s with
   |true=>rfl
   |false=>rw[he]at h; cases h
  have h2: [(46:UInt8)]=s.data.toList:=by simpa[eqS]using h1
  have h3:=Jw s;rw[←h2]at h3;simp only[List.length_cons,List.length_nil]at h3;omega
 ·rw[if_neg h];refine⟨ixbS s 46,rfl,Lib.indexByte_ge _ _,?_⟩;have:=Z3 s.data.toList 46;rw[Jw]at this;exact this
theorem RI {x:Int}(h0: -9223372036854775808≤x)(h1:x≤9223372036854775807):w64 x=x:=by
 unfold w64; omega
theorem Mn {s:ByteArray}{lo hi:Int}(h0:0≤lo)(h1:lo≤hi)(h2:hi≤s.size):UL s lo hi=some (s.extract lo.toNat hi.toNat):=by
 unfold UL; rw[if_pos ⟨h0,h1,h2⟩]
theorem Tr (s:ByteArray)(n k:Int)(hk:k≤64):Tot (C9 s n k):=by
 unfold C9;refine CI ?_ fun x2 hx2=> ?_
 ·refine MO (fun _=>tot _) fun _=> ?_;exact⟨_,rfl⟩
 ·refine MO (fun _=>tot _) fun h=> ?_;have hsz:s.size≤64:=by
   cases hd:decide ((s.size:Int)>k)with
   |true=>rw[if_pos hd]at hx2; cases hx2; cases h
   |false=>simp only[decide_eq_false_iff_not]at hd; omega
  have key: ∃r,Cg (fun(s:(Unit)×Nat) (b0:ByteArray)=>if s.2=0 then Ad (Cc b0 s) fun y=>some (y.2==0,y)else none) (⟨#[46]⟩:ByteArray) s 0 ((),0)=some r:=by
   have hb5: ∀(b0:ByteArray) (s:Unit×Nat),∃z:Nat,Cc b0 s=some ((),z):=fun b0 s=>by
    unfold Cc;obtain⟨y,hy⟩:=WQ b0;rw[hy];simp only[Ab];split
    ·exact⟨1,rfl⟩
    ·exact⟨0,rfl⟩
   unfold Cg;rw[if_neg (by decide)];obtain⟨tt,hit,hq⟩: ∃t,iter (BR (fun(s:(Unit)×Nat) (b0:ByteArray)=>if s.2=0 then Ad (Cc b0 s) fun y=>some (y.2==0,y)else none) (⟨#[46]⟩:ByteArray) 0) EF (s,((),0))=some t∧∀y,t= .inl y→y.2.2=0:=by
    exact Mm (step:=BR (fun(s:(Unit)×Nat) (b0:ByteArray)=>if s.2=0 then Ad (Cc b0 s) fun y=>some (y.2==0,y)else none) (⟨#[46]⟩:ByteArray) 0) (fun z=>z.1.size) (fun z=>z.1.size≤64∧z.2.2=0) (fun t=> ∀y,t= .inl y→y.2.2=0) (fun z hz=>by
     obtain⟨x,h1,h2,h3⟩:=W0 z.1;unfold BR;rw[h1];simp only[Ab];by_cases hx:x<0
     ·rw[if_pos (by simpa using hx)];exact⟨_,rfl,fun s' h=>(by cases h),fun t ht y hy=>by subst hy; cases ht; exact hz.2⟩
     ·rw[if_neg (by simpa using hx)];have hw:w64 (x+0)=x:=by rw[Int.add_zero]; exact RI (by omega) (by omega)
      have hw1:w64 (x+((⟨#[46]⟩:ByteArray).size:Int))=x+1:=RI (x:=x+1) (by omega) (by omega);rw[hw,hw1,Mn (by omega) (by omega) (by omega),Mn (lo:=x+1) (by omega) (by omega) (by omega)];simp only[Ab,if_pos hz.2];obtain⟨zz,hzz⟩:=hb5 (z.1.extract (0:Int).toNat x.toNat) z.2;rw[hzz];simp only[Ab];split
      ·exact⟨_,rfl,fun s' h=>(by cases h),fun t ht y hy=>by subst hy; cases ht⟩
      ·rename_i hne;refine⟨_,rfl,fun s' h=> ?_,fun t ht=>by cases ht⟩;cases h;have e0:zz=0:=by simpa using hne
       refine⟨⟨?_,e0⟩,?_⟩
       ·simp only[ByteArray.size_extract]; omega
       ·simp only[ByteArray.size_extract]; omega) EF (s,((),0)) ⟨hsz,rfl⟩ (by have:=JV; show s.size<EF; omega)
   show Tot (Ad (iter _ EF (s,((),0))) _);rw[hit];cases tt with
   |inr _=>exact tot _
   |inl y3=>
    have h0:=hq y3 rfl;obtain⟨zz,hzz⟩:=hb5 y3.1 y3.2;simp only[Ab,if_pos h0,hzz];exact tot _
  obtain⟨r,hr⟩:=key;show Tot (Ad (Cg _ (⟨#[46]⟩:ByteArray) s 0 ((),0)) _);rw[hr];simp only[Ab];exact AaG (fun _=>tot _) fun _=>tot _
theorem Z4 (s:ByteArray):Tot (Hn s):=CI (Tr s 8 64 (by decide)) fun a _=>tot _
theorem XJ (s:ByteArray):Tot (Da s):=by
 unfold Da;refine CI (Z4 s) fun a _=>CI ?_ fun a _=>tot _;unfold Es;exact MO (fun _=>tot _) fun _=>tot _
theorem PT (s:ByteArray):Tot (B3 s (⟨#[42,46]⟩:ByteArray)):=by
 unfold B3 Bo Bn;refine CI (CI (CI (MP fun h=> ?_) fun a _=>tot _) fun b hb=> ?_) fun a _=>tot _
 ·simp only[decide_eq_true_eq]at h;exact⟨_,Mn (by omega) (by omega) h⟩
 ·refine MO (fun _=>tot _) fun h=> ?_;obtain⟨x,_,hx⟩:=Aa hb;have hx:=Option.some.inj (A4 hx);have hb:b=true:=by simpa using h
  rw[hb]at hx;simp only[Bool.and_eq_true,decide_eq_true_eq]at hx;exact CI ⟨_,Mn (by omega) hx.1 (by omega)⟩ fun a _=>tot _
theorem SH (s:ByteArray):Tot (Cv s):=by
 unfold Cv Et;refine CI (CI (Z4 s) fun a _=>MO (fun _=>tot _) fun _=>CI (PT s) fun b _=>CI (MP fun _=>Tr _ 7 62 (by decide)) fun c _=>tot _) fun a _=>CI ?_ fun a _=>tot _;unfold Es;exact MO (fun _=>tot _) fun _=>tot _
end Go.Proofs.YtibojdgdjhngiaaGreatDoor
end
section
namespace Go.Proofs.YtibojdgdjhngiaaGreatDoor
open Go Go.Gw Go.Ax
theorem Vl {α:Type}{x:Option α}{d:α}(h:Tot x):x=some (x.getD d):=by
 obtain⟨r,h⟩:=h;rw[h]; rfl
def textV (s:ByteArray):Bool:=(Dk s).getD false
def nameV (s:ByteArray):Int:=(Da s).getD 0
def patV (s:ByteArray):Int:=(Cv s).getD 0
theorem Vq (s:ByteArray):Dk s=some (textV s):=Vl (XY s)
theorem Ts (s:ByteArray):Da s=some (nameV s):=Vl (XJ s)
theorem Wo (s:ByteArray):Cv s=some (patV s):=Vl (SH s)
theorem SS {s:ByteArray}(h:textV s=true):eqS s (⟨#[]⟩:ByteArray)=false∧s.size≤64:=Vp (Vq s) h
theorem QT {s:ByteArray}{n k:Int}(h:C9 s n k=some true):(s.size:Int)≤k:=by
 unfold C9 at h;obtain⟨x,hx,h⟩:=Aa h;cases hd:decide ((s.size:Int)>k)with
 |true=>
  rw[if_pos hd]at hx;cases hx;cases h
 |false=>simp only[decide_eq_false_iff_not]at hd; omega
theorem WX {s:ByteArray}(h:Hn s=some true):s.size≤64:=by
 obtain⟨x,hx,h⟩:=Aa h;cases h;have:=QT hx;omega
theorem QA {b:Bool}{r:Int}(h:Es b=some r)(h0:r=0):b=true:=by
 cases b with
 |true=>rfl
 |false=>
  have h2:(110:Int)=r:=Option.some.inj h;omega
theorem Uy {s:ByteArray}(h:nameV s=0):s.size≤64:=by
 have e:=Ts s;rw[h]at e;obtain⟨x,hx,e⟩:=Aa e;obtain⟨y,hy,e⟩:=Aa e;cases e;have:=QA hy rfl;rw[this]at hx;exact WX hx
theorem NM {s:ByteArray}{c:ByteArray×Bool}(h:B3 s (⟨#[42,46]⟩:ByteArray)=some c)(h1:c.2=true):c.1.size+2=s.size:=by
 unfold B3 Bo Bn at h;obtain⟨d,hd,h⟩:=Aa h;have h:=Option.some.inj h;subst h;obtain⟨p,hp,hd⟩:=Aa hd;cases p with
 |false=>
  have hd:=Option.some.inj hd;subst hd;cases h1
 |true=>
  obtain⟨q,hq,hd⟩:=Aa hd;have hd:=Option.some.inj hd;subst hd;unfold UL at hq;split at hq
  ·rename_i hc;have hq:=Option.some.inj hq;have e2:(⟨#[42,46]⟩:ByteArray).size=2:=rfl;rw[e2]at hq hc;show q.size+2=s.size;rw[←hq,ByteArray.size_extract];omega
  ·cases hq
theorem Wn {s:ByteArray}(h:patV s=0):s.size≤64:=by
 have e:=Wo s;rw[h]at e;obtain⟨x,hx,e⟩:=Aa e;obtain⟨y,hy,e⟩:=Aa e;cases e;have h1:=QA hy rfl;unfold Et at hx;obtain⟨b,hb,hx⟩:=Aa hx;cases b with
 |true=>exact WX hb
 |false=>
  rw[if_neg (by decide)]at hx;obtain⟨c,hc,hx⟩:=Aa hx;obtain⟨d,hd,hx⟩:=Aa hx;have hx:=Option.some.inj hx;subst hx;have h2:(c.2&&d)=true:=h1;simp only[Bool.and_eq_true]at h2;rw[h2.1,h2.2]at hd;have h3:=QT hd;have h4:=NM hc h2.1;omega
def Nc (right:ByteArray→Int):List ByteArray→List ByteArray→Bool
 |_,[]=>true
 |met,s::l=> !(met.any (eqS s))&&right s==0&&Nc right (met++[s]) l
def Ju (met:List ByteArray):List (ByteArray×Bool):=met.map fun s=>(s,true)
theorem Na: ∀(met:List ByteArray) (s:ByteArray) (i:Nat),(lkI (Ju met) s i).isSome=met.any (eqS s)∧∀p,lkI (Ju met) s i=some p→p.2=true
 | [],s,i=>⟨rfl,fun p h=>by cases h⟩
 |a::met,s,i=>by
  have ih:=Na met s (i+1);rw[List.any_cons];cases h:eqS s a with
  |true=>
   refine⟨?_,fun p hp=> ?_⟩
   ·show(if eqS s a=true then some (i,true)else lkI (Ju met) s (i+1)).isSome=_;rw[if_pos h]; rfl
   ·have hp:(if eqS s a=true then some (i,true)else lkI (Ju met) s (i+1))=some p:=hp;rw[if_pos h]at hp;cases hp; rfl
  |false=>
   refine⟨?_,fun p hp=> ?_⟩
   ·show(if eqS s a=true then some (i,true)else lkI (Ju met) s (i+1)).isSome=_;rw[if_neg (by rw[h]; decide)]; exact ih.1
   ·have hp:(if eqS s a=true then some (i,true)else lkI (Ju met) s (i+1))=some p:=hp;rw[if_neg (by rw[h]; decide)]at hp;exact ih.2 p hp
theorem WL (met:List ByteArray)(s:ByteArray):lkB (Ju met) s=met.any (eqS s):=by
 have h:=Na met s 0;unfold lkB;rw[←h.1];cases e:lkI (Ju met) s 0 with
 |none=>rfl
 |some p=>rw[Option.map_some,Option.getD_some,h.2 p e]; rfl
theorem YJ (met:List ByteArray)(s:ByteArray)(h:met.any (eqS s)=false):(lkI (Ju met) s 0).isNone=true:=by
 have h1:=(Na met s 0).1;rw[h]at h1;cases e:lkI (Ju met) s 0 with
 |none=>rfl
 |some p=>rw[e]at h1; cases h1
theorem Abw (right:ByteArray→Int)(mr:ByteArray→Option Int)(hr: ∀s,mr s=some (right s)): ∀(l met:List ByteArray) (i:Int),
  GL (fun(i1:Int) (x2:ByteArray) (s1:List (ByteArray×Bool))=>Ad (gu (!(lkB s1 x2)) (mr x2)) fun x3=>if((lkB s1 x2)||(x3 !=0))=true then some (.inr false)else if(lkI s1 x2 0).isNone=true then some (.inl (s1++[(x2,true)]))else none) l i (Ju met)
   =some (if Nc right met l=true then .inl (Ju (met++l))else .inr false)
 | [],met,i=>by simp[GL,Nc]
 |s::l,met,i=>by
  have ih:=Abw right mr hr l (met++[s]) (i+1);have hm':=WL met s;simp only[GL,hr]at ih⊢;rw[hm'];cases hm:met.any (eqS s)with
  |true=>simp[gu,Nc,hm]
  |false=>
   simp only[gu,Bool.not_false,cond_true,Ab,Bool.false_or];cases h0:right s==0 with
   |false=>
    have h1:(right s !=0)=true:=by simp only[bne,h0,Bool.not_false]
    rw[if_pos h1];simp[Nc,hm,h0]
   |true=>
    have h1:(right s !=0)=false:=by simp only[bne,h0,Bool.not_true]
    rw[h1];simp only[Bool.false_eq_true,if_false,YJ met s hm,if_true,Ab];have e:Ju met++[(s,true)]=Ju (met++[s]):=by simp[Ju]
    rw[e];simp only[gu]at ih;rw[ih];simp[Nc,hm,h0]
def listV (right:ByteArray→Int)(l:List ByteArray)(a b:Int):Bool:=Nc right [] l&&decide ((l.length:Int)≥a)&&decide ((l.length:Int)≤b)
theorem WO (l:List ByteArray)(a b:Int):D7 l a b=some (listV patV l a b):=by
 unfold D7;have h:=Abw patV Cv Wo l [] 0;show Ad (GL _ l 0 (Ju [])) _=_;unfold DT;rw[h];unfold listV;cases Nc patV [] l<;>rfl
theorem WN (l:List ByteArray)(a b:Int):D6 l a b=some (listV nameV l a b):=by
 unfold D6;have h:=Abw nameV Da Ts l [] 0;show Ad (GL _ l 0 (Ju [])) _=_;unfold DS;rw[h];unfold listV;cases Nc nameV [] l<;>rfl
theorem Q1 {right:ByteArray→Int}: ∀{l met:List ByteArray},Nc right met l=true→∀s∈l,right s=0
 | [],met,_,s,hs=>by cases hs
 |a::l,met,h,s,hs=>by
  simp only[Nc,Bool.and_eq_true,beq_iff_eq]at h;rcases List.mem_cons.1 hs with e|hs
  ·rw[e]; exact h.1.2
  ·exact Q1 h.2 s hs
def numB (n:Int):Bool:=decide (n≥0)&&decide (n≤1099511627776)
def sigB (s:g_api_Sig):Bool:=decide ((Ru s.E s.S).toNat<1152921504606845789)
def promBC (p:g_api_Promise):Bool:=numB p.Log&&numB p.At&&decide ((Ru p.Leaf.1 p.Leaf.2).toNat<2305843009213693951)&&sigB p.Sig
theorem N2 (n:Int):De n=some (numB n):=rfl
theorem QC (s:g_api_Sig):EW s=some (sigB s):=by
 unfold EW sigB;simp only[bnd,Option.some.injEq,decide_eq_decide];omega
theorem max_eq (a b:UInt64):BU [a,b]=some (Ru a b):=by
 have e1:A2 [a,b] (a,1)=some (.inl (Ru a b,2)):=rfl;have e2:A2 [a,b] (Ru a b,2)=some (.inr (Ru a b)):=rfl;have h: ∀n,iter (A2 [a,b]) (n+1+1) (a,1)=some (Ru a b):=fun n=>by
  simp only[iter,e1,Ab,e2]
 have hf:iter (A2 [a,b]) EF (a,1)=some (Ru a b):=h 18446744073709551614;have i0:idx [a,b] 0=some a:=rfl;have d0:decide ((([a,b]:List UInt64).length:Int)<1)=false:=rfl;unfold BU;rw[d0,i0];simp only[Bool.false_eq_true,if_false,Ab,hf]
theorem gu_b {c v:Bool}:gu c (some v)=some (c&&v):=by cases c<;>rfl
theorem TE {α:Type} [Inhabited α](o:Option α):gu true o=o:=rfl
theorem Z9 {α:Type} [Inhabited α](o:Option α):gu false o=some default:=rfl
theorem Kx {α β:Type}(a:α)(k:α→β):bnd a k=k a:=rfl
theorem RV (p:g_api_Promise):EA p=some (promBC p):=by
 unfold EA promBC;simp only[N2,max_eq,QC,gu_b,Kx,Ab];have e: ∀x:UInt64,decide ((x.toNat:Int)<2305843009213693951)=decide (x.toNat<2305843009213693951):=fun x=>by
  rw[decide_eq_decide]; omega
 simp only[e];cases numB p.Log with
 |false=>simp only[Bool.false_and,Z9,Ab]
 |true=>
  cases numB p.At with
  |false=>simp only[Bool.false_and,Bool.true_and,Z9,Ab]
  |true=>
   simp only[Bool.true_and,TE,Ab];cases decide ((Ru p.Leaf.1 p.Leaf.2).toNat<2305843009213693951)<;>simp only[Bool.false_and,Bool.true_and]
def promsB:Int→List g_api_Promise→Bool
 |_,[]=>true
 |last,p::l=>promBC p&& !(decide (p.Log≤last))&&promsB p.Log l
theorem Tk: ∀(l:List g_api_Promise) (i last:Int),∃z:Int,GL Ch l i last=some (if promsB last l=true then .inl z else .inr false)
 | [],i,last=>⟨last,rfl⟩
 |p::l,i,last=>by
  obtain⟨z,ih⟩:=Tk l (i+1) p.Log;refine⟨z,?_⟩;have e:Ch i p last=some (if(promBC p&& !(decide (p.Log≤last)))=true then .inl p.Log else .inr false):=by
   unfold Ch;rw[RV,Ab];cases promBC p<;>cases decide (p.Log≤last)<;>rfl
  show Ad (Ch i p last) _=_;rw[e];cases h:promBC p&& !(decide (p.Log≤last))with
  |false=>
   simp[promsB,h]
  |true=>
   rw[if_pos rfl,Ab];show GL Ch l (i+1) p.Log=_;rw[ih];simp[promsB,h]
def formB (c:g_api_Cert):Bool:=promsB (-1) c.Proms&&(numB c.Serial&&numB c.From&&numB c.Until&&decide (c.From<c.Until))&&(textV c.Issuer&&(!((c.Key.toNat:Int)==0))&&decide ((c.Key.toNat:Int)<2305843009213691579)&&decide ((c.Proms.length:Int)≤4)&&sigB c.Sig)&&(if c.Ca=true then textV c.Subject&&((c.Names.length:Int)==0)&&decide (c.Depth≥0)&&decide (c.Depth≤4)&&listV patV c.Permit 0 8 else eqS c.Subject (⟨#[]⟩:ByteArray)&&listV nameV c.Names 1 8&&(c.Depth==0)&&((c.Permit.length:Int)==0))
theorem W6 (c:g_api_Cert):F8 c=some (formB c):=by
 obtain⟨z,hz⟩:=Tk c.Proms 0 (-1);unfold F8 formB;rw[hz];cases promsB (-1) c.Proms with
 |false=>rfl
 |true=>
  rw[if_pos rfl,Ab];simp only[N2,Vq,QC,WO,WN,gu_b,Kx,Ab,Bool.true_and];have e1:decide (c.From≥c.Until)= !decide (c.From<c.Until):=by
   rw[←decide_not,decide_eq_decide]; omega
  have e2:decide ((c.Key.toNat:Int)≥2305843009213691579)= !decide ((c.Key.toNat:Int)<2305843009213691579):=by
   rw[←decide_not,decide_eq_decide]; omega
  have e3:decide ((c.Proms.length:Int)>4)= !decide ((c.Proms.length:Int)≤4):=by
   rw[←decide_not,decide_eq_decide]; omega
  rw[e1,e2,e3];generalize numB c.Serial=a1;generalize numB c.From=a2;generalize numB c.Until=a3;generalize decide (c.From<c.Until)=a4;generalize textV c.Issuer=b1;generalize ((c.Key.toNat:Int)==0)=b2;generalize decide ((c.Key.toNat:Int)<2305843009213691579)=b3;generalize decide ((c.Proms.length:Int)≤4)=b4;generalize sigB c.Sig=b5;cases a1<;>cases a2<;>cases a3<;>cases a4<;>try rfl
  all_goals cases b1<;>cases b2<;>cases b3<;>cases b4<;>cases b5<;>try rfl
  cases c.Ca with
  |true=>
   show some _=some _;generalize listV patV c.Permit 0 8=d1;generalize textV c.Subject=d2;generalize ((c.Names.length:Int)==0)=d3;generalize decide (c.Depth≥0)=d4;generalize decide (c.Depth≤4)=d5;cases d1<;>cases d2<;>cases d3<;>cases d4<;>cases d5<;>rfl
  |false=>
   show some _=some _;generalize listV nameV c.Names 1 8=d1;generalize eqS c.Subject (⟨#[]⟩:ByteArray)=d2;cases d1<;>cases d2<;>rfl
end Go.Proofs.YtibojdgdjhngiaaGreatDoor
end
section
namespace Go.Proofs.YtibojdgdjhngiaaGreatDoor
open Go Go.Gw Go.Ax
theorem On {α:Type}(b:Nat){xs ys:List α}(h:(xs.length+ys.length)*b≤140737488355328)(h1:xs.length+ys.length≤140737488355328):app b xs ys=some (xs++ys):=by unfold app; rw[if_pos ⟨h,h1⟩]
theorem SE {α:Type}(b:Nat){ys:List α}(h:ys.length*b≤140737488355328)(h1:ys.length≤140737488355328):app b [] ys=some ys:=by
 rw[On b (by simpa using h) (by simpa using h1)]; rfl
theorem cut_tl {α:Type}(x:α)(xs:List α):cut (x::xs) 1 (((x::xs).length:Nat):Int)=some xs:=by
 unfold cut;rw[if_pos ⟨by omega,by rw[List.length_cons]; omega,by omega⟩];show some (List.take _ xs)=_;rw[List.take_of_length_le];simp
def be8 (n:Int):List UInt8:=[toB (CN n 56),toB (CN n 48),toB (CN n 40),toB (CN n 32),toB (CN n 24),toB (CN n 16),toB (CN n 8),toB (CN n 0)]
def Q2:List UInt8→Bool
 | []=>false
 | [_]=>true
 |a::b::l=>decide (((a::b::l).length:Int)≤8)&&((a.toNat:Int) !=((toB (-((shrB b 7).toNat:Int))).toNat:Int))
def Zt:List UInt8→List UInt8
 | []=> []
 | [a]=> [a]
 |a::b::l=>if Q2 (a::b::l)=true then a::b::l else Zt (b::l)
theorem PC (l:List UInt8):Fh l=some (Q2 l):=by
 match l with
 | []=>rfl
 | [a]=>rfl
 |a::b::l=>
  unfold Fh;have e0:(((a::b::l).length:Int)==0)=false:=by simp only[beq_eq_false_iff_ne,List.length_cons]; omega
  have e1:(((a::b::l).length:Int)==1)=false:=by simp only[beq_eq_false_iff_ne,List.length_cons]; omega
  have i0:idx (a::b::l) 0=some a:=rfl;have i1:idx (a::b::l) 1=some b:=rfl;rw[e0,e1,i0,i1];simp only[Bool.false_eq_true,if_false,Ab,Kx,Q2];cases decide (((a::b::l).length:Int)≤8)<;>rfl
theorem Vk: ∀(n:Nat) (l:List UInt8),l.length<n→iter CK n l=some (Zt l)
 |0,l,h=>by omega
 |n+1,l,h=>by
  show Ad (CK l) _=_;match l with
  | []=>rfl
  | [a]=>rfl
  |a::b::l=>
   have ih:=Vk n (b::l) (by simp only[List.length_cons]at h⊢; omega);have e0:decide (((a::b::l).length:Int)>1)=true:=by simp only[decide_eq_true_eq,List.length_cons]; omega
   cases hl:Q2 (a::b::l)with
   |true=>
    have e:CK (a::b::l)=some (.inr (a::b::l)):=by
     unfold CK;rw[e0,if_pos rfl,PC,hl];rfl
    rw[e];simp[Zt,hl]
   |false=>
    have e:CK (a::b::l)=some (.inl (b::l)):=by
     unfold CK;rw[e0,if_pos rfl,PC,hl,cut_tl];rfl
    rw[e];simp only[Ab];rw[ih];simp[Zt,hl]
theorem O2: ∀(l:List UInt8),(Zt l).length≤l.length
 | []=>Nat.le_refl _
 | [a]=>Nat.le_refl _
 |a::b::l=>by
  have ih:=O2 (b::l);unfold Zt;split
  ·exact Nat.le_refl _
  ·rw[List.length_cons]; omega
def P7 (n:Int):g_api_Item:=⟨2,Zt (be8 n),[]⟩
theorem be8_eq (n:Int):Bf (H8 n) 8 0 (0,0,0,0,0,0,0,0)=some (toB (CN n 56),toB (CN n 48),toB (CN n 40),toB (CN n 32),toB (CN n 24),toB (CN n 16),toB (CN n 8),toB (CN n 0)):=rfl
theorem TU {l:List UInt8}(h:l.length≤140737488355328):A1 l=some l:=by
 unfold A1;rw[SE 1 (by omega) h]; rfl
theorem WY (n:Int):D5 n=some (P7 n):=by
 have h8:(be8 n).length=8:=rfl;have h:=O2 (be8 n);unfold D5;rw[be8_eq];show Ad (Ad (iter CK EF (be8 n)) _) _=_;rw[Vk EF (be8 n) (by rw[h8]; have:=JV; omega)];show Ad (A1 (Zt (be8 n))) _=_;rw[TU (by omega)];rfl
def P9 (x:UInt64):g_api_Item:=P7 (w64 (x.toNat:Int))
theorem TX (x:UInt64):DC x=some (P9 x):=by unfold DC; rw[WY]; rfl
def Kg (s:ByteArray):g_api_Item:=⟨12,s.data.toList,[]⟩
def SB (v:Bool):g_api_Item:=⟨1,[if v=true then 255 else 0],[]⟩
def SY (l:List g_api_Item):g_api_Item:=⟨48,[],l⟩
theorem O3 {s:ByteArray}(h:s.size≤140737488355328):GD s=some (Kg s):=by
 unfold GD;rw[SE 1 (by rw[Jw]; omega) (by rw[Jw]; exact h)]; rfl
theorem Zn (v:Bool):JU v=some (SB v):=by cases v<;>rfl
theorem Kj {l:List g_api_Item}(h:l.length≤1000000):Ez l=some (SY l):=by
 unfold Ez A5;rw[SE 56 (by omega) (by omega)]; rfl
theorem SP: ∀(l:List ByteArray) (i:Int) (a:List g_api_Item),(∀s∈l,s.size≤64)→a.length+l.length≤1000000→Cx Bh l i a=some (a++l.map Kg)
 | [],i,a,_,_=>by simp[Cx]
 |s::l,i,a,h,hn=>by
  rw[List.length_cons]at hn;have ih:=SP l (i+1) (a++[Kg s]) (fun x hx=>h x (List.mem_cons_of_mem _ hx)) (by rw[List.length_append]; show a.length+1+_≤_; omega);have e:Bh i s a=some (a++[Kg s]):=by
   unfold Bh;rw[O3 (by have:=h s List.mem_cons_self; omega),Ab,On 56 (by show(a.length+1)*56≤_; omega) (by show a.length+1≤_; omega)];rfl
  show Ad (Bh i s a) _=_;rw[e];show Cx _ l (i+1) (a++[Kg s])=_;rw[ih];simp
def MR (l:List ByteArray):g_api_Item:=SY (l.map Kg)
theorem SQ {l:List ByteArray}(h: ∀s∈l,s.size≤64)(hn:l.length≤1000000):BY l=some (MR l):=by
 unfold BY;rw[SP l 0 [] h (by simpa using hn)];simp only[Ab,List.nil_append];rw[Kj (by rw[List.length_map]; exact hn)]; rfl
def Pp (p:g_api_Promise):g_api_Item:=SY [P7 p.Log,P7 p.At,P9 p.Leaf.1,P9 p.Leaf.2,P9 p.Sig.E,P9 p.Sig.S]
theorem Yn (p:g_api_Promise):F9 p=some (Pp p):=by
 unfold F9;simp only[WY,TX,Ab];rw[Kj (by simp)]; rfl
theorem Tj: ∀(l:List g_api_Promise) (i:Int) (a:List g_api_Item),a.length+l.length≤1000000→Cx AY l i a=some (a++l.map Pp)
 | [],i,a,_=>by simp[Cx]
 |s::l,i,a,hn=>by
  rw[List.length_cons]at hn;have ih:=Tj l (i+1) (a++[Pp s]) (by rw[List.length_append]; show a.length+1+_≤_; omega);have e:AY i s a=some (a++[Pp s]):=by
   unfold AY;rw[Yn,Ab,On 56 (by show(a.length+1)*56≤_; omega) (by show a.length+1≤_; omega)];rfl
  show Ad (AY i s a) _=_;rw[e];show Cx _ l (i+1) (a++[Pp s])=_;rw[ih];simp
def Tl (l:List g_api_Promise):g_api_Item:=SY (l.map Pp)
theorem Wb {l:List g_api_Promise}(hn:l.length≤1000000):BO l=some (Tl l):=by
 unfold BO;rw[Tj l 0 [] (by simpa using hn)];simp only[Ab,List.nil_append];rw[Kj (by rw[List.length_map]; exact hn)]; rfl
structure SG (c:g_api_Cert):Prop where
 issuer:c.Issuer.size≤64
 subject:c.Subject.size≤64
 names: ∀s∈c.Names,s.size≤64
 few:c.Names.length≤8
 permit: ∀s∈c.Permit,s.size≤64
 fewP:c.Permit.length≤8
 proms:c.Proms.length≤4
def We (c:g_api_Cert):g_api_Item:=SY [P7 c.Serial,Kg c.Issuer,Kg c.Subject,P9 c.Key,MR c.Names,P7 c.From,P7 c.Until,SB c.Ca,P7 c.Depth,MR c.Permit]
def Me (c:g_api_Cert):g_api_Item:=SY [We c,Tl c.Proms]
def wholeI (c:g_api_Cert):g_api_Item:=SY [Me c,SY [P9 c.Sig.E,P9 c.Sig.S]]
theorem Wd {c:g_api_Cert}(h:SG c):Hr c=some (We c):=by
 unfold Hr;have h1:=h.issuer; have h2:=h.subject; have h3:=h.few; have h4:=h.fewP;simp only[WY,TX,Zn,O3 (s:=c.Issuer) (by omega),O3 (s:=c.Subject) (by omega),SQ h.names (by omega),SQ h.permit (by omega),Ab];rw[Kj (by simp)]; rfl
theorem Zo {c:g_api_Cert}(h:SG c):HQ c=some (Me c):=by
 unfold HQ;have h1:=h.proms;rw[Wd h,Wb (by omega)];simp only[Ab];rw[Kj (by simp)]; rfl
theorem Va {c:g_api_Cert}(h:SG c):G1 c=some (wholeI c):=by
 unfold G1;rw[Zo h,TX,TX];simp only[Ab];rw[Kj (by simp)];simp only[Ab];rw[Kj (by simp)]; rfl
structure Form (c:g_api_Cert):Prop where
 proms:promsB (-1) c.Proms=true
 serial:numB c.Serial=true
 frm:numB c.From=true
 til:numB c.Until=true
 lt:c.From<c.Until
 issuer:textV c.Issuer=true
 key0:(c.Key.toNat:Int)≠0
 keyQ:(c.Key.toNat:Int)<2305843009213691579
 nproms:(c.Proms.length:Int)≤4
 sig:sigB c.Sig=true
 ca:c.Ca=true→textV c.Subject=true∧c.Names=[]∧0≤c.Depth∧c.Depth≤4∧listV patV c.Permit 0 8=true
 leaf:c.Ca=false→c.Subject=(⟨#[]⟩:ByteArray)∧listV nameV c.Names 1 8=true∧c.Depth=0∧c.Permit=[]
theorem W7 {c:g_api_Cert}(h:formB c=true):Form c:=by
 unfold formB at h;simp only[Bool.and_eq_true,decide_eq_true_eq,Bool.not_eq_true',beq_eq_false_iff_ne]at h;obtain⟨⟨⟨h1,⟨⟨h2,h3⟩,h4⟩,h5⟩,⟨⟨⟨h6,h7⟩,h8⟩,h9⟩,h10⟩,h11⟩:=h;refine⟨h1,h2,h3,h4,h5,h6,h7,h8,h9,h10,fun e=> ?_,fun e=> ?_⟩
 ·rw[if_pos e]at h11;simp only[Bool.and_eq_true,decide_eq_true_eq,beq_iff_eq]at h11;obtain⟨⟨⟨⟨a,b⟩,d⟩,f⟩,g⟩:=h11;exact⟨a,List.eq_nil_of_length_eq_zero (by omega),by omega,f,g⟩
 ·rw[e]at h11;simp only[Bool.false_eq_true,if_false,Bool.and_eq_true,decide_eq_true_eq,beq_iff_eq]at h11;obtain⟨⟨⟨a,b⟩,d⟩,f⟩:=h11;exact⟨PO.1 a,b,d,List.eq_nil_of_length_eq_zero (by omega)⟩
theorem Q0 {right:ByteArray→Int}{l:List ByteArray}{a b:Int}(h:listV right l a b=true):a≤l.length∧(l.length:Int)≤b∧∀s∈l,right s=0:=by
 unfold listV at h;simp only[Bool.and_eq_true,decide_eq_true_eq]at h;exact⟨by omega,h.2,Q1 h.1.1⟩
theorem Form.sized {c:g_api_Cert}(h:Form c):SG c:=by
 have hi:=(SS h.issuer).2;have hp:=h.nproms;cases hc:c.Ca with
 |true=>
  obtain⟨h1,h2,h3,h4,h5⟩:=h.ca hc;obtain⟨l1,l2,l3⟩:=Q0 h5;exact⟨hi,(SS h1).2,(by rw[h2]; intro s hs; cases hs),by rw[h2]; decide,fun s hs=>Wn (l3 s hs),by omega,by omega⟩
 |false=>
  obtain⟨h1,h2,h3,h4⟩:=h.leaf hc;obtain⟨l1,l2,l3⟩:=Q0 h2;exact⟨hi,by rw[h1]; decide,fun s hs=>Uy (l3 s hs),by omega,(by rw[h4]; intro s hs; cases hs),by rw[h4]; decide,by omega⟩
end Go.Proofs.YtibojdgdjhngiaaGreatDoor
end
section
namespace Go.Proofs.YtibojdgdjhngiaaGreatDoor
open Go Go.Gw Go.Ax
theorem Ab3 (t:Int):Fu t=some (if t=1 then(⟨1,305⟩,true)else if t=2 then(⟨2,149⟩,true)else if t=4 then(⟨4,306⟩,true)else if t=12 then(⟨12,307⟩,true)else if t=48 then(⟨48,310⟩,true)else(⟨0,-1⟩,false)):=by
 by_cases h1:t=1
 ·subst h1; rfl
 by_cases h2:t=2
 ·subst h2; rfl
 by_cases h3:t=4
 ·subst h3; rfl
 by_cases h4:t=12
 ·subst h4; rfl
 by_cases h5:t=48
 ·subst h5; rfl
 rw[if_neg h1,if_neg h2,if_neg h3,if_neg h4,if_neg h5];have b: ∀(k:Int),t≠k→((k==t)=true)=False:=fun k h=>by simp only[beq_iff_eq,eq_iff_iff,iff_false]; exact fun e=>h e.symm
 have g:GM (An tab_2) tab_2.length 0 t=some (.inl t):=by
  have i: ∀(j:Nat) (k:C4),idx tab_2 (j:Int)=some k→t≠k.tag_→An tab_2 (j:Int) t=some (.inl t):=fun j k e hk=>by
   have hb:(k.tag_==t)=false:=by simp only[beq_eq_false_iff_ne]; exact fun e=>hk e.symm
   unfold An H7;rw[e];simp only[Ab,hb,Bool.false_eq_true,if_false]
  show Ad (An tab_2 ((0:Nat):Int) t) _=_;rw[i 0 ⟨1,305⟩ rfl h1];show Ad (An tab_2 ((1:Nat):Int) t) _=_;rw[i 1 ⟨2,149⟩ rfl h2];show Ad (An tab_2 ((2:Nat):Int) t) _=_;rw[i 2 ⟨4,306⟩ rfl h3];show Ad (An tab_2 ((3:Nat):Int) t) _=_;rw[i 3 ⟨12,307⟩ rfl h4];show Ad (An tab_2 ((4:Nat):Int) t) _=_;rw[i 4 ⟨48,310⟩ rfl h5];rfl
 unfold Fu Bd;rw[g];rfl
def Nh (t:Int):Bool:=t==1||t==2||t==4||t==12||t==48
def boolB (b:List UInt8):Bool:=match b with| [x]=>x==0||x==255|_=>false
def LI (b:List UInt8):Bool:=b.all fun c=>decide (32≤c.toNat)&&decide (c.toNat≤126)
def WU (t:Int)(b:List UInt8):Bool:=if t=1 then boolB b else if t=2 then Q2 b else if t=4 then true else if t=12 then LI b else if t=48 then b.isEmpty else false
theorem WT (b:List UInt8):ET b=some (boolB b):=by
 match b with
 | []=>rfl
 | [x]=>
  unfold ET;have e1:((([x]:List UInt8).length:Int)==1)=true:=rfl;have e2:idx [x] 0=some x:=rfl;rw[e1,e2];have e3: ∀n:UInt8,((x.toNat:Int)==n.toNat)=(x==n):=fun n=>by
   rw[Bool.eq_iff_iff,beq_iff_eq,beq_iff_eq,←UInt8.toNat_inj];omega
  have z0:((x.toNat:Int)==0)=(x==0):=e3 0;have z1:((x.toNat:Int)==255)=(x==255):=e3 255;simp only[TE,Ab,Kx,z0,z1,Bool.true_and];show _=some (x==0||x==255);cases h:x==0 with
  |true=>rfl
  |false=>simp only[Bool.not_false,TE,Ab,Kx,z1,Bool.false_or]
 |x::y::l=>
  unfold ET;have e1:(((x::y::l).length:Int)==1)=false:=by simp only[beq_eq_false_iff_ne,List.length_cons]; omega
  rw[e1];rfl
theorem Z5: ∀(a b:List UInt8),∃r,GM (Az (a++b)) b.length (a.length:Int) ()=some r∧(r= .inl ()↔LI b=true)∧∀i,r= .inr i→0≤i
 |a,[]=>⟨.inl (),rfl,by simp[LI],fun i h=>by cases h⟩
 |a,c::b=>by
  have hi:idx (a++c::b) (a.length:Int)=some c:=by
   unfold idx;rw[if_pos (by omega)];simp
  obtain⟨r,h1,h2,h3⟩:=Z5 (a++[c]) b;have ec:(decide ((c.toNat:Int)<32)||decide ((c.toNat:Int)>126))= !(decide (32≤c.toNat)&&decide (c.toNat≤126)):=by
   rw[Bool.eq_iff_iff];simp only[Bool.or_eq_true,Bool.not_eq_true',Bool.and_eq_false_iff,decide_eq_true_eq,decide_eq_false_iff_not];omega
  have st:Az (a++c::b) (a.length:Int) ()=some (if(decide (32≤c.toNat)&&decide (c.toNat≤126))=true then .inl ()else .inr (a.length:Int)):=by
   unfold Az F3;rw[hi];simp only[Ab,Kx,ec];cases decide (32≤c.toNat)&&decide (c.toNat≤126)<;>rfl
  show∃r,Ad (Az (a++c::b) (a.length:Int) ()) _=some r∧_;rw[st];cases hc:decide (32≤c.toNat)&&decide (c.toNat≤126)with
  |false=>exact⟨.inr (a.length:Int),rfl,by simp[LI,hc],fun i h=>(by cases h; omega)⟩
  |true=>
   refine⟨r,?_,?_,h3⟩
   ·show GM (Az (a++c::b)) b.length ((a.length:Int)+1) ()=some r;rw[←h1];simp
   ·rw[h2];simp only[LI,List.all_cons,hc,Bool.true_and]
theorem WS (b:List UInt8):F4 b=some (LI b):=by
 obtain⟨r,h1,h2,h3⟩:=Z5 [] b;unfold F4 Bp BB;have h1:GM (Az b) b.length 0 ()=some r:=h1;rw[h1];cases r with
 |inl u=>rw[h2.1 rfl]; rfl
 |inr i=>
  have hp:LI b=false:=by
   cases h:LI b with
   |false=>rfl
   |true=>exact absurd (h2.2 h) (by simp)
  have hi:=h3 i rfl;rw[hp];show some (!(decide (i≥0)))=_;rw[decide_eq_true hi]; rfl
theorem WR (b:List UInt8):F0 b=some b.isEmpty:=by
 cases b with
 |nil=>rfl
 |cons a l=>
  unfold F0;have:(((a::l).length:Int)==0)=false:=by simp only[beq_eq_false_iff_ne,List.length_cons]; omega
  rw[this]; rfl
theorem Sg {t:Int}(h:Nh t=true):t=1∨t=2∨t=4∨t=12∨t=48:=by
 unfold Nh at h;simp only[Bool.or_eq_true,beq_iff_eq]at h;omega
theorem Oe {t:Int}(h:Nh t=true): ∃k,Fu t=some (k,true)∧k.tag_=t∧∀b,KR k.may_ b=some (WU t b):=by
 rcases Sg h with e|e|e|e|e
 ·subst e; exact⟨_,rfl,rfl,WT⟩
 ·subst e; exact⟨_,rfl,rfl,PC⟩
 ·subst e; exact⟨_,rfl,rfl,fun b=>rfl⟩
 ·subst e; exact⟨_,rfl,rfl,WS⟩
 ·subst e; exact⟨_,rfl,rfl,WR⟩
theorem JM {t:Int}(h:Nh t=false):Fu t=some (⟨0,-1⟩,false)∧∀b,WU t b=false:=by
 unfold Nh at h;simp only[Bool.or_eq_false_iff,beq_eq_false_iff_ne]at h;obtain⟨⟨⟨⟨h1,h2⟩,h3⟩,h4⟩,h5⟩:=h;refine⟨?_,fun b=> ?_⟩
 ·rw[Ab3,if_neg h1,if_neg h2,if_neg h3,if_neg h4,if_neg h5]
 ·unfold WU;rw[if_neg h1,if_neg h2,if_neg h3,if_neg h4,if_neg h5]
def mayB:Nat→g_api_Item→Bool
 |0,_=>false
 |d+1,x=>WU x.Tag x.B&&(x.Tag==48||x.L.isEmpty)&&x.L.all (mayB d)
theorem Z6 (rF:g_api_Item→Int→Option Bool)(p:g_api_Item→Bool)(d:Int): ∀(a b:List g_api_Item),(∀y∈b,rF y (w64 (d-1))=some (p y))→
  ∃r,GM (Ar rF (a++b)) b.length (a.length:Int) d=some r∧(r= .inl d↔b.all p=true)∧(∀e,r= .inl e→e=d)∧∀i,r= .inr i→0≤i.1
 |a,[],_=>⟨.inl d,rfl,by simp,fun e h=>by cases h; rfl,fun i h=>by cases h⟩
 |a,c::b,h=>by
  have hi:idx (a++c::b) (a.length:Int)=some c:=by
   unfold idx;rw[if_pos (by omega)];simp
  obtain⟨r,h1,h2,h4,h3⟩:=Z6 rF p d (a++[c]) b fun y hy=>h y (List.mem_cons_of_mem _ hy);have st:Ar rF (a++c::b) (a.length:Int) d=some (if p c=true then .inl d else .inr ((a.length:Int),d)):=by
   unfold Ar Hg;rw[hi];simp only[Ab,h c List.mem_cons_self];cases p c<;>rfl
  show∃r,Ad (Ar rF (a++c::b) (a.length:Int) d) _=some r∧_;rw[st];cases hc:p c with
  |false=>exact⟨.inr ((a.length:Int),d),rfl,by simp[hc],fun e h=>(by cases h),fun i h=>(by cases h; exact Int.natCast_nonneg _)⟩
  |true=>
   refine⟨r,?_,?_,h4,h3⟩
   ·show GM (Ar rF (a++c::b)) b.length ((a.length:Int)+1) d=some r;rw[←h1];simp
   ·rw[h2];simp only[List.all_cons,hc,Bool.true_and]
theorem Sv (rF:g_api_Item→Int→Option Bool)(p:g_api_Item→Bool)(d:Int)(l:List g_api_Item)(h: ∀y∈l,rF y (w64 (d-1))=some (p y)):
  ∃z,AJ rF l d=some (!(l.all p),z):=by
 obtain⟨r,h1,h2,h4,h3⟩:=Z6 rF p d [] l h;have h1:GM (Ar rF l) l.length 0 d=some r:=h1;unfold AJ A7;rw[h1];cases r with
 |inl u=>
  have:=h4 u rfl;subst this;rw[h2.1 rfl];exact⟨_,rfl⟩
 |inr i=>
  have hp:l.all p=false:=by
   cases h:l.all p with
   |false=>rfl
   |true=>exact absurd (h2.2 h) (by simp)
  have hi:=h3 i rfl;rw[hp];refine⟨i.2,?_⟩;show some (decide (i.1≥0),i.2)=_;rw[decide_eq_true hi]; rfl
theorem ZZ: ∀(d n:Nat) (x:g_api_Item),d<n→d≤100→GY n x (d:Int)=some (mayB d x)
 |d,0,x,h,_=>by omega
 |0,n+1,x,_,_=>by
  show Fg (GY n) x 0=some false;unfold Fg;cases hk:Nh x.Tag with
  |false=>rw[(JM hk).1]; rfl
  |true=>
   obtain⟨k,e,_,_⟩:=Oe hk;rw[e]; rfl
 |d+1,n+1,x,h,hd=>by
  have ih: ∀y∈x.L,GY n y (w64 (((d+1:Nat):Int)-1))=some (mayB d y):=fun y _=>by
   rw[show w64 (((d+1:Nat):Int)-1)=(d:Int)from by rw[RI (by omega) (by omega)]; omega];exact ZZ d n y (by omega) (by omega)
  obtain⟨z,hz⟩:=Sv (GY n) (mayB d) ((d+1:Nat):Int) x.L ih;show Fg (GY n) x ((d+1:Nat):Int)=some (mayB (d+1) x);unfold Fg mayB;have e1:decide (((d+1:Nat):Int)<1)=false:=by rw[decide_eq_false_iff_not]; omega
  have e2:decide ((x.L.length:Int)>0)= !x.L.isEmpty:=by
   cases x.L with
   |nil=>rfl
   |cons a l=>show decide _=true; rw[decide_eq_true_eq,List.length_cons]; omega
  have e3:(x.Tag !=48)= !(x.Tag==48):=rfl;rw[e1,e2,e3];cases hk:Nh x.Tag with
  |false=>
   rw[(JM hk).1,(JM hk).2]; rfl
  |true=>
   obtain⟨k,e,_,hm⟩:=Oe hk;rw[e];simp only[Ab,Bool.not_true,Bool.or_false,Bool.not_false,TE,hm,hz,Bool.not_not];cases WU x.Tag x.B<;>cases x.Tag==48<;>cases x.L.isEmpty<;>rfl
theorem Abt (x:g_api_Item):HN x 8=some (mayB 8 x):=ZZ 8 EF x (by have:=JV; omega) (by decide)
end Go.Proofs.YtibojdgdjhngiaaGreatDoor
end
section
namespace Go.Proofs.YtibojdgdjhngiaaGreatDoor
open Go Go.Gw Go.Ax
def Nf (n:Nat):List UInt8:=if n<128 then [toB (n:Int)]else if n<256 then [129,toB (n:Int)]else [130,toB (CN (n:Int) 8),toB (n:Int)]
def putB:Nat→g_api_Item→List UInt8
 |0,_=> []
 |d+1,x=>toB x.Tag::(Nf (x.B++x.L.flatMap (putB d)).length++(x.B++x.L.flatMap (putB d)))
def depB:Nat→g_api_Item→Prop
 |0,_=>False
 |d+1,x=> ∀y∈x.L,depB d y
theorem Xj: ∀{d:Nat} {x:g_api_Item},mayB d x=true→depB d x
 |0,x,h=>by cases h
 |d+1,x,h=>by
  simp only[mayB,Bool.and_eq_true,List.all_eq_true]at h;exact fun y hy=>Xj (h.2 y hy)
theorem TA (n:Nat):1≤(Nf n).length∧(Nf n).length≤3:=by
 unfold Nf;split
 ·exact⟨by simp,by simp⟩
 ·split
  ·exact⟨by simp,by simp⟩
  ·exact⟨by simp,by simp⟩
theorem putE: ∀(d n:Nat) (x:g_api_Item) (b:List UInt8),d≤n→depB d x→b.length+(putB d x).length≤100000000000000→FI n b x=some (b++putB d x)
 |0,n,x,b,_,h,_=>h.elim
 |d+1,0,x,b,h,_,_=>by omega
 |d+1,n+1,x,b,hn,hd,hb=>by
  have eP:putB (d+1) x=toB x.Tag::(Nf (x.B++x.L.flatMap (putB d)).length++(x.B++x.L.flatMap (putB d))):=rfl;have go: ∀(l:List g_api_Item) (i:Int) (s:List UInt8),(∀y∈l,depB d y)→s.length+(l.flatMap (putB d)).length≤100000000000000→Cx (CH (FI n)) l i s=some (s++l.flatMap (putB d)):=by
   intro l;induction l with
   |nil=>intro i s _ _; simp[Cx]
   |cons y l ih=>
    intro i s h hs;rw[List.flatMap_cons,List.length_append]at hs;have e:CH (FI n) i y s=some (s++putB d y):=by
     unfold CH;rw[putE d n y s (by omega) (h y List.mem_cons_self) (by omega)];rfl
    show Ad (CH (FI n) i y s) _=_;rw[e];show Cx _ l (i+1) (s++putB d y)=_;rw[ih (i+1) (s++putB d y) (fun z hz=>h z (List.mem_cons_of_mem _ hz)) (by rw[List.length_append]; omega),List.flatMap_cons,List.append_assoc]
  rw[eP]at hb⊢;simp only[List.length_cons,List.length_append]at hb;have hc:Ey (FI n) x=some (x.B++x.L.flatMap (putB d)):=by
   unfold Ey;rw[TU (by omega),Ab,go x.L 0 x.B hd (by omega)];rfl
  show HL (FI n) b x=_;unfold HL;rw[hc,Ab,On 1 (by simp only[List.length_cons,List.length_nil]; omega) (by simp only[List.length_cons,List.length_nil]; omega),Ab];rw[←List.length_append]at hb;have hL:(x.B++x.L.flatMap (putB d)).length=(x.B++x.L.flatMap (putB d)).length:=rfl;generalize (x.B++x.L.flatMap (putB d))=c at hb hL⊢;have hl:=TA c.length;have hm: ∀z:List UInt8,z.length≤3→app 1 (b++[toB x.Tag]) z=some (b++[toB x.Tag]++z):=fun z hz=>On 1 (by simp only[List.length_append,List.length_cons,List.length_nil]; omega) (by simp only[List.length_append,List.length_cons,List.length_nil]; omega);have fin:app 1 (b++[toB x.Tag]++Nf c.length) c=some (b++toB x.Tag::(Nf c.length++c)):=by
   rw[On 1 (by simp only[List.length_append,List.length_cons,List.length_nil]; omega) (by simp only[List.length_append,List.length_cons,List.length_nil]; omega)];simp
  have mid:(bnd (decide ((c.length:Int)<128)) fun x4=>
    if x4=true then
     Ad (app 1 (b++[toB x.Tag]) ([(toB (c.length:Int))]:List UInt8)) fun x5=>
     some x5
    else
    bnd ((decide ((c.length:Int)<256))) fun x6=>
    if x6=true then
     Ad (app 1 (b++[toB x.Tag]) ([129,(toB (c.length:Int))]:List UInt8)) fun x7=>
     some x7
    else
    Ad (app 1 (b++[toB x.Tag]) ([130,(toB (CN (c.length:Int) 8)),(toB (c.length:Int))]:List UInt8)) fun x8=>
    some x8)=some (b++[toB x.Tag]++Nf c.length):=by
   rw[hm [toB (c.length:Int)] (by simp),hm [129,toB (c.length:Int)] (by simp),hm [130,toB (CN (c.length:Int) 8),toB (c.length:Int)] (by simp)];simp only[Kx,Ab,decide_eq_true_eq];unfold Nf;by_cases h1:c.length<128
   ·rw[if_pos h1,if_pos (by omega)]
   ·rw[if_neg h1,if_neg (by omega)];by_cases h2:c.length<256
    ·rw[if_pos h2,if_pos (by omega)]
    ·rw[if_neg h2,if_neg (by omega)]
  rw[mid];simp only[Ab];rw[fin];rfl
theorem Aba {x:g_api_Item}(h:depB 8 x)(hs:(putB 8 x).length≤100000000000000):M7 [] x=some (putB 8 x):=by
 have:=putE 8 EF x [] (by have:=JV; omega) h (by simpa using hs);exact this
theorem Aaw {x:g_api_Item}(hs:(putB 8 x).length≤100000000000000):
  HP x=some (if mayB 8 x=true then(if(putB 8 x).length≤8192 then(putB 8 x,0)else([],2))else([],1)):=by
 unfold HP;rw[Abt];cases hm:mayB 8 x with
 |false=>rfl
 |true=>
  simp only[Ab,Bool.not_true,Bool.false_eq_true,if_false,if_true];rw[Aba (Xj hm) hs];simp only[Ab,decide_eq_true_eq];by_cases h:(putB 8 x).length≤8192
  ·rw[if_neg (by omega),if_pos h]
  ·rw[if_pos (by omega),if_neg h]
theorem TG {α:Type}(f:α→List UInt8)(k:Nat): ∀(l:List α),(∀y∈l,(f y).length≤k)→(l.flatMap f).length≤l.length*k
 | [],_=>by simp
 |y::l,h=>by
  have h1:=h y List.mem_cons_self;have h2:=TG f k l fun z hz=>h z (List.mem_cons_of_mem _ hz);rw[List.flatMap_cons,List.length_append,List.length_cons,Nat.succ_mul];omega
theorem Pn (d:Nat)(x:g_api_Item):(putB (d+1) x).length≤4+x.B.length+(x.L.flatMap (putB d)).length:=by
 have:=TA (x.B++x.L.flatMap (putB d)).length;show(toB x.Tag::(Nf (x.B++x.L.flatMap (putB d)).length++(x.B++x.L.flatMap (putB d)))).length≤_;rw[List.length_cons,List.length_append,List.length_append]at*;omega
theorem JK (d:Nat)(n:Int):(putB d (P7 n)).length≤12:=by
 cases d with
 |zero=>simp[putB]
 |succ d=>
  have h:=Pn d (P7 n);have h1:(P7 n).B.length≤8:=O2 (be8 n);have h2:(P7 n).L=[]:=rfl;rw[h2]at h;simp only[List.flatMap_nil,List.length_nil]at h;omega
theorem MS (d:Nat){s:ByteArray}(hs:s.size≤64):(putB d (Kg s)).length≤68:=by
 cases d with
 |zero=>simp[putB]
 |succ d=>
  have h:=Pn d (Kg s);have h1:(Kg s).B.length=s.size:=Jw s;have h2:(Kg s).L=[]:=rfl;rw[h2]at h;simp only[List.flatMap_nil,List.length_nil]at h;omega
theorem Xz (d:Nat)(v:Bool):(putB d (SB v)).length≤5:=by
 cases d with
 |zero=>simp[putB]
 |succ d=>
  have h:=Pn d (SB v);have h1:(SB v).B.length=1:=rfl;have h2:(SB v).L=[]:=rfl;rw[h2]at h;simp only[List.flatMap_nil,List.length_nil]at h;omega
theorem IT (d:Nat)(l:List g_api_Item)(k:Nat)(hk: ∀e y,y∈l→(putB e y).length≤k):(putB d (SY l)).length≤4+l.length*k:=by
 cases d with
 |zero=>simp[putB]
 |succ d=>
  have h:=Pn d (SY l);have h1:(SY l).B.length=0:=rfl;have h3:=TG (putB d) k l fun y hy=>hk d y hy;have h2:(SY l).L=l:=rfl;rw[h2]at h;omega
theorem NY (d:Nat){l:List ByteArray}(h: ∀s∈l,s.size≤64)(hn:l.length≤8):(putB d (MR l)).length≤1000:=by
 have:=IT d (l.map Kg) 68 fun e y hy=>by
  obtain⟨s,hs,e2⟩:=List.mem_map.1 hy;rw[←e2];exact MS e (h s hs)
 rw[List.length_map]at this;unfold MR;omega
theorem mem2 {α:Type}{p:α→Prop}{a b:α}(ha:p a)(hb:p b): ∀y∈[a,b],p y:=by
 intro y hy;simp only[List.mem_cons,List.not_mem_nil,or_false]at hy;rcases hy with e|e<;>rw[e]<;>assumption
theorem Yp (d:Nat){c:g_api_Cert}(h:SG c):(putB d (We c)).length≤20000:=by
 have:=IT d [P7 c.Serial,Kg c.Issuer,Kg c.Subject,P9 c.Key,MR c.Names,P7 c.From,P7 c.Until,SB c.Ca,P7 c.Depth,MR c.Permit] 1000 fun e y hy=>by
  simp only[List.mem_cons,List.not_mem_nil,or_false]at hy;rcases hy with q|q|q|q|q|q|q|q|q|q<;>rw[q]
  ·have:=JK e c.Serial; omega
  ·have:=MS e h.issuer; omega
  ·have:=MS e h.subject; omega
  ·have:=JK e (w64 (c.Key.toNat:Int)); unfold P9; omega
  ·exact NY e h.names h.few
  ·have:=JK e c.From; omega
  ·have:=JK e c.Until; omega
  ·have:=Xz e c.Ca; omega
  ·have:=JK e c.Depth; omega
  ·exact NY e h.permit h.fewP
 simp only[List.length_cons,List.length_nil]at this;unfold We;omega
theorem Wc (d:Nat)(p:g_api_Promise):(putB d (Pp p)).length≤100:=by
 have:=IT d [P7 p.Log,P7 p.At,P9 p.Leaf.1,P9 p.Leaf.2,P9 p.Sig.E,P9 p.Sig.S] 12 fun e y hy=>by
  simp only[List.mem_cons,List.not_mem_nil,or_false]at hy;rcases hy with q|q|q|q|q|q<;>rw[q]<;>exact JK e _
 simp only[List.length_cons,List.length_nil]at this;unfold Pp;omega
theorem XA (d:Nat){c:g_api_Cert}(h:SG c):(putB d (Me c)).length≤50000:=by
 have:=IT d [We c,Tl c.Proms] 20000 fun e=>mem2 (p:=fun y=>(putB e y).length≤20000) (Yp e h) (by
  have:=IT e (c.Proms.map Pp) 100 fun f y hy=>by
   obtain⟨p,hp,e2⟩:=List.mem_map.1 hy;rw[←e2];exact Wc f p
  rw[List.length_map]at this;have:=h.proms;unfold Tl;omega)
 simp only[List.length_cons,List.length_nil]at this;unfold Me;omega
theorem T7 (d:Nat){c:g_api_Cert}(h:SG c):(putB d (wholeI c)).length≤200000:=by
 have:=IT d [Me c,SY [P9 c.Sig.E,P9 c.Sig.S]] 50000 fun e=>mem2 (p:=fun y=>(putB e y).length≤50000) (XA e h) (by
  have:=IT e [P9 c.Sig.E,P9 c.Sig.S] 12 fun f=>mem2 (p:=fun y=>(putB f y).length≤12) (JK f _) (JK f _);simp only[List.length_cons,List.length_nil]at this;omega)
 simp only[List.length_cons,List.length_nil]at this;unfold wholeI;omega
def checkV (c:g_api_Cert):Int:=if formB c=true then(if mayB 8 (wholeI c)=true∧(putB 8 (wholeI c)).length≤2048 then 0 else 2)else 1
theorem Ace (b:List UInt8)(m:Bool):(Ad (some (if m=true then(if b.length≤8192 then(b,(0:Int))else([],2))else([],1))) fun x3=>if((x3.2 !=0)||(decide ((x3.1.length:Int)>2048)))=true then some (2:Int)else some 0)=some (if m=true∧b.length≤2048 then 0 else 2):=by
 cases m with
 |false=>rfl
 |true=>
  simp only[if_true,Ab,true_and];by_cases h1:b.length≤8192
  ·rw[if_pos h1];by_cases h2:b.length≤2048
   ·rw[if_pos h2,if_neg];simp only[bne_self_eq_false,Bool.false_or,decide_eq_true_eq];omega
   ·rw[if_neg h2,if_pos];simp only[bne_self_eq_false,Bool.false_or,decide_eq_true_eq];omega
  ·rw[if_neg h1];have h2: ¬b.length≤2048:=by omega
   rw[if_neg h2];rfl
theorem Rh (c:g_api_Cert):Fw c=some (checkV c):=by
 unfold Fw checkV;rw[W6];cases hf:formB c with
 |false=>rfl
 |true=>
  have hs:=(W7 hf).sized;simp only[Ab,Bool.not_true,Bool.false_eq_true,if_false,if_true];have hl:=T7 8 hs;rw[Va hs,Ab,Aaw (by omega),Ace]
end Go.Proofs.YtibojdgdjhngiaaGreatDoor
end
section
namespace Go.Proofs.YtibojdgdjhngiaaGreatDoor
open Go Go.Gw Go.Ax
theorem Vn (n:Int):((toB n).toNat:Int)=n%256:=by
 have h:0≤n%256:=Int.emod_nonneg _ (by decide);have h2:n%256<256:=Int.emod_lt_of_pos _ (by decide);unfold toB;rw[UInt8.toNat_ofNat'];omega
theorem TF (p:g_api_Item→List UInt8){y:g_api_Item}: ∀{l:List g_api_Item},y∈l→(p y).length≤(l.flatMap p).length
 |z::l,h=>by
  rw[List.flatMap_cons,List.length_append];rcases List.mem_cons.1 h with e|h
  ·rw[e]; omega
  ·have:=TF p h; omega
end Go.Proofs.YtibojdgdjhngiaaGreatDoor
end
section
namespace Go.Proofs.YtibojdgdjhngiaaGreatDoor
open Go Go.Gw Go.Ax
def s8 (a:UInt8):Int:=if a.toNat<128 then(a.toNat:Int)else(a.toNat:Int)-256
def vfold (s:Int)(l:List UInt8):Int:=l.foldl (fun s b=>s*256+(b.toNat:Int)) s
def wfold (s:Int)(l:List UInt8):Int:=l.foldl (fun s b=>w64 (s*256+(b.toNat:Int))) s
def sval:List UInt8→Int
 | []=>0
 |a::l=>vfold (s8 a) l
def asintV:List UInt8→Int
 | []=>0
 |a::l=>wfold (s8 a) l
end Go.Proofs.YtibojdgdjhngiaaGreatDoor
end
section
namespace Go.Proofs.YtibojdgdjhngiaaGreatDoor
open Go Go.Gw Go.Ax
def fewI:Nat→g_api_Item→Prop
 |0,_=>True
 |d+1,x=>x.L.length≤100000∧∀y∈x.L,fewI d y
def truthV:List UInt8→Bool
 | []=>false
 |a::_=>(a.toNat:Int) !=0
abbrev Its:=List g_api_Item
def rd {α:Type}(p:Option (α×Its)):Option (Option (α×Aj)):=some (p.map fun q=>(q.1,⟨q.2⟩))
def YB {α:Type}(tag:Int)(v:g_api_Item→α):Its→Option (α×Its)
 | []=>none
 |x::r=>if x.Tag=tag∧mayB 8 x=true then some (v x,r)else none
def Np (l:Its):Option (Int×Its):=(YB 2 (fun x=>asintV x.B) l).bind fun p=>if 0≤p.1 then some p else none
def Acm (l:Its):Option (UInt64×Its):=(Np l).map fun p=>(toU p.1,p.2)
def sub1 (l:Its):Option (Its×Its):=YB 48 (fun x=>x.L) l
def allT:Its→Option (List ByteArray)
 | []=>some []
 |x::r=>if x.Tag=12∧mayB 8 x=true then(allT r).map fun t=>bs x.B::t else none
def Zv (l:Its):Option (List ByteArray×Its):=(sub1 l).bind fun p=>(allT p.1).map fun t=>(t,p.2)
end Go.Proofs.YtibojdgdjhngiaaGreatDoor
end
section
namespace Go.Proofs.YtibojdgdjhngiaaGreatDoor
open Go Go.Gw Go.Ax
theorem ZY: ∀{d:Nat} {x:g_api_Item},mayB d x=true→mayB (d+1) x=true
 |0,x,h=>by cases h
 |d+1,x,h=>by
  simp only[mayB,Bool.and_eq_true,List.all_eq_true]at h;unfold mayB;simp only[Bool.and_eq_true,List.all_eq_true];exact⟨h.1,fun y hy=>ZY (h.2 y hy)⟩
theorem may_le {d e:Nat}{x:g_api_Item}(h:d≤e)(hm:mayB d x=true):mayB e x=true:=by
 induction h with
 |refl=>exact hm
 |step _ ih=>exact ZY ih
theorem WJ {d:Nat}{x y:g_api_Item}(h:mayB (d+1) x=true)(hy:y∈x.L):mayB d y=true:=by
 simp only[mayB,Bool.and_eq_true,List.all_eq_true]at h;exact h.2 y hy
def text1:Its→Option (ByteArray×Its):=YB 12 (fun x=>bs x.B)
def bool1:Its→Option (Bool×Its):=YB 1 (fun x=>truthV x.B)
def pre1 (l:Its):Option (g_api_Cert×Its):=(Np l).bind fun x1=>(text1 x1.2).bind fun x2=>(text1 x2.2).bind fun x3=>(Acm x3.2).bind fun x4=>(Zv x4.2).bind fun x5=>(Np x5.2).bind fun x6=>(Np x6.2).bind fun x7=>(bool1 x7.2).bind fun x8=>(Np x8.2).bind fun x9=>(Zv x9.2).bind fun x10=>if x10.2=[]then some (⟨x1.1,x2.1,x3.1,x4.1,x5.1,x6.1,x7.1,x8.1,x9.1,x10.1,[],⟨0,0⟩⟩,[])else none
def few1 (l:Its):Prop:= ∀x∈l,x.L.length≤100000
def prom1 (l:Its):Option (g_api_Promise×Its):=(Np l).bind fun x1=>(Np x1.2).bind fun x2=>(Acm x2.2).bind fun x3=>(Acm x3.2).bind fun x4=>(Acm x4.2).bind fun x5=>(Acm x5.2).bind fun x6=>some (⟨x1.1,x2.1,(x3.1,x4.1),⟨x5.1,x6.1⟩⟩,x6.2)
structure Nums (c:g_api_Cert):Prop where
 serial:0≤c.Serial∧c.Serial≤1099511627776
 frm:0≤c.From∧c.From≤1099511627776
 til:0≤c.Until∧c.Until≤1099511627776
 key:c.Key.toNat<2305843009213691579
 depth:0≤c.Depth∧c.Depth≤4
 sig:sigB c.Sig=true
 proms: ∀p∈c.Proms,promBC p=true
def bareP (c:g_api_Cert):g_api_Cert:=⟨c.Serial,c.Issuer,c.Subject,c.Key,c.Names,c.From,c.Until,c.Ca,c.Depth,c.Permit,[],⟨0,0⟩⟩
def bareS (c:g_api_Cert):g_api_Cert:=⟨c.Serial,c.Issuer,c.Subject,c.Key,c.Names,c.From,c.Until,c.Ca,c.Depth,c.Permit,c.Proms,⟨0,0⟩⟩
end Go.Proofs.YtibojdgdjhngiaaGreatDoor
end
section
namespace Go.Proofs.YtibojdgdjhngiaaGreatDoor
open Go Go.Gw Go.Ax
theorem Lg: ∀{d e:Nat} {x:g_api_Item},mayB d x=true→d≤e→putB e x=putB d x
 |0,e,x,h,_=>by cases h
 |d+1,0,x,_,h=>by omega
 |d+1,e+1,x,h,hd=>by
  have hf: ∀(l:List g_api_Item),(∀y∈l,mayB d y=true)→l.flatMap (putB e)=l.flatMap (putB d):=by
   intro l;induction l with
   |nil=>intro _; rfl
   |cons y l ih=>
    intro hl;rw[List.flatMap_cons,List.flatMap_cons,Lg (hl y List.mem_cons_self) (by omega),ih fun z hz=>hl z (List.mem_cons_of_mem _ hz)]
  have:=hf x.L fun y hy=>WJ h hy;show toB x.Tag::(Nf (x.B++x.L.flatMap (putB e)).length++(x.B++x.L.flatMap (putB e)))=toB x.Tag::(Nf (x.B++x.L.flatMap (putB d)).length++(x.B++x.L.flatMap (putB d)));rw[this]
theorem Z8 {d:Nat}{x y:g_api_Item}(h:mayB (d+1) x=true)(hd:d+1≤8)(hy:y∈x.L):(putB 8 y).length≤(putB 8 x).length:=by
 rw[Lg h hd,Lg (WJ h hy) (by omega)];have h1:=TF (putB d) hy;show _≤(toB x.Tag::(Nf (x.B++x.L.flatMap (putB d)).length++(x.B++x.L.flatMap (putB d)))).length;have e:(x.B++x.L.flatMap (putB d)).length=x.B.length+(x.L.flatMap (putB d)).length:=List.length_append;rw[List.length_cons,List.length_append,e];omega
def szs (d:Nat)(l:List g_api_Item):Nat:=(l.flatMap (putB d)).length
theorem Z7 {d:Nat}{l:List g_api_Item}(h:mayB (d+1) (SY l)=true): ∀y∈l,mayB d y=true:=fun y hy=>WJ h hy
structure Okc (c:g_api_Cert):Prop where
 form:Form c
 fb:formB c=true
 may:mayB 8 (wholeI c)=true
 len:(putB 8 (wholeI c)).length≤2048
theorem okc {c:g_api_Cert}(h:checkV c=0):Okc c:=by
 unfold checkV at h;cases hf:formB c with
 |false=>rw[hf]at h; simp at h
 |true=>
  rw[hf,if_pos rfl]at h;by_cases h2:mayB 8 (wholeI c)=true∧(putB 8 (wholeI c)).length≤2048
  ·exact⟨W7 hf,hf,h2.1,h2.2⟩
  ·rw[if_neg h2]at h; cases h
theorem Okc.chk {c:g_api_Cert}(h:Okc c):checkV c=0:=by
 unfold checkV;rw[h.fb,if_pos rfl,if_pos ⟨h.may,h.len⟩]
theorem Tw {c:g_api_Cert}(h:Okc c):mayB 7 (Me c)=true:=Z7 h.may _ (by simp)
theorem Abs {c:g_api_Cert}(h:Okc c):mayB 6 (We c)=true:=Z7 (Tw h) _ (by simp)
def wholeB (c:g_api_Cert):List UInt8:=putB 8 (wholeI c)
def bodyBy (c:g_api_Cert):List UInt8:=putB 8 (Me c)
def preBy (c:g_api_Cert):List UInt8:=putB 8 (We c)
theorem Ack {c:g_api_Cert}(h:Okc c):(bodyBy c).length≤2048:=by
 have h1:=Z8 (y:=Me c) h.may (by decide) (by show Me c∈[Me c,_]; simp);have h2:=h.len;show(putB 8 (Me c)).length≤_;omega
theorem pre_le {c:g_api_Cert}(h:Okc c):(preBy c).length≤2048:=by
 have h1:=Z8 (y:=We c) (Tw h) (by decide) (by show We c∈[We c,_]; simp);have h2:=Ack h;show(putB 8 (We c)).length≤_;have h3:(putB 8 (Me c)).length≤2048:=h2;omega
theorem AcA {x:g_api_Item}(h:mayB 8 x=true)(hl:(putB 8 x).length≤8192):HP x=some (putB 8 x,0):=by
 rw[Aaw (by omega),if_pos h,if_pos hl]
theorem Acg {c:g_api_Cert}(h:Okc c):Ea c=some (preBy c,0):=by
 unfold Ea D8;have hl:=pre_le h;rw[Rh,h.chk,Ab,if_neg (by decide),Wd h.form.sized,Ab,AcA (may_le (by decide) (Abs h)) (by show(preBy c).length≤_; omega)];rfl
theorem Yw {z:Int}(h:z≠0):(z !=0)=true:=by simpa using h
theorem Zm {c:g_api_Cert}(h:checkV c≠0):Ea c=some ([],checkV c):=by
 unfold Ea D8;rw[Rh,Ab,if_pos (Yw h)];rfl
end Go.Proofs.YtibojdgdjhngiaaGreatDoor
end
section
namespace Go.Proofs.YtibojdgdjhngiaaGreatDoor
open Go Go.Gw Go.Ax
def sgn8 (a:UInt8):UInt8:=if a.toNat<128 then 0 else 255
end Go.Proofs.YtibojdgdjhngiaaGreatDoor
end
section
namespace Go.Proofs.YtibojdgdjhngiaaGreatDoor
open Go Go.Gw Go.Ax
def readP (x:g_api_Item):Option g_api_Promise:=if x.Tag=48∧mayB 8 x=true then(prom1 x.L).bind fun q=>if q.2=[]then some q.1 else none else none
abbrev BS:=Its×List g_api_Promise
def CZ (r:Its)(a:List g_api_Promise):Option g_api_Promise→BS⊕(BS⊕Option (g_api_Cert×Aj))
 |some p=> .inl (r,a++[p])
 |none=> .inr (.inr none)
def outA (a:List g_api_Promise):Option (List g_api_Promise)→BS⊕Option (g_api_Cert×Aj)
 |some ps=> .inl ([],a++ps)
 |none=> .inr none
def allP:Its→Option (List g_api_Promise)
 | []=>some []
 |x::r=>(readP x).bind fun p=>(allP r).map fun l=>p::l
def few2D (l:Its):Prop:=few1 l∧∀x∈l,few1 x.L
def few3D (l:Its):Prop:=few1 l∧∀x∈l,few2D x.L
def withP (c:g_api_Cert)(ps:List g_api_Promise):g_api_Cert:=⟨c.Serial,c.Issuer,c.Subject,c.Key,c.Names,c.From,c.Until,c.Ca,c.Depth,c.Permit,ps,c.Sig⟩
def withS (c:g_api_Cert)(s:g_api_Sig):g_api_Cert:=⟨c.Serial,c.Issuer,c.Subject,c.Key,c.Names,c.From,c.Until,c.Ca,c.Depth,c.Permit,c.Proms,s⟩
def body1 (l:Its):Option (g_api_Cert×Its):=(sub1 l).bind fun x1=>(pre1 x1.1).bind fun x2=>(sub1 x1.2).bind fun x3=>(allP x3.1).bind fun ps=>if x3.2=[]then some (withP x2.1 ps,[])else none
def whole1 (l:Its):Option (g_api_Cert×Its):=(sub1 l).bind fun x1=>(body1 x1.1).bind fun x2=>(sub1 x1.2).bind fun x3=>(Acm x3.1).bind fun x4=>(Acm x4.2).bind fun x5=>if x5.2=[]then(if x3.2=[]then some (withS x2.1 ⟨x4.1,x5.1⟩,[])else none)else none
end Go.Proofs.YtibojdgdjhngiaaGreatDoor
end
section
namespace Go.Proofs.YtibojdgdjhngiaaGreatDoor
open Go Go.Gw Go.Ax
end Go.Proofs.YtibojdgdjhngiaaGreatDoor
end
section
namespace Go.Proofs.YtibojdgdjhngiaaGreatDoor
open Go Go.Gw Go.Ax
def Xc (l:List g_api_Cert):Bool:=Ab6 l&&decide ((l.length:Int)≤12)
theorem Zc (l:List g_api_Cert):HI l=some (Xc l):=by
 unfold HI;rw[Ab5,Ab,Acl];rfl
def l0:Ak:=⟨0,615761422827751315,20,[],[],[]⟩
theorem new30:JT 0 ([108,111,103]:List UInt8) 20=some (l0,0):=by kernel_rfl
theorem Abz:(XR l0,l0.Id,l0.Delay)=(true,0,20):=by decide
theorem l0_L:l0.L=[]:=rfl
theorem l0_W:l0.Wait=[]:=rfl
theorem l0_H:l0.Hide=[]:=rfl
theorem l0_chk:chk l0=0:=Xw (congrArg (·.1) Abz) (by rw[l0_L,l0_W]; rfl) (by rw[l0_H]; rfl) (by rw[l0_L,l0_W]; exact Nat.zero_le _)
theorem Rq {l:Ak}{b:List UInt8}{now:Int}(hl:l.L.length+l.Wait.length≤100000)(h:chk l=0):
  (∃w∈l.L++l.Wait,w.Body=b∧BX l b now=some (l,IG l w.At b,0))∨(BX l b now=some (Qd l b now,IG l now b,0)∧chk (Qd l b now)=0)∨∃e,e≠0∧BX l b now=some (AaA,Aaz,e):=by
 cases ha:(okBody b&&okNum now)with
 |false=>exact .inr (.inr ⟨1,by decide,Acz hl h ha⟩)
 |true=>
  cases hj:findB (l.L++l.Wait) b 0 with
  |some j=>
   obtain⟨x,h1,h2,h3⟩:=UG hj;rw[Nat.sub_zero]at h2;exact .inl ⟨x,List.mem_of_getElem? h2,h3,Nt hl h ha hj h2⟩
  |none=>
   by_cases hn:(l.L++l.Wait).length=256
   ·exact .inr (.inr ⟨2,by decide,Zr hl h ha hj hn⟩)
   ·exact .inr (.inl ⟨Acy hl h ha hj hn,Xv h ha hj hn⟩)
theorem Abe (c:g_api_Cert):(checkV c=0∧Ea c=some (preBy c,0))∨(checkV c≠0∧Ea c=some ([],checkV c)):=by
 by_cases h:checkV c=0
 ·exact .inl ⟨h,Acg (okc h)⟩
 ·exact .inr ⟨h,Zm h⟩
structure TI (l:List g_api_Cert)(now:Int)(i:Nat)(ps:List g_api_Promise)(x:Ak):Prop where
 ok:chk x=0
 Id:x.Id=0
 Delay:x.Delay=20
 L:x.L=[]
 Hide:x.Hide=[]
 few:x.Wait.length≤i
 wait: ∀w∈x.Wait,w.At=now∧∃c∈l,checkV c=0∧w.Body=preBy c
 all: ∀(j:Nat) (c:g_api_Cert),j<i→l[j]? =some c→checkV c=0∧∃w∈x.Wait,w.Body=preBy c
 len:ps.length=i
 prom: ∀p∈ps,p.Log=0∧p.At=now∧∃w∈x.Wait,p.Leaf=pleaf w.Body
abbrev TS:=List g_api_Promise×Int×Int×UInt64×Int×List g_api_Leaf×List Int×List g_api_Leaf
def stT (ps:List g_api_Promise)(i:Int)(x:Ak):TS:=(ps,i,x.Id,x.Key,x.Delay,x.L,x.Hide,x.Wait)
theorem Uj {l:List g_api_Cert}{now:Int}{i:Nat}{ps:List g_api_Promise}{x:Ak}{c:g_api_Cert}(hl:l.length≤1000)(hx:l[i]? =some c)(T:TI l now i ps x):
  AM l now (l0,0) (stT ps (i:Int) x)=some (.inr (.inr (x,ps,false)))∨
  ∃ps' x',AM l now (l0,0) (stT ps (i:Int) x)=some (.inl (stT ps' ((i+1:Nat):Int) x'))∧TI l now (i+1) ps' x':=by
 have hi:=(List.getElem?_eq_some_iff.1 hx).1;have hlen:x.L.length+x.Wait.length≤100000:=by have:=T.few; rw[T.L]; simp; omega
 have hp:ps.length≤1000000:=by have:=T.len; omega
 have hw:w64 ((i:Int)+1)=((i+1:Nat):Int):=Vf hi (by omega);have unf:AM l now (l0,0) (stT ps (i:Int) x)=Ad (Ea c) fun x5=>Ad (BX x x5.1 now) fun x6=>
   if(((0:Int) !=0||x5.2 !=0)||x6.2.2 !=0)=true then some (.inr (.inr (x,ps,false)))else
   Ad (app 48 ps [x6.2.1]) fun x7=>some (.inl (stT x7 ((i+1:Nat):Int) x6.1)):=by
  unfold AM stT;dsimp only;rw[lt_dec hi,if_pos rfl,Fi hx,Ab,hw]
 rw[unf];clear hw unf;rcases Abe c with ⟨hc,e⟩|⟨hc,e⟩
 ·rw[e,Ab];dsimp only;have hcm:c∈l:=List.mem_of_getElem? hx;rcases Rq (l:=x) (b:=preBy c) (now:=now) hlen T.ok with ⟨w,h1,h2,h3⟩|⟨h3,h4⟩|⟨er,h1,h3⟩
  ·rw[h3,Ab];dsimp only;rw[if_neg (by decide),app1 hp (by decide) (by decide),Ab];rw[T.L,List.nil_append]at h1;refine .inr ⟨ps++[IG x w.At (preBy c)],x,rfl,⟨T.ok,T.Id,T.Delay,T.L,T.Hide,by have:=T.few; omega,T.wait,fun j d hj hd=> ?_,by rw[List.length_append,T.len]; rfl,fun p hp=> ?_⟩⟩
   ·by_cases hji:j<i
    ·exact T.all j d hji hd
    ·have:j=i:=by omega
     subst this;rw[hx]at hd; cases hd;exact⟨hc,w,h1,h2⟩
   ·rcases List.mem_append.1 hp with q|q
    ·exact T.prom p q
    ·rw[List.mem_singleton]at q;subst q;exact⟨T.Id,(T.wait w h1).1,w,h1,by rw[h2]; rfl⟩
  ·rw[h3,Ab];dsimp only;rw[if_neg (by decide),app1 hp (by decide) (by decide),Ab];refine .inr ⟨ps++[IG x now (preBy c)],Qd x (preBy c) now,rfl,⟨h4,T.Id,T.Delay,T.L,T.Hide,by have:=T.few; show(x.Wait++[(⟨preBy c,now⟩:g_api_Leaf)]).length≤_; rw[List.length_append]; simp only[List.length_singleton]; omega,fun w hw=> ?_,fun j d hj hd=> ?_,by rw[List.length_append,T.len]; rfl,fun p hp=> ?_⟩⟩
   ·rcases List.mem_append.1 hw with q|q
    ·exact T.wait w q
    ·rw[List.mem_singleton]at q;subst q;exact⟨rfl,c,hcm,hc,rfl⟩
   ·by_cases hji:j<i
    ·obtain⟨a,w,b1,b2⟩:=T.all j d hji hd;exact⟨a,w,List.mem_append_left _ b1,b2⟩
    ·have:j=i:=by omega
     subst this;rw[hx]at hd; cases hd;exact⟨hc,⟨preBy c,now⟩,List.mem_append_right _ (List.mem_singleton.2 rfl),rfl⟩
   ·rcases List.mem_append.1 hp with q|q
    ·obtain⟨a1,a2,w,b1,b2⟩:=T.prom p q;exact⟨a1,a2,w,List.mem_append_left _ b1,b2⟩
    ·rw[List.mem_singleton]at q;subst q;exact⟨T.Id,rfl,⟨preBy c,now⟩,List.mem_append_right _ (List.mem_singleton.2 rfl),rfl⟩
  ·rw[h3,Ab];dsimp only;rw[if_pos (show((0:Int) !=0||(0:Int) !=0||er !=0)=true by rw[bne_iff_ne.2 h1]; rfl)];exact .inl rfl
 ·rw[e,Ab];dsimp only;obtain⟨r,hr⟩: ∃r,BX x [] now=some r:=by
   rcases Rq (l:=x) (b:=[]) (now:=now) hlen T.ok with ⟨w,h1,h2,h3⟩|⟨h3,h4⟩|⟨er,h1,h3⟩
   ·exact⟨_,h3⟩
   ·exact⟨_,h3⟩
   ·exact⟨_,h3⟩
  rw[hr,Ab,if_pos (show((0:Int) !=0||checkV c !=0||r.2.2 !=0)=true by rw[bne_iff_ne.2 hc]; rfl)];exact .inl rfl
theorem NZ {l:List g_api_Cert}{now:Int}(hl:l.length≤1000): ∀(k i n:Nat) (ps:List g_api_Promise) (x:Ak),i+k=l.length→k<n→TI l now i ps x→
  (∃ps' x',iter (AM l now (l0,0)) n (stT ps (i:Int) x)=some (.inr (x',ps',false)))∨
  ∃ps' x',iter (AM l now (l0,0)) n (stT ps (i:Int) x)=some (.inl (ps',x'.Id,x'.Key,x'.Delay,x'.L,x'.Hide,x'.Wait))∧TI l now l.length ps' x'
 |0,i,n,ps,x,h,hn,T=>by
  obtain⟨n,rfl⟩: ∃q,n=q+1:=⟨n-1,by omega⟩;have h:i=l.length:=by omega
  subst h;refine .inr ⟨ps,x,?_,T⟩;show Ad (AM l now (l0,0) (stT ps (l.length:Int) x)) _=_;have:AM l now (l0,0) (stT ps (l.length:Int) x)=some (.inr (.inl (ps,x.Id,x.Key,x.Delay,x.L,x.Hide,x.Wait))):=by
   unfold AM stT;dsimp only;rw[Abu,if_neg (by decide)]
  rw[this]; rfl
 |k+1,i,n,ps,x,h,hn,T=>by
  obtain⟨n,rfl⟩: ∃q,n=q+1:=⟨n-1,by omega⟩;have hi:i<l.length:=by omega
  have hx:l[i]? =some l[i]:=List.getElem?_eq_getElem hi;rcases Uj hl hx T with e|⟨ps',x',e,T'⟩
  ·refine .inl ⟨ps,x,?_⟩;show Ad (AM l now (l0,0) (stT ps (i:Int) x)) _=_;rw[e]; rfl
  ·have ih:=NZ hl k (i+1) n ps' x' (by omega) (by omega) T';have e2:iter (AM l now (l0,0)) (n+1) (stT ps (i:Int) x)=iter (AM l now (l0,0)) n (stT ps' ((i+1:Nat):Int) x'):=by
    show Ad (AM l now (l0,0) (stT ps (i:Int) x)) _=_;rw[e]; rfl
   rw[e2]; exact ih
theorem Vs {l:List g_api_Cert}(now:Int)(hl:l.length≤1000):
  (∃ps x,Dd l now=some (x,ps,false))∨∃ps x,Dd l now=some (x,ps,true)∧TI l now l.length ps x:=by
 have T0:TI l now 0 [] l0:=⟨l0_chk,congrArg (·.2.1) Abz,congrArg (·.2.2) Abz,l0_L,l0_H,by rw[l0_W]; exact Nat.zero_le _,fun w hw=>(by rw[l0_W]at hw; cases hw),fun j c hj=>absurd hj (Nat.not_lt_zero j),rfl,fun p hp=>absurd hp (List.not_mem_nil)⟩;have h:=NZ hl l.length 0 EF [] l0 (by omega) (by have:(1000001:Nat)≤EF:=Nat.le_of_ble_eq_true rfl; omega) T0;unfold Dd;rw[new30,Ab];rcases h with ⟨ps',x',e⟩|⟨ps',x',e,T⟩
 ·refine .inl ⟨ps',x',?_⟩;have e':iter (AM l now (l0,0)) EF ([],0,l0.Id,l0.Key,l0.Delay,l0.L,l0.Hide,l0.Wait)=_:=e;dsimp only;rw[e',Ab]
 ·refine .inr ⟨ps',x',?_,T⟩;have e':iter (AM l now (l0,0)) EF ([],0,l0.Id,l0.Key,l0.Delay,l0.L,l0.Hide,l0.Wait)=_:=e;dsimp only;rw[e',Ab];rfl
theorem TI.bodies {l:List g_api_Cert}{now:Int}{i:Nat}{ps:List g_api_Promise}{x:Ak}(T:TI l now i ps x)(hi:i≤1000):x.L.length+x.Wait.length≤100000:=by have:=T.few; rw[T.L]; simp; omega
end Go.Proofs.YtibojdgdjhngiaaGreatDoor
end
section
namespace Go.Proofs.YtibojdgdjhngiaaGreatDoor
open Go Go.Gw Go.Ax
theorem Sc:H6=some true:=by kernel_rfl
end Go.Proofs.YtibojdgdjhngiaaGreatDoor
end
