/- Several texts, one behind the other. Conditions: none. -/
import Derived.Test.YtibojdgdjhngiaaGreatDoorZg
import Derived.Test.YtibojdgdjhngiaaGreatDoorZh
import Derived.Test.YtibojdgdjhngiaaGreatDoorZi
import Derived.Test.YtibojdgdjhngiaaGreatDoorZj
import Derived.Test.YtibojdgdjhngiaaGreatDoorZk
import Derived.KernelRfl
import Derived.Test.YtibojdgdjhngiaaGreatDoorZb
set_option linter.unusedSimpArgs false
set_option linter.unusedVariables false
set_option maxHeartbeats 4000000
set_option maxRecDepth 100000
section
namespace Go.Proofs.YtibojdgdjhngiaaGreatDoor
open Go Go.Gw Go.Ax
theorem VV {i n:Nat}(h:i<n)(hn:n≤1000000):w64 ((i:Int)+1)=((i+1:Nat):Int):=by rw[BU (by omega) (by omega)]; rfl
theorem Yq {α:Type}{xs:List α}{i:Nat}{x:α}(h:xs[i]? =some x):xs.drop i=x::xs.drop (i+1):=by
 obtain⟨hi,rfl⟩:=AjR.1 h;exact List.drop_eq_getElem_cons hi
def Ai8 {α β:Type}(f:α→Option β):List α→(Unit⊕β)
 | []=> .inl ()
 |x::r=>match f x with|some b=> .inr b|none=>Ai8 f r
theorem WB {α β:Type}{step:Int→Option (Int⊕(Unit⊕β))}(xs:List α)(f:α→Option β)
  (hs: ∀(i:Nat) (x:α),xs[i]? =some x→step (i:Int)=some (match f x with|some b=> .inr (.inr b)|none=> .inl ((i+1:Nat):Int)))
  (he:step (xs.length:Int)=some (.inr (.inl ()))): ∀(k i n:Nat),i+k=xs.length→k<n→iter step n (i:Int)=some (Ai8 f (xs.drop i))
 |0,i,n,h,hn=>by
  obtain⟨n,rfl⟩: ∃q,n=q+1:=⟨n-1,by omega⟩;have h:i=xs.length:=by omega
  subst h;show Ab (step _) _=_;rw[he,List.drop_length]; rfl
 |k+1,i,n,h,hn=>by
  obtain⟨n,rfl⟩: ∃q,n=q+1:=⟨n-1,by omega⟩;have hi:i<xs.length:=by omega
  have hx:xs[i]? =some xs[i]:=Aks hi;show Ab (step _) _=_;rw[hs i _ hx,Yq hx];unfold Ai8;cases f xs[i]with
  |some b=>rfl
  |none=>exact WB xs f hs he k (i+1) n (by omega) (by omega)
theorem Tb {α β:Type}{step:Int→Option (Int⊕(Unit⊕β))}(xs:List α)(f:α→Option β)(hl:xs.length≤1000000)
  (hs: ∀(i:Nat) (x:α),xs[i]? =some x→step (i:Int)=some (match f x with|some b=> .inr (.inr b)|none=> .inl ((i+1:Nat):Int)))
  (he:step (xs.length:Int)=some (.inr (.inl ()))):iter step Bl 0=some (Ai8 f xs):=
 WB xs f hs he xs.length 0 Bl (by omega) (by have:(1000001:Nat)≤Bl:=AjO rfl; omega)
def Ag9 {α σ:Type}(g:Nat→σ→α→σ):List α→Nat→σ→σ
 | [],_,s=>s
 |x::r,i,s=>Ag9 g r (i+1) (g i s x)
theorem WA {α σ τ:Type}{step:τ→Option (τ⊕σ)}(pr:σ→Int→τ)(xs:List α)(g:Nat→σ→α→σ)(I:Nat→σ→Prop)
  (hs: ∀(i:Nat) (x:α) (s:σ),xs[i]? =some x→I i s→step (pr s (i:Int))=some (.inl (pr (g i s x) ((i+1:Nat):Int)))∧I (i+1) (g i s x))
  (he: ∀s,I xs.length s→step (pr s (xs.length:Int))=some (.inr s)): ∀(k i n:Nat) (s:σ),i+k=xs.length→k<n→I i s→iter step n (pr s (i:Int))=some (Ag9 g (xs.drop i) i s)
 |0,i,n,s,h,hn,hI=>by
  obtain⟨n,rfl⟩: ∃q,n=q+1:=⟨n-1,by omega⟩;have h:i=xs.length:=by omega
  subst h;show Ab (step _) _=_;rw[he s hI,List.drop_length]; rfl
 |k+1,i,n,s,h,hn,hI=>by
  obtain⟨n,rfl⟩: ∃q,n=q+1:=⟨n-1,by omega⟩;have hi:i<xs.length:=by omega
  have hx:xs[i]? =some xs[i]:=Aks hi;obtain⟨h1,h2⟩:=hs i _ s hx hI;show Ab (step _) _=_;rw[h1,Yq hx];exact WA pr xs g I hs he k (i+1) n _ (by omega) (by omega) h2
theorem OY {α σ τ:Type}{step:τ→Option (τ⊕σ)}(pr:σ→Int→τ)(xs:List α)(g:Nat→σ→α→σ)(I:Nat→σ→Prop)(hl:xs.length≤1000000)
  (hs: ∀(i:Nat) (x:α) (s:σ),xs[i]? =some x→I i s→step (pr s (i:Int))=some (.inl (pr (g i s x) ((i+1:Nat):Int)))∧I (i+1) (g i s x))
  (he: ∀s,I xs.length s→step (pr s (xs.length:Int))=some (.inr s)) (s:σ) (hI:I 0 s):iter step Bl (pr s 0)=some (Ag9 g xs 0 s):=
 WA pr xs g I hs he xs.length 0 Bl s (by omega) (by have:(1000001:Nat)≤Bl:=AjO rfl; omega) hI
theorem ZL {α:Type}(p:α→Bool)(v:Bool): ∀(xs:List α),Ai8 (fun x=>if p x=true then some v else none) xs=if xs.any p=true then .inr v else .inl ()
 | []=>rfl
 |x::r=>by
  unfold Ai8;cases h:p x with
  |true=>simp[h]
  |false=>simp[h,ZL p v r]
theorem ZH {α:Type}{l:List α}{n i:Nat}{x:α}(h:(l.take n)[i]? =some x):idx l (i:Int)=some x∧i<l.length∧i<n:=by
 rw[List.getElem?_take]at h;split at h
 ·exact⟨Gi h,(AjR.1 h).1,‹_›⟩
 ·cases h
theorem app1 {α:Type}{b n:Nat}{s:List α}{x:α}(h:s.length≤n)(hb:(n+1)*b≤140737488355328)(hn:n+1≤140737488355328):app b s [x]=some (s++[x]):=by
 unfold app;have:(s.length+[x].length)*b≤(n+1)*b:=Nat.mul_le_mul_right b (by simp; omega);rw[AjF ⟨by omega,by simp; omega⟩]
end Go.Proofs.YtibojdgdjhngiaaGreatDoor
end
section
namespace Go.Proofs.YtibojdgdjhngiaaGreatDoor
open Go Go.Gw Go.Ax
theorem guT {α:Type} [Inhabited α](o:Option α):gu true o=o:=rfl
theorem Ajt {α β:Type}(a:α)(k:α→β):bnd a k=k a:=rfl
theorem guF {α:Type} [Inhabited α](o:Option α):gu false o=some default:=rfl
theorem Ac0 {a b:Nat}(h:a<b):decide (((a:Nat):Int)<(b:Int))=true:=AjN (by omega)
theorem X5 (a:Nat):decide (((a:Nat):Int)<(a:Int))=false:=AjM (by omega)
theorem idxL {α:Type}{l:List α}{i:Nat}(h:i<l.length):idx l (i:Int)=some l[i]:=Gi (Aks h)
theorem Ajy {l:List Int}{n:Int}:l.any (· ==n)=true↔n∈l:=by simp
theorem ZK {α β:Type}: ∀(l:List α),Ai8 (fun _=>(none:Option β)) l= .inl ()
 | []=>rfl
 |x::r=>ZK r
theorem Adv {β:Type}{step:Int→Option (Int⊕(Unit⊕β))}(n:Nat)(hl:n≤1000000)
  (hs: ∀(i:Nat),i<n→step (i:Int)=some (.inl ((i+1:Nat):Int))) (he:step (n:Int)=some (.inr (.inl ()))):iter step Bl 0=some (.inl ()):=by
 have:=Tb (step:=step) (List.replicate n ()) (fun _=>none) (by simpa using hl) (fun i x hx=>hs i (by simpa using (AjR.1 hx).1)) (by simpa using he);rw[this,ZK]
end Go.Proofs.YtibojdgdjhngiaaGreatDoor
end
section
namespace Go.Proofs.YtibojdgdjhngiaaGreatDoor
open Go Go.Gw Go.Ax
theorem Cm {α β:Type}(a:α)(k:α→β):bnd a k=k a:=rfl
theorem E8 {σ τ:Type}{step:σ→Option (σ⊕τ)}{s:σ}{t:τ}(n:Nat)(h:iter step n s=some t)(hn:n≤18446744073709551616):iter step Bl s=some t:=Wz h hn
theorem AI {σ τ:Type}{step:σ→Option (σ⊕τ)}{n:Nat}{s s':σ}(h:step s=some (.inl s')):iter step (n+1) s=iter step n s':=by simp only[iter,h,Aa]
theorem BQ {σ τ:Type}{step:σ→Option (σ⊕τ)}{n:Nat}{s:σ}{t:τ}(h:step s=some (.inr t)):iter step (n+1) s=some t:=by simp only[iter,h,Aa]
theorem G3 {α:Type}(b:Nat){xs ys:List α}(h:(xs.length+ys.length)*b≤140737488355328)(h1:xs.length+ys.length≤140737488355328):app b xs ys=some (xs++ys):=by unfold app; rw[AjF ⟨h,h1⟩]
theorem Tj {α:Type}{xs:List α}{lo hi:Nat}(h1:lo≤hi)(h2:hi≤xs.length):cut xs (lo:Int) (hi:Int)=some ((xs.drop lo).take (hi-lo)):=by
 unfold cut; rw[AjF ⟨by omega,by omega,by omega⟩]; simp
def AaE (hi lo:UInt64):UInt64:=
 let n:=(lo&&&2305843009213693951)+((JO hi 3)|||(En lo 61))
 let k:=(n&&&2305843009213693951)+En n 61
 if 2305843009213693951≤k.toNat then k-2305843009213693951 else k
theorem Adu (a b:UInt64):H8 a b=some (AaE a b):=by
 unfold H8 AaE;simp only[Cm];generalize (b&&&2305843009213693951)+((JO a 3)|||(En b 61))=n;generalize (n&&&2305843009213693951)+En n 61=k;by_cases h:2305843009213693951≤k.toNat
 ·rw[AjF h,AjF (AjN (by omega))]; rfl
 ·rw[AjG h,AjG (by simp; omega)]; rfl
def RL (a:UInt64):UInt64:=AaE 0 a
theorem AgH (a:UInt64):E2 a=some (RL a):=by simp only[E2,Adu,Aa]; rfl
def Dm (a b:UInt64):UInt64:=RL (RL a+RL b)
theorem Z6 (a b:UInt64):Gh a b=some (Dm a b):=by simp only[Gh,AgH,Aa]; rfl
def phi (a0 a1:UInt64):UInt64:=
 let x1:=(a0&&&4294967295)*(a1&&&4294967295)
 let x2:=((En a0 32)*(a1&&&4294967295))+(En x1 32)
 let x3:=(x2&&&4294967295)+((a0&&&4294967295)*(En a1 32))
 (((En a0 32)*(En a1 32))+(En x2 32))+(En x3 32)
theorem UO (a b:UInt64):Ic a b=some (phi a b,a*b):=rfl
def Aa7 (a b:UInt64):UInt64:=AaE (phi (RL a) (RL b)) (RL a*RL b)
theorem mul_eq (a b:UInt64):Jn a b=some (Aa7 a b):=by simp only[Jn,AgH,UO,Adu,Aa]; rfl
def PR (a:UInt64):UInt64:=
 let b:=Aa7 a a
 let c:=Aa7 b b
 let d:=Aa7 c c
 Aa7 a (Aa7 d d)
theorem sev_eq (a:UInt64):Es a=some (PR a):=by
 simp only[Es,B3,Jm,mul_eq,Aa]; rfl
def RM (r i:Int):UInt64:=let n:=toU (w64 ((w64 ((w64 (3*r))+i))+1)); n*n*n+7
def pall (r:Int)(s:UInt64×UInt64×UInt64):UInt64:=Dm (Dm (Dm 0 (PR (Dm s.1 (RM r 0)))) (PR (Dm s.2.1 (RM r 1)))) (PR (Dm s.2.2 (RM r 2)))
def JP (r:Int)(s:UInt64×UInt64×UInt64):UInt64×UInt64×UInt64:=(Dm (PR (Dm s.1 (RM r 0))) (pall r s),Dm (PR (Dm s.2.1 (RM r 1))) (pall r s),Dm (PR (Dm s.2.2 (RM r 2))) (pall r s))
theorem AiB (i:Int)(a:UInt64)(r:Int)(all:UInt64):J0 i a r all=some (PR (Dm a (RM r i)),r,Dm all (PR (Dm a (RM r i)))):=by
 simp only[J0,Cm,Z6,sev_eq,Aa]; rfl
theorem AiA (i:Int)(a:UInt64)(all:UInt64):JZ i a all=some (Dm a all,all):=by
 simp only[JZ,Z6,Aa]
theorem AfR (a b c:UInt64)(r:Int)(all:UInt64):Dp (a,b,c) r all=some ((PR (Dm a (RM r 0)),PR (Dm b (RM r 1)),PR (Dm c (RM r 2))),r,Dm (Dm (Dm all (PR (Dm a (RM r 0)))) (PR (Dm b (RM r 1)))) (PR (Dm c (RM r 2)))):=by
 have e0:idx [a,b,c] 0=some a:=rfl;have e1: ∀x,idx [x,b,c] 1=some b:=fun _=>rfl;have e2: ∀x y,idx [x,y,c] 2=some c:=fun _ _=>rfl;simp[Dp,B3,FQ,Cm,AiB,e0,e1,e2]
theorem AfQ (a b c all:UInt64):Dn (a,b,c) all=some ((Dm a all,Dm b all,Dm c all),all):=by
 have e0:idx [a,b,c] 0=some a:=rfl;have e1: ∀x,idx [x,b,c] 1=some b:=fun _=>rfl;have e2: ∀x y,idx [x,y,c] 2=some c:=fun _ _=>rfl;simp[Dn,B3,FO,Cm,AiA,e0,e1,e2]
theorem Aiz (r:Int)(s:UInt64×UInt64×UInt64):K9 r s=some (JP r s):=by
 obtain⟨a,b,c⟩:=s;unfold K9;rw[AfR,Aa,AfQ,Aa];rfl
def Nm (s:UInt64×UInt64×UInt64):UInt64×UInt64×UInt64:=JP 7 (JP 6 (JP 5 (JP 4 (JP 3 (JP 2 (JP 1 (JP 0 s)))))))
theorem AcY (s:UInt64×UInt64×UInt64):KC s=some (Nm s):=by
 simp only[KC,B3,Aiz,Aa];rfl
def ple:List UInt8→Nat→UInt64→UInt64
 | [],_,s=>s
 |b::bs,i,s=>ple bs (i+1) (s|||JO (toU (b.toNat:Int)) (8*i))
theorem b6_eq (b5:List UInt8): ∀(l:List UInt8) (i:Nat) (s:UInt64),b5.drop i=l→i+l.length≤1000000→B3 (Ft b5) l.length (i:Int) s=some (ple l i s):=by
 intro l;induction l with
 |nil=>intro i s _ _; rfl
 |cons b l ih=>
  intro i s h hb;have hx:idx b5 (i:Int)=some b:=Gi (by
   have:(b5.drop i)[0]? =some b:=by rw[h]; rfl
   simpa using this)
  simp only[AjD]at hb;have hw:w64 (8*(i:Int))=((8*i:Nat):Int):=by rw[BU (by omega) (by omega)]; omega
  have hstep:Ft b5 (i:Int) s=some (s|||JO (toU (b.toNat:Int)) (8*i)):=by
   simp only[Ft,hx,Aa,hw,Cm];rw[AjF (by omega)]; rfl
  show B3 (Ft b5) (l.length+1) _ _=_;simp only[B3,hstep,Aa,ple];have:=ih (i+1) (s|||JO (toU (b.toNat:Int)) (8*i)) (by rw[←Akw,h]; rfl) (by omega);simpa using this
def pof (n:Nat)(l:List UInt8):List UInt64:=match n,l with|_,[]=> []|0,_=> []|n+1,l=>ple (l.take 7) 0 0::pof n (l.drop 7)
theorem AcE (n:Nat): ∀l,(pof n l).length≤n:=by
 induction n with
 |zero=>intro l; cases l<;>simp[pof]
 |succ n ih=>intro l; cases l with
  |nil=>simp[pof]
  |cons a l=>simp only[pof,AjD]; have:=ih ((a::l).drop 7); omega
theorem Af0 (a0:List UInt8)(hb:a0.length≤1000000): ∀(n i:Nat) (out:List UInt64),a0.length≤i+n→i≤1000000+7→out.length+n≤1000000→
  iter (Bu (fun(s:(List UInt64)) (b0:List UInt8)=>Ab (Fu b0 s) fun y=>some (true,y)) a0 7) (n+1) ((i:Int),out)=some (.inl (out++pof n (a0.drop i))):=by
 intro n;induction n with
 |zero=>
  intro i out h _ _;have:a0.drop i=[]:=Aj6 (by omega);refine BQ ?_;simp only[Bu,this];rw[AjG (by simp; omega)];simp[pof]
 |succ n ih=>
  intro i out h hi ho;by_cases hlt:i<a0.length
  ·obtain⟨b,l,hl⟩: ∃b l,a0.drop i=b::l:=⟨a0[i],a0.drop (i+1),List.drop_eq_getElem_cons hlt⟩;have hc1:cut a0 (i:Int) (a0.length:Int)=some (a0.drop i):=by
    rw[Tj (by omega) (by omega)]; congr 1; rw[Akx (by simp)]
   have hlen:(a0.drop i).length=a0.length-i:=by simp
   have hm:w64 ((i:Int)+Zw 7 ((a0.drop i).length:Int))=((i+min 7 (a0.length-i):Nat):Int):=by
    rw[BU]<;>unfold Zw<;>split<;>omega
   have hc2:cut a0 (i:Int) ((i+min 7 (a0.length-i):Nat):Int)=some ((a0.drop i).take 7):=by
    rw[Tj (by omega) (by omega)]; congr 1;rw[Nat.add_sub_cancel_left];by_cases h7:7≤a0.length-i
    ·rw[Nat.min_eq_left h7]
    ·rw[Nat.min_eq_right (by omega),Akx (by simp),Akx (by simp; omega)]
   have hw:w64 ((i:Int)+7)=((i+7:Nat):Int):=by rw[BU (by omega) (by omega)]; omega
   have hb4:Fu ((a0.drop i).take 7) out=some (out++[ple ((a0.drop i).take 7) 0 0]):=by
    have:=b6_eq ((a0.drop i).take 7) ((a0.drop i).take 7) 0 0 rfl (by simp; omega);simp only[Fu];rw[show((0:Int))=((0:Nat):Int)from rfl,this];simp only[Aa];rw[G3 8 (by simp; omega) (by simp; omega)];rfl
   rw[AI (s':=(((i+7:Nat):Int),out++[ple ((a0.drop i).take 7) 0 0]))]
   ·rw[ih (i+7) _ (by omega) (by omega) (by simp; omega)];rw[hl];simp only[pof];rw[←hl,Akw];simp
   ·simp only[Bu];rw[AjF (AjN (by omega)),hc1];simp only[Aa,hm,hc2,hb4,hw];rfl
  ·have:a0.drop i=[]:=Aj6 (by omega);refine BQ ?_;simp only[Bu,this];rw[AjG (by simp; omega)];simp[pof]
theorem of_eq (a0:List UInt8)(hb:a0.length≤900000):KD a0=some (pof a0.length a0):=by
 have h:=Af0 a0 (by omega) a0.length 0 [] (by omega) (by omega) (by simp; omega);have h':=E8 _ h (by omega);simp only[KD,DW,Dt];rw[AjG (by decide)];simp only[Aa,List.drop_zero,Akr]at h'⊢;rw[show((0:Int))=((0:Nat):Int)from rfl,h'];simp only[Aa]
def Hn (n:Nat)(l:List UInt64)(s:UInt64×UInt64×UInt64):UInt64×UInt64×UInt64:=match n,l with|_,[]=>s|0,_=>s|_+1,[x]=>Nm (Dm s.1 x,s.2.1,s.2.2)|n+1,x::y::l=>Hn n l (Nm (Dm s.1 x,Dm s.2.1 y,s.2.2))
theorem b4_eq1 (x:UInt64)(s:UInt64×UInt64×UInt64):B3 (GV [x]) 1 0 s=some (Dm s.1 x,s.2.1,s.2.2):=by
 have e0:idx [x] (0:Int)=some x:=rfl;have e1:idx [s.1,s.2.1,s.2.2] (0:Int)=some s.1:=rfl;simp[B3,GV,e0,e1,Z6,Cm]
theorem b4_eq2 (x y:UInt64)(s:UInt64×UInt64×UInt64):B3 (GV [x,y]) 2 0 s=some (Dm s.1 x,Dm s.2.1 y,s.2.2):=by
 have e0:idx [x,y] (0:Int)=some x:=rfl;have e1:idx [s.1,s.2.1,s.2.2] (0:Int)=some s.1:=rfl;have e2:idx [x,y] 1=some y:=rfl;have e3:idx [Dm s.1 x,s.2.1,s.2.2] 1=some s.2.1:=rfl;simp[B3,GV,e0,e1,e2,e3,Z6,Cm]
theorem b3_nil (fst:Bool)(hf:fst=true)(s:UInt64×UInt64×UInt64):CQ ([],fst,s.1,s.2.1,s.2.2)=some (.inl ([],false,Nm s)):=by
 subst hf;have hc:cut ([]:List UInt64) 0 0=some []:=rfl;have hmin:Zw 2 (([]:List UInt64).length:Int)=0:=rfl;simp only[CQ,Bool.true_or,if_true,hmin];rw[show((([]:List UInt64).length:Int))=0 from rfl,hc];simp only[Aa,B3,AjW,AcY]
theorem Aht (s:UInt64×UInt64×UInt64):CQ ([],false,s.1,s.2.1,s.2.2)=some (.inr s):=rfl
theorem Ahs (fst:Bool)(x:UInt64)(s:UInt64×UInt64×UInt64):CQ ([x],fst,s.1,s.2.1,s.2.2)=some (.inl ([],false,Nm (Dm s.1 x,s.2.1,s.2.2))):=by
 have hmin:Zw 2 (([x]:List UInt64).length:Int)=1:=rfl;have h0:(fst||decide ((([x]:List UInt64).length:Int)>0))=true:=by simp
 have hc:cut [x] 0 1=some [x]:=rfl;have hc2:cut [x] 1 1=some []:=rfl;simp only[CQ,h0,if_true,hmin];rw[show((([x]:List UInt64).length:Int))=1 from rfl,hc,hc2];simp only[Aa,AjD,AjW];rw[b4_eq1];simp only[Aa,AcY]
theorem Ahr (fst:Bool)(x y:UInt64)(l:List UInt64)(s:UInt64×UInt64×UInt64):CQ (x::y::l,fst,s.1,s.2.1,s.2.2)=some (.inl (l,false,Nm (Dm s.1 x,Dm s.2.1 y,s.2.2))):=by
 have hmin:Zw 2 ((x::y::l).length:Int)=((2:Nat):Int):=by unfold Zw; rw[AjG (by simp; omega)]; rfl
 have h0:(fst||decide (((x::y::l).length:Int)>0))=true:=by simp; right; omega
 have hc:cut (x::y::l) ((0:Nat):Int) ((2:Nat):Int)=some [x,y]:=by rw[Tj (by omega) (by simp)]; rfl
 have hc2:cut (x::y::l) ((2:Nat):Int) ((x::y::l).length:Int)=some l:=by rw[Tj (by simp) (by omega)]; simp
 simp only[CQ,h0,if_true,hmin];rw[show((0:Int))=((0:Nat):Int)from rfl,hc,hc2];simp only[Aa,AjD,AjW];rw[show((0:Nat):Int)=0 from rfl,b4_eq2];simp only[Aa,AcY]
theorem YF: ∀(n:Nat) (l:List UInt64) (s:UInt64×UInt64×UInt64),l.length≤n→iter CQ (n+1) (l,false,s.1,s.2.1,s.2.2)=some (Hn n l s):=by
 intro n;induction n with
 |zero=>
  intro l s h;have:l=[]:=List.eq_nil_of_length_eq_zero (by omega);subst this;rw[BQ (Aht s)]; simp[Hn]
 |succ n ih=>
  intro l s h;match l,h with
  | [],_=>rw[BQ (Aht s)]; simp[Hn]
  | [x],_=>
   rw[AI (Ahs false x s)];have:=ih [] (Nm (Dm s.1 x,s.2.1,s.2.2)) (by simp);rw[this]; simp[Hn]
  |x::y::l,h=>
   rw[AI (Ahr false x y l s)];have:=ih l (Nm (Dm s.1 x,Dm s.2.1 y,s.2.2)) (by simp at h; omega);rw[this]; simp[Hn]
def Aa8 (l:List UInt64)(s:UInt64×UInt64×UInt64):UInt64×UInt64×UInt64:=match l with| []=>Nm s|l=>Hn l.length l s
def AiV (b:List UInt8):UInt64×UInt64:=((Aa8 (pof b.length b) (0,0,toU (b.length:Int))).1,(Aa8 (pof b.length b) (0,0,toU (b.length:Int))).2.1)
theorem sum_eq (b:List UInt8)(hb:b.length≤900000):MB b=some (AiV b):=by
 simp only[MB,of_eq b hb,Aa];have hl:=AcE b.length b;have hk:AiV b=((Aa8 (pof b.length b) (0,0,toU (b.length:Int))).1,(Aa8 (pof b.length b) (0,0,toU (b.length:Int))).2.1):=rfl;rw[hk];clear hk;generalize pof b.length b=l at*;have h:iter CQ Bl (l,true,0,0,toU (b.length:Int))=some (Aa8 l (0,0,toU (b.length:Int))):=by
  refine E8 (l.length+2) ?_ (by omega);match l with
  | []=>
   rw[show([]:List UInt64).length+2=1+1 from rfl,AI (b3_nil true rfl (0,0,toU (b.length:Int)))];have:=YF 0 [] (Nm (0,0,toU (b.length:Int))) (by simp);rw[this]; simp[Hn,Aa8]
  | [x]=>
   rw[show([x]:List UInt64).length+2=2+1 from rfl,AI (Ahs true x (0,0,toU (b.length:Int)))];have:=YF 1 [] (Nm (Dm 0 x,0,toU (b.length:Int))) (by simp);rw[this]; simp[Hn,Aa8]
  |x::y::l=>
   rw[AI (Ahr true x y l (0,0,toU (b.length:Int)))];have:=YF (l.length+2) l (Nm (Dm 0 x,Dm 0 y,toU (b.length:Int))) (by omega);have e:(x::y::l).length+1=l.length+2+1:=rfl;rw[e,this];simp only[Hn,Aa8,AjD];congr 1;clear this hl;have: ∀(n k:Nat) (l:List UInt64) (s:UInt64×UInt64×UInt64),l.length≤n→l.length≤k→Hn n l s=Hn k l s:=by
    intro n;induction n with
    |zero=>intro k l s h _; have:l=[]:=List.eq_nil_of_length_eq_zero (by omega); subst this; simp[Hn]
    |succ n ih=>
     intro k l s h hk;match l,k,h,hk with
     | [],k,_,_=>cases k<;>simp[Hn]
     | [x],k+1,_,_=>simp[Hn]
     |x::y::l,k+1,h,hk=>simp only[Hn]; exact ih k l _ (by simp at h; omega) (by simp at hk; omega)
   exact this _ _ _ _ (by omega) (by omega)
 rw[h];simp only[Aa]
def Nz:Nat→UInt64→List UInt8
 |0,_=> []
 |k+1,n=>toB ((En n (8*k)).toNat:Int)::Nz k n
theorem Ej (k:Nat)(n:UInt64):(Nz k n).length=k:=by induction k with|zero=>rfl|succ k ih=>simp[Nz,ih]
theorem AeV (n:UInt64): ∀(k:Nat) (b:List UInt8),k≤8→b.length+k≤1000000→iter (II n) (k+1) (b,(k:Int)-1)=some (b++Nz k n):=by
 intro k;induction k with
 |zero=>intro b _ _; refine BQ ?_; simp only[II,Nz,Akk]; rw[AjG (by simp)]
 |succ k ih=>
  intro b hk hb;have hw:w64 (8*(((k+1:Nat):Int)-1))=((8*k:Nat):Int):=by rw[BU (by omega) (by omega)]; omega
  have hw2:w64 ((((k+1:Nat):Int)-1)-1)=(k:Int)-1:=by rw[BU (by omega) (by omega)]; omega
  rw[AI (s':=(b++[toB ((En n (8*k)).toNat:Int)],(k:Int)-1))]
  ·rw[ih _ (by omega) (by simp; omega)]; simp[Nz]
  ·simp only[II,hw,hw2];rw[AjF (AjN (by omega)),AjF (by omega),G3 1 (by simp; omega) (by simp; omega)];simp only[Aa,AkQ]
theorem Acr (n:UInt64)(k:Nat)(b:List UInt8)(hk:k≤8)(hb:b.length≤900000):Fq b n (k:Int)=some (b++Nz k n):=by
 have hw:w64 ((k:Int)-1)=(k:Int)-1:=BU (by omega) (by omega);simp only[Fq,hw,E8 (k+1) (AeV n k b hk (by omega)) (by omega),Aa]
def Q1 (s:UInt64×UInt64):List UInt8:=Nz 8 s.1++Nz 8 s.2
theorem SO (s:UInt64×UInt64):(Q1 s).length=16:=by simp[Q1,Ej]
theorem Af5 (s:UInt64×UInt64):Ec s=some (Q1 s):=by
 have e0:idx [s.1,s.2] 0=some s.1:=rfl;have e1:idx [s.1,s.2] 1=some s.2:=rfl;have h0:Fq [] s.1 8=some ([]++Nz 8 s.1):=Acr s.1 8 [] (by omega) (by simp);have h1:Fq (Nz 8 s.1) s.2 8=some (Nz 8 s.1++Nz 8 s.2):=Acr s.2 8 _ (by omega) (by rw[Ej]; omega);simp[Ec,B3,Mj,e0,e1,h0,h1,Q1]
def AaF:List UInt8→List (List UInt8)→List UInt8
 |b,[]=>b
 |b,p::ps=>AaF (b++Nz 4 (toU (p.length:Int))++p) ps
def Zl:List (List UInt8)→Nat
 | []=>0
 |p::ps=>4+p.length+Zl ps
theorem Wi: ∀(ps:List (List UInt8)) (b:List UInt8),(AaF b ps).length=b.length+Zl ps:=by
 intro ps;induction ps with
 |nil=>intro b; rfl
 |cons p ps ih=>intro b; simp only[AaF,ih,Zl,AjJ,Ej]; omega
theorem Aez: ∀(ps:List (List UInt8)) (i:Int) (b:List UInt8),b.length+Zl ps≤800000→Db Iq ps i b=some (AaF b ps):=by
 intro ps;induction ps with
 |nil=>intro i b _; rfl
 |cons p ps ih=>
  intro i b h;simp only[Zl]at h;have h0:Fq b (toU (p.length:Int)) 4=some (b++Nz 4 (toU (p.length:Int))):=Acr _ 4 b (by omega) (by omega);simp only[Db,Iq,h0,Aa];rw[G3 1 (by simp[Ej]; omega) (by simp[Ej]; omega)];simp only[Aa];rw[ih _ _ (by simp[Ej]; omega)];rfl
def AgF (t:ByteArray)(ps:List (List UInt8)):UInt64×UInt64:=AiV (AaF (toB (t.size:Int)::t.data.toList) ps)
theorem QN (t:ByteArray)(ps:List (List UInt8))(h:t.data.toList.length+Zl ps≤700000):Da t ps=some (AgF t ps):=by
 simp only[Da];rw[G3 1 (by simp at h⊢; omega) (by simp at h⊢; omega)];simp only[Aa];rw[Aez _ _ _ (by simp at h⊢; omega)];simp only[Aa];rw[sum_eq _ (by rw[Wi]; simp at h⊢; omega)];rfl
def ppair (a b:UInt64×UInt64):UInt64×UInt64:=AgF ⟨#[110,111,100,101]⟩ [Q1 a,Q1 b]
end Go.Proofs.YtibojdgdjhngiaaGreatDoor
end
section
namespace Go.Proofs.YtibojdgdjhngiaaGreatDoor
open Go Go.Gw Go.Ax
abbrev FP:Nat:=2305843009213693951
theorem litP:(2305843009213693951:UInt64).toNat=FP:=rfl
theorem and_P (n:Nat):n&&&2305843009213693951=n%2305843009213693952:=Nat.and_two_pow_sub_one_eq_mod n 61
theorem I5 {n:Nat}(h:n<18446744073709551616):(toU (n:Int)).toNat=n:=by
 unfold toU;rw[UInt64.toNat_ofNat'];omega
theorem shlU3 {h:UInt64}(hh:h.toNat<288230376151711744):(JO h 3).toNat=8*h.toNat:=by
 unfold JO;rw[show(h.toNat:Int)*2^ (min 3 64)=((8*h.toNat:Nat):Int)from by
  rw[show min 3 64=3 from rfl]; omega]
 exact I5 (by omega)
theorem Dy (x:UInt64)(k:Nat)(hk:k≤64):(En x k).toNat=x.toNat/2^k:=by
 unfold En;rw[UInt64.toNat_ofNat',Nat.min_eq_left hk];exact Ako (AkI (Nat.div_le_self _ _) x.toNat_lt)
theorem or_add {a b:Nat}(h:b<8):8*a|||b=8*a+b:=(Nat.two_pow_add_eq_or_of_lt (i:=3) h a).symm
theorem Wg {h l:UInt64}(hh:h.toNat<288230376151711744):(AaE h l).toNat=(h.toNat*18446744073709551616+l.toNat)%FP:=by
 have hl:=l.toNat_lt;have e1:(l&&&2305843009213693951).toNat=l.toNat%2305843009213693952:=by rw[UInt64.toNat_and,litP]; exact and_P _
 have e2:(En l 61).toNat=l.toNat/2305843009213693952:=Dy l 61 (by omega);have e3:((JO h 3)|||(En l 61)).toNat=8*h.toNat+l.toNat/2305843009213693952:=by
  rw[UInt64.toNat_or,shlU3 hh,e2]; exact or_add (by omega)
 have e4:((l&&&2305843009213693951)+((JO h 3)|||(En l 61))).toNat=l.toNat%2305843009213693952+(8*h.toNat+l.toNat/2305843009213693952):=by
  rw[UInt64.toNat_add,e1,e3]; omega
 unfold AaE;generalize hn:(l&&&2305843009213693951)+((JO h 3)|||(En l 61))=n at*;have e5:(n&&&2305843009213693951).toNat=n.toNat%2305843009213693952:=by rw[UInt64.toNat_and,litP]; exact and_P _
 have e6:(En n 61).toNat=n.toNat/2305843009213693952:=Dy n 61 (by omega);have e7:((n&&&2305843009213693951)+En n 61).toNat=n.toNat%2305843009213693952+n.toNat/2305843009213693952:=by rw[UInt64.toNat_add,e5,e6]; omega
 dsimp only;generalize (n&&&2305843009213693951)+En n 61=k at*;split
 ·rename_i hk;rw[UInt64.toNat_sub_of_le _ _ (by rw[UInt64.le_iff_toNat_le]; exact hk),litP];simp only[FP]at*;omega
 ·simp only[FP]at*;omega
theorem KV (a:UInt64):(RL a).toNat=a.toNat%FP:=by
 unfold RL;rw[Wg (by decide)];simp
theorem KW (a b:UInt64):(Dm a b).toNat=(a.toNat%FP+b.toNat%FP)%FP:=by
 unfold Dm;rw[KV,UInt64.toNat_add,KV,KV];simp only[FP];omega
theorem Afa {p q r s:Nat}(hp:p<4294967296)(hq:q<4294967296)(hr:r<4294967296)(hs:s<4294967296):
  (p*r+((p*s+q*s/4294967296)/4294967296)+(((p*s+q*s/4294967296)%4294967296+q*r)/4294967296))=((p*4294967296+q)*(r*4294967296+s))/18446744073709551616:=by
 have h1:(p*4294967296+q)*(r*4294967296+s)=(p*r)*18446744073709551616+(p*s+q*r)*4294967296+q*s:=by
  rw[Nat.add_mul,Nat.mul_add,Nat.mul_add,Nat.add_mul];have a1:p*4294967296*(r*4294967296)=p*r*18446744073709551616:=by rw[Nat.mul_assoc,Nat.mul_left_comm 4294967296,←Nat.mul_assoc p]
  have a2:p*4294967296*s=p*s*4294967296:=Nat.mul_right_comm _ _ _;have a3:q*(r*4294967296)=q*r*4294967296:=(Nat.mul_assoc _ _ _).symm;rw[a1,a2,a3]; omega
 rw[h1];generalize p*r=A;generalize p*s=B;generalize q*r=C;generalize q*s=D;omega
theorem UG (a b:UInt64):(phi a b).toNat=(a.toNat*b.toNat)/18446744073709551616:=by
 have ha:=a.toNat_lt;have hb:=b.toNat_lt;have m32: ∀x:UInt64,(x&&&4294967295).toNat=x.toNat%4294967296:=fun x=>by
  rw[UInt64.toNat_and]; exact Nat.and_two_pow_sub_one_eq_mod _ 32
 have s32: ∀x:UInt64,(En x 32).toNat=x.toNat/4294967296:=fun x=>Dy x 32 (by omega);have hp:a.toNat/4294967296<4294967296:=by omega
 have hq:a.toNat%4294967296<4294967296:=by omega
 have hr:b.toNat/4294967296<4294967296:=by omega
 have hs:b.toNat%4294967296<4294967296:=by omega
 have ea:a.toNat/4294967296*4294967296+a.toNat%4294967296=a.toNat:=Nat.div_add_mod' _ _;have eb:b.toNat/4294967296*4294967296+b.toNat%4294967296=b.toNat:=Nat.div_add_mod' _ _;have key:=Afa hp hq hr hs;rw[ea,eb]at key;have bd: ∀x y:Nat,x<4294967296→y<4294967296→x*y≤18446744065119617025:=fun x y hx hy=>Nat.mul_le_mul (show x≤4294967295 by omega) (show y≤4294967295 by omega);have b1:=bd _ _ hp hr;have b2:=bd _ _ hp hs;have b3:=bd _ _ hq hr;have b4:=bd _ _ hq hs;have ab:a.toNat*b.toNat/18446744073709551616<18446744073709551616:=by
  rw[Nat.div_lt_iff_lt_mul (by omega)];exact AkI (Nat.mul_le_mul (show a.toNat≤18446744073709551615 by omega) (show b.toNat≤18446744073709551615 by omega)) (by omega)
 unfold phi;dsimp only;rw[←key]at ab⊢;simp only[UInt64.toNat_add,UInt64.toNat_mul,s32,m32];generalize a.toNat/4294967296*(b.toNat/4294967296)=A at*;generalize a.toNat/4294967296*(b.toNat%4294967296)=B at*;generalize a.toNat%4294967296*(b.toNat/4294967296)=C at*;generalize a.toNat%4294967296*(b.toNat%4294967296)=D at*;omega
theorem UD (a b:UInt64):(Aa7 a b).toNat=(a.toNat*b.toNat)%FP:=by
 have h1:(RL a).toNat<FP:=by rw[KV]; exact Nat.mod_lt _ (by decide)
 have h2:(RL b).toNat<FP:=by rw[KV]; exact Nat.mod_lt _ (by decide)
 simp only[FP]at h1 h2;have hm:(RL a).toNat*(RL b).toNat<5316911983139663491615228241121378304:=AkI (Nat.mul_le_mul (show(RL a).toNat≤2305843009213693950 by omega) (show(RL b).toNat≤2305843009213693950 by omega)) (by omega);unfold Aa7;rw[Wg (by rw[UG]; omega),UG,UInt64.toNat_mul];have:(RL a).toNat*(RL b).toNat/18446744073709551616*18446744073709551616+(RL a).toNat*(RL b).toNat%2^64=(RL a).toNat*(RL b).toNat:=by omega
 rw[this,KV,KV,←Nat.mul_mod]
theorem AeX (a:UInt64):(PR a).toNat=a.toNat^17%FP:=by
 unfold PR;dsimp only;simp only[UD,Nat.mul_mod_mod,Nat.mod_mul_mod];congr 1;rw[show(17:Nat)=1+16 from rfl,Nat.pow_add,Nat.pow_one];congr 1;generalize a.toNat=x;rw[show(16:Nat)=2*2*2*2 from rfl,Nat.pow_mul,Nat.pow_mul,Nat.pow_mul];simp only[Nat.pow_two]
theorem Xw {a b:UInt64}(h:a.toNat=b.toNat):a=b:=UInt64.toNat_inj.1 h
end Go.Proofs.YtibojdgdjhngiaaGreatDoor
end
section
namespace Go.Proofs.YtibojdgdjhngiaaGreatDoor
open Go Go.Gw Go.Ax
section
variable {x4 x5 x7 y u:UInt64}
theorem dq_lt (hd:x7.toNat<4294967296)(hu:u.toNat<y.toNat):(u.toNat*4294967296+x7.toNat)/y.toNat<4294967296:=by
 rw[Nat.div_lt_iff_lt_mul (by omega)];have:(u.toNat+1)*4294967296≤y.toNat*4294967296:=Nat.mul_le_mul_right _ hu;omega
theorem dcond {q r:UInt64}(h1:2147483648≤x4.toNat∧x4.toNat<4294967296)(h0:x5.toNat<4294967296)(hd:x7.toNat<4294967296)(hy:y.toNat=x4.toNat*4294967296+x5.toNat)(hu:u.toNat<y.toNat)
  (hq:q.toNat*x4.toNat+r.toNat=u.toNat) (hr:r.toNat<4294967296):
  (((decide ((q.toNat:Int)≥4294967296))||(decide (((q*x5).toNat:Int)>(((4294967296*r)+x7).toNat:Int))))=true↔(u.toNat*4294967296+x7.toNat)/y.toNat<q.toNat):=by
 have hlt:=dq_lt hd hu;have e1:((4294967296*r)+x7).toNat=4294967296*r.toNat+x7.toNat:=by
  rw[UInt64.toNat_add,UInt64.toNat_mul,show(4294967296:UInt64).toNat=4294967296 from rfl]; omega
 rw[Akl,AjI,AjI,e1];by_cases hb:4294967296≤q.toNat
 ·constructor
  ·intro _; omega
  ·intro _; left; omega
 ·have hB:q.toNat*x5.toNat≤4294967295*4294967295:=Nat.mul_le_mul (by omega) (by omega);have e2:(q*x5).toNat=q.toNat*x5.toNat:=by rw[UInt64.toNat_mul]; omega
  have e3:q.toNat*y.toNat=q.toNat*x4.toNat*4294967296+q.toNat*x5.toNat:=by rw[hy,Nat.mul_add,Nat.mul_assoc]
  rw[e2,Nat.div_lt_iff_lt_mul (by omega),e3];generalize q.toNat*x4.toNat=A at*;generalize q.toNat*x5.toNat=B at*;omega
theorem dstep {q r:UInt64}(h1:2147483648≤x4.toNat∧x4.toNat<4294967296)(h0:x5.toNat<4294967296)(hd:x7.toNat<4294967296)(hy:y.toNat=x4.toNat*4294967296+x5.toNat)(hu:u.toNat<y.toNat)
  (hq:q.toNat*x4.toNat+r.toNat=u.toNat) (hr:r.toNat<4294967296) (hq2:q.toNat≤4294967297) (hc:(u.toNat*4294967296+x7.toNat)/y.toNat<q.toNat):
  (q-1).toNat=q.toNat-1∧(r+x4).toNat=r.toNat+x4.toNat∧(q-1).toNat*x4.toNat+(r+x4).toNat=u.toNat∧(u.toNat*4294967296+x7.toNat)/y.toNat≤(q-1).toNat∧
  (4294967296≤(r+x4).toNat→(q-1).toNat=(u.toNat*4294967296+x7.toNat)/y.toNat):=by
 have q1:1≤q.toNat:=AkI (AkA _) hc;have e1:(q-1).toNat=q.toNat-1:=by rw[UInt64.toNat_sub_of_le _ _ (by rw[UInt64.le_iff_toNat_le]; exact q1)]; rfl
 have e2:(r+x4).toNat=r.toNat+x4.toNat:=by rw[UInt64.toNat_add]; omega
 have e3:(q.toNat-1)*x4.toNat+x4.toNat=q.toNat*x4.toNat:=by
  rw[←Nat.succ_mul]; congr 1; omega
 refine⟨e1,e2,by rw[e1,e2,Nat.add_comm r.toNat,←AkO,e3,hq],by rw[e1]; exact Nat.le_sub_one_of_lt hc,fun hb=> ?_⟩;rw[e2]at hb;refine Nat.le_antisymm ?_ (by rw[e1]; exact Nat.le_sub_one_of_lt hc);rw[e1,Nat.le_div_iff_mul_le (AkI (AkA _) hu)];clear hc e1 e2;have hB:(q.toNat-1)*x5.toNat≤4294967296*4294967295:=Nat.mul_le_mul (by omega) (by omega);have e4:(q.toNat-1)*y.toNat=(q.toNat-1)*x4.toNat*4294967296+(q.toNat-1)*x5.toNat:=by rw[hy,Nat.mul_add,Nat.mul_assoc]
 rw[e4];generalize (q.toNat-1)*x4.toNat=A at*;generalize (q.toNat-1)*x5.toNat=B at*;generalize q.toNat*x4.toNat=C at*;omega
theorem dloop1 (h1:2147483648≤x4.toNat∧x4.toNat<4294967296)(h0:x5.toNat<4294967296)(hd:x7.toNat<4294967296)(hy:y.toNat=x4.toNat*4294967296+x5.toNat)(hu:u.toNat<y.toNat):
  ∀(n:Nat) (q r:UInt64),q.toNat*x4.toNat+r.toNat=u.toNat→r.toNat<4294967296→q.toNat≤4294967297→(u.toNat*4294967296+x7.toNat)/y.toNat≤q.toNat→4294967296≤r.toNat+n*2147483648→
   ∃p,iter (E7 x4 x5 x7) (n+1) (q,r)=some p∧p.toNat=(u.toNat*4294967296+x7.toNat)/y.toNat:=by
 intro n;induction n with
 |zero=>intro q r _ hr _ _ hn; omega
 |succ n ih=>
  intro q r hq hr hq2 hle hn;have hc:=dcond h1 h0 hd hy hu hq hr;by_cases hcc:(u.toNat*4294967296+x7.toNat)/y.toNat<q.toNat
  ·obtain⟨s1,s2,s3,s4,s5⟩:=dstep h1 h0 hd hy hu hq hr hq2 hcc;by_cases hb:4294967296≤(r+x4).toNat
   ·refine⟨q-1,BQ ?_,s5 hb⟩;unfold E7;rw[AjF (hc.2 hcc),AjF (by rw[AjI]; dsimp only; omega)]
   ·obtain⟨p,p1,p2⟩:=ih (q-1) (r+x4) s3 (by omega) (by omega) s4 (by omega);refine⟨p,?_,p2⟩;rw[AI (s':=(q-1,r+x4)),p1];unfold E7;rw[AjF (hc.2 hcc),AjG (by rw[AjI]; dsimp only; omega)]
  ·refine⟨q,BQ ?_,by omega⟩;unfold E7;rw[AjG (fun h=>hcc (hc.1 h))]
theorem dloop2 (h1:2147483648≤x4.toNat∧x4.toNat<4294967296)(h0:x5.toNat<4294967296)(hd:x7.toNat<4294967296)(hy:y.toNat=x4.toNat*4294967296+x5.toNat)(hu:u.toNat<y.toNat):
  ∀(n:Nat) (q r:UInt64),q.toNat*x4.toNat+r.toNat=u.toNat→r.toNat<4294967296→q.toNat≤4294967297→(u.toNat*4294967296+x7.toNat)/y.toNat≤q.toNat→4294967296≤r.toNat+n*2147483648→
   ∃p,iter (E6 x4 x5 x7) (n+1) (r,q)=some p∧p.toNat=(u.toNat*4294967296+x7.toNat)/y.toNat:=by
 intro n;induction n with
 |zero=>intro q r _ hr _ _ hn; omega
 |succ n ih=>
  intro q r hq hr hq2 hle hn;have hc:=dcond h1 h0 hd hy hu hq hr;by_cases hcc:(u.toNat*4294967296+x7.toNat)/y.toNat<q.toNat
  ·obtain⟨s1,s2,s3,s4,s5⟩:=dstep h1 h0 hd hy hu hq hr hq2 hcc;by_cases hb:4294967296≤(r+x4).toNat
   ·refine⟨q-1,BQ ?_,s5 hb⟩;unfold E6;rw[AjF (hc.2 hcc),AjF (by rw[AjI]; dsimp only; omega)]
   ·obtain⟨p,p1,p2⟩:=ih (q-1) (r+x4) s3 (by omega) (by omega) s4 (by omega);refine⟨p,?_,p2⟩;rw[AI (s':=(r+x4,q-1)),p1];unfold E6;rw[AjF (hc.2 hcc),AjG (by rw[AjI]; dsimp only; omega)]
  ·refine⟨q,BQ ?_,by omega⟩;unfold E6;rw[AjG (fun h=>hcc (hc.1 h))]
theorem Ahe (h1:2147483648≤x4.toNat∧x4.toNat<4294967296)(h0:x5.toNat<4294967296)(hd:x7.toNat<4294967296)(hy:y.toNat=x4.toNat*4294967296+x5.toNat)(hu:u.toNat<y.toNat):
  (u/x4).toNat*x4.toNat+(u-(u/x4)*x4).toNat=u.toNat∧(u-(u/x4)*x4).toNat<4294967296∧(u/x4).toNat≤4294967297∧(u.toNat*4294967296+x7.toNat)/y.toNat≤(u/x4).toNat:=by
 have e1:(u/x4).toNat=u.toNat/x4.toNat:=UInt64.toNat_div _ _;have hmul:u.toNat/x4.toNat*x4.toNat≤u.toNat:=Nat.div_mul_le_self _ _;have hul:=u.toNat_lt;have e2:((u/x4)*x4).toNat=u.toNat/x4.toNat*x4.toNat:=by rw[UInt64.toNat_mul,e1]; omega
 have e3:(u-(u/x4)*x4).toNat=u.toNat-u.toNat/x4.toNat*x4.toNat:=by
  rw[UInt64.toNat_sub_of_le _ _ (by rw[UInt64.le_iff_toNat_le,e2]; exact hmul),e2]
 have e4:u.toNat-u.toNat/x4.toNat*x4.toNat=u.toNat%x4.toNat:=by
  have:=Nat.div_add_mod' u.toNat x4.toNat; omega
 have e5:=Nat.mod_lt u.toNat (show 0<x4.toNat by omega);refine⟨by rw[e1,e3]; omega,by rw[e3,e4]; omega,?_,?_⟩
 ·rw[e1];have:u.toNat/x4.toNat<4294967298:=by
   rw[Nat.div_lt_iff_lt_mul (by omega)];omega
  omega
 ·rw[e1,Nat.le_div_iff_mul_le (by omega)];have h2:(u.toNat*4294967296+x7.toNat)/y.toNat*y.toNat≤u.toNat*4294967296+x7.toNat:=Nat.div_mul_le_self _ _;generalize (u.toNat*4294967296+x7.toNat)/y.toNat=Q at*;have h3:Q*y.toNat=Q*x4.toNat*4294967296+Q*x5.toNat:=by rw[hy,Nat.mul_add,Nat.mul_assoc]
  rw[h3]at h2;generalize Q*x4.toNat=A at*;generalize Q*x5.toNat=B at*;omega
theorem drest {q:UInt64}(hu:u.toNat<y.toNat)(hq:q.toNat=(u.toNat*4294967296+x7.toNat)/y.toNat):(((u*4294967296)+x7)-(q*y)).toNat=(u.toNat*4294967296+x7.toNat)%y.toNat:=by
 have hyl:=y.toNat_lt;have hm:=Nat.mod_lt (u.toNat*4294967296+x7.toNat) (show 0<y.toNat by omega);have hdm:=Nat.div_add_mod' (u.toNat*4294967296+x7.toNat) y.toNat;rw[UInt64.toNat_sub,UInt64.toNat_add,UInt64.toNat_mul,UInt64.toNat_mul,hq,show(4294967296:UInt64).toNat=4294967296 from rfl];generalize (u.toNat*4294967296+x7.toNat)/y.toNat*y.toNat=Z at*;omega
end
theorem P2 {x:UInt64}{k:Nat}(hk:k≤63):(JO x k).toNat=(x.toNat*2^k)%18446744073709551616:=by
 unfold JO;rw[Nat.min_eq_left (by omega),show(x.toNat:Int)*2^k=((x.toNat*2^k:Nat):Int)from by simp];unfold toU;rw[UInt64.toNat_ofNat'];generalize x.toNat*2^k=z;omega
theorem or_nat {a b k:Nat}(h:b<2^k):a*2^k|||b=a*2^k+b:=by
 rw[AkM]; exact(Nat.two_pow_add_eq_or_of_lt h a).symm
theorem ZS {hi lo y0:UInt64}{s:Nat}(hs:s≤63)(hlz:DG y0=some (s:Int))(hn1:9223372036854775808≤y0.toNat*2^s)(hn2:y0.toNat*2^s<18446744073709551616)(hh:hi.toNat<y0.toNat):
  ∃q r,Ie hi lo y0=some (q,r)∧r.toNat=(hi.toNat*18446744073709551616+lo.toNat)%y0.toNat:=by
 have hyne:y0≠0:=fun e=>by rw[e]at hh; simp at hh
 unfold Ie;rw[AjG (by rw[Akg]; omega),Aa,AjG (by rw[AjI]; omega),Aa];by_cases hz:hi.toNat=0
 ·rw[AjF (by rw[Akg]; omega),AjF hyne,AjF hyne];refine⟨_,_,rfl,?_⟩;rw[UInt64.toNat_mod,hz]; simp
 ·have hts:(toU (s:Int)).toNat=s:=I5 (by omega);have h64:(64-toU (s:Int)).toNat=64-s:=by
   rw[UInt64.toNat_sub_of_le _ _ (by rw[UInt64.le_iff_toNat_le,hts]; show s≤64; omega),hts]; rfl
  rw[AjG (by rw[Akg]; omega),hlz,Aa,hts,h64];simp only[Cm];have hps:0<2^s:=Nat.two_pow_pos s;have hpp:2^s*2^ (64-s)=18446744073709551616:=by rw[←Nat.pow_add,show s+(64-s)=64 from by omega]
  have hY:(JO y0 s).toNat=y0.toNat*2^s:=by rw[P2 (by omega)]; exact Ako hn2
  have hlo:=lo.toNat_lt;have hlod:lo.toNat/2^ (64-s)<2^s:=by rw[Nat.div_lt_iff_lt_mul (Nat.two_pow_pos _),hpp]; omega
  have hhs:hi.toNat*2^s+2^s≤y0.toNat*2^s:=by rw[←Nat.succ_mul]; exact Nat.mul_le_mul_right _ hh
  have hU:((JO hi s)|||(En lo (64-s))).toNat=hi.toNat*2^s+lo.toNat/2^ (64-s):=by
   rw[UInt64.toNat_or,P2 (by omega),Dy _ _ (by omega),Ako (by omega),or_nat hlod]
  have hL:(JO lo s).toNat=(lo.toNat*2^s)%18446744073709551616:=P2 (by omega);have m32: ∀x:UInt64,(x&&&4294967295).toNat=x.toNat%4294967296:=fun x=>by
   rw[UInt64.toNat_and]; exact Nat.and_two_pow_sub_one_eq_mod _ 32
  have s32: ∀x:UInt64,(En x 32).toNat=x.toNat/4294967296:=fun x=>Dy x 32 (by omega);have hlos:lo.toNat*2^s=lo.toNat/2^ (64-s)*18446744073709551616+(lo.toNat*2^s)%18446744073709551616:=by
   have e1:lo.toNat*2^s/18446744073709551616=lo.toNat/2^ (64-s):=by
    rw[←hpp,AkM,Nat.mul_div_mul_left _ _ hps]
   rw[←e1]; exact(Nat.div_add_mod' _ _).symm
  have hN:(hi.toNat*18446744073709551616+lo.toNat)*2^s=(hi.toNat*2^s+lo.toNat/2^ (64-s))*18446744073709551616+(lo.toNat*2^s)%18446744073709551616:=by
   rw[Nat.add_mul,hlos,Nat.add_mul,Nat.mul_right_comm];omega
  generalize hgy:JO y0 s=y at*;generalize hgu:(JO hi s)|||(En lo (64-s))=u at*;generalize hgl:JO lo s=l at*;have hyl:=y.toNat_lt;have a1:2147483648≤(En y 32).toNat∧(En y 32).toNat<4294967296:=by rw[s32]; omega
  have a0:(y&&&4294967295).toNat<4294967296:=by rw[m32]; omega
  have ay:y.toNat=(En y 32).toNat*4294967296+(y&&&4294967295).toNat:=by rw[s32,m32]; omega
  have ad:(En l 32).toNat<4294967296:=by rw[s32]; have:=l.toNat_lt; omega
  have ae:(l&&&4294967295).toNat<4294967296:=by rw[m32]; omega
  have au:u.toNat<y.toNat:=by rw[hU,hY]; omega
  have hx4:En y 32≠0:=fun e=>by rw[e]at a1; simp at a1
  obtain⟨b1,b2,b3,b4⟩:=Ahe a1 a0 ad ay au;obtain⟨q1,c1,c2⟩:=dloop1 a1 a0 ad ay au 2 _ _ b1 b2 b3 b4 (by omega);have hr1:=drest au c2;have hr1l:=Nat.mod_lt (u.toNat*4294967296+(En l 32).toNat) (show 0<y.toNat by omega);rw[AjF hx4,E8 _ c1 (by omega),Aa,Aa,AjF hx4];generalize hgv:((u*4294967296)+(En l 32))-(q1*y)=v at*;have av:v.toNat<y.toNat:=by omega
  obtain⟨d1,d2,d3,d4⟩:=Ahe a1 a0 ae ay av;obtain⟨q0,e1,e2⟩:=dloop2 a1 a0 ae ay av 2 _ _ d1 d2 d3 d4 (by omega);have hr0:=drest av e2;rw[E8 _ e1 (by omega),Aa,Aa];refine⟨_,_,rfl,?_⟩;rw[Dy _ _ (by omega),hr0,hr1];have f1:(((u.toNat*4294967296+(En l 32).toNat)%y.toNat)*4294967296+(l&&&4294967295).toNat)%y.toNat=((hi.toNat*18446744073709551616+lo.toNat)*2^s)%y.toNat:=by
   rw[Nat.add_mod,Nat.mod_mul_mod,←Nat.add_mod,hN,←hU,←hL,s32,m32];have e9:(u.toNat*4294967296+l.toNat/4294967296)*4294967296+l.toNat%4294967296=u.toNat*18446744073709551616+l.toNat:=by omega
   rw[e9]
  rw[f1,hY,Nat.mul_mod_mul_right,Nat.mul_div_cancel _ hps]
end Go.Proofs.YtibojdgdjhngiaaGreatDoor
end
section
namespace Go.Proofs.YtibojdgdjhngiaaGreatDoor
open Go Go.Gw Go.Ax
abbrev GR:Nat:=1152921504606845789
def Dv (y:UInt64):Prop:= ∃s:Nat,s≤63∧DG y=some (s:Int)∧9223372036854775808≤y.toNat*2^s∧y.toNat*2^s<18446744073709551616
theorem dvQ:Dv 2305843009213691579:=⟨3,by omega,by kernel_rfl,by decide,by decide⟩
theorem dvR:Dv 1152921504606845789:=⟨4,by omega,by kernel_rfl,by decide,by decide⟩
theorem dvR1:Dv 1152921504606845788:=⟨4,by omega,by kernel_rfl,by decide,by decide⟩
theorem Dv.pos {y:UInt64}(h:Dv y):0<y.toNat:=by
 obtain⟨s,_,_,h1,_⟩:=h;by_cases e:y.toNat=0
 ·rw[e]at h1; simp at h1
 ·omega
theorem AgD {y:UInt64}(h:Dv y)(hi lo:UInt64): ∃z,Gn hi lo y=some z∧z.toNat=(hi.toNat*18446744073709551616+lo.toNat)%y.toNat:=by
 have hpos:=h.pos;obtain⟨s,h1,h2,h3,h4⟩:=h;have hyne:y≠0:=fun e=>by rw[e]at hpos; simp at hpos
 have hm:(hi%y).toNat=hi.toNat%y.toNat:=UInt64.toNat_mod _ _;obtain⟨q,r,e1,e2⟩:=ZS (hi:=hi%y) (lo:=lo) h1 h2 h3 h4 (by rw[hm]; exact Nat.mod_lt _ hpos);refine⟨r,?_,?_⟩
 ·unfold Gn;rw[AjF hyne,e1,Aa]
 ·rw[e2,hm,Nat.add_mod,Nat.mod_mul_mod,←Nat.add_mod]
def ofN (n:Nat):UInt64:=UInt64.ofNat n
theorem AcQ {n:Nat}(h:n<18446744073709551616):(ofN n).toNat=n:=by
 unfold ofN; rw[UInt64.toNat_ofNat']; exact Ako h
theorem Air (n:Nat){y:UInt64}(h:0<y.toNat):(ofN (n%y.toNat)).toNat=n%y.toNat:=AcQ (AkN (Nat.mod_lt _ h) (Nat.le_of_lt y.toNat_lt))
theorem Zq {z:UInt64}{n:Nat}(h:z.toNat=n):z=ofN n:=by
 rw[←h]; exact Xw (AcQ z.toNat_lt).symm
def AaJ (y a b:UInt64):UInt64:=ofN ((a.toNat*b.toNat)%y.toNat)
theorem Zu {y:UInt64}(h:Dv y)(a b:UInt64):(AaJ y a b).toNat=(a.toNat*b.toNat)%y.toNat:=Air _ h.pos
theorem OQ {y:UInt64}(h:Dv y)(a b:UInt64):Di y a b=some (AaJ y a b):=by
 obtain⟨z,e1,e2⟩:=AgD h (phi a b) (a*b);unfold Di;rw[UO,Aa,e1,Aa];rw[UG,UInt64.toNat_mul,Nat.div_add_mod']at e2;rw[Zq e2]; rfl
def addM (y a b:UInt64):UInt64:=ofN ((a.toNat+b.toNat)%y.toNat)
theorem W3 (a b:UInt64):(JD a b).toNat*18446744073709551616+(a+b).toNat=a.toNat+b.toNat:=by
 have:=a.toNat_lt;have:=b.toNat_lt;unfold JD;rw[UInt64.toNat_ofNat',UInt64.toNat_add];omega
theorem Aaz {y:UInt64}(h:Dv y)(a b:UInt64):DZ y a b=some (addM y a b):=by
 have hpos:=h.pos;have hyne:y≠0:=fun e=>by rw[e]at hpos; simp at hpos
 obtain⟨z,e1,e2⟩:=AgD h (JD (a%y) (b%y)) ((a%y)+(b%y));unfold DZ;rw[AjF hyne,AjF hyne,e1,Aa];rw[W3,UInt64.toNat_mod,UInt64.toNat_mod,←Nat.add_mod]at e2;rw[Zq e2]; rfl
theorem Aiu {P d r c sm t:Nat}(hP:d*18446744073709551616+r=P)(hr:r<18446744073709551616)(hd:d<2305843009213693952)(hc:c*18446744073709551616+sm=r+t)(ht:t<18446744073709551616):
  ((d+c)%18446744073709551616)*18446744073709551616+sm=P+t:=by
 have h1:c≤1:=by omega
 rw[Ako (show d+c<18446744073709551616 by omega),Nat.add_mul,←hP,AkO,hc,AkO]
def numM (s:UInt64×UInt64)(y:UInt64):UInt64:=ofN ((s.1.toNat*2305843009213693952+s.2.toNat)%y.toNat)
theorem AgK {y:UInt64}(h:Dv y)(s:UInt64×UInt64):KB s y=some (numM s y):=by
 have hpos:=h.pos;have hyne:y≠0:=fun e=>by rw[e]at hpos; simp at hpos
 obtain⟨t,h1,h2,h3,h4⟩:=h;have hp:(phi s.1 2305843009213693952).toNat=s.1.toNat*2305843009213693952/18446744073709551616:=UG _ _;have hl:(s.1*2305843009213693952).toNat=s.1.toNat*2305843009213693952%18446744073709551616:=UInt64.toNat_mul _ _;have hs1:=s.1.toNat_lt;have hs2:=s.2.toNat_lt;have hc:=W3 (s.1*2305843009213693952) s.2;have AiV:(phi s.1 2305843009213693952+JD (s.1*2305843009213693952) s.2).toNat*18446744073709551616+(s.1*2305843009213693952+s.2).toNat=s.1.toNat*2305843009213693952+s.2.toNat:=by
  rw[UInt64.toNat_add,hp];rw[hl]at hc;have hdl:s.1.toNat*2305843009213693952/18446744073709551616<2305843009213693952:=by
   rw[Nat.div_lt_iff_lt_mul (by decide),AkM (2305843009213693952)];exact Nat.mul_lt_mul_of_pos_right hs1 (by decide)
  exact Aiu (Nat.div_add_mod' _ _) (Nat.mod_lt _ (by decide)) hdl hc hs2
 have hm:((phi s.1 2305843009213693952+JD (s.1*2305843009213693952) s.2)%y).toNat=(phi s.1 2305843009213693952+JD (s.1*2305843009213693952) s.2).toNat%y.toNat:=UInt64.toNat_mod _ _;obtain⟨q,r,e1,e2⟩:=ZS (hi:=(phi s.1 2305843009213693952+JD (s.1*2305843009213693952) s.2)%y) (lo:=s.1*2305843009213693952+s.2) h1 h2 h3 h4 (by rw[hm]; exact Nat.mod_lt _ hpos);unfold KB;rw[AjG (by rw[Akg]; omega),UO,Aa,AjF hyne];dsimp only;rw[e1,Aa];rw[hm,Nat.add_mod,Nat.mod_mul_mod,←Nat.add_mod,AiV]at e2;rw[Zq e2]; rfl
theorem AeC:((List.range 256).all fun n=>decide (n<2^ (str_0.data.toList.getD n 0).toNat)&&decide ((str_0.data.toList.getD n 0).toNat≤8))=true:=by kernel_rfl
theorem AeB:str_0.data.toList.length=256:=by kernel_rfl
theorem tabL (x:UInt64)(hx:x.toNat<256): ∃b,idx str_0.data.toList ((toB (x.toNat:Int)).toNat:Int)=some b∧x.toNat<2^b.toNat∧b.toNat≤8:=by
 have hb:(toB (x.toNat:Int)).toNat=x.toNat:=by unfold toB; rw[UInt8.toNat_ofNat']; omega
 have h:=Aj7.1 AeC x.toNat (List.mem_range.2 hx);rw[AjE,AjI,AjI]at h;have hlt:x.toNat<str_0.data.toList.length:=by rw[AeB]; exact hx
 rw[List.getD_eq_getElem?_getD,Aks hlt,Option.getD_some]at h;rw[hb];exact⟨str_0.data.toList[x.toNat],Gi (by simp),h.1,h.2⟩
theorem Afl (a:UInt64): ∃L:Nat,Gp a=some (L:Int)∧a.toNat<2^L∧L≤64:=by
 have ha:=a.toNat_lt;have h1: ∃(x:UInt64) (n:Nat),(if(decide ((a.toNat:Int)≥4294967296))=true then some ((En a 32),(32:Int))else some (a,0))=some (x,(n:Int))∧n≤32∧x.toNat<4294967296∧a.toNat<(x.toNat+1)*2^n:=by
  split
  ·refine⟨En a 32,32,rfl,by omega,?_,?_⟩<;>rw[Dy a 32 (by omega)]<;>omega
  ·rename_i h; rw[AjI]at h; exact⟨a,0,rfl,by omega,by omega,by omega⟩
 obtain⟨x,n,e1,n1,hx,hn⟩:=h1;have h2: ∃(y:UInt64) (k:Nat),(if(decide ((x.toNat:Int)≥65536))=true then some ((En x 16),(w64 ((n:Int)+16)))else some (x,(n:Int)))=some (y,(k:Int))∧k≤48∧y.toNat<65536∧a.toNat<(y.toNat+1)*2^k:=by
  split
  ·refine⟨En x 16,n+16,by rw[BU (by omega) (by omega)]; rfl,by omega,?_,?_⟩
   ·rw[Dy x 16 (by omega)]; omega
   ·rw[Dy x 16 (by omega),Nat.pow_add];refine AkN hn ?_;have:x.toNat+1≤(x.toNat/2^16+1)*2^16:=by omega
    calc (x.toNat+1)*2^n≤((x.toNat/2^16+1)*2^16)*2^n:=Nat.mul_le_mul_right _ this
     _=(x.toNat/2^16+1)*(2^n*2^16):=by rw[Nat.mul_assoc,AkM (2^16)]
  ·rename_i h; rw[AjI]at h; exact⟨x,n,rfl,by omega,by omega,hn⟩
 obtain⟨y,k,e2,k1,hy,hk⟩:=h2;have h3: ∃(z:UInt64) (j:Nat),(if(decide ((y.toNat:Int)≥256))=true then some ((En y 8),(w64 ((k:Int)+8)))else some (y,(k:Int)))=some (z,(j:Int))∧j≤56∧z.toNat<256∧a.toNat<(z.toNat+1)*2^j:=by
  split
  ·refine⟨En y 8,k+8,by rw[BU (by omega) (by omega)]; rfl,by omega,?_,?_⟩
   ·rw[Dy y 8 (by omega)]; omega
   ·rw[Dy y 8 (by omega),Nat.pow_add];refine AkN hk ?_;have:y.toNat+1≤(y.toNat/2^8+1)*2^8:=by omega
    calc (y.toNat+1)*2^k≤((y.toNat/2^8+1)*2^8)*2^k:=Nat.mul_le_mul_right _ this
     _=(y.toNat/2^8+1)*(2^k*2^8):=by rw[Nat.mul_assoc,AkM (2^8)]
  ·rename_i h; rw[AjI]at h; exact⟨y,k,rfl,by omega,by omega,hk⟩
 obtain⟨z,j,e3,j1,hz,hj⟩:=h3;obtain⟨b,e4,b1,b2⟩:=tabL z hz;refine⟨j+b.toNat,?_,?_,by omega⟩
 ·unfold Gp;rw[e1,Aa];dsimp only;rw[e2,Aa];dsimp only;rw[e3,Aa,e4,Aa,Cm,BU (n:=(b.toNat:Int)) (by omega) (by omega),BU (by omega) (by omega)]; rfl
 ·refine AkN hj ?_;rw[Nat.add_comm j,Nat.pow_add];exact Nat.mul_le_mul_right _ b1
def powN (y a n:UInt64):UInt64:=ofN (a.toNat^n.toNat%y.toNat)
theorem Ajz (n j:Nat):n&&&2^j=(n.testBit j).toNat*2^j:=by
 apply Nat.eq_of_testBit_eq;intro i;rw[Nat.testBit_and,Nat.testBit_two_pow];by_cases h:j=i
 ·subst h;cases hb:n.testBit j<;>simp[hb,Nat.testBit_two_pow_self]
 ·cases hb:n.testBit j<;>simp[h,Nat.testBit_two_pow]
theorem bit_eq (n:UInt64){j:Nat}(hj:j≤63):(((n&&&(JO 1 j)).toNat:Int) !=0)=decide (n.toNat/2^j%2=1):=by
 have h1:(JO 1 j).toNat=2^j:=by
  rw[P2 hj,show(1:UInt64).toNat=1 from rfl,Nat.one_mul];exact Ako (AkI (Nat.pow_le_pow_right (by omega) hj) (by decide))
 have h2:(n&&&(JO 1 j)).toNat=(n.toNat.testBit j).toNat*2^j:=by rw[UInt64.toNat_and,h1,Ajz]
 rw[h2];have hp:=Nat.two_pow_pos j;rw[Nat.testBit_eq_decide_div_mod_eq];by_cases hb:n.toNat/2^j%2=1
 ·simp only[hb,decide_true,Bool.toNat_true,Nat.one_mul];rw[bne_iff_ne]; omega
 ·simp only[hb,decide_false,Bool.toNat_false,Nat.zero_mul]; rfl
theorem pow_it (a n:UInt64): ∀(j:Nat) (out:UInt64),j≤64→out.toNat=a.toNat^ (n.toNat/2^j)% (2305843009213691579:UInt64).toNat→
  ∃r,iter (C1 (fun(s:UInt64) (b0:Bool)=>Ab (CI a b0 s) fun z=>some (true,z)) n) (j+1) ((j:Int)-1,out)=some (.inl r)∧r.toNat=a.toNat^n.toNat% (2305843009213691579:UInt64).toNat:=by
 have h:=dvQ;unfold CI;generalize (2305843009213691579:UInt64)=y at*;intro j;induction j with
 |zero=>
  intro out _ ho;refine⟨out,BQ ?_,by rw[ho]; simp⟩;unfold C1;rw[AjG (by simp)]
 |succ j ih=>
  intro out hj ho;have hw:w64 ((((j+1:Nat):Int)-1)-1)=(j:Int)-1:=by rw[BU (by omega) (by omega)]; omega
  have hk:(((j+1:Nat):Int)-1).toNat=j:=by omega
  have hbit:=bit_eq n (j:=j) (by omega);have hdiv:n.toNat/2^ (j+1)=n.toNat/2^j/2:=by rw[Nat.pow_succ,Nat.div_div_eq_div_mul]
  have hsq:(AaJ y out out).toNat=a.toNat^ (2*(n.toNat/2^ (j+1)))%y.toNat:=by
   rw[Zu h,ho,←Nat.mul_mod,←Nat.pow_add,←Nat.two_mul]
  by_cases hb:n.toNat/2^j%2=1
  ·have hn:(AaJ y (AaJ y out out) a).toNat=a.toNat^ (n.toNat/2^j)%y.toNat:=by
    rw[Zu h,hsq,Nat.mod_mul_mod,←Nat.pow_succ];congr 2; omega
   obtain⟨r,r1,r2⟩:=ih (AaJ y (AaJ y out out) a) (by omega) hn;refine⟨r,?_,r2⟩;rw[AI (s':=((j:Int)-1,AaJ y (AaJ y out out) a)),r1];unfold C1;dsimp only;rw[AjF (by rw[AjI]; omega),AjF (by omega),hk,hbit];simp only[OQ h,Aa,hb,decide_true,if_true,AkD,Bool.false_eq_true,if_false,hw]
  ·have hn:(AaJ y out out).toNat=a.toNat^ (n.toNat/2^j)%y.toNat:=by
    rw[hsq]; congr 2; omega
   obtain⟨r,r1,r2⟩:=ih (AaJ y out out) (by omega) hn;refine⟨r,?_,r2⟩;rw[AI (s':=((j:Int)-1,AaJ y out out)),r1];unfold C1;dsimp only;rw[AjF (by rw[AjI]; omega),AjF (by omega),hk,hbit];simp only[OQ h,Aa,hb,decide_false,AkD,Bool.false_eq_true,if_false,hw]
theorem pow_eq (a n:UInt64):J2 a n=some (powN 2305843009213691579 a n):=by
 unfold J2;obtain⟨L,e1,e2,e3⟩:=Afl n;have hw:w64 ((L:Int)-1)=(L:Int)-1:=BU (by omega) (by omega);obtain⟨r,r1,r2⟩:=pow_it a n L 1 e3 (by rw[Nat.div_eq_of_lt e2]; simp);have r1':=E8 _ r1 (by omega);unfold Ek HC;rw[show Ju n=some n from rfl,Aa,e1,Aa,hw,r1',Aa];simp only[Aa];rw[Zq r2]; rfl
theorem Ad5 (n:UInt64):GY n=some (powN 2305843009213691579 4 n):=by
 unfold GY;rw[pow_eq,Aa]
end Go.Proofs.YtibojdgdjhngiaaGreatDoor
end
section
namespace Go.Proofs.YtibojdgdjhngiaaGreatDoor
open Go Go.Gw Go.Ax
end Go.Proofs.YtibojdgdjhngiaaGreatDoor
end
section
namespace Go.Proofs.YtibojdgdjhngiaaGreatDoor
open Go Go.Gw Go.Ax
theorem Rx (n:UInt64):EW n=some (Nz 8 n):=by
 unfold EW;simp[B3,I9,idx,w64,Cm,Nz]
def pubK (k:UInt64):UInt64:=powN 2305843009213691579 4 k
theorem Acs {k:UInt64}(h1:1≤k.toNat)(h2:k.toNat<GR):GH k=some (pubK k,0):=by
 simp only[GR]at h2;unfold GH OT;rw[Cm,Aa,AjG (by simp; omega),Ad5,Aa]; rfl
def chal (c p:UInt64)(msg:List UInt8):UInt64:=numM (AgF ⟨#[115,105,103,110]⟩ [Nz 8 c,Nz 8 p,msg]) 1152921504606845789
theorem Ajn (c p:UInt64){msg:List UInt8}(h:msg.length≤600000):FX c p msg=some (chal c p msg):=by
 unfold FX;rw[Rx,Aa,Rx,Aa,QN _ _ (by simp[Zl,Ej]; omega),Aa,AgK dvR,Aa]; rfl
def AcS (k:UInt64)(msg:List UInt8):UInt64:=numM (AgF ⟨#[110,111,110,99,101]⟩ [Nz 8 k,msg]) 1152921504606845788+1
theorem AeG {t:ByteArray}{ps:List (List UInt8)}(h:t.data.toList.length+Zl ps≤700000):I8 t ps=some (numM (AgF t ps) 1152921504606845788+1):=by
 unfold I8;rw[QN _ _ h,Aa,AgK dvR1,Aa]
def signE (k:UInt64)(msg:List UInt8):UInt64:=chal (pubK (AcS k msg)) (pubK k) msg
def signS (k:UInt64)(msg:List UInt8):g_api_Sig:=⟨signE k msg,addM 1152921504606845789 (AaJ 1152921504606845789 (signE k msg) k) (AcS k msg)⟩
theorem AhU {k:UInt64}{msg:List UInt8}(h1:1≤k.toNat)(h2:k.toNat<GR)(hm:msg.length≤600000):Hq k msg=some (signS k msg,0):=by
 unfold Hq;rw[Acs h1 h2,Aa,AjG (by simp),Rx,Aa,AeG (by simp[Zl,Ej]; omega),Aa,Ad5,Aa];dsimp only;rw[show powN 2305843009213691579 4 (numM (AgF ⟨#[110,111,110,99,101]⟩ [Nz 8 k,msg]) 1152921504606845788+1)=pubK (AcS k msg)from rfl,Ajn _ _ hm,Aa];unfold Ld Lf;rw[OQ dvR,Aa,Aa,Aaz dvR,Aa,Aa]; rfl
def gr:Nat:=GR
end Go.Proofs.YtibojdgdjhngiaaGreatDoor
end
section
namespace Go.Proofs.YtibojdgdjhngiaaGreatDoor
open Go Go.Gw Go.Ax
theorem Afy (n:Nat)(h:n≤1000000):A4 (n:Int)=some []:=by
 have hw:w64 ((n:Int)-(w64 (0-((0:Nat):Int))))=(n:Int):=by rw[BU (n:=0-((0:Nat):Int)) (by omega) (by omega),BU (by omega) (by omega)]; omega
 unfold A4;rw[AjG (by rw[AjI]; omega),Aa,hw,Cm];by_cases h0:n=0
 ·rw[AjG (by simp; omega),Aa]
 ·rw[AjF (by simp; omega),AjF (by omega),Aa]
theorem AaT {xs ys:List g_api_Leaf}(h:xs.length+ys.length≤100000):AU [xs,ys]=some (xs++ys):=by
 have w1:w64 (0+(xs.length:Int))=(xs.length:Int):=by rw[BU (by omega) (by omega)]; omega
 have w2:w64 ((xs.length:Int)+(ys.length:Int))=((xs.length+ys.length:Nat):Int):=by rw[BU (by omega) (by omega)]; omega
 have b1: ∀(i:Int) (x:List g_api_Leaf) (s:Int),0≤w64 (s+(x.length:Int))→A3 i x s=some (w64 (s+(x.length:Int))):=by
  intro i x s hs;unfold A3;rw[Cm,AjG (by rw[AjI]; omega),Aa]
 have b2: ∀(i:Int) (x s:List g_api_Leaf),s.length+x.length≤100000→A2 i x s=some (s++x):=by
  intro i x s hs;unfold A2;rw[G3 32 (by omega) (by omega),Aa]
 unfold AU;simp only[Db];rw[b1 _ _ _ (by rw[w1]; omega),Aa,w1,b1 _ _ _ (by rw[w2]; omega),Aa,w2,Aa,Aa,Afy _ (by omega),Aa,b2 _ _ _ (by simp; omega),Aa,Akr,b2 _ _ _ h,Aa,Aa,Aa]
theorem Ahv {l:Ah}(h:l.L.length+l.Wait.length≤100000):IU l=some (l.L++l.Wait):=by
 unfold IU;rw[AaT h,Aa]
def okBody (b:List UInt8):Bool:=decide (0<b.length)&&decide (b.length≤2048)
def okNum (n:Int):Bool:=decide (0≤n)&&decide (n≤1099511627776)
theorem Q4 (n:Int):Fp n=some (okNum n):=rfl
theorem WE (b:List UInt8):GQ b=some (okBody b):=by
 unfold GQ okBody;rw[Cm];congr 2
 ·rw[Akc]; omega
 ·rw[Akc]; omega
def Aba (ks:List (List UInt8)):List (ByteArray×Bool):=ks.map fun b=>(bs b,true)
theorem Z1 {a b:List UInt8}:eqS (bs a) (bs b)=true↔a=b:=by simp[eqS,bs]
theorem Ac1 (b:List UInt8): ∀(ks:List (List UInt8)) (i:Nat),(b∈ks→∃j,lkI (Aba ks) (bs b) i=some (j,true))∧(b∉ks→lkI (Aba ks) (bs b) i=none):=by
 intro ks;induction ks with
 |nil=>intro i; exact⟨fun h=>absurd h (by simp),fun _=>rfl⟩
 |cons k ks ih=>
  intro i;simp only[Aba,Akm,lkI];by_cases hk:b=k
  ·subst hk;rw[AjF (Z1.2 rfl)];exact⟨fun _=>⟨i,rfl⟩,fun h=>absurd (AjZ ..) h⟩
  ·rw[AjG (fun h=>hk (Z1.1 h))];refine⟨fun h=>(ih (i+1)).1 ((Aj5.1 h).resolve_left hk),fun h=>(ih (i+1)).2 fun h'=>h (Aj8 _ h')⟩
theorem lkB_kv (b:List UInt8)(ks:List (List UInt8)):lkB (Aba ks) (bs b)=decide (b∈ks):=by
 unfold lkB;by_cases h:b∈ks
 ·obtain⟨j,hj⟩:=(Ac1 b ks 0).1 h;rw[hj,AjN h]; rfl
 ·rw[(Ac1 b ks 0).2 h,AjM h]; rfl
def okL:List g_api_Leaf→List (List UInt8)→Bool
 | [],_=>true
 |x::r,ks=>(okBody x.Body&&okNum x.At&& !decide (x.Body∈ks))&&okL r (ks++[x.Body])
theorem Af2: ∀(xs:List g_api_Leaf) (ks:List (List UInt8)) (i:Int),JC GU xs i (Aba ks)=some (if okL xs ks=true then .inl (Aba (ks++xs.map (·.Body)))else .inr 1):=by
 intro xs;induction xs with
 |nil=>intro ks i; simp[JC,okL]
 |cons x xs ih=>
  intro ks i;have hb:GU i x (Aba ks)=some (if(okBody x.Body&&okNum x.At&& !decide (x.Body∈ks))=true then .inl (Aba (ks++[x.Body]))else .inr 1):=by
   unfold GU;rw[WE,Aa,Q4,lkB_kv];cases h1:okBody x.Body with
   |false=>rfl
   |true=>
    cases h2:okNum x.At with
    |false=>rfl
    |true=>
     by_cases h3:x.Body∈ks
     ·rw[AjN h3]; rfl
     ·rw[AjM h3,show gu (!!true) (some true)=some true from rfl];simp only[AkD,Bool.false_eq_true,if_false,Aa,Bool.or_self,Bool.and_self,AkH,if_true];rw[(Ac1 x.Body ks 0).2 h3];simp[Aba]
  have hc:okL (x::xs) ks=((okBody x.Body&&okNum x.At&& !decide (x.Body∈ks))&&okL xs (ks++[x.Body])):=rfl;simp only[JC,hb,Aa];by_cases h:(okBody x.Body&&okNum x.At&& !decide (x.Body∈ks))=true
  ·have e:okL (x::xs) ks=okL xs (ks++[x.Body]):=by rw[hc,h,Akb]
   rw[AjF h,e];dsimp only;rw[ih];simp
  ·have e:okL (x::xs) ks=false:=by rw[hc,Bool.not_eq_true _|>.mp h,Akt]
   rw[AjG h,e]; rfl
def okH:List Int→Int→Int→Bool
 | [],_,_=>true
 |x::r,last,n=>(!decide (x≤last)&& !decide (n≤x))&&okH r x n
theorem Af1 (l:Ah): ∀(xs:List Int) (last:Int) (i:Int),∃z,JC (GS l) xs i last=some (if okH xs last (l.L.length:Int)=true then .inl z else .inr 1):=by
 intro xs;induction xs with
 |nil=>intro last i; exact⟨last,by simp[JC,okH]⟩
 |cons x xs ih=>
  intro last i;obtain⟨z,hz⟩:=ih x (i+1);refine⟨z,?_⟩;have hb:GS l i x last=some (if(!decide (x≤last)&& !decide ((l.L.length:Int)≤x))=true then .inl x else .inr 1):=by
   unfold GS;by_cases h1:x≤last
   ·simp[h1]
   ·by_cases h2:(l.L.length:Int)≤x
    ·simp[h2]
    ·have h2': ¬(x≥(l.L.length:Int)):=h2;simp[h1,h2,h2']
  have hc:okH (x::xs) last (l.L.length:Int)=((!decide (x≤last)&& !decide ((l.L.length:Int)≤x))&&okH xs x (l.L.length:Int)):=rfl;simp only[JC,hb,Aa];by_cases h:(!decide (x≤last)&& !decide ((l.L.length:Int)≤x))=true
  ·have e:okH (x::xs) last (l.L.length:Int)=okH xs x (l.L.length:Int):=by rw[hc,h,Akb]
   rw[AjF h,e];exact hz
  ·have e:okH (x::xs) last (l.L.length:Int)=false:=by rw[hc,Bool.not_eq_true _|>.mp h,Akt]
   rw[AjG h,e]; rfl
def AcN (l:Ah):Bool:=okNum l.Id&& !decide (l.Key.toNat=0)&&decide (l.Key.toNat<1152921504606845789)&&decide (0≤l.Delay)&&decide (l.Delay≤1000)
def chk (l:Ah):Int:=if AcN l=true then(if okL (l.L++l.Wait) []=true then(if okH l.Hide (-1) (l.L.length:Int)=true then(if 256<(l.L++l.Wait).length then 2 else 0)else 1)else 1)else 1
theorem Rv {l:Ah}(h:l.L.length+l.Wait.length≤100000):Eb l=some (chk l):=by
 unfold Eb;rw[Q4,Aa];have hc:(((((!okNum l.Id)||((l.Key.toNat:Int)==0))||(decide ((l.Key.toNat:Int)≥1152921504606845789)))||(decide (l.Delay<0)))||(decide (l.Delay>1000)))= !AcN l:=by
  unfold AcN;rw[Akn];cases okNum l.Id<;>simp<;>omega
 rw[hc];unfold chk;cases h0:AcN l with
 |false=>rfl
 |true=>
  rw[AkD,AjG (by decide),AjF rfl,Ahv h,Aa];have h3:=Af2 (l.L++l.Wait) [] 0;rw[show Aba []=([]:List (ByteArray×Bool))from rfl]at h3;rw[h3,Aa];cases h1:okL (l.L++l.Wait) []with
  |false=>simp
  |true=>
   simp only[if_true];obtain⟨z,hz⟩:=Af1 l l.Hide (-1) 0;rw[hz,Aa];cases h2:okH l.Hide (-1) (l.L.length:Int)with
   |false=>simp
   |true=>
    simp only[if_true];have hl:(Aba ([]++(l.L++l.Wait).map (·.Body))).length=(l.L++l.Wait).length:=by simp[Aba]
    rw[hl];by_cases h4:256<(l.L++l.Wait).length
    ·rw[AjF h4,AjF (by rw[AjI]; omega)]
    ·rw[AjG h4,AjG (by rw[AjI]; omega)]
end Go.Proofs.YtibojdgdjhngiaaGreatDoor
end
section
namespace Go.Proofs.YtibojdgdjhngiaaGreatDoor
open Go Go.Gw Go.Ax
theorem Afz (n:Nat)(h:n≤1000000):BH (n:Int)=some []:=by
 have hw:w64 ((n:Int)-(w64 (0-((0:Nat):Int))))=(n:Int):=by rw[BU (n:=0-((0:Nat):Int)) (by omega) (by omega),BU (by omega) (by omega)]; omega
 unfold BH;rw[AjG (by rw[AjI]; omega),Aa,hw,Cm];by_cases h0:n=0
 ·rw[AjG (by simp; omega),Aa]
 ·rw[AjF (by simp; omega),AjF (by omega),Aa]
theorem Yz: ∀(xs:List (List UInt8)) (i:Int) (n:Nat),n+xs.flatten.length≤1000000→Db Be xs i (n:Int)=some ((n+xs.flatten.length:Nat):Int):=by
 intro xs;induction xs with
 |nil=>intro i n _; simp[Db]
 |cons x xs ih=>
  intro i n h;simp only[List.flatten_cons,AjJ]at h;have hw:w64 ((n:Int)+(x.length:Int))=((n+x.length:Nat):Int):=by rw[BU (by omega) (by omega)]; omega
  have hb:Be i x (n:Int)=some ((n+x.length:Nat):Int):=by
   unfold Be;rw[Cm,hw,AjG (by rw[AjI]; omega),Aa]
  simp only[Db,hb,Aa];rw[ih _ _ (by omega),List.flatten_cons,AjJ,AkO]
theorem YA: ∀(xs:List (List UInt8)) (i:Int) (s:List UInt8),s.length+xs.flatten.length≤1000000→Db Bd xs i s=some (s++xs.flatten):=by
 intro xs;induction xs with
 |nil=>intro i s _; simp[Db]
 |cons x xs ih=>
  intro i s h;simp only[List.flatten_cons,AjJ]at h;have hb:Bd i x s=some (s++x):=by
   unfold Bd;rw[G3 1 (by omega) (by omega),Aa]
  simp only[Db,hb,Aa];rw[ih _ _ (by rw[AjJ]; omega),List.flatten_cons,AjP]
theorem O9 {xs:List (List UInt8)}(h:xs.flatten.length≤1000000):AL xs=some xs.flatten:=by
 have h1:=Yz xs 0 0 (by omega);rw[show((0:Nat):Int)=0 from rfl,Akq]at h1;unfold AL;rw[h1,Aa,Aa,Afz _ h,Aa,YA xs 0 [] (by simpa using h),Aa,Aa,Akr]
theorem msg_eq {w:ByteArray}{ps:List (List UInt8)}(hw:w.data.toList.length≤100)(h:ps.flatten.length≤100000):Kz w ps=some (w.data.toList++ps.flatten):=by
 unfold Kz;have h0:([]:List UInt8).length=0:=rfl;rw[G3 1 (by omega) (by omega),Aa,O9 (by omega),Aa,Akr,G3 1 (by omega) (by omega),Aa]
def e8 (n:Int):List UInt8:=[toB (Cl n 56),toB (Cl n 48),toB (Cl n 40),toB (Cl n 32),toB (Cl n 24),toB (Cl n 16),toB (Cl n 8),toB (Cl n 0)]
theorem WQ (n:Int):DE n=some (e8 n):=by
 unfold DE;simp[B3,Jk,idx,w64,Cm,e8]
def AeZ (p:g_api_Promise):List UInt8:=[112,114,111,109,105,115,101]++[e8 p.Log,e8 p.At,Q1 p.Leaf].flatten
theorem Ahd (n:Int):(e8 n).length=8:=rfl
theorem Wk (p:g_api_Promise):Ep p=some (AeZ p):=by
 unfold Ep;rw[WQ,Aa,WQ,Aa,Af5,Aa,msg_eq (by decide) (by simp[Ahd,SO]),Aa]; rfl
theorem Acz (p:g_api_Promise):(AeZ p).length≤600000:=by simp[AeZ,Ahd,SO]
def pleaf (b:List UInt8):UInt64×UInt64:=AgF ⟨#[108,101,97,102]⟩ [b]
theorem Rf {b:List UInt8}(h:b.length≤600000):Fo b=some (pleaf b):=by
 unfold Fo;rw[QN _ _ (by simp[Zl]; omega),Aa]; rfl
def findB:List g_api_Leaf→List UInt8→Nat→Option Nat
 | [],_,_=>none
 |x::r,b,i=>if x.Body=b then some i else findB r b (i+1)
theorem Afs (all:List g_api_Leaf)(b:List UInt8)(hl:all.length≤100000): ∀(xs:List g_api_Leaf) (i:Nat),all.drop i=xs→
  Kb (A0 all) xs.length (i:Int) b=
   some (match findB xs b i with|some j=> .inr ((j:Int),b)|none=> .inl b):=by
 intro xs;induction xs with
 |nil=>intro i _; rfl
 |cons x xs ih=>
  intro i hd;have hx:idx all (i:Int)=some x:=Gi (by
   have:(all.drop i)[0]? =some x:=by rw[hd]; rfl
   simpa using this)
  have hd':all.drop (i+1)=xs:=by rw[←Akw,hd]; rfl
  have hb:A0 all (i:Int) b=some (if x.Body=b then .inr ((i:Int),b)else .inl b):=by
   unfold A0 Mg Lh;rw[hx];simp only[Aa];by_cases h:x.Body=b
   ·rw[AjF h,AjF (Z1.2 h)]
   ·rw[AjG h,AjG (fun q=>h (Z1.1 q))]
  simp only[AjD,Kb,hb,Aa,findB];by_cases h:x.Body=b
  ·rw[AjF h,AjF h]
  ·rw[AjG h,AjG h];exact ih (i+1) hd'
theorem Aft {all:List g_api_Leaf}{b:List UInt8}(hl:all.length≤100000):
  A5 all b=some (match findB all b 0 with|some j=>(j:Int)|none=> -1,b):=by
 have h:=Afs all b hl all 0 rfl;unfold A5;rw[show(0:Int)=((0:Nat):Int)from rfl,h,Aa];cases findB all b 0<;>rfl
end Go.Proofs.YtibojdgdjhngiaaGreatDoor
end
section
namespace Go.Proofs.YtibojdgdjhngiaaGreatDoor
open Go Go.Gw Go.Ax
theorem IS {l:Ah}(h:chk l=0):AcN l=true∧okL (l.L++l.Wait) []=true∧okH l.Hide (-1) (l.L.length:Int)=true∧(l.L++l.Wait).length≤256:=by
 unfold chk at h;cases h0:AcN l with
 |false=>rw[h0]at h; simp at h
 |true=>
  cases h1:okL (l.L++l.Wait) []with
  |false=>rw[h0,h1]at h; simp at h
  |true=>
   cases h2:okH l.Hide (-1) (l.L.length:Int)with
   |false=>rw[h0,h1,h2]at h; simp at h
   |true=>
    rw[h0,h1,h2]at h;simp only[if_true]at h;by_cases h3:256<(l.L++l.Wait).length
    ·rw[AjF h3]at h; cases h
    ·exact⟨rfl,rfl,rfl,by omega⟩
theorem key_of {l:Ah}(h:AcN l=true):1≤l.Key.toNat∧l.Key.toNat<GR∧okNum l.Id=true:=by
 unfold AcN at h;simp only[AjE,Bool.not_eq_true',AjI,decide_eq_false_iff_not]at h;simp only[GR];exact⟨by omega,by omega,h.1.1.1.1⟩
theorem N3: ∀{xs:List g_api_Leaf} {ks:List (List UInt8)},okL xs ks=true→∀x∈xs,x.Body.length≤2048:=by
 intro xs;induction xs with
 |nil=>intro ks _ x hx; cases hx
 |cons y xs ih=>
  intro ks h x hx;have h':((okBody y.Body&&okNum y.At&& !decide (y.Body∈ks))&&okL xs (ks++[y.Body]))=true:=h;rw[AjE,AjE,AjE]at h';rcases Aj5.1 hx with rfl|hx
  ·have:=h'.1.1.1;unfold okBody at this;simp at this;exact this.2
  ·exact ih h'.2 x hx
def Wd (l:Ah)(t:Int)(b:List UInt8):g_api_Promise:=⟨l.Id,t,pleaf b,signS l.Key (AeZ ⟨l.Id,t,pleaf b,⟨0,0⟩⟩)⟩
theorem Aed {l:Ah}{b:List UInt8}{now:Int}{j:Nat}{x:g_api_Leaf}(hl:l.L.length+l.Wait.length≤100000)(h:chk l=0)(ha:(okBody b&&okNum now)=true)(hj:findB (l.L++l.Wait) b 0=some j)(hx:(l.L++l.Wait)[j]? =some x):
  KA l b now=some (l,Wd l x.At b,0):=by
 obtain⟨k1,k2,k3⟩:=key_of (IS h).1;rw[AjE]at ha;have hbl:b.length≤600000:=by have:=ha.1; unfold okBody at this; simp at this; omega
 unfold KA;rw[Rv hl,Aa,h,AjG (by decide),WE,Aa,Q4,ha.1,ha.2];rw[show gu (!!true) (some true)=some true from rfl,Aa,AjG (show¬((!true)||(!true))=true by decide),Ahv hl,Aa,Aft (by simp; omega),hj,Aa];dsimp only;rw[AjF (AjN (show(j:Int)≥0 from AkC j)),Gi hx,Aa,Rf hbl,Aa,Wk,Aa,AhU k1 k2 (Acz _),Aa]; rfl
end Go.Proofs.YtibojdgdjhngiaaGreatDoor
end
section
namespace Go.Proofs.YtibojdgdjhngiaaGreatDoor
open Go Go.Gw Go.Ax
abbrev Sm:=UInt64×UInt64
def hp (n:Nat):Nat:=2^Nat.log2 (n-1)
theorem hp_lt {n:Nat}(h:2≤n):hp n<n:=by
 have:=Nat.log2_self_le (n:=n-1) (by omega);unfold hp; omega
theorem hp_pos (n:Nat):0<hp n:=Nat.two_pow_pos _
end Go.Proofs.YtibojdgdjhngiaaGreatDoor
end
section
namespace Go.Proofs.YtibojdgdjhngiaaGreatDoor
open Go Go.Gw Go.Ax
end Go.Proofs.YtibojdgdjhngiaaGreatDoor
end
section
namespace Go.Proofs.YtibojdgdjhngiaaGreatDoor
open Go Go.Gw Go.Ax
def Yr (a l:Nat):List Bool:=if h:l=0 then []else if a%2=1 then true::Yr (a/2) (l/2)else if a=l then Yr (a/2) (l/2)else false::Yr (a/2) (l/2)
termination_by l
decreasing_by all_goals omega
theorem WW (a:Nat):Yr a 0=[]:=by rw[Yr]; simp
theorem ZT {a l:Nat}(h:l≠0)(h1:a%2=1):Yr a l=true::Yr (a/2) (l/2):=by rw[Yr,dif_neg h,AjF h1]
theorem AdF {a:Nat}(h:a≠0)(h1:a%2=0):Yr a a=Yr (a/2) (a/2):=by rw[Yr,dif_neg h,AjG (by omega),AjF rfl]
theorem AaS {a l:Nat}(h:l≠0)(h1:a%2=0)(h2:a≠l):Yr a l=false::Yr (a/2) (l/2):=by rw[Yr,dif_neg h,AjG (by omega),AjG h2]
def pop:Nat→Nat→Nat
 |0,_=>0
 |k+1,n=>n%2+pop k (n/2)
theorem pop_up: ∀(k n:Nat),n<2^k→pop (k+1) n=pop k n:=by
 intro k;induction k with
 |zero=>
   intro n h; have:n=0:=by simp at h; omega
   subst this; rfl
 |succ k ih=>
  intro n h;have e1:2^ (k+1)=2*2^k:=by rw[Nat.pow_succ]; omega
  have:=ih (n/2) (by omega);rw[pop,this,pop]
def bits (n:Nat):Nat:=if n=0 then 0 else Nat.log2 n+1
theorem Ad3 {n:Nat}(h:n≠0):bits n=bits (n/2)+1:=by
 unfold bits;rw[AjG h];by_cases h1:n/2=0
 ·have:n=1:=by omega
  subst this; rfl
 ·rw[AjG h1,Nat.log2_def,AjF (by omega)]
theorem Aer (a b:Nat):(a^^^b)/2=a/2^^^b/2:=by
 have:=Nat.shiftRight_xor_distrib (a:=a) (b:=b) (i:=1);rw[Nat.shiftRight_eq_div_pow,Nat.shiftRight_eq_div_pow,Nat.shiftRight_eq_div_pow]at this;exact this
theorem Aeq {a b:Nat}:a^^^b=0↔a=b:=by
 constructor
 ·intro h;apply Nat.eq_of_testBit_eq;intro i;have:=Aki (fun x=>Nat.testBit x i) h;simp at this;exact this
 ·intro h; subst h; simp
theorem count: ∀(k a l:Nat),a≤l→l<2^k→bits (a^^^l)+pop k (a>>>bits (a^^^l))=(Yr a l).length:=by
 intro k;induction k with
 |zero=>
  intro a l h1 h2;have:l=0:=by simp at h2; omega
  have:a=0:=by omega
  subst this;subst l;simp[WW,pop,bits]
 |succ k ih=>
  intro a l h1 h2;have e1:2^ (k+1)=2*2^k:=by rw[Nat.pow_succ]; omega
  have:=ih (a/2) (l/2) (by omega) (by omega);by_cases hl:l=0
  ·have:a=0:=by omega
   subst this;subst l;have hz: ∀k,pop k 0=0:=by intro k; induction k with|zero=>rfl|succ k ih=>simp[pop,ih]
   simp[WW,bits,hz]
  ·by_cases he:a=l
   ·subst he;simp only[Nat.xor_self]at this⊢;rw[show bits 0=0 from rfl]at this⊢;simp only[Nat.shiftRight_zero,Akq]at this⊢;rw[pop];by_cases ho:a%2=1
    ·rw[ZT hl ho,AjD,←this]; omega
    ·rw[AdF hl (by omega),←this]; omega
   ·have hx:a^^^l≠0:=fun h=>he (Aeq.1 h);rw[Ad3 hx,Aer];have hsh:a>>>(bits (a/2^^^l/2)+1)=(a/2)>>>bits (a/2^^^l/2):=by
     rw[Nat.add_comm,Nat.shiftRight_add,Nat.shiftRight_eq_div_pow a 1]
    have hlt:(a/2)>>>bits (a/2^^^l/2)<2^k:=by
     have:(a/2)>>>bits (a/2^^^l/2)≤a/2:=by rw[Nat.shiftRight_eq_div_pow]; exact Nat.div_le_self _ _
     omega
    rw[hsh,pop_up _ _ hlt];by_cases ho:a%2=1
    ·rw[ZT hl ho,AjD,←this]; omega
    ·rw[AaS hl (by omega) he,AjD,←this]; omega
def goD {σ:Type}(f g:σ→Sm→σ):List Bool→List Sm→σ→σ
 |d::ds,p::ps,x=>goD f g ds ps (if d then f x p else g x p)
 |_,_,x=>x
def lead (ds:List Bool)(ps:List Sm)(x:Sm):Sm:=goD (fun x p=>ppair p x) (fun x p=>ppair x p) ds ps x
end Go.Proofs.YtibojdgdjhngiaaGreatDoor
end
section
namespace Go.Proofs.YtibojdgdjhngiaaGreatDoor
open Go Go.Gw Go.Ax
def gd (f s:Nat)(Ac9:Bool):Bool×List Bool:=if h:s≤1∨f=s then(!Ac9,[])else if f≤hp s then((gd f (hp s) Ac9).1,(gd f (hp s) Ac9).2++[false])else((gd (f-hp s) (s-hp s) false).1,(gd (f-hp s) (s-hp s) false).2++[true])
termination_by s
decreasing_by
 all_goals first|exact hp_lt (by omega)|(have:=hp_pos s; omega)
end Go.Proofs.YtibojdgdjhngiaaGreatDoor
end
section
namespace Go.Proofs.YtibojdgdjhngiaaGreatDoor
open Go Go.Gw Go.Ax
theorem Yh {α:Type} [Inhabited α]{c:Bool}(o:Option α)(h:c=true):gu c o=o:=by rw[h]; rfl
theorem gu_f {α:Type} [Inhabited α]{c:Bool}(o:Option α)(h:c=false):gu c o=some default:=by rw[h]; rfl
end Go.Proofs.YtibojdgdjhngiaaGreatDoor
end
section
namespace Go.Gw
open Go
theorem Adf {σ τ:Type}{step:σ→Option (σ⊕τ)}{T:τ→Prop}(I:Nat→σ→Prop)(n:Nat)(h: ∀i s,i≤n→I i s→(∃t,step s=some (.inr t)∧T t)∨(i<n∧∃s',step s=some (.inl s')∧I (i+1) s')):
  ∀k i s,i+k=n→I i s→∃t,iter step (k+1) s=some t∧T t:=by
 intro k;induction k with
 |zero=>
  intro i s hk hi;rcases h i s (by omega) hi with ⟨t,h1,h2⟩|⟨h1,_⟩
  ·exact⟨t,by simp only[iter,h1,Aa],h2⟩
  ·omega
 |succ k ih=>
  intro i s hk hi;rcases h i s (by omega) hi with ⟨t,h1,h2⟩|⟨_,s',h1,h2⟩
  ·exact⟨t,by simp only[iter,h1,Aa],h2⟩
  ·obtain⟨t,h3,h4⟩:=ih (i+1) s' (by omega) h2;exact⟨t,by rw[iter,h1,Aa]; exact h3,h4⟩
theorem Mm {σ τ:Type}{step:σ→Option (σ⊕τ)}{T:τ→Prop}(I:Nat→σ→Prop)(n:Nat)(hn:n<1000000000000000000){s0:σ}(h0:I 0 s0)(h: ∀i s,i≤n→I i s→(∃t,step s=some (.inr t)∧T t)∨(i<n∧∃s',step s=some (.inl s')∧I (i+1) s')):
  ∃t,iter step Bl s0=some t∧T t:=by
 obtain⟨t,h1,h2⟩:=Adf I n h n 0 s0 (by omega) h0;exact⟨t,Wz h1 (by unfold Bl; omega),h2⟩
theorem ZI {α:Type}{xs:List α}{i:Nat}(h:i<xs.length):idx xs (i:Int)=some xs[i]:=by
 unfold idx; rw[AjF (AkC i),AkQ]; simp[h]
theorem On {α:Type}{xs:List α}{i:Nat}{x:α}(h:xs[i]? =some x):idx xs (i:Int)=some x:=by
 unfold idx; rw[AjF (AkC i),AkQ]; exact h
theorem KQ {i:Nat}(h:i<9223372036854775807):w64 ((i:Int)+1)=((i+1:Nat):Int):=by rw[BU (by omega) (by omega)]; omega
theorem bs_eq {a b:List UInt8}:eqS (bs a) (bs b)=decide (a=b):=by
 rw[Akn,AjI]; simp[eqS,bs]
theorem gu_ok {α:Type} [Inhabited α]{c:Bool}{o:Option α}{x:α}(h:c=true→o=some x): ∃y,gu c o=some y∧(c=true→y=x):=by
 cases c with
 |true=>exact⟨x,h rfl,fun _=>rfl⟩
 |false=>exact⟨default,rfl,fun h=>by cases h⟩
theorem gu_tot {α:Type} [Inhabited α]{c:Bool}{o:Option α}(h:c=true→∃x,o=some x): ∃y,gu c o=some y∧(c=true→o=some y):=by
 cases c with
 |true=>obtain⟨x,hx⟩:=h rfl; exact⟨x,hx,fun _=>hx⟩
 |false=>exact⟨default,rfl,fun h=>by cases h⟩
end Go.Gw
end
section
namespace Go.Proofs.YtibojdgdjhngiaaGreatDoor
open Go Go.Gw Go.Ax
def hid (hd:List Int)(i:Nat):Bool:=match hd with| []=>false|h::_=>decide (h=(i:Int))
def cur (v h:Bool)(b:List UInt8):UInt64×UInt64:=if(v&&h)=true then pleaf (0::b)else pleaf b
def nxt (hd:List Int)(i:Nat):List Int:=if hid hd i=true then hd.tail else hd
def lv (v:Bool):List Int→List g_api_Leaf→Nat→List (UInt64×UInt64)
 |_,[],_=> []
 |hd,x::xs,i=>cur v (hid hd i) x.Body::lv v (nxt hd i) xs (i+1)
theorem lv_len (v:Bool): ∀(xs:List g_api_Leaf) (hd:List Int) (i:Nat),(lv v hd xs i).length=xs.length:=by
 intro xs;induction xs with
 |nil=>intro hd i; rfl
 |cons x xs ih=>intro hd i; simp[lv,ih]
theorem X8 {l:Ah}{v:Bool}{a1:Int}(hv:(a1==1)=v){i:Nat}{x:g_api_Leaf}(hx:l.L[i]? =some x)(hb:x.Body.length≤2048){hd:List Int}{out:List (UInt64×UInt64)}(ho:out.length≤100000):
  Er l a1 (i:Int) (hd,out)=some (nxt hd i,out++[cur v (hid hd i) x.Body]):=by
 have hbl:x.Body.length≤600000:=by omega
 have hnil: ∀y:UInt64×UInt64,app 16 out [y]=some (out++[y]):=fun y=>G3 16 (by simp; omega) (by simp; omega);unfold Er;rw[On hx,Aa];dsimp only;cases hd with
 |nil=>
  have e0:decide ((([]:List Int).length:Int)>0)=false:=rfl;rw[e0,gu_f _ rfl,Aa,Akt,AjG Bool.false_ne_true,Aa,Rf hbl,Aa,hnil,Aa];simp[nxt,hid,cur]
 |cons a hd=>
  have e1:idx (a::hd) 0=some a:=rfl;have e0:decide (((a::hd).length:Int)>0)=true:=by first|(simp; done)|(simp; omega)
  rw[e0,Yh _ rfl,e1,Aa,Akb];by_cases ha:a=(i:Int)
  ·have hc:cut (a::hd) 1 ((a::hd).length:Int)=some hd:=by
    have:=Tj (xs:=a::hd) (lo:=1) (hi:=(a::hd).length) (by simp) (by omega);rw[show((1:Nat):Int)=1 from rfl]at this;rw[this]; simp[Akx]
   rw[AjF (by simpa using ha),hc,Aa,hv];have hh:hid (a::hd) i=true:=by simp[hid,ha]
   cases v with
   |true=>
    rw[AjF rfl,O9 (by simp; omega),Aa,Aa];dsimp only;have:([[0],x.Body]:List (List UInt8)).flatten=0::x.Body:=by simp
    rw[this,Rf (by simp; omega),Aa,hnil,Aa];simp[nxt,hh,cur]
   |false=>
    rw[AjG (by decide),Aa];dsimp only;rw[Rf hbl,Aa,hnil,Aa];simp[nxt,hh,cur]
  ·rw[AjG (by simpa using ha),Aa];dsimp only;have hh:hid (a::hd) i=false:=by simp[hid,ha]
   rw[Rf hbl,Aa,hnil,Aa];simp[nxt,hh,cur]
theorem AaM {l:Ah}{v:Bool}{a1:Int}(hv:(a1==1)=v)(hb: ∀x∈l.L,x.Body.length≤2048)(hl:l.L.length≤100000): ∀(k i:Nat) (hd:List Int) (out:List (UInt64×UInt64)),i+k=l.L.length→out.length=i→
  ∃hd',B3 (Er l a1) k (i:Int) (hd,out)=some (hd',out++lv v hd (l.L.drop i) i):=by
 intro k;induction k with
 |zero=>
  intro i hd out h ho;have:l.L.drop i=[]:=Aj6 (by omega);exact⟨hd,by rw[this]; simp[B3,lv]⟩
 |succ k ih=>
  intro i hd out h ho;have hlt:i<l.L.length:=by omega
  have hs:=X8 (l:=l) hv (i:=i) (x:=l.L[i]) (by simp[hlt]) (hb _ (List.getElem_mem hlt)) (hd:=hd) (out:=out) (by omega);obtain⟨hd2,h2⟩:=ih (i+1) (nxt hd i) (out++[cur v (hid hd i) l.L[i].Body]) (by omega) (by simp; omega);refine⟨hd2,?_⟩;simp only[B3,hs,Aa];rw[show(i:Int)+1=((i+1:Nat):Int)from rfl,h2,List.drop_eq_getElem_cons hlt,lv,AjP]; rfl
def FE (v:Bool)(l:Ah):List (UInt64×UInt64):=lv v l.Hide l.L 0
theorem SX {l:Ah}(hl:l.L.length+l.Wait.length≤100000)(h:chk l=0)(v:Bool):CP l (if v=true then 1 else 0)=some (FE v l,0):=by
 obtain⟨h0,h1,h2,h3⟩:=IS h;have hv:((if v=true then(1:Int)else 0)==1)=v:=by cases v<;>rfl
 obtain⟨hd,he⟩:=AaM (l:=l) hv (fun x hx=>N3 h1 x (List.mem_append_left _ hx)) (by omega) l.L.length 0 l.Hide [] (by omega) rfl;have he':B3 (Er l (if v=true then 1 else 0)) l.L.length 0 (l.Hide,[])=_:=he;unfold CP;rw[Rv hl,Aa,h,AjG (by decide),AjG (by cases v<;>decide),he',Aa,Aa];simp[FE]
theorem okH_up {a b n:Int}: ∀{xs:List Int},okH xs a n=true→(∀x,xs.head? =some x→b<x)→okH xs b n=true:=by
 intro xs h hb;cases xs with
 |nil=>rfl
 |cons x r=>
  simp only[okH,AjE,Bool.not_eq_true',decide_eq_false_iff_not]at h⊢;have:=hb x rfl;exact⟨⟨by omega,h.1.2⟩,h.2⟩
theorem okH_gt {n:Int}: ∀{xs:List Int} {a:Int},okH xs a n=true→∀x∈xs,a<x:=by
 intro xs;induction xs with
 |nil=>intro a _ x hx; cases hx
 |cons y r ih=>
  intro a h x hx;simp only[okH,AjE,Bool.not_eq_true',decide_eq_false_iff_not]at h;rcases Aj5.1 hx with e|e
  ·subst e; omega
  ·have:=ih h.2 x e; omega
theorem AiW {n:Int}{hd:List Int}{i:Nat}(h:okH hd ((i:Int)-1) n=true):hid hd i=decide ((i:Int)∈hd):=by
 cases hd with
 |nil=>simp[hid]
 |cons x r=>
  simp only[okH,AjE,Bool.not_eq_true',decide_eq_false_iff_not]at h;simp only[hid];by_cases e:x=(i:Int)
  ·rw[AjN e,AjN (by rw[e]; exact AjZ)]
  ·rw[AjM e,AjM];intro hm;rcases Aj5.1 hm with q|q
   ·exact e q.symm
   ·have:=okH_gt h.2 _ q; omega
theorem Q3 {n:Int}{hd:List Int}{i:Nat}(h:okH hd ((i:Int)-1) n=true):okH (nxt hd i) (((i+1:Nat):Int)-1) n=true:=by
 have e1:((i+1:Nat):Int)-1=(i:Int):=by omega
 rw[e1];unfold nxt;cases hd with
 |nil=>simp[hid,okH]
 |cons x r=>
  have h':=h;simp only[okH,AjE,Bool.not_eq_true',decide_eq_false_iff_not]at h';by_cases e:x=(i:Int)
  ·rw[AjF (by simp[hid,e]),List.tail_cons,←e]; exact h'.2
  ·rw[AjG (by simp[hid,e])];exact okH_up h fun y hy=>by simp at hy; subst hy; omega
theorem Ait {n:Int}{hd:List Int}{i:Nat}(h:okH hd ((i:Int)-1) n=true){j:Nat}(hj:i<j):(j:Int)∈nxt hd i↔(j:Int)∈hd:=by
 unfold nxt;cases hd with
 |nil=>simp[hid]
 |cons x r=>
  by_cases e:x=(i:Int)
  ·rw[AjF (by simp[hid,e]),List.tail_cons,Aj5];constructor
   ·exact fun h=> .inr h
   ·rintro(q|q)
    ·omega
    ·exact q
  ·rw[AjG (by simp[hid,e])]
theorem lv_get (v:Bool){n:Int}: ∀(xs:List g_api_Leaf) (hd:List Int) (i k:Nat) (x:g_api_Leaf),okH hd ((i:Int)-1) n=true→xs[k]? =some x→(lv v hd xs i)[k]? =some (cur v (decide (((i+k:Nat):Int)∈hd)) x.Body):=by
 intro xs;induction xs with
 |nil=>intro hd i k x _ hx; simp at hx
 |cons y xs ih=>
  intro hd i k x h hx;cases k with
  |zero=>
   simp at hx; subst hx;show some (cur v (hid hd i) y.Body)=_;rw[AiW h]; rfl
  |succ k=>
   have:=ih (nxt hd i) (i+1) k x (Q3 h) (by simpa using hx);show(lv v (nxt hd i) xs (i+1))[k]? =_;rw[this];have e1:i+1+k=i+(k+1):=by omega
   rw[e1];have:=Ait h (j:=i+(k+1)) (by omega);simp only[this]
theorem Ya (v:Bool){l:Ah}(h:okH l.Hide (-1) (l.L.length:Int)=true){k:Nat}{x:g_api_Leaf}(hx:l.L[k]? =some x):(FE v l)[k]? =some (cur v (decide ((k:Int)∈l.Hide)) x.Body):=by
 have:=lv_get v l.L l.Hide 0 k x (n:=(l.L.length:Int)) h hx;rw[Akq]at this;exact this
theorem Rc (v:Bool)(l:Ah):(FE v l).length=l.L.length:=lv_len _ _ _ _
end Go.Proofs.YtibojdgdjhngiaaGreatDoor
end
section
namespace Go.Proofs.YtibojdgdjhngiaaGreatDoor
open Go Go.Gw Go.Ax
structure Agk (l:Ah)(b:List UInt8)(now:Int)(l':Ah)(t:Int):Prop where
 was:chk l=0
 holds:chk l'=0
 body:okBody b=true
 num:okNum now=true
 at_:okNum t=true
 L:l'.L=l.L
 Id:l'.Id=l.Id
 Key:l'.Key=l.Key
 Hide:l'.Hide=l.Hide
 few:l'.Wait.length≤l.Wait.length+1
 there: ∃(j:Nat) (x:g_api_Leaf),findB (l'.L++l'.Wait) b 0=some j∧(l'.L++l'.Wait)[j]? =some x∧x.At=t∧x.Body=b
theorem Agk.prom {l l':Ah}{b:List UInt8}{now t:Int}(A:Agk l b now l' t):Wd l' t b=Wd l t b:=by
 unfold Wd; rw[A.Id,A.Key]
theorem Agk.again {l l':Ah}{b:List UInt8}{now t:Int}(A:Agk l b now l' t)(hl:l.L.length+l.Wait.length≤90000){then_:Int}(ht:okNum then_=true):
  KA l' b then_=some (l',Wd l t b,0):=by
 obtain⟨j,x,h1,h2,h3,h4⟩:=A.there;have:=A.few;rw[←A.prom,←h3];exact Aed (by rw[A.L]; omega) A.holds (by rw[A.body,ht]; rfl) h1 h2
end Go.Proofs.YtibojdgdjhngiaaGreatDoor
end
section
namespace Go.Proofs.YtibojdgdjhngiaaGreatDoor
open Go Go.Gw Go.Ax
def Tot {α:Type}(x:Option α):Prop:= ∃r,x=some r
theorem tot {α:Type}(r:α):Tot (some r):=⟨r,rfl⟩
theorem C5 {α β:Type}{x:Option α}{k:α→Option β}(h:Tot x)(hk: ∀a,x=some a→Tot (k a)):Tot (Ab x k):=by
 obtain⟨a,h⟩:=h;rw[h]; exact hk a h
theorem QG {α:Type} [Inhabited α]{b:Bool}{x:Option α}(h:b=true→Tot x):Tot (gu b x):=by
 cases b with
 |true=>exact h rfl
 |false=>exact tot default
theorem QF {α:Type}{b:Bool}{x y:Option α}(h1:b=true→Tot x)(h0:b=false→Tot y):Tot (if b=true then x else y):=by
 cases b with
 |true=>exact h1 rfl
 |false=>exact h0 rfl
theorem AhI {α:Type}{c:Prop} [Decidable c]{x y:Option α}(h1:c→Tot x)(h0: ¬c→Tot y):Tot (if c then x else y):=by
 split
 ·exact h1 ‹_›
 ·exact h0 ‹_›
theorem P7 {σ τ:Type}{step:σ→Option (σ⊕τ)}(μ:σ→Nat)(I:σ→Prop)(Q:τ→Prop)
  (h: ∀s,I s→∃r,step s=some r∧(∀s',r= .inl s'→I s'∧μ s'<μ s)∧∀t,r= .inr t→Q t): ∀n s,I s→μ s<n→∃t,iter step n s=some t∧Q t
 |0,s,_,hn=>by omega
 |n+1,s,hI,hn=>by
  obtain⟨r,h1,h2,h3⟩:=h s hI;cases r with
  |inr t=>exact⟨t,by show Ab (step s) _=_; rw[h1]; rfl,h3 t rfl⟩
  |inl s'=>
   obtain⟨i',lt⟩:=h2 s' rfl;obtain⟨t,e,q⟩:=P7 μ I Q h n s' i' (by omega);exact⟨t,by show Ab (step s) _=_; rw[h1]; exact e,q⟩
theorem Ti (s:ByteArray)(i:Nat):1≤(Utf8.decode s i).2:=by
 unfold Utf8.decode;simp only;repeat' split
 all_goals simp
theorem AX:9223372036854775808≤Bl:=AjO rfl
theorem AbC (c:Int):IM c=some (decide (c≤32)||decide (c>126)):=rfl
theorem UZ (s:ByteArray)(b:Bool)(hs:s.size<9223372036854775808):Tot (Cd s b):=by
 unfold Cd;refine C5 ?_ fun a _=> ?_
 ·obtain⟨t,e,_⟩:=P7 (step:=AA s b) (fun i=>s.size-i) (fun _=>True) (fun _=>True) (fun i _=>by
   unfold AA;by_cases hi:i<s.size
   ·rw[AjF hi];simp only[bnd,AbC,Aa];split
    ·exact⟨_,rfl,fun s' h=>(by cases h),fun _ _=>trivial⟩
    ·refine⟨_,rfl,fun s' h=> ?_,fun _ _=>trivial⟩;cases h;have:=Ti s i;exact⟨trivial,by omega⟩
   ·rw[AjG hi];exact⟨_,rfl,fun s' h=>(by cases h),fun _ _=>trivial⟩) Bl 0 trivial (by have:=AX; omega)
  exact⟨t,e⟩
 ·cases a with
  |inl _=>exact tot _
  |inr _=>exact tot _
theorem Aew (s:ByteArray):Tot (DK s):=by
 unfold DK;refine C5 (QG fun h=> ?_) fun a _=>tot _;simp only[AjE,AjI]at h;unfold BG CV;refine C5 (C5 (UZ s true (by omega)) fun a _=>tot _) fun a _=>tot _
theorem AbB {s:ByteArray}{b:Bool}(h:DK s=some b):b=true→eqS s (⟨#[]⟩:ByteArray)=false∧s.size≤64:=by
 unfold DK at h;obtain⟨x,_,h⟩:=Ad h;have h:=AjC (Ahq h);intro hb;rw[hb]at h;simp only[AjE,Bool.not_eq_true',AjI]at h;exact⟨h.1.1,by omega⟩
theorem U4 (c:Int):Tot (Dd c):=tot _
theorem Adi (c:Int):Tot (C9 c):=by
 unfold C9;exact C5 (QG fun _=>U4 c) fun a _=>tot _
theorem Ac7 (s:ByteArray):Tot (Fl s):=by
 unfold Fl;refine QF (fun _=>tot _) fun h=> ?_;simp only[Bool.or_eq_false_iff,decide_eq_false_iff_not]at h;refine C5 ?_ fun a _=> ?_
 ·obtain⟨t,e,_⟩:=P7 (step:=A9 s) (fun i=>s.size-i) (fun _=>True) (fun _=>True) (fun i _=>by
   unfold A9;by_cases hi:i<s.size
   ·rw[AjF hi];have hd:=Ti s i;obtain⟨x4,h4⟩:=QG (b:=((i:Int)==(w64 ((s.size:Int)-1)))) fun _=>U4 ((Utf8.decode s i).1:Int);obtain⟨x7,h7⟩:=QG (b:=((i:Int)==0)) fun _=>U4 ((Utf8.decode s i).1:Int);obtain⟨x9,h9⟩:=QG (b:=(!((i:Int)==0))) fun _=>Adi ((Utf8.decode s i).1:Int);simp only[bnd,h4,h7,h9,Aa];split
    ·exact⟨_,rfl,fun s' h=>(by cases h; exact⟨trivial,by omega⟩),fun _ _=>trivial⟩
    ·split
     ·exact⟨_,rfl,fun s' h=>(by cases h),fun _ _=>trivial⟩
     ·split
      ·exact⟨_,rfl,fun s' h=>(by cases h; exact⟨trivial,by omega⟩),fun _ _=>trivial⟩
      ·split
       ·exact⟨_,rfl,fun s' h=>(by cases h),fun _ _=>trivial⟩
       ·exact⟨_,rfl,fun s' h=>(by cases h; exact⟨trivial,by omega⟩),fun _ _=>trivial⟩
   ·rw[AjG hi];exact⟨_,rfl,fun s' h=>(by cases h),fun _ _=>trivial⟩) Bl 0 trivial (by have:=AX; omega)
  exact⟨t,e⟩
 ·cases a with
  |inl _=>exact tot _
  |inr _=>exact tot _
theorem AgT: ∀(l:List UInt8) (c:UInt8),Lib.indexByte l c<l.length
 | [],c=>by simp[Lib.indexByte]
 |b::l,c=>by
  have:=AgT l c;unfold Lib.indexByte;split
  ·rw[AjD]; omega
  ·split
   ·rw[AjD]; omega
   ·rw[AjD]; omega
theorem AO (s:ByteArray):s.data.toList.length=s.size:=by rw[Array.length_toList]; rfl
theorem WG (s:ByteArray): ∃x:Int,Co s (⟨#[46]⟩:ByteArray)=some x∧ -1≤x∧x<s.size:=by
 unfold Co Cj BE;simp only[bnd];by_cases h:((((⟨#[46]⟩:ByteArray).size:Int)==0)||eqS (⟨#[46]⟩:ByteArray) s)=true
 ·rw[AjF h];refine⟨0,rfl,by omega,?_⟩;have h1:eqS (⟨#[46]⟩:ByteArray) s=true:=by
   cases he:eqS (⟨#[46]⟩:ByteArray) s with
   |true=>rfl
   |false=>rw[he]at h; cases h
  have h2: [(46:UInt8)]=s.data.toList:=by simpa[eqS]using h1
  have h3:=AO s;rw[←h2]at h3;simp only[AjD,AjW]at h3;omega
 ·rw[AjG h];refine⟨AgU s 46,rfl,Lib.indexByte_ge _ _,?_⟩;have:=AgT s.data.toList 46;rw[AO]at this;exact this
theorem Ay {x:Int}(h0: -9223372036854775808≤x)(h1:x≤9223372036854775807):w64 x=x:=by
 unfold w64; omega
theorem G2 {s:ByteArray}{lo hi:Int}(h0:0≤lo)(h1:lo≤hi)(h2:hi≤s.size):Ru s lo hi=some (s.extract lo.toNat hi.toNat):=by
 unfold Ru; rw[AjF ⟨h0,h1,h2⟩]
theorem UM (s:ByteArray)(n k:Int):Ce s n k=Ab (if(decide ((s.size:Int)>k))=true then some true else Ab (EU s (⟨#[46]⟩:ByteArray)) fun x3=>some (decide (x3≥n))) fun x2=>if x2=true then some false else
  Ab (GG s (⟨#[46]⟩:ByteArray)) fun x4=>Ab (Bj (fun(s:(Unit)×Nat) (b0:ByteArray)=>if s.2=0 then Ab (Bw b0 s) fun y=>some (y.2==0,y)else none) x4.1 x4.2.1 x4.2.2 ((),0)) fun x5=>
  if(x5.2.2.2).2=0 then some true else some false:=by
 unfold Ce;cases decide ((s.size:Int)>k)with
 |true=>rfl
 |false=>cases EU s (⟨#[46]⟩:ByteArray)with|none=>rfl|some x=>rfl
theorem Zt (s:ByteArray)(n k:Int)(hk:k≤64):Tot (Ce s n k):=by
 rw[UM];refine C5 ?_ fun x2 hx2=> ?_
 ·refine QF (fun _=>tot _) fun _=> ?_;exact⟨_,rfl⟩
 ·refine QF (fun _=>tot _) fun h=> ?_;have hsz:s.size≤64:=by
   cases hd:decide ((s.size:Int)>k)with
   |true=>rw[AjF hd]at hx2; cases hx2; cases h
   |false=>simp only[decide_eq_false_iff_not]at hd; omega
  have key: ∃r,Bj (fun(s:(Unit)×Nat) (b0:ByteArray)=>if s.2=0 then Ab (Bw b0 s) fun y=>some (y.2==0,y)else none) (⟨#[46]⟩:ByteArray) s 0 ((),0)=some r:=by
   have hb5: ∀(b0:ByteArray) (s:Unit×Nat),∃z:Nat,Bw b0 s=some ((),z):=fun b0 s=>by
    unfold Bw;obtain⟨y,hy⟩:=Ac7 b0;rw[hy];simp only[Aa];split
    ·exact⟨1,rfl⟩
    ·exact⟨0,rfl⟩
   unfold Bj;rw[AjG (by decide)];obtain⟨tt,hit,hq⟩: ∃t,iter (AK (fun(s:(Unit)×Nat) (b0:ByteArray)=>if s.2=0 then Ab (Bw b0 s) fun y=>some (y.2==0,y)else none) (⟨#[46]⟩:ByteArray) 0) Bl (s,((),0))=some t∧∀y,t= .inl y→y.2.2=0:=by
    exact P7 (step:=AK (fun(s:(Unit)×Nat) (b0:ByteArray)=>if s.2=0 then Ab (Bw b0 s) fun y=>some (y.2==0,y)else none) (⟨#[46]⟩:ByteArray) 0) (fun z=>z.1.size) (fun z=>z.1.size≤64∧z.2.2=0) (fun t=> ∀y,t= .inl y→y.2.2=0) (fun z hz=>by
     obtain⟨x,h1,h2,h3⟩:=WG z.1;unfold AK;rw[h1];simp only[Aa];by_cases hx:x<0
     ·rw[AjF (by simpa using hx)];exact⟨_,rfl,fun s' h=>(by cases h),fun t ht y hy=>by subst hy; cases ht; exact hz.2⟩
     ·rw[AjG (by simpa using hx)];have hw:w64 (x+0)=x:=by rw[Int.add_zero]; exact Ay (by omega) (by omega)
      have hw1:w64 (x+((⟨#[46]⟩:ByteArray).size:Int))=x+1:=Ay (x:=x+1) (by omega) (by omega);rw[hw,hw1,G2 (by omega) (by omega) (by omega),G2 (lo:=x+1) (by omega) (by omega) (by omega)];simp only[Aa,AjF hz.2];obtain⟨zz,hzz⟩:=hb5 (z.1.extract (0:Int).toNat x.toNat) z.2;rw[hzz];simp only[Aa];split
      ·exact⟨_,rfl,fun s' h=>(by cases h),fun t ht y hy=>by subst hy; cases ht⟩
      ·rename_i hne;refine⟨_,rfl,fun s' h=> ?_,fun t ht=>by cases ht⟩;cases h;have e0:zz=0:=by simpa using hne
       refine⟨⟨?_,e0⟩,?_⟩
       ·simp only[ByteArray.size_extract]; omega
       ·simp only[ByteArray.size_extract]; omega) Bl (s,((),0)) ⟨hsz,rfl⟩ (by have:=AX; show s.size<Bl; omega)
   show Tot (Ab (iter _ Bl (s,((),0))) _);rw[hit];cases tt with
   |inr _=>exact tot _
   |inl y3=>
    have h0:=hq y3 rfl;obtain⟨zz,hzz⟩:=hb5 y3.1 y3.2;simp only[Aa,AjF h0,hzz];exact tot _
  obtain⟨r,hr⟩:=key;show Tot (Ab (Bj _ (⟨#[46]⟩:ByteArray) s 0 ((),0)) _);rw[hr];simp only[Aa];exact AhI (fun _=>tot _) fun _=>tot _
theorem AgV (s:ByteArray):Tot (Fm s):=C5 (Zt s 8 64 (by decide)) fun a _=>tot _
theorem Aeh (s:ByteArray):Tot (DC s):=by
 unfold DC;refine C5 (AgV s) fun a _=>C5 ?_ fun a _=>tot _;unfold EZ;exact QF (fun _=>tot _) fun _=>tot _
theorem U9 (s:ByteArray):Tot (B8 s (⟨#[42,46]⟩:ByteArray)):=by
 unfold B8 Bg Bf;refine C5 (C5 (C5 (QG fun h=> ?_) fun a _=>tot _) fun b hb=> ?_) fun a _=>tot _
 ·simp only[AjI]at h;exact⟨_,G2 (by omega) (by omega) h⟩
 ·refine QF (fun _=>tot _) fun h=> ?_;obtain⟨x,_,hx⟩:=Ad hb;have hx:=AjC (Ahq hx);have hb:b=true:=by simpa using h
  rw[hb]at hx;simp only[AjE,AjI]at hx;exact C5 ⟨_,G2 (by omega) hx.1 (by omega)⟩ fun a _=>tot _
theorem YI (s:ByteArray):Tot (Cy s):=by
 unfold Cy E1;refine C5 (C5 (AgV s) fun a _=>QF (fun _=>tot _) fun _=>C5 (U9 s) fun b _=>C5 (QG fun _=>Zt _ 7 62 (by decide)) fun c _=>tot _) fun a _=>C5 ?_ fun a _=>tot _;unfold EZ;exact QF (fun _=>tot _) fun _=>tot _
end Go.Proofs.YtibojdgdjhngiaaGreatDoor
end
section
namespace Go.Proofs.YtibojdgdjhngiaaGreatDoor
open Go Go.Gw Go.Ax
theorem Aby {α:Type}{x:Option α}{d:α}(h:Tot x):x=some (x.getD d):=by
 obtain⟨r,h⟩:=h;rw[h]; rfl
def textV (s:ByteArray):Bool:=(DK s).getD false
def nameV (s:ByteArray):Int:=(DC s).getD 0
def patV (s:ByteArray):Int:=(Cy s).getD 0
theorem Xz (s:ByteArray):DK s=some (textV s):=Aby (Aew s)
theorem UN (s:ByteArray):DC s=some (nameV s):=Aby (Aeh s)
theorem XR (s:ByteArray):Cy s=some (patV s):=Aby (YI s)
theorem YW {s:ByteArray}(h:textV s=true):eqS s (⟨#[]⟩:ByteArray)=false∧s.size≤64:=AbB (Xz s) h
theorem Wn {s:ByteArray}{n k:Int}(h:Ce s n k=some true):(s.size:Int)≤k:=by
 rw[UM]at h;obtain⟨x,hx,h⟩:=Ad h;cases hd:decide ((s.size:Int)>k)with
 |true=>
  rw[AjF hd]at hx;cases hx;cases h
 |false=>simp only[decide_eq_false_iff_not]at hd; omega
theorem Adg {s:ByteArray}(h:Fm s=some true):s.size≤64:=by
 obtain⟨x,hx,h⟩:=Ad h;cases h;have:=Wn hx;omega
theorem VX {b:Bool}{r:Int}(h:EZ b=some r)(h0:r=0):b=true:=by
 cases b with
 |true=>rfl
 |false=>
  have h2:(110:Int)=r:=AjC h;omega
theorem AaI {s:ByteArray}(h:nameV s=0):s.size≤64:=by
 have e:=UN s;rw[h]at e;obtain⟨x,hx,e⟩:=Ad e;obtain⟨y,hy,e⟩:=Ad e;cases e;have:=VX hy rfl;rw[this]at hx;exact Adg hx
theorem Sj {s:ByteArray}{c:ByteArray×Bool}(h:B8 s (⟨#[42,46]⟩:ByteArray)=some c)(h1:c.2=true):c.1.size+2=s.size:=by
 unfold B8 Bg Bf at h;obtain⟨d,hd,h⟩:=Ad h;have h:=AjC h;subst h;obtain⟨p,hp,hd⟩:=Ad hd;cases p with
 |false=>
  have hd:=AjC hd;subst hd;cases h1
 |true=>
  obtain⟨q,hq,hd⟩:=Ad hd;have hd:=AjC hd;subst hd;unfold Ru at hq;split at hq
  ·rename_i hc;have hq:=AjC hq;have e2:(⟨#[42,46]⟩:ByteArray).size=2:=rfl;rw[e2]at hq hc;show q.size+2=s.size;rw[←hq,ByteArray.size_extract];omega
  ·cases hq
theorem AcH {s:ByteArray}(h:patV s=0):s.size≤64:=by
 have e:=XR s;rw[h]at e;obtain⟨x,hx,e⟩:=Ad e;obtain⟨y,hy,e⟩:=Ad e;cases e;have h1:=VX hy rfl;unfold E1 at hx;obtain⟨b,hb,hx⟩:=Ad hx;cases b with
 |true=>exact Adg hb
 |false=>
  rw[AjG (by decide)]at hx;obtain⟨c,hc,hx⟩:=Ad hx;obtain⟨d,hd,hx⟩:=Ad hx;have hx:=AjC hx;subst hx;have h2:(c.2&&d)=true:=h1;simp only[AjE]at h2;rw[h2.1,h2.2]at hd;have h3:=Wn hd;have h4:=Sj hc h2.1;omega
def Ns (right:ByteArray→Int):List ByteArray→List ByteArray→Bool
 |_,[]=>true
 |met,s::l=> !(met.any (eqS s))&&right s==0&&Ns right (met++[s]) l
def LQ (met:List ByteArray):List (ByteArray×Bool):=met.map fun s=>(s,true)
theorem Ra: ∀(met:List ByteArray) (s:ByteArray) (i:Nat),(lkI (LQ met) s i).isSome=met.any (eqS s)∧∀p,lkI (LQ met) s i=some p→p.2=true
 | [],s,i=>⟨rfl,fun p h=>by cases h⟩
 |a::met,s,i=>by
  have ih:=Ra met s (i+1);rw[List.any_cons];cases h:eqS s a with
  |true=>
   refine⟨?_,fun p hp=> ?_⟩
   ·show(if eqS s a=true then some (i,true)else lkI (LQ met) s (i+1)).isSome=_;rw[AjF h]; rfl
   ·have hp:(if eqS s a=true then some (i,true)else lkI (LQ met) s (i+1))=some p:=hp;rw[AjF h]at hp;cases hp; rfl
  |false=>
   refine⟨?_,fun p hp=> ?_⟩
   ·show(if eqS s a=true then some (i,true)else lkI (LQ met) s (i+1)).isSome=_;rw[AjG (by rw[h]; decide)]; exact ih.1
   ·have hp:(if eqS s a=true then some (i,true)else lkI (LQ met) s (i+1))=some p:=hp;rw[AjG (by rw[h]; decide)]at hp;exact ih.2 p hp
theorem Ac2 (met:List ByteArray)(s:ByteArray):lkB (LQ met) s=met.any (eqS s):=by
 have h:=Ra met s 0;unfold lkB;rw[←h.1];cases e:lkI (LQ met) s 0 with
 |none=>rfl
 |some p=>rw[Aj1,Option.getD_some,h.2 p e]; rfl
theorem Afj (met:List ByteArray)(s:ByteArray)(h:met.any (eqS s)=false):(lkI (LQ met) s 0).isNone=true:=by
 have h1:=(Ra met s 0).1;rw[h]at h1;cases e:lkI (LQ met) s 0 with
 |none=>rfl
 |some p=>rw[e]at h1; cases h1
theorem AiF (right:ByteArray→Int)(mr:ByteArray→Option Int)(hr: ∀s,mr s=some (right s)): ∀(l met:List ByteArray) (i:Int),
  JC (fun(i1:Int) (x2:ByteArray) (s1:List (ByteArray×Bool))=>Ab (gu (!(lkB s1 x2)) (mr x2)) fun x3=>if((lkB s1 x2)||(x3 !=0))=true then some (.inr false)else if(lkI s1 x2 0).isNone=true then some (.inl (s1++[(x2,true)]))else none) l i (LQ met)
   =some (if Ns right met l=true then .inl (LQ (met++l))else .inr false)
 | [],met,i=>by simp[JC,Ns]
 |s::l,met,i=>by
  have ih:=AiF right mr hr l (met++[s]) (i+1);have hm':=Ac2 met s;simp only[JC,hr]at ih⊢;rw[hm'];cases hm:met.any (eqS s)with
  |true=>simp[gu,Ns,hm]
  |false=>
   simp only[gu,AkH,cond_true,Aa,AkB];cases h0:right s==0 with
   |false=>
    have h1:(right s !=0)=true:=by simp only[bne,h0,AkH]
    rw[AjF h1];simp[Ns,hm,h0]
   |true=>
    have h1:(right s !=0)=false:=by simp only[bne,h0,AkD]
    rw[h1];simp only[Bool.false_eq_true,if_false,Afj met s hm,if_true,Aa];have e:LQ met++[(s,true)]=LQ (met++[s]):=by simp[LQ]
    rw[e];simp only[gu]at ih;rw[ih];simp[Ns,hm,h0]
def listV (right:ByteArray→Int)(l:List ByteArray)(a b:Int):Bool:=Ns right [] l&&decide ((l.length:Int)≥a)&&decide ((l.length:Int)≤b)
theorem Ac5 (l:List ByteArray)(a b:Int):F5 l a b=some (listV patV l a b):=by
 unfold F5;have h:=AiF patV Cy XR l [] 0;show Ab (JC _ l 0 (LQ [])) _=_;unfold Jw;rw[h];unfold listV;cases Ns patV [] l<;>rfl
theorem Ac4 (l:List ByteArray)(a b:Int):F4 l a b=some (listV nameV l a b):=by
 unfold F4;have h:=AiF nameV DC UN l [] 0;show Ab (JC _ l 0 (LQ [])) _=_;unfold Jv;rw[h];unfold listV;cases Ns nameV [] l<;>rfl
theorem Wu {right:ByteArray→Int}: ∀{l met:List ByteArray},Ns right met l=true→∀s∈l,right s=0
 | [],met,_,s,hs=>by cases hs
 |a::l,met,h,s,hs=>by
  simp only[Ns,AjE,Akg]at h;rcases Aj5.1 hs with e|hs
  ·rw[e]; exact h.1.2
  ·exact Wu h.2 s hs
def numB (n:Int):Bool:=decide (n≥0)&&decide (n≤1099511627776)
def sigB (s:g_api_Sig):Bool:=decide ((UR s.E s.S).toNat<1152921504606845789)
def promBC (p:g_api_Promise):Bool:=numB p.Log&&numB p.At&&decide ((UR p.Leaf.1 p.Leaf.2).toNat<2305843009213693951)&&sigB p.Sig
theorem SP (n:Int):El n=some (numB n):=rfl
theorem V4 (s:g_api_Sig):G0 s=some (sigB s):=by
 unfold G0 sigB;simp only[bnd,AjL,Akc];omega
theorem max_eq (a b:UInt64):CH [a,b]=some (UR a b):=by
 have e1:Bt [a,b] (a,1)=some (.inl (UR a b,2)):=rfl;have e2:Bt [a,b] (UR a b,2)=some (.inr (UR a b)):=rfl;have h: ∀n,iter (Bt [a,b]) (n+1+1) (a,1)=some (UR a b):=fun n=>by
  simp only[iter,e1,Aa,e2]
 have hf:iter (Bt [a,b]) Bl (a,1)=some (UR a b):=h 18446744073709551614;have i0:idx [a,b] 0=some a:=rfl;have d0:decide ((([a,b]:List UInt64).length:Int)<1)=false:=rfl;unfold CH;rw[d0,i0];simp only[Bool.false_eq_true,if_false,Aa,hf]
theorem U1 {c v:Bool}:gu c (some v)=some (c&&v):=by cases c<;>rfl
theorem Mp {α:Type} [Inhabited α](o:Option α):gu true o=o:=rfl
theorem WH {α:Type} [Inhabited α](o:Option α):gu false o=some default:=rfl
theorem Az {α β:Type}(a:α)(k:α→β):bnd a k=k a:=rfl
theorem XP (p:g_api_Promise):G1 p=some (promBC p):=by
 unfold G1 promBC;simp only[SP,max_eq,V4,U1,Az,Aa];have e: ∀x:UInt64,decide ((x.toNat:Int)<2305843009213693951)=decide (x.toNat<2305843009213693951):=fun x=>by
  rw[Akc]; omega
 simp only[e];cases numB p.Log with
 |false=>simp only[Akt,WH,Aa]
 |true=>
  cases numB p.At with
  |false=>simp only[Akt,Akb,WH,Aa]
  |true=>
   simp only[Akb,Mp,Aa];cases decide ((UR p.Leaf.1 p.Leaf.2).toNat<2305843009213693951)<;>simp only[Akt,Akb]
def promsB:Int→List g_api_Promise→Bool
 |_,[]=>true
 |last,p::l=>promBC p&& !(decide (p.Log≤last))&&promsB p.Log l
theorem Zg: ∀(l:List g_api_Promise) (i last:Int),∃z:Int,JC Dz l i last=some (if promsB last l=true then .inl z else .inr false)
 | [],i,last=>⟨last,rfl⟩
 |p::l,i,last=>by
  obtain⟨z,ih⟩:=Zg l (i+1) p.Log;refine⟨z,?_⟩;have e:Dz i p last=some (if(promBC p&& !(decide (p.Log≤last)))=true then .inl p.Log else .inr false):=by
   unfold Dz;rw[XP,Aa];cases promBC p<;>cases decide (p.Log≤last)<;>rfl
  show Ab (Dz i p last) _=_;rw[e];cases h:promBC p&& !(decide (p.Log≤last))with
  |false=>
   simp[promsB,h]
  |true=>
   rw[AjF rfl,Aa];show JC Dz l (i+1) p.Log=_;rw[ih];simp[promsB,h]
theorem SM: ∀{l:List g_api_Promise} {last:Int},promsB last l=true→∀p∈l,promBC p=true
 | [],_,_,p,hp=>by cases hp
 |a::l,last,h,p,hp=>by
  simp only[promsB,AjE]at h;rcases Aj5.1 hp with e|hp
  ·rw[e]; exact h.1.1
  ·exact SM h.2 p hp
def formB (c:g_api_Cert):Bool:=promsB (-1) c.Proms&&(numB c.Serial&&numB c.From&&numB c.Until&&decide (c.From<c.Until))&&(textV c.Issuer&&(!((c.Key.toNat:Int)==0))&&decide ((c.Key.toNat:Int)<2305843009213691579)&&decide ((c.Proms.length:Int)≤4)&&sigB c.Sig)&&(if c.Ca=true then textV c.Subject&&((c.Names.length:Int)==0)&&decide (c.Depth≥0)&&decide (c.Depth≤4)&&listV patV c.Permit 0 8 else eqS c.Subject (⟨#[]⟩:ByteArray)&&listV nameV c.Names 1 8&&(c.Depth==0)&&((c.Permit.length:Int)==0))
theorem Ads (c:g_api_Cert):IN c=some (formB c):=by
 obtain⟨z,hz⟩:=Zg c.Proms 0 (-1);unfold IN formB;rw[hz];cases promsB (-1) c.Proms with
 |false=>rfl
 |true=>
  rw[AjF rfl,Aa];simp only[SP,Xz,V4,Ac5,Ac4,U1,Az,Aa,Akb];have e1:decide (c.From≥c.Until)= !decide (c.From<c.Until):=by
   rw[←decide_not,Akc]; omega
  have e2:decide ((c.Key.toNat:Int)≥2305843009213691579)= !decide ((c.Key.toNat:Int)<2305843009213691579):=by
   rw[←decide_not,Akc]; omega
  have e3:decide ((c.Proms.length:Int)>4)= !decide ((c.Proms.length:Int)≤4):=by
   rw[←decide_not,Akc]; omega
  rw[e1,e2,e3];generalize numB c.Serial=a1;generalize numB c.From=a2;generalize numB c.Until=a3;generalize decide (c.From<c.Until)=a4;generalize textV c.Issuer=b1;generalize ((c.Key.toNat:Int)==0)=b2;generalize decide ((c.Key.toNat:Int)<2305843009213691579)=b3;generalize decide ((c.Proms.length:Int)≤4)=b4;generalize sigB c.Sig=b5;cases a1<;>cases a2<;>cases a3<;>cases a4<;>try rfl
  all_goals cases b1<;>cases b2<;>cases b3<;>cases b4<;>cases b5<;>try rfl
  cases c.Ca with
  |true=>
   show some _=some _;generalize listV patV c.Permit 0 8=d1;generalize textV c.Subject=d2;generalize ((c.Names.length:Int)==0)=d3;generalize decide (c.Depth≥0)=d4;generalize decide (c.Depth≤4)=d5;cases d1<;>cases d2<;>cases d3<;>cases d4<;>cases d5<;>rfl
  |false=>
   show some _=some _;generalize listV nameV c.Names 1 8=d1;generalize eqS c.Subject (⟨#[]⟩:ByteArray)=d2;cases d1<;>cases d2<;>rfl
end Go.Proofs.YtibojdgdjhngiaaGreatDoor
end
section
namespace Go.Proofs.YtibojdgdjhngiaaGreatDoor
open Go Go.Gw Go.Ax
theorem Hi {α:Type}(b:Nat){xs ys:List α}(h:(xs.length+ys.length)*b≤140737488355328)(h1:xs.length+ys.length≤140737488355328):app b xs ys=some (xs++ys):=by unfold app; rw[AjF ⟨h,h1⟩]
theorem Kc {α:Type}(b:Nat){ys:List α}(h:ys.length*b≤140737488355328)(h1:ys.length≤140737488355328):app b [] ys=some ys:=by
 rw[Hi b (by simpa using h) (by simpa using h1)]; rfl
theorem Ot {α:Type}(x:α)(xs:List α):cut (x::xs) 1 (((x::xs).length:Nat):Int)=some xs:=by
 unfold cut;rw[AjF ⟨by omega,by rw[AjD]; omega,by omega⟩];show some (List.take _ xs)=_;rw[Akx];simp
def be8 (n:Int):List UInt8:=[toB (Cl n 56),toB (Cl n 48),toB (Cl n 40),toB (Cl n 32),toB (Cl n 24),toB (Cl n 16),toB (Cl n 8),toB (Cl n 0)]
def Gq:List UInt8→Bool
 | []=>false
 | [_]=>true
 |a::b::l=>decide (((a::b::l).length:Int)≤8)&&((a.toNat:Int) !=((toB (-((AbN b 7).toNat:Int))).toNat:Int))
def VW:List UInt8→List UInt8
 | []=> []
 | [a]=> [a]
 |a::b::l=>if Gq (a::b::l)=true then a::b::l else VW (b::l)
theorem UT (l:List UInt8):Jq l=some (Gq l):=by
 match l with
 | []=>rfl
 | [a]=>rfl
 |a::b::l=>
  unfold Jq;have e0:(((a::b::l).length:Int)==0)=false:=by simp only[AjX,AjD]; omega
  have e1:(((a::b::l).length:Int)==1)=false:=by simp only[AjX,AjD]; omega
  have i0:idx (a::b::l) 0=some a:=rfl;have i1:idx (a::b::l) 1=some b:=rfl;rw[e0,e1,i0,i1];simp only[Bool.false_eq_true,if_false,Aa,Az,Gq];cases decide (((a::b::l).length:Int)≤8)<;>rfl
theorem Abx: ∀(n:Nat) (l:List UInt8),l.length<n→iter Ed n l=some (VW l)
 |0,l,h=>by omega
 |n+1,l,h=>by
  show Ab (Ed l) _=_;match l with
  | []=>rfl
  | [a]=>rfl
  |a::b::l=>
   have ih:=Abx n (b::l) (by simp only[AjD]at h⊢; omega);have e0:decide (((a::b::l).length:Int)>1)=true:=by simp only[AjI,AjD]; omega
   cases hl:Gq (a::b::l)with
   |true=>
    have e:Ed (a::b::l)=some (.inr (a::b::l)):=by
     unfold Ed;rw[e0,AjF rfl,UT,hl];rfl
    rw[e];simp[VW,hl]
   |false=>
    have e:Ed (a::b::l)=some (.inl (b::l)):=by
     unfold Ed;rw[e0,AjF rfl,UT,hl,Ot];rfl
    rw[e];simp only[Aa];rw[ih];simp[VW,hl]
theorem P0: ∀(l:List UInt8),(VW l).length≤l.length
 | []=>AjQ _
 | [a]=>AjQ _
 |a::b::l=>by
  have ih:=P0 (b::l);unfold VW;split
  ·exact AjQ _
  ·rw[AjD]; omega
def Om (n:Int):g_api_Item:=⟨2,VW (be8 n),[]⟩
theorem be8_eq (n:Int):B3 (Ml n) 8 0 (0,0,0,0,0,0,0,0)=some (toB (Cl n 56),toB (Cl n 48),toB (Cl n 40),toB (Cl n 32),toB (Cl n 24),toB (Cl n 16),toB (Cl n 8),toB (Cl n 0)):=rfl
theorem P9 {l:List UInt8}(h:l.length≤140737488355328):AW l=some l:=by
 unfold AW;rw[Kc 1 (by omega) h]; rfl
theorem Adh (n:Int):E4 n=some (Om n):=by
 have h8:(be8 n).length=8:=rfl;have h:=P0 (be8 n);unfold E4;rw[be8_eq];show Ab (Ab (iter Ed Bl (be8 n)) _) _=_;rw[Abx Bl (be8 n) (by rw[h8]; have:=AX; omega)];show Ab (AW (VW (be8 n))) _=_;rw[P9 (by omega)];rfl
def NA (x:UInt64):g_api_Item:=Om (w64 (x.toNat:Int))
theorem Z2 (x:UInt64):Ez x=some (NA x):=by unfold Ez; rw[Adh]; rfl
def FB (s:ByteArray):g_api_Item:=⟨12,s.data.toList,[]⟩
def Ry (v:Bool):g_api_Item:=⟨1,[if v=true then 255 else 0],[]⟩
def SK (l:List g_api_Item):g_api_Item:=⟨48,[],l⟩
theorem Uh {s:ByteArray}(h:s.size≤140737488355328):IV s=some (FB s):=by
 unfold IV;rw[Kc 1 (by rw[AO]; omega) (by rw[AO]; exact h)]; rfl
theorem Af6 (v:Bool):OV v=some (Ry v):=by cases v<;>rfl
theorem Nk {l:List g_api_Item}(h:l.length≤1000000):FU l=some (SK l):=by
 unfold FU AE;rw[Kc 56 (by omega) (by omega)]; rfl
theorem YU: ∀(l:List ByteArray) (i:Int) (a:List g_api_Item),(∀s∈l,s.size≤64)→a.length+l.length≤1000000→Db B1 l i a=some (a++l.map FB)
 | [],i,a,_,_=>by simp[Db]
 |s::l,i,a,h,hn=>by
  rw[AjD]at hn;have ih:=YU l (i+1) (a++[FB s]) (fun x hx=>h x (Aj8 _ hx)) (by rw[AjJ]; show a.length+1+_≤_; omega);have e:B1 i s a=some (a++[FB s]):=by
   unfold B1;rw[Uh (by have:=h s AjZ; omega),Aa,Hi 56 (by show(a.length+1)*56≤_; omega) (by show a.length+1≤_; omega)];rfl
  show Ab (B1 i s a) _=_;rw[e];show Db _ l (i+1) (a++[FB s])=_;rw[ih];simp
def HY (l:List ByteArray):g_api_Item:=SK (l.map FB)
theorem YV {l:List ByteArray}(h: ∀s∈l,s.size≤64)(hn:l.length≤1000000):BT l=some (HY l):=by
 unfold BT;rw[YU l 0 [] h (by simpa using hn)];simp only[Aa,Akr];rw[Nk (by rw[Akh]; exact hn)]; rfl
def LY (p:g_api_Promise):g_api_Item:=SK [Om p.Log,Om p.At,NA p.Leaf.1,NA p.Leaf.2,NA p.Sig.E,NA p.Sig.S]
theorem AeY (p:g_api_Promise):IP p=some (LY p):=by
 unfold IP;simp only[Adh,Z2,Aa];rw[Nk (by simp)]; rfl
theorem Zf: ∀(l:List g_api_Promise) (i:Int) (a:List g_api_Item),a.length+l.length≤1000000→Db Bm l i a=some (a++l.map LY)
 | [],i,a,_=>by simp[Db]
 |s::l,i,a,hn=>by
  rw[AjD]at hn;have ih:=Zf l (i+1) (a++[LY s]) (by rw[AjJ]; show a.length+1+_≤_; omega);have e:Bm i s a=some (a++[LY s]):=by
   unfold Bm;rw[AeY,Aa,Hi 56 (by show(a.length+1)*56≤_; omega) (by show a.length+1≤_; omega)];rfl
  show Ab (Bm i s a) _=_;rw[e];show Db _ l (i+1) (a++[LY s])=_;rw[ih];simp
def Zh (l:List g_api_Promise):g_api_Item:=SK (l.map LY)
theorem Acv {l:List g_api_Promise}(hn:l.length≤1000000):BI l=some (Zh l):=by
 unfold BI;rw[Zf l 0 [] (by simpa using hn)];simp only[Aa,Akr];rw[Nk (by rw[Akh]; exact hn)]; rfl
structure YH (c:g_api_Cert):Prop where
 issuer:c.Issuer.size≤64
 subject:c.Subject.size≤64
 names: ∀s∈c.Names,s.size≤64
 few:c.Names.length≤8
 permit: ∀s∈c.Permit,s.size≤64
 fewP:c.Permit.length≤8
 proms:c.Proms.length≤4
def Aa6 (c:g_api_Cert):g_api_Item:=SK [Om c.Serial,FB c.Issuer,FB c.Subject,NA c.Key,HY c.Names,Om c.From,Om c.Until,Ry c.Ca,Om c.Depth,HY c.Permit]
def W4 (c:g_api_Cert):g_api_Item:=SK [Aa6 c,Zh c.Proms]
def wholeI (c:g_api_Cert):g_api_Item:=SK [W4 c,SK [NA c.Sig.E,NA c.Sig.S]]
theorem Aij {c:g_api_Cert}(h:YH c):KF c=some (Aa6 c):=by
 unfold KF;have h1:=h.issuer; have h2:=h.subject; have h3:=h.few; have h4:=h.fewP;simp only[Adh,Z2,Af6,Uh (s:=c.Issuer) (by omega),Uh (s:=c.Subject) (by omega),YV h.names (by omega),YV h.permit (by omega),Aa];rw[Nk (by simp)]; rfl
theorem Af9 {c:g_api_Cert}(h:YH c):Lg c=some (W4 c):=by
 unfold Lg;have h1:=h.proms;rw[Aij h,Acv (by omega)];simp only[Aa];rw[Nk (by simp)]; rfl
theorem Abm {c:g_api_Cert}(h:YH c):J3 c=some (wholeI c):=by
 unfold J3;rw[Af9 h,Z2,Z2];simp only[Aa];rw[Nk (by simp)];simp only[Aa];rw[Nk (by simp)]; rfl
structure Form (c:g_api_Cert):Prop where
 proms:promsB (-1) c.Proms=true
 serial:numB c.Serial=true
 frm:numB c.From=true
 til:numB c.Until=true
 lt:c.From<c.Until
 issuer:textV c.Issuer=true
 key0:(c.Key.toNat:Int)≠0
 keyQ:(c.Key.toNat:Int)<2305843009213691579
 nproms:(c.Proms.length:Int)≤4
 sig:sigB c.Sig=true
 ca:c.Ca=true→textV c.Subject=true∧c.Names=[]∧0≤c.Depth∧c.Depth≤4∧listV patV c.Permit 0 8=true
 leaf:c.Ca=false→c.Subject=(⟨#[]⟩:ByteArray)∧listV nameV c.Names 1 8=true∧c.Depth=0∧c.Permit=[]
theorem Yk {c:g_api_Cert}(h:formB c=true):Form c:=by
 unfold formB at h;simp only[AjE,AjI,Bool.not_eq_true',AjX]at h;obtain⟨⟨⟨h1,⟨⟨h2,h3⟩,h4⟩,h5⟩,⟨⟨⟨h6,h7⟩,h8⟩,h9⟩,h10⟩,h11⟩:=h;refine⟨h1,h2,h3,h4,h5,h6,h7,h8,h9,h10,fun e=> ?_,fun e=> ?_⟩
 ·rw[AjF e]at h11;simp only[AjE,AjI,Akg]at h11;obtain⟨⟨⟨⟨a,b⟩,d⟩,f⟩,g⟩:=h11;exact⟨a,List.eq_nil_of_length_eq_zero (by omega),by omega,f,g⟩
 ·rw[e]at h11;simp only[Bool.false_eq_true,if_false,AjE,AjI,Akg]at h11;obtain⟨⟨⟨a,b⟩,d⟩,f⟩:=h11;exact⟨JB.1 a,b,d,List.eq_nil_of_length_eq_zero (by omega)⟩
theorem Og {right:ByteArray→Int}{l:List ByteArray}{a b:Int}(h:listV right l a b=true):a≤l.length∧(l.length:Int)≤b∧∀s∈l,right s=0:=by
 unfold listV at h;simp only[AjE,AjI]at h;exact⟨by omega,h.2,Wu h.1.1⟩
theorem Form.sized {c:g_api_Cert}(h:Form c):YH c:=by
 have hi:=(YW h.issuer).2;have hp:=h.nproms;cases hc:c.Ca with
 |true=>
  obtain⟨h1,h2,h3,h4,h5⟩:=h.ca hc;obtain⟨l1,l2,l3⟩:=Og h5;exact⟨hi,(YW h1).2,(by rw[h2]; intro s hs; cases hs),by rw[h2]; decide,fun s hs=>AcH (l3 s hs),by omega,by omega⟩
 |false=>
  obtain⟨h1,h2,h3,h4⟩:=h.leaf hc;obtain⟨l1,l2,l3⟩:=Og h2;exact⟨hi,by rw[h1]; decide,fun s hs=>AaI (l3 s hs),by omega,(by rw[h4]; intro s hs; cases hs),by rw[h4]; decide,by omega⟩
end Go.Proofs.YtibojdgdjhngiaaGreatDoor
end
section
namespace Go.Proofs.YtibojdgdjhngiaaGreatDoor
open Go Go.Gw Go.Ax
theorem Ajc (t:Int):Hz t=some (if t=1 then(⟨1,305⟩,true)else if t=2 then(⟨2,149⟩,true)else if t=4 then(⟨4,306⟩,true)else if t=12 then(⟨12,307⟩,true)else if t=48 then(⟨48,310⟩,true)else(⟨0,-1⟩,false)):=by
 by_cases h1:t=1
 ·subst h1; rfl
 by_cases h2:t=2
 ·subst h2; rfl
 by_cases h3:t=4
 ·subst h3; rfl
 by_cases h4:t=12
 ·subst h4; rfl
 by_cases h5:t=48
 ·subst h5; rfl
 rw[AjG h1,AjG h2,AjG h3,AjG h4,AjG h5];have b: ∀(k:Int),t≠k→((k==t)=true)=False:=fun k h=>by simp only[Akg,eq_iff_iff,iff_false]; exact fun e=>h e.symm
 have g:Kb (An tab_2) tab_2.length 0 t=some (.inl t):=by
  have i: ∀(j:Nat) (k:Fw),idx tab_2 (j:Int)=some k→t≠k.tag_→An tab_2 (j:Int) t=some (.inl t):=fun j k e hk=>by
   have hb:(k.tag_==t)=false:=by simp only[AjX]; exact fun e=>hk e.symm
   unfold An Mk;rw[e];simp only[Aa,hb,Bool.false_eq_true,if_false]
  show Ab (An tab_2 ((0:Nat):Int) t) _=_;rw[i 0 ⟨1,305⟩ rfl h1];show Ab (An tab_2 ((1:Nat):Int) t) _=_;rw[i 1 ⟨2,149⟩ rfl h2];show Ab (An tab_2 ((2:Nat):Int) t) _=_;rw[i 2 ⟨4,306⟩ rfl h3];show Ab (An tab_2 ((3:Nat):Int) t) _=_;rw[i 3 ⟨12,307⟩ rfl h4];show Ab (An tab_2 ((4:Nat):Int) t) _=_;rw[i 4 ⟨48,310⟩ rfl h5];rfl
 unfold Hz Bz;rw[g];rfl
def Ih (t:Int):Bool:=t==1||t==2||t==4||t==12||t==48
def Af7 (b:List UInt8):Bool:=match b with| [x]=>x==0||x==255|_=>false
def Kw (b:List UInt8):Bool:=b.all fun c=>decide (32≤c.toNat)&&decide (c.toNat≤126)
def PV (t:Int)(b:List UInt8):Bool:=if t=1 then Af7 b else if t=2 then Gq b else if t=4 then true else if t=12 then Kw b else if t=48 then b.isEmpty else false
theorem Wx (b:List UInt8):Fv b=some (Af7 b):=by
 match b with
 | []=>rfl
 | [x]=>
  unfold Fv;have e1:((([x]:List UInt8).length:Int)==1)=true:=rfl;have e2:idx [x] 0=some x:=rfl;rw[e1,e2];have e3: ∀n:UInt8,((x.toNat:Int)==n.toNat)=(x==n):=fun n=>by
   rw[Akn,Akg,Akg,←UInt8.toNat_inj];omega
  have z0:((x.toNat:Int)==0)=(x==0):=e3 0;have z1:((x.toNat:Int)==255)=(x==255):=e3 255;simp only[Mp,Aa,Az,z0,z1,Akb];show _=some (x==0||x==255);cases h:x==0 with
  |true=>rfl
  |false=>simp only[AkH,Mp,Aa,Az,z1,AkB]
 |x::y::l=>
  unfold Fv;have e1:(((x::y::l).length:Int)==1)=false:=by simp only[AjX,AjD]; omega
  rw[e1];rfl
theorem AgW: ∀(a b:List UInt8),∃r,Kb (AD (a++b)) b.length (a.length:Int) ()=some r∧(r= .inl ()↔Kw b=true)∧∀i,r= .inr i→0≤i
 |a,[]=>⟨.inl (),rfl,by simp[Kw],fun i h=>by cases h⟩
 |a,c::b=>by
  have hi:idx (a++c::b) (a.length:Int)=some c:=by
   unfold idx;rw[AjF (by omega)];simp
  obtain⟨r,h1,h2,h3⟩:=AgW (a++[c]) b;have ec:(decide ((c.toNat:Int)<32)||decide ((c.toNat:Int)>126))= !(decide (32≤c.toNat)&&decide (c.toNat≤126)):=by
   rw[Akn];simp only[Akl,Bool.not_eq_true',Bool.and_eq_false_iff,AjI,decide_eq_false_iff_not];omega
  have st:AD (a++c::b) (a.length:Int) ()=some (if(decide (32≤c.toNat)&&decide (c.toNat≤126))=true then .inl ()else .inr (a.length:Int)):=by
   unfold AD Js;rw[hi];simp only[Aa,Az,ec];cases decide (32≤c.toNat)&&decide (c.toNat≤126)<;>rfl
  show∃r,Ab (AD (a++c::b) (a.length:Int) ()) _=some r∧_;rw[st];cases hc:decide (32≤c.toNat)&&decide (c.toNat≤126)with
  |false=>exact⟨.inr (a.length:Int),rfl,by simp[Kw,hc],fun i h=>(by cases h; omega)⟩
  |true=>
   refine⟨r,?_,?_,h3⟩
   ·show Kb (AD (a++c::b)) b.length ((a.length:Int)+1) ()=some r;rw[←h1];simp
   ·rw[h2];simp only[Kw,Akv,hc,Akb]
theorem Adb (b:List UInt8):IK b=some (Kw b):=by
 obtain⟨r,h1,h2,h3⟩:=AgW [] b;unfold IK BW Cp;have h1:Kb (AD b) b.length 0 ()=some r:=h1;rw[h1];cases r with
 |inl u=>rw[h2.1 rfl]; rfl
 |inr i=>
  have hp:Kw b=false:=by
   cases h:Kw b with
   |false=>rfl
   |true=>exact absurd (h2.2 h) (by simp)
  have hi:=h3 i rfl;rw[hp];show some (!(decide (i≥0)))=_;rw[AjN hi]; rfl
theorem Ada (b:List UInt8):IJ b=some b.isEmpty:=by
 cases b with
 |nil=>rfl
 |cons a l=>
  unfold IJ;have:(((a::l).length:Int)==0)=false:=by simp only[AjX,AjD]; omega
  rw[this]; rfl
theorem Yb {t:Int}(h:Ih t=true):t=1∨t=2∨t=4∨t=12∨t=48:=by
 unfold Ih at h;simp only[Akl,Akg]at h;omega
theorem KI {t:Int}(h:Ih t=true): ∃k,Hz t=some (k,true)∧k.tag_=t∧∀b,Oc k.may_ b=some (PV t b):=by
 rcases Yb h with e|e|e|e|e
 ·subst e; exact⟨_,rfl,rfl,Wx⟩
 ·subst e; exact⟨_,rfl,rfl,UT⟩
 ·subst e; exact⟨_,rfl,rfl,fun b=>rfl⟩
 ·subst e; exact⟨_,rfl,rfl,Adb⟩
 ·subst e; exact⟨_,rfl,rfl,Ada⟩
theorem Gr {t:Int}(h:Ih t=false):Hz t=some (⟨0,-1⟩,false)∧∀b,PV t b=false:=by
 unfold Ih at h;simp only[Bool.or_eq_false_iff,AjX]at h;obtain⟨⟨⟨⟨h1,h2⟩,h3⟩,h4⟩,h5⟩:=h;refine⟨?_,fun b=> ?_⟩
 ·rw[Ajc,AjG h1,AjG h2,AjG h3,AjG h4,AjG h5]
 ·unfold PV;rw[AjG h1,AjG h2,AjG h3,AjG h4,AjG h5]
def mayB:Nat→g_api_Item→Bool
 |0,_=>false
 |d+1,x=>PV x.Tag x.B&&(x.Tag==48||x.L.isEmpty)&&x.L.all (mayB d)
theorem AgX (rF:g_api_Item→Int→Option Bool)(p:g_api_Item→Bool)(d:Int): ∀(a b:List g_api_Item),(∀y∈b,rF y (w64 (d-1))=some (p y))→
  ∃r,Kb (Aw rF (a++b)) b.length (a.length:Int) d=some r∧(r= .inl d↔b.all p=true)∧(∀e,r= .inl e→e=d)∧∀i,r= .inr i→0≤i.1
 |a,[],_=>⟨.inl d,rfl,by simp,fun e h=>by cases h; rfl,fun i h=>by cases h⟩
 |a,c::b,h=>by
  have hi:idx (a++c::b) (a.length:Int)=some c:=by
   unfold idx;rw[AjF (by omega)];simp
  obtain⟨r,h1,h2,h4,h3⟩:=AgX rF p d (a++[c]) b fun y hy=>h y (Aj8 _ hy);have st:Aw rF (a++c::b) (a.length:Int) d=some (if p c=true then .inl d else .inr ((a.length:Int),d)):=by
   unfold Aw Lb;rw[hi];simp only[Aa,h c AjZ];cases p c<;>rfl
  show∃r,Ab (Aw rF (a++c::b) (a.length:Int) d) _=some r∧_;rw[st];cases hc:p c with
  |false=>exact⟨.inr ((a.length:Int),d),rfl,by simp[hc],fun e h=>(by cases h),fun i h=>(by cases h; exact AkC _)⟩
  |true=>
   refine⟨r,?_,?_,h4,h3⟩
   ·show Kb (Aw rF (a++c::b)) b.length ((a.length:Int)+1) d=some r;rw[←h1];simp
   ·rw[h2];simp only[Akv,hc,Akb]
theorem Yy (rF:g_api_Item→Int→Option Bool)(p:g_api_Item→Bool)(d:Int)(l:List g_api_Item)(h: ∀y∈l,rF y (w64 (d-1))=some (p y)):
  ∃z,AQ rF l d=some (!(l.all p),z):=by
 obtain⟨r,h1,h2,h4,h3⟩:=AgX rF p d [] l h;have h1:Kb (Aw rF l) l.length 0 d=some r:=h1;unfold AQ Bp;rw[h1];cases r with
 |inl u=>
  have:=h4 u rfl;subst this;rw[h2.1 rfl];exact⟨_,rfl⟩
 |inr i=>
  have hp:l.all p=false:=by
   cases h:l.all p with
   |false=>rfl
   |true=>exact absurd (h2.2 h) (by simp)
  have hi:=h3 i rfl;rw[hp];refine⟨i.2,?_⟩;show some (decide (i.1≥0),i.2)=_;rw[AjN hi]; rfl
theorem AgR: ∀(d n:Nat) (x:g_api_Item),d<n→d≤100→H2 n x (d:Int)=some (mayB d x)
 |d,0,x,h,_=>by omega
 |0,n+1,x,_,_=>by
  show Hy (H2 n) x 0=some false;unfold Hy;cases hk:Ih x.Tag with
  |false=>rw[(Gr hk).1]; rfl
  |true=>
   obtain⟨k,e,_,_⟩:=KI hk;rw[e]; rfl
 |d+1,n+1,x,h,hd=>by
  have ih: ∀y∈x.L,H2 n y (w64 (((d+1:Nat):Int)-1))=some (mayB d y):=fun y _=>by
   rw[show w64 (((d+1:Nat):Int)-1)=(d:Int)from by rw[Ay (by omega) (by omega)]; omega];exact AgR d n y (by omega) (by omega)
  obtain⟨z,hz⟩:=Yy (H2 n) (mayB d) ((d+1:Nat):Int) x.L ih;show Hy (H2 n) x ((d+1:Nat):Int)=some (mayB (d+1) x);unfold Hy mayB;have e1:decide (((d+1:Nat):Int)<1)=false:=by rw[decide_eq_false_iff_not]; omega
  have e2:decide ((x.L.length:Int)>0)= !x.L.isEmpty:=by
   cases x.L with
   |nil=>rfl
   |cons a l=>show decide _=true; rw[AjI,AjD]; omega
  have e3:(x.Tag !=48)= !(x.Tag==48):=rfl;rw[e1,e2,e3];cases hk:Ih x.Tag with
  |false=>
   rw[(Gr hk).1,(Gr hk).2]; rfl
  |true=>
   obtain⟨k,e,_,hm⟩:=KI hk;rw[e];simp only[Aa,AkD,Bool.or_false,AkH,Mp,hm,hz,Bool.not_not];cases PV x.Tag x.B<;>cases x.Tag==48<;>cases x.L.isEmpty<;>rfl
theorem Q7 (x:g_api_Item):Jo x 8=some (mayB 8 x):=AgR 8 Bl x (by have:=AX; omega) (by decide)
end Go.Proofs.YtibojdgdjhngiaaGreatDoor
end
section
namespace Go.Proofs.YtibojdgdjhngiaaGreatDoor
open Go Go.Gw Go.Ax
def Hg (n:Nat):List UInt8:=if n<128 then [toB (n:Int)]else if n<256 then [129,toB (n:Int)]else [130,toB (Cl (n:Int) 8),toB (n:Int)]
def putB:Nat→g_api_Item→List UInt8
 |0,_=> []
 |d+1,x=>toB x.Tag::(Hg (x.B++x.L.flatMap (putB d)).length++(x.B++x.L.flatMap (putB d)))
def PZ:Nat→g_api_Item→Prop
 |0,_=>False
 |d+1,x=> ∀y∈x.L,PZ d y
theorem Ys: ∀{d:Nat} {x:g_api_Item},mayB d x=true→PZ d x
 |0,x,h=>by cases h
 |d+1,x,h=>by
  simp only[mayB,AjE,Aj7]at h;exact fun y hy=>Ys (h.2 y hy)
theorem Oh (n:Nat):1≤(Hg n).length∧(Hg n).length≤3:=by
 unfold Hg;split
 ·exact⟨by simp,by simp⟩
 ·split
  ·exact⟨by simp,by simp⟩
  ·exact⟨by simp,by simp⟩
theorem putE: ∀(d n:Nat) (x:g_api_Item) (b:List UInt8),d≤n→PZ d x→b.length+(putB d x).length≤100000000000000→GF n b x=some (b++putB d x)
 |0,n,x,b,_,h,_=>h.elim
 |d+1,0,x,b,h,_,_=>by omega
 |d+1,n+1,x,b,hn,hd,hb=>by
  have eP:putB (d+1) x=toB x.Tag::(Hg (x.B++x.L.flatMap (putB d)).length++(x.B++x.L.flatMap (putB d))):=rfl;have go: ∀(l:List g_api_Item) (i:Int) (s:List UInt8),(∀y∈l,PZ d y)→s.length+(l.flatMap (putB d)).length≤100000000000000→Db (Et (GF n)) l i s=some (s++l.flatMap (putB d)):=by
   intro l;induction l with
   |nil=>intro i s _ _; simp[Db]
   |cons y l ih=>
    intro i s h hs;rw[Akz,AjJ]at hs;have e:Et (GF n) i y s=some (s++putB d y):=by
     unfold Et;rw[putE d n y s (by omega) (h y AjZ) (by omega)];rfl
    show Ab (Et (GF n) i y s) _=_;rw[e];show Db _ l (i+1) (s++putB d y)=_;rw[ih (i+1) (s++putB d y) (fun z hz=>h z (Aj8 _ hz)) (by rw[AjJ]; omega),Akz,AjP]
  rw[eP]at hb⊢;simp only[AjD,AjJ]at hb;have hc:GW (GF n) x=some (x.B++x.L.flatMap (putB d)):=by
   unfold GW;rw[P9 (by omega),Aa,go x.L 0 x.B hd (by omega)];rfl
  show La (GF n) b x=_;unfold La;rw[hc,Aa,Hi 1 (by simp only[AjD,AjW]; omega) (by simp only[AjD,AjW]; omega),Aa];rw[←AjJ]at hb;have hL:(x.B++x.L.flatMap (putB d)).length=(x.B++x.L.flatMap (putB d)).length:=rfl;generalize (x.B++x.L.flatMap (putB d))=c at hb hL⊢;have hl:=Oh c.length;have hm: ∀z:List UInt8,z.length≤3→app 1 (b++[toB x.Tag]) z=some (b++[toB x.Tag]++z):=fun z hz=>Hi 1 (by simp only[AjJ,AjD,AjW]; omega) (by simp only[AjJ,AjD,AjW]; omega);have fin:app 1 (b++[toB x.Tag]++Hg c.length) c=some (b++toB x.Tag::(Hg c.length++c)):=by
   rw[Hi 1 (by simp only[AjJ,AjD,AjW]; omega) (by simp only[AjJ,AjD,AjW]; omega)];simp
  have mid:(bnd (decide ((c.length:Int)<128)) fun x4=>
    if x4=true then
     Ab (app 1 (b++[toB x.Tag]) ([(toB (c.length:Int))]:List UInt8)) fun x5=>
     some x5
    else
    bnd ((decide ((c.length:Int)<256))) fun x6=>
    if x6=true then
     Ab (app 1 (b++[toB x.Tag]) ([129,(toB (c.length:Int))]:List UInt8)) fun x7=>
     some x7
    else
    Ab (app 1 (b++[toB x.Tag]) ([130,(toB (Cl (c.length:Int) 8)),(toB (c.length:Int))]:List UInt8)) fun x8=>
    some x8)=some (b++[toB x.Tag]++Hg c.length):=by
   rw[hm [toB (c.length:Int)] (by simp),hm [129,toB (c.length:Int)] (by simp),hm [130,toB (Cl (c.length:Int) 8),toB (c.length:Int)] (by simp)];simp only[Az,Aa,AjI];unfold Hg;by_cases h1:c.length<128
   ·rw[AjF h1,AjF (by omega)]
   ·rw[AjG h1,AjG (by omega)];by_cases h2:c.length<256
    ·rw[AjF h2,AjF (by omega)]
    ·rw[AjG h2,AjG (by omega)]
  rw[mid];simp only[Aa];rw[fin];rfl
theorem Aig {x:g_api_Item}(h:PZ 8 x)(hs:(putB 8 x).length≤100000000000000):Q9 [] x=some (putB 8 x):=by
 have:=putE 8 Bl x [] (by have:=AX; omega) h (by simpa using hs);exact this
theorem Aee {x:g_api_Item}(hs:(putB 8 x).length≤100000000000000):
  KE x=some (if mayB 8 x=true then(if(putB 8 x).length≤8192 then(putB 8 x,0)else([],2))else([],1)):=by
 unfold KE;rw[Q7];cases hm:mayB 8 x with
 |false=>rfl
 |true=>
  simp only[Aa,AkD,Bool.false_eq_true,if_false,if_true];rw[Aig (Ys hm) hs];simp only[Aa,AjI];by_cases h:(putB 8 x).length≤8192
  ·rw[AjG (by omega),AjF h]
  ·rw[AjF (by omega),AjG h]
theorem ZO {α:Type}(f:α→List UInt8)(k:Nat): ∀(l:List α),(∀y∈l,(f y).length≤k)→(l.flatMap f).length≤l.length*k
 | [],_=>by simp
 |y::l,h=>by
  have h1:=h y AjZ;have h2:=ZO f k l fun z hz=>h z (Aj8 _ hz);rw[Akz,AjJ,AjD,Nat.succ_mul];omega
theorem UC (d:Nat)(x:g_api_Item):(putB (d+1) x).length≤4+x.B.length+(x.L.flatMap (putB d)).length:=by
 have:=Oh (x.B++x.L.flatMap (putB d)).length;show(toB x.Tag::(Hg (x.B++x.L.flatMap (putB d)).length++(x.B++x.L.flatMap (putB d)))).length≤_;rw[AjD,AjJ,AjJ]at*;omega
theorem Mn (d:Nat)(n:Int):(putB d (Om n)).length≤12:=by
 cases d with
 |zero=>simp[putB]
 |succ d=>
  have h:=UC d (Om n);have h1:(Om n).B.length≤8:=P0 (be8 n);have h2:(Om n).L=[]:=rfl;rw[h2]at h;simp only[List.flatMap_nil,AjW]at h;omega
theorem QJ (d:Nat){s:ByteArray}(hs:s.size≤64):(putB d (FB s)).length≤68:=by
 cases d with
 |zero=>simp[putB]
 |succ d=>
  have h:=UC d (FB s);have h1:(FB s).B.length=s.size:=AO s;have h2:(FB s).L=[]:=rfl;rw[h2]at h;simp only[List.flatMap_nil,AjW]at h;omega
theorem AdZ (d:Nat)(v:Bool):(putB d (Ry v)).length≤5:=by
 cases d with
 |zero=>simp[putB]
 |succ d=>
  have h:=UC d (Ry v);have h1:(Ry v).B.length=1:=rfl;have h2:(Ry v).L=[]:=rfl;rw[h2]at h;simp only[List.flatMap_nil,AjW]at h;omega
theorem KS (d:Nat)(l:List g_api_Item)(k:Nat)(hk: ∀e y,y∈l→(putB e y).length≤k):(putB d (SK l)).length≤4+l.length*k:=by
 cases d with
 |zero=>simp[putB]
 |succ d=>
  have h:=UC d (SK l);have h1:(SK l).B.length=0:=rfl;have h3:=ZO (putB d) k l fun y hy=>hk d y hy;have h2:(SK l).L=l:=rfl;rw[h2]at h;omega
theorem SH (d:Nat){l:List ByteArray}(h: ∀s∈l,s.size≤64)(hn:l.length≤8):(putB d (HY l)).length≤1000:=by
 have:=KS d (l.map FB) 68 fun e y hy=>by
  obtain⟨s,hs,e2⟩:=List.mem_map.1 hy;rw[←e2];exact QJ e (h s hs)
 rw[Akh]at this;unfold HY;omega
theorem Afh {α:Type}{p:α→Prop}{a b:α}(ha:p a)(hb:p b): ∀y∈[a,b],p y:=by
 intro y hy;simp only[Aj5,List.not_mem_nil,or_false]at hy;rcases hy with e|e<;>rw[e]<;>assumption
theorem Ae0 (d:Nat){c:g_api_Cert}(h:YH c):(putB d (Aa6 c)).length≤20000:=by
 have:=KS d [Om c.Serial,FB c.Issuer,FB c.Subject,NA c.Key,HY c.Names,Om c.From,Om c.Until,Ry c.Ca,Om c.Depth,HY c.Permit] 1000 fun e y hy=>by
  simp only[Aj5,List.not_mem_nil,or_false]at hy;rcases hy with q|q|q|q|q|q|q|q|q|q<;>rw[q]
  ·have:=Mn e c.Serial; omega
  ·have:=QJ e h.issuer; omega
  ·have:=QJ e h.subject; omega
  ·have:=Mn e (w64 (c.Key.toNat:Int)); unfold NA; omega
  ·exact SH e h.names h.few
  ·have:=Mn e c.From; omega
  ·have:=Mn e c.Until; omega
  ·have:=AdZ e c.Ca; omega
  ·have:=Mn e c.Depth; omega
  ·exact SH e h.permit h.fewP
 simp only[AjD,AjW]at this;unfold Aa6;omega
theorem Acw (d:Nat)(p:g_api_Promise):(putB d (LY p)).length≤100:=by
 have:=KS d [Om p.Log,Om p.At,NA p.Leaf.1,NA p.Leaf.2,NA p.Sig.E,NA p.Sig.S] 12 fun e y hy=>by
  simp only[Aj5,List.not_mem_nil,or_false]at hy;rcases hy with q|q|q|q|q|q<;>rw[q]<;>exact Mn e _
 simp only[AjD,AjW]at this;unfold LY;omega
theorem Ad1 (d:Nat){c:g_api_Cert}(h:YH c):(putB d (W4 c)).length≤50000:=by
 have:=KS d [Aa6 c,Zh c.Proms] 20000 fun e=>Afh (p:=fun y=>(putB e y).length≤20000) (Ae0 e h) (by
  have:=KS e (c.Proms.map LY) 100 fun f y hy=>by
   obtain⟨p,hp,e2⟩:=List.mem_map.1 hy;rw[←e2];exact Acw f p
  rw[Akh]at this;have:=h.proms;unfold Zh;omega)
 simp only[AjD,AjW]at this;unfold W4;omega
theorem Sw (d:Nat){c:g_api_Cert}(h:YH c):(putB d (wholeI c)).length≤200000:=by
 have:=KS d [W4 c,SK [NA c.Sig.E,NA c.Sig.S]] 50000 fun e=>Afh (p:=fun y=>(putB e y).length≤50000) (Ad1 e h) (by
  have:=KS e [NA c.Sig.E,NA c.Sig.S] 12 fun f=>Afh (p:=fun y=>(putB f y).length≤12) (Mn f _) (Mn f _);simp only[AjD,AjW]at this;omega)
 simp only[AjD,AjW]at this;unfold wholeI;omega
def checkV (c:g_api_Cert):Int:=if formB c=true then(if mayB 8 (wholeI c)=true∧(putB 8 (wholeI c)).length≤2048 then 0 else 2)else 1
theorem AdU (b:List UInt8)(m:Bool):(Ab (some (if m=true then(if b.length≤8192 then(b,(0:Int))else([],2))else([],1))) fun x3=>if((x3.2 !=0)||(decide ((x3.1.length:Int)>2048)))=true then some (2:Int)else some 0)=some (if m=true∧b.length≤2048 then 0 else 2):=by
 cases m with
 |false=>rfl
 |true=>
  simp only[if_true,Aa,true_and];by_cases h1:b.length≤8192
  ·rw[AjF h1];by_cases h2:b.length≤2048
   ·rw[AjF h2,AjG];simp only[bne_self_eq_false,AkB,AjI];omega
   ·rw[AjG h2,AjF];simp only[bne_self_eq_false,AkB,AjI];omega
  ·rw[AjG h1];have h2: ¬b.length≤2048:=by omega
   rw[AjG h2];rfl
theorem W0 (c:g_api_Cert):E5 c=some (checkV c):=by
 unfold E5 checkV;rw[Ads];cases hf:formB c with
 |false=>rfl
 |true=>
  have hs:=(Yk hf).sized;simp only[Aa,AkD,Bool.false_eq_true,if_false,if_true];have hl:=Sw 8 hs;rw[Abm hs,Aa,Aee (by omega),AdU]
end Go.Proofs.YtibojdgdjhngiaaGreatDoor
end
section
namespace Go.Proofs.YtibojdgdjhngiaaGreatDoor
open Go Go.Gw Go.Ax
theorem Abq (x:Int):w64 (x%18446744073709551616)=w64 x:=by unfold w64; omega
theorem nat_or (q b:Nat)(h:b<256):256*q|||b=256*q+b:=(Nat.two_pow_add_eq_or_of_lt (i:=8) h q).symm
theorem J7 (s b:Int)(h0:0≤b)(h1:b<256):PT (HZ s 8) b=w64 (s*256+b):=by
 have e1:(HZ s 8)=w64 (s*256):=rfl;unfold PT;rw[BitVec.toNat_or,BitVec.toNat_ofInt,BitVec.toNat_ofInt,e1];obtain⟨q,hq⟩: ∃q:Nat,(w64 (s*256)% ((2^64:Nat):Int)).toNat=256*q:=by
  refine⟨(w64 (s*256)% ((2^64:Nat):Int)).toNat/256,?_⟩;unfold w64;omega
 have hb:(b% ((2^64:Nat):Int)).toNat=b.toNat:=by omega
 rw[hb,hq,nat_or q b.toNat (by omega),←Abq,←Abq (s*256+b)];congr 1;have hq':w64 (s*256)%18446744073709551616=256*q:=by
  have:(0:Int)≤w64 (s*256)% ((2^64:Nat):Int):=Int.emod_nonneg _ (by decide);have e:(((2^64:Nat):Int))=18446744073709551616:=rfl;rw[e]at this hq;omega
 unfold w64 at hq';omega
theorem LR (n:Int):((toB n).toNat:Int)=n%256:=by
 have h:0≤n%256:=Int.emod_nonneg _ (by decide);have h2:n%256<256:=Int.emod_lt_of_pos _ (by decide);unfold toB;rw[UInt8.toNat_ofNat'];omega
theorem QS (n:Int):Cl n 8=n/256:=by
 unfold Cl;rw[Int.fdiv_eq_ediv_of_nonneg _ (by decide)];rfl
theorem O0 {α:Type}(x:α)(l:List α):idx (x::l) 0=some x:=rfl
theorem fst1 (b:UInt8)(r:List UInt8)(h:b.toNat<128):AZ (b::r)=some ((b.toNat:Int),1,0):=by
 unfold AZ;have e0:(((b::r).length:Int)==0)=false:=by simp only[AjX,AjD]; omega
 have e1:w64 (b.toNat:Int)=(b.toNat:Int):=Ay (by omega) (by omega);rw[e0,O0,AjG (by decide),Aa,e1,AjF (by simp only[AjI]; omega)]
theorem O8 (a:UInt8)(l r:List UInt8):cut (a::l++r) 1 ((l.length:Int)+1)=some l:=by
 unfold cut;rw[AjF ⟨by decide,by omega,by simp only[AjJ,AjD]; omega⟩];have e:((l.length:Int)+1).toNat-(1:Int).toNat=l.length:=by show((l.length:Int)+1).toNat-1=_; omega
 rw[e];show some (List.take l.length (l++r))=_;rw[AkS]
theorem fst2 (b:UInt8)(r:List UInt8)(h:128≤b.toNat):AZ (129::b::r)=some ((b.toNat:Int),2,0):=by
 unfold AZ;have e0:(((129::b::r).length:Int)==0)=false:=by simp only[AjX,AjD]; omega
 have e1:w64 (((129:UInt8).toNat:Int))=129:=Ay (x:=129) (by decide) (by decide);have e2:w64 ((129:Int)-128)=1:=rfl;have e3:w64 ((1:Int)+1)=2:=rfl;have e4:decide (((129::b::r).length:Int)≤1)=false:=by simp only[decide_eq_false_iff_not,AjD]; omega
 have e5:cut (129::b::r) 1 2=some [b]:=O8 129 [b] r;have hb:=b.toNat_lt;have e6:PT (HZ 0 8) (w64 (b.toNat:Int))=(b.toNat:Int):=by
  rw[Ay (x:=(b.toNat:Int)) (by omega) (by omega),J7 0 _ (by omega) (by omega),Int.zero_mul,Int.zero_add,Ay (by omega) (by omega)]
 have e7:Db Dl [b] 0 0=some (b.toNat:Int):=by
  show some (PT (HZ 0 8) (w64 (b.toNat:Int)))=_;rw[e6]
 have e8:decide ((b.toNat:Int)<128)=false:=by simp only[decide_eq_false_iff_not]; omega
 rw[e0,O0,AjG (by decide),Aa,e1,AjG (by decide),Az,e2,Az,AjG (by decide),Az,e4,AjG (by decide),e3,e5,Aa,e7,Aa,Aa,e8,AjG (by simp)]
theorem fst3 (b1 b2:UInt8)(r:List UInt8)(h:1≤b1.toNat):AZ (130::b1::b2::r)=some ((b1.toNat:Int)*256+(b2.toNat:Int),3,0):=by
 unfold AZ;have e0:(((130::b1::b2::r).length:Int)==0)=false:=by simp only[AjX,AjD]; omega
 have e1:w64 (((130:UInt8).toNat:Int))=130:=Ay (x:=130) (by decide) (by decide);have e2:w64 ((130:Int)-128)=2:=rfl;have e3:w64 ((2:Int)+1)=3:=rfl;have e4:decide (((130::b1::b2::r).length:Int)≤2)=false:=by simp only[decide_eq_false_iff_not,AjD]; omega
 have e5:cut (130::b1::b2::r) 1 3=some [b1,b2]:=O8 130 [b1,b2] r;have hb1:=b1.toNat_lt;have hb2:=b2.toNat_lt;have e6:PT (HZ 0 8) (w64 (b1.toNat:Int))=(b1.toNat:Int):=by
  rw[Ay (x:=(b1.toNat:Int)) (by omega) (by omega),J7 0 _ (by omega) (by omega),Int.zero_mul,Int.zero_add,Ay (by omega) (by omega)]
 have e6':PT (HZ (b1.toNat:Int) 8) (w64 (b2.toNat:Int))=(b1.toNat:Int)*256+(b2.toNat:Int):=by
  rw[Ay (x:=(b2.toNat:Int)) (by omega) (by omega),J7 _ _ (by omega) (by omega),Ay (by omega) (by omega)]
 have e7:Db Dl [b1,b2] 0 0=some ((b1.toNat:Int)*256+(b2.toNat:Int)):=by
  show some (PT (HZ (PT (HZ 0 8) (w64 (b1.toNat:Int))) 8) (w64 (b2.toNat:Int)))=_;rw[e6,e6']
 have e8:decide ((b1.toNat:Int)*256+(b2.toNat:Int)<128)=false:=by simp only[decide_eq_false_iff_not]; omega
 have e9:decide ((b1.toNat:Int)*256+(b2.toNat:Int)<256)=false:=by simp only[decide_eq_false_iff_not]; omega
 rw[e0,O0,AjG (by decide),Aa,e1,AjG (by decide),Az,e2,Az,AjG (by decide),Az,e4,AjG (by decide),e3,e5,Aa,e7,Aa,Aa,e8,e9,AjG (by decide)]
theorem Yv {α:Type}(a b:List α):cut (a++b) (a.length:Int) (((a++b).length:Nat):Int)=some b:=by
 unfold cut;rw[AjF ⟨by omega,by rw[AjJ]; omega,by omega⟩];simp only[AkQ,AkP];rw[Akx];rw[AjJ]; omega
theorem Yu {α:Type}(a b:List α):cut (a++b) 0 (a.length:Int)=some a:=by
 unfold cut;rw[AjF ⟨by omega,by omega,by rw[AjJ]; omega⟩];simp
theorem XO {d:Nat}{x:g_api_Item}(h:mayB d x=true):1≤(putB d x).length:=by
 cases d with
 |zero=>cases h
 |succ d=>show 1≤(_::_:List UInt8).length; rw[AjD]; omega
theorem ZM (p:g_api_Item→List UInt8): ∀(l:List g_api_Item),(∀y∈l,1≤(p y).length)→l.length≤(l.flatMap p).length
 | [],_=>by simp
 |y::l,h=>by
  have h1:=h y AjZ;have h2:=ZM p l fun z hz=>h z (Aj8 _ hz);rw[Akz,AjJ,AjD];omega
theorem ZN (p:g_api_Item→List UInt8){y:g_api_Item}: ∀{l:List g_api_Item},y∈l→(p y).length≤(l.flatMap p).length
 |z::l,h=>by
  rw[Akz,AjJ];rcases Aj5.1 h with e|h
  ·rw[e]; omega
  ·have:=ZN p h; omega
end Go.Proofs.YtibojdgdjhngiaaGreatDoor
end
section
namespace Go.Proofs.YtibojdgdjhngiaaGreatDoor
open Go Go.Gw Go.Ax
def s8 (a:UInt8):Int:=if a.toNat<128 then(a.toNat:Int)else(a.toNat:Int)-256
def Sa (s:Int)(l:List UInt8):Int:=l.foldl (fun s b=>s*256+(b.toNat:Int)) s
def TA (s:Int)(l:List UInt8):Int:=l.foldl (fun s b=>w64 (s*256+(b.toNat:Int))) s
def V2:List UInt8→Int
 | []=>0
 |a::l=>Sa (s8 a) l
def Gt:List UInt8→Int
 | []=>0
 |a::l=>TA (s8 a) l
theorem Aeu (x b:Int):w64 (w64 x*256+b)=w64 (x*256+b):=by unfold w64; omega
theorem YO: ∀(l:List UInt8) (s x:Int),s=w64 x→TA s l=w64 (Sa x l)
 | [],s,x,h=>h
 |b::l,s,x,h=>by
  show TA (w64 (s*256+(b.toNat:Int))) l=w64 (Sa (x*256+(b.toNat:Int)) l);exact YO l _ _ (by rw[h,Aeu])
theorem Ab5 (a:UInt8): -128≤s8 a∧s8 a<128:=by
 have:=a.toNat_lt;unfold s8;split<;>omega
theorem Tq (l:List UInt8)(h:l≠[]):Gt l=w64 (V2 l):=by
 cases l with
 |nil=>exact absurd rfl h
 |cons a l=>
  have:=Ab5 a;exact YO l (s8 a) (s8 a) (Ay (by omega) (by omega)).symm
theorem w8_s8 (a:UInt8):w64 (w8 (a.toNat:Int))=s8 a:=by
 have h:=a.toNat_lt;have e:w8 (a.toNat:Int)=s8 a:=by
  show(if(true&&decide ((a.toNat:Int)%256≥128))=true then(a.toNat:Int)%256-256 else(a.toNat:Int)%256)=s8 a;unfold s8;simp only[Akb,AjI];split
  ·rw[AjG (by omega)]; omega
  ·rw[AjF (by omega)]; omega
 have:=Ab5 a;rw[e,Ay (by omega) (by omega)]
theorem Z3: ∀(l:List UInt8) (i s:Int),Db Eu l i s=some (TA s l)
 | [],i,s=>rfl
 |b::l,i,s=>by
  have h:=b.toNat_lt;have e:Eu i b s=some (w64 (s*256+(b.toNat:Int))):=by
   unfold Eu;rw[Az,Ay (x:=(b.toNat:Int)) (by omega) (by omega),J7 s _ (by omega) (by omega)]
  show Ab (Eu i b s) _=_;rw[e,Aa];exact Z3 l (i+1) _
theorem Ad7 {x:g_api_Item}(h:x.B≠[]):IL x=some (Gt x.B):=by
 unfold IL;cases hb:x.B with
 |nil=>exact absurd hb h
 |cons a l=>
  rw[O0,Aa,Ot,Aa,w8_s8,Z3,Aa,Aa];rfl
theorem V5 (b:UInt8):((toB (-((AbN b 7).toNat:Int))).toNat:Int)=if b.toNat<128 then 0 else 255:=by
 have h:=b.toNat_lt;rw[LR];have e:(AbN b 7).toNat=b.toNat/128:=by
  unfold AbN;rw[UInt8.toNat_ofNat'];show b.toNat/128%256=_;omega
 rw[e];split<;>omega
theorem Wv {a b:UInt8}{l:List UInt8}(hl:l.length≤6):Gq (a::b::l)=false↔(a.toNat:Int)=if b.toNat<128 then 0 else 255:=by
 show(decide (((a::b::l).length:Int)≤8)&&((a.toNat:Int) !=((toB (-((AbN b 7).toNat:Int))).toNat:Int)))=false↔_;rw[V5,AjN (by simp only[AjD]; omega),Akb];simp only[bne_eq_false_iff_eq]
theorem AbF {a b:UInt8}{l:List UInt8}(h:(a.toNat:Int)=if b.toNat<128 then 0 else 255):V2 (a::b::l)=V2 (b::l):=by
 show Sa (s8 a*256+(b.toNat:Int)) l=Sa (s8 b) l;have hb:=b.toNat_lt;congr 1;unfold s8;by_cases h1:b.toNat<128
 ·rw[AjF h1]at h⊢;rw[AjF (by omega)];omega
 ·rw[AjG h1]at h⊢;rw[AjG (by omega)];omega
theorem shr_k (n:Int)(k:Nat)(hk:k≤64)(hp:(0:Int)≤2^k):((toB (Cl n k)).toNat:Int)=n/2^k%256:=by
 rw[LR];unfold Cl;rw[Nat.min_eq_left hk,Int.fdiv_eq_ediv_of_nonneg _ hp]
end Go.Proofs.YtibojdgdjhngiaaGreatDoor
end
section
namespace Go.Proofs.YtibojdgdjhngiaaGreatDoor
open Go Go.Gw Go.Ax
theorem YB {l:List g_api_Item}(h:l.length≤100000):AE l=some l:=by
 unfold AE;rw[Kc 56 (by omega) (by omega)]; rfl
theorem KX {d:Nat}{x:g_api_Item}(h:mayB d x=true):PV x.Tag x.B=true:=by
 cases d with
 |zero=>cases h
 |succ d=>
  simp only[mayB,AjE]at h;exact h.1.1
theorem Qd (x:g_api_Item):Jt x=some (if x.Tag=2 then(if mayB 8 x=true then(Gt x.B,0)else(0,71))else(0,72)):=by
 unfold Jt HA;by_cases ht:x.Tag=2
 ·have e:(x.Tag !=2)=false:=by simp[ht]
  rw[AjF ht,e,AjG (by decide),Q7,Aa];cases hm:mayB 8 x with
  |false=>rfl
  |true=>
   have hk:=KX hm;rw[ht]at hk;have hB:x.B≠[]:=by
    intro hb;rw[hb]at hk;cases hk
   rw[AjG (by decide),Ad7 hB];rfl
 ·have e:(x.Tag !=2)=true:=by simp[ht]
  rw[AjG ht,e,AjF rfl];rfl
theorem Oz (x:g_api_Item):Ia x=some (if x.Tag=12 then(if mayB 8 x=true then(bs x.B,0)else((⟨#[]⟩:ByteArray),71))else((⟨#[]⟩:ByteArray),72)):=by
 unfold Ia FD;by_cases ht:x.Tag=12
 ·have e:(x.Tag !=12)=false:=by simp[ht]
  rw[AjF ht,e,AjG (by decide),Q7,Aa];cases hm:mayB 8 x with
  |false=>rfl
  |true=>rfl
 ·have e:(x.Tag !=12)=true:=by simp[ht]
  rw[AjG ht,e,AjF rfl];rfl
def SF:List UInt8→Bool
 | []=>false
 |a::_=>(a.toNat:Int) !=0
theorem OA (x:g_api_Item):Ib x=some (if x.Tag=1 then(if mayB 8 x=true then(SF x.B,0)else(false,71))else(false,72)):=by
 unfold Ib GX;by_cases ht:x.Tag=1
 ·have e:(x.Tag !=1)=false:=by simp[ht]
  rw[AjF ht,e,AjG (by decide),Q7,Aa];cases hm:mayB 8 x with
  |false=>rfl
  |true=>
   have hk:=KX hm;rw[ht]at hk;unfold Ka;cases hb:x.B with
   |nil=>rw[hb]at hk; cases hk
   |cons a l=>
    rw[AjG (by decide),O0];rfl
 ·have e:(x.Tag !=1)=true:=by simp[ht]
  rw[AjG ht,e,AjF rfl];rfl
theorem ME {x:g_api_Item}(hx:x.L.length≤100000):HB x=some (if x.Tag=48 then(if mayB 8 x=true then(x.L,0)else([],71))else([],72)):=by
 unfold HB EH;by_cases ht:x.Tag=48
 ·have e:(x.Tag !=48)=false:=by simp[ht]
  rw[AjF ht,e,AjG (by decide),Q7,Aa];cases hm:mayB 8 x with
  |false=>rfl
  |true=>
   unfold Lc;rw[AjG (by decide),YB hx];rfl
 ·have e:(x.Tag !=48)=true:=by simp[ht]
  rw[AjG ht,e,AjF rfl];rfl
abbrev Its:=List g_api_Item
def rd {α:Type}(p:Option (α×Its)):Option (Option (α×Au)):=some (p.map fun q=>(q.1,⟨q.2⟩))
def Iy {α:Type}(tag:Int)(v:g_api_Item→α):Its→Option (α×Its)
 | []=>none
 |x::r=>if x.Tag=tag∧mayB 8 x=true then some (v x,r)else none
theorem CU {α:Type}(tag:Int)(v:g_api_Item→α)(x:g_api_Item)(r:Its):Iy tag v (x::r)=if x.Tag=tag∧mayB 8 x=true then some (v x,r)else none:=rfl
theorem OX (x:g_api_Item)(r:Its):decide (((x::r).length:Int)>0)=true:=by rw[AjI,AjD]; omega
theorem Wp:A6 true=some (some ()):=rfl
theorem AgO:A6 false=some none:=rfl
theorem AiM (l:Its):C3 ⟨l⟩=rd (Iy 2 (fun x=>Gt x.B) l):=by
 unfold C3;cases l with
 |nil=>rfl
 |cons x r=>
  show Ab (A6 (decide (((x::r).length:Int)>0))) _=_;rw[OX,Wp,Aa];show Ab (idx (x::r) 0) _=_;rw[O0,Aa,Qd,Aa];rw[CU];by_cases ht:x.Tag=2
  ·rw[AjF ht];cases hm:mayB 8 x with
   |false=>
    rw[AjG (by decide),AjG (by simp)];rfl
   |true=>
    rw[AjF rfl,AjF ⟨ht,rfl⟩];show Ab (cut (x::r) 1 ((x::r).length:Int)) _=_;rw[Ot];rfl
  ·rw[AjG ht,AjG (by simp[ht])];rfl
theorem XB (l:Its):AM ⟨l⟩=rd (Iy 12 (fun x=>bs x.B) l):=by
 unfold AM;cases l with
 |nil=>rfl
 |cons x r=>
  show Ab (A6 (decide (((x::r).length:Int)>0))) _=_;rw[OX,Wp,Aa];show Ab (idx (x::r) 0) _=_;rw[O0,Aa,Oz,Aa];rw[CU];by_cases ht:x.Tag=12
  ·rw[AjF ht];cases hm:mayB 8 x with
   |false=>
    rw[AjG (by decide),AjG (by simp)];rfl
   |true=>
    rw[AjF rfl,AjF ⟨ht,rfl⟩];show Ab (cut (x::r) 1 ((x::r).length:Int)) _=_;rw[Ot];rfl
  ·rw[AjG ht,AjG (by simp[ht])];rfl
theorem Af8 (l:Its):Ci ⟨l⟩=rd (Iy 1 (fun x=>SF x.B) l):=by
 unfold Ci;cases l with
 |nil=>rfl
 |cons x r=>
  show Ab (A6 (decide (((x::r).length:Int)>0))) _=_;rw[OX,Wp,Aa];show Ab (idx (x::r) 0) _=_;rw[O0,Aa,OA,Aa];rw[CU];by_cases ht:x.Tag=1
  ·rw[AjF ht];cases hm:mayB 8 x with
   |false=>
    rw[AjG (by decide),AjG (by simp)];rfl
   |true=>
    rw[AjF rfl,AjF ⟨ht,rfl⟩];show Ab (cut (x::r) 1 ((x::r).length:Int)) _=_;rw[Ot];rfl
  ·rw[AjG ht,AjG (by simp[ht])];rfl
theorem AhX {l:Its}(hl: ∀x∈l,x.L.length≤100000):B2 ⟨l⟩=rd (Iy 48 (fun x=>x.L) l):=by
 unfold B2;cases l with
 |nil=>rfl
 |cons x r=>
  show Ab (A6 (decide (((x::r).length:Int)>0))) _=_;rw[OX,Wp,Aa];show Ab (idx (x::r) 0) _=_;rw[O0,Aa,ME (hl x AjZ),Aa];rw[CU];by_cases ht:x.Tag=48
  ·rw[AjF ht];cases hm:mayB 8 x with
   |false=>
    rw[AjG (by decide),AjG (by simp)];rfl
   |true=>
    rw[AjF rfl,AjF ⟨ht,rfl⟩];show Ab (cut (x::r) 1 ((x::r).length:Int)) _=_;rw[Ot];rfl
  ·rw[AjG ht,AjG (by simp[ht])];rfl
def Bb (l:Its):Option (Int×Its):=(Iy 2 (fun x=>Gt x.B) l).bind fun p=>if 0≤p.1 then some p else none
theorem Ov (l:Its):Bq ⟨l⟩=rd (Bb l):=by
 unfold Bq;rw[AiM];unfold Bb rd;cases Iy 2 (fun x=>Gt x.B) l with
 |none=>rfl
 |some p=>
  obtain⟨n,r⟩:=p;simp only[Aj1,Aa,Option.bind_some];by_cases h:0≤n
  ·rw[AjN h,Wp,AjF h];rfl
  ·rw[AjM h,AgO,AjG h];rfl
def Aa0 (l:Its):Option (UInt64×Its):=(Bb l).map fun p=>(toU p.1,p.2)
theorem Aju (l:Its):D3 ⟨l⟩=rd (Aa0 l):=by
 unfold D3;rw[Ov];unfold Aa0 rd;cases Bb l<;>rfl
def Y1 (l:Its):Option (Its×Its):=Iy 48 (fun x=>x.L) l
theorem sub_eq {l:Its}(hl: ∀x∈l,x.L.length≤100000):D1 ⟨l⟩=some ((Y1 l).map fun p=>(⟨p.1⟩,⟨p.2⟩)):=by
 unfold D1;rw[AhX hl];unfold Y1 rd;cases Iy 48 (fun x=>x.L) l<;>rfl
theorem end_eq (l:Its):D2 ⟨l⟩=some (if l=[]then some ⟨[]⟩else none):=by
 unfold D2;cases l with
 |nil=>rfl
 |cons x r=>
  have e:(((x::r).length:Int)==0)=false:=by simp only[AjX,AjD]; omega
  show Ab (A6 (((x::r).length:Int)==0)) _=_;rw[e,AgO,AjG (by simp)];rfl
def Qe:Its→Option (List ByteArray)
 | []=>some []
 |x::r=>if x.Tag=12∧mayB 8 x=true then(Qe r).map fun t=>bs x.B::t else none
theorem SG: ∀(l:Its) (a:List ByteArray) (n:Nat),l.length<n→a.length+l.length≤1000000→
  iter AY n (a,l)=some (match Qe l with|some t=> .inl (a++t,[])|none=> .inr none)
 |l,a,0,h,_=>by omega
 | [],a,n+1,_,_=>by
  have e:AY (a,[])=some (.inr (.inl (a,[]))):=rfl;show Ab (AY (a,[])) _=_;rw[e];simp[Qe]
 |x::l,a,n+1,h,ha=>by
  rw[AjD]at h ha;have e:AY (a,x::l)=some (if x.Tag=12∧mayB 8 x=true then .inl (a++[bs x.B],l)else .inr (.inr none)):=by
   unfold AY;show(if decide (((x::l).length:Int)>0)=true then _ else _)=_;rw[OX,AjF rfl];show Ab (AM ⟨x::l⟩) _=_;rw[XB];unfold rd;rw[CU];by_cases hx:x.Tag=12∧mayB 8 x=true
   ·rw[AjF hx,AjF hx];show Ab (app 16 a [bs x.B]) _=_;rw[Hi 16 (by show(a.length+1)*16≤_; omega) (by show a.length+1≤_; omega)];rfl
   ·rw[AjG hx,AjG hx];rfl
  show Ab (AY (a,x::l)) _=_;rw[e];unfold Qe;by_cases hx:x.Tag=12∧mayB 8 x=true
  ·rw[AjF hx,AjF hx];show iter AY n (a++[bs x.B],l)=_;rw[SG l (a++[bs x.B]) n (by omega) (by rw[AjJ]; show a.length+1+_≤_; omega)];cases Qe l with
   |none=>rfl
   |some t=>simp
  ·rw[AjG hx,AjG hx];rfl
def Em (l:Its):Option (List ByteArray×Its):=(Y1 l).bind fun p=>(Qe p.1).map fun t=>(t,p.2)
theorem V0 {l:Its}(hl: ∀x∈l,x.L.length≤100000):CJ ⟨l⟩=rd (Em l):=by
 unfold CJ;rw[sub_eq hl];unfold Em rd;cases hs:Y1 l with
 |none=>rfl
 |some p=>
  have hp:p.1.length≤100000:=by
   unfold Y1 Iy at hs;cases l with
   |nil=>cases hs
   |cons x r=>
    simp only at hs;split at hs
    ·have hs:=AjC hs;rw[←hs];exact hl x AjZ
    ·cases hs
  show Ab (iter AY Bl ([],p.1)) _=_;rw[SG p.1 [] Bl (by have:=AX; omega) (by simp only[AjW]; omega)];show _=some (Option.map _ ((Qe p.1).map fun t=>(t,p.2)));cases Qe p.1<;>rfl
end Go.Proofs.YtibojdgdjhngiaaGreatDoor
end
section
namespace Go.Proofs.YtibojdgdjhngiaaGreatDoor
open Go Go.Gw Go.Ax
theorem AgP: ∀{d:Nat} {x:g_api_Item},mayB d x=true→mayB (d+1) x=true
 |0,x,h=>by cases h
 |d+1,x,h=>by
  simp only[mayB,AjE,Aj7]at h;unfold mayB;simp only[AjE,Aj7];exact⟨h.1,fun y hy=>AgP (h.2 y hy)⟩
theorem Wq {d e:Nat}{x:g_api_Item}(h:d≤e)(hm:mayB d x=true):mayB e x=true:=by
 induction h with
 |refl=>exact hm
 |step _ ih=>exact AgP ih
theorem AgQ {d:Nat}{x y:g_api_Item}(h:mayB (d+1) x=true)(hy:y∈x.L):mayB d y=true:=by
 simp only[mayB,AjE,Aj7]at h;exact h.2 y hy
def EB:Its→Option (ByteArray×Its):=Iy 12 (fun x=>bs x.B)
def Rz:Its→Option (Bool×Its):=Iy 1 (fun x=>SF x.B)
def Zj (l:Its):Option (g_api_Cert×Its):=(Bb l).bind fun x1=>(EB x1.2).bind fun x2=>(EB x2.2).bind fun x3=>(Aa0 x3.2).bind fun x4=>(Em x4.2).bind fun x5=>(Bb x5.2).bind fun x6=>(Bb x6.2).bind fun x7=>(Rz x7.2).bind fun x8=>(Bb x8.2).bind fun x9=>(Em x9.2).bind fun x10=>if x10.2=[]then some (⟨x1.1,x2.1,x3.1,x4.1,x5.1,x6.1,x7.1,x8.1,x9.1,x10.1,[],⟨0,0⟩⟩,[])else none
def Abb (l:Its):Prop:= ∀x∈l,x.L.length≤100000
theorem Ma {α:Type}{tag:Int}{v:g_api_Item→α}{l r:Its}{a:α}(h:Iy tag v l=some (a,r))(hl:Abb l):Abb r:=by
 cases l with
 |nil=>cases h
 |cons x l=>
  rw[CU]at h;split at h
  ·cases h;exact fun y hy=>hl y (Aj8 _ hy)
  ·cases h
theorem KK {l r:Its}{a:Int}(h:Bb l=some (a,r))(hl:Abb l):Abb r:=by
 unfold Bb at h;cases hn:Iy 2 (fun x=>Gt x.B) l with
 |none=>rw[hn]at h; cases h
 |some p=>
  rw[hn,Option.bind_some]at h;split at h
  ·cases h;exact Ma hn hl
  ·cases h
theorem Aga {l r:Its}{a:UInt64}(h:Aa0 l=some (a,r))(hl:Abb l):Abb r:=by
 unfold Aa0 at h;cases hn:Bb l with
 |none=>rw[hn]at h; cases h
 |some p=>
  rw[hn]at h;cases h;exact KK (a:=p.1) hn hl
theorem Aan {l r:Its}{a:List ByteArray}(h:Em l=some (a,r))(hl:Abb l):Abb r:=by
 unfold Em at h;cases hn:Y1 l with
 |none=>rw[hn]at h; cases h
 |some p=>
  rw[hn,Option.bind_some]at h;cases ht:Qe p.1 with
  |none=>rw[ht]at h; cases h
  |some t=>
   rw[ht]at h;cases h;exact Ma hn hl
theorem Il {α:Type}(a:α)(r:Its):rd (some (a,r))=some (some (a,⟨r⟩)):=rfl
theorem AcB {l:Its}(hl:Abb l):CK ⟨l⟩=rd (Zj l):=by
 unfold CK Zj;rw[Ov];cases h1:Bb l with
 |none=>rfl
 |some x1=>
  obtain⟨x1,l1⟩:=x1;replace hl:=KK h1 hl;simp only[Il,Aa,Option.bind_some];rw[show AM ⟨l1⟩=rd (EB l1)from XB l1];cases h2:EB l1 with
  |none=>rfl
  |some x2=>
   obtain⟨x2,l2⟩:=x2;replace hl:=Ma h2 hl;simp only[Il,Aa,Option.bind_some];rw[show AM ⟨l2⟩=rd (EB l2)from XB l2];cases h3:EB l2 with
   |none=>rfl
   |some x3=>
    obtain⟨x3,l3⟩:=x3;replace hl:=Ma h3 hl;simp only[Il,Aa,Option.bind_some];rw[Aju];cases h4:Aa0 l3 with
    |none=>rfl
    |some x4=>
     obtain⟨x4,l4⟩:=x4;replace hl:=Aga h4 hl;simp only[Il,Aa,Option.bind_some];rw[V0 hl];cases h5:Em l4 with
     |none=>rfl
     |some x5=>
      obtain⟨x5,l5⟩:=x5;replace hl:=Aan h5 hl;simp only[Il,Aa,Option.bind_some];rw[Ov];cases h6:Bb l5 with
      |none=>rfl
      |some x6=>
       obtain⟨x6,l6⟩:=x6;replace hl:=KK h6 hl;simp only[Il,Aa,Option.bind_some];rw[Ov];cases h7:Bb l6 with
       |none=>rfl
       |some x7=>
        obtain⟨x7,l7⟩:=x7;replace hl:=KK h7 hl;simp only[Il,Aa,Option.bind_some];rw[show Ci ⟨l7⟩=rd (Rz l7)from Af8 l7];cases h8:Rz l7 with
        |none=>rfl
        |some x8=>
         obtain⟨x8,l8⟩:=x8;replace hl:=Ma h8 hl;simp only[Il,Aa,Option.bind_some];rw[Ov];cases h9:Bb l8 with
         |none=>rfl
         |some x9=>
          obtain⟨x9,l9⟩:=x9;replace hl:=KK h9 hl;simp only[Il,Aa,Option.bind_some];rw[V0 hl];cases h10:Em l9 with
          |none=>rfl
          |some x10=>
           obtain⟨x10,l10⟩:=x10;simp only[Il,Aa,Option.bind_some];rw[end_eq];by_cases he:l10=[]
           ·rw[AjF he,AjF he]; rfl
           ·rw[AjG he,AjG he]; rfl
structure Nums (c:g_api_Cert):Prop where
 serial:0≤c.Serial∧c.Serial≤1099511627776
 frm:0≤c.From∧c.From≤1099511627776
 til:0≤c.Until∧c.Until≤1099511627776
 key:c.Key.toNat<2305843009213691579
 depth:0≤c.Depth∧c.Depth≤4
 sig:sigB c.Sig=true
 proms: ∀p∈c.Proms,promBC p=true
theorem N4 {n:Int}(h:numB n=true):0≤n∧n≤1099511627776:=by
 unfold numB at h;simp only[AjE,AjI]at h;omega
theorem Form.nums {c:g_api_Cert}(h:Form c):Nums c:=by
 refine⟨N4 h.serial,N4 h.frm,N4 h.til,by have:=h.keyQ; omega,?_,h.sig,SM h.proms⟩;cases hc:c.Ca with
 |true=>obtain⟨_,_,a,b,_⟩:=h.ca hc; exact⟨a,b⟩
 |false=>obtain⟨_,_,a,_⟩:=h.leaf hc; omega
theorem Zz {a b:UInt64}{n:Nat}(h:(UR a b).toNat<n):a.toNat<n∧b.toNat<n:=by
 unfold UR at h;by_cases hc:b>a
 ·rw[AjF hc]at h;have:=UInt64.lt_iff_toNat_lt.1 hc;omega
 ·rw[AjG hc]at h;have: ¬a.toNat<b.toNat:=fun x=>hc (UInt64.lt_iff_toNat_lt.2 x);omega
theorem AeI {s:g_api_Sig}(h:sigB s=true):s.E.toNat<1152921504606845789∧s.S.toNat<1152921504606845789:=by
 unfold sigB at h;exact Zz (AkF h)
theorem Acx {p:g_api_Promise}(h:promBC p=true):(0≤p.Log∧p.Log≤1099511627776)∧(0≤p.At∧p.At≤1099511627776)∧(p.Leaf.1.toNat<2305843009213693951∧p.Leaf.2.toNat<2305843009213693951)∧p.Sig.E.toNat<1152921504606845789∧p.Sig.S.toNat<1152921504606845789:=by
 unfold promBC at h;simp only[AjE]at h;exact⟨N4 h.1.1.1,N4 h.1.1.2,Zz (AkF h.1.2),AeI h.2⟩
def Ajx (c:g_api_Cert):g_api_Cert:=⟨c.Serial,c.Issuer,c.Subject,c.Key,c.Names,c.From,c.Until,c.Ca,c.Depth,c.Permit,[],⟨0,0⟩⟩
end Go.Proofs.YtibojdgdjhngiaaGreatDoor
end
section
namespace Go.Proofs.YtibojdgdjhngiaaGreatDoor
open Go Go.Gw Go.Ax
structure Okc (c:g_api_Cert):Prop where
 form:Form c
 fb:formB c=true
 may:mayB 8 (wholeI c)=true
 len:(putB 8 (wholeI c)).length≤2048
theorem okc {c:g_api_Cert}(h:checkV c=0):Okc c:=by
 unfold checkV at h;cases hf:formB c with
 |false=>rw[hf]at h; simp at h
 |true=>
  rw[hf,AjF rfl]at h;by_cases h2:mayB 8 (wholeI c)=true∧(putB 8 (wholeI c)).length≤2048
  ·exact⟨Yk hf,hf,h2.1,h2.2⟩
  ·rw[AjG h2]at h; cases h
theorem Okc.chk {c:g_api_Cert}(h:Okc c):checkV c=0:=by
 unfold checkV;rw[h.fb,AjF rfl,AjF ⟨h.may,h.len⟩]
def preBy (c:g_api_Cert):List UInt8:=putB 8 (Aa6 c)
end Go.Proofs.YtibojdgdjhngiaaGreatDoor
end
section
namespace Go.Proofs.YtibojdgdjhngiaaGreatDoor
open Go Go.Gw Go.Ax
def Agq (a:UInt8):UInt8:=if a.toNat<128 then 0 else 255
theorem Y5 (a:UInt8):((Agq a).toNat:Int)=if a.toNat<128 then 0 else 255:=by
 unfold Agq;split<;>rfl
theorem AhH: ∀(l:List UInt8),Gq l=true→VW l=l
 | [],h=>by cases h
 | [a],_=>rfl
 |a::b::l,h=>by
  unfold VW;rw[AjF h]
theorem Aev {a:UInt8}{l:List UInt8}(h:l.length≤6):VW (Agq a::a::l)=VW (a::l):=by
 have e:Gq (Agq a::a::l)=false:=(Wv h).2 (Y5 a);show(if Gq (Agq a::a::l)=true then _ else _)=_;rw[e];rfl
theorem YZ (a:UInt8)(l:List UInt8):V2 (Agq a::a::l)=V2 (a::l):=AbF (Y5 a)
theorem Ad4 (a7 a6 a5 a4 a3 a2 a1 a0:UInt8):be8 (V2 [a7,a6,a5,a4,a3,a2,a1,a0])=[a7,a6,a5,a4,a3,a2,a1,a0]:=by
 have h6:=a6.toNat_lt; have h5:=a5.toNat_lt; have h4:=a4.toNat_lt; have h3:=a3.toNat_lt; have h2:=a2.toNat_lt; have h1:=a1.toNat_lt; have h0:=a0.toNat_lt;have h7:=a7.toNat_lt;have hs:V2 [a7,a6,a5,a4,a3,a2,a1,a0]=((((((s8 a7*256+(a6.toNat:Int))*256+(a5.toNat:Int))*256+(a4.toNat:Int))*256+(a3.toNat:Int))*256+(a2.toNat:Int))*256+(a1.toNat:Int))*256+(a0.toNat:Int):=rfl;have hS:s8 a7%256=(a7.toNat:Int):=by unfold s8; split<;>omega
 generalize s8 a7=S at hs hS;generalize V2 [a7,a6,a5,a4,a3,a2,a1,a0]=n at hs;have d1:n/256=(((((S*256+(a6.toNat:Int))*256+(a5.toNat:Int))*256+(a4.toNat:Int))*256+(a3.toNat:Int))*256+(a2.toNat:Int))*256+(a1.toNat:Int):=by omega
 have d2:n/256/256=((((S*256+(a6.toNat:Int))*256+(a5.toNat:Int))*256+(a4.toNat:Int))*256+(a3.toNat:Int))*256+(a2.toNat:Int):=by rw[d1]; omega
 have d3:n/256/256/256=(((S*256+(a6.toNat:Int))*256+(a5.toNat:Int))*256+(a4.toNat:Int))*256+(a3.toNat:Int):=by rw[d2]; omega
 have d4:n/256/256/256/256=((S*256+(a6.toNat:Int))*256+(a5.toNat:Int))*256+(a4.toNat:Int):=by rw[d3]; omega
 have d5:n/256/256/256/256/256=(S*256+(a6.toNat:Int))*256+(a5.toNat:Int):=by rw[d4]; omega
 have d6:n/256/256/256/256/256/256=S*256+(a6.toNat:Int):=by rw[d5]; omega
 have d7:n/256/256/256/256/256/256/256=S:=by rw[d6]; omega
 have q: ∀(k:Nat) (x:UInt8),k≤64→n/2^k%256=(x.toNat:Int)→toB (Cl n k)=x:=fun k x hk h=>by
  apply UInt8.toNat_inj.1;have:=shr_k n k hk (by exact Int.le_of_lt (Int.pow_pos (by decide)));omega
 have p1:n/2^8=n/256:=rfl;have p2:n/2^16=n/256/256:=by
  show n/65536=_;omega
 have p3:n/2^24=n/256/256/256:=by
  show n/16777216=_;omega
 have p4:n/2^32=n/256/256/256/256:=by
  show n/4294967296=_;omega
 have p5:n/2^40=n/256/256/256/256/256:=by
  show n/1099511627776=_;omega
 have p6:n/2^48=n/256/256/256/256/256/256:=by
  show n/281474976710656=_;omega
 have p7:n/2^56=n/256/256/256/256/256/256/256:=by
  show n/72057594037927936=_;omega
 unfold be8;rw[q 56 a7 (by decide) (by rw[p7,d7]; exact hS),q 48 a6 (by decide) (by rw[p6,d6]; omega),q 40 a5 (by decide) (by rw[p5,d5]; omega),q 32 a4 (by decide) (by rw[p4,d4]; omega),q 24 a3 (by decide) (by rw[p3,d3]; omega),
  q 16 a2 (by decide) (by rw[p2,d2]; omega),q 8 a1 (by decide) (by rw[p1,d1]; omega),q 0 a0 (by decide) (by rw[Int.pow_zero,Int.ediv_one]; omega)]
theorem YR: ∀(k:Nat) (a:UInt8) (l:List UInt8),(a::l).length+k=8→VW (be8 (V2 (a::l)))=VW (a::l)
 |0,a,l,h=>by
  match l,h with
  | [a6,a5,a4,a3,a2,a1,a0],_=>rw[Ad4]
 |k+1,a,l,h=>by
  have h:l.length+1+(k+1)=8:=by simpa using h
  have ih:=YR k (Agq a) (a::l) (by simp only[AjD]; omega);rw[YZ,Aev (by omega)]at ih;exact ih
theorem Ww {l:List UInt8}(h:Gq l=true):1≤l.length∧l.length≤8:=by
 match l,h with
 | [a],_=>exact⟨by simp,by simp⟩
 |a::b::l,h=>
  have h:(decide (((a::b::l).length:Int)≤8)&&((a.toNat:Int) !=((toB (-((AbN b 7).toNat:Int))).toNat:Int)))=true:=h;simp only[AjE,AjI]at h;exact⟨by simp,by omega⟩
theorem ZF {l:List UInt8}(h:Gq l=true):VW (be8 (V2 l))=l:=by
 have hl:=Ww h;cases l with
 |nil=>cases h
 |cons a l=>
  rw[YR (8-(a::l).length) a l (by omega)];exact AhH _ h
theorem Y0 {l:List UInt8}(h:Gq l=true): -9223372036854775808≤V2 l∧V2 l≤9223372036854775807:=by
 have hl:=Ww h;have key: ∀(k:Nat) (a:UInt8) (l:List UInt8),(a::l).length+k=8→ -9223372036854775808≤V2 (a::l)∧V2 (a::l)≤9223372036854775807:=by
  intro k;induction k with
  |zero=>
   intro a l h;match l,h with
   | [a6,a5,a4,a3,a2,a1,a0],_=>
    have h6:=a6.toNat_lt; have h5:=a5.toNat_lt; have h4:=a4.toNat_lt; have h3:=a3.toNat_lt; have h2:=a2.toNat_lt; have h1:=a1.toNat_lt; have h0:=a0.toNat_lt;have h7:=Ab5 a;have hs:V2 [a,a6,a5,a4,a3,a2,a1,a0]=((((((s8 a*256+(a6.toNat:Int))*256+(a5.toNat:Int))*256+(a4.toNat:Int))*256+(a3.toNat:Int))*256+(a2.toNat:Int))*256+(a1.toNat:Int))*256+(a0.toNat:Int):=rfl;omega
  |succ k ih=>
   intro a l h;have h:l.length+1+(k+1)=8:=by simpa using h
   have:=ih (Agq a) (a::l) (by simp only[AjD]; omega);rw[YZ]at this;exact this
 cases l with
 |nil=>cases h
 |cons a l=>exact key (8-(a::l).length) a l (by omega)
theorem AiL {x:g_api_Item}(ht:x.Tag=2)(hL:x.L=[])(h:Gq x.B=true):Om (Gt x.B)=x:=by
 have hr:=Y0 h;have hne:x.B≠[]:=by intro q; rw[q]at h; cases h
 unfold Om;rw[Tq _ hne,Ay hr.1 hr.2,ZF h];cases x;simp only at ht hL;rw[ht,hL]
end Go.Proofs.YtibojdgdjhngiaaGreatDoor
end
section
namespace Go.Proofs.YtibojdgdjhngiaaGreatDoor
open Go Go.Gw Go.Ax
abbrev BS:=Its×List g_api_Promise
def I7 (r:Its)(a:List g_api_Promise):Option g_api_Promise→BS⊕(BS⊕Option (g_api_Cert×Au))
 |some p=> .inl (r,a++[p])
 |none=> .inr (.inr none)
def few2D (l:Its):Prop:=Abb l∧∀x∈l,Abb x.L
def few3D (l:Its):Prop:=Abb l∧∀x∈l,few2D x.L
theorem AhO {l q r:Its}(h:Y1 l=some (q,r)): ∃x,l=x::r∧q=x.L∧x.Tag=48∧mayB 8 x=true:=by
 unfold Y1 at h;cases l with
 |nil=>cases h
 |cons x l=>
  rw[CU]at h;by_cases hx:x.Tag=48∧mayB 8 x=true
  ·rw[AjF hx]at h;cases h;exact⟨x,rfl,rfl,hx.1,hx.2⟩
  ·rw[AjG hx]at h; cases h
theorem UL {α:Type}{tag:Int}{v:g_api_Item→α}{l r:Its}{a:α}(h:Iy tag v l=some (a,r)): ∃x,l=x::r∧x.Tag=tag∧mayB 8 x=true∧a=v x:=by
 cases l with
 |nil=>cases h
 |cons x l=>
  rw[CU]at h;by_cases hx:x.Tag=tag∧mayB 8 x=true
  ·rw[AjF hx]at h;cases h;exact⟨x,rfl,hx.1,hx.2,rfl⟩
  ·rw[AjG hx]at h; cases h
theorem UQ {x:g_api_Item}(h:mayB 8 x=true)(ht:x.Tag≠48):x.L=[]:=by
 simp only[mayB,AjE,Akl,Akg]at h;rcases h.1.2 with q|q
 ·exact absurd q ht
 ·exact List.isEmpty_iff.1 q
theorem Ou {l r:Its}{n:Int}(h:Bb l=some (n,r)):l=Om n::r∧0≤n∧n≤9223372036854775807:=by
 unfold Bb at h;cases hn:Iy 2 (fun x=>Gt x.B) l with
 |none=>rw[hn]at h; cases h
 |some p=>
  obtain⟨m,q⟩:=p;rw[hn,Option.bind_some]at h;obtain⟨x,e1,e2,e3,e4⟩:=UL hn;by_cases h0:0≤m
  ·rw[AjF h0]at h;cases h;have hk:=KX e3;rw[e2]at hk;have hk:Gq x.B=true:=hk;have hI:=AiL e2 (UQ e3 (by rw[e2]; decide)) hk;have hr:=Y0 hk;have hne:x.B≠[]:=by intro q; rw[q]at hk; cases hk
   have ev:Gt x.B=V2 x.B:=by rw[Tq _ hne,Ay hr.1 hr.2]
   refine⟨by rw[e4,hI]; exact e1,h0,by rw[e4,ev]; exact hr.2⟩
  ·rw[AjG h0]at h; cases h
theorem big_in {l r:Its}{n:UInt64}(h:Aa0 l=some (n,r)):l=NA n::r:=by
 unfold Aa0 at h;cases hn:Bb l with
 |none=>rw[hn]at h; cases h
 |some p=>
  obtain⟨m,q⟩:=p;rw[hn]at h;cases h;obtain⟨e1,e2,e3⟩:=Ou hn;have hu:=Abz m;have hm:((toU m).toNat:Int)=m:=by omega
  unfold NA;rw[hm,Ay (by omega) e3];exact e1
theorem Xy {l r:Its}{s:ByteArray}(h:EB l=some (s,r)):l=FB s::r:=by
 obtain⟨x,e1,e2,e3,e4⟩:=UL h;have hL:=UQ e3 (by rw[e2]; decide);rw[e1,e4];congr 1;cases x;simp only at e2 hL;rw[e2,hL];rfl
theorem Ajs {l r:Its}{v:Bool}(h:Rz l=some (v,r)):l=Ry v::r:=by
 obtain⟨x,e1,e2,e3,e4⟩:=UL h;have hL:=UQ e3 (by rw[e2]; decide);have hk:=KX e3;rw[e2]at hk;have hk:Af7 x.B=true:=hk;rw[e1,e4];congr 1;cases x with
 |mk t b ls=>
  simp only at e2 hL hk;rw[e2,hL];match b,hk with
  | [c],hk=>
   have hk:(c==0||c==255)=true:=hk;rw[Akl,Akg,Akg]at hk;rcases hk with q|q<;>rw[q]<;>rfl
theorem AbR {x:g_api_Item}(h1:x.Tag=48)(h2:mayB 8 x=true):x=SK x.L:=by
 have hk:=KX h2;rw[h1]at hk;have hB:x.B=[]:=List.isEmpty_iff.1 hk;cases x;simp only at h1 hB;rw[h1,hB];rfl
theorem Ad9: ∀{l:Its} {t:List ByteArray},Qe l=some t→l=t.map FB
 | [],t,h=>by cases h; rfl
 |x::l,t,h=>by
  unfold Qe at h;by_cases hx:x.Tag=12∧mayB 8 x=true
  ·rw[AjF hx]at h;cases ha:Qe l with
   |none=>rw[ha]at h; cases h
   |some t'=>
    rw[ha]at h;cases h;have e:EB (x::l)=some (bs x.B,l):=by
     show Iy 12 (fun x=>bs x.B) (x::l)=_;rw[CU,AjF hx]
    have e2:=Xy e;rw[Akm,←Ad9 ha];exact e2
  ·rw[AjG hx]at h; cases h
theorem YT {l r:Its}{t:List ByteArray}(h:Em l=some (t,r)):l=HY t::r:=by
 unfold Em at h;cases hs:Y1 l with
 |none=>rw[hs]at h; cases h
 |some p=>
  obtain⟨q,l1⟩:=p;rw[hs,Option.bind_some]at h;obtain⟨x,e1,e2,e3,e4⟩:=AhO hs;cases ha:Qe q with
  |none=>rw[ha]at h; cases h
  |some t'=>
   rw[ha]at h;cases h;rw[e1,AbR e3 e4,←e2,Ad9 ha];rfl
theorem Zi {l r:Its}{c:g_api_Cert}(h:Zj l=some (c,r)):l=(Aa6 c).L∧Ajx c=c:=by
 unfold Zj at h;cases h1:Bb l with
 |none=>rw[h1]at h; cases h
 |some p1=>
  obtain⟨x1,l1⟩:=p1;rw[h1,Option.bind_some]at h;cases h2:EB l1 with
  |none=>rw[h2]at h; cases h
  |some p2=>
   obtain⟨x2,l2⟩:=p2;rw[h2,Option.bind_some]at h;cases h3:EB l2 with
   |none=>rw[h3]at h; cases h
   |some p3=>
    obtain⟨x3,l3⟩:=p3;rw[h3,Option.bind_some]at h;cases h4:Aa0 l3 with
    |none=>rw[h4]at h; cases h
    |some p4=>
     obtain⟨x4,l4⟩:=p4;rw[h4,Option.bind_some]at h;cases h5:Em l4 with
     |none=>rw[h5]at h; cases h
     |some p5=>
      obtain⟨x5,l5⟩:=p5;rw[h5,Option.bind_some]at h;cases h6:Bb l5 with
      |none=>rw[h6]at h; cases h
      |some p6=>
       obtain⟨x6,l6⟩:=p6;rw[h6,Option.bind_some]at h;cases h7:Bb l6 with
       |none=>rw[h7]at h; cases h
       |some p7=>
        obtain⟨x7,l7⟩:=p7;rw[h7,Option.bind_some]at h;cases h8:Rz l7 with
        |none=>rw[h8]at h; cases h
        |some p8=>
         obtain⟨x8,l8⟩:=p8;rw[h8,Option.bind_some]at h;cases h9:Bb l8 with
         |none=>rw[h9]at h; cases h
         |some p9=>
          obtain⟨x9,l9⟩:=p9;rw[h9,Option.bind_some]at h;cases h10:Em l9 with
          |none=>rw[h10]at h; cases h
          |some p10=>
           obtain⟨x10,l10⟩:=p10;rw[h10,Option.bind_some]at h;by_cases he:l10=[]
           ·have h:some ((⟨x1,x2,x3,x4,x5,x6,x7,x8,x9,x10,[],⟨0,0⟩⟩:g_api_Cert),([]:Its))=some (c,r):=by rw[←h]; exact(AjF he).symm
            have hc:=Aki (·.1) (AjC h);have hc:(⟨x1,x2,x3,x4,x5,x6,x7,x8,x9,x10,[],⟨0,0⟩⟩:g_api_Cert)=c:=hc;rw[←hc];refine⟨?_,rfl⟩;rw[(Ou h1).1,Xy h2,Xy h3,big_in h4,YT h5,(Ou h6).1,(Ou h7).1,Ajs h8,(Ou h9).1,YT h10,he];rfl
           ·have h:(none:Option (g_api_Cert×Its))=some (c,r):=by rw[←h]; exact(AjG he).symm
            cases h
end Go.Proofs.YtibojdgdjhngiaaGreatDoor
end
section
namespace Go.Proofs.YtibojdgdjhngiaaGreatDoor
open Go Go.Gw Go.Ax
end Go.Proofs.YtibojdgdjhngiaaGreatDoor
end
section
namespace Go.Proofs.YtibojdgdjhngiaaGreatDoor
open Go Go.Gw Go.Ax
def l0:Ah:=⟨0,615761422827751315,20,[],[],[]⟩
structure TI (l:List g_api_Cert)(now:Int)(i:Nat)(ps:List g_api_Promise)(x:Ah):Prop where
 ok:chk x=0
 Id:x.Id=0
 Delay:x.Delay=20
 L:x.L=[]
 Hide:x.Hide=[]
 few:x.Wait.length≤i
 wait: ∀w∈x.Wait,w.At=now∧∃c∈l,checkV c=0∧w.Body=preBy c
 all: ∀(j:Nat) (c:g_api_Cert),j<i→l[j]? =some c→checkV c=0∧∃w∈x.Wait,w.Body=preBy c
 len:ps.length=i
 prom: ∀p∈ps,p.Log=0∧p.At=now∧∃w∈x.Wait,p.Leaf=pleaf w.Body
theorem TI.bodies {l:List g_api_Cert}{now:Int}{i:Nat}{ps:List g_api_Promise}{x:Ah}(T:TI l now i ps x)(hi:i≤1000):x.L.length+x.Wait.length≤100000:=by have:=T.few; rw[T.L]; simp; omega
end Go.Proofs.YtibojdgdjhngiaaGreatDoor
end
section
namespace Go.Proofs.YtibojdgdjhngiaaGreatDoor
open Go Go.Gw Go.Ax
theorem Zp {x:Int}{r:List Int}{last n:Int}:okH (x::r) last n=true↔last<x∧x<n∧okH r x n=true:=by
 show((!decide (x≤last)&& !decide (n≤x))&&okH r x n)=true↔_;rw[AjE,AjE];simp only[Bool.not_eq_true',decide_eq_false_iff_not,Int.not_le];exact and_assoc
theorem Aiq: ∀{xs:List Int} {last n:Int},okH xs last n=true→(∀x∈xs,last<x∧x<n)∧xs.Pairwise (· < ·):=by
 intro xs;induction xs with
 |nil=>intro last n _; exact⟨fun x hx=>absurd hx (by simp),List.Pairwise.nil⟩
 |cons y xs ih=>
  intro last n h;obtain⟨h1,h2,h3⟩:=Zp.1 h;obtain⟨i1,i2⟩:=ih h3;refine⟨fun x hx=> ?_,List.Pairwise.cons (fun a ha=>(i1 a ha).1) i2⟩;rcases Aj5.1 hx with rfl|hx
  ·exact⟨h1,h2⟩
  ·have:=i1 x hx; omega
theorem nan_eq (x:Int):DB x=some false:=by unfold DB; rw[bne_self_eq_false]
theorem AiG (x y:Int):HS x y=some (decide (x<y)):=by
 unfold HS GZ;rw[bne_self_eq_false,Aa,show gu false (some (y !=y))=some false from rfl,Aa,Cm,show(false&& !false)=false from rfl,AkB]
theorem mid_eq {i j:Nat}(h:i+j≤1000000):w64 ((En (toU (w64 ((i:Int)+(j:Int)))) 1).toNat:Int)=(((i+j)/2:Nat):Int):=by
 rw[BU (n:=(i:Int)+(j:Int)) (by omega) (by omega),show(i:Int)+(j:Int)=((i+j:Nat):Int)from by omega,Dy _ _ (by decide),I5 (by omega),BU (by omega) (by omega)]
theorem AbU {xs:List Int}{t:Int}(hn:xs.length≤100000)(p:Nat)(hp:p≤xs.length)(h1: ∀(k:Nat) (x:Int),xs[k]? =some x→k<p→x<t)(h2: ∀(k:Nat) (x:Int),xs[k]? =some x→p≤k→t≤x):
  A8 xs t=some ((p:Int),decide (xs[p]? =some t)):=by
 obtain⟨y,e1,e2⟩:=Mm (step:=CE xs t) (T:=fun y=>y=(p:Int)) (s0:=(0,(xs.length:Int))) (fun c s=> ∃i j:Nat,s=((i:Int),(j:Int))∧i≤p∧p≤j∧j≤xs.length∧j-i+c≤xs.length) xs.length (by omega)
  ⟨0,xs.length,rfl,by omega,hp,by omega,by omega⟩ (by
   rintro c s hc ⟨i,j,rfl,i1,i2,i3,i4⟩;unfold CE;dsimp only;by_cases hij:i<j
   ·right;have hm:(i+j)/2<xs.length:=by omega
    rw[AjF (by simpa using hij),mid_eq (by omega),Cm,ZI hm,Aa,AiG,Aa];have hx:xs[(i+j)/2]? =some xs[(i+j)/2]:=by simp[hm]
    by_cases hlt:xs[(i+j)/2]<t
    ·rw[AjF (by simpa using hlt),KQ (by omega)];have:(i+j)/2<p:=by
      by_cases hq:p≤(i+j)/2
      ·have:=h2 _ _ hx hq; omega
      ·omega
     exact⟨by omega,_,rfl,(i+j)/2+1,j,rfl,by omega,i2,i3,by omega⟩
    ·rw[AjG (by simpa using hlt)];have:p≤(i+j)/2:=by
      by_cases hq:(i+j)/2<p
      ·exact absurd (h1 _ _ hx hq) hlt
      ·omega
     exact⟨by omega,_,rfl,i,(i+j)/2,rfl,i1,this,by omega,by omega⟩
   ·left;rw[AjG (by simpa using hij)];exact⟨_,rfl,by omega⟩)
 subst e2;unfold A8;rw[e1,Aa,Aa];by_cases hlt:p<xs.length
 ·have hd:decide (((p:Nat):Int)<(xs.length:Int))=true:=AjN (by omega);have hx:xs[p]? =some xs[p]:=by simp[hlt]
  rw[hd,ZI hlt,hx,show gu true (some xs[p])=some xs[p]from rfl,Aa];by_cases he:xs[p]=t
  ·have:(xs[p]==t)=true:=by simpa using he
   rw[this]; simp[he,gu,Cm]
  ·have:(xs[p]==t)=false:=by simpa using he
   rw[this]; simp[he,gu,Cm,nan_eq]
 ·have hd:decide (((p:Nat):Int)<(xs.length:Int))=false:=AjM (by omega);have hx:xs[p]? =none:=by simp; omega
  rw[hd,hx]; simp[gu,Cm]
end Go.Proofs.YtibojdgdjhngiaaGreatDoor
end
