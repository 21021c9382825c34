/- Several texts, one behind the other. Conditions: none. -/
import Derived.Test.YtnhdojckpcbjeaaGreatDoorZi
import Derived.Test.YtnhdojckpcbjeaaGreatDoorZj
import Derived.Test.YtnhdojckpcbjeaaGreatDoorZk
import Derived.Test.YtnhdojckpcbjeaaGreatDoorZl
import Derived.Test.YtnhdojckpcbjeaaGreatDoorZm
import Derived.Test.YtnhdojckpcbjeaaGreatDoorZn
import Derived.KernelRfl
import Derived.Test.YtnhdojckpcbjeaaGreatDoorZb
set_option linter.unusedSimpArgs false
set_option linter.unusedVariables false
set_option maxHeartbeats 4000000
set_option maxRecDepth 100000
section
namespace Go.Proofs.YtnhdojckpcbjeaaGreatDoor
open Go Go.Gw Go.Ax
theorem Bd {α β:Type}(a:α)(k:α->β):bnd a k=k a:=rfl
theorem D8 {σ τ:Type}{step:σ->Option (σ⊕τ)}{s:σ}{t:τ}(n:Nat)(h:iter step n s=some t)(hn:n<=18446744073709551616):iter step AY s=some t:=Agm h hn
theorem AH {σ τ:Type}{step:σ->Option (σ⊕τ)}{n:Nat}{s s':σ}(h:step s=some (.inl s')):iter step (n+1) s=iter step n s':=by simp only[iter,h,Aa]
theorem Bo {σ τ:Type}{step:σ->Option (σ⊕τ)}{n:Nat}{s:σ}{t:τ}(h:step s=some (.inr t)):iter step (n+1) s=some t:=by simp only[iter,h,Aa]
theorem GY {α:Type}(b:Nat){xs ys:List α}(h:(xs.length+ys.length)*b<=140737488355328)(h1:xs.length+ys.length<=140737488355328):app b xs ys=some (xs++ys):=by unfold app; rw[AnT ⟨h,h1⟩]
theorem Aar {α:Type}{xs:List α}{lo hi:Nat}(h1:lo<=hi)(h2:hi<=xs.length):cut xs (lo:Int) (hi:Int)=some ((xs.drop lo).take (hi-lo)):=by
 unfold cut; rw[AnT ⟨by omega,by omega,by omega⟩]; simp
def AdO (hi lo:UInt64):UInt64:=
 let n:=(lo&&&2305843009213693951)+((K5 hi 3)|||(DL lo 61))
 let k:=(n&&&2305843009213693951)+DL n 61
 if 2305843009213693951<=k.toNat then k-2305843009213693951 else k
theorem AgG (a b:UInt64):Jd a b=some (AdO a b):=by
 unfold Jd AdO;simp only[Bd];generalize (b&&&2305843009213693951)+((K5 a 3)|||(DL b 61))=n;generalize (n&&&2305843009213693951)+DL n 61=k;by_cases h:2305843009213693951<=k.toNat
 ·rw[AnT h,AnT (An1 (by omega))]; rfl
 ·rw[AnW h,AnW (by simp; omega)]; rfl
def Vq (a:UInt64):UInt64:=AdO 0 a
theorem Aky (a:UInt64):FV a=some (Vq a):=by simp only[FV,AgG,Aa]; rfl
def DA (a b:UInt64):UInt64:=Vq (Vq a+Vq b)
theorem Adl (a b:UInt64):Hn a b=some (DA a b):=by simp only[Hn,Aky,Aa]; rfl
def phi (a0 a1:UInt64):UInt64:=
 let x1:=(a0&&&4294967295)*(a1&&&4294967295)
 let x2:=((DL a0 32)*(a1&&&4294967295))+(DL x1 32)
 let x3:=(x2&&&4294967295)+((a0&&&4294967295)*(DL a1 32))
 (((DL a0 32)*(DL a1 32))+(DL x2 32))+(DL x3 32)
theorem X8 (a b:UInt64):Jh a b=some (phi a b,a*b):=rfl
def Aem (a b:UInt64):UInt64:=AdO (phi (Vq a) (Vq b)) (Vq a*Vq b)
theorem mul_eq (a b:UInt64):KA a b=some (Aem a b):=by simp only[KA,Aky,X8,AgG,Aa]; rfl
def Tl (a:UInt64):UInt64:=
 let b:=Aem a a
 let c:=Aem b b
 let d:=Aem c c
 Aem a (Aem d d)
theorem sev_eq (a:UInt64):E7 a=some (Tl a):=by
 simp only[E7,Di,Ky,mul_eq,Aa]; rfl
def Vr (r i:Int):UInt64:=let n:=toU (w64 ((w64 ((w64 (3*r))+i))+1)); n*n*n+7
def pall (r:Int)(s:UInt64×UInt64×UInt64):UInt64:=DA (DA (DA 0 (Tl (DA s.1 (Vr r 0)))) (Tl (DA s.2.1 (Vr r 1)))) (Tl (DA s.2.2 (Vr r 2)))
def K6 (r:Int)(s:UInt64×UInt64×UInt64):UInt64×UInt64×UInt64:=(DA (Tl (DA s.1 (Vr r 0))) (pall r s),DA (Tl (DA s.2.1 (Vr r 1))) (pall r s),DA (Tl (DA s.2.2 (Vr r 2))) (pall r s))
theorem Amy (i:Int)(a:UInt64)(r:Int)(all:UInt64):Lo i a r all=some (Tl (DA a (Vr r i)),r,DA all (Tl (DA a (Vr r i)))):=by
 simp only[Lo,Bd,Adl,sev_eq,Aa]; rfl
theorem Amx (i:Int)(a:UInt64)(all:UInt64):Ln i a all=some (DA a all,all):=by
 simp only[Ln,Adl,Aa]
theorem AjN (a b c:UInt64)(r:Int)(all:UInt64):DC (a,b,c) r all=some ((Tl (DA a (Vr r 0)),Tl (DA b (Vr r 1)),Tl (DA c (Vr r 2))),r,DA (DA (DA all (Tl (DA a (Vr r 0)))) (Tl (DA b (Vr r 1)))) (Tl (DA c (Vr r 2)))):=by
 have e0:idx [a,b,c] 0=some a:=rfl;have e1: ∀x,idx [x,b,c] 1=some b:=λ_=>rfl;have e2: ∀x y,idx [x,y,c] 2=some c:=λ_ _=>rfl;simp[DC,Di,GO,Bd,Amy,e0,e1,e2]
theorem AjM (a b c all:UInt64):DB (a,b,c) all=some ((DA a all,DA b all,DA c all),all):=by
 have e0:idx [a,b,c] 0=some a:=rfl;have e1: ∀x,idx [x,b,c] 1=some b:=λ_=>rfl;have e2: ∀x y,idx [x,y,c] 2=some c:=λ_ _=>rfl;simp[DB,Di,GN,Bd,Amx,e0,e1,e2]
theorem Amw (r:Int)(s:UInt64×UInt64×UInt64):Nh r s=some (K6 r s):=by
 obtain⟨a,b,c⟩:=s;unfold Nh;rw[AjN,Aa,AjM,Aa];rfl
def P5 (s:UInt64×UInt64×UInt64):UInt64×UInt64×UInt64:=K6 7 (K6 6 (K6 5 (K6 4 (K6 3 (K6 2 (K6 1 (K6 0 s)))))))
theorem Af6 (s:UInt64×UInt64×UInt64):Ma s=some (P5 s):=by
 simp only[Ma,Di,Amw,Aa];rfl
def ple:List UInt8->Nat->UInt64->UInt64
 | [],_,s=>s
 |b::bs,i,s=>ple bs (i+1) (s|||K5 (toU (b.toNat:Int)) (8*i))
theorem b6_eq (b5:List UInt8): ∀(l:List UInt8) (i:Nat) (s:UInt64),b5.drop i=l->i+l.length<=1000000->Di (Gk b5) l.length (i:Int) s=some (ple l i s):=by
 intro l;induction l with
 |nil=>intro i s _ _; rfl
 |cons b l ih=>
  intro i s h hb;have hx:idx b5 (i:Int)=some b:=Cm (by
   have:(b5.drop i)[0]? =some b:=by rw[h]; rfl
   simpa using this)
  simp only[AnR]at hb;have hw:w64 (8*(i:Int))=((8*i:Nat):Int):=by rw[A7 (by omega) (by omega)]; omega
  have hstep:Gk b5 (i:Int) s=some (s|||K5 (toU (b.toNat:Int)) (8*i)):=by
   simp only[Gk,hx,Aa,hw,Bd];rw[AnT (by omega)]; rfl
  show Di (Gk b5) (l.length+1) _ _=_;simp only[Di,hstep,Aa,ple];have:=ih (i+1) (s|||K5 (toU (b.toNat:Int)) (8*i)) (by rw[<-AoP,h]; rfl) (by omega);simpa using this
def pof (n:Nat)(l:List UInt8):List UInt64:=match n,l with|_,[]=> []|0,_=> []|n+1,l=>ple (l.take 7) 0 0::pof n (l.drop 7)
theorem AfO (n:Nat): ∀l,(pof n l).length<=n:=by
 induction n with
 |zero=>intro l; cases l<;>simp[pof]
 |succ n ih=>intro l; cases l with
  |nil=>simp[pof]
  |cons a l=>simp only[pof,AnR]; have:=ih ((a::l).drop 7); omega
theorem AjX (a0:List UInt8)(hb:a0.length<=1000000): ∀(n i:Nat) (out:List UInt64),a0.length<=i+n->i<=1000000+7->out.length+n<=1000000->
  iter (Bm (λ(s:(List UInt64)) (b0:List UInt8)=>Ab (Gl b0 s) λy=>some (true,y)) a0 7) (n+1) ((i:Int),out)=some (.inl (out++pof n (a0.drop i))):=by
 intro n;induction n with
 |zero=>
  intro i out h _ _;have:a0.drop i=[]:=Aog (by omega);refine Bo ?_;simp only[Bm,this];rw[AnW (by simp; omega)];simp[pof]
 |succ n ih=>
  intro i out h hi ho;by_cases hlt:i<a0.length
  ·obtain⟨b,l,hl⟩: ∃b l,a0.drop i=b::l:=⟨a0[i],a0.drop (i+1),List.drop_eq_getElem_cons hlt⟩;have hc1:cut a0 (i:Int) (a0.length:Int)=some (a0.drop i):=by
    rw[Aar (by omega) (by omega)]; congr 1; rw[Aow (by simp)]
   have hlen:(a0.drop i).length=a0.length-i:=by simp
   have hm:w64 ((i:Int)+AbA 7 ((a0.drop i).length:Int))=((i+min 7 (a0.length-i):Nat):Int):=by
    rw[A7]<;>unfold AbA<;>split<;>omega
   have hc2:cut a0 (i:Int) ((i+min 7 (a0.length-i):Nat):Int)=some ((a0.drop i).take 7):=by
    rw[Aar (by omega) (by omega)]; congr 1;rw[Nat.add_sub_cancel_left];by_cases h7:7<=a0.length-i
    ·rw[Nat.min_eq_left h7]
    ·rw[Nat.min_eq_right (by omega),Aow (by simp),Aow (by simp; omega)]
   have hw:w64 ((i:Int)+7)=((i+7:Nat):Int):=by rw[A7 (by omega) (by omega)]; omega
   have hb4:Gl ((a0.drop i).take 7) out=some (out++[ple ((a0.drop i).take 7) 0 0]):=by
    have:=b6_eq ((a0.drop i).take 7) ((a0.drop i).take 7) 0 0 rfl (by simp; omega);simp only[Gl];rw[show((0:Int))=((0:Nat):Int)from rfl,this];simp only[Aa];rw[GY 8 (by simp; omega) (by simp; omega)];rfl
   rw[AH (s':=(((i+7:Nat):Int),out++[ple ((a0.drop i).take 7) 0 0]))]
   ·rw[ih (i+7) _ (by omega) (by omega) (by simp; omega)];rw[hl];simp only[pof];rw[<-hl,AoP];simp
   ·simp only[Bm];rw[AnT (An1 (by omega)),hc1];simp only[Aa,hm,hc2,hb4,hw];rfl
  ·have:a0.drop i=[]:=Aog (by omega);refine Bo ?_;simp only[Bm,this];rw[AnW (by simp; omega)];simp[pof]
theorem of_eq (a0:List UInt8)(hb:a0.length<=900000):Mb a0=some (pof a0.length a0):=by
 have h:=AjX a0 (by omega) a0.length 0 [] (by omega) (by omega) (by simp; omega);have h':=D8 _ h (by omega);simp only[Mb,Et,DI];rw[AnW (by decide)];simp only[Aa,List.drop_zero,AoJ]at h'⊢;rw[show((0:Int))=((0:Nat):Int)from rfl,h'];simp only[Aa]
def IA (n:Nat)(l:List UInt64)(s:UInt64×UInt64×UInt64):UInt64×UInt64×UInt64:=match n,l with|_,[]=>s|0,_=>s|_+1,[x]=>P5 (DA s.1 x,s.2.1,s.2.2)|n+1,x::y::l=>IA n l (P5 (DA s.1 x,DA s.2.1 y,s.2.2))
theorem b4_eq1 (x:UInt64)(s:UInt64×UInt64×UInt64):Di (H9 [x]) 1 0 s=some (DA s.1 x,s.2.1,s.2.2):=by
 have e0:idx [x] (0:Int)=some x:=rfl;have e1:idx [s.1,s.2.1,s.2.2] (0:Int)=some s.1:=rfl;simp[Di,H9,e0,e1,Adl,Bd]
theorem b4_eq2 (x y:UInt64)(s:UInt64×UInt64×UInt64):Di (H9 [x,y]) 2 0 s=some (DA s.1 x,DA s.2.1 y,s.2.2):=by
 have e0:idx [x,y] (0:Int)=some x:=rfl;have e1:idx [s.1,s.2.1,s.2.2] (0:Int)=some s.1:=rfl;have e2:idx [x,y] 1=some y:=rfl;have e3:idx [DA s.1 x,s.2.1,s.2.2] 1=some s.2.1:=rfl;simp[Di,H9,e0,e1,e2,e3,Adl,Bd]
theorem b3_nil (fst:Bool)(hf:fst=true)(s:UInt64×UInt64×UInt64):C3 ([],fst,s.1,s.2.1,s.2.2)=some (.inl ([],false,P5 s)):=by
 subst hf;have hc:cut ([]:List UInt64) 0 0=some []:=rfl;have hmin:AbA 2 (([]:List UInt64).length:Int)=0:=rfl;simp only[C3,Bool.true_or,if_true,hmin];rw[show((([]:List UInt64).length:Int))=0 from rfl,hc];simp only[Aa,Di,Aob,Af6]
theorem All (s:UInt64×UInt64×UInt64):C3 ([],false,s.1,s.2.1,s.2.2)=some (.inr s):=rfl
theorem Alk (fst:Bool)(x:UInt64)(s:UInt64×UInt64×UInt64):C3 ([x],fst,s.1,s.2.1,s.2.2)=some (.inl ([],false,P5 (DA s.1 x,s.2.1,s.2.2))):=by
 have hmin:AbA 2 (([x]:List UInt64).length:Int)=1:=rfl;have h0:(fst||decide ((([x]:List UInt64).length:Int)>0))=true:=by simp
 have hc:cut [x] 0 1=some [x]:=rfl;have hc2:cut [x] 1 1=some []:=rfl;simp only[C3,h0,if_true,hmin];rw[show((([x]:List UInt64).length:Int))=1 from rfl,hc,hc2];simp only[Aa,AnR,Aob];rw[b4_eq1];simp only[Aa,Af6]
theorem Alj (fst:Bool)(x y:UInt64)(l:List UInt64)(s:UInt64×UInt64×UInt64):C3 (x::y::l,fst,s.1,s.2.1,s.2.2)=some (.inl (l,false,P5 (DA s.1 x,DA s.2.1 y,s.2.2))):=by
 have hmin:AbA 2 ((x::y::l).length:Int)=((2:Nat):Int):=by unfold AbA; rw[AnW (by simp; omega)]; rfl
 have h0:(fst||decide (((x::y::l).length:Int)>0))=true:=by simp; right; omega
 have hc:cut (x::y::l) ((0:Nat):Int) ((2:Nat):Int)=some [x,y]:=by rw[Aar (by omega) (by simp)]; rfl
 have hc2:cut (x::y::l) ((2:Nat):Int) ((x::y::l).length:Int)=some l:=by rw[Aar (by simp) (by omega)]; simp
 simp only[C3,h0,if_true,hmin];rw[show((0:Int))=((0:Nat):Int)from rfl,hc,hc2];simp only[Aa,AnR,Aob];rw[show((0:Nat):Int)=0 from rfl,b4_eq2];simp only[Aa,Af6]
theorem AbY: ∀(n:Nat) (l:List UInt64) (s:UInt64×UInt64×UInt64),l.length<=n->iter C3 (n+1) (l,false,s.1,s.2.1,s.2.2)=some (IA n l s):=by
 intro n;induction n with
 |zero=>
  intro l s h;have:l=[]:=List.eq_nil_of_length_eq_zero (by omega);subst this;rw[Bo (All s)]; simp[IA]
 |succ n ih=>
  intro l s h;match l,h with
  | [],_=>rw[Bo (All s)]; simp[IA]
  | [x],_=>
   rw[AH (Alk false x s)];have:=ih [] (P5 (DA s.1 x,s.2.1,s.2.2)) (by simp);rw[this]; simp[IA]
  |x::y::l,h=>
   rw[AH (Alj false x y l s)];have:=ih l (P5 (DA s.1 x,DA s.2.1 y,s.2.2)) (by simp at h; omega);rw[this]; simp[IA]
def Aen (l:List UInt64)(s:UInt64×UInt64×UInt64):UInt64×UInt64×UInt64:=match l with| []=>P5 s|l=>IA l.length l s
def AmW (b:List UInt8):UInt64×UInt64:=((Aen (pof b.length b) (0,0,toU (b.length:Int))).1,(Aen (pof b.length b) (0,0,toU (b.length:Int))).2.1)
theorem sum_eq (b:List UInt8)(hb:b.length<=900000):O4 b=some (AmW b):=by
 simp only[O4,of_eq b hb,Aa];have hl:=AfO b.length b;have hk:AmW b=((Aen (pof b.length b) (0,0,toU (b.length:Int))).1,(Aen (pof b.length b) (0,0,toU (b.length:Int))).2.1):=rfl;rw[hk];clear hk;generalize pof b.length b=l at*;have h:iter C3 AY (l,true,0,0,toU (b.length:Int))=some (Aen l (0,0,toU (b.length:Int))):=by
  refine D8 (l.length+2) ?_ (by omega);match l with
  | []=>
   rw[show([]:List UInt64).length+2=1+1 from rfl,AH (b3_nil true rfl (0,0,toU (b.length:Int)))];have:=AbY 0 [] (P5 (0,0,toU (b.length:Int))) (by simp);rw[this]; simp[IA,Aen]
  | [x]=>
   rw[show([x]:List UInt64).length+2=2+1 from rfl,AH (Alk true x (0,0,toU (b.length:Int)))];have:=AbY 1 [] (P5 (DA 0 x,0,toU (b.length:Int))) (by simp);rw[this]; simp[IA,Aen]
  |x::y::l=>
   rw[AH (Alj true x y l (0,0,toU (b.length:Int)))];have:=AbY (l.length+2) l (P5 (DA 0 x,DA 0 y,toU (b.length:Int))) (by omega);have e:(x::y::l).length+1=l.length+2+1:=rfl;rw[e,this];simp only[IA,Aen,AnR];congr 1;clear this hl;have: ∀(n k:Nat) (l:List UInt64) (s:UInt64×UInt64×UInt64),l.length<=n->l.length<=k->IA n l s=IA k l s:=by
    intro n;induction n with
    |zero=>intro k l s h _; have:l=[]:=List.eq_nil_of_length_eq_zero (by omega); subst this; simp[IA]
    |succ n ih=>
     intro k l s h hk;match l,k,h,hk with
     | [],k,_,_=>cases k<;>simp[IA]
     | [x],k+1,_,_=>simp[IA]
     |x::y::l,k+1,h,hk=>simp only[IA]; exact ih k l _ (by simp at h; omega) (by simp at hk; omega)
   exact this _ _ _ _ (by omega) (by omega)
 rw[h];simp only[Aa]
def Px:Nat->UInt64->List UInt8
 |0,_=> []
 |k+1,n=>toB ((DL n (8*k)).toNat:Int)::Px k n
theorem DR (k:Nat)(n:UInt64):(Px k n).length=k:=by induction k with|zero=>rfl|succ k ih=>simp[Px,ih]
theorem Aiw (n:UInt64): ∀(k:Nat) (b:List UInt8),k<=8->b.length+k<=1000000->iter (JW n) (k+1) (b,(k:Int)-1)=some (b++Px k n):=by
 intro k;induction k with
 |zero=>intro b _ _; refine Bo ?_; simp only[JW,Px,AoC]; rw[AnW (by simp)]
 |succ k ih=>
  intro b hk hb;have hw:w64 (8*(((k+1:Nat):Int)-1))=((8*k:Nat):Int):=by rw[A7 (by omega) (by omega)]; omega
  have hw2:w64 ((((k+1:Nat):Int)-1)-1)=(k:Int)-1:=by rw[A7 (by omega) (by omega)]; omega
  rw[AH (s':=(b++[toB ((DL n (8*k)).toNat:Int)],(k:Int)-1))]
  ·rw[ih _ (by omega) (by simp; omega)]; simp[Px]
  ·simp only[JW,hw,hw2];rw[AnT (An1 (by omega)),AnT (by omega),GY 1 (by simp; omega) (by simp; omega)];simp only[Aa,AoY]
theorem AfG (n:UInt64)(k:Nat)(b:List UInt8)(hk:k<=8)(hb:b.length<=900000):Gi b n (k:Int)=some (b++Px k n):=by
 have hw:w64 ((k:Int)-1)=(k:Int)-1:=A7 (by omega) (by omega);simp only[Gi,hw,D8 (k+1) (Aiw n k b hk (by omega)) (by omega),Aa]
def Wi (s:UInt64×UInt64):List UInt8:=Px 8 s.1++Px 8 s.2
theorem J2 (s:UInt64×UInt64):(Wi s).length=16:=by simp[Wi,DR]
theorem Aj1 (s:UInt64×UInt64):ED s=some (Wi s):=by
 have e0:idx [s.1,s.2] 0=some s.1:=rfl;have e1:idx [s.1,s.2] 1=some s.2:=rfl;have h0:Gi [] s.1 8=some ([]++Px 8 s.1):=AfG s.1 8 [] (by omega) (by simp);have h1:Gi (Px 8 s.1) s.2 8=some (Px 8 s.1++Px 8 s.2):=AfG s.2 8 _ (by omega) (by rw[DR]; omega);simp[ED,Di,OC,e0,e1,h0,h1,Wi]
def AdP:List UInt8->List (List UInt8)->List UInt8
 |b,[]=>b
 |b,p::ps=>AdP (b++Px 4 (toU (p.length:Int))++p) ps
def AfP:List (List UInt8)->Nat
 | []=>0
 |p::ps=>4+p.length+AfP ps
theorem ZK: ∀(ps:List (List UInt8)) (b:List UInt8),(AdP b ps).length=b.length+AfP ps:=by
 intro ps;induction ps with
 |nil=>intro b; rfl
 |cons p ps ih=>intro b; simp only[AdP,ih,AfP,AnY,DR]; omega
theorem Ah4: ∀(ps:List (List UInt8)) (i:Int) (b:List UInt8),b.length+AfP ps<=800000->FE Ju ps i b=some (AdP b ps):=by
 intro ps;induction ps with
 |nil=>intro i b _; rfl
 |cons p ps ih=>
  intro i b h;simp only[AfP]at h;have h0:Gi b (toU (p.length:Int)) 4=some (b++Px 4 (toU (p.length:Int))):=AfG _ 4 b (by omega) (by omega);simp only[FE,Ju,h0,Aa];rw[GY 1 (by simp[DR]; omega) (by simp[DR]; omega)];simp only[Aa];rw[ih _ _ (by simp[DR]; omega)];rfl
def ptag (t:ByteArray)(ps:List (List UInt8)):UInt64×UInt64:=AmW (AdP (toB (t.size:Int)::t.data.toList) ps)
theorem AeR (t:ByteArray)(ps:List (List UInt8))(h:t.data.toList.length+AfP ps<=700000):C2 t ps=some (ptag t ps):=by
 simp only[C2];rw[GY 1 (by simp at h⊢; omega) (by simp at h⊢; omega)];simp only[Aa];rw[Ah4 _ _ _ (by simp at h⊢; omega)];simp only[Aa];rw[sum_eq _ (by rw[ZK]; simp at h⊢; omega)];rfl
end Go.Proofs.YtnhdojckpcbjeaaGreatDoor
end
section
namespace Go.Gw
open Go
theorem AhX {i:Nat}(h:i<9223372036854775807):w64 ((i:Int)+1)=((i+1:Nat):Int):=by rw[A7 (by omega) (by omega)]; omega
end Go.Gw
end
section
namespace Go.Proofs.YtnhdojckpcbjeaaGreatDoor
open Go Go.Gw Go.Ax
abbrev FP:Nat:=2305843009213693951
theorem litP:(2305843009213693951:UInt64).toNat=FP:=rfl
theorem and_P (n:Nat):n&&&2305843009213693951=n%2305843009213693952:=Nat.and_two_pow_sub_one_eq_mod n 61
theorem I2 {n:Nat}(h:n<18446744073709551616):(toU (n:Int)).toNat=n:=by
 unfold toU;rw[UInt64.toNat_ofNat'];omega
theorem shlU3 {h:UInt64}(hh:h.toNat<288230376151711744):(K5 h 3).toNat=8*h.toNat:=by
 unfold K5;rw[show(h.toNat:Int)*2^ (min 3 64)=((8*h.toNat:Nat):Int)from by
  rw[show min 3 64=3 from rfl]; omega]
 exact I2 (by omega)
theorem CT (x:UInt64)(k:Nat)(hk:k<=64):(DL x k).toNat=x.toNat/2^k:=by
 unfold DL;rw[UInt64.toNat_ofNat',Nat.min_eq_left hk];exact Aop (AoS (Nat.div_le_self _ _) x.toNat_lt)
theorem or_add {a b:Nat}(h:b<8):8*a|||b=8*a+b:=(Nat.two_pow_add_eq_or_of_lt (i:=3) h a).symm
theorem ZJ {h l:UInt64}(hh:h.toNat<288230376151711744):(AdO h l).toNat=(h.toNat*18446744073709551616+l.toNat)%FP:=by
 have hl:=l.toNat_lt;have e1:(l&&&2305843009213693951).toNat=l.toNat%2305843009213693952:=by rw[UInt64.toNat_and,litP]; exact and_P _
 have e2:(DL l 61).toNat=l.toNat/2305843009213693952:=CT l 61 (by omega);have e3:((K5 h 3)|||(DL l 61)).toNat=8*h.toNat+l.toNat/2305843009213693952:=by
  rw[UInt64.toNat_or,shlU3 hh,e2]; exact or_add (by omega)
 have e4:((l&&&2305843009213693951)+((K5 h 3)|||(DL l 61))).toNat=l.toNat%2305843009213693952+(8*h.toNat+l.toNat/2305843009213693952):=by
  rw[UInt64.toNat_add,e1,e3]; omega
 unfold AdO;generalize hn:(l&&&2305843009213693951)+((K5 h 3)|||(DL l 61))=n at*;have e5:(n&&&2305843009213693951).toNat=n.toNat%2305843009213693952:=by rw[UInt64.toNat_and,litP]; exact and_P _
 have e6:(DL n 61).toNat=n.toNat/2305843009213693952:=CT n 61 (by omega);have e7:((n&&&2305843009213693951)+DL n 61).toNat=n.toNat%2305843009213693952+n.toNat/2305843009213693952:=by rw[UInt64.toNat_add,e5,e6]; omega
 dsimp only;generalize (n&&&2305843009213693951)+DL n 61=k at*;split
 ·rename_i hk;rw[UInt64.toNat_sub_of_le _ _ (by rw[UInt64.le_iff_toNat_le]; exact hk),litP];simp only[FP]at*;omega
 ·simp only[FP]at*;omega
theorem MM (a:UInt64):(Vq a).toNat=a.toNat%FP:=by
 unfold Vq;rw[ZJ (by decide)];simp
theorem MO (a b:UInt64):(DA a b).toNat=(a.toNat%FP+b.toNat%FP)%FP:=by
 unfold DA;rw[MM,UInt64.toNat_add,MM,MM];simp only[FP];omega
theorem AiQ {p q r s:Nat}(hp:p<4294967296)(hq:q<4294967296)(hr:r<4294967296)(hs:s<4294967296):
  (p*r+((p*s+q*s/4294967296)/4294967296)+(((p*s+q*s/4294967296)%4294967296+q*r)/4294967296))=((p*4294967296+q)*(r*4294967296+s))/18446744073709551616:=by
 have h1:(p*4294967296+q)*(r*4294967296+s)=(p*r)*18446744073709551616+(p*s+q*r)*4294967296+q*s:=by
  rw[Nat.add_mul,Nat.mul_add,Nat.mul_add,Nat.add_mul];have a1:p*4294967296*(r*4294967296)=p*r*18446744073709551616:=by rw[Nat.mul_assoc,Nat.mul_left_comm 4294967296,<-Nat.mul_assoc p]
  have a2:p*4294967296*s=p*s*4294967296:=Nat.mul_right_comm _ _ _;have a3:q*(r*4294967296)=q*r*4294967296:=(Nat.mul_assoc _ _ _).symm;rw[a1,a2,a3]; omega
 rw[h1];generalize p*r=A;generalize p*s=B;generalize q*r=C;generalize q*s=D;omega
theorem XZ (a b:UInt64):(phi a b).toNat=(a.toNat*b.toNat)/18446744073709551616:=by
 have ha:=a.toNat_lt;have hb:=b.toNat_lt;have m32: ∀x:UInt64,(x&&&4294967295).toNat=x.toNat%4294967296:=λx=>by
  rw[UInt64.toNat_and]; exact Nat.and_two_pow_sub_one_eq_mod _ 32
 have s32: ∀x:UInt64,(DL x 32).toNat=x.toNat/4294967296:=λx=>CT x 32 (by omega);have hp:a.toNat/4294967296<4294967296:=by omega
 have hq:a.toNat%4294967296<4294967296:=by omega
 have hr:b.toNat/4294967296<4294967296:=by omega
 have hs:b.toNat%4294967296<4294967296:=by omega
 have ea:a.toNat/4294967296*4294967296+a.toNat%4294967296=a.toNat:=Nat.div_add_mod' _ _;have eb:b.toNat/4294967296*4294967296+b.toNat%4294967296=b.toNat:=Nat.div_add_mod' _ _;have key:=AiQ hp hq hr hs;rw[ea,eb]at key;have bd: ∀x y:Nat,x<4294967296->y<4294967296->x*y<=18446744065119617025:=λx y hx hy=>Nat.mul_le_mul (show x<=4294967295 by omega) (show y<=4294967295 by omega);have b1:=bd _ _ hp hr;have b2:=bd _ _ hp hs;have b3:=bd _ _ hq hr;have b4:=bd _ _ hq hs;have ab:a.toNat*b.toNat/18446744073709551616<18446744073709551616:=by
  rw[Nat.div_lt_iff_lt_mul (by omega)];exact AoS (Nat.mul_le_mul (show a.toNat<=18446744073709551615 by omega) (show b.toNat<=18446744073709551615 by omega)) (by omega)
 unfold phi;dsimp only;rw[<-key]at ab⊢;simp only[UInt64.toNat_add,UInt64.toNat_mul,s32,m32];generalize a.toNat/4294967296*(b.toNat/4294967296)=A at*;generalize a.toNat/4294967296*(b.toNat%4294967296)=B at*;generalize a.toNat%4294967296*(b.toNat/4294967296)=C at*;generalize a.toNat%4294967296*(b.toNat%4294967296)=D at*;omega
theorem XY (a b:UInt64):(Aem a b).toNat=(a.toNat*b.toNat)%FP:=by
 have h1:(Vq a).toNat<FP:=by rw[MM]; exact AoR _ (by decide)
 have h2:(Vq b).toNat<FP:=by rw[MM]; exact AoR _ (by decide)
 simp only[FP]at h1 h2;have hm:(Vq a).toNat*(Vq b).toNat<5316911983139663491615228241121378304:=AoS (Nat.mul_le_mul (show(Vq a).toNat<=2305843009213693950 by omega) (show(Vq b).toNat<=2305843009213693950 by omega)) (by omega);unfold Aem;rw[ZJ (by rw[XZ]; omega),XZ,UInt64.toNat_mul];have:(Vq a).toNat*(Vq b).toNat/18446744073709551616*18446744073709551616+(Vq a).toNat*(Vq b).toNat%2^64=(Vq a).toNat*(Vq b).toNat:=by omega
 rw[this,MM,MM,<-Nat.mul_mod]
theorem Aiy (a:UInt64):(Tl a).toNat=a.toNat^17%FP:=by
 unfold Tl;dsimp only;simp only[XY,Nat.mul_mod_mod,Nat.mod_mul_mod];congr 1;rw[show(17:Nat)=1+16 from rfl,Nat.pow_add,Nat.pow_one];congr 1;generalize a.toNat=x;rw[show(16:Nat)=2*2*2*2 from rfl,Nat.pow_mul,Nat.pow_mul,Nat.pow_mul];simp only[Nat.pow_two]
theorem Zn {a b:UInt64}(h:a.toNat=b.toNat):a=b:=UInt64.toNat_inj.1 h
section
variable {x4 x5 x7 y u:UInt64}
theorem dq_lt (hd:x7.toNat<4294967296)(hu:u.toNat<y.toNat):(u.toNat*4294967296+x7.toNat)/y.toNat<4294967296:=by
 rw[Nat.div_lt_iff_lt_mul (by omega)];have:(u.toNat+1)*4294967296<=y.toNat*4294967296:=Nat.mul_le_mul_right _ hu;omega
theorem dcond {q r:UInt64}(h1:2147483648<=x4.toNat/\x4.toNat<4294967296)(h0:x5.toNat<4294967296)(hd:x7.toNat<4294967296)(hy:y.toNat=x4.toNat*4294967296+x5.toNat)(hu:u.toNat<y.toNat)
  (hq:q.toNat*x4.toNat+r.toNat=u.toNat) (hr:r.toNat<4294967296):
  (((decide ((q.toNat:Int)>=4294967296))||(decide (((q*x5).toNat:Int)>(((4294967296*r)+x7).toNat:Int))))=true↔(u.toNat*4294967296+x7.toNat)/y.toNat<q.toNat):=by
 have hlt:=dq_lt hd hu;have e1:((4294967296*r)+x7).toNat=4294967296*r.toNat+x7.toNat:=by
  rw[UInt64.toNat_add,UInt64.toNat_mul,show(4294967296:UInt64).toNat=4294967296 from rfl]; omega
 rw[Aox,AnV,AnV,e1];by_cases hb:4294967296<=q.toNat
 ·constructor
  ·intro _; omega
  ·intro _; left; omega
 ·have hB:q.toNat*x5.toNat<=4294967295*4294967295:=Nat.mul_le_mul (by omega) (by omega);have e2:(q*x5).toNat=q.toNat*x5.toNat:=by rw[UInt64.toNat_mul]; omega
  have e3:q.toNat*y.toNat=q.toNat*x4.toNat*4294967296+q.toNat*x5.toNat:=by rw[hy,Nat.mul_add,Nat.mul_assoc]
  rw[e2,Nat.div_lt_iff_lt_mul (by omega),e3];generalize q.toNat*x4.toNat=A at*;generalize q.toNat*x5.toNat=B at*;omega
theorem dstep {q r:UInt64}(h1:2147483648<=x4.toNat/\x4.toNat<4294967296)(h0:x5.toNat<4294967296)(hd:x7.toNat<4294967296)(hy:y.toNat=x4.toNat*4294967296+x5.toNat)(hu:u.toNat<y.toNat)
  (hq:q.toNat*x4.toNat+r.toNat=u.toNat) (hr:r.toNat<4294967296) (hq2:q.toNat<=4294967297) (hc:(u.toNat*4294967296+x7.toNat)/y.toNat<q.toNat):
  (q-1).toNat=q.toNat-1/\(r+x4).toNat=r.toNat+x4.toNat/\(q-1).toNat*x4.toNat+(r+x4).toNat=u.toNat/\(u.toNat*4294967296+x7.toNat)/y.toNat<=(q-1).toNat/\
  (4294967296<=(r+x4).toNat->(q-1).toNat=(u.toNat*4294967296+x7.toNat)/y.toNat):=by
 have q1:1<=q.toNat:=AoS (Nat.zero_le _) hc;have e1:(q-1).toNat=q.toNat-1:=by rw[UInt64.toNat_sub_of_le _ _ (by rw[UInt64.le_iff_toNat_le]; exact q1)]; rfl
 have e2:(r+x4).toNat=r.toNat+x4.toNat:=by rw[UInt64.toNat_add]; omega
 have e3:(q.toNat-1)*x4.toNat+x4.toNat=q.toNat*x4.toNat:=by
  rw[<-Nat.succ_mul]; congr 1; omega
 refine⟨e1,e2,by rw[e1,e2,Nat.add_comm r.toNat,<-Ao0,e3,hq],by rw[e1]; exact Nat.le_sub_one_of_lt hc,λhb=> ?_⟩;rw[e2]at hb;refine Nat.le_antisymm ?_ (by rw[e1]; exact Nat.le_sub_one_of_lt hc);rw[e1,Nat.le_div_iff_mul_le (AoS (Nat.zero_le _) hu)];clear hc e1 e2;have hB:(q.toNat-1)*x5.toNat<=4294967296*4294967295:=Nat.mul_le_mul (by omega) (by omega);have e4:(q.toNat-1)*y.toNat=(q.toNat-1)*x4.toNat*4294967296+(q.toNat-1)*x5.toNat:=by rw[hy,Nat.mul_add,Nat.mul_assoc]
 rw[e4];generalize (q.toNat-1)*x4.toNat=A at*;generalize (q.toNat-1)*x5.toNat=B at*;generalize q.toNat*x4.toNat=C at*;omega
theorem dloop1 (h1:2147483648<=x4.toNat/\x4.toNat<4294967296)(h0:x5.toNat<4294967296)(hd:x7.toNat<4294967296)(hy:y.toNat=x4.toNat*4294967296+x5.toNat)(hu:u.toNat<y.toNat):
  ∀(n:Nat) (q r:UInt64),q.toNat*x4.toNat+r.toNat=u.toNat->r.toNat<4294967296->q.toNat<=4294967297->(u.toNat*4294967296+x7.toNat)/y.toNat<=q.toNat->4294967296<=r.toNat+n*2147483648->
   ∃p,iter (F4 x4 x5 x7) (n+1) (q,r)=some p/\p.toNat=(u.toNat*4294967296+x7.toNat)/y.toNat:=by
 intro n;induction n with
 |zero=>intro q r _ hr _ _ hn; omega
 |succ n ih=>
  intro q r hq hr hq2 hle hn;have hc:=dcond h1 h0 hd hy hu hq hr;by_cases hcc:(u.toNat*4294967296+x7.toNat)/y.toNat<q.toNat
  ·obtain⟨s1,s2,s3,s4,s5⟩:=dstep h1 h0 hd hy hu hq hr hq2 hcc;by_cases hb:4294967296<=(r+x4).toNat
   ·refine⟨q-1,Bo ?_,s5 hb⟩;unfold F4;rw[AnT (hc.2 hcc),AnT (by rw[AnV]; dsimp only; omega)]
   ·obtain⟨p,p1,p2⟩:=ih (q-1) (r+x4) s3 (by omega) (by omega) s4 (by omega);refine⟨p,?_,p2⟩;rw[AH (s':=(q-1,r+x4)),p1];unfold F4;rw[AnT (hc.2 hcc),AnW (by rw[AnV]; dsimp only; omega)]
  ·refine⟨q,Bo ?_,by omega⟩;unfold F4;rw[AnW (λh=>hcc (hc.1 h))]
theorem dloop2 (h1:2147483648<=x4.toNat/\x4.toNat<4294967296)(h0:x5.toNat<4294967296)(hd:x7.toNat<4294967296)(hy:y.toNat=x4.toNat*4294967296+x5.toNat)(hu:u.toNat<y.toNat):
  ∀(n:Nat) (q r:UInt64),q.toNat*x4.toNat+r.toNat=u.toNat->r.toNat<4294967296->q.toNat<=4294967297->(u.toNat*4294967296+x7.toNat)/y.toNat<=q.toNat->4294967296<=r.toNat+n*2147483648->
   ∃p,iter (F3 x4 x5 x7) (n+1) (r,q)=some p/\p.toNat=(u.toNat*4294967296+x7.toNat)/y.toNat:=by
 intro n;induction n with
 |zero=>intro q r _ hr _ _ hn; omega
 |succ n ih=>
  intro q r hq hr hq2 hle hn;have hc:=dcond h1 h0 hd hy hu hq hr;by_cases hcc:(u.toNat*4294967296+x7.toNat)/y.toNat<q.toNat
  ·obtain⟨s1,s2,s3,s4,s5⟩:=dstep h1 h0 hd hy hu hq hr hq2 hcc;by_cases hb:4294967296<=(r+x4).toNat
   ·refine⟨q-1,Bo ?_,s5 hb⟩;unfold F3;rw[AnT (hc.2 hcc),AnT (by rw[AnV]; dsimp only; omega)]
   ·obtain⟨p,p1,p2⟩:=ih (q-1) (r+x4) s3 (by omega) (by omega) s4 (by omega);refine⟨p,?_,p2⟩;rw[AH (s':=(r+x4,q-1)),p1];unfold F3;rw[AnT (hc.2 hcc),AnW (by rw[AnV]; dsimp only; omega)]
  ·refine⟨q,Bo ?_,by omega⟩;unfold F3;rw[AnW (λh=>hcc (hc.1 h))]
theorem Ak4 (h1:2147483648<=x4.toNat/\x4.toNat<4294967296)(h0:x5.toNat<4294967296)(hd:x7.toNat<4294967296)(hy:y.toNat=x4.toNat*4294967296+x5.toNat)(hu:u.toNat<y.toNat):
  (u/x4).toNat*x4.toNat+(u-(u/x4)*x4).toNat=u.toNat/\(u-(u/x4)*x4).toNat<4294967296/\(u/x4).toNat<=4294967297/\(u.toNat*4294967296+x7.toNat)/y.toNat<=(u/x4).toNat:=by
 have e1:(u/x4).toNat=u.toNat/x4.toNat:=UInt64.toNat_div _ _;have hmul:u.toNat/x4.toNat*x4.toNat<=u.toNat:=Nat.div_mul_le_self _ _;have hul:=u.toNat_lt;have e2:((u/x4)*x4).toNat=u.toNat/x4.toNat*x4.toNat:=by rw[UInt64.toNat_mul,e1]; omega
 have e3:(u-(u/x4)*x4).toNat=u.toNat-u.toNat/x4.toNat*x4.toNat:=by
  rw[UInt64.toNat_sub_of_le _ _ (by rw[UInt64.le_iff_toNat_le,e2]; exact hmul),e2]
 have e4:u.toNat-u.toNat/x4.toNat*x4.toNat=u.toNat%x4.toNat:=by
  have:=Nat.div_add_mod' u.toNat x4.toNat; omega
 have e5:=AoR u.toNat (show 0<x4.toNat by omega);refine⟨by rw[e1,e3]; omega,by rw[e3,e4]; omega,?_,?_⟩
 ·rw[e1];have:u.toNat/x4.toNat<4294967298:=by
   rw[Nat.div_lt_iff_lt_mul (by omega)];omega
  omega
 ·rw[e1,Nat.le_div_iff_mul_le (by omega)];have h2:(u.toNat*4294967296+x7.toNat)/y.toNat*y.toNat<=u.toNat*4294967296+x7.toNat:=Nat.div_mul_le_self _ _;generalize (u.toNat*4294967296+x7.toNat)/y.toNat=Q at*;have h3:Q*y.toNat=Q*x4.toNat*4294967296+Q*x5.toNat:=by rw[hy,Nat.mul_add,Nat.mul_assoc]
  rw[h3]at h2;generalize Q*x4.toNat=A at*;generalize Q*x5.toNat=B at*;omega
theorem drest {q:UInt64}(hu:u.toNat<y.toNat)(hq:q.toNat=(u.toNat*4294967296+x7.toNat)/y.toNat):(((u*4294967296)+x7)-(q*y)).toNat=(u.toNat*4294967296+x7.toNat)%y.toNat:=by
 have hyl:=y.toNat_lt;have hm:=AoR (u.toNat*4294967296+x7.toNat) (show 0<y.toNat by omega);have hdm:=Nat.div_add_mod' (u.toNat*4294967296+x7.toNat) y.toNat;rw[UInt64.toNat_sub,UInt64.toNat_add,UInt64.toNat_mul,UInt64.toNat_mul,hq,show(4294967296:UInt64).toNat=4294967296 from rfl];generalize (u.toNat*4294967296+x7.toNat)/y.toNat*y.toNat=Z at*;omega
end
theorem TA {x:UInt64}{k:Nat}(hk:k<=63):(K5 x k).toNat=(x.toNat*2^k)%18446744073709551616:=by
 unfold K5;rw[Nat.min_eq_left (by omega),show(x.toNat:Int)*2^k=((x.toNat*2^k:Nat):Int)from by simp];unfold toU;rw[UInt64.toNat_ofNat'];generalize x.toNat*2^k=z;omega
theorem or_nat {a b k:Nat}(h:b<2^k):a*2^k|||b=a*2^k+b:=by
 rw[AoV]; exact(Nat.two_pow_add_eq_or_of_lt h a).symm
theorem Ac4 {hi lo y0:UInt64}{s:Nat}(hs:s<=63)(hlz:D5 y0=some (s:Int))(hn1:9223372036854775808<=y0.toNat*2^s)(hn2:y0.toNat*2^s<18446744073709551616)(hh:hi.toNat<y0.toNat):
  ∃q r,Ji hi lo y0=some (q,r)/\r.toNat=(hi.toNat*18446744073709551616+lo.toNat)%y0.toNat:=by
 have hyne:y0≠0:=λe=>by rw[e]at hh; simp at hh
 unfold Ji;rw[AnW (by rw[Aou]; omega),Aa,AnW (by rw[AnV]; omega),Aa];by_cases hz:hi.toNat=0
 ·rw[AnT (by rw[Aou]; omega),AnT hyne,AnT hyne];refine⟨_,_,rfl,?_⟩;rw[UInt64.toNat_mod,hz]; simp
 ·have hts:(toU (s:Int)).toNat=s:=I2 (by omega);have h64:(64-toU (s:Int)).toNat=64-s:=by
   rw[UInt64.toNat_sub_of_le _ _ (by rw[UInt64.le_iff_toNat_le,hts]; show s<=64; omega),hts]; rfl
  rw[AnW (by rw[Aou]; omega),hlz,Aa,hts,h64];simp only[Bd];have hps:0<2^s:=Nat.two_pow_pos s;have hpp:2^s*2^ (64-s)=18446744073709551616:=by rw[<-Nat.pow_add,show s+(64-s)=64 from by omega]
  have hY:(K5 y0 s).toNat=y0.toNat*2^s:=by rw[TA (by omega)]; exact Aop hn2
  have hlo:=lo.toNat_lt;have hlod:lo.toNat/2^ (64-s)<2^s:=by rw[Nat.div_lt_iff_lt_mul (Nat.two_pow_pos _),hpp]; omega
  have hhs:hi.toNat*2^s+2^s<=y0.toNat*2^s:=by rw[<-Nat.succ_mul]; exact Nat.mul_le_mul_right _ hh
  have hU:((K5 hi s)|||(DL lo (64-s))).toNat=hi.toNat*2^s+lo.toNat/2^ (64-s):=by
   rw[UInt64.toNat_or,TA (by omega),CT _ _ (by omega),Aop (by omega),or_nat hlod]
  have hL:(K5 lo s).toNat=(lo.toNat*2^s)%18446744073709551616:=TA (by omega);have m32: ∀x:UInt64,(x&&&4294967295).toNat=x.toNat%4294967296:=λx=>by
   rw[UInt64.toNat_and]; exact Nat.and_two_pow_sub_one_eq_mod _ 32
  have s32: ∀x:UInt64,(DL x 32).toNat=x.toNat/4294967296:=λx=>CT x 32 (by omega);have hlos:lo.toNat*2^s=lo.toNat/2^ (64-s)*18446744073709551616+(lo.toNat*2^s)%18446744073709551616:=by
   have e1:lo.toNat*2^s/18446744073709551616=lo.toNat/2^ (64-s):=by
    rw[<-hpp,AoV,Nat.mul_div_mul_left _ _ hps]
   rw[<-e1]; exact(Nat.div_add_mod' _ _).symm
  have hN:(hi.toNat*18446744073709551616+lo.toNat)*2^s=(hi.toNat*2^s+lo.toNat/2^ (64-s))*18446744073709551616+(lo.toNat*2^s)%18446744073709551616:=by
   rw[Nat.add_mul,hlos,Nat.add_mul,Nat.mul_right_comm];omega
  generalize hgy:K5 y0 s=y at*;generalize hgu:(K5 hi s)|||(DL lo (64-s))=u at*;generalize hgl:K5 lo s=l at*;have hyl:=y.toNat_lt;have a1:2147483648<=(DL y 32).toNat/\(DL y 32).toNat<4294967296:=by rw[s32]; omega
  have a0:(y&&&4294967295).toNat<4294967296:=by rw[m32]; omega
  have ay:y.toNat=(DL y 32).toNat*4294967296+(y&&&4294967295).toNat:=by rw[s32,m32]; omega
  have ad:(DL l 32).toNat<4294967296:=by rw[s32]; have:=l.toNat_lt; omega
  have ae:(l&&&4294967295).toNat<4294967296:=by rw[m32]; omega
  have au:u.toNat<y.toNat:=by rw[hU,hY]; omega
  have hx4:DL y 32≠0:=λe=>by rw[e]at a1; simp at a1
  obtain⟨b1,b2,b3,b4⟩:=Ak4 a1 a0 ad ay au;obtain⟨q1,c1,c2⟩:=dloop1 a1 a0 ad ay au 2 _ _ b1 b2 b3 b4 (by omega);have hr1:=drest au c2;have hr1l:=AoR (u.toNat*4294967296+(DL l 32).toNat) (show 0<y.toNat by omega);rw[AnT hx4,D8 _ c1 (by omega),Aa,Aa,AnT hx4];generalize hgv:((u*4294967296)+(DL l 32))-(q1*y)=v at*;have av:v.toNat<y.toNat:=by omega
  obtain⟨d1,d2,d3,d4⟩:=Ak4 a1 a0 ae ay av;obtain⟨q0,e1,e2⟩:=dloop2 a1 a0 ae ay av 2 _ _ d1 d2 d3 d4 (by omega);have hr0:=drest av e2;rw[D8 _ e1 (by omega),Aa,Aa];refine⟨_,_,rfl,?_⟩;rw[CT _ _ (by omega),hr0,hr1];have f1:(((u.toNat*4294967296+(DL l 32).toNat)%y.toNat)*4294967296+(l&&&4294967295).toNat)%y.toNat=((hi.toNat*18446744073709551616+lo.toNat)*2^s)%y.toNat:=by
   rw[Nat.add_mod,Nat.mod_mul_mod,<-Nat.add_mod,hN,<-hU,<-hL,s32,m32];have e9:(u.toNat*4294967296+l.toNat/4294967296)*4294967296+l.toNat%4294967296=u.toNat*18446744073709551616+l.toNat:=by omega
   rw[e9]
  rw[f1,hY,Nat.mul_mod_mul_right,Nat.mul_div_cancel _ hps]
abbrev GQ:Nat:=2305843009213691579
abbrev GR:Nat:=1152921504606845789
def Dv (y:UInt64):Prop:= ∃s:Nat,s<=63/\D5 y=some (s:Int)/\9223372036854775808<=y.toNat*2^s/\y.toNat*2^s<18446744073709551616
theorem dvQ:Dv 2305843009213691579:=⟨3,by omega,by kernel_rfl,by decide,by decide⟩
theorem dvR:Dv 1152921504606845789:=⟨4,by omega,by kernel_rfl,by decide,by decide⟩
theorem Dv.pos {y:UInt64}(h:Dv y):0<y.toNat:=by
 obtain⟨s,_,_,h1,_⟩:=h;by_cases e:y.toNat=0
 ·rw[e]at h1; simp at h1
 ·omega
theorem rem_eq {y:UInt64}(h:Dv y)(hi lo:UInt64): ∃z,Hv hi lo y=some z/\z.toNat=(hi.toNat*18446744073709551616+lo.toNat)%y.toNat:=by
 have hpos:=h.pos;obtain⟨s,h1,h2,h3,h4⟩:=h;have hyne:y≠0:=λe=>by rw[e]at hpos; simp at hpos
 have hm:(hi%y).toNat=hi.toNat%y.toNat:=UInt64.toNat_mod _ _;obtain⟨q,r,e1,e2⟩:=Ac4 (hi:=hi%y) (lo:=lo) h1 h2 h3 h4 (by rw[hm]; exact AoR _ hpos);refine⟨r,?_,?_⟩
 ·unfold Hv;rw[AnT hyne,e1,Aa]
 ·rw[e2,hm,Nat.add_mod,Nat.mod_mul_mod,<-Nat.add_mod]
def ofN (n:Nat):UInt64:=UInt64.ofNat n
theorem AfZ {n:Nat}(h:n<18446744073709551616):(ofN n).toNat=n:=by
 unfold ofN; rw[UInt64.toNat_ofNat']; exact Aop h
theorem UM (n:Nat){y:UInt64}(h:0<y.toNat):(ofN (n%y.toNat)).toNat=n%y.toNat:=AfZ (AoU (AoR _ h) (Nat.le_of_lt y.toNat_lt))
theorem SC {z:UInt64}{n:Nat}(h:z.toNat=n):z=ofN n:=by
 rw[<-h]; exact Zn (AfZ z.toNat_lt).symm
def Vs (y a b:UInt64):UInt64:=ofN ((a.toNat*b.toNat)%y.toNat)
theorem TF {y:UInt64}(h:Dv y)(a b:UInt64):(Vs y a b).toNat=(a.toNat*b.toNat)%y.toNat:=UM _ h.pos
theorem R0 {y:UInt64}(h:Dv y)(a b:UInt64):CV y a b=some (Vs y a b):=by
 obtain⟨z,e1,e2⟩:=rem_eq h (phi a b) (a*b);unfold CV;rw[X8,Aa,e1,Aa];rw[XZ,UInt64.toNat_mul,Nat.div_add_mod']at e2;rw[SC e2]; rfl
def Alo (y a b:UInt64):UInt64:=ofN ((a.toNat+b.toNat)%y.toNat)
theorem Ahg (a b:UInt64):(Lx a b).toNat*18446744073709551616+(a+b).toNat=a.toNat+b.toNat:=by
 have:=a.toNat_lt;have:=b.toNat_lt;unfold Lx;rw[UInt64.toNat_ofNat',UInt64.toNat_add];omega
theorem Amr {P d r c sm t:Nat}(hP:d*18446744073709551616+r=P)(hr:r<18446744073709551616)(hd:d<2305843009213693952)(hc:c*18446744073709551616+sm=r+t)(ht:t<18446744073709551616):
  ((d+c)%18446744073709551616)*18446744073709551616+sm=P+t:=by
 have h1:c<=1:=by omega
 rw[Aop (show d+c<18446744073709551616 by omega),Nat.add_mul,<-hP,Ao0,hc,Ao0]
def numM (s:UInt64×UInt64)(y:UInt64):UInt64:=ofN ((s.1.toNat*2305843009213693952+s.2.toNat)%y.toNat)
theorem num_eq {y:UInt64}(h:Dv y)(s:UInt64×UInt64):IF s y=some (numM s y):=by
 have hpos:=h.pos;have hyne:y≠0:=λe=>by rw[e]at hpos; simp at hpos
 obtain⟨t,h1,h2,h3,h4⟩:=h;have hp:(phi s.1 2305843009213693952).toNat=s.1.toNat*2305843009213693952/18446744073709551616:=XZ _ _;have hl:(s.1*2305843009213693952).toNat=s.1.toNat*2305843009213693952%18446744073709551616:=UInt64.toNat_mul _ _;have hs1:=s.1.toNat_lt;have hs2:=s.2.toNat_lt;have hc:=Ahg (s.1*2305843009213693952) s.2;have AmW:(phi s.1 2305843009213693952+Lx (s.1*2305843009213693952) s.2).toNat*18446744073709551616+(s.1*2305843009213693952+s.2).toNat=s.1.toNat*2305843009213693952+s.2.toNat:=by
  rw[UInt64.toNat_add,hp];rw[hl]at hc;have hdl:s.1.toNat*2305843009213693952/18446744073709551616<2305843009213693952:=by
   rw[Nat.div_lt_iff_lt_mul (by decide),AoV (2305843009213693952)];exact Nat.mul_lt_mul_of_pos_right hs1 (by decide)
  exact Amr (Nat.div_add_mod' _ _) (AoR _ (by decide)) hdl hc hs2
 have hm:((phi s.1 2305843009213693952+Lx (s.1*2305843009213693952) s.2)%y).toNat=(phi s.1 2305843009213693952+Lx (s.1*2305843009213693952) s.2).toNat%y.toNat:=UInt64.toNat_mod _ _;obtain⟨q,r,e1,e2⟩:=Ac4 (hi:=(phi s.1 2305843009213693952+Lx (s.1*2305843009213693952) s.2)%y) (lo:=s.1*2305843009213693952+s.2) h1 h2 h3 h4 (by rw[hm]; exact AoR _ hpos);unfold IF;rw[AnW (by rw[Aou]; omega),X8,Aa,AnT hyne];dsimp only;rw[e1,Aa];rw[hm,Nat.add_mod,Nat.mod_mul_mod,<-Nat.add_mod,AmW]at e2;rw[SC e2]; rfl
theorem Ah7:((List.range 256).all λn=>decide (n<2^ (str_0.data.toList.getD n 0).toNat)&&decide ((str_0.data.toList.getD n 0).toNat<=8))=true:=by kernel_rfl
theorem Ah6:str_0.data.toList.length=256:=by kernel_rfl
theorem tabL (x:UInt64)(hx:x.toNat<256): ∃b,idx str_0.data.toList ((toB (x.toNat:Int)).toNat:Int)=some b/\x.toNat<2^b.toNat/\b.toNat<=8:=by
 have hb:(toB (x.toNat:Int)).toNat=x.toNat:=by unfold toB; rw[UInt8.toNat_ofNat']; omega
 have h:=Aoj.1 Ah7 x.toNat (List.mem_range.2 hx);rw[AnP,AnV,AnV]at h;have hlt:x.toNat<str_0.data.toList.length:=by rw[Ah6]; exact hx
 rw[List.getD_eq_getElem?_getD,Aot hlt,Option.getD_some]at h;rw[hb];exact⟨str_0.data.toList[x.toNat],Cm (by simp),h.1,h.2⟩
theorem Ai3 (a:UInt64): ∃L:Nat,Hw a=some (L:Int)/\a.toNat<2^L/\L<=64:=by
 have ha:=a.toNat_lt;have h1: ∃(x:UInt64) (n:Nat),(if(decide ((a.toNat:Int)>=4294967296))=true then some ((DL a 32),(32:Int))else some (a,0))=some (x,(n:Int))/\n<=32/\x.toNat<4294967296/\a.toNat<(x.toNat+1)*2^n:=by
  split
  ·refine⟨DL a 32,32,rfl,by omega,?_,?_⟩<;>rw[CT a 32 (by omega)]<;>omega
  ·rename_i h; rw[AnV]at h; exact⟨a,0,rfl,by omega,by omega,by omega⟩
 obtain⟨x,n,e1,n1,hx,hn⟩:=h1;have h2: ∃(y:UInt64) (k:Nat),(if(decide ((x.toNat:Int)>=65536))=true then some ((DL x 16),(w64 ((n:Int)+16)))else some (x,(n:Int)))=some (y,(k:Int))/\k<=48/\y.toNat<65536/\a.toNat<(y.toNat+1)*2^k:=by
  split
  ·refine⟨DL x 16,n+16,by rw[A7 (by omega) (by omega)]; rfl,by omega,?_,?_⟩
   ·rw[CT x 16 (by omega)]; omega
   ·rw[CT x 16 (by omega),Nat.pow_add];refine AoU hn ?_;have:x.toNat+1<=(x.toNat/2^16+1)*2^16:=by omega
    calc (x.toNat+1)*2^n<=((x.toNat/2^16+1)*2^16)*2^n:=Nat.mul_le_mul_right _ this
     _=(x.toNat/2^16+1)*(2^n*2^16):=by rw[Nat.mul_assoc,AoV (2^16)]
  ·rename_i h; rw[AnV]at h; exact⟨x,n,rfl,by omega,by omega,hn⟩
 obtain⟨y,k,e2,k1,hy,hk⟩:=h2;have h3: ∃(z:UInt64) (j:Nat),(if(decide ((y.toNat:Int)>=256))=true then some ((DL y 8),(w64 ((k:Int)+8)))else some (y,(k:Int)))=some (z,(j:Int))/\j<=56/\z.toNat<256/\a.toNat<(z.toNat+1)*2^j:=by
  split
  ·refine⟨DL y 8,k+8,by rw[A7 (by omega) (by omega)]; rfl,by omega,?_,?_⟩
   ·rw[CT y 8 (by omega)]; omega
   ·rw[CT y 8 (by omega),Nat.pow_add];refine AoU hk ?_;have:y.toNat+1<=(y.toNat/2^8+1)*2^8:=by omega
    calc (y.toNat+1)*2^k<=((y.toNat/2^8+1)*2^8)*2^k:=Nat.mul_le_mul_right _ this
     _=(y.toNat/2^8+1)*(2^k*2^8):=by rw[Nat.mul_assoc,AoV (2^8)]
  ·rename_i h; rw[AnV]at h; exact⟨y,k,rfl,by omega,by omega,hk⟩
 obtain⟨z,j,e3,j1,hz,hj⟩:=h3;obtain⟨b,e4,b1,b2⟩:=tabL z hz;refine⟨j+b.toNat,?_,?_,by omega⟩
 ·unfold Hw;rw[e1,Aa];dsimp only;rw[e2,Aa];dsimp only;rw[e3,Aa,e4,Aa,Bd,A7 (n:=(b.toNat:Int)) (by omega) (by omega),A7 (by omega) (by omega)]; rfl
 ·refine AoU hj ?_;rw[Nat.add_comm j,Nat.pow_add];exact Nat.mul_le_mul_right _ b1
def UF (y a n:UInt64):UInt64:=ofN (a.toNat^n.toNat%y.toNat)
theorem AiD {y:UInt64}(h:Dv y)(a n:UInt64):(UF y a n).toNat=a.toNat^n.toNat%y.toNat:=UM _ h.pos
theorem AnL (n j:Nat):n&&&2^j=(n.testBit j).toNat*2^j:=by
 apply Nat.eq_of_testBit_eq;intro i;rw[Nat.testBit_and,Nat.testBit_two_pow];by_cases h:j=i
 ·subst h;cases hb:n.testBit j<;>simp[hb,Nat.testBit_two_pow_self]
 ·cases hb:n.testBit j<;>simp[h,Nat.testBit_two_pow]
theorem bit_eq (n:UInt64){j:Nat}(hj:j<=63):(((n&&&(K5 1 j)).toNat:Int) !=0)=decide (n.toNat/2^j%2=1):=by
 have h1:(K5 1 j).toNat=2^j:=by
  rw[TA hj,show(1:UInt64).toNat=1 from rfl,Nat.one_mul];exact Aop (AoS (Nat.pow_le_pow_right (by omega) hj) (by decide))
 have h2:(n&&&(K5 1 j)).toNat=(n.toNat.testBit j).toNat*2^j:=by rw[UInt64.toNat_and,h1,AnL]
 rw[h2];have hp:=Nat.two_pow_pos j;rw[Nat.testBit_eq_decide_div_mod_eq];by_cases hb:n.toNat/2^j%2=1
 ·simp only[hb,decide_true,Bool.toNat_true,Nat.one_mul];rw[bne_iff_ne]; omega
 ·simp only[hb,decide_false,Bool.toNat_false,Nat.zero_mul]; rfl
theorem pow_it (a n:UInt64): ∀(j:Nat) (out:UInt64),j<=64->out.toNat=a.toNat^ (n.toNat/2^j)% (2305843009213691579:UInt64).toNat->
  ∃r,iter (Dh (λ(s:UInt64) (b0:Bool)=>Ab (CS a b0 s) λz=>some (true,z)) n) (j+1) ((j:Int)-1,out)=some (.inl r)/\r.toNat=a.toNat^n.toNat% (2305843009213691579:UInt64).toNat:=by
 have h:=dvQ;unfold CS;generalize (2305843009213691579:UInt64)=y at*;intro j;induction j with
 |zero=>
  intro out _ ho;refine⟨out,Bo ?_,by rw[ho]; simp⟩;unfold Dh;rw[AnW (by simp)]
 |succ j ih=>
  intro out hj ho;have hw:w64 ((((j+1:Nat):Int)-1)-1)=(j:Int)-1:=by rw[A7 (by omega) (by omega)]; omega
  have hk:(((j+1:Nat):Int)-1).toNat=j:=by omega
  have hbit:=bit_eq n (j:=j) (by omega);have hdiv:n.toNat/2^ (j+1)=n.toNat/2^j/2:=by rw[Nat.pow_succ,Nat.div_div_eq_div_mul]
  have hsq:(Vs y out out).toNat=a.toNat^ (2*(n.toNat/2^ (j+1)))%y.toNat:=by
   rw[TF h,ho,<-Nat.mul_mod,<-Nat.pow_add,<-Nat.two_mul]
  by_cases hb:n.toNat/2^j%2=1
  ·have hn:(Vs y (Vs y out out) a).toNat=a.toNat^ (n.toNat/2^j)%y.toNat:=by
    rw[TF h,hsq,Nat.mod_mul_mod,<-Nat.pow_succ];congr 2; omega
   obtain⟨r,r1,r2⟩:=ih (Vs y (Vs y out out) a) (by omega) hn;refine⟨r,?_,r2⟩;rw[AH (s':=((j:Int)-1,Vs y (Vs y out out) a)),r1];unfold Dh;dsimp only;rw[AnT (by rw[AnV]; omega),AnT (by omega),hk,hbit];simp only[R0 h,Aa,hb,decide_true,if_true,AoI,Bool.false_eq_true,if_false,hw]
  ·have hn:(Vs y out out).toNat=a.toNat^ (n.toNat/2^j)%y.toNat:=by
    rw[hsq]; congr 2; omega
   obtain⟨r,r1,r2⟩:=ih (Vs y out out) (by omega) hn;refine⟨r,?_,r2⟩;rw[AH (s':=((j:Int)-1,Vs y out out)),r1];unfold Dh;dsimp only;rw[AnT (by rw[AnV]; omega),AnT (by omega),hk,hbit];simp only[R0 h,Aa,hb,decide_false,AoI,Bool.false_eq_true,if_false,hw]
theorem ZG (a n:UInt64):DY a n=some (UF 2305843009213691579 a n):=by
 unfold DY;obtain⟨L,e1,e2,e3⟩:=Ai3 n;have hw:w64 ((L:Int)-1)=(L:Int)-1:=A7 (by omega) (by omega);obtain⟨r,r1,r2⟩:=pow_it a n L 1 e3 (by rw[Nat.div_eq_of_lt e2]; simp);have r1':=D8 _ r1 (by omega);unfold EY II;rw[show KE n=some n from rfl,Aa,e1,Aa,hw,r1',Aa];simp only[Aa];rw[SC r2]; rfl
theorem AnI (n:UInt64):DZ n=some (UF 2305843009213691579 4 n):=by
 unfold DZ;rw[ZG,Aa]
theorem Aj5:((List.range 8193).all λn=>KV (n:Int) 7==((n%8:Nat):Int))=true:=by kernel_rfl
theorem and7 {n:Nat}(h:n<=8192):KV (n:Int) 7=((n%8:Nat):Int):=by
 have:=Aoj.1 Aj5 n (List.mem_range.2 (by omega));simpa using this
theorem shr3 {n:Nat}:A9 (n:Int) 3=((n/8:Nat):Int):=by
 show(n:Int).fdiv (2^ (min 3 64))=_;rw[Int.fdiv_eq_ediv_of_nonneg _ (by decide)]; rfl
structure SvOk (s:g_api_Sieve):Prop where
 m: ∃m:Nat,1<=m/\m<=1024/\s.Bits=((8*m:Nat):Int)/\s.B.length=m
 h1:1<=s.Hashes
 h2:s.Hashes<=8
theorem ZD (n:Int):Gb n=some (decide (0<=n)&&decide (n<=1099511627776)):=rfl
theorem Zv (s:g_api_Sieve): ∃e,Dl s=some e/\(e=0->SvOk s):=by
 unfold Dl;by_cases h1:s.Bits<8
 ·refine⟨1,?_,λh=>by cases h⟩;rw[AnT (An1 h1),Aa,AnT (An1 h1)]
 rw[AnW (show¬(decide (s.Bits<8)=true)from by simpa using h1)];by_cases h2:s.Bits>8192
 ·refine⟨1,?_,λh=>by cases h⟩;rw[AnT (An1 h2),Aa,AnT (An1 h2)]
 rw[AnW (show¬(decide (s.Bits>8192)=true)from by simpa using h2),Aa];obtain⟨n,hn⟩: ∃n:Nat,s.Bits=(n:Int):=⟨s.Bits.toNat,by omega⟩;by_cases h3:(KV s.Bits 7 !=0)=true
 ·exact⟨1,AnT h3,λh=>by cases h⟩
 rw[AnW h3];have h3':n%8=0:=by
  rw[hn,and7 (by omega)]at h3;simp at h3; omega
 by_cases h4:s.Hashes<1
 ·refine⟨1,?_,λh=>by cases h⟩;rw[AnT (An1 h4),Aa,AnT (An1 h4)]
 rw[AnW (show¬(decide (s.Hashes<1)=true)from by simpa using h4)];by_cases h5:s.Hashes>8
 ·refine⟨1,?_,λh=>by cases h⟩;rw[AnT (An1 h5),Aa,AnT (An1 h5)]
 rw[AnW (show¬(decide (s.Hashes>8)=true)from by simpa using h5),ZD,Aa];cases hr:(decide (0<=s.Salt)&&decide (s.Salt<=1099511627776))with
 |false=>exact⟨1,rfl,λh=>by cases h⟩
 |true=>
  rw[AnW (by decide),Bd,Aa];by_cases h6:((s.B.length:Int) !=A9 s.Bits 3)=true
  ·exact⟨1,AnT h6,λh=>by cases h⟩
  ·refine⟨0,AnW h6,λ_=>⟨⟨n/8,by omega,by omega,by rw[hn]; omega,?_⟩,by omega,by omega⟩⟩;rw[hn,shr3]at h6;simp at h6; omega
theorem Aij (d l:Int): ∃x,GX d l=some x:=⟨_,rfl⟩
theorem OK {α:Type} [Inhabited α](c:Bool){o:Option α}(h: ∃x,o=some x): ∃y,gu c o=some y:=by
 obtain⟨x,rfl⟩:=h;cases c<;>exact⟨_,rfl⟩
theorem Wr (c:g_api_Cascade): ∀(k i:Nat),i+k=c.Levels.length->∃r,CE (CD c) k (i:Int) ()=some r
 |0,i,_=>⟨_,rfl⟩
 |k+1,i,hi=>by
  obtain⟨x,hx⟩: ∃x,c.Levels[i]? =some x:=⟨_,Aot (by omega)⟩;show∃r,Ab (CD c (i:Int) ()) _=_;unfold CD;rw[Cm hx,Aa];obtain⟨a,ha⟩:=OK (!(x.Hashes !=3)) (Aij c.Day (i:Int));rw[ha,Aa];obtain⟨e,he,_⟩:=Zv x;obtain⟨b,hb⟩:=OK (!((x.Hashes !=3)||(x.Salt !=a))) ⟨e,he⟩;rw[hb,Aa];split
  ·exact⟨_,rfl⟩
  ·exact Wr c k (i+1) (by omega)
theorem Si (c:g_api_Cascade): ∃e,B2 c=some e:=by
 unfold B2;split
 ·exact⟨_,rfl⟩
 ·obtain⟨b,hb⟩: ∃b,Ew c.Day=some b:=⟨_,rfl⟩;rw[hb,Aa];split
  ·exact⟨_,rfl⟩
  ·obtain⟨r,hr⟩:=Wr c c.Levels.length 0 (by omega);rw[show CE (CD c) c.Levels.length 0 ()=some r from hr,Aa];cases r<;>exact⟨_,rfl⟩
theorem Ai9 {σ τ:Type}{step:σ->Option (σ⊕τ)}(st:Nat->σ){t:τ}: ∀(j k n:Nat),(∀i,i<j->step (st (k+i))=some (.inl (st (k+i+1))))->step (st (k+j))=some (.inr t)->j<n->iter step n (st k)=some t:=by
 intro j;induction j with
 |zero=>
  intro k n _ h hn;obtain⟨n,rfl⟩: ∃q,n=q+1:=⟨n-1,by omega⟩;have h:step (st k)=some (.inr t):=h;simp only[iter,h,Aa]
 |succ j ih=>
  intro k n hs h hn;obtain⟨n,rfl⟩: ∃q,n=q+1:=⟨n-1,by omega⟩;have h0:step (st k)=some (.inl (st (k+1))):=hs 0 (by omega);simp only[iter,h0,Aa];refine ih (k+1) n (λi hi=> ?_) ?_ (by omega)
  ·have:=hs (i+1) (by omega);rw[show k+(i+1)=k+1+i from by omega]at this;exact this
  ·rw[show k+(j+1)=k+1+j from by omega]at h;exact h
def sgn (a b:Int):Int:=if a<b then-1 else if b<a then 1 else 0
theorem Ad8 (a b:Int):Dx a b=some (sgn a b):=by
 unfold Dx Ib sgn;by_cases h1:a<b
 ·simp[Ab,bnd,h1]
 ·by_cases h2:b<a
  ·simp[Ab,bnd,h1,h2]
  ·simp[Ab,bnd,h1,h2]
abbrev S8:Type:=Bool×Int×Int×UInt64×UInt64×Int×UInt64×UInt64
def later (x h:g_api_Head):Prop:=h.Size<x.Size\/(h.Size=x.Size/\h.At<x.At)
def AbI (a b:Int):Int:=if a=0 then b else a
theorem Al9 (a b c d:Int):Lq [a,b,c,d]=some (AbI a (AbI b (AbI c d))):=by
 unfold Lq OF AbI;by_cases h1:a=0
 ·by_cases h2:b=0
  ·by_cases h3:c=0
   ·by_cases h4:d=0<;>simp[F6,FY,Ab,h1,h2,h3,h4]
   ·simp[F6,FY,Ab,h1,h2,h3]
  ·simp[F6,FY,Ab,h1,h2]
 ·simp[F6,FY,Ab,h1]
theorem Yz (a b:UInt64):Ej a b=some (sgn (a.toNat:Int) (b.toNat:Int)):=by
 unfold Ej Fv sgn;by_cases h1:(a.toNat:Int)<(b.toNat:Int)
 ·simp only[Ab,bnd,bne_self_eq_false,Bool.false_eq_true,if_false,h1,decide_true,if_true]
 ·by_cases h2:(b.toNat:Int)<(a.toNat:Int)
  ·simp only[Ab,bnd,bne_self_eq_false,Bool.false_eq_true,if_false,h1,h2,decide_true,decide_false,gt_iff_lt,if_true]
  ·simp only[Ab,bnd,bne_self_eq_false,Bool.false_eq_true,if_false,h1,h2,decide_true,decide_false,gt_iff_lt,if_true]
theorem Ad7 (a b c d:UInt64):BP [a,b] [c,d]=some (AbI (sgn (a.toNat:Int) (c.toNat:Int)) (sgn (b.toNat:Int) (d.toNat:Int))):=by
 have i0:idx [a,b] (0:Int)=some a:=rfl;have i1:idx [a,b] (1:Int)=some b:=rfl;have j0:idx [c,d] (0:Int)=some c:=rfl;have j1:idx [c,d] (1:Int)=some d:=rfl;unfold BP AbI;by_cases h1:sgn (a.toNat:Int) (c.toNat:Int)=0
 ·by_cases h2:sgn (b.toNat:Int) (d.toNat:Int)=0
  ·simp[CE,Bu,i0,i1,j0,j1,Yz,Ab,h1,h2]
  ·simp[CE,Bu,i0,i1,j0,j1,Yz,Ab,h1,h2]
 ·simp[CE,Bu,i0,i1,j0,j1,Yz,Ab,h1]
def Tm (a b:g_api_Head):Int:=AbI (sgn a.Log b.Log) (AbI (sgn a.Size b.Size) (AbI (AbI (sgn (a.Root.1.toNat:Int) (b.Root.1.toNat:Int)) (sgn (a.Root.2.toNat:Int) (b.Root.2.toNat:Int))) (sgn a.At b.At)))
theorem Aei (a b:g_api_Head):DW a b=some (Tm a b):=by
 simp only[DW,Ad8,Ad7,Aa,Al9,Tm]
theorem X0 (a b:g_api_Head):Fc a b=some (Tm a b):=by
 simp only[Fc,Aei,Aa]
theorem YM (a b:g_api_Head):HU a b=some (decide (Tm a b<0)):=by
 unfold HU Tm AbI sgn bnd;by_cases h1:a.Log=b.Log
 ·rw[AnW (by simpa using h1)];by_cases h2:a.Size=b.Size
  ·rw[AnW (by simpa using h2)];by_cases h3:(a.Root.1.toNat:Int)=(b.Root.1.toNat:Int)
   ·rw[AnW (by simpa using h3)];by_cases h4:(a.Root.2.toNat:Int)=(b.Root.2.toNat:Int)
    ·rw[AnW (by simpa using h4)];simp only[h1,h2,h3,h4,Int.lt_irrefl,if_false,if_true];by_cases h5:a.At<b.At
     ·simp[h5]
     ·by_cases h6:b.At<a.At<;>simp[h5,h6]
    ·rw[AnT (by simpa using h4)];simp only[h1,h2,h3,Int.lt_irrefl,if_false,if_true];by_cases h5:(a.Root.2.toNat:Int)<(b.Root.2.toNat:Int)
     ·simp[h5]
     ·have h6:(b.Root.2.toNat:Int)<(a.Root.2.toNat:Int):=by omega
      simp[h5,h6]
   ·rw[AnT (by simpa using h3)];simp only[h1,h2,Int.lt_irrefl,if_false,if_true];by_cases h5:(a.Root.1.toNat:Int)<(b.Root.1.toNat:Int)
    ·simp[h5]
    ·have h6:(b.Root.1.toNat:Int)<(a.Root.1.toNat:Int):=by omega
     simp[h5,h6]
  ·rw[AnT (by simpa using h2)];simp only[h1,Int.lt_irrefl,if_false,if_true];by_cases h5:a.Size<b.Size
   ·simp[h5]
   ·have h6:b.Size<a.Size:=by omega
    simp[h5,h6]
 ·rw[AnT (by simpa using h1)];by_cases h5:a.Log<b.Log
  ·simp[h5]
  ·have h6:b.Log<a.Log:=by omega
   simp[h5,h6]
theorem Ajw {a b:Int}:AbI a b<0↔a<0\/(a=0/\b<0):=by unfold AbI; split<;>omega
theorem Aac {a b:Int}:AbI a b=0↔a=0/\b=0:=by unfold AbI; split<;>omega
theorem AlM {a b:Int}:sgn a b<0↔a<b:=by unfold sgn; split<;>(try split)<;>omega
theorem Ack {a b:Int}:sgn a b=0↔a=b:=by unfold sgn; split<;>(try split)<;>omega
def ltH (a b:g_api_Head):Prop:=a.Log<b.Log\/(a.Log=b.Log/\(a.Size<b.Size\/(a.Size=b.Size/\(((a.Root.1.toNat:Int)<(b.Root.1.toNat:Int)\/((a.Root.1.toNat:Int)=(b.Root.1.toNat:Int)/\(a.Root.2.toNat:Int)<(b.Root.2.toNat:Int)))\/(((a.Root.1.toNat:Int)=(b.Root.1.toNat:Int)/\(a.Root.2.toNat:Int)=(b.Root.2.toNat:Int))/\a.At<b.At)))))
def eqH (a b:g_api_Head):Prop:=a.Log=b.Log/\a.Size=b.Size/\((a.Root.1.toNat:Int)=(b.Root.1.toNat:Int)/\(a.Root.2.toNat:Int)=(b.Root.2.toNat:Int))/\a.At=b.At
theorem O2 {a b:g_api_Head}:Tm a b<0↔ltH a b:=by unfold Tm ltH; simp only[Ajw,Aac,AlM,Ack]
theorem UK {a b:g_api_Head}:Tm a b=0↔eqH a b:=by unfold Tm eqH; simp only[Aac,Ack]
theorem UW {a b c:g_api_Head}(h:ltH a b)(k:ltH b c):ltH a c:=by unfold ltH at*; omega
theorem AmB (a b:g_api_Head):ltH a b\/eqH a b\/ltH b a:=by unfold ltH eqH; omega
theorem AjI (a:g_api_Head):eqH a a:=⟨rfl,rfl,⟨rfl,rfl⟩,rfl⟩
theorem ltH_eq {a b c:g_api_Head}(h:ltH a b)(k:eqH b c):ltH a c:=by unfold ltH eqH at*; omega
theorem Jw {α:Type}{l:List α}{i:Nat}(h:i<l.length):idx l (i:Int)=some l[i]:=Cm (Aot h)
theorem QS {i n:Nat}(h:i<n)(hn:n<=1099511627776):w64 ((i:Int)+1)=((i+1:Nat):Int):=by rw[A7 (by omega) (by omega)]; omega
def chB:List g_api_Head->Bool
 |a::b::l=>decide (Tm a b<0)&&chB (b::l)
 |_=>true
theorem AeD {i n:Nat}(h:i<n)(h1:1<=i)(hn:n<=1099511627776):w64 ((i:Int)-1)=((i-1:Nat):Int):=by rw[A7 (by omega) (by omega)]; omega
theorem drop2 {l:List g_api_Head}{i:Nat}(h1:1<=i)(h:i<l.length):l.drop (i-1)=l[i-1]::l[i]::l.drop (i+1):=by
 rw[List.drop_eq_getElem_cons (show i-1<l.length by omega)];congr 1;rw[show i-1+1=i from by omega,List.drop_eq_getElem_cons h]
theorem Adf {l:List g_api_Head}{i:Nat}(h1:1<=i)(h:i<l.length):chB (l.drop (i-1))=(decide (Tm l[i-1] l[i]<0)&&chB (l.drop i)):=by
 rw[drop2 h1 h,chB,List.drop_eq_getElem_cons h]
theorem AbT {l:List g_api_Head}{i:Nat}(h:l.length<=i):chB (l.drop (i-1))=true:=by
 have hl:(l.drop (i-1)).length<=1:=by rw[AoF]; omega
 match hd:l.drop (i-1),hl with
 | [],_=>rfl
 | [a],_=>rfl
 |a::b::l',hl=>simp at hl
theorem Z6 {a0:g_api_Pool}(hn:a0.L.length<=1099511627776): ∀(k i n:Nat),1<=i->a0.L.length<=i+k->k<n->
  iter (BS a0) n (i:Int)=some (if chB (a0.L.drop (i-1))=true then .inl ()else .inr false):=by
 intro k;induction k with
 |zero=>
  intro i n h1 hk hn';obtain⟨n,rfl⟩: ∃q,n=q+1:=⟨n-1,by omega⟩;have:BS a0 (i:Int)=some (.inr (.inl ())):=by
   unfold BS; rw[AnW (by simp; omega)]
  simp only[iter,this,Aa];rw[AnT (AbT (by omega))]
 |succ k ih=>
  intro i n h1 hk hn';obtain⟨n,rfl⟩: ∃q,n=q+1:=⟨n-1,by omega⟩;by_cases hi:i<a0.L.length
  ·have hs:BS a0 (i:Int)=some (if Tm a0.L[i-1] a0.L[i]<0 then .inl ((i+1:Nat):Int)else .inr (.inr false)):=by
    unfold BS;rw[AnT (by simpa using hi),AeD hi h1 hn,Jw (show i-1<a0.L.length by omega),Aa,Jw hi,Aa,YM,Aa,QS hi hn];by_cases h:Tm a0.L[i-1] a0.L[i]<0<;>simp[h]
   rw[Adf h1 hi];by_cases h:Tm a0.L[i-1] a0.L[i]<0
   ·rw[AnT h]at hs;simp only[iter,hs,Aa,h,decide_true,Aof];have:=ih (i+1) n (by omega) (by omega) (by omega);rw[Nat.add_sub_cancel]at this;exact this
   ·rw[AnW h]at hs;simp only[iter,hs,Aa,h,decide_false,AoD];rfl
  ·have:BS a0 (i:Int)=some (.inr (.inl ())):=by
    unfold BS; rw[AnW (by simp; omega)]
   simp only[iter,this,Aa];rw[AnT (AbT (by omega))]
theorem AdY {a0:g_api_Pool}(hn:a0.L.length<=1099511627776):HW a0=some (chB a0.L):=by
 unfold HW;have:=Z6 hn a0.L.length 1 AY (by omega) (by omega) (by unfold AY; omega);rw[show((1:Nat):Int)=1 from rfl]at this;rw[this,Aa,show 1-1=0 from rfl,List.drop_zero];cases chB a0.L<;>rfl
theorem AcF {a0:g_api_Pool}(hn:a0.L.length<=1099511627776){i:Nat}(h1:1<=i)(hi:i<a0.L.length):CU a0 (i:Int) ()=some (if Tm a0.L[i-1] a0.L[i]<0 then .inl ()else .inr false):=by
 unfold CU;have hp:decide ((i:Int)>0)=true:=by simp; omega
 rw[AeD hi h1 hn,hp,Jw (show i-1<a0.L.length by omega),Jw hi];simp only[gu,cond_true,Aa,X0,Aof];by_cases h:Tm a0.L[i-1] a0.L[i]<0
 ·rw[AnW (by simp; omega),AnT h]
 ·rw[AnT (by simp; omega),AnW h]
theorem AiF {a0:g_api_Pool}(hn:a0.L.length<=1099511627776): ∀(k i:Nat),1<=i->a0.L.length=i+k->
  CE (CU a0) k (i:Int) ()=some (if chB (a0.L.drop (i-1))=true then .inl ()else .inr false):=by
 intro k;induction k with
 |zero=>intro i h1 hk; rw[AnT (AbT (by omega))]; rfl
 |succ k ih=>
  intro i h1 hk;have hi:i<a0.L.length:=by omega
  rw[Adf h1 hi];by_cases h:Tm a0.L[i-1] a0.L[i]<0
  ·simp only[CE,AcF hn h1 hi,AnT h,Aa,h,decide_true,Aof];have:=ih (i+1) (by omega) (by omega);rw[Nat.add_sub_cancel]at this;exact this
  ·simp only[CE,AcF hn h1 hi,AnW h,Aa,h,decide_false,AoD];rfl
theorem AdR {a0:g_api_Pool}(hn:a0.L.length<=1099511627776):Hb a0=some (chB a0.L):=by
 unfold Hb;cases hl:a0.L.length with
 |zero=>
  have:a0.L=[]:=List.eq_nil_of_length_eq_zero hl;rw[this]; rfl
 |succ k=>
  have h0:CU a0 0 ()=some (.inl ()):=by
   unfold CU; simp[gu,Ab]
  simp only[CE,h0,Aa];have:=AiF hn k 1 (by omega) (by omega);rw[show((1:Nat):Int)=0+1 from rfl,show 1-1=0 from rfl,List.drop_zero]at this;rw[this];cases chB a0.L<;>rfl
theorem Aba: ∀(l:List g_api_Head),chB l=true↔l.Pairwise ltH
 | []=>by simp[chB]
 | [a]=>by simp[chB]
 |a::b::l=>by
  rw[chB,AnP,AnV,O2,Aba (b::l),List.pairwise_cons (a:=a)];constructor
  ·rintro⟨h,k⟩;refine⟨λx hx=> ?_,k⟩;rcases Aom.1 hx with rfl|hx
   ·exact h
   ·exact UW h ((List.pairwise_cons.1 k).1 x hx)
  ·rintro⟨h,k⟩; exact⟨h b (by simp),k⟩
def hasH (l:List g_api_Head)(z:g_api_Head):Prop:= ∃x∈l,eqH x z
theorem Ajn {l:List g_api_Head}{z:g_api_Head}(h:z∈l):hasH l z:=⟨z,h,AjI z⟩
def PG:List g_api_Head->g_api_Head->List g_api_Head
 | [],h=> [h]
 |x::l,h=>if Tm x h<0 then x::PG l h else h::x::l
theorem Qv {h z:g_api_Head}: ∀{l:List g_api_Head},z∈PG l h↔z=h\/z∈l
 | []=>by simp[PG]
 |x::l=>by
  rw[PG];split
  ·rw[Aom,Qv,Aom];constructor
   ·rintro(q|q|q)
    ·exact .inr (.inl q)
    ·exact .inl q
    ·exact .inr (.inr q)
   ·rintro(q|q|q)
    ·exact .inr (.inl q)
    ·exact .inl q
    ·exact .inr (.inr q)
  ·rw[Aom]
theorem Ab4 {h:g_api_Head}: ∀{l:List g_api_Head},l.Pairwise ltH->¬hasH l h->(PG l h).Pairwise ltH
 | [],_,_=>by simp[PG]
 |x::l,hl,hn=>by
  have hxl:=(List.pairwise_cons.1 hl).1;rw[PG];split
  ·rename_i q;have q:=O2.1 q;refine List.pairwise_cons.2 ⟨λz hz=> ?_,Ab4 (List.pairwise_cons.1 hl).2 (λ⟨w,hw,he⟩=>hn ⟨w,Aok _ hw,he⟩)⟩;rcases Qv.1 hz with rfl|hz
   ·exact q
   ·exact hxl z hz
  ·rename_i q;have hhx:ltH h x:=by
    rcases AmB x h with r|r|r
    ·exact absurd (O2.2 r) q
    ·exact absurd ⟨x,by simp,r⟩ hn
    ·exact r
   refine List.pairwise_cons.2 ⟨λz hz=> ?_,hl⟩;rcases Aom.1 hz with rfl|hz
   ·exact hhx
   ·exact UW hhx (hxl z hz)
theorem Ty (h:g_api_Head): ∀(l:List g_api_Head),(PG l h).length=l.length+1
 | []=>rfl
 |x::l=>by rw[PG]; split<;>simp[Ty h l]
instance eqH_dec (a b:g_api_Head):Decidable (eqH a b):=by unfold eqH; infer_instance
def AhN (l:List g_api_Head)(z:g_api_Head):Bool:=l.any λx=>decide (eqH x z)
theorem Ym {l:List g_api_Head}{z:g_api_Head}:AhN l z=true↔hasH l z:=by simp[AhN,hasH]
theorem appL {α:Type}{b:Nat}{xs ys:List α}(h:xs.length+ys.length<=2199023255552)(hb:b<=56):app b xs ys=some (xs++ys):=by
 unfold app;have:(xs.length+ys.length)*b<=2199023255552*56:=Nat.mul_le_mul h hb;rw[AnT ⟨by omega,by omega⟩]
theorem cutLG {α:Type}{xs:List α}{lo hi:Nat}(h1:lo<=hi)(h2:hi<=xs.length):cut xs (lo:Int) (hi:Int)=some ((xs.drop lo).take (hi-lo)):=by
 unfold cut; rw[AnT ⟨by omega,by omega,by omega⟩]; simp
theorem Aja {τ:Type}{step:Int->Option (Int⊕(Unit⊕τ))}{good:Nat->Bool}{bad:τ}{len:Nat}(hn:len<=1099511627776)(hs: ∀i,i<len->step (i:Int)=some (if good i=true then .inl (w64 ((i:Int)+1))else .inr (.inr bad)))(he:step (len:Int)=some (.inr (.inl ()))):
  ∀(k i n:Nat),i+k=len->k<n->iter step n (i:Int)=some (if(List.range' i k).all good=true then .inl ()else .inr bad):=by
 intro k;induction k with
 |zero=>
  intro i n hi hn';obtain⟨n,rfl⟩: ∃q,n=q+1:=⟨n-1,by omega⟩;have:i=len:=by omega
  subst this;simp only[iter,he,Aa];rfl
 |succ k ih=>
  intro i n hi hn';obtain⟨n,rfl⟩: ∃q,n=q+1:=⟨n-1,by omega⟩;have h:=hs i (by omega);rw[QS (show i<len by omega) hn]at h;rw[List.range'_succ,AoE];cases hg:good i
  ·rw[hg]at h;simp only[iter,h,Aa,AoD];rfl
  ·rw[hg]at h;simp only[iter,h,Aa,Aof,AnT];exact ih (i+1) n (by omega) (by omega)
theorem Ajb {τ:Type}{step:Int->Option (Int⊕(Unit⊕τ))}{good:Nat->Bool}{bad:τ}(len:Nat)(hn:len<=1099511627776)(hs: ∀i,i<len->step (i:Int)=some (if good i=true then .inl (w64 ((i:Int)+1))else .inr (.inr bad)))(he:step (len:Int)=some (.inr (.inl ()))):
  iter step AY 0=some (if(List.range len).all good=true then .inl ()else .inr bad):=by
 have:=Aja hn hs he len 0 AY (by omega) (by unfold AY; omega);rw[List.range_eq_range'];exact this
theorem Amb {α:Type}{l:List α}{p:α->Bool}{good:Nat->Bool}(h: ∀i (hi:i<l.length),good i=p l[i]):(List.range l.length).all good=l.all p:=by
 rw[Aoq,Aoj,Aoj];constructor
 ·intro k x hx;obtain⟨i,hi,he⟩:=List.mem_iff_getElem.1 hx;rw[<-he,<-h i hi]; exact k i (List.mem_range.2 hi)
 ·intro k i hi;have hi:=List.mem_range.1 hi;rw[h i hi]; exact k _ (List.getElem_mem hi)
theorem Z0 {α τ:Type}{step:Int->Option (Int⊕(Unit⊕τ))}(l:List α)(p:α->Bool){bad:τ}(hn:l.length<=1099511627776)(hs: ∀i (hi:i<l.length),step (i:Int)=some (if p l[i]=true then .inl (w64 ((i:Int)+1))else .inr (.inr bad)))(he:step (l.length:Int)=some (.inr (.inl ()))):
  iter step AY 0=some (if l.all p=true then .inl ()else .inr bad):=by
 have h2:=Amb (l:=l) (p:=p) (good:=λi=>if h:i<l.length then p l[i]else true) (λi hi=>by simp[hi]);rw[<-h2];refine Ajb l.length hn (λi hi=> ?_) he;rw[hs i hi];simp[hi]
theorem Ad1 (a b:UInt64×UInt64):Nr a b=true↔(a.1.toNat:Int)=(b.1.toNat:Int)/\(a.2.toNat:Int)=(b.2.toNat:Int):=by
 have h:Nr a b=true↔a.1=b.1/\a.2=b.2:=by unfold Nr; simp
 rw[h];constructor
 ·rintro⟨h1,h2⟩; rw[h1,h2]; exact⟨rfl,rfl⟩
 ·rintro⟨h1,h2⟩;exact⟨UInt64.toNat_inj.1 (by omega),UInt64.toNat_inj.1 (by omega)⟩
theorem AdN (a b:g_api_Head):((((a.Log==b.Log)&&(a.Size==b.Size))&&(Nr a.Root b.Root))&&(a.At==b.At))=decide (eqH a b):=by
 rw[Aoq,decide_eq_true_iff];unfold eqH;rw[AnP,AnP,AnP,Aou,Aou,Aou,Ad1];constructor
 ·rintro⟨⟨⟨a,b⟩,c⟩,d⟩; exact⟨a,b,c,d⟩
 ·rintro⟨a,b,c,d⟩; exact⟨⟨⟨a,b⟩,c⟩,d⟩
theorem AfS (a b:g_api_Head):JK a b=some (decide (eqH a b)):=by
 unfold JK bnd;rw[AdN]
theorem AmY {l:List g_api_Head}(h:g_api_Head)(hn:l.length<=1099511627776):MU l h=some (AhN l h):=by
 unfold MU;have hit:=Z0 (step:=IM l h) l (λx=> !decide (eqH x h)) (bad:=true) hn (λi hi=> ?_) ?_
 ·rw[hit,Aa];have:AhN l h= !(l.all λx=> !decide (eqH x h)):=by rw[<-List.not_any_eq_all_not,Bool.not_not]; rfl
  rw[this];cases l.all λx=> !decide (eqH x h)<;>rfl
 ·unfold IM;rw[AnT (by simpa using hi),Jw hi,Aa,AfS,Aa];cases decide (eqH l[i] h)<;>rfl
 ·unfold IM; rw[AnW (by simp)]
def Jy (h:g_api_Head):List g_api_Head->Nat
 | []=>0
 |x::l=>if Tm x h<0 then Jy h l+1 else 0
theorem Adb (h:g_api_Head): ∀l:List g_api_Head,Jy h l<=l.length
 | []=>by simp[Jy]
 |x::l=>by have:=Adb h l; unfold Jy; split<;>simp<;>omega
theorem Ak7 {h:g_api_Head}: ∀{l:List g_api_Head} {i:Nat} (hi:i<l.length),i<Jy h l->Tm l[i] h<0
 | [],i,hi,_=>by simp at hi
 |x::l,0,hi,hc=>by
  unfold Jy at hc;split at hc
  ·assumption
  ·omega
 |x::l,i+1,hi,hc=>by
  unfold Jy at hc;split at hc
  ·exact Ak7 (l:=l) (by simpa using hi) (by omega)
  ·omega
theorem Ag2 {h:g_api_Head}: ∀{l:List g_api_Head} (hi:Jy h l<l.length),¬Tm l[Jy h l] h<0
 | [],hi=>by simp at hi
 |x::l,hi=>by
  by_cases c:Tm x h<0
  ·have e:Jy h (x::l)=Jy h l+1:=by rw[Jy,AnT c]
   have hi':Jy h l<l.length:=by rw[e]at hi; simpa using hi
   have:=Ag2 hi';simp only[e,List.getElem_cons_succ];exact this
  ·have e:Jy h (x::l)=0:=by rw[Jy,AnW c]
   simp only[e,List.getElem_cons_zero];exact c
theorem RD (h:g_api_Head): ∀l:List g_api_Head,PG l h=l.take (Jy h l)++h::l.drop (Jy h l)
 | []=>rfl
 |x::l=>by
  unfold PG Jy;split
  ·rw[RD h l]; simp
  ·simp
theorem AdM {l:List g_api_Head}(h:g_api_Head)(hn:l.length<=1099511627776):I7 l h=some (PG l h):=by
 have hc:=Adb h l;have hi:iter (FO l h) AY 0=some ((Jy h l:Nat):Int):=by
  have:=Ai9 (step:=FO l h) (λi=>(i:Int)) (t:=((Jy h l:Nat):Int)) (Jy h l) 0 AY (λi hi=> ?_) ?_ (by unfold AY; omega)
  ·exact this
  ·simp only[AoA];have hlt:i<l.length:=by omega
   unfold FO;have hd:decide ((i:Int)<(l.length:Int))=true:=by simpa using hlt
   rw[hd,Jw hlt];simp only[gu,cond_true,Aa,YM,Aof];rw[AnT (by simpa using Ak7 hlt hi),QS hlt hn]
  ·simp only[AoA];unfold FO;by_cases hlt:Jy h l<l.length
   ·have hd:decide (((Jy h l:Nat):Int)<(l.length:Int))=true:=by simpa using hlt
    rw[hd,Jw hlt];simp only[gu,cond_true,Aa,YM,Aof];rw[AnW (by simpa using Ag2 hlt)]
   ·have hd:decide (((Jy h l:Nat):Int)<(l.length:Int))=false:=by simpa using hlt
    rw[hd];simp[gu,Ab]
 unfold I7;rw[hi,Aa,Aa];have c1:=cutLG (xs:=l) (Nat.zero_le (Jy h l)) hc;have c2:=cutLG (xs:=l) hc (AnX _);rw[show((0:Nat):Int)=0 from rfl]at c1;rw[c1,Aa,appL (by simp; omega) (by decide),Aa,appL (by simp; omega) (by decide),Aa,c2,Aa,appL (by simp; omega) (by decide),Aa,RD];congr 1;have:(l.drop (Jy h l)).take (l.length-Jy h l)=l.drop (Jy h l):=Aow (by simp);rw[this];simp
def fnd {α:Type}(p:α->Bool):List α->Nat->Option (Nat×α)
 | [],_=>none
 |x::xs,i=>if p x=true then some (i,x)else fnd p xs (i+1)
theorem Yq {α:Type}{p:α->Bool}: ∀{xs:List α} {i:Nat} {q:Nat×α},fnd p xs i=some q->∃k,q.1=i+k/\xs[k]? =some q.2/\p q.2=true
 | [],i,q,h=>by cases h
 |x::xs,i,q,h=>by
  unfold fnd at h;split at h
  ·rename_i c;cases h;exact⟨0,rfl,rfl,c⟩
  ·obtain⟨k,h1,h2,h3⟩:=Yq h;exact⟨k+1,by omega,by simpa using h2,h3⟩
theorem AgS {α:Type}{l xs:List α}{x:α}{i:Nat}(h:l.drop i=x::xs): ∃hi:i<l.length,l[i]=x/\l.drop (i+1)=xs:=by
 have hi:i<l.length:=by
  apply Classical.byContradiction;intro q;rw[Aog (by omega)]at h;cases h
 rw[List.drop_eq_getElem_cons hi]at h;injection h with h1 h2;exact⟨hi,h1,h2⟩
theorem Aam {α σ τ:Type}{body:Int->σ->Option (σ⊕τ)}{s:σ}{l:List α}(p:α->Bool)(r:Nat->τ)(hs: ∀i (hi:i<l.length),body (i:Int) s=some (if p l[i]=true then .inr (r i)else .inl s)):
  ∀(xs:List α) (i:Nat),l.drop i=xs->CE body xs.length (i:Int) s=some (match fnd p xs i with|some q=> .inr (r q.1)|none=> .inl s)
 | [],i,_=>rfl
 |x::xs,i,h=>by
  obtain⟨hi,he,hd⟩:=AgS h;have h1:=hs i hi;rw[he]at h1;unfold fnd;simp only[AnR,CE,h1,Aa];by_cases c:p x=true
  ·simp only[AnT c]
  ·simp only[AnW c];exact Aam p r hs xs (i+1) hd
theorem Z1 {α τ:Type}{step:Int->Option (Int⊕(Unit⊕τ))}{l:List α}(p:α->Bool)(r:Nat->τ)(hn:l.length<=1099511627776)(i0:Nat)(hs: ∀i (hi:i<l.length),i0<=i->step (i:Int)=some (if p l[i]=true then .inr (.inr (r i))else .inl (w64 ((i:Int)+1))))(he: ∀i,l.length<=i->i0<=i->step (i:Int)=some (.inr (.inl ()))):
  ∀(xs:List α) (i n:Nat),i0<=i->l.drop i=xs->xs.length<n->iter step n (i:Int)=some (match fnd p xs i with|some q=> .inr (r q.1)|none=> .inl ())
 | [],i,n,h0,h,hn'=>by
  obtain⟨n,rfl⟩: ∃q,n=q+1:=⟨n-1,by omega⟩;have:=Aoo.1 h;simp only[iter,he i this h0,Aa];rfl
 |x::xs,i,n,h0,h,hn'=>by
  obtain⟨n,rfl⟩: ∃q,n=q+1:=⟨n-1,by omega⟩;obtain⟨hi,he',hd⟩:=AgS h;have h1:=hs i hi h0;rw[he',QS hi hn]at h1;unfold fnd;simp only[iter,h1,Aa];by_cases c:p x=true
  ·simp only[AnT c]
  ·simp only[AnW c];exact Z1 p r hn i0 hs he xs (i+1) n (by omega) hd (by simpa using hn')
def pk7 (h:g_api_Head):Int×Int×UInt64×UInt64×Int×UInt64×UInt64:=(h.Log,h.Size,h.Root.1,h.Root.2,h.At,h.Sig.E,h.Sig.S)
theorem Ag4 {l:List g_api_Head}(h:l.length<=2199023255552):A3 l=some l:=by
 unfold A3;rw[appL (by simpa using h) (by decide),Aa,AoJ]
theorem AmM {u v:Int}{q:Nat}(hs:0<=u/\v<=0\/u<=0/\0<=v):(u-(q:Int)*v).natAbs=u.natAbs+q*v.natAbs/\((q:Int)*v).natAbs=q*v.natAbs/\(0<=v/\u-(q:Int)*v<=0\/v<=0/\0<=u-(q:Int)*v):=by
 have hqv:((q:Int)*v).natAbs=q*v.natAbs:=by rw[Int.natAbs_mul,Int.natAbs_natCast]
 have h1:0<=v->0<=(q:Int)*v:=λh=>Int.mul_nonneg (AoL q) h;have h2:v<=0->(q:Int)*v<=0:=λh=>Int.mul_nonpos_of_nonneg_of_nonpos (AoL q) h;refine⟨?_,hqv,?_⟩
 ·rw[<-hqv];generalize (q:Int)*v=z at*;omega
 ·generalize (q:Int)*v=z at*;omega
theorem inv_it (m:Nat)(a:Int)(hm2:m<2305843009213693952): ∀(n:Nat) (x y:UInt64) (u v:Int),y.toNat<=n->(∃k,u*a=x.toNat+k*m)->(∃k,v*a=y.toNat+k*m)->u.natAbs*y.toNat+v.natAbs*x.toNat=m->
  (0<=u/\v<=0\/u<=0/\0<=v)->x.toNat<=m->u.natAbs<=m->v.natAbs<=m->y.toNat<=m->
  ∃r:Int,iter Ch (n+1) (x,y,u,v)=some r/\(∃k,r*a=Nat.gcd x.toNat y.toNat+k*m)/\r.natAbs<=m:=by
 intro n;induction n with
 |zero=>
  intro x y u v hy hu hv hb hs hx hul hvl hyl;have hy0:y.toNat=0:=by omega
  refine⟨u,Bo ?_,by rw[hy0,Nat.gcd_zero_right]; exact hu,hul⟩;unfold Ch;rw[AnW (by simp[hy0])]
 |succ n ih=>
  intro x y u v hy hu hv hb hs hx hul hvl hyl;by_cases hy0:y.toNat=0
  ·refine⟨u,Bo ?_,by rw[hy0,Nat.gcd_zero_right]; exact hu,hul⟩;unfold Ch;rw[AnW (by simp[hy0])]
  ·have hyne:y≠0:=λe=>hy0 (by rw[e]; rfl);have hdm:=Nat.div_add_mod' x.toNat y.toNat;have hmod:=AoR x.toNat (show 0<y.toNat by omega);have hql:x.toNat/y.toNat<=x.toNat:=Nat.div_le_self _ _;have hmul:x.toNat/y.toNat*y.toNat<=x.toNat:=Nat.div_mul_le_self _ _;have hxl:=x.toNat_lt;have hgcd:Nat.gcd x.toNat y.toNat=Nat.gcd y.toNat (x.toNat%y.toNat):=by rw[Nat.gcd_comm,Nat.gcd_rec,Nat.gcd_comm]
   have eq1:(x/y).toNat=x.toNat/y.toNat:=UInt64.toNat_div _ _;have eq2:((x/y)*y).toNat=x.toNat/y.toNat*y.toNat:=by rw[UInt64.toNat_mul,eq1]; exact Aop (AoS hmul hxl)
   have eq3:(x-(x/y)*y).toNat=x.toNat%y.toNat:=by
    rw[UInt64.toNat_sub_of_le _ _ (by rw[UInt64.le_iff_toNat_le,eq2]; exact hmul),eq2];omega
   generalize hq:x.toNat/y.toNat=q at*;generalize hr:x.toNat%y.toNat=r at*;obtain⟨habs,hqv,hs'⟩:=AmM (q:=q) hs;have hbal:v.natAbs*r+(u-(q:Int)*v).natAbs*y.toNat=m:=by
    rw[habs,<-hb,<-hdm]; grind
   have hvm:(u-(q:Int)*v).natAbs<=m:=by
    have:(u-(q:Int)*v).natAbs*1<=(u-(q:Int)*v).natAbs*y.toNat:=Nat.mul_le_mul_left _ (by omega);omega
   have hqb:((q:Int)*v).natAbs<=m:=by omega
   have w1:w64 (q:Int)=(q:Int):=A7 (by omega) (by omega);have w2:w64 ((q:Int)*v)=(q:Int)*v:=by
    generalize (q:Int)*v=z at*;exact A7 (by omega) (by omega)
   have w3:w64 (u-(q:Int)*v)=u-(q:Int)*v:=by
    generalize u-(q:Int)*v=z at*;exact A7 (by omega) (by omega)
   have hdmI:(q:Int)*(y.toNat:Int)+(r:Int)=(x.toNat:Int):=by exact_mod_cast hdm
   obtain⟨t,t1,t2,t3⟩:=ih y (x-(x/y)*y) v (u-(q:Int)*v) (by rw[eq3]; omega) hv (by
    obtain⟨k,hk⟩:=hu;obtain⟨l,hl⟩:=hv;refine⟨k-q*l,?_⟩;rw[eq3];grind) (by rw[eq3]; exact hbal) (by omega) hyl hvl hvm (by rw[eq3]; omega)
   rw[eq3,<-hgcd]at t2;refine⟨t,?_,t2,t3⟩;rw[AH (s':=(y,x-(x/y)*y,v,u-(q:Int)*v)),t1];unfold Ch;dsimp only;rw[AnT (by simp; omega),AnT hyne,eq1,Bd,w1,w2,w3,Bd]
theorem inv_eq {a:UInt64}{b:Nat}(h:a.toNat*b%GQ=1): ∃z:UInt64,EF a=some (z,0)/\z.toNat*a.toNat%GQ=1:=by
 have hm:(a%2305843009213691579).toNat=a.toNat%GQ:=UInt64.toNat_mod _ _;have hml:=AoR a.toNat (show 0<GQ by decide);have hne:a.toNat%GQ≠0:=λe=>by
  rw[Nat.mul_mod,e,Nat.zero_mul,Nat.zero_mod]at h; cases h
 have hg:Nat.gcd (a.toNat%GQ) GQ=1:=by
  have d1:=Nat.gcd_dvd_left (a.toNat%GQ) GQ;have d2:=Nat.gcd_dvd_right (a.toNat%GQ) GQ;have h':a.toNat%GQ*b%GQ=1:=by rw[Nat.mod_mul_mod]; exact h
  have h2:=Nat.div_add_mod (a.toNat%GQ*b) GQ;rw[h']at h2;have d3:Nat.gcd (a.toNat%GQ) GQ ∣ GQ*(a.toNat%GQ*b/GQ)+1:=by rw[h2]; exact Nat.dvd_trans d1 (Nat.dvd_mul_right _ _)
  have d4:=(Nat.dvd_add_right (Nat.dvd_trans d2 (Nat.dvd_mul_right GQ (a.toNat%GQ*b/GQ)))).1 d3;exact Nat.dvd_one.1 d4
 obtain⟨r,r1,⟨k,r2⟩,r3⟩:=inv_it GQ (a.toNat%GQ:Nat) (by decide) GQ (a%2305843009213691579) 2305843009213691579 1 0 (by decide) ⟨0,by rw[hm]; simp⟩ ⟨-1,by
  rw[show(2305843009213691579:UInt64).toNat=GQ from rfl]; simp⟩ (by rw[show(2305843009213691579:UInt64).toNat=GQ from rfl]; simp) (by omega) (by rw[hm]; omega) (by decide) (by decide) (by decide)
 rw[hm,show(2305843009213691579:UInt64).toNat=GQ from rfl,hg]at r2;have r1':=D8 _ r1 (by decide);have hw:w64 (((2305843009213691579:UInt64).toNat:Int))=(GQ:Int):=A7 (by decide) (by decide);have hz: ∃z:Nat,(if(decide (r<0))=true then bnd ((w64 (r+(w64 (((2305843009213691579:UInt64).toNat:Int)))))) λx7=>some x7 else some r)=some (z:Int)/\z<=GQ/\∃l:Int,(z:Int)*(a.toNat%GQ:Nat)=1+l*GQ:=by
  simp only[GQ]at*;by_cases hneg:r<0
  ·rw[AnT (by simpa using hneg),hw,Bd,A7 (by omega) (by omega)];obtain⟨z,hz⟩:=Int.eq_ofNat_of_zero_le (show 0<=r+2305843009213691579 by omega);refine⟨z,by rw[<-hz]; rfl,by omega,k+(a.toNat%2305843009213691579:Nat),?_⟩;rw[<-hz,Int.add_mul,r2];grind
  ·rw[AnW (by simpa using hneg)];obtain⟨z,hz⟩:=Int.eq_ofNat_of_zero_le (show 0<=r by omega);exact⟨z,by rw[hz],by omega,k,by rw[<-hz]; exact r2⟩
 obtain⟨z,z1,z2,l,z3⟩:=hz;have hzn:(toU (z:Int)).toNat=z:=I2 (by simp only[GQ]at z2; omega);refine⟨toU (z:Int),?_,?_⟩
 ·unfold EF DX;rw[AnT (by decide),AnW (by rw[Aou,hm]; omega),r1',Aa,Aa,z1,Aa,Aa]
 ·rw[hzn,<-Nat.mul_mod_mod];have:((z*(a.toNat%GQ):Nat):Int)=1+l*GQ:=by rw[Int.natCast_mul]; exact z3
  generalize z*(a.toNat%GQ)=w at*;simp only[GQ]at*;omega
theorem Aaw (n:UInt64):FN n=some (Px 8 n):=by
 unfold FN;simp[Di,Km,idx,w64,Bd,Px]
def pubK (k:UInt64):UInt64:=UF 2305843009213691579 4 k
def chal (c p:UInt64)(msg:List UInt8):UInt64:=numM (ptag ⟨#[115,105,103,110]⟩ [Px 8 c,Px 8 p,msg]) 1152921504606845789
theorem AnC (c p:UInt64){msg:List UInt8}(h:msg.length<=600000):Dd c p msg=some (chal c p msg):=by
 unfold Dd;rw[Aaw,Aa,Aaw,Aa,AeR _ _ (by simp[AfP,DR]; omega),Aa,num_eq dvR,Aa]; rfl
def gr:Nat:=GR
theorem TC (a n:UInt64):(UF 2305843009213691579 a n).toNat=a.toNat^n.toNat%GQ:=AiD dvQ a n
theorem Agp {p e k:Nat}(hp:p^gr%GQ=1)(he:e<=gr):p^e%GQ*p^ (gr-e)%GQ=1:=by
 rw[Nat.mod_mul_mod,<-Nat.pow_add,Nat.add_sub_cancel' he]; exact hp
theorem Am0 {α:Type} [Inhabited α](o:Option α):gu true o=o:=rfl
def okBody (b:List UInt8):Bool:=decide (0<b.length)&&decide (b.length<=2048)
def UL (n:Int):Bool:=decide (0<=n)&&decide (n<=1099511627776)
theorem Q3 (n:Int):Dq n=some (UL n):=rfl
def okL:List g_api_Leaf->List (List UInt8)->Bool
 | [],_=>true
 |x::r,ks=>(okBody x.Body&&UL x.At&& !decide (x.Body∈ks))&&okL r (ks++[x.Body])
def okH:List Int->Int->Int->Bool
 | [],_,_=>true
 |x::r,last,n=>(!decide (x<=last)&& !decide (n<=x))&&okH r x n
def okHd (l:g_api_Log):Bool:=UL l.Id&& !decide (l.Key.toNat=0)&&decide (l.Key.toNat<1152921504606845789)&&decide (0<=l.Delay)&&decide (l.Delay<=1000)
def chk (l:g_api_Log):Int:=if okHd l=true then(if okL (l.L++l.Wait) []=true then(if okH l.Hide (-1) (l.L.length:Int)=true then(if 256<(l.L++l.Wait).length then 2 else 0)else 1)else 1)else 1
theorem Ajq (n:Nat)(h:n<=1000000):Bb (n:Int)=some []:=by
 have hw:w64 ((n:Int)-(w64 (0-((0:Nat):Int))))=(n:Int):=by rw[A7 (n:=0-((0:Nat):Int)) (by omega) (by omega),A7 (by omega) (by omega)]; omega
 unfold Bb;rw[AnW (by rw[AnV]; omega),Aa,hw,Bd];by_cases h0:n=0
 ·rw[AnW (by simp; omega),Aa]
 ·rw[AnT (by simp; omega),AnT (by omega),Aa]
theorem AbR: ∀(xs:List (List UInt8)) (i:Int) (n:Nat),n+xs.flatten.length<=1000000->FE Ck xs i (n:Int)=some ((n+xs.flatten.length:Nat):Int):=by
 intro xs;induction xs with
 |nil=>intro i n _; simp[FE]
 |cons x xs ih=>
  intro i n h;simp only[List.flatten_cons,AnY]at h;have hw:w64 ((n:Int)+(x.length:Int))=((n+x.length:Nat):Int):=by rw[A7 (by omega) (by omega)]; omega
  have hb:Ck i x (n:Int)=some ((n+x.length:Nat):Int):=by
   unfold Ck;rw[Bd,hw,AnW (by rw[AnV]; omega),Aa]
  simp only[FE,hb,Aa];rw[ih _ _ (by omega),List.flatten_cons,AnY,Ao0]
theorem AbS: ∀(xs:List (List UInt8)) (i:Int) (s:List UInt8),s.length+xs.flatten.length<=1000000->FE Cj xs i s=some (s++xs.flatten):=by
 intro xs;induction xs with
 |nil=>intro i s _; simp[FE]
 |cons x xs ih=>
  intro i s h;simp only[List.flatten_cons,AnY]at h;have hb:Cj i x s=some (s++x):=by
   unfold Cj;rw[GY 1 (by omega) (by omega),Aa]
  simp only[FE,hb,Aa];rw[ih _ _ (by rw[AnY]; omega),List.flatten_cons,An3]
theorem Ad5 {xs:List (List UInt8)}(h:xs.flatten.length<=1000000):Bp xs=some xs.flatten:=by
 have h1:=AbR xs 0 0 (by omega);rw[show((0:Nat):Int)=0 from rfl,AoA]at h1;unfold Bp;rw[h1,Aa,Aa,Ajq _ h,Aa,AbS xs 0 [] (by simpa using h),Aa,Aa,AoJ]
theorem msg_eq {w:ByteArray}{ps:List (List UInt8)}(hw:w.data.toList.length<=100)(h:ps.flatten.length<=100000):L9 w ps=some (w.data.toList++ps.flatten):=by
 unfold L9;have h0:([]:List UInt8).length=0:=rfl;rw[GY 1 (by omega) (by omega),Aa,Ad5 (by omega),Aa,AoJ,GY 1 (by omega) (by omega),Aa]
def e8 (n:Int):List UInt8:=[toB (A9 n 56),toB (A9 n 48),toB (A9 n 40),toB (A9 n 32),toB (A9 n 24),toB (A9 n 16),toB (A9 n 8),toB (A9 n 0)]
theorem Vc (n:Int):DV n=some (e8 n):=by
 unfold DV;simp[Di,Kw,idx,w64,Bd,e8]
def Agw (h:g_api_Head):List UInt8:=[104,101,97,100]++[e8 h.Log,e8 h.Size,Wi h.Root,e8 h.At].flatten
theorem PE (n:Int):(e8 n).length=8:=rfl
theorem ZL (h:g_api_Head):H8 h=some (Agw h):=by
 unfold H8;rw[Vc,Aa,Vc,Aa,Aj1,Aa,Vc,Aa,msg_eq (by decide) (by simp[PE,J2]),Aa]; rfl
theorem Z8 (h:g_api_Head):(Agw h).length<=600000:=by simp[Agw,PE,J2]
def radd (a b:UInt64):UInt64:=((a%2305843009213693951)+(b%2305843009213693951))%2305843009213693951
theorem Aiv (a b:UInt64):(radd a b).toNat=(a.toNat%FP+b.toNat%FP)%FP:=by
 unfold radd;rw[UInt64.toNat_mod,UInt64.toNat_add,UInt64.toNat_mod,UInt64.toNat_mod,litP];simp only[FP];omega
theorem Ami (a b:UInt64):radd a b=DA a b:=Zn (by rw[Aiv,MO])
theorem DD (a b:UInt64):De a b=some (DA a b):=by rw[<-Ami]; rfl
theorem AiR: ∀(n:Nat) (a b o:UInt64),b.toNat<2^n->o.toNat<FP->∃r,iter Fb (n+1) (a,b,o)=some r/\r.toNat=(o.toNat+a.toNat*b.toNat)%FP:=by
 intro n;induction n with
 |zero=>
  intro a b o h ho;have hb:b.toNat=0:=by simp at h; omega
  refine⟨o,Bo ?_,by rw[hb]; simp; exact(Aop ho).symm⟩;unfold Fb;rw[AnW (by simp[hb])]
 |succ n ih=>
  intro a b o h ho;by_cases hb:b.toNat=0
  ·refine⟨o,Bo ?_,by rw[hb]; simp; exact(Aop ho).symm⟩;unfold Fb;rw[AnW (by simp[hb])]
  ·have e1:2^ (n+1)=2*2^n:=by rw[Nat.pow_succ]; omega
   have hb2:(b/2).toNat=b.toNat/2:=by rw[UInt64.toNat_div]; rfl
   have hbm:((b%2).toNat:Int)=((b.toNat%2:Nat):Int):=by rw[UInt64.toNat_mod]; rfl
   have hp0: ∀x y,(DA x y).toNat<FP:=λx y=>by rw[MO]; exact AoR _ (by decide)
   by_cases ho1:b.toNat%2=1
   ·obtain⟨r,h1,h2⟩:=ih (DA a a) (b/2) (DA o a) (by rw[hb2]; omega) (hp0 _ _);refine⟨r,?_,?_⟩
    ·rw[AH (s':=(DA a a,b/2,DA o a)),h1];unfold Fb;rw[AnT (by simp; omega),AnT (by rw[hbm,ho1]; rfl),DD,Aa,Aa,DD,Aa]
    ·rw[h2,MO,MO,hb2];simp only[Nat.mod_add_mod,Nat.add_mod_mod];rw[Nat.add_mod,Nat.mod_mul_mod,<-Nat.add_mod,<-Nat.two_mul];congr 1;have:b.toNat=2*(b.toNat/2)+1:=by omega
     conv=>rhs; rw[this]
     rw[Nat.mul_add,Nat.mul_one,<-Nat.mul_assoc,AoV a.toNat 2]; omega
   ·obtain⟨r,h1,h2⟩:=ih (DA a a) (b/2) o (by rw[hb2]; omega) ho;refine⟨r,?_,?_⟩
    ·rw[AH (s':=(DA a a,b/2,o)),h1];unfold Fb;rw[AnT (by simp; omega),AnW (by rw[hbm]; simp; omega),Aa,DD,Aa]
    ·rw[h2,MO,hb2];simp only[Nat.mod_add_mod,Nat.add_mod_mod];rw[Nat.add_mod,Nat.mod_mul_mod,<-Nat.add_mod,<-Nat.two_mul];congr 1;have:b.toNat=2*(b.toNat/2):=by omega
     conv=>rhs; rw[this]
     rw[<-Nat.mul_assoc,AoV a.toNat 2]
theorem AiS (a b:UInt64):Ku a b=some (Aem a b):=by
 have hb:(b%2305843009213693951).toNat<2^64:=(b%2305843009213693951).toNat_lt;obtain⟨r,h1,h2⟩:=AiR 64 (a%2305843009213693951) (b%2305843009213693951) 0 hb (by decide);have hr:r=Aem a b:=Zn (by
  rw[h2,XY,UInt64.toNat_mod,UInt64.toNat_mod,litP];simp only[UInt64.toNat_zero,AoA];rw[<-Nat.mul_mod])
 unfold Ku;rw[D8 _ h1 (by omega),Aa,Aa,hr]
theorem AfE (a:UInt64)(n:Nat)(hn:n<=1000): ∀(k i:Nat) (x:UInt64),i+k=n->x.toNat=a.toNat^i%FP->∃y,iter (Gf a (n:Int)) (k+1) (x,(i:Int))=some y/\y.toNat=a.toNat^n%FP:=by
 intro k;induction k with
 |zero=>
  intro i x h hx;refine⟨x,Bo ?_,by rw[hx,show i=n from by omega]⟩;unfold Gf;rw[AnW (by simp; omega)]
 |succ k ih=>
  intro i x h hx;have hw:w64 ((i:Int)+1)=((i+1:Nat):Int):=by rw[A7 (by omega) (by omega)]; omega
  obtain⟨y,h1,h2⟩:=ih (i+1) (Aem x a) (by omega) (by rw[XY,hx,Nat.mod_mul_mod,Nat.pow_succ]);refine⟨y,?_,h2⟩;rw[AH (s':=(Aem x a,((i+1:Nat):Int)))]
  ·exact h1
  ·unfold Gf;rw[AnT (by simp; omega),AiS,Aa];simp only[hw]
theorem Wg (a:UInt64)(n:Nat)(hn:n<=1000): ∃y,C1 a (n:Int)=some y/\y.toNat=a.toNat^n%FP:=by
 obtain⟨y,h1,h2⟩:=AfE a n hn n 0 1 (by omega) (by simp);have h1':=D8 _ h1 (by omega);refine⟨y,?_,h2⟩;unfold C1;rw[show((0:Int))=((0:Nat):Int)from rfl,h1',Aa,Aa]
theorem UE {a:UInt64}:C1 a 17=some (Tl a):=by
 obtain⟨y,h1,h2⟩:=Wg a 17 (by omega);have:y=Tl a:=Zn (by rw[h2,Aiy]);rw[<-this]; exact h1
theorem Ag0 {r i:Nat}(hr:r<8)(hi:i<3):(Ab (C1 (toU (w64 ((w64 ((w64 (3*(r:Int)))+(i:Int)))+1))) 3) λx4=>De x4 7)=some (Vr (r:Int) (i:Int)):=by
 have hw:w64 ((w64 ((w64 (3*(r:Int)))+(i:Int)))+1)=((3*r+i+1:Nat):Int):=by
  rw[A7 (n:=3*(r:Int)) (by omega) (by omega),A7 (n:=3*(r:Int)+(i:Int)) (by omega) (by omega),A7 (by omega) (by omega)]; omega
 have hN:(toU ((3*r+i+1:Nat):Int)).toNat=3*r+i+1:=I2 (by omega);unfold Vr;rw[hw];generalize toU ((3*r+i+1:Nat):Int)=N at*;obtain⟨y,h1,h2⟩:=Wg N 3 (by omega);have h1':C1 N 3=some y:=h1;rw[h1',Aa,DD];refine Aos some (Zn ?_);have hle:N.toNat<=24:=by omega
 have h2':N.toNat*N.toNat<=24*24:=Nat.mul_le_mul hle hle;have h3':N.toNat*N.toNat*N.toNat<=24*24*24:=Nat.mul_le_mul h2' hle;have e3:N.toNat^3=N.toNat*N.toNat*N.toNat:=by rw[Nat.pow_succ,Nat.pow_two]
 dsimp only;rw[MO,h2,e3,UInt64.toNat_add,UInt64.toNat_mul,UInt64.toNat_mul,show(7:UInt64).toNat=7 from rfl];have e4:N.toNat*N.toNat%2^64=N.toNat*N.toNat:=Aop (by omega);rw[e4];clear e4 e3 h2 h1 h1' hw hN;generalize N.toNat*N.toNat*N.toNat=z at*;rw[Aop (show z<2^64 by omega),Aop (show z<FP by simp only[FP]; omega),Aop (show z<FP by simp only[FP]; omega),Aop (show 7<FP by decide),Aop (show z+7<FP by simp only[FP]; omega),Aop (show z+7<2^64 by omega)]
theorem P7 {α β γ:Type}(x:Option α)(f:α->Option β)(g:β->Option γ):Ab x (λa=>Ab (f a) g)=Ab (Ab x f) g:=by cases x<;>rfl
theorem XR {s:UInt64×UInt64×UInt64}{r:Nat}(hr:r<8)(a b c:UInt64):
  CM s (r:Int) (0,a,b,c)=some (.inl (1,Tl (DA s.1 (Vr r 0)),b,c))/\
  CM s (r:Int) (1,a,b,c)=some (.inl (2,a,Tl (DA s.2.1 (Vr r 1)),c))/\
  CM s (r:Int) (2,a,b,c)=some (.inl (3,a,b,Tl (DA s.2.2 (Vr r 2)))):=by
 have c0:=Ag0 hr (i:=0) (by omega);have c1:=Ag0 hr (i:=1) (by omega);have c2:=Ag0 hr (i:=2) (by omega);refine⟨?_,?_,?_⟩
 ·unfold CM;dsimp only;rw[AnT (by simp),P7,show((0:Nat):Int)=0 from rfl]at*;rw[c0,Aa,show idx [s.1,s.2.1,s.2.2] 0=some s.1 from rfl,Aa,DD,Aa,UE,Aa,show idx [a,b,c] 0=some a from rfl,Aa];simp[Bd,w64]
 ·unfold CM;dsimp only;rw[AnT (by simp),P7,show((1:Nat):Int)=1 from rfl]at*;rw[c1,Aa,show idx [s.1,s.2.1,s.2.2] 1=some s.2.1 from rfl,Aa,DD,Aa,UE,Aa,show idx [a,b,c] 1=some b from rfl,Aa];simp[Bd,w64]
 ·unfold CM;dsimp only;rw[AnT (by simp),P7,show((2:Nat):Int)=2 from rfl]at*;rw[c2,Aa,show idx [s.1,s.2.1,s.2.2] 2=some s.2.2 from rfl,Aa,DD,Aa,UE,Aa,show idx [a,b,c] 2=some c from rfl,Aa];simp[Bd,w64]
theorem padd3 (x y z:UInt64):DA (DA (DA 0 x) y) z=DA (DA x y) z:=Zn (by
 simp only[MO,UInt64.toNat_zero];simp only[FP];omega)
theorem XQ (x:UInt64)(a b c:UInt64):
  CL x (0,a,b,c)=some (.inl (1,DA a x,b,c))/\CL x (1,a,b,c)=some (.inl (2,a,DA b x,c))/\CL x (2,a,b,c)=some (.inl (3,a,b,DA c x)):=by
 refine⟨?_,?_,?_⟩
 ·unfold CL;dsimp only;rw[AnT (by simp),show idx [a,b,c] 0=some a from rfl,Aa,DD,Aa,Aa]; simp[Bd,w64]
 ·unfold CL;dsimp only;rw[AnT (by simp),show idx [a,b,c] 1=some b from rfl,Aa,DD,Aa,Aa]; simp[Bd,w64]
 ·unfold CL;dsimp only;rw[AnT (by simp),show idx [a,b,c] 2=some c from rfl,Aa,DD,Aa,Aa]; simp[Bd,w64]
theorem Ais {r:Nat}(hr:r<8)(s:UInt64×UInt64×UInt64):H4 s (r:Int)=some (K6 (r:Int) s):=by
 have h4:iter (CM s (r:Int)) 4 (0,0,0,0)=some (Tl (DA s.1 (Vr r 0)),Tl (DA s.2.1 (Vr r 1)),Tl (DA s.2.2 (Vr r 2))):=by
  rw[AH (XR hr 0 0 0).1,AH (XR hr _ 0 0).2.1,AH (XR hr _ _ 0).2.2];exact Bo rfl
 have h5: ∀x a b c:UInt64,iter (CL x) 4 (0,a,b,c)=some (DA a x,DA b x,DA c x):=λx a b c=>by
  rw[AH (XQ x a b c).1,AH (XQ x _ b c).2.1,AH (XQ x _ _ c).2.2];exact Bo rfl
 unfold H4;rw[D8 _ h4 (by omega),Aa,Aa,DD,Aa,DD,Aa,D8 _ (h5 _ _ _ _) (by omega),Aa,Aa];unfold K6 pall;rw[padd3]
theorem K7 (s:UInt64×UInt64×UInt64){r:Nat}(hr:r<8):IS ((r:Int),s.1,s.2.1,s.2.2)=some (.inl (((r+1:Nat):Int),(K6 (r:Int) s).1,(K6 (r:Int) s).2.1,(K6 (r:Int) s).2.2)):=by
 have hw:w64 ((r:Int)+1)=((r+1:Nat):Int):=by rw[A7 (by omega) (by omega)]; omega
 unfold IS;rw[AnT (by simp; omega),Ais hr,Aa];simp only[hw]
theorem Q7 (s:UInt64×UInt64×UInt64):Ks s=some (P5 s):=by
 have h:iter IS 9 (((0:Nat):Int),s.1,s.2.1,s.2.2)=some (P5 s):=by
  rw[AH (K7 s (by omega)),AH (K7 _ (by omega)),AH (K7 _ (by omega)),AH (K7 _ (by omega)),AH (K7 _ (by omega)),AH (K7 _ (by omega)),AH (K7 _ (by omega)),AH (K7 _ (by omega))];exact Bo rfl
 unfold Ks;rw[show((0:Int))=((0:Nat):Int)from rfl,D8 _ h (by omega),Aa,Aa]
theorem or_shl {s:UInt64}{b:UInt8}{i:Nat}(hi:i<7)(hs:s.toNat<256^i)(u:UInt64)(hu:u.toNat=256^i):
  s|||K5 (toU (b.toNat:Int)) (8*i)=s+u*(toU (b.toNat:Int))/\(s+u*(toU (b.toNat:Int))).toNat<256^ (i+1):=by
 have hb:=b.toNat_lt;have e1:(toU (b.toNat:Int)).toNat=b.toNat:=I2 (by omega);have e2:(2:Nat)^ (8*i)=256^i:=by rw[Nat.pow_mul]
 have hpow:256^i<=256^6:=Nat.pow_le_pow_right (by omega) (by omega);have hpos:0<256^i:=Nat.pow_pos (by omega);have e256:(256:Nat)^6=281474976710656:=by decide
 have hmul:256^i*b.toNat<=256^i*255:=Nat.mul_le_mul_left _ (by omega);have esh:(K5 (toU (b.toNat:Int)) (8*i)).toNat=256^i*b.toNat:=by
  unfold K5;rw[e1,Nat.min_eq_left (by omega),show(b.toNat:Int)*2^ (8*i)=((256^i*b.toNat:Nat):Int)from by
   rw[<-e2,AoV]; simp[AoV,Int.mul_comm]]
  exact I2 (by omega)
 have ese:(u*(toU (b.toNat:Int))).toNat=256^i*b.toNat:=by
  rw[UInt64.toNat_mul,e1,hu]; omega
 have eadd:(s+u*(toU (b.toNat:Int))).toNat=s.toNat+256^i*b.toNat:=by
  rw[UInt64.toNat_add,ese]; omega
 refine⟨Zn ?_,?_⟩
 ·rw[eadd,UInt64.toNat_or,esh,Nat.or_comm,<-e2,<-Nat.two_pow_add_eq_or_of_lt (by rw[e2]; exact hs)]; omega
 ·rw[eadd,Nat.pow_succ]; omega
theorem of2_it (a0:List UInt8)(hb:a0.length<=1000000)(st:(List UInt64)×Int)(i:Nat)(hi:st.2=(i:Int))(hi2:i<=1000000):
  ∀(l:List UInt8) (k:Nat) (s u:UInt64),k+l.length<=7->((a0.drop i).take 7).drop k=l->((a0.drop i).take 7).length=k+l.length->s.toNat<256^k->(k<7->u.toNat=256^k)->
   iter (JU a0 st) (l.length+1) (s,u,((i+k:Nat):Int))=some (ple l k s):=by
 intro l;induction l with
 |nil=>
  intro k s u h1 h2 h3 hs hu;refine Bo ?_;have hw:w64 ((i:Int)+7)=((i+7:Nat):Int):=by rw[A7 (by omega) (by omega)]; omega
  simp only[Aod,AoF,Aob]at h3;unfold JU;dsimp only;rw[hi,hw,AnW (by simp; omega)];rfl
 |cons b l ih=>
  intro k s u h1 h2 h3 hs hu;have hw:w64 ((i:Int)+7)=((i+7:Nat):Int):=by rw[A7 (by omega) (by omega)]; omega
  have hw1:w64 (((i+k:Nat):Int)+1)=((i+(k+1):Nat):Int):=by rw[A7 (by omega) (by omega)]; omega
  simp only[AnR]at h1 h3;have h3':=h3;simp only[Aod,AoF]at h3';have hx:a0[i+k]? =some b:=by
   have:(((a0.drop i).take 7).drop k)[0]? =some b:=by rw[h2]; rfl
   rw[List.getElem?_drop,List.getElem?_take_of_lt (by omega),List.getElem?_drop]at this;simpa using this
  obtain⟨o1,o2⟩:=or_shl (b:=b) (show k<7 by omega) hs u (hu (by omega));rw[AnR,AH (s':=(s+u*(toU (b.toNat:Int)),u*256,((i+(k+1):Nat):Int)))]
  ·have hd:((a0.drop i).take 7).drop (k+1)=l:=by rw[<-AoP,h2]; rfl
   rw[ih (k+1) _ (u*256) (by omega) hd (by omega) o2 (λhk=>by
    rw[UInt64.toNat_mul,hu (by omega),show(256:UInt64).toNat=256 from rfl,Nat.pow_succ];have:256^k<=256^6:=Nat.pow_le_pow_right (by omega) (by omega);have e256:(256:Nat)^6=281474976710656:=by decide
    omega)]
   rw[ple,o1]
  ·unfold JU;dsimp only;rw[hi,hw,AnT (by simp; omega),Cm hx,Aa,Bd];simp only[hw1]
theorem of1_it (a0:List UInt8)(hb:a0.length<=900000): ∀(n i:Nat) (out:List UInt64),a0.length<=i+n->i<=900007->out.length+n<=1000000->
  iter (H5 a0) (n+1) (out,(i:Int))=some (out++pof n (a0.drop i)):=by
 intro n;induction n with
 |zero=>
  intro i out h _ _;have:a0.drop i=[]:=Aog (by omega);refine Bo ?_;unfold H5;rw[AnW (by simp; omega),this]; simp[pof]
 |succ n ih=>
  intro i out h hi ho;by_cases hlt:i<a0.length
  ·obtain⟨b,l,hl⟩: ∃b l,a0.drop i=b::l:=⟨a0[i],a0.drop (i+1),List.drop_eq_getElem_cons hlt⟩;have hw:w64 ((i:Int)+7)=((i+7:Nat):Int):=by rw[A7 (by omega) (by omega)]; omega
   have h2:=of2_it a0 (by omega) (out,(i:Int)) i rfl (by omega) ((a0.drop i).take 7) 0 0 1 (by simp; omega) (by simp) (by simp) (by decide) (λ_=>by decide);have h2':=D8 _ h2 (by simp; omega);rw[AoT]at h2';rw[AH (s':=(out++[ple ((a0.drop i).take 7) 0 0],((i+7:Nat):Int)))]
   ·rw[ih (i+7) _ (by omega) (by omega) (by simp; omega),hl];simp only[pof];rw[<-hl,AoP];simp
   ·unfold H5;dsimp only;rw[AnT (by simp; omega),h2',Aa,Aa,GY 8 (by simp; omega) (by simp; omega),Aa];simp only[hw]
  ·have:a0.drop i=[]:=Aog (by omega);refine Bo ?_;unfold H5;rw[AnW (by simp; omega),this]; simp[pof]
theorem Amq (a0:List UInt8)(hb:a0.length<=900000):LY a0=some (pof a0.length a0):=by
 have h:=of1_it a0 hb a0.length 0 [] (by omega) (by omega) (by simp; omega);have h':=D8 _ h (by omega);unfold LY;rw[show((0:Int))=((0:Nat):Int)from rfl,h',Aa,Aa];simp
theorem Ah9 (l:List UInt64)(hl:l.length<=1000000): ∀(n i:Nat) (s:UInt64×UInt64×UInt64),l.length<=i+n->1<=i->i<=1000002->
  iter (Cp l) (n+1) ((i:Int),s.1,s.2.1,s.2.2)=some (IA n (l.drop i) s):=by
 intro n;induction n with
 |zero=>
  intro i s h h1 _;have:l.drop i=[]:=Aog (by omega);refine Bo ?_;unfold Cp;rw[AnW (by simp; omega),this]; simp[IA]
 |succ n ih=>
  intro i s h h1 h2;by_cases hlt:i<l.length
  ·have hw:w64 ((i:Int)+1)=((i+1:Nat):Int):=by rw[A7 (by omega) (by omega)]; omega
   have hw2:w64 ((i:Int)+2)=((i+2:Nat):Int):=by rw[A7 (by omega) (by omega)]; omega
   have hx:idx l (i:Int)=some l[i]:=Cm (by simp[hlt]);by_cases hlt2:i+1<l.length
   ·have hy:idx l ((i+1:Nat):Int)=some l[i+1]:=Cm (by simp[hlt2]);have hd:l.drop i=l[i]::l[i+1]::l.drop (i+2):=by rw[List.drop_eq_getElem_cons hlt,List.drop_eq_getElem_cons hlt2]
    rw[AH (s':=(((i+2:Nat):Int),(P5 (DA s.1 l[i],DA s.2.1 l[i+1],s.2.2)).1,(P5 (DA s.1 l[i],DA s.2.1 l[i+1],s.2.2)).2.1,(P5 (DA s.1 l[i],DA s.2.1 l[i+1],s.2.2)).2.2))]
    ·rw[ih (i+2) (P5 (DA s.1 l[i],DA s.2.1 l[i+1],s.2.2)) (by omega) (by omega) (by omega),hd]; rfl
    ·unfold Cp;dsimp only;rw[AnT (by simp; omega),AnT (by simp; omega),hx,Aa,DD,Aa,Aa,hw,AnT (by simp; omega),hy,Aa,DD,Aa,Aa,Q7,Aa];simp only[hw2]
   ·have hd:l.drop i=[l[i]]:=by rw[List.drop_eq_getElem_cons hlt,Aog (by omega)]
    rw[AH (s':=(((i+2:Nat):Int),(P5 (DA s.1 l[i],s.2.1,s.2.2)).1,(P5 (DA s.1 l[i],s.2.1,s.2.2)).2.1,(P5 (DA s.1 l[i],s.2.1,s.2.2)).2.2))]
    ·rw[ih (i+2) (P5 (DA s.1 l[i],s.2.1,s.2.2)) (by omega) (by omega) (by omega),hd,Aog (by omega)];cases n<;>simp[IA]
    ·unfold Cp;dsimp only;rw[AnT (by simp; omega),AnT (by simp; omega),hx,Aa,DD,Aa,Aa,hw,AnW (by simp; omega),Aa,Q7,Aa];simp only[hw2]
  ·have:l.drop i=[]:=Aog (by omega);refine Bo ?_;unfold Cp;rw[AnW (by simp; omega),this]; simp[IA]
theorem AfH: ∀(n k:Nat) (l:List UInt64) (s:UInt64×UInt64×UInt64),l.length<=n->l.length<=k->IA n l s=IA k l s:=by
 intro n;induction n with
 |zero=>intro k l s h _; have:l=[]:=List.eq_nil_of_length_eq_zero (by omega); subst this; simp[IA]
 |succ n ih=>
  intro k l s h hk;match l,k,h,hk with
  | [],k,_,_=>cases k<;>simp[IA]
  | [x],k+1,_,_=>simp[IA]
  |x::y::l,k+1,h,hk=>simp only[IA]; exact ih k l _ (by simp at h; omega) (by simp at hk; omega)
theorem Aia (b:List UInt8)(hb:b.length<=900000):M7 b=some (AmW b):=by
 have hl:=AfO b.length b;unfold M7;rw[Amq b hb,Aa];have hk:AmW b=((Aen (pof b.length b) (0,0,toU (b.length:Int))).1,(Aen (pof b.length b) (0,0,toU (b.length:Int))).2.1):=rfl;rw[hk];clear hk;generalize pof b.length b=l at*;have h:iter (Cp l) (l.length+2) (0,0,0,toU (b.length:Int))=some (Aen l (0,0,toU (b.length:Int))):=by
  match l,hl with
  | [],hl=>
   rw[show([]:List UInt64).length+2=1+1 from rfl,AH (s':=(((2:Nat):Int),(P5 (0,0,toU (b.length:Int))).1,(P5 (0,0,toU (b.length:Int))).2.1,(P5 (0,0,toU (b.length:Int))).2.2))]
   ·exact Bo rfl
   ·unfold Cp;dsimp only;rw[AnT (by simp),AnW (by simp),Aa,AnW (by rw[A7 (by omega) (by omega)]; simp),Aa,Q7,Aa]; rfl
  | [x],hl=>
   rw[show [x].length+2=2+1 from rfl,AH (s':=(((2:Nat):Int),(P5 (DA 0 x,0,toU (b.length:Int))).1,(P5 (DA 0 x,0,toU (b.length:Int))).2.1,(P5 (DA 0 x,0,toU (b.length:Int))).2.2))]
   ·exact Bo rfl
   ·have e:idx [x] 0=some x:=rfl;unfold Cp;dsimp only;rw[AnT (by simp),AnT (by simp),e,Aa,DD,Aa,Aa,AnW (by rw[A7 (by omega) (by omega)]; simp),Aa,Q7,Aa]; rfl
  |x::y::l,hl=>
   rw[AH (s':=(((2:Nat):Int),(P5 (DA 0 x,DA 0 y,toU (b.length:Int))).1,(P5 (DA 0 x,DA 0 y,toU (b.length:Int))).2.1,(P5 (DA 0 x,DA 0 y,toU (b.length:Int))).2.2))]
   ·rw[Ah9 (x::y::l) (by simp at hl⊢; omega) _ 2 _ (by simp) (by omega) (by omega)];refine Aos some ?_;simp only[List.drop_succ_cons,List.drop_zero,Aen,AnR,IA];exact AfH _ _ _ _ (by omega) (by omega)
   ·have e:idx (x::y::l) 0=some x:=rfl;have e1:idx (x::y::l) (w64 (0+1))=some y:=rfl;unfold Cp;dsimp only;rw[AnT (by simp),AnT (by simp; omega),e,Aa,DD,Aa,Aa,AnT (by rw[show w64 (0+1)=1 from rfl]; simp; omega),e1,Aa,DD,Aa,Aa,Q7,Aa]; rfl
 rw[D8 _ h (by omega),Aa,Aa]
theorem AjJ (n:UInt64): ∀(k:Nat) (b:List UInt8),k<=8->b.length+k<=1000000->iter (G8 n) (k+1) (b,(k:Int)-1)=some (b++Px k n):=by
 intro k;induction k with
 |zero=>intro b _ _; refine Bo ?_; unfold G8; rw[AnW (by simp)]; simp[Px]
 |succ k ih=>
  intro b hk hb;have hw:w64 (8*(((k+1:Nat):Int)-1))=((8*k:Nat):Int):=by rw[A7 (by omega) (by omega)]; omega
  have hw2:w64 ((((k+1:Nat):Int)-1)-1)=(k:Int)-1:=by rw[A7 (by omega) (by omega)]; omega
  rw[AH (s':=(b++[toB ((DL n (8*k)).toNat:Int)],(k:Int)-1))]
  ·rw[ih _ (by omega) (by simp; omega)]; simp[Px]
  ·unfold G8;dsimp only;rw[hw,hw2,I2 (by omega),AnT (An1 (by omega)),GY 1 (by simp; omega) (by simp; omega),Aa]
theorem Ys (n:UInt64):EV n=some (Px 8 n):=by
 have h:=D8 _ (AjJ n 8 [] (by omega) (by simp)) (by omega);unfold EV;rw[show(7:Int)=((8:Nat):Int)-1 from rfl,h,Aa,Aa]; rfl
theorem AjV (ps:List (List UInt8)): ∀(n i:Nat) (b:List UInt8),i+n=ps.length->i<=1000000->ps.length<=1000000->b.length+AfP (ps.drop i)<=800000->iter (G9 ps) (n+1) (b,(i:Int))=some (AdP b (ps.drop i)):=by
 intro n;induction n with
 |zero=>
  intro i b h _ _ _;have:ps.drop i=[]:=Aog (by omega);refine Bo ?_;unfold G9;rw[AnW (by simp; omega),this]; rfl
 |succ n ih=>
  intro i b h hi hps hb;have hlt:i<ps.length:=by omega
  have hx:idx ps (i:Int)=some ps[i]:=Cm (by simp[hlt]);have hd:ps.drop i=ps[i]::ps.drop (i+1):=List.drop_eq_getElem_cons hlt;have hw:w64 ((i:Int)+1)=((i+1:Nat):Int):=by rw[A7 (by omega) (by omega)]; omega
  rw[hd]at hb⊢;simp only[AfP]at hb;have hc:cut (Px 8 (toU (ps[i].length:Int))) 4 ((Px 8 (toU (ps[i].length:Int))).length:Int)=some (Px 4 (toU (ps[i].length:Int))):=by
   rw[DR];have:=Aar (xs:=Px 8 (toU (ps[i].length:Int))) (lo:=4) (hi:=8) (by omega) (by rw[DR]; omega);rw[show((4:Nat):Int)=4 from rfl]at this;rw[this]; rfl
  rw[AH (s':=(b++Px 4 (toU (ps[i].length:Int))++ps[i],((i+1:Nat):Int)))]
  ·rw[ih (i+1) _ (by omega) (by omega) hps (by simp[DR]; omega)]; rfl
  ·unfold G9;dsimp only;rw[AnT (by simp; omega),hx,Aa,Ys,Aa,hc,Aa,GY 1 (by simp[DR]; omega) (by simp[DR]; omega),Aa,Aa,GY 1 (by simp[DR]; omega) (by simp[DR]; omega),Aa];simp only[hw]
theorem Aa6 (t:ByteArray)(ps:List (List UInt8))(h:t.data.toList.length+AfP ps<=700000)(hp:ps.length<=1000000):IQ t ps=some (ptag t ps):=by
 have hc:=AjV ps ps.length 0 (toB (t.size:Int)::t.data.toList) (by omega) (by omega) hp (by simp at h⊢; omega);have hc':=D8 _ hc (by omega);unfold IQ M9;rw[GY 1 (by simp at h⊢; omega) (by simp at h⊢; omega),Aa];rw[show((0:Int))=((0:Nat):Int)from rfl];rw[show [toB (t.size:Int)]++t.data.toList=toB (t.size:Int)::t.data.toList from rfl,hc',Aa,Aa,Aa];rw[Aia _ (by rw[ZK]; simp at h⊢; omega),Aa];rfl
theorem AcA {a b m:UInt64}(hm:m.toNat<=4611686018427387904)(ha:a.toNat<m.toNat)(hb:b.toNat<m.toNat):
  (if(decide ((a.toNat:Int)>=((m-b).toNat:Int)))=true then some (a-(m-b))else some (a+b))=some (Alo m a b):=by
 have h1:(m-b).toNat=m.toNat-b.toNat:=by rw[UInt64.toNat_sub_of_le]; exact UInt64.le_iff_toNat_le.2 (Nat.le_of_lt hb)
 by_cases h:m.toNat-b.toNat<=a.toNat
 ·have h2:(a-(m-b)).toNat=a.toNat-(m.toNat-b.toNat):=by rw[UInt64.toNat_sub_of_le,h1]; exact UInt64.le_iff_toNat_le.2 (by omega)
  rw[AnT (by rw[h1]; simpa using h)];congr 1;refine SC ?_;rw[h2,show a.toNat+b.toNat=(a.toNat-(m.toNat-b.toNat))+m.toNat from by omega,Nat.add_mod_right,Aop (by omega)]
 ·rw[AnW (by rw[h1]; simpa using h)];congr 1;refine SC ?_;rw[UInt64.toNat_add,Aop (by omega),Aop (by omega)]
theorem Acg {a b m:UInt64}(hm:m.toNat<=4611686018427387904)(ha:a.toNat<m.toNat)(hb:b.toNat<m.toNat):M6 a b m=some (Alo m a b):=AcA hm ha hb
theorem ZH {a b m:UInt64}(hm:m.toNat<=4611686018427387904)(ha:a.toNat<m.toNat)(hb:b.toNat<m.toNat):Lh a b m=some (Alo m a b):=AcA hm ha hb
theorem OQ {y:UInt64}(h:0<y.toNat)(a b:UInt64):(Alo y a b).toNat=(a.toNat+b.toNat)%y.toNat:=UM _ h
theorem bit1 (x:UInt64){i:Nat}(hi:i<=63):((((DL x ((toU (i:Int)).toNat))&&&1).toNat:Int)==1)=decide (x.toNat/2^i%2=1):=by
 rw[I2 (by omega),UInt64.toNat_and,CT _ _ (by omega),show(1:UInt64).toNat=1 from rfl,Nat.and_one_is_mod,Aoq,Aou,AnV];omega
theorem Yu (n i:Nat):n/2^i=2*(n/2^ (i+1))+n/2^i%2:=by
 rw[Nat.pow_succ,<-Nat.div_div_eq_div_mul];omega
theorem AeM {A B C m r:Nat}(hr:r=A*B%m):(r+r)%m=A*(2*B)%m:=by
 rw[hr,<-Nat.add_mod,<-Nat.two_mul,Nat.mul_left_comm]
theorem Ah0 (a b:UInt64){m:UInt64}(hp:0<m.toNat)(hm:m.toNat<=4611686018427387904): ∀(j:Nat) (out:UInt64),j<=64->out.toNat=(a.toNat%m.toNat)*((b.toNat%m.toNat)/2^j)%m.toNat->
  ∃r,iter (DM a b m) (j+1) (out,(j:Int)-1)=some r/\r.toNat=(a.toNat%m.toNat)*(b.toNat%m.toNat)%m.toNat:=by
 intro j;induction j with
 |zero=>
  intro out _ ho;refine⟨out,Bo ?_,by rw[ho,Nat.pow_zero,Nat.div_one]⟩;unfold DM;rw[AnW (by simp)]
 |succ j ih=>
  intro out hj ho;have ham:(a%m).toNat=a.toNat%m.toNat:=UInt64.toNat_mod _ _;have hbm:(b%m).toNat=b.toNat%m.toNat:=UInt64.toNat_mod _ _;have hol:out.toNat<m.toNat:=by rw[ho]; exact AoR _ hp
  have hdl:(Alo m out out).toNat<m.toNat:=by rw[OQ hp]; exact AoR _ hp
  have hd:(Alo m out out).toNat=(a.toNat%m.toNat)*(2*((b.toNat%m.toNat)/2^ (j+1)))%m.toNat:=by
   rw[OQ hp]; exact AeM (C:=0) ho
  have hw:(((j+1:Nat):Int)-1)=(j:Int):=by omega
  have hw2:w64 ((j:Int)-1)=(j:Int)-1:=A7 (by omega) (by omega);have hst: ∃o,DM a b m (out,((j+1:Nat):Int)-1)=some (.inl (o,(j:Int)-1))/\o.toNat=(a.toNat%m.toNat)*((b.toNat%m.toNat)/2^j)%m.toNat:=by
   unfold DM;dsimp only;rw[hw,AnT (by simp),Acg hm hol hol,Aa,bit1 _ (by omega),hbm,hw2];by_cases hb:(b.toNat%m.toNat)/2^j%2=1
   ·rw[AnT (by simpa using hb),Acg hm hdl (by rw[ham]; exact AoR _ hp),Aa,Aa];refine⟨_,rfl,?_⟩;rw[OQ hp,hd,ham,Nat.mod_add_mod,Yu _ j,hb,Nat.mul_add,Nat.mul_one]
   ·rw[AnW (by simpa using hb),Aa];refine⟨_,rfl,?_⟩;have hdt:=Yu (b.toNat%m.toNat) j;rw[show(b.toNat%m.toNat)/2^j%2=0 from by omega,AoT]at hdt;rw[hd,hdt]
  obtain⟨o,e1,e2⟩:=hst;obtain⟨r,e3,e4⟩:=ih o (by omega) e2;exact⟨r,by rw[AH e1]; exact e3,e4⟩
theorem XF (a b:UInt64){m:UInt64}(hp:0<m.toNat)(hm:m.toNat<=4611686018427387904):ET a b m=some (Vs m a b):=by
 have hne:m≠0:=λe=>by rw[e]at hp; simp at hp
 have hbl:b.toNat%m.toNat<2^64:=AoU (AoR _ hp) (by omega);obtain⟨r,e1,e2⟩:=Ah0 a b hp hm 64 0 (by omega) (by rw[Nat.div_eq_of_lt hbl,Nat.mul_zero,Nat.zero_mod]; rfl);have e1':iter (DM a b m) AY (0,63)=some r:=D8 _ e1 (by omega);unfold ET;rw[AnT hne,AnT hne,e1',Aa,Aa];rw[<-Nat.mul_mod]at e2;rw[SC e2]; rfl
theorem AiC (a n:UInt64){m:UInt64}(hp:0<m.toNat)(hm:m.toNat<=4611686018427387904): ∀(j:Nat) (out:UInt64),j<=64->out.toNat=a.toNat^ (n.toNat/2^j)%m.toNat->
  ∃r,iter (DN a n m) (j+1) (out,(j:Int)-1)=some r/\r.toNat=a.toNat^n.toNat%m.toNat:=by
 intro j;induction j with
 |zero=>
  intro out _ ho;refine⟨out,Bo ?_,by rw[ho,Nat.pow_zero,Nat.div_one]⟩;unfold DN;rw[AnW (by simp)]
 |succ j ih=>
  intro out hj ho;have hd:(Vs m out out).toNat=a.toNat^ (2*(n.toNat/2^ (j+1)))%m.toNat:=by
   have:(Vs m out out).toNat=(out.toNat*out.toNat)%m.toNat:=UM _ hp;rw[this,ho,<-Nat.mul_mod,<-Nat.pow_add,<-Nat.two_mul]
  have hw:(((j+1:Nat):Int)-1)=(j:Int):=by omega
  have hw2:w64 ((j:Int)-1)=(j:Int)-1:=A7 (by omega) (by omega);have hst: ∃o,DN a n m (out,((j+1:Nat):Int)-1)=some (.inl (o,(j:Int)-1))/\o.toNat=a.toNat^ (n.toNat/2^j)%m.toNat:=by
   unfold DN;dsimp only;rw[hw,AnT (by simp),XF _ _ hp hm,Aa,bit1 _ (by omega),hw2];by_cases hb:n.toNat/2^j%2=1
   ·rw[AnT (by simpa using hb),XF _ _ hp hm,Aa,Aa];refine⟨_,rfl,?_⟩;have:(Vs m (Vs m out out) a).toNat=((Vs m out out).toNat*a.toNat)%m.toNat:=UM _ hp;have hdt:=Yu n.toNat j;rw[hb]at hdt;rw[this,hd,Nat.mod_mul_mod,<-Nat.pow_succ,hdt]
   ·rw[AnW (by simpa using hb),Aa];have hdt:=Yu n.toNat j;rw[show n.toNat/2^j%2=0 from by omega,AoT]at hdt;refine⟨_,rfl,?_⟩;rw[hd,hdt]
  obtain⟨o,e1,e2⟩:=hst;obtain⟨r,e3,e4⟩:=ih o (by omega) e2;exact⟨r,by rw[AH e1]; exact e3,e4⟩
theorem O1 (a n:UInt64){m:UInt64}(hp:1<m.toNat)(hm:m.toNat<=4611686018427387904):EU a n m=some (UF m a n):=by
 have hnl:n.toNat<2^64:=n.toNat_lt;obtain⟨r,e1,e2⟩:=AiC a n (by omega) hm 64 1 (by omega) (by rw[Nat.div_eq_of_lt hnl,Nat.pow_zero,Aop hp]; rfl);have e1':iter (DN a n m) AY (1,63)=some r:=D8 _ e1 (by omega);unfold EU;rw[e1',Aa,Aa,SC e2]; rfl
theorem Ahs (n:UInt64):Ht n=some (pubK n):=by
 unfold Ht;rw[O1 _ _ (by decide) (by decide),Aa]; rfl
theorem AiH (s:UInt64){m:UInt64}(hp:0<m.toNat)(hm:m.toNat<=4611686018427387904): ∀(k i:Nat) (x:UInt64),i+k=61->x.toNat=s.toNat*2^i%m.toNat->∃r,iter (GM m) (k+1) (x,(i:Int))=some r/\r.toNat=s.toNat*2^61%m.toNat:=by
 intro k;induction k with
 |zero=>
  intro i x hi hx;obtain rfl:i=61:=by omega
  exact⟨x,Bo (by unfold GM; rw[AnW (by simp)]),hx⟩
 |succ k ih=>
  intro i x hi hx;have hxl:x.toNat<m.toNat:=by rw[hx]; exact AoR _ hp
  have hn:(Alo m x x).toNat=s.toNat*2^ (i+1)%m.toNat:=by
   rw[OQ hp,hx,<-Nat.add_mod,<-Nat.two_mul,Nat.mul_left_comm,Nat.pow_succ,AoV 2]
  obtain⟨r,e1,e2⟩:=ih (i+1) _ (by omega) hn;refine⟨r,?_,e2⟩;rw[AH (s':=(Alo m x x,((i+1:Nat):Int)))]
  ·exact e1
  ·unfold GM;dsimp only;rw[AnT (by simp; omega),ZH hm hxl hxl,Aa,AhX (by omega)]
theorem AiI {y:UInt64}(h:Dv y)(hm:y.toNat<=4611686018427387904)(s:UInt64×UInt64):M8 s y=some (numM s y):=by
 have hp:=h.pos;have hne:y≠0:=λe=>by rw[e]at hp; simp at hp
 obtain⟨r,e1,e2⟩:=AiH s.1 hp hm 61 0 (s.1%y) (by omega) (by rw[UInt64.toNat_mod,Nat.pow_zero,Nat.mul_one]);have e1':iter (GM y) AY (s.1%y,0)=some r:=D8 _ e1 (by omega);have hr:r.toNat<y.toNat:=by rw[e2]; exact AoR _ hp
 have h2:(s.2%y).toNat=s.2.toNat%y.toNat:=UInt64.toNat_mod _ _;unfold M8;rw[AnW (by rw[Aou]; omega),AnT hne,e1',Aa,Aa,AnT hne,ZH hm hr (by rw[h2]; exact AoR _ hp),Aa];congr 1;refine SC ?_;rw[OQ hp,h2,e2,<-Nat.add_mod]
theorem Aed (s:UInt64×UInt64):JT s=some (Wi s):=by
 unfold JT;rw[Ys,Aa,Ys,Aa,GY 1 (by simp[DR]) (by simp[DR]),Aa]; rfl
theorem AeL {a b:Int}(h:a%256=b%256):toB a=toB b:=by unfold toB; rw[h]
theorem Qn (n:UInt64):(n/256).toNat=n.toNat/256:=by rw[UInt64.toNat_div]; rfl
theorem Ad2 (n:UInt64):iter Js 9 (n,7,List.replicate 8 (0:UInt8))=some [toB ((n/256/256/256/256/256/256/256%256).toNat:Int),toB ((n/256/256/256/256/256/256%256).toNat:Int),toB ((n/256/256/256/256/256%256).toNat:Int),toB ((n/256/256/256/256%256).toNat:Int),toB ((n/256/256/256%256).toNat:Int),toB ((n/256/256%256).toNat:Int),toB ((n/256%256).toNat:Int),toB ((n%256).toNat:Int)]:=by
 simp[iter,Js,idx,Bd,w64,List.replicate]
theorem Mr (n:UInt64):Dm n=some (Px 8 n):=by
 have h:=D8 _ (Ad2 n) (by omega);unfold Dm;rw[h,Aa,Aa];simp only[Px];congr 1;have key: ∀(k:Nat) (x:UInt64),k<=56->x.toNat=n.toNat/2^k->toB ((x%256).toNat:Int)=toB ((DL n k).toNat:Int):=by
  intro k x hk hx;refine AeL ?_;rw[CT _ _ (by omega),UInt64.toNat_mod,hx,show(256:UInt64).toNat=256 from rfl];omega
 rw[key 56 _ (by omega) (by simp only[Qn,Nat.div_div_eq_div_mul]),key 48 _ (by omega) (by simp only[Qn,Nat.div_div_eq_div_mul]),key 40 _ (by omega) (by simp only[Qn,Nat.div_div_eq_div_mul]),key 32 _ (by omega) (by simp only[Qn,Nat.div_div_eq_div_mul]),key 24 _ (by omega) (by simp only[Qn,Nat.div_div_eq_div_mul]),key 16 _ (by omega) (by simp only[Qn,Nat.div_div_eq_div_mul]),key 8 _ (by omega) (by simp only[Qn,Nat.div_div_eq_div_mul]),key 0 _ (by omega) (by simp)]
theorem VW (c p:UInt64){msg:List UInt8}(h:msg.length<=600000):Du c p msg=some (chal c p msg):=by
 unfold Du;rw[Mr,Aa,Mr,Aa,Aa6 _ _ (by simp[AfP,DR]; omega) (by simp),Aa,AiI dvR (by decide),Aa]; rfl
theorem Anp (n:Int):Px 8 (toU n)=e8 n:=by
 have key: ∀k:Nat,k<=56->toB ((DL (toU n) k).toNat:Int)=toB (A9 n k):=by
  intro k hk;refine AeL ?_;have h1:=Aa3 n;have h2:((DL (toU n) k).toNat:Int)=(n%18446744073709551616)/2^k:=by
   rw[CT _ _ (by omega),Int.natCast_ediv,h1]; simp
  rw[h2];unfold A9;rw[Nat.min_eq_left (by omega),Int.fdiv_eq_ediv_of_nonneg _ (by exact Int.le_of_lt (Int.pow_pos (by decide)))];obtain⟨c,hc⟩: ∃c:Nat,(18446744073709551616:Int)=2^k*(256*(c:Int)):=by
   refine⟨2^ (56-k),?_⟩;have:(18446744073709551616:Nat)=2^k*(256*2^ (56-k)):=by
    rw[Nat.mul_left_comm,<-Nat.pow_add,show k+(56-k)=56 from by omega]
   have h3:=Aos (λz:Nat=>(z:Int)) this;simpa using h3
  have hk0:(2:Int)^k≠0:=Int.ne_of_gt (Int.pow_pos (by decide));have e:n=(n%18446744073709551616)+2^k*(256*(c:Int)*(n/18446744073709551616)):=by
   have h4:n%18446744073709551616+18446744073709551616*(n/18446744073709551616)=n:=by omega
   conv=>lhs; rw[<-h4]
   conv=>lhs; arg 2; arg 1; rw[hc]
   rw[Int.mul_assoc]
  conv=>rhs; rw[e]
  rw[Int.add_mul_ediv_left _ _ hk0,Int.mul_assoc,Int.add_mul_emod_self_left]
 simp only[Px,e8];rw[key 56 (by omega),key 48 (by omega),key 40 (by omega),key 32 (by omega),key 24 (by omega),key 16 (by omega),key 8 (by omega),key 0 (by omega)]
theorem Z7 (p:g_api_Head):Gc p=some (Agw p):=by
 unfold Gc;rw[Mr,Aa,Anp,GY 1 (by simp[PE]) (by simp[PE]),Aa,Mr,Aa,Anp,GY 1 (by simp[PE]) (by simp[PE]),Aa,Aed,Aa,GY 1 (by simp[PE,J2]) (by simp[PE,J2]),Aa,Mr,Aa,Anp,GY 1 (by simp[PE,J2]) (by simp[PE,J2]),Aa];simp[Agw]
theorem Ajf {z e f:Nat}(h1:z*e%GQ=1)(h2:e*f%GQ=1):z%GQ=f%GQ:=by
 have h3:z*(e*f%GQ)%GQ=z%GQ:=by rw[h2,Nat.mul_one]
 have h4:z*e%GQ*f%GQ=f%GQ:=by rw[h1,Nat.one_mul]
 rw[Nat.mul_mod_mod,<-Nat.mul_assoc]at h3;rw[Nat.mod_mul_mod]at h4;rw[<-h3,h4]
theorem Amh (p:UInt64){msg:List UInt8}(s:g_api_Sig)(hm:msg.length<=600000):
  (Ab (Ht s.S) λx2=>Ab (Kq p (1152921504606845789-s.E)) λx3=>Ab (Kr x2 x3) λx4=>Ab (Du x4 p msg) λx5=>if((x5.toNat:Int) !=(s.E.toNat:Int))=true then some (40:Int)else some 0)
   =if(((chal (Vs 2305843009213691579 (pubK s.S) (UF 2305843009213691579 p (1152921504606845789-s.E))) p msg).toNat:Int) !=(s.E.toNat:Int))=true then some 40 else some 0:=by
 unfold Kq Kr;rw[Ahs,Aa,O1 _ _ (by decide) (by decide),Aa,Aa,XF _ _ (by decide) (by decide),Aa,Aa,VW _ _ hm,Aa]
theorem Acz (p z:UInt64){msg:List UInt8}(s:g_api_Sig)(hm:msg.length<=600000)(hz:EF (UF 2305843009213691579 p s.E)=some (z,0)):
  (Ab (DY p s.E) λx2=>Ab (EF x2) λx3=>Ab (gu (!(x3.2 !=0)) (DZ s.S)) λx4=>Ab (gu (!(x3.2 !=0)) (Je x4 x3.1)) λx5=>Ab (gu (!(x3.2 !=0)) (Dd x5 p msg)) λx6=>
   if((x3.2 !=0)||((x6.toNat:Int) !=(s.E.toNat:Int)))=true then some (40:Int)else some 0)
   =if(((chal (Vs 2305843009213691579 (pubK s.S) z) p msg).toNat:Int) !=(s.E.toNat:Int))=true then some 40 else some 0:=by
 have e1:((z,(0:Int)).2 !=0)=false:=rfl;unfold Je;rw[ZG,Aa,hz,Aa,e1,AoW,Am0,AnI,Aa,Am0,R0 dvQ,Aa,Aa,Am0];dsimp only;rw[show UF 2305843009213691579 4 s.S=pubK s.S from rfl,AnC _ _ hm,Aa,AoM]
theorem AiP {p z:UInt64}{e:Nat}(x:UInt64){E:UInt64}(hpow:p.toNat^gr%GQ=1)(hE:E.toNat<=gr)(hsub:(1152921504606845789-E:UInt64).toNat=gr-E.toNat)(hz:z.toNat*(UF 2305843009213691579 p E).toNat%GQ=1):
  Vs 2305843009213691579 x (UF 2305843009213691579 p (1152921504606845789-E))=Vs 2305843009213691579 x z:=by
 have hinv:(UF 2305843009213691579 p E).toNat*p.toNat^ (gr-E.toNat)%GQ=1:=by
  rw[TC]; exact Agp (k:=0) hpow hE
 have hzf:=Ajf hz hinv;refine Zn ?_;rw[TF dvQ,TF dvQ,show(2305843009213691579:UInt64).toNat=GQ from rfl,TC,hsub,Nat.mul_mod_mod,Nat.mul_mod,<-hzf,<-Nat.mul_mod]
theorem AkM {p E:UInt64}(hpow:p.toNat^gr%GQ=1)(hE:E.toNat<=gr): ∃z:UInt64,EF (UF 2305843009213691579 p E)=some (z,0)/\z.toNat*(UF 2305843009213691579 p E).toNat%GQ=1:=by
 have hinv:(UF 2305843009213691579 p E).toNat*p.toNat^ (gr-E.toNat)%GQ=1:=by
  rw[TC]; exact Agp (k:=0) hpow hE
 exact inv_eq hinv
theorem sub_gr {E:UInt64}(hE:E.toNat<1152921504606845789):(1152921504606845789-E:UInt64).toNat=gr-E.toNat:=by
 rw[UInt64.toNat_sub_of_le _ _ (UInt64.le_iff_toNat_le.2 (Nat.le_of_lt hE)),show(1152921504606845789:UInt64).toNat=gr from rfl]
theorem AmH {E:UInt64}(hE:E.toNat<1152921504606845789):E.toNat<=gr:=Nat.le_of_lt hE
theorem AkG {a b:UInt64}:decide (((Vt a b).toNat:Int)>=1152921504606845789)=(decide ((a.toNat:Int)>=1152921504606845789)||decide ((b.toNat:Int)>=1152921504606845789)):=by
 rw[Aoq,Aox,AnV,AnV,AnV];unfold Vt;split
 ·rename_i hlt;have:=UInt64.lt_iff_toNat_lt.1 hlt;omega
 ·rename_i hlt;have:=mt UInt64.lt_iff_toNat_lt.2 hlt;omega
theorem pow_one {p:UInt64}(h:((UF 2305843009213691579 p 1152921504606845789).toNat:Int)=1):p.toNat^gr%GQ=1:=by
 have h1:=TC p 1152921504606845789;rw[show(1152921504606845789:UInt64).toNat=gr from rfl]at h1;rw[<-h1];exact Int.ofNat.inj h
theorem Ahk {a b:UInt64}(h:(decide ((a.toNat:Int)>=1152921504606845789)||decide ((b.toNat:Int)>=1152921504606845789))=false):a.toNat<1152921504606845789:=by
 rw[Bool.or_eq_false_iff,decide_eq_false_iff_not]at h;have:=h.1;omega
theorem Afq {p:UInt64}{msg:List UInt8}(s:g_api_Sig)(hm:msg.length<=600000)(h1:((UF 2305843009213691579 p 1152921504606845789).toNat:Int)=1)(hE:s.E.toNat<1152921504606845789):
  (Ab (Ht s.S) λx2=>Ab (Kq p (1152921504606845789-s.E)) λx3=>Ab (Kr x2 x3) λx4=>Ab (Du x4 p msg) λx5=>if((x5.toNat:Int) !=(s.E.toNat:Int))=true then some (40:Int)else some 0)
   =(Ab (DY p s.E) λx2=>Ab (EF x2) λx3=>Ab (gu (!(x3.2 !=0)) (DZ s.S)) λx4=>Ab (gu (!(x3.2 !=0)) (Je x4 x3.1)) λx5=>Ab (gu (!(x3.2 !=0)) (Dd x5 p msg)) λx6=>
   if((x3.2 !=0)||((x6.toNat:Int) !=(s.E.toNat:Int)))=true then some (40:Int)else some 0):=by
 obtain⟨z,z1,z2⟩:=AkM (pow_one h1) (AmH hE);rw[Amh p s hm,Acz p z s hm z1,AiP (e:=0) _ (pow_one h1) (AmH hE) (sub_gr hE) z2]
theorem AkR (p:UInt64):Dy p=some (((decide ((p.toNat:Int)>0))&&(decide ((p.toNat:Int)<2305843009213691579)))&&(((UF 2305843009213691579 p 1152921504606845789).toNat:Int)==1)):=by
 unfold Dy;cases (decide ((p.toNat:Int)>0))&&(decide ((p.toNat:Int)<2305843009213691579))
 ·simp only[gu,cond_false,Aa,Bd,AoD]
 ·simp only[gu,cond_true,ZG,Aa,Bd,Aof]
theorem AmN (p:UInt64):IE p=some (((decide ((p.toNat:Int)>0))&&(decide ((p.toNat:Int)<2305843009213691579)))&&(((UF 2305843009213691579 p 1152921504606845789).toNat:Int)==1)):=by
 unfold IE;cases (decide ((p.toNat:Int)>0))&&(decide ((p.toNat:Int)<2305843009213691579))
 ·simp only[gu,cond_false,Aa,Bd,AoD]
 ·rw[O1 _ _ (by decide) (by decide)]; simp only[gu,cond_true,Aa,Bd,Aof]
theorem AkP {p:UInt64}(h:(((decide ((p.toNat:Int)>0))&&(decide ((p.toNat:Int)<2305843009213691579)))&&(((UF 2305843009213691579 p 1152921504606845789).toNat:Int)==1))=true):((UF 2305843009213691579 p 1152921504606845789).toNat:Int)=1:=by
 rw[AnP]at h;exact Aou.1 h.2
theorem Aea (p:UInt64){msg:List UInt8}(s:g_api_Sig)(hm:msg.length<=600000):JS p msg s=EB p msg s:=by
 unfold JS EB;rw[AkR,AmN,Aa,Aa,AkG];cases h1:((decide ((p.toNat:Int)>0))&&(decide ((p.toNat:Int)<2305843009213691579)))&&(((UF 2305843009213691579 p 1152921504606845789).toNat:Int)==1)with
 |false=>rw[AoW,AnT rfl,AnT rfl]
 |true=>
  rw[AoI,AnW Bool.false_ne_true,AnW Bool.false_ne_true];cases h2:(decide ((s.E.toNat:Int)>=1152921504606845789)||decide ((s.S.toNat:Int)>=1152921504606845789))with
  |true=>rw[AnT rfl,AnT rfl]
  |false=>rw[AnW Bool.false_ne_true,AnW Bool.false_ne_true,Afq s hm (AkP h1) (Ahk h2)]
theorem Ag9 (p:UInt64){msg:List UInt8}(s:g_api_Sig)(hm:msg.length<=600000): ∃e,EB p msg s=some e:=by
 unfold EB;rw[AkR,Aa,AkG];cases h1:((decide ((p.toNat:Int)>0))&&(decide ((p.toNat:Int)<2305843009213691579)))&&(((UF 2305843009213691579 p 1152921504606845789).toNat:Int)==1)with
 |false=>rw[AoW,AnT rfl]; exact⟨_,rfl⟩
 |true=>
  rw[AoI,AnW Bool.false_ne_true];cases h2:(decide ((s.E.toNat:Int)>=1152921504606845789)||decide ((s.S.toNat:Int)>=1152921504606845789))with
  |true=>rw[AnT rfl]; exact⟨_,rfl⟩
  |false=>
   rw[AnW Bool.false_ne_true];obtain⟨z,z1,z2⟩:=AkM (pow_one (AkP h1)) (AmH (Ahk h2));rw[Acz p z s hm z1];split<;>exact⟨_,rfl⟩
theorem Af0 {α:Type}(x:Option α):(Ab x λa=>some a)=x:=by cases x<;>rfl
theorem Ahb (k:g_api_Key)(p:g_api_Head):Gd k p=CN k p:=by
 unfold Gd CN Gh;rw[show Kp p.Log=some (UL p.Log)from rfl,show Kp p.At=some (UL p.At)from rfl,Aa,Q3,Aa,ZL,Aa,Q3,Aa];have hs:decide (p.Size<0)= !decide (p.Size>=0):=by
  rw[Aoq]; simp
 have hs2:decide (p.Size>256)= !decide (p.Size<=256):=by
  rw[Aoq]; simp
 rw[hs,hs2];cases UL p.Log with
 |false=>simp only[gu,AoW,AoI,cond_false,Aa,Bool.true_or,if_true]
 |true=>
  simp only[gu,AoI,AoW,cond_true,Aa,AoM,Z7];rw[Aea _ _ (Z8 p)];have hb:((!UL p.At|| !decide (p.Size>=0))|| !decide (p.Size<=256))=(!(UL p.At&&decide (p.Size>=0)&&decide (p.Size<=256))):=by
   cases UL p.At<;>cases decide (p.Size>=0)<;>cases decide (p.Size<=256)<;>rfl
  rw[hb];cases (UL p.At&&decide (p.Size>=0)&&decide (p.Size<=256))with
  |false=>rw[AoW,AnT rfl,Aa]
  |true=>
   rw[AoI,AnW Bool.false_ne_true];exact(Af0 _).symm
theorem Abe (k:g_api_Key)(log:Int)(ok:Bool){msg:List UInt8}(s:g_api_Sig)(hm:msg.length<=600000): ∃e,Gh k log ok msg s=some e:=by
 unfold Gh;rw[Q3,Aa];split
 ·exact⟨_,rfl⟩
 ·split
  ·exact⟨_,rfl⟩
  ·obtain⟨e,he⟩:=Ag9 k.Key s hm;rw[he,Aa];exact⟨_,rfl⟩
theorem Aeb (k:g_api_Key)(p:g_api_Head): ∃e,CN k p=some e:=by
 unfold CN;rw[Q3,Aa,ZL,Aa];obtain⟨e,he⟩:=Abe k p.Log ((UL p.At&&(decide (p.Size>=0)))&&(decide (p.Size<=256))) p.Sig (Z8 p);rw[he,Aa];exact⟨_,rfl⟩
def chd (k:g_api_Key)(h:g_api_Head):Int:=(CN k h).getD 0
theorem Alb (k:g_api_Key)(h:g_api_Head):CN k h=some (chd k h):=by
 obtain⟨e,he⟩:=Aeb k h;unfold chd;rw[he]; rfl
def I5 (h:g_api_Head)(ks:List g_api_Key):Bool:=match fnd (λk:g_api_Key=>k.Log==h.Log) ks 0 with|some q=>chd q.2 h==0|none=>false
theorem Agu (l:List g_api_Key)(k:g_api_Head):AZ l k=some ((match fnd (λy:g_api_Key=>y.Log==k.Log) l 0 with|some q=>(q.1:Int)|none=> -1),k):=by
 have:=Aam (body:=Bl l) (s:=pk7 k) (l:=l) (λy:g_api_Key=>y.Log==k.Log) (λi=>((i:Int),k)) (λi hi=> ?_) l 0 rfl
 ·unfold AZ;rw[show((0:Nat):Int)=0 from rfl]at this;rw[show(k.Log,k.Size,k.Root.1,k.Root.2,k.At,k.Sig.E,k.Sig.S)=pk7 k from rfl,this,Aa];cases fnd (λy:g_api_Key=>y.Log==k.Log) l 0<;>rfl
 ·unfold Bl Jv pk7;dsimp only;rw[Jw hi,Aa,Aa];cases l[i].Log==k.Log<;>rfl
theorem Acv (h:g_api_Head)(ks:List g_api_Key):GP h ks=some (I5 h ks):=by
 unfold GP I5;rw[Agu,Aa];cases hf:fnd (λy:g_api_Key=>y.Log==h.Log) ks 0 with
 |none=>rfl
 |some q=>
  obtain⟨k,k1,k2,_⟩:=Yq hf;obtain⟨j,x⟩:=q;have hq:j=k:=by dsimp only at k1; omega
  subst hq;have hd:decide ((j:Int)>=0)=true:=by simp
  dsimp only at k2⊢;rw[hd,Cm k2];simp only[gu,cond_true,Aa,Alb,Bd,Aof]
def P3 (l:List g_api_Head)(ks:List g_api_Key):Bool:=l.all λh=>I5 h ks
theorem ZC (ks:List g_api_Key): ∀(xs:List g_api_Head) (i:Int),F6 (Gj ks) xs i ()=some (if P3 xs ks=true then .inl ()else .inr 40)
 | [],i=>rfl
 |x::xs,i=>by
  have h1:Gj ks i x ()=some (if I5 x ks=true then .inl ()else .inr 40):=by
   unfold Gj;rw[Acv,Aa];cases I5 x ks<;>rfl
  unfold P3;by_cases c:I5 x ks=true
  ·simp only[F6,h1,c,if_true,Aa,AoE,Aof];exact ZC ks xs (i+1)
  ·have c':I5 x ks=false:=by simpa using c
   simp only[F6,h1,c',Bool.false_eq_true,if_false,Aa,AoE,AoD]
def E2 (l:List g_api_Head)(ks:List g_api_Key):Int:=if l.length>1024 then 2 else if chB l=true then(if P3 l ks=true then 0 else 40)else 1
theorem U5 (p:g_api_Pool)(ks:List g_api_Key):GS p ks=some (E2 p.L ks):=by
 unfold GS E2;simp only[Bd];by_cases h:p.L.length>1024
 ·rw[AnT (by simp; omega),AnT h]
 ·rw[AnW (by simp; omega),AnW h,AdR (by omega),Aa];cases chB p.L
  ·rfl
  ·simp only[AoI,Bool.false_eq_true,if_false,if_true,ZC,Aa];cases P3 p.L ks<;>rfl
theorem TM {l:List g_api_Head}{ks:List g_api_Key}:E2 l ks=0↔l.length<=1024/\l.Pairwise ltH/\∀h∈l,I5 h ks=true:=by
 unfold E2;by_cases h:l.length>1024
 ·rw[AnT h]; constructor
  ·intro q; cases q
  ·intro q; omega
 ·rw[AnW h];cases hc:chB l
  ·rw[AnW Bool.false_ne_true];constructor
   ·intro q; cases q
   ·intro q; rw[(Aba l).2 q.2.1]at hc; cases hc
  ·rw[AnT rfl];have hs:=(Aba l).1 hc;cases hr:P3 l ks
   ·rw[AnW Bool.false_ne_true];constructor
    ·intro q; cases q
    ·intro q;have:P3 l ks=true:=Aoj.2 q.2.2;rw[this]at hr; cases hr
   ·rw[AnT rfl];exact⟨λ_=>⟨by omega,hs,Aoj.1 hr⟩,λ_=>rfl⟩
theorem X1 {h:g_api_Head}: ∀{l:List g_api_Head},l.Pairwise ltH->∀i (hi:i<l.length),Tm l[i] h<0↔i<Jy h l
 | [],_,i,hi=>by simp at hi
 |x::l,hl,i,hi=>by
  have hx:=(List.pairwise_cons.1 hl).1;unfold Jy;cases i with
  |zero=>
   simp only[List.getElem_cons_zero];split
   ·exact⟨λ_=>by omega,λ_=>by assumption⟩
   ·exact⟨λq=>absurd q (by assumption),λq=>by omega⟩
  |succ i=>
   simp only[List.getElem_cons_succ];have hi':i<l.length:=by simpa using hi
   have ih:=X1 (List.pairwise_cons.1 hl).2 i hi' (h:=h);split
   ·rw[ih]; omega
   ·rename_i c;constructor
    ·intro q;exact absurd (O2.2 (UW (hx _ (List.getElem_mem hi')) (O2.1 q))) c
    ·intro q; omega
theorem Ajo {i j:Nat}(h:i+j<=1099511627776):w64 ((DL (toU (w64 ((i:Int)+(j:Int)))) 1).toNat:Int)=(((i+j)/2:Nat):Int):=by
 have h1:w64 ((i:Int)+(j:Int))=((i+j:Nat):Int):=by rw[A7 (by omega) (by omega)]; omega
 rw[h1];have h2:(toU ((i+j:Nat):Int)).toNat=i+j:=by
  have:=Aa3 ((i+j:Nat):Int);rw[Int.emod_eq_of_lt (by omega) (by omega)]at this;omega
 rw[CT _ _ (by decide),h2,Nat.pow_one,A7 (by omega) (by omega)]
theorem bs_it {l:List g_api_Head}{h:g_api_Head}(hl:l.Pairwise ltH)(hn:l.length<=500000000000): ∀(d i j n:Nat),j-i<=d->d<n->i<=Jy h l->Jy h l<=j->j<=l.length->
  iter (Aj l h) n ((i:Int),(j:Int))=some ((Jy h l:Nat):Int):=by
 intro d;induction d with
 |zero=>
  intro i j n hd hn' h1 h2 h3;obtain⟨n,rfl⟩: ∃q,n=q+1:=⟨n-1,by omega⟩;have hs:Aj l h ((i:Int),(j:Int))=some (.inr (i:Int)):=by
   unfold Aj; rw[AnW (by simp; omega)]
  simp only[iter,hs,Aa];rw[show i=Jy h l from by omega]
 |succ d ih=>
  intro i j n hd hn' h1 h2 h3;obtain⟨n,rfl⟩: ∃q,n=q+1:=⟨n-1,by omega⟩;by_cases hij:i<j
  ·have hm:(i+j)/2<l.length:=by omega
   have hs:Aj l h ((i:Int),(j:Int))=some (.inl (if(i+j)/2<Jy h l then((((i+j)/2+1:Nat):Int),(j:Int))else((i:Int),(((i+j)/2:Nat):Int)))):=by
    unfold Aj;dsimp only;rw[AnT (by simpa using hij),Ajo (by omega)];unfold bnd;dsimp only;rw[Jw hm,Aa,X0,Aa,QS hm (by omega)];by_cases c:(i+j)/2<Jy h l
    ·rw[AnT (by simpa using (X1 hl _ hm).2 c),AnT c]
    ·rw[AnW (by simpa using λq=>c ((X1 hl _ hm).1 q)),AnW c]
   simp only[iter,hs,Aa];by_cases c:(i+j)/2<Jy h l
   ·rw[AnT c]; exact ih _ _ n (by omega) (by omega) (by omega) h2 h3
   ·rw[AnW c]; exact ih _ _ n (by omega) (by omega) h1 (by omega) (by omega)
  ·have hs:Aj l h ((i:Int),(j:Int))=some (.inr (i:Int)):=by
    unfold Aj; rw[AnW (by simp; omega)]
   simp only[iter,hs,Aa];rw[show i=Jy h l from by omega]
theorem AmZ {l:List g_api_Head}{h:g_api_Head}(hl:l.Pairwise ltH):AhN l h=if hc:Jy h l<l.length then Tm l[Jy h l] h==0 else false:=by
 rw[Aoq,Ym];constructor
 ·rintro⟨x,hx,he⟩;obtain⟨i,hi,hxi⟩:=List.mem_iff_getElem.1 hx;have h0:Tm l[i] h=0:=UK.2 (hxi▸he);have hle: ¬i<Jy h l:=λq=>by have:=(X1 hl i hi).2 q; omega
  have hc:Jy h l<l.length:=by omega
  rw[dif_pos hc];have:Jy h l=i:=by
   apply Classical.byContradiction;intro q;have hlt:Jy h l<i:=by omega
   have:=List.pairwise_iff_getElem.1 hl (Jy h l) i hc hi hlt;exact Ag2 hc (O2.2 (ltH_eq this (UK.1 h0)))
  simp only[this,h0,beq_self_eq_true]
 ·intro q;split at q
  ·rename_i hc;exact⟨_,List.getElem_mem hc,UK.1 (by simpa using q)⟩
  ·cases q
theorem bs_eqG {l:List g_api_Head}{h:g_api_Head}(hl:l.Pairwise ltH)(hn:l.length<=500000000000):Au l h=some (((Jy h l:Nat):Int),AhN l h):=by
 have hc:=Adb h l;have:=bs_it (h:=h) hl hn l.length 0 l.length AY (by omega) (by unfold AY; omega) (by omega) hc (AnX _);unfold Au;rw[show((0:Nat):Int)=0 from rfl]at this;rw[this,Aa,Aa,AmZ hl];by_cases c:Jy h l<l.length
 ·have hd:decide (((Jy h l:Nat):Int)<(l.length:Int))=true:=by simpa using c
  rw[hd,Jw c,dif_pos c];simp only[gu,cond_true,Aa,X0,Bd,Aof]
 ·have hd:decide (((Jy h l:Nat):Int)<(l.length:Int))=false:=by simpa using c
  rw[hd,dif_neg c];simp only[gu,cond_false,Aa,Bd,AoD]
theorem Agr {l:List g_api_Head}{h:g_api_Head}(hn:l.length<=500000000000):AO l ((Jy h l:Nat):Int) [h]=some (PG l h):=by
 have hc:=Adb h l;unfold AO;rw[AnT ⟨by omega,by omega⟩,AnW (by simp),RD];by_cases c:Jy h l=l.length
 ·rw[AnT (by simp[c]),appL (by simp; omega) (by decide),Aa,c]; simp
 ·rw[AnW (by simp; omega),appL (by simp; omega) (by decide),Aa,AoY]; simp
def TO (l:List g_api_Head)(h:g_api_Head)(ks:List g_api_Key):List g_api_Head×Int:=if E2 l ks=0 then(if I5 h ks=true then(if AhN l h=true then(l,0)else if l.length<1024 then(PG l h,0)else([],2))else([],40))else([],E2 l ks)
theorem Am5 (p:g_api_Pool)(h:g_api_Head)(ks:List g_api_Key):Ls p h ks=some (⟨(TO p.L h ks).1⟩,(TO p.L h ks).2):=by
 unfold Ls TO;rw[U5,Aa];by_cases hc:E2 p.L ks=0
 ·obtain⟨h1,h2,h3⟩:=TM.1 hc;rw[AnW (by simp[hc]),AnT hc,Acv,Aa];cases I5 h ks
  ·rfl
  ·simp only[AoI,Bool.false_eq_true,if_false,if_true,bs_eqG h2 (show p.L.length<=500000000000 by omega),Aa];cases AhN p.L h
   ·simp only[Bool.false_eq_true,if_false,Bd];by_cases hl:p.L.length<1024
    ·rw[AnW (by simp; omega),AnT hl,Ag4 (by omega),Aa,Agr (by omega),Aa]
    ·rw[AnT (by simp; omega),AnW hl]
   ·rfl
 ·rw[AnT (by simpa using hc),AnW hc]
def Tot {α:Type}(x:Option α):Prop:= ∃r,x=some r
theorem tot {α:Type}(r:α):Tot (some r):=⟨r,rfl⟩
theorem Dj {α β:Type}{x:Option α}{k:α->Option β}(h:Tot x)(hk: ∀a,x=some a->Tot (k a)):Tot (Ab x k):=by
 obtain⟨a,h⟩:=h;rw[h]; exact hk a h
theorem Uk {α:Type} [Inhabited α]{b:Bool}{x:Option α}(h:b=true->Tot x):Tot (gu b x):=by
 cases b with
 |true=>exact h rfl
 |false=>exact tot default
theorem Uj {α:Type}{b:Bool}{x y:Option α}(h1:b=true->Tot x)(h0:b=false->Tot y):Tot (if b=true then x else y):=by
 cases b with
 |true=>exact h1 rfl
 |false=>exact h0 rfl
theorem AlC {α:Type}{c:Prop} [Decidable c]{x y:Option α}(h1:c->Tot x)(h0: ¬c->Tot y):Tot (if c then x else y):=by
 split
 ·exact h1 ‹_›
 ·exact h0 ‹_›
theorem TH {σ τ:Type}{step:σ->Option (σ⊕τ)}(μ:σ->Nat)(I:σ->Prop)(Q:τ->Prop)
  (h: ∀s,I s->∃r,step s=some r/\(∀s',r= .inl s'->I s'/\μ s'<μ s)/\∀t,r= .inr t->Q t): ∀n s,I s->μ s<n->∃t,iter step n s=some t/\Q t
 |0,s,_,hn=>by omega
 |n+1,s,hI,hn=>by
  obtain⟨r,h1,h2,h3⟩:=h s hI;cases r with
  |inr t=>exact⟨t,by show Ab (step s) _=_; rw[h1]; rfl,h3 t rfl⟩
  |inl s'=>
   obtain⟨i',lt⟩:=h2 s' rfl;obtain⟨t,e,q⟩:=TH μ I Q h n s' i' (by omega);exact⟨t,by show Ab (step s) _=_; rw[h1]; exact e,q⟩
theorem WH (s:ByteArray)(i:Nat):1<=(Utf8.decode s i).2:=by
 unfold Utf8.decode;simp only;repeat' split
 all_goals simp
theorem Bw:9223372036854775808<=AY:=An5 rfl
theorem AeO (c:Int):JZ c=some (decide (c<=32)||decide (c>126)):=rfl
theorem Yk (s:ByteArray)(b:Bool)(hs:s.size<9223372036854775808):Tot (Cd s b):=by
 unfold Cd;refine Dj ?_ λa _=> ?_
 ·obtain⟨t,e,_⟩:=TH (step:=Az s b) (λi=>s.size-i) (λ_=>True) (λ_=>True) (λi _=>by
   unfold Az;by_cases hi:i<s.size
   ·rw[AnT hi];simp only[bnd,AeO,Aa];split
    ·exact⟨_,rfl,λs' h=>(by cases h),λ_ _=>trivial⟩
    ·refine⟨_,rfl,λs' h=> ?_,λ_ _=>trivial⟩;cases h;have:=WH s i;exact⟨trivial,by omega⟩
   ·rw[AnW hi];exact⟨_,rfl,λs' h=>(by cases h),λ_ _=>trivial⟩) AY 0 trivial (by have:=Bw; omega)
  exact⟨t,e⟩
 ·cases a with
  |inl _=>exact tot _
  |inr _=>exact tot _
theorem Ah1 (s:ByteArray):Tot (D7 s):=by
 unfold D7;refine Dj (Uk λh=> ?_) λa _=>tot _;simp only[AnP,AnV]at h;unfold BC Db;refine Dj (Dj (Yk s true (by omega)) λa _=>tot _) λa _=>tot _
theorem AeN {s:ByteArray}{b:Bool}(h:D7 s=some b):b=true->eqS s (⟨#[]⟩:ByteArray)=false/\s.size<=64:=by
 unfold D7 at h;obtain⟨x,_,h⟩:=Ag h;have h:=AnO (Ali h);intro hb;rw[hb]at h;simp only[AnP,Bool.not_eq_true',AnV]at h;exact⟨h.1.1,by omega⟩
theorem Yt (c:Int):Tot (Ds c):=tot _
theorem Ags (c:Int):Tot (Dn c):=by
 unfold Dn;exact Dj (Uk λ_=>Yt c) λa _=>tot _
theorem Agf (s:ByteArray):Tot (Gg s):=by
 unfold Gg;refine Uj (λ_=>tot _) λh=> ?_;simp only[Bool.or_eq_false_iff,decide_eq_false_iff_not]at h;refine Dj ?_ λa _=> ?_
 ·obtain⟨t,e,_⟩:=TH (step:=AX s) (λi=>s.size-i) (λ_=>True) (λ_=>True) (λi _=>by
   unfold AX;by_cases hi:i<s.size
   ·rw[AnT hi];have hd:=WH s i;obtain⟨x4,h4⟩:=Uk (b:=((i:Int)==(w64 ((s.size:Int)-1)))) λ_=>Yt ((Utf8.decode s i).1:Int);obtain⟨x7,h7⟩:=Uk (b:=((i:Int)==0)) λ_=>Yt ((Utf8.decode s i).1:Int);obtain⟨x9,h9⟩:=Uk (b:=(!((i:Int)==0))) λ_=>Ags ((Utf8.decode s i).1:Int);simp only[bnd,h4,h7,h9,Aa];split
    ·exact⟨_,rfl,λs' h=>(by cases h; exact⟨trivial,by omega⟩),λ_ _=>trivial⟩
    ·split
     ·exact⟨_,rfl,λs' h=>(by cases h),λ_ _=>trivial⟩
     ·split
      ·exact⟨_,rfl,λs' h=>(by cases h; exact⟨trivial,by omega⟩),λ_ _=>trivial⟩
      ·split
       ·exact⟨_,rfl,λs' h=>(by cases h),λ_ _=>trivial⟩
       ·exact⟨_,rfl,λs' h=>(by cases h; exact⟨trivial,by omega⟩),λ_ _=>trivial⟩
   ·rw[AnW hi];exact⟨_,rfl,λs' h=>(by cases h),λ_ _=>trivial⟩) AY 0 trivial (by have:=Bw; omega)
  exact⟨t,e⟩
 ·cases a with
  |inl _=>exact tot _
  |inr _=>exact tot _
theorem AkJ: ∀(l:List UInt8) (c:UInt8),Lib.indexByte l c<l.length
 | [],c=>by simp[Lib.indexByte]
 |b::l,c=>by
  have:=AkJ l c;unfold Lib.indexByte;split
  ·rw[AnR]; omega
  ·split
   ·rw[AnR]; omega
   ·rw[AnR]; omega
theorem AN (s:ByteArray):s.data.toList.length=s.size:=by rw[Array.length_toList]; rfl
theorem Z5 (s:ByteArray): ∃x:Int,Cq s (⟨#[46]⟩:ByteArray)=some x/\ -1<=x/\x<s.size:=by
 unfold Cq Bv BA;simp only[bnd];by_cases h:((((⟨#[46]⟩:ByteArray).size:Int)==0)||eqS (⟨#[46]⟩:ByteArray) s)=true
 ·rw[AnT h];refine⟨0,rfl,by omega,?_⟩;have h1:eqS (⟨#[46]⟩:ByteArray) s=true:=by
   cases he:eqS (⟨#[46]⟩:ByteArray) s with
   |true=>rfl
   |false=>rw[he]at h; cases h
  have h2: [(46:UInt8)]=s.data.toList:=by simpa[eqS]using h1
  have h3:=AN s;rw[<-h2]at h3;simp only[AnR,Aob]at h3;omega
 ·rw[AnW h];refine⟨AkK s 46,rfl,Lib.indexByte_ge _ _,?_⟩;have:=AkJ s.data.toList 46;rw[AN]at this;exact this
theorem HL {x:Int}(h0: -9223372036854775808<=x)(h1:x<=9223372036854775807):w64 x=x:=by
 unfold w64; omega
theorem Ig {s:ByteArray}{lo hi:Int}(h0:0<=lo)(h1:lo<=hi)(h2:hi<=s.size):Ts s lo hi=some (s.extract lo.toNat hi.toNat):=by
 unfold Ts; rw[AnT ⟨h0,h1,h2⟩]
theorem X6 (s:ByteArray)(n k:Int):Cg s n k=Ab (if(decide ((s.size:Int)>k))=true then some true else Ab (FM s (⟨#[46]⟩:ByteArray)) λx3=>some (decide (x3>=n))) λx2=>if x2=true then some false else
  Ab (HQ s (⟨#[46]⟩:ByteArray)) λx4=>Ab (Ba (λ(s:(Unit)×Nat) (b0:ByteArray)=>if s.2=0 then Ab (Bn b0 s) λy=>some (y.2==0,y)else none) x4.1 x4.2.1 x4.2.2 ((),0)) λx5=>
  if(x5.2.2.2).2=0 then some true else some false:=by
 unfold Cg;cases decide ((s.size:Int)>k)with
 |true=>rfl
 |false=>cases FM s (⟨#[46]⟩:ByteArray)with|none=>rfl|some x=>rfl
theorem AcI (s:ByteArray)(n k:Int)(hk:k<=64):Tot (Cg s n k):=by
 rw[X6];refine Dj ?_ λx2 hx2=> ?_
 ·refine Uj (λ_=>tot _) λ_=> ?_;exact⟨_,rfl⟩
 ·refine Uj (λ_=>tot _) λh=> ?_;have hsz:s.size<=64:=by
   cases hd:decide ((s.size:Int)>k)with
   |true=>rw[AnT hd]at hx2; cases hx2; cases h
   |false=>simp only[decide_eq_false_iff_not]at hd; omega
  have key: ∃r,Ba (λ(s:(Unit)×Nat) (b0:ByteArray)=>if s.2=0 then Ab (Bn b0 s) λy=>some (y.2==0,y)else none) (⟨#[46]⟩:ByteArray) s 0 ((),0)=some r:=by
   have hb5: ∀(b0:ByteArray) (s:Unit×Nat),∃z:Nat,Bn b0 s=some ((),z):=λb0 s=>by
    unfold Bn;obtain⟨y,hy⟩:=Agf b0;rw[hy];simp only[Aa];split
    ·exact⟨1,rfl⟩
    ·exact⟨0,rfl⟩
   unfold Ba;rw[AnW (by decide)];obtain⟨tt,hit,hq⟩: ∃t,iter (AK (λ(s:(Unit)×Nat) (b0:ByteArray)=>if s.2=0 then Ab (Bn b0 s) λy=>some (y.2==0,y)else none) (⟨#[46]⟩:ByteArray) 0) AY (s,((),0))=some t/\∀y,t= .inl y->y.2.2=0:=by
    exact TH (step:=AK (λ(s:(Unit)×Nat) (b0:ByteArray)=>if s.2=0 then Ab (Bn b0 s) λy=>some (y.2==0,y)else none) (⟨#[46]⟩:ByteArray) 0) (λz=>z.1.size) (λz=>z.1.size<=64/\z.2.2=0) (λt=> ∀y,t= .inl y->y.2.2=0) (λz hz=>by
     obtain⟨x,h1,h2,h3⟩:=Z5 z.1;unfold AK;rw[h1];simp only[Aa];by_cases hx:x<0
     ·rw[AnT (by simpa using hx)];exact⟨_,rfl,λs' h=>(by cases h),λt ht y hy=>by subst hy; cases ht; exact hz.2⟩
     ·rw[AnW (by simpa using hx)];have hw:w64 (x+0)=x:=by rw[Int.add_zero]; exact HL (by omega) (by omega)
      have hw1:w64 (x+((⟨#[46]⟩:ByteArray).size:Int))=x+1:=HL (x:=x+1) (by omega) (by omega);rw[hw,hw1,Ig (by omega) (by omega) (by omega),Ig (lo:=x+1) (by omega) (by omega) (by omega)];simp only[Aa,AnT hz.2];obtain⟨zz,hzz⟩:=hb5 (z.1.extract (0:Int).toNat x.toNat) z.2;rw[hzz];simp only[Aa];split
      ·exact⟨_,rfl,λs' h=>(by cases h),λt ht y hy=>by subst hy; cases ht⟩
      ·rename_i hne;refine⟨_,rfl,λs' h=> ?_,λt ht=>by cases ht⟩;cases h;have e0:zz=0:=by simpa using hne
       refine⟨⟨?_,e0⟩,?_⟩
       ·simp only[ByteArray.size_extract]; omega
       ·simp only[ByteArray.size_extract]; omega) AY (s,((),0)) ⟨hsz,rfl⟩ (by have:=Bw; show s.size<AY; omega)
   show Tot (Ab (iter _ AY (s,((),0))) _);rw[hit];cases tt with
   |inr _=>exact tot _
   |inl y3=>
    have h0:=hq y3 rfl;obtain⟨zz,hzz⟩:=hb5 y3.1 y3.2;simp only[Aa,AnT h0,hzz];exact tot _
  obtain⟨r,hr⟩:=key;show Tot (Ab (Ba _ (⟨#[46]⟩:ByteArray) s 0 ((),0)) _);rw[hr];simp only[Aa];exact AlC (λ_=>tot _) λ_=>tot _
theorem AkL (s:ByteArray):Tot (Ev s):=Dj (AcI s 8 64 (by decide)) λa _=>tot _
theorem AhB (s:ByteArray):Tot (Dp s):=by
 unfold Dp;refine Dj (AkL s) λa _=>Dj ?_ λa _=>tot _;unfold FU;exact Uj (λ_=>tot _) λ_=>tot _
theorem Yy (s:ByteArray):Tot (B9 s (⟨#[42,46]⟩:ByteArray)):=by
 unfold B9 A6 A5;refine Dj (Dj (Dj (Uk λh=> ?_) λa _=>tot _) λb hb=> ?_) λa _=>tot _
 ·simp only[AnV]at h;exact⟨_,Ig (by omega) (by omega) h⟩
 ·refine Uj (λ_=>tot _) λh=> ?_;obtain⟨x,_,hx⟩:=Ag hb;have hx:=AnO (Ali hx);have hb:b=true:=by simpa using h
  rw[hb]at hx;simp only[AnP,AnV]at hx;exact Dj ⟨_,Ig (by omega) hx.1 (by omega)⟩ λa _=>tot _
theorem Ab1 (s:ByteArray):Tot (CC s):=by
 unfold CC Eu;refine Dj (Dj (AkL s) λa _=>Uj (λ_=>tot _) λ_=>Dj (Yy s) λb _=>Dj (Uk λ_=>AcI _ 7 62 (by decide)) λc _=>tot _) λa _=>Dj ?_ λa _=>tot _;unfold FU;exact Uj (λ_=>tot _) λ_=>tot _
theorem AeK {α:Type}{x:Option α}{d:α}(h:Tot x):x=some (x.getD d):=by
 obtain⟨r,h⟩:=h;rw[h]; rfl
def textV (s:ByteArray):Bool:=(D7 s).getD false
def nameV (s:ByteArray):Int:=(Dp s).getD 0
def patV (s:ByteArray):Int:=(CC s).getD 0
theorem Aa5 (s:ByteArray):D7 s=some (textV s):=AeK (Ah1 s)
theorem X7 (s:ByteArray):Dp s=some (nameV s):=AeK (AhB s)
theorem Abr (s:ByteArray):CC s=some (patV s):=AeK (Ab1 s)
theorem Acd {s:ByteArray}(h:textV s=true):eqS s (⟨#[]⟩:ByteArray)=false/\s.size<=64:=AeN (Aa5 s) h
theorem ZP {s:ByteArray}{n k:Int}(h:Cg s n k=some true):(s.size:Int)<=k:=by
 rw[X6]at h;obtain⟨x,hx,h⟩:=Ag h;cases hd:decide ((s.size:Int)>k)with
 |true=>
  rw[AnT hd]at hx;cases hx;cases h
 |false=>simp only[decide_eq_false_iff_not]at hd; omega
theorem Agn {s:ByteArray}(h:Ev s=some true):s.size<=64:=by
 obtain⟨x,hx,h⟩:=Ag h;cases h;have:=ZP hx;omega
theorem Zp {b:Bool}{r:Int}(h:FU b=some r)(h0:r=0):b=true:=by
 cases b with
 |true=>rfl
 |false=>
  have h2:(110:Int)=r:=AnO h;omega
theorem AdT {s:ByteArray}(h:nameV s=0):s.size<=64:=by
 have e:=X7 s;rw[h]at e;obtain⟨x,hx,e⟩:=Ag e;obtain⟨y,hy,e⟩:=Ag e;cases e;have:=Zp hy rfl;rw[this]at hx;exact Agn hx
theorem VV {s:ByteArray}{c:ByteArray×Bool}(h:B9 s (⟨#[42,46]⟩:ByteArray)=some c)(h1:c.2=true):c.1.size+2=s.size:=by
 unfold B9 A6 A5 at h;obtain⟨d,hd,h⟩:=Ag h;have h:=AnO h;subst h;obtain⟨p,hp,hd⟩:=Ag hd;cases p with
 |false=>
  have hd:=AnO hd;subst hd;cases h1
 |true=>
  obtain⟨q,hq,hd⟩:=Ag hd;have hd:=AnO hd;subst hd;unfold Ts at hq;split at hq
  ·rename_i hc;have hq:=AnO hq;have e2:(⟨#[42,46]⟩:ByteArray).size=2:=rfl;rw[e2]at hq hc;show q.size+2=s.size;rw[<-hq,ByteArray.size_extract];omega
  ·cases hq
theorem AfU {s:ByteArray}(h:patV s=0):s.size<=64:=by
 have e:=Abr s;rw[h]at e;obtain⟨x,hx,e⟩:=Ag e;obtain⟨y,hy,e⟩:=Ag e;cases e;have h1:=Zp hy rfl;unfold Eu at hx;obtain⟨b,hb,hx⟩:=Ag hx;cases b with
 |true=>exact Agn hb
 |false=>
  rw[AnW (by decide)]at hx;obtain⟨c,hc,hx⟩:=Ag hx;obtain⟨d,hd,hx⟩:=Ag hx;have hx:=AnO hx;subst hx;have h2:(c.2&&d)=true:=h1;simp only[AnP]at h2;rw[h2.1,h2.2]at hd;have h3:=ZP hd;have h4:=VV hc h2.1;omega
def Qk (right:ByteArray->Int):List ByteArray->List ByteArray->Bool
 |_,[]=>true
 |met,s::l=> !(met.any (eqS s))&&right s==0&&Qk right (met++[s]) l
def Og (met:List ByteArray):List (ByteArray×Bool):=met.map λs=>(s,true)
theorem UX: ∀(met:List ByteArray) (s:ByteArray) (i:Nat),(lkI (Og met) s i).isSome=met.any (eqS s)/\∀p,lkI (Og met) s i=some p->p.2=true
 | [],s,i=>⟨rfl,λp h=>by cases h⟩
 |a::met,s,i=>by
  have ih:=UX met s (i+1);rw[List.any_cons];cases h:eqS s a with
  |true=>
   refine⟨?_,λp hp=> ?_⟩
   ·show(if eqS s a=true then some (i,true)else lkI (Og met) s (i+1)).isSome=_;rw[AnT h]; rfl
   ·have hp:(if eqS s a=true then some (i,true)else lkI (Og met) s (i+1))=some p:=hp;rw[AnT h]at hp;cases hp; rfl
  |false=>
   refine⟨?_,λp hp=> ?_⟩
   ·show(if eqS s a=true then some (i,true)else lkI (Og met) s (i+1)).isSome=_;rw[AnW (by rw[h]; decide)]; exact ih.1
   ·have hp:(if eqS s a=true then some (i,true)else lkI (Og met) s (i+1))=some p:=hp;rw[AnW (by rw[h]; decide)]at hp;exact ih.2 p hp
theorem Aga (met:List ByteArray)(s:ByteArray):lkB (Og met) s=met.any (eqS s):=by
 have h:=UX met s 0;unfold lkB;rw[<-h.1];cases e:lkI (Og met) s 0 with
 |none=>rfl
 |some p=>rw[Aoa,Option.getD_some,h.2 p e]; rfl
theorem Ai0 (met:List ByteArray)(s:ByteArray)(h:met.any (eqS s)=false):(lkI (Og met) s 0).isNone=true:=by
 have h1:=(UX met s 0).1;rw[h]at h1;cases e:lkI (Og met) s 0 with
 |none=>rfl
 |some p=>rw[e]at h1; cases h1
theorem AmF (right:ByteArray->Int)(mr:ByteArray->Option Int)(hr: ∀s,mr s=some (right s)): ∀(l met:List ByteArray) (i:Int),
  F6 (λ(i1:Int) (x2:ByteArray) (s1:List (ByteArray×Bool))=>Ab (gu (!(lkB s1 x2)) (mr x2)) λx3=>if((lkB s1 x2)||(x3 !=0))=true then some (.inr false)else if(lkI s1 x2 0).isNone=true then some (.inl (s1++[(x2,true)]))else none) l i (Og met)
   =some (if Qk right met l=true then .inl (Og (met++l))else .inr false)
 | [],met,i=>by simp[F6,Qk]
 |s::l,met,i=>by
  have ih:=AmF right mr hr l (met++[s]) (i+1);have hm':=Aga met s;simp only[F6,hr]at ih⊢;rw[hm'];cases hm:met.any (eqS s)with
  |true=>simp[gu,Qk,hm]
  |false=>
   simp only[gu,AoW,cond_true,Aa,AoM];cases h0:right s==0 with
   |false=>
    have h1:(right s !=0)=true:=by simp only[bne,h0,AoW]
    rw[AnT h1];simp[Qk,hm,h0]
   |true=>
    have h1:(right s !=0)=false:=by simp only[bne,h0,AoI]
    rw[h1];simp only[Bool.false_eq_true,if_false,Ai0 met s hm,if_true,Aa];have e:Og met++[(s,true)]=Og (met++[s]):=by simp[Og]
    rw[e];simp only[gu]at ih;rw[ih];simp[Qk,hm,h0]
def listV (right:ByteArray->Int)(l:List ByteArray)(a b:Int):Bool:=Qk right [] l&&decide ((l.length:Int)>=a)&&decide ((l.length:Int)<=b)
theorem Agd (l:List ByteArray)(a b:Int):Hc l a b=some (listV patV l a b):=by
 unfold Hc;have h:=AmF patV CC Abr l [] 0;show Ab (F6 _ l 0 (Og [])) _=_;unfold KH;rw[h];unfold listV;cases Qk patV [] l<;>rfl
theorem Agc (l:List ByteArray)(a b:Int):Hd l a b=some (listV nameV l a b):=by
 unfold Hd;have h:=AmF nameV Dp X7 l [] 0;show Ab (F6 _ l 0 (Og [])) _=_;unfold KI;rw[h];unfold listV;cases Qk nameV [] l<;>rfl
theorem ZV {right:ByteArray->Int}: ∀{l met:List ByteArray},Qk right met l=true->∀s∈l,right s=0
 | [],met,_,s,hs=>by cases hs
 |a::l,met,h,s,hs=>by
  simp only[Qk,AnP,Aou]at h;rcases Aom.1 hs with e|hs
  ·rw[e]; exact h.1.2
  ·exact ZV h.2 s hs
def numB (n:Int):Bool:=decide (n>=0)&&decide (n<=1099511627776)
def sigB (s:g_api_Sig):Bool:=decide ((Vt s.E s.S).toNat<1152921504606845789)
def promBC (p:g_api_Promise):Bool:=numB p.Log&&numB p.At&&decide ((Vt p.Leaf.1 p.Leaf.2).toNat<2305843009213693951)&&sigB p.Sig
theorem Wk (n:Int):EZ n=some (numB n):=rfl
theorem Zt (s:g_api_Sig):Ic s=some (sigB s):=by
 unfold Ic sigB;simp only[bnd,AnU,Aov];omega
theorem max_eq (a b:UInt64):CP [a,b]=some (Vt a b):=by
 have e1:Bj [a,b] (a,1)=some (.inl (Vt a b,2)):=rfl;have e2:Bj [a,b] (Vt a b,2)=some (.inr (Vt a b)):=rfl;have h: ∀n,iter (Bj [a,b]) (n+1+1) (a,1)=some (Vt a b):=λn=>by
  simp only[iter,e1,Aa,e2]
 have hf:iter (Bj [a,b]) AY (a,1)=some (Vt a b):=h 18446744073709551614;have i0:idx [a,b] 0=some a:=rfl;have d0:decide ((([a,b]:List UInt64).length:Int)<1)=false:=rfl;unfold CP;rw[d0,i0];simp only[Bool.false_eq_true,if_false,Aa,hf]
theorem Yn {c v:Bool}:gu c (some v)=some (c&&v):=by cases c<;>rfl
theorem PD {α:Type} [Inhabited α](o:Option α):gu true o=o:=rfl
theorem Aaa {α:Type} [Inhabited α](o:Option α):gu false o=some default:=rfl
theorem CG {α β:Type}(a:α)(k:α->β):bnd a k=k a:=rfl
theorem Abq (p:g_api_Promise):Ie p=some (promBC p):=by
 unfold Ie promBC;simp only[Wk,max_eq,Zt,Yn,CG,Aa];have e: ∀x:UInt64,decide ((x.toNat:Int)<2305843009213693951)=decide (x.toNat<2305843009213693951):=λx=>by
  rw[Aov]; omega
 simp only[e];cases numB p.Log with
 |false=>simp only[AoD,Aaa,Aa]
 |true=>
  cases numB p.At with
  |false=>simp only[AoD,Aof,Aaa,Aa]
  |true=>
   simp only[Aof,PD,Aa];cases decide ((Vt p.Leaf.1 p.Leaf.2).toNat<2305843009213693951)<;>simp only[AoD,Aof]
def promsB:Int->List g_api_Promise->Bool
 |_,[]=>true
 |last,p::l=>promBC p&& !(decide (p.Log<=last))&&promsB p.Log l
theorem Acx: ∀(l:List g_api_Promise) (i last:Int),∃z:Int,F6 DO l i last=some (if promsB last l=true then .inl z else .inr false)
 | [],i,last=>⟨last,rfl⟩
 |p::l,i,last=>by
  obtain⟨z,ih⟩:=Acx l (i+1) p.Log;refine⟨z,?_⟩;have e:DO i p last=some (if(promBC p&& !(decide (p.Log<=last)))=true then .inl p.Log else .inr false):=by
   unfold DO;rw[Abq,Aa];cases promBC p<;>cases decide (p.Log<=last)<;>rfl
  show Ab (DO i p last) _=_;rw[e];cases h:promBC p&& !(decide (p.Log<=last))with
  |false=>
   simp[promsB,h]
  |true=>
   rw[AnT rfl,Aa];show F6 DO l (i+1) p.Log=_;rw[ih];simp[promsB,h]
theorem Wh: ∀{l:List g_api_Promise} {last:Int},promsB last l=true->∀p∈l,promBC p=true
 | [],_,_,p,hp=>by cases hp
 |a::l,last,h,p,hp=>by
  simp only[promsB,AnP]at h;rcases Aom.1 hp with e|hp
  ·rw[e]; exact h.1.1
  ·exact Wh h.2 p hp
def formB (c:g_api_Cert):Bool:=promsB (-1) c.Proms&&(numB c.Serial&&numB c.From&&numB c.Until&&decide (c.From<c.Until))&&(textV c.Issuer&&(!((c.Key.toNat:Int)==0))&&decide ((c.Key.toNat:Int)<2305843009213691579)&&decide ((c.Proms.length:Int)<=4)&&sigB c.Sig)&&(if c.Ca=true then textV c.Subject&&((c.Names.length:Int)==0)&&decide (c.Depth>=0)&&decide (c.Depth<=4)&&listV patV c.Permit 0 8 else eqS c.Subject (⟨#[]⟩:ByteArray)&&listV nameV c.Names 1 8&&(c.Depth==0)&&((c.Permit.length:Int)==0))
theorem AgD (c:g_api_Cert):J0 c=some (formB c):=by
 obtain⟨z,hz⟩:=Acx c.Proms 0 (-1);unfold J0 formB;rw[hz];cases promsB (-1) c.Proms with
 |false=>rfl
 |true=>
  rw[AnT rfl,Aa];simp only[Wk,Aa5,Zt,Agd,Agc,Yn,CG,Aa,Aof];have e1:decide (c.From>=c.Until)= !decide (c.From<c.Until):=by
   rw[<-decide_not,Aov]; omega
  have e2:decide ((c.Key.toNat:Int)>=2305843009213691579)= !decide ((c.Key.toNat:Int)<2305843009213691579):=by
   rw[<-decide_not,Aov]; omega
  have e3:decide ((c.Proms.length:Int)>4)= !decide ((c.Proms.length:Int)<=4):=by
   rw[<-decide_not,Aov]; omega
  rw[e1,e2,e3];generalize numB c.Serial=a1;generalize numB c.From=a2;generalize numB c.Until=a3;generalize decide (c.From<c.Until)=a4;generalize textV c.Issuer=b1;generalize ((c.Key.toNat:Int)==0)=b2;generalize decide ((c.Key.toNat:Int)<2305843009213691579)=b3;generalize decide ((c.Proms.length:Int)<=4)=b4;generalize sigB c.Sig=b5;cases a1<;>cases a2<;>cases a3<;>cases a4<;>try rfl
  all_goals cases b1<;>cases b2<;>cases b3<;>cases b4<;>cases b5<;>try rfl
  cases c.Ca with
  |true=>
   show some _=some _;generalize listV patV c.Permit 0 8=d1;generalize textV c.Subject=d2;generalize ((c.Names.length:Int)==0)=d3;generalize decide (c.Depth>=0)=d4;generalize decide (c.Depth<=4)=d5;cases d1<;>cases d2<;>cases d3<;>cases d4<;>cases d5<;>rfl
  |false=>
   show some _=some _;generalize listV nameV c.Names 1 8=d1;generalize eqS c.Subject (⟨#[]⟩:ByteArray)=d2;cases d1<;>cases d2<;>rfl
theorem Ly {α:Type}(b:Nat){xs ys:List α}(h:(xs.length+ys.length)*b<=140737488355328)(h1:xs.length+ys.length<=140737488355328):app b xs ys=some (xs++ys):=by unfold app; rw[AnT ⟨h,h1⟩]
theorem Qp {α:Type}(b:Nat){ys:List α}(h:ys.length*b<=140737488355328)(h1:ys.length<=140737488355328):app b [] ys=some ys:=by
 rw[Ly b (by simpa using h) (by simpa using h1)]; rfl
theorem cut_tl {α:Type}(x:α)(xs:List α):cut (x::xs) 1 (((x::xs).length:Nat):Int)=some xs:=by
 unfold cut;rw[AnT ⟨by omega,by rw[AnR]; omega,by omega⟩];show some (List.take _ xs)=_;rw[Aow];simp
def be8 (n:Int):List UInt8:=[toB (A9 n 56),toB (A9 n 48),toB (A9 n 40),toB (A9 n 32),toB (A9 n 24),toB (A9 n 16),toB (A9 n 8),toB (A9 n 0)]
def Jz:List UInt8->Bool
 | []=>false
 | [_]=>true
 |a::b::l=>decide (((a::b::l).length:Int)<=8)&&((a.toNat:Int) !=((toB (-((Ae0 b 7).toNat:Int))).toNat:Int))
def Zo:List UInt8->List UInt8
 | []=> []
 | [a]=> [a]
 |a::b::l=>if Jz (a::b::l)=true then a::b::l else Zo (b::l)
theorem Yf (l:List UInt8):KB l=some (Jz l):=by
 match l with
 | []=>rfl
 | [a]=>rfl
 |a::b::l=>
  unfold KB;have e0:(((a::b::l).length:Int)==0)=false:=by simp only[Aon,AnR]; omega
  have e1:(((a::b::l).length:Int)==1)=false:=by simp only[Aon,AnR]; omega
  have i0:idx (a::b::l) 0=some a:=rfl;have i1:idx (a::b::l) 1=some b:=rfl;rw[e0,e1,i0,i1];simp only[Bool.false_eq_true,if_false,Aa,CG,Jz];cases decide (((a::b::l).length:Int)<=8)<;>rfl
theorem AeJ: ∀(n:Nat) (l:List UInt8),l.length<n->iter EE n l=some (Zo l)
 |0,l,h=>by omega
 |n+1,l,h=>by
  show Ab (EE l) _=_;match l with
  | []=>rfl
  | [a]=>rfl
  |a::b::l=>
   have ih:=AeJ n (b::l) (by simp only[AnR]at h⊢; omega);have e0:decide (((a::b::l).length:Int)>1)=true:=by simp only[AnV,AnR]; omega
   cases hl:Jz (a::b::l)with
   |true=>
    have e:EE (a::b::l)=some (.inr (a::b::l)):=by
     unfold EE;rw[e0,AnT rfl,Yf,hl];rfl
    rw[e];simp[Zo,hl]
   |false=>
    have e:EE (a::b::l)=some (.inl (b::l)):=by
     unfold EE;rw[e0,AnT rfl,Yf,hl,cut_tl];rfl
    rw[e];simp only[Aa];rw[ih];simp[Zo,hl]
theorem Tz: ∀(l:List UInt8),(Zo l).length<=l.length
 | []=>AnX _
 | [a]=>AnX _
 |a::b::l=>by
  have ih:=Tz (b::l);unfold Zo;split
  ·exact AnX _
  ·rw[AnR]; omega
def Vu (n:Int):g_api_Item:=⟨2,Zo (be8 n),[]⟩
theorem be8_eq (n:Int):Di (OE n) 8 0 (0,0,0,0,0,0,0,0)=some (toB (A9 n 56),toB (A9 n 48),toB (A9 n 40),toB (A9 n 32),toB (A9 n 24),toB (A9 n 16),toB (A9 n 8),toB (A9 n 0)):=rfl
theorem Adc {l:List UInt8}(h:l.length<=140737488355328):Bc l=some l:=by
 unfold Bc;rw[Qp 1 (by omega) h]; rfl
theorem Agq (n:Int):FX n=some (Vu n):=by
 have h8:(be8 n).length=8:=rfl;have h:=Tz (be8 n);unfold FX;rw[be8_eq];show Ab (Ab (iter EE AY (be8 n)) _) _=_;rw[AeJ AY (be8 n) (by rw[h8]; have:=Bw; omega)];show Ab (Bc (Zo (be8 n))) _=_;rw[Adc (by omega)];rfl
def Sj (x:UInt64):g_api_Item:=Vu (w64 (x.toNat:Int))
theorem Adi (x:UInt64):Fg x=some (Sj x):=by unfold Fg; rw[Agq]; rfl
def Kj (s:ByteArray):g_api_Item:=⟨12,s.data.toList,[]⟩
def YG (v:Bool):g_api_Item:=⟨1,[if v=true then 255 else 0],[]⟩
def XL (l:List g_api_Item):g_api_Item:=⟨48,[],l⟩
theorem XG {s:ByteArray}(h:s.size<=140737488355328):J4 s=some (Kj s):=by
 unfold J4;rw[Qp 1 (by rw[AN]; omega) (by rw[AN]; exact h)]; rfl
theorem Aj2 (v:Bool):R8 v=some (YG v):=by cases v<;>rfl
theorem PZ {l:List g_api_Item}(h:l.length<=1000000):GU l=some (XL l):=by
 unfold GU Bz;rw[Qp 56 (by omega) (by omega)]; rfl
theorem Aca: ∀(l:List ByteArray) (i:Int) (a:List g_api_Item),(∀s∈l,s.size<=64)->a.length+l.length<=1000000->FE B1 l i a=some (a++l.map Kj)
 | [],i,a,_,_=>by simp[FE]
 |s::l,i,a,h,hn=>by
  rw[AnR]at hn;have ih:=Aca l (i+1) (a++[Kj s]) (λx hx=>h x (Aok _ hx)) (by rw[AnY]; show a.length+1+_<=_; omega);have e:B1 i s a=some (a++[Kj s]):=by
   unfold B1;rw[XG (by have:=h s Aoe; omega),Aa,Ly 56 (by show(a.length+1)*56<=_; omega) (by show a.length+1<=_; omega)];rfl
  show Ab (B1 i s a) _=_;rw[e];show FE _ l (i+1) (a++[Kj s])=_;rw[ih];simp
def Pv (l:List ByteArray):g_api_Item:=XL (l.map Kj)
theorem Acb {l:List ByteArray}(h: ∀s∈l,s.size<=64)(hn:l.length<=1000000):BT l=some (Pv l):=by
 unfold BT;rw[Aca l 0 [] h (by simpa using hn)];simp only[Aa,AoJ];rw[PZ (by rw[AoB]; exact hn)]; rfl
def Oo (p:g_api_Promise):g_api_Item:=XL [Vu p.Log,Vu p.At,Sj p.Leaf.1,Sj p.Leaf.2,Sj p.Sig.E,Sj p.Sig.S]
theorem Aiz (p:g_api_Promise):J1 p=some (Oo p):=by
 unfold J1;simp only[Agq,Adi,Aa];rw[PZ (by simp)]; rfl
theorem Acw: ∀(l:List g_api_Promise) (i:Int) (a:List g_api_Item),a.length+l.length<=1000000->FE Bf l i a=some (a++l.map Oo)
 | [],i,a,_=>by simp[FE]
 |s::l,i,a,hn=>by
  rw[AnR]at hn;have ih:=Acw l (i+1) (a++[Oo s]) (by rw[AnY]; show a.length+1+_<=_; omega);have e:Bf i s a=some (a++[Oo s]):=by
   unfold Bf;rw[Aiz,Aa,Ly 56 (by show(a.length+1)*56<=_; omega) (by show a.length+1<=_; omega)];rfl
  show Ab (Bf i s a) _=_;rw[e];show FE _ l (i+1) (a++[Oo s])=_;rw[ih];simp
def Acy (l:List g_api_Promise):g_api_Item:=XL (l.map Oo)
theorem AfI {l:List g_api_Promise}(hn:l.length<=1000000):BE l=some (Acy l):=by
 unfold BE;rw[Acw l 0 [] (by simpa using hn)];simp only[Aa,AoJ];rw[PZ (by rw[AoB]; exact hn)]; rfl
structure Ab0 (c:g_api_Cert):Prop where
 issuer:c.Issuer.size<=64
 subject:c.Subject.size<=64
 names: ∀s∈c.Names,s.size<=64
 few:c.Names.length<=8
 permit: ∀s∈c.Permit,s.size<=64
 fewP:c.Permit.length<=8
 proms:c.Proms.length<=4
def Akx (c:g_api_Cert):g_api_Item:=XL [Vu c.Serial,Kj c.Issuer,Kj c.Subject,Sj c.Key,Pv c.Names,Vu c.From,Vu c.Until,YG c.Ca,Vu c.Depth,Pv c.Permit]
def YH (c:g_api_Cert):g_api_Item:=XL [Akx c,Acy c.Proms]
def wholeI (c:g_api_Cert):g_api_Item:=XL [YH c,XL [Sj c.Sig.E,Sj c.Sig.S]]
theorem Amm {c:g_api_Cert}(h:Ab0 c):Mj c=some (Akx c):=by
 unfold Mj;have h1:=h.issuer; have h2:=h.subject; have h3:=h.few; have h4:=h.fewP;simp only[Agq,Adi,Aj2,XG (s:=c.Issuer) (by omega),XG (s:=c.Subject) (by omega),Acb h.names (by omega),Acb h.permit (by omega),Aa];rw[PZ (by simp)]; rfl
theorem Aj3 {c:g_api_Cert}(h:Ab0 c):KJ c=some (YH c):=by
 unfold KJ;have h1:=h.proms;rw[Amm h,AfI (by omega)];simp only[Aa];rw[PZ (by simp)]; rfl
theorem Aez {c:g_api_Cert}(h:Ab0 c):Lt c=some (wholeI c):=by
 unfold Lt;rw[Aj3 h,Adi,Adi];simp only[Aa];rw[PZ (by simp)];simp only[Aa];rw[PZ (by simp)]; rfl
structure Form (c:g_api_Cert):Prop where
 proms:promsB (-1) c.Proms=true
 serial:numB c.Serial=true
 frm:numB c.From=true
 til:numB c.Until=true
 lt:c.From<c.Until
 issuer:textV c.Issuer=true
 key0:(c.Key.toNat:Int)≠0
 keyQ:(c.Key.toNat:Int)<2305843009213691579
 nproms:(c.Proms.length:Int)<=4
 sig:sigB c.Sig=true
 ca:c.Ca=true->textV c.Subject=true/\c.Names=[]/\0<=c.Depth/\c.Depth<=4/\listV patV c.Permit 0 8=true
 leaf:c.Ca=false->c.Subject=(⟨#[]⟩:ByteArray)/\listV nameV c.Names 1 8=true/\c.Depth=0/\c.Permit=[]
theorem AgE {c:g_api_Cert}(h:formB c=true):Form c:=by
 unfold formB at h;simp only[AnP,AnV,Bool.not_eq_true',Aon]at h;obtain⟨⟨⟨h1,⟨⟨h2,h3⟩,h4⟩,h5⟩,⟨⟨⟨h6,h7⟩,h8⟩,h9⟩,h10⟩,h11⟩:=h;refine⟨h1,h2,h3,h4,h5,h6,h7,h8,h9,h10,λe=> ?_,λe=> ?_⟩
 ·rw[AnT e]at h11;simp only[AnP,AnV,Aou]at h11;obtain⟨⟨⟨⟨a,b⟩,d⟩,f⟩,g⟩:=h11;exact⟨a,List.eq_nil_of_length_eq_zero (by omega),by omega,f,g⟩
 ·rw[e]at h11;simp only[Bool.false_eq_true,if_false,AnP,AnV,Aou]at h11;obtain⟨⟨⟨a,b⟩,d⟩,f⟩:=h11;exact⟨Jx.1 a,b,d,List.eq_nil_of_length_eq_zero (by omega)⟩
theorem ZU {right:ByteArray->Int}{l:List ByteArray}{a b:Int}(h:listV right l a b=true):a<=l.length/\(l.length:Int)<=b/\∀s∈l,right s=0:=by
 unfold listV at h;simp only[AnP,AnV]at h;exact⟨by omega,h.2,ZV h.1.1⟩
theorem Form.sized {c:g_api_Cert}(h:Form c):Ab0 c:=by
 have hi:=(Acd h.issuer).2;have hp:=h.nproms;cases hc:c.Ca with
 |true=>
  obtain⟨h1,h2,h3,h4,h5⟩:=h.ca hc;obtain⟨l1,l2,l3⟩:=ZU h5;exact⟨hi,(Acd h1).2,(by rw[h2]; intro s hs; cases hs),by rw[h2]; decide,λs hs=>AfU (l3 s hs),by omega,by omega⟩
 |false=>
  obtain⟨h1,h2,h3,h4⟩:=h.leaf hc;obtain⟨l1,l2,l3⟩:=ZU h2;exact⟨hi,by rw[h1]; decide,λs hs=>AdT (l3 s hs),by omega,(by rw[h4]; intro s hs; cases hs),by rw[h4]; decide,by omega⟩
theorem Anh (t:Int):J3 t=some (if t=1 then(⟨1,428⟩,true)else if t=2 then(⟨2,299⟩,true)else if t=4 then(⟨4,429⟩,true)else if t=12 then(⟨12,430⟩,true)else if t=48 then(⟨48,432⟩,true)else(⟨0,-1⟩,false)):=by
 by_cases h1:t=1
 ·subst h1; rfl
 by_cases h2:t=2
 ·subst h2; rfl
 by_cases h3:t=4
 ·subst h3; rfl
 by_cases h4:t=12
 ·subst h4; rfl
 by_cases h5:t=48
 ·subst h5; rfl
 rw[AnW h1,AnW h2,AnW h3,AnW h4,AnW h5];have b: ∀(k:Int),t≠k->((k==t)=true)=False:=λk h=>by simp only[Aou,eq_iff_iff,iff_false]; exact λe=>h e.symm
 have g:CE (An tab_2) tab_2.length 0 t=some (.inl t):=by
  have i: ∀(j:Nat) (k:Gq),idx tab_2 (j:Int)=some k->t≠k.tag_->An tab_2 (j:Int) t=some (.inl t):=λj k e hk=>by
   have hb:(k.tag_==t)=false:=by simp only[Aon]; exact λe=>hk e.symm
   unfold An OD;rw[e];simp only[Aa,hb,Bool.false_eq_true,if_false]
  show Ab (An tab_2 ((0:Nat):Int) t) _=_;rw[i 0 ⟨1,428⟩ rfl h1];show Ab (An tab_2 ((1:Nat):Int) t) _=_;rw[i 1 ⟨2,299⟩ rfl h2];show Ab (An tab_2 ((2:Nat):Int) t) _=_;rw[i 2 ⟨4,429⟩ rfl h3];show Ab (An tab_2 ((3:Nat):Int) t) _=_;rw[i 3 ⟨12,430⟩ rfl h4];show Ab (An tab_2 ((4:Nat):Int) t) _=_;rw[i 4 ⟨48,432⟩ rfl h5];rfl
 unfold J3 Bq;rw[g];rfl
def U2 (t:Int):Bool:=t==1||t==2||t==4||t==12||t==48
def boolB (b:List UInt8):Bool:=match b with| [x]=>x==0||x==255|_=>false
def LW (b:List UInt8):Bool:=b.all λc=>decide (32<=c.toNat)&&decide (c.toNat<=126)
def AdW (t:Int)(b:List UInt8):Bool:=if t=1 then boolB b else if t=2 then Jz b else if t=4 then true else if t=12 then LW b else if t=48 then b.isEmpty else false
theorem ZX (b:List UInt8):Gn b=some (boolB b):=by
 match b with
 | []=>rfl
 | [x]=>
  unfold Gn;have e1:((([x]:List UInt8).length:Int)==1)=true:=rfl;have e2:idx [x] 0=some x:=rfl;rw[e1,e2];have e3: ∀n:UInt8,((x.toNat:Int)==n.toNat)=(x==n):=λn=>by
   rw[Aoq,Aou,Aou,<-UInt8.toNat_inj];omega
  have z0:((x.toNat:Int)==0)=(x==0):=e3 0;have z1:((x.toNat:Int)==255)=(x==255):=e3 255;simp only[PD,Aa,CG,z0,z1,Aof];show _=some (x==0||x==255);cases h:x==0 with
  |true=>rfl
  |false=>simp only[AoW,PD,Aa,CG,z1,AoM]
 |x::y::l=>
  unfold Gn;have e1:(((x::y::l).length:Int)==1)=false:=by simp only[Aon,AnR]; omega
  rw[e1];rfl
theorem AkN: ∀(a b:List UInt8),∃r,CE (AD (a++b)) b.length (a.length:Int) ()=some r/\(r= .inl ()↔LW b=true)/\∀i,r= .inr i->0<=i
 |a,[]=>⟨.inl (),rfl,by simp[LW],λi h=>by cases h⟩
 |a,c::b=>by
  have hi:idx (a++c::b) (a.length:Int)=some c:=by
   unfold idx;rw[AnT (by omega)];simp
  obtain⟨r,h1,h2,h3⟩:=AkN (a++[c]) b;have ec:(decide ((c.toNat:Int)<32)||decide ((c.toNat:Int)>126))= !(decide (32<=c.toNat)&&decide (c.toNat<=126)):=by
   rw[Aoq];simp only[Aox,Bool.not_eq_true',Bool.and_eq_false_iff,AnV,decide_eq_false_iff_not];omega
  have st:AD (a++c::b) (a.length:Int) ()=some (if(decide (32<=c.toNat)&&decide (c.toNat<=126))=true then .inl ()else .inr (a.length:Int)):=by
   unfold AD KC;rw[hi];simp only[Aa,CG,ec];cases decide (32<=c.toNat)&&decide (c.toNat<=126)<;>rfl
  show∃r,Ab (AD (a++c::b) (a.length:Int) ()) _=some r/\_;rw[st];cases hc:decide (32<=c.toNat)&&decide (c.toNat<=126)with
  |false=>exact⟨.inr (a.length:Int),rfl,by simp[LW,hc],λi h=>(by cases h; omega)⟩
  |true=>
   refine⟨r,?_,?_,h3⟩
   ·show CE (AD (a++c::b)) b.length ((a.length:Int)+1) ()=some r;rw[<-h1];simp
   ·rw[h2];simp only[LW,AoE,hc,Aof]
theorem Agi (b:List UInt8):JY b=some (LW b):=by
 obtain⟨r,h1,h2,h3⟩:=AkN [] b;unfold JY BV Cr;have h1:CE (AD b) b.length 0 ()=some r:=h1;rw[h1];cases r with
 |inl u=>rw[h2.1 rfl]; rfl
 |inr i=>
  have hp:LW b=false:=by
   cases h:LW b with
   |false=>rfl
   |true=>exact absurd (h2.2 h) (by simp)
  have hi:=h3 i rfl;rw[hp];show some (!(decide (i>=0)))=_;rw[An1 hi]; rfl
theorem Agh (b:List UInt8):JX b=some b.isEmpty:=by
 cases b with
 |nil=>rfl
 |cons a l=>
  unfold JX;have:(((a::l).length:Int)==0)=false:=by simp only[Aon,AnR]; omega
  rw[this]; rfl
theorem AbD {t:Int}(h:U2 t=true):t=1\/t=2\/t=4\/t=12\/t=48:=by
 unfold U2 at h;simp only[Aox,Aou]at h;omega
theorem WC {t:Int}(h:U2 t=true): ∃k,J3 t=some (k,true)/\k.tag_=t/\∀b,TG k.may_ b=some (AdW t b):=by
 rcases AbD h with e|e|e|e|e
 ·subst e; exact⟨_,rfl,rfl,ZX⟩
 ·subst e; exact⟨_,rfl,rfl,Yf⟩
 ·subst e; exact⟨_,rfl,rfl,λb=>rfl⟩
 ·subst e; exact⟨_,rfl,rfl,Agi⟩
 ·subst e; exact⟨_,rfl,rfl,Agh⟩
theorem ON {t:Int}(h:U2 t=false):J3 t=some (⟨0,-1⟩,false)/\∀b,AdW t b=false:=by
 unfold U2 at h;simp only[Bool.or_eq_false_iff,Aon]at h;obtain⟨⟨⟨⟨h1,h2⟩,h3⟩,h4⟩,h5⟩:=h;refine⟨?_,λb=> ?_⟩
 ·rw[Anh,AnW h1,AnW h2,AnW h3,AnW h4,AnW h5]
 ·unfold AdW;rw[AnW h1,AnW h2,AnW h3,AnW h4,AnW h5]
def mayB:Nat->g_api_Item->Bool
 |0,_=>false
 |d+1,x=>AdW x.Tag x.B&&(x.Tag==48||x.L.isEmpty)&&x.L.all (mayB d)
theorem AkO (rF:g_api_Item->Int->Option Bool)(p:g_api_Item->Bool)(d:Int): ∀(a b:List g_api_Item),(∀y∈b,rF y (w64 (d-1))=some (p y))->
  ∃r,CE (Aq rF (a++b)) b.length (a.length:Int) d=some r/\(r= .inl d↔b.all p=true)/\(∀e,r= .inl e->e=d)/\∀i,r= .inr i->0<=i.1
 |a,[],_=>⟨.inl d,rfl,by simp,λe h=>by cases h; rfl,λi h=>by cases h⟩
 |a,c::b,h=>by
  have hi:idx (a++c::b) (a.length:Int)=some c:=by
   unfold idx;rw[AnT (by omega)];simp
  obtain⟨r,h1,h2,h4,h3⟩:=AkO rF p d (a++[c]) b λy hy=>h y (Aok _ hy);have st:Aq rF (a++c::b) (a.length:Int) d=some (if p c=true then .inl d else .inr ((a.length:Int),d)):=by
   unfold Aq Nj;rw[hi];simp only[Aa,h c Aoe];cases p c<;>rfl
  show∃r,Ab (Aq rF (a++c::b) (a.length:Int) d) _=some r/\_;rw[st];cases hc:p c with
  |false=>exact⟨.inr ((a.length:Int),d),rfl,by simp[hc],λe h=>(by cases h),λi h=>(by cases h; exact AoL _)⟩
  |true=>
   refine⟨r,?_,?_,h4,h3⟩
   ·show CE (Aq rF (a++c::b)) b.length ((a.length:Int)+1) d=some r;rw[<-h1];simp
   ·rw[h2];simp only[AoE,hc,Aof]
theorem AbQ (rF:g_api_Item->Int->Option Bool)(p:g_api_Item->Bool)(d:Int)(l:List g_api_Item)(h: ∀y∈l,rF y (w64 (d-1))=some (p y)):
  ∃z,AM rF l d=some (!(l.all p),z):=by
 obtain⟨r,h1,h2,h4,h3⟩:=AkO rF p d [] l h;have h1:CE (Aq rF l) l.length 0 d=some r:=h1;unfold AM Bg;rw[h1];cases r with
 |inl u=>
  have:=h4 u rfl;subst this;rw[h2.1 rfl];exact⟨_,rfl⟩
 |inr i=>
  have hp:l.all p=false:=by
   cases h:l.all p with
   |false=>rfl
   |true=>exact absurd (h2.2 h) (by simp)
  have hi:=h3 i rfl;rw[hp];refine⟨i.2,?_⟩;show some (decide (i.1>=0),i.2)=_;rw[An1 hi]; rfl
theorem AkF: ∀(d n:Nat) (x:g_api_Item),d<n->d<=100->I6 n x (d:Int)=some (mayB d x)
 |d,0,x,h,_=>by omega
 |0,n+1,x,_,_=>by
  show IG (I6 n) x 0=some false;unfold IG;cases hk:U2 x.Tag with
  |false=>rw[(ON hk).1]; rfl
  |true=>
   obtain⟨k,e,_,_⟩:=WC hk;rw[e]; rfl
 |d+1,n+1,x,h,hd=>by
  have ih: ∀y∈x.L,I6 n y (w64 (((d+1:Nat):Int)-1))=some (mayB d y):=λy _=>by
   rw[show w64 (((d+1:Nat):Int)-1)=(d:Int)from by rw[HL (by omega) (by omega)]; omega];exact AkF d n y (by omega) (by omega)
  obtain⟨z,hz⟩:=AbQ (I6 n) (mayB d) ((d+1:Nat):Int) x.L ih;show IG (I6 n) x ((d+1:Nat):Int)=some (mayB (d+1) x);unfold IG mayB;have e1:decide (((d+1:Nat):Int)<1)=false:=by rw[decide_eq_false_iff_not]; omega
  have e2:decide ((x.L.length:Int)>0)= !x.L.isEmpty:=by
   cases x.L with
   |nil=>rfl
   |cons a l=>show decide _=true; rw[AnV,AnR]; omega
  have e3:(x.Tag !=48)= !(x.Tag==48):=rfl;rw[e1,e2,e3];cases hk:U2 x.Tag with
  |false=>
   rw[(ON hk).1,(ON hk).2]; rfl
  |true=>
   obtain⟨k,e,_,hm⟩:=WC hk;rw[e];simp only[Aa,AoI,Bool.or_false,AoW,PD,hm,hz,Bool.not_not];cases AdW x.Tag x.B<;>cases x.Tag==48<;>cases x.L.isEmpty<;>rfl
theorem Amz (x:g_api_Item):UU x 8=some (mayB 8 x):=AkF 8 AY x (by have:=Bw; omega) (by decide)
end Go.Proofs.YtnhdojckpcbjeaaGreatDoor
end
