/- Several texts, one behind the other. Conditions: none. -/
import Derived.Test.YtnhdojckpcbjeaaGreatDoorZi
import Derived.Test.YtnhdojckpcbjeaaGreatDoorZj
import Derived.Test.YtnhdojckpcbjeaaGreatDoorZk
import Derived.Test.YtnhdojckpcbjeaaGreatDoorZl
import Derived.Test.YtnhdojckpcbjeaaGreatDoorZm
import Derived.KernelRfl
import Derived.Test.YtnhdojckpcbjeaaGreatDoorZb
set_option linter.unusedSimpArgs false
set_option linter.unusedVariables false
set_option maxHeartbeats 4000000
set_option maxRecDepth 100000
section
namespace Go.Proofs.YtnhdojckpcbjeaaGreatDoor
open Go Go.Gw Go.Ax
theorem De {α β:Type}(a:α)(k:α→β):bnd a k=k a:=rfl
theorem LK {σ τ:Type}{step:σ→Option (σ⊕τ)}{s:σ}{t:τ}(n:Nat)(h:iter step n s=some t)(hn:n≤18446744073709551616):iter step Gr s=some t:=V0 h hn
theorem Er {σ τ:Type}{step:σ→Option (σ⊕τ)}{n:Nat}{s s':σ}(h:step s=some (.inl s')):iter step (n+1) s=iter step n s':=by simp only[iter,h,Aa]
theorem Fw {σ τ:Type}{step:σ→Option (σ⊕τ)}{n:Nat}{s:σ}{t:τ}(h:step s=some (.inr t)):iter step (n+1) s=some t:=by simp only[iter,h,Aa]
theorem NL {α:Type}(b:Nat){xs ys:List α}(h:(xs.length+ys.length)*b≤140737488355328)(h1:xs.length+ys.length≤140737488355328):app b xs ys=some (xs++ys):=by unfold app; rw[Ain ⟨h,h1⟩]
theorem YR {α:Type}{xs:List α}{lo hi:Nat}(h1:lo≤hi)(h2:hi≤xs.length):cut xs (lo:Int) (hi:Int)=some ((xs.drop lo).take (hi-lo)):=by
 unfold cut; rw[Ain ⟨by omega,by omega,by omega⟩]; simp
def AdK (hi lo:UInt64):UInt64:=
 let n:=(lo&&&2305843009213693951)+((Mi hi 3)|||(E7 lo 61))
 let k:=(n&&&2305843009213693951)+E7 n 61
 if 2305843009213693951≤k.toNat then k-2305843009213693951 else k
theorem Acd (a b:UInt64):II a b=some (AdK a b):=by
 unfold II AdK;simp only[De];generalize (b&&&2305843009213693951)+((Mi a 3)|||(E7 b 61))=n;generalize (n&&&2305843009213693951)+E7 n 61=k;by_cases h:2305843009213693951≤k.toNat
 ·rw[Ain h,Ain (AiI (by omega))]; rfl
 ·rw[Ail h,Ail (by simp; omega)]; rfl
def Afj (a:UInt64):UInt64:=AdK 0 a
theorem Afm (a:UInt64):FQ a=some (Afj a):=by simp only[FQ,Acd,Aa]; rfl
def J3 (a b:UInt64):UInt64:=Afj (Afj a+Afj b)
theorem Y3 (a b:UInt64):G4 a b=some (J3 a b):=by simp only[G4,Afm,Aa]; rfl
def phi (a0 a1:UInt64):UInt64:=
 let x1:=(a0&&&4294967295)*(a1&&&4294967295)
 let x2:=((E7 a0 32)*(a1&&&4294967295))+(E7 x1 32)
 let x3:=(x2&&&4294967295)+((a0&&&4294967295)*(E7 a1 32))
 (((E7 a0 32)*(E7 a1 32))+(E7 x2 32))+(E7 x3 32)
theorem UA (a b:UInt64):IL a b=some (phi a b,a*b):=rfl
def pmul (a b:UInt64):UInt64:=AdK (phi (Afj a) (Afj b)) (Afj a*Afj b)
theorem mul_eq (a b:UInt64):JN a b=some (pmul a b):=by simp only[JN,Afm,UA,Acd,Aa]; rfl
def W1 (a:UInt64):UInt64:=
 let b:=pmul a a
 let c:=pmul b b
 let d:=pmul c c
 pmul a (pmul d d)
theorem sev_eq (a:UInt64):E5 a=some (W1 a):=by
 simp only[E5,CS,JM,mul_eq,Aa]; rfl
def Yl (r i:Int):UInt64:=let n:=toU (w64 ((w64 ((w64 (3*r))+i))+1)); n*n*n+7
def pall (r:Int)(s:UInt64×UInt64×UInt64):UInt64:=J3 (J3 (J3 0 (W1 (J3 s.1 (Yl r 0)))) (W1 (J3 s.2.1 (Yl r 1)))) (W1 (J3 s.2.2 (Yl r 2)))
def OH (r:Int)(s:UInt64×UInt64×UInt64):UInt64×UInt64×UInt64:=(J3 (W1 (J3 s.1 (Yl r 0))) (pall r s),J3 (W1 (J3 s.2.1 (Yl r 1))) (pall r s),J3 (W1 (J3 s.2.2 (Yl r 2))) (pall r s))
theorem Ag2 (i:Int)(a:UInt64)(r:Int)(all:UInt64):Ki i a r all=some (W1 (J3 a (Yl r i)),r,J3 all (W1 (J3 a (Yl r i)))):=by
 simp only[Ki,De,Y3,sev_eq,Aa]; rfl
theorem Ag1 (i:Int)(a:UInt64)(all:UInt64):Kh i a all=some (J3 a all,all):=by
 simp only[Kh,Y3,Aa]
theorem AeD (a b c:UInt64)(r:Int)(all:UInt64):DJ (a,b,c) r all=some ((W1 (J3 a (Yl r 0)),W1 (J3 b (Yl r 1)),W1 (J3 c (Yl r 2))),r,J3 (J3 (J3 all (W1 (J3 a (Yl r 0)))) (W1 (J3 b (Yl r 1)))) (W1 (J3 c (Yl r 2)))):=by
 have e0:idx [a,b,c] 0=some a:=rfl;have e1: ∀x,idx [x,b,c] 1=some b:=fun _=>rfl;have e2: ∀x y,idx [x,y,c] 2=some c:=fun _ _=>rfl;simp[DJ,CS,GI,De,Ag2,e0,e1,e2]
theorem AeC (a b c all:UInt64):DI (a,b,c) all=some ((J3 a all,J3 b all,J3 c all),all):=by
 have e0:idx [a,b,c] 0=some a:=rfl;have e1: ∀x,idx [x,b,c] 1=some b:=fun _=>rfl;have e2: ∀x y,idx [x,y,c] 2=some c:=fun _ _=>rfl;simp[DI,CS,GH,De,Ag1,e0,e1,e2]
theorem Ag0 (r:Int)(s:UInt64×UInt64×UInt64):LF r s=some (OH r s):=by
 obtain⟨a,b,c⟩:=s;unfold LF;rw[AeD,Aa,AeC,Aa];rfl
def Z3 (s:UInt64×UInt64×UInt64):UInt64×UInt64×UInt64:=OH 7 (OH 6 (OH 5 (OH 4 (OH 3 (OH 2 (OH 1 (OH 0 s)))))))
theorem AbG (s:UInt64×UInt64×UInt64):KZ s=some (Z3 s):=by
 simp only[KZ,CS,Ag0,Aa];rfl
def ple:List UInt8→Nat→UInt64→UInt64
 | [],_,s=>s
 |b::bs,i,s=>ple bs (i+1) (s|||Mi (toU (b.toNat:Int)) (8*i))
theorem b6_eq (b5:List UInt8): ∀(l:List UInt8) (i:Nat) (s:UInt64),b5.drop i=l→i+l.length≤1000000→CS (Gn b5) l.length (i:Int) s=some (ple l i s):=by
 intro l;induction l with
 |nil=>intro i s _ _; rfl
 |cons b l ih=>
  intro i s h hb;have hx:idx b5 (i:Int)=some b:=Dd (by
   have:(b5.drop i)[0]? =some b:=by rw[h]; rfl
   simpa using this)
  simp only[Aij]at hb;have hw:w64 (8*(i:Int))=((8*i:Nat):Int):=by rw[Cz (by omega) (by omega)]; omega
  have hstep:Gn b5 (i:Int) s=some (s|||Mi (toU (b.toNat:Int)) (8*i)):=by
   simp only[Gn,hx,Aa,hw,De];rw[Ain (by omega)]; rfl
  show CS (Gn b5) (l.length+1) _ _=_;simp only[CS,hstep,Aa,ple];have:=ih (i+1) (s|||Mi (toU (b.toNat:Int)) (8*i)) (by rw[←Ajb,h]; rfl) (by omega);simpa using this
def pof (n:Nat)(l:List UInt8):List UInt64:=match n,l with|_,[]=> []|0,_=> []|n+1,l=>ple (l.take 7) 0 0::pof n (l.drop 7)
theorem AgR (n:Nat): ∀l,(pof n l).length≤n:=by
 induction n with
 |zero=>intro l; cases l<;>simp[pof]
 |succ n ih=>intro l; cases l with
  |nil=>simp[pof]
  |cons a l=>simp only[pof,Aij]; have:=ih ((a::l).drop 7); omega
theorem AeK (a0:List UInt8)(hb:a0.length≤1000000): ∀(n i:Nat) (out:List UInt64),a0.length≤i+n→i≤1000000+7→out.length+n≤1000000→
  iter (BJ (fun(s:(List UInt64)) (b0:List UInt8)=>Ab (Gp b0 s) fun y=>some (true,y)) a0 7) (n+1) ((i:Int),out)=some (.inl (out++pof n (a0.drop i))):=by
 intro n;induction n with
 |zero=>
  intro i out h _ _;have:a0.drop i=[]:=AiW (by omega);refine Fw ?_;simp only[BJ,this];rw[Ail (by simp; omega)];simp[pof]
 |succ n ih=>
  intro i out h hi ho;by_cases hlt:i<a0.length
  ·obtain⟨b,l,hl⟩: ∃b l,a0.drop i=b::l:=⟨a0[i],a0.drop (i+1),List.drop_eq_getElem_cons hlt⟩;have hc1:cut a0 (i:Int) (a0.length:Int)=some (a0.drop i):=by
    rw[YR (by omega) (by omega)]; congr 1; rw[AiY (by simp)]
   have hlen:(a0.drop i).length=a0.length-i:=by simp
   have hm:w64 ((i:Int)+Xd 7 ((a0.drop i).length:Int))=((i+min 7 (a0.length-i):Nat):Int):=by
    rw[Cz]<;>unfold Xd<;>split<;>omega
   have hc2:cut a0 (i:Int) ((i+min 7 (a0.length-i):Nat):Int)=some ((a0.drop i).take 7):=by
    rw[YR (by omega) (by omega)]; congr 1;rw[Nat.add_sub_cancel_left];by_cases h7:7≤a0.length-i
    ·rw[Nat.min_eq_left h7]
    ·rw[Nat.min_eq_right (by omega),AiY (by simp),AiY (by simp; omega)]
   have hw:w64 ((i:Int)+7)=((i+7:Nat):Int):=by rw[Cz (by omega) (by omega)]; omega
   have hb4:Gp ((a0.drop i).take 7) out=some (out++[ple ((a0.drop i).take 7) 0 0]):=by
    have:=b6_eq ((a0.drop i).take 7) ((a0.drop i).take 7) 0 0 rfl (by simp; omega);simp only[Gp];rw[show((0:Int))=((0:Nat):Int)from rfl,this];simp only[Aa];rw[NL 8 (by simp; omega) (by simp; omega)];rfl
   rw[Er (s':=(((i+7:Nat):Int),out++[ple ((a0.drop i).take 7) 0 0]))]
   ·rw[ih (i+7) _ (by omega) (by omega) (by simp; omega)];rw[hl];simp only[pof];rw[←hl,Ajb];simp
   ·simp only[BJ];rw[Ain (AiI (by omega)),hc1];simp only[Aa,hm,hc2,hb4,hw];rfl
  ·have:a0.drop i=[]:=AiW (by omega);refine Fw ?_;simp only[BJ,this];rw[Ail (by simp; omega)];simp[pof]
theorem of_eq (a0:List UInt8)(hb:a0.length≤900000):K0 a0=some (pof a0.length a0):=by
 have h:=AeK a0 (by omega) a0.length 0 [] (by omega) (by omega) (by simp; omega);have h':=LK _ h (by omega);simp only[K0,Eo,DO];rw[Ail (by decide)];simp only[Aa,List.drop_zero,Ai5]at h'⊢;rw[show((0:Int))=((0:Nat):Int)from rfl,h'];simp only[Aa]
def Ns (n:Nat)(l:List UInt64)(s:UInt64×UInt64×UInt64):UInt64×UInt64×UInt64:=match n,l with|_,[]=>s|0,_=>s|_+1,[x]=>Z3 (J3 s.1 x,s.2.1,s.2.2)|n+1,x::y::l=>Ns n l (Z3 (J3 s.1 x,J3 s.2.1 y,s.2.2))
theorem b4_eq1 (x:UInt64)(s:UInt64×UInt64×UInt64):CS (HB [x]) 1 0 s=some (J3 s.1 x,s.2.1,s.2.2):=by
 have e0:idx [x] (0:Int)=some x:=rfl;have e1:idx [s.1,s.2.1,s.2.2] (0:Int)=some s.1:=rfl;simp[CS,HB,e0,e1,Y3,De]
theorem b4_eq2 (x y:UInt64)(s:UInt64×UInt64×UInt64):CS (HB [x,y]) 2 0 s=some (J3 s.1 x,J3 s.2.1 y,s.2.2):=by
 have e0:idx [x,y] (0:Int)=some x:=rfl;have e1:idx [s.1,s.2.1,s.2.2] (0:Int)=some s.1:=rfl;have e2:idx [x,y] 1=some y:=rfl;have e3:idx [J3 s.1 x,s.2.1,s.2.2] 1=some s.2.1:=rfl;simp[CS,HB,e0,e1,e2,e3,Y3,De]
theorem b3_nil (fst:Bool)(hf:fst=true)(s:UInt64×UInt64×UInt64):CX ([],fst,s.1,s.2.1,s.2.2)=some (.inl ([],false,Z3 s)):=by
 subst hf;have hc:cut ([]:List UInt64) 0 0=some []:=rfl;have hmin:Xd 2 (([]:List UInt64).length:Int)=0:=rfl;simp only[CX,Bool.true_or,if_true,hmin];rw[show((([]:List UInt64).length:Int))=0 from rfl,hc];simp only[Aa,CS,AiF,AbG]
theorem Af2 (s:UInt64×UInt64×UInt64):CX ([],false,s.1,s.2.1,s.2.2)=some (.inr s):=rfl
theorem Af1 (fst:Bool)(x:UInt64)(s:UInt64×UInt64×UInt64):CX ([x],fst,s.1,s.2.1,s.2.2)=some (.inl ([],false,Z3 (J3 s.1 x,s.2.1,s.2.2))):=by
 have hmin:Xd 2 (([x]:List UInt64).length:Int)=1:=rfl;have h0:(fst||decide ((([x]:List UInt64).length:Int)>0))=true:=by simp
 have hc:cut [x] 0 1=some [x]:=rfl;have hc2:cut [x] 1 1=some []:=rfl;simp only[CX,h0,if_true,hmin];rw[show((([x]:List UInt64).length:Int))=1 from rfl,hc,hc2];simp only[Aa,Aij,AiF];rw[b4_eq1];simp only[Aa,AbG]
theorem Af0 (fst:Bool)(x y:UInt64)(l:List UInt64)(s:UInt64×UInt64×UInt64):CX (x::y::l,fst,s.1,s.2.1,s.2.2)=some (.inl (l,false,Z3 (J3 s.1 x,J3 s.2.1 y,s.2.2))):=by
 have hmin:Xd 2 ((x::y::l).length:Int)=((2:Nat):Int):=by unfold Xd; rw[Ail (by simp; omega)]; rfl
 have h0:(fst||decide (((x::y::l).length:Int)>0))=true:=by simp; right; omega
 have hc:cut (x::y::l) ((0:Nat):Int) ((2:Nat):Int)=some [x,y]:=by rw[YR (by omega) (by simp)]; rfl
 have hc2:cut (x::y::l) ((2:Nat):Int) ((x::y::l).length:Int)=some l:=by rw[YR (by simp) (by omega)]; simp
 simp only[CX,h0,if_true,hmin];rw[show((0:Int))=((0:Nat):Int)from rfl,hc,hc2];simp only[Aa,Aij,AiF];rw[show((0:Nat):Int)=0 from rfl,b4_eq2];simp only[Aa,AbG]
theorem XL: ∀(n:Nat) (l:List UInt64) (s:UInt64×UInt64×UInt64),l.length≤n→iter CX (n+1) (l,false,s.1,s.2.1,s.2.2)=some (Ns n l s):=by
 intro n;induction n with
 |zero=>
  intro l s h;have:l=[]:=List.eq_nil_of_length_eq_zero (by omega);subst this;rw[Fw (Af2 s)]; simp[Ns]
 |succ n ih=>
  intro l s h;match l,h with
  | [],_=>rw[Fw (Af2 s)]; simp[Ns]
  | [x],_=>
   rw[Er (Af1 false x s)];have:=ih [] (Z3 (J3 s.1 x,s.2.1,s.2.2)) (by simp);rw[this]; simp[Ns]
  |x::y::l,h=>
   rw[Er (Af0 false x y l s)];have:=ih l (Z3 (J3 s.1 x,J3 s.2.1 y,s.2.2)) (by simp at h; omega);rw[this]; simp[Ns]
def Afk (l:List UInt64)(s:UInt64×UInt64×UInt64):UInt64×UInt64×UInt64:=match l with| []=>Z3 s|l=>Ns l.length l s
def hsum (b:List UInt8):UInt64×UInt64:=((Afk (pof b.length b) (0,0,toU (b.length:Int))).1,(Afk (pof b.length b) (0,0,toU (b.length:Int))).2.1)
theorem sum_eq (b:List UInt8)(hb:b.length≤900000):Nn b=some (hsum b):=by
 simp only[Nn,of_eq b hb,Aa];have hl:=AgR b.length b;have hk:hsum b=((Afk (pof b.length b) (0,0,toU (b.length:Int))).1,(Afk (pof b.length b) (0,0,toU (b.length:Int))).2.1):=rfl;rw[hk];clear hk;generalize pof b.length b=l at*;have h:iter CX Gr (l,true,0,0,toU (b.length:Int))=some (Afk l (0,0,toU (b.length:Int))):=by
  refine LK (l.length+2) ?_ (by omega);match l with
  | []=>
   rw[show([]:List UInt64).length+2=1+1 from rfl,Er (b3_nil true rfl (0,0,toU (b.length:Int)))];have:=XL 0 [] (Z3 (0,0,toU (b.length:Int))) (by simp);rw[this]; simp[Ns,Afk]
  | [x]=>
   rw[show([x]:List UInt64).length+2=2+1 from rfl,Er (Af1 true x (0,0,toU (b.length:Int)))];have:=XL 1 [] (Z3 (J3 0 x,0,toU (b.length:Int))) (by simp);rw[this]; simp[Ns,Afk]
  |x::y::l=>
   rw[Er (Af0 true x y l (0,0,toU (b.length:Int)))];have:=XL (l.length+2) l (Z3 (J3 0 x,J3 0 y,toU (b.length:Int))) (by omega);have e:(x::y::l).length+1=l.length+2+1:=rfl;rw[e,this];simp only[Ns,Afk,Aij];congr 1;clear this hl;have: ∀(n k:Nat) (l:List UInt64) (s:UInt64×UInt64×UInt64),l.length≤n→l.length≤k→Ns n l s=Ns k l s:=by
    intro n;induction n with
    |zero=>intro k l s h _; have:l=[]:=List.eq_nil_of_length_eq_zero (by omega); subst this; simp[Ns]
    |succ n ih=>
     intro k l s h hk;match l,k,h,hk with
     | [],k,_,_=>cases k<;>simp[Ns]
     | [x],k+1,_,_=>simp[Ns]
     |x::y::l,k+1,h,hk=>simp only[Ns]; exact ih k l _ (by simp at h; omega) (by simp at hk; omega)
   exact this _ _ _ _ (by omega) (by omega)
 rw[h];simp only[Aa]
def Ut:Nat→UInt64→List UInt8
 |0,_=> []
 |k+1,n=>toB ((E7 n (8*k)).toNat:Int)::Ut k n
theorem Lu (k:Nat)(n:UInt64):(Ut k n).length=k:=by induction k with|zero=>rfl|succ k ih=>simp[Ut,ih]
theorem AdE (n:UInt64): ∀(k:Nat) (b:List UInt8),k≤8→b.length+k≤1000000→iter (Jk n) (k+1) (b,(k:Int)-1)=some (b++Ut k n):=by
 intro k;induction k with
 |zero=>intro b _ _; refine Fw ?_; simp only[Jk,Ut,AiV]; rw[Ail (by simp)]
 |succ k ih=>
  intro b hk hb;have hw:w64 (8*(((k+1:Nat):Int)-1))=((8*k:Nat):Int):=by rw[Cz (by omega) (by omega)]; omega
  have hw2:w64 ((((k+1:Nat):Int)-1)-1)=(k:Int)-1:=by rw[Cz (by omega) (by omega)]; omega
  rw[Er (s':=(b++[toB ((E7 n (8*k)).toNat:Int)],(k:Int)-1))]
  ·rw[ih _ (by omega) (by simp; omega)]; simp[Ut]
  ·simp only[Jk,hw,hw2];rw[Ain (AiI (by omega)),Ain (by omega),NL 1 (by simp; omega) (by simp; omega)];simp only[Aa,Ajg]
theorem Abc (n:UInt64)(k:Nat)(b:List UInt8)(hk:k≤8)(hb:b.length≤900000):Gk b n (k:Int)=some (b++Ut k n):=by
 have hw:w64 ((k:Int)-1)=(k:Int)-1:=Cz (by omega) (by omega);simp only[Gk,hw,LK (k+1) (AdE n k b hk (by omega)) (by omega),Aa]
def P6 (s:UInt64×UInt64):List UInt8:=Ut 8 s.1++Ut 8 s.2
theorem KX (s:UInt64×UInt64):(P6 s).length=16:=by simp[P6,Lu]
theorem U2 (s:UInt64×UInt64):Ey s=some (P6 s):=by
 have e0:idx [s.1,s.2] 0=some s.1:=rfl;have e1:idx [s.1,s.2] 1=some s.2:=rfl;have h0:Gk [] s.1 8=some ([]++Ut 8 s.1):=Abc s.1 8 [] (by omega) (by simp);have h1:Gk (Ut 8 s.1) s.2 8=some (Ut 8 s.1++Ut 8 s.2):=Abc s.2 8 _ (by omega) (by rw[Lu]; omega);simp[Ey,CS,MR,e0,e1,h0,h1,P6]
def Abo:List UInt8→List (List UInt8)→List UInt8
 |b,[]=>b
 |b,p::ps=>Abo (b++Ut 4 (toU (p.length:Int))++p) ps
def Ac1:List (List UInt8)→Nat
 | []=>0
 |p::ps=>4+p.length+Ac1 ps
theorem Abn: ∀(ps:List (List UInt8)) (b:List UInt8),(Abo b ps).length=b.length+Ac1 ps:=by
 intro ps;induction ps with
 |nil=>intro b; rfl
 |cons p ps ih=>intro b; simp only[Abo,ih,Ac1,Aik,Lu]; omega
theorem Adk: ∀(ps:List (List UInt8)) (i:Int) (b:List UInt8),b.length+Ac1 ps≤800000→DA IY ps i b=some (Abo b ps):=by
 intro ps;induction ps with
 |nil=>intro i b _; rfl
 |cons p ps ih=>
  intro i b h;simp only[Ac1]at h;have h0:Gk b (toU (p.length:Int)) 4=some (b++Ut 4 (toU (p.length:Int))):=Abc _ 4 b (by omega) (by omega);simp only[DA,IY,h0,Aa];rw[NL 1 (by simp[Lu]; omega) (by simp[Lu]; omega)];simp only[Aa];rw[ih _ _ (by simp[Lu]; omega)];rfl
def Afh (t:ByteArray)(ps:List (List UInt8)):UInt64×UInt64:=hsum (Abo (toB (t.size:Int)::t.data.toList) ps)
theorem OC (t:ByteArray)(ps:List (List UInt8))(h:t.data.toList.length+Ac1 ps≤700000):CD t ps=some (Afh t ps):=by
 simp only[CD];rw[NL 1 (by simp at h⊢; omega) (by simp at h⊢; omega)];simp only[Aa];rw[Adk _ _ _ (by simp at h⊢; omega)];simp only[Aa];rw[sum_eq _ (by rw[Abn]; simp at h⊢; omega)];rfl
def AgP (a b:UInt64×UInt64):UInt64×UInt64:=Afh ⟨#[110,111,100,101]⟩ [P6 a,P6 b]
theorem Abs (a b:UInt64×UInt64):FO a b=some (AgP a b):=by
 simp only[FO,U2,Aa];rw[OC _ _ (by simp[Ac1,KX])];rfl
theorem shr1 {n:Int}(h:0≤n):Bx n 1=n/2:=by
 show n.fdiv (2^ (min 1 64))=n/2;rw[Int.fdiv_eq_ediv_of_nonneg _ (by decide)]; rfl
theorem tab_le:(str_0.data.toList.all fun b=>decide (b.toNat≤8))=true:=by kernel_rfl
theorem Agl:str_0.data.toList.length=256:=by kernel_rfl
theorem Agm (x:UInt64): ∃b,idx str_0.data.toList ((toB (x.toNat:Int)).toNat:Int)=some b∧b.toNat≤8:=by
 have hlt:(toB (x.toNat:Int)).toNat<str_0.data.toList.length:=by rw[Agl]; exact(toB (x.toNat:Int)).toNat_lt
 refine⟨str_0.data.toList[(toB (x.toNat:Int)).toNat],Dd (by simp),?_⟩;exact AiU (AiC.1 tab_le _ (List.getElem_mem hlt))
theorem Aha (a:UInt64): ∃r,Hb a=some r∧0≤r∧r≤64:=by
 have h1: ∃x n,(if(decide ((a.toNat:Int)≥4294967296))=true then some ((E7 a 32),(32:Int))else some (a,0))=some (x,n)∧0≤n∧n≤32:=by
  split
  ·exact⟨_,_,rfl,by omega,by omega⟩
  ·exact⟨_,_,rfl,by omega,by omega⟩
 obtain⟨x,n,e1,n0,n1⟩:=h1;have h2: ∃y k,(if(decide ((x.toNat:Int)≥65536))=true then some ((E7 x 16),(w64 (n+16)))else some (x,n))=some (y,k)∧0≤k∧k≤48:=by
  split
  ·refine⟨_,_,rfl,?_,?_⟩<;>rw[Cz (by omega) (by omega)]<;>omega
  ·exact⟨_,_,rfl,by omega,by omega⟩
 obtain⟨y,k,e2,k0,k1⟩:=h2;have h3: ∃z j,(if(decide ((y.toNat:Int)≥256))=true then some ((E7 y 8),(w64 (k+8)))else some (y,k))=some (z,j)∧0≤j∧j≤56:=by
  split
  ·refine⟨_,_,rfl,?_,?_⟩<;>rw[Cz (by omega) (by omega)]<;>omega
  ·exact⟨_,_,rfl,by omega,by omega⟩
 obtain⟨z,j,e3,j0,j1⟩:=h3;obtain⟨b,e4,b1⟩:=Agm z;refine⟨j+b.toNat,?_,by omega,by omega⟩;simp only[Hb,F4,e1,Aa,e2,e3,e4,De];rw[Cz (n:=(b.toNat:Int)) (by omega) (by omega),Cz (by omega) (by omega)]
theorem AdP (a:UInt64): ∃r,I0 a=some r:=⟨_,rfl⟩
theorem Aau (a s:Int): ∃r,Iq a s=some r:=by
 obtain⟨x,hx,x0,_⟩:=Aha (toU (Z7 a (w64 (s-1))));obtain⟨y,hy⟩:=AdP (toU (Bx a x.toNat));exact⟨(x,y),by simp only[Iq,hx,Aa]; rw[Ain x0,hy]; rfl⟩
end Go.Proofs.YtnhdojckpcbjeaaGreatDoor
end
section
namespace Go.Gw
open Go
theorem AbV {σ τ:Type}{step:σ→Option (σ⊕τ)}{T:τ→Prop}(I:Nat→σ→Prop)(n:Nat)(h: ∀i s,i≤n→I i s→(∃t,step s=some (.inr t)∧T t)∨(i<n∧∃s',step s=some (.inl s')∧I (i+1) s')):
  ∀k i s,i+k=n→I i s→∃t,iter step (k+1) s=some t∧T t:=by
 intro k;induction k with
 |zero=>
  intro i s hk hi;rcases h i s (by omega) hi with ⟨t,h1,h2⟩|⟨h1,_⟩
  ·exact⟨t,by simp only[iter,h1,Aa],h2⟩
  ·omega
 |succ k ih=>
  intro i s hk hi;rcases h i s (by omega) hi with ⟨t,h1,h2⟩|⟨_,s',h1,h2⟩
  ·exact⟨t,by simp only[iter,h1,Aa],h2⟩
  ·obtain⟨t,h3,h4⟩:=ih (i+1) s' (by omega) h2;exact⟨t,by rw[iter,h1,Aa]; exact h3,h4⟩
theorem AbW {σ τ:Type}{step:σ→Option (σ⊕τ)}{T:τ→Prop}(I:Nat→σ→Prop)(n:Nat)(hn:n<1000000000000000000){s0:σ}(h0:I 0 s0)(h: ∀i s,i≤n→I i s→(∃t,step s=some (.inr t)∧T t)∨(i<n∧∃s',step s=some (.inl s')∧I (i+1) s')):
  ∃t,iter step Gr s0=some t∧T t:=by
 obtain⟨t,h1,h2⟩:=AbV I n h n 0 s0 (by omega) h0;exact⟨t,V0 h1 (by unfold Gr; omega),h2⟩
theorem Adf {i:Nat}(h:i<9223372036854775807):w64 ((i:Int)+1)=((i+1:Nat):Int):=by rw[Cz (by omega) (by omega)]; omega
end Go.Gw
end
section
namespace Go.Proofs.YtnhdojckpcbjeaaGreatDoor
open Go Go.Gw Go.Ax
abbrev FP:Nat:=2305843009213693951
theorem Vx {n:Nat}(h:n<18446744073709551616):(toU (n:Int)).toNat=n:=by
 unfold toU;rw[UInt64.toNat_ofNat'];omega
theorem Ga (x:UInt64)(k:Nat)(hk:k≤64):(E7 x k).toNat=x.toNat/2^k:=by
 unfold E7;rw[UInt64.toNat_ofNat',Nat.min_eq_left hk];exact Ai6 (Aje (Nat.div_le_self _ _) x.toNat_lt)
theorem AdU {p q r s:Nat}(hp:p<4294967296)(hq:q<4294967296)(hr:r<4294967296)(hs:s<4294967296):
  (p*r+((p*s+q*s/4294967296)/4294967296)+(((p*s+q*s/4294967296)%4294967296+q*r)/4294967296))=((p*4294967296+q)*(r*4294967296+s))/18446744073709551616:=by
 have h1:(p*4294967296+q)*(r*4294967296+s)=(p*r)*18446744073709551616+(p*s+q*r)*4294967296+q*s:=by
  rw[Nat.add_mul,Nat.mul_add,Nat.mul_add,Nat.add_mul];have a1:p*4294967296*(r*4294967296)=p*r*18446744073709551616:=by rw[Nat.mul_assoc,Nat.mul_left_comm 4294967296,←Nat.mul_assoc p]
  have a2:p*4294967296*s=p*s*4294967296:=Nat.mul_right_comm _ _ _;have a3:q*(r*4294967296)=q*r*4294967296:=(Nat.mul_assoc _ _ _).symm;rw[a1,a2,a3]; omega
 rw[h1];generalize p*r=A;generalize p*s=B;generalize q*r=C;generalize q*s=D;omega
theorem Abl (a b:UInt64):(phi a b).toNat=(a.toNat*b.toNat)/18446744073709551616:=by
 have ha:=a.toNat_lt;have hb:=b.toNat_lt;have m32: ∀x:UInt64,(x&&&4294967295).toNat=x.toNat%4294967296:=fun x=>by
  rw[UInt64.toNat_and]; exact Nat.and_two_pow_sub_one_eq_mod _ 32
 have s32: ∀x:UInt64,(E7 x 32).toNat=x.toNat/4294967296:=fun x=>Ga x 32 (by omega);have hp:a.toNat/4294967296<4294967296:=by omega
 have hq:a.toNat%4294967296<4294967296:=by omega
 have hr:b.toNat/4294967296<4294967296:=by omega
 have hs:b.toNat%4294967296<4294967296:=by omega
 have ea:a.toNat/4294967296*4294967296+a.toNat%4294967296=a.toNat:=Nat.div_add_mod' _ _;have eb:b.toNat/4294967296*4294967296+b.toNat%4294967296=b.toNat:=Nat.div_add_mod' _ _;have key:=AdU hp hq hr hs;rw[ea,eb]at key;have bd: ∀x y:Nat,x<4294967296→y<4294967296→x*y≤18446744065119617025:=fun x y hx hy=>Nat.mul_le_mul (show x≤4294967295 by omega) (show y≤4294967295 by omega);have b1:=bd _ _ hp hr;have b2:=bd _ _ hp hs;have b3:=bd _ _ hq hr;have b4:=bd _ _ hq hs;have ab:a.toNat*b.toNat/18446744073709551616<18446744073709551616:=by
  rw[Nat.div_lt_iff_lt_mul (by omega)];exact Aje (Nat.mul_le_mul (show a.toNat≤18446744073709551615 by omega) (show b.toNat≤18446744073709551615 by omega)) (by omega)
 unfold phi;dsimp only;rw[←key]at ab⊢;simp only[UInt64.toNat_add,UInt64.toNat_mul,s32,m32];generalize a.toNat/4294967296*(b.toNat/4294967296)=A at*;generalize a.toNat/4294967296*(b.toNat%4294967296)=B at*;generalize a.toNat%4294967296*(b.toNat/4294967296)=C at*;generalize a.toNat%4294967296*(b.toNat%4294967296)=D at*;omega
theorem u_ext {a b:UInt64}(h:a.toNat=b.toNat):a=b:=UInt64.toNat_inj.1 h
section
variable {x4 x5 x7 y u:UInt64}
theorem dq_lt (hd:x7.toNat<4294967296)(hu:u.toNat<y.toNat):(u.toNat*4294967296+x7.toNat)/y.toNat<4294967296:=by
 rw[Nat.div_lt_iff_lt_mul (by omega)];have:(u.toNat+1)*4294967296≤y.toNat*4294967296:=Nat.mul_le_mul_right _ hu;omega
theorem dcond {q r:UInt64}(h1:2147483648≤x4.toNat∧x4.toNat<4294967296)(h0:x5.toNat<4294967296)(hd:x7.toNat<4294967296)(hy:y.toNat=x4.toNat*4294967296+x5.toNat)(hu:u.toNat<y.toNat)
  (hq:q.toNat*x4.toNat+r.toNat=u.toNat) (hr:r.toNat<4294967296):
  (((decide ((q.toNat:Int)≥4294967296))||(decide (((q*x5).toNat:Int)>(((4294967296*r)+x7).toNat:Int))))=true↔(u.toNat*4294967296+x7.toNat)/y.toNat<q.toNat):=by
 have hlt:=dq_lt hd hu;have e1:((4294967296*r)+x7).toNat=4294967296*r.toNat+x7.toNat:=by
  rw[UInt64.toNat_add,UInt64.toNat_mul,show(4294967296:UInt64).toNat=4294967296 from rfl]; omega
 rw[AiZ,Aiq,Aiq,e1];by_cases hb:4294967296≤q.toNat
 ·constructor
  ·intro _; omega
  ·intro _; left; omega
 ·have hB:q.toNat*x5.toNat≤4294967295*4294967295:=Nat.mul_le_mul (by omega) (by omega);have e2:(q*x5).toNat=q.toNat*x5.toNat:=by rw[UInt64.toNat_mul]; omega
  have e3:q.toNat*y.toNat=q.toNat*x4.toNat*4294967296+q.toNat*x5.toNat:=by rw[hy,Nat.mul_add,Nat.mul_assoc]
  rw[e2,Nat.div_lt_iff_lt_mul (by omega),e3];generalize q.toNat*x4.toNat=A at*;generalize q.toNat*x5.toNat=B at*;omega
theorem dstep {q r:UInt64}(h1:2147483648≤x4.toNat∧x4.toNat<4294967296)(h0:x5.toNat<4294967296)(hd:x7.toNat<4294967296)(hy:y.toNat=x4.toNat*4294967296+x5.toNat)(hu:u.toNat<y.toNat)
  (hq:q.toNat*x4.toNat+r.toNat=u.toNat) (hr:r.toNat<4294967296) (hq2:q.toNat≤4294967297) (hc:(u.toNat*4294967296+x7.toNat)/y.toNat<q.toNat):
  (q-1).toNat=q.toNat-1∧(r+x4).toNat=r.toNat+x4.toNat∧(q-1).toNat*x4.toNat+(r+x4).toNat=u.toNat∧(u.toNat*4294967296+x7.toNat)/y.toNat≤(q-1).toNat∧
  (4294967296≤(r+x4).toNat→(q-1).toNat=(u.toNat*4294967296+x7.toNat)/y.toNat):=by
 have q1:1≤q.toNat:=Aje (Ajf _) hc;have e1:(q-1).toNat=q.toNat-1:=by rw[UInt64.toNat_sub_of_le _ _ (by rw[UInt64.le_iff_toNat_le]; exact q1)]; rfl
 have e2:(r+x4).toNat=r.toNat+x4.toNat:=by rw[UInt64.toNat_add]; omega
 have e3:(q.toNat-1)*x4.toNat+x4.toNat=q.toNat*x4.toNat:=by
  rw[←Nat.succ_mul]; congr 1; omega
 refine⟨e1,e2,by rw[e1,e2,Nat.add_comm r.toNat,←Ajn,e3,hq],by rw[e1]; exact Nat.le_sub_one_of_lt hc,fun hb=> ?_⟩;rw[e2]at hb;refine Nat.le_antisymm ?_ (by rw[e1]; exact Nat.le_sub_one_of_lt hc);rw[e1,Nat.le_div_iff_mul_le (Aje (Ajf _) hu)];clear hc e1 e2;have hB:(q.toNat-1)*x5.toNat≤4294967296*4294967295:=Nat.mul_le_mul (by omega) (by omega);have e4:(q.toNat-1)*y.toNat=(q.toNat-1)*x4.toNat*4294967296+(q.toNat-1)*x5.toNat:=by rw[hy,Nat.mul_add,Nat.mul_assoc]
 rw[e4];generalize (q.toNat-1)*x4.toNat=A at*;generalize (q.toNat-1)*x5.toNat=B at*;generalize q.toNat*x4.toNat=C at*;omega
theorem dloop1 (h1:2147483648≤x4.toNat∧x4.toNat<4294967296)(h0:x5.toNat<4294967296)(hd:x7.toNat<4294967296)(hy:y.toNat=x4.toNat*4294967296+x5.toNat)(hu:u.toNat<y.toNat):
  ∀(n:Nat) (q r:UInt64),q.toNat*x4.toNat+r.toNat=u.toNat→r.toNat<4294967296→q.toNat≤4294967297→(u.toNat*4294967296+x7.toNat)/y.toNat≤q.toNat→4294967296≤r.toNat+n*2147483648→
   ∃p,iter (F6 x4 x5 x7) (n+1) (q,r)=some p∧p.toNat=(u.toNat*4294967296+x7.toNat)/y.toNat:=by
 intro n;induction n with
 |zero=>intro q r _ hr _ _ hn; omega
 |succ n ih=>
  intro q r hq hr hq2 hle hn;have hc:=dcond h1 h0 hd hy hu hq hr;by_cases hcc:(u.toNat*4294967296+x7.toNat)/y.toNat<q.toNat
  ·obtain⟨s1,s2,s3,s4,s5⟩:=dstep h1 h0 hd hy hu hq hr hq2 hcc;by_cases hb:4294967296≤(r+x4).toNat
   ·refine⟨q-1,Fw ?_,s5 hb⟩;unfold F6;rw[Ain (hc.2 hcc),Ain (by rw[Aiq]; dsimp only; omega)]
   ·obtain⟨p,p1,p2⟩:=ih (q-1) (r+x4) s3 (by omega) (by omega) s4 (by omega);refine⟨p,?_,p2⟩;rw[Er (s':=(q-1,r+x4)),p1];unfold F6;rw[Ain (hc.2 hcc),Ail (by rw[Aiq]; dsimp only; omega)]
  ·refine⟨q,Fw ?_,by omega⟩;unfold F6;rw[Ail (fun h=>hcc (hc.1 h))]
theorem dloop2 (h1:2147483648≤x4.toNat∧x4.toNat<4294967296)(h0:x5.toNat<4294967296)(hd:x7.toNat<4294967296)(hy:y.toNat=x4.toNat*4294967296+x5.toNat)(hu:u.toNat<y.toNat):
  ∀(n:Nat) (q r:UInt64),q.toNat*x4.toNat+r.toNat=u.toNat→r.toNat<4294967296→q.toNat≤4294967297→(u.toNat*4294967296+x7.toNat)/y.toNat≤q.toNat→4294967296≤r.toNat+n*2147483648→
   ∃p,iter (F5 x4 x5 x7) (n+1) (r,q)=some p∧p.toNat=(u.toNat*4294967296+x7.toNat)/y.toNat:=by
 intro n;induction n with
 |zero=>intro q r _ hr _ _ hn; omega
 |succ n ih=>
  intro q r hq hr hq2 hle hn;have hc:=dcond h1 h0 hd hy hu hq hr;by_cases hcc:(u.toNat*4294967296+x7.toNat)/y.toNat<q.toNat
  ·obtain⟨s1,s2,s3,s4,s5⟩:=dstep h1 h0 hd hy hu hq hr hq2 hcc;by_cases hb:4294967296≤(r+x4).toNat
   ·refine⟨q-1,Fw ?_,s5 hb⟩;unfold F5;rw[Ain (hc.2 hcc),Ain (by rw[Aiq]; dsimp only; omega)]
   ·obtain⟨p,p1,p2⟩:=ih (q-1) (r+x4) s3 (by omega) (by omega) s4 (by omega);refine⟨p,?_,p2⟩;rw[Er (s':=(r+x4,q-1)),p1];unfold F5;rw[Ain (hc.2 hcc),Ail (by rw[Aiq]; dsimp only; omega)]
  ·refine⟨q,Fw ?_,by omega⟩;unfold F5;rw[Ail (fun h=>hcc (hc.1 h))]
theorem AfP (h1:2147483648≤x4.toNat∧x4.toNat<4294967296)(h0:x5.toNat<4294967296)(hd:x7.toNat<4294967296)(hy:y.toNat=x4.toNat*4294967296+x5.toNat)(hu:u.toNat<y.toNat):
  (u/x4).toNat*x4.toNat+(u-(u/x4)*x4).toNat=u.toNat∧(u-(u/x4)*x4).toNat<4294967296∧(u/x4).toNat≤4294967297∧(u.toNat*4294967296+x7.toNat)/y.toNat≤(u/x4).toNat:=by
 have e1:(u/x4).toNat=u.toNat/x4.toNat:=UInt64.toNat_div _ _;have hmul:u.toNat/x4.toNat*x4.toNat≤u.toNat:=Nat.div_mul_le_self _ _;have hul:=u.toNat_lt;have e2:((u/x4)*x4).toNat=u.toNat/x4.toNat*x4.toNat:=by rw[UInt64.toNat_mul,e1]; omega
 have e3:(u-(u/x4)*x4).toNat=u.toNat-u.toNat/x4.toNat*x4.toNat:=by
  rw[UInt64.toNat_sub_of_le _ _ (by rw[UInt64.le_iff_toNat_le,e2]; exact hmul),e2]
 have e4:u.toNat-u.toNat/x4.toNat*x4.toNat=u.toNat%x4.toNat:=by
  have:=Nat.div_add_mod' u.toNat x4.toNat; omega
 have e5:=Nat.mod_lt u.toNat (show 0<x4.toNat by omega);refine⟨by rw[e1,e3]; omega,by rw[e3,e4]; omega,?_,?_⟩
 ·rw[e1];have:u.toNat/x4.toNat<4294967298:=by
   rw[Nat.div_lt_iff_lt_mul (by omega)];omega
  omega
 ·rw[e1,Nat.le_div_iff_mul_le (by omega)];have h2:(u.toNat*4294967296+x7.toNat)/y.toNat*y.toNat≤u.toNat*4294967296+x7.toNat:=Nat.div_mul_le_self _ _;generalize (u.toNat*4294967296+x7.toNat)/y.toNat=Q at*;have h3:Q*y.toNat=Q*x4.toNat*4294967296+Q*x5.toNat:=by rw[hy,Nat.mul_add,Nat.mul_assoc]
  rw[h3]at h2;generalize Q*x4.toNat=A at*;generalize Q*x5.toNat=B at*;omega
theorem drest {q:UInt64}(hu:u.toNat<y.toNat)(hq:q.toNat=(u.toNat*4294967296+x7.toNat)/y.toNat):(((u*4294967296)+x7)-(q*y)).toNat=(u.toNat*4294967296+x7.toNat)%y.toNat:=by
 have hyl:=y.toNat_lt;have hm:=Nat.mod_lt (u.toNat*4294967296+x7.toNat) (show 0<y.toNat by omega);have hdm:=Nat.div_add_mod' (u.toNat*4294967296+x7.toNat) y.toNat;rw[UInt64.toNat_sub,UInt64.toNat_add,UInt64.toNat_mul,UInt64.toNat_mul,hq,show(4294967296:UInt64).toNat=4294967296 from rfl];generalize (u.toNat*4294967296+x7.toNat)/y.toNat*y.toNat=Z at*;omega
end
theorem QJ {x:UInt64}{k:Nat}(hk:k≤63):(Mi x k).toNat=(x.toNat*2^k)%18446744073709551616:=by
 unfold Mi;rw[Nat.min_eq_left (by omega),show(x.toNat:Int)*2^k=((x.toNat*2^k:Nat):Int)from by simp];unfold toU;rw[UInt64.toNat_ofNat'];generalize x.toNat*2^k=z;omega
theorem or_nat {a b k:Nat}(h:b<2^k):a*2^k|||b=a*2^k+b:=by
 rw[Nat.mul_comm]; exact(Nat.two_pow_add_eq_or_of_lt h a).symm
theorem YP {hi lo y0:UInt64}{s:Nat}(hs:s≤63)(hlz:CZ y0=some (s:Int))(hn1:9223372036854775808≤y0.toNat*2^s)(hn2:y0.toNat*2^s<18446744073709551616)(hh:hi.toNat<y0.toNat):
  ∃q r,IM hi lo y0=some (q,r)∧r.toNat=(hi.toNat*18446744073709551616+lo.toNat)%y0.toNat:=by
 have hyne:y0≠0:=fun e=>by rw[e]at hh; simp at hh
 unfold IM;rw[Ail (by rw[Ai2]; omega),Aa,Ail (by rw[Aiq]; omega),Aa];by_cases hz:hi.toNat=0
 ·rw[Ain (by rw[Ai2]; omega),Ain hyne,Ain hyne];refine⟨_,_,rfl,?_⟩;rw[UInt64.toNat_mod,hz]; simp
 ·have hts:(toU (s:Int)).toNat=s:=Vx (by omega);have h64:(64-toU (s:Int)).toNat=64-s:=by
   rw[UInt64.toNat_sub_of_le _ _ (by rw[UInt64.le_iff_toNat_le,hts]; show s≤64; omega),hts]; rfl
  rw[Ail (by rw[Ai2]; omega),hlz,Aa,hts,h64];simp only[De];have hps:0<2^s:=Nat.two_pow_pos s;have hpp:2^s*2^ (64-s)=18446744073709551616:=by rw[←Nat.pow_add,show s+(64-s)=64 from by omega]
  have hY:(Mi y0 s).toNat=y0.toNat*2^s:=by rw[QJ (by omega)]; exact Ai6 hn2
  have hlo:=lo.toNat_lt;have hlod:lo.toNat/2^ (64-s)<2^s:=by rw[Nat.div_lt_iff_lt_mul (Nat.two_pow_pos _),hpp]; omega
  have hhs:hi.toNat*2^s+2^s≤y0.toNat*2^s:=by rw[←Nat.succ_mul]; exact Nat.mul_le_mul_right _ hh
  have hU:((Mi hi s)|||(E7 lo (64-s))).toNat=hi.toNat*2^s+lo.toNat/2^ (64-s):=by
   rw[UInt64.toNat_or,QJ (by omega),Ga _ _ (by omega),Ai6 (by omega),or_nat hlod]
  have hL:(Mi lo s).toNat=(lo.toNat*2^s)%18446744073709551616:=QJ (by omega);have m32: ∀x:UInt64,(x&&&4294967295).toNat=x.toNat%4294967296:=fun x=>by
   rw[UInt64.toNat_and]; exact Nat.and_two_pow_sub_one_eq_mod _ 32
  have s32: ∀x:UInt64,(E7 x 32).toNat=x.toNat/4294967296:=fun x=>Ga x 32 (by omega);have hlos:lo.toNat*2^s=lo.toNat/2^ (64-s)*18446744073709551616+(lo.toNat*2^s)%18446744073709551616:=by
   have e1:lo.toNat*2^s/18446744073709551616=lo.toNat/2^ (64-s):=by
    rw[←hpp,Nat.mul_comm,Nat.mul_div_mul_left _ _ hps]
   rw[←e1]; exact(Nat.div_add_mod' _ _).symm
  have hN:(hi.toNat*18446744073709551616+lo.toNat)*2^s=(hi.toNat*2^s+lo.toNat/2^ (64-s))*18446744073709551616+(lo.toNat*2^s)%18446744073709551616:=by
   rw[Nat.add_mul,hlos,Nat.add_mul,Nat.mul_right_comm];omega
  generalize hgy:Mi y0 s=y at*;generalize hgu:(Mi hi s)|||(E7 lo (64-s))=u at*;generalize hgl:Mi lo s=l at*;have hyl:=y.toNat_lt;have a1:2147483648≤(E7 y 32).toNat∧(E7 y 32).toNat<4294967296:=by rw[s32]; omega
  have a0:(y&&&4294967295).toNat<4294967296:=by rw[m32]; omega
  have ay:y.toNat=(E7 y 32).toNat*4294967296+(y&&&4294967295).toNat:=by rw[s32,m32]; omega
  have ad:(E7 l 32).toNat<4294967296:=by rw[s32]; have:=l.toNat_lt; omega
  have ae:(l&&&4294967295).toNat<4294967296:=by rw[m32]; omega
  have au:u.toNat<y.toNat:=by rw[hU,hY]; omega
  have hx4:E7 y 32≠0:=fun e=>by rw[e]at a1; simp at a1
  obtain⟨b1,b2,b3,b4⟩:=AfP a1 a0 ad ay au;obtain⟨q1,c1,c2⟩:=dloop1 a1 a0 ad ay au 2 _ _ b1 b2 b3 b4 (by omega);have hr1:=drest au c2;have hr1l:=Nat.mod_lt (u.toNat*4294967296+(E7 l 32).toNat) (show 0<y.toNat by omega);rw[Ain hx4,LK _ c1 (by omega),Aa,Aa,Ain hx4];generalize hgv:((u*4294967296)+(E7 l 32))-(q1*y)=v at*;have av:v.toNat<y.toNat:=by omega
  obtain⟨d1,d2,d3,d4⟩:=AfP a1 a0 ae ay av;obtain⟨q0,e1,e2⟩:=dloop2 a1 a0 ae ay av 2 _ _ d1 d2 d3 d4 (by omega);have hr0:=drest av e2;rw[LK _ e1 (by omega),Aa,Aa];refine⟨_,_,rfl,?_⟩;rw[Ga _ _ (by omega),hr0,hr1];have f1:(((u.toNat*4294967296+(E7 l 32).toNat)%y.toNat)*4294967296+(l&&&4294967295).toNat)%y.toNat=((hi.toNat*18446744073709551616+lo.toNat)*2^s)%y.toNat:=by
   rw[Nat.add_mod,Nat.mod_mul_mod,←Nat.add_mod,hN,←hU,←hL,s32,m32];have e9:(u.toNat*4294967296+l.toNat/4294967296)*4294967296+l.toNat%4294967296=u.toNat*18446744073709551616+l.toNat:=by omega
   rw[e9]
  rw[f1,hY,Nat.mul_mod_mul_right,Nat.mul_div_cancel _ hps]
abbrev GQ:Nat:=2305843009213691579
abbrev GR:Nat:=1152921504606845789
def Dv (y:UInt64):Prop:= ∃s:Nat,s≤63∧CZ y=some (s:Int)∧9223372036854775808≤y.toNat*2^s∧y.toNat*2^s<18446744073709551616
theorem dvQ:Dv 2305843009213691579:=⟨3,by omega,by kernel_rfl,by decide,by decide⟩
theorem dvR:Dv 1152921504606845789:=⟨4,by omega,by kernel_rfl,by decide,by decide⟩
theorem Dv.pos {y:UInt64}(h:Dv y):0<y.toNat:=by
 obtain⟨s,_,_,h1,_⟩:=h;by_cases e:y.toNat=0
 ·rw[e]at h1; simp at h1
 ·omega
theorem rem_eq {y:UInt64}(h:Dv y)(hi lo:UInt64): ∃z,Ha hi lo y=some z∧z.toNat=(hi.toNat*18446744073709551616+lo.toNat)%y.toNat:=by
 have hpos:=h.pos;obtain⟨s,h1,h2,h3,h4⟩:=h;have hyne:y≠0:=fun e=>by rw[e]at hpos; simp at hpos
 have hm:(hi%y).toNat=hi.toNat%y.toNat:=UInt64.toNat_mod _ _;obtain⟨q,r,e1,e2⟩:=YP (hi:=hi%y) (lo:=lo) h1 h2 h3 h4 (by rw[hm]; exact Nat.mod_lt _ hpos);refine⟨r,?_,?_⟩
 ·unfold Ha;rw[Ain hyne,e1,Aa]
 ·rw[e2,hm,Nat.add_mod,Nat.mod_mul_mod,←Nat.add_mod]
def ofN (n:Nat):UInt64:=UInt64.ofNat n
theorem W7 {n:Nat}(h:n<18446744073709551616):(ofN n).toNat=n:=by
 unfold ofN; rw[UInt64.toNat_ofNat']; exact Ai6 h
theorem W8 (n:Nat){y:UInt64}(h:0<y.toNat):(ofN (n%y.toNat)).toNat=n%y.toNat:=W7 (Ajj (Nat.mod_lt _ h) (Nat.le_of_lt y.toNat_lt))
theorem Aby {z:UInt64}{n:Nat}(h:z.toNat=n):z=ofN n:=by
 rw[←h]; exact u_ext (W7 z.toNat_lt).symm
def ZD (y a b:UInt64):UInt64:=ofN ((a.toNat*b.toNat)%y.toNat)
theorem Ys {y:UInt64}(h:Dv y)(a b:UInt64):(ZD y a b).toNat=(a.toNat*b.toNat)%y.toNat:=W8 _ h.pos
theorem Py {y:UInt64}(h:Dv y)(a b:UInt64):CV y a b=some (ZD y a b):=by
 obtain⟨z,e1,e2⟩:=rem_eq h (phi a b) (a*b);unfold CV;rw[UA,Aa,e1,Aa];rw[Abl,UInt64.toNat_mul,Nat.div_add_mod']at e2;rw[Aby e2]; rfl
theorem AcF (a b:UInt64):(Ku a b).toNat*18446744073709551616+(a+b).toNat=a.toNat+b.toNat:=by
 have:=a.toNat_lt;have:=b.toNat_lt;unfold Ku;rw[UInt64.toNat_ofNat',UInt64.toNat_add];omega
theorem AgV {P d r c sm t:Nat}(hP:d*18446744073709551616+r=P)(hr:r<18446744073709551616)(hd:d<2305843009213693952)(hc:c*18446744073709551616+sm=r+t)(ht:t<18446744073709551616):
  ((d+c)%18446744073709551616)*18446744073709551616+sm=P+t:=by
 have h1:c≤1:=by omega
 rw[Ai6 (show d+c<18446744073709551616 by omega),Nat.add_mul,←hP,Ajn,hc,Ajn]
def numM (s:UInt64×UInt64)(y:UInt64):UInt64:=ofN ((s.1.toNat*2305843009213693952+s.2.toNat)%y.toNat)
theorem AdQ {y:UInt64}(h:Dv y)(s:UInt64×UInt64):(numM s y).toNat=(s.1.toNat*2305843009213693952+s.2.toNat)%y.toNat:=W8 _ h.pos
theorem Afo {y:UInt64}(h:Dv y)(s:UInt64×UInt64):H9 s y=some (numM s y):=by
 have hpos:=h.pos;have hyne:y≠0:=fun e=>by rw[e]at hpos; simp at hpos
 obtain⟨t,h1,h2,h3,h4⟩:=h;have hp:(phi s.1 2305843009213693952).toNat=s.1.toNat*2305843009213693952/18446744073709551616:=Abl _ _;have hl:(s.1*2305843009213693952).toNat=s.1.toNat*2305843009213693952%18446744073709551616:=UInt64.toNat_mul _ _;have hs1:=s.1.toNat_lt;have hs2:=s.2.toNat_lt;have hc:=AcF (s.1*2305843009213693952) s.2;have hsum:(phi s.1 2305843009213693952+Ku (s.1*2305843009213693952) s.2).toNat*18446744073709551616+(s.1*2305843009213693952+s.2).toNat=s.1.toNat*2305843009213693952+s.2.toNat:=by
  rw[UInt64.toNat_add,hp];rw[hl]at hc;have hdl:s.1.toNat*2305843009213693952/18446744073709551616<2305843009213693952:=by
   rw[Nat.div_lt_iff_lt_mul (by decide),Nat.mul_comm (2305843009213693952)];exact Nat.mul_lt_mul_of_pos_right hs1 (by decide)
  exact AgV (Nat.div_add_mod' _ _) (Nat.mod_lt _ (by decide)) hdl hc hs2
 have hm:((phi s.1 2305843009213693952+Ku (s.1*2305843009213693952) s.2)%y).toNat=(phi s.1 2305843009213693952+Ku (s.1*2305843009213693952) s.2).toNat%y.toNat:=UInt64.toNat_mod _ _;obtain⟨q,r,e1,e2⟩:=YP (hi:=(phi s.1 2305843009213693952+Ku (s.1*2305843009213693952) s.2)%y) (lo:=s.1*2305843009213693952+s.2) h1 h2 h3 h4 (by rw[hm]; exact Nat.mod_lt _ hpos);unfold H9;rw[Ail (by rw[Ai2]; omega),UA,Aa,Ain hyne];dsimp only;rw[e1,Aa];rw[hm,Nat.add_mod,Nat.mod_mul_mod,←Nat.add_mod,hsum]at e2;rw[Aby e2]; rfl
theorem Adn:((List.range 256).all fun n=>decide (n<2^ (str_0.data.toList.getD n 0).toNat)&&decide ((str_0.data.toList.getD n 0).toNat≤8))=true:=by kernel_rfl
theorem Adm:str_0.data.toList.length=256:=by kernel_rfl
theorem tabL (x:UInt64)(hx:x.toNat<256): ∃b,idx str_0.data.toList ((toB (x.toNat:Int)).toNat:Int)=some b∧x.toNat<2^b.toNat∧b.toNat≤8:=by
 have hb:(toB (x.toNat:Int)).toNat=x.toNat:=by unfold toB; rw[UInt8.toNat_ofNat']; omega
 have h:=AiC.1 Adn x.toNat (List.mem_range.2 hx);rw[Aie,Aiq,Aiq]at h;have hlt:x.toNat<str_0.data.toList.length:=by rw[Adm]; exact hx
 rw[List.getD_eq_getElem?_getD,AiJ hlt,Option.getD_some]at h;rw[hb];exact⟨str_0.data.toList[x.toNat],Dd (by simp),h.1,h.2⟩
theorem Ad4 (a:UInt64): ∃L:Nat,F4 a=some (L:Int)∧a.toNat<2^L∧L≤64:=by
 have ha:=a.toNat_lt;have h1: ∃(x:UInt64) (n:Nat),(if(decide ((a.toNat:Int)≥4294967296))=true then some ((E7 a 32),(32:Int))else some (a,0))=some (x,(n:Int))∧n≤32∧x.toNat<4294967296∧a.toNat<(x.toNat+1)*2^n:=by
  split
  ·refine⟨E7 a 32,32,rfl,by omega,?_,?_⟩<;>rw[Ga a 32 (by omega)]<;>omega
  ·rename_i h; rw[Aiq]at h; exact⟨a,0,rfl,by omega,by omega,by omega⟩
 obtain⟨x,n,e1,n1,hx,hn⟩:=h1;have h2: ∃(y:UInt64) (k:Nat),(if(decide ((x.toNat:Int)≥65536))=true then some ((E7 x 16),(w64 ((n:Int)+16)))else some (x,(n:Int)))=some (y,(k:Int))∧k≤48∧y.toNat<65536∧a.toNat<(y.toNat+1)*2^k:=by
  split
  ·refine⟨E7 x 16,n+16,by rw[Cz (by omega) (by omega)]; rfl,by omega,?_,?_⟩
   ·rw[Ga x 16 (by omega)]; omega
   ·rw[Ga x 16 (by omega),Nat.pow_add];refine Ajj hn ?_;have:x.toNat+1≤(x.toNat/2^16+1)*2^16:=by omega
    calc (x.toNat+1)*2^n≤((x.toNat/2^16+1)*2^16)*2^n:=Nat.mul_le_mul_right _ this
     _=(x.toNat/2^16+1)*(2^n*2^16):=by rw[Nat.mul_assoc,Nat.mul_comm (2^16)]
  ·rename_i h; rw[Aiq]at h; exact⟨x,n,rfl,by omega,by omega,hn⟩
 obtain⟨y,k,e2,k1,hy,hk⟩:=h2;have h3: ∃(z:UInt64) (j:Nat),(if(decide ((y.toNat:Int)≥256))=true then some ((E7 y 8),(w64 ((k:Int)+8)))else some (y,(k:Int)))=some (z,(j:Int))∧j≤56∧z.toNat<256∧a.toNat<(z.toNat+1)*2^j:=by
  split
  ·refine⟨E7 y 8,k+8,by rw[Cz (by omega) (by omega)]; rfl,by omega,?_,?_⟩
   ·rw[Ga y 8 (by omega)]; omega
   ·rw[Ga y 8 (by omega),Nat.pow_add];refine Ajj hk ?_;have:y.toNat+1≤(y.toNat/2^8+1)*2^8:=by omega
    calc (y.toNat+1)*2^k≤((y.toNat/2^8+1)*2^8)*2^k:=Nat.mul_le_mul_right _ this
     _=(y.toNat/2^8+1)*(2^k*2^8):=by rw[Nat.mul_assoc,Nat.mul_comm (2^8)]
  ·rename_i h; rw[Aiq]at h; exact⟨y,k,rfl,by omega,by omega,hk⟩
 obtain⟨z,j,e3,j1,hz,hj⟩:=h3;obtain⟨b,e4,b1,b2⟩:=tabL z hz;refine⟨j+b.toNat,?_,?_,by omega⟩
 ·unfold F4;rw[e1,Aa];dsimp only;rw[e2,Aa];dsimp only;rw[e3,Aa,e4,Aa,De,Cz (n:=(b.toNat:Int)) (by omega) (by omega),Cz (by omega) (by omega)]; rfl
 ·refine Ajj hj ?_;rw[Nat.add_comm j,Nat.pow_add];exact Nat.mul_le_mul_right _ b1
def W3 (y a n:UInt64):UInt64:=ofN (a.toNat^n.toNat%y.toNat)
theorem AdJ {y:UInt64}(h:Dv y)(a n:UInt64):(W3 y a n).toNat=a.toNat^n.toNat%y.toNat:=W8 _ h.pos
theorem Aib (n j:Nat):n&&&2^j=(n.testBit j).toNat*2^j:=by
 apply Nat.eq_of_testBit_eq;intro i;rw[Nat.testBit_and,Nat.testBit_two_pow];by_cases h:j=i
 ·subst h;cases hb:n.testBit j<;>simp[hb,Nat.testBit_two_pow_self]
 ·cases hb:n.testBit j<;>simp[h,Nat.testBit_two_pow]
theorem bit_eq (n:UInt64){j:Nat}(hj:j≤63):(((n&&&(Mi 1 j)).toNat:Int) !=0)=decide (n.toNat/2^j%2=1):=by
 have h1:(Mi 1 j).toNat=2^j:=by
  rw[QJ hj,show(1:UInt64).toNat=1 from rfl,Nat.one_mul];exact Ai6 (Aje (Nat.pow_le_pow_right (by omega) hj) (by decide))
 have h2:(n&&&(Mi 1 j)).toNat=(n.toNat.testBit j).toNat*2^j:=by rw[UInt64.toNat_and,h1,Aib]
 rw[h2];have hp:=Nat.two_pow_pos j;rw[Nat.testBit_eq_decide_div_mod_eq];by_cases hb:n.toNat/2^j%2=1
 ·simp only[hb,decide_true,Bool.toNat_true,Nat.one_mul];rw[bne_iff_ne]; omega
 ·simp only[hb,decide_false,Bool.toNat_false,Nat.zero_mul]; rfl
theorem pow_it (a n:UInt64): ∀(j:Nat) (out:UInt64),j≤64→out.toNat=a.toNat^ (n.toNat/2^j)% (2305843009213691579:UInt64).toNat→
  ∃r,iter (Df (fun(s:UInt64) (b0:Bool)=>Ab (CR a b0 s) fun z=>some (true,z)) n) (j+1) ((j:Int)-1,out)=some (.inl r)∧r.toNat=a.toNat^n.toNat% (2305843009213691579:UInt64).toNat:=by
 have h:=dvQ;unfold CR;generalize (2305843009213691579:UInt64)=y at*;intro j;induction j with
 |zero=>
  intro out _ ho;refine⟨out,Fw ?_,by rw[ho]; simp⟩;unfold Df;rw[Ail (by simp)]
 |succ j ih=>
  intro out hj ho;have hw:w64 ((((j+1:Nat):Int)-1)-1)=(j:Int)-1:=by rw[Cz (by omega) (by omega)]; omega
  have hk:(((j+1:Nat):Int)-1).toNat=j:=by omega
  have hbit:=bit_eq n (j:=j) (by omega);have hdiv:n.toNat/2^ (j+1)=n.toNat/2^j/2:=by rw[Nat.pow_succ,Nat.div_div_eq_div_mul]
  have hsq:(ZD y out out).toNat=a.toNat^ (2*(n.toNat/2^ (j+1)))%y.toNat:=by
   rw[Ys h,ho,←Nat.mul_mod,←Nat.pow_add,←Nat.two_mul]
  by_cases hb:n.toNat/2^j%2=1
  ·have hn:(ZD y (ZD y out out) a).toNat=a.toNat^ (n.toNat/2^j)%y.toNat:=by
    rw[Ys h,hsq,Nat.mod_mul_mod,←Nat.pow_succ];congr 2; omega
   obtain⟨r,r1,r2⟩:=ih (ZD y (ZD y out out) a) (by omega) hn;refine⟨r,?_,r2⟩;rw[Er (s':=((j:Int)-1,ZD y (ZD y out out) a)),r1];unfold Df;dsimp only;rw[Ain (by rw[Aiq]; omega),Ain (by omega),hk,hbit];simp only[Py h,Aa,hb,decide_true,if_true,Ajl,Bool.false_eq_true,if_false,hw]
  ·have hn:(ZD y out out).toNat=a.toNat^ (n.toNat/2^j)%y.toNat:=by
    rw[hsq]; congr 2; omega
   obtain⟨r,r1,r2⟩:=ih (ZD y out out) (by omega) hn;refine⟨r,?_,r2⟩;rw[Er (s':=((j:Int)-1,ZD y out out)),r1];unfold Df;dsimp only;rw[Ain (by rw[Aiq]; omega),Ain (by omega),hk,hbit];simp only[Py h,Aa,hb,decide_false,Ajl,Bool.false_eq_true,if_false,hw]
theorem Yi (a n:UInt64):EA a n=some (W3 2305843009213691579 a n):=by
 unfold EA;obtain⟨L,e1,e2,e3⟩:=Ad4 n;have hw:w64 ((L:Int)-1)=(L:Int)-1:=Cz (by omega) (by omega);obtain⟨r,r1,r2⟩:=pow_it a n L 1 e3 (by rw[Nat.div_eq_of_lt e2]; simp);have r1':=LK _ r1 (by omega);unfold EL Ic;rw[show JR n=some n from rfl,Aa,e1,Aa,hw,r1',Aa];simp only[Aa];rw[Aby r2]; rfl
theorem Ah9 (n:UInt64):EO n=some (W3 2305843009213691579 4 n):=by
 unfold EO;rw[Yi,Aa]
theorem AhW: ∀(n:Nat) (a l:Int),0≤a→a<2^n→∃r,iter Ct (n+1) (a,l)=some r∧0≤r.1∧r.1≤a:=by
 intro n;induction n with
 |zero=>
  intro a l h0 h1;have:a=0:=by have:(2:Int)^0=1:=rfl; omega
  subst this;refine⟨(0,l),Fw ?_,by simp,by simp⟩;simp only[Ct];rw[Ail (by simp)]
 |succ n ih=>
  intro a l h0 h1;by_cases hc:((J5 a 1==0)&&(a !=0))=true
  ·have h2:a/2<2^n:=by
    have:(2:Int)^ (n+1)=2*2^n:=by rw[Int.pow_succ]; omega
    omega
   obtain⟨r,hr,e1,e2⟩:=ih (a/2) (Bx l 1) (by omega) h2;refine⟨r,?_,e1,by omega⟩;rw[Er (s':=(a/2,Bx l 1))]
   ·exact hr
   ·simp only[Ct,hc,if_true,shr1 h0]
  ·refine⟨(a,l),Fw ?_,h0,by simp⟩;simp only[Ct];rw[Ail hc]
theorem AhX (i:Int)(x:UInt64×UInt64)(s:Int×Int×UInt64×UInt64)(h0:0≤s.1)(h1:s.1≤256):
  ∃r,C9 i x s=some r∧0≤r.1∧r.1≤256:=by
 obtain⟨a,l,u,v⟩:=s;simp only at h0 h1;unfold C9;by_cases hc:((J5 a 1==0)&&(a !=l))=true
 ·refine⟨(Bx a 1,Bx l 1,AgP (u,v) x),?_,by rw[shr1 h0]; simp; omega,by rw[shr1 h0]; simp; omega⟩;simp only[hc,if_true,IW,Abs,Aa]
 ·obtain⟨q,hq,q0,q1⟩:=AhW 9 a l h0 (by omega);have hq':=LK _ hq (by omega);refine⟨(Bx q.1 1,Bx q.2 1,AgP x (u,v)),?_,by rw[shr1 q0]; simp; omega,by rw[shr1 q0]; simp; omega⟩;simp only[IX,Abs,Aa,hq'];rw[Ail hc];rfl
theorem XB: ∀(l:List (UInt64×UInt64)) (i:Int) (s:Int×Int×UInt64×UInt64),0≤s.1→s.1≤256→∃r,DA C9 l i s=some r:=by
 intro l;induction l with
 |nil=>intro i s _ _; exact⟨s,rfl⟩
 |cons x l ih=>
  intro i s h0 h1;obtain⟨r,hr,r0,r1⟩:=AhX i x s h0 h1;obtain⟨t,ht⟩:=ih (i+1) r r0 r1;exact⟨t,by simp only[DA,hr,Aa,ht]⟩
theorem ZE (leaf:UInt64×UInt64)(a s:Int)(p:List (UInt64×UInt64))(root:UInt64×UInt64): ∃e,E8 leaf a s p root=some e:=by
 unfold E8;split
 ·exact⟨1,rfl⟩
 ·rename_i hc;have hn:0≤a∧a<s∧s≤256:=by simp at hc; omega
  obtain⟨r,hr⟩:=Aau a s;rw[hr,Aa];split
  ·exact⟨80,rfl⟩
  ·obtain⟨t,ht⟩:=XB p 0 (a,w64 (s-1),leaf.1,leaf.2) hn.1 (by show a≤256; omega);unfold FN;rw[ht,Aa,Aa];split
   ·exact⟨71,rfl⟩
   ·exact⟨0,rfl⟩
theorem AeU:((List.range 8193).all fun n=>J5 (n:Int) 7==((n%8:Nat):Int))=true:=by kernel_rfl
theorem and7 {n:Nat}(h:n≤8192):J5 (n:Int) 7=((n%8:Nat):Int):=by
 have:=AiC.1 AeU n (List.mem_range.2 (by omega));simpa using this
theorem shr3 {n:Nat}:Bx (n:Int) 3=((n/8:Nat):Int):=by
 show(n:Int).fdiv (2^ (min 3 64))=_;rw[Int.fdiv_eq_ediv_of_nonneg _ (by decide)]; rfl
theorem AhO:((List.range 1024).all fun n=>match CZ (ofN (8*(n+1)))with
 |some (.ofNat s)=>decide (s≤63)&&(decide (9223372036854775808≤8*(n+1)*2^s)&&decide (8*(n+1)*2^s<18446744073709551616))
 |_=>false)=true:=by kernel_rfl
theorem Abz {n:Nat}(h:n<18446744073709551616):(ofN n).toNat=n:=W7 h
theorem dv8 {n:Nat}(h:n<1024):Dv (ofN (8*(n+1))):=by
 have:=AiC.1 AhO n (List.mem_range.2 h);split at this
 ·rename_i s hs;simp only[Aie,Aiq]at this;exact⟨s,this.1,hs,by rw[Abz (by omega)]; exact this.2.1,by rw[Abz (by omega)]; exact this.2.2⟩
 ·cases this
structure SvOk (s:g_api_Sieve):Prop where
 m: ∃m:Nat,1≤m∧m≤1024∧s.Bits=((8*m:Nat):Int)∧s.B.length=m
 h1:1≤s.Hashes
 h2:s.Hashes≤8
theorem VL (n:Int):Di n=some (decide (0≤n)&&decide (n≤1099511627776)):=rfl
theorem VD (s:g_api_Sieve): ∃e,Hw s=some e∧(e=0→SvOk s):=by
 unfold Hw;by_cases h1:s.Bits<8
 ·refine⟨1,?_,fun h=>by cases h⟩;rw[Ain (AiI h1),Aa,Ain (AiI h1)]
 rw[Ail (show¬(decide (s.Bits<8)=true)from by simpa using h1)];by_cases h2:s.Bits>8192
 ·refine⟨1,?_,fun h=>by cases h⟩;rw[Ain (AiI h2),Aa,Ain (AiI h2)]
 rw[Ail (show¬(decide (s.Bits>8192)=true)from by simpa using h2),Aa];obtain⟨n,hn⟩: ∃n:Nat,s.Bits=(n:Int):=⟨s.Bits.toNat,by omega⟩;by_cases h3:(J5 s.Bits 7 !=0)=true
 ·exact⟨1,Ain h3,fun h=>by cases h⟩
 rw[Ail h3];have h3':n%8=0:=by
  rw[hn,and7 (by omega)]at h3;simp at h3; omega
 by_cases h4:s.Hashes<1
 ·refine⟨1,?_,fun h=>by cases h⟩;rw[Ain (AiI h4),Aa,Ain (AiI h4)]
 rw[Ail (show¬(decide (s.Hashes<1)=true)from by simpa using h4)];by_cases h5:s.Hashes>8
 ·refine⟨1,?_,fun h=>by cases h⟩;rw[Ain (AiI h5),Aa,Ain (AiI h5)]
 rw[Ail (show¬(decide (s.Hashes>8)=true)from by simpa using h5),VL,Aa];cases hr:(decide (0≤s.Salt)&&decide (s.Salt≤1099511627776))with
 |false=>exact⟨1,rfl,fun h=>by cases h⟩
 |true=>
  rw[Ail (by decide),De,Aa];by_cases h6:((s.B.length:Int) !=Bx s.Bits 3)=true
  ·exact⟨1,Ain h6,fun h=>by cases h⟩
  ·refine⟨0,Ail h6,fun _=>⟨⟨n/8,by omega,by omega,by rw[hn]; omega,?_⟩,by omega,by omega⟩⟩;rw[hn,shr3]at h6;simp at h6; omega
theorem SZ (a:Int): ∀(k i:Nat) (s:List UInt8),i+k=8→s.length=8→∃r,CS (Ep a) k (i:Int) s=some r∧r.length=8
 |0,i,s,_,h=>⟨s,rfl,h⟩
 |k+1,i,s,hi,h=>by
  have e1:w64 (8*(i:Int))=((8*i:Nat):Int):=by rw[Cz (by omega) (by omega)]; omega
  have e2:w64 (56-((8*i:Nat):Int))=((56-8*i:Nat):Int):=by rw[Cz (by omega) (by omega)]; omega
  obtain⟨r,h1,h2⟩:=SZ a k (i+1) (s.set i (toB (Bx a (56-8*i)))) (by omega) (by rw[List.length_set]; exact h);refine⟨r,?_,h2⟩;show Ab (Ep a (i:Int) s) _=_;unfold Ep;rw[e1,e2,Ain (by omega),Dd (AiJ (show i<s.length by omega)),Aa,De,Aa];exact h1
theorem Yx (a:Int): ∃r,Ex a=some r∧r.length=8:=by
 obtain⟨r,h1,h2⟩:=SZ a 8 0 (List.replicate 8 (0:UInt8)) rfl rfl;refine⟨r,?_,h2⟩;unfold Ex;rw[show CS (Ep a) ((List.replicate 8 (0:UInt8)).length) 0 (List.replicate 8 (0:UInt8))=some r from h1];rfl
theorem WJ {n:Nat}(h:n<18446744073709551616):toU (n:Int)=ofN n:=by
 unfold toU ofN;congr 1; omega
theorem Zx {σ:Type}{p0:σ→(Int×UInt8)→Option (Bool×σ)}{k0:g_api_Sieve}{k1 k2:List UInt8}(hk:SvOk k0)(h1:k1.length=8)(h2:k2.length=8)(I:σ→Prop)(T:σ→Prop)
  (hp: ∀s (at_:Nat) bit,I s→at_<k0.B.length→∃q s',p0 s ((at_:Int),bit)=some (q,s')∧(q=true→I s')∧(q=false→T s')) (s0:σ) (h0:I s0):
  ∃r,GN p0 k0 k1 k2 s0=some r∧(I r.2.2.2∨T r.2.2.2):=by
 obtain⟨m,m1,m2,hb,hB⟩:=hk.m;have hh1:=hk.h1;have hh2:=hk.h2;obtain⟨r,hr,hT⟩:=AbW (step:=G0 p0 k0 k1 k2) (T:=fun r=>match r with| .inl s=>I s| .inr r=>T r.2.2.2) (fun i s=>s.1=(i:Int)∧(i:Int)≤k0.Hashes∧I s.2) 8 (by decide) (s0:=(0,s0)) ⟨rfl,by show(0:Int)≤_; omega,h0⟩ (by
  rintro i ⟨j,s⟩ hi ⟨hj,hle,hI⟩;simp only at hj hI;subst hj;unfold G0;by_cases hc:(i:Int)<k0.Hashes
  ·rw[Ain (AiI hc),OC _ _ (by simp[Ac1,h1,h2]),Aa,hb,WJ (by omega)];obtain⟨n,rfl⟩: ∃n,m=n+1:=⟨m-1,by omega⟩;have hd:=dv8 (n:=n) (by omega);rw[Afo hd,Aa];have hx:(numM (Afh ⟨#[115,105,101,118,101]⟩ [k1,[toB (i:Int)],k2]) (ofN (8*(n+1)))).toNat<8*(n+1):=by
    rw[AdQ hd,Abz (by omega)]; exact Nat.mod_lt _ (by omega)
   generalize numM (Afh ⟨#[115,105,101,118,101]⟩ [k1,[toB (i:Int)],k2]) (ofN (8*(n+1)))=x at*;have ew:w64 (x.toNat:Int)=(x.toNat:Int):=Cz (by omega) (by omega);rw[ew,and7 (by omega),Ain (by omega),shr3];obtain⟨q,s',e1,e2,e3⟩:=hp s (x.toNat/8) (AcV 1 (((x.toNat%8:Nat):Int).toNat)) hI (by omega);rw[e1,Aa];cases q with
   |false=>exact .inl ⟨_,rfl,e3 rfl⟩
   |true=>
    refine .inr ⟨by omega,(((i+1:Nat):Int),s'),?_,rfl,by show((i+1:Nat):Int)≤_; omega,e2 rfl⟩;dsimp only;rw[Ail (by decide),Adf (by omega)]
  ·rw[Ail (by simpa using hc)];exact .inl ⟨_,rfl,hI⟩)
 unfold GN;rw[hr,Aa];cases r with
 |inl s=>exact⟨_,rfl,.inl hT⟩
 |inr r=>exact⟨_,rfl,.inr hT⟩
theorem Ahs (s:g_api_Sieve)(n:Int): ∃b,H7 s n=some b:=by
 obtain⟨e,he,hok⟩:=VD s;unfold H7;rw[he,Aa];by_cases h0:e=0
 ·subst h0;rw[show gu (!((0:Int) !=0)) (Di n)=Di n from rfl,VL,Aa];split
  ·exact⟨false,rfl⟩
  ·obtain⟨a,ha,la⟩:=Yx s.Salt;obtain⟨b,hb,lb⟩:=Yx n;unfold KC;rw[ha,Aa,hb,Aa,Aa];obtain⟨r,hr,_⟩:=Zx (p0:=fun(s_1:Unit×Nat) (b0:Int×UInt8)=>if s_1.2=0 then Ab (GF s b0 s_1) fun y=>some (y.2==0,y)else none) (hok rfl) la lb (fun z=>z.2=0) (fun _=>True) (fun z at_ bit hz hat=>by
    have hx:s.B[at_]? =some s.B[at_]:=AiJ hat;unfold GF;rw[Ain hz,Dd hx,Aa];split
    ·exact⟨_,_,rfl,(fun h=>absurd h (by decide)),(fun _=>trivial)⟩
    ·exact⟨_,_,rfl,(fun _=>rfl),(fun _=>trivial)⟩) ((),0) rfl
   dsimp only;rw[hr,Aa];split
   ·exact⟨true,rfl⟩
   ·exact⟨false,rfl⟩
 ·have h1:(e !=0)=true:=by simpa using h0
  rw[h1,show gu (!true) (Di n)=some default from rfl,Aa,Bool.true_or,Ain rfl];exact⟨false,rfl⟩
theorem Adt (d l:Int): ∃x,It d l=some x:=⟨_,rfl⟩
theorem LN {α:Type} [Inhabited α](c:Bool){o:Option α}(h: ∃x,o=some x): ∃y,gu c o=some y:=by
 obtain⟨x,rfl⟩:=h;cases c<;>exact⟨_,rfl⟩
theorem Tb (c:g_api_Cascade): ∀(k i:Nat),i+k=c.Levels.length→∃r,B6 (D6 c) k (i:Int) ()=some r
 |0,i,_=>⟨_,rfl⟩
 |k+1,i,hi=>by
  obtain⟨x,hx⟩: ∃x,c.Levels[i]? =some x:=⟨_,AiJ (by omega)⟩;show∃r,Ab (D6 c (i:Int) ()) _=_;unfold D6;rw[Dd hx,Aa];obtain⟨a,ha⟩:=LN (!(x.Hashes !=3)) (Adt c.Day (i:Int));rw[ha,Aa];obtain⟨e,he,_⟩:=VD x;obtain⟨b,hb⟩:=LN (!((x.Hashes !=3)||(x.Salt !=a))) ⟨e,he⟩;rw[hb,Aa];split
  ·exact⟨_,rfl⟩
  ·exact Tb c k (i+1) (by omega)
theorem PO (c:g_api_Cascade): ∃e,DG c=some e:=by
 unfold DG;split
 ·exact⟨_,rfl⟩
 ·obtain⟨b,hb⟩: ∃b,HH c.Day=some b:=⟨_,rfl⟩;rw[hb,Aa];split
  ·exact⟨_,rfl⟩
  ·obtain⟨r,hr⟩:=Tb c c.Levels.length 0 (by omega);rw[show B6 (D6 c) c.Levels.length 0 ()=some r from hr,Aa];cases r<;>exact⟨_,rfl⟩
theorem YX (l:List g_api_Sieve)(n:Int): ∀(k i:Nat) (s:Int),i+k=l.length→∃r,B6 (AI l) k (i:Int) s=some r
 |0,i,s,_=>⟨_,rfl⟩
 |k+1,i,s,hi=>by
  obtain⟨x,hx⟩: ∃x,l[i]? =some x:=⟨_,AiJ (by omega)⟩;obtain⟨b,hb⟩:=Ahs x s;show∃r,Ab (AI l (i:Int) s) _=_;unfold AI JW;rw[Dd hx,Aa,hb,Aa,Aa];cases b with
  |false=>exact⟨_,rfl⟩
  |true=>exact YX l n k (i+1) s (by omega)
theorem AeL (c:g_api_Cascade)(n:Int): ∃b,m_cascade_Has c n=some b:=by
 obtain⟨e,he⟩:=PO c;unfold m_cascade_Has;rw[he,Aa];split
 ·exact⟨_,rfl⟩
 ·obtain⟨r,hr⟩:=YX c.Levels n c.Levels.length 0 n (by omega);unfold BF;rw[show B6 (AI c.Levels) c.Levels.length 0 n=some r from hr,Aa];cases r with
  |inr r=>
   rw[Aa];by_cases h:decide (r.1<0)=true
   ·rw[Ain h]; exact⟨_,rfl⟩
   ·rw[Ail h]; exact⟨_,rfl⟩
  |inl y=>exact⟨_,rfl⟩
def sgn (a b:Int):Int:=if a<b then-1 else if b<a then 1 else 0
theorem ZS (a b:Int):Dr a b=some (sgn a b):=by
 unfold Dr HE sgn;by_cases h1:a<b
 ·simp[Ab,bnd,h1]
 ·by_cases h2:b<a
  ·simp[Ab,bnd,h1,h2]
  ·simp[Ab,bnd,h1,h2]
abbrev S8:Type:=Bool×Int×Int×UInt64×UInt64×Int×UInt64×UInt64
def later (x h:g_api_Head):Prop:=h.Size<x.Size∨(h.Size=x.Size∧h.At<x.At)
def Ac8 (a b:Int):Int:=if a=0 then b else a
theorem AgE (a b c d:Int):Kj [a,b,c,d]=some (Ac8 a (Ac8 b (Ac8 c d))):=by
 unfold Kj MU Ac8;by_cases h1:a=0
 ·by_cases h2:b=0
  ·by_cases h3:c=0
   ·by_cases h4:d=0<;>simp[EV,FY,Ab,h1,h2,h3,h4]
   ·simp[EV,FY,Ab,h1,h2,h3]
  ·simp[EV,FY,Ab,h1,h2]
 ·simp[EV,FY,Ab,h1]
theorem UW (a b:UInt64):Ei a b=some (sgn (a.toNat:Int) (b.toNat:Int)):=by
 unfold Ei Fv sgn;by_cases h1:(a.toNat:Int)<(b.toNat:Int)
 ·simp only[Ab,bnd,bne_self_eq_false,Bool.false_eq_true,if_false,h1,decide_true,if_true]
 ·by_cases h2:(b.toNat:Int)<(a.toNat:Int)
  ·simp only[Ab,bnd,bne_self_eq_false,Bool.false_eq_true,if_false,h1,h2,decide_true,decide_false,gt_iff_lt,if_true]
  ·simp only[Ab,bnd,bne_self_eq_false,Bool.false_eq_true,if_false,h1,h2,decide_true,decide_false,gt_iff_lt,if_true]
theorem ZR (a b c d:UInt64):B7 [a,b] [c,d]=some (Ac8 (sgn (a.toNat:Int) (c.toNat:Int)) (sgn (b.toNat:Int) (d.toNat:Int))):=by
 have i0:idx [a,b] (0:Int)=some a:=rfl;have i1:idx [a,b] (1:Int)=some b:=rfl;have j0:idx [c,d] (0:Int)=some c:=rfl;have j1:idx [c,d] (1:Int)=some d:=rfl;unfold B7 Ac8;by_cases h1:sgn (a.toNat:Int) (c.toNat:Int)=0
 ·by_cases h2:sgn (b.toNat:Int) (d.toNat:Int)=0
  ·simp[B6,BP,i0,i1,j0,j1,UW,Ab,h1,h2]
  ·simp[B6,BP,i0,i1,j0,j1,UW,Ab,h1,h2]
 ·simp[B6,BP,i0,i1,j0,j1,UW,Ab,h1]
def Afl (a b:g_api_Head):Int:=Ac8 (sgn a.Log b.Log) (Ac8 (sgn a.Size b.Size) (Ac8 (Ac8 (sgn (a.Root.1.toNat:Int) (b.Root.1.toNat:Int)) (sgn (a.Root.2.toNat:Int) (b.Root.2.toNat:Int))) (sgn a.At b.At)))
theorem ZZ (a b:g_api_Head):D3 a b=some (Afl a b):=by
 simp only[D3,ZS,ZR,Aa,AgE,Afl]
theorem AdN (a b:g_api_Head):D8 a b=some (Afl a b):=by
 simp only[D8,ZZ,Aa]
def eqH (a b:g_api_Head):Prop:=a.Log=b.Log∧a.Size=b.Size∧((a.Root.1.toNat:Int)=(b.Root.1.toNat:Int)∧(a.Root.2.toNat:Int)=(b.Root.2.toNat:Int))∧a.At=b.At
theorem Xk {α:Type}{l:List α}{i:Nat}(h:i<l.length):idx l (i:Int)=some l[i]:=Dd (AiJ h)
def chB:List g_api_Head→Bool
 |a::b::l=>decide (Afl a b<0)&&chB (b::l)
 |_=>true
theorem Agf {i n:Nat}(h:i<n)(h1:1≤i)(hn:n≤1099511627776):w64 ((i:Int)-1)=((i-1:Nat):Int):=by rw[Cz (by omega) (by omega)]; omega
theorem drop2 {l:List g_api_Head}{i:Nat}(h1:1≤i)(h:i<l.length):l.drop (i-1)=l[i-1]::l[i]::l.drop (i+1):=by
 rw[List.drop_eq_getElem_cons (show i-1<l.length by omega)];congr 1;rw[show i-1+1=i from by omega,List.drop_eq_getElem_cons h]
theorem AeM {l:List g_api_Head}{i:Nat}(h1:1≤i)(h:i<l.length):chB (l.drop (i-1))=(decide (Afl l[i-1] l[i]<0)&&chB (l.drop i)):=by
 rw[drop2 h1 h,chB,List.drop_eq_getElem_cons h]
theorem Ah0 {l:List g_api_Head}{i:Nat}(h:l.length≤i):chB (l.drop (i-1))=true:=by
 have hl:(l.drop (i-1)).length≤1:=by rw[AiS]; omega
 match hd:l.drop (i-1),hl with
 | [],_=>rfl
 | [a],_=>rfl
 |a::b::l',hl=>simp at hl
theorem Yp {a0:g_api_Pool}(hn:a0.L.length≤1099511627776){i:Nat}(h1:1≤i)(hi:i<a0.L.length):CU a0 (i:Int) ()=some (if Afl a0.L[i-1] a0.L[i]<0 then .inl ()else .inr false):=by
 unfold CU;have hp:decide ((i:Int)>0)=true:=by simp; omega
 rw[Agf hi h1 hn,hp,Xk (show i-1<a0.L.length by omega),Xk hi];simp only[gu,cond_true,Aa,AdN,AiR];by_cases h:Afl a0.L[i-1] a0.L[i]<0
 ·rw[Ail (by simp; omega),Ain h]
 ·rw[Ain (by simp; omega),Ail h]
theorem AdO {a0:g_api_Pool}(hn:a0.L.length≤1099511627776): ∀(k i:Nat),1≤i→a0.L.length=i+k→
  B6 (CU a0) k (i:Int) ()=some (if chB (a0.L.drop (i-1))=true then .inl ()else .inr false):=by
 intro k;induction k with
 |zero=>intro i h1 hk; rw[Ain (Ah0 (by omega))]; rfl
 |succ k ih=>
  intro i h1 hk;have hi:i<a0.L.length:=by omega
  rw[AeM h1 hi];by_cases h:Afl a0.L[i-1] a0.L[i]<0
  ·simp only[B6,Yp hn h1 hi,Ain h,Aa,h,decide_true,AiR];have:=ih (i+1) (by omega) (by omega);rw[Nat.add_sub_cancel]at this;exact this
  ·simp only[B6,Yp hn h1 hi,Ail h,Aa,h,decide_false,Bool.false_and];rfl
theorem ZA {a0:g_api_Pool}(hn:a0.L.length≤1099511627776):GS a0=some (chB a0.L):=by
 unfold GS;cases hl:a0.L.length with
 |zero=>
  have:a0.L=[]:=List.eq_nil_of_length_eq_zero hl;rw[this]; rfl
 |succ k=>
  have h0:CU a0 0 ()=some (.inl ()):=by
   unfold CU; simp[gu,Ab]
  simp only[B6,h0,Aa];have:=AdO hn k 1 (by omega) (by omega);rw[show((1:Nat):Int)=0+1 from rfl,show 1-1=0 from rfl,List.drop_zero]at this;rw[this];cases chB a0.L<;>rfl
instance eqH_dec (a b:g_api_Head):Decidable (eqH a b):=by unfold eqH; infer_instance
def fnd {α:Type}(p:α→Bool):List α→Nat→Option (Nat×α)
 | [],_=>none
 |x::xs,i=>if p x=true then some (i,x)else fnd p xs (i+1)
theorem YE {α:Type}{p:α→Bool}: ∀{xs:List α} {i:Nat} {q:Nat×α},fnd p xs i=some q→∃k,q.1=i+k∧xs[k]? =some q.2∧p q.2=true
 | [],i,q,h=>by cases h
 |x::xs,i,q,h=>by
  unfold fnd at h;split at h
  ·rename_i c;cases h;exact⟨0,rfl,rfl,c⟩
  ·obtain⟨k,h1,h2,h3⟩:=YE h;exact⟨k+1,by omega,by simpa using h2,h3⟩
theorem AhP {α:Type}{l xs:List α}{x:α}{i:Nat}(h:l.drop i=x::xs): ∃hi:i<l.length,l[i]=x∧l.drop (i+1)=xs:=by
 have hi:i<l.length:=by
  apply Classical.byContradiction;intro q;rw[AiW (by omega)]at h;cases h
 rw[List.drop_eq_getElem_cons hi]at h;injection h with h1 h2;exact⟨hi,h1,h2⟩
theorem Wd {α σ τ:Type}{body:Int→σ→Option (σ⊕τ)}{s:σ}{l:List α}(p:α→Bool)(r:Nat→τ)(hs: ∀i (hi:i<l.length),body (i:Int) s=some (if p l[i]=true then .inr (r i)else .inl s)):
  ∀(xs:List α) (i:Nat),l.drop i=xs→B6 body xs.length (i:Int) s=some (match fnd p xs i with|some q=> .inr (r q.1)|none=> .inl s)
 | [],i,_=>rfl
 |x::xs,i,h=>by
  obtain⟨hi,he,hd⟩:=AhP h;have h1:=hs i hi;rw[he]at h1;unfold fnd;simp only[Aij,B6,h1,Aa];by_cases c:p x=true
  ·simp only[Ain c]
  ·simp only[Ail c];exact Wd p r hs xs (i+1) hd
def pk7 (h:g_api_Head):Int×Int×UInt64×UInt64×Int×UInt64×UInt64:=(h.Log,h.Size,h.Root.1,h.Root.2,h.At,h.Sig.E,h.Sig.S)
theorem Ahg {u v:Int}{q:Nat}(hs:0≤u∧v≤0∨u≤0∧0≤v):(u-(q:Int)*v).natAbs=u.natAbs+q*v.natAbs∧((q:Int)*v).natAbs=q*v.natAbs∧(0≤v∧u-(q:Int)*v≤0∨v≤0∧0≤u-(q:Int)*v):=by
 have hqv:((q:Int)*v).natAbs=q*v.natAbs:=by rw[Int.natAbs_mul,Int.natAbs_natCast]
 have h1:0≤v→0≤(q:Int)*v:=fun h=>Int.mul_nonneg (Ai4 q) h;have h2:v≤0→(q:Int)*v≤0:=fun h=>Int.mul_nonpos_of_nonneg_of_nonpos (Ai4 q) h;refine⟨?_,hqv,?_⟩
 ·rw[←hqv];generalize (q:Int)*v=z at*;omega
 ·generalize (q:Int)*v=z at*;omega
theorem inv_it (m:Nat)(a:Int)(hm2:m<2305843009213693952): ∀(n:Nat) (x y:UInt64) (u v:Int),y.toNat≤n→(∃k,u*a=x.toNat+k*m)→(∃k,v*a=y.toNat+k*m)→u.natAbs*y.toNat+v.natAbs*x.toNat=m→
  (0≤u∧v≤0∨u≤0∧0≤v)→x.toNat≤m→u.natAbs≤m→v.natAbs≤m→y.toNat≤m→
  ∃r:Int,iter Cu (n+1) (x,y,u,v)=some r∧(∃k,r*a=Nat.gcd x.toNat y.toNat+k*m)∧r.natAbs≤m:=by
 intro n;induction n with
 |zero=>
  intro x y u v hy hu hv hb hs hx hul hvl hyl;have hy0:y.toNat=0:=by omega
  refine⟨u,Fw ?_,by rw[hy0,Nat.gcd_zero_right]; exact hu,hul⟩;unfold Cu;rw[Ail (by simp[hy0])]
 |succ n ih=>
  intro x y u v hy hu hv hb hs hx hul hvl hyl;by_cases hy0:y.toNat=0
  ·refine⟨u,Fw ?_,by rw[hy0,Nat.gcd_zero_right]; exact hu,hul⟩;unfold Cu;rw[Ail (by simp[hy0])]
  ·have hyne:y≠0:=fun e=>hy0 (by rw[e]; rfl);have hdm:=Nat.div_add_mod' x.toNat y.toNat;have hmod:=Nat.mod_lt x.toNat (show 0<y.toNat by omega);have hql:x.toNat/y.toNat≤x.toNat:=Nat.div_le_self _ _;have hmul:x.toNat/y.toNat*y.toNat≤x.toNat:=Nat.div_mul_le_self _ _;have hxl:=x.toNat_lt;have hgcd:Nat.gcd x.toNat y.toNat=Nat.gcd y.toNat (x.toNat%y.toNat):=by rw[Nat.gcd_comm,Nat.gcd_rec,Nat.gcd_comm]
   have eq1:(x/y).toNat=x.toNat/y.toNat:=UInt64.toNat_div _ _;have eq2:((x/y)*y).toNat=x.toNat/y.toNat*y.toNat:=by rw[UInt64.toNat_mul,eq1]; exact Ai6 (Aje hmul hxl)
   have eq3:(x-(x/y)*y).toNat=x.toNat%y.toNat:=by
    rw[UInt64.toNat_sub_of_le _ _ (by rw[UInt64.le_iff_toNat_le,eq2]; exact hmul),eq2];omega
   generalize hq:x.toNat/y.toNat=q at*;generalize hr:x.toNat%y.toNat=r at*;obtain⟨habs,hqv,hs'⟩:=Ahg (q:=q) hs;have hbal:v.natAbs*r+(u-(q:Int)*v).natAbs*y.toNat=m:=by
    rw[habs,←hb,←hdm]; grind
   have hvm:(u-(q:Int)*v).natAbs≤m:=by
    have:(u-(q:Int)*v).natAbs*1≤(u-(q:Int)*v).natAbs*y.toNat:=Nat.mul_le_mul_left _ (by omega);omega
   have hqb:((q:Int)*v).natAbs≤m:=by omega
   have w1:w64 (q:Int)=(q:Int):=Cz (by omega) (by omega);have w2:w64 ((q:Int)*v)=(q:Int)*v:=by
    generalize (q:Int)*v=z at*;exact Cz (by omega) (by omega)
   have w3:w64 (u-(q:Int)*v)=u-(q:Int)*v:=by
    generalize u-(q:Int)*v=z at*;exact Cz (by omega) (by omega)
   have hdmI:(q:Int)*(y.toNat:Int)+(r:Int)=(x.toNat:Int):=by exact_mod_cast hdm
   obtain⟨t,t1,t2,t3⟩:=ih y (x-(x/y)*y) v (u-(q:Int)*v) (by rw[eq3]; omega) hv (by
    obtain⟨k,hk⟩:=hu;obtain⟨l,hl⟩:=hv;refine⟨k-q*l,?_⟩;rw[eq3];grind) (by rw[eq3]; exact hbal) (by omega) hyl hvl hvm (by rw[eq3]; omega)
   rw[eq3,←hgcd]at t2;refine⟨t,?_,t2,t3⟩;rw[Er (s':=(y,x-(x/y)*y,v,u-(q:Int)*v)),t1];unfold Cu;dsimp only;rw[Ain (by simp; omega),Ain hyne,eq1,De,w1,w2,w3,De]
theorem inv_eq {a:UInt64}{b:Nat}(h:a.toNat*b%GQ=1): ∃z:UInt64,FV a=some (z,0)∧z.toNat*a.toNat%GQ=1:=by
 have hm:(a%2305843009213691579).toNat=a.toNat%GQ:=UInt64.toNat_mod _ _;have hml:=Nat.mod_lt a.toNat (show 0<GQ by decide);have hne:a.toNat%GQ≠0:=fun e=>by
  rw[Nat.mul_mod,e,Nat.zero_mul,Nat.zero_mod]at h; cases h
 have hg:Nat.gcd (a.toNat%GQ) GQ=1:=by
  have d1:=Nat.gcd_dvd_left (a.toNat%GQ) GQ;have d2:=Nat.gcd_dvd_right (a.toNat%GQ) GQ;have h':a.toNat%GQ*b%GQ=1:=by rw[Nat.mod_mul_mod]; exact h
  have h2:=Nat.div_add_mod (a.toNat%GQ*b) GQ;rw[h']at h2;have d3:Nat.gcd (a.toNat%GQ) GQ ∣ GQ*(a.toNat%GQ*b/GQ)+1:=by rw[h2]; exact Nat.dvd_trans d1 (Nat.dvd_mul_right _ _)
  have d4:=(Nat.dvd_add_right (Nat.dvd_trans d2 (Nat.dvd_mul_right GQ (a.toNat%GQ*b/GQ)))).1 d3;exact Nat.dvd_one.1 d4
 obtain⟨r,r1,⟨k,r2⟩,r3⟩:=inv_it GQ (a.toNat%GQ:Nat) (by decide) GQ (a%2305843009213691579) 2305843009213691579 1 0 (by decide) ⟨0,by rw[hm]; simp⟩ ⟨-1,by
  rw[show(2305843009213691579:UInt64).toNat=GQ from rfl]; simp⟩ (by rw[show(2305843009213691579:UInt64).toNat=GQ from rfl]; simp) (by omega) (by rw[hm]; omega) (by decide) (by decide) (by decide)
 rw[hm,show(2305843009213691579:UInt64).toNat=GQ from rfl,hg]at r2;have r1':=LK _ r1 (by decide);have hw:w64 (((2305843009213691579:UInt64).toNat:Int))=(GQ:Int):=Cz (by decide) (by decide);have hz: ∃z:Nat,(if(decide (r<0))=true then bnd ((w64 (r+(w64 (((2305843009213691579:UInt64).toNat:Int)))))) fun x7=>some x7 else some r)=some (z:Int)∧z≤GQ∧∃l:Int,(z:Int)*(a.toNat%GQ:Nat)=1+l*GQ:=by
  simp only[GQ]at*;by_cases hneg:r<0
  ·rw[Ain (by simpa using hneg),hw,De,Cz (by omega) (by omega)];obtain⟨z,hz⟩:=Int.eq_ofNat_of_zero_le (show 0≤r+2305843009213691579 by omega);refine⟨z,by rw[←hz]; rfl,by omega,k+(a.toNat%2305843009213691579:Nat),?_⟩;rw[←hz,Int.add_mul,r2];grind
  ·rw[Ail (by simpa using hneg)];obtain⟨z,hz⟩:=Int.eq_ofNat_of_zero_le (show 0≤r by omega);exact⟨z,by rw[hz],by omega,k,by rw[←hz]; exact r2⟩
 obtain⟨z,z1,z2,l,z3⟩:=hz;have hzn:(toU (z:Int)).toNat=z:=Vx (by simp only[GQ]at z2; omega);refine⟨toU (z:Int),?_,?_⟩
 ·unfold FV D4;rw[Ain (by decide),Ail (by rw[Ai2,hm]; omega),r1',Aa,Aa,z1,Aa,Aa]
 ·rw[hzn,←Nat.mul_mod_mod];have:((z*(a.toNat%GQ):Nat):Int)=1+l*GQ:=by rw[Int.natCast_mul]; exact z3
  generalize z*(a.toNat%GQ)=w at*;simp only[GQ]at*;omega
theorem Wn (n:UInt64):FL n=some (Ut 8 n):=by
 unfold FL;simp[CS,JH,idx,w64,De,Ut]
def pubK (k:UInt64):UInt64:=W3 2305843009213691579 4 k
def chal (c p:UInt64)(msg:List UInt8):UInt64:=numM (Afh ⟨#[115,105,103,110]⟩ [Ut 8 c,Ut 8 p,msg]) 1152921504606845789
theorem AhZ (c p:UInt64){msg:List UInt8}(h:msg.length≤600000):DU c p msg=some (chal c p msg):=by
 unfold DU;rw[Wn,Aa,Wn,Aa,OC _ _ (by simp[Ac1,Lu]; omega),Aa,Afo dvR,Aa]; rfl
def gr:Nat:=GR
theorem Yj (a n:UInt64):(W3 2305843009213691579 a n).toNat=a.toNat^n.toNat%GQ:=AdJ dvQ a n
theorem Ahf {p e k:Nat}(hp:p^gr%GQ=1)(he:e≤gr):p^e%GQ*p^ (gr-e)%GQ=1:=by
 rw[Nat.mod_mul_mod,←Nat.pow_add,Nat.add_sub_cancel' he]; exact hp
theorem Ab5 {α:Type} [Inhabited α](o:Option α):gu true o=o:=rfl
def okBody (b:List UInt8):Bool:=decide (0<b.length)&&decide (b.length≤2048)
def Abv (n:Int):Bool:=decide (0≤n)&&decide (n≤1099511627776)
theorem Rv (n:Int):Dk n=some (Abv n):=rfl
def okL:List g_api_Leaf→List (List UInt8)→Bool
 | [],_=>true
 |x::r,ks=>(okBody x.Body&&Abv x.At&& !decide (x.Body∈ks))&&okL r (ks++[x.Body])
def okH:List Int→Int→Int→Bool
 | [],_,_=>true
 |x::r,last,n=>(!decide (x≤last)&& !decide (n≤x))&&okH r x n
def okHd (l:g_api_Log):Bool:=Abv l.Id&& !decide (l.Key.toNat=0)&&decide (l.Key.toNat<1152921504606845789)&&decide (0≤l.Delay)&&decide (l.Delay≤1000)
def chk (l:g_api_Log):Int:=if okHd l=true then(if okL (l.L++l.Wait) []=true then(if okH l.Hide (-1) (l.L.length:Int)=true then(if 256<(l.L++l.Wait).length then 2 else 0)else 1)else 1)else 1
theorem Aen (n:Nat)(h:n≤1000000):BV (n:Int)=some []:=by
 have hw:w64 ((n:Int)-(w64 (0-((0:Nat):Int))))=(n:Int):=by rw[Cz (n:=0-((0:Nat):Int)) (by omega) (by omega),Cz (by omega) (by omega)]; omega
 unfold BV;rw[Ail (by rw[Aiq]; omega),Aa,hw,De];by_cases h0:n=0
 ·rw[Ail (by simp; omega),Aa]
 ·rw[Ain (by simp; omega),Ain (by omega),Aa]
theorem Xy: ∀(xs:List (List UInt8)) (i:Int) (n:Nat),n+xs.flatten.length≤1000000→DA Bg xs i (n:Int)=some ((n+xs.flatten.length:Nat):Int):=by
 intro xs;induction xs with
 |nil=>intro i n _; simp[DA]
 |cons x xs ih=>
  intro i n h;simp only[List.flatten_cons,Aik]at h;have hw:w64 ((n:Int)+(x.length:Int))=((n+x.length:Nat):Int):=by rw[Cz (by omega) (by omega)]; omega
  have hb:Bg i x (n:Int)=some ((n+x.length:Nat):Int):=by
   unfold Bg;rw[De,hw,Ail (by rw[Aiq]; omega),Aa]
  simp only[DA,hb,Aa];rw[ih _ _ (by omega),List.flatten_cons,Aik,Ajn]
theorem Xz: ∀(xs:List (List UInt8)) (i:Int) (s:List UInt8),s.length+xs.flatten.length≤1000000→DA Bf xs i s=some (s++xs.flatten):=by
 intro xs;induction xs with
 |nil=>intro i s _; simp[DA]
 |cons x xs ih=>
  intro i s h;simp only[List.flatten_cons,Aik]at h;have hb:Bf i x s=some (s++x):=by
   unfold Bf;rw[NL 1 (by omega) (by omega),Aa]
  simp only[DA,hb,Aa];rw[ih _ _ (by rw[Aik]; omega),List.flatten_cons,Aip]
theorem ZP {xs:List (List UInt8)}(h:xs.flatten.length≤1000000):Be xs=some xs.flatten:=by
 have h1:=Xy xs 0 0 (by omega);rw[show((0:Nat):Int)=0 from rfl,AiN]at h1;unfold Be;rw[h1,Aa,Aa,Aen _ h,Aa,Xz xs 0 [] (by simpa using h),Aa,Aa,Ai5]
theorem Afs {w:ByteArray}{ps:List (List UInt8)}(hw:w.data.toList.length≤100)(h:ps.flatten.length≤100000):KY w ps=some (w.data.toList++ps.flatten):=by
 unfold KY;have h0:([]:List UInt8).length=0:=rfl;rw[NL 1 (by omega) (by omega),Aa,ZP (by omega),Aa,Ai5,NL 1 (by omega) (by omega),Aa]
def e8 (n:Int):List UInt8:=[toB (Bx n 56),toB (Bx n 48),toB (Bx n 40),toB (Bx n 32),toB (Bx n 24),toB (Bx n 16),toB (Bx n 8),toB (Bx n 0)]
theorem M6 (n:Int):D2 n=some (e8 n):=by
 unfold D2;simp[CS,JL,idx,w64,De,e8]
def AgO (p:g_api_Promise):List UInt8:=[112,114,111,109,105,115,101]++[e8 p.Log,e8 p.At,P6 p.Leaf].flatten
def Ahr (h:g_api_Head):List UInt8:=[104,101,97,100]++[e8 h.Log,e8 h.Size,P6 h.Root,e8 h.At].flatten
theorem YO (n:Int):(e8 n).length=8:=rfl
theorem VP (p:g_api_Promise):DV p=some (AgO p):=by
 unfold DV;rw[M6,Aa,M6,Aa,U2,Aa,Afs (by decide) (by simp[YO,KX]),Aa]; rfl
theorem AbA (h:g_api_Head):HA h=some (Ahr h):=by
 unfold HA;rw[M6,Aa,M6,Aa,U2,Aa,M6,Aa,Afs (by decide) (by simp[YO,KX]),Aa]; rfl
theorem Abf (p:g_api_Promise):(AgO p).length≤600000:=by simp[AgO,YO,KX]
theorem Ab4 (h:g_api_Head):(Ahr h).length≤600000:=by simp[Ahr,YO,KX]
theorem AdH (p z:UInt64){msg:List UInt8}(s:g_api_Sig)(hm:msg.length≤600000)(hz:FV (W3 2305843009213691579 p s.E)=some (z,0)):
  (Ab (EA p s.E) fun x2=>Ab (FV x2) fun x3=>Ab (gu (!(x3.2 !=0)) (EO s.S)) fun x4=>Ab (gu (!(x3.2 !=0)) (Kl x4 x3.1)) fun x5=>Ab (gu (!(x3.2 !=0)) (DU x5 p msg)) fun x6=>
   if((x3.2 !=0)||((x6.toNat:Int) !=(s.E.toNat:Int)))=true then some (40:Int)else some 0)
   =if(((chal (ZD 2305843009213691579 (pubK s.S) z) p msg).toNat:Int) !=(s.E.toNat:Int))=true then some 40 else some 0:=by
 have e1:((z,(0:Int)).2 !=0)=false:=rfl;unfold Kl;rw[Yi,Aa,hz,Aa,e1,Bool.not_false,Ab5,Ah9,Aa,Ab5,Py dvQ,Aa,Aa,Ab5];dsimp only;rw[show W3 2305843009213691579 4 s.S=pubK s.S from rfl,AhZ _ _ hm,Aa,Ai8]
theorem inv_of {p E:UInt64}(hpow:p.toNat^gr%GQ=1)(hE:E.toNat≤gr): ∃z:UInt64,FV (W3 2305843009213691579 p E)=some (z,0)∧z.toNat*(W3 2305843009213691579 p E).toNat%GQ=1:=by
 have hinv:(W3 2305843009213691579 p E).toNat*p.toNat^ (gr-E.toNat)%GQ=1:=by
  rw[Yj]; exact Ahf (k:=0) hpow hE
 exact inv_eq hinv
theorem le_gr {E:UInt64}(hE:E.toNat<1152921504606845789):E.toNat≤gr:=Nat.le_of_lt hE
theorem max_ge {a b:UInt64}:decide (((U9 a b).toNat:Int)≥1152921504606845789)=(decide ((a.toNat:Int)≥1152921504606845789)||decide ((b.toNat:Int)≥1152921504606845789)):=by
 rw[Ajd,AiZ,Aiq,Aiq,Aiq];unfold U9;split
 ·rename_i hlt;have:=UInt64.lt_iff_toNat_lt.1 hlt;omega
 ·rename_i hlt;have:=mt UInt64.lt_iff_toNat_lt.2 hlt;omega
theorem AgQ {p:UInt64}(h:((W3 2305843009213691579 p 1152921504606845789).toNat:Int)=1):p.toNat^gr%GQ=1:=by
 have h1:=Yj p 1152921504606845789;rw[show(1152921504606845789:UInt64).toNat=gr from rfl]at h1;rw[←h1];exact Int.ofNat.inj h
theorem Ah6 {a b:UInt64}(h:(decide ((a.toNat:Int)≥1152921504606845789)||decide ((b.toNat:Int)≥1152921504606845789))=false):a.toNat<1152921504606845789:=by
 rw[Bool.or_eq_false_iff,decide_eq_false_iff_not]at h;have:=h.1;omega
theorem inP_eq (p:UInt64):FX p=some (((decide ((p.toNat:Int)>0))&&(decide ((p.toNat:Int)<2305843009213691579)))&&(((W3 2305843009213691579 p 1152921504606845789).toNat:Int)==1)):=by
 unfold FX;cases (decide ((p.toNat:Int)>0))&&(decide ((p.toNat:Int)<2305843009213691579))
 ·simp only[gu,cond_false,Aa,De,Bool.false_and]
 ·simp only[gu,cond_true,Yi,Aa,De,AiR]
theorem in_one {p:UInt64}(h:(((decide ((p.toNat:Int)>0))&&(decide ((p.toNat:Int)<2305843009213691579)))&&(((W3 2305843009213691579 p 1152921504606845789).toNat:Int)==1))=true):((W3 2305843009213691579 p 1152921504606845789).toNat:Int)=1:=by
 rw[Aie]at h;exact Ai2.1 h.2
theorem Wk (p:UInt64){msg:List UInt8}(s:g_api_Sig)(hm:msg.length≤600000): ∃e,Ew p msg s=some e:=by
 unfold Ew;rw[inP_eq,Aa,max_ge];cases h1:((decide ((p.toNat:Int)>0))&&(decide ((p.toNat:Int)<2305843009213691579)))&&(((W3 2305843009213691579 p 1152921504606845789).toNat:Int)==1)with
 |false=>rw[Bool.not_false,Ain rfl]; exact⟨_,rfl⟩
 |true=>
  rw[Ajl,Ail Bool.false_ne_true];cases h2:(decide ((s.E.toNat:Int)≥1152921504606845789)||decide ((s.S.toNat:Int)≥1152921504606845789))with
  |true=>rw[Ain rfl]; exact⟨_,rfl⟩
  |false=>
   rw[Ail Bool.false_ne_true];obtain⟨z,z1,z2⟩:=inv_of (AgQ (in_one h1)) (le_gr (Ah6 h2));rw[AdH p z s hm z1];split<;>exact⟨_,rfl⟩
theorem Ri (k:g_api_Key)(log:Int)(ok:Bool){msg:List UInt8}(s:g_api_Sig)(hm:msg.length≤600000): ∃e,Hz k log ok msg s=some e:=by
 unfold Hz;rw[Rv,Aa];split
 ·exact⟨_,rfl⟩
 ·split
  ·exact⟨_,rfl⟩
  ·obtain⟨e,he⟩:=Wk k.Key s hm;rw[he,Aa];exact⟨_,rfl⟩
theorem ZU (k:g_api_Key)(p:g_api_Head): ∃e,DW k p=some e:=by
 unfold DW;rw[Rv,Aa,AbA,Aa];obtain⟨e,he⟩:=Ri k p.Log ((Abv p.At&&(decide (p.Size≥0)))&&(decide (p.Size≤256))) p.Sig (Ab4 p);rw[he,Aa];exact⟨_,rfl⟩
def chd (k:g_api_Key)(h:g_api_Head):Int:=(DW k h).getD 0
theorem chd_eq (k:g_api_Key)(h:g_api_Head):DW k h=some (chd k h):=by
 obtain⟨e,he⟩:=ZU k h;unfold chd;rw[he]; rfl
def Rp (h:g_api_Head)(ks:List g_api_Key):Bool:=match fnd (fun k:g_api_Key=>k.Log==h.Log) ks 0 with|some q=>chd q.2 h==0|none=>false
theorem Ab1 (l:List g_api_Key)(k:g_api_Head):Bc l k=some ((match fnd (fun y:g_api_Key=>y.Log==k.Log) l 0 with|some q=>(q.1:Int)|none=> -1),k):=by
 have:=Wd (body:=BH l) (s:=pk7 k) (l:=l) (fun y:g_api_Key=>y.Log==k.Log) (fun i=>((i:Int),k)) (fun i hi=> ?_) l 0 rfl
 ·unfold Bc;rw[show((0:Nat):Int)=0 from rfl]at this;rw[show(k.Log,k.Size,k.Root.1,k.Root.2,k.At,k.Sig.E,k.Sig.S)=pk7 k from rfl,this,Aa];cases fnd (fun y:g_api_Key=>y.Log==k.Log) l 0<;>rfl
 ·unfold BH IZ pk7;dsimp only;rw[Xk hi,Aa,Aa];cases l[i].Log==k.Log<;>rfl
theorem AdC (h:g_api_Head)(ks:List g_api_Key):E9 h ks=some (Rp h ks):=by
 unfold E9 Rp;rw[Ab1,Aa];cases hf:fnd (fun y:g_api_Key=>y.Log==h.Log) ks 0 with
 |none=>rfl
 |some q=>
  obtain⟨k,k1,k2,_⟩:=YE hf;obtain⟨j,x⟩:=q;have hq:j=k:=by dsimp only at k1; omega
  subst hq;have hd:decide ((j:Int)≥0)=true:=by simp
  dsimp only at k2⊢;rw[hd,Dd k2];simp only[gu,cond_true,Aa,chd_eq,De,AiR]
def Uk (l:List g_api_Head)(ks:List g_api_Key):Bool:=l.all fun h=>Rp h ks
theorem VK (ks:List g_api_Key): ∀(xs:List g_api_Head) (i:Int),EV (Gl ks) xs i ()=some (if Uk xs ks=true then .inl ()else .inr 40)
 | [],i=>rfl
 |x::xs,i=>by
  have h1:Gl ks i x ()=some (if Rp x ks=true then .inl ()else .inr 40):=by
   unfold Gl;rw[AdC,Aa];cases Rp x ks<;>rfl
  unfold Uk;by_cases c:Rp x ks=true
  ·simp only[EV,h1,c,if_true,Aa,Ai0,AiR];exact VK ks xs (i+1)
  ·have c':Rp x ks=false:=by simpa using c
   simp only[EV,h1,c',Bool.false_eq_true,if_false,Aa,Ai0,Bool.false_and]
def PM (l:List g_api_Head)(ks:List g_api_Key):Int:=if l.length>1024 then 2 else if chB l=true then(if Uk l ks=true then 0 else 40)else 1
theorem V7 (p:g_api_Pool)(ks:List g_api_Key):Fa p ks=some (PM p.L ks):=by
 unfold Fa PM;simp only[De];by_cases h:p.L.length>1024
 ·rw[Ain (by simp; omega),Ain h]
 ·rw[Ail (by simp; omega),Ail h,ZA (by omega),Aa];cases chB p.L
  ·rfl
  ·simp only[Ajl,Bool.false_eq_true,if_false,if_true,VK,Aa];cases Uk p.L ks<;>rfl
def Tot {α:Type}(x:Option α):Prop:= ∃r,x=some r
theorem tot {α:Type}(r:α):Tot (some r):=⟨r,rfl⟩
theorem Dg {α β:Type}{x:Option α}{k:α→Option β}(h:Tot x)(hk: ∀a,x=some a→Tot (k a)):Tot (Ab x k):=by
 obtain⟨a,h⟩:=h;rw[h]; exact hk a h
theorem Rc {α:Type} [Inhabited α]{b:Bool}{x:Option α}(h:b=true→Tot x):Tot (gu b x):=by
 cases b with
 |true=>exact h rfl
 |false=>exact tot default
theorem Rb {α:Type}{b:Bool}{x y:Option α}(h1:b=true→Tot x)(h0:b=false→Tot y):Tot (if b=true then x else y):=by
 cases b with
 |true=>exact h1 rfl
 |false=>exact h0 rfl
theorem Agh {α:Type}{c:Prop} [Decidable c]{x y:Option α}(h1:c→Tot x)(h0: ¬c→Tot y):Tot (if c then x else y):=by
 split
 ·exact h1 ‹_›
 ·exact h0 ‹_›
theorem QN {σ τ:Type}{step:σ→Option (σ⊕τ)}(μ:σ→Nat)(I:σ→Prop)(Q:τ→Prop)
  (h: ∀s,I s→∃r,step s=some r∧(∀s',r= .inl s'→I s'∧μ s'<μ s)∧∀t,r= .inr t→Q t): ∀n s,I s→μ s<n→∃t,iter step n s=some t∧Q t
 |0,s,_,hn=>by omega
 |n+1,s,hI,hn=>by
  obtain⟨r,h1,h2,h3⟩:=h s hI;cases r with
  |inr t=>exact⟨t,by show Ab (step s) _=_; rw[h1]; rfl,h3 t rfl⟩
  |inl s'=>
   obtain⟨i',lt⟩:=h2 s' rfl;obtain⟨t,e,q⟩:=QN μ I Q h n s' i' (by omega);exact⟨t,by show Ab (step s) _=_; rw[h1]; exact e,q⟩
theorem Tn (s:ByteArray)(i:Nat):1≤(Utf8.decode s i).2:=by
 unfold Utf8.decode;simp only;repeat' split
 all_goals simp
theorem Kv:9223372036854775808≤Gr:=Aih rfl
theorem Aaq (c:Int):LJ c=some (decide (c≤32)||decide (c>126)):=rfl
theorem UM (s:ByteArray)(b:Bool)(hs:s.size<9223372036854775808):Tot (C5 s b):=by
 unfold C5;refine Dg ?_ fun a _=> ?_
 ·obtain⟨t,e,_⟩:=QN (step:=DC s b) (fun i=>s.size-i) (fun _=>True) (fun _=>True) (fun i _=>by
   unfold DC;by_cases hi:i<s.size
   ·rw[Ain hi];simp only[bnd,Aaq,Aa];split
    ·exact⟨_,rfl,fun s' h=>(by cases h),fun _ _=>trivial⟩
    ·refine⟨_,rfl,fun s' h=> ?_,fun _ _=>trivial⟩;cases h;have:=Tn s i;exact⟨trivial,by omega⟩
   ·rw[Ail hi];exact⟨_,rfl,fun s' h=>(by cases h),fun _ _=>trivial⟩) Gr 0 trivial (by have:=Kv; omega)
  exact⟨t,e⟩
 ·cases a with
  |inl _=>exact tot _
  |inr _=>exact tot _
theorem Adj (s:ByteArray):Tot (ES s):=by
 unfold ES;refine Dg (Rc fun h=> ?_) fun a _=>tot _;simp only[Aie,Aiq]at h;unfold DD Em;refine Dg (Dg (UM s true (by omega)) fun a _=>tot _) fun a _=>tot _
theorem Aao {s:ByteArray}{b:Bool}(h:ES s=some b):b=true→eqS s (⟨#[]⟩:ByteArray)=false∧s.size≤64:=by
 unfold ES at h;obtain⟨x,_,h⟩:=Ad h;have h:=Aid (AfZ h);intro hb;rw[hb]at h;simp only[Aie,Bool.not_eq_true',Aiq]at h;exact⟨h.1.1,by omega⟩
theorem UQ (c:Int):Tot (Dm c):=tot _
theorem Ab0 (c:Int):Tot (Dj c):=by
 unfold Dj;exact Dg (Rc fun _=>UQ c) fun a _=>tot _
theorem AbN (s:ByteArray):Tot (Gh s):=by
 unfold Gh;refine Rb (fun _=>tot _) fun h=> ?_;simp only[Bool.or_eq_false_iff,decide_eq_false_iff_not]at h;refine Dg ?_ fun a _=> ?_
 ·obtain⟨t,e,_⟩:=QN (step:=Bb s) (fun i=>s.size-i) (fun _=>True) (fun _=>True) (fun i _=>by
   unfold Bb;by_cases hi:i<s.size
   ·rw[Ain hi];have hd:=Tn s i;obtain⟨x4,h4⟩:=Rc (b:=((i:Int)==(w64 ((s.size:Int)-1)))) fun _=>UQ ((Utf8.decode s i).1:Int);obtain⟨x7,h7⟩:=Rc (b:=((i:Int)==0)) fun _=>UQ ((Utf8.decode s i).1:Int);obtain⟨x9,h9⟩:=Rc (b:=(!((i:Int)==0))) fun _=>Ab0 ((Utf8.decode s i).1:Int);simp only[bnd,h4,h7,h9,Aa];split
    ·exact⟨_,rfl,fun s' h=>(by cases h; exact⟨trivial,by omega⟩),fun _ _=>trivial⟩
    ·split
     ·exact⟨_,rfl,fun s' h=>(by cases h),fun _ _=>trivial⟩
     ·split
      ·exact⟨_,rfl,fun s' h=>(by cases h; exact⟨trivial,by omega⟩),fun _ _=>trivial⟩
      ·split
       ·exact⟨_,rfl,fun s' h=>(by cases h),fun _ _=>trivial⟩
       ·exact⟨_,rfl,fun s' h=>(by cases h; exact⟨trivial,by omega⟩),fun _ _=>trivial⟩
   ·rw[Ail hi];exact⟨_,rfl,fun s' h=>(by cases h),fun _ _=>trivial⟩) Gr 0 trivial (by have:=Kv; omega)
  exact⟨t,e⟩
 ·cases a with
  |inl _=>exact tot _
  |inr _=>exact tot _
theorem AfA: ∀(l:List UInt8) (c:UInt8),Lib.indexByte l c<l.length
 | [],c=>by simp[Lib.indexByte]
 |b::l,c=>by
  have:=AfA l c;unfold Lib.indexByte;split
  ·rw[Aij]; omega
  ·split
   ·rw[Aij]; omega
   ·rw[Aij]; omega
theorem Ce (s:ByteArray):s.data.toList.length=s.size:=by rw[Array.length_toList]; rfl
theorem V5 (s:ByteArray): ∃x:Int,Cg s (⟨#[46]⟩:ByteArray)=some x∧ -1≤x∧x<s.size:=by
 unfold Cg A1 BU;simp only[bnd];by_cases h:((((⟨#[46]⟩:ByteArray).size:Int)==0)||eqS (⟨#[46]⟩:ByteArray) s)=true
 ·rw[Ain h];refine⟨0,rfl,by omega,?_⟩;have h1:eqS (⟨#[46]⟩:ByteArray) s=true:=by
   cases he:eqS (⟨#[46]⟩:ByteArray) s with
   |true=>rfl
   |false=>rw[he]at h; cases h
  have h2: [(46:UInt8)]=s.data.toList:=by simpa[eqS]using h1
  have h3:=Ce s;rw[←h2]at h3;simp only[Aij,AiF]at h3;omega
 ·rw[Ail h];refine⟨AbU s 46,rfl,Lib.indexByte_ge _ _,?_⟩;have:=AfA s.data.toList 46;rw[Ce]at this;exact this
theorem GY {x:Int}(h0: -9223372036854775808≤x)(h1:x≤9223372036854775807):w64 x=x:=by
 unfold w64; omega
theorem Iv {s:ByteArray}{lo hi:Int}(h0:0≤lo)(h1:lo≤hi)(h2:hi≤s.size):US s lo hi=some (s.extract lo.toNat hi.toNat):=by
 unfold US; rw[Ain ⟨h0,h1,h2⟩]
theorem Uy (s:ByteArray)(n k:Int):CJ s n k=Ab (if(decide ((s.size:Int)>k))=true then some true else Ab (FK s (⟨#[46]⟩:ByteArray)) fun x3=>some (decide (x3≥n))) fun x2=>if x2=true then some false else
  Ab (Hv s (⟨#[46]⟩:ByteArray)) fun x4=>Ab (Bp (fun(s:(Unit)×Nat) (b0:ByteArray)=>if s.2=0 then Ab (BK b0 s) fun y=>some (y.2==0,y)else none) x4.1 x4.2.1 x4.2.2 ((),0)) fun x5=>
  if(x5.2.2.2).2=0 then some true else some false:=by
 unfold CJ;cases decide ((s.size:Int)>k)with
 |true=>rfl
 |false=>cases FK s (⟨#[46]⟩:ByteArray)with|none=>rfl|some x=>rfl
theorem Yr (s:ByteArray)(n k:Int)(hk:k≤64):Tot (CJ s n k):=by
 rw[Uy];refine Dg ?_ fun x2 hx2=> ?_
 ·refine Rb (fun _=>tot _) fun _=> ?_;exact⟨_,rfl⟩
 ·refine Rb (fun _=>tot _) fun h=> ?_;have hsz:s.size≤64:=by
   cases hd:decide ((s.size:Int)>k)with
   |true=>rw[Ain hd]at hx2; cases hx2; cases h
   |false=>simp only[decide_eq_false_iff_not]at hd; omega
  have key: ∃r,Bp (fun(s:(Unit)×Nat) (b0:ByteArray)=>if s.2=0 then Ab (BK b0 s) fun y=>some (y.2==0,y)else none) (⟨#[46]⟩:ByteArray) s 0 ((),0)=some r:=by
   have hb5: ∀(b0:ByteArray) (s:Unit×Nat),∃z:Nat,BK b0 s=some ((),z):=fun b0 s=>by
    unfold BK;obtain⟨y,hy⟩:=AbN b0;rw[hy];simp only[Aa];split
    ·exact⟨1,rfl⟩
    ·exact⟨0,rfl⟩
   unfold Bp;rw[Ail (by decide)];obtain⟨tt,hit,hq⟩: ∃t,iter (AR (fun(s:(Unit)×Nat) (b0:ByteArray)=>if s.2=0 then Ab (BK b0 s) fun y=>some (y.2==0,y)else none) (⟨#[46]⟩:ByteArray) 0) Gr (s,((),0))=some t∧∀y,t= .inl y→y.2.2=0:=by
    exact QN (step:=AR (fun(s:(Unit)×Nat) (b0:ByteArray)=>if s.2=0 then Ab (BK b0 s) fun y=>some (y.2==0,y)else none) (⟨#[46]⟩:ByteArray) 0) (fun z=>z.1.size) (fun z=>z.1.size≤64∧z.2.2=0) (fun t=> ∀y,t= .inl y→y.2.2=0) (fun z hz=>by
     obtain⟨x,h1,h2,h3⟩:=V5 z.1;unfold AR;rw[h1];simp only[Aa];by_cases hx:x<0
     ·rw[Ain (by simpa using hx)];exact⟨_,rfl,fun s' h=>(by cases h),fun t ht y hy=>by subst hy; cases ht; exact hz.2⟩
     ·rw[Ail (by simpa using hx)];have hw:w64 (x+0)=x:=by rw[Int.add_zero]; exact GY (by omega) (by omega)
      have hw1:w64 (x+((⟨#[46]⟩:ByteArray).size:Int))=x+1:=GY (x:=x+1) (by omega) (by omega);rw[hw,hw1,Iv (by omega) (by omega) (by omega),Iv (lo:=x+1) (by omega) (by omega) (by omega)];simp only[Aa,Ain hz.2];obtain⟨zz,hzz⟩:=hb5 (z.1.extract (0:Int).toNat x.toNat) z.2;rw[hzz];simp only[Aa];split
      ·exact⟨_,rfl,fun s' h=>(by cases h),fun t ht y hy=>by subst hy; cases ht⟩
      ·rename_i hne;refine⟨_,rfl,fun s' h=> ?_,fun t ht=>by cases ht⟩;cases h;have e0:zz=0:=by simpa using hne
       refine⟨⟨?_,e0⟩,?_⟩
       ·simp only[ByteArray.size_extract]; omega
       ·simp only[ByteArray.size_extract]; omega) Gr (s,((),0)) ⟨hsz,rfl⟩ (by have:=Kv; show s.size<Gr; omega)
   show Tot (Ab (iter _ Gr (s,((),0))) _);rw[hit];cases tt with
   |inr _=>exact tot _
   |inl y3=>
    have h0:=hq y3 rfl;obtain⟨zz,hzz⟩:=hb5 y3.1 y3.2;simp only[Aa,Ain h0,hzz];exact tot _
  obtain⟨r,hr⟩:=key;show Tot (Ab (Bp _ (⟨#[46]⟩:ByteArray) s 0 ((),0)) _);rw[hr];simp only[Aa];exact Agh (fun _=>tot _) fun _=>tot _
theorem AfB (s:ByteArray):Tot (Gi s):=Dg (Yr s 8 64 (by decide)) fun a _=>tot _
theorem AcS (s:ByteArray):Tot (DZ s):=by
 unfold DZ;refine Dg (AfB s) fun a _=>Dg ?_ fun a _=>tot _;unfold G8;exact Rb (fun _=>tot _) fun _=>tot _
theorem UT (s:ByteArray):Tot (Cq s (⟨#[42,46]⟩:ByteArray)):=by
 unfold Cq Bm Bl;refine Dg (Dg (Dg (Rc fun h=> ?_) fun a _=>tot _) fun b hb=> ?_) fun a _=>tot _
 ·simp only[Aiq]at h;exact⟨_,Iv (by omega) (by omega) h⟩
 ·refine Rb (fun _=>tot _) fun h=> ?_;obtain⟨x,_,hx⟩:=Ad hb;have hx:=Aid (AfZ hx);have hb:b=true:=by simpa using h
  rw[hb]at hx;simp only[Aie,Aiq]at hx;exact Dg ⟨_,Iv (by omega) hx.1 (by omega)⟩ fun a _=>tot _
theorem XQ (s:ByteArray):Tot (DF s):=by
 unfold DF DE;refine Dg (Dg (AfB s) fun a _=>Rb (fun _=>tot _) fun _=>Dg (UT s) fun b _=>Dg (Rc fun _=>Yr _ 7 62 (by decide)) fun c _=>tot _) fun a _=>Dg ?_ fun a _=>tot _;unfold G8;exact Rb (fun _=>tot _) fun _=>tot _
theorem Aam {α:Type}{x:Option α}{d:α}(h:Tot x):x=some (x.getD d):=by
 obtain⟨r,h⟩:=h;rw[h]; rfl
def textV (s:ByteArray):Bool:=(ES s).getD false
def nameV (s:ByteArray):Int:=(DZ s).getD 0
def patV (s:ByteArray):Int:=(DF s).getD 0
theorem Aap (s:ByteArray):ES s=some (textV s):=Aam (Adj s)
theorem Uz (s:ByteArray):DZ s=some (nameV s):=Aam (AcS s)
theorem Abr (s:ByteArray):DF s=some (patV s):=Aam (XQ s)
theorem XZ {s:ByteArray}(h:textV s=true):eqS s (⟨#[]⟩:ByteArray)=false∧s.size≤64:=Aao (Aap s) h
theorem VT {s:ByteArray}{n k:Int}(h:CJ s n k=some true):(s.size:Int)≤k:=by
 rw[Uy]at h;obtain⟨x,hx,h⟩:=Ad h;cases hd:decide ((s.size:Int)>k)with
 |true=>
  rw[Ain hd]at hx;cases hx;cases h
 |false=>simp only[decide_eq_false_iff_not]at hd; omega
theorem AbX {s:ByteArray}(h:Gi s=some true):s.size≤64:=by
 obtain⟨x,hx,h⟩:=Ad h;cases h;have:=VT hx;omega
theorem Vw {b:Bool}{r:Int}(h:G8 b=some r)(h0:r=0):b=true:=by
 cases b with
 |true=>rfl
 |false=>
  have h2:(110:Int)=r:=Aid h;omega
theorem ZC {s:ByteArray}(h:nameV s=0):s.size≤64:=by
 have e:=Uz s;rw[h]at e;obtain⟨x,hx,e⟩:=Ad e;obtain⟨y,hy,e⟩:=Ad e;cases e;have:=Vw hy rfl;rw[this]at hx;exact AbX hx
theorem SC {s:ByteArray}{c:ByteArray×Bool}(h:Cq s (⟨#[42,46]⟩:ByteArray)=some c)(h1:c.2=true):c.1.size+2=s.size:=by
 unfold Cq Bm Bl at h;obtain⟨d,hd,h⟩:=Ad h;have h:=Aid h;subst h;obtain⟨p,hp,hd⟩:=Ad hd;cases p with
 |false=>
  have hd:=Aid hd;subst hd;cases h1
 |true=>
  obtain⟨q,hq,hd⟩:=Ad hd;have hd:=Aid hd;subst hd;unfold US at hq;split at hq
  ·rename_i hc;have hq:=Aid hq;have e2:(⟨#[42,46]⟩:ByteArray).size=2:=rfl;rw[e2]at hq hc;show q.size+2=s.size;rw[←hq,ByteArray.size_extract];omega
  ·cases hq
theorem Abq {s:ByteArray}(h:patV s=0):s.size≤64:=by
 have e:=Abr s;rw[h]at e;obtain⟨x,hx,e⟩:=Ad e;obtain⟨y,hy,e⟩:=Ad e;cases e;have h1:=Vw hy rfl;unfold DE at hx;obtain⟨b,hb,hx⟩:=Ad hx;cases b with
 |true=>exact AbX hb
 |false=>
  rw[Ail (by decide)]at hx;obtain⟨c,hc,hx⟩:=Ad hx;obtain⟨d,hd,hx⟩:=Ad hx;have hx:=Aid hx;subst hx;have h2:(c.2&&d)=true:=h1;simp only[Aie]at h2;rw[h2.1,h2.2]at hd;have h3:=VT hd;have h4:=SC hc h2.1;omega
def RF (right:ByteArray→Int):List ByteArray→List ByteArray→Bool
 |_,[]=>true
 |met,s::l=> !(met.any (eqS s))&&right s==0&&RF right (met++[s]) l
def ME (met:List ByteArray):List (ByteArray×Bool):=met.map fun s=>(s,true)
theorem RD: ∀(met:List ByteArray) (s:ByteArray) (i:Nat),(lkI (ME met) s i).isSome=met.any (eqS s)∧∀p,lkI (ME met) s i=some p→p.2=true
 | [],s,i=>⟨rfl,fun p h=>by cases h⟩
 |a::met,s,i=>by
  have ih:=RD met s (i+1);rw[List.any_cons];cases h:eqS s a with
  |true=>
   refine⟨?_,fun p hp=> ?_⟩
   ·show(if eqS s a=true then some (i,true)else lkI (ME met) s (i+1)).isSome=_;rw[Ain h]; rfl
   ·have hp:(if eqS s a=true then some (i,true)else lkI (ME met) s (i+1))=some p:=hp;rw[Ain h]at hp;cases hp; rfl
  |false=>
   refine⟨?_,fun p hp=> ?_⟩
   ·show(if eqS s a=true then some (i,true)else lkI (ME met) s (i+1)).isSome=_;rw[Ail (by rw[h]; decide)]; exact ih.1
   ·have hp:(if eqS s a=true then some (i,true)else lkI (ME met) s (i+1))=some p:=hp;rw[Ail (by rw[h]; decide)]at hp;exact ih.2 p hp
theorem AbJ (met:List ByteArray)(s:ByteArray):lkB (ME met) s=met.any (eqS s):=by
 have h:=RD met s 0;unfold lkB;rw[←h.1];cases e:lkI (ME met) s 0 with
 |none=>rfl
 |some p=>rw[Aiy,Option.getD_some,h.2 p e]; rfl
theorem Ad0 (met:List ByteArray)(s:ByteArray)(h:met.any (eqS s)=false):(lkI (ME met) s 0).isNone=true:=by
 have h1:=(RD met s 0).1;rw[h]at h1;cases e:lkI (ME met) s 0 with
 |none=>rfl
 |some p=>rw[e]at h1; cases h1
theorem Ag9 (right:ByteArray→Int)(mr:ByteArray→Option Int)(hr: ∀s,mr s=some (right s)): ∀(l met:List ByteArray) (i:Int),
  EV (fun(i1:Int) (x2:ByteArray) (s1:List (ByteArray×Bool))=>Ab (gu (!(lkB s1 x2)) (mr x2)) fun x3=>if((lkB s1 x2)||(x3 !=0))=true then some (.inr false)else if(lkI s1 x2 0).isNone=true then some (.inl (s1++[(x2,true)]))else none) l i (ME met)
   =some (if RF right met l=true then .inl (ME (met++l))else .inr false)
 | [],met,i=>by simp[EV,RF]
 |s::l,met,i=>by
  have ih:=Ag9 right mr hr l (met++[s]) (i+1);have hm':=AbJ met s;simp only[EV,hr]at ih⊢;rw[hm'];cases hm:met.any (eqS s)with
  |true=>simp[gu,RF,hm]
  |false=>
   simp only[gu,Bool.not_false,cond_true,Aa,Ai8];cases h0:right s==0 with
   |false=>
    have h1:(right s !=0)=true:=by simp only[bne,h0,Bool.not_false]
    rw[Ain h1];simp[RF,hm,h0]
   |true=>
    have h1:(right s !=0)=false:=by simp only[bne,h0,Ajl]
    rw[h1];simp only[Bool.false_eq_true,if_false,Ad0 met s hm,if_true,Aa];have e:ME met++[(s,true)]=ME (met++[s]):=by simp[ME]
    rw[e];simp only[gu]at ih;rw[ih];simp[RF,hm,h0]
def listV (right:ByteArray→Int)(l:List ByteArray)(a b:Int):Bool:=RF right [] l&&decide ((l.length:Int)≥a)&&decide ((l.length:Int)≤b)
theorem AbM (l:List ByteArray)(a b:Int):GU l a b=some (listV patV l a b):=by
 unfold GU;have h:=Ag9 patV DF Abr l [] 0;show Ab (EV _ l 0 (ME [])) _=_;unfold JS;rw[h];unfold listV;cases RF patV [] l<;>rfl
theorem AbL (l:List ByteArray)(a b:Int):GV l a b=some (listV nameV l a b):=by
 unfold GV;have h:=Ag9 nameV DZ Uz l [] 0;show Ab (EV _ l 0 (ME [])) _=_;unfold JT;rw[h];unfold listV;cases RF nameV [] l<;>rfl
theorem VY {right:ByteArray→Int}: ∀{l met:List ByteArray},RF right met l=true→∀s∈l,right s=0
 | [],met,_,s,hs=>by cases hs
 |a::l,met,h,s,hs=>by
  simp only[RF,Aie,Ai2]at h;rcases AiO.1 hs with e|hs
  ·rw[e]; exact h.1.2
  ·exact VY h.2 s hs
def numB (n:Int):Bool:=decide (n≥0)&&decide (n≤1099511627776)
def sigB (s:g_api_Sig):Bool:=decide ((U9 s.E s.S).toNat<1152921504606845789)
def promBC (p:g_api_Promise):Bool:=numB p.Log&&numB p.At&&decide ((U9 p.Leaf.1 p.Leaf.2).toNat<2305843009213693951)&&sigB p.Sig
theorem SU (n:Int):ET n=some (numB n):=rfl
theorem VC (s:g_api_Sig):HF s=some (sigB s):=by
 unfold HF sigB;simp only[bnd,Aii,Ajh];omega
theorem max_eq (a b:UInt64):CO [a,b]=some (U9 a b):=by
 have e1:BE [a,b] (a,1)=some (.inl (U9 a b,2)):=rfl;have e2:BE [a,b] (U9 a b,2)=some (.inr (U9 a b)):=rfl;have h: ∀n,iter (BE [a,b]) (n+1+1) (a,1)=some (U9 a b):=fun n=>by
  simp only[iter,e1,Aa,e2]
 have hf:iter (BE [a,b]) Gr (a,1)=some (U9 a b):=h 18446744073709551614;have i0:idx [a,b] 0=some a:=rfl;have d0:decide ((([a,b]:List UInt64).length:Int)<1)=false:=rfl;unfold CO;rw[d0,i0];simp only[Bool.false_eq_true,if_false,Aa,hf]
theorem Ac5 {c v:Bool}:gu c (some v)=some (c&&v):=by cases c<;>rfl
theorem YC {α:Type} [Inhabited α](o:Option α):gu true o=o:=rfl
theorem AfG {α:Type} [Inhabited α](o:Option α):gu false o=some default:=rfl
theorem DS {α β:Type}(a:α)(k:α→β):bnd a k=k a:=rfl
theorem W2 (p:g_api_Promise):HG p=some (promBC p):=by
 unfold HG promBC;simp only[SU,max_eq,VC,Ac5,DS,Aa];have e: ∀x:UInt64,decide ((x.toNat:Int)<2305843009213693951)=decide (x.toNat<2305843009213693951):=fun x=>by
  rw[Ajh]; omega
 simp only[e];cases numB p.Log with
 |false=>simp only[Bool.false_and,AfG,Aa]
 |true=>
  cases numB p.At with
  |false=>simp only[Bool.false_and,AiR,AfG,Aa]
  |true=>
   simp only[AiR,YC,Aa];cases decide ((U9 p.Leaf.1 p.Leaf.2).toNat<2305843009213693951)<;>simp only[Bool.false_and,AiR]
def promsB:Int→List g_api_Promise→Bool
 |_,[]=>true
 |last,p::l=>promBC p&& !(decide (p.Log≤last))&&promsB p.Log l
theorem Yg: ∀(l:List g_api_Promise) (i last:Int),∃z:Int,EV DX l i last=some (if promsB last l=true then .inl z else .inr false)
 | [],i,last=>⟨last,rfl⟩
 |p::l,i,last=>by
  obtain⟨z,ih⟩:=Yg l (i+1) p.Log;refine⟨z,?_⟩;have e:DX i p last=some (if(promBC p&& !(decide (p.Log≤last)))=true then .inl p.Log else .inr false):=by
   unfold DX;rw[W2,Aa];cases promBC p<;>cases decide (p.Log≤last)<;>rfl
  show Ab (DX i p last) _=_;rw[e];cases h:promBC p&& !(decide (p.Log≤last))with
  |false=>
   simp[promsB,h]
  |true=>
   rw[Ain rfl,Aa];show EV DX l (i+1) p.Log=_;rw[ih];simp[promsB,h]
def formB (c:g_api_Cert):Bool:=promsB (-1) c.Proms&&(numB c.Serial&&numB c.From&&numB c.Until&&decide (c.From<c.Until))&&(textV c.Issuer&&(!((c.Key.toNat:Int)==0))&&decide ((c.Key.toNat:Int)<2305843009213691579)&&decide ((c.Proms.length:Int)≤4)&&sigB c.Sig)&&(if c.Ca=true then textV c.Subject&&((c.Names.length:Int)==0)&&decide (c.Depth≥0)&&decide (c.Depth≤4)&&listV patV c.Permit 0 8 else eqS c.Subject (⟨#[]⟩:ByteArray)&&listV nameV c.Names 1 8&&(c.Depth==0)&&((c.Permit.length:Int)==0))
theorem Acb (c:g_api_Cert):Jo c=some (formB c):=by
 obtain⟨z,hz⟩:=Yg c.Proms 0 (-1);unfold Jo formB;rw[hz];cases promsB (-1) c.Proms with
 |false=>rfl
 |true=>
  rw[Ain rfl,Aa];simp only[SU,Aap,VC,AbM,AbL,Ac5,DS,Aa,AiR];have e1:decide (c.From≥c.Until)= !decide (c.From<c.Until):=by
   rw[←decide_not,Ajh]; omega
  have e2:decide ((c.Key.toNat:Int)≥2305843009213691579)= !decide ((c.Key.toNat:Int)<2305843009213691579):=by
   rw[←decide_not,Ajh]; omega
  have e3:decide ((c.Proms.length:Int)>4)= !decide ((c.Proms.length:Int)≤4):=by
   rw[←decide_not,Ajh]; omega
  rw[e1,e2,e3];generalize numB c.Serial=a1;generalize numB c.From=a2;generalize numB c.Until=a3;generalize decide (c.From<c.Until)=a4;generalize textV c.Issuer=b1;generalize ((c.Key.toNat:Int)==0)=b2;generalize decide ((c.Key.toNat:Int)<2305843009213691579)=b3;generalize decide ((c.Proms.length:Int)≤4)=b4;generalize sigB c.Sig=b5;cases a1<;>cases a2<;>cases a3<;>cases a4<;>try rfl
  all_goals cases b1<;>cases b2<;>cases b3<;>cases b4<;>cases b5<;>try rfl
  cases c.Ca with
  |true=>
   show some _=some _;generalize listV patV c.Permit 0 8=d1;generalize textV c.Subject=d2;generalize ((c.Names.length:Int)==0)=d3;generalize decide (c.Depth≥0)=d4;generalize decide (c.Depth≤4)=d5;cases d1<;>cases d2<;>cases d3<;>cases d4<;>cases d5<;>rfl
  |false=>
   show some _=some _;generalize listV nameV c.Names 1 8=d1;generalize eqS c.Subject (⟨#[]⟩:ByteArray)=d2;cases d1<;>cases d2<;>rfl
theorem Tt {α:Type}(b:Nat){xs ys:List α}(h:(xs.length+ys.length)*b≤140737488355328)(h1:xs.length+ys.length≤140737488355328):app b xs ys=some (xs++ys):=by unfold app; rw[Ain ⟨h,h1⟩]
theorem XM {α:Type}(b:Nat){ys:List α}(h:ys.length*b≤140737488355328)(h1:ys.length≤140737488355328):app b [] ys=some ys:=by
 rw[Tt b (by simpa using h) (by simpa using h1)]; rfl
theorem cut_tl {α:Type}(x:α)(xs:List α):cut (x::xs) 1 (((x::xs).length:Nat):Int)=some xs:=by
 unfold cut;rw[Ain ⟨by omega,by rw[Aij]; omega,by omega⟩];show some (List.take _ xs)=_;rw[AiY];simp
def be8 (n:Int):List UInt8:=[toB (Bx n 56),toB (Bx n 48),toB (Bx n 40),toB (Bx n 32),toB (Bx n 24),toB (Bx n 16),toB (Bx n 8),toB (Bx n 0)]
def VZ:List UInt8→Bool
 | []=>false
 | [_]=>true
 |a::b::l=>decide (((a::b::l).length:Int)≤8)&&((a.toNat:Int) !=((toB (-((shrB b 7).toNat:Int))).toNat:Int))
def Ae0:List UInt8→List UInt8
 | []=> []
 | [a]=> [a]
 |a::b::l=>if VZ (a::b::l)=true then a::b::l else Ae0 (b::l)
theorem UG (l:List UInt8):JO l=some (VZ l):=by
 match l with
 | []=>rfl
 | [a]=>rfl
 |a::b::l=>
  unfold JO;have e0:(((a::b::l).length:Int)==0)=false:=by simp only[AiQ,Aij]; omega
  have e1:(((a::b::l).length:Int)==1)=false:=by simp only[AiQ,Aij]; omega
  have i0:idx (a::b::l) 0=some a:=rfl;have i1:idx (a::b::l) 1=some b:=rfl;rw[e0,e1,i0,i1];simp only[Bool.false_eq_true,if_false,Aa,DS,VZ];cases decide (((a::b::l).length:Int)≤8)<;>rfl
theorem Aal: ∀(n:Nat) (l:List UInt8),l.length<n→iter Ez n l=some (Ae0 l)
 |0,l,h=>by omega
 |n+1,l,h=>by
  show Ab (Ez l) _=_;match l with
  | []=>rfl
  | [a]=>rfl
  |a::b::l=>
   have ih:=Aal n (b::l) (by simp only[Aij]at h⊢; omega);have e0:decide (((a::b::l).length:Int)>1)=true:=by simp only[Aiq,Aij]; omega
   cases hl:VZ (a::b::l)with
   |true=>
    have e:Ez (a::b::l)=some (.inr (a::b::l)):=by
     unfold Ez;rw[e0,Ain rfl,UG,hl];rfl
    rw[e];simp[Ae0,hl]
   |false=>
    have e:Ez (a::b::l)=some (.inl (b::l)):=by
     unfold Ez;rw[e0,Ain rfl,UG,hl,cut_tl];rfl
    rw[e];simp only[Aa];rw[ih];simp[Ae0,hl]
theorem T8: ∀(l:List UInt8),(Ae0 l).length≤l.length
 | []=>Aim _
 | [a]=>Aim _
 |a::b::l=>by
  have ih:=T8 (b::l);unfold Ae0;split
  ·exact Aim _
  ·rw[Aij]; omega
def Va (n:Int):g_api_Item:=⟨2,Ae0 (be8 n),[]⟩
theorem be8_eq (n:Int):CS (MT n) 8 0 (0,0,0,0,0,0,0,0)=some (toB (Bx n 56),toB (Bx n 48),toB (Bx n 40),toB (Bx n 32),toB (Bx n 24),toB (Bx n 16),toB (Bx n 8),toB (Bx n 0)):=rfl
theorem YV {l:List UInt8}(h:l.length≤140737488355328):A6 l=some l:=by
 unfold A6;rw[XM 1 (by omega) h]; rfl
theorem AbZ (n:Int):FU n=some (Va n):=by
 have h8:(be8 n).length=8:=rfl;have h:=T8 (be8 n);unfold FU;rw[be8_eq];show Ab (Ab (iter Ez Gr (be8 n)) _) _=_;rw[Aal Gr (be8 n) (by rw[h8]; have:=Kv; omega)];show Ab (A6 (Ae0 (be8 n))) _=_;rw[YV (by omega)];rfl
def Vb (x:UInt64):g_api_Item:=Va (w64 (x.toNat:Int))
theorem Y0 (x:UInt64):Fb x=some (Vb x):=by unfold Fb; rw[AbZ]; rfl
def NY (s:ByteArray):g_api_Item:=⟨12,s.data.toList,[]⟩
def XG (v:Bool):g_api_Item:=⟨1,[if v=true then 255 else 0],[]⟩
def X7 (l:List g_api_Item):g_api_Item:=⟨48,[],l⟩
theorem T9 {s:ByteArray}(h:s.size≤140737488355328):Jv s=some (NY s):=by
 unfold Jv;rw[XM 1 (by rw[Ce]; omega) (by rw[Ce]; exact h)]; rfl
theorem AeR (v:Bool):PG v=some (XG v):=by cases v<;>rfl
theorem N1 {l:List g_api_Item}(h:l.length≤1000000):GK l=some (X7 l):=by
 unfold GK Bj;rw[XM 56 (by omega) (by omega)]; rfl
theorem XX: ∀(l:List ByteArray) (i:Int) (a:List g_api_Item),(∀s∈l,s.size≤64)→a.length+l.length≤1000000→DA Cl l i a=some (a++l.map NY)
 | [],i,a,_,_=>by simp[DA]
 |s::l,i,a,h,hn=>by
  rw[Aij]at hn;have ih:=XX l (i+1) (a++[NY s]) (fun x hx=>h x (AiE _ hx)) (by rw[Aik]; show a.length+1+_≤_; omega);have e:Cl i s a=some (a++[NY s]):=by
   unfold Cl;rw[T9 (by have:=h s AiA; omega),Aa,Tt 56 (by show(a.length+1)*56≤_; omega) (by show a.length+1≤_; omega)];rfl
  show Ab (Cl i s a) _=_;rw[e];show DA _ l (i+1) (a++[NY s])=_;rw[ih];simp
def Rf (l:List ByteArray):g_api_Item:=X7 (l.map NY)
theorem XY {l:List ByteArray}(h: ∀s∈l,s.size≤64)(hn:l.length≤1000000):Cd l=some (Rf l):=by
 unfold Cd;rw[XX l 0 [] h (by simpa using hn)];simp only[Aa,Ai5];rw[N1 (by rw[AiT]; exact hn)]; rfl
def Us (p:g_api_Promise):g_api_Item:=X7 [Va p.Log,Va p.At,Vb p.Leaf.1,Vb p.Leaf.2,Vb p.Sig.E,Vb p.Sig.S]
theorem AdG (p:g_api_Promise):Jq p=some (Us p):=by
 unfold Jq;simp only[AbZ,Y0,Aa];rw[N1 (by simp)]; rfl
theorem Yf: ∀(l:List g_api_Promise) (i:Int) (a:List g_api_Item),a.length+l.length≤1000000→DA BA l i a=some (a++l.map Us)
 | [],i,a,_=>by simp[DA]
 |s::l,i,a,hn=>by
  rw[Aij]at hn;have ih:=Yf l (i+1) (a++[Us s]) (by rw[Aik]; show a.length+1+_≤_; omega);have e:BA i s a=some (a++[Us s]):=by
   unfold BA;rw[AdG,Aa,Tt 56 (by show(a.length+1)*56≤_; omega) (by show a.length+1≤_; omega)];rfl
  show Ab (BA i s a) _=_;rw[e];show DA _ l (i+1) (a++[Us s])=_;rw[ih];simp
def Yh (l:List g_api_Promise):g_api_Item:=X7 (l.map Us)
theorem Abd {l:List g_api_Promise}(hn:l.length≤1000000):BX l=some (Yh l):=by
 unfold BX;rw[Yf l 0 [] (by simpa using hn)];simp only[Aa,Ai5];rw[N1 (by rw[AiT]; exact hn)]; rfl
structure XP (c:g_api_Cert):Prop where
 issuer:c.Issuer.size≤64
 subject:c.Subject.size≤64
 names: ∀s∈c.Names,s.size≤64
 few:c.Names.length≤8
 permit: ∀s∈c.Permit,s.size≤64
 fewP:c.Permit.length≤8
 proms:c.Proms.length≤4
def Abh (c:g_api_Cert):g_api_Item:=X7 [Va c.Serial,NY c.Issuer,NY c.Subject,Vb c.Key,Rf c.Names,Va c.From,Va c.Until,XG c.Ca,Va c.Depth,Rf c.Permit]
def QE (c:g_api_Cert):g_api_Item:=X7 [Abh c,Yh c.Proms]
def wholeI (c:g_api_Cert):g_api_Item:=X7 [QE c,X7 [Vb c.Sig.E,Vb c.Sig.S]]
theorem Abg {c:g_api_Cert}(h:XP c):K4 c=some (Abh c):=by
 unfold K4;have h1:=h.issuer; have h2:=h.subject; have h3:=h.few; have h4:=h.fewP;simp only[AbZ,Y0,AeR,T9 (s:=c.Issuer) (by omega),T9 (s:=c.Subject) (by omega),XY h.names (by omega),XY h.permit (by omega),Aa];rw[N1 (by simp)]; rfl
theorem YZ {c:g_api_Cert}(h:XP c):JU c=some (QE c):=by
 unfold JU;have h1:=h.proms;rw[Abg h,Abd (by omega)];simp only[Aa];rw[N1 (by simp)]; rfl
theorem Aad {c:g_api_Cert}(h:XP c):Ko c=some (wholeI c):=by
 unfold Ko;rw[YZ h,Y0,Y0];simp only[Aa];rw[N1 (by simp)];simp only[Aa];rw[N1 (by simp)]; rfl
structure Form (c:g_api_Cert):Prop where
 proms:promsB (-1) c.Proms=true
 serial:numB c.Serial=true
 frm:numB c.From=true
 til:numB c.Until=true
 lt:c.From<c.Until
 issuer:textV c.Issuer=true
 key0:(c.Key.toNat:Int)≠0
 keyQ:(c.Key.toNat:Int)<2305843009213691579
 nproms:(c.Proms.length:Int)≤4
 sig:sigB c.Sig=true
 ca:c.Ca=true→textV c.Subject=true∧c.Names=[]∧0≤c.Depth∧c.Depth≤4∧listV patV c.Permit 0 8=true
 leaf:c.Ca=false→c.Subject=(⟨#[]⟩:ByteArray)∧listV nameV c.Names 1 8=true∧c.Depth=0∧c.Permit=[]
theorem Xm {c:g_api_Cert}(h:formB c=true):Form c:=by
 unfold formB at h;simp only[Aie,Aiq,Bool.not_eq_true',AiQ]at h;obtain⟨⟨⟨h1,⟨⟨h2,h3⟩,h4⟩,h5⟩,⟨⟨⟨h6,h7⟩,h8⟩,h9⟩,h10⟩,h11⟩:=h;refine⟨h1,h2,h3,h4,h5,h6,h7,h8,h9,h10,fun e=> ?_,fun e=> ?_⟩
 ·rw[Ain e]at h11;simp only[Aie,Aiq,Ai2]at h11;obtain⟨⟨⟨⟨a,b⟩,d⟩,f⟩,g⟩:=h11;exact⟨a,List.eq_nil_of_length_eq_zero (by omega),by omega,f,g⟩
 ·rw[e]at h11;simp only[Bool.false_eq_true,if_false,Aie,Aiq,Ai2]at h11;obtain⟨⟨⟨a,b⟩,d⟩,f⟩:=h11;exact⟨RS.1 a,b,d,List.eq_nil_of_length_eq_zero (by omega)⟩
theorem RE {right:ByteArray→Int}{l:List ByteArray}{a b:Int}(h:listV right l a b=true):a≤l.length∧(l.length:Int)≤b∧∀s∈l,right s=0:=by
 unfold listV at h;simp only[Aie,Aiq]at h;exact⟨by omega,h.2,VY h.1.1⟩
theorem Form.sized {c:g_api_Cert}(h:Form c):XP c:=by
 have hi:=(XZ h.issuer).2;have hp:=h.nproms;cases hc:c.Ca with
 |true=>
  obtain⟨h1,h2,h3,h4,h5⟩:=h.ca hc;obtain⟨l1,l2,l3⟩:=RE h5;exact⟨hi,(XZ h1).2,(by rw[h2]; intro s hs; cases hs),by rw[h2]; decide,fun s hs=>Abq (l3 s hs),by omega,by omega⟩
 |false=>
  obtain⟨h1,h2,h3,h4⟩:=h.leaf hc;obtain⟨l1,l2,l3⟩:=RE h2;exact⟨hi,by rw[h1]; decide,fun s hs=>ZC (l3 s hs),by omega,(by rw[h4]; intro s hs; cases hs),by rw[h4]; decide,by omega⟩
theorem AhF (t:Int):Ju t=some (if t=1 then(⟨1,428⟩,true)else if t=2 then(⟨2,299⟩,true)else if t=4 then(⟨4,429⟩,true)else if t=12 then(⟨12,430⟩,true)else if t=48 then(⟨48,432⟩,true)else(⟨0,-1⟩,false)):=by
 by_cases h1:t=1
 ·subst h1; rfl
 by_cases h2:t=2
 ·subst h2; rfl
 by_cases h3:t=4
 ·subst h3; rfl
 by_cases h4:t=12
 ·subst h4; rfl
 by_cases h5:t=48
 ·subst h5; rfl
 rw[Ail h1,Ail h2,Ail h3,Ail h4,Ail h5];have b: ∀(k:Int),t≠k→((k==t)=true)=False:=fun k h=>by simp only[Ai2,eq_iff_iff,iff_false]; exact fun e=>h e.symm
 have g:B6 (Ao tab_2) tab_2.length 0 t=some (.inl t):=by
  have i: ∀(j:Nat) (k:Gq),idx tab_2 (j:Int)=some k→t≠k.tag_→Ao tab_2 (j:Int) t=some (.inl t):=fun j k e hk=>by
   have hb:(k.tag_==t)=false:=by simp only[AiQ]; exact fun e=>hk e.symm
   unfold Ao MS;rw[e];simp only[Aa,hb,Bool.false_eq_true,if_false]
  show Ab (Ao tab_2 ((0:Nat):Int) t) _=_;rw[i 0 ⟨1,428⟩ rfl h1];show Ab (Ao tab_2 ((1:Nat):Int) t) _=_;rw[i 1 ⟨2,299⟩ rfl h2];show Ab (Ao tab_2 ((2:Nat):Int) t) _=_;rw[i 2 ⟨4,429⟩ rfl h3];show Ab (Ao tab_2 ((3:Nat):Int) t) _=_;rw[i 3 ⟨12,430⟩ rfl h4];show Ab (Ao tab_2 ((4:Nat):Int) t) _=_;rw[i 4 ⟨48,432⟩ rfl h5];rfl
 unfold Ju BM;rw[g];rfl
def RJ (t:Int):Bool:=t==1||t==2||t==4||t==12||t==48
def boolB (b:List UInt8):Bool:=match b with| [x]=>x==0||x==255|_=>false
def P5 (b:List UInt8):Bool:=b.all fun c=>decide (32≤c.toNat)&&decide (c.toNat≤126)
def AbS (t:Int)(b:List UInt8):Bool:=if t=1 then boolB b else if t=2 then VZ b else if t=4 then true else if t=12 then P5 b else if t=48 then b.isEmpty else false
theorem AbR (b:List UInt8):HC b=some (boolB b):=by
 match b with
 | []=>rfl
 | [x]=>
  unfold HC;have e1:((([x]:List UInt8).length:Int)==1)=true:=rfl;have e2:idx [x] 0=some x:=rfl;rw[e1,e2];have e3: ∀n:UInt8,((x.toNat:Int)==n.toNat)=(x==n):=fun n=>by
   rw[Ajd,Ai2,Ai2,←UInt8.toNat_inj];omega
  have z0:((x.toNat:Int)==0)=(x==0):=e3 0;have z1:((x.toNat:Int)==255)=(x==255):=e3 255;simp only[YC,Aa,DS,z0,z1,AiR];show _=some (x==0||x==255);cases h:x==0 with
  |true=>rfl
  |false=>simp only[Bool.not_false,YC,Aa,DS,z1,Ai8]
 |x::y::l=>
  unfold HC;have e1:(((x::y::l).length:Int)==1)=false:=by simp only[AiQ,Aij]; omega
  rw[e1];rfl
theorem AfC: ∀(a b:List UInt8),∃r,B6 (AE (a++b)) b.length (a.length:Int) ()=some r∧(r= .inl ()↔P5 b=true)∧∀i,r= .inr i→0≤i
 |a,[]=>⟨.inl (),rfl,by simp[P5],fun i h=>by cases h⟩
 |a,c::b=>by
  have hi:idx (a++c::b) (a.length:Int)=some c:=by
   unfold idx;rw[Ain (by omega)];simp
  obtain⟨r,h1,h2,h3⟩:=AfC (a++[c]) b;have ec:(decide ((c.toNat:Int)<32)||decide ((c.toNat:Int)>126))= !(decide (32≤c.toNat)&&decide (c.toNat≤126)):=by
   rw[Ajd];simp only[AiZ,Bool.not_eq_true',Bool.and_eq_false_iff,Aiq,decide_eq_false_iff_not];omega
  have st:AE (a++c::b) (a.length:Int) ()=some (if(decide (32≤c.toNat)&&decide (c.toNat≤126))=true then .inl ()else .inr (a.length:Int)):=by
   unfold AE JP;rw[hi];simp only[Aa,DS,ec];cases decide (32≤c.toNat)&&decide (c.toNat≤126)<;>rfl
  show∃r,Ab (AE (a++c::b) (a.length:Int) ()) _=some r∧_;rw[st];cases hc:decide (32≤c.toNat)&&decide (c.toNat≤126)with
  |false=>exact⟨.inr (a.length:Int),rfl,by simp[P5,hc],fun i h=>(by cases h; omega)⟩
  |true=>
   refine⟨r,?_,?_,h3⟩
   ·show B6 (AE (a++c::b)) b.length ((a.length:Int)+1) ()=some r;rw[←h1];simp
   ·rw[h2];simp only[P5,Ai0,hc,AiR]
theorem AbQ (b:List UInt8):Jn b=some (P5 b):=by
 obtain⟨r,h1,h2,h3⟩:=AfC [] b;unfold Jn Ci CB;have h1:B6 (AE b) b.length 0 ()=some r:=h1;rw[h1];cases r with
 |inl u=>rw[h2.1 rfl]; rfl
 |inr i=>
  have hp:P5 b=false:=by
   cases h:P5 b with
   |false=>rfl
   |true=>exact absurd (h2.2 h) (by simp)
  have hi:=h3 i rfl;rw[hp];show some (!(decide (i≥0)))=_;rw[AiI hi]; rfl
theorem AbP (b:List UInt8):Jm b=some b.isEmpty:=by
 cases b with
 |nil=>rfl
 |cons a l=>
  unfold Jm;have:(((a::l).length:Int)==0)=false:=by simp only[AiQ,Aij]; omega
  rw[this]; rfl
theorem Xf {t:Int}(h:RJ t=true):t=1∨t=2∨t=4∨t=12∨t=48:=by
 unfold RJ at h;simp only[AiZ,Ai2]at h;omega
theorem Tk {t:Int}(h:RJ t=true): ∃k,Ju t=some (k,true)∧k.tag_=t∧∀b,QM k.may_ b=some (AbS t b):=by
 rcases Xf h with e|e|e|e|e
 ·subst e; exact⟨_,rfl,rfl,AbR⟩
 ·subst e; exact⟨_,rfl,rfl,UG⟩
 ·subst e; exact⟨_,rfl,rfl,fun b=>rfl⟩
 ·subst e; exact⟨_,rfl,rfl,AbQ⟩
 ·subst e; exact⟨_,rfl,rfl,AbP⟩
theorem MZ {t:Int}(h:RJ t=false):Ju t=some (⟨0,-1⟩,false)∧∀b,AbS t b=false:=by
 unfold RJ at h;simp only[Bool.or_eq_false_iff,AiQ]at h;obtain⟨⟨⟨⟨h1,h2⟩,h3⟩,h4⟩,h5⟩:=h;refine⟨?_,fun b=> ?_⟩
 ·rw[AhF,Ail h1,Ail h2,Ail h3,Ail h4,Ail h5]
 ·unfold AbS;rw[Ail h1,Ail h2,Ail h3,Ail h4,Ail h5]
def mayB:Nat→g_api_Item→Bool
 |0,_=>false
 |d+1,x=>AbS x.Tag x.B&&(x.Tag==48||x.L.isEmpty)&&x.L.all (mayB d)
theorem AfD (rF:g_api_Item→Int→Option Bool)(p:g_api_Item→Bool)(d:Int): ∀(a b:List g_api_Item),(∀y∈b,rF y (w64 (d-1))=some (p y))→
  ∃r,B6 (Av rF (a++b)) b.length (a.length:Int) d=some r∧(r= .inl d↔b.all p=true)∧(∀e,r= .inl e→e=d)∧∀i,r= .inr i→0≤i.1
 |a,[],_=>⟨.inl d,rfl,by simp,fun e h=>by cases h; rfl,fun i h=>by cases h⟩
 |a,c::b,h=>by
  have hi:idx (a++c::b) (a.length:Int)=some c:=by
   unfold idx;rw[Ain (by omega)];simp
  obtain⟨r,h1,h2,h4,h3⟩:=AfD rF p d (a++[c]) b fun y hy=>h y (AiE _ hy);have st:Av rF (a++c::b) (a.length:Int) d=some (if p c=true then .inl d else .inr ((a.length:Int),d)):=by
   unfold Av LH;rw[hi];simp only[Aa,h c AiA];cases p c<;>rfl
  show∃r,Ab (Av rF (a++c::b) (a.length:Int) d) _=some r∧_;rw[st];cases hc:p c with
  |false=>exact⟨.inr ((a.length:Int),d),rfl,by simp[hc],fun e h=>(by cases h),fun i h=>(by cases h; exact Ai4 _)⟩
  |true=>
   refine⟨r,?_,?_,h4,h3⟩
   ·show B6 (Av rF (a++c::b)) b.length ((a.length:Int)+1) d=some r;rw[←h1];simp
   ·rw[h2];simp only[Ai0,hc,AiR]
theorem Xx (rF:g_api_Item→Int→Option Bool)(p:g_api_Item→Bool)(d:Int)(l:List g_api_Item)(h: ∀y∈l,rF y (w64 (d-1))=some (p y)):
  ∃z,AU rF l d=some (!(l.all p),z):=by
 obtain⟨r,h1,h2,h4,h3⟩:=AfD rF p d [] l h;have h1:B6 (Av rF l) l.length 0 d=some r:=h1;unfold AU BC;rw[h1];cases r with
 |inl u=>
  have:=h4 u rfl;subst this;rw[h2.1 rfl];exact⟨_,rfl⟩
 |inr i=>
  have hp:l.all p=false:=by
   cases h:l.all p with
   |false=>rfl
   |true=>exact absurd (h2.2 h) (by simp)
  have hi:=h3 i rfl;rw[hp];refine⟨i.2,?_⟩;show some (decide (i.1≥0),i.2)=_;rw[AiI hi]; rfl
theorem Afw: ∀(d n:Nat) (x:g_api_Item),d<n→d≤100→IG n x (d:Int)=some (mayB d x)
 |d,0,x,h,_=>by omega
 |0,n+1,x,_,_=>by
  show Ia (IG n) x 0=some false;unfold Ia;cases hk:RJ x.Tag with
  |false=>rw[(MZ hk).1]; rfl
  |true=>
   obtain⟨k,e,_,_⟩:=Tk hk;rw[e]; rfl
 |d+1,n+1,x,h,hd=>by
  have ih: ∀y∈x.L,IG n y (w64 (((d+1:Nat):Int)-1))=some (mayB d y):=fun y _=>by
   rw[show w64 (((d+1:Nat):Int)-1)=(d:Int)from by rw[GY (by omega) (by omega)]; omega];exact Afw d n y (by omega) (by omega)
  obtain⟨z,hz⟩:=Xx (IG n) (mayB d) ((d+1:Nat):Int) x.L ih;show Ia (IG n) x ((d+1:Nat):Int)=some (mayB (d+1) x);unfold Ia mayB;have e1:decide (((d+1:Nat):Int)<1)=false:=by rw[decide_eq_false_iff_not]; omega
  have e2:decide ((x.L.length:Int)>0)= !x.L.isEmpty:=by
   cases x.L with
   |nil=>rfl
   |cons a l=>show decide _=true; rw[Aiq,Aij]; omega
  have e3:(x.Tag !=48)= !(x.Tag==48):=rfl;rw[e1,e2,e3];cases hk:RJ x.Tag with
  |false=>
   rw[(MZ hk).1,(MZ hk).2]; rfl
  |true=>
   obtain⟨k,e,_,hm⟩:=Tk hk;rw[e];simp only[Aa,Ajl,Bool.or_false,Bool.not_false,YC,hm,hz,Bool.not_not];cases AbS x.Tag x.B<;>cases x.Tag==48<;>cases x.L.isEmpty<;>rfl
theorem Ag4 (x:g_api_Item):RC x 8=some (mayB 8 x):=Afw 8 Gr x (by have:=Kv; omega) (by decide)
def RH (n:Nat):List UInt8:=if n<128 then [toB (n:Int)]else if n<256 then [129,toB (n:Int)]else [130,toB (Bx (n:Int) 8),toB (n:Int)]
def putB:Nat→g_api_Item→List UInt8
 |0,_=> []
 |d+1,x=>toB x.Tag::(RH (x.B++x.L.flatMap (putB d)).length++(x.B++x.L.flatMap (putB d)))
def depB:Nat→g_api_Item→Prop
 |0,_=>False
 |d+1,x=> ∀y∈x.L,depB d y
theorem Acp: ∀{d:Nat} {x:g_api_Item},mayB d x=true→depB d x
 |0,x,h=>by cases h
 |d+1,x,h=>by
  simp only[mayB,Aie,AiC]at h;exact fun y hy=>Acp (h.2 y hy)
theorem YA (n:Nat):1≤(RH n).length∧(RH n).length≤3:=by
 unfold RH;split
 ·exact⟨by simp,by simp⟩
 ·split
  ·exact⟨by simp,by simp⟩
  ·exact⟨by simp,by simp⟩
theorem putE: ∀(d n:Nat) (x:g_api_Item) (b:List UInt8),d≤n→depB d x→b.length+(putB d x).length≤100000000000000→Hu n b x=some (b++putB d x)
 |0,n,x,b,_,h,_=>h.elim
 |d+1,0,x,b,h,_,_=>by omega
 |d+1,n+1,x,b,hn,hd,hb=>by
  have eP:putB (d+1) x=toB x.Tag::(RH (x.B++x.L.flatMap (putB d)).length++(x.B++x.L.flatMap (putB d))):=rfl;have go: ∀(l:List g_api_Item) (i:Int) (s:List UInt8),(∀y∈l,depB d y)→s.length+(l.flatMap (putB d)).length≤100000000000000→DA (E6 (Hu n)) l i s=some (s++l.flatMap (putB d)):=by
   intro l;induction l with
   |nil=>intro i s _ _; simp[DA]
   |cons y l ih=>
    intro i s h hs;rw[Aja,Aik]at hs;have e:E6 (Hu n) i y s=some (s++putB d y):=by
     unfold E6;rw[putE d n y s (by omega) (h y AiA) (by omega)];rfl
    show Ab (E6 (Hu n) i y s) _=_;rw[e];show DA _ l (i+1) (s++putB d y)=_;rw[ih (i+1) (s++putB d y) (fun z hz=>h z (AiE _ hz)) (by rw[Aik]; omega),Aja,Aip]
  rw[eP]at hb⊢;simp only[Aij,Aik]at hb;have hc:HD (Hu n) x=some (x.B++x.L.flatMap (putB d)):=by
   unfold HD;rw[YV (by omega),Aa,go x.L 0 x.B hd (by omega)];rfl
  show LG (Hu n) b x=_;unfold LG;rw[hc,Aa,Tt 1 (by simp only[Aij,AiF]; omega) (by simp only[Aij,AiF]; omega),Aa];rw[←Aik]at hb;have hL:(x.B++x.L.flatMap (putB d)).length=(x.B++x.L.flatMap (putB d)).length:=rfl;generalize (x.B++x.L.flatMap (putB d))=c at hb hL⊢;have hl:=YA c.length;have hm: ∀z:List UInt8,z.length≤3→app 1 (b++[toB x.Tag]) z=some (b++[toB x.Tag]++z):=fun z hz=>Tt 1 (by simp only[Aik,Aij,AiF]; omega) (by simp only[Aik,Aij,AiF]; omega);have fin:app 1 (b++[toB x.Tag]++RH c.length) c=some (b++toB x.Tag::(RH c.length++c)):=by
   rw[Tt 1 (by simp only[Aik,Aij,AiF]; omega) (by simp only[Aik,Aij,AiF]; omega)];simp
  have mid:(bnd (decide ((c.length:Int)<128)) fun x4=>
    if x4=true then
     Ab (app 1 (b++[toB x.Tag]) ([(toB (c.length:Int))]:List UInt8)) fun x5=>
     some x5
    else
    bnd ((decide ((c.length:Int)<256))) fun x6=>
    if x6=true then
     Ab (app 1 (b++[toB x.Tag]) ([129,(toB (c.length:Int))]:List UInt8)) fun x7=>
     some x7
    else
    Ab (app 1 (b++[toB x.Tag]) ([130,(toB (Bx (c.length:Int) 8)),(toB (c.length:Int))]:List UInt8)) fun x8=>
    some x8)=some (b++[toB x.Tag]++RH c.length):=by
   rw[hm [toB (c.length:Int)] (by simp),hm [129,toB (c.length:Int)] (by simp),hm [130,toB (Bx (c.length:Int) 8),toB (c.length:Int)] (by simp)];simp only[DS,Aa,Aiq];unfold RH;by_cases h1:c.length<128
   ·rw[Ain h1,Ain (by omega)]
   ·rw[Ail h1,Ail (by omega)];by_cases h2:c.length<256
    ·rw[Ain h2,Ain (by omega)]
    ·rw[Ail h2,Ail (by omega)]
  rw[mid];simp only[Aa];rw[fin];rfl
theorem AgL {x:g_api_Item}(h:depB 8 x)(hs:(putB 8 x).length≤100000000000000):RB [] x=some (putB 8 x):=by
 have:=putE 8 Gr x [] (by have:=Kv; omega) h (by simpa using hs);exact this
theorem Af5 {x:g_api_Item}(hs:(putB 8 x).length≤100000000000000):
  JQ x=some (if mayB 8 x=true then(if(putB 8 x).length≤8192 then(putB 8 x,0)else([],2))else([],1)):=by
 unfold JQ;rw[Ag4];cases hm:mayB 8 x with
 |false=>rfl
 |true=>
  simp only[Aa,Ajl,Bool.false_eq_true,if_false,if_true];rw[AgL (Acp hm) hs];simp only[Aa,Aiq];by_cases h:(putB 8 x).length≤8192
  ·rw[Ail (by omega),Ain h]
  ·rw[Ain (by omega),Ail h]
theorem YH {α:Type}(f:α→List UInt8)(k:Nat): ∀(l:List α),(∀y∈l,(f y).length≤k)→(l.flatMap f).length≤l.length*k
 | [],_=>by simp
 |y::l,h=>by
  have h1:=h y AiA;have h2:=YH f k l fun z hz=>h z (AiE _ hz);rw[Aja,Aik,Aij,Nat.succ_mul];omega
theorem Ur (d:Nat)(x:g_api_Item):(putB (d+1) x).length≤4+x.B.length+(x.L.flatMap (putB d)).length:=by
 have:=YA (x.B++x.L.flatMap (putB d)).length;show(toB x.Tag::(RH (x.B++x.L.flatMap (putB d)).length++(x.B++x.L.flatMap (putB d)))).length≤_;rw[Aij,Aik,Aik]at*;omega
theorem MX (d:Nat)(n:Int):(putB d (Va n)).length≤12:=by
 cases d with
 |zero=>simp[putB]
 |succ d=>
  have h:=Ur d (Va n);have h1:(Va n).B.length≤8:=T8 (be8 n);have h2:(Va n).L=[]:=rfl;rw[h2]at h;simp only[List.flatMap_nil,AiF]at h;omega
theorem Rg (d:Nat){s:ByteArray}(hs:s.size≤64):(putB d (NY s)).length≤68:=by
 cases d with
 |zero=>simp[putB]
 |succ d=>
  have h:=Ur d (NY s);have h1:(NY s).B.length=s.size:=Ce s;have h2:(NY s).L=[]:=rfl;rw[h2]at h;simp only[List.flatMap_nil,AiF]at h;omega
theorem AcJ (d:Nat)(v:Bool):(putB d (XG v)).length≤5:=by
 cases d with
 |zero=>simp[putB]
 |succ d=>
  have h:=Ur d (XG v);have h1:(XG v).B.length=1:=rfl;have h2:(XG v).L=[]:=rfl;rw[h2]at h;simp only[List.flatMap_nil,AiF]at h;omega
theorem Ln (d:Nat)(l:List g_api_Item)(k:Nat)(hk: ∀e y,y∈l→(putB e y).length≤k):(putB d (X7 l)).length≤4+l.length*k:=by
 cases d with
 |zero=>simp[putB]
 |succ d=>
  have h:=Ur d (X7 l);have h1:(X7 l).B.length=0:=rfl;have h3:=YH (putB d) k l fun y hy=>hk d y hy;have h2:(X7 l).L=l:=rfl;rw[h2]at h;omega
theorem SQ (d:Nat){l:List ByteArray}(h: ∀s∈l,s.size≤64)(hn:l.length≤8):(putB d (Rf l)).length≤1000:=by
 have:=Ln d (l.map NY) 68 fun e y hy=>by
  obtain⟨s,hs,e2⟩:=List.mem_map.1 hy;rw[←e2];exact Rg e (h s hs)
 rw[AiT]at this;unfold Rf;omega
theorem mem2 {α:Type}{p:α→Prop}{a b:α}(ha:p a)(hb:p b): ∀y∈[a,b],p y:=by
 intro y hy;simp only[AiO,List.not_mem_nil,or_false]at hy;rcases hy with e|e<;>rw[e]<;>assumption
theorem AdI (d:Nat){c:g_api_Cert}(h:XP c):(putB d (Abh c)).length≤20000:=by
 have:=Ln d [Va c.Serial,NY c.Issuer,NY c.Subject,Vb c.Key,Rf c.Names,Va c.From,Va c.Until,XG c.Ca,Va c.Depth,Rf c.Permit] 1000 fun e y hy=>by
  simp only[AiO,List.not_mem_nil,or_false]at hy;rcases hy with q|q|q|q|q|q|q|q|q|q<;>rw[q]
  ·have:=MX e c.Serial; omega
  ·have:=Rg e h.issuer; omega
  ·have:=Rg e h.subject; omega
  ·have:=MX e (w64 (c.Key.toNat:Int)); unfold Vb; omega
  ·exact SQ e h.names h.few
  ·have:=MX e c.From; omega
  ·have:=MX e c.Until; omega
  ·have:=AcJ e c.Ca; omega
  ·have:=MX e c.Depth; omega
  ·exact SQ e h.permit h.fewP
 simp only[Aij,AiF]at this;unfold Abh;omega
theorem Abe (d:Nat)(p:g_api_Promise):(putB d (Us p)).length≤100:=by
 have:=Ln d [Va p.Log,Va p.At,Vb p.Leaf.1,Vb p.Leaf.2,Vb p.Sig.E,Vb p.Sig.S] 12 fun e y hy=>by
  simp only[AiO,List.not_mem_nil,or_false]at hy;rcases hy with q|q|q|q|q|q<;>rw[q]<;>exact MX e _
 simp only[Aij,AiF]at this;unfold Us;omega
theorem AcK (d:Nat){c:g_api_Cert}(h:XP c):(putB d (QE c)).length≤50000:=by
 have:=Ln d [Abh c,Yh c.Proms] 20000 fun e=>mem2 (p:=fun y=>(putB e y).length≤20000) (AdI e h) (by
  have:=Ln e (c.Proms.map Us) 100 fun f y hy=>by
   obtain⟨p,hp,e2⟩:=List.mem_map.1 hy;rw[←e2];exact Abe f p
  rw[AiT]at this;have:=h.proms;unfold Yh;omega)
 simp only[Aij,AiF]at this;unfold QE;omega
theorem Y7 (d:Nat){c:g_api_Cert}(h:XP c):(putB d (wholeI c)).length≤200000:=by
 have:=Ln d [QE c,X7 [Vb c.Sig.E,Vb c.Sig.S]] 50000 fun e=>mem2 (p:=fun y=>(putB e y).length≤50000) (AcK e h) (by
  have:=Ln e [Vb c.Sig.E,Vb c.Sig.S] 12 fun f=>mem2 (p:=fun y=>(putB f y).length≤12) (MX f _) (MX f _);simp only[Aij,AiF]at this;omega)
 simp only[Aij,AiF]at this;unfold wholeI;omega
def checkV (c:g_api_Cert):Int:=if formB c=true then(if mayB 8 (wholeI c)=true∧(putB 8 (wholeI c)).length≤2048 then 0 else 2)else 1
theorem AhY (b:List UInt8)(m:Bool):(Ab (some (if m=true then(if b.length≤8192 then(b,(0:Int))else([],2))else([],1))) fun x3=>if((x3.2 !=0)||(decide ((x3.1.length:Int)>2048)))=true then some (2:Int)else some 0)=some (if m=true∧b.length≤2048 then 0 else 2):=by
 cases m with
 |false=>rfl
 |true=>
  simp only[if_true,Aa,true_and];by_cases h1:b.length≤8192
  ·rw[Ain h1];by_cases h2:b.length≤2048
   ·rw[Ain h2,Ail];simp only[bne_self_eq_false,Ai8,Aiq];omega
   ·rw[Ail h2,Ain];simp only[bne_self_eq_false,Ai8,Aiq];omega
  ·rw[Ail h1];have h2: ¬b.length≤2048:=by omega
   rw[Ail h2];rfl
theorem RX (c:g_api_Cert):Cv c=some (checkV c):=by
 unfold Cv checkV;rw[Acb];cases hf:formB c with
 |false=>rfl
 |true=>
  have hs:=(Xm hf).sized;simp only[Aa,Ajl,Bool.false_eq_true,if_false,if_true];have hl:=Y7 8 hs;rw[Aad hs,Aa,Af5 (by omega),AhY]
theorem ZT {c:g_api_Cert}(h:checkV c=0):Form c:=by
 unfold checkV at h;cases hf:formB c with
 |false=>rw[hf]at h; simp at h
 |true=>exact Xm hf
theorem Aan (n:Int):((toB n).toNat:Int)=n%256:=by
 have h:0≤n%256:=Int.emod_nonneg _ (by decide);have h2:n%256<256:=Int.emod_lt_of_pos _ (by decide);unfold toB;rw[UInt8.toNat_ofNat'];omega
theorem AhS {α:Type}(a b:List α):cut (a++b) (a.length:Int) (((a++b).length:Nat):Int)=some b:=by
 unfold cut;rw[Ain ⟨by omega,by rw[Aik]; omega,by omega⟩];simp only[Ajg,List.drop_left];rw[AiY];rw[Aik]; omega
theorem YG (p:g_api_Item→List UInt8){y:g_api_Item}: ∀{l:List g_api_Item},y∈l→(p y).length≤(l.flatMap p).length
 |z::l,h=>by
  rw[Aja,Aik];rcases AiO.1 h with e|h
  ·rw[e]; omega
  ·have:=YG p h; omega
theorem AfJ {s:ByteArray}{i:Nat}{b:UInt8}(h:s.data.toList[i]? =some b):s.get! i=b:=by
 have h2:s.data[i]? =some b:=by rw[←Array.getElem?_toList]; exact h
 show s.data[i]! =b;rw[getElem!_def,h2]
theorem dec_lo {s:ByteArray}{i:Nat}{b:UInt8}(h:s.data.toList[i]? =some b)(hb:b.toNat<128):Utf8.decode s i=(b.toNat,1):=by
 unfold Utf8.decode;simp only[Ajk,AfJ h];rw[Ain hb]
theorem dec_hi {s:ByteArray}{i:Nat}{b:UInt8}(h:s.data.toList[i]? =some b)(hb: ¬b.toNat<128):128≤(Utf8.decode s i).1:=by
 unfold Utf8.decode;simp only[Ajk,AfJ h];rw[Ail hb];have he:Utf8.runeError=65533:=rfl;split
 ·split
  ·assumption
  ·simp[he]
 ·split
  ·split
   ·rename_i h1;simp only[Aie,Aiq]at h1;show 128≤_;omega
   ·simp[he]
  ·split
   ·split
    ·rename_i h1;simp only[Aie,Aiq]at h1;show 128≤_;omega
    ·simp[he]
   ·simp[he]
def KI (c:UInt8):Bool:=(decide (97≤c.toNat)&&decide (c.toNat≤122))||(decide (48≤c.toNat)&&decide (c.toNat≤57))
def Aed (c:UInt8):Bool:=c.toNat==45||KI c
def Zj:List UInt8→Bool
 | []=>true
 | [c]=>KI c
 |c::d::r=>Aed c&&Zj (d::r)
def UH:List UInt8→Bool
 | []=>false
 | [c]=>KI c
 |c::d::r=>(KI c||c.toNat==95)&&Zj (d::r)&&decide ((c::d::r).length≤16)
theorem Wb (n:Nat)(c:UInt8)(h:n=c.toNat):Dm (n:Int)=some (KI c):=by
 subst h;unfold Dm KI;rw[DS];congr 1;have e: ∀k:Nat,decide ((k:Int)≤(c.toNat:Int))=decide (k≤c.toNat):=fun k=>by rw[Ajh]; omega
 have e2: ∀k:Nat,decide ((c.toNat:Int)≤(k:Int))=decide (c.toNat≤k):=fun k=>by rw[Ajh]; omega
 rw[←e 97,←e2 122,←e 48,←e2 57];rfl
theorem Acl (n:Nat)(h:128≤n):Dm (n:Int)=some false:=by
 unfold Dm;rw[DS,Ai1 (show¬(n:Int)≤122 from by omega),Ai1 (show¬(n:Int)≤57 from by omega),Ajc,Ajc];rfl
theorem ZH (n:Nat)(c:UInt8)(h:n=c.toNat):Dj (n:Int)=some (Aed c):=by
 unfold Dj Aed;rw[Wb n c h,Ac5,Aa];subst h;have e:((c.toNat:Int)==45)=(c.toNat==45):=by rw[Ajd,Ai2,Ai2]; omega
 rw[e];cases c.toNat==45<;>simp
theorem Aec (n:Nat)(h:128≤n):Dj (n:Int)=some false:=by
 unfold Dj;rw[Acl n h,Ac5,Aa];have e:((n:Int)==45)=false:=by rw[AiQ]; omega
 rw[e]; rfl
theorem Ahp (c:UInt8)(h: ¬c.toNat<128):KI c=false∧Aed c=false∧(c.toNat==95)=false:=by
 have e1:KI c=false:=by
  unfold KI;rw[Ai1 (show¬c.toNat≤122 from by omega),Ai1 (show¬c.toNat≤57 from by omega),Ajc,Ajc]; rfl
 have e2:(c.toNat==45)=false:=by rw[AiQ]; omega
 refine⟨e1,?_,by rw[AiQ]; omega⟩;unfold Aed;rw[e1,e2]; rfl
theorem Te {s:ByteArray}{i:Nat}{c:UInt8}(hs:s.size≤16)(h:s.data.toList[i]? =some c):
  Bb s i=some (if(if i+1=s.size then KI c else if i=0 then KI c||c.toNat==95 else Aed c)=true then .inl (i+1)else .inr (.inr false)):=by
 have hi:i<s.size:=by
  have:=(Aiv.1 h).1;rw[Ce]at this;exact this
 have hw:w64 ((s.size:Int)-1)=(s.size:Int)-1:=GY (by omega) (by omega);unfold Bb;rw[Ain hi,DS,hw];by_cases hb:c.toNat<128
 ·rw[dec_lo h hb,Wb c.toNat c rfl,ZH c.toNat c rfl,Ac5,Aa,DS,DS,Ac5,Aa,DS,Ac5,Aa];have e95:((c.toNat:Int)==95)=(c.toNat==95):=by rw[Ajd,Ai2,Ai2]; omega
  by_cases hl:i+1=s.size
  ·have el:((i:Int)==(s.size:Int)-1)=true:=by rw[Ai2]; omega
   rw[Ain hl,el];cases KI c<;>rfl
  ·have el:((i:Int)==(s.size:Int)-1)=false:=by rw[AiQ]; omega
   rw[Ail hl,el];by_cases h0:i=0
   ·have e0:((i:Int)==0)=true:=by rw[Ai2]; omega
    rw[Ain h0,e0];show(if(true&&((true&&KI c)||((c.toNat:Int)==95)))=true then _ else _)=_;rw[e95];cases KI c<;>cases c.toNat==95<;>rfl
   ·have e0:((i:Int)==0)=false:=by rw[AiQ]; omega
    rw[Ail h0,e0];cases Aed c<;>rfl
 ·have hd:=dec_hi h hb;generalize Utf8.decode s i=q at hd;obtain⟨n,k⟩:=q;have hn:128≤n:=hd;obtain⟨b1,b2,b3⟩:=Ahp c hb;show(Ab (gu _ (Dm (n:Int))) _)=_;rw[Acl n hn,Ac5,Aa,DS,Ajc,Ajc,Ail (by decide),DS];have e95:((n:Int)==95)=false:=by rw[AiQ]; omega
  by_cases hl:i+1=s.size
  ·have el:((i:Int)==(s.size:Int)-1)=true:=by rw[Ai2]; omega
   rw[Ain hl,el,b1];rfl
  ·have el:((i:Int)==(s.size:Int)-1)=false:=by rw[AiQ]; omega
   rw[Ail hl,el,Ail (by decide)];rw[Ac5,Aa,DS];show(if(((i:Int)==0)&&((((i:Int)==0)&&false)||((n:Int)==95)))=true then _ else Ab (gu _ (Dj (n:Int))) _)=_;rw[Aec n hn,Ac5,Aa,e95,Ajc,Bool.or_false,Ajc,Ail (by decide)];by_cases h0:i=0
   ·have e0:((i:Int)==0)=true:=by rw[Ai2]; omega
    rw[Ain h0,e0,b1,b3];rfl
   ·have e0:((i:Int)==0)=false:=by rw[AiQ]; omega
    rw[Ail h0,e0,b2];rfl
theorem AbO {s:ByteArray}{i:Nat}(h: ¬i<s.size):Bb s i=some (.inr (.inl i)):=by
 unfold Bb;rw[Ail h]
theorem Td {s:ByteArray}(hs:s.size≤16): ∀(r:List UInt8) (i n:Nat),1≤i→s.data.toList.drop i=r→i≤s.size→r.length<n→∃z,iter (Bb s) n i=some (if Zj r=true then .inl z else .inr false)
 |r,i,0,_,_,_,h=>by omega
 | [],i,n+1,_,h,hi,_=>by
  have hl:s.data.toList.length≤i:=List.drop_eq_nil_iff.1 h;rw[Ce]at hl;refine⟨i,?_⟩;show Ab (Bb s i) _=_;rw[AbO (by omega)];rfl
 |c::r,i,n+1,h1,h,hi,hn=>by
  have hc:s.data.toList[i]? =some c:=by
   have:(s.data.toList.drop i)[0]? =some c:=by rw[h]; rfl
   simpa using this
  have hlt:i<s.size:=by
   have:=(Aiv.1 hc).1;rw[Ce]at this; exact this
  have hr:s.data.toList.drop (i+1)=r:=by rw[←Ajb,h]; rfl
  have hlen:r.length=s.size-(i+1):=by rw[←hr,AiS,Ce]
  obtain⟨z,ih⟩:=Td hs r (i+1) n (by omega) hr (by omega) (by rw[Aij]at hn; omega);refine⟨z,?_⟩;show Ab (Bb s i) _=_;rw[Te hs hc,Ail (show¬i=0 from by omega)];cases r with
  |nil=>
   rw[Ain (show i+1=s.size from by rw[AiF]at hlen; omega)];show _=some (if KI c=true then _ else _);cases KI c with
   |false=>rfl
   |true=>rw[Ain rfl,Ain rfl]; exact ih
  |cons d r=>
   rw[Ail (show¬i+1=s.size from by rw[Aij]at hlen; omega)];show _=some (if(Aed c&&Zj (d::r))=true then _ else _);cases Aed c with
   |false=>rfl
   |true=>
    rw[Ain rfl,AiR];exact ih
theorem Ad7 (s:ByteArray):Gh s=some (UH s.data.toList):=by
 unfold Gh;cases hl:s.data.toList with
 |nil=>
  have:eqS s (⟨#[]⟩:ByteArray)=true:=by unfold eqS; rw[hl]; rfl
  rw[this,Bool.true_or,Ain rfl];rfl
 |cons c r=>
  have h0:eqS s (⟨#[]⟩:ByteArray)=false:=by unfold eqS; rw[hl]; rfl
  have hz:s.size=r.length+1:=by rw[←Ce,hl]; rfl
  rw[h0,Ai8];by_cases hs:s.size≤16
  ·rw[Ai1 (show¬(s.size:Int)>16 from by omega),Ail (by decide)];have hc:s.data.toList[0]? =some c:=by rw[hl]; rfl
   have hd:s.data.toList.drop 1=r:=by rw[hl]; rfl
   have e': ∀n,r.length<n→∃z,iter (Bb s) (n+1) 0=some (if UH (c::r)=true then .inl z else .inr false):=by
    intro n hn;obtain⟨z,ht⟩:=Td hs r 1 n (by decide) hd (by omega) hn;refine⟨z,?_⟩;show Ab (Bb s 0) _=_;rw[Te hs hc,Ain rfl];cases r with
    |nil=>
     rw[Ain (show 0+1=s.size from by rw[hz]; rfl)];show _=some (if KI c=true then _ else _);cases KI c with
     |false=>rfl
     |true=>rw[Ain rfl,Ain rfl]; exact ht
    |cons d r=>
     rw[Ail (show¬0+1=s.size from by rw[hz,Aij]; omega)];show _=some (if((KI c||c.toNat==95)&&Zj (d::r)&&decide ((c::d::r).length≤16))=true then _ else _);rw[AiI (show(c::d::r).length≤16 from by rw[Aij,←hz]; exact hs),Bool.and_true];cases KI c||c.toNat==95 with
     |false=>rfl
     |true=>
      rw[Ain rfl,AiR];exact ht
   obtain⟨z,e⟩: ∃z,iter (Bb s) Gr 0=some (if UH (c::r)=true then .inl z else .inr false):=e' 18446744073709551615 (by omega);rw[e,Aa];cases UH (c::r)<;>rfl
  ·rw[AiI (show(s.size:Int)>16 from by omega),Ain rfl];cases r with
   |nil=>rw[hz]at hs; simp at hs
   |cons d r=>
    show _=some ((KI c||c.toNat==95)&&Zj (d::r)&&decide ((c::d::r).length≤16));rw[Ai1 (show¬(c::d::r).length≤16 from by rw[Aij,←hz]; exact hs),Ajc]
def DB:List UInt8→List (List UInt8)
 | []=> [[]]
 |c::l=>if c=46 then []::DB l else match DB l with|h::t=>(c::h)::t| []=> [[c]]
theorem WO (c:UInt8)(l:List UInt8):DB (c::l)=if c=46 then []::DB l else match DB l with|h::t=>(c::h)::t| []=> [[c]]:=rfl
theorem QI: ∀l:List UInt8,DB l≠[]
 | []=>by simp[DB]
 |c::l=>by
  unfold DB;split
  ·simp
  ·split<;>simp
theorem VB: ∀(p r:List UInt8),(46:UInt8)∉p→DB (p++46::r)=p::DB r
 | [],r,_=>by simp[DB]
 |c::p,r,h=>by
  have hc:c≠46:=fun e=>h (by rw[e]; exact AiA);have ih:=VB p r fun q=>h (AiE _ q);show DB (c::(p++46::r))=_;rw[WO,Ail hc,ih]
theorem VA: ∀(p:List UInt8),(46:UInt8)∉p→DB p=[p]
 | [],_=>rfl
 |c::p,h=>by
  have hc:c≠46:=fun e=>h (by rw[e]; exact AiA);have ih:=VA p fun q=>h (AiE _ q);unfold DB;rw[Ail hc,ih]
theorem Rh: ∀(l:List UInt8),(DB l).length=l.count 46+1
 | []=>rfl
 |c::l=>by
  have ih:=Rh l;unfold DB;by_cases hc:c=46
  ·rw[Ain hc,hc,List.count_cons_self,Aij,ih]
  ·rw[Ail hc,List.count_cons_of_ne hc];cases h:DB l with
   |nil=>exact absurd h (QI l)
   |cons a t=>rw[h]at ih; simpa using ih
theorem RK: ∀(l:List UInt8) (c:UInt8),(Lib.indexByte l c= -1∧c∉l)∨∃p r,l=p++c::r∧c∉p∧Lib.indexByte l c=(p.length:Int)
 | [],c=> .inl ⟨rfl,by simp⟩
 |b::l,c=>by
  unfold Lib.indexByte;cases hb:b==c with
  |true=>
   have e:b=c:=by simpa using hb
   exact .inr ⟨[],l,by rw[e]; rfl,by simp,rfl⟩
  |false=>
   have e:b≠c:=by simpa using hb
   rcases RK l c with ⟨h1,h2⟩|⟨p,r,h1,h2,h3⟩
   ·refine .inl ⟨by rw[h1]; rfl,?_⟩;intro h;rcases AiO.1 h with q|q
    ·exact e q.symm
    ·exact h2 q
   ·refine .inr ⟨b::p,r,by rw[h1]; rfl,?_,?_⟩
    ·intro h;rcases AiO.1 h with q|q
     ·exact e q.symm
     ·exact h2 q
    ·rw[h3];have:((p.length:Int)== -1)=false:=by rw[AiQ]; omega
     rw[Ail (by decide),Ail (by rw[this]; decide),Aij];omega
theorem OZ (s:ByteArray)(a b:Nat):(s.extract a b).data.toList=(s.data.toList.take b).drop a:=by
 rw[ByteArray.data_extract,Array.toList_extract,List.extract_eq_take_drop,List.take_drop];by_cases h:a≤b
 ·rw[Nat.add_sub_cancel' h]
 ·rw[Nat.sub_eq_zero_of_le (by omega),Ajk];rw[AiW (by rw[AiG]; omega),AiW (by rw[AiG]; omega)]
def AeW (l:List UInt8):Bool:=(DB l).all UH
theorem b5_eq (b:ByteArray)(s:Unit×Nat):BK b s=some ((),if UH b.data.toList=true then 0 else 1):=by
 unfold BK;rw[Ad7,Aa];cases UH b.data.toList<;>rfl
def cbk:(Unit×Nat)→ByteArray→Option (Bool×(Unit×Nat)):=fun(s:(Unit)×Nat) (b0:ByteArray)=>if s.2=0 then Ab (BK b0 s) fun y=>some (y.2==0,y)else none
theorem AfW (b:ByteArray):cbk ((),0) b=some (UH b.data.toList,((),if UH b.data.toList=true then 0 else 1)):=by
 unfold cbk;rw[Ain rfl,b5_eq,Aa];cases UH b.data.toList<;>rfl
theorem V4 (s:ByteArray)(h:s.size≤1000):Cg s (⟨#[46]⟩:ByteArray)=some (AbU s 46):=by
 obtain⟨x,hx,h1,h2⟩:=V5 s;unfold Cg A1 BU;rw[DS];cases he:eqS (⟨#[46]⟩:ByteArray) s with
 |true=>
  have e:=(RS.1 he);subst e;rfl
 |false=>rfl
theorem SS: ∀(m:Nat) (s:ByteArray) (n:Nat),s.size≤m→m<n→m≤100→
  ∃z:ByteArray,iter (AR cbk (⟨#[46]⟩:ByteArray) 0) n (s,((),0))=some (if(DB s.data.toList).dropLast.all UH=true then .inl (z,((),0))else .inr ((⟨#[46]⟩:ByteArray),z,0,((),1)))∧
   ((DB s.data.toList).dropLast.all UH=true→some z.data.toList=(DB s.data.toList).getLast?)
 |m,s,0,_,h,_=>by omega
 |m,s,n+1,hs,hn,hm=>by
  have hx:Cg s (⟨#[46]⟩:ByteArray)=some (AbU s 46):=V4 s (by omega);show∃z,Ab (AR cbk (⟨#[46]⟩:ByteArray) 0 (s,((),0))) _=_∧_;rcases RK s.data.toList 46 with ⟨h1,h2⟩|⟨p,r,h1,h2,h3⟩
  ·have e:AR cbk (⟨#[46]⟩:ByteArray) 0 (s,((),0))=some (.inr (.inl (s,((),0)))):=by
    unfold AR;show Ab (Cg s (⟨#[46]⟩:ByteArray)) _=_;rw[hx,Aa,show AbU s 46= -1 from h1];rfl
   rw[e,VA _ h2];exact⟨s,rfl,fun _=>rfl⟩
  ·have hz:s.size=p.length+1+r.length:=by rw[←Ce,h1,Aik,Aij]; omega
   have e1:US s 0 (w64 ((p.length:Int)+0))=some (s.extract 0 p.length):=by
    rw[Int.add_zero,GY (by omega) (by omega),Iv (by omega) (by omega) (by omega)];rfl
   have e2:US s (w64 ((p.length:Int)+((⟨#[46]⟩:ByteArray).size:Int))) (s.size:Int)=some (s.extract (p.length+1) s.size):=by
    have:((⟨#[46]⟩:ByteArray).size:Int)=1:=rfl;rw[this,GY (by omega) (by omega),Iv (by omega) (by omega) (by omega)];rfl
   have l1:(s.extract 0 p.length).data.toList=p:=by
    rw[OZ,h1,List.take_left]; rfl
   have l2:(s.extract (p.length+1) s.size).data.toList=r:=by
    rw[OZ,←Ce,List.take_length,h1];rw[←Ajb,List.drop_left]; rfl
   have e:AR cbk (⟨#[46]⟩:ByteArray) 0 (s,((),0))=some (if UH p=true then .inl (s.extract (p.length+1) s.size,((),0))else .inr (.inr ((⟨#[46]⟩:ByteArray),s,0,((),1)))):=by
    unfold AR;show Ab (Cg s (⟨#[46]⟩:ByteArray)) _=_;rw[hx,Aa,show AbU s 46=(p.length:Int)from h3,Ail (by rw[Aiq]; omega),e1,Aa,AfW,Aa,l1];cases hlab:UH p with
    |false=>rfl
    |true=>
     rw[Ail (by simp)];dsimp only;rw[e2,Aa];rfl
   rw[e,h1,VB p r h2];have hsz:(s.extract (p.length+1) s.size).size=r.length:=by rw[←Ce,l2]
   obtain⟨z,ih1,ih2⟩:=SS (m-1) (s.extract (p.length+1) s.size) n (by omega) (by omega) (by omega);rw[l2]at ih1 ih2;have hd:(p::DB r).dropLast=p::(DB r).dropLast:=by
    cases hq:DB r with
    |nil=>exact absurd hq (QI r)
    |cons a t=>rfl
   have hg:(p::DB r).getLast? =(DB r).getLast? :=by
    cases hq:DB r with
    |nil=>exact absurd hq (QI r)
    |cons a t=>rfl
   rw[hd,hg,Ai0];cases UH p with
   |false=>exact⟨s,rfl,fun h=>by cases h⟩
   |true=>exact⟨z,ih1,ih2⟩
theorem U7 {α:Type}(f:α→Bool): ∀(l:List α) (x:α),l.getLast? =some x→l.all f=(l.dropLast.all f&&f x)
 | [],x,h=>by cases h
 | [a],x,h=>by cases h; simp
 |a::b::l,x,h=>by
  have ih:=U7 f (b::l) x (by simpa using h);show(f a&&(b::l).all f)=((f a&&(b::l).dropLast.all f)&&f x);rw[ih,Bool.and_assoc]
def isB (l:List UInt8)(n k:Nat):Bool:=decide (l.length≤k)&&decide ((DB l).length≤n)&&AeW l
theorem AbF (s:ByteArray)(n k:Nat)(hk:k≤100):CJ s (n:Int) (k:Int)=some (isB s.data.toList n k):=by
 rw[Uy]; unfold isB;have hz:=Ce s;by_cases h1:s.size≤k
 ·rw[Ai1 (show¬(s.size:Int)>k from by omega),Ail (by decide),AiI (show s.data.toList.length≤k from by omega)];have ec:FK s (⟨#[46]⟩:ByteArray)=some ((s.data.toList.count 46:Nat):Int):=rfl;rw[ec,Aa,Aa,Rh];by_cases h2:s.data.toList.count 46+1≤n
  ·rw[Ai1 (show¬((s.data.toList.count 46:Nat):Int)≥(n:Int)from by omega),Ail (by decide),AiI h2];obtain⟨z,e1,e2⟩:=SS 100 s Gr (by omega) (by have:=Kv; omega) (by decide);have es:Bp cbk (⟨#[46]⟩:ByteArray) s 0 ((),0)=some ((⟨#[46]⟩:ByteArray),z,0,((),if AeW s.data.toList=true then 0 else 1)):=by
    unfold Bp;rw[Ail (by decide),e1,Aa];unfold AeW;cases hd:(DB s.data.toList).dropLast.all UH with
    |true=>
     have hlast:=(e2 hd).symm;rw[U7 UH _ _ hlast,hd,Ain rfl];show Ab (cbk ((),0) z) _=_;rw[AfW,Aa,AiR]
    |false=>
     have:(DB s.data.toList).all UH=false:=by
      cases hl:(DB s.data.toList).getLast? with
      |none=>exact absurd (List.getLast?_eq_none_iff.1 hl) (QI _)
      |some x=>rw[U7 UH _ x hl,hd]; rfl
     rw[this];rfl
   show Ab (Bp cbk (⟨#[46]⟩:ByteArray) s 0 ((),0)) _=_;rw[es,Aa];cases AeW s.data.toList<;>rfl
  ·rw[AiI (show((s.data.toList.count 46:Nat):Int)≥(n:Int)from by omega),Ain rfl,Ai1 h2];rfl
 ·rw[AiI (show(s.size:Int)>k from by omega),Ain rfl,Aa,Ain rfl,Ai1 (show¬s.data.toList.length≤k from by omega)];rfl
theorem Jt {α:Type}{l:List α}{i:Nat}{x:α}(h:l[i]? =some x):idx l (i:Int)=some x:=by
 unfold idx;rw[Ain (by omega)];exact h
def toL (s:ByteArray):List UInt8:=s.data.toList
theorem U6 {α:Type}(b:Nat){xs ys:List α}(h:(xs.length+ys.length)*b≤140737488355328)(h1:xs.length+ys.length≤140737488355328):app b xs ys=some (xs++ys):=by unfold app; rw[Ain ⟨h,h1⟩]
def Adp:List UInt8→Bool
 |a::b::r=>a==42&&b==46&&isB r 7 62
 |_=>false
theorem R1 {α:Type}{l:List α}{i:Nat}{c:α}{r:List α}(h:l.drop i=c::r):l[i]? =some c∧l.drop (i+1)=r∧i<l.length:=by
 have h1:l[i]? =some c:=by
  have:(l.drop i)[0]? =some c:=by rw[h]; rfl
  simpa using this
 exact⟨h1,by rw[←Ajb,h]; rfl,(Aiv.1 h1).1⟩
theorem Age {i:Nat}(h:i≤1000000):w64 ((i:Int)+1)=((i+1:Nat):Int):=by rw[GY (by omega) (by omega)]; omega
structure FewP (c:g_api_Cert):Prop where
 issuer:c.Issuer.size≤100000
 subject:c.Subject.size≤100000
 names: ∀s∈c.Names,s.size≤100000
 nnames:c.Names.length≤100000
 permit: ∀s∈c.Permit,s.size≤100000
 npermit:c.Permit.length≤100000
 nproms:c.Proms.length≤100000
structure Fits (c:g_api_Cert):Prop where
 few:FewP c
 serial: -9223372036854775808≤c.Serial∧c.Serial≤9223372036854775807
 frm: -9223372036854775808≤c.From∧c.From≤9223372036854775807
 til: -9223372036854775808≤c.Until∧c.Until≤9223372036854775807
 depth: -9223372036854775808≤c.Depth∧c.Depth≤9223372036854775807
 proms: ∀p∈c.Proms,(-9223372036854775808≤p.Log∧p.Log≤9223372036854775807)∧(-9223372036854775808≤p.At∧p.At≤9223372036854775807)
theorem Afu: ∀{d:Nat} {x:g_api_Item},mayB d x=true→mayB (d+1) x=true
 |0,x,h=>by cases h
 |d+1,x,h=>by
  simp only[mayB,Aie,AiC]at h;unfold mayB;simp only[Aie,AiC];exact⟨h.1,fun y hy=>Afu (h.2 y hy)⟩
theorem Afv {d e:Nat}{x:g_api_Item}(h:d≤e)(hm:mayB d x=true):mayB e x=true:=by
 induction h with
 |refl=>exact hm
 |step _ ih=>exact Afu ih
theorem AbI {d:Nat}{x y:g_api_Item}(h:mayB (d+1) x=true)(hy:y∈x.L):mayB d y=true:=by
 simp only[mayB,Aie,AiC]at h;exact h.2 y hy
structure Nums (c:g_api_Cert):Prop where
 serial:0≤c.Serial∧c.Serial≤1099511627776
 frm:0≤c.From∧c.From≤1099511627776
 til:0≤c.Until∧c.Until≤1099511627776
 key:c.Key.toNat<2305843009213691579
 depth:0≤c.Depth∧c.Depth≤4
 sig:sigB c.Sig=true
 proms: ∀p∈c.Proms,promBC p=true
theorem Pz: ∀{d e:Nat} {x:g_api_Item},mayB d x=true→d≤e→putB e x=putB d x
 |0,e,x,h,_=>by cases h
 |d+1,0,x,_,h=>by omega
 |d+1,e+1,x,h,hd=>by
  have hf: ∀(l:List g_api_Item),(∀y∈l,mayB d y=true)→l.flatMap (putB e)=l.flatMap (putB d):=by
   intro l;induction l with
   |nil=>intro _; rfl
   |cons y l ih=>
    intro hl;rw[Aja,Aja,Pz (hl y AiA) (by omega),ih fun z hz=>hl z (AiE _ hz)]
  have:=hf x.L fun y hy=>AbI h hy;show toB x.Tag::(RH (x.B++x.L.flatMap (putB e)).length++(x.B++x.L.flatMap (putB e)))=toB x.Tag::(RH (x.B++x.L.flatMap (putB d)).length++(x.B++x.L.flatMap (putB d)));rw[this]
theorem AfF {d:Nat}{x y:g_api_Item}(h:mayB (d+1) x=true)(hd:d+1≤8)(hy:y∈x.L):(putB 8 y).length≤(putB 8 x).length:=by
 rw[Pz h hd,Pz (AbI h hy) (by omega)];have h1:=YG (putB d) hy;show _≤(toB x.Tag::(RH (x.B++x.L.flatMap (putB d)).length++(x.B++x.L.flatMap (putB d)))).length;have e:(x.B++x.L.flatMap (putB d)).length=x.B.length+(x.L.flatMap (putB d)).length:=Aik;rw[Aij,Aik,e];omega
theorem AfE {d:Nat}{l:List g_api_Item}(h:mayB (d+1) (X7 l)=true): ∀y∈l,mayB d y=true:=fun y hy=>AbI h hy
structure Okc (c:g_api_Cert):Prop where
 form:Form c
 fb:formB c=true
 may:mayB 8 (wholeI c)=true
 len:(putB 8 (wholeI c)).length≤2048
theorem okc {c:g_api_Cert}(h:checkV c=0):Okc c:=by
 unfold checkV at h;cases hf:formB c with
 |false=>rw[hf]at h; simp at h
 |true=>
  rw[hf,Ain rfl]at h;by_cases h2:mayB 8 (wholeI c)=true∧(putB 8 (wholeI c)).length≤2048
  ·exact⟨Xm hf,hf,h2.1,h2.2⟩
  ·rw[Ail h2]at h; cases h
theorem Okc.chk {c:g_api_Cert}(h:Okc c):checkV c=0:=by
 unfold checkV;rw[h.fb,Ain rfl,Ain ⟨h.may,h.len⟩]
theorem UE {c:g_api_Cert}(h:Okc c):mayB 7 (QE c)=true:=AfE h.may _ (by simp)
theorem Ag3 {c:g_api_Cert}(h:Okc c):mayB 6 (Abh c)=true:=AfE (UE h) _ (by simp)
def Qh (c:g_api_Cert):List UInt8:=putB 8 (QE c)
def Zw (c:g_api_Cert):List UInt8:=putB 8 (Abh c)
theorem XH {c:g_api_Cert}(h:Okc c):(Qh c).length≤2048:=by
 have h1:=AfF (y:=QE c) h.may (by decide) (by show QE c∈[QE c,_]; simp);have h2:=h.len;show(putB 8 (QE c)).length≤_;omega
theorem Afi {c:g_api_Cert}(h:Okc c):(Zw c).length≤2048:=by
 have h1:=AfF (y:=Abh c) (UE h) (by decide) (by show Abh c∈[Abh c,_]; simp);have h2:=XH h;show(putB 8 (Abh c)).length≤_;have h3:(putB 8 (QE c)).length≤2048:=h2;omega
theorem AcQ {x:g_api_Item}(h:mayB 8 x=true)(hl:(putB 8 x).length≤8192):JQ x=some (putB 8 x,0):=by
 rw[Af5 (by omega),Ain h,Ain hl]
theorem AeQ {c:g_api_Cert}(h:Okc c):JV c=some (Qh c,0):=by
 unfold JV Ie;have hl:=XH h;rw[RX,h.chk,Aa,Ail (by decide),YZ h.form.sized,Aa,AcQ (Afv (by decide) (UE h)) (by show(Qh c).length≤_; omega)];rfl
theorem Ah2 {c:g_api_Cert}(h:Okc c):K5 c=some (Zw c,0):=by
 unfold K5 Ig;have hl:=Afi h;rw[RX,h.chk,Aa,Ail (by decide),Abg h.form.sized,Aa,AcQ (Afv (by decide) (Ag3 h)) (by show(Zw c).length≤_; omega)];rfl
end Go.Proofs.YtnhdojckpcbjeaaGreatDoor
end
