/- Several texts, one behind the other. Conditions: none. -/
import Derived.Test.YtnhdojckpcbjeaaGreatDoorZi
import Derived.Test.YtnhdojckpcbjeaaGreatDoorZj
import Derived.Test.YtnhdojckpcbjeaaGreatDoorZk
import Derived.Test.YtnhdojckpcbjeaaGreatDoorZl
import Derived.KernelRfl
import Derived.Test.YtnhdojckpcbjeaaGreatDoorZb
set_option linter.unusedSimpArgs false
set_option linter.unusedVariables false
set_option maxHeartbeats 4000000
set_option maxRecDepth 100000
section
namespace Go.Proofs.YtnhdojckpcbjeaaGreatDoor
open Go Go.Gw Go.Ax
theorem Cr {α β:Type}(a:α)(k:α→β):bnd a k=k a:=rfl
theorem KO {σ τ:Type}{step:σ→Option (σ⊕τ)}{s:σ}{t:τ}(n:Nat)(h:iter step n s=some t)(hn:n≤18446744073709551616):iter step FA s=some t:=Ve h hn
theorem D4 {σ τ:Type}{step:σ→Option (σ⊕τ)}{n:Nat}{s s':σ}(h:step s=some (.inl s')):iter step (n+1) s=iter step n s':=by simp only[iter,h,Aa]
theorem E4 {σ τ:Type}{step:σ→Option (σ⊕τ)}{n:Nat}{s:σ}{t:τ}(h:step s=some (.inr t)):iter step (n+1) s=some t:=by simp only[iter,h,Aa]
theorem MC {α:Type}(b:Nat){xs ys:List α}(h:(xs.length+ys.length)*b≤140737488355328)(h1:xs.length+ys.length≤140737488355328):app b xs ys=some (xs++ys):=by unfold app; rw[AhZ ⟨h,h1⟩]
theorem XV {α:Type}{xs:List α}{lo hi:Nat}(h1:lo≤hi)(h2:hi≤xs.length):cut xs (lo:Int) (hi:Int)=some ((xs.drop lo).take (hi-lo)):=by
 unfold cut; rw[AhZ ⟨by omega,by omega,by omega⟩]; simp
def Ac3 (hi lo:UInt64):UInt64:=
 let n:=(lo&&&2305843009213693951)+((K9 hi 3)|||(Ey lo 61))
 let k:=(n&&&2305843009213693951)+Ey n 61
 if 2305843009213693951≤k.toNat then k-2305843009213693951 else k
theorem Abm (a b:UInt64):H0 a b=some (Ac3 a b):=by
 unfold H0 Ac3;simp only[Cr];generalize (b&&&2305843009213693951)+((K9 a 3)|||(Ey b 61))=n;generalize (n&&&2305843009213693951)+Ey n 61=k;by_cases h:2305843009213693951≤k.toNat
 ·rw[AhZ h,AhZ (Aim (by omega))]; rfl
 ·rw[AhX h,AhX (by simp; omega)]; rfl
def AeM (a:UInt64):UInt64:=Ac3 0 a
theorem AeO (a:UInt64):Fj a=some (AeM a):=by simp only[Fj,Abm,Aa]; rfl
def Ji (a b:UInt64):UInt64:=AeM (AeM a+AeM b)
theorem Yd (a b:UInt64):GG a b=some (Ji a b):=by simp only[GG,AeO,Aa]; rfl
def phi (a0 a1:UInt64):UInt64:=
 let x1:=(a0&&&4294967295)*(a1&&&4294967295)
 let x2:=((Ey a0 32)*(a1&&&4294967295))+(Ey x1 32)
 let x3:=(x2&&&4294967295)+((a0&&&4294967295)*(Ey a1 32))
 (((Ey a0 32)*(Ey a1 32))+(Ey x2 32))+(Ey x3 32)
theorem TH (a b:UInt64):H4 a b=some (phi a b,a*b):=rfl
def pmul (a b:UInt64):UInt64:=Ac3 (phi (AeM a) (AeM b)) (AeM a*AeM b)
theorem mul_eq (a b:UInt64):IY a b=some (pmul a b):=by simp only[IY,AeO,TH,Abm,Aa]; rfl
def Wa (a:UInt64):UInt64:=
 let b:=pmul a a
 let c:=pmul b b
 let d:=pmul c c
 pmul a (pmul d d)
theorem sev_eq (a:UInt64):EC a=some (Wa a):=by
 simp only[EC,CR,IX,mul_eq,Aa]; rfl
def Xq (r i:Int):UInt64:=let n:=toU (w64 ((w64 ((w64 (3*r))+i))+1)); n*n*n+7
def pall (r:Int)(s:UInt64×UInt64×UInt64):UInt64:=Ji (Ji (Ji 0 (Wa (Ji s.1 (Xq r 0)))) (Wa (Ji s.2.1 (Xq r 1)))) (Wa (Ji s.2.2 (Xq r 2)))
def NM (r:Int)(s:UInt64×UInt64×UInt64):UInt64×UInt64×UInt64:=(Ji (Wa (Ji s.1 (Xq r 0))) (pall r s),Ji (Wa (Ji s.2.1 (Xq r 1))) (pall r s),Ji (Wa (Ji s.2.2 (Xq r 2))) (pall r s))
theorem AgB (i:Int)(a:UInt64)(r:Int)(all:UInt64):JA i a r all=some (Wa (Ji a (Xq r i)),r,Ji all (Wa (Ji a (Xq r i)))):=by
 simp only[JA,Cr,Yd,sev_eq,Aa]; rfl
theorem AgA (i:Int)(a:UInt64)(all:UInt64):Jz i a all=some (Ji a all,all):=by
 simp only[Jz,Yd,Aa]
theorem Ad8 (a b c:UInt64)(r:Int)(all:UInt64):Dk (a,b,c) r all=some ((Wa (Ji a (Xq r 0)),Wa (Ji b (Xq r 1)),Wa (Ji c (Xq r 2))),r,Ji (Ji (Ji all (Wa (Ji a (Xq r 0)))) (Wa (Ji b (Xq r 1)))) (Wa (Ji c (Xq r 2)))):=by
 have e0:idx [a,b,c] 0=some a:=rfl;have e1: ∀x,idx [x,b,c] 1=some b:=fun _=>rfl;have e2: ∀x y,idx [x,y,c] 2=some c:=fun _ _=>rfl;simp[Dk,CR,Gf,Cr,AgB,e0,e1,e2]
theorem Ad7 (a b c all:UInt64):Dj (a,b,c) all=some ((Ji a all,Ji b all,Ji c all),all):=by
 have e0:idx [a,b,c] 0=some a:=rfl;have e1: ∀x,idx [x,b,c] 1=some b:=fun _=>rfl;have e2: ∀x y,idx [x,y,c] 2=some c:=fun _ _=>rfl;simp[Dj,CR,Ge,Cr,AgA,e0,e1,e2]
theorem Agz (r:Int)(s:UInt64×UInt64×UInt64):KI r s=some (NM r s):=by
 obtain⟨a,b,c⟩:=s;unfold KI;rw[Ad8,Aa,Ad7,Aa];rfl
def Y9 (s:UInt64×UInt64×UInt64):UInt64×UInt64×UInt64:=NM 7 (NM 6 (NM 5 (NM 4 (NM 3 (NM 2 (NM 1 (NM 0 s)))))))
theorem AaL (s:UInt64×UInt64×UInt64):J8 s=some (Y9 s):=by
 simp only[J8,CR,Agz,Aa];rfl
def ple:List UInt8→Nat→UInt64→UInt64
 | [],_,s=>s
 |b::bs,i,s=>ple bs (i+1) (s|||K9 (toU (b.toNat:Int)) (8*i))
theorem b6_eq (b5:List UInt8): ∀(l:List UInt8) (i:Nat) (s:UInt64),b5.drop i=l→i+l.length≤1000000→CR (FQ b5) l.length (i:Int) s=some (ple l i s):=by
 intro l;induction l with
 |nil=>intro i s _ _; rfl
 |cons b l ih=>
  intro i s h hb;have hx:idx b5 (i:Int)=some b:=CW (by
   have:(b5.drop i)[0]? =some b:=by rw[h]; rfl
   simpa using this)
  simp only[Ah1]at hb;have hw:w64 (8*(i:Int))=((8*i:Nat):Int):=by rw[BZ (by omega) (by omega)]; omega
  have hstep:FQ b5 (i:Int) s=some (s|||K9 (toU (b.toNat:Int)) (8*i)):=by
   simp only[FQ,hx,Aa,hw,Cr];rw[AhZ (by omega)]; rfl
  show CR (FQ b5) (l.length+1) _ _=_;simp only[CR,hstep,Aa,ple];have:=ih (i+1) (s|||K9 (toU (b.toNat:Int)) (8*i)) (by rw[←AiR,h]; rfl) (by omega);simpa using this
def pof (n:Nat)(l:List UInt8):List UInt64:=match n,l with|_,[]=> []|0,_=> []|n+1,l=>ple (l.take 7) 0 0::pof n (l.drop 7)
theorem Agq (n:Nat): ∀l,(pof n l).length≤n:=by
 induction n with
 |zero=>intro l; cases l<;>simp[pof]
 |succ n ih=>intro l; cases l with
  |nil=>simp[pof]
  |cons a l=>simp only[pof,Ah1]; have:=ih ((a::l).drop 7); omega
theorem Aef (a0:List UInt8)(hb:a0.length≤1000000): ∀(n i:Nat) (out:List UInt64),a0.length≤i+n→i≤1000000+7→out.length+n≤1000000→
  iter (BC (fun(s:(List UInt64)) (b0:List UInt8)=>Ab (FU b0 s) fun y=>some (true,y)) a0 7) (n+1) ((i:Int),out)=some (.inl (out++pof n (a0.drop i))):=by
 intro n;induction n with
 |zero=>
  intro i out h _ _;have:a0.drop i=[]:=AiA (by omega);refine E4 ?_;simp only[BC,this];rw[AhX (by simp; omega)];simp[pof]
 |succ n ih=>
  intro i out h hi ho;by_cases hlt:i<a0.length
  ·obtain⟨b,l,hl⟩: ∃b l,a0.drop i=b::l:=⟨a0[i],a0.drop (i+1),List.drop_eq_getElem_cons hlt⟩;have hc1:cut a0 (i:Int) (a0.length:Int)=some (a0.drop i):=by
    rw[XV (by omega) (by omega)]; congr 1; rw[Aiz (by simp)]
   have hlen:(a0.drop i).length=a0.length-i:=by simp
   have hm:w64 ((i:Int)+Wo 7 ((a0.drop i).length:Int))=((i+min 7 (a0.length-i):Nat):Int):=by
    rw[BZ]<;>unfold Wo<;>split<;>omega
   have hc2:cut a0 (i:Int) ((i+min 7 (a0.length-i):Nat):Int)=some ((a0.drop i).take 7):=by
    rw[XV (by omega) (by omega)]; congr 1;rw[Nat.add_sub_cancel_left];by_cases h7:7≤a0.length-i
    ·rw[Nat.min_eq_left h7]
    ·rw[Nat.min_eq_right (by omega),Aiz (by simp),Aiz (by simp; omega)]
   have hw:w64 ((i:Int)+7)=((i+7:Nat):Int):=by rw[BZ (by omega) (by omega)]; omega
   have hb4:FU ((a0.drop i).take 7) out=some (out++[ple ((a0.drop i).take 7) 0 0]):=by
    have:=b6_eq ((a0.drop i).take 7) ((a0.drop i).take 7) 0 0 rfl (by simp; omega);simp only[FU];rw[show((0:Int))=((0:Nat):Int)from rfl,this];simp only[Aa];rw[MC 8 (by simp; omega) (by simp; omega)];rfl
   rw[D4 (s':=(((i+7:Nat):Int),out++[ple ((a0.drop i).take 7) 0 0]))]
   ·rw[ih (i+7) _ (by omega) (by omega) (by simp; omega)];rw[hl];simp only[pof];rw[←hl,AiR];simp
   ·simp only[BC];rw[AhZ (Aim (by omega)),hc1];simp only[Aa,hm,hc2,hb4,hw];rfl
  ·have:a0.drop i=[]:=AiA (by omega);refine E4 ?_;simp only[BC,this];rw[AhX (by simp; omega)];simp[pof]
theorem of_eq (a0:List UInt8)(hb:a0.length≤900000):J9 a0=some (pof a0.length a0):=by
 have h:=Aef a0 (by omega) a0.length 0 [] (by omega) (by omega) (by simp; omega);have h':=KO _ h (by omega);simp only[J9,D2,Dq];rw[AhX (by decide)];simp only[Aa,List.drop_zero,AiC]at h'⊢;rw[show((0:Int))=((0:Nat):Int)from rfl,h'];simp only[Aa]
def Mn (n:Nat)(l:List UInt64)(s:UInt64×UInt64×UInt64):UInt64×UInt64×UInt64:=match n,l with|_,[]=>s|0,_=>s|_+1,[x]=>Y9 (Ji s.1 x,s.2.1,s.2.2)|n+1,x::y::l=>Mn n l (Y9 (Ji s.1 x,Ji s.2.1 y,s.2.2))
theorem b4_eq1 (x:UInt64)(s:UInt64×UInt64×UInt64):CR (G9 [x]) 1 0 s=some (Ji s.1 x,s.2.1,s.2.2):=by
 have e0:idx [x] (0:Int)=some x:=rfl;have e1:idx [s.1,s.2.1,s.2.2] (0:Int)=some s.1:=rfl;simp[CR,G9,e0,e1,Yd,Cr]
theorem b4_eq2 (x y:UInt64)(s:UInt64×UInt64×UInt64):CR (G9 [x,y]) 2 0 s=some (Ji s.1 x,Ji s.2.1 y,s.2.2):=by
 have e0:idx [x,y] (0:Int)=some x:=rfl;have e1:idx [s.1,s.2.1,s.2.2] (0:Int)=some s.1:=rfl;have e2:idx [x,y] 1=some y:=rfl;have e3:idx [Ji s.1 x,s.2.1,s.2.2] 1=some s.2.1:=rfl;simp[CR,G9,e0,e1,e2,e3,Yd,Cr]
theorem b3_nil (fst:Bool)(hf:fst=true)(s:UInt64×UInt64×UInt64):CJ ([],fst,s.1,s.2.1,s.2.2)=some (.inl ([],false,Y9 s)):=by
 subst hf;have hc:cut ([]:List UInt64) 0 0=some []:=rfl;have hmin:Wo 2 (([]:List UInt64).length:Int)=0:=rfl;simp only[CJ,Bool.true_or,if_true,hmin];rw[show((([]:List UInt64).length:Int))=0 from rfl,hc];simp only[Aa,CR,Aij,AaL]
theorem Afw (s:UInt64×UInt64×UInt64):CJ ([],false,s.1,s.2.1,s.2.2)=some (.inr s):=rfl
theorem Afv (fst:Bool)(x:UInt64)(s:UInt64×UInt64×UInt64):CJ ([x],fst,s.1,s.2.1,s.2.2)=some (.inl ([],false,Y9 (Ji s.1 x,s.2.1,s.2.2))):=by
 have hmin:Wo 2 (([x]:List UInt64).length:Int)=1:=rfl;have h0:(fst||decide ((([x]:List UInt64).length:Int)>0))=true:=by simp
 have hc:cut [x] 0 1=some [x]:=rfl;have hc2:cut [x] 1 1=some []:=rfl;simp only[CJ,h0,if_true,hmin];rw[show((([x]:List UInt64).length:Int))=1 from rfl,hc,hc2];simp only[Aa,Ah1,Aij];rw[b4_eq1];simp only[Aa,AaL]
theorem Afu (fst:Bool)(x y:UInt64)(l:List UInt64)(s:UInt64×UInt64×UInt64):CJ (x::y::l,fst,s.1,s.2.1,s.2.2)=some (.inl (l,false,Y9 (Ji s.1 x,Ji s.2.1 y,s.2.2))):=by
 have hmin:Wo 2 ((x::y::l).length:Int)=((2:Nat):Int):=by unfold Wo; rw[AhX (by simp; omega)]; rfl
 have h0:(fst||decide (((x::y::l).length:Int)>0))=true:=by simp; right; omega
 have hc:cut (x::y::l) ((0:Nat):Int) ((2:Nat):Int)=some [x,y]:=by rw[XV (by omega) (by simp)]; rfl
 have hc2:cut (x::y::l) ((2:Nat):Int) ((x::y::l).length:Int)=some l:=by rw[XV (by simp) (by omega)]; simp
 simp only[CJ,h0,if_true,hmin];rw[show((0:Int))=((0:Nat):Int)from rfl,hc,hc2];simp only[Aa,Ah1,Aij];rw[show((0:Nat):Int)=0 from rfl,b4_eq2];simp only[Aa,AaL]
theorem WS: ∀(n:Nat) (l:List UInt64) (s:UInt64×UInt64×UInt64),l.length≤n→iter CJ (n+1) (l,false,s.1,s.2.1,s.2.2)=some (Mn n l s):=by
 intro n;induction n with
 |zero=>
  intro l s h;have:l=[]:=List.eq_nil_of_length_eq_zero (by omega);subst this;rw[E4 (Afw s)]; simp[Mn]
 |succ n ih=>
  intro l s h;match l,h with
  | [],_=>rw[E4 (Afw s)]; simp[Mn]
  | [x],_=>
   rw[D4 (Afv false x s)];have:=ih [] (Y9 (Ji s.1 x,s.2.1,s.2.2)) (by simp);rw[this]; simp[Mn]
  |x::y::l,h=>
   rw[D4 (Afu false x y l s)];have:=ih l (Y9 (Ji s.1 x,Ji s.2.1 y,s.2.2)) (by simp at h; omega);rw[this]; simp[Mn]
def AeN (l:List UInt64)(s:UInt64×UInt64×UInt64):UInt64×UInt64×UInt64:=match l with| []=>Y9 s|l=>Mn l.length l s
def hsum (b:List UInt8):UInt64×UInt64:=((AeN (pof b.length b) (0,0,toU (b.length:Int))).1,(AeN (pof b.length b) (0,0,toU (b.length:Int))).2.1)
theorem sum_eq (b:List UInt8)(hb:b.length≤900000):Mh b=some (hsum b):=by
 simp only[Mh,of_eq b hb,Aa];have hl:=Agq b.length b;have hk:hsum b=((AeN (pof b.length b) (0,0,toU (b.length:Int))).1,(AeN (pof b.length b) (0,0,toU (b.length:Int))).2.1):=rfl;rw[hk];clear hk;generalize pof b.length b=l at*;have h:iter CJ FA (l,true,0,0,toU (b.length:Int))=some (AeN l (0,0,toU (b.length:Int))):=by
  refine KO (l.length+2) ?_ (by omega);match l with
  | []=>
   rw[show([]:List UInt64).length+2=1+1 from rfl,D4 (b3_nil true rfl (0,0,toU (b.length:Int)))];have:=WS 0 [] (Y9 (0,0,toU (b.length:Int))) (by simp);rw[this]; simp[Mn,AeN]
  | [x]=>
   rw[show([x]:List UInt64).length+2=2+1 from rfl,D4 (Afv true x (0,0,toU (b.length:Int)))];have:=WS 1 [] (Y9 (Ji 0 x,0,toU (b.length:Int))) (by simp);rw[this]; simp[Mn,AeN]
  |x::y::l=>
   rw[D4 (Afu true x y l (0,0,toU (b.length:Int)))];have:=WS (l.length+2) l (Y9 (Ji 0 x,Ji 0 y,toU (b.length:Int))) (by omega);have e:(x::y::l).length+1=l.length+2+1:=rfl;rw[e,this];simp only[Mn,AeN,Ah1];congr 1;clear this hl;have: ∀(n k:Nat) (l:List UInt64) (s:UInt64×UInt64×UInt64),l.length≤n→l.length≤k→Mn n l s=Mn k l s:=by
    intro n;induction n with
    |zero=>intro k l s h _; have:l=[]:=List.eq_nil_of_length_eq_zero (by omega); subst this; simp[Mn]
    |succ n ih=>
     intro k l s h hk;match l,k,h,hk with
     | [],k,_,_=>cases k<;>simp[Mn]
     | [x],k+1,_,_=>simp[Mn]
     |x::y::l,k+1,h,hk=>simp only[Mn]; exact ih k l _ (by simp at h; omega) (by simp at hk; omega)
   exact this _ _ _ _ (by omega) (by omega)
 rw[h];simp only[Aa]
def Tx:Nat→UInt64→List UInt8
 |0,_=> []
 |k+1,n=>toB ((Ey n (8*k)).toNat:Int)::Tx k n
theorem Kz (k:Nat)(n:UInt64):(Tx k n).length=k:=by induction k with|zero=>rfl|succ k ih=>simp[Tx,ih]
theorem AcW (n:UInt64): ∀(k:Nat) (b:List UInt8),k≤8→b.length+k≤1000000→iter (It n) (k+1) (b,(k:Int)-1)=some (b++Tx k n):=by
 intro k;induction k with
 |zero=>intro b _ _; refine E4 ?_; simp only[It,Tx,Aiu]; rw[AhX (by simp)]
 |succ k ih=>
  intro b hk hb;have hw:w64 (8*(((k+1:Nat):Int)-1))=((8*k:Nat):Int):=by rw[BZ (by omega) (by omega)]; omega
  have hw2:w64 ((((k+1:Nat):Int)-1)-1)=(k:Int)-1:=by rw[BZ (by omega) (by omega)]; omega
  rw[D4 (s':=(b++[toB ((Ey n (8*k)).toNat:Int)],(k:Int)-1))]
  ·rw[ih _ (by omega) (by simp; omega)]; simp[Tx]
  ·simp only[It,hw,hw2];rw[AhZ (Aim (by omega)),AhZ (by omega),MC 1 (by simp; omega) (by simp; omega)];simp only[Aa,AiN]
theorem Aah (n:UInt64)(k:Nat)(b:List UInt8)(hk:k≤8)(hb:b.length≤900000):FN b n (k:Int)=some (b++Tx k n):=by
 have hw:w64 ((k:Int)-1)=(k:Int)-1:=BZ (by omega) (by omega);simp only[FN,hw,KO (k+1) (AcW n k b hk (by omega)) (by omega),Aa]
def O7 (s:UInt64×UInt64):List UInt8:=Tx 8 s.1++Tx 8 s.2
theorem J6 (s:UInt64×UInt64):(O7 s).length=16:=by simp[O7,Kz]
theorem Uc (s:UInt64×UInt64):Ea s=some (O7 s):=by
 have e0:idx [s.1,s.2] 0=some s.1:=rfl;have e1:idx [s.1,s.2] 1=some s.2:=rfl;have h0:FN [] s.1 8=some ([]++Tx 8 s.1):=Aah s.1 8 [] (by omega) (by simp);have h1:FN (Tx 8 s.1) s.2 8=some (Tx 8 s.1++Tx 8 s.2):=Aah s.2 8 _ (by omega) (by rw[Kz]; omega);simp[Ea,CR,LK,e0,e1,h0,h1,O7]
def Aat:List UInt8→List (List UInt8)→List UInt8
 |b,[]=>b
 |b,p::ps=>Aat (b++Tx 4 (toU (p.length:Int))++p) ps
def Aci:List (List UInt8)→Nat
 | []=>0
 |p::ps=>4+p.length+Aci ps
theorem Aas: ∀(ps:List (List UInt8)) (b:List UInt8),(Aat b ps).length=b.length+Aci ps:=by
 intro ps;induction ps with
 |nil=>intro b; rfl
 |cons p ps ih=>intro b; simp only[Aat,ih,Aci,Ah0,Kz]; omega
theorem AcC: ∀(ps:List (List UInt8)) (i:Int) (b:List UInt8),b.length+Aci ps≤800000→D5 Ic ps i b=some (Aat b ps):=by
 intro ps;induction ps with
 |nil=>intro i b _; rfl
 |cons p ps ih=>
  intro i b h;simp only[Aci]at h;have h0:FN b (toU (p.length:Int)) 4=some (b++Tx 4 (toU (p.length:Int))):=Aah _ 4 b (by omega) (by omega);simp only[D5,Ic,h0,Aa];rw[MC 1 (by simp[Kz]; omega) (by simp[Kz]; omega)];simp only[Aa];rw[ih _ _ (by simp[Kz]; omega)];rfl
def AcY (t:ByteArray)(ps:List (List UInt8)):UInt64×UInt64:=hsum (Aat (toB (t.size:Int)::t.data.toList) ps)
theorem NG (t:ByteArray)(ps:List (List UInt8))(h:t.data.toList.length+Aci ps≤700000):CI t ps=some (AcY t ps):=by
 simp only[CI];rw[MC 1 (by simp at h⊢; omega) (by simp at h⊢; omega)];simp only[Aa];rw[AcC _ _ _ (by simp at h⊢; omega)];simp only[Aa];rw[sum_eq _ (by rw[Aas]; simp at h⊢; omega)];rfl
def Agp (a b:UInt64×UInt64):UInt64×UInt64:=AcY ⟨#[110,111,100,101]⟩ [O7 a,O7 b]
theorem Aaw (a b:UInt64×UInt64):GF a b=some (Agp a b):=by
 simp only[GF,Uc,Aa];rw[NG _ _ (by simp[Aci,J6])];rfl
theorem shr1 {n:Int}(h:0≤n):Bj n 1=n/2:=by
 show n.fdiv (2^ (min 1 64))=n/2;rw[Int.fdiv_eq_ediv_of_nonneg _ (by decide)]; rfl
theorem tab_le:(str_0.data.toList.all fun b=>decide (b.toNat≤8))=true:=by kernel_rfl
theorem AfP:str_0.data.toList.length=256:=by kernel_rfl
theorem AfQ (x:UInt64): ∃b,idx str_0.data.toList ((toB (x.toNat:Int)).toNat:Int)=some b∧b.toNat≤8:=by
 have hlt:(toB (x.toNat:Int)).toNat<str_0.data.toList.length:=by rw[AfP]; exact(toB (x.toNat:Int)).toNat_lt
 refine⟨str_0.data.toList[(toB (x.toNat:Int)).toNat],CW (by simp),?_⟩;exact AiS (Aif.1 tab_le _ (List.getElem_mem hlt))
theorem AgJ (a:UInt64): ∃r,HG a=some r∧0≤r∧r≤64:=by
 have h1: ∃x n,(if(decide ((a.toNat:Int)≥4294967296))=true then some ((Ey a 32),(32:Int))else some (a,0))=some (x,n)∧0≤n∧n≤32:=by
  split
  ·exact⟨_,_,rfl,by omega,by omega⟩
  ·exact⟨_,_,rfl,by omega,by omega⟩
 obtain⟨x,n,e1,n0,n1⟩:=h1;have h2: ∃y k,(if(decide ((x.toNat:Int)≥65536))=true then some ((Ey x 16),(w64 (n+16)))else some (x,n))=some (y,k)∧0≤k∧k≤48:=by
  split
  ·refine⟨_,_,rfl,?_,?_⟩<;>rw[BZ (by omega) (by omega)]<;>omega
  ·exact⟨_,_,rfl,by omega,by omega⟩
 obtain⟨y,k,e2,k0,k1⟩:=h2;have h3: ∃z j,(if(decide ((y.toNat:Int)≥256))=true then some ((Ey y 8),(w64 (k+8)))else some (y,k))=some (z,j)∧0≤j∧j≤56:=by
  split
  ·refine⟨_,_,rfl,?_,?_⟩<;>rw[BZ (by omega) (by omega)]<;>omega
  ·exact⟨_,_,rfl,by omega,by omega⟩
 obtain⟨z,j,e3,j0,j1⟩:=h3;obtain⟨b,e4,b1⟩:=AfQ z;refine⟨j+b.toNat,?_,by omega,by omega⟩;simp only[HG,Fv,e1,Aa,e2,e3,e4,Cr];rw[BZ (n:=(b.toNat:Int)) (by omega) (by omega),BZ (by omega) (by omega)]
theorem Ac7 (a:UInt64): ∃r,Ig a=some r:=⟨_,rfl⟩
theorem ZE (a s:Int): ∃r,HL a s=some r:=by
 obtain⟨x,hx,x0,_⟩:=AgJ (toU (Ze a (w64 (s-1))));obtain⟨y,hy⟩:=Ac7 (toU (Bj a x.toNat));exact⟨(x,y),by simp only[HL,hx,Aa]; rw[AhZ x0,hy]; rfl⟩
end Go.Proofs.YtnhdojckpcbjeaaGreatDoor
end
section
namespace Go.Gw
open Go
theorem Aa2 {σ τ:Type}{step:σ→Option (σ⊕τ)}{T:τ→Prop}(I:Nat→σ→Prop)(n:Nat)(h: ∀i s,i≤n→I i s→(∃t,step s=some (.inr t)∧T t)∨(i<n∧∃s',step s=some (.inl s')∧I (i+1) s')):
  ∀k i s,i+k=n→I i s→∃t,iter step (k+1) s=some t∧T t:=by
 intro k;induction k with
 |zero=>
  intro i s hk hi;rcases h i s (by omega) hi with ⟨t,h1,h2⟩|⟨h1,_⟩
  ·exact⟨t,by simp only[iter,h1,Aa],h2⟩
  ·omega
 |succ k ih=>
  intro i s hk hi;rcases h i s (by omega) hi with ⟨t,h1,h2⟩|⟨_,s',h1,h2⟩
  ·exact⟨t,by simp only[iter,h1,Aa],h2⟩
  ·obtain⟨t,h3,h4⟩:=ih (i+1) s' (by omega) h2;exact⟨t,by rw[iter,h1,Aa]; exact h3,h4⟩
theorem Aa3 {σ τ:Type}{step:σ→Option (σ⊕τ)}{T:τ→Prop}(I:Nat→σ→Prop)(n:Nat)(hn:n<1000000000000000000){s0:σ}(h0:I 0 s0)(h: ∀i s,i≤n→I i s→(∃t,step s=some (.inr t)∧T t)∨(i<n∧∃s',step s=some (.inl s')∧I (i+1) s')):
  ∃t,iter step FA s0=some t∧T t:=by
 obtain⟨t,h1,h2⟩:=Aa2 I n h n 0 s0 (by omega) h0;exact⟨t,Ve h1 (by unfold FA; omega),h2⟩
theorem Acv {i:Nat}(h:i<9223372036854775807):w64 ((i:Int)+1)=((i+1:Nat):Int):=by rw[BZ (by omega) (by omega)]; omega
end Go.Gw
end
section
namespace Go.Proofs.YtnhdojckpcbjeaaGreatDoor
open Go Go.Gw Go.Ax
abbrev FP:Nat:=2305843009213693951
theorem UJ {n:Nat}(h:n<18446744073709551616):(toU (n:Int)).toNat=n:=by
 unfold toU;rw[UInt64.toNat_ofNat'];omega
theorem EE (x:UInt64)(k:Nat)(hk:k≤64):(Ey x k).toNat=x.toNat/2^k:=by
 unfold Ey;rw[UInt64.toNat_ofNat',Nat.min_eq_left hk];exact AiJ (AiP (Nat.div_le_self _ _) x.toNat_lt)
theorem Ade {p q r s:Nat}(hp:p<4294967296)(hq:q<4294967296)(hr:r<4294967296)(hs:s<4294967296):
  (p*r+((p*s+q*s/4294967296)/4294967296)+(((p*s+q*s/4294967296)%4294967296+q*r)/4294967296))=((p*4294967296+q)*(r*4294967296+s))/18446744073709551616:=by
 have h1:(p*4294967296+q)*(r*4294967296+s)=(p*r)*18446744073709551616+(p*s+q*r)*4294967296+q*s:=by
  rw[Nat.add_mul,Nat.mul_add,Nat.mul_add,Nat.add_mul];have a1:p*4294967296*(r*4294967296)=p*r*18446744073709551616:=by rw[Nat.mul_assoc,Nat.mul_left_comm 4294967296,←Nat.mul_assoc p]
  have a2:p*4294967296*s=p*s*4294967296:=Nat.mul_right_comm _ _ _;have a3:q*(r*4294967296)=q*r*4294967296:=(Nat.mul_assoc _ _ _).symm;rw[a1,a2,a3]; omega
 rw[h1];generalize p*r=A;generalize p*s=B;generalize q*r=C;generalize q*s=D;omega
theorem Aaq (a b:UInt64):(phi a b).toNat=(a.toNat*b.toNat)/18446744073709551616:=by
 have ha:=a.toNat_lt;have hb:=b.toNat_lt;have m32: ∀x:UInt64,(x&&&4294967295).toNat=x.toNat%4294967296:=fun x=>by
  rw[UInt64.toNat_and]; exact Nat.and_two_pow_sub_one_eq_mod _ 32
 have s32: ∀x:UInt64,(Ey x 32).toNat=x.toNat/4294967296:=fun x=>EE x 32 (by omega);have hp:a.toNat/4294967296<4294967296:=by omega
 have hq:a.toNat%4294967296<4294967296:=by omega
 have hr:b.toNat/4294967296<4294967296:=by omega
 have hs:b.toNat%4294967296<4294967296:=by omega
 have ea:a.toNat/4294967296*4294967296+a.toNat%4294967296=a.toNat:=Nat.div_add_mod' _ _;have eb:b.toNat/4294967296*4294967296+b.toNat%4294967296=b.toNat:=Nat.div_add_mod' _ _;have key:=Ade hp hq hr hs;rw[ea,eb]at key;have bd: ∀x y:Nat,x<4294967296→y<4294967296→x*y≤18446744065119617025:=fun x y hx hy=>Nat.mul_le_mul (show x≤4294967295 by omega) (show y≤4294967295 by omega);have b1:=bd _ _ hp hr;have b2:=bd _ _ hp hs;have b3:=bd _ _ hq hr;have b4:=bd _ _ hq hs;have ab:a.toNat*b.toNat/18446744073709551616<18446744073709551616:=by
  rw[Nat.div_lt_iff_lt_mul (by omega)];exact AiP (Nat.mul_le_mul (show a.toNat≤18446744073709551615 by omega) (show b.toNat≤18446744073709551615 by omega)) (by omega)
 unfold phi;dsimp only;rw[←key]at ab⊢;simp only[UInt64.toNat_add,UInt64.toNat_mul,s32,m32];generalize a.toNat/4294967296*(b.toNat/4294967296)=A at*;generalize a.toNat/4294967296*(b.toNat%4294967296)=B at*;generalize a.toNat%4294967296*(b.toNat/4294967296)=C at*;generalize a.toNat%4294967296*(b.toNat%4294967296)=D at*;omega
theorem u_ext {a b:UInt64}(h:a.toNat=b.toNat):a=b:=UInt64.toNat_inj.1 h
section
variable {x4 x5 x7 y u:UInt64}
theorem dq_lt (hd:x7.toNat<4294967296)(hu:u.toNat<y.toNat):(u.toNat*4294967296+x7.toNat)/y.toNat<4294967296:=by
 rw[Nat.div_lt_iff_lt_mul (by omega)];have:(u.toNat+1)*4294967296≤y.toNat*4294967296:=Nat.mul_le_mul_right _ hu;omega
theorem dcond {q r:UInt64}(h1:2147483648≤x4.toNat∧x4.toNat<4294967296)(h0:x5.toNat<4294967296)(hd:x7.toNat<4294967296)(hy:y.toNat=x4.toNat*4294967296+x5.toNat)(hu:u.toNat<y.toNat)
  (hq:q.toNat*x4.toNat+r.toNat=u.toNat) (hr:r.toNat<4294967296):
  (((decide ((q.toNat:Int)≥4294967296))||(decide (((q*x5).toNat:Int)>(((4294967296*r)+x7).toNat:Int))))=true↔(u.toNat*4294967296+x7.toNat)/y.toNat<q.toNat):=by
 have hlt:=dq_lt hd hu;have e1:((4294967296*r)+x7).toNat=4294967296*r.toNat+x7.toNat:=by
  rw[UInt64.toNat_add,UInt64.toNat_mul,show(4294967296:UInt64).toNat=4294967296 from rfl]; omega
 rw[AiD,Ah4,Ah4,e1];by_cases hb:4294967296≤q.toNat
 ·constructor
  ·intro _; omega
  ·intro _; left; omega
 ·have hB:q.toNat*x5.toNat≤4294967295*4294967295:=Nat.mul_le_mul (by omega) (by omega);have e2:(q*x5).toNat=q.toNat*x5.toNat:=by rw[UInt64.toNat_mul]; omega
  have e3:q.toNat*y.toNat=q.toNat*x4.toNat*4294967296+q.toNat*x5.toNat:=by rw[hy,Nat.mul_add,Nat.mul_assoc]
  rw[e2,Nat.div_lt_iff_lt_mul (by omega),e3];generalize q.toNat*x4.toNat=A at*;generalize q.toNat*x5.toNat=B at*;omega
theorem dstep {q r:UInt64}(h1:2147483648≤x4.toNat∧x4.toNat<4294967296)(h0:x5.toNat<4294967296)(hd:x7.toNat<4294967296)(hy:y.toNat=x4.toNat*4294967296+x5.toNat)(hu:u.toNat<y.toNat)
  (hq:q.toNat*x4.toNat+r.toNat=u.toNat) (hr:r.toNat<4294967296) (hq2:q.toNat≤4294967297) (hc:(u.toNat*4294967296+x7.toNat)/y.toNat<q.toNat):
  (q-1).toNat=q.toNat-1∧(r+x4).toNat=r.toNat+x4.toNat∧(q-1).toNat*x4.toNat+(r+x4).toNat=u.toNat∧(u.toNat*4294967296+x7.toNat)/y.toNat≤(q-1).toNat∧
  (4294967296≤(r+x4).toNat→(q-1).toNat=(u.toNat*4294967296+x7.toNat)/y.toNat):=by
 have q1:1≤q.toNat:=AiP (Nat.zero_le _) hc;have e1:(q-1).toNat=q.toNat-1:=by rw[UInt64.toNat_sub_of_le _ _ (by rw[UInt64.le_iff_toNat_le]; exact q1)]; rfl
 have e2:(r+x4).toNat=r.toNat+x4.toNat:=by rw[UInt64.toNat_add]; omega
 have e3:(q.toNat-1)*x4.toNat+x4.toNat=q.toNat*x4.toNat:=by
  rw[←Nat.succ_mul]; congr 1; omega
 refine⟨e1,e2,by rw[e1,e2,Nat.add_comm r.toNat,←AiY,e3,hq],by rw[e1]; exact Nat.le_sub_one_of_lt hc,fun hb=> ?_⟩;rw[e2]at hb;refine Nat.le_antisymm ?_ (by rw[e1]; exact Nat.le_sub_one_of_lt hc);rw[e1,Nat.le_div_iff_mul_le (AiP (Nat.zero_le _) hu)];clear hc e1 e2;have hB:(q.toNat-1)*x5.toNat≤4294967296*4294967295:=Nat.mul_le_mul (by omega) (by omega);have e4:(q.toNat-1)*y.toNat=(q.toNat-1)*x4.toNat*4294967296+(q.toNat-1)*x5.toNat:=by rw[hy,Nat.mul_add,Nat.mul_assoc]
 rw[e4];generalize (q.toNat-1)*x4.toNat=A at*;generalize (q.toNat-1)*x5.toNat=B at*;generalize q.toNat*x4.toNat=C at*;omega
theorem dloop1 (h1:2147483648≤x4.toNat∧x4.toNat<4294967296)(h0:x5.toNat<4294967296)(hd:x7.toNat<4294967296)(hy:y.toNat=x4.toNat*4294967296+x5.toNat)(hu:u.toNat<y.toNat):
  ∀(n:Nat) (q r:UInt64),q.toNat*x4.toNat+r.toNat=u.toNat→r.toNat<4294967296→q.toNat≤4294967297→(u.toNat*4294967296+x7.toNat)/y.toNat≤q.toNat→4294967296≤r.toNat+n*2147483648→
   ∃p,iter (Fx x4 x5 x7) (n+1) (q,r)=some p∧p.toNat=(u.toNat*4294967296+x7.toNat)/y.toNat:=by
 intro n;induction n with
 |zero=>intro q r _ hr _ _ hn; omega
 |succ n ih=>
  intro q r hq hr hq2 hle hn;have hc:=dcond h1 h0 hd hy hu hq hr;by_cases hcc:(u.toNat*4294967296+x7.toNat)/y.toNat<q.toNat
  ·obtain⟨s1,s2,s3,s4,s5⟩:=dstep h1 h0 hd hy hu hq hr hq2 hcc;by_cases hb:4294967296≤(r+x4).toNat
   ·refine⟨q-1,E4 ?_,s5 hb⟩;unfold Fx;rw[AhZ (hc.2 hcc),AhZ (by rw[Ah4]; dsimp only; omega)]
   ·obtain⟨p,p1,p2⟩:=ih (q-1) (r+x4) s3 (by omega) (by omega) s4 (by omega);refine⟨p,?_,p2⟩;rw[D4 (s':=(q-1,r+x4)),p1];unfold Fx;rw[AhZ (hc.2 hcc),AhX (by rw[Ah4]; dsimp only; omega)]
  ·refine⟨q,E4 ?_,by omega⟩;unfold Fx;rw[AhX (fun h=>hcc (hc.1 h))]
theorem dloop2 (h1:2147483648≤x4.toNat∧x4.toNat<4294967296)(h0:x5.toNat<4294967296)(hd:x7.toNat<4294967296)(hy:y.toNat=x4.toNat*4294967296+x5.toNat)(hu:u.toNat<y.toNat):
  ∀(n:Nat) (q r:UInt64),q.toNat*x4.toNat+r.toNat=u.toNat→r.toNat<4294967296→q.toNat≤4294967297→(u.toNat*4294967296+x7.toNat)/y.toNat≤q.toNat→4294967296≤r.toNat+n*2147483648→
   ∃p,iter (Fw x4 x5 x7) (n+1) (r,q)=some p∧p.toNat=(u.toNat*4294967296+x7.toNat)/y.toNat:=by
 intro n;induction n with
 |zero=>intro q r _ hr _ _ hn; omega
 |succ n ih=>
  intro q r hq hr hq2 hle hn;have hc:=dcond h1 h0 hd hy hu hq hr;by_cases hcc:(u.toNat*4294967296+x7.toNat)/y.toNat<q.toNat
  ·obtain⟨s1,s2,s3,s4,s5⟩:=dstep h1 h0 hd hy hu hq hr hq2 hcc;by_cases hb:4294967296≤(r+x4).toNat
   ·refine⟨q-1,E4 ?_,s5 hb⟩;unfold Fw;rw[AhZ (hc.2 hcc),AhZ (by rw[Ah4]; dsimp only; omega)]
   ·obtain⟨p,p1,p2⟩:=ih (q-1) (r+x4) s3 (by omega) (by omega) s4 (by omega);refine⟨p,?_,p2⟩;rw[D4 (s':=(r+x4,q-1)),p1];unfold Fw;rw[AhZ (hc.2 hcc),AhX (by rw[Ah4]; dsimp only; omega)]
  ·refine⟨q,E4 ?_,by omega⟩;unfold Fw;rw[AhX (fun h=>hcc (hc.1 h))]
theorem Afi (h1:2147483648≤x4.toNat∧x4.toNat<4294967296)(h0:x5.toNat<4294967296)(hd:x7.toNat<4294967296)(hy:y.toNat=x4.toNat*4294967296+x5.toNat)(hu:u.toNat<y.toNat):
  (u/x4).toNat*x4.toNat+(u-(u/x4)*x4).toNat=u.toNat∧(u-(u/x4)*x4).toNat<4294967296∧(u/x4).toNat≤4294967297∧(u.toNat*4294967296+x7.toNat)/y.toNat≤(u/x4).toNat:=by
 have e1:(u/x4).toNat=u.toNat/x4.toNat:=UInt64.toNat_div _ _;have hmul:u.toNat/x4.toNat*x4.toNat≤u.toNat:=Nat.div_mul_le_self _ _;have hul:=u.toNat_lt;have e2:((u/x4)*x4).toNat=u.toNat/x4.toNat*x4.toNat:=by rw[UInt64.toNat_mul,e1]; omega
 have e3:(u-(u/x4)*x4).toNat=u.toNat-u.toNat/x4.toNat*x4.toNat:=by
  rw[UInt64.toNat_sub_of_le _ _ (by rw[UInt64.le_iff_toNat_le,e2]; exact hmul),e2]
 have e4:u.toNat-u.toNat/x4.toNat*x4.toNat=u.toNat%x4.toNat:=by
  have:=Nat.div_add_mod' u.toNat x4.toNat; omega
 have e5:=Nat.mod_lt u.toNat (show 0<x4.toNat by omega);refine⟨by rw[e1,e3]; omega,by rw[e3,e4]; omega,?_,?_⟩
 ·rw[e1];have:u.toNat/x4.toNat<4294967298:=by
   rw[Nat.div_lt_iff_lt_mul (by omega)];omega
  omega
 ·rw[e1,Nat.le_div_iff_mul_le (by omega)];have h2:(u.toNat*4294967296+x7.toNat)/y.toNat*y.toNat≤u.toNat*4294967296+x7.toNat:=Nat.div_mul_le_self _ _;generalize (u.toNat*4294967296+x7.toNat)/y.toNat=Q at*;have h3:Q*y.toNat=Q*x4.toNat*4294967296+Q*x5.toNat:=by rw[hy,Nat.mul_add,Nat.mul_assoc]
  rw[h3]at h2;generalize Q*x4.toNat=A at*;generalize Q*x5.toNat=B at*;omega
theorem drest {q:UInt64}(hu:u.toNat<y.toNat)(hq:q.toNat=(u.toNat*4294967296+x7.toNat)/y.toNat):(((u*4294967296)+x7)-(q*y)).toNat=(u.toNat*4294967296+x7.toNat)%y.toNat:=by
 have hyl:=y.toNat_lt;have hm:=Nat.mod_lt (u.toNat*4294967296+x7.toNat) (show 0<y.toNat by omega);have hdm:=Nat.div_add_mod' (u.toNat*4294967296+x7.toNat) y.toNat;rw[UInt64.toNat_sub,UInt64.toNat_add,UInt64.toNat_mul,UInt64.toNat_mul,hq,show(4294967296:UInt64).toNat=4294967296 from rfl];generalize (u.toNat*4294967296+x7.toNat)/y.toNat*y.toNat=Z at*;omega
end
theorem PR {x:UInt64}{k:Nat}(hk:k≤63):(K9 x k).toNat=(x.toNat*2^k)%18446744073709551616:=by
 unfold K9;rw[Nat.min_eq_left (by omega),show(x.toNat:Int)*2^k=((x.toNat*2^k:Nat):Int)from by simp];unfold toU;rw[UInt64.toNat_ofNat'];generalize x.toNat*2^k=z;omega
theorem or_nat {a b k:Nat}(h:b<2^k):a*2^k|||b=a*2^k+b:=by
 rw[Nat.mul_comm]; exact(Nat.two_pow_add_eq_or_of_lt h a).symm
theorem XT {hi lo y0:UInt64}{s:Nat}(hs:s≤63)(hlz:CP y0=some (s:Int))(hn1:9223372036854775808≤y0.toNat*2^s)(hn2:y0.toNat*2^s<18446744073709551616)(hh:hi.toNat<y0.toNat):
  ∃q r,H5 hi lo y0=some (q,r)∧r.toNat=(hi.toNat*18446744073709551616+lo.toNat)%y0.toNat:=by
 have hyne:y0≠0:=fun e=>by rw[e]at hh; simp at hh
 unfold H5;rw[AhX (by rw[AiG]; omega),Aa,AhX (by rw[Ah4]; omega),Aa];by_cases hz:hi.toNat=0
 ·rw[AhZ (by rw[AiG]; omega),AhZ hyne,AhZ hyne];refine⟨_,_,rfl,?_⟩;rw[UInt64.toNat_mod,hz]; simp
 ·have hts:(toU (s:Int)).toNat=s:=UJ (by omega);have h64:(64-toU (s:Int)).toNat=64-s:=by
   rw[UInt64.toNat_sub_of_le _ _ (by rw[UInt64.le_iff_toNat_le,hts]; show s≤64; omega),hts]; rfl
  rw[AhX (by rw[AiG]; omega),hlz,Aa,hts,h64];simp only[Cr];have hps:0<2^s:=Nat.two_pow_pos s;have hpp:2^s*2^ (64-s)=18446744073709551616:=by rw[←Nat.pow_add,show s+(64-s)=64 from by omega]
  have hY:(K9 y0 s).toNat=y0.toNat*2^s:=by rw[PR (by omega)]; exact AiJ hn2
  have hlo:=lo.toNat_lt;have hlod:lo.toNat/2^ (64-s)<2^s:=by rw[Nat.div_lt_iff_lt_mul (Nat.two_pow_pos _),hpp]; omega
  have hhs:hi.toNat*2^s+2^s≤y0.toNat*2^s:=by rw[←Nat.succ_mul]; exact Nat.mul_le_mul_right _ hh
  have hU:((K9 hi s)|||(Ey lo (64-s))).toNat=hi.toNat*2^s+lo.toNat/2^ (64-s):=by
   rw[UInt64.toNat_or,PR (by omega),EE _ _ (by omega),AiJ (by omega),or_nat hlod]
  have hL:(K9 lo s).toNat=(lo.toNat*2^s)%18446744073709551616:=PR (by omega);have m32: ∀x:UInt64,(x&&&4294967295).toNat=x.toNat%4294967296:=fun x=>by
   rw[UInt64.toNat_and]; exact Nat.and_two_pow_sub_one_eq_mod _ 32
  have s32: ∀x:UInt64,(Ey x 32).toNat=x.toNat/4294967296:=fun x=>EE x 32 (by omega);have hlos:lo.toNat*2^s=lo.toNat/2^ (64-s)*18446744073709551616+(lo.toNat*2^s)%18446744073709551616:=by
   have e1:lo.toNat*2^s/18446744073709551616=lo.toNat/2^ (64-s):=by
    rw[←hpp,Nat.mul_comm,Nat.mul_div_mul_left _ _ hps]
   rw[←e1]; exact(Nat.div_add_mod' _ _).symm
  have hN:(hi.toNat*18446744073709551616+lo.toNat)*2^s=(hi.toNat*2^s+lo.toNat/2^ (64-s))*18446744073709551616+(lo.toNat*2^s)%18446744073709551616:=by
   rw[Nat.add_mul,hlos,Nat.add_mul,Nat.mul_right_comm];omega
  generalize hgy:K9 y0 s=y at*;generalize hgu:(K9 hi s)|||(Ey lo (64-s))=u at*;generalize hgl:K9 lo s=l at*;have hyl:=y.toNat_lt;have a1:2147483648≤(Ey y 32).toNat∧(Ey y 32).toNat<4294967296:=by rw[s32]; omega
  have a0:(y&&&4294967295).toNat<4294967296:=by rw[m32]; omega
  have ay:y.toNat=(Ey y 32).toNat*4294967296+(y&&&4294967295).toNat:=by rw[s32,m32]; omega
  have ad:(Ey l 32).toNat<4294967296:=by rw[s32]; have:=l.toNat_lt; omega
  have ae:(l&&&4294967295).toNat<4294967296:=by rw[m32]; omega
  have au:u.toNat<y.toNat:=by rw[hU,hY]; omega
  have hx4:Ey y 32≠0:=fun e=>by rw[e]at a1; simp at a1
  obtain⟨b1,b2,b3,b4⟩:=Afi a1 a0 ad ay au;obtain⟨q1,c1,c2⟩:=dloop1 a1 a0 ad ay au 2 _ _ b1 b2 b3 b4 (by omega);have hr1:=drest au c2;have hr1l:=Nat.mod_lt (u.toNat*4294967296+(Ey l 32).toNat) (show 0<y.toNat by omega);rw[AhZ hx4,KO _ c1 (by omega),Aa,Aa,AhZ hx4];generalize hgv:((u*4294967296)+(Ey l 32))-(q1*y)=v at*;have av:v.toNat<y.toNat:=by omega
  obtain⟨d1,d2,d3,d4⟩:=Afi a1 a0 ae ay av;obtain⟨q0,e1,e2⟩:=dloop2 a1 a0 ae ay av 2 _ _ d1 d2 d3 d4 (by omega);have hr0:=drest av e2;rw[KO _ e1 (by omega),Aa,Aa];refine⟨_,_,rfl,?_⟩;rw[EE _ _ (by omega),hr0,hr1];have f1:(((u.toNat*4294967296+(Ey l 32).toNat)%y.toNat)*4294967296+(l&&&4294967295).toNat)%y.toNat=((hi.toNat*18446744073709551616+lo.toNat)*2^s)%y.toNat:=by
   rw[Nat.add_mod,Nat.mod_mul_mod,←Nat.add_mod,hN,←hU,←hL,s32,m32];have e9:(u.toNat*4294967296+l.toNat/4294967296)*4294967296+l.toNat%4294967296=u.toNat*18446744073709551616+l.toNat:=by omega
   rw[e9]
  rw[f1,hY,Nat.mul_mod_mul_right,Nat.mul_div_cancel _ hps]
abbrev GQ:Nat:=2305843009213691579
abbrev GR:Nat:=1152921504606845789
def Dv (y:UInt64):Prop:= ∃s:Nat,s≤63∧CP y=some (s:Int)∧9223372036854775808≤y.toNat*2^s∧y.toNat*2^s<18446744073709551616
theorem dvQ:Dv 2305843009213691579:=⟨3,by omega,by kernel_rfl,by decide,by decide⟩
theorem dvR:Dv 1152921504606845789:=⟨4,by omega,by kernel_rfl,by decide,by decide⟩
theorem Dv.pos {y:UInt64}(h:Dv y):0<y.toNat:=by
 obtain⟨s,_,_,h1,_⟩:=h;by_cases e:y.toNat=0
 ·rw[e]at h1; simp at h1
 ·omega
theorem rem_eq {y:UInt64}(h:Dv y)(hi lo:UInt64): ∃z,GL hi lo y=some z∧z.toNat=(hi.toNat*18446744073709551616+lo.toNat)%y.toNat:=by
 have hpos:=h.pos;obtain⟨s,h1,h2,h3,h4⟩:=h;have hyne:y≠0:=fun e=>by rw[e]at hpos; simp at hpos
 have hm:(hi%y).toNat=hi.toNat%y.toNat:=UInt64.toNat_mod _ _;obtain⟨q,r,e1,e2⟩:=XT (hi:=hi%y) (lo:=lo) h1 h2 h3 h4 (by rw[hm]; exact Nat.mod_lt _ hpos);refine⟨r,?_,?_⟩
 ·unfold GL;rw[AhZ hyne,e1,Aa]
 ·rw[e2,hm,Nat.add_mod,Nat.mod_mul_mod,←Nat.add_mod]
def ofN (n:Nat):UInt64:=UInt64.ofNat n
theorem Wh {n:Nat}(h:n<18446744073709551616):(ofN n).toNat=n:=by
 unfold ofN; rw[UInt64.toNat_ofNat']; exact AiJ h
theorem Wi (n:Nat){y:UInt64}(h:0<y.toNat):(ofN (n%y.toNat)).toNat=n%y.toNat:=Wh (AiV (Nat.mod_lt _ h) (Nat.le_of_lt y.toNat_lt))
theorem AaC {z:UInt64}{n:Nat}(h:z.toNat=n):z=ofN n:=by
 rw[←h]; exact u_ext (Wh z.toNat_lt).symm
def YH (y a b:UInt64):UInt64:=ofN ((a.toNat*b.toNat)%y.toNat)
theorem Xw {y:UInt64}(h:Dv y)(a b:UInt64):(YH y a b).toNat=(a.toNat*b.toNat)%y.toNat:=Wi _ h.pos
theorem OD {y:UInt64}(h:Dv y)(a b:UInt64):CE y a b=some (YH y a b):=by
 obtain⟨z,e1,e2⟩:=rem_eq h (phi a b) (a*b);unfold CE;rw[TH,Aa,e1,Aa];rw[Aaq,UInt64.toNat_mul,Nat.div_add_mod']at e2;rw[AaC e2]; rfl
theorem AbS (a b:UInt64):(JJ a b).toNat*18446744073709551616+(a+b).toNat=a.toNat+b.toNat:=by
 have:=a.toNat_lt;have:=b.toNat_lt;unfold JJ;rw[UInt64.toNat_ofNat',UInt64.toNat_add];omega
theorem Agu {P d r c sm t:Nat}(hP:d*18446744073709551616+r=P)(hr:r<18446744073709551616)(hd:d<2305843009213693952)(hc:c*18446744073709551616+sm=r+t)(ht:t<18446744073709551616):
  ((d+c)%18446744073709551616)*18446744073709551616+sm=P+t:=by
 have h1:c≤1:=by omega
 rw[AiJ (show d+c<18446744073709551616 by omega),Nat.add_mul,←hP,AiY,hc,AiY]
def numM (s:UInt64×UInt64)(y:UInt64):UInt64:=ofN ((s.1.toNat*2305843009213693952+s.2.toNat)%y.toNat)
theorem Ac8 {y:UInt64}(h:Dv y)(s:UInt64×UInt64):(numM s y).toNat=(s.1.toNat*2305843009213693952+s.2.toNat)%y.toNat:=Wi _ h.pos
theorem AeQ {y:UInt64}(h:Dv y)(s:UInt64×UInt64):Hy s y=some (numM s y):=by
 have hpos:=h.pos;have hyne:y≠0:=fun e=>by rw[e]at hpos; simp at hpos
 obtain⟨t,h1,h2,h3,h4⟩:=h;have hp:(phi s.1 2305843009213693952).toNat=s.1.toNat*2305843009213693952/18446744073709551616:=Aaq _ _;have hl:(s.1*2305843009213693952).toNat=s.1.toNat*2305843009213693952%18446744073709551616:=UInt64.toNat_mul _ _;have hs1:=s.1.toNat_lt;have hs2:=s.2.toNat_lt;have hc:=AbS (s.1*2305843009213693952) s.2;have hsum:(phi s.1 2305843009213693952+JJ (s.1*2305843009213693952) s.2).toNat*18446744073709551616+(s.1*2305843009213693952+s.2).toNat=s.1.toNat*2305843009213693952+s.2.toNat:=by
  rw[UInt64.toNat_add,hp];rw[hl]at hc;have hdl:s.1.toNat*2305843009213693952/18446744073709551616<2305843009213693952:=by
   rw[Nat.div_lt_iff_lt_mul (by decide),Nat.mul_comm (2305843009213693952)];exact Nat.mul_lt_mul_of_pos_right hs1 (by decide)
  exact Agu (Nat.div_add_mod' _ _) (Nat.mod_lt _ (by decide)) hdl hc hs2
 have hm:((phi s.1 2305843009213693952+JJ (s.1*2305843009213693952) s.2)%y).toNat=(phi s.1 2305843009213693952+JJ (s.1*2305843009213693952) s.2).toNat%y.toNat:=UInt64.toNat_mod _ _;obtain⟨q,r,e1,e2⟩:=XT (hi:=(phi s.1 2305843009213693952+JJ (s.1*2305843009213693952) s.2)%y) (lo:=s.1*2305843009213693952+s.2) h1 h2 h3 h4 (by rw[hm]; exact Nat.mod_lt _ hpos);unfold Hy;rw[AhX (by rw[AiG]; omega),TH,Aa,AhZ hyne];dsimp only;rw[e1,Aa];rw[hm,Nat.add_mod,Nat.mod_mul_mod,←Nat.add_mod,hsum]at e2;rw[AaC e2]; rfl
theorem AcF:((List.range 256).all fun n=>decide (n<2^ (str_0.data.toList.getD n 0).toNat)&&decide ((str_0.data.toList.getD n 0).toNat≤8))=true:=by kernel_rfl
theorem AcE:str_0.data.toList.length=256:=by kernel_rfl
theorem tabL (x:UInt64)(hx:x.toNat<256): ∃b,idx str_0.data.toList ((toB (x.toNat:Int)).toNat:Int)=some b∧x.toNat<2^b.toNat∧b.toNat≤8:=by
 have hb:(toB (x.toNat:Int)).toNat=x.toNat:=by unfold toB; rw[UInt8.toNat_ofNat']; omega
 have h:=Aif.1 AcF x.toNat (List.mem_range.2 hx);rw[AhT,Ah4,Ah4]at h;have hlt:x.toNat<str_0.data.toList.length:=by rw[AcE]; exact hx
 rw[List.getD_eq_getElem?_getD,Ain hlt,Option.getD_some]at h;rw[hb];exact⟨str_0.data.toList[x.toNat],CW (by simp),h.1,h.2⟩
theorem Adq (a:UInt64): ∃L:Nat,Fv a=some (L:Int)∧a.toNat<2^L∧L≤64:=by
 have ha:=a.toNat_lt;have h1: ∃(x:UInt64) (n:Nat),(if(decide ((a.toNat:Int)≥4294967296))=true then some ((Ey a 32),(32:Int))else some (a,0))=some (x,(n:Int))∧n≤32∧x.toNat<4294967296∧a.toNat<(x.toNat+1)*2^n:=by
  split
  ·refine⟨Ey a 32,32,rfl,by omega,?_,?_⟩<;>rw[EE a 32 (by omega)]<;>omega
  ·rename_i h; rw[Ah4]at h; exact⟨a,0,rfl,by omega,by omega,by omega⟩
 obtain⟨x,n,e1,n1,hx,hn⟩:=h1;have h2: ∃(y:UInt64) (k:Nat),(if(decide ((x.toNat:Int)≥65536))=true then some ((Ey x 16),(w64 ((n:Int)+16)))else some (x,(n:Int)))=some (y,(k:Int))∧k≤48∧y.toNat<65536∧a.toNat<(y.toNat+1)*2^k:=by
  split
  ·refine⟨Ey x 16,n+16,by rw[BZ (by omega) (by omega)]; rfl,by omega,?_,?_⟩
   ·rw[EE x 16 (by omega)]; omega
   ·rw[EE x 16 (by omega),Nat.pow_add];refine AiV hn ?_;have:x.toNat+1≤(x.toNat/2^16+1)*2^16:=by omega
    calc (x.toNat+1)*2^n≤((x.toNat/2^16+1)*2^16)*2^n:=Nat.mul_le_mul_right _ this
     _=(x.toNat/2^16+1)*(2^n*2^16):=by rw[Nat.mul_assoc,Nat.mul_comm (2^16)]
  ·rename_i h; rw[Ah4]at h; exact⟨x,n,rfl,by omega,by omega,hn⟩
 obtain⟨y,k,e2,k1,hy,hk⟩:=h2;have h3: ∃(z:UInt64) (j:Nat),(if(decide ((y.toNat:Int)≥256))=true then some ((Ey y 8),(w64 ((k:Int)+8)))else some (y,(k:Int)))=some (z,(j:Int))∧j≤56∧z.toNat<256∧a.toNat<(z.toNat+1)*2^j:=by
  split
  ·refine⟨Ey y 8,k+8,by rw[BZ (by omega) (by omega)]; rfl,by omega,?_,?_⟩
   ·rw[EE y 8 (by omega)]; omega
   ·rw[EE y 8 (by omega),Nat.pow_add];refine AiV hk ?_;have:y.toNat+1≤(y.toNat/2^8+1)*2^8:=by omega
    calc (y.toNat+1)*2^k≤((y.toNat/2^8+1)*2^8)*2^k:=Nat.mul_le_mul_right _ this
     _=(y.toNat/2^8+1)*(2^k*2^8):=by rw[Nat.mul_assoc,Nat.mul_comm (2^8)]
  ·rename_i h; rw[Ah4]at h; exact⟨y,k,rfl,by omega,by omega,hk⟩
 obtain⟨z,j,e3,j1,hz,hj⟩:=h3;obtain⟨b,e4,b1,b2⟩:=tabL z hz;refine⟨j+b.toNat,?_,?_,by omega⟩
 ·unfold Fv;rw[e1,Aa];dsimp only;rw[e2,Aa];dsimp only;rw[e3,Aa,e4,Aa,Cr,BZ (n:=(b.toNat:Int)) (by omega) (by omega),BZ (by omega) (by omega)]; rfl
 ·refine AiV hj ?_;rw[Nat.add_comm j,Nat.pow_add];exact Nat.mul_le_mul_right _ b1
def Wd (y a n:UInt64):UInt64:=ofN (a.toNat^n.toNat%y.toNat)
theorem Ac2 {y:UInt64}(h:Dv y)(a n:UInt64):(Wd y a n).toNat=a.toNat^n.toNat%y.toNat:=Wi _ h.pos
theorem AhQ (n j:Nat):n&&&2^j=(n.testBit j).toNat*2^j:=by
 apply Nat.eq_of_testBit_eq;intro i;rw[Nat.testBit_and,Nat.testBit_two_pow];by_cases h:j=i
 ·subst h;cases hb:n.testBit j<;>simp[hb,Nat.testBit_two_pow_self]
 ·cases hb:n.testBit j<;>simp[h,Nat.testBit_two_pow]
theorem bit_eq (n:UInt64){j:Nat}(hj:j≤63):(((n&&&(K9 1 j)).toNat:Int) !=0)=decide (n.toNat/2^j%2=1):=by
 have h1:(K9 1 j).toNat=2^j:=by
  rw[PR hj,show(1:UInt64).toNat=1 from rfl,Nat.one_mul];exact AiJ (AiP (Nat.pow_le_pow_right (by omega) hj) (by decide))
 have h2:(n&&&(K9 1 j)).toNat=(n.toNat.testBit j).toNat*2^j:=by rw[UInt64.toNat_and,h1,AhQ]
 rw[h2];have hp:=Nat.two_pow_pos j;rw[Nat.testBit_eq_decide_div_mod_eq];by_cases hb:n.toNat/2^j%2=1
 ·simp only[hb,decide_true,Bool.toNat_true,Nat.one_mul];rw[bne_iff_ne]; omega
 ·simp only[hb,decide_false,Bool.toNat_false,Nat.zero_mul]; rfl
theorem pow_it (a n:UInt64): ∀(j:Nat) (out:UInt64),j≤64→out.toNat=a.toNat^ (n.toNat/2^j)% (2305843009213691579:UInt64).toNat→
  ∃r,iter (CX (fun(s:UInt64) (b0:Bool)=>Ab (CB a b0 s) fun z=>some (true,z)) n) (j+1) ((j:Int)-1,out)=some (.inl r)∧r.toNat=a.toNat^n.toNat% (2305843009213691579:UInt64).toNat:=by
 have h:=dvQ;unfold CB;generalize (2305843009213691579:UInt64)=y at*;intro j;induction j with
 |zero=>
  intro out _ ho;refine⟨out,E4 ?_,by rw[ho]; simp⟩;unfold CX;rw[AhX (by simp)]
 |succ j ih=>
  intro out hj ho;have hw:w64 ((((j+1:Nat):Int)-1)-1)=(j:Int)-1:=by rw[BZ (by omega) (by omega)]; omega
  have hk:(((j+1:Nat):Int)-1).toNat=j:=by omega
  have hbit:=bit_eq n (j:=j) (by omega);have hdiv:n.toNat/2^ (j+1)=n.toNat/2^j/2:=by rw[Nat.pow_succ,Nat.div_div_eq_div_mul]
  have hsq:(YH y out out).toNat=a.toNat^ (2*(n.toNat/2^ (j+1)))%y.toNat:=by
   rw[Xw h,ho,←Nat.mul_mod,←Nat.pow_add,←Nat.two_mul]
  by_cases hb:n.toNat/2^j%2=1
  ·have hn:(YH y (YH y out out) a).toNat=a.toNat^ (n.toNat/2^j)%y.toNat:=by
    rw[Xw h,hsq,Nat.mod_mul_mod,←Nat.pow_succ];congr 2; omega
   obtain⟨r,r1,r2⟩:=ih (YH y (YH y out out) a) (by omega) hn;refine⟨r,?_,r2⟩;rw[D4 (s':=((j:Int)-1,YH y (YH y out out) a)),r1];unfold CX;dsimp only;rw[AhZ (by rw[Ah4]; omega),AhZ (by omega),hk,hbit];simp only[OD h,Aa,hb,decide_true,if_true,AiQ,Bool.false_eq_true,if_false,hw]
  ·have hn:(YH y out out).toNat=a.toNat^ (n.toNat/2^j)%y.toNat:=by
    rw[hsq]; congr 2; omega
   obtain⟨r,r1,r2⟩:=ih (YH y out out) (by omega) hn;refine⟨r,?_,r2⟩;rw[D4 (s':=((j:Int)-1,YH y out out)),r1];unfold CX;dsimp only;rw[AhZ (by rw[Ah4]; omega),AhZ (by omega),hk,hbit];simp only[OD h,Aa,hb,decide_false,AiQ,Bool.false_eq_true,if_false,hw]
theorem Xm (a n:UInt64):Ec a n=some (Wd 2305843009213691579 a n):=by
 unfold Ec;obtain⟨L,e1,e2,e3⟩:=Adq n;have hw:w64 ((L:Int)-1)=(L:Int)-1:=BZ (by omega) (by omega);obtain⟨r,r1,r2⟩:=pow_it a n L 1 e3 (by rw[Nat.div_eq_of_lt e2]; simp);have r1':=KO _ r1 (by omega);unfold En HB;rw[show I2 n=some n from rfl,Aa,e1,Aa,hw,r1',Aa];simp only[Aa];rw[AaC r2]; rfl
theorem AhO (n:UInt64):Eo n=some (Wd 2305843009213691579 4 n):=by
 unfold Eo;rw[Xm,Aa]
theorem AhB: ∀(n:Nat) (a l:Int),0≤a→a<2^n→∃r,iter Cg (n+1) (a,l)=some r∧0≤r.1∧r.1≤a:=by
 intro n;induction n with
 |zero=>
  intro a l h0 h1;have:a=0:=by have:(2:Int)^0=1:=rfl; omega
  subst this;refine⟨(0,l),E4 ?_,by simp,by simp⟩;simp only[Cg];rw[AhX (by simp)]
 |succ n ih=>
  intro a l h0 h1;by_cases hc:((Jm a 1==0)&&(a !=0))=true
  ·have h2:a/2<2^n:=by
    have:(2:Int)^ (n+1)=2*2^n:=by rw[Int.pow_succ]; omega
    omega
   obtain⟨r,hr,e1,e2⟩:=ih (a/2) (Bj l 1) (by omega) h2;refine⟨r,?_,e1,by omega⟩;rw[D4 (s':=(a/2,Bj l 1))]
   ·exact hr
   ·simp only[Cg,hc,if_true,shr1 h0]
  ·refine⟨(a,l),E4 ?_,h0,by simp⟩;simp only[Cg];rw[AhX hc]
theorem AhC (i:Int)(x:UInt64×UInt64)(s:Int×Int×UInt64×UInt64)(h0:0≤s.1)(h1:s.1≤256):
  ∃r,CU i x s=some r∧0≤r.1∧r.1≤256:=by
 obtain⟨a,l,u,v⟩:=s;simp only at h0 h1;unfold CU;by_cases hc:((Jm a 1==0)&&(a !=l))=true
 ·refine⟨(Bj a 1,Bj l 1,Agp (u,v) x),?_,by rw[shr1 h0]; simp; omega,by rw[shr1 h0]; simp; omega⟩;simp only[hc,if_true,Ia,Aaw,Aa]
 ·obtain⟨q,hq,q0,q1⟩:=AhB 9 a l h0 (by omega);have hq':=KO _ hq (by omega);refine⟨(Bj q.1 1,Bj q.2 1,Agp x (u,v)),?_,by rw[shr1 q0]; simp; omega,by rw[shr1 q0]; simp; omega⟩;simp only[Ib,Aaw,Aa,hq'];rw[AhX hc];rfl
theorem WJ: ∀(l:List (UInt64×UInt64)) (i:Int) (s:Int×Int×UInt64×UInt64),0≤s.1→s.1≤256→∃r,D5 CU l i s=some r:=by
 intro l;induction l with
 |nil=>intro i s _ _; exact⟨s,rfl⟩
 |cons x l ih=>
  intro i s h0 h1;obtain⟨r,hr,r0,r1⟩:=AhC i x s h0 h1;obtain⟨t,ht⟩:=ih (i+1) r r0 r1;exact⟨t,by simp only[D5,hr,Aa,ht]⟩
theorem YI (leaf:UInt64×UInt64)(a s:Int)(p:List (UInt64×UInt64))(root:UInt64×UInt64): ∃e,EG leaf a s p root=some e:=by
 unfold EG;split
 ·exact⟨1,rfl⟩
 ·rename_i hc;have hn:0≤a∧a<s∧s≤256:=by simp at hc; omega
  obtain⟨r,hr⟩:=ZE a s;rw[hr,Aa];split
  ·exact⟨80,rfl⟩
  ·obtain⟨t,ht⟩:=WJ p 0 (a,w64 (s-1),leaf.1,leaf.2) hn.1 (by show a≤256; omega);unfold Fi;rw[ht,Aa,Aa];split
   ·exact⟨71,rfl⟩
   ·exact⟨0,rfl⟩
theorem Aen:((List.range 8193).all fun n=>Jm (n:Int) 7==((n%8:Nat):Int))=true:=by kernel_rfl
theorem and7 {n:Nat}(h:n≤8192):Jm (n:Int) 7=((n%8:Nat):Int):=by
 have:=Aif.1 Aen n (List.mem_range.2 (by omega));simpa using this
theorem shr3 {n:Nat}:Bj (n:Int) 3=((n/8:Nat):Int):=by
 show(n:Int).fdiv (2^ (min 3 64))=_;rw[Int.fdiv_eq_ediv_of_nonneg _ (by decide)]; rfl
theorem Ahq:((List.range 1024).all fun n=>match CP (ofN (8*(n+1)))with
 |some (.ofNat s)=>decide (s≤63)&&(decide (9223372036854775808≤8*(n+1)*2^s)&&decide (8*(n+1)*2^s<18446744073709551616))
 |_=>false)=true:=by kernel_rfl
theorem AaD {n:Nat}(h:n<18446744073709551616):(ofN n).toNat=n:=Wh h
theorem dv8 {n:Nat}(h:n<1024):Dv (ofN (8*(n+1))):=by
 have:=Aif.1 Ahq n (List.mem_range.2 h);split at this
 ·rename_i s hs;simp only[AhT,Ah4]at this;exact⟨s,this.1,hs,by rw[AaD (by omega)]; exact this.2.1,by rw[AaD (by omega)]; exact this.2.2⟩
 ·cases this
structure SvOk (s:g_api_Sieve):Prop where
 m: ∃m:Nat,1≤m∧m≤1024∧s.Bits=((8*m:Nat):Int)∧s.B.length=m
 h1:1≤s.Hashes
 h2:s.Hashes≤8
theorem UX (n:Int):C1 n=some (decide (0≤n)&&decide (n≤1099511627776)):=rfl
theorem UP (s:g_api_Sieve): ∃e,G4 s=some e∧(e=0→SvOk s):=by
 unfold G4;by_cases h1:s.Bits<8
 ·refine⟨1,?_,fun h=>by cases h⟩;rw[AhZ (Aim h1),Aa,AhZ (Aim h1)]
 rw[AhX (show¬(decide (s.Bits<8)=true)from by simpa using h1)];by_cases h2:s.Bits>8192
 ·refine⟨1,?_,fun h=>by cases h⟩;rw[AhZ (Aim h2),Aa,AhZ (Aim h2)]
 rw[AhX (show¬(decide (s.Bits>8192)=true)from by simpa using h2),Aa];obtain⟨n,hn⟩: ∃n:Nat,s.Bits=(n:Int):=⟨s.Bits.toNat,by omega⟩;by_cases h3:(Jm s.Bits 7 !=0)=true
 ·exact⟨1,AhZ h3,fun h=>by cases h⟩
 rw[AhX h3];have h3':n%8=0:=by
  rw[hn,and7 (by omega)]at h3;simp at h3; omega
 by_cases h4:s.Hashes<1
 ·refine⟨1,?_,fun h=>by cases h⟩;rw[AhZ (Aim h4),Aa,AhZ (Aim h4)]
 rw[AhX (show¬(decide (s.Hashes<1)=true)from by simpa using h4)];by_cases h5:s.Hashes>8
 ·refine⟨1,?_,fun h=>by cases h⟩;rw[AhZ (Aim h5),Aa,AhZ (Aim h5)]
 rw[AhX (show¬(decide (s.Hashes>8)=true)from by simpa using h5),UX,Aa];cases hr:(decide (0≤s.Salt)&&decide (s.Salt≤1099511627776))with
 |false=>exact⟨1,rfl,fun h=>by cases h⟩
 |true=>
  rw[AhX (by decide),Cr,Aa];by_cases h6:((s.B.length:Int) !=Bj s.Bits 3)=true
  ·exact⟨1,AhZ h6,fun h=>by cases h⟩
  ·refine⟨0,AhX h6,fun _=>⟨⟨n/8,by omega,by omega,by rw[hn]; omega,?_⟩,by omega,by omega⟩⟩;rw[hn,shr3]at h6;simp at h6; omega
theorem R9 (a:Int): ∀(k i:Nat) (s:List UInt8),i+k=8→s.length=8→∃r,CR (D3 a) k (i:Int) s=some r∧r.length=8
 |0,i,s,_,h=>⟨s,rfl,h⟩
 |k+1,i,s,hi,h=>by
  have e1:w64 (8*(i:Int))=((8*i:Nat):Int):=by rw[BZ (by omega) (by omega)]; omega
  have e2:w64 (56-((8*i:Nat):Int))=((56-8*i:Nat):Int):=by rw[BZ (by omega) (by omega)]; omega
  obtain⟨r,h1,h2⟩:=R9 a k (i+1) (s.set i (toB (Bj a (56-8*i)))) (by omega) (by rw[List.length_set]; exact h);refine⟨r,?_,h2⟩;show Ab (D3 a (i:Int) s) _=_;unfold D3;rw[e1,e2,AhZ (by omega),CW (Ain (show i<s.length by omega)),Aa,Cr,Aa];exact h1
theorem XB (a:Int): ∃r,D9 a=some r∧r.length=8:=by
 obtain⟨r,h1,h2⟩:=R9 a 8 0 (List.replicate 8 (0:UInt8)) rfl rfl;refine⟨r,?_,h2⟩;unfold D9;rw[show CR (D3 a) ((List.replicate 8 (0:UInt8)).length) 0 (List.replicate 8 (0:UInt8))=some r from h1];rfl
theorem Acz {n:Nat}(h:n<18446744073709551616):toU (n:Int)=ofN n:=by
 unfold toU ofN;congr 1; omega
theorem YC {σ:Type}{p0:σ→(Int×UInt8)→Option (Bool×σ)}{k0:g_api_Sieve}{k1 k2:List UInt8}(hk:SvOk k0)(h1:k1.length=8)(h2:k2.length=8)(I:σ→Prop)(T:σ→Prop)
  (hp: ∀s (at_:Nat) bit,I s→at_<k0.B.length→∃q s',p0 s ((at_:Int),bit)=some (q,s')∧(q=true→I s')∧(q=false→T s')) (s0:σ) (h0:I s0):
  ∃r,Gn p0 k0 k1 k2 s0=some r∧(I r.2.2.2∨T r.2.2.2):=by
 obtain⟨m,m1,m2,hb,hB⟩:=hk.m;have hh1:=hk.h1;have hh2:=hk.h2;obtain⟨r,hr,hT⟩:=Aa3 (step:=GD p0 k0 k1 k2) (T:=fun r=>match r with| .inl s=>I s| .inr r=>T r.2.2.2) (fun i s=>s.1=(i:Int)∧(i:Int)≤k0.Hashes∧I s.2) 8 (by decide) (s0:=(0,s0)) ⟨rfl,by show(0:Int)≤_; omega,h0⟩ (by
  rintro i ⟨j,s⟩ hi ⟨hj,hle,hI⟩;simp only at hj hI;subst hj;unfold GD;by_cases hc:(i:Int)<k0.Hashes
  ·rw[AhZ (Aim hc),NG _ _ (by simp[Aci,h1,h2]),Aa,hb,Acz (by omega)];obtain⟨n,rfl⟩: ∃n,m=n+1:=⟨m-1,by omega⟩;have hd:=dv8 (n:=n) (by omega);rw[AeQ hd,Aa];have hx:(numM (AcY ⟨#[115,105,101,118,101]⟩ [k1,[toB (i:Int)],k2]) (ofN (8*(n+1)))).toNat<8*(n+1):=by
    rw[Ac8 hd,AaD (by omega)]; exact Nat.mod_lt _ (by omega)
   generalize numM (AcY ⟨#[115,105,101,118,101]⟩ [k1,[toB (i:Int)],k2]) (ofN (8*(n+1)))=x at*;have ew:w64 (x.toNat:Int)=(x.toNat:Int):=BZ (by omega) (by omega);rw[ew,and7 (by omega),AhZ (by omega),shr3];obtain⟨q,s',e1,e2,e3⟩:=hp s (x.toNat/8) (Acb 1 (((x.toNat%8:Nat):Int).toNat)) hI (by omega);rw[e1,Aa];cases q with
   |false=>exact .inl ⟨_,rfl,e3 rfl⟩
   |true=>
    refine .inr ⟨by omega,(((i+1:Nat):Int),s'),?_,rfl,by show((i+1:Nat):Int)≤_; omega,e2 rfl⟩;dsimp only;rw[AhX (by decide),Acv (by omega)]
  ·rw[AhX (by simpa using hc)];exact .inl ⟨_,rfl,hI⟩)
 unfold Gn;rw[hr,Aa];cases r with
 |inl s=>exact⟨_,rfl,.inl hT⟩
 |inr r=>exact⟨_,rfl,.inr hT⟩
theorem Ag1 (s:g_api_Sieve)(n:Int): ∃b,Hw s n=some b:=by
 obtain⟨e,he,hok⟩:=UP s;unfold Hw;rw[he,Aa];by_cases h0:e=0
 ·subst h0;rw[show gu (!((0:Int) !=0)) (C1 n)=C1 n from rfl,UX,Aa];split
  ·exact⟨false,rfl⟩
  ·obtain⟨a,ha,la⟩:=XB s.Salt;obtain⟨b,hb,lb⟩:=XB n;unfold JO;rw[ha,Aa,hb,Aa,Aa];obtain⟨r,hr,_⟩:=YC (p0:=fun(s_1:Unit×Nat) (b0:Int×UInt8)=>if s_1.2=0 then Ab (Gc s b0 s_1) fun y=>some (y.2==0,y)else none) (hok rfl) la lb (fun z=>z.2=0) (fun _=>True) (fun z at_ bit hz hat=>by
    have hx:s.B[at_]? =some s.B[at_]:=Ain hat;unfold Gc;rw[AhZ hz,CW hx,Aa];split
    ·exact⟨_,_,rfl,(fun h=>absurd h (by decide)),(fun _=>trivial)⟩
    ·exact⟨_,_,rfl,(fun _=>rfl),(fun _=>trivial)⟩) ((),0) rfl
   dsimp only;rw[hr,Aa];split
   ·exact⟨true,rfl⟩
   ·exact⟨false,rfl⟩
 ·have h1:(e !=0)=true:=by simpa using h0
  rw[h1,show gu (!true) (C1 n)=some default from rfl,Aa,Bool.true_or,AhZ rfl];exact⟨false,rfl⟩
theorem AcL (d l:Int): ∃x,HO d l=some x:=⟨_,rfl⟩
theorem LR {α:Type} [Inhabited α](c:Bool){o:Option α}(h: ∃x,o=some x): ∃y,gu c o=some y:=by
 obtain⟨x,rfl⟩:=h;cases c<;>exact⟨_,rfl⟩
theorem Sc (c:g_api_Cascade): ∀(k i:Nat),i+k=c.Levels.length→∃r,BU (DJ c) k (i:Int) ()=some r
 |0,i,_=>⟨_,rfl⟩
 |k+1,i,hi=>by
  obtain⟨x,hx⟩: ∃x,c.Levels[i]? =some x:=⟨_,Ain (by omega)⟩;show∃r,Ab (DJ c (i:Int) ()) _=_;unfold DJ;rw[CW hx,Aa];obtain⟨a,ha⟩:=LR (!(x.Hashes !=3)) (AcL c.Day (i:Int));rw[ha,Aa];obtain⟨e,he,_⟩:=UP x;obtain⟨b,hb⟩:=LR (!((x.Hashes !=3)||(x.Salt !=a))) ⟨e,he⟩;rw[hb,Aa];split
  ·exact⟨_,rfl⟩
  ·exact Sc c k (i+1) (by omega)
theorem OR (c:g_api_Cascade): ∃e,CO c=some e:=by
 unfold CO;split
 ·exact⟨_,rfl⟩
 ·obtain⟨b,hb⟩: ∃b,Hf c.Day=some b:=⟨_,rfl⟩;rw[hb,Aa];split
  ·exact⟨_,rfl⟩
  ·obtain⟨r,hr⟩:=Sc c c.Levels.length 0 (by omega);rw[show BU (DJ c) c.Levels.length 0 ()=some r from hr,Aa];cases r<;>exact⟨_,rfl⟩
theorem X3 (l:List g_api_Sieve)(n:Int): ∀(k i:Nat) (s:Int),i+k=l.length→∃r,BU (AH l) k (i:Int) s=some r
 |0,i,s,_=>⟨_,rfl⟩
 |k+1,i,s,hi=>by
  obtain⟨x,hx⟩: ∃x,l[i]? =some x:=⟨_,Ain (by omega)⟩;obtain⟨b,hb⟩:=Ag1 x s;show∃r,Ab (AH l (i:Int) s) _=_;unfold AH I7;rw[CW hx,Aa,hb,Aa,Aa];cases b with
  |false=>exact⟨_,rfl⟩
  |true=>exact X3 l n k (i+1) s (by omega)
theorem X2 (c:g_api_Cascade)(n:Int): ∃b,m_cascade_Has c n=some b:=by
 obtain⟨e,he⟩:=OR c;unfold m_cascade_Has;rw[he,Aa];split
 ·exact⟨_,rfl⟩
 ·obtain⟨r,hr⟩:=X3 c.Levels n c.Levels.length 0 n (by omega);unfold By;rw[show BU (AH c.Levels) c.Levels.length 0 n=some r from hr,Aa];cases r with
  |inr r=>
   rw[Aa];by_cases h:decide (r.1<0)=true
   ·rw[AhZ h]; exact⟨_,rfl⟩
   ·rw[AhX h]; exact⟨_,rfl⟩
  |inl y=>exact⟨_,rfl⟩
def sgn (a b:Int):Int:=if a<b then-1 else if b<a then 1 else 0
theorem YX (a b:Int):C6 a b=some (sgn a b):=by
 unfold C6 Hc sgn;by_cases h1:a<b
 ·simp[Ab,bnd,h1]
 ·by_cases h2:b<a
  ·simp[Ab,bnd,h1,h2]
  ·simp[Ab,bnd,h1,h2]
abbrev S8:Type:=Bool×Int×Int×UInt64×UInt64×Int×UInt64×UInt64
def later (x h:g_api_Head):Prop:=h.Size<x.Size∨(h.Size=x.Size∧h.At<x.At)
def XI (a b:Int):Int:=if a=0 then b else a
theorem Agf (a b c d:Int):JB [a,b,c,d]=some (XI a (XI b (XI c d))):=by
 unfold JB LN XI;by_cases h1:a=0
 ·by_cases h2:b=0
  ·by_cases h3:c=0
   ·by_cases h4:d=0<;>simp[Et,Fo,Ab,h1,h2,h3,h4]
   ·simp[Et,Fo,Ab,h1,h2,h3]
  ·simp[Et,Fo,Ab,h1,h2]
 ·simp[Et,Fo,Ab,h1]
theorem T5 (a b:UInt64):DU a b=some (sgn (a.toNat:Int) (b.toNat:Int)):=by
 unfold DU E3 sgn;by_cases h1:(a.toNat:Int)<(b.toNat:Int)
 ·simp only[Ab,bnd,bne_self_eq_false,Bool.false_eq_true,if_false,h1,decide_true,if_true]
 ·by_cases h2:(b.toNat:Int)<(a.toNat:Int)
  ·simp only[Ab,bnd,bne_self_eq_false,Bool.false_eq_true,if_false,h1,h2,decide_true,decide_false,gt_iff_lt,if_true]
  ·simp only[Ab,bnd,bne_self_eq_false,Bool.false_eq_true,if_false,h1,h2,decide_true,decide_false,gt_iff_lt,if_true]
theorem YW (a b c d:UInt64):B1 [a,b] [c,d]=some (XI (sgn (a.toNat:Int) (c.toNat:Int)) (sgn (b.toNat:Int) (d.toNat:Int))):=by
 have i0:idx [a,b] (0:Int)=some a:=rfl;have i1:idx [a,b] (1:Int)=some b:=rfl;have j0:idx [c,d] (0:Int)=some c:=rfl;have j1:idx [c,d] (1:Int)=some d:=rfl;unfold B1 XI;by_cases h1:sgn (a.toNat:Int) (c.toNat:Int)=0
 ·by_cases h2:sgn (b.toNat:Int) (d.toNat:Int)=0
  ·simp[BU,BI,i0,i1,j0,j1,T5,Ab,h1,h2]
  ·simp[BU,BI,i0,i1,j0,j1,T5,Ab,h1,h2]
 ·simp[BU,BI,i0,i1,j0,j1,T5,Ab,h1]
def TA (a b:g_api_Head):Int:=XI (sgn a.Log b.Log) (XI (sgn a.Size b.Size) (XI (XI (sgn (a.Root.1.toNat:Int) (b.Root.1.toNat:Int)) (sgn (a.Root.2.toNat:Int) (b.Root.2.toNat:Int))) (sgn a.At b.At)))
theorem Y5 (a b:g_api_Head):DH a b=some (TA a b):=by
 simp only[DH,YX,YW,Aa,Agf,TA]
theorem Ty (a b:g_api_Head):EH a b=some (TA a b):=by
 simp only[EH,Y5,Aa]
theorem AdT {a b:Int}:XI a b<0↔a<0∨(a=0∧b<0):=by unfold XI; split<;>omega
theorem Vm {a b:Int}:XI a b=0↔a=0∧b=0:=by unfold XI; split<;>omega
theorem AfU {a b:Int}:sgn a b<0↔a<b:=by unfold sgn; split<;>(try split)<;>omega
theorem W8 {a b:Int}:sgn a b=0↔a=b:=by unfold sgn; split<;>(try split)<;>omega
def ltH (a b:g_api_Head):Prop:=a.Log<b.Log∨(a.Log=b.Log∧(a.Size<b.Size∨(a.Size=b.Size∧(((a.Root.1.toNat:Int)<(b.Root.1.toNat:Int)∨((a.Root.1.toNat:Int)=(b.Root.1.toNat:Int)∧(a.Root.2.toNat:Int)<(b.Root.2.toNat:Int)))∨(((a.Root.1.toNat:Int)=(b.Root.1.toNat:Int)∧(a.Root.2.toNat:Int)=(b.Root.2.toNat:Int))∧a.At<b.At)))))
def eqH (a b:g_api_Head):Prop:=a.Log=b.Log∧a.Size=b.Size∧((a.Root.1.toNat:Int)=(b.Root.1.toNat:Int)∧(a.Root.2.toNat:Int)=(b.Root.2.toNat:Int))∧a.At=b.At
theorem Mf {a b:g_api_Head}:TA a b<0↔ltH a b:=by unfold TA ltH; simp only[AdT,Vm,AfU,W8]
theorem QD {a b:g_api_Head}:TA a b=0↔eqH a b:=by unfold TA eqH; simp only[Vm,W8]
theorem QM {a b c:g_api_Head}(h:ltH a b)(k:ltH b c):ltH a c:=by unfold ltH at*; omega
theorem AgE (a b:g_api_Head):ltH a b∨eqH a b∨ltH b a:=by unfold ltH eqH; omega
theorem Ad4 (a:g_api_Head):eqH a a:=⟨rfl,rfl,⟨rfl,rfl⟩,rfl⟩
theorem ltH_eq {a b c:g_api_Head}(h:ltH a b)(k:eqH b c):ltH a c:=by unfold ltH eqH at*; omega
theorem QU {α:Type}{l:List α}{i:Nat}(h:i<l.length):idx l (i:Int)=some l[i]:=CW (Ain h)
theorem Acw {i n:Nat}(h:i<n)(hn:n≤1099511627776):w64 ((i:Int)+1)=((i+1:Nat):Int):=by rw[BZ (by omega) (by omega)]; omega
def chB:List g_api_Head→Bool
 |a::b::l=>decide (TA a b<0)&&chB (b::l)
 |_=>true
theorem AfJ {i n:Nat}(h:i<n)(h1:1≤i)(hn:n≤1099511627776):w64 ((i:Int)-1)=((i-1:Nat):Int):=by rw[BZ (by omega) (by omega)]; omega
theorem drop2 {l:List g_api_Head}{i:Nat}(h1:1≤i)(h:i<l.length):l.drop (i-1)=l[i-1]::l[i]::l.drop (i+1):=by
 rw[List.drop_eq_getElem_cons (show i-1<l.length by omega)];congr 1;rw[show i-1+1=i from by omega,List.drop_eq_getElem_cons h]
theorem Aeg {l:List g_api_Head}{i:Nat}(h1:1≤i)(h:i<l.length):chB (l.drop (i-1))=(decide (TA l[i-1] l[i]<0)&&chB (l.drop i)):=by
 rw[drop2 h1 h,chB,List.drop_eq_getElem_cons h]
theorem AhF {l:List g_api_Head}{i:Nat}(h:l.length≤i):chB (l.drop (i-1))=true:=by
 have hl:(l.drop (i-1)).length≤1:=by rw[Aix]; omega
 match hd:l.drop (i-1),hl with
 | [],_=>rfl
 | [a],_=>rfl
 |a::b::l',hl=>simp at hl
theorem Xu {a0:g_api_Pool}(hn:a0.L.length≤1099511627776){i:Nat}(h1:1≤i)(hi:i<a0.L.length):CD a0 (i:Int) ()=some (if TA a0.L[i-1] a0.L[i]<0 then .inl ()else .inr false):=by
 unfold CD;have hp:decide ((i:Int)>0)=true:=by simp; omega
 rw[AfJ hi h1 hn,hp,QU (show i-1<a0.L.length by omega),QU hi];simp only[gu,cond_true,Aa,Ty,Aiw];by_cases h:TA a0.L[i-1] a0.L[i]<0
 ·rw[AhX (by simp; omega),AhZ h]
 ·rw[AhZ (by simp; omega),AhX h]
theorem Ac6 {a0:g_api_Pool}(hn:a0.L.length≤1099511627776): ∀(k i:Nat),1≤i→a0.L.length=i+k→
  BU (CD a0) k (i:Int) ()=some (if chB (a0.L.drop (i-1))=true then .inl ()else .inr false):=by
 intro k;induction k with
 |zero=>intro i h1 hk; rw[AhZ (AhF (by omega))]; rfl
 |succ k ih=>
  intro i h1 hk;have hi:i<a0.L.length:=by omega
  rw[Aeg h1 hi];by_cases h:TA a0.L[i-1] a0.L[i]<0
  ·simp only[BU,Xu hn h1 hi,AhZ h,Aa,h,decide_true,Aiw];have:=ih (i+1) (by omega) (by omega);rw[Nat.add_sub_cancel]at this;exact this
  ·simp only[BU,Xu hn h1 hi,AhX h,Aa,h,decide_false,Bool.false_and];rfl
theorem YF {a0:g_api_Pool}(hn:a0.L.length≤1099511627776):Gr a0=some (chB a0.L):=by
 unfold Gr;cases hl:a0.L.length with
 |zero=>
  have:a0.L=[]:=List.eq_nil_of_length_eq_zero hl;rw[this]; rfl
 |succ k=>
  have h0:CD a0 0 ()=some (.inl ()):=by
   unfold CD; simp[gu,Ab]
  simp only[BU,h0,Aa];have:=Ac6 hn k 1 (by omega) (by omega);rw[show((1:Nat):Int)=0+1 from rfl,show 1-1=0 from rfl,List.drop_zero]at this;rw[this];cases chB a0.L<;>rfl
theorem VW: ∀(l:List g_api_Head),chB l=true↔l.Pairwise ltH
 | []=>by simp[chB]
 | [a]=>by simp[chB]
 |a::b::l=>by
  rw[chB,AhT,Ah4,Mf,VW (b::l),List.pairwise_cons (a:=a)];constructor
  ·rintro⟨h,k⟩;refine⟨fun x hx=> ?_,k⟩;rcases Aio.1 hx with rfl|hx
   ·exact h
   ·exact QM h ((List.pairwise_cons.1 k).1 x hx)
  ·rintro⟨h,k⟩; exact⟨h b (by simp),k⟩
def hasH (l:List g_api_Head)(z:g_api_Head):Prop:= ∃x∈l,eqH x z
theorem AdF {l:List g_api_Head}{z:g_api_Head}(h:z∈l):hasH l z:=⟨z,h,Ad4 z⟩
def Ni:List g_api_Head→g_api_Head→List g_api_Head
 | [],h=> [h]
 |x::l,h=>if TA x h<0 then x::Ni l h else h::x::l
theorem Nh {h z:g_api_Head}: ∀{l:List g_api_Head},z∈Ni l h↔z=h∨z∈l
 | []=>by simp[Ni]
 |x::l=>by
  rw[Ni];split
  ·rw[Aio,Nh,Aio];constructor
   ·rintro(q|q|q)
    ·exact .inr (.inl q)
    ·exact .inl q
    ·exact .inr (.inr q)
   ·rintro(q|q|q)
    ·exact .inr (.inl q)
    ·exact .inl q
    ·exact .inr (.inr q)
  ·rw[Aio]
theorem WZ {h:g_api_Head}: ∀{l:List g_api_Head},l.Pairwise ltH→¬hasH l h→(Ni l h).Pairwise ltH
 | [],_,_=>by simp[Ni]
 |x::l,hl,hn=>by
  have hxl:=(List.pairwise_cons.1 hl).1;rw[Ni];split
  ·rename_i q;have q:=Mf.1 q;refine List.pairwise_cons.2 ⟨fun z hz=> ?_,WZ (List.pairwise_cons.1 hl).2 (fun⟨w,hw,he⟩=>hn ⟨w,Aig _ hw,he⟩)⟩;rcases Nh.1 hz with rfl|hz
   ·exact q
   ·exact hxl z hz
  ·rename_i q;have hhx:ltH h x:=by
    rcases AgE x h with r|r|r
    ·exact absurd (Mf.2 r) q
    ·exact absurd ⟨x,by simp,r⟩ hn
    ·exact r
   refine List.pairwise_cons.2 ⟨fun z hz=> ?_,hl⟩;rcases Aio.1 hz with rfl|hz
   ·exact hhx
   ·exact QM hhx (hxl z hz)
theorem PO (h:g_api_Head): ∀(l:List g_api_Head),(Ni l h).length=l.length+1
 | []=>rfl
 |x::l=>by rw[Ni]; split<;>simp[PO h l]
instance eqH_dec (a b:g_api_Head):Decidable (eqH a b):=by unfold eqH; infer_instance
def Ag3 (l:List g_api_Head)(z:g_api_Head):Bool:=l.any fun x=>decide (eqH x z)
theorem TV {l:List g_api_Head}{z:g_api_Head}:Ag3 l z=true↔hasH l z:=by simp[Ag3,hasH]
theorem appL {α:Type}{b:Nat}{xs ys:List α}(h:xs.length+ys.length≤2199023255552)(hb:b≤56):app b xs ys=some (xs++ys):=by
 unfold app;have:(xs.length+ys.length)*b≤2199023255552*56:=Nat.mul_le_mul h hb;rw[AhZ ⟨by omega,by omega⟩]
def K4 (h:g_api_Head):List g_api_Head→Nat
 | []=>0
 |x::l=>if TA x h<0 then K4 h l+1 else 0
theorem AbH (h:g_api_Head): ∀l:List g_api_Head,K4 h l≤l.length
 | []=>by simp[K4]
 |x::l=>by have:=AbH h l; unfold K4; split<;>simp<;>omega
theorem Afj {h:g_api_Head}: ∀{l:List g_api_Head} (hi:K4 h l<l.length),¬TA l[K4 h l] h<0
 | [],hi=>by simp at hi
 |x::l,hi=>by
  by_cases c:TA x h<0
  ·have e:K4 h (x::l)=K4 h l+1:=by rw[K4,AhZ c]
   have hi':K4 h l<l.length:=by rw[e]at hi; simpa using hi
   have:=Afj hi';simp only[e,List.getElem_cons_succ];exact this
  ·have e:K4 h (x::l)=0:=by rw[K4,AhX c]
   simp only[e,List.getElem_cons_zero];exact c
theorem RQ (h:g_api_Head): ∀l:List g_api_Head,Ni l h=l.take (K4 h l)++h::l.drop (K4 h l)
 | []=>rfl
 |x::l=>by
  unfold Ni K4;split
  ·rw[RQ h l]; simp
  ·simp
def fnd {α:Type}(p:α→Bool):List α→Nat→Option (Nat×α)
 | [],_=>none
 |x::xs,i=>if p x=true then some (i,x)else fnd p xs (i+1)
theorem XJ {α:Type}{p:α→Bool}: ∀{xs:List α} {i:Nat} {q:Nat×α},fnd p xs i=some q→∃k,q.1=i+k∧xs[k]? =some q.2∧p q.2=true
 | [],i,q,h=>by cases h
 |x::xs,i,q,h=>by
  unfold fnd at h;split at h
  ·rename_i c;cases h;exact⟨0,rfl,rfl,c⟩
  ·obtain⟨k,h1,h2,h3⟩:=XJ h;exact⟨k+1,by omega,by simpa using h2,h3⟩
theorem Ahr {α:Type}{l xs:List α}{x:α}{i:Nat}(h:l.drop i=x::xs): ∃hi:i<l.length,l[i]=x∧l.drop (i+1)=xs:=by
 have hi:i<l.length:=by
  apply Classical.byContradiction;intro q;rw[AiA (by omega)]at h;cases h
 rw[List.drop_eq_getElem_cons hi]at h;injection h with h1 h2;exact⟨hi,h1,h2⟩
theorem Vt {α σ τ:Type}{body:Int→σ→Option (σ⊕τ)}{s:σ}{l:List α}(p:α→Bool)(r:Nat→τ)(hs: ∀i (hi:i<l.length),body (i:Int) s=some (if p l[i]=true then .inr (r i)else .inl s)):
  ∀(xs:List α) (i:Nat),l.drop i=xs→BU body xs.length (i:Int) s=some (match fnd p xs i with|some q=> .inr (r q.1)|none=> .inl s)
 | [],i,_=>rfl
 |x::xs,i,h=>by
  obtain⟨hi,he,hd⟩:=Ahr h;have h1:=hs i hi;rw[he]at h1;unfold fnd;simp only[Ah1,BU,h1,Aa];by_cases c:p x=true
  ·simp only[AhZ c]
  ·simp only[AhX c];exact Vt p r hs xs (i+1) hd
def pk7 (h:g_api_Head):Int×Int×UInt64×UInt64×Int×UInt64×UInt64:=(h.Log,h.Size,h.Root.1,h.Root.2,h.At,h.Sig.E,h.Sig.S)
theorem AbJ {l:List g_api_Head}(h:l.length≤2199023255552):A7 l=some l:=by
 unfold A7;rw[appL (by simpa using h) (by decide),Aa,AiC]
theorem AgP {u v:Int}{q:Nat}(hs:0≤u∧v≤0∨u≤0∧0≤v):(u-(q:Int)*v).natAbs=u.natAbs+q*v.natAbs∧((q:Int)*v).natAbs=q*v.natAbs∧(0≤v∧u-(q:Int)*v≤0∨v≤0∧0≤u-(q:Int)*v):=by
 have hqv:((q:Int)*v).natAbs=q*v.natAbs:=by rw[Int.natAbs_mul,Int.natAbs_natCast]
 have h1:0≤v→0≤(q:Int)*v:=fun h=>Int.mul_nonneg (AiI q) h;have h2:v≤0→(q:Int)*v≤0:=fun h=>Int.mul_nonpos_of_nonneg_of_nonpos (AiI q) h;refine⟨?_,hqv,?_⟩
 ·rw[←hqv];generalize (q:Int)*v=z at*;omega
 ·generalize (q:Int)*v=z at*;omega
theorem inv_it (m:Nat)(a:Int)(hm2:m<2305843009213693952): ∀(n:Nat) (x y:UInt64) (u v:Int),y.toNat≤n→(∃k,u*a=x.toNat+k*m)→(∃k,v*a=y.toNat+k*m)→u.natAbs*y.toNat+v.natAbs*x.toNat=m→
  (0≤u∧v≤0∨u≤0∧0≤v)→x.toNat≤m→u.natAbs≤m→v.natAbs≤m→y.toNat≤m→
  ∃r:Int,iter Ch (n+1) (x,y,u,v)=some r∧(∃k,r*a=Nat.gcd x.toNat y.toNat+k*m)∧r.natAbs≤m:=by
 intro n;induction n with
 |zero=>
  intro x y u v hy hu hv hb hs hx hul hvl hyl;have hy0:y.toNat=0:=by omega
  refine⟨u,E4 ?_,by rw[hy0,Nat.gcd_zero_right]; exact hu,hul⟩;unfold Ch;rw[AhX (by simp[hy0])]
 |succ n ih=>
  intro x y u v hy hu hv hb hs hx hul hvl hyl;by_cases hy0:y.toNat=0
  ·refine⟨u,E4 ?_,by rw[hy0,Nat.gcd_zero_right]; exact hu,hul⟩;unfold Ch;rw[AhX (by simp[hy0])]
  ·have hyne:y≠0:=fun e=>hy0 (by rw[e]; rfl);have hdm:=Nat.div_add_mod' x.toNat y.toNat;have hmod:=Nat.mod_lt x.toNat (show 0<y.toNat by omega);have hql:x.toNat/y.toNat≤x.toNat:=Nat.div_le_self _ _;have hmul:x.toNat/y.toNat*y.toNat≤x.toNat:=Nat.div_mul_le_self _ _;have hxl:=x.toNat_lt;have hgcd:Nat.gcd x.toNat y.toNat=Nat.gcd y.toNat (x.toNat%y.toNat):=by rw[Nat.gcd_comm,Nat.gcd_rec,Nat.gcd_comm]
   have eq1:(x/y).toNat=x.toNat/y.toNat:=UInt64.toNat_div _ _;have eq2:((x/y)*y).toNat=x.toNat/y.toNat*y.toNat:=by rw[UInt64.toNat_mul,eq1]; exact AiJ (AiP hmul hxl)
   have eq3:(x-(x/y)*y).toNat=x.toNat%y.toNat:=by
    rw[UInt64.toNat_sub_of_le _ _ (by rw[UInt64.le_iff_toNat_le,eq2]; exact hmul),eq2];omega
   generalize hq:x.toNat/y.toNat=q at*;generalize hr:x.toNat%y.toNat=r at*;obtain⟨habs,hqv,hs'⟩:=AgP (q:=q) hs;have hbal:v.natAbs*r+(u-(q:Int)*v).natAbs*y.toNat=m:=by
    rw[habs,←hb,←hdm]; grind
   have hvm:(u-(q:Int)*v).natAbs≤m:=by
    have:(u-(q:Int)*v).natAbs*1≤(u-(q:Int)*v).natAbs*y.toNat:=Nat.mul_le_mul_left _ (by omega);omega
   have hqb:((q:Int)*v).natAbs≤m:=by omega
   have w1:w64 (q:Int)=(q:Int):=BZ (by omega) (by omega);have w2:w64 ((q:Int)*v)=(q:Int)*v:=by
    generalize (q:Int)*v=z at*;exact BZ (by omega) (by omega)
   have w3:w64 (u-(q:Int)*v)=u-(q:Int)*v:=by
    generalize u-(q:Int)*v=z at*;exact BZ (by omega) (by omega)
   have hdmI:(q:Int)*(y.toNat:Int)+(r:Int)=(x.toNat:Int):=by exact_mod_cast hdm
   obtain⟨t,t1,t2,t3⟩:=ih y (x-(x/y)*y) v (u-(q:Int)*v) (by rw[eq3]; omega) hv (by
    obtain⟨k,hk⟩:=hu;obtain⟨l,hl⟩:=hv;refine⟨k-q*l,?_⟩;rw[eq3];grind) (by rw[eq3]; exact hbal) (by omega) hyl hvl hvm (by rw[eq3]; omega)
   rw[eq3,←hgcd]at t2;refine⟨t,?_,t2,t3⟩;rw[D4 (s':=(y,x-(x/y)*y,v,u-(q:Int)*v)),t1];unfold Ch;dsimp only;rw[AhZ (by simp; omega),AhZ hyne,eq1,Cr,w1,w2,w3,Cr]
theorem inv_eq {a:UInt64}{b:Nat}(h:a.toNat*b%GQ=1): ∃z:UInt64,Fl a=some (z,0)∧z.toNat*a.toNat%GQ=1:=by
 have hm:(a%2305843009213691579).toNat=a.toNat%GQ:=UInt64.toNat_mod _ _;have hml:=Nat.mod_lt a.toNat (show 0<GQ by decide);have hne:a.toNat%GQ≠0:=fun e=>by
  rw[Nat.mul_mod,e,Nat.zero_mul,Nat.zero_mod]at h; cases h
 have hg:Nat.gcd (a.toNat%GQ) GQ=1:=by
  have d1:=Nat.gcd_dvd_left (a.toNat%GQ) GQ;have d2:=Nat.gcd_dvd_right (a.toNat%GQ) GQ;have h':a.toNat%GQ*b%GQ=1:=by rw[Nat.mod_mul_mod]; exact h
  have h2:=Nat.div_add_mod (a.toNat%GQ*b) GQ;rw[h']at h2;have d3:Nat.gcd (a.toNat%GQ) GQ ∣ GQ*(a.toNat%GQ*b/GQ)+1:=by rw[h2]; exact Nat.dvd_trans d1 (Nat.dvd_mul_right _ _)
  have d4:=(Nat.dvd_add_right (Nat.dvd_trans d2 (Nat.dvd_mul_right GQ (a.toNat%GQ*b/GQ)))).1 d3;exact Nat.dvd_one.1 d4
 obtain⟨r,r1,⟨k,r2⟩,r3⟩:=inv_it GQ (a.toNat%GQ:Nat) (by decide) GQ (a%2305843009213691579) 2305843009213691579 1 0 (by decide) ⟨0,by rw[hm]; simp⟩ ⟨-1,by
  rw[show(2305843009213691579:UInt64).toNat=GQ from rfl]; simp⟩ (by rw[show(2305843009213691579:UInt64).toNat=GQ from rfl]; simp) (by omega) (by rw[hm]; omega) (by decide) (by decide) (by decide)
 rw[hm,show(2305843009213691579:UInt64).toNat=GQ from rfl,hg]at r2;have r1':=KO _ r1 (by decide);have hw:w64 (((2305843009213691579:UInt64).toNat:Int))=(GQ:Int):=BZ (by decide) (by decide);have hz: ∃z:Nat,(if(decide (r<0))=true then bnd ((w64 (r+(w64 (((2305843009213691579:UInt64).toNat:Int)))))) fun x7=>some x7 else some r)=some (z:Int)∧z≤GQ∧∃l:Int,(z:Int)*(a.toNat%GQ:Nat)=1+l*GQ:=by
  simp only[GQ]at*;by_cases hneg:r<0
  ·rw[AhZ (by simpa using hneg),hw,Cr,BZ (by omega) (by omega)];obtain⟨z,hz⟩:=Int.eq_ofNat_of_zero_le (show 0≤r+2305843009213691579 by omega);refine⟨z,by rw[←hz]; rfl,by omega,k+(a.toNat%2305843009213691579:Nat),?_⟩;rw[←hz,Int.add_mul,r2];grind
  ·rw[AhX (by simpa using hneg)];obtain⟨z,hz⟩:=Int.eq_ofNat_of_zero_le (show 0≤r by omega);exact⟨z,by rw[hz],by omega,k,by rw[←hz]; exact r2⟩
 obtain⟨z,z1,z2,l,z3⟩:=hz;have hzn:(toU (z:Int)).toNat=z:=UJ (by simp only[GQ]at z2; omega);refine⟨toU (z:Int),?_,?_⟩
 ·unfold Fl DI;rw[AhZ (by decide),AhX (by rw[AiG,hm]; omega),r1',Aa,Aa,z1,Aa,Aa]
 ·rw[hzn,←Nat.mul_mod_mod];have:((z*(a.toNat%GQ):Nat):Int)=1+l*GQ:=by rw[Int.natCast_mul]; exact z3
  generalize z*(a.toNat%GQ)=w at*;simp only[GQ]at*;omega
theorem VA (n:UInt64):Fh n=some (Tx 8 n):=by
 unfold Fh;simp[CR,IS,idx,w64,Cr,Tx]
def pubK (k:UInt64):UInt64:=Wd 2305843009213691579 4 k
def chal (c p:UInt64)(msg:List UInt8):UInt64:=numM (AcY ⟨#[115,105,103,110]⟩ [Tx 8 c,Tx 8 p,msg]) 1152921504606845789
theorem AhE (c p:UInt64){msg:List UInt8}(h:msg.length≤600000):Dx c p msg=some (chal c p msg):=by
 unfold Dx;rw[VA,Aa,VA,Aa,NG _ _ (by simp[Aci,Kz]; omega),Aa,AeQ dvR,Aa]; rfl
def gr:Nat:=GR
theorem Xn (a n:UInt64):(Wd 2305843009213691579 a n).toNat=a.toNat^n.toNat%GQ:=Ac2 dvQ a n
theorem AgO {p e k:Nat}(hp:p^gr%GQ=1)(he:e≤gr):p^e%GQ*p^ (gr-e)%GQ=1:=by
 rw[Nat.mod_mul_mod,←Nat.pow_add,Nat.add_sub_cancel' he]; exact hp
theorem Abe {α:Type} [Inhabited α](o:Option α):gu true o=o:=rfl
def okBody (b:List UInt8):Bool:=decide (0<b.length)&&decide (b.length≤2048)
def Aaz (n:Int):Bool:=decide (0≤n)&&decide (n≤1099511627776)
theorem QE (n:Int):C3 n=some (Aaz n):=rfl
def okL:List g_api_Leaf→List (List UInt8)→Bool
 | [],_=>true
 |x::r,ks=>(okBody x.Body&&Aaz x.At&& !decide (x.Body∈ks))&&okL r (ks++[x.Body])
def okH:List Int→Int→Int→Bool
 | [],_,_=>true
 |x::r,last,n=>(!decide (x≤last)&& !decide (n≤x))&&okH r x n
def okHd (l:g_api_Log):Bool:=Aaz l.Id&& !decide (l.Key.toNat=0)&&decide (l.Key.toNat<1152921504606845789)&&decide (0≤l.Delay)&&decide (l.Delay≤1000)
def chk (l:g_api_Log):Int:=if okHd l=true then(if okL (l.L++l.Wait) []=true then(if okH l.Hide (-1) (l.L.length:Int)=true then(if 256<(l.L++l.Wait).length then 2 else 0)else 1)else 1)else 1
theorem AdM (n:Nat)(h:n≤1000000):Bf (n:Int)=some []:=by
 have hw:w64 ((n:Int)-(w64 (0-((0:Nat):Int))))=(n:Int):=by rw[BZ (n:=0-((0:Nat):Int)) (by omega) (by omega),BZ (by omega) (by omega)]; omega
 unfold Bf;rw[AhX (by rw[Ah4]; omega),Aa,hw,Cr];by_cases h0:n=0
 ·rw[AhX (by simp; omega),Aa]
 ·rw[AhZ (by simp; omega),AhZ (by omega),Aa]
theorem WG: ∀(xs:List (List UInt8)) (i:Int) (n:Nat),n+xs.flatten.length≤1000000→D5 Cj xs i (n:Int)=some ((n+xs.flatten.length:Nat):Int):=by
 intro xs;induction xs with
 |nil=>intro i n _; simp[D5]
 |cons x xs ih=>
  intro i n h;simp only[List.flatten_cons,Ah0]at h;have hw:w64 ((n:Int)+(x.length:Int))=((n+x.length:Nat):Int):=by rw[BZ (by omega) (by omega)]; omega
  have hb:Cj i x (n:Int)=some ((n+x.length:Nat):Int):=by
   unfold Cj;rw[Cr,hw,AhX (by rw[Ah4]; omega),Aa]
  simp only[D5,hb,Aa];rw[ih _ _ (by omega),List.flatten_cons,Ah0,AiY]
theorem WH: ∀(xs:List (List UInt8)) (i:Int) (s:List UInt8),s.length+xs.flatten.length≤1000000→D5 Ci xs i s=some (s++xs.flatten):=by
 intro xs;induction xs with
 |nil=>intro i s _; simp[D5]
 |cons x xs ih=>
  intro i s h;simp only[List.flatten_cons,Ah0]at h;have hb:Ci i x s=some (s++x):=by
   unfold Ci;rw[MC 1 (by omega) (by omega),Aa]
  simp only[D5,hb,Aa];rw[ih _ _ (by rw[Ah0]; omega),List.flatten_cons,Ah5]
theorem YU {xs:List (List UInt8)}(h:xs.flatten.length≤1000000):BE xs=some xs.flatten:=by
 have h1:=WG xs 0 0 (by omega);rw[show((0:Nat):Int)=0 from rfl,Air]at h1;unfold BE;rw[h1,Aa,Aa,AdM _ h,Aa,WH xs 0 [] (by simpa using h),Aa,Aa,AiC]
theorem AeU {w:ByteArray}{ps:List (List UInt8)}(hw:w.data.toList.length≤100)(h:ps.flatten.length≤100000):J7 w ps=some (w.data.toList++ps.flatten):=by
 unfold J7;have h0:([]:List UInt8).length=0:=rfl;rw[MC 1 (by omega) (by omega),Aa,YU (by omega),Aa,AiC,MC 1 (by omega) (by omega),Aa]
def e8 (n:Int):List UInt8:=[toB (Bj n 56),toB (Bj n 48),toB (Bj n 40),toB (Bj n 32),toB (Bj n 24),toB (Bj n 16),toB (Bj n 8),toB (Bj n 0)]
theorem LX (n:Int):DG n=some (e8 n):=by
 unfold DG;simp[CR,IW,idx,w64,Cr,e8]
def Ago (p:g_api_Promise):List UInt8:=[112,114,111,109,105,115,101]++[e8 p.Log,e8 p.At,O7 p.Leaf].flatten
def Ag0 (h:g_api_Head):List UInt8:=[104,101,97,100]++[e8 h.Log,e8 h.Size,O7 h.Root,e8 h.At].flatten
theorem XS (n:Int):(e8 n).length=8:=rfl
theorem U2 (p:g_api_Promise):Dy p=some (Ago p):=by
 unfold Dy;rw[LX,Aa,LX,Aa,Uc,Aa,AeU (by decide) (by simp[XS,J6]),Aa]; rfl
theorem AaE (h:g_api_Head):G8 h=some (Ag0 h):=by
 unfold G8;rw[LX,Aa,LX,Aa,Uc,Aa,LX,Aa,AeU (by decide) (by simp[XS,J6]),Aa]; rfl
theorem Aak (p:g_api_Promise):(Ago p).length≤600000:=by simp[Ago,XS,J6]
theorem Abd (h:g_api_Head):(Ag0 h).length≤600000:=by simp[Ag0,XS,J6]
theorem Ac0 (p z:UInt64){msg:List UInt8}(s:g_api_Sig)(hm:msg.length≤600000)(hz:Fl (Wd 2305843009213691579 p s.E)=some (z,0)):
  (Ab (Ec p s.E) fun x2=>Ab (Fl x2) fun x3=>Ab (gu (!(x3.2 !=0)) (Eo s.S)) fun x4=>Ab (gu (!(x3.2 !=0)) (JD x4 x3.1)) fun x5=>Ab (gu (!(x3.2 !=0)) (Dx x5 p msg)) fun x6=>
   if((x3.2 !=0)||((x6.toNat:Int) !=(s.E.toNat:Int)))=true then some (40:Int)else some 0)
   =if(((chal (YH 2305843009213691579 (pubK s.S) z) p msg).toNat:Int) !=(s.E.toNat:Int))=true then some 40 else some 0:=by
 have e1:((z,(0:Int)).2 !=0)=false:=rfl;unfold JD;rw[Xm,Aa,hz,Aa,e1,Bool.not_false,Abe,AhO,Aa,Abe,OD dvQ,Aa,Aa,Abe];dsimp only;rw[show Wd 2305843009213691579 4 s.S=pubK s.S from rfl,AhE _ _ hm,Aa,AiK]
theorem inv_of {p E:UInt64}(hpow:p.toNat^gr%GQ=1)(hE:E.toNat≤gr): ∃z:UInt64,Fl (Wd 2305843009213691579 p E)=some (z,0)∧z.toNat*(Wd 2305843009213691579 p E).toNat%GQ=1:=by
 have hinv:(Wd 2305843009213691579 p E).toNat*p.toNat^ (gr-E.toNat)%GQ=1:=by
  rw[Xn]; exact AgO (k:=0) hpow hE
 exact inv_eq hinv
theorem le_gr {E:UInt64}(hE:E.toNat<1152921504606845789):E.toNat≤gr:=Nat.le_of_lt hE
theorem max_ge {a b:UInt64}:decide (((Uk a b).toNat:Int)≥1152921504606845789)=(decide ((a.toNat:Int)≥1152921504606845789)||decide ((b.toNat:Int)≥1152921504606845789)):=by
 rw[AiM,AiD,Ah4,Ah4,Ah4];unfold Uk;split
 ·rename_i hlt;have:=UInt64.lt_iff_toNat_lt.1 hlt;omega
 ·rename_i hlt;have:=mt UInt64.lt_iff_toNat_lt.2 hlt;omega
theorem pow_one {p:UInt64}(h:((Wd 2305843009213691579 p 1152921504606845789).toNat:Int)=1):p.toNat^gr%GQ=1:=by
 have h1:=Xn p 1152921504606845789;rw[show(1152921504606845789:UInt64).toNat=gr from rfl]at h1;rw[←h1];exact Int.ofNat.inj h
theorem AhL {a b:UInt64}(h:(decide ((a.toNat:Int)≥1152921504606845789)||decide ((b.toNat:Int)≥1152921504606845789))=false):a.toNat<1152921504606845789:=by
 rw[Bool.or_eq_false_iff,decide_eq_false_iff_not]at h;have:=h.1;omega
theorem inP_eq (p:UInt64):Fm p=some (((decide ((p.toNat:Int)>0))&&(decide ((p.toNat:Int)<2305843009213691579)))&&(((Wd 2305843009213691579 p 1152921504606845789).toNat:Int)==1)):=by
 unfold Fm;cases (decide ((p.toNat:Int)>0))&&(decide ((p.toNat:Int)<2305843009213691579))
 ·simp only[gu,cond_false,Aa,Cr,Bool.false_and]
 ·simp only[gu,cond_true,Xm,Aa,Cr,Aiw]
theorem in_one {p:UInt64}(h:(((decide ((p.toNat:Int)>0))&&(decide ((p.toNat:Int)<2305843009213691579)))&&(((Wd 2305843009213691579 p 1152921504606845789).toNat:Int)==1))=true):((Wd 2305843009213691579 p 1152921504606845789).toNat:Int)=1:=by
 rw[AhT]at h;exact AiG.1 h.2
theorem Vx (p:UInt64){msg:List UInt8}(s:g_api_Sig)(hm:msg.length≤600000): ∃e,D8 p msg s=some e:=by
 unfold D8;rw[inP_eq,Aa,max_ge];cases h1:((decide ((p.toNat:Int)>0))&&(decide ((p.toNat:Int)<2305843009213691579)))&&(((Wd 2305843009213691579 p 1152921504606845789).toNat:Int)==1)with
 |false=>rw[Bool.not_false,AhZ rfl]; exact⟨_,rfl⟩
 |true=>
  rw[AiQ,AhX Bool.false_ne_true];cases h2:(decide ((s.E.toNat:Int)≥1152921504606845789)||decide ((s.S.toNat:Int)≥1152921504606845789))with
  |true=>rw[AhZ rfl]; exact⟨_,rfl⟩
  |false=>
   rw[AhX Bool.false_ne_true];obtain⟨z,z1,z2⟩:=inv_of (pow_one (in_one h1)) (le_gr (AhL h2));rw[Ac0 p z s hm z1];split<;>exact⟨_,rfl⟩
theorem Qq (k:g_api_Key)(log:Int)(ok:Bool){msg:List UInt8}(s:g_api_Sig)(hm:msg.length≤600000): ∃e,G7 k log ok msg s=some e:=by
 unfold G7;rw[QE,Aa];split
 ·exact⟨_,rfl⟩
 ·split
  ·exact⟨_,rfl⟩
  ·obtain⟨e,he⟩:=Vx k.Key s hm;rw[he,Aa];exact⟨_,rfl⟩
theorem YY (k:g_api_Key)(p:g_api_Head): ∃e,Dz k p=some e:=by
 unfold Dz;rw[QE,Aa,AaE,Aa];obtain⟨e,he⟩:=Qq k p.Log ((Aaz p.At&&(decide (p.Size≥0)))&&(decide (p.Size≤256))) p.Sig (Abd p);rw[he,Aa];exact⟨_,rfl⟩
def chd (k:g_api_Key)(h:g_api_Head):Int:=(Dz k h).getD 0
theorem chd_eq (k:g_api_Key)(h:g_api_Head):Dz k h=some (chd k h):=by
 obtain⟨e,he⟩:=YY k h;unfold chd;rw[he]; rfl
def LF (h:g_api_Head)(ks:List g_api_Key):Bool:=match fnd (fun k:g_api_Key=>k.Log==h.Log) ks 0 with|some q=>chd q.2 h==0|none=>false
theorem Aba (l:List g_api_Key)(k:g_api_Head):A3 l k=some ((match fnd (fun y:g_api_Key=>y.Log==k.Log) l 0 with|some q=>(q.1:Int)|none=> -1),k):=by
 have:=Vt (body:=BA l) (s:=pk7 k) (l:=l) (fun y:g_api_Key=>y.Log==k.Log) (fun i=>((i:Int),k)) (fun i hi=> ?_) l 0 rfl
 ·unfold A3;rw[show((0:Nat):Int)=0 from rfl]at this;rw[show(k.Log,k.Size,k.Root.1,k.Root.2,k.At,k.Sig.E,k.Sig.S)=pk7 k from rfl,this,Aa];cases fnd (fun y:g_api_Key=>y.Log==k.Log) l 0<;>rfl
 ·unfold BA Ie pk7;dsimp only;rw[QU hi,Aa,Aa];cases l[i].Log==k.Log<;>rfl
theorem Xi (h:g_api_Head)(ks:List g_api_Key):Gg h ks=some (LF h ks):=by
 unfold Gg LF;rw[Aba,Aa];cases hf:fnd (fun y:g_api_Key=>y.Log==h.Log) ks 0 with
 |none=>rfl
 |some q=>
  obtain⟨k,k1,k2,_⟩:=XJ hf;obtain⟨j,x⟩:=q;have hq:j=k:=by dsimp only at k1; omega
  subst hq;have hd:decide ((j:Int)≥0)=true:=by simp
  dsimp only at k2⊢;rw[hd,CW k2];simp only[gu,cond_true,Aa,chd_eq,Cr,Aiw]
def OE (l:List g_api_Head)(ks:List g_api_Key):Bool:=l.all fun h=>LF h ks
theorem UW (ks:List g_api_Key): ∀(xs:List g_api_Head) (i:Int),Et (FO ks) xs i ()=some (if OE xs ks=true then .inl ()else .inr 40)
 | [],i=>rfl
 |x::xs,i=>by
  have h1:FO ks i x ()=some (if LF x ks=true then .inl ()else .inr 40):=by
   unfold FO;rw[Xi,Aa];cases LF x ks<;>rfl
  unfold OE;by_cases c:LF x ks=true
  ·simp only[Et,h1,c,if_true,Aa,AiE,Aiw];exact UW ks xs (i+1)
  ·have c':LF x ks=false:=by simpa using c
   simp only[Et,h1,c',Bool.false_eq_true,if_false,Aa,AiE,Bool.false_and]
def F5 (l:List g_api_Head)(ks:List g_api_Key):Int:=if l.length>1024 then 2 else if chB l=true then(if OE l ks=true then 0 else 40)else 1
theorem N2 (p:g_api_Pool)(ks:List g_api_Key):Gh p ks=some (F5 p.L ks):=by
 unfold Gh F5;simp only[Cr];by_cases h:p.L.length>1024
 ·rw[AhZ (by simp; omega),AhZ h]
 ·rw[AhX (by simp; omega),AhX h,YF (by omega),Aa];cases chB p.L
  ·rfl
  ·simp only[AiQ,Bool.false_eq_true,if_false,if_true,UW,Aa];cases OE p.L ks<;>rfl
theorem T8 {l:List g_api_Head}{ks:List g_api_Key}:F5 l ks=0↔l.length≤1024∧l.Pairwise ltH∧∀h∈l,LF h ks=true:=by
 unfold F5;by_cases h:l.length>1024
 ·rw[AhZ h]; constructor
  ·intro q; cases q
  ·intro q; omega
 ·rw[AhX h];cases hc:chB l
  ·rw[AhX Bool.false_ne_true];constructor
   ·intro q; cases q
   ·intro q; rw[(VW l).2 q.2.1]at hc; cases hc
  ·rw[AhZ rfl];have hs:=(VW l).1 hc;cases hr:OE l ks
   ·rw[AhX Bool.false_ne_true];constructor
    ·intro q; cases q
    ·intro q;have:OE l ks=true:=Aif.2 q.2.2;rw[this]at hr; cases hr
   ·rw[AhZ rfl];exact⟨fun _=>⟨by omega,hs,Aif.1 hr⟩,fun _=>rfl⟩
theorem Tz {h:g_api_Head}: ∀{l:List g_api_Head},l.Pairwise ltH→∀i (hi:i<l.length),TA l[i] h<0↔i<K4 h l
 | [],_,i,hi=>by simp at hi
 |x::l,hl,i,hi=>by
  have hx:=(List.pairwise_cons.1 hl).1;unfold K4;cases i with
  |zero=>
   simp only[List.getElem_cons_zero];split
   ·exact⟨fun _=>by omega,fun _=>by assumption⟩
   ·exact⟨fun q=>absurd q (by assumption),fun q=>by omega⟩
  |succ i=>
   simp only[List.getElem_cons_succ];have hi':i<l.length:=by simpa using hi
   have ih:=Tz (List.pairwise_cons.1 hl).2 i hi' (h:=h);split
   ·rw[ih]; omega
   ·rename_i c;constructor
    ·intro q;exact absurd (Mf.2 (QM (hx _ (List.getElem_mem hi')) (Mf.1 q))) c
    ·intro q; omega
theorem AdI {i j:Nat}(h:i+j≤1099511627776):w64 ((Ey (toU (w64 ((i:Int)+(j:Int)))) 1).toNat:Int)=(((i+j)/2:Nat):Int):=by
 have h1:w64 ((i:Int)+(j:Int))=((i+j:Nat):Int):=by rw[BZ (by omega) (by omega)]; omega
 rw[h1];have h2:(toU ((i+j:Nat):Int)).toNat=i+j:=by
  have:=Zw ((i+j:Nat):Int);rw[Int.emod_eq_of_lt (by omega) (by omega)]at this;omega
 rw[EE _ _ (by decide),h2,Nat.pow_one,BZ (by omega) (by omega)]
theorem bs_it {l:List g_api_Head}{h:g_api_Head}(hl:l.Pairwise ltH)(hn:l.length≤500000000000): ∀(d i j n:Nat),j-i≤d→d<n→i≤K4 h l→K4 h l≤j→j≤l.length→
  iter (Ah l h) n ((i:Int),(j:Int))=some ((K4 h l:Nat):Int):=by
 intro d;induction d with
 |zero=>
  intro i j n hd hn' h1 h2 h3;obtain⟨n,rfl⟩: ∃q,n=q+1:=⟨n-1,by omega⟩;have hs:Ah l h ((i:Int),(j:Int))=some (.inr (i:Int)):=by
   unfold Ah; rw[AhX (by simp; omega)]
  simp only[iter,hs,Aa];rw[show i=K4 h l from by omega]
 |succ d ih=>
  intro i j n hd hn' h1 h2 h3;obtain⟨n,rfl⟩: ∃q,n=q+1:=⟨n-1,by omega⟩;by_cases hij:i<j
  ·have hm:(i+j)/2<l.length:=by omega
   have hs:Ah l h ((i:Int),(j:Int))=some (.inl (if(i+j)/2<K4 h l then((((i+j)/2+1:Nat):Int),(j:Int))else((i:Int),(((i+j)/2:Nat):Int)))):=by
    unfold Ah;dsimp only;rw[AhZ (by simpa using hij),AdI (by omega)];unfold bnd;dsimp only;rw[QU hm,Aa,Ty,Aa,Acw hm (by omega)];by_cases c:(i+j)/2<K4 h l
    ·rw[AhZ (by simpa using (Tz hl _ hm).2 c),AhZ c]
    ·rw[AhX (by simpa using fun q=>c ((Tz hl _ hm).1 q)),AhX c]
   simp only[iter,hs,Aa];by_cases c:(i+j)/2<K4 h l
   ·rw[AhZ c]; exact ih _ _ n (by omega) (by omega) (by omega) h2 h3
   ·rw[AhX c]; exact ih _ _ n (by omega) (by omega) h1 (by omega) (by omega)
  ·have hs:Ah l h ((i:Int),(j:Int))=some (.inr (i:Int)):=by
    unfold Ah; rw[AhX (by simp; omega)]
   simp only[iter,hs,Aa];rw[show i=K4 h l from by omega]
theorem Ag2 {l:List g_api_Head}{h:g_api_Head}(hl:l.Pairwise ltH):Ag3 l h=if hc:K4 h l<l.length then TA l[K4 h l] h==0 else false:=by
 rw[AiM,TV];constructor
 ·rintro⟨x,hx,he⟩;obtain⟨i,hi,hxi⟩:=List.mem_iff_getElem.1 hx;have h0:TA l[i] h=0:=QD.2 (hxi▸he);have hle: ¬i<K4 h l:=fun q=>by have:=(Tz hl i hi).2 q; omega
  have hc:K4 h l<l.length:=by omega
  rw[dif_pos hc];have:K4 h l=i:=by
   apply Classical.byContradiction;intro q;have hlt:K4 h l<i:=by omega
   have:=List.pairwise_iff_getElem.1 hl (K4 h l) i hc hi hlt;exact Afj hc (Mf.2 (ltH_eq this (QD.1 h0)))
  simp only[this,h0,beq_self_eq_true]
 ·intro q;split at q
  ·rename_i hc;exact⟨_,List.getElem_mem hc,QD.1 (by simpa using q)⟩
  ·cases q
theorem bs_eqG {l:List g_api_Head}{h:g_api_Head}(hl:l.Pairwise ltH)(hn:l.length≤500000000000):Ar l h=some (((K4 h l:Nat):Int),Ag3 l h):=by
 have hc:=AbH h l;have:=bs_it (h:=h) hl hn l.length 0 l.length FA (by omega) (by unfold FA; omega) (by omega) hc (AhY _);unfold Ar;rw[show((0:Nat):Int)=0 from rfl]at this;rw[this,Aa,Aa,Ag2 hl];by_cases c:K4 h l<l.length
 ·have hd:decide (((K4 h l:Nat):Int)<(l.length:Int))=true:=by simpa using c
  rw[hd,QU c,dif_pos c];simp only[gu,cond_true,Aa,Ty,Cr,Aiw]
 ·have hd:decide (((K4 h l:Nat):Int)<(l.length:Int))=false:=by simpa using c
  rw[hd,dif_neg c];simp only[gu,cond_false,Aa,Cr,Bool.false_and]
theorem Aa8 {l:List g_api_Head}{h:g_api_Head}(hn:l.length≤500000000000):AP l ((K4 h l:Nat):Int) [h]=some (Ni l h):=by
 have hc:=AbH h l;unfold AP;rw[AhZ ⟨by omega,by omega⟩,AhX (by simp),RQ];by_cases c:K4 h l=l.length
 ·rw[AhZ (by simp[c]),appL (by simp; omega) (by decide),Aa,c]; simp
 ·rw[AhX (by simp; omega),appL (by simp; omega) (by decide),Aa,AiN]; simp
def Ri (l:List g_api_Head)(h:g_api_Head)(ks:List g_api_Key):List g_api_Head×Int:=if F5 l ks=0 then(if LF h ks=true then(if Ag3 l h=true then(l,0)else if l.length<1024 then(Ni l h,0)else([],2))else([],40))else([],F5 l ks)
theorem Ag8 (p:g_api_Pool)(h:g_api_Head)(ks:List g_api_Key):JC p h ks=some (⟨(Ri p.L h ks).1⟩,(Ri p.L h ks).2):=by
 unfold JC Ri;rw[N2,Aa];by_cases hc:F5 p.L ks=0
 ·obtain⟨h1,h2,h3⟩:=T8.1 hc;rw[AhX (by simp[hc]),AhZ hc,Xi,Aa];cases LF h ks
  ·rfl
  ·simp only[AiQ,Bool.false_eq_true,if_false,if_true,bs_eqG h2 (show p.L.length≤500000000000 by omega),Aa];cases Ag3 p.L h
   ·simp only[Bool.false_eq_true,if_false,Cr];by_cases hl:p.L.length<1024
    ·rw[AhX (by simp; omega),AhZ hl,AbJ (by omega),Aa,Aa8 (by omega),Aa]
    ·rw[AhZ (by simp; omega),AhX hl]
   ·rfl
 ·rw[AhZ (by simpa using hc),AhX hc]
def Tot {α:Type}(x:Option α):Prop:= ∃r,x=some r
theorem tot {α:Type}(r:α):Tot (some r):=⟨r,rfl⟩
theorem CY {α β:Type}{x:Option α}{k:α→Option β}(h:Tot x)(hk: ∀a,x=some a→Tot (k a)):Tot (Ab x k):=by
 obtain⟨a,h⟩:=h;rw[h]; exact hk a h
theorem Qm {α:Type} [Inhabited α]{b:Bool}{x:Option α}(h:b=true→Tot x):Tot (gu b x):=by
 cases b with
 |true=>exact h rfl
 |false=>exact tot default
theorem Ql {α:Type}{b:Bool}{x y:Option α}(h1:b=true→Tot x)(h0:b=false→Tot y):Tot (if b=true then x else y):=by
 cases b with
 |true=>exact h1 rfl
 |false=>exact h0 rfl
theorem AfL {α:Type}{c:Prop} [Decidable c]{x y:Option α}(h1:c→Tot x)(h0: ¬c→Tot y):Tot (if c then x else y):=by
 split
 ·exact h1 ‹_›
 ·exact h0 ‹_›
theorem PW {σ τ:Type}{step:σ→Option (σ⊕τ)}(μ:σ→Nat)(I:σ→Prop)(Q:τ→Prop)
  (h: ∀s,I s→∃r,step s=some r∧(∀s',r= .inl s'→I s'∧μ s'<μ s)∧∀t,r= .inr t→Q t): ∀n s,I s→μ s<n→∃t,iter step n s=some t∧Q t
 |0,s,_,hn=>by omega
 |n+1,s,hI,hn=>by
  obtain⟨r,h1,h2,h3⟩:=h s hI;cases r with
  |inr t=>exact⟨t,by show Ab (step s) _=_; rw[h1]; rfl,h3 t rfl⟩
  |inl s'=>
   obtain⟨i',lt⟩:=h2 s' rfl;obtain⟨t,e,q⟩:=PW μ I Q h n s' i' (by omega);exact⟨t,by show Ab (step s) _=_; rw[h1]; exact e,q⟩
theorem Sq (s:ByteArray)(i:Nat):1≤(Utf8.decode s i).2:=by
 unfold Utf8.decode;simp only;repeat' split
 all_goals simp
theorem JK:9223372036854775808≤FA:=Ah7 rfl
theorem ZA (c:Int):KL c=some (decide (c≤32)||decide (c>126)):=rfl
theorem TT (s:ByteArray)(b:Bool)(hs:s.size<9223372036854775808):Tot (CT s b):=by
 unfold CT;refine CY ?_ fun a _=> ?_
 ·obtain⟨t,e,_⟩:=PW (step:=De s b) (fun i=>s.size-i) (fun _=>True) (fun _=>True) (fun i _=>by
   unfold De;by_cases hi:i<s.size
   ·rw[AhZ hi];simp only[bnd,ZA,Aa];split
    ·exact⟨_,rfl,fun s' h=>(by cases h),fun _ _=>trivial⟩
    ·refine⟨_,rfl,fun s' h=> ?_,fun _ _=>trivial⟩;cases h;have:=Sq s i;exact⟨trivial,by omega⟩
   ·rw[AhX hi];exact⟨_,rfl,fun s' h=>(by cases h),fun _ _=>trivial⟩) FA 0 trivial (by have:=JK; omega)
  exact⟨t,e⟩
 ·cases a with
  |inl _=>exact tot _
  |inr _=>exact tot _
theorem AcA (s:ByteArray):Tot (Er s):=by
 unfold Er;refine CY (Qm fun h=> ?_) fun a _=>tot _;simp only[AhT,Ah4]at h;unfold Df DZ;refine CY (CY (TT s true (by omega)) fun a _=>tot _) fun a _=>tot _
theorem Zy {s:ByteArray}{b:Bool}(h:Er s=some b):b=true→eqS s (⟨#[]⟩:ByteArray)=false∧s.size≤64:=by
 unfold Er at h;obtain⟨x,_,h⟩:=Af h;have h:=AhS (Aft h);intro hb;rw[hb]at h;simp only[AhT,Bool.not_eq_true',Ah4]at h;exact⟨h.1.1,by omega⟩
theorem TZ (c:Int):Tot (C4 c):=tot _
theorem Aa9 (c:Int):Tot (C2 c):=by
 unfold C2;exact CY (Qm fun _=>TZ c) fun a _=>tot _
theorem AaT (s:ByteArray):Tot (FK s):=by
 unfold FK;refine Ql (fun _=>tot _) fun h=> ?_;simp only[Bool.or_eq_false_iff,decide_eq_false_iff_not]at h;refine CY ?_ fun a _=> ?_
 ·obtain⟨t,e,_⟩:=PW (step:=A2 s) (fun i=>s.size-i) (fun _=>True) (fun _=>True) (fun i _=>by
   unfold A2;by_cases hi:i<s.size
   ·rw[AhZ hi];have hd:=Sq s i;obtain⟨x4,h4⟩:=Qm (b:=((i:Int)==(w64 ((s.size:Int)-1)))) fun _=>TZ ((Utf8.decode s i).1:Int);obtain⟨x7,h7⟩:=Qm (b:=((i:Int)==0)) fun _=>TZ ((Utf8.decode s i).1:Int);obtain⟨x9,h9⟩:=Qm (b:=(!((i:Int)==0))) fun _=>Aa9 ((Utf8.decode s i).1:Int);simp only[bnd,h4,h7,h9,Aa];split
    ·exact⟨_,rfl,fun s' h=>(by cases h; exact⟨trivial,by omega⟩),fun _ _=>trivial⟩
    ·split
     ·exact⟨_,rfl,fun s' h=>(by cases h),fun _ _=>trivial⟩
     ·split
      ·exact⟨_,rfl,fun s' h=>(by cases h; exact⟨trivial,by omega⟩),fun _ _=>trivial⟩
      ·split
       ·exact⟨_,rfl,fun s' h=>(by cases h),fun _ _=>trivial⟩
       ·exact⟨_,rfl,fun s' h=>(by cases h; exact⟨trivial,by omega⟩),fun _ _=>trivial⟩
   ·rw[AhX hi];exact⟨_,rfl,fun s' h=>(by cases h),fun _ _=>trivial⟩) FA 0 trivial (by have:=JK; omega)
  exact⟨t,e⟩
 ·cases a with
  |inl _=>exact tot _
  |inr _=>exact tot _
theorem Ae3: ∀(l:List UInt8) (c:UInt8),Lib.indexByte l c<l.length
 | [],c=>by simp[Lib.indexByte]
 |b::l,c=>by
  have:=Ae3 l c;unfold Lib.indexByte;split
  ·rw[Ah1]; omega
  ·split
   ·rw[Ah1]; omega
   ·rw[Ah1]; omega
theorem B5 (s:ByteArray):s.data.toList.length=s.size:=by rw[Array.length_toList]; rfl
theorem Vj (s:ByteArray): ∃x:Int,B6 s (⟨#[46]⟩:ByteArray)=some x∧ -1≤x∧x<s.size:=by
 unfold B6 AT BO;simp only[bnd];by_cases h:((((⟨#[46]⟩:ByteArray).size:Int)==0)||eqS (⟨#[46]⟩:ByteArray) s)=true
 ·rw[AhZ h];refine⟨0,rfl,by omega,?_⟩;have h1:eqS (⟨#[46]⟩:ByteArray) s=true:=by
   cases he:eqS (⟨#[46]⟩:ByteArray) s with
   |true=>rfl
   |false=>rw[he]at h; cases h
  have h2: [(46:UInt8)]=s.data.toList:=by simpa[eqS]using h1
  have h3:=B5 s;rw[←h2]at h3;simp only[Ah1,Aij]at h3;omega
 ·rw[AhX h];refine⟨Aa0 s 46,rfl,Lib.indexByte_ge _ _,?_⟩;have:=Ae3 s.data.toList 46;rw[B5]at this;exact this
theorem Gx {x:Int}(h0: -9223372036854775808≤x)(h1:x≤9223372036854775807):w64 x=x:=by
 unfold w64; omega
theorem HQ {s:ByteArray}{lo hi:Int}(h0:0≤lo)(h1:lo≤hi)(h2:hi≤s.size):T3 s lo hi=some (s.extract lo.toNat hi.toNat):=by
 unfold T3; rw[AhZ ⟨h0,h1,h2⟩]
theorem TF (s:ByteArray)(n k:Int):Cu s n k=Ab (if(decide ((s.size:Int)>k))=true then some true else Ab (Fg s (⟨#[46]⟩:ByteArray)) fun x3=>some (decide (x3≥n))) fun x2=>if x2=true then some false else
  Ab (G3 s (⟨#[46]⟩:ByteArray)) fun x4=>Ab (Bc (fun(s:(Unit)×Nat) (b0:ByteArray)=>if s.2=0 then Ab (BD b0 s) fun y=>some (y.2==0,y)else none) x4.1 x4.2.1 x4.2.2 ((),0)) fun x5=>
  if(x5.2.2.2).2=0 then some true else some false:=by
 unfold Cu;cases decide ((s.size:Int)>k)with
 |true=>rfl
 |false=>cases Fg s (⟨#[46]⟩:ByteArray)with|none=>rfl|some x=>rfl
theorem Xv (s:ByteArray)(n k:Int)(hk:k≤64):Tot (Cu s n k):=by
 rw[TF];refine CY ?_ fun x2 hx2=> ?_
 ·refine Ql (fun _=>tot _) fun _=> ?_;exact⟨_,rfl⟩
 ·refine Ql (fun _=>tot _) fun h=> ?_;have hsz:s.size≤64:=by
   cases hd:decide ((s.size:Int)>k)with
   |true=>rw[AhZ hd]at hx2; cases hx2; cases h
   |false=>simp only[decide_eq_false_iff_not]at hd; omega
  have key: ∃r,Bc (fun(s:(Unit)×Nat) (b0:ByteArray)=>if s.2=0 then Ab (BD b0 s) fun y=>some (y.2==0,y)else none) (⟨#[46]⟩:ByteArray) s 0 ((),0)=some r:=by
   have hb5: ∀(b0:ByteArray) (s:Unit×Nat),∃z:Nat,BD b0 s=some ((),z):=fun b0 s=>by
    unfold BD;obtain⟨y,hy⟩:=AaT b0;rw[hy];simp only[Aa];split
    ·exact⟨1,rfl⟩
    ·exact⟨0,rfl⟩
   unfold Bc;rw[AhX (by decide)];obtain⟨tt,hit,hq⟩: ∃t,iter (AM (fun(s:(Unit)×Nat) (b0:ByteArray)=>if s.2=0 then Ab (BD b0 s) fun y=>some (y.2==0,y)else none) (⟨#[46]⟩:ByteArray) 0) FA (s,((),0))=some t∧∀y,t= .inl y→y.2.2=0:=by
    exact PW (step:=AM (fun(s:(Unit)×Nat) (b0:ByteArray)=>if s.2=0 then Ab (BD b0 s) fun y=>some (y.2==0,y)else none) (⟨#[46]⟩:ByteArray) 0) (fun z=>z.1.size) (fun z=>z.1.size≤64∧z.2.2=0) (fun t=> ∀y,t= .inl y→y.2.2=0) (fun z hz=>by
     obtain⟨x,h1,h2,h3⟩:=Vj z.1;unfold AM;rw[h1];simp only[Aa];by_cases hx:x<0
     ·rw[AhZ (by simpa using hx)];exact⟨_,rfl,fun s' h=>(by cases h),fun t ht y hy=>by subst hy; cases ht; exact hz.2⟩
     ·rw[AhX (by simpa using hx)];have hw:w64 (x+0)=x:=by rw[Int.add_zero]; exact Gx (by omega) (by omega)
      have hw1:w64 (x+((⟨#[46]⟩:ByteArray).size:Int))=x+1:=Gx (x:=x+1) (by omega) (by omega);rw[hw,hw1,HQ (by omega) (by omega) (by omega),HQ (lo:=x+1) (by omega) (by omega) (by omega)];simp only[Aa,AhZ hz.2];obtain⟨zz,hzz⟩:=hb5 (z.1.extract (0:Int).toNat x.toNat) z.2;rw[hzz];simp only[Aa];split
      ·exact⟨_,rfl,fun s' h=>(by cases h),fun t ht y hy=>by subst hy; cases ht⟩
      ·rename_i hne;refine⟨_,rfl,fun s' h=> ?_,fun t ht=>by cases ht⟩;cases h;have e0:zz=0:=by simpa using hne
       refine⟨⟨?_,e0⟩,?_⟩
       ·simp only[ByteArray.size_extract]; omega
       ·simp only[ByteArray.size_extract]; omega) FA (s,((),0)) ⟨hsz,rfl⟩ (by have:=JK; show s.size<FA; omega)
   show Tot (Ab (iter _ FA (s,((),0))) _);rw[hit];cases tt with
   |inr _=>exact tot _
   |inl y3=>
    have h0:=hq y3 rfl;obtain⟨zz,hzz⟩:=hb5 y3.1 y3.2;simp only[Aa,AhZ h0,hzz];exact tot _
  obtain⟨r,hr⟩:=key;show Tot (Ab (Bc _ (⟨#[46]⟩:ByteArray) s 0 ((),0)) _);rw[hr];simp only[Aa];exact AfL (fun _=>tot _) fun _=>tot _
theorem Ae4 (s:ByteArray):Tot (FL s):=CY (Xv s 8 64 (by decide)) fun a _=>tot _
theorem Ab8 (s:ByteArray):Tot (DE s):=by
 unfold DE;refine CY (Ae4 s) fun a _=>CY ?_ fun a _=>tot _;unfold GJ;exact Ql (fun _=>tot _) fun _=>tot _
theorem T4 (s:ByteArray):Tot (Ce s (⟨#[42,46]⟩:ByteArray)):=by
 unfold Ce Ba A9;refine CY (CY (CY (Qm fun h=> ?_) fun a _=>tot _) fun b hb=> ?_) fun a _=>tot _
 ·simp only[Ah4]at h;exact⟨_,HQ (by omega) (by omega) h⟩
 ·refine Ql (fun _=>tot _) fun h=> ?_;obtain⟨x,_,hx⟩:=Af hb;have hx:=AhS (Aft hx);have hb:b=true:=by simpa using h
  rw[hb]at hx;simp only[AhT,Ah4]at hx;exact CY ⟨_,HQ (by omega) hx.1 (by omega)⟩ fun a _=>tot _
theorem WW (s:ByteArray):Tot (Dh s):=by
 unfold Dh Dg;refine CY (CY (Ae4 s) fun a _=>Ql (fun _=>tot _) fun _=>CY (T4 s) fun b _=>CY (Qm fun _=>Xv _ 7 62 (by decide)) fun c _=>tot _) fun a _=>CY ?_ fun a _=>tot _;unfold GJ;exact Ql (fun _=>tot _) fun _=>tot _
theorem Zv {α:Type}{x:Option α}{d:α}(h:Tot x):x=some (x.getD d):=by
 obtain⟨r,h⟩:=h;rw[h]; rfl
def textV (s:ByteArray):Bool:=(Er s).getD false
def nameV (s:ByteArray):Int:=(DE s).getD 0
def patV (s:ByteArray):Int:=(Dh s).getD 0
theorem Zz (s:ByteArray):Er s=some (textV s):=Zv (AcA s)
theorem TG (s:ByteArray):DE s=some (nameV s):=Zv (Ab8 s)
theorem Aav (s:ByteArray):Dh s=some (patV s):=Zv (WW s)
theorem W5 {s:ByteArray}(h:textV s=true):eqS s (⟨#[]⟩:ByteArray)=false∧s.size≤64:=Zy (Zz s) h
theorem U6 {s:ByteArray}{n k:Int}(h:Cu s n k=some true):(s.size:Int)≤k:=by
 rw[TF]at h;obtain⟨x,hx,h⟩:=Af h;cases hd:decide ((s.size:Int)>k)with
 |true=>
  rw[AhZ hd]at hx;cases hx;cases h
 |false=>simp only[decide_eq_false_iff_not]at hd; omega
theorem Aa4 {s:ByteArray}(h:FL s=some true):s.size≤64:=by
 obtain⟨x,hx,h⟩:=Af h;cases h;have:=U6 hx;omega
theorem UH {b:Bool}{r:Int}(h:GJ b=some r)(h0:r=0):b=true:=by
 cases b with
 |true=>rfl
 |false=>
  have h2:(110:Int)=r:=AhS h;omega
theorem YG {s:ByteArray}(h:nameV s=0):s.size≤64:=by
 have e:=TG s;rw[h]at e;obtain⟨x,hx,e⟩:=Af e;obtain⟨y,hy,e⟩:=Af e;cases e;have:=UH hy rfl;rw[this]at hx;exact Aa4 hx
theorem RJ {s:ByteArray}{c:ByteArray×Bool}(h:Ce s (⟨#[42,46]⟩:ByteArray)=some c)(h1:c.2=true):c.1.size+2=s.size:=by
 unfold Ce Ba A9 at h;obtain⟨d,hd,h⟩:=Af h;have h:=AhS h;subst h;obtain⟨p,hp,hd⟩:=Af hd;cases p with
 |false=>
  have hd:=AhS hd;subst hd;cases h1
 |true=>
  obtain⟨q,hq,hd⟩:=Af hd;have hd:=AhS hd;subst hd;unfold T3 at hq;split at hq
  ·rename_i hc;have hq:=AhS hq;have e2:(⟨#[42,46]⟩:ByteArray).size=2:=rfl;rw[e2]at hq hc;show q.size+2=s.size;rw[←hq,ByteArray.size_extract];omega
  ·cases hq
theorem Aau {s:ByteArray}(h:patV s=0):s.size≤64:=by
 have e:=Aav s;rw[h]at e;obtain⟨x,hx,e⟩:=Af e;obtain⟨y,hy,e⟩:=Af e;cases e;have h1:=UH hy rfl;unfold Dg at hx;obtain⟨b,hb,hx⟩:=Af hx;cases b with
 |true=>exact Aa4 hb
 |false=>
  rw[AhX (by decide)]at hx;obtain⟨c,hc,hx⟩:=Af hx;obtain⟨d,hd,hx⟩:=Af hx;have hx:=AhS hx;subst hx;have h2:(c.2&&d)=true:=h1;simp only[AhT]at h2;rw[h2.1,h2.2]at hd;have h3:=U6 hd;have h4:=RJ hc h2.1;omega
def QO (right:ByteArray→Int):List ByteArray→List ByteArray→Bool
 |_,[]=>true
 |met,s::l=> !(met.any (eqS s))&&right s==0&&QO right (met++[s]) l
def Lx (met:List ByteArray):List (ByteArray×Bool):=met.map fun s=>(s,true)
theorem QN: ∀(met:List ByteArray) (s:ByteArray) (i:Nat),(lkI (Lx met) s i).isSome=met.any (eqS s)∧∀p,lkI (Lx met) s i=some p→p.2=true
 | [],s,i=>⟨rfl,fun p h=>by cases h⟩
 |a::met,s,i=>by
  have ih:=QN met s (i+1);rw[List.any_cons];cases h:eqS s a with
  |true=>
   refine⟨?_,fun p hp=> ?_⟩
   ·show(if eqS s a=true then some (i,true)else lkI (Lx met) s (i+1)).isSome=_;rw[AhZ h]; rfl
   ·have hp:(if eqS s a=true then some (i,true)else lkI (Lx met) s (i+1))=some p:=hp;rw[AhZ h]at hp;cases hp; rfl
  |false=>
   refine⟨?_,fun p hp=> ?_⟩
   ·show(if eqS s a=true then some (i,true)else lkI (Lx met) s (i+1)).isSome=_;rw[AhX (by rw[h]; decide)]; exact ih.1
   ·have hp:(if eqS s a=true then some (i,true)else lkI (Lx met) s (i+1))=some p:=hp;rw[AhX (by rw[h]; decide)]at hp;exact ih.2 p hp
theorem AaP (met:List ByteArray)(s:ByteArray):lkB (Lx met) s=met.any (eqS s):=by
 have h:=QN met s 0;unfold lkB;rw[←h.1];cases e:lkI (Lx met) s 0 with
 |none=>rfl
 |some p=>rw[Aic,Option.getD_some,h.2 p e]; rfl
theorem Adm (met:List ByteArray)(s:ByteArray)(h:met.any (eqS s)=false):(lkI (Lx met) s 0).isNone=true:=by
 have h1:=(QN met s 0).1;rw[h]at h1;cases e:lkI (Lx met) s 0 with
 |none=>rfl
 |some p=>rw[e]at h1; cases h1
theorem AgI (right:ByteArray→Int)(mr:ByteArray→Option Int)(hr: ∀s,mr s=some (right s)): ∀(l met:List ByteArray) (i:Int),
  Et (fun(i1:Int) (x2:ByteArray) (s1:List (ByteArray×Bool))=>Ab (gu (!(lkB s1 x2)) (mr x2)) fun x3=>if((lkB s1 x2)||(x3 !=0))=true then some (.inr false)else if(lkI s1 x2 0).isNone=true then some (.inl (s1++[(x2,true)]))else none) l i (Lx met)
   =some (if QO right met l=true then .inl (Lx (met++l))else .inr false)
 | [],met,i=>by simp[Et,QO]
 |s::l,met,i=>by
  have ih:=AgI right mr hr l (met++[s]) (i+1);have hm':=AaP met s;simp only[Et,hr]at ih⊢;rw[hm'];cases hm:met.any (eqS s)with
  |true=>simp[gu,QO,hm]
  |false=>
   simp only[gu,Bool.not_false,cond_true,Aa,AiK];cases h0:right s==0 with
   |false=>
    have h1:(right s !=0)=true:=by simp only[bne,h0,Bool.not_false]
    rw[AhZ h1];simp[QO,hm,h0]
   |true=>
    have h1:(right s !=0)=false:=by simp only[bne,h0,AiQ]
    rw[h1];simp only[Bool.false_eq_true,if_false,Adm met s hm,if_true,Aa];have e:Lx met++[(s,true)]=Lx (met++[s]):=by simp[Lx]
    rw[e];simp only[gu]at ih;rw[ih];simp[QO,hm,h0]
def listV (right:ByteArray→Int)(l:List ByteArray)(a b:Int):Bool:=QO right [] l&&decide ((l.length:Int)≥a)&&decide ((l.length:Int)≤b)
theorem AaS (l:List ByteArray)(a b:Int):Gs l a b=some (listV patV l a b):=by
 unfold Gs;have h:=AgI patV Dh Aav l [] 0;show Ab (Et _ l 0 (Lx [])) _=_;unfold I3;rw[h];unfold listV;cases QO patV [] l<;>rfl
theorem AaR (l:List ByteArray)(a b:Int):Gt l a b=some (listV nameV l a b):=by
 unfold Gt;have h:=AgI nameV DE TG l [] 0;show Ab (Et _ l 0 (Lx [])) _=_;unfold I4;rw[h];unfold listV;cases QO nameV [] l<;>rfl
theorem Vb {right:ByteArray→Int}: ∀{l met:List ByteArray},QO right met l=true→∀s∈l,right s=0
 | [],met,_,s,hs=>by cases hs
 |a::l,met,h,s,hs=>by
  simp only[QO,AhT,AiG]at h;rcases Aio.1 hs with e|hs
  ·rw[e]; exact h.1.2
  ·exact Vb h.2 s hs
def numB (n:Int):Bool:=decide (n≥0)&&decide (n≤1099511627776)
def sigB (s:g_api_Sig):Bool:=decide ((Uk s.E s.S).toNat<1152921504606845789)
def promBC (p:g_api_Promise):Bool:=numB p.Log&&numB p.At&&decide ((Uk p.Leaf.1 p.Leaf.2).toNat<2305843009213693951)&&sigB p.Sig
theorem R2 (n:Int):Es n=some (numB n):=rfl
theorem UO (s:g_api_Sig):Hd s=some (sigB s):=by
 unfold Hd sigB;simp only[bnd,AhW,AiT];omega
theorem max_eq (a b:UInt64):Cy [a,b]=some (Uk a b):=by
 have e1:Bx [a,b] (a,1)=some (.inl (Uk a b,2)):=rfl;have e2:Bx [a,b] (Uk a b,2)=some (.inr (Uk a b)):=rfl;have h: ∀n,iter (Bx [a,b]) (n+1+1) (a,1)=some (Uk a b):=fun n=>by
  simp only[iter,e1,Aa,e2]
 have hf:iter (Bx [a,b]) FA (a,1)=some (Uk a b):=h 18446744073709551614;have i0:idx [a,b] 0=some a:=rfl;have d0:decide ((([a,b]:List UInt64).length:Int)<1)=false:=rfl;unfold Cy;rw[d0,i0];simp only[Bool.false_eq_true,if_false,Aa,hf]
theorem Acl {c v:Bool}:gu c (some v)=some (c&&v):=by cases c<;>rfl
theorem XH {α:Type} [Inhabited α](o:Option α):gu true o=o:=rfl
theorem Afa {α:Type} [Inhabited α](o:Option α):gu false o=some default:=rfl
theorem Du {α β:Type}(a:α)(k:α→β):bnd a k=k a:=rfl
theorem Wb (p:g_api_Promise):He p=some (promBC p):=by
 unfold He promBC;simp only[R2,max_eq,UO,Acl,Du,Aa];have e: ∀x:UInt64,decide ((x.toNat:Int)<2305843009213693951)=decide (x.toNat<2305843009213693951):=fun x=>by
  rw[AiT]; omega
 simp only[e];cases numB p.Log with
 |false=>simp only[Bool.false_and,Afa,Aa]
 |true=>
  cases numB p.At with
  |false=>simp only[Bool.false_and,Aiw,Afa,Aa]
  |true=>
   simp only[Aiw,XH,Aa];cases decide ((Uk p.Leaf.1 p.Leaf.2).toNat<2305843009213693951)<;>simp only[Bool.false_and,Aiw]
def promsB:Int→List g_api_Promise→Bool
 |_,[]=>true
 |last,p::l=>promBC p&& !(decide (p.Log≤last))&&promsB p.Log l
theorem Xk: ∀(l:List g_api_Promise) (i last:Int),∃z:Int,Et DA l i last=some (if promsB last l=true then .inl z else .inr false)
 | [],i,last=>⟨last,rfl⟩
 |p::l,i,last=>by
  obtain⟨z,ih⟩:=Xk l (i+1) p.Log;refine⟨z,?_⟩;have e:DA i p last=some (if(promBC p&& !(decide (p.Log≤last)))=true then .inl p.Log else .inr false):=by
   unfold DA;rw[Wb,Aa];cases promBC p<;>cases decide (p.Log≤last)<;>rfl
  show Ab (DA i p last) _=_;rw[e];cases h:promBC p&& !(decide (p.Log≤last))with
  |false=>
   simp[promsB,h]
  |true=>
   rw[AhZ rfl,Aa];show Et DA l (i+1) p.Log=_;rw[ih];simp[promsB,h]
def formB (c:g_api_Cert):Bool:=promsB (-1) c.Proms&&(numB c.Serial&&numB c.From&&numB c.Until&&decide (c.From<c.Until))&&(textV c.Issuer&&(!((c.Key.toNat:Int)==0))&&decide ((c.Key.toNat:Int)<2305843009213691579)&&decide ((c.Proms.length:Int)≤4)&&sigB c.Sig)&&(if c.Ca=true then textV c.Subject&&((c.Names.length:Int)==0)&&decide (c.Depth≥0)&&decide (c.Depth≤4)&&listV patV c.Permit 0 8 else eqS c.Subject (⟨#[]⟩:ByteArray)&&listV nameV c.Names 1 8&&(c.Depth==0)&&((c.Permit.length:Int)==0))
theorem Abk (c:g_api_Cert):Iw c=some (formB c):=by
 obtain⟨z,hz⟩:=Xk c.Proms 0 (-1);unfold Iw formB;rw[hz];cases promsB (-1) c.Proms with
 |false=>rfl
 |true=>
  rw[AhZ rfl,Aa];simp only[R2,Zz,UO,AaS,AaR,Acl,Du,Aa,Aiw];have e1:decide (c.From≥c.Until)= !decide (c.From<c.Until):=by
   rw[←decide_not,AiT]; omega
  have e2:decide ((c.Key.toNat:Int)≥2305843009213691579)= !decide ((c.Key.toNat:Int)<2305843009213691579):=by
   rw[←decide_not,AiT]; omega
  have e3:decide ((c.Proms.length:Int)>4)= !decide ((c.Proms.length:Int)≤4):=by
   rw[←decide_not,AiT]; omega
  rw[e1,e2,e3];generalize numB c.Serial=a1;generalize numB c.From=a2;generalize numB c.Until=a3;generalize decide (c.From<c.Until)=a4;generalize textV c.Issuer=b1;generalize ((c.Key.toNat:Int)==0)=b2;generalize decide ((c.Key.toNat:Int)<2305843009213691579)=b3;generalize decide ((c.Proms.length:Int)≤4)=b4;generalize sigB c.Sig=b5;cases a1<;>cases a2<;>cases a3<;>cases a4<;>try rfl
  all_goals cases b1<;>cases b2<;>cases b3<;>cases b4<;>cases b5<;>try rfl
  cases c.Ca with
  |true=>
   show some _=some _;generalize listV patV c.Permit 0 8=d1;generalize textV c.Subject=d2;generalize ((c.Names.length:Int)==0)=d3;generalize decide (c.Depth≥0)=d4;generalize decide (c.Depth≤4)=d5;cases d1<;>cases d2<;>cases d3<;>cases d4<;>cases d5<;>rfl
  |false=>
   show some _=some _;generalize listV nameV c.Names 1 8=d1;generalize eqS c.Subject (⟨#[]⟩:ByteArray)=d2;cases d1<;>cases d2<;>rfl
theorem Sw {α:Type}(b:Nat){xs ys:List α}(h:(xs.length+ys.length)*b≤140737488355328)(h1:xs.length+ys.length≤140737488355328):app b xs ys=some (xs++ys):=by unfold app; rw[AhZ ⟨h,h1⟩]
theorem WT {α:Type}(b:Nat){ys:List α}(h:ys.length*b≤140737488355328)(h1:ys.length≤140737488355328):app b [] ys=some ys:=by
 rw[Sw b (by simpa using h) (by simpa using h1)]; rfl
theorem cut_tl {α:Type}(x:α)(xs:List α):cut (x::xs) 1 (((x::xs).length:Nat):Int)=some xs:=by
 unfold cut;rw[AhZ ⟨by omega,by rw[Ah1]; omega,by omega⟩];show some (List.take _ xs)=_;rw[Aiz];simp
def be8 (n:Int):List UInt8:=[toB (Bj n 56),toB (Bj n 48),toB (Bj n 40),toB (Bj n 32),toB (Bj n 24),toB (Bj n 16),toB (Bj n 8),toB (Bj n 0)]
def Vc:List UInt8→Bool
 | []=>false
 | [_]=>true
 |a::b::l=>decide (((a::b::l).length:Int)≤8)&&((a.toNat:Int) !=((toB (-((shrB b 7).toNat:Int))).toNat:Int))
def Aev:List UInt8→List UInt8
 | []=> []
 | [a]=> [a]
 |a::b::l=>if Vc (a::b::l)=true then a::b::l else Aev (b::l)
theorem TN (l:List UInt8):IZ l=some (Vc l):=by
 match l with
 | []=>rfl
 | [a]=>rfl
 |a::b::l=>
  unfold IZ;have e0:(((a::b::l).length:Int)==0)=false:=by simp only[Aiv,Ah1]; omega
  have e1:(((a::b::l).length:Int)==1)=false:=by simp only[Aiv,Ah1]; omega
  have i0:idx (a::b::l) 0=some a:=rfl;have i1:idx (a::b::l) 1=some b:=rfl;rw[e0,e1,i0,i1];simp only[Bool.false_eq_true,if_false,Aa,Du,Vc];cases decide (((a::b::l).length:Int)≤8)<;>rfl
theorem Zu: ∀(n:Nat) (l:List UInt8),l.length<n→iter Eb n l=some (Aev l)
 |0,l,h=>by omega
 |n+1,l,h=>by
  show Ab (Eb l) _=_;match l with
  | []=>rfl
  | [a]=>rfl
  |a::b::l=>
   have ih:=Zu n (b::l) (by simp only[Ah1]at h⊢; omega);have e0:decide (((a::b::l).length:Int)>1)=true:=by simp only[Ah4,Ah1]; omega
   cases hl:Vc (a::b::l)with
   |true=>
    have e:Eb (a::b::l)=some (.inr (a::b::l)):=by
     unfold Eb;rw[e0,AhZ rfl,TN,hl];rfl
    rw[e];simp[Aev,hl]
   |false=>
    have e:Eb (a::b::l)=some (.inl (b::l)):=by
     unfold Eb;rw[e0,AhZ rfl,TN,hl,cut_tl];rfl
    rw[e];simp only[Aa];rw[ih];simp[Aev,hl]
theorem Th: ∀(l:List UInt8),(Aev l).length≤l.length
 | []=>AhY _
 | [a]=>AhY _
 |a::b::l=>by
  have ih:=Th (b::l);unfold Aev;split
  ·exact AhY _
  ·rw[Ah1]; omega
def Ul (n:Int):g_api_Item:=⟨2,Aev (be8 n),[]⟩
theorem be8_eq (n:Int):CR (LM n) 8 0 (0,0,0,0,0,0,0,0)=some (toB (Bj n 56),toB (Bj n 48),toB (Bj n 40),toB (Bj n 32),toB (Bj n 24),toB (Bj n 16),toB (Bj n 8),toB (Bj n 0)):=rfl
theorem X0 {l:List UInt8}(h:l.length≤140737488355328):Bg l=some l:=by
 unfold Bg;rw[WT 1 (by omega) h]; rfl
theorem Aa7 (n:Int):Fk n=some (Ul n):=by
 have h8:(be8 n).length=8:=rfl;have h:=Th (be8 n);unfold Fk;rw[be8_eq];show Ab (Ab (iter Eb FA (be8 n)) _) _=_;rw[Zu FA (be8 n) (by rw[h8]; have:=JK; omega)];show Ab (Bg (Aev (be8 n))) _=_;rw[X0 (by omega)];rfl
def Um (x:UInt64):g_api_Item:=Ul (w64 (x.toNat:Int))
theorem X7 (x:UInt64):EI x=some (Um x):=by unfold EI; rw[Aa7]; rfl
def MN (s:ByteArray):g_api_Item:=⟨12,s.data.toList,[]⟩
def WN (v:Bool):g_api_Item:=⟨1,[if v=true then 255 else 0],[]⟩
def W9 (l:List g_api_Item):g_api_Item:=⟨48,[],l⟩
theorem Ti {s:ByteArray}(h:s.size≤140737488355328):IA s=some (MN s):=by
 unfold IA;rw[WT 1 (by rw[B5]; omega) (by rw[B5]; exact h)]; rfl
theorem Aek (v:Bool):OM v=some (WN v):=by cases v<;>rfl
theorem MQ {l:List g_api_Item}(h:l.length≤1000000):Gj l=some (W9 l):=by
 unfold Gj BN;rw[WT 56 (by omega) (by omega)]; rfl
theorem W3: ∀(l:List ByteArray) (i:Int) (a:List g_api_Item),(∀s∈l,s.size≤64)→a.length+l.length≤1000000→D5 B9 l i a=some (a++l.map MN)
 | [],i,a,_,_=>by simp[D5]
 |s::l,i,a,h,hn=>by
  rw[Ah1]at hn;have ih:=W3 l (i+1) (a++[MN s]) (fun x hx=>h x (Aig _ hx)) (by rw[Ah0]; show a.length+1+_≤_; omega);have e:B9 i s a=some (a++[MN s]):=by
   unfold B9;rw[Ti (by have:=h s Aie; omega),Aa,Sw 56 (by show(a.length+1)*56≤_; omega) (by show a.length+1≤_; omega)];rfl
  show Ab (B9 i s a) _=_;rw[e];show D5 _ l (i+1) (a++[MN s])=_;rw[ih];simp
def Qn (l:List ByteArray):g_api_Item:=W9 (l.map MN)
theorem W4 {l:List ByteArray}(h: ∀s∈l,s.size≤64)(hn:l.length≤1000000):B3 l=some (Qn l):=by
 unfold B3;rw[W3 l 0 [] h (by simpa using hn)];simp only[Aa,AiC];rw[MQ (by rw[Aiy]; exact hn)]; rfl
def Tw (p:g_api_Promise):g_api_Item:=W9 [Ul p.Log,Ul p.At,Um p.Leaf.1,Um p.Leaf.2,Um p.Sig.E,Um p.Sig.S]
theorem AcZ (p:g_api_Promise):Ix p=some (Tw p):=by
 unfold Ix;simp only[Aa7,X7,Aa];rw[MQ (by simp)]; rfl
theorem Xj: ∀(l:List g_api_Promise) (i:Int) (a:List g_api_Item),a.length+l.length≤1000000→D5 Bp l i a=some (a++l.map Tw)
 | [],i,a,_=>by simp[D5]
 |s::l,i,a,hn=>by
  rw[Ah1]at hn;have ih:=Xj l (i+1) (a++[Tw s]) (by rw[Ah0]; show a.length+1+_≤_; omega);have e:Bp i s a=some (a++[Tw s]):=by
   unfold Bp;rw[AcZ,Aa,Sw 56 (by show(a.length+1)*56≤_; omega) (by show a.length+1≤_; omega)];rfl
  show Ab (Bp i s a) _=_;rw[e];show D5 _ l (i+1) (a++[Tw s])=_;rw[ih];simp
def Xl (l:List g_api_Promise):g_api_Item:=W9 (l.map Tw)
theorem Aai {l:List g_api_Promise}(hn:l.length≤1000000):BQ l=some (Xl l):=by
 unfold BQ;rw[Xj l 0 [] (by simpa using hn)];simp only[Aa,AiC];rw[MQ (by rw[Aiy]; exact hn)]; rfl
structure WV (c:g_api_Cert):Prop where
 issuer:c.Issuer.size≤64
 subject:c.Subject.size≤64
 names: ∀s∈c.Names,s.size≤64
 few:c.Names.length≤8
 permit: ∀s∈c.Permit,s.size≤64
 fewP:c.Permit.length≤8
 proms:c.Proms.length≤4
def Aam (c:g_api_Cert):g_api_Item:=W9 [Ul c.Serial,MN c.Issuer,MN c.Subject,Um c.Key,Qn c.Names,Ul c.From,Ul c.Until,WN c.Ca,Ul c.Depth,Qn c.Permit]
def PJ (c:g_api_Cert):g_api_Item:=W9 [Aam c,Xl c.Proms]
def wholeI (c:g_api_Cert):g_api_Item:=W9 [PJ c,W9 [Um c.Sig.E,Um c.Sig.S]]
theorem Aal {c:g_api_Cert}(h:WV c):Kb c=some (Aam c):=by
 unfold Kb;have h1:=h.issuer; have h2:=h.subject; have h3:=h.few; have h4:=h.fewP;simp only[Aa7,X7,Aek,Ti (s:=c.Issuer) (by omega),Ti (s:=c.Subject) (by omega),W4 h.names (by omega),W4 h.permit (by omega),Aa];rw[MQ (by simp)]; rfl
theorem X6 {c:g_api_Cert}(h:WV c):I5 c=some (PJ c):=by
 unfold I5;have h1:=h.proms;rw[Aal h,Aai (by omega)];simp only[Aa];rw[MQ (by simp)]; rfl
theorem Zm {c:g_api_Cert}(h:WV c):JF c=some (wholeI c):=by
 unfold JF;rw[X6 h,X7,X7];simp only[Aa];rw[MQ (by simp)];simp only[Aa];rw[MQ (by simp)]; rfl
structure Form (c:g_api_Cert):Prop where
 proms:promsB (-1) c.Proms=true
 serial:numB c.Serial=true
 frm:numB c.From=true
 til:numB c.Until=true
 lt:c.From<c.Until
 issuer:textV c.Issuer=true
 key0:(c.Key.toNat:Int)≠0
 keyQ:(c.Key.toNat:Int)<2305843009213691579
 nproms:(c.Proms.length:Int)≤4
 sig:sigB c.Sig=true
 ca:c.Ca=true→textV c.Subject=true∧c.Names=[]∧0≤c.Depth∧c.Depth≤4∧listV patV c.Permit 0 8=true
 leaf:c.Ca=false→c.Subject=(⟨#[]⟩:ByteArray)∧listV nameV c.Names 1 8=true∧c.Depth=0∧c.Permit=[]
theorem Abl {c:g_api_Cert}(h:formB c=true):Form c:=by
 unfold formB at h;simp only[AhT,Ah4,Bool.not_eq_true',Aiv]at h;obtain⟨⟨⟨h1,⟨⟨h2,h3⟩,h4⟩,h5⟩,⟨⟨⟨h6,h7⟩,h8⟩,h9⟩,h10⟩,h11⟩:=h;refine⟨h1,h2,h3,h4,h5,h6,h7,h8,h9,h10,fun e=> ?_,fun e=> ?_⟩
 ·rw[AhZ e]at h11;simp only[AhT,Ah4,AiG]at h11;obtain⟨⟨⟨⟨a,b⟩,d⟩,f⟩,g⟩:=h11;exact⟨a,List.eq_nil_of_length_eq_zero (by omega),by omega,f,g⟩
 ·rw[e]at h11;simp only[Bool.false_eq_true,if_false,AhT,Ah4,AiG]at h11;obtain⟨⟨⟨a,b⟩,d⟩,f⟩:=h11;exact⟨Q1.1 a,b,d,List.eq_nil_of_length_eq_zero (by omega)⟩
theorem Va {right:ByteArray→Int}{l:List ByteArray}{a b:Int}(h:listV right l a b=true):a≤l.length∧(l.length:Int)≤b∧∀s∈l,right s=0:=by
 unfold listV at h;simp only[AhT,Ah4]at h;exact⟨by omega,h.2,Vb h.1.1⟩
theorem Form.sized {c:g_api_Cert}(h:Form c):WV c:=by
 have hi:=(W5 h.issuer).2;have hp:=h.nproms;cases hc:c.Ca with
 |true=>
  obtain⟨h1,h2,h3,h4,h5⟩:=h.ca hc;obtain⟨l1,l2,l3⟩:=Va h5;exact⟨hi,(W5 h1).2,(by rw[h2]; intro s hs; cases hs),by rw[h2]; decide,fun s hs=>Aau (l3 s hs),by omega,by omega⟩
 |false=>
  obtain⟨h1,h2,h3,h4⟩:=h.leaf hc;obtain⟨l1,l2,l3⟩:=Va h2;exact⟨hi,by rw[h1]; decide,fun s hs=>YG (l3 s hs),by omega,(by rw[h4]; intro s hs; cases hs),by rw[h4]; decide,by omega⟩
theorem Ahg (t:Int):Iz t=some (if t=1 then(⟨1,428⟩,true)else if t=2 then(⟨2,299⟩,true)else if t=4 then(⟨4,429⟩,true)else if t=12 then(⟨12,430⟩,true)else if t=48 then(⟨48,432⟩,true)else(⟨0,-1⟩,false)):=by
 by_cases h1:t=1
 ·subst h1; rfl
 by_cases h2:t=2
 ·subst h2; rfl
 by_cases h3:t=4
 ·subst h3; rfl
 by_cases h4:t=12
 ·subst h4; rfl
 by_cases h5:t=48
 ·subst h5; rfl
 rw[AhX h1,AhX h2,AhX h3,AhX h4,AhX h5];have b: ∀(k:Int),t≠k→((k==t)=true)=False:=fun k h=>by simp only[AiG,eq_iff_iff,iff_false]; exact fun e=>h e.symm
 have g:BU (An tab_2) tab_2.length 0 t=some (.inl t):=by
  have i: ∀(j:Nat) (k:FX),idx tab_2 (j:Int)=some k→t≠k.tag_→An tab_2 (j:Int) t=some (.inl t):=fun j k e hk=>by
   have hb:(k.tag_==t)=false:=by simp only[Aiv]; exact fun e=>hk e.symm
   unfold An LL;rw[e];simp only[Aa,hb,Bool.false_eq_true,if_false]
  show Ab (An tab_2 ((0:Nat):Int) t) _=_;rw[i 0 ⟨1,428⟩ rfl h1];show Ab (An tab_2 ((1:Nat):Int) t) _=_;rw[i 1 ⟨2,299⟩ rfl h2];show Ab (An tab_2 ((2:Nat):Int) t) _=_;rw[i 2 ⟨4,429⟩ rfl h3];show Ab (An tab_2 ((3:Nat):Int) t) _=_;rw[i 3 ⟨12,430⟩ rfl h4];show Ab (An tab_2 ((4:Nat):Int) t) _=_;rw[i 4 ⟨48,432⟩ rfl h5];rfl
 unfold Iz BF;rw[g];rfl
def QS (t:Int):Bool:=t==1||t==2||t==4||t==12||t==48
def boolB (b:List UInt8):Bool:=match b with| [x]=>x==0||x==255|_=>false
def O6 (b:List UInt8):Bool:=b.all fun c=>decide (32≤c.toNat)&&decide (c.toNat≤126)
def AaY (t:Int)(b:List UInt8):Bool:=if t=1 then boolB b else if t=2 then Vc b else if t=4 then true else if t=12 then O6 b else if t=48 then b.isEmpty else false
theorem AaX (b:List UInt8):Ha b=some (boolB b):=by
 match b with
 | []=>rfl
 | [x]=>
  unfold Ha;have e1:((([x]:List UInt8).length:Int)==1)=true:=rfl;have e2:idx [x] 0=some x:=rfl;rw[e1,e2];have e3: ∀n:UInt8,((x.toNat:Int)==n.toNat)=(x==n):=fun n=>by
   rw[AiM,AiG,AiG,←UInt8.toNat_inj];omega
  have z0:((x.toNat:Int)==0)=(x==0):=e3 0;have z1:((x.toNat:Int)==255)=(x==255):=e3 255;simp only[XH,Aa,Du,z0,z1,Aiw];show _=some (x==0||x==255);cases h:x==0 with
  |true=>rfl
  |false=>simp only[Bool.not_false,XH,Aa,Du,z1,AiK]
 |x::y::l=>
  unfold Ha;have e1:(((x::y::l).length:Int)==1)=false:=by simp only[Aiv,Ah1]; omega
  rw[e1];rfl
theorem Ae5: ∀(a b:List UInt8),∃r,BU (AE (a++b)) b.length (a.length:Int) ()=some r∧(r= .inl ()↔O6 b=true)∧∀i,r= .inr i→0≤i
 |a,[]=>⟨.inl (),rfl,by simp[O6],fun i h=>by cases h⟩
 |a,c::b=>by
  have hi:idx (a++c::b) (a.length:Int)=some c:=by
   unfold idx;rw[AhZ (by omega)];simp
  obtain⟨r,h1,h2,h3⟩:=Ae5 (a++[c]) b;have ec:(decide ((c.toNat:Int)<32)||decide ((c.toNat:Int)>126))= !(decide (32≤c.toNat)&&decide (c.toNat≤126)):=by
   rw[AiM];simp only[AiD,Bool.not_eq_true',Bool.and_eq_false_iff,Ah4,decide_eq_false_iff_not];omega
  have st:AE (a++c::b) (a.length:Int) ()=some (if(decide (32≤c.toNat)&&decide (c.toNat≤126))=true then .inl ()else .inr (a.length:Int)):=by
   unfold AE I0;rw[hi];simp only[Aa,Du,ec];cases decide (32≤c.toNat)&&decide (c.toNat≤126)<;>rfl
  show∃r,Ab (AE (a++c::b) (a.length:Int) ()) _=some r∧_;rw[st];cases hc:decide (32≤c.toNat)&&decide (c.toNat≤126)with
  |false=>exact⟨.inr (a.length:Int),rfl,by simp[O6,hc],fun i h=>(by cases h; omega)⟩
  |true=>
   refine⟨r,?_,?_,h3⟩
   ·show BU (AE (a++c::b)) b.length ((a.length:Int)+1) ()=some r;rw[←h1];simp
   ·rw[h2];simp only[O6,AiE,hc,Aiw]
theorem AaW (b:List UInt8):Iv b=some (O6 b):=by
 obtain⟨r,h1,h2,h3⟩:=Ae5 [] b;unfold Iv B8 Cm;have h1:BU (AE b) b.length 0 ()=some r:=h1;rw[h1];cases r with
 |inl u=>rw[h2.1 rfl]; rfl
 |inr i=>
  have hp:O6 b=false:=by
   cases h:O6 b with
   |false=>rfl
   |true=>exact absurd (h2.2 h) (by simp)
  have hi:=h3 i rfl;rw[hp];show some (!(decide (i≥0)))=_;rw[Aim hi]; rfl
theorem AaV (b:List UInt8):Iu b=some b.isEmpty:=by
 cases b with
 |nil=>rfl
 |cons a l=>
  unfold Iu;have:(((a::l).length:Int)==0)=false:=by simp only[Aiv,Ah1]; omega
  rw[this]; rfl
theorem Wq {t:Int}(h:QS t=true):t=1∨t=2∨t=4∨t=12∨t=48:=by
 unfold QS at h;simp only[AiD,AiG]at h;omega
theorem Sn {t:Int}(h:QS t=true): ∃k,Iz t=some (k,true)∧k.tag_=t∧∀b,PV k.may_ b=some (AaY t b):=by
 rcases Wq h with e|e|e|e|e
 ·subst e; exact⟨_,rfl,rfl,AaX⟩
 ·subst e; exact⟨_,rfl,rfl,TN⟩
 ·subst e; exact⟨_,rfl,rfl,fun b=>rfl⟩
 ·subst e; exact⟨_,rfl,rfl,AaW⟩
 ·subst e; exact⟨_,rfl,rfl,AaV⟩
theorem LV {t:Int}(h:QS t=false):Iz t=some (⟨0,-1⟩,false)∧∀b,AaY t b=false:=by
 unfold QS at h;simp only[Bool.or_eq_false_iff,Aiv]at h;obtain⟨⟨⟨⟨h1,h2⟩,h3⟩,h4⟩,h5⟩:=h;refine⟨?_,fun b=> ?_⟩
 ·rw[Ahg,AhX h1,AhX h2,AhX h3,AhX h4,AhX h5]
 ·unfold AaY;rw[AhX h1,AhX h2,AhX h3,AhX h4,AhX h5]
def mayB:Nat→g_api_Item→Bool
 |0,_=>false
 |d+1,x=>AaY x.Tag x.B&&(x.Tag==48||x.L.isEmpty)&&x.L.all (mayB d)
theorem Ae6 (rF:g_api_Item→Int→Option Bool)(p:g_api_Item→Bool)(d:Int): ∀(a b:List g_api_Item),(∀y∈b,rF y (w64 (d-1))=some (p y))→
  ∃r,BU (Aq rF (a++b)) b.length (a.length:Int) d=some r∧(r= .inl d↔b.all p=true)∧(∀e,r= .inl e→e=d)∧∀i,r= .inr i→0≤i.1
 |a,[],_=>⟨.inl d,rfl,by simp,fun e h=>by cases h; rfl,fun i h=>by cases h⟩
 |a,c::b,h=>by
  have hi:idx (a++c::b) (a.length:Int)=some c:=by
   unfold idx;rw[AhZ (by omega)];simp
  obtain⟨r,h1,h2,h4,h3⟩:=Ae6 rF p d (a++[c]) b fun y hy=>h y (Aig _ hy);have st:Aq rF (a++c::b) (a.length:Int) d=some (if p c=true then .inl d else .inr ((a.length:Int),d)):=by
   unfold Aq KK;rw[hi];simp only[Aa,h c Aie];cases p c<;>rfl
  show∃r,Ab (Aq rF (a++c::b) (a.length:Int) d) _=some r∧_;rw[st];cases hc:p c with
  |false=>exact⟨.inr ((a.length:Int),d),rfl,by simp[hc],fun e h=>(by cases h),fun i h=>(by cases h; exact AiI _)⟩
  |true=>
   refine⟨r,?_,?_,h4,h3⟩
   ·show BU (Aq rF (a++c::b)) b.length ((a.length:Int)+1) d=some r;rw[←h1];simp
   ·rw[h2];simp only[AiE,hc,Aiw]
theorem WE (rF:g_api_Item→Int→Option Bool)(p:g_api_Item→Bool)(d:Int)(l:List g_api_Item)(h: ∀y∈l,rF y (w64 (d-1))=some (p y)):
  ∃z,AO rF l d=some (!(l.all p),z):=by
 obtain⟨r,h1,h2,h4,h3⟩:=Ae6 rF p d [] l h;have h1:BU (Aq rF l) l.length 0 d=some r:=h1;unfold AO Bq;rw[h1];cases r with
 |inl u=>
  have:=h4 u rfl;subst this;rw[h2.1 rfl];exact⟨_,rfl⟩
 |inr i=>
  have hp:l.all p=false:=by
   cases h:l.all p with
   |false=>rfl
   |true=>exact absurd (h2.2 h) (by simp)
  have hi:=h3 i rfl;rw[hp];refine⟨i.2,?_⟩;show some (decide (i.1≥0),i.2)=_;rw[Aim hi]; rfl
theorem AeZ: ∀(d n:Nat) (x:g_api_Item),d<n→d≤100→HZ n x (d:Int)=some (mayB d x)
 |d,0,x,h,_=>by omega
 |0,n+1,x,_,_=>by
  show Hz (HZ n) x 0=some false;unfold Hz;cases hk:QS x.Tag with
  |false=>rw[(LV hk).1]; rfl
  |true=>
   obtain⟨k,e,_,_⟩:=Sn hk;rw[e]; rfl
 |d+1,n+1,x,h,hd=>by
  have ih: ∀y∈x.L,HZ n y (w64 (((d+1:Nat):Int)-1))=some (mayB d y):=fun y _=>by
   rw[show w64 (((d+1:Nat):Int)-1)=(d:Int)from by rw[Gx (by omega) (by omega)]; omega];exact AeZ d n y (by omega) (by omega)
  obtain⟨z,hz⟩:=WE (HZ n) (mayB d) ((d+1:Nat):Int) x.L ih;show Hz (HZ n) x ((d+1:Nat):Int)=some (mayB (d+1) x);unfold Hz mayB;have e1:decide (((d+1:Nat):Int)<1)=false:=by rw[decide_eq_false_iff_not]; omega
  have e2:decide ((x.L.length:Int)>0)= !x.L.isEmpty:=by
   cases x.L with
   |nil=>rfl
   |cons a l=>show decide _=true; rw[Ah4,Ah1]; omega
  have e3:(x.Tag !=48)= !(x.Tag==48):=rfl;rw[e1,e2,e3];cases hk:QS x.Tag with
  |false=>
   rw[(LV hk).1,(LV hk).2]; rfl
  |true=>
   obtain⟨k,e,_,hm⟩:=Sn hk;rw[e];simp only[Aa,AiQ,Bool.or_false,Bool.not_false,XH,hm,hz,Bool.not_not];cases AaY x.Tag x.B<;>cases x.Tag==48<;>cases x.L.isEmpty<;>rfl
theorem AgD (x:g_api_Item):QL x 8=some (mayB 8 x):=AeZ 8 FA x (by have:=JK; omega) (by decide)
def QQ (n:Nat):List UInt8:=if n<128 then [toB (n:Int)]else if n<256 then [129,toB (n:Int)]else [130,toB (Bj (n:Int) 8),toB (n:Int)]
def putB:Nat→g_api_Item→List UInt8
 |0,_=> []
 |d+1,x=>toB x.Tag::(QQ (x.B++x.L.flatMap (putB d)).length++(x.B++x.L.flatMap (putB d)))
def depB:Nat→g_api_Item→Prop
 |0,_=>False
 |d+1,x=> ∀y∈x.L,depB d y
theorem AbA: ∀{d:Nat} {x:g_api_Item},mayB d x=true→depB d x
 |0,x,h=>by cases h
 |d+1,x,h=>by
  simp only[mayB,AhT,Aif]at h;exact fun y hy=>AbA (h.2 y hy)
theorem XE (n:Nat):1≤(QQ n).length∧(QQ n).length≤3:=by
 unfold QQ;split
 ·exact⟨by simp,by simp⟩
 ·split
  ·exact⟨by simp,by simp⟩
  ·exact⟨by simp,by simp⟩
theorem putE: ∀(d n:Nat) (x:g_api_Item) (b:List UInt8),d≤n→depB d x→b.length+(putB d x).length≤100000000000000→G2 n b x=some (b++putB d x)
 |0,n,x,b,_,h,_=>h.elim
 |d+1,0,x,b,h,_,_=>by omega
 |d+1,n+1,x,b,hn,hd,hb=>by
  have eP:putB (d+1) x=toB x.Tag::(QQ (x.B++x.L.flatMap (putB d)).length++(x.B++x.L.flatMap (putB d))):=rfl;have go: ∀(l:List g_api_Item) (i:Int) (s:List UInt8),(∀y∈l,depB d y)→s.length+(l.flatMap (putB d)).length≤100000000000000→D5 (ED (G2 n)) l i s=some (s++l.flatMap (putB d)):=by
   intro l;induction l with
   |nil=>intro i s _ _; simp[D5]
   |cons y l ih=>
    intro i s h hs;rw[AiH,Ah0]at hs;have e:ED (G2 n) i y s=some (s++putB d y):=by
     unfold ED;rw[putE d n y s (by omega) (h y Aie) (by omega)];rfl
    show Ab (ED (G2 n) i y s) _=_;rw[e];show D5 _ l (i+1) (s++putB d y)=_;rw[ih (i+1) (s++putB d y) (fun z hz=>h z (Aig _ hz)) (by rw[Ah0]; omega),AiH,Ah5]
  rw[eP]at hb⊢;simp only[Ah1,Ah0]at hb;have hc:Hb (G2 n) x=some (x.B++x.L.flatMap (putB d)):=by
   unfold Hb;rw[X0 (by omega),Aa,go x.L 0 x.B hd (by omega)];rfl
  show KJ (G2 n) b x=_;unfold KJ;rw[hc,Aa,Sw 1 (by simp only[Ah1,Aij]; omega) (by simp only[Ah1,Aij]; omega),Aa];rw[←Ah0]at hb;have hL:(x.B++x.L.flatMap (putB d)).length=(x.B++x.L.flatMap (putB d)).length:=rfl;generalize (x.B++x.L.flatMap (putB d))=c at hb hL⊢;have hl:=XE c.length;have hm: ∀z:List UInt8,z.length≤3→app 1 (b++[toB x.Tag]) z=some (b++[toB x.Tag]++z):=fun z hz=>Sw 1 (by simp only[Ah0,Ah1,Aij]; omega) (by simp only[Ah0,Ah1,Aij]; omega);have fin:app 1 (b++[toB x.Tag]++QQ c.length) c=some (b++toB x.Tag::(QQ c.length++c)):=by
   rw[Sw 1 (by simp only[Ah0,Ah1,Aij]; omega) (by simp only[Ah0,Ah1,Aij]; omega)];simp
  have mid:(bnd (decide ((c.length:Int)<128)) fun x4=>
    if x4=true then
     Ab (app 1 (b++[toB x.Tag]) ([(toB (c.length:Int))]:List UInt8)) fun x5=>
     some x5
    else
    bnd ((decide ((c.length:Int)<256))) fun x6=>
    if x6=true then
     Ab (app 1 (b++[toB x.Tag]) ([129,(toB (c.length:Int))]:List UInt8)) fun x7=>
     some x7
    else
    Ab (app 1 (b++[toB x.Tag]) ([130,(toB (Bj (c.length:Int) 8)),(toB (c.length:Int))]:List UInt8)) fun x8=>
    some x8)=some (b++[toB x.Tag]++QQ c.length):=by
   rw[hm [toB (c.length:Int)] (by simp),hm [129,toB (c.length:Int)] (by simp),hm [130,toB (Bj (c.length:Int) 8),toB (c.length:Int)] (by simp)];simp only[Du,Aa,Ah4];unfold QQ;by_cases h1:c.length<128
   ·rw[AhZ h1,AhZ (by omega)]
   ·rw[AhX h1,AhX (by omega)];by_cases h2:c.length<256
    ·rw[AhZ h2,AhZ (by omega)]
    ·rw[AhX h2,AhX (by omega)]
  rw[mid];simp only[Aa];rw[fin];rfl
theorem Agl {x:g_api_Item}(h:depB 8 x)(hs:(putB 8 x).length≤100000000000000):QK [] x=some (putB 8 x):=by
 have:=putE 8 FA x [] (by have:=JK; omega) h (by simpa using hs);exact this
theorem Afz {x:g_api_Item}(hs:(putB 8 x).length≤100000000000000):
  I1 x=some (if mayB 8 x=true then(if(putB 8 x).length≤8192 then(putB 8 x,0)else([],2))else([],1)):=by
 unfold I1;rw[AgD];cases hm:mayB 8 x with
 |false=>rfl
 |true=>
  simp only[Aa,AiQ,Bool.false_eq_true,if_false,if_true];rw[Agl (AbA hm) hs];simp only[Aa,Ah4];by_cases h:(putB 8 x).length≤8192
  ·rw[AhX (by omega),AhZ h]
  ·rw[AhZ (by omega),AhX h]
theorem XM {α:Type}(f:α→List UInt8)(k:Nat): ∀(l:List α),(∀y∈l,(f y).length≤k)→(l.flatMap f).length≤l.length*k
 | [],_=>by simp
 |y::l,h=>by
  have h1:=h y Aie;have h2:=XM f k l fun z hz=>h z (Aig _ hz);rw[AiH,Ah0,Ah1,Nat.succ_mul];omega
theorem Tv (d:Nat)(x:g_api_Item):(putB (d+1) x).length≤4+x.B.length+(x.L.flatMap (putB d)).length:=by
 have:=XE (x.B++x.L.flatMap (putB d)).length;show(toB x.Tag::(QQ (x.B++x.L.flatMap (putB d)).length++(x.B++x.L.flatMap (putB d)))).length≤_;rw[Ah1,Ah0,Ah0]at*;omega
theorem LP (d:Nat)(n:Int):(putB d (Ul n)).length≤12:=by
 cases d with
 |zero=>simp[putB]
 |succ d=>
  have h:=Tv d (Ul n);have h1:(Ul n).B.length≤8:=Th (be8 n);have h2:(Ul n).L=[]:=rfl;rw[h2]at h;simp only[List.flatMap_nil,Aij]at h;omega
theorem Qo (d:Nat){s:ByteArray}(hs:s.size≤64):(putB d (MN s)).length≤68:=by
 cases d with
 |zero=>simp[putB]
 |succ d=>
  have h:=Tv d (MN s);have h1:(MN s).B.length=s.size:=B5 s;have h2:(MN s).L=[]:=rfl;rw[h2]at h;simp only[List.flatMap_nil,Aij]at h;omega
theorem AbW (d:Nat)(v:Bool):(putB d (WN v)).length≤5:=by
 cases d with
 |zero=>simp[putB]
 |succ d=>
  have h:=Tv d (WN v);have h1:(WN v).B.length=1:=rfl;have h2:(WN v).L=[]:=rfl;rw[h2]at h;simp only[List.flatMap_nil,Aij]at h;omega
theorem Kw (d:Nat)(l:List g_api_Item)(k:Nat)(hk: ∀e y,y∈l→(putB e y).length≤k):(putB d (W9 l)).length≤4+l.length*k:=by
 cases d with
 |zero=>simp[putB]
 |succ d=>
  have h:=Tv d (W9 l);have h1:(W9 l).B.length=0:=rfl;have h3:=XM (putB d) k l fun y hy=>hk d y hy;have h2:(W9 l).L=l:=rfl;rw[h2]at h;omega
theorem RZ (d:Nat){l:List ByteArray}(h: ∀s∈l,s.size≤64)(hn:l.length≤8):(putB d (Qn l)).length≤1000:=by
 have:=Kw d (l.map MN) 68 fun e y hy=>by
  obtain⟨s,hs,e2⟩:=List.mem_map.1 hy;rw[←e2];exact Qo e (h s hs)
 rw[Aiy]at this;unfold Qn;omega
theorem mem2 {α:Type}{p:α→Prop}{a b:α}(ha:p a)(hb:p b): ∀y∈[a,b],p y:=by
 intro y hy;simp only[Aio,List.not_mem_nil,or_false]at hy;rcases hy with e|e<;>rw[e]<;>assumption
theorem Ac1 (d:Nat){c:g_api_Cert}(h:WV c):(putB d (Aam c)).length≤20000:=by
 have:=Kw d [Ul c.Serial,MN c.Issuer,MN c.Subject,Um c.Key,Qn c.Names,Ul c.From,Ul c.Until,WN c.Ca,Ul c.Depth,Qn c.Permit] 1000 fun e y hy=>by
  simp only[Aio,List.not_mem_nil,or_false]at hy;rcases hy with q|q|q|q|q|q|q|q|q|q<;>rw[q]
  ·have:=LP e c.Serial; omega
  ·have:=Qo e h.issuer; omega
  ·have:=Qo e h.subject; omega
  ·have:=LP e (w64 (c.Key.toNat:Int)); unfold Um; omega
  ·exact RZ e h.names h.few
  ·have:=LP e c.From; omega
  ·have:=LP e c.Until; omega
  ·have:=AbW e c.Ca; omega
  ·have:=LP e c.Depth; omega
  ·exact RZ e h.permit h.fewP
 simp only[Ah1,Aij]at this;unfold Aam;omega
theorem Aaj (d:Nat)(p:g_api_Promise):(putB d (Tw p)).length≤100:=by
 have:=Kw d [Ul p.Log,Ul p.At,Um p.Leaf.1,Um p.Leaf.2,Um p.Sig.E,Um p.Sig.S] 12 fun e y hy=>by
  simp only[Aio,List.not_mem_nil,or_false]at hy;rcases hy with q|q|q|q|q|q<;>rw[q]<;>exact LP e _
 simp only[Ah1,Aij]at this;unfold Tw;omega
theorem AbX (d:Nat){c:g_api_Cert}(h:WV c):(putB d (PJ c)).length≤50000:=by
 have:=Kw d [Aam c,Xl c.Proms] 20000 fun e=>mem2 (p:=fun y=>(putB e y).length≤20000) (Ac1 e h) (by
  have:=Kw e (c.Proms.map Tw) 100 fun f y hy=>by
   obtain⟨p,hp,e2⟩:=List.mem_map.1 hy;rw[←e2];exact Aaj f p
  rw[Aiy]at this;have:=h.proms;unfold Xl;omega)
 simp only[Ah1,Aij]at this;unfold PJ;omega
theorem Yi (d:Nat){c:g_api_Cert}(h:WV c):(putB d (wholeI c)).length≤200000:=by
 have:=Kw d [PJ c,W9 [Um c.Sig.E,Um c.Sig.S]] 50000 fun e=>mem2 (p:=fun y=>(putB e y).length≤50000) (AbX e h) (by
  have:=Kw e [Um c.Sig.E,Um c.Sig.S] 12 fun f=>mem2 (p:=fun y=>(putB f y).length≤12) (LP f _) (LP f _);simp only[Ah1,Aij]at this;omega)
 simp only[Ah1,Aij]at this;unfold wholeI;omega
def checkV (c:g_api_Cert):Int:=if formB c=true then(if mayB 8 (wholeI c)=true∧(putB 8 (wholeI c)).length≤2048 then 0 else 2)else 1
theorem AhD (b:List UInt8)(m:Bool):(Ab (some (if m=true then(if b.length≤8192 then(b,(0:Int))else([],2))else([],1))) fun x3=>if((x3.2 !=0)||(decide ((x3.1.length:Int)>2048)))=true then some (2:Int)else some 0)=some (if m=true∧b.length≤2048 then 0 else 2):=by
 cases m with
 |false=>rfl
 |true=>
  simp only[if_true,Aa,true_and];by_cases h1:b.length≤8192
  ·rw[AhZ h1];by_cases h2:b.length≤2048
   ·rw[AhZ h2,AhX];simp only[bne_self_eq_false,AiK,Ah4];omega
   ·rw[AhX h2,AhZ];simp only[bne_self_eq_false,AiK,Ah4];omega
  ·rw[AhX h1];have h2: ¬b.length≤2048:=by omega
   rw[AhX h2];rfl
theorem Q7 (c:g_api_Cert):Cv c=some (checkV c):=by
 unfold Cv checkV;rw[Abk];cases hf:formB c with
 |false=>rfl
 |true=>
  have hs:=(Abl hf).sized;simp only[Aa,AiQ,Bool.false_eq_true,if_false,if_true];have hl:=Yi 8 hs;rw[Zm hs,Aa,Afz (by omega),AhD]
theorem Zx (n:Int):((toB n).toNat:Int)=n%256:=by
 have h:0≤n%256:=Int.emod_nonneg _ (by decide);have h2:n%256<256:=Int.emod_lt_of_pos _ (by decide);unfold toB;rw[UInt8.toNat_ofNat'];omega
theorem Ahu {α:Type}(a b:List α):cut (a++b) (a.length:Int) (((a++b).length:Nat):Int)=some b:=by
 unfold cut;rw[AhZ ⟨by omega,by rw[Ah0]; omega,by omega⟩];simp only[AiN,List.drop_left];rw[Aiz];rw[Ah0]; omega
theorem XL (p:g_api_Item→List UInt8){y:g_api_Item}: ∀{l:List g_api_Item},y∈l→(p y).length≤(l.flatMap p).length
 |z::l,h=>by
  rw[AiH,Ah0];rcases Aio.1 h with e|h
  ·rw[e]; omega
  ·have:=XL p h; omega
theorem Afd {s:ByteArray}{i:Nat}{b:UInt8}(h:s.data.toList[i]? =some b):s.get! i=b:=by
 have h2:s.data[i]? =some b:=by rw[←Array.getElem?_toList]; exact h
 show s.data[i]! =b;rw[getElem!_def,h2]
theorem dec_lo {s:ByteArray}{i:Nat}{b:UInt8}(h:s.data.toList[i]? =some b)(hb:b.toNat<128):Utf8.decode s i=(b.toNat,1):=by
 unfold Utf8.decode;simp only[AiW,Afd h];rw[AhZ hb]
theorem dec_hi {s:ByteArray}{i:Nat}{b:UInt8}(h:s.data.toList[i]? =some b)(hb: ¬b.toNat<128):128≤(Utf8.decode s i).1:=by
 unfold Utf8.decode;simp only[AiW,Afd h];rw[AhX hb];have he:Utf8.runeError=65533:=rfl;split
 ·split
  ·assumption
  ·simp[he]
 ·split
  ·split
   ·rename_i h1;simp only[AhT,Ah4]at h1;show 128≤_;omega
   ·simp[he]
  ·split
   ·split
    ·rename_i h1;simp only[AhT,Ah4]at h1;show 128≤_;omega
    ·simp[he]
   ·simp[he]
def JT (c:UInt8):Bool:=(decide (97≤c.toNat)&&decide (c.toNat≤122))||(decide (48≤c.toNat)&&decide (c.toNat≤57))
def Adz (c:UInt8):Bool:=c.toNat==45||JT c
def Ys:List UInt8→Bool
 | []=>true
 | [c]=>JT c
 |c::d::r=>Adz c&&Ys (d::r)
def TO:List UInt8→Bool
 | []=>false
 | [c]=>JT c
 |c::d::r=>(JT c||c.toNat==95)&&Ys (d::r)&&decide ((c::d::r).length≤16)
theorem Vr (n:Nat)(c:UInt8)(h:n=c.toNat):C4 (n:Int)=some (JT c):=by
 subst h;unfold C4 JT;rw[Du];congr 1;have e: ∀k:Nat,decide ((k:Int)≤(c.toNat:Int))=decide (k≤c.toNat):=fun k=>by rw[AiT]; omega
 have e2: ∀k:Nat,decide ((c.toNat:Int)≤(k:Int))=decide (c.toNat≤k):=fun k=>by rw[AiT]; omega
 rw[←e 97,←e2 122,←e 48,←e2 57];rfl
theorem Abu (n:Nat)(h:128≤n):C4 (n:Int)=some false:=by
 unfold C4;rw[Du,AiF (show¬(n:Int)≤122 from by omega),AiF (show¬(n:Int)≤57 from by omega),AiO,AiO];rfl
theorem YK (n:Nat)(c:UInt8)(h:n=c.toNat):C2 (n:Int)=some (Adz c):=by
 unfold C2 Adz;rw[Vr n c h,Acl,Aa];subst h;have e:((c.toNat:Int)==45)=(c.toNat==45):=by rw[AiM,AiG,AiG]; omega
 rw[e];cases c.toNat==45<;>simp
theorem Ady (n:Nat)(h:128≤n):C2 (n:Int)=some false:=by
 unfold C2;rw[Abu n h,Acl,Aa];have e:((n:Int)==45)=false:=by rw[Aiv]; omega
 rw[e]; rfl
theorem AgY (c:UInt8)(h: ¬c.toNat<128):JT c=false∧Adz c=false∧(c.toNat==95)=false:=by
 have e1:JT c=false:=by
  unfold JT;rw[AiF (show¬c.toNat≤122 from by omega),AiF (show¬c.toNat≤57 from by omega),AiO,AiO]; rfl
 have e2:(c.toNat==45)=false:=by rw[Aiv]; omega
 refine⟨e1,?_,by rw[Aiv]; omega⟩;unfold Adz;rw[e1,e2]; rfl
theorem Sg {s:ByteArray}{i:Nat}{c:UInt8}(hs:s.size≤16)(h:s.data.toList[i]? =some c):
  A2 s i=some (if(if i+1=s.size then JT c else if i=0 then JT c||c.toNat==95 else Adz c)=true then .inl (i+1)else .inr (.inr false)):=by
 have hi:i<s.size:=by
  have:=(Aia.1 h).1;rw[B5]at this;exact this
 have hw:w64 ((s.size:Int)-1)=(s.size:Int)-1:=Gx (by omega) (by omega);unfold A2;rw[AhZ hi,Du,hw];by_cases hb:c.toNat<128
 ·rw[dec_lo h hb,Vr c.toNat c rfl,YK c.toNat c rfl,Acl,Aa,Du,Du,Acl,Aa,Du,Acl,Aa];have e95:((c.toNat:Int)==95)=(c.toNat==95):=by rw[AiM,AiG,AiG]; omega
  by_cases hl:i+1=s.size
  ·have el:((i:Int)==(s.size:Int)-1)=true:=by rw[AiG]; omega
   rw[AhZ hl,el];cases JT c<;>rfl
  ·have el:((i:Int)==(s.size:Int)-1)=false:=by rw[Aiv]; omega
   rw[AhX hl,el];by_cases h0:i=0
   ·have e0:((i:Int)==0)=true:=by rw[AiG]; omega
    rw[AhZ h0,e0];show(if(true&&((true&&JT c)||((c.toNat:Int)==95)))=true then _ else _)=_;rw[e95];cases JT c<;>cases c.toNat==95<;>rfl
   ·have e0:((i:Int)==0)=false:=by rw[Aiv]; omega
    rw[AhX h0,e0];cases Adz c<;>rfl
 ·have hd:=dec_hi h hb;generalize Utf8.decode s i=q at hd;obtain⟨n,k⟩:=q;have hn:128≤n:=hd;obtain⟨b1,b2,b3⟩:=AgY c hb;show(Ab (gu _ (C4 (n:Int))) _)=_;rw[Abu n hn,Acl,Aa,Du,AiO,AiO,AhX (by decide),Du];have e95:((n:Int)==95)=false:=by rw[Aiv]; omega
  by_cases hl:i+1=s.size
  ·have el:((i:Int)==(s.size:Int)-1)=true:=by rw[AiG]; omega
   rw[AhZ hl,el,b1];rfl
  ·have el:((i:Int)==(s.size:Int)-1)=false:=by rw[Aiv]; omega
   rw[AhX hl,el,AhX (by decide)];rw[Acl,Aa,Du];show(if(((i:Int)==0)&&((((i:Int)==0)&&false)||((n:Int)==95)))=true then _ else Ab (gu _ (C2 (n:Int))) _)=_;rw[Ady n hn,Acl,Aa,e95,AiO,Bool.or_false,AiO,AhX (by decide)];by_cases h0:i=0
   ·have e0:((i:Int)==0)=true:=by rw[AiG]; omega
    rw[AhZ h0,e0,b1,b3];rfl
   ·have e0:((i:Int)==0)=false:=by rw[Aiv]; omega
    rw[AhX h0,e0,b2];rfl
theorem AaU {s:ByteArray}{i:Nat}(h: ¬i<s.size):A2 s i=some (.inr (.inl i)):=by
 unfold A2;rw[AhX h]
theorem Se {s:ByteArray}(hs:s.size≤16): ∀(r:List UInt8) (i n:Nat),1≤i→s.data.toList.drop i=r→i≤s.size→r.length<n→∃z,iter (A2 s) n i=some (if Ys r=true then .inl z else .inr false)
 |r,i,0,_,_,_,h=>by omega
 | [],i,n+1,_,h,hi,_=>by
  have hl:s.data.toList.length≤i:=List.drop_eq_nil_iff.1 h;rw[B5]at hl;refine⟨i,?_⟩;show Ab (A2 s i) _=_;rw[AaU (by omega)];rfl
 |c::r,i,n+1,h1,h,hi,hn=>by
  have hc:s.data.toList[i]? =some c:=by
   have:(s.data.toList.drop i)[0]? =some c:=by rw[h]; rfl
   simpa using this
  have hlt:i<s.size:=by
   have:=(Aia.1 hc).1;rw[B5]at this; exact this
  have hr:s.data.toList.drop (i+1)=r:=by rw[←AiR,h]; rfl
  have hlen:r.length=s.size-(i+1):=by rw[←hr,Aix,B5]
  obtain⟨z,ih⟩:=Se hs r (i+1) n (by omega) hr (by omega) (by rw[Ah1]at hn; omega);refine⟨z,?_⟩;show Ab (A2 s i) _=_;rw[Sg hs hc,AhX (show¬i=0 from by omega)];cases r with
  |nil=>
   rw[AhZ (show i+1=s.size from by rw[Aij]at hlen; omega)];show _=some (if JT c=true then _ else _);cases JT c with
   |false=>rfl
   |true=>rw[AhZ rfl,AhZ rfl]; exact ih
  |cons d r=>
   rw[AhX (show¬i+1=s.size from by rw[Ah1]at hlen; omega)];show _=some (if(Adz c&&Ys (d::r))=true then _ else _);cases Adz c with
   |false=>rfl
   |true=>
    rw[AhZ rfl,Aiw];exact ih
theorem Adt (s:ByteArray):FK s=some (TO s.data.toList):=by
 unfold FK;cases hl:s.data.toList with
 |nil=>
  have:eqS s (⟨#[]⟩:ByteArray)=true:=by unfold eqS; rw[hl]; rfl
  rw[this,Bool.true_or,AhZ rfl];rfl
 |cons c r=>
  have h0:eqS s (⟨#[]⟩:ByteArray)=false:=by unfold eqS; rw[hl]; rfl
  have hz:s.size=r.length+1:=by rw[←B5,hl]; rfl
  rw[h0,AiK];by_cases hs:s.size≤16
  ·rw[AiF (show¬(s.size:Int)>16 from by omega),AhX (by decide)];have hc:s.data.toList[0]? =some c:=by rw[hl]; rfl
   have hd:s.data.toList.drop 1=r:=by rw[hl]; rfl
   have e': ∀n,r.length<n→∃z,iter (A2 s) (n+1) 0=some (if TO (c::r)=true then .inl z else .inr false):=by
    intro n hn;obtain⟨z,ht⟩:=Se hs r 1 n (by decide) hd (by omega) hn;refine⟨z,?_⟩;show Ab (A2 s 0) _=_;rw[Sg hs hc,AhZ rfl];cases r with
    |nil=>
     rw[AhZ (show 0+1=s.size from by rw[hz]; rfl)];show _=some (if JT c=true then _ else _);cases JT c with
     |false=>rfl
     |true=>rw[AhZ rfl,AhZ rfl]; exact ht
    |cons d r=>
     rw[AhX (show¬0+1=s.size from by rw[hz,Ah1]; omega)];show _=some (if((JT c||c.toNat==95)&&Ys (d::r)&&decide ((c::d::r).length≤16))=true then _ else _);rw[Aim (show(c::d::r).length≤16 from by rw[Ah1,←hz]; exact hs),Bool.and_true];cases JT c||c.toNat==95 with
     |false=>rfl
     |true=>
      rw[AhZ rfl,Aiw];exact ht
   obtain⟨z,e⟩: ∃z,iter (A2 s) FA 0=some (if TO (c::r)=true then .inl z else .inr false):=e' 18446744073709551615 (by omega);rw[e,Aa];cases TO (c::r)<;>rfl
  ·rw[Aim (show(s.size:Int)>16 from by omega),AhZ rfl];cases r with
   |nil=>rw[hz]at hs; simp at hs
   |cons d r=>
    show _=some ((JT c||c.toNat==95)&&Ys (d::r)&&decide ((c::d::r).length≤16));rw[AiF (show¬(c::d::r).length≤16 from by rw[Ah1,←hz]; exact hs),AiO]
def Dd:List UInt8→List (List UInt8)
 | []=> [[]]
 |c::l=>if c=46 then []::Dd l else match Dd l with|h::t=>(c::h)::t| []=> [[c]]
theorem VY (c:UInt8)(l:List UInt8):Dd (c::l)=if c=46 then []::Dd l else match Dd l with|h::t=>(c::h)::t| []=> [[c]]:=rfl
theorem PQ: ∀l:List UInt8,Dd l≠[]
 | []=>by simp[Dd]
 |c::l=>by
  unfold Dd;split
  ·simp
  ·split<;>simp
theorem UN: ∀(p r:List UInt8),(46:UInt8)∉p→Dd (p++46::r)=p::Dd r
 | [],r,_=>by simp[Dd]
 |c::p,r,h=>by
  have hc:c≠46:=fun e=>h (by rw[e]; exact Aie);have ih:=UN p r fun q=>h (Aig _ q);show Dd (c::(p++46::r))=_;rw[VY,AhX hc,ih]
theorem UM: ∀(p:List UInt8),(46:UInt8)∉p→Dd p=[p]
 | [],_=>rfl
 |c::p,h=>by
  have hc:c≠46:=fun e=>h (by rw[e]; exact Aie);have ih:=UM p fun q=>h (Aig _ q);unfold Dd;rw[AhX hc,ih]
theorem Qp: ∀(l:List UInt8),(Dd l).length=l.count 46+1
 | []=>rfl
 |c::l=>by
  have ih:=Qp l;unfold Dd;by_cases hc:c=46
  ·rw[AhZ hc,hc,List.count_cons_self,Ah1,ih]
  ·rw[AhX hc,List.count_cons_of_ne hc];cases h:Dd l with
   |nil=>exact absurd h (PQ l)
   |cons a t=>rw[h]at ih; simpa using ih
theorem QT: ∀(l:List UInt8) (c:UInt8),(Lib.indexByte l c= -1∧c∉l)∨∃p r,l=p++c::r∧c∉p∧Lib.indexByte l c=(p.length:Int)
 | [],c=> .inl ⟨rfl,by simp⟩
 |b::l,c=>by
  unfold Lib.indexByte;cases hb:b==c with
  |true=>
   have e:b=c:=by simpa using hb
   exact .inr ⟨[],l,by rw[e]; rfl,by simp,rfl⟩
  |false=>
   have e:b≠c:=by simpa using hb
   rcases QT l c with ⟨h1,h2⟩|⟨p,r,h1,h2,h3⟩
   ·refine .inl ⟨by rw[h1]; rfl,?_⟩;intro h;rcases Aio.1 h with q|q
    ·exact e q.symm
    ·exact h2 q
   ·refine .inr ⟨b::p,r,by rw[h1]; rfl,?_,?_⟩
    ·intro h;rcases Aio.1 h with q|q
     ·exact e q.symm
     ·exact h2 q
    ·rw[h3];have:((p.length:Int)== -1)=false:=by rw[Aiv]; omega
     rw[AhX (by decide),AhX (by rw[this]; decide),Ah1];omega
theorem N5 (s:ByteArray)(a b:Nat):(s.extract a b).data.toList=(s.data.toList.take b).drop a:=by
 rw[ByteArray.data_extract,Array.toList_extract,List.extract_eq_take_drop,List.take_drop];by_cases h:a≤b
 ·rw[Nat.add_sub_cancel' h]
 ·rw[Nat.sub_eq_zero_of_le (by omega),AiW];rw[AiA (by rw[Aik]; omega),AiA (by rw[Aik]; omega)]
def Aep (l:List UInt8):Bool:=(Dd l).all TO
theorem b5_eq (b:ByteArray)(s:Unit×Nat):BD b s=some ((),if TO b.data.toList=true then 0 else 1):=by
 unfold BD;rw[Adt,Aa];cases TO b.data.toList<;>rfl
def cbk:(Unit×Nat)→ByteArray→Option (Bool×(Unit×Nat)):=fun(s:(Unit)×Nat) (b0:ByteArray)=>if s.2=0 then Ab (BD b0 s) fun y=>some (y.2==0,y)else none
theorem Afq (b:ByteArray):cbk ((),0) b=some (TO b.data.toList,((),if TO b.data.toList=true then 0 else 1)):=by
 unfold cbk;rw[AhZ rfl,b5_eq,Aa];cases TO b.data.toList<;>rfl
theorem Vi (s:ByteArray)(h:s.size≤1000):B6 s (⟨#[46]⟩:ByteArray)=some (Aa0 s 46):=by
 obtain⟨x,hx,h1,h2⟩:=Vj s;unfold B6 AT BO;rw[Du];cases he:eqS (⟨#[46]⟩:ByteArray) s with
 |true=>
  have e:=(Q1.1 he);subst e;rfl
 |false=>rfl
theorem R0: ∀(m:Nat) (s:ByteArray) (n:Nat),s.size≤m→m<n→m≤100→
  ∃z:ByteArray,iter (AM cbk (⟨#[46]⟩:ByteArray) 0) n (s,((),0))=some (if(Dd s.data.toList).dropLast.all TO=true then .inl (z,((),0))else .inr ((⟨#[46]⟩:ByteArray),z,0,((),1)))∧
   ((Dd s.data.toList).dropLast.all TO=true→some z.data.toList=(Dd s.data.toList).getLast?)
 |m,s,0,_,h,_=>by omega
 |m,s,n+1,hs,hn,hm=>by
  have hx:B6 s (⟨#[46]⟩:ByteArray)=some (Aa0 s 46):=Vi s (by omega);show∃z,Ab (AM cbk (⟨#[46]⟩:ByteArray) 0 (s,((),0))) _=_∧_;rcases QT s.data.toList 46 with ⟨h1,h2⟩|⟨p,r,h1,h2,h3⟩
  ·have e:AM cbk (⟨#[46]⟩:ByteArray) 0 (s,((),0))=some (.inr (.inl (s,((),0)))):=by
    unfold AM;show Ab (B6 s (⟨#[46]⟩:ByteArray)) _=_;rw[hx,Aa,show Aa0 s 46= -1 from h1];rfl
   rw[e,UM _ h2];exact⟨s,rfl,fun _=>rfl⟩
  ·have hz:s.size=p.length+1+r.length:=by rw[←B5,h1,Ah0,Ah1]; omega
   have e1:T3 s 0 (w64 ((p.length:Int)+0))=some (s.extract 0 p.length):=by
    rw[Int.add_zero,Gx (by omega) (by omega),HQ (by omega) (by omega) (by omega)];rfl
   have e2:T3 s (w64 ((p.length:Int)+((⟨#[46]⟩:ByteArray).size:Int))) (s.size:Int)=some (s.extract (p.length+1) s.size):=by
    have:((⟨#[46]⟩:ByteArray).size:Int)=1:=rfl;rw[this,Gx (by omega) (by omega),HQ (by omega) (by omega) (by omega)];rfl
   have l1:(s.extract 0 p.length).data.toList=p:=by
    rw[N5,h1,List.take_left]; rfl
   have l2:(s.extract (p.length+1) s.size).data.toList=r:=by
    rw[N5,←B5,List.take_length,h1];rw[←AiR,List.drop_left]; rfl
   have e:AM cbk (⟨#[46]⟩:ByteArray) 0 (s,((),0))=some (if TO p=true then .inl (s.extract (p.length+1) s.size,((),0))else .inr (.inr ((⟨#[46]⟩:ByteArray),s,0,((),1)))):=by
    unfold AM;show Ab (B6 s (⟨#[46]⟩:ByteArray)) _=_;rw[hx,Aa,show Aa0 s 46=(p.length:Int)from h3,AhX (by rw[Ah4]; omega),e1,Aa,Afq,Aa,l1];cases hlab:TO p with
    |false=>rfl
    |true=>
     rw[AhX (by simp)];dsimp only;rw[e2,Aa];rfl
   rw[e,h1,UN p r h2];have hsz:(s.extract (p.length+1) s.size).size=r.length:=by rw[←B5,l2]
   obtain⟨z,ih1,ih2⟩:=R0 (m-1) (s.extract (p.length+1) s.size) n (by omega) (by omega) (by omega);rw[l2]at ih1 ih2;have hd:(p::Dd r).dropLast=p::(Dd r).dropLast:=by
    cases hq:Dd r with
    |nil=>exact absurd hq (PQ r)
    |cons a t=>rfl
   have hg:(p::Dd r).getLast? =(Dd r).getLast? :=by
    cases hq:Dd r with
    |nil=>exact absurd hq (PQ r)
    |cons a t=>rfl
   rw[hd,hg,AiE];cases TO p with
   |false=>exact⟨s,rfl,fun h=>by cases h⟩
   |true=>exact⟨z,ih1,ih2⟩
theorem Uh {α:Type}(f:α→Bool): ∀(l:List α) (x:α),l.getLast? =some x→l.all f=(l.dropLast.all f&&f x)
 | [],x,h=>by cases h
 | [a],x,h=>by cases h; simp
 |a::b::l,x,h=>by
  have ih:=Uh f (b::l) x (by simpa using h);show(f a&&(b::l).all f)=((f a&&(b::l).dropLast.all f)&&f x);rw[ih,Bool.and_assoc]
def isB (l:List UInt8)(n k:Nat):Bool:=decide (l.length≤k)&&decide ((Dd l).length≤n)&&Aep l
theorem AaJ (s:ByteArray)(n k:Nat)(hk:k≤100):Cu s (n:Int) (k:Int)=some (isB s.data.toList n k):=by
 rw[TF]; unfold isB;have hz:=B5 s;by_cases h1:s.size≤k
 ·rw[AiF (show¬(s.size:Int)>k from by omega),AhX (by decide),Aim (show s.data.toList.length≤k from by omega)];have ec:Fg s (⟨#[46]⟩:ByteArray)=some ((s.data.toList.count 46:Nat):Int):=rfl;rw[ec,Aa,Aa,Qp];by_cases h2:s.data.toList.count 46+1≤n
  ·rw[AiF (show¬((s.data.toList.count 46:Nat):Int)≥(n:Int)from by omega),AhX (by decide),Aim h2];obtain⟨z,e1,e2⟩:=R0 100 s FA (by omega) (by have:=JK; omega) (by decide);have es:Bc cbk (⟨#[46]⟩:ByteArray) s 0 ((),0)=some ((⟨#[46]⟩:ByteArray),z,0,((),if Aep s.data.toList=true then 0 else 1)):=by
    unfold Bc;rw[AhX (by decide),e1,Aa];unfold Aep;cases hd:(Dd s.data.toList).dropLast.all TO with
    |true=>
     have hlast:=(e2 hd).symm;rw[Uh TO _ _ hlast,hd,AhZ rfl];show Ab (cbk ((),0) z) _=_;rw[Afq,Aa,Aiw]
    |false=>
     have:(Dd s.data.toList).all TO=false:=by
      cases hl:(Dd s.data.toList).getLast? with
      |none=>exact absurd (List.getLast?_eq_none_iff.1 hl) (PQ _)
      |some x=>rw[Uh TO _ x hl,hd]; rfl
     rw[this];rfl
   show Ab (Bc cbk (⟨#[46]⟩:ByteArray) s 0 ((),0)) _=_;rw[es,Aa];cases Aep s.data.toList<;>rfl
  ·rw[Aim (show((s.data.toList.count 46:Nat):Int)≥(n:Int)from by omega),AhZ rfl,AiF h2];rfl
 ·rw[Aim (show(s.size:Int)>k from by omega),AhZ rfl,Aa,AhZ rfl,AiF (show¬s.data.toList.length≤k from by omega)];rfl
theorem Iy {α:Type}{l:List α}{i:Nat}{x:α}(h:l[i]? =some x):idx l (i:Int)=some x:=by
 unfold idx;rw[AhZ (by omega)];exact h
def toL (s:ByteArray):List UInt8:=s.data.toList
theorem Ug {α:Type}(b:Nat){xs ys:List α}(h:(xs.length+ys.length)*b≤140737488355328)(h1:xs.length+ys.length≤140737488355328):app b xs ys=some (xs++ys):=by unfold app; rw[AhZ ⟨h,h1⟩]
def AcH:List UInt8→Bool
 |a::b::r=>a==42&&b==46&&isB r 7 62
 |_=>false
theorem Re {α:Type}{l:List α}{i:Nat}{c:α}{r:List α}(h:l.drop i=c::r):l[i]? =some c∧l.drop (i+1)=r∧i<l.length:=by
 have h1:l[i]? =some c:=by
  have:(l.drop i)[0]? =some c:=by rw[h]; rfl
  simpa using this
 exact⟨h1,by rw[←AiR,h]; rfl,(Aia.1 h1).1⟩
theorem AfI {i:Nat}(h:i≤1000000):w64 ((i:Int)+1)=((i+1:Nat):Int):=by rw[Gx (by omega) (by omega)]; omega
structure FewP (c:g_api_Cert):Prop where
 issuer:c.Issuer.size≤100000
 subject:c.Subject.size≤100000
 names: ∀s∈c.Names,s.size≤100000
 nnames:c.Names.length≤100000
 permit: ∀s∈c.Permit,s.size≤100000
 npermit:c.Permit.length≤100000
 nproms:c.Proms.length≤100000
structure Fits (c:g_api_Cert):Prop where
 few:FewP c
 serial: -9223372036854775808≤c.Serial∧c.Serial≤9223372036854775807
 frm: -9223372036854775808≤c.From∧c.From≤9223372036854775807
 til: -9223372036854775808≤c.Until∧c.Until≤9223372036854775807
 depth: -9223372036854775808≤c.Depth∧c.Depth≤9223372036854775807
 proms: ∀p∈c.Proms,(-9223372036854775808≤p.Log∧p.Log≤9223372036854775807)∧(-9223372036854775808≤p.At∧p.At≤9223372036854775807)
theorem AeX: ∀{d:Nat} {x:g_api_Item},mayB d x=true→mayB (d+1) x=true
 |0,x,h=>by cases h
 |d+1,x,h=>by
  simp only[mayB,AhT,Aif]at h;unfold mayB;simp only[AhT,Aif];exact⟨h.1,fun y hy=>AeX (h.2 y hy)⟩
theorem AeY {d e:Nat}{x:g_api_Item}(h:d≤e)(hm:mayB d x=true):mayB e x=true:=by
 induction h with
 |refl=>exact hm
 |step _ ih=>exact AeX ih
theorem AaN {d:Nat}{x y:g_api_Item}(h:mayB (d+1) x=true)(hy:y∈x.L):mayB d y=true:=by
 simp only[mayB,AhT,Aif]at h;exact h.2 y hy
structure Nums (c:g_api_Cert):Prop where
 serial:0≤c.Serial∧c.Serial≤1099511627776
 frm:0≤c.From∧c.From≤1099511627776
 til:0≤c.Until∧c.Until≤1099511627776
 key:c.Key.toNat<2305843009213691579
 depth:0≤c.Depth∧c.Depth≤4
 sig:sigB c.Sig=true
 proms: ∀p∈c.Proms,promBC p=true
theorem OF: ∀{d e:Nat} {x:g_api_Item},mayB d x=true→d≤e→putB e x=putB d x
 |0,e,x,h,_=>by cases h
 |d+1,0,x,_,h=>by omega
 |d+1,e+1,x,h,hd=>by
  have hf: ∀(l:List g_api_Item),(∀y∈l,mayB d y=true)→l.flatMap (putB e)=l.flatMap (putB d):=by
   intro l;induction l with
   |nil=>intro _; rfl
   |cons y l ih=>
    intro hl;rw[AiH,AiH,OF (hl y Aie) (by omega),ih fun z hz=>hl z (Aig _ hz)]
  have:=hf x.L fun y hy=>AaN h hy;show toB x.Tag::(QQ (x.B++x.L.flatMap (putB e)).length++(x.B++x.L.flatMap (putB e)))=toB x.Tag::(QQ (x.B++x.L.flatMap (putB d)).length++(x.B++x.L.flatMap (putB d)));rw[this]
theorem Ae8 {d:Nat}{x y:g_api_Item}(h:mayB (d+1) x=true)(hd:d+1≤8)(hy:y∈x.L):(putB 8 y).length≤(putB 8 x).length:=by
 rw[OF h hd,OF (AaN h hy) (by omega)];have h1:=XL (putB d) hy;show _≤(toB x.Tag::(QQ (x.B++x.L.flatMap (putB d)).length++(x.B++x.L.flatMap (putB d)))).length;have e:(x.B++x.L.flatMap (putB d)).length=x.B.length+(x.L.flatMap (putB d)).length:=Ah0;rw[Ah1,Ah0,e];omega
theorem Ae7 {d:Nat}{l:List g_api_Item}(h:mayB (d+1) (W9 l)=true): ∀y∈l,mayB d y=true:=fun y hy=>AaN h hy
structure Okc (c:g_api_Cert):Prop where
 form:Form c
 fb:formB c=true
 may:mayB 8 (wholeI c)=true
 len:(putB 8 (wholeI c)).length≤2048
theorem okc {c:g_api_Cert}(h:checkV c=0):Okc c:=by
 unfold checkV at h;cases hf:formB c with
 |false=>rw[hf]at h; simp at h
 |true=>
  rw[hf,AhZ rfl]at h;by_cases h2:mayB 8 (wholeI c)=true∧(putB 8 (wholeI c)).length≤2048
  ·exact⟨Abl hf,hf,h2.1,h2.2⟩
  ·rw[AhX h2]at h; cases h
theorem Okc.chk {c:g_api_Cert}(h:Okc c):checkV c=0:=by
 unfold checkV;rw[h.fb,AhZ rfl,AhZ ⟨h.may,h.len⟩]
theorem TL {c:g_api_Cert}(h:Okc c):mayB 7 (PJ c)=true:=Ae7 h.may _ (by simp)
theorem AgC {c:g_api_Cert}(h:Okc c):mayB 6 (Aam c)=true:=Ae7 (TL h) _ (by simp)
def Pk (c:g_api_Cert):List UInt8:=putB 8 (PJ c)
def Wc (c:g_api_Cert):List UInt8:=putB 8 (Aam c)
theorem WO {c:g_api_Cert}(h:Okc c):(Pk c).length≤2048:=by
 have h1:=Ae8 (y:=PJ c) h.may (by decide) (by show PJ c∈[PJ c,_]; simp);have h2:=h.len;show(putB 8 (PJ c)).length≤_;omega
theorem AeL {c:g_api_Cert}(h:Okc c):(Wc c).length≤2048:=by
 have h1:=Ae8 (y:=Aam c) (TL h) (by decide) (by show Aam c∈[Aam c,_]; simp);have h2:=WO h;show(putB 8 (Aam c)).length≤_;have h3:(putB 8 (PJ c)).length≤2048:=h2;omega
theorem Ab6 {x:g_api_Item}(h:mayB 8 x=true)(hl:(putB 8 x).length≤8192):I1 x=some (putB 8 x,0):=by
 rw[Afz (by omega),AhZ h,AhZ hl]
theorem Aej {c:g_api_Cert}(h:Okc c):I6 c=some (Pk c,0):=by
 unfold I6 HC;have hl:=WO h;rw[Q7,h.chk,Aa,AhX (by decide),X6 h.form.sized,Aa,Ab6 (AeY (by decide) (TL h)) (by show(Pk c).length≤_; omega)];rfl
theorem AhH {c:g_api_Cert}(h:Okc c):Kc c=some (Wc c,0):=by
 unfold Kc HD;have hl:=AeL h;rw[Q7,h.chk,Aa,AhX (by decide),Aal h.form.sized,Aa,Ab6 (AeY (by decide) (AgC h)) (by show(Wc c).length≤_; omega)];rfl
end Go.Proofs.YtnhdojckpcbjeaaGreatDoor
end
