/- Several texts, one behind the other. Conditions: none. -/
import Derived.Test.YtnhdojckpcbjeaaGreatDoorZi
import Derived.Test.YtnhdojckpcbjeaaGreatDoorZj
import Derived.Test.YtnhdojckpcbjeaaGreatDoorZk
import Derived.Test.YtnhdojckpcbjeaaGreatDoorZl
import Derived.Test.YtnhdojckpcbjeaaGreatDoorZm
import Derived.KernelRfl
import Derived.Test.YtnhdojckpcbjeaaGreatDoorZb
set_option linter.unusedSimpArgs false
set_option linter.unusedVariables false
set_option maxHeartbeats 20000000
set_option maxRecDepth 100000
section
namespace Go.Proofs.YtnhdojckpcbjeaaGreatDoor
open Go Go.Gw Go.Ax
theorem Ch {α β:Type}(a:α)(k:α→β):bnd a k=k a:=rfl
theorem M8 {σ τ:Type}{step:σ→Option (σ⊕τ)}{s:σ}{t:τ}(n:Nat)(h:iter step n s=some t)(hn:n≤18446744073709551616):iter step Dq s=some t:=Aab h hn
theorem D5 {σ τ:Type}{step:σ→Option (σ⊕τ)}{n:Nat}{s s':σ}(h:step s=some (.inl s')):iter step (n+1) s=iter step n s':=by simp only[iter,h,Aa]
theorem FG {σ τ:Type}{step:σ→Option (σ⊕τ)}{n:Nat}{s:σ}{t:τ}(h:step s=some (.inr t)):iter step (n+1) s=some t:=by simp only[iter,h,Aa]
theorem Pc {α:Type}(b:Nat){xs ys:List α}(h:(xs.length+ys.length)*b≤140737488355328)(h1:xs.length+ys.length≤140737488355328):app b xs ys=some (xs++ys):=by unfold app; rw[Ags ⟨h,h1⟩]
theorem Xl {α:Type}{xs:List α}{lo hi:Nat}(h1:lo≤hi)(h2:hi≤xs.length):cut xs (lo:Int) (hi:Int)=some ((xs.drop lo).take (hi-lo)):=by
 unfold cut; rw[Ags ⟨by omega,by omega,by omega⟩]; simp
def Ab2 (hi lo:UInt64):UInt64:=
 let n:=(lo&&&2305843009213693951)+((KV hi 3)|||(Ek lo 61))
 let k:=(n&&&2305843009213693951)+Ek n 61
 if 2305843009213693951≤k.toNat then k-2305843009213693951 else k
theorem Aar (a b:UInt64):Hp a b=some (Ab2 a b):=by
 unfold Hp Ab2;simp only[Ch];generalize (b&&&2305843009213693951)+((KV a 3)|||(Ek b 61))=n;generalize (n&&&2305843009213693951)+Ek n 61=k;by_cases h:2305843009213693951≤k.toNat
 ·rw[Ags h,Ags (AgS (by omega))]; rfl
 ·rw[Agt h,Agt (by simp; omega)]; rfl
def Ady (a:UInt64):UInt64:=Ab2 0 a
theorem AdA (a:UInt64):EH a=some (Ady a):=by simp only[EH,Aar,Aa]; rfl
def IE (a b:UInt64):UInt64:=Ady (Ady a+Ady b)
theorem Xw (a b:UInt64):FN a b=some (IE a b):=by simp only[FN,AdA,Aa]; rfl
def phi (a0 a1:UInt64):UInt64:=
 let x1:=(a0&&&4294967295)*(a1&&&4294967295)
 let x2:=((Ek a0 32)*(a1&&&4294967295))+(Ek x1 32)
 let x3:=(x2&&&4294967295)+((a0&&&4294967295)*(Ek a1 32))
 (((Ek a0 32)*(Ek a1 32))+(Ek x2 32))+(Ek x3 32)
theorem Tv (a b:UInt64):Hs a b=some (phi a b,a*b):=rfl
def pmul (a b:UInt64):UInt64:=Ab2 (phi (Ady a) (Ady b)) (Ady a*Ady b)
theorem mul_eq (a b:UInt64):Il a b=some (pmul a b):=by simp only[Il,AdA,Tv,Aar,Aa]; rfl
def VL (a:UInt64):UInt64:=
 let b:=pmul a a
 let c:=pmul b b
 let d:=pmul c c
 pmul a (pmul d d)
theorem sev_eq (a:UInt64):D3 a=some (VL a):=by
 simp only[D3,CD,Ij,mul_eq,Aa]; rfl
def WQ (r i:Int):UInt64:=let n:=toU (w64 ((w64 ((w64 (3*r))+i))+1)); n*n*n+7
def pall (r:Int)(s:UInt64×UInt64×UInt64):UInt64:=IE (IE (IE 0 (VL (IE s.1 (WQ r 0)))) (VL (IE s.2.1 (WQ r 1)))) (VL (IE s.2.2 (WQ r 2)))
def NM (r:Int)(s:UInt64×UInt64×UInt64):UInt64×UInt64×UInt64:=(IE (VL (IE s.1 (WQ r 0))) (pall r s),IE (VL (IE s.2.1 (WQ r 1))) (pall r s),IE (VL (IE s.2.2 (WQ r 2))) (pall r s))
theorem Ae9 (i:Int)(a:UInt64)(r:Int)(all:UInt64):I0 i a r all=some (VL (IE a (WQ r i)),r,IE all (VL (IE a (WQ r i)))):=by
 simp only[I0,Ch,Xw,sev_eq,Aa]; rfl
theorem Ae8 (i:Int)(a:UInt64)(all:UInt64):IZ i a all=some (IE a all,all):=by
 simp only[IZ,Xw,Aa]
theorem AcU (a b c:UInt64)(r:Int)(all:UInt64):CQ (a,b,c) r all=some ((VL (IE a (WQ r 0)),VL (IE b (WQ r 1)),VL (IE c (WQ r 2))),r,IE (IE (IE all (VL (IE a (WQ r 0)))) (VL (IE b (WQ r 1)))) (VL (IE c (WQ r 2)))):=by
 have e0:idx [a,b,c] 0=some a:=rfl;have e1: ∀x,idx [x,b,c] 1=some b:=fun _=>rfl;have e2: ∀x y,idx [x,y,c] 2=some c:=fun _ _=>rfl;simp[CQ,CD,Fp,Ch,Ae9,e0,e1,e2]
theorem AcT (a b c all:UInt64):CP (a,b,c) all=some ((IE a all,IE b all,IE c all),all):=by
 have e0:idx [a,b,c] 0=some a:=rfl;have e1: ∀x,idx [x,b,c] 1=some b:=fun _=>rfl;have e2: ∀x y,idx [x,y,c] 2=some c:=fun _ _=>rfl;simp[CP,CD,Fo,Ch,Ae8,e0,e1,e2]
theorem Ae7 (r:Int)(s:UInt64×UInt64×UInt64):Ko r s=some (NM r s):=by
 obtain⟨a,b,c⟩:=s;unfold Ko;rw[AcU,Aa,AcT,Aa];rfl
def Yr (s:UInt64×UInt64×UInt64):UInt64×UInt64×UInt64:=NM 7 (NM 6 (NM 5 (NM 4 (NM 3 (NM 2 (NM 1 (NM 0 s)))))))
theorem ZX (s:UInt64×UInt64×UInt64):JG s=some (Yr s):=by
 simp only[JG,CD,Ae7,Aa];rfl
def ple:List UInt8→Nat→UInt64→UInt64
 | [],_,s=>s
 |b::bs,i,s=>ple bs (i+1) (s|||KV (toU (b.toNat:Int)) (8*i))
theorem b6_eq (b5:List UInt8): ∀(l:List UInt8) (i:Nat) (s:UInt64),b5.drop i=l→i+l.length≤1000000→CD (E4 b5) l.length (i:Int) s=some (ple l i s):=by
 intro l;induction l with
 |nil=>intro i s _ _; rfl
 |cons b l ih=>
  intro i s h hb;have hx:idx b5 (i:Int)=some b:=DE (by
   have:(b5.drop i)[0]? =some b:=by rw[h]; rfl
   simpa using this)
  simp only[Agw]at hb;have hw:w64 (8*(i:Int))=((8*i:Nat):Int):=by rw[Cx (by omega) (by omega)]; omega
  have hstep:E4 b5 (i:Int) s=some (s|||KV (toU (b.toNat:Int)) (8*i)):=by
   simp only[E4,hx,Aa,hw,Ch];rw[Ags (by omega)]; rfl
  show CD (E4 b5) (l.length+1) _ _=_;simp only[CD,hstep,Aa,ple];have:=ih (i+1) (s|||KV (toU (b.toNat:Int)) (8*i)) (by rw[←List.drop_drop,h]; rfl) (by omega);simpa using this
def pof (n:Nat)(l:List UInt8):List UInt64:=match n,l with|_,[]=> []|0,_=> []|n+1,l=>ple (l.take 7) 0 0::pof n (l.drop 7)
theorem AeY (n:Nat): ∀l,(pof n l).length≤n:=by
 induction n with
 |zero=>intro l; cases l<;>simp[pof]
 |succ n ih=>intro l; cases l with
  |nil=>simp[pof]
  |cons a l=>simp only[pof,Agw]; have:=ih ((a::l).drop 7); omega
theorem Ac0 (a0:List UInt8)(hb:a0.length≤1000000): ∀(n i:Nat) (out:List UInt64),a0.length≤i+n→i≤1000000+7→out.length+n≤1000000→
  iter (A9 (fun(s:(List UInt64)) (b0:List UInt8)=>Ab (E5 b0 s) fun y=>some (true,y)) a0 7) (n+1) ((i:Int),out)=some (.inl (out++pof n (a0.drop i))):=by
 intro n;induction n with
 |zero=>
  intro i out h _ _;have:a0.drop i=[]:=AgU (by omega);refine FG ?_;simp only[A9,this];rw[Agt (by simp; omega)];simp[pof]
 |succ n ih=>
  intro i out h hi ho;by_cases hlt:i<a0.length
  ·obtain⟨b,l,hl⟩: ∃b l,a0.drop i=b::l:=⟨a0[i],a0.drop (i+1),List.drop_eq_getElem_cons hlt⟩;have hc1:cut a0 (i:Int) (a0.length:Int)=some (a0.drop i):=by
    rw[Xl (by omega) (by omega)]; congr 1; rw[AgY (by simp)]
   have hlen:(a0.drop i).length=a0.length-i:=by simp
   have hm:w64 ((i:Int)+VV 7 ((a0.drop i).length:Int))=((i+min 7 (a0.length-i):Nat):Int):=by
    rw[Cx]<;>unfold VV<;>split<;>omega
   have hc2:cut a0 (i:Int) ((i+min 7 (a0.length-i):Nat):Int)=some ((a0.drop i).take 7):=by
    rw[Xl (by omega) (by omega)]; congr 1;rw[Nat.add_sub_cancel_left];by_cases h7:7≤a0.length-i
    ·rw[Nat.min_eq_left h7]
    ·rw[Nat.min_eq_right (by omega),AgY (by simp),AgY (by simp; omega)]
   have hw:w64 ((i:Int)+7)=((i+7:Nat):Int):=by rw[Cx (by omega) (by omega)]; omega
   have hb4:E5 ((a0.drop i).take 7) out=some (out++[ple ((a0.drop i).take 7) 0 0]):=by
    have:=b6_eq ((a0.drop i).take 7) ((a0.drop i).take 7) 0 0 rfl (by simp; omega);simp only[E5];rw[show((0:Int))=((0:Nat):Int)from rfl,this];simp only[Aa];rw[Pc 8 (by simp; omega) (by simp; omega)];rfl
   rw[D5 (s':=(((i+7:Nat):Int),out++[ple ((a0.drop i).take 7) 0 0]))]
   ·rw[ih (i+7) _ (by omega) (by omega) (by simp; omega)];rw[hl];simp only[pof];rw[←hl,List.drop_drop];simp
   ·simp only[A9];rw[Ags (AgS (by omega)),hc1];simp only[Aa,hm,hc2,hb4,hw];rfl
  ·have:a0.drop i=[]:=AgU (by omega);refine FG ?_;simp only[A9,this];rw[Agt (by simp; omega)];simp[pof]
theorem of_eq (a0:List UInt8)(hb:a0.length≤900000):JH a0=some (pof a0.length a0):=by
 have h:=Ac0 a0 (by omega) a0.length 0 [] (by omega) (by omega) (by simp; omega);have h':=M8 _ h (by omega);simp only[JH,DD,CW];rw[Agt (by decide)];simp only[Aa,List.drop_zero,Ag4]at h'⊢;rw[show((0:Int))=((0:Nat):Int)from rfl,h'];simp only[Aa]
def Mi (n:Nat)(l:List UInt64)(s:UInt64×UInt64×UInt64):UInt64×UInt64×UInt64:=match n,l with|_,[]=>s|0,_=>s|_+1,[x]=>Yr (IE s.1 x,s.2.1,s.2.2)|n+1,x::y::l=>Mi n l (Yr (IE s.1 x,IE s.2.1 y,s.2.2))
theorem b4_eq1 (x:UInt64)(s:UInt64×UInt64×UInt64):CD (Gz [x]) 1 0 s=some (IE s.1 x,s.2.1,s.2.2):=by
 have e0:idx [x] (0:Int)=some x:=rfl;have e1:idx [s.1,s.2.1,s.2.2] (0:Int)=some s.1:=rfl;simp[CD,Gz,e0,e1,Xw,Ch]
theorem b4_eq2 (x y:UInt64)(s:UInt64×UInt64×UInt64):CD (Gz [x,y]) 2 0 s=some (IE s.1 x,IE s.2.1 y,s.2.2):=by
 have e0:idx [x,y] (0:Int)=some x:=rfl;have e1:idx [s.1,s.2.1,s.2.2] (0:Int)=some s.1:=rfl;have e2:idx [x,y] 1=some y:=rfl;have e3:idx [IE s.1 x,s.2.1,s.2.2] 1=some s.2.1:=rfl;simp[CD,Gz,e0,e1,e2,e3,Xw,Ch]
theorem b3_nil (fst:Bool)(hf:fst=true)(s:UInt64×UInt64×UInt64):Co ([],fst,s.1,s.2.1,s.2.2)=some (.inl ([],false,Yr s)):=by
 subst hf;have hc:cut ([]:List UInt64) 0 0=some []:=rfl;have hmin:VV 2 (([]:List UInt64).length:Int)=0:=rfl;simp only[Co,Bool.true_or,if_true,hmin];rw[show((([]:List UInt64).length:Int))=0 from rfl,hc];simp only[Aa,CD,AgI,ZX]
theorem Aeb (s:UInt64×UInt64×UInt64):Co ([],false,s.1,s.2.1,s.2.2)=some (.inr s):=rfl
theorem Aea (fst:Bool)(x:UInt64)(s:UInt64×UInt64×UInt64):Co ([x],fst,s.1,s.2.1,s.2.2)=some (.inl ([],false,Yr (IE s.1 x,s.2.1,s.2.2))):=by
 have hmin:VV 2 (([x]:List UInt64).length:Int)=1:=rfl;have h0:(fst||decide ((([x]:List UInt64).length:Int)>0))=true:=by simp
 have hc:cut [x] 0 1=some [x]:=rfl;have hc2:cut [x] 1 1=some []:=rfl;simp only[Co,h0,if_true,hmin];rw[show((([x]:List UInt64).length:Int))=1 from rfl,hc,hc2];simp only[Aa,Agw,AgI];rw[b4_eq1];simp only[Aa,ZX]
theorem Ad9 (fst:Bool)(x y:UInt64)(l:List UInt64)(s:UInt64×UInt64×UInt64):Co (x::y::l,fst,s.1,s.2.1,s.2.2)=some (.inl (l,false,Yr (IE s.1 x,IE s.2.1 y,s.2.2))):=by
 have hmin:VV 2 ((x::y::l).length:Int)=((2:Nat):Int):=by unfold VV; rw[Agt (by simp; omega)]; rfl
 have h0:(fst||decide (((x::y::l).length:Int)>0))=true:=by simp; right; omega
 have hc:cut (x::y::l) ((0:Nat):Int) ((2:Nat):Int)=some [x,y]:=by rw[Xl (by omega) (by simp)]; rfl
 have hc2:cut (x::y::l) ((2:Nat):Int) ((x::y::l).length:Int)=some l:=by rw[Xl (by simp) (by omega)]; simp
 simp only[Co,h0,if_true,hmin];rw[show((0:Int))=((0:Nat):Int)from rfl,hc,hc2];simp only[Aa,Agw,AgI];rw[show((0:Nat):Int)=0 from rfl,b4_eq2];simp only[Aa,ZX]
theorem Wi: ∀(n:Nat) (l:List UInt64) (s:UInt64×UInt64×UInt64),l.length≤n→iter Co (n+1) (l,false,s.1,s.2.1,s.2.2)=some (Mi n l s):=by
 intro n;induction n with
 |zero=>
  intro l s h;have:l=[]:=List.eq_nil_of_length_eq_zero (by omega);subst this;rw[FG (Aeb s)]; simp[Mi]
 |succ n ih=>
  intro l s h;match l,h with
  | [],_=>rw[FG (Aeb s)]; simp[Mi]
  | [x],_=>
   rw[D5 (Aea false x s)];have:=ih [] (Yr (IE s.1 x,s.2.1,s.2.2)) (by simp);rw[this]; simp[Mi]
  |x::y::l,h=>
   rw[D5 (Ad9 false x y l s)];have:=ih l (Yr (IE s.1 x,IE s.2.1 y,s.2.2)) (by simp at h; omega);rw[this]; simp[Mi]
def Adz (l:List UInt64)(s:UInt64×UInt64×UInt64):UInt64×UInt64×UInt64:=match l with| []=>Yr s|l=>Mi l.length l s
def hsum (b:List UInt8):UInt64×UInt64:=((Adz (pof b.length b) (0,0,toU (b.length:Int))).1,(Adz (pof b.length b) (0,0,toU (b.length:Int))).2.1)
theorem sum_eq (b:List UInt8)(hb:b.length≤900000):Ma b=some (hsum b):=by
 simp only[Ma,of_eq b hb,Aa];have hl:=AeY b.length b;have hk:hsum b=((Adz (pof b.length b) (0,0,toU (b.length:Int))).1,(Adz (pof b.length b) (0,0,toU (b.length:Int))).2.1):=rfl;rw[hk];clear hk;generalize pof b.length b=l at*;have h:iter Co Dq (l,true,0,0,toU (b.length:Int))=some (Adz l (0,0,toU (b.length:Int))):=by
  refine M8 (l.length+2) ?_ (by omega);match l with
  | []=>
   rw[show([]:List UInt64).length+2=1+1 from rfl,D5 (b3_nil true rfl (0,0,toU (b.length:Int)))];have:=Wi 0 [] (Yr (0,0,toU (b.length:Int))) (by simp);rw[this]; simp[Mi,Adz]
  | [x]=>
   rw[show([x]:List UInt64).length+2=2+1 from rfl,D5 (Aea true x (0,0,toU (b.length:Int)))];have:=Wi 1 [] (Yr (IE 0 x,0,toU (b.length:Int))) (by simp);rw[this]; simp[Mi,Adz]
  |x::y::l=>
   rw[D5 (Ad9 true x y l (0,0,toU (b.length:Int)))];have:=Wi (l.length+2) l (Yr (IE 0 x,IE 0 y,toU (b.length:Int))) (by omega);have e:(x::y::l).length+1=l.length+2+1:=rfl;rw[e,this];simp only[Mi,Adz,Agw];congr 1;clear this hl;have: ∀(n k:Nat) (l:List UInt64) (s:UInt64×UInt64×UInt64),l.length≤n→l.length≤k→Mi n l s=Mi k l s:=by
    intro n;induction n with
    |zero=>intro k l s h _; have:l=[]:=List.eq_nil_of_length_eq_zero (by omega); subst this; simp[Mi]
    |succ n ih=>
     intro k l s h hk;match l,k,h,hk with
     | [],k,_,_=>cases k<;>simp[Mi]
     | [x],k+1,_,_=>simp[Mi]
     |x::y::l,k+1,h,hk=>simp only[Mi]; exact ih k l _ (by simp at h; omega) (by simp at hk; omega)
   exact this _ _ _ _ (by omega) (by omega)
 rw[h];simp only[Aa]
def Tn:Nat→UInt64→List UInt8
 |0,_=> []
 |k+1,n=>toB ((Ek n (8*k)).toNat:Int)::Tn k n
theorem Ke (k:Nat)(n:UInt64):(Tn k n).length=k:=by induction k with|zero=>rfl|succ k ih=>simp[Tn,ih]
theorem AbW (n:UInt64): ∀(k:Nat) (b:List UInt8),k≤8→b.length+k≤1000000→iter (HP n) (k+1) (b,(k:Int)-1)=some (b++Tn k n):=by
 intro k;induction k with
 |zero=>intro b _ _; refine FG ?_; simp only[HP,Tn,AgQ]; rw[Agt (by simp)]
 |succ k ih=>
  intro b hk hb;have hw:w64 (8*(((k+1:Nat):Int)-1))=((8*k:Nat):Int):=by rw[Cx (by omega) (by omega)]; omega
  have hw2:w64 ((((k+1:Nat):Int)-1)-1)=(k:Int)-1:=by rw[Cx (by omega) (by omega)]; omega
  rw[D5 (s':=(b++[toB ((Ek n (8*k)).toNat:Int)],(k:Int)-1))]
  ·rw[ih _ (by omega) (by simp; omega)]; simp[Tn]
  ·simp only[HP,hw,hw2];rw[Ags (AgS (by omega)),Ags (by omega),Pc 1 (by simp; omega) (by simp; omega)];simp only[Aa,Ahd]
theorem Zz (n:UInt64)(k:Nat)(b:List UInt8)(hk:k≤8)(hb:b.length≤900000):E2 b n (k:Int)=some (b++Tn k n):=by
 have hw:w64 ((k:Int)-1)=(k:Int)-1:=Cx (by omega) (by omega);simp only[E2,hw,M8 (k+1) (AbW n k b hk (by omega)) (by omega),Aa]
def UF (s:UInt64×UInt64):List UInt8:=Tn 8 s.1++Tn 8 s.2
theorem RN (s:UInt64×UInt64):(UF s).length=16:=by simp[UF,Ke]
theorem Ac5 (s:UInt64×UInt64):DJ s=some (UF s):=by
 have e0:idx [s.1,s.2] 0=some s.1:=rfl;have e1:idx [s.1,s.2] 1=some s.2:=rfl;have h0:E2 [] s.1 8=some ([]++Tn 8 s.1):=Zz s.1 8 [] (by omega) (by simp);have h1:E2 (Tn 8 s.1) s.2 8=some (Tn 8 s.1++Tn 8 s.2):=Zz s.2 8 _ (by omega) (by rw[Ke]; omega);simp[DJ,CD,LC,e0,e1,h0,h1,UF]
def ZI:List UInt8→List (List UInt8)→List UInt8
 |b,[]=>b
 |b,p::ps=>ZI (b++Tn 4 (toU (p.length:Int))++p) ps
def AeZ:List (List UInt8)→Nat
 | []=>0
 |p::ps=>4+p.length+AeZ ps
theorem ZH: ∀(ps:List (List UInt8)) (b:List UInt8),(ZI b ps).length=b.length+AeZ ps:=by
 intro ps;induction ps with
 |nil=>intro b; rfl
 |cons p ps ih=>intro b; simp only[ZI,ih,AeZ,Agp,Ke]; omega
theorem AbC: ∀(ps:List (List UInt8)) (i:Int) (b:List UInt8),b.length+AeZ ps≤800000→Ey Hz ps i b=some (ZI b ps):=by
 intro ps;induction ps with
 |nil=>intro i b _; rfl
 |cons p ps ih=>
  intro i b h;simp only[AeZ]at h;have h0:E2 b (toU (p.length:Int)) 4=some (b++Tn 4 (toU (p.length:Int))):=Zz _ 4 b (by omega) (by omega);simp only[Ey,Hz,h0,Aa];rw[Pc 1 (by simp[Ke]; omega) (by simp[Ke]; omega)];simp only[Aa];rw[ih _ _ (by simp[Ke]; omega)];rfl
def ptag (t:ByteArray)(ps:List (List UInt8)):UInt64×UInt64:=hsum (ZI (toB (t.size:Int)::t.data.toList) ps)
theorem YS (t:ByteArray)(ps:List (List UInt8))(h:t.data.toList.length+AeZ ps≤700000):Cn t ps=some (ptag t ps):=by
 simp only[Cn];rw[Pc 1 (by simp at h⊢; omega) (by simp at h⊢; omega)];simp only[Aa];rw[AbC _ _ _ (by simp at h⊢; omega)];simp only[Aa];rw[sum_eq _ (by rw[ZH]; simp at h⊢; omega)];rfl
end Go.Proofs.YtnhdojckpcbjeaaGreatDoor
end
section
namespace Go.Gw
open Go
end Go.Gw
end
section
namespace Go.Proofs.YtnhdojckpcbjeaaGreatDoor
open Go Go.Gw Go.Ax
abbrev FP:Nat:=2305843009213693951
theorem Ut {n:Nat}(h:n<18446744073709551616):(toU (n:Int)).toNat=n:=by
 unfold toU;rw[UInt64.toNat_ofNat'];omega
theorem D6 (x:UInt64)(k:Nat)(hk:k≤64):(Ek x k).toNat=x.toNat/2^k:=by
 unfold Ek;rw[UInt64.toNat_ofNat',Nat.min_eq_left hk];exact Ag1 (Ag7 (Nat.div_le_self _ _) x.toNat_lt)
theorem Ab9 {p q r s:Nat}(hp:p<4294967296)(hq:q<4294967296)(hr:r<4294967296)(hs:s<4294967296):
  (p*r+((p*s+q*s/4294967296)/4294967296)+(((p*s+q*s/4294967296)%4294967296+q*r)/4294967296))=((p*4294967296+q)*(r*4294967296+s))/18446744073709551616:=by
 have h1:(p*4294967296+q)*(r*4294967296+s)=(p*r)*18446744073709551616+(p*s+q*r)*4294967296+q*s:=by
  rw[Nat.add_mul,Nat.mul_add,Nat.mul_add,Nat.add_mul];have a1:p*4294967296*(r*4294967296)=p*r*18446744073709551616:=by rw[Nat.mul_assoc,Nat.mul_left_comm 4294967296,←Nat.mul_assoc p]
  have a2:p*4294967296*s=p*s*4294967296:=Nat.mul_right_comm _ _ _;have a3:q*(r*4294967296)=q*r*4294967296:=(Nat.mul_assoc _ _ _).symm;rw[a1,a2,a3]; omega
 rw[h1];generalize p*r=A;generalize p*s=B;generalize q*r=C;generalize q*s=D;omega
theorem ZF (a b:UInt64):(phi a b).toNat=(a.toNat*b.toNat)/18446744073709551616:=by
 have ha:=a.toNat_lt;have hb:=b.toNat_lt;have m32: ∀x:UInt64,(x&&&4294967295).toNat=x.toNat%4294967296:=fun x=>by
  rw[UInt64.toNat_and]; exact Nat.and_two_pow_sub_one_eq_mod _ 32
 have s32: ∀x:UInt64,(Ek x 32).toNat=x.toNat/4294967296:=fun x=>D6 x 32 (by omega);have hp:a.toNat/4294967296<4294967296:=by omega
 have hq:a.toNat%4294967296<4294967296:=by omega
 have hr:b.toNat/4294967296<4294967296:=by omega
 have hs:b.toNat%4294967296<4294967296:=by omega
 have ea:a.toNat/4294967296*4294967296+a.toNat%4294967296=a.toNat:=Nat.div_add_mod' _ _;have eb:b.toNat/4294967296*4294967296+b.toNat%4294967296=b.toNat:=Nat.div_add_mod' _ _;have key:=Ab9 hp hq hr hs;rw[ea,eb]at key;have bd: ∀x y:Nat,x<4294967296→y<4294967296→x*y≤18446744065119617025:=fun x y hx hy=>Nat.mul_le_mul (show x≤4294967295 by omega) (show y≤4294967295 by omega);have b1:=bd _ _ hp hr;have b2:=bd _ _ hp hs;have b3:=bd _ _ hq hr;have b4:=bd _ _ hq hs;have ab:a.toNat*b.toNat/18446744073709551616<18446744073709551616:=by
  rw[Nat.div_lt_iff_lt_mul (by omega)];exact Ag7 (Nat.mul_le_mul (show a.toNat≤18446744073709551615 by omega) (show b.toNat≤18446744073709551615 by omega)) (by omega)
 unfold phi;dsimp only;rw[←key]at ab⊢;simp only[UInt64.toNat_add,UInt64.toNat_mul,s32,m32];generalize a.toNat/4294967296*(b.toNat/4294967296)=A at*;generalize a.toNat/4294967296*(b.toNat%4294967296)=B at*;generalize a.toNat%4294967296*(b.toNat/4294967296)=C at*;generalize a.toNat%4294967296*(b.toNat%4294967296)=D at*;omega
theorem u_ext {a b:UInt64}(h:a.toNat=b.toNat):a=b:=UInt64.toNat_inj.1 h
section
variable {x4 x5 x7 y u:UInt64}
theorem dq_lt (hd:x7.toNat<4294967296)(hu:u.toNat<y.toNat):(u.toNat*4294967296+x7.toNat)/y.toNat<4294967296:=by
 rw[Nat.div_lt_iff_lt_mul (by omega)];have:(u.toNat+1)*4294967296≤y.toNat*4294967296:=Nat.mul_le_mul_right _ hu;omega
theorem dcond {q r:UInt64}(h1:2147483648≤x4.toNat∧x4.toNat<4294967296)(h0:x5.toNat<4294967296)(hd:x7.toNat<4294967296)(hy:y.toNat=x4.toNat*4294967296+x5.toNat)(hu:u.toNat<y.toNat)
  (hq:q.toNat*x4.toNat+r.toNat=u.toNat) (hr:r.toNat<4294967296):
  (((decide ((q.toNat:Int)≥4294967296))||(decide (((q*x5).toNat:Int)>(((4294967296*r)+x7).toNat:Int))))=true↔(u.toNat*4294967296+x7.toNat)/y.toNat<q.toNat):=by
 have hlt:=dq_lt hd hu;have e1:((4294967296*r)+x7).toNat=4294967296*r.toNat+x7.toNat:=by
  rw[UInt64.toNat_add,UInt64.toNat_mul,show(4294967296:UInt64).toNat=4294967296 from rfl]; omega
 rw[AgW,Agu,Agu,e1];by_cases hb:4294967296≤q.toNat
 ·constructor
  ·intro _; omega
  ·intro _; left; omega
 ·have hB:q.toNat*x5.toNat≤4294967295*4294967295:=Nat.mul_le_mul (by omega) (by omega);have e2:(q*x5).toNat=q.toNat*x5.toNat:=by rw[UInt64.toNat_mul]; omega
  have e3:q.toNat*y.toNat=q.toNat*x4.toNat*4294967296+q.toNat*x5.toNat:=by rw[hy,Nat.mul_add,Nat.mul_assoc]
  rw[e2,Nat.div_lt_iff_lt_mul (by omega),e3];generalize q.toNat*x4.toNat=A at*;generalize q.toNat*x5.toNat=B at*;omega
theorem dstep {q r:UInt64}(h1:2147483648≤x4.toNat∧x4.toNat<4294967296)(h0:x5.toNat<4294967296)(hd:x7.toNat<4294967296)(hy:y.toNat=x4.toNat*4294967296+x5.toNat)(hu:u.toNat<y.toNat)
  (hq:q.toNat*x4.toNat+r.toNat=u.toNat) (hr:r.toNat<4294967296) (hq2:q.toNat≤4294967297) (hc:(u.toNat*4294967296+x7.toNat)/y.toNat<q.toNat):
  (q-1).toNat=q.toNat-1∧(r+x4).toNat=r.toNat+x4.toNat∧(q-1).toNat*x4.toNat+(r+x4).toNat=u.toNat∧(u.toNat*4294967296+x7.toNat)/y.toNat≤(q-1).toNat∧
  (4294967296≤(r+x4).toNat→(q-1).toNat=(u.toNat*4294967296+x7.toNat)/y.toNat):=by
 have q1:1≤q.toNat:=Ag7 (Nat.zero_le _) hc;have e1:(q-1).toNat=q.toNat-1:=by rw[UInt64.toNat_sub_of_le _ _ (by rw[UInt64.le_iff_toNat_le]; exact q1)]; rfl
 have e2:(r+x4).toNat=r.toNat+x4.toNat:=by rw[UInt64.toNat_add]; omega
 have e3:(q.toNat-1)*x4.toNat+x4.toNat=q.toNat*x4.toNat:=by
  rw[←Nat.succ_mul]; congr 1; omega
 refine⟨e1,e2,by rw[e1,e2,Nat.add_comm r.toNat,←Ahg,e3,hq],by rw[e1]; exact Nat.le_sub_one_of_lt hc,fun hb=> ?_⟩;rw[e2]at hb;refine Nat.le_antisymm ?_ (by rw[e1]; exact Nat.le_sub_one_of_lt hc);rw[e1,Nat.le_div_iff_mul_le (Ag7 (Nat.zero_le _) hu)];clear hc e1 e2;have hB:(q.toNat-1)*x5.toNat≤4294967296*4294967295:=Nat.mul_le_mul (by omega) (by omega);have e4:(q.toNat-1)*y.toNat=(q.toNat-1)*x4.toNat*4294967296+(q.toNat-1)*x5.toNat:=by rw[hy,Nat.mul_add,Nat.mul_assoc]
 rw[e4];generalize (q.toNat-1)*x4.toNat=A at*;generalize (q.toNat-1)*x5.toNat=B at*;generalize q.toNat*x4.toNat=C at*;omega
theorem dloop1 (h1:2147483648≤x4.toNat∧x4.toNat<4294967296)(h0:x5.toNat<4294967296)(hd:x7.toNat<4294967296)(hy:y.toNat=x4.toNat*4294967296+x5.toNat)(hu:u.toNat<y.toNat):
  ∀(n:Nat) (q r:UInt64),q.toNat*x4.toNat+r.toNat=u.toNat→r.toNat<4294967296→q.toNat≤4294967297→(u.toNat*4294967296+x7.toNat)/y.toNat≤q.toNat→4294967296≤r.toNat+n*2147483648→
   ∃p,iter (EU x4 x5 x7) (n+1) (q,r)=some p∧p.toNat=(u.toNat*4294967296+x7.toNat)/y.toNat:=by
 intro n;induction n with
 |zero=>intro q r _ hr _ _ hn; omega
 |succ n ih=>
  intro q r hq hr hq2 hle hn;have hc:=dcond h1 h0 hd hy hu hq hr;by_cases hcc:(u.toNat*4294967296+x7.toNat)/y.toNat<q.toNat
  ·obtain⟨s1,s2,s3,s4,s5⟩:=dstep h1 h0 hd hy hu hq hr hq2 hcc;by_cases hb:4294967296≤(r+x4).toNat
   ·refine⟨q-1,FG ?_,s5 hb⟩;unfold EU;rw[Ags (hc.2 hcc),Ags (by rw[Agu]; dsimp only; omega)]
   ·obtain⟨p,p1,p2⟩:=ih (q-1) (r+x4) s3 (by omega) (by omega) s4 (by omega);refine⟨p,?_,p2⟩;rw[D5 (s':=(q-1,r+x4)),p1];unfold EU;rw[Ags (hc.2 hcc),Agt (by rw[Agu]; dsimp only; omega)]
  ·refine⟨q,FG ?_,by omega⟩;unfold EU;rw[Agt (fun h=>hcc (hc.1 h))]
theorem dloop2 (h1:2147483648≤x4.toNat∧x4.toNat<4294967296)(h0:x5.toNat<4294967296)(hd:x7.toNat<4294967296)(hy:y.toNat=x4.toNat*4294967296+x5.toNat)(hu:u.toNat<y.toNat):
  ∀(n:Nat) (q r:UInt64),q.toNat*x4.toNat+r.toNat=u.toNat→r.toNat<4294967296→q.toNat≤4294967297→(u.toNat*4294967296+x7.toNat)/y.toNat≤q.toNat→4294967296≤r.toNat+n*2147483648→
   ∃p,iter (ET x4 x5 x7) (n+1) (r,q)=some p∧p.toNat=(u.toNat*4294967296+x7.toNat)/y.toNat:=by
 intro n;induction n with
 |zero=>intro q r _ hr _ _ hn; omega
 |succ n ih=>
  intro q r hq hr hq2 hle hn;have hc:=dcond h1 h0 hd hy hu hq hr;by_cases hcc:(u.toNat*4294967296+x7.toNat)/y.toNat<q.toNat
  ·obtain⟨s1,s2,s3,s4,s5⟩:=dstep h1 h0 hd hy hu hq hr hq2 hcc;by_cases hb:4294967296≤(r+x4).toNat
   ·refine⟨q-1,FG ?_,s5 hb⟩;unfold ET;rw[Ags (hc.2 hcc),Ags (by rw[Agu]; dsimp only; omega)]
   ·obtain⟨p,p1,p2⟩:=ih (q-1) (r+x4) s3 (by omega) (by omega) s4 (by omega);refine⟨p,?_,p2⟩;rw[D5 (s':=(r+x4,q-1)),p1];unfold ET;rw[Ags (hc.2 hcc),Agt (by rw[Agu]; dsimp only; omega)]
  ·refine⟨q,FG ?_,by omega⟩;unfold ET;rw[Agt (fun h=>hcc (hc.1 h))]
theorem AdY (h1:2147483648≤x4.toNat∧x4.toNat<4294967296)(h0:x5.toNat<4294967296)(hd:x7.toNat<4294967296)(hy:y.toNat=x4.toNat*4294967296+x5.toNat)(hu:u.toNat<y.toNat):
  (u/x4).toNat*x4.toNat+(u-(u/x4)*x4).toNat=u.toNat∧(u-(u/x4)*x4).toNat<4294967296∧(u/x4).toNat≤4294967297∧(u.toNat*4294967296+x7.toNat)/y.toNat≤(u/x4).toNat:=by
 have e1:(u/x4).toNat=u.toNat/x4.toNat:=UInt64.toNat_div _ _;have hmul:u.toNat/x4.toNat*x4.toNat≤u.toNat:=Nat.div_mul_le_self _ _;have hul:=u.toNat_lt;have e2:((u/x4)*x4).toNat=u.toNat/x4.toNat*x4.toNat:=by rw[UInt64.toNat_mul,e1]; omega
 have e3:(u-(u/x4)*x4).toNat=u.toNat-u.toNat/x4.toNat*x4.toNat:=by
  rw[UInt64.toNat_sub_of_le _ _ (by rw[UInt64.le_iff_toNat_le,e2]; exact hmul),e2]
 have e4:u.toNat-u.toNat/x4.toNat*x4.toNat=u.toNat%x4.toNat:=by
  have:=Nat.div_add_mod' u.toNat x4.toNat; omega
 have e5:=Nat.mod_lt u.toNat (show 0<x4.toNat by omega);refine⟨by rw[e1,e3]; omega,by rw[e3,e4]; omega,?_,?_⟩
 ·rw[e1];have:u.toNat/x4.toNat<4294967298:=by
   rw[Nat.div_lt_iff_lt_mul (by omega)];omega
  omega
 ·rw[e1,Nat.le_div_iff_mul_le (by omega)];have h2:(u.toNat*4294967296+x7.toNat)/y.toNat*y.toNat≤u.toNat*4294967296+x7.toNat:=Nat.div_mul_le_self _ _;generalize (u.toNat*4294967296+x7.toNat)/y.toNat=Q at*;have h3:Q*y.toNat=Q*x4.toNat*4294967296+Q*x5.toNat:=by rw[hy,Nat.mul_add,Nat.mul_assoc]
  rw[h3]at h2;generalize Q*x4.toNat=A at*;generalize Q*x5.toNat=B at*;omega
theorem drest {q:UInt64}(hu:u.toNat<y.toNat)(hq:q.toNat=(u.toNat*4294967296+x7.toNat)/y.toNat):(((u*4294967296)+x7)-(q*y)).toNat=(u.toNat*4294967296+x7.toNat)%y.toNat:=by
 have hyl:=y.toNat_lt;have hm:=Nat.mod_lt (u.toNat*4294967296+x7.toNat) (show 0<y.toNat by omega);have hdm:=Nat.div_add_mod' (u.toNat*4294967296+x7.toNat) y.toNat;rw[UInt64.toNat_sub,UInt64.toNat_add,UInt64.toNat_mul,UInt64.toNat_mul,hq,show(4294967296:UInt64).toNat=4294967296 from rfl];generalize (u.toNat*4294967296+x7.toNat)/y.toNat*y.toNat=Z at*;omega
end
theorem PM {x:UInt64}{k:Nat}(hk:k≤63):(KV x k).toNat=(x.toNat*2^k)%18446744073709551616:=by
 unfold KV;rw[Nat.min_eq_left (by omega),show(x.toNat:Int)*2^k=((x.toNat*2^k:Nat):Int)from by simp];unfold toU;rw[UInt64.toNat_ofNat'];generalize x.toNat*2^k=z;omega
theorem or_nat {a b k:Nat}(h:b<2^k):a*2^k|||b=a*2^k+b:=by
 rw[Nat.mul_comm]; exact(Nat.two_pow_add_eq_or_of_lt h a).symm
theorem Xj {hi lo y0:UInt64}{s:Nat}(hs:s≤63)(hlz:Dd y0=some (s:Int))(hn1:9223372036854775808≤y0.toNat*2^s)(hn2:y0.toNat*2^s<18446744073709551616)(hh:hi.toNat<y0.toNat):
  ∃q r,Ht hi lo y0=some (q,r)∧r.toNat=(hi.toNat*18446744073709551616+lo.toNat)%y0.toNat:=by
 have hyne:y0≠0:=fun e=>by rw[e]at hh; simp at hh
 unfold Ht;rw[Agt (by rw[Ag3]; omega),Aa,Agt (by rw[Agu]; omega),Aa];by_cases hz:hi.toNat=0
 ·rw[Ags (by rw[Ag3]; omega),Ags hyne,Ags hyne];refine⟨_,_,rfl,?_⟩;rw[UInt64.toNat_mod,hz]; simp
 ·have hts:(toU (s:Int)).toNat=s:=Ut (by omega);have h64:(64-toU (s:Int)).toNat=64-s:=by
   rw[UInt64.toNat_sub_of_le _ _ (by rw[UInt64.le_iff_toNat_le,hts]; show s≤64; omega),hts]; rfl
  rw[Agt (by rw[Ag3]; omega),hlz,Aa,hts,h64];simp only[Ch];have hps:0<2^s:=Nat.two_pow_pos s;have hpp:2^s*2^ (64-s)=18446744073709551616:=by rw[←Nat.pow_add,show s+(64-s)=64 from by omega]
  have hY:(KV y0 s).toNat=y0.toNat*2^s:=by rw[PM (by omega)]; exact Ag1 hn2
  have hlo:=lo.toNat_lt;have hlod:lo.toNat/2^ (64-s)<2^s:=by rw[Nat.div_lt_iff_lt_mul (Nat.two_pow_pos _),hpp]; omega
  have hhs:hi.toNat*2^s+2^s≤y0.toNat*2^s:=by rw[←Nat.succ_mul]; exact Nat.mul_le_mul_right _ hh
  have hU:((KV hi s)|||(Ek lo (64-s))).toNat=hi.toNat*2^s+lo.toNat/2^ (64-s):=by
   rw[UInt64.toNat_or,PM (by omega),D6 _ _ (by omega),Ag1 (by omega),or_nat hlod]
  have hL:(KV lo s).toNat=(lo.toNat*2^s)%18446744073709551616:=PM (by omega);have m32: ∀x:UInt64,(x&&&4294967295).toNat=x.toNat%4294967296:=fun x=>by
   rw[UInt64.toNat_and]; exact Nat.and_two_pow_sub_one_eq_mod _ 32
  have s32: ∀x:UInt64,(Ek x 32).toNat=x.toNat/4294967296:=fun x=>D6 x 32 (by omega);have hlos:lo.toNat*2^s=lo.toNat/2^ (64-s)*18446744073709551616+(lo.toNat*2^s)%18446744073709551616:=by
   have e1:lo.toNat*2^s/18446744073709551616=lo.toNat/2^ (64-s):=by
    rw[←hpp,Nat.mul_comm,Nat.mul_div_mul_left _ _ hps]
   rw[←e1]; exact(Nat.div_add_mod' _ _).symm
  have hN:(hi.toNat*18446744073709551616+lo.toNat)*2^s=(hi.toNat*2^s+lo.toNat/2^ (64-s))*18446744073709551616+(lo.toNat*2^s)%18446744073709551616:=by
   rw[Nat.add_mul,hlos,Nat.add_mul,Nat.mul_right_comm];omega
  generalize hgy:KV y0 s=y at*;generalize hgu:(KV hi s)|||(Ek lo (64-s))=u at*;generalize hgl:KV lo s=l at*;have hyl:=y.toNat_lt;have a1:2147483648≤(Ek y 32).toNat∧(Ek y 32).toNat<4294967296:=by rw[s32]; omega
  have a0:(y&&&4294967295).toNat<4294967296:=by rw[m32]; omega
  have ay:y.toNat=(Ek y 32).toNat*4294967296+(y&&&4294967295).toNat:=by rw[s32,m32]; omega
  have ad:(Ek l 32).toNat<4294967296:=by rw[s32]; have:=l.toNat_lt; omega
  have ae:(l&&&4294967295).toNat<4294967296:=by rw[m32]; omega
  have au:u.toNat<y.toNat:=by rw[hU,hY]; omega
  have hx4:Ek y 32≠0:=fun e=>by rw[e]at a1; simp at a1
  obtain⟨b1,b2,b3,b4⟩:=AdY a1 a0 ad ay au;obtain⟨q1,c1,c2⟩:=dloop1 a1 a0 ad ay au 2 _ _ b1 b2 b3 b4 (by omega);have hr1:=drest au c2;have hr1l:=Nat.mod_lt (u.toNat*4294967296+(Ek l 32).toNat) (show 0<y.toNat by omega);rw[Ags hx4,M8 _ c1 (by omega),Aa,Aa,Ags hx4];generalize hgv:((u*4294967296)+(Ek l 32))-(q1*y)=v at*;have av:v.toNat<y.toNat:=by omega
  obtain⟨d1,d2,d3,d4⟩:=AdY a1 a0 ae ay av;obtain⟨q0,e1,e2⟩:=dloop2 a1 a0 ae ay av 2 _ _ d1 d2 d3 d4 (by omega);have hr0:=drest av e2;rw[M8 _ e1 (by omega),Aa,Aa];refine⟨_,_,rfl,?_⟩;rw[D6 _ _ (by omega),hr0,hr1];have f1:(((u.toNat*4294967296+(Ek l 32).toNat)%y.toNat)*4294967296+(l&&&4294967295).toNat)%y.toNat=((hi.toNat*18446744073709551616+lo.toNat)*2^s)%y.toNat:=by
   rw[Nat.add_mod,Nat.mod_mul_mod,←Nat.add_mod,hN,←hU,←hL,s32,m32];have e9:(u.toNat*4294967296+l.toNat/4294967296)*4294967296+l.toNat%4294967296=u.toNat*18446744073709551616+l.toNat:=by omega
   rw[e9]
  rw[f1,hY,Nat.mul_mod_mul_right,Nat.mul_div_cancel _ hps]
abbrev GQ:Nat:=2305843009213691579
abbrev GR:Nat:=1152921504606845789
def Dv (y:UInt64):Prop:= ∃s:Nat,s≤63∧Dd y=some (s:Int)∧9223372036854775808≤y.toNat*2^s∧y.toNat*2^s<18446744073709551616
theorem dvQ:Dv 2305843009213691579:=⟨3,by omega,by kernel_rfl,by decide,by decide⟩
theorem dvR:Dv 1152921504606845789:=⟨4,by omega,by kernel_rfl,by decide,by decide⟩
theorem Dv.pos {y:UInt64}(h:Dv y):0<y.toNat:=by
 obtain⟨s,_,_,h1,_⟩:=h;by_cases e:y.toNat=0
 ·rw[e]at h1; simp at h1
 ·omega
theorem rem_eq {y:UInt64}(h:Dv y)(hi lo:UInt64): ∃z,F3 hi lo y=some z∧z.toNat=(hi.toNat*18446744073709551616+lo.toNat)%y.toNat:=by
 have hpos:=h.pos;obtain⟨s,h1,h2,h3,h4⟩:=h;have hyne:y≠0:=fun e=>by rw[e]at hpos; simp at hpos
 have hm:(hi%y).toNat=hi.toNat%y.toNat:=UInt64.toNat_mod _ _;obtain⟨q,r,e1,e2⟩:=Xj (hi:=hi%y) (lo:=lo) h1 h2 h3 h4 (by rw[hm]; exact Nat.mod_lt _ hpos);refine⟨r,?_,?_⟩
 ·unfold F3;rw[Ags hyne,e1,Aa]
 ·rw[e2,hm,Nat.add_mod,Nat.mod_mul_mod,←Nat.add_mod]
def ofN (n:Nat):UInt64:=UInt64.ofNat n
theorem ZQ {n:Nat}(h:n<18446744073709551616):(ofN n).toNat=n:=by
 unfold ofN; rw[UInt64.toNat_ofNat']; exact Ag1 h
theorem ZR (n:Nat){y:UInt64}(h:0<y.toNat):(ofN (n%y.toNat)).toNat=n%y.toNat:=ZQ (Ahc (Nat.mod_lt _ h) (Nat.le_of_lt y.toNat_lt))
theorem ZP {z:UInt64}{n:Nat}(h:z.toNat=n):z=ofN n:=by
 rw[←h]; exact u_ext (ZQ z.toNat_lt).symm
def XZ (y a b:UInt64):UInt64:=ofN ((a.toNat*b.toNat)%y.toNat)
theorem WY {y:UInt64}(h:Dv y)(a b:UInt64):(XZ y a b).toNat=(a.toNat*b.toNat)%y.toNat:=ZR _ h.pos
theorem OC {y:UInt64}(h:Dv y)(a b:UInt64):Cg y a b=some (XZ y a b):=by
 obtain⟨z,e1,e2⟩:=rem_eq h (phi a b) (a*b);unfold Cg;rw[Tv,Aa,e1,Aa];rw[ZF,UInt64.toNat_mul,Nat.div_add_mod']at e2;rw[ZP e2]; rfl
theorem AaZ (a b:UInt64):(I9 a b).toNat*18446744073709551616+(a+b).toNat=a.toNat+b.toNat:=by
 have:=a.toNat_lt;have:=b.toNat_lt;unfold I9;rw[UInt64.toNat_ofNat',UInt64.toNat_add];omega
theorem Ae2 {P d r c sm t:Nat}(hP:d*18446744073709551616+r=P)(hr:r<18446744073709551616)(hd:d<2305843009213693952)(hc:c*18446744073709551616+sm=r+t)(ht:t<18446744073709551616):
  ((d+c)%18446744073709551616)*18446744073709551616+sm=P+t:=by
 have h1:c≤1:=by omega
 rw[Ag1 (show d+c<18446744073709551616 by omega),Nat.add_mul,←hP,Ahg,hc,Ahg]
def numM (s:UInt64×UInt64)(y:UInt64):UInt64:=ofN ((s.1.toNat*2305843009213693952+s.2.toNat)%y.toNat)
theorem num_eq {y:UInt64}(h:Dv y)(s:UInt64×UInt64):G3 s y=some (numM s y):=by
 have hpos:=h.pos;have hyne:y≠0:=fun e=>by rw[e]at hpos; simp at hpos
 obtain⟨t,h1,h2,h3,h4⟩:=h;have hp:(phi s.1 2305843009213693952).toNat=s.1.toNat*2305843009213693952/18446744073709551616:=ZF _ _;have hl:(s.1*2305843009213693952).toNat=s.1.toNat*2305843009213693952%18446744073709551616:=UInt64.toNat_mul _ _;have hs1:=s.1.toNat_lt;have hs2:=s.2.toNat_lt;have hc:=AaZ (s.1*2305843009213693952) s.2;have hsum:(phi s.1 2305843009213693952+I9 (s.1*2305843009213693952) s.2).toNat*18446744073709551616+(s.1*2305843009213693952+s.2).toNat=s.1.toNat*2305843009213693952+s.2.toNat:=by
  rw[UInt64.toNat_add,hp];rw[hl]at hc;have hdl:s.1.toNat*2305843009213693952/18446744073709551616<2305843009213693952:=by
   rw[Nat.div_lt_iff_lt_mul (by decide),Nat.mul_comm (2305843009213693952)];exact Nat.mul_lt_mul_of_pos_right hs1 (by decide)
  exact Ae2 (Nat.div_add_mod' _ _) (Nat.mod_lt _ (by decide)) hdl hc hs2
 have hm:((phi s.1 2305843009213693952+I9 (s.1*2305843009213693952) s.2)%y).toNat=(phi s.1 2305843009213693952+I9 (s.1*2305843009213693952) s.2).toNat%y.toNat:=UInt64.toNat_mod _ _;obtain⟨q,r,e1,e2⟩:=Xj (hi:=(phi s.1 2305843009213693952+I9 (s.1*2305843009213693952) s.2)%y) (lo:=s.1*2305843009213693952+s.2) h1 h2 h3 h4 (by rw[hm]; exact Nat.mod_lt _ hpos);unfold G3;rw[Agt (by rw[Ag3]; omega),Tv,Aa,Ags hyne];dsimp only;rw[e1,Aa];rw[hm,Nat.add_mod,Nat.mod_mul_mod,←Nat.add_mod,hsum]at e2;rw[ZP e2]; rfl
theorem AbF:((List.range 256).all fun n=>decide (n<2^ (str_0.data.toList.getD n 0).toNat)&&decide ((str_0.data.toList.getD n 0).toNat≤8))=true:=by kernel_rfl
theorem AbE:str_0.data.toList.length=256:=by kernel_rfl
theorem tabL (x:UInt64)(hx:x.toNat<256): ∃b,idx str_0.data.toList ((toB (x.toNat:Int)).toNat:Int)=some b∧x.toNat<2^b.toNat∧b.toNat≤8:=by
 have hb:(toB (x.toNat:Int)).toNat=x.toNat:=by unfold toB; rw[UInt8.toNat_ofNat']; omega
 have h:=AgC.1 AbF x.toNat (List.mem_range.2 hx);rw[Agg,Agu,Agu]at h;have hlt:x.toNat<str_0.data.toList.length:=by rw[AbE]; exact hx
 rw[List.getD_eq_getElem?_getD,AgO hlt,Option.getD_some]at h;rw[hb];exact⟨str_0.data.toList[x.toNat],DE (by simp),h.1,h.2⟩
theorem Acj (a:UInt64): ∃L:Nat,F4 a=some (L:Int)∧a.toNat<2^L∧L≤64:=by
 have ha:=a.toNat_lt;have h1: ∃(x:UInt64) (n:Nat),(if(decide ((a.toNat:Int)≥4294967296))=true then some ((Ek a 32),(32:Int))else some (a,0))=some (x,(n:Int))∧n≤32∧x.toNat<4294967296∧a.toNat<(x.toNat+1)*2^n:=by
  split
  ·refine⟨Ek a 32,32,rfl,by omega,?_,?_⟩<;>rw[D6 a 32 (by omega)]<;>omega
  ·rename_i h; rw[Agu]at h; exact⟨a,0,rfl,by omega,by omega,by omega⟩
 obtain⟨x,n,e1,n1,hx,hn⟩:=h1;have h2: ∃(y:UInt64) (k:Nat),(if(decide ((x.toNat:Int)≥65536))=true then some ((Ek x 16),(w64 ((n:Int)+16)))else some (x,(n:Int)))=some (y,(k:Int))∧k≤48∧y.toNat<65536∧a.toNat<(y.toNat+1)*2^k:=by
  split
  ·refine⟨Ek x 16,n+16,by rw[Cx (by omega) (by omega)]; rfl,by omega,?_,?_⟩
   ·rw[D6 x 16 (by omega)]; omega
   ·rw[D6 x 16 (by omega),Nat.pow_add];refine Ahc hn ?_;have:x.toNat+1≤(x.toNat/2^16+1)*2^16:=by omega
    calc (x.toNat+1)*2^n≤((x.toNat/2^16+1)*2^16)*2^n:=Nat.mul_le_mul_right _ this
     _=(x.toNat/2^16+1)*(2^n*2^16):=by rw[Nat.mul_assoc,Nat.mul_comm (2^16)]
  ·rename_i h; rw[Agu]at h; exact⟨x,n,rfl,by omega,by omega,hn⟩
 obtain⟨y,k,e2,k1,hy,hk⟩:=h2;have h3: ∃(z:UInt64) (j:Nat),(if(decide ((y.toNat:Int)≥256))=true then some ((Ek y 8),(w64 ((k:Int)+8)))else some (y,(k:Int)))=some (z,(j:Int))∧j≤56∧z.toNat<256∧a.toNat<(z.toNat+1)*2^j:=by
  split
  ·refine⟨Ek y 8,k+8,by rw[Cx (by omega) (by omega)]; rfl,by omega,?_,?_⟩
   ·rw[D6 y 8 (by omega)]; omega
   ·rw[D6 y 8 (by omega),Nat.pow_add];refine Ahc hk ?_;have:y.toNat+1≤(y.toNat/2^8+1)*2^8:=by omega
    calc (y.toNat+1)*2^k≤((y.toNat/2^8+1)*2^8)*2^k:=Nat.mul_le_mul_right _ this
     _=(y.toNat/2^8+1)*(2^k*2^8):=by rw[Nat.mul_assoc,Nat.mul_comm (2^8)]
  ·rename_i h; rw[Agu]at h; exact⟨y,k,rfl,by omega,by omega,hk⟩
 obtain⟨z,j,e3,j1,hz,hj⟩:=h3;obtain⟨b,e4,b1,b2⟩:=tabL z hz;refine⟨j+b.toNat,?_,?_,by omega⟩
 ·unfold F4;rw[e1,Aa];dsimp only;rw[e2,Aa];dsimp only;rw[e3,Aa,e4,Aa,Ch,Cx (n:=(b.toNat:Int)) (by omega) (by omega),Cx (by omega) (by omega)]; rfl
 ·refine Ahc hj ?_;rw[Nat.add_comm j,Nat.pow_add];exact Nat.mul_le_mul_right _ b1
def VN (y a n:UInt64):UInt64:=ofN (a.toNat^n.toNat%y.toNat)
theorem Ab1 {y:UInt64}(h:Dv y)(a n:UInt64):(VN y a n).toNat=a.toNat^n.toNat%y.toNat:=ZR _ h.pos
theorem Age (n j:Nat):n&&&2^j=(n.testBit j).toNat*2^j:=by
 apply Nat.eq_of_testBit_eq;intro i;rw[Nat.testBit_and,Nat.testBit_two_pow];by_cases h:j=i
 ·subst h;cases hb:n.testBit j<;>simp[hb,Nat.testBit_two_pow_self]
 ·cases hb:n.testBit j<;>simp[h,Nat.testBit_two_pow]
theorem bit_eq (n:UInt64){j:Nat}(hj:j≤63):(((n&&&(KV 1 j)).toNat:Int) !=0)=decide (n.toNat/2^j%2=1):=by
 have h1:(KV 1 j).toNat=2^j:=by
  rw[PM hj,show(1:UInt64).toNat=1 from rfl,Nat.one_mul];exact Ag1 (Ag7 (Nat.pow_le_pow_right (by omega) hj) (by decide))
 have h2:(n&&&(KV 1 j)).toNat=(n.toNat.testBit j).toNat*2^j:=by rw[UInt64.toNat_and,h1,Age]
 rw[h2];have hp:=Nat.two_pow_pos j;rw[Nat.testBit_eq_decide_div_mod_eq];by_cases hb:n.toNat/2^j%2=1
 ·simp only[hb,decide_true,Bool.toNat_true,Nat.one_mul];rw[bne_iff_ne]; omega
 ·simp only[hb,decide_false,Bool.toNat_false,Nat.zero_mul]; rfl
theorem pow_it (a n:UInt64): ∀(j:Nat) (out:UInt64),j≤64→out.toNat=a.toNat^ (n.toNat/2^j)% (2305843009213691579:UInt64).toNat→
  ∃r,iter (CC (fun(s:UInt64) (b0:Bool)=>Ab (Cc a b0 s) fun z=>some (true,z)) n) (j+1) ((j:Int)-1,out)=some (.inl r)∧r.toNat=a.toNat^n.toNat% (2305843009213691579:UInt64).toNat:=by
 have h:=dvQ;unfold Cc;generalize (2305843009213691579:UInt64)=y at*;intro j;induction j with
 |zero=>
  intro out _ ho;refine⟨out,FG ?_,by rw[ho]; simp⟩;unfold CC;rw[Agt (by simp)]
 |succ j ih=>
  intro out hj ho;have hw:w64 ((((j+1:Nat):Int)-1)-1)=(j:Int)-1:=by rw[Cx (by omega) (by omega)]; omega
  have hk:(((j+1:Nat):Int)-1).toNat=j:=by omega
  have hbit:=bit_eq n (j:=j) (by omega);have hdiv:n.toNat/2^ (j+1)=n.toNat/2^j/2:=by rw[Nat.pow_succ,Nat.div_div_eq_div_mul]
  have hsq:(XZ y out out).toNat=a.toNat^ (2*(n.toNat/2^ (j+1)))%y.toNat:=by
   rw[WY h,ho,←Nat.mul_mod,←Nat.pow_add,←Nat.two_mul]
  by_cases hb:n.toNat/2^j%2=1
  ·have hn:(XZ y (XZ y out out) a).toNat=a.toNat^ (n.toNat/2^j)%y.toNat:=by
    rw[WY h,hsq,Nat.mod_mul_mod,←Nat.pow_succ];congr 2; omega
   obtain⟨r,r1,r2⟩:=ih (XZ y (XZ y out out) a) (by omega) hn;refine⟨r,?_,r2⟩;rw[D5 (s':=((j:Int)-1,XZ y (XZ y out out) a)),r1];unfold CC;dsimp only;rw[Ags (by rw[Agu]; omega),Ags (by omega),hk,hbit];simp only[OC h,Aa,hb,decide_true,if_true,Ag8,Bool.false_eq_true,if_false,hw]
  ·have hn:(XZ y out out).toNat=a.toNat^ (n.toNat/2^j)%y.toNat:=by
    rw[hsq]; congr 2; omega
   obtain⟨r,r1,r2⟩:=ih (XZ y out out) (by omega) hn;refine⟨r,?_,r2⟩;rw[D5 (s':=((j:Int)-1,XZ y out out)),r1];unfold CC;dsimp only;rw[Ags (by rw[Agu]; omega),Ags (by omega),hk,hbit];simp only[OC h,Aa,hb,decide_false,Ag8,Bool.false_eq_true,if_false,hw]
theorem WM (a n:UInt64):DL a n=some (VN 2305843009213691579 a n):=by
 unfold DL;obtain⟨L,e1,e2,e3⟩:=Acj n;have hw:w64 ((L:Int)-1)=(L:Int)-1:=Cx (by omega) (by omega);obtain⟨r,r1,r2⟩:=pow_it a n L 1 e3 (by rw[Nat.div_eq_of_lt e2]; simp);have r1':=M8 _ r1 (by omega);unfold DU G6;rw[show Ip n=some n from rfl,Aa,e1,Aa,hw,r1',Aa];simp only[Aa];rw[ZP r2]; rfl
theorem Agc (n:UInt64):DV n=some (VN 2305843009213691579 4 n):=by
 unfold DV;rw[WM,Aa]
theorem Ac9:((List.range 8193).all fun n=>JZ (n:Int) 7==((n%8:Nat):Int))=true:=by kernel_rfl
theorem and7 {n:Nat}(h:n≤8192):JZ (n:Int) 7=((n%8:Nat):Int):=by
 have:=AgC.1 Ac9 n (List.mem_range.2 (by omega));simpa using this
theorem shr3 {n:Nat}:Bg (n:Int) 3=((n/8:Nat):Int):=by
 show(n:Int).fdiv (2^ (min 3 64))=_;rw[Int.fdiv_eq_ediv_of_nonneg _ (by decide)]; rfl
structure SvOk (s:g_api_Sieve):Prop where
 m: ∃m:Nat,1≤m∧m≤1024∧s.Bits=((8*m:Nat):Int)∧s.B.length=m
 h1:1≤s.Hashes
 h2:s.Hashes≤8
theorem Zl (n:Int):E1 n=some (decide (0≤n)&&decide (n≤1099511627776)):=rfl
theorem Y5 (s:g_api_Sieve): ∃e,Gp s=some e∧(e=0→SvOk s):=by
 unfold Gp;by_cases h1:s.Bits<8
 ·refine⟨1,?_,fun h=>by cases h⟩;rw[Ags (AgS h1),Aa,Ags (AgS h1)]
 rw[Agt (show¬(decide (s.Bits<8)=true)from by simpa using h1)];by_cases h2:s.Bits>8192
 ·refine⟨1,?_,fun h=>by cases h⟩;rw[Ags (AgS h2),Aa,Ags (AgS h2)]
 rw[Agt (show¬(decide (s.Bits>8192)=true)from by simpa using h2),Aa];obtain⟨n,hn⟩: ∃n:Nat,s.Bits=(n:Int):=⟨s.Bits.toNat,by omega⟩;by_cases h3:(JZ s.Bits 7 !=0)=true
 ·exact⟨1,Ags h3,fun h=>by cases h⟩
 rw[Agt h3];have h3':n%8=0:=by
  rw[hn,and7 (by omega)]at h3;simp at h3; omega
 by_cases h4:s.Hashes<1
 ·refine⟨1,?_,fun h=>by cases h⟩;rw[Ags (AgS h4),Aa,Ags (AgS h4)]
 rw[Agt (show¬(decide (s.Hashes<1)=true)from by simpa using h4)];by_cases h5:s.Hashes>8
 ·refine⟨1,?_,fun h=>by cases h⟩;rw[Ags (AgS h5),Aa,Ags (AgS h5)]
 rw[Agt (show¬(decide (s.Hashes>8)=true)from by simpa using h5),Zl,Aa];cases hr:(decide (0≤s.Salt)&&decide (s.Salt≤1099511627776))with
 |false=>exact⟨1,rfl,fun h=>by cases h⟩
 |true=>
  rw[Agt (by decide),Ch,Aa];by_cases h6:((s.B.length:Int) !=Bg s.Bits 3)=true
  ·exact⟨1,Ags h6,fun h=>by cases h⟩
  ·refine⟨0,Agt h6,fun _=>⟨⟨n/8,by omega,by omega,by rw[hn]; omega,?_⟩,by omega,by omega⟩⟩;rw[hn,shr3]at h6;simp at h6; omega
theorem AbL (d l:Int): ∃x,Ha d l=some x:=⟨_,rfl⟩
theorem LL {α:Type} [Inhabited α](c:Bool){o:Option α}(h: ∃x,o=some x): ∃y,gu c o=some y:=by
 obtain⟨x,rfl⟩:=h;cases c<;>exact⟨_,rfl⟩
theorem RW (c:g_api_Cascade): ∀(k i:Nat),i+k=c.Levels.length→∃r,BS (Dc c) k (i:Int) ()=some r
 |0,i,_=>⟨_,rfl⟩
 |k+1,i,hi=>by
  obtain⟨x,hx⟩: ∃x,c.Levels[i]? =some x:=⟨_,AgO (by omega)⟩;show∃r,Ab (Dc c (i:Int) ()) _=_;unfold Dc;rw[DE hx,Aa];obtain⟨a,ha⟩:=LL (!(x.Hashes !=3)) (AbL c.Day (i:Int));rw[ha,Aa];obtain⟨e,he,_⟩:=Y5 x;obtain⟨b,hb⟩:=LL (!((x.Hashes !=3)||(x.Salt !=a))) ⟨e,he⟩;rw[hb,Aa];split
  ·exact⟨_,rfl⟩
  ·exact RW c k (i+1) (by omega)
theorem OP (c:g_api_Cascade): ∃e,Bp c=some e:=by
 unfold Bp;split
 ·exact⟨_,rfl⟩
 ·obtain⟨b,hb⟩: ∃b,GH c.Day=some b:=⟨_,rfl⟩;rw[hb,Aa];split
  ·exact⟨_,rfl⟩
  ·obtain⟨r,hr⟩:=RW c c.Levels.length 0 (by omega);rw[show BS (Dc c) c.Levels.length 0 ()=some r from hr,Aa];cases r<;>exact⟨_,rfl⟩
def sgn (a b:Int):Int:=if a<b then-1 else if b<a then 1 else 0
theorem Yf (a b:Int):CK a b=some (sgn a b):=by
 unfold CK GD sgn;by_cases h1:a<b
 ·simp[Ab,bnd,h1]
 ·by_cases h2:b<a
  ·simp[Ab,bnd,h1,h2]
  ·simp[Ab,bnd,h1,h2]
abbrev S8:Type:=Bool×Int×Int×UInt64×UInt64×Int×UInt64×UInt64
def later (x h:g_api_Head):Prop:=h.Size<x.Size∨(h.Size=x.Size∧h.At<x.At)
def W9 (a b:Int):Int:=if a=0 then b else a
theorem AeO (a b c d:Int):I1 [a,b,c,d]=some (W9 a (W9 b (W9 c d))):=by
 unfold I1 LG W9;by_cases h1:a=0
 ·by_cases h2:b=0
  ·by_cases h3:c=0
   ·by_cases h4:d=0<;>simp[E8,EL,Ab,h1,h2,h3,h4]
   ·simp[E8,EL,Ab,h1,h2,h3]
  ·simp[E8,EL,Ab,h1,h2]
 ·simp[E8,EL,Ab,h1]
theorem TP (a b:UInt64):Dr a b=some (sgn (a.toNat:Int) (b.toNat:Int)):=by
 unfold Dr Ep sgn;by_cases h1:(a.toNat:Int)<(b.toNat:Int)
 ·simp only[Ab,bnd,bne_self_eq_false,Bool.false_eq_true,if_false,h1,decide_true,if_true]
 ·by_cases h2:(b.toNat:Int)<(a.toNat:Int)
  ·simp only[Ab,bnd,bne_self_eq_false,Bool.false_eq_true,if_false,h1,h2,decide_true,decide_false,gt_iff_lt,if_true]
  ·simp only[Ab,bnd,bne_self_eq_false,Bool.false_eq_true,if_false,h1,h2,decide_true,decide_false,gt_iff_lt,if_true]
theorem Ye (a b c d:UInt64):Bw [a,b] [c,d]=some (W9 (sgn (a.toNat:Int) (c.toNat:Int)) (sgn (b.toNat:Int) (d.toNat:Int))):=by
 have i0:idx [a,b] (0:Int)=some a:=rfl;have i1:idx [a,b] (1:Int)=some b:=rfl;have j0:idx [c,d] (0:Int)=some c:=rfl;have j1:idx [c,d] (1:Int)=some d:=rfl;unfold Bw W9;by_cases h1:sgn (a.toNat:Int) (c.toNat:Int)=0
 ·by_cases h2:sgn (b.toNat:Int) (d.toNat:Int)=0
  ·simp[BS,Bd,i0,i1,j0,j1,TP,Ab,h1,h2]
  ·simp[BS,Bd,i0,i1,j0,j1,TP,Ab,h1,h2]
 ·simp[BS,Bd,i0,i1,j0,j1,TP,Ab,h1]
def Tq (a b:g_api_Head):Int:=W9 (sgn a.Log b.Log) (W9 (sgn a.Size b.Size) (W9 (W9 (sgn (a.Root.1.toNat:Int) (b.Root.1.toNat:Int)) (sgn (a.Root.2.toNat:Int) (b.Root.2.toNat:Int))) (sgn a.At b.At)))
theorem Yn (a b:g_api_Head):C8 a b=some (Tq a b):=by
 simp only[C8,Yf,Ye,Aa,AeO,Tq]
theorem To (a b:g_api_Head):D8 a b=some (Tq a b):=by
 simp only[D8,Yn,Aa]
theorem AcF {a b:Int}:W9 a b<0↔a<0∨(a=0∧b<0):=by unfold W9; split<;>omega
theorem UZ {a b:Int}:W9 a b=0↔a=0∧b=0:=by unfold W9; split<;>omega
theorem Aet {a b:Int}:sgn a b<0↔a<b:=by unfold sgn; split<;>(try split)<;>omega
theorem Wy {a b:Int}:sgn a b=0↔a=b:=by unfold sgn; split<;>(try split)<;>omega
def ltH (a b:g_api_Head):Prop:=a.Log<b.Log∨(a.Log=b.Log∧(a.Size<b.Size∨(a.Size=b.Size∧(((a.Root.1.toNat:Int)<(b.Root.1.toNat:Int)∨((a.Root.1.toNat:Int)=(b.Root.1.toNat:Int)∧(a.Root.2.toNat:Int)<(b.Root.2.toNat:Int)))∨(((a.Root.1.toNat:Int)=(b.Root.1.toNat:Int)∧(a.Root.2.toNat:Int)=(b.Root.2.toNat:Int))∧a.At<b.At)))))
def eqH (a b:g_api_Head):Prop:=a.Log=b.Log∧a.Size=b.Size∧((a.Root.1.toNat:Int)=(b.Root.1.toNat:Int)∧(a.Root.2.toNat:Int)=(b.Root.2.toNat:Int))∧a.At=b.At
theorem L7 {a b:g_api_Head}:Tq a b<0↔ltH a b:=by unfold Tq ltH; simp only[AcF,UZ,Aet,Wy]
theorem QB {a b:g_api_Head}:Tq a b=0↔eqH a b:=by unfold Tq eqH; simp only[UZ,Wy]
theorem QL {a b c:g_api_Head}(h:ltH a b)(k:ltH b c):ltH a c:=by unfold ltH at*; omega
theorem Afb (a b:g_api_Head):ltH a b∨eqH a b∨ltH b a:=by unfold ltH eqH; omega
theorem AcQ (a:g_api_Head):eqH a a:=⟨rfl,rfl,⟨rfl,rfl⟩,rfl⟩
theorem ltH_eq {a b c:g_api_Head}(h:ltH a b)(k:eqH b c):ltH a c:=by unfold ltH eqH at*; omega
theorem QQ {α:Type}{l:List α}{i:Nat}(h:i<l.length):idx l (i:Int)=some l[i]:=DE (AgO h)
theorem Aby {i n:Nat}(h:i<n)(hn:n≤1099511627776):w64 ((i:Int)+1)=((i+1:Nat):Int):=by rw[Cx (by omega) (by omega)]; omega
def chB:List g_api_Head→Bool
 |a::b::l=>decide (Tq a b<0)&&chB (b::l)
 |_=>true
theorem Ael {i n:Nat}(h:i<n)(h1:1≤i)(hn:n≤1099511627776):w64 ((i:Int)-1)=((i-1:Nat):Int):=by rw[Cx (by omega) (by omega)]; omega
theorem drop2 {l:List g_api_Head}{i:Nat}(h1:1≤i)(h:i<l.length):l.drop (i-1)=l[i-1]::l[i]::l.drop (i+1):=by
 rw[List.drop_eq_getElem_cons (show i-1<l.length by omega)];congr 1;rw[show i-1+1=i from by omega,List.drop_eq_getElem_cons h]
theorem Ac1 {l:List g_api_Head}{i:Nat}(h1:1≤i)(h:i<l.length):chB (l.drop (i-1))=(decide (Tq l[i-1] l[i]<0)&&chB (l.drop i)):=by
 rw[drop2 h1 h,chB,List.drop_eq_getElem_cons h]
theorem Af4 {l:List g_api_Head}{i:Nat}(h:l.length≤i):chB (l.drop (i-1))=true:=by
 have hl:(l.drop (i-1)).length≤1:=by rw[AgT]; omega
 match hd:l.drop (i-1),hl with
 | [],_=>rfl
 | [a],_=>rfl
 |a::b::l',hl=>simp at hl
theorem WU {a0:g_api_Pool}(hn:a0.L.length≤1099511627776){i:Nat}(h1:1≤i)(hi:i<a0.L.length):Ce a0 (i:Int) ()=some (if Tq a0.L[i-1] a0.L[i]<0 then .inl ()else .inr false):=by
 unfold Ce;have hp:decide ((i:Int)>0)=true:=by simp; omega
 rw[Ael hi h1 hn,hp,QQ (show i-1<a0.L.length by omega),QQ hi];simp only[gu,cond_true,Aa,To,Ag0];by_cases h:Tq a0.L[i-1] a0.L[i]<0
 ·rw[Agt (by simp; omega),Ags h]
 ·rw[Ags (by simp; omega),Agt h]
theorem Ab3 {a0:g_api_Pool}(hn:a0.L.length≤1099511627776): ∀(k i:Nat),1≤i→a0.L.length=i+k→
  BS (Ce a0) k (i:Int) ()=some (if chB (a0.L.drop (i-1))=true then .inl ()else .inr false):=by
 intro k;induction k with
 |zero=>intro i h1 hk; rw[Ags (Af4 (by omega))]; rfl
 |succ k ih=>
  intro i h1 hk;have hi:i<a0.L.length:=by omega
  rw[Ac1 h1 hi];by_cases h:Tq a0.L[i-1] a0.L[i]<0
  ·simp only[BS,WU hn h1 hi,Ags h,Aa,h,decide_true,Ag0];have:=ih (i+1) (by omega) (by omega);rw[Nat.add_sub_cancel]at this;exact this
  ·simp only[BS,WU hn h1 hi,Agt h,Aa,h,decide_false,Ag9];rfl
theorem XX {a0:g_api_Pool}(hn:a0.L.length≤1099511627776):FD a0=some (chB a0.L):=by
 unfold FD;cases hl:a0.L.length with
 |zero=>
  have:a0.L=[]:=List.eq_nil_of_length_eq_zero hl;rw[this]; rfl
 |succ k=>
  have h0:Ce a0 0 ()=some (.inl ()):=by
   unfold Ce; simp[gu,Ab]
  simp only[BS,h0,Aa];have:=Ab3 hn k 1 (by omega) (by omega);rw[show((1:Nat):Int)=0+1 from rfl,show 1-1=0 from rfl,List.drop_zero]at this;rw[this];cases chB a0.L<;>rfl
theorem Vw: ∀(l:List g_api_Head),chB l=true↔l.Pairwise ltH
 | []=>by simp[chB]
 | [a]=>by simp[chB]
 |a::b::l=>by
  rw[chB,Agg,Agu,L7,Vw (b::l),List.pairwise_cons (a:=a)];constructor
  ·rintro⟨h,k⟩;refine⟨fun x hx=> ?_,k⟩;rcases AgL.1 hx with rfl|hx
   ·exact h
   ·exact QL h ((List.pairwise_cons.1 k).1 x hx)
  ·rintro⟨h,k⟩; exact⟨h b (by simp),k⟩
def hasH (l:List g_api_Head)(z:g_api_Head):Prop:= ∃x∈l,eqH x z
theorem Acv {l:List g_api_Head}{z:g_api_Head}(h:z∈l):hasH l z:=⟨z,h,AcQ z⟩
def Nk:List g_api_Head→g_api_Head→List g_api_Head
 | [],h=> [h]
 |x::l,h=>if Tq x h<0 then x::Nk l h else h::x::l
theorem Nj {h z:g_api_Head}: ∀{l:List g_api_Head},z∈Nk l h↔z=h∨z∈l
 | []=>by simp[Nk]
 |x::l=>by
  rw[Nk];split
  ·rw[AgL,Nj,AgL];constructor
   ·rintro(q|q|q)
    ·exact .inr (.inl q)
    ·exact .inl q
    ·exact .inr (.inr q)
   ·rintro(q|q|q)
    ·exact .inr (.inl q)
    ·exact .inl q
    ·exact .inr (.inr q)
  ·rw[AgL]
theorem Wp {h:g_api_Head}: ∀{l:List g_api_Head},l.Pairwise ltH→¬hasH l h→(Nk l h).Pairwise ltH
 | [],_,_=>by simp[Nk]
 |x::l,hl,hn=>by
  have hxl:=(List.pairwise_cons.1 hl).1;rw[Nk];split
  ·rename_i q;have q:=L7.1 q;refine List.pairwise_cons.2 ⟨fun z hz=> ?_,Wp (List.pairwise_cons.1 hl).2 (fun⟨w,hw,he⟩=>hn ⟨w,AgF _ hw,he⟩)⟩;rcases Nj.1 hz with rfl|hz
   ·exact q
   ·exact hxl z hz
  ·rename_i q;have hhx:ltH h x:=by
    rcases Afb x h with r|r|r
    ·exact absurd (L7.2 r) q
    ·exact absurd ⟨x,by simp,r⟩ hn
    ·exact r
   refine List.pairwise_cons.2 ⟨fun z hz=> ?_,hl⟩;rcases AgL.1 hz with rfl|hz
   ·exact hhx
   ·exact QL hhx (hxl z hz)
theorem PL (h:g_api_Head): ∀(l:List g_api_Head),(Nk l h).length=l.length+1
 | []=>rfl
 |x::l=>by rw[Nk]; split<;>simp[PL h l]
instance eqH_dec (a b:g_api_Head):Decidable (eqH a b):=by unfold eqH; infer_instance
def Afv (l:List g_api_Head)(z:g_api_Head):Bool:=l.any fun x=>decide (eqH x z)
theorem TH {l:List g_api_Head}{z:g_api_Head}:Afv l z=true↔hasH l z:=by simp[Afv,hasH]
theorem appL {α:Type}{b:Nat}{xs ys:List α}(h:xs.length+ys.length≤2199023255552)(hb:b≤56):app b xs ys=some (xs++ys):=by
 unfold app;have:(xs.length+ys.length)*b≤2199023255552*56:=Nat.mul_le_mul h hb;rw[Ags ⟨by omega,by omega⟩]
theorem X7 (a b:UInt64×UInt64):KU a b=true↔(a.1.toNat:Int)=(b.1.toNat:Int)∧(a.2.toNat:Int)=(b.2.toNat:Int):=by
 have h:KU a b=true↔a.1=b.1∧a.2=b.2:=by unfold KU; simp
 rw[h];constructor
 ·rintro⟨h1,h2⟩; rw[h1,h2]; exact⟨rfl,rfl⟩
 ·rintro⟨h1,h2⟩;exact⟨UInt64.toNat_inj.1 (by omega),UInt64.toNat_inj.1 (by omega)⟩
theorem XV (a b:g_api_Head):((((a.Log==b.Log)&&(a.Size==b.Size))&&(KU a.Root b.Root))&&(a.At==b.At))=decide (eqH a b):=by
 rw[Aha,decide_eq_true_iff];unfold eqH;rw[Agg,Agg,Agg,Ag3,Ag3,Ag3,X7];constructor
 ·rintro⟨⟨⟨a,b⟩,c⟩,d⟩; exact⟨a,b,c,d⟩
 ·rintro⟨a,b,c,d⟩; exact⟨⟨⟨a,b⟩,c⟩,d⟩
def KM (h:g_api_Head):List g_api_Head→Nat
 | []=>0
 |x::l=>if Tq x h<0 then KM h l+1 else 0
theorem AaK (h:g_api_Head): ∀l:List g_api_Head,KM h l≤l.length
 | []=>by simp[KM]
 |x::l=>by have:=AaK h l; unfold KM; split<;>simp<;>omega
theorem AdZ {h:g_api_Head}: ∀{l:List g_api_Head} (hi:KM h l<l.length),¬Tq l[KM h l] h<0
 | [],hi=>by simp at hi
 |x::l,hi=>by
  by_cases c:Tq x h<0
  ·have e:KM h (x::l)=KM h l+1:=by rw[KM,Ags c]
   have hi':KM h l<l.length:=by rw[e]at hi; simpa using hi
   have:=AdZ hi';simp only[e,List.getElem_cons_succ];exact this
  ·have e:KM h (x::l)=0:=by rw[KM,Agt c]
   simp only[e,List.getElem_cons_zero];exact c
theorem RE (h:g_api_Head): ∀l:List g_api_Head,Nk l h=l.take (KM h l)++h::l.drop (KM h l)
 | []=>rfl
 |x::l=>by
  unfold Nk KM;split
  ·rw[RE h l]; simp
  ·simp
def fnd {α:Type}(p:α→Bool):List α→Nat→Option (Nat×α)
 | [],_=>none
 |x::xs,i=>if p x=true then some (i,x)else fnd p xs (i+1)
theorem Xa {α:Type}{p:α→Bool}: ∀{xs:List α} {i:Nat} {q:Nat×α},fnd p xs i=some q→∃k,q.1=i+k∧xs[k]? =some q.2∧p q.2=true
 | [],i,q,h=>by cases h
 |x::xs,i,q,h=>by
  unfold fnd at h;split at h
  ·rename_i c;cases h;exact⟨0,rfl,rfl,c⟩
  ·obtain⟨k,h1,h2,h3⟩:=Xa h;exact⟨k+1,by omega,by simpa using h2,h3⟩
theorem AfS {α:Type}{l xs:List α}{x:α}{i:Nat}(h:l.drop i=x::xs): ∃hi:i<l.length,l[i]=x∧l.drop (i+1)=xs:=by
 have hi:i<l.length:=by
  apply Classical.byContradiction;intro q;rw[AgU (by omega)]at h;cases h
 rw[List.drop_eq_getElem_cons hi]at h;injection h with h1 h2;exact⟨hi,h1,h2⟩
theorem U5 {α σ τ:Type}{body:Int→σ→Option (σ⊕τ)}{s:σ}{l:List α}(p:α→Bool)(r:Nat→τ)(hs: ∀i (hi:i<l.length),body (i:Int) s=some (if p l[i]=true then .inr (r i)else .inl s)):
  ∀(xs:List α) (i:Nat),l.drop i=xs→BS body xs.length (i:Int) s=some (match fnd p xs i with|some q=> .inr (r q.1)|none=> .inl s)
 | [],i,_=>rfl
 |x::xs,i,h=>by
  obtain⟨hi,he,hd⟩:=AfS h;have h1:=hs i hi;rw[he]at h1;unfold fnd;simp only[Agw,BS,h1,Aa];by_cases c:p x=true
  ·simp only[Ags c]
  ·simp only[Agt c];exact U5 p r hs xs (i+1) hd
def pk7 (h:g_api_Head):Int×Int×UInt64×UInt64×Int×UInt64×UInt64:=(h.Log,h.Size,h.Root.1,h.Root.2,h.At,h.Sig.E,h.Sig.S)
theorem AaM {l:List g_api_Head}(h:l.length≤2199023255552):AR l=some l:=by
 unfold AR;rw[appL (by simpa using h) (by decide),Aa,Ag4]
theorem Afl {u v:Int}{q:Nat}(hs:0≤u∧v≤0∨u≤0∧0≤v):(u-(q:Int)*v).natAbs=u.natAbs+q*v.natAbs∧((q:Int)*v).natAbs=q*v.natAbs∧(0≤v∧u-(q:Int)*v≤0∨v≤0∧0≤u-(q:Int)*v):=by
 have hqv:((q:Int)*v).natAbs=q*v.natAbs:=by rw[Int.natAbs_mul,Int.natAbs_natCast]
 have h1:0≤v→0≤(q:Int)*v:=fun h=>Int.mul_nonneg (AgZ q) h;have h2:v≤0→(q:Int)*v≤0:=fun h=>Int.mul_nonpos_of_nonneg_of_nonpos (AgZ q) h;refine⟨?_,hqv,?_⟩
 ·rw[←hqv];generalize (q:Int)*v=z at*;omega
 ·generalize (q:Int)*v=z at*;omega
theorem inv_it (m:Nat)(a:Int)(hm2:m<2305843009213693952): ∀(n:Nat) (x y:UInt64) (u v:Int),y.toNat≤n→(∃k,u*a=x.toNat+k*m)→(∃k,v*a=y.toNat+k*m)→u.natAbs*y.toNat+v.natAbs*x.toNat=m→
  (0≤u∧v≤0∨u≤0∧0≤v)→x.toNat≤m→u.natAbs≤m→v.natAbs≤m→y.toNat≤m→
  ∃r:Int,iter BK (n+1) (x,y,u,v)=some r∧(∃k,r*a=Nat.gcd x.toNat y.toNat+k*m)∧r.natAbs≤m:=by
 intro n;induction n with
 |zero=>
  intro x y u v hy hu hv hb hs hx hul hvl hyl;have hy0:y.toNat=0:=by omega
  refine⟨u,FG ?_,by rw[hy0,Nat.gcd_zero_right]; exact hu,hul⟩;unfold BK;rw[Agt (by simp[hy0])]
 |succ n ih=>
  intro x y u v hy hu hv hb hs hx hul hvl hyl;by_cases hy0:y.toNat=0
  ·refine⟨u,FG ?_,by rw[hy0,Nat.gcd_zero_right]; exact hu,hul⟩;unfold BK;rw[Agt (by simp[hy0])]
  ·have hyne:y≠0:=fun e=>hy0 (by rw[e]; rfl);have hdm:=Nat.div_add_mod' x.toNat y.toNat;have hmod:=Nat.mod_lt x.toNat (show 0<y.toNat by omega);have hql:x.toNat/y.toNat≤x.toNat:=Nat.div_le_self _ _;have hmul:x.toNat/y.toNat*y.toNat≤x.toNat:=Nat.div_mul_le_self _ _;have hxl:=x.toNat_lt;have hgcd:Nat.gcd x.toNat y.toNat=Nat.gcd y.toNat (x.toNat%y.toNat):=by rw[Nat.gcd_comm,Nat.gcd_rec,Nat.gcd_comm]
   have eq1:(x/y).toNat=x.toNat/y.toNat:=UInt64.toNat_div _ _;have eq2:((x/y)*y).toNat=x.toNat/y.toNat*y.toNat:=by rw[UInt64.toNat_mul,eq1]; exact Ag1 (Ag7 hmul hxl)
   have eq3:(x-(x/y)*y).toNat=x.toNat%y.toNat:=by
    rw[UInt64.toNat_sub_of_le _ _ (by rw[UInt64.le_iff_toNat_le,eq2]; exact hmul),eq2];omega
   generalize hq:x.toNat/y.toNat=q at*;generalize hr:x.toNat%y.toNat=r at*;obtain⟨habs,hqv,hs'⟩:=Afl (q:=q) hs;have hbal:v.natAbs*r+(u-(q:Int)*v).natAbs*y.toNat=m:=by
    rw[habs,←hb,←hdm]; grind
   have hvm:(u-(q:Int)*v).natAbs≤m:=by
    have:(u-(q:Int)*v).natAbs*1≤(u-(q:Int)*v).natAbs*y.toNat:=Nat.mul_le_mul_left _ (by omega);omega
   have hqb:((q:Int)*v).natAbs≤m:=by omega
   have w1:w64 (q:Int)=(q:Int):=Cx (by omega) (by omega);have w2:w64 ((q:Int)*v)=(q:Int)*v:=by
    generalize (q:Int)*v=z at*;exact Cx (by omega) (by omega)
   have w3:w64 (u-(q:Int)*v)=u-(q:Int)*v:=by
    generalize u-(q:Int)*v=z at*;exact Cx (by omega) (by omega)
   have hdmI:(q:Int)*(y.toNat:Int)+(r:Int)=(x.toNat:Int):=by exact_mod_cast hdm
   obtain⟨t,t1,t2,t3⟩:=ih y (x-(x/y)*y) v (u-(q:Int)*v) (by rw[eq3]; omega) hv (by
    obtain⟨k,hk⟩:=hu;obtain⟨l,hl⟩:=hv;refine⟨k-q*l,?_⟩;rw[eq3];grind) (by rw[eq3]; exact hbal) (by omega) hyl hvl hvm (by rw[eq3]; omega)
   rw[eq3,←hgcd]at t2;refine⟨t,?_,t2,t3⟩;rw[D5 (s':=(y,x-(x/y)*y,v,u-(q:Int)*v)),t1];unfold BK;dsimp only;rw[Ags (by simp; omega),Ags hyne,eq1,Ch,w1,w2,w3,Ch]
theorem inv_eq {a:UInt64}{b:Nat}(h:a.toNat*b%GQ=1): ∃z:UInt64,EJ a=some (z,0)∧z.toNat*a.toNat%GQ=1:=by
 have hm:(a%2305843009213691579).toNat=a.toNat%GQ:=UInt64.toNat_mod _ _;have hml:=Nat.mod_lt a.toNat (show 0<GQ by decide);have hne:a.toNat%GQ≠0:=fun e=>by
  rw[Nat.mul_mod,e,Nat.zero_mul,Nat.zero_mod]at h; cases h
 have hg:Nat.gcd (a.toNat%GQ) GQ=1:=by
  have d1:=Nat.gcd_dvd_left (a.toNat%GQ) GQ;have d2:=Nat.gcd_dvd_right (a.toNat%GQ) GQ;have h':a.toNat%GQ*b%GQ=1:=by rw[Nat.mod_mul_mod]; exact h
  have h2:=Nat.div_add_mod (a.toNat%GQ*b) GQ;rw[h']at h2;have d3:Nat.gcd (a.toNat%GQ) GQ ∣ GQ*(a.toNat%GQ*b/GQ)+1:=by rw[h2]; exact Nat.dvd_trans d1 (Nat.dvd_mul_right _ _)
  have d4:=(Nat.dvd_add_right (Nat.dvd_trans d2 (Nat.dvd_mul_right GQ (a.toNat%GQ*b/GQ)))).1 d3;exact Nat.dvd_one.1 d4
 obtain⟨r,r1,⟨k,r2⟩,r3⟩:=inv_it GQ (a.toNat%GQ:Nat) (by decide) GQ (a%2305843009213691579) 2305843009213691579 1 0 (by decide) ⟨0,by rw[hm]; simp⟩ ⟨-1,by
  rw[show(2305843009213691579:UInt64).toNat=GQ from rfl]; simp⟩ (by rw[show(2305843009213691579:UInt64).toNat=GQ from rfl]; simp) (by omega) (by rw[hm]; omega) (by decide) (by decide) (by decide)
 rw[hm,show(2305843009213691579:UInt64).toNat=GQ from rfl,hg]at r2;have r1':=M8 _ r1 (by decide);have hw:w64 (((2305843009213691579:UInt64).toNat:Int))=(GQ:Int):=Cx (by decide) (by decide);have hz: ∃z:Nat,(if(decide (r<0))=true then bnd ((w64 (r+(w64 (((2305843009213691579:UInt64).toNat:Int)))))) fun x7=>some x7 else some r)=some (z:Int)∧z≤GQ∧∃l:Int,(z:Int)*(a.toNat%GQ:Nat)=1+l*GQ:=by
  simp only[GQ]at*;by_cases hneg:r<0
  ·rw[Ags (by simpa using hneg),hw,Ch,Cx (by omega) (by omega)];obtain⟨z,hz⟩:=Int.eq_ofNat_of_zero_le (show 0≤r+2305843009213691579 by omega);refine⟨z,by rw[←hz]; rfl,by omega,k+(a.toNat%2305843009213691579:Nat),?_⟩;rw[←hz,Int.add_mul,r2];grind
  ·rw[Agt (by simpa using hneg)];obtain⟨z,hz⟩:=Int.eq_ofNat_of_zero_le (show 0≤r by omega);exact⟨z,by rw[hz],by omega,k,by rw[←hz]; exact r2⟩
 obtain⟨z,z1,z2,l,z3⟩:=hz;have hzn:(toU (z:Int)).toNat=z:=Ut (by simp only[GQ]at z2; omega);refine⟨toU (z:Int),?_,?_⟩
 ·unfold EJ C9;rw[Ags (by decide),Agt (by rw[Ag3,hm]; omega),r1',Aa,Aa,z1,Aa,Aa]
 ·rw[hzn,←Nat.mul_mod_mod];have:((z*(a.toNat%GQ):Nat):Int)=1+l*GQ:=by rw[Int.natCast_mul]; exact z3
  generalize z*(a.toNat%GQ)=w at*;simp only[GQ]at*;omega
theorem Vb (n:UInt64):EF n=some (Tn 8 n):=by
 unfold EF;simp[CD,Ic,idx,w64,Ch,Tn]
def pubK (k:UInt64):UInt64:=VN 2305843009213691579 4 k
def chal (c p:UInt64)(msg:List UInt8):UInt64:=numM (ptag ⟨#[115,105,103,110]⟩ [Tn 8 c,Tn 8 p,msg]) 1152921504606845789
theorem Af3 (c p:UInt64){msg:List UInt8}(h:msg.length≤600000):CZ c p msg=some (chal c p msg):=by
 unfold CZ;rw[Vb,Aa,Vb,Aa,YS _ _ (by simp[AeZ,Ke]; omega),Aa,num_eq dvR,Aa]; rfl
def gr:Nat:=GR
theorem WN (a n:UInt64):(VN 2305843009213691579 a n).toNat=a.toNat^n.toNat%GQ:=Ab1 dvQ a n
theorem Afk {p e k:Nat}(hp:p^gr%GQ=1)(he:e≤gr):p^e%GQ*p^ (gr-e)%GQ=1:=by
 rw[Nat.mod_mul_mod,←Nat.pow_add,Nat.add_sub_cancel' he]; exact hp
theorem Afw {α:Type} [Inhabited α](o:Option α):gu true o=o:=rfl
def okBody (b:List UInt8):Bool:=decide (0<b.length)&&decide (b.length≤2048)
def Ab4 (n:Int):Bool:=decide (0≤n)&&decide (n≤1099511627776)
theorem UH (n:Int):CH n=some (Ab4 n):=rfl
def okL:List g_api_Leaf→List (List UInt8)→Bool
 | [],_=>true
 |x::r,ks=>(okBody x.Body&&Ab4 x.At&& !decide (x.Body∈ks))&&okL r (ks++[x.Body])
def okH:List Int→Int→Int→Bool
 | [],_,_=>true
 |x::r,last,n=>(!decide (x≤last)&& !decide (n≤x))&&okH r x n
def okHd (l:g_api_Log):Bool:=Ab4 l.Id&& !decide (l.Key.toNat=0)&&decide (l.Key.toNat<1152921504606845789)&&decide (0≤l.Delay)&&decide (l.Delay≤1000)
def chk (l:g_api_Log):Int:=if okHd l=true then(if okL (l.L++l.Wait) []=true then(if okH l.Hide (-1) (l.L.length:Int)=true then(if 256<(l.L++l.Wait).length then 2 else 0)else 1)else 1)else 1
theorem Acz (n:Nat)(h:n≤1000000):AU (n:Int)=some []:=by
 have hw:w64 ((n:Int)-(w64 (0-((0:Nat):Int))))=(n:Int):=by rw[Cx (n:=0-((0:Nat):Int)) (by omega) (by omega),Cx (by omega) (by omega)]; omega
 unfold AU;rw[Agt (by rw[Agu]; omega),Aa,hw,Ch];by_cases h0:n=0
 ·rw[Agt (by simp; omega),Aa]
 ·rw[Ags (by simp; omega),Ags (by omega),Aa]
theorem Wa: ∀(xs:List (List UInt8)) (i:Int) (n:Nat),n+xs.flatten.length≤1000000→Ey BN xs i (n:Int)=some ((n+xs.flatten.length:Nat):Int):=by
 intro xs;induction xs with
 |nil=>intro i n _; simp[Ey]
 |cons x xs ih=>
  intro i n h;simp only[List.flatten_cons,Agp]at h;have hw:w64 ((n:Int)+(x.length:Int))=((n+x.length:Nat):Int):=by rw[Cx (by omega) (by omega)]; omega
  have hb:BN i x (n:Int)=some ((n+x.length:Nat):Int):=by
   unfold BN;rw[Ch,hw,Agt (by rw[Agu]; omega),Aa]
  simp only[Ey,hb,Aa];rw[ih _ _ (by omega),List.flatten_cons,Agp,Ahg]
theorem Wb: ∀(xs:List (List UInt8)) (i:Int) (s:List UInt8),s.length+xs.flatten.length≤1000000→Ey BM xs i s=some (s++xs.flatten):=by
 intro xs;induction xs with
 |nil=>intro i s _; simp[Ey]
 |cons x xs ih=>
  intro i s h;simp only[List.flatten_cons,Agp]at h;have hb:BM i x s=some (s++x):=by
   unfold BM;rw[Pc 1 (by omega) (by omega),Aa]
  simp only[Ey,hb,Aa];rw[ih _ _ (by rw[Agp]; omega),List.flatten_cons,Agn]
theorem Yc {xs:List (List UInt8)}(h:xs.flatten.length≤1000000):Ba xs=some xs.flatten:=by
 have h1:=Wa xs 0 0 (by omega);rw[show((0:Nat):Int)=0 from rfl,AgN]at h1;unfold Ba;rw[h1,Aa,Aa,Acz _ h,Aa,Wb xs 0 [] (by simpa using h),Aa,Aa,Ag4]
theorem msg_eq {w:ByteArray}{ps:List (List UInt8)}(hw:w.data.toList.length≤100)(h:ps.flatten.length≤100000):JF w ps=some (w.data.toList++ps.flatten):=by
 unfold JF;have h0:([]:List UInt8).length=0:=rfl;rw[Pc 1 (by omega) (by omega),Aa,Yc (by omega),Aa,Ag4,Pc 1 (by omega) (by omega),Aa]
def e8 (n:Int):List UInt8:=[toB (Bg n 56),toB (Bg n 48),toB (Bg n 40),toB (Bg n 32),toB (Bg n 24),toB (Bg n 16),toB (Bg n 8),toB (Bg n 0)]
theorem QY (n:Int):C7 n=some (e8 n):=by
 unfold C7;simp[CD,Ih,idx,w64,Ch,e8]
def Aft (h:g_api_Head):List UInt8:=[104,101,97,100]++[e8 h.Log,e8 h.Size,UF h.Root,e8 h.At].flatten
theorem AdX (n:Int):(e8 n).length=8:=rfl
theorem ZS (h:g_api_Head):Gy h=some (Aft h):=by
 unfold Gy;rw[QY,Aa,QY,Aa,Ac5,Aa,QY,Aa,msg_eq (by decide) (by simp[AdX,RN]),Aa]; rfl
theorem Aak (h:g_api_Head):(Aft h).length≤600000:=by simp[Aft,AdX,RN]
theorem AbZ (p z:UInt64){msg:List UInt8}(s:g_api_Sig)(hm:msg.length≤600000)(hz:EJ (VN 2305843009213691579 p s.E)=some (z,0)):
  (Ab (DL p s.E) fun x2=>Ab (EJ x2) fun x3=>Ab (gu (!(x3.2 !=0)) (DV s.S)) fun x4=>Ab (gu (!(x3.2 !=0)) (I3 x4 x3.1)) fun x5=>Ab (gu (!(x3.2 !=0)) (CZ x5 p msg)) fun x6=>
   if((x3.2 !=0)||((x6.toNat:Int) !=(s.E.toNat:Int)))=true then some (40:Int)else some 0)
   =if(((chal (XZ 2305843009213691579 (pubK s.S) z) p msg).toNat:Int) !=(s.E.toNat:Int))=true then some 40 else some 0:=by
 have e1:((z,(0:Int)).2 !=0)=false:=rfl;unfold I3;rw[WM,Aa,hz,Aa,e1,Bool.not_false,Afw,Agc,Aa,Afw,OC dvQ,Aa,Aa,Afw];dsimp only;rw[show VN 2305843009213691579 4 s.S=pubK s.S from rfl,Af3 _ _ hm,Aa,Ag6]
theorem inv_of {p E:UInt64}(hpow:p.toNat^gr%GQ=1)(hE:E.toNat≤gr): ∃z:UInt64,EJ (VN 2305843009213691579 p E)=some (z,0)∧z.toNat*(VN 2305843009213691579 p E).toNat%GQ=1:=by
 have hinv:(VN 2305843009213691579 p E).toNat*p.toNat^ (gr-E.toNat)%GQ=1:=by
  rw[WN]; exact Afk (k:=0) hpow hE
 exact inv_eq hinv
theorem le_gr {E:UInt64}(hE:E.toNat<1152921504606845789):E.toNat≤gr:=Nat.le_of_lt hE
theorem max_ge {a b:UInt64}:decide (((T0 a b).toNat:Int)≥1152921504606845789)=(decide ((a.toNat:Int)≥1152921504606845789)||decide ((b.toNat:Int)≥1152921504606845789)):=by
 rw[Aha,AgW,Agu,Agu,Agu];unfold T0;split
 ·rename_i hlt;have:=UInt64.lt_iff_toNat_lt.1 hlt;omega
 ·rename_i hlt;have:=mt UInt64.lt_iff_toNat_lt.2 hlt;omega
theorem pow_one {p:UInt64}(h:((VN 2305843009213691579 p 1152921504606845789).toNat:Int)=1):p.toNat^gr%GQ=1:=by
 have h1:=WN p 1152921504606845789;rw[show(1152921504606845789:UInt64).toNat=gr from rfl]at h1;rw[←h1];exact Int.ofNat.inj h
theorem Af9 {a b:UInt64}(h:(decide ((a.toNat:Int)≥1152921504606845789)||decide ((b.toNat:Int)≥1152921504606845789))=false):a.toNat<1152921504606845789:=by
 rw[Bool.or_eq_false_iff,decide_eq_false_iff_not]at h;have:=h.1;omega
theorem inP_eq (p:UInt64):EK p=some (((decide ((p.toNat:Int)>0))&&(decide ((p.toNat:Int)<2305843009213691579)))&&(((VN 2305843009213691579 p 1152921504606845789).toNat:Int)==1)):=by
 unfold EK;cases (decide ((p.toNat:Int)>0))&&(decide ((p.toNat:Int)<2305843009213691579))
 ·simp only[gu,cond_false,Aa,Ch,Ag9]
 ·simp only[gu,cond_true,WM,Aa,Ch,Ag0]
theorem in_one {p:UInt64}(h:(((decide ((p.toNat:Int)>0))&&(decide ((p.toNat:Int)<2305843009213691579)))&&(((VN 2305843009213691579 p 1152921504606845789).toNat:Int)==1))=true):((VN 2305843009213691579 p 1152921504606845789).toNat:Int)=1:=by
 rw[Agg]at h;exact Ag3.1 h.2
theorem AaS (p:UInt64){msg:List UInt8}(s:g_api_Sig)(hm:msg.length≤600000): ∃e,FU p msg s=some e:=by
 unfold FU;rw[inP_eq,Aa,max_ge];cases h1:((decide ((p.toNat:Int)>0))&&(decide ((p.toNat:Int)<2305843009213691579)))&&(((VN 2305843009213691579 p 1152921504606845789).toNat:Int)==1)with
 |false=>rw[Bool.not_false,Ags rfl]; exact⟨_,rfl⟩
 |true=>
  rw[Ag8,Agt Bool.false_ne_true];cases h2:(decide ((s.E.toNat:Int)≥1152921504606845789)||decide ((s.S.toNat:Int)≥1152921504606845789))with
  |true=>rw[Ags rfl]; exact⟨_,rfl⟩
  |false=>
   rw[Agt Bool.false_ne_true];obtain⟨z,z1,z2⟩:=inv_of (pow_one (in_one h1)) (le_gr (Af9 h2));rw[AbZ p z s hm z1];split<;>exact⟨_,rfl⟩
theorem Vy (k:g_api_Key)(log:Int)(ok:Bool){msg:List UInt8}(s:g_api_Sig)(hm:msg.length≤600000): ∃e,Gx k log ok msg s=some e:=by
 unfold Gx;rw[UH,Aa];split
 ·exact⟨_,rfl⟩
 ·split
  ·exact⟨_,rfl⟩
  ·obtain⟨e,he⟩:=AaS k.Key s hm;rw[he,Aa];exact⟨_,rfl⟩
theorem Yg (k:g_api_Key)(p:g_api_Head): ∃e,C0 k p=some e:=by
 unfold C0;rw[UH,Aa,ZS,Aa];obtain⟨e,he⟩:=Vy k p.Log ((Ab4 p.At&&(decide (p.Size≥0)))&&(decide (p.Size≤256))) p.Sig (Aak p);rw[he,Aa];exact⟨_,rfl⟩
def chd (k:g_api_Key)(h:g_api_Head):Int:=(C0 k h).getD 0
theorem chd_eq (k:g_api_Key)(h:g_api_Head):C0 k h=some (chd k h):=by
 obtain⟨e,he⟩:=Yg k h;unfold chd;rw[he]; rfl
def Lv (h:g_api_Head)(ks:List g_api_Key):Bool:=match fnd (fun k:g_api_Key=>k.Log==h.Log) ks 0 with|some q=>chd q.2 h==0|none=>false
theorem Aai (l:List g_api_Key)(k:g_api_Head):AP l k=some ((match fnd (fun y:g_api_Key=>y.Log==k.Log) l 0 with|some q=>(q.1:Int)|none=> -1),k):=by
 have:=U5 (body:=A8 l) (s:=pk7 k) (l:=l) (fun y:g_api_Key=>y.Log==k.Log) (fun i=>((i:Int),k)) (fun i hi=> ?_) l 0 rfl
 ·unfold AP;rw[show((0:Nat):Int)=0 from rfl]at this;rw[show(k.Log,k.Size,k.Root.1,k.Root.2,k.At,k.Sig.E,k.Sig.S)=pk7 k from rfl,this,Aa];cases fnd (fun y:g_api_Key=>y.Log==k.Log) l 0<;>rfl
 ·unfold A8 HA pk7;dsimp only;rw[QQ hi,Aa,Aa];cases l[i].Log==k.Log<;>rfl
theorem WI (h:g_api_Head)(ks:List g_api_Key):Fq h ks=some (Lv h ks):=by
 unfold Fq Lv;rw[Aai,Aa];cases hf:fnd (fun y:g_api_Key=>y.Log==h.Log) ks 0 with
 |none=>rfl
 |some q=>
  obtain⟨k,k1,k2,_⟩:=Xa hf;obtain⟨j,x⟩:=q;have hq:j=k:=by dsimp only at k1; omega
  subst hq;have hd:decide ((j:Int)≥0)=true:=by simp
  dsimp only at k2⊢;rw[hd,DE k2];simp only[gu,cond_true,Aa,chd_eq,Ch,Ag0]
def OD (l:List g_api_Head)(ks:List g_api_Key):Bool:=l.all fun h=>Lv h ks
theorem UB (ks:List g_api_Key): ∀(xs:List g_api_Head) (i:Int),E8 (E3 ks) xs i ()=some (if OD xs ks=true then .inl ()else .inr 40)
 | [],i=>rfl
 |x::xs,i=>by
  have h1:E3 ks i x ()=some (if Lv x ks=true then .inl ()else .inr 40):=by
   unfold E3;rw[WI,Aa];cases Lv x ks<;>rfl
  unfold OD;by_cases c:Lv x ks=true
  ·simp only[E8,h1,c,if_true,Aa,AgX,Ag0];exact UB ks xs (i+1)
  ·have c':Lv x ks=false:=by simpa using c
   simp only[E8,h1,c',Bool.false_eq_true,if_false,Aa,AgX,Ag9]
def Ff (l:List g_api_Head)(ks:List g_api_Key):Int:=if l.length>1024 then 2 else if chB l=true then(if OD l ks=true then 0 else 40)else 1
theorem N5 (p:g_api_Pool)(ks:List g_api_Key):Ft p ks=some (Ff p.L ks):=by
 unfold Ft Ff;simp only[Ch];by_cases h:p.L.length>1024
 ·rw[Ags (by simp; omega),Ags h]
 ·rw[Agt (by simp; omega),Agt h,XX (by omega),Aa];cases chB p.L
  ·rfl
  ·simp only[Ag8,Bool.false_eq_true,if_false,if_true,UB,Aa];cases OD p.L ks<;>rfl
theorem TS {l:List g_api_Head}{ks:List g_api_Key}:Ff l ks=0↔l.length≤1024∧l.Pairwise ltH∧∀h∈l,Lv h ks=true:=by
 unfold Ff;by_cases h:l.length>1024
 ·rw[Ags h]; constructor
  ·intro q; cases q
  ·intro q; omega
 ·rw[Agt h];cases hc:chB l
  ·rw[Agt Bool.false_ne_true];constructor
   ·intro q; cases q
   ·intro q; rw[(Vw l).2 q.2.1]at hc; cases hc
  ·rw[Ags rfl];have hs:=(Vw l).1 hc;cases hr:OD l ks
   ·rw[Agt Bool.false_ne_true];constructor
    ·intro q; cases q
    ·intro q;have:OD l ks=true:=AgC.2 q.2.2;rw[this]at hr; cases hr
   ·rw[Ags rfl];exact⟨fun _=>⟨by omega,hs,AgC.1 hr⟩,fun _=>rfl⟩
theorem Tp {h:g_api_Head}: ∀{l:List g_api_Head},l.Pairwise ltH→∀i (hi:i<l.length),Tq l[i] h<0↔i<KM h l
 | [],_,i,hi=>by simp at hi
 |x::l,hl,i,hi=>by
  have hx:=(List.pairwise_cons.1 hl).1;unfold KM;cases i with
  |zero=>
   simp only[List.getElem_cons_zero];split
   ·exact⟨fun _=>by omega,fun _=>by assumption⟩
   ·exact⟨fun q=>absurd q (by assumption),fun q=>by omega⟩
  |succ i=>
   simp only[List.getElem_cons_succ];have hi':i<l.length:=by simpa using hi
   have ih:=Tp (List.pairwise_cons.1 hl).2 i hi' (h:=h);split
   ·rw[ih]; omega
   ·rename_i c;constructor
    ·intro q;exact absurd (L7.2 (QL (hx _ (List.getElem_mem hi')) (L7.1 q))) c
    ·intro q; omega
theorem Acw {i j:Nat}(h:i+j≤1099511627776):w64 ((Ek (toU (w64 ((i:Int)+(j:Int)))) 1).toNat:Int)=(((i+j)/2:Nat):Int):=by
 have h1:w64 ((i:Int)+(j:Int))=((i+j:Nat):Int):=by rw[Cx (by omega) (by omega)]; omega
 rw[h1];have h2:(toU ((i+j:Nat):Int)).toNat=i+j:=by
  have:=YN ((i+j:Nat):Int);rw[Int.emod_eq_of_lt (by omega) (by omega)]at this;omega
 rw[D6 _ _ (by decide),h2,Nat.pow_one,Cx (by omega) (by omega)]
theorem bs_it {l:List g_api_Head}{h:g_api_Head}(hl:l.Pairwise ltH)(hn:l.length≤500000000000): ∀(d i j n:Nat),j-i≤d→d<n→i≤KM h l→KM h l≤j→j≤l.length→
  iter (Ai l h) n ((i:Int),(j:Int))=some ((KM h l:Nat):Int):=by
 intro d;induction d with
 |zero=>
  intro i j n hd hn' h1 h2 h3;obtain⟨n,rfl⟩: ∃q,n=q+1:=⟨n-1,by omega⟩;have hs:Ai l h ((i:Int),(j:Int))=some (.inr (i:Int)):=by
   unfold Ai; rw[Agt (by simp; omega)]
  simp only[iter,hs,Aa];rw[show i=KM h l from by omega]
 |succ d ih=>
  intro i j n hd hn' h1 h2 h3;obtain⟨n,rfl⟩: ∃q,n=q+1:=⟨n-1,by omega⟩;by_cases hij:i<j
  ·have hm:(i+j)/2<l.length:=by omega
   have hs:Ai l h ((i:Int),(j:Int))=some (.inl (if(i+j)/2<KM h l then((((i+j)/2+1:Nat):Int),(j:Int))else((i:Int),(((i+j)/2:Nat):Int)))):=by
    unfold Ai;dsimp only;rw[Ags (by simpa using hij),Acw (by omega)];unfold bnd;dsimp only;rw[QQ hm,Aa,To,Aa,Aby hm (by omega)];by_cases c:(i+j)/2<KM h l
    ·rw[Ags (by simpa using (Tp hl _ hm).2 c),Ags c]
    ·rw[Agt (by simpa using fun q=>c ((Tp hl _ hm).1 q)),Agt c]
   simp only[iter,hs,Aa];by_cases c:(i+j)/2<KM h l
   ·rw[Ags c]; exact ih _ _ n (by omega) (by omega) (by omega) h2 h3
   ·rw[Agt c]; exact ih _ _ n (by omega) (by omega) h1 (by omega) (by omega)
  ·have hs:Ai l h ((i:Int),(j:Int))=some (.inr (i:Int)):=by
    unfold Ai; rw[Agt (by simp; omega)]
   simp only[iter,hs,Aa];rw[show i=KM h l from by omega]
theorem Afu {l:List g_api_Head}{h:g_api_Head}(hl:l.Pairwise ltH):Afv l h=if hc:KM h l<l.length then Tq l[KM h l] h==0 else false:=by
 rw[Aha,TH];constructor
 ·rintro⟨x,hx,he⟩;obtain⟨i,hi,hxi⟩:=List.mem_iff_getElem.1 hx;have h0:Tq l[i] h=0:=QB.2 (hxi▸he);have hle: ¬i<KM h l:=fun q=>by have:=(Tp hl i hi).2 q; omega
  have hc:KM h l<l.length:=by omega
  rw[dif_pos hc];have:KM h l=i:=by
   apply Classical.byContradiction;intro q;have hlt:KM h l<i:=by omega
   have:=List.pairwise_iff_getElem.1 hl (KM h l) i hc hi hlt;exact AdZ hc (L7.2 (ltH_eq this (QB.1 h0)))
  simp only[this,h0,beq_self_eq_true]
 ·intro q;split at q
  ·rename_i hc;exact⟨_,List.getElem_mem hc,QB.1 (by simpa using q)⟩
  ·cases q
theorem bs_eqG {l:List g_api_Head}{h:g_api_Head}(hl:l.Pairwise ltH)(hn:l.length≤500000000000):Ar l h=some (((KM h l:Nat):Int),Afv l h):=by
 have hc:=AaK h l;have:=bs_it (h:=h) hl hn l.length 0 l.length Dq (by omega) (by unfold Dq; omega) (by omega) hc (Agk _);unfold Ar;rw[show((0:Nat):Int)=0 from rfl]at this;rw[this,Aa,Aa,Afu hl];by_cases c:KM h l<l.length
 ·have hd:decide (((KM h l:Nat):Int)<(l.length:Int))=true:=by simpa using c
  rw[hd,QQ c,dif_pos c];simp only[gu,cond_true,Aa,To,Ch,Ag0]
 ·have hd:decide (((KM h l:Nat):Int)<(l.length:Int))=false:=by simpa using c
  rw[hd,dif_neg c];simp only[gu,cond_false,Aa,Ch,Ag9]
theorem Aaf {l:List g_api_Head}{h:g_api_Head}(hn:l.length≤500000000000):AK l ((KM h l:Nat):Int) [h]=some (Nk l h):=by
 have hc:=AaK h l;unfold AK;rw[Ags ⟨by omega,by omega⟩,Agt (by simp),RE];by_cases c:KM h l=l.length
 ·rw[Ags (by simp[c]),appL (by simp; omega) (by decide),Aa,c]; simp
 ·rw[Agt (by simp; omega),appL (by simp; omega) (by decide),Aa,Ahd]; simp
def Pe (l:List g_api_Head)(h:g_api_Head)(ks:List g_api_Key):List g_api_Head×Int:=if Ff l ks=0 then(if Lv h ks=true then(if Afv l h=true then(l,0)else if l.length<1024 then(Nk l h,0)else([],2))else([],40))else([],Ff l ks)
theorem AfB (p:g_api_Pool)(h:g_api_Head)(ks:List g_api_Key):I2 p h ks=some (⟨(Pe p.L h ks).1⟩,(Pe p.L h ks).2):=by
 unfold I2 Pe;rw[N5,Aa];by_cases hc:Ff p.L ks=0
 ·obtain⟨h1,h2,h3⟩:=TS.1 hc;rw[Agt (by simp[hc]),Ags hc,WI,Aa];cases Lv h ks
  ·rfl
  ·simp only[Ag8,Bool.false_eq_true,if_false,if_true,bs_eqG h2 (show p.L.length≤500000000000 by omega),Aa];cases Afv p.L h
   ·simp only[Bool.false_eq_true,if_false,Ch];by_cases hl:p.L.length<1024
    ·rw[Agt (by simp; omega),Ags hl,AaM (by omega),Aa,Aaf (by omega),Aa]
    ·rw[Ags (by simp; omega),Agt hl]
   ·rfl
 ·rw[Ags (by simpa using hc),Agt hc]
def Tot {α:Type}(x:Option α):Prop:= ∃r,x=some r
theorem tot {α:Type}(r:α):Tot (some r):=⟨r,rfl⟩
theorem CE {α β:Type}{x:Option α}{k:α→Option β}(h:Tot x)(hk: ∀a,x=some a→Tot (k a)):Tot (Ab x k):=by
 obtain⟨a,h⟩:=h;rw[h]; exact hk a h
theorem Ql {α:Type} [Inhabited α]{b:Bool}{x:Option α}(h:b=true→Tot x):Tot (gu b x):=by
 cases b with
 |true=>exact h rfl
 |false=>exact tot default
theorem Qk {α:Type}{b:Bool}{x y:Option α}(h1:b=true→Tot x)(h0:b=false→Tot y):Tot (if b=true then x else y):=by
 cases b with
 |true=>exact h1 rfl
 |false=>exact h0 rfl
theorem Aen {α:Type}{c:Prop} [Decidable c]{x y:Option α}(h1:c→Tot x)(h0: ¬c→Tot y):Tot (if c then x else y):=by
 split
 ·exact h1 ‹_›
 ·exact h0 ‹_›
theorem PR {σ τ:Type}{step:σ→Option (σ⊕τ)}(μ:σ→Nat)(I:σ→Prop)(Q:τ→Prop)
  (h: ∀s,I s→∃r,step s=some r∧(∀s',r= .inl s'→I s'∧μ s'<μ s)∧∀t,r= .inr t→Q t): ∀n s,I s→μ s<n→∃t,iter step n s=some t∧Q t
 |0,s,_,hn=>by omega
 |n+1,s,hI,hn=>by
  obtain⟨r,h1,h2,h3⟩:=h s hI;cases r with
  |inr t=>exact⟨t,by show Ab (step s) _=_; rw[h1]; rfl,h3 t rfl⟩
  |inl s'=>
   obtain⟨i',lt⟩:=h2 s' rfl;obtain⟨t,e,q⟩:=PR μ I Q h n s' i' (by omega);exact⟨t,by show Ab (step s) _=_; rw[h1]; exact e,q⟩
theorem R9 (s:ByteArray)(i:Nat):1≤(Utf8.decode s i).2:=by
 unfold Utf8.decode;simp only;repeat' split
 all_goals simp
theorem Jc:9223372036854775808≤Dq:=Agq rfl
theorem YR (c:Int):Kr c=some (decide (c≤32)||decide (c>126)):=rfl
theorem TF (s:ByteArray)(b:Bool)(hs:s.size<9223372036854775808):Tot (Cy s b):=by
 unfold Cy;refine CE ?_ fun a _=> ?_
 ·obtain⟨t,e,_⟩:=PR (step:=CL s b) (fun i=>s.size-i) (fun _=>True) (fun _=>True) (fun i _=>by
   unfold CL;by_cases hi:i<s.size
   ·rw[Ags hi];simp only[bnd,YR,Aa];split
    ·exact⟨_,rfl,fun s' h=>(by cases h),fun _ _=>trivial⟩
    ·refine⟨_,rfl,fun s' h=> ?_,fun _ _=>trivial⟩;cases h;have:=R9 s i;exact⟨trivial,by omega⟩
   ·rw[Agt hi];exact⟨_,rfl,fun s' h=>(by cases h),fun _ _=>trivial⟩) Dq 0 trivial (by have:=Jc; omega)
  exact⟨t,e⟩
 ·cases a with
  |inl _=>exact tot _
  |inr _=>exact tot _
theorem AbA (s:ByteArray):Tot (DW s):=by
 unfold DW;refine CE (Ql fun h=> ?_) fun a _=>tot _;simp only[Agg,Agu]at h;unfold CM Dy;refine CE (CE (TF s true (by omega)) fun a _=>tot _) fun a _=>tot _
theorem YP {s:ByteArray}{b:Bool}(h:DW s=some b):b=true→eqS s (⟨#[]⟩:ByteArray)=false∧s.size≤64:=by
 unfold DW at h;obtain⟨x,_,h⟩:=Ag h;have h:=Agf (Ad8 h);intro hb;rw[hb]at h;simp only[Agg,Bool.not_eq_true',Agu]at h;exact⟨h.1.1,by omega⟩
theorem TM (c:Int):Tot (Hn c):=tot _
theorem Aag (c:Int):Tot (HN c):=by
 unfold HN;exact CE (Ql fun _=>TM c) fun a _=>tot _
theorem Z4 (s:ByteArray):Tot (HL s):=by
 unfold HL;refine Qk (fun _=>tot _) fun h=> ?_;simp only[Bool.or_eq_false_iff,decide_eq_false_iff_not]at h;refine CE ?_ fun a _=> ?_
 ·obtain⟨t,e,_⟩:=PR (step:=Hx s) (fun i=>s.size-i) (fun _=>True) (fun _=>True) (fun i _=>by
   unfold Hx;by_cases hi:i<s.size
   ·rw[Ags hi];have hd:=R9 s i;obtain⟨x4,h4⟩:=Ql (b:=((i:Int)==(w64 ((s.size:Int)-1)))) fun _=>TM ((Utf8.decode s i).1:Int);obtain⟨x7,h7⟩:=Ql (b:=((i:Int)==0)) fun _=>TM ((Utf8.decode s i).1:Int);obtain⟨x9,h9⟩:=Ql (b:=(!((i:Int)==0))) fun _=>Aag ((Utf8.decode s i).1:Int);simp only[bnd,h4,h7,h9,Aa];split
    ·exact⟨_,rfl,fun s' h=>(by cases h; exact⟨trivial,by omega⟩),fun _ _=>trivial⟩
    ·split
     ·exact⟨_,rfl,fun s' h=>(by cases h),fun _ _=>trivial⟩
     ·split
      ·exact⟨_,rfl,fun s' h=>(by cases h; exact⟨trivial,by omega⟩),fun _ _=>trivial⟩
      ·split
       ·exact⟨_,rfl,fun s' h=>(by cases h),fun _ _=>trivial⟩
       ·exact⟨_,rfl,fun s' h=>(by cases h; exact⟨trivial,by omega⟩),fun _ _=>trivial⟩
   ·rw[Agt hi];exact⟨_,rfl,fun s' h=>(by cases h),fun _ _=>trivial⟩) Dq 0 trivial (by have:=Jc; omega)
  exact⟨t,e⟩
 ·cases a with
  |inl _=>exact tot _
  |inr _=>exact tot _
theorem AdJ: ∀(l:List UInt8) (c:UInt8),Lib.indexByte l c<l.length
 | [],c=>by simp[Lib.indexByte]
 |b::l,c=>by
  have:=AdJ l c;unfold Lib.indexByte;split
  ·rw[Agw]; omega
  ·split
   ·rw[Agw]; omega
   ·rw[Agw]; omega
theorem Lm (s:ByteArray):s.data.toList.length=s.size:=by rw[Array.length_toList]; rfl
theorem Aah (s:ByteArray): ∃x:Int,Gl s (⟨#[46]⟩:ByteArray)=some x∧ -1≤x∧x<s.size:=by
 unfold Gl BO B6;simp only[bnd];by_cases h:((((⟨#[46]⟩:ByteArray).size:Int)==0)||eqS (⟨#[46]⟩:ByteArray) s)=true
 ·rw[Ags h];refine⟨0,rfl,by omega,?_⟩;have h1:eqS (⟨#[46]⟩:ByteArray) s=true:=by
   cases he:eqS (⟨#[46]⟩:ByteArray) s with
   |true=>rfl
   |false=>rw[he]at h; cases h
  have h2: [(46:UInt8)]=s.data.toList:=by simpa[eqS]using h1
  have h3:=Lm s;rw[←h2]at h3;simp only[Agw,AgI]at h3;omega
 ·rw[Agt h];refine⟨ixbS s 46,rfl,Lib.indexByte_ge _ _,?_⟩;have:=AdJ s.data.toList 46;rw[Lm]at this;exact this
theorem SR {x:Int}(h0: -9223372036854775808≤x)(h1:x≤9223372036854775807):w64 x=x:=by
 unfold w64; omega
theorem PW {s:ByteArray}{lo hi:Int}(h0:0≤lo)(h1:lo≤hi)(h2:hi≤s.size):Yb s lo hi=some (s.extract lo.toNat hi.toNat):=by
 unfold Yb; rw[Ags ⟨h0,h1,h2⟩]
theorem WW (s:ByteArray)(n k:Int):DI s n k=Ab (if(decide ((s.size:Int)>k))=true then some true else Ab (Gn s (⟨#[46]⟩:ByteArray)) fun x3=>some (decide (x3≥n))) fun x2=>if x2=true then some false else
  Ab (Gk s (⟨#[46]⟩:ByteArray)) fun x4=>Ab (B1 (fun(s:(Unit)×Nat) (b0:ByteArray)=>if s.2=0 then Ab (BY b0 s) fun y=>some (y.2==0,y)else none) x4.1 x4.2.1 x4.2.2 ((),0)) fun x5=>
  if(x5.2.2.2).2=0 then some true else some false:=by
 unfold DI;cases decide ((s.size:Int)>k)with
 |true=>rfl
 |false=>cases Gn s (⟨#[46]⟩:ByteArray)with|none=>rfl|some x=>rfl
theorem WV (s:ByteArray)(n k:Int)(hk:k≤64):Tot (DI s n k):=by
 rw[WW];refine CE ?_ fun x2 hx2=> ?_
 ·refine Qk (fun _=>tot _) fun _=> ?_;exact⟨_,rfl⟩
 ·refine Qk (fun _=>tot _) fun h=> ?_;have hsz:s.size≤64:=by
   cases hd:decide ((s.size:Int)>k)with
   |true=>rw[Ags hd]at hx2; cases hx2; cases h
   |false=>simp only[decide_eq_false_iff_not]at hd; omega
  have key: ∃r,B1 (fun(s:(Unit)×Nat) (b0:ByteArray)=>if s.2=0 then Ab (BY b0 s) fun y=>some (y.2==0,y)else none) (⟨#[46]⟩:ByteArray) s 0 ((),0)=some r:=by
   have hb5: ∀(b0:ByteArray) (s:Unit×Nat),∃z:Nat,BY b0 s=some ((),z):=fun b0 s=>by
    unfold BY;obtain⟨y,hy⟩:=Z4 b0;rw[hy];simp only[Aa];split
    ·exact⟨1,rfl⟩
    ·exact⟨0,rfl⟩
   unfold B1;rw[Agt (by decide)];obtain⟨tt,hit,hq⟩: ∃t,iter (CF (fun(s:(Unit)×Nat) (b0:ByteArray)=>if s.2=0 then Ab (BY b0 s) fun y=>some (y.2==0,y)else none) (⟨#[46]⟩:ByteArray) 0) Dq (s,((),0))=some t∧∀y,t= .inl y→y.2.2=0:=by
    exact PR (step:=CF (fun(s:(Unit)×Nat) (b0:ByteArray)=>if s.2=0 then Ab (BY b0 s) fun y=>some (y.2==0,y)else none) (⟨#[46]⟩:ByteArray) 0) (fun z=>z.1.size) (fun z=>z.1.size≤64∧z.2.2=0) (fun t=> ∀y,t= .inl y→y.2.2=0) (fun z hz=>by
     obtain⟨x,h1,h2,h3⟩:=Aah z.1;unfold CF;rw[h1];simp only[Aa];by_cases hx:x<0
     ·rw[Ags (by simpa using hx)];exact⟨_,rfl,fun s' h=>(by cases h),fun t ht y hy=>by subst hy; cases ht; exact hz.2⟩
     ·rw[Agt (by simpa using hx)];have hw:w64 (x+0)=x:=by rw[Int.add_zero]; exact SR (by omega) (by omega)
      have hw1:w64 (x+((⟨#[46]⟩:ByteArray).size:Int))=x+1:=SR (x:=x+1) (by omega) (by omega);rw[hw,hw1,PW (by omega) (by omega) (by omega),PW (lo:=x+1) (by omega) (by omega) (by omega)];simp only[Aa,Ags hz.2];obtain⟨zz,hzz⟩:=hb5 (z.1.extract (0:Int).toNat x.toNat) z.2;rw[hzz];simp only[Aa];split
      ·exact⟨_,rfl,fun s' h=>(by cases h),fun t ht y hy=>by subst hy; cases ht⟩
      ·rename_i hne;refine⟨_,rfl,fun s' h=> ?_,fun t ht=>by cases ht⟩;cases h;have e0:zz=0:=by simpa using hne
       refine⟨⟨?_,e0⟩,?_⟩
       ·simp only[ByteArray.size_extract]; omega
       ·simp only[ByteArray.size_extract]; omega) Dq (s,((),0)) ⟨hsz,rfl⟩ (by have:=Jc; show s.size<Dq; omega)
   show Tot (Ab (iter _ Dq (s,((),0))) _);rw[hit];cases tt with
   |inr _=>exact tot _
   |inl y3=>
    have h0:=hq y3 rfl;obtain⟨zz,hzz⟩:=hb5 y3.1 y3.2;simp only[Aa,Ags h0,hzz];exact tot _
  obtain⟨r,hr⟩:=key;show Tot (Ab (B1 _ (⟨#[46]⟩:ByteArray) s 0 ((),0)) _);rw[hr];simp only[Aa];exact Aen (fun _=>tot _) fun _=>tot _
theorem AdK (s:ByteArray):Tot (G2 s):=CE (WV s 8 64 (by decide)) fun a _=>tot _
theorem Abd (s:ByteArray):Tot (C6 s):=by
 unfold C6;refine CE (AdK s) fun a _=>CE ?_ fun a _=>tot _;unfold FZ;exact Qk (fun _=>tot _) fun _=>tot _
theorem TO (s:ByteArray):Tot (Cd s (⟨#[42,46]⟩:ByteArray)):=by
 unfold Cd Bl Bj;refine CE (CE (CE (Ql fun h=> ?_) fun a _=>tot _) fun b hb=> ?_) fun a _=>tot _
 ·simp only[Agu]at h;exact⟨_,PW (by omega) (by omega) h⟩
 ·refine Qk (fun _=>tot _) fun h=> ?_;obtain⟨x,_,hx⟩:=Ag hb;have hx:=Agf (Ad8 hx);have hb:b=true:=by simpa using h
  rw[hb]at hx;simp only[Agg,Agu]at hx;exact CE ⟨_,PW (by omega) hx.1 (by omega)⟩ fun a _=>tot _
theorem Wm (s:ByteArray):Tot (CN s):=by
 unfold CN EG;refine CE (CE (AdK s) fun a _=>Qk (fun _=>tot _) fun _=>CE (TO s) fun b _=>CE (Ql fun _=>WV _ 7 62 (by decide)) fun c _=>tot _) fun a _=>CE ?_ fun a _=>tot _;unfold FZ;exact Qk (fun _=>tot _) fun _=>tot _
theorem YM {α:Type}{x:Option α}{d:α}(h:Tot x):x=some (x.getD d):=by
 obtain⟨r,h⟩:=h;rw[h]; rfl
def textV (s:ByteArray):Bool:=(DW s).getD false
def nameV (s:ByteArray):Int:=(C6 s).getD 0
def patV (s:ByteArray):Int:=(CN s).getD 0
theorem YQ (s:ByteArray):DW s=some (textV s):=YM (AbA s)
theorem WX (s:ByteArray):C6 s=some (nameV s):=YM (Abd s)
theorem ZK (s:ByteArray):CN s=some (patV s):=YM (Wm s)
theorem Wv {s:ByteArray}(h:textV s=true):eqS s (⟨#[]⟩:ByteArray)=false∧s.size≤64:=YP (YQ s) h
theorem UK {s:ByteArray}{n k:Int}(h:DI s n k=some true):(s.size:Int)≤k:=by
 rw[WW]at h;obtain⟨x,hx,h⟩:=Ag h;cases hd:decide ((s.size:Int)>k)with
 |true=>
  rw[Ags hd]at hx;cases hx;cases h
 |false=>simp only[decide_eq_false_iff_not]at hd; omega
theorem Aac {s:ByteArray}(h:G2 s=some true):s.size≤64:=by
 obtain⟨x,hx,h⟩:=Ag h;cases h;have:=UK hx;omega
theorem Ur {b:Bool}{r:Int}(h:FZ b=some r)(h0:r=0):b=true:=by
 cases b with
 |true=>rfl
 |false=>
  have h2:(110:Int)=r:=Agf h;omega
theorem XY {s:ByteArray}(h:nameV s=0):s.size≤64:=by
 have e:=WX s;rw[h]at e;obtain⟨x,hx,e⟩:=Ag e;obtain⟨y,hy,e⟩:=Ag e;cases e;have:=Ur hy rfl;rw[this]at hx;exact Aac hx
theorem Ry {s:ByteArray}{c:ByteArray×Bool}(h:Cd s (⟨#[42,46]⟩:ByteArray)=some c)(h1:c.2=true):c.1.size+2=s.size:=by
 unfold Cd Bl Bj at h;obtain⟨d,hd,h⟩:=Ag h;have h:=Agf h;subst h;obtain⟨p,hp,hd⟩:=Ag hd;cases p with
 |false=>
  have hd:=Agf hd;subst hd;cases h1
 |true=>
  obtain⟨q,hq,hd⟩:=Ag hd;have hd:=Agf hd;subst hd;unfold Yb at hq;split at hq
  ·rename_i hc;have hq:=Agf hq;have e2:(⟨#[42,46]⟩:ByteArray).size=2:=rfl;rw[e2]at hq hc;show q.size+2=s.size;rw[←hq,ByteArray.size_extract];omega
  ·cases hq
theorem ZJ {s:ByteArray}(h:patV s=0):s.size≤64:=by
 have e:=ZK s;rw[h]at e;obtain⟨x,hx,e⟩:=Ag e;obtain⟨y,hy,e⟩:=Ag e;cases e;have h1:=Ur hy rfl;unfold EG at hx;obtain⟨b,hb,hx⟩:=Ag hx;cases b with
 |true=>exact Aac hb
 |false=>
  rw[Agt (by decide)]at hx;obtain⟨c,hc,hx⟩:=Ag hx;obtain⟨d,hd,hx⟩:=Ag hx;have hx:=Agf hx;subst hx;have h2:(c.2&&d)=true:=h1;simp only[Agg]at h2;rw[h2.1,h2.2]at hd;have h3:=UK hd;have h4:=Ry hc h2.1;omega
def QN (right:ByteArray→Int):List ByteArray→List ByteArray→Bool
 |_,[]=>true
 |met,s::l=> !(met.any (eqS s))&&right s==0&&QN right (met++[s]) l
def Ll (met:List ByteArray):List (ByteArray×Bool):=met.map fun s=>(s,true)
theorem QM: ∀(met:List ByteArray) (s:ByteArray) (i:Nat),(lkI (Ll met) s i).isSome=met.any (eqS s)∧∀p,lkI (Ll met) s i=some p→p.2=true
 | [],s,i=>⟨rfl,fun p h=>by cases h⟩
 |a::met,s,i=>by
  have ih:=QM met s (i+1);rw[List.any_cons];cases h:eqS s a with
  |true=>
   refine⟨?_,fun p hp=> ?_⟩
   ·show(if eqS s a=true then some (i,true)else lkI (Ll met) s (i+1)).isSome=_;rw[Ags h]; rfl
   ·have hp:(if eqS s a=true then some (i,true)else lkI (Ll met) s (i+1))=some p:=hp;rw[Ags h]at hp;cases hp; rfl
  |false=>
   refine⟨?_,fun p hp=> ?_⟩
   ·show(if eqS s a=true then some (i,true)else lkI (Ll met) s (i+1)).isSome=_;rw[Agt (by rw[h]; decide)]; exact ih.1
   ·have hp:(if eqS s a=true then some (i,true)else lkI (Ll met) s (i+1))=some p:=hp;rw[Agt (by rw[h]; decide)]at hp;exact ih.2 p hp
theorem Z0 (met:List ByteArray)(s:ByteArray):lkB (Ll met) s=met.any (eqS s):=by
 have h:=QM met s 0;unfold lkB;rw[←h.1];cases e:lkI (Ll met) s 0 with
 |none=>rfl
 |some p=>rw[Agz,Option.getD_some,h.2 p e]; rfl
theorem Acg (met:List ByteArray)(s:ByteArray)(h:met.any (eqS s)=false):(lkI (Ll met) s 0).isNone=true:=by
 have h1:=(QM met s 0).1;rw[h]at h1;cases e:lkI (Ll met) s 0 with
 |none=>rfl
 |some p=>rw[e]at h1; cases h1
theorem Aff (right:ByteArray→Int)(mr:ByteArray→Option Int)(hr: ∀s,mr s=some (right s)): ∀(l met:List ByteArray) (i:Int),
  E8 (fun(i1:Int) (x2:ByteArray) (s1:List (ByteArray×Bool))=>Ab (gu (!(lkB s1 x2)) (mr x2)) fun x3=>if((lkB s1 x2)||(x3 !=0))=true then some (.inr false)else if(lkI s1 x2 0).isNone=true then some (.inl (s1++[(x2,true)]))else none) l i (Ll met)
   =some (if QN right met l=true then .inl (Ll (met++l))else .inr false)
 | [],met,i=>by simp[E8,QN]
 |s::l,met,i=>by
  have ih:=Aff right mr hr l (met++[s]) (i+1);have hm':=Z0 met s;simp only[E8,hr]at ih⊢;rw[hm'];cases hm:met.any (eqS s)with
  |true=>simp[gu,QN,hm]
  |false=>
   simp only[gu,Bool.not_false,cond_true,Aa,Ag6];cases h0:right s==0 with
   |false=>
    have h1:(right s !=0)=true:=by simp only[bne,h0,Bool.not_false]
    rw[Ags h1];simp[QN,hm,h0]
   |true=>
    have h1:(right s !=0)=false:=by simp only[bne,h0,Ag8]
    rw[h1];simp only[Bool.false_eq_true,if_false,Acg met s hm,if_true,Aa];have e:Ll met++[(s,true)]=Ll (met++[s]):=by simp[Ll]
    rw[e];simp only[gu]at ih;rw[ih];simp[QN,hm,h0]
def listV (right:ByteArray→Int)(l:List ByteArray)(a b:Int):Bool:=QN right [] l&&decide ((l.length:Int)≥a)&&decide ((l.length:Int)≤b)
theorem Z3 (l:List ByteArray)(a b:Int):FE l a b=some (listV patV l a b):=by
 unfold FE;have h:=Aff patV CN ZK l [] 0;show Ab (E8 _ l 0 (Ll [])) _=_;unfold It;rw[h];unfold listV;cases QN patV [] l<;>rfl
theorem Z2 (l:List ByteArray)(a b:Int):FF l a b=some (listV nameV l a b):=by
 unfold FF;have h:=Aff nameV C6 WX l [] 0;show Ab (E8 _ l 0 (Ll [])) _=_;unfold Iu;rw[h];unfold listV;cases QN nameV [] l<;>rfl
theorem UP {right:ByteArray→Int}: ∀{l met:List ByteArray},QN right met l=true→∀s∈l,right s=0
 | [],met,_,s,hs=>by cases hs
 |a::l,met,h,s,hs=>by
  simp only[QN,Agg,Ag3]at h;rcases AgL.1 hs with e|hs
  ·rw[e]; exact h.1.2
  ·exact UP h.2 s hs
def numB (n:Int):Bool:=decide (n≥0)&&decide (n≤1099511627776)
def sigB (s:g_api_Sig):Bool:=decide ((T0 s.E s.S).toNat<1152921504606845789)
def promBC (p:g_api_Promise):Bool:=numB p.Log&&numB p.At&&decide ((T0 p.Leaf.1 p.Leaf.2).toNat<2305843009213693951)&&sigB p.Sig
theorem RP (n:Int):DX n=some (numB n):=rfl
theorem Uv (s:g_api_Sig):GF s=some (sigB s):=by
 unfold GF sigB;simp only[bnd,Agj,decide_eq_decide];omega
theorem max_eq (a b:UInt64):B7 [a,b]=some (T0 a b):=by
 have e1:A7 [a,b] (a,1)=some (.inl (T0 a b,2)):=rfl;have e2:A7 [a,b] (T0 a b,2)=some (.inr (T0 a b)):=rfl;have h: ∀n,iter (A7 [a,b]) (n+1+1) (a,1)=some (T0 a b):=fun n=>by
  simp only[iter,e1,Aa,e2]
 have hf:iter (A7 [a,b]) Dq (a,1)=some (T0 a b):=h 18446744073709551614;have i0:idx [a,b] 0=some a:=rfl;have d0:decide ((([a,b]:List UInt64).length:Int)<1)=false:=rfl;unfold B7;rw[d0,i0];simp only[Bool.false_eq_true,if_false,Aa,hf]
theorem gu_b {c v:Bool}:gu c (some v)=some (c&&v):=by cases c<;>rfl
theorem W8 {α:Type} [Inhabited α](o:Option α):gu true o=o:=rfl
theorem AdO {α:Type} [Inhabited α](o:Option α):gu false o=some default:=rfl
theorem Nb {α β:Type}(a:α)(k:α→β):bnd a k=k a:=rfl
theorem VM (p:g_api_Promise):GG p=some (promBC p):=by
 unfold GG promBC;simp only[RP,max_eq,Uv,gu_b,Nb,Aa];have e: ∀x:UInt64,decide ((x.toNat:Int)<2305843009213693951)=decide (x.toNat<2305843009213693951):=fun x=>by
  rw[decide_eq_decide]; omega
 simp only[e];cases numB p.Log with
 |false=>simp only[Ag9,AdO,Aa]
 |true=>
  cases numB p.At with
  |false=>simp only[Ag9,Ag0,AdO,Aa]
  |true=>
   simp only[Ag0,W8,Aa];cases decide ((T0 p.Leaf.1 p.Leaf.2).toNat<2305843009213693951)<;>simp only[Ag9,Ag0]
def promsB:Int→List g_api_Promise→Bool
 |_,[]=>true
 |last,p::l=>promBC p&& !(decide (p.Log≤last))&&promsB p.Log l
theorem WK: ∀(l:List g_api_Promise) (i last:Int),∃z:Int,E8 C1 l i last=some (if promsB last l=true then .inl z else .inr false)
 | [],i,last=>⟨last,rfl⟩
 |p::l,i,last=>by
  obtain⟨z,ih⟩:=WK l (i+1) p.Log;refine⟨z,?_⟩;have e:C1 i p last=some (if(promBC p&& !(decide (p.Log≤last)))=true then .inl p.Log else .inr false):=by
   unfold C1;rw[VM,Aa];cases promBC p<;>cases decide (p.Log≤last)<;>rfl
  show Ab (C1 i p last) _=_;rw[e];cases h:promBC p&& !(decide (p.Log≤last))with
  |false=>
   simp[promsB,h]
  |true=>
   rw[Ags rfl,Aa];show E8 C1 l (i+1) p.Log=_;rw[ih];simp[promsB,h]
def formB (c:g_api_Cert):Bool:=promsB (-1) c.Proms&&(numB c.Serial&&numB c.From&&numB c.Until&&decide (c.From<c.Until))&&(textV c.Issuer&&(!((c.Key.toNat:Int)==0))&&decide ((c.Key.toNat:Int)<2305843009213691579)&&decide ((c.Proms.length:Int)≤4)&&sigB c.Sig)&&(if c.Ca=true then textV c.Subject&&((c.Names.length:Int)==0)&&decide (c.Depth≥0)&&decide (c.Depth≤4)&&listV patV c.Permit 0 8 else eqS c.Subject (⟨#[]⟩:ByteArray)&&listV nameV c.Names 1 8&&(c.Depth==0)&&((c.Permit.length:Int)==0))
theorem Aaq (c:g_api_Cert):HS c=some (formB c):=by
 obtain⟨z,hz⟩:=WK c.Proms 0 (-1);unfold HS formB;rw[hz];cases promsB (-1) c.Proms with
 |false=>rfl
 |true=>
  rw[Ags rfl,Aa];simp only[RP,YQ,Uv,Z3,Z2,gu_b,Nb,Aa,Ag0];have e1:decide (c.From≥c.Until)= !decide (c.From<c.Until):=by
   rw[←decide_not,decide_eq_decide]; omega
  have e2:decide ((c.Key.toNat:Int)≥2305843009213691579)= !decide ((c.Key.toNat:Int)<2305843009213691579):=by
   rw[←decide_not,decide_eq_decide]; omega
  have e3:decide ((c.Proms.length:Int)>4)= !decide ((c.Proms.length:Int)≤4):=by
   rw[←decide_not,decide_eq_decide]; omega
  rw[e1,e2,e3];generalize numB c.Serial=a1;generalize numB c.From=a2;generalize numB c.Until=a3;generalize decide (c.From<c.Until)=a4;generalize textV c.Issuer=b1;generalize ((c.Key.toNat:Int)==0)=b2;generalize decide ((c.Key.toNat:Int)<2305843009213691579)=b3;generalize decide ((c.Proms.length:Int)≤4)=b4;generalize sigB c.Sig=b5;cases a1<;>cases a2<;>cases a3<;>cases a4<;>try rfl
  all_goals cases b1<;>cases b2<;>cases b3<;>cases b4<;>cases b5<;>try rfl
  cases c.Ca with
  |true=>
   show some _=some _;generalize listV patV c.Permit 0 8=d1;generalize textV c.Subject=d2;generalize ((c.Names.length:Int)==0)=d3;generalize decide (c.Depth≥0)=d4;generalize decide (c.Depth≤4)=d5;cases d1<;>cases d2<;>cases d3<;>cases d4<;>cases d5<;>rfl
  |false=>
   show some _=some _;generalize listV nameV c.Names 1 8=d1;generalize eqS c.Subject (⟨#[]⟩:ByteArray)=d2;cases d1<;>cases d2<;>rfl
theorem Si {α:Type}(b:Nat){xs ys:List α}(h:(xs.length+ys.length)*b≤140737488355328)(h1:xs.length+ys.length≤140737488355328):app b xs ys=some (xs++ys):=by unfold app; rw[Ags ⟨h,h1⟩]
theorem Wj {α:Type}(b:Nat){ys:List α}(h:ys.length*b≤140737488355328)(h1:ys.length≤140737488355328):app b [] ys=some ys:=by
 rw[Si b (by simpa using h) (by simpa using h1)]; rfl
theorem cut_tl {α:Type}(x:α)(xs:List α):cut (x::xs) 1 (((x::xs).length:Nat):Int)=some xs:=by
 unfold cut;rw[Ags ⟨by omega,by rw[Agw]; omega,by omega⟩];show some (List.take _ xs)=_;rw[AgY];simp
def be8 (n:Int):List UInt8:=[toB (Bg n 56),toB (Bg n 48),toB (Bg n 40),toB (Bg n 32),toB (Bg n 24),toB (Bg n 16),toB (Bg n 8),toB (Bg n 0)]
def UR:List UInt8→Bool
 | []=>false
 | [_]=>true
 |a::b::l=>decide (((a::b::l).length:Int)≤8)&&((a.toNat:Int) !=((toB (-((shrB b 7).toNat:Int))).toNat:Int))
def Adh:List UInt8→List UInt8
 | []=> []
 | [a]=> [a]
 |a::b::l=>if UR (a::b::l)=true then a::b::l else Adh (b::l)
theorem TA (l:List UInt8):Im l=some (UR l):=by
 match l with
 | []=>rfl
 | [a]=>rfl
 |a::b::l=>
  unfold Im;have e0:(((a::b::l).length:Int)==0)=false:=by simp only[Ahf,Agw]; omega
  have e1:(((a::b::l).length:Int)==1)=false:=by simp only[Ahf,Agw]; omega
  have i0:idx (a::b::l) 0=some a:=rfl;have i1:idx (a::b::l) 1=some b:=rfl;rw[e0,e1,i0,i1];simp only[Bool.false_eq_true,if_false,Aa,Nb,UR];cases decide (((a::b::l).length:Int)≤8)<;>rfl
theorem YL: ∀(n:Nat) (l:List UInt8),l.length<n→iter DK n l=some (Adh l)
 |0,l,h=>by omega
 |n+1,l,h=>by
  show Ab (DK l) _=_;match l with
  | []=>rfl
  | [a]=>rfl
  |a::b::l=>
   have ih:=YL n (b::l) (by simp only[Agw]at h⊢; omega);have e0:decide (((a::b::l).length:Int)>1)=true:=by simp only[Agu,Agw]; omega
   cases hl:UR (a::b::l)with
   |true=>
    have e:DK (a::b::l)=some (.inr (a::b::l)):=by
     unfold DK;rw[e0,Ags rfl,TA,hl];rfl
    rw[e];simp[Adh,hl]
   |false=>
    have e:DK (a::b::l)=some (.inl (b::l)):=by
     unfold DK;rw[e0,Ags rfl,TA,hl,cut_tl];rfl
    rw[e];simp only[Aa];rw[ih];simp[Adh,hl]
theorem SX: ∀(l:List UInt8),(Adh l).length≤l.length
 | []=>Agk _
 | [a]=>Agk _
 |a::b::l=>by
  have ih:=SX (b::l);unfold Adh;split
  ·exact Agk _
  ·rw[Agw]; omega
def T3 (n:Int):g_api_Item:=⟨2,Adh (be8 n),[]⟩
theorem be8_eq (n:Int):CD (LF n) 8 0 (0,0,0,0,0,0,0,0)=some (toB (Bg n 56),toB (Bg n 48),toB (Bg n 40),toB (Bg n 32),toB (Bg n 24),toB (Bg n 16),toB (Bg n 8),toB (Bg n 0)):=rfl
theorem Xq {l:List UInt8}(h:l.length≤140737488355328):AW l=some l:=by
 unfold AW;rw[Wj 1 (by omega) h]; rfl
theorem Aae (n:Int):EI n=some (T3 n):=by
 have h8:(be8 n).length=8:=rfl;have h:=SX (be8 n);unfold EI;rw[be8_eq];show Ab (Ab (iter DK Dq (be8 n)) _) _=_;rw[YL Dq (be8 n) (by rw[h8]; have:=Jc; omega)];show Ab (AW (Adh (be8 n))) _=_;rw[Xq (by omega)];rfl
def T4 (x:UInt64):g_api_Item:=T3 (w64 (x.toNat:Int))
theorem Xt (x:UInt64):Eb x=some (T4 x):=by unfold Eb; rw[Aae]; rfl
def MK (s:ByteArray):g_api_Item:=⟨12,s.data.toList,[]⟩
def Wg (v:Bool):g_api_Item:=⟨1,[if v=true then 255 else 0],[]⟩
def XK (l:List g_api_Item):g_api_Item:=⟨48,[],l⟩
theorem SY {s:ByteArray}(h:s.size≤140737488355328):HW s=some (MK s):=by
 unfold HW;rw[Wj 1 (by rw[Lm]; omega) (by rw[Lm]; exact h)]; rfl
theorem Ac6 (v:Bool):OK v=some (Wg v):=by cases v<;>rfl
theorem MN {l:List g_api_Item}(h:l.length≤1000000):Fu l=some (XK l):=by
 unfold Fu Bh;rw[Wj 56 (by omega) (by omega)]; rfl
theorem Wt: ∀(l:List ByteArray) (i:Int) (a:List g_api_Item),(∀s∈l,s.size≤64)→a.length+l.length≤1000000→Ey BC l i a=some (a++l.map MK)
 | [],i,a,_,_=>by simp[Ey]
 |s::l,i,a,h,hn=>by
  rw[Agw]at hn;have ih:=Wt l (i+1) (a++[MK s]) (fun x hx=>h x (AgF _ hx)) (by rw[Agp]; show a.length+1+_≤_; omega);have e:BC i s a=some (a++[MK s]):=by
   unfold BC;rw[SY (by have:=h s AgD; omega),Aa,Si 56 (by show(a.length+1)*56≤_; omega) (by show a.length+1≤_; omega)];rfl
  show Ab (BC i s a) _=_;rw[e];show Ey _ l (i+1) (a++[MK s])=_;rw[ih];simp
def Qm (l:List ByteArray):g_api_Item:=XK (l.map MK)
theorem Wu {l:List ByteArray}(h: ∀s∈l,s.size≤64)(hn:l.length≤1000000):Bx l=some (Qm l):=by
 unfold Bx;rw[Wt l 0 [] h (by simpa using hn)];simp only[Aa,Ag4];rw[MN (by rw[AgR]; exact hn)]; rfl
def Tm (p:g_api_Promise):g_api_Item:=XK [T3 p.Log,T3 p.At,T4 p.Leaf.1,T4 p.Leaf.2,T4 p.Sig.E,T4 p.Sig.S]
theorem AbY (p:g_api_Promise):HT p=some (Tm p):=by
 unfold HT;simp only[Aae,Xt,Aa];rw[MN (by simp)]; rfl
theorem WJ: ∀(l:List g_api_Promise) (i:Int) (a:List g_api_Item),a.length+l.length≤1000000→Ey A0 l i a=some (a++l.map Tm)
 | [],i,a,_=>by simp[Ey]
 |s::l,i,a,hn=>by
  rw[Agw]at hn;have ih:=WJ l (i+1) (a++[Tm s]) (by rw[Agp]; show a.length+1+_≤_; omega);have e:A0 i s a=some (a++[Tm s]):=by
   unfold A0;rw[AbY,Aa,Si 56 (by show(a.length+1)*56≤_; omega) (by show a.length+1≤_; omega)];rfl
  show Ab (A0 i s a) _=_;rw[e];show Ey _ l (i+1) (a++[Tm s])=_;rw[ih];simp
def WL (l:List g_api_Promise):g_api_Item:=XK (l.map Tm)
theorem ZA {l:List g_api_Promise}(hn:l.length≤1000000):Bo l=some (WL l):=by
 unfold Bo;rw[WJ l 0 [] (by simpa using hn)];simp only[Aa,Ag4];rw[MN (by rw[AgR]; exact hn)]; rfl
structure Wl (c:g_api_Cert):Prop where
 issuer:c.Issuer.size≤64
 subject:c.Subject.size≤64
 names: ∀s∈c.Names,s.size≤64
 few:c.Names.length≤8
 permit: ∀s∈c.Permit,s.size≤64
 fewP:c.Permit.length≤8
 proms:c.Proms.length≤4
def preI (c:g_api_Cert):g_api_Item:=XK [T3 c.Serial,MK c.Issuer,MK c.Subject,T4 c.Key,Qm c.Names,T3 c.From,T3 c.Until,Wg c.Ca,T3 c.Depth,Qm c.Permit]
def Yi (c:g_api_Cert):g_api_Item:=XK [preI c,WL c.Proms]
def wholeI (c:g_api_Cert):g_api_Item:=XK [Yi c,XK [T4 c.Sig.E,T4 c.Sig.S]]
theorem AeX {c:g_api_Cert}(h:Wl c):JP c=some (preI c):=by
 unfold JP;have h1:=h.issuer; have h2:=h.subject; have h3:=h.few; have h4:=h.fewP;simp only[Aae,Xt,Ac6,SY (s:=c.Issuer) (by omega),SY (s:=c.Subject) (by omega),Wu h.names (by omega),Wu h.permit (by omega),Aa];rw[MN (by simp)]; rfl
theorem Ac7 {c:g_api_Cert}(h:Wl c):Iv c=some (Yi c):=by
 unfold Iv;have h1:=h.proms;rw[AeX h,ZA (by omega)];simp only[Aa];rw[MN (by simp)]; rfl
theorem YD {c:g_api_Cert}(h:Wl c):I5 c=some (wholeI c):=by
 unfold I5;rw[Ac7 h,Xt,Xt];simp only[Aa];rw[MN (by simp)];simp only[Aa];rw[MN (by simp)]; rfl
structure Form (c:g_api_Cert):Prop where
 proms:promsB (-1) c.Proms=true
 serial:numB c.Serial=true
 frm:numB c.From=true
 til:numB c.Until=true
 lt:c.From<c.Until
 issuer:textV c.Issuer=true
 key0:(c.Key.toNat:Int)≠0
 keyQ:(c.Key.toNat:Int)<2305843009213691579
 nproms:(c.Proms.length:Int)≤4
 sig:sigB c.Sig=true
 ca:c.Ca=true→textV c.Subject=true∧c.Names=[]∧0≤c.Depth∧c.Depth≤4∧listV patV c.Permit 0 8=true
 leaf:c.Ca=false→c.Subject=(⟨#[]⟩:ByteArray)∧listV nameV c.Names 1 8=true∧c.Depth=0∧c.Permit=[]
theorem AfH {c:g_api_Cert}(h:formB c=true):Form c:=by
 unfold formB at h;simp only[Agg,Agu,Bool.not_eq_true',Ahf]at h;obtain⟨⟨⟨h1,⟨⟨h2,h3⟩,h4⟩,h5⟩,⟨⟨⟨h6,h7⟩,h8⟩,h9⟩,h10⟩,h11⟩:=h;refine⟨h1,h2,h3,h4,h5,h6,h7,h8,h9,h10,fun e=> ?_,fun e=> ?_⟩
 ·rw[Ags e]at h11;simp only[Agg,Agu,Ag3]at h11;obtain⟨⟨⟨⟨a,b⟩,d⟩,f⟩,g⟩:=h11;exact⟨a,List.eq_nil_of_length_eq_zero (by omega),by omega,f,g⟩
 ·rw[e]at h11;simp only[Bool.false_eq_true,if_false,Agg,Agu,Ag3]at h11;obtain⟨⟨⟨a,b⟩,d⟩,f⟩:=h11;exact⟨LQ.1 a,b,d,List.eq_nil_of_length_eq_zero (by omega)⟩
theorem UO {right:ByteArray→Int}{l:List ByteArray}{a b:Int}(h:listV right l a b=true):a≤l.length∧(l.length:Int)≤b∧∀s∈l,right s=0:=by
 unfold listV at h;simp only[Agg,Agu]at h;exact⟨by omega,h.2,UP h.1.1⟩
theorem Form.sized {c:g_api_Cert}(h:Form c):Wl c:=by
 have hi:=(Wv h.issuer).2;have hp:=h.nproms;cases hc:c.Ca with
 |true=>
  obtain⟨h1,h2,h3,h4,h5⟩:=h.ca hc;obtain⟨l1,l2,l3⟩:=UO h5;exact⟨hi,(Wv h1).2,(by rw[h2]; intro s hs; cases hs),by rw[h2]; decide,fun s hs=>ZJ (l3 s hs),by omega,by omega⟩
 |false=>
  obtain⟨h1,h2,h3,h4⟩:=h.leaf hc;obtain⟨l1,l2,l3⟩:=UO h2;exact⟨hi,by rw[h1]; decide,fun s hs=>XY (l3 s hs),by omega,(by rw[h4]; intro s hs; cases hs),by rw[h4]; decide,by omega⟩
theorem AfL (t:Int):HV t=some (if t=1 then(⟨1,428⟩,true)else if t=2 then(⟨2,299⟩,true)else if t=4 then(⟨4,429⟩,true)else if t=12 then(⟨12,430⟩,true)else if t=48 then(⟨48,432⟩,true)else(⟨0,-1⟩,false)):=by
 by_cases h1:t=1
 ·subst h1; rfl
 by_cases h2:t=2
 ·subst h2; rfl
 by_cases h3:t=4
 ·subst h3; rfl
 by_cases h4:t=12
 ·subst h4; rfl
 by_cases h5:t=48
 ·subst h5; rfl
 rw[Agt h1,Agt h2,Agt h3,Agt h4,Agt h5];have b: ∀(k:Int),t≠k→((k==t)=true)=False:=fun k h=>by simp only[Ag3,eq_iff_iff,iff_false]; exact fun e=>h e.symm
 have g:BS (An tab_2) tab_2.length 0 t=some (.inl t):=by
  have i: ∀(j:Nat) (k:E6),idx tab_2 (j:Int)=some k→t≠k.tag_→An tab_2 (j:Int) t=some (.inl t):=fun j k e hk=>by
   have hb:(k.tag_==t)=false:=by simp only[Ahf]; exact fun e=>hk e.symm
   unfold An LD;rw[e];simp only[Aa,hb,Bool.false_eq_true,if_false]
  show Ab (An tab_2 ((0:Nat):Int) t) _=_;rw[i 0 ⟨1,428⟩ rfl h1];show Ab (An tab_2 ((1:Nat):Int) t) _=_;rw[i 1 ⟨2,299⟩ rfl h2];show Ab (An tab_2 ((2:Nat):Int) t) _=_;rw[i 2 ⟨4,429⟩ rfl h3];show Ab (An tab_2 ((3:Nat):Int) t) _=_;rw[i 3 ⟨12,430⟩ rfl h4];show Ab (An tab_2 ((4:Nat):Int) t) _=_;rw[i 4 ⟨48,432⟩ rfl h5];rfl
 unfold HV Bb;rw[g];rfl
def QP (t:Int):Bool:=t==1||t==2||t==4||t==12||t==48
def boolB (b:List UInt8):Bool:=match b with| [x]=>x==0||x==255|_=>false
def O2 (b:List UInt8):Bool:=b.all fun c=>decide (32≤c.toNat)&&decide (c.toNat≤126)
def Z8 (t:Int)(b:List UInt8):Bool:=if t=1 then boolB b else if t=2 then UR b else if t=4 then true else if t=12 then O2 b else if t=48 then b.isEmpty else false
theorem Z7 (b:List UInt8):GA b=some (boolB b):=by
 match b with
 | []=>rfl
 | [x]=>
  unfold GA;have e1:((([x]:List UInt8).length:Int)==1)=true:=rfl;have e2:idx [x] 0=some x:=rfl;rw[e1,e2];have e3: ∀n:UInt8,((x.toNat:Int)==n.toNat)=(x==n):=fun n=>by
   rw[Aha,Ag3,Ag3,←UInt8.toNat_inj];omega
  have z0:((x.toNat:Int)==0)=(x==0):=e3 0;have z1:((x.toNat:Int)==255)=(x==255):=e3 255;simp only[W8,Aa,Nb,z0,z1,Ag0];show _=some (x==0||x==255);cases h:x==0 with
  |true=>rfl
  |false=>simp only[Bool.not_false,W8,Aa,Nb,z1,Ag6]
 |x::y::l=>
  unfold GA;have e1:(((x::y::l).length:Int)==1)=false:=by simp only[Ahf,Agw]; omega
  rw[e1];rfl
theorem AdL: ∀(a b:List UInt8),∃r,BS (AB (a++b)) b.length (a.length:Int) ()=some r∧(r= .inl ()↔O2 b=true)∧∀i,r= .inr i→0≤i
 |a,[]=>⟨.inl (),rfl,by simp[O2],fun i h=>by cases h⟩
 |a,c::b=>by
  have hi:idx (a++c::b) (a.length:Int)=some c:=by
   unfold idx;rw[Ags (by omega)];simp
  obtain⟨r,h1,h2,h3⟩:=AdL (a++[c]) b;have ec:(decide ((c.toNat:Int)<32)||decide ((c.toNat:Int)>126))= !(decide (32≤c.toNat)&&decide (c.toNat≤126)):=by
   rw[Aha];simp only[AgW,Bool.not_eq_true',Bool.and_eq_false_iff,Agu,decide_eq_false_iff_not];omega
  have st:AB (a++c::b) (a.length:Int) ()=some (if(decide (32≤c.toNat)&&decide (c.toNat≤126))=true then .inl ()else .inr (a.length:Int)):=by
   unfold AB Io;rw[hi];simp only[Aa,Nb,ec];cases decide (32≤c.toNat)&&decide (c.toNat≤126)<;>rfl
  show∃r,Ab (AB (a++c::b) (a.length:Int) ()) _=some r∧_;rw[st];cases hc:decide (32≤c.toNat)&&decide (c.toNat≤126)with
  |false=>exact⟨.inr (a.length:Int),rfl,by simp[O2,hc],fun i h=>(by cases h; omega)⟩
  |true=>
   refine⟨r,?_,?_,h3⟩
   ·show BS (AB (a++c::b)) b.length ((a.length:Int)+1) ()=some r;rw[←h1];simp
   ·rw[h2];simp only[O2,AgX,hc,Ag0]
theorem Z6 (b:List UInt8):HR b=some (O2 b):=by
 obtain⟨r,h1,h2,h3⟩:=AdL [] b;unfold HR Bz BU;have h1:BS (AB b) b.length 0 ()=some r:=h1;rw[h1];cases r with
 |inl u=>rw[h2.1 rfl]; rfl
 |inr i=>
  have hp:O2 b=false:=by
   cases h:O2 b with
   |false=>rfl
   |true=>exact absurd (h2.2 h) (by simp)
  have hi:=h3 i rfl;rw[hp];show some (!(decide (i≥0)))=_;rw[AgS hi]; rfl
theorem Z5 (b:List UInt8):HQ b=some b.isEmpty:=by
 cases b with
 |nil=>rfl
 |cons a l=>
  unfold HQ;have:(((a::l).length:Int)==0)=false:=by simp only[Ahf,Agw]; omega
  rw[this]; rfl
theorem VX {t:Int}(h:QP t=true):t=1∨t=2∨t=4∨t=12∨t=48:=by
 unfold QP at h;simp only[AgW,Ag3]at h;omega
theorem R4 {t:Int}(h:QP t=true): ∃k,HV t=some (k,true)∧k.tag_=t∧∀b,PQ k.may_ b=some (Z8 t b):=by
 rcases VX h with e|e|e|e|e
 ·subst e; exact⟨_,rfl,rfl,Z7⟩
 ·subst e; exact⟨_,rfl,rfl,TA⟩
 ·subst e; exact⟨_,rfl,rfl,fun b=>rfl⟩
 ·subst e; exact⟨_,rfl,rfl,Z6⟩
 ·subst e; exact⟨_,rfl,rfl,Z5⟩
theorem LO {t:Int}(h:QP t=false):HV t=some (⟨0,-1⟩,false)∧∀b,Z8 t b=false:=by
 unfold QP at h;simp only[Bool.or_eq_false_iff,Ahf]at h;obtain⟨⟨⟨⟨h1,h2⟩,h3⟩,h4⟩,h5⟩:=h;refine⟨?_,fun b=> ?_⟩
 ·rw[AfL,Agt h1,Agt h2,Agt h3,Agt h4,Agt h5]
 ·unfold Z8;rw[Agt h1,Agt h2,Agt h3,Agt h4,Agt h5]
def mayB:Nat→g_api_Item→Bool
 |0,_=>false
 |d+1,x=>Z8 x.Tag x.B&&(x.Tag==48||x.L.isEmpty)&&x.L.all (mayB d)
theorem AdM (rF:g_api_Item→Int→Option Bool)(p:g_api_Item→Bool)(d:Int): ∀(a b:List g_api_Item),(∀y∈b,rF y (w64 (d-1))=some (p y))→
  ∃r,BS (Aq rF (a++b)) b.length (a.length:Int) d=some r∧(r= .inl d↔b.all p=true)∧(∀e,r= .inl e→e=d)∧∀i,r= .inr i→0≤i.1
 |a,[],_=>⟨.inl d,rfl,by simp,fun e h=>by cases h; rfl,fun i h=>by cases h⟩
 |a,c::b,h=>by
  have hi:idx (a++c::b) (a.length:Int)=some c:=by
   unfold idx;rw[Ags (by omega)];simp
  obtain⟨r,h1,h2,h4,h3⟩:=AdM rF p d (a++[c]) b fun y hy=>h y (AgF _ hy);have st:Aq rF (a++c::b) (a.length:Int) d=some (if p c=true then .inl d else .inr ((a.length:Int),d)):=by
   unfold Aq Kq;rw[hi];simp only[Aa,h c AgD];cases p c<;>rfl
  show∃r,Ab (Aq rF (a++c::b) (a.length:Int) d) _=some r∧_;rw[st];cases hc:p c with
  |false=>exact⟨.inr ((a.length:Int),d),rfl,by simp[hc],fun e h=>(by cases h),fun i h=>(by cases h; exact AgZ _)⟩
  |true=>
   refine⟨r,?_,?_,h4,h3⟩
   ·show BS (Aq rF (a++c::b)) b.length ((a.length:Int)+1) d=some r;rw[←h1];simp
   ·rw[h2];simp only[AgX,hc,Ag0]
theorem V9 (rF:g_api_Item→Int→Option Bool)(p:g_api_Item→Bool)(d:Int)(l:List g_api_Item)(h: ∀y∈l,rF y (w64 (d-1))=some (p y)):
  ∃z,AJ rF l d=some (!(l.all p),z):=by
 obtain⟨r,h1,h2,h4,h3⟩:=AdM rF p d [] l h;have h1:BS (Aq rF l) l.length 0 d=some r:=h1;unfold AJ A1;rw[h1];cases r with
 |inl u=>
  have:=h4 u rfl;subst this;rw[h2.1 rfl];exact⟨_,rfl⟩
 |inr i=>
  have hp:l.all p=false:=by
   cases h:l.all p with
   |false=>rfl
   |true=>exact absurd (h2.2 h) (by simp)
  have hi:=h3 i rfl;rw[hp];refine⟨i.2,?_⟩;show some (decide (i.1≥0),i.2)=_;rw[AgS hi]; rfl
theorem AdH: ∀(d n:Nat) (x:g_api_Item),d<n→d≤100→Hm n x (d:Int)=some (mayB d x)
 |d,0,x,h,_=>by omega
 |0,n+1,x,_,_=>by
  show G4 (Hm n) x 0=some false;unfold G4;cases hk:QP x.Tag with
  |false=>rw[(LO hk).1]; rfl
  |true=>
   obtain⟨k,e,_,_⟩:=R4 hk;rw[e]; rfl
 |d+1,n+1,x,h,hd=>by
  have ih: ∀y∈x.L,Hm n y (w64 (((d+1:Nat):Int)-1))=some (mayB d y):=fun y _=>by
   rw[show w64 (((d+1:Nat):Int)-1)=(d:Int)from by rw[SR (by omega) (by omega)]; omega];exact AdH d n y (by omega) (by omega)
  obtain⟨z,hz⟩:=V9 (Hm n) (mayB d) ((d+1:Nat):Int) x.L ih;show G4 (Hm n) x ((d+1:Nat):Int)=some (mayB (d+1) x);unfold G4 mayB;have e1:decide (((d+1:Nat):Int)<1)=false:=by rw[decide_eq_false_iff_not]; omega
  have e2:decide ((x.L.length:Int)>0)= !x.L.isEmpty:=by
   cases x.L with
   |nil=>rfl
   |cons a l=>show decide _=true; rw[Agu,Agw]; omega
  have e3:(x.Tag !=48)= !(x.Tag==48):=rfl;rw[e1,e2,e3];cases hk:QP x.Tag with
  |false=>
   rw[(LO hk).1,(LO hk).2]; rfl
  |true=>
   obtain⟨k,e,_,hm⟩:=R4 hk;rw[e];simp only[Aa,Ag8,Bool.or_false,Bool.not_false,W8,hm,hz,Bool.not_not];cases Z8 x.Tag x.B<;>cases x.Tag==48<;>cases x.L.isEmpty<;>rfl
theorem Afa (x:g_api_Item):QK x 8=some (mayB 8 x):=AdH 8 Dq x (by have:=Jc; omega) (by decide)
def RY (n:Nat):List UInt8:=if n<128 then [toB (n:Int)]else if n<256 then [129,toB (n:Int)]else [130,toB (Bg (n:Int) 8),toB (n:Int)]
def putB:Nat→g_api_Item→List UInt8
 |0,_=> []
 |d+1,x=>toB x.Tag::(RY (x.B++x.L.flatMap (putB d)).length++(x.B++x.L.flatMap (putB d)))
def depB:Nat→g_api_Item→Prop
 |0,_=>False
 |d+1,x=> ∀y∈x.L,depB d y
theorem AaD: ∀{d:Nat} {x:g_api_Item},mayB d x=true→depB d x
 |0,x,h=>by cases h
 |d+1,x,h=>by
  simp only[mayB,Agg,AgC]at h;exact fun y hy=>AaD (h.2 y hy)
theorem W5 (n:Nat):1≤(RY n).length∧(RY n).length≤3:=by
 unfold RY;split
 ·exact⟨by simp,by simp⟩
 ·split
  ·exact⟨by simp,by simp⟩
  ·exact⟨by simp,by simp⟩
theorem putE: ∀(d n:Nat) (x:g_api_Item) (b:List UInt8),d≤n→depB d x→b.length+(putB d x).length≤100000000000000→Gj n b x=some (b++putB d x)
 |0,n,x,b,_,h,_=>h.elim
 |d+1,0,x,b,h,_,_=>by omega
 |d+1,n+1,x,b,hn,hd,hb=>by
  have eP:putB (d+1) x=toB x.Tag::(RY (x.B++x.L.flatMap (putB d)).length++(x.B++x.L.flatMap (putB d))):=rfl;have go: ∀(l:List g_api_Item) (i:Int) (s:List UInt8),(∀y∈l,depB d y)→s.length+(l.flatMap (putB d)).length≤100000000000000→Ey (D4 (Gj n)) l i s=some (s++l.flatMap (putB d)):=by
   intro l;induction l with
   |nil=>intro i s _ _; simp[Ey]
   |cons y l ih=>
    intro i s h hs;rw[Ag5,Agp]at hs;have e:D4 (Gj n) i y s=some (s++putB d y):=by
     unfold D4;rw[putE d n y s (by omega) (h y AgD) (by omega)];rfl
    show Ab (D4 (Gj n) i y s) _=_;rw[e];show Ey _ l (i+1) (s++putB d y)=_;rw[ih (i+1) (s++putB d y) (fun z hz=>h z (AgF _ hz)) (by rw[Agp]; omega),Ag5,Agn]
  rw[eP]at hb⊢;simp only[Agw,Agp]at hb;have hc:GC (Gj n) x=some (x.B++x.L.flatMap (putB d)):=by
   unfold GC;rw[Xq (by omega),Aa,go x.L 0 x.B hd (by omega)];rfl
  show Kp (Gj n) b x=_;unfold Kp;rw[hc,Aa,Si 1 (by simp only[Agw,AgI]; omega) (by simp only[Agw,AgI]; omega),Aa];rw[←Agp]at hb;have hL:(x.B++x.L.flatMap (putB d)).length=(x.B++x.L.flatMap (putB d)).length:=rfl;generalize (x.B++x.L.flatMap (putB d))=c at hb hL⊢;have hl:=W5 c.length;have hm: ∀z:List UInt8,z.length≤3→app 1 (b++[toB x.Tag]) z=some (b++[toB x.Tag]++z):=fun z hz=>Si 1 (by simp only[Agp,Agw,AgI]; omega) (by simp only[Agp,Agw,AgI]; omega);have fin:app 1 (b++[toB x.Tag]++RY c.length) c=some (b++toB x.Tag::(RY c.length++c)):=by
   rw[Si 1 (by simp only[Agp,Agw,AgI]; omega) (by simp only[Agp,Agw,AgI]; omega)];simp
  have mid:(bnd (decide ((c.length:Int)<128)) fun x4=>
    if x4=true then
     Ab (app 1 (b++[toB x.Tag]) ([(toB (c.length:Int))]:List UInt8)) fun x5=>
     some x5
    else
    bnd ((decide ((c.length:Int)<256))) fun x6=>
    if x6=true then
     Ab (app 1 (b++[toB x.Tag]) ([129,(toB (c.length:Int))]:List UInt8)) fun x7=>
     some x7
    else
    Ab (app 1 (b++[toB x.Tag]) ([130,(toB (Bg (c.length:Int) 8)),(toB (c.length:Int))]:List UInt8)) fun x8=>
    some x8)=some (b++[toB x.Tag]++RY c.length):=by
   rw[hm [toB (c.length:Int)] (by simp),hm [129,toB (c.length:Int)] (by simp),hm [130,toB (Bg (c.length:Int) 8),toB (c.length:Int)] (by simp)];simp only[Nb,Aa,Agu];unfold RY;by_cases h1:c.length<128
   ·rw[Ags h1,Ags (by omega)]
   ·rw[Agt h1,Agt (by omega)];by_cases h2:c.length<256
    ·rw[Ags h2,Ags (by omega)]
    ·rw[Agt h2,Agt (by omega)]
  rw[mid];simp only[Aa];rw[fin];rfl
theorem AeU {x:g_api_Item}(h:depB 8 x)(hs:(putB 8 x).length≤100000000000000):QJ [] x=some (putB 8 x):=by
 have:=putE 8 Dq x [] (by have:=Jc; omega) h (by simpa using hs);exact this
theorem Put_eq {x:g_api_Item}(hs:(putB 8 x).length≤100000000000000):
  JI x=some (if mayB 8 x=true then(if(putB 8 x).length≤8192 then(putB 8 x,0)else([],2))else([],1)):=by
 unfold JI;rw[Afa];cases hm:mayB 8 x with
 |false=>rfl
 |true=>
  simp only[Aa,Ag8,Bool.false_eq_true,if_false,if_true];rw[AeU (AaD hm) hs];simp only[Aa,Agu];by_cases h:(putB 8 x).length≤8192
  ·rw[Agt (by omega),Ags h]
  ·rw[Ags (by omega),Agt h]
theorem Xc {α:Type}(f:α→List UInt8)(k:Nat): ∀(l:List α),(∀y∈l,(f y).length≤k)→(l.flatMap f).length≤l.length*k
 | [],_=>by simp
 |y::l,h=>by
  have h1:=h y AgD;have h2:=Xc f k l fun z hz=>h z (AgF _ hz);rw[Ag5,Agp,Agw,Nat.succ_mul];omega
theorem Tl (d:Nat)(x:g_api_Item):(putB (d+1) x).length≤4+x.B.length+(x.L.flatMap (putB d)).length:=by
 have:=W5 (x.B++x.L.flatMap (putB d)).length;show(toB x.Tag::(RY (x.B++x.L.flatMap (putB d)).length++(x.B++x.L.flatMap (putB d)))).length≤_;rw[Agw,Agp,Agp]at*;omega
theorem LJ (d:Nat)(n:Int):(putB d (T3 n)).length≤12:=by
 cases d with
 |zero=>simp[putB]
 |succ d=>
  have h:=Tl d (T3 n);have h1:(T3 n).B.length≤8:=SX (be8 n);have h2:(T3 n).L=[]:=rfl;rw[h2]at h;simp only[List.flatMap_nil,AgI]at h;omega
theorem Qn (d:Nat){s:ByteArray}(hs:s.size≤64):(putB d (MK s)).length≤68:=by
 cases d with
 |zero=>simp[putB]
 |succ d=>
  have h:=Tl d (MK s);have h1:(MK s).B.length=s.size:=Lm s;have h2:(MK s).L=[]:=rfl;rw[h2]at h;simp only[List.flatMap_nil,AgI]at h;omega
theorem Aa3 (d:Nat)(v:Bool):(putB d (Wg v)).length≤5:=by
 cases d with
 |zero=>simp[putB]
 |succ d=>
  have h:=Tl d (Wg v);have h1:(Wg v).B.length=1:=rfl;have h2:(Wg v).L=[]:=rfl;rw[h2]at h;simp only[List.flatMap_nil,AgI]at h;omega
theorem Ka (d:Nat)(l:List g_api_Item)(k:Nat)(hk: ∀e y,y∈l→(putB e y).length≤k):(putB d (XK l)).length≤4+l.length*k:=by
 cases d with
 |zero=>simp[putB]
 |succ d=>
  have h:=Tl d (XK l);have h1:(XK l).B.length=0:=rfl;have h3:=Xc (putB d) k l fun y hy=>hk d y hy;have h2:(XK l).L=l:=rfl;rw[h2]at h;omega
theorem RM (d:Nat){l:List ByteArray}(h: ∀s∈l,s.size≤64)(hn:l.length≤8):(putB d (Qm l)).length≤1000:=by
 have:=Ka d (l.map MK) 68 fun e y hy=>by
  obtain⟨s,hs,e2⟩:=List.mem_map.1 hy;rw[←e2];exact Qn e (h s hs)
 rw[AgR]at this;unfold Qm;omega
theorem mem2 {α:Type}{p:α→Prop}{a b:α}(ha:p a)(hb:p b): ∀y∈[a,b],p y:=by
 intro y hy;simp only[AgL,List.not_mem_nil,or_false]at hy;rcases hy with e|e<;>rw[e]<;>assumption
theorem Ab0 (d:Nat){c:g_api_Cert}(h:Wl c):(putB d (preI c)).length≤20000:=by
 have:=Ka d [T3 c.Serial,MK c.Issuer,MK c.Subject,T4 c.Key,Qm c.Names,T3 c.From,T3 c.Until,Wg c.Ca,T3 c.Depth,Qm c.Permit] 1000 fun e y hy=>by
  simp only[AgL,List.not_mem_nil,or_false]at hy;rcases hy with q|q|q|q|q|q|q|q|q|q<;>rw[q]
  ·have:=LJ e c.Serial; omega
  ·have:=Qn e h.issuer; omega
  ·have:=Qn e h.subject; omega
  ·have:=LJ e (w64 (c.Key.toNat:Int)); unfold T4; omega
  ·exact RM e h.names h.few
  ·have:=LJ e c.From; omega
  ·have:=LJ e c.Until; omega
  ·have:=Aa3 e c.Ca; omega
  ·have:=LJ e c.Depth; omega
  ·exact RM e h.permit h.fewP
 simp only[Agw,AgI]at this;unfold preI;omega
theorem ZB (d:Nat)(p:g_api_Promise):(putB d (Tm p)).length≤100:=by
 have:=Ka d [T3 p.Log,T3 p.At,T4 p.Leaf.1,T4 p.Leaf.2,T4 p.Sig.E,T4 p.Sig.S] 12 fun e y hy=>by
  simp only[AgL,List.not_mem_nil,or_false]at hy;rcases hy with q|q|q|q|q|q<;>rw[q]<;>exact LJ e _
 simp only[Agw,AgI]at this;unfold Tm;omega
theorem Aa4 (d:Nat){c:g_api_Cert}(h:Wl c):(putB d (Yi c)).length≤50000:=by
 have:=Ka d [preI c,WL c.Proms] 20000 fun e=>mem2 (p:=fun y=>(putB e y).length≤20000) (Ab0 e h) (by
  have:=Ka e (c.Proms.map Tm) 100 fun f y hy=>by
   obtain⟨p,hp,e2⟩:=List.mem_map.1 hy;rw[←e2];exact ZB f p
  rw[AgR]at this;have:=h.proms;unfold WL;omega)
 simp only[Agw,AgI]at this;unfold Yi;omega
theorem XB (d:Nat){c:g_api_Cert}(h:Wl c):(putB d (wholeI c)).length≤200000:=by
 have:=Ka d [Yi c,XK [T4 c.Sig.E,T4 c.Sig.S]] 50000 fun e=>mem2 (p:=fun y=>(putB e y).length≤50000) (Aa4 e h) (by
  have:=Ka e [T4 c.Sig.E,T4 c.Sig.S] 12 fun f=>mem2 (p:=fun y=>(putB f y).length≤12) (LJ f _) (LJ f _);simp only[Agw,AgI]at this;omega)
 simp only[Agw,AgI]at this;unfold wholeI;omega
def checkV (c:g_api_Cert):Int:=if formB c=true then(if mayB 8 (wholeI c)=true∧(putB 8 (wholeI c)).length≤2048 then 0 else 2)else 1
theorem Af2 (b:List UInt8)(m:Bool):(Ab (some (if m=true then(if b.length≤8192 then(b,(0:Int))else([],2))else([],1))) fun x3=>if((x3.2 !=0)||(decide ((x3.1.length:Int)>2048)))=true then some (2:Int)else some 0)=some (if m=true∧b.length≤2048 then 0 else 2):=by
 cases m with
 |false=>rfl
 |true=>
  simp only[if_true,Aa,true_and];by_cases h1:b.length≤8192
  ·rw[Ags h1];by_cases h2:b.length≤2048
   ·rw[Ags h2,Agt];simp only[bne_self_eq_false,Ag6,Agu];omega
   ·rw[Agt h2,Ags];simp only[bne_self_eq_false,Ag6,Agu];omega
  ·rw[Agt h1];have h2: ¬b.length≤2048:=by omega
   rw[Agt h2];rfl
theorem AaT (c:g_api_Cert):B4 c=some (checkV c):=by
 unfold B4 checkV;rw[Aaq];cases hf:formB c with
 |false=>rfl
 |true=>
  have hs:=(AfH hf).sized;simp only[Aa,Ag8,Bool.false_eq_true,if_false,if_true];have hl:=XB 8 hs;rw[YD hs,Aa,Put_eq (by omega),Af2]
theorem YO (n:Int):((toB n).toNat:Int)=n%256:=by
 have h:0≤n%256:=Int.emod_nonneg _ (by decide);have h2:n%256<256:=Int.emod_lt_of_pos _ (by decide);unfold toB;rw[UInt8.toNat_ofNat'];omega
theorem PT {α:Type}{l:List α}{i:Nat}{x:α}(h:l[i]? =some x):idx l (i:Int)=some x:=by
 unfold idx;rw[Ags (by omega)];exact h
def toL (s:ByteArray):List UInt8:=s.data.toList
theorem OR {α:Type}{l:List α}{i:Nat}{c:α}{r:List α}(h:l.drop i=c::r):l[i]? =some c∧l.drop (i+1)=r∧i<l.length:=by
 have h1:l[i]? =some c:=by
  have:(l.drop i)[0]? =some c:=by rw[h]; rfl
  simpa using this
 exact⟨h1,by rw[←List.drop_drop,h]; rfl,(Agv.1 h1).1⟩
theorem YH {i:Nat}(h:i≤1000000):w64 ((i:Int)+1)=((i+1:Nat):Int):=by rw[SR (by omega) (by omega)]; omega
structure FewP (c:g_api_Cert):Prop where
 issuer:c.Issuer.size≤100000
 subject:c.Subject.size≤100000
 names: ∀s∈c.Names,s.size≤100000
 nnames:c.Names.length≤100000
 permit: ∀s∈c.Permit,s.size≤100000
 npermit:c.Permit.length≤100000
 nproms:c.Proms.length≤100000
structure Fits (c:g_api_Cert):Prop where
 few:FewP c
 serial: -9223372036854775808≤c.Serial∧c.Serial≤9223372036854775807
 frm: -9223372036854775808≤c.From∧c.From≤9223372036854775807
 til: -9223372036854775808≤c.Until∧c.Until≤9223372036854775807
 depth: -9223372036854775808≤c.Depth∧c.Depth≤9223372036854775807
 proms: ∀p∈c.Proms,(-9223372036854775808≤p.Log∧p.Log≤9223372036854775807)∧(-9223372036854775808≤p.At∧p.At≤9223372036854775807)
structure Nums (c:g_api_Cert):Prop where
 serial:0≤c.Serial∧c.Serial≤1099511627776
 frm:0≤c.From∧c.From≤1099511627776
 til:0≤c.Until∧c.Until≤1099511627776
 key:c.Key.toNat<2305843009213691579
 depth:0≤c.Depth∧c.Depth≤4
 sig:sigB c.Sig=true
 proms: ∀p∈c.Proms,promBC p=true
structure Okc (c:g_api_Cert):Prop where
 form:Form c
 fb:formB c=true
 may:mayB 8 (wholeI c)=true
 len:(putB 8 (wholeI c)).length≤2048
theorem Okc.chk {c:g_api_Cert}(h:Okc c):checkV c=0:=by
 unfold checkV;rw[h.fb,Ags rfl,Ags ⟨h.may,h.len⟩]
def bodyBy (c:g_api_Cert):List UInt8:=putB 8 (Yi c)
theorem QX {p q:g_api_Sig}:Ec p q=true↔p=q:=by
 cases p; cases q;unfold Ec;simp
theorem R5 {p q:g_api_Promise}:Dg p q=true↔p=q:=by
 obtain⟨a,b,⟨c,d⟩,e⟩:=p;obtain⟨a',b',⟨c',d'⟩,e'⟩:=q;unfold Dg KU;simp[QX]
theorem Qp {a b:g_api_Cert}(hab:a.Proms.length=b.Proms.length)(hn:a.Proms.length≤100000): ∀(r q:List g_api_Promise) (i f:Nat),a.Proms.drop i=r→b.Proms.drop i=q→r.length<f→
  ∃z,iter (BA a b) f (i:Int)=some z∧(z= .inl ()↔r=q)∧(z= .inl ()∨z= .inr false)
 |r,q,i,0,_,_,h=>by omega
 | [],q,i,f+1,h,hq,_=>by
  have hl:a.Proms.length≤i:=List.drop_eq_nil_iff.1 h;have hqn:q=[]:=by rw[←hq]; exact AgU (by omega)
  have e:BA a b (i:Int)=some (.inr (.inl ())):=by
   unfold BA;rw[decide_eq_false (by omega)];rfl
  refine⟨.inl (),?_,by simp[hqn],.inl rfl⟩;show Ab (BA a b (i:Int)) _=_;rw[e]; rfl
 |p::r,[],i,f+1,h,hq,_=>by
  obtain⟨hc,hr,hlt⟩:=OR h;have:=List.drop_eq_nil_iff.1 hq;omega
 |p::r,s::q,i,f+1,h,hq,hf=>by
  obtain⟨hc,hr,hlt⟩:=OR h;obtain⟨hc2,hq2,hlt2⟩:=OR hq;obtain⟨z,ih,z1,z2⟩:=Qp hab hn r q (i+1) f hr hq2 (by rw[Agw]at hf; omega);have e:BA a b (i:Int)=some (if Dg p s=true then .inl ((i+1:Nat):Int)else .inr (.inr false)):=by
   unfold BA;rw[AgS (by omega),Ags rfl,PT hc,Aa,PT hc2,Aa,YH (by omega)];cases Dg p s<;>rfl
  cases hp:Dg p s with
  |false=>
   have ne:p::r≠s::q:=fun x=>by
    have:=R5.2 (List.cons.inj x).1;rw[hp]at this; cases this
   refine⟨.inr false,?_,by simp only[reduceCtorEq,false_iff]; exact ne,.inr rfl⟩;show Ab (BA a b (i:Int)) _=_;rw[e,hp]; rfl
  |true=>
   refine⟨z,?_,?_,z2⟩
   ·show Ab (BA a b (i:Int)) _=_;rw[e,hp,Ags rfl];exact ih
   ·rw[z1,R5.1 hp];exact⟨fun x=>by rw[x],fun x=>(List.cons.inj x).2⟩
theorem Qq {a b:List ByteArray}(hab:a.length=b.length)(hn:a.length≤100000): ∀(r q:List ByteArray) (i f:Nat),a.drop i=r→b.drop i=q→r.length<f→
  iter (BB a b) f (i:Int)=some (if r=q then .inl ()else .inr false)
 |r,q,i,0,_,_,h=>by omega
 | [],q,i,f+1,h,hq,_=>by
  have hl:a.length≤i:=List.drop_eq_nil_iff.1 h;have hqn:q=[]:=by rw[←hq]; exact AgU (by omega)
  have e:BB a b (i:Int)=some (.inr (.inl ())):=by
   unfold BB;rw[decide_eq_false (by omega)];rfl
  show Ab (BB a b (i:Int)) _=_;rw[e,hqn,Ags rfl]; rfl
 |p::r,[],i,f+1,h,hq,_=>by
  obtain⟨hc,hr,hlt⟩:=OR h;have:=List.drop_eq_nil_iff.1 hq;omega
 |p::r,s::q,i,f+1,h,hq,hf=>by
  obtain⟨hc,hr,hlt⟩:=OR h;obtain⟨hc2,hq2,hlt2⟩:=OR hq;have ih:=Qq hab hn r q (i+1) f hr hq2 (by rw[Agw]at hf; omega);have e:BB a b (i:Int)=some (if eqS p s=true then .inl ((i+1:Nat):Int)else .inr (.inr false)):=by
   unfold BB;rw[AgS (by omega),Ags rfl,PT hc,Aa,PT hc2,Aa,YH (by omega)];cases eqS p s<;>rfl
  show Ab (BB a b (i:Int)) _=_;rw[e];cases hp:eqS p s with
  |false=>
   have:p::r≠s::q:=fun x=>by
    have:=LQ.2 (List.cons.inj x).1;rw[hp]at this; cases this
   rw[Agt this]; rfl
  |true=>
   rw[Ags rfl];show iter (BB a b) f ((i+1:Nat):Int)=_;rw[ih,LQ.1 hp];by_cases hrq:r=q
   ·rw[Ags hrq,Ags (by rw[hrq])]
   ·rw[Agt hrq,Agt (fun x=>hrq (List.cons.inj x).2)]
theorem Adp {a b:List ByteArray}(hn:a.length≤100000): ∃r,FY a b=some r∧(r=true↔a=b):=by
 unfold FY;by_cases h:a.length=b.length
 ·have e:((a.length:Int) !=(b.length:Int))=false:=by rw[h]; simp
  have hl:=Qq h hn a b 0 Dq rfl rfl (by have:=Jc; omega);have hl:iter (BB a b) Dq 0=some (if a=b then .inl ()else .inr false):=hl;rw[e,Agt (by decide),hl];by_cases hq:a=b
  ·rw[Ags hq]; exact⟨true,rfl,by simp[hq]⟩
  ·rw[Agt hq]; exact⟨false,rfl,by simp[hq]⟩
 ·have e:((a.length:Int) !=(b.length:Int))=true:=by simp; omega
  rw[e,Ags rfl];exact⟨false,rfl,by simp only[Bool.false_eq_true,false_iff]; exact fun x=>h (by rw[x])⟩
theorem XL {a b:g_api_Cert}(ha:a.Proms.length≤100000∧a.Names.length≤100000∧a.Permit.length≤100000): ∃r,FX a b=some r∧(r=true↔a=b):=by
 obtain⟨r1,e1,h1⟩:=Adp (a:=a.Names) (b:=b.Names) ha.2.1;obtain⟨r2,e2,h2⟩:=Adp (a:=a.Permit) (b:=b.Permit) ha.2.2;have hk:((a.Key.toNat:Int) !=(b.Key.toNat:Int))= !(a.Key==b.Key):=by
  show(!((a.Key.toNat:Int)==(b.Key.toNat:Int)))=_;have:((a.Key.toNat:Int)==(b.Key.toNat:Int))=(a.Key==b.Key):=by
   rw[Aha,Ag3,Ag3,←UInt64.toNat_inj];omega
  rw[this]
 unfold FX;split
 ·rename_i hc;refine⟨false,rfl,?_⟩;simp only[Bool.false_eq_true,false_iff];rintro rfl;simp only[AgW,bne_self_eq_false,Bool.not_eq_true',Bool.false_eq_true,false_or,or_false,LQ.2 rfl,QX.2 rfl,Bool.true_eq_false]at hc
 ·rename_i hc;rw[hk]at hc;simp only[AgW,not_or,Bool.not_eq_true,bne_eq_false_iff_eq,Bool.not_eq_false',LQ,QX,Ag3]at hc;obtain⟨⟨⟨⟨⟨⟨⟨⟨⟨q1,q2⟩,q3⟩,q4⟩,q5⟩,q6⟩,q7⟩,q8⟩,q9⟩,q10⟩:=hc;have hlen:a.Proms.length=b.Proms.length:=by omega
  obtain⟨z,hl,z1,z2⟩:=Qp hlen ha.1 a.Proms b.Proms 0 Dq rfl rfl (by have:=Jc; omega);have hl:iter (BA a b) Dq 0=some z:=hl;rw[hl,Aa];rcases z2 with z2|z2
  ·subst z2;have hp:=z1.1 rfl;show∃r,Ab (FY a.Names b.Names) _=some r∧_;rw[e1,Aa,e2,gu_b,Aa];refine⟨_,rfl,?_⟩;have:(r1&&(r1&&r2))=true↔(a.Names=b.Names∧a.Permit=b.Permit):=by
    rw[←h1,←h2];cases r1<;>cases r2<;>simp
   rw[this];constructor
   ·rintro⟨n1,n2⟩;cases a; cases b;simp only at*;simp[q1,q2,q3,q4,q5,q6,q7,q8,q9,hp,n1,n2]
   ·rintro rfl;exact⟨rfl,rfl⟩
  ·subst z2;exact⟨false,rfl,by simp only[Bool.false_eq_true,false_iff]; exact fun x=>absurd (z1.2 (by rw[x])) (by simp)⟩
theorem Aa0 (c:g_api_Cert):B4 c=some (checkV c):=AaT c
def sigV (p:UInt64)(m:List UInt8)(s:g_api_Sig):Int:=(FU p m s).getD 1
def linkV (a b:g_api_Cert):Int:=if checkV a≠0 then checkV a else if checkV b≠0 then checkV b else if((!b.Ca)||(!eqS a.Issuer b.Subject))=true then 191 else if sigV b.Key (bodyBy a) a.Sig≠0 then 40 else 0
def timeB (c:g_api_Cert)(now:Int):Bool:=decide (c.From≤now)&&decide (c.Until>now)
def caB:Nat→List g_api_Cert→Bool
 |_,[]=>true
 |i,c::r=>(c.Ca==decide (0<i))&&caB (i+1) r
def linksV:List g_api_Cert→Int
 |a::b::r=>if linkV a b≠0 then linkV a b else linksV (b::r)
 |_=>0
structure PathOk (roots:List g_api_Cert)(leaf:g_api_Cert)(more:List g_api_Cert)(name:ByteArray)(now:Int):Prop where
 len:more.length≤3
 rts:roots.length≤16
 now0:0≤now
 nowM:now≤1099511627776
 nam:nameV name=0
 all: ∀c∈leaf::more++roots,checkV c=0
 kin:caB 0 (leaf::more)=true
 has:(leaf.Names.any fun s=>eqS name s)=true
 tim: ∀c∈leaf::more,timeB c now=true
 lnk:linksV (leaf::more)=0
theorem R6 {α σ τ:Type}{body:Int→σ→Option (σ⊕τ)}(xs:List α)(p:α→Bool)(s:σ)(g:Nat→τ)(h: ∀(i:Nat) (x:α),xs[i]? =some x→body (i:Int) s=some (if p x=true then .inr (g i)else .inl s)):
  ∀(k i:Nat),i+k=xs.length→∃r,BS body k (i:Int) s=some r∧((∃(j:Nat) (x:α),xs[j]? =some x∧p x=true∧r= .inr (g j))∨((∀x∈xs.drop i,p x=false)∧r= .inl s))
 |0,i,hi=>⟨.inl s,rfl,.inr ⟨(fun x hx=>by rw[AgU (by omega)]at hx; cases hx),rfl⟩⟩
 |k+1,i,hi=>by
  have hx:xs[i]? =some xs[i]:=AgO (by omega);show∃r,Ab (body (i:Int) s) _=_∧_;rw[h i _ hx];cases hp:p xs[i]with
  |true=>exact⟨_,rfl,.inl ⟨i,_,hx,hp,rfl⟩⟩
  |false=>
   obtain⟨r,h1,h2⟩:=R6 xs p s g h k (i+1) (by omega);refine⟨r,h1,?_⟩;rcases h2 with q|⟨q,e⟩
   ·exact .inl q
   ·refine .inr ⟨fun x hx'=> ?_,e⟩;rw[List.drop_eq_getElem_cons (by omega)]at hx';rcases AgL.1 hx' with w|w
    ·rw[w]; exact hp
    ·exact q x w
theorem QZ {α σ τ:Type}{body:Int→σ→Option (σ⊕τ)}(xs:List α)(p:α→Bool)(s:σ)(g:Nat→τ)(h: ∀(i:Nat) (x:α),xs[i]? =some x→body (i:Int) s=some (if p x=true then .inr (g i)else .inl s)):
  ∃r,BS body xs.length 0 s=some r∧((∃(j:Nat) (x:α),xs[j]? =some x∧p x=true∧r= .inr (g j))∨(xs.any p=false∧r= .inl s)):=by
 obtain⟨r,h1,h2⟩:=R6 xs p s g h xs.length 0 (by omega);refine⟨r,h1,?_⟩;rcases h2 with q|⟨q,e⟩
 ·exact .inl q
 ·exact .inr ⟨List.any_eq_false.2 fun x hx=>by rw[q x (by simpa using hx)]; decide,e⟩
theorem gu_t1 {α:Type} [Inhabited α]{o:Option α}:gu true o=o:=rfl
theorem Af6 (k:UInt64): ∃b,EK k=some b:=by
 unfold EK;obtain⟨x,hx⟩:=LL ((decide ((k.toNat:Int)>0))&&(decide ((k.toNat:Int)<2305843009213691579))) (o:=DL k 1152921504606845789) ⟨_,WM _ _⟩;rw[hx,Aa];exact⟨_,rfl⟩
theorem AaJ (n:Int):BZ n=some (decide (0≤n)&&decide (n≤1099511627776)):=rfl
theorem UA (l:List g_api_Cert): ∃b,AG l=some b:=by
 unfold AG Bc;obtain⟨r,h1,h2⟩:=QZ (body:=AZ l) l (fun c=>(!c.Ca)||((if c.Ca=true then checkV c else default) !=0)) () (fun i=>(i:Int)) (fun i x hx=>by
  unfold AZ EP;rw[DE hx,Aa];have:gu (!(!x.Ca)) (B4 x)=some (if x.Ca=true then checkV x else default):=by
   rw[Aa0]; cases x.Ca<;>rfl
  rw[this,Aa,Aa];cases ((!x.Ca)||((if x.Ca=true then checkV x else default) !=0))<;>rfl)
 rw[h1,Aa];cases r<;>exact⟨_,rfl⟩
theorem Aek (l:List UInt8): ∃b,AY l=some b:=by
 unfold AY BV;obtain⟨r,h1,h2⟩:=QZ (body:=By l) l (fun c=>(decide ((c.toNat:Int)<33))||(decide ((c.toNat:Int)>126))) () (fun i=>(i:Int)) (fun i x hx=>by
  unfold By ES;rw[DE hx,Aa,Ch,Aa];cases ((decide ((x.toNat:Int)<33))||(decide ((x.toNat:Int)>126)))<;>rfl)
 rw[h1,Aa];cases r<;>exact⟨_,rfl⟩
theorem keysB: ∀(l:List g_api_Key) (i s:Int),∃r,E8 CR l i s=some r
 | [],i,s=>⟨_,rfl⟩
 |x::l,i,s=>by
  show∃r,Ab (CR i x s) _=_;unfold CR;obtain⟨a,ha⟩:=LL (!(decide (x.Log≤s))) (o:=BZ x.Log) ⟨_,AaJ _⟩;rw[ha,Aa];obtain⟨b,hb⟩:=LL (!((decide (x.Log≤s))||(!a))) (o:=BZ x.Delay) ⟨_,AaJ _⟩;rw[hb,Aa];obtain⟨c,hc⟩:=LL (!(((decide (x.Log≤s))||(!a))||(!b))) (Af6 x.Key);rw[hc,Aa];split
  ·exact⟨_,rfl⟩
  ·exact keysB l (i+1) _
theorem W1 (a:Ak): ∃e,A4 a=some e:=by
 unfold A4;split
 ·obtain⟨b,hb⟩:=LL (!((true||((a.Client.Roots.length:Int)==0))||(decide ((a.Client.Roots.length:Int)>8)))) (UA a.Client.Roots);rw[hb,Aa];exact⟨_,Ags (by simp)⟩
 ·rename_i hw;have hl:a.Client.Who.data.toList.length≤64:=by
   rw[AgW,not_or]at hw;have h2:=hw.2;rw[Agu]at h2;have:a.Client.Who.size≤64:=by omega
   exact this
  rw[Pc 1 (by simp only[AgI]; omega) (by simp only[AgI]; omega),Aa];obtain⟨b,hb⟩:=Aek ([]++a.Client.Who.data.toList);rw[hb,Aa];obtain⟨d,hd⟩:=LL (!((b||((a.Client.Roots.length:Int)==0))||(decide ((a.Client.Roots.length:Int)>8)))) (UA a.Client.Roots);rw[hd,Aa];split
  ·exact⟨_,rfl⟩
  ·obtain⟨r,hr⟩:=keysB a.Client.Logs 0 (-1);rw[hr,Aa];cases r with
   |inr r=>exact⟨_,rfl⟩
   |inl y=>
    dsimp only;split<;>exact⟨_,rfl⟩
theorem Aas {z:Ak}{e1 e2 e3:Int}(h1:A4 z=some e1)(h2:AT z=some e2)(h3:A5 z=some e3):
  Cz z=some (if e1≠0 then e1 else if e2≠0 then e2 else e3):=by
 unfold Cz;have b0:AD z 0 ()=some (if e1≠0 then .inr e1 else .inl ()):=by
  unfold AD;rw[Ags rfl,h1,Aa];by_cases h:e1=0
  ·rw[Agt (by simp[h]),Agt (fun k=>k h)]
  ·rw[Ags (by simpa using h),Ags h]
 have b1:AD z 1 ()=some (if e2≠0 then .inr e2 else .inl ()):=by
  unfold AD;rw[Agt (by decide),Ags rfl,h2,Aa];by_cases h:e2=0
  ·rw[Agt (by simp[h]),Agt (fun k=>k h)]
  ·rw[Ags (by simpa using h),Ags h]
 have b2:AD z 2 ()=some (if e3≠0 then .inr e3 else .inl ()):=by
  unfold AD;rw[Agt (by decide),Agt (by decide),h3,Aa];by_cases h:e3=0
  ·rw[Agt (by simp[h]),Agt (fun k=>k h)]
  ·rw[Ags (by simpa using h),Ags h]
 show Ab (Ab (AD z 0 ()) _) _=_;rw[b0,Aa];by_cases q1:e1=0
 ·rw[Agt (fun k=>k q1),Agt (fun k=>k q1)];show Ab (Ab (AD z 1 ()) _) _=_;rw[b1,Aa];by_cases q2:e2=0
  ·rw[Agt (fun k=>k q2),Agt (fun k=>k q2)];show Ab (Ab (AD z 2 ()) _) _=_;rw[b2,Aa];by_cases q3:e3=0
   ·rw[Agt (fun k=>k q3),q3]; rfl
   ·rw[Ags q3]; rfl
  ·rw[Ags q2,Ags q2]; rfl
 ·rw[Ags q1,Ags q1]; rfl
theorem Sc (c:g_api_Client): ∃e,m_client_Check c=some e:=by
 obtain⟨e1,h1⟩:=W1 ⟨c⟩;obtain⟨e3,h3⟩:=OP c.Cascade;unfold m_client_Check;rw[Aas h1 (show AT ⟨c⟩=some (Ff c.Pool.L c.Logs)from by unfold AT; rw[N5]; rfl) (show A5 ⟨c⟩=some e3 from by unfold A5; rw[h3]; rfl)];exact⟨_,rfl⟩
def mcV (leaf:UInt64×UInt64)(w:g_api_Place)(h:g_api_Head):Int:=(Jh leaf w.At w.Size w.Proof h.Root).getD 1
def heldB (leaf:UInt64×UInt64)(w:g_api_Place)(h:g_api_Head):Bool:=((h.Log==w.Log)&&(h.Size==w.Size))&&(mcV leaf w h==0)
def showB (c:g_api_Client)(ps:List g_api_Promise)(leaf:UInt64×UInt64)(w:g_api_Place):Bool:=ps.any (fun p=>p.Log==w.Log)&&c.Pool.L.any (heldB leaf w)
theorem ne0 {e:Int}(h:e≠0):(e !=0)=true:=by simpa using h
theorem enL {σ τ:Type}{body:Int→σ→Option (σ⊕τ)}{k:Nat}{i:Int}{s s':σ}(h:body i s=some (.inl s')):BS body (k+1) i s=BS body k (i+1) s':=by
 show Ab (body i s) _=_;rw[h]; rfl
theorem enR {σ τ:Type}{body:Int→σ→Option (σ⊕τ)}{k:Nat}{i:Int}{s:σ}{t:τ}(h:body i s=some (.inr t)):BS body (k+1) i s=some (.inr t):=by
 show Ab (body i s) _=_;rw[h]; rfl
structure Acc (c:g_api_Client)(o:g_api_Offer)(name:ByteArray)(now:Int):Prop where
 chk:m_client_Check c=some 0
 pth:m_path_Check c.Roots o.Path name now=some 0
 run: ∃x more leaf ps,o.Path=x::more∧m_cert_Leaf x=some (leaf,0)∧m_client_asked_counting ⟨c⟩ x.Proms leaf=some ps∧2≤ps.length∧o.Where.any (showB c ps leaf)=true∧m_cascade_Has c.Cascade x.Serial=some false
theorem Adg {i n:Nat}(h:i<n)(hn:n≤1000000):w64 ((i:Int)+1)=((i+1:Nat):Int):=by rw[Cx (by omega) (by omega)]; rfl
theorem Xi {α:Type}{xs:List α}{i:Nat}{x:α}(h:xs[i]? =some x):xs.drop i=x::xs.drop (i+1):=by
 obtain⟨hi,rfl⟩:=Agv.1 h;exact List.drop_eq_getElem_cons hi
def AfI {α β:Type}(f:α→Option β):List α→(Unit⊕β)
 | []=> .inl ()
 |x::r=>match f x with|some b=> .inr b|none=>AfI f r
theorem UU {α β:Type}{step:Int→Option (Int⊕(Unit⊕β))}(xs:List α)(f:α→Option β)
  (hs: ∀(i:Nat) (x:α),xs[i]? =some x→step (i:Int)=some (match f x with|some b=> .inr (.inr b)|none=> .inl ((i+1:Nat):Int)))
  (he:step (xs.length:Int)=some (.inr (.inl ()))): ∀(k i n:Nat),i+k=xs.length→k<n→iter step n (i:Int)=some (AfI f (xs.drop i))
 |0,i,n,h,hn=>by
  obtain⟨n,rfl⟩: ∃q,n=q+1:=⟨n-1,by omega⟩;have h:i=xs.length:=by omega
  subst h;show Ab (step _) _=_;rw[he,List.drop_length]; rfl
 |k+1,i,n,h,hn=>by
  obtain⟨n,rfl⟩: ∃q,n=q+1:=⟨n-1,by omega⟩;have hi:i<xs.length:=by omega
  have hx:xs[i]? =some xs[i]:=AgO hi;show Ab (step _) _=_;rw[hs i _ hx,Xi hx];unfold AfI;cases f xs[i]with
  |some b=>rfl
  |none=>exact UU xs f hs he k (i+1) n (by omega) (by omega)
theorem R0 {α β:Type}{step:Int→Option (Int⊕(Unit⊕β))}(xs:List α)(f:α→Option β)(hl:xs.length≤1000000)
  (hs: ∀(i:Nat) (x:α),xs[i]? =some x→step (i:Int)=some (match f x with|some b=> .inr (.inr b)|none=> .inl ((i+1:Nat):Int)))
  (he:step (xs.length:Int)=some (.inr (.inl ()))):iter step Dq 0=some (AfI f xs):=
 UU xs f hs he xs.length 0 Dq (by omega) (by have:(1000001:Nat)≤Dq:=Agq rfl; omega)
def fldI {α σ:Type}(g:Nat→σ→α→σ):List α→Nat→σ→σ
 | [],_,s=>s
 |x::r,i,s=>fldI g r (i+1) (g i s x)
theorem UT {α σ τ:Type}{step:τ→Option (τ⊕σ)}(pr:σ→Int→τ)(xs:List α)(g:Nat→σ→α→σ)(I:Nat→σ→Prop)
  (hs: ∀(i:Nat) (x:α) (s:σ),xs[i]? =some x→I i s→step (pr s (i:Int))=some (.inl (pr (g i s x) ((i+1:Nat):Int)))∧I (i+1) (g i s x))
  (he: ∀s,I xs.length s→step (pr s (xs.length:Int))=some (.inr s)): ∀(k i n:Nat) (s:σ),i+k=xs.length→k<n→I i s→iter step n (pr s (i:Int))=some (fldI g (xs.drop i) i s)
 |0,i,n,s,h,hn,hI=>by
  obtain⟨n,rfl⟩: ∃q,n=q+1:=⟨n-1,by omega⟩;have h:i=xs.length:=by omega
  subst h;show Ab (step _) _=_;rw[he s hI,List.drop_length]; rfl
 |k+1,i,n,s,h,hn,hI=>by
  obtain⟨n,rfl⟩: ∃q,n=q+1:=⟨n-1,by omega⟩;have hi:i<xs.length:=by omega
  have hx:xs[i]? =some xs[i]:=AgO hi;obtain⟨h1,h2⟩:=hs i _ s hx hI;show Ab (step _) _=_;rw[h1,Xi hx];exact UT pr xs g I hs he k (i+1) n _ (by omega) (by omega) h2
theorem X0 {α σ τ:Type}{step:τ→Option (τ⊕σ)}(pr:σ→Int→τ)(xs:List α)(g:Nat→σ→α→σ)(I:Nat→σ→Prop)(hl:xs.length≤1000000)
  (hs: ∀(i:Nat) (x:α) (s:σ),xs[i]? =some x→I i s→step (pr s (i:Int))=some (.inl (pr (g i s x) ((i+1:Nat):Int)))∧I (i+1) (g i s x))
  (he: ∀s,I xs.length s→step (pr s (xs.length:Int))=some (.inr s)) (s:σ) (hI:I 0 s):iter step Dq (pr s 0)=some (fldI g xs 0 s):=
 UT pr xs g I hs he xs.length 0 Dq s (by omega) (by have:(1000001:Nat)≤Dq:=Agq rfl; omega) hI
theorem R8 {α β σ:Type}{body:Int→σ→Option (σ⊕β)}(xs:List α)(f:Nat→α→Option β)(s0:σ)
  (hs: ∀(i:Nat) (x:α),xs[i]? =some x→body (i:Int) s0=some (match f i x with|some b=> .inr b|none=> .inl s0)):
  ∀(k i:Nat),i+k=xs.length→∃r,BS body k (i:Int) s0=some r∧((∃(j:Nat) (x:α) (b:β),xs[j]? =some x∧i≤j∧f j x=some b∧r= .inr b)∨(r= .inl s0∧∀(j:Nat) (x:α),i≤j→xs[j]? =some x→f j x=none))
 |0,i,h=>⟨.inl s0,rfl,.inr ⟨rfl,fun j x hj hx=>by
   have:=(Agv.1 hx).1; omega⟩⟩
 |k+1,i,h=>by
  have hi:i<xs.length:=by omega
  have hx:xs[i]? =some xs[i]:=AgO hi;show∃r,Ab (body _ _) _=_∧_;rw[hs i _ hx];cases hf:f i xs[i]with
  |some b=>exact⟨.inr b,rfl,.inl ⟨i,_,b,hx,Agk _,hf,rfl⟩⟩
  |none=>
   obtain⟨r,h1,h2⟩:=R8 xs f s0 hs k (i+1) (by omega);refine⟨r,h1,?_⟩;rcases h2 with ⟨j,x,b,a1,a2,a3,a4⟩|⟨a1,a2⟩
   ·exact .inl ⟨j,x,b,a1,by omega,a3,a4⟩
   ·refine .inr ⟨a1,fun j x hj hx'=> ?_⟩;rcases Nat.lt_or_ge i j with q|q
    ·exact a2 j x q hx'
    ·have:j=i:=by omega
     subst this; rw[hx]at hx'; cases hx'; exact hf
theorem Xb {α:Type}(p:α→Bool)(v:Bool): ∀(xs:List α),AfI (fun x=>if p x=true then some v else none) xs=if xs.any p=true then .inr v else .inl ()
 | []=>rfl
 |x::r=>by
  unfold AfI;cases h:p x with
  |true=>simp[h]
  |false=>simp[h,Xb p v r]
theorem Acp {α:Type}{l:List α}{n i:Nat}{x:α}(h:(l.take n)[i]? =some x):idx l (i:Int)=some x∧i<l.length∧i<n:=by
 rw[List.getElem?_take]at h;split at h
 ·exact⟨DE h,(Agv.1 h).1,‹_›⟩
 ·cases h
def shop0:Cv:=⟨⟨⟨#[97,110,110]⟩,[⟨0,⟨#[114]⟩,⟨#[114]⟩,544077478247279056,[],0,100,true,1,[],[],⟨56068977789539995,412945996197367095⟩⟩],[⟨0,1297896941320072711,5⟩,⟨1,1631945290827707310,5⟩],⟨[]⟩,⟨0,[]⟩,0⟩,⟨[⟨9,⟨#[114]⟩,⟨#[]⟩,4,[⟨#[120,46,97]⟩],3,8,false,0,[],[⟨0,3,(1621992312229970116,2200863675130382030),⟨493135561720501702,53138745142054843⟩⟩,⟨1,3,(1621992312229970116,2200863675130382030),⟨694227493511213294,984341331704138812⟩⟩],⟨1050415333436172978,246170491232933132⟩⟩],[⟨0,2,3,[(71937633796637552,541480457554953714)]⟩]⟩,[⟨0,492609940580054112,5,[⟨[0,5],1⟩,⟨[1,5],1⟩,⟨[48,32,2,1,9,12,1,114,12,0,2,1,4,48,5,12,3,120,46,97,2,1,3,2,1,8,1,1,0,2,1,0,48,0],3⟩],[],[]⟩,⟨1,821147353521346255,5,[⟨[48,32,2,1,9,12,1,114,12,0,2,1,4,48,5,12,3,120,46,97,2,1,3,2,1,8,1,1,0,2,1,0,48,0],3⟩],[],[]⟩]⟩
def head0:g_api_Head:=⟨0,3,(1111880991993255973,2159594700541934035),4,⟨52962187583479370,259454068761640249⟩⟩
def cli0:g_api_Client:=⟨⟨#[97,110,110]⟩,[⟨0,⟨#[114]⟩,⟨#[114]⟩,544077478247279056,[],0,100,true,1,[],[],⟨56068977789539995,412945996197367095⟩⟩],[⟨0,1297896941320072711,5⟩,⟨1,1631945290827707310,5⟩],⟨[⟨0,3,(1111880991993255973,2159594700541934035),4,⟨52962187583479370,259454068761640249⟩⟩]⟩,⟨0,[]⟩,0⟩
def cas0:g_api_Cascade:=⟨1,[⟨8,3,16,[98]⟩]⟩
def cli1:g_api_Client:=⟨⟨#[97,110,110]⟩,[⟨0,⟨#[114]⟩,⟨#[114]⟩,544077478247279056,[],0,100,true,1,[],[],⟨56068977789539995,412945996197367095⟩⟩],[⟨0,1297896941320072711,5⟩,⟨1,1631945290827707310,5⟩],⟨[⟨0,3,(1111880991993255973,2159594700541934035),4,⟨52962187583479370,259454068761640249⟩⟩]⟩,⟨1,[⟨8,3,16,[98]⟩]⟩,0⟩
theorem lvq0:Jj 5 ⟨#[120,46,97]⟩ 2=some (shop0,true):=by kernel_rfl
theorem lvq1:(Ab (idx shop0.logs_ 0) fun x=>M6 x 0 3 4)=some (head0,0):=by kernel_rfl
theorem lvq2:Db shop0.c_ head0=some (cli0,0):=by kernel_rfl
theorem lvq3:(I4 ⟨#[]⟩ shop0.c_.Roots shop0.c_.Logs 0).map Prod.snd=some 1:=by kernel_rfl
theorem lvq4:Hc [9] [] 1=some (cas0,0):=by kernel_rfl
theorem lvq5:DM cli0 cas0=some (cli1,0):=by kernel_rfl
theorem lvq6:(DM cli1 ⟨0,[]⟩).map Prod.snd=some 190:=by kernel_rfl
theorem lvq7:m_client_Check cli1=some 0:=by kernel_rfl
theorem lvq8:Bn shop0.c_ shop0.o_ ⟨#[120,46,97]⟩ 4=some 240:=by kernel_rfl
theorem lvq9:Bn cli0 shop0.o_ ⟨#[120,46,97]⟩ 4=some 0:=by kernel_rfl
theorem lvqa:Bn cli0 shop0.o_ ⟨#[121,46,97]⟩ 4=some 110:=by kernel_rfl
theorem lvqb:Bn cli0 shop0.o_ ⟨#[120,46,97]⟩ 8=some 190:=by kernel_rfl
theorem lvqc:Bn cli1 shop0.o_ ⟨#[120,46,97]⟩ 4=some 270:=by kernel_rfl
theorem VW:IW=some true:=by
 unfold IW;rw[lvq0,Aa,Agt (by decide)];obtain⟨x,hx,h1⟩:=Ag lvq1;obtain⟨⟨z3,e3⟩,h3,rfl⟩:=Agl.1 lvq3;obtain⟨⟨z6,e6⟩,h6,rfl⟩:=Agl.1 lvq6;dsimp only;rw[hx,Aa,h1,Aa];dsimp only;rw[lvq2,Aa];dsimp only;rw[h3,Aa,lvq4,Aa];dsimp only;rw[lvq5,Aa];dsimp only;rw[h6,Aa,lvq7,lvq8,lvq9,lvqa,lvqb,lvqc];rfl
theorem PV {α:Type}{step:Int→Option (Int⊕(Unit⊕Bool))}(xs:List α)(n:Nat)(hn:n≤1000)(p:α→Bool)(hs: ∀(i:Nat) (x:α),xs[i]? =some x→i<n→step (i:Int)=some (if p x=true then .inr (.inr false)else .inl ((i+1:Nat):Int)))
  (he: ∀i:Nat,¬(i<xs.length∧i<n)→step (i:Int)=some (.inr (.inl ()))):iter step Dq 0=some (if(xs.take n).any p=true then .inr false else .inl ()):=by
 rw[R0 (xs.take n) (fun x=>if p x=true then some false else none) (by simp; omega) (fun i x hx=> ?_) ?_,Xb]
 ·exact he _ (by simp; omega)
 ·obtain⟨h1,h2,h3⟩:=Acp hx;have hx':xs[i]? =some x:=by
   rw[List.getElem?_take,Ags h3]at hx;exact hx
  rw[hs i x hx' h3];cases p x<;>rfl
def AcN (c:g_api_Cert):Bool:= !(c.Names.take 12).any (fun s=>decide ((s.size:Int)>200))&&(!(c.Permit.take 12).any (fun s=>decide ((s.size:Int)>200))&&(((((decide ((c.Names.length:Int)≤12))&&(decide ((c.Permit.length:Int)≤12)))&&(decide ((c.Proms.length:Int)≤8)))&&(decide ((c.Issuer.size:Int)≤200)))&&(decide ((c.Subject.size:Int)≤200))))
theorem AcM (c:g_api_Cert):Gs c=some (AcN c):=by
 unfold Gs AcN;rw[PV (step:=En c) c.Names 12 (by omega) (fun s=>decide ((s.size:Int)>200)) (fun i x hx hi=> ?_) (fun i hi=> ?_),Aa]
 ·cases (c.Names.take 12).any fun s=>decide ((s.size:Int)>200)with
  |true=>rfl
  |false=>
   rw[Agt (by decide)];dsimp only;rw[PV (step:=Em c) c.Permit 12 (by omega) (fun s=>decide ((s.size:Int)>200)) (fun i x hx hi=> ?_) (fun i hi=> ?_),Aa]
   ·cases (c.Permit.take 12).any fun s=>decide ((s.size:Int)>200)<;>rfl
   ·have h2:=(Agv.1 hx).1;unfold Em;rw[Ags (by simp; omega),DE hx,Aa];cases decide ((x.size:Int)>200)with
    |true=>rfl
    |false=>rw[Agt (by decide),Agt (by decide),Cx (by omega) (by omega)]; rfl
   ·unfold Em;rw[Agt (by simp; omega)]
 ·have h2:=(Agv.1 hx).1;unfold En;rw[Ags (by simp; omega),DE hx,Aa];cases decide ((x.size:Int)>200)with
  |true=>rfl
  |false=>rw[Agt (by decide),Agt (by decide),Cx (by omega) (by omega)]; rfl
 ·unfold En;rw[Agt (by simp; omega)]
def AdV (l:List g_api_Cert):Bool:= !(l.take 12).any (fun c=> !AcN c)&&decide ((l.length:Int)≤10)
theorem AfO (l:List g_api_Cert):FB l=some (AdV l):=by
 unfold FB AdV;rw[PV (step:=DS l) l 12 (by omega) (fun c=> !AcN c) (fun i x hx hi=> ?_) (fun i hi=> ?_),Aa]
 ·cases (l.take 12).any fun c=> !AcN c<;>rfl
 ·have h2:=(Agv.1 hx).1;unfold DS;rw[Ags (by simp; omega),DE hx,Aa,AcM,Aa];cases AcN x with
  |false=>rfl
  |true=>rw[Agt (by decide),Agt (by decide),Cx (by omega) (by omega)]; rfl
 ·unfold DS;rw[Agt (by simp; omega)]
theorem AfN {l:List g_api_Cert}(h:AdV l=true):l.length≤10∧∀c∈l,AcN c=true:=by
 simp only[AdV,Agg,Agu,Bool.not_eq_true',List.any_eq_false]at h;have hl:l.length≤10:=by omega
 refine⟨hl,fun c hc=> ?_⟩;have:=h.1 c (by rw[AgY (by omega)]; exact hc);simpa using this
def AdU (x:g_api_Cascade):Bool:= !(x.Levels.take 20).any (fun s=>decide ((s.B.length:Int)>300))&&decide ((x.Levels.length:Int)≤18)
theorem Aau (x:g_api_Cascade):C5 x=some (AdU x):=by
 unfold C5 AdU;rw[PV (step:=C4 x) x.Levels 20 (by omega) (fun s=>decide ((s.B.length:Int)>300)) (fun i y hx hi=> ?_) (fun i hi=> ?_),Aa]
 ·cases (x.Levels.take 20).any fun s=>decide ((s.B.length:Int)>300)<;>rfl
 ·have h2:=(Agv.1 hx).1;unfold C4;rw[Ags (by simp; omega),DE hx,Aa];cases decide ((y.B.length:Int)>300)with
  |true=>rfl
  |false=>rw[Agt (by decide),Agt (by decide),Cx (by omega) (by omega)]; rfl
 ·unfold C4;rw[Agt (by simp; omega)]
theorem AcO (c:g_api_Client): ∃b,Ki c=some b∧(b=true→AdV c.Roots=true∧c.Logs.length≤20∧c.Pool.L.length≤40∧AdU c.Cascade=true):=by
 unfold Ki;rw[AfO,Aau];cases h1:decide ((c.Who.size:Int)≤100)with
 |false=>exact⟨false,rfl,fun h=>by cases h⟩
 |true=>
  rw[show gu true (some (AdV c.Roots))=some (AdV c.Roots)from rfl,Aa];cases h2:AdV c.Roots with
  |false=>exact⟨false,rfl,fun h=>by cases h⟩
  |true=>
   cases h3:decide ((c.Logs.length:Int)≤20)with
   |false=>exact⟨false,rfl,fun h=>by cases h⟩
   |true=>
    cases h4:decide ((c.Pool.L.length:Int)≤40)with
    |false=>exact⟨false,rfl,fun h=>by cases h⟩
    |true=>
     refine⟨AdU c.Cascade,rfl,fun h=>⟨rfl,?_,?_,h⟩⟩
     ·have:=of_decide_eq_true h3; omega
     ·have:=of_decide_eq_true h4; omega
theorem Acm {α:Type}{step:Bool×Int→Option ((Bool×Int)⊕Bool)}(xs:List α)(p:α→Bool)(hl:xs.length≤1000000)
  (hs: ∀(i:Nat) (x:α) (b:Bool),xs[i]? =some x→step (b,(i:Int))=some (.inl (b||p x,((i+1:Nat):Int)))) (he: ∀b,step (b,(xs.length:Int))=some (.inr b)) (b:Bool):iter step Dq (b,0)=some (b||xs.any p):=by
 rw[X0 (step:=step) (fun(s:Bool) (n:Int)=>(s,n)) xs (fun _ s x=>s||p x) (fun _ _=>True) hl (fun i x s hx _=>⟨hs i x s hx,trivial⟩) (fun s _=>he s) b trivial];congr 1;have: ∀(l:List α) (i:Nat) (b:Bool),fldI (fun _ s x=>s||p x) l i b=(b||l.any p):=by
  intro l;induction l with
  |nil=>intro i b; simp[fldI]
  |cons x l ih=>intro i b; unfold fldI; rw[ih,List.any_cons,Bool.or_assoc]
 exact this xs 0 b
end Go.Proofs.YtnhdojckpcbjeaaGreatDoor
end
