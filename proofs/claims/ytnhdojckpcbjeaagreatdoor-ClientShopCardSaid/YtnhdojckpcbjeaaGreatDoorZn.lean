/- Several texts, one behind the other. Conditions: none. -/
import Derived.Test.YtnhdojckpcbjeaaGreatDoorZi
import Derived.Test.YtnhdojckpcbjeaaGreatDoorZj
import Derived.Test.YtnhdojckpcbjeaaGreatDoorZk
import Derived.Test.YtnhdojckpcbjeaaGreatDoorZl
import Derived.KernelRfl
import Derived.Test.YtnhdojckpcbjeaaGreatDoorZb
set_option linter.unusedSimpArgs false
set_option linter.unusedVariables false
set_option maxHeartbeats 4000000
set_option maxRecDepth 100000
section
namespace Go.Proofs.YtnhdojckpcbjeaaGreatDoor
open Go Go.Gw Go.Ax
theorem Bc {α β:Type}(a:α)(k:α→β):bnd a k=k a:=rfl
theorem Hm {σ τ:Type}{step:σ→Option (σ⊕τ)}{s:σ}{t:τ}(n:Nat)(h:iter step n s=some t)(hn:n≤18446744073709551616):iter step Fx s=some t:=Adx h hn
theorem Cd {σ τ:Type}{step:σ→Option (σ⊕τ)}{n:Nat}{s s':σ}(h:step s=some (.inl s')):iter step (n+1) s=iter step n s':=by simp only[iter,h,Aa]
theorem CO {σ τ:Type}{step:σ→Option (σ⊕τ)}{n:Nat}{s:σ}{t:τ}(h:step s=some (.inr t)):iter step (n+1) s=some t:=by simp only[iter,h,Aa]
theorem Eg {α:Type}(b:Nat){xs ys:List α}(h:(xs.length+ys.length)*b≤140737488355328)(h1:xs.length+ys.length≤140737488355328):app b xs ys=some (xs++ys):=by unfold app; rw[AlH ⟨h,h1⟩]
theorem NP {α:Type}{xs:List α}{lo hi:Nat}(h1:lo≤hi)(h2:hi≤xs.length):cut xs (lo:Int) (hi:Int)=some ((xs.drop lo).take (hi-lo)):=by
 unfold cut; rw[AlH ⟨by omega,by omega,by omega⟩]; simp
def Aax (hi lo:UInt64):UInt64:=
 let n:=(lo&&&2305843009213693951)+((K8 hi 3)|||(Ev lo 61))
 let k:=(n&&&2305843009213693951)+Ev n 61
 if 2305843009213693951≤k.toNat then k-2305843009213693951 else k
theorem AdU (a b:UInt64):IP a b=some (Aax a b):=by
 unfold IP Aax;simp only[Bc];generalize (b&&&2305843009213693951)+((K8 a 3)|||(Ev b 61))=n;generalize (n&&&2305843009213693951)+Ev n 61=k;by_cases h:2305843009213693951≤k.toNat
 ·rw[AlH h,AlH (AlY (by omega))]; rfl
 ·rw[AlG h,AlG (by simp; omega)]; rfl
def SC (a:UInt64):UInt64:=Aax 0 a
theorem AhO (a:UInt64):FZ a=some (SC a):=by simp only[FZ,AdU,Aa]; rfl
def Im (a b:UInt64):UInt64:=SC (SC a+SC b)
theorem Z2 (a b:UInt64):Hk a b=some (Im a b):=by simp only[Hk,AhO,Aa]; rfl
def phi (a0 a1:UInt64):UInt64:=
 let x1:=(a0&&&4294967295)*(a1&&&4294967295)
 let x2:=((Ev a0 32)*(a1&&&4294967295))+(Ev x1 32)
 let x3:=(x2&&&4294967295)+((a0&&&4294967295)*(Ev a1 32))
 (((Ev a0 32)*(Ev a1 32))+(Ev x2 32))+(Ev x3 32)
theorem U3 (a b:UInt64):IQ a b=some (phi a b,a*b):=rfl
def AhN (a b:UInt64):UInt64:=Aax (phi (SC a) (SC b)) (SC a*SC b)
theorem mul_eq (a b:UInt64):JV a b=some (AhN a b):=by simp only[JV,AhO,U3,AdU,Aa]; rfl
def SQ (a:UInt64):UInt64:=
 let b:=AhN a a
 let c:=AhN b b
 let d:=AhN c c
 AhN a (AhN d d)
theorem sev_eq (a:UInt64):E9 a=some (SQ a):=by
 simp only[E9,CX,JU,mul_eq,Aa]; rfl
def Ts (r i:Int):UInt64:=let n:=toU (w64 ((w64 ((w64 (3*r))+i))+1)); n*n*n+7
def pall (r:Int)(s:UInt64×UInt64×UInt64):UInt64:=Im (Im (Im 0 (SQ (Im s.1 (Ts r 0)))) (SQ (Im s.2.1 (Ts r 1)))) (SQ (Im s.2.2 (Ts r 2)))
def MK (r:Int)(s:UInt64×UInt64×UInt64):UInt64×UInt64×UInt64:=(Im (SQ (Im s.1 (Ts r 0))) (pall r s),Im (SQ (Im s.2.1 (Ts r 1))) (pall r s),Im (SQ (Im s.2.2 (Ts r 2))) (pall r s))
theorem Aj3 (i:Int)(a:UInt64)(r:Int)(all:UInt64):Ky i a r all=some (SQ (Im a (Ts r i)),r,Im all (SQ (Im a (Ts r i)))):=by
 simp only[Ky,Bc,Z2,sev_eq,Aa]; rfl
theorem Aj2 (i:Int)(a:UInt64)(all:UInt64):Kx i a all=some (Im a all,all):=by
 simp only[Kx,Z2,Aa]
theorem Ag3 (a b c:UInt64)(r:Int)(all:UInt64):DO (a,b,c) r all=some ((SQ (Im a (Ts r 0)),SQ (Im b (Ts r 1)),SQ (Im c (Ts r 2))),r,Im (Im (Im all (SQ (Im a (Ts r 0)))) (SQ (Im b (Ts r 1)))) (SQ (Im c (Ts r 2)))):=by
 have e0:idx [a,b,c] 0=some a:=rfl;have e1: ∀x,idx [x,b,c] 1=some b:=fun _=>rfl;have e2: ∀x y,idx [x,y,c] 2=some c:=fun _ _=>rfl;simp[DO,CX,GV,Bc,Aj3,e0,e1,e2]
theorem Ag2 (a b c all:UInt64):DN (a,b,c) all=some ((Im a all,Im b all,Im c all),all):=by
 have e0:idx [a,b,c] 0=some a:=rfl;have e1: ∀x,idx [x,b,c] 1=some b:=fun _=>rfl;have e2: ∀x y,idx [x,y,c] 2=some c:=fun _ _=>rfl;simp[DN,CX,GU,Bc,Aj2,e0,e1,e2]
theorem Aj1 (r:Int)(s:UInt64×UInt64×UInt64):LN r s=some (MK r s):=by
 obtain⟨a,b,c⟩:=s;unfold LN;rw[Ag3,Aa,Ag2,Aa];rfl
def XV (s:UInt64×UInt64×UInt64):UInt64×UInt64×UInt64:=MK 7 (MK 6 (MK 5 (MK 4 (MK 3 (MK 2 (MK 1 (MK 0 s)))))))
theorem Ac2 (s:UInt64×UInt64×UInt64):Lj s=some (XV s):=by
 simp only[Lj,CX,Aj1,Aa];rfl
def ple:List UInt8→Nat→UInt64→UInt64
 | [],_,s=>s
 |b::bs,i,s=>ple bs (i+1) (s|||K8 (toU (b.toNat:Int)) (8*i))
theorem b6_eq (b5:List UInt8): ∀(l:List UInt8) (i:Nat) (s:UInt64),b5.drop i=l→i+l.length≤1000000→CX (Gz b5) l.length (i:Int) s=some (ple l i s):=by
 intro l;induction l with
 |nil=>intro i s _ _; rfl
 |cons b l ih=>
  intro i s h hb;have hx:idx b5 (i:Int)=some b:=Di (by
   have:(b5.drop i)[0]? =some b:=by rw[h]; rfl
   simpa using this)
  simp only[AlM]at hb;have hw:w64 (8*(i:Int))=((8*i:Nat):Int):=by rw[Bn (by omega) (by omega)]; omega
  have hstep:Gz b5 (i:Int) s=some (s|||K8 (toU (b.toNat:Int)) (8*i)):=by
   simp only[Gz,hx,Aa,hw,Bc];rw[AlH (by omega)]; rfl
  show CX (Gz b5) (l.length+1) _ _=_;simp only[CX,hstep,Aa,ple];have:=ih (i+1) (s|||K8 (toU (b.toNat:Int)) (8*i)) (by rw[←AmD,h]; rfl) (by omega);simpa using this
def pof (n:Nat)(l:List UInt8):List UInt64:=match n,l with|_,[]=> []|0,_=> []|n+1,l=>ple (l.take 7) 0 0::pof n (l.drop 7)
theorem AjO (n:Nat): ∀l,(pof n l).length≤n:=by
 induction n with
 |zero=>intro l; cases l<;>simp[pof]
 |succ n ih=>intro l; cases l with
  |nil=>simp[pof]
  |cons a l=>simp only[pof,AlM]; have:=ih ((a::l).drop 7); omega
theorem Ag9 (a0:List UInt8)(hb:a0.length≤1000000): ∀(n i:Nat) (out:List UInt64),a0.length≤i+n→i≤1000000+7→out.length+n≤1000000→
  iter (BQ (fun(s:(List UInt64)) (b0:List UInt8)=>Ab (GA b0 s) fun y=>some (true,y)) a0 7) (n+1) ((i:Int),out)=some (.inl (out++pof n (a0.drop i))):=by
 intro n;induction n with
 |zero=>
  intro i out h _ _;have:a0.drop i=[]:=Amm (by omega);refine CO ?_;simp only[BQ,this];rw[AlG (by simp; omega)];simp[pof]
 |succ n ih=>
  intro i out h hi ho;by_cases hlt:i<a0.length
  ·obtain⟨b,l,hl⟩: ∃b l,a0.drop i=b::l:=⟨a0[i],a0.drop (i+1),List.drop_eq_getElem_cons hlt⟩;have hc1:cut a0 (i:Int) (a0.length:Int)=some (a0.drop i):=by
    rw[NP (by omega) (by omega)]; congr 1; rw[Al8 (by simp)]
   have hlen:(a0.drop i).length=a0.length-i:=by simp
   have hm:w64 ((i:Int)+X7 7 ((a0.drop i).length:Int))=((i+min 7 (a0.length-i):Nat):Int):=by
    rw[Bn]<;>unfold X7<;>split<;>omega
   have hc2:cut a0 (i:Int) ((i+min 7 (a0.length-i):Nat):Int)=some ((a0.drop i).take 7):=by
    rw[NP (by omega) (by omega)]; congr 1;rw[Nat.add_sub_cancel_left];by_cases h7:7≤a0.length-i
    ·rw[Nat.min_eq_left h7]
    ·rw[Nat.min_eq_right (by omega),Al8 (by simp),Al8 (by simp; omega)]
   have hw:w64 ((i:Int)+7)=((i+7:Nat):Int):=by rw[Bn (by omega) (by omega)]; omega
   have hb4:GA ((a0.drop i).take 7) out=some (out++[ple ((a0.drop i).take 7) 0 0]):=by
    have:=b6_eq ((a0.drop i).take 7) ((a0.drop i).take 7) 0 0 rfl (by simp; omega);simp only[GA];rw[show((0:Int))=((0:Nat):Int)from rfl,this];simp only[Aa];rw[Eg 8 (by simp; omega) (by simp; omega)];rfl
   rw[Cd (s':=(((i+7:Nat):Int),out++[ple ((a0.drop i).take 7) 0 0]))]
   ·rw[ih (i+7) _ (by omega) (by omega) (by simp; omega)];rw[hl];simp only[pof];rw[←hl,AmD];simp
   ·simp only[BQ];rw[AlH (AlY (by omega)),hc1];simp only[Aa,hm,hc2,hb4,hw];rfl
  ·have:a0.drop i=[]:=Amm (by omega);refine CO ?_;simp only[BQ,this];rw[AlG (by simp; omega)];simp[pof]
theorem of_eq (a0:List UInt8)(hb:a0.length≤900000):Lk a0=some (pof a0.length a0):=by
 have h:=Ag9 a0 (by omega) a0.length 0 [] (by omega) (by omega) (by simp; omega);have h':=Hm _ h (by omega);simp only[Lk,EC,DU];rw[AlG (by decide)];simp only[Aa,List.drop_zero,Amc]at h'⊢;rw[show((0:Int))=((0:Nat):Int)from rfl,h'];simp only[Aa]
def KM (n:Nat)(l:List UInt64)(s:UInt64×UInt64×UInt64):UInt64×UInt64×UInt64:=match n,l with|_,[]=>s|0,_=>s|_+1,[x]=>XV (Im s.1 x,s.2.1,s.2.2)|n+1,x::y::l=>KM n l (XV (Im s.1 x,Im s.2.1 y,s.2.2))
theorem b4_eq1 (x:UInt64)(s:UInt64×UInt64×UInt64):CX (HT [x]) 1 0 s=some (Im s.1 x,s.2.1,s.2.2):=by
 have e0:idx [x] (0:Int)=some x:=rfl;have e1:idx [s.1,s.2.1,s.2.2] (0:Int)=some s.1:=rfl;simp[CX,HT,e0,e1,Z2,Bc]
theorem b4_eq2 (x y:UInt64)(s:UInt64×UInt64×UInt64):CX (HT [x,y]) 2 0 s=some (Im s.1 x,Im s.2.1 y,s.2.2):=by
 have e0:idx [x,y] (0:Int)=some x:=rfl;have e1:idx [s.1,s.2.1,s.2.2] (0:Int)=some s.1:=rfl;have e2:idx [x,y] 1=some y:=rfl;have e3:idx [Im s.1 x,s.2.1,s.2.2] 1=some s.2.1:=rfl;simp[CX,HT,e0,e1,e2,e3,Z2,Bc]
theorem b3_nil (fst:Bool)(hf:fst=true)(s:UInt64×UInt64×UInt64):C7 ([],fst,s.1,s.2.1,s.2.2)=some (.inl ([],false,XV s)):=by
 subst hf;have hc:cut ([]:List UInt64) 0 0=some []:=rfl;have hmin:X7 2 (([]:List UInt64).length:Int)=0:=rfl;simp only[C7,Bool.true_or,if_true,hmin];rw[show((([]:List UInt64).length:Int))=0 from rfl,hc];simp only[Aa,CX,Al1,Ac2]
theorem AiF (s:UInt64×UInt64×UInt64):C7 ([],false,s.1,s.2.1,s.2.2)=some (.inr s):=rfl
theorem AiE (fst:Bool)(x:UInt64)(s:UInt64×UInt64×UInt64):C7 ([x],fst,s.1,s.2.1,s.2.2)=some (.inl ([],false,XV (Im s.1 x,s.2.1,s.2.2))):=by
 have hmin:X7 2 (([x]:List UInt64).length:Int)=1:=rfl;have h0:(fst||decide ((([x]:List UInt64).length:Int)>0))=true:=by simp
 have hc:cut [x] 0 1=some [x]:=rfl;have hc2:cut [x] 1 1=some []:=rfl;simp only[C7,h0,if_true,hmin];rw[show((([x]:List UInt64).length:Int))=1 from rfl,hc,hc2];simp only[Aa,AlM,Al1];rw[b4_eq1];simp only[Aa,Ac2]
theorem AiD (fst:Bool)(x y:UInt64)(l:List UInt64)(s:UInt64×UInt64×UInt64):C7 (x::y::l,fst,s.1,s.2.1,s.2.2)=some (.inl (l,false,XV (Im s.1 x,Im s.2.1 y,s.2.2))):=by
 have hmin:X7 2 ((x::y::l).length:Int)=((2:Nat):Int):=by unfold X7; rw[AlG (by simp; omega)]; rfl
 have h0:(fst||decide (((x::y::l).length:Int)>0))=true:=by simp; right; omega
 have hc:cut (x::y::l) ((0:Nat):Int) ((2:Nat):Int)=some [x,y]:=by rw[NP (by omega) (by simp)]; rfl
 have hc2:cut (x::y::l) ((2:Nat):Int) ((x::y::l).length:Int)=some l:=by rw[NP (by simp) (by omega)]; simp
 simp only[C7,h0,if_true,hmin];rw[show((0:Int))=((0:Nat):Int)from rfl,hc,hc2];simp only[Aa,AlM,Al1];rw[show((0:Nat):Int)=0 from rfl,b4_eq2];simp only[Aa,Ac2]
theorem YE: ∀(n:Nat) (l:List UInt64) (s:UInt64×UInt64×UInt64),l.length≤n→iter C7 (n+1) (l,false,s.1,s.2.1,s.2.2)=some (KM n l s):=by
 intro n;induction n with
 |zero=>
  intro l s h;have:l=[]:=List.eq_nil_of_length_eq_zero (by omega);subst this;rw[CO (AiF s)]; simp[KM]
 |succ n ih=>
  intro l s h;match l,h with
  | [],_=>rw[CO (AiF s)]; simp[KM]
  | [x],_=>
   rw[Cd (AiE false x s)];have:=ih [] (XV (Im s.1 x,s.2.1,s.2.2)) (by simp);rw[this]; simp[KM]
  |x::y::l,h=>
   rw[Cd (AiD false x y l s)];have:=ih l (XV (Im s.1 x,Im s.2.1 y,s.2.2)) (by simp at h; omega);rw[this]; simp[KM]
def AcN (l:List UInt64)(s:UInt64×UInt64×UInt64):UInt64×UInt64×UInt64:=match l with| []=>XV s|l=>KM l.length l s
def Aig (b:List UInt8):UInt64×UInt64:=((AcN (pof b.length b) (0,0,toU (b.length:Int))).1,(AcN (pof b.length b) (0,0,toU (b.length:Int))).2.1)
theorem sum_eq (b:List UInt8)(hb:b.length≤900000):Nu b=some (Aig b):=by
 simp only[Nu,of_eq b hb,Aa];have hl:=AjO b.length b;have hk:Aig b=((AcN (pof b.length b) (0,0,toU (b.length:Int))).1,(AcN (pof b.length b) (0,0,toU (b.length:Int))).2.1):=rfl;rw[hk];clear hk;generalize pof b.length b=l at*;have h:iter C7 Fx (l,true,0,0,toU (b.length:Int))=some (AcN l (0,0,toU (b.length:Int))):=by
  refine Hm (l.length+2) ?_ (by omega);match l with
  | []=>
   rw[show([]:List UInt64).length+2=1+1 from rfl,Cd (b3_nil true rfl (0,0,toU (b.length:Int)))];have:=YE 0 [] (XV (0,0,toU (b.length:Int))) (by simp);rw[this]; simp[KM,AcN]
  | [x]=>
   rw[show([x]:List UInt64).length+2=2+1 from rfl,Cd (AiE true x (0,0,toU (b.length:Int)))];have:=YE 1 [] (XV (Im 0 x,0,toU (b.length:Int))) (by simp);rw[this]; simp[KM,AcN]
  |x::y::l=>
   rw[Cd (AiD true x y l (0,0,toU (b.length:Int)))];have:=YE (l.length+2) l (XV (Im 0 x,Im 0 y,toU (b.length:Int))) (by omega);have e:(x::y::l).length+1=l.length+2+1:=rfl;rw[e,this];simp only[KM,AcN,AlM];congr 1;clear this hl;have: ∀(n k:Nat) (l:List UInt64) (s:UInt64×UInt64×UInt64),l.length≤n→l.length≤k→KM n l s=KM k l s:=by
    intro n;induction n with
    |zero=>intro k l s h _; have:l=[]:=List.eq_nil_of_length_eq_zero (by omega); subst this; simp[KM]
    |succ n ih=>
     intro k l s h hk;match l,k,h,hk with
     | [],k,_,_=>cases k<;>simp[KM]
     | [x],k+1,_,_=>simp[KM]
     |x::y::l,k+1,h,hk=>simp only[KM]; exact ih k l _ (by simp at h; omega) (by simp at hk; omega)
   exact this _ _ _ _ (by omega) (by omega)
 rw[h];simp only[Aa]
def SR:Nat→UInt64→List UInt8
 |0,_=> []
 |k+1,n=>toB ((Ev n (8*k)).toNat:Int)::SR k n
theorem Kp (k:Nat)(n:UInt64):(SR k n).length=k:=by induction k with|zero=>rfl|succ k ih=>simp[SR,ih]
theorem AfD (n:UInt64): ∀(k:Nat) (b:List UInt8),k≤8→b.length+k≤1000000→iter (Jj n) (k+1) (b,(k:Int)-1)=some (b++SR k n):=by
 intro k;induction k with
 |zero=>intro b _ _; refine CO ?_; simp only[Jj,SR,Amf]; rw[AlG (by simp)]
 |succ k ih=>
  intro b hk hb;have hw:w64 (8*(((k+1:Nat):Int)-1))=((8*k:Nat):Int):=by rw[Bn (by omega) (by omega)]; omega
  have hw2:w64 ((((k+1:Nat):Int)-1)-1)=(k:Int)-1:=by rw[Bn (by omega) (by omega)]; omega
  rw[Cd (s':=(b++[toB ((Ev n (8*k)).toNat:Int)],(k:Int)-1))]
  ·rw[ih _ (by omega) (by simp; omega)]; simp[SR]
  ·simp only[Jj,hw,hw2];rw[AlH (AlY (by omega)),AlH (by omega),Eg 1 (by simp; omega) (by simp; omega)];simp only[Aa,Amk]
theorem AcB (n:UInt64)(k:Nat)(b:List UInt8)(hk:k≤8)(hb:b.length≤900000):Gv b n (k:Int)=some (b++SR k n):=by
 have hw:w64 ((k:Int)-1)=(k:Int)-1:=Bn (by omega) (by omega);simp only[Gv,hw,Hm (k+1) (AfD n k b hk (by omega)) (by omega),Aa]
def P6 (s:UInt64×UInt64):List UInt8:=SR 8 s.1++SR 8 s.2
theorem Lf (s:UInt64×UInt64):(P6 s).length=16:=by simp[P6,Kp]
theorem Vy (s:UInt64×UInt64):EJ s=some (P6 s):=by
 have e0:idx [s.1,s.2] 0=some s.1:=rfl;have e1:idx [s.1,s.2] 1=some s.2:=rfl;have h0:Gv [] s.1 8=some ([]++SR 8 s.1):=AcB s.1 8 [] (by omega) (by simp);have h1:Gv (SR 8 s.1) s.2 8=some (SR 8 s.1++SR 8 s.2):=AcB s.2 8 _ (by omega) (by rw[Kp]; omega);simp[EJ,CX,MS,e0,e1,h0,h1,P6]
def XW:List UInt8→List (List UInt8)→List UInt8
 |b,[]=>b
 |b,p::ps=>XW (b++SR 4 (toU (p.length:Int))++p) ps
def VH:List (List UInt8)→Nat
 | []=>0
 |p::ps=>4+p.length+VH ps
theorem Wr: ∀(ps:List (List UInt8)) (b:List UInt8),(XW b ps).length=b.length+VH ps:=by
 intro ps;induction ps with
 |nil=>intro b; rfl
 |cons p ps ih=>intro b; simp only[XW,ih,VH,AlI,Kp]; omega
theorem Aff: ∀(ps:List (List UInt8)) (i:Int) (b:List UInt8),b.length+VH ps≤800000→DP I3 ps i b=some (XW b ps):=by
 intro ps;induction ps with
 |nil=>intro i b _; rfl
 |cons p ps ih=>
  intro i b h;simp only[VH]at h;have h0:Gv b (toU (p.length:Int)) 4=some (b++SR 4 (toU (p.length:Int))):=AcB _ 4 b (by omega) (by omega);simp only[DP,I3,h0,Aa];rw[Eg 1 (by simp[Kp]; omega) (by simp[Kp]; omega)];simp only[Aa];rw[ih _ _ (by simp[Kp]; omega)];rfl
def Abh (t:ByteArray)(ps:List (List UInt8)):UInt64×UInt64:=Aig (XW (toB (t.size:Int)::t.data.toList) ps)
theorem JL (t:ByteArray)(ps:List (List UInt8))(h:t.data.toList.length+VH ps≤700000):Cc t ps=some (Abh t ps):=by
 simp only[Cc];rw[Eg 1 (by simp at h⊢; omega) (by simp at h⊢; omega)];simp only[Aa];rw[Aff _ _ _ (by simp at h⊢; omega)];simp only[Aa];rw[sum_eq _ (by rw[Wr]; simp at h⊢; omega)];rfl
def Kf (a b:UInt64×UInt64):UInt64×UInt64:=Abh ⟨#[110,111,100,101]⟩ [P6 a,P6 b]
theorem PF (a b:UInt64×UInt64):Hj a b=some (Kf a b):=by
 simp only[Hj,Vy,Aa];rw[JL _ _ (by simp[VH,Lf])];rfl
theorem AbT {n:Int}(h:0≤n):BA n 1=n/2:=by
 show n.fdiv (2^ (min 1 64))=n/2;rw[Int.fdiv_eq_ediv_of_nonneg _ (by decide)]; rfl
theorem tab_le:(str_0.data.toList.all fun b=>decide (b.toNat≤8))=true:=by kernel_rfl
theorem Ai4:str_0.data.toList.length=256:=by kernel_rfl
theorem Ai5 (x:UInt64): ∃b,idx str_0.data.toList ((toB (x.toNat:Int)).toNat:Int)=some b∧b.toNat≤8:=by
 have hlt:(toB (x.toNat:Int)).toNat<str_0.data.toList.length:=by rw[Ai4]; exact(toB (x.toNat:Int)).toNat_lt
 refine⟨str_0.data.toList[(toB (x.toNat:Int)).toNat],Di (by simp),?_⟩;exact Amx (AlW.1 tab_le _ (List.getElem_mem hlt))
theorem Akd (a:UInt64): ∃r,Fm a=some r∧0≤r∧r≤64:=by
 have h1: ∃x n,(if(decide ((a.toNat:Int)≥4294967296))=true then some ((Ev a 32),(32:Int))else some (a,0))=some (x,n)∧0≤n∧n≤32:=by
  split
  ·exact⟨_,_,rfl,by omega,by omega⟩
  ·exact⟨_,_,rfl,by omega,by omega⟩
 obtain⟨x,n,e1,n0,n1⟩:=h1;have h2: ∃y k,(if(decide ((x.toNat:Int)≥65536))=true then some ((Ev x 16),(w64 (n+16)))else some (x,n))=some (y,k)∧0≤k∧k≤48:=by
  split
  ·refine⟨_,_,rfl,?_,?_⟩<;>rw[Bn (by omega) (by omega)]<;>omega
  ·exact⟨_,_,rfl,by omega,by omega⟩
 obtain⟨y,k,e2,k0,k1⟩:=h2;have h3: ∃z j,(if(decide ((y.toNat:Int)≥256))=true then some ((Ev y 8),(w64 (k+8)))else some (y,k))=some (z,j)∧0≤j∧j≤56:=by
  split
  ·refine⟨_,_,rfl,?_,?_⟩<;>rw[Bn (by omega) (by omega)]<;>omega
  ·exact⟨_,_,rfl,by omega,by omega⟩
 obtain⟨z,j,e3,j0,j1⟩:=h3;obtain⟨b,e4,b1⟩:=Ai5 z;refine⟨j+b.toNat,?_,by omega,by omega⟩;simp only[Fm,Ga,e1,Aa,e2,e3,e4,Bc];rw[Bn (n:=(b.toNat:Int)) (by omega) (by omega),Bn (by omega) (by omega)]
theorem AfS (a:UInt64): ∃r,Fb a=some r:=⟨_,rfl⟩
theorem AbQ (a s:Int): ∃r,Ff a s=some r:=by
 obtain⟨x,hx,x0,_⟩:=Akd (toU (Xj a (w64 (s-1))));obtain⟨y,hy⟩:=AfS (toU (BA a x.toNat));exact⟨(x,y),by simp only[Ff,hx,Aa]; rw[AlH x0,hy]; rfl⟩
end Go.Proofs.YtnhdojckpcbjeaaGreatDoor
end
section
namespace Go.Gw
open Go
theorem idx_of {α:Type}{xs:List α}{i:Nat}{x:α}(h:xs[i]? =some x):idx xs (i:Int)=some x:=by
 unfold idx; rw[AlH (Ams i),Amk]; exact h
end Go.Gw
end
section
namespace Go.Proofs.YtnhdojckpcbjeaaGreatDoor
open Go Go.Gw Go.Ax
abbrev FP:Nat:=2305843009213693951
theorem litP:(2305843009213693951:UInt64).toNat=FP:=rfl
theorem and_P (n:Nat):n&&&2305843009213693951=n%2305843009213693952:=Nat.and_two_pow_sub_one_eq_mod n 61
theorem OI {n:Nat}(h:n<18446744073709551616):(toU (n:Int)).toNat=n:=by
 unfold toU;rw[UInt64.toNat_ofNat'];omega
theorem shlU3 {h:UInt64}(hh:h.toNat<288230376151711744):(K8 h 3).toNat=8*h.toNat:=by
 unfold K8;rw[show(h.toNat:Int)*2^ (min 3 64)=((8*h.toNat:Nat):Int)from by
  rw[show min 3 64=3 from rfl]; omega]
 exact OI (by omega)
theorem DZ (x:UInt64)(k:Nat)(hk:k≤64):(Ev x k).toNat=x.toNat/2^k:=by
 unfold Ev;rw[UInt64.toNat_ofNat',Nat.min_eq_left hk];exact Amu (AmA (Nat.div_le_self _ _) x.toNat_lt)
theorem or_add {a b:Nat}(h:b<8):8*a|||b=8*a+b:=(Nat.two_pow_add_eq_or_of_lt (i:=3) h a).symm
theorem Wq {h l:UInt64}(hh:h.toNat<288230376151711744):(Aax h l).toNat=(h.toNat*18446744073709551616+l.toNat)%FP:=by
 have hl:=l.toNat_lt;have e1:(l&&&2305843009213693951).toNat=l.toNat%2305843009213693952:=by rw[UInt64.toNat_and,litP]; exact and_P _
 have e2:(Ev l 61).toNat=l.toNat/2305843009213693952:=DZ l 61 (by omega);have e3:((K8 h 3)|||(Ev l 61)).toNat=8*h.toNat+l.toNat/2305843009213693952:=by
  rw[UInt64.toNat_or,shlU3 hh,e2]; exact or_add (by omega)
 have e4:((l&&&2305843009213693951)+((K8 h 3)|||(Ev l 61))).toNat=l.toNat%2305843009213693952+(8*h.toNat+l.toNat/2305843009213693952):=by
  rw[UInt64.toNat_add,e1,e3]; omega
 unfold Aax;generalize hn:(l&&&2305843009213693951)+((K8 h 3)|||(Ev l 61))=n at*;have e5:(n&&&2305843009213693951).toNat=n.toNat%2305843009213693952:=by rw[UInt64.toNat_and,litP]; exact and_P _
 have e6:(Ev n 61).toNat=n.toNat/2305843009213693952:=DZ n 61 (by omega);have e7:((n&&&2305843009213693951)+Ev n 61).toNat=n.toNat%2305843009213693952+n.toNat/2305843009213693952:=by rw[UInt64.toNat_add,e5,e6]; omega
 dsimp only;generalize (n&&&2305843009213693951)+Ev n 61=k at*;split
 ·rename_i hk;rw[UInt64.toNat_sub_of_le _ _ (by rw[UInt64.le_iff_toNat_le]; exact hk),litP];simp only[FP]at*;omega
 ·simp only[FP]at*;omega
theorem LG (a:UInt64):(SC a).toNat=a.toNat%FP:=by
 unfold SC;rw[Wq (by decide)];simp
theorem AfQ (a b:UInt64):(Im a b).toNat=(a.toNat%FP+b.toNat%FP)%FP:=by
 unfold Im;rw[LG,UInt64.toNat_add,LG,LG];simp only[FP];omega
theorem Af2 {p q r s:Nat}(hp:p<4294967296)(hq:q<4294967296)(hr:r<4294967296)(hs:s<4294967296):
  (p*r+((p*s+q*s/4294967296)/4294967296)+(((p*s+q*s/4294967296)%4294967296+q*r)/4294967296))=((p*4294967296+q)*(r*4294967296+s))/18446744073709551616:=by
 have h1:(p*4294967296+q)*(r*4294967296+s)=(p*r)*18446744073709551616+(p*s+q*r)*4294967296+q*s:=by
  rw[Nat.add_mul,Nat.mul_add,Nat.mul_add,Nat.add_mul];have a1:p*4294967296*(r*4294967296)=p*r*18446744073709551616:=by rw[Nat.mul_assoc,Nat.mul_left_comm 4294967296,←Nat.mul_assoc p]
  have a2:p*4294967296*s=p*s*4294967296:=Nat.mul_right_comm _ _ _;have a3:q*(r*4294967296)=q*r*4294967296:=(Nat.mul_assoc _ _ _).symm;rw[a1,a2,a3]; omega
 rw[h1];generalize p*r=A;generalize p*s=B;generalize q*r=C;generalize q*s=D;omega
theorem UR (a b:UInt64):(phi a b).toNat=(a.toNat*b.toNat)/18446744073709551616:=by
 have ha:=a.toNat_lt;have hb:=b.toNat_lt;have m32: ∀x:UInt64,(x&&&4294967295).toNat=x.toNat%4294967296:=fun x=>by
  rw[UInt64.toNat_and]; exact Nat.and_two_pow_sub_one_eq_mod _ 32
 have s32: ∀x:UInt64,(Ev x 32).toNat=x.toNat/4294967296:=fun x=>DZ x 32 (by omega);have hp:a.toNat/4294967296<4294967296:=by omega
 have hq:a.toNat%4294967296<4294967296:=by omega
 have hr:b.toNat/4294967296<4294967296:=by omega
 have hs:b.toNat%4294967296<4294967296:=by omega
 have ea:a.toNat/4294967296*4294967296+a.toNat%4294967296=a.toNat:=Nat.div_add_mod' _ _;have eb:b.toNat/4294967296*4294967296+b.toNat%4294967296=b.toNat:=Nat.div_add_mod' _ _;have key:=Af2 hp hq hr hs;rw[ea,eb]at key;have bd: ∀x y:Nat,x<4294967296→y<4294967296→x*y≤18446744065119617025:=fun x y hx hy=>Nat.mul_le_mul (show x≤4294967295 by omega) (show y≤4294967295 by omega);have b1:=bd _ _ hp hr;have b2:=bd _ _ hp hs;have b3:=bd _ _ hq hr;have b4:=bd _ _ hq hs;have ab:a.toNat*b.toNat/18446744073709551616<18446744073709551616:=by
  rw[Nat.div_lt_iff_lt_mul (by omega)];exact AmA (Nat.mul_le_mul (show a.toNat≤18446744073709551615 by omega) (show b.toNat≤18446744073709551615 by omega)) (by omega)
 unfold phi;dsimp only;rw[←key]at ab⊢;simp only[UInt64.toNat_add,UInt64.toNat_mul,s32,m32];generalize a.toNat/4294967296*(b.toNat/4294967296)=A at*;generalize a.toNat/4294967296*(b.toNat%4294967296)=B at*;generalize a.toNat%4294967296*(b.toNat/4294967296)=C at*;generalize a.toNat%4294967296*(b.toNat%4294967296)=D at*;omega
theorem AfM (a b:UInt64):(AhN a b).toNat=(a.toNat*b.toNat)%FP:=by
 have h1:(SC a).toNat<FP:=by rw[LG]; exact AmF _ (by decide)
 have h2:(SC b).toNat<FP:=by rw[LG]; exact AmF _ (by decide)
 simp only[FP]at h1 h2;have hm:(SC a).toNat*(SC b).toNat<5316911983139663491615228241121378304:=AmA (Nat.mul_le_mul (show(SC a).toNat≤2305843009213693950 by omega) (show(SC b).toNat≤2305843009213693950 by omega)) (by omega);unfold AhN;rw[Wq (by rw[UR]; omega),UR,UInt64.toNat_mul];have:(SC a).toNat*(SC b).toNat/18446744073709551616*18446744073709551616+(SC a).toNat*(SC b).toNat%2^64=(SC a).toNat*(SC b).toNat:=by omega
 rw[this,LG,LG,←Nat.mul_mod]
theorem AfF (a:UInt64):(SQ a).toNat=a.toNat^17%FP:=by
 unfold SQ;dsimp only;simp only[AfM,Nat.mul_mod_mod,Nat.mod_mul_mod];congr 1;rw[show(17:Nat)=1+16 from rfl,Nat.pow_add,Nat.pow_one];congr 1;generalize a.toNat=x;rw[show(16:Nat)=2*2*2*2 from rfl,Nat.pow_mul,Nat.pow_mul,Nat.pow_mul];simp only[Nat.pow_two]
theorem u_ext {a b:UInt64}(h:a.toNat=b.toNat):a=b:=UInt64.toNat_inj.1 h
section
variable {x4 x5 x7 y u:UInt64}
theorem dq_lt (hd:x7.toNat<4294967296)(hu:u.toNat<y.toNat):(u.toNat*4294967296+x7.toNat)/y.toNat<4294967296:=by
 rw[Nat.div_lt_iff_lt_mul (by omega)];have:(u.toNat+1)*4294967296≤y.toNat*4294967296:=Nat.mul_le_mul_right _ hu;omega
theorem dcond {q r:UInt64}(h1:2147483648≤x4.toNat∧x4.toNat<4294967296)(h0:x5.toNat<4294967296)(hd:x7.toNat<4294967296)(hy:y.toNat=x4.toNat*4294967296+x5.toNat)(hu:u.toNat<y.toNat)
  (hq:q.toNat*x4.toNat+r.toNat=u.toNat) (hr:r.toNat<4294967296):
  (((decide ((q.toNat:Int)≥4294967296))||(decide (((q*x5).toNat:Int)>(((4294967296*r)+x7).toNat:Int))))=true↔(u.toNat*4294967296+x7.toNat)/y.toNat<q.toNat):=by
 have hlt:=dq_lt hd hu;have e1:((4294967296*r)+x7).toNat=4294967296*r.toNat+x7.toNat:=by
  rw[UInt64.toNat_add,UInt64.toNat_mul,show(4294967296:UInt64).toNat=4294967296 from rfl]; omega
 rw[Amr,AlL,AlL,e1];by_cases hb:4294967296≤q.toNat
 ·constructor
  ·intro _; omega
  ·intro _; left; omega
 ·have hB:q.toNat*x5.toNat≤4294967295*4294967295:=Nat.mul_le_mul (by omega) (by omega);have e2:(q*x5).toNat=q.toNat*x5.toNat:=by rw[UInt64.toNat_mul]; omega
  have e3:q.toNat*y.toNat=q.toNat*x4.toNat*4294967296+q.toNat*x5.toNat:=by rw[hy,Nat.mul_add,Nat.mul_assoc]
  rw[e2,Nat.div_lt_iff_lt_mul (by omega),e3];generalize q.toNat*x4.toNat=A at*;generalize q.toNat*x5.toNat=B at*;omega
theorem dstep {q r:UInt64}(h1:2147483648≤x4.toNat∧x4.toNat<4294967296)(h0:x5.toNat<4294967296)(hd:x7.toNat<4294967296)(hy:y.toNat=x4.toNat*4294967296+x5.toNat)(hu:u.toNat<y.toNat)
  (hq:q.toNat*x4.toNat+r.toNat=u.toNat) (hr:r.toNat<4294967296) (hq2:q.toNat≤4294967297) (hc:(u.toNat*4294967296+x7.toNat)/y.toNat<q.toNat):
  (q-1).toNat=q.toNat-1∧(r+x4).toNat=r.toNat+x4.toNat∧(q-1).toNat*x4.toNat+(r+x4).toNat=u.toNat∧(u.toNat*4294967296+x7.toNat)/y.toNat≤(q-1).toNat∧
  (4294967296≤(r+x4).toNat→(q-1).toNat=(u.toNat*4294967296+x7.toNat)/y.toNat):=by
 have q1:1≤q.toNat:=AmA (AmO _) hc;have e1:(q-1).toNat=q.toNat-1:=by rw[UInt64.toNat_sub_of_le _ _ (by rw[UInt64.le_iff_toNat_le]; exact q1)]; rfl
 have e2:(r+x4).toNat=r.toNat+x4.toNat:=by rw[UInt64.toNat_add]; omega
 have e3:(q.toNat-1)*x4.toNat+x4.toNat=q.toNat*x4.toNat:=by
  rw[←Nat.succ_mul]; congr 1; omega
 refine⟨e1,e2,by rw[e1,e2,AmM r.toNat,←AmP,e3,hq],by rw[e1]; exact Nat.le_sub_one_of_lt hc,fun hb=> ?_⟩;rw[e2]at hb;refine Nat.le_antisymm ?_ (by rw[e1]; exact Nat.le_sub_one_of_lt hc);rw[e1,Nat.le_div_iff_mul_le (AmA (AmO _) hu)];clear hc e1 e2;have hB:(q.toNat-1)*x5.toNat≤4294967296*4294967295:=Nat.mul_le_mul (by omega) (by omega);have e4:(q.toNat-1)*y.toNat=(q.toNat-1)*x4.toNat*4294967296+(q.toNat-1)*x5.toNat:=by rw[hy,Nat.mul_add,Nat.mul_assoc]
 rw[e4];generalize (q.toNat-1)*x4.toNat=A at*;generalize (q.toNat-1)*x5.toNat=B at*;generalize q.toNat*x4.toNat=C at*;omega
theorem dloop1 (h1:2147483648≤x4.toNat∧x4.toNat<4294967296)(h0:x5.toNat<4294967296)(hd:x7.toNat<4294967296)(hy:y.toNat=x4.toNat*4294967296+x5.toNat)(hu:u.toNat<y.toNat):
  ∀(n:Nat) (q r:UInt64),q.toNat*x4.toNat+r.toNat=u.toNat→r.toNat<4294967296→q.toNat≤4294967297→(u.toNat*4294967296+x7.toNat)/y.toNat≤q.toNat→4294967296≤r.toNat+n*2147483648→
   ∃p,iter (Gc x4 x5 x7) (n+1) (q,r)=some p∧p.toNat=(u.toNat*4294967296+x7.toNat)/y.toNat:=by
 intro n;induction n with
 |zero=>intro q r _ hr _ _ hn; omega
 |succ n ih=>
  intro q r hq hr hq2 hle hn;have hc:=dcond h1 h0 hd hy hu hq hr;by_cases hcc:(u.toNat*4294967296+x7.toNat)/y.toNat<q.toNat
  ·obtain⟨s1,s2,s3,s4,s5⟩:=dstep h1 h0 hd hy hu hq hr hq2 hcc;by_cases hb:4294967296≤(r+x4).toNat
   ·refine⟨q-1,CO ?_,s5 hb⟩;unfold Gc;rw[AlH (hc.2 hcc),AlH (by rw[AlL]; dsimp only; omega)]
   ·obtain⟨p,p1,p2⟩:=ih (q-1) (r+x4) s3 (by omega) (by omega) s4 (by omega);refine⟨p,?_,p2⟩;rw[Cd (s':=(q-1,r+x4)),p1];unfold Gc;rw[AlH (hc.2 hcc),AlG (by rw[AlL]; dsimp only; omega)]
  ·refine⟨q,CO ?_,by omega⟩;unfold Gc;rw[AlG (fun h=>hcc (hc.1 h))]
theorem dloop2 (h1:2147483648≤x4.toNat∧x4.toNat<4294967296)(h0:x5.toNat<4294967296)(hd:x7.toNat<4294967296)(hy:y.toNat=x4.toNat*4294967296+x5.toNat)(hu:u.toNat<y.toNat):
  ∀(n:Nat) (q r:UInt64),q.toNat*x4.toNat+r.toNat=u.toNat→r.toNat<4294967296→q.toNat≤4294967297→(u.toNat*4294967296+x7.toNat)/y.toNat≤q.toNat→4294967296≤r.toNat+n*2147483648→
   ∃p,iter (Gb x4 x5 x7) (n+1) (r,q)=some p∧p.toNat=(u.toNat*4294967296+x7.toNat)/y.toNat:=by
 intro n;induction n with
 |zero=>intro q r _ hr _ _ hn; omega
 |succ n ih=>
  intro q r hq hr hq2 hle hn;have hc:=dcond h1 h0 hd hy hu hq hr;by_cases hcc:(u.toNat*4294967296+x7.toNat)/y.toNat<q.toNat
  ·obtain⟨s1,s2,s3,s4,s5⟩:=dstep h1 h0 hd hy hu hq hr hq2 hcc;by_cases hb:4294967296≤(r+x4).toNat
   ·refine⟨q-1,CO ?_,s5 hb⟩;unfold Gb;rw[AlH (hc.2 hcc),AlH (by rw[AlL]; dsimp only; omega)]
   ·obtain⟨p,p1,p2⟩:=ih (q-1) (r+x4) s3 (by omega) (by omega) s4 (by omega);refine⟨p,?_,p2⟩;rw[Cd (s':=(r+x4,q-1)),p1];unfold Gb;rw[AlH (hc.2 hcc),AlG (by rw[AlL]; dsimp only; omega)]
  ·refine⟨q,CO ?_,by omega⟩;unfold Gb;rw[AlG (fun h=>hcc (hc.1 h))]
theorem Aiq (h1:2147483648≤x4.toNat∧x4.toNat<4294967296)(h0:x5.toNat<4294967296)(hd:x7.toNat<4294967296)(hy:y.toNat=x4.toNat*4294967296+x5.toNat)(hu:u.toNat<y.toNat):
  (u/x4).toNat*x4.toNat+(u-(u/x4)*x4).toNat=u.toNat∧(u-(u/x4)*x4).toNat<4294967296∧(u/x4).toNat≤4294967297∧(u.toNat*4294967296+x7.toNat)/y.toNat≤(u/x4).toNat:=by
 have e1:(u/x4).toNat=u.toNat/x4.toNat:=UInt64.toNat_div _ _;have hmul:u.toNat/x4.toNat*x4.toNat≤u.toNat:=Nat.div_mul_le_self _ _;have hul:=u.toNat_lt;have e2:((u/x4)*x4).toNat=u.toNat/x4.toNat*x4.toNat:=by rw[UInt64.toNat_mul,e1]; omega
 have e3:(u-(u/x4)*x4).toNat=u.toNat-u.toNat/x4.toNat*x4.toNat:=by
  rw[UInt64.toNat_sub_of_le _ _ (by rw[UInt64.le_iff_toNat_le,e2]; exact hmul),e2]
 have e4:u.toNat-u.toNat/x4.toNat*x4.toNat=u.toNat%x4.toNat:=by
  have:=Nat.div_add_mod' u.toNat x4.toNat; omega
 have e5:=AmF u.toNat (show 0<x4.toNat by omega);refine⟨by rw[e1,e3]; omega,by rw[e3,e4]; omega,?_,?_⟩
 ·rw[e1];have:u.toNat/x4.toNat<4294967298:=by
   rw[Nat.div_lt_iff_lt_mul (by omega)];omega
  omega
 ·rw[e1,Nat.le_div_iff_mul_le (by omega)];have h2:(u.toNat*4294967296+x7.toNat)/y.toNat*y.toNat≤u.toNat*4294967296+x7.toNat:=Nat.div_mul_le_self _ _;generalize (u.toNat*4294967296+x7.toNat)/y.toNat=Q at*;have h3:Q*y.toNat=Q*x4.toNat*4294967296+Q*x5.toNat:=by rw[hy,Nat.mul_add,Nat.mul_assoc]
  rw[h3]at h2;generalize Q*x4.toNat=A at*;generalize Q*x5.toNat=B at*;omega
theorem drest {q:UInt64}(hu:u.toNat<y.toNat)(hq:q.toNat=(u.toNat*4294967296+x7.toNat)/y.toNat):(((u*4294967296)+x7)-(q*y)).toNat=(u.toNat*4294967296+x7.toNat)%y.toNat:=by
 have hyl:=y.toNat_lt;have hm:=AmF (u.toNat*4294967296+x7.toNat) (show 0<y.toNat by omega);have hdm:=Nat.div_add_mod' (u.toNat*4294967296+x7.toNat) y.toNat;rw[UInt64.toNat_sub,UInt64.toNat_add,UInt64.toNat_mul,UInt64.toNat_mul,hq,show(4294967296:UInt64).toNat=4294967296 from rfl];generalize (u.toNat*4294967296+x7.toNat)/y.toNat*y.toNat=Z at*;omega
end
theorem QG {x:UInt64}{k:Nat}(hk:k≤63):(K8 x k).toNat=(x.toNat*2^k)%18446744073709551616:=by
 unfold K8;rw[Nat.min_eq_left (by omega),show(x.toNat:Int)*2^k=((x.toNat*2^k:Nat):Int)from by simp];unfold toU;rw[UInt64.toNat_ofNat'];generalize x.toNat*2^k=z;omega
theorem or_nat {a b k:Nat}(h:b<2^k):a*2^k|||b=a*2^k+b:=by
 rw[AmG]; exact(Nat.two_pow_add_eq_or_of_lt h a).symm
theorem ZN {hi lo y0:UInt64}{s:Nat}(hs:s≤63)(hlz:Ef y0=some (s:Int))(hn1:9223372036854775808≤y0.toNat*2^s)(hn2:y0.toNat*2^s<18446744073709551616)(hh:hi.toNat<y0.toNat):
  ∃q r,IS hi lo y0=some (q,r)∧r.toNat=(hi.toNat*18446744073709551616+lo.toNat)%y0.toNat:=by
 have hyne:y0≠0:=fun e=>by rw[e]at hh; simp at hh
 unfold IS;rw[AlG (by rw[Amp]; omega),Aa,AlG (by rw[AlL]; omega),Aa];by_cases hz:hi.toNat=0
 ·rw[AlH (by rw[Amp]; omega),AlH hyne,AlH hyne];refine⟨_,_,rfl,?_⟩;rw[UInt64.toNat_mod,hz]; simp
 ·have hts:(toU (s:Int)).toNat=s:=OI (by omega);have h64:(64-toU (s:Int)).toNat=64-s:=by
   rw[UInt64.toNat_sub_of_le _ _ (by rw[UInt64.le_iff_toNat_le,hts]; show s≤64; omega),hts]; rfl
  rw[AlG (by rw[Amp]; omega),hlz,Aa,hts,h64];simp only[Bc];have hps:0<2^s:=Nat.two_pow_pos s;have hpp:2^s*2^ (64-s)=18446744073709551616:=by rw[←Nat.pow_add,show s+(64-s)=64 from by omega]
  have hY:(K8 y0 s).toNat=y0.toNat*2^s:=by rw[QG (by omega)]; exact Amu hn2
  have hlo:=lo.toNat_lt;have hlod:lo.toNat/2^ (64-s)<2^s:=by rw[Nat.div_lt_iff_lt_mul (Nat.two_pow_pos _),hpp]; omega
  have hhs:hi.toNat*2^s+2^s≤y0.toNat*2^s:=by rw[←Nat.succ_mul]; exact Nat.mul_le_mul_right _ hh
  have hU:((K8 hi s)|||(Ev lo (64-s))).toNat=hi.toNat*2^s+lo.toNat/2^ (64-s):=by
   rw[UInt64.toNat_or,QG (by omega),DZ _ _ (by omega),Amu (by omega),or_nat hlod]
  have hL:(K8 lo s).toNat=(lo.toNat*2^s)%18446744073709551616:=QG (by omega);have m32: ∀x:UInt64,(x&&&4294967295).toNat=x.toNat%4294967296:=fun x=>by
   rw[UInt64.toNat_and]; exact Nat.and_two_pow_sub_one_eq_mod _ 32
  have s32: ∀x:UInt64,(Ev x 32).toNat=x.toNat/4294967296:=fun x=>DZ x 32 (by omega);have hlos:lo.toNat*2^s=lo.toNat/2^ (64-s)*18446744073709551616+(lo.toNat*2^s)%18446744073709551616:=by
   have e1:lo.toNat*2^s/18446744073709551616=lo.toNat/2^ (64-s):=by
    rw[←hpp,AmG,Nat.mul_div_mul_left _ _ hps]
   rw[←e1]; exact(Nat.div_add_mod' _ _).symm
  have hN:(hi.toNat*18446744073709551616+lo.toNat)*2^s=(hi.toNat*2^s+lo.toNat/2^ (64-s))*18446744073709551616+(lo.toNat*2^s)%18446744073709551616:=by
   rw[Nat.add_mul,hlos,Nat.add_mul,Nat.mul_right_comm];omega
  generalize hgy:K8 y0 s=y at*;generalize hgu:(K8 hi s)|||(Ev lo (64-s))=u at*;generalize hgl:K8 lo s=l at*;have hyl:=y.toNat_lt;have a1:2147483648≤(Ev y 32).toNat∧(Ev y 32).toNat<4294967296:=by rw[s32]; omega
  have a0:(y&&&4294967295).toNat<4294967296:=by rw[m32]; omega
  have ay:y.toNat=(Ev y 32).toNat*4294967296+(y&&&4294967295).toNat:=by rw[s32,m32]; omega
  have ad:(Ev l 32).toNat<4294967296:=by rw[s32]; have:=l.toNat_lt; omega
  have ae:(l&&&4294967295).toNat<4294967296:=by rw[m32]; omega
  have au:u.toNat<y.toNat:=by rw[hU,hY]; omega
  have hx4:Ev y 32≠0:=fun e=>by rw[e]at a1; simp at a1
  obtain⟨b1,b2,b3,b4⟩:=Aiq a1 a0 ad ay au;obtain⟨q1,c1,c2⟩:=dloop1 a1 a0 ad ay au 2 _ _ b1 b2 b3 b4 (by omega);have hr1:=drest au c2;have hr1l:=AmF (u.toNat*4294967296+(Ev l 32).toNat) (show 0<y.toNat by omega);rw[AlH hx4,Hm _ c1 (by omega),Aa,Aa,AlH hx4];generalize hgv:((u*4294967296)+(Ev l 32))-(q1*y)=v at*;have av:v.toNat<y.toNat:=by omega
  obtain⟨d1,d2,d3,d4⟩:=Aiq a1 a0 ae ay av;obtain⟨q0,e1,e2⟩:=dloop2 a1 a0 ae ay av 2 _ _ d1 d2 d3 d4 (by omega);have hr0:=drest av e2;rw[Hm _ e1 (by omega),Aa,Aa];refine⟨_,_,rfl,?_⟩;rw[DZ _ _ (by omega),hr0,hr1];have f1:(((u.toNat*4294967296+(Ev l 32).toNat)%y.toNat)*4294967296+(l&&&4294967295).toNat)%y.toNat=((hi.toNat*18446744073709551616+lo.toNat)*2^s)%y.toNat:=by
   rw[Nat.add_mod,Nat.mod_mul_mod,←Nat.add_mod,hN,←hU,←hL,s32,m32];have e9:(u.toNat*4294967296+l.toNat/4294967296)*4294967296+l.toNat%4294967296=u.toNat*18446744073709551616+l.toNat:=by omega
   rw[e9]
  rw[f1,hY,Nat.mul_mod_mul_right,Nat.mul_div_cancel _ hps]
abbrev GQ:Nat:=2305843009213691579
abbrev GR:Nat:=1152921504606845789
def Dv (y:UInt64):Prop:= ∃s:Nat,s≤63∧Ef y=some (s:Int)∧9223372036854775808≤y.toNat*2^s∧y.toNat*2^s<18446744073709551616
theorem dvQ:Dv 2305843009213691579:=⟨3,by omega,by kernel_rfl,by decide,by decide⟩
theorem dvR:Dv 1152921504606845789:=⟨4,by omega,by kernel_rfl,by decide,by decide⟩
theorem dvR1:Dv 1152921504606845788:=⟨4,by omega,by kernel_rfl,by decide,by decide⟩
theorem Dv.pos {y:UInt64}(h:Dv y):0<y.toNat:=by
 obtain⟨s,_,_,h1,_⟩:=h;by_cases e:y.toNat=0
 ·rw[e]at h1; simp at h1
 ·omega
theorem AhJ {y:UInt64}(h:Dv y)(hi lo:UInt64): ∃z,Hx hi lo y=some z∧z.toNat=(hi.toNat*18446744073709551616+lo.toNat)%y.toNat:=by
 have hpos:=h.pos;obtain⟨s,h1,h2,h3,h4⟩:=h;have hyne:y≠0:=fun e=>by rw[e]at hpos; simp at hpos
 have hm:(hi%y).toNat=hi.toNat%y.toNat:=UInt64.toNat_mod _ _;obtain⟨q,r,e1,e2⟩:=ZN (hi:=hi%y) (lo:=lo) h1 h2 h3 h4 (by rw[hm]; exact AmF _ hpos);refine⟨r,?_,?_⟩
 ·unfold Hx;rw[AlH hyne,e1,Aa]
 ·rw[e2,hm,Nat.add_mod,Nat.mod_mul_mod,←Nat.add_mod]
def ofN (n:Nat):UInt64:=UInt64.ofNat n
theorem AcW {n:Nat}(h:n<18446744073709551616):(ofN n).toNat=n:=by
 unfold ofN; rw[UInt64.toNat_ofNat']; exact Amu h
theorem UZ (n:Nat){y:UInt64}(h:0<y.toNat):(ofN (n%y.toNat)).toNat=n%y.toNat:=AcW (AmL (AmF _ h) (Nat.le_of_lt y.toNat_lt))
theorem Zk {z:UInt64}{n:Nat}(h:z.toNat=n):z=ofN n:=by
 rw[←h]; exact u_ext (AcW z.toNat_lt).symm
def Ww (y a b:UInt64):UInt64:=ofN ((a.toNat*b.toNat)%y.toNat)
theorem QK {y:UInt64}(h:Dv y)(a b:UInt64):(Ww y a b).toNat=(a.toNat*b.toNat)%y.toNat:=UZ _ h.pos
theorem Lc {y:UInt64}(h:Dv y)(a b:UInt64):C2 y a b=some (Ww y a b):=by
 obtain⟨z,e1,e2⟩:=AhJ h (phi a b) (a*b);unfold C2;rw[U3,Aa,e1,Aa];rw[UR,UInt64.toNat_mul,Nat.div_add_mod']at e2;rw[Zk e2]; rfl
def addM (y a b:UInt64):UInt64:=ofN ((a.toNat+b.toNat)%y.toNat)
theorem Z3 {y:UInt64}(h:Dv y)(a b:UInt64):(addM y a b).toNat=(a.toNat+b.toNat)%y.toNat:=UZ _ h.pos
theorem Xa (a b:UInt64):(J5 a b).toNat*18446744073709551616+(a+b).toNat=a.toNat+b.toNat:=by
 have:=a.toNat_lt;have:=b.toNat_lt;unfold J5;rw[UInt64.toNat_ofNat',UInt64.toNat_add];omega
theorem Aap {y:UInt64}(h:Dv y)(a b:UInt64):EE y a b=some (addM y a b):=by
 have hpos:=h.pos;have hyne:y≠0:=fun e=>by rw[e]at hpos; simp at hpos
 obtain⟨z,e1,e2⟩:=AhJ h (J5 (a%y) (b%y)) ((a%y)+(b%y));unfold EE;rw[AlH hyne,AlH hyne,e1,Aa];rw[Xa,UInt64.toNat_mod,UInt64.toNat_mod,←Nat.add_mod]at e2;rw[Zk e2]; rfl
theorem AjW {P d r c sm t:Nat}(hP:d*18446744073709551616+r=P)(hr:r<18446744073709551616)(hd:d<2305843009213693952)(hc:c*18446744073709551616+sm=r+t)(ht:t<18446744073709551616):
  ((d+c)%18446744073709551616)*18446744073709551616+sm=P+t:=by
 have h1:c≤1:=by omega
 rw[Amu (show d+c<18446744073709551616 by omega),Nat.add_mul,←hP,AmP,hc,AmP]
def AhT (s:UInt64×UInt64)(y:UInt64):UInt64:=ofN ((s.1.toNat*2305843009213693952+s.2.toNat)%y.toNat)
theorem Zl {y:UInt64}(h:Dv y)(s:UInt64×UInt64):(AhT s y).toNat=(s.1.toNat*2305843009213693952+s.2.toNat)%y.toNat:=UZ _ h.pos
theorem AhS {y:UInt64}(h:Dv y)(s:UInt64×UInt64):Gx s y=some (AhT s y):=by
 have hpos:=h.pos;have hyne:y≠0:=fun e=>by rw[e]at hpos; simp at hpos
 obtain⟨t,h1,h2,h3,h4⟩:=h;have hp:(phi s.1 2305843009213693952).toNat=s.1.toNat*2305843009213693952/18446744073709551616:=UR _ _;have hl:(s.1*2305843009213693952).toNat=s.1.toNat*2305843009213693952%18446744073709551616:=UInt64.toNat_mul _ _;have hs1:=s.1.toNat_lt;have hs2:=s.2.toNat_lt;have hc:=Xa (s.1*2305843009213693952) s.2;have Aig:(phi s.1 2305843009213693952+J5 (s.1*2305843009213693952) s.2).toNat*18446744073709551616+(s.1*2305843009213693952+s.2).toNat=s.1.toNat*2305843009213693952+s.2.toNat:=by
  rw[UInt64.toNat_add,hp];rw[hl]at hc;have hdl:s.1.toNat*2305843009213693952/18446744073709551616<2305843009213693952:=by
   rw[Nat.div_lt_iff_lt_mul (by decide),AmG (2305843009213693952)];exact Nat.mul_lt_mul_of_pos_right hs1 (by decide)
  exact AjW (Nat.div_add_mod' _ _) (AmF _ (by decide)) hdl hc hs2
 have hm:((phi s.1 2305843009213693952+J5 (s.1*2305843009213693952) s.2)%y).toNat=(phi s.1 2305843009213693952+J5 (s.1*2305843009213693952) s.2).toNat%y.toNat:=UInt64.toNat_mod _ _;obtain⟨q,r,e1,e2⟩:=ZN (hi:=(phi s.1 2305843009213693952+J5 (s.1*2305843009213693952) s.2)%y) (lo:=s.1*2305843009213693952+s.2) h1 h2 h3 h4 (by rw[hm]; exact AmF _ hpos);unfold Gx;rw[AlG (by rw[Amp]; omega),U3,Aa,AlH hyne];dsimp only;rw[e1,Aa];rw[hm,Nat.add_mod,Nat.mod_mul_mod,←Nat.add_mod,Aig]at e2;rw[Zk e2]; rfl
theorem Afj:((List.range 256).all fun n=>decide (n<2^ (str_0.data.toList.getD n 0).toNat)&&decide ((str_0.data.toList.getD n 0).toNat≤8))=true:=by kernel_rfl
theorem Afi:str_0.data.toList.length=256:=by kernel_rfl
theorem tabL (x:UInt64)(hx:x.toNat<256): ∃b,idx str_0.data.toList ((toB (x.toNat:Int)).toNat:Int)=some b∧x.toNat<2^b.toNat∧b.toNat≤8:=by
 have hb:(toB (x.toNat:Int)).toNat=x.toNat:=by unfold toB; rw[UInt8.toNat_ofNat']; omega
 have h:=AlW.1 Afj x.toNat (List.mem_range.2 hx);rw[AlD,AlL,AlL]at h;have hlt:x.toNat<str_0.data.toList.length:=by rw[Afi]; exact hx
 rw[List.getD_eq_getElem?_getD,Amn hlt,Option.getD_some]at h;rw[hb];exact⟨str_0.data.toList[x.toNat],Di (by simp),h.1,h.2⟩
theorem Agi (a:UInt64): ∃L:Nat,Ga a=some (L:Int)∧a.toNat<2^L∧L≤64:=by
 have ha:=a.toNat_lt;have h1: ∃(x:UInt64) (n:Nat),(if(decide ((a.toNat:Int)≥4294967296))=true then some ((Ev a 32),(32:Int))else some (a,0))=some (x,(n:Int))∧n≤32∧x.toNat<4294967296∧a.toNat<(x.toNat+1)*2^n:=by
  split
  ·refine⟨Ev a 32,32,rfl,by omega,?_,?_⟩<;>rw[DZ a 32 (by omega)]<;>omega
  ·rename_i h; rw[AlL]at h; exact⟨a,0,rfl,by omega,by omega,by omega⟩
 obtain⟨x,n,e1,n1,hx,hn⟩:=h1;have h2: ∃(y:UInt64) (k:Nat),(if(decide ((x.toNat:Int)≥65536))=true then some ((Ev x 16),(w64 ((n:Int)+16)))else some (x,(n:Int)))=some (y,(k:Int))∧k≤48∧y.toNat<65536∧a.toNat<(y.toNat+1)*2^k:=by
  split
  ·refine⟨Ev x 16,n+16,by rw[Bn (by omega) (by omega)]; rfl,by omega,?_,?_⟩
   ·rw[DZ x 16 (by omega)]; omega
   ·rw[DZ x 16 (by omega),Nat.pow_add];refine AmL hn ?_;have:x.toNat+1≤(x.toNat/2^16+1)*2^16:=by omega
    calc (x.toNat+1)*2^n≤((x.toNat/2^16+1)*2^16)*2^n:=Nat.mul_le_mul_right _ this
     _=(x.toNat/2^16+1)*(2^n*2^16):=by rw[Nat.mul_assoc,AmG (2^16)]
  ·rename_i h; rw[AlL]at h; exact⟨x,n,rfl,by omega,by omega,hn⟩
 obtain⟨y,k,e2,k1,hy,hk⟩:=h2;have h3: ∃(z:UInt64) (j:Nat),(if(decide ((y.toNat:Int)≥256))=true then some ((Ev y 8),(w64 ((k:Int)+8)))else some (y,(k:Int)))=some (z,(j:Int))∧j≤56∧z.toNat<256∧a.toNat<(z.toNat+1)*2^j:=by
  split
  ·refine⟨Ev y 8,k+8,by rw[Bn (by omega) (by omega)]; rfl,by omega,?_,?_⟩
   ·rw[DZ y 8 (by omega)]; omega
   ·rw[DZ y 8 (by omega),Nat.pow_add];refine AmL hk ?_;have:y.toNat+1≤(y.toNat/2^8+1)*2^8:=by omega
    calc (y.toNat+1)*2^k≤((y.toNat/2^8+1)*2^8)*2^k:=Nat.mul_le_mul_right _ this
     _=(y.toNat/2^8+1)*(2^k*2^8):=by rw[Nat.mul_assoc,AmG (2^8)]
  ·rename_i h; rw[AlL]at h; exact⟨y,k,rfl,by omega,by omega,hk⟩
 obtain⟨z,j,e3,j1,hz,hj⟩:=h3;obtain⟨b,e4,b1,b2⟩:=tabL z hz;refine⟨j+b.toNat,?_,?_,by omega⟩
 ·unfold Ga;rw[e1,Aa];dsimp only;rw[e2,Aa];dsimp only;rw[e3,Aa,e4,Aa,Bc,Bn (n:=(b.toNat:Int)) (by omega) (by omega),Bn (by omega) (by omega)]; rfl
 ·refine AmL hj ?_;rw[AmM j,Nat.pow_add];exact Nat.mul_le_mul_right _ b1
def SB (y a n:UInt64):UInt64:=ofN (a.toNat^n.toNat%y.toNat)
theorem UQ {y:UInt64}(h:Dv y)(a n:UInt64):(SB y a n).toNat=a.toNat^n.toNat%y.toNat:=UZ _ h.pos
theorem AlA (n j:Nat):n&&&2^j=(n.testBit j).toNat*2^j:=by
 apply Nat.eq_of_testBit_eq;intro i;rw[Nat.testBit_and,Nat.testBit_two_pow];by_cases h:j=i
 ·subst h;cases hb:n.testBit j<;>simp[hb,Nat.testBit_two_pow_self]
 ·cases hb:n.testBit j<;>simp[h,Nat.testBit_two_pow]
theorem bit_eq (n:UInt64){j:Nat}(hj:j≤63):(((n&&&(K8 1 j)).toNat:Int) !=0)=decide (n.toNat/2^j%2=1):=by
 have h1:(K8 1 j).toNat=2^j:=by
  rw[QG hj,show(1:UInt64).toNat=1 from rfl,Nat.one_mul];exact Amu (AmA (Nat.pow_le_pow_right (by omega) hj) (by decide))
 have h2:(n&&&(K8 1 j)).toNat=(n.toNat.testBit j).toNat*2^j:=by rw[UInt64.toNat_and,h1,AlA]
 rw[h2];have hp:=Nat.two_pow_pos j;rw[Nat.testBit_eq_decide_div_mod_eq];by_cases hb:n.toNat/2^j%2=1
 ·simp only[hb,decide_true,Bool.toNat_true,Nat.one_mul];rw[bne_iff_ne]; omega
 ·simp only[hb,decide_false,Bool.toNat_false,Nat.zero_mul]; rfl
theorem pow_it (a n:UInt64): ∀(j:Nat) (out:UInt64),j≤64→out.toNat=a.toNat^ (n.toNat/2^j)% (2305843009213691579:UInt64).toNat→
  ∃r,iter (Dj (fun(s:UInt64) (b0:Bool)=>Ab (CW a b0 s) fun z=>some (true,z)) n) (j+1) ((j:Int)-1,out)=some (.inl r)∧r.toNat=a.toNat^n.toNat% (2305843009213691579:UInt64).toNat:=by
 have h:=dvQ;unfold CW;generalize (2305843009213691579:UInt64)=y at*;intro j;induction j with
 |zero=>
  intro out _ ho;refine⟨out,CO ?_,by rw[ho]; simp⟩;unfold Dj;rw[AlG (by simp)]
 |succ j ih=>
  intro out hj ho;have hw:w64 ((((j+1:Nat):Int)-1)-1)=(j:Int)-1:=by rw[Bn (by omega) (by omega)]; omega
  have hk:(((j+1:Nat):Int)-1).toNat=j:=by omega
  have hbit:=bit_eq n (j:=j) (by omega);have hdiv:n.toNat/2^ (j+1)=n.toNat/2^j/2:=by rw[AmK,Nat.div_div_eq_div_mul]
  have hsq:(Ww y out out).toNat=a.toNat^ (2*(n.toNat/2^ (j+1)))%y.toNat:=by
   rw[QK h,ho,←Nat.mul_mod,←Nat.pow_add,←Nat.two_mul]
  by_cases hb:n.toNat/2^j%2=1
  ·have hn:(Ww y (Ww y out out) a).toNat=a.toNat^ (n.toNat/2^j)%y.toNat:=by
    rw[QK h,hsq,Nat.mod_mul_mod,←AmK];congr 2; omega
   obtain⟨r,r1,r2⟩:=ih (Ww y (Ww y out out) a) (by omega) hn;refine⟨r,?_,r2⟩;rw[Cd (s':=((j:Int)-1,Ww y (Ww y out out) a)),r1];unfold Dj;dsimp only;rw[AlH (by rw[AlL]; omega),AlH (by omega),hk,hbit];simp only[Lc h,Aa,hb,decide_true,if_true,AmB,Bool.false_eq_true,if_false,hw]
  ·have hn:(Ww y out out).toNat=a.toNat^ (n.toNat/2^j)%y.toNat:=by
    rw[hsq]; congr 2; omega
   obtain⟨r,r1,r2⟩:=ih (Ww y out out) (by omega) hn;refine⟨r,?_,r2⟩;rw[Cd (s':=((j:Int)-1,Ww y out out)),r1];unfold Dj;dsimp only;rw[AlH (by rw[AlL]; omega),AlH (by omega),hk,hbit];simp only[Lc h,Aa,hb,decide_false,AmB,Bool.false_eq_true,if_false,hw]
theorem Rz (a n:UInt64):Dt a n=some (SB 2305843009213691579 a n):=by
 unfold Dt;obtain⟨L,e1,e2,e3⟩:=Agi n;have hw:w64 ((L:Int)-1)=(L:Int)-1:=Bn (by omega) (by omega);obtain⟨r,r1,r2⟩:=pow_it a n L 1 e3 (by rw[Nat.div_eq_of_lt e2]; simp);have r1':=Hm _ r1 (by omega);unfold EW Iq;rw[show JZ n=some n from rfl,Aa,e1,Aa,hw,r1',Aa];simp only[Aa];rw[Zk r2]; rfl
theorem VB (n:UInt64):Ea n=some (SB 2305843009213691579 4 n):=by
 unfold Ea;rw[Rz,Aa]
theorem Ald: ∀(n:Nat) (a l:Int),0≤a→a<2^n→∃r,iter Bf (n+1) (a,l)=some r∧0≤r.1∧r.1≤a:=by
 intro n;induction n with
 |zero=>
  intro a l h0 h1;have:a=0:=by have:(2:Int)^0=1:=rfl; omega
  subst this;refine⟨(0,l),CO ?_,by simp,by simp⟩;simp only[Bf];rw[AlG (by simp)]
 |succ n ih=>
  intro a l h0 h1;by_cases hc:((HZ a 1==0)&&(a !=0))=true
  ·have h2:a/2<2^n:=by
    have:(2:Int)^ (n+1)=2*2^n:=by rw[Int.pow_succ]; omega
    omega
   obtain⟨r,hr,e1,e2⟩:=ih (a/2) (BA l 1) (by omega) h2;refine⟨r,?_,e1,by omega⟩;rw[Cd (s':=(a/2,BA l 1))]
   ·exact hr
   ·simp only[Bf,hc,if_true,AbT h0]
  ·refine⟨(a,l),CO ?_,h0,by simp⟩;simp only[Bf];rw[AlG hc]
theorem Ale (i:Int)(x:UInt64×UInt64)(s:Int×Int×UInt64×UInt64)(h0:0≤s.1)(h1:s.1≤256):
  ∃r,Bg i x s=some r∧0≤r.1∧r.1≤256:=by
 obtain⟨a,l,u,v⟩:=s;simp only at h0 h1;unfold Bg;by_cases hc:((HZ a 1==0)&&(a !=l))=true
 ·refine⟨(BA a 1,BA l 1,Kf (u,v) x),?_,by rw[AbT h0]; simp; omega,by rw[AbT h0]; simp; omega⟩;simp only[hc,if_true,G4,PF,Aa]
 ·obtain⟨q,hq,q0,q1⟩:=Ald 9 a l h0 (by omega);have hq':=Hm _ hq (by omega);refine⟨(BA q.1 1,BA q.2 1,Kf x (u,v)),?_,by rw[AbT q0]; simp; omega,by rw[AbT q0]; simp; omega⟩;simp only[G5,PF,Aa,hq'];rw[AlG hc];rfl
theorem Yy: ∀(l:List (UInt64×UInt64)) (i:Int) (s:Int×Int×UInt64×UInt64),0≤s.1→s.1≤256→∃r,DP Bg l i s=some r:=by
 intro l;induction l with
 |nil=>intro i s _ _; exact⟨s,rfl⟩
 |cons x l ih=>
  intro i s h0 h1;obtain⟨r,hr,r0,r1⟩:=Ale i x s h0 h1;obtain⟨t,ht⟩:=ih (i+1) r r0 r1;exact⟨t,by simp only[DP,hr,Aa,ht]⟩
theorem AaH (leaf:UInt64×UInt64)(a s:Int)(p:List (UInt64×UInt64))(root:UInt64×UInt64): ∃e,C6 leaf a s p root=some e:=by
 unfold C6;split
 ·exact⟨1,rfl⟩
 ·rename_i hc;have hn:0≤a∧a<s∧s≤256:=by simp at hc; omega
  obtain⟨r,hr⟩:=AbQ a s;rw[hr,Aa];split
  ·exact⟨80,rfl⟩
  ·obtain⟨t,ht⟩:=Yy p 0 (a,w64 (s-1),leaf.1,leaf.2) hn.1 (by show a≤256; omega);unfold C9;rw[ht,Aa,Aa];split
   ·exact⟨71,rfl⟩
   ·exact⟨0,rfl⟩
theorem Ahk:((List.range 8193).all fun n=>HZ (n:Int) 7==((n%8:Nat):Int))=true:=by kernel_rfl
theorem and7 {n:Nat}(h:n≤8192):HZ (n:Int) 7=((n%8:Nat):Int):=by
 have:=AlW.1 Ahk n (List.mem_range.2 (by omega));simpa using this
theorem shr3 {n:Nat}:BA (n:Int) 3=((n/8:Nat):Int):=by
 show(n:Int).fdiv (2^ (min 3 64))=_;rw[Int.fdiv_eq_ediv_of_nonneg _ (by decide)]; rfl
structure SvOk (s:g_api_Sieve):Prop where
 m: ∃m:Nat,1≤m∧m≤1024∧s.Bits=((8*m:Nat):Int)∧s.B.length=m
 h1:1≤s.Hashes
 h2:s.Hashes≤8
theorem Acm (n:Int):D4 n=some (decide (0≤n)&&decide (n≤1099511627776)):=rfl
theorem Ab4 (s:g_api_Sieve): ∃e,Gk s=some e∧(e=0→SvOk s):=by
 unfold Gk;by_cases h1:s.Bits<8
 ·refine⟨1,?_,fun h=>by cases h⟩;rw[AlH (AlY h1),Aa,AlH (AlY h1)]
 rw[AlG (show¬(decide (s.Bits<8)=true)from by simpa using h1)];by_cases h2:s.Bits>8192
 ·refine⟨1,?_,fun h=>by cases h⟩;rw[AlH (AlY h2),Aa,AlH (AlY h2)]
 rw[AlG (show¬(decide (s.Bits>8192)=true)from by simpa using h2),Aa];obtain⟨n,hn⟩: ∃n:Nat,s.Bits=(n:Int):=⟨s.Bits.toNat,by omega⟩;by_cases h3:(HZ s.Bits 7 !=0)=true
 ·exact⟨1,AlH h3,fun h=>by cases h⟩
 rw[AlG h3];have h3':n%8=0:=by
  rw[hn,and7 (by omega)]at h3;simp at h3; omega
 by_cases h4:s.Hashes<1
 ·refine⟨1,?_,fun h=>by cases h⟩;rw[AlH (AlY h4),Aa,AlH (AlY h4)]
 rw[AlG (show¬(decide (s.Hashes<1)=true)from by simpa using h4)];by_cases h5:s.Hashes>8
 ·refine⟨1,?_,fun h=>by cases h⟩;rw[AlH (AlY h5),Aa,AlH (AlY h5)]
 rw[AlG (show¬(decide (s.Hashes>8)=true)from by simpa using h5),Acm,Aa];cases hr:(decide (0≤s.Salt)&&decide (s.Salt≤1099511627776))with
 |false=>exact⟨1,rfl,fun h=>by cases h⟩
 |true=>
  rw[AlG (by decide),Bc,Aa];by_cases h6:((s.B.length:Int) !=BA s.Bits 3)=true
  ·exact⟨1,AlH h6,fun h=>by cases h⟩
  ·refine⟨0,AlG h6,fun _=>⟨⟨n/8,by omega,by omega,by rw[hn]; omega,?_⟩,by omega,by omega⟩⟩;rw[hn,shr3]at h6;simp at h6; omega
theorem Afr (d l:Int): ∃x,G0 d l=some x:=⟨_,rfl⟩
theorem MZ {α:Type} [Inhabited α](c:Bool){o:Option α}(h: ∃x,o=some x): ∃y,gu c o=some y:=by
 obtain⟨x,rfl⟩:=h;cases c<;>exact⟨_,rfl⟩
theorem TB (c:g_api_Cascade): ∀(k i:Nat),i+k=c.Levels.length→∃r,BV (Ee c) k (i:Int) ()=some r
 |0,i,_=>⟨_,rfl⟩
 |k+1,i,hi=>by
  obtain⟨x,hx⟩: ∃x,c.Levels[i]? =some x:=⟨_,Amn (by omega)⟩;show∃r,Ab (Ee c (i:Int) ()) _=_;unfold Ee;rw[Di hx,Aa];obtain⟨a,ha⟩:=MZ (!(x.Hashes !=3)) (Afr c.Day (i:Int));rw[ha,Aa];obtain⟨e,he,_⟩:=Ab4 x;obtain⟨b,hb⟩:=MZ (!((x.Hashes !=3)||(x.Salt !=a))) ⟨e,he⟩;rw[hb,Aa];split
  ·exact⟨_,rfl⟩
  ·exact TB c k (i+1) (by omega)
theorem Aa7 (c:g_api_Cascade): ∃e,AN c=some e:=by
 unfold AN;split
 ·exact⟨_,rfl⟩
 ·obtain⟨b,hb⟩: ∃b,F9 c.Day=some b:=⟨_,rfl⟩;rw[hb,Aa];split
  ·exact⟨_,rfl⟩
  ·obtain⟨r,hr⟩:=TB c c.Levels.length 0 (by omega);rw[show BV (Ee c) c.Levels.length 0 ()=some r from hr,Aa];cases r<;>exact⟨_,rfl⟩
theorem Agp {σ τ:Type}{step:σ→Option (σ⊕τ)}(st:Nat→σ){t:τ}: ∀(j k n:Nat),(∀i,i<j→step (st (k+i))=some (.inl (st (k+i+1))))→step (st (k+j))=some (.inr t)→j<n→iter step n (st k)=some t:=by
 intro j;induction j with
 |zero=>
  intro k n _ h hn;obtain⟨n,rfl⟩: ∃q,n=q+1:=⟨n-1,by omega⟩;have h:step (st k)=some (.inr t):=h;simp only[iter,h,Aa]
 |succ j ih=>
  intro k n hs h hn;obtain⟨n,rfl⟩: ∃q,n=q+1:=⟨n-1,by omega⟩;have h0:step (st k)=some (.inl (st (k+1))):=hs 0 (by omega);simp only[iter,h0,Aa];refine ih (k+1) n (fun i hi=> ?_) ?_ (by omega)
  ·have:=hs (i+1) (by omega);rw[show k+(i+1)=k+1+i from by omega]at this;exact this
  ·rw[show k+(j+1)=k+1+j from by omega]at h;exact h
def sgn (a b:Int):Int:=if a<b then-1 else if b<a then 1 else 0
theorem Aa1 (a b:Int):Dy a b=some (sgn a b):=by
 unfold Dy HW sgn;by_cases h1:a<b
 ·simp[Ab,bnd,h1]
 ·by_cases h2:b<a
  ·simp[Ab,bnd,h1,h2]
  ·simp[Ab,bnd,h1,h2]
abbrev S8:Type:=Bool×Int×Int×UInt64×UInt64×Int×UInt64×UInt64
def later (x h:g_api_Head):Prop:=h.Size<x.Size∨(h.Size=x.Size∧h.At<x.At)
def ZD (a b:Int):Int:=if a=0 then b else a
theorem Ajy (a b c d:Int):Kz [a,b,c,d]=some (ZD a (ZD b (ZD c d))):=by
 unfold Kz MV ZD;by_cases h1:a=0
 ·by_cases h2:b=0
  ·by_cases h3:c=0
   ·by_cases h4:d=0<;>simp[DK,F4,Ab,h1,h2,h3,h4]
   ·simp[DK,F4,Ab,h1,h2,h3]
  ·simp[DK,F4,Ab,h1,h2]
 ·simp[DK,F4,Ab,h1]
theorem Vs (a b:UInt64):Ew a b=some (sgn (a.toNat:Int) (b.toNat:Int)):=by
 unfold Ew FF sgn;by_cases h1:(a.toNat:Int)<(b.toNat:Int)
 ·simp only[Ab,bnd,bne_self_eq_false,Bool.false_eq_true,if_false,h1,decide_true,if_true]
 ·by_cases h2:(b.toNat:Int)<(a.toNat:Int)
  ·simp only[Ab,bnd,bne_self_eq_false,Bool.false_eq_true,if_false,h1,h2,decide_true,decide_false,gt_iff_lt,if_true]
  ·simp only[Ab,bnd,bne_self_eq_false,Bool.false_eq_true,if_false,h1,h2,decide_true,decide_false,gt_iff_lt,if_true]
theorem Aa0 (a b c d:UInt64):Ci [a,b] [c,d]=some (ZD (sgn (a.toNat:Int) (c.toNat:Int)) (sgn (b.toNat:Int) (d.toNat:Int))):=by
 have i0:idx [a,b] (0:Int)=some a:=rfl;have i1:idx [a,b] (1:Int)=some b:=rfl;have j0:idx [c,d] (0:Int)=some c:=rfl;have j1:idx [c,d] (1:Int)=some d:=rfl;unfold Ci ZD;by_cases h1:sgn (a.toNat:Int) (c.toNat:Int)=0
 ·by_cases h2:sgn (b.toNat:Int) (d.toNat:Int)=0
  ·simp[BV,BX,i0,i1,j0,j1,Vs,Ab,h1,h2]
  ·simp[BV,BX,i0,i1,j0,j1,Vs,Ab,h1,h2]
 ·simp[BV,BX,i0,i1,j0,j1,Vs,Ab,h1]
def UU (a b:g_api_Head):Int:=ZD (sgn a.Log b.Log) (ZD (sgn a.Size b.Size) (ZD (ZD (sgn (a.Root.1.toNat:Int) (b.Root.1.toNat:Int)) (sgn (a.Root.2.toNat:Int) (b.Root.2.toNat:Int))) (sgn a.At b.At)))
theorem Abe (a b:g_api_Head):D8 a b=some (UU a b):=by
 simp only[D8,Aa1,Aa0,Aa,Ajy,UU]
theorem US (a b:g_api_Head):Fi a b=some (UU a b):=by
 simp only[Fi,Abe,Aa]
theorem AgQ {a b:Int}:ZD a b<0↔a<0∨(a=0∧b<0):=by unfold ZD; split<;>omega
theorem WO {a b:Int}:ZD a b=0↔a=0∧b=0:=by unfold ZD; split<;>omega
theorem Ajd {a b:Int}:sgn a b<0↔a<b:=by unfold sgn; split<;>(try split)<;>omega
theorem Y0 {a b:Int}:sgn a b=0↔a=b:=by unfold sgn; split<;>(try split)<;>omega
def ltH (a b:g_api_Head):Prop:=a.Log<b.Log∨(a.Log=b.Log∧(a.Size<b.Size∨(a.Size=b.Size∧(((a.Root.1.toNat:Int)<(b.Root.1.toNat:Int)∨((a.Root.1.toNat:Int)=(b.Root.1.toNat:Int)∧(a.Root.2.toNat:Int)<(b.Root.2.toNat:Int)))∨(((a.Root.1.toNat:Int)=(b.Root.1.toNat:Int)∧(a.Root.2.toNat:Int)=(b.Root.2.toNat:Int))∧a.At<b.At)))))
def eqH (a b:g_api_Head):Prop:=a.Log=b.Log∧a.Size=b.Size∧((a.Root.1.toNat:Int)=(b.Root.1.toNat:Int)∧(a.Root.2.toNat:Int)=(b.Root.2.toNat:Int))∧a.At=b.At
theorem Nt {a b:g_api_Head}:UU a b<0↔ltH a b:=by unfold UU ltH; simp only[AgQ,WO,Ajd,Y0]
theorem RF {a b:g_api_Head}:UU a b=0↔eqH a b:=by unfold UU eqH; simp only[WO,Y0]
theorem RO {a b c:g_api_Head}(h:ltH a b)(k:ltH b c):ltH a c:=by unfold ltH at*; omega
theorem Aj8 (a b:g_api_Head):ltH a b∨eqH a b∨ltH b a:=by unfold ltH eqH; omega
theorem AgZ (a:g_api_Head):eqH a a:=⟨rfl,rfl,⟨rfl,rfl⟩,rfl⟩
theorem ltH_eq {a b c:g_api_Head}(h:ltH a b)(k:eqH b c):ltH a c:=by unfold ltH eqH at*; omega
theorem RY {α:Type}{l:List α}{i:Nat}(h:i<l.length):idx l (i:Int)=some l[i]:=Di (Amn h)
theorem Afb {i n:Nat}(h:i<n)(hn:n≤1099511627776):w64 ((i:Int)+1)=((i+1:Nat):Int):=by rw[Bn (by omega) (by omega)]; omega
def chB:List g_api_Head→Bool
 |a::b::l=>decide (UU a b<0)&&chB (b::l)
 |_=>true
theorem AiU {i n:Nat}(h:i<n)(h1:1≤i)(hn:n≤1099511627776):w64 ((i:Int)-1)=((i-1:Nat):Int):=by rw[Bn (by omega) (by omega)]; omega
theorem drop2 {l:List g_api_Head}{i:Nat}(h1:1≤i)(h:i<l.length):l.drop (i-1)=l[i-1]::l[i]::l.drop (i+1):=by
 rw[List.drop_eq_getElem_cons (show i-1<l.length by omega)];congr 1;rw[show i-1+1=i from by omega,List.drop_eq_getElem_cons h]
theorem Ahc {l:List g_api_Head}{i:Nat}(h1:1≤i)(h:i<l.length):chB (l.drop (i-1))=(decide (UU l[i-1] l[i]<0)&&chB (l.drop i)):=by
 rw[drop2 h1 h,chB,List.drop_eq_getElem_cons h]
theorem Ali {l:List g_api_Head}{i:Nat}(h:l.length≤i):chB (l.drop (i-1))=true:=by
 have hl:(l.drop (i-1)).length≤1:=by rw[Amg]; omega
 match hd:l.drop (i-1),hl with
 | [],_=>rfl
 | [a],_=>rfl
 |a::b::l',hl=>simp at hl
theorem Zj {a0:g_api_Pool}(hn:a0.L.length≤1099511627776){i:Nat}(h1:1≤i)(hi:i<a0.L.length):C1 a0 (i:Int) ()=some (if UU a0.L[i-1] a0.L[i]<0 then .inl ()else .inr false):=by
 unfold C1;have hp:decide ((i:Int)>0)=true:=by simp; omega
 rw[AiU hi h1 hn,hp,RY (show i-1<a0.L.length by omega),RY hi];simp only[gu,cond_true,Aa,US,Ama];by_cases h:UU a0.L[i-1] a0.L[i]<0
 ·rw[AlG (by simp; omega),AlH h]
 ·rw[AlH (by simp; omega),AlG h]
theorem AfR {a0:g_api_Pool}(hn:a0.L.length≤1099511627776): ∀(k i:Nat),1≤i→a0.L.length=i+k→
  BV (C1 a0) k (i:Int) ()=some (if chB (a0.L.drop (i-1))=true then .inl ()else .inr false):=by
 intro k;induction k with
 |zero=>intro i h1 hk; rw[AlH (Ali (by omega))]; rfl
 |succ k ih=>
  intro i h1 hk;have hi:i<a0.L.length:=by omega
  rw[Ahc h1 hi];by_cases h:UU a0.L[i-1] a0.L[i]<0
  ·simp only[BV,Zj hn h1 hi,AlH h,Aa,h,decide_true,Ama];have:=ih (i+1) (by omega) (by omega);rw[Nat.add_sub_cancel]at this;exact this
  ·simp only[BV,Zj hn h1 hi,AlG h,Aa,h,decide_false,AmI];rfl
theorem AaF {a0:g_api_Pool}(hn:a0.L.length≤1099511627776):G6 a0=some (chB a0.L):=by
 unfold G6;cases hl:a0.L.length with
 |zero=>
  have:a0.L=[]:=List.eq_nil_of_length_eq_zero hl;rw[this]; rfl
 |succ k=>
  have h0:C1 a0 0 ()=some (.inl ()):=by
   unfold C1; simp[gu,Ab]
  simp only[BV,h0,Aa];have:=AfR hn k 1 (by omega) (by omega);rw[show((1:Nat):Int)=0+1 from rfl,show 1-1=0 from rfl,List.drop_zero]at this;rw[this];cases chB a0.L<;>rfl
theorem XA: ∀(l:List g_api_Head),chB l=true↔l.Pairwise ltH
 | []=>by simp[chB]
 | [a]=>by simp[chB]
 |a::b::l=>by
  rw[chB,AlD,AlL,Nt,XA (b::l),List.pairwise_cons (a:=a)];constructor
  ·rintro⟨h,k⟩;refine⟨fun x hx=> ?_,k⟩;rcases Al6.1 hx with rfl|hx
   ·exact h
   ·exact RO h ((List.pairwise_cons.1 k).1 x hx)
  ·rintro⟨h,k⟩; exact⟨h b (by simp),k⟩
def hasH (l:List g_api_Head)(z:g_api_Head):Prop:= ∃x∈l,eqH x z
theorem AgC {l:List g_api_Head}{z:g_api_Head}(h:z∈l):hasH l z:=⟨z,h,AgZ z⟩
def Oi:List g_api_Head→g_api_Head→List g_api_Head
 | [],h=> [h]
 |x::l,h=>if UU x h<0 then x::Oi l h else h::x::l
theorem Oh {h z:g_api_Head}: ∀{l:List g_api_Head},z∈Oi l h↔z=h∨z∈l
 | []=>by simp[Oi]
 |x::l=>by
  rw[Oi];split
  ·rw[Al6,Oh,Al6];constructor
   ·rintro(q|q|q)
    ·exact .inr (.inl q)
    ·exact .inl q
    ·exact .inr (.inr q)
   ·rintro(q|q|q)
    ·exact .inr (.inl q)
    ·exact .inl q
    ·exact .inr (.inr q)
  ·rw[Al6]
theorem YO {h:g_api_Head}: ∀{l:List g_api_Head},l.Pairwise ltH→¬hasH l h→(Oi l h).Pairwise ltH
 | [],_,_=>by simp[Oi]
 |x::l,hl,hn=>by
  have hxl:=(List.pairwise_cons.1 hl).1;rw[Oi];split
  ·rename_i q;have q:=Nt.1 q;refine List.pairwise_cons.2 ⟨fun z hz=> ?_,YO (List.pairwise_cons.1 hl).2 (fun⟨w,hw,he⟩=>hn ⟨w,Al4 _ hw,he⟩)⟩;rcases Oh.1 hz with rfl|hz
   ·exact q
   ·exact hxl z hz
  ·rename_i q;have hhx:ltH h x:=by
    rcases Aj8 x h with r|r|r
    ·exact absurd (Nt.2 r) q
    ·exact absurd ⟨x,by simp,r⟩ hn
    ·exact r
   refine List.pairwise_cons.2 ⟨fun z hz=> ?_,hl⟩;rcases Al6.1 hz with rfl|hz
   ·exact hhx
   ·exact RO hhx (hxl z hz)
theorem QE (h:g_api_Head): ∀(l:List g_api_Head),(Oi l h).length=l.length+1
 | []=>rfl
 |x::l=>by rw[Oi]; split<;>simp[QE h l]
instance eqH_dec (a b:g_api_Head):Decidable (eqH a b):=by unfold eqH; infer_instance
def AkE (l:List g_api_Head)(z:g_api_Head):Bool:=l.any fun x=>decide (eqH x z)
theorem Vi {l:List g_api_Head}{z:g_api_Head}:AkE l z=true↔hasH l z:=by simp[AkE,hasH]
theorem appL {α:Type}{b:Nat}{xs ys:List α}(h:xs.length+ys.length≤2199023255552)(hb:b≤56):app b xs ys=some (xs++ys):=by
 unfold app;have:(xs.length+ys.length)*b≤2199023255552*56:=Nat.mul_le_mul h hb;rw[AlH ⟨by omega,by omega⟩]
def Mb (h:g_api_Head):List g_api_Head→Nat
 | []=>0
 |x::l=>if UU x h<0 then Mb h l+1 else 0
theorem Aef (h:g_api_Head): ∀l:List g_api_Head,Mb h l≤l.length
 | []=>by simp[Mb]
 |x::l=>by have:=Aef h l; unfold Mb; split<;>simp<;>omega
theorem Air {h:g_api_Head}: ∀{l:List g_api_Head} (hi:Mb h l<l.length),¬UU l[Mb h l] h<0
 | [],hi=>by simp at hi
 |x::l,hi=>by
  by_cases c:UU x h<0
  ·have e:Mb h (x::l)=Mb h l+1:=by rw[Mb,AlH c]
   have hi':Mb h l<l.length:=by rw[e]at hi; simpa using hi
   have:=Air hi';simp only[e,List.getElem_cons_succ];exact this
  ·have e:Mb h (x::l)=0:=by rw[Mb,AlG c]
   simp only[e,List.getElem_cons_zero];exact c
theorem Tg (h:g_api_Head): ∀l:List g_api_Head,Oi l h=l.take (Mb h l)++h::l.drop (Mb h l)
 | []=>rfl
 |x::l=>by
  unfold Oi Mb;split
  ·rw[Tg h l]; simp
  ·simp
def fnd {α:Type}(p:α→Bool):List α→Nat→Option (Nat×α)
 | [],_=>none
 |x::xs,i=>if p x=true then some (i,x)else fnd p xs (i+1)
theorem ZE {α:Type}{p:α→Bool}: ∀{xs:List α} {i:Nat} {q:Nat×α},fnd p xs i=some q→∃k,q.1=i+k∧xs[k]? =some q.2∧p q.2=true
 | [],i,q,h=>by cases h
 |x::xs,i,q,h=>by
  unfold fnd at h;split at h
  ·rename_i c;cases h;exact⟨0,rfl,rfl,c⟩
  ·obtain⟨k,h1,h2,h3⟩:=ZE h;exact⟨k+1,by omega,by simpa using h2,h3⟩
theorem AkZ {α:Type}{l xs:List α}{x:α}{i:Nat}(h:l.drop i=x::xs): ∃hi:i<l.length,l[i]=x∧l.drop (i+1)=xs:=by
 have hi:i<l.length:=by
  apply Classical.byContradiction;intro q;rw[Amm (by omega)]at h;cases h
 rw[List.drop_eq_getElem_cons hi]at h;injection h with h1 h2;exact⟨hi,h1,h2⟩
theorem WY {α σ τ:Type}{body:Int→σ→Option (σ⊕τ)}{s:σ}{l:List α}(p:α→Bool)(r:Nat→τ)(hs: ∀i (hi:i<l.length),body (i:Int) s=some (if p l[i]=true then .inr (r i)else .inl s)):
  ∀(xs:List α) (i:Nat),l.drop i=xs→BV body xs.length (i:Int) s=some (match fnd p xs i with|some q=> .inr (r q.1)|none=> .inl s)
 | [],i,_=>rfl
 |x::xs,i,h=>by
  obtain⟨hi,he,hd⟩:=AkZ h;have h1:=hs i hi;rw[he]at h1;unfold fnd;simp only[AlM,BV,h1,Aa];by_cases c:p x=true
  ·simp only[AlH c]
  ·simp only[AlG c];exact WY p r hs xs (i+1) hd
def pk7 (h:g_api_Head):Int×Int×UInt64×UInt64×Int×UInt64×UInt64:=(h.Log,h.Size,h.Root.1,h.Root.2,h.At,h.Sig.E,h.Sig.S)
theorem Aeh {l:List g_api_Head}(h:l.length≤2199023255552):Bu l=some l:=by
 unfold Bu;rw[appL (by simpa using h) (by decide),Aa,Amc]
theorem Akp {u v:Int}{q:Nat}(hs:0≤u∧v≤0∨u≤0∧0≤v):(u-(q:Int)*v).natAbs=u.natAbs+q*v.natAbs∧((q:Int)*v).natAbs=q*v.natAbs∧(0≤v∧u-(q:Int)*v≤0∨v≤0∧0≤u-(q:Int)*v):=by
 have hqv:((q:Int)*v).natAbs=q*v.natAbs:=by rw[Int.natAbs_mul,Int.natAbs_natCast]
 have h1:0≤v→0≤(q:Int)*v:=fun h=>Int.mul_nonneg (Ams q) h;have h2:v≤0→(q:Int)*v≤0:=fun h=>Int.mul_nonpos_of_nonneg_of_nonpos (Ams q) h;refine⟨?_,hqv,?_⟩
 ·rw[←hqv];generalize (q:Int)*v=z at*;omega
 ·generalize (q:Int)*v=z at*;omega
theorem inv_it (m:Nat)(a:Int)(hm2:m<2305843009213693952): ∀(n:Nat) (x y:UInt64) (u v:Int),y.toNat≤n→(∃k,u*a=x.toNat+k*m)→(∃k,v*a=y.toNat+k*m)→u.natAbs*y.toNat+v.natAbs*x.toNat=m→
  (0≤u∧v≤0∨u≤0∧0≤v)→x.toNat≤m→u.natAbs≤m→v.natAbs≤m→y.toNat≤m→
  ∃r:Int,iter CF (n+1) (x,y,u,v)=some r∧(∃k,r*a=Nat.gcd x.toNat y.toNat+k*m)∧r.natAbs≤m:=by
 intro n;induction n with
 |zero=>
  intro x y u v hy hu hv hb hs hx hul hvl hyl;have hy0:y.toNat=0:=by omega
  refine⟨u,CO ?_,by rw[hy0,Nat.gcd_zero_right]; exact hu,hul⟩;unfold CF;rw[AlG (by simp[hy0])]
 |succ n ih=>
  intro x y u v hy hu hv hb hs hx hul hvl hyl;by_cases hy0:y.toNat=0
  ·refine⟨u,CO ?_,by rw[hy0,Nat.gcd_zero_right]; exact hu,hul⟩;unfold CF;rw[AlG (by simp[hy0])]
  ·have hyne:y≠0:=fun e=>hy0 (by rw[e]; rfl);have hdm:=Nat.div_add_mod' x.toNat y.toNat;have hmod:=AmF x.toNat (show 0<y.toNat by omega);have hql:x.toNat/y.toNat≤x.toNat:=Nat.div_le_self _ _;have hmul:x.toNat/y.toNat*y.toNat≤x.toNat:=Nat.div_mul_le_self _ _;have hxl:=x.toNat_lt;have hgcd:Nat.gcd x.toNat y.toNat=Nat.gcd y.toNat (x.toNat%y.toNat):=by rw[Nat.gcd_comm,Nat.gcd_rec,Nat.gcd_comm]
   have eq1:(x/y).toNat=x.toNat/y.toNat:=UInt64.toNat_div _ _;have eq2:((x/y)*y).toNat=x.toNat/y.toNat*y.toNat:=by rw[UInt64.toNat_mul,eq1]; exact Amu (AmA hmul hxl)
   have eq3:(x-(x/y)*y).toNat=x.toNat%y.toNat:=by
    rw[UInt64.toNat_sub_of_le _ _ (by rw[UInt64.le_iff_toNat_le,eq2]; exact hmul),eq2];omega
   generalize hq:x.toNat/y.toNat=q at*;generalize hr:x.toNat%y.toNat=r at*;obtain⟨habs,hqv,hs'⟩:=Akp (q:=q) hs;have hbal:v.natAbs*r+(u-(q:Int)*v).natAbs*y.toNat=m:=by
    rw[habs,←hb,←hdm]; grind
   have hvm:(u-(q:Int)*v).natAbs≤m:=by
    have:(u-(q:Int)*v).natAbs*1≤(u-(q:Int)*v).natAbs*y.toNat:=Nat.mul_le_mul_left _ (by omega);omega
   have hqb:((q:Int)*v).natAbs≤m:=by omega
   have w1:w64 (q:Int)=(q:Int):=Bn (by omega) (by omega);have w2:w64 ((q:Int)*v)=(q:Int)*v:=by
    generalize (q:Int)*v=z at*;exact Bn (by omega) (by omega)
   have w3:w64 (u-(q:Int)*v)=u-(q:Int)*v:=by
    generalize u-(q:Int)*v=z at*;exact Bn (by omega) (by omega)
   have hdmI:(q:Int)*(y.toNat:Int)+(r:Int)=(x.toNat:Int):=by exact_mod_cast hdm
   obtain⟨t,t1,t2,t3⟩:=ih y (x-(x/y)*y) v (u-(q:Int)*v) (by rw[eq3]; omega) hv (by
    obtain⟨k,hk⟩:=hu;obtain⟨l,hl⟩:=hv;refine⟨k-q*l,?_⟩;rw[eq3];grind) (by rw[eq3]; exact hbal) (by omega) hyl hvl hvm (by rw[eq3]; omega)
   rw[eq3,←hgcd]at t2;refine⟨t,?_,t2,t3⟩;rw[Cd (s':=(y,x-(x/y)*y,v,u-(q:Int)*v)),t1];unfold CF;dsimp only;rw[AlH (by simp; omega),AlH hyne,eq1,Bc,w1,w2,w3,Bc]
theorem Aib {a:UInt64}{b:Nat}(h:a.toNat*b%GQ=1): ∃z:UInt64,F3 a=some (z,0)∧z.toNat*a.toNat%GQ=1:=by
 have hm:(a%2305843009213691579).toNat=a.toNat%GQ:=UInt64.toNat_mod _ _;have hml:=AmF a.toNat (show 0<GQ by decide);have hne:a.toNat%GQ≠0:=fun e=>by
  rw[Nat.mul_mod,e,Nat.zero_mul,Nat.zero_mod]at h; cases h
 have hg:Nat.gcd (a.toNat%GQ) GQ=1:=by
  have d1:=Nat.gcd_dvd_left (a.toNat%GQ) GQ;have d2:=Nat.gcd_dvd_right (a.toNat%GQ) GQ;have h':a.toNat%GQ*b%GQ=1:=by rw[Nat.mod_mul_mod]; exact h
  have h2:=Nat.div_add_mod (a.toNat%GQ*b) GQ;rw[h']at h2;have d3:Nat.gcd (a.toNat%GQ) GQ ∣ GQ*(a.toNat%GQ*b/GQ)+1:=by rw[h2]; exact Nat.dvd_trans d1 (Nat.dvd_mul_right _ _)
  have d4:=(Nat.dvd_add_right (Nat.dvd_trans d2 (Nat.dvd_mul_right GQ (a.toNat%GQ*b/GQ)))).1 d3;exact Nat.dvd_one.1 d4
 obtain⟨r,r1,⟨k,r2⟩,r3⟩:=inv_it GQ (a.toNat%GQ:Nat) (by decide) GQ (a%2305843009213691579) 2305843009213691579 1 0 (by decide) ⟨0,by rw[hm]; simp⟩ ⟨-1,by
  rw[show(2305843009213691579:UInt64).toNat=GQ from rfl]; simp⟩ (by rw[show(2305843009213691579:UInt64).toNat=GQ from rfl]; simp) (by omega) (by rw[hm]; omega) (by decide) (by decide) (by decide)
 rw[hm,show(2305843009213691579:UInt64).toNat=GQ from rfl,hg]at r2;have r1':=Hm _ r1 (by decide);have hw:w64 (((2305843009213691579:UInt64).toNat:Int))=(GQ:Int):=Bn (by decide) (by decide);have hz: ∃z:Nat,(if(decide (r<0))=true then bnd ((w64 (r+(w64 (((2305843009213691579:UInt64).toNat:Int)))))) fun x7=>some x7 else some r)=some (z:Int)∧z≤GQ∧∃l:Int,(z:Int)*(a.toNat%GQ:Nat)=1+l*GQ:=by
  simp only[GQ]at*;by_cases hneg:r<0
  ·rw[AlH (by simpa using hneg),hw,Bc,Bn (by omega) (by omega)];obtain⟨z,hz⟩:=Int.eq_ofNat_of_zero_le (show 0≤r+2305843009213691579 by omega);refine⟨z,by rw[←hz]; rfl,by omega,k+(a.toNat%2305843009213691579:Nat),?_⟩;rw[←hz,Int.add_mul,r2];grind
  ·rw[AlG (by simpa using hneg)];obtain⟨z,hz⟩:=Int.eq_ofNat_of_zero_le (show 0≤r by omega);exact⟨z,by rw[hz],by omega,k,by rw[←hz]; exact r2⟩
 obtain⟨z,z1,z2,l,z3⟩:=hz;have hzn:(toU (z:Int)).toNat=z:=OI (by simp only[GQ]at z2; omega);refine⟨toU (z:Int),?_,?_⟩
 ·unfold F3 D9;rw[AlH (by decide),AlG (by rw[Amp,hm]; omega),r1',Aa,Aa,z1,Aa,Aa]
 ·rw[hzn,←Nat.mul_mod_mod];have:((z*(a.toNat%GQ):Nat):Int)=1+l*GQ:=by rw[Int.natCast_mul]; exact z3
  generalize z*(a.toNat%GQ)=w at*;simp only[GQ]at*;omega
theorem Sr (n:UInt64):FX n=some (SR 8 n):=by
 unfold FX;simp[CX,JQ,idx,w64,Bc,SR]
def Ld (k:UInt64):UInt64:=SB 2305843009213691579 4 k
theorem QH (k:UInt64):(Ld k).toNat=4^k.toNat%GQ:=UQ dvQ 4 k
theorem Ru {k:UInt64}(h1:1≤k.toNat)(h2:k.toNat<GR):Gj k=some (Ld k,0):=by
 simp only[GR]at h2;unfold Gj PI;rw[Bc,Aa,AlG (by simp; omega),VB,Aa]; rfl
def chal (c p:UInt64)(msg:List UInt8):UInt64:=AhT (Abh ⟨#[115,105,103,110]⟩ [SR 8 c,SR 8 p,msg]) 1152921504606845789
theorem Yz (c p:UInt64){msg:List UInt8}(h:msg.length≤600000):Dg c p msg=some (chal c p msg):=by
 unfold Dg;rw[Sr,Aa,Sr,Aa,JL _ _ (by simp[VH,Kp]; omega),Aa,AhS dvR,Aa]; rfl
theorem Aeq (c p:UInt64)(msg:List UInt8):(chal c p msg).toNat<GR:=by
 unfold chal; rw[Zl dvR]; exact AmF _ (by decide)
def P8 (k:UInt64)(msg:List UInt8):UInt64:=AhT (Abh ⟨#[110,111,110,99,101]⟩ [SR 8 k,msg]) 1152921504606845788+1
theorem YX {t:ByteArray}{ps:List (List UInt8)}(h:t.data.toList.length+VH ps≤700000):JP t ps=some (AhT (Abh t ps) 1152921504606845788+1):=by
 unfold JP;rw[JL _ _ h,Aa,AhS dvR1,Aa]
def Pz (k:UInt64)(msg:List UInt8):UInt64:=chal (Ld (P8 k msg)) (Ld k) msg
def MD (k:UInt64)(msg:List UInt8):g_api_Sig:=⟨Pz k msg,addM 1152921504606845789 (Ww 1152921504606845789 (Pz k msg) k) (P8 k msg)⟩
theorem XE {k:UInt64}{msg:List UInt8}(h1:1≤k.toNat)(h2:k.toNat<GR)(hm:msg.length≤600000):Hi k msg=some (MD k msg,0):=by
 unfold Hi;rw[Ru h1 h2,Aa,AlG (by simp),Sr,Aa,YX (by simp[VH,Kp]; omega),Aa,VB,Aa];dsimp only;rw[show SB 2305843009213691579 4 (AhT (Abh ⟨#[110,111,110,99,101]⟩ [SR 8 k,msg]) 1152921504606845788+1)=Ld (P8 k msg)from rfl,Yz _ _ hm,Aa];unfold LQ LR;rw[Lc dvR,Aa,Aa,Aap dvR,Aa,Aa]; rfl
def gr:Nat:=GR
theorem gr_pos:0<gr:=by unfold gr; decide
theorem AdR:4^gr%GQ=1:=by
 have h:(SB 2305843009213691579 4 1152921504606845789).toNat=(4:UInt64).toNat^ (1152921504606845789:UInt64).toNat% (2305843009213691579:UInt64).toNat:=UQ dvQ 4 1152921504606845789;have hR:(1152921504606845789:UInt64).toNat=gr:=rfl;have h4:(4:UInt64).toNat=4:=rfl;have hQ:(2305843009213691579:UInt64).toNat=GQ:=rfl;rw[hR,h4,hQ]at h;have hc:(match Dt 4 1152921504606845789 with|some r=>decide (r=1)|none=>false)=true:=by kernel_rfl
 rw[Rz]at hc;have:=Amx hc;rw[←h,this]; rfl
theorem AjN (n:Nat):4^ (n%gr)%GQ=4^n%GQ:=by
 have hn:=Nat.div_add_mod n gr;conv=>rhs; rw[←hn]
 rw[Nat.pow_add,Nat.pow_mul,Nat.mul_mod,Nat.pow_mod (4^gr),AdR,Nat.one_pow,show 1%GQ=1 from rfl,Nat.one_mul,Nat.mod_mod]
theorem Rv (k:UInt64):(Ld k).toNat^gr%GQ=1:=by
 rw[QH,←Nat.pow_mod,←Nat.pow_mul,AmG,Nat.pow_mul,Nat.pow_mod,AdR,Nat.one_pow]; rfl
theorem AhL (k:UInt64):(Ld k).toNat<GQ:=by rw[QH]; exact AmF _ (by decide)
theorem AcC (k:UInt64):0<(Ld k).toNat:=by
 have h':=gr_pos;have h2:=Rv k;generalize gr=r at*;by_cases h:(Ld k).toNat=0
 ·rw[h,Nat.zero_pow h']at h2;cases h2
 ·omega
theorem OR (a n:UInt64):(SB 2305843009213691579 a n).toNat=a.toNat^n.toNat%GQ:=UQ dvQ a n
theorem in_eq (k:UInt64):Dh (Ld k)=some true:=by
 have h1:=AhL k;have h2:=AcC k;simp only[GQ]at h1;have hR:(1152921504606845789:UInt64).toNat=gr:=rfl;have hp:(SB 2305843009213691579 (Ld k) 1152921504606845789).toNat=1:=by
  rw[OR,hR]; exact Rv k
 have hc:((decide (((Ld k).toNat:Int)>0))&&(decide (((Ld k).toNat:Int)<2305843009213691579)))=true:=by simp; omega
 unfold Dh;rw[hc];show Ab (Dt (Ld k) 1152921504606845789) _=_;rw[Rz,Aa,Bc,hp]; rfl
theorem AdL {p e s k n z:Nat}(hp:p=4^k%GQ)(hs:s=(e*k+n)%gr)(hz:z*(p^e%GQ)%GQ=1):4^s%GQ*z%GQ=4^n%GQ:=by
 have e1:4^ (e*k)*z%GQ=1:=by
  rw[←hz,hp,←Nat.pow_mod,←Nat.pow_mul,AmG k e,Nat.mul_mod_mod,AmG z]
 rw[hs,AjN,Nat.mod_mul_mod,Nat.pow_add,Nat.mul_right_comm,Nat.mul_mod,e1,Nat.one_mul,Nat.mod_mod]
theorem AdB {p e k:Nat}(hp:p^gr%GQ=1)(he:e≤gr):p^e%GQ*p^ (gr-e)%GQ=1:=by
 rw[Nat.mod_mul_mod,←Nat.pow_add,Nat.add_sub_cancel' he]; exact hp
theorem AjV {n:Nat}(h:n<GR): ¬((n:Int)≥1152921504606845789):=by simp only[GR]at h; omega
theorem Ac8 {a b:UInt64}{n:Nat}(ha:a.toNat<n)(hb:b.toNat<n):(QL a b).toNat<n:=by
 unfold QL; split
 ·exact hb
 ·exact ha
theorem WK {α:Type} [Inhabited α](o:Option α):gu true o=o:=rfl
theorem Aen {k s:UInt64}{msg:List UInt8}(z:UInt64)(hceq:Ww 2305843009213691579 (SB 2305843009213691579 4 s) z=Ld (P8 k msg))(hm:msg.length≤600000):
  (Ab (gu (!((z,(0:Int)).2 !=0)) (Ea s)) fun x4=>Ab (gu (!((z,(0:Int)).2 !=0)) (Hw x4 (z,(0:Int)).1)) fun x5=>Ab (gu (!((z,(0:Int)).2 !=0)) (Dg x5 (Ld k) msg)) fun x6=>
   if(((z,(0:Int)).2 !=0)||((x6.toNat:Int) !=((Pz k msg).toNat:Int)))=true then some (40:Int)else some 0)=some 0:=by
 have e1:((z,(0:Int)).2 !=0)=false:=rfl;rw[e1,AmS,WK,VB,Aa,WK];unfold Hw;rw[Lc dvQ,Aa,Aa,WK,hceq,Yz _ _ hm,Aa];have e2:(((chal (Ld (P8 k msg)) (Ld k) msg).toNat:Int) !=((Pz k msg).toNat:Int))=false:=by
  unfold Pz;rw[bne_eq_false_iff_eq]
 rw[e2];rfl
theorem PR {k:UInt64}{msg:List UInt8}(h1:1≤k.toNat)(h2:k.toNat<GR)(hm:msg.length≤600000):Dq (Ld k) msg (MD k msg)=some 0:=by
 have hE:(Pz k msg).toNat<GR:=Aeq _ _ _;have hS:(MD k msg).S.toNat=((Pz k msg).toNat*k.toNat+(P8 k msg).toNat)%GR:=by
  show(addM _ _ _).toNat=_;rw[Z3 dvR,QK dvR];exact Nat.mod_add_mod _ _ _
 have hSl:(MD k msg).S.toNat<GR:=by rw[hS]; exact AmF _ (by decide)
 have hEe:(MD k msg).E=Pz k msg:=rfl;have hX:=OR (Ld k) (Pz k msg);have hinv:(SB 2305843009213691579 (Ld k) (Pz k msg)).toNat*(Ld k).toNat^ (gr-(Pz k msg).toNat)%GQ=1:=by
  rw[hX]; exact AdB (k:=0) (Rv k) (Nat.le_of_lt hE)
 obtain⟨z,z1,z2⟩:=Aib hinv;rw[hX]at z2;have hcom:(Ww 2305843009213691579 (SB 2305843009213691579 4 (MD k msg).S) z).toNat=(Ld (P8 k msg)).toNat:=by
  rw[QH,QK dvQ,OR];exact AdL (QH k) hS z2
 have hceq:Ww 2305843009213691579 (SB 2305843009213691579 4 (MD k msg).S) z=Ld (P8 k msg):=u_ext hcom;have hmax:(QL (Pz k msg) (MD k msg).S).toNat<GR:=Ac8 hE hSl;have hmx: ¬(((QL (Pz k msg) (MD k msg).S).toNat:Int)≥1152921504606845789):=AjV hmax;clear hS hSl hX hinv hcom z2 hE;unfold Dq;rw[in_eq,Aa,AlG (by simp),hEe,AlG (by rw[AlL]; exact hmx),Rz,Aa,z1,Aa];exact Aen z hceq hm
theorem AgI (n:Nat)(h:n≤1000000):AT (n:Int)=some []:=by
 have hw:w64 ((n:Int)-(w64 (0-((0:Nat):Int))))=(n:Int):=by rw[Bn (n:=0-((0:Nat):Int)) (by omega) (by omega),Bn (by omega) (by omega)]; omega
 unfold AT;rw[AlG (by rw[AlL]; omega),Aa,hw,Bc];by_cases h0:n=0
 ·rw[AlG (by simp; omega),Aa]
 ·rw[AlH (by simp; omega),AlH (by omega),Aa]
theorem AaX {xs ys:List g_api_Leaf}(h:xs.length+ys.length≤100000):Bq [xs,ys]=some (xs++ys):=by
 have w1:w64 (0+(xs.length:Int))=(xs.length:Int):=by rw[Bn (by omega) (by omega)]; omega
 have w2:w64 ((xs.length:Int)+(ys.length:Int))=((xs.length+ys.length:Nat):Int):=by rw[Bn (by omega) (by omega)]; omega
 have b1: ∀(i:Int) (x:List g_api_Leaf) (s:Int),0≤w64 (s+(x.length:Int))→Cw i x s=some (w64 (s+(x.length:Int))):=by
  intro i x s hs;unfold Cw;rw[Bc,AlG (by rw[AlL]; omega),Aa]
 have b2: ∀(i:Int) (x s:List g_api_Leaf),s.length+x.length≤100000→Cv i x s=some (s++x):=by
  intro i x s hs;unfold Cv;rw[Eg 32 (by omega) (by omega),Aa]
 unfold Bq;simp only[DP];rw[b1 _ _ _ (by rw[w1]; omega),Aa,w1,b1 _ _ _ (by rw[w2]; omega),Aa,w2,Aa,Aa,AgI _ (by omega),Aa,b2 _ _ _ (by simp; omega),Aa,Amc,b2 _ _ _ h,Aa,Aa,Aa]
theorem AeD {l:g_api_Log}(h:l.L.length+l.Wait.length≤100000):Jv l=some (l.L++l.Wait):=by
 unfold Jv;rw[AaX h,Aa]
def IK (b:List UInt8):Bool:=decide (0<b.length)&&decide (b.length≤2048)
def IZ (n:Int):Bool:=decide (0≤n)&&decide (n≤1099511627776)
theorem GP (n:Int):Dp n=some (IZ n):=rfl
theorem WH (b:List UInt8):HQ b=some (IK b):=by
 unfold HQ IK;rw[Bc];congr 2
 ·rw[AmC]; omega
 ·rw[AmC]; omega
def Abm (ks:List (List UInt8)):List (ByteArray×Bool):=ks.map fun b=>(bs b,true)
theorem ZX {a b:List UInt8}:eqS (bs a) (bs b)=true↔a=b:=by simp[eqS,bs]
theorem Ada (b:List UInt8): ∀(ks:List (List UInt8)) (i:Nat),(b∈ks→∃j,lkI (Abm ks) (bs b) i=some (j,true))∧(b∉ks→lkI (Abm ks) (bs b) i=none):=by
 intro ks;induction ks with
 |nil=>intro i; exact⟨fun h=>absurd h (by simp),fun _=>rfl⟩
 |cons k ks ih=>
  intro i;simp only[Abm,Amd,lkI];by_cases hk:b=k
  ·subst hk;rw[AlH (ZX.2 rfl)];exact⟨fun _=>⟨i,rfl⟩,fun h=>absurd (AlZ ..) h⟩
  ·rw[AlG (fun h=>hk (ZX.1 h))];refine⟨fun h=>(ih (i+1)).1 ((Al6.1 h).resolve_left hk),fun h=>(ih (i+1)).2 fun h'=>h (Al4 _ h')⟩
theorem lkB_kv (b:List UInt8)(ks:List (List UInt8)):lkB (Abm ks) (bs b)=decide (b∈ks):=by
 unfold lkB;by_cases h:b∈ks
 ·obtain⟨j,hj⟩:=(Ada b ks 0).1 h;rw[hj,AlY h]; rfl
 ·rw[(Ada b ks 0).2 h,Aml h]; rfl
def okL:List g_api_Leaf→List (List UInt8)→Bool
 | [],_=>true
 |x::r,ks=>(IK x.Body&&IZ x.At&& !decide (x.Body∈ks))&&okL r (ks++[x.Body])
theorem Ahb: ∀(xs:List g_api_Leaf) (ks:List (List UInt8)) (i:Int),DK HS xs i (Abm ks)=some (if okL xs ks=true then .inl (Abm (ks++xs.map (·.Body)))else .inr 1):=by
 intro xs;induction xs with
 |nil=>intro ks i; simp[DK,okL]
 |cons x xs ih=>
  intro ks i;have hb:HS i x (Abm ks)=some (if(IK x.Body&&IZ x.At&& !decide (x.Body∈ks))=true then .inl (Abm (ks++[x.Body]))else .inr 1):=by
   unfold HS;rw[WH,Aa,GP,lkB_kv];cases h1:IK x.Body with
   |false=>rfl
   |true=>
    cases h2:IZ x.At with
    |false=>rfl
    |true=>
     by_cases h3:x.Body∈ks
     ·rw[AlY h3]; rfl
     ·rw[Aml h3,show gu (!!true) (some true)=some true from rfl];simp only[AmB,Bool.false_eq_true,if_false,Aa,Bool.or_self,Bool.and_self,AmS,if_true];rw[(Ada x.Body ks 0).2 h3];simp[Abm]
  have hc:okL (x::xs) ks=((IK x.Body&&IZ x.At&& !decide (x.Body∈ks))&&okL xs (ks++[x.Body])):=rfl;simp only[DK,hb,Aa];by_cases h:(IK x.Body&&IZ x.At&& !decide (x.Body∈ks))=true
  ·have e:okL (x::xs) ks=okL xs (ks++[x.Body]):=by rw[hc,h,Ama]
   rw[AlH h,e];dsimp only;rw[ih];simp
  ·have e:okL (x::xs) ks=false:=by rw[hc,Bool.not_eq_true _|>.mp h,AmI]
   rw[AlG h,e]; rfl
def okH:List Int→Int→Int→Bool
 | [],_,_=>true
 |x::r,last,n=>(!decide (x≤last)&& !decide (n≤x))&&okH r x n
theorem Aha (l:g_api_Log): ∀(xs:List Int) (last:Int) (i:Int),∃z,DK (HR l) xs i last=some (if okH xs last (l.L.length:Int)=true then .inl z else .inr 1):=by
 intro xs;induction xs with
 |nil=>intro last i; exact⟨last,by simp[DK,okH]⟩
 |cons x xs ih=>
  intro last i;obtain⟨z,hz⟩:=ih x (i+1);refine⟨z,?_⟩;have hb:HR l i x last=some (if(!decide (x≤last)&& !decide ((l.L.length:Int)≤x))=true then .inl x else .inr 1):=by
   unfold HR;by_cases h1:x≤last
   ·simp[h1]
   ·by_cases h2:(l.L.length:Int)≤x
    ·simp[h2]
    ·have h2': ¬(x≥(l.L.length:Int)):=h2;simp[h1,h2,h2']
  have hc:okH (x::xs) last (l.L.length:Int)=((!decide (x≤last)&& !decide ((l.L.length:Int)≤x))&&okH xs x (l.L.length:Int)):=rfl;simp only[DK,hb,Aa];by_cases h:(!decide (x≤last)&& !decide ((l.L.length:Int)≤x))=true
  ·have e:okH (x::xs) last (l.L.length:Int)=okH xs x (l.L.length:Int):=by rw[hc,h,Ama]
   rw[AlH h,e];exact hz
  ·have e:okH (x::xs) last (l.L.length:Int)=false:=by rw[hc,Bool.not_eq_true _|>.mp h,AmI]
   rw[AlG h,e]; rfl
def X0 (l:g_api_Log):Bool:=IZ l.Id&& !decide (l.Key.toNat=0)&&decide (l.Key.toNat<1152921504606845789)&&decide (0≤l.Delay)&&decide (l.Delay≤1000)
def chk (l:g_api_Log):Int:=if X0 l=true then(if okL (l.L++l.Wait) []=true then(if okH l.Hide (-1) (l.L.length:Int)=true then(if 256<(l.L++l.Wait).length then 2 else 0)else 1)else 1)else 1
theorem Sk {l:g_api_Log}(h:l.L.length+l.Wait.length≤100000):EI l=some (chk l):=by
 unfold EI;rw[GP,Aa];have hc:(((((!IZ l.Id)||((l.Key.toNat:Int)==0))||(decide ((l.Key.toNat:Int)≥1152921504606845789)))||(decide (l.Delay<0)))||(decide (l.Delay>1000)))= !X0 l:=by
  unfold X0;rw[Amz];cases IZ l.Id<;>simp<;>omega
 rw[hc];unfold chk;cases h0:X0 l with
 |false=>rfl
 |true=>
  rw[AmB,AlG (by decide),AlH rfl,AeD h,Aa];have h3:=Ahb (l.L++l.Wait) [] 0;rw[show Abm []=([]:List (ByteArray×Bool))from rfl]at h3;rw[h3,Aa];cases h1:okL (l.L++l.Wait) []with
  |false=>simp
  |true=>
   simp only[if_true];obtain⟨z,hz⟩:=Aha l l.Hide (-1) 0;rw[hz,Aa];cases h2:okH l.Hide (-1) (l.L.length:Int)with
   |false=>simp
   |true=>
    simp only[if_true];have hl:(Abm ([]++(l.L++l.Wait).map (·.Body))).length=(l.L++l.Wait).length:=by simp[Abm]
    rw[hl];by_cases h4:256<(l.L++l.Wait).length
    ·rw[AlH h4,AlH (by rw[AlL]; omega)]
    ·rw[AlG h4,AlG (by rw[AlL]; omega)]
theorem AgJ (n:Nat)(h:n≤1000000):BE (n:Int)=some []:=by
 have hw:w64 ((n:Int)-(w64 (0-((0:Nat):Int))))=(n:Int):=by rw[Bn (n:=0-((0:Nat):Int)) (by omega) (by omega),Bn (by omega) (by omega)]; omega
 unfold BE;rw[AlG (by rw[AlL]; omega),Aa,hw,Bc];by_cases h0:n=0
 ·rw[AlG (by simp; omega),Aa]
 ·rw[AlH (by simp; omega),AlH (by omega),Aa]
theorem Yu: ∀(xs:List (List UInt8)) (i:Int) (n:Nat),n+xs.flatten.length≤1000000→DP CH xs i (n:Int)=some ((n+xs.flatten.length:Nat):Int):=by
 intro xs;induction xs with
 |nil=>intro i n _; simp[DP]
 |cons x xs ih=>
  intro i n h;simp only[List.flatten_cons,AlI]at h;have hw:w64 ((n:Int)+(x.length:Int))=((n+x.length:Nat):Int):=by rw[Bn (by omega) (by omega)]; omega
  have hb:CH i x (n:Int)=some ((n+x.length:Nat):Int):=by
   unfold CH;rw[Bc,hw,AlG (by rw[AlL]; omega),Aa]
  simp only[DP,hb,Aa];rw[ih _ _ (by omega),List.flatten_cons,AlI,AmP]
theorem Yv: ∀(xs:List (List UInt8)) (i:Int) (s:List UInt8),s.length+xs.flatten.length≤1000000→DP CG xs i s=some (s++xs.flatten):=by
 intro xs;induction xs with
 |nil=>intro i s _; simp[DP]
 |cons x xs ih=>
  intro i s h;simp only[List.flatten_cons,AlI]at h;have hb:CG i x s=some (s++x):=by
   unfold CG;rw[Eg 1 (by omega) (by omega),Aa]
  simp only[DP,hb,Aa];rw[ih _ _ (by rw[AlI]; omega),List.flatten_cons,AlP]
theorem TQ {xs:List (List UInt8)}(h:xs.flatten.length≤1000000):BS xs=some xs.flatten:=by
 have h1:=Yu xs 0 0 (by omega);rw[show((0:Nat):Int)=0 from rfl,Amb]at h1;unfold BS;rw[h1,Aa,Aa,AgJ _ h,Aa,Yv xs 0 [] (by simpa using h),Aa,Aa,Amc]
theorem AhX {w:ByteArray}{ps:List (List UInt8)}(hw:w.data.toList.length≤100)(h:ps.flatten.length≤100000):Lh w ps=some (w.data.toList++ps.flatten):=by
 unfold Lh;have h0:([]:List UInt8).length=0:=rfl;rw[Eg 1 (by omega) (by omega),Aa,TQ (by omega),Aa,Amc,Eg 1 (by omega) (by omega),Aa]
def e8 (n:Int):List UInt8:=[toB (BA n 56),toB (BA n 48),toB (BA n 40),toB (BA n 32),toB (BA n 24),toB (BA n 16),toB (BA n 8),toB (BA n 0)]
theorem Nb (n:Int):D6 n=some (e8 n):=by
 unfold D6;simp[CX,JT,idx,w64,Bc,e8]
def UO (p:g_api_Promise):List UInt8:=[112,114,111,109,105,115,101]++[e8 p.Log,e8 p.At,P6 p.Leaf].flatten
def Vh (h:g_api_Head):List UInt8:=[104,101,97,100]++[e8 h.Log,e8 h.Size,P6 h.Root,e8 h.At].flatten
theorem ZM (n:Int):(e8 n).length=8:=rfl
theorem P7 (p:g_api_Promise):D2 p=some (UO p):=by
 unfold D2;rw[Nb,Aa,Nb,Aa,Vy,Aa,AhX (by decide) (by simp[ZM,Lf]),Aa]; rfl
theorem RG (h:g_api_Head):HP h=some (Vh h):=by
 unfold HP;rw[Nb,Aa,Nb,Aa,Vy,Aa,Nb,Aa,AhX (by decide) (by simp[ZM,Lf]),Aa]; rfl
theorem Wn (p:g_api_Promise):(UO p).length≤600000:=by simp[UO,ZM,Lf]
theorem RZ (h:g_api_Head):(Vh h).length≤600000:=by simp[Vh,ZM,Lf]
def Il (b:List UInt8):UInt64×UInt64:=Abh ⟨#[108,101,97,102]⟩ [b]
theorem RT {b:List UInt8}(h:b.length≤600000):C5 b=some (Il b):=by
 unfold C5;rw[JL _ _ (by simp[VH]; omega),Aa]; rfl
def PO:List g_api_Leaf→List UInt8→Nat→Option Nat
 | [],_,_=>none
 |x::r,b,i=>if x.Body=b then some i else PO r b (i+1)
theorem Agu (all:List g_api_Leaf)(b:List UInt8)(hl:all.length≤100000): ∀(xs:List g_api_Leaf) (i:Nat),all.drop i=xs→
  BV (A3 all) xs.length (i:Int) b=
   some (match PO xs b i with|some j=> .inr ((j:Int),b)|none=> .inl b):=by
 intro xs;induction xs with
 |nil=>intro i _; rfl
 |cons x xs ih=>
  intro i hd;have hx:idx all (i:Int)=some x:=Di (by
   have:(all.drop i)[0]? =some x:=by rw[hd]; rfl
   simpa using this)
  have hd':all.drop (i+1)=xs:=by rw[←AmD,hd]; rfl
  have hb:A3 all (i:Int) b=some (if x.Body=b then .inr ((i:Int),b)else .inl b):=by
   unfold A3 MR LU;rw[hx];simp only[Aa];by_cases h:x.Body=b
   ·rw[AlH h,AlH (ZX.2 h)]
   ·rw[AlG h,AlG (fun q=>h (ZX.1 q))]
  simp only[AlM,BV,hb,Aa,PO];by_cases h:x.Body=b
  ·rw[AlH h,AlH h]
  ·rw[AlG h,AlG h];exact ih (i+1) hd'
theorem Agv {all:List g_api_Leaf}{b:List UInt8}(hl:all.length≤100000):
  Bd all b=some (match PO all b 0 with|some j=>(j:Int)|none=> -1,b):=by
 have h:=Agu all b hl all 0 rfl;unfold Bd;rw[show(0:Int)=((0:Nat):Int)from rfl,h,Aa];cases PO all b 0<;>rfl
theorem AaS: ∀{xs:List g_api_Leaf} {b:List UInt8} {i:Nat},PO xs b i=none→∀x∈xs,x.Body≠b:=by
 intro xs;induction xs with
 |nil=>intro b i _ x hx; cases hx
 |cons y xs ih=>
  intro b i h x hx;simp only[PO]at h;by_cases hy:y.Body=b
  ·rw[AlH hy]at h; cases h
  ·rw[AlG hy]at h;rcases Al6.1 hx with rfl|hx
   ·exact hy
   ·exact ih h x hx
theorem AfI (p z:UInt64){msg:List UInt8}(s:g_api_Sig)(hm:msg.length≤600000)(hz:F3 (SB 2305843009213691579 p s.E)=some (z,0)):
  (Ab (Dt p s.E) fun x2=>Ab (F3 x2) fun x3=>Ab (gu (!(x3.2 !=0)) (Ea s.S)) fun x4=>Ab (gu (!(x3.2 !=0)) (Hw x4 x3.1)) fun x5=>Ab (gu (!(x3.2 !=0)) (Dg x5 p msg)) fun x6=>
   if((x3.2 !=0)||((x6.toNat:Int) !=(s.E.toNat:Int)))=true then some (40:Int)else some 0)
   =if(((chal (Ww 2305843009213691579 (Ld s.S) z) p msg).toNat:Int) !=(s.E.toNat:Int))=true then some 40 else some 0:=by
 have e1:((z,(0:Int)).2 !=0)=false:=rfl;unfold Hw;rw[Rz,Aa,hz,Aa,e1,AmS,WK,VB,Aa,WK,Lc dvQ,Aa,Aa,WK];dsimp only;rw[show SB 2305843009213691579 4 s.S=Ld s.S from rfl,Yz _ _ hm,Aa,Amy]
theorem inv_of {p E:UInt64}(hpow:p.toNat^gr%GQ=1)(hE:E.toNat≤gr): ∃z:UInt64,F3 (SB 2305843009213691579 p E)=some (z,0)∧z.toNat*(SB 2305843009213691579 p E).toNat%GQ=1:=by
 have hinv:(SB 2305843009213691579 p E).toNat*p.toNat^ (gr-E.toNat)%GQ=1:=by
  rw[OR]; exact AdB (k:=0) hpow hE
 exact Aib hinv
theorem le_gr {E:UInt64}(hE:E.toNat<1152921504606845789):E.toNat≤gr:=Nat.le_of_lt hE
theorem max_ge {a b:UInt64}:decide (((QL a b).toNat:Int)≥1152921504606845789)=(decide ((a.toNat:Int)≥1152921504606845789)||decide ((b.toNat:Int)≥1152921504606845789)):=by
 rw[Amz,Amr,AlL,AlL,AlL];unfold QL;split
 ·rename_i hlt;have:=UInt64.lt_iff_toNat_lt.1 hlt;omega
 ·rename_i hlt;have:=mt UInt64.lt_iff_toNat_lt.2 hlt;omega
theorem pow_one {p:UInt64}(h:((SB 2305843009213691579 p 1152921504606845789).toNat:Int)=1):p.toNat^gr%GQ=1:=by
 have h1:=OR p 1152921504606845789;rw[show(1152921504606845789:UInt64).toNat=gr from rfl]at h1;rw[←h1];exact Int.ofNat.inj h
theorem Alo {a b:UInt64}(h:(decide ((a.toNat:Int)≥1152921504606845789)||decide ((b.toNat:Int)≥1152921504606845789))=false):a.toNat<1152921504606845789:=by
 rw[Bool.or_eq_false_iff,decide_eq_false_iff_not]at h;have:=h.1;omega
theorem inP_eq (p:UInt64):Dh p=some (((decide ((p.toNat:Int)>0))&&(decide ((p.toNat:Int)<2305843009213691579)))&&(((SB 2305843009213691579 p 1152921504606845789).toNat:Int)==1)):=by
 unfold Dh;cases (decide ((p.toNat:Int)>0))&&(decide ((p.toNat:Int)<2305843009213691579))
 ·simp only[gu,cond_false,Aa,Bc,AmI]
 ·simp only[gu,cond_true,Rz,Aa,Bc,Ama]
theorem in_one {p:UInt64}(h:(((decide ((p.toNat:Int)>0))&&(decide ((p.toNat:Int)<2305843009213691579)))&&(((SB 2305843009213691579 p 1152921504606845789).toNat:Int)==1))=true):((SB 2305843009213691579 p 1152921504606845789).toNat:Int)=1:=by
 rw[AlD]at h;exact Amp.1 h.2
theorem W5 (p:UInt64){msg:List UInt8}(s:g_api_Sig)(hm:msg.length≤600000): ∃e,Dq p msg s=some e:=by
 unfold Dq;rw[inP_eq,Aa,max_ge];cases h1:((decide ((p.toNat:Int)>0))&&(decide ((p.toNat:Int)<2305843009213691579)))&&(((SB 2305843009213691579 p 1152921504606845789).toNat:Int)==1)with
 |false=>rw[AmS,AlH rfl]; exact⟨_,rfl⟩
 |true=>
  rw[AmB,AlG Bool.false_ne_true];cases h2:(decide ((s.E.toNat:Int)≥1152921504606845789)||decide ((s.S.toNat:Int)≥1152921504606845789))with
  |true=>rw[AlH rfl]; exact⟨_,rfl⟩
  |false=>
   rw[AlG Bool.false_ne_true];obtain⟨z,z1,z2⟩:=inv_of (pow_one (in_one h1)) (le_gr (Alo h2));rw[AfI p z s hm z1];split<;>exact⟨_,rfl⟩
theorem XD (k:g_api_Key)(log:Int)(ok:Bool){msg:List UInt8}(s:g_api_Sig)(hm:msg.length≤600000): ∃e,EV k log ok msg s=some e:=by
 unfold EV;rw[GP,Aa];split
 ·exact⟨_,rfl⟩
 ·split
  ·exact⟨_,rfl⟩
  ·obtain⟨e,he⟩:=W5 k.Key s hm;rw[he,Aa];exact⟨_,rfl⟩
theorem Aa6 (k:g_api_Key)(p:g_api_Head): ∃e,CT k p=some e:=by
 unfold CT;rw[GP,Aa,RG,Aa];obtain⟨e,he⟩:=XD k p.Log ((IZ p.At&&(decide (p.Size≥0)))&&(decide (p.Size≤256))) p.Sig (RZ p);rw[he,Aa];exact⟨_,rfl⟩
def chd (k:g_api_Key)(h:g_api_Head):Int:=(CT k h).getD 0
theorem Aiv (k:g_api_Key)(h:g_api_Head):CT k h=some (chd k h):=by
 obtain⟨e,he⟩:=Aa6 k h;unfold chd;rw[he]; rfl
def Ko (h:g_api_Head)(ks:List g_api_Key):Bool:=match fnd (fun k:g_api_Key=>k.Log==h.Log) ks 0 with|some q=>chd q.2 h==0|none=>false
theorem AdF (l:List g_api_Key)(k:g_api_Head):Bp l k=some ((match fnd (fun y:g_api_Key=>y.Log==k.Log) l 0 with|some q=>(q.1:Int)|none=> -1),k):=by
 have:=WY (body:=BP l) (s:=pk7 k) (l:=l) (fun y:g_api_Key=>y.Log==k.Log) (fun i=>((i:Int),k)) (fun i hi=> ?_) l 0 rfl
 ·unfold Bp;rw[show((0:Nat):Int)=0 from rfl]at this;rw[show(k.Log,k.Size,k.Root.1,k.Root.2,k.At,k.Sig.E,k.Sig.S)=pk7 k from rfl,this,Aa];cases fnd (fun y:g_api_Key=>y.Log==k.Log) l 0<;>rfl
 ·unfold BP I4 pk7;dsimp only;rw[RY hi,Aa,Aa];cases l[i].Log==k.Log<;>rfl
theorem Y9 (h:g_api_Head)(ks:List g_api_Key):GW h ks=some (Ko h ks):=by
 unfold GW Ko;rw[AdF,Aa];cases hf:fnd (fun y:g_api_Key=>y.Log==h.Log) ks 0 with
 |none=>rfl
 |some q=>
  obtain⟨k,k1,k2,_⟩:=ZE hf;obtain⟨j,x⟩:=q;have hq:j=k:=by dsimp only at k1; omega
  subst hq;have hd:decide ((j:Int)≥0)=true:=by simp
  dsimp only at k2⊢;rw[hd,Di k2];simp only[gu,cond_true,Aa,Aiv,Bc,Ama]
def PD (l:List g_api_Head)(ks:List g_api_Key):Bool:=l.all fun h=>Ko h ks
theorem Wj (ks:List g_api_Key): ∀(xs:List g_api_Head) (i:Int),DK (Gy ks) xs i ()=some (if PD xs ks=true then .inl ()else .inr 40)
 | [],i=>rfl
 |x::xs,i=>by
  have h1:Gy ks i x ()=some (if Ko x ks=true then .inl ()else .inr 40):=by
   unfold Gy;rw[Y9,Aa];cases Ko x ks<;>rfl
  unfold PD;by_cases c:Ko x ks=true
  ·simp only[DK,h1,c,if_true,Aa,Amt,Ama];exact Wj ks xs (i+1)
  ·have c':Ko x ks=false:=by simpa using c
   simp only[DK,h1,c',Bool.false_eq_true,if_false,Aa,Amt,AmI]
def Hq (l:List g_api_Head)(ks:List g_api_Key):Int:=if l.length>1024 then 2 else if chB l=true then(if PD l ks=true then 0 else 40)else 1
theorem R1 (p:g_api_Pool)(ks:List g_api_Key):GX p ks=some (Hq p.L ks):=by
 unfold GX Hq;simp only[Bc];by_cases h:p.L.length>1024
 ·rw[AlH (by simp; omega),AlH h]
 ·rw[AlG (by simp; omega),AlG h,AaF (by omega),Aa];cases chB p.L
  ·rfl
  ·simp only[AmB,Bool.false_eq_true,if_false,if_true,Wj,Aa];cases PD p.L ks<;>rfl
theorem O8 {l:List g_api_Head}{ks:List g_api_Key}:Hq l ks=0↔l.length≤1024∧l.Pairwise ltH∧∀h∈l,Ko h ks=true:=by
 unfold Hq;by_cases h:l.length>1024
 ·rw[AlH h]; constructor
  ·intro q; cases q
  ·intro q; omega
 ·rw[AlG h];cases hc:chB l
  ·rw[AlG Bool.false_ne_true];constructor
   ·intro q; cases q
   ·intro q; rw[(XA l).2 q.2.1]at hc; cases hc
  ·rw[AlH rfl];have hs:=(XA l).1 hc;cases hr:PD l ks
   ·rw[AlG Bool.false_ne_true];constructor
    ·intro q; cases q
    ·intro q;have:PD l ks=true:=AlW.2 q.2.2;rw[this]at hr; cases hr
   ·rw[AlH rfl];exact⟨fun _=>⟨by omega,hs,AlW.1 hr⟩,fun _=>rfl⟩
theorem UT {h:g_api_Head}: ∀{l:List g_api_Head},l.Pairwise ltH→∀i (hi:i<l.length),UU l[i] h<0↔i<Mb h l
 | [],_,i,hi=>by simp at hi
 |x::l,hl,i,hi=>by
  have hx:=(List.pairwise_cons.1 hl).1;unfold Mb;cases i with
  |zero=>
   simp only[List.getElem_cons_zero];split
   ·exact⟨fun _=>by omega,fun _=>by assumption⟩
   ·exact⟨fun q=>absurd q (by assumption),fun q=>by omega⟩
  |succ i=>
   simp only[List.getElem_cons_succ];have hi':i<l.length:=by simpa using hi
   have ih:=UT (List.pairwise_cons.1 hl).2 i hi' (h:=h);split
   ·rw[ih]; omega
   ·rename_i c;constructor
    ·intro q;exact absurd (Nt.2 (RO (hx _ (List.getElem_mem hi')) (Nt.1 q))) c
    ·intro q; omega
theorem AgF {i j:Nat}(h:i+j≤1099511627776):w64 ((Ev (toU (w64 ((i:Int)+(j:Int)))) 1).toNat:Int)=(((i+j)/2:Nat):Int):=by
 have h1:w64 ((i:Int)+(j:Int))=((i+j:Nat):Int):=by rw[Bn (by omega) (by omega)]; omega
 rw[h1];have h2:(toU ((i+j:Nat):Int)).toNat=i+j:=by
  have:=AbH ((i+j:Nat):Int);rw[Int.emod_eq_of_lt (by omega) (by omega)]at this;omega
 rw[DZ _ _ (by decide),h2,Nat.pow_one,Bn (by omega) (by omega)]
theorem bs_it {l:List g_api_Head}{h:g_api_Head}(hl:l.Pairwise ltH)(hn:l.length≤500000000000): ∀(d i j n:Nat),j-i≤d→d<n→i≤Mb h l→Mb h l≤j→j≤l.length→
  iter (Ah l h) n ((i:Int),(j:Int))=some ((Mb h l:Nat):Int):=by
 intro d;induction d with
 |zero=>
  intro i j n hd hn' h1 h2 h3;obtain⟨n,rfl⟩: ∃q,n=q+1:=⟨n-1,by omega⟩;have hs:Ah l h ((i:Int),(j:Int))=some (.inr (i:Int)):=by
   unfold Ah; rw[AlG (by simp; omega)]
  simp only[iter,hs,Aa];rw[show i=Mb h l from by omega]
 |succ d ih=>
  intro i j n hd hn' h1 h2 h3;obtain⟨n,rfl⟩: ∃q,n=q+1:=⟨n-1,by omega⟩;by_cases hij:i<j
  ·have hm:(i+j)/2<l.length:=by omega
   have hs:Ah l h ((i:Int),(j:Int))=some (.inl (if(i+j)/2<Mb h l then((((i+j)/2+1:Nat):Int),(j:Int))else((i:Int),(((i+j)/2:Nat):Int)))):=by
    unfold Ah;dsimp only;rw[AlH (by simpa using hij),AgF (by omega)];unfold bnd;dsimp only;rw[RY hm,Aa,US,Aa,Afb hm (by omega)];by_cases c:(i+j)/2<Mb h l
    ·rw[AlH (by simpa using (UT hl _ hm).2 c),AlH c]
    ·rw[AlG (by simpa using fun q=>c ((UT hl _ hm).1 q)),AlG c]
   simp only[iter,hs,Aa];by_cases c:(i+j)/2<Mb h l
   ·rw[AlH c]; exact ih _ _ n (by omega) (by omega) (by omega) h2 h3
   ·rw[AlG c]; exact ih _ _ n (by omega) (by omega) h1 (by omega) (by omega)
  ·have hs:Ah l h ((i:Int),(j:Int))=some (.inr (i:Int)):=by
    unfold Ah; rw[AlG (by simp; omega)]
   simp only[iter,hs,Aa];rw[show i=Mb h l from by omega]
theorem AkD {l:List g_api_Head}{h:g_api_Head}(hl:l.Pairwise ltH):AkE l h=if hc:Mb h l<l.length then UU l[Mb h l] h==0 else false:=by
 rw[Amz,Vi];constructor
 ·rintro⟨x,hx,he⟩;obtain⟨i,hi,hxi⟩:=List.mem_iff_getElem.1 hx;have h0:UU l[i] h=0:=RF.2 (hxi▸he);have hle: ¬i<Mb h l:=fun q=>by have:=(UT hl i hi).2 q; omega
  have hc:Mb h l<l.length:=by omega
  rw[dif_pos hc];have:Mb h l=i:=by
   apply Classical.byContradiction;intro q;have hlt:Mb h l<i:=by omega
   have:=List.pairwise_iff_getElem.1 hl (Mb h l) i hc hi hlt;exact Air hc (Nt.2 (ltH_eq this (RF.1 h0)))
  simp only[this,h0,beq_self_eq_true]
 ·intro q;split at q
  ·rename_i hc;exact⟨_,List.getElem_mem hc,RF.1 (by simpa using q)⟩
  ·cases q
theorem bs_eqG {l:List g_api_Head}{h:g_api_Head}(hl:l.Pairwise ltH)(hn:l.length≤500000000000):Az l h=some (((Mb h l:Nat):Int),AkE l h):=by
 have hc:=Aef h l;have:=bs_it (h:=h) hl hn l.length 0 l.length Fx (by omega) (by unfold Fx; omega) (by omega) hc (AlK _);unfold Az;rw[show((0:Nat):Int)=0 from rfl]at this;rw[this,Aa,Aa,AkD hl];by_cases c:Mb h l<l.length
 ·have hd:decide (((Mb h l:Nat):Int)<(l.length:Int))=true:=by simpa using c
  rw[hd,RY c,dif_pos c];simp only[gu,cond_true,Aa,US,Bc,Ama]
 ·have hd:decide (((Mb h l:Nat):Int)<(l.length:Int))=false:=by simpa using c
  rw[hd,dif_neg c];simp only[gu,cond_false,Aa,Bc,AmI]
theorem AdD {l:List g_api_Head}{h:g_api_Head}(hn:l.length≤500000000000):A0 l ((Mb h l:Nat):Int) [h]=some (Oi l h):=by
 have hc:=Aef h l;unfold A0;rw[AlH ⟨by omega,by omega⟩,AlG (by simp),Tg];by_cases c:Mb h l=l.length
 ·rw[AlH (by simp[c]),appL (by simp; omega) (by decide),Aa,c]; simp
 ·rw[AlG (by simp; omega),appL (by simp; omega) (by decide),Aa,Amk]; simp
def Tb (l:List g_api_Head)(h:g_api_Head)(ks:List g_api_Key):List g_api_Head×Int:=if Hq l ks=0 then(if Ko h ks=true then(if AkE l h=true then(l,0)else if l.length<1024 then(Oi l h,0)else([],2))else([],40))else([],Hq l ks)
theorem AkM (p:g_api_Pool)(h:g_api_Head)(ks:List g_api_Key):KA p h ks=some (⟨(Tb p.L h ks).1⟩,(Tb p.L h ks).2):=by
 unfold KA Tb;rw[R1,Aa];by_cases hc:Hq p.L ks=0
 ·obtain⟨h1,h2,h3⟩:=O8.1 hc;rw[AlG (by simp[hc]),AlH hc,Y9,Aa];cases Ko h ks
  ·rfl
  ·simp only[AmB,Bool.false_eq_true,if_false,if_true,bs_eqG h2 (show p.L.length≤500000000000 by omega),Aa];cases AkE p.L h
   ·simp only[Bool.false_eq_true,if_false,Bc];by_cases hl:p.L.length<1024
    ·rw[AlG (by simp; omega),AlH hl,Aeh (by omega),Aa,AdD (by omega),Aa]
    ·rw[AlH (by simp; omega),AlG hl]
   ·rfl
 ·rw[AlH (by simpa using hc),AlG hc]
def Tot {α:Type}(x:Option α):Prop:= ∃r,x=some r
theorem tot {α:Type}(r:α):Tot (some r):=⟨r,rfl⟩
theorem Dk {α β:Type}{x:Option α}{k:α→Option β}(h:Tot x)(hk: ∀a,x=some a→Tot (k a)):Tot (Ab x k):=by
 obtain⟨a,h⟩:=h;rw[h]; exact hk a h
theorem Rh {α:Type} [Inhabited α]{b:Bool}{x:Option α}(h:b=true→Tot x):Tot (gu b x):=by
 cases b with
 |true=>exact h rfl
 |false=>exact tot default
theorem Rg {α:Type}{b:Bool}{x y:Option α}(h1:b=true→Tot x)(h0:b=false→Tot y):Tot (if b=true then x else y):=by
 cases b with
 |true=>exact h1 rfl
 |false=>exact h0 rfl
theorem AiX {α:Type}{c:Prop} [Decidable c]{x y:Option α}(h1:c→Tot x)(h0: ¬c→Tot y):Tot (if c then x else y):=by
 split
 ·exact h1 ‹_›
 ·exact h0 ‹_›
theorem QN {σ τ:Type}{step:σ→Option (σ⊕τ)}(μ:σ→Nat)(I:σ→Prop)(Q:τ→Prop)
  (h: ∀s,I s→∃r,step s=some r∧(∀s',r= .inl s'→I s'∧μ s'<μ s)∧∀t,r= .inr t→Q t): ∀n s,I s→μ s<n→∃t,iter step n s=some t∧Q t
 |0,s,_,hn=>by omega
 |n+1,s,hI,hn=>by
  obtain⟨r,h1,h2,h3⟩:=h s hI;cases r with
  |inr t=>exact⟨t,by show Ab (step s) _=_; rw[h1]; rfl,h3 t rfl⟩
  |inl s'=>
   obtain⟨i',lt⟩:=h2 s' rfl;obtain⟨t,e,q⟩:=QN μ I Q h n s' i' (by omega);exact⟨t,by show Ab (step s) _=_; rw[h1]; exact e,q⟩
theorem TP (s:ByteArray)(i:Nat):1≤(Utf8.decode s i).2:=by
 unfold Utf8.decode;simp only;repeat' split
 all_goals simp
theorem KG:9223372036854775808≤Fx:=AlS rfl
theorem AbL (c:Int):LS c=some (decide (c≤32)||decide (c>126)):=rfl
theorem Ve (s:ByteArray)(b:Bool)(hs:s.size<9223372036854775808):Tot (Db s b):=by
 unfold Db;refine Dk ?_ fun a _=> ?_
 ·obtain⟨t,e,_⟩:=QN (step:=DG s b) (fun i=>s.size-i) (fun _=>True) (fun _=>True) (fun i _=>by
   unfold DG;by_cases hi:i<s.size
   ·rw[AlH hi];simp only[bnd,AbL,Aa];split
    ·exact⟨_,rfl,fun s' h=>(by cases h),fun _ _=>trivial⟩
    ·refine⟨_,rfl,fun s' h=> ?_,fun _ _=>trivial⟩;cases h;have:=TP s i;exact⟨trivial,by omega⟩
   ·rw[AlG hi];exact⟨_,rfl,fun s' h=>(by cases h),fun _ _=>trivial⟩) Fx 0 trivial (by have:=KG; omega)
  exact⟨t,e⟩
 ·cases a with
  |inl _=>exact tot _
  |inr _=>exact tot _
theorem Afe (s:ByteArray):Tot (EY s):=by
 unfold EY;refine Dk (Rh fun h=> ?_) fun a _=>tot _;simp only[AlD,AlL]at h;unfold DH EA;refine Dk (Dk (Ve s true (by omega)) fun a _=>tot _) fun a _=>tot _
theorem AbJ {s:ByteArray}{b:Bool}(h:EY s=some b):b=true→eqS s (⟨#[]⟩:ByteArray)=false∧s.size≤64:=by
 unfold EY at h;obtain⟨x,_,h⟩:=Ae h;have h:=AlC (AiC h);intro hb;rw[hb]at h;simp only[AlD,Bool.not_eq_true',AlL]at h;exact⟨h.1.1,by omega⟩
theorem Vn (c:Int):Tot (Dr c):=tot _
theorem AdE (c:Int):Tot (Dn c):=by
 unfold Dn;exact Dk (Rh fun _=>Vn c) fun a _=>tot _
theorem Adl (s:ByteArray):Tot (Gr s):=by
 unfold Gr;refine Rg (fun _=>tot _) fun h=> ?_;simp only[Bool.or_eq_false_iff,decide_eq_false_iff_not]at h;refine Dk ?_ fun a _=> ?_
 ·obtain⟨t,e,_⟩:=QN (step:=Bo s) (fun i=>s.size-i) (fun _=>True) (fun _=>True) (fun i _=>by
   unfold Bo;by_cases hi:i<s.size
   ·rw[AlH hi];have hd:=TP s i;obtain⟨x4,h4⟩:=Rh (b:=((i:Int)==(w64 ((s.size:Int)-1)))) fun _=>Vn ((Utf8.decode s i).1:Int);obtain⟨x7,h7⟩:=Rh (b:=((i:Int)==0)) fun _=>Vn ((Utf8.decode s i).1:Int);obtain⟨x9,h9⟩:=Rh (b:=(!((i:Int)==0))) fun _=>AdE ((Utf8.decode s i).1:Int);simp only[bnd,h4,h7,h9,Aa];split
    ·exact⟨_,rfl,fun s' h=>(by cases h; exact⟨trivial,by omega⟩),fun _ _=>trivial⟩
    ·split
     ·exact⟨_,rfl,fun s' h=>(by cases h),fun _ _=>trivial⟩
     ·split
      ·exact⟨_,rfl,fun s' h=>(by cases h; exact⟨trivial,by omega⟩),fun _ _=>trivial⟩
      ·split
       ·exact⟨_,rfl,fun s' h=>(by cases h),fun _ _=>trivial⟩
       ·exact⟨_,rfl,fun s' h=>(by cases h; exact⟨trivial,by omega⟩),fun _ _=>trivial⟩
   ·rw[AlG hi];exact⟨_,rfl,fun s' h=>(by cases h),fun _ _=>trivial⟩) Fx 0 trivial (by have:=KG; omega)
  exact⟨t,e⟩
 ·cases a with
  |inl _=>exact tot _
  |inr _=>exact tot _
theorem Ah9: ∀(l:List UInt8) (c:UInt8),Lib.indexByte l c<l.length
 | [],c=>by simp[Lib.indexByte]
 |b::l,c=>by
  have:=Ah9 l c;unfold Lib.indexByte;split
  ·rw[AlM]; omega
  ·split
   ·rw[AlM]; omega
   ·rw[AlM]; omega
theorem Cs (s:ByteArray):s.data.toList.length=s.size:=by rw[Array.length_toList]; rfl
theorem WJ (s:ByteArray): ∃x:Int,Ct s (⟨#[46]⟩:ByteArray)=some x∧ -1≤x∧x<s.size:=by
 unfold Ct A5 B3;simp only[bnd];by_cases h:((((⟨#[46]⟩:ByteArray).size:Int)==0)||eqS (⟨#[46]⟩:ByteArray) s)=true
 ·rw[AlH h];refine⟨0,rfl,by omega,?_⟩;have h1:eqS (⟨#[46]⟩:ByteArray) s=true:=by
   cases he:eqS (⟨#[46]⟩:ByteArray) s with
   |true=>rfl
   |false=>rw[he]at h; cases h
  have h2: [(46:UInt8)]=s.data.toList:=by simpa[eqS]using h1
  have h3:=Cs s;rw[←h2]at h3;simp only[AlM,Al1]at h3;omega
 ·rw[AlG h];refine⟨Adv s 46,rfl,Lib.indexByte_ge _ _,?_⟩;have:=Ah9 s.data.toList 46;rw[Cs]at this;exact this
theorem Hb {x:Int}(h0: -9223372036854775808≤x)(h1:x≤9223372036854775807):w64 x=x:=by
 unfold w64; omega
theorem IA {s:ByteArray}{lo hi:Int}(h0:0≤lo)(h1:lo≤hi)(h2:hi≤s.size):Vq s lo hi=some (s.extract lo.toNat hi.toNat):=by
 unfold Vq; rw[AlH ⟨h0,h1,h2⟩]
theorem U1 (s:ByteArray)(n k:Int):CS s n k=Ab (if(decide ((s.size:Int)>k))=true then some true else Ab (FV s (⟨#[46]⟩:ByteArray)) fun x3=>some (decide (x3≥n))) fun x2=>if x2=true then some false else
  Ab (HL s (⟨#[46]⟩:ByteArray)) fun x4=>Ab (BC (fun(s:(Unit)×Nat) (b0:ByteArray)=>if s.2=0 then Ab (BR b0 s) fun y=>some (y.2==0,y)else none) x4.1 x4.2.1 x4.2.2 ((),0)) fun x5=>
  if(x5.2.2.2).2=0 then some true else some false:=by
 unfold CS;cases decide ((s.size:Int)>k)with
 |true=>rfl
 |false=>cases FV s (⟨#[46]⟩:ByteArray)with|none=>rfl|some x=>rfl
theorem Zm (s:ByteArray)(n k:Int)(hk:k≤64):Tot (CS s n k):=by
 rw[U1];refine Dk ?_ fun x2 hx2=> ?_
 ·refine Rg (fun _=>tot _) fun _=> ?_;exact⟨_,rfl⟩
 ·refine Rg (fun _=>tot _) fun h=> ?_;have hsz:s.size≤64:=by
   cases hd:decide ((s.size:Int)>k)with
   |true=>rw[AlH hd]at hx2; cases hx2; cases h
   |false=>simp only[decide_eq_false_iff_not]at hd; omega
  have key: ∃r,BC (fun(s:(Unit)×Nat) (b0:ByteArray)=>if s.2=0 then Ab (BR b0 s) fun y=>some (y.2==0,y)else none) (⟨#[46]⟩:ByteArray) s 0 ((),0)=some r:=by
   have hb5: ∀(b0:ByteArray) (s:Unit×Nat),∃z:Nat,BR b0 s=some ((),z):=fun b0 s=>by
    unfold BR;obtain⟨y,hy⟩:=Adl b0;rw[hy];simp only[Aa];split
    ·exact⟨1,rfl⟩
    ·exact⟨0,rfl⟩
   unfold BC;rw[AlG (by decide)];obtain⟨tt,hit,hq⟩: ∃t,iter (AX (fun(s:(Unit)×Nat) (b0:ByteArray)=>if s.2=0 then Ab (BR b0 s) fun y=>some (y.2==0,y)else none) (⟨#[46]⟩:ByteArray) 0) Fx (s,((),0))=some t∧∀y,t= .inl y→y.2.2=0:=by
    exact QN (step:=AX (fun(s:(Unit)×Nat) (b0:ByteArray)=>if s.2=0 then Ab (BR b0 s) fun y=>some (y.2==0,y)else none) (⟨#[46]⟩:ByteArray) 0) (fun z=>z.1.size) (fun z=>z.1.size≤64∧z.2.2=0) (fun t=> ∀y,t= .inl y→y.2.2=0) (fun z hz=>by
     obtain⟨x,h1,h2,h3⟩:=WJ z.1;unfold AX;rw[h1];simp only[Aa];by_cases hx:x<0
     ·rw[AlH (by simpa using hx)];exact⟨_,rfl,fun s' h=>(by cases h),fun t ht y hy=>by subst hy; cases ht; exact hz.2⟩
     ·rw[AlG (by simpa using hx)];have hw:w64 (x+0)=x:=by rw[Int.add_zero]; exact Hb (by omega) (by omega)
      have hw1:w64 (x+((⟨#[46]⟩:ByteArray).size:Int))=x+1:=Hb (x:=x+1) (by omega) (by omega);rw[hw,hw1,IA (by omega) (by omega) (by omega),IA (lo:=x+1) (by omega) (by omega) (by omega)];simp only[Aa,AlH hz.2];obtain⟨zz,hzz⟩:=hb5 (z.1.extract (0:Int).toNat x.toNat) z.2;rw[hzz];simp only[Aa];split
      ·exact⟨_,rfl,fun s' h=>(by cases h),fun t ht y hy=>by subst hy; cases ht⟩
      ·rename_i hne;refine⟨_,rfl,fun s' h=> ?_,fun t ht=>by cases ht⟩;cases h;have e0:zz=0:=by simpa using hne
       refine⟨⟨?_,e0⟩,?_⟩
       ·simp only[ByteArray.size_extract]; omega
       ·simp only[ByteArray.size_extract]; omega) Fx (s,((),0)) ⟨hsz,rfl⟩ (by have:=KG; show s.size<Fx; omega)
   show Tot (Ab (iter _ Fx (s,((),0))) _);rw[hit];cases tt with
   |inr _=>exact tot _
   |inl y3=>
    have h0:=hq y3 rfl;obtain⟨zz,hzz⟩:=hb5 y3.1 y3.2;simp only[Aa,AlH h0,hzz];exact tot _
  obtain⟨r,hr⟩:=key;show Tot (Ab (BC _ (⟨#[46]⟩:ByteArray) s 0 ((),0)) _);rw[hr];simp only[Aa];exact AiX (fun _=>tot _) fun _=>tot _
theorem Aia (s:ByteArray):Tot (Gs s):=Dk (Zm s 8 64 (by decide)) fun a _=>tot _
theorem AeL (s:ByteArray):Tot (D5 s):=by
 unfold D5;refine Dk (Aia s) fun a _=>Dk ?_ fun a _=>tot _;unfold Hv;exact Rg (fun _=>tot _) fun _=>tot _
theorem Vr (s:ByteArray):Tot (CC s (⟨#[42,46]⟩:ByteArray)):=by
 unfold CC Bw Bv;refine Dk (Dk (Dk (Rh fun h=> ?_) fun a _=>tot _) fun b hb=> ?_) fun a _=>tot _
 ·simp only[AlL]at h;exact⟨_,IA (by omega) (by omega) h⟩
 ·refine Rg (fun _=>tot _) fun h=> ?_;obtain⟨x,_,hx⟩:=Ae hb;have hx:=AlC (AiC hx);have hb:b=true:=by simpa using h
  rw[hb]at hx;simp only[AlD,AlL]at hx;exact Dk ⟨_,IA (by omega) hx.1 (by omega)⟩ fun a _=>tot _
theorem YL (s:ByteArray):Tot (DJ s):=by
 unfold DJ DI;refine Dk (Dk (Aia s) fun a _=>Rg (fun _=>tot _) fun _=>Dk (Vr s) fun b _=>Dk (Rh fun _=>Zm _ 7 62 (by decide)) fun c _=>tot _) fun a _=>Dk ?_ fun a _=>tot _;unfold Hv;exact Rg (fun _=>tot _) fun _=>tot _
theorem AbG {α:Type}{x:Option α}{d:α}(h:Tot x):x=some (x.getD d):=by
 obtain⟨r,h⟩:=h;rw[h]; rfl
def textV (s:ByteArray):Bool:=(EY s).getD false
def nameV (s:ByteArray):Int:=(D5 s).getD 0
def patV (s:ByteArray):Int:=(DJ s).getD 0
theorem AbK (s:ByteArray):EY s=some (textV s):=AbG (Afe s)
theorem U2 (s:ByteArray):D5 s=some (nameV s):=AbG (AeL s)
theorem AcQ (s:ByteArray):DJ s=some (patV s):=AbG (YL s)
theorem YU {s:ByteArray}(h:textV s=true):eqS s (⟨#[]⟩:ByteArray)=false∧s.size≤64:=AbJ (AbK s) h
theorem Wv {s:ByteArray}{n k:Int}(h:CS s n k=some true):(s.size:Int)≤k:=by
 rw[U1]at h;obtain⟨x,hx,h⟩:=Ae h;cases hd:decide ((s.size:Int)>k)with
 |true=>
  rw[AlH hd]at hx;cases hx;cases h
 |false=>simp only[decide_eq_false_iff_not]at hd; omega
theorem Ady {s:ByteArray}(h:Gs s=some true):s.size≤64:=by
 obtain⟨x,hx,h⟩:=Ae h;cases h;have:=Wv hx;omega
theorem V4 {b:Bool}{r:Int}(h:Hv b=some r)(h0:r=0):b=true:=by
 cases b with
 |true=>rfl
 |false=>
  have h2:(110:Int)=r:=AlC h;omega
theorem AaG {s:ByteArray}(h:nameV s=0):s.size≤64:=by
 have e:=U2 s;rw[h]at e;obtain⟨x,hx,e⟩:=Ae e;obtain⟨y,hy,e⟩:=Ae e;cases e;have:=V4 hy rfl;rw[this]at hx;exact Ady hx
theorem SY {s:ByteArray}{c:ByteArray×Bool}(h:CC s (⟨#[42,46]⟩:ByteArray)=some c)(h1:c.2=true):c.1.size+2=s.size:=by
 unfold CC Bw Bv at h;obtain⟨d,hd,h⟩:=Ae h;have h:=AlC h;subst h;obtain⟨p,hp,hd⟩:=Ae hd;cases p with
 |false=>
  have hd:=AlC hd;subst hd;cases h1
 |true=>
  obtain⟨q,hq,hd⟩:=Ae hd;have hd:=AlC hd;subst hd;unfold Vq at hq;split at hq
  ·rename_i hc;have hq:=AlC hq;have e2:(⟨#[42,46]⟩:ByteArray).size=2:=rfl;rw[e2]at hq hc;show q.size+2=s.size;rw[←hq,ByteArray.size_extract];omega
  ·cases hq
theorem AcP {s:ByteArray}(h:patV s=0):s.size≤64:=by
 have e:=AcQ s;rw[h]at e;obtain⟨x,hx,e⟩:=Ae e;obtain⟨y,hy,e⟩:=Ae e;cases e;have h1:=V4 hy rfl;unfold DI at hx;obtain⟨b,hb,hx⟩:=Ae hx;cases b with
 |true=>exact Ady hb
 |false=>
  rw[AlG (by decide)]at hx;obtain⟨c,hc,hx⟩:=Ae hx;obtain⟨d,hd,hx⟩:=Ae hx;have hx:=AlC hx;subst hx;have h2:(c.2&&d)=true:=h1;simp only[AlD]at h2;rw[h2.1,h2.2]at hd;have h3:=Wv hd;have h4:=SY hc h2.1;omega
def RR (right:ByteArray→Int):List ByteArray→List ByteArray→Bool
 |_,[]=>true
 |met,s::l=> !(met.any (eqS s))&&right s==0&&RR right (met++[s]) l
def MC (met:List ByteArray):List (ByteArray×Bool):=met.map fun s=>(s,true)
theorem RP: ∀(met:List ByteArray) (s:ByteArray) (i:Nat),(lkI (MC met) s i).isSome=met.any (eqS s)∧∀p,lkI (MC met) s i=some p→p.2=true
 | [],s,i=>⟨rfl,fun p h=>by cases h⟩
 |a::met,s,i=>by
  have ih:=RP met s (i+1);rw[List.any_cons];cases h:eqS s a with
  |true=>
   refine⟨?_,fun p hp=> ?_⟩
   ·show(if eqS s a=true then some (i,true)else lkI (MC met) s (i+1)).isSome=_;rw[AlH h]; rfl
   ·have hp:(if eqS s a=true then some (i,true)else lkI (MC met) s (i+1))=some p:=hp;rw[AlH h]at hp;cases hp; rfl
  |false=>
   refine⟨?_,fun p hp=> ?_⟩
   ·show(if eqS s a=true then some (i,true)else lkI (MC met) s (i+1)).isSome=_;rw[AlG (by rw[h]; decide)]; exact ih.1
   ·have hp:(if eqS s a=true then some (i,true)else lkI (MC met) s (i+1))=some p:=hp;rw[AlG (by rw[h]; decide)]at hp;exact ih.2 p hp
theorem Adb (met:List ByteArray)(s:ByteArray):lkB (MC met) s=met.any (eqS s):=by
 have h:=RP met s 0;unfold lkB;rw[←h.1];cases e:lkI (MC met) s 0 with
 |none=>rfl
 |some p=>rw[AlV,Option.getD_some,h.2 p e]; rfl
theorem Agd (met:List ByteArray)(s:ByteArray)(h:met.any (eqS s)=false):(lkI (MC met) s 0).isNone=true:=by
 have h1:=(RP met s 0).1;rw[h]at h1;cases e:lkI (MC met) s 0 with
 |none=>rfl
 |some p=>rw[e]at h1; cases h1
theorem Akc (right:ByteArray→Int)(mr:ByteArray→Option Int)(hr: ∀s,mr s=some (right s)): ∀(l met:List ByteArray) (i:Int),
  DK (fun(i1:Int) (x2:ByteArray) (s1:List (ByteArray×Bool))=>Ab (gu (!(lkB s1 x2)) (mr x2)) fun x3=>if((lkB s1 x2)||(x3 !=0))=true then some (.inr false)else if(lkI s1 x2 0).isNone=true then some (.inl (s1++[(x2,true)]))else none) l i (MC met)
   =some (if RR right met l=true then .inl (MC (met++l))else .inr false)
 | [],met,i=>by simp[DK,RR]
 |s::l,met,i=>by
  have ih:=Akc right mr hr l (met++[s]) (i+1);have hm':=Adb met s;simp only[DK,hr]at ih⊢;rw[hm'];cases hm:met.any (eqS s)with
  |true=>simp[gu,RR,hm]
  |false=>
   simp only[gu,AmS,cond_true,Aa,Amy];cases h0:right s==0 with
   |false=>
    have h1:(right s !=0)=true:=by simp only[bne,h0,AmS]
    rw[AlH h1];simp[RR,hm,h0]
   |true=>
    have h1:(right s !=0)=false:=by simp only[bne,h0,AmB]
    rw[h1];simp only[Bool.false_eq_true,if_false,Agd met s hm,if_true,Aa];have e:MC met++[(s,true)]=MC (met++[s]):=by simp[MC]
    rw[e];simp only[gu]at ih;rw[ih];simp[RR,hm,h0]
def listV (right:ByteArray→Int)(l:List ByteArray)(a b:Int):Bool:=RR right [] l&&decide ((l.length:Int)≥a)&&decide ((l.length:Int)≤b)
theorem Adf (l:List ByteArray)(a b:Int):G7 l a b=some (listV patV l a b):=by
 unfold G7;have h:=Akc patV DJ AcQ l [] 0;show Ab (DK _ l 0 (MC [])) _=_;unfold J0;rw[h];unfold listV;cases RR patV [] l<;>rfl
theorem Ade (l:List ByteArray)(a b:Int):G8 l a b=some (listV nameV l a b):=by
 unfold G8;have h:=Akc nameV D5 U2 l [] 0;show Ab (DK _ l 0 (MC [])) _=_;unfold J1;rw[h];unfold listV;cases RR nameV [] l<;>rfl
theorem WA {right:ByteArray→Int}: ∀{l met:List ByteArray},RR right met l=true→∀s∈l,right s=0
 | [],met,_,s,hs=>by cases hs
 |a::l,met,h,s,hs=>by
  simp only[RR,AlD,Amp]at h;rcases Al6.1 hs with e|hs
  ·rw[e]; exact h.1.2
  ·exact WA h.2 s hs
def numB (n:Int):Bool:=decide (n≥0)&&decide (n≤1099511627776)
def sigB (s:g_api_Sig):Bool:=decide ((QL s.E s.S).toNat<1152921504606845789)
def promBC (p:g_api_Promise):Bool:=numB p.Log&&numB p.At&&decide ((QL p.Leaf.1 p.Leaf.2).toNat<2305843009213693951)&&sigB p.Sig
theorem Tu (n:Int):EZ n=some (numB n):=rfl
theorem Wb (s:g_api_Sig):HX s=some (sigB s):=by
 unfold HX sigB;simp only[bnd,AlJ,AmC];omega
theorem max_eq (a b:UInt64):CU [a,b]=some (QL a b):=by
 have e1:BN [a,b] (a,1)=some (.inl (QL a b,2)):=rfl;have e2:BN [a,b] (QL a b,2)=some (.inr (QL a b)):=rfl;have h: ∀n,iter (BN [a,b]) (n+1+1) (a,1)=some (QL a b):=fun n=>by
  simp only[iter,e1,Aa,e2]
 have hf:iter (BN [a,b]) Fx (a,1)=some (QL a b):=h 18446744073709551614;have i0:idx [a,b] 0=some a:=rfl;have d0:decide ((([a,b]:List UInt64).length:Int)<1)=false:=rfl;unfold CU;rw[d0,i0];simp only[Bool.false_eq_true,if_false,Aa,hf]
theorem AeY {c v:Bool}:gu c (some v)=some (c&&v):=by cases c<;>rfl
theorem ZC {α:Type} [Inhabited α](o:Option α):gu true o=o:=rfl
theorem Aih {α:Type} [Inhabited α](o:Option α):gu false o=some default:=rfl
theorem DY {α β:Type}(a:α)(k:α→β):bnd a k=k a:=rfl
theorem XU (p:g_api_Promise):HY p=some (promBC p):=by
 unfold HY promBC;simp only[Tu,max_eq,Wb,AeY,DY,Aa];have e: ∀x:UInt64,decide ((x.toNat:Int)<2305843009213693951)=decide (x.toNat<2305843009213693951):=fun x=>by
  rw[AmC]; omega
 simp only[e];cases numB p.Log with
 |false=>simp only[AmI,Aih,Aa]
 |true=>
  cases numB p.At with
  |false=>simp only[AmI,Ama,Aih,Aa]
  |true=>
   simp only[Ama,ZC,Aa];cases decide ((QL p.Leaf.1 p.Leaf.2).toNat<2305843009213693951)<;>simp only[AmI,Ama]
def promsB:Int→List g_api_Promise→Bool
 |_,[]=>true
 |last,p::l=>promBC p&& !(decide (p.Log≤last))&&promsB p.Log l
theorem Zb: ∀(l:List g_api_Promise) (i last:Int),∃z:Int,DK D3 l i last=some (if promsB last l=true then .inl z else .inr false)
 | [],i,last=>⟨last,rfl⟩
 |p::l,i,last=>by
  obtain⟨z,ih⟩:=Zb l (i+1) p.Log;refine⟨z,?_⟩;have e:D3 i p last=some (if(promBC p&& !(decide (p.Log≤last)))=true then .inl p.Log else .inr false):=by
   unfold D3;rw[XU,Aa];cases promBC p<;>cases decide (p.Log≤last)<;>rfl
  show Ab (D3 i p last) _=_;rw[e];cases h:promBC p&& !(decide (p.Log≤last))with
  |false=>
   simp[promsB,h]
  |true=>
   rw[AlH rfl,Aa];show DK D3 l (i+1) p.Log=_;rw[ih];simp[promsB,h]
def formB (c:g_api_Cert):Bool:=promsB (-1) c.Proms&&(numB c.Serial&&numB c.From&&numB c.Until&&decide (c.From<c.Until))&&(textV c.Issuer&&(!((c.Key.toNat:Int)==0))&&decide ((c.Key.toNat:Int)<2305843009213691579)&&decide ((c.Proms.length:Int)≤4)&&sigB c.Sig)&&(if c.Ca=true then textV c.Subject&&((c.Names.length:Int)==0)&&decide (c.Depth≥0)&&decide (c.Depth≤4)&&listV patV c.Permit 0 8 else eqS c.Subject (⟨#[]⟩:ByteArray)&&listV nameV c.Names 1 8&&(c.Depth==0)&&((c.Permit.length:Int)==0))
theorem AdT (c:g_api_Cert):Jn c=some (formB c):=by
 obtain⟨z,hz⟩:=Zb c.Proms 0 (-1);unfold Jn formB;rw[hz];cases promsB (-1) c.Proms with
 |false=>rfl
 |true=>
  rw[AlH rfl,Aa];simp only[Tu,AbK,Wb,Adf,Ade,AeY,DY,Aa,Ama];have e1:decide (c.From≥c.Until)= !decide (c.From<c.Until):=by
   rw[←decide_not,AmC]; omega
  have e2:decide ((c.Key.toNat:Int)≥2305843009213691579)= !decide ((c.Key.toNat:Int)<2305843009213691579):=by
   rw[←decide_not,AmC]; omega
  have e3:decide ((c.Proms.length:Int)>4)= !decide ((c.Proms.length:Int)≤4):=by
   rw[←decide_not,AmC]; omega
  rw[e1,e2,e3];generalize numB c.Serial=a1;generalize numB c.From=a2;generalize numB c.Until=a3;generalize decide (c.From<c.Until)=a4;generalize textV c.Issuer=b1;generalize ((c.Key.toNat:Int)==0)=b2;generalize decide ((c.Key.toNat:Int)<2305843009213691579)=b3;generalize decide ((c.Proms.length:Int)≤4)=b4;generalize sigB c.Sig=b5;cases a1<;>cases a2<;>cases a3<;>cases a4<;>try rfl
  all_goals cases b1<;>cases b2<;>cases b3<;>cases b4<;>cases b5<;>try rfl
  cases c.Ca with
  |true=>
   show some _=some _;generalize listV patV c.Permit 0 8=d1;generalize textV c.Subject=d2;generalize ((c.Names.length:Int)==0)=d3;generalize decide (c.Depth≥0)=d4;generalize decide (c.Depth≤4)=d5;cases d1<;>cases d2<;>cases d3<;>cases d4<;>cases d5<;>rfl
  |false=>
   show some _=some _;generalize listV nameV c.Names 1 8=d1;generalize eqS c.Subject (⟨#[]⟩:ByteArray)=d2;cases d1<;>cases d2<;>rfl
theorem TW {α:Type}(b:Nat){xs ys:List α}(h:(xs.length+ys.length)*b≤140737488355328)(h1:xs.length+ys.length≤140737488355328):app b xs ys=some (xs++ys):=by unfold app; rw[AlH ⟨h,h1⟩]
theorem YF {α:Type}(b:Nat){ys:List α}(h:ys.length*b≤140737488355328)(h1:ys.length≤140737488355328):app b [] ys=some ys:=by
 rw[TW b (by simpa using h) (by simpa using h1)]; rfl
theorem cut_tl {α:Type}(x:α)(xs:List α):cut (x::xs) 1 (((x::xs).length:Nat):Int)=some xs:=by
 unfold cut;rw[AlH ⟨by omega,by rw[AlM]; omega,by omega⟩];show some (List.take _ xs)=_;rw[Al8];simp
def be8 (n:Int):List UInt8:=[toB (BA n 56),toB (BA n 48),toB (BA n 40),toB (BA n 32),toB (BA n 24),toB (BA n 16),toB (BA n 8),toB (BA n 0)]
def Qb:List UInt8→Bool
 | []=>false
 | [_]=>true
 |a::b::l=>decide (((a::b::l).length:Int)≤8)&&((a.toNat:Int) !=((toB (-((shrB b 7).toNat:Int))).toNat:Int))
def AbF:List UInt8→List UInt8
 | []=> []
 | [a]=> [a]
 |a::b::l=>if Qb (a::b::l)=true then a::b::l else AbF (b::l)
theorem U7 (l:List UInt8):JW l=some (Qb l):=by
 match l with
 | []=>rfl
 | [a]=>rfl
 |a::b::l=>
  unfold JW;have e0:(((a::b::l).length:Int)==0)=false:=by simp only[Amj,AlM]; omega
  have e1:(((a::b::l).length:Int)==1)=false:=by simp only[Amj,AlM]; omega
  have i0:idx (a::b::l) 0=some a:=rfl;have i1:idx (a::b::l) 1=some b:=rfl;rw[e0,e1,i0,i1];simp only[Bool.false_eq_true,if_false,Aa,DY,Qb];cases decide (((a::b::l).length:Int)≤8)<;>rfl
theorem AbE: ∀(n:Nat) (l:List UInt8),l.length<n→iter EK n l=some (AbF l)
 |0,l,h=>by omega
 |n+1,l,h=>by
  show Ab (EK l) _=_;match l with
  | []=>rfl
  | [a]=>rfl
  |a::b::l=>
   have ih:=AbE n (b::l) (by simp only[AlM]at h⊢; omega);have e0:decide (((a::b::l).length:Int)>1)=true:=by simp only[AlL,AlM]; omega
   cases hl:Qb (a::b::l)with
   |true=>
    have e:EK (a::b::l)=some (.inr (a::b::l)):=by
     unfold EK;rw[e0,AlH rfl,U7,hl];rfl
    rw[e];simp[AbF,hl]
   |false=>
    have e:EK (a::b::l)=some (.inl (b::l)):=by
     unfold EK;rw[e0,AlH rfl,U7,hl,cut_tl];rfl
    rw[e];simp only[Aa];rw[ih];simp[AbF,hl]
theorem UA: ∀(l:List UInt8),(AbF l).length≤l.length
 | []=>AlK _
 | [a]=>AlK _
 |a::b::l=>by
  have ih:=UA (b::l);unfold AbF;split
  ·exact AlK _
  ·rw[AlM]; omega
def NN (n:Int):g_api_Item:=⟨2,AbF (be8 n),[]⟩
theorem be8_eq (n:Int):CX (MU n) 8 0 (0,0,0,0,0,0,0,0)=some (toB (BA n 56),toB (BA n 48),toB (BA n 40),toB (BA n 32),toB (BA n 24),toB (BA n 16),toB (BA n 8),toB (BA n 0)):=rfl
theorem ZT {l:List UInt8}(h:l.length≤140737488355328):BF l=some l:=by
 unfold BF;rw[YF 1 (by omega) h]; rfl
theorem AdC (n:Int):F0 n=some (NN n):=by
 have h8:(be8 n).length=8:=rfl;have h:=UA (be8 n);unfold F0;rw[be8_eq];show Ab (Ab (iter EK Fx (be8 n)) _) _=_;rw[AbE Fx (be8 n) (by rw[h8]; have:=KG; omega)];show Ab (BF (AbF (be8 n))) _=_;rw[ZT (by omega)];rfl
def TV (x:UInt64):g_api_Item:=NN (w64 (x.toNat:Int))
theorem ZZ (x:UInt64):Fl x=some (TV x):=by unfold Fl; rw[AdC]; rfl
def LB (s:ByteArray):g_api_Item:=⟨12,s.data.toList,[]⟩
def VA (v:Bool):g_api_Item:=⟨1,[if v=true then 255 else 0],[]⟩
def SM (l:List g_api_Item):g_api_Item:=⟨48,[],l⟩
theorem UB {s:ByteArray}(h:s.size≤140737488355328):Jx s=some (LB s):=by
 unfold Jx;rw[YF 1 (by rw[Cs]; omega) (by rw[Cs]; exact h)]; rfl
theorem Ahg (v:Bool):PK v=some (VA v):=by cases v<;>rfl
theorem N2 {l:List g_api_Item}(h:l.length≤1000000):GZ l=some (SM l):=by
 unfold GZ B2;rw[YF 56 (by omega) (by omega)]; rfl
theorem YS: ∀(l:List ByteArray) (i:Int) (a:List g_api_Item),(∀s∈l,s.size≤64)→a.length+l.length≤1000000→DP Cy l i a=some (a++l.map LB)
 | [],i,a,_,_=>by simp[DP]
 |s::l,i,a,h,hn=>by
  rw[AlM]at hn;have ih:=YS l (i+1) (a++[LB s]) (fun x hx=>h x (Al4 _ hx)) (by rw[AlI]; show a.length+1+_≤_; omega);have e:Cy i s a=some (a++[LB s]):=by
   unfold Cy;rw[UB (by have:=h s AlZ; omega),Aa,TW 56 (by show(a.length+1)*56≤_; omega) (by show a.length+1≤_; omega)];rfl
  show Ab (Cy i s a) _=_;rw[e];show DP _ l (i+1) (a++[LB s])=_;rw[ih];simp
def K5 (l:List ByteArray):g_api_Item:=SM (l.map LB)
theorem YT {l:List ByteArray}(h: ∀s∈l,s.size≤64)(hn:l.length≤1000000):Cq l=some (K5 l):=by
 unfold Cq;rw[YS l 0 [] h (by simpa using hn)];simp only[Aa,Amc];rw[N2 (by rw[Amo]; exact hn)]; rfl
def Ry (p:g_api_Promise):g_api_Item:=SM [NN p.Log,NN p.At,TV p.Leaf.1,TV p.Leaf.2,TV p.Sig.E,TV p.Sig.S]
theorem AfH (p:g_api_Promise):Jo p=some (Ry p):=by
 unfold Jo;simp only[AdC,ZZ,Aa];rw[N2 (by simp)]; rfl
theorem Za: ∀(l:List g_api_Promise) (i:Int) (a:List g_api_Item),a.length+l.length≤1000000→DP BK l i a=some (a++l.map Ry)
 | [],i,a,_=>by simp[DP]
 |s::l,i,a,hn=>by
  rw[AlM]at hn;have ih:=Za l (i+1) (a++[Ry s]) (by rw[AlI]; show a.length+1+_≤_; omega);have e:BK i s a=some (a++[Ry s]):=by
   unfold BK;rw[AfH,Aa,TW 56 (by show(a.length+1)*56≤_; omega) (by show a.length+1≤_; omega)];rfl
  show Ab (BK i s a) _=_;rw[e];show DP _ l (i+1) (a++[Ry s])=_;rw[ih];simp
def Rw (l:List g_api_Promise):g_api_Item:=SM (l.map Ry)
theorem AcG {l:List g_api_Promise}(hn:l.length≤1000000):B4 l=some (Rw l):=by
 unfold B4;rw[Za l 0 [] (by simpa using hn)];simp only[Aa,Amc];rw[N2 (by rw[Amo]; exact hn)]; rfl
structure YK (c:g_api_Cert):Prop where
 issuer:c.Issuer.size≤64
 subject:c.Subject.size≤64
 names: ∀s∈c.Names,s.size≤64
 few:c.Names.length≤8
 permit: ∀s∈c.Permit,s.size≤64
 fewP:c.Permit.length≤8
 proms:c.Proms.length≤4
def Zd (c:g_api_Cert):g_api_Item:=SM [NN c.Serial,LB c.Issuer,LB c.Subject,TV c.Key,K5 c.Names,NN c.From,NN c.Until,VA c.Ca,NN c.Depth,K5 c.Permit]
def Pb (c:g_api_Cert):g_api_Item:=SM [Zd c,Rw c.Proms]
def wholeI (c:g_api_Cert):g_api_Item:=SM [Pb c,SM [TV c.Sig.E,TV c.Sig.S]]
theorem AcI {c:g_api_Cert}(h:YK c):Ll c=some (Zd c):=by
 unfold Ll;have h1:=h.issuer; have h2:=h.subject; have h3:=h.few; have h4:=h.fewP;simp only[AdC,ZZ,Ahg,UB (s:=c.Issuer) (by omega),UB (s:=c.Subject) (by omega),YT h.names (by omega),YT h.permit (by omega),Aa];rw[N2 (by simp)]; rfl
theorem ZY {c:g_api_Cert}(h:YK c):J2 c=some (Pb c):=by
 unfold J2;have h1:=h.proms;rw[AcI h,AcG (by omega)];simp only[Aa];rw[N2 (by simp)]; rfl
theorem Abw {c:g_api_Cert}(h:YK c):KB c=some (wholeI c):=by
 unfold KB;rw[ZY h,ZZ,ZZ];simp only[Aa];rw[N2 (by simp)];simp only[Aa];rw[N2 (by simp)]; rfl
structure Form (c:g_api_Cert):Prop where
 proms:promsB (-1) c.Proms=true
 serial:numB c.Serial=true
 frm:numB c.From=true
 til:numB c.Until=true
 lt:c.From<c.Until
 issuer:textV c.Issuer=true
 key0:(c.Key.toNat:Int)≠0
 keyQ:(c.Key.toNat:Int)<2305843009213691579
 nproms:(c.Proms.length:Int)≤4
 sig:sigB c.Sig=true
 ca:c.Ca=true→textV c.Subject=true∧c.Names=[]∧0≤c.Depth∧c.Depth≤4∧listV patV c.Permit 0 8=true
 leaf:c.Ca=false→c.Subject=(⟨#[]⟩:ByteArray)∧listV nameV c.Names 1 8=true∧c.Depth=0∧c.Permit=[]
theorem Yk {c:g_api_Cert}(h:formB c=true):Form c:=by
 unfold formB at h;simp only[AlD,AlL,Bool.not_eq_true',Amj]at h;obtain⟨⟨⟨h1,⟨⟨h2,h3⟩,h4⟩,h5⟩,⟨⟨⟨h6,h7⟩,h8⟩,h9⟩,h10⟩,h11⟩:=h;refine⟨h1,h2,h3,h4,h5,h6,h7,h8,h9,h10,fun e=> ?_,fun e=> ?_⟩
 ·rw[AlH e]at h11;simp only[AlD,AlL,Amp]at h11;obtain⟨⟨⟨⟨a,b⟩,d⟩,f⟩,g⟩:=h11;exact⟨a,List.eq_nil_of_length_eq_zero (by omega),by omega,f,g⟩
 ·rw[e]at h11;simp only[Bool.false_eq_true,if_false,AlD,AlL,Amp]at h11;obtain⟨⟨⟨a,b⟩,d⟩,f⟩:=h11;exact⟨PQ.1 a,b,d,List.eq_nil_of_length_eq_zero (by omega)⟩
theorem RQ {right:ByteArray→Int}{l:List ByteArray}{a b:Int}(h:listV right l a b=true):a≤l.length∧(l.length:Int)≤b∧∀s∈l,right s=0:=by
 unfold listV at h;simp only[AlD,AlL]at h;exact⟨by omega,h.2,WA h.1.1⟩
theorem Form.sized {c:g_api_Cert}(h:Form c):YK c:=by
 have hi:=(YU h.issuer).2;have hp:=h.nproms;cases hc:c.Ca with
 |true=>
  obtain⟨h1,h2,h3,h4,h5⟩:=h.ca hc;obtain⟨l1,l2,l3⟩:=RQ h5;exact⟨hi,(YU h1).2,(by rw[h2]; intro s hs; cases hs),by rw[h2]; decide,fun s hs=>AcP (l3 s hs),by omega,by omega⟩
 |false=>
  obtain⟨h1,h2,h3,h4⟩:=h.leaf hc;obtain⟨l1,l2,l3⟩:=RQ h2;exact⟨hi,by rw[h1]; decide,fun s hs=>AaG (l3 s hs),by omega,(by rw[h4]; intro s hs; cases hs),by rw[h4]; decide,by omega⟩
theorem AkU (t:Int):Jw t=some (if t=1 then(⟨1,428⟩,true)else if t=2 then(⟨2,299⟩,true)else if t=4 then(⟨4,429⟩,true)else if t=12 then(⟨12,430⟩,true)else if t=48 then(⟨48,432⟩,true)else(⟨0,-1⟩,false)):=by
 by_cases h1:t=1
 ·subst h1; rfl
 by_cases h2:t=2
 ·subst h2; rfl
 by_cases h3:t=4
 ·subst h3; rfl
 by_cases h4:t=12
 ·subst h4; rfl
 by_cases h5:t=48
 ·subst h5; rfl
 rw[AlG h1,AlG h2,AlG h3,AlG h4,AlG h5];have b: ∀(k:Int),t≠k→((k==t)=true)=False:=fun k h=>by simp only[Amp,eq_iff_iff,iff_false]; exact fun e=>h e.symm
 have g:BV (Ap tab_2) tab_2.length 0 t=some (.inl t):=by
  have i: ∀(j:Nat) (k:GD),idx tab_2 (j:Int)=some k→t≠k.tag_→Ap tab_2 (j:Int) t=some (.inl t):=fun j k e hk=>by
   have hb:(k.tag_==t)=false:=by simp only[Amj]; exact fun e=>hk e.symm
   unfold Ap MT;rw[e];simp only[Aa,hb,Bool.false_eq_true,if_false]
  show Ab (Ap tab_2 ((0:Nat):Int) t) _=_;rw[i 0 ⟨1,428⟩ rfl h1];show Ab (Ap tab_2 ((1:Nat):Int) t) _=_;rw[i 1 ⟨2,299⟩ rfl h2];show Ab (Ap tab_2 ((2:Nat):Int) t) _=_;rw[i 2 ⟨4,429⟩ rfl h3];show Ab (Ap tab_2 ((3:Nat):Int) t) _=_;rw[i 3 ⟨12,430⟩ rfl h4];show Ab (Ap tab_2 ((4:Nat):Int) t) _=_;rw[i 4 ⟨48,432⟩ rfl h5];rfl
 unfold Jw BT;rw[g];rfl
def RV (t:Int):Bool:=t==1||t==2||t==4||t==12||t==48
def boolB (b:List UInt8):Bool:=match b with| [x]=>x==0||x==255|_=>false
def printB (b:List UInt8):Bool:=b.all fun c=>decide (32≤c.toNat)&&decide (c.toNat≤126)
def Ads (t:Int)(b:List UInt8):Bool:=if t=1 then boolB b else if t=2 then Qb b else if t=4 then true else if t=12 then printB b else if t=48 then b.isEmpty else false
theorem Adr (b:List UInt8):HU b=some (boolB b):=by
 match b with
 | []=>rfl
 | [x]=>
  unfold HU;have e1:((([x]:List UInt8).length:Int)==1)=true:=rfl;have e2:idx [x] 0=some x:=rfl;rw[e1,e2];have e3: ∀n:UInt8,((x.toNat:Int)==n.toNat)=(x==n):=fun n=>by
   rw[Amz,Amp,Amp,←UInt8.toNat_inj];omega
  have z0:((x.toNat:Int)==0)=(x==0):=e3 0;have z1:((x.toNat:Int)==255)=(x==255):=e3 255;simp only[ZC,Aa,DY,z0,z1,Ama];show _=some (x==0||x==255);cases h:x==0 with
  |true=>rfl
  |false=>simp only[AmS,ZC,Aa,DY,z1,Amy]
 |x::y::l=>
  unfold HU;have e1:(((x::y::l).length:Int)==1)=false:=by simp only[Amj,AlM]; omega
  rw[e1];rfl
theorem Aic: ∀(a b:List UInt8),∃r,BV (AH (a++b)) b.length (a.length:Int) ()=some r∧(r= .inl ()↔printB b=true)∧∀i,r= .inr i→0≤i
 |a,[]=>⟨.inl (),rfl,by simp[printB],fun i h=>by cases h⟩
 |a,c::b=>by
  have hi:idx (a++c::b) (a.length:Int)=some c:=by
   unfold idx;rw[AlH (by omega)];simp
  obtain⟨r,h1,h2,h3⟩:=Aic (a++[c]) b;have ec:(decide ((c.toNat:Int)<32)||decide ((c.toNat:Int)>126))= !(decide (32≤c.toNat)&&decide (c.toNat≤126)):=by
   rw[Amz];simp only[Amr,Bool.not_eq_true',Bool.and_eq_false_iff,AlL,decide_eq_false_iff_not];omega
  have st:AH (a++c::b) (a.length:Int) ()=some (if(decide (32≤c.toNat)&&decide (c.toNat≤126))=true then .inl ()else .inr (a.length:Int)):=by
   unfold AH JX;rw[hi];simp only[Aa,DY,ec];cases decide (32≤c.toNat)&&decide (c.toNat≤126)<;>rfl
  show∃r,Ab (AH (a++c::b) (a.length:Int) ()) _=some r∧_;rw[st];cases hc:decide (32≤c.toNat)&&decide (c.toNat≤126)with
  |false=>exact⟨.inr (a.length:Int),rfl,by simp[printB,hc],fun i h=>(by cases h; omega)⟩
  |true=>
   refine⟨r,?_,?_,h3⟩
   ·show BV (AH (a++c::b)) b.length ((a.length:Int)+1) ()=some r;rw[←h1];simp
   ·rw[h2];simp only[printB,Amt,hc,Ama]
theorem Adq (b:List UInt8):Jm b=some (printB b):=by
 obtain⟨r,h1,h2,h3⟩:=Aic [] b;unfold Jm Cu CL;have h1:BV (AH b) b.length 0 ()=some r:=h1;rw[h1];cases r with
 |inl u=>rw[h2.1 rfl]; rfl
 |inr i=>
  have hp:printB b=false:=by
   cases h:printB b with
   |false=>rfl
   |true=>exact absurd (h2.2 h) (by simp)
  have hi:=h3 i rfl;rw[hp];show some (!(decide (i≥0)))=_;rw[AlY hi]; rfl
theorem Adp (b:List UInt8):Jk b=some b.isEmpty:=by
 cases b with
 |nil=>rfl
 |cons a l=>
  unfold Jk;have:(((a::l).length:Int)==0)=false:=by simp only[Amj,AlM]; omega
  rw[this]; rfl
theorem Yc {t:Int}(h:RV t=true):t=1∨t=2∨t=4∨t=12∨t=48:=by
 unfold RV at h;simp only[Amr,Amp]at h;omega
theorem TM {t:Int}(h:RV t=true): ∃k,Jw t=some (k,true)∧k.tag_=t∧∀b,QM k.may_ b=some (Ads t b):=by
 rcases Yc h with e|e|e|e|e
 ·subst e; exact⟨_,rfl,rfl,Adr⟩
 ·subst e; exact⟨_,rfl,rfl,U7⟩
 ·subst e; exact⟨_,rfl,rfl,fun b=>rfl⟩
 ·subst e; exact⟨_,rfl,rfl,Adq⟩
 ·subst e; exact⟨_,rfl,rfl,Adp⟩
theorem M8 {t:Int}(h:RV t=false):Jw t=some (⟨0,-1⟩,false)∧∀b,Ads t b=false:=by
 unfold RV at h;simp only[Bool.or_eq_false_iff,Amj]at h;obtain⟨⟨⟨⟨h1,h2⟩,h3⟩,h4⟩,h5⟩:=h;refine⟨?_,fun b=> ?_⟩
 ·rw[AkU,AlG h1,AlG h2,AlG h3,AlG h4,AlG h5]
 ·unfold Ads;rw[AlG h1,AlG h2,AlG h3,AlG h4,AlG h5]
def mayB:Nat→g_api_Item→Bool
 |0,_=>false
 |d+1,x=>Ads x.Tag x.B&&(x.Tag==48||x.L.isEmpty)&&x.L.all (mayB d)
theorem Aid (rF:g_api_Item→Int→Option Bool)(p:g_api_Item→Bool)(d:Int): ∀(a b:List g_api_Item),(∀y∈b,rF y (w64 (d-1))=some (p y))→
  ∃r,BV (Aw rF (a++b)) b.length (a.length:Int) d=some r∧(r= .inl d↔b.all p=true)∧(∀e,r= .inl e→e=d)∧∀i,r= .inr i→0≤i.1
 |a,[],_=>⟨.inl d,rfl,by simp,fun e h=>by cases h; rfl,fun i h=>by cases h⟩
 |a,c::b,h=>by
  have hi:idx (a++c::b) (a.length:Int)=some c:=by
   unfold idx;rw[AlH (by omega)];simp
  obtain⟨r,h1,h2,h4,h3⟩:=Aid rF p d (a++[c]) b fun y hy=>h y (Al4 _ hy);have st:Aw rF (a++c::b) (a.length:Int) d=some (if p c=true then .inl d else .inr ((a.length:Int),d)):=by
   unfold Aw LP;rw[hi];simp only[Aa,h c AlZ];cases p c<;>rfl
  show∃r,Ab (Aw rF (a++c::b) (a.length:Int) d) _=some r∧_;rw[st];cases hc:p c with
  |false=>exact⟨.inr ((a.length:Int),d),rfl,by simp[hc],fun e h=>(by cases h),fun i h=>(by cases h; exact Ams _)⟩
  |true=>
   refine⟨r,?_,?_,h4,h3⟩
   ·show BV (Aw rF (a++c::b)) b.length ((a.length:Int)+1) d=some r;rw[←h1];simp
   ·rw[h2];simp only[Amt,hc,Ama]
theorem Yt (rF:g_api_Item→Int→Option Bool)(p:g_api_Item→Bool)(d:Int)(l:List g_api_Item)(h: ∀y∈l,rF y (w64 (d-1))=some (p y)):
  ∃z,AZ rF l d=some (!(l.all p),z):=by
 obtain⟨r,h1,h2,h4,h3⟩:=Aid rF p d [] l h;have h1:BV (Aw rF l) l.length 0 d=some r:=h1;unfold AZ BM;rw[h1];cases r with
 |inl u=>
  have:=h4 u rfl;subst this;rw[h2.1 rfl];exact⟨_,rfl⟩
 |inr i=>
  have hp:l.all p=false:=by
   cases h:l.all p with
   |false=>rfl
   |true=>exact absurd (h2.2 h) (by simp)
  have hi:=h3 i rfl;rw[hp];refine⟨i.2,?_⟩;show some (decide (i.1≥0),i.2)=_;rw[AlY hi]; rfl
theorem Ah2: ∀(d n:Nat) (x:g_api_Item),d<n→d≤100→II n x (d:Int)=some (mayB d x)
 |d,0,x,h,_=>by omega
 |0,n+1,x,_,_=>by
  show Ip (II n) x 0=some false;unfold Ip;cases hk:RV x.Tag with
  |false=>rw[(M8 hk).1]; rfl
  |true=>
   obtain⟨k,e,_,_⟩:=TM hk;rw[e]; rfl
 |d+1,n+1,x,h,hd=>by
  have ih: ∀y∈x.L,II n y (w64 (((d+1:Nat):Int)-1))=some (mayB d y):=fun y _=>by
   rw[show w64 (((d+1:Nat):Int)-1)=(d:Int)from by rw[Hb (by omega) (by omega)]; omega];exact Ah2 d n y (by omega) (by omega)
  obtain⟨z,hz⟩:=Yt (II n) (mayB d) ((d+1:Nat):Int) x.L ih;show Ip (II n) x ((d+1:Nat):Int)=some (mayB (d+1) x);unfold Ip mayB;have e1:decide (((d+1:Nat):Int)<1)=false:=by rw[decide_eq_false_iff_not]; omega
  have e2:decide ((x.L.length:Int)>0)= !x.L.isEmpty:=by
   cases x.L with
   |nil=>rfl
   |cons a l=>show decide _=true; rw[AlL,AlM]; omega
  have e3:(x.Tag !=48)= !(x.Tag==48):=rfl;rw[e1,e2,e3];cases hk:RV x.Tag with
  |false=>
   rw[(M8 hk).1,(M8 hk).2]; rfl
  |true=>
   obtain⟨k,e,_,hm⟩:=TM hk;rw[e];simp only[Aa,AmB,Bool.or_false,AmS,ZC,hm,hz,Bool.not_not];cases Ads x.Tag x.B<;>cases x.Tag==48<;>cases x.L.isEmpty<;>rfl
theorem Aj5 (x:g_api_Item):RN x 8=some (mayB 8 x):=Ah2 8 Fx x (by have:=KG; omega) (by decide)
def RS (n:Nat):List UInt8:=if n<128 then [toB (n:Int)]else if n<256 then [129,toB (n:Int)]else [130,toB (BA (n:Int) 8),toB (n:Int)]
def putB:Nat→g_api_Item→List UInt8
 |0,_=> []
 |d+1,x=>toB x.Tag::(RS (x.B++x.L.flatMap (putB d)).length++(x.B++x.L.flatMap (putB d)))
def depB:Nat→g_api_Item→Prop
 |0,_=>False
 |d+1,x=> ∀y∈x.L,depB d y
theorem Ad8: ∀{d:Nat} {x:g_api_Item},mayB d x=true→depB d x
 |0,x,h=>by cases h
 |d+1,x,h=>by
  simp only[mayB,AlD,AlW]at h;exact fun y hy=>Ad8 (h.2 y hy)
theorem Zv (n:Nat):1≤(RS n).length∧(RS n).length≤3:=by
 unfold RS;split
 ·exact⟨by simp,by simp⟩
 ·split
  ·exact⟨by simp,by simp⟩
  ·exact⟨by simp,by simp⟩
theorem putE: ∀(d n:Nat) (x:g_api_Item) (b:List UInt8),d≤n→depB d x→b.length+(putB d x).length≤100000000000000→HJ n b x=some (b++putB d x)
 |0,n,x,b,_,h,_=>h.elim
 |d+1,0,x,b,h,_,_=>by omega
 |d+1,n+1,x,b,hn,hd,hb=>by
  have eP:putB (d+1) x=toB x.Tag::(RS (x.B++x.L.flatMap (putB d)).length++(x.B++x.L.flatMap (putB d))):=rfl;have go: ∀(l:List g_api_Item) (i:Int) (s:List UInt8),(∀y∈l,depB d y)→s.length+(l.flatMap (putB d)).length≤100000000000000→DP (Fa (HJ n)) l i s=some (s++l.flatMap (putB d)):=by
   intro l;induction l with
   |nil=>intro i s _ _; simp[DP]
   |cons y l ih=>
    intro i s h hs;rw[Ami,AlI]at hs;have e:Fa (HJ n) i y s=some (s++putB d y):=by
     unfold Fa;rw[putE d n y s (by omega) (h y AlZ) (by omega)];rfl
    show Ab (Fa (HJ n) i y s) _=_;rw[e];show DP _ l (i+1) (s++putB d y)=_;rw[ih (i+1) (s++putB d y) (fun z hz=>h z (Al4 _ hz)) (by rw[AlI]; omega),Ami,AlP]
  rw[eP]at hb⊢;simp only[AlM,AlI]at hb;have hc:HV (HJ n) x=some (x.B++x.L.flatMap (putB d)):=by
   unfold HV;rw[ZT (by omega),Aa,go x.L 0 x.B hd (by omega)];rfl
  show LO (HJ n) b x=_;unfold LO;rw[hc,Aa,TW 1 (by simp only[AlM,Al1]; omega) (by simp only[AlM,Al1]; omega),Aa];rw[←AlI]at hb;have hL:(x.B++x.L.flatMap (putB d)).length=(x.B++x.L.flatMap (putB d)).length:=rfl;generalize (x.B++x.L.flatMap (putB d))=c at hb hL⊢;have hl:=Zv c.length;have hm: ∀z:List UInt8,z.length≤3→app 1 (b++[toB x.Tag]) z=some (b++[toB x.Tag]++z):=fun z hz=>TW 1 (by simp only[AlI,AlM,Al1]; omega) (by simp only[AlI,AlM,Al1]; omega);have fin:app 1 (b++[toB x.Tag]++RS c.length) c=some (b++toB x.Tag::(RS c.length++c)):=by
   rw[TW 1 (by simp only[AlI,AlM,Al1]; omega) (by simp only[AlI,AlM,Al1]; omega)];simp
  have mid:(bnd (decide ((c.length:Int)<128)) fun x4=>
    if x4=true then
     Ab (app 1 (b++[toB x.Tag]) ([(toB (c.length:Int))]:List UInt8)) fun x5=>
     some x5
    else
    bnd ((decide ((c.length:Int)<256))) fun x6=>
    if x6=true then
     Ab (app 1 (b++[toB x.Tag]) ([129,(toB (c.length:Int))]:List UInt8)) fun x7=>
     some x7
    else
    Ab (app 1 (b++[toB x.Tag]) ([130,(toB (BA (c.length:Int) 8)),(toB (c.length:Int))]:List UInt8)) fun x8=>
    some x8)=some (b++[toB x.Tag]++RS c.length):=by
   rw[hm [toB (c.length:Int)] (by simp),hm [129,toB (c.length:Int)] (by simp),hm [130,toB (BA (c.length:Int) 8),toB (c.length:Int)] (by simp)];simp only[DY,Aa,AlL];unfold RS;by_cases h1:c.length<128
   ·rw[AlH h1,AlH (by omega)]
   ·rw[AlG h1,AlG (by omega)];by_cases h2:c.length<256
    ·rw[AlH h2,AlH (by omega)]
    ·rw[AlG h2,AlG (by omega)]
  rw[mid];simp only[Aa];rw[fin];rfl
theorem AjI {x:g_api_Item}(h:depB 8 x)(hs:(putB 8 x).length≤100000000000000):RM [] x=some (putB 8 x):=by
 have:=putE 8 Fx x [] (by have:=KG; omega) h (by simpa using hs);exact this
theorem AiJ {x:g_api_Item}(hs:(putB 8 x).length≤100000000000000):
  JY x=some (if mayB 8 x=true then(if(putB 8 x).length≤8192 then(putB 8 x,0)else([],2))else([],1)):=by
 unfold JY;rw[Aj5];cases hm:mayB 8 x with
 |false=>rfl
 |true=>
  simp only[Aa,AmB,Bool.false_eq_true,if_false,if_true];rw[AjI (Ad8 hm) hs];simp only[Aa,AlL];by_cases h:(putB 8 x).length≤8192
  ·rw[AlG (by omega),AlH h]
  ·rw[AlH (by omega),AlG h]
theorem ZG {α:Type}(f:α→List UInt8)(k:Nat): ∀(l:List α),(∀y∈l,(f y).length≤k)→(l.flatMap f).length≤l.length*k
 | [],_=>by simp
 |y::l,h=>by
  have h1:=h y AlZ;have h2:=ZG f k l fun z hz=>h z (Al4 _ hz);rw[Ami,AlI,AlM,Nat.succ_mul];omega
theorem Rt (d:Nat)(x:g_api_Item):(putB (d+1) x).length≤4+x.B.length+(x.L.flatMap (putB d)).length:=by
 have:=Zv (x.B++x.L.flatMap (putB d)).length;show(toB x.Tag::(RS (x.B++x.L.flatMap (putB d)).length++(x.B++x.L.flatMap (putB d)))).length≤_;rw[AlM,AlI,AlI]at*;omega
theorem Ek (d:Nat)(n:Int):(putB d (NN n)).length≤12:=by
 cases d with
 |zero=>simp[putB]
 |succ d=>
  have h:=Rt d (NN n);have h1:(NN n).B.length≤8:=UA (be8 n);have h2:(NN n).L=[]:=rfl;rw[h2]at h;simp only[List.flatMap_nil,Al1]at h;omega
theorem K6 (d:Nat){s:ByteArray}(hs:s.size≤64):(putB d (LB s)).length≤68:=by
 cases d with
 |zero=>simp[putB]
 |succ d=>
  have h:=Rt d (LB s);have h1:(LB s).B.length=s.size:=Cs s;have h2:(LB s).L=[]:=rfl;rw[h2]at h;simp only[List.flatMap_nil,Al1]at h;omega
theorem Xb (d:Nat)(v:Bool):(putB d (VA v)).length≤5:=by
 cases d with
 |zero=>simp[putB]
 |succ d=>
  have h:=Rt d (VA v);have h1:(VA v).B.length=1:=rfl;have h2:(VA v).L=[]:=rfl;rw[h2]at h;simp only[List.flatMap_nil,Al1]at h;omega
theorem LC (d:Nat)(l:List g_api_Item)(k:Nat)(hk: ∀e y,y∈l→(putB e y).length≤k):(putB d (SM l)).length≤4+l.length*k:=by
 cases d with
 |zero=>simp[putB]
 |succ d=>
  have h:=Rt d (SM l);have h1:(SM l).B.length=0:=rfl;have h3:=ZG (putB d) k l fun y hy=>hk d y hy;have h2:(SM l).L=l:=rfl;rw[h2]at h;omega
theorem Tq (d:Nat){l:List ByteArray}(h: ∀s∈l,s.size≤64)(hn:l.length≤8):(putB d (K5 l)).length≤1000:=by
 have:=LC d (l.map LB) 68 fun e y hy=>by
  obtain⟨s,hs,e2⟩:=List.mem_map.1 hy;rw[←e2];exact K6 e (h s hs)
 rw[Amo]at this;unfold K5;omega
theorem mem2 {α:Type}{p:α→Prop}{a b:α}(ha:p a)(hb:p b): ∀y∈[a,b],p y:=by
 intro y hy;simp only[Al6,List.not_mem_nil,or_false]at hy;rcases hy with e|e<;>rw[e]<;>assumption
theorem AfJ (d:Nat){c:g_api_Cert}(h:YK c):(putB d (Zd c)).length≤20000:=by
 have:=LC d [NN c.Serial,LB c.Issuer,LB c.Subject,TV c.Key,K5 c.Names,NN c.From,NN c.Until,VA c.Ca,NN c.Depth,K5 c.Permit] 1000 fun e y hy=>by
  simp only[Al6,List.not_mem_nil,or_false]at hy;rcases hy with q|q|q|q|q|q|q|q|q|q<;>rw[q]
  ·have:=Ek e c.Serial; omega
  ·have:=K6 e h.issuer; omega
  ·have:=K6 e h.subject; omega
  ·have:=Ek e (w64 (c.Key.toNat:Int)); unfold TV; omega
  ·exact Tq e h.names h.few
  ·have:=Ek e c.From; omega
  ·have:=Ek e c.Until; omega
  ·have:=Xb e c.Ca; omega
  ·have:=Ek e c.Depth; omega
  ·exact Tq e h.permit h.fewP
 simp only[AlM,Al1]at this;unfold Zd;omega
theorem AcH (d:Nat)(p:g_api_Promise):(putB d (Ry p)).length≤100:=by
 have:=LC d [NN p.Log,NN p.At,TV p.Leaf.1,TV p.Leaf.2,TV p.Sig.E,TV p.Sig.S] 12 fun e y hy=>by
  simp only[Al6,List.not_mem_nil,or_false]at hy;rcases hy with q|q|q|q|q|q<;>rw[q]<;>exact Ek e _
 simp only[AlM,Al1]at this;unfold Ry;omega
theorem AeA (d:Nat){c:g_api_Cert}(h:YK c):(putB d (Pb c)).length≤50000:=by
 have:=LC d [Zd c,Rw c.Proms] 20000 fun e=>mem2 (p:=fun y=>(putB e y).length≤20000) (AfJ e h) (by
  have:=LC e (c.Proms.map Ry) 100 fun f y hy=>by
   obtain⟨p,hp,e2⟩:=List.mem_map.1 hy;rw[←e2];exact AcH f p
  rw[Amo]at this;have:=h.proms;unfold Rw;omega)
 simp only[AlM,Al1]at this;unfold Pb;omega
theorem Z8 (d:Nat){c:g_api_Cert}(h:YK c):(putB d (wholeI c)).length≤200000:=by
 have:=LC d [Pb c,SM [TV c.Sig.E,TV c.Sig.S]] 50000 fun e=>mem2 (p:=fun y=>(putB e y).length≤50000) (AeA e h) (by
  have:=LC e [TV c.Sig.E,TV c.Sig.S] 12 fun f=>mem2 (p:=fun y=>(putB f y).length≤12) (Ek f _) (Ek f _);simp only[AlM,Al1]at this;omega)
 simp only[AlM,Al1]at this;unfold wholeI;omega
def checkV (c:g_api_Cert):Int:=if formB c=true then(if mayB 8 (wholeI c)=true∧(putB 8 (wholeI c)).length≤2048 then 0 else 2)else 1
theorem Alh (b:List UInt8)(m:Bool):(Ab (some (if m=true then(if b.length≤8192 then(b,(0:Int))else([],2))else([],1))) fun x3=>if((x3.2 !=0)||(decide ((x3.1.length:Int)>2048)))=true then some (2:Int)else some 0)=some (if m=true∧b.length≤2048 then 0 else 2):=by
 cases m with
 |false=>rfl
 |true=>
  simp only[if_true,Aa,true_and];by_cases h1:b.length≤8192
  ·rw[AlH h1];by_cases h2:b.length≤2048
   ·rw[AlH h2,AlG];simp only[bne_self_eq_false,Amy,AlL];omega
   ·rw[AlG h2,AlH];simp only[bne_self_eq_false,Amy,AlL];omega
  ·rw[AlG h1];have h2: ¬b.length≤2048:=by omega
   rw[AlG h2];rfl
theorem Sn (c:g_api_Cert):Cn c=some (checkV c):=by
 unfold Cn checkV;rw[AdT];cases hf:formB c with
 |false=>rfl
 |true=>
  have hs:=(Yk hf).sized;simp only[Aa,AmB,Bool.false_eq_true,if_false,if_true];have hl:=Z8 8 hs;rw[Abw hs,Aa,AiJ (by omega),Alh]
theorem Aa5 {c:g_api_Cert}(h:checkV c=0):Form c:=by
 unfold checkV at h;cases hf:formB c with
 |false=>rw[hf]at h; simp at h
 |true=>exact Yk hf
theorem AbI (n:Int):((toB n).toNat:Int)=n%256:=by
 have h:0≤n%256:=Int.emod_nonneg _ (by decide);have h2:n%256<256:=Int.emod_lt_of_pos _ (by decide);unfold toB;rw[UInt8.toNat_ofNat'];omega
theorem Ak5 {α:Type}(a b:List α):cut (a++b) (a.length:Int) (((a++b).length:Nat):Int)=some b:=by
 unfold cut;rw[AlH ⟨by omega,by rw[AlI]; omega,by omega⟩];simp only[Amk,List.drop_left];rw[Al8];rw[AlI]; omega
theorem ZF (p:g_api_Item→List UInt8){y:g_api_Item}: ∀{l:List g_api_Item},y∈l→(p y).length≤(l.flatMap p).length
 |z::l,h=>by
  rw[Ami,AlI];rcases Al6.1 h with e|h
  ·rw[e]; omega
  ·have:=ZF p h; omega
theorem To: ∀(l:List UInt8),l≠[]→Qb (AbF l)=true
 | [],h=>absurd rfl h
 | [a],_=>rfl
 |a::b::l,_=>by
  unfold AbF;cases hl:Qb (a::b::l)with
  |true=>rw[AlH rfl]; exact hl
  |false=>rw[AlG (by decide)]; exact To (b::l) (by simp)
theorem Aik {s:ByteArray}{i:Nat}{b:UInt8}(h:s.data.toList[i]? =some b):s.get! i=b:=by
 have h2:s.data[i]? =some b:=by rw[←Array.getElem?_toList]; exact h
 show s.data[i]! =b;rw[getElem!_def,h2]
theorem dec_lo {s:ByteArray}{i:Nat}{b:UInt8}(h:s.data.toList[i]? =some b)(hb:b.toNat<128):Utf8.decode s i=(b.toNat,1):=by
 unfold Utf8.decode;simp only[AmH,Aik h];rw[AlH hb]
theorem dec_hi {s:ByteArray}{i:Nat}{b:UInt8}(h:s.data.toList[i]? =some b)(hb: ¬b.toNat<128):128≤(Utf8.decode s i).1:=by
 unfold Utf8.decode;simp only[AmH,Aik h];rw[AlG hb];have he:Utf8.runeError=65533:=rfl;split
 ·split
  ·assumption
  ·simp[he]
 ·split
  ·split
   ·rename_i h1;simp only[AlD,AlL]at h1;show 128≤_;omega
   ·simp[he]
  ·split
   ·split
    ·rename_i h1;simp only[AlD,AlL]at h1;show 128≤_;omega
    ·simp[he]
   ·simp[he]
def KU (c:UInt8):Bool:=(decide (97≤c.toNat)&&decide (c.toNat≤122))||(decide (48≤c.toNat)&&decide (c.toNat≤57))
def Agt (c:UInt8):Bool:=c.toNat==45||KU c
def Aaj:List UInt8→Bool
 | []=>true
 | [c]=>KU c
 |c::d::r=>Agt c&&Aaj (d::r)
def U8:List UInt8→Bool
 | []=>false
 | [c]=>KU c
 |c::d::r=>(KU c||c.toNat==95)&&Aaj (d::r)&&decide ((c::d::r).length≤16)
theorem WW (n:Nat)(c:UInt8)(h:n=c.toNat):Dr (n:Int)=some (KU c):=by
 subst h;unfold Dr KU;rw[DY];congr 1;have e: ∀k:Nat,decide ((k:Int)≤(c.toNat:Int))=decide (k≤c.toNat):=fun k=>by rw[AmC]; omega
 have e2: ∀k:Nat,decide ((c.toNat:Int)≤(k:Int))=decide (c.toNat≤k):=fun k=>by rw[AmC]; omega
 rw[←e 97,←e2 122,←e 48,←e2 57];rfl
theorem Ad2 (n:Nat)(h:128≤n):Dr (n:Int)=some false:=by
 unfold Dr;rw[DY,Aml (show¬(n:Int)≤122 from by omega),Aml (show¬(n:Int)≤57 from by omega),AmE,AmE];rfl
theorem AaK (n:Nat)(c:UInt8)(h:n=c.toNat):Dn (n:Int)=some (Agt c):=by
 unfold Dn Agt;rw[WW n c h,AeY,Aa];subst h;have e:((c.toNat:Int)==45)=(c.toNat==45):=by rw[Amz,Amp,Amp]; omega
 rw[e];cases c.toNat==45<;>simp
theorem Ags (n:Nat)(h:128≤n):Dn (n:Int)=some false:=by
 unfold Dn;rw[Ad2 n h,AeY,Aa];have e:((n:Int)==45)=false:=by rw[Amj]; omega
 rw[e]; rfl
theorem AkB (c:UInt8)(h: ¬c.toNat<128):KU c=false∧Agt c=false∧(c.toNat==95)=false:=by
 have e1:KU c=false:=by
  unfold KU;rw[Aml (show¬c.toNat≤122 from by omega),Aml (show¬c.toNat≤57 from by omega),AmE,AmE]; rfl
 have e2:(c.toNat==45)=false:=by rw[Amj]; omega
 refine⟨e1,?_,by rw[Amj]; omega⟩;unfold Agt;rw[e1,e2]; rfl
theorem TE {s:ByteArray}{i:Nat}{c:UInt8}(hs:s.size≤16)(h:s.data.toList[i]? =some c):
  Bo s i=some (if(if i+1=s.size then KU c else if i=0 then KU c||c.toNat==95 else Agt c)=true then .inl (i+1)else .inr (.inr false)):=by
 have hi:i<s.size:=by
  have:=(Al2.1 h).1;rw[Cs]at this;exact this
 have hw:w64 ((s.size:Int)-1)=(s.size:Int)-1:=Hb (by omega) (by omega);unfold Bo;rw[AlH hi,DY,hw];by_cases hb:c.toNat<128
 ·rw[dec_lo h hb,WW c.toNat c rfl,AaK c.toNat c rfl,AeY,Aa,DY,DY,AeY,Aa,DY,AeY,Aa];have e95:((c.toNat:Int)==95)=(c.toNat==95):=by rw[Amz,Amp,Amp]; omega
  by_cases hl:i+1=s.size
  ·have el:((i:Int)==(s.size:Int)-1)=true:=by rw[Amp]; omega
   rw[AlH hl,el];cases KU c<;>rfl
  ·have el:((i:Int)==(s.size:Int)-1)=false:=by rw[Amj]; omega
   rw[AlG hl,el];by_cases h0:i=0
   ·have e0:((i:Int)==0)=true:=by rw[Amp]; omega
    rw[AlH h0,e0];show(if(true&&((true&&KU c)||((c.toNat:Int)==95)))=true then _ else _)=_;rw[e95];cases KU c<;>cases c.toNat==95<;>rfl
   ·have e0:((i:Int)==0)=false:=by rw[Amj]; omega
    rw[AlG h0,e0];cases Agt c<;>rfl
 ·have hd:=dec_hi h hb;generalize Utf8.decode s i=q at hd;obtain⟨n,k⟩:=q;have hn:128≤n:=hd;obtain⟨b1,b2,b3⟩:=AkB c hb;show(Ab (gu _ (Dr (n:Int))) _)=_;rw[Ad2 n hn,AeY,Aa,DY,AmE,AmE,AlG (by decide),DY];have e95:((n:Int)==95)=false:=by rw[Amj]; omega
  by_cases hl:i+1=s.size
  ·have el:((i:Int)==(s.size:Int)-1)=true:=by rw[Amp]; omega
   rw[AlH hl,el,b1];rfl
  ·have el:((i:Int)==(s.size:Int)-1)=false:=by rw[Amj]; omega
   rw[AlG hl,el,AlG (by decide)];rw[AeY,Aa,DY];show(if(((i:Int)==0)&&((((i:Int)==0)&&false)||((n:Int)==95)))=true then _ else Ab (gu _ (Dn (n:Int))) _)=_;rw[Ags n hn,AeY,Aa,e95,AmE,Bool.or_false,AmE,AlG (by decide)];by_cases h0:i=0
   ·have e0:((i:Int)==0)=true:=by rw[Amp]; omega
    rw[AlH h0,e0,b1,b3];rfl
   ·have e0:((i:Int)==0)=false:=by rw[Amj]; omega
    rw[AlG h0,e0,b2];rfl
theorem Adm {s:ByteArray}{i:Nat}(h: ¬i<s.size):Bo s i=some (.inr (.inl i)):=by
 unfold Bo;rw[AlG h]
theorem TD {s:ByteArray}(hs:s.size≤16): ∀(r:List UInt8) (i n:Nat),1≤i→s.data.toList.drop i=r→i≤s.size→r.length<n→∃z,iter (Bo s) n i=some (if Aaj r=true then .inl z else .inr false)
 |r,i,0,_,_,_,h=>by omega
 | [],i,n+1,_,h,hi,_=>by
  have hl:s.data.toList.length≤i:=List.drop_eq_nil_iff.1 h;rw[Cs]at hl;refine⟨i,?_⟩;show Ab (Bo s i) _=_;rw[Adm (by omega)];rfl
 |c::r,i,n+1,h1,h,hi,hn=>by
  have hc:s.data.toList[i]? =some c:=by
   have:(s.data.toList.drop i)[0]? =some c:=by rw[h]; rfl
   simpa using this
  have hlt:i<s.size:=by
   have:=(Al2.1 hc).1;rw[Cs]at this; exact this
  have hr:s.data.toList.drop (i+1)=r:=by rw[←AmD,h]; rfl
  have hlen:r.length=s.size-(i+1):=by rw[←hr,Amg,Cs]
  obtain⟨z,ih⟩:=TD hs r (i+1) n (by omega) hr (by omega) (by rw[AlM]at hn; omega);refine⟨z,?_⟩;show Ab (Bo s i) _=_;rw[TE hs hc,AlG (show¬i=0 from by omega)];cases r with
  |nil=>
   rw[AlH (show i+1=s.size from by rw[Al1]at hlen; omega)];show _=some (if KU c=true then _ else _);cases KU c with
   |false=>rfl
   |true=>rw[AlH rfl,AlH rfl]; exact ih
  |cons d r=>
   rw[AlG (show¬i+1=s.size from by rw[AlM]at hlen; omega)];show _=some (if(Agt c&&Aaj (d::r))=true then _ else _);cases Agt c with
   |false=>rfl
   |true=>
    rw[AlH rfl,Ama];exact ih
theorem Agm (s:ByteArray):Gr s=some (U8 s.data.toList):=by
 unfold Gr;cases hl:s.data.toList with
 |nil=>
  have:eqS s (⟨#[]⟩:ByteArray)=true:=by unfold eqS; rw[hl]; rfl
  rw[this,Bool.true_or,AlH rfl];rfl
 |cons c r=>
  have h0:eqS s (⟨#[]⟩:ByteArray)=false:=by unfold eqS; rw[hl]; rfl
  have hz:s.size=r.length+1:=by rw[←Cs,hl]; rfl
  rw[h0,Amy];by_cases hs:s.size≤16
  ·rw[Aml (show¬(s.size:Int)>16 from by omega),AlG (by decide)];have hc:s.data.toList[0]? =some c:=by rw[hl]; rfl
   have hd:s.data.toList.drop 1=r:=by rw[hl]; rfl
   have e': ∀n,r.length<n→∃z,iter (Bo s) (n+1) 0=some (if U8 (c::r)=true then .inl z else .inr false):=by
    intro n hn;obtain⟨z,ht⟩:=TD hs r 1 n (by decide) hd (by omega) hn;refine⟨z,?_⟩;show Ab (Bo s 0) _=_;rw[TE hs hc,AlH rfl];cases r with
    |nil=>
     rw[AlH (show 0+1=s.size from by rw[hz]; rfl)];show _=some (if KU c=true then _ else _);cases KU c with
     |false=>rfl
     |true=>rw[AlH rfl,AlH rfl]; exact ht
    |cons d r=>
     rw[AlG (show¬0+1=s.size from by rw[hz,AlM]; omega)];show _=some (if((KU c||c.toNat==95)&&Aaj (d::r)&&decide ((c::d::r).length≤16))=true then _ else _);rw[AlY (show(c::d::r).length≤16 from by rw[AlM,←hz]; exact hs),Bool.and_true];cases KU c||c.toNat==95 with
     |false=>rfl
     |true=>
      rw[AlH rfl,Ama];exact ht
   obtain⟨z,e⟩: ∃z,iter (Bo s) Fx 0=some (if U8 (c::r)=true then .inl z else .inr false):=e' 18446744073709551615 (by omega);rw[e,Aa];cases U8 (c::r)<;>rfl
  ·rw[AlY (show(s.size:Int)>16 from by omega),AlH rfl];cases r with
   |nil=>rw[hz]at hs; simp at hs
   |cons d r=>
    show _=some ((KU c||c.toNat==95)&&Aaj (d::r)&&decide ((c::d::r).length≤16));rw[Aml (show¬(c::d::r).length≤16 from by rw[AlM,←hz]; exact hs),AmE]
end Go.Proofs.YtnhdojckpcbjeaaGreatDoor
end
