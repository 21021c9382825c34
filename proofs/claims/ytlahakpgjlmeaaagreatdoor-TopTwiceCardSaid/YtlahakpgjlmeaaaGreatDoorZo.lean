/- Several texts, one behind the other. Conditions: none. -/
import Derived.Test.YtlahakpgjlmeaaaGreatDoorZi
import Derived.Test.YtlahakpgjlmeaaaGreatDoorZj
import Derived.Test.YtlahakpgjlmeaaaGreatDoorZk
import Derived.Test.YtlahakpgjlmeaaaGreatDoorZl
import Derived.Test.YtlahakpgjlmeaaaGreatDoorZm
import Derived.KernelRfl
set_option linter.unusedSimpArgs false
set_option linter.unusedVariables false
set_option maxHeartbeats 4000000
set_option maxRecDepth 100000
section
namespace Go.Proofs.YtlahakpgjlmeaaaGreatDoor
open Go Go.Gw Go.Ax
theorem Bx {α β:Type}(a:α)(k:α→β):bnd a k=k a:=rfl
theorem En {σ τ:Type}{step:σ→Option (σ⊕τ)}{s:σ}{t:τ}(n:Nat)(h:iter step n s=some t)(hn:n≤18446744073709551616):iter step EV s=some t:=Adf h hn
theorem AM {σ τ:Type}{step:σ→Option (σ⊕τ)}{n:Nat}{s s':σ}(h:step s=some (.inl s')):iter step (n+1) s=iter step n s':=by simp only[iter,h,Aa]
theorem BR {σ τ:Type}{step:σ→Option (σ⊕τ)}{n:Nat}{s:σ}{t:τ}(h:step s=some (.inr t)):iter step (n+1) s=some t:=by simp only[iter,h,Aa]
theorem EJ {α:Type}(b:Nat){xs ys:List α}(h:(xs.length+ys.length)*b≤140737488355328)(h1:xs.length+ys.length≤140737488355328):app b xs ys=some (xs++ys):=by unfold app; rw[AkA ⟨h,h1⟩]
theorem LI {α:Type}{xs:List α}{lo hi:Nat}(h1:lo≤hi)(h2:hi≤xs.length):cut xs (lo:Int) (hi:Int)=some ((xs.drop lo).take (hi-lo)):=by
 unfold cut; rw[AkA ⟨by omega,by omega,by omega⟩]; simp
def AaB (hi lo:UInt64):UInt64:=
 let n:=(lo&&&2305843009213693951)+((JL hi 3)|||(Fu lo 61))
 let k:=(n&&&2305843009213693951)+Fu n 61
 if 2305843009213693951≤k.toNat then k-2305843009213693951 else k
theorem Adx (a b:UInt64):IX a b=some (AaB a b):=by
 unfold IX AaB;simp only[Bx];generalize (b&&&2305843009213693951)+((JL a 3)|||(Fu b 61))=n;generalize (n&&&2305843009213693951)+Fu n 61=k;by_cases h:2305843009213693951≤k.toNat
 ·rw[AkA h,AkA (Alq (by omega))]; rfl
 ·rw[Aky h,Aky (by simp; omega)]; rfl
def SJ (a:UInt64):UInt64:=AaB 0 a
theorem Ahm (a:UInt64):F8 a=some (SJ a):=by simp only[F8,Adx,Aa]; rfl
def DP (a b:UInt64):UInt64:=SJ (SJ a+SJ b)
theorem Aaa (a b:UInt64):G1 a b=some (DP a b):=by simp only[G1,Ahm,Aa]; rfl
def phi (a0 a1:UInt64):UInt64:=
 let x1:=(a0&&&4294967295)*(a1&&&4294967295)
 let x2:=((Fu a0 32)*(a1&&&4294967295))+(Fu x1 32)
 let x3:=(x2&&&4294967295)+((a0&&&4294967295)*(Fu a1 32))
 (((Fu a0 32)*(Fu a1 32))+(Fu x2 32))+(Fu x3 32)
theorem U3 (a b:UInt64):IY a b=some (phi a b,a*b):=rfl
def Aa8 (a b:UInt64):UInt64:=AaB (phi (SJ a) (SJ b)) (SJ a*SJ b)
theorem mul_eq (a b:UInt64):Ki a b=some (Aa8 a b):=by simp only[Ki,Ahm,U3,Adx,Aa]; rfl
def Q2 (a:UInt64):UInt64:=
 let b:=Aa8 a a
 let c:=Aa8 b b
 let d:=Aa8 c c
 Aa8 a (Aa8 d d)
theorem sev_eq (a:UInt64):Fm a=some (Q2 a):=by
 simp only[Fm,Cg,Kh,mul_eq,Aa]; rfl
def SK (r i:Int):UInt64:=let n:=toU (w64 ((w64 ((w64 (3*r))+i))+1)); n*n*n+7
def pall (r:Int)(s:UInt64×UInt64×UInt64):UInt64:=DP (DP (DP 0 (Q2 (DP s.1 (SK r 0)))) (Q2 (DP s.2.1 (SK r 1)))) (Q2 (DP s.2.2 (SK r 2)))
def J6 (r:Int)(s:UInt64×UInt64×UInt64):UInt64×UInt64×UInt64:=(DP (Q2 (DP s.1 (SK r 0))) (pall r s),DP (Q2 (DP s.2.1 (SK r 1))) (pall r s),DP (Q2 (DP s.2.2 (SK r 2))) (pall r s))
theorem Ajh (i:Int)(a:UInt64)(r:Int)(all:UInt64):KW i a r all=some (Q2 (DP a (SK r i)),r,DP all (Q2 (DP a (SK r i)))):=by
 simp only[KW,Bx,Aaa,sev_eq,Aa]; rfl
theorem Ajg (i:Int)(a:UInt64)(all:UInt64):KV i a all=some (DP a all,all):=by
 simp only[KV,Aaa,Aa]
theorem Agx (a b c:UInt64)(r:Int)(all:UInt64):DW (a,b,c) r all=some ((Q2 (DP a (SK r 0)),Q2 (DP b (SK r 1)),Q2 (DP c (SK r 2))),r,DP (DP (DP all (Q2 (DP a (SK r 0)))) (Q2 (DP b (SK r 1)))) (Q2 (DP c (SK r 2)))):=by
 have e0:idx [a,b,c] 0=some a:=rfl;have e1: ∀x,idx [x,b,c] 1=some b:=fun _=>rfl;have e2: ∀x y,idx [x,y,c] 2=some c:=fun _ _=>rfl;simp[DW,Cg,GL,Bx,Ajh,e0,e1,e2]
theorem Agw (a b c all:UInt64):DV (a,b,c) all=some ((DP a all,DP b all,DP c all),all):=by
 have e0:idx [a,b,c] 0=some a:=rfl;have e1: ∀x,idx [x,b,c] 1=some b:=fun _=>rfl;have e2: ∀x y,idx [x,y,c] 2=some c:=fun _ _=>rfl;simp[DV,Cg,GK,Bx,Ajg,e0,e1,e2]
theorem Ajf (r:Int)(s:UInt64×UInt64×UInt64):Mb r s=some (J6 r s):=by
 obtain⟨a,b,c⟩:=s;unfold Mb;rw[Agx,Aa,Agw,Aa];rfl
def Oa (s:UInt64×UInt64×UInt64):UInt64×UInt64×UInt64:=J6 7 (J6 6 (J6 5 (J6 4 (J6 3 (J6 2 (J6 1 (J6 0 s)))))))
theorem AcV (s:UInt64×UInt64×UInt64):LB s=some (Oa s):=by
 simp only[LB,Cg,Ajf,Aa];rfl
def ple:List UInt8→Nat→UInt64→UInt64
 | [],_,s=>s
 |b::bs,i,s=>ple bs (i+1) (s|||JL (toU (b.toNat:Int)) (8*i))
theorem b6_eq (b5:List UInt8): ∀(l:List UInt8) (i:Nat) (s:UInt64),b5.drop i=l→i+l.length≤1000000→Cg (Gn b5) l.length (i:Int) s=some (ple l i s):=by
 intro l;induction l with
 |nil=>intro i s _ _; rfl
 |cons b l ih=>
  intro i s h hb;have hx:idx b5 (i:Int)=some b:=Mm (by
   have:(b5.drop i)[0]? =some b:=by rw[h]; rfl
   simpa using this)
  simp only[AkB]at hb;have hw:w64 (8*(i:Int))=((8*i:Nat):Int):=by rw[BC (by omega) (by omega)]; omega
  have hstep:Gn b5 (i:Int) s=some (s|||JL (toU (b.toNat:Int)) (8*i)):=by
   simp only[Gn,hx,Aa,hw,Bx];rw[AkA (by omega)]; rfl
  show Cg (Gn b5) (l.length+1) _ _=_;simp only[Cg,hstep,Aa,ple];have:=ih (i+1) (s|||JL (toU (b.toNat:Int)) (8*i)) (by rw[←All,h]; rfl) (by omega);simpa using this
def pof (n:Nat)(l:List UInt8):List UInt64:=match n,l with|_,[]=> []|0,_=> []|n+1,l=>ple (l.take 7) 0 0::pof n (l.drop 7)
theorem Acz (n:Nat): ∀l,(pof n l).length≤n:=by
 induction n with
 |zero=>intro l; cases l<;>simp[pof]
 |succ n ih=>intro l; cases l with
  |nil=>simp[pof]
  |cons a l=>simp only[pof,AkB]; have:=ih ((a::l).drop 7); omega
theorem AgH (a0:List UInt8)(hb:a0.length≤1000000): ∀(n i:Nat) (out:List UInt64),a0.length≤i+n→i≤1000000+7→out.length+n≤1000000→
  iter (BU (fun(s:(List UInt64)) (b0:List UInt8)=>Ab (Gp b0 s) fun y=>some (true,y)) a0 7) (n+1) ((i:Int),out)=some (.inl (out++pof n (a0.drop i))):=by
 intro n;induction n with
 |zero=>
  intro i out h _ _;have:a0.drop i=[]:=Ak6 (by omega);refine BR ?_;simp only[BU,this];rw[Aky (by simp; omega)];simp[pof]
 |succ n ih=>
  intro i out h hi ho;by_cases hlt:i<a0.length
  ·obtain⟨b,l,hl⟩: ∃b l,a0.drop i=b::l:=⟨a0[i],a0.drop (i+1),List.drop_eq_getElem_cons hlt⟩;have hc1:cut a0 (i:Int) (a0.length:Int)=some (a0.drop i):=by
    rw[LI (by omega) (by omega)]; congr 1; rw[Ak5 (by simp)]
   have hlen:(a0.drop i).length=a0.length-i:=by simp
   have hm:w64 ((i:Int)+Q5 7 ((a0.drop i).length:Int))=((i+min 7 (a0.length-i):Nat):Int):=by
    rw[BC]<;>unfold Q5<;>split<;>omega
   have hc2:cut a0 (i:Int) ((i+min 7 (a0.length-i):Nat):Int)=some ((a0.drop i).take 7):=by
    rw[LI (by omega) (by omega)]; congr 1;rw[Nat.add_sub_cancel_left];by_cases h7:7≤a0.length-i
    ·rw[Nat.min_eq_left h7]
    ·rw[Nat.min_eq_right (by omega),Ak5 (by simp),Ak5 (by simp; omega)]
   have hw:w64 ((i:Int)+7)=((i+7:Nat):Int):=by rw[BC (by omega) (by omega)]; omega
   have hb4:Gp ((a0.drop i).take 7) out=some (out++[ple ((a0.drop i).take 7) 0 0]):=by
    have:=b6_eq ((a0.drop i).take 7) ((a0.drop i).take 7) 0 0 rfl (by simp; omega);simp only[Gp];rw[show((0:Int))=((0:Nat):Int)from rfl,this];simp only[Aa];rw[EJ 8 (by simp; omega) (by simp; omega)];rfl
   rw[AM (s':=(((i+7:Nat):Int),out++[ple ((a0.drop i).take 7) 0 0]))]
   ·rw[ih (i+7) _ (by omega) (by omega) (by simp; omega)];rw[hl];simp only[pof];rw[←hl,All];simp
   ·simp only[BU];rw[AkA (Alq (by omega)),hc1];simp only[Aa,hm,hc2,hb4,hw];rfl
  ·have:a0.drop i=[]:=Ak6 (by omega);refine BR ?_;simp only[BU,this];rw[Aky (by simp; omega)];simp[pof]
theorem of_eq (a0:List UInt8)(hb:a0.length≤900000):LC a0=some (pof a0.length a0):=by
 have h:=AgH a0 (by omega) a0.length 0 [] (by omega) (by omega) (by simp; omega);have h':=En _ h (by omega);simp only[LC,EF,DZ];rw[Aky (by decide)];simp only[Aa,List.drop_zero,Ak2]at h'⊢;rw[show((0:Int))=((0:Nat):Int)from rfl,h'];simp only[Aa]
def H7 (n:Nat)(l:List UInt64)(s:UInt64×UInt64×UInt64):UInt64×UInt64×UInt64:=match n,l with|_,[]=>s|0,_=>s|_+1,[x]=>Oa (DP s.1 x,s.2.1,s.2.2)|n+1,x::y::l=>H7 n l (Oa (DP s.1 x,DP s.2.1 y,s.2.2))
theorem b4_eq1 (x:UInt64)(s:UInt64×UInt64×UInt64):Cg (HO [x]) 1 0 s=some (DP s.1 x,s.2.1,s.2.2):=by
 have e0:idx [x] (0:Int)=some x:=rfl;have e1:idx [s.1,s.2.1,s.2.2] (0:Int)=some s.1:=rfl;simp[Cg,HO,e0,e1,Aaa,Bx]
theorem b4_eq2 (x y:UInt64)(s:UInt64×UInt64×UInt64):Cg (HO [x,y]) 2 0 s=some (DP s.1 x,DP s.2.1 y,s.2.2):=by
 have e0:idx [x,y] (0:Int)=some x:=rfl;have e1:idx [s.1,s.2.1,s.2.2] (0:Int)=some s.1:=rfl;have e2:idx [x,y] 1=some y:=rfl;have e3:idx [DP s.1 x,s.2.1,s.2.2] 1=some s.2.1:=rfl;simp[Cg,HO,e0,e1,e2,e3,Aaa,Bx]
theorem b3_nil (fst:Bool)(hf:fst=true)(s:UInt64×UInt64×UInt64):Dl ([],fst,s.1,s.2.1,s.2.2)=some (.inl ([],false,Oa s)):=by
 subst hf;have hc:cut ([]:List UInt64) 0 0=some []:=rfl;have hmin:Q5 2 (([]:List UInt64).length:Int)=0:=rfl;simp only[Dl,Bool.true_or,if_true,hmin];rw[show((([]:List UInt64).length:Int))=0 from rfl,hc];simp only[Aa,Cg,AkY,AcV]
theorem Ah4 (s:UInt64×UInt64×UInt64):Dl ([],false,s.1,s.2.1,s.2.2)=some (.inr s):=rfl
theorem Ah3 (fst:Bool)(x:UInt64)(s:UInt64×UInt64×UInt64):Dl ([x],fst,s.1,s.2.1,s.2.2)=some (.inl ([],false,Oa (DP s.1 x,s.2.1,s.2.2))):=by
 have hmin:Q5 2 (([x]:List UInt64).length:Int)=1:=rfl;have h0:(fst||decide ((([x]:List UInt64).length:Int)>0))=true:=by simp
 have hc:cut [x] 0 1=some [x]:=rfl;have hc2:cut [x] 1 1=some []:=rfl;simp only[Dl,h0,if_true,hmin];rw[show((([x]:List UInt64).length:Int))=1 from rfl,hc,hc2];simp only[Aa,AkB,AkY];rw[b4_eq1];simp only[Aa,AcV]
theorem Ah2 (fst:Bool)(x y:UInt64)(l:List UInt64)(s:UInt64×UInt64×UInt64):Dl (x::y::l,fst,s.1,s.2.1,s.2.2)=some (.inl (l,false,Oa (DP s.1 x,DP s.2.1 y,s.2.2))):=by
 have hmin:Q5 2 ((x::y::l).length:Int)=((2:Nat):Int):=by unfold Q5; rw[Aky (by simp; omega)]; rfl
 have h0:(fst||decide (((x::y::l).length:Int)>0))=true:=by simp; right; omega
 have hc:cut (x::y::l) ((0:Nat):Int) ((2:Nat):Int)=some [x,y]:=by rw[LI (by omega) (by simp)]; rfl
 have hc2:cut (x::y::l) ((2:Nat):Int) ((x::y::l).length:Int)=some l:=by rw[LI (by simp) (by omega)]; simp
 simp only[Dl,h0,if_true,hmin];rw[show((0:Int))=((0:Nat):Int)from rfl,hc,hc2];simp only[Aa,AkB,AkY];rw[show((0:Nat):Int)=0 from rfl,b4_eq2];simp only[Aa,AcV]
theorem Yt: ∀(n:Nat) (l:List UInt64) (s:UInt64×UInt64×UInt64),l.length≤n→iter Dl (n+1) (l,false,s.1,s.2.1,s.2.2)=some (H7 n l s):=by
 intro n;induction n with
 |zero=>
  intro l s h;have:l=[]:=List.eq_nil_of_length_eq_zero (by omega);subst this;rw[BR (Ah4 s)]; simp[H7]
 |succ n ih=>
  intro l s h;match l,h with
  | [],_=>rw[BR (Ah4 s)]; simp[H7]
  | [x],_=>
   rw[AM (Ah3 false x s)];have:=ih [] (Oa (DP s.1 x,s.2.1,s.2.2)) (by simp);rw[this]; simp[H7]
  |x::y::l,h=>
   rw[AM (Ah2 false x y l s)];have:=ih l (Oa (DP s.1 x,DP s.2.1 y,s.2.2)) (by simp at h; omega);rw[this]; simp[H7]
def Y8 (l:List UInt64)(s:UInt64×UInt64×UInt64):UInt64×UInt64×UInt64:=match l with| []=>Oa s|l=>H7 l.length l s
def Ku (b:List UInt8):UInt64×UInt64:=((Y8 (pof b.length b) (0,0,toU (b.length:Int))).1,(Y8 (pof b.length b) (0,0,toU (b.length:Int))).2.1)
theorem YN (b:List UInt8)(hb:b.length≤900000):Im b=some (Ku b):=by
 simp only[Im,of_eq b hb,Aa];have hl:=Acz b.length b;have hk:Ku b=((Y8 (pof b.length b) (0,0,toU (b.length:Int))).1,(Y8 (pof b.length b) (0,0,toU (b.length:Int))).2.1):=rfl;rw[hk];clear hk;generalize pof b.length b=l at*;have h:iter Dl EV (l,true,0,0,toU (b.length:Int))=some (Y8 l (0,0,toU (b.length:Int))):=by
  refine En (l.length+2) ?_ (by omega);match l with
  | []=>
   rw[show([]:List UInt64).length+2=1+1 from rfl,AM (b3_nil true rfl (0,0,toU (b.length:Int)))];have:=Yt 0 [] (Oa (0,0,toU (b.length:Int))) (by simp);rw[this]; simp[H7,Y8]
  | [x]=>
   rw[show([x]:List UInt64).length+2=2+1 from rfl,AM (Ah3 true x (0,0,toU (b.length:Int)))];have:=Yt 1 [] (Oa (DP 0 x,0,toU (b.length:Int))) (by simp);rw[this]; simp[H7,Y8]
  |x::y::l=>
   rw[AM (Ah2 true x y l (0,0,toU (b.length:Int)))];have:=Yt (l.length+2) l (Oa (DP 0 x,DP 0 y,toU (b.length:Int))) (by omega);have e:(x::y::l).length+1=l.length+2+1:=rfl;rw[e,this];simp only[H7,Y8,AkB];congr 1;clear this hl;have: ∀(n k:Nat) (l:List UInt64) (s:UInt64×UInt64×UInt64),l.length≤n→l.length≤k→H7 n l s=H7 k l s:=by
    intro n;induction n with
    |zero=>intro k l s h _; have:l=[]:=List.eq_nil_of_length_eq_zero (by omega); subst this; simp[H7]
    |succ n ih=>
     intro k l s h hk;match l,k,h,hk with
     | [],k,_,_=>cases k<;>simp[H7]
     | [x],k+1,_,_=>simp[H7]
     |x::y::l,k+1,h,hk=>simp only[H7]; exact ih k l _ (by simp at h; omega) (by simp at hk; omega)
   exact this _ _ _ _ (by omega) (by omega)
 rw[h];simp only[Aa]
def OL:Nat→UInt64→List UInt8
 |0,_=> []
 |k+1,n=>toB ((Fu n (8*k)).toNat:Int)::OL k n
theorem Eu (k:Nat)(n:UInt64):(OL k n).length=k:=by induction k with|zero=>rfl|succ k ih=>simp[OL,ih]
theorem Afr (n:UInt64): ∀(k:Nat) (b:List UInt8),k≤8→b.length+k≤1000000→iter (JA n) (k+1) (b,(k:Int)-1)=some (b++OL k n):=by
 intro k;induction k with
 |zero=>intro b _ _; refine BR ?_; simp only[JA,OL,AkX]; rw[Aky (by simp)]
 |succ k ih=>
  intro b hk hb;have hw:w64 (8*(((k+1:Nat):Int)-1))=((8*k:Nat):Int):=by rw[BC (by omega) (by omega)]; omega
  have hw2:w64 ((((k+1:Nat):Int)-1)-1)=(k:Int)-1:=by rw[BC (by omega) (by omega)]; omega
  rw[AM (s':=(b++[toB ((Fu n (8*k)).toNat:Int)],(k:Int)-1))]
  ·rw[ih _ (by omega) (by simp; omega)]; simp[OL]
  ·simp only[JA,hw,hw2];rw[AkA (Alq (by omega)),AkA (by omega),EJ 1 (by simp; omega) (by simp; omega)];simp only[Aa,Alg]
theorem Acm (n:UInt64)(k:Nat)(b:List UInt8)(hk:k≤8)(hb:b.length≤900000):Gl b n (k:Int)=some (b++OL k n):=by
 have hw:w64 ((k:Int)-1)=(k:Int)-1:=BC (by omega) (by omega);simp only[Gl,hw,En (k+1) (Afr n k b hk (by omega)) (by omega),Aa]
def DE (s:UInt64×UInt64):List UInt8:=OL 8 s.1++OL 8 s.2
theorem CB (s:UInt64×UInt64):(DE s).length=16:=by simp[DE,Eu]
theorem Mr (s:UInt64×UInt64):Cm s=some (DE s):=by
 have e0:idx [s.1,s.2] 0=some s.1:=rfl;have e1:idx [s.1,s.2] 1=some s.2:=rfl;have h0:Gl [] s.1 8=some ([]++OL 8 s.1):=Acm s.1 8 [] (by omega) (by simp);have h1:Gl (OL 8 s.1) s.2 8=some (OL 8 s.1++OL 8 s.2):=Acm s.2 8 _ (by omega) (by rw[Eu]; omega);simp[Cm,Cg,Nv,e0,e1,h0,h1,DE]
def AcC:List UInt8→List (List UInt8)→List UInt8
 |b,[]=>b
 |b,p::ps=>AcC (b++OL 4 (toU (p.length:Int))++p) ps
def Y7:List (List UInt8)→Nat
 | []=>0
 |p::ps=>4+p.length+Y7 ps
theorem AcB: ∀(ps:List (List UInt8)) (b:List UInt8),(AcC b ps).length=b.length+Y7 ps:=by
 intro ps;induction ps with
 |nil=>intro b; rfl
 |cons p ps ih=>intro b; simp only[AcC,ih,Y7,Akz,Eu]; omega
theorem AeT: ∀(ps:List (List UInt8)) (i:Int) (b:List UInt8),b.length+Y7 ps≤800000→Et I8 ps i b=some (AcC b ps):=by
 intro ps;induction ps with
 |nil=>intro i b _; rfl
 |cons p ps ih=>
  intro i b h;simp only[Y7]at h;have h0:Gl b (toU (p.length:Int)) 4=some (b++OL 4 (toU (p.length:Int))):=Acm _ 4 b (by omega) (by omega);simp only[Et,I8,h0,Aa];rw[EJ 1 (by simp[Eu]; omega) (by simp[Eu]; omega)];simp only[Aa];rw[ih _ _ (by simp[Eu]; omega)];rfl
def W9 (t:ByteArray)(ps:List (List UInt8)):UInt64×UInt64:=Ku (AcC (toB (t.size:Int)::t.data.toList) ps)
theorem Lq (t:ByteArray)(ps:List (List UInt8))(h:t.data.toList.length+Y7 ps≤700000):Cx t ps=some (W9 t ps):=by
 simp only[Cx];rw[EJ 1 (by simp at h⊢; omega) (by simp at h⊢; omega)];simp only[Aa];rw[AeT _ _ _ (by simp at h⊢; omega)];simp only[Aa];rw[YN _ (by rw[AcB]; simp at h⊢; omega)];rfl
abbrev FP:Nat:=2305843009213693951
theorem litP:(2305843009213693951:UInt64).toNat=FP:=rfl
theorem and_P (n:Nat):n&&&2305843009213693951=n%2305843009213693952:=Nat.and_two_pow_sub_one_eq_mod n 61
theorem J0 {n:Nat}(h:n<18446744073709551616):(toU (n:Int)).toNat=n:=by
 unfold toU;rw[UInt64.toNat_ofNat'];omega
theorem shlU3 {h:UInt64}(hh:h.toNat<288230376151711744):(JL h 3).toNat=8*h.toNat:=by
 unfold JL;rw[show(h.toNat:Int)*2^ (min 3 64)=((8*h.toNat:Nat):Int)from by
  rw[show min 3 64=3 from rfl]; omega]
 exact J0 (by omega)
theorem D2 (x:UInt64)(k:Nat)(hk:k≤64):(Fu x k).toNat=x.toNat/2^k:=by
 unfold Fu;rw[UInt64.toNat_ofNat',Nat.min_eq_left hk];exact Ak0 (Ali (Nat.div_le_self _ _) x.toNat_lt)
theorem or_add {a b:Nat}(h:b<8):8*a|||b=8*a+b:=(Nat.two_pow_add_eq_or_of_lt (i:=3) h a).symm
theorem Wi {h l:UInt64}(hh:h.toNat<288230376151711744):(AaB h l).toNat=(h.toNat*18446744073709551616+l.toNat)%FP:=by
 have hl:=l.toNat_lt;have e1:(l&&&2305843009213693951).toNat=l.toNat%2305843009213693952:=by rw[UInt64.toNat_and,litP]; exact and_P _
 have e2:(Fu l 61).toNat=l.toNat/2305843009213693952:=D2 l 61 (by omega);have e3:((JL h 3)|||(Fu l 61)).toNat=8*h.toNat+l.toNat/2305843009213693952:=by
  rw[UInt64.toNat_or,shlU3 hh,e2]; exact or_add (by omega)
 have e4:((l&&&2305843009213693951)+((JL h 3)|||(Fu l 61))).toNat=l.toNat%2305843009213693952+(8*h.toNat+l.toNat/2305843009213693952):=by
  rw[UInt64.toNat_add,e1,e3]; omega
 unfold AaB;generalize hn:(l&&&2305843009213693951)+((JL h 3)|||(Fu l 61))=n at*;have e5:(n&&&2305843009213693951).toNat=n.toNat%2305843009213693952:=by rw[UInt64.toNat_and,litP]; exact and_P _
 have e6:(Fu n 61).toNat=n.toNat/2305843009213693952:=D2 n 61 (by omega);have e7:((n&&&2305843009213693951)+Fu n 61).toNat=n.toNat%2305843009213693952+n.toNat/2305843009213693952:=by rw[UInt64.toNat_add,e5,e6]; omega
 dsimp only;generalize (n&&&2305843009213693951)+Fu n 61=k at*;split
 ·rename_i hk;rw[UInt64.toNat_sub_of_le _ _ (by rw[UInt64.le_iff_toNat_le]; exact hk),litP];simp only[FP]at*;omega
 ·simp only[FP]at*;omega
theorem L3 (a:UInt64):(SJ a).toNat=a.toNat%FP:=by
 unfold SJ;rw[Wi (by decide)];simp
theorem KL (a b:UInt64):(DP a b).toNat=(a.toNat%FP+b.toNat%FP)%FP:=by
 unfold DP;rw[L3,UInt64.toNat_add,L3,L3];simp only[FP];omega
theorem AfH {p q r s:Nat}(hp:p<4294967296)(hq:q<4294967296)(hr:r<4294967296)(hs:s<4294967296):
  (p*r+((p*s+q*s/4294967296)/4294967296)+(((p*s+q*s/4294967296)%4294967296+q*r)/4294967296))=((p*4294967296+q)*(r*4294967296+s))/18446744073709551616:=by
 have h1:(p*4294967296+q)*(r*4294967296+s)=(p*r)*18446744073709551616+(p*s+q*r)*4294967296+q*s:=by
  rw[Nat.add_mul,Nat.mul_add,Nat.mul_add,Nat.add_mul];have a1:p*4294967296*(r*4294967296)=p*r*18446744073709551616:=by rw[Nat.mul_assoc,Nat.mul_left_comm 4294967296,←Nat.mul_assoc p]
  have a2:p*4294967296*s=p*s*4294967296:=Nat.mul_right_comm _ _ _;have a3:q*(r*4294967296)=q*r*4294967296:=(Nat.mul_assoc _ _ _).symm;rw[a1,a2,a3]; omega
 rw[h1];generalize p*r=A;generalize p*s=B;generalize q*r=C;generalize q*s=D;omega
theorem UW (a b:UInt64):(phi a b).toNat=(a.toNat*b.toNat)/18446744073709551616:=by
 have ha:=a.toNat_lt;have hb:=b.toNat_lt;have m32: ∀x:UInt64,(x&&&4294967295).toNat=x.toNat%4294967296:=fun x=>by
  rw[UInt64.toNat_and]; exact Nat.and_two_pow_sub_one_eq_mod _ 32
 have s32: ∀x:UInt64,(Fu x 32).toNat=x.toNat/4294967296:=fun x=>D2 x 32 (by omega);have hp:a.toNat/4294967296<4294967296:=by omega
 have hq:a.toNat%4294967296<4294967296:=by omega
 have hr:b.toNat/4294967296<4294967296:=by omega
 have hs:b.toNat%4294967296<4294967296:=by omega
 have ea:a.toNat/4294967296*4294967296+a.toNat%4294967296=a.toNat:=Nat.div_add_mod' _ _;have eb:b.toNat/4294967296*4294967296+b.toNat%4294967296=b.toNat:=Nat.div_add_mod' _ _;have key:=AfH hp hq hr hs;rw[ea,eb]at key;have bd: ∀x y:Nat,x<4294967296→y<4294967296→x*y≤18446744065119617025:=fun x y hx hy=>Nat.mul_le_mul (show x≤4294967295 by omega) (show y≤4294967295 by omega);have b1:=bd _ _ hp hr;have b2:=bd _ _ hp hs;have b3:=bd _ _ hq hr;have b4:=bd _ _ hq hs;have ab:a.toNat*b.toNat/18446744073709551616<18446744073709551616:=by
  rw[Nat.div_lt_iff_lt_mul (by omega)];exact Ali (Nat.mul_le_mul (show a.toNat≤18446744073709551615 by omega) (show b.toNat≤18446744073709551615 by omega)) (by omega)
 unfold phi;dsimp only;rw[←key]at ab⊢;simp only[UInt64.toNat_add,UInt64.toNat_mul,s32,m32];generalize a.toNat/4294967296*(b.toNat/4294967296)=A at*;generalize a.toNat/4294967296*(b.toNat%4294967296)=B at*;generalize a.toNat%4294967296*(b.toNat/4294967296)=C at*;generalize a.toNat%4294967296*(b.toNat%4294967296)=D at*;omega
theorem UU (a b:UInt64):(Aa8 a b).toNat=(a.toNat*b.toNat)%FP:=by
 have h1:(SJ a).toNat<FP:=by rw[L3]; exact Alk _ (by decide)
 have h2:(SJ b).toNat<FP:=by rw[L3]; exact Alk _ (by decide)
 simp only[FP]at h1 h2;have hm:(SJ a).toNat*(SJ b).toNat<5316911983139663491615228241121378304:=Ali (Nat.mul_le_mul (show(SJ a).toNat≤2305843009213693950 by omega) (show(SJ b).toNat≤2305843009213693950 by omega)) (by omega);unfold Aa8;rw[Wi (by rw[UW]; omega),UW,UInt64.toNat_mul];have:(SJ a).toNat*(SJ b).toNat/18446744073709551616*18446744073709551616+(SJ a).toNat*(SJ b).toNat%2^64=(SJ a).toNat*(SJ b).toNat:=by omega
 rw[this,L3,L3,←Nat.mul_mod]
theorem Aft (a:UInt64):(Q2 a).toNat=a.toNat^17%FP:=by
 unfold Q2;dsimp only;simp only[UU,Nat.mul_mod_mod,Nat.mod_mul_mod];congr 1;rw[show(17:Nat)=1+16 from rfl,Nat.pow_add,Nat.pow_one];congr 1;generalize a.toNat=x;rw[show(16:Nat)=2*2*2*2 from rfl,Nat.pow_mul,Nat.pow_mul,Nat.pow_mul];simp only[Nat.pow_two]
theorem VZ {a b:UInt64}(h:a.toNat=b.toNat):a=b:=UInt64.toNat_inj.1 h
section
variable {x4 x5 x7 y u:UInt64}
theorem dq_lt (hd:x7.toNat<4294967296)(hu:u.toNat<y.toNat):(u.toNat*4294967296+x7.toNat)/y.toNat<4294967296:=by
 rw[Nat.div_lt_iff_lt_mul (by omega)];have:(u.toNat+1)*4294967296≤y.toNat*4294967296:=Nat.mul_le_mul_right _ hu;omega
theorem dcond {q r:UInt64}(h1:2147483648≤x4.toNat∧x4.toNat<4294967296)(h0:x5.toNat<4294967296)(hd:x7.toNat<4294967296)(hy:y.toNat=x4.toNat*4294967296+x5.toNat)(hu:u.toNat<y.toNat)
  (hq:q.toNat*x4.toNat+r.toNat=u.toNat) (hr:r.toNat<4294967296):
  (((decide ((q.toNat:Int)≥4294967296))||(decide (((q*x5).toNat:Int)>(((4294967296*r)+x7).toNat:Int))))=true↔(u.toNat*4294967296+x7.toNat)/y.toNat<q.toNat):=by
 have hlt:=dq_lt hd hu;have e1:((4294967296*r)+x7).toNat=4294967296*r.toNat+x7.toNat:=by
  rw[UInt64.toNat_add,UInt64.toNat_mul,show(4294967296:UInt64).toNat=4294967296 from rfl]; omega
 rw[Alh,AkH,AkH,e1];by_cases hb:4294967296≤q.toNat
 ·constructor
  ·intro _; omega
  ·intro _; left; omega
 ·have hB:q.toNat*x5.toNat≤4294967295*4294967295:=Nat.mul_le_mul (by omega) (by omega);have e2:(q*x5).toNat=q.toNat*x5.toNat:=by rw[UInt64.toNat_mul]; omega
  have e3:q.toNat*y.toNat=q.toNat*x4.toNat*4294967296+q.toNat*x5.toNat:=by rw[hy,Nat.mul_add,Nat.mul_assoc]
  rw[e2,Nat.div_lt_iff_lt_mul (by omega),e3];generalize q.toNat*x4.toNat=A at*;generalize q.toNat*x5.toNat=B at*;omega
theorem dstep {q r:UInt64}(h1:2147483648≤x4.toNat∧x4.toNat<4294967296)(h0:x5.toNat<4294967296)(hd:x7.toNat<4294967296)(hy:y.toNat=x4.toNat*4294967296+x5.toNat)(hu:u.toNat<y.toNat)
  (hq:q.toNat*x4.toNat+r.toNat=u.toNat) (hr:r.toNat<4294967296) (hq2:q.toNat≤4294967297) (hc:(u.toNat*4294967296+x7.toNat)/y.toNat<q.toNat):
  (q-1).toNat=q.toNat-1∧(r+x4).toNat=r.toNat+x4.toNat∧(q-1).toNat*x4.toNat+(r+x4).toNat=u.toNat∧(u.toNat*4294967296+x7.toNat)/y.toNat≤(q-1).toNat∧
  (4294967296≤(r+x4).toNat→(q-1).toNat=(u.toNat*4294967296+x7.toNat)/y.toNat):=by
 have q1:1≤q.toNat:=Ali (Als _) hc;have e1:(q-1).toNat=q.toNat-1:=by rw[UInt64.toNat_sub_of_le _ _ (by rw[UInt64.le_iff_toNat_le]; exact q1)]; rfl
 have e2:(r+x4).toNat=r.toNat+x4.toNat:=by rw[UInt64.toNat_add]; omega
 have e3:(q.toNat-1)*x4.toNat+x4.toNat=q.toNat*x4.toNat:=by
  rw[←Nat.succ_mul]; congr 1; omega
 refine⟨e1,e2,by rw[e1,e2,Nat.add_comm r.toNat,←Alo,e3,hq],by rw[e1]; exact Nat.le_sub_one_of_lt hc,fun hb=> ?_⟩;rw[e2]at hb;refine Nat.le_antisymm ?_ (by rw[e1]; exact Nat.le_sub_one_of_lt hc);rw[e1,Nat.le_div_iff_mul_le (Ali (Als _) hu)];clear hc e1 e2;have hB:(q.toNat-1)*x5.toNat≤4294967296*4294967295:=Nat.mul_le_mul (by omega) (by omega);have e4:(q.toNat-1)*y.toNat=(q.toNat-1)*x4.toNat*4294967296+(q.toNat-1)*x5.toNat:=by rw[hy,Nat.mul_add,Nat.mul_assoc]
 rw[e4];generalize (q.toNat-1)*x4.toNat=A at*;generalize (q.toNat-1)*x5.toNat=B at*;generalize q.toNat*x4.toNat=C at*;omega
theorem dloop1 (h1:2147483648≤x4.toNat∧x4.toNat<4294967296)(h0:x5.toNat<4294967296)(hd:x7.toNat<4294967296)(hy:y.toNat=x4.toNat*4294967296+x5.toNat)(hu:u.toNat<y.toNat):
  ∀(n:Nat) (q r:UInt64),q.toNat*x4.toNat+r.toNat=u.toNat→r.toNat<4294967296→q.toNat≤4294967297→(u.toNat*4294967296+x7.toNat)/y.toNat≤q.toNat→4294967296≤r.toNat+n*2147483648→
   ∃p,iter (Ga x4 x5 x7) (n+1) (q,r)=some p∧p.toNat=(u.toNat*4294967296+x7.toNat)/y.toNat:=by
 intro n;induction n with
 |zero=>intro q r _ hr _ _ hn; omega
 |succ n ih=>
  intro q r hq hr hq2 hle hn;have hc:=dcond h1 h0 hd hy hu hq hr;by_cases hcc:(u.toNat*4294967296+x7.toNat)/y.toNat<q.toNat
  ·obtain⟨s1,s2,s3,s4,s5⟩:=dstep h1 h0 hd hy hu hq hr hq2 hcc;by_cases hb:4294967296≤(r+x4).toNat
   ·refine⟨q-1,BR ?_,s5 hb⟩;unfold Ga;rw[AkA (hc.2 hcc),AkA (by rw[AkH]; dsimp only; omega)]
   ·obtain⟨p,p1,p2⟩:=ih (q-1) (r+x4) s3 (by omega) (by omega) s4 (by omega);refine⟨p,?_,p2⟩;rw[AM (s':=(q-1,r+x4)),p1];unfold Ga;rw[AkA (hc.2 hcc),Aky (by rw[AkH]; dsimp only; omega)]
  ·refine⟨q,BR ?_,by omega⟩;unfold Ga;rw[Aky (fun h=>hcc (hc.1 h))]
theorem dloop2 (h1:2147483648≤x4.toNat∧x4.toNat<4294967296)(h0:x5.toNat<4294967296)(hd:x7.toNat<4294967296)(hy:y.toNat=x4.toNat*4294967296+x5.toNat)(hu:u.toNat<y.toNat):
  ∀(n:Nat) (q r:UInt64),q.toNat*x4.toNat+r.toNat=u.toNat→r.toNat<4294967296→q.toNat≤4294967297→(u.toNat*4294967296+x7.toNat)/y.toNat≤q.toNat→4294967296≤r.toNat+n*2147483648→
   ∃p,iter (F9 x4 x5 x7) (n+1) (r,q)=some p∧p.toNat=(u.toNat*4294967296+x7.toNat)/y.toNat:=by
 intro n;induction n with
 |zero=>intro q r _ hr _ _ hn; omega
 |succ n ih=>
  intro q r hq hr hq2 hle hn;have hc:=dcond h1 h0 hd hy hu hq hr;by_cases hcc:(u.toNat*4294967296+x7.toNat)/y.toNat<q.toNat
  ·obtain⟨s1,s2,s3,s4,s5⟩:=dstep h1 h0 hd hy hu hq hr hq2 hcc;by_cases hb:4294967296≤(r+x4).toNat
   ·refine⟨q-1,BR ?_,s5 hb⟩;unfold F9;rw[AkA (hc.2 hcc),AkA (by rw[AkH]; dsimp only; omega)]
   ·obtain⟨p,p1,p2⟩:=ih (q-1) (r+x4) s3 (by omega) (by omega) s4 (by omega);refine⟨p,?_,p2⟩;rw[AM (s':=(r+x4,q-1)),p1];unfold F9;rw[AkA (hc.2 hcc),Aky (by rw[AkH]; dsimp only; omega)]
  ·refine⟨q,BR ?_,by omega⟩;unfold F9;rw[Aky (fun h=>hcc (hc.1 h))]
theorem AhQ (h1:2147483648≤x4.toNat∧x4.toNat<4294967296)(h0:x5.toNat<4294967296)(hd:x7.toNat<4294967296)(hy:y.toNat=x4.toNat*4294967296+x5.toNat)(hu:u.toNat<y.toNat):
  (u/x4).toNat*x4.toNat+(u-(u/x4)*x4).toNat=u.toNat∧(u-(u/x4)*x4).toNat<4294967296∧(u/x4).toNat≤4294967297∧(u.toNat*4294967296+x7.toNat)/y.toNat≤(u/x4).toNat:=by
 have e1:(u/x4).toNat=u.toNat/x4.toNat:=UInt64.toNat_div _ _;have hmul:u.toNat/x4.toNat*x4.toNat≤u.toNat:=Nat.div_mul_le_self _ _;have hul:=u.toNat_lt;have e2:((u/x4)*x4).toNat=u.toNat/x4.toNat*x4.toNat:=by rw[UInt64.toNat_mul,e1]; omega
 have e3:(u-(u/x4)*x4).toNat=u.toNat-u.toNat/x4.toNat*x4.toNat:=by
  rw[UInt64.toNat_sub_of_le _ _ (by rw[UInt64.le_iff_toNat_le,e2]; exact hmul),e2]
 have e4:u.toNat-u.toNat/x4.toNat*x4.toNat=u.toNat%x4.toNat:=by
  have:=Nat.div_add_mod' u.toNat x4.toNat; omega
 have e5:=Alk u.toNat (show 0<x4.toNat by omega);refine⟨by rw[e1,e3]; omega,by rw[e3,e4]; omega,?_,?_⟩
 ·rw[e1];have:u.toNat/x4.toNat<4294967298:=by
   rw[Nat.div_lt_iff_lt_mul (by omega)];omega
  omega
 ·rw[e1,Nat.le_div_iff_mul_le (by omega)];have h2:(u.toNat*4294967296+x7.toNat)/y.toNat*y.toNat≤u.toNat*4294967296+x7.toNat:=Nat.div_mul_le_self _ _;generalize (u.toNat*4294967296+x7.toNat)/y.toNat=Q at*;have h3:Q*y.toNat=Q*x4.toNat*4294967296+Q*x5.toNat:=by rw[hy,Nat.mul_add,Nat.mul_assoc]
  rw[h3]at h2;generalize Q*x4.toNat=A at*;generalize Q*x5.toNat=B at*;omega
theorem drest {q:UInt64}(hu:u.toNat<y.toNat)(hq:q.toNat=(u.toNat*4294967296+x7.toNat)/y.toNat):(((u*4294967296)+x7)-(q*y)).toNat=(u.toNat*4294967296+x7.toNat)%y.toNat:=by
 have hyl:=y.toNat_lt;have hm:=Alk (u.toNat*4294967296+x7.toNat) (show 0<y.toNat by omega);have hdm:=Nat.div_add_mod' (u.toNat*4294967296+x7.toNat) y.toNat;rw[UInt64.toNat_sub,UInt64.toNat_add,UInt64.toNat_mul,UInt64.toNat_mul,hq,show(4294967296:UInt64).toNat=4294967296 from rfl];generalize (u.toNat*4294967296+x7.toNat)/y.toNat*y.toNat=Z at*;omega
end
theorem O7 {x:UInt64}{k:Nat}(hk:k≤63):(JL x k).toNat=(x.toNat*2^k)%18446744073709551616:=by
 unfold JL;rw[Nat.min_eq_left (by omega),show(x.toNat:Int)*2^k=((x.toNat*2^k:Nat):Int)from by simp];unfold toU;rw[UInt64.toNat_ofNat'];generalize x.toNat*2^k=z;omega
theorem Ahl {a b k:Nat}(h:b<2^k):a*2^k|||b=a*2^k+b:=by
 rw[Alm]; exact(Nat.two_pow_add_eq_or_of_lt h a).symm
theorem ZP {hi lo y0:UInt64}{s:Nat}(hs:s≤63)(hlz:Ed y0=some (s:Int))(hn1:9223372036854775808≤y0.toNat*2^s)(hn2:y0.toNat*2^s<18446744073709551616)(hh:hi.toNat<y0.toNat):
  ∃q r,IZ hi lo y0=some (q,r)∧r.toNat=(hi.toNat*18446744073709551616+lo.toNat)%y0.toNat:=by
 have hyne:y0≠0:=fun e=>by rw[e]at hh; simp at hh
 unfold IZ;rw[Aky (by rw[Alu]; omega),Aa,Aky (by rw[AkH]; omega),Aa];by_cases hz:hi.toNat=0
 ·rw[AkA (by rw[Alu]; omega),AkA hyne,AkA hyne];refine⟨_,_,rfl,?_⟩;rw[UInt64.toNat_mod,hz]; simp
 ·have hts:(toU (s:Int)).toNat=s:=J0 (by omega);have h64:(64-toU (s:Int)).toNat=64-s:=by
   rw[UInt64.toNat_sub_of_le _ _ (by rw[UInt64.le_iff_toNat_le,hts]; show s≤64; omega),hts]; rfl
  rw[Aky (by rw[Alu]; omega),hlz,Aa,hts,h64];simp only[Bx];have hps:0<2^s:=Nat.two_pow_pos s;have hpp:2^s*2^ (64-s)=18446744073709551616:=by rw[←Nat.pow_add,show s+(64-s)=64 from by omega]
  have hY:(JL y0 s).toNat=y0.toNat*2^s:=by rw[O7 (by omega)]; exact Ak0 hn2
  have hlo:=lo.toNat_lt;have hlod:lo.toNat/2^ (64-s)<2^s:=by rw[Nat.div_lt_iff_lt_mul (Nat.two_pow_pos _),hpp]; omega
  have hhs:hi.toNat*2^s+2^s≤y0.toNat*2^s:=by rw[←Nat.succ_mul]; exact Nat.mul_le_mul_right _ hh
  have hU:((JL hi s)|||(Fu lo (64-s))).toNat=hi.toNat*2^s+lo.toNat/2^ (64-s):=by
   rw[UInt64.toNat_or,O7 (by omega),D2 _ _ (by omega),Ak0 (by omega),Ahl hlod]
  have hL:(JL lo s).toNat=(lo.toNat*2^s)%18446744073709551616:=O7 (by omega);have m32: ∀x:UInt64,(x&&&4294967295).toNat=x.toNat%4294967296:=fun x=>by
   rw[UInt64.toNat_and]; exact Nat.and_two_pow_sub_one_eq_mod _ 32
  have s32: ∀x:UInt64,(Fu x 32).toNat=x.toNat/4294967296:=fun x=>D2 x 32 (by omega);have hlos:lo.toNat*2^s=lo.toNat/2^ (64-s)*18446744073709551616+(lo.toNat*2^s)%18446744073709551616:=by
   have e1:lo.toNat*2^s/18446744073709551616=lo.toNat/2^ (64-s):=by
    rw[←hpp,Alm,Nat.mul_div_mul_left _ _ hps]
   rw[←e1]; exact(Nat.div_add_mod' _ _).symm
  have hN:(hi.toNat*18446744073709551616+lo.toNat)*2^s=(hi.toNat*2^s+lo.toNat/2^ (64-s))*18446744073709551616+(lo.toNat*2^s)%18446744073709551616:=by
   rw[Nat.add_mul,hlos,Nat.add_mul,Nat.mul_right_comm];omega
  generalize hgy:JL y0 s=y at*;generalize hgu:(JL hi s)|||(Fu lo (64-s))=u at*;generalize hgl:JL lo s=l at*;have hyl:=y.toNat_lt;have a1:2147483648≤(Fu y 32).toNat∧(Fu y 32).toNat<4294967296:=by rw[s32]; omega
  have a0:(y&&&4294967295).toNat<4294967296:=by rw[m32]; omega
  have ay:y.toNat=(Fu y 32).toNat*4294967296+(y&&&4294967295).toNat:=by rw[s32,m32]; omega
  have ad:(Fu l 32).toNat<4294967296:=by rw[s32]; have:=l.toNat_lt; omega
  have ae:(l&&&4294967295).toNat<4294967296:=by rw[m32]; omega
  have au:u.toNat<y.toNat:=by rw[hU,hY]; omega
  have hx4:Fu y 32≠0:=fun e=>by rw[e]at a1; simp at a1
  obtain⟨b1,b2,b3,b4⟩:=AhQ a1 a0 ad ay au;obtain⟨q1,c1,c2⟩:=dloop1 a1 a0 ad ay au 2 _ _ b1 b2 b3 b4 (by omega);have hr1:=drest au c2;have hr1l:=Alk (u.toNat*4294967296+(Fu l 32).toNat) (show 0<y.toNat by omega);rw[AkA hx4,En _ c1 (by omega),Aa,Aa,AkA hx4];generalize hgv:((u*4294967296)+(Fu l 32))-(q1*y)=v at*;have av:v.toNat<y.toNat:=by omega
  obtain⟨d1,d2,d3,d4⟩:=AhQ a1 a0 ae ay av;obtain⟨q0,e1,e2⟩:=dloop2 a1 a0 ae ay av 2 _ _ d1 d2 d3 d4 (by omega);have hr0:=drest av e2;rw[En _ e1 (by omega),Aa,Aa];refine⟨_,_,rfl,?_⟩;rw[D2 _ _ (by omega),hr0,hr1];have f1:(((u.toNat*4294967296+(Fu l 32).toNat)%y.toNat)*4294967296+(l&&&4294967295).toNat)%y.toNat=((hi.toNat*18446744073709551616+lo.toNat)*2^s)%y.toNat:=by
   rw[Nat.add_mod,Nat.mod_mul_mod,←Nat.add_mod,hN,←hU,←hL,s32,m32];have e9:(u.toNat*4294967296+l.toNat/4294967296)*4294967296+l.toNat%4294967296=u.toNat*18446744073709551616+l.toNat:=by omega
   rw[e9]
  rw[f1,hY,Nat.mul_mod_mul_right,Nat.mul_div_cancel _ hps]
abbrev GQ:Nat:=2305843009213691579
abbrev GR:Nat:=1152921504606845789
def Dv (y:UInt64):Prop:= ∃s:Nat,s≤63∧Ed y=some (s:Int)∧9223372036854775808≤y.toNat*2^s∧y.toNat*2^s<18446744073709551616
theorem dvQ:Dv 2305843009213691579:=⟨3,by omega,by kernel_rfl,by decide,by decide⟩
theorem dvR:Dv 1152921504606845789:=⟨4,by omega,by kernel_rfl,by decide,by decide⟩
theorem dvR1:Dv 1152921504606845788:=⟨4,by omega,by kernel_rfl,by decide,by decide⟩
theorem Dv.pos {y:UInt64}(h:Dv y):0<y.toNat:=by
 obtain⟨s,_,_,h1,_⟩:=h;by_cases e:y.toNat=0
 ·rw[e]at h1; simp at h1
 ·omega
theorem Ahg {y:UInt64}(h:Dv y)(hi lo:UInt64): ∃z,Hd hi lo y=some z∧z.toNat=(hi.toNat*18446744073709551616+lo.toNat)%y.toNat:=by
 have hpos:=h.pos;obtain⟨s,h1,h2,h3,h4⟩:=h;have hyne:y≠0:=fun e=>by rw[e]at hpos; simp at hpos
 have hm:(hi%y).toNat=hi.toNat%y.toNat:=UInt64.toNat_mod _ _;obtain⟨q,r,e1,e2⟩:=ZP (hi:=hi%y) (lo:=lo) h1 h2 h3 h4 (by rw[hm]; exact Alk _ hpos);refine⟨r,?_,?_⟩
 ·unfold Hd;rw[AkA hyne,e1,Aa]
 ·rw[e2,hm,Nat.add_mod,Nat.mod_mul_mod,←Nat.add_mod]
def ofN (n:Nat):UInt64:=UInt64.ofNat n
theorem AcL {n:Nat}(h:n<18446744073709551616):(ofN n).toNat=n:=by
 unfold ofN; rw[UInt64.toNat_ofNat']; exact Ak0 h
theorem U1 (n:Nat){y:UInt64}(h:0<y.toNat):(ofN (n%y.toNat)).toNat=n%y.toNat:=AcL (Alw (Alk _ h) (Nat.le_of_lt y.toNat_lt))
theorem Zh {z:UInt64}{n:Nat}(h:z.toNat=n):z=ofN n:=by
 rw[←h]; exact VZ (AcL z.toNat_lt).symm
def Zo (y a b:UInt64):UInt64:=ofN ((a.toNat*b.toNat)%y.toNat)
theorem Zn {y:UInt64}(h:Dv y)(a b:UInt64):(Zo y a b).toNat=(a.toNat*b.toNat)%y.toNat:=U1 _ h.pos
theorem Lv {y:UInt64}(h:Dv y)(a b:UInt64):Dd y a b=some (Zo y a b):=by
 obtain⟨z,e1,e2⟩:=Ahg h (phi a b) (a*b);unfold Dd;rw[U3,Aa,e1,Aa];rw[UW,UInt64.toNat_mul,Nat.div_add_mod']at e2;rw[Zh e2]; rfl
def addM (y a b:UInt64):UInt64:=ofN ((a.toNat+b.toNat)%y.toNat)
theorem AgZ {y:UInt64}(h:Dv y)(a b:UInt64):(addM y a b).toNat=(a.toNat+b.toNat)%y.toNat:=U1 _ h.pos
theorem W3 (a b:UInt64):(Ky a b).toNat*18446744073709551616+(a+b).toNat=a.toNat+b.toNat:=by
 have:=a.toNat_lt;have:=b.toNat_lt;unfold Ky;rw[UInt64.toNat_ofNat',UInt64.toNat_add];omega
theorem Tv {y:UInt64}(h:Dv y)(a b:UInt64):EI y a b=some (addM y a b):=by
 have hpos:=h.pos;have hyne:y≠0:=fun e=>by rw[e]at hpos; simp at hpos
 obtain⟨z,e1,e2⟩:=Ahg h (Ky (a%y) (b%y)) ((a%y)+(b%y));unfold EI;rw[AkA hyne,AkA hyne,e1,Aa];rw[W3,UInt64.toNat_mod,UInt64.toNat_mod,←Nat.add_mod]at e2;rw[Zh e2]; rfl
theorem Ai9 {P d r c sm t:Nat}(hP:d*18446744073709551616+r=P)(hr:r<18446744073709551616)(hd:d<2305843009213693952)(hc:c*18446744073709551616+sm=r+t)(ht:t<18446744073709551616):
  ((d+c)%18446744073709551616)*18446744073709551616+sm=P+t:=by
 have h1:c≤1:=by omega
 rw[Ak0 (show d+c<18446744073709551616 by omega),Nat.add_mul,←hP,Alo,hc,Alo]
def AfB (s:UInt64×UInt64)(y:UInt64):UInt64:=ofN ((s.1.toNat*2305843009213693952+s.2.toNat)%y.toNat)
theorem AfA {y:UInt64}(h:Dv y)(s:UInt64×UInt64):(AfB s y).toNat=(s.1.toNat*2305843009213693952+s.2.toNat)%y.toNat:=U1 _ h.pos
theorem Zj {y:UInt64}(h:Dv y)(s:UInt64×UInt64):Hb s y=some (AfB s y):=by
 have hpos:=h.pos;have hyne:y≠0:=fun e=>by rw[e]at hpos; simp at hpos
 obtain⟨t,h1,h2,h3,h4⟩:=h;have hp:(phi s.1 2305843009213693952).toNat=s.1.toNat*2305843009213693952/18446744073709551616:=UW _ _;have hl:(s.1*2305843009213693952).toNat=s.1.toNat*2305843009213693952%18446744073709551616:=UInt64.toNat_mul _ _;have hs1:=s.1.toNat_lt;have hs2:=s.2.toNat_lt;have hc:=W3 (s.1*2305843009213693952) s.2;have Ku:(phi s.1 2305843009213693952+Ky (s.1*2305843009213693952) s.2).toNat*18446744073709551616+(s.1*2305843009213693952+s.2).toNat=s.1.toNat*2305843009213693952+s.2.toNat:=by
  rw[UInt64.toNat_add,hp];rw[hl]at hc;have hdl:s.1.toNat*2305843009213693952/18446744073709551616<2305843009213693952:=by
   rw[Nat.div_lt_iff_lt_mul (by decide),Alm (2305843009213693952)];exact Nat.mul_lt_mul_of_pos_right hs1 (by decide)
  exact Ai9 (Nat.div_add_mod' _ _) (Alk _ (by decide)) hdl hc hs2
 have hm:((phi s.1 2305843009213693952+Ky (s.1*2305843009213693952) s.2)%y).toNat=(phi s.1 2305843009213693952+Ky (s.1*2305843009213693952) s.2).toNat%y.toNat:=UInt64.toNat_mod _ _;obtain⟨q,r,e1,e2⟩:=ZP (hi:=(phi s.1 2305843009213693952+Ky (s.1*2305843009213693952) s.2)%y) (lo:=s.1*2305843009213693952+s.2) h1 h2 h3 h4 (by rw[hm]; exact Alk _ hpos);unfold Hb;rw[Aky (by rw[Alu]; omega),U3,Aa,AkA hyne];dsimp only;rw[e1,Aa];rw[hm,Nat.add_mod,Nat.mod_mul_mod,←Nat.add_mod,Ku]at e2;rw[Zh e2]; rfl
theorem AeX:((List.range 256).all fun n=>decide (n<2^ (str_0.data.toList.getD n 0).toNat)&&decide ((str_0.data.toList.getD n 0).toNat≤8))=true:=by kernel_rfl
theorem AeW:str_0.data.toList.length=256:=by kernel_rfl
theorem tabL (x:UInt64)(hx:x.toNat<256): ∃b,idx str_0.data.toList ((toB (x.toNat:Int)).toNat:Int)=some b∧x.toNat<2^b.toNat∧b.toNat≤8:=by
 have hb:(toB (x.toNat:Int)).toNat=x.toNat:=by unfold toB; rw[UInt8.toNat_ofNat']; omega
 have h:=AkI.1 AeX x.toNat (List.mem_range.2 hx);rw[Aks,AkH,AkH]at h;have hlt:x.toNat<str_0.data.toList.length:=by rw[AeW]; exact hx
 rw[List.getD_eq_getElem?_getD,AkV hlt,Option.getD_some]at h;rw[hb];exact⟨str_0.data.toList[x.toNat],Mm (by simp),h.1,h.2⟩
theorem AfV (a:UInt64): ∃L:Nat,He a=some (L:Int)∧a.toNat<2^L∧L≤64:=by
 have ha:=a.toNat_lt;have h1: ∃(x:UInt64) (n:Nat),(if(decide ((a.toNat:Int)≥4294967296))=true then some ((Fu a 32),(32:Int))else some (a,0))=some (x,(n:Int))∧n≤32∧x.toNat<4294967296∧a.toNat<(x.toNat+1)*2^n:=by
  split
  ·refine⟨Fu a 32,32,rfl,by omega,?_,?_⟩<;>rw[D2 a 32 (by omega)]<;>omega
  ·rename_i h; rw[AkH]at h; exact⟨a,0,rfl,by omega,by omega,by omega⟩
 obtain⟨x,n,e1,n1,hx,hn⟩:=h1;have h2: ∃(y:UInt64) (k:Nat),(if(decide ((x.toNat:Int)≥65536))=true then some ((Fu x 16),(w64 ((n:Int)+16)))else some (x,(n:Int)))=some (y,(k:Int))∧k≤48∧y.toNat<65536∧a.toNat<(y.toNat+1)*2^k:=by
  split
  ·refine⟨Fu x 16,n+16,by rw[BC (by omega) (by omega)]; rfl,by omega,?_,?_⟩
   ·rw[D2 x 16 (by omega)]; omega
   ·rw[D2 x 16 (by omega),Nat.pow_add];refine Alw hn ?_;have:x.toNat+1≤(x.toNat/2^16+1)*2^16:=by omega
    calc (x.toNat+1)*2^n≤((x.toNat/2^16+1)*2^16)*2^n:=Nat.mul_le_mul_right _ this
     _=(x.toNat/2^16+1)*(2^n*2^16):=by rw[Nat.mul_assoc,Alm (2^16)]
  ·rename_i h; rw[AkH]at h; exact⟨x,n,rfl,by omega,by omega,hn⟩
 obtain⟨y,k,e2,k1,hy,hk⟩:=h2;have h3: ∃(z:UInt64) (j:Nat),(if(decide ((y.toNat:Int)≥256))=true then some ((Fu y 8),(w64 ((k:Int)+8)))else some (y,(k:Int)))=some (z,(j:Int))∧j≤56∧z.toNat<256∧a.toNat<(z.toNat+1)*2^j:=by
  split
  ·refine⟨Fu y 8,k+8,by rw[BC (by omega) (by omega)]; rfl,by omega,?_,?_⟩
   ·rw[D2 y 8 (by omega)]; omega
   ·rw[D2 y 8 (by omega),Nat.pow_add];refine Alw hk ?_;have:y.toNat+1≤(y.toNat/2^8+1)*2^8:=by omega
    calc (y.toNat+1)*2^k≤((y.toNat/2^8+1)*2^8)*2^k:=Nat.mul_le_mul_right _ this
     _=(y.toNat/2^8+1)*(2^k*2^8):=by rw[Nat.mul_assoc,Alm (2^8)]
  ·rename_i h; rw[AkH]at h; exact⟨y,k,rfl,by omega,by omega,hk⟩
 obtain⟨z,j,e3,j1,hz,hj⟩:=h3;obtain⟨b,e4,b1,b2⟩:=tabL z hz;refine⟨j+b.toNat,?_,?_,by omega⟩
 ·unfold He;rw[e1,Aa];dsimp only;rw[e2,Aa];dsimp only;rw[e3,Aa,e4,Aa,Bx,BC (n:=(b.toNat:Int)) (by omega) (by omega),BC (by omega) (by omega)]; rfl
 ·refine Alw hj ?_;rw[Nat.add_comm j,Nat.pow_add];exact Nat.mul_le_mul_right _ b1
def Xa (y a n:UInt64):UInt64:=ofN (a.toNat^n.toNat%y.toNat)
theorem Afw {y:UInt64}(h:Dv y)(a n:UInt64):(Xa y a n).toNat=a.toNat^n.toNat%y.toNat:=U1 _ h.pos
theorem Akk (n j:Nat):n&&&2^j=(n.testBit j).toNat*2^j:=by
 apply Nat.eq_of_testBit_eq;intro i;rw[Nat.testBit_and,Nat.testBit_two_pow];by_cases h:j=i
 ·subst h;cases hb:n.testBit j<;>simp[hb,Nat.testBit_two_pow_self]
 ·cases hb:n.testBit j<;>simp[h,Nat.testBit_two_pow]
theorem bit_eq (n:UInt64){j:Nat}(hj:j≤63):(((n&&&(JL 1 j)).toNat:Int) !=0)=decide (n.toNat/2^j%2=1):=by
 have h1:(JL 1 j).toNat=2^j:=by
  rw[O7 hj,show(1:UInt64).toNat=1 from rfl,Nat.one_mul];exact Ak0 (Ali (Nat.pow_le_pow_right (by omega) hj) (by decide))
 have h2:(n&&&(JL 1 j)).toNat=(n.toNat.testBit j).toNat*2^j:=by rw[UInt64.toNat_and,h1,Akk]
 rw[h2];have hp:=Nat.two_pow_pos j;rw[Nat.testBit_eq_decide_div_mod_eq];by_cases hb:n.toNat/2^j%2=1
 ·simp only[hb,decide_true,Bool.toNat_true,Nat.one_mul];rw[bne_iff_ne]; omega
 ·simp only[hb,decide_false,Bool.toNat_false,Nat.zero_mul]; rfl
theorem pow_it (a n:UInt64): ∀(j:Nat) (out:UInt64),j≤64→out.toNat=a.toNat^ (n.toNat/2^j)% (2305843009213691579:UInt64).toNat→
  ∃r,iter (Dx (fun(s:UInt64) (b0:Bool)=>Ab (C4 a b0 s) fun z=>some (true,z)) n) (j+1) ((j:Int)-1,out)=some (.inl r)∧r.toNat=a.toNat^n.toNat% (2305843009213691579:UInt64).toNat:=by
 have h:=dvQ;unfold C4;generalize (2305843009213691579:UInt64)=y at*;intro j;induction j with
 |zero=>
  intro out _ ho;refine⟨out,BR ?_,by rw[ho]; simp⟩;unfold Dx;rw[Aky (by simp)]
 |succ j ih=>
  intro out hj ho;have hw:w64 ((((j+1:Nat):Int)-1)-1)=(j:Int)-1:=by rw[BC (by omega) (by omega)]; omega
  have hk:(((j+1:Nat):Int)-1).toNat=j:=by omega
  have hbit:=bit_eq n (j:=j) (by omega);have hdiv:n.toNat/2^ (j+1)=n.toNat/2^j/2:=by rw[Nat.pow_succ,Nat.div_div_eq_div_mul]
  have hsq:(Zo y out out).toNat=a.toNat^ (2*(n.toNat/2^ (j+1)))%y.toNat:=by
   rw[Zn h,ho,←Nat.mul_mod,←Nat.pow_add,←Nat.two_mul]
  by_cases hb:n.toNat/2^j%2=1
  ·have hn:(Zo y (Zo y out out) a).toNat=a.toNat^ (n.toNat/2^j)%y.toNat:=by
    rw[Zn h,hsq,Nat.mod_mul_mod,←Nat.pow_succ];congr 2; omega
   obtain⟨r,r1,r2⟩:=ih (Zo y (Zo y out out) a) (by omega) hn;refine⟨r,?_,r2⟩;rw[AM (s':=((j:Int)-1,Zo y (Zo y out out) a)),r1];unfold Dx;dsimp only;rw[AkA (by rw[AkH]; omega),AkA (by omega),hk,hbit];simp only[Lv h,Aa,hb,decide_true,if_true,Alp,Bool.false_eq_true,if_false,hw]
  ·have hn:(Zo y out out).toNat=a.toNat^ (n.toNat/2^j)%y.toNat:=by
    rw[hsq]; congr 2; omega
   obtain⟨r,r1,r2⟩:=ih (Zo y out out) (by omega) hn;refine⟨r,?_,r2⟩;rw[AM (s':=((j:Int)-1,Zo y out out)),r1];unfold Dx;dsimp only;rw[AkA (by rw[AkH]; omega),AkA (by omega),hk,hbit];simp only[Lv h,Aa,hb,decide_false,Alp,Bool.false_eq_true,if_false,hw]
theorem Acx (a n:UInt64):Hc a n=some (Xa 2305843009213691579 a n):=by
 unfold Hc;obtain⟨L,e1,e2,e3⟩:=AfV n;have hw:w64 ((L:Int)-1)=(L:Int)-1:=BC (by omega) (by omega);obtain⟨r,r1,r2⟩:=pow_it a n L 1 e3 (by rw[Nat.div_eq_of_lt e2]; simp);have r1':=En _ r1 (by omega);unfold E9 Is;rw[show Kp n=some n from rfl,Aa,e1,Aa,hw,r1',Aa];simp only[Aa];rw[Zh r2]; rfl
theorem SE (n:UInt64):Ea n=some (Xa 2305843009213691579 4 n):=by
 unfold Ea;rw[Acx,Aa]
theorem Ajt {u v:Int}{q:Nat}(hs:0≤u∧v≤0∨u≤0∧0≤v):(u-(q:Int)*v).natAbs=u.natAbs+q*v.natAbs∧((q:Int)*v).natAbs=q*v.natAbs∧(0≤v∧u-(q:Int)*v≤0∨v≤0∧0≤u-(q:Int)*v):=by
 have hqv:((q:Int)*v).natAbs=q*v.natAbs:=by rw[Int.natAbs_mul,Int.natAbs_natCast]
 have h1:0≤v→0≤(q:Int)*v:=fun h=>Int.mul_nonneg (Ald q) h;have h2:v≤0→(q:Int)*v≤0:=fun h=>Int.mul_nonpos_of_nonneg_of_nonpos (Ald q) h;refine⟨?_,hqv,?_⟩
 ·rw[←hqv];generalize (q:Int)*v=z at*;omega
 ·generalize (q:Int)*v=z at*;omega
theorem inv_it (m:Nat)(a:Int)(hm2:m<2305843009213693952): ∀(n:Nat) (x y:UInt64) (u v:Int),y.toNat≤n→(∃k,u*a=x.toNat+k*m)→(∃k,v*a=y.toNat+k*m)→u.natAbs*y.toNat+v.natAbs*x.toNat=m→
  (0≤u∧v≤0∨u≤0∧0≤v)→x.toNat≤m→u.natAbs≤m→v.natAbs≤m→y.toNat≤m→
  ∃r:Int,iter CC (n+1) (x,y,u,v)=some r∧(∃k,r*a=Nat.gcd x.toNat y.toNat+k*m)∧r.natAbs≤m:=by
 intro n;induction n with
 |zero=>
  intro x y u v hy hu hv hb hs hx hul hvl hyl;have hy0:y.toNat=0:=by omega
  refine⟨u,BR ?_,by rw[hy0,Nat.gcd_zero_right]; exact hu,hul⟩;unfold CC;rw[Aky (by simp[hy0])]
 |succ n ih=>
  intro x y u v hy hu hv hb hs hx hul hvl hyl;by_cases hy0:y.toNat=0
  ·refine⟨u,BR ?_,by rw[hy0,Nat.gcd_zero_right]; exact hu,hul⟩;unfold CC;rw[Aky (by simp[hy0])]
  ·have hyne:y≠0:=fun e=>hy0 (by rw[e]; rfl);have hdm:=Nat.div_add_mod' x.toNat y.toNat;have hmod:=Alk x.toNat (show 0<y.toNat by omega);have hql:x.toNat/y.toNat≤x.toNat:=Nat.div_le_self _ _;have hmul:x.toNat/y.toNat*y.toNat≤x.toNat:=Nat.div_mul_le_self _ _;have hxl:=x.toNat_lt;have hgcd:Nat.gcd x.toNat y.toNat=Nat.gcd y.toNat (x.toNat%y.toNat):=by rw[Nat.gcd_comm,Nat.gcd_rec,Nat.gcd_comm]
   have eq1:(x/y).toNat=x.toNat/y.toNat:=UInt64.toNat_div _ _;have eq2:((x/y)*y).toNat=x.toNat/y.toNat*y.toNat:=by rw[UInt64.toNat_mul,eq1]; exact Ak0 (Ali hmul hxl)
   have eq3:(x-(x/y)*y).toNat=x.toNat%y.toNat:=by
    rw[UInt64.toNat_sub_of_le _ _ (by rw[UInt64.le_iff_toNat_le,eq2]; exact hmul),eq2];omega
   generalize hq:x.toNat/y.toNat=q at*;generalize hr:x.toNat%y.toNat=r at*;obtain⟨habs,hqv,hs'⟩:=Ajt (q:=q) hs;have hbal:v.natAbs*r+(u-(q:Int)*v).natAbs*y.toNat=m:=by
    rw[habs,←hb,←hdm]; grind
   have hvm:(u-(q:Int)*v).natAbs≤m:=by
    have:(u-(q:Int)*v).natAbs*1≤(u-(q:Int)*v).natAbs*y.toNat:=Nat.mul_le_mul_left _ (by omega);omega
   have hqb:((q:Int)*v).natAbs≤m:=by omega
   have w1:w64 (q:Int)=(q:Int):=BC (by omega) (by omega);have w2:w64 ((q:Int)*v)=(q:Int)*v:=by
    generalize (q:Int)*v=z at*;exact BC (by omega) (by omega)
   have w3:w64 (u-(q:Int)*v)=u-(q:Int)*v:=by
    generalize u-(q:Int)*v=z at*;exact BC (by omega) (by omega)
   have hdmI:(q:Int)*(y.toNat:Int)+(r:Int)=(x.toNat:Int):=by exact_mod_cast hdm
   obtain⟨t,t1,t2,t3⟩:=ih y (x-(x/y)*y) v (u-(q:Int)*v) (by rw[eq3]; omega) hv (by
    obtain⟨k,hk⟩:=hu;obtain⟨l,hl⟩:=hv;refine⟨k-q*l,?_⟩;rw[eq3];grind) (by rw[eq3]; exact hbal) (by omega) hyl hvl hvm (by rw[eq3]; omega)
   rw[eq3,←hgcd]at t2;refine⟨t,?_,t2,t3⟩;rw[AM (s':=(y,x-(x/y)*y,v,u-(q:Int)*v)),t1];unfold CC;dsimp only;rw[AkA (by simp; omega),AkA hyne,eq1,Bx,w1,w2,w3,Bx]
theorem inv_eq {a:UInt64}{b:Nat}(h:a.toNat*b%GQ=1): ∃z:UInt64,KZ a=some (z,0)∧z.toNat*a.toNat%GQ=1:=by
 have hm:(a%2305843009213691579).toNat=a.toNat%GQ:=UInt64.toNat_mod _ _;have hml:=Alk a.toNat (show 0<GQ by decide);have hne:a.toNat%GQ≠0:=fun e=>by
  rw[Nat.mul_mod,e,Nat.zero_mul,Nat.zero_mod]at h; cases h
 have hg:Nat.gcd (a.toNat%GQ) GQ=1:=by
  have d1:=Nat.gcd_dvd_left (a.toNat%GQ) GQ;have d2:=Nat.gcd_dvd_right (a.toNat%GQ) GQ;have h':a.toNat%GQ*b%GQ=1:=by rw[Nat.mod_mul_mod]; exact h
  have h2:=Nat.div_add_mod (a.toNat%GQ*b) GQ;rw[h']at h2;have d3:Nat.gcd (a.toNat%GQ) GQ ∣ GQ*(a.toNat%GQ*b/GQ)+1:=by rw[h2]; exact Nat.dvd_trans d1 (Nat.dvd_mul_right _ _)
  have d4:=(Nat.dvd_add_right (Nat.dvd_trans d2 (Nat.dvd_mul_right GQ (a.toNat%GQ*b/GQ)))).1 d3;exact Nat.dvd_one.1 d4
 obtain⟨r,r1,⟨k,r2⟩,r3⟩:=inv_it GQ (a.toNat%GQ:Nat) (by decide) GQ (a%2305843009213691579) 2305843009213691579 1 0 (by decide) ⟨0,by rw[hm]; simp⟩ ⟨-1,by
  rw[show(2305843009213691579:UInt64).toNat=GQ from rfl]; simp⟩ (by rw[show(2305843009213691579:UInt64).toNat=GQ from rfl]; simp) (by omega) (by rw[hm]; omega) (by decide) (by decide) (by decide)
 rw[hm,show(2305843009213691579:UInt64).toNat=GQ from rfl,hg]at r2;have r1':=En _ r1 (by decide);have hw:w64 (((2305843009213691579:UInt64).toNat:Int))=(GQ:Int):=BC (by decide) (by decide);have hz: ∃z:Nat,(if(decide (r<0))=true then bnd ((w64 (r+(w64 (((2305843009213691579:UInt64).toNat:Int)))))) fun x7=>some x7 else some r)=some (z:Int)∧z≤GQ∧∃l:Int,(z:Int)*(a.toNat%GQ:Nat)=1+l*GQ:=by
  simp only[GQ]at*;by_cases hneg:r<0
  ·rw[AkA (by simpa using hneg),hw,Bx,BC (by omega) (by omega)];obtain⟨z,hz⟩:=Int.eq_ofNat_of_zero_le (show 0≤r+2305843009213691579 by omega);refine⟨z,by rw[←hz]; rfl,by omega,k+(a.toNat%2305843009213691579:Nat),?_⟩;rw[←hz,Int.add_mul,r2];grind
  ·rw[Aky (by simpa using hneg)];obtain⟨z,hz⟩:=Int.eq_ofNat_of_zero_le (show 0≤r by omega);exact⟨z,by rw[hz],by omega,k,by rw[←hz]; exact r2⟩
 obtain⟨z,z1,z2,l,z3⟩:=hz;have hzn:(toU (z:Int)).toNat=z:=J0 (by simp only[GQ]at z2; omega);refine⟨toU (z:Int),?_,?_⟩
 ·unfold KZ D9;rw[AkA (by decide),Aky (by rw[Alu,hm]; omega),r1',Aa,Aa,z1,Aa,Aa]
 ·rw[hzn,←Nat.mul_mod_mod];have:((z*(a.toNat%GQ):Nat):Int)=1+l*GQ:=by rw[Int.natCast_mul]; exact z3
  generalize z*(a.toNat%GQ)=w at*;simp only[GQ]at*;omega
theorem SB (n:UInt64):F4 n=some (OL 8 n):=by
 unfold F4;simp[Cg,J9,idx,w64,Bx,OL]
def AiW (k:UInt64):UInt64:=Xa 2305843009213691579 4 k
theorem RZ {k:UInt64}(h1:1≤k.toNat)(h2:k.toNat<GR):E5 k=some (AiW k,0):=by
 simp only[GR]at h2;unfold E5 Qb;rw[Bx,Aa,Aky (by simp; omega),SE,Aa]; rfl
def chal (c p:UInt64)(msg:List UInt8):UInt64:=AfB (W9 ⟨#[115,105,103,110]⟩ [OL 8 c,OL 8 p,msg]) 1152921504606845789
theorem Ad7 (c p:UInt64){msg:List UInt8}(h:msg.length≤600000):Fj c p msg=some (chal c p msg):=by
 unfold Fj;rw[SB,Aa,SB,Aa,Lq _ _ (by simp[Y7,Eu]; omega),Aa,Zj dvR,Aa]; rfl
def AcP (k:UInt64)(msg:List UInt8):UInt64:=AfB (W9 ⟨#[110,111,110,99,101]⟩ [OL 8 k,msg]) 1152921504606845788+1
theorem YR {t:ByteArray}{ps:List (List UInt8)}(h:t.data.toList.length+Y7 ps≤700000):J8 t ps=some (AfB (W9 t ps) 1152921504606845788+1):=by
 unfold J8;rw[Lq _ _ h,Aa,Zj dvR1,Aa]
def signE (k:UInt64)(msg:List UInt8):UInt64:=chal (AiW (AcP k msg)) (AiW k) msg
def signS (k:UInt64)(msg:List UInt8):g_api_Sig:=⟨signE k msg,addM 1152921504606845789 (Zo 1152921504606845789 (signE k msg) k) (AcP k msg)⟩
theorem AbI {k:UInt64}{msg:List UInt8}(h1:1≤k.toNat)(h2:k.toNat<GR)(hm:msg.length≤600000):Il k msg=some (signS k msg,0):=by
 unfold Il;rw[RZ h1 h2,Aa,Aky (by simp),SB,Aa,YR (by simp[Y7,Eu]; omega),Aa,SE,Aa];dsimp only;rw[show Xa 2305843009213691579 4 (AfB (W9 ⟨#[110,111,110,99,101]⟩ [OL 8 k,msg]) 1152921504606845788+1)=AiW (AcP k msg)from rfl,Ad7 _ _ hm,Aa];unfold Fa Gq;rw[Lv dvR,Aa,Aa,Tv dvR,Aa,Aa]; rfl
def gr:Nat:=GR
theorem Y6 (a n:UInt64):(Xa 2305843009213691579 a n).toNat=a.toNat^n.toNat%GQ:=Afw dvQ a n
theorem Ajs {p e k:Nat}(hp:p^gr%GQ=1)(he:e≤gr):p^e%GQ*p^ (gr-e)%GQ=1:=by
 rw[Nat.mod_mul_mod,←Nat.pow_add,Nat.add_sub_cancel' he]; exact hp
theorem U2 {n:Nat}(h:n<GR): ¬((n:Int)≥1152921504606845789):=by simp only[GR]at h; omega
theorem Te {α:Type} [Inhabited α](o:Option α):gu true o=o:=rfl
theorem Aga (n:Nat)(h:n≤1000000):AR (n:Int)=some []:=by
 have hw:w64 ((n:Int)-(w64 (0-((0:Nat):Int))))=(n:Int):=by rw[BC (n:=0-((0:Nat):Int)) (by omega) (by omega),BC (by omega) (by omega)]; omega
 unfold AR;rw[Aky (by rw[AkH]; omega),Aa,hw,Bx];by_cases h0:n=0
 ·rw[Aky (by simp; omega),Aa]
 ·rw[AkA (by simp; omega),AkA (by omega),Aa]
theorem AaS {xs ys:List g_api_Leaf}(h:xs.length+ys.length≤100000):Bt [xs,ys]=some (xs++ys):=by
 have w1:w64 (0+(xs.length:Int))=(xs.length:Int):=by rw[BC (by omega) (by omega)]; omega
 have w2:w64 ((xs.length:Int)+(ys.length:Int))=((xs.length+ys.length:Nat):Int):=by rw[BC (by omega) (by omega)]; omega
 have b1: ∀(i:Int) (x:List g_api_Leaf) (s:Int),0≤w64 (s+(x.length:Int))→Cs i x s=some (w64 (s+(x.length:Int))):=by
  intro i x s hs;unfold Cs;rw[Bx,Aky (by rw[AkH]; omega),Aa]
 have b2: ∀(i:Int) (x s:List g_api_Leaf),s.length+x.length≤100000→Cr i x s=some (s++x):=by
  intro i x s hs;unfold Cr;rw[EJ 32 (by omega) (by omega),Aa]
 unfold Bt;simp only[Et];rw[b1 _ _ _ (by rw[w1]; omega),Aa,w1,b1 _ _ _ (by rw[w2]; omega),Aa,w2,Aa,Aa,Aga _ (by omega),Aa,b2 _ _ _ (by simp; omega),Aa,Ak2,b2 _ _ _ h,Aa,Aa,Aa]
theorem Z6 {l:Aj}(h:l.L.length+l.Wait.length≤100000):LA l=some (l.L++l.Wait):=by
 unfold LA;rw[AaS h,Aa]
def Hw (b:List UInt8):Bool:=decide (0<b.length)&&decide (b.length≤2048)
def Lw (n:Int):Bool:=decide (0≤n)&&decide (n≤1099511627776)
theorem IP (n:Int):E7 n=some (Lw n):=rfl
theorem NA (b:List UInt8):HJ b=some (Hw b):=by
 unfold HJ Hw;rw[Bx];congr 2
 ·rw[Alz]; omega
 ·rw[Alz]; omega
def Abb (ks:List (List UInt8)):List (ByteArray×Bool):=ks.map fun b=>(bs b,true)
theorem ZZ {a b:List UInt8}:eqS (bs a) (bs b)=true↔a=b:=by simp[eqS,bs]
theorem AcX (b:List UInt8): ∀(ks:List (List UInt8)) (i:Nat),(b∈ks→∃j,lkI (Abb ks) (bs b) i=some (j,true))∧(b∉ks→lkI (Abb ks) (bs b) i=none):=by
 intro ks;induction ks with
 |nil=>intro i; exact⟨fun h=>absurd h (by simp),fun _=>rfl⟩
 |cons k ks ih=>
  intro i;simp only[Abb,AkZ,lkI];by_cases hk:b=k
  ·subst hk;rw[AkA (ZZ.2 rfl)];exact⟨fun _=>⟨i,rfl⟩,fun h=>absurd (AkN ..) h⟩
  ·rw[Aky (fun h=>hk (ZZ.1 h))];refine⟨fun h=>(ih (i+1)).1 ((Ak1.1 h).resolve_left hk),fun h=>(ih (i+1)).2 fun h'=>h (AkT _ h')⟩
theorem lkB_kv (b:List UInt8)(ks:List (List UInt8)):lkB (Abb ks) (bs b)=decide (b∈ks):=by
 unfold lkB;by_cases h:b∈ks
 ·obtain⟨j,hj⟩:=(AcX b ks 0).1 h;rw[hj,Alq h]; rfl
 ·rw[(AcX b ks 0).2 h,decide_eq_false h]; rfl
def okL:List g_api_Leaf→List (List UInt8)→Bool
 | [],_=>true
 |x::r,ks=>(Hw x.Body&&Lw x.At&& !decide (x.Body∈ks))&&okL r (ks++[x.Body])
theorem AgJ: ∀(xs:List g_api_Leaf) (ks:List (List UInt8)) (i:Int),D1 HM xs i (Abb ks)=some (if okL xs ks=true then .inl (Abb (ks++xs.map (·.Body)))else .inr 1):=by
 intro xs;induction xs with
 |nil=>intro ks i; simp[D1,okL]
 |cons x xs ih=>
  intro ks i;have hb:HM i x (Abb ks)=some (if(Hw x.Body&&Lw x.At&& !decide (x.Body∈ks))=true then .inl (Abb (ks++[x.Body]))else .inr 1):=by
   unfold HM;rw[NA,Aa,IP,lkB_kv];cases h1:Hw x.Body with
   |false=>rfl
   |true=>
    cases h2:Lw x.At with
    |false=>rfl
    |true=>
     by_cases h3:x.Body∈ks
     ·rw[Alq h3]; rfl
     ·rw[decide_eq_false h3,show gu (!!true) (some true)=some true from rfl];simp only[Alp,Bool.false_eq_true,if_false,Aa,Bool.or_self,Bool.and_self,Alr,if_true];rw[(AcX x.Body ks 0).2 h3];simp[Abb]
  have hc:okL (x::xs) ks=((Hw x.Body&&Lw x.At&& !decide (x.Body∈ks))&&okL xs (ks++[x.Body])):=rfl;simp only[D1,hb,Aa];by_cases h:(Hw x.Body&&Lw x.At&& !decide (x.Body∈ks))=true
  ·have e:okL (x::xs) ks=okL xs (ks++[x.Body]):=by rw[hc,h,Ala]
   rw[AkA h,e];dsimp only;rw[ih];simp
  ·have e:okL (x::xs) ks=false:=by rw[hc,Bool.not_eq_true _|>.mp h,Bool.false_and]
   rw[Aky h,e]; rfl
def okH:List Int→Int→Int→Bool
 | [],_,_=>true
 |x::r,last,n=>(!decide (x≤last)&& !decide (n≤x))&&okH r x n
theorem AgI (l:Aj): ∀(xs:List Int) (last:Int) (i:Int),∃z,D1 (HL l) xs i last=some (if okH xs last (l.L.length:Int)=true then .inl z else .inr 1):=by
 intro xs;induction xs with
 |nil=>intro last i; exact⟨last,by simp[D1,okH]⟩
 |cons x xs ih=>
  intro last i;obtain⟨z,hz⟩:=ih x (i+1);refine⟨z,?_⟩;have hb:HL l i x last=some (if(!decide (x≤last)&& !decide ((l.L.length:Int)≤x))=true then .inl x else .inr 1):=by
   unfold HL;by_cases h1:x≤last
   ·simp[h1]
   ·by_cases h2:(l.L.length:Int)≤x
    ·simp[h2]
    ·have h2': ¬(x≥(l.L.length:Int)):=h2;simp[h1,h2,h2']
  have hc:okH (x::xs) last (l.L.length:Int)=((!decide (x≤last)&& !decide ((l.L.length:Int)≤x))&&okH xs x (l.L.length:Int)):=rfl;simp only[D1,hb,Aa];by_cases h:(!decide (x≤last)&& !decide ((l.L.length:Int)≤x))=true
  ·have e:okH (x::xs) last (l.L.length:Int)=okH xs x (l.L.length:Int):=by rw[hc,h,Ala]
   rw[AkA h,e];exact hz
  ·have e:okH (x::xs) last (l.L.length:Int)=false:=by rw[hc,Bool.not_eq_true _|>.mp h,Bool.false_and]
   rw[Aky h,e]; rfl
def Afz (l:Aj):Bool:=Lw l.Id&& !decide (l.Key.toNat=0)&&decide (l.Key.toNat<1152921504606845789)&&decide (0≤l.Delay)&&decide (l.Delay≤1000)
def chk (l:Aj):Int:=if Afz l=true then(if okL (l.L++l.Wait) []=true then(if okH l.Hide (-1) (l.L.length:Int)=true then(if 256<(l.L++l.Wait).length then 2 else 0)else 1)else 1)else 1
theorem Ql {l:Aj}(h:l.L.length+l.Wait.length≤100000):Ha l=some (chk l):=by
 unfold Ha;rw[IP,Aa];have hc:(((((!Lw l.Id)||((l.Key.toNat:Int)==0))||(decide ((l.Key.toNat:Int)≥1152921504606845789)))||(decide (l.Delay<0)))||(decide (l.Delay>1000)))= !Afz l:=by
  unfold Afz;rw[Aly];cases Lw l.Id<;>simp<;>omega
 rw[hc];unfold chk;cases h0:Afz l with
 |false=>rfl
 |true=>
  rw[Alp,Aky (by decide),AkA rfl,Z6 h,Aa];have h3:=AgJ (l.L++l.Wait) [] 0;rw[show Abb []=([]:List (ByteArray×Bool))from rfl]at h3;rw[h3,Aa];cases h1:okL (l.L++l.Wait) []with
  |false=>simp
  |true=>
   simp only[if_true];obtain⟨z,hz⟩:=AgI l l.Hide (-1) 0;rw[hz,Aa];cases h2:okH l.Hide (-1) (l.L.length:Int)with
   |false=>simp
   |true=>
    simp only[if_true];have hl:(Abb ([]++(l.L++l.Wait).map (·.Body))).length=(l.L++l.Wait).length:=by simp[Abb]
    rw[hl];by_cases h4:256<(l.L++l.Wait).length
    ·rw[AkA h4,AkA (by rw[AkH]; omega)]
    ·rw[Aky h4,Aky (by rw[AkH]; omega)]
theorem Agb (n:Nat)(h:n≤1000000):BH (n:Int)=some []:=by
 have hw:w64 ((n:Int)-(w64 (0-((0:Nat):Int))))=(n:Int):=by rw[BC (n:=0-((0:Nat):Int)) (by omega) (by omega),BC (by omega) (by omega)]; omega
 unfold BH;rw[Aky (by rw[AkH]; omega),Aa,hw,Bx];by_cases h0:n=0
 ·rw[Aky (by simp; omega),Aa]
 ·rw[AkA (by simp; omega),AkA (by omega),Aa]
theorem Yo: ∀(xs:List (List UInt8)) (i:Int) (n:Nat),n+xs.flatten.length≤1000000→Et CG xs i (n:Int)=some ((n+xs.flatten.length:Nat):Int):=by
 intro xs;induction xs with
 |nil=>intro i n _; simp[Et]
 |cons x xs ih=>
  intro i n h;simp only[List.flatten_cons,Akz]at h;have hw:w64 ((n:Int)+(x.length:Int))=((n+x.length:Nat):Int):=by rw[BC (by omega) (by omega)]; omega
  have hb:CG i x (n:Int)=some ((n+x.length:Nat):Int):=by
   unfold CG;rw[Bx,hw,Aky (by rw[AkH]; omega),Aa]
  simp only[Et,hb,Aa];rw[ih _ _ (by omega),List.flatten_cons,Akz,Alo]
theorem Yp: ∀(xs:List (List UInt8)) (i:Int) (s:List UInt8),s.length+xs.flatten.length≤1000000→Et CF xs i s=some (s++xs.flatten):=by
 intro xs;induction xs with
 |nil=>intro i s _; simp[Et]
 |cons x xs ih=>
  intro i s h;simp only[List.flatten_cons,Akz]at h;have hb:CF i x s=some (s++x):=by
   unfold CF;rw[EJ 1 (by omega) (by omega),Aa]
  simp only[Et,hb,Aa];rw[ih _ _ (by rw[Akz]; omega),List.flatten_cons,Akw]
theorem LK {xs:List (List UInt8)}(h:xs.flatten.length≤1000000):Bb xs=some xs.flatten:=by
 have h1:=Yo xs 0 0 (by omega);rw[show((0:Nat):Int)=0 from rfl,Ak9]at h1;unfold Bb;rw[h1,Aa,Aa,Agb _ h,Aa,Yp xs 0 [] (by simpa using h),Aa,Aa,Ak2]
theorem msg_eq {w:ByteArray}{ps:List (List UInt8)}(hw:w.data.toList.length≤100)(h:ps.flatten.length≤100000):NP w ps=some (w.data.toList++ps.flatten):=by
 unfold NP;have h0:([]:List UInt8).length=0:=rfl;rw[EJ 1 (by omega) (by omega),Aa,LK (by omega),Aa,Ak2,EJ 1 (by omega) (by omega),Aa]
def e8 (n:Int):List UInt8:=[toB (BE n 56),toB (BE n 48),toB (BE n 40),toB (BE n 32),toB (BE n 24),toB (BE n 16),toB (BE n 8),toB (BE n 0)]
theorem WS (n:Int):G9 n=some (e8 n):=by
 unfold G9;simp[Cg,Kf,idx,w64,Bx,e8]
def Acs (p:g_api_Promise):List UInt8:=[112,114,111,109,105,115,101]++[e8 p.Log,e8 p.At,DE p.Leaf].flatten
theorem AhP (n:Int):(e8 n).length=8:=rfl
theorem Nj (p:g_api_Promise):D3 p=some (Acs p):=by
 unfold D3;rw[WS,Aa,WS,Aa,Mr,Aa,msg_eq (by decide) (by simp[AhP,CB]),Aa]; rfl
theorem R2 (p:g_api_Promise):(Acs p).length≤600000:=by simp[Acs,AhP,CB]
def Ai0 (b:List UInt8):UInt64×UInt64:=W9 ⟨#[108,101,97,102]⟩ [b]
theorem Ac5 {b:List UInt8}(h:b.length≤600000):Dk b=some (Ai0 b):=by
 unfold Dk;rw[Lq _ _ (by simp[Y7]; omega),Aa]; rfl
def PE:List g_api_Leaf→List UInt8→Nat→Option Nat
 | [],_,_=>none
 |x::r,b,i=>if x.Body=b then some i else PE r b (i+1)
theorem Af1 (all:List g_api_Leaf)(b:List UInt8)(hl:all.length≤100000): ∀(xs:List g_api_Leaf) (i:Nat),all.drop i=xs→
  Es (A8 all) xs.length (i:Int) b=
   some (match PE xs b i with|some j=> .inr ((j:Int),b)|none=> .inl b):=by
 intro xs;induction xs with
 |nil=>intro i _; rfl
 |cons x xs ih=>
  intro i hd;have hx:idx all (i:Int)=some x:=Mm (by
   have:(all.drop i)[0]? =some x:=by rw[hd]; rfl
   simpa using this)
  have hd':all.drop (i+1)=xs:=by rw[←All,hd]; rfl
  have hb:A8 all (i:Int) b=some (if x.Body=b then .inr ((i:Int),b)else .inl b):=by
   unfold A8 Nt Gr;rw[hx];simp only[Aa];by_cases h:x.Body=b
   ·rw[AkA h,AkA (ZZ.2 h)]
   ·rw[Aky h,Aky (fun q=>h (ZZ.1 q))]
  simp only[AkB,Es,hb,Aa,PE];by_cases h:x.Body=b
  ·rw[AkA h,AkA h]
  ·rw[Aky h,Aky h];exact ih (i+1) hd'
theorem Vd {all:List g_api_Leaf}{b:List UInt8}(hl:all.length≤100000):
  Bj all b=some (match PE all b 0 with|some j=>(j:Int)|none=> -1,b):=by
 have h:=Af1 all b hl all 0 rfl;unfold Bj;rw[show(0:Int)=((0:Nat):Int)from rfl,h,Aa];cases PE all b 0<;>rfl
theorem AaK: ∀{xs:List g_api_Leaf} {b:List UInt8} {i j:Nat},PE xs b i=some j→∃x,i≤j∧xs[j-i]? =some x∧x.Body=b:=by
 intro xs;induction xs with
 |nil=>intro b i j h; cases h
 |cons y xs ih=>
  intro b i j h;simp only[PE]at h;by_cases hy:y.Body=b
  ·rw[AkA hy]at h;cases h;exact⟨y,AkC _,by simp,hy⟩
  ·rw[Aky hy]at h;obtain⟨x,h1,h2,h3⟩:=ih h;refine⟨x,by omega,?_,h3⟩;rw[show j-i=(j-(i+1))+1 from by omega];exact h2
theorem AaL: ∀{xs:List g_api_Leaf} {b:List UInt8} {i:Nat},PE xs b i=none→∀x∈xs,x.Body≠b:=by
 intro xs;induction xs with
 |nil=>intro b i _ x hx; cases hx
 |cons y xs ih=>
  intro b i h x hx;simp only[PE]at h;by_cases hy:y.Body=b
  ·rw[AkA hy]at h; cases h
  ·rw[Aky hy]at h;rcases Ak1.1 hx with rfl|hx
   ·exact hy
   ·exact ih h x hx
theorem PK {l:Aj}(h:chk l=0):Afz l=true∧okL (l.L++l.Wait) []=true∧okH l.Hide (-1) (l.L.length:Int)=true∧(l.L++l.Wait).length≤256:=by
 unfold chk at h;cases h0:Afz l with
 |false=>rw[h0]at h; simp at h
 |true=>
  cases h1:okL (l.L++l.Wait) []with
  |false=>rw[h0,h1]at h; simp at h
  |true=>
   cases h2:okH l.Hide (-1) (l.L.length:Int)with
   |false=>rw[h0,h1,h2]at h; simp at h
   |true=>
    rw[h0,h1,h2]at h;simp only[if_true]at h;by_cases h3:256<(l.L++l.Wait).length
    ·rw[AkA h3]at h; cases h
    ·exact⟨rfl,rfl,rfl,by omega⟩
theorem chk_of {l:Aj}(h0:Afz l=true)(h1:okL (l.L++l.Wait) []=true)(h2:okH l.Hide (-1) (l.L.length:Int)=true)(h3:(l.L++l.Wait).length≤256):chk l=0:=by
 unfold chk;rw[h0,h1,h2];simp only[if_true];rw[Aky (by omega)]
theorem Adb {l:Aj}(h:Afz l=true):1≤l.Key.toNat∧l.Key.toNat<GR∧Lw l.Id=true:=by
 unfold Afz at h;simp only[Aks,Bool.not_eq_true',AkH,decide_eq_false_iff_not]at h;simp only[GR];exact⟨by omega,by omega,h.1.1.1.1⟩
theorem Ai7: ∀(xs:List g_api_Leaf) (ks:List (List UInt8)) (x:g_api_Leaf),okL (xs++[x]) ks=(okL xs ks&&(Hw x.Body&&Lw x.At&& !decide (x.Body∈ks++xs.map (·.Body)))):=by
 intro xs;induction xs with
 |nil=>intro ks x; simp[okL]
 |cons y xs ih=>
  intro ks x;show((Hw y.Body&&Lw y.At&& !decide (y.Body∈ks))&&okL (xs++[x]) (ks++[y.Body]))=(((Hw y.Body&&Lw y.At&& !decide (y.Body∈ks))&&okL xs (ks++[y.Body]))&&_);rw[ih,Bool.and_assoc];simp[Bool.and_assoc]
def pubOf (l:Aj):Ar:=⟨l.Id,AiW l.Key,l.Delay⟩
theorem Aaz {l:Aj}(hl:l.L.length+l.Wait.length≤100000)(h:chk l=0):Jz l=some (pubOf l,0):=by
 obtain⟨k1,k2,k3⟩:=Adb (PK h).1;unfold Jz;rw[Ql hl,Aa,h,Aky (by decide),RZ k1 k2,Aa]; rfl
def Ahi (l:Aj)(t:Int)(b:List UInt8):g_api_Promise:=⟨l.Id,t,Ai0 b,signS l.Key (Acs ⟨l.Id,t,Ai0 b,⟨0,0⟩⟩)⟩
def Abj (l:Aj)(b:List UInt8)(t:Int):Aj:=⟨l.Id,l.Key,l.Delay,l.L,l.Hide,l.Wait++[⟨b,t⟩]⟩
def zeroL:Aj:=⟨0,0,0,[],[],[]⟩
def zeroP:g_api_Promise:=⟨0,0,(0,0),⟨0,0⟩⟩
theorem Ako {l:Aj}{b:List UInt8}{now:Int}(hl:l.L.length+l.Wait.length≤100000)(h:chk l=0)(ha:(Hw b&&Lw now)=false):EH l b now=some (zeroL,zeroP,1):=by
 unfold EH;rw[Ql hl,Aa,h,Aky (by decide),NA,Aa,IP];cases h1:Hw b with
 |false=>rfl
 |true=>
  rw[h1,Ala]at ha;rw[ha]; rfl
theorem Aeq {l:Aj}{b:List UInt8}{now:Int}{j:Nat}{x:g_api_Leaf}(hl:l.L.length+l.Wait.length≤100000)(h:chk l=0)(ha:(Hw b&&Lw now)=true)(hj:PE (l.L++l.Wait) b 0=some j)(hx:(l.L++l.Wait)[j]? =some x):
  EH l b now=some (l,Ahi l x.At b,0):=by
 obtain⟨k1,k2,k3⟩:=Adb (PK h).1;rw[Aks]at ha;have hbl:b.length≤600000:=by have:=ha.1; unfold Hw at this; simp at this; omega
 unfold EH;rw[Ql hl,Aa,h,Aky (by decide),NA,Aa,IP,ha.1,ha.2];rw[show gu (!!true) (some true)=some true from rfl,Aa,Aky (show¬((!true)||(!true))=true by decide),Z6 hl,Aa,Vd (by simp; omega),hj,Aa];dsimp only;rw[AkA (Alq (show(j:Int)≥0 from Ald j)),Mm hx,Aa,Ac5 hbl,Aa,Nj,Aa,AbI k1 k2 (R2 _),Aa]; rfl
theorem AgY {l:Aj}{b:List UInt8}{now:Int}(hl:l.L.length+l.Wait.length≤100000)(h:chk l=0)(ha:(Hw b&&Lw now)=true)(hj:PE (l.L++l.Wait) b 0=none)(hn:(l.L++l.Wait).length=256):
  EH l b now=some (zeroL,zeroP,2):=by
 rw[Aks]at ha;unfold EH;rw[Ql hl,Aa,h,Aky (by decide),NA,Aa,IP,ha.1,ha.2];rw[show gu (!!true) (some true)=some true from rfl,Aa,Aky (show¬((!true)||(!true))=true by decide),Z6 hl,Aa,Vd (by simp; omega),hj,Aa];dsimp only;rw[Aky (by simp),AkA (by rw[hn]; rfl)]; rfl
theorem Akn {l:Aj}{b:List UInt8}{now:Int}(hl:l.L.length+l.Wait.length≤100000)(h:chk l=0)(ha:(Hw b&&Lw now)=true)(hj:PE (l.L++l.Wait) b 0=none)(hn:(l.L++l.Wait).length≠256):
  EH l b now=some (Abj l b now,Ahi l now b,0):=by
 obtain⟨k1,k2,k3⟩:=Adb (PK h).1;rw[Aks]at ha;have hbl:b.length≤600000:=by have:=ha.1; unfold Hw at this; simp at this; omega
 have hnil:([]:List g_api_Leaf).length=0:=rfl;have hnb:([]:List UInt8).length=0:=rfl;unfold EH;rw[Ql hl,Aa,h,Aky (by decide),NA,Aa,IP,ha.1,ha.2];rw[show gu (!!true) (some true)=some true from rfl,Aa,Aky (show¬((!true)||(!true))=true by decide),Z6 hl,Aa,Vd (by simp; omega),hj,Aa];dsimp only;rw[Aky (by simp),Aky (by rw[Alu]; omega)];unfold B8 Ec;rw[EJ 32 (by omega) (by omega),Aa,Aa,EJ 1 (by omega) (by omega),Aa,Aa,Ak2,Ak2,EJ 32 (by simp; omega) (by simp; omega),Aa,Ac5 hbl,Aa,Nj,Aa,AbI k1 k2 (R2 _),Aa]; rfl
theorem Ad4 {l:Aj}{b:List UInt8}{now:Int}(h:chk l=0)(ha:(Hw b&&Lw now)=true)(hj:PE (l.L++l.Wait) b 0=none)(hn:(l.L++l.Wait).length≠256):chk (Abj l b now)=0:=by
 obtain⟨h0,h1,h2,h3⟩:=PK h;have e:(Abj l b now).L++(Abj l b now).Wait=(l.L++l.Wait)++[⟨b,now⟩]:=by simp[Abj]
 refine chk_of h0 ?_ h2 ?_
 ·rw[e,Ai7,h1,Ala,Ak2];rw[ha,Ala,Bool.not_eq_true',decide_eq_false_iff_not];intro hm;obtain⟨x,hx,hxb⟩:=List.mem_map.1 hm;exact AaL hj x hx hxb
 ·rw[e,Akz]; simp at h3 hn⊢; omega
def Tot {α:Type}(x:Option α):Prop:= ∃r,x=some r
theorem tot {α:Type}(r:α):Tot (some r):=⟨r,rfl⟩
theorem Dz {α β:Type}{x:Option α}{k:α→Option β}(h:Tot x)(hk: ∀a,x=some a→Tot (k a)):Tot (Ab x k):=by
 obtain⟨a,h⟩:=h;rw[h]; exact hk a h
theorem RR {α:Type} [Inhabited α]{b:Bool}{x:Option α}(h:b=true→Tot x):Tot (gu b x):=by
 cases b with
 |true=>exact h rfl
 |false=>exact tot default
theorem RQ {α:Type}{b:Bool}{x y:Option α}(h1:b=true→Tot x)(h0:b=false→Tot y):Tot (if b=true then x else y):=by
 cases b with
 |true=>exact h1 rfl
 |false=>exact h0 rfl
theorem Ail {α:Type}{c:Prop} [Decidable c]{x y:Option α}(h1:c→Tot x)(h0: ¬c→Tot y):Tot (if c then x else y):=by
 split
 ·exact h1 ‹_›
 ·exact h0 ‹_›
theorem Rn {σ τ:Type}{step:σ→Option (σ⊕τ)}(μ:σ→Nat)(I:σ→Prop)(Q:τ→Prop)
  (h: ∀s,I s→∃r,step s=some r∧(∀s',r= .inl s'→I s'∧μ s'<μ s)∧∀t,r= .inr t→Q t): ∀n s,I s→μ s<n→∃t,iter step n s=some t∧Q t
 |0,s,_,hn=>by omega
 |n+1,s,hI,hn=>by
  obtain⟨r,h1,h2,h3⟩:=h s hI;cases r with
  |inr t=>exact⟨t,by show Ab (step s) _=_; rw[h1]; rfl,h3 t rfl⟩
  |inl s'=>
   obtain⟨i',lt⟩:=h2 s' rfl;obtain⟨t,e,q⟩:=Rn μ I Q h n s' i' (by omega);exact⟨t,by show Ab (step s) _=_; rw[h1]; exact e,q⟩
theorem TQ (s:ByteArray)(i:Nat):1≤(Utf8.decode s i).2:=by
 unfold Utf8.decode;simp only;repeat' split
 all_goals simp
theorem FN:9223372036854775808≤EV:=AkG rfl
theorem AbA (c:Int):Mj c=some (decide (c≤32)||decide (c>126)):=rfl
theorem Ve (s:ByteArray)(b:Bool)(hs:s.size<9223372036854775808):Tot (Dp s b):=by
 unfold Dp;refine Dz ?_ fun a _=> ?_
 ·obtain⟨t,e,_⟩:=Rn (step:=DR s b) (fun i=>s.size-i) (fun _=>True) (fun _=>True) (fun i _=>by
   unfold DR;by_cases hi:i<s.size
   ·rw[AkA hi];simp only[bnd,AbA,Aa];split
    ·exact⟨_,rfl,fun s' h=>(by cases h),fun _ _=>trivial⟩
    ·refine⟨_,rfl,fun s' h=> ?_,fun _ _=>trivial⟩;cases h;have:=TQ s i;exact⟨trivial,by omega⟩
   ·rw[Aky hi];exact⟨_,rfl,fun s' h=>(by cases h),fun _ _=>trivial⟩) EV 0 trivial (by have:=FN; omega)
  exact⟨t,e⟩
 ·cases a with
  |inl _=>exact tot _
  |inr _=>exact tot _
theorem AeS (s:ByteArray):Tot (Fb s):=by
 unfold Fb;refine Dz (RR fun h=> ?_) fun a _=>tot _;simp only[Aks,AkH]at h;unfold DS ED;refine Dz (Dz (Ve s true (by omega)) fun a _=>tot _) fun a _=>tot _
theorem Aby {s:ByteArray}{b:Bool}(h:Fb s=some b):b=true→eqS s (⟨#[]⟩:ByteArray)=false∧s.size≤64:=by
 unfold Fb at h;obtain⟨x,_,h⟩:=Ac h;have h:=Akr (Z2 h);intro hb;rw[hb]at h;simp only[Aks,Bool.not_eq_true',AkH]at h;exact⟨h.1.1,by omega⟩
theorem Vk (c:Int):Tot (IW c):=tot _
theorem Adl (c:Int):Tot (Jw c):=by
 unfold Jw;exact Dz (RR fun _=>Vk c) fun a _=>tot _
theorem Ac7 (s:ByteArray):Tot (Jv s):=by
 unfold Jv;refine RQ (fun _=>tot _) fun h=> ?_;simp only[Bool.or_eq_false_iff,decide_eq_false_iff_not]at h;refine Dz ?_ fun a _=> ?_
 ·obtain⟨t,e,_⟩:=Rn (step:=I6 s) (fun i=>s.size-i) (fun _=>True) (fun _=>True) (fun i _=>by
   unfold I6;by_cases hi:i<s.size
   ·rw[AkA hi];have hd:=TQ s i;obtain⟨x4,h4⟩:=RR (b:=((i:Int)==(w64 ((s.size:Int)-1)))) fun _=>Vk ((Utf8.decode s i).1:Int);obtain⟨x7,h7⟩:=RR (b:=((i:Int)==0)) fun _=>Vk ((Utf8.decode s i).1:Int);obtain⟨x9,h9⟩:=RR (b:=(!((i:Int)==0))) fun _=>Adl ((Utf8.decode s i).1:Int);simp only[bnd,h4,h7,h9,Aa];split
    ·exact⟨_,rfl,fun s' h=>(by cases h; exact⟨trivial,by omega⟩),fun _ _=>trivial⟩
    ·split
     ·exact⟨_,rfl,fun s' h=>(by cases h),fun _ _=>trivial⟩
     ·split
      ·exact⟨_,rfl,fun s' h=>(by cases h; exact⟨trivial,by omega⟩),fun _ _=>trivial⟩
      ·split
       ·exact⟨_,rfl,fun s' h=>(by cases h),fun _ _=>trivial⟩
       ·exact⟨_,rfl,fun s' h=>(by cases h; exact⟨trivial,by omega⟩),fun _ _=>trivial⟩
   ·rw[Aky hi];exact⟨_,rfl,fun s' h=>(by cases h),fun _ _=>trivial⟩) EV 0 trivial (by have:=FN; omega)
  exact⟨t,e⟩
 ·cases a with
  |inl _=>exact tot _
  |inr _=>exact tot _
theorem Ahy: ∀(l:List UInt8) (c:UInt8),Lib.indexByte l c<l.length
 | [],c=>by simp[Lib.indexByte]
 |b::l,c=>by
  have:=Ahy l c;unfold Lib.indexByte;split
  ·rw[AkB]; omega
  ·split
   ·rw[AkB]; omega
   ·rw[AkB]; omega
theorem Lr (s:ByteArray):s.data.toList.length=s.size:=by rw[Array.length_toList]; rfl
theorem WI (s:ByteArray): ∃x:Int,F0 s (⟨#[46]⟩:ByteArray)=some x∧ -1≤x∧x<s.size:=by
 unfold F0 CH C0;simp only[bnd];by_cases h:((((⟨#[46]⟩:ByteArray).size:Int)==0)||eqS (⟨#[46]⟩:ByteArray) s)=true
 ·rw[AkA h];refine⟨0,rfl,by omega,?_⟩;have h1:eqS (⟨#[46]⟩:ByteArray) s=true:=by
   cases he:eqS (⟨#[46]⟩:ByteArray) s with
   |true=>rfl
   |false=>rw[he]at h; cases h
  have h2: [(46:UInt8)]=s.data.toList:=by simpa[eqS]using h1
  have h3:=Lr s;rw[←h2]at h3;simp only[AkB,AkY]at h3;omega
 ·rw[Aky h];refine⟨ixbS s 46,rfl,Lib.indexByte_ge _ _,?_⟩;have:=Ahy s.data.toList 46;rw[Lr]at this;exact this
theorem DO {x:Int}(h0: -9223372036854775808≤x)(h1:x≤9223372036854775807):w64 x=x:=by
 unfold w64; omega
theorem NS {s:ByteArray}{lo hi:Int}(h0:0≤lo)(h1:lo≤hi)(h2:hi≤s.size):WX s lo hi=some (s.extract lo.toNat hi.toNat):=by
 unfold WX; rw[AkA ⟨h0,h1,h2⟩]
theorem Zl (s:ByteArray)(n k:Int):ES s n k=Ab (if(decide ((s.size:Int)>k))=true then some true else Ab (EE s (⟨#[46]⟩:ByteArray)) fun x3=>some (decide (x3≥n))) fun x2=>if x2=true then some false else
  Ab (Hz s (⟨#[46]⟩:ByteArray)) fun x4=>Ab (CS (fun(s:(Unit)×Nat) (b0:ByteArray)=>if s.2=0 then Ab (CP b0 s) fun y=>some (y.2==0,y)else none) x4.1 x4.2.1 x4.2.2 ((),0)) fun x5=>
  if(x5.2.2.2).2=0 then some true else some false:=by
 unfold ES;cases decide ((s.size:Int)>k)with
 |true=>rfl
 |false=>cases EE s (⟨#[46]⟩:ByteArray)with|none=>rfl|some x=>rfl
theorem Zk (s:ByteArray)(n k:Int)(hk:k≤64):Tot (ES s n k):=by
 rw[Zl];refine Dz ?_ fun x2 hx2=> ?_
 ·refine RQ (fun _=>tot _) fun _=> ?_;exact⟨_,rfl⟩
 ·refine RQ (fun _=>tot _) fun h=> ?_;have hsz:s.size≤64:=by
   cases hd:decide ((s.size:Int)>k)with
   |true=>rw[AkA hd]at hx2; cases hx2; cases h
   |false=>simp only[decide_eq_false_iff_not]at hd; omega
  have key: ∃r,CS (fun(s:(Unit)×Nat) (b0:ByteArray)=>if s.2=0 then Ab (CP b0 s) fun y=>some (y.2==0,y)else none) (⟨#[46]⟩:ByteArray) s 0 ((),0)=some r:=by
   have hb5: ∀(b0:ByteArray) (s:Unit×Nat),∃z:Nat,CP b0 s=some ((),z):=fun b0 s=>by
    unfold CP;obtain⟨y,hy⟩:=Ac7 b0;rw[hy];simp only[Aa];split
    ·exact⟨1,rfl⟩
    ·exact⟨0,rfl⟩
   unfold CS;rw[Aky (by decide)];obtain⟨tt,hit,hq⟩: ∃t,iter (DA (fun(s:(Unit)×Nat) (b0:ByteArray)=>if s.2=0 then Ab (CP b0 s) fun y=>some (y.2==0,y)else none) (⟨#[46]⟩:ByteArray) 0) EV (s,((),0))=some t∧∀y,t= .inl y→y.2.2=0:=by
    exact Rn (step:=DA (fun(s:(Unit)×Nat) (b0:ByteArray)=>if s.2=0 then Ab (CP b0 s) fun y=>some (y.2==0,y)else none) (⟨#[46]⟩:ByteArray) 0) (fun z=>z.1.size) (fun z=>z.1.size≤64∧z.2.2=0) (fun t=> ∀y,t= .inl y→y.2.2=0) (fun z hz=>by
     obtain⟨x,h1,h2,h3⟩:=WI z.1;unfold DA;rw[h1];simp only[Aa];by_cases hx:x<0
     ·rw[AkA (by simpa using hx)];exact⟨_,rfl,fun s' h=>(by cases h),fun t ht y hy=>by subst hy; cases ht; exact hz.2⟩
     ·rw[Aky (by simpa using hx)];have hw:w64 (x+0)=x:=by rw[Int.add_zero]; exact DO (by omega) (by omega)
      have hw1:w64 (x+((⟨#[46]⟩:ByteArray).size:Int))=x+1:=DO (x:=x+1) (by omega) (by omega);rw[hw,hw1,NS (by omega) (by omega) (by omega),NS (lo:=x+1) (by omega) (by omega) (by omega)];simp only[Aa,AkA hz.2];obtain⟨zz,hzz⟩:=hb5 (z.1.extract (0:Int).toNat x.toNat) z.2;rw[hzz];simp only[Aa];split
      ·exact⟨_,rfl,fun s' h=>(by cases h),fun t ht y hy=>by subst hy; cases ht⟩
      ·rename_i hne;refine⟨_,rfl,fun s' h=> ?_,fun t ht=>by cases ht⟩;cases h;have e0:zz=0:=by simpa using hne
       refine⟨⟨?_,e0⟩,?_⟩
       ·simp only[ByteArray.size_extract]; omega
       ·simp only[ByteArray.size_extract]; omega) EV (s,((),0)) ⟨hsz,rfl⟩ (by have:=FN; show s.size<EV; omega)
   show Tot (Ab (iter _ EV (s,((),0))) _);rw[hit];cases tt with
   |inr _=>exact tot _
   |inl y3=>
    have h0:=hq y3 rfl;obtain⟨zz,hzz⟩:=hb5 y3.1 y3.2;simp only[Aa,AkA h0,hzz];exact tot _
  obtain⟨r,hr⟩:=key;show Tot (Ab (CS _ (⟨#[46]⟩:ByteArray) s 0 ((),0)) _);rw[hr];simp only[Aa];exact Ail (fun _=>tot _) fun _=>tot _
theorem Adg (s:ByteArray):Tot (G8 s):=Dz (Zk s 8 64 (by decide)) fun a _=>tot _
theorem W7 (s:ByteArray):Tot (D7 s):=by
 unfold D7;refine Dz (Adg s) fun a _=>Dz ?_ fun a _=>tot _;unfold G7;exact RQ (fun _=>tot _) fun _=>tot _
theorem Vl (s:ByteArray):Tot (C8 s (⟨#[42,46]⟩:ByteArray)):=by
 unfold C8 Cb B9;refine Dz (Dz (Dz (RR fun h=> ?_) fun a _=>tot _) fun b hb=> ?_) fun a _=>tot _
 ·simp only[AkH]at h;exact⟨_,NS (by omega) (by omega) h⟩
 ·refine RQ (fun _=>tot _) fun h=> ?_;obtain⟨x,_,hx⟩:=Ac hb;have hx:=Akr (Z2 hx);have hb:b=true:=by simpa using h
  rw[hb]at hx;simp only[Aks,AkH]at hx;exact Dz ⟨_,NS (by omega) hx.1 (by omega)⟩ fun a _=>tot _
theorem Yw (s:ByteArray):Tot (CQ s):=by
 unfold CQ F7;refine Dz (Dz (Adg s) fun a _=>RQ (fun _=>tot _) fun _=>Dz (Vl s) fun b _=>Dz (RR fun _=>Zk _ 7 62 (by decide)) fun c _=>tot _) fun a _=>Dz ?_ fun a _=>tot _;unfold G7;exact RQ (fun _=>tot _) fun _=>tot _
theorem Abu {α:Type}{x:Option α}{d:α}(h:Tot x):x=some (x.getD d):=by
 obtain⟨r,h⟩:=h;rw[h]; rfl
def textV (s:ByteArray):Bool:=(Fb s).getD false
def nameV (s:ByteArray):Int:=(D7 s).getD 0
def patV (s:ByteArray):Int:=(CQ s).getD 0
theorem Abz (s:ByteArray):Fb s=some (textV s):=Abu (AeS s)
theorem Zm (s:ByteArray):D7 s=some (nameV s):=Abu (W7 s)
theorem AcE (s:ByteArray):CQ s=some (patV s):=Abu (Yw s)
theorem YL {s:ByteArray}(h:textV s=true):eqS s (⟨#[]⟩:ByteArray)=false∧s.size≤64:=Aby (Abz s) h
theorem Wo {s:ByteArray}{n k:Int}(h:ES s n k=some true):(s.size:Int)≤k:=by
 rw[Zl]at h;obtain⟨x,hx,h⟩:=Ac h;cases hd:decide ((s.size:Int)>k)with
 |true=>
  rw[AkA hd]at hx;cases hx;cases h
 |false=>simp only[decide_eq_false_iff_not]at hd; omega
theorem Adh {s:ByteArray}(h:G8 s=some true):s.size≤64:=by
 obtain⟨x,hx,h⟩:=Ac h;cases h;have:=Wo hx;omega
theorem V2 {b:Bool}{r:Int}(h:G7 b=some r)(h0:r=0):b=true:=by
 cases b with
 |true=>rfl
 |false=>
  have h2:(110:Int)=r:=Akr h;omega
theorem AaE {s:ByteArray}(h:nameV s=0):s.size≤64:=by
 have e:=Zm s;rw[h]at e;obtain⟨x,hx,e⟩:=Ac e;obtain⟨y,hy,e⟩:=Ac e;cases e;have:=V2 hy rfl;rw[this]at hx;exact Adh hx
theorem Tf {s:ByteArray}{c:ByteArray×Bool}(h:C8 s (⟨#[42,46]⟩:ByteArray)=some c)(h1:c.2=true):c.1.size+2=s.size:=by
 unfold C8 Cb B9 at h;obtain⟨d,hd,h⟩:=Ac h;have h:=Akr h;subst h;obtain⟨p,hp,hd⟩:=Ac hd;cases p with
 |false=>
  have hd:=Akr hd;subst hd;cases h1
 |true=>
  obtain⟨q,hq,hd⟩:=Ac hd;have hd:=Akr hd;subst hd;unfold WX at hq;split at hq
  ·rename_i hc;have hq:=Akr hq;have e2:(⟨#[42,46]⟩:ByteArray).size=2:=rfl;rw[e2]at hq hc;show q.size+2=s.size;rw[←hq,ByteArray.size_extract];omega
  ·cases hq
theorem AcD {s:ByteArray}(h:patV s=0):s.size≤64:=by
 have e:=AcE s;rw[h]at e;obtain⟨x,hx,e⟩:=Ac e;obtain⟨y,hy,e⟩:=Ac e;cases e;have h1:=V2 hy rfl;unfold F7 at hx;obtain⟨b,hb,hx⟩:=Ac hx;cases b with
 |true=>exact Adh hb
 |false=>
  rw[Aky (by decide)]at hx;obtain⟨c,hc,hx⟩:=Ac hx;obtain⟨d,hd,hx⟩:=Ac hx;have hx:=Akr hx;subst hx;have h2:(c.2&&d)=true:=h1;simp only[Aks]at h2;rw[h2.1,h2.2]at hd;have h3:=Wo hd;have h4:=Tf hc h2.1;omega
def Sg (right:ByteArray→Int):List ByteArray→List ByteArray→Bool
 |_,[]=>true
 |met,s::l=> !(met.any (eqS s))&&right s==0&&Sg right (met++[s]) l
def LR (met:List ByteArray):List (ByteArray×Bool):=met.map fun s=>(s,true)
theorem Se: ∀(met:List ByteArray) (s:ByteArray) (i:Nat),(lkI (LR met) s i).isSome=met.any (eqS s)∧∀p,lkI (LR met) s i=some p→p.2=true
 | [],s,i=>⟨rfl,fun p h=>by cases h⟩
 |a::met,s,i=>by
  have ih:=Se met s (i+1);rw[List.any_cons];cases h:eqS s a with
  |true=>
   refine⟨?_,fun p hp=> ?_⟩
   ·show(if eqS s a=true then some (i,true)else lkI (LR met) s (i+1)).isSome=_;rw[AkA h]; rfl
   ·have hp:(if eqS s a=true then some (i,true)else lkI (LR met) s (i+1))=some p:=hp;rw[AkA h]at hp;cases hp; rfl
  |false=>
   refine⟨?_,fun p hp=> ?_⟩
   ·show(if eqS s a=true then some (i,true)else lkI (LR met) s (i+1)).isSome=_;rw[Aky (by rw[h]; decide)]; exact ih.1
   ·have hp:(if eqS s a=true then some (i,true)else lkI (LR met) s (i+1))=some p:=hp;rw[Aky (by rw[h]; decide)]at hp;exact ih.2 p hp
theorem Wv (met:List ByteArray)(s:ByteArray):lkB (LR met) s=met.any (eqS s):=by
 have h:=Se met s 0;unfold lkB;rw[←h.1];cases e:lkI (LR met) s 0 with
 |none=>rfl
 |some p=>rw[AkL,Option.getD_some,h.2 p e]; rfl
theorem Zx (met:List ByteArray)(s:ByteArray)(h:met.any (eqS s)=false):(lkI (LR met) s 0).isNone=true:=by
 have h1:=(Se met s 0).1;rw[h]at h1;cases e:lkI (LR met) s 0 with
 |none=>rfl
 |some p=>rw[e]at h1; cases h1
theorem Ajm (right:ByteArray→Int)(mr:ByteArray→Option Int)(hr: ∀s,mr s=some (right s)): ∀(l met:List ByteArray) (i:Int),
  D1 (fun(i1:Int) (x2:ByteArray) (s1:List (ByteArray×Bool))=>Ab (gu (!(lkB s1 x2)) (mr x2)) fun x3=>if((lkB s1 x2)||(x3 !=0))=true then some (.inr false)else if(lkI s1 x2 0).isNone=true then some (.inl (s1++[(x2,true)]))else none) l i (LR met)
   =some (if Sg right met l=true then .inl (LR (met++l))else .inr false)
 | [],met,i=>by simp[D1,Sg]
 |s::l,met,i=>by
  have ih:=Ajm right mr hr l (met++[s]) (i+1);have hm':=Wv met s;simp only[D1,hr]at ih⊢;rw[hm'];cases hm:met.any (eqS s)with
  |true=>simp[gu,Sg,hm]
  |false=>
   simp only[gu,Alr,cond_true,Aa,Alx];cases h0:right s==0 with
   |false=>
    have h1:(right s !=0)=true:=by simp only[bne,h0,Alr]
    rw[AkA h1];simp[Sg,hm,h0]
   |true=>
    have h1:(right s !=0)=false:=by simp only[bne,h0,Alp]
    rw[h1];simp only[Bool.false_eq_true,if_false,Zx met s hm,if_true,Aa];have e:LR met++[(s,true)]=LR (met++[s]):=by simp[LR]
    rw[e];simp only[gu]at ih;rw[ih];simp[Sg,hm,h0]
def listV (right:ByteArray→Int)(l:List ByteArray)(a b:Int):Bool:=Sg right [] l&&decide ((l.length:Int)≥a)&&decide ((l.length:Int)≤b)
theorem Ac0 (l:List ByteArray)(a b:Int):GS l a b=some (listV patV l a b):=by
 unfold GS;have h:=Ajm patV CQ AcE l [] 0;show Ab (D1 _ l 0 (LR [])) _=_;unfold Kr;rw[h];unfold listV;cases Sg patV [] l<;>rfl
theorem AcZ (l:List ByteArray)(a b:Int):GP l a b=some (listV nameV l a b):=by
 unfold GP;have h:=Ajm nameV D7 Zm l [] 0;show Ab (D1 _ l 0 (LR [])) _=_;unfold Kq;rw[h];unfold listV;cases Sg nameV [] l<;>rfl
theorem Wx {right:ByteArray→Int}: ∀{l met:List ByteArray},Sg right met l=true→∀s∈l,right s=0
 | [],met,_,s,hs=>by cases hs
 |a::l,met,h,s,hs=>by
  simp only[Sg,Aks,Alu]at h;rcases Ak1.1 hs with e|hs
  ·rw[e]; exact h.1.2
  ·exact Wx h.2 s hs
def numB (n:Int):Bool:=decide (n≥0)&&decide (n≤1099511627776)
def sigB (s:g_api_Sig):Bool:=decide ((P9 s.E s.S).toNat<1152921504606845789)
def promBC (p:g_api_Promise):Bool:=numB p.Log&&numB p.At&&decide ((P9 p.Leaf.1 p.Leaf.2).toNat<2305843009213693951)&&sigB p.Sig
theorem TC (n:Int):Fc n=some (numB n):=rfl
theorem V8 (s:g_api_Sig):HT s=some (sigB s):=by
 unfold HT sigB;simp only[bnd,Akv,Alz];omega
theorem max_eq (a b:UInt64):C1 [a,b]=some (P9 a b):=by
 have e1:BT [a,b] (a,1)=some (.inl (P9 a b,2)):=rfl;have e2:BT [a,b] (P9 a b,2)=some (.inr (P9 a b)):=rfl;have h: ∀n,iter (BT [a,b]) (n+1+1) (a,1)=some (P9 a b):=fun n=>by
  simp only[iter,e1,Aa,e2]
 have hf:iter (BT [a,b]) EV (a,1)=some (P9 a b):=h 18446744073709551614;have i0:idx [a,b] 0=some a:=rfl;have d0:decide ((([a,b]:List UInt64).length:Int)<1)=false:=rfl;unfold C1;rw[d0,i0];simp only[Bool.false_eq_true,if_false,Aa,hf]
theorem gu_b {c v:Bool}:gu c (some v)=some (c&&v):=by cases c<;>rfl
theorem ZG {α:Type} [Inhabited α](o:Option α):gu true o=o:=rfl
theorem AhC {α:Type} [Inhabited α](o:Option α):gu false o=some default:=rfl
theorem G4 {α β:Type}(a:α)(k:α→β):bnd a k=k a:=rfl
theorem XZ (p:g_api_Promise):HU p=some (promBC p):=by
 unfold HU promBC;simp only[TC,max_eq,V8,gu_b,G4,Aa];have e: ∀x:UInt64,decide ((x.toNat:Int)<2305843009213693951)=decide (x.toNat<2305843009213693951):=fun x=>by
  rw[Alz]; omega
 simp only[e];cases numB p.Log with
 |false=>simp only[Bool.false_and,AhC,Aa]
 |true=>
  cases numB p.At with
  |false=>simp only[Bool.false_and,Ala,AhC,Aa]
  |true=>
   simp only[Ala,ZG,Aa];cases decide ((P9 p.Leaf.1 p.Leaf.2).toNat<2305843009213693951)<;>simp only[Bool.false_and,Ala]
def promsB:Int→List g_api_Promise→Bool
 |_,[]=>true
 |last,p::l=>promBC p&& !(decide (p.Log≤last))&&promsB p.Log l
theorem Y5: ∀(l:List g_api_Promise) (i last:Int),∃z:Int,D1 D4 l i last=some (if promsB last l=true then .inl z else .inr false)
 | [],i,last=>⟨last,rfl⟩
 |p::l,i,last=>by
  obtain⟨z,ih⟩:=Y5 l (i+1) p.Log;refine⟨z,?_⟩;have e:D4 i p last=some (if(promBC p&& !(decide (p.Log≤last)))=true then .inl p.Log else .inr false):=by
   unfold D4;rw[XZ,Aa];cases promBC p<;>cases decide (p.Log≤last)<;>rfl
  show Ab (D4 i p last) _=_;rw[e];cases h:promBC p&& !(decide (p.Log≤last))with
  |false=>
   simp[promsB,h]
  |true=>
   rw[AkA rfl,Aa];show D1 D4 l (i+1) p.Log=_;rw[ih];simp[promsB,h]
theorem Tx: ∀{l:List g_api_Promise} {last:Int},promsB last l=true→∀p∈l,promBC p=true
 | [],_,_,p,hp=>by cases hp
 |a::l,last,h,p,hp=>by
  simp only[promsB,Aks]at h;rcases Ak1.1 hp with e|hp
  ·rw[e]; exact h.1.1
  ·exact Tx h.2 p hp
def formB (c:Ag):Bool:=promsB (-1) c.Proms&&(numB c.Serial&&numB c.From&&numB c.Until&&decide (c.From<c.Until))&&(textV c.Issuer&&(!((c.Key.toNat:Int)==0))&&decide ((c.Key.toNat:Int)<2305843009213691579)&&decide ((c.Proms.length:Int)≤4)&&sigB c.Sig)&&(if c.Ca=true then textV c.Subject&&((c.Names.length:Int)==0)&&decide (c.Depth≥0)&&decide (c.Depth≤4)&&listV patV c.Permit 0 8 else eqS c.Subject (⟨#[]⟩:ByteArray)&&listV nameV c.Names 1 8&&(c.Depth==0)&&((c.Permit.length:Int)==0))
theorem Adv (c:Ag):JF c=some (formB c):=by
 obtain⟨z,hz⟩:=Y5 c.Proms 0 (-1);unfold JF formB;rw[hz];cases promsB (-1) c.Proms with
 |false=>rfl
 |true=>
  rw[AkA rfl,Aa];simp only[TC,Abz,V8,Ac0,AcZ,gu_b,G4,Aa,Ala];have e1:decide (c.From≥c.Until)= !decide (c.From<c.Until):=by
   rw[←decide_not,Alz]; omega
  have e2:decide ((c.Key.toNat:Int)≥2305843009213691579)= !decide ((c.Key.toNat:Int)<2305843009213691579):=by
   rw[←decide_not,Alz]; omega
  have e3:decide ((c.Proms.length:Int)>4)= !decide ((c.Proms.length:Int)≤4):=by
   rw[←decide_not,Alz]; omega
  rw[e1,e2,e3];generalize numB c.Serial=a1;generalize numB c.From=a2;generalize numB c.Until=a3;generalize decide (c.From<c.Until)=a4;generalize textV c.Issuer=b1;generalize ((c.Key.toNat:Int)==0)=b2;generalize decide ((c.Key.toNat:Int)<2305843009213691579)=b3;generalize decide ((c.Proms.length:Int)≤4)=b4;generalize sigB c.Sig=b5;cases a1<;>cases a2<;>cases a3<;>cases a4<;>try rfl
  all_goals cases b1<;>cases b2<;>cases b3<;>cases b4<;>cases b5<;>try rfl
  cases c.Ca with
  |true=>
   show some _=some _;generalize listV patV c.Permit 0 8=d1;generalize textV c.Subject=d2;generalize ((c.Names.length:Int)==0)=d3;generalize decide (c.Depth≥0)=d4;generalize decide (c.Depth≤4)=d5;cases d1<;>cases d2<;>cases d3<;>cases d4<;>cases d5<;>rfl
  |false=>
   show some _=some _;generalize listV nameV c.Names 1 8=d1;generalize eqS c.Subject (⟨#[]⟩:ByteArray)=d2;cases d1<;>cases d2<;>rfl
theorem PN {α:Type}(b:Nat){xs ys:List α}(h:(xs.length+ys.length)*b≤140737488355328)(h1:xs.length+ys.length≤140737488355328):app b xs ys=some (xs++ys):=by unfold app; rw[AkA ⟨h,h1⟩]
theorem Vu {α:Type}(b:Nat){ys:List α}(h:ys.length*b≤140737488355328)(h1:ys.length≤140737488355328):app b [] ys=some ys:=by
 rw[PN b (by simpa using h) (by simpa using h1)]; rfl
theorem Sw {α:Type}(x:α)(xs:List α):cut (x::xs) 1 (((x::xs).length:Nat):Int)=some xs:=by
 unfold cut;rw[AkA ⟨by omega,by rw[AkB]; omega,by omega⟩];show some (List.take _ xs)=_;rw[Ak5];simp
def be8 (n:Int):List UInt8:=[toB (BE n 56),toB (BE n 48),toB (BE n 40),toB (BE n 32),toB (BE n 24),toB (BE n 16),toB (BE n 8),toB (BE n 0)]
def Py:List UInt8→Bool
 | []=>false
 | [_]=>true
 |a::b::l=>decide (((a::b::l).length:Int)≤8)&&((a.toNat:Int) !=((toB (-((Ae3 b 7).toNat:Int))).toNat:Int))
def V1:List UInt8→List UInt8
 | []=> []
 | [a]=> [a]
 |a::b::l=>if Py (a::b::l)=true then a::b::l else V1 (b::l)
theorem U9 (l:List UInt8):Kl l=some (Py l):=by
 match l with
 | []=>rfl
 | [a]=>rfl
 |a::b::l=>
  unfold Kl;have e0:(((a::b::l).length:Int)==0)=false:=by simp only[Alb,AkB]; omega
  have e1:(((a::b::l).length:Int)==1)=false:=by simp only[Alb,AkB]; omega
  have i0:idx (a::b::l) 0=some a:=rfl;have i1:idx (a::b::l) 1=some b:=rfl;rw[e0,e1,i0,i1];simp only[Bool.false_eq_true,if_false,Aa,G4,Py];cases decide (((a::b::l).length:Int)≤8)<;>rfl
theorem Abt: ∀(n:Nat) (l:List UInt8),l.length<n→iter EU n l=some (V1 l)
 |0,l,h=>by omega
 |n+1,l,h=>by
  show Ab (EU l) _=_;match l with
  | []=>rfl
  | [a]=>rfl
  |a::b::l=>
   have ih:=Abt n (b::l) (by simp only[AkB]at h⊢; omega);have e0:decide (((a::b::l).length:Int)>1)=true:=by simp only[AkH,AkB]; omega
   cases hl:Py (a::b::l)with
   |true=>
    have e:EU (a::b::l)=some (.inr (a::b::l)):=by
     unfold EU;rw[e0,AkA rfl,U9,hl];rfl
    rw[e];simp[V1,hl]
   |false=>
    have e:EU (a::b::l)=some (.inl (b::l)):=by
     unfold EU;rw[e0,AkA rfl,U9,hl,Sw];rfl
    rw[e];simp only[Aa];rw[ih];simp[V1,hl]
theorem Uy: ∀(l:List UInt8),(V1 l).length≤l.length
 | []=>AkC _
 | [a]=>AkC _
 |a::b::l=>by
  have ih:=Uy (b::l);unfold V1;split
  ·exact AkC _
  ·rw[AkB]; omega
def Iv (n:Int):g_api_Item:=⟨2,V1 (be8 n),[]⟩
theorem be8_eq (n:Int):Cg (Ny n) 8 0 (0,0,0,0,0,0,0,0)=some (toB (BE n 56),toB (BE n 48),toB (BE n 40),toB (BE n 32),toB (BE n 24),toB (BE n 16),toB (BE n 8),toB (BE n 0)):=rfl
theorem Vn {l:List UInt8}(h:l.length≤140737488355328):Bl l=some l:=by
 unfold Bl;rw[Vu 1 (by omega) h]; rfl
theorem Adk (n:Int):Fp n=some (Iv n):=by
 have h8:(be8 n).length=8:=rfl;have h:=Uy (be8 n);unfold Fp;rw[be8_eq];show Ab (Ab (iter EU EV (be8 n)) _) _=_;rw[Abt EV (be8 n) (by rw[h8]; have:=FN; omega)];show Ab (Bl (V1 (be8 n))) _=_;rw[Vn (by omega)];rfl
def Lf (x:UInt64):g_api_Item:=Iv (w64 (x.toNat:Int))
theorem Z3 (x:UInt64):Fx x=some (Lf x):=by unfold Fx; rw[Adk]; rfl
def FY (s:ByteArray):g_api_Item:=⟨12,s.data.toList,[]⟩
def Qp (v:Bool):g_api_Item:=⟨1,[if v=true then 255 else 0],[]⟩
def LV (l:List g_api_Item):g_api_Item:=⟨48,[],l⟩
theorem Uz {s:ByteArray}(h:s.size≤140737488355328):JN s=some (FY s):=by
 unfold JN;rw[Vu 1 (by rw[Lr]; omega) (by rw[Lr]; exact h)]; rfl
theorem AgM (v:Bool):Qd v=some (Qp v):=by cases v<;>rfl
theorem Ot {l:List g_api_Item}(h:l.length≤1000000):GM l=some (LV l):=by
 unfold GM AO;rw[Vu 56 (by omega) (by omega)]; rfl
theorem YJ: ∀(l:List ByteArray) (i:Int) (a:List g_api_Item),(∀s∈l,s.size≤64)→a.length+l.length≤1000000→Et Cv l i a=some (a++l.map FY)
 | [],i,a,_,_=>by simp[Et]
 |s::l,i,a,h,hn=>by
  rw[AkB]at hn;have ih:=YJ l (i+1) (a++[FY s]) (fun x hx=>h x (AkT _ hx)) (by rw[Akz]; show a.length+1+_≤_; omega);have e:Cv i s a=some (a++[FY s]):=by
   unfold Cv;rw[Uz (by have:=h s AkN; omega),Aa,PN 56 (by show(a.length+1)*56≤_; omega) (by show a.length+1≤_; omega)];rfl
  show Ab (Cv i s a) _=_;rw[e];show Et _ l (i+1) (a++[FY s])=_;rw[ih];simp
def H9 (l:List ByteArray):g_api_Item:=LV (l.map FY)
theorem YK {l:List ByteArray}(h: ∀s∈l,s.size≤64)(hn:l.length≤1000000):Cn l=some (H9 l):=by
 unfold Cn;rw[YJ l 0 [] h (by simpa using hn)];simp only[Aa,Ak2];rw[Ot (by rw[AkW]; exact hn)]; rfl
def IN (p:g_api_Promise):g_api_Item:=LV [Iv p.Log,Iv p.At,Lf p.Leaf.1,Lf p.Leaf.2,Lf p.Sig.E,Lf p.Sig.S]
theorem Afu (p:g_api_Promise):JG p=some (IN p):=by
 unfold JG;simp only[Adk,Z3,Aa];rw[Ot (by simp)]; rfl
theorem Y4: ∀(l:List g_api_Promise) (i:Int) (a:List g_api_Item),a.length+l.length≤1000000→Et BO l i a=some (a++l.map IN)
 | [],i,a,_=>by simp[Et]
 |s::l,i,a,hn=>by
  rw[AkB]at hn;have ih:=Y4 l (i+1) (a++[IN s]) (by rw[Akz]; show a.length+1+_≤_; omega);have e:BO i s a=some (a++[IN s]):=by
   unfold BO;rw[Afu,Aa,PN 56 (by show(a.length+1)*56≤_; omega) (by show a.length+1≤_; omega)];rfl
  show Ab (BO i s a) _=_;rw[e];show Et _ l (i+1) (a++[IN s])=_;rw[ih];simp
def Hv (l:List g_api_Promise):g_api_Item:=LV (l.map IN)
theorem Aco {l:List g_api_Promise}(hn:l.length≤1000000):Ce l=some (Hv l):=by
 unfold Ce;rw[Y4 l 0 [] (by simpa using hn)];simp only[Aa,Ak2];rw[Ot (by rw[AkW]; exact hn)]; rfl
structure W4 (c:Ag):Prop where
 issuer:c.Issuer.size≤64
 subject:c.Subject.size≤64
 names: ∀s∈c.Names,s.size≤64
 few:c.Names.length≤8
 permit: ∀s∈c.Permit,s.size≤64
 fewP:c.Permit.length≤8
 proms:c.Proms.length≤4
def QJ (c:Ag):g_api_Item:=LV [Iv c.Serial,FY c.Issuer,FY c.Subject,Lf c.Key,H9 c.Names,Iv c.From,Iv c.Until,Qp c.Ca,Iv c.Depth,H9 c.Permit]
def JI (c:Ag):g_api_Item:=LV [QJ c,Hv c.Proms]
def wholeI (c:Ag):g_api_Item:=LV [JI c,LV [Lf c.Sig.E,Lf c.Sig.S]]
theorem Acw {c:Ag}(h:W4 c):LD c=some (QJ c):=by
 unfold LD;have h1:=h.issuer; have h2:=h.subject; have h3:=h.few; have h4:=h.fewP;simp only[Adk,Z3,AgM,Uz (s:=c.Issuer) (by omega),Uz (s:=c.Subject) (by omega),YK h.names (by omega),YK h.permit (by omega),Aa];rw[Ot (by simp)]; rfl
theorem Z1 {c:Ag}(h:W4 c):Ks c=some (JI c):=by
 unfold Ks;have h1:=h.proms;rw[Acw h,Aco (by omega)];simp only[Aa];rw[Ot (by simp)]; rfl
theorem Abk {c:Ag}(h:W4 c):K0 c=some (wholeI c):=by
 unfold K0;rw[Z1 h,Z3,Z3];simp only[Aa];rw[Ot (by simp)];simp only[Aa];rw[Ot (by simp)]; rfl
structure Form (c:Ag):Prop where
 proms:promsB (-1) c.Proms=true
 serial:numB c.Serial=true
 frm:numB c.From=true
 til:numB c.Until=true
 lt:c.From<c.Until
 issuer:textV c.Issuer=true
 key0:(c.Key.toNat:Int)≠0
 keyQ:(c.Key.toNat:Int)<2305843009213691579
 nproms:(c.Proms.length:Int)≤4
 sig:sigB c.Sig=true
 ca:c.Ca=true→textV c.Subject=true∧c.Names=[]∧0≤c.Depth∧c.Depth≤4∧listV patV c.Permit 0 8=true
 leaf:c.Ca=false→c.Subject=(⟨#[]⟩:ByteArray)∧listV nameV c.Names 1 8=true∧c.Depth=0∧c.Permit=[]
theorem Yh {c:Ag}(h:formB c=true):Form c:=by
 unfold formB at h;simp only[Aks,AkH,Bool.not_eq_true',Alb]at h;obtain⟨⟨⟨h1,⟨⟨h2,h3⟩,h4⟩,h5⟩,⟨⟨⟨h6,h7⟩,h8⟩,h9⟩,h10⟩,h11⟩:=h;refine⟨h1,h2,h3,h4,h5,h6,h7,h8,h9,h10,fun e=> ?_,fun e=> ?_⟩
 ·rw[AkA e]at h11;simp only[Aks,AkH,Alu]at h11;obtain⟨⟨⟨⟨a,b⟩,d⟩,f⟩,g⟩:=h11;exact⟨a,List.eq_nil_of_length_eq_zero (by omega),by omega,f,g⟩
 ·rw[e]at h11;simp only[Bool.false_eq_true,if_false,Aks,AkH,Alu]at h11;obtain⟨⟨⟨a,b⟩,d⟩,f⟩:=h11;exact⟨Sq.1 a,b,d,List.eq_nil_of_length_eq_zero (by omega)⟩
theorem Ww {right:ByteArray→Int}{l:List ByteArray}{a b:Int}(h:listV right l a b=true):a≤l.length∧(l.length:Int)≤b∧∀s∈l,right s=0:=by
 unfold listV at h;simp only[Aks,AkH]at h;exact⟨by omega,h.2,Wx h.1.1⟩
theorem Form.sized {c:Ag}(h:Form c):W4 c:=by
 have hi:=(YL h.issuer).2;have hp:=h.nproms;cases hc:c.Ca with
 |true=>
  obtain⟨h1,h2,h3,h4,h5⟩:=h.ca hc;obtain⟨l1,l2,l3⟩:=Ww h5;exact⟨hi,(YL h1).2,(by rw[h2]; intro s hs; cases hs),by rw[h2]; decide,fun s hs=>AcD (l3 s hs),by omega,by omega⟩
 |false=>
  obtain⟨h1,h2,h3,h4⟩:=h.leaf hc;obtain⟨l1,l2,l3⟩:=Ww h2;exact⟨hi,by rw[h1]; decide,fun s hs=>AaE (l3 s hs),by omega,(by rw[h4]; intro s hs; cases hs),by rw[h4]; decide,by omega⟩
theorem AjU (t:Int):Ip t=some (if t=1 then(⟨1,409⟩,true)else if t=2 then(⟨2,73⟩,true)else if t=4 then(⟨4,410⟩,true)else if t=12 then(⟨12,411⟩,true)else if t=48 then(⟨48,414⟩,true)else(⟨0,-1⟩,false)):=by
 by_cases h1:t=1
 ·subst h1; rfl
 by_cases h2:t=2
 ·subst h2; rfl
 by_cases h3:t=4
 ·subst h3; rfl
 by_cases h4:t=12
 ·subst h4; rfl
 by_cases h5:t=48
 ·subst h5; rfl
 rw[Aky h1,Aky h2,Aky h3,Aky h4,Aky h5];have b: ∀(k:Int),t≠k→((k==t)=true)=False:=fun k h=>by simp only[Alu,eq_iff_iff,iff_false]; exact fun e=>h e.symm
 have g:Es (An tab_0) tab_0.length 0 t=some (.inl t):=by
  have i: ∀(j:Nat) (k:Gs),idx tab_0 (j:Int)=some k→t≠k.tag_→An tab_0 (j:Int) t=some (.inl t):=fun j k e hk=>by
   have hb:(k.tag_==t)=false:=by simp only[Alb]; exact fun e=>hk e.symm
   unfold An Nw;rw[e];simp only[Aa,hb,Bool.false_eq_true,if_false]
  show Ab (An tab_0 ((0:Nat):Int) t) _=_;rw[i 0 ⟨1,409⟩ rfl h1];show Ab (An tab_0 ((1:Nat):Int) t) _=_;rw[i 1 ⟨2,73⟩ rfl h2];show Ab (An tab_0 ((2:Nat):Int) t) _=_;rw[i 2 ⟨4,410⟩ rfl h3];show Ab (An tab_0 ((3:Nat):Int) t) _=_;rw[i 3 ⟨12,411⟩ rfl h4];show Ab (An tab_0 ((4:Nat):Int) t) _=_;rw[i 4 ⟨48,414⟩ rfl h5];rfl
 unfold Ip B3;rw[g];rfl
def Og (t:Int):Bool:=t==1||t==2||t==4||t==12||t==48
def boolB (b:List UInt8):Bool:=match b with| [x]=>x==0||x==255|_=>false
def QI (b:List UInt8):Bool:=b.all fun c=>decide (32≤c.toNat)&&decide (c.toNat≤126)
def Wz (t:Int)(b:List UInt8):Bool:=if t=1 then boolB b else if t=2 then Py b else if t=4 then true else if t=12 then QI b else if t=48 then b.isEmpty else false
theorem Ada (b:List UInt8):HP b=some (boolB b):=by
 match b with
 | []=>rfl
 | [x]=>
  unfold HP;have e1:((([x]:List UInt8).length:Int)==1)=true:=rfl;have e2:idx [x] 0=some x:=rfl;rw[e1,e2];have e3: ∀n:UInt8,((x.toNat:Int)==n.toNat)=(x==n):=fun n=>by
   rw[Aly,Alu,Alu,←UInt8.toNat_inj];omega
  have z0:((x.toNat:Int)==0)=(x==0):=e3 0;have z1:((x.toNat:Int)==255)=(x==255):=e3 255;simp only[ZG,Aa,G4,z0,z1,Ala];show _=some (x==0||x==255);cases h:x==0 with
  |true=>rfl
  |false=>simp only[Alr,ZG,Aa,G4,z1,Alx]
 |x::y::l=>
  unfold HP;have e1:(((x::y::l).length:Int)==1)=false:=by simp only[Alb,AkB]; omega
  rw[e1];rfl
theorem Ahz: ∀(a b:List UInt8),∃r,Es (AE (a++b)) b.length (a.length:Int) ()=some r∧(r= .inl ()↔QI b=true)∧∀i,r= .inr i→0≤i
 |a,[]=>⟨.inl (),rfl,by simp[QI],fun i h=>by cases h⟩
 |a,c::b=>by
  have hi:idx (a++c::b) (a.length:Int)=some c:=by
   unfold idx;rw[AkA (by omega)];simp
  obtain⟨r,h1,h2,h3⟩:=Ahz (a++[c]) b;have ec:(decide ((c.toNat:Int)<32)||decide ((c.toNat:Int)>126))= !(decide (32≤c.toNat)&&decide (c.toNat≤126)):=by
   rw[Aly];simp only[Alh,Bool.not_eq_true',Bool.and_eq_false_iff,AkH,decide_eq_false_iff_not];omega
  have st:AE (a++c::b) (a.length:Int) ()=some (if(decide (32≤c.toNat)&&decide (c.toNat≤126))=true then .inl ()else .inr (a.length:Int)):=by
   unfold AE Km;rw[hi];simp only[Aa,G4,ec];cases decide (32≤c.toNat)&&decide (c.toNat≤126)<;>rfl
  show∃r,Ab (AE (a++c::b) (a.length:Int) ()) _=some r∧_;rw[st];cases hc:decide (32≤c.toNat)&&decide (c.toNat≤126)with
  |false=>exact⟨.inr (a.length:Int),rfl,by simp[QI,hc],fun i h=>(by cases h; omega)⟩
  |true=>
   refine⟨r,?_,?_,h3⟩
   ·show Es (AE (a++c::b)) b.length ((a.length:Int)+1) ()=some r;rw[←h1];simp
   ·rw[h2];simp only[QI,Alf,hc,Ala]
theorem Ac9 (b:List UInt8):JC b=some (QI b):=by
 obtain⟨r,h1,h2,h3⟩:=Ahz [] b;unfold JC Cq CN;have h1:Es (AE b) b.length 0 ()=some r:=h1;rw[h1];cases r with
 |inl u=>rw[h2.1 rfl]; rfl
 |inr i=>
  have hp:QI b=false:=by
   cases h:QI b with
   |false=>rfl
   |true=>exact absurd (h2.2 h) (by simp)
  have hi:=h3 i rfl;rw[hp];show some (!(decide (i≥0)))=_;rw[Alq hi]; rfl
theorem Ac8 (b:List UInt8):JB b=some b.isEmpty:=by
 cases b with
 |nil=>rfl
 |cons a l=>
  unfold JB;have:(((a::l).length:Int)==0)=false:=by simp only[Alb,AkB]; omega
  rw[this]; rfl
theorem Si {t:Int}(h:Og t=true):t=1∨t=2∨t=4∨t=12∨t=48:=by
 unfold Og at h;simp only[Alh,Alu]at h;omega
theorem Qh {t:Int}(h:Og t=true): ∃k,Ip t=some (k,true)∧k.tag_=t∧∀b,Ps k.may_ b=some (Wz t b):=by
 rcases Si h with e|e|e|e|e
 ·subst e; exact⟨_,rfl,rfl,Ada⟩
 ·subst e; exact⟨_,rfl,rfl,U9⟩
 ·subst e; exact⟨_,rfl,rfl,fun b=>rfl⟩
 ·subst e; exact⟨_,rfl,rfl,Ac9⟩
 ·subst e; exact⟨_,rfl,rfl,Ac8⟩
theorem K3 {t:Int}(h:Og t=false):Ip t=some (⟨0,-1⟩,false)∧∀b,Wz t b=false:=by
 unfold Og at h;simp only[Bool.or_eq_false_iff,Alb]at h;obtain⟨⟨⟨⟨h1,h2⟩,h3⟩,h4⟩,h5⟩:=h;refine⟨?_,fun b=> ?_⟩
 ·rw[AjU,Aky h1,Aky h2,Aky h3,Aky h4,Aky h5]
 ·unfold Wz;rw[Aky h1,Aky h2,Aky h3,Aky h4,Aky h5]
theorem X9 {t:Int}{b:List UInt8}(h:Wz t b=true):Og t=true:=by
 cases e:Og t with
 |true=>rfl
 |false=>rw[(K3 e).2 b]at h; cases h
def mayB:Nat→g_api_Item→Bool
 |0,_=>false
 |d+1,x=>Wz x.Tag x.B&&(x.Tag==48||x.L.isEmpty)&&x.L.all (mayB d)
theorem AhA (rF:g_api_Item→Int→Option Bool)(p:g_api_Item→Bool)(d:Int): ∀(a b:List g_api_Item),(∀y∈b,rF y (w64 (d-1))=some (p y))→
  ∃r,Es (Av rF (a++b)) b.length (a.length:Int) d=some r∧(r= .inl d↔b.all p=true)∧(∀e,r= .inl e→e=d)∧∀i,r= .inr i→0≤i.1
 |a,[],_=>⟨.inl d,rfl,by simp,fun e h=>by cases h; rfl,fun i h=>by cases h⟩
 |a,c::b,h=>by
  have hi:idx (a++c::b) (a.length:Int)=some c:=by
   unfold idx;rw[AkA (by omega)];simp
  obtain⟨r,h1,h2,h4,h3⟩:=AhA rF p d (a++[c]) b fun y hy=>h y (AkT _ hy);have st:Av rF (a++c::b) (a.length:Int) d=some (if p c=true then .inl d else .inr ((a.length:Int),d)):=by
   unfold Av Me;rw[hi];simp only[Aa,h c AkN];cases p c<;>rfl
  show∃r,Ab (Av rF (a++c::b) (a.length:Int) d) _=some r∧_;rw[st];cases hc:p c with
  |false=>exact⟨.inr ((a.length:Int),d),rfl,by simp[hc],fun e h=>(by cases h),fun i h=>(by cases h; exact Ald _)⟩
  |true=>
   refine⟨r,?_,?_,h4,h3⟩
   ·show Es (Av rF (a++c::b)) b.length ((a.length:Int)+1) d=some r;rw[←h1];simp
   ·rw[h2];simp only[Alf,hc,Ala]
theorem Yn (rF:g_api_Item→Int→Option Bool)(p:g_api_Item→Bool)(d:Int)(l:List g_api_Item)(h: ∀y∈l,rF y (w64 (d-1))=some (p y)):
  ∃z,A3 rF l d=some (!(l.all p),z):=by
 obtain⟨r,h1,h2,h4,h3⟩:=AhA rF p d [] l h;have h1:Es (Av rF l) l.length 0 d=some r:=h1;unfold A3 BQ;rw[h1];cases r with
 |inl u=>
  have:=h4 u rfl;subst this;rw[h2.1 rfl];exact⟨_,rfl⟩
 |inr i=>
  have hp:l.all p=false:=by
   cases h:l.all p with
   |false=>rfl
   |true=>exact absurd (h2.2 h) (by simp)
  have hi:=h3 i rfl;rw[hp];refine⟨i.2,?_⟩;show some (decide (i.1≥0),i.2)=_;rw[Alq hi]; rfl
theorem Ahv: ∀(d n:Nat) (x:g_api_Item),d<n→d≤100→IM n x (d:Int)=some (mayB d x)
 |d,0,x,h,_=>by omega
 |0,n+1,x,_,_=>by
  show Io (IM n) x 0=some false;unfold Io;cases hk:Og x.Tag with
  |false=>rw[(K3 hk).1]; rfl
  |true=>
   obtain⟨k,e,_,_⟩:=Qh hk;rw[e]; rfl
 |d+1,n+1,x,h,hd=>by
  have ih: ∀y∈x.L,IM n y (w64 (((d+1:Nat):Int)-1))=some (mayB d y):=fun y _=>by
   rw[show w64 (((d+1:Nat):Int)-1)=(d:Int)from by rw[DO (by omega) (by omega)]; omega];exact Ahv d n y (by omega) (by omega)
  obtain⟨z,hz⟩:=Yn (IM n) (mayB d) ((d+1:Nat):Int) x.L ih;show Io (IM n) x ((d+1:Nat):Int)=some (mayB (d+1) x);unfold Io mayB;have e1:decide (((d+1:Nat):Int)<1)=false:=by rw[decide_eq_false_iff_not]; omega
  have e2:decide ((x.L.length:Int)>0)= !x.L.isEmpty:=by
   cases x.L with
   |nil=>rfl
   |cons a l=>show decide _=true; rw[AkH,AkB]; omega
  have e3:(x.Tag !=48)= !(x.Tag==48):=rfl;rw[e1,e2,e3];cases hk:Og x.Tag with
  |false=>
   rw[(K3 hk).1,(K3 hk).2]; rfl
  |true=>
   obtain⟨k,e,_,hm⟩:=Qh hk;rw[e];simp only[Aa,Alp,Bool.or_false,Alr,ZG,hm,hz,Bool.not_not];cases Wz x.Tag x.B<;>cases x.Tag==48<;>cases x.L.isEmpty<;>rfl
theorem R8 (x:g_api_Item):Kj x 8=some (mayB 8 x):=Ahv 8 EV x (by have:=FN; omega) (by decide)
def I0 (n:Nat):List UInt8:=if n<128 then [toB (n:Int)]else if n<256 then [129,toB (n:Int)]else [130,toB (BE (n:Int) 8),toB (n:Int)]
def putB:Nat→g_api_Item→List UInt8
 |0,_=> []
 |d+1,x=>toB x.Tag::(I0 (x.B++x.L.flatMap (putB d)).length++(x.B++x.L.flatMap (putB d)))
def depB:Nat→g_api_Item→Prop
 |0,_=>False
 |d+1,x=> ∀y∈x.L,depB d y
theorem AdK: ∀{d:Nat} {x:g_api_Item},mayB d x=true→depB d x
 |0,x,h=>by cases h
 |d+1,x,h=>by
  simp only[mayB,Aks,AkI]at h;exact fun y hy=>AdK (h.2 y hy)
theorem U8 (n:Nat):1≤(I0 n).length∧(I0 n).length≤3:=by
 unfold I0;split
 ·exact⟨by simp,by simp⟩
 ·split
  ·exact⟨by simp,by simp⟩
  ·exact⟨by simp,by simp⟩
theorem putE: ∀(d n:Nat) (x:g_api_Item) (b:List UInt8),d≤n→depB d x→b.length+(putB d x).length≤100000000000000→Hu n b x=some (b++putB d x)
 |0,n,x,b,_,h,_=>h.elim
 |d+1,0,x,b,h,_,_=>by omega
 |d+1,n+1,x,b,hn,hd,hb=>by
  have eP:putB (d+1) x=toB x.Tag::(I0 (x.B++x.L.flatMap (putB d)).length++(x.B++x.L.flatMap (putB d))):=rfl;have go: ∀(l:List g_api_Item) (i:Int) (s:List UInt8),(∀y∈l,depB d y)→s.length+(l.flatMap (putB d)).length≤100000000000000→Et (Fo (Hu n)) l i s=some (s++l.flatMap (putB d)):=by
   intro l;induction l with
   |nil=>intro i s _ _; simp[Et]
   |cons y l ih=>
    intro i s h hs;rw[Ak4,Akz]at hs;have e:Fo (Hu n) i y s=some (s++putB d y):=by
     unfold Fo;rw[putE d n y s (by omega) (h y AkN) (by omega)];rfl
    show Ab (Fo (Hu n) i y s) _=_;rw[e];show Et _ l (i+1) (s++putB d y)=_;rw[ih (i+1) (s++putB d y) (fun z hz=>h z (AkT _ hz)) (by rw[Akz]; omega),Ak4,Akw]
  rw[eP]at hb⊢;simp only[AkB,Akz]at hb;have hc:HQ (Hu n) x=some (x.B++x.L.flatMap (putB d)):=by
   unfold HQ;rw[Vn (by omega),Aa,go x.L 0 x.B hd (by omega)];rfl
  show Mc (Hu n) b x=_;unfold Mc;rw[hc,Aa,PN 1 (by simp only[AkB,AkY]; omega) (by simp only[AkB,AkY]; omega),Aa];rw[←Akz]at hb;have hL:(x.B++x.L.flatMap (putB d)).length=(x.B++x.L.flatMap (putB d)).length:=rfl;generalize (x.B++x.L.flatMap (putB d))=c at hb hL⊢;have hl:=U8 c.length;have hm: ∀z:List UInt8,z.length≤3→app 1 (b++[toB x.Tag]) z=some (b++[toB x.Tag]++z):=fun z hz=>PN 1 (by simp only[Akz,AkB,AkY]; omega) (by simp only[Akz,AkB,AkY]; omega);have fin:app 1 (b++[toB x.Tag]++I0 c.length) c=some (b++toB x.Tag::(I0 c.length++c)):=by
   rw[PN 1 (by simp only[Akz,AkB,AkY]; omega) (by simp only[Akz,AkB,AkY]; omega)];simp
  have mid:(bnd (decide ((c.length:Int)<128)) fun x4=>
    if x4=true then
     Ab (app 1 (b++[toB x.Tag]) ([(toB (c.length:Int))]:List UInt8)) fun x5=>
     some x5
    else
    bnd ((decide ((c.length:Int)<256))) fun x6=>
    if x6=true then
     Ab (app 1 (b++[toB x.Tag]) ([129,(toB (c.length:Int))]:List UInt8)) fun x7=>
     some x7
    else
    Ab (app 1 (b++[toB x.Tag]) ([130,(toB (BE (c.length:Int) 8)),(toB (c.length:Int))]:List UInt8)) fun x8=>
    some x8)=some (b++[toB x.Tag]++I0 c.length):=by
   rw[hm [toB (c.length:Int)] (by simp),hm [129,toB (c.length:Int)] (by simp),hm [130,toB (BE (c.length:Int) 8),toB (c.length:Int)] (by simp)];simp only[G4,Aa,AkH];unfold I0;by_cases h1:c.length<128
   ·rw[AkA h1,AkA (by omega)]
   ·rw[Aky h1,Aky (by omega)];by_cases h2:c.length<256
    ·rw[AkA h2,AkA (by omega)]
    ·rw[Aky h2,Aky (by omega)]
  rw[mid];simp only[Aa];rw[fin];rfl
theorem AiT {x:g_api_Item}(h:depB 8 x)(hs:(putB 8 x).length≤100000000000000):Sc [] x=some (putB 8 x):=by
 have:=putE 8 EV x [] (by have:=FN; omega) h (by simpa using hs);exact this
theorem Ah7 {x:g_api_Item}(hs:(putB 8 x).length≤100000000000000):
  HS x=some (if mayB 8 x=true then(if(putB 8 x).length≤8192 then(putB 8 x,0)else([],2))else([],1)):=by
 unfold HS;rw[R8];cases hm:mayB 8 x with
 |false=>rfl
 |true=>
  simp only[Aa,Alp,Bool.false_eq_true,if_false,if_true];rw[AiT (AdK hm) hs];simp only[Aa,AkH];by_cases h:(putB 8 x).length≤8192
  ·rw[Aky (by omega),AkA h]
  ·rw[AkA (by omega),Aky h]
theorem ZJ {α:Type}(f:α→List UInt8)(k:Nat): ∀(l:List α),(∀y∈l,(f y).length≤k)→(l.flatMap f).length≤l.length*k
 | [],_=>by simp
 |y::l,h=>by
  have h1:=h y AkN;have h2:=ZJ f k l fun z hz=>h z (AkT _ hz);rw[Ak4,Akz,AkB,Nat.succ_mul];omega
theorem UT (d:Nat)(x:g_api_Item):(putB (d+1) x).length≤4+x.B.length+(x.L.flatMap (putB d)).length:=by
 have:=U8 (x.B++x.L.flatMap (putB d)).length;show(toB x.Tag::(I0 (x.B++x.L.flatMap (putB d)).length++(x.B++x.L.flatMap (putB d)))).length≤_;rw[AkB,Akz,Akz]at*;omega
theorem NB (d:Nat)(n:Int):(putB d (Iv n)).length≤12:=by
 cases d with
 |zero=>simp[putB]
 |succ d=>
  have h:=UT d (Iv n);have h1:(Iv n).B.length≤8:=Uy (be8 n);have h2:(Iv n).L=[]:=rfl;rw[h2]at h;simp only[List.flatMap_nil,AkY]at h;omega
theorem RT (d:Nat){s:ByteArray}(hs:s.size≤64):(putB d (FY s)).length≤68:=by
 cases d with
 |zero=>simp[putB]
 |succ d=>
  have h:=UT d (FY s);have h1:(FY s).B.length=s.size:=Lr s;have h2:(FY s).L=[]:=rfl;rw[h2]at h;simp only[List.flatMap_nil,AkY]at h;omega
theorem Aef (d:Nat)(v:Bool):(putB d (Qp v)).length≤5:=by
 cases d with
 |zero=>simp[putB]
 |succ d=>
  have h:=UT d (Qp v);have h1:(Qp v).B.length=1:=rfl;have h2:(Qp v).L=[]:=rfl;rw[h2]at h;simp only[List.flatMap_nil,AkY]at h;omega
theorem LU (d:Nat)(l:List g_api_Item)(k:Nat)(hk: ∀e y,y∈l→(putB e y).length≤k):(putB d (LV l)).length≤4+l.length*k:=by
 cases d with
 |zero=>simp[putB]
 |succ d=>
  have h:=UT d (LV l);have h1:(LV l).B.length=0:=rfl;have h3:=ZJ (putB d) k l fun y hy=>hk d y hy;have h2:(LV l).L=l:=rfl;rw[h2]at h;omega
theorem Tu (d:Nat){l:List ByteArray}(h: ∀s∈l,s.size≤64)(hn:l.length≤8):(putB d (H9 l)).length≤1000:=by
 have:=LU d (l.map FY) 68 fun e y hy=>by
  obtain⟨s,hs,e2⟩:=List.mem_map.1 hy;rw[←e2];exact RT e (h s hs)
 rw[AkW]at this;unfold H9;omega
theorem mem2 {α:Type}{p:α→Prop}{a b:α}(ha:p a)(hb:p b): ∀y∈[a,b],p y:=by
 intro y hy;simp only[Ak1,List.not_mem_nil,or_false]at hy;rcases hy with e|e<;>rw[e]<;>assumption
theorem Afv (d:Nat){c:Ag}(h:W4 c):(putB d (QJ c)).length≤20000:=by
 have:=LU d [Iv c.Serial,FY c.Issuer,FY c.Subject,Lf c.Key,H9 c.Names,Iv c.From,Iv c.Until,Qp c.Ca,Iv c.Depth,H9 c.Permit] 1000 fun e y hy=>by
  simp only[Ak1,List.not_mem_nil,or_false]at hy;rcases hy with q|q|q|q|q|q|q|q|q|q<;>rw[q]
  ·have:=NB e c.Serial; omega
  ·have:=RT e h.issuer; omega
  ·have:=RT e h.subject; omega
  ·have:=NB e (w64 (c.Key.toNat:Int)); unfold Lf; omega
  ·exact Tu e h.names h.few
  ·have:=NB e c.From; omega
  ·have:=NB e c.Until; omega
  ·have:=Aef e c.Ca; omega
  ·have:=NB e c.Depth; omega
  ·exact Tu e h.permit h.fewP
 simp only[AkB,AkY]at this;unfold QJ;omega
theorem Acq (d:Nat)(p:g_api_Promise):(putB d (IN p)).length≤100:=by
 have:=LU d [Iv p.Log,Iv p.At,Lf p.Leaf.1,Lf p.Leaf.2,Lf p.Sig.E,Lf p.Sig.S] 12 fun e y hy=>by
  simp only[Ak1,List.not_mem_nil,or_false]at hy;rcases hy with q|q|q|q|q|q<;>rw[q]<;>exact NB e _
 simp only[AkB,AkY]at this;unfold IN;omega
theorem Aeg (d:Nat){c:Ag}(h:W4 c):(putB d (JI c)).length≤50000:=by
 have:=LU d [QJ c,Hv c.Proms] 20000 fun e=>mem2 (p:=fun y=>(putB e y).length≤20000) (Afv e h) (by
  have:=LU e (c.Proms.map IN) 100 fun f y hy=>by
   obtain⟨p,hp,e2⟩:=List.mem_map.1 hy;rw[←e2];exact Acq f p
  rw[AkW]at this;have:=h.proms;unfold Hv;omega)
 simp only[AkB,AkY]at this;unfold JI;omega
theorem Aac (d:Nat){c:Ag}(h:W4 c):(putB d (wholeI c)).length≤200000:=by
 have:=LU d [JI c,LV [Lf c.Sig.E,Lf c.Sig.S]] 50000 fun e=>mem2 (p:=fun y=>(putB e y).length≤50000) (Aeg e h) (by
  have:=LU e [Lf c.Sig.E,Lf c.Sig.S] 12 fun f=>mem2 (p:=fun y=>(putB f y).length≤12) (NB f _) (NB f _);simp only[AkB,AkY]at this;omega)
 simp only[AkB,AkY]at this;unfold wholeI;omega
def Kx (c:Ag):Int:=if formB c=true then(if mayB 8 (wholeI c)=true∧(putB 8 (wholeI c)).length≤2048 then 0 else 2)else 1
theorem Akd (b:List UInt8)(m:Bool):(Ab (some (if m=true then(if b.length≤8192 then(b,(0:Int))else([],2))else([],1))) fun x3=>if((x3.2 !=0)||(decide ((x3.1.length:Int)>2048)))=true then some (2:Int)else some 0)=some (if m=true∧b.length≤2048 then 0 else 2):=by
 cases m with
 |false=>rfl
 |true=>
  simp only[if_true,Aa,true_and];by_cases h1:b.length≤8192
  ·rw[AkA h1];by_cases h2:b.length≤2048
   ·rw[AkA h2,Aky];simp only[bne_self_eq_false,Alx,AkH];omega
   ·rw[Aky h2,AkA];simp only[bne_self_eq_false,Alx,AkH];omega
  ·rw[Aky h1];have h2: ¬b.length≤2048:=by omega
   rw[Aky h2];rfl
theorem LL (c:Ag):Eb c=some (Kx c):=by
 unfold Eb Kx;rw[Adv];cases hf:formB c with
 |false=>rfl
 |true=>
  have hs:=(Yh hf).sized;simp only[Aa,Alp,Bool.false_eq_true,if_false,if_true];have hl:=Aac 8 hs;rw[Abk hs,Aa,Ah7 (by omega),Akd]
theorem Abo (x:Int):w64 (x%18446744073709551616)=w64 x:=by unfold w64; omega
theorem nat_or (q b:Nat)(h:b<256):256*q|||b=256*q+b:=(Nat.two_pow_add_eq_or_of_lt (i:=8) h q).symm
theorem UX (s b:Int)(h0:0≤b)(h1:b<256):AaD (NY s 8) b=w64 (s*256+b):=by
 have e1:(NY s 8)=w64 (s*256):=rfl;unfold AaD;rw[BitVec.toNat_or,BitVec.toNat_ofInt,BitVec.toNat_ofInt,e1];obtain⟨q,hq⟩: ∃q:Nat,(w64 (s*256)% ((2^64:Nat):Int)).toNat=256*q:=by
  refine⟨(w64 (s*256)% ((2^64:Nat):Int)).toNat/256,?_⟩;unfold w64;omega
 have hb:(b% ((2^64:Nat):Int)).toNat=b.toNat:=by omega
 rw[hb,hq,nat_or q b.toNat (by omega),←Abo,←Abo (s*256+b)];congr 1;have hq':w64 (s*256)%18446744073709551616=256*q:=by
  have:(0:Int)≤w64 (s*256)% ((2^64:Nat):Int):=Int.emod_nonneg _ (by decide);have e:(((2^64:Nat):Int))=18446744073709551616:=rfl;rw[e]at this hq;omega
 unfold w64 at hq';omega
theorem M8 (n:Int):((toB n).toNat:Int)=n%256:=by
 have h:0≤n%256:=Int.emod_nonneg _ (by decide);have h2:n%256<256:=Int.emod_lt_of_pos _ (by decide);unfold toB;rw[UInt8.toNat_ofNat'];omega
theorem AbK (n:Int):BE n 8=n/256:=by
 unfold BE;rw[Int.fdiv_eq_ediv_of_nonneg _ (by decide)];rfl
theorem Af6 {α:Type}(x:α)(l:List α):idx (x::l) 0=some x:=rfl
theorem fst1 (b:UInt8)(r:List UInt8)(h:b.toNat<128):D8 (b::r)=some ((b.toNat:Int),1,0):=by
 unfold D8;have e0:(((b::r).length:Int)==0)=false:=by simp only[Alb,AkB]; omega
 have e1:w64 (b.toNat:Int)=(b.toNat:Int):=DO (by omega) (by omega);rw[e0,Af6,Aky (by decide),Aa,e1,AkA (by simp only[AkH]; omega)]
theorem AdR (a:UInt8)(l r:List UInt8):cut (a::l++r) 1 ((l.length:Int)+1)=some l:=by
 unfold cut;rw[AkA ⟨by decide,by omega,by simp only[Akz,AkB]; omega⟩];have e:((l.length:Int)+1).toNat-(1:Int).toNat=l.length:=by show((l.length:Int)+1).toNat-1=_; omega
 rw[e];show some (List.take l.length (l++r))=_;rw[List.take_left]
theorem fst2 (b:UInt8)(r:List UInt8)(h:128≤b.toNat):D8 (129::b::r)=some ((b.toNat:Int),2,0):=by
 unfold D8;have e0:(((129::b::r).length:Int)==0)=false:=by simp only[Alb,AkB]; omega
 have e1:w64 (((129:UInt8).toNat:Int))=129:=DO (x:=129) (by decide) (by decide);have e2:w64 ((129:Int)-128)=1:=rfl;have e3:w64 ((1:Int)+1)=2:=rfl;have e4:decide (((129::b::r).length:Int)≤1)=false:=by simp only[decide_eq_false_iff_not,AkB]; omega
 have e5:cut (129::b::r) 1 2=some [b]:=AdR 129 [b] r;have hb:=b.toNat_lt;have e6:AaD (NY 0 8) (w64 (b.toNat:Int))=(b.toNat:Int):=by
  rw[DO (x:=(b.toNat:Int)) (by omega) (by omega),UX 0 _ (by omega) (by omega),Int.zero_mul,Int.zero_add,DO (by omega) (by omega)]
 have e7:Et Kk [b] 0 0=some (b.toNat:Int):=by
  show some (AaD (NY 0 8) (w64 (b.toNat:Int)))=_;rw[e6]
 have e8:decide ((b.toNat:Int)<128)=false:=by simp only[decide_eq_false_iff_not]; omega
 rw[e0,Af6,Aky (by decide),Aa,e1,Aky (by decide),G4,e2,G4,Aky (by decide),G4,e4,Aky (by decide),e3,e5,Aa,e7,Aa,Aa,e8,Aky (by simp)]
theorem fst3 (b1 b2:UInt8)(r:List UInt8)(h:1≤b1.toNat):D8 (130::b1::b2::r)=some ((b1.toNat:Int)*256+(b2.toNat:Int),3,0):=by
 unfold D8;have e0:(((130::b1::b2::r).length:Int)==0)=false:=by simp only[Alb,AkB]; omega
 have e1:w64 (((130:UInt8).toNat:Int))=130:=DO (x:=130) (by decide) (by decide);have e2:w64 ((130:Int)-128)=2:=rfl;have e3:w64 ((2:Int)+1)=3:=rfl;have e4:decide (((130::b1::b2::r).length:Int)≤2)=false:=by simp only[decide_eq_false_iff_not,AkB]; omega
 have e5:cut (130::b1::b2::r) 1 3=some [b1,b2]:=AdR 130 [b1,b2] r;have hb1:=b1.toNat_lt;have hb2:=b2.toNat_lt;have e6:AaD (NY 0 8) (w64 (b1.toNat:Int))=(b1.toNat:Int):=by
  rw[DO (x:=(b1.toNat:Int)) (by omega) (by omega),UX 0 _ (by omega) (by omega),Int.zero_mul,Int.zero_add,DO (by omega) (by omega)]
 have e6':AaD (NY (b1.toNat:Int) 8) (w64 (b2.toNat:Int))=(b1.toNat:Int)*256+(b2.toNat:Int):=by
  rw[DO (x:=(b2.toNat:Int)) (by omega) (by omega),UX _ _ (by omega) (by omega),DO (by omega) (by omega)]
 have e7:Et Kk [b1,b2] 0 0=some ((b1.toNat:Int)*256+(b2.toNat:Int)):=by
  show some (AaD (NY (AaD (NY 0 8) (w64 (b1.toNat:Int))) 8) (w64 (b2.toNat:Int)))=_;rw[e6,e6']
 have e8:decide ((b1.toNat:Int)*256+(b2.toNat:Int)<128)=false:=by simp only[decide_eq_false_iff_not]; omega
 have e9:decide ((b1.toNat:Int)*256+(b2.toNat:Int)<256)=false:=by simp only[decide_eq_false_iff_not]; omega
 rw[e0,Af6,Aky (by decide),Aa,e1,Aky (by decide),G4,e2,G4,Aky (by decide),G4,e4,Aky (by decide),e3,e5,Aa,e7,Aa,Aa,e8,e9,Aky (by decide)]
theorem Ac2 {n:Nat}(hn:n<65536)(r:List UInt8):D8 (I0 n++r)=some ((n:Int),((I0 n).length:Int),0):=by
 have n2:=M8 (n:Int);have n1:=M8 (BE (n:Int) 8);rw[AbK]at n1;unfold I0;rw[AbK];generalize toB (n:Int)=b2 at n2;generalize toB ((n:Int)/256)=b1 at n1;by_cases h1:n<128
 ·rw[AkA h1];have e:(b2.toNat:Int)=n:=by omega
  have:=fst1 b2 r (by omega);rw[e]at this;exact this
 ·rw[Aky h1];by_cases h2:n<256
  ·rw[AkA h2];have e:(b2.toNat:Int)=n:=by omega
   have:=fst2 b2 r (by omega);rw[e]at this;exact this
  ·rw[Aky h2];have e:(b1.toNat:Int)*256+(b2.toNat:Int)=n:=by omega
   have:=fst3 b1 b2 r (by omega);rw[e]at this;exact this
theorem AdT {α:Type}(a b:List α):cut (a++b) (a.length:Int) (((a++b).length:Nat):Int)=some b:=by
 unfold cut;rw[AkA ⟨by omega,by rw[Akz]; omega,by omega⟩];simp only[Alg,List.drop_left];rw[Ak5];rw[Akz]; omega
theorem AdS {α:Type}(a b:List α):cut (a++b) 0 (a.length:Int)=some a:=by
 unfold cut;rw[AkA ⟨by omega,by omega,by rw[Akz]; omega⟩];simp
theorem AiS {d:Nat}{x:g_api_Item}(h:mayB d x=true):1≤(putB d x).length:=by
 cases d with
 |zero=>cases h
 |succ d=>show 1≤(_::_:List UInt8).length; rw[AkB]; omega
theorem AeU {t:Int}(h:Og t=true):w64 ((toB t).toNat:Int)=t:=by
 rw[M8];rcases Si h with e|e|e|e|e<;>subst e<;>rfl
theorem AcW (rF:List UInt8→Int→Option (g_api_Item×List UInt8×Int))(p:g_api_Item→List UInt8)(D:Int)(r0:List UInt8): ∀(l acc:List g_api_Item) (m:Nat),l.length<m→acc.length+l.length≤100000→
  (∀y∈l,1≤(p y).length∧∀r,rF (p y++r) (w64 (D-1))=some (y,r,0))→iter (ET rF D) m (r0,l.flatMap p,acc)=some (.inl (r0,acc++l))
 |l,acc,0,h,_,_=>by omega
 | [],acc,m+1,_,_,_=>by
  have e:ET rF D (r0,[],acc)=some (.inr (.inl (r0,acc))):=rfl;show Ab (ET rF D (r0,[],acc)) _=_;rw[e];simp
 |y::l,acc,m+1,h,ha,hy=>by
  rw[AkB]at h ha;obtain⟨h1,h2⟩:=hy y AkN;have e:ET rF D (r0,(y::l).flatMap p,acc)=some (.inl (r0,l.flatMap p,acc++[y])):=by
   unfold ET;have e0:decide ((((y::l).flatMap p).length:Int)>0)=true:=by rw[AkH,Ak4,Akz]; omega
   show(if decide ((((y::l).flatMap p).length:Int)>0)=true then _ else _)=_;rw[AkA e0];simp only[Ak4,h2,Aa,bne_self_eq_false,Bool.false_eq_true,if_false];rw[PN 56 (by show(acc.length+1)*56≤_; omega) (by show acc.length+1≤_; omega)];rfl
  show Ab (ET rF D (r0,(y::l).flatMap p,acc)) _=_;rw[e];show iter (ET rF D) m (r0,l.flatMap p,acc++[y])=_;rw[AcW rF p D r0 l (acc++[y]) m (by omega) (by rw[Akz]; show acc.length+1+_≤_; omega) fun z hz=>hy z (AkT _ hz),Akw];rfl
theorem ZI (p:g_api_Item→List UInt8): ∀(l:List g_api_Item),(∀y∈l,1≤(p y).length)→l.length≤(l.flatMap p).length
 | [],_=>by simp
 |y::l,h=>by
  have h1:=h y AkN;have h2:=ZI p l fun z hz=>h z (AkT _ hz);rw[Ak4,Akz,AkB];omega
theorem Vi (p:g_api_Item→List UInt8){y:g_api_Item}: ∀{l:List g_api_Item},y∈l→(p y).length≤(l.flatMap p).length
 |z::l,h=>by
  rw[Ak4,Akz];rcases Ak1.1 h with e|h
  ·rw[e]; omega
  ·have:=Vi p h; omega
theorem AjL (d:Nat): ∀(D n:Nat) (x:g_api_Item) (r:List UInt8),mayB d x=true→d≤D→d≤n→D≤100→(putB d x).length≤8192→J5 n (putB d x++r) (D:Int)=some (x,r,0):=by
 induction d with
 |zero=>intro D n x r h; cases h
 |succ d IH=>
  intro D n x r hm hD hn hDD hl;obtain⟨n,rfl⟩: ∃k,n=k+1:=⟨n-1,by omega⟩;have eP:putB (d+1) x=toB x.Tag::(I0 (x.B++x.L.flatMap (putB d)).length++(x.B++x.L.flatMap (putB d))):=rfl;have ih: ∀y∈x.L,mayB d y=true∧∀r,(putB d y).length≤8192→J5 n (putB d y++r) (w64 ((D:Int)-1))=some (y,r,0):=fun y hy=>by
   simp only[mayB,Aks,AkI]at hm;refine⟨hm.2 y hy,fun r h1=> ?_⟩;have:=IH (D-1) n y r (hm.2 y hy) (by omega) (by omega) (by omega) h1;rw[show w64 ((D:Int)-1)=((D-1:Nat):Int)from by rw[DO (by omega) (by omega)]; omega];exact this
  have hm0:=hm;simp only[mayB,Aks,AkI]at hm0;have hk:=X9 hm0.1.1;rw[eP]at hl⊢;generalize hc:x.B++x.L.flatMap (putB d)=c at hl⊢;have hlen:=U8 c.length;simp only[AkB,Akz]at hl;obtain⟨k,f1,f2,f3⟩:=Qh hk;show Mf (J5 n) (toB x.Tag::(I0 c.length++c)++r) (D:Int)=_;unfold Mf;have e0:(((toB x.Tag::(I0 c.length++c)++r).length:Int)==0)=false:=by simp only[Alb,Akz,AkB]; omega
  have e1:idx (toB x.Tag::(I0 c.length++c)++r) 0=some (toB x.Tag):=rfl;rw[e0,e1,Aky (by decide),Aa,AeU hk,f1,Aa];have e2:decide ((D:Int)<1)=false:=by rw[decide_eq_false_iff_not]; omega
  have e3:cut (toB x.Tag::(I0 c.length++c)++r) 1 ((toB x.Tag::(I0 c.length++c)++r).length:Int)=some (I0 c.length++(c++r)):=by
   rw[AlA,Sw,Akw]
  rw[e2,Aky (by simp),e3,Aa,Ac2 (by omega),Aa,Aky (by simp)];have e4:w64 (w64 (1+((I0 c.length).length:Int))+(c.length:Int))=1+((I0 c.length).length:Int)+(c.length:Int):=by
   rw[DO (x:=1+((I0 c.length).length:Int)) (by omega) (by omega),DO (by omega) (by omega)]
  have e5:decide (1+((I0 c.length).length:Int)+(c.length:Int)>8192)=false:=by rw[decide_eq_false_iff_not]; omega
  have e6:cut (toB x.Tag::(I0 c.length++c)++r) (w64 (1+((I0 c.length).length:Int))) ((toB x.Tag::(I0 c.length++c)++r).length:Int)=some (c++r):=by
   have:=AdT (toB x.Tag::I0 c.length) (c++r);rw[DO (x:=1+((I0 c.length).length:Int)) (by omega) (by omega)];rw[show((toB x.Tag::I0 c.length).length:Int)=1+((I0 c.length).length:Int)from by rw[AkB]; omega]at this;rw[show toB x.Tag::(I0 c.length++c)++r=toB x.Tag::I0 c.length++(c++r)from by simp];exact this
  have e7:decide ((c.length:Int)>((c++r).length:Int))=false:=by rw[decide_eq_false_iff_not,Akz]; omega
  rw[e4,e5,Aky (by decide),e6,Aa,e7,Aky (by decide),AdS,Aa,AdT,Aa,f2];cases ht:x.Tag==48 with
  |false=>
   have hL:x.L=[]:=by
    have:=hm0.1.2;rw[ht]at this;simpa using this
   have hcB:c=x.B:=by rw[←hc,hL]; simp
   have e8:(x.Tag !=48)=true:=by simp only[bne,ht,Alr]
   rw[AkA e8,hcB,f3,Aa,hm0.1.1,Aky (by decide),Vn (by rw[←hcB]; omega),Aa];cases x;simp only at hL;rw[hL]
  |true=>
   have e8:(x.Tag !=48)=false:=by simp only[bne,ht,Alp]
   have ht2:x.Tag=48:=by simpa using ht
   have hB:x.B=[]:=by
    have:=hm0.1.1;rw[ht2]at this;exact List.isEmpty_iff.1 this
   have hcL:c=x.L.flatMap (putB d):=by rw[←hc,hB]; rfl
   rw[e8,Aky (by decide)];have hp: ∀y∈x.L,1≤(putB d y).length:=fun y hy=>AiS (ih y hy).1;have hn1:=ZI (putB d) x.L hp;have:=AcW (J5 n) (putB d) (D:Int) r x.L [] EV (by have:=FN; rw[hcL]at hl; omega) (by rw[hcL]at hl; simp only[AkY]; omega) fun y hy=>⟨hp y hy,fun r'=>by
    exact(ih y hy).2 r' (by have:=Vi (putB d) hy; rw[hcL]at hl; omega)⟩
   rw[hcL,this];cases x;simp only at hB;rw[hB];rfl
def s8 (a:UInt8):Int:=if a.toNat<128 then(a.toNat:Int)else(a.toNat:Int)-256
def XC (s:Int)(l:List UInt8):Int:=l.foldl (fun s b=>s*256+(b.toNat:Int)) s
def AeK (s:Int)(l:List UInt8):Int:=l.foldl (fun s b=>w64 (s*256+(b.toNat:Int))) s
def sval:List UInt8→Int
 | []=>0
 |a::l=>XC (s8 a) l
def PM:List UInt8→Int
 | []=>0
 |a::l=>AeK (s8 a) l
theorem AeO (x b:Int):w64 (w64 x*256+b)=w64 (x*256+b):=by unfold w64; omega
theorem YC: ∀(l:List UInt8) (s x:Int),s=w64 x→AeK s l=w64 (XC x l)
 | [],s,x,h=>h
 |b::l,s,x,h=>by
  show AeK (w64 (s*256+(b.toNat:Int))) l=w64 (XC (x*256+(b.toNat:Int)) l);exact YC l _ _ (by rw[h,AeO])
theorem Ahe (a:UInt8): -128≤s8 a∧s8 a<128:=by
 have:=a.toNat_lt;unfold s8;split<;>omega
theorem Aa0 (l:List UInt8)(h:l≠[]):PM l=w64 (sval l):=by
 cases l with
 |nil=>exact absurd rfl h
 |cons a l=>
  have:=Ahe a;exact YC l (s8 a) (s8 a) (DO (by omega) (by omega)).symm
theorem w8_s8 (a:UInt8):w64 (w8 (a.toNat:Int))=s8 a:=by
 have h:=a.toNat_lt;have e:w8 (a.toNat:Int)=s8 a:=by
  show(if(true&&decide ((a.toNat:Int)%256≥128))=true then(a.toNat:Int)%256-256 else(a.toNat:Int)%256)=s8 a;unfold s8;simp only[Ala,AkH];split
  ·rw[Aky (by omega)]; omega
  ·rw[AkA (by omega)]; omega
 have:=Ahe a;rw[e,DO (by omega) (by omega)]
theorem Z4: ∀(l:List UInt8) (i s:Int),Et Fq l i s=some (AeK s l)
 | [],i,s=>rfl
 |b::l,i,s=>by
  have h:=b.toNat_lt;have e:Fq i b s=some (w64 (s*256+(b.toNat:Int))):=by
   unfold Fq;rw[G4,DO (x:=(b.toNat:Int)) (by omega) (by omega),UX s _ (by omega) (by omega)]
  show Ab (Fq i b s) _=_;rw[e,Aa];exact Z4 l (i+1) _
theorem Aej {x:g_api_Item}(h:x.B≠[]):JD x=some (PM x.B):=by
 unfold JD;cases hb:x.B with
 |nil=>exact absurd hb h
 |cons a l=>
  rw[Af6,Aa,Sw,Aa,w8_s8,Z4,Aa,Aa];rfl
theorem AbJ (b:UInt8):((toB (-((Ae3 b 7).toNat:Int))).toNat:Int)=if b.toNat<128 then 0 else 255:=by
 have h:=b.toNat_lt;rw[M8];have e:(Ae3 b 7).toNat=b.toNat/128:=by
  unfold Ae3;rw[UInt8.toNat_ofNat'];show b.toNat/128%256=_;omega
 rw[e];split<;>omega
theorem Ac4 {a b:UInt8}{l:List UInt8}(hl:l.length≤6):Py (a::b::l)=false↔(a.toNat:Int)=if b.toNat<128 then 0 else 255:=by
 show(decide (((a::b::l).length:Int)≤8)&&((a.toNat:Int) !=((toB (-((Ae3 b 7).toNat:Int))).toNat:Int)))=false↔_;rw[AbJ,Alq (by simp only[AkB]; omega),Ala];simp only[bne_eq_false_iff_eq]
theorem AbC {a b:UInt8}{l:List UInt8}(h:(a.toNat:Int)=if b.toNat<128 then 0 else 255):sval (a::b::l)=sval (b::l):=by
 show XC (s8 a*256+(b.toNat:Int)) l=XC (s8 b) l;have hb:=b.toNat_lt;congr 1;unfold s8;by_cases h1:b.toNat<128
 ·rw[AkA h1]at h⊢;rw[AkA (by omega)];omega
 ·rw[Aky h1]at h⊢;rw[Aky (by omega)];omega
theorem V0: ∀(l:List UInt8),l.length≤8→sval (V1 l)=sval l
 | [],_=>rfl
 | [a],_=>rfl
 |a::b::l,h=>by
  simp only[AkB]at h;unfold V1;cases hl:Py (a::b::l)with
  |true=>rfl
  |false=>
   rw[Aky (by decide),V0 (b::l) (by simp only[AkB]; omega),AbC ((Ac4 (by omega)).1 hl)]
theorem XE: ∀(l:List UInt8),l≠[]→V1 l≠[]
 | [],h=>h
 | [a],h=>h
 |a::b::l,h=>by
  unfold V1;split
  ·exact h
  ·exact XE (b::l) (by simp)
theorem Ts: ∀(l:List UInt8),l≠[]→Py (V1 l)=true
 | [],h=>absurd rfl h
 | [a],_=>rfl
 |a::b::l,_=>by
  unfold V1;cases hl:Py (a::b::l)with
  |true=>rw[AkA rfl]; exact hl
  |false=>rw[Aky (by decide)]; exact Ts (b::l) (by simp)
theorem V9 (n:Int)(k:Nat)(hk:k≤64)(hp:(0:Int)≤2^k):((toB (BE n k)).toNat:Int)=n/2^k%256:=by
 rw[M8];unfold BE;rw[Nat.min_eq_left hk,Int.fdiv_eq_ediv_of_nonneg _ hp]
theorem s8_of {a:UInt8}{q:Int}(h:(a.toNat:Int)=q%256)(h0: -128≤q)(h1:q<128):s8 a=q:=by
 unfold s8;split<;>omega
theorem AgS {n:Int}(h0: -9223372036854775808≤n)(h1:n≤9223372036854775807):sval (be8 n)=n:=by
 have e7:((toB (BE n 56)).toNat:Int)=n/72057594037927936%256:=V9 n 56 (by decide) (by decide);have e6:((toB (BE n 48)).toNat:Int)=n/281474976710656%256:=V9 n 48 (by decide) (by decide);have e5:((toB (BE n 40)).toNat:Int)=n/1099511627776%256:=V9 n 40 (by decide) (by decide);have e4:((toB (BE n 32)).toNat:Int)=n/4294967296%256:=V9 n 32 (by decide) (by decide);have e3:((toB (BE n 24)).toNat:Int)=n/16777216%256:=V9 n 24 (by decide) (by decide);have e2:((toB (BE n 16)).toNat:Int)=n/65536%256:=V9 n 16 (by decide) (by decide);have e1:((toB (BE n 8)).toNat:Int)=n/256%256:=V9 n 8 (by decide) (by decide);have e0:((toB (BE n 0)).toNat:Int)=n%256:=by
  have:=V9 n 0 (by decide) (by decide);rw[Int.pow_zero,Int.ediv_one]at this;exact this
 have s7:=s8_of e7 (by omega) (by omega);show XC (s8 (toB (BE n 56))) [toB (BE n 48),toB (BE n 40),toB (BE n 32),toB (BE n 24),toB (BE n 16),toB (BE n 8),toB (BE n 0)]=n;unfold XC;simp only[List.foldl_cons,List.foldl_nil];rw[s7,e6,e5,e4,e3,e2,e1,e0];omega
theorem Aei {n:Int}(h0: -9223372036854775808≤n)(h1:n≤9223372036854775807):PM (Iv n).B=n:=by
 have h8:(be8 n).length=8:=rfl;have hne:be8 n≠[]:=by intro h; rw[h]at h8; cases h8
 show PM (V1 (be8 n))=n;rw[Aa0 _ (XE _ hne),V0 _ (by omega),AgS h0 h1,DO h0 h1]
theorem Adj (n:Int)(d:Nat):mayB (d+1) (Iv n)=true:=by
 have h8:(be8 n).length=8:=rfl;have hne:be8 n≠[]:=by intro h; rw[h]at h8; cases h8
 unfold mayB;have e:Wz (Iv n).Tag (Iv n).B=true:=Ts _ hne;rw[e];rfl
theorem Yq {l:List g_api_Item}(h:l.length≤100000):AO l=some l:=by
 unfold AO;rw[Vu 56 (by omega) (by omega)]; rfl
theorem Zs {d:Nat}{x:g_api_Item}(h:mayB d x=true):Wz x.Tag x.B=true:=by
 cases d with
 |zero=>cases h
 |succ d=>
  simp only[mayB,Aks]at h;exact h.1.1
theorem AgV (x:g_api_Item):Mh x=some (if x.Tag=2 then(if mayB 8 x=true then(PM x.B,0)else(0,71))else(0,72)):=by
 unfold Mh Iq;by_cases ht:x.Tag=2
 ·have e:(x.Tag !=2)=false:=by simp[ht]
  rw[AkA ht,e,Aky (by decide),R8,Aa];cases hm:mayB 8 x with
  |false=>rfl
  |true=>
   have hk:=Zs hm;rw[ht]at hk;have hB:x.B≠[]:=by
    intro hb;rw[hb]at hk;cases hk
   rw[Aky (by decide),Aej hB];rfl
 ·have e:(x.Tag !=2)=true:=by simp[ht]
  rw[Aky ht,e,AkA rfl];rfl
theorem Aek (x:g_api_Item):KX x=some (if x.Tag=12 then(if mayB 8 x=true then(bs x.B,0)else((⟨#[]⟩:ByteArray),71))else((⟨#[]⟩:ByteArray),72)):=by
 unfold KX Gy;by_cases ht:x.Tag=12
 ·have e:(x.Tag !=12)=false:=by simp[ht]
  rw[AkA ht,e,Aky (by decide),R8,Aa];cases hm:mayB 8 x with
  |false=>rfl
  |true=>rfl
 ·have e:(x.Tag !=12)=true:=by simp[ht]
  rw[Aky ht,e,AkA rfl];rfl
def YG:List UInt8→Bool
 | []=>false
 |a::_=>(a.toNat:Int) !=0
theorem Ael (x:g_api_Item):KY x=some (if x.Tag=1 then(if mayB 8 x=true then(YG x.B,0)else(false,71))else(false,72)):=by
 unfold KY HR;by_cases ht:x.Tag=1
 ·have e:(x.Tag !=1)=false:=by simp[ht]
  rw[AkA ht,e,Aky (by decide),R8,Aa];cases hm:mayB 8 x with
  |false=>rfl
  |true=>
   have hk:=Zs hm;rw[ht]at hk;unfold K9;cases hb:x.B with
   |nil=>rw[hb]at hk; cases hk
   |cons a l=>
    rw[Aky (by decide),Af6];rfl
 ·have e:(x.Tag !=1)=true:=by simp[ht]
  rw[Aky ht,e,AkA rfl];rfl
theorem Z5 {x:g_api_Item}(hx:x.L.length≤100000):Ko x=some (if x.Tag=48 then(if mayB 8 x=true then(x.L,0)else([],71))else([],72)):=by
 unfold Ko FF;by_cases ht:x.Tag=48
 ·have e:(x.Tag !=48)=false:=by simp[ht]
  rw[AkA ht,e,Aky (by decide),R8,Aa];cases hm:mayB 8 x with
  |false=>rfl
  |true=>
   unfold Mg;rw[Aky (by decide),Yq hx];rfl
 ·have e:(x.Tag !=48)=true:=by simp[ht]
  rw[Aky ht,e,AkA rfl];rfl
abbrev Its:=List g_api_Item
def rd {α:Type}(p:Option (α×Its)):Option (Option (α×Ap)):=some (p.map fun q=>(q.1,⟨q.2⟩))
def Nl {α:Type}(tag:Int)(v:g_api_Item→α):Its→Option (α×Its)
 | []=>none
 |x::r=>if x.Tag=tag∧mayB 8 x=true then some (v x,r)else none
theorem EC {α:Type}(tag:Int)(v:g_api_Item→α)(x:g_api_Item)(r:Its):Nl tag v (x::r)=if x.Tag=tag∧mayB 8 x=true then some (v x,r)else none:=rfl
theorem Qe (x:g_api_Item)(r:Its):decide (((x::r).length:Int)>0)=true:=by rw[AkH,AkB]; omega
theorem Wp:Bi true=some (some ()):=rfl
theorem Ahr:Bi false=some none:=rfl
theorem Aju (l:Its):Dy ⟨l⟩=rd (Nl 2 (fun x=>PM x.B) l):=by
 unfold Dy;cases l with
 |nil=>rfl
 |cons x r=>
  show Ab (Bi (decide (((x::r).length:Int)>0))) _=_;rw[Qe,Wp,Aa];show Ab (idx (x::r) 0) _=_;rw[Af6,Aa,AgV,Aa];rw[EC];by_cases ht:x.Tag=2
  ·rw[AkA ht];cases hm:mayB 8 x with
   |false=>
    rw[Aky (by decide),Aky (by simp)];rfl
   |true=>
    rw[AkA rfl,AkA ⟨ht,rfl⟩];show Ab (cut (x::r) 1 ((x::r).length:Int)) _=_;rw[Sw];rfl
  ·rw[Aky ht,Aky (by simp[ht])];rfl
theorem XK (l:Its):AY ⟨l⟩=rd (Nl 12 (fun x=>bs x.B) l):=by
 unfold AY;cases l with
 |nil=>rfl
 |cons x r=>
  show Ab (Bi (decide (((x::r).length:Int)>0))) _=_;rw[Qe,Wp,Aa];show Ab (idx (x::r) 0) _=_;rw[Af6,Aa,Aek,Aa];rw[EC];by_cases ht:x.Tag=12
  ·rw[AkA ht];cases hm:mayB 8 x with
   |false=>
    rw[Aky (by decide),Aky (by simp)];rfl
   |true=>
    rw[AkA rfl,AkA ⟨ht,rfl⟩];show Ab (cut (x::r) 1 ((x::r).length:Int)) _=_;rw[Sw];rfl
  ·rw[Aky ht,Aky (by simp[ht])];rfl
theorem AgN (l:Its):CD ⟨l⟩=rd (Nl 1 (fun x=>YG x.B) l):=by
 unfold CD;cases l with
 |nil=>rfl
 |cons x r=>
  show Ab (Bi (decide (((x::r).length:Int)>0))) _=_;rw[Qe,Wp,Aa];show Ab (idx (x::r) 0) _=_;rw[Af6,Aa,Ael,Aa];rw[EC];by_cases ht:x.Tag=1
  ·rw[AkA ht];cases hm:mayB 8 x with
   |false=>
    rw[Aky (by decide),Aky (by simp)];rfl
   |true=>
    rw[AkA rfl,AkA ⟨ht,rfl⟩];show Ab (cut (x::r) 1 ((x::r).length:Int)) _=_;rw[Sw];rfl
  ·rw[Aky ht,Aky (by simp[ht])];rfl
theorem Aiv {l:Its}(hl: ∀x∈l,x.L.length≤100000):Cw ⟨l⟩=rd (Nl 48 (fun x=>x.L) l):=by
 unfold Cw;cases l with
 |nil=>rfl
 |cons x r=>
  show Ab (Bi (decide (((x::r).length:Int)>0))) _=_;rw[Qe,Wp,Aa];show Ab (idx (x::r) 0) _=_;rw[Af6,Aa,Z5 (hl x AkN),Aa];rw[EC];by_cases ht:x.Tag=48
  ·rw[AkA ht];cases hm:mayB 8 x with
   |false=>
    rw[Aky (by decide),Aky (by simp)];rfl
   |true=>
    rw[AkA rfl,AkA ⟨ht,rfl⟩];show Ab (cut (x::r) 1 ((x::r).length:Int)) _=_;rw[Sw];rfl
  ·rw[Aky ht,Aky (by simp[ht])];rfl
def GN (l:Its):Option (Int×Its):=(Nl 2 (fun x=>PM x.B) l).bind fun p=>if 0≤p.1 then some p else none
theorem Mo (l:Its):AT ⟨l⟩=rd (GN l):=by
 unfold AT;rw[Aju];unfold GN rd;cases Nl 2 (fun x=>PM x.B) l with
 |none=>rfl
 |some p=>
  obtain⟨n,r⟩:=p;simp only[AkL,Aa,Option.bind_some];by_cases h:0≤n
  ·rw[Alq h,Wp,AkA h];rfl
  ·rw[decide_eq_false h,Ahr,Aky h];rfl
def Xf (l:Its):Option (UInt64×Its):=(GN l).map fun p=>(toU p.1,p.2)
theorem SD (l:Its):Bd ⟨l⟩=rd (Xf l):=by
 unfold Bd;rw[Mo];unfold Xf rd;cases GN l<;>rfl
def Ag4 (l:Its):Option (Its×Its):=Nl 48 (fun x=>x.L) l
theorem YO {l:Its}(hl: ∀x∈l,x.L.length≤100000):Bc ⟨l⟩=some ((Ag4 l).map fun p=>(⟨p.1⟩,⟨p.2⟩)):=by
 unfold Bc;rw[Aiv hl];unfold Ag4 rd;cases Nl 48 (fun x=>x.L) l<;>rfl
theorem AdE (l:Its):Cj ⟨l⟩=some (if l=[]then some ⟨[]⟩else none):=by
 unfold Cj;cases l with
 |nil=>rfl
 |cons x r=>
  have e:(((x::r).length:Int)==0)=false:=by simp only[Alb,AkB]; omega
  show Ab (Bi (((x::r).length:Int)==0)) _=_;rw[e,Ahr,Aky (by simp)];rfl
def Aem:Its→Option (List ByteArray)
 | []=>some []
 |x::r=>if x.Tag=12∧mayB 8 x=true then(Aem r).map fun t=>bs x.B::t else none
theorem Tt: ∀(l:Its) (a:List ByteArray) (n:Nat),l.length<n→a.length+l.length≤1000000→
  iter A6 n (a,l)=some (match Aem l with|some t=> .inl (a++t,[])|none=> .inr none)
 |l,a,0,h,_=>by omega
 | [],a,n+1,_,_=>by
  have e:A6 (a,[])=some (.inr (.inl (a,[]))):=rfl;show Ab (A6 (a,[])) _=_;rw[e];simp[Aem]
 |x::l,a,n+1,h,ha=>by
  rw[AkB]at h ha;have e:A6 (a,x::l)=some (if x.Tag=12∧mayB 8 x=true then .inl (a++[bs x.B],l)else .inr (.inr none)):=by
   unfold A6;show(if decide (((x::l).length:Int)>0)=true then _ else _)=_;rw[Qe,AkA rfl];show Ab (AY ⟨x::l⟩) _=_;rw[XK];unfold rd;rw[EC];by_cases hx:x.Tag=12∧mayB 8 x=true
   ·rw[AkA hx,AkA hx];show Ab (app 16 a [bs x.B]) _=_;rw[PN 16 (by show(a.length+1)*16≤_; omega) (by show a.length+1≤_; omega)];rfl
   ·rw[Aky hx,Aky hx];rfl
  show Ab (A6 (a,x::l)) _=_;rw[e];unfold Aem;by_cases hx:x.Tag=12∧mayB 8 x=true
  ·rw[AkA hx,AkA hx];show iter A6 n (a++[bs x.B],l)=_;rw[Tt l (a++[bs x.B]) n (by omega) (by rw[Akz]; show a.length+1+_≤_; omega)];cases Aem l with
   |none=>rfl
   |some t=>simp
  ·rw[Aky hx,Aky hx];rfl
def N9 (l:Its):Option (List ByteArray×Its):=(Ag4 l).bind fun p=>(Aem p.1).map fun t=>(t,p.2)
theorem V5 {l:Its}(hl: ∀x∈l,x.L.length≤100000):De ⟨l⟩=rd (N9 l):=by
 unfold De;rw[YO hl];unfold N9 rd;cases hs:Ag4 l with
 |none=>rfl
 |some p=>
  have hp:p.1.length≤100000:=by
   unfold Ag4 Nl at hs;cases l with
   |nil=>cases hs
   |cons x r=>
    simp only at hs;split at hs
    ·have hs:=Akr hs;rw[←hs];exact hl x AkN
    ·cases hs
  show Ab (iter A6 EV ([],p.1)) _=_;rw[Tt p.1 [] EV (by have:=FN; omega) (by simp only[AkY]; omega)];show _=some (Option.map _ ((Aem p.1).map fun t=>(t,p.2)));cases Aem p.1<;>rfl
theorem Ahu: ∀{d:Nat} {x:g_api_Item},mayB d x=true→mayB (d+1) x=true
 |0,x,h=>by cases h
 |d+1,x,h=>by
  simp only[mayB,Aks,AkI]at h;unfold mayB;simp only[Aks,AkI];exact⟨h.1,fun y hy=>Ahu (h.2 y hy)⟩
theorem QL {d e:Nat}{x:g_api_Item}(h:d≤e)(hm:mayB d x=true):mayB e x=true:=by
 induction h with
 |refl=>exact hm
 |step _ ih=>exact Ahu ih
theorem Zt {d:Nat}{x y:g_api_Item}(h:mayB (d+1) x=true)(hy:y∈x.L):mayB d y=true:=by
 simp only[mayB,Aks,AkI]at h;exact h.2 y hy
theorem Ahw {d:Nat}{x y:g_api_Item}(h:mayB d x=true)(hd:d≤8)(hy:y∈x.L):mayB 8 y=true:=by
 cases d with
 |zero=>cases h
 |succ d=>exact QL (by omega) (Zt h hy)
theorem Kw {n:Int}(h0:0≤n)(h1:n≤9223372036854775807)(r:Its):GN (Iv n::r)=some (n,r):=by
 unfold GN;rw[EC,AkA ⟨rfl,Adj n 7⟩,Option.bind_some,Aei (by omega) h1,AkA h0]
theorem AeR (x:UInt64):toU (x.toNat:Int)=x:=by
 apply UInt64.toNat_inj.1;have:=XF (x.toNat:Int);have h:=x.toNat_lt;omega
theorem SC {x:UInt64}(h:x.toNat≤9223372036854775807)(r:Its):Xf (Lf x::r)=some (x,r):=by
 unfold Xf Lf;rw[DO (by omega) (by omega),Kw (by omega) (by omega),AkL,AeR]
theorem Aec (s:ByteArray):bs s.data.toList=s:=by
 obtain⟨⟨l⟩⟩:=s;rfl
def XH:Its→Option (ByteArray×Its):=Nl 12 (fun x=>bs x.B)
def AgO:Its→Option (Bool×Its):=Nl 1 (fun x=>YG x.B)
theorem V6 {s:ByteArray}(h:mayB 8 (FY s)=true)(r:Its):XH (FY s::r)=some (s,r):=by
 show Nl 12 (fun x=>bs x.B) (FY s::r)=_;rw[EC,AkA ⟨rfl,h⟩];show some (bs s.data.toList,r)=_;rw[Aec]
theorem Aee (v:Bool)(r:Its):AgO (Qp v::r)=some (v,r):=by
 show Nl 1 (fun x=>YG x.B) (Qp v::r)=_;have h:mayB 8 (Qp v)=true:=by cases v<;>rfl
 rw[EC,AkA ⟨rfl,h⟩];cases v<;>rfl
theorem XJ {l:Its}(h:mayB 8 (LV l)=true)(r:Its):Ag4 (LV l::r)=some (l,r):=by
 show Nl 48 (fun x=>x.L) (LV l::r)=_;rw[EC,AkA ⟨rfl,h⟩];rfl
theorem Z7: ∀(l:List ByteArray),(∀s∈l,mayB 8 (FY s)=true)→Aem (l.map FY)=some l
 | [],_=>rfl
 |s::l,h=>by
  show(if(FY s).Tag=12∧mayB 8 (FY s)=true then(Aem (l.map FY)).map fun t=>bs (FY s).B::t else none)=_;rw[AkA ⟨rfl,h s AkN⟩,Z7 l fun x hx=>h x (AkT _ hx)];show some (bs s.data.toList::l)=_;rw[Aec]
theorem RS {l:List ByteArray}(h:mayB 8 (H9 l)=true)(r:Its):N9 (H9 l::r)=some (l,r):=by
 unfold N9;rw[show H9 l=LV (l.map FY)from rfl]at h⊢;rw[XJ h,Option.bind_some,Z7 l fun s hs=>Ahw h (by decide) (List.mem_map_of_mem hs)];rfl
def pre1 (l:Its):Option (Ag×Its):=(GN l).bind fun x1=>(XH x1.2).bind fun x2=>(XH x2.2).bind fun x3=>(Xf x3.2).bind fun x4=>(N9 x4.2).bind fun x5=>(GN x5.2).bind fun x6=>(GN x6.2).bind fun x7=>(AgO x7.2).bind fun x8=>(GN x8.2).bind fun x9=>(N9 x9.2).bind fun x10=>if x10.2=[]then some (⟨x1.1,x2.1,x3.1,x4.1,x5.1,x6.1,x7.1,x8.1,x9.1,x10.1,[],⟨0,0⟩⟩,[])else none
def Xe (l:Its):Prop:= ∀x∈l,x.L.length≤100000
theorem Nk {α:Type}{tag:Int}{v:g_api_Item→α}{l r:Its}{a:α}(h:Nl tag v l=some (a,r))(hl:Xe l):Xe r:=by
 cases l with
 |nil=>cases h
 |cons x l=>
  rw[EC]at h;split at h
  ·cases h;exact fun y hy=>hl y (AkT _ hy)
  ·cases h
theorem LJ {l r:Its}{a:Int}(h:GN l=some (a,r))(hl:Xe l):Xe r:=by
 unfold GN at h;cases hn:Nl 2 (fun x=>PM x.B) l with
 |none=>rw[hn]at h; cases h
 |some p=>
  rw[hn,Option.bind_some]at h;split at h
  ·cases h;exact Nk hn hl
  ·cases h
theorem AgR {l r:Its}{a:UInt64}(h:Xf l=some (a,r))(hl:Xe l):Xe r:=by
 unfold Xf at h;cases hn:GN l with
 |none=>rw[hn]at h; cases h
 |some p=>
  rw[hn]at h;cases h;exact LJ (a:=p.1) hn hl
theorem Aao {l r:Its}{a:List ByteArray}(h:N9 l=some (a,r))(hl:Xe l):Xe r:=by
 unfold N9 at h;cases hn:Ag4 l with
 |none=>rw[hn]at h; cases h
 |some p=>
  rw[hn,Option.bind_some]at h;cases ht:Aem p.1 with
  |none=>rw[ht]at h; cases h
  |some t=>
   rw[ht]at h;cases h;exact Nk hn hl
theorem Gx {α:Type}(a:α)(r:Its):rd (some (a,r))=some (some (a,⟨r⟩)):=rfl
theorem AiZ {l:Its}(hl:Xe l):Df ⟨l⟩=rd (pre1 l):=by
 unfold Df pre1;rw[Mo];cases h1:GN l with
 |none=>rfl
 |some x1=>
  obtain⟨x1,l1⟩:=x1;replace hl:=LJ h1 hl;simp only[Gx,Aa,Option.bind_some];rw[show AY ⟨l1⟩=rd (XH l1)from XK l1];cases h2:XH l1 with
  |none=>rfl
  |some x2=>
   obtain⟨x2,l2⟩:=x2;replace hl:=Nk h2 hl;simp only[Gx,Aa,Option.bind_some];rw[show AY ⟨l2⟩=rd (XH l2)from XK l2];cases h3:XH l2 with
   |none=>rfl
   |some x3=>
    obtain⟨x3,l3⟩:=x3;replace hl:=Nk h3 hl;simp only[Gx,Aa,Option.bind_some];rw[SD];cases h4:Xf l3 with
    |none=>rfl
    |some x4=>
     obtain⟨x4,l4⟩:=x4;replace hl:=AgR h4 hl;simp only[Gx,Aa,Option.bind_some];rw[V5 hl];cases h5:N9 l4 with
     |none=>rfl
     |some x5=>
      obtain⟨x5,l5⟩:=x5;replace hl:=Aao h5 hl;simp only[Gx,Aa,Option.bind_some];rw[Mo];cases h6:GN l5 with
      |none=>rfl
      |some x6=>
       obtain⟨x6,l6⟩:=x6;replace hl:=LJ h6 hl;simp only[Gx,Aa,Option.bind_some];rw[Mo];cases h7:GN l6 with
       |none=>rfl
       |some x7=>
        obtain⟨x7,l7⟩:=x7;replace hl:=LJ h7 hl;simp only[Gx,Aa,Option.bind_some];rw[show CD ⟨l7⟩=rd (AgO l7)from AgN l7];cases h8:AgO l7 with
        |none=>rfl
        |some x8=>
         obtain⟨x8,l8⟩:=x8;replace hl:=Nk h8 hl;simp only[Gx,Aa,Option.bind_some];rw[Mo];cases h9:GN l8 with
         |none=>rfl
         |some x9=>
          obtain⟨x9,l9⟩:=x9;replace hl:=LJ h9 hl;simp only[Gx,Aa,Option.bind_some];rw[V5 hl];cases h10:N9 l9 with
          |none=>rfl
          |some x10=>
           obtain⟨x10,l10⟩:=x10;simp only[Gx,Aa,Option.bind_some];rw[AdE];by_cases he:l10=[]
           ·rw[AkA he,AkA he]; rfl
           ·rw[Aky he,Aky he]; rfl
def Acv (l:Its):Option (g_api_Promise×Its):=(GN l).bind fun x1=>(GN x1.2).bind fun x2=>(Xf x2.2).bind fun x3=>(Xf x3.2).bind fun x4=>(Xf x4.2).bind fun x5=>(Xf x5.2).bind fun x6=>some (⟨x1.1,x2.1,(x3.1,x4.1),⟨x5.1,x6.1⟩⟩,x6.2)
structure Nums (c:Ag):Prop where
 serial:0≤c.Serial∧c.Serial≤1099511627776
 frm:0≤c.From∧c.From≤1099511627776
 til:0≤c.Until∧c.Until≤1099511627776
 key:c.Key.toNat<2305843009213691579
 depth:0≤c.Depth∧c.Depth≤4
 sig:sigB c.Sig=true
 proms: ∀p∈c.Proms,promBC p=true
theorem Pf {n:Int}(h:numB n=true):0≤n∧n≤1099511627776:=by
 unfold numB at h;simp only[Aks,AkH]at h;omega
theorem Form.nums {c:Ag}(h:Form c):Nums c:=by
 refine⟨Pf h.serial,Pf h.frm,Pf h.til,by have:=h.keyQ; omega,?_,h.sig,Tx h.proms⟩;cases hc:c.Ca with
 |true=>obtain⟨_,_,a,b,_⟩:=h.ca hc; exact⟨a,b⟩
 |false=>obtain⟨_,_,a,_⟩:=h.leaf hc; omega
theorem U6 {a b:UInt64}{n:Nat}(h:(P9 a b).toNat<n):a.toNat<n∧b.toNat<n:=by
 unfold P9 at h;by_cases hc:b>a
 ·rw[AkA hc]at h;have:=UInt64.lt_iff_toNat_lt.1 hc;omega
 ·rw[Aky hc]at h;have: ¬a.toNat<b.toNat:=fun x=>hc (UInt64.lt_iff_toNat_lt.2 x);omega
theorem Ae2 {s:g_api_Sig}(h:sigB s=true):s.E.toNat<1152921504606845789∧s.S.toNat<1152921504606845789:=by
 unfold sigB at h;exact U6 (of_decide_eq_true h)
theorem Acr {p:g_api_Promise}(h:promBC p=true):(0≤p.Log∧p.Log≤1099511627776)∧(0≤p.At∧p.At≤1099511627776)∧(p.Leaf.1.toNat<2305843009213693951∧p.Leaf.2.toNat<2305843009213693951)∧p.Sig.E.toNat<1152921504606845789∧p.Sig.S.toNat<1152921504606845789:=by
 unfold promBC at h;simp only[Aks]at h;exact⟨Pf h.1.1.1,Pf h.1.1.2,U6 (of_decide_eq_true h.1.2),Ae2 h.2⟩
def bareP (c:Ag):Ag:=⟨c.Serial,c.Issuer,c.Subject,c.Key,c.Names,c.From,c.Until,c.Ca,c.Depth,c.Permit,[],⟨0,0⟩⟩
def Qq (c:Ag):Ag:=⟨c.Serial,c.Issuer,c.Subject,c.Key,c.Names,c.From,c.Until,c.Ca,c.Depth,c.Permit,c.Proms,⟨0,0⟩⟩
theorem AiX {c:Ag}(h:Nums c)(hm:mayB 8 (QJ c)=true):pre1 (QJ c).L=some (bareP c,[]):=by
 have hm: ∀y∈[Iv c.Serial,FY c.Issuer,FY c.Subject,Lf c.Key,H9 c.Names,Iv c.From,Iv c.Until,Qp c.Ca,Iv c.Depth,H9 c.Permit],mayB 8 y=true:=fun y hy=>Ahw hm (by decide) hy;have m2:mayB 8 (FY c.Issuer)=true:=hm _ (by simp);have m3:mayB 8 (FY c.Subject)=true:=hm _ (by simp);have m5:mayB 8 (H9 c.Names)=true:=hm _ (by simp);have m10:mayB 8 (H9 c.Permit)=true:=hm _ (by simp);have h1:=h.serial; have h2:=h.frm; have h3:=h.til; have h4:=h.key; have h5:=h.depth;show pre1 [Iv c.Serial,FY c.Issuer,FY c.Subject,Lf c.Key,H9 c.Names,Iv c.From,Iv c.Until,Qp c.Ca,Iv c.Depth,H9 c.Permit]=_;unfold pre1;rw[Kw h1.1 (by omega),Option.bind_some,V6 m2,Option.bind_some,V6 m3,Option.bind_some,SC (by omega),Option.bind_some,RS m5,Option.bind_some,Kw h2.1 (by omega),Option.bind_some,Kw h3.1 (by omega),Option.bind_some,Aee,Option.bind_some,Kw h5.1 (by omega),Option.bind_some,RS m10,Option.bind_some,AkA rfl];rfl
theorem Acp {p:g_api_Promise}(h:promBC p=true):Acv (IN p).L=some (p,[]):=by
 obtain⟨h1,h2,h3,h4⟩:=Acr h;show Acv [Iv p.Log,Iv p.At,Lf p.Leaf.1,Lf p.Leaf.2,Lf p.Sig.E,Lf p.Sig.S]=_;unfold Acv;rw[Kw h1.1 (by omega),Option.bind_some,Kw h2.1 (by omega),Option.bind_some,SC (by omega),Option.bind_some,SC (by omega),Option.bind_some,SC (by omega),Option.bind_some,SC (by omega),Option.bind_some]
theorem P6: ∀{d e:Nat} {x:g_api_Item},mayB d x=true→d≤e→putB e x=putB d x
 |0,e,x,h,_=>by cases h
 |d+1,0,x,_,h=>by omega
 |d+1,e+1,x,h,hd=>by
  have hf: ∀(l:List g_api_Item),(∀y∈l,mayB d y=true)→l.flatMap (putB e)=l.flatMap (putB d):=by
   intro l;induction l with
   |nil=>intro _; rfl
   |cons y l ih=>
    intro hl;rw[Ak4,Ak4,P6 (hl y AkN) (by omega),ih fun z hz=>hl z (AkT _ hz)]
  have:=hf x.L fun y hy=>Zt h hy;show toB x.Tag::(I0 (x.B++x.L.flatMap (putB e)).length++(x.B++x.L.flatMap (putB e)))=toB x.Tag::(I0 (x.B++x.L.flatMap (putB d)).length++(x.B++x.L.flatMap (putB d)));rw[this]
theorem AhB {d:Nat}{x y:g_api_Item}(h:mayB (d+1) x=true)(hd:d+1≤8)(hy:y∈x.L):(putB 8 y).length≤(putB 8 x).length:=by
 rw[P6 h hd,P6 (Zt h hy) (by omega)];have h1:=Vi (putB d) hy;show _≤(toB x.Tag::(I0 (x.B++x.L.flatMap (putB d)).length++(x.B++x.L.flatMap (putB d)))).length;have e:(x.B++x.L.flatMap (putB d)).length=x.B.length+(x.L.flatMap (putB d)).length:=Akz;rw[AkB,Akz,e];omega
theorem Wy {n m:Nat}(h:n≤m):(I0 n).length≤(I0 m).length:=by
 unfold I0;split
 ·split
  ·simp
  ·split<;>simp
 ·rw[Aky (show¬m<128 from by omega)];split
  ·split<;>simp
  ·rw[Aky (show¬m<256 from by omega)];simp
def szs (d:Nat)(l:List g_api_Item):Nat:=(l.flatMap (putB d)).length
theorem UG {d:Nat}{l k:List g_api_Item}(h:szs d l≤szs d k):(putB (d+1) (LV l)).length≤(putB (d+1) (LV k)).length:=by
 have h1:=Wy h;show(toB 48::(I0 ([]++l.flatMap (putB d)).length++([]++l.flatMap (putB d)))).length≤(toB 48::(I0 ([]++k.flatMap (putB d)).length++([]++k.flatMap (putB d)))).length;unfold szs at h h1;rw[Ak2,Ak2,AkB,AkB,Akz,Akz];omega
theorem szs2 (d:Nat)(a b:g_api_Item):szs d [a,b]=(putB d a).length+(putB d b).length:=by
 unfold szs;simp[Ak4]
theorem WH (d:Nat)(n:Int):(putB (d+1) (Iv 0)).length≤(putB (d+1) (Iv n)).length:=by
 have h8:(be8 n).length=8:=rfl;have hne:be8 n≠[]:=by intro h; rw[h]at h8; cases h8
 have h1:(Iv 0).B.length=1:=rfl;have h2:1≤(Iv n).B.length:=by
  have:=XE _ hne;show 1≤(V1 (be8 n)).length;cases ht:V1 (be8 n)with
  |nil=>exact absurd ht this
  |cons a l=>rw[AkB]; omega
 have h3: ∀m:Int,(putB (d+1) (Iv m)).length=1+(I0 (Iv m).B.length).length+(Iv m).B.length:=fun m=>by
  have e:(Iv m).B++(Iv m).L.flatMap (putB d)=(Iv m).B:=by
   show(Iv m).B++[]=_;rw[AkX]
  show(toB 2::(I0 ((Iv m).B++(Iv m).L.flatMap (putB d)).length++((Iv m).B++(Iv m).L.flatMap (putB d)))).length=_;rw[e,AkB,Akz];omega
 rw[h3,h3];have:=Wy (show(Iv 0).B.length≤(Iv n).B.length from by omega);omega
theorem big0:Lf 0=Iv 0:=by
 unfold Lf;rw[show w64 (((0:UInt64).toNat:Int))=0 from DO (x:=0) (by decide) (by decide)]
theorem Aji {d:Nat}{l:List g_api_Item}(h: ∀y∈l,mayB d y=true):mayB (d+1) (LV l)=true:=by
 unfold mayB;simp only[Aks,AkI];exact⟨⟨rfl,rfl⟩,h⟩
theorem ZF {d:Nat}{l:List g_api_Item}(h:mayB (d+1) (LV l)=true): ∀y∈l,mayB d y=true:=fun y hy=>Zt h hy
theorem may2 {d:Nat}{a b:g_api_Item}(ha:mayB d a=true)(hb:mayB d b=true):mayB (d+1) (LV [a,b])=true:=Aji (mem2 ha hb)
structure Okc (c:Ag):Prop where
 form:Form c
 fb:formB c=true
 may:mayB 8 (wholeI c)=true
 len:(putB 8 (wholeI c)).length≤2048
theorem okc {c:Ag}(h:Kx c=0):Okc c:=by
 unfold Kx at h;cases hf:formB c with
 |false=>rw[hf]at h; simp at h
 |true=>
  rw[hf,AkA rfl]at h;by_cases h2:mayB 8 (wholeI c)=true∧(putB 8 (wholeI c)).length≤2048
  ·exact⟨Yh hf,hf,h2.1,h2.2⟩
  ·rw[Aky h2]at h; cases h
theorem Okc.chk {c:Ag}(h:Okc c):Kx c=0:=by
 unfold Kx;rw[h.fb,AkA rfl,AkA ⟨h.may,h.len⟩]
theorem Adw {c:Ag}(ps:List g_api_Promise)(h:formB c=true)(hp:promsB (-1) ps=true)(hn:(ps.length:Int)≤4):
  formB ⟨c.Serial,c.Issuer,c.Subject,c.Key,c.Names,c.From,c.Until,c.Ca,c.Depth,c.Permit,ps,⟨0,0⟩⟩=true:=by
 unfold formB at h⊢;have hs:sigB (⟨0,0⟩:g_api_Sig)=true:=rfl;have hn':=Alq hn;have e: ∀(a b d e f g k l m:Bool),(a&&b&&(e&&f&&g&&k&&l)&&m)=true→(true&&b&&(e&&f&&g&&true&&true)&&m)=true:=by
  intro a b d e f g k l m;cases a<;>cases b<;>cases e<;>cases f<;>cases g<;>cases k<;>cases l<;>cases m<;>decide
 have:=e _ _ true _ _ _ _ _ _ h;show(promsB (-1) ps&&_&&(_&&_&&_&&decide ((ps.length:Int)≤4)&&sigB (⟨0,0⟩:g_api_Sig))&&_)=true;rw[hp,hn',hs];exact this
theorem Pj {c:Ag}(h:Okc c):mayB 7 (JI c)=true:=ZF h.may _ (by simp)
theorem U5 {c:Ag}(h:Okc c):mayB 6 (QJ c)=true:=ZF (Pj h) _ (by simp)
theorem R6 {c:Ag}(h:Okc c):mayB 6 (Hv c.Proms)=true:=ZF (Pj h) _ (by simp)
theorem Ai6 {c:Ag}(ps:List g_api_Promise)(h:Okc c)(hp:promsB (-1) ps=true)(hn:(ps.length:Int)≤4)(hm:mayB 6 (Hv ps)=true)(hz:(putB 6 (Hv ps)).length≤(putB 6 (Hv c.Proms)).length):
  Okc ⟨c.Serial,c.Issuer,c.Subject,c.Key,c.Names,c.From,c.Until,c.Ca,c.Depth,c.Permit,ps,⟨0,0⟩⟩:=by
 have hf:=Adw ps h.fb hp hn;have hb:mayB 7 (LV [QJ c,Hv ps])=true:=may2 (U5 h) hm;have z6:mayB 6 (Lf 0)=true:=Adj _ 5;refine⟨Yh hf,hf,may2 hb (may2 z6 z6),?_⟩;have hl:=h.len;have e1:(putB 8 (LV [LV [QJ c,Hv ps],LV [Lf 0,Lf 0]])).length≤(putB 8 (wholeI c)).length:=by
  refine UG ?_;rw[szs2,szs2];have a1:(putB 7 (LV [QJ c,Hv ps])).length≤(putB 7 (JI c)).length:=by
   refine UG ?_;rw[szs2,szs2];omega
  have a2:(putB 7 (LV [Lf 0,Lf 0])).length≤(putB 7 (LV [Lf c.Sig.E,Lf c.Sig.S])).length:=by
   refine UG ?_;rw[szs2,szs2];have b1:(putB 6 (Lf 0)).length≤(putB 6 (Lf c.Sig.E)).length:=(by rw[big0]; exact WH 5 _);have b2:(putB 6 (Lf 0)).length≤(putB 6 (Lf c.Sig.S)).length:=(by rw[big0]; exact WH 5 _);omega
  omega
 show(putB 8 (LV [LV [QJ c,Hv ps],LV [Lf 0,Lf 0]])).length≤2048;omega
theorem Zg {c:Ag}(h:Okc c):Okc (Qq c):=Ai6 c.Proms h h.form.proms h.form.nproms (R6 h) (AkC _)
def CE (c:Ag):List UInt8:=putB 8 (JI c)
def X0 (c:Ag):List UInt8:=putB 8 (QJ c)
theorem OI {c:Ag}(h:Okc c):(CE c).length≤2048:=by
 have h1:=AhB (y:=JI c) h.may (by decide) (by show JI c∈[JI c,_]; simp);have h2:=h.len;show(putB 8 (JI c)).length≤_;omega
theorem Ahj {c:Ag}(h:Okc c):(X0 c).length≤2048:=by
 have h1:=AhB (y:=QJ c) (Pj h) (by decide) (by show QJ c∈[QJ c,_]; simp);have h2:=OI h;show(putB 8 (QJ c)).length≤_;have h3:(putB 8 (JI c)).length≤2048:=h2;omega
theorem Aer {x:g_api_Item}(h:mayB 8 x=true)(hl:(putB 8 x).length≤8192):HS x=some (putB 8 x,0):=by
 rw[Ah7 (by omega),AkA h,AkA hl]
theorem ZX {c:Ag}(h:Okc c):Fe c=some (CE c,0):=by
 unfold Fe GU;have hl:=OI h;rw[LL,h.chk,Aa,Aky (by decide),Z1 h.form.sized,Aa,Aer (QL (by decide) (Pj h)) (by show(CE c).length≤_; omega)];rfl
theorem Aea {c:Ag}(h:Okc c):JO c=some (X0 c,0):=by
 unfold JO It;have hl:=Ahj h;rw[LL,h.chk,Aa,Aky (by decide),Acw h.form.sized,Aa,Aer (QL (by decide) (U5 h)) (by show(X0 c).length≤_; omega)];rfl
theorem AfC {z:Int}(h:z≠0):(z !=0)=true:=by simpa using h
theorem Aeb {c:Ag}(h:Kx c≠0):Fe c=some ([],Kx c):=by
 unfold Fe GU;rw[LL,Aa,AkA (AfC h)];rfl
theorem Akq {x:g_api_Item}(r:List UInt8)(h:mayB 8 x=true)(hl:(putB 8 x).length≤8192)(hr:r.length≤1000000):Pv (putB 8 x++r) 0=some (x,((putB 8 x).length:Int),0):=by
 unfold Pv;have e0:(decide ((0:Int)<0)||decide ((0:Int)>((putB 8 x++r).length:Int)))=false:=by
  have: ¬(0:Int)>((putB 8 x++r).length:Int):=by omega
  rw[decide_eq_false this]; rfl
 have e1:cut (putB 8 x++r) 0 ((putB 8 x++r).length:Int)=some (putB 8 x++r):=by
  have:=AdS (putB 8 x++r) [];rw[AkX]at this;exact this
 have e2:Sd (putB 8 x++r) 8=some (x,r,0):=AjL 8 8 EV x r h (by decide) (by have:=FN; omega) (by decide) hl;rw[e0,Aky (by decide),e1,Aa,e2,Aa,Aky (by simp),G4];have e3:w64 (((putB 8 x++r).length:Int)-(r.length:Int))=((putB 8 x).length:Int):=by
  rw[Akz,DO (by omega) (by omega)];omega
 show some (x,w64 (((putB 8 x++r).length:Int)-(r.length:Int)),0)=_;rw[e3]
def Afp (x:g_api_Item):Option g_api_Promise:=if x.Tag=48∧mayB 8 x=true then(Acv x.L).bind fun q=>if q.2=[]then some q.1 else none else none
abbrev BS:=Its×List g_api_Promise
def Afy (r:Its)(a:List g_api_Promise):Option g_api_Promise→BS⊕(BS⊕Option (Ag×Ap))
 |some p=> .inl (r,a++[p])
 |none=> .inr (.inr none)
theorem Afo (x:g_api_Item)(r:Its)(a:List g_api_Promise)(hr:Xe (x::r))(ha:a.length≤100000):A2 (x::r,a)=some (Afy r a (Afp x)):=by
 unfold A2;show(if decide (((x::r).length:Int)>0)=true then _ else _)=_;rw[Qe,AkA rfl];show Ab (Bc ⟨x::r⟩) _=_;rw[YO hr];unfold Afp Ag4;rw[EC];by_cases hx:x.Tag=48∧mayB 8 x=true;rotate_left
 ·rw[Aky hx,Aky hx]; rfl
 rw[AkA hx,AkA hx,AkL,Aa];show Ab (AT ⟨x.L⟩) _=_;unfold Acv;rw[Mo];cases h1:GN x.L with
 |none=>rfl
 |some q=>
  obtain⟨x1,l1⟩:=q;rw[Gx,Aa,Option.bind_some];show Ab (AT ⟨l1⟩) _=_;rw[Mo];cases h2:GN l1 with
  |none=>rfl
  |some q=>
   obtain⟨x2,l2⟩:=q;rw[Gx,Aa,Option.bind_some];show Ab (Bd ⟨l2⟩) _=_;rw[SD];cases h3:Xf l2 with
   |none=>rfl
   |some q=>
    obtain⟨x3,l3⟩:=q;rw[Gx,Aa,Option.bind_some];show Ab (Bd ⟨l3⟩) _=_;rw[SD];cases h4:Xf l3 with
    |none=>rfl
    |some q=>
     obtain⟨x4,l4⟩:=q;rw[Gx,Aa,Option.bind_some];show Ab (Bd ⟨l4⟩) _=_;rw[SD];cases h5:Xf l4 with
     |none=>rfl
     |some q=>
      obtain⟨x5,l5⟩:=q;rw[Gx,Aa,Option.bind_some];show Ab (Bd ⟨l5⟩) _=_;rw[SD];cases h6:Xf l5 with
      |none=>rfl
      |some q=>
       obtain⟨x6,l6⟩:=q;rw[Gx,Aa,Option.bind_some,Option.bind_some];show Ab (app 48 a [(⟨x1,x2,(x3,x4),⟨x5,x6⟩⟩:g_api_Promise)]) _=_;rw[PN 48 (by show(a.length+1)*48≤_; omega) (by show a.length+1≤_; omega),Aa];show Ab (Cj ⟨l6⟩) _=_;rw[AdE];show _=some (Afy r a (if l6=[]then some (⟨x1,x2,(x3,x4),⟨x5,x6⟩⟩:g_api_Promise)else none));by_cases h:l6=[]
       ·rw[AkA h,AkA h]; rfl
       ·rw[Aky h,Aky h]; rfl
theorem AjX {c:Ag}(h:W4 c):Xe (QJ c).L:=by
 have hx: ∀x∈[Iv c.Serial,FY c.Issuer,FY c.Subject,Lf c.Key,H9 c.Names,Iv c.From,Iv c.Until,Qp c.Ca,Iv c.Depth,H9 c.Permit],x.L.length≤100000:=by
  intro x hx;simp only[Ak1,List.not_mem_nil,or_false]at hx;rcases hx with q|q|q|q|q|q|q|q|q|q<;>rw[q]
  ·exact Als _
  ·exact Als _
  ·exact Als _
  ·exact Als _
  ·show(c.Names.map FY).length≤_;rw[AkW]; have:=h.few; omega
  ·exact Als _
  ·exact Als _
  ·exact Als _
  ·exact Als _
  ·show(c.Permit.map FY).length≤_;rw[AkW]; have:=h.fewP; omega
 exact hx
theorem AiY {c:Ag}(h:Okc c):Df ⟨(QJ c).L⟩=some (some (bareP c,⟨[]⟩)):=by
 rw[AiZ (AjX h.form.sized),AiX h.form.nums (QL (by decide) (U5 h))];rfl
theorem AaA {p:g_api_Promise}(r:Its)(a:List g_api_Promise)(hp:promBC p=true)(hm:mayB 8 (IN p)=true)(hr:Xe r)(ha:a.length≤100000):A2 (IN p::r,a)=some (.inl (r,a++[p])):=by
 have hf:Xe (IN p::r):=by
  intro y hy;rcases Ak1.1 hy with e|hy
  ·rw[e]; show(6:Nat)≤_; decide
  ·exact hr y hy
 have e:Afp (IN p)=some p:=by
  unfold Afp;rw[AkA ⟨rfl,hm⟩,Acp hp];rfl
 rw[Afo _ _ _ hf ha,e];rfl
theorem Ty: ∀(l a:List g_api_Promise) (n:Nat),l.length<n→a.length+l.length≤100000→(∀p∈l,promBC p=true∧mayB 8 (IN p)=true)→
  iter A2 n (l.map IN,a)=some (.inl ([],a++l))
 |l,a,0,h,_,_=>by omega
 | [],a,n+1,_,_,_=>by
  have e:A2 ([],a)=some (.inr (.inl ([],a))):=rfl;show Ab (A2 ([],a)) _=_;rw[e];simp
 |p::l,a,n+1,h,ha,hp=>by
  rw[AkB]at h ha;have hr:Xe (l.map IN):=by
   intro y hy;obtain⟨q,_,e⟩:=List.mem_map.1 hy;rw[←e]; show(6:Nat)≤_; decide
  show Ab (A2 (IN p::l.map IN,a)) _=_;rw[AaA (l.map IN) a (hp p AkN).1 (hp p AkN).2 hr (by omega)];show iter A2 n (l.map IN,a++[p])=_;rw[Ty l (a++[p]) n (by omega) (by rw[Akz]; show a.length+1+_≤_; omega) fun q hq=>hp q (AkT _ hq),Akw];rfl
theorem few2 {a b:g_api_Item}(ha:a.L.length≤100000)(hb:b.L.length≤100000):Xe [a,b]:=by
 unfold Xe;exact mem2 (p:=fun(y:g_api_Item)=>y.L.length≤100000) ha hb
theorem AgQ {c:Ag}(h:Okc c):Dr ⟨(JI c).L⟩=some (some (Qq c,⟨[]⟩)):=by
 have hs:=h.form.sized;have hp:(Hv c.Proms).L.length≤100000:=by
  show(c.Proms.map IN).length≤_;rw[AkW]; have:=hs.proms; omega
 have e1:Bc ⟨[QJ c,Hv c.Proms]⟩=some (some (⟨(QJ c).L⟩,⟨[Hv c.Proms]⟩)):=by
  rw[YO (few2 (by show(10:Nat)≤_; decide) hp),show QJ c=LV (QJ c).L from rfl,XJ (l:=(QJ c).L) (QL (by decide) (U5 h))];rfl
 have e2:Bc ⟨[Hv c.Proms]⟩=some (some (⟨c.Proms.map IN⟩,⟨[]⟩)):=by
  rw[YO (fun y hy=>by rw[AlB.1 hy]; exact hp),show Hv c.Proms=LV (c.Proms.map IN)from rfl,XJ (l:=c.Proms.map IN) (QL (by decide) (R6 h))];rfl
 have e3:=Ty c.Proms [] EV (by have:=hs.proms; have:=FN; omega) (by have:=hs.proms; simp only[AkY]; omega) fun p hp=>⟨h.form.nums.proms p hp,QL (by decide) (ZF (R6 h) _ (List.mem_map_of_mem hp))⟩;unfold Dr;show Ab (Bc ⟨[QJ c,Hv c.Proms]⟩) _=_;rw[e1,Aa];show Ab (Df ⟨(QJ c).L⟩) _=_;rw[AiY h,Aa];show Ab (Bc ⟨[Hv c.Proms]⟩) _=_;rw[e2,Aa];show Ab (iter A2 EV (c.Proms.map IN,[])) _=_;rw[e3,Aa];show Ab (Cj ⟨[]⟩) _=_;rw[AdE,AkA rfl];rfl
theorem in_ok {l:Its}(h:mayB 8 (LV l)=true)(hl:l.length≤100000):LF (LV l)=some (some ⟨l⟩):=by
 unfold LF;rw[Z5 (x:=LV l) hl,AkA (show(LV l).Tag=48 from rfl),AkA h];rfl
theorem mustE {x:Int}{n:Nat}(h:x=(n:Int)):Bi (x==(n:Int))=some (some ()):=by
 rw[h,beq_self_eq_true]; rfl
theorem KA {c:Ag}(h:Okc c):Fy (CE c)=some (Qq c,0):=by
 have hl:(putB 8 (JI c)).length≤2048:=OI h;have hm:mayB 8 (JI c)=true:=QL (by decide) (Pj h);have e0:=Akq [] hm (by omega) (by decide);rw[AkX]at e0;unfold Fy HV Fg;rw[show CE c=putB 8 (JI c)from rfl,e0,Aa,Aky (by simp)];show Ab (Ab (Ab (Bi (((putB 8 (JI c)).length:Int)==((putB 8 (JI c)).length:Int))) _) _) _=_;rw[mustE rfl,Aa];show Ab (Ab (Ab (LF (JI c)) _) _) _=_;rw[show JI c=LV (JI c).L from rfl,in_ok (l:=(JI c).L) hm (by show(2:Nat)≤_; decide),Aa];show Ab (Ab (Ab (Dr ⟨(JI c).L⟩) _) _) _=_;rw[AgQ h,Aa];show Ab (Ab (Ab (Eb (Qq c)) _) _) _=_;rw[LL,(Zg h).chk];rfl
theorem AfK {b:List UInt8}(h:b.length≤3000):Dk b=some (W9 (⟨#[108,101,97,102]⟩:ByteArray) [b]):=by
 unfold Dk;rw[Lq _ _ (by simp[Y7]; omega)];rfl
theorem AgL {c:Ag}(h:Okc c):Mk c=some (W9 (⟨#[108,101,97,102]⟩:ByteArray) [X0 c],0):=by
 unfold Mk;have:=Ahj h;rw[Aea h,Aa,Aky (by simp)];show Ab (Dk (X0 c)) _=_;rw[AfK (by omega)];rfl
end Go.Proofs.YtlahakpgjlmeaaaGreatDoor
end
