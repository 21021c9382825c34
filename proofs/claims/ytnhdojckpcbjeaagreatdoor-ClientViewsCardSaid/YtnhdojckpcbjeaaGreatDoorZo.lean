/- Several texts, one behind the other. Conditions: none. -/
import Derived.Test.YtnhdojckpcbjeaaGreatDoorZi
import Derived.Test.YtnhdojckpcbjeaaGreatDoorZj
import Derived.Test.YtnhdojckpcbjeaaGreatDoorZk
import Derived.Test.YtnhdojckpcbjeaaGreatDoorZl
import Derived.Test.YtnhdojckpcbjeaaGreatDoorZm
import Derived.KernelRfl
import Derived.Test.YtnhdojckpcbjeaaGreatDoorZb
set_option linter.unusedSimpArgs false
set_option linter.unusedVariables false
set_option maxHeartbeats 4000000
set_option maxRecDepth 100000
section
namespace Go.Proofs.YtnhdojckpcbjeaaGreatDoor
open Go Go.Gw Go.Ax
theorem Bn {α β:Type}(a:α)(k:α→β):bnd a k=k a:=rfl
theorem Gy {σ τ:Type}{step:σ→Option (σ⊕τ)}{s:σ}{t:τ}(n:Nat)(h:iter step n s=some t)(hn:n≤18446744073709551616):iter step F7 s=some t:=Ac3 h hn
theorem B8 {σ τ:Type}{step:σ→Option (σ⊕τ)}{n:Nat}{s s':σ}(h:step s=some (.inl s')):iter step (n+1) s=iter step n s':=by simp only[iter,h,Aa]
theorem CF {σ τ:Type}{step:σ→Option (σ⊕τ)}{n:Nat}{s:σ}{t:τ}(h:step s=some (.inr t)):iter step (n+1) s=some t:=by simp only[iter,h,Aa]
theorem DQ {α:Type}(b:Nat){xs ys:List α}(h:(xs.length+ys.length)*b≤140737488355328)(h1:xs.length+ys.length≤140737488355328):app b xs ys=some (xs++ys):=by unfold app; rw[Ak3 ⟨h,h1⟩]
theorem NF {α:Type}{xs:List α}{lo hi:Nat}(h1:lo≤hi)(h2:hi≤xs.length):cut xs (lo:Int) (hi:Int)=some ((xs.drop lo).take (hi-lo)):=by
 unfold cut; rw[Ak3 ⟨by omega,by omega,by omega⟩]; simp
def Afg (hi lo:UInt64):UInt64:=
 let n:=(lo&&&2305843009213693951)+((L4 hi 3)|||(EY lo 61))
 let k:=(n&&&2305843009213693951)+EY n 61
 if 2305843009213693951≤k.toNat then k-2305843009213693951 else k
theorem Adq (a b:UInt64):IE a b=some (Afg a b):=by
 unfold IE Afg;simp only[Bn];generalize (b&&&2305843009213693951)+((L4 a 3)|||(EY b 61))=n;generalize (n&&&2305843009213693951)+EY n 61=k;by_cases h:2305843009213693951≤k.toNat
 ·rw[Ak3 h,Ak3 (All (by omega))]; rfl
 ·rw[Ak1 h,Ak1 (by simp; omega)]; rfl
def Ahh (a:UInt64):UInt64:=Afg 0 a
theorem Ahj (a:UInt64):FO a=some (Ahh a):=by simp only[FO,Adq,Aa]; rfl
def J6 (a b:UInt64):UInt64:=Ahh (Ahh a+Ahh b)
theorem ZB (a b:UInt64):G7 a b=some (J6 a b):=by simp only[G7,Ahj,Aa]; rfl
def phi (a0 a1:UInt64):UInt64:=
 let x1:=(a0&&&4294967295)*(a1&&&4294967295)
 let x2:=((EY a0 32)*(a1&&&4294967295))+(EY x1 32)
 let x3:=(x2&&&4294967295)+((a0&&&4294967295)*(EY a1 32))
 (((EY a0 32)*(EY a1 32))+(EY x2 32))+(EY x3 32)
theorem UJ (a b:UInt64):IH a b=some (phi a b,a*b):=rfl
def pmul (a b:UInt64):UInt64:=Afg (phi (Ahh a) (Ahh b)) (Ahh a*Ahh b)
theorem mul_eq (a b:UInt64):JL a b=some (pmul a b):=by simp only[JL,Ahj,UJ,Adq,Aa]; rfl
def Xu (a:UInt64):UInt64:=
 let b:=pmul a a
 let c:=pmul b b
 let d:=pmul c c
 pmul a (pmul d d)
theorem sev_eq (a:UInt64):E8 a=some (Xu a):=by
 simp only[E8,CX,JK,mul_eq,Aa]; rfl
def YM (r i:Int):UInt64:=let n:=toU (w64 ((w64 ((w64 (3*r))+i))+1)); n*n*n+7
def pall (r:Int)(s:UInt64×UInt64×UInt64):UInt64:=J6 (J6 (J6 0 (Xu (J6 s.1 (YM r 0)))) (Xu (J6 s.2.1 (YM r 1)))) (Xu (J6 s.2.2 (YM r 2)))
def OF (r:Int)(s:UInt64×UInt64×UInt64):UInt64×UInt64×UInt64:=(J6 (Xu (J6 s.1 (YM r 0))) (pall r s),J6 (Xu (J6 s.2.1 (YM r 1))) (pall r s),J6 (Xu (J6 s.2.2 (YM r 2))) (pall r s))
theorem Ajs (i:Int)(a:UInt64)(r:Int)(all:UInt64):Kq i a r all=some (Xu (J6 a (YM r i)),r,J6 all (Xu (J6 a (YM r i)))):=by
 simp only[Kq,Bn,ZB,sev_eq,Aa]; rfl
theorem Ajr (i:Int)(a:UInt64)(all:UInt64):Kp i a all=some (J6 a all,all):=by
 simp only[Kp,ZB,Aa]
theorem Agy (a b c:UInt64)(r:Int)(all:UInt64):DS (a,b,c) r all=some ((Xu (J6 a (YM r 0)),Xu (J6 b (YM r 1)),Xu (J6 c (YM r 2))),r,J6 (J6 (J6 all (Xu (J6 a (YM r 0)))) (Xu (J6 b (YM r 1)))) (Xu (J6 c (YM r 2)))):=by
 have e0:idx [a,b,c] 0=some a:=rfl;have e1: ∀x,idx [x,b,c] 1=some b:=fun _=>rfl;have e2: ∀x y,idx [x,y,c] 2=some c:=fun _ _=>rfl;simp[DS,CX,GI,Bn,Ajs,e0,e1,e2]
theorem Agx (a b c all:UInt64):DR (a,b,c) all=some ((J6 a all,J6 b all,J6 c all),all):=by
 have e0:idx [a,b,c] 0=some a:=rfl;have e1: ∀x,idx [x,b,c] 1=some b:=fun _=>rfl;have e2: ∀x y,idx [x,y,c] 2=some c:=fun _ _=>rfl;simp[DR,CX,GH,Bn,Ajr,e0,e1,e2]
theorem Ajq (r:Int)(s:UInt64×UInt64×UInt64):LF r s=some (OF r s):=by
 obtain⟨a,b,c⟩:=s;unfold LF;rw[Agy,Aa,Agx,Aa];rfl
def AaO (s:UInt64×UInt64×UInt64):UInt64×UInt64×UInt64:=OF 7 (OF 6 (OF 5 (OF 4 (OF 3 (OF 2 (OF 1 (OF 0 s)))))))
theorem Acz (s:UInt64×UInt64×UInt64):K7 s=some (AaO s):=by
 simp only[K7,CX,Ajq,Aa];rfl
def ple:List UInt8→Nat→UInt64→UInt64
 | [],_,s=>s
 |b::bs,i,s=>ple bs (i+1) (s|||L4 (toU (b.toNat:Int)) (8*i))
theorem b6_eq (b5:List UInt8): ∀(l:List UInt8) (i:Nat) (s:UInt64),b5.drop i=l→i+l.length≤1000000→CX (Gq b5) l.length (i:Int) s=some (ple l i s):=by
 intro l;induction l with
 |nil=>intro i s _ _; rfl
 |cons b l ih=>
  intro i s h hb;have hx:idx b5 (i:Int)=some b:=Dk (by
   have:(b5.drop i)[0]? =some b:=by rw[h]; rfl
   simpa using this)
  simp only[Ak8]at hb;have hw:w64 (8*(i:Int))=((8*i:Nat):Int):=by rw[Bo (by omega) (by omega)]; omega
  have hstep:Gq b5 (i:Int) s=some (s|||L4 (toU (b.toNat:Int)) (8*i)):=by
   simp only[Gq,hx,Aa,hw,Bn];rw[Ak3 (by omega)]; rfl
  show CX (Gq b5) (l.length+1) _ _=_;simp only[CX,hstep,Aa,ple];have:=ih (i+1) (s|||L4 (toU (b.toNat:Int)) (8*i)) (by rw[←AlZ,h]; rfl) (by omega);simpa using this
def pof (n:Nat)(l:List UInt8):List UInt64:=match n,l with|_,[]=> []|0,_=> []|n+1,l=>ple (l.take 7) 0 0::pof n (l.drop 7)
theorem Ajd (n:Nat): ∀l,(pof n l).length≤n:=by
 induction n with
 |zero=>intro l; cases l<;>simp[pof]
 |succ n ih=>intro l; cases l with
  |nil=>simp[pof]
  |cons a l=>simp only[pof,Ak8]; have:=ih ((a::l).drop 7); omega
theorem AgE (a0:List UInt8)(hb:a0.length≤1000000): ∀(n i:Nat) (out:List UInt64),a0.length≤i+n→i≤1000000+7→out.length+n≤1000000→
  iter (BN (fun(s:(List UInt64)) (b0:List UInt8)=>Ab (Gr b0 s) fun y=>some (true,y)) a0 7) (n+1) ((i:Int),out)=some (.inl (out++pof n (a0.drop i))):=by
 intro n;induction n with
 |zero=>
  intro i out h _ _;have:a0.drop i=[]:=AlH (by omega);refine CF ?_;simp only[BN,this];rw[Ak1 (by simp; omega)];simp[pof]
 |succ n ih=>
  intro i out h hi ho;by_cases hlt:i<a0.length
  ·obtain⟨b,l,hl⟩: ∃b l,a0.drop i=b::l:=⟨a0[i],a0.drop (i+1),List.drop_eq_getElem_cons hlt⟩;have hc1:cut a0 (i:Int) (a0.length:Int)=some (a0.drop i):=by
    rw[NF (by omega) (by omega)]; congr 1; rw[Alw (by simp)]
   have hlen:(a0.drop i).length=a0.length-i:=by simp
   have hm:w64 ((i:Int)+XH 7 ((a0.drop i).length:Int))=((i+min 7 (a0.length-i):Nat):Int):=by
    rw[Bo]<;>unfold XH<;>split<;>omega
   have hc2:cut a0 (i:Int) ((i+min 7 (a0.length-i):Nat):Int)=some ((a0.drop i).take 7):=by
    rw[NF (by omega) (by omega)]; congr 1;rw[Nat.add_sub_cancel_left];by_cases h7:7≤a0.length-i
    ·rw[Nat.min_eq_left h7]
    ·rw[Nat.min_eq_right (by omega),Alw (by simp),Alw (by simp; omega)]
   have hw:w64 ((i:Int)+7)=((i+7:Nat):Int):=by rw[Bo (by omega) (by omega)]; omega
   have hb4:Gr ((a0.drop i).take 7) out=some (out++[ple ((a0.drop i).take 7) 0 0]):=by
    have:=b6_eq ((a0.drop i).take 7) ((a0.drop i).take 7) 0 0 rfl (by simp; omega);simp only[Gr];rw[show((0:Int))=((0:Nat):Int)from rfl,this];simp only[Aa];rw[DQ 8 (by simp; omega) (by simp; omega)];rfl
   rw[B8 (s':=(((i+7:Nat):Int),out++[ple ((a0.drop i).take 7) 0 0]))]
   ·rw[ih (i+7) _ (by omega) (by omega) (by simp; omega)];rw[hl];simp only[pof];rw[←hl,AlZ];simp
   ·simp only[BN];rw[Ak3 (All (by omega)),hc1];simp only[Aa,hm,hc2,hb4,hw];rfl
  ·have:a0.drop i=[]:=AlH (by omega);refine CF ?_;simp only[BN,this];rw[Ak1 (by simp; omega)];simp[pof]
theorem of_eq (a0:List UInt8)(hb:a0.length≤900000):K8 a0=some (pof a0.length a0):=by
 have h:=AgE a0 (by omega) a0.length 0 [] (by omega) (by omega) (by simp; omega);have h':=Gy _ h (by omega);simp only[K8,EB,DW];rw[Ak1 (by decide)];simp only[Aa,List.drop_zero,Alz]at h'⊢;rw[show((0:Int))=((0:Nat):Int)from rfl,h'];simp only[Aa]
def Nn (n:Nat)(l:List UInt64)(s:UInt64×UInt64×UInt64):UInt64×UInt64×UInt64:=match n,l with|_,[]=>s|0,_=>s|_+1,[x]=>AaO (J6 s.1 x,s.2.1,s.2.2)|n+1,x::y::l=>Nn n l (AaO (J6 s.1 x,J6 s.2.1 y,s.2.2))
theorem b4_eq1 (x:UInt64)(s:UInt64×UInt64×UInt64):CX (HG [x]) 1 0 s=some (J6 s.1 x,s.2.1,s.2.2):=by
 have e0:idx [x] (0:Int)=some x:=rfl;have e1:idx [s.1,s.2.1,s.2.2] (0:Int)=some s.1:=rfl;simp[CX,HG,e0,e1,ZB,Bn]
theorem b4_eq2 (x y:UInt64)(s:UInt64×UInt64×UInt64):CX (HG [x,y]) 2 0 s=some (J6 s.1 x,J6 s.2.1 y,s.2.2):=by
 have e0:idx [x,y] (0:Int)=some x:=rfl;have e1:idx [s.1,s.2.1,s.2.2] (0:Int)=some s.1:=rfl;have e2:idx [x,y] 1=some y:=rfl;have e3:idx [J6 s.1 x,s.2.1,s.2.2] 1=some s.2.1:=rfl;simp[CX,HG,e0,e1,e2,e3,ZB,Bn]
theorem b3_nil (fst:Bool)(hf:fst=true)(s:UInt64×UInt64×UInt64):C8 ([],fst,s.1,s.2.1,s.2.2)=some (.inl ([],false,AaO s)):=by
 subst hf;have hc:cut ([]:List UInt64) 0 0=some []:=rfl;have hmin:XH 2 (([]:List UInt64).length:Int)=0:=rfl;simp only[C8,Bool.true_or,if_true,hmin];rw[show((([]:List UInt64).length:Int))=0 from rfl,hc];simp only[Aa,CX,Alm,Acz]
theorem Ah8 (s:UInt64×UInt64×UInt64):C8 ([],false,s.1,s.2.1,s.2.2)=some (.inr s):=rfl
theorem Ah7 (fst:Bool)(x:UInt64)(s:UInt64×UInt64×UInt64):C8 ([x],fst,s.1,s.2.1,s.2.2)=some (.inl ([],false,AaO (J6 s.1 x,s.2.1,s.2.2))):=by
 have hmin:XH 2 (([x]:List UInt64).length:Int)=1:=rfl;have h0:(fst||decide ((([x]:List UInt64).length:Int)>0))=true:=by simp
 have hc:cut [x] 0 1=some [x]:=rfl;have hc2:cut [x] 1 1=some []:=rfl;simp only[C8,h0,if_true,hmin];rw[show((([x]:List UInt64).length:Int))=1 from rfl,hc,hc2];simp only[Aa,Ak8,Alm];rw[b4_eq1];simp only[Aa,Acz]
theorem Ah6 (fst:Bool)(x y:UInt64)(l:List UInt64)(s:UInt64×UInt64×UInt64):C8 (x::y::l,fst,s.1,s.2.1,s.2.2)=some (.inl (l,false,AaO (J6 s.1 x,J6 s.2.1 y,s.2.2))):=by
 have hmin:XH 2 ((x::y::l).length:Int)=((2:Nat):Int):=by unfold XH; rw[Ak1 (by simp; omega)]; rfl
 have h0:(fst||decide (((x::y::l).length:Int)>0))=true:=by simp; right; omega
 have hc:cut (x::y::l) ((0:Nat):Int) ((2:Nat):Int)=some [x,y]:=by rw[NF (by omega) (by simp)]; rfl
 have hc2:cut (x::y::l) ((2:Nat):Int) ((x::y::l).length:Int)=some l:=by rw[NF (by simp) (by omega)]; simp
 simp only[C8,h0,if_true,hmin];rw[show((0:Int))=((0:Nat):Int)from rfl,hc,hc2];simp only[Aa,Ak8,Alm];rw[show((0:Nat):Int)=0 from rfl,b4_eq2];simp only[Aa,Acz]
theorem Yc: ∀(n:Nat) (l:List UInt64) (s:UInt64×UInt64×UInt64),l.length≤n→iter C8 (n+1) (l,false,s.1,s.2.1,s.2.2)=some (Nn n l s):=by
 intro n;induction n with
 |zero=>
  intro l s h;have:l=[]:=List.eq_nil_of_length_eq_zero (by omega);subst this;rw[CF (Ah8 s)]; simp[Nn]
 |succ n ih=>
  intro l s h;match l,h with
  | [],_=>rw[CF (Ah8 s)]; simp[Nn]
  | [x],_=>
   rw[B8 (Ah7 false x s)];have:=ih [] (AaO (J6 s.1 x,s.2.1,s.2.2)) (by simp);rw[this]; simp[Nn]
  |x::y::l,h=>
   rw[B8 (Ah6 false x y l s)];have:=ih l (AaO (J6 s.1 x,J6 s.2.1 y,s.2.2)) (by simp at h; omega);rw[this]; simp[Nn]
def Ahi (l:List UInt64)(s:UInt64×UInt64×UInt64):UInt64×UInt64×UInt64:=match l with| []=>AaO s|l=>Nn l.length l s
def hsum (b:List UInt8):UInt64×UInt64:=((Ahi (pof b.length b) (0,0,toU (b.length:Int))).1,(Ahi (pof b.length b) (0,0,toU (b.length:Int))).2.1)
theorem sum_eq (b:List UInt8)(hb:b.length≤900000):Nc b=some (hsum b):=by
 simp only[Nc,of_eq b hb,Aa];have hl:=Ajd b.length b;have hk:hsum b=((Ahi (pof b.length b) (0,0,toU (b.length:Int))).1,(Ahi (pof b.length b) (0,0,toU (b.length:Int))).2.1):=rfl;rw[hk];clear hk;generalize pof b.length b=l at*;have h:iter C8 F7 (l,true,0,0,toU (b.length:Int))=some (Ahi l (0,0,toU (b.length:Int))):=by
  refine Gy (l.length+2) ?_ (by omega);match l with
  | []=>
   rw[show([]:List UInt64).length+2=1+1 from rfl,B8 (b3_nil true rfl (0,0,toU (b.length:Int)))];have:=Yc 0 [] (AaO (0,0,toU (b.length:Int))) (by simp);rw[this]; simp[Nn,Ahi]
  | [x]=>
   rw[show([x]:List UInt64).length+2=2+1 from rfl,B8 (Ah7 true x (0,0,toU (b.length:Int)))];have:=Yc 1 [] (AaO (J6 0 x,0,toU (b.length:Int))) (by simp);rw[this]; simp[Nn,Ahi]
  |x::y::l=>
   rw[B8 (Ah6 true x y l (0,0,toU (b.length:Int)))];have:=Yc (l.length+2) l (AaO (J6 0 x,J6 0 y,toU (b.length:Int))) (by omega);have e:(x::y::l).length+1=l.length+2+1:=rfl;rw[e,this];simp only[Nn,Ahi,Ak8];congr 1;clear this hl;have: ∀(n k:Nat) (l:List UInt64) (s:UInt64×UInt64×UInt64),l.length≤n→l.length≤k→Nn n l s=Nn k l s:=by
    intro n;induction n with
    |zero=>intro k l s h _; have:l=[]:=List.eq_nil_of_length_eq_zero (by omega); subst this; simp[Nn]
    |succ n ih=>
     intro k l s h hk;match l,k,h,hk with
     | [],k,_,_=>cases k<;>simp[Nn]
     | [x],k+1,_,_=>simp[Nn]
     |x::y::l,k+1,h,hk=>simp only[Nn]; exact ih k l _ (by simp at h; omega) (by simp at hk; omega)
   exact this _ _ _ _ (by omega) (by omega)
 rw[h];simp only[Aa]
def Sy:Nat→UInt64→List UInt8
 |0,_=> []
 |k+1,n=>toB ((EY n (8*k)).toNat:Int)::Sy k n
theorem Kh (k:Nat)(n:UInt64):(Sy k n).length=k:=by induction k with|zero=>rfl|succ k ih=>simp[Sy,ih]
theorem Ae8 (n:UInt64): ∀(k:Nat) (b:List UInt8),k≤8→b.length+k≤1000000→iter (I6 n) (k+1) (b,(k:Int)-1)=some (b++Sy k n):=by
 intro k;induction k with
 |zero=>intro b _ _; refine CF ?_; simp only[I6,Sy,AlB]; rw[Ak1 (by simp)]
 |succ k ih=>
  intro b hk hb;have hw:w64 (8*(((k+1:Nat):Int)-1))=((8*k:Nat):Int):=by rw[Bo (by omega) (by omega)]; omega
  have hw2:w64 ((((k+1:Nat):Int)-1)-1)=(k:Int)-1:=by rw[Bo (by omega) (by omega)]; omega
  rw[B8 (s':=(b++[toB ((EY n (8*k)).toNat:Int)],(k:Int)-1))]
  ·rw[ih _ (by omega) (by simp; omega)]; simp[Sy]
  ·simp only[I6,hw,hw2];rw[Ak3 (All (by omega)),Ak3 (by omega),DQ 1 (by simp; omega) (by simp; omega)];simp only[Aa,AlJ]
theorem Ab4 (n:UInt64)(k:Nat)(b:List UInt8)(hk:k≤8)(hb:b.length≤900000):Gn b n (k:Int)=some (b++Sy k n):=by
 have hw:w64 ((k:Int)-1)=(k:Int)-1:=Bo (by omega) (by omega);simp only[Gn,hw,Gy (k+1) (Ae8 n k b hk (by omega)) (by omega),Aa]
def PW (s:UInt64×UInt64):List UInt8:=Sy 8 s.1++Sy 8 s.2
theorem K3 (s:UInt64×UInt64):(PW s).length=16:=by simp[PW,Kh]
theorem Ve (s:UInt64×UInt64):EG s=some (PW s):=by
 have e0:idx [s.1,s.2] 0=some s.1:=rfl;have e1:idx [s.1,s.2] 1=some s.2:=rfl;have h0:Gn [] s.1 8=some ([]++Sy 8 s.1):=Ab4 s.1 8 [] (by omega) (by simp);have h1:Gn (Sy 8 s.1) s.2 8=some (Sy 8 s.1++Sy 8 s.2):=Ab4 s.2 8 _ (by omega) (by rw[Kh]; omega);simp[EG,CX,MH,e0,e1,h0,h1,PW]
def Aci:List UInt8→List (List UInt8)→List UInt8
 |b,[]=>b
 |b,p::ps=>Aci (b++Sy 4 (toU (p.length:Int))++p) ps
def YK:List (List UInt8)→Nat
 | []=>0
 |p::ps=>4+p.length+YK ps
theorem Ach: ∀(ps:List (List UInt8)) (b:List UInt8),(Aci b ps).length=b.length+YK ps:=by
 intro ps;induction ps with
 |nil=>intro b; rfl
 |cons p ps ih=>intro b; simp only[Aci,ih,YK,Ak5,Kh]; omega
theorem AeJ: ∀(ps:List (List UInt8)) (i:Int) (b:List UInt8),b.length+YK ps≤800000→D1 IU ps i b=some (Aci b ps):=by
 intro ps;induction ps with
 |nil=>intro i b _; rfl
 |cons p ps ih=>
  intro i b h;simp only[YK]at h;have h0:Gn b (toU (p.length:Int)) 4=some (b++Sy 4 (toU (p.length:Int))):=Ab4 _ 4 b (by omega) (by omega);simp only[D1,IU,h0,Aa];rw[DQ 1 (by simp[Kh]; omega) (by simp[Kh]; omega)];simp only[Aa];rw[ih _ _ (by simp[Kh]; omega)];rfl
def AaN (t:ByteArray)(ps:List (List UInt8)):UInt64×UInt64:=hsum (Aci (toB (t.size:Int)::t.data.toList) ps)
theorem KU (t:ByteArray)(ps:List (List UInt8))(h:t.data.toList.length+YK ps≤700000):C7 t ps=some (AaN t ps):=by
 simp only[C7];rw[DQ 1 (by simp at h⊢; omega) (by simp at h⊢; omega)];simp only[Aa];rw[AeJ _ _ _ (by simp at h⊢; omega)];simp only[Aa];rw[sum_eq _ (by rw[Ach]; simp at h⊢; omega)];rfl
def J5 (a b:UInt64×UInt64):UInt64×UInt64:=AaN ⟨#[110,111,100,101]⟩ [PW a,PW b]
theorem Ps (a b:UInt64×UInt64):G6 a b=some (J5 a b):=by
 simp only[G6,Ve,Aa];rw[KU _ _ (by simp[YK,K3])];rfl
theorem Abp {n:Int}(h:0≤n):BB n 1=n/2:=by
 show n.fdiv (2^ (min 1 64))=n/2;rw[Int.fdiv_eq_ediv_of_nonneg _ (by decide)]; rfl
theorem tab_le:(str_0.data.toList.all fun b=>decide (b.toNat≤8))=true:=by kernel_rfl
theorem Aiv:str_0.data.toList.length=256:=by kernel_rfl
theorem Aiw (x:UInt64): ∃b,idx str_0.data.toList ((toB (x.toNat:Int)).toNat:Int)=some b∧b.toNat≤8:=by
 have hlt:(toB (x.toNat:Int)).toNat<str_0.data.toList.length:=by rw[Aiv]; exact(toB (x.toNat:Int)).toNat_lt
 refine⟨str_0.data.toList[(toB (x.toNat:Int)).toNat],Dk (by simp),?_⟩;exact AlW (Alj.1 tab_le _ (List.getElem_mem hlt))
theorem AjB (a:UInt64): ∃r,Fj a=some r∧0≤r∧r≤64:=by
 have h1: ∃x n,(if(decide ((a.toNat:Int)≥4294967296))=true then some ((EY a 32),(32:Int))else some (a,0))=some (x,n)∧0≤n∧n≤32:=by
  split
  ·exact⟨_,_,rfl,by omega,by omega⟩
  ·exact⟨_,_,rfl,by omega,by omega⟩
 obtain⟨x,n,e1,n0,n1⟩:=h1;have h2: ∃y k,(if(decide ((x.toNat:Int)≥65536))=true then some ((EY x 16),(w64 (n+16)))else some (x,n))=some (y,k)∧0≤k∧k≤48:=by
  split
  ·refine⟨_,_,rfl,?_,?_⟩<;>rw[Bo (by omega) (by omega)]<;>omega
  ·exact⟨_,_,rfl,by omega,by omega⟩
 obtain⟨y,k,e2,k0,k1⟩:=h2;have h3: ∃z j,(if(decide ((y.toNat:Int)≥256))=true then some ((EY y 8),(w64 (k+8)))else some (y,k))=some (z,j)∧0≤j∧j≤56:=by
  split
  ·refine⟨_,_,rfl,?_,?_⟩<;>rw[Bo (by omega) (by omega)]<;>omega
  ·exact⟨_,_,rfl,by omega,by omega⟩
 obtain⟨z,j,e3,j0,j1⟩:=h3;obtain⟨b,e4,b1⟩:=Aiw z;refine⟨j+b.toNat,?_,by omega,by omega⟩;simp only[Fj,F0,e1,Aa,e2,e3,e4,Bn];rw[Bo (n:=(b.toNat:Int)) (by omega) (by omega),Bo (by omega) (by omega)]
theorem Afk (a:UInt64): ∃r,Fa a=some r:=⟨_,rfl⟩
theorem Abm (a s:Int): ∃r,Fe a s=some r:=by
 obtain⟨x,hx,x0,_⟩:=AjB (toU (WT a (w64 (s-1))));obtain⟨y,hy⟩:=Afk (toU (BB a x.toNat));exact⟨(x,y),by simp only[Fe,hx,Aa]; rw[Ak3 x0,hy]; rfl⟩
end Go.Proofs.YtnhdojckpcbjeaaGreatDoor
end
section
namespace Go.Gw
open Go
theorem idx_of {α:Type}{xs:List α}{i:Nat}{x:α}(h:xs[i]? =some x):idx xs (i:Int)=some x:=by
 unfold idx; rw[Ak3 (AlP i),AlJ]; exact h
end Go.Gw
end
section
namespace Go.Proofs.YtnhdojckpcbjeaaGreatDoor
open Go Go.Gw Go.Ax
abbrev FP:Nat:=2305843009213693951
theorem VJ {n:Nat}(h:n<18446744073709551616):(toU (n:Int)).toNat=n:=by
 unfold toU;rw[UInt64.toNat_ofNat'];omega
theorem Fb (x:UInt64)(k:Nat)(hk:k≤64):(EY x k).toNat=x.toNat/2^k:=by
 unfold EY;rw[UInt64.toNat_ofNat',Nat.min_eq_left hk];exact AlR (Al1 (Nat.div_le_self _ _) x.toNat_lt)
theorem Afu {p q r s:Nat}(hp:p<4294967296)(hq:q<4294967296)(hr:r<4294967296)(hs:s<4294967296):
  (p*r+((p*s+q*s/4294967296)/4294967296)+(((p*s+q*s/4294967296)%4294967296+q*r)/4294967296))=((p*4294967296+q)*(r*4294967296+s))/18446744073709551616:=by
 have h1:(p*4294967296+q)*(r*4294967296+s)=(p*r)*18446744073709551616+(p*s+q*r)*4294967296+q*s:=by
  rw[Nat.add_mul,Nat.mul_add,Nat.mul_add,Nat.add_mul];have a1:p*4294967296*(r*4294967296)=p*r*18446744073709551616:=by rw[Nat.mul_assoc,Nat.mul_left_comm 4294967296,←Nat.mul_assoc p]
  have a2:p*4294967296*s=p*s*4294967296:=Nat.mul_right_comm _ _ _;have a3:q*(r*4294967296)=q*r*4294967296:=(Nat.mul_assoc _ _ _).symm;rw[a1,a2,a3]; omega
 rw[h1];generalize p*r=A;generalize p*s=B;generalize q*r=C;generalize q*s=D;omega
theorem Acf (a b:UInt64):(phi a b).toNat=(a.toNat*b.toNat)/18446744073709551616:=by
 have ha:=a.toNat_lt;have hb:=b.toNat_lt;have m32: ∀x:UInt64,(x&&&4294967295).toNat=x.toNat%4294967296:=fun x=>by
  rw[UInt64.toNat_and]; exact Nat.and_two_pow_sub_one_eq_mod _ 32
 have s32: ∀x:UInt64,(EY x 32).toNat=x.toNat/4294967296:=fun x=>Fb x 32 (by omega);have hp:a.toNat/4294967296<4294967296:=by omega
 have hq:a.toNat%4294967296<4294967296:=by omega
 have hr:b.toNat/4294967296<4294967296:=by omega
 have hs:b.toNat%4294967296<4294967296:=by omega
 have ea:a.toNat/4294967296*4294967296+a.toNat%4294967296=a.toNat:=Nat.div_add_mod' _ _;have eb:b.toNat/4294967296*4294967296+b.toNat%4294967296=b.toNat:=Nat.div_add_mod' _ _;have key:=Afu hp hq hr hs;rw[ea,eb]at key;have bd: ∀x y:Nat,x<4294967296→y<4294967296→x*y≤18446744065119617025:=fun x y hx hy=>Nat.mul_le_mul (show x≤4294967295 by omega) (show y≤4294967295 by omega);have b1:=bd _ _ hp hr;have b2:=bd _ _ hp hs;have b3:=bd _ _ hq hr;have b4:=bd _ _ hq hs;have ab:a.toNat*b.toNat/18446744073709551616<18446744073709551616:=by
  rw[Nat.div_lt_iff_lt_mul (by omega)];exact Al1 (Nat.mul_le_mul (show a.toNat≤18446744073709551615 by omega) (show b.toNat≤18446744073709551615 by omega)) (by omega)
 unfold phi;dsimp only;rw[←key]at ab⊢;simp only[UInt64.toNat_add,UInt64.toNat_mul,s32,m32];generalize a.toNat/4294967296*(b.toNat/4294967296)=A at*;generalize a.toNat/4294967296*(b.toNat%4294967296)=B at*;generalize a.toNat%4294967296*(b.toNat/4294967296)=C at*;generalize a.toNat%4294967296*(b.toNat%4294967296)=D at*;omega
theorem u_ext {a b:UInt64}(h:a.toNat=b.toNat):a=b:=UInt64.toNat_inj.1 h
section
variable {x4 x5 x7 y u:UInt64}
theorem dq_lt (hd:x7.toNat<4294967296)(hu:u.toNat<y.toNat):(u.toNat*4294967296+x7.toNat)/y.toNat<4294967296:=by
 rw[Nat.div_lt_iff_lt_mul (by omega)];have:(u.toNat+1)*4294967296≤y.toNat*4294967296:=Nat.mul_le_mul_right _ hu;omega
theorem dcond {q r:UInt64}(h1:2147483648≤x4.toNat∧x4.toNat<4294967296)(h0:x5.toNat<4294967296)(hd:x7.toNat<4294967296)(hy:y.toNat=x4.toNat*4294967296+x5.toNat)(hu:u.toNat<y.toNat)
  (hq:q.toNat*x4.toNat+r.toNat=u.toNat) (hr:r.toNat<4294967296):
  (((decide ((q.toNat:Int)≥4294967296))||(decide (((q*x5).toNat:Int)>(((4294967296*r)+x7).toNat:Int))))=true↔(u.toNat*4294967296+x7.toNat)/y.toNat<q.toNat):=by
 have hlt:=dq_lt hd hu;have e1:((4294967296*r)+x7).toNat=4294967296*r.toNat+x7.toNat:=by
  rw[UInt64.toNat_add,UInt64.toNat_mul,show(4294967296:UInt64).toNat=4294967296 from rfl]; omega
 rw[AlO,Ak7,Ak7,e1];by_cases hb:4294967296≤q.toNat
 ·constructor
  ·intro _; omega
  ·intro _; left; omega
 ·have hB:q.toNat*x5.toNat≤4294967295*4294967295:=Nat.mul_le_mul (by omega) (by omega);have e2:(q*x5).toNat=q.toNat*x5.toNat:=by rw[UInt64.toNat_mul]; omega
  have e3:q.toNat*y.toNat=q.toNat*x4.toNat*4294967296+q.toNat*x5.toNat:=by rw[hy,Nat.mul_add,Nat.mul_assoc]
  rw[e2,Nat.div_lt_iff_lt_mul (by omega),e3];generalize q.toNat*x4.toNat=A at*;generalize q.toNat*x5.toNat=B at*;omega
theorem dstep {q r:UInt64}(h1:2147483648≤x4.toNat∧x4.toNat<4294967296)(h0:x5.toNat<4294967296)(hd:x7.toNat<4294967296)(hy:y.toNat=x4.toNat*4294967296+x5.toNat)(hu:u.toNat<y.toNat)
  (hq:q.toNat*x4.toNat+r.toNat=u.toNat) (hr:r.toNat<4294967296) (hq2:q.toNat≤4294967297) (hc:(u.toNat*4294967296+x7.toNat)/y.toNat<q.toNat):
  (q-1).toNat=q.toNat-1∧(r+x4).toNat=r.toNat+x4.toNat∧(q-1).toNat*x4.toNat+(r+x4).toNat=u.toNat∧(u.toNat*4294967296+x7.toNat)/y.toNat≤(q-1).toNat∧
  (4294967296≤(r+x4).toNat→(q-1).toNat=(u.toNat*4294967296+x7.toNat)/y.toNat):=by
 have q1:1≤q.toNat:=Al1 (Ama _) hc;have e1:(q-1).toNat=q.toNat-1:=by rw[UInt64.toNat_sub_of_le _ _ (by rw[UInt64.le_iff_toNat_le]; exact q1)]; rfl
 have e2:(r+x4).toNat=r.toNat+x4.toNat:=by rw[UInt64.toNat_add]; omega
 have e3:(q.toNat-1)*x4.toNat+x4.toNat=q.toNat*x4.toNat:=by
  rw[←Nat.succ_mul]; congr 1; omega
 refine⟨e1,e2,by rw[e1,e2,Al9 r.toNat,←Amb,e3,hq],by rw[e1]; exact Nat.le_sub_one_of_lt hc,fun hb=> ?_⟩;rw[e2]at hb;refine Nat.le_antisymm ?_ (by rw[e1]; exact Nat.le_sub_one_of_lt hc);rw[e1,Nat.le_div_iff_mul_le (Al1 (Ama _) hu)];clear hc e1 e2;have hB:(q.toNat-1)*x5.toNat≤4294967296*4294967295:=Nat.mul_le_mul (by omega) (by omega);have e4:(q.toNat-1)*y.toNat=(q.toNat-1)*x4.toNat*4294967296+(q.toNat-1)*x5.toNat:=by rw[hy,Nat.mul_add,Nat.mul_assoc]
 rw[e4];generalize (q.toNat-1)*x4.toNat=A at*;generalize (q.toNat-1)*x5.toNat=B at*;generalize q.toNat*x4.toNat=C at*;omega
theorem dloop1 (h1:2147483648≤x4.toNat∧x4.toNat<4294967296)(h0:x5.toNat<4294967296)(hd:x7.toNat<4294967296)(hy:y.toNat=x4.toNat*4294967296+x5.toNat)(hu:u.toNat<y.toNat):
  ∀(n:Nat) (q r:UInt64),q.toNat*x4.toNat+r.toNat=u.toNat→r.toNat<4294967296→q.toNat≤4294967297→(u.toNat*4294967296+x7.toNat)/y.toNat≤q.toNat→4294967296≤r.toNat+n*2147483648→
   ∃p,iter (F4 x4 x5 x7) (n+1) (q,r)=some p∧p.toNat=(u.toNat*4294967296+x7.toNat)/y.toNat:=by
 intro n;induction n with
 |zero=>intro q r _ hr _ _ hn; omega
 |succ n ih=>
  intro q r hq hr hq2 hle hn;have hc:=dcond h1 h0 hd hy hu hq hr;by_cases hcc:(u.toNat*4294967296+x7.toNat)/y.toNat<q.toNat
  ·obtain⟨s1,s2,s3,s4,s5⟩:=dstep h1 h0 hd hy hu hq hr hq2 hcc;by_cases hb:4294967296≤(r+x4).toNat
   ·refine⟨q-1,CF ?_,s5 hb⟩;unfold F4;rw[Ak3 (hc.2 hcc),Ak3 (by rw[Ak7]; dsimp only; omega)]
   ·obtain⟨p,p1,p2⟩:=ih (q-1) (r+x4) s3 (by omega) (by omega) s4 (by omega);refine⟨p,?_,p2⟩;rw[B8 (s':=(q-1,r+x4)),p1];unfold F4;rw[Ak3 (hc.2 hcc),Ak1 (by rw[Ak7]; dsimp only; omega)]
  ·refine⟨q,CF ?_,by omega⟩;unfold F4;rw[Ak1 (fun h=>hcc (hc.1 h))]
theorem dloop2 (h1:2147483648≤x4.toNat∧x4.toNat<4294967296)(h0:x5.toNat<4294967296)(hd:x7.toNat<4294967296)(hy:y.toNat=x4.toNat*4294967296+x5.toNat)(hu:u.toNat<y.toNat):
  ∀(n:Nat) (q r:UInt64),q.toNat*x4.toNat+r.toNat=u.toNat→r.toNat<4294967296→q.toNat≤4294967297→(u.toNat*4294967296+x7.toNat)/y.toNat≤q.toNat→4294967296≤r.toNat+n*2147483648→
   ∃p,iter (F3 x4 x5 x7) (n+1) (r,q)=some p∧p.toNat=(u.toNat*4294967296+x7.toNat)/y.toNat:=by
 intro n;induction n with
 |zero=>intro q r _ hr _ _ hn; omega
 |succ n ih=>
  intro q r hq hr hq2 hle hn;have hc:=dcond h1 h0 hd hy hu hq hr;by_cases hcc:(u.toNat*4294967296+x7.toNat)/y.toNat<q.toNat
  ·obtain⟨s1,s2,s3,s4,s5⟩:=dstep h1 h0 hd hy hu hq hr hq2 hcc;by_cases hb:4294967296≤(r+x4).toNat
   ·refine⟨q-1,CF ?_,s5 hb⟩;unfold F3;rw[Ak3 (hc.2 hcc),Ak3 (by rw[Ak7]; dsimp only; omega)]
   ·obtain⟨p,p1,p2⟩:=ih (q-1) (r+x4) s3 (by omega) (by omega) s4 (by omega);refine⟨p,?_,p2⟩;rw[B8 (s':=(r+x4,q-1)),p1];unfold F3;rw[Ak3 (hc.2 hcc),Ak1 (by rw[Ak7]; dsimp only; omega)]
  ·refine⟨q,CF ?_,by omega⟩;unfold F3;rw[Ak1 (fun h=>hcc (hc.1 h))]
theorem AhT (h1:2147483648≤x4.toNat∧x4.toNat<4294967296)(h0:x5.toNat<4294967296)(hd:x7.toNat<4294967296)(hy:y.toNat=x4.toNat*4294967296+x5.toNat)(hu:u.toNat<y.toNat):
  (u/x4).toNat*x4.toNat+(u-(u/x4)*x4).toNat=u.toNat∧(u-(u/x4)*x4).toNat<4294967296∧(u/x4).toNat≤4294967297∧(u.toNat*4294967296+x7.toNat)/y.toNat≤(u/x4).toNat:=by
 have e1:(u/x4).toNat=u.toNat/x4.toNat:=UInt64.toNat_div _ _;have hmul:u.toNat/x4.toNat*x4.toNat≤u.toNat:=Nat.div_mul_le_self _ _;have hul:=u.toNat_lt;have e2:((u/x4)*x4).toNat=u.toNat/x4.toNat*x4.toNat:=by rw[UInt64.toNat_mul,e1]; omega
 have e3:(u-(u/x4)*x4).toNat=u.toNat-u.toNat/x4.toNat*x4.toNat:=by
  rw[UInt64.toNat_sub_of_le _ _ (by rw[UInt64.le_iff_toNat_le,e2]; exact hmul),e2]
 have e4:u.toNat-u.toNat/x4.toNat*x4.toNat=u.toNat%x4.toNat:=by
  have:=Nat.div_add_mod' u.toNat x4.toNat; omega
 have e5:=Al4 u.toNat (show 0<x4.toNat by omega);refine⟨by rw[e1,e3]; omega,by rw[e3,e4]; omega,?_,?_⟩
 ·rw[e1];have:u.toNat/x4.toNat<4294967298:=by
   rw[Nat.div_lt_iff_lt_mul (by omega)];omega
  omega
 ·rw[e1,Nat.le_div_iff_mul_le (by omega)];have h2:(u.toNat*4294967296+x7.toNat)/y.toNat*y.toNat≤u.toNat*4294967296+x7.toNat:=Nat.div_mul_le_self _ _;generalize (u.toNat*4294967296+x7.toNat)/y.toNat=Q at*;have h3:Q*y.toNat=Q*x4.toNat*4294967296+Q*x5.toNat:=by rw[hy,Nat.mul_add,Nat.mul_assoc]
  rw[h3]at h2;generalize Q*x4.toNat=A at*;generalize Q*x5.toNat=B at*;omega
theorem drest {q:UInt64}(hu:u.toNat<y.toNat)(hq:q.toNat=(u.toNat*4294967296+x7.toNat)/y.toNat):(((u*4294967296)+x7)-(q*y)).toNat=(u.toNat*4294967296+x7.toNat)%y.toNat:=by
 have hyl:=y.toNat_lt;have hm:=Al4 (u.toNat*4294967296+x7.toNat) (show 0<y.toNat by omega);have hdm:=Nat.div_add_mod' (u.toNat*4294967296+x7.toNat) y.toNat;rw[UInt64.toNat_sub,UInt64.toNat_add,UInt64.toNat_mul,UInt64.toNat_mul,hq,show(4294967296:UInt64).toNat=4294967296 from rfl];generalize (u.toNat*4294967296+x7.toNat)/y.toNat*y.toNat=Z at*;omega
end
theorem Qw {x:UInt64}{k:Nat}(hk:k≤63):(L4 x k).toNat=(x.toNat*2^k)%18446744073709551616:=by
 unfold L4;rw[Nat.min_eq_left (by omega),show(x.toNat:Int)*2^k=((x.toNat*2^k:Nat):Int)from by simp];unfold toU;rw[UInt64.toNat_ofNat'];generalize x.toNat*2^k=z;omega
theorem or_nat {a b k:Nat}(h:b<2^k):a*2^k|||b=a*2^k+b:=by
 rw[Al2]; exact(Nat.two_pow_add_eq_or_of_lt h a).symm
theorem Zk {hi lo y0:UInt64}{s:Nat}(hs:s≤63)(hlz:Eg y0=some (s:Int))(hn1:9223372036854775808≤y0.toNat*2^s)(hn2:y0.toNat*2^s<18446744073709551616)(hh:hi.toNat<y0.toNat):
  ∃q r,II hi lo y0=some (q,r)∧r.toNat=(hi.toNat*18446744073709551616+lo.toNat)%y0.toNat:=by
 have hyne:y0≠0:=fun e=>by rw[e]at hh; simp at hh
 unfold II;rw[Ak1 (by rw[AlM]; omega),Aa,Ak1 (by rw[Ak7]; omega),Aa];by_cases hz:hi.toNat=0
 ·rw[Ak3 (by rw[AlM]; omega),Ak3 hyne,Ak3 hyne];refine⟨_,_,rfl,?_⟩;rw[UInt64.toNat_mod,hz]; simp
 ·have hts:(toU (s:Int)).toNat=s:=VJ (by omega);have h64:(64-toU (s:Int)).toNat=64-s:=by
   rw[UInt64.toNat_sub_of_le _ _ (by rw[UInt64.le_iff_toNat_le,hts]; show s≤64; omega),hts]; rfl
  rw[Ak1 (by rw[AlM]; omega),hlz,Aa,hts,h64];simp only[Bn];have hps:0<2^s:=Nat.two_pow_pos s;have hpp:2^s*2^ (64-s)=18446744073709551616:=by rw[←Nat.pow_add,show s+(64-s)=64 from by omega]
  have hY:(L4 y0 s).toNat=y0.toNat*2^s:=by rw[Qw (by omega)]; exact AlR hn2
  have hlo:=lo.toNat_lt;have hlod:lo.toNat/2^ (64-s)<2^s:=by rw[Nat.div_lt_iff_lt_mul (Nat.two_pow_pos _),hpp]; omega
  have hhs:hi.toNat*2^s+2^s≤y0.toNat*2^s:=by rw[←Nat.succ_mul]; exact Nat.mul_le_mul_right _ hh
  have hU:((L4 hi s)|||(EY lo (64-s))).toNat=hi.toNat*2^s+lo.toNat/2^ (64-s):=by
   rw[UInt64.toNat_or,Qw (by omega),Fb _ _ (by omega),AlR (by omega),or_nat hlod]
  have hL:(L4 lo s).toNat=(lo.toNat*2^s)%18446744073709551616:=Qw (by omega);have m32: ∀x:UInt64,(x&&&4294967295).toNat=x.toNat%4294967296:=fun x=>by
   rw[UInt64.toNat_and]; exact Nat.and_two_pow_sub_one_eq_mod _ 32
  have s32: ∀x:UInt64,(EY x 32).toNat=x.toNat/4294967296:=fun x=>Fb x 32 (by omega);have hlos:lo.toNat*2^s=lo.toNat/2^ (64-s)*18446744073709551616+(lo.toNat*2^s)%18446744073709551616:=by
   have e1:lo.toNat*2^s/18446744073709551616=lo.toNat/2^ (64-s):=by
    rw[←hpp,Al2,Nat.mul_div_mul_left _ _ hps]
   rw[←e1]; exact(Nat.div_add_mod' _ _).symm
  have hN:(hi.toNat*18446744073709551616+lo.toNat)*2^s=(hi.toNat*2^s+lo.toNat/2^ (64-s))*18446744073709551616+(lo.toNat*2^s)%18446744073709551616:=by
   rw[Nat.add_mul,hlos,Nat.add_mul,Nat.mul_right_comm];omega
  generalize hgy:L4 y0 s=y at*;generalize hgu:(L4 hi s)|||(EY lo (64-s))=u at*;generalize hgl:L4 lo s=l at*;have hyl:=y.toNat_lt;have a1:2147483648≤(EY y 32).toNat∧(EY y 32).toNat<4294967296:=by rw[s32]; omega
  have a0:(y&&&4294967295).toNat<4294967296:=by rw[m32]; omega
  have ay:y.toNat=(EY y 32).toNat*4294967296+(y&&&4294967295).toNat:=by rw[s32,m32]; omega
  have ad:(EY l 32).toNat<4294967296:=by rw[s32]; have:=l.toNat_lt; omega
  have ae:(l&&&4294967295).toNat<4294967296:=by rw[m32]; omega
  have au:u.toNat<y.toNat:=by rw[hU,hY]; omega
  have hx4:EY y 32≠0:=fun e=>by rw[e]at a1; simp at a1
  obtain⟨b1,b2,b3,b4⟩:=AhT a1 a0 ad ay au;obtain⟨q1,c1,c2⟩:=dloop1 a1 a0 ad ay au 2 _ _ b1 b2 b3 b4 (by omega);have hr1:=drest au c2;have hr1l:=Al4 (u.toNat*4294967296+(EY l 32).toNat) (show 0<y.toNat by omega);rw[Ak3 hx4,Gy _ c1 (by omega),Aa,Aa,Ak3 hx4];generalize hgv:((u*4294967296)+(EY l 32))-(q1*y)=v at*;have av:v.toNat<y.toNat:=by omega
  obtain⟨d1,d2,d3,d4⟩:=AhT a1 a0 ae ay av;obtain⟨q0,e1,e2⟩:=dloop2 a1 a0 ae ay av 2 _ _ d1 d2 d3 d4 (by omega);have hr0:=drest av e2;rw[Gy _ e1 (by omega),Aa,Aa];refine⟨_,_,rfl,?_⟩;rw[Fb _ _ (by omega),hr0,hr1];have f1:(((u.toNat*4294967296+(EY l 32).toNat)%y.toNat)*4294967296+(l&&&4294967295).toNat)%y.toNat=((hi.toNat*18446744073709551616+lo.toNat)*2^s)%y.toNat:=by
   rw[Nat.add_mod,Nat.mod_mul_mod,←Nat.add_mod,hN,←hU,←hL,s32,m32];have e9:(u.toNat*4294967296+l.toNat/4294967296)*4294967296+l.toNat%4294967296=u.toNat*18446744073709551616+l.toNat:=by omega
   rw[e9]
  rw[f1,hY,Nat.mul_mod_mul_right,Nat.mul_div_cancel _ hps]
abbrev GQ:Nat:=2305843009213691579
abbrev GR:Nat:=1152921504606845789
def Dv (y:UInt64):Prop:= ∃s:Nat,s≤63∧Eg y=some (s:Int)∧9223372036854775808≤y.toNat*2^s∧y.toNat*2^s<18446744073709551616
theorem dvQ:Dv 2305843009213691579:=⟨3,by omega,by kernel_rfl,by decide,by decide⟩
theorem dvR:Dv 1152921504606845789:=⟨4,by omega,by kernel_rfl,by decide,by decide⟩
theorem dvR1:Dv 1152921504606845788:=⟨4,by omega,by kernel_rfl,by decide,by decide⟩
theorem Dv.pos {y:UInt64}(h:Dv y):0<y.toNat:=by
 obtain⟨s,_,_,h1,_⟩:=h;by_cases e:y.toNat=0
 ·rw[e]at h1; simp at h1
 ·omega
theorem Ahd {y:UInt64}(h:Dv y)(hi lo:UInt64): ∃z,Hh hi lo y=some z∧z.toNat=(hi.toNat*18446744073709551616+lo.toNat)%y.toNat:=by
 have hpos:=h.pos;obtain⟨s,h1,h2,h3,h4⟩:=h;have hyne:y≠0:=fun e=>by rw[e]at hpos; simp at hpos
 have hm:(hi%y).toNat=hi.toNat%y.toNat:=UInt64.toNat_mod _ _;obtain⟨q,r,e1,e2⟩:=Zk (hi:=hi%y) (lo:=lo) h1 h2 h3 h4 (by rw[hm]; exact Al4 _ hpos);refine⟨r,?_,?_⟩
 ·unfold Hh;rw[Ak3 hyne,e1,Aa]
 ·rw[e2,hm,Nat.add_mod,Nat.mod_mul_mod,←Nat.add_mod]
def ofN (n:Nat):UInt64:=UInt64.ofNat n
theorem Acs {n:Nat}(h:n<18446744073709551616):(ofN n).toNat=n:=by
 unfold ofN; rw[UInt64.toNat_ofNat']; exact AlR h
theorem UF (n:Nat){y:UInt64}(h:0<y.toNat):(ofN (n%y.toNat)).toNat=n%y.toNat:=Acs (Al7 (Al4 _ h) (Nat.le_of_lt y.toNat_lt))
theorem YS {z:UInt64}{n:Nat}(h:z.toNat=n):z=ofN n:=by
 rw[←h]; exact u_ext (Acs z.toNat_lt).symm
def V6 (y a b:UInt64):UInt64:=ofN ((a.toNat*b.toNat)%y.toNat)
theorem QA {y:UInt64}(h:Dv y)(a b:UInt64):(V6 y a b).toNat=(a.toNat*b.toNat)%y.toNat:=UF _ h.pos
theorem KZ {y:UInt64}(h:Dv y)(a b:UInt64):C3 y a b=some (V6 y a b):=by
 obtain⟨z,e1,e2⟩:=Ahd h (phi a b) (a*b);unfold C3;rw[UJ,Aa,e1,Aa];rw[Acf,UInt64.toNat_mul,Nat.div_add_mod']at e2;rw[YS e2]; rfl
def addM (y a b:UInt64):UInt64:=ofN ((a.toNat+b.toNat)%y.toNat)
theorem ZC {y:UInt64}(h:Dv y)(a b:UInt64):(addM y a b).toNat=(a.toNat+b.toNat)%y.toNat:=UF _ h.pos
theorem WJ (a b:UInt64):(JW a b).toNat*18446744073709551616+(a+b).toNat=a.toNat+b.toNat:=by
 have:=a.toNat_lt;have:=b.toNat_lt;unfold JW;rw[UInt64.toNat_ofNat',UInt64.toNat_add];omega
theorem ZY {y:UInt64}(h:Dv y)(a b:UInt64):ED y a b=some (addM y a b):=by
 have hpos:=h.pos;have hyne:y≠0:=fun e=>by rw[e]at hpos; simp at hpos
 obtain⟨z,e1,e2⟩:=Ahd h (JW (a%y) (b%y)) ((a%y)+(b%y));unfold ED;rw[Ak3 hyne,Ak3 hyne,e1,Aa];rw[WJ,UInt64.toNat_mod,UInt64.toNat_mod,←Nat.add_mod]at e2;rw[YS e2]; rfl
theorem Ajl {P d r c sm t:Nat}(hP:d*18446744073709551616+r=P)(hr:r<18446744073709551616)(hd:d<2305843009213693952)(hc:c*18446744073709551616+sm=r+t)(ht:t<18446744073709551616):
  ((d+c)%18446744073709551616)*18446744073709551616+sm=P+t:=by
 have h1:c≤1:=by omega
 rw[AlR (show d+c<18446744073709551616 by omega),Nat.add_mul,←hP,Amb,hc,Amb]
def Ahm (s:UInt64×UInt64)(y:UInt64):UInt64:=ofN ((s.1.toNat*2305843009213693952+s.2.toNat)%y.toNat)
theorem YT {y:UInt64}(h:Dv y)(s:UInt64×UInt64):(Ahm s y).toNat=(s.1.toNat*2305843009213693952+s.2.toNat)%y.toNat:=UF _ h.pos
theorem Ahl {y:UInt64}(h:Dv y)(s:UInt64×UInt64):H9 s y=some (Ahm s y):=by
 have hpos:=h.pos;have hyne:y≠0:=fun e=>by rw[e]at hpos; simp at hpos
 obtain⟨t,h1,h2,h3,h4⟩:=h;have hp:(phi s.1 2305843009213693952).toNat=s.1.toNat*2305843009213693952/18446744073709551616:=Acf _ _;have hl:(s.1*2305843009213693952).toNat=s.1.toNat*2305843009213693952%18446744073709551616:=UInt64.toNat_mul _ _;have hs1:=s.1.toNat_lt;have hs2:=s.2.toNat_lt;have hc:=WJ (s.1*2305843009213693952) s.2;have hsum:(phi s.1 2305843009213693952+JW (s.1*2305843009213693952) s.2).toNat*18446744073709551616+(s.1*2305843009213693952+s.2).toNat=s.1.toNat*2305843009213693952+s.2.toNat:=by
  rw[UInt64.toNat_add,hp];rw[hl]at hc;have hdl:s.1.toNat*2305843009213693952/18446744073709551616<2305843009213693952:=by
   rw[Nat.div_lt_iff_lt_mul (by decide),Al2 (2305843009213693952)];exact Nat.mul_lt_mul_of_pos_right hs1 (by decide)
  exact Ajl (Nat.div_add_mod' _ _) (Al4 _ (by decide)) hdl hc hs2
 have hm:((phi s.1 2305843009213693952+JW (s.1*2305843009213693952) s.2)%y).toNat=(phi s.1 2305843009213693952+JW (s.1*2305843009213693952) s.2).toNat%y.toNat:=UInt64.toNat_mod _ _;obtain⟨q,r,e1,e2⟩:=Zk (hi:=(phi s.1 2305843009213693952+JW (s.1*2305843009213693952) s.2)%y) (lo:=s.1*2305843009213693952+s.2) h1 h2 h3 h4 (by rw[hm]; exact Al4 _ hpos);unfold H9;rw[Ak1 (by rw[AlM]; omega),UJ,Aa,Ak3 hyne];dsimp only;rw[e1,Aa];rw[hm,Nat.add_mod,Nat.mod_mul_mod,←Nat.add_mod,hsum]at e2;rw[YS e2]; rfl
theorem AeM:((List.range 256).all fun n=>decide (n<2^ (str_0.data.toList.getD n 0).toNat)&&decide ((str_0.data.toList.getD n 0).toNat≤8))=true:=by kernel_rfl
theorem AeL:str_0.data.toList.length=256:=by kernel_rfl
theorem tabL (x:UInt64)(hx:x.toNat<256): ∃b,idx str_0.data.toList ((toB (x.toNat:Int)).toNat:Int)=some b∧x.toNat<2^b.toNat∧b.toNat≤8:=by
 have hb:(toB (x.toNat:Int)).toNat=x.toNat:=by unfold toB; rw[UInt8.toNat_ofNat']; omega
 have h:=Alj.1 AeM x.toNat (List.mem_range.2 hx);rw[AkZ,Ak7,Ak7]at h;have hlt:x.toNat<str_0.data.toList.length:=by rw[AeL]; exact hx
 rw[List.getD_eq_getElem?_getD,AlK hlt,Option.getD_some]at h;rw[hb];exact⟨str_0.data.toList[x.toNat],Dk (by simp),h.1,h.2⟩
theorem AfK (a:UInt64): ∃L:Nat,F0 a=some (L:Int)∧a.toNat<2^L∧L≤64:=by
 have ha:=a.toNat_lt;have h1: ∃(x:UInt64) (n:Nat),(if(decide ((a.toNat:Int)≥4294967296))=true then some ((EY a 32),(32:Int))else some (a,0))=some (x,(n:Int))∧n≤32∧x.toNat<4294967296∧a.toNat<(x.toNat+1)*2^n:=by
  split
  ·refine⟨EY a 32,32,rfl,by omega,?_,?_⟩<;>rw[Fb a 32 (by omega)]<;>omega
  ·rename_i h; rw[Ak7]at h; exact⟨a,0,rfl,by omega,by omega,by omega⟩
 obtain⟨x,n,e1,n1,hx,hn⟩:=h1;have h2: ∃(y:UInt64) (k:Nat),(if(decide ((x.toNat:Int)≥65536))=true then some ((EY x 16),(w64 ((n:Int)+16)))else some (x,(n:Int)))=some (y,(k:Int))∧k≤48∧y.toNat<65536∧a.toNat<(y.toNat+1)*2^k:=by
  split
  ·refine⟨EY x 16,n+16,by rw[Bo (by omega) (by omega)]; rfl,by omega,?_,?_⟩
   ·rw[Fb x 16 (by omega)]; omega
   ·rw[Fb x 16 (by omega),Nat.pow_add];refine Al7 hn ?_;have:x.toNat+1≤(x.toNat/2^16+1)*2^16:=by omega
    calc (x.toNat+1)*2^n≤((x.toNat/2^16+1)*2^16)*2^n:=Nat.mul_le_mul_right _ this
     _=(x.toNat/2^16+1)*(2^n*2^16):=by rw[Nat.mul_assoc,Al2 (2^16)]
  ·rename_i h; rw[Ak7]at h; exact⟨x,n,rfl,by omega,by omega,hn⟩
 obtain⟨y,k,e2,k1,hy,hk⟩:=h2;have h3: ∃(z:UInt64) (j:Nat),(if(decide ((y.toNat:Int)≥256))=true then some ((EY y 8),(w64 ((k:Int)+8)))else some (y,(k:Int)))=some (z,(j:Int))∧j≤56∧z.toNat<256∧a.toNat<(z.toNat+1)*2^j:=by
  split
  ·refine⟨EY y 8,k+8,by rw[Bo (by omega) (by omega)]; rfl,by omega,?_,?_⟩
   ·rw[Fb y 8 (by omega)]; omega
   ·rw[Fb y 8 (by omega),Nat.pow_add];refine Al7 hk ?_;have:y.toNat+1≤(y.toNat/2^8+1)*2^8:=by omega
    calc (y.toNat+1)*2^k≤((y.toNat/2^8+1)*2^8)*2^k:=Nat.mul_le_mul_right _ this
     _=(y.toNat/2^8+1)*(2^k*2^8):=by rw[Nat.mul_assoc,Al2 (2^8)]
  ·rename_i h; rw[Ak7]at h; exact⟨y,k,rfl,by omega,by omega,hk⟩
 obtain⟨z,j,e3,j1,hz,hj⟩:=h3;obtain⟨b,e4,b1,b2⟩:=tabL z hz;refine⟨j+b.toNat,?_,?_,by omega⟩
 ·unfold F0;rw[e1,Aa];dsimp only;rw[e2,Aa];dsimp only;rw[e3,Aa,e4,Aa,Bn,Bo (n:=(b.toNat:Int)) (by omega) (by omega),Bo (by omega) (by omega)]; rfl
 ·refine Al7 hj ?_;rw[Al9 j,Nat.pow_add];exact Nat.mul_le_mul_right _ b1
def Sc (y a n:UInt64):UInt64:=ofN (a.toNat^n.toNat%y.toNat)
theorem Uy {y:UInt64}(h:Dv y)(a n:UInt64):(Sc y a n).toNat=a.toNat^n.toNat%y.toNat:=UF _ h.pos
theorem AkU (n j:Nat):n&&&2^j=(n.testBit j).toNat*2^j:=by
 apply Nat.eq_of_testBit_eq;intro i;rw[Nat.testBit_and,Nat.testBit_two_pow];by_cases h:j=i
 ·subst h;cases hb:n.testBit j<;>simp[hb,Nat.testBit_two_pow_self]
 ·cases hb:n.testBit j<;>simp[h,Nat.testBit_two_pow]
theorem bit_eq (n:UInt64){j:Nat}(hj:j≤63):(((n&&&(L4 1 j)).toNat:Int) !=0)=decide (n.toNat/2^j%2=1):=by
 have h1:(L4 1 j).toNat=2^j:=by
  rw[Qw hj,show(1:UInt64).toNat=1 from rfl,Nat.one_mul];exact AlR (Al1 (Nat.pow_le_pow_right (by omega) hj) (by decide))
 have h2:(n&&&(L4 1 j)).toNat=(n.toNat.testBit j).toNat*2^j:=by rw[UInt64.toNat_and,h1,AkU]
 rw[h2];have hp:=Nat.two_pow_pos j;rw[Nat.testBit_eq_decide_div_mod_eq];by_cases hb:n.toNat/2^j%2=1
 ·simp only[hb,decide_true,Bool.toNat_true,Nat.one_mul];rw[bne_iff_ne]; omega
 ·simp only[hb,decide_false,Bool.toNat_false,Nat.zero_mul]; rfl
theorem pow_it (a n:UInt64): ∀(j:Nat) (out:UInt64),j≤64→out.toNat=a.toNat^ (n.toNat/2^j)% (2305843009213691579:UInt64).toNat→
  ∃r,iter (Dl (fun(s:UInt64) (b0:Bool)=>Ab (CW a b0 s) fun z=>some (true,z)) n) (j+1) ((j:Int)-1,out)=some (.inl r)∧r.toNat=a.toNat^n.toNat% (2305843009213691579:UInt64).toNat:=by
 have h:=dvQ;unfold CW;generalize (2305843009213691579:UInt64)=y at*;intro j;induction j with
 |zero=>
  intro out _ ho;refine⟨out,CF ?_,by rw[ho]; simp⟩;unfold Dl;rw[Ak1 (by simp)]
 |succ j ih=>
  intro out hj ho;have hw:w64 ((((j+1:Nat):Int)-1)-1)=(j:Int)-1:=by rw[Bo (by omega) (by omega)]; omega
  have hk:(((j+1:Nat):Int)-1).toNat=j:=by omega
  have hbit:=bit_eq n (j:=j) (by omega);have hdiv:n.toNat/2^ (j+1)=n.toNat/2^j/2:=by rw[Al6,Nat.div_div_eq_div_mul]
  have hsq:(V6 y out out).toNat=a.toNat^ (2*(n.toNat/2^ (j+1)))%y.toNat:=by
   rw[QA h,ho,←Nat.mul_mod,←Nat.pow_add,←Nat.two_mul]
  by_cases hb:n.toNat/2^j%2=1
  ·have hn:(V6 y (V6 y out out) a).toNat=a.toNat^ (n.toNat/2^j)%y.toNat:=by
    rw[QA h,hsq,Nat.mod_mul_mod,←Al6];congr 2; omega
   obtain⟨r,r1,r2⟩:=ih (V6 y (V6 y out out) a) (by omega) hn;refine⟨r,?_,r2⟩;rw[B8 (s':=((j:Int)-1,V6 y (V6 y out out) a)),r1];unfold Dl;dsimp only;rw[Ak3 (by rw[Ak7]; omega),Ak3 (by omega),hk,hbit];simp only[KZ h,Aa,hb,decide_true,if_true,AlX,Bool.false_eq_true,if_false,hw]
  ·have hn:(V6 y out out).toNat=a.toNat^ (n.toNat/2^j)%y.toNat:=by
    rw[hsq]; congr 2; omega
   obtain⟨r,r1,r2⟩:=ih (V6 y out out) (by omega) hn;refine⟨r,?_,r2⟩;rw[B8 (s':=((j:Int)-1,V6 y out out)),r1];unfold Dl;dsimp only;rw[Ak3 (by rw[Ak7]; omega),Ak3 (by omega),hk,hbit];simp only[KZ h,Aa,hb,decide_false,AlX,Bool.false_eq_true,if_false,hw]
theorem Rk (a n:UInt64):Dx a n=some (Sc 2305843009213691579 a n):=by
 unfold Dx;obtain⟨L,e1,e2,e3⟩:=AfK n;have hw:w64 ((L:Int)-1)=(L:Int)-1:=Bo (by omega) (by omega);obtain⟨r,r1,r2⟩:=pow_it a n L 1 e3 (by rw[Nat.div_eq_of_lt e2]; simp);have r1':=Gy _ r1 (by omega);unfold ET Ib;rw[show JP n=some n from rfl,Aa,e1,Aa,hw,r1',Aa];simp only[Aa];rw[YS r2]; rfl
theorem Vh (n:UInt64):Ec n=some (Sc 2305843009213691579 4 n):=by
 unfold Ec;rw[Rk,Aa]
theorem Akx: ∀(n:Nat) (a l:Int),0≤a→a<2^n→∃r,iter Bb (n+1) (a,l)=some r∧0≤r.1∧r.1≤a:=by
 intro n;induction n with
 |zero=>
  intro a l h0 h1;have:a=0:=by have:(2:Int)^0=1:=rfl; omega
  subst this;refine⟨(0,l),CF ?_,by simp,by simp⟩;simp only[Bb];rw[Ak1 (by simp)]
 |succ n ih=>
  intro a l h0 h1;by_cases hc:((Jj a 1==0)&&(a !=0))=true
  ·have h2:a/2<2^n:=by
    have:(2:Int)^ (n+1)=2*2^n:=by rw[Int.pow_succ]; omega
    omega
   obtain⟨r,hr,e1,e2⟩:=ih (a/2) (BB l 1) (by omega) h2;refine⟨r,?_,e1,by omega⟩;rw[B8 (s':=(a/2,BB l 1))]
   ·exact hr
   ·simp only[Bb,hc,if_true,Abp h0]
  ·refine⟨(a,l),CF ?_,h0,by simp⟩;simp only[Bb];rw[Ak1 hc]
theorem Aky (i:Int)(x:UInt64×UInt64)(s:Int×Int×UInt64×UInt64)(h0:0≤s.1)(h1:s.1≤256):
  ∃r,Bc i x s=some r∧0≤r.1∧r.1≤256:=by
 obtain⟨a,l,u,v⟩:=s;simp only at h0 h1;unfold Bc;by_cases hc:((Jj a 1==0)&&(a !=l))=true
 ·refine⟨(BB a 1,BB l 1,J5 (u,v) x),?_,by rw[Abp h0]; simp; omega,by rw[Abp h0]; simp; omega⟩;simp only[hc,if_true,GS,Ps,Aa]
 ·obtain⟨q,hq,q0,q1⟩:=Akx 9 a l h0 (by omega);have hq':=Gy _ hq (by omega);refine⟨(BB q.1 1,BB q.2 1,J5 x (u,v)),?_,by rw[Abp q0]; simp; omega,by rw[Abp q0]; simp; omega⟩;simp only[GU,Ps,Aa,hq'];rw[Ak1 hc];rfl
theorem X6: ∀(l:List (UInt64×UInt64)) (i:Int) (s:Int×Int×UInt64×UInt64),0≤s.1→s.1≤256→∃r,D1 Bc l i s=some r:=by
 intro l;induction l with
 |nil=>intro i s _ _; exact⟨s,rfl⟩
 |cons x l ih=>
  intro i s h0 h1;obtain⟨r,hr,r0,r1⟩:=Aky i x s h0 h1;obtain⟨t,ht⟩:=ih (i+1) r r0 r1;exact⟨t,by simp only[D1,hr,Aa,ht]⟩
theorem Aaf (leaf:UInt64×UInt64)(a s:Int)(p:List (UInt64×UInt64))(root:UInt64×UInt64): ∃e,C6 leaf a s p root=some e:=by
 unfold C6;split
 ·exact⟨1,rfl⟩
 ·rename_i hc;have hn:0≤a∧a<s∧s≤256:=by simp at hc; omega
  obtain⟨r,hr⟩:=Abm a s;rw[hr,Aa];split
  ·exact⟨80,rfl⟩
  ·obtain⟨t,ht⟩:=X6 p 0 (a,w64 (s-1),leaf.1,leaf.2) hn.1 (by show a≤256; omega);unfold Da;rw[ht,Aa,Aa];split
   ·exact⟨71,rfl⟩
   ·exact⟨0,rfl⟩
theorem AgP:((List.range 8193).all fun n=>Jj (n:Int) 7==((n%8:Nat):Int))=true:=by kernel_rfl
theorem and7 {n:Nat}(h:n≤8192):Jj (n:Int) 7=((n%8:Nat):Int):=by
 have:=Alj.1 AgP n (List.mem_range.2 (by omega));simpa using this
theorem shr3 {n:Nat}:BB (n:Int) 3=((n/8:Nat):Int):=by
 show(n:Int).fdiv (2^ (min 3 64))=_;rw[Int.fdiv_eq_ediv_of_nonneg _ (by decide)]; rfl
structure SvOk (s:g_api_Sieve):Prop where
 m: ∃m:Nat,1≤m∧m≤1024∧s.Bits=((8*m:Nat):Int)∧s.B.length=m
 h1:1≤s.Hashes
 h2:s.Hashes≤8
theorem AbQ (n:Int):Gd n=some (decide (0≤n)&&decide (n≤1099511627776)):=rfl
theorem Aby (s:g_api_Sieve): ∃e,Hz s=some e∧(e=0→SvOk s):=by
 unfold Hz;by_cases h1:s.Bits<8
 ·refine⟨1,?_,fun h=>by cases h⟩;rw[Ak3 (All h1),Aa,Ak3 (All h1)]
 rw[Ak1 (show¬(decide (s.Bits<8)=true)from by simpa using h1)];by_cases h2:s.Bits>8192
 ·refine⟨1,?_,fun h=>by cases h⟩;rw[Ak3 (All h2),Aa,Ak3 (All h2)]
 rw[Ak1 (show¬(decide (s.Bits>8192)=true)from by simpa using h2),Aa];obtain⟨n,hn⟩: ∃n:Nat,s.Bits=(n:Int):=⟨s.Bits.toNat,by omega⟩;by_cases h3:(Jj s.Bits 7 !=0)=true
 ·exact⟨1,Ak3 h3,fun h=>by cases h⟩
 rw[Ak1 h3];have h3':n%8=0:=by
  rw[hn,and7 (by omega)]at h3;simp at h3; omega
 by_cases h4:s.Hashes<1
 ·refine⟨1,?_,fun h=>by cases h⟩;rw[Ak3 (All h4),Aa,Ak3 (All h4)]
 rw[Ak1 (show¬(decide (s.Hashes<1)=true)from by simpa using h4)];by_cases h5:s.Hashes>8
 ·refine⟨1,?_,fun h=>by cases h⟩;rw[Ak3 (All h5),Aa,Ak3 (All h5)]
 rw[Ak1 (show¬(decide (s.Hashes>8)=true)from by simpa using h5),AbQ,Aa];cases hr:(decide (0≤s.Salt)&&decide (s.Salt≤1099511627776))with
 |false=>exact⟨1,rfl,fun h=>by cases h⟩
 |true=>
  rw[Ak1 (by decide),Bn,Aa];by_cases h6:((s.B.length:Int) !=BB s.Bits 3)=true
  ·exact⟨1,Ak3 h6,fun h=>by cases h⟩
  ·refine⟨0,Ak1 h6,fun _=>⟨⟨n/8,by omega,by omega,by rw[hn]; omega,?_⟩,by omega,by omega⟩⟩;rw[hn,shr3]at h6;simp at h6; omega
theorem AeW (d l:Int): ∃x,Il d l=some x:=⟨_,rfl⟩
theorem MO {α:Type} [Inhabited α](c:Bool){o:Option α}(h: ∃x,o=some x): ∃y,gu c o=some y:=by
 obtain⟨x,rfl⟩:=h;cases c<;>exact⟨_,rfl⟩
theorem Ti (c:g_api_Cascade): ∀(k i:Nat),i+k=c.Levels.length→∃r,B7 (Ef c) k (i:Int) ()=some r
 |0,i,_=>⟨_,rfl⟩
 |k+1,i,hi=>by
  obtain⟨x,hx⟩: ∃x,c.Levels[i]? =some x:=⟨_,AlK (by omega)⟩;show∃r,Ab (Ef c (i:Int) ()) _=_;unfold Ef;rw[Dk hx,Aa];obtain⟨a,ha⟩:=MO (!(x.Hashes !=3)) (AeW c.Day (i:Int));rw[ha,Aa];obtain⟨e,he,_⟩:=Aby x;obtain⟨b,hb⟩:=MO (!((x.Hashes !=3)||(x.Salt !=a))) ⟨e,he⟩;rw[hb,Aa];split
  ·exact⟨_,rfl⟩
  ·exact Ti c k (i+1) (by omega)
theorem AaD (c:g_api_Cascade): ∃e,CK c=some e:=by
 unfold CK;split
 ·exact⟨_,rfl⟩
 ·obtain⟨b,hb⟩: ∃b,HN c.Day=some b:=⟨_,rfl⟩;rw[hb,Aa];split
  ·exact⟨_,rfl⟩
  ·obtain⟨r,hr⟩:=Ti c c.Levels.length 0 (by omega);rw[show B7 (Ef c) c.Levels.length 0 ()=some r from hr,Aa];cases r<;>exact⟨_,rfl⟩
theorem AfR {σ τ:Type}{step:σ→Option (σ⊕τ)}(st:Nat→σ){t:τ}: ∀(j k n:Nat),(∀i,i<j→step (st (k+i))=some (.inl (st (k+i+1))))→step (st (k+j))=some (.inr t)→j<n→iter step n (st k)=some t:=by
 intro j;induction j with
 |zero=>
  intro k n _ h hn;obtain⟨n,rfl⟩: ∃q,n=q+1:=⟨n-1,by omega⟩;have h:step (st k)=some (.inr t):=h;simp only[iter,h,Aa]
 |succ j ih=>
  intro k n hs h hn;obtain⟨n,rfl⟩: ∃q,n=q+1:=⟨n-1,by omega⟩;have h0:step (st k)=some (.inl (st (k+1))):=hs 0 (by omega);simp only[iter,h0,Aa];refine ih (k+1) n (fun i hi=> ?_) ?_ (by omega)
  ·have:=hs (i+1) (by omega);rw[show k+(i+1)=k+1+i from by omega]at this;exact this
  ·rw[show k+(j+1)=k+1+j from by omega]at h;exact h
def sgn (a b:Int):Int:=if a<b then-1 else if b<a then 1 else 0
theorem Aaz (a b:Int):DA a b=some (sgn a b):=by
 unfold DA EE sgn;by_cases h1:a<b
 ·simp[Ab,bnd,h1]
 ·by_cases h2:b<a
  ·simp[Ab,bnd,h1,h2]
  ·simp[Ab,bnd,h1,h2]
abbrev S8:Type:=Bool×Int×Int×UInt64×UInt64×Int×UInt64×UInt64
def later (x h:g_api_Head):Prop:=h.Size<x.Size∨(h.Size=x.Size∧h.At<x.At)
def Za (a b:Int):Int:=if a=0 then b else a
theorem AiX (a b c d:Int):Kr [a,b,c,d]=some (Za a (Za b (Za c d))):=by
 unfold Kr MK Za;by_cases h1:a=0
 ·by_cases h2:b=0
  ·by_cases h3:c=0
   ·by_cases h4:d=0<;>simp[DO,FV,Ab,h1,h2,h3,h4]
   ·simp[DO,FV,Ab,h1,h2,h3]
  ·simp[DO,FV,Ab,h1,h2]
 ·simp[DO,FV,Ab,h1]
theorem U8 (a b:UInt64):Et a b=some (sgn (a.toNat:Int) (b.toNat:Int)):=by
 unfold Et FA sgn;by_cases h1:(a.toNat:Int)<(b.toNat:Int)
 ·simp only[Ab,bnd,bne_self_eq_false,Bool.false_eq_true,if_false,h1,decide_true,if_true]
 ·by_cases h2:(b.toNat:Int)<(a.toNat:Int)
  ·simp only[Ab,bnd,bne_self_eq_false,Bool.false_eq_true,if_false,h1,h2,decide_true,decide_false,gt_iff_lt,if_true]
  ·simp only[Ab,bnd,bne_self_eq_false,Bool.false_eq_true,if_false,h1,h2,decide_true,decide_false,gt_iff_lt,if_true]
theorem Aay (a b c d:UInt64):Cg [a,b] [c,d]=some (Za (sgn (a.toNat:Int) (c.toNat:Int)) (sgn (b.toNat:Int) (d.toNat:Int))):=by
 have i0:idx [a,b] (0:Int)=some a:=rfl;have i1:idx [a,b] (1:Int)=some b:=rfl;have j0:idx [c,d] (0:Int)=some c:=rfl;have j1:idx [c,d] (1:Int)=some d:=rfl;unfold Cg Za;by_cases h1:sgn (a.toNat:Int) (c.toNat:Int)=0
 ·by_cases h2:sgn (b.toNat:Int) (d.toNat:Int)=0
  ·simp[B7,BU,i0,i1,j0,j1,U8,Ab,h1,h2]
  ·simp[B7,BU,i0,i1,j0,j1,U8,Ab,h1,h2]
 ·simp[B7,BU,i0,i1,j0,j1,U8,Ab,h1]
def UB (a b:g_api_Head):Int:=Za (sgn a.Log b.Log) (Za (sgn a.Size b.Size) (Za (Za (sgn (a.Root.1.toNat:Int) (b.Root.1.toNat:Int)) (sgn (a.Root.2.toNat:Int) (b.Root.2.toNat:Int))) (sgn a.At b.At)))
theorem AaK (a b:g_api_Head):Ea a b=some (UB a b):=by
 simp only[Ea,Aaz,Aay,Aa,AiX,UB]
theorem Uz (a b:g_api_Head):Fh a b=some (UB a b):=by
 simp only[Fh,AaK,Aa]
theorem Agk {a b:Int}:Za a b<0↔a<0∨(a=0∧b<0):=by unfold Za; split<;>omega
theorem Wn {a b:Int}:Za a b=0↔a=0∧b=0:=by unfold Za; split<;>omega
theorem AiD {a b:Int}:sgn a b<0↔a<b:=by unfold sgn; split<;>(try split)<;>omega
theorem Yw {a b:Int}:sgn a b=0↔a=b:=by unfold sgn; split<;>(try split)<;>omega
def ltH (a b:g_api_Head):Prop:=a.Log<b.Log∨(a.Log=b.Log∧(a.Size<b.Size∨(a.Size=b.Size∧(((a.Root.1.toNat:Int)<(b.Root.1.toNat:Int)∨((a.Root.1.toNat:Int)=(b.Root.1.toNat:Int)∧(a.Root.2.toNat:Int)<(b.Root.2.toNat:Int)))∨(((a.Root.1.toNat:Int)=(b.Root.1.toNat:Int)∧(a.Root.2.toNat:Int)=(b.Root.2.toNat:Int))∧a.At<b.At)))))
def eqH (a b:g_api_Head):Prop:=a.Log=b.Log∧a.Size=b.Size∧((a.Root.1.toNat:Int)=(b.Root.1.toNat:Int)∧(a.Root.2.toNat:Int)=(b.Root.2.toNat:Int))∧a.At=b.At
theorem Nb {a b:g_api_Head}:UB a b<0↔ltH a b:=by unfold UB ltH; simp only[Agk,Wn,AiD,Yw]
theorem Rp {a b:g_api_Head}:UB a b=0↔eqH a b:=by unfold UB eqH; simp only[Wn,Yw]
theorem Rz {a b c:g_api_Head}(h:ltH a b)(k:ltH b c):ltH a c:=by unfold ltH at*; omega
theorem Ajw (a b:g_api_Head):ltH a b∨eqH a b∨ltH b a:=by unfold ltH eqH; omega
theorem Agu (a:g_api_Head):eqH a a:=⟨rfl,rfl,⟨rfl,rfl⟩,rfl⟩
theorem ltH_eq {a b c:g_api_Head}(h:ltH a b)(k:eqH b c):ltH a c:=by unfold ltH eqH at*; omega
theorem RK {α:Type}{l:List α}{i:Nat}(h:i<l.length):idx l (i:Int)=some l[i]:=Dk (AlK h)
theorem AeF {i n:Nat}(h:i<n)(hn:n≤1099511627776):w64 ((i:Int)+1)=((i+1:Nat):Int):=by rw[Bo (by omega) (by omega)]; omega
def chB:List g_api_Head→Bool
 |a::b::l=>decide (UB a b<0)&&chB (b::l)
 |_=>true
theorem Ain {i n:Nat}(h:i<n)(h1:1≤i)(hn:n≤1099511627776):w64 ((i:Int)-1)=((i-1:Nat):Int):=by rw[Bo (by omega) (by omega)]; omega
theorem drop2 {l:List g_api_Head}{i:Nat}(h1:1≤i)(h:i<l.length):l.drop (i-1)=l[i-1]::l[i]::l.drop (i+1):=by
 rw[List.drop_eq_getElem_cons (show i-1<l.length by omega)];congr 1;rw[show i-1+1=i from by omega,List.drop_eq_getElem_cons h]
theorem AgH {l:List g_api_Head}{i:Nat}(h1:1≤i)(h:i<l.length):chB (l.drop (i-1))=(decide (UB l[i-1] l[i]<0)&&chB (l.drop i)):=by
 rw[drop2 h1 h,chB,List.drop_eq_getElem_cons h]
theorem AkC {l:List g_api_Head}{i:Nat}(h:l.length≤i):chB (l.drop (i-1))=true:=by
 have hl:(l.drop (i-1)).length≤1:=by rw[AlF]; omega
 match hd:l.drop (i-1),hl with
 | [],_=>rfl
 | [a],_=>rfl
 |a::b::l',hl=>simp at hl
theorem YR {a0:g_api_Pool}(hn:a0.L.length≤1099511627776){i:Nat}(h1:1≤i)(hi:i<a0.L.length):C2 a0 (i:Int) ()=some (if UB a0.L[i-1] a0.L[i]<0 then .inl ()else .inr false):=by
 unfold C2;have hp:decide ((i:Int)>0)=true:=by simp; omega
 rw[Ain hi h1 hn,hp,RK (show i-1<a0.L.length by omega),RK hi];simp only[gu,cond_true,Aa,Uz,Alx];by_cases h:UB a0.L[i-1] a0.L[i]<0
 ·rw[Ak1 (by simp; omega),Ak3 h]
 ·rw[Ak3 (by simp; omega),Ak1 h]
theorem Afj {a0:g_api_Pool}(hn:a0.L.length≤1099511627776): ∀(k i:Nat),1≤i→a0.L.length=i+k→
  B7 (C2 a0) k (i:Int) ()=some (if chB (a0.L.drop (i-1))=true then .inl ()else .inr false):=by
 intro k;induction k with
 |zero=>intro i h1 hk; rw[Ak3 (AkC (by omega))]; rfl
 |succ k ih=>
  intro i h1 hk;have hi:i<a0.L.length:=by omega
  rw[AgH h1 hi];by_cases h:UB a0.L[i-1] a0.L[i]<0
  ·simp only[B7,YR hn h1 hi,Ak3 h,Aa,h,decide_true,Alx];have:=ih (i+1) (by omega) (by omega);rw[Nat.add_sub_cancel]at this;exact this
  ·simp only[B7,YR hn h1 hi,Ak1 h,Aa,h,decide_false,Al3];rfl
theorem Aad {a0:g_api_Pool}(hn:a0.L.length≤1099511627776):GV a0=some (chB a0.L):=by
 unfold GV;cases hl:a0.L.length with
 |zero=>
  have:a0.L=[]:=List.eq_nil_of_length_eq_zero hl;rw[this]; rfl
 |succ k=>
  have h0:C2 a0 0 ()=some (.inl ()):=by
   unfold C2; simp[gu,Ab]
  simp only[B7,h0,Aa];have:=Afj hn k 1 (by omega) (by omega);rw[show((1:Nat):Int)=0+1 from rfl,show 1-1=0 from rfl,List.drop_zero]at this;rw[this];cases chB a0.L<;>rfl
theorem Xb: ∀(l:List g_api_Head),chB l=true↔l.Pairwise ltH
 | []=>by simp[chB]
 | [a]=>by simp[chB]
 |a::b::l=>by
  rw[chB,AkZ,Ak7,Nb,Xb (b::l),List.pairwise_cons (a:=a)];constructor
  ·rintro⟨h,k⟩;refine⟨fun x hx=> ?_,k⟩;rcases Als.1 hx with rfl|hx
   ·exact h
   ·exact Rz h ((List.pairwise_cons.1 k).1 x hx)
  ·rintro⟨h,k⟩; exact⟨h b (by simp),k⟩
def hasH (l:List g_api_Head)(z:g_api_Head):Prop:= ∃x∈l,eqH x z
theorem Af5 {l:List g_api_Head}{z:g_api_Head}(h:z∈l):hasH l z:=⟨z,h,Agu z⟩
def Ob:List g_api_Head→g_api_Head→List g_api_Head
 | [],h=> [h]
 |x::l,h=>if UB x h<0 then x::Ob l h else h::x::l
theorem Oa {h z:g_api_Head}: ∀{l:List g_api_Head},z∈Ob l h↔z=h∨z∈l
 | []=>by simp[Ob]
 |x::l=>by
  rw[Ob];split
  ·rw[Als,Oa,Als];constructor
   ·rintro(q|q|q)
    ·exact .inr (.inl q)
    ·exact .inl q
    ·exact .inr (.inr q)
   ·rintro(q|q|q)
    ·exact .inr (.inl q)
    ·exact .inl q
    ·exact .inr (.inr q)
  ·rw[Als]
theorem Yl {h:g_api_Head}: ∀{l:List g_api_Head},l.Pairwise ltH→¬hasH l h→(Ob l h).Pairwise ltH
 | [],_,_=>by simp[Ob]
 |x::l,hl,hn=>by
  have hxl:=(List.pairwise_cons.1 hl).1;rw[Ob];split
  ·rename_i q;have q:=Nb.1 q;refine List.pairwise_cons.2 ⟨fun z hz=> ?_,Yl (List.pairwise_cons.1 hl).2 (fun⟨w,hw,he⟩=>hn ⟨w,Alo _ hw,he⟩)⟩;rcases Oa.1 hz with rfl|hz
   ·exact q
   ·exact hxl z hz
  ·rename_i q;have hhx:ltH h x:=by
    rcases Ajw x h with r|r|r
    ·exact absurd (Nb.2 r) q
    ·exact absurd ⟨x,by simp,r⟩ hn
    ·exact r
   refine List.pairwise_cons.2 ⟨fun z hz=> ?_,hl⟩;rcases Als.1 hz with rfl|hz
   ·exact hhx
   ·exact Rz hhx (hxl z hz)
theorem Qu (h:g_api_Head): ∀(l:List g_api_Head),(Ob l h).length=l.length+1
 | []=>rfl
 |x::l=>by rw[Ob]; split<;>simp[Qu h l]
instance eqH_dec (a b:g_api_Head):Decidable (eqH a b):=by unfold eqH; infer_instance
def Aj0 (l:List g_api_Head)(z:g_api_Head):Bool:=l.any fun x=>decide (eqH x z)
theorem UY {l:List g_api_Head}{z:g_api_Head}:Aj0 l z=true↔hasH l z:=by simp[Aj0,hasH]
theorem appL {α:Type}{b:Nat}{xs ys:List α}(h:xs.length+ys.length≤2199023255552)(hb:b≤56):app b xs ys=some (xs++ys):=by
 unfold app;have:(xs.length+ys.length)*b≤2199023255552*56:=Nat.mul_le_mul h hb;rw[Ak3 ⟨by omega,by omega⟩]
theorem Aar (a b:UInt64×UInt64):Jf a b=true↔(a.1.toNat:Int)=(b.1.toNat:Int)∧(a.2.toNat:Int)=(b.2.toNat:Int):=by
 have h:Jf a b=true↔a.1=b.1∧a.2=b.2:=by unfold Jf; simp
 rw[h];constructor
 ·rintro⟨h1,h2⟩; rw[h1,h2]; exact⟨rfl,rfl⟩
 ·rintro⟨h1,h2⟩;exact⟨UInt64.toNat_inj.1 (by omega),UInt64.toNat_inj.1 (by omega)⟩
def LX (h:g_api_Head):List g_api_Head→Nat
 | []=>0
 |x::l=>if UB x h<0 then LX h l+1 else 0
theorem AdL (h:g_api_Head): ∀l:List g_api_Head,LX h l≤l.length
 | []=>by simp[LX]
 |x::l=>by have:=AdL h l; unfold LX; split<;>simp<;>omega
theorem AhU {h:g_api_Head}: ∀{l:List g_api_Head} (hi:LX h l<l.length),¬UB l[LX h l] h<0
 | [],hi=>by simp at hi
 |x::l,hi=>by
  by_cases c:UB x h<0
  ·have e:LX h (x::l)=LX h l+1:=by rw[LX,Ak3 c]
   have hi':LX h l<l.length:=by rw[e]at hi; simpa using hi
   have:=AhU hi';simp only[e,List.getElem_cons_succ];exact this
  ·have e:LX h (x::l)=0:=by rw[LX,Ak1 c]
   simp only[e,List.getElem_cons_zero];exact c
theorem SM (h:g_api_Head): ∀l:List g_api_Head,Ob l h=l.take (LX h l)++h::l.drop (LX h l)
 | []=>rfl
 |x::l=>by
  unfold Ob LX;split
  ·rw[SM h l]; simp
  ·simp
def fnd {α:Type}(p:α→Bool):List α→Nat→Option (Nat×α)
 | [],_=>none
 |x::xs,i=>if p x=true then some (i,x)else fnd p xs (i+1)
theorem Zb {α:Type}{p:α→Bool}: ∀{xs:List α} {i:Nat} {q:Nat×α},fnd p xs i=some q→∃k,q.1=i+k∧xs[k]? =some q.2∧p q.2=true
 | [],i,q,h=>by cases h
 |x::xs,i,q,h=>by
  unfold fnd at h;split at h
  ·rename_i c;cases h;exact⟨0,rfl,rfl,c⟩
  ·obtain⟨k,h1,h2,h3⟩:=Zb h;exact⟨k+1,by omega,by simpa using h2,h3⟩
theorem Akl {α:Type}{l xs:List α}{x:α}{i:Nat}(h:l.drop i=x::xs): ∃hi:i<l.length,l[i]=x∧l.drop (i+1)=xs:=by
 have hi:i<l.length:=by
  apply Classical.byContradiction;intro q;rw[AlH (by omega)]at h;cases h
 rw[List.drop_eq_getElem_cons hi]at h;injection h with h1 h2;exact⟨hi,h1,h2⟩
theorem Ww {α σ τ:Type}{body:Int→σ→Option (σ⊕τ)}{s:σ}{l:List α}(p:α→Bool)(r:Nat→τ)(hs: ∀i (hi:i<l.length),body (i:Int) s=some (if p l[i]=true then .inr (r i)else .inl s)):
  ∀(xs:List α) (i:Nat),l.drop i=xs→B7 body xs.length (i:Int) s=some (match fnd p xs i with|some q=> .inr (r q.1)|none=> .inl s)
 | [],i,_=>rfl
 |x::xs,i,h=>by
  obtain⟨hi,he,hd⟩:=Akl h;have h1:=hs i hi;rw[he]at h1;unfold fnd;simp only[Ak8,B7,h1,Aa];by_cases c:p x=true
  ·simp only[Ak3 c]
  ·simp only[Ak1 c];exact Ww p r hs xs (i+1) hd
theorem Agt (a b:UInt64×UInt64):Jf a b=(a==b):=by
 rw[AlT,Aar,AlM];obtain⟨a1,a2⟩:=a;obtain⟨b1,b2⟩:=b;constructor
 ·rintro⟨h1,h2⟩;have e1:a1=b1:=UInt64.toNat_inj.1 (by exact_mod_cast h1);have e2:a2=b2:=UInt64.toNat_inj.1 (by exact_mod_cast h2);rw[e1,e2]
 ·intro h; cases h; exact⟨rfl,rfl⟩
def pk7 (h:g_api_Head):Int×Int×UInt64×UInt64×Int×UInt64×UInt64:=(h.Log,h.Size,h.Root.1,h.Root.2,h.At,h.Sig.E,h.Sig.S)
theorem AdN {l:List g_api_Head}(h:l.length≤2199023255552):Bp l=some l:=by
 unfold Bp;rw[appL (by simpa using h) (by decide),Aa,Alz]
theorem AjL {u v:Int}{q:Nat}(hs:0≤u∧v≤0∨u≤0∧0≤v):(u-(q:Int)*v).natAbs=u.natAbs+q*v.natAbs∧((q:Int)*v).natAbs=q*v.natAbs∧(0≤v∧u-(q:Int)*v≤0∨v≤0∧0≤u-(q:Int)*v):=by
 have hqv:((q:Int)*v).natAbs=q*v.natAbs:=by rw[Int.natAbs_mul,Int.natAbs_natCast]
 have h1:0≤v→0≤(q:Int)*v:=fun h=>Int.mul_nonneg (AlP q) h;have h2:v≤0→(q:Int)*v≤0:=fun h=>Int.mul_nonpos_of_nonneg_of_nonpos (AlP q) h;refine⟨?_,hqv,?_⟩
 ·rw[←hqv];generalize (q:Int)*v=z at*;omega
 ·generalize (q:Int)*v=z at*;omega
theorem inv_it (m:Nat)(a:Int)(hm2:m<2305843009213693952): ∀(n:Nat) (x y:UInt64) (u v:Int),y.toNat≤n→(∃k,u*a=x.toNat+k*m)→(∃k,v*a=y.toNat+k*m)→u.natAbs*y.toNat+v.natAbs*x.toNat=m→
  (0≤u∧v≤0∨u≤0∧0≤v)→x.toNat≤m→u.natAbs≤m→v.natAbs≤m→y.toNat≤m→
  ∃r:Int,iter CC (n+1) (x,y,u,v)=some r∧(∃k,r*a=Nat.gcd x.toNat y.toNat+k*m)∧r.natAbs≤m:=by
 intro n;induction n with
 |zero=>
  intro x y u v hy hu hv hb hs hx hul hvl hyl;have hy0:y.toNat=0:=by omega
  refine⟨u,CF ?_,by rw[hy0,Nat.gcd_zero_right]; exact hu,hul⟩;unfold CC;rw[Ak1 (by simp[hy0])]
 |succ n ih=>
  intro x y u v hy hu hv hb hs hx hul hvl hyl;by_cases hy0:y.toNat=0
  ·refine⟨u,CF ?_,by rw[hy0,Nat.gcd_zero_right]; exact hu,hul⟩;unfold CC;rw[Ak1 (by simp[hy0])]
  ·have hyne:y≠0:=fun e=>hy0 (by rw[e]; rfl);have hdm:=Nat.div_add_mod' x.toNat y.toNat;have hmod:=Al4 x.toNat (show 0<y.toNat by omega);have hql:x.toNat/y.toNat≤x.toNat:=Nat.div_le_self _ _;have hmul:x.toNat/y.toNat*y.toNat≤x.toNat:=Nat.div_mul_le_self _ _;have hxl:=x.toNat_lt;have hgcd:Nat.gcd x.toNat y.toNat=Nat.gcd y.toNat (x.toNat%y.toNat):=by rw[Nat.gcd_comm,Nat.gcd_rec,Nat.gcd_comm]
   have eq1:(x/y).toNat=x.toNat/y.toNat:=UInt64.toNat_div _ _;have eq2:((x/y)*y).toNat=x.toNat/y.toNat*y.toNat:=by rw[UInt64.toNat_mul,eq1]; exact AlR (Al1 hmul hxl)
   have eq3:(x-(x/y)*y).toNat=x.toNat%y.toNat:=by
    rw[UInt64.toNat_sub_of_le _ _ (by rw[UInt64.le_iff_toNat_le,eq2]; exact hmul),eq2];omega
   generalize hq:x.toNat/y.toNat=q at*;generalize hr:x.toNat%y.toNat=r at*;obtain⟨habs,hqv,hs'⟩:=AjL (q:=q) hs;have hbal:v.natAbs*r+(u-(q:Int)*v).natAbs*y.toNat=m:=by
    rw[habs,←hb,←hdm]; grind
   have hvm:(u-(q:Int)*v).natAbs≤m:=by
    have:(u-(q:Int)*v).natAbs*1≤(u-(q:Int)*v).natAbs*y.toNat:=Nat.mul_le_mul_left _ (by omega);omega
   have hqb:((q:Int)*v).natAbs≤m:=by omega
   have w1:w64 (q:Int)=(q:Int):=Bo (by omega) (by omega);have w2:w64 ((q:Int)*v)=(q:Int)*v:=by
    generalize (q:Int)*v=z at*;exact Bo (by omega) (by omega)
   have w3:w64 (u-(q:Int)*v)=u-(q:Int)*v:=by
    generalize u-(q:Int)*v=z at*;exact Bo (by omega) (by omega)
   have hdmI:(q:Int)*(y.toNat:Int)+(r:Int)=(x.toNat:Int):=by exact_mod_cast hdm
   obtain⟨t,t1,t2,t3⟩:=ih y (x-(x/y)*y) v (u-(q:Int)*v) (by rw[eq3]; omega) hv (by
    obtain⟨k,hk⟩:=hu;obtain⟨l,hl⟩:=hv;refine⟨k-q*l,?_⟩;rw[eq3];grind) (by rw[eq3]; exact hbal) (by omega) hyl hvl hvm (by rw[eq3]; omega)
   rw[eq3,←hgcd]at t2;refine⟨t,?_,t2,t3⟩;rw[B8 (s':=(y,x-(x/y)*y,v,u-(q:Int)*v)),t1];unfold CC;dsimp only;rw[Ak3 (by simp; omega),Ak3 hyne,eq1,Bn,w1,w2,w3,Bn]
theorem AhE {a:UInt64}{b:Nat}(h:a.toNat*b%GQ=1): ∃z:UInt64,FU a=some (z,0)∧z.toNat*a.toNat%GQ=1:=by
 have hm:(a%2305843009213691579).toNat=a.toNat%GQ:=UInt64.toNat_mod _ _;have hml:=Al4 a.toNat (show 0<GQ by decide);have hne:a.toNat%GQ≠0:=fun e=>by
  rw[Nat.mul_mod,e,Nat.zero_mul,Nat.zero_mod]at h; cases h
 have hg:Nat.gcd (a.toNat%GQ) GQ=1:=by
  have d1:=Nat.gcd_dvd_left (a.toNat%GQ) GQ;have d2:=Nat.gcd_dvd_right (a.toNat%GQ) GQ;have h':a.toNat%GQ*b%GQ=1:=by rw[Nat.mod_mul_mod]; exact h
  have h2:=Nat.div_add_mod (a.toNat%GQ*b) GQ;rw[h']at h2;have d3:Nat.gcd (a.toNat%GQ) GQ ∣ GQ*(a.toNat%GQ*b/GQ)+1:=by rw[h2]; exact Nat.dvd_trans d1 (Nat.dvd_mul_right _ _)
  have d4:=(Nat.dvd_add_right (Nat.dvd_trans d2 (Nat.dvd_mul_right GQ (a.toNat%GQ*b/GQ)))).1 d3;exact Nat.dvd_one.1 d4
 obtain⟨r,r1,⟨k,r2⟩,r3⟩:=inv_it GQ (a.toNat%GQ:Nat) (by decide) GQ (a%2305843009213691579) 2305843009213691579 1 0 (by decide) ⟨0,by rw[hm]; simp⟩ ⟨-1,by
  rw[show(2305843009213691579:UInt64).toNat=GQ from rfl]; simp⟩ (by rw[show(2305843009213691579:UInt64).toNat=GQ from rfl]; simp) (by omega) (by rw[hm]; omega) (by decide) (by decide) (by decide)
 rw[hm,show(2305843009213691579:UInt64).toNat=GQ from rfl,hg]at r2;have r1':=Gy _ r1 (by decide);have hw:w64 (((2305843009213691579:UInt64).toNat:Int))=(GQ:Int):=Bo (by decide) (by decide);have hz: ∃z:Nat,(if(decide (r<0))=true then bnd ((w64 (r+(w64 (((2305843009213691579:UInt64).toNat:Int)))))) fun x7=>some x7 else some r)=some (z:Int)∧z≤GQ∧∃l:Int,(z:Int)*(a.toNat%GQ:Nat)=1+l*GQ:=by
  simp only[GQ]at*;by_cases hneg:r<0
  ·rw[Ak3 (by simpa using hneg),hw,Bn,Bo (by omega) (by omega)];obtain⟨z,hz⟩:=Int.eq_ofNat_of_zero_le (show 0≤r+2305843009213691579 by omega);refine⟨z,by rw[←hz]; rfl,by omega,k+(a.toNat%2305843009213691579:Nat),?_⟩;rw[←hz,Int.add_mul,r2];grind
  ·rw[Ak1 (by simpa using hneg)];obtain⟨z,hz⟩:=Int.eq_ofNat_of_zero_le (show 0≤r by omega);exact⟨z,by rw[hz],by omega,k,by rw[←hz]; exact r2⟩
 obtain⟨z,z1,z2,l,z3⟩:=hz;have hzn:(toU (z:Int)).toNat=z:=VJ (by simp only[GQ]at z2; omega);refine⟨toU (z:Int),?_,?_⟩
 ·unfold FU Eb;rw[Ak3 (by decide),Ak1 (by rw[AlM,hm]; omega),r1',Aa,Aa,z1,Aa,Aa]
 ·rw[hzn,←Nat.mul_mod_mod];have:((z*(a.toNat%GQ):Nat):Int)=1+l*GQ:=by rw[Int.natCast_mul]; exact z3
  generalize z*(a.toNat%GQ)=w at*;simp only[GQ]at*;omega
theorem R1 (n:UInt64):FN n=some (Sy 8 n):=by
 unfold FN;simp[CX,JF,idx,w64,Bn,Sy]
def K0 (k:UInt64):UInt64:=Sc 2305843009213691579 4 k
theorem Qx (k:UInt64):(K0 k).toNat=4^k.toNat%GQ:=Uy dvQ 4 k
theorem Rf {k:UInt64}(h1:1≤k.toNat)(h2:k.toNat<GR):Gc k=some (K0 k,0):=by
 simp only[GR]at h2;unfold Gc Pv;rw[Bn,Aa,Ak1 (by simp; omega),Vh,Aa]; rfl
def chal (c p:UInt64)(msg:List UInt8):UInt64:=Ahm (AaN ⟨#[115,105,103,110]⟩ [Sy 8 c,Sy 8 p,msg]) 1152921504606845789
theorem X7 (c p:UInt64){msg:List UInt8}(h:msg.length≤600000):Dh c p msg=some (chal c p msg):=by
 unfold Dh;rw[R1,Aa,R1,Aa,KU _ _ (by simp[YK,Kh]; omega),Aa,Ahl dvR,Aa]; rfl
theorem AdW (c p:UInt64)(msg:List UInt8):(chal c p msg).toNat<GR:=by
 unfold chal; rw[YT dvR]; exact Al4 _ (by decide)
def PY (k:UInt64)(msg:List UInt8):UInt64:=Ahm (AaN ⟨#[110,111,110,99,101]⟩ [Sy 8 k,msg]) 1152921504606845788+1
theorem Yt {t:ByteArray}{ps:List (List UInt8)}(h:t.data.toList.length+YK ps≤700000):JE t ps=some (Ahm (AaN t ps) 1152921504606845788+1):=by
 unfold JE;rw[KU _ _ h,Aa,Ahl dvR1,Aa]
def Pk (k:UInt64)(msg:List UInt8):UInt64:=chal (K0 (PY k msg)) (K0 k) msg
def Mu (k:UInt64)(msg:List UInt8):g_api_Sig:=⟨Pk k msg,addM 1152921504606845789 (V6 1152921504606845789 (Pk k msg) k) (PY k msg)⟩
theorem Xf {k:UInt64}{msg:List UInt8}(h1:1≤k.toNat)(h2:k.toNat<GR)(hm:msg.length≤600000):G5 k msg=some (Mu k msg,0):=by
 unfold G5;rw[Rf h1 h2,Aa,Ak1 (by simp),R1,Aa,Yt (by simp[YK,Kh]; omega),Aa,Vh,Aa];dsimp only;rw[show Sc 2305843009213691579 4 (Ahm (AaN ⟨#[110,111,110,99,101]⟩ [Sy 8 k,msg]) 1152921504606845788+1)=K0 (PY k msg)from rfl,X7 _ _ hm,Aa];unfold LI LJ;rw[KZ dvR,Aa,Aa,ZY dvR,Aa,Aa]; rfl
def gr:Nat:=GR
theorem gr_pos:0<gr:=by unfold gr; decide
theorem Ado:4^gr%GQ=1:=by
 have h:(Sc 2305843009213691579 4 1152921504606845789).toNat=(4:UInt64).toNat^ (1152921504606845789:UInt64).toNat% (2305843009213691579:UInt64).toNat:=Uy dvQ 4 1152921504606845789;have hR:(1152921504606845789:UInt64).toNat=gr:=rfl;have h4:(4:UInt64).toNat=4:=rfl;have hQ:(2305843009213691579:UInt64).toNat=GQ:=rfl;rw[hR,h4,hQ]at h;have hc:(match Dx 4 1152921504606845789 with|some r=>decide (r=1)|none=>false)=true:=by kernel_rfl
 rw[Rk]at hc;have:=AlW hc;rw[←h,this]; rfl
theorem Ajc (n:Nat):4^ (n%gr)%GQ=4^n%GQ:=by
 have hn:=Nat.div_add_mod n gr;conv=>rhs; rw[←hn]
 rw[Nat.pow_add,Nat.pow_mul,Nat.mul_mod,Nat.pow_mod (4^gr),Ado,Nat.one_pow,show 1%GQ=1 from rfl,Nat.one_mul,Nat.mod_mod]
theorem Rg (k:UInt64):(K0 k).toNat^gr%GQ=1:=by
 rw[Qx,←Nat.pow_mod,←Nat.pow_mul,Al2,Nat.pow_mul,Nat.pow_mod,Ado,Nat.one_pow]; rfl
theorem Ahf (k:UInt64):(K0 k).toNat<GQ:=by rw[Qx]; exact Al4 _ (by decide)
theorem Ab5 (k:UInt64):0<(K0 k).toNat:=by
 have h':=gr_pos;have h2:=Rg k;generalize gr=r at*;by_cases h:(K0 k).toNat=0
 ·rw[h,Nat.zero_pow h']at h2;cases h2
 ·omega
theorem OG (a n:UInt64):(Sc 2305843009213691579 a n).toNat=a.toNat^n.toNat%GQ:=Uy dvQ a n
theorem in_eq (k:UInt64):Dj (K0 k)=some true:=by
 have h1:=Ahf k;have h2:=Ab5 k;simp only[GQ]at h1;have hR:(1152921504606845789:UInt64).toNat=gr:=rfl;have hp:(Sc 2305843009213691579 (K0 k) 1152921504606845789).toNat=1:=by
  rw[OG,hR]; exact Rg k
 have hc:((decide (((K0 k).toNat:Int)>0))&&(decide (((K0 k).toNat:Int)<2305843009213691579)))=true:=by simp; omega
 unfold Dj;rw[hc];show Ab (Dx (K0 k) 1152921504606845789) _=_;rw[Rk,Aa,Bn,hp]; rfl
theorem Adi {p e s k n z:Nat}(hp:p=4^k%GQ)(hs:s=(e*k+n)%gr)(hz:z*(p^e%GQ)%GQ=1):4^s%GQ*z%GQ=4^n%GQ:=by
 have e1:4^ (e*k)*z%GQ=1:=by
  rw[←hz,hp,←Nat.pow_mod,←Nat.pow_mul,Al2 k e,Nat.mul_mod_mod,Al2 z]
 rw[hs,Ajc,Nat.mod_mul_mod,Nat.pow_add,Nat.mul_right_comm,Nat.mul_mod,e1,Nat.one_mul,Nat.mod_mod]
theorem Ac7 {p e k:Nat}(hp:p^gr%GQ=1)(he:e≤gr):p^e%GQ*p^ (gr-e)%GQ=1:=by
 rw[Nat.mod_mul_mod,←Nat.pow_add,Nat.add_sub_cancel' he]; exact hp
theorem Ajk {n:Nat}(h:n<GR): ¬((n:Int)≥1152921504606845789):=by simp only[GR]at h; omega
theorem AcF {a b:UInt64}{n:Nat}(ha:a.toNat<n)(hb:b.toNat<n):(QB a b).toNat<n:=by
 unfold QB; split
 ·exact hb
 ·exact ha
theorem Wk {α:Type} [Inhabited α](o:Option α):gu true o=o:=rfl
theorem AdT {k s:UInt64}{msg:List UInt8}(z:UInt64)(hceq:V6 2305843009213691579 (Sc 2305843009213691579 4 s) z=K0 (PY k msg))(hm:msg.length≤600000):
  (Ab (gu (!((z,(0:Int)).2 !=0)) (Ec s)) fun x4=>Ab (gu (!((z,(0:Int)).2 !=0)) (Hg x4 (z,(0:Int)).1)) fun x5=>Ab (gu (!((z,(0:Int)).2 !=0)) (Dh x5 (K0 k) msg)) fun x6=>
   if(((z,(0:Int)).2 !=0)||((x6.toNat:Int) !=((Pk k msg).toNat:Int)))=true then some (40:Int)else some 0)=some 0:=by
 have e1:((z,(0:Int)).2 !=0)=false:=rfl;rw[e1,Ame,Wk,Vh,Aa,Wk];unfold Hg;rw[KZ dvQ,Aa,Aa,Wk,hceq,X7 _ _ hm,Aa];have e2:(((chal (K0 (PY k msg)) (K0 k) msg).toNat:Int) !=((Pk k msg).toNat:Int))=false:=by
  unfold Pk;rw[bne_eq_false_iff_eq]
 rw[e2];rfl
theorem PD {k:UInt64}{msg:List UInt8}(h1:1≤k.toNat)(h2:k.toNat<GR)(hm:msg.length≤600000):Ds (K0 k) msg (Mu k msg)=some 0:=by
 have hE:(Pk k msg).toNat<GR:=AdW _ _ _;have hS:(Mu k msg).S.toNat=((Pk k msg).toNat*k.toNat+(PY k msg).toNat)%GR:=by
  show(addM _ _ _).toNat=_;rw[ZC dvR,QA dvR];exact Nat.mod_add_mod _ _ _
 have hSl:(Mu k msg).S.toNat<GR:=by rw[hS]; exact Al4 _ (by decide)
 have hEe:(Mu k msg).E=Pk k msg:=rfl;have hX:=OG (K0 k) (Pk k msg);have hinv:(Sc 2305843009213691579 (K0 k) (Pk k msg)).toNat*(K0 k).toNat^ (gr-(Pk k msg).toNat)%GQ=1:=by
  rw[hX]; exact Ac7 (k:=0) (Rg k) (Nat.le_of_lt hE)
 obtain⟨z,z1,z2⟩:=AhE hinv;rw[hX]at z2;have hcom:(V6 2305843009213691579 (Sc 2305843009213691579 4 (Mu k msg).S) z).toNat=(K0 (PY k msg)).toNat:=by
  rw[Qx,QA dvQ,OG];exact Adi (Qx k) hS z2
 have hceq:V6 2305843009213691579 (Sc 2305843009213691579 4 (Mu k msg).S) z=K0 (PY k msg):=u_ext hcom;have hmax:(QB (Pk k msg) (Mu k msg).S).toNat<GR:=AcF hE hSl;have hmx: ¬(((QB (Pk k msg) (Mu k msg).S).toNat:Int)≥1152921504606845789):=Ajk hmax;clear hS hSl hX hinv hcom z2 hE;unfold Ds;rw[in_eq,Aa,Ak1 (by simp),hEe,Ak1 (by rw[Ak7]; exact hmx),Rk,Aa,z1,Aa];exact AdT z hceq hm
theorem Agc (n:Nat)(h:n≤1000000):AR (n:Int)=some []:=by
 have hw:w64 ((n:Int)-(w64 (0-((0:Nat):Int))))=(n:Int):=by rw[Bo (n:=0-((0:Nat):Int)) (by omega) (by omega),Bo (by omega) (by omega)]; omega
 unfold AR;rw[Ak1 (by rw[Ak7]; omega),Aa,hw,Bn];by_cases h0:n=0
 ·rw[Ak1 (by simp; omega),Aa]
 ·rw[Ak3 (by simp; omega),Ak3 (by omega),Aa]
theorem Aav {xs ys:List g_api_Leaf}(h:xs.length+ys.length≤100000):Bl [xs,ys]=some (xs++ys):=by
 have w1:w64 (0+(xs.length:Int))=(xs.length:Int):=by rw[Bo (by omega) (by omega)]; omega
 have w2:w64 ((xs.length:Int)+(ys.length:Int))=((xs.length+ys.length:Nat):Int):=by rw[Bo (by omega) (by omega)]; omega
 have b1: ∀(i:Int) (x:List g_api_Leaf) (s:Int),0≤w64 (s+(x.length:Int))→Cs i x s=some (w64 (s+(x.length:Int))):=by
  intro i x s hs;unfold Cs;rw[Bn,Ak1 (by rw[Ak7]; omega),Aa]
 have b2: ∀(i:Int) (x s:List g_api_Leaf),s.length+x.length≤100000→Cr i x s=some (s++x):=by
  intro i x s hs;unfold Cr;rw[DQ 32 (by omega) (by omega),Aa]
 unfold Bl;simp only[D1];rw[b1 _ _ _ (by rw[w1]; omega),Aa,w1,b1 _ _ _ (by rw[w2]; omega),Aa,w2,Aa,Aa,Agc _ (by omega),Aa,b2 _ _ _ (by simp; omega),Aa,Alz,b2 _ _ _ h,Aa,Aa,Aa]
theorem Ad9 {l:g_api_Log}(h:l.L.length+l.Wait.length≤100000):Jk l=some (l.L++l.Wait):=by
 unfold Jk;rw[Aav h,Aa]
def IA (b:List UInt8):Bool:=decide (0<b.length)&&decide (b.length≤2048)
def IQ (n:Int):Bool:=decide (0≤n)&&decide (n≤1099511627776)
theorem GF (n:Int):Dr n=some (IQ n):=rfl
theorem Wh (b:List UInt8):HD b=some (IA b):=by
 unfold HD IA;rw[Bn];congr 2
 ·rw[AlY]; omega
 ·rw[AlY]; omega
def AaS (ks:List (List UInt8)):List (ByteArray×Bool):=ks.map fun b=>(bs b,true)
theorem Zw {a b:List UInt8}:eqS (bs a) (bs b)=true↔a=b:=by simp[eqS,bs]
theorem AcH (b:List UInt8): ∀(ks:List (List UInt8)) (i:Nat),(b∈ks→∃j,lkI (AaS ks) (bs b) i=some (j,true))∧(b∉ks→lkI (AaS ks) (bs b) i=none):=by
 intro ks;induction ks with
 |nil=>intro i; exact⟨fun h=>absurd h (by simp),fun _=>rfl⟩
 |cons k ks ih=>
  intro i;simp only[AaS,AlE,lkI];by_cases hk:b=k
  ·subst hk;rw[Ak3 (Zw.2 rfl)];exact⟨fun _=>⟨i,rfl⟩,fun h=>absurd (Alk ..) h⟩
  ·rw[Ak1 (fun h=>hk (Zw.1 h))];refine⟨fun h=>(ih (i+1)).1 ((Als.1 h).resolve_left hk),fun h=>(ih (i+1)).2 fun h'=>h (Alo _ h')⟩
theorem lkB_kv (b:List UInt8)(ks:List (List UInt8)):lkB (AaS ks) (bs b)=decide (b∈ks):=by
 unfold lkB;by_cases h:b∈ks
 ·obtain⟨j,hj⟩:=(AcH b ks 0).1 h;rw[hj,All h]; rfl
 ·rw[(AcH b ks 0).2 h,AlG h]; rfl
def okL:List g_api_Leaf→List (List UInt8)→Bool
 | [],_=>true
 |x::r,ks=>(IA x.Body&&IQ x.At&& !decide (x.Body∈ks))&&okL r (ks++[x.Body])
theorem AgG: ∀(xs:List g_api_Leaf) (ks:List (List UInt8)) (i:Int),DO HF xs i (AaS ks)=some (if okL xs ks=true then .inl (AaS (ks++xs.map (·.Body)))else .inr 1):=by
 intro xs;induction xs with
 |nil=>intro ks i; simp[DO,okL]
 |cons x xs ih=>
  intro ks i;have hb:HF i x (AaS ks)=some (if(IA x.Body&&IQ x.At&& !decide (x.Body∈ks))=true then .inl (AaS (ks++[x.Body]))else .inr 1):=by
   unfold HF;rw[Wh,Aa,GF,lkB_kv];cases h1:IA x.Body with
   |false=>rfl
   |true=>
    cases h2:IQ x.At with
    |false=>rfl
    |true=>
     by_cases h3:x.Body∈ks
     ·rw[All h3]; rfl
     ·rw[AlG h3,show gu (!!true) (some true)=some true from rfl];simp only[AlX,Bool.false_eq_true,if_false,Aa,Bool.or_self,Bool.and_self,Ame,if_true];rw[(AcH x.Body ks 0).2 h3];simp[AaS]
  have hc:okL (x::xs) ks=((IA x.Body&&IQ x.At&& !decide (x.Body∈ks))&&okL xs (ks++[x.Body])):=rfl;simp only[DO,hb,Aa];by_cases h:(IA x.Body&&IQ x.At&& !decide (x.Body∈ks))=true
  ·have e:okL (x::xs) ks=okL xs (ks++[x.Body]):=by rw[hc,h,Alx]
   rw[Ak3 h,e];dsimp only;rw[ih];simp
  ·have e:okL (x::xs) ks=false:=by rw[hc,Bool.not_eq_true _|>.mp h,Al3]
   rw[Ak1 h,e]; rfl
def okH:List Int→Int→Int→Bool
 | [],_,_=>true
 |x::r,last,n=>(!decide (x≤last)&& !decide (n≤x))&&okH r x n
theorem AgF (l:g_api_Log): ∀(xs:List Int) (last:Int) (i:Int),∃z,DO (HE l) xs i last=some (if okH xs last (l.L.length:Int)=true then .inl z else .inr 1):=by
 intro xs;induction xs with
 |nil=>intro last i; exact⟨last,by simp[DO,okH]⟩
 |cons x xs ih=>
  intro last i;obtain⟨z,hz⟩:=ih x (i+1);refine⟨z,?_⟩;have hb:HE l i x last=some (if(!decide (x≤last)&& !decide ((l.L.length:Int)≤x))=true then .inl x else .inr 1):=by
   unfold HE;by_cases h1:x≤last
   ·simp[h1]
   ·by_cases h2:(l.L.length:Int)≤x
    ·simp[h2]
    ·have h2': ¬(x≥(l.L.length:Int)):=h2;simp[h1,h2,h2']
  have hc:okH (x::xs) last (l.L.length:Int)=((!decide (x≤last)&& !decide ((l.L.length:Int)≤x))&&okH xs x (l.L.length:Int)):=rfl;simp only[DO,hb,Aa];by_cases h:(!decide (x≤last)&& !decide ((l.L.length:Int)≤x))=true
  ·have e:okH (x::xs) last (l.L.length:Int)=okH xs x (l.L.length:Int):=by rw[hc,h,Alx]
   rw[Ak3 h,e];exact hz
  ·have e:okH (x::xs) last (l.L.length:Int)=false:=by rw[hc,Bool.not_eq_true _|>.mp h,Al3]
   rw[Ak1 h,e]; rfl
def XA (l:g_api_Log):Bool:=IQ l.Id&& !decide (l.Key.toNat=0)&&decide (l.Key.toNat<1152921504606845789)&&decide (0≤l.Delay)&&decide (l.Delay≤1000)
def chk (l:g_api_Log):Int:=if XA l=true then(if okL (l.L++l.Wait) []=true then(if okH l.Hide (-1) (l.L.length:Int)=true then(if 256<(l.L++l.Wait).length then 2 else 0)else 1)else 1)else 1
theorem PC {l:g_api_Log}(h:l.L.length+l.Wait.length≤100000):D9 l=some (chk l):=by
 unfold D9;rw[GF,Aa];have hc:(((((!IQ l.Id)||((l.Key.toNat:Int)==0))||(decide ((l.Key.toNat:Int)≥1152921504606845789)))||(decide (l.Delay<0)))||(decide (l.Delay>1000)))= !XA l:=by
  unfold XA;rw[AlT];cases IQ l.Id<;>simp<;>omega
 rw[hc];unfold chk;cases h0:XA l with
 |false=>rfl
 |true=>
  rw[AlX,Ak1 (by decide),Ak3 rfl,Ad9 h,Aa];have h3:=AgG (l.L++l.Wait) [] 0;rw[show AaS []=([]:List (ByteArray×Bool))from rfl]at h3;rw[h3,Aa];cases h1:okL (l.L++l.Wait) []with
  |false=>simp
  |true=>
   simp only[if_true];obtain⟨z,hz⟩:=AgF l l.Hide (-1) 0;rw[hz,Aa];cases h2:okH l.Hide (-1) (l.L.length:Int)with
   |false=>simp
   |true=>
    simp only[if_true];have hl:(AaS ([]++(l.L++l.Wait).map (·.Body))).length=(l.L++l.Wait).length:=by simp[AaS]
    rw[hl];by_cases h4:256<(l.L++l.Wait).length
    ·rw[Ak3 h4,Ak3 (by rw[Ak7]; omega)]
    ·rw[Ak1 h4,Ak1 (by rw[Ak7]; omega)]
theorem Agd (n:Nat)(h:n≤1000000):Bz (n:Int)=some []:=by
 have hw:w64 ((n:Int)-(w64 (0-((0:Nat):Int))))=(n:Int):=by rw[Bo (n:=0-((0:Nat):Int)) (by omega) (by omega),Bo (by omega) (by omega)]; omega
 unfold Bz;rw[Ak1 (by rw[Ak7]; omega),Aa,hw,Bn];by_cases h0:n=0
 ·rw[Ak1 (by simp; omega),Aa]
 ·rw[Ak3 (by simp; omega),Ak3 (by omega),Aa]
theorem X2: ∀(xs:List (List UInt8)) (i:Int) (n:Nat),n+xs.flatten.length≤1000000→D1 CE xs i (n:Int)=some ((n+xs.flatten.length:Nat):Int):=by
 intro xs;induction xs with
 |nil=>intro i n _; simp[D1]
 |cons x xs ih=>
  intro i n h;simp only[List.flatten_cons,Ak5]at h;have hw:w64 ((n:Int)+(x.length:Int))=((n+x.length:Nat):Int):=by rw[Bo (by omega) (by omega)]; omega
  have hb:CE i x (n:Int)=some ((n+x.length:Nat):Int):=by
   unfold CE;rw[Bn,hw,Ak1 (by rw[Ak7]; omega),Aa]
  simp only[D1,hb,Aa];rw[ih _ _ (by omega),List.flatten_cons,Ak5,Amb]
theorem X3: ∀(xs:List (List UInt8)) (i:Int) (s:List UInt8),s.length+xs.flatten.length≤1000000→D1 CD xs i s=some (s++xs.flatten):=by
 intro xs;induction xs with
 |nil=>intro i s _; simp[D1]
 |cons x xs ih=>
  intro i s h;simp only[List.flatten_cons,Ak5]at h;have hb:CD i x s=some (s++x):=by
   unfold CD;rw[DQ 1 (by omega) (by omega),Aa]
  simp only[D1,hb,Aa];rw[ih _ _ (by rw[Ak5]; omega),List.flatten_cons,Alb]
theorem Tx {xs:List (List UInt8)}(h:xs.flatten.length≤1000000):BQ xs=some xs.flatten:=by
 have h1:=X2 xs 0 0 (by omega);rw[show((0:Nat):Int)=0 from rfl,Aly]at h1;unfold BQ;rw[h1,Aa,Aa,Agd _ h,Aa,X3 xs 0 [] (by simpa using h),Aa,Aa,Alz]
theorem Ahq {w:ByteArray}{ps:List (List UInt8)}(hw:w.data.toList.length≤100)(h:ps.flatten.length≤100000):K5 w ps=some (w.data.toList++ps.flatten):=by
 unfold K5;have h0:([]:List UInt8).length=0:=rfl;rw[DQ 1 (by omega) (by omega),Aa,Tx (by omega),Aa,Alz,DQ 1 (by omega) (by omega),Aa]
def e8 (n:Int):List UInt8:=[toB (BB n 56),toB (BB n 48),toB (BB n 40),toB (BB n 32),toB (BB n 24),toB (BB n 16),toB (BB n 8),toB (BB n 0)]
theorem MT (n:Int):D8 n=some (e8 n):=by
 unfold D8;simp[CX,JI,idx,w64,Bn,e8]
def Uw (p:g_api_Promise):List UInt8:=[112,114,111,109,105,115,101]++[e8 p.Log,e8 p.At,PW p.Leaf].flatten
def UX (h:g_api_Head):List UInt8:=[104,101,97,100]++[e8 h.Log,e8 h.Size,PW h.Root,e8 h.At].flatten
theorem Zj (n:Int):(e8 n).length=8:=rfl
theorem PX (p:g_api_Promise):D4 p=some (Uw p):=by
 unfold D4;rw[MT,Aa,MT,Aa,Ve,Aa,Ahq (by decide) (by simp[Zj,K3]),Aa]; rfl
theorem Rq (h:g_api_Head):HC h=some (UX h):=by
 unfold HC;rw[MT,Aa,MT,Aa,Ve,Aa,MT,Aa,Ahq (by decide) (by simp[Zj,K3]),Aa]; rfl
theorem VZ (p:g_api_Promise):(Uw p).length≤600000:=by simp[Uw,Zj,K3]
theorem RL (h:g_api_Head):(UX h).length≤600000:=by simp[UX,Zj,K3]
def H7 (b:List UInt8):UInt64×UInt64:=AaN ⟨#[108,101,97,102]⟩ [b]
theorem RE {b:List UInt8}(h:b.length≤600000):C5 b=some (H7 b):=by
 unfold C5;rw[KU _ _ (by simp[YK]; omega),Aa]; rfl
def PA:List g_api_Leaf→List UInt8→Nat→Option Nat
 | [],_,_=>none
 |x::r,b,i=>if x.Body=b then some i else PA r b (i+1)
theorem AfX (all:List g_api_Leaf)(b:List UInt8)(hl:all.length≤100000): ∀(xs:List g_api_Leaf) (i:Nat),all.drop i=xs→
  B7 (A2 all) xs.length (i:Int) b=
   some (match PA xs b i with|some j=> .inr ((j:Int),b)|none=> .inl b):=by
 intro xs;induction xs with
 |nil=>intro i _; rfl
 |cons x xs ih=>
  intro i hd;have hx:idx all (i:Int)=some x:=Dk (by
   have:(all.drop i)[0]? =some x:=by rw[hd]; rfl
   simpa using this)
  have hd':all.drop (i+1)=xs:=by rw[←AlZ,hd]; rfl
  have hb:A2 all (i:Int) b=some (if x.Body=b then .inr ((i:Int),b)else .inl b):=by
   unfold A2 MF LL;rw[hx];simp only[Aa];by_cases h:x.Body=b
   ·rw[Ak3 h,Ak3 (Zw.2 h)]
   ·rw[Ak1 h,Ak1 (fun q=>h (Zw.1 q))]
  simp only[Ak8,B7,hb,Aa,PA];by_cases h:x.Body=b
  ·rw[Ak3 h,Ak3 h]
  ·rw[Ak1 h,Ak1 h];exact ih (i+1) hd'
theorem AfY {all:List g_api_Leaf}{b:List UInt8}(hl:all.length≤100000):
  A9 all b=some (match PA all b 0 with|some j=>(j:Int)|none=> -1,b):=by
 have h:=AfX all b hl all 0 rfl;unfold A9;rw[show(0:Int)=((0:Nat):Int)from rfl,h,Aa];cases PA all b 0<;>rfl
theorem Aap: ∀{xs:List g_api_Leaf} {b:List UInt8} {i:Nat},PA xs b i=none→∀x∈xs,x.Body≠b:=by
 intro xs;induction xs with
 |nil=>intro b i _ x hx; cases hx
 |cons y xs ih=>
  intro b i h x hx;simp only[PA]at h;by_cases hy:y.Body=b
  ·rw[Ak3 hy]at h; cases h
  ·rw[Ak1 hy]at h;rcases Als.1 hx with rfl|hx
   ·exact hy
   ·exact ih h x hx
theorem Afc (p z:UInt64){msg:List UInt8}(s:g_api_Sig)(hm:msg.length≤600000)(hz:FU (Sc 2305843009213691579 p s.E)=some (z,0)):
  (Ab (Dx p s.E) fun x2=>Ab (FU x2) fun x3=>Ab (gu (!(x3.2 !=0)) (Ec s.S)) fun x4=>Ab (gu (!(x3.2 !=0)) (Hg x4 x3.1)) fun x5=>Ab (gu (!(x3.2 !=0)) (Dh x5 p msg)) fun x6=>
   if((x3.2 !=0)||((x6.toNat:Int) !=(s.E.toNat:Int)))=true then some (40:Int)else some 0)
   =if(((chal (V6 2305843009213691579 (K0 s.S) z) p msg).toNat:Int) !=(s.E.toNat:Int))=true then some 40 else some 0:=by
 have e1:((z,(0:Int)).2 !=0)=false:=rfl;unfold Hg;rw[Rk,Aa,hz,Aa,e1,Ame,Wk,Vh,Aa,Wk,KZ dvQ,Aa,Aa,Wk];dsimp only;rw[show Sc 2305843009213691579 4 s.S=K0 s.S from rfl,X7 _ _ hm,Aa,AlU]
theorem inv_of {p E:UInt64}(hpow:p.toNat^gr%GQ=1)(hE:E.toNat≤gr): ∃z:UInt64,FU (Sc 2305843009213691579 p E)=some (z,0)∧z.toNat*(Sc 2305843009213691579 p E).toNat%GQ=1:=by
 have hinv:(Sc 2305843009213691579 p E).toNat*p.toNat^ (gr-E.toNat)%GQ=1:=by
  rw[OG]; exact Ac7 (k:=0) hpow hE
 exact AhE hinv
theorem le_gr {E:UInt64}(hE:E.toNat<1152921504606845789):E.toNat≤gr:=Nat.le_of_lt hE
theorem max_ge {a b:UInt64}:decide (((QB a b).toNat:Int)≥1152921504606845789)=(decide ((a.toNat:Int)≥1152921504606845789)||decide ((b.toNat:Int)≥1152921504606845789)):=by
 rw[AlT,AlO,Ak7,Ak7,Ak7];unfold QB;split
 ·rename_i hlt;have:=UInt64.lt_iff_toNat_lt.1 hlt;omega
 ·rename_i hlt;have:=mt UInt64.lt_iff_toNat_lt.2 hlt;omega
theorem pow_one {p:UInt64}(h:((Sc 2305843009213691579 p 1152921504606845789).toNat:Int)=1):p.toNat^gr%GQ=1:=by
 have h1:=OG p 1152921504606845789;rw[show(1152921504606845789:UInt64).toNat=gr from rfl]at h1;rw[←h1];exact Int.ofNat.inj h
theorem AkJ {a b:UInt64}(h:(decide ((a.toNat:Int)≥1152921504606845789)||decide ((b.toNat:Int)≥1152921504606845789))=false):a.toNat<1152921504606845789:=by
 rw[Bool.or_eq_false_iff,decide_eq_false_iff_not]at h;have:=h.1;omega
theorem inP_eq (p:UInt64):Dj p=some (((decide ((p.toNat:Int)>0))&&(decide ((p.toNat:Int)<2305843009213691579)))&&(((Sc 2305843009213691579 p 1152921504606845789).toNat:Int)==1)):=by
 unfold Dj;cases (decide ((p.toNat:Int)>0))&&(decide ((p.toNat:Int)<2305843009213691579))
 ·simp only[gu,cond_false,Aa,Bn,Al3]
 ·simp only[gu,cond_true,Rk,Aa,Bn,Alx]
theorem in_one {p:UInt64}(h:(((decide ((p.toNat:Int)>0))&&(decide ((p.toNat:Int)<2305843009213691579)))&&(((Sc 2305843009213691579 p 1152921504606845789).toNat:Int)==1))=true):((Sc 2305843009213691579 p 1152921504606845789).toNat:Int)=1:=by
 rw[AkZ]at h;exact AlM.1 h.2
theorem WD (p:UInt64){msg:List UInt8}(s:g_api_Sig)(hm:msg.length≤600000): ∃e,Ds p msg s=some e:=by
 unfold Ds;rw[inP_eq,Aa,max_ge];cases h1:((decide ((p.toNat:Int)>0))&&(decide ((p.toNat:Int)<2305843009213691579)))&&(((Sc 2305843009213691579 p 1152921504606845789).toNat:Int)==1)with
 |false=>rw[Ame,Ak3 rfl]; exact⟨_,rfl⟩
 |true=>
  rw[AlX,Ak1 Bool.false_ne_true];cases h2:(decide ((s.E.toNat:Int)≥1152921504606845789)||decide ((s.S.toNat:Int)≥1152921504606845789))with
  |true=>rw[Ak3 rfl]; exact⟨_,rfl⟩
  |false=>
   rw[Ak1 Bool.false_ne_true];obtain⟨z,z1,z2⟩:=inv_of (pow_one (in_one h1)) (le_gr (AkJ h2));rw[Afc p z s hm z1];split<;>exact⟨_,rfl⟩
theorem Xe (k:g_api_Key)(log:Int)(ok:Bool){msg:List UInt8}(s:g_api_Sig)(hm:msg.length≤600000): ∃e,ES k log ok msg s=some e:=by
 unfold ES;rw[GF,Aa];split
 ·exact⟨_,rfl⟩
 ·split
  ·exact⟨_,rfl⟩
  ·obtain⟨e,he⟩:=WD k.Key s hm;rw[he,Aa];exact⟨_,rfl⟩
theorem AaC (k:g_api_Key)(p:g_api_Head): ∃e,CR k p=some e:=by
 unfold CR;rw[GF,Aa,Rq,Aa];obtain⟨e,he⟩:=Xe k p.Log ((IQ p.At&&(decide (p.Size≥0)))&&(decide (p.Size≤256))) p.Sig (RL p);rw[he,Aa];exact⟨_,rfl⟩
def chd (k:g_api_Key)(h:g_api_Head):Int:=(CR k h).getD 0
theorem AhY (k:g_api_Key)(h:g_api_Head):CR k h=some (chd k h):=by
 obtain⟨e,he⟩:=AaC k h;unfold chd;rw[he]; rfl
def Kg (h:g_api_Head)(ks:List g_api_Key):Bool:=match fnd (fun k:g_api_Key=>k.Log==h.Log) ks 0 with|some q=>chd q.2 h==0|none=>false
theorem Adb (l:List g_api_Key)(k:g_api_Head):Bj l k=some ((match fnd (fun y:g_api_Key=>y.Log==k.Log) l 0 with|some q=>(q.1:Int)|none=> -1),k):=by
 have:=Ww (body:=BM l) (s:=pk7 k) (l:=l) (fun y:g_api_Key=>y.Log==k.Log) (fun i=>((i:Int),k)) (fun i hi=> ?_) l 0 rfl
 ·unfold Bj;rw[show((0:Nat):Int)=0 from rfl]at this;rw[show(k.Log,k.Size,k.Root.1,k.Root.2,k.At,k.Sig.E,k.Sig.S)=pk7 k from rfl,this,Aa];cases fnd (fun y:g_api_Key=>y.Log==k.Log) l 0<;>rfl
 ·unfold BM IV pk7;dsimp only;rw[RK hi,Aa,Aa];cases l[i].Log==k.Log<;>rfl
theorem YF (h:g_api_Head)(ks:List g_api_Key):GJ h ks=some (Kg h ks):=by
 unfold GJ Kg;rw[Adb,Aa];cases hf:fnd (fun y:g_api_Key=>y.Log==h.Log) ks 0 with
 |none=>rfl
 |some q=>
  obtain⟨k,k1,k2,_⟩:=Zb hf;obtain⟨j,x⟩:=q;have hq:j=k:=by dsimp only at k1; omega
  subst hq;have hd:decide ((j:Int)≥0)=true:=by simp
  dsimp only at k2⊢;rw[hd,Dk k2];simp only[gu,cond_true,Aa,AhY,Bn,Alx]
def Pp (l:List g_api_Head)(ks:List g_api_Key):Bool:=l.all fun h=>Kg h ks
theorem VV (ks:List g_api_Key): ∀(xs:List g_api_Head) (i:Int),DO (Gp ks) xs i ()=some (if Pp xs ks=true then .inl ()else .inr 40)
 | [],i=>rfl
 |x::xs,i=>by
  have h1:Gp ks i x ()=some (if Kg x ks=true then .inl ()else .inr 40):=by
   unfold Gp;rw[YF,Aa];cases Kg x ks<;>rfl
  unfold Pp;by_cases c:Kg x ks=true
  ·simp only[DO,h1,c,if_true,Aa,AlQ,Alx];exact VV ks xs (i+1)
  ·have c':Kg x ks=false:=by simpa using c
   simp only[DO,h1,c',Bool.false_eq_true,if_false,Aa,AlQ,Al3]
def Ha (l:List g_api_Head)(ks:List g_api_Key):Int:=if l.length>1024 then 2 else if chB l=true then(if Pp l ks=true then 0 else 40)else 1
theorem RN (p:g_api_Pool)(ks:List g_api_Key):GK p ks=some (Ha p.L ks):=by
 unfold GK Ha;simp only[Bn];by_cases h:p.L.length>1024
 ·rw[Ak3 (by simp; omega),Ak3 h]
 ·rw[Ak1 (by simp; omega),Ak1 h,Aad (by omega),Aa];cases chB p.L
  ·rfl
  ·simp only[AlX,Bool.false_eq_true,if_false,if_true,VV,Aa];cases Pp p.L ks<;>rfl
theorem OV {l:List g_api_Head}{ks:List g_api_Key}:Ha l ks=0↔l.length≤1024∧l.Pairwise ltH∧∀h∈l,Kg h ks=true:=by
 unfold Ha;by_cases h:l.length>1024
 ·rw[Ak3 h]; constructor
  ·intro q; cases q
  ·intro q; omega
 ·rw[Ak1 h];cases hc:chB l
  ·rw[Ak1 Bool.false_ne_true];constructor
   ·intro q; cases q
   ·intro q; rw[(Xb l).2 q.2.1]at hc; cases hc
  ·rw[Ak3 rfl];have hs:=(Xb l).1 hc;cases hr:Pp l ks
   ·rw[Ak1 Bool.false_ne_true];constructor
    ·intro q; cases q
    ·intro q;have:Pp l ks=true:=Alj.2 q.2.2;rw[this]at hr; cases hr
   ·rw[Ak3 rfl];exact⟨fun _=>⟨by omega,hs,Alj.1 hr⟩,fun _=>rfl⟩
theorem UA {h:g_api_Head}: ∀{l:List g_api_Head},l.Pairwise ltH→∀i (hi:i<l.length),UB l[i] h<0↔i<LX h l
 | [],_,i,hi=>by simp at hi
 |x::l,hl,i,hi=>by
  have hx:=(List.pairwise_cons.1 hl).1;unfold LX;cases i with
  |zero=>
   simp only[List.getElem_cons_zero];split
   ·exact⟨fun _=>by omega,fun _=>by assumption⟩
   ·exact⟨fun q=>absurd q (by assumption),fun q=>by omega⟩
  |succ i=>
   simp only[List.getElem_cons_succ];have hi':i<l.length:=by simpa using hi
   have ih:=UA (List.pairwise_cons.1 hl).2 i hi' (h:=h);split
   ·rw[ih]; omega
   ·rename_i c;constructor
    ·intro q;exact absurd (Nb.2 (Rz (hx _ (List.getElem_mem hi')) (Nb.1 q))) c
    ·intro q; omega
theorem Af8 {i j:Nat}(h:i+j≤1099511627776):w64 ((EY (toU (w64 ((i:Int)+(j:Int)))) 1).toNat:Int)=(((i+j)/2:Nat):Int):=by
 have h1:w64 ((i:Int)+(j:Int))=((i+j:Nat):Int):=by rw[Bo (by omega) (by omega)]; omega
 rw[h1];have h2:(toU ((i+j:Nat):Int)).toNat=i+j:=by
  have:=Abd ((i+j:Nat):Int);rw[Int.emod_eq_of_lt (by omega) (by omega)]at this;omega
 rw[Fb _ _ (by decide),h2,Nat.pow_one,Bo (by omega) (by omega)]
theorem bs_it {l:List g_api_Head}{h:g_api_Head}(hl:l.Pairwise ltH)(hn:l.length≤500000000000): ∀(d i j n:Nat),j-i≤d→d<n→i≤LX h l→LX h l≤j→j≤l.length→
  iter (Ah l h) n ((i:Int),(j:Int))=some ((LX h l:Nat):Int):=by
 intro d;induction d with
 |zero=>
  intro i j n hd hn' h1 h2 h3;obtain⟨n,rfl⟩: ∃q,n=q+1:=⟨n-1,by omega⟩;have hs:Ah l h ((i:Int),(j:Int))=some (.inr (i:Int)):=by
   unfold Ah; rw[Ak1 (by simp; omega)]
  simp only[iter,hs,Aa];rw[show i=LX h l from by omega]
 |succ d ih=>
  intro i j n hd hn' h1 h2 h3;obtain⟨n,rfl⟩: ∃q,n=q+1:=⟨n-1,by omega⟩;by_cases hij:i<j
  ·have hm:(i+j)/2<l.length:=by omega
   have hs:Ah l h ((i:Int),(j:Int))=some (.inl (if(i+j)/2<LX h l then((((i+j)/2+1:Nat):Int),(j:Int))else((i:Int),(((i+j)/2:Nat):Int)))):=by
    unfold Ah;dsimp only;rw[Ak3 (by simpa using hij),Af8 (by omega)];unfold bnd;dsimp only;rw[RK hm,Aa,Uz,Aa,AeF hm (by omega)];by_cases c:(i+j)/2<LX h l
    ·rw[Ak3 (by simpa using (UA hl _ hm).2 c),Ak3 c]
    ·rw[Ak1 (by simpa using fun q=>c ((UA hl _ hm).1 q)),Ak1 c]
   simp only[iter,hs,Aa];by_cases c:(i+j)/2<LX h l
   ·rw[Ak3 c]; exact ih _ _ n (by omega) (by omega) (by omega) h2 h3
   ·rw[Ak1 c]; exact ih _ _ n (by omega) (by omega) h1 (by omega) (by omega)
  ·have hs:Ah l h ((i:Int),(j:Int))=some (.inr (i:Int)):=by
    unfold Ah; rw[Ak1 (by simp; omega)]
   simp only[iter,hs,Aa];rw[show i=LX h l from by omega]
theorem AjZ {l:List g_api_Head}{h:g_api_Head}(hl:l.Pairwise ltH):Aj0 l h=if hc:LX h l<l.length then UB l[LX h l] h==0 else false:=by
 rw[AlT,UY];constructor
 ·rintro⟨x,hx,he⟩;obtain⟨i,hi,hxi⟩:=List.mem_iff_getElem.1 hx;have h0:UB l[i] h=0:=Rp.2 (hxi▸he);have hle: ¬i<LX h l:=fun q=>by have:=(UA hl i hi).2 q; omega
  have hc:LX h l<l.length:=by omega
  rw[dif_pos hc];have:LX h l=i:=by
   apply Classical.byContradiction;intro q;have hlt:LX h l<i:=by omega
   have:=List.pairwise_iff_getElem.1 hl (LX h l) i hc hi hlt;exact AhU hc (Nb.2 (ltH_eq this (Rp.1 h0)))
  simp only[this,h0,beq_self_eq_true]
 ·intro q;split at q
  ·rename_i hc;exact⟨_,List.getElem_mem hc,Rp.1 (by simpa using q)⟩
  ·cases q
theorem bs_eqG {l:List g_api_Head}{h:g_api_Head}(hl:l.Pairwise ltH)(hn:l.length≤500000000000):Az l h=some (((LX h l:Nat):Int),Aj0 l h):=by
 have hc:=AdL h l;have:=bs_it (h:=h) hl hn l.length 0 l.length F7 (by omega) (by unfold F7; omega) (by omega) hc (Ak6 _);unfold Az;rw[show((0:Nat):Int)=0 from rfl]at this;rw[this,Aa,Aa,AjZ hl];by_cases c:LX h l<l.length
 ·have hd:decide (((LX h l:Nat):Int)<(l.length:Int))=true:=by simpa using c
  rw[hd,RK c,dif_pos c];simp only[gu,cond_true,Aa,Uz,Bn,Alx]
 ·have hd:decide (((LX h l:Nat):Int)<(l.length:Int))=false:=by simpa using c
  rw[hd,dif_neg c];simp only[gu,cond_false,Aa,Bn,Al3]
theorem Ac9 {l:List g_api_Head}{h:g_api_Head}(hn:l.length≤500000000000):AZ l ((LX h l:Nat):Int) [h]=some (Ob l h):=by
 have hc:=AdL h l;unfold AZ;rw[Ak3 ⟨by omega,by omega⟩,Ak1 (by simp),SM];by_cases c:LX h l=l.length
 ·rw[Ak3 (by simp[c]),appL (by simp; omega) (by decide),Aa,c]; simp
 ·rw[Ak1 (by simp; omega),appL (by simp; omega) (by decide),Aa,AlJ]; simp
def SH (l:List g_api_Head)(h:g_api_Head)(ks:List g_api_Key):List g_api_Head×Int:=if Ha l ks=0 then(if Kg h ks=true then(if Aj0 l h=true then(l,0)else if l.length<1024 then(Ob l h,0)else([],2))else([],40))else([],Ha l ks)
theorem Aj8 (p:g_api_Pool)(h:g_api_Head)(ks:List g_api_Key):Ks p h ks=some (⟨(SH p.L h ks).1⟩,(SH p.L h ks).2):=by
 unfold Ks SH;rw[RN,Aa];by_cases hc:Ha p.L ks=0
 ·obtain⟨h1,h2,h3⟩:=OV.1 hc;rw[Ak1 (by simp[hc]),Ak3 hc,YF,Aa];cases Kg h ks
  ·rfl
  ·simp only[AlX,Bool.false_eq_true,if_false,if_true,bs_eqG h2 (show p.L.length≤500000000000 by omega),Aa];cases Aj0 p.L h
   ·simp only[Bool.false_eq_true,if_false,Bn];by_cases hl:p.L.length<1024
    ·rw[Ak1 (by simp; omega),Ak3 hl,AdN (by omega),Aa,Ac9 (by omega),Aa]
    ·rw[Ak3 (by simp; omega),Ak1 hl]
   ·rfl
 ·rw[Ak3 (by simpa using hc),Ak1 hc]
def Tot {α:Type}(x:Option α):Prop:= ∃r,x=some r
theorem tot {α:Type}(r:α):Tot (some r):=⟨r,rfl⟩
theorem Dm {α β:Type}{x:Option α}{k:α→Option β}(h:Tot x)(hk: ∀a,x=some a→Tot (k a)):Tot (Ab x k):=by
 obtain⟨a,h⟩:=h;rw[h]; exact hk a h
theorem Q4 {α:Type} [Inhabited α]{b:Bool}{x:Option α}(h:b=true→Tot x):Tot (gu b x):=by
 cases b with
 |true=>exact h rfl
 |false=>exact tot default
theorem Q3 {α:Type}{b:Bool}{x y:Option α}(h1:b=true→Tot x)(h0:b=false→Tot y):Tot (if b=true then x else y):=by
 cases b with
 |true=>exact h1 rfl
 |false=>exact h0 rfl
theorem Aip {α:Type}{c:Prop} [Decidable c]{x y:Option α}(h1:c→Tot x)(h0: ¬c→Tot y):Tot (if c then x else y):=by
 split
 ·exact h1 ‹_›
 ·exact h0 ‹_›
theorem QD {σ τ:Type}{step:σ→Option (σ⊕τ)}(μ:σ→Nat)(I:σ→Prop)(Q:τ→Prop)
  (h: ∀s,I s→∃r,step s=some r∧(∀s',r= .inl s'→I s'∧μ s'<μ s)∧∀t,r= .inr t→Q t): ∀n s,I s→μ s<n→∃t,iter step n s=some t∧Q t
 |0,s,_,hn=>by omega
 |n+1,s,hI,hn=>by
  obtain⟨r,h1,h2,h3⟩:=h s hI;cases r with
  |inr t=>exact⟨t,by show Ab (step s) _=_; rw[h1]; rfl,h3 t rfl⟩
  |inl s'=>
   obtain⟨i',lt⟩:=h2 s' rfl;obtain⟨t,e,q⟩:=QD μ I Q h n s' i' (by omega);exact⟨t,by show Ab (step s) _=_; rw[h1]; exact e,q⟩
theorem Tw (s:ByteArray)(i:Nat):1≤(Utf8.decode s i).2:=by
 unfold Utf8.decode;simp only;repeat' split
 all_goals simp
theorem Ky:9223372036854775808≤F7:=Ald rfl
theorem Abh (c:Int):LK c=some (decide (c≤32)||decide (c>126)):=rfl
theorem UT (s:ByteArray)(b:Bool)(hs:s.size<9223372036854775808):Tot (Dc s b):=by
 unfold Dc;refine Dm ?_ fun a _=> ?_
 ·obtain⟨t,e,_⟩:=QD (step:=DJ s b) (fun i=>s.size-i) (fun _=>True) (fun _=>True) (fun i _=>by
   unfold DJ;by_cases hi:i<s.size
   ·rw[Ak3 hi];simp only[bnd,Abh,Aa];split
    ·exact⟨_,rfl,fun s' h=>(by cases h),fun _ _=>trivial⟩
    ·refine⟨_,rfl,fun s' h=> ?_,fun _ _=>trivial⟩;cases h;have:=Tw s i;exact⟨trivial,by omega⟩
   ·rw[Ak1 hi];exact⟨_,rfl,fun s' h=>(by cases h),fun _ _=>trivial⟩) F7 0 trivial (by have:=Ky; omega)
  exact⟨t,e⟩
 ·cases a with
  |inl _=>exact tot _
  |inr _=>exact tot _
theorem AeI (s:ByteArray):Tot (EV s):=by
 unfold EV;refine Dm (Q4 fun h=> ?_) fun a _=>tot _;simp only[AkZ,Ak7]at h;unfold DK Ey;refine Dm (Dm (UT s true (by omega)) fun a _=>tot _) fun a _=>tot _
theorem Abf {s:ByteArray}{b:Bool}(h:EV s=some b):b=true→eqS s (⟨#[]⟩:ByteArray)=false∧s.size≤64:=by
 unfold EV at h;obtain⟨x,_,h⟩:=Ae h;have h:=AkY (Ah5 h);intro hb;rw[hb]at h;simp only[AkZ,Bool.not_eq_true',Ak7]at h;exact⟨h.1.1,by omega⟩
theorem U3 (c:Int):Tot (Dt c):=tot _
theorem Ada (c:Int):Tot (Dq c):=by
 unfold Dq;exact Dm (Q4 fun _=>U3 c) fun a _=>tot _
theorem AcR (s:ByteArray):Tot (Gi s):=by
 unfold Gi;refine Q3 (fun _=>tot _) fun h=> ?_;simp only[Bool.or_eq_false_iff,decide_eq_false_iff_not]at h;refine Dm ?_ fun a _=> ?_
 ·obtain⟨t,e,_⟩:=QD (step:=Bi s) (fun i=>s.size-i) (fun _=>True) (fun _=>True) (fun i _=>by
   unfold Bi;by_cases hi:i<s.size
   ·rw[Ak3 hi];have hd:=Tw s i;obtain⟨x4,h4⟩:=Q4 (b:=((i:Int)==(w64 ((s.size:Int)-1)))) fun _=>U3 ((Utf8.decode s i).1:Int);obtain⟨x7,h7⟩:=Q4 (b:=((i:Int)==0)) fun _=>U3 ((Utf8.decode s i).1:Int);obtain⟨x9,h9⟩:=Q4 (b:=(!((i:Int)==0))) fun _=>Ada ((Utf8.decode s i).1:Int);simp only[bnd,h4,h7,h9,Aa];split
    ·exact⟨_,rfl,fun s' h=>(by cases h; exact⟨trivial,by omega⟩),fun _ _=>trivial⟩
    ·split
     ·exact⟨_,rfl,fun s' h=>(by cases h),fun _ _=>trivial⟩
     ·split
      ·exact⟨_,rfl,fun s' h=>(by cases h; exact⟨trivial,by omega⟩),fun _ _=>trivial⟩
      ·split
       ·exact⟨_,rfl,fun s' h=>(by cases h),fun _ _=>trivial⟩
       ·exact⟨_,rfl,fun s' h=>(by cases h; exact⟨trivial,by omega⟩),fun _ _=>trivial⟩
   ·rw[Ak1 hi];exact⟨_,rfl,fun s' h=>(by cases h),fun _ _=>trivial⟩) F7 0 trivial (by have:=Ky; omega)
  exact⟨t,e⟩
 ·cases a with
  |inl _=>exact tot _
  |inr _=>exact tot _
theorem AhC: ∀(l:List UInt8) (c:UInt8),Lib.indexByte l c<l.length
 | [],c=>by simp[Lib.indexByte]
 |b::l,c=>by
  have:=AhC l c;unfold Lib.indexByte;split
  ·rw[Ak8]; omega
  ·split
   ·rw[Ak8]; omega
   ·rw[Ak8]; omega
theorem Co (s:ByteArray):s.data.toList.length=s.size:=by rw[Array.length_toList]; rfl
theorem Wj (s:ByteArray): ∃x:Int,Cp s (⟨#[46]⟩:ByteArray)=some x∧ -1≤x∧x<s.size:=by
 unfold Cp A5 B1;simp only[bnd];by_cases h:((((⟨#[46]⟩:ByteArray).size:Int)==0)||eqS (⟨#[46]⟩:ByteArray) s)=true
 ·rw[Ak3 h];refine⟨0,rfl,by omega,?_⟩;have h1:eqS (⟨#[46]⟩:ByteArray) s=true:=by
   cases he:eqS (⟨#[46]⟩:ByteArray) s with
   |true=>rfl
   |false=>rw[he]at h; cases h
  have h2: [(46:UInt8)]=s.data.toList:=by simpa[eqS]using h1
  have h3:=Co s;rw[←h2]at h3;simp only[Ak8,Alm]at h3;omega
 ·rw[Ak1 h];refine⟨Ac1 s 46,rfl,Lib.indexByte_ge _ _,?_⟩;have:=AhC s.data.toList 46;rw[Co]at this;exact this
theorem G0 {x:Int}(h0: -9223372036854775808≤x)(h1:x≤9223372036854775807):w64 x=x:=by
 unfold w64; omega
theorem Io {s:ByteArray}{lo hi:Int}(h0:0≤lo)(h1:lo≤hi)(h2:hi≤s.size):U6 s lo hi=some (s.extract lo.toNat hi.toNat):=by
 unfold U6; rw[Ak3 ⟨h0,h1,h2⟩]
theorem UH (s:ByteArray)(n k:Int):CQ s n k=Ab (if(decide ((s.size:Int)>k))=true then some true else Ab (FM s (⟨#[46]⟩:ByteArray)) fun x3=>some (decide (x3≥n))) fun x2=>if x2=true then some false else
  Ab (Hx s (⟨#[46]⟩:ByteArray)) fun x4=>Ab (Bx (fun(s:(Unit)×Nat) (b0:ByteArray)=>if s.2=0 then Ab (BP b0 s) fun y=>some (y.2==0,y)else none) x4.1 x4.2.1 x4.2.2 ((),0)) fun x5=>
  if(x5.2.2.2).2=0 then some true else some false:=by
 unfold CQ;cases decide ((s.size:Int)>k)with
 |true=>rfl
 |false=>cases FM s (⟨#[46]⟩:ByteArray)with|none=>rfl|some x=>rfl
theorem YU (s:ByteArray)(n k:Int)(hk:k≤64):Tot (CQ s n k):=by
 rw[UH];refine Dm ?_ fun x2 hx2=> ?_
 ·refine Q3 (fun _=>tot _) fun _=> ?_;exact⟨_,rfl⟩
 ·refine Q3 (fun _=>tot _) fun h=> ?_;have hsz:s.size≤64:=by
   cases hd:decide ((s.size:Int)>k)with
   |true=>rw[Ak3 hd]at hx2; cases hx2; cases h
   |false=>simp only[decide_eq_false_iff_not]at hd; omega
  have key: ∃r,Bx (fun(s:(Unit)×Nat) (b0:ByteArray)=>if s.2=0 then Ab (BP b0 s) fun y=>some (y.2==0,y)else none) (⟨#[46]⟩:ByteArray) s 0 ((),0)=some r:=by
   have hb5: ∀(b0:ByteArray) (s:Unit×Nat),∃z:Nat,BP b0 s=some ((),z):=fun b0 s=>by
    unfold BP;obtain⟨y,hy⟩:=AcR b0;rw[hy];simp only[Aa];split
    ·exact⟨1,rfl⟩
    ·exact⟨0,rfl⟩
   unfold Bx;rw[Ak1 (by decide)];obtain⟨tt,hit,hq⟩: ∃t,iter (AW (fun(s:(Unit)×Nat) (b0:ByteArray)=>if s.2=0 then Ab (BP b0 s) fun y=>some (y.2==0,y)else none) (⟨#[46]⟩:ByteArray) 0) F7 (s,((),0))=some t∧∀y,t= .inl y→y.2.2=0:=by
    exact QD (step:=AW (fun(s:(Unit)×Nat) (b0:ByteArray)=>if s.2=0 then Ab (BP b0 s) fun y=>some (y.2==0,y)else none) (⟨#[46]⟩:ByteArray) 0) (fun z=>z.1.size) (fun z=>z.1.size≤64∧z.2.2=0) (fun t=> ∀y,t= .inl y→y.2.2=0) (fun z hz=>by
     obtain⟨x,h1,h2,h3⟩:=Wj z.1;unfold AW;rw[h1];simp only[Aa];by_cases hx:x<0
     ·rw[Ak3 (by simpa using hx)];exact⟨_,rfl,fun s' h=>(by cases h),fun t ht y hy=>by subst hy; cases ht; exact hz.2⟩
     ·rw[Ak1 (by simpa using hx)];have hw:w64 (x+0)=x:=by rw[Int.add_zero]; exact G0 (by omega) (by omega)
      have hw1:w64 (x+((⟨#[46]⟩:ByteArray).size:Int))=x+1:=G0 (x:=x+1) (by omega) (by omega);rw[hw,hw1,Io (by omega) (by omega) (by omega),Io (lo:=x+1) (by omega) (by omega) (by omega)];simp only[Aa,Ak3 hz.2];obtain⟨zz,hzz⟩:=hb5 (z.1.extract (0:Int).toNat x.toNat) z.2;rw[hzz];simp only[Aa];split
      ·exact⟨_,rfl,fun s' h=>(by cases h),fun t ht y hy=>by subst hy; cases ht⟩
      ·rename_i hne;refine⟨_,rfl,fun s' h=> ?_,fun t ht=>by cases ht⟩;cases h;have e0:zz=0:=by simpa using hne
       refine⟨⟨?_,e0⟩,?_⟩
       ·simp only[ByteArray.size_extract]; omega
       ·simp only[ByteArray.size_extract]; omega) F7 (s,((),0)) ⟨hsz,rfl⟩ (by have:=Ky; show s.size<F7; omega)
   show Tot (Ab (iter _ F7 (s,((),0))) _);rw[hit];cases tt with
   |inr _=>exact tot _
   |inl y3=>
    have h0:=hq y3 rfl;obtain⟨zz,hzz⟩:=hb5 y3.1 y3.2;simp only[Aa,Ak3 h0,hzz];exact tot _
  obtain⟨r,hr⟩:=key;show Tot (Ab (Bx _ (⟨#[46]⟩:ByteArray) s 0 ((),0)) _);rw[hr];simp only[Aa];exact Aip (fun _=>tot _) fun _=>tot _
theorem AhD (s:ByteArray):Tot (Gj s):=Dm (YU s 8 64 (by decide)) fun a _=>tot _
theorem Aeg (s:ByteArray):Tot (D7 s):=by
 unfold D7;refine Dm (AhD s) fun a _=>Dm ?_ fun a _=>tot _;unfold Hf;exact Q3 (fun _=>tot _) fun _=>tot _
theorem U7 (s:ByteArray):Tot (Cy s (⟨#[42,46]⟩:ByteArray)):=by
 unfold Cy Bt Bq;refine Dm (Dm (Dm (Q4 fun h=> ?_) fun a _=>tot _) fun b hb=> ?_) fun a _=>tot _
 ·simp only[Ak7]at h;exact⟨_,Io (by omega) (by omega) h⟩
 ·refine Q3 (fun _=>tot _) fun h=> ?_;obtain⟨x,_,hx⟩:=Ae hb;have hx:=AkY (Ah5 hx);have hb:b=true:=by simpa using h
  rw[hb]at hx;simp only[AkZ,Ak7]at hx;exact Dm ⟨_,Io (by omega) hx.1 (by omega)⟩ fun a _=>tot _
theorem Yi (s:ByteArray):Tot (DM s):=by
 unfold DM DL;refine Dm (Dm (AhD s) fun a _=>Q3 (fun _=>tot _) fun _=>Dm (U7 s) fun b _=>Dm (Q4 fun _=>YU _ 7 62 (by decide)) fun c _=>tot _) fun a _=>Dm ?_ fun a _=>tot _;unfold Hf;exact Q3 (fun _=>tot _) fun _=>tot _
theorem Abc {α:Type}{x:Option α}{d:α}(h:Tot x):x=some (x.getD d):=by
 obtain⟨r,h⟩:=h;rw[h]; rfl
def textV (s:ByteArray):Bool:=(EV s).getD false
def nameV (s:ByteArray):Int:=(D7 s).getD 0
def patV (s:ByteArray):Int:=(DM s).getD 0
theorem Abg (s:ByteArray):EV s=some (textV s):=Abc (AeI s)
theorem UI (s:ByteArray):D7 s=some (nameV s):=Abc (Aeg s)
theorem Acm (s:ByteArray):DM s=some (patV s):=Abc (Yi s)
theorem Yr {s:ByteArray}(h:textV s=true):eqS s (⟨#[]⟩:ByteArray)=false∧s.size≤64:=Abf (Abg s) h
theorem V5 {s:ByteArray}{n k:Int}(h:CQ s n k=some true):(s.size:Int)≤k:=by
 rw[UH]at h;obtain⟨x,hx,h⟩:=Ae h;cases hd:decide ((s.size:Int)>k)with
 |true=>
  rw[Ak3 hd]at hx;cases hx;cases h
 |false=>simp only[decide_eq_false_iff_not]at hd; omega
theorem Ac4 {s:ByteArray}(h:Gj s=some true):s.size≤64:=by
 obtain⟨x,hx,h⟩:=Ae h;cases h;have:=V5 hx;omega
theorem VH {b:Bool}{r:Int}(h:Hf b=some r)(h0:r=0):b=true:=by
 cases b with
 |true=>rfl
 |false=>
  have h2:(110:Int)=r:=AkY h;omega
theorem Aae {s:ByteArray}(h:nameV s=0):s.size≤64:=by
 have e:=UI s;rw[h]at e;obtain⟨x,hx,e⟩:=Ae e;obtain⟨y,hy,e⟩:=Ae e;cases e;have:=VH hy rfl;rw[this]at hx;exact Ac4 hx
theorem SE {s:ByteArray}{c:ByteArray×Bool}(h:Cy s (⟨#[42,46]⟩:ByteArray)=some c)(h1:c.2=true):c.1.size+2=s.size:=by
 unfold Cy Bt Bq at h;obtain⟨d,hd,h⟩:=Ae h;have h:=AkY h;subst h;obtain⟨p,hp,hd⟩:=Ae hd;cases p with
 |false=>
  have hd:=AkY hd;subst hd;cases h1
 |true=>
  obtain⟨q,hq,hd⟩:=Ae hd;have hd:=AkY hd;subst hd;unfold U6 at hq;split at hq
  ·rename_i hc;have hq:=AkY hq;have e2:(⟨#[42,46]⟩:ByteArray).size=2:=rfl;rw[e2]at hq hc;show q.size+2=s.size;rw[←hq,ByteArray.size_extract];omega
  ·cases hq
theorem Acl {s:ByteArray}(h:patV s=0):s.size≤64:=by
 have e:=Acm s;rw[h]at e;obtain⟨x,hx,e⟩:=Ae e;obtain⟨y,hy,e⟩:=Ae e;cases e;have h1:=VH hy rfl;unfold DL at hx;obtain⟨b,hb,hx⟩:=Ae hx;cases b with
 |true=>exact Ac4 hb
 |false=>
  rw[Ak1 (by decide)]at hx;obtain⟨c,hc,hx⟩:=Ae hx;obtain⟨d,hd,hx⟩:=Ae hx;have hx:=AkY hx;subst hx;have h2:(c.2&&d)=true:=h1;simp only[AkZ]at h2;rw[h2.1,h2.2]at hd;have h3:=V5 hd;have h4:=SE hc h2.1;omega
def RC (right:ByteArray→Int):List ByteArray→List ByteArray→Bool
 |_,[]=>true
 |met,s::l=> !(met.any (eqS s))&&right s==0&&RC right (met++[s]) l
def Ms (met:List ByteArray):List (ByteArray×Bool):=met.map fun s=>(s,true)
theorem RA: ∀(met:List ByteArray) (s:ByteArray) (i:Nat),(lkI (Ms met) s i).isSome=met.any (eqS s)∧∀p,lkI (Ms met) s i=some p→p.2=true
 | [],s,i=>⟨rfl,fun p h=>by cases h⟩
 |a::met,s,i=>by
  have ih:=RA met s (i+1);rw[List.any_cons];cases h:eqS s a with
  |true=>
   refine⟨?_,fun p hp=> ?_⟩
   ·show(if eqS s a=true then some (i,true)else lkI (Ms met) s (i+1)).isSome=_;rw[Ak3 h]; rfl
   ·have hp:(if eqS s a=true then some (i,true)else lkI (Ms met) s (i+1))=some p:=hp;rw[Ak3 h]at hp;cases hp; rfl
  |false=>
   refine⟨?_,fun p hp=> ?_⟩
   ·show(if eqS s a=true then some (i,true)else lkI (Ms met) s (i+1)).isSome=_;rw[Ak1 (by rw[h]; decide)]; exact ih.1
   ·have hp:(if eqS s a=true then some (i,true)else lkI (Ms met) s (i+1))=some p:=hp;rw[Ak1 (by rw[h]; decide)]at hp;exact ih.2 p hp
theorem AcI (met:List ByteArray)(s:ByteArray):lkB (Ms met) s=met.any (eqS s):=by
 have h:=RA met s 0;unfold lkB;rw[←h.1];cases e:lkI (Ms met) s 0 with
 |none=>rfl
 |some p=>rw[Alh,Option.getD_some,h.2 p e]; rfl
theorem AfF (met:List ByteArray)(s:ByteArray)(h:met.any (eqS s)=false):(lkI (Ms met) s 0).isNone=true:=by
 have h1:=(RA met s 0).1;rw[h]at h1;cases e:lkI (Ms met) s 0 with
 |none=>rfl
 |some p=>rw[e]at h1; cases h1
theorem AjA (right:ByteArray→Int)(mr:ByteArray→Option Int)(hr: ∀s,mr s=some (right s)): ∀(l met:List ByteArray) (i:Int),
  DO (fun(i1:Int) (x2:ByteArray) (s1:List (ByteArray×Bool))=>Ab (gu (!(lkB s1 x2)) (mr x2)) fun x3=>if((lkB s1 x2)||(x3 !=0))=true then some (.inr false)else if(lkI s1 x2 0).isNone=true then some (.inl (s1++[(x2,true)]))else none) l i (Ms met)
   =some (if RC right met l=true then .inl (Ms (met++l))else .inr false)
 | [],met,i=>by simp[DO,RC]
 |s::l,met,i=>by
  have ih:=AjA right mr hr l (met++[s]) (i+1);have hm':=AcI met s;simp only[DO,hr]at ih⊢;rw[hm'];cases hm:met.any (eqS s)with
  |true=>simp[gu,RC,hm]
  |false=>
   simp only[gu,Ame,cond_true,Aa,AlU];cases h0:right s==0 with
   |false=>
    have h1:(right s !=0)=true:=by simp only[bne,h0,Ame]
    rw[Ak3 h1];simp[RC,hm,h0]
   |true=>
    have h1:(right s !=0)=false:=by simp only[bne,h0,AlX]
    rw[h1];simp only[Bool.false_eq_true,if_false,AfF met s hm,if_true,Aa];have e:Ms met++[(s,true)]=Ms (met++[s]):=by simp[Ms]
    rw[e];simp only[gu]at ih;rw[ih];simp[RC,hm,h0]
def listV (right:ByteArray→Int)(l:List ByteArray)(a b:Int):Bool:=RC right [] l&&decide ((l.length:Int)≥a)&&decide ((l.length:Int)≤b)
theorem AcL (l:List ByteArray)(a b:Int):GW l a b=some (listV patV l a b):=by
 unfold GW;have h:=AjA patV DM Acm l [] 0;show Ab (DO _ l 0 (Ms [])) _=_;unfold JQ;rw[h];unfold listV;cases RC patV [] l<;>rfl
theorem AcK (l:List ByteArray)(a b:Int):GX l a b=some (listV nameV l a b):=by
 unfold GX;have h:=AjA nameV D7 UI l [] 0;show Ab (DO _ l 0 (Ms [])) _=_;unfold JR;rw[h];unfold listV;cases RC nameV [] l<;>rfl
theorem Wa {right:ByteArray→Int}: ∀{l met:List ByteArray},RC right met l=true→∀s∈l,right s=0
 | [],met,_,s,hs=>by cases hs
 |a::l,met,h,s,hs=>by
  simp only[RC,AkZ,AlM]at h;rcases Als.1 hs with e|hs
  ·rw[e]; exact h.1.2
  ·exact Wa h.2 s hs
def numB (n:Int):Bool:=decide (n≥0)&&decide (n≤1099511627776)
def sigB (s:g_api_Sig):Bool:=decide ((QB s.E s.S).toNat<1152921504606845789)
def promBC (p:g_api_Promise):Bool:=numB p.Log&&numB p.At&&decide ((QB p.Leaf.1 p.Leaf.2).toNat<2305843009213693951)&&sigB p.Sig
theorem Tb (n:Int):EW n=some (numB n):=rfl
theorem VP (s:g_api_Sig):HJ s=some (sigB s):=by
 unfold HJ sigB;simp only[bnd,Ak4,AlY];omega
theorem max_eq (a b:UInt64):CT [a,b]=some (QB a b):=by
 have e1:BK [a,b] (a,1)=some (.inl (QB a b,2)):=rfl;have e2:BK [a,b] (QB a b,2)=some (.inr (QB a b)):=rfl;have h: ∀n,iter (BK [a,b]) (n+1+1) (a,1)=some (QB a b):=fun n=>by
  simp only[iter,e1,Aa,e2]
 have hf:iter (BK [a,b]) F7 (a,1)=some (QB a b):=h 18446744073709551614;have i0:idx [a,b] 0=some a:=rfl;have d0:decide ((([a,b]:List UInt64).length:Int)<1)=false:=rfl;unfold CT;rw[d0,i0];simp only[Bool.false_eq_true,if_false,Aa,hf]
theorem Aet {c v:Bool}:gu c (some v)=some (c&&v):=by cases c<;>rfl
theorem Y9 {α:Type} [Inhabited α](o:Option α):gu true o=o:=rfl
theorem AhJ {α:Type} [Inhabited α](o:Option α):gu false o=some default:=rfl
theorem D2 {α β:Type}(a:α)(k:α→β):bnd a k=k a:=rfl
theorem Xw (p:g_api_Promise):HL p=some (promBC p):=by
 unfold HL promBC;simp only[Tb,max_eq,VP,Aet,D2,Aa];have e: ∀x:UInt64,decide ((x.toNat:Int)<2305843009213693951)=decide (x.toNat<2305843009213693951):=fun x=>by
  rw[AlY]; omega
 simp only[e];cases numB p.Log with
 |false=>simp only[Al3,AhJ,Aa]
 |true=>
  cases numB p.At with
  |false=>simp only[Al3,Alx,AhJ,Aa]
  |true=>
   simp only[Alx,Y9,Aa];cases decide ((QB p.Leaf.1 p.Leaf.2).toNat<2305843009213693951)<;>simp only[Al3,Alx]
def promsB:Int→List g_api_Promise→Bool
 |_,[]=>true
 |last,p::l=>promBC p&& !(decide (p.Log≤last))&&promsB p.Log l
theorem YH: ∀(l:List g_api_Promise) (i last:Int),∃z:Int,DO D5 l i last=some (if promsB last l=true then .inl z else .inr false)
 | [],i,last=>⟨last,rfl⟩
 |p::l,i,last=>by
  obtain⟨z,ih⟩:=YH l (i+1) p.Log;refine⟨z,?_⟩;have e:D5 i p last=some (if(promBC p&& !(decide (p.Log≤last)))=true then .inl p.Log else .inr false):=by
   unfold D5;rw[Xw,Aa];cases promBC p<;>cases decide (p.Log≤last)<;>rfl
  show Ab (D5 i p last) _=_;rw[e];cases h:promBC p&& !(decide (p.Log≤last))with
  |false=>
   simp[promsB,h]
  |true=>
   rw[Ak3 rfl,Aa];show DO D5 l (i+1) p.Log=_;rw[ih];simp[promsB,h]
def formB (c:g_api_Cert):Bool:=promsB (-1) c.Proms&&(numB c.Serial&&numB c.From&&numB c.Until&&decide (c.From<c.Until))&&(textV c.Issuer&&(!((c.Key.toNat:Int)==0))&&decide ((c.Key.toNat:Int)<2305843009213691579)&&decide ((c.Proms.length:Int)≤4)&&sigB c.Sig)&&(if c.Ca=true then textV c.Subject&&((c.Names.length:Int)==0)&&decide (c.Depth≥0)&&decide (c.Depth≤4)&&listV patV c.Permit 0 8 else eqS c.Subject (⟨#[]⟩:ByteArray)&&listV nameV c.Names 1 8&&(c.Depth==0)&&((c.Permit.length:Int)==0))
theorem Adp (c:g_api_Cert):I9 c=some (formB c):=by
 obtain⟨z,hz⟩:=YH c.Proms 0 (-1);unfold I9 formB;rw[hz];cases promsB (-1) c.Proms with
 |false=>rfl
 |true=>
  rw[Ak3 rfl,Aa];simp only[Tb,Abg,VP,AcL,AcK,Aet,D2,Aa,Alx];have e1:decide (c.From≥c.Until)= !decide (c.From<c.Until):=by
   rw[←decide_not,AlY]; omega
  have e2:decide ((c.Key.toNat:Int)≥2305843009213691579)= !decide ((c.Key.toNat:Int)<2305843009213691579):=by
   rw[←decide_not,AlY]; omega
  have e3:decide ((c.Proms.length:Int)>4)= !decide ((c.Proms.length:Int)≤4):=by
   rw[←decide_not,AlY]; omega
  rw[e1,e2,e3];generalize numB c.Serial=a1;generalize numB c.From=a2;generalize numB c.Until=a3;generalize decide (c.From<c.Until)=a4;generalize textV c.Issuer=b1;generalize ((c.Key.toNat:Int)==0)=b2;generalize decide ((c.Key.toNat:Int)<2305843009213691579)=b3;generalize decide ((c.Proms.length:Int)≤4)=b4;generalize sigB c.Sig=b5;cases a1<;>cases a2<;>cases a3<;>cases a4<;>try rfl
  all_goals cases b1<;>cases b2<;>cases b3<;>cases b4<;>cases b5<;>try rfl
  cases c.Ca with
  |true=>
   show some _=some _;generalize listV patV c.Permit 0 8=d1;generalize textV c.Subject=d2;generalize ((c.Names.length:Int)==0)=d3;generalize decide (c.Depth≥0)=d4;generalize decide (c.Depth≤4)=d5;cases d1<;>cases d2<;>cases d3<;>cases d4<;>cases d5<;>rfl
  |false=>
   show some _=some _;generalize listV nameV c.Names 1 8=d1;generalize eqS c.Subject (⟨#[]⟩:ByteArray)=d2;cases d1<;>cases d2<;>rfl
theorem TD {α:Type}(b:Nat){xs ys:List α}(h:(xs.length+ys.length)*b≤140737488355328)(h1:xs.length+ys.length≤140737488355328):app b xs ys=some (xs++ys):=by unfold app; rw[Ak3 ⟨h,h1⟩]
theorem Yd {α:Type}(b:Nat){ys:List α}(h:ys.length*b≤140737488355328)(h1:ys.length≤140737488355328):app b [] ys=some ys:=by
 rw[TD b (by simpa using h) (by simpa using h1)]; rfl
theorem cut_tl {α:Type}(x:α)(xs:List α):cut (x::xs) 1 (((x::xs).length:Nat):Int)=some xs:=by
 unfold cut;rw[Ak3 ⟨by omega,by rw[Ak8]; omega,by omega⟩];show some (List.take _ xs)=_;rw[Alw];simp
def be8 (n:Int):List UInt8:=[toB (BB n 56),toB (BB n 48),toB (BB n 40),toB (BB n 32),toB (BB n 24),toB (BB n 16),toB (BB n 8),toB (BB n 0)]
def P1:List UInt8→Bool
 | []=>false
 | [_]=>true
 |a::b::l=>decide (((a::b::l).length:Int)≤8)&&((a.toNat:Int) !=((toB (-((shrB b 7).toNat:Int))).toNat:Int))
def Abb:List UInt8→List UInt8
 | []=> []
 | [a]=> [a]
 |a::b::l=>if P1 (a::b::l)=true then a::b::l else Abb (b::l)
theorem UN (l:List UInt8):JM l=some (P1 l):=by
 match l with
 | []=>rfl
 | [a]=>rfl
 |a::b::l=>
  unfold JM;have e0:(((a::b::l).length:Int)==0)=false:=by simp only[AlD,Ak8]; omega
  have e1:(((a::b::l).length:Int)==1)=false:=by simp only[AlD,Ak8]; omega
  have i0:idx (a::b::l) 0=some a:=rfl;have i1:idx (a::b::l) 1=some b:=rfl;rw[e0,e1,i0,i1];simp only[Bool.false_eq_true,if_false,Aa,D2,P1];cases decide (((a::b::l).length:Int)≤8)<;>rfl
theorem Aba: ∀(n:Nat) (l:List UInt8),l.length<n→iter EH n l=some (Abb l)
 |0,l,h=>by omega
 |n+1,l,h=>by
  show Ab (EH l) _=_;match l with
  | []=>rfl
  | [a]=>rfl
  |a::b::l=>
   have ih:=Aba n (b::l) (by simp only[Ak8]at h⊢; omega);have e0:decide (((a::b::l).length:Int)>1)=true:=by simp only[Ak7,Ak8]; omega
   cases hl:P1 (a::b::l)with
   |true=>
    have e:EH (a::b::l)=some (.inr (a::b::l)):=by
     unfold EH;rw[e0,Ak3 rfl,UN,hl];rfl
    rw[e];simp[Abb,hl]
   |false=>
    have e:EH (a::b::l)=some (.inl (b::l)):=by
     unfold EH;rw[e0,Ak3 rfl,UN,hl,cut_tl];rfl
    rw[e];simp only[Aa];rw[ih];simp[Abb,hl]
theorem Ui: ∀(l:List UInt8),(Abb l).length≤l.length
 | []=>Ak6 _
 | [a]=>Ak6 _
 |a::b::l=>by
  have ih:=Ui (b::l);unfold Abb;split
  ·exact Ak6 _
  ·rw[Ak8]; omega
def ND (n:Int):g_api_Item:=⟨2,Abb (be8 n),[]⟩
theorem be8_eq (n:Int):CX (MJ n) 8 0 (0,0,0,0,0,0,0,0)=some (toB (BB n 56),toB (BB n 48),toB (BB n 40),toB (BB n 32),toB (BB n 24),toB (BB n 16),toB (BB n 8),toB (BB n 0)):=rfl
theorem Zq {l:List UInt8}(h:l.length≤140737488355328):BA l=some l:=by
 unfold BA;rw[Yd 1 (by omega) h]; rfl
theorem Ac8 (n:Int):FQ n=some (ND n):=by
 have h8:(be8 n).length=8:=rfl;have h:=Ui (be8 n);unfold FQ;rw[be8_eq];show Ab (Ab (iter EH F7 (be8 n)) _) _=_;rw[Aba F7 (be8 n) (by rw[h8]; have:=Ky; omega)];show Ab (BA (Abb (be8 n))) _=_;rw[Zq (by omega)];rfl
def TC (x:UInt64):g_api_Item:=ND (w64 (x.toNat:Int))
theorem Zy (x:UInt64):Fi x=some (TC x):=by unfold Fi; rw[Ac8]; rfl
def Lu (s:ByteArray):g_api_Item:=⟨12,s.data.toList,[]⟩
def Vg (v:Bool):g_api_Item:=⟨1,[if v=true then 255 else 0],[]⟩
def Su (l:List g_api_Item):g_api_Item:=⟨48,[],l⟩
theorem Uj {s:ByteArray}(h:s.size≤140737488355328):Jn s=some (Lu s):=by
 unfold Jn;rw[Yd 1 (by rw[Co]; omega) (by rw[Co]; exact h)]; rfl
theorem AgL (v:Bool):Px v=some (Vg v):=by cases v<;>rfl
theorem NW {l:List g_api_Item}(h:l.length≤1000000):GM l=some (Su l):=by
 unfold GM B0;rw[Yd 56 (by omega) (by omega)]; rfl
theorem Yp: ∀(l:List ByteArray) (i:Int) (a:List g_api_Item),(∀s∈l,s.size≤64)→a.length+l.length≤1000000→D1 Cu l i a=some (a++l.map Lu)
 | [],i,a,_,_=>by simp[D1]
 |s::l,i,a,h,hn=>by
  rw[Ak8]at hn;have ih:=Yp l (i+1) (a++[Lu s]) (fun x hx=>h x (Alo _ hx)) (by rw[Ak5]; show a.length+1+_≤_; omega);have e:Cu i s a=some (a++[Lu s]):=by
   unfold Cu;rw[Uj (by have:=h s Alk; omega),Aa,TD 56 (by show(a.length+1)*56≤_; omega) (by show a.length+1≤_; omega)];rfl
  show Ab (Cu i s a) _=_;rw[e];show D1 _ l (i+1) (a++[Lu s])=_;rw[ih];simp
def KS (l:List ByteArray):g_api_Item:=Su (l.map Lu)
theorem Yq {l:List ByteArray}(h: ∀s∈l,s.size≤64)(hn:l.length≤1000000):Cn l=some (KS l):=by
 unfold Cn;rw[Yp l 0 [] h (by simpa using hn)];simp only[Aa,Alz];rw[NW (by rw[AlL]; exact hn)]; rfl
def Rj (p:g_api_Promise):g_api_Item:=Su [ND p.Log,ND p.At,TC p.Leaf.1,TC p.Leaf.2,TC p.Sig.E,TC p.Sig.S]
theorem Afb (p:g_api_Promise):Jc p=some (Rj p):=by
 unfold Jc;simp only[Ac8,Zy,Aa];rw[NW (by simp)]; rfl
theorem YG: ∀(l:List g_api_Promise) (i:Int) (a:List g_api_Item),a.length+l.length≤1000000→D1 BH l i a=some (a++l.map Rj)
 | [],i,a,_=>by simp[D1]
 |s::l,i,a,hn=>by
  rw[Ak8]at hn;have ih:=YG l (i+1) (a++[Rj s]) (by rw[Ak5]; show a.length+1+_≤_; omega);have e:BH i s a=some (a++[Rj s]):=by
   unfold BH;rw[Afb,Aa,TD 56 (by show(a.length+1)*56≤_; omega) (by show a.length+1≤_; omega)];rfl
  show Ab (BH i s a) _=_;rw[e];show D1 _ l (i+1) (a++[Rj s])=_;rw[ih];simp
def Rh (l:List g_api_Promise):g_api_Item:=Su (l.map Rj)
theorem Ab8 {l:List g_api_Promise}(hn:l.length≤1000000):B2 l=some (Rh l):=by
 unfold B2;rw[YG l 0 [] (by simpa using hn)];simp only[Aa,Alz];rw[NW (by rw[AlL]; exact hn)]; rfl
structure Yh (c:g_api_Cert):Prop where
 issuer:c.Issuer.size≤64
 subject:c.Subject.size≤64
 names: ∀s∈c.Names,s.size≤64
 few:c.Names.length≤8
 permit: ∀s∈c.Permit,s.size≤64
 fewP:c.Permit.length≤8
 proms:c.Proms.length≤4
def YJ (c:g_api_Cert):g_api_Item:=Su [ND c.Serial,Lu c.Issuer,Lu c.Subject,TC c.Key,KS c.Names,ND c.From,ND c.Until,Vg c.Ca,ND c.Depth,KS c.Permit]
def OX (c:g_api_Cert):g_api_Item:=Su [YJ c,Rh c.Proms]
def wholeI (c:g_api_Cert):g_api_Item:=Su [OX c,Su [TC c.Sig.E,TC c.Sig.S]]
theorem Aca {c:g_api_Cert}(h:Yh c):La c=some (YJ c):=by
 unfold La;have h1:=h.issuer; have h2:=h.subject; have h3:=h.few; have h4:=h.fewP;simp only[Ac8,Zy,AgL,Uj (s:=c.Issuer) (by omega),Uj (s:=c.Subject) (by omega),Yq h.names (by omega),Yq h.permit (by omega),Aa];rw[NW (by simp)]; rfl
theorem Zx {c:g_api_Cert}(h:Yh c):JS c=some (OX c):=by
 unfold JS;have h1:=h.proms;rw[Aca h,Ab8 (by omega)];simp only[Aa];rw[NW (by simp)]; rfl
theorem Aa2 {c:g_api_Cert}(h:Yh c):Ku c=some (wholeI c):=by
 unfold Ku;rw[Zx h,Zy,Zy];simp only[Aa];rw[NW (by simp)];simp only[Aa];rw[NW (by simp)]; rfl
structure Form (c:g_api_Cert):Prop where
 proms:promsB (-1) c.Proms=true
 serial:numB c.Serial=true
 frm:numB c.From=true
 til:numB c.Until=true
 lt:c.From<c.Until
 issuer:textV c.Issuer=true
 key0:(c.Key.toNat:Int)≠0
 keyQ:(c.Key.toNat:Int)<2305843009213691579
 nproms:(c.Proms.length:Int)≤4
 sig:sigB c.Sig=true
 ca:c.Ca=true→textV c.Subject=true∧c.Names=[]∧0≤c.Depth∧c.Depth≤4∧listV patV c.Permit 0 8=true
 leaf:c.Ca=false→c.Subject=(⟨#[]⟩:ByteArray)∧listV nameV c.Names 1 8=true∧c.Depth=0∧c.Permit=[]
theorem XS {c:g_api_Cert}(h:formB c=true):Form c:=by
 unfold formB at h;simp only[AkZ,Ak7,Bool.not_eq_true',AlD]at h;obtain⟨⟨⟨h1,⟨⟨h2,h3⟩,h4⟩,h5⟩,⟨⟨⟨h6,h7⟩,h8⟩,h9⟩,h10⟩,h11⟩:=h;refine⟨h1,h2,h3,h4,h5,h6,h7,h8,h9,h10,fun e=> ?_,fun e=> ?_⟩
 ·rw[Ak3 e]at h11;simp only[AkZ,Ak7,AlM]at h11;obtain⟨⟨⟨⟨a,b⟩,d⟩,f⟩,g⟩:=h11;exact⟨a,List.eq_nil_of_length_eq_zero (by omega),by omega,f,g⟩
 ·rw[e]at h11;simp only[Bool.false_eq_true,if_false,AkZ,Ak7,AlM]at h11;obtain⟨⟨⟨a,b⟩,d⟩,f⟩:=h11;exact⟨PB.1 a,b,d,List.eq_nil_of_length_eq_zero (by omega)⟩
theorem RB {right:ByteArray→Int}{l:List ByteArray}{a b:Int}(h:listV right l a b=true):a≤l.length∧(l.length:Int)≤b∧∀s∈l,right s=0:=by
 unfold listV at h;simp only[AkZ,Ak7]at h;exact⟨by omega,h.2,Wa h.1.1⟩
theorem Form.sized {c:g_api_Cert}(h:Form c):Yh c:=by
 have hi:=(Yr h.issuer).2;have hp:=h.nproms;cases hc:c.Ca with
 |true=>
  obtain⟨h1,h2,h3,h4,h5⟩:=h.ca hc;obtain⟨l1,l2,l3⟩:=RB h5;exact⟨hi,(Yr h1).2,(by rw[h2]; intro s hs; cases hs),by rw[h2]; decide,fun s hs=>Acl (l3 s hs),by omega,by omega⟩
 |false=>
  obtain⟨h1,h2,h3,h4⟩:=h.leaf hc;obtain⟨l1,l2,l3⟩:=RB h2;exact⟨hi,by rw[h1]; decide,fun s hs=>Aae (l3 s hs),by omega,(by rw[h4]; intro s hs; cases hs),by rw[h4]; decide,by omega⟩
theorem Akg (t:Int):Jm t=some (if t=1 then(⟨1,428⟩,true)else if t=2 then(⟨2,299⟩,true)else if t=4 then(⟨4,429⟩,true)else if t=12 then(⟨12,430⟩,true)else if t=48 then(⟨48,432⟩,true)else(⟨0,-1⟩,false)):=by
 by_cases h1:t=1
 ·subst h1; rfl
 by_cases h2:t=2
 ·subst h2; rfl
 by_cases h3:t=4
 ·subst h3; rfl
 by_cases h4:t=12
 ·subst h4; rfl
 by_cases h5:t=48
 ·subst h5; rfl
 rw[Ak1 h1,Ak1 h2,Ak1 h3,Ak1 h4,Ak1 h5];have b: ∀(k:Int),t≠k→((k==t)=true)=False:=fun k h=>by simp only[AlM,eq_iff_iff,iff_false]; exact fun e=>h e.symm
 have g:B7 (Ao tab_2) tab_2.length 0 t=some (.inl t):=by
  have i: ∀(j:Nat) (k:Gs),idx tab_2 (j:Int)=some k→t≠k.tag_→Ao tab_2 (j:Int) t=some (.inl t):=fun j k e hk=>by
   have hb:(k.tag_==t)=false:=by simp only[AlD]; exact fun e=>hk e.symm
   unfold Ao MI;rw[e];simp only[Aa,hb,Bool.false_eq_true,if_false]
  show Ab (Ao tab_2 ((0:Nat):Int) t) _=_;rw[i 0 ⟨1,428⟩ rfl h1];show Ab (Ao tab_2 ((1:Nat):Int) t) _=_;rw[i 1 ⟨2,299⟩ rfl h2];show Ab (Ao tab_2 ((2:Nat):Int) t) _=_;rw[i 2 ⟨4,429⟩ rfl h3];show Ab (Ao tab_2 ((3:Nat):Int) t) _=_;rw[i 3 ⟨12,430⟩ rfl h4];show Ab (Ao tab_2 ((4:Nat):Int) t) _=_;rw[i 4 ⟨48,432⟩ rfl h5];rfl
 unfold Jm BR;rw[g];rfl
def RH (t:Int):Bool:=t==1||t==2||t==4||t==12||t==48
def boolB (b:List UInt8):Bool:=match b with| [x]=>x==0||x==255|_=>false
def printB (b:List UInt8):Bool:=b.all fun c=>decide (32≤c.toNat)&&decide (c.toNat≤126)
def AcY (t:Int)(b:List UInt8):Bool:=if t=1 then boolB b else if t=2 then P1 b else if t=4 then true else if t=12 then printB b else if t=48 then b.isEmpty else false
theorem AcX (b:List UInt8):HH b=some (boolB b):=by
 match b with
 | []=>rfl
 | [x]=>
  unfold HH;have e1:((([x]:List UInt8).length:Int)==1)=true:=rfl;have e2:idx [x] 0=some x:=rfl;rw[e1,e2];have e3: ∀n:UInt8,((x.toNat:Int)==n.toNat)=(x==n):=fun n=>by
   rw[AlT,AlM,AlM,←UInt8.toNat_inj];omega
  have z0:((x.toNat:Int)==0)=(x==0):=e3 0;have z1:((x.toNat:Int)==255)=(x==255):=e3 255;simp only[Y9,Aa,D2,z0,z1,Alx];show _=some (x==0||x==255);cases h:x==0 with
  |true=>rfl
  |false=>simp only[Ame,Y9,Aa,D2,z1,AlU]
 |x::y::l=>
  unfold HH;have e1:(((x::y::l).length:Int)==1)=false:=by simp only[AlD,Ak8]; omega
  rw[e1];rfl
theorem AhF: ∀(a b:List UInt8),∃r,B7 (AI (a++b)) b.length (a.length:Int) ()=some r∧(r= .inl ()↔printB b=true)∧∀i,r= .inr i→0≤i
 |a,[]=>⟨.inl (),rfl,by simp[printB],fun i h=>by cases h⟩
 |a,c::b=>by
  have hi:idx (a++c::b) (a.length:Int)=some c:=by
   unfold idx;rw[Ak3 (by omega)];simp
  obtain⟨r,h1,h2,h3⟩:=AhF (a++[c]) b;have ec:(decide ((c.toNat:Int)<32)||decide ((c.toNat:Int)>126))= !(decide (32≤c.toNat)&&decide (c.toNat≤126)):=by
   rw[AlT];simp only[AlO,Bool.not_eq_true',Bool.and_eq_false_iff,Ak7,decide_eq_false_iff_not];omega
  have st:AI (a++c::b) (a.length:Int) ()=some (if(decide (32≤c.toNat)&&decide (c.toNat≤126))=true then .inl ()else .inr (a.length:Int)):=by
   unfold AI JN;rw[hi];simp only[Aa,D2,ec];cases decide (32≤c.toNat)&&decide (c.toNat≤126)<;>rfl
  show∃r,Ab (AI (a++c::b) (a.length:Int) ()) _=some r∧_;rw[st];cases hc:decide (32≤c.toNat)&&decide (c.toNat≤126)with
  |false=>exact⟨.inr (a.length:Int),rfl,by simp[printB,hc],fun i h=>(by cases h; omega)⟩
  |true=>
   refine⟨r,?_,?_,h3⟩
   ·show B7 (AI (a++c::b)) b.length ((a.length:Int)+1) ()=some r;rw[←h1];simp
   ·rw[h2];simp only[printB,AlQ,hc,Alx]
theorem AcW (b:List UInt8):I8 b=some (printB b):=by
 obtain⟨r,h1,h2,h3⟩:=AhF [] b;unfold I8 Cq CI;have h1:B7 (AI b) b.length 0 ()=some r:=h1;rw[h1];cases r with
 |inl u=>rw[h2.1 rfl]; rfl
 |inr i=>
  have hp:printB b=false:=by
   cases h:printB b with
   |false=>rfl
   |true=>exact absurd (h2.2 h) (by simp)
  have hi:=h3 i rfl;rw[hp];show some (!(decide (i≥0)))=_;rw[All hi]; rfl
theorem AcV (b:List UInt8):I7 b=some b.isEmpty:=by
 cases b with
 |nil=>rfl
 |cons a l=>
  unfold I7;have:(((a::l).length:Int)==0)=false:=by simp only[AlD,Ak8]; omega
  rw[this]; rfl
theorem XM {t:Int}(h:RH t=true):t=1∨t=2∨t=4∨t=12∨t=48:=by
 unfold RH at h;simp only[AlO,AlM]at h;omega
theorem Tt {t:Int}(h:RH t=true): ∃k,Jm t=some (k,true)∧k.tag_=t∧∀b,QC k.may_ b=some (AcY t b):=by
 rcases XM h with e|e|e|e|e
 ·subst e; exact⟨_,rfl,rfl,AcX⟩
 ·subst e; exact⟨_,rfl,rfl,UN⟩
 ·subst e; exact⟨_,rfl,rfl,fun b=>rfl⟩
 ·subst e; exact⟨_,rfl,rfl,AcW⟩
 ·subst e; exact⟨_,rfl,rfl,AcV⟩
theorem MR {t:Int}(h:RH t=false):Jm t=some (⟨0,-1⟩,false)∧∀b,AcY t b=false:=by
 unfold RH at h;simp only[Bool.or_eq_false_iff,AlD]at h;obtain⟨⟨⟨⟨h1,h2⟩,h3⟩,h4⟩,h5⟩:=h;refine⟨?_,fun b=> ?_⟩
 ·rw[Akg,Ak1 h1,Ak1 h2,Ak1 h3,Ak1 h4,Ak1 h5]
 ·unfold AcY;rw[Ak1 h1,Ak1 h2,Ak1 h3,Ak1 h4,Ak1 h5]
def mayB:Nat→g_api_Item→Bool
 |0,_=>false
 |d+1,x=>AcY x.Tag x.B&&(x.Tag==48||x.L.isEmpty)&&x.L.all (mayB d)
theorem AhG (rF:g_api_Item→Int→Option Bool)(p:g_api_Item→Bool)(d:Int): ∀(a b:List g_api_Item),(∀y∈b,rF y (w64 (d-1))=some (p y))→
  ∃r,B7 (Aw rF (a++b)) b.length (a.length:Int) d=some r∧(r= .inl d↔b.all p=true)∧(∀e,r= .inl e→e=d)∧∀i,r= .inr i→0≤i.1
 |a,[],_=>⟨.inl d,rfl,by simp,fun e h=>by cases h; rfl,fun i h=>by cases h⟩
 |a,c::b,h=>by
  have hi:idx (a++c::b) (a.length:Int)=some c:=by
   unfold idx;rw[Ak3 (by omega)];simp
  obtain⟨r,h1,h2,h4,h3⟩:=AhG rF p d (a++[c]) b fun y hy=>h y (Alo _ hy);have st:Aw rF (a++c::b) (a.length:Int) d=some (if p c=true then .inl d else .inr ((a.length:Int),d)):=by
   unfold Aw LH;rw[hi];simp only[Aa,h c Alk];cases p c<;>rfl
  show∃r,Ab (Aw rF (a++c::b) (a.length:Int) d) _=some r∧_;rw[st];cases hc:p c with
  |false=>exact⟨.inr ((a.length:Int),d),rfl,by simp[hc],fun e h=>(by cases h),fun i h=>(by cases h; exact AlP _)⟩
  |true=>
   refine⟨r,?_,?_,h4,h3⟩
   ·show B7 (Aw rF (a++c::b)) b.length ((a.length:Int)+1) d=some r;rw[←h1];simp
   ·rw[h2];simp only[AlQ,hc,Alx]
theorem X1 (rF:g_api_Item→Int→Option Bool)(p:g_api_Item→Bool)(d:Int)(l:List g_api_Item)(h: ∀y∈l,rF y (w64 (d-1))=some (p y)):
  ∃z,AX rF l d=some (!(l.all p),z):=by
 obtain⟨r,h1,h2,h4,h3⟩:=AhG rF p d [] l h;have h1:B7 (Aw rF l) l.length 0 d=some r:=h1;unfold AX BJ;rw[h1];cases r with
 |inl u=>
  have:=h4 u rfl;subst this;rw[h2.1 rfl];exact⟨_,rfl⟩
 |inr i=>
  have hp:l.all p=false:=by
   cases h:l.all p with
   |false=>rfl
   |true=>exact absurd (h2.2 h) (by simp)
  have hi:=h3 i rfl;rw[hp];refine⟨i.2,?_⟩;show some (decide (i.1≥0),i.2)=_;rw[All hi]; rfl
theorem Ahv: ∀(d n:Nat) (x:g_api_Item),d<n→d≤100→Iy n x (d:Int)=some (mayB d x)
 |d,0,x,h,_=>by omega
 |0,n+1,x,_,_=>by
  show Ia (Iy n) x 0=some false;unfold Ia;cases hk:RH x.Tag with
  |false=>rw[(MR hk).1]; rfl
  |true=>
   obtain⟨k,e,_,_⟩:=Tt hk;rw[e]; rfl
 |d+1,n+1,x,h,hd=>by
  have ih: ∀y∈x.L,Iy n y (w64 (((d+1:Nat):Int)-1))=some (mayB d y):=fun y _=>by
   rw[show w64 (((d+1:Nat):Int)-1)=(d:Int)from by rw[G0 (by omega) (by omega)]; omega];exact Ahv d n y (by omega) (by omega)
  obtain⟨z,hz⟩:=X1 (Iy n) (mayB d) ((d+1:Nat):Int) x.L ih;show Ia (Iy n) x ((d+1:Nat):Int)=some (mayB (d+1) x);unfold Ia mayB;have e1:decide (((d+1:Nat):Int)<1)=false:=by rw[decide_eq_false_iff_not]; omega
  have e2:decide ((x.L.length:Int)>0)= !x.L.isEmpty:=by
   cases x.L with
   |nil=>rfl
   |cons a l=>show decide _=true; rw[Ak7,Ak8]; omega
  have e3:(x.Tag !=48)= !(x.Tag==48):=rfl;rw[e1,e2,e3];cases hk:RH x.Tag with
  |false=>
   rw[(MR hk).1,(MR hk).2]; rfl
  |true=>
   obtain⟨k,e,_,hm⟩:=Tt hk;rw[e];simp only[Aa,AlX,Bool.or_false,Ame,Y9,hm,hz,Bool.not_not];cases AcY x.Tag x.B<;>cases x.Tag==48<;>cases x.L.isEmpty<;>rfl
theorem Aju (x:g_api_Item):Ry x 8=some (mayB 8 x):=Ahv 8 F7 x (by have:=Ky; omega) (by decide)
def RD (n:Nat):List UInt8:=if n<128 then [toB (n:Int)]else if n<256 then [129,toB (n:Int)]else [130,toB (BB (n:Int) 8),toB (n:Int)]
def putB:Nat→g_api_Item→List UInt8
 |0,_=> []
 |d+1,x=>toB x.Tag::(RD (x.B++x.L.flatMap (putB d)).length++(x.B++x.L.flatMap (putB d)))
def depB:Nat→g_api_Item→Prop
 |0,_=>False
 |d+1,x=> ∀y∈x.L,depB d y
theorem AdD: ∀{d:Nat} {x:g_api_Item},mayB d x=true→depB d x
 |0,x,h=>by cases h
 |d+1,x,h=>by
  simp only[mayB,AkZ,Alj]at h;exact fun y hy=>AdD (h.2 y hy)
theorem Y3 (n:Nat):1≤(RD n).length∧(RD n).length≤3:=by
 unfold RD;split
 ·exact⟨by simp,by simp⟩
 ·split
  ·exact⟨by simp,by simp⟩
  ·exact⟨by simp,by simp⟩
theorem putE: ∀(d n:Nat) (x:g_api_Item) (b:List UInt8),d≤n→depB d x→b.length+(putB d x).length≤100000000000000→Hw n b x=some (b++putB d x)
 |0,n,x,b,_,h,_=>h.elim
 |d+1,0,x,b,h,_,_=>by omega
 |d+1,n+1,x,b,hn,hd,hb=>by
  have eP:putB (d+1) x=toB x.Tag::(RD (x.B++x.L.flatMap (putB d)).length++(x.B++x.L.flatMap (putB d))):=rfl;have go: ∀(l:List g_api_Item) (i:Int) (s:List UInt8),(∀y∈l,depB d y)→s.length+(l.flatMap (putB d)).length≤100000000000000→D1 (E9 (Hw n)) l i s=some (s++l.flatMap (putB d)):=by
   intro l;induction l with
   |nil=>intro i s _ _; simp[D1]
   |cons y l ih=>
    intro i s h hs;rw[AlI,Ak5]at hs;have e:E9 (Hw n) i y s=some (s++putB d y):=by
     unfold E9;rw[putE d n y s (by omega) (h y Alk) (by omega)];rfl
    show Ab (E9 (Hw n) i y s) _=_;rw[e];show D1 _ l (i+1) (s++putB d y)=_;rw[ih (i+1) (s++putB d y) (fun z hz=>h z (Alo _ hz)) (by rw[Ak5]; omega),AlI,Alb]
  rw[eP]at hb⊢;simp only[Ak8,Ak5]at hb;have hc:HI (Hw n) x=some (x.B++x.L.flatMap (putB d)):=by
   unfold HI;rw[Zq (by omega),Aa,go x.L 0 x.B hd (by omega)];rfl
  show LG (Hw n) b x=_;unfold LG;rw[hc,Aa,TD 1 (by simp only[Ak8,Alm]; omega) (by simp only[Ak8,Alm]; omega),Aa];rw[←Ak5]at hb;have hL:(x.B++x.L.flatMap (putB d)).length=(x.B++x.L.flatMap (putB d)).length:=rfl;generalize (x.B++x.L.flatMap (putB d))=c at hb hL⊢;have hl:=Y3 c.length;have hm: ∀z:List UInt8,z.length≤3→app 1 (b++[toB x.Tag]) z=some (b++[toB x.Tag]++z):=fun z hz=>TD 1 (by simp only[Ak5,Ak8,Alm]; omega) (by simp only[Ak5,Ak8,Alm]; omega);have fin:app 1 (b++[toB x.Tag]++RD c.length) c=some (b++toB x.Tag::(RD c.length++c)):=by
   rw[TD 1 (by simp only[Ak5,Ak8,Alm]; omega) (by simp only[Ak5,Ak8,Alm]; omega)];simp
  have mid:(bnd (decide ((c.length:Int)<128)) fun x4=>
    if x4=true then
     Ab (app 1 (b++[toB x.Tag]) ([(toB (c.length:Int))]:List UInt8)) fun x5=>
     some x5
    else
    bnd ((decide ((c.length:Int)<256))) fun x6=>
    if x6=true then
     Ab (app 1 (b++[toB x.Tag]) ([129,(toB (c.length:Int))]:List UInt8)) fun x7=>
     some x7
    else
    Ab (app 1 (b++[toB x.Tag]) ([130,(toB (BB (c.length:Int) 8)),(toB (c.length:Int))]:List UInt8)) fun x8=>
    some x8)=some (b++[toB x.Tag]++RD c.length):=by
   rw[hm [toB (c.length:Int)] (by simp),hm [129,toB (c.length:Int)] (by simp),hm [130,toB (BB (c.length:Int) 8),toB (c.length:Int)] (by simp)];simp only[D2,Aa,Ak7];unfold RD;by_cases h1:c.length<128
   ·rw[Ak3 h1,Ak3 (by omega)]
   ·rw[Ak1 h1,Ak1 (by omega)];by_cases h2:c.length<256
    ·rw[Ak3 h2,Ak3 (by omega)]
    ·rw[Ak1 h2,Ak1 (by omega)]
  rw[mid];simp only[Aa];rw[fin];rfl
theorem Ai7 {x:g_api_Item}(h:depB 8 x)(hs:(putB 8 x).length≤100000000000000):Rx [] x=some (putB 8 x):=by
 have:=putE 8 F7 x [] (by have:=Ky; omega) h (by simpa using hs);exact this
theorem Aic {x:g_api_Item}(hs:(putB 8 x).length≤100000000000000):
  JO x=some (if mayB 8 x=true then(if(putB 8 x).length≤8192 then(putB 8 x,0)else([],2))else([],1)):=by
 unfold JO;rw[Aju];cases hm:mayB 8 x with
 |false=>rfl
 |true=>
  simp only[Aa,AlX,Bool.false_eq_true,if_false,if_true];rw[Ai7 (AdD hm) hs];simp only[Aa,Ak7];by_cases h:(putB 8 x).length≤8192
  ·rw[Ak1 (by omega),Ak3 h]
  ·rw[Ak3 (by omega),Ak1 h]
theorem Zd {α:Type}(f:α→List UInt8)(k:Nat): ∀(l:List α),(∀y∈l,(f y).length≤k)→(l.flatMap f).length≤l.length*k
 | [],_=>by simp
 |y::l,h=>by
  have h1:=h y Alk;have h2:=Zd f k l fun z hz=>h z (Alo _ hz);rw[AlI,Ak5,Ak8,Nat.succ_mul];omega
theorem Re (d:Nat)(x:g_api_Item):(putB (d+1) x).length≤4+x.B.length+(x.L.flatMap (putB d)).length:=by
 have:=Y3 (x.B++x.L.flatMap (putB d)).length;show(toB x.Tag::(RD (x.B++x.L.flatMap (putB d)).length++(x.B++x.L.flatMap (putB d)))).length≤_;rw[Ak8,Ak5,Ak5]at*;omega
theorem Ej (d:Nat)(n:Int):(putB d (ND n)).length≤12:=by
 cases d with
 |zero=>simp[putB]
 |succ d=>
  have h:=Re d (ND n);have h1:(ND n).B.length≤8:=Ui (be8 n);have h2:(ND n).L=[]:=rfl;rw[h2]at h;simp only[List.flatMap_nil,Alm]at h;omega
theorem KT (d:Nat){s:ByteArray}(hs:s.size≤64):(putB d (Lu s)).length≤68:=by
 cases d with
 |zero=>simp[putB]
 |succ d=>
  have h:=Re d (Lu s);have h1:(Lu s).B.length=s.size:=Co s;have h2:(Lu s).L=[]:=rfl;rw[h2]at h;simp only[List.flatMap_nil,Alm]at h;omega
theorem WK (d:Nat)(v:Bool):(putB d (Vg v)).length≤5:=by
 cases d with
 |zero=>simp[putB]
 |succ d=>
  have h:=Re d (Vg v);have h1:(Vg v).B.length=1:=rfl;have h2:(Vg v).L=[]:=rfl;rw[h2]at h;simp only[List.flatMap_nil,Alm]at h;omega
theorem Lv (d:Nat)(l:List g_api_Item)(k:Nat)(hk: ∀e y,y∈l→(putB e y).length≤k):(putB d (Su l)).length≤4+l.length*k:=by
 cases d with
 |zero=>simp[putB]
 |succ d=>
  have h:=Re d (Su l);have h1:(Su l).B.length=0:=rfl;have h3:=Zd (putB d) k l fun y hy=>hk d y hy;have h2:(Su l).L=l:=rfl;rw[h2]at h;omega
theorem SX (d:Nat){l:List ByteArray}(h: ∀s∈l,s.size≤64)(hn:l.length≤8):(putB d (KS l)).length≤1000:=by
 have:=Lv d (l.map Lu) 68 fun e y hy=>by
  obtain⟨s,hs,e2⟩:=List.mem_map.1 hy;rw[←e2];exact KT e (h s hs)
 rw[AlL]at this;unfold KS;omega
theorem mem2 {α:Type}{p:α→Prop}{a b:α}(ha:p a)(hb:p b): ∀y∈[a,b],p y:=by
 intro y hy;simp only[Als,List.not_mem_nil,or_false]at hy;rcases hy with e|e<;>rw[e]<;>assumption
theorem Afd (d:Nat){c:g_api_Cert}(h:Yh c):(putB d (YJ c)).length≤20000:=by
 have:=Lv d [ND c.Serial,Lu c.Issuer,Lu c.Subject,TC c.Key,KS c.Names,ND c.From,ND c.Until,Vg c.Ca,ND c.Depth,KS c.Permit] 1000 fun e y hy=>by
  simp only[Als,List.not_mem_nil,or_false]at hy;rcases hy with q|q|q|q|q|q|q|q|q|q<;>rw[q]
  ·have:=Ej e c.Serial; omega
  ·have:=KT e h.issuer; omega
  ·have:=KT e h.subject; omega
  ·have:=Ej e (w64 (c.Key.toNat:Int)); unfold TC; omega
  ·exact SX e h.names h.few
  ·have:=Ej e c.From; omega
  ·have:=Ej e c.Until; omega
  ·have:=WK e c.Ca; omega
  ·have:=Ej e c.Depth; omega
  ·exact SX e h.permit h.fewP
 simp only[Ak8,Alm]at this;unfold YJ;omega
theorem Ab9 (d:Nat)(p:g_api_Promise):(putB d (Rj p)).length≤100:=by
 have:=Lv d [ND p.Log,ND p.At,TC p.Leaf.1,TC p.Leaf.2,TC p.Sig.E,TC p.Sig.S] 12 fun e y hy=>by
  simp only[Als,List.not_mem_nil,or_false]at hy;rcases hy with q|q|q|q|q|q<;>rw[q]<;>exact Ej e _
 simp only[Ak8,Alm]at this;unfold Rj;omega
theorem Ad6 (d:Nat){c:g_api_Cert}(h:Yh c):(putB d (OX c)).length≤50000:=by
 have:=Lv d [YJ c,Rh c.Proms] 20000 fun e=>mem2 (p:=fun y=>(putB e y).length≤20000) (Afd e h) (by
  have:=Lv e (c.Proms.map Rj) 100 fun f y hy=>by
   obtain⟨p,hp,e2⟩:=List.mem_map.1 hy;rw[←e2];exact Ab9 f p
  rw[AlL]at this;have:=h.proms;unfold Rh;omega)
 simp only[Ak8,Alm]at this;unfold OX;omega
theorem ZH (d:Nat){c:g_api_Cert}(h:Yh c):(putB d (wholeI c)).length≤200000:=by
 have:=Lv d [OX c,Su [TC c.Sig.E,TC c.Sig.S]] 50000 fun e=>mem2 (p:=fun y=>(putB e y).length≤50000) (Ad6 e h) (by
  have:=Lv e [TC c.Sig.E,TC c.Sig.S] 12 fun f=>mem2 (p:=fun y=>(putB f y).length≤12) (Ej f _) (Ej f _);simp only[Ak8,Alm]at this;omega)
 simp only[Ak8,Alm]at this;unfold wholeI;omega
def checkV (c:g_api_Cert):Int:=if formB c=true then(if mayB 8 (wholeI c)=true∧(putB 8 (wholeI c)).length≤2048 then 0 else 2)else 1
theorem AkB (b:List UInt8)(m:Bool):(Ab (some (if m=true then(if b.length≤8192 then(b,(0:Int))else([],2))else([],1))) fun x3=>if((x3.2 !=0)||(decide ((x3.1.length:Int)>2048)))=true then some (2:Int)else some 0)=some (if m=true∧b.length≤2048 then 0 else 2):=by
 cases m with
 |false=>rfl
 |true=>
  simp only[if_true,Aa,true_and];by_cases h1:b.length≤8192
  ·rw[Ak3 h1];by_cases h2:b.length≤2048
   ·rw[Ak3 h2,Ak1];simp only[bne_self_eq_false,AlU,Ak7];omega
   ·rw[Ak1 h2,Ak3];simp only[bne_self_eq_false,AlU,Ak7];omega
  ·rw[Ak1 h1];have h2: ¬b.length≤2048:=by omega
   rw[Ak1 h2];rfl
theorem RY (c:g_api_Cert):Ck c=some (checkV c):=by
 unfold Ck checkV;rw[Adp];cases hf:formB c with
 |false=>rfl
 |true=>
  have hs:=(XS hf).sized;simp only[Aa,AlX,Bool.false_eq_true,if_false,if_true];have hl:=ZH 8 hs;rw[Aa2 hs,Aa,Aic (by omega),AkB]
theorem AaB {c:g_api_Cert}(h:checkV c=0):Form c:=by
 unfold checkV at h;cases hf:formB c with
 |false=>rw[hf]at h; simp at h
 |true=>exact XS hf
theorem Abe (n:Int):((toB n).toNat:Int)=n%256:=by
 have h:0≤n%256:=Int.emod_nonneg _ (by decide);have h2:n%256<256:=Int.emod_lt_of_pos _ (by decide);unfold toB;rw[UInt8.toNat_ofNat'];omega
theorem Akq {α:Type}(a b:List α):cut (a++b) (a.length:Int) (((a++b).length:Nat):Int)=some b:=by
 unfold cut;rw[Ak3 ⟨by omega,by rw[Ak5]; omega,by omega⟩];simp only[AlJ,List.drop_left];rw[Alw];rw[Ak5]; omega
theorem Zc (p:g_api_Item→List UInt8){y:g_api_Item}: ∀{l:List g_api_Item},y∈l→(p y).length≤(l.flatMap p).length
 |z::l,h=>by
  rw[AlI,Ak5];rcases Als.1 h with e|h
  ·rw[e]; omega
  ·have:=Zc p h; omega
theorem SV: ∀(l:List UInt8),l≠[]→P1 (Abb l)=true
 | [],h=>absurd rfl h
 | [a],_=>rfl
 |a::b::l,_=>by
  unfold Abb;cases hl:P1 (a::b::l)with
  |true=>rw[Ak3 rfl]; exact hl
  |false=>rw[Ak1 (by decide)]; exact SV (b::l) (by simp)
theorem AhM {s:ByteArray}{i:Nat}{b:UInt8}(h:s.data.toList[i]? =some b):s.get! i=b:=by
 have h2:s.data[i]? =some b:=by rw[←Array.getElem?_toList]; exact h
 show s.data[i]! =b;rw[getElem!_def,h2]
theorem dec_lo {s:ByteArray}{i:Nat}{b:UInt8}(h:s.data.toList[i]? =some b)(hb:b.toNat<128):Utf8.decode s i=(b.toNat,1):=by
 unfold Utf8.decode;simp only[Al8,AhM h];rw[Ak3 hb]
theorem dec_hi {s:ByteArray}{i:Nat}{b:UInt8}(h:s.data.toList[i]? =some b)(hb: ¬b.toNat<128):128≤(Utf8.decode s i).1:=by
 unfold Utf8.decode;simp only[Al8,AhM h];rw[Ak1 hb];have he:Utf8.runeError=65533:=rfl;split
 ·split
  ·assumption
  ·simp[he]
 ·split
  ·split
   ·rename_i h1;simp only[AkZ,Ak7]at h1;show 128≤_;omega
   ·simp[he]
  ·split
   ·split
    ·rename_i h1;simp only[AkZ,Ak7]at h1;show 128≤_;omega
    ·simp[he]
   ·simp[he]
def KI (c:UInt8):Bool:=(decide (97≤c.toNat)&&decide (c.toNat≤122))||(decide (48≤c.toNat)&&decide (c.toNat≤57))
def AfW (c:UInt8):Bool:=c.toNat==45||KI c
def ZS:List UInt8→Bool
 | []=>true
 | [c]=>KI c
 |c::d::r=>AfW c&&ZS (d::r)
def UO:List UInt8→Bool
 | []=>false
 | [c]=>KI c
 |c::d::r=>(KI c||c.toNat==95)&&ZS (d::r)&&decide ((c::d::r).length≤16)
theorem Wu (n:Nat)(c:UInt8)(h:n=c.toNat):Dt (n:Int)=some (KI c):=by
 subst h;unfold Dt KI;rw[D2];congr 1;have e: ∀k:Nat,decide ((k:Int)≤(c.toNat:Int))=decide (k≤c.toNat):=fun k=>by rw[AlY]; omega
 have e2: ∀k:Nat,decide ((c.toNat:Int)≤(k:Int))=decide (c.toNat≤k):=fun k=>by rw[AlY]; omega
 rw[←e 97,←e2 122,←e 48,←e2 57];rfl
theorem Adx (n:Nat)(h:128≤n):Dt (n:Int)=some false:=by
 unfold Dt;rw[D2,AlG (show¬(n:Int)≤122 from by omega),AlG (show¬(n:Int)≤57 from by omega),Al0,Al0];rfl
theorem Aai (n:Nat)(c:UInt8)(h:n=c.toNat):Dq (n:Int)=some (AfW c):=by
 unfold Dq AfW;rw[Wu n c h,Aet,Aa];subst h;have e:((c.toNat:Int)==45)=(c.toNat==45):=by rw[AlT,AlM,AlM]; omega
 rw[e];cases c.toNat==45<;>simp
theorem AfV (n:Nat)(h:128≤n):Dq (n:Int)=some false:=by
 unfold Dq;rw[Adx n h,Aet,Aa];have e:((n:Int)==45)=false:=by rw[AlD]; omega
 rw[e]; rfl
theorem AjX (c:UInt8)(h: ¬c.toNat<128):KI c=false∧AfW c=false∧(c.toNat==95)=false:=by
 have e1:KI c=false:=by
  unfold KI;rw[AlG (show¬c.toNat≤122 from by omega),AlG (show¬c.toNat≤57 from by omega),Al0,Al0]; rfl
 have e2:(c.toNat==45)=false:=by rw[AlD]; omega
 refine⟨e1,?_,by rw[AlD]; omega⟩;unfold AfW;rw[e1,e2]; rfl
theorem Tl {s:ByteArray}{i:Nat}{c:UInt8}(hs:s.size≤16)(h:s.data.toList[i]? =some c):
  Bi s i=some (if(if i+1=s.size then KI c else if i=0 then KI c||c.toNat==95 else AfW c)=true then .inl (i+1)else .inr (.inr false)):=by
 have hi:i<s.size:=by
  have:=(Aln.1 h).1;rw[Co]at this;exact this
 have hw:w64 ((s.size:Int)-1)=(s.size:Int)-1:=G0 (by omega) (by omega);unfold Bi;rw[Ak3 hi,D2,hw];by_cases hb:c.toNat<128
 ·rw[dec_lo h hb,Wu c.toNat c rfl,Aai c.toNat c rfl,Aet,Aa,D2,D2,Aet,Aa,D2,Aet,Aa];have e95:((c.toNat:Int)==95)=(c.toNat==95):=by rw[AlT,AlM,AlM]; omega
  by_cases hl:i+1=s.size
  ·have el:((i:Int)==(s.size:Int)-1)=true:=by rw[AlM]; omega
   rw[Ak3 hl,el];cases KI c<;>rfl
  ·have el:((i:Int)==(s.size:Int)-1)=false:=by rw[AlD]; omega
   rw[Ak1 hl,el];by_cases h0:i=0
   ·have e0:((i:Int)==0)=true:=by rw[AlM]; omega
    rw[Ak3 h0,e0];show(if(true&&((true&&KI c)||((c.toNat:Int)==95)))=true then _ else _)=_;rw[e95];cases KI c<;>cases c.toNat==95<;>rfl
   ·have e0:((i:Int)==0)=false:=by rw[AlD]; omega
    rw[Ak1 h0,e0];cases AfW c<;>rfl
 ·have hd:=dec_hi h hb;generalize Utf8.decode s i=q at hd;obtain⟨n,k⟩:=q;have hn:128≤n:=hd;obtain⟨b1,b2,b3⟩:=AjX c hb;show(Ab (gu _ (Dt (n:Int))) _)=_;rw[Adx n hn,Aet,Aa,D2,Al0,Al0,Ak1 (by decide),D2];have e95:((n:Int)==95)=false:=by rw[AlD]; omega
  by_cases hl:i+1=s.size
  ·have el:((i:Int)==(s.size:Int)-1)=true:=by rw[AlM]; omega
   rw[Ak3 hl,el,b1];rfl
  ·have el:((i:Int)==(s.size:Int)-1)=false:=by rw[AlD]; omega
   rw[Ak1 hl,el,Ak1 (by decide)];rw[Aet,Aa,D2];show(if(((i:Int)==0)&&((((i:Int)==0)&&false)||((n:Int)==95)))=true then _ else Ab (gu _ (Dq (n:Int))) _)=_;rw[AfV n hn,Aet,Aa,e95,Al0,Bool.or_false,Al0,Ak1 (by decide)];by_cases h0:i=0
   ·have e0:((i:Int)==0)=true:=by rw[AlM]; omega
    rw[Ak3 h0,e0,b1,b3];rfl
   ·have e0:((i:Int)==0)=false:=by rw[AlD]; omega
    rw[Ak1 h0,e0,b2];rfl
theorem AcS {s:ByteArray}{i:Nat}(h: ¬i<s.size):Bi s i=some (.inr (.inl i)):=by
 unfold Bi;rw[Ak1 h]
theorem Tk {s:ByteArray}(hs:s.size≤16): ∀(r:List UInt8) (i n:Nat),1≤i→s.data.toList.drop i=r→i≤s.size→r.length<n→∃z,iter (Bi s) n i=some (if ZS r=true then .inl z else .inr false)
 |r,i,0,_,_,_,h=>by omega
 | [],i,n+1,_,h,hi,_=>by
  have hl:s.data.toList.length≤i:=List.drop_eq_nil_iff.1 h;rw[Co]at hl;refine⟨i,?_⟩;show Ab (Bi s i) _=_;rw[AcS (by omega)];rfl
 |c::r,i,n+1,h1,h,hi,hn=>by
  have hc:s.data.toList[i]? =some c:=by
   have:(s.data.toList.drop i)[0]? =some c:=by rw[h]; rfl
   simpa using this
  have hlt:i<s.size:=by
   have:=(Aln.1 hc).1;rw[Co]at this; exact this
  have hr:s.data.toList.drop (i+1)=r:=by rw[←AlZ,h]; rfl
  have hlen:r.length=s.size-(i+1):=by rw[←hr,AlF,Co]
  obtain⟨z,ih⟩:=Tk hs r (i+1) n (by omega) hr (by omega) (by rw[Ak8]at hn; omega);refine⟨z,?_⟩;show Ab (Bi s i) _=_;rw[Tl hs hc,Ak1 (show¬i=0 from by omega)];cases r with
  |nil=>
   rw[Ak3 (show i+1=s.size from by rw[Alm]at hlen; omega)];show _=some (if KI c=true then _ else _);cases KI c with
   |false=>rfl
   |true=>rw[Ak3 rfl,Ak3 rfl]; exact ih
  |cons d r=>
   rw[Ak1 (show¬i+1=s.size from by rw[Ak8]at hlen; omega)];show _=some (if(AfW c&&ZS (d::r))=true then _ else _);cases AfW c with
   |false=>rfl
   |true=>
    rw[Ak3 rfl,Alx];exact ih
theorem AfO (s:ByteArray):Gi s=some (UO s.data.toList):=by
 unfold Gi;cases hl:s.data.toList with
 |nil=>
  have:eqS s (⟨#[]⟩:ByteArray)=true:=by unfold eqS; rw[hl]; rfl
  rw[this,Bool.true_or,Ak3 rfl];rfl
 |cons c r=>
  have h0:eqS s (⟨#[]⟩:ByteArray)=false:=by unfold eqS; rw[hl]; rfl
  have hz:s.size=r.length+1:=by rw[←Co,hl]; rfl
  rw[h0,AlU];by_cases hs:s.size≤16
  ·rw[AlG (show¬(s.size:Int)>16 from by omega),Ak1 (by decide)];have hc:s.data.toList[0]? =some c:=by rw[hl]; rfl
   have hd:s.data.toList.drop 1=r:=by rw[hl]; rfl
   have e': ∀n,r.length<n→∃z,iter (Bi s) (n+1) 0=some (if UO (c::r)=true then .inl z else .inr false):=by
    intro n hn;obtain⟨z,ht⟩:=Tk hs r 1 n (by decide) hd (by omega) hn;refine⟨z,?_⟩;show Ab (Bi s 0) _=_;rw[Tl hs hc,Ak3 rfl];cases r with
    |nil=>
     rw[Ak3 (show 0+1=s.size from by rw[hz]; rfl)];show _=some (if KI c=true then _ else _);cases KI c with
     |false=>rfl
     |true=>rw[Ak3 rfl,Ak3 rfl]; exact ht
    |cons d r=>
     rw[Ak1 (show¬0+1=s.size from by rw[hz,Ak8]; omega)];show _=some (if((KI c||c.toNat==95)&&ZS (d::r)&&decide ((c::d::r).length≤16))=true then _ else _);rw[All (show(c::d::r).length≤16 from by rw[Ak8,←hz]; exact hs),Bool.and_true];cases KI c||c.toNat==95 with
     |false=>rfl
     |true=>
      rw[Ak3 rfl,Alx];exact ht
   obtain⟨z,e⟩: ∃z,iter (Bi s) F7 0=some (if UO (c::r)=true then .inl z else .inr false):=e' 18446744073709551615 (by omega);rw[e,Aa];cases UO (c::r)<;>rfl
  ·rw[All (show(s.size:Int)>16 from by omega),Ak3 rfl];cases r with
   |nil=>rw[hz]at hs; simp at hs
   |cons d r=>
    show _=some ((KI c||c.toNat==95)&&ZS (d::r)&&decide ((c::d::r).length≤16));rw[AlG (show¬(c::d::r).length≤16 from by rw[Ak8,←hz]; exact hs),Al0]
def DI:List UInt8→List (List UInt8)
 | []=> [[]]
 |c::l=>if c=46 then []::DI l else match DI l with|h::t=>(c::h)::t| []=> [[c]]
theorem Xd (c:UInt8)(l:List UInt8):DI (c::l)=if c=46 then []::DI l else match DI l with|h::t=>(c::h)::t| []=> [[c]]:=rfl
theorem Qv: ∀l:List UInt8,DI l≠[]
 | []=>by simp[DI]
 |c::l=>by
  unfold DI;split
  ·simp
  ·split<;>simp
theorem VN: ∀(p r:List UInt8),(46:UInt8)∉p→DI (p++46::r)=p::DI r
 | [],r,_=>by simp[DI]
 |c::p,r,h=>by
  have hc:c≠46:=fun e=>h (by rw[e]; exact Alk);have ih:=VN p r fun q=>h (Alo _ q);show DI (c::(p++46::r))=_;rw[Xd,Ak1 hc,ih]
theorem VM: ∀(p:List UInt8),(46:UInt8)∉p→DI p=[p]
 | [],_=>rfl
 |c::p,h=>by
  have hc:c≠46:=fun e=>h (by rw[e]; exact Alk);have ih:=VM p fun q=>h (Alo _ q);unfold DI;rw[Ak1 hc,ih]
theorem Q5: ∀(l:List UInt8),(DI l).length=l.count 46+1
 | []=>rfl
 |c::l=>by
  have ih:=Q5 l;unfold DI;by_cases hc:c=46
  ·rw[Ak3 hc,hc,List.count_cons_self,Ak8,ih]
  ·rw[Ak1 hc,List.count_cons_of_ne hc];cases h:DI l with
   |nil=>exact absurd h (Qv l)
   |cons a t=>rw[h]at ih; simpa using ih
theorem RJ: ∀(l:List UInt8) (c:UInt8),(Lib.indexByte l c= -1∧c∉l)∨∃p r,l=p++c::r∧c∉p∧Lib.indexByte l c=(p.length:Int)
 | [],c=> .inl ⟨rfl,by simp⟩
 |b::l,c=>by
  unfold Lib.indexByte;cases hb:b==c with
  |true=>
   have e:b=c:=by simpa using hb
   exact .inr ⟨[],l,by rw[e]; rfl,by simp,rfl⟩
  |false=>
   have e:b≠c:=by simpa using hb
   rcases RJ l c with ⟨h1,h2⟩|⟨p,r,h1,h2,h3⟩
   ·refine .inl ⟨by rw[h1]; rfl,?_⟩;intro h;rcases Als.1 h with q|q
    ·exact e q.symm
    ·exact h2 q
   ·refine .inr ⟨b::p,r,by rw[h1]; rfl,?_,?_⟩
    ·intro h;rcases Als.1 h with q|q
     ·exact e q.symm
     ·exact h2 q
    ·rw[h3];have:((p.length:Int)== -1)=false:=by rw[AlD]; omega
     rw[Ak1 (by decide),Ak1 (by rw[this]; decide),Ak8];omega
theorem OR (s:ByteArray)(a b:Nat):(s.extract a b).data.toList=(s.data.toList.take b).drop a:=by
 rw[ByteArray.data_extract,Array.toList_extract,List.extract_eq_take_drop,List.take_drop];by_cases h:a≤b
 ·rw[Nat.add_sub_cancel' h]
 ·rw[Nat.sub_eq_zero_of_le (by omega),Al8];rw[AlH (by rw[Alq]; omega),AlH (by rw[Alq]; omega)]
def AgR (l:List UInt8):Bool:=(DI l).all UO
theorem b5_eq (b:ByteArray)(s:Unit×Nat):BP b s=some ((),if UO b.data.toList=true then 0 else 1):=by
 unfold BP;rw[AfO,Aa];cases UO b.data.toList<;>rfl
def cbk:(Unit×Nat)→ByteArray→Option (Bool×(Unit×Nat)):=fun(s:(Unit)×Nat) (b0:ByteArray)=>if s.2=0 then Ab (BP b0 s) fun y=>some (y.2==0,y)else none
theorem Ah2 (b:ByteArray):cbk ((),0) b=some (UO b.data.toList,((),if UO b.data.toList=true then 0 else 1)):=by
 unfold cbk;rw[Ak3 rfl,b5_eq,Aa];cases UO b.data.toList<;>rfl
theorem Wi (s:ByteArray)(h:s.size≤1000):Cp s (⟨#[46]⟩:ByteArray)=some (Ac1 s 46):=by
 obtain⟨x,hx,h1,h2⟩:=Wj s;unfold Cp A5 B1;rw[D2];cases he:eqS (⟨#[46]⟩:ByteArray) s with
 |true=>
  have e:=(PB.1 he);subst e;rfl
 |false=>rfl
theorem SY: ∀(m:Nat) (s:ByteArray) (n:Nat),s.size≤m→m<n→m≤100→
  ∃z:ByteArray,iter (AW cbk (⟨#[46]⟩:ByteArray) 0) n (s,((),0))=some (if(DI s.data.toList).dropLast.all UO=true then .inl (z,((),0))else .inr ((⟨#[46]⟩:ByteArray),z,0,((),1)))∧
   ((DI s.data.toList).dropLast.all UO=true→some z.data.toList=(DI s.data.toList).getLast?)
 |m,s,0,_,h,_=>by omega
 |m,s,n+1,hs,hn,hm=>by
  have hx:Cp s (⟨#[46]⟩:ByteArray)=some (Ac1 s 46):=Wi s (by omega);show∃z,Ab (AW cbk (⟨#[46]⟩:ByteArray) 0 (s,((),0))) _=_∧_;rcases RJ s.data.toList 46 with ⟨h1,h2⟩|⟨p,r,h1,h2,h3⟩
  ·have e:AW cbk (⟨#[46]⟩:ByteArray) 0 (s,((),0))=some (.inr (.inl (s,((),0)))):=by
    unfold AW;show Ab (Cp s (⟨#[46]⟩:ByteArray)) _=_;rw[hx,Aa,show Ac1 s 46= -1 from h1];rfl
   rw[e,VM _ h2];exact⟨s,rfl,fun _=>rfl⟩
  ·have hz:s.size=p.length+1+r.length:=by rw[←Co,h1,Ak5,Ak8]; omega
   have e1:U6 s 0 (w64 ((p.length:Int)+0))=some (s.extract 0 p.length):=by
    rw[Int.add_zero,G0 (by omega) (by omega),Io (by omega) (by omega) (by omega)];rfl
   have e2:U6 s (w64 ((p.length:Int)+((⟨#[46]⟩:ByteArray).size:Int))) (s.size:Int)=some (s.extract (p.length+1) s.size):=by
    have:((⟨#[46]⟩:ByteArray).size:Int)=1:=rfl;rw[this,G0 (by omega) (by omega),Io (by omega) (by omega) (by omega)];rfl
   have l1:(s.extract 0 p.length).data.toList=p:=by
    rw[OR,h1,List.take_left]; rfl
   have l2:(s.extract (p.length+1) s.size).data.toList=r:=by
    rw[OR,←Co,List.take_length,h1];rw[←AlZ,List.drop_left]; rfl
   have e:AW cbk (⟨#[46]⟩:ByteArray) 0 (s,((),0))=some (if UO p=true then .inl (s.extract (p.length+1) s.size,((),0))else .inr (.inr ((⟨#[46]⟩:ByteArray),s,0,((),1)))):=by
    unfold AW;show Ab (Cp s (⟨#[46]⟩:ByteArray)) _=_;rw[hx,Aa,show Ac1 s 46=(p.length:Int)from h3,Ak1 (by rw[Ak7]; omega),e1,Aa,Ah2,Aa,l1];cases hlab:UO p with
    |false=>rfl
    |true=>
     rw[Ak1 (by simp)];dsimp only;rw[e2,Aa];rfl
   rw[e,h1,VN p r h2];have hsz:(s.extract (p.length+1) s.size).size=r.length:=by rw[←Co,l2]
   obtain⟨z,ih1,ih2⟩:=SY (m-1) (s.extract (p.length+1) s.size) n (by omega) (by omega) (by omega);rw[l2]at ih1 ih2;have hd:(p::DI r).dropLast=p::(DI r).dropLast:=by
    cases hq:DI r with
    |nil=>exact absurd hq (Qv r)
    |cons a t=>rfl
   have hg:(p::DI r).getLast? =(DI r).getLast? :=by
    cases hq:DI r with
    |nil=>exact absurd hq (Qv r)
    |cons a t=>rfl
   rw[hd,hg,AlQ];cases UO p with
   |false=>exact⟨s,rfl,fun h=>by cases h⟩
   |true=>exact⟨z,ih1,ih2⟩
theorem Vk {α:Type}(f:α→Bool): ∀(l:List α) (x:α),l.getLast? =some x→l.all f=(l.dropLast.all f&&f x)
 | [],x,h=>by cases h
 | [a],x,h=>by cases h; simp
 |a::b::l,x,h=>by
  have ih:=Vk f (b::l) x (by simpa using h);show(f a&&(b::l).all f)=((f a&&(b::l).dropLast.all f)&&f x);rw[ih,Bool.and_assoc]
def isB (l:List UInt8)(n k:Nat):Bool:=decide (l.length≤k)&&decide ((DI l).length≤n)&&AgR l
theorem Acy (s:ByteArray)(n k:Nat)(hk:k≤100):CQ s (n:Int) (k:Int)=some (isB s.data.toList n k):=by
 rw[UH]; unfold isB;have hz:=Co s;by_cases h1:s.size≤k
 ·rw[AlG (show¬(s.size:Int)>k from by omega),Ak1 (by decide),All (show s.data.toList.length≤k from by omega)];have ec:FM s (⟨#[46]⟩:ByteArray)=some ((s.data.toList.count 46:Nat):Int):=rfl;rw[ec,Aa,Aa,Q5];by_cases h2:s.data.toList.count 46+1≤n
  ·rw[AlG (show¬((s.data.toList.count 46:Nat):Int)≥(n:Int)from by omega),Ak1 (by decide),All h2];obtain⟨z,e1,e2⟩:=SY 100 s F7 (by omega) (by have:=Ky; omega) (by decide);have es:Bx cbk (⟨#[46]⟩:ByteArray) s 0 ((),0)=some ((⟨#[46]⟩:ByteArray),z,0,((),if AgR s.data.toList=true then 0 else 1)):=by
    unfold Bx;rw[Ak1 (by decide),e1,Aa];unfold AgR;cases hd:(DI s.data.toList).dropLast.all UO with
    |true=>
     have hlast:=(e2 hd).symm;rw[Vk UO _ _ hlast,hd,Ak3 rfl];show Ab (cbk ((),0) z) _=_;rw[Ah2,Aa,Alx]
    |false=>
     have:(DI s.data.toList).all UO=false:=by
      cases hl:(DI s.data.toList).getLast? with
      |none=>exact absurd (List.getLast?_eq_none_iff.1 hl) (Qv _)
      |some x=>rw[Vk UO _ x hl,hd]; rfl
     rw[this];rfl
   show Ab (Bx cbk (⟨#[46]⟩:ByteArray) s 0 ((),0)) _=_;rw[es,Aa];cases AgR s.data.toList<;>rfl
  ·rw[All (show((s.data.toList.count 46:Nat):Int)≥(n:Int)from by omega),Ak3 rfl,AlG h2];rfl
 ·rw[All (show(s.size:Int)>k from by omega),Ak3 rfl,Aa,Ak3 rfl,AlG (show¬s.data.toList.length≤k from by omega)];rfl
theorem Je {α:Type}{l:List α}{i:Nat}{x:α}(h:l[i]? =some x):idx l (i:Int)=some x:=by
 unfold idx;rw[Ak3 (by omega)];exact h
end Go.Proofs.YtnhdojckpcbjeaaGreatDoor
end
