/- Several texts, one behind the other. Conditions: none. -/
import Derived.Test.YtbajlmaijjcbmaaGreatDoorZg
import Derived.Test.YtbajlmaijjcbmaaGreatDoorZh
import Derived.Test.YtbajlmaijjcbmaaGreatDoorZi
set_option linter.unusedSimpArgs false
set_option linter.unusedVariables false
set_option maxHeartbeats 2000000
set_option maxRecDepth 100000
section
namespace Go.Proofs.YtbajlmaijjcbmaaGreatDoor
open Go Go.Gw Go.Ax
def Tot {α:Type}(x:Option α):Prop:= ∃r,x=some r
theorem tot {α:Type}(r:α):Tot (some r):=⟨r,rfl⟩
theorem Cj {α β:Type}{x:Option α}{k:α→Option β}(h:Tot x)(hk: ∀a,x=some a→Tot (k a)):Tot (Ac x k):=by
 obtain⟨a,h⟩:=h;rw[h]; exact hk a h
theorem K9 {α:Type} [Inhabited α]{b:Bool}{x:Option α}(h:b=true→Tot x):Tot (gu b x):=by
 cases b with
 |true=>exact h rfl
 |false=>exact tot default
theorem NF {α:Type}{b:Bool}{x y:Option α}(h1:b=true→Tot x)(h0:b=false→Tot y):Tot (if b=true then x else y):=by
 cases b with
 |true=>exact h1 rfl
 |false=>exact h0 rfl
theorem AaY {α:Type}{c:Prop} [Decidable c]{x y:Option α}(h1:c→Tot x)(h0: ¬c→Tot y):Tot (if c then x else y):=by
 split
 ·exact h1 ‹_›
 ·exact h0 ‹_›
theorem Lw {σ τ:Type}{step:σ→Option (σ⊕τ)}(μ:σ→Nat)(I:σ→Prop)(Q:τ→Prop)
  (h: ∀s,I s→∃r,step s=some r∧(∀s',r= .inl s'→I s'∧μ s'<μ s)∧∀t,r= .inr t→Q t): ∀n s,I s→μ s<n→∃t,iter step n s=some t∧Q t
 |0,s,_,hn=>by omega
 |n+1,s,hI,hn=>by
  obtain⟨r,h1,h2,h3⟩:=h s hI;cases r with
  |inr t=>exact⟨t,by show Ac (step s) _=_; rw[h1]; rfl,h3 t rfl⟩
  |inl s'=>
   obtain⟨i',lt⟩:=h2 s' rfl;obtain⟨t,e,q⟩:=Lw μ I Q h n s' i' (by omega);exact⟨t,by show Ac (step s) _=_; rw[h1]; exact e,q⟩
theorem Pe (s:ByteArray)(i:Nat):1≤(Utf8.decode s i).2:=by
 unfold Utf8.decode;simp only;repeat' split
 all_goals simp
theorem Bp:9223372036854775808≤A0:=Nat.le_of_ble_eq_true rfl
theorem VW (c:Int):F4 c=some (decide (c≤32)||decide (c>126)):=rfl
theorem QA (s:ByteArray)(b:Bool)(hs:s.size<9223372036854775808):Tot (Bx s b):=by
 unfold Bx;refine Cj ?_ fun a _=> ?_
 ·obtain⟨t,e,_⟩:=Lw (step:=Am s b) (fun i=>s.size-i) (fun _=>True) (fun _=>True) (fun i _=>by
   unfold Am;by_cases hi:i<s.size
   ·rw[if_pos hi];simp only[bnd,VW,Ab];split
    ·exact⟨_,rfl,fun s' h=>(by cases h),fun _ _=>trivial⟩
    ·refine⟨_,rfl,fun s' h=> ?_,fun _ _=>trivial⟩;cases h;have:=Pe s i;exact⟨trivial,by omega⟩
   ·rw[if_neg hi];exact⟨_,rfl,fun s' h=>(by cases h),fun _ _=>trivial⟩) A0 0 trivial (by have:=Bp; omega)
  exact⟨t,e⟩
 ·cases a with
  |inl _=>exact tot _
  |inr _=>exact tot _
theorem Yz (s:ByteArray):Tot (CT s):=by
 unfold CT;refine Cj (K9 fun h=> ?_) fun a _=>tot _;simp only[Bool.and_eq_true,decide_eq_true_eq]at h;unfold A5 B4;refine Cj (Cj (QA s true (by omega)) fun a _=>tot _) fun a _=>tot _
theorem VV {s:ByteArray}{b:Bool}(h:CT s=some b):b=true→eqS s (⟨#[]⟩:ByteArray)=false∧s.size≤64:=by
 unfold CT at h;obtain⟨x,_,h⟩:=Aa h;have h:=Option.some.inj (AE h);intro hb;rw[hb]at h;simp only[Bool.and_eq_true,Bool.not_eq_true',decide_eq_true_eq]at h;exact⟨h.1.1,by omega⟩
theorem QD (c:Int):Tot (Cu c):=tot _
theorem Xn (c:Int):Tot (Cr c):=by
 unfold Cr;exact Cj (K9 fun _=>QD c) fun a _=>tot _
theorem Xd (s:ByteArray):Tot (C9 s):=by
 unfold C9;refine NF (fun _=>tot _) fun h=> ?_;simp only[Bool.or_eq_false_iff,decide_eq_false_iff_not]at h;refine Cj ?_ fun a _=> ?_
 ·obtain⟨t,e,_⟩:=Lw (step:=AI s) (fun i=>s.size-i) (fun _=>True) (fun _=>True) (fun i _=>by
   unfold AI;by_cases hi:i<s.size
   ·rw[if_pos hi];have hd:=Pe s i;obtain⟨x4,h4⟩:=K9 (b:=((i:Int)==(w64 ((s.size:Int)-1)))) fun _=>QD ((Utf8.decode s i).1:Int);obtain⟨x7,h7⟩:=K9 (b:=((i:Int)==0)) fun _=>QD ((Utf8.decode s i).1:Int);obtain⟨x9,h9⟩:=K9 (b:=(!((i:Int)==0))) fun _=>Xn ((Utf8.decode s i).1:Int);simp only[bnd,h4,h7,h9,Ab];split
    ·exact⟨_,rfl,fun s' h=>(by cases h; exact⟨trivial,by omega⟩),fun _ _=>trivial⟩
    ·split
     ·exact⟨_,rfl,fun s' h=>(by cases h),fun _ _=>trivial⟩
     ·split
      ·exact⟨_,rfl,fun s' h=>(by cases h; exact⟨trivial,by omega⟩),fun _ _=>trivial⟩
      ·split
       ·exact⟨_,rfl,fun s' h=>(by cases h),fun _ _=>trivial⟩
       ·exact⟨_,rfl,fun s' h=>(by cases h; exact⟨trivial,by omega⟩),fun _ _=>trivial⟩
   ·rw[if_neg hi];exact⟨_,rfl,fun s' h=>(by cases h),fun _ _=>trivial⟩) A0 0 trivial (by have:=Bp; omega)
  exact⟨t,e⟩
 ·cases a with
  |inl _=>exact tot _
  |inr _=>exact tot _
theorem Aao: ∀(l:List UInt8) (c:UInt8),Lib.indexByte l c<l.length
 | [],c=>by simp[Lib.indexByte]
 |b::l,c=>by
  have:=Aao l c;unfold Lib.indexByte;split
  ·rw[List.length_cons]; omega
  ·split
   ·rw[List.length_cons]; omega
   ·rw[List.length_cons]; omega
theorem AF (s:ByteArray):s.data.toList.length=s.size:=by rw[Array.length_toList]; rfl
theorem RZ (s:ByteArray): ∃x:Int,By s (⟨#[46]⟩:ByteArray)=some x∧ -1≤x∧x<s.size:=by
 unfold By AU AZ;simp only[bnd];by_cases h:((((⟨#[46]⟩:ByteArray).size:Int)==0)||eqS (⟨#[46]⟩:ByteArray) s)=true
 ·rw[if_pos h];refine⟨0,rfl,by omega,?_⟩;have h1:eqS (⟨#[46]⟩:ByteArray) s=true:=by
   cases he:eqS (⟨#[46]⟩:ByteArray) s with
   |true=>rfl
   |false=>rw[he]at h; cases h
  have h2: [(46:UInt8)]=s.data.toList:=by simpa[eqS]using h1
  have h3:=AF s;rw[←h2]at h3;simp only[List.length_cons,List.length_nil]at h3;omega
 ·rw[if_neg h];refine⟨Aap s 46,rfl,Lib.indexByte_ge _ _,?_⟩;have:=Aao s.data.toList 46;rw[AF]at this;exact this
theorem E9 {x:Int}(h0: -9223372036854775808≤x)(h1:x≤9223372036854775807):w64 x=x:=by
 unfold w64; omega
theorem F9 {s:ByteArray}{lo hi:Int}(h0:0≤lo)(h1:lo≤hi)(h2:hi≤s.size):Mh s lo hi=some (s.extract lo.toNat hi.toNat):=by
 unfold Mh; rw[if_pos ⟨h0,h1,h2⟩]
theorem Uo (s:ByteArray)(n k:Int)(hk:k≤64):Tot (BH s n k):=by
 unfold BH;refine Cj ?_ fun x2 hx2=> ?_
 ·refine NF (fun _=>tot _) fun _=> ?_;exact⟨_,rfl⟩
 ·refine NF (fun _=>tot _) fun h=> ?_;have hsz:s.size≤64:=by
   cases hd:decide ((s.size:Int)>k)with
   |true=>rw[if_pos hd]at hx2; cases hx2; cases h
   |false=>simp only[decide_eq_false_iff_not]at hd; omega
  have key: ∃r,A1 (fun(s:(Unit)×Nat) (b0:ByteArray)=>if s.2=0 then Ac (Bl b0 s) fun y=>some (y.2==0,y)else none) (⟨#[46]⟩:ByteArray) s 0 ((),0)=some r:=by
   have hb5: ∀(b0:ByteArray) (s:Unit×Nat),∃z:Nat,Bl b0 s=some ((),z):=fun b0 s=>by
    unfold Bl;obtain⟨y,hy⟩:=Xd b0;rw[hy];simp only[Ab];split
    ·exact⟨1,rfl⟩
    ·exact⟨0,rfl⟩
   unfold A1;rw[if_neg (by decide)];obtain⟨tt,hit,hq⟩: ∃t,iter (Az (fun(s:(Unit)×Nat) (b0:ByteArray)=>if s.2=0 then Ac (Bl b0 s) fun y=>some (y.2==0,y)else none) (⟨#[46]⟩:ByteArray) 0) A0 (s,((),0))=some t∧∀y,t= .inl y→y.2.2=0:=by
    exact Lw (step:=Az (fun(s:(Unit)×Nat) (b0:ByteArray)=>if s.2=0 then Ac (Bl b0 s) fun y=>some (y.2==0,y)else none) (⟨#[46]⟩:ByteArray) 0) (fun z=>z.1.size) (fun z=>z.1.size≤64∧z.2.2=0) (fun t=> ∀y,t= .inl y→y.2.2=0) (fun z hz=>by
     obtain⟨x,h1,h2,h3⟩:=RZ z.1;unfold Az;rw[h1];simp only[Ab];by_cases hx:x<0
     ·rw[if_pos (by simpa using hx)];exact⟨_,rfl,fun s' h=>(by cases h),fun t ht y hy=>by subst hy; cases ht; exact hz.2⟩
     ·rw[if_neg (by simpa using hx)];have hw:w64 (x+0)=x:=by rw[Int.add_zero]; exact E9 (by omega) (by omega)
      have hw1:w64 (x+((⟨#[46]⟩:ByteArray).size:Int))=x+1:=E9 (x:=x+1) (by omega) (by omega);rw[hw,hw1,F9 (by omega) (by omega) (by omega),F9 (lo:=x+1) (by omega) (by omega) (by omega)];simp only[Ab,if_pos hz.2];obtain⟨zz,hzz⟩:=hb5 (z.1.extract (0:Int).toNat x.toNat) z.2;rw[hzz];simp only[Ab];split
      ·exact⟨_,rfl,fun s' h=>(by cases h),fun t ht y hy=>by subst hy; cases ht⟩
      ·rename_i hne;refine⟨_,rfl,fun s' h=> ?_,fun t ht=>by cases ht⟩;cases h;have e0:zz=0:=by simpa using hne
       refine⟨⟨?_,e0⟩,?_⟩
       ·simp only[ByteArray.size_extract]; omega
       ·simp only[ByteArray.size_extract]; omega) A0 (s,((),0)) ⟨hsz,rfl⟩ (by have:=Bp; show s.size<A0; omega)
   show Tot (Ac (iter _ A0 (s,((),0))) _);rw[hit];cases tt with
   |inr _=>exact tot _
   |inl y3=>
    have h0:=hq y3 rfl;obtain⟨zz,hzz⟩:=hb5 y3.1 y3.2;simp only[Ab,if_pos h0,hzz];exact tot _
  obtain⟨r,hr⟩:=key;show Tot (Ac (A1 _ (⟨#[46]⟩:ByteArray) s 0 ((),0)) _);rw[hr];simp only[Ab];exact AaY (fun _=>tot _) fun _=>tot _
theorem Aaq (s:ByteArray):Tot (C2 s):=Cj (Uo s 8 64 (by decide)) fun a _=>tot _
theorem Yl (s:ByteArray):Tot (Cs s):=by
 unfold Cs;refine Cj (Aaq s) fun a _=>Cj ?_ fun a _=>tot _;unfold Dz;exact NF (fun _=>tot _) fun _=>tot _
theorem QI (s:ByteArray):Tot (Bz s (⟨#[42,46]⟩:ByteArray)):=by
 unfold Bz AK AJ;refine Cj (Cj (Cj (K9 fun h=> ?_) fun a _=>tot _) fun b hb=> ?_) fun a _=>tot _
 ·simp only[decide_eq_true_eq]at h;exact⟨_,F9 (by omega) (by omega) h⟩
 ·refine NF (fun _=>tot _) fun h=> ?_;obtain⟨x,_,hx⟩:=Aa hb;have hx:=Option.some.inj (AE hx);have hb:b=true:=by simpa using h
  rw[hb]at hx;simp only[Bool.and_eq_true,decide_eq_true_eq]at hx;exact Cj ⟨_,F9 (by omega) hx.1 (by omega)⟩ fun a _=>tot _
theorem TP (s:ByteArray):Tot (BZ s):=by
 unfold BZ CS;refine Cj (Cj (Aaq s) fun a _=>NF (fun _=>tot _) fun _=>Cj (QI s) fun b _=>Cj (K9 fun _=>Uo _ 7 62 (by decide)) fun c _=>tot _) fun a _=>Cj ?_ fun a _=>tot _;unfold Dz;exact NF (fun _=>tot _) fun _=>tot _
end Go.Proofs.YtbajlmaijjcbmaaGreatDoor
end
section
namespace Go.Proofs.YtbajlmaijjcbmaaGreatDoor
open Go Go.Gw Go.Ax
theorem VU {α:Type}{x:Option α}{d:α}(h:Tot x):x=some (x.getD d):=by
 obtain⟨r,h⟩:=h;rw[h]; rfl
def textV (s:ByteArray):Bool:=(CT s).getD false
def nameV (s:ByteArray):Int:=(Cs s).getD 0
def patV (s:ByteArray):Int:=(BZ s).getD 0
theorem SO (s:ByteArray):CT s=some (textV s):=VU (Yz s)
theorem Qp (s:ByteArray):Cs s=some (nameV s):=VU (Yl s)
theorem Th (s:ByteArray):BZ s=some (patV s):=VU (TP s)
theorem TZ {s:ByteArray}(h:textV s=true):eqS s (⟨#[]⟩:ByteArray)=false∧s.size≤64:=VV (SO s) h
theorem RO {s:ByteArray}{n k:Int}(h:BH s n k=some true):(s.size:Int)≤k:=by
 unfold BH at h;obtain⟨x,hx,h⟩:=Aa h;cases hd:decide ((s.size:Int)>k)with
 |true=>
  rw[if_pos hd]at hx;cases hx;cases h
 |false=>simp only[decide_eq_false_iff_not]at hd; omega
theorem Xk {s:ByteArray}(h:C2 s=some true):s.size≤64:=by
 obtain⟨x,hx,h⟩:=Aa h;cases h;have:=RO hx;omega
theorem Rz {b:Bool}{r:Int}(h:Dz b=some r)(h0:r=0):b=true:=by
 cases b with
 |true=>rfl
 |false=>
  have h2:(110:Int)=r:=Option.some.inj h;omega
theorem Vl {s:ByteArray}(h:nameV s=0):s.size≤64:=by
 have e:=Qp s;rw[h]at e;obtain⟨x,hx,e⟩:=Aa e;obtain⟨y,hy,e⟩:=Aa e;cases e;have:=Rz hy rfl;rw[this]at hx;exact Xk hx
theorem OJ {s:ByteArray}{c:ByteArray×Bool}(h:Bz s (⟨#[42,46]⟩:ByteArray)=some c)(h1:c.2=true):c.1.size+2=s.size:=by
 unfold Bz AK AJ at h;obtain⟨d,hd,h⟩:=Aa h;have h:=Option.some.inj h;subst h;obtain⟨p,hp,hd⟩:=Aa hd;cases p with
 |false=>
  have hd:=Option.some.inj hd;subst hd;cases h1
 |true=>
  obtain⟨q,hq,hd⟩:=Aa hd;have hd:=Option.some.inj hd;subst hd;unfold Mh at hq;split at hq
  ·rename_i hc;have hq:=Option.some.inj hq;have e2:(⟨#[42,46]⟩:ByteArray).size=2:=rfl;rw[e2]at hq hc;show q.size+2=s.size;rw[←hq,ByteArray.size_extract];omega
  ·cases hq
theorem WW {s:ByteArray}(h:patV s=0):s.size≤64:=by
 have e:=Th s;rw[h]at e;obtain⟨x,hx,e⟩:=Aa e;obtain⟨y,hy,e⟩:=Aa e;cases e;have h1:=Rz hy rfl;unfold CS at hx;obtain⟨b,hb,hx⟩:=Aa hx;cases b with
 |true=>exact Xk hb
 |false=>
  rw[if_neg (by decide)]at hx;obtain⟨c,hc,hx⟩:=Aa hx;obtain⟨d,hd,hx⟩:=Aa hx;have hx:=Option.some.inj hx;subst hx;have h2:(c.2&&d)=true:=h1;simp only[Bool.and_eq_true]at h2;rw[h2.1,h2.2]at hd;have h3:=RO hd;have h4:=OJ hc h2.1;omega
def KK (right:ByteArray→Int):List ByteArray→List ByteArray→Bool
 |_,[]=>true
 |met,s::l=> !(met.any (eqS s))&&right s==0&&KK right (met++[s]) l
def JG (met:List ByteArray):List (ByteArray×Bool):=met.map fun s=>(s,true)
theorem N0: ∀(met:List ByteArray) (s:ByteArray) (i:Nat),(lkI (JG met) s i).isSome=met.any (eqS s)∧∀p,lkI (JG met) s i=some p→p.2=true
 | [],s,i=>⟨rfl,fun p h=>by cases h⟩
 |a::met,s,i=>by
  have ih:=N0 met s (i+1);rw[List.any_cons];cases h:eqS s a with
  |true=>
   refine⟨?_,fun p hp=> ?_⟩
   ·show(if eqS s a=true then some (i,true)else lkI (JG met) s (i+1)).isSome=_;rw[if_pos h]; rfl
   ·have hp:(if eqS s a=true then some (i,true)else lkI (JG met) s (i+1))=some p:=hp;rw[if_pos h]at hp;cases hp; rfl
  |false=>
   refine⟨?_,fun p hp=> ?_⟩
   ·show(if eqS s a=true then some (i,true)else lkI (JG met) s (i+1)).isSome=_;rw[if_neg (by rw[h]; decide)]; exact ih.1
   ·have hp:(if eqS s a=true then some (i,true)else lkI (JG met) s (i+1))=some p:=hp;rw[if_neg (by rw[h]; decide)]at hp;exact ih.2 p hp
theorem W8 (met:List ByteArray)(s:ByteArray):lkB (JG met) s=met.any (eqS s):=by
 have h:=N0 met s 0;unfold lkB;rw[←h.1];cases e:lkI (JG met) s 0 with
 |none=>rfl
 |some p=>rw[Option.map_some,Option.getD_some,h.2 p e]; rfl
theorem Y4 (met:List ByteArray)(s:ByteArray)(h:met.any (eqS s)=false):(lkI (JG met) s 0).isNone=true:=by
 have h1:=(N0 met s 0).1;rw[h]at h1;cases e:lkI (JG met) s 0 with
 |none=>rfl
 |some p=>rw[e]at h1; cases h1
theorem AbG (right:ByteArray→Int)(mr:ByteArray→Option Int)(hr: ∀s,mr s=some (right s)): ∀(l met:List ByteArray) (i:Int),
  Fw (fun(i1:Int) (x2:ByteArray) (s1:List (ByteArray×Bool))=>Ac (gu (!(lkB s1 x2)) (mr x2)) fun x3=>if((lkB s1 x2)||(x3 !=0))=true then some (.inr false)else if(lkI s1 x2 0).isNone=true then some (.inl (s1++[(x2,true)]))else none) l i (JG met)
   =some (if KK right met l=true then .inl (JG (met++l))else .inr false)
 | [],met,i=>by simp[Fw,KK]
 |s::l,met,i=>by
  have ih:=AbG right mr hr l (met++[s]) (i+1);have hm':=W8 met s;simp only[Fw,hr]at ih⊢;rw[hm'];cases hm:met.any (eqS s)with
  |true=>simp[gu,KK,hm]
  |false=>
   simp only[gu,Bool.not_false,cond_true,Ab,Bool.false_or];cases h0:right s==0 with
   |false=>
    have h1:(right s !=0)=true:=by simp only[bne,h0,Bool.not_false]
    rw[if_pos h1];simp[KK,hm,h0]
   |true=>
    have h1:(right s !=0)=false:=by simp only[bne,h0,Bool.not_true]
    rw[h1];simp only[Bool.false_eq_true,if_false,Y4 met s hm,if_true,Ab];have e:JG met++[(s,true)]=JG (met++[s]):=by simp[JG]
    rw[e];simp only[gu]at ih;rw[ih];simp[KK,hm,h0]
def listV (right:ByteArray→Int)(l:List ByteArray)(a b:Int):Bool:=KK right [] l&&decide ((l.length:Int)≥a)&&decide ((l.length:Int)≤b)
theorem Xb (l:List ByteArray)(a b:Int):Ew l a b=some (listV patV l a b):=by
 unfold Ew;have h:=AbG patV BZ Th l [] 0;show Ac (Fw _ l 0 (JG [])) _=_;unfold D9;rw[h];unfold listV;cases KK patV [] l<;>rfl
theorem Xa (l:List ByteArray)(a b:Int):Ex l a b=some (listV nameV l a b):=by
 unfold Ex;have h:=AbG nameV Cs Qp l [] 0;show Ac (Fw _ l 0 (JG [])) _=_;unfold Ea;rw[h];unfold listV;cases KK nameV [] l<;>rfl
theorem RS {right:ByteArray→Int}: ∀{l met:List ByteArray},KK right met l=true→∀s∈l,right s=0
 | [],met,_,s,hs=>by cases hs
 |a::l,met,h,s,hs=>by
  simp only[KK,Bool.and_eq_true,beq_iff_eq]at h;rcases List.mem_cons.1 hs with e|hs
  ·rw[e]; exact h.1.2
  ·exact RS h.2 s hs
def numB (n:Int):Bool:=decide (n≥0)&&decide (n≤1099511627776)
def sigB (s:g_api_Sig):Bool:=decide ((NW s.E s.S).toNat<1152921504606845789)
def promBC (p:g_api_Promise):Bool:=numB p.Log&&numB p.At&&decide ((NW p.Leaf.1 p.Leaf.2).toNat<2305843009213693951)&&sigB p.Sig
theorem O0 (n:Int):Dc n=some (numB n):=rfl
theorem RC (s:g_api_Sig):EM s=some (sigB s):=by
 unfold EM sigB;simp only[bnd,Option.some.injEq,decide_eq_decide];omega
theorem max_eq (a b:UInt64):BN [a,b]=some (NW a b):=by
 have e1:AG [a,b] (a,1)=some (.inl (NW a b,2)):=rfl;have e2:AG [a,b] (NW a b,2)=some (.inr (NW a b)):=rfl;have h: ∀n,iter (AG [a,b]) (n+1+1) (a,1)=some (NW a b):=fun n=>by
  simp only[iter,e1,Ab,e2]
 have hf:iter (AG [a,b]) A0 (a,1)=some (NW a b):=h 18446744073709551614;have i0:idx [a,b] 0=some a:=rfl;have d0:decide ((([a,b]:List UInt64).length:Int)<1)=false:=rfl;unfold BN;rw[d0,i0];simp only[Bool.false_eq_true,if_false,Ab,hf]
theorem QZ {c v:Bool}:gu c (some v)=some (c&&v):=by cases c<;>rfl
theorem Kv {α:Type} [Inhabited α](o:Option α):gu true o=o:=rfl
theorem R0 {α:Type} [Inhabited α](o:Option α):gu false o=some default:=rfl
theorem B9 {α β:Type}(a:α)(k:α→β):bnd a k=k a:=rfl
theorem Tf (p:g_api_Promise):Ev p=some (promBC p):=by
 unfold Ev promBC;simp only[O0,max_eq,RC,QZ,B9,Ab];have e: ∀x:UInt64,decide ((x.toNat:Int)<2305843009213693951)=decide (x.toNat<2305843009213693951):=fun x=>by
  rw[decide_eq_decide]; omega
 simp only[e];cases numB p.Log with
 |false=>simp only[Bool.false_and,R0,Ab]
 |true=>
  cases numB p.At with
  |false=>simp only[Bool.false_and,Bool.true_and,R0,Ab]
  |true=>
   simp only[Bool.true_and,Kv,Ab];cases decide ((NW p.Leaf.1 p.Leaf.2).toNat<2305843009213693951)<;>simp only[Bool.false_and,Bool.true_and]
def promsB:Int→List g_api_Promise→Bool
 |_,[]=>true
 |last,p::l=>promBC p&& !(decide (p.Log≤last))&&promsB p.Log l
theorem Uh: ∀(l:List g_api_Promise) (i last:Int),∃z:Int,Fw Ch l i last=some (if promsB last l=true then .inl z else .inr false)
 | [],i,last=>⟨last,rfl⟩
 |p::l,i,last=>by
  obtain⟨z,ih⟩:=Uh l (i+1) p.Log;refine⟨z,?_⟩;have e:Ch i p last=some (if(promBC p&& !(decide (p.Log≤last)))=true then .inl p.Log else .inr false):=by
   unfold Ch;rw[Tf,Ab];cases promBC p<;>cases decide (p.Log≤last)<;>rfl
  show Ac (Ch i p last) _=_;rw[e];cases h:promBC p&& !(decide (p.Log≤last))with
  |false=>
   simp[promsB,h]
  |true=>
   rw[if_pos rfl,Ab];show Fw Ch l (i+1) p.Log=_;rw[ih];simp[promsB,h]
theorem OZ: ∀{l:List g_api_Promise} {last:Int},promsB last l=true→∀p∈l,promBC p=true
 | [],_,_,p,hp=>by cases hp
 |a::l,last,h,p,hp=>by
  simp only[promsB,Bool.and_eq_true]at h;rcases List.mem_cons.1 hp with e|hp
  ·rw[e]; exact h.1.1
  ·exact OZ h.2 p hp
def formB (c:g_api_Cert):Bool:=promsB (-1) c.Proms&&(numB c.Serial&&numB c.From&&numB c.Until&&decide (c.From<c.Until))&&(textV c.Issuer&&(!((c.Key.toNat:Int)==0))&&decide ((c.Key.toNat:Int)<2305843009213691579)&&decide ((c.Proms.length:Int)≤4)&&sigB c.Sig)&&(if c.Ca=true then textV c.Subject&&((c.Names.length:Int)==0)&&decide (c.Depth≥0)&&decide (c.Depth≤4)&&listV patV c.Permit 0 8 else eqS c.Subject (⟨#[]⟩:ByteArray)&&listV nameV c.Names 1 8&&(c.Depth==0)&&((c.Permit.length:Int)==0))
theorem Xx (c:g_api_Cert):F5 c=some (formB c):=by
 obtain⟨z,hz⟩:=Uh c.Proms 0 (-1);unfold F5 formB;rw[hz];cases promsB (-1) c.Proms with
 |false=>rfl
 |true=>
  rw[if_pos rfl,Ab];simp only[O0,SO,RC,Xb,Xa,QZ,B9,Ab,Bool.true_and];have e1:decide (c.From≥c.Until)= !decide (c.From<c.Until):=by
   rw[←decide_not,decide_eq_decide]; omega
  have e2:decide ((c.Key.toNat:Int)≥2305843009213691579)= !decide ((c.Key.toNat:Int)<2305843009213691579):=by
   rw[←decide_not,decide_eq_decide]; omega
  have e3:decide ((c.Proms.length:Int)>4)= !decide ((c.Proms.length:Int)≤4):=by
   rw[←decide_not,decide_eq_decide]; omega
  rw[e1,e2,e3];generalize numB c.Serial=a1;generalize numB c.From=a2;generalize numB c.Until=a3;generalize decide (c.From<c.Until)=a4;generalize textV c.Issuer=b1;generalize ((c.Key.toNat:Int)==0)=b2;generalize decide ((c.Key.toNat:Int)<2305843009213691579)=b3;generalize decide ((c.Proms.length:Int)≤4)=b4;generalize sigB c.Sig=b5;cases a1<;>cases a2<;>cases a3<;>cases a4<;>try rfl
  all_goals cases b1<;>cases b2<;>cases b3<;>cases b4<;>cases b5<;>try rfl
  cases c.Ca with
  |true=>
   show some _=some _;generalize listV patV c.Permit 0 8=d1;generalize textV c.Subject=d2;generalize ((c.Names.length:Int)==0)=d3;generalize decide (c.Depth≥0)=d4;generalize decide (c.Depth≤4)=d5;cases d1<;>cases d2<;>cases d3<;>cases d4<;>cases d5<;>rfl
  |false=>
   show some _=some _;generalize listV nameV c.Names 1 8=d1;generalize eqS c.Subject (⟨#[]⟩:ByteArray)=d2;cases d1<;>cases d2<;>rfl
end Go.Proofs.YtbajlmaijjcbmaaGreatDoor
end
section
namespace Go.Proofs.YtbajlmaijjcbmaaGreatDoor
open Go Go.Gw Go.Ax
theorem Im {α:Type}(b:Nat){xs ys:List α}(h:(xs.length+ys.length)*b≤140737488355328)(h1:xs.length+ys.length≤140737488355328):app b xs ys=some (xs++ys):=by unfold app; rw[if_pos ⟨h,h1⟩]
theorem KR {α:Type}(b:Nat){ys:List α}(h:ys.length*b≤140737488355328)(h1:ys.length≤140737488355328):app b [] ys=some ys:=by
 rw[Im b (by simpa using h) (by simpa using h1)]; rfl
theorem cut_tl {α:Type}(x:α)(xs:List α):cut (x::xs) 1 (((x::xs).length:Nat):Int)=some xs:=by
 unfold cut;rw[if_pos ⟨by omega,by rw[List.length_cons]; omega,by omega⟩];show some (List.take _ xs)=_;rw[List.take_of_length_le];simp
def be8 (n:Int):List UInt8:=[toB (Dl n 56),toB (Dl n 48),toB (Dl n 40),toB (Dl n 32),toB (Dl n 24),toB (Dl n 16),toB (Dl n 8),toB (Dl n 0)]
def He:List UInt8→Bool
 | []=>false
 | [_]=>true
 |a::b::l=>decide (((a::b::l).length:Int)≤8)&&((a.toNat:Int) !=((toB (-((Vw b 7).toNat:Int))).toNat:Int))
def Ry:List UInt8→List UInt8
 | []=> []
 | [a]=> [a]
 |a::b::l=>if He (a::b::l)=true then a::b::l else Ry (b::l)
theorem Qw (l:List UInt8):Fh l=some (He l):=by
 match l with
 | []=>rfl
 | [a]=>rfl
 |a::b::l=>
  unfold Fh;have e0:(((a::b::l).length:Int)==0)=false:=by simp only[beq_eq_false_iff_ne,List.length_cons]; omega
  have e1:(((a::b::l).length:Int)==1)=false:=by simp only[beq_eq_false_iff_ne,List.length_cons]; omega
  have i0:idx (a::b::l) 0=some a:=rfl;have i1:idx (a::b::l) 1=some b:=rfl;rw[e0,e1,i0,i1];simp only[Bool.false_eq_true,if_false,Ab,B9,He];cases decide (((a::b::l).length:Int)≤8)<;>rfl
theorem VT: ∀(n:Nat) (l:List UInt8),l.length<n→iter CM n l=some (Ry l)
 |0,l,h=>by omega
 |n+1,l,h=>by
  show Ac (CM l) _=_;match l with
  | []=>rfl
  | [a]=>rfl
  |a::b::l=>
   have ih:=VT n (b::l) (by simp only[List.length_cons]at h⊢; omega);have e0:decide (((a::b::l).length:Int)>1)=true:=by simp only[decide_eq_true_eq,List.length_cons]; omega
   cases hl:He (a::b::l)with
   |true=>
    have e:CM (a::b::l)=some (.inr (a::b::l)):=by
     unfold CM;rw[e0,if_pos rfl,Qw,hl];rfl
    rw[e];simp[Ry,hl]
   |false=>
    have e:CM (a::b::l)=some (.inl (b::l)):=by
     unfold CM;rw[e0,if_pos rfl,Qw,hl,cut_tl];rfl
    rw[e];simp only[Ab];rw[ih];simp[Ry,hl]
theorem MS: ∀(l:List UInt8),(Ry l).length≤l.length
 | []=>Nat.le_refl _
 | [a]=>Nat.le_refl _
 |a::b::l=>by
  have ih:=MS (b::l);unfold Ry;split
  ·exact Nat.le_refl _
  ·rw[List.length_cons]; omega
def On (n:Int):g_api_Item:=⟨2,Ry (be8 n),[]⟩
theorem be8_eq (n:Int):CW (Ij n) 8 0 (0,0,0,0,0,0,0,0)=some (toB (Dl n 56),toB (Dl n 48),toB (Dl n 40),toB (Dl n 32),toB (Dl n 24),toB (Dl n 16),toB (Dl n 8),toB (Dl n 0)):=rfl
theorem UJ {l:List UInt8}(h:l.length≤140737488355328):AO l=some l:=by
 unfold AO;rw[KR 1 (by omega) h]; rfl
theorem Xm (n:Int):DT n=some (On n):=by
 have h8:(be8 n).length=8:=rfl;have h:=MS (be8 n);unfold DT;rw[be8_eq];show Ac (Ac (iter CM A0 (be8 n)) _) _=_;rw[VT A0 (be8 n) (by rw[h8]; have:=Bp; omega)];show Ac (AO (Ry (be8 n))) _=_;rw[UJ (by omega)];rfl
def Mj (x:UInt64):g_api_Item:=On (w64 (x.toNat:Int))
theorem UN (x:UInt64):Dq x=some (Mj x):=by unfold Dq; rw[Xm]; rfl
def HD (s:ByteArray):g_api_Item:=⟨12,s.data.toList,[]⟩
def QP (v:Bool):g_api_Item:=⟨1,[if v=true then 255 else 0],[]⟩
def OX (l:List g_api_Item):g_api_Item:=⟨48,[],l⟩
theorem P3 {s:ByteArray}(h:s.size≤140737488355328):GI s=some (HD s):=by
 unfold GI;rw[KR 1 (by rw[AF]; omega) (by rw[AF]; exact h)]; rfl
theorem ZJ (v:Bool):Kb v=some (QP v):=by cases v<;>rfl
theorem KE {l:List g_api_Item}(h:l.length≤1000000):Eu l=some (OX l):=by
 unfold Eu AX;rw[KR 56 (by omega) (by omega)]; rfl
theorem TX: ∀(l:List ByteArray) (i:Int) (a:List g_api_Item),(∀s∈l,s.size≤64)→a.length+l.length≤1000000→GN AR l i a=some (a++l.map HD)
 | [],i,a,_,_=>by simp[GN]
 |s::l,i,a,h,hn=>by
  rw[List.length_cons]at hn;have ih:=TX l (i+1) (a++[HD s]) (fun x hx=>h x (List.mem_cons_of_mem _ hx)) (by rw[List.length_append]; show a.length+1+_≤_; omega);have e:AR i s a=some (a++[HD s]):=by
   unfold AR;rw[P3 (by have:=h s List.mem_cons_self; omega),Ab,Im 56 (by show(a.length+1)*56≤_; omega) (by show a.length+1≤_; omega)];rfl
  show Ac (AR i s a) _=_;rw[e];show GN _ l (i+1) (a++[HD s])=_;rw[ih];simp
def Ks (l:List ByteArray):g_api_Item:=OX (l.map HD)
theorem TY {l:List ByteArray}(h: ∀s∈l,s.size≤64)(hn:l.length≤1000000):BU l=some (Ks l):=by
 unfold BU;rw[TX l 0 [] h (by simpa using hn)];simp only[Ab,List.nil_append];rw[KE (by rw[List.length_map]; exact hn)]; rfl
def JN (p:g_api_Promise):g_api_Item:=OX [On p.Log,On p.At,Mj p.Leaf.1,Mj p.Leaf.2,Mj p.Sig.E,Mj p.Sig.S]
theorem YP (p:g_api_Promise):F6 p=some (JN p):=by
 unfold F6;simp only[Xm,UN,Ab];rw[KE (by simp)]; rfl
theorem Ug: ∀(l:List g_api_Promise) (i:Int) (a:List g_api_Item),a.length+l.length≤1000000→GN AD l i a=some (a++l.map JN)
 | [],i,a,_=>by simp[GN]
 |s::l,i,a,hn=>by
  rw[List.length_cons]at hn;have ih:=Ug l (i+1) (a++[JN s]) (by rw[List.length_append]; show a.length+1+_≤_; omega);have e:AD i s a=some (a++[JN s]):=by
   unfold AD;rw[YP,Ab,Im 56 (by show(a.length+1)*56≤_; omega) (by show a.length+1≤_; omega)];rfl
  show Ac (AD i s a) _=_;rw[e];show GN _ l (i+1) (a++[JN s])=_;rw[ih];simp
def Ui (l:List g_api_Promise):g_api_Item:=OX (l.map JN)
theorem WL {l:List g_api_Promise}(hn:l.length≤1000000):BI l=some (Ui l):=by
 unfold BI;rw[Ug l 0 [] (by simpa using hn)];simp only[Ab,List.nil_append];rw[KE (by rw[List.length_map]; exact hn)]; rfl
structure TO (c:g_api_Cert):Prop where
 issuer:c.Issuer.size≤64
 subject:c.Subject.size≤64
 names: ∀s∈c.Names,s.size≤64
 few:c.Names.length≤8
 permit: ∀s∈c.Permit,s.size≤64
 fewP:c.Permit.length≤8
 proms:c.Proms.length≤4
def YR (c:g_api_Cert):g_api_Item:=OX [On c.Serial,HD c.Issuer,HD c.Subject,Mj c.Key,Ks c.Names,On c.From,On c.Until,QP c.Ca,On c.Depth,Ks c.Permit]
def KQ (c:g_api_Cert):g_api_Item:=OX [YR c,Ui c.Proms]
def wholeI (c:g_api_Cert):g_api_Item:=OX [KQ c,OX [Mj c.Sig.E,Mj c.Sig.S]]
theorem Abu {c:g_api_Cert}(h:TO c):IN c=some (YR c):=by
 unfold IN;have h1:=h.issuer; have h2:=h.subject; have h3:=h.few; have h4:=h.fewP;simp only[Xm,UN,ZJ,P3 (s:=c.Issuer) (by omega),P3 (s:=c.Subject) (by omega),TY h.names (by omega),TY h.permit (by omega),Ab];rw[KE (by simp)]; rfl
theorem UM {c:g_api_Cert}(h:TO c):GK c=some (KQ c):=by
 unfold GK;have h1:=h.proms;rw[Abu h,WL (by omega)];simp only[Ab];rw[KE (by simp)]; rfl
theorem VJ {c:g_api_Cert}(h:TO c):G3 c=some (wholeI c):=by
 unfold G3;rw[UM h,UN,UN];simp only[Ab];rw[KE (by simp)];simp only[Ab];rw[KE (by simp)]; rfl
structure Form (c:g_api_Cert):Prop where
 proms:promsB (-1) c.Proms=true
 serial:numB c.Serial=true
 frm:numB c.From=true
 til:numB c.Until=true
 lt:c.From<c.Until
 issuer:textV c.Issuer=true
 key0:(c.Key.toNat:Int)≠0
 keyQ:(c.Key.toNat:Int)<2305843009213691579
 nproms:(c.Proms.length:Int)≤4
 sig:sigB c.Sig=true
 ca:c.Ca=true→textV c.Subject=true∧c.Names=[]∧0≤c.Depth∧c.Depth≤4∧listV patV c.Permit 0 8=true
 leaf:c.Ca=false→c.Subject=(⟨#[]⟩:ByteArray)∧listV nameV c.Names 1 8=true∧c.Depth=0∧c.Permit=[]
theorem TD {c:g_api_Cert}(h:formB c=true):Form c:=by
 unfold formB at h;simp only[Bool.and_eq_true,decide_eq_true_eq,Bool.not_eq_true',beq_eq_false_iff_ne]at h;obtain⟨⟨⟨h1,⟨⟨h2,h3⟩,h4⟩,h5⟩,⟨⟨⟨h6,h7⟩,h8⟩,h9⟩,h10⟩,h11⟩:=h;refine⟨h1,h2,h3,h4,h5,h6,h7,h8,h9,h10,fun e=> ?_,fun e=> ?_⟩
 ·rw[if_pos e]at h11;simp only[Bool.and_eq_true,decide_eq_true_eq,beq_iff_eq]at h11;obtain⟨⟨⟨⟨a,b⟩,d⟩,f⟩,g⟩:=h11;exact⟨a,List.eq_nil_of_length_eq_zero (by omega),by omega,f,g⟩
 ·rw[e]at h11;simp only[Bool.false_eq_true,if_false,Bool.and_eq_true,decide_eq_true_eq,beq_iff_eq]at h11;obtain⟨⟨⟨a,b⟩,d⟩,f⟩:=h11;exact⟨KM.1 a,b,d,List.eq_nil_of_length_eq_zero (by omega)⟩
theorem RR {right:ByteArray→Int}{l:List ByteArray}{a b:Int}(h:listV right l a b=true):a≤l.length∧(l.length:Int)≤b∧∀s∈l,right s=0:=by
 unfold listV at h;simp only[Bool.and_eq_true,decide_eq_true_eq]at h;exact⟨by omega,h.2,RS h.1.1⟩
theorem Form.sized {c:g_api_Cert}(h:Form c):TO c:=by
 have hi:=(TZ h.issuer).2;have hp:=h.nproms;cases hc:c.Ca with
 |true=>
  obtain⟨h1,h2,h3,h4,h5⟩:=h.ca hc;obtain⟨l1,l2,l3⟩:=RR h5;exact⟨hi,(TZ h1).2,(by rw[h2]; intro s hs; cases hs),by rw[h2]; decide,fun s hs=>WW (l3 s hs),by omega,by omega⟩
 |false=>
  obtain⟨h1,h2,h3,h4⟩:=h.leaf hc;obtain⟨l1,l2,l3⟩:=RR h2;exact⟨hi,by rw[h1]; decide,fun s hs=>Vl (l3 s hs),by omega,(by rw[h4]; intro s hs; cases hs),by rw[h4]; decide,by omega⟩
end Go.Proofs.YtbajlmaijjcbmaaGreatDoor
end
section
namespace Go.Proofs.YtbajlmaijjcbmaaGreatDoor
open Go Go.Gw Go.Ax
theorem Acb (t:Int):GH t=some (if t=1 then(⟨1,252⟩,true)else if t=2 then(⟨2,157⟩,true)else if t=4 then(⟨4,253⟩,true)else if t=12 then(⟨12,254⟩,true)else if t=48 then(⟨48,257⟩,true)else(⟨0,-1⟩,false)):=by
 by_cases h1:t=1
 ·subst h1; rfl
 by_cases h2:t=2
 ·subst h2; rfl
 by_cases h3:t=4
 ·subst h3; rfl
 by_cases h4:t=12
 ·subst h4; rfl
 by_cases h5:t=48
 ·subst h5; rfl
 rw[if_neg h1,if_neg h2,if_neg h3,if_neg h4,if_neg h5];have b: ∀(k:Int),t≠k→((k==t)=true)=False:=fun k h=>by simp only[beq_iff_eq,eq_iff_iff,iff_false]; exact fun e=>h e.symm
 have g:F8 (Aj tab_0) tab_0.length 0 t=some (.inl t):=by
  have i: ∀(j:Nat) (k:C4),idx tab_0 (j:Int)=some k→t≠k.tag_→Aj tab_0 (j:Int) t=some (.inl t):=fun j k e hk=>by
   have hb:(k.tag_==t)=false:=by simp only[beq_eq_false_iff_ne]; exact fun e=>hk e.symm
   unfold Aj Ii;rw[e];simp only[Ab,hb,Bool.false_eq_true,if_false]
  show Ac (Aj tab_0 ((0:Nat):Int) t) _=_;rw[i 0 ⟨1,252⟩ rfl h1];show Ac (Aj tab_0 ((1:Nat):Int) t) _=_;rw[i 1 ⟨2,157⟩ rfl h2];show Ac (Aj tab_0 ((2:Nat):Int) t) _=_;rw[i 2 ⟨4,253⟩ rfl h3];show Ac (Aj tab_0 ((3:Nat):Int) t) _=_;rw[i 3 ⟨12,254⟩ rfl h4];show Ac (Aj tab_0 ((4:Nat):Int) t) _=_;rw[i 4 ⟨48,257⟩ rfl h5];rfl
 unfold GH AM;rw[g];rfl
def N4 (t:Int):Bool:=t==1||t==2||t==4||t==12||t==48
def boolB (b:List UInt8):Bool:=match b with| [x]=>x==0||x==255|_=>false
def IF (b:List UInt8):Bool:=b.all fun c=>decide (32≤c.toNat)&&decide (c.toNat≤126)
def Vn (t:Int)(b:List UInt8):Bool:=if t=1 then boolB b else if t=2 then He b else if t=4 then true else if t=12 then IF b else if t=48 then b.isEmpty else false
theorem RU (b:List UInt8):DO b=some (boolB b):=by
 match b with
 | []=>rfl
 | [x]=>
  unfold DO;have e1:((([x]:List UInt8).length:Int)==1)=true:=rfl;have e2:idx [x] 0=some x:=rfl;rw[e1,e2];have e3: ∀n:UInt8,((x.toNat:Int)==n.toNat)=(x==n):=fun n=>by
   rw[Bool.eq_iff_iff,beq_iff_eq,beq_iff_eq,←UInt8.toNat_inj];omega
  have z0:((x.toNat:Int)==0)=(x==0):=e3 0;have z1:((x.toNat:Int)==255)=(x==255):=e3 255;simp only[Kv,Ab,B9,z0,z1,Bool.true_and];show _=some (x==0||x==255);cases h:x==0 with
  |true=>rfl
  |false=>simp only[Bool.not_false,Kv,Ab,B9,z1,Bool.false_or]
 |x::y::l=>
  unfold DO;have e1:(((x::y::l).length:Int)==1)=false:=by simp only[beq_eq_false_iff_ne,List.length_cons]; omega
  rw[e1];rfl
theorem Aar: ∀(a b:List UInt8),∃r,F8 (An (a++b)) b.length (a.length:Int) ()=some r∧(r= .inl ()↔IF b=true)∧∀i,r= .inr i→0≤i
 |a,[]=>⟨.inl (),rfl,by simp[IF],fun i h=>by cases h⟩
 |a,c::b=>by
  have hi:idx (a++c::b) (a.length:Int)=some c:=by
   unfold idx;rw[if_pos (by omega)];simp
  obtain⟨r,h1,h2,h3⟩:=Aar (a++[c]) b;have ec:(decide ((c.toNat:Int)<32)||decide ((c.toNat:Int)>126))= !(decide (32≤c.toNat)&&decide (c.toNat≤126)):=by
   rw[Bool.eq_iff_iff];simp only[Bool.or_eq_true,Bool.not_eq_true',Bool.and_eq_false_iff,decide_eq_true_eq,decide_eq_false_iff_not];omega
  have st:An (a++c::b) (a.length:Int) ()=some (if(decide (32≤c.toNat)&&decide (c.toNat≤126))=true then .inl ()else .inr (a.length:Int)):=by
   unfold An FZ;rw[hi];simp only[Ab,B9,ec];cases decide (32≤c.toNat)&&decide (c.toNat≤126)<;>rfl
  show∃r,Ac (An (a++c::b) (a.length:Int) ()) _=some r∧_;rw[st];cases hc:decide (32≤c.toNat)&&decide (c.toNat≤126)with
  |false=>exact⟨.inr (a.length:Int),rfl,by simp[IF,hc],fun i h=>(by cases h; omega)⟩
  |true=>
   refine⟨r,?_,?_,h3⟩
   ·show F8 (An (a++c::b)) b.length ((a.length:Int)+1) ()=some r;rw[←h1];simp
   ·rw[h2];simp only[IF,List.all_cons,hc,Bool.true_and]
theorem Xg (b:List UInt8):F0 b=some (IF b):=by
 obtain⟨r,h1,h2,h3⟩:=Aar [] b;unfold F0 Bc Bn;have h1:F8 (An b) b.length 0 ()=some r:=h1;rw[h1];cases r with
 |inl u=>rw[h2.1 rfl]; rfl
 |inr i=>
  have hp:IF b=false:=by
   cases h:IF b with
   |false=>rfl
   |true=>exact absurd (h2.2 h) (by simp)
  have hi:=h3 i rfl;rw[hp];show some (!(decide (i≥0)))=_;rw[decide_eq_true hi]; rfl
theorem Xf (b:List UInt8):FY b=some b.isEmpty:=by
 cases b with
 |nil=>rfl
 |cons a l=>
  unfold FY;have:(((a::l).length:Int)==0)=false:=by simp only[beq_eq_false_iff_ne,List.length_cons]; omega
  rw[this]; rfl
theorem Tv {t:Int}(h:N4 t=true):t=1∨t=2∨t=4∨t=12∨t=48:=by
 unfold N4 at h;simp only[Bool.or_eq_true,beq_iff_eq]at h;omega
theorem Pc {t:Int}(h:N4 t=true): ∃k,GH t=some (k,true)∧k.tag_=t∧∀b,M6 k.may_ b=some (Vn t b):=by
 rcases Tv h with e|e|e|e|e
 ·subst e; exact⟨_,rfl,rfl,RU⟩
 ·subst e; exact⟨_,rfl,rfl,Qw⟩
 ·subst e; exact⟨_,rfl,rfl,fun b=>rfl⟩
 ·subst e; exact⟨_,rfl,rfl,Xg⟩
 ·subst e; exact⟨_,rfl,rfl,Xf⟩
theorem J0 {t:Int}(h:N4 t=false):GH t=some (⟨0,-1⟩,false)∧∀b,Vn t b=false:=by
 unfold N4 at h;simp only[Bool.or_eq_false_iff,beq_eq_false_iff_ne]at h;obtain⟨⟨⟨⟨h1,h2⟩,h3⟩,h4⟩,h5⟩:=h;refine⟨?_,fun b=> ?_⟩
 ·rw[Acb,if_neg h1,if_neg h2,if_neg h3,if_neg h4,if_neg h5]
 ·unfold Vn;rw[if_neg h1,if_neg h2,if_neg h3,if_neg h4,if_neg h5]
def mayB:Nat→g_api_Item→Bool
 |0,_=>false
 |d+1,x=>Vn x.Tag x.B&&(x.Tag==48||x.L.isEmpty)&&x.L.all (mayB d)
theorem Aas (rF:g_api_Item→Int→Option Bool)(p:g_api_Item→Bool)(d:Int): ∀(a b:List g_api_Item),(∀y∈b,rF y (w64 (d-1))=some (p y))→
  ∃r,F8 (Ak rF (a++b)) b.length (a.length:Int) d=some r∧(r= .inl d↔b.all p=true)∧(∀e,r= .inl e→e=d)∧∀i,r= .inr i→0≤i.1
 |a,[],_=>⟨.inl d,rfl,by simp,fun e h=>by cases h; rfl,fun i h=>by cases h⟩
 |a,c::b,h=>by
  have hi:idx (a++c::b) (a.length:Int)=some c:=by
   unfold idx;rw[if_pos (by omega)];simp
  obtain⟨r,h1,h2,h4,h3⟩:=Aas rF p d (a++[c]) b fun y hy=>h y (List.mem_cons_of_mem _ hy);have st:Ak rF (a++c::b) (a.length:Int) d=some (if p c=true then .inl d else .inr ((a.length:Int),d)):=by
   unfold Ak Hn;rw[hi];simp only[Ab,h c List.mem_cons_self];cases p c<;>rfl
  show∃r,Ac (Ak rF (a++c::b) (a.length:Int) d) _=some r∧_;rw[st];cases hc:p c with
  |false=>exact⟨.inr ((a.length:Int),d),rfl,by simp[hc],fun e h=>(by cases h),fun i h=>(by cases h; exact Int.natCast_nonneg _)⟩
  |true=>
   refine⟨r,?_,?_,h4,h3⟩
   ·show F8 (Ak rF (a++c::b)) b.length ((a.length:Int)+1) d=some r;rw[←h1];simp
   ·rw[h2];simp only[List.all_cons,hc,Bool.true_and]
theorem TJ (rF:g_api_Item→Int→Option Bool)(p:g_api_Item→Bool)(d:Int)(l:List g_api_Item)(h: ∀y∈l,rF y (w64 (d-1))=some (p y)):
  ∃z,AA rF l d=some (!(l.all p),z):=by
 obtain⟨r,h1,h2,h4,h3⟩:=Aas rF p d [] l h;have h1:F8 (Ak rF l) l.length 0 d=some r:=h1;unfold AA AL;rw[h1];cases r with
 |inl u=>
  have:=h4 u rfl;subst this;rw[h2.1 rfl];exact⟨_,rfl⟩
 |inr i=>
  have hp:l.all p=false:=by
   cases h:l.all p with
   |false=>rfl
   |true=>exact absurd (h2.2 h) (by simp)
  have hi:=h3 i rfl;rw[hp];refine⟨i.2,?_⟩;show some (decide (i.1≥0),i.2)=_;rw[decide_eq_true hi]; rfl
theorem Aal: ∀(d n:Nat) (x:g_api_Item),d<n→d≤100→GU n x (d:Int)=some (mayB d x)
 |d,0,x,h,_=>by omega
 |0,n+1,x,_,_=>by
  show Fg (GU n) x 0=some false;unfold Fg;cases hk:N4 x.Tag with
  |false=>rw[(J0 hk).1]; rfl
  |true=>
   obtain⟨k,e,_,_⟩:=Pc hk;rw[e]; rfl
 |d+1,n+1,x,h,hd=>by
  have ih: ∀y∈x.L,GU n y (w64 (((d+1:Nat):Int)-1))=some (mayB d y):=fun y _=>by
   rw[show w64 (((d+1:Nat):Int)-1)=(d:Int)from by rw[E9 (by omega) (by omega)]; omega];exact Aal d n y (by omega) (by omega)
  obtain⟨z,hz⟩:=TJ (GU n) (mayB d) ((d+1:Nat):Int) x.L ih;show Fg (GU n) x ((d+1:Nat):Int)=some (mayB (d+1) x);unfold Fg mayB;have e1:decide (((d+1:Nat):Int)<1)=false:=by rw[decide_eq_false_iff_not]; omega
  have e2:decide ((x.L.length:Int)>0)= !x.L.isEmpty:=by
   cases x.L with
   |nil=>rfl
   |cons a l=>show decide _=true; rw[decide_eq_true_eq,List.length_cons]; omega
  have e3:(x.Tag !=48)= !(x.Tag==48):=rfl;rw[e1,e2,e3];cases hk:N4 x.Tag with
  |false=>
   rw[(J0 hk).1,(J0 hk).2]; rfl
  |true=>
   obtain⟨k,e,_,hm⟩:=Pc hk;rw[e];simp only[Ab,Bool.not_true,Bool.or_false,Bool.not_false,Kv,hm,hz,Bool.not_not];cases Vn x.Tag x.B<;>cases x.Tag==48<;>cases x.L.isEmpty<;>rfl
theorem AbE (x:g_api_Item):NY x 8=some (mayB 8 x):=Aal 8 A0 x (by have:=Bp; omega) (by decide)
end Go.Proofs.YtbajlmaijjcbmaaGreatDoor
end
section
namespace Go.Proofs.YtbajlmaijjcbmaaGreatDoor
open Go Go.Gw Go.Ax
def MC (n:Nat):List UInt8:=if n<128 then [toB (n:Int)]else if n<256 then [129,toB (n:Int)]else [130,toB (Dl (n:Int) 8),toB (n:Int)]
def putB:Nat→g_api_Item→List UInt8
 |0,_=> []
 |d+1,x=>toB x.Tag::(MC (x.B++x.L.flatMap (putB d)).length++(x.B++x.L.flatMap (putB d)))
def QE:Nat→g_api_Item→Prop
 |0,_=>False
 |d+1,x=> ∀y∈x.L,QE d y
theorem XJ: ∀{d:Nat} {x:g_api_Item},mayB d x=true→QE d x
 |0,x,h=>by cases h
 |d+1,x,h=>by
  simp only[mayB,Bool.and_eq_true,List.all_eq_true]at h;exact fun y hy=>XJ (h.2 y hy)
theorem Qv (n:Nat):1≤(MC n).length∧(MC n).length≤3:=by
 unfold MC;split
 ·exact⟨by simp,by simp⟩
 ·split
  ·exact⟨by simp,by simp⟩
  ·exact⟨by simp,by simp⟩
theorem putE: ∀(d n:Nat) (x:g_api_Item) (b:List UInt8),d≤n→QE d x→b.length+(putB d x).length≤100000000000000→FF n b x=some (b++putB d x)
 |0,n,x,b,_,h,_=>h.elim
 |d+1,0,x,b,h,_,_=>by omega
 |d+1,n+1,x,b,hn,hd,hb=>by
  have eP:putB (d+1) x=toB x.Tag::(MC (x.B++x.L.flatMap (putB d)).length++(x.B++x.L.flatMap (putB d))):=rfl;have go: ∀(l:List g_api_Item) (i:Int) (s:List UInt8),(∀y∈l,QE d y)→s.length+(l.flatMap (putB d)).length≤100000000000000→GN (CA (FF n)) l i s=some (s++l.flatMap (putB d)):=by
   intro l;induction l with
   |nil=>intro i s _ _; simp[GN]
   |cons y l ih=>
    intro i s h hs;rw[List.flatMap_cons,List.length_append]at hs;have e:CA (FF n) i y s=some (s++putB d y):=by
     unfold CA;rw[putE d n y s (by omega) (h y List.mem_cons_self) (by omega)];rfl
    show Ac (CA (FF n) i y s) _=_;rw[e];show GN _ l (i+1) (s++putB d y)=_;rw[ih (i+1) (s++putB d y) (fun z hz=>h z (List.mem_cons_of_mem _ hz)) (by rw[List.length_append]; omega),List.flatMap_cons,List.append_assoc]
  rw[eP]at hb⊢;simp only[List.length_cons,List.length_append]at hb;have hc:Et (FF n) x=some (x.B++x.L.flatMap (putB d)):=by
   unfold Et;rw[UJ (by omega),Ab,go x.L 0 x.B hd (by omega)];rfl
  show HW (FF n) b x=_;unfold HW;rw[hc,Ab,Im 1 (by simp only[List.length_cons,List.length_nil]; omega) (by simp only[List.length_cons,List.length_nil]; omega),Ab];rw[←List.length_append]at hb;have hL:(x.B++x.L.flatMap (putB d)).length=(x.B++x.L.flatMap (putB d)).length:=rfl;generalize (x.B++x.L.flatMap (putB d))=c at hb hL⊢;have hl:=Qv c.length;have hm: ∀z:List UInt8,z.length≤3→app 1 (b++[toB x.Tag]) z=some (b++[toB x.Tag]++z):=fun z hz=>Im 1 (by simp only[List.length_append,List.length_cons,List.length_nil]; omega) (by simp only[List.length_append,List.length_cons,List.length_nil]; omega);have fin:app 1 (b++[toB x.Tag]++MC c.length) c=some (b++toB x.Tag::(MC c.length++c)):=by
   rw[Im 1 (by simp only[List.length_append,List.length_cons,List.length_nil]; omega) (by simp only[List.length_append,List.length_cons,List.length_nil]; omega)];simp
  have mid:(bnd (decide ((c.length:Int)<128)) fun x4=>
    if x4=true then
     Ac (app 1 (b++[toB x.Tag]) ([(toB (c.length:Int))]:List UInt8)) fun x5=>
     some x5
    else
    bnd ((decide ((c.length:Int)<256))) fun x6=>
    if x6=true then
     Ac (app 1 (b++[toB x.Tag]) ([129,(toB (c.length:Int))]:List UInt8)) fun x7=>
     some x7
    else
    Ac (app 1 (b++[toB x.Tag]) ([130,(toB (Dl (c.length:Int) 8)),(toB (c.length:Int))]:List UInt8)) fun x8=>
    some x8)=some (b++[toB x.Tag]++MC c.length):=by
   rw[hm [toB (c.length:Int)] (by simp),hm [129,toB (c.length:Int)] (by simp),hm [130,toB (Dl (c.length:Int) 8),toB (c.length:Int)] (by simp)];simp only[B9,Ab,decide_eq_true_eq];unfold MC;by_cases h1:c.length<128
   ·rw[if_pos h1,if_pos (by omega)]
   ·rw[if_neg h1,if_neg (by omega)];by_cases h2:c.length<256
    ·rw[if_pos h2,if_pos (by omega)]
    ·rw[if_neg h2,if_neg (by omega)]
  rw[mid];simp only[Ab];rw[fin];rfl
theorem Abq {x:g_api_Item}(h:QE 8 x)(hs:(putB 8 x).length≤100000000000000):NX [] x=some (putB 8 x):=by
 have:=putE 8 A0 x [] (by have:=Bp; omega) h (by simpa using hs);exact this
theorem Sq {x:g_api_Item}(hs:(putB 8 x).length≤100000000000000):
  G2 x=some (if mayB 8 x=true then(if(putB 8 x).length≤8192 then(putB 8 x,0)else([],2))else([],1)):=by
 unfold G2;rw[AbE];cases hm:mayB 8 x with
 |false=>rfl
 |true=>
  simp only[Ab,Bool.not_true,Bool.false_eq_true,if_false,if_true];rw[Abq (XJ hm) hs];simp only[Ab,decide_eq_true_eq];by_cases h:(putB 8 x).length≤8192
  ·rw[if_neg (by omega),if_pos h]
  ·rw[if_pos (by omega),if_neg h]
theorem UB {α:Type}(f:α→List UInt8)(k:Nat): ∀(l:List α),(∀y∈l,(f y).length≤k)→(l.flatMap f).length≤l.length*k
 | [],_=>by simp
 |y::l,h=>by
  have h1:=h y List.mem_cons_self;have h2:=UB f k l fun z hz=>h z (List.mem_cons_of_mem _ hz);rw[List.flatMap_cons,List.length_append,List.length_cons,Nat.succ_mul];omega
theorem Qi (d:Nat)(x:g_api_Item):(putB (d+1) x).length≤4+x.B.length+(x.L.flatMap (putB d)).length:=by
 have:=Qv (x.B++x.L.flatMap (putB d)).length;show(toB x.Tag::(MC (x.B++x.L.flatMap (putB d)).length++(x.B++x.L.flatMap (putB d)))).length≤_;rw[List.length_cons,List.length_append,List.length_append]at*;omega
theorem JX (d:Nat)(n:Int):(putB d (On n)).length≤12:=by
 cases d with
 |zero=>simp[putB]
 |succ d=>
  have h:=Qi d (On n);have h1:(On n).B.length≤8:=MS (be8 n);have h2:(On n).L=[]:=rfl;rw[h2]at h;simp only[List.flatMap_nil,List.length_nil]at h;omega
theorem NG (d:Nat){s:ByteArray}(hs:s.size≤64):(putB d (HD s)).length≤68:=by
 cases d with
 |zero=>simp[putB]
 |succ d=>
  have h:=Qi d (HD s);have h1:(HD s).B.length=s.size:=AF s;have h2:(HD s).L=[]:=rfl;rw[h2]at h;simp only[List.flatMap_nil,List.length_nil]at h;omega
theorem XY (d:Nat)(v:Bool):(putB d (QP v)).length≤5:=by
 cases d with
 |zero=>simp[putB]
 |succ d=>
  have h:=Qi d (QP v);have h1:(QP v).B.length=1:=rfl;have h2:(QP v).L=[]:=rfl;rw[h2]at h;simp only[List.flatMap_nil,List.length_nil]at h;omega
theorem IZ (d:Nat)(l:List g_api_Item)(k:Nat)(hk: ∀e y,y∈l→(putB e y).length≤k):(putB d (OX l)).length≤4+l.length*k:=by
 cases d with
 |zero=>simp[putB]
 |succ d=>
  have h:=Qi d (OX l);have h1:(OX l).B.length=0:=rfl;have h3:=UB (putB d) k l fun y hy=>hk d y hy;have h2:(OX l).L=l:=rfl;rw[h2]at h;omega
theorem OU (d:Nat){l:List ByteArray}(h: ∀s∈l,s.size≤64)(hn:l.length≤8):(putB d (Ks l)).length≤1000:=by
 have:=IZ d (l.map HD) 68 fun e y hy=>by
  obtain⟨s,hs,e2⟩:=List.mem_map.1 hy;rw[←e2];exact NG e (h s hs)
 rw[List.length_map]at this;unfold Ks;omega
theorem Y2 {α:Type}{p:α→Prop}{a b:α}(ha:p a)(hb:p b): ∀y∈[a,b],p y:=by
 intro y hy;simp only[List.mem_cons,List.not_mem_nil,or_false]at hy;rcases hy with e|e<;>rw[e]<;>assumption
theorem YQ (d:Nat){c:g_api_Cert}(h:TO c):(putB d (YR c)).length≤20000:=by
 have:=IZ d [On c.Serial,HD c.Issuer,HD c.Subject,Mj c.Key,Ks c.Names,On c.From,On c.Until,QP c.Ca,On c.Depth,Ks c.Permit] 1000 fun e y hy=>by
  simp only[List.mem_cons,List.not_mem_nil,or_false]at hy;rcases hy with q|q|q|q|q|q|q|q|q|q<;>rw[q]
  ·have:=JX e c.Serial; omega
  ·have:=NG e h.issuer; omega
  ·have:=NG e h.subject; omega
  ·have:=JX e (w64 (c.Key.toNat:Int)); unfold Mj; omega
  ·exact OU e h.names h.few
  ·have:=JX e c.From; omega
  ·have:=JX e c.Until; omega
  ·have:=XY e c.Ca; omega
  ·have:=JX e c.Depth; omega
  ·exact OU e h.permit h.fewP
 simp only[List.length_cons,List.length_nil]at this;unfold YR;omega
theorem WM (d:Nat)(p:g_api_Promise):(putB d (JN p)).length≤100:=by
 have:=IZ d [On p.Log,On p.At,Mj p.Leaf.1,Mj p.Leaf.2,Mj p.Sig.E,Mj p.Sig.S] 12 fun e y hy=>by
  simp only[List.mem_cons,List.not_mem_nil,or_false]at hy;rcases hy with q|q|q|q|q|q<;>rw[q]<;>exact JX e _
 simp only[List.length_cons,List.length_nil]at this;unfold JN;omega
theorem X9 (d:Nat){c:g_api_Cert}(h:TO c):(putB d (KQ c)).length≤50000:=by
 have:=IZ d [YR c,Ui c.Proms] 20000 fun e=>Y2 (p:=fun y=>(putB e y).length≤20000) (YQ e h) (by
  have:=IZ e (c.Proms.map JN) 100 fun f y hy=>by
   obtain⟨p,hp,e2⟩:=List.mem_map.1 hy;rw[←e2];exact WM f p
  rw[List.length_map]at this;have:=h.proms;unfold Ui;omega)
 simp only[List.length_cons,List.length_nil]at this;unfold KQ;omega
theorem OP (d:Nat){c:g_api_Cert}(h:TO c):(putB d (wholeI c)).length≤200000:=by
 have:=IZ d [KQ c,OX [Mj c.Sig.E,Mj c.Sig.S]] 50000 fun e=>Y2 (p:=fun y=>(putB e y).length≤50000) (X9 e h) (by
  have:=IZ e [Mj c.Sig.E,Mj c.Sig.S] 12 fun f=>Y2 (p:=fun y=>(putB f y).length≤12) (JX f _) (JX f _);simp only[List.length_cons,List.length_nil]at this;omega)
 simp only[List.length_cons,List.length_nil]at this;unfold wholeI;omega
def J3 (c:g_api_Cert):Int:=if formB c=true then(if mayB 8 (wholeI c)=true∧(putB 8 (wholeI c)).length≤2048 then 0 else 2)else 1
theorem XT (b:List UInt8)(m:Bool):(Ac (some (if m=true then(if b.length≤8192 then(b,(0:Int))else([],2))else([],1))) fun x3=>if((x3.2 !=0)||(decide ((x3.1.length:Int)>2048)))=true then some (2:Int)else some 0)=some (if m=true∧b.length≤2048 then 0 else 2):=by
 cases m with
 |false=>rfl
 |true=>
  simp only[if_true,Ab,true_and];by_cases h1:b.length≤8192
  ·rw[if_pos h1];by_cases h2:b.length≤2048
   ·rw[if_pos h2,if_neg];simp only[bne_self_eq_false,Bool.false_or,decide_eq_true_eq];omega
   ·rw[if_neg h2,if_pos];simp only[bne_self_eq_false,Bool.false_or,decide_eq_true_eq];omega
  ·rw[if_neg h1];have h2: ¬b.length≤2048:=by omega
   rw[if_neg h2];rfl
theorem Sh (c:g_api_Cert):Ey c=some (J3 c):=by
 unfold Ey J3;rw[Xx];cases hf:formB c with
 |false=>rfl
 |true=>
  have hs:=(TD hf).sized;simp only[Ab,Bool.not_true,Bool.false_eq_true,if_false,if_true];have hl:=OP 8 hs;rw[VJ hs,Ab,Sq (by omega),XT]
end Go.Proofs.YtbajlmaijjcbmaaGreatDoor
end
section
namespace Go.Proofs.YtbajlmaijjcbmaaGreatDoor
open Go Go.Gw Go.Ax
theorem LQ (n:Int):((toB n).toNat:Int)=n%256:=by
 have h:0≤n%256:=Int.emod_nonneg _ (by decide);have h2:n%256<256:=Int.emod_lt_of_pos _ (by decide);unfold toB;rw[UInt8.toNat_ofNat'];omega
theorem P8 (n:Int):Dl n 8=n/256:=by
 unfold Dl;rw[Int.fdiv_eq_ediv_of_nonneg _ (by decide)];rfl
theorem UA (p:g_api_Item→List UInt8){y:g_api_Item}: ∀{l:List g_api_Item},y∈l→(p y).length≤(l.flatMap p).length
 |z::l,h=>by
  rw[List.flatMap_cons,List.length_append];rcases List.mem_cons.1 h with e|h
  ·rw[e]; omega
  ·have:=UA p h; omega
end Go.Proofs.YtbajlmaijjcbmaaGreatDoor
end
section
namespace Go.Proofs.YtbajlmaijjcbmaaGreatDoor
open Go Go.Gw Go.Ax
def s8 (a:UInt8):Int:=if a.toNat<128 then(a.toNat:Int)else(a.toNat:Int)-256
def Ru (s:Int)(l:List UInt8):Int:=l.foldl (fun s b=>s*256+(b.toNat:Int)) s
def wfold (s:Int)(l:List UInt8):Int:=l.foldl (fun s b=>w64 (s*256+(b.toNat:Int))) s
def Yo:List UInt8→Int
 | []=>0
 |a::l=>Ru (s8 a) l
def asintV:List UInt8→Int
 | []=>0
 |a::l=>wfold (s8 a) l
theorem RD (b:UInt8):((toB (-((Vw b 7).toNat:Int))).toNat:Int)=if b.toNat<128 then 0 else 255:=by
 have h:=b.toNat_lt;rw[LQ];have e:(Vw b 7).toNat=b.toNat/128:=by
  unfold Vw;rw[UInt8.toNat_ofNat'];show b.toNat/128%256=_;omega
 rw[e];split<;>omega
theorem RT {a b:UInt8}{l:List UInt8}(hl:l.length≤6):He (a::b::l)=false↔(a.toNat:Int)=if b.toNat<128 then 0 else 255:=by
 show(decide (((a::b::l).length:Int)≤8)&&((a.toNat:Int) !=((toB (-((Vw b 7).toNat:Int))).toNat:Int)))=false↔_;rw[RD,decide_eq_true (by simp only[List.length_cons]; omega),Bool.true_and];simp only[bne_eq_false_iff_eq]
theorem V0 {a b:UInt8}{l:List UInt8}(h:(a.toNat:Int)=if b.toNat<128 then 0 else 255):Yo (a::b::l)=Yo (b::l):=by
 show Ru (s8 a*256+(b.toNat:Int)) l=Ru (s8 b) l;have hb:=b.toNat_lt;congr 1;unfold s8;by_cases h1:b.toNat<128
 ·rw[if_pos h1]at h⊢;rw[if_pos (by omega)];omega
 ·rw[if_neg h1]at h⊢;rw[if_neg (by omega)];omega
theorem shr_k (n:Int)(k:Nat)(hk:k≤64)(hp:(0:Int)≤2^k):((toB (Dl n k)).toNat:Int)=n/2^k%256:=by
 rw[LQ];unfold Dl;rw[Nat.min_eq_left hk,Int.fdiv_eq_ediv_of_nonneg _ hp]
end Go.Proofs.YtbajlmaijjcbmaaGreatDoor
end
section
namespace Go.Proofs.YtbajlmaijjcbmaaGreatDoor
open Go Go.Gw Go.Ax
def Aa7 (a:UInt8):UInt8:=if a.toNat<128 then 0 else 255
theorem T7 (a:UInt8):((Aa7 a).toNat:Int)=if a.toNat<128 then 0 else 255:=by
 unfold Aa7;split<;>rfl
theorem AaX: ∀(l:List UInt8),He l=true→Ry l=l
 | [],h=>by cases h
 | [a],_=>rfl
 |a::b::l,h=>by
  unfold Ry;rw[if_pos h]
theorem Yy {a:UInt8}{l:List UInt8}(h:l.length≤6):Ry (Aa7 a::a::l)=Ry (a::l):=by
 have e:He (Aa7 a::a::l)=false:=(RT h).2 (T7 a);show(if He (Aa7 a::a::l)=true then _ else _)=_;rw[e];rfl
theorem YE (a:UInt8)(l:List UInt8):Yo (Aa7 a::a::l)=Yo (a::l):=V0 (T7 a)
theorem Ya (a7 a6 a5 a4 a3 a2 a1 a0:UInt8):be8 (Yo [a7,a6,a5,a4,a3,a2,a1,a0])=[a7,a6,a5,a4,a3,a2,a1,a0]:=by
 have h6:=a6.toNat_lt; have h5:=a5.toNat_lt; have h4:=a4.toNat_lt; have h3:=a3.toNat_lt; have h2:=a2.toNat_lt; have h1:=a1.toNat_lt; have h0:=a0.toNat_lt;have h7:=a7.toNat_lt;have hs:Yo [a7,a6,a5,a4,a3,a2,a1,a0]=((((((s8 a7*256+(a6.toNat:Int))*256+(a5.toNat:Int))*256+(a4.toNat:Int))*256+(a3.toNat:Int))*256+(a2.toNat:Int))*256+(a1.toNat:Int))*256+(a0.toNat:Int):=rfl;have hS:s8 a7%256=(a7.toNat:Int):=by unfold s8; split<;>omega
 generalize s8 a7=S at hs hS;generalize Yo [a7,a6,a5,a4,a3,a2,a1,a0]=n at hs;have d1:n/256=(((((S*256+(a6.toNat:Int))*256+(a5.toNat:Int))*256+(a4.toNat:Int))*256+(a3.toNat:Int))*256+(a2.toNat:Int))*256+(a1.toNat:Int):=by omega
 have d2:n/256/256=((((S*256+(a6.toNat:Int))*256+(a5.toNat:Int))*256+(a4.toNat:Int))*256+(a3.toNat:Int))*256+(a2.toNat:Int):=by rw[d1]; omega
 have d3:n/256/256/256=(((S*256+(a6.toNat:Int))*256+(a5.toNat:Int))*256+(a4.toNat:Int))*256+(a3.toNat:Int):=by rw[d2]; omega
 have d4:n/256/256/256/256=((S*256+(a6.toNat:Int))*256+(a5.toNat:Int))*256+(a4.toNat:Int):=by rw[d3]; omega
 have d5:n/256/256/256/256/256=(S*256+(a6.toNat:Int))*256+(a5.toNat:Int):=by rw[d4]; omega
 have d6:n/256/256/256/256/256/256=S*256+(a6.toNat:Int):=by rw[d5]; omega
 have d7:n/256/256/256/256/256/256/256=S:=by rw[d6]; omega
 have q: ∀(k:Nat) (x:UInt8),k≤64→n/2^k%256=(x.toNat:Int)→toB (Dl n k)=x:=fun k x hk h=>by
  apply UInt8.toNat_inj.1;have:=shr_k n k hk (by exact Int.le_of_lt (Int.pow_pos (by decide)));omega
 have p1:n/2^8=n/256:=rfl;have p2:n/2^16=n/256/256:=by
  show n/65536=_;omega
 have p3:n/2^24=n/256/256/256:=by
  show n/16777216=_;omega
 have p4:n/2^32=n/256/256/256/256:=by
  show n/4294967296=_;omega
 have p5:n/2^40=n/256/256/256/256/256:=by
  show n/1099511627776=_;omega
 have p6:n/2^48=n/256/256/256/256/256/256:=by
  show n/281474976710656=_;omega
 have p7:n/2^56=n/256/256/256/256/256/256/256:=by
  show n/72057594037927936=_;omega
 unfold be8;rw[q 56 a7 (by decide) (by rw[p7,d7]; exact hS),q 48 a6 (by decide) (by rw[p6,d6]; omega),q 40 a5 (by decide) (by rw[p5,d5]; omega),q 32 a4 (by decide) (by rw[p4,d4]; omega),q 24 a3 (by decide) (by rw[p3,d3]; omega),
  q 16 a2 (by decide) (by rw[p2,d2]; omega),q 8 a1 (by decide) (by rw[p1,d1]; omega),q 0 a0 (by decide) (by rw[Int.pow_zero,Int.ediv_one]; omega)]
theorem TV: ∀(k:Nat) (a:UInt8) (l:List UInt8),(a::l).length+k=8→Ry (be8 (Yo (a::l)))=Ry (a::l)
 |0,a,l,h=>by
  match l,h with
  | [a6,a5,a4,a3,a2,a1,a0],_=>rw[Ya]
 |k+1,a,l,h=>by
  have h:l.length+1+(k+1)=8:=by simpa using h
  have ih:=TV k (Aa7 a) (a::l) (by simp only[List.length_cons]; omega);rw[YE,Yy (by omega)]at ih;exact ih
theorem Xc {l:List UInt8}(h:He l=true):1≤l.length∧l.length≤8:=by
 match l,h with
 | [a],_=>exact⟨by simp,by simp⟩
 |a::b::l,h=>
  have h:(decide (((a::b::l).length:Int)≤8)&&((a.toNat:Int) !=((toB (-((Vw b 7).toNat:Int))).toNat:Int)))=true:=h;simp only[Bool.and_eq_true,decide_eq_true_eq]at h;exact⟨by simp,by omega⟩
theorem Y8 {l:List UInt8}(h:He l=true):Ry (be8 (Yo l))=l:=by
 have hl:=Xc h;cases l with
 |nil=>cases h
 |cons a l=>
  rw[TV (8-(a::l).length) a l (by omega)];exact AaX _ h
end Go.Proofs.YtbajlmaijjcbmaaGreatDoor
end
section
namespace Go.Proofs.YtbajlmaijjcbmaaGreatDoor
open Go Go.Gw Go.Ax
theorem Aau {s:ByteArray}{i:Nat}{b:UInt8}(h:s.data.toList[i]? =some b):s.get! i=b:=by
 have h2:s.data[i]? =some b:=by rw[←Array.getElem?_toList]; exact h
 show s.data[i]! =b;rw[getElem!_def,h2]
theorem AaA {s:ByteArray}{i:Nat}{b:UInt8}(h:s.data.toList[i]? =some b)(hb:b.toNat<128):Utf8.decode s i=(b.toNat,1):=by
 unfold Utf8.decode;simp only[Nat.add_zero,Aau h];rw[if_pos hb]
theorem AaB {s:ByteArray}{i:Nat}{b:UInt8}(h:s.data.toList[i]? =some b)(hb: ¬b.toNat<128):128≤(Utf8.decode s i).1:=by
 unfold Utf8.decode;simp only[Nat.add_zero,Aau h];rw[if_neg hb];have he:Utf8.runeError=65533:=rfl;split
 ·split
  ·assumption
  ·simp[he]
 ·split
  ·split
   ·rename_i h1;simp only[Bool.and_eq_true,decide_eq_true_eq]at h1;show 128≤_;omega
   ·simp[he]
  ·split
   ·split
    ·rename_i h1;simp only[Bool.and_eq_true,decide_eq_true_eq]at h1;show 128≤_;omega
    ·simp[he]
   ·simp[he]
def Dm (c:UInt8):Bool:=(decide (97≤c.toNat)&&decide (c.toNat≤122))||(decide (48≤c.toNat)&&decide (c.toNat≤57))
def MO (c:UInt8):Bool:=c.toNat==45||Dm c
def OA:List UInt8→Bool
 | []=>true
 | [c]=>Dm c
 |c::d::r=>MO c&&OA (d::r)
def Lv:List UInt8→Bool
 | []=>false
 | [c]=>Dm c
 |c::d::r=>(Dm c||c.toNat==95)&&OA (d::r)&&decide ((c::d::r).length≤16)
theorem R9 (n:Nat)(c:UInt8)(h:n=c.toNat):Cu (n:Int)=some (Dm c):=by
 subst h;unfold Cu Dm;rw[B9];congr 1;have e: ∀k:Nat,decide ((k:Int)≤(c.toNat:Int))=decide (k≤c.toNat):=fun k=>by rw[decide_eq_decide]; omega
 have e2: ∀k:Nat,decide ((c.toNat:Int)≤(k:Int))=decide (c.toNat≤k):=fun k=>by rw[decide_eq_decide]; omega
 rw[←e 97,←e2 122,←e 48,←e2 57];rfl
theorem XG (n:Nat)(h:128≤n):Cu (n:Int)=some false:=by
 unfold Cu;rw[B9,decide_eq_false (show¬(n:Int)≤122 from by omega),decide_eq_false (show¬(n:Int)≤57 from by omega),Bool.and_false,Bool.and_false];rfl
theorem Vo (n:Nat)(c:UInt8)(h:n=c.toNat):Cr (n:Int)=some (MO c):=by
 unfold Cr MO;rw[R9 n c h,QZ,Ab];subst h;have e:((c.toNat:Int)==45)=(c.toNat==45):=by rw[Bool.eq_iff_iff,beq_iff_eq,beq_iff_eq]; omega
 rw[e];cases c.toNat==45<;>simp
theorem Ze (n:Nat)(h:128≤n):Cr (n:Int)=some false:=by
 unfold Cr;rw[XG n h,QZ,Ab];have e:((n:Int)==45)=false:=by rw[beq_eq_false_iff_ne]; omega
 rw[e]; rfl
theorem AbO (c:UInt8)(h: ¬c.toNat<128):Dm c=false∧MO c=false∧(c.toNat==95)=false:=by
 have e1:Dm c=false:=by
  unfold Dm;rw[decide_eq_false (show¬c.toNat≤122 from by omega),decide_eq_false (show¬c.toNat≤57 from by omega),Bool.and_false,Bool.and_false]; rfl
 have e2:(c.toNat==45)=false:=by rw[beq_eq_false_iff_ne]; omega
 refine⟨e1,?_,by rw[beq_eq_false_iff_ne]; omega⟩;unfold MO;rw[e1,e2]; rfl
theorem O6 {s:ByteArray}{i:Nat}{c:UInt8}(hs:s.size≤16)(h:s.data.toList[i]? =some c):
  AI s i=some (if(if i+1=s.size then Dm c else if i=0 then Dm c||c.toNat==95 else MO c)=true then .inl (i+1)else .inr (.inr false)):=by
 have hi:i<s.size:=by
  have:=(List.getElem?_eq_some_iff.1 h).1;rw[AF]at this;exact this
 have hw:w64 ((s.size:Int)-1)=(s.size:Int)-1:=E9 (by omega) (by omega);unfold AI;rw[if_pos hi,B9,hw];by_cases hb:c.toNat<128
 ·rw[AaA h hb,R9 c.toNat c rfl,Vo c.toNat c rfl,QZ,Ab,B9,B9,QZ,Ab,B9,QZ,Ab];have e95:((c.toNat:Int)==95)=(c.toNat==95):=by rw[Bool.eq_iff_iff,beq_iff_eq,beq_iff_eq]; omega
  by_cases hl:i+1=s.size
  ·have el:((i:Int)==(s.size:Int)-1)=true:=by rw[beq_iff_eq]; omega
   rw[if_pos hl,el];cases Dm c<;>rfl
  ·have el:((i:Int)==(s.size:Int)-1)=false:=by rw[beq_eq_false_iff_ne]; omega
   rw[if_neg hl,el];by_cases h0:i=0
   ·have e0:((i:Int)==0)=true:=by rw[beq_iff_eq]; omega
    rw[if_pos h0,e0];show(if(true&&((true&&Dm c)||((c.toNat:Int)==95)))=true then _ else _)=_;rw[e95];cases Dm c<;>cases c.toNat==95<;>rfl
   ·have e0:((i:Int)==0)=false:=by rw[beq_eq_false_iff_ne]; omega
    rw[if_neg h0,e0];cases MO c<;>rfl
 ·have hd:=AaB h hb;generalize Utf8.decode s i=q at hd;obtain⟨n,k⟩:=q;have hn:128≤n:=hd;obtain⟨b1,b2,b3⟩:=AbO c hb;show(Ac (gu _ (Cu (n:Int))) _)=_;rw[XG n hn,QZ,Ab,B9,Bool.and_false,Bool.and_false,if_neg (by decide),B9];have e95:((n:Int)==95)=false:=by rw[beq_eq_false_iff_ne]; omega
  by_cases hl:i+1=s.size
  ·have el:((i:Int)==(s.size:Int)-1)=true:=by rw[beq_iff_eq]; omega
   rw[if_pos hl,el,b1];rfl
  ·have el:((i:Int)==(s.size:Int)-1)=false:=by rw[beq_eq_false_iff_ne]; omega
   rw[if_neg hl,el,if_neg (by decide)];rw[QZ,Ab,B9];show(if(((i:Int)==0)&&((((i:Int)==0)&&false)||((n:Int)==95)))=true then _ else Ac (gu _ (Cr (n:Int))) _)=_;rw[Ze n hn,QZ,Ab,e95,Bool.and_false,Bool.or_false,Bool.and_false,if_neg (by decide)];by_cases h0:i=0
   ·have e0:((i:Int)==0)=true:=by rw[beq_iff_eq]; omega
    rw[if_pos h0,e0,b1,b3];rfl
   ·have e0:((i:Int)==0)=false:=by rw[beq_eq_false_iff_ne]; omega
    rw[if_neg h0,e0,b2];rfl
theorem Xe {s:ByteArray}{i:Nat}(h: ¬i<s.size):AI s i=some (.inr (.inl i)):=by
 unfold AI;rw[if_neg h]
theorem O5 {s:ByteArray}(hs:s.size≤16): ∀(r:List UInt8) (i n:Nat),1≤i→s.data.toList.drop i=r→i≤s.size→r.length<n→∃z,iter (AI s) n i=some (if OA r=true then .inl z else .inr false)
 |r,i,0,_,_,_,h=>by omega
 | [],i,n+1,_,h,hi,_=>by
  have hl:s.data.toList.length≤i:=List.drop_eq_nil_iff.1 h;rw[AF]at hl;refine⟨i,?_⟩;show Ac (AI s i) _=_;rw[Xe (by omega)];rfl
 |c::r,i,n+1,h1,h,hi,hn=>by
  have hc:s.data.toList[i]? =some c:=by
   have:(s.data.toList.drop i)[0]? =some c:=by rw[h]; rfl
   simpa using this
  have hlt:i<s.size:=by
   have:=(List.getElem?_eq_some_iff.1 hc).1;rw[AF]at this; exact this
  have hr:s.data.toList.drop (i+1)=r:=by rw[←List.drop_drop,h]; rfl
  have hlen:r.length=s.size-(i+1):=by rw[←hr,List.length_drop,AF]
  obtain⟨z,ih⟩:=O5 hs r (i+1) n (by omega) hr (by omega) (by rw[List.length_cons]at hn; omega);refine⟨z,?_⟩;show Ac (AI s i) _=_;rw[O6 hs hc,if_neg (show¬i=0 from by omega)];cases r with
  |nil=>
   rw[if_pos (show i+1=s.size from by rw[List.length_nil]at hlen; omega)];show _=some (if Dm c=true then _ else _);cases Dm c with
   |false=>rfl
   |true=>rw[if_pos rfl,if_pos rfl]; exact ih
  |cons d r=>
   rw[if_neg (show¬i+1=s.size from by rw[List.length_cons]at hlen; omega)];show _=some (if(MO c&&OA (d::r))=true then _ else _);cases MO c with
   |false=>rfl
   |true=>
    rw[if_pos rfl,Bool.true_and];exact ih
theorem Y9 (s:ByteArray):C9 s=some (Lv s.data.toList):=by
 unfold C9;cases hl:s.data.toList with
 |nil=>
  have:eqS s (⟨#[]⟩:ByteArray)=true:=by unfold eqS; rw[hl]; rfl
  rw[this,Bool.true_or,if_pos rfl];rfl
 |cons c r=>
  have h0:eqS s (⟨#[]⟩:ByteArray)=false:=by unfold eqS; rw[hl]; rfl
  have hz:s.size=r.length+1:=by rw[←AF,hl]; rfl
  rw[h0,Bool.false_or];by_cases hs:s.size≤16
  ·rw[decide_eq_false (show¬(s.size:Int)>16 from by omega),if_neg (by decide)];have hc:s.data.toList[0]? =some c:=by rw[hl]; rfl
   have hd:s.data.toList.drop 1=r:=by rw[hl]; rfl
   have e': ∀n,r.length<n→∃z,iter (AI s) (n+1) 0=some (if Lv (c::r)=true then .inl z else .inr false):=by
    intro n hn;obtain⟨z,ht⟩:=O5 hs r 1 n (by decide) hd (by omega) hn;refine⟨z,?_⟩;show Ac (AI s 0) _=_;rw[O6 hs hc,if_pos rfl];cases r with
    |nil=>
     rw[if_pos (show 0+1=s.size from by rw[hz]; rfl)];show _=some (if Dm c=true then _ else _);cases Dm c with
     |false=>rfl
     |true=>rw[if_pos rfl,if_pos rfl]; exact ht
    |cons d r=>
     rw[if_neg (show¬0+1=s.size from by rw[hz,List.length_cons]; omega)];show _=some (if((Dm c||c.toNat==95)&&OA (d::r)&&decide ((c::d::r).length≤16))=true then _ else _);rw[decide_eq_true (show(c::d::r).length≤16 from by rw[List.length_cons,←hz]; exact hs),Bool.and_true];cases Dm c||c.toNat==95 with
     |false=>rfl
     |true=>
      rw[if_pos rfl,Bool.true_and];exact ht
   obtain⟨z,e⟩: ∃z,iter (AI s) A0 0=some (if Lv (c::r)=true then .inl z else .inr false):=e' 18446744073709551615 (by omega);rw[e,Ab];cases Lv (c::r)<;>rfl
  ·rw[decide_eq_true (show(s.size:Int)>16 from by omega),if_pos rfl];cases r with
   |nil=>rw[hz]at hs; simp at hs
   |cons d r=>
    show _=some ((Dm c||c.toNat==95)&&OA (d::r)&&decide ((c::d::r).length≤16));rw[decide_eq_false (show¬(c::d::r).length≤16 from by rw[List.length_cons,←hz]; exact hs),Bool.and_false]
end Go.Proofs.YtbajlmaijjcbmaaGreatDoor
end
section
namespace Go.Proofs.YtbajlmaijjcbmaaGreatDoor
open Go Go.Gw Go.Ax
def BV:List UInt8→List (List UInt8)
 | []=> [[]]
 |c::l=>if c=46 then []::BV l else match BV l with|h::t=>(c::h)::t| []=> [[c]]
theorem NM (c:UInt8)(l:List UInt8):BV (c::l)=if c=46 then []::BV l else match BV l with|h::t=>(c::h)::t| []=> [[c]]:=rfl
theorem Lc: ∀l:List UInt8,BV l≠[]
 | []=>by simp[BV]
 |c::l=>by
  unfold BV;split
  ·simp
  ·split<;>simp
theorem NL: ∀(p r:List UInt8),(46:UInt8)∉p→BV (p++46::r)=p::BV r
 | [],r,_=>by simp[BV]
 |c::p,r,h=>by
  have hc:c≠46:=fun e=>h (by rw[e]; exact List.mem_cons_self);have ih:=NL p r fun q=>h (List.mem_cons_of_mem _ q);show BV (c::(p++46::r))=_;rw[NM,if_neg hc,ih]
theorem NK: ∀(p:List UInt8),(46:UInt8)∉p→BV p=[p]
 | [],_=>rfl
 |c::p,h=>by
  have hc:c≠46:=fun e=>h (by rw[e]; exact List.mem_cons_self);have ih:=NK p fun q=>h (List.mem_cons_of_mem _ q);unfold BV;rw[if_neg hc,ih]
theorem KB: ∀(l:List UInt8),(BV l).length=l.count 46+1
 | []=>rfl
 |c::l=>by
  have ih:=KB l;unfold BV;by_cases hc:c=46
  ·rw[if_pos hc,hc,List.count_cons_self,List.length_cons,ih]
  ·rw[if_neg hc,List.count_cons_of_ne hc];cases h:BV l with
   |nil=>exact absurd h (Lc l)
   |cons a t=>rw[h]at ih; simpa using ih
theorem RV: ∀(l:List UInt8) (c:UInt8),(Lib.indexByte l c= -1∧c∉l)∨∃p r,l=p++c::r∧c∉p∧Lib.indexByte l c=(p.length:Int)
 | [],c=> .inl ⟨rfl,by simp⟩
 |b::l,c=>by
  unfold Lib.indexByte;cases hb:b==c with
  |true=>
   have e:b=c:=by simpa using hb
   exact .inr ⟨[],l,by rw[e]; rfl,by simp,rfl⟩
  |false=>
   have e:b≠c:=by simpa using hb
   rcases RV l c with ⟨h1,h2⟩|⟨p,r,h1,h2,h3⟩
   ·refine .inl ⟨by rw[h1]; rfl,?_⟩;intro h;rcases List.mem_cons.1 h with q|q
    ·exact e q.symm
    ·exact h2 q
   ·refine .inr ⟨b::p,r,by rw[h1]; rfl,?_,?_⟩
    ·intro h;rcases List.mem_cons.1 h with q|q
     ·exact e q.symm
     ·exact h2 q
    ·rw[h3];have:((p.length:Int)== -1)=false:=by rw[beq_eq_false_iff_ne]; omega
     rw[if_neg (by decide),if_neg (by rw[this]; decide),List.length_cons];omega
theorem Jj (s:ByteArray)(a b:Nat):(s.extract a b).data.toList=(s.data.toList.take b).drop a:=by
 rw[ByteArray.data_extract,Array.toList_extract,List.extract_eq_take_drop,List.take_drop];by_cases h:a≤b
 ·rw[Nat.add_sub_cancel' h]
 ·rw[Nat.sub_eq_zero_of_le (by omega),Nat.add_zero];rw[List.drop_eq_nil_of_le (by rw[List.length_take]; omega),List.drop_eq_nil_of_le (by rw[List.length_take]; omega)]
def QU (l:List UInt8):Bool:=(BV l).all Lv
theorem b5_eq (b:ByteArray)(s:Unit×Nat):Bl b s=some ((),if Lv b.data.toList=true then 0 else 1):=by
 unfold Bl;rw[Y9,Ab];cases Lv b.data.toList<;>rfl
def cbk:(Unit×Nat)→ByteArray→Option (Bool×(Unit×Nat)):=fun(s:(Unit)×Nat) (b0:ByteArray)=>if s.2=0 then Ac (Bl b0 s) fun y=>some (y.2==0,y)else none
theorem AaI (b:ByteArray):cbk ((),0) b=some (Lv b.data.toList,((),if Lv b.data.toList=true then 0 else 1)):=by
 unfold cbk;rw[if_pos rfl,b5_eq,Ab];cases Lv b.data.toList<;>rfl
theorem Xo (s:ByteArray)(h:s.size≤1000):By s (⟨#[46]⟩:ByteArray)=some (Aap s 46):=by
 obtain⟨x,hx,h1,h2⟩:=RZ s;unfold By AU AZ;rw[B9];cases he:eqS (⟨#[46]⟩:ByteArray) s with
 |true=>
  have e:=(KM.1 he);subst e;rfl
 |false=>rfl
theorem OW: ∀(m:Nat) (s:ByteArray) (n:Nat),s.size≤m→m<n→m≤100→
  ∃z:ByteArray,iter (Az cbk (⟨#[46]⟩:ByteArray) 0) n (s,((),0))=some (if(BV s.data.toList).dropLast.all Lv=true then .inl (z,((),0))else .inr ((⟨#[46]⟩:ByteArray),z,0,((),1)))∧
   ((BV s.data.toList).dropLast.all Lv=true→some z.data.toList=(BV s.data.toList).getLast?)
 |m,s,0,_,h,_=>by omega
 |m,s,n+1,hs,hn,hm=>by
  have hx:By s (⟨#[46]⟩:ByteArray)=some (Aap s 46):=Xo s (by omega);show∃z,Ac (Az cbk (⟨#[46]⟩:ByteArray) 0 (s,((),0))) _=_∧_;rcases RV s.data.toList 46 with ⟨h1,h2⟩|⟨p,r,h1,h2,h3⟩
  ·have e:Az cbk (⟨#[46]⟩:ByteArray) 0 (s,((),0))=some (.inr (.inl (s,((),0)))):=by
    unfold Az;show Ac (By s (⟨#[46]⟩:ByteArray)) _=_;rw[hx,Ab,show Aap s 46= -1 from h1];rfl
   rw[e,NK _ h2];exact⟨s,rfl,fun _=>rfl⟩
  ·have hz:s.size=p.length+1+r.length:=by rw[←AF,h1,List.length_append,List.length_cons]; omega
   have e1:Mh s 0 (w64 ((p.length:Int)+0))=some (s.extract 0 p.length):=by
    rw[Int.add_zero,E9 (by omega) (by omega),F9 (by omega) (by omega) (by omega)];rfl
   have e2:Mh s (w64 ((p.length:Int)+((⟨#[46]⟩:ByteArray).size:Int))) (s.size:Int)=some (s.extract (p.length+1) s.size):=by
    have:((⟨#[46]⟩:ByteArray).size:Int)=1:=rfl;rw[this,E9 (by omega) (by omega),F9 (by omega) (by omega) (by omega)];rfl
   have l1:(s.extract 0 p.length).data.toList=p:=by
    rw[Jj,h1,List.take_left]; rfl
   have l2:(s.extract (p.length+1) s.size).data.toList=r:=by
    rw[Jj,←AF,List.take_length,h1];rw[←List.drop_drop,List.drop_left]; rfl
   have e:Az cbk (⟨#[46]⟩:ByteArray) 0 (s,((),0))=some (if Lv p=true then .inl (s.extract (p.length+1) s.size,((),0))else .inr (.inr ((⟨#[46]⟩:ByteArray),s,0,((),1)))):=by
    unfold Az;show Ac (By s (⟨#[46]⟩:ByteArray)) _=_;rw[hx,Ab,show Aap s 46=(p.length:Int)from h3,if_neg (by rw[decide_eq_true_eq]; omega),e1,Ab,AaI,Ab,l1];cases hlab:Lv p with
    |false=>rfl
    |true=>
     rw[if_neg (by simp)];dsimp only;rw[e2,Ab];rfl
   rw[e,h1,NL p r h2];have hsz:(s.extract (p.length+1) s.size).size=r.length:=by rw[←AF,l2]
   obtain⟨z,ih1,ih2⟩:=OW (m-1) (s.extract (p.length+1) s.size) n (by omega) (by omega) (by omega);rw[l2]at ih1 ih2;have hd:(p::BV r).dropLast=p::(BV r).dropLast:=by
    cases hq:BV r with
    |nil=>exact absurd hq (Lc r)
    |cons a t=>rfl
   have hg:(p::BV r).getLast? =(BV r).getLast? :=by
    cases hq:BV r with
    |nil=>exact absurd hq (Lc r)
    |cons a t=>rfl
   rw[hd,hg,List.all_cons];cases Lv p with
   |false=>exact⟨s,rfl,fun h=>by cases h⟩
   |true=>exact⟨z,ih1,ih2⟩
theorem QT {α:Type}(f:α→Bool): ∀(l:List α) (x:α),l.getLast? =some x→l.all f=(l.dropLast.all f&&f x)
 | [],x,h=>by cases h
 | [a],x,h=>by cases h; simp
 |a::b::l,x,h=>by
  have ih:=QT f (b::l) x (by simpa using h);show(f a&&(b::l).all f)=((f a&&(b::l).dropLast.all f)&&f x);rw[ih,Bool.and_assoc]
def isB (l:List UInt8)(n k:Nat):Bool:=decide (l.length≤k)&&decide ((BV l).length≤n)&&QU l
theorem To (s:ByteArray)(n k:Nat)(hk:k≤100):BH s (n:Int) (k:Int)=some (isB s.data.toList n k):=by
 unfold BH isB;have hz:=AF s;by_cases h1:s.size≤k
 ·rw[decide_eq_false (show¬(s.size:Int)>k from by omega),if_neg (by decide),decide_eq_true (show s.data.toList.length≤k from by omega)];have ec:Eg s (⟨#[46]⟩:ByteArray)=some ((s.data.toList.count 46:Nat):Int):=rfl;rw[ec,Ab,Ab,KB];by_cases h2:s.data.toList.count 46+1≤n
  ·rw[decide_eq_false (show¬((s.data.toList.count 46:Nat):Int)≥(n:Int)from by omega),if_neg (by decide),decide_eq_true h2];obtain⟨z,e1,e2⟩:=OW 100 s A0 (by omega) (by have:=Bp; omega) (by decide);have es:A1 cbk (⟨#[46]⟩:ByteArray) s 0 ((),0)=some ((⟨#[46]⟩:ByteArray),z,0,((),if QU s.data.toList=true then 0 else 1)):=by
    unfold A1;rw[if_neg (by decide),e1,Ab];unfold QU;cases hd:(BV s.data.toList).dropLast.all Lv with
    |true=>
     have hlast:=(e2 hd).symm;rw[QT Lv _ _ hlast,hd,if_pos rfl];show Ac (cbk ((),0) z) _=_;rw[AaI,Ab,Bool.true_and]
    |false=>
     have:(BV s.data.toList).all Lv=false:=by
      cases hl:(BV s.data.toList).getLast? with
      |none=>exact absurd (List.getLast?_eq_none_iff.1 hl) (Lc _)
      |some x=>rw[QT Lv _ x hl,hd]; rfl
     rw[this];rfl
   show Ac (A1 cbk (⟨#[46]⟩:ByteArray) s 0 ((),0)) _=_;rw[es,Ab];cases QU s.data.toList<;>rfl
  ·rw[decide_eq_true (show((s.data.toList.count 46:Nat):Int)≥(n:Int)from by omega),if_pos rfl,decide_eq_false h2];rfl
 ·rw[decide_eq_true (show(s.size:Int)>k from by omega),if_pos rfl,Ab,if_pos rfl,decide_eq_false (show¬s.data.toList.length≤k from by omega)];rfl
theorem Y0 (s:ByteArray):nameV s=if isB s.data.toList 8 64=true then 0 else 110:=by
 have e:=Qp s;have e2:C2 s=some (isB s.data.toList 8 64):=by
  unfold C2;rw[show BH s 8 64=some (isB s.data.toList 8 64)from To s 8 64 (by decide)];rfl
 unfold Cs at e;rw[e2,Ab]at e;cases h:isB s.data.toList 8 64 with
 |true=>rw[h]at e; exact(Option.some.inj e).symm
 |false=>rw[h]at e; exact(Option.some.inj e).symm
end Go.Proofs.YtbajlmaijjcbmaaGreatDoor
end
section
namespace Go.Proofs.YtbajlmaijjcbmaaGreatDoor
open Go Go.Gw Go.Ax
theorem Sv (c:UInt8):C7 c=some (Dm c):=by
 unfold C7 Dm;rw[B9];congr 1;have e: ∀k:Nat,decide ((c.toNat:Int)≥(k:Int))=decide (k≤c.toNat):=fun k=>by rw[decide_eq_decide]; omega
 have e2: ∀k:Nat,decide ((c.toNat:Int)≤(k:Int))=decide (c.toNat≤k):=fun k=>by rw[decide_eq_decide]; omega
 rw[←e 97,←e2 122,←e 48,←e2 57];rfl
theorem T0: ∀(r:List UInt8) (x:UInt8),r.getLast? =some x→OA r=(Dm x&&r.all MO)
 | [],x,h=>by cases h
 | [a],x,h=>by
  cases h;show Dm a=(Dm a&&(MO a&&true));unfold MO;cases Dm a<;>simp
 |a::b::r,x,h=>by
  have ih:=T0 (b::r) x (by simpa using h);show(MO a&&OA (b::r))=(Dm x&&(MO a&&(b::r).all MO));rw[ih];cases MO a<;>cases Dm x<;>rfl
theorem CG {α:Type}{l:List α}{i:Nat}{x:α}(h:l[i]? =some x):idx l (i:Int)=some x:=by
 unfold idx;rw[if_pos (by omega)];exact h
theorem Wv {s:ByteArray}{i:Nat}{c:UInt8}(h:s.data.toList[i]? =some c)(hs:s.size≤100000):Bi s (i:Int)=some (if MO c=true then .inl ((i+1:Nat):Int)else .inr (.inr false)):=by
 have hi:i<s.size:=by
  have:=(List.getElem?_eq_some_iff.1 h).1;rw[AF]at this;exact this
 unfold Bi;rw[decide_eq_true (show(i:Int)<(s.size:Int)from by omega),if_pos rfl,CG h,Ab,Sv,Ab];have hw:w64 ((i:Int)+1)=((i+1:Nat):Int):=by rw[E9 (by omega) (by omega)]; omega
 have e45:((c.toNat:Int) !=45)= !(c.toNat==45):=by
  show(!((c.toNat:Int)==45))=_;have:((c.toNat:Int)==45)=(c.toNat==45):=by rw[Bool.eq_iff_iff,beq_iff_eq,beq_iff_eq]; omega
  rw[this]
 unfold MO;cases he:Dm c with
 |true=>
  rw[show gu (!true) (some c)=some default from rfl,Ab,hw,Bool.or_true];rfl
 |false=>
  rw[show gu (!false) (some c)=some c from rfl,Ab,e45,hw,Bool.or_false];cases c.toNat==45<;>rfl
theorem RH {s:ByteArray}(hs:s.size≤100000): ∀(r:List UInt8) (i n:Nat),s.data.toList.drop i=r→r.length<n→iter (Bi s) n (i:Int)=some (if r.all MO=true then .inl ()else .inr false)
 |r,i,0,_,h=>by omega
 | [],i,n+1,h,_=>by
  have hl:s.data.toList.length≤i:=List.drop_eq_nil_iff.1 h;rw[AF]at hl;have e:Bi s (i:Int)=some (.inr (.inl ())):=by
   unfold Bi;rw[decide_eq_false (show¬(i:Int)<(s.size:Int)from by omega)];rfl
  show Ac (Bi s (i:Int)) _=_;rw[e];rfl
 |c::r,i,n+1,h,hn=>by
  have hc:s.data.toList[i]? =some c:=by
   have:(s.data.toList.drop i)[0]? =some c:=by rw[h]; rfl
   simpa using this
  have hr:s.data.toList.drop (i+1)=r:=by rw[←List.drop_drop,h]; rfl
  have ih:=RH hs r (i+1) n hr (by rw[List.length_cons]at hn; omega);show Ac (Bi s (i:Int)) _=_;rw[Wv hc hs,List.all_cons];cases MO c with
  |false=>rfl
  |true=>rw[if_pos rfl,Bool.true_and]; exact ih
theorem Wu (s:ByteArray)(hs:s.size≤100000):FK s=some (Lv s.data.toList):=by
 have hz:=AF s;unfold FK;by_cases h1:s.size<1∨s.size>16
 ·have eb:(decide ((s.size:Int)<1)||decide ((s.size:Int)>16))=true:=by
   rw[Bool.or_eq_true,decide_eq_true_eq,decide_eq_true_eq]; omega
  rw[eb];show some false=_;cases hl:s.data.toList with
  |nil=>rfl
  |cons c r=>
   rw[hl,List.length_cons]at hz;cases r with
   |nil=>rw[List.length_nil]at hz; omega
   |cons d r=>
    show some false=some ((Dm c||c.toNat==95)&&OA (d::r)&&decide ((c::d::r).length≤16));rw[decide_eq_false (show¬(c::d::r).length≤16 from by rw[List.length_cons]; omega),Bool.and_false]
 ·have eb:(decide ((s.size:Int)<1)||decide ((s.size:Int)>16))=false:=by
   rw[Bool.or_eq_false_iff,decide_eq_false_iff_not,decide_eq_false_iff_not]; omega
  cases hl:s.data.toList with
  |nil=>rw[hl,List.length_nil]at hz; omega
  |cons c r=>
   obtain⟨x,hx⟩: ∃x,(c::r).getLast? =some x:=⟨_,List.getLast?_cons⟩;have hx2:(c::r)[s.size-1]? =some x:=by
    rw[←hx,List.getLast?_eq_getElem?,←hl,hz]
   have hw:w64 ((s.size:Int)-1)=((s.size-1:Nat):Int):=by rw[E9 (by omega) (by omega)]; omega
   have ex:idx (c::r) (w64 ((s.size:Int)-1))=some x:=by rw[hw]; exact CG hx2
   have hloop:=RH hs r 1 A0 (by rw[hl]; rfl) (by
    have:=Bp;rw[hl,List.length_cons]at hz;omega)
   have hloop:iter (Bi s) A0 1=some (if r.all MO=true then .inl ()else .inr false):=hloop;rw[eb,ex,show idx (c::r) 0=some c from rfl,hloop];rw[show gu (!false) (some x)=some x from rfl,Ab,show gu (!false) (C7 x)=C7 x from rfl,Sv,Ab];have e95:((c.toNat:Int) !=95)= !(c.toNat==95):=by
    show(!((c.toNat:Int)==95))=_;have:((c.toNat:Int)==95)=(c.toNat==95):=by rw[Bool.eq_iff_iff,beq_iff_eq,beq_iff_eq]; omega
    rw[this]
   have hlab:Lv (c::r)=(Dm x&&(Dm c||c.toNat==95)&&r.all MO):=by
    cases r with
    |nil=>
     have hxc:x=c:=by simpa using hx.symm
     rw[hxc];show Dm c=_;cases Dm c<;>simp
    |cons d r=>
     have ht:=T0 (d::r) x (by simpa using hx);show((Dm c||c.toNat==95)&&OA (d::r)&&decide ((c::d::r).length≤16))=_;rw[hl,List.length_cons]at hz;rw[ht,decide_eq_true (show(c::d::r).length≤16 from by rw[List.length_cons]; omega),Bool.and_true];cases Dm c||c.toNat==95<;>cases Dm x<;>rfl
   rw[hlab];cases Dm x with
   |false=>rfl
   |true=>
    rw[show gu (!((false||(!true)))) (some c)=some c from rfl,Ab,Sv,show gu (!((false||(!true)))) (some (Dm c))=some (Dm c)from rfl,Ab];cases Dm c with
    |true=>
     show Ac (gu false (some c)) _=_;rw[R0,Ab];cases r.all MO<;>rfl
    |false=>
     show Ac (some c) (fun x5=>if((false|| !true)||(!false&&((x5.toNat:Int) !=95)))=true then some false else Ac (some (if r.all MO=true then(.inl ():Unit⊕Bool)else .inr false)) _)=_;rw[Ab,e95];cases c.toNat==95 with
     |false=>rfl
     |true=>cases r.all MO<;>rfl
end Go.Proofs.YtbajlmaijjcbmaaGreatDoor
end
section
namespace Go.Proofs.YtbajlmaijjcbmaaGreatDoor
open Go Go.Gw Go.Ax
def toL (s:ByteArray):List UInt8:=s.data.toList
theorem Yd {α:Type}(b:Nat){xs ys:List α}(h:(xs.length+ys.length)*b≤140737488355328)(h1:xs.length+ys.length≤140737488355328):app b xs ys=some (xs++ys):=by unfold app; rw[if_pos ⟨h,h1⟩]
theorem Zz {α:Type}(l:List α){f i:Nat}(h:f≤i):l.drop f=(l.take i).drop f++l.drop i:=by
 have h0:l=l.take i++l.drop i:=(List.take_append_drop i l).symm;by_cases hi:i≤l.length
 ·conv=>lhs; rw[h0]
  rw[List.drop_append_of_le_length (by rw[List.length_take]; omega)]
 ·rw[List.take_of_length_le (by omega),List.drop_eq_nil_of_le (show l.length≤i by omega),List.append_nil]
theorem VX {α:Type}{l:List α}{i f:Nat}{c:α}(h:l[i]? =some c)(hf:f≤i):(l.take (i+1)).drop f=(l.take i).drop f++[c]:=by
 rw[List.take_add_one,h];have hl:i<l.length:=(List.getElem?_eq_some_iff.1 h).1;rw[List.drop_append_of_le_length (by rw[List.length_take]; omega)];rfl
theorem QH {s:ByteArray}(hs:s.size≤100000): ∀(r:List UInt8) (i f n:Nat) (out:List ByteArray),(toL s).drop i=r→r.length<n→f≤i→i≤s.size→out.length≤i→(46:UInt8)∉((toL s).take i).drop f→
  ∃(o:List ByteArray) (g:Nat),iter (Bd s) n (out,(f:Int),(i:Int))=some (o,(g:Int))∧g≤s.size∧o.length≤s.size∧o.map toL++[(toL s).drop g]=out.map toL++BV ((toL s).drop f)
 |r,i,f,0,_,_,h,_,_,_,_=>by omega
 | [],i,f,n+1,out,h,_,hf,hi,ho,hp=>by
  have hl:(toL s).length≤i:=List.drop_eq_nil_iff.1 h;have hz:(toL s).length=s.size:=AF s;have e:Bd s (out,(f:Int),(i:Int))=some (.inr (out,(f:Int))):=by
   unfold Bd;show(if decide ((i:Int)<(s.size:Int))=true then _ else _)=_;rw[decide_eq_false (show¬(i:Int)<(s.size:Int)from by omega)];rfl
  refine⟨out,f,?_,by omega,by omega,?_⟩
  ·show Ac (Bd s (out,(f:Int),(i:Int))) _=_;rw[e];rfl
  ·rw[List.take_of_length_le (by omega)]at hp;rw[NK _ hp]
 |c::r,i,f,n+1,out,h,hn,hf,hi,ho,hp=>by
  have hc:(toL s)[i]? =some c:=by
   have:((toL s).drop i)[0]? =some c:=by rw[h]; rfl
   simpa using this
  have hz:(toL s).length=s.size:=AF s;have hlt:i<s.size:=by
   have:=(List.getElem?_eq_some_iff.1 hc).1;omega
  have hr:(toL s).drop (i+1)=r:=by rw[←List.drop_drop,h]; rfl
  have hw:w64 ((i:Int)+1)=((i+1:Nat):Int):=by rw[E9 (by omega) (by omega)]; omega
  have hi2:idx s.data.toList (i:Int)=some c:=CG hc;by_cases h46:c=46
  ·have e46:((c.toNat:Int)==46)=true:=by rw[h46]; rfl
   have ep:Mh s (f:Int) (i:Int)=some (s.extract f i):=by
    rw[F9 (by omega) (by omega) (by omega)]; rfl
   have e:Bd s (out,(f:Int),(i:Int))=some (.inl (out++[s.extract f i],((i+1:Nat):Int),((i+1:Nat):Int))):=by
    unfold Bd;show(if decide ((i:Int)<(s.size:Int))=true then _ else _)=_;rw[decide_eq_true (show(i:Int)<(s.size:Int)from by omega),if_pos rfl];show Ac (Ac (idx s.data.toList (i:Int)) _) _=_;rw[hi2,Ab,e46,if_pos rfl];show Ac (Ac (Mh s (f:Int) (i:Int)) _) _=_;rw[ep,Ab];show Ac (Ac (app 16 out [s.extract f i]) _) _=_;rw[Yd 16 (by show(out.length+1)*16≤_; omega) (by show out.length+1≤_; omega),Ab,Ab,hw]
   obtain⟨o,g,q1,q2,q3,q4⟩:=QH hs r (i+1) (i+1) n (out++[s.extract f i]) hr (by rw[List.length_cons]at hn; omega) (Nat.le_refl _) (by omega) (by rw[List.length_append]; show out.length+1≤_; omega) (by
    rw[List.drop_eq_nil_of_le (by rw[List.length_take]; omega)]; simp)
   refine⟨o,g,?_,q2,q3,?_⟩
   ·show Ac (Bd s (out,(f:Int),(i:Int))) _=_;rw[e];exact q1
   ·rw[q4,Zz (toL s) hf,h,h46,NL _ _ hp,hr,List.map_append,List.append_assoc];show _++([toL (s.extract f i)]++_)=_;rw[show toL (s.extract f i)=((toL s).take i).drop f from Jj s f i];rfl
  ·have e46:((c.toNat:Int)==46)=false:=by
    rw[beq_eq_false_iff_ne];intro q;exact h46 (UInt8.toNat_inj.1 (by show c.toNat=46; omega))
   have e:Bd s (out,(f:Int),(i:Int))=some (.inl (out,(f:Int),((i+1:Nat):Int))):=by
    unfold Bd;show(if decide ((i:Int)<(s.size:Int))=true then _ else _)=_;rw[decide_eq_true (show(i:Int)<(s.size:Int)from by omega),if_pos rfl];show Ac (Ac (idx s.data.toList (i:Int)) _) _=_;rw[hi2,Ab,e46,if_neg (by decide),Ab,hw]
   obtain⟨o,g,q1,q2,q3,q4⟩:=QH hs r (i+1) f n out hr (by rw[List.length_cons]at hn; omega) (by omega) (by omega) (by omega) (by
    rw[VX hc hf];intro q;rcases List.mem_append.1 q with q|q
    ·exact hp q
    ·exact h46 (List.mem_singleton.1 q).symm)
   refine⟨o,g,?_,q2,q3,q4⟩;show Ac (Bd s (out,(f:Int),(i:Int))) _=_;rw[e];exact q1
theorem UF {s:ByteArray}(hs:s.size≤100000): ∃l,Gx s=some l∧l.map toL=BV (toL s):=by
 have hz:(toL s).length=s.size:=AF s;obtain⟨o,g,h1,h2,h3,h4⟩:=QH hs (toL s) 0 0 A0 [] rfl (by have:=Bp; omega) (Nat.le_refl _) (Nat.zero_le _) (Nat.zero_le _) (by simp);have h1:iter (Bd s) A0 ([],0,0)=some (o,(g:Int)):=h1;unfold Gx;rw[h1,Ab,Ab,F9 (by omega) (by show(g:Int)≤_; omega) (by omega),Ab,Yd 16 (by show(o.length+1)*16≤_; omega) (by show o.length+1≤_; omega),Ab];refine⟨_,rfl,?_⟩;rw[List.map_append];show o.map toL++[toL (s.extract g s.size)]=_;rw[show toL (s.extract g s.size)=(toL s).drop g from by rw[show toL (s.extract g s.size)=((toL s).take s.size).drop g from Jj s g s.size,←hz,List.take_length],h4];rfl
theorem RP: ∀(r p:List ByteArray) (n:Nat),r.length<n→p.length+r.length≤10000→(∀x∈r,x.size≤100000)→iter (Bj (p++r)) n (p.length:Int)=some (if r.all (fun x=>Lv (toL x))=true then .inl ()else .inr false)
 |r,p,0,h,_,_=>by omega
 | [],p,n+1,_,_,_=>by
  have e:Bj (p++[]) (p.length:Int)=some (.inr (.inl ())):=by
   unfold Bj;rw[decide_eq_false (by rw[List.append_nil]; omega)];rfl
  show Ac (Bj (p++[]) (p.length:Int)) _=_;rw[e]; rfl
 |x::r,p,n+1,h,hp,hx=>by
  rw[List.length_cons]at h hp;have ih:=RP r (p++[x]) n (by omega) (by rw[List.length_append]; show p.length+1+_≤_; omega) fun y hy=>hx y (List.mem_cons_of_mem _ hy);have ei:idx (p++x::r) (p.length:Int)=some x:=CG (by simp);have e:Bj (p++x::r) (p.length:Int)=some (if Lv (toL x)=true then .inl ((p.length+1:Nat):Int)else .inr (.inr false)):=by
   unfold Bj;rw[decide_eq_true (show(p.length:Int)<((p++x::r).length:Int)from by rw[List.length_append,List.length_cons]; omega),if_pos rfl,ei,Ab,Wu x (hx x List.mem_cons_self),Ab];have hw:w64 ((p.length:Int)+1)=((p.length+1:Nat):Int):=by rw[E9 (by omega) (by omega)]; omega
   rw[hw];show(if(!Lv (toL x))=true then _ else _)=_;cases Lv (toL x)<;>rfl
  show Ac (Bj (p++x::r) (p.length:Int)) _=_;rw[e,List.all_cons];cases Lv (toL x)with
  |false=>rfl
  |true=>
   rw[if_pos rfl,Bool.true_and];show iter (Bj (p++x::r)) n ((p.length+1:Nat):Int)=_;rw[←ih];simp
theorem J9: ∀(l x:List UInt8),x∈BV l→x.length≤l.length
 | [],x,h=>by simp[BV]at h; rw[h]; simp
 |c::l,x,h=>by
  rw[NM]at h;by_cases hc:c=46
  ·rw[if_pos hc]at h;rcases List.mem_cons.1 h with q|q
   ·rw[q]; simp
   ·have:=J9 l x q; rw[List.length_cons]; omega
  ·rw[if_neg hc]at h;cases hs:BV l with
   |nil=>exact absurd hs (Lc l)
   |cons a t=>
    rw[hs]at h;rcases List.mem_cons.1 h with q|q
    ·have:=J9 l a (by rw[hs]; exact List.mem_cons_self);rw[q,List.length_cons,List.length_cons]; omega
    ·have:=J9 l x (by rw[hs]; exact List.mem_cons_of_mem _ q);rw[List.length_cons]; omega
theorem Oj {s:ByteArray}(hs:s.size≤100000):Dy s=some (isB (toL s) 8 64):=by
 have hz:(toL s).length=s.size:=AF s;unfold Dy isB;by_cases h1:s.size≤64
 ·rw[decide_eq_false (show¬(s.size:Int)>64 from by omega),if_neg (by decide),decide_eq_true (show(toL s).length≤64 from by omega)];obtain⟨l,e,hl⟩:=UF hs;have hsz: ∀x∈l,x.size≤100000:=fun x hx=>by
   have h2:=J9 (toL s) (toL x) (by rw[←hl]; exact List.mem_map_of_mem hx);have h3:(toL x).length=x.size:=AF x;omega
  have hlen:l.length=(BV (toL s)).length:=by rw[←hl,List.length_map]
  have hcnt:=KB (toL s);have hc2:(toL s).count 46≤(toL s).length:=List.count_le_length;have hloop:=RP l [] A0 (by have:=Bp; omega) (by simp only[List.length_nil]; omega) hsz;have hloop:iter (Bj l) A0 0=some (if l.all (fun x=>Lv (toL x))=true then .inl ()else .inr false):=hloop;rw[e,Ab,hloop];have ha:l.all (fun x=>Lv (toL x))=QU (toL s):=by
   unfold QU;rw[←hl,List.all_map];rfl
  rw[ha];have hd:decide ((l.length:Int)≤8)=decide ((BV (toL s)).length≤8):=by rw[decide_eq_decide,hlen]; omega
  cases QU (toL s)with
  |false=>rw[Bool.and_false]; rfl
  |true=>
   show some (decide ((l.length:Int)≤8))=_;rw[hd,Bool.and_true,Bool.true_and]
 ·rw[decide_eq_true (show(s.size:Int)>64 from by omega),if_pos rfl,decide_eq_false (show¬(toL s).length≤64 from by omega)];rfl
end Go.Proofs.YtbajlmaijjcbmaaGreatDoor
end
section
namespace Go.Proofs.YtbajlmaijjcbmaaGreatDoor
open Go Go.Gw Go.Ax
def Vb:List UInt8→Bool
 |a::b::r=>a==42&&b==46&&isB r 7 62
 |_=>false
theorem AbJ (n k:Nat):isB [] n k=false:=by
 unfold isB QU;simp[BV,Lv]
theorem pat_eq (s:ByteArray):BZ s=some (if(isB (toL s) 8 64||Vb (toL s))=true then 0 else 110):=by
 have hz:(toL s).length=s.size:=AF s;unfold BZ CS;have e1:C2 s=some (isB (toL s) 8 64):=by
  unfold C2;rw[show BH s 8 64=some (isB (toL s) 8 64)from To s 8 64 (by decide)];rfl
 rw[e1,Ab];cases h1:isB (toL s) 8 64 with
 |true=>rfl
 |false=>
  rw[if_neg (by decide),Bool.false_or];unfold Bz AK AJ;have e2:(((⟨#[42,46]⟩:ByteArray).size:Nat):Int)=2:=rfl;rw[e2];match hl:toL s with
  | []=>
   rw[hl,List.length_nil]at hz;rw[decide_eq_false (show¬(s.size:Int)≥2 from by omega)];rfl
  | [a]=>
   rw[hl,List.length_cons,List.length_nil]at hz;rw[decide_eq_false (show¬(s.size:Int)≥2 from by omega)];rfl
  |a::b::r=>
   rw[hl,List.length_cons,List.length_cons]at hz;have ec:Mh s 0 2=some (s.extract 0 2):=F9 (by omega) (by omega) (by omega);have el:(s.extract 0 2).data.toList=[a,b]:=by
    rw[Jj];show((toL s).take 2).drop 0=_;rw[hl]; rfl
   have ee:eqS (s.extract 0 2) (⟨#[42,46]⟩:ByteArray)=(a==42&&b==46):=by
    unfold eqS;rw[el,Bool.eq_iff_iff];simp
   rw[decide_eq_true (show(s.size:Int)≥2 from by omega),Kv,ec,Ab,B9,ee,Ab];show _=some (if(a==42&&b==46&&isB r 7 62)=true then 0 else 110);cases a==42&&b==46 with
   |false=>rfl
   |true=>
    have ec2:Mh s 2 (s.size:Int)=some (s.extract 2 s.size):=by
     rw[F9 (by omega) (by omega) (by omega)]; rfl
    have el2:(s.extract 2 s.size).data.toList=r:=by
     rw[Jj];show((toL s).take s.size).drop 2=_;rw[List.take_of_length_le (by rw[hl,List.length_cons,List.length_cons]; omega),hl]; rfl
    rw[show(true&&true)=true from rfl,if_neg (by decide),ec2,Ab,Ab,Ab];have en:=To (s.extract 2 s.size) 7 62 (by decide);rw[el2]at en;have en:BH (s.extract 2 s.size) 7 62=some (isB r 7 62):=en;show Ac (Ac (gu true (BH (s.extract 2 s.size) 7 62)) _) _=_;rw[Kv,en,Ab,Ab];show Ac (Dz (true&&isB r 7 62)) _=_;cases isB r 7 62<;>rfl
theorem Aby (s:ByteArray):patV s=if(isB (toL s) 8 64||Vb (toL s))=true then 0 else 110:=by
 have e:=Th s;rw[pat_eq s]at e;exact(Option.some.inj e).symm
theorem Acx {s:ByteArray}(hs:s.size≤100000): ∃t,GZ s=some (t,Vb (toL s)):=by
 have hz:(toL s).length=s.size:=AF s;unfold GZ;by_cases h1:s.size<3∨s.size>64
 ·have eb:(decide ((s.size:Int)<3)||decide ((s.size:Int)>64))=true:=by
   rw[Bool.or_eq_true,decide_eq_true_eq,decide_eq_true_eq]; omega
  rw[eb];have e:Vb (toL s)=false:=by
   match hl:toL s with
   | []=>rfl
   | [a]=>rfl
   | [a,b]=>show(a==42&&b==46&&isB [] 7 62)=false; rw[AbJ,Bool.and_false]
   |a::b::c::r=>
    rw[hl]at hz;simp only[List.length_cons]at hz;show(a==42&&b==46&&isB (c::r) 7 62)=false;unfold isB;rw[decide_eq_false (show¬(c::r).length≤62 from by rw[List.length_cons]; omega),Bool.false_and,Bool.false_and,Bool.and_false]
  rw[e];exact⟨(⟨#[]⟩:ByteArray),rfl⟩
 ·have eb:(decide ((s.size:Int)<3)||decide ((s.size:Int)>64))=false:=by
   rw[Bool.or_eq_false_iff,decide_eq_false_iff_not,decide_eq_false_iff_not]; omega
  rw[eb];match hl:toL s with
  | []=>rw[hl,List.length_nil]at hz; omega
  | [a]=>rw[hl,List.length_cons,List.length_nil]at hz; omega
  |a::b::r=>
   rw[hl,List.length_cons,List.length_cons]at hz;have ha:idx s.data.toList 0=some a:=by rw[show s.data.toList=a::b::r from hl]; rfl
   have hb:idx s.data.toList 1=some b:=by rw[show s.data.toList=a::b::r from hl]; rfl
   have ec2:Mh s 2 (s.size:Int)=some (s.extract 2 s.size):=by
    rw[F9 (by omega) (by omega) (by omega)]; rfl
   have el2:toL (s.extract 2 s.size)=r:=by
    rw[show toL (s.extract 2 s.size)=((toL s).take s.size).drop 2 from Jj s 2 s.size,List.take_of_length_le (by rw[hl,List.length_cons,List.length_cons]; omega),hl]; rfl
   have hz2:(s.extract 2 s.size).size=r.length:=by rw[←AF,←el2]; rfl
   have en:=Oj (s:=s.extract 2 s.size) (by omega);rw[el2]at en;obtain⟨l,e5,h5⟩:=UF (s:=s.extract 2 s.size) (by omega);rw[el2]at h5;have hlen:l.length=(BV r).length:=by rw[←h5,List.length_map]
   have e42:((a.toNat:Int) !=42)= !(a==42):=by
    show(!((a.toNat:Int)==42))=_;have:((a.toNat:Int)==42)=(a==42):=by
     rw[Bool.eq_iff_iff,beq_iff_eq,beq_iff_eq,←UInt8.toNat_inj];show _↔a.toNat=42;omega
    rw[this]
   have e46:((b.toNat:Int) !=46)= !(b==46):=by
    show(!((b.toNat:Int)==46))=_;have:((b.toNat:Int)==46)=(b==46):=by
     rw[Bool.eq_iff_iff,beq_iff_eq,beq_iff_eq,←UInt8.toNat_inj];show _↔b.toNat=46;omega
    rw[this]
   rw[ha,hb,ec2];rw[show gu (!false) (some a)=some a from rfl,Ab,e42];have hst:Vb (a::b::r)=(a==42&&b==46&&isB r 7 62):=rfl;rw[hst];cases a==42 with
   |false=>exact⟨_,rfl⟩
   |true=>
    rw[show gu (!(false|| !true)) (some b)=some b from rfl,Ab,e46];cases b==46 with
    |false=>exact⟨_,rfl⟩
    |true=>
     rw[show gu (!((false|| !true)|| !true)) (some (s.extract 2 s.size))=some (s.extract 2 s.size)from rfl,Ab,en,show gu (!((false|| !true)|| !true)) (some (isB r 8 64))=some (isB r 8 64)from rfl,Ab];have hr:r.length≤62:=by omega
     unfold isB;rw[decide_eq_true (show r.length≤64 from by omega),decide_eq_true (show r.length≤62 from hr),Bool.true_and,Bool.true_and,Bool.true_and];cases hal:QU r with
     |false=>rw[Bool.and_false,Bool.and_false]; exact⟨_,rfl⟩
     |true=>
      rw[Bool.and_true,Bool.and_true];by_cases h8:(BV r).length≤8
      ·rw[decide_eq_true h8,if_neg (by decide),Ab,e5,Ab];by_cases h7:(BV r).length≤7
       ·rw[decide_eq_false (show¬(l.length:Int)>7 from by omega),if_neg (by decide),Ab,decide_eq_true h7];exact⟨_,rfl⟩
       ·rw[decide_eq_true (show(l.length:Int)>7 from by omega),if_pos rfl,decide_eq_false h7];exact⟨_,rfl⟩
      ·rw[decide_eq_false h8,if_pos (by decide),decide_eq_false (show¬(BV r).length≤7 from by omega)];exact⟨_,rfl⟩
theorem Sr {s:ByteArray}(hs:s.size≤100000):El s=some (patV s):=by
 obtain⟨t,e⟩:=Acx hs;unfold El;rw[e,Ab,Oj hs,Aby];cases Vb (toL s)with
 |true=>rw[Bool.or_true]; rfl
 |false=>
  rw[Bool.or_false];show Ac (gu true (some (isB (toL s) 8 64))) _=_;rw[Kv,Ab];cases isB (toL s) 8 64<;>rfl
theorem ZP {s:ByteArray}(hs:s.size≤100000):Dy s=some (nameV s==0):=by
 rw[Oj hs,Y0];show _=some ((if isB (toL s) 8 64=true then(0:Int)else 110)==0);cases isB (toL s) 8 64<;>rfl
end Go.Proofs.YtbajlmaijjcbmaaGreatDoor
end
section
namespace Go.Proofs.YtbajlmaijjcbmaaGreatDoor
open Go Go.Gw Go.Ax
theorem Fk {α:Type}{l:List α}{i:Nat}{c:α}{r:List α}(h:l.drop i=c::r):l[i]? =some c∧l.drop (i+1)=r∧i<l.length:=by
 have h1:l[i]? =some c:=by
  have:(l.drop i)[0]? =some c:=by rw[h]; rfl
  simpa using this
 exact⟨h1,by rw[←List.drop_drop,h]; rfl,(List.getElem?_eq_some_iff.1 h1).1⟩
theorem FD {i:Nat}(h:i≤1000000):w64 ((i:Int)+1)=((i+1:Nat):Int):=by rw[E9 (by omega) (by omega)]; omega
def IG (c:UInt8):Bool:=decide (33≤c.toNat)&&decide (c.toNat≤126)
def Aa2 (l:List UInt8):Bool:=decide (1≤l.length)&&decide (l.length≤64)&&l.all IG
theorem Un {s:ByteArray}(hs:s.size≤100000): ∀(r:List UInt8) (i n:Nat),(toL s).drop i=r→r.length<n→∃(z:Nat),iter (Am s true) n i=some (if r.all IG=true then .inl z else .inr (z:Int))
 |r,i,0,_,h=>by omega
 | [],i,n+1,h,_=>by
  have hl:(toL s).length≤i:=List.drop_eq_nil_iff.1 h;have hz:(toL s).length=s.size:=AF s;have e:Am s true i=some (.inr (.inl i)):=by
   unfold Am;rw[if_neg (by omega)]
  refine⟨i,?_⟩;show Ac (Am s true i) _=_;rw[e]; rfl
 |c::r,i,n+1,h,hn=>by
  obtain⟨hc,hr,hlt⟩:=Fk h;have hz:(toL s).length=s.size:=AF s;obtain⟨z,ih⟩:=Un hs r (i+1) n hr (by rw[List.length_cons]at hn; omega);have e:Am s true i=some (if IG c=true then .inl (i+1)else .inr (.inr (i:Int))):=by
   unfold Am F4;rw[if_pos (show i<s.size from by omega),B9,B9,Ab];unfold IG;by_cases hb:c.toNat<128
   ·rw[AaA hc hb];have ec:(decide (((c.toNat:Nat):Int)≤32)||decide (((c.toNat:Nat):Int)>126))= !(decide (33≤c.toNat)&&decide (c.toNat≤126)):=by
     rw[Bool.eq_iff_iff];simp only[Bool.or_eq_true,Bool.not_eq_true',Bool.and_eq_false_iff,decide_eq_true_eq,decide_eq_false_iff_not];omega
    rw[ec];cases decide (33≤c.toNat)&&decide (c.toNat≤126)<;>rfl
   ·have hd:=AaB hc hb;generalize Utf8.decode s i=q at hd;rw[decide_eq_true (show((q.1:Nat):Int)>126 from by omega),Bool.or_true,decide_eq_false (show¬c.toNat≤126 from by omega),Bool.and_false];rfl
  rw[List.all_cons];cases hp:IG c with
  |false=>
   refine⟨i,?_⟩;show Ac (Am s true i) _=_;rw[e,hp]; rfl
  |true=>
   refine⟨z,?_⟩;show Ac (Am s true i) _=_;rw[e,hp,if_pos rfl,Bool.true_and];exact ih
theorem YA (s:ByteArray):textV s=Aa2 (toL s):=by
 have e:=SO s;have hz:(toL s).length=s.size:=AF s;unfold CT at e;have e0:(!eqS s (⟨#[]⟩:ByteArray))=decide (1≤(toL s).length):=by
  show(!((toL s)== []))=_;cases toL s with
  |nil=>rfl
  |cons a l=>rw[decide_eq_true (by rw[List.length_cons]; omega)]; rfl
 have e1:decide ((s.size:Int)≤64)=decide ((toL s).length≤64):=by rw[decide_eq_decide]; omega
 rw[e0,e1]at e;unfold Aa2;by_cases h:(toL s).length≤64
 ·obtain⟨z,hl⟩:=Un (s:=s) (by omega) (toL s) 0 A0 rfl (by have:=Bp; omega);have ec:A5 s=some (!((toL s).all IG)):=by
   unfold A5 B4 Bx;rw[hl];cases (toL s).all IG with
   |true=>rfl
   |false=>
    show some (decide ((z:Int)≥0))=_;rw[decide_eq_true (by omega)]; rfl
  rw[ec]at e;cases hd:decide (1≤(toL s).length)&&decide ((toL s).length≤64)with
  |false=>rw[hd]at e; exact(Option.some.inj e).symm
  |true=>
   rw[hd,Kv,Ab,B9,Bool.not_not]at e;exact(Option.some.inj e).symm
 ·rw[decide_eq_false h,Bool.and_false]at e⊢;exact(Option.some.inj e).symm
theorem NH {s:ByteArray}(hs:s.size≤100000): ∀(r:List UInt8) (i n:Nat),(toL s).drop i=r→r.length<n→iter (BD s) n (i:Int)=some (if r.all IG=true then .inl ()else .inr false)
 |r,i,0,_,h=>by omega
 | [],i,n+1,h,_=>by
  have hl:(toL s).length≤i:=List.drop_eq_nil_iff.1 h;have hz:(toL s).length=s.size:=AF s;have e:BD s (i:Int)=some (.inr (.inl ())):=by
   unfold BD;rw[decide_eq_false (by omega)];rfl
  show Ac (BD s (i:Int)) _=_;rw[e]; rfl
 |c::r,i,n+1,h,hn=>by
  obtain⟨hc,hr,hlt⟩:=Fk h;have hz:(toL s).length=s.size:=AF s;have ih:=NH hs r (i+1) n hr (by rw[List.length_cons]at hn; omega);have e:BD s (i:Int)=some (if IG c=true then .inl ((i+1:Nat):Int)else .inr (.inr false)):=by
   unfold BD;rw[decide_eq_true (by omega),if_pos rfl,show idx s.data.toList (i:Int)=some c from CG hc,Ab,FD (by omega)];unfold IG;have e33:decide ((c.toNat:Int)<33)= !decide (33≤c.toNat):=by rw[←decide_not,decide_eq_decide]; omega
   have e126:decide ((c.toNat:Int)>126)= !decide (c.toNat≤126):=by rw[←decide_not,decide_eq_decide]; omega
   rw[e33];cases decide (33≤c.toNat)with
   |false=>rfl
   |true=>
    rw[show gu (!(!true)) (some c)=some c from rfl,Ab,e126];cases decide (c.toNat≤126)<;>rfl
  show Ac (BD s (i:Int)) _=_;rw[e,List.all_cons];cases IG c with
  |false=>rfl
  |true=>rw[if_pos rfl,Bool.true_and]; exact ih
theorem RB {s:ByteArray}(hs:s.size≤100000):Fp s=some (textV s):=by
 have hz:(toL s).length=s.size:=AF s;have hl:=NH hs (toL s) 0 A0 rfl (by have:=Bp; omega);have hl:iter (BD s) A0 0=some (if(toL s).all IG=true then .inl ()else .inr false):=hl;rw[YA];unfold Fp Aa2;rw[hl];have e1:decide ((s.size:Int)≥1)=decide (1≤(toL s).length):=by rw[decide_eq_decide]; omega
 have e2:decide ((s.size:Int)≤64)=decide ((toL s).length≤64):=by rw[decide_eq_decide]; omega
 cases (toL s).all IG with
 |true=>
  show some (decide ((s.size:Int)≥1)&&decide ((s.size:Int)≤64))=_;rw[e1,e2,Bool.and_true]
 |false=>rw[Bool.and_false]; rfl
def W2:List ByteArray→List ByteArray→Bool
 |_,[]=>true
 |met,s::l=> !(met.any (eqS s))&&W2 (met++[s]) l
theorem N2 (right:ByteArray→Int): ∀(l met:List ByteArray),KK right met l=(l.all (fun s=>right s==0)&&W2 met l)
 | [],_=>rfl
 |s::l,met=>by
  show(!(met.any (eqS s))&&right s==0&&KK right (met++[s]) l)=((right s==0&&l.all (fun s=>right s==0))&&(!(met.any (eqS s))&&W2 (met++[s]) l));rw[N2 right l];cases met.any (eqS s)<;>cases right s==0<;>cases l.all (fun s=>right s==0)<;>rfl
theorem Zy (a b:ByteArray):eqS a b=eqS b a:=by
 rw[Bool.eq_iff_iff,KM,KM];exact eq_comm
theorem ZT {l:List ByteArray}{i:Nat}{x:ByteArray}(hx:l[i]? =some x)(hi:i≤100000): ∀(r:List ByteArray) (k n:Nat),(l.take i).drop k=r→k≤i→r.length<n→iter (A6 l (i:Int)) n (k:Int)=some (if r.any (eqS x)=true then .inr false else .inl ())
 |r,k,0,_,_,h=>by omega
 | [],k,n+1,h,hk,_=>by
  have hl:i<l.length:=(List.getElem?_eq_some_iff.1 hx).1;have h2:=List.drop_eq_nil_iff.1 h;rw[List.length_take]at h2;have e:A6 l (i:Int) (k:Int)=some (.inr (.inl ())):=by
   unfold A6;rw[decide_eq_false (by omega)];rfl
  show Ac (A6 l (i:Int) (k:Int)) _=_;rw[e]; rfl
 |c::r,k,n+1,h,hk,hn=>by
  have hl:i<l.length:=(List.getElem?_eq_some_iff.1 hx).1;obtain⟨hc,hr,hlt⟩:=Fk h;rw[List.length_take]at hlt;have hc':l[k]? =some c:=by
   rw[List.getElem?_take]at hc;rw[if_pos (by omega)]at hc;exact hc
  have ih:=ZT hx hi r (k+1) n hr (by omega) (by rw[List.length_cons]at hn; omega);have e:A6 l (i:Int) (k:Int)=some (if eqS x c=true then .inr (.inr false)else .inl ((k+1:Nat):Int)):=by
   unfold A6;rw[decide_eq_true (by omega),if_pos rfl,CG hc',Ab,CG hx,Ab,FD (by omega),Zy c x];cases eqS x c<;>rfl
  show Ac (A6 l (i:Int) (k:Int)) _=_;rw[e,List.any_cons];cases eqS x c with
  |true=>rfl
  |false=>rw[if_neg (by decide),Bool.false_or]; exact ih
theorem VR {l:List ByteArray}(hz:l.length≤100000): ∀(r:List ByteArray) (i n:Nat),l.drop i=r→r.length<n→iter (A7 l) n (i:Int)=some (if W2 (l.take i) r=true then .inl ()else .inr false)
 |r,i,0,_,h=>by omega
 | [],i,n+1,h,_=>by
  have hl:l.length≤i:=List.drop_eq_nil_iff.1 h;have e:A7 l (i:Int)=some (.inr (.inl ())):=by
   unfold A7;rw[decide_eq_false (by omega)];rfl
  show Ac (A7 l (i:Int)) _=_;rw[e]; rfl
 |c::r,i,n+1,h,hn=>by
  obtain⟨hc,hr,hlt⟩:=Fk h;have ih:=VR hz r (i+1) n hr (by rw[List.length_cons]at hn; omega);have hin:=ZT hc (by omega) (l.take i) 0 A0 rfl (by omega) (by have:=Bp; rw[List.length_take]; omega);have hin:iter (A6 l (i:Int)) A0 0=some (if(l.take i).any (eqS c)=true then .inr false else .inl ()):=hin;have e:A7 l (i:Int)=some (if(l.take i).any (eqS c)=true then .inr (.inr false)else .inl ((i+1:Nat):Int)):=by
   unfold A7;rw[decide_eq_true (by omega),if_pos rfl,hin,Ab,FD (by omega)];cases (l.take i).any (eqS c)<;>rfl
  have ht:l.take (i+1)=l.take i++[c]:=by rw[List.take_add_one,hc]; rfl
  show Ac (A7 l (i:Int)) _=_;rw[e];show _=some (if(!((l.take i).any (eqS c))&&W2 (l.take i++[c]) r)=true then _ else _);cases (l.take i).any (eqS c)with
  |true=>rfl
  |false=>
   rw[if_neg (by decide),←ht];exact ih
theorem OS {l:List ByteArray}(hz:l.length≤100000):DU l=some (W2 [] l):=by
 have h:=VR hz l 0 A0 rfl (by have:=Bp; omega);have h:iter (A7 l) A0 0=some (if W2 [] l=true then .inl ()else .inr false):=h;unfold DU;rw[h];cases W2 [] l<;>rfl
structure FewP (c:g_api_Cert):Prop where
 issuer:c.Issuer.size≤100000
 subject:c.Subject.size≤100000
 names: ∀s∈c.Names,s.size≤100000
 nnames:c.Names.length≤100000
 permit: ∀s∈c.Permit,s.size≤100000
 npermit:c.Permit.length≤100000
 nproms:c.Proms.length≤100000
theorem N1 {l:List ByteArray}: ∀(r:List ByteArray) (i n:Nat),l.drop i=r→i≤20→20-i<n→∀t,iter (Bm l) n (i:Int)=some t→t= .inl ()→∀s∈r.take (20-i),s.size≤200
 |r,i,0,_,_,h,_,_,_=>by omega
 | [],i,n+1,h,_,_,t,_,_=>by intro s hs; simp at hs
 |c::r,i,n+1,h,hi,hn,t,ht,ht2=>by
  obtain⟨hc,hr,hlt⟩:=Fk h;by_cases h20:i=20
  ·intro s hs; rw[h20]at hs; simp at hs
  have e:Bm l (i:Int)=some (if decide ((c.size:Int)>200)=true then .inr (.inr false)else .inl ((i+1:Nat):Int)):=by
   unfold Bm;rw[decide_eq_true (show(i:Int)<(l.length:Int)from by omega),decide_eq_true (show(i:Int)<20 from by omega),show(true&&true)=true from rfl,if_pos rfl,CG hc,Ab,FD (by omega)];cases decide ((c.size:Int)>200)<;>rfl
  obtain⟨y,hy,hq⟩:=Ao ht;rw[e]at hy;have hy:=Option.some.inj hy;cases hd:decide ((c.size:Int)>200)with
  |true=>
   rw[hd,if_pos rfl]at hy;subst hy;rcases hq with ⟨s',e',_⟩|e'
   ·cases e'
   ·rw[ht2]at e'; cases e'
  |false=>
   rw[hd,if_neg (by decide)]at hy;subst hy;rcases hq with ⟨s',e',ht'⟩|e'
   ·have e':=Sum.inl.inj e';subst e';have ih:=N1 r (i+1) n hr (by omega) (by omega) t ht' ht2;intro s hs;rw[show 20-i=(20-(i+1))+1 from by omega,List.take_succ_cons]at hs;rcases List.mem_cons.1 hs with q|q
    ·rw[q];have:=of_decide_eq_false hd;omega
    ·exact ih s q
   ·cases e'
theorem RQ {l:List ByteArray}(h:CJ l=some true):l.length≤16∧∀s∈l,s.size≤200:=by
 unfold CJ at h;obtain⟨t,ht,h⟩:=Aa h;cases t with
 |inr b=>
  have hb:b=true:=Option.some.inj h;subst hb;exfalso;have key: ∀(n:Nat) (i:Int) (t:Unit⊕Bool),iter (Bm l) n i=some t→t≠ .inr true:=by
   intro n;induction n with
   |zero=>intro i t h; cases h
   |succ n ih=>
    intro i t h;obtain⟨y,hy,hq⟩:=Ao h;unfold Bm at hy;split at hy
    ·obtain⟨x,hx,hy⟩:=Aa hy;split at hy
     ·cases hy;rcases hq with ⟨s',e',_⟩|e'
      ·cases e'
      ·cases e';intro q;cases q
     ·cases hy;rcases hq with ⟨s',e',h'⟩|e'
      ·exact ih _ t h'
      ·cases e'
    ·cases hy;rcases hq with ⟨s',e',_⟩|e'
     ·cases e'
     ·cases e';intro q;cases q
  exact key A0 0 _ ht rfl
 |inl u=>
  have hl:=of_decide_eq_true (Option.some.inj (AE h));have h20:=N1 l 0 A0 rfl (by decide) (by have:=Bp; omega) _ ht rfl;refine⟨by omega,fun s hs=>h20 s ?_⟩;rw[List.take_of_length_le (by omega)];exact hs
theorem few_ok {c:g_api_Cert}(h:Fc c=some true):FewP c:=by
 unfold Fc at h;obtain⟨x1,h1,h⟩:=Aa h;obtain⟨x2,h2,h⟩:=Aa h;have h:=Option.some.inj (AE h);simp only[Bool.and_eq_true,decide_eq_true_eq]at h;obtain⟨⟨⟨⟨q1,q2⟩,q3⟩,q4⟩,q5⟩:=h;subst q3 q4;rw[decide_eq_true q1,decide_eq_true q2]at h1 h2;obtain⟨a1,a2⟩:=RQ h1;obtain⟨b1,b2⟩:=RQ h2;exact⟨by omega,by omega,fun s hs=>Nat.le_trans (a2 s hs) (by decide),by omega,fun s hs=>Nat.le_trans (b2 s hs) (by decide),by omega,by omega⟩
end Go.Proofs.YtbajlmaijjcbmaaGreatDoor
end
section
namespace Go.Proofs.YtbajlmaijjcbmaaGreatDoor
open Go Go.Gw Go.Ax
def OB (a:UInt8)(rest:Int):Bool:=(rest==0&&decide (a.toNat<128))||(rest== -1&&decide (128≤a.toNat))
theorem Zd (a:UInt8)(l:List UInt8)(rest:Int)(hl:l.length≤100):De (a::l,rest)=some (if OB a rest=true then .inr (a::l)else .inl (toB rest::a::l,rest/256)):=by
 unfold De OB;show Ac (gu (rest==0) (idx (a::l) 0)) _=_;rw[show idx (a::l) 0=some a from rfl];have e1:decide ((a.toNat:Int)<128)=decide (a.toNat<128):=by rw[decide_eq_decide]; omega
 have e2:decide ((a.toNat:Int)≥128)=decide (128≤a.toNat):=by rw[decide_eq_decide]; omega
 have ea:app 1 ([toB rest]:List UInt8) (a::l)=some (toB rest::a::l):=by
  rw[Im 1 (by simp only[List.length_cons,List.length_nil]; omega) (by simp only[List.length_cons,List.length_nil]; omega)]; rfl
 cases h0:rest==0 with
 |true=>
  have hr:rest=0:=by simpa using h0
  have h1:(rest== -1)=false:=by rw[hr]; rfl
  rw[Kv,Ab,h1];show Ac (gu ((!(true&&decide ((a.toNat:Int)<128)))&&false) (some a)) _=_;rw[Bool.and_false,R0,Ab,e1];cases decide (a.toNat<128)with
  |true=>rfl
  |false=>
   show Ac (app 1 ([toB rest]:List UInt8) (a::l)) _=_;rw[ea,Ab,P8];rfl
 |false=>
  rw[R0,Ab];show Ac (gu ((!(false&&_))&&(rest== -1)) (some a)) _=_;cases h1:rest== -1 with
  |true=>
   show Ac (some a) _=_;rw[Ab,e2];cases decide (128≤a.toNat)with
   |true=>rfl
   |false=>
    show Ac (app 1 ([toB rest]:List UInt8) (a::l)) _=_;rw[ea,Ab,P8];rfl
  |false=>
   show Ac (some default) _=_;rw[Ab];show Ac (app 1 ([toB rest]:List UInt8) (a::l)) _=_;rw[ea,Ab,P8];rfl
theorem V3 {a:UInt8}{l:List UInt8}{rest:Int}(h:OB a rest=true):Yo (a::l)=Ru rest (a::l):=by
 show Ru (s8 a) l=Ru (rest*256+(a.toNat:Int)) l;congr 1;have ha:=a.toNat_lt;unfold OB at h;simp only[Bool.or_eq_true,Bool.and_eq_true,beq_iff_eq,decide_eq_true_eq]at h;unfold s8;rcases h with ⟨h1,h2⟩|⟨h1,h2⟩
 ·rw[if_pos h2,h1]; omega
 ·rw[if_neg (by omega),h1]; omega
theorem U9 {a c:UInt8}{l:List UInt8}{rest:Int}(hl:l.length≤6)(h:OB a rest=true)(hp:OB c (rest*256+(a.toNat:Int))=false):He (a::c::l)=true:=by
 cases hq:He (a::c::l)with
 |true=>rfl
 |false=>
  have hs:=(RT hl).1 hq;have ha:=a.toNat_lt;exfalso;unfold OB at h hp;simp only[Bool.or_eq_true,Bool.and_eq_true,beq_iff_eq,decide_eq_true_eq]at h;simp only[Bool.or_eq_false_iff,Bool.and_eq_false_iff,beq_eq_false_iff_ne,decide_eq_false_iff_not]at hp;by_cases hc:c.toNat<128
  ·rw[if_pos hc]at hs;omega
  ·rw[if_neg hc]at hs;omega
theorem Ux: ∀(k:Nat) (a:UInt8) (l:List UInt8) (rest n:Int) (f:Nat),(a::l).length+k=8→k<f→ -(128*256^k)≤rest*256+(a.toNat:Int)→rest*256+(a.toNat:Int)<128*256^k→
  Ru rest (a::l)=n→(∀c r,l=c::r→OB c (rest*256+(a.toNat:Int))=false)→iter De f (a::l,rest)=some (Ry (be8 n))
 |k,a,l,rest,n,0,_,h,_,_,_,_=>by omega
 |k,a,l,rest,n,f+1,hk,hf,h0,h1,hv,hp=>by
  have hlen:l.length+1+k=8:=by simpa using hk
  show Ac (De (a::l,rest)) _=_;rw[Zd a l rest (by omega)];cases hs:OB a rest with
  |true=>
   have hl:He (a::l)=true:=by
    cases l with
    |nil=>rfl
    |cons c r=>exact U9 (by rw[List.length_cons]at hlen; omega) hs (hp c r rfl)
   have:=Y8 hl;rw[V3 hs,hv]at this;rw[this];rfl
  |false=>
   rw[if_neg (by decide)];cases k with
   |zero=>
    exfalso;have ha:=a.toNat_lt;rw[Int.pow_zero]at h0 h1;unfold OB at hs;simp only[Bool.or_eq_false_iff,Bool.and_eq_false_iff,beq_eq_false_iff_ne,decide_eq_false_iff_not]at hs;omega
   |succ k=>
    have hb:=LQ rest;have hq:rest/256*256+((toB rest).toNat:Int)=rest:=by omega
    have ha:=a.toNat_lt;rw[Int.pow_succ]at h0 h1;refine Ux k (toB rest) (a::l) (rest/256) n f (by simp only[List.length_cons]; omega) (by omega) ?_ ?_ ?_ ?_
    ·rw[hq]; omega
    ·rw[hq]; omega
    ·show Ru (rest/256*256+((toB rest).toNat:Int)) (a::l)=n;rw[hq]; exact hv
    ·intro c r e;cases e;rw[hq]; exact hs
theorem Jg {n:Int}(h0: -9223372036854775808≤n)(h1:n≤9223372036854775807):B6 n=some (On n):=by
 have hb:=LQ n;have hq:n/256*256+((toB n).toNat:Int)=n:=by omega
 have e:=Ux 7 (toB n) [] (n/256) n A0 (by simp) (by have:=Bp; omega) (by rw[hq]; show-(128*72057594037927936)≤n; omega) (by rw[hq]; show n<128*72057594037927936; omega) (by show n/256*256+((toB n).toNat:Int)=n; exact hq) (fun c r e=>by cases e);unfold B6;rw[P8,e];rfl
theorem QR (x:UInt64):B6 (w64 (x.toNat:Int))=some (Mj x):=by
 have:=ZS (x.toNat:Int);have h2: -9223372036854775808≤w64 (x.toNat:Int):=by unfold w64; omega
 exact Jg h2 (by omega)
theorem MT {l:List g_api_Item}(h:l.length≤1000000):Eo l=some (OX l):=by
 unfold Eo;rw[KR 56 (by omega) (by omega)]; rfl
theorem Aa8 {l:List g_api_Item}(h:l.length≤1000000):FM l=some (OX l):=by
 unfold FM;rw[KR 56 (by omega) (by omega)]; rfl
theorem NJ {s:ByteArray}(h:s.size≤1000000):En s=some (HD s):=by
 unfold En;rw[KR 1 (by rw[AF]; omega) (by rw[AF]; omega)]; rfl
theorem XZ (v:Bool):Ig v=some (QP v):=by cases v<;>rfl
theorem Mw {l:List ByteArray}(hz: ∀s∈l,s.size≤100000)(hn:l.length≤100000): ∀(r:List ByteArray) (i f:Nat) (o:List g_api_Item),l.drop i=r→r.length<f→o.length≤i→iter (A3 l) f ((i:Int),o)=some (o++r.map HD)
 |r,i,0,o,_,h,_=>by omega
 | [],i,f+1,o,h,_,_=>by
  have hl:l.length≤i:=List.drop_eq_nil_iff.1 h;have e:A3 l ((i:Int),o)=some (.inr o):=by
   unfold A3;show(if decide ((i:Int)<(l.length:Int))=true then _ else _)=_;rw[decide_eq_false (by omega)];rfl
  show Ac (A3 l ((i:Int),o)) _=_;rw[e];simp
 |s::r,i,f+1,o,h,hf,ho=>by
  obtain⟨hc,hr,hlt⟩:=Fk h;have e:A3 l ((i:Int),o)=some (.inl (((i+1:Nat):Int),o++[HD s])):=by
   unfold A3;show(if decide ((i:Int)<(l.length:Int))=true then _ else _)=_;rw[decide_eq_true (by omega),if_pos rfl];show Ac (idx l (i:Int)) _=_;rw[CG hc,Ab,NJ (by have:=hz s (List.mem_of_getElem? hc); omega),Ab];show Ac (app 56 o [HD s]) _=_;rw[Im 56 (by show(o.length+1)*56≤_; omega) (by show o.length+1≤_; omega),Ab,FD (by omega)]
  show Ac (A3 l ((i:Int),o)) _=_;rw[e];show iter (A3 l) f (((i+1:Nat):Int),o++[HD s])=_;rw[Mw hz hn r (i+1) f (o++[HD s]) hr (by rw[List.length_cons]at hf; omega) (by rw[List.length_append]; show o.length+1≤_; omega)];simp
theorem OV {l:List ByteArray}(hz: ∀s∈l,s.size≤100000)(hn:l.length≤100000):EG l=some (Ks l):=by
 have h:=Mw hz hn l 0 A0 [] rfl (by have:=Bp; omega) (by simp);have h:iter (A3 l) A0 (0,[])=some (l.map HD):=h;unfold EG;rw[h];rfl
structure Fits (c:g_api_Cert):Prop where
 few:FewP c
 serial: -9223372036854775808≤c.Serial∧c.Serial≤9223372036854775807
 frm: -9223372036854775808≤c.From∧c.From≤9223372036854775807
 til: -9223372036854775808≤c.Until∧c.Until≤9223372036854775807
 depth: -9223372036854775808≤c.Depth∧c.Depth≤9223372036854775807
 proms: ∀p∈c.Proms,(-9223372036854775808≤p.Log∧p.Log≤9223372036854775807)∧(-9223372036854775808≤p.At∧p.At≤9223372036854775807)
theorem YS {c:g_api_Cert}(h:Fits c):HI c=some (YR c):=by
 have k:=h.few;have k1:=k.issuer; have k2:=k.subject; have k3:=k.nnames; have k4:=k.npermit;unfold HI;rw[Jg h.serial.1 h.serial.2,Ab,NJ (s:=c.Issuer) (by omega),Ab,NJ (s:=c.Subject) (by omega),Ab,QR,Ab,OV (l:=c.Names) (fun s hs=>by have:=k.names s hs; omega) (by omega),Ab,Jg h.frm.1 h.frm.2,Ab,
  Jg h.til.1 h.til.2,Ab,XZ,Ab,Jg h.depth.1 h.depth.2,Ab,OV (l:=c.Permit) (fun s hs=>by have:=k.permit s hs; omega) (by omega),Ab,MT (by simp),Ab]
 rfl
theorem VS (a b:UInt64):Fb a b=some [Mj a,Mj b]:=by
 unfold Fb;rw[QR,Ab,QR,Ab]
theorem Og {c:g_api_Cert}(h:Fits c): ∀(r:List g_api_Promise) (i f:Nat) (o:List g_api_Item),c.Proms.drop i=r→r.length<f→o.length≤i→iter (Bh c) f ((i:Int),o)=some (o++r.map JN)
 |r,i,0,o,_,h,_=>by omega
 | [],i,f+1,o,h,_,_=>by
  have hl:c.Proms.length≤i:=List.drop_eq_nil_iff.1 h;have e:Bh c ((i:Int),o)=some (.inr o):=by
   unfold Bh;show(if decide ((i:Int)<(c.Proms.length:Int))=true then _ else _)=_;rw[decide_eq_false (by omega)];rfl
  show Ac (Bh c ((i:Int),o)) _=_;rw[e];simp
 |p::r,i,f+1,o,hd,hf,ho=>by
  obtain⟨hc,hr,hlt⟩:=Fk hd;have hp:=h.proms p (List.mem_of_getElem? hc);have hn:=h.few.nproms;have e:Bh c ((i:Int),o)=some (.inl (((i+1:Nat):Int),o++[JN p])):=by
   unfold Bh;show(if decide ((i:Int)<(c.Proms.length:Int))=true then _ else _)=_;rw[decide_eq_true (by omega),if_pos rfl];show Ac (idx c.Proms (i:Int)) _=_;rw[CG hc,Ab,Jg hp.1.1 hp.1.2,Ab,Jg hp.2.1 hp.2.2,Ab,Aa8 (by simp),Ab,VS,Ab];show Ac (app 56 [On p.Log,On p.At] [Mj p.Leaf.1,Mj p.Leaf.2]) _=_;rw[Im 56 (by simp) (by simp),Ab,VS,Ab,Im 56 (by simp) (by simp),Ab];show Ac (app 56 o [JN p]) _=_;rw[Im 56 (by show(o.length+1)*56≤_; omega) (by show o.length+1≤_; omega),Ab,FD (by omega)]
  show Ac (Bh c ((i:Int),o)) _=_;rw[e];show iter (Bh c) f (((i+1:Nat):Int),o++[JN p])=_;rw[Og h r (i+1) f (o++[JN p]) hr (by rw[List.length_cons]at hf; omega) (by rw[List.length_append]; show o.length+1≤_; omega)];simp
theorem Sk {c:g_api_Cert}(h:Fits c):Fo c=some (KQ c):=by
 have hn:=h.few.nproms;have hl:=Og h c.Proms 0 A0 [] rfl (by have:=Bp; omega) (by simp);have hl:iter (Bh c) A0 (0,[])=some (c.Proms.map JN):=hl;unfold Fo;rw[hl,Ab,Ab,YS h,Ab,MT (by simp),Ab];rfl
theorem UW {c:g_api_Cert}(h:Fits c):FJ c=some (wholeI c):=by
 unfold FJ;rw[Sk h,Ab,VS,Ab,MT (by simp),Ab,MT (by simp),Ab];rfl
end Go.Proofs.YtbajlmaijjcbmaaGreatDoor
end
section
namespace Go.Proofs.YtbajlmaijjcbmaaGreatDoor
open Go Go.Gw Go.Ax
theorem Ln (n:Int):Ej n=some (numB n):=rfl
theorem Uu (a b:UInt64)(n:Nat):decide ((NW a b).toNat<n)=(decide (a.toNat<n)&&decide (b.toNat<n)):=by
 rw[Bool.eq_iff_iff,Bool.and_eq_true,decide_eq_true_eq,decide_eq_true_eq,decide_eq_true_eq];unfold NW;by_cases hc:b>a
 ·rw[if_pos hc];have:=UInt64.lt_iff_toNat_lt.1 hc;omega
 ·rw[if_neg hc];have: ¬a.toNat<b.toNat:=fun x=>hc (UInt64.lt_iff_toNat_lt.2 x);omega
theorem Qt (x:UInt64)(n:Nat):decide ((x.toNat:Int)<(n:Int))=decide (x.toNat<n):=by rw[decide_eq_decide]; omega
theorem T6 (s:g_api_Sig):DV s=some (sigB s):=by
 have e1:decide ((s.E.toNat:Int)<1152921504606845789)=decide (s.E.toNat<1152921504606845789):=Qt s.E 1152921504606845789;have e2:decide ((s.S.toNat:Int)<1152921504606845789)=decide (s.S.toNat<1152921504606845789):=Qt s.S 1152921504606845789;unfold DV sigB;rw[B9,Uu,e1,e2]
theorem WQ (p:g_api_Promise):Ek p=some (promBC p):=by
 have e1:decide ((p.Leaf.1.toNat:Int)<2305843009213693951)=decide (p.Leaf.1.toNat<2305843009213693951):=Qt p.Leaf.1 2305843009213693951;have e2:decide ((p.Leaf.2.toNat:Int)<2305843009213693951)=decide (p.Leaf.2.toNat<2305843009213693951):=Qt p.Leaf.2 2305843009213693951;unfold Ek promBC;rw[Ln,Ab,Ln,QZ,Ab,T6,QZ,Ab,B9,Uu,e1,e2];cases numB p.Log<;>cases numB p.At<;>cases decide (p.Leaf.1.toNat<2305843009213693951)<;>cases decide (p.Leaf.2.toNat<2305843009213693951)<;>cases sigB p.Sig<;>rfl
theorem MB {c:g_api_Cert}(hz: ∀s∈c.Names,s.size≤100000)(hn:c.Names.length≤100000): ∀(r:List ByteArray) (i f:Nat),c.Names.drop i=r→r.length<f→iter (BB c) f (i:Int)=some (if r.all (fun s=>nameV s==0)=true then .inl ()else .inr false)
 |r,i,0,_,h=>by omega
 | [],i,f+1,h,_=>by
  have hl:c.Names.length≤i:=List.drop_eq_nil_iff.1 h;have e:BB c (i:Int)=some (.inr (.inl ())):=by
   unfold BB;rw[decide_eq_false (by omega)];rfl
  show Ac (BB c (i:Int)) _=_;rw[e]; rfl
 |s::r,i,f+1,h,hf=>by
  obtain⟨hc,hr,hlt⟩:=Fk h;have ih:=MB hz hn r (i+1) f hr (by rw[List.length_cons]at hf; omega);have e:BB c (i:Int)=some (if(nameV s==0)=true then .inl ((i+1:Nat):Int)else .inr (.inr false)):=by
   unfold BB;rw[decide_eq_true (by omega),if_pos rfl,CG hc,Ab,ZP (hz s (List.mem_of_getElem? hc)),Ab,FD (by omega)];cases nameV s==0<;>rfl
  show Ac (BB c (i:Int)) _=_;rw[e,List.all_cons];cases nameV s==0 with
  |false=>rfl
  |true=>rw[if_pos rfl,Bool.true_and]; exact ih
theorem Lj {c:g_api_Cert}(hz: ∀s∈c.Permit,s.size≤100000)(hn:c.Permit.length≤100000): ∀(r:List ByteArray) (i f:Nat),c.Permit.drop i=r→r.length<f→iter (BA c) f (i:Int)=some (if r.all (fun s=>patV s==0)=true then .inl ()else .inr false)
 |r,i,0,_,h=>by omega
 | [],i,f+1,h,_=>by
  have hl:c.Permit.length≤i:=List.drop_eq_nil_iff.1 h;have e:BA c (i:Int)=some (.inr (.inl ())):=by
   unfold BA;rw[decide_eq_false (by omega)];rfl
  show Ac (BA c (i:Int)) _=_;rw[e]; rfl
 |s::r,i,f+1,h,hf=>by
  obtain⟨hc,hr,hlt⟩:=Fk h;have ih:=Lj hz hn r (i+1) f hr (by rw[List.length_cons]at hf; omega);have e:BA c (i:Int)=some (if(patV s==0)=true then .inl ((i+1:Nat):Int)else .inr (.inr false)):=by
   unfold BA;rw[decide_eq_true (by omega),if_pos rfl,CG hc,Ab,Sr (hz s (List.mem_of_getElem? hc)),Ab,FD (by omega)];show(if(!(patV s==0))=true then _ else _)=_;cases patV s==0<;>rfl
  show Ac (BA c (i:Int)) _=_;rw[e,List.all_cons];cases patV s==0 with
  |false=>rfl
  |true=>rw[if_pos rfl,Bool.true_and]; exact ih
def Za (c:g_api_Cert):Bool:=if c.Ca=true then textV c.Subject&&((c.Names.length:Int)==0)&&decide (c.Depth≥0)&&decide (c.Depth≤4)&&listV patV c.Permit 0 8 else eqS c.Subject (⟨#[]⟩:ByteArray)&&listV nameV c.Names 1 8&&(c.Depth==0)&&((c.Permit.length:Int)==0)
theorem Xh {c:g_api_Cert}(h:FewP c):GW c=some (Za c):=by
 have h1:=h.nnames; have h2:=h.npermit; have h3:=h.subject;unfold GW Za;cases c.Ca with
 |false=>
  have hl:=MB (c:=c) (fun s hs=>by have:=h.names s hs; omega) (by omega) c.Names 0 A0 rfl (by have:=Bp; omega);have hl:iter (BB c) A0 0=some (if c.Names.all (fun s=>nameV s==0)=true then .inl ()else .inr false):=hl;show(if(!false)=true then _ else _)=some (eqS c.Subject (⟨#[]⟩:ByteArray)&&(KK nameV [] c.Names&&decide ((c.Names.length:Int)≥1)&&decide ((c.Names.length:Int)≤8))&&(c.Depth==0)&&((c.Permit.length:Int)==0));rw[if_pos (show(!false)=true from rfl),hl,OS (by omega),N2];cases c.Names.all (fun s=>nameV s==0)with
  |false=>
   show some false=_;rw[Bool.false_and,Bool.false_and,Bool.false_and,Bool.and_false,Bool.false_and,Bool.false_and]
  |true=>
   rw[if_pos (show true=true from rfl),Ab];show Ac (gu _ (some (W2 [] c.Names))) _=_;rw[QZ,Ab,B9,Bool.true_and];cases eqS c.Subject (⟨#[]⟩:ByteArray)<;>cases decide ((c.Names.length:Int)≥1)<;>cases decide ((c.Names.length:Int)≤8)<;>cases W2 [] c.Names<;>rfl
 |true=>
  have hl:=Lj (c:=c) (fun s hs=>by have:=h.permit s hs; omega) (by omega) c.Permit 0 A0 rfl (by have:=Bp; omega);have hl:iter (BA c) A0 0=some (if c.Permit.all (fun s=>patV s==0)=true then .inl ()else .inr false):=hl;show(if(!true)=true then _ else _)=some (textV c.Subject&&((c.Names.length:Int)==0)&&decide (c.Depth≥0)&&decide (c.Depth≤4)&&(KK patV [] c.Permit&&decide ((c.Permit.length:Int)≥0)&&decide ((c.Permit.length:Int)≤8)));rw[if_neg (show¬(!true)=true from by decide),hl,OS (by omega),RB (by omega),N2,decide_eq_true (show(c.Permit.length:Int)≥0 from by omega)];cases c.Permit.all (fun s=>patV s==0)with
  |false=>
   show some false=_;rw[Bool.false_and,Bool.false_and,Bool.false_and,Bool.and_false]
  |true=>
   rw[if_pos (show true=true from rfl),Ab];show Ac (some (textV c.Subject)) _=_;rw[Ab,QZ,Ab,B9,Bool.true_and];cases textV c.Subject<;>cases ((c.Names.length:Int)==0)<;>cases decide (c.Depth≥0)<;>cases decide (c.Depth≤4)<;>cases decide ((c.Permit.length:Int)≤8)<;>cases W2 [] c.Permit<;>rfl
theorem WO {p:g_api_Promise}(h:promBC p=true):0≤p.Log:=by
 unfold promBC at h;simp only[Bool.and_eq_true]at h;have:=h.1.1.1;unfold numB at this;simp only[Bool.and_eq_true,decide_eq_true_eq]at this;omega
theorem MA {c:g_api_Cert}(hn:c.Proms.length≤100000): ∀(r:List g_api_Promise) (i f:Nat) (last:Int),c.Proms.drop i=r→r.length<f→(i=0→last= -1)→(1≤i→∃q,c.Proms[i-1]? =some q∧q.Log=last)→
  iter (BC c) f (i:Int)=some (if promsB last r=true then .inl ()else .inr false)
 |r,i,0,last,_,h,_,_=>by omega
 | [],i,f+1,last,h,_,_,_=>by
  have hl:c.Proms.length≤i:=List.drop_eq_nil_iff.1 h;have e:BC c (i:Int)=some (.inr (.inl ())):=by
   unfold BC;rw[decide_eq_false (by omega)];rfl
  show Ac (BC c (i:Int)) _=_;rw[e]; rfl
 |p::r,i,f+1,last,h,hf,l0,l1=>by
  obtain⟨hc,hr,hlt⟩:=Fk h;have ih:=MA hn r (i+1) f p.Log hr (by rw[List.length_cons]at hf; omega) (by omega) (fun _=>⟨p,hc,rfl⟩);have e:BC c (i:Int)=some (if(promBC p&& !(decide (p.Log≤last)))=true then .inl ((i+1:Nat):Int)else .inr (.inr false)):=by
   unfold BC;rw[decide_eq_true (show(i:Int)<(c.Proms.length:Int)from by omega),if_pos rfl,CG hc,Ab,WQ,Ab,FD (by omega)];cases hp:promBC p with
   |false=>rfl
   |true=>
    by_cases h0:i=0
    ·have hl:=l0 h0;have hpl:=(WO hp);rw[decide_eq_false (show¬(i:Int)>0 from by omega),decide_eq_false (show¬p.Log≤last from by omega)];rfl
    ·obtain⟨q,hq,hql⟩:=l1 (by omega);have hw:w64 ((i:Int)-1)=((i-1:Nat):Int):=by rw[E9 (by omega) (by omega)]; omega
     rw[decide_eq_true (show(i:Int)>0 from by omega),hw,CG hq];show Ac (some q) (fun x10=>Ac (some p) fun x11=>if((!true)||(true&&decide (x10.Log≥x11.Log)))=true then some (.inr (.inr false):Int⊕(Unit⊕Bool))else some (.inl ((i+1:Nat):Int)))=_;rw[Ab,Ab,hql];have:decide (last≥p.Log)=decide (p.Log≤last):=rfl;rw[this];cases decide (p.Log≤last)<;>rfl
  show Ac (BC c (i:Int)) _=_;rw[e];show _=some (if(promBC p&& !(decide (p.Log≤last))&&promsB p.Log r)=true then _ else _);cases promBC p&& !(decide (p.Log≤last))with
  |false=>rfl
  |true=>rw[if_pos rfl,Bool.true_and]; exact ih
theorem Xy {c:g_api_Cert}(h:FewP c):GX c=some (formB c):=by
 have h1:=h.issuer; have h2:=h.nproms;have hl:=MA (c:=c) (by omega) c.Proms 0 A0 (-1) rfl (by have:=Bp; omega) (fun _=>rfl) (fun h=>by omega);have hl:iter (BC c) A0 0=some (if promsB (-1) c.Proms=true then .inl ()else .inr false):=hl;have eF:formB c=(promsB (-1) c.Proms&&(numB c.Serial&&numB c.From&&numB c.Until&&decide (c.From<c.Until))&&
  (textV c.Issuer&&(!((c.Key.toNat:Int)==0))&&decide ((c.Key.toNat:Int)<2305843009213691579)&&decide ((c.Proms.length:Int)≤4)&&sigB c.Sig)&&Za c):=rfl
 have e1:decide (c.From≥c.Until)= !decide (c.From<c.Until):=by rw[←decide_not,decide_eq_decide]; omega
 have e2:decide ((c.Key.toNat:Int)≥2305843009213691579)= !decide ((c.Key.toNat:Int)<2305843009213691579):=by rw[←decide_not,decide_eq_decide]; omega
 have e3:decide ((c.Proms.length:Int)>4)= !decide ((c.Proms.length:Int)≤4):=by rw[←decide_not,decide_eq_decide]; omega
 have e4:decide ((c.Key.toNat:Int)<1)=((c.Key.toNat:Int)==0):=by
  rw[Bool.eq_iff_iff,decide_eq_true_eq,beq_iff_eq]; omega
 rw[eF];unfold GX;rw[Ln,Ab,Ln,QZ,Ab,Ln,QZ,Ab,RB (by omega),QZ,Ab,T6,QZ,Ab,hl,Xh h,e1,e2,e3,e4];generalize numB c.Serial=a1;generalize numB c.From=a2;generalize numB c.Until=a3;generalize decide (c.From<c.Until)=a4;generalize textV c.Issuer=b1;generalize ((c.Key.toNat:Int)==0)=b2;generalize decide ((c.Key.toNat:Int)<2305843009213691579)=b3;generalize decide ((c.Proms.length:Int)≤4)=b4;generalize sigB c.Sig=b5;generalize Za c=k;generalize promsB (-1) c.Proms=p;cases a1<;>cases a2<;>cases a3<;>cases a4<;>try (cases p<;>rfl)
 all_goals cases b1<;>cases b2<;>cases b3<;>cases b4<;>cases b5<;>cases p<;>try rfl
 all_goals cases k<;>rfl
end Go.Proofs.YtbajlmaijjcbmaaGreatDoor
end
section
namespace Go.Proofs.YtbajlmaijjcbmaaGreatDoor
open Go Go.Gw Go.Ax
theorem Vm (l:List UInt8):FL l=some (He l):=by
 match l with
 | []=>rfl
 | [a]=>rfl
 |a::b::l=>
  unfold FL;by_cases h8:(a::b::l).length≤8
  ·have e0:(decide (((a::b::l).length:Int)<1)||decide (((a::b::l).length:Int)>8))=false:=by
    rw[Bool.or_eq_false_iff,decide_eq_false_iff_not,decide_eq_false_iff_not];simp only[List.length_cons]at h8⊢;omega
   have e1:(((a::b::l).length:Int)==1)=false:=by simp only[beq_eq_false_iff_ne,List.length_cons]; omega
   have i0:idx (a::b::l) 0=some a:=rfl;have i1:idx (a::b::l) 1=some b:=rfl;have el:He (a::b::l)= !((a.toNat:Int)==if b.toNat<128 then 0 else 255):=by
    show(decide (((a::b::l).length:Int)≤8)&& !((a.toNat:Int)==((toB (-((Vw b 7).toNat:Int))).toNat:Int)))=_;rw[RD,decide_eq_true (show((a::b::l).length:Int)≤8 from by omega),Bool.true_and]
   rw[e0,if_neg (by decide),e1,i0,i1,el];rw[show gu (!false) (some a)=some a from rfl,Ab];have ha:=a.toNat_lt;cases hz:((a.toNat:Int)==0)with
   |true=>
    have hz':(a.toNat:Int)=0:=by simpa using hz
    have h255:((a.toNat:Int)==255)=false:=by rw[beq_eq_false_iff_ne]; omega
    rw[show gu ((!false)&&true) (some b)=some b from rfl,Ab];by_cases hb:b.toNat<128
    ·rw[decide_eq_true (show(b.toNat:Int)<128 from by omega),if_pos hb,hz];rfl
    ·rw[decide_eq_false (show¬(b.toNat:Int)<128 from by omega),if_neg hb,h255];rw[show gu ((!false)&&(!(true&&false))) (some a)=some a from rfl,Ab,h255];rfl
   |false=>
    rw[show gu ((!false)&&false) (some b)=some default from rfl,Ab];rw[show gu ((!false)&&(!(false&&decide (((default:UInt8).toNat:Int)<128)))) (some a)=some a from rfl,Ab];cases h255:((a.toNat:Int)==255)with
    |true=>
     rw[show gu (((!false)&&(!(false&&decide (((default:UInt8).toNat:Int)<128))))&&true) (some b)=some b from rfl,Ab,B9];by_cases hb:b.toNat<128
     ·rw[decide_eq_false (show¬(b.toNat:Int)≥128 from by omega),if_pos hb,hz];rfl
     ·rw[decide_eq_true (show(b.toNat:Int)≥128 from by omega),if_neg hb,h255];rfl
    |false=>
     rw[show gu (((!false)&&(!(false&&decide (((default:UInt8).toNat:Int)<128))))&&false) (some b)=some default from rfl,Ab,B9];by_cases hb:b.toNat<128
     ·rw[if_pos hb,hz]; rfl
     ·rw[if_neg hb,h255]; rfl
  ·have e0:(decide (((a::b::l).length:Int)<1)||decide (((a::b::l).length:Int)>8))=true:=by
    rw[Bool.or_eq_true,decide_eq_true_eq,decide_eq_true_eq]; omega
   rw[e0,if_pos rfl];show some false=some (decide (((a::b::l).length:Int)≤8)&&_);rw[decide_eq_false (by omega),Bool.false_and]
theorem NI {l:List UInt8}(hn:l.length≤1000000): ∀(r:List UInt8) (i f:Nat),l.drop i=r→r.length<f→iter (BE l) f (i:Int)=some (if IF r=true then .inl ()else .inr false)
 |r,i,0,_,h=>by omega
 | [],i,f+1,h,_=>by
  have hl:l.length≤i:=List.drop_eq_nil_iff.1 h;have e:BE l (i:Int)=some (.inr (.inl ())):=by
   unfold BE;rw[decide_eq_false (by omega)];rfl
  show Ac (BE l (i:Int)) _=_;rw[e]; rfl
 |c::r,i,f+1,h,hf=>by
  obtain⟨hc,hr,hlt⟩:=Fk h;have ih:=NI hn r (i+1) f hr (by rw[List.length_cons]at hf; omega);have e:BE l (i:Int)=some (if(decide (32≤c.toNat)&&decide (c.toNat≤126))=true then .inl ((i+1:Nat):Int)else .inr (.inr false)):=by
   unfold BE;rw[decide_eq_true (by omega),if_pos rfl,CG hc,Ab,FD (by omega)];have e33:decide ((c.toNat:Int)<32)= !decide (32≤c.toNat):=by rw[←decide_not,decide_eq_decide]; omega
   have e126:decide ((c.toNat:Int)>126)= !decide (c.toNat≤126):=by rw[←decide_not,decide_eq_decide]; omega
   rw[e33];cases decide (32≤c.toNat)with
   |false=>rfl
   |true=>
    rw[show gu (!(!true)) (some c)=some c from rfl,Ab,e126];cases decide (c.toNat≤126)<;>rfl
  show Ac (BE l (i:Int)) _=_;rw[e];show _=some (if((decide (32≤c.toNat)&&decide (c.toNat≤126))&&IF r)=true then _ else _);cases decide (32≤c.toNat)&&decide (c.toNat≤126)with
  |false=>rfl
  |true=>rw[if_pos rfl,Bool.true_and]; exact ih
theorem YB {l:List UInt8}(hn:l.length≤1000000):G0 l=some (IF l):=by
 have h:=NI hn l 0 A0 rfl (by have:=Bp; omega);have h:iter (BE l) A0 0=some (if IF l=true then .inl ()else .inr false):=h;unfold G0;rw[h];cases IF l<;>rfl
def Gl:Nat→g_api_Item→Prop
 |0,_=>True
 |d+1,x=>x.B.length≤1000000∧x.L.length≤1000000∧∀y∈x.L,Gl d y
theorem R2 (rF:g_api_Item→Option Bool)(p:g_api_Item→Bool){x:g_api_Item}(hn:x.L.length≤1000000)(hp: ∀y∈x.L,rF y=some (p y)): ∀(r:List g_api_Item) (i f:Nat),x.L.drop i=r→r.length<f→
  iter (BF rF x) f (i:Int)=some (if r.all p=true then .inl ()else .inr false)
 |r,i,0,_,h=>by omega
 | [],i,f+1,h,_=>by
  have hl:x.L.length≤i:=List.drop_eq_nil_iff.1 h;have e:BF rF x (i:Int)=some (.inr (.inl ())):=by
   unfold BF;rw[decide_eq_false (by omega)];rfl
  show Ac (BF rF x (i:Int)) _=_;rw[e]; rfl
 |y::r,i,f+1,h,hf=>by
  obtain⟨hc,hr,hlt⟩:=Fk h;have ih:=R2 rF p hn hp r (i+1) f hr (by rw[List.length_cons]at hf; omega);have e:BF rF x (i:Int)=some (if p y=true then .inl ((i+1:Nat):Int)else .inr (.inr false)):=by
   unfold BF;rw[decide_eq_true (by omega),if_pos rfl,CG hc,Ab,hp y (List.mem_of_getElem? hc),Ab,FD (by omega)];cases p y<;>rfl
  show Ac (BF rF x (i:Int)) _=_;rw[e,List.all_cons];cases p y with
  |false=>rfl
  |true=>rw[if_pos rfl,Bool.true_and]; exact ih
theorem R3: ∀(d n:Nat) (x:g_api_Item),d≤n→QE d x→Gl d x→Du n x=some (mayB d x)
 |0,n,x,_,h,_=>h.elim
 |d+1,0,x,h,_,_=>by omega
 |d+1,n+1,x,hn,hd,hs=>by
  have ih: ∀y∈x.L,Du n y=some (mayB d y):=fun y hy=>R3 d n y (by omega) (hd y hy) (hs.2.2 y hy);have hl:=R2 (Du n) (mayB d) hs.2.1 ih x.L 0 A0 rfl (by have:=Bp; have:=hs.2.1; omega);have hl:iter (BF (Du n) x) A0 0=some (if x.L.all (mayB d)=true then .inl ()else .inr false):=hl;show EY (Du n) x=_;unfold EY mayB;have e2:decide ((x.L.length:Int)>0)= !x.L.isEmpty:=by
   cases x.L with
   |nil=>rfl
   |cons a l=>show decide _=true; rw[decide_eq_true_eq,List.length_cons]; omega
  rw[e2,show(x.Tag !=48)= !(x.Tag==48)from rfl];cases hE:x.L.isEmpty with
  |false=>
   cases h48:x.Tag==48 with
   |false=>
    rw[show((!false)&&(!false))=true from rfl,if_pos rfl,Bool.false_or,Bool.and_false,Bool.false_and]
   |true=>
    have ht:x.Tag=48:=by simpa using h48
    rw[show((!true)&&(!false))=false from rfl,if_neg (by decide),ht,if_neg (by decide),if_neg (by decide),if_neg (by decide),if_neg (by decide),if_pos (by decide),hl];show _=some ((x.B.isEmpty&&(true||false))&&x.L.all (mayB d));have eb:((x.B.length:Int)==0)=x.B.isEmpty:=by
     cases x.B with
     |nil=>rfl
     |cons a l=>show _=false; rw[beq_eq_false_iff_ne,List.length_cons]; omega
    cases x.L.all (mayB d)with
    |false=>rw[Bool.and_false]; rfl
    |true=>
     show some ((x.B.length:Int)==0)=_;rw[eb,Bool.and_true,Bool.true_or,Bool.and_true]
  |true=>
   have hLn:x.L=[]:=List.isEmpty_iff.1 hE;have hall:x.L.all (mayB d)=true:=by rw[hLn]; rfl
   rw[hall]at hl;rw[hall,Bool.or_true,Bool.and_true,Bool.and_true,Bool.not_true,Bool.and_false,if_neg (by decide)];by_cases h1:x.Tag=1
   ·rw[h1,if_pos (by decide)];have:=RU x.B;unfold DO at this;rw[this];rfl
   rw[if_neg (show¬(x.Tag==1)=true from by simp[h1])];by_cases h2:x.Tag=2
   ·rw[h2,if_pos (by decide),Vm];rfl
   rw[if_neg (show¬(x.Tag==2)=true from by simp[h2])];by_cases h4:x.Tag=4
   ·rw[h4,if_pos (by decide)];rfl
   rw[if_neg (show¬(x.Tag==4)=true from by simp[h4])];by_cases h12:x.Tag=12
   ·rw[h12,if_pos (by decide),YB hs.1];rfl
   rw[if_neg (show¬(x.Tag==12)=true from by simp[h12])];by_cases h48:x.Tag=48
   ·rw[h48,if_pos (by decide),hl];have eb:((x.B.length:Int)==0)=x.B.isEmpty:=by
     cases x.B with
     |nil=>rfl
     |cons a l=>show _=false; rw[beq_eq_false_iff_ne,List.length_cons]; omega
    show some ((x.B.length:Int)==0)=some x.B.isEmpty;rw[eb]
   ·rw[if_neg (show¬(x.Tag==48)=true from by simp[h48])];unfold Vn;rw[if_neg h1,if_neg h2,if_neg h4,if_neg h12,if_neg h48]
theorem Sd (rF:g_api_Item→Option Int)(d:Nat){x:g_api_Item}(hn:x.L.length≤1000000)(hp: ∀y∈x.L,∃k:Int,rF y=some k∧1≤k∧k≤d): ∀(r:List g_api_Item) (i f:Nat) (m:Int),x.L.drop i=r→r.length<f→0≤m→m≤d→
  ∃k:Int,iter (BG rF x) f (m,(i:Int))=some k∧0≤k∧k≤d
 |r,i,0,m,_,h,_,_=>by omega
 | [],i,f+1,m,h,_,h0,h1=>by
  have hl:x.L.length≤i:=List.drop_eq_nil_iff.1 h;have e:BG rF x (m,(i:Int))=some (.inr m):=by
   unfold BG;show(if decide ((i:Int)<(x.L.length:Int))=true then _ else _)=_;rw[decide_eq_false (by omega)];rfl
  refine⟨m,?_,h0,h1⟩;show Ac (BG rF x (m,(i:Int))) _=_;rw[e]; rfl
 |y::r,i,f+1,m,h,hf,h0,h1=>by
  obtain⟨hc,hr,hlt⟩:=Fk h;obtain⟨q,hq,q1,q2⟩:=hp y (List.mem_of_getElem? hc);obtain⟨k,e,k0,k1⟩:=Sd rF d hn hp r (i+1) f (Y3 m q) hr (by rw[List.length_cons]at hf; omega) (by unfold Y3; split<;>omega) (by unfold Y3; split<;>omega);refine⟨k,?_,k0,k1⟩;have es:BG rF x (m,(i:Int))=some (.inl (Y3 m q,((i+1:Nat):Int))):=by
   unfold BG;show(if decide ((i:Int)<(x.L.length:Int))=true then _ else _)=_;rw[decide_eq_true (by omega),if_pos rfl];show Ac (idx x.L (i:Int)) _=_;rw[CG hc,Ab,hq,Ab,FD (by omega)]
  show Ac (BG rF x (m,(i:Int))) _=_;rw[es];exact e
theorem XL: ∀(d n:Nat) (x:g_api_Item),d≤n→d≤1000→QE d x→Gl d x→∃k:Int,Ef n x=some k∧1≤k∧k≤d
 |0,n,x,_,_,h,_=>h.elim
 |d+1,0,x,h,_,_,_=>by omega
 |d+1,n+1,x,hn,hk,hd,hs=>by
  obtain⟨k,e,k0,k1⟩:=Sd (Ef n) d hs.2.1 (fun y hy=>XL d n y (by omega) (by omega) (hd y hy) (hs.2.2 y hy)) x.L 0 A0 0 rfl (by have:=Bp; have:=hs.2.1; omega) (by omega) (by omega);have e:iter (BG (Ef n) x) A0 (0,0)=some k:=e;refine⟨k+1,?_,by omega,by omega⟩;show EZ (Ef n) x=_;unfold EZ;rw[e,Ab,Ab,E9 (by omega) (by omega)]
theorem ZQ {x:g_api_Item}(hd:QE 8 x)(hs:Gl 8 x):HN x=some (mayB 8 x):=by
 obtain⟨k,e,k0,k1⟩:=XL 8 A0 x (by have:=Bp; omega) (by decide) hd hs;have e:JT x=some k:=e;have ef:JS x=some (mayB 8 x):=R3 8 A0 x (by have:=Bp; omega) hd hs;unfold HN;rw[ef,Ab,e];cases mayB 8 x with
 |false=>rfl
 |true=>
  rw[Kv,Ab,decide_eq_true (show k≤8 from by omega)];rfl
theorem Tu {n:Nat}(hn:n≤100000000000000):EX (n:Int)=some (MC n):=by
 unfold EX MC;by_cases h1:n<128
 ·rw[decide_eq_true (show(n:Int)<128 from by omega),if_pos rfl,if_pos h1]
 ·rw[decide_eq_false (show¬(n:Int)<128 from by omega),if_neg (by decide),if_neg h1];by_cases h2:n<256
  ·rw[decide_eq_true (show(n:Int)<256 from by omega),if_pos rfl,if_pos h2]
  ·rw[decide_eq_false (show¬(n:Int)<256 from by omega),if_neg (by decide),if_neg h2,B9];have e:w64 (Int.tdiv (n:Int) 256)=Dl (n:Int) 8:=by
    have:Int.tdiv (n:Int) 256=(n:Int)/256:=Int.tdiv_eq_ediv_of_nonneg (by omega);rw[this];unfold Dl;rw[Int.fdiv_eq_ediv_of_nonneg _ (by decide)];show w64 ((n:Int)/256)=(n:Int)/256;rw[E9 (by omega) (by omega)]
   rw[e]
theorem Pk (rF:g_api_Item→Option (List UInt8))(p:g_api_Item→List UInt8){x:g_api_Item}(hn:x.L.length≤1000000)(hp: ∀y∈x.L,rF y=some (p y)): ∀(r:List g_api_Item) (i f:Nat) (a:List UInt8),x.L.drop i=r→r.length<f→a.length+(r.flatMap p).length≤100000000000000→
  iter (A4 rF x) f (a,(i:Int))=some (a++r.flatMap p)
 |r,i,0,a,_,h,_=>by omega
 | [],i,f+1,a,h,_,_=>by
  have hl:x.L.length≤i:=List.drop_eq_nil_iff.1 h;have e:A4 rF x (a,(i:Int))=some (.inr a):=by
   unfold A4;show(if decide ((i:Int)<(x.L.length:Int))=true then _ else _)=_;rw[decide_eq_false (by omega)];rfl
  show Ac (A4 rF x (a,(i:Int))) _=_;rw[e];simp
 |y::r,i,f+1,a,h,hf,ha=>by
  obtain⟨hc,hr,hlt⟩:=Fk h;rw[List.flatMap_cons,List.length_append]at ha;have es:A4 rF x (a,(i:Int))=some (.inl (a++p y,((i+1:Nat):Int))):=by
   unfold A4;show(if decide ((i:Int)<(x.L.length:Int))=true then _ else _)=_;rw[decide_eq_true (by omega),if_pos rfl];show Ac (idx x.L (i:Int)) _=_;rw[CG hc,Ab,hp y (List.mem_of_getElem? hc),Ab];show Ac (app 1 a (p y)) _=_;rw[Im 1 (by omega) (by omega),Ab,FD (by omega)]
  show Ac (A4 rF x (a,(i:Int))) _=_;rw[es];show iter (A4 rF x) f (a++p y,((i+1:Nat):Int))=_;rw[Pk rF p hn hp r (i+1) f (a++p y) hr (by rw[List.length_cons]at hf; omega) (by rw[List.length_append]; omega),List.flatMap_cons,List.append_assoc]
theorem Ur (p:g_api_Item→List UInt8){y:g_api_Item}: ∀{l:List g_api_Item},y∈l→(p y).length≤(l.flatMap p).length
 |z::l,h=>by
  rw[List.flatMap_cons,List.length_append];rcases List.mem_cons.1 h with e|h
  ·rw[e]; omega
  ·have:=Ur p h; omega
theorem XX: ∀(d n:Nat) (x:g_api_Item),d≤n→QE d x→Gl d x→(putB d x).length≤10000000000000→C5 n x=some (putB d x)
 |0,n,x,_,h,_,_=>h.elim
 |d+1,0,x,h,_,_,_=>by omega
 |d+1,n+1,x,hn,hd,hs,hl=>by
  have eP:putB (d+1) x=toB x.Tag::(MC (x.B++x.L.flatMap (putB d)).length++(x.B++x.L.flatMap (putB d))):=rfl;rw[eP]at hl⊢;simp only[List.length_cons,List.length_append]at hl;have ih: ∀y∈x.L,C5 n y=some (putB d y):=fun y hy=>XX d n y (by omega) (hd y hy) (hs.2.2 y hy) (by have:=Ur (putB d) hy; omega);have hloop:=Pk (C5 n) (putB d) hs.2.1 ih x.L 0 A0 x.B rfl (by have:=Bp; have:=hs.2.1; omega) (by omega);have hloop:iter (A4 (C5 n) x) A0 (x.B,0)=some (x.B++x.L.flatMap (putB d)):=hloop;show Em (C5 n) x=_;unfold Em;have hb:=Qv (x.B++x.L.flatMap (putB d)).length;rw[KR 1 (by omega) (by omega),Ab,hloop,Ab,Ab];have hc:(x.B++x.L.flatMap (putB d)).length≤10000000000000:=by rw[List.length_append]; omega
  generalize x.B++x.L.flatMap (putB d)=c at hb hc⊢;rw[Tu (by omega),Ab,Im 1 (by simp only[List.length_cons,List.length_nil]; omega) (by simp only[List.length_cons,List.length_nil]; omega),Ab,Im 1 (by simp only[List.length_append,List.length_cons,List.length_nil]; omega) (by simp only[List.length_append,List.length_cons,List.length_nil]; omega),Ab];simp
theorem US {x:g_api_Item}(hd:QE 8 x)(hs:Gl 8 x)(hl:(putB 8 x).length≤10000000000):Gy x=G2 x:=by
 rw[Sq (by omega)];unfold Gy;rw[ZQ hd hs,Ab];cases hm:mayB 8 x with
 |false=>rfl
 |true=>
  have eb:I6 x=some (putB 8 x):=XX 8 A0 x (by have:=Bp; omega) hd hs (by omega);rw[show(!true)=false from rfl,if_neg (by decide),eb,Ab,if_pos rfl];by_cases h:(putB 8 x).length≤8192
  ·rw[decide_eq_false (show¬((putB 8 x).length:Int)>8192 from by omega),if_pos h];rfl
  ·rw[decide_eq_true (show((putB 8 x).length:Int)>8192 from by omega),if_neg h];rfl
end Go.Proofs.YtbajlmaijjcbmaaGreatDoor
end
section
namespace Go.Proofs.YtbajlmaijjcbmaaGreatDoor
open Go Go.Gw Go.Ax
def fewI:Nat→g_api_Item→Prop
 |0,_=>True
 |d+1,x=>x.L.length≤100000∧∀y∈x.L,fewI d y
def truthV:List UInt8→Bool
 | []=>false
 |a::_=>(a.toNat:Int) !=0
abbrev Its:=List g_api_Item
def YZ {α:Type}(tag:Int)(v:g_api_Item→α):Its→Option (α×Its)
 | []=>none
 |x::r=>if x.Tag=tag∧mayB 8 x=true then some (v x,r)else none
def Oe (l:Its):Option (Int×Its):=(YZ 2 (fun x=>asintV x.B) l).bind fun p=>if 0≤p.1 then some p else none
def Acq (l:Its):Option (UInt64×Its):=(Oe l).map fun p=>(toU p.1,p.2)
def sub1 (l:Its):Option (Its×Its):=YZ 48 (fun x=>x.L) l
def allT:Its→Option (List ByteArray)
 | []=>some []
 |x::r=>if x.Tag=12∧mayB 8 x=true then(allT r).map fun t=>bs x.B::t else none
def ZV (l:Its):Option (List ByteArray×Its):=(sub1 l).bind fun p=>(allT p.1).map fun t=>(t,p.2)
end Go.Proofs.YtbajlmaijjcbmaaGreatDoor
end
section
namespace Go.Proofs.YtbajlmaijjcbmaaGreatDoor
open Go Go.Gw Go.Ax
theorem Aaj: ∀{d:Nat} {x:g_api_Item},mayB d x=true→mayB (d+1) x=true
 |0,x,h=>by cases h
 |d+1,x,h=>by
  simp only[mayB,Bool.and_eq_true,List.all_eq_true]at h;unfold mayB;simp only[Bool.and_eq_true,List.all_eq_true];exact⟨h.1,fun y hy=>Aaj (h.2 y hy)⟩
theorem Aak {d e:Nat}{x:g_api_Item}(h:d≤e)(hm:mayB d x=true):mayB e x=true:=by
 induction h with
 |refl=>exact hm
 |step _ ih=>exact Aaj ih
theorem W6 {d:Nat}{x y:g_api_Item}(h:mayB (d+1) x=true)(hy:y∈x.L):mayB d y=true:=by
 simp only[mayB,Bool.and_eq_true,List.all_eq_true]at h;exact h.2 y hy
def text1:Its→Option (ByteArray×Its):=YZ 12 (fun x=>bs x.B)
def bool1:Its→Option (Bool×Its):=YZ 1 (fun x=>truthV x.B)
def pre1 (l:Its):Option (g_api_Cert×Its):=(Oe l).bind fun x1=>(text1 x1.2).bind fun x2=>(text1 x2.2).bind fun x3=>(Acq x3.2).bind fun x4=>(ZV x4.2).bind fun x5=>(Oe x5.2).bind fun x6=>(Oe x6.2).bind fun x7=>(bool1 x7.2).bind fun x8=>(Oe x8.2).bind fun x9=>(ZV x9.2).bind fun x10=>if x10.2=[]then some (⟨x1.1,x2.1,x3.1,x4.1,x5.1,x6.1,x7.1,x8.1,x9.1,x10.1,[],⟨0,0⟩⟩,[])else none
def few1 (l:Its):Prop:= ∀x∈l,x.L.length≤100000
def prom1 (l:Its):Option (g_api_Promise×Its):=(Oe l).bind fun x1=>(Oe x1.2).bind fun x2=>(Acq x2.2).bind fun x3=>(Acq x3.2).bind fun x4=>(Acq x4.2).bind fun x5=>(Acq x5.2).bind fun x6=>some (⟨x1.1,x2.1,(x3.1,x4.1),⟨x5.1,x6.1⟩⟩,x6.2)
structure Nums (c:g_api_Cert):Prop where
 serial:0≤c.Serial∧c.Serial≤1099511627776
 frm:0≤c.From∧c.From≤1099511627776
 til:0≤c.Until∧c.Until≤1099511627776
 key:c.Key.toNat<2305843009213691579
 depth:0≤c.Depth∧c.Depth≤4
 sig:sigB c.Sig=true
 proms: ∀p∈c.Proms,promBC p=true
theorem Ll {n:Int}(h:numB n=true):0≤n∧n≤1099511627776:=by
 unfold numB at h;simp only[Bool.and_eq_true,decide_eq_true_eq]at h;omega
theorem Form.nums {c:g_api_Cert}(h:Form c):Nums c:=by
 refine⟨Ll h.serial,Ll h.frm,Ll h.til,by have:=h.keyQ; omega,?_,h.sig,OZ h.proms⟩;cases hc:c.Ca with
 |true=>obtain⟨_,_,a,b,_⟩:=h.ca hc; exact⟨a,b⟩
 |false=>obtain⟨_,_,a,_⟩:=h.leaf hc; omega
theorem Ut {a b:UInt64}{n:Nat}(h:(NW a b).toNat<n):a.toNat<n∧b.toNat<n:=by
 unfold NW at h;by_cases hc:b>a
 ·rw[if_pos hc]at h;have:=UInt64.lt_iff_toNat_lt.1 hc;omega
 ·rw[if_neg hc]at h;have: ¬a.toNat<b.toNat:=fun x=>hc (UInt64.lt_iff_toNat_lt.2 x);omega
theorem YI {s:g_api_Sig}(h:sigB s=true):s.E.toNat<1152921504606845789∧s.S.toNat<1152921504606845789:=by
 unfold sigB at h;exact Ut (of_decide_eq_true h)
theorem WN {p:g_api_Promise}(h:promBC p=true):(0≤p.Log∧p.Log≤1099511627776)∧(0≤p.At∧p.At≤1099511627776)∧(p.Leaf.1.toNat<2305843009213693951∧p.Leaf.2.toNat<2305843009213693951)∧p.Sig.E.toNat<1152921504606845789∧p.Sig.S.toNat<1152921504606845789:=by
 unfold promBC at h;simp only[Bool.and_eq_true]at h;exact⟨Ll h.1.1.1,Ll h.1.1.2,Ut (of_decide_eq_true h.1.2),YI h.2⟩
def bareP (c:g_api_Cert):g_api_Cert:=⟨c.Serial,c.Issuer,c.Subject,c.Key,c.Names,c.From,c.Until,c.Ca,c.Depth,c.Permit,[],⟨0,0⟩⟩
def bareS (c:g_api_Cert):g_api_Cert:=⟨c.Serial,c.Issuer,c.Subject,c.Key,c.Names,c.From,c.Until,c.Ca,c.Depth,c.Permit,c.Proms,⟨0,0⟩⟩
end Go.Proofs.YtbajlmaijjcbmaaGreatDoor
end
section
namespace Go.Proofs.YtbajlmaijjcbmaaGreatDoor
open Go Go.Gw Go.Ax
theorem LX: ∀{d e:Nat} {x:g_api_Item},mayB d x=true→d≤e→putB e x=putB d x
 |0,e,x,h,_=>by cases h
 |d+1,0,x,_,h=>by omega
 |d+1,e+1,x,h,hd=>by
  have hf: ∀(l:List g_api_Item),(∀y∈l,mayB d y=true)→l.flatMap (putB e)=l.flatMap (putB d):=by
   intro l;induction l with
   |nil=>intro _; rfl
   |cons y l ih=>
    intro hl;rw[List.flatMap_cons,List.flatMap_cons,LX (hl y List.mem_cons_self) (by omega),ih fun z hz=>hl z (List.mem_cons_of_mem _ hz)]
  have:=hf x.L fun y hy=>W6 h hy;show toB x.Tag::(MC (x.B++x.L.flatMap (putB e)).length++(x.B++x.L.flatMap (putB e)))=toB x.Tag::(MC (x.B++x.L.flatMap (putB d)).length++(x.B++x.L.flatMap (putB d)));rw[this]
theorem in_len {d:Nat}{x y:g_api_Item}(h:mayB (d+1) x=true)(hd:d+1≤8)(hy:y∈x.L):(putB 8 y).length≤(putB 8 x).length:=by
 rw[LX h hd,LX (W6 h hy) (by omega)];have h1:=UA (putB d) hy;show _≤(toB x.Tag::(MC (x.B++x.L.flatMap (putB d)).length++(x.B++x.L.flatMap (putB d)))).length;have e:(x.B++x.L.flatMap (putB d)).length=x.B.length+(x.L.flatMap (putB d)).length:=List.length_append;rw[List.length_cons,List.length_append,e];omega
def szs (d:Nat)(l:List g_api_Item):Nat:=(l.flatMap (putB d)).length
theorem in_seq {d:Nat}{l:List g_api_Item}(h:mayB (d+1) (OX l)=true): ∀y∈l,mayB d y=true:=fun y hy=>W6 h hy
structure Okc (c:g_api_Cert):Prop where
 form:Form c
 fb:formB c=true
 may:mayB 8 (wholeI c)=true
 len:(putB 8 (wholeI c)).length≤2048
theorem okc {c:g_api_Cert}(h:J3 c=0):Okc c:=by
 unfold J3 at h;cases hf:formB c with
 |false=>rw[hf]at h; simp at h
 |true=>
  rw[hf,if_pos rfl]at h;by_cases h2:mayB 8 (wholeI c)=true∧(putB 8 (wholeI c)).length≤2048
  ·exact⟨TD hf,hf,h2.1,h2.2⟩
  ·rw[if_neg h2]at h; cases h
theorem Okc.chk {c:g_api_Cert}(h:Okc c):J3 c=0:=by
 unfold J3;rw[h.fb,if_pos rfl,if_pos ⟨h.may,h.len⟩]
theorem Us {c:g_api_Cert}(h:Okc c):mayB 7 (KQ c)=true:=in_seq h.may _ (by simp)
def wholeB (c:g_api_Cert):List UInt8:=putB 8 (wholeI c)
def Pl (c:g_api_Cert):List UInt8:=putB 8 (KQ c)
def preBy (c:g_api_Cert):List UInt8:=putB 8 (YR c)
theorem QQ {c:g_api_Cert}(h:Okc c):(Pl c).length≤2048:=by
 have h1:=in_len (y:=KQ c) h.may (by decide) (by show KQ c∈[KQ c,_]; simp);have h2:=h.len;show(putB 8 (KQ c)).length≤_;omega
theorem Acy {x:g_api_Item}(h:mayB 8 x=true)(hl:(putB 8 x).length≤8192):G2 x=some (putB 8 x,0):=by
 rw[Sq (by omega),if_pos h,if_pos hl]
theorem ZI {c:g_api_Cert}(h:Okc c):GL c=some (Pl c,0):=by
 unfold GL E4;have hl:=QQ h;rw[Sh,h.chk,Ab,if_neg (by decide),UM h.form.sized,Ab,Acy (Aak (by decide) (Us h)) (by show(Pl c).length≤_; omega)];rfl
end Go.Proofs.YtbajlmaijjcbmaaGreatDoor
end
section
namespace Go.Proofs.YtbajlmaijjcbmaaGreatDoor
open Go Go.Gw Go.Ax
def readP (x:g_api_Item):Option g_api_Promise:=if x.Tag=48∧mayB 8 x=true then(prom1 x.L).bind fun q=>if q.2=[]then some q.1 else none else none
abbrev BS:=Its×List g_api_Promise
def allP:Its→Option (List g_api_Promise)
 | []=>some []
 |x::r=>(readP x).bind fun p=>(allP r).map fun l=>p::l
def few2D (l:Its):Prop:=few1 l∧∀x∈l,few1 x.L
def few3D (l:Its):Prop:=few1 l∧∀x∈l,few2D x.L
def withP (c:g_api_Cert)(ps:List g_api_Promise):g_api_Cert:=⟨c.Serial,c.Issuer,c.Subject,c.Key,c.Names,c.From,c.Until,c.Ca,c.Depth,c.Permit,ps,c.Sig⟩
def withS (c:g_api_Cert)(s:g_api_Sig):g_api_Cert:=⟨c.Serial,c.Issuer,c.Subject,c.Key,c.Names,c.From,c.Until,c.Ca,c.Depth,c.Permit,c.Proms,s⟩
def body1 (l:Its):Option (g_api_Cert×Its):=(sub1 l).bind fun x1=>(pre1 x1.1).bind fun x2=>(sub1 x1.2).bind fun x3=>(allP x3.1).bind fun ps=>if x3.2=[]then some (withP x2.1 ps,[])else none
def whole1 (l:Its):Option (g_api_Cert×Its):=(sub1 l).bind fun x1=>(body1 x1.1).bind fun x2=>(sub1 x1.2).bind fun x3=>(Acq x3.1).bind fun x4=>(Acq x4.2).bind fun x5=>if x5.2=[]then(if x3.2=[]then some (withS x2.1 ⟨x4.1,x5.1⟩,[])else none)else none
end Go.Proofs.YtbajlmaijjcbmaaGreatDoor
end
section
namespace Go.Proofs.YtbajlmaijjcbmaaGreatDoor
open Go Go.Gw Go.Ax
end Go.Proofs.YtbajlmaijjcbmaaGreatDoor
end
section
namespace Go.Proofs.YtbajlmaijjcbmaaGreatDoor
open Go Go.Gw Go.Ax
theorem O3 (l:List ByteArray):Tot (CJ l):=by
 unfold CJ;obtain⟨t,e,_⟩:=Lw (step:=Bm l) (fun i=>(20-i).toNat) (fun i=>0≤i∧i≤20) (fun _=>True) (fun i hi=>by
  unfold Bm;cases h:(decide (i<(l.length:Int))&&decide (i<20))with
  |false=>exact⟨_,rfl,fun s' h=>(by cases h),fun _ _=>trivial⟩
  |true=>
   simp only[Bool.and_eq_true,decide_eq_true_eq]at h;obtain⟨x,hx⟩: ∃x,idx l i=some x:=by
    unfold idx;rw[if_pos hi.1];exact⟨_,List.getElem?_eq_getElem (by omega)⟩
   rw[if_pos rfl,hx];simp only[Ab];split
   ·exact⟨_,rfl,fun s' h=>(by cases h),fun _ _=>trivial⟩
   ·refine⟨_,rfl,fun s' h=> ?_,fun _ h=>(by cases h)⟩;cases h;rw[E9 (by omega) (by omega)];omega) A0 0 (by omega) (by have:=Bp; show(20-0:Int).toNat<_; omega)
 refine Cj ⟨t,e⟩ fun a _=> ?_;cases a with
 |inl _=>exact tot _
 |inr _=>exact tot _
theorem Ace (c:g_api_Cert):Tot (Fc c):=by
 unfold Fc;exact Cj (K9 fun _=>O3 _) fun a _=>Cj (K9 fun _=>O3 _) fun b _=>tot _
end Go.Proofs.YtbajlmaijjcbmaaGreatDoor
end
section
namespace Go.Proofs.YtbajlmaijjcbmaaGreatDoor
open Go Go.Gw Go.Ax
end Go.Proofs.YtbajlmaijjcbmaaGreatDoor
end
section
namespace Go.Proofs.YtbajlmaijjcbmaaGreatDoor
open Go Go.Gw Go.Ax
theorem XA {c:g_api_Cert}(h:FewP c)(F:Form c):Fits c:=by
 have n:=F.nums;have h1:=n.serial; have h2:=n.frm; have h3:=n.til; have h4:=n.depth;refine⟨h,by omega,by omega,by omega,by omega,fun p hp=> ?_⟩;obtain⟨q1,q2,_⟩:=WN (n.proms p hp);omega
theorem E5 {x:g_api_Item}(h:x.L=[])(d:Nat):QE (d+1) x:=by
 intro y hy;rw[h]at hy;cases hy
theorem KP {d:Nat}{l:List g_api_Item}(h: ∀y∈l,QE d y):QE (d+1) (OX l):=h
theorem SV {x:g_api_Item}(h:x.L=[])(hb:x.B.length≤1000000)(d:Nat):Gl d x:=by
 cases d with
 |zero=>trivial
 |succ d=>
  refine⟨hb,by rw[h]; simp,fun y hy=> ?_⟩;rw[h]at hy;cases hy
theorem NN {d:Nat}{l:List g_api_Item}(hl:l.length≤1000000)(h: ∀y∈l,Gl d y):Gl (d+1) (OX l):=⟨by show(0:Nat)≤_; omega,hl,h⟩
theorem Mx (n:Int)(d:Nat):Gl d (On n):=SV rfl (by have:=MS (be8 n); have h8:(be8 n).length=8:=rfl; show(Ry (be8 n)).length≤_; omega) d
theorem SU {s:ByteArray}(h:s.size≤1000000)(d:Nat):Gl d (HD s):=SV rfl (by show s.data.toList.length≤_; rw[AF]; exact h) d
theorem Aa4 (v:Bool)(d:Nat):Gl d (QP v):=SV rfl (by show(1:Nat)≤_; omega) d
theorem Sc (l:List ByteArray)(d:Nat):QE (d+2) (Ks l):=KP fun y hy=>by
 obtain⟨s,_,e⟩:=List.mem_map.1 hy;rw[←e]; exact E5 rfl d
theorem T4 {l:List ByteArray}(hl:l.length≤100000)(h: ∀s∈l,s.size≤100000)(d:Nat):Gl (d+1) (Ks l):=NN (by rw[List.length_map]; omega) fun y hy=>by
 obtain⟨s,hs,e⟩:=List.mem_map.1 hy;rw[←e]; exact SU (by have:=h s hs; omega) d
theorem Ach (c:g_api_Cert)(d:Nat):QE (d+3) (YR c):=KP fun y hy=>by
 simp only[List.mem_cons,List.not_mem_nil,or_false]at hy;rcases hy with q|q|q|q|q|q|q|q|q|q<;>rw[q]
 ·exact E5 rfl _
 ·exact E5 rfl _
 ·exact E5 rfl _
 ·exact E5 rfl _
 ·exact Sc _ _
 ·exact E5 rfl _
 ·exact E5 rfl _
 ·exact E5 rfl _
 ·exact E5 rfl _
 ·exact Sc _ _
theorem sm_pre {c:g_api_Cert}(h:FewP c)(d:Nat):Gl (d+2) (YR c):=NN (by simp) fun y hy=>by
 have h1:=h.issuer; have h2:=h.subject; have h3:=h.nnames; have h4:=h.npermit;simp only[List.mem_cons,List.not_mem_nil,or_false]at hy;rcases hy with q|q|q|q|q|q|q|q|q|q<;>rw[q]
 ·exact Mx _ _
 ·exact SU (by omega) _
 ·exact SU (by omega) _
 ·exact Mx _ _
 ·exact T4 (by omega) (fun s hs=>by have:=h.names s hs; omega) _
 ·exact Mx _ _
 ·exact Mx _ _
 ·exact Aa4 _ _
 ·exact Mx _ _
 ·exact T4 (by omega) (fun s hs=>by have:=h.permit s hs; omega) _
theorem ZA (p:g_api_Promise)(d:Nat):QE (d+2) (JN p):=KP fun y hy=>by
 simp only[List.mem_cons,List.not_mem_nil,or_false]at hy;rcases hy with q|q|q|q|q|q<;>rw[q]<;>exact E5 rfl _
theorem Aa3 (p:g_api_Promise)(d:Nat):Gl (d+1) (JN p):=NN (by simp) fun y hy=>by
 simp only[List.mem_cons,List.not_mem_nil,or_false]at hy;rcases hy with q|q|q|q|q|q<;>rw[q]<;>exact Mx _ _
theorem UD (c:g_api_Cert)(d:Nat):QE (d+4) (KQ c):=KP (Y2 (Ach c d) (KP fun y hy=>by
 obtain⟨p,_,e⟩:=List.mem_map.1 hy;rw[←e]; exact ZA p d))
theorem V5 {c:g_api_Cert}(h:FewP c)(d:Nat):Gl (d+3) (KQ c):=NN (by simp) (Y2 (sm_pre h d) (NN (by rw[List.length_map]; have:=h.nproms; omega) fun y hy=>by
 obtain⟨p,_,e⟩:=List.mem_map.1 hy;rw[←e]; exact Aa3 p d))
theorem Acg (a b:UInt64)(d:Nat):QE (d+2) (OX [Mj a,Mj b]):=KP (Y2 (E5 rfl d) (E5 rfl d))
theorem sm_sig (a b:UInt64)(d:Nat):Gl (d+1) (OX [Mj a,Mj b]):=NN (by simp) (Y2 (Mx _ d) (Mx _ d))
theorem XI (c:g_api_Cert):QE 8 (wholeI c):=KP (Y2 (UD c 3) (Acg _ _ 5))
theorem YH {c:g_api_Cert}(h:FewP c):Gl 8 (wholeI c):=NN (by simp) (Y2 (V5 h 4) (sm_sig _ _ 6))
theorem Mi {c:g_api_Cert}(h:FewP c):DD c=some (J3 c):=by
 unfold DD J3;rw[Xy h,Ab];cases hf:formB c with
 |false=>rfl
 |true=>
  have F:=TD hf;have hs:=F.sized;have hl:=OP 8 hs;rw[show(!true)=false from rfl,if_neg (by decide),UW (XA h F),Ab,US (XI c) (YH h) (by omega),Sq (by omega),XT,if_pos rfl]
end Go.Proofs.YtbajlmaijjcbmaaGreatDoor
end
section
namespace Go.Proofs.YtbajlmaijjcbmaaGreatDoor
open Go Go.Gw Go.Ax
theorem CI {α β:Type}(a:α)(k:α→β):bnd a k=k a:=rfl
theorem Dg {σ τ:Type}{step:σ→Option (σ⊕τ)}{s:σ}{t:τ}(n:Nat)(h:iter step n s=some t)(hn:n≤18446744073709551616):iter step A0 s=some t:=Xj h hn
theorem AB {σ τ:Type}{step:σ→Option (σ⊕τ)}{n:Nat}{s s':σ}(h:step s=some (.inl s')):iter step (n+1) s=iter step n s':=by simp only[iter,h,Ab]
theorem A2 {σ τ:Type}{step:σ→Option (σ⊕τ)}{n:Nat}{s:σ}{t:τ}(h:step s=some (.inr t)):iter step (n+1) s=some t:=by simp only[iter,h,Ab]
theorem LB {α:Type}(b:Nat){xs ys:List α}(h:(xs.length+ys.length)*b≤140737488355328)(h1:xs.length+ys.length≤140737488355328):app b xs ys=some (xs++ys):=by unfold app; rw[if_pos ⟨h,h1⟩]
theorem Se {α:Type}{xs:List α}{lo hi:Nat}(h1:lo≤hi)(h2:hi≤xs.length):cut xs (lo:Int) (hi:Int)=some ((xs.drop lo).take (hi-lo)):=by
 unfold cut; rw[if_pos ⟨by omega,by omega,by omega⟩]; simp
def Vi (hi lo:UInt64):UInt64:=
 let n:=(lo&&&2305843009213693951)+((Gb hi 3)|||(CZ lo 61))
 let k:=(n&&&2305843009213693951)+CZ n 61
 if 2305843009213693951≤k.toNat then k-2305843009213693951 else k
theorem Xz (a b:UInt64):Fq a b=some (Vi a b):=by
 unfold Fq Vi;simp only[CI];generalize (b&&&2305843009213693951)+((Gb a 3)|||(CZ b 61))=n;generalize (n&&&2305843009213693951)+CZ n 61=k;by_cases h:2305843009213693951≤k.toNat
 ·rw[if_pos h,if_pos (decide_eq_true (by omega))]; rfl
 ·rw[if_neg h,if_neg (by simp; omega)]; rfl
def Om (a:UInt64):UInt64:=Vi 0 a
theorem Aad (a:UInt64):DK a=some (Om a):=by simp only[DK,Xz,Ab]; rfl
def Cw (a b:UInt64):UInt64:=Om (Om a+Om b)
theorem UR (a b:UInt64):DN a b=some (Cw a b):=by simp only[DN,Aad,Ab]; rfl
def phi (a0 a1:UInt64):UInt64:=
 let x1:=(a0&&&4294967295)*(a1&&&4294967295)
 let x2:=((CZ a0 32)*(a1&&&4294967295))+(CZ x1 32)
 let x3:=(x2&&&4294967295)+((a0&&&4294967295)*(CZ a1 32))
 (((CZ a0 32)*(CZ a1 32))+(CZ x2 32))+(CZ x3 32)
theorem Qq (a b:UInt64):EA a b=some (phi a b,a*b):=rfl
def Vy (a b:UInt64):UInt64:=Vi (phi (Om a) (Om b)) (Om a*Om b)
theorem mul_eq (a b:UInt64):GG a b=some (Vy a b):=by simp only[GG,Aad,Qq,Xz,Ab]; rfl
def KG (a:UInt64):UInt64:=
 let b:=Vy a a
 let c:=Vy b b
 let d:=Vy c c
 Vy a (Vy d d)
theorem sev_eq (a:UInt64):C3 a=some (KG a):=by
 simp only[C3,CW,DI,mul_eq,Ab]; rfl
def LG (r i:Int):UInt64:=let n:=toU (w64 ((w64 ((w64 (3*r))+i))+1)); n*n*n+7
def YT (r:Int)(s:UInt64×UInt64×UInt64):UInt64:=Cw (Cw (Cw 0 (KG (Cw s.1 (LG r 0)))) (KG (Cw s.2.1 (LG r 1)))) (KG (Cw s.2.2 (LG r 2)))
def Ic (r:Int)(s:UInt64×UInt64×UInt64):UInt64×UInt64×UInt64:=(Cw (KG (Cw s.1 (LG r 0))) (YT r s),Cw (KG (Cw s.2.1 (LG r 1))) (YT r s),Cw (KG (Cw s.2.2 (LG r 2))) (YT r s))
theorem Tt (i:Int)(a:UInt64)(r:Int)(all:UInt64):Es i a r all=some (KG (Cw a (LG r i)),r,Cw all (KG (Cw a (LG r i)))):=by
 simp only[Es,CI,UR,sev_eq,Ab]; rfl
theorem Ts (i:Int)(a:UInt64)(all:UInt64):Er i a all=some (Cw a all,all):=by
 simp only[Er,UR,Ab]
theorem XH {σ:Type}{p:σ→Int→UInt64→Option (UInt64×σ)}{a b c a' b' c':UInt64}{s0 s1 s2 s3:σ}(h0:p s0 0 a=some (a',s1))(h1:p s1 1 b=some (b',s2))(h2:p s2 2 c=some (c',s3)):
  Co (a,b,c) p s0=some ((a',b',c'),s3):=by
 have e0:idx [a,b,c] 0=some a:=rfl;have e1:idx [a',b,c] 1=some b:=rfl;have e2:idx [a',b',c] 2=some c:=rfl;simp[Co,CW,Dn,CI,h0,e0,h1,e1,h2,e2]
theorem AbD (r:Int)(s:UInt64×UInt64×UInt64):FX r s=some (Ic r s):=by
 obtain⟨a,b,c⟩:=s;unfold FX;rw[XH (a':=KG (Cw a (LG r 0))) (b':=KG (Cw b (LG r 1))) (c':=KG (Cw c (LG r 2))) (s1:=(r,Cw 0 (KG (Cw a (LG r 0))))) (s2:=(r,Cw (Cw 0 (KG (Cw a (LG r 0)))) (KG (Cw b (LG r 1)))))
  (s3:=(r,Cw (Cw (Cw 0 (KG (Cw a (LG r 0)))) (KG (Cw b (LG r 1)))) (KG (Cw c (LG r 2))))) (by simp only[Tt,Ab]) (by simp only[Tt,Ab]) (by simp only[Tt,Ab])]
 simp only[Ab];change Ac (Co _ _ (YT r (a,b,c))) _=some (Cw _ (YT r (a,b,c)),Cw _ (YT r (a,b,c)),Cw _ (YT r (a,b,c)));generalize YT r (a,b,c)=all;rw[XH (s1:=all) (s2:=all) (s3:=all) (a':=Cw (KG (Cw a (LG r 0))) all) (b':=Cw (KG (Cw b (LG r 1))) all) (c':=Cw (KG (Cw c (LG r 2))) all) (by simp only[Ts,Ab]) (by simp only[Ts,Ab]) (by simp only[Ts,Ab])];rfl
def KH (s:UInt64×UInt64×UInt64):UInt64×UInt64×UInt64:=Ic 7 (Ic 6 (Ic 5 (Ic 4 (Ic 3 (Ic 2 (Ic 1 (Ic 0 s)))))))
theorem W4 (s:UInt64×UInt64×UInt64):IL s=some (KH s):=by
 simp only[IL,CW,AbD,Ab];rfl
def ple:List UInt8→Nat→UInt64→UInt64
 | [],_,s=>s
 |b::bs,i,s=>ple bs (i+1) (s|||Gb (toU (b.toNat:Int)) (8*i))
theorem b6_eq (b5:List UInt8): ∀(l:List UInt8) (i:Nat) (s:UInt64),b5.drop i=l→i+l.length≤1000000→CW (DL b5) l.length (i:Int) s=some (ple l i s):=by
 intro l;induction l with
 |nil=>intro i s _ _; rfl
 |cons b l ih=>
  intro i s h hb;have hx:idx b5 (i:Int)=some b:=JY (by
   have:(b5.drop i)[0]? =some b:=by rw[h]; rfl
   simpa using this)
  simp only[List.length_cons]at hb;have hw:w64 (8*(i:Int))=((8*i:Nat):Int):=by rw[Cc (by omega) (by omega)]; omega
  have hstep:DL b5 (i:Int) s=some (s|||Gb (toU (b.toNat:Int)) (8*i)):=by
   simp only[DL,hx,Ab,hw,CI];rw[if_pos (by omega)]; rfl
  show CW (DL b5) (l.length+1) _ _=_;simp only[CW,hstep,Ab,ple];have:=ih (i+1) (s|||Gb (toU (b.toNat:Int)) (8*i)) (by rw[←List.drop_drop,h]; rfl) (by omega);simpa using this
def pof (n:Nat)(l:List UInt8):List UInt64:=match n,l with|_,[]=> []|0,_=> []|n+1,l=>ple (l.take 7) 0 0::pof n (l.drop 7)
theorem WS (n:Nat): ∀l,(pof n l).length≤n:=by
 induction n with
 |zero=>intro l; cases l<;>simp[pof]
 |succ n ih=>intro l; cases l with
  |nil=>simp[pof]
  |cons a l=>simp only[pof,List.length_cons]; have:=ih ((a::l).drop 7); omega
theorem ZG (a0:List UInt8)(hb:a0.length≤1000000): ∀(n i:Nat) (out:List UInt64),a0.length≤i+n→i≤1000000+7→out.length+n≤1000000→
  iter (AH (fun(s:(List UInt64)) (b0:List UInt8)=>Ac (DM b0 s) fun y=>some (true,y)) a0 7) (n+1) ((i:Int),out)=some (.inl (out++pof n (a0.drop i))):=by
 intro n;induction n with
 |zero=>
  intro i out h _ _;have:a0.drop i=[]:=List.drop_eq_nil_of_le (by omega);refine A2 ?_;simp only[AH,this];rw[if_neg (by simp; omega)];simp[pof]
 |succ n ih=>
  intro i out h hi ho;by_cases hlt:i<a0.length
  ·obtain⟨b,l,hl⟩: ∃b l,a0.drop i=b::l:=⟨a0[i],a0.drop (i+1),List.drop_eq_getElem_cons hlt⟩;have hc1:cut a0 (i:Int) (a0.length:Int)=some (a0.drop i):=by
    rw[Se (by omega) (by omega)]; congr 1; rw[List.take_of_length_le (by simp)]
   have hlen:(a0.drop i).length=a0.length-i:=by simp
   have hm:w64 ((i:Int)+MZ 7 ((a0.drop i).length:Int))=((i+min 7 (a0.length-i):Nat):Int):=by
    rw[Cc]<;>unfold MZ<;>split<;>omega
   have hc2:cut a0 (i:Int) ((i+min 7 (a0.length-i):Nat):Int)=some ((a0.drop i).take 7):=by
    rw[Se (by omega) (by omega)]; congr 1;rw[Nat.add_sub_cancel_left];by_cases h7:7≤a0.length-i
    ·rw[Nat.min_eq_left h7]
    ·rw[Nat.min_eq_right (by omega),List.take_of_length_le (by simp),List.take_of_length_le (by simp; omega)]
   have hw:w64 ((i:Int)+7)=((i+7:Nat):Int):=by rw[Cc (by omega) (by omega)]; omega
   have hb4:DM ((a0.drop i).take 7) out=some (out++[ple ((a0.drop i).take 7) 0 0]):=by
    have:=b6_eq ((a0.drop i).take 7) ((a0.drop i).take 7) 0 0 rfl (by simp; omega);simp only[DM];rw[show((0:Int))=((0:Nat):Int)from rfl,this];simp only[Ab];rw[LB 8 (by simp; omega) (by simp; omega)];rfl
   rw[AB (s':=(((i+7:Nat):Int),out++[ple ((a0.drop i).take 7) 0 0]))]
   ·rw[ih (i+7) _ (by omega) (by omega) (by simp; omega)];rw[hl];simp only[pof];rw[←hl,List.drop_drop];simp
   ·simp only[AH];rw[if_pos (decide_eq_true (by omega)),hc1];simp only[Ab,hm,hc2,hb4,hw];rfl
  ·have:a0.drop i=[]:=List.drop_eq_nil_of_le (by omega);refine A2 ?_;simp only[AH,this];rw[if_neg (by simp; omega)];simp[pof]
theorem of_eq (a0:List UInt8)(hb:a0.length≤900000):IM a0=some (pof a0.length a0):=by
 have h:=ZG a0 (by omega) a0.length 0 [] (by omega) (by omega) (by simp; omega);have h':=Dg _ h (by omega);simp only[IM,Cz,Ck];rw[if_neg (by decide)];simp only[Ab,List.drop_zero,List.nil_append]at h'⊢;rw[show((0:Int))=((0:Nat):Int)from rfl,h'];simp only[Ab]
def Gu (n:Nat)(l:List UInt64)(s:UInt64×UInt64×UInt64):UInt64×UInt64×UInt64:=match n,l with|_,[]=>s|0,_=>s|_+1,[x]=>KH (Cw s.1 x,s.2.1,s.2.2)|n+1,x::y::l=>Gu n l (KH (Cw s.1 x,Cw s.2.1 y,s.2.2))
theorem b4_eq1 (x:UInt64)(s:UInt64×UInt64×UInt64):CW (DJ [x]) 1 0 s=some (Cw s.1 x,s.2.1,s.2.2):=by
 have e0:idx [x] (0:Int)=some x:=rfl;have e1:idx [s.1,s.2.1,s.2.2] (0:Int)=some s.1:=rfl;simp[CW,DJ,e0,e1,UR,CI]
theorem b4_eq2 (x y:UInt64)(s:UInt64×UInt64×UInt64):CW (DJ [x,y]) 2 0 s=some (Cw s.1 x,Cw s.2.1 y,s.2.2):=by
 have e0:idx [x,y] (0:Int)=some x:=rfl;have e1:idx [s.1,s.2.1,s.2.2] (0:Int)=some s.1:=rfl;have e2:idx [x,y] 1=some y:=rfl;have e3:idx [Cw s.1 x,s.2.1,s.2.2] 1=some s.2.1:=rfl;simp[CW,DJ,e0,e1,e2,e3,UR,CI]
theorem b3_nil (fst:Bool)(hf:fst=true)(s:UInt64×UInt64×UInt64):B1 ([],fst,s.1,s.2.1,s.2.2)=some (.inl ([],false,KH s)):=by
 subst hf;have hc:cut ([]:List UInt64) 0 0=some []:=rfl;have hmin:MZ 2 (([]:List UInt64).length:Int)=0:=rfl;simp only[B1,Bool.true_or,if_true,hmin];rw[show((([]:List UInt64).length:Int))=0 from rfl,hc];simp only[Ab,CW,List.length_nil,W4]
theorem AaN (s:UInt64×UInt64×UInt64):B1 ([],false,s.1,s.2.1,s.2.2)=some (.inr s):=rfl
theorem AaM (fst:Bool)(x:UInt64)(s:UInt64×UInt64×UInt64):B1 ([x],fst,s.1,s.2.1,s.2.2)=some (.inl ([],false,KH (Cw s.1 x,s.2.1,s.2.2))):=by
 have hmin:MZ 2 (([x]:List UInt64).length:Int)=1:=rfl;have h0:(fst||decide ((([x]:List UInt64).length:Int)>0))=true:=by simp
 have hc:cut [x] 0 1=some [x]:=rfl;have hc2:cut [x] 1 1=some []:=rfl;simp only[B1,h0,if_true,hmin];rw[show((([x]:List UInt64).length:Int))=1 from rfl,hc,hc2];simp only[Ab,List.length_cons,List.length_nil];rw[b4_eq1];simp only[Ab,W4]
theorem AaL (fst:Bool)(x y:UInt64)(l:List UInt64)(s:UInt64×UInt64×UInt64):B1 (x::y::l,fst,s.1,s.2.1,s.2.2)=some (.inl (l,false,KH (Cw s.1 x,Cw s.2.1 y,s.2.2))):=by
 have hmin:MZ 2 ((x::y::l).length:Int)=((2:Nat):Int):=by unfold MZ; rw[if_neg (by simp; omega)]; rfl
 have h0:(fst||decide (((x::y::l).length:Int)>0))=true:=by simp; right; omega
 have hc:cut (x::y::l) ((0:Nat):Int) ((2:Nat):Int)=some [x,y]:=by rw[Se (by omega) (by simp)]; rfl
 have hc2:cut (x::y::l) ((2:Nat):Int) ((x::y::l).length:Int)=some l:=by rw[Se (by simp) (by omega)]; simp
 simp only[B1,h0,if_true,hmin];rw[show((0:Int))=((0:Nat):Int)from rfl,hc,hc2];simp only[Ab,List.length_cons,List.length_nil];rw[show((0:Nat):Int)=0 from rfl,b4_eq2];simp only[Ab,W4]
theorem TM: ∀(n:Nat) (l:List UInt64) (s:UInt64×UInt64×UInt64),l.length≤n→iter B1 (n+1) (l,false,s.1,s.2.1,s.2.2)=some (Gu n l s):=by
 intro n;induction n with
 |zero=>
  intro l s h;have:l=[]:=List.eq_nil_of_length_eq_zero (by omega);subst this;rw[A2 (AaN s)]; simp[Gu]
 |succ n ih=>
  intro l s h;match l,h with
  | [],_=>rw[A2 (AaN s)]; simp[Gu]
  | [x],_=>
   rw[AB (AaM false x s)];have:=ih [] (KH (Cw s.1 x,s.2.1,s.2.2)) (by simp);rw[this]; simp[Gu]
  |x::y::l,h=>
   rw[AB (AaL false x y l s)];have:=ih l (KH (Cw s.1 x,Cw s.2.1 y,s.2.2)) (by simp at h; omega);rw[this]; simp[Gu]
def Vz (l:List UInt64)(s:UInt64×UInt64×UInt64):UInt64×UInt64×UInt64:=match l with| []=>KH s|l=>Gu l.length l s
def AbN (b:List UInt8):UInt64×UInt64:=((Vz (pof b.length b) (0,0,toU (b.length:Int))).1,(Vz (pof b.length b) (0,0,toU (b.length:Int))).2.1)
theorem sum_eq (b:List UInt8)(hb:b.length≤900000):Hs b=some (AbN b):=by
 simp only[Hs,of_eq b hb,Ab];have hl:=WS b.length b;have hk:AbN b=((Vz (pof b.length b) (0,0,toU (b.length:Int))).1,(Vz (pof b.length b) (0,0,toU (b.length:Int))).2.1):=rfl;rw[hk];clear hk;generalize pof b.length b=l at*;have h:iter B1 A0 (l,true,0,0,toU (b.length:Int))=some (Vz l (0,0,toU (b.length:Int))):=by
  refine Dg (l.length+2) ?_ (by omega);match l with
  | []=>
   rw[show([]:List UInt64).length+2=1+1 from rfl,AB (b3_nil true rfl (0,0,toU (b.length:Int)))];have:=TM 0 [] (KH (0,0,toU (b.length:Int))) (by simp);rw[this]; simp[Gu,Vz]
  | [x]=>
   rw[show([x]:List UInt64).length+2=2+1 from rfl,AB (AaM true x (0,0,toU (b.length:Int)))];have:=TM 1 [] (KH (Cw 0 x,0,toU (b.length:Int))) (by simp);rw[this]; simp[Gu,Vz]
  |x::y::l=>
   rw[AB (AaL true x y l (0,0,toU (b.length:Int)))];have:=TM (l.length+2) l (KH (Cw 0 x,Cw 0 y,toU (b.length:Int))) (by omega);have e:(x::y::l).length+1=l.length+2+1:=rfl;rw[e,this];simp only[Gu,Vz,List.length_cons];congr 1;clear this hl;have: ∀(n k:Nat) (l:List UInt64) (s:UInt64×UInt64×UInt64),l.length≤n→l.length≤k→Gu n l s=Gu k l s:=by
    intro n;induction n with
    |zero=>intro k l s h _; have:l=[]:=List.eq_nil_of_length_eq_zero (by omega); subst this; simp[Gu]
    |succ n ih=>
     intro k l s h hk;match l,k,h,hk with
     | [],k,_,_=>cases k<;>simp[Gu]
     | [x],k+1,_,_=>simp[Gu]
     |x::y::l,k+1,h,hk=>simp only[Gu]; exact ih k l _ (by simp at h; omega) (by simp at hk; omega)
   exact this _ _ _ _ (by omega) (by omega)
 rw[h];simp only[Ab]
def LY:Nat→UInt64→List UInt8
 |0,_=> []
 |k+1,n=>toB ((CZ n (8*k)).toNat:Int)::LY k n
theorem EE (k:Nat)(n:UInt64):(LY k n).length=k:=by induction k with|zero=>rfl|succ k ih=>simp[LY,ih]
theorem YO (n:UInt64): ∀(k:Nat) (b:List UInt8),k≤8→b.length+k≤1000000→iter (EJ n) (k+1) (b,(k:Int)-1)=some (b++LY k n):=by
 intro k;induction k with
 |zero=>intro b _ _; refine A2 ?_; simp only[EJ,LY,List.append_nil]; rw[if_neg (by simp)]
 |succ k ih=>
  intro b hk hb;have hw:w64 (8*(((k+1:Nat):Int)-1))=((8*k:Nat):Int):=by rw[Cc (by omega) (by omega)]; omega
  have hw2:w64 ((((k+1:Nat):Int)-1)-1)=(k:Int)-1:=by rw[Cc (by omega) (by omega)]; omega
  rw[AB (s':=(b++[toB ((CZ n (8*k)).toNat:Int)],(k:Int)-1))]
  ·rw[ih _ (by omega) (by simp; omega)]; simp[LY]
  ·simp only[EJ,hw,hw2];rw[if_pos (decide_eq_true (by omega)),if_pos (by omega),LB 1 (by simp; omega) (by simp; omega)];simp only[Ab,Int.toNat_natCast]
theorem put_eq (n:UInt64)(k:Nat)(b:List UInt8)(hk:k≤8)(hb:b.length≤900000):Hr b n (k:Int)=some (b++LY k n):=by
 have hw:w64 ((k:Int)-1)=(k:Int)-1:=Cc (by omega) (by omega);simp only[Hr,hw,Dg (k+1) (YO n k b hk (by omega)) (by omega),Ab]
def Aac (s:UInt64×UInt64):List UInt8:=LY 8 s.1++LY 8 s.2
def Vj:List UInt8→List (List UInt8)→List UInt8
 |b,[]=>b
 |b,p::ps=>Vj (b++LY 4 (toU (p.length:Int))++p) ps
def WT:List (List UInt8)→Nat
 | []=>0
 |p::ps=>4+p.length+WT ps
theorem RK: ∀(ps:List (List UInt8)) (b:List UInt8),(Vj b ps).length=b.length+WT ps:=by
 intro ps;induction ps with
 |nil=>intro b; rfl
 |cons p ps ih=>intro b; simp only[Vj,ih,WT,List.length_append,EE]; omega
theorem YC: ∀(ps:List (List UInt8)) (i:Int) (b:List UInt8),b.length+WT ps≤800000→GN DS ps i b=some (Vj b ps):=by
 intro ps;induction ps with
 |nil=>intro i b _; rfl
 |cons p ps ih=>
  intro i b h;simp only[WT]at h;have h0:Hr b (toU (p.length:Int)) 4=some (b++LY 4 (toU (p.length:Int))):=put_eq _ 4 b (by omega) (by omega);simp only[GN,DS,h0,Ab];rw[LB 1 (by simp[EE]; omega) (by simp[EE]; omega)];simp only[Ab];rw[ih _ _ (by simp[EE]; omega)];rfl
def ptag (t:ByteArray)(ps:List (List UInt8)):UInt64×UInt64:=AbN (Vj (toB (t.size:Int)::t.data.toList) ps)
theorem VY (t:ByteArray)(ps:List (List UInt8))(h:t.data.toList.length+WT ps≤700000):EK t ps=some (ptag t ps):=by
 simp only[EK];rw[LB 1 (by simp at h⊢; omega) (by simp at h⊢; omega)];simp only[Ab];rw[YC _ _ _ (by simp at h⊢; omega)];simp only[Ab];rw[sum_eq _ (by rw[RK]; simp at h⊢; omega)];rfl
def ppair (a b:UInt64×UInt64):UInt64×UInt64:=ptag ⟨#[110,111,100,101]⟩ [Aac a,Aac b]
end Go.Proofs.YtbajlmaijjcbmaaGreatDoor
end
