/- Several texts, one behind the other. Conditions: none. -/
import Derived.Test.YtbajlmaijjcbmaaGreatDoorZf
import Derived.Test.YtbajlmaijjcbmaaGreatDoorZg
import Derived.KernelRfl
import Derived.Test.YtbajlmaijjcbmaaGreatDoorZb
set_option linter.unusedSimpArgs false
set_option linter.unusedVariables false
set_option maxHeartbeats 20000000
set_option maxRecDepth 100000
section
namespace Go.Proofs.YtbajlmaijjcbmaaGreatDoor
open Go Go.Gw Go.Ax
def Tot {α:Type}(x:Option α):Prop:= ∃r,x=some r
theorem tot {α:Type}(r:α):Tot (some r):=⟨r,rfl⟩
theorem BQ {α β:Type}{x:Option α}{k:α→Option β}(h:Tot x)(hk: ∀a,x=some a→Tot (k a)):Tot (Ae x k):=by
 obtain⟨a,h⟩:=h;rw[h]; exact hk a h
theorem IW {α:Type} [Inhabited α]{b:Bool}{x:Option α}(h:b=true→Tot x):Tot (gu b x):=by
 cases b with
 |true=>exact h rfl
 |false=>exact tot default
theorem KO {α:Type}{b:Bool}{x y:Option α}(h1:b=true→Tot x)(h0:b=false→Tot y):Tot (if b=true then x else y):=by
 cases b with
 |true=>exact h1 rfl
 |false=>exact h0 rfl
theorem Xq {α:Type}{c:Prop} [Decidable c]{x y:Option α}(h1:c→Tot x)(h0: ¬c→Tot y):Tot (if c then x else y):=by
 split
 ·exact h1 ‹_›
 ·exact h0 ‹_›
theorem Jd {σ τ:Type}{step:σ→Option (σ⊕τ)}(μ:σ→Nat)(I:σ→Prop)(Q:τ→Prop)
  (h: ∀s,I s→∃r,step s=some r∧(∀s',r= .inl s'→I s'∧μ s'<μ s)∧∀t,r= .inr t→Q t): ∀n s,I s→μ s<n→∃t,iter step n s=some t∧Q t
 |0,s,_,hn=>by omega
 |n+1,s,hI,hn=>by
  obtain⟨r,h1,h2,h3⟩:=h s hI;cases r with
  |inr t=>exact⟨t,by show Ae (step s) _=_; rw[h1]; rfl,h3 t rfl⟩
  |inl s'=>
   obtain⟨i',lt⟩:=h2 s' rfl;obtain⟨t,e,q⟩:=Jd μ I Q h n s' i' (by omega);exact⟨t,by show Ae (step s) _=_; rw[h1]; exact e,q⟩
theorem Mp (s:ByteArray)(i:Nat):1≤(Utf8.decode s i).2:=by
 unfold Utf8.decode;simp only;repeat' split
 all_goals simp
theorem FG:9223372036854775808≤C7:=Nat.le_of_ble_eq_true rfl
theorem Sk (c:Int):Gf c=some (decide (c≤32)||decide (c>126)):=rfl
theorem NF (s:ByteArray)(b:Bool)(hs:s.size<9223372036854775808):Tot (BK s b):=by
 unfold BK;refine BQ ?_ fun a _=> ?_
 ·obtain⟨t,e,_⟩:=Jd (step:=Bu s b) (fun i=>s.size-i) (fun _=>True) (fun _=>True) (fun i _=>by
   unfold Bu;by_cases hi:i<s.size
   ·rw[if_pos hi];simp only[bnd,Sk,Ab];split
    ·exact⟨_,rfl,fun s' h=>(by cases h),fun _ _=>trivial⟩
    ·refine⟨_,rfl,fun s' h=> ?_,fun _ _=>trivial⟩;cases h;have:=Mp s i;exact⟨trivial,by omega⟩
   ·rw[if_neg hi];exact⟨_,rfl,fun s' h=>(by cases h),fun _ _=>trivial⟩) C7 0 trivial (by have:=FG; omega)
  exact⟨t,e⟩
 ·cases a with
  |inl _=>exact tot _
  |inr _=>exact tot _
theorem U3 (s:ByteArray):Tot (CR s):=by
 unfold CR;refine BQ (IW fun h=> ?_) fun a _=>tot _;simp only[Bool.and_eq_true,decide_eq_true_eq]at h;unfold BN B7;refine BQ (BQ (NF s true (by omega)) fun a _=>tot _) fun a _=>tot _
theorem Si {s:ByteArray}{b:Bool}(h:CR s=some b):b=true→eqS s (⟨#[]⟩:ByteArray)=false∧s.size≤64:=by
 unfold CR at h;obtain⟨x,_,h⟩:=Aa h;have h:=Option.some.inj (AY h);intro hb;rw[hb]at h;simp only[Bool.and_eq_true,Bool.not_eq_true',decide_eq_true_eq]at h;exact⟨h.1.1,by omega⟩
theorem NJ (c:Int):Tot (B4 c):=tot _
theorem TX (c:Int):Tot (B2 c):=by
 unfold B2;exact BQ (IW fun _=>NJ c) fun a _=>tot _
theorem TK (s:ByteArray):Tot (CL s):=by
 unfold CL;refine KO (fun _=>tot _) fun h=> ?_;simp only[Bool.or_eq_false_iff,decide_eq_false_iff_not]at h;refine BQ ?_ fun a _=> ?_
 ·obtain⟨t,e,_⟩:=Jd (step:=AM s) (fun i=>s.size-i) (fun _=>True) (fun _=>True) (fun i _=>by
   unfold AM;by_cases hi:i<s.size
   ·rw[if_pos hi];have hd:=Mp s i;obtain⟨x4,h4⟩:=IW (b:=((i:Int)==(w64 ((s.size:Int)-1)))) fun _=>NJ ((Utf8.decode s i).1:Int);obtain⟨x7,h7⟩:=IW (b:=((i:Int)==0)) fun _=>NJ ((Utf8.decode s i).1:Int);obtain⟨x9,h9⟩:=IW (b:=(!((i:Int)==0))) fun _=>TX ((Utf8.decode s i).1:Int);simp only[bnd,h4,h7,h9,Ab];split
    ·exact⟨_,rfl,fun s' h=>(by cases h; exact⟨trivial,by omega⟩),fun _ _=>trivial⟩
    ·split
     ·exact⟨_,rfl,fun s' h=>(by cases h),fun _ _=>trivial⟩
     ·split
      ·exact⟨_,rfl,fun s' h=>(by cases h; exact⟨trivial,by omega⟩),fun _ _=>trivial⟩
      ·split
       ·exact⟨_,rfl,fun s' h=>(by cases h),fun _ _=>trivial⟩
       ·exact⟨_,rfl,fun s' h=>(by cases h; exact⟨trivial,by omega⟩),fun _ _=>trivial⟩
   ·rw[if_neg hi];exact⟨_,rfl,fun s' h=>(by cases h),fun _ _=>trivial⟩) C7 0 trivial (by have:=FG; omega)
  exact⟨t,e⟩
 ·cases a with
  |inl _=>exact tot _
  |inr _=>exact tot _
theorem WR: ∀(l:List UInt8) (c:UInt8),Lib.indexByte l c<l.length
 | [],c=>by simp[Lib.indexByte]
 |b::l,c=>by
  have:=WR l c;unfold Lib.indexByte;split
  ·rw[List.length_cons]; omega
  ·split
   ·rw[List.length_cons]; omega
   ·rw[List.length_cons]; omega
theorem BH (s:ByteArray):s.data.toList.length=s.size:=by rw[Array.length_toList]; rfl
theorem OS (s:ByteArray): ∃x:Int,Bi s (⟨#[46]⟩:ByteArray)=some x∧ -1≤x∧x<s.size:=by
 unfold Bi AF A2;simp only[bnd];by_cases h:((((⟨#[46]⟩:ByteArray).size:Int)==0)||eqS (⟨#[46]⟩:ByteArray) s)=true
 ·rw[if_pos h];refine⟨0,rfl,by omega,?_⟩;have h1:eqS (⟨#[46]⟩:ByteArray) s=true:=by
   cases he:eqS (⟨#[46]⟩:ByteArray) s with
   |true=>rfl
   |false=>rw[he]at h; cases h
  have h2: [(46:UInt8)]=s.data.toList:=by simpa[eqS]using h1
  have h3:=BH s;rw[←h2]at h3;simp only[List.length_cons,List.length_nil]at h3;omega
 ·rw[if_neg h];refine⟨TR s 46,rfl,Lib.indexByte_ge _ _,?_⟩;have:=WR s.data.toList 46;rw[BH]at this;exact this
theorem Eh {x:Int}(h0: -9223372036854775808≤x)(h1:x≤9223372036854775807):w64 x=x:=by
 unfold w64; omega
theorem FF {s:ByteArray}{lo hi:Int}(h0:0≤lo)(h1:lo≤hi)(h2:hi≤s.size):LI s lo hi=some (s.extract lo.toNat hi.toNat):=by
 unfold LI; rw[if_pos ⟨h0,h1,h2⟩]
theorem QK (s:ByteArray)(n k:Int)(hk:k≤64):Tot (BF s n k):=by
 unfold BF;refine BQ ?_ fun x2 hx2=> ?_
 ·refine KO (fun _=>tot _) fun _=> ?_;exact⟨_,rfl⟩
 ·refine KO (fun _=>tot _) fun h=> ?_;have hsz:s.size≤64:=by
   cases hd:decide ((s.size:Int)>k)with
   |true=>rw[if_pos hd]at hx2; cases hx2; cases h
   |false=>simp only[decide_eq_false_iff_not]at hd; omega
  have key: ∃r,A6 (fun(s:(Unit)×Nat) (b0:ByteArray)=>if s.2=0 then Ae (Bj b0 s) fun y=>some (y.2==0,y)else none) (⟨#[46]⟩:ByteArray) s 0 ((),0)=some r:=by
   have hb5: ∀(b0:ByteArray) (s:Unit×Nat),∃z:Nat,Bj b0 s=some ((),z):=fun b0 s=>by
    unfold Bj;obtain⟨y,hy⟩:=TK b0;rw[hy];simp only[Ab];split
    ·exact⟨1,rfl⟩
    ·exact⟨0,rfl⟩
   unfold A6;rw[if_neg (by decide)];obtain⟨tt,hit,hq⟩: ∃t,iter (Aw (fun(s:(Unit)×Nat) (b0:ByteArray)=>if s.2=0 then Ae (Bj b0 s) fun y=>some (y.2==0,y)else none) (⟨#[46]⟩:ByteArray) 0) C7 (s,((),0))=some t∧∀y,t= .inl y→y.2.2=0:=by
    exact Jd (step:=Aw (fun(s:(Unit)×Nat) (b0:ByteArray)=>if s.2=0 then Ae (Bj b0 s) fun y=>some (y.2==0,y)else none) (⟨#[46]⟩:ByteArray) 0) (fun z=>z.1.size) (fun z=>z.1.size≤64∧z.2.2=0) (fun t=> ∀y,t= .inl y→y.2.2=0) (fun z hz=>by
     obtain⟨x,h1,h2,h3⟩:=OS z.1;unfold Aw;rw[h1];simp only[Ab];by_cases hx:x<0
     ·rw[if_pos (by simpa using hx)];exact⟨_,rfl,fun s' h=>(by cases h),fun t ht y hy=>by subst hy; cases ht; exact hz.2⟩
     ·rw[if_neg (by simpa using hx)];have hw:w64 (x+0)=x:=by rw[Int.add_zero]; exact Eh (by omega) (by omega)
      have hw1:w64 (x+((⟨#[46]⟩:ByteArray).size:Int))=x+1:=Eh (x:=x+1) (by omega) (by omega);rw[hw,hw1,FF (by omega) (by omega) (by omega),FF (lo:=x+1) (by omega) (by omega) (by omega)];simp only[Ab,if_pos hz.2];obtain⟨zz,hzz⟩:=hb5 (z.1.extract (0:Int).toNat x.toNat) z.2;rw[hzz];simp only[Ab];split
      ·exact⟨_,rfl,fun s' h=>(by cases h),fun t ht y hy=>by subst hy; cases ht⟩
      ·rename_i hne;refine⟨_,rfl,fun s' h=> ?_,fun t ht=>by cases ht⟩;cases h;have e0:zz=0:=by simpa using hne
       refine⟨⟨?_,e0⟩,?_⟩
       ·simp only[ByteArray.size_extract]; omega
       ·simp only[ByteArray.size_extract]; omega) C7 (s,((),0)) ⟨hsz,rfl⟩ (by have:=FG; show s.size<C7; omega)
   show Tot (Ae (iter _ C7 (s,((),0))) _);rw[hit];cases tt with
   |inr _=>exact tot _
   |inl y3=>
    have h0:=hq y3 rfl;obtain⟨zz,hzz⟩:=hb5 y3.1 y3.2;simp only[Ab,if_pos h0,hzz];exact tot _
  obtain⟨r,hr⟩:=key;show Tot (Ae (A6 _ (⟨#[46]⟩:ByteArray) s 0 ((),0)) _);rw[hr];simp only[Ab];exact Xq (fun _=>tot _) fun _=>tot _
theorem WS (s:ByteArray):Tot (Dy s):=BQ (QK s 8 64 (by decide)) fun a _=>tot _
theorem UO (s:ByteArray):Tot (Ck s):=by
 unfold Ck;refine BQ (WS s) fun a _=>BQ ?_ fun a _=>tot _;unfold DO;exact KO (fun _=>tot _) fun _=>tot _
theorem NM (s:ByteArray):Tot (Bv s (⟨#[42,46]⟩:ByteArray)):=by
 unfold Bv AP AO;refine BQ (BQ (BQ (IW fun h=> ?_) fun a _=>tot _) fun b hb=> ?_) fun a _=>tot _
 ·simp only[decide_eq_true_eq]at h;exact⟨_,FF (by omega) (by omega) h⟩
 ·refine KO (fun _=>tot _) fun h=> ?_;obtain⟨x,_,hx⟩:=Aa hb;have hx:=Option.some.inj (AY hx);have hb:b=true:=by simpa using h
  rw[hb]at hx;simp only[Bool.and_eq_true,decide_eq_true_eq]at hx;exact BQ ⟨_,FF (by omega) hx.1 (by omega)⟩ fun a _=>tot _
theorem Qg (s:ByteArray):Tot (B5 s):=by
 unfold B5 B3;refine BQ (BQ (WS s) fun a _=>KO (fun _=>tot _) fun _=>BQ (NM s) fun b _=>BQ (IW fun _=>QK _ 7 62 (by decide)) fun c _=>tot _) fun a _=>BQ ?_ fun a _=>tot _;unfold DO;exact KO (fun _=>tot _) fun _=>tot _
end Go.Proofs.YtbajlmaijjcbmaaGreatDoor
end
section
namespace Go.Proofs.YtbajlmaijjcbmaaGreatDoor
open Go Go.Gw Go.Ax
theorem Sg {α:Type}{x:Option α}{d:α}(h:Tot x):x=some (x.getD d):=by
 obtain⟨r,h⟩:=h;rw[h]; rfl
def textV (s:ByteArray):Bool:=(CR s).getD false
def nameV (s:ByteArray):Int:=(Ck s).getD 0
def patV (s:ByteArray):Int:=(B5 s).getD 0
theorem Sj (s:ByteArray):CR s=some (textV s):=Sg (U3 s)
theorem Nt (s:ByteArray):Ck s=some (nameV s):=Sg (UO s)
theorem Tp (s:ByteArray):B5 s=some (patV s):=Sg (Qg s)
theorem Qo {s:ByteArray}(h:textV s=true):eqS s (⟨#[]⟩:ByteArray)=false∧s.size≤64:=Si (Sj s) h
theorem OJ {s:ByteArray}{n k:Int}(h:BF s n k=some true):(s.size:Int)≤k:=by
 unfold BF at h;obtain⟨x,hx,h⟩:=Aa h;cases hd:decide ((s.size:Int)>k)with
 |true=>
  rw[if_pos hd]at hx;cases hx;cases h
 |false=>simp only[decide_eq_false_iff_not]at hd; omega
theorem TT {s:ByteArray}(h:Dy s=some true):s.size≤64:=by
 obtain⟨x,hx,h⟩:=Aa h;cases h;have:=OJ hx;omega
theorem Om {b:Bool}{r:Int}(h:DO b=some r)(h0:r=0):b=true:=by
 cases b with
 |true=>rfl
 |false=>
  have h2:(110:Int)=r:=Option.some.inj h;omega
theorem RL {s:ByteArray}(h:nameV s=0):s.size≤64:=by
 have e:=Nt s;rw[h]at e;obtain⟨x,hx,e⟩:=Aa e;obtain⟨y,hy,e⟩:=Aa e;cases e;have:=Om hy rfl;rw[this]at hx;exact TT hx
theorem LJ {s:ByteArray}{c:ByteArray×Bool}(h:Bv s (⟨#[42,46]⟩:ByteArray)=some c)(h1:c.2=true):c.1.size+2=s.size:=by
 unfold Bv AP AO at h;obtain⟨d,hd,h⟩:=Aa h;have h:=Option.some.inj h;subst h;obtain⟨p,hp,hd⟩:=Aa hd;cases p with
 |false=>
  have hd:=Option.some.inj hd;subst hd;cases h1
 |true=>
  obtain⟨q,hq,hd⟩:=Aa hd;have hd:=Option.some.inj hd;subst hd;unfold LI at hq;split at hq
  ·rename_i hc;have hq:=Option.some.inj hq;have e2:(⟨#[42,46]⟩:ByteArray).size=2:=rfl;rw[e2]at hq hc;show q.size+2=s.size;rw[←hq,ByteArray.size_extract];omega
  ·cases hq
theorem To {s:ByteArray}(h:patV s=0):s.size≤64:=by
 have e:=Tp s;rw[h]at e;obtain⟨x,hx,e⟩:=Aa e;obtain⟨y,hy,e⟩:=Aa e;cases e;have h1:=Om hy rfl;unfold B3 at hx;obtain⟨b,hb,hx⟩:=Aa hx;cases b with
 |true=>exact TT hb
 |false=>
  rw[if_neg (by decide)]at hx;obtain⟨c,hc,hx⟩:=Aa hx;obtain⟨d,hd,hx⟩:=Aa hx;have hx:=Option.some.inj hx;subst hx;have h2:(c.2&&d)=true:=h1;simp only[Bool.and_eq_true]at h2;rw[h2.1,h2.2]at hd;have h3:=OJ hd;have h4:=LJ hc h2.1;omega
def K6 (right:ByteArray→Int):List ByteArray→List ByteArray→Bool
 |_,[]=>true
 |met,s::l=> !(met.any (eqS s))&&right s==0&&K6 right (met++[s]) l
def HL (met:List ByteArray):List (ByteArray×Bool):=met.map fun s=>(s,true)
theorem K4: ∀(met:List ByteArray) (s:ByteArray) (i:Nat),(lkI (HL met) s i).isSome=met.any (eqS s)∧∀p,lkI (HL met) s i=some p→p.2=true
 | [],s,i=>⟨rfl,fun p h=>by cases h⟩
 |a::met,s,i=>by
  have ih:=K4 met s (i+1);rw[List.any_cons];cases h:eqS s a with
  |true=>
   refine⟨?_,fun p hp=> ?_⟩
   ·show(if eqS s a=true then some (i,true)else lkI (HL met) s (i+1)).isSome=_;rw[if_pos h]; rfl
   ·have hp:(if eqS s a=true then some (i,true)else lkI (HL met) s (i+1))=some p:=hp;rw[if_pos h]at hp;cases hp; rfl
  |false=>
   refine⟨?_,fun p hp=> ?_⟩
   ·show(if eqS s a=true then some (i,true)else lkI (HL met) s (i+1)).isSome=_;rw[if_neg (by rw[h]; decide)]; exact ih.1
   ·have hp:(if eqS s a=true then some (i,true)else lkI (HL met) s (i+1))=some p:=hp;rw[if_neg (by rw[h]; decide)]at hp;exact ih.2 p hp
theorem TE (met:List ByteArray)(s:ByteArray):lkB (HL met) s=met.any (eqS s):=by
 have h:=K4 met s 0;unfold lkB;rw[←h.1];cases e:lkI (HL met) s 0 with
 |none=>rfl
 |some p=>rw[Option.map_some,Option.getD_some,h.2 p e]; rfl
theorem Vx (met:List ByteArray)(s:ByteArray)(h:met.any (eqS s)=false):(lkI (HL met) s 0).isNone=true:=by
 have h1:=(K4 met s 0).1;rw[h]at h1;cases e:lkI (HL met) s 0 with
 |none=>rfl
 |some p=>rw[e]at h1; cases h1
theorem Yk (right:ByteArray→Int)(mr:ByteArray→Option Int)(hr: ∀s,mr s=some (right s)): ∀(l met:List ByteArray) (i:Int),
  Ds (fun(i1:Int) (x2:ByteArray) (s1:List (ByteArray×Bool))=>Ae (gu (!(lkB s1 x2)) (mr x2)) fun x3=>if((lkB s1 x2)||(x3 !=0))=true then some (.inr false)else if(lkI s1 x2 0).isNone=true then some (.inl (s1++[(x2,true)]))else none) l i (HL met)
   =some (if K6 right met l=true then .inl (HL (met++l))else .inr false)
 | [],met,i=>by simp[Ds,K6]
 |s::l,met,i=>by
  have ih:=Yk right mr hr l (met++[s]) (i+1);have hm':=TE met s;simp only[Ds,hr]at ih⊢;rw[hm'];cases hm:met.any (eqS s)with
  |true=>simp[gu,K6,hm]
  |false=>
   simp only[gu,Bool.not_false,cond_true,Ab,Bool.false_or];cases h0:right s==0 with
   |false=>
    have h1:(right s !=0)=true:=by simp only[bne,h0,Bool.not_false]
    rw[if_pos h1];simp[K6,hm,h0]
   |true=>
    have h1:(right s !=0)=false:=by simp only[bne,h0,Bool.not_true]
    rw[h1];simp only[Bool.false_eq_true,if_false,Vx met s hm,if_true,Ab];have e:HL met++[(s,true)]=HL (met++[s]):=by simp[HL]
    rw[e];simp only[gu]at ih;rw[ih];simp[K6,hm,h0]
def listV (right:ByteArray→Int)(l:List ByteArray)(a b:Int):Bool:=K6 right [] l&&decide ((l.length:Int)≥a)&&decide ((l.length:Int)≤b)
theorem TH (l:List ByteArray)(a b:Int):DU l a b=some (listV patV l a b):=by
 unfold DU;have h:=Yk patV B5 Tp l [] 0;show Ae (Ds _ l 0 (HL [])) _=_;unfold DF;rw[h];unfold listV;cases K6 patV [] l<;>rfl
theorem TG (l:List ByteArray)(a b:Int):DV l a b=some (listV nameV l a b):=by
 unfold DV;have h:=Yk nameV Ck Nt l [] 0;show Ae (Ds _ l 0 (HL [])) _=_;unfold DG;rw[h];unfold listV;cases K6 nameV [] l<;>rfl
theorem OM {right:ByteArray→Int}: ∀{l met:List ByteArray},K6 right met l=true→∀s∈l,right s=0
 | [],met,_,s,hs=>by cases hs
 |a::l,met,h,s,hs=>by
  simp only[K6,Bool.and_eq_true,beq_iff_eq]at h;rcases List.mem_cons.1 hs with e|hs
  ·rw[e]; exact h.1.2
  ·exact OM h.2 s hs
def numB (n:Int):Bool:=decide (n≥0)&&decide (n≤1099511627776)
def sigB (s:g_api_Sig):Bool:=decide ((Nx s.E s.S).toNat<1152921504606845789)
def promBC (p:g_api_Promise):Bool:=numB p.Log&&numB p.At&&decide ((Nx p.Leaf.1 p.Leaf.2).toNat<2305843009213693951)&&sigB p.Sig
theorem LY (n:Int):CP n=some (numB n):=rfl
theorem Ox (s:g_api_Sig):Eb s=some (sigB s):=by
 unfold Eb sigB;simp only[bnd,Option.some.injEq,decide_eq_decide];omega
theorem max_eq (a b:UInt64):Bz [a,b]=some (Nx a b):=by
 have e1:AK [a,b] (a,1)=some (.inl (Nx a b,2)):=rfl;have e2:AK [a,b] (Nx a b,2)=some (.inr (Nx a b)):=rfl;have h: ∀n,iter (AK [a,b]) (n+1+1) (a,1)=some (Nx a b):=fun n=>by
  simp only[iter,e1,Ab,e2]
 have hf:iter (AK [a,b]) C7 (a,1)=some (Nx a b):=h 18446744073709551614;have i0:idx [a,b] 0=some a:=rfl;have d0:decide ((([a,b]:List UInt64).length:Int)<1)=false:=rfl;unfold Bz;rw[d0,i0];simp only[Bool.false_eq_true,if_false,Ab,hf]
theorem RN {c v:Bool}:gu c (some v)=some (c&&v):=by cases c<;>rfl
theorem QU {α:Type} [Inhabited α](o:Option α):gu true o=o:=rfl
theorem WV {α:Type} [Inhabited α](o:Option α):gu false o=some default:=rfl
theorem Cz {α β:Type}(a:α)(k:α→β):bnd a k=k a:=rfl
theorem PE (p:g_api_Promise):DT p=some (promBC p):=by
 unfold DT promBC;simp only[LY,max_eq,Ox,RN,Cz,Ab];have e: ∀x:UInt64,decide ((x.toNat:Int)<2305843009213693951)=decide (x.toNat<2305843009213693951):=fun x=>by
  rw[decide_eq_decide]; omega
 simp only[e];cases numB p.Log with
 |false=>simp only[Bool.false_and,WV,Ab]
 |true=>
  cases numB p.At with
  |false=>simp only[Bool.false_and,Bool.true_and,WV,Ab]
  |true=>
   simp only[Bool.true_and,QU,Ab];cases decide ((Nx p.Leaf.1 p.Leaf.2).toNat<2305843009213693951)<;>simp only[Bool.false_and,Bool.true_and]
def promsB:Int→List g_api_Promise→Bool
 |_,[]=>true
 |last,p::l=>promBC p&& !(decide (p.Log≤last))&&promsB p.Log l
theorem QD: ∀(l:List g_api_Promise) (i last:Int),∃z:Int,Ds BP l i last=some (if promsB last l=true then .inl z else .inr false)
 | [],i,last=>⟨last,rfl⟩
 |p::l,i,last=>by
  obtain⟨z,ih⟩:=QD l (i+1) p.Log;refine⟨z,?_⟩;have e:BP i p last=some (if(promBC p&& !(decide (p.Log≤last)))=true then .inl p.Log else .inr false):=by
   unfold BP;rw[PE,Ab];cases promBC p<;>cases decide (p.Log≤last)<;>rfl
  show Ae (BP i p last) _=_;rw[e];cases h:promBC p&& !(decide (p.Log≤last))with
  |false=>
   simp[promsB,h]
  |true=>
   rw[if_pos rfl,Ab];show Ds BP l (i+1) p.Log=_;rw[ih];simp[promsB,h]
def formB (c:g_api_Cert):Bool:=promsB (-1) c.Proms&&(numB c.Serial&&numB c.From&&numB c.Until&&decide (c.From<c.Until))&&(textV c.Issuer&&(!((c.Key.toNat:Int)==0))&&decide ((c.Key.toNat:Int)<2305843009213691579)&&decide ((c.Proms.length:Int)≤4)&&sigB c.Sig)&&(if c.Ca=true then textV c.Subject&&((c.Names.length:Int)==0)&&decide (c.Depth≥0)&&decide (c.Depth≤4)&&listV patV c.Permit 0 8 else eqS c.Subject (⟨#[]⟩:ByteArray)&&listV nameV c.Names 1 8&&(c.Depth==0)&&((c.Permit.length:Int)==0))
theorem T9 (c:g_api_Cert):EZ c=some (formB c):=by
 obtain⟨z,hz⟩:=QD c.Proms 0 (-1);unfold EZ formB;rw[hz];cases promsB (-1) c.Proms with
 |false=>rfl
 |true=>
  rw[if_pos rfl,Ab];simp only[LY,Sj,Ox,TH,TG,RN,Cz,Ab,Bool.true_and];have e1:decide (c.From≥c.Until)= !decide (c.From<c.Until):=by
   rw[←decide_not,decide_eq_decide]; omega
  have e2:decide ((c.Key.toNat:Int)≥2305843009213691579)= !decide ((c.Key.toNat:Int)<2305843009213691579):=by
   rw[←decide_not,decide_eq_decide]; omega
  have e3:decide ((c.Proms.length:Int)>4)= !decide ((c.Proms.length:Int)≤4):=by
   rw[←decide_not,decide_eq_decide]; omega
  rw[e1,e2,e3];generalize numB c.Serial=a1;generalize numB c.From=a2;generalize numB c.Until=a3;generalize decide (c.From<c.Until)=a4;generalize textV c.Issuer=b1;generalize ((c.Key.toNat:Int)==0)=b2;generalize decide ((c.Key.toNat:Int)<2305843009213691579)=b3;generalize decide ((c.Proms.length:Int)≤4)=b4;generalize sigB c.Sig=b5;cases a1<;>cases a2<;>cases a3<;>cases a4<;>try rfl
  all_goals cases b1<;>cases b2<;>cases b3<;>cases b4<;>cases b5<;>try rfl
  cases c.Ca with
  |true=>
   show some _=some _;generalize listV patV c.Permit 0 8=d1;generalize textV c.Subject=d2;generalize ((c.Names.length:Int)==0)=d3;generalize decide (c.Depth≥0)=d4;generalize decide (c.Depth≤4)=d5;cases d1<;>cases d2<;>cases d3<;>cases d4<;>cases d5<;>rfl
  |false=>
   show some _=some _;generalize listV nameV c.Names 1 8=d1;generalize eqS c.Subject (⟨#[]⟩:ByteArray)=d2;cases d1<;>cases d2<;>rfl
end Go.Proofs.YtbajlmaijjcbmaaGreatDoor
end
section
namespace Go.Proofs.YtbajlmaijjcbmaaGreatDoor
open Go Go.Gw Go.Ax
theorem Mv {α:Type}(b:Nat){xs ys:List α}(h:(xs.length+ys.length)*b≤140737488355328)(h1:xs.length+ys.length≤140737488355328):app b xs ys=some (xs++ys):=by unfold app; rw[if_pos ⟨h,h1⟩]
theorem Qd {α:Type}(b:Nat){ys:List α}(h:ys.length*b≤140737488355328)(h1:ys.length≤140737488355328):app b [] ys=some ys:=by
 rw[Mv b (by simpa using h) (by simpa using h1)]; rfl
theorem cut_tl {α:Type}(x:α)(xs:List α):cut (x::xs) 1 (((x::xs).length:Nat):Int)=some xs:=by
 unfold cut;rw[if_pos ⟨by omega,by rw[List.length_cons]; omega,by omega⟩];show some (List.take _ xs)=_;rw[List.take_of_length_le];simp
def be8 (n:Int):List UInt8:=[toB (Ek n 56),toB (Ek n 48),toB (Ek n 40),toB (Ek n 32),toB (Ek n 24),toB (Ek n 16),toB (Ek n 8),toB (Ek n 0)]
def ON:List UInt8→Bool
 | []=>false
 | [_]=>true
 |a::b::l=>decide (((a::b::l).length:Int)≤8)&&((a.toNat:Int) !=((toB (-((shrB b 7).toNat:Int))).toNat:Int))
def Wk:List UInt8→List UInt8
 | []=> []
 | [a]=> [a]
 |a::b::l=>if ON (a::b::l)=true then a::b::l else Wk (b::l)
theorem Nz (l:List UInt8):Ev l=some (ON l):=by
 match l with
 | []=>rfl
 | [a]=>rfl
 |a::b::l=>
  unfold Ev;have e0:(((a::b::l).length:Int)==0)=false:=by simp only[beq_eq_false_iff_ne,List.length_cons]; omega
  have e1:(((a::b::l).length:Int)==1)=false:=by simp only[beq_eq_false_iff_ne,List.length_cons]; omega
  have i0:idx (a::b::l) 0=some a:=rfl;have i1:idx (a::b::l) 1=some b:=rfl;rw[e0,e1,i0,i1];simp only[Bool.false_eq_true,if_false,Ab,Cz,ON];cases decide (((a::b::l).length:Int)≤8)<;>rfl
theorem Se: ∀(n:Nat) (l:List UInt8),l.length<n→iter Co n l=some (Wk l)
 |0,l,h=>by omega
 |n+1,l,h=>by
  show Ae (Co l) _=_;match l with
  | []=>rfl
  | [a]=>rfl
  |a::b::l=>
   have ih:=Se n (b::l) (by simp only[List.length_cons]at h⊢; omega);have e0:decide (((a::b::l).length:Int)>1)=true:=by simp only[decide_eq_true_eq,List.length_cons]; omega
   cases hl:ON (a::b::l)with
   |true=>
    have e:Co (a::b::l)=some (.inr (a::b::l)):=by
     unfold Co;rw[e0,if_pos rfl,Nz,hl];rfl
    rw[e];simp[Wk,hl]
   |false=>
    have e:Co (a::b::l)=some (.inl (b::l)):=by
     unfold Co;rw[e0,if_pos rfl,Nz,hl,cut_tl];rfl
    rw[e];simp only[Ab];rw[ih];simp[Wk,hl]
theorem MZ: ∀(l:List UInt8),(Wk l).length≤l.length
 | []=>Nat.le_refl _
 | [a]=>Nat.le_refl _
 |a::b::l=>by
  have ih:=MZ (b::l);unfold Wk;split
  ·exact Nat.le_refl _
  ·rw[List.length_cons]; omega
def NZ (n:Int):g_api_Item:=⟨2,Wk (be8 n),[]⟩
theorem be8_eq (n:Int):Cx (GU n) 8 0 (0,0,0,0,0,0,0,0)=some (toB (Ek n 56),toB (Ek n 48),toB (Ek n 40),toB (Ek n 32),toB (Ek n 24),toB (Ek n 16),toB (Ek n 8),toB (Ek n 0)):=rfl
theorem Q8 {l:List UInt8}(h:l.length≤140737488355328):AW l=some l:=by
 unfold AW;rw[Qd 1 (by omega) h]; rfl
theorem TW (n:Int):Dr n=some (NZ n):=by
 have h8:(be8 n).length=8:=rfl;have h:=MZ (be8 n);unfold Dr;rw[be8_eq];show Ae (Ae (iter Co C7 (be8 n)) _) _=_;rw[Se C7 (be8 n) (by rw[h8]; have:=FG; omega)];show Ae (AW (Wk (be8 n))) _=_;rw[Q8 (by omega)];rfl
def N0 (x:UInt64):g_api_Item:=NZ (w64 (x.toNat:Int))
theorem Rc (x:UInt64):C3 x=some (N0 x):=by unfold C3; rw[TW]; rfl
def Iy (s:ByteArray):g_api_Item:=⟨12,s.data.toList,[]⟩
def Qb (v:Bool):g_api_Item:=⟨1,[if v=true then 255 else 0],[]⟩
def Qs (l:List g_api_Item):g_api_Item:=⟨48,[],l⟩
theorem M6 {s:ByteArray}(h:s.size≤140737488355328):Fv s=some (Iy s):=by
 unfold Fv;rw[Qd 1 (by rw[BH]; omega) (by rw[BH]; exact h)]; rfl
theorem Wb (v:Bool):Ig v=some (Qb v):=by cases v<;>rfl
theorem IB {l:List g_api_Item}(h:l.length≤1000000):DS l=some (Qs l):=by
 unfold DS A1;rw[Qd 56 (by omega) (by omega)]; rfl
theorem Qm: ∀(l:List ByteArray) (i:Int) (a:List g_api_Item),(∀s∈l,s.size≤64)→a.length+l.length≤1000000→E4 AZ l i a=some (a++l.map Iy)
 | [],i,a,_,_=>by simp[E4]
 |s::l,i,a,h,hn=>by
  rw[List.length_cons]at hn;have ih:=Qm l (i+1) (a++[Iy s]) (fun x hx=>h x (List.mem_cons_of_mem _ hx)) (by rw[List.length_append]; show a.length+1+_≤_; omega);have e:AZ i s a=some (a++[Iy s]):=by
   unfold AZ;rw[M6 (by have:=h s List.mem_cons_self; omega),Ab,Mv 56 (by show(a.length+1)*56≤_; omega) (by show a.length+1≤_; omega)];rfl
  show Ae (AZ i s a) _=_;rw[e];show E4 _ l (i+1) (a++[Iy s])=_;rw[ih];simp
def KP (l:List ByteArray):g_api_Item:=Qs (l.map Iy)
theorem Qn {l:List ByteArray}(h: ∀s∈l,s.size≤64)(hn:l.length≤1000000):BG l=some (KP l):=by
 unfold BG;rw[Qm l 0 [] h (by simpa using hn)];simp only[Ab,List.nil_append];rw[IB (by rw[List.length_map]; exact hn)]; rfl
def Nm (p:g_api_Promise):g_api_Item:=Qs [NZ p.Log,NZ p.At,N0 p.Leaf.1,N0 p.Leaf.2,N0 p.Sig.E,N0 p.Sig.S]
theorem Vg (p:g_api_Promise):E0 p=some (Nm p):=by
 unfold E0;simp only[TW,Rc,Ab];rw[IB (by simp)]; rfl
theorem QC: ∀(l:List g_api_Promise) (i:Int) (a:List g_api_Item),a.length+l.length≤1000000→E4 AH l i a=some (a++l.map Nm)
 | [],i,a,_=>by simp[E4]
 |s::l,i,a,hn=>by
  rw[List.length_cons]at hn;have ih:=QC l (i+1) (a++[Nm s]) (by rw[List.length_append]; show a.length+1+_≤_; omega);have e:AH i s a=some (a++[Nm s]):=by
   unfold AH;rw[Vg,Ab,Mv 56 (by show(a.length+1)*56≤_; omega) (by show a.length+1≤_; omega)];rfl
  show Ae (AH i s a) _=_;rw[e];show E4 _ l (i+1) (a++[Nm s])=_;rw[ih];simp
def QE (l:List g_api_Promise):g_api_Item:=Qs (l.map Nm)
theorem Tf {l:List g_api_Promise}(hn:l.length≤1000000):Bw l=some (QE l):=by
 unfold Bw;rw[QC l 0 [] (by simpa using hn)];simp only[Ab,List.nil_append];rw[IB (by rw[List.length_map]; exact hn)]; rfl
structure Qf (c:g_api_Cert):Prop where
 issuer:c.Issuer.size≤64
 subject:c.Subject.size≤64
 names: ∀s∈c.Names,s.size≤64
 few:c.Names.length≤8
 permit: ∀s∈c.Permit,s.size≤64
 fewP:c.Permit.length≤8
 proms:c.Proms.length≤4
def preI (c:g_api_Cert):g_api_Item:=Qs [NZ c.Serial,Iy c.Issuer,Iy c.Subject,N0 c.Key,KP c.Names,NZ c.From,NZ c.Until,Qb c.Ca,NZ c.Depth,KP c.Permit]
def Lt (c:g_api_Cert):g_api_Item:=Qs [preI c,QE c.Proms]
def wholeI (c:g_api_Cert):g_api_Item:=Qs [Lt c,Qs [N0 c.Sig.E,N0 c.Sig.S]]
theorem XV {c:g_api_Cert}(h:Qf c):He c=some (preI c):=by
 unfold He;have h1:=h.issuer; have h2:=h.subject; have h3:=h.few; have h4:=h.fewP;simp only[TW,Rc,Wb,M6 (s:=c.Issuer) (by omega),M6 (s:=c.Subject) (by omega),Qn h.names (by omega),Qn h.permit (by omega),Ab];rw[IB (by simp)]; rfl
theorem Rb {c:g_api_Cert}(h:Qf c):Fx c=some (Lt c):=by
 unfold Fx;have h1:=h.proms;rw[XV h,Tf (by omega)];simp only[Ab];rw[IB (by simp)]; rfl
theorem R4 {c:g_api_Cert}(h:Qf c):FL c=some (wholeI c):=by
 unfold FL;rw[Rb h,Rc,Rc];simp only[Ab];rw[IB (by simp)];simp only[Ab];rw[IB (by simp)]; rfl
structure Form (c:g_api_Cert):Prop where
 proms:promsB (-1) c.Proms=true
 serial:numB c.Serial=true
 frm:numB c.From=true
 til:numB c.Until=true
 lt:c.From<c.Until
 issuer:textV c.Issuer=true
 key0:(c.Key.toNat:Int)≠0
 keyQ:(c.Key.toNat:Int)<2305843009213691579
 nproms:(c.Proms.length:Int)≤4
 sig:sigB c.Sig=true
 ca:c.Ca=true→textV c.Subject=true∧c.Names=[]∧0≤c.Depth∧c.Depth≤4∧listV patV c.Permit 0 8=true
 leaf:c.Ca=false→c.Subject=(⟨#[]⟩:ByteArray)∧listV nameV c.Names 1 8=true∧c.Depth=0∧c.Permit=[]
theorem Ua {c:g_api_Cert}(h:formB c=true):Form c:=by
 unfold formB at h;simp only[Bool.and_eq_true,decide_eq_true_eq,Bool.not_eq_true',beq_eq_false_iff_ne]at h;obtain⟨⟨⟨h1,⟨⟨h2,h3⟩,h4⟩,h5⟩,⟨⟨⟨h6,h7⟩,h8⟩,h9⟩,h10⟩,h11⟩:=h;refine⟨h1,h2,h3,h4,h5,h6,h7,h8,h9,h10,fun e=> ?_,fun e=> ?_⟩
 ·rw[if_pos e]at h11;simp only[Bool.and_eq_true,decide_eq_true_eq,beq_iff_eq]at h11;obtain⟨⟨⟨⟨a,b⟩,d⟩,f⟩,g⟩:=h11;exact⟨a,List.eq_nil_of_length_eq_zero (by omega),by omega,f,g⟩
 ·rw[e]at h11;simp only[Bool.false_eq_true,if_false,Bool.and_eq_true,decide_eq_true_eq,beq_iff_eq]at h11;obtain⟨⟨⟨a,b⟩,d⟩,f⟩:=h11;exact⟨IG.1 a,b,d,List.eq_nil_of_length_eq_zero (by omega)⟩
theorem OL {right:ByteArray→Int}{l:List ByteArray}{a b:Int}(h:listV right l a b=true):a≤l.length∧(l.length:Int)≤b∧∀s∈l,right s=0:=by
 unfold listV at h;simp only[Bool.and_eq_true,decide_eq_true_eq]at h;exact⟨by omega,h.2,OM h.1.1⟩
theorem Form.sized {c:g_api_Cert}(h:Form c):Qf c:=by
 have hi:=(Qo h.issuer).2;have hp:=h.nproms;cases hc:c.Ca with
 |true=>
  obtain⟨h1,h2,h3,h4,h5⟩:=h.ca hc;obtain⟨l1,l2,l3⟩:=OL h5;exact⟨hi,(Qo h1).2,(by rw[h2]; intro s hs; cases hs),by rw[h2]; decide,fun s hs=>To (l3 s hs),by omega,by omega⟩
 |false=>
  obtain⟨h1,h2,h3,h4⟩:=h.leaf hc;obtain⟨l1,l2,l3⟩:=OL h2;exact⟨hi,by rw[h1]; decide,fun s hs=>RL (l3 s hs),by omega,(by rw[h4]; intro s hs; cases hs),by rw[h4]; decide,by omega⟩
end Go.Proofs.YtbajlmaijjcbmaaGreatDoor
end
section
namespace Go.Proofs.YtbajlmaijjcbmaaGreatDoor
open Go Go.Gw Go.Ax
theorem YR (t:Int):Fu t=some (if t=1 then(⟨1,252⟩,true)else if t=2 then(⟨2,157⟩,true)else if t=4 then(⟨4,253⟩,true)else if t=12 then(⟨12,254⟩,true)else if t=48 then(⟨48,257⟩,true)else(⟨0,-1⟩,false)):=by
 by_cases h1:t=1
 ·subst h1; rfl
 by_cases h2:t=2
 ·subst h2; rfl
 by_cases h3:t=4
 ·subst h3; rfl
 by_cases h4:t=12
 ·subst h4; rfl
 by_cases h5:t=48
 ·subst h5; rfl
 rw[if_neg h1,if_neg h2,if_neg h3,if_neg h4,if_neg h5];have b: ∀(k:Int),t≠k→((k==t)=true)=False:=fun k h=>by simp only[beq_iff_eq,eq_iff_iff,iff_false]; exact fun e=>h e.symm
 have g:Cl (Ah tab_0) tab_0.length 0 t=some (.inl t):=by
  have i: ∀(j:Nat) (k:CH),idx tab_0 (j:Int)=some k→t≠k.tag_→Ah tab_0 (j:Int) t=some (.inl t):=fun j k e hk=>by
   have hb:(k.tag_==t)=false:=by simp only[beq_eq_false_iff_ne]; exact fun e=>hk e.symm
   unfold Ah GS;rw[e];simp only[Ab,hb,Bool.false_eq_true,if_false]
  show Ae (Ah tab_0 ((0:Nat):Int) t) _=_;rw[i 0 ⟨1,252⟩ rfl h1];show Ae (Ah tab_0 ((1:Nat):Int) t) _=_;rw[i 1 ⟨2,157⟩ rfl h2];show Ae (Ah tab_0 ((2:Nat):Int) t) _=_;rw[i 2 ⟨4,253⟩ rfl h3];show Ae (Ah tab_0 ((3:Nat):Int) t) _=_;rw[i 3 ⟨12,254⟩ rfl h4];show Ae (Ah tab_0 ((4:Nat):Int) t) _=_;rw[i 4 ⟨48,257⟩ rfl h5];rfl
 unfold Fu AU;rw[g];rfl
def La (t:Int):Bool:=t==1||t==2||t==4||t==12||t==48
def boolB (b:List UInt8):Bool:=match b with| [x]=>x==0||x==255|_=>false
def JV (b:List UInt8):Bool:=b.all fun c=>decide (32≤c.toNat)&&decide (c.toNat≤126)
def TP (t:Int)(b:List UInt8):Bool:=if t=1 then boolB b else if t=2 then ON b else if t=4 then true else if t=12 then JV b else if t=48 then b.isEmpty else false
theorem TO (b:List UInt8):D9 b=some (boolB b):=by
 match b with
 | []=>rfl
 | [x]=>
  unfold D9;have e1:((([x]:List UInt8).length:Int)==1)=true:=rfl;have e2:idx [x] 0=some x:=rfl;rw[e1,e2];have e3: ∀n:UInt8,((x.toNat:Int)==n.toNat)=(x==n):=fun n=>by
   rw[Bool.eq_iff_iff,beq_iff_eq,beq_iff_eq,←UInt8.toNat_inj];omega
  have z0:((x.toNat:Int)==0)=(x==0):=e3 0;have z1:((x.toNat:Int)==255)=(x==255):=e3 255;simp only[QU,Ab,Cz,z0,z1,Bool.true_and];show _=some (x==0||x==255);cases h:x==0 with
  |true=>rfl
  |false=>simp only[Bool.not_false,QU,Ab,Cz,z1,Bool.false_or]
 |x::y::l=>
  unfold D9;have e1:(((x::y::l).length:Int)==1)=false:=by simp only[beq_eq_false_iff_ne,List.length_cons]; omega
  rw[e1];rfl
theorem WT: ∀(a b:List UInt8),∃r,Cl (An (a++b)) b.length (a.length:Int) ()=some r∧(r= .inl ()↔JV b=true)∧∀i,r= .inr i→0≤i
 |a,[]=>⟨.inl (),rfl,by simp[JV],fun i h=>by cases h⟩
 |a,c::b=>by
  have hi:idx (a++c::b) (a.length:Int)=some c:=by
   unfold idx;rw[if_pos (by omega)];simp
  obtain⟨r,h1,h2,h3⟩:=WT (a++[c]) b;have ec:(decide ((c.toNat:Int)<32)||decide ((c.toNat:Int)>126))= !(decide (32≤c.toNat)&&decide (c.toNat≤126)):=by
   rw[Bool.eq_iff_iff];simp only[Bool.or_eq_true,Bool.not_eq_true',Bool.and_eq_false_iff,decide_eq_true_eq,decide_eq_false_iff_not];omega
  have st:An (a++c::b) (a.length:Int) ()=some (if(decide (32≤c.toNat)&&decide (c.toNat≤126))=true then .inl ()else .inr (a.length:Int)):=by
   unfold An EW;rw[hi];simp only[Ab,Cz,ec];cases decide (32≤c.toNat)&&decide (c.toNat≤126)<;>rfl
  show∃r,Ae (An (a++c::b) (a.length:Int) ()) _=some r∧_;rw[st];cases hc:decide (32≤c.toNat)&&decide (c.toNat≤126)with
  |false=>exact⟨.inr (a.length:Int),rfl,by simp[JV,hc],fun i h=>(by cases h; omega)⟩
  |true=>
   refine⟨r,?_,?_,h3⟩
   ·show Cl (An (a++c::b)) b.length ((a.length:Int)+1) ()=some r;rw[←h1];simp
   ·rw[h2];simp only[JV,List.all_cons,hc,Bool.true_and]
theorem TN (b:List UInt8):EX b=some (JV b):=by
 obtain⟨r,h1,h2,h3⟩:=WT [] b;unfold EX Bf Bq;have h1:Cl (An b) b.length 0 ()=some r:=h1;rw[h1];cases r with
 |inl u=>rw[h2.1 rfl]; rfl
 |inr i=>
  have hp:JV b=false:=by
   cases h:JV b with
   |false=>rfl
   |true=>exact absurd (h2.2 h) (by simp)
  have hi:=h3 i rfl;rw[hp];show some (!(decide (i≥0)))=_;rw[decide_eq_true hi]; rfl
theorem TM (b:List UInt8):EV b=some b.isEmpty:=by
 cases b with
 |nil=>rfl
 |cons a l=>
  unfold EV;have:(((a::l).length:Int)==0)=false:=by simp only[beq_eq_false_iff_ne,List.length_cons]; omega
  rw[this]; rfl
theorem PV {t:Int}(h:La t=true):t=1∨t=2∨t=4∨t=12∨t=48:=by
 unfold La at h;simp only[Bool.or_eq_true,beq_iff_eq]at h;omega
theorem Mn {t:Int}(h:La t=true): ∃k,Fu t=some (k,true)∧k.tag_=t∧∀b,Kh k.may_ b=some (TP t b):=by
 rcases PV h with e|e|e|e|e
 ·subst e; exact⟨_,rfl,rfl,TO⟩
 ·subst e; exact⟨_,rfl,rfl,Nz⟩
 ·subst e; exact⟨_,rfl,rfl,fun b=>rfl⟩
 ·subst e; exact⟨_,rfl,rfl,TN⟩
 ·subst e; exact⟨_,rfl,rfl,TM⟩
theorem H3 {t:Int}(h:La t=false):Fu t=some (⟨0,-1⟩,false)∧∀b,TP t b=false:=by
 unfold La at h;simp only[Bool.or_eq_false_iff,beq_eq_false_iff_ne]at h;obtain⟨⟨⟨⟨h1,h2⟩,h3⟩,h4⟩,h5⟩:=h;refine⟨?_,fun b=> ?_⟩
 ·rw[YR,if_neg h1,if_neg h2,if_neg h3,if_neg h4,if_neg h5]
 ·unfold TP;rw[if_neg h1,if_neg h2,if_neg h3,if_neg h4,if_neg h5]
def mayB:Nat→g_api_Item→Bool
 |0,_=>false
 |d+1,x=>TP x.Tag x.B&&(x.Tag==48||x.L.isEmpty)&&x.L.all (mayB d)
theorem WU (rF:g_api_Item→Int→Option Bool)(p:g_api_Item→Bool)(d:Int): ∀(a b:List g_api_Item),(∀y∈b,rF y (w64 (d-1))=some (p y))→
  ∃r,Cl (Ak rF (a++b)) b.length (a.length:Int) d=some r∧(r= .inl d↔b.all p=true)∧(∀e,r= .inl e→e=d)∧∀i,r= .inr i→0≤i.1
 |a,[],_=>⟨.inl d,rfl,by simp,fun e h=>by cases h; rfl,fun i h=>by cases h⟩
 |a,c::b,h=>by
  have hi:idx (a++c::b) (a.length:Int)=some c:=by
   unfold idx;rw[if_pos (by omega)];simp
  obtain⟨r,h1,h2,h4,h3⟩:=WU rF p d (a++[c]) b fun y hy=>h y (List.mem_cons_of_mem _ hy);have st:Ak rF (a++c::b) (a.length:Int) d=some (if p c=true then .inl d else .inr ((a.length:Int),d)):=by
   unfold Ak Ge;rw[hi];simp only[Ab,h c List.mem_cons_self];cases p c<;>rfl
  show∃r,Ae (Ak rF (a++c::b) (a.length:Int) d) _=some r∧_;rw[st];cases hc:p c with
  |false=>exact⟨.inr ((a.length:Int),d),rfl,by simp[hc],fun e h=>(by cases h),fun i h=>(by cases h; exact Int.natCast_nonneg _)⟩
  |true=>
   refine⟨r,?_,?_,h4,h3⟩
   ·show Cl (Ak rF (a++c::b)) b.length ((a.length:Int)+1) d=some r;rw[←h1];simp
   ·rw[h2];simp only[List.all_cons,hc,Bool.true_and]
theorem P8 (rF:g_api_Item→Int→Option Bool)(p:g_api_Item→Bool)(d:Int)(l:List g_api_Item)(h: ∀y∈l,rF y (w64 (d-1))=some (p y)):
  ∃z,AA rF l d=some (!(l.all p),z):=by
 obtain⟨r,h1,h2,h4,h3⟩:=WU rF p d [] l h;have h1:Cl (Ak rF l) l.length 0 d=some r:=h1;unfold AA AQ;rw[h1];cases r with
 |inl u=>
  have:=h4 u rfl;subst this;rw[h2.1 rfl];exact⟨_,rfl⟩
 |inr i=>
  have hp:l.all p=false:=by
   cases h:l.all p with
   |false=>rfl
   |true=>exact absurd (h2.2 h) (by simp)
  have hi:=h3 i rfl;rw[hp];refine⟨i.2,?_⟩;show some (decide (i.1≥0),i.2)=_;rw[decide_eq_true hi]; rfl
theorem WN: ∀(d n:Nat) (x:g_api_Item),d<n→d≤100→FJ n x (d:Int)=some (mayB d x)
 |d,0,x,h,_=>by omega
 |0,n+1,x,_,_=>by
  show Eu (FJ n) x 0=some false;unfold Eu;cases hk:La x.Tag with
  |false=>rw[(H3 hk).1]; rfl
  |true=>
   obtain⟨k,e,_,_⟩:=Mn hk;rw[e]; rfl
 |d+1,n+1,x,h,hd=>by
  have ih: ∀y∈x.L,FJ n y (w64 (((d+1:Nat):Int)-1))=some (mayB d y):=fun y _=>by
   rw[show w64 (((d+1:Nat):Int)-1)=(d:Int)from by rw[Eh (by omega) (by omega)]; omega];exact WN d n y (by omega) (by omega)
  obtain⟨z,hz⟩:=P8 (FJ n) (mayB d) ((d+1:Nat):Int) x.L ih;show Eu (FJ n) x ((d+1:Nat):Int)=some (mayB (d+1) x);unfold Eu mayB;have e1:decide (((d+1:Nat):Int)<1)=false:=by rw[decide_eq_false_iff_not]; omega
  have e2:decide ((x.L.length:Int)>0)= !x.L.isEmpty:=by
   cases x.L with
   |nil=>rfl
   |cons a l=>show decide _=true; rw[decide_eq_true_eq,List.length_cons]; omega
  have e3:(x.Tag !=48)= !(x.Tag==48):=rfl;rw[e1,e2,e3];cases hk:La x.Tag with
  |false=>
   rw[(H3 hk).1,(H3 hk).2]; rfl
  |true=>
   obtain⟨k,e,_,hm⟩:=Mn hk;rw[e];simp only[Ab,Bool.not_true,Bool.or_false,Bool.not_false,QU,hm,hz,Bool.not_not];cases TP x.Tag x.B<;>cases x.Tag==48<;>cases x.L.isEmpty<;>rfl
theorem Yi (x:g_api_Item):K3 x 8=some (mayB 8 x):=WN 8 C7 x (by have:=FG; omega) (by decide)
end Go.Proofs.YtbajlmaijjcbmaaGreatDoor
end
section
namespace Go.Proofs.YtbajlmaijjcbmaaGreatDoor
open Go Go.Gw Go.Ax
def K8 (n:Nat):List UInt8:=if n<128 then [toB (n:Int)]else if n<256 then [129,toB (n:Int)]else [130,toB (Ek (n:Int) 8),toB (n:Int)]
def putB:Nat→g_api_Item→List UInt8
 |0,_=> []
 |d+1,x=>toB x.Tag::(K8 (x.B++x.L.flatMap (putB d)).length++(x.B++x.L.flatMap (putB d)))
def depB:Nat→g_api_Item→Prop
 |0,_=>False
 |d+1,x=> ∀y∈x.L,depB d y
theorem Uo: ∀{d:Nat} {x:g_api_Item},mayB d x=true→depB d x
 |0,x,h=>by cases h
 |d+1,x,h=>by
  simp only[mayB,Bool.and_eq_true,List.all_eq_true]at h;exact fun y hy=>Uo (h.2 y hy)
theorem QQ (n:Nat):1≤(K8 n).length∧(K8 n).length≤3:=by
 unfold K8;split
 ·exact⟨by simp,by simp⟩
 ·split
  ·exact⟨by simp,by simp⟩
  ·exact⟨by simp,by simp⟩
theorem putE: ∀(d n:Nat) (x:g_api_Item) (b:List UInt8),d≤n→depB d x→b.length+(putB d x).length≤100000000000000→EN n b x=some (b++putB d x)
 |0,n,x,b,_,h,_=>h.elim
 |d+1,0,x,b,h,_,_=>by omega
 |d+1,n+1,x,b,hn,hd,hb=>by
  have eP:putB (d+1) x=toB x.Tag::(K8 (x.B++x.L.flatMap (putB d)).length++(x.B++x.L.flatMap (putB d))):=rfl;have go: ∀(l:List g_api_Item) (i:Int) (s:List UInt8),(∀y∈l,depB d y)→s.length+(l.flatMap (putB d)).length≤100000000000000→E4 (Ce (EN n)) l i s=some (s++l.flatMap (putB d)):=by
   intro l;induction l with
   |nil=>intro i s _ _; simp[E4]
   |cons y l ih=>
    intro i s h hs;rw[List.flatMap_cons,List.length_append]at hs;have e:Ce (EN n) i y s=some (s++putB d y):=by
     unfold Ce;rw[putE d n y s (by omega) (h y List.mem_cons_self) (by omega)];rfl
    show Ae (Ce (EN n) i y s) _=_;rw[e];show E4 _ l (i+1) (s++putB d y)=_;rw[ih (i+1) (s++putB d y) (fun z hz=>h z (List.mem_cons_of_mem _ hz)) (by rw[List.length_append]; omega),List.flatMap_cons,List.append_assoc]
  rw[eP]at hb⊢;simp only[List.length_cons,List.length_append]at hb;have hc:DR (EN n) x=some (x.B++x.L.flatMap (putB d)):=by
   unfold DR;rw[Q8 (by omega),Ab,go x.L 0 x.B hd (by omega)];rfl
  show Gy (EN n) b x=_;unfold Gy;rw[hc,Ab,Mv 1 (by simp only[List.length_cons,List.length_nil]; omega) (by simp only[List.length_cons,List.length_nil]; omega),Ab];rw[←List.length_append]at hb;have hL:(x.B++x.L.flatMap (putB d)).length=(x.B++x.L.flatMap (putB d)).length:=rfl;generalize (x.B++x.L.flatMap (putB d))=c at hb hL⊢;have hl:=QQ c.length;have hm: ∀z:List UInt8,z.length≤3→app 1 (b++[toB x.Tag]) z=some (b++[toB x.Tag]++z):=fun z hz=>Mv 1 (by simp only[List.length_append,List.length_cons,List.length_nil]; omega) (by simp only[List.length_append,List.length_cons,List.length_nil]; omega);have fin:app 1 (b++[toB x.Tag]++K8 c.length) c=some (b++toB x.Tag::(K8 c.length++c)):=by
   rw[Mv 1 (by simp only[List.length_append,List.length_cons,List.length_nil]; omega) (by simp only[List.length_append,List.length_cons,List.length_nil]; omega)];simp
  have mid:(bnd (decide ((c.length:Int)<128)) fun x4=>
    if x4=true then
     Ae (app 1 (b++[toB x.Tag]) ([(toB (c.length:Int))]:List UInt8)) fun x5=>
     some x5
    else
    bnd ((decide ((c.length:Int)<256))) fun x6=>
    if x6=true then
     Ae (app 1 (b++[toB x.Tag]) ([129,(toB (c.length:Int))]:List UInt8)) fun x7=>
     some x7
    else
    Ae (app 1 (b++[toB x.Tag]) ([130,(toB (Ek (c.length:Int) 8)),(toB (c.length:Int))]:List UInt8)) fun x8=>
    some x8)=some (b++[toB x.Tag]++K8 c.length):=by
   rw[hm [toB (c.length:Int)] (by simp),hm [129,toB (c.length:Int)] (by simp),hm [130,toB (Ek (c.length:Int) 8),toB (c.length:Int)] (by simp)];simp only[Cz,Ab,decide_eq_true_eq];unfold K8;by_cases h1:c.length<128
   ·rw[if_pos h1,if_pos (by omega)]
   ·rw[if_neg h1,if_neg (by omega)];by_cases h2:c.length<256
    ·rw[if_pos h2,if_pos (by omega)]
    ·rw[if_neg h2,if_neg (by omega)]
  rw[mid];simp only[Ab];rw[fin];rfl
theorem XR {x:g_api_Item}(h:depB 8 x)(hs:(putB 8 x).length≤100000000000000):K0 [] x=some (putB 8 x):=by
 have:=putE 8 C7 x [] (by have:=FG; omega) h (by simpa using hs);exact this
theorem Xg {x:g_api_Item}(hs:(putB 8 x).length≤100000000000000):
  Gz x=some (if mayB 8 x=true then(if(putB 8 x).length≤8192 then(putB 8 x,0)else([],2))else([],1)):=by
 unfold Gz;rw[Yi];cases hm:mayB 8 x with
 |false=>rfl
 |true=>
  simp only[Ab,Bool.not_true,Bool.false_eq_true,if_false,if_true];rw[XR (Uo hm) hs];simp only[Ab,decide_eq_true_eq];by_cases h:(putB 8 x).length≤8192
  ·rw[if_neg (by omega),if_pos h]
  ·rw[if_pos (by omega),if_neg h]
theorem QY {α:Type}(f:α→List UInt8)(k:Nat): ∀(l:List α),(∀y∈l,(f y).length≤k)→(l.flatMap f).length≤l.length*k
 | [],_=>by simp
 |y::l,h=>by
  have h1:=h y List.mem_cons_self;have h2:=QY f k l fun z hz=>h z (List.mem_cons_of_mem _ hz);rw[List.flatMap_cons,List.length_append,List.length_cons,Nat.succ_mul];omega
theorem Nl (d:Nat)(x:g_api_Item):(putB (d+1) x).length≤4+x.B.length+(x.L.flatMap (putB d)).length:=by
 have:=QQ (x.B++x.L.flatMap (putB d)).length;show(toB x.Tag::(K8 (x.B++x.L.flatMap (putB d)).length++(x.B++x.L.flatMap (putB d)))).length≤_;rw[List.length_cons,List.length_append,List.length_append]at*;omega
theorem HZ (d:Nat)(n:Int):(putB d (NZ n)).length≤12:=by
 cases d with
 |zero=>simp[putB]
 |succ d=>
  have h:=Nl d (NZ n);have h1:(NZ n).B.length≤8:=MZ (be8 n);have h2:(NZ n).L=[]:=rfl;rw[h2]at h;simp only[List.flatMap_nil,List.length_nil]at h;omega
theorem KQ (d:Nat){s:ByteArray}(hs:s.size≤64):(putB d (Iy s)).length≤68:=by
 cases d with
 |zero=>simp[putB]
 |succ d=>
  have h:=Nl d (Iy s);have h1:(Iy s).B.length=s.size:=BH s;have h2:(Iy s).L=[]:=rfl;rw[h2]at h;simp only[List.flatMap_nil,List.length_nil]at h;omega
theorem UD (d:Nat)(v:Bool):(putB d (Qb v)).length≤5:=by
 cases d with
 |zero=>simp[putB]
 |succ d=>
  have h:=Nl d (Qb v);have h1:(Qb v).B.length=1:=rfl;have h2:(Qb v).L=[]:=rfl;rw[h2]at h;simp only[List.flatMap_nil,List.length_nil]at h;omega
theorem Hk (d:Nat)(l:List g_api_Item)(k:Nat)(hk: ∀e y,y∈l→(putB e y).length≤k):(putB d (Qs l)).length≤4+l.length*k:=by
 cases d with
 |zero=>simp[putB]
 |succ d=>
  have h:=Nl d (Qs l);have h1:(Qs l).B.length=0:=rfl;have h3:=QY (putB d) k l fun y hy=>hk d y hy;have h2:(Qs l).L=l:=rfl;rw[h2]at h;omega
theorem LU (d:Nat){l:List ByteArray}(h: ∀s∈l,s.size≤64)(hn:l.length≤8):(putB d (KP l)).length≤1000:=by
 have:=Hk d (l.map Iy) 68 fun e y hy=>by
  obtain⟨s,hs,e2⟩:=List.mem_map.1 hy;rw[←e2];exact KQ e (h s hs)
 rw[List.length_map]at this;unfold KP;omega
theorem mem2 {α:Type}{p:α→Prop}{a b:α}(ha:p a)(hb:p b): ∀y∈[a,b],p y:=by
 intro y hy;simp only[List.mem_cons,List.not_mem_nil,or_false]at hy;rcases hy with e|e<;>rw[e]<;>assumption
theorem Vi (d:Nat){c:g_api_Cert}(h:Qf c):(putB d (preI c)).length≤20000:=by
 have:=Hk d [NZ c.Serial,Iy c.Issuer,Iy c.Subject,N0 c.Key,KP c.Names,NZ c.From,NZ c.Until,Qb c.Ca,NZ c.Depth,KP c.Permit] 1000 fun e y hy=>by
  simp only[List.mem_cons,List.not_mem_nil,or_false]at hy;rcases hy with q|q|q|q|q|q|q|q|q|q<;>rw[q]
  ·have:=HZ e c.Serial; omega
  ·have:=KQ e h.issuer; omega
  ·have:=KQ e h.subject; omega
  ·have:=HZ e (w64 (c.Key.toNat:Int)); unfold N0; omega
  ·exact LU e h.names h.few
  ·have:=HZ e c.From; omega
  ·have:=HZ e c.Until; omega
  ·have:=UD e c.Ca; omega
  ·have:=HZ e c.Depth; omega
  ·exact LU e h.permit h.fewP
 simp only[List.length_cons,List.length_nil]at this;unfold preI;omega
theorem Tg (d:Nat)(p:g_api_Promise):(putB d (Nm p)).length≤100:=by
 have:=Hk d [NZ p.Log,NZ p.At,N0 p.Leaf.1,N0 p.Leaf.2,N0 p.Sig.E,N0 p.Sig.S] 12 fun e y hy=>by
  simp only[List.mem_cons,List.not_mem_nil,or_false]at hy;rcases hy with q|q|q|q|q|q<;>rw[q]<;>exact HZ e _
 simp only[List.length_cons,List.length_nil]at this;unfold Nm;omega
theorem UF (d:Nat){c:g_api_Cert}(h:Qf c):(putB d (Lt c)).length≤50000:=by
 have:=Hk d [preI c,QE c.Proms] 20000 fun e=>mem2 (p:=fun y=>(putB e y).length≤20000) (Vi e h) (by
  have:=Hk e (c.Proms.map Nm) 100 fun f y hy=>by
   obtain⟨p,hp,e2⟩:=List.mem_map.1 hy;rw[←e2];exact Tg f p
  rw[List.length_map]at this;have:=h.proms;unfold QE;omega)
 simp only[List.length_cons,List.length_nil]at this;unfold Lt;omega
theorem Rm (d:Nat){c:g_api_Cert}(h:Qf c):(putB d (wholeI c)).length≤200000:=by
 have:=Hk d [Lt c,Qs [N0 c.Sig.E,N0 c.Sig.S]] 50000 fun e=>mem2 (p:=fun y=>(putB e y).length≤50000) (UF e h) (by
  have:=Hk e [N0 c.Sig.E,N0 c.Sig.S] 12 fun f=>mem2 (p:=fun y=>(putB f y).length≤12) (HZ f _) (HZ f _);simp only[List.length_cons,List.length_nil]at this;omega)
 simp only[List.length_cons,List.length_nil]at this;unfold wholeI;omega
def checkV (c:g_api_Cert):Int:=if formB c=true then(if mayB 8 (wholeI c)=true∧(putB 8 (wholeI c)).length≤2048 then 0 else 2)else 1
theorem Y2 (b:List UInt8)(m:Bool):(Ae (some (if m=true then(if b.length≤8192 then(b,(0:Int))else([],2))else([],1))) fun x3=>if((x3.2 !=0)||(decide ((x3.1.length:Int)>2048)))=true then some (2:Int)else some 0)=some (if m=true∧b.length≤2048 then 0 else 2):=by
 cases m with
 |false=>rfl
 |true=>
  simp only[if_true,Ab,true_and];by_cases h1:b.length≤8192
  ·rw[if_pos h1];by_cases h2:b.length≤2048
   ·rw[if_pos h2,if_neg];simp only[bne_self_eq_false,Bool.false_or,decide_eq_true_eq];omega
   ·rw[if_neg h2,if_pos];simp only[bne_self_eq_false,Bool.false_or,decide_eq_true_eq];omega
  ·rw[if_neg h1];have h2: ¬b.length≤2048:=by omega
   rw[if_neg h2];rfl
theorem O3 (c:g_api_Cert):Dc c=some (checkV c):=by
 unfold Dc checkV;rw[T9];cases hf:formB c with
 |false=>rfl
 |true=>
  have hs:=(Ua hf).sized;simp only[Ab,Bool.not_true,Bool.false_eq_true,if_false,if_true];have hl:=Rm 8 hs;rw[R4 hs,Ab,Xg (by omega),Y2]
end Go.Proofs.YtbajlmaijjcbmaaGreatDoor
end
section
namespace Go.Proofs.YtbajlmaijjcbmaaGreatDoor
open Go Go.Gw Go.Ax
theorem Sh (n:Int):((toB n).toNat:Int)=n%256:=by
 have h:0≤n%256:=Int.emod_nonneg _ (by decide);have h2:n%256<256:=Int.emod_lt_of_pos _ (by decide);unfold toB;rw[UInt8.toNat_ofNat'];omega
theorem YY {α:Type}(a b:List α):cut (a++b) (a.length:Int) (((a++b).length:Nat):Int)=some b:=by
 unfold cut;rw[if_pos ⟨by omega,by rw[List.length_append]; omega,by omega⟩];simp only[Int.toNat_natCast,List.drop_left];rw[List.take_of_length_le];rw[List.length_append]; omega
theorem QX (p:g_api_Item→List UInt8){y:g_api_Item}: ∀{l:List g_api_Item},y∈l→(p y).length≤(l.flatMap p).length
 |z::l,h=>by
  rw[List.flatMap_cons,List.length_append];rcases List.mem_cons.1 h with e|h
  ·rw[e]; omega
  ·have:=QX p h; omega
end Go.Proofs.YtbajlmaijjcbmaaGreatDoor
end
section
namespace Go.Proofs.YtbajlmaijjcbmaaGreatDoor
open Go Go.Gw Go.Ax
def s8 (a:UInt8):Int:=if a.toNat<128 then(a.toNat:Int)else(a.toNat:Int)-256
def vfold (s:Int)(l:List UInt8):Int:=l.foldl (fun s b=>s*256+(b.toNat:Int)) s
def wfold (s:Int)(l:List UInt8):Int:=l.foldl (fun s b=>w64 (s*256+(b.toNat:Int))) s
def sval:List UInt8→Int
 | []=>0
 |a::l=>vfold (s8 a) l
def asintV:List UInt8→Int
 | []=>0
 |a::l=>wfold (s8 a) l
end Go.Proofs.YtbajlmaijjcbmaaGreatDoor
end
section
namespace Go.Proofs.YtbajlmaijjcbmaaGreatDoor
open Go Go.Gw Go.Ax
def sgn8 (a:UInt8):UInt8:=if a.toNat<128 then 0 else 255
end Go.Proofs.YtbajlmaijjcbmaaGreatDoor
end
section
namespace Go.Proofs.YtbajlmaijjcbmaaGreatDoor
open Go Go.Gw Go.Ax
theorem WX {s:ByteArray}{i:Nat}{b:UInt8}(h:s.data.toList[i]? =some b):s.get! i=b:=by
 have h2:s.data[i]? =some b:=by rw[←Array.getElem?_toList]; exact h
 show s.data[i]! =b;rw[getElem!_def,h2]
theorem dec_lo {s:ByteArray}{i:Nat}{b:UInt8}(h:s.data.toList[i]? =some b)(hb:b.toNat<128):Utf8.decode s i=(b.toNat,1):=by
 unfold Utf8.decode;simp only[Nat.add_zero,WX h];rw[if_pos hb]
theorem dec_hi {s:ByteArray}{i:Nat}{b:UInt8}(h:s.data.toList[i]? =some b)(hb: ¬b.toNat<128):128≤(Utf8.decode s i).1:=by
 unfold Utf8.decode;simp only[Nat.add_zero,WX h];rw[if_neg hb];have he:Utf8.runeError=65533:=rfl;split
 ·split
  ·assumption
  ·simp[he]
 ·split
  ·split
   ·rename_i h1;simp only[Bool.and_eq_true,decide_eq_true_eq]at h1;show 128≤_;omega
   ·simp[he]
  ·split
   ·split
    ·rename_i h1;simp only[Bool.and_eq_true,decide_eq_true_eq]at h1;show 128≤_;omega
    ·simp[he]
   ·simp[he]
def G0 (c:UInt8):Bool:=(decide (97≤c.toNat)&&decide (c.toNat≤122))||(decide (48≤c.toNat)&&decide (c.toNat≤57))
def VJ (c:UInt8):Bool:=c.toNat==45||G0 c
def Rz:List UInt8→Bool
 | []=>true
 | [c]=>G0 c
 |c::d::r=>VJ c&&Rz (d::r)
def NA:List UInt8→Bool
 | []=>false
 | [c]=>G0 c
 |c::d::r=>(G0 c||c.toNat==95)&&Rz (d::r)&&decide ((c::d::r).length≤16)
theorem OZ (n:Nat)(c:UInt8)(h:n=c.toNat):B4 (n:Int)=some (G0 c):=by
 subst h;unfold B4 G0;rw[Cz];congr 1;have e: ∀k:Nat,decide ((k:Int)≤(c.toNat:Int))=decide (k≤c.toNat):=fun k=>by rw[decide_eq_decide]; omega
 have e2: ∀k:Nat,decide ((c.toNat:Int)≤(k:Int))=decide (c.toNat≤k):=fun k=>by rw[decide_eq_decide]; omega
 rw[←e 97,←e2 122,←e 48,←e2 57];rfl
theorem Uk (n:Nat)(h:128≤n):B4 (n:Int)=some false:=by
 unfold B4;rw[Cz,decide_eq_false (show¬(n:Int)≤122 from by omega),decide_eq_false (show¬(n:Int)≤57 from by omega),Bool.and_false,Bool.and_false];rfl
theorem RM (n:Nat)(c:UInt8)(h:n=c.toNat):B2 (n:Int)=some (VJ c):=by
 unfold B2 VJ;rw[OZ n c h,RN,Ab];subst h;have e:((c.toNat:Int)==45)=(c.toNat==45):=by rw[Bool.eq_iff_iff,beq_iff_eq,beq_iff_eq]; omega
 rw[e];cases c.toNat==45<;>simp
theorem VI (n:Nat)(h:128≤n):B2 (n:Int)=some false:=by
 unfold B2;rw[Uk n h,RN,Ab];have e:((n:Int)==45)=false:=by rw[beq_eq_false_iff_ne]; omega
 rw[e]; rfl
theorem Yu (c:UInt8)(h: ¬c.toNat<128):G0 c=false∧VJ c=false∧(c.toNat==95)=false:=by
 have e1:G0 c=false:=by
  unfold G0;rw[decide_eq_false (show¬c.toNat≤122 from by omega),decide_eq_false (show¬c.toNat≤57 from by omega),Bool.and_false,Bool.and_false]; rfl
 have e2:(c.toNat==45)=false:=by rw[beq_eq_false_iff_ne]; omega
 refine⟨e1,?_,by rw[beq_eq_false_iff_ne]; omega⟩;unfold VJ;rw[e1,e2]; rfl
theorem Mg {s:ByteArray}{i:Nat}{c:UInt8}(hs:s.size≤16)(h:s.data.toList[i]? =some c):
  AM s i=some (if(if i+1=s.size then G0 c else if i=0 then G0 c||c.toNat==95 else VJ c)=true then .inl (i+1)else .inr (.inr false)):=by
 have hi:i<s.size:=by
  have:=(List.getElem?_eq_some_iff.1 h).1;rw[BH]at this;exact this
 have hw:w64 ((s.size:Int)-1)=(s.size:Int)-1:=Eh (by omega) (by omega);unfold AM;rw[if_pos hi,Cz,hw];by_cases hb:c.toNat<128
 ·rw[dec_lo h hb,OZ c.toNat c rfl,RM c.toNat c rfl,RN,Ab,Cz,Cz,RN,Ab,Cz,RN,Ab];have e95:((c.toNat:Int)==95)=(c.toNat==95):=by rw[Bool.eq_iff_iff,beq_iff_eq,beq_iff_eq]; omega
  by_cases hl:i+1=s.size
  ·have el:((i:Int)==(s.size:Int)-1)=true:=by rw[beq_iff_eq]; omega
   rw[if_pos hl,el];cases G0 c<;>rfl
  ·have el:((i:Int)==(s.size:Int)-1)=false:=by rw[beq_eq_false_iff_ne]; omega
   rw[if_neg hl,el];by_cases h0:i=0
   ·have e0:((i:Int)==0)=true:=by rw[beq_iff_eq]; omega
    rw[if_pos h0,e0];show(if(true&&((true&&G0 c)||((c.toNat:Int)==95)))=true then _ else _)=_;rw[e95];cases G0 c<;>cases c.toNat==95<;>rfl
   ·have e0:((i:Int)==0)=false:=by rw[beq_eq_false_iff_ne]; omega
    rw[if_neg h0,e0];cases VJ c<;>rfl
 ·have hd:=dec_hi h hb;generalize Utf8.decode s i=q at hd;obtain⟨n,k⟩:=q;have hn:128≤n:=hd;obtain⟨b1,b2,b3⟩:=Yu c hb;show(Ae (gu _ (B4 (n:Int))) _)=_;rw[Uk n hn,RN,Ab,Cz,Bool.and_false,Bool.and_false,if_neg (by decide),Cz];have e95:((n:Int)==95)=false:=by rw[beq_eq_false_iff_ne]; omega
  by_cases hl:i+1=s.size
  ·have el:((i:Int)==(s.size:Int)-1)=true:=by rw[beq_iff_eq]; omega
   rw[if_pos hl,el,b1];rfl
  ·have el:((i:Int)==(s.size:Int)-1)=false:=by rw[beq_eq_false_iff_ne]; omega
   rw[if_neg hl,el,if_neg (by decide)];rw[RN,Ab,Cz];show(if(((i:Int)==0)&&((((i:Int)==0)&&false)||((n:Int)==95)))=true then _ else Ae (gu _ (B2 (n:Int))) _)=_;rw[VI n hn,RN,Ab,e95,Bool.and_false,Bool.or_false,Bool.and_false,if_neg (by decide)];by_cases h0:i=0
   ·have e0:((i:Int)==0)=true:=by rw[beq_iff_eq]; omega
    rw[if_pos h0,e0,b1,b3];rfl
   ·have e0:((i:Int)==0)=false:=by rw[beq_eq_false_iff_ne]; omega
    rw[if_neg h0,e0,b2];rfl
theorem TL {s:ByteArray}{i:Nat}(h: ¬i<s.size):AM s i=some (.inr (.inl i)):=by
 unfold AM;rw[if_neg h]
theorem Mf {s:ByteArray}(hs:s.size≤16): ∀(r:List UInt8) (i n:Nat),1≤i→s.data.toList.drop i=r→i≤s.size→r.length<n→∃z,iter (AM s) n i=some (if Rz r=true then .inl z else .inr false)
 |r,i,0,_,_,_,h=>by omega
 | [],i,n+1,_,h,hi,_=>by
  have hl:s.data.toList.length≤i:=List.drop_eq_nil_iff.1 h;rw[BH]at hl;refine⟨i,?_⟩;show Ae (AM s i) _=_;rw[TL (by omega)];rfl
 |c::r,i,n+1,h1,h,hi,hn=>by
  have hc:s.data.toList[i]? =some c:=by
   have:(s.data.toList.drop i)[0]? =some c:=by rw[h]; rfl
   simpa using this
  have hlt:i<s.size:=by
   have:=(List.getElem?_eq_some_iff.1 hc).1;rw[BH]at this; exact this
  have hr:s.data.toList.drop (i+1)=r:=by rw[←List.drop_drop,h]; rfl
  have hlen:r.length=s.size-(i+1):=by rw[←hr,List.length_drop,BH]
  obtain⟨z,ih⟩:=Mf hs r (i+1) n (by omega) hr (by omega) (by rw[List.length_cons]at hn; omega);refine⟨z,?_⟩;show Ae (AM s i) _=_;rw[Mg hs hc,if_neg (show¬i=0 from by omega)];cases r with
  |nil=>
   rw[if_pos (show i+1=s.size from by rw[List.length_nil]at hlen; omega)];show _=some (if G0 c=true then _ else _);cases G0 c with
   |false=>rfl
   |true=>rw[if_pos rfl,if_pos rfl]; exact ih
  |cons d r=>
   rw[if_neg (show¬i+1=s.size from by rw[List.length_cons]at hlen; omega)];show _=some (if(VJ c&&Rz (d::r))=true then _ else _);cases VJ c with
   |false=>rfl
   |true=>
    rw[if_pos rfl,Bool.true_and];exact ih
theorem VE (s:ByteArray):CL s=some (NA s.data.toList):=by
 unfold CL;cases hl:s.data.toList with
 |nil=>
  have:eqS s (⟨#[]⟩:ByteArray)=true:=by unfold eqS; rw[hl]; rfl
  rw[this,Bool.true_or,if_pos rfl];rfl
 |cons c r=>
  have h0:eqS s (⟨#[]⟩:ByteArray)=false:=by unfold eqS; rw[hl]; rfl
  have hz:s.size=r.length+1:=by rw[←BH,hl]; rfl
  rw[h0,Bool.false_or];by_cases hs:s.size≤16
  ·rw[decide_eq_false (show¬(s.size:Int)>16 from by omega),if_neg (by decide)];have hc:s.data.toList[0]? =some c:=by rw[hl]; rfl
   have hd:s.data.toList.drop 1=r:=by rw[hl]; rfl
   have e': ∀n,r.length<n→∃z,iter (AM s) (n+1) 0=some (if NA (c::r)=true then .inl z else .inr false):=by
    intro n hn;obtain⟨z,ht⟩:=Mf hs r 1 n (by decide) hd (by omega) hn;refine⟨z,?_⟩;show Ae (AM s 0) _=_;rw[Mg hs hc,if_pos rfl];cases r with
    |nil=>
     rw[if_pos (show 0+1=s.size from by rw[hz]; rfl)];show _=some (if G0 c=true then _ else _);cases G0 c with
     |false=>rfl
     |true=>rw[if_pos rfl,if_pos rfl]; exact ht
    |cons d r=>
     rw[if_neg (show¬0+1=s.size from by rw[hz,List.length_cons]; omega)];show _=some (if((G0 c||c.toNat==95)&&Rz (d::r)&&decide ((c::d::r).length≤16))=true then _ else _);rw[decide_eq_true (show(c::d::r).length≤16 from by rw[List.length_cons,←hz]; exact hs),Bool.and_true];cases G0 c||c.toNat==95 with
     |false=>rfl
     |true=>
      rw[if_pos rfl,Bool.true_and];exact ht
   obtain⟨z,e⟩: ∃z,iter (AM s) C7 0=some (if NA (c::r)=true then .inl z else .inr false):=e' 18446744073709551615 (by omega);rw[e,Ab];cases NA (c::r)<;>rfl
  ·rw[decide_eq_true (show(s.size:Int)>16 from by omega),if_pos rfl];cases r with
   |nil=>rw[hz]at hs; simp at hs
   |cons d r=>
    show _=some ((G0 c||c.toNat==95)&&Rz (d::r)&&decide ((c::d::r).length≤16));rw[decide_eq_false (show¬(c::d::r).length≤16 from by rw[List.length_cons,←hz]; exact hs),Bool.and_false]
end Go.Proofs.YtbajlmaijjcbmaaGreatDoor
end
section
namespace Go.Proofs.YtbajlmaijjcbmaaGreatDoor
open Go Go.Gw Go.Ax
def Ct:List UInt8→List (List UInt8)
 | []=> [[]]
 |c::l=>if c=46 then []::Ct l else match Ct l with|h::t=>(c::h)::t| []=> [[c]]
theorem Pu (c:UInt8)(l:List UInt8):Ct (c::l)=if c=46 then []::Ct l else match Ct l with|h::t=>(c::h)::t| []=> [[c]]:=rfl
theorem J8: ∀l:List UInt8,Ct l≠[]
 | []=>by simp[Ct]
 |c::l=>by
  unfold Ct;split
  ·simp
  ·split<;>simp
theorem Ov: ∀(p r:List UInt8),(46:UInt8)∉p→Ct (p++46::r)=p::Ct r
 | [],r,_=>by simp[Ct]
 |c::p,r,h=>by
  have hc:c≠46:=fun e=>h (by rw[e]; exact List.mem_cons_self);have ih:=Ov p r fun q=>h (List.mem_cons_of_mem _ q);show Ct (c::(p++46::r))=_;rw[Pu,if_neg hc,ih]
theorem Ou: ∀(p:List UInt8),(46:UInt8)∉p→Ct p=[p]
 | [],_=>rfl
 |c::p,h=>by
  have hc:c≠46:=fun e=>h (by rw[e]; exact List.mem_cons_self);have ih:=Ou p fun q=>h (List.mem_cons_of_mem _ q);unfold Ct;rw[if_neg hc,ih]
theorem KR: ∀(l:List UInt8),(Ct l).length=l.count 46+1
 | []=>rfl
 |c::l=>by
  have ih:=KR l;unfold Ct;by_cases hc:c=46
  ·rw[if_pos hc,hc,List.count_cons_self,List.length_cons,ih]
  ·rw[if_neg hc,List.count_cons_of_ne hc];cases h:Ct l with
   |nil=>exact absurd h (J8 l)
   |cons a t=>rw[h]at ih; simpa using ih
theorem Lb: ∀(l:List UInt8) (c:UInt8),(Lib.indexByte l c= -1∧c∉l)∨∃p r,l=p++c::r∧c∉p∧Lib.indexByte l c=(p.length:Int)
 | [],c=> .inl ⟨rfl,by simp⟩
 |b::l,c=>by
  unfold Lib.indexByte;cases hb:b==c with
  |true=>
   have e:b=c:=by simpa using hb
   exact .inr ⟨[],l,by rw[e]; rfl,by simp,rfl⟩
  |false=>
   have e:b≠c:=by simpa using hb
   rcases Lb l c with ⟨h1,h2⟩|⟨p,r,h1,h2,h3⟩
   ·refine .inl ⟨by rw[h1]; rfl,?_⟩;intro h;rcases List.mem_cons.1 h with q|q
    ·exact e q.symm
    ·exact h2 q
   ·refine .inr ⟨b::p,r,by rw[h1]; rfl,?_,?_⟩
    ·intro h;rcases List.mem_cons.1 h with q|q
     ·exact e q.symm
     ·exact h2 q
    ·rw[h3];have:((p.length:Int)== -1)=false:=by rw[beq_eq_false_iff_ne]; omega
     rw[if_neg (by decide),if_neg (by rw[this]; decide),List.length_cons];omega
theorem Jh (s:ByteArray)(a b:Nat):(s.extract a b).data.toList=(s.data.toList.take b).drop a:=by
 rw[ByteArray.data_extract,Array.toList_extract,List.extract_eq_take_drop,List.take_drop];by_cases h:a≤b
 ·rw[Nat.add_sub_cancel' h]
 ·rw[Nat.sub_eq_zero_of_le (by omega),Nat.add_zero];rw[List.drop_eq_nil_of_le (by rw[List.length_take]; omega),List.drop_eq_nil_of_le (by rw[List.length_take]; omega)]
def Wi (l:List UInt8):Bool:=(Ct l).all NA
theorem b5_eq (b:ByteArray)(s:Unit×Nat):Bj b s=some ((),if NA b.data.toList=true then 0 else 1):=by
 unfold Bj;rw[VE,Ab];cases NA b.data.toList<;>rfl
def cbk:(Unit×Nat)→ByteArray→Option (Bool×(Unit×Nat)):=fun(s:(Unit)×Nat) (b0:ByteArray)=>if s.2=0 then Ae (Bj b0 s) fun y=>some (y.2==0,y)else none
theorem W9 (b:ByteArray):cbk ((),0) b=some (NA b.data.toList,((),if NA b.data.toList=true then 0 else 1)):=by
 unfold cbk;rw[if_pos rfl,b5_eq,Ab];cases NA b.data.toList<;>rfl
theorem OR (s:ByteArray)(h:s.size≤1000):Bi s (⟨#[46]⟩:ByteArray)=some (TR s 46):=by
 obtain⟨x,hx,h1,h2⟩:=OS s;unfold Bi AF A2;rw[Cz];cases he:eqS (⟨#[46]⟩:ByteArray) s with
 |true=>
  have e:=(IG.1 he);subst e;rfl
 |false=>rfl
theorem LV: ∀(m:Nat) (s:ByteArray) (n:Nat),s.size≤m→m<n→m≤100→
  ∃z:ByteArray,iter (Aw cbk (⟨#[46]⟩:ByteArray) 0) n (s,((),0))=some (if(Ct s.data.toList).dropLast.all NA=true then .inl (z,((),0))else .inr ((⟨#[46]⟩:ByteArray),z,0,((),1)))∧
   ((Ct s.data.toList).dropLast.all NA=true→some z.data.toList=(Ct s.data.toList).getLast?)
 |m,s,0,_,h,_=>by omega
 |m,s,n+1,hs,hn,hm=>by
  have hx:Bi s (⟨#[46]⟩:ByteArray)=some (TR s 46):=OR s (by omega);show∃z,Ae (Aw cbk (⟨#[46]⟩:ByteArray) 0 (s,((),0))) _=_∧_;rcases Lb s.data.toList 46 with ⟨h1,h2⟩|⟨p,r,h1,h2,h3⟩
  ·have e:Aw cbk (⟨#[46]⟩:ByteArray) 0 (s,((),0))=some (.inr (.inl (s,((),0)))):=by
    unfold Aw;show Ae (Bi s (⟨#[46]⟩:ByteArray)) _=_;rw[hx,Ab,show TR s 46= -1 from h1];rfl
   rw[e,Ou _ h2];exact⟨s,rfl,fun _=>rfl⟩
  ·have hz:s.size=p.length+1+r.length:=by rw[←BH,h1,List.length_append,List.length_cons]; omega
   have e1:LI s 0 (w64 ((p.length:Int)+0))=some (s.extract 0 p.length):=by
    rw[Int.add_zero,Eh (by omega) (by omega),FF (by omega) (by omega) (by omega)];rfl
   have e2:LI s (w64 ((p.length:Int)+((⟨#[46]⟩:ByteArray).size:Int))) (s.size:Int)=some (s.extract (p.length+1) s.size):=by
    have:((⟨#[46]⟩:ByteArray).size:Int)=1:=rfl;rw[this,Eh (by omega) (by omega),FF (by omega) (by omega) (by omega)];rfl
   have l1:(s.extract 0 p.length).data.toList=p:=by
    rw[Jh,h1,List.take_left]; rfl
   have l2:(s.extract (p.length+1) s.size).data.toList=r:=by
    rw[Jh,←BH,List.take_length,h1];rw[←List.drop_drop,List.drop_left]; rfl
   have e:Aw cbk (⟨#[46]⟩:ByteArray) 0 (s,((),0))=some (if NA p=true then .inl (s.extract (p.length+1) s.size,((),0))else .inr (.inr ((⟨#[46]⟩:ByteArray),s,0,((),1)))):=by
    unfold Aw;show Ae (Bi s (⟨#[46]⟩:ByteArray)) _=_;rw[hx,Ab,show TR s 46=(p.length:Int)from h3,if_neg (by rw[decide_eq_true_eq]; omega),e1,Ab,W9,Ab,l1];cases hlab:NA p with
    |false=>rfl
    |true=>
     rw[if_neg (by simp)];dsimp only;rw[e2,Ab];rfl
   rw[e,h1,Ov p r h2];have hsz:(s.extract (p.length+1) s.size).size=r.length:=by rw[←BH,l2]
   obtain⟨z,ih1,ih2⟩:=LV (m-1) (s.extract (p.length+1) s.size) n (by omega) (by omega) (by omega);rw[l2]at ih1 ih2;have hd:(p::Ct r).dropLast=p::(Ct r).dropLast:=by
    cases hq:Ct r with
    |nil=>exact absurd hq (J8 r)
    |cons a t=>rfl
   have hg:(p::Ct r).getLast? =(Ct r).getLast? :=by
    cases hq:Ct r with
    |nil=>exact absurd hq (J8 r)
    |cons a t=>rfl
   rw[hd,hg,List.all_cons];cases NA p with
   |false=>exact⟨s,rfl,fun h=>by cases h⟩
   |true=>exact⟨z,ih1,ih2⟩
theorem NU {α:Type}(f:α→Bool): ∀(l:List α) (x:α),l.getLast? =some x→l.all f=(l.dropLast.all f&&f x)
 | [],x,h=>by cases h
 | [a],x,h=>by cases h; simp
 |a::b::l,x,h=>by
  have ih:=NU f (b::l) x (by simpa using h);show(f a&&(b::l).all f)=((f a&&(b::l).dropLast.all f)&&f x);rw[ih,Bool.and_assoc]
def isB (l:List UInt8)(n k:Nat):Bool:=decide (l.length≤k)&&decide ((Ct l).length≤n)&&Wi l
theorem Tz (s:ByteArray)(n k:Nat)(hk:k≤100):BF s (n:Int) (k:Int)=some (isB s.data.toList n k):=by
 unfold BF isB;have hz:=BH s;by_cases h1:s.size≤k
 ·rw[decide_eq_false (show¬(s.size:Int)>k from by omega),if_neg (by decide),decide_eq_true (show s.data.toList.length≤k from by omega)];have ec:DM s (⟨#[46]⟩:ByteArray)=some ((s.data.toList.count 46:Nat):Int):=rfl;rw[ec,Ab,Ab,KR];by_cases h2:s.data.toList.count 46+1≤n
  ·rw[decide_eq_false (show¬((s.data.toList.count 46:Nat):Int)≥(n:Int)from by omega),if_neg (by decide),decide_eq_true h2];obtain⟨z,e1,e2⟩:=LV 100 s C7 (by omega) (by have:=FG; omega) (by decide);have es:A6 cbk (⟨#[46]⟩:ByteArray) s 0 ((),0)=some ((⟨#[46]⟩:ByteArray),z,0,((),if Wi s.data.toList=true then 0 else 1)):=by
    unfold A6;rw[if_neg (by decide),e1,Ab];unfold Wi;cases hd:(Ct s.data.toList).dropLast.all NA with
    |true=>
     have hlast:=(e2 hd).symm;rw[NU NA _ _ hlast,hd,if_pos rfl];show Ae (cbk ((),0) z) _=_;rw[W9,Ab,Bool.true_and]
    |false=>
     have:(Ct s.data.toList).all NA=false:=by
      cases hl:(Ct s.data.toList).getLast? with
      |none=>exact absurd (List.getLast?_eq_none_iff.1 hl) (J8 _)
      |some x=>rw[NU NA _ x hl,hd]; rfl
     rw[this];rfl
   show Ae (A6 cbk (⟨#[46]⟩:ByteArray) s 0 ((),0)) _=_;rw[es,Ab];cases Wi s.data.toList<;>rfl
  ·rw[decide_eq_true (show((s.data.toList.count 46:Nat):Int)≥(n:Int)from by omega),if_pos rfl,decide_eq_false h2];rfl
 ·rw[decide_eq_true (show(s.size:Int)>k from by omega),if_pos rfl,Ab,if_pos rfl,decide_eq_false (show¬s.data.toList.length≤k from by omega)];rfl
end Go.Proofs.YtbajlmaijjcbmaaGreatDoor
end
section
namespace Go.Proofs.YtbajlmaijjcbmaaGreatDoor
open Go Go.Gw Go.Ax
theorem CB {α:Type}{l:List α}{i:Nat}{x:α}(h:l[i]? =some x):idx l (i:Int)=some x:=by
 unfold idx;rw[if_pos (by omega)];exact h
end Go.Proofs.YtbajlmaijjcbmaaGreatDoor
end
section
namespace Go.Proofs.YtbajlmaijjcbmaaGreatDoor
open Go Go.Gw Go.Ax
def toL (s:ByteArray):List UInt8:=s.data.toList
theorem Hw {α:Type}(b:Nat){xs ys:List α}(h:(xs.length+ys.length)*b≤140737488355328)(h1:xs.length+ys.length≤140737488355328):app b xs ys=some (xs++ys):=by unfold app; rw[if_pos ⟨h,h1⟩]
end Go.Proofs.YtbajlmaijjcbmaaGreatDoor
end
section
namespace Go.Proofs.YtbajlmaijjcbmaaGreatDoor
open Go Go.Gw Go.Ax
def U9:List UInt8→Bool
 |a::b::r=>a==42&&b==46&&isB r 7 62
 |_=>false
end Go.Proofs.YtbajlmaijjcbmaaGreatDoor
end
section
namespace Go.Proofs.YtbajlmaijjcbmaaGreatDoor
open Go Go.Gw Go.Ax
theorem F4 {α:Type}{l:List α}{i:Nat}{c:α}{r:List α}(h:l.drop i=c::r):l[i]? =some c∧l.drop (i+1)=r∧i<l.length:=by
 have h1:l[i]? =some c:=by
  have:(l.drop i)[0]? =some c:=by rw[h]; rfl
  simpa using this
 exact⟨h1,by rw[←List.drop_drop,h]; rfl,(List.getElem?_eq_some_iff.1 h1).1⟩
theorem KJ {i:Nat}(h:i≤1000000):w64 ((i:Int)+1)=((i+1:Nat):Int):=by rw[Eh (by omega) (by omega)]; omega
def plainB (c:UInt8):Bool:=decide (33≤c.toNat)&&decide (c.toNat≤126)
def textB (l:List UInt8):Bool:=decide (1≤l.length)&&decide (l.length≤64)&&l.all plainB
def nodB:List ByteArray→List ByteArray→Bool
 |_,[]=>true
 |met,s::l=> !(met.any (eqS s))&&nodB (met++[s]) l
structure FewP (c:g_api_Cert):Prop where
 issuer:c.Issuer.size≤100000
 subject:c.Subject.size≤100000
 names: ∀s∈c.Names,s.size≤100000
 nnames:c.Names.length≤100000
 permit: ∀s∈c.Permit,s.size≤100000
 npermit:c.Permit.length≤100000
 nproms:c.Proms.length≤100000
theorem K5 {l:List ByteArray}: ∀(r:List ByteArray) (i n:Nat),l.drop i=r→i≤20→20-i<n→∀t,iter (Bl l) n (i:Int)=some t→t= .inl ()→∀s∈r.take (20-i),s.size≤200
 |r,i,0,_,_,h,_,_,_=>by omega
 | [],i,n+1,h,_,_,t,_,_=>by intro s hs; simp at hs
 |c::r,i,n+1,h,hi,hn,t,ht,ht2=>by
  obtain⟨hc,hr,hlt⟩:=F4 h;by_cases h20:i=20
  ·intro s hs; rw[h20]at hs; simp at hs
  have e:Bl l (i:Int)=some (if decide ((c.size:Int)>200)=true then .inr (.inr false)else .inl ((i+1:Nat):Int)):=by
   unfold Bl;rw[decide_eq_true (show(i:Int)<(l.length:Int)from by omega),decide_eq_true (show(i:Int)<20 from by omega),show(true&&true)=true from rfl,if_pos rfl,CB hc,Ab,KJ (by omega)];cases decide ((c.size:Int)>200)<;>rfl
  obtain⟨y,hy,hq⟩:=Bh ht;rw[e]at hy;have hy:=Option.some.inj hy;cases hd:decide ((c.size:Int)>200)with
  |true=>
   rw[hd,if_pos rfl]at hy;subst hy;rcases hq with ⟨s',e',_⟩|e'
   ·cases e'
   ·rw[ht2]at e'; cases e'
  |false=>
   rw[hd,if_neg (by decide)]at hy;subst hy;rcases hq with ⟨s',e',ht'⟩|e'
   ·have e':=Sum.inl.inj e';subst e';have ih:=K5 r (i+1) n hr (by omega) (by omega) t ht' ht2;intro s hs;rw[show 20-i=(20-(i+1))+1 from by omega,List.take_succ_cons]at hs;rcases List.mem_cons.1 hs with q|q
    ·rw[q];have:=of_decide_eq_false hd;omega
    ·exact ih s q
   ·cases e'
theorem OK {l:List ByteArray}(h:Cn l=some true):l.length≤16∧∀s∈l,s.size≤200:=by
 unfold Cn at h;obtain⟨t,ht,h⟩:=Aa h;cases t with
 |inr b=>
  have hb:b=true:=Option.some.inj h;subst hb;exfalso;have key: ∀(n:Nat) (i:Int) (t:Unit⊕Bool),iter (Bl l) n i=some t→t≠ .inr true:=by
   intro n;induction n with
   |zero=>intro i t h; cases h
   |succ n ih=>
    intro i t h;obtain⟨y,hy,hq⟩:=Bh h;unfold Bl at hy;split at hy
    ·obtain⟨x,hx,hy⟩:=Aa hy;split at hy
     ·cases hy;rcases hq with ⟨s',e',_⟩|e'
      ·cases e'
      ·cases e';intro q;cases q
     ·cases hy;rcases hq with ⟨s',e',h'⟩|e'
      ·exact ih _ t h'
      ·cases e'
    ·cases hy;rcases hq with ⟨s',e',_⟩|e'
     ·cases e'
     ·cases e';intro q;cases q
  exact key C7 0 _ ht rfl
 |inl u=>
  have hl:=of_decide_eq_true (Option.some.inj (AY h));have h20:=K5 l 0 C7 rfl (by decide) (by have:=FG; omega) _ ht rfl;refine⟨by omega,fun s hs=>h20 s ?_⟩;rw[List.take_of_length_le (by omega)];exact hs
theorem few_ok {c:g_api_Cert}(h:Et c=some true):FewP c:=by
 unfold Et at h;obtain⟨x1,h1,h⟩:=Aa h;obtain⟨x2,h2,h⟩:=Aa h;have h:=Option.some.inj (AY h);simp only[Bool.and_eq_true,decide_eq_true_eq]at h;obtain⟨⟨⟨⟨q1,q2⟩,q3⟩,q4⟩,q5⟩:=h;subst q3 q4;rw[decide_eq_true q1,decide_eq_true q2]at h1 h2;obtain⟨a1,a2⟩:=OK h1;obtain⟨b1,b2⟩:=OK h2;exact⟨by omega,by omega,fun s hs=>Nat.le_trans (a2 s hs) (by decide),by omega,fun s hs=>Nat.le_trans (b2 s hs) (by decide),by omega,by omega⟩
end Go.Proofs.YtbajlmaijjcbmaaGreatDoor
end
section
namespace Go.Proofs.YtbajlmaijjcbmaaGreatDoor
open Go Go.Gw Go.Ax
def stopB (a:UInt8)(rest:Int):Bool:=(rest==0&&decide (a.toNat<128))||(rest== -1&&decide (128≤a.toNat))
structure Fits (c:g_api_Cert):Prop where
 few:FewP c
 serial: -9223372036854775808≤c.Serial∧c.Serial≤9223372036854775807
 frm: -9223372036854775808≤c.From∧c.From≤9223372036854775807
 til: -9223372036854775808≤c.Until∧c.Until≤9223372036854775807
 depth: -9223372036854775808≤c.Depth∧c.Depth≤9223372036854775807
 proms: ∀p∈c.Proms,(-9223372036854775808≤p.Log∧p.Log≤9223372036854775807)∧(-9223372036854775808≤p.At∧p.At≤9223372036854775807)
end Go.Proofs.YtbajlmaijjcbmaaGreatDoor
end
section
namespace Go.Proofs.YtbajlmaijjcbmaaGreatDoor
open Go Go.Gw Go.Ax
def kindV (c:g_api_Cert):Bool:=if c.Ca=true then textV c.Subject&&((c.Names.length:Int)==0)&&decide (c.Depth≥0)&&decide (c.Depth≤4)&&listV patV c.Permit 0 8 else eqS c.Subject (⟨#[]⟩:ByteArray)&&listV nameV c.Names 1 8&&(c.Depth==0)&&((c.Permit.length:Int)==0)
end Go.Proofs.YtbajlmaijjcbmaaGreatDoor
end
section
namespace Go.Proofs.YtbajlmaijjcbmaaGreatDoor
open Go Go.Gw Go.Ax
def smallI:Nat→g_api_Item→Prop
 |0,_=>True
 |d+1,x=>x.B.length≤1000000∧x.L.length≤1000000∧∀y∈x.L,smallI d y
end Go.Proofs.YtbajlmaijjcbmaaGreatDoor
end
section
namespace Go.Proofs.YtbajlmaijjcbmaaGreatDoor
open Go Go.Gw Go.Ax
def fewI:Nat→g_api_Item→Prop
 |0,_=>True
 |d+1,x=>x.L.length≤100000∧∀y∈x.L,fewI d y
def truthV:List UInt8→Bool
 | []=>false
 |a::_=>(a.toNat:Int) !=0
abbrev Its:=List g_api_Item
def Vr {α:Type}(tag:Int)(v:g_api_Item→α):Its→Option (α×Its)
 | []=>none
 |x::r=>if x.Tag=tag∧mayB 8 x=true then some (v x,r)else none
def Lo (l:Its):Option (Int×Its):=(Vr 2 (fun x=>asintV x.B) l).bind fun p=>if 0≤p.1 then some p else none
def Y8 (l:Its):Option (UInt64×Its):=(Lo l).map fun p=>(toU p.1,p.2)
def sub1 (l:Its):Option (Its×Its):=Vr 48 (fun x=>x.L) l
def allT:Its→Option (List ByteArray)
 | []=>some []
 |x::r=>if x.Tag=12∧mayB 8 x=true then(allT r).map fun t=>bs x.B::t else none
def Wm (l:Its):Option (List ByteArray×Its):=(sub1 l).bind fun p=>(allT p.1).map fun t=>(t,p.2)
end Go.Proofs.YtbajlmaijjcbmaaGreatDoor
end
section
namespace Go.Proofs.YtbajlmaijjcbmaaGreatDoor
open Go Go.Gw Go.Ax
theorem WM: ∀{d:Nat} {x:g_api_Item},mayB d x=true→mayB (d+1) x=true
 |0,x,h=>by cases h
 |d+1,x,h=>by
  simp only[mayB,Bool.and_eq_true,List.all_eq_true]at h;unfold mayB;simp only[Bool.and_eq_true,List.all_eq_true];exact⟨h.1,fun y hy=>WM (h.2 y hy)⟩
theorem may_le {d e:Nat}{x:g_api_Item}(h:d≤e)(hm:mayB d x=true):mayB e x=true:=by
 induction h with
 |refl=>exact hm
 |step _ ih=>exact WM ih
theorem TC {d:Nat}{x y:g_api_Item}(h:mayB (d+1) x=true)(hy:y∈x.L):mayB d y=true:=by
 simp only[mayB,Bool.and_eq_true,List.all_eq_true]at h;exact h.2 y hy
def text1:Its→Option (ByteArray×Its):=Vr 12 (fun x=>bs x.B)
def bool1:Its→Option (Bool×Its):=Vr 1 (fun x=>truthV x.B)
def pre1 (l:Its):Option (g_api_Cert×Its):=(Lo l).bind fun x1=>(text1 x1.2).bind fun x2=>(text1 x2.2).bind fun x3=>(Y8 x3.2).bind fun x4=>(Wm x4.2).bind fun x5=>(Lo x5.2).bind fun x6=>(Lo x6.2).bind fun x7=>(bool1 x7.2).bind fun x8=>(Lo x8.2).bind fun x9=>(Wm x9.2).bind fun x10=>if x10.2=[]then some (⟨x1.1,x2.1,x3.1,x4.1,x5.1,x6.1,x7.1,x8.1,x9.1,x10.1,[],⟨0,0⟩⟩,[])else none
def few1 (l:Its):Prop:= ∀x∈l,x.L.length≤100000
def prom1 (l:Its):Option (g_api_Promise×Its):=(Lo l).bind fun x1=>(Lo x1.2).bind fun x2=>(Y8 x2.2).bind fun x3=>(Y8 x3.2).bind fun x4=>(Y8 x4.2).bind fun x5=>(Y8 x5.2).bind fun x6=>some (⟨x1.1,x2.1,(x3.1,x4.1),⟨x5.1,x6.1⟩⟩,x6.2)
structure Nums (c:g_api_Cert):Prop where
 serial:0≤c.Serial∧c.Serial≤1099511627776
 frm:0≤c.From∧c.From≤1099511627776
 til:0≤c.Until∧c.Until≤1099511627776
 key:c.Key.toNat<2305843009213691579
 depth:0≤c.Depth∧c.Depth≤4
 sig:sigB c.Sig=true
 proms: ∀p∈c.Proms,promBC p=true
def bareP (c:g_api_Cert):g_api_Cert:=⟨c.Serial,c.Issuer,c.Subject,c.Key,c.Names,c.From,c.Until,c.Ca,c.Depth,c.Permit,[],⟨0,0⟩⟩
def bareS (c:g_api_Cert):g_api_Cert:=⟨c.Serial,c.Issuer,c.Subject,c.Key,c.Names,c.From,c.Until,c.Ca,c.Depth,c.Permit,c.Proms,⟨0,0⟩⟩
end Go.Proofs.YtbajlmaijjcbmaaGreatDoor
end
section
namespace Go.Proofs.YtbajlmaijjcbmaaGreatDoor
open Go Go.Gw Go.Ax
theorem JF: ∀{d e:Nat} {x:g_api_Item},mayB d x=true→d≤e→putB e x=putB d x
 |0,e,x,h,_=>by cases h
 |d+1,0,x,_,h=>by omega
 |d+1,e+1,x,h,hd=>by
  have hf: ∀(l:List g_api_Item),(∀y∈l,mayB d y=true)→l.flatMap (putB e)=l.flatMap (putB d):=by
   intro l;induction l with
   |nil=>intro _; rfl
   |cons y l ih=>
    intro hl;rw[List.flatMap_cons,List.flatMap_cons,JF (hl y List.mem_cons_self) (by omega),ih fun z hz=>hl z (List.mem_cons_of_mem _ hz)]
  have:=hf x.L fun y hy=>TC h hy;show toB x.Tag::(K8 (x.B++x.L.flatMap (putB e)).length++(x.B++x.L.flatMap (putB e)))=toB x.Tag::(K8 (x.B++x.L.flatMap (putB d)).length++(x.B++x.L.flatMap (putB d)));rw[this]
theorem in_len {d:Nat}{x y:g_api_Item}(h:mayB (d+1) x=true)(hd:d+1≤8)(hy:y∈x.L):(putB 8 y).length≤(putB 8 x).length:=by
 rw[JF h hd,JF (TC h hy) (by omega)];have h1:=QX (putB d) hy;show _≤(toB x.Tag::(K8 (x.B++x.L.flatMap (putB d)).length++(x.B++x.L.flatMap (putB d)))).length;have e:(x.B++x.L.flatMap (putB d)).length=x.B.length+(x.L.flatMap (putB d)).length:=List.length_append;rw[List.length_cons,List.length_append,e];omega
def szs (d:Nat)(l:List g_api_Item):Nat:=(l.flatMap (putB d)).length
theorem in_seq {d:Nat}{l:List g_api_Item}(h:mayB (d+1) (Qs l)=true): ∀y∈l,mayB d y=true:=fun y hy=>TC h hy
structure Okc (c:g_api_Cert):Prop where
 form:Form c
 fb:formB c=true
 may:mayB 8 (wholeI c)=true
 len:(putB 8 (wholeI c)).length≤2048
theorem okc {c:g_api_Cert}(h:checkV c=0):Okc c:=by
 unfold checkV at h;cases hf:formB c with
 |false=>rw[hf]at h; simp at h
 |true=>
  rw[hf,if_pos rfl]at h;by_cases h2:mayB 8 (wholeI c)=true∧(putB 8 (wholeI c)).length≤2048
  ·exact⟨Ua hf,hf,h2.1,h2.2⟩
  ·rw[if_neg h2]at h; cases h
theorem Okc.chk {c:g_api_Cert}(h:Okc c):checkV c=0:=by
 unfold checkV;rw[h.fb,if_pos rfl,if_pos ⟨h.may,h.len⟩]
theorem Vu {c:g_api_Cert}(h:Okc c):mayB 7 (Lt c)=true:=in_seq h.may _ (by simp)
def wholeB (c:g_api_Cert):List UInt8:=putB 8 (wholeI c)
def Jm (c:g_api_Cert):List UInt8:=putB 8 (Lt c)
def preBy (c:g_api_Cert):List UInt8:=putB 8 (preI c)
theorem UE {c:g_api_Cert}(h:Okc c):(Jm c).length≤2048:=by
 have h1:=in_len (y:=Lt c) h.may (by decide) (by show Lt c∈[Lt c,_]; simp);have h2:=h.len;show(putB 8 (Lt c)).length≤_;omega
theorem Zg {x:g_api_Item}(h:mayB 8 x=true)(hl:(putB 8 x).length≤8192):Gz x=some (putB 8 x,0):=by
 rw[Xg (by omega),if_pos h,if_pos hl]
theorem Wa {c:g_api_Cert}(h:Okc c):Fy c=some (Jm c,0):=by
 unfold Fy Eo;have hl:=UE h;rw[O3,h.chk,Ab,if_neg (by decide),Rb h.form.sized,Ab,Zg (may_le (by decide) (Vu h)) (by show(Jm c).length≤_; omega)];rfl
end Go.Proofs.YtbajlmaijjcbmaaGreatDoor
end
section
namespace Go.Proofs.YtbajlmaijjcbmaaGreatDoor
open Go Go.Gw Go.Ax
def readP (x:g_api_Item):Option g_api_Promise:=if x.Tag=48∧mayB 8 x=true then(prom1 x.L).bind fun q=>if q.2=[]then some q.1 else none else none
abbrev BS:=Its×List g_api_Promise
def allP:Its→Option (List g_api_Promise)
 | []=>some []
 |x::r=>(readP x).bind fun p=>(allP r).map fun l=>p::l
def few2D (l:Its):Prop:=few1 l∧∀x∈l,few1 x.L
def few3D (l:Its):Prop:=few1 l∧∀x∈l,few2D x.L
def withP (c:g_api_Cert)(ps:List g_api_Promise):g_api_Cert:=⟨c.Serial,c.Issuer,c.Subject,c.Key,c.Names,c.From,c.Until,c.Ca,c.Depth,c.Permit,ps,c.Sig⟩
def withS (c:g_api_Cert)(s:g_api_Sig):g_api_Cert:=⟨c.Serial,c.Issuer,c.Subject,c.Key,c.Names,c.From,c.Until,c.Ca,c.Depth,c.Permit,c.Proms,s⟩
def body1 (l:Its):Option (g_api_Cert×Its):=(sub1 l).bind fun x1=>(pre1 x1.1).bind fun x2=>(sub1 x1.2).bind fun x3=>(allP x3.1).bind fun ps=>if x3.2=[]then some (withP x2.1 ps,[])else none
def whole1 (l:Its):Option (g_api_Cert×Its):=(sub1 l).bind fun x1=>(body1 x1.1).bind fun x2=>(sub1 x1.2).bind fun x3=>(Y8 x3.1).bind fun x4=>(Y8 x4.2).bind fun x5=>if x5.2=[]then(if x3.2=[]then some (withS x2.1 ⟨x4.1,x5.1⟩,[])else none)else none
end Go.Proofs.YtbajlmaijjcbmaaGreatDoor
end
section
namespace Go.Proofs.YtbajlmaijjcbmaaGreatDoor
open Go Go.Gw Go.Ax
end Go.Proofs.YtbajlmaijjcbmaaGreatDoor
end
section
namespace Go.Proofs.YtbajlmaijjcbmaaGreatDoor
open Go Go.Gw Go.Ax
theorem Mb (l:List ByteArray):Tot (Cn l):=by
 unfold Cn;obtain⟨t,e,_⟩:=Jd (step:=Bl l) (fun i=>(20-i).toNat) (fun i=>0≤i∧i≤20) (fun _=>True) (fun i hi=>by
  unfold Bl;cases h:(decide (i<(l.length:Int))&&decide (i<20))with
  |false=>exact⟨_,rfl,fun s' h=>(by cases h),fun _ _=>trivial⟩
  |true=>
   simp only[Bool.and_eq_true,decide_eq_true_eq]at h;obtain⟨x,hx⟩: ∃x,idx l i=some x:=by
    unfold idx;rw[if_pos hi.1];exact⟨_,List.getElem?_eq_getElem (by omega)⟩
   rw[if_pos rfl,hx];simp only[Ab];split
   ·exact⟨_,rfl,fun s' h=>(by cases h),fun _ _=>trivial⟩
   ·refine⟨_,rfl,fun s' h=> ?_,fun _ h=>(by cases h)⟩;cases h;rw[Eh (by omega) (by omega)];omega) C7 0 (by omega) (by have:=FG; show(20-0:Int).toNat<_; omega)
 refine BQ ⟨t,e⟩ fun a _=> ?_;cases a with
 |inl _=>exact tot _
 |inr _=>exact tot _
theorem YT (c:g_api_Cert):Tot (Et c):=by
 unfold Et;exact BQ (IW fun _=>Mb _) fun a _=>BQ (IW fun _=>Mb _) fun b _=>tot _
end Go.Proofs.YtbajlmaijjcbmaaGreatDoor
end
section
namespace Go.Proofs.YtbajlmaijjcbmaaGreatDoor
open Go Go.Gw Go.Ax
theorem QT {α:Type}(a b:List α)(x:α):idx (a++x::b) (a.length:Int)=some x:=by
 unfold idx;rw[if_pos (by omega)];simp
theorem Uf: ∀(p q l k:List ByteArray),p.length=q.length→l.length=k.length→∃r,Cl (Aq (p++l) (q++k)) l.length (p.length:Int) ()=some r∧(r= .inl ()↔l=k)∧(r= .inl ()∨r= .inr false)
 |p,q,[],[],_,_=>⟨.inl (),rfl,by simp,.inl rfl⟩
 |p,q,[],b::k,_,h=>by cases h
 |p,q,a::l,[],_,h=>by cases h
 |p,q,a::l,b::k,hp,h=>by
  obtain⟨r,h1,h2,h3⟩:=Uf (p++[a]) (q++[b]) l k (by simp[hp]) (by simpa using h);have e:Aq (p++a::l) (q++b::k) (p.length:Int) ()=some (if eqS a b=true then .inl ()else .inr false):=by
   unfold Aq;rw[QT,Ab,hp,QT,Ab];cases eqS a b<;>rfl
  show∃r,Ae (Aq (p++a::l) (q++b::k) (p.length:Int) ()) _=some r∧_;rw[e];cases hc:eqS a b with
  |false=>
   refine⟨.inr false,rfl,?_,.inr rfl⟩;have:a≠b:=fun x=>by rw[IG.2 x]at hc; cases hc
   simp[this]
  |true=>
   have hab:=IG.1 hc;refine⟨r,?_,?_,h3⟩
   ·show Cl (Aq (p++a::l) (q++b::k)) l.length ((p.length:Int)+1) ()=some r;rw[←h1];simp
   ·rw[h2,hab];simp
theorem W1 (l k:List ByteArray): ∃r,A0 l k=some r∧(r=true↔l=k):=by
 unfold A0;by_cases h:l.length=k.length
 ·have e:((l.length:Int) !=(k.length:Int))=false:=by rw[h]; simp
  obtain⟨r,h1,h2,h3⟩:=Uf [] [] l k rfl h;have h1:Cl (Aq l k) l.length 0 ()=some r:=h1;rw[e,if_neg (by decide),h1];rcases h3 with h3|h3
  ·subst h3; exact⟨true,rfl,by simpa using h2⟩
  ·subst h3; exact⟨false,rfl,by simpa using h2⟩
 ·have e:((l.length:Int) !=(k.length:Int))=true:=by simp; omega
  rw[e,if_pos rfl];exact⟨false,rfl,by simp only[Bool.false_eq_true,false_iff]; exact fun x=>h (by rw[x])⟩
theorem OY {p q:g_api_Sig}:ED p q=true↔p=q:=by
 cases p; cases q;unfold ED;simp
theorem Mo {p q:g_api_Promise}:Cp p q=true↔p=q:=by
 obtain⟨a,b,⟨c,d⟩,e⟩:=p;obtain⟨a',b',⟨c',d'⟩,e'⟩:=q;unfold Cp P6;simp[OY]
theorem Q1: ∀(p q l k:List g_api_Promise),p.length=q.length→l.length=k.length→∃r,Cl (Am (p++l) (q++k)) l.length (p.length:Int) ()=some r∧(r= .inl ()↔l=k)∧(r= .inl ()∨r= .inr false)
 |p,q,[],[],_,_=>⟨.inl (),rfl,by simp,.inl rfl⟩
 |p,q,[],b::k,_,h=>by cases h
 |p,q,a::l,[],_,h=>by cases h
 |p,q,a::l,b::k,hp,h=>by
  obtain⟨r,h1,h2,h3⟩:=Q1 (p++[a]) (q++[b]) l k (by simp[hp]) (by simpa using h);have e:Am (p++a::l) (q++b::k) (p.length:Int) ()=some (if Cp a b=true then .inl ()else .inr false):=by
   unfold Am;rw[QT,Ab,hp,QT,Ab];cases Cp a b<;>rfl
  show∃r,Ae (Am (p++a::l) (q++b::k) (p.length:Int) ()) _=some r∧_;rw[e];cases hc:Cp a b with
  |false=>
   refine⟨.inr false,rfl,?_,.inr rfl⟩;have:a≠b:=fun x=>by rw[Mo.2 x]at hc; cases hc
   simp[this]
  |true=>
   have hab:=Mo.1 hc;refine⟨r,?_,?_,h3⟩
   ·show Cl (Am (p++a::l) (q++b::k)) l.length ((p.length:Int)+1) ()=some r;rw[←h1];simp
   ·rw[h2,hab];simp
theorem equalP (l k:List g_api_Promise): ∃r,AI l k=some r∧(r=true↔l=k):=by
 unfold AI;by_cases h:l.length=k.length
 ·have e:((l.length:Int) !=(k.length:Int))=false:=by rw[h]; simp
  obtain⟨r,h1,h2,h3⟩:=Q1 [] [] l k rfl h;have h1:Cl (Am l k) l.length 0 ()=some r:=h1;rw[e,if_neg (by decide),h1];rcases h3 with h3|h3
  ·subst h3; exact⟨true,rfl,by simpa using h2⟩
  ·subst h3; exact⟨false,rfl,by simpa using h2⟩
 ·have e:((l.length:Int) !=(k.length:Int))=true:=by simp; omega
  rw[e,if_pos rfl];exact⟨false,rfl,by simp only[Bool.false_eq_true,false_iff]; exact fun x=>h (by rw[x])⟩
theorem Qv (a b:g_api_Cert): ∃r,CS a b=some r∧(r=true↔a=b):=by
 obtain⟨r1,e1,h1⟩:=W1 a.Names b.Names;obtain⟨r2,e2,h2⟩:=W1 a.Permit b.Permit;obtain⟨r3,e3,h3⟩:=equalP a.Proms b.Proms;have hk:((a.Key.toNat:Int)==(b.Key.toNat:Int))=(a.Key==b.Key):=by
  rw[Bool.eq_iff_iff,beq_iff_eq,beq_iff_eq,←UInt64.toNat_inj];omega
 unfold CS;rw[e1,e2,e3,hk,RN,Ab,RN,Ab,RN,Ab,Cz];refine⟨_,rfl,?_⟩;simp only[Bool.and_eq_true,beq_iff_eq,IG,h1,h2,h3,OY];constructor
 ·rintro⟨⟨⟨⟨⟨⟨⟨⟨⟨⟨⟨q1,q2⟩,q3⟩,q4⟩,q5⟩,q6⟩,q7⟩,q8⟩,q9⟩,q10⟩,q11⟩,q12⟩;cases a; cases b;simp only at*;simp[q1,q2,q3,q4,q6,q7,q8,q9,q12,q5.2,q10.2,q11.2]
 ·rintro rfl;simp
theorem LW (a:g_api_Cert):CS a a=some true:=by
 obtain⟨r,e,h⟩:=Qv a a;rw[e,h.2 rfl]
end Go.Proofs.YtbajlmaijjcbmaaGreatDoor
end
section
namespace Go.Proofs.YtbajlmaijjcbmaaGreatDoor
open Go Go.Gw Go.Ax
end Go.Proofs.YtbajlmaijjcbmaaGreatDoor
end
section
namespace Go.Proofs.YtbajlmaijjcbmaaGreatDoor
open Go Go.Gw Go.Ax
theorem E5 {α β:Type}(a:α)(k:α→β):bnd a k=k a:=rfl
theorem HY {σ τ:Type}{step:σ→Option (σ⊕τ)}{s:σ}{t:τ}(n:Nat)(h:iter step n s=some t)(hn:n≤18446744073709551616):iter step C7 s=some t:=TS h hn
theorem Ci {σ τ:Type}{step:σ→Option (σ⊕τ)}{n:Nat}{s s':σ}(h:step s=some (.inl s')):iter step (n+1) s=iter step n s':=by simp only[iter,h,Ab]
theorem CA {σ τ:Type}{step:σ→Option (σ⊕τ)}{n:Nat}{s:σ}{t:τ}(h:step s=some (.inr t)):iter step (n+1) s=some t:=by simp only[iter,h,Ab]
theorem Re {α:Type}(b:Nat){xs ys:List α}(h:(xs.length+ys.length)*b≤140737488355328)(h1:xs.length+ys.length≤140737488355328):app b xs ys=some (xs++ys):=by unfold app; rw[if_pos ⟨h,h1⟩]
theorem Q4 {α:Type}{xs:List α}{lo hi:Nat}(h1:lo≤hi)(h2:hi≤xs.length):cut xs (lo:Int) (hi:Int)=some ((xs.drop lo).take (hi-lo)):=by
 unfold cut; rw[if_pos ⟨by omega,by omega,by omega⟩]; simp
def Vl (hi lo:UInt64):UInt64:=
 let n:=(lo&&&2305843009213693951)+((F5 hi 3)|||(Dt lo 61))
 let k:=(n&&&2305843009213693951)+Dt n 61
 if 2305843009213693951≤k.toNat then k-2305843009213693951 else k
theorem Ub (a b:UInt64):EB a b=some (Vl a b):=by
 unfold EB Vl;simp only[E5];generalize (b&&&2305843009213693951)+((F5 a 3)|||(Dt b 61))=n;generalize (n&&&2305843009213693951)+Dt n 61=k;by_cases h:2305843009213693951≤k.toNat
 ·rw[if_pos h,if_pos (decide_eq_true (by omega))]; rfl
 ·rw[if_neg h,if_neg (by simp; omega)]; rfl
def WB (a:UInt64):UInt64:=Vl 0 a
theorem WG (a:UInt64):Dj a=some (WB a):=by simp only[Dj,Ub,Ab]; rfl
def Ff (a b:UInt64):UInt64:=WB (WB a+WB b)
theorem Ri (a b:UInt64):Dm a b=some (Ff a b):=by simp only[Dm,WG,Ab]; rfl
def phi (a0 a1:UInt64):UInt64:=
 let x1:=(a0&&&4294967295)*(a1&&&4294967295)
 let x2:=((Dt a0 32)*(a1&&&4294967295))+(Dt x1 32)
 let x3:=(x2&&&4294967295)+((a0&&&4294967295)*(Dt a1 32))
 (((Dt a0 32)*(Dt a1 32))+(Dt x2 32))+(Dt x3 32)
theorem Nu (a b:UInt64):DX a b=some (phi a b,a*b):=rfl
def pmul (a b:UInt64):UInt64:=Vl (phi (WB a) (WB b)) (WB a*WB b)
theorem mul_eq (a b:UInt64):Ft a b=some (pmul a b):=by simp only[Ft,WG,Nu,Ub,Ab]; rfl
def LD (a:UInt64):UInt64:=
 let b:=pmul a a
 let c:=pmul b b
 let d:=pmul c c
 pmul a (pmul d d)
theorem sev_eq (a:UInt64):CG a=some (LD a):=by
 simp only[CG,Cx,Dh,mul_eq,Ab]; rfl
def LX (r i:Int):UInt64:=let n:=toU (w64 ((w64 ((w64 (3*r))+i))+1)); n*n*n+7
def WE (r:Int)(s:UInt64×UInt64×UInt64):UInt64:=Ff (Ff (Ff 0 (LD (Ff s.1 (LX r 0)))) (LD (Ff s.2.1 (LX r 1)))) (LD (Ff s.2.2 (LX r 2)))
def I5 (r:Int)(s:UInt64×UInt64×UInt64):UInt64×UInt64×UInt64:=(Ff (LD (Ff s.1 (LX r 0))) (WE r s),Ff (LD (Ff s.2.1 (LX r 1))) (WE r s),Ff (LD (Ff s.2.2 (LX r 2))) (WE r s))
theorem PT (i:Int)(a:UInt64)(r:Int)(all:UInt64):DQ i a r all=some (LD (Ff a (LX r i)),r,Ff all (LD (Ff a (LX r i)))):=by
 simp only[DQ,E5,Ri,sev_eq,Ab]; rfl
theorem PR (i:Int)(a:UInt64)(all:UInt64):DP i a all=some (Ff a all,all):=by
 simp only[DP,Ri,Ab]
theorem Ul {σ:Type}{p:σ→Int→UInt64→Option (UInt64×σ)}{a b c a' b' c':UInt64}{s0 s1 s2 s3:σ}(h0:p s0 0 a=some (a',s1))(h1:p s1 1 b=some (b',s2))(h2:p s2 2 c=some (c',s3)):
  BZ (a,b,c) p s0=some ((a',b',c'),s3):=by
 have e0:idx [a,b,c] 0=some a:=rfl;have e1:idx [a',b,c] 1=some b:=rfl;have e2:idx [a',b',c] 2=some c:=rfl;simp[BZ,Cx,CY,E5,h0,e0,h1,e1,h2,e2]
theorem Yh (r:Int)(s:UInt64×UInt64×UInt64):EU r s=some (I5 r s):=by
 obtain⟨a,b,c⟩:=s;unfold EU;rw[Ul (a':=LD (Ff a (LX r 0))) (b':=LD (Ff b (LX r 1))) (c':=LD (Ff c (LX r 2))) (s1:=(r,Ff 0 (LD (Ff a (LX r 0))))) (s2:=(r,Ff (Ff 0 (LD (Ff a (LX r 0)))) (LD (Ff b (LX r 1)))))
  (s3:=(r,Ff (Ff (Ff 0 (LD (Ff a (LX r 0)))) (LD (Ff b (LX r 1)))) (LD (Ff c (LX r 2))))) (by simp only[PT,Ab]) (by simp only[PT,Ab]) (by simp only[PT,Ab])]
 simp only[Ab];change Ae (BZ _ _ (WE r (a,b,c))) _=some (Ff _ (WE r (a,b,c)),Ff _ (WE r (a,b,c)),Ff _ (WE r (a,b,c)));generalize WE r (a,b,c)=all;rw[Ul (s1:=all) (s2:=all) (s3:=all) (a':=Ff (LD (Ff a (LX r 0))) all) (b':=Ff (LD (Ff b (LX r 1))) all) (c':=Ff (LD (Ff c (LX r 2))) all) (by simp only[PR,Ab]) (by simp only[PR,Ab]) (by simp only[PR,Ab])];rfl
def RV (s:UInt64×UInt64×UInt64):UInt64×UInt64×UInt64:=I5 7 (I5 6 (I5 5 (I5 4 (I5 3 (I5 2 (I5 1 (I5 0 s)))))))
theorem TA (s:UInt64×UInt64×UInt64):Hc s=some (RV s):=by
 simp only[Hc,Cx,Yh,Ab];rfl
def ple:List UInt8→Nat→UInt64→UInt64
 | [],_,s=>s
 |b::bs,i,s=>ple bs (i+1) (s|||F5 (toU (b.toNat:Int)) (8*i))
theorem b6_eq (b5:List UInt8): ∀(l:List UInt8) (i:Nat) (s:UInt64),b5.drop i=l→i+l.length≤1000000→Cx (Dk b5) l.length (i:Int) s=some (ple l i s):=by
 intro l;induction l with
 |nil=>intro i s _ _; rfl
 |cons b l ih=>
  intro i s h hb;have hx:idx b5 (i:Int)=some b:=NG (by
   have:(b5.drop i)[0]? =some b:=by rw[h]; rfl
   simpa using this)
  simp only[List.length_cons]at hb;have hw:w64 (8*(i:Int))=((8*i:Nat):Int):=by rw[Ez (by omega) (by omega)]; omega
  have hstep:Dk b5 (i:Int) s=some (s|||F5 (toU (b.toNat:Int)) (8*i)):=by
   simp only[Dk,hx,Ab,hw,E5];rw[if_pos (by omega)]; rfl
  show Cx (Dk b5) (l.length+1) _ _=_;simp only[Cx,hstep,Ab,ple];have:=ih (i+1) (s|||F5 (toU (b.toNat:Int)) (8*i)) (by rw[←List.drop_drop,h]; rfl) (by omega);simpa using this
def pof (n:Nat)(l:List UInt8):List UInt64:=match n,l with|_,[]=> []|0,_=> []|n+1,l=>ple (l.take 7) 0 0::pof n (l.drop 7)
theorem XX (n:Nat): ∀l,(pof n l).length≤n:=by
 induction n with
 |zero=>intro l; cases l<;>simp[pof]
 |succ n ih=>intro l; cases l with
  |nil=>simp[pof]
  |cons a l=>simp only[pof,List.length_cons]; have:=ih ((a::l).drop 7); omega
theorem V8 (a0:List UInt8)(hb:a0.length≤1000000): ∀(n i:Nat) (out:List UInt64),a0.length≤i+n→i≤1000000+7→out.length+n≤1000000→
  iter (AL (fun(s:(List UInt64)) (b0:List UInt8)=>Ae (Dl b0 s) fun y=>some (true,y)) a0 7) (n+1) ((i:Int),out)=some (.inl (out++pof n (a0.drop i))):=by
 intro n;induction n with
 |zero=>
  intro i out h _ _;have:a0.drop i=[]:=List.drop_eq_nil_of_le (by omega);refine CA ?_;simp only[AL,this];rw[if_neg (by simp; omega)];simp[pof]
 |succ n ih=>
  intro i out h hi ho;by_cases hlt:i<a0.length
  ·obtain⟨b,l,hl⟩: ∃b l,a0.drop i=b::l:=⟨a0[i],a0.drop (i+1),List.drop_eq_getElem_cons hlt⟩;have hc1:cut a0 (i:Int) (a0.length:Int)=some (a0.drop i):=by
    rw[Q4 (by omega) (by omega)]; congr 1; rw[List.take_of_length_le (by simp)]
   have hlen:(a0.drop i).length=a0.length-i:=by simp
   have hm:w64 ((i:Int)+Kg 7 ((a0.drop i).length:Int))=((i+min 7 (a0.length-i):Nat):Int):=by
    rw[Ez]<;>unfold Kg<;>split<;>omega
   have hc2:cut a0 (i:Int) ((i+min 7 (a0.length-i):Nat):Int)=some ((a0.drop i).take 7):=by
    rw[Q4 (by omega) (by omega)]; congr 1;rw[Nat.add_sub_cancel_left];by_cases h7:7≤a0.length-i
    ·rw[Nat.min_eq_left h7]
    ·rw[Nat.min_eq_right (by omega),List.take_of_length_le (by simp),List.take_of_length_le (by simp; omega)]
   have hw:w64 ((i:Int)+7)=((i+7:Nat):Int):=by rw[Ez (by omega) (by omega)]; omega
   have hb4:Dl ((a0.drop i).take 7) out=some (out++[ple ((a0.drop i).take 7) 0 0]):=by
    have:=b6_eq ((a0.drop i).take 7) ((a0.drop i).take 7) 0 0 rfl (by simp; omega);simp only[Dl];rw[show((0:Int))=((0:Nat):Int)from rfl,this];simp only[Ab];rw[Re 8 (by simp; omega) (by simp; omega)];rfl
   rw[Ci (s':=(((i+7:Nat):Int),out++[ple ((a0.drop i).take 7) 0 0]))]
   ·rw[ih (i+7) _ (by omega) (by omega) (by simp; omega)];rw[hl];simp only[pof];rw[←hl,List.drop_drop];simp
   ·simp only[AL];rw[if_pos (decide_eq_true (by omega)),hc1];simp only[Ab,hm,hc2,hb4,hw];rfl
  ·have:a0.drop i=[]:=List.drop_eq_nil_of_le (by omega);refine CA ?_;simp only[AL,this];rw[if_neg (by simp; omega)];simp[pof]
theorem of_eq (a0:List UInt8)(hb:a0.length≤900000):Hd a0=some (pof a0.length a0):=by
 have h:=V8 a0 (by omega) a0.length 0 [] (by omega) (by omega) (by simp; omega);have h':=HY _ h (by omega);simp only[Hd,B9,BT];rw[if_neg (by decide)];simp only[Ab,List.drop_zero,List.nil_append]at h'⊢;rw[show((0:Int))=((0:Nat):Int)from rfl,h'];simp only[Ab]
def Iq (n:Nat)(l:List UInt64)(s:UInt64×UInt64×UInt64):UInt64×UInt64×UInt64:=match n,l with|_,[]=>s|0,_=>s|_+1,[x]=>RV (Ff s.1 x,s.2.1,s.2.2)|n+1,x::y::l=>Iq n l (RV (Ff s.1 x,Ff s.2.1 y,s.2.2))
theorem b4_eq1 (x:UInt64)(s:UInt64×UInt64×UInt64):Cx (Di [x]) 1 0 s=some (Ff s.1 x,s.2.1,s.2.2):=by
 have e0:idx [x] (0:Int)=some x:=rfl;have e1:idx [s.1,s.2.1,s.2.2] (0:Int)=some s.1:=rfl;simp[Cx,Di,e0,e1,Ri,E5]
theorem b4_eq2 (x y:UInt64)(s:UInt64×UInt64×UInt64):Cx (Di [x,y]) 2 0 s=some (Ff s.1 x,Ff s.2.1 y,s.2.2):=by
 have e0:idx [x,y] (0:Int)=some x:=rfl;have e1:idx [s.1,s.2.1,s.2.2] (0:Int)=some s.1:=rfl;have e2:idx [x,y] 1=some y:=rfl;have e3:idx [Ff s.1 x,s.2.1,s.2.2] 1=some s.2.1:=rfl;simp[Cx,Di,e0,e1,e2,e3,Ri,E5]
theorem b3_nil (fst:Bool)(hf:fst=true)(s:UInt64×UInt64×UInt64):BJ ([],fst,s.1,s.2.1,s.2.2)=some (.inl ([],false,RV s)):=by
 subst hf;have hc:cut ([]:List UInt64) 0 0=some []:=rfl;have hmin:Kg 2 (([]:List UInt64).length:Int)=0:=rfl;simp only[BJ,Bool.true_or,if_true,hmin];rw[show((([]:List UInt64).length:Int))=0 from rfl,hc];simp only[Ab,Cx,List.length_nil,TA]
theorem Xe (s:UInt64×UInt64×UInt64):BJ ([],false,s.1,s.2.1,s.2.2)=some (.inr s):=rfl
theorem Xd (fst:Bool)(x:UInt64)(s:UInt64×UInt64×UInt64):BJ ([x],fst,s.1,s.2.1,s.2.2)=some (.inl ([],false,RV (Ff s.1 x,s.2.1,s.2.2))):=by
 have hmin:Kg 2 (([x]:List UInt64).length:Int)=1:=rfl;have h0:(fst||decide ((([x]:List UInt64).length:Int)>0))=true:=by simp
 have hc:cut [x] 0 1=some [x]:=rfl;have hc2:cut [x] 1 1=some []:=rfl;simp only[BJ,h0,if_true,hmin];rw[show((([x]:List UInt64).length:Int))=1 from rfl,hc,hc2];simp only[Ab,List.length_cons,List.length_nil];rw[b4_eq1];simp only[Ab,TA]
theorem Xc (fst:Bool)(x y:UInt64)(l:List UInt64)(s:UInt64×UInt64×UInt64):BJ (x::y::l,fst,s.1,s.2.1,s.2.2)=some (.inl (l,false,RV (Ff s.1 x,Ff s.2.1 y,s.2.2))):=by
 have hmin:Kg 2 ((x::y::l).length:Int)=((2:Nat):Int):=by unfold Kg; rw[if_neg (by simp; omega)]; rfl
 have h0:(fst||decide (((x::y::l).length:Int)>0))=true:=by simp; right; omega
 have hc:cut (x::y::l) ((0:Nat):Int) ((2:Nat):Int)=some [x,y]:=by rw[Q4 (by omega) (by simp)]; rfl
 have hc2:cut (x::y::l) ((2:Nat):Int) ((x::y::l).length:Int)=some l:=by rw[Q4 (by simp) (by omega)]; simp
 simp only[BJ,h0,if_true,hmin];rw[show((0:Int))=((0:Nat):Int)from rfl,hc,hc2];simp only[Ab,List.length_cons,List.length_nil];rw[show((0:Nat):Int)=0 from rfl,b4_eq2];simp only[Ab,TA]
theorem Qc: ∀(n:Nat) (l:List UInt64) (s:UInt64×UInt64×UInt64),l.length≤n→iter BJ (n+1) (l,false,s.1,s.2.1,s.2.2)=some (Iq n l s):=by
 intro n;induction n with
 |zero=>
  intro l s h;have:l=[]:=List.eq_nil_of_length_eq_zero (by omega);subst this;rw[CA (Xe s)]; simp[Iq]
 |succ n ih=>
  intro l s h;match l,h with
  | [],_=>rw[CA (Xe s)]; simp[Iq]
  | [x],_=>
   rw[Ci (Xd false x s)];have:=ih [] (RV (Ff s.1 x,s.2.1,s.2.2)) (by simp);rw[this]; simp[Iq]
  |x::y::l,h=>
   rw[Ci (Xc false x y l s)];have:=ih l (RV (Ff s.1 x,Ff s.2.1 y,s.2.2)) (by simp at h; omega);rw[this]; simp[Iq]
def WC (l:List UInt64)(s:UInt64×UInt64×UInt64):UInt64×UInt64×UInt64:=match l with| []=>RV s|l=>Iq l.length l s
def hsum (b:List UInt8):UInt64×UInt64:=((WC (pof b.length b) (0,0,toU (b.length:Int))).1,(WC (pof b.length b) (0,0,toU (b.length:Int))).2.1)
theorem sum_eq (b:List UInt8)(hb:b.length≤900000):Gi b=some (hsum b):=by
 simp only[Gi,of_eq b hb,Ab];have hl:=XX b.length b;have hk:hsum b=((WC (pof b.length b) (0,0,toU (b.length:Int))).1,(WC (pof b.length b) (0,0,toU (b.length:Int))).2.1):=rfl;rw[hk];clear hk;generalize pof b.length b=l at*;have h:iter BJ C7 (l,true,0,0,toU (b.length:Int))=some (WC l (0,0,toU (b.length:Int))):=by
  refine HY (l.length+2) ?_ (by omega);match l with
  | []=>
   rw[show([]:List UInt64).length+2=1+1 from rfl,Ci (b3_nil true rfl (0,0,toU (b.length:Int)))];have:=Qc 0 [] (RV (0,0,toU (b.length:Int))) (by simp);rw[this]; simp[Iq,WC]
  | [x]=>
   rw[show([x]:List UInt64).length+2=2+1 from rfl,Ci (Xd true x (0,0,toU (b.length:Int)))];have:=Qc 1 [] (RV (Ff 0 x,0,toU (b.length:Int))) (by simp);rw[this]; simp[Iq,WC]
  |x::y::l=>
   rw[Ci (Xc true x y l (0,0,toU (b.length:Int)))];have:=Qc (l.length+2) l (RV (Ff 0 x,Ff 0 y,toU (b.length:Int))) (by omega);have e:(x::y::l).length+1=l.length+2+1:=rfl;rw[e,this];simp only[Iq,WC,List.length_cons];congr 1;clear this hl;have: ∀(n k:Nat) (l:List UInt64) (s:UInt64×UInt64×UInt64),l.length≤n→l.length≤k→Iq n l s=Iq k l s:=by
    intro n;induction n with
    |zero=>intro k l s h _; have:l=[]:=List.eq_nil_of_length_eq_zero (by omega); subst this; simp[Iq]
    |succ n ih=>
     intro k l s h hk;match l,k,h,hk with
     | [],k,_,_=>cases k<;>simp[Iq]
     | [x],k+1,_,_=>simp[Iq]
     |x::y::l,k+1,h,hk=>simp only[Iq]; exact ih k l _ (by simp at h; omega) (by simp at hk; omega)
   exact this _ _ _ _ (by omega) (by omega)
 rw[h];simp only[Ab]
def Pc:Nat→UInt64→List UInt8
 |0,_=> []
 |k+1,n=>toB ((Dt n (8*k)).toNat:Int)::Pc k n
theorem I6 (k:Nat)(n:UInt64):(Pc k n).length=k:=by induction k with|zero=>rfl|succ k ih=>simp[Pc,ih]
theorem Vf (n:UInt64): ∀(k:Nat) (b:List UInt8),k≤8→b.length+k≤1000000→iter (D7 n) (k+1) (b,(k:Int)-1)=some (b++Pc k n):=by
 intro k;induction k with
 |zero=>intro b _ _; refine CA ?_; simp only[D7,Pc,List.append_nil]; rw[if_neg (by simp)]
 |succ k ih=>
  intro b hk hb;have hw:w64 (8*(((k+1:Nat):Int)-1))=((8*k:Nat):Int):=by rw[Ez (by omega) (by omega)]; omega
  have hw2:w64 ((((k+1:Nat):Int)-1)-1)=(k:Int)-1:=by rw[Ez (by omega) (by omega)]; omega
  rw[Ci (s':=(b++[toB ((Dt n (8*k)).toNat:Int)],(k:Int)-1))]
  ·rw[ih _ (by omega) (by simp; omega)]; simp[Pc]
  ·simp only[D7,hw,hw2];rw[if_pos (decide_eq_true (by omega)),if_pos (by omega),Re 1 (by simp; omega) (by simp; omega)];simp only[Ab,Int.toNat_natCast]
theorem put_eq (n:UInt64)(k:Nat)(b:List UInt8)(hk:k≤8)(hb:b.length≤900000):Gh b n (k:Int)=some (b++Pc k n):=by
 have hw:w64 ((k:Int)-1)=(k:Int)-1:=Ez (by omega) (by omega);simp only[Gh,hw,HY (k+1) (Vf n k b hk (by omega)) (by omega),Ab]
def WD (s:UInt64×UInt64):List UInt8:=Pc 8 s.1++Pc 8 s.2
def Tn:List UInt8→List (List UInt8)→List UInt8
 |b,[]=>b
 |b,p::ps=>Tn (b++Pc 4 (toU (p.length:Int))++p) ps
def XY:List (List UInt8)→Nat
 | []=>0
 |p::ps=>4+p.length+XY ps
theorem Tm: ∀(ps:List (List UInt8)) (b:List UInt8),(Tn b ps).length=b.length+XY ps:=by
 intro ps;induction ps with
 |nil=>intro b; rfl
 |cons p ps ih=>intro b; simp only[Tn,ih,XY,List.length_append,I6]; omega
theorem U4: ∀(ps:List (List UInt8)) (i:Int) (b:List UInt8),b.length+XY ps≤800000→E4 Dq ps i b=some (Tn b ps):=by
 intro ps;induction ps with
 |nil=>intro i b _; rfl
 |cons p ps ih=>
  intro i b h;simp only[XY]at h;have h0:Gh b (toU (p.length:Int)) 4=some (b++Pc 4 (toU (p.length:Int))):=put_eq _ 4 b (by omega) (by omega);simp only[E4,Dq,h0,Ab];rw[Re 1 (by simp[I6]; omega) (by simp[I6]; omega)];simp only[Ab];rw[ih _ _ (by simp[I6]; omega)];rfl
def ptag (t:ByteArray)(ps:List (List UInt8)):UInt64×UInt64:=hsum (Tn (toB (t.size:Int)::t.data.toList) ps)
theorem Sm (t:ByteArray)(ps:List (List UInt8))(h:t.data.toList.length+XY ps≤700000):D8 t ps=some (ptag t ps):=by
 simp only[D8];rw[Re 1 (by simp at h⊢; omega) (by simp at h⊢; omega)];simp only[Ab];rw[U4 _ _ _ (by simp at h⊢; omega)];simp only[Ab];rw[sum_eq _ (by rw[Tm]; simp at h⊢; omega)];rfl
def ppair (a b:UInt64×UInt64):UInt64×UInt64:=ptag ⟨#[110,111,100,101]⟩ [WD a,WD b]
end Go.Proofs.YtbajlmaijjcbmaaGreatDoor
end
section
namespace Go.Proofs.YtbajlmaijjcbmaaGreatDoor
open Go Go.Gw Go.Ax
abbrev FP:Nat:=2305843009213693951
theorem Oo {n:Nat}(h:n<18446744073709551616):(toU (n:Int)).toNat=n:=by
 unfold toU;rw[UInt64.toNat_ofNat'];omega
theorem D4 (x:UInt64)(k:Nat)(hk:k≤64):(Dt x k).toNat=x.toNat/2^k:=by
 unfold Dt;rw[UInt64.toNat_ofNat',Nat.min_eq_left hk];exact Nat.mod_eq_of_lt (Nat.lt_of_le_of_lt (Nat.div_le_self _ _) x.toNat_lt)
theorem Vs {p q r s:Nat}(hp:p<4294967296)(hq:q<4294967296)(hr:r<4294967296)(hs:s<4294967296):
  (p*r+((p*s+q*s/4294967296)/4294967296)+(((p*s+q*s/4294967296)%4294967296+q*r)/4294967296))=((p*4294967296+q)*(r*4294967296+s))/18446744073709551616:=by
 have h1:(p*4294967296+q)*(r*4294967296+s)=(p*r)*18446744073709551616+(p*s+q*r)*4294967296+q*s:=by
  rw[Nat.add_mul,Nat.mul_add,Nat.mul_add,Nat.add_mul];have a1:p*4294967296*(r*4294967296)=p*r*18446744073709551616:=by rw[Nat.mul_assoc,Nat.mul_left_comm 4294967296,←Nat.mul_assoc p]
  have a2:p*4294967296*s=p*s*4294967296:=Nat.mul_right_comm _ _ _;have a3:q*(r*4294967296)=q*r*4294967296:=(Nat.mul_assoc _ _ _).symm;rw[a1,a2,a3]; omega
 rw[h1];generalize p*r=A;generalize p*s=B;generalize q*r=C;generalize q*s=D;omega
theorem Tk (a b:UInt64):(phi a b).toNat=(a.toNat*b.toNat)/18446744073709551616:=by
 have ha:=a.toNat_lt;have hb:=b.toNat_lt;have m32: ∀x:UInt64,(x&&&4294967295).toNat=x.toNat%4294967296:=fun x=>by
  rw[UInt64.toNat_and]; exact Nat.and_two_pow_sub_one_eq_mod _ 32
 have s32: ∀x:UInt64,(Dt x 32).toNat=x.toNat/4294967296:=fun x=>D4 x 32 (by omega);have hp:a.toNat/4294967296<4294967296:=by omega
 have hq:a.toNat%4294967296<4294967296:=by omega
 have hr:b.toNat/4294967296<4294967296:=by omega
 have hs:b.toNat%4294967296<4294967296:=by omega
 have ea:a.toNat/4294967296*4294967296+a.toNat%4294967296=a.toNat:=Nat.div_add_mod' _ _;have eb:b.toNat/4294967296*4294967296+b.toNat%4294967296=b.toNat:=Nat.div_add_mod' _ _;have key:=Vs hp hq hr hs;rw[ea,eb]at key;have bd: ∀x y:Nat,x<4294967296→y<4294967296→x*y≤18446744065119617025:=fun x y hx hy=>Nat.mul_le_mul (show x≤4294967295 by omega) (show y≤4294967295 by omega);have b1:=bd _ _ hp hr;have b2:=bd _ _ hp hs;have b3:=bd _ _ hq hr;have b4:=bd _ _ hq hs;have ab:a.toNat*b.toNat/18446744073709551616<18446744073709551616:=by
  rw[Nat.div_lt_iff_lt_mul (by omega)];exact Nat.lt_of_le_of_lt (Nat.mul_le_mul (show a.toNat≤18446744073709551615 by omega) (show b.toNat≤18446744073709551615 by omega)) (by omega)
 unfold phi;dsimp only;rw[←key]at ab⊢;simp only[UInt64.toNat_add,UInt64.toNat_mul,s32,m32];generalize a.toNat/4294967296*(b.toNat/4294967296)=A at*;generalize a.toNat/4294967296*(b.toNat%4294967296)=B at*;generalize a.toNat%4294967296*(b.toNat/4294967296)=C at*;generalize a.toNat%4294967296*(b.toNat%4294967296)=D at*;omega
theorem u_ext {a b:UInt64}(h:a.toNat=b.toNat):a=b:=UInt64.toNat_inj.1 h
end Go.Proofs.YtbajlmaijjcbmaaGreatDoor
end
section
namespace Go.Proofs.YtbajlmaijjcbmaaGreatDoor
open Go Go.Gw Go.Ax
section
variable {x4 x5 x7 y u:UInt64}
theorem dq_lt (hd:x7.toNat<4294967296)(hu:u.toNat<y.toNat):(u.toNat*4294967296+x7.toNat)/y.toNat<4294967296:=by
 rw[Nat.div_lt_iff_lt_mul (by omega)];have:(u.toNat+1)*4294967296≤y.toNat*4294967296:=Nat.mul_le_mul_right _ hu;omega
theorem dcond {q r:UInt64}(h1:2147483648≤x4.toNat∧x4.toNat<4294967296)(h0:x5.toNat<4294967296)(hd:x7.toNat<4294967296)(hy:y.toNat=x4.toNat*4294967296+x5.toNat)(hu:u.toNat<y.toNat)
  (hq:q.toNat*x4.toNat+r.toNat=u.toNat) (hr:r.toNat<4294967296):
  (((decide ((q.toNat:Int)≥4294967296))||(decide (((q*x5).toNat:Int)>(((4294967296*r)+x7).toNat:Int))))=true↔(u.toNat*4294967296+x7.toNat)/y.toNat<q.toNat):=by
 have hlt:=dq_lt hd hu;have e1:((4294967296*r)+x7).toNat=4294967296*r.toNat+x7.toNat:=by
  rw[UInt64.toNat_add,UInt64.toNat_mul,show(4294967296:UInt64).toNat=4294967296 from rfl]; omega
 rw[Bool.or_eq_true,decide_eq_true_eq,decide_eq_true_eq,e1];by_cases hb:4294967296≤q.toNat
 ·constructor
  ·intro _; omega
  ·intro _; left; omega
 ·have hB:q.toNat*x5.toNat≤4294967295*4294967295:=Nat.mul_le_mul (by omega) (by omega);have e2:(q*x5).toNat=q.toNat*x5.toNat:=by rw[UInt64.toNat_mul]; omega
  have e3:q.toNat*y.toNat=q.toNat*x4.toNat*4294967296+q.toNat*x5.toNat:=by rw[hy,Nat.mul_add,Nat.mul_assoc]
  rw[e2,Nat.div_lt_iff_lt_mul (by omega),e3];generalize q.toNat*x4.toNat=A at*;generalize q.toNat*x5.toNat=B at*;omega
theorem dstep {q r:UInt64}(h1:2147483648≤x4.toNat∧x4.toNat<4294967296)(h0:x5.toNat<4294967296)(hd:x7.toNat<4294967296)(hy:y.toNat=x4.toNat*4294967296+x5.toNat)(hu:u.toNat<y.toNat)
  (hq:q.toNat*x4.toNat+r.toNat=u.toNat) (hr:r.toNat<4294967296) (hq2:q.toNat≤4294967297) (hc:(u.toNat*4294967296+x7.toNat)/y.toNat<q.toNat):
  (q-1).toNat=q.toNat-1∧(r+x4).toNat=r.toNat+x4.toNat∧(q-1).toNat*x4.toNat+(r+x4).toNat=u.toNat∧(u.toNat*4294967296+x7.toNat)/y.toNat≤(q-1).toNat∧
  (4294967296≤(r+x4).toNat→(q-1).toNat=(u.toNat*4294967296+x7.toNat)/y.toNat):=by
 have q1:1≤q.toNat:=Nat.lt_of_le_of_lt (Nat.zero_le _) hc;have e1:(q-1).toNat=q.toNat-1:=by rw[UInt64.toNat_sub_of_le _ _ (by rw[UInt64.le_iff_toNat_le]; exact q1)]; rfl
 have e2:(r+x4).toNat=r.toNat+x4.toNat:=by rw[UInt64.toNat_add]; omega
 have e3:(q.toNat-1)*x4.toNat+x4.toNat=q.toNat*x4.toNat:=by
  rw[←Nat.succ_mul]; congr 1; omega
 refine⟨e1,e2,by rw[e1,e2,Nat.add_comm r.toNat,←Nat.add_assoc,e3,hq],by rw[e1]; exact Nat.le_sub_one_of_lt hc,fun hb=> ?_⟩;rw[e2]at hb;refine Nat.le_antisymm ?_ (by rw[e1]; exact Nat.le_sub_one_of_lt hc);rw[e1,Nat.le_div_iff_mul_le (Nat.lt_of_le_of_lt (Nat.zero_le _) hu)];clear hc e1 e2;have hB:(q.toNat-1)*x5.toNat≤4294967296*4294967295:=Nat.mul_le_mul (by omega) (by omega);have e4:(q.toNat-1)*y.toNat=(q.toNat-1)*x4.toNat*4294967296+(q.toNat-1)*x5.toNat:=by rw[hy,Nat.mul_add,Nat.mul_assoc]
 rw[e4];generalize (q.toNat-1)*x4.toNat=A at*;generalize (q.toNat-1)*x5.toNat=B at*;generalize q.toNat*x4.toNat=C at*;omega
theorem dloop1 (h1:2147483648≤x4.toNat∧x4.toNat<4294967296)(h0:x5.toNat<4294967296)(hd:x7.toNat<4294967296)(hy:y.toNat=x4.toNat*4294967296+x5.toNat)(hu:u.toNat<y.toNat):
  ∀(n:Nat) (q r:UInt64),q.toNat*x4.toNat+r.toNat=u.toNat→r.toNat<4294967296→q.toNat≤4294967297→(u.toNat*4294967296+x7.toNat)/y.toNat≤q.toNat→4294967296≤r.toNat+n*2147483648→
   ∃p,iter (Cw x4 x5 x7) (n+1) (q,r)=some p∧p.toNat=(u.toNat*4294967296+x7.toNat)/y.toNat:=by
 intro n;induction n with
 |zero=>intro q r _ hr _ _ hn; omega
 |succ n ih=>
  intro q r hq hr hq2 hle hn;have hc:=dcond h1 h0 hd hy hu hq hr;by_cases hcc:(u.toNat*4294967296+x7.toNat)/y.toNat<q.toNat
  ·obtain⟨s1,s2,s3,s4,s5⟩:=dstep h1 h0 hd hy hu hq hr hq2 hcc;by_cases hb:4294967296≤(r+x4).toNat
   ·refine⟨q-1,CA ?_,s5 hb⟩;unfold Cw;rw[if_pos (hc.2 hcc),if_pos (by rw[decide_eq_true_eq]; dsimp only; omega)]
   ·obtain⟨p,p1,p2⟩:=ih (q-1) (r+x4) s3 (by omega) (by omega) s4 (by omega);refine⟨p,?_,p2⟩;rw[Ci (s':=(q-1,r+x4)),p1];unfold Cw;rw[if_pos (hc.2 hcc),if_neg (by rw[decide_eq_true_eq]; dsimp only; omega)]
  ·refine⟨q,CA ?_,by omega⟩;unfold Cw;rw[if_neg (fun h=>hcc (hc.1 h))]
theorem dloop2 (h1:2147483648≤x4.toNat∧x4.toNat<4294967296)(h0:x5.toNat<4294967296)(hd:x7.toNat<4294967296)(hy:y.toNat=x4.toNat*4294967296+x5.toNat)(hu:u.toNat<y.toNat):
  ∀(n:Nat) (q r:UInt64),q.toNat*x4.toNat+r.toNat=u.toNat→r.toNat<4294967296→q.toNat≤4294967297→(u.toNat*4294967296+x7.toNat)/y.toNat≤q.toNat→4294967296≤r.toNat+n*2147483648→
   ∃p,iter (Cv x4 x5 x7) (n+1) (r,q)=some p∧p.toNat=(u.toNat*4294967296+x7.toNat)/y.toNat:=by
 intro n;induction n with
 |zero=>intro q r _ hr _ _ hn; omega
 |succ n ih=>
  intro q r hq hr hq2 hle hn;have hc:=dcond h1 h0 hd hy hu hq hr;by_cases hcc:(u.toNat*4294967296+x7.toNat)/y.toNat<q.toNat
  ·obtain⟨s1,s2,s3,s4,s5⟩:=dstep h1 h0 hd hy hu hq hr hq2 hcc;by_cases hb:4294967296≤(r+x4).toNat
   ·refine⟨q-1,CA ?_,s5 hb⟩;unfold Cv;rw[if_pos (hc.2 hcc),if_pos (by rw[decide_eq_true_eq]; dsimp only; omega)]
   ·obtain⟨p,p1,p2⟩:=ih (q-1) (r+x4) s3 (by omega) (by omega) s4 (by omega);refine⟨p,?_,p2⟩;rw[Ci (s':=(r+x4,q-1)),p1];unfold Cv;rw[if_pos (hc.2 hcc),if_neg (by rw[decide_eq_true_eq]; dsimp only; omega)]
  ·refine⟨q,CA ?_,by omega⟩;unfold Cv;rw[if_neg (fun h=>hcc (hc.1 h))]
theorem W2 (h1:2147483648≤x4.toNat∧x4.toNat<4294967296)(h0:x5.toNat<4294967296)(hd:x7.toNat<4294967296)(hy:y.toNat=x4.toNat*4294967296+x5.toNat)(hu:u.toNat<y.toNat):
  (u/x4).toNat*x4.toNat+(u-(u/x4)*x4).toNat=u.toNat∧(u-(u/x4)*x4).toNat<4294967296∧(u/x4).toNat≤4294967297∧(u.toNat*4294967296+x7.toNat)/y.toNat≤(u/x4).toNat:=by
 have e1:(u/x4).toNat=u.toNat/x4.toNat:=UInt64.toNat_div _ _;have hmul:u.toNat/x4.toNat*x4.toNat≤u.toNat:=Nat.div_mul_le_self _ _;have hul:=u.toNat_lt;have e2:((u/x4)*x4).toNat=u.toNat/x4.toNat*x4.toNat:=by rw[UInt64.toNat_mul,e1]; omega
 have e3:(u-(u/x4)*x4).toNat=u.toNat-u.toNat/x4.toNat*x4.toNat:=by
  rw[UInt64.toNat_sub_of_le _ _ (by rw[UInt64.le_iff_toNat_le,e2]; exact hmul),e2]
 have e4:u.toNat-u.toNat/x4.toNat*x4.toNat=u.toNat%x4.toNat:=by
  have:=Nat.div_add_mod' u.toNat x4.toNat; omega
 have e5:=Nat.mod_lt u.toNat (show 0<x4.toNat by omega);refine⟨by rw[e1,e3]; omega,by rw[e3,e4]; omega,?_,?_⟩
 ·rw[e1];have:u.toNat/x4.toNat<4294967298:=by
   rw[Nat.div_lt_iff_lt_mul (by omega)];omega
  omega
 ·rw[e1,Nat.le_div_iff_mul_le (by omega)];have h2:(u.toNat*4294967296+x7.toNat)/y.toNat*y.toNat≤u.toNat*4294967296+x7.toNat:=Nat.div_mul_le_self _ _;generalize (u.toNat*4294967296+x7.toNat)/y.toNat=Q at*;have h3:Q*y.toNat=Q*x4.toNat*4294967296+Q*x5.toNat:=by rw[hy,Nat.mul_add,Nat.mul_assoc]
  rw[h3]at h2;generalize Q*x4.toNat=A at*;generalize Q*x5.toNat=B at*;omega
theorem drest {q:UInt64}(hu:u.toNat<y.toNat)(hq:q.toNat=(u.toNat*4294967296+x7.toNat)/y.toNat):(((u*4294967296)+x7)-(q*y)).toNat=(u.toNat*4294967296+x7.toNat)%y.toNat:=by
 have hyl:=y.toNat_lt;have hm:=Nat.mod_lt (u.toNat*4294967296+x7.toNat) (show 0<y.toNat by omega);have hdm:=Nat.div_add_mod' (u.toNat*4294967296+x7.toNat) y.toNat;rw[UInt64.toNat_sub,UInt64.toNat_add,UInt64.toNat_mul,UInt64.toNat_mul,hq,show(4294967296:UInt64).toNat=4294967296 from rfl];generalize (u.toNat*4294967296+x7.toNat)/y.toNat*y.toNat=Z at*;omega
end
theorem J9 {x:UInt64}{k:Nat}(hk:k≤63):(F5 x k).toNat=(x.toNat*2^k)%18446744073709551616:=by
 unfold F5;rw[Nat.min_eq_left (by omega),show(x.toNat:Int)*2^k=((x.toNat*2^k:Nat):Int)from by simp];unfold toU;rw[UInt64.toNat_ofNat'];generalize x.toNat*2^k=z;omega
theorem or_nat {a b k:Nat}(h:b<2^k):a*2^k|||b=a*2^k+b:=by
 rw[Nat.mul_comm]; exact(Nat.two_pow_add_eq_or_of_lt h a).symm
theorem Q2 {hi lo y0:UInt64}{s:Nat}(hs:s≤63)(hlz:B6 y0=some (s:Int))(hn1:9223372036854775808≤y0.toNat*2^s)(hn2:y0.toNat*2^s<18446744073709551616)(hh:hi.toNat<y0.toNat):
  ∃q r,EC hi lo y0=some (q,r)∧r.toNat=(hi.toNat*18446744073709551616+lo.toNat)%y0.toNat:=by
 have hyne:y0≠0:=fun e=>by rw[e]at hh; simp at hh
 unfold EC;rw[if_neg (by rw[beq_iff_eq]; omega),Ab,if_neg (by rw[decide_eq_true_eq]; omega),Ab];by_cases hz:hi.toNat=0
 ·rw[if_pos (by rw[beq_iff_eq]; omega),if_pos hyne,if_pos hyne];refine⟨_,_,rfl,?_⟩;rw[UInt64.toNat_mod,hz]; simp
 ·have hts:(toU (s:Int)).toNat=s:=Oo (by omega);have h64:(64-toU (s:Int)).toNat=64-s:=by
   rw[UInt64.toNat_sub_of_le _ _ (by rw[UInt64.le_iff_toNat_le,hts]; show s≤64; omega),hts]; rfl
  rw[if_neg (by rw[beq_iff_eq]; omega),hlz,Ab,hts,h64];simp only[E5];have hps:0<2^s:=Nat.two_pow_pos s;have hpp:2^s*2^ (64-s)=18446744073709551616:=by rw[←Nat.pow_add,show s+(64-s)=64 from by omega]
  have hY:(F5 y0 s).toNat=y0.toNat*2^s:=by rw[J9 (by omega)]; exact Nat.mod_eq_of_lt hn2
  have hlo:=lo.toNat_lt;have hlod:lo.toNat/2^ (64-s)<2^s:=by rw[Nat.div_lt_iff_lt_mul (Nat.two_pow_pos _),hpp]; omega
  have hhs:hi.toNat*2^s+2^s≤y0.toNat*2^s:=by rw[←Nat.succ_mul]; exact Nat.mul_le_mul_right _ hh
  have hU:((F5 hi s)|||(Dt lo (64-s))).toNat=hi.toNat*2^s+lo.toNat/2^ (64-s):=by
   rw[UInt64.toNat_or,J9 (by omega),D4 _ _ (by omega),Nat.mod_eq_of_lt (by omega),or_nat hlod]
  have hL:(F5 lo s).toNat=(lo.toNat*2^s)%18446744073709551616:=J9 (by omega);have m32: ∀x:UInt64,(x&&&4294967295).toNat=x.toNat%4294967296:=fun x=>by
   rw[UInt64.toNat_and]; exact Nat.and_two_pow_sub_one_eq_mod _ 32
  have s32: ∀x:UInt64,(Dt x 32).toNat=x.toNat/4294967296:=fun x=>D4 x 32 (by omega);have hlos:lo.toNat*2^s=lo.toNat/2^ (64-s)*18446744073709551616+(lo.toNat*2^s)%18446744073709551616:=by
   have e1:lo.toNat*2^s/18446744073709551616=lo.toNat/2^ (64-s):=by
    rw[←hpp,Nat.mul_comm,Nat.mul_div_mul_left _ _ hps]
   rw[←e1]; exact(Nat.div_add_mod' _ _).symm
  have hN:(hi.toNat*18446744073709551616+lo.toNat)*2^s=(hi.toNat*2^s+lo.toNat/2^ (64-s))*18446744073709551616+(lo.toNat*2^s)%18446744073709551616:=by
   rw[Nat.add_mul,hlos,Nat.add_mul,Nat.mul_right_comm];omega
  generalize hgy:F5 y0 s=y at*;generalize hgu:(F5 hi s)|||(Dt lo (64-s))=u at*;generalize hgl:F5 lo s=l at*;have hyl:=y.toNat_lt;have a1:2147483648≤(Dt y 32).toNat∧(Dt y 32).toNat<4294967296:=by rw[s32]; omega
  have a0:(y&&&4294967295).toNat<4294967296:=by rw[m32]; omega
  have ay:y.toNat=(Dt y 32).toNat*4294967296+(y&&&4294967295).toNat:=by rw[s32,m32]; omega
  have ad:(Dt l 32).toNat<4294967296:=by rw[s32]; have:=l.toNat_lt; omega
  have ae:(l&&&4294967295).toNat<4294967296:=by rw[m32]; omega
  have au:u.toNat<y.toNat:=by rw[hU,hY]; omega
  have hx4:Dt y 32≠0:=fun e=>by rw[e]at a1; simp at a1
  obtain⟨b1,b2,b3,b4⟩:=W2 a1 a0 ad ay au;obtain⟨q1,c1,c2⟩:=dloop1 a1 a0 ad ay au 2 _ _ b1 b2 b3 b4 (by omega);have hr1:=drest au c2;have hr1l:=Nat.mod_lt (u.toNat*4294967296+(Dt l 32).toNat) (show 0<y.toNat by omega);rw[if_pos hx4,HY _ c1 (by omega),Ab,Ab,if_pos hx4];generalize hgv:((u*4294967296)+(Dt l 32))-(q1*y)=v at*;have av:v.toNat<y.toNat:=by omega
  obtain⟨d1,d2,d3,d4⟩:=W2 a1 a0 ae ay av;obtain⟨q0,e1,e2⟩:=dloop2 a1 a0 ae ay av 2 _ _ d1 d2 d3 d4 (by omega);have hr0:=drest av e2;rw[HY _ e1 (by omega),Ab,Ab];refine⟨_,_,rfl,?_⟩;rw[D4 _ _ (by omega),hr0,hr1];have f1:(((u.toNat*4294967296+(Dt l 32).toNat)%y.toNat)*4294967296+(l&&&4294967295).toNat)%y.toNat=((hi.toNat*18446744073709551616+lo.toNat)*2^s)%y.toNat:=by
   rw[Nat.add_mod,Nat.mod_mul_mod,←Nat.add_mod,hN,←hU,←hL,s32,m32];have e9:(u.toNat*4294967296+l.toNat/4294967296)*4294967296+l.toNat%4294967296=u.toNat*18446744073709551616+l.toNat:=by omega
   rw[e9]
  rw[f1,hY,Nat.mul_mod_mul_right,Nat.mul_div_cancel _ hps]
end Go.Proofs.YtbajlmaijjcbmaaGreatDoor
end
section
namespace Go.Proofs.YtbajlmaijjcbmaaGreatDoor
open Go Go.Gw Go.Ax
abbrev GQ:Nat:=2305843009213691579
abbrev GR:Nat:=1152921504606845789
def Dv (y:UInt64):Prop:= ∃s:Nat,s≤63∧B6 y=some (s:Int)∧9223372036854775808≤y.toNat*2^s∧y.toNat*2^s<18446744073709551616
theorem dvQ:Dv 2305843009213691579:=⟨3,by omega,by kernel_rfl,by decide,by decide⟩
theorem dvR:Dv 1152921504606845789:=⟨4,by omega,by kernel_rfl,by decide,by decide⟩
theorem Dv.pos {y:UInt64}(h:Dv y):0<y.toNat:=by
 obtain⟨s,_,_,h1,_⟩:=h;by_cases e:y.toNat=0
 ·rw[e]at h1; simp at h1
 ·omega
theorem rem_eq {y:UInt64}(h:Dv y)(hi lo:UInt64): ∃z,DW hi lo y=some z∧z.toNat=(hi.toNat*18446744073709551616+lo.toNat)%y.toNat:=by
 have hpos:=h.pos;obtain⟨s,h1,h2,h3,h4⟩:=h;have hyne:y≠0:=fun e=>by rw[e]at hpos; simp at hpos
 have hm:(hi%y).toNat=hi.toNat%y.toNat:=UInt64.toNat_mod _ _;obtain⟨q,r,e1,e2⟩:=Q2 (hi:=hi%y) (lo:=lo) h1 h2 h3 h4 (by rw[hm]; exact Nat.mod_lt _ hpos);refine⟨r,?_,?_⟩
 ·unfold DW;rw[if_pos hyne,e1,Ab]
 ·rw[e2,hm,Nat.add_mod,Nat.mod_mul_mod,←Nat.add_mod]
def ofN (n:Nat):UInt64:=UInt64.ofNat n
theorem Tu {n:Nat}(h:n<18446744073709551616):(ofN n).toNat=n:=by
 unfold ofN; rw[UInt64.toNat_ofNat']; exact Nat.mod_eq_of_lt h
theorem Tv (n:Nat){y:UInt64}(h:0<y.toNat):(ofN (n%y.toNat)).toNat=n%y.toNat:=Tu (Nat.lt_of_lt_of_le (Nat.mod_lt _ h) (Nat.le_of_lt y.toNat_lt))
theorem Tt {z:UInt64}{n:Nat}(h:z.toNat=n):z=ofN n:=by
 rw[←h]; exact u_ext (Tu z.toNat_lt).symm
def QM (y a b:UInt64):UInt64:=ofN ((a.toNat*b.toNat)%y.toNat)
theorem QL {y:UInt64}(h:Dv y)(a b:UInt64):(QM y a b).toNat=(a.toNat*b.toNat)%y.toNat:=Tv _ h.pos
theorem JE {y:UInt64}(h:Dv y)(a b:UInt64):Bb y a b=some (QM y a b):=by
 obtain⟨z,e1,e2⟩:=rem_eq h (phi a b) (a*b);unfold Bb;rw[Nu,Ab,e1,Ab];rw[Tk,UInt64.toNat_mul,Nat.div_add_mod']at e2;rw[Tt e2]; rfl
def addM (y a b:UInt64):UInt64:=ofN ((a.toNat+b.toNat)%y.toNat)
theorem UA (a b:UInt64):(GG a b).toNat*18446744073709551616+(a+b).toNat=a.toNat+b.toNat:=by
 have:=a.toNat_lt;have:=b.toNat_lt;unfold GG;rw[UInt64.toNat_ofNat',UInt64.toNat_add];omega
theorem Yc {P d r c sm t:Nat}(hP:d*18446744073709551616+r=P)(hr:r<18446744073709551616)(hd:d<2305843009213693952)(hc:c*18446744073709551616+sm=r+t)(ht:t<18446744073709551616):
  ((d+c)%18446744073709551616)*18446744073709551616+sm=P+t:=by
 have h1:c≤1:=by omega
 rw[Nat.mod_eq_of_lt (show d+c<18446744073709551616 by omega),Nat.add_mul,←hP,Nat.add_assoc,hc,Nat.add_assoc]
def numM (s:UInt64×UInt64)(y:UInt64):UInt64:=ofN ((s.1.toNat*2305843009213693952+s.2.toNat)%y.toNat)
theorem num_eq {y:UInt64}(h:Dv y)(s:UInt64×UInt64):Gj s y=some (numM s y):=by
 have hpos:=h.pos;have hyne:y≠0:=fun e=>by rw[e]at hpos; simp at hpos
 obtain⟨t,h1,h2,h3,h4⟩:=h;have hp:(phi s.1 2305843009213693952).toNat=s.1.toNat*2305843009213693952/18446744073709551616:=Tk _ _;have hl:(s.1*2305843009213693952).toNat=s.1.toNat*2305843009213693952%18446744073709551616:=UInt64.toNat_mul _ _;have hs1:=s.1.toNat_lt;have hs2:=s.2.toNat_lt;have hc:=UA (s.1*2305843009213693952) s.2;have hsum:(phi s.1 2305843009213693952+GG (s.1*2305843009213693952) s.2).toNat*18446744073709551616+(s.1*2305843009213693952+s.2).toNat=s.1.toNat*2305843009213693952+s.2.toNat:=by
  rw[UInt64.toNat_add,hp];rw[hl]at hc;have hdl:s.1.toNat*2305843009213693952/18446744073709551616<2305843009213693952:=by
   rw[Nat.div_lt_iff_lt_mul (by decide),Nat.mul_comm (2305843009213693952)];exact Nat.mul_lt_mul_of_pos_right hs1 (by decide)
  exact Yc (Nat.div_add_mod' _ _) (Nat.mod_lt _ (by decide)) hdl hc hs2
 have hm:((phi s.1 2305843009213693952+GG (s.1*2305843009213693952) s.2)%y).toNat=(phi s.1 2305843009213693952+GG (s.1*2305843009213693952) s.2).toNat%y.toNat:=UInt64.toNat_mod _ _;obtain⟨q,r,e1,e2⟩:=Q2 (hi:=(phi s.1 2305843009213693952+GG (s.1*2305843009213693952) s.2)%y) (lo:=s.1*2305843009213693952+s.2) h1 h2 h3 h4 (by rw[hm]; exact Nat.mod_lt _ hpos);unfold Gj;rw[if_neg (by rw[beq_iff_eq]; omega),Nu,Ab,if_pos hyne];dsimp only;rw[e1,Ab];rw[hm,Nat.add_mod,Nat.mod_mul_mod,←Nat.add_mod,hsum]at e2;rw[Tt e2]; rfl
theorem U7:((List.range 256).all fun n=>decide (n<2^ (str_0.data.toList.getD n 0).toNat)&&decide ((str_0.data.toList.getD n 0).toNat≤8))=true:=by kernel_rfl
theorem U6:str_0.data.toList.length=256:=by kernel_rfl
theorem tabL (x:UInt64)(hx:x.toNat<256): ∃b,idx str_0.data.toList ((toB (x.toNat:Int)).toNat:Int)=some b∧x.toNat<2^b.toNat∧b.toNat≤8:=by
 have hb:(toB (x.toNat:Int)).toNat=x.toNat:=by unfold toB; rw[UInt8.toNat_ofNat']; omega
 have h:=List.all_eq_true.1 U7 x.toNat (List.mem_range.2 hx);rw[Bool.and_eq_true,decide_eq_true_eq,decide_eq_true_eq]at h;have hlt:x.toNat<str_0.data.toList.length:=by rw[U6]; exact hx
 rw[List.getD_eq_getElem?_getD,List.getElem?_eq_getElem hlt,Option.getD_some]at h;rw[hb];exact⟨str_0.data.toList[x.toNat],NG (by simp),h.1,h.2⟩
theorem VD (a:UInt64): ∃L:Nat,DY a=some (L:Int)∧a.toNat<2^L∧L≤64:=by
 have ha:=a.toNat_lt;have h1: ∃(x:UInt64) (n:Nat),(if(decide ((a.toNat:Int)≥4294967296))=true then some ((Dt a 32),(32:Int))else some (a,0))=some (x,(n:Int))∧n≤32∧x.toNat<4294967296∧a.toNat<(x.toNat+1)*2^n:=by
  split
  ·refine⟨Dt a 32,32,rfl,by omega,?_,?_⟩<;>rw[D4 a 32 (by omega)]<;>omega
  ·rename_i h; rw[decide_eq_true_eq]at h; exact⟨a,0,rfl,by omega,by omega,by omega⟩
 obtain⟨x,n,e1,n1,hx,hn⟩:=h1;have h2: ∃(y:UInt64) (k:Nat),(if(decide ((x.toNat:Int)≥65536))=true then some ((Dt x 16),(w64 ((n:Int)+16)))else some (x,(n:Int)))=some (y,(k:Int))∧k≤48∧y.toNat<65536∧a.toNat<(y.toNat+1)*2^k:=by
  split
  ·refine⟨Dt x 16,n+16,by rw[Ez (by omega) (by omega)]; rfl,by omega,?_,?_⟩
   ·rw[D4 x 16 (by omega)]; omega
   ·rw[D4 x 16 (by omega),Nat.pow_add];refine Nat.lt_of_lt_of_le hn ?_;have:x.toNat+1≤(x.toNat/2^16+1)*2^16:=by omega
    calc (x.toNat+1)*2^n≤((x.toNat/2^16+1)*2^16)*2^n:=Nat.mul_le_mul_right _ this
     _=(x.toNat/2^16+1)*(2^n*2^16):=by rw[Nat.mul_assoc,Nat.mul_comm (2^16)]
  ·rename_i h; rw[decide_eq_true_eq]at h; exact⟨x,n,rfl,by omega,by omega,hn⟩
 obtain⟨y,k,e2,k1,hy,hk⟩:=h2;have h3: ∃(z:UInt64) (j:Nat),(if(decide ((y.toNat:Int)≥256))=true then some ((Dt y 8),(w64 ((k:Int)+8)))else some (y,(k:Int)))=some (z,(j:Int))∧j≤56∧z.toNat<256∧a.toNat<(z.toNat+1)*2^j:=by
  split
  ·refine⟨Dt y 8,k+8,by rw[Ez (by omega) (by omega)]; rfl,by omega,?_,?_⟩
   ·rw[D4 y 8 (by omega)]; omega
   ·rw[D4 y 8 (by omega),Nat.pow_add];refine Nat.lt_of_lt_of_le hk ?_;have:y.toNat+1≤(y.toNat/2^8+1)*2^8:=by omega
    calc (y.toNat+1)*2^k≤((y.toNat/2^8+1)*2^8)*2^k:=Nat.mul_le_mul_right _ this
     _=(y.toNat/2^8+1)*(2^k*2^8):=by rw[Nat.mul_assoc,Nat.mul_comm (2^8)]
  ·rename_i h; rw[decide_eq_true_eq]at h; exact⟨y,k,rfl,by omega,by omega,hk⟩
 obtain⟨z,j,e3,j1,hz,hj⟩:=h3;obtain⟨b,e4,b1,b2⟩:=tabL z hz;refine⟨j+b.toNat,?_,?_,by omega⟩
 ·unfold DY;rw[e1,Ab];dsimp only;rw[e2,Ab];dsimp only;rw[e3,Ab,e4,Ab,E5,Ez (n:=(b.toNat:Int)) (by omega) (by omega),Ez (by omega) (by omega)]; rfl
 ·refine Nat.lt_of_lt_of_le hj ?_;rw[Nat.add_comm j,Nat.pow_add];exact Nat.mul_le_mul_right _ b1
def Pe (y a n:UInt64):UInt64:=ofN (a.toNat^n.toNat%y.toNat)
theorem Vk {y:UInt64}(h:Dv y)(a n:UInt64):(Pe y a n).toNat=a.toNat^n.toNat%y.toNat:=Tv _ h.pos
theorem Ze (n j:Nat):n&&&2^j=(n.testBit j).toNat*2^j:=by
 apply Nat.eq_of_testBit_eq;intro i;rw[Nat.testBit_and,Nat.testBit_two_pow];by_cases h:j=i
 ·subst h;cases hb:n.testBit j<;>simp[hb,Nat.testBit_two_pow_self]
 ·cases hb:n.testBit j<;>simp[h,Nat.testBit_two_pow]
theorem bit_eq (n:UInt64){j:Nat}(hj:j≤63):(((n&&&(F5 1 j)).toNat:Int) !=0)=decide (n.toNat/2^j%2=1):=by
 have h1:(F5 1 j).toNat=2^j:=by
  rw[J9 hj,show(1:UInt64).toNat=1 from rfl,Nat.one_mul];exact Nat.mod_eq_of_lt (Nat.lt_of_le_of_lt (Nat.pow_le_pow_right (by omega) hj) (by decide))
 have h2:(n&&&(F5 1 j)).toNat=(n.toNat.testBit j).toNat*2^j:=by rw[UInt64.toNat_and,h1,Ze]
 rw[h2];have hp:=Nat.two_pow_pos j;rw[Nat.testBit_eq_decide_div_mod_eq];by_cases hb:n.toNat/2^j%2=1
 ·simp only[hb,decide_true,Bool.toNat_true,Nat.one_mul];rw[bne_iff_ne]; omega
 ·simp only[hb,decide_false,Bool.toNat_false,Nat.zero_mul]; rfl
def mulF (y:UInt64):Unit→UInt64→UInt64→Option (UInt64×Unit):=fun(s1:Unit) (b1:UInt64) (b2:UInt64)=>Ae (Bb y b1 b2) fun x1=>some (x1,())
theorem pow_it {y:UInt64}(h:Dv y)(a n:UInt64): ∀(j:Nat) (out:UInt64),j≤64→out.toNat=a.toNat^ (n.toNat/2^j)%y.toNat→
  ∃r,iter (BD (fun(s:UInt64×Unit) (b0:Bool)=>Ae (B0 (mulF y) a b0 s) fun z=>some (true,z)) n) (j+1) ((j:Int)-1,(out,()))=some (.inl (r,()))∧r.toNat=a.toNat^n.toNat%y.toNat:=by
 intro j;induction j with
 |zero=>
  intro out _ ho;refine⟨out,CA ?_,by rw[ho]; simp⟩;unfold BD;rw[if_neg (by simp)]
 |succ j ih=>
  intro out hj ho;have hw:w64 ((((j+1:Nat):Int)-1)-1)=(j:Int)-1:=by rw[Ez (by omega) (by omega)]; omega
  have hk:(((j+1:Nat):Int)-1).toNat=j:=by omega
  have hbit:=bit_eq n (j:=j) (by omega);have hdiv:n.toNat/2^ (j+1)=n.toNat/2^j/2:=by rw[Nat.pow_succ,Nat.div_div_eq_div_mul]
  have hsq:(QM y out out).toNat=a.toNat^ (2*(n.toNat/2^ (j+1)))%y.toNat:=by
   rw[QL h,ho,←Nat.mul_mod,←Nat.pow_add,←Nat.two_mul]
  by_cases hb:n.toNat/2^j%2=1
  ·have hn:(QM y (QM y out out) a).toNat=a.toNat^ (n.toNat/2^j)%y.toNat:=by
    rw[QL h,hsq,Nat.mod_mul_mod,←Nat.pow_succ];congr 2; omega
   obtain⟨r,r1,r2⟩:=ih (QM y (QM y out out) a) (by omega) hn;refine⟨r,?_,r2⟩;rw[Ci (s':=((j:Int)-1,(QM y (QM y out out) a,()))),r1];unfold BD;dsimp only;rw[if_pos (by rw[decide_eq_true_eq]; omega),if_pos (by omega),hk,hbit];simp only[B0,mulF,JE h,Ab,hb,decide_true,if_true,Bool.not_true,Bool.false_eq_true,if_false,hw]
  ·have hn:(QM y out out).toNat=a.toNat^ (n.toNat/2^j)%y.toNat:=by
    rw[hsq]; congr 2; omega
   obtain⟨r,r1,r2⟩:=ih (QM y out out) (by omega) hn;refine⟨r,?_,r2⟩;rw[Ci (s':=((j:Int)-1,(QM y out out,()))),r1];unfold BD;dsimp only;rw[if_pos (by rw[decide_eq_true_eq]; omega),if_pos (by omega),hk,hbit];simp only[B0,mulF,JE h,Ab,hb,decide_false,Bool.not_true,Bool.false_eq_true,if_false,hw]
theorem Vj {y:UInt64}(h:Dv y)(a n:UInt64)(h1:1<y.toNat):Em (mulF y) a n ()=some (Pe y a n,()):=by
 obtain⟨L,e1,e2,e3⟩:=VD n;have hw:w64 ((L:Int)-1)=(L:Int)-1:=Ez (by omega) (by omega);obtain⟨r,r1,r2⟩:=pow_it h a n L 1 e3 (by rw[Nat.div_eq_of_lt e2]; simp; exact(Nat.mod_eq_of_lt h1).symm);have r1':=HY _ r1 (by omega);unfold Em Ea;rw[show EY n=some n from rfl,Ab,e1,Ab,hw,r1',Ab];simp only[Ab];rw[Tt r2]; rfl
theorem Th (a n:UInt64):CN a n=some (Pe 2305843009213691579 a n):=by
 unfold CN;have:=Vj dvQ a n (by decide);unfold mulF at this;rw[this,Ab]
theorem Zb (n:UInt64):CO n=some (Pe 2305843009213691579 4 n):=by
 unfold CO;rw[Th,Ab]
end Go.Proofs.YtbajlmaijjcbmaaGreatDoor
end
section
namespace Go.Proofs.YtbajlmaijjcbmaaGreatDoor
open Go Go.Gw Go.Ax
theorem Yo {u v:Int}{q:Nat}(hs:0≤u∧v≤0∨u≤0∧0≤v):(u-(q:Int)*v).natAbs=u.natAbs+q*v.natAbs∧((q:Int)*v).natAbs=q*v.natAbs∧(0≤v∧u-(q:Int)*v≤0∨v≤0∧0≤u-(q:Int)*v):=by
 have hqv:((q:Int)*v).natAbs=q*v.natAbs:=by rw[Int.natAbs_mul,Int.natAbs_natCast]
 have h1:0≤v→0≤(q:Int)*v:=fun h=>Int.mul_nonneg (Int.natCast_nonneg q) h;have h2:v≤0→(q:Int)*v≤0:=fun h=>Int.mul_nonpos_of_nonneg_of_nonpos (Int.natCast_nonneg q) h;refine⟨?_,hqv,?_⟩
 ·rw[←hqv];generalize (q:Int)*v=z at*;omega
 ·generalize (q:Int)*v=z at*;omega
theorem inv_it (m:Nat)(a:Int)(hm2:m<2305843009213693952): ∀(n:Nat) (x y:UInt64) (u v:Int),y.toNat≤n→(∃k,u*a=x.toNat+k*m)→(∃k,v*a=y.toNat+k*m)→u.natAbs*y.toNat+v.natAbs*x.toNat=m→
  (0≤u∧v≤0∨u≤0∧0≤v)→x.toNat≤m→u.natAbs≤m→v.natAbs≤m→y.toNat≤m→
  ∃r:Int,iter Bc (n+1) (x,y,u,v)=some r∧(∃k,r*a=Nat.gcd x.toNat y.toNat+k*m)∧r.natAbs≤m:=by
 intro n;induction n with
 |zero=>
  intro x y u v hy hu hv hb hs hx hul hvl hyl;have hy0:y.toNat=0:=by omega
  refine⟨u,CA ?_,by rw[hy0,Nat.gcd_zero_right]; exact hu,hul⟩;unfold Bc;rw[if_neg (by simp[hy0])]
 |succ n ih=>
  intro x y u v hy hu hv hb hs hx hul hvl hyl;by_cases hy0:y.toNat=0
  ·refine⟨u,CA ?_,by rw[hy0,Nat.gcd_zero_right]; exact hu,hul⟩;unfold Bc;rw[if_neg (by simp[hy0])]
  ·have hyne:y≠0:=fun e=>hy0 (by rw[e]; rfl);have hdm:=Nat.div_add_mod' x.toNat y.toNat;have hmod:=Nat.mod_lt x.toNat (show 0<y.toNat by omega);have hql:x.toNat/y.toNat≤x.toNat:=Nat.div_le_self _ _;have hmul:x.toNat/y.toNat*y.toNat≤x.toNat:=Nat.div_mul_le_self _ _;have hxl:=x.toNat_lt;have hgcd:Nat.gcd x.toNat y.toNat=Nat.gcd y.toNat (x.toNat%y.toNat):=by rw[Nat.gcd_comm,Nat.gcd_rec,Nat.gcd_comm]
   have eq1:(x/y).toNat=x.toNat/y.toNat:=UInt64.toNat_div _ _;have eq2:((x/y)*y).toNat=x.toNat/y.toNat*y.toNat:=by rw[UInt64.toNat_mul,eq1]; exact Nat.mod_eq_of_lt (Nat.lt_of_le_of_lt hmul hxl)
   have eq3:(x-(x/y)*y).toNat=x.toNat%y.toNat:=by
    rw[UInt64.toNat_sub_of_le _ _ (by rw[UInt64.le_iff_toNat_le,eq2]; exact hmul),eq2];omega
   generalize hq:x.toNat/y.toNat=q at*;generalize hr:x.toNat%y.toNat=r at*;obtain⟨habs,hqv,hs'⟩:=Yo (q:=q) hs;have hbal:v.natAbs*r+(u-(q:Int)*v).natAbs*y.toNat=m:=by
    rw[habs,←hb,←hdm]; grind
   have hvm:(u-(q:Int)*v).natAbs≤m:=by
    have:(u-(q:Int)*v).natAbs*1≤(u-(q:Int)*v).natAbs*y.toNat:=Nat.mul_le_mul_left _ (by omega);omega
   have hqb:((q:Int)*v).natAbs≤m:=by omega
   have w1:w64 (q:Int)=(q:Int):=Ez (by omega) (by omega);have w2:w64 ((q:Int)*v)=(q:Int)*v:=by
    generalize (q:Int)*v=z at*;exact Ez (by omega) (by omega)
   have w3:w64 (u-(q:Int)*v)=u-(q:Int)*v:=by
    generalize u-(q:Int)*v=z at*;exact Ez (by omega) (by omega)
   have hdmI:(q:Int)*(y.toNat:Int)+(r:Int)=(x.toNat:Int):=by exact_mod_cast hdm
   obtain⟨t,t1,t2,t3⟩:=ih y (x-(x/y)*y) v (u-(q:Int)*v) (by rw[eq3]; omega) hv (by
    obtain⟨k,hk⟩:=hu;obtain⟨l,hl⟩:=hv;refine⟨k-q*l,?_⟩;rw[eq3];grind) (by rw[eq3]; exact hbal) (by omega) hyl hvl hvm (by rw[eq3]; omega)
   rw[eq3,←hgcd]at t2;refine⟨t,?_,t2,t3⟩;rw[Ci (s':=(y,x-(x/y)*y,v,u-(q:Int)*v)),t1];unfold Bc;dsimp only;rw[if_pos (by simp; omega),if_pos hyne,eq1,E5,w1,w2,w3,E5]
theorem inv_eq {a:UInt64}{b:Nat}(h:a.toNat*b%GQ=1): ∃z:UInt64,Db a=some (z,0)∧z.toNat*a.toNat%GQ=1:=by
 have hm:(a%2305843009213691579).toNat=a.toNat%GQ:=UInt64.toNat_mod _ _;have hml:=Nat.mod_lt a.toNat (show 0<GQ by decide);have hne:a.toNat%GQ≠0:=fun e=>by
  rw[Nat.mul_mod,e,Nat.zero_mul,Nat.zero_mod]at h; cases h
 have hg:Nat.gcd (a.toNat%GQ) GQ=1:=by
  have d1:=Nat.gcd_dvd_left (a.toNat%GQ) GQ;have d2:=Nat.gcd_dvd_right (a.toNat%GQ) GQ;have h':a.toNat%GQ*b%GQ=1:=by rw[Nat.mod_mul_mod]; exact h
  have h2:=Nat.div_add_mod (a.toNat%GQ*b) GQ;rw[h']at h2;have d3:Nat.gcd (a.toNat%GQ) GQ ∣ GQ*(a.toNat%GQ*b/GQ)+1:=by rw[h2]; exact Nat.dvd_trans d1 (Nat.dvd_mul_right _ _)
  have d4:=(Nat.dvd_add_right (Nat.dvd_trans d2 (Nat.dvd_mul_right GQ (a.toNat%GQ*b/GQ)))).1 d3;exact Nat.dvd_one.1 d4
 obtain⟨r,r1,⟨k,r2⟩,r3⟩:=inv_it GQ (a.toNat%GQ:Nat) (by decide) GQ (a%2305843009213691579) 2305843009213691579 1 0 (by decide) ⟨0,by rw[hm]; simp⟩ ⟨-1,by
  rw[show(2305843009213691579:UInt64).toNat=GQ from rfl]; simp⟩ (by rw[show(2305843009213691579:UInt64).toNat=GQ from rfl]; simp) (by omega) (by rw[hm]; omega) (by decide) (by decide) (by decide)
 rw[hm,show(2305843009213691579:UInt64).toNat=GQ from rfl,hg]at r2;have r1':=HY _ r1 (by decide);have hw:w64 (((2305843009213691579:UInt64).toNat:Int))=(GQ:Int):=Ez (by decide) (by decide);have hz: ∃z:Nat,(if(decide (r<0))=true then bnd ((w64 (r+(w64 (((2305843009213691579:UInt64).toNat:Int)))))) fun x7=>some x7 else some r)=some (z:Int)∧z≤GQ∧∃l:Int,(z:Int)*(a.toNat%GQ:Nat)=1+l*GQ:=by
  simp only[GQ]at*;by_cases hneg:r<0
  ·rw[if_pos (by simpa using hneg),hw,E5,Ez (by omega) (by omega)];obtain⟨z,hz⟩:=Int.eq_ofNat_of_zero_le (show 0≤r+2305843009213691579 by omega);refine⟨z,by rw[←hz]; rfl,by omega,k+(a.toNat%2305843009213691579:Nat),?_⟩;rw[←hz,Int.add_mul,r2];grind
  ·rw[if_neg (by simpa using hneg)];obtain⟨z,hz⟩:=Int.eq_ofNat_of_zero_le (show 0≤r by omega);exact⟨z,by rw[hz],by omega,k,by rw[←hz]; exact r2⟩
 obtain⟨z,z1,z2,l,z3⟩:=hz;have hzn:(toU (z:Int)).toNat=z:=Oo (by simp only[GQ]at z2; omega);refine⟨toU (z:Int),?_,?_⟩
 ·unfold Db CM;rw[if_pos (by decide),if_neg (by rw[beq_iff_eq,hm]; omega),r1',Ab,Ab,z1,Ab,Ab]
 ·rw[hzn,←Nat.mul_mod_mod];have:((z*(a.toNat%GQ):Nat):Int)=1+l*GQ:=by rw[Int.natCast_mul]; exact z3
  generalize z*(a.toNat%GQ)=w at*;simp only[GQ]at*;omega
end Go.Proofs.YtbajlmaijjcbmaaGreatDoor
end
section
namespace Go.Proofs.YtbajlmaijjcbmaaGreatDoor
open Go Go.Gw Go.Ax
theorem O7 (n:UInt64):C9 n=some (Pc 8 n):=by
 unfold C9;simp[Cx,ER,idx,w64,E5,Pc]
def pubK (k:UInt64):UInt64:=Pe 2305843009213691579 4 k
def chal (c p:UInt64)(msg:List UInt8):UInt64:=numM (ptag ⟨#[115,105,103,110]⟩ [Pc 8 c,Pc 8 p,msg]) 1152921504606845789
theorem Y3 (c p:UInt64){msg:List UInt8}(h:msg.length≤600000):Cd c p msg=some (chal c p msg):=by
 unfold Cd;rw[O7,Ab,O7,Ab,Sm _ _ (by simp[XY,I6]; omega),Ab,num_eq dvR,Ab]; rfl
def WJ (k:UInt64)(msg:List UInt8):UInt64:=numM (ptag ⟨#[110,111,110,99,101]⟩ [Pc 8 k,msg]) 1152921504606845788+1
def signE (k:UInt64)(msg:List UInt8):UInt64:=chal (pubK (WJ k msg)) (pubK k) msg
def signS (k:UInt64)(msg:List UInt8):g_api_Sig:=⟨signE k msg,addM 1152921504606845789 (QM 1152921504606845789 (signE k msg) k) (WJ k msg)⟩
def gr:Nat:=GR
theorem QF (a n:UInt64):(Pe 2305843009213691579 a n).toNat=a.toNat^n.toNat%GQ:=Vk dvQ a n
theorem Yn {p e k:Nat}(hp:p^gr%GQ=1)(he:e≤gr):p^e%GQ*p^ (gr-e)%GQ=1:=by
 rw[Nat.mod_mul_mod,←Nat.pow_add,Nat.add_sub_cancel' he]; exact hp
theorem T3 {α:Type} [Inhabited α](o:Option α):gu true o=o:=rfl
end Go.Proofs.YtbajlmaijjcbmaaGreatDoor
end
section
namespace Go.Proofs.YtbajlmaijjcbmaaGreatDoor
open Go Go.Gw Go.Ax
def radd (a b:UInt64):UInt64:=((a%2305843009213693951)+(b%2305843009213693951))%2305843009213693951
end Go.Proofs.YtbajlmaijjcbmaaGreatDoor
end
section
namespace Go.Gw
open Go
end Go.Gw
end
section
namespace Go.Proofs.YtbajlmaijjcbmaaGreatDoor
open Go Go.Gw Go.Ax
end Go.Proofs.YtbajlmaijjcbmaaGreatDoor
end
section
namespace Go.Proofs.YtbajlmaijjcbmaaGreatDoor
open Go Go.Gw Go.Ax
end Go.Proofs.YtbajlmaijjcbmaaGreatDoor
end
section
namespace Go.Proofs.YtbajlmaijjcbmaaGreatDoor
open Go Go.Gw Go.Ax
theorem Vh (p z:UInt64){msg:List UInt8}(s:g_api_Sig)(hm:msg.length≤600000)(hz:Db (Pe 2305843009213691579 p s.E)=some (z,0)):
  (Ae (CN p s.E) fun x2=>Ae (Db x2) fun x3=>Ae (gu (!(x3.2 !=0)) (CO s.S)) fun x4=>Ae (gu (!(x3.2 !=0)) (FK x4 x3.1)) fun x5=>Ae (gu (!(x3.2 !=0)) (Cd x5 p msg)) fun x6=>
   if((x3.2 !=0)||((x6.toNat:Int) !=(s.E.toNat:Int)))=true then some (40:Int)else some 0)
   =if(((chal (QM 2305843009213691579 (pubK s.S) z) p msg).toNat:Int) !=(s.E.toNat:Int))=true then some 40 else some 0:=by
 have e1:((z,(0:Int)).2 !=0)=false:=rfl;unfold FK;rw[Th,Ab,hz,Ab,e1,Bool.not_false,T3,Zb,Ab,T3,JE dvQ,Ab,Ab,T3];dsimp only;rw[show Pe 2305843009213691579 4 s.S=pubK s.S from rfl,Y3 _ _ hm,Ab,Bool.false_or]
theorem inv_of {p E:UInt64}(hpow:p.toNat^gr%GQ=1)(hE:E.toNat≤gr): ∃z:UInt64,Db (Pe 2305843009213691579 p E)=some (z,0)∧z.toNat*(Pe 2305843009213691579 p E).toNat%GQ=1:=by
 have hinv:(Pe 2305843009213691579 p E).toNat*p.toNat^ (gr-E.toNat)%GQ=1:=by
  rw[QF]; exact Yn (k:=0) hpow hE
 exact inv_eq hinv
theorem le_gr {E:UInt64}(hE:E.toNat<1152921504606845789):E.toNat≤gr:=Nat.le_of_lt hE
theorem max_ge {a b:UInt64}:decide (((Nx a b).toNat:Int)≥1152921504606845789)=(decide ((a.toNat:Int)≥1152921504606845789)||decide ((b.toNat:Int)≥1152921504606845789)):=by
 rw[Bool.eq_iff_iff,Bool.or_eq_true,decide_eq_true_eq,decide_eq_true_eq,decide_eq_true_eq];unfold Nx;split
 ·rename_i hlt;have:=UInt64.lt_iff_toNat_lt.1 hlt;omega
 ·rename_i hlt;have:=mt UInt64.lt_iff_toNat_lt.2 hlt;omega
theorem XW {p:UInt64}(h:((Pe 2305843009213691579 p 1152921504606845789).toNat:Int)=1):p.toNat^gr%GQ=1:=by
 have h1:=QF p 1152921504606845789;rw[show(1152921504606845789:UInt64).toNat=gr from rfl]at h1;rw[←h1];exact Int.ofNat.inj h
theorem Y7 {a b:UInt64}(h:(decide ((a.toNat:Int)≥1152921504606845789)||decide ((b.toNat:Int)≥1152921504606845789))=false):a.toNat<1152921504606845789:=by
 rw[Bool.or_eq_false_iff,decide_eq_false_iff_not]at h;have:=h.1;omega
theorem inP_eq (p:UInt64):GA p=some (((decide ((p.toNat:Int)>0))&&(decide ((p.toNat:Int)<2305843009213691579)))&&(((Pe 2305843009213691579 p 1152921504606845789).toNat:Int)==1)):=by
 unfold GA;cases (decide ((p.toNat:Int)>0))&&(decide ((p.toNat:Int)<2305843009213691579))
 ·simp only[gu,cond_false,Ab,E5,Bool.false_and]
 ·simp only[gu,cond_true,Th,Ab,E5,Bool.true_and]
theorem in_one {p:UInt64}(h:(((decide ((p.toNat:Int)>0))&&(decide ((p.toNat:Int)<2305843009213691579)))&&(((Pe 2305843009213691579 p 1152921504606845789).toNat:Int)==1))=true):((Pe 2305843009213691579 p 1152921504606845789).toNat:Int)=1:=by
 rw[Bool.and_eq_true]at h;exact beq_iff_eq.1 h.2
theorem Ux (p:UInt64){msg:List UInt8}(s:g_api_Sig)(hm:msg.length≤600000): ∃e,Da p msg s=some e:=by
 unfold Da;rw[inP_eq,Ab,max_ge];cases h1:((decide ((p.toNat:Int)>0))&&(decide ((p.toNat:Int)<2305843009213691579)))&&(((Pe 2305843009213691579 p 1152921504606845789).toNat:Int)==1)with
 |false=>rw[Bool.not_false,if_pos rfl]; exact⟨_,rfl⟩
 |true=>
  rw[Bool.not_true,if_neg Bool.false_ne_true];cases h2:(decide ((s.E.toNat:Int)≥1152921504606845789)||decide ((s.S.toNat:Int)≥1152921504606845789))with
  |true=>rw[if_pos rfl]; exact⟨_,rfl⟩
  |false=>
   rw[if_neg Bool.false_ne_true];obtain⟨z,z1,z2⟩:=inv_of (XW (in_one h1)) (le_gr (Y7 h2));rw[Vh p z s hm z1];split<;>exact⟨_,rfl⟩
end Go.Proofs.YtbajlmaijjcbmaaGreatDoor
end
section
namespace Go.Proofs.YtbajlmaijjcbmaaGreatDoor
open Go Go.Gw Go.Ax
theorem PU:GP=some true:=by kernel_rfl
end Go.Proofs.YtbajlmaijjcbmaaGreatDoor
end
section
namespace Go.Proofs.YtbajlmaijjcbmaaGreatDoor
open Go Go.Gw Go.Ax
theorem Q0 {l:List g_api_Cert}{k:Nat}(hk:k≤1000): ∀(r:List g_api_Cert) (i n:Nat),l.drop i=r→i≤k→k-i<n→
  ∃t,iter (BI l (k:Int)) n (i:Int)=some t∧((t= .inl ()∧∀c∈r.take (k-i),FewP c)∨t= .inr false)
 |r,i,0,_,_,h=>by omega
 | [],i,n+1,h,hi,hn=>by
  have hl:l.length≤i:=List.drop_eq_nil_iff.1 h;have e:BI l (k:Int) (i:Int)=some (.inr (.inl ())):=by
   unfold BI; rw[decide_eq_false (by omega)]; rfl
  exact⟨.inl (),CA e,.inl ⟨rfl,by simp⟩⟩
 |c::r,i,n+1,h,hi,hn=>by
  obtain⟨hc,hr,hlt⟩:=F4 h;by_cases hik:i=k
  ·have e:BI l (k:Int) (i:Int)=some (.inr (.inl ())):=by
    unfold BI; rw[decide_eq_true (by omega),decide_eq_false (by omega)]; rfl
   exact⟨.inl (),CA e,.inl ⟨rfl,by rw[hik]; simp⟩⟩
  obtain⟨f,hf⟩:=YT c;have e:BI l (k:Int) (i:Int)=some (if f=true then .inl ((i+1:Nat):Int)else .inr (.inr false)):=by
   unfold BI;rw[decide_eq_true (by omega),decide_eq_true (by omega),Bool.and_self,if_pos rfl,CB hc,Ab,hf,Ab,KJ (by omega)];cases f<;>rfl
  cases f with
  |false=>exact⟨.inr false,CA e,.inr rfl⟩
  |true=>
   obtain⟨t,ht,hq⟩:=Q0 hk r (i+1) n hr (by omega) (by omega);refine⟨t,(Ci e).trans ht,?_⟩;rcases hq with ⟨h1,h2⟩|h1
   ·refine .inl ⟨h1,?_⟩;have:k-i=(k-(i+1))+1:=by omega
    rw[this,List.take_succ_cons];intro x hx;rcases List.mem_cons.1 hx with rfl|hx
    ·exact few_ok hf
    ·exact h2 x hx
   ·exact .inr h1
theorem few19 (l:List g_api_Cert)(k:Nat)(hk:k≤1000): ∃b,DN l (k:Int)=some b∧(b=true→l.length≤k∧∀c∈l,FewP c):=by
 unfold DN;obtain⟨t,ht,hq⟩:=Q0 (l:=l) hk l 0 C7 rfl (Nat.zero_le _) (by unfold C7; omega);have ht:iter (BI l (k:Int)) C7 0=some t:=ht;rw[ht,Ab];rcases hq with ⟨rfl,h⟩|rfl
 ·refine⟨decide ((l.length:Int)≤(k:Int)),rfl,fun hb=> ?_⟩;have hb:=of_decide_eq_true hb;refine⟨by omega,fun c hc=>h c ?_⟩;rw[List.take_of_length_le (by omega)]; exact hc
 ·exact⟨false,rfl,fun h=>by cases h⟩
theorem Ud (l r:List g_api_Cert)(s:ByteArray): ∃b,Fq l r s=some b∧(b=true→l.length≤5∧(∀c∈l,FewP c)∧r.length≤6∧(∀c∈r,FewP c)∧s.size≤200):=by
 unfold Fq;obtain⟨a,ha,h1⟩:=few19 l 5 (by decide);obtain⟨b,hb,h2⟩:=few19 r 6 (by decide);have ha:DN l 5=some a:=ha;have hb:DN r 6=some b:=hb;rw[ha,Ab,hb,Ab];refine⟨(a&&b)&&decide ((s.size:Int)≤200),rfl,fun h=> ?_⟩;simp only[Bool.and_eq_true,decide_eq_true_eq]at h;obtain⟨⟨ha1,hb1⟩,hs⟩:=h;exact⟨(h1 ha1).1,(h1 ha1).2,(h2 hb1).1,(h2 hb1).2,by omega⟩
end Go.Proofs.YtbajlmaijjcbmaaGreatDoor
end
section
namespace Go.Proofs.YtbajlmaijjcbmaaGreatDoor
open Go Go.Gw Go.Ax
def fstE {α:Type}(f:Nat→α→Int):Nat→List α→Int
 |_,[]=>0
 |i,x::l=>if f i x=0 then fstE f (i+1) l else f i x
def fsO (e:Int):Unit⊕Int:=if e=0 then .inl ()else .inr e
theorem P3 {e:Int}:(match fsO e with| .inr r=>some r| .inl _=>some 0:Option Int)=some e:=by
 unfold fsO;by_cases h:e=0
 ·rw[if_pos h,h]
 ·rw[if_neg h]
theorem Li {α:Type}{body:Int→α→Unit→Option (Unit⊕Int)}(f:Nat→α→Int): ∀(l:List α) (i:Nat),(∀k x,l[k]? =some x→body ((i+k:Nat):Int) x ()=some (fsO (f (i+k) x)))→Ds body l (i:Int) ()=some (fsO (fstE f i l))
 | [],i,_=>rfl
 |x::l,i,h=>by
  have h0:=h 0 x rfl;show Ae (body (i:Int) x ()) _=_;rw[show body (i:Int) x ()=_ from h0];show _=some (fsO (if f i x=0 then _ else _));rw[Nat.add_zero,Ab];by_cases hz:f i x=0
  ·rw[if_pos hz,hz];refine Li f l (i+1) fun k y hy=> ?_;have:=h (k+1) y (by simpa using hy);rw[show i+1+k=i+(k+1)from by omega]; exact this
  ·rw[if_neg hz];unfold fsO;rw[if_neg hz]
theorem O0 {α:Type}{body:Int→Unit→Option (Unit⊕Int)}(f:Nat→α→Int)(l:List α)(h: ∀(k:Nat) (x:α),l[k]? =some x→body (k:Int) ()=some (fsO (f k x))): ∀(r:List α) (i:Nat),l.drop i=r→Cl body r.length (i:Int) ()=some (fsO (fstE f i r))
 | [],i,_=>rfl
 |x::r,i,hd=>by
  obtain⟨hc,hr,hlt⟩:=F4 hd;show Ae (body (i:Int) ()) _=_;rw[h i x hc];show _=some (fsO (if f i x=0 then _ else _));rw[Ab];by_cases hz:f i x=0
  ·rw[if_pos hz,hz];exact O0 f l h r (i+1) hr
  ·rw[if_neg hz];unfold fsO;rw[if_neg hz]
theorem Ji {α σ τ:Type}{body:Int→σ→Option (σ⊕τ)}(l:List α)(p:α→Bool)(s:σ)(g:Nat→τ)(h: ∀(k:Nat) (x:α),l[k]? =some x→body (k:Int) s=some (if p x=true then .inr (g k)else .inl s)):
  ∀(r:List α) (i:Nat),l.drop i=r→∃j,Cl body r.length (i:Int) s=some (if r.any p=true then .inr (g j)else .inl s)
 | [],i,_=>⟨0,rfl⟩
 |x::r,i,hd=>by
  obtain⟨hc,hr,hlt⟩:=F4 hd;show∃j,Ae (body (i:Int) s) _=_;rw[h i x hc,List.any_cons];cases hp:p x with
  |true=>exact⟨i,rfl⟩
  |false=>
   obtain⟨j,ih⟩:=Ji l p s g h r (i+1) hr;exact⟨j,ih⟩
theorem nn0 {e:Int}(h:e=0): ¬(e≠0):=fun k=>k h
theorem O6 (c:g_api_Cert):Dc c=some (checkV c):=O3 c
theorem b3_eq (i:Int)(c:g_api_Cert):Dx i c ()=some (fsO (checkV c)):=by
 unfold Dx fsO;rw[O6,Ab];by_cases h:checkV c=0
 ·rw[if_pos h,if_neg (by simpa using h)]
 ·rw[if_neg h,if_pos (by simpa using h)]
def Xw (p:UInt64)(m:List UInt8)(s:g_api_Sig):Int:=(Da p m s).getD 1
theorem sig_eq (p:UInt64){m:List UInt8}(s:g_api_Sig)(h:m.length≤600000):Da p m s=some (Xw p m s):=by
 obtain⟨e,he⟩:=Ux p s h;unfold Xw;rw[he]; rfl
def K7 (a b:g_api_Cert):Int:=if checkV a≠0 then checkV a else if checkV b≠0 then checkV b else if((!b.Ca)||(!eqS a.Issuer b.Subject))=true then 191 else if Xw b.Key (Jm a) a.Sig≠0 then 40 else 0
theorem TJ (a b:g_api_Cert):BY a b=some (K7 a b):=by
 have e1:Ds Dx ([a,b]:List g_api_Cert) 0 ()=some (fsO (fstE (fun _ c=>checkV c) 0 [a,b])):=Li (fun _ c=>checkV c) [a,b] 0 fun k x _=>b3_eq _ x;unfold BY K7;rw[e1,Ab];show(match fsO (if checkV a=0 then(if checkV b=0 then 0 else checkV b)else checkV a)with| .inr r=>some r| .inl _=>_)=_;by_cases ha:checkV a=0
 ·rw[if_pos ha,if_neg (nn0 ha)];by_cases hb:checkV b=0
  ·rw[if_pos hb,if_neg (nn0 hb)];show(if((!b.Ca)||(!eqS a.Issuer b.Subject))=true then some 191 else _)=_;by_cases hc:((!b.Ca)||(!eqS a.Issuer b.Subject))=true
   ·rw[if_pos hc,if_pos hc]
   ·rw[if_neg hc,if_neg hc,Wa (okc ha),Ab];show Ae (Da b.Key (Jm a) a.Sig) _=_;rw[sig_eq _ _ (by have:=UE (okc ha); omega),Ab];by_cases hs:Xw b.Key (Jm a) a.Sig=0
    ·rw[if_neg (show¬((Xw b.Key (Jm a) a.Sig !=0)=true)from by simpa using hs),if_neg (nn0 hs)]
    ·rw[if_pos (show(Xw b.Key (Jm a) a.Sig !=0)=true from by simpa using hs),if_pos hs]
  ·rw[if_neg hb,if_pos hb];unfold fsO; rw[if_neg hb]
 ·rw[if_neg ha,if_pos ha];unfold fsO; rw[if_neg ha]
theorem VC (a b:g_api_Cert): ∃k,BY a b=some k:=⟨_,TJ a b⟩
theorem TU (s:ByteArray):Dy s=some (isB (toL s) 8 64):=by
 unfold Dy;rw[show BF s 8 64=some (isB (toL s) 8 64)from Tz s 8 64 (by decide)];rfl
theorem RI (s:ByteArray): ∃o st,B3 s=some (o,st,isB (toL s) 8 64||U9 (toL s))∧(isB (toL s) 8 64=true→o=s∧st=false)∧(isB (toL s) 8 64=false→U9 (toL s)=true→o=s.extract 2 s.size∧st=true):=by
 have hz:(toL s).length=s.size:=BH s;unfold B3;rw[TU,Ab];cases h1:isB (toL s) 8 64 with
 |true=>exact⟨s,false,rfl,fun _=>⟨rfl,rfl⟩,fun h=>(by cases h)⟩
 |false=>
  rw[if_neg (by decide),Bool.false_or];unfold Bv AP AO;have e2:(((⟨#[42,46]⟩:ByteArray).size:Nat):Int)=2:=rfl;rw[e2];match hl:toL s with
  | []=>
   rw[hl,List.length_nil]at hz;rw[decide_eq_false (show¬(s.size:Int)≥2 from by omega)];exact⟨_,_,rfl,fun h=>(by cases h),fun _ h=>(by cases h)⟩
  | [a]=>
   rw[hl,List.length_cons,List.length_nil]at hz;rw[decide_eq_false (show¬(s.size:Int)≥2 from by omega)];exact⟨_,_,rfl,fun h=>(by cases h),fun _ h=>(by cases h)⟩
  |a::b::r=>
   rw[hl,List.length_cons,List.length_cons]at hz;have ec:LI s 0 2=some (s.extract 0 2):=FF (by omega) (by omega) (by omega);have el:(s.extract 0 2).data.toList=[a,b]:=by
    rw[Jh];show((toL s).take 2).drop 0=_;rw[hl]; rfl
   have ee:eqS (s.extract 0 2) (⟨#[42,46]⟩:ByteArray)=(a==42&&b==46):=by
    unfold eqS;rw[el,Bool.eq_iff_iff];simp
   rw[decide_eq_true (show(s.size:Int)≥2 from by omega),T3,ec,Ab,Cz,ee,Ab];show∃o st,_=some (o,st,(a==42&&b==46&&isB r 7 62))∧_∧(_→(a==42&&b==46&&isB r 7 62)=true→_);cases a==42&&b==46 with
   |false=>exact⟨_,_,rfl,fun h=>(by cases h),fun _ h=>(by cases h)⟩
   |true=>
    have ec2:LI s 2 (s.size:Int)=some (s.extract 2 s.size):=by
     rw[FF (by omega) (by omega) (by omega)]; rfl
    have el2:(s.extract 2 s.size).data.toList=r:=by
     rw[Jh];show((toL s).take s.size).drop 2=_;rw[List.take_of_length_le (by rw[hl,List.length_cons,List.length_cons]; omega),hl]; rfl
    rw[show(true&&true)=true from rfl,if_neg (by decide),ec2,Ab,Ab,Ab];have en:=Tz (s.extract 2 s.size) 7 62 (by decide);rw[el2]at en;have en:BF (s.extract 2 s.size) 7 62=some (isB r 7 62):=en;show∃o st,Ae (gu true (BF (s.extract 2 s.size) 7 62)) _=_∧_;rw[T3,en,Ab];exact⟨_,_,rfl,fun h=>(by cases h),fun _ _=>⟨rfl,rfl⟩⟩
def upV (s:ByteArray):ByteArray:=(D6 s).getD ⟨#[]⟩
theorem U2 (s:ByteArray):D6 s=some (upV s)∧(upV s=⟨#[]⟩∨(isB (toL s) 8 64=true∧∃p,toL s=p++46::toL (upV s)∧(46:UInt8)∉p)):=by
 have key: ∃u,D6 s=some u∧(u=⟨#[]⟩∨(isB (toL s) 8 64=true∧∃p,toL s=p++46::toL u∧(46:UInt8)∉p)):=by
  unfold D6;rw[TU,Ab];cases h1:isB (toL s) 8 64 with
  |false=>exact⟨_,rfl,.inl rfl⟩
  |true=>
   have hz:(toL s).length=s.size:=BH s;have hs:s.size≤64:=by
    unfold isB at h1;simp only[Bool.and_eq_true,decide_eq_true_eq]at h1;have:=h1.1.1; omega
   have hx:AF s (⟨#[46]⟩:ByteArray)=some (TR s 46):=by
    have h:=OR s (by omega);unfold Bi at h;cases q:AF s (⟨#[46]⟩:ByteArray)with
    |none=>rw[q]at h; cases h
    |some v=>rw[q]at h; exact h
   rw[if_neg (by decide)];unfold Ga BU;rw[hx,Ab];rcases Lb s.data.toList 46 with ⟨h2,h3⟩|⟨p,r,h2,h3,h4⟩
   ·rw[show TR s 46= -1 from h2,if_neg (by decide)];exact⟨_,rfl,.inl rfl⟩
   ·have hl:s.size=p.length+1+r.length:=by rw[←BH,h2,List.length_append,List.length_cons]; omega
    have e1:LI s 0 (p.length:Int)=some (s.extract 0 p.length):=by
     rw[FF (by omega) (by omega) (by omega)]; rfl
    have e2:LI s (w64 ((p.length:Int)+((⟨#[46]⟩:ByteArray).size:Int))) (s.size:Int)=some (s.extract (p.length+1) s.size):=by
     have:((⟨#[46]⟩:ByteArray).size:Int)=1:=rfl;rw[this,Eh (by omega) (by omega),FF (by omega) (by omega) (by omega)];rfl
    rw[show TR s 46=(p.length:Int)from h4,if_pos (by rw[decide_eq_true_eq]; omega),e1,Ab,e2,Ab,Ab,Ab];refine⟨_,rfl,.inr ⟨rfl,p,?_,h3⟩⟩;have l2:(s.extract (p.length+1) s.size).data.toList=r:=by
     rw[Jh,←BH,List.take_length,h2];rw[←List.drop_drop,List.drop_left]; rfl
    show s.data.toList=_;rw[show toL (s.extract (p.length+1) s.size)=r from l2]; exact h2
 obtain⟨u,h,h'⟩:=key;have e:upV s=u:=by unfold upV; rw[h]; rfl
 rw[e]; exact⟨h,h'⟩
theorem up_lt (s:ByteArray):upV s=⟨#[]⟩∨(upV s).size<s.size:=by
 rcases(U2 s).2 with h|⟨_,p,h,_⟩
 ·exact .inl h
 ·refine .inr ?_;rw[←BH,←BH s];show(toL (upV s)).length<(toL s).length;rw[h,List.length_append,List.length_cons]; omega
theorem up_64 (s:ByteArray):(upV s).size≤64:=by
 rcases(U2 s).2 with h|⟨h1,p,h,_⟩
 ·rw[h]; exact Nat.zero_le _
 ·unfold isB at h1;simp only[Bool.and_eq_true,decide_eq_true_eq]at h1;have:=h1.1.1;rw[h,List.length_append,List.length_cons]at this;rw[←BH];show(toL (upV s)).length≤64;omega
def belF:Nat→ByteArray→ByteArray→Bool
 |0,_,_=>false
 |n+1,s,o=>if eqS s ⟨#[]⟩=true then false else if eqS s o=true then true else belF n (upV s) o
def belV (s o:ByteArray):Bool:=belF 100 (upV s) o
theorem Uh (s:ByteArray)(h: ¬eqS s ⟨#[]⟩=true):1≤s.size:=by
 rcases Nat.eq_zero_or_pos s.size with q|q
 ·refine absurd (IG.2 ?_) h;exact ByteArray.ext (Array.eq_empty_of_size_eq_zero q)
 ·exact q
theorem Mw (o:ByteArray): ∀(n:Nat) (s:ByteArray),s.size<n→
  ∃z,iter (Cb (fun(s:(Bool)×Nat) (b0:ByteArray)=>if s.2=0 then Ae (CF o b0 s) fun y=>some (y.2==0,y)else none)) n (s,(false,0))=some (z,if belF n s o=true then(true,1)else(false,0))
 |0,s,h=>by omega
 |n+1,s,h=>by
  show∃z,Ae (Cb _ (s,(false,0))) _=_;unfold Cb belF;by_cases h1:eqS s ⟨#[]⟩=true
  ·rw[h1];exact⟨s,rfl⟩
  ·have h1':eqS s ⟨#[]⟩=false:=by simpa using h1
   rw[h1'];unfold CF;by_cases h2:eqS s o=true
   ·refine⟨s,?_⟩;simp only[h2];rfl
   ·have h2':eqS s o=false:=by simpa using h2
    have hlt:(upV s).size<n:=by
     have:=Uh s h1;rcases up_lt s with q|q
     ·rw[q]; show 0<n; omega
     ·omega
    obtain⟨z,ih⟩:=Mw o n (upV s) hlt;refine⟨z,?_⟩;simp only[h2',if_true,if_false,Bool.false_eq_true,Ab,(U2 s).1];exact ih
theorem Wd (s o:ByteArray):Dg s o=some (belV s o):=by
 obtain⟨z,h⟩:=Mw o 100 (upV s) (by have:=up_64 s; omega);unfold Dg Gd ES;rw[Ab,(U2 s).1,Ab,HY 100 h (by decide),Ab,Ab];unfold belV;cases belF 100 (upV s) o<;>rfl
def matV (p s:ByteArray):Bool:=isB (toL s) 8 64&&(if isB (toL p) 8 64=true then eqS p s else U9 (toL p)&&belV s (p.extract 2 p.size))
theorem Vw (p s:ByteArray):ET p s=some (matV p s):=by
 obtain⟨o,st,h,h1,h2⟩:=RI p;unfold ET matV;rw[h,Ab,TU];cases q1:isB (toL p) 8 64 with
 |true=>
  obtain⟨rfl,rfl⟩:=h1 q1;rw[Bool.true_or];cases isB (toL s) 8 64<;>rfl
 |false=>
  rw[Bool.false_or];cases q2:U9 (toL p)with
  |false=>cases isB (toL s) 8 64<;>rfl
  |true=>
   obtain⟨rfl,rfl⟩:=h2 q1 q2;cases isB (toL s) 8 64 with
   |false=>rfl
   |true=>
    show Ae (Dg s _) _=_;rw[Wd]; rfl
theorem QR {α:Type}{l:List α}(h:l≠[])(hs:l.length≤1000): ∃x,l.getLast? =some x∧idx l (w64 ((l.length:Int)-1))=some x:=by
 have h1:1≤l.length:=List.length_pos_iff.2 h;refine⟨l.getLast h,List.getLast?_eq_some_getLast h,?_⟩;rw[Eh (by omega) (by omega)];have e:(l.length:Int)-1=((l.length-1:Nat):Int):=by omega
 rw[e];refine CB ?_;rw[←List.getLast?_eq_getElem?,List.getLast?_eq_some_getLast h]
theorem V3 {α:Type}(a:α)(l:List α):cut (a::l) 1 ((a::l).length:Int)=some l:=by
 have h:=YY [a] l;simpa using h
def timeB (c:g_api_Cert)(now:Int):Bool:=decide (c.From≤now)&&decide (c.Until>now)
theorem Ot (t:g_path_trip)(c:g_api_Cert):CI t c=some (timeB c t.now_):=rfl
def Vv (c:g_api_Cert)(n:ByteArray):Bool:=c.Permit.any fun p=>matV p n
theorem RH (n:ByteArray)(c:g_api_Cert):CE n c=some (!Vv c n,c):=by
 obtain⟨j,h⟩:=Ji (body:=Ay c.Permit) c.Permit (fun p=>matV p n) n (fun k=>((k:Int),n)) (fun k x hx=>by
  unfold Ay DE;rw[CB hx,Ab,Vw,Ab,Ab];cases matV x n<;>rfl) c.Permit 0 rfl
 have h:Cl (Ay c.Permit) c.Permit.length 0 n=_:=h;unfold CE AX A7 Vv;rw[h,Ab];cases c.Permit.any fun p=>matV p n with
 |true=>
  show some (!decide ((j:Int)≥0),c)=_;rw[decide_eq_true (by omega)]
 |false=>rfl
theorem LK (l:List ByteArray)(c:g_api_Cert):AG l c=some (l.any fun n=> !Vv c n,c):=by
 obtain⟨j,h⟩:=Ji (body:=Az l) l (fun n=> !Vv c n) (c.Serial,c.Issuer,c.Subject,c.Key,c.Names,c.From,c.Until,c.Ca,c.Depth,c.Permit,c.Proms,c.Sig.E,c.Sig.S) (fun k=>((k:Int),c)) (fun k x hx=>by
  unfold Az;rw[CB hx,Ab];show Ae (CE x c) _=_;rw[RH,Ab];cases Vv c x<;>rfl) l 0 rfl
 have h:Cl (Az l) l.length 0 (c.Serial,c.Issuer,c.Subject,c.Key,c.Names,c.From,c.Until,c.Ca,c.Depth,c.Permit,c.Proms,c.Sig.E,c.Sig.S)=_:=h;unfold AG A8;rw[h,Ab];cases l.any fun n=> !Vv c n with
 |true=>
  show some (decide ((j:Int)≥0),c)=_;rw[decide_eq_true (by omega)]
 |false=>rfl
def Yb (names:List ByteArray)(i:Nat)(c:g_api_Cert):Int:=if c.Depth<(i:Int)then 191 else if 0<c.Permit.length∧(names.any fun n=> !Vv c n)=true then 110 else 0
def byV (chain:List g_api_Cert)(now:Int)(root:g_api_Cert):Int:=
 match chain with
 | []=>1
 |leaf::more=>
  let e:=K7 ((leaf::more).getLast (by simp)) root
  if e≠0 then e else if timeB root now=false then 190 else fstE (Yb leaf.Names) 0 (more++[root])
theorem by_eq (roots:List g_api_Cert)(leaf:g_api_Cert)(more:List g_api_Cert)(name:ByteArray)(now:Int)(root:g_api_Cert)(hn:more.length≤100):
  Du ⟨roots,leaf::more,name,now⟩ root=some (byV (leaf::more) now root):=by
 obtain⟨x,hx,hi⟩:=QR (l:=leaf::more) (by simp) (by simp; omega);have hx:(leaf::more).getLast (by simp)=x:=by rw[List.getLast?_eq_some_getLast (by simp)]at hx; exact Option.some.inj hx
 unfold Du byV;simp only[hx];show Ae (idx (leaf::more) (w64 (((leaf::more).length:Int)-1))) _=_;rw[hi,Ab,TJ,Ab];by_cases h1:K7 x root=0
 ·rw[if_neg (show¬((K7 x root !=0)=true)from by simpa using h1),if_neg (nn0 h1),Ot,Ab];show(if(!timeB root now)=true then some 190 else _)=_;cases timeB root now with
  |false=>rfl
  |true=>
   rw[if_neg (by decide),if_neg (by decide)];have ec:cut (leaf::more) 1 ((leaf::more).length:Int)=some more:=V3 leaf more;show Ae (cut (leaf::more) 1 ((leaf::more).length:Int)) _=_;rw[ec,Ab];unfold AE;rw[Hw 168 (by simp; omega) (by simp; omega),Ab,Ab,List.nil_append,Hw 168 (by simp; omega) (by simp; omega),Ab];have e:=O0 (body:=Cs ⟨roots,leaf::more,name,now⟩ (more++[root])) (Yb leaf.Names) (more++[root]) (fun k c hc=>by
    unfold Cs;rw[CB hc,Ab,Cz];unfold Yb;by_cases h2:c.Depth<(k:Int)
    ·rw[if_pos h2,if_pos (by simpa using h2)]; rfl
    ·rw[if_neg h2,if_neg (by simpa using h2)];by_cases h3:0<c.Permit.length
     ·rw[if_pos (by rw[decide_eq_true_eq]; omega)];show Ae (some leaf) _=_;rw[Ab,LK,Ab];cases leaf.Names.any fun n=> !Vv c n with
      |true=>rw[if_pos rfl,if_pos ⟨h3,rfl⟩]; rfl
      |false=>rw[if_neg (by simp),if_neg (by simp)]; rfl
     ·rw[if_neg (by rw[decide_eq_true_eq]; omega),if_neg (by simp[h3])]; rfl) (more++[root]) 0 rfl
   have e:Cl (Cs ⟨roots,leaf::more,name,now⟩ (more++[root])) (more++[root]).length 0 ()=_:=e;rw[e,Ab];exact P3
 ·rw[if_pos (show(K7 x root !=0)=true from by simpa using h1),if_pos h1]
def Ls (roots chain:List g_api_Cert)(name:ByteArray)(now:Int):Int:=if chain.length=0∨4<chain.length∨16<roots.length∨now<0∨now>1099511627776 then 1 else nameV name
def caB:Nat→List g_api_Cert→Bool
 |_,[]=>true
 |i,c::r=>(c.Ca==decide (0<i))&&caB (i+1) r
def Mj (chain:List g_api_Cert)(name:ByteArray)(now:Int):Int:=if caB 0 chain=false then 191 else match chain with| []=>1|leaf::_=>if(leaf.Names.any fun s=>eqS name s)=false then 110 else if(chain.any fun c=> !timeB c now)=true then 190 else 0
def linksV:List g_api_Cert→Int
 |a::b::r=>if K7 a b≠0 then K7 a b else linksV (b::r)
 |_=>0
def Ol (chain:List g_api_Cert)(now:Int)(roots:List g_api_Cert):Int:=if(roots.any fun r=>byV chain now r==0)=true then 0 else match roots with| []=>191|r::_=>byV chain now r
def Um (l:List g_api_Cert):Int:=fstE (fun _ c=>checkV c) 0 l
def JG (roots chain:List g_api_Cert)(name:ByteArray)(now:Int):Int:=if Ls roots chain name now≠0 then Ls roots chain name now else if Um (chain++roots)≠0 then Um (chain++roots)else if Mj chain name now≠0 then Mj chain name now else if linksV chain≠0 then linksV chain else Ol chain now roots
theorem RR (n r:Nat)(now:Int):((((((n:Int)==0)||(decide ((n:Int)>4)))||(decide ((r:Int)>16)))||(decide (now<0)))||(decide (now>1099511627776)))=decide (n=0∨4<n∨16<r∨now<0∨now>1099511627776):=by
 rw[Bool.eq_iff_iff];simp only[Bool.or_eq_true,decide_eq_true_eq,beq_iff_eq];have e1:(n:Int)=0↔n=0:=by omega
 have e2:(n:Int)>4↔4<n:=by omega
 have e3:(r:Int)>16↔16<r:=by omega
 rw[e1,e2,e3,or_assoc,or_assoc,or_assoc]
theorem UC (t:g_path_trip):CJ t=some (Ls t.roots_ t.chain_ t.name_ t.now_):=by
 obtain⟨ro,ch,nm,nw⟩:=t;unfold CJ Ls;dsimp only;rw[Nt,Ab,RR];by_cases h:ch.length=0∨4<ch.length∨16<ro.length∨nw<0∨nw>1099511627776
 ·rw[if_pos h,if_pos (decide_eq_true h)]
 ·rw[if_neg h,if_neg (fun q=>h (of_decide_eq_true q))]
theorem VL (n:Nat)(h:n≤10000):AT (n:Int)=some []:=by
 unfold AT;rw[decide_eq_false (show¬((n:Int)<0)from by omega),if_neg (by decide),Ab,Cz];have e0:w64 (0-((0:Nat):Int))=0:=Eh (by decide) (by decide);have e1:w64 ((n:Int)-w64 (0-((0:Nat):Int)))=(n:Int):=by
  rw[e0,Int.sub_zero];exact Eh (by omega) (by omega)
 rw[e1];by_cases h0:n=0
 ·rw[decide_eq_false (show¬((n:Int)>0)from by omega),if_neg (by decide),Ab]
 ·rw[decide_eq_true (show(n:Int)>0 from by omega),if_pos rfl,if_pos ⟨by omega,by omega,by omega⟩,Ab]
theorem Xu (a b:List g_api_Cert)(ha:a.length≤1000)(hb:b.length≤1000):E4 Ap ([a,b]:List (List g_api_Cert)) 0 0=some ((a.length+b.length:Nat):Int):=by
 have e: ∀(n:Nat) (i:Int) (x:List g_api_Cert),n+x.length≤10000→Ap i x (n:Int)=some ((n+x.length:Nat):Int):=by
  intro n i x h;have e1:w64 ((n:Int)+(x.length:Int))=((n+x.length:Nat):Int):=by
   rw[Eh (by omega) (by omega)]; exact(Int.natCast_add _ _).symm
  unfold Ap;rw[Cz,e1,decide_eq_false (show¬(((n+x.length:Nat):Int)<0)from by omega),if_neg (by decide),Ab]
 have e0:=e 0 0 a (by omega);have e1:=e a.length (0+1) b (by omega);rw[Nat.zero_add]at e0;show Ae (Ap 0 a ((0:Nat):Int)) (fun s=>Ae (Ap (0+1) b s) fun s=>some s)=_;rw[e0,Ab,e1,Ab]
theorem Ut (a b:List g_api_Cert)(ha:a.length≤1000)(hb:b.length≤1000):AJ ([a,b]:List (List g_api_Cert))=some (a++b):=by
 unfold AJ;rw[Xu a b ha hb,Ab,Ab,VL _ (by omega),Ab];have e:E4 Au ([a,b]:List (List g_api_Cert)) 0 []=some (a++b):=by
  show Ae (Au 0 a []) (fun s=>Ae (Au (0+1) b s) fun s=>some s)=_;unfold Au;rw[Hw 168 (by simp; omega) (by simp; omega),Ab,Ab,List.nil_append,Hw 168 (by omega) (by omega),Ab,Ab]
 rw[e,Ab,Ab]
theorem OF (t:g_path_trip)(ha:t.chain_.length≤1000)(hb:t.roots_.length≤1000):Dp t=some (Um (t.chain_++t.roots_)):=by
 unfold Dp;rw[Ut _ _ ha hb,Ab];have e:=Li (body:=BX) (fun _ c=>checkV c) (t.chain_++t.roots_) 0 (fun k x _=>by
  unfold BX;rw[O6,Ab];unfold fsO;by_cases h:checkV x=0
  ·rw[if_pos h,if_neg (by simpa using h)]
  ·rw[if_neg h,if_pos (by simpa using h)])
 have e:Ds BX (t.chain_++t.roots_) 0 ()=_:=e;rw[e,Ab];exact P3
theorem Mi (t:g_path_trip): ∀(r:List g_api_Cert) (i:Nat) (s:Bool),t.chain_.drop i=r→Cl (Bn t) r.length (i:Int) s=some (if caB i r=true then .inl (s||r.any fun c=> !timeB c t.now_)else .inr 191)
 | [],i,s,_=>by show some (Sum.inl s)=_; simp[caB]
 |c::r,i,s,hd=>by
  obtain⟨hc,hr,hlt⟩:=F4 hd;have ih:=Mi t r (i+1) (s|| !timeB c t.now_) hr;show Ae (Bn t (i:Int) s) _=_;have e:Bn t (i:Int) s=some (if(c.Ca==decide (0<i))=true then .inl (s|| !timeB c t.now_)else .inr 191):=by
   unfold Bn;rw[CB hc,Ab,Ot];have ed:decide ((i:Int)>0)=decide (0<i):=by rw[decide_eq_decide]; omega
   rw[ed];cases s with
   |true=>
    show Ae (some default) _=_;rw[Ab];cases c.Ca==decide (0<i)<;>rfl
   |false=>
    show Ae (some (timeB c t.now_)) _=_;rw[Ab];cases c.Ca==decide (0<i)<;>rfl
  rw[e];unfold caB;cases c.Ca==decide (0<i)with
  |false=>rfl
  |true=>
   rw[if_pos rfl,Ab,Bool.true_and,List.any_cons,←Bool.or_assoc];exact ih
theorem has_eq (l:List ByteArray)(n:ByteArray):Ba l n=some (l.any fun s=>eqS n s):=by
 obtain⟨j,h⟩:=Ji (body:=AR l n) l (fun s=>eqS n s) () (fun k=>(k:Int)) (fun k x hx=>by
  unfold AR;rw[CB hx,Ab];cases eqS n x<;>rfl) l 0 rfl
 have h:Cl (AR l n) l.length 0 ()=_:=h;unfold Ba BL;rw[h,Ab];cases l.any fun s=>eqS n s with
 |true=>
  show some (decide ((j:Int)≥0))=_;rw[decide_eq_true (by omega)]
 |false=>rfl
theorem VF (t:g_path_trip)(h:t.chain_≠[]):C1 t=some (Mj t.chain_ t.name_ t.now_):=by
 unfold C1 Mj;rw[show Cl (Bn t) t.chain_.length 0 false=_ from Mi t t.chain_ 0 false rfl,Ab];cases caB 0 t.chain_ with
 |false=>rfl
 |true=>
  rw[if_pos rfl,if_neg (by decide)];cases hl:t.chain_ with
  |nil=>exact absurd hl h
  |cons leaf more=>
   show Ae (some leaf) _=_;rw[Ab,has_eq,Ab,Bool.false_or];show _=some (if(leaf.Names.any fun s=>eqS t.name_ s)=false then 110 else _);cases leaf.Names.any fun s=>eqS t.name_ s with
   |false=>rfl
   |true=>
    cases (leaf::more).any fun c=> !timeB c t.now_<;>rfl
theorem Mc (t:g_path_trip)(hn:t.chain_.length≤1000): ∀(r:List g_api_Cert) (a:g_api_Cert) (i:Nat),t.chain_.drop i=a::r→Cl (Bm t) r.length (i:Int) ()=some (fsO (linksV (a::r)))
 | [],a,i,_=>rfl
 |b::r,a,i,hd=>by
  obtain⟨ha,hr,hlt⟩:=F4 hd;obtain⟨hb,hr2,hlt2⟩:=F4 hr;have ih:=Mc t hn r b (i+1) hr;show Ae (Bm t (i:Int) ()) _=_;have e:Bm t (i:Int) ()=some (fsO (K7 a b)):=by
   unfold Bm fsO;rw[CB ha,Ab,KJ (by omega),CB hb,Ab,TJ,Ab];by_cases h:K7 a b=0
   ·rw[if_pos h,if_neg (by simpa using h)]
   ·rw[if_neg h,if_pos (by simpa using h)]
  rw[e,Ab];unfold linksV;by_cases h:K7 a b=0
  ·rw[if_neg (nn0 h),h];exact ih
  ·rw[if_pos h];unfold fsO;rw[if_neg h]
theorem VB (t:g_path_trip)(h:t.chain_≠[])(hn:t.chain_.length≤1000):C0 t=some (linksV t.chain_):=by
 unfold C0;cases hl:t.chain_ with
 |nil=>exact absurd hl h
 |cons a r=>
  have e1:Int.toNat (w64 (((a::r).length:Int)-1))=r.length:=by
   rw[hl,List.length_cons]at hn;have e0:((a::r).length:Int)-1=(r.length:Int):=by simp
   rw[e0,Eh (by omega) (by omega),Int.toNat_natCast]
  rw[e1,show Cl (Bm t) r.length 0 ()=_ from Mc t hn r a 0 hl,Ab];exact P3
theorem JT (t:g_path_trip)(hc:t.chain_≠[])(hn:t.chain_.length≤100)(hr:t.roots_.length≤1000): ∀(i n:Nat) (e:Int),i≤t.roots_.length→i<n→
  iter (A4 t) n (e,(i:Int)-1)=some (if((t.roots_.take i).any fun r=>byV t.chain_ t.now_ r==0)=true then .inr 0 else .inl (match t.roots_.take i with| []=>e|r::_=>byV t.chain_ t.now_ r))
 |0,n,e,_,hn0=>by
  obtain⟨n,rfl⟩: ∃q,n=q+1:=⟨n-1,by omega⟩;rfl
 |i+1,n,e,hi,hn0=>by
  obtain⟨n,rfl⟩: ∃q,n=q+1:=⟨n-1,by omega⟩;have hlt:i<t.roots_.length:=by omega
  have hx:t.roots_[i]? =some t.roots_[i]:=List.getElem?_eq_getElem hlt;have eb:Du t t.roots_[i]=some (byV t.chain_ t.now_ t.roots_[i]):=by
   obtain⟨ro,ch,nm,nw⟩:=t;cases ch with
   |nil=>exact absurd rfl hc
   |cons a r=>exact by_eq _ a r _ _ _ (by simp only[List.length_cons]at hn; omega)
  have e1:((i+1:Nat):Int)-1=(i:Int):=by omega
  rw[e1];show Ae (A4 t (e,(i:Int))) _=_;have es:A4 t (e,(i:Int))=some (if(byV t.chain_ t.now_ t.roots_[i]==0)=true then .inr (.inr 0)else .inl (byV t.chain_ t.now_ t.roots_[i],(i:Int)-1)):=by
   unfold A4;rw[if_pos (by rw[decide_eq_true_eq]; show(i:Int)≥0; omega)];show Ae (idx t.roots_ (i:Int)) _=_;rw[CB hx,Ab,eb,Ab];cases byV t.chain_ t.now_ t.roots_[i]==0 with
   |true=>rfl
   |false=>
    rw[if_neg (by decide),if_neg (by decide)];show some (Sum.inl (_,w64 ((i:Int)-1)))=_;rw[Eh (by omega) (by omega)]
  rw[es,Ab];have et:t.roots_.take (i+1)=t.roots_.take i++[t.roots_[i]]:=by rw[List.take_add_one,hx]; rfl
  rw[et,List.any_append];have ih:=JT t hc hn hr i n (byV t.chain_ t.now_ t.roots_[i]) (by omega) (by omega);cases hb:byV t.chain_ t.now_ t.roots_[i]==0 with
  |true=>
   rw[if_pos rfl];have:(([t.roots_[i]]:List g_api_Cert).any fun r=>byV t.chain_ t.now_ r==0)=true:=by simp[hb]
   rw[this,Bool.or_true,if_pos rfl]
  |false=>
   rw[if_neg (by decide)];show iter (A4 t) n (_,(i:Int)-1)=_;rw[ih];have:(([t.roots_[i]]:List g_api_Cert).any fun r=>byV t.chain_ t.now_ r==0)=false:=by simp[hb]
   rw[this,Bool.or_false];cases (t.roots_.take i).any fun r=>byV t.chain_ t.now_ r==0 with
   |true=>rfl
   |false=>cases t.roots_.take i<;>rfl
theorem Ry (t:g_path_trip)(hc:t.chain_≠[])(hn:t.chain_.length≤100)(hr:t.roots_.length≤1000):Cu t=some (Ol t.chain_ t.now_ t.roots_):=by
 unfold Cu Ol;rw[Cz,Eh (by omega) (by omega),JT t hc hn hr t.roots_.length C7 191 (Nat.le_refl _) (by have:=FG; omega),Ab,List.take_length];cases t.roots_.any fun r=>byV t.chain_ t.now_ r==0 with
 |true=>rfl
 |false=>cases t.roots_<;>rfl
theorem row_b1 (x:En)(i e:Int)(h:FE x=some e):CK i x ()=some (fsO e):=by
 unfold CK fsO;rw[h,Ab];by_cases h:e=0
 ·rw[if_pos h,if_neg (by simpa using h)]
 ·rw[if_neg h,if_pos (by simpa using h)]
theorem I4 (x:En)(l:List En)(i e:Int)(h:FE x=some e):Ds CK (x::l) i ()=if e≠0 then some (.inr e)else Ds CK l (i+1) ():=by
 show Ae (CK i x ()) _=_;rw[row_b1 x i e h,Ab];unfold fsO;by_cases h:e=0
 ·rw[if_pos h,if_neg (by simpa using h)]
 ·rw[if_neg h,if_pos h]
theorem PG (roots chain:List g_api_Cert)(name:ByteArray)(now:Int):BE roots chain name now=some (JG roots chain name now):=by
 unfold BE Ie JG;generalize ht:(⟨roots,chain,name,now⟩:g_path_trip)=t;have h1:t.roots_=roots:=by rw[←ht]
 have h2:t.chain_=chain:=by rw[←ht]
 have h3:t.name_=name:=by rw[←ht]
 have h4:t.now_=now:=by rw[←ht]
 have d1:FE ⟨34,t⟩=some (Ls roots chain name now):=by rw[←h1,←h2,←h3,←h4]; exact UC t
 rw[I4 _ _ _ _ d1];by_cases z1:Ls roots chain name now=0
 ·have hb: ¬(chain.length=0∨4<chain.length∨16<roots.length∨now<0∨now>1099511627776):=by
   intro h;unfold Ls at z1;rw[if_pos h]at z1;cases z1
  have hne:chain≠[]:=fun h=>hb (.inl (by rw[h]; rfl));have d2:FE ⟨35,t⟩=some (Um (chain++roots)):=by rw[←h1,←h2]; exact OF t (by rw[h2]; omega) (by rw[h1]; omega)
  have d3:FE ⟨36,t⟩=some (Mj chain name now):=by rw[←h2,←h3,←h4]; exact VF t (by rw[h2]; exact hne)
  have d4:FE ⟨37,t⟩=some (linksV chain):=by rw[←h2]; exact VB t (by rw[h2]; exact hne) (by rw[h2]; omega)
  have d5:FE ⟨38,t⟩=some (Ol chain now roots):=by rw[←h1,←h2,←h4]; exact Ry t (by rw[h2]; exact hne) (by rw[h2]; omega) (by rw[h1]; omega)
  rw[if_neg (nn0 z1),if_neg (nn0 z1),I4 _ _ _ _ d2];by_cases z2:Um (chain++roots)=0
  ·rw[if_neg (nn0 z2),if_neg (nn0 z2),I4 _ _ _ _ d3];by_cases z3:Mj chain name now=0
   ·rw[if_neg (nn0 z3),if_neg (nn0 z3),I4 _ _ _ _ d4];by_cases z4:linksV chain=0
    ·rw[if_neg (nn0 z4),if_neg (nn0 z4),I4 _ _ _ _ d5];by_cases z5:Ol chain now roots=0
     ·rw[if_neg (nn0 z5),z5]; rfl
     ·rw[if_pos z5]; rfl
    ·rw[if_pos z4,if_pos z4]; rfl
   ·rw[if_pos z3,if_pos z3]; rfl
  ·rw[if_pos z2,if_pos z2]; rfl
 ·rw[if_pos z1,if_pos z1]; rfl
structure PathOk (roots:List g_api_Cert)(leaf:g_api_Cert)(more:List g_api_Cert)(name:ByteArray)(now:Int):Prop where
 len:more.length≤3
 rts:roots.length≤16
 now0:0≤now
 nowM:now≤1099511627776
 nam:nameV name=0
 all: ∀c∈leaf::more++roots,checkV c=0
 kin:caB 0 (leaf::more)=true
 has:(leaf.Names.any fun s=>eqS name s)=true
 tim: ∀c∈leaf::more,timeB c now=true
 lnk:linksV (leaf::more)=0
end Go.Proofs.YtbajlmaijjcbmaaGreatDoor
end
