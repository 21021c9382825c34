/- Several texts, one behind the other. Conditions: none. -/
import Derived.Test.YtbajlmaijjcbmaaGreatDoorZg
import Derived.Test.YtbajlmaijjcbmaaGreatDoorZh
import Derived.KernelRfl
import Derived.Test.YtbajlmaijjcbmaaGreatDoorZb
set_option linter.unusedSimpArgs false
set_option linter.unusedVariables false
set_option maxHeartbeats 20000000
set_option maxRecDepth 100000
section
namespace Go.Proofs.YtbajlmaijjcbmaaGreatDoor
open Go Go.Gw Go.Ax
def Tot {α:Type}(x:Option α):Prop:= ∃r,x=some r
theorem tot {α:Type}(r:α):Tot (some r):=⟨r,rfl⟩
theorem BK {α β:Type}{x:Option α}{k:α→Option β}(h:Tot x)(hk: ∀a,x=some a→Tot (k a)):Tot (Ae x k):=by
 obtain⟨a,h⟩:=h;rw[h]; exact hk a h
theorem IK {α:Type} [Inhabited α]{b:Bool}{x:Option α}(h:b=true→Tot x):Tot (gu b x):=by
 cases b with
 |true=>exact h rfl
 |false=>exact tot default
theorem KC {α:Type}{b:Bool}{x y:Option α}(h1:b=true→Tot x)(h0:b=false→Tot y):Tot (if b=true then x else y):=by
 cases b with
 |true=>exact h1 rfl
 |false=>exact h0 rfl
theorem Wt {α:Type}{c:Prop} [Decidable c]{x y:Option α}(h1:c→Tot x)(h0: ¬c→Tot y):Tot (if c then x else y):=by
 split
 ·exact h1 ‹_›
 ·exact h0 ‹_›
theorem I0 {σ τ:Type}{step:σ→Option (σ⊕τ)}(μ:σ→Nat)(I:σ→Prop)(Q:τ→Prop)
  (h: ∀s,I s→∃r,step s=some r∧(∀s',r= .inl s'→I s'∧μ s'<μ s)∧∀t,r= .inr t→Q t): ∀n s,I s→μ s<n→∃t,iter step n s=some t∧Q t
 |0,s,_,hn=>by omega
 |n+1,s,hI,hn=>by
  obtain⟨r,h1,h2,h3⟩:=h s hI;cases r with
  |inr t=>exact⟨t,by show Ae (step s) _=_; rw[h1]; rfl,h3 t rfl⟩
  |inl s'=>
   obtain⟨i',lt⟩:=h2 s' rfl;obtain⟨t,e,q⟩:=I0 μ I Q h n s' i' (by omega);exact⟨t,by show Ae (step s) _=_; rw[h1]; exact e,q⟩
theorem LZ (s:ByteArray)(i:Nat):1≤(Utf8.decode s i).2:=by
 unfold Utf8.decode;simp only;repeat' split
 all_goals simp
theorem Ek:9223372036854775808≤Dh:=Nat.le_of_ble_eq_true rfl
theorem RL (c:Int):F5 c=some (decide (c≤32)||decide (c>126)):=rfl
theorem No (s:ByteArray)(b:Bool)(hs:s.size<9223372036854775808):Tot (BE s b):=by
 unfold BE;refine BK ?_ fun a _=> ?_
 ·obtain⟨t,e,_⟩:=I0 (step:=Bp s b) (fun i=>s.size-i) (fun _=>True) (fun _=>True) (fun i _=>by
   unfold Bp;by_cases hi:i<s.size
   ·rw[if_pos hi];simp only[bnd,RL,Ab];split
    ·exact⟨_,rfl,fun s' h=>(by cases h),fun _ _=>trivial⟩
    ·refine⟨_,rfl,fun s' h=> ?_,fun _ _=>trivial⟩;cases h;have:=LZ s i;exact⟨trivial,by omega⟩
   ·rw[if_neg hi];exact⟨_,rfl,fun s' h=>(by cases h),fun _ _=>trivial⟩) Dh 0 trivial (by have:=Ek; omega)
  exact⟨t,e⟩
 ·cases a with
  |inl _=>exact tot _
  |inr _=>exact tot _
theorem Un (s:ByteArray):Tot (CL s):=by
 unfold CL;refine BK (IK fun h=> ?_) fun a _=>tot _;simp only[Bool.and_eq_true,decide_eq_true_eq]at h;unfold BG B3;refine BK (BK (No s true (by omega)) fun a _=>tot _) fun a _=>tot _
theorem RJ {s:ByteArray}{b:Bool}(h:CL s=some b):b=true→eqS s (⟨#[]⟩:ByteArray)=false∧s.size≤64:=by
 unfold CL at h;obtain⟨x,_,h⟩:=Aa h;have h:=Option.some.inj (AU h);intro hb;rw[hb]at h;simp only[Bool.and_eq_true,Bool.not_eq_true',decide_eq_true_eq]at h;exact⟨h.1.1,by omega⟩
theorem Ns (c:Int):Tot (BZ c):=tot _
theorem To (c:Int):Tot (BW c):=by
 unfold BW;exact BK (IK fun _=>Ns c) fun a _=>tot _
theorem Tc (s:ByteArray):Tot (CF s):=by
 unfold CF;refine KC (fun _=>tot _) fun h=> ?_;simp only[Bool.or_eq_false_iff,decide_eq_false_iff_not]at h;refine BK ?_ fun a _=> ?_
 ·obtain⟨t,e,_⟩:=I0 (step:=AJ s) (fun i=>s.size-i) (fun _=>True) (fun _=>True) (fun i _=>by
   unfold AJ;by_cases hi:i<s.size
   ·rw[if_pos hi];have hd:=LZ s i;obtain⟨x4,h4⟩:=IK (b:=((i:Int)==(w64 ((s.size:Int)-1)))) fun _=>Ns ((Utf8.decode s i).1:Int);obtain⟨x7,h7⟩:=IK (b:=((i:Int)==0)) fun _=>Ns ((Utf8.decode s i).1:Int);obtain⟨x9,h9⟩:=IK (b:=(!((i:Int)==0))) fun _=>To ((Utf8.decode s i).1:Int);simp only[bnd,h4,h7,h9,Ab];split
    ·exact⟨_,rfl,fun s' h=>(by cases h; exact⟨trivial,by omega⟩),fun _ _=>trivial⟩
    ·split
     ·exact⟨_,rfl,fun s' h=>(by cases h),fun _ _=>trivial⟩
     ·split
      ·exact⟨_,rfl,fun s' h=>(by cases h; exact⟨trivial,by omega⟩),fun _ _=>trivial⟩
      ·split
       ·exact⟨_,rfl,fun s' h=>(by cases h),fun _ _=>trivial⟩
       ·exact⟨_,rfl,fun s' h=>(by cases h; exact⟨trivial,by omega⟩),fun _ _=>trivial⟩
   ·rw[if_neg hi];exact⟨_,rfl,fun s' h=>(by cases h),fun _ _=>trivial⟩) Dh 0 trivial (by have:=Ek; omega)
  exact⟨t,e⟩
 ·cases a with
  |inl _=>exact tot _
  |inr _=>exact tot _
theorem VT: ∀(l:List UInt8) (c:UInt8),Lib.indexByte l c<l.length
 | [],c=>by simp[Lib.indexByte]
 |b::l,c=>by
  have:=VT l c;unfold Lib.indexByte;split
  ·rw[List.length_cons]; omega
  ·split
   ·rw[List.length_cons]; omega
   ·rw[List.length_cons]; omega
theorem BA (s:ByteArray):s.data.toList.length=s.size:=by rw[Array.length_toList]; rfl
theorem Oz (s:ByteArray): ∃x:Int,Bb s (⟨#[46]⟩:ByteArray)=some x∧ -1≤x∧x<s.size:=by
 unfold Bb AD AY;simp only[bnd];by_cases h:((((⟨#[46]⟩:ByteArray).size:Int)==0)||eqS (⟨#[46]⟩:ByteArray) s)=true
 ·rw[if_pos h];refine⟨0,rfl,by omega,?_⟩;have h1:eqS (⟨#[46]⟩:ByteArray) s=true:=by
   cases he:eqS (⟨#[46]⟩:ByteArray) s with
   |true=>rfl
   |false=>rw[he]at h; cases h
  have h2: [(46:UInt8)]=s.data.toList:=by simpa[eqS]using h1
  have h3:=BA s;rw[←h2]at h3;simp only[List.length_cons,List.length_nil]at h3;omega
 ·rw[if_neg h];refine⟨Tj s 46,rfl,Lib.indexByte_ge _ _,?_⟩;have:=VT s.data.toList 46;rw[BA]at this;exact this
theorem Ec {x:Int}(h0: -9223372036854775808≤x)(h1:x≤9223372036854775807):w64 x=x:=by
 unfold w64; omega
theorem Fx {s:ByteArray}{lo hi:Int}(h0:0≤lo)(h1:lo≤hi)(h2:hi≤s.size):Ma s lo hi=some (s.extract lo.toNat hi.toNat):=by
 unfold Ma; rw[if_pos ⟨h0,h1,h2⟩]
theorem Qj (s:ByteArray)(n k:Int)(hk:k≤64):Tot (By s n k):=by
 unfold By;refine BK ?_ fun x2 hx2=> ?_
 ·refine KC (fun _=>tot _) fun _=> ?_;exact⟨_,rfl⟩
 ·refine KC (fun _=>tot _) fun h=> ?_;have hsz:s.size≤64:=by
   cases hd:decide ((s.size:Int)>k)with
   |true=>rw[if_pos hd]at hx2; cases hx2; cases h
   |false=>simp only[decide_eq_false_iff_not]at hd; omega
  have key: ∃r,A0 (fun(s:(Unit)×Nat) (b0:ByteArray)=>if s.2=0 then Ae (Be b0 s) fun y=>some (y.2==0,y)else none) (⟨#[46]⟩:ByteArray) s 0 ((),0)=some r:=by
   have hb5: ∀(b0:ByteArray) (s:Unit×Nat),∃z:Nat,Be b0 s=some ((),z):=fun b0 s=>by
    unfold Be;obtain⟨y,hy⟩:=Tc b0;rw[hy];simp only[Ab];split
    ·exact⟨1,rfl⟩
    ·exact⟨0,rfl⟩
   unfold A0;rw[if_neg (by decide)];obtain⟨tt,hit,hq⟩: ∃t,iter (Au (fun(s:(Unit)×Nat) (b0:ByteArray)=>if s.2=0 then Ae (Be b0 s) fun y=>some (y.2==0,y)else none) (⟨#[46]⟩:ByteArray) 0) Dh (s,((),0))=some t∧∀y,t= .inl y→y.2.2=0:=by
    exact I0 (step:=Au (fun(s:(Unit)×Nat) (b0:ByteArray)=>if s.2=0 then Ae (Be b0 s) fun y=>some (y.2==0,y)else none) (⟨#[46]⟩:ByteArray) 0) (fun z=>z.1.size) (fun z=>z.1.size≤64∧z.2.2=0) (fun t=> ∀y,t= .inl y→y.2.2=0) (fun z hz=>by
     obtain⟨x,h1,h2,h3⟩:=Oz z.1;unfold Au;rw[h1];simp only[Ab];by_cases hx:x<0
     ·rw[if_pos (by simpa using hx)];exact⟨_,rfl,fun s' h=>(by cases h),fun t ht y hy=>by subst hy; cases ht; exact hz.2⟩
     ·rw[if_neg (by simpa using hx)];have hw:w64 (x+0)=x:=by rw[Int.add_zero]; exact Ec (by omega) (by omega)
      have hw1:w64 (x+((⟨#[46]⟩:ByteArray).size:Int))=x+1:=Ec (x:=x+1) (by omega) (by omega);rw[hw,hw1,Fx (by omega) (by omega) (by omega),Fx (lo:=x+1) (by omega) (by omega) (by omega)];simp only[Ab,if_pos hz.2];obtain⟨zz,hzz⟩:=hb5 (z.1.extract (0:Int).toNat x.toNat) z.2;rw[hzz];simp only[Ab];split
      ·exact⟨_,rfl,fun s' h=>(by cases h),fun t ht y hy=>by subst hy; cases ht⟩
      ·rename_i hne;refine⟨_,rfl,fun s' h=> ?_,fun t ht=>by cases ht⟩;cases h;have e0:zz=0:=by simpa using hne
       refine⟨⟨?_,e0⟩,?_⟩
       ·simp only[ByteArray.size_extract]; omega
       ·simp only[ByteArray.size_extract]; omega) Dh (s,((),0)) ⟨hsz,rfl⟩ (by have:=Ek; show s.size<Dh; omega)
   show Tot (Ae (iter _ Dh (s,((),0))) _);rw[hit];cases tt with
   |inr _=>exact tot _
   |inl y3=>
    have h0:=hq y3 rfl;obtain⟨zz,hzz⟩:=hb5 y3.1 y3.2;simp only[Ab,if_pos h0,hzz];exact tot _
  obtain⟨r,hr⟩:=key;show Tot (Ae (A0 _ (⟨#[46]⟩:ByteArray) s 0 ((),0)) _);rw[hr];simp only[Ab];exact Wt (fun _=>tot _) fun _=>tot _
theorem VU (s:ByteArray):Tot (Dq s):=BK (Qj s 8 64 (by decide)) fun a _=>tot _
theorem T9 (s:ByteArray):Tot (Ce s):=by
 unfold Ce;refine BK (VU s) fun a _=>BK ?_ fun a _=>tot _;unfold DK;exact KC (fun _=>tot _) fun _=>tot _
theorem Nv (s:ByteArray):Tot (Bq s (⟨#[42,46]⟩:ByteArray)):=by
 unfold Bq AL AK;refine BK (BK (BK (IK fun h=> ?_) fun a _=>tot _) fun b hb=> ?_) fun a _=>tot _
 ·simp only[decide_eq_true_eq]at h;exact⟨_,Fx (by omega) (by omega) h⟩
 ·refine KC (fun _=>tot _) fun h=> ?_;obtain⟨x,_,hx⟩:=Aa hb;have hx:=Option.some.inj (AU hx);have hb:b=true:=by simpa using h
  rw[hb]at hx;simp only[Bool.and_eq_true,decide_eq_true_eq]at hx;exact BK ⟨_,Fx (by omega) hx.1 (by omega)⟩ fun a _=>tot _
theorem PO (s:ByteArray):Tot (B0 s):=by
 unfold B0 BY;refine BK (BK (VU s) fun a _=>KC (fun _=>tot _) fun _=>BK (Nv s) fun b _=>BK (IK fun _=>Qj _ 7 62 (by decide)) fun c _=>tot _) fun a _=>BK ?_ fun a _=>tot _;unfold DK;exact KC (fun _=>tot _) fun _=>tot _
end Go.Proofs.YtbajlmaijjcbmaaGreatDoor
end
section
namespace Go.Proofs.YtbajlmaijjcbmaaGreatDoor
open Go Go.Gw Go.Ax
theorem RH {α:Type}{x:Option α}{d:α}(h:Tot x):x=some (x.getD d):=by
 obtain⟨r,h⟩:=h;rw[h]; rfl
def textV (s:ByteArray):Bool:=(CL s).getD false
def nameV (s:ByteArray):Int:=(Ce s).getD 0
def patV (s:ByteArray):Int:=(B0 s).getD 0
theorem RK (s:ByteArray):CL s=some (textV s):=RH (Un s)
theorem Nb (s:ByteArray):Ce s=some (nameV s):=RH (T9 s)
theorem SH (s:ByteArray):B0 s=some (patV s):=RH (PO s)
theorem PY {s:ByteArray}(h:textV s=true):eqS s (⟨#[]⟩:ByteArray)=false∧s.size≤64:=RJ (RK s) h
theorem Om {s:ByteArray}{n k:Int}(h:By s n k=some true):(s.size:Int)≤k:=by
 unfold By at h;obtain⟨x,hx,h⟩:=Aa h;cases hd:decide ((s.size:Int)>k)with
 |true=>
  rw[if_pos hd]at hx;cases hx;cases h
 |false=>simp only[decide_eq_false_iff_not]at hd; omega
theorem Tl {s:ByteArray}(h:Dq s=some true):s.size≤64:=by
 obtain⟨x,hx,h⟩:=Aa h;cases h;have:=Om hx;omega
theorem N5 {b:Bool}{r:Int}(h:DK b=some r)(h0:r=0):b=true:=by
 cases b with
 |true=>rfl
 |false=>
  have h2:(110:Int)=r:=Option.some.inj h;omega
theorem Re {s:ByteArray}(h:nameV s=0):s.size≤64:=by
 have e:=Nb s;rw[h]at e;obtain⟨x,hx,e⟩:=Aa e;obtain⟨y,hy,e⟩:=Aa e;cases e;have:=N5 hy rfl;rw[this]at hx;exact Tl hx
theorem Lw {s:ByteArray}{c:ByteArray×Bool}(h:Bq s (⟨#[42,46]⟩:ByteArray)=some c)(h1:c.2=true):c.1.size+2=s.size:=by
 unfold Bq AL AK at h;obtain⟨d,hd,h⟩:=Aa h;have h:=Option.some.inj h;subst h;obtain⟨p,hp,hd⟩:=Aa hd;cases p with
 |false=>
  have hd:=Option.some.inj hd;subst hd;cases h1
 |true=>
  obtain⟨q,hq,hd⟩:=Aa hd;have hd:=Option.some.inj hd;subst hd;unfold Ma at hq;split at hq
  ·rename_i hc;have hq:=Option.some.inj hq;have e2:(⟨#[42,46]⟩:ByteArray).size=2:=rfl;rw[e2]at hq hc;show q.size+2=s.size;rw[←hq,ByteArray.size_extract];omega
  ·cases hq
theorem SG {s:ByteArray}(h:patV s=0):s.size≤64:=by
 have e:=SH s;rw[h]at e;obtain⟨x,hx,e⟩:=Aa e;obtain⟨y,hy,e⟩:=Aa e;cases e;have h1:=N5 hy rfl;unfold BY at hx;obtain⟨b,hb,hx⟩:=Aa hx;cases b with
 |true=>exact Tl hb
 |false=>
  rw[if_neg (by decide)]at hx;obtain⟨c,hc,hx⟩:=Aa hx;obtain⟨d,hd,hx⟩:=Aa hx;have hx:=Option.some.inj hx;subst hx;have h2:(c.2&&d)=true:=h1;simp only[Bool.and_eq_true]at h2;rw[h2.1,h2.2]at hd;have h3:=Om hd;have h4:=Lw hc h2.1;omega
def KW (right:ByteArray→Int):List ByteArray→List ByteArray→Bool
 |_,[]=>true
 |met,s::l=> !(met.any (eqS s))&&right s==0&&KW right (met++[s]) l
def HD (met:List ByteArray):List (ByteArray×Bool):=met.map fun s=>(s,true)
theorem KU: ∀(met:List ByteArray) (s:ByteArray) (i:Nat),(lkI (HD met) s i).isSome=met.any (eqS s)∧∀p,lkI (HD met) s i=some p→p.2=true
 | [],s,i=>⟨rfl,fun p h=>by cases h⟩
 |a::met,s,i=>by
  have ih:=KU met s (i+1);rw[List.any_cons];cases h:eqS s a with
  |true=>
   refine⟨?_,fun p hp=> ?_⟩
   ·show(if eqS s a=true then some (i,true)else lkI (HD met) s (i+1)).isSome=_;rw[if_pos h]; rfl
   ·have hp:(if eqS s a=true then some (i,true)else lkI (HD met) s (i+1))=some p:=hp;rw[if_pos h]at hp;cases hp; rfl
  |false=>
   refine⟨?_,fun p hp=> ?_⟩
   ·show(if eqS s a=true then some (i,true)else lkI (HD met) s (i+1)).isSome=_;rw[if_neg (by rw[h]; decide)]; exact ih.1
   ·have hp:(if eqS s a=true then some (i,true)else lkI (HD met) s (i+1))=some p:=hp;rw[if_neg (by rw[h]; decide)]at hp;exact ih.2 p hp
theorem SY (met:List ByteArray)(s:ByteArray):lkB (HD met) s=met.any (eqS s):=by
 have h:=KU met s 0;unfold lkB;rw[←h.1];cases e:lkI (HD met) s 0 with
 |none=>rfl
 |some p=>rw[Option.map_some,Option.getD_some,h.2 p e]; rfl
theorem UQ (met:List ByteArray)(s:ByteArray)(h:met.any (eqS s)=false):(lkI (HD met) s 0).isNone=true:=by
 have h1:=(KU met s 0).1;rw[h]at h1;cases e:lkI (HD met) s 0 with
 |none=>rfl
 |some p=>rw[e]at h1; cases h1
theorem Xg (right:ByteArray→Int)(mr:ByteArray→Option Int)(hr: ∀s,mr s=some (right s)): ∀(l met:List ByteArray) (i:Int),
  Dl (fun(i1:Int) (x2:ByteArray) (s1:List (ByteArray×Bool))=>Ae (gu (!(lkB s1 x2)) (mr x2)) fun x3=>if((lkB s1 x2)||(x3 !=0))=true then some (.inr false)else if(lkI s1 x2 0).isNone=true then some (.inl (s1++[(x2,true)]))else none) l i (HD met)
   =some (if KW right met l=true then .inl (HD (met++l))else .inr false)
 | [],met,i=>by simp[Dl,KW]
 |s::l,met,i=>by
  have ih:=Xg right mr hr l (met++[s]) (i+1);have hm':=SY met s;simp only[Dl,hr]at ih⊢;rw[hm'];cases hm:met.any (eqS s)with
  |true=>simp[gu,KW,hm]
  |false=>
   simp only[gu,Bool.not_false,cond_true,Ab,Bool.false_or];cases h0:right s==0 with
   |false=>
    have h1:(right s !=0)=true:=by simp only[bne,h0,Bool.not_false]
    rw[if_pos h1];simp[KW,hm,h0]
   |true=>
    have h1:(right s !=0)=false:=by simp only[bne,h0,Bool.not_true]
    rw[h1];simp only[Bool.false_eq_true,if_false,UQ met s hm,if_true,Ab];have e:HD met++[(s,true)]=HD (met++[s]):=by simp[HD]
    rw[e];simp only[gu]at ih;rw[ih];simp[KW,hm,h0]
def listV (right:ByteArray→Int)(l:List ByteArray)(a b:Int):Bool:=KW right [] l&&decide ((l.length:Int)≥a)&&decide ((l.length:Int)≤b)
theorem Tb (l:List ByteArray)(a b:Int):DR l a b=some (listV patV l a b):=by
 unfold DR;have h:=Xg patV B0 SH l [] 0;show Ae (Dl _ l 0 (HD [])) _=_;unfold Dz;rw[h];unfold listV;cases KW patV [] l<;>rfl
theorem Ta (l:List ByteArray)(a b:Int):DS l a b=some (listV nameV l a b):=by
 unfold DS;have h:=Xg nameV Ce Nb l [] 0;show Ae (Dl _ l 0 (HD [])) _=_;unfold DA;rw[h];unfold listV;cases KW nameV [] l<;>rfl
theorem Oq {right:ByteArray→Int}: ∀{l met:List ByteArray},KW right met l=true→∀s∈l,right s=0
 | [],met,_,s,hs=>by cases hs
 |a::l,met,h,s,hs=>by
  simp only[KW,Bool.and_eq_true,beq_iff_eq]at h;rcases List.mem_cons.1 hs with e|hs
  ·rw[e]; exact h.1.2
  ·exact Oq h.2 s hs
def numB (n:Int):Bool:=decide (n≥0)&&decide (n≤1099511627776)
def sigB (s:g_api_Sig):Bool:=decide ((Nh s.E s.S).toNat<1152921504606845789)
def promBC (p:g_api_Promise):Bool:=numB p.Log&&numB p.At&&decide ((Nh p.Leaf.1 p.Leaf.2).toNat<2305843009213693951)&&sigB p.Sig
theorem LK (n:Int):CJ n=some (numB n):=rfl
theorem Ob (s:g_api_Sig):D6 s=some (sigB s):=by
 unfold D6 sigB;simp only[bnd,Option.some.injEq,decide_eq_decide];omega
theorem max_eq (a b:UInt64):Bv [a,b]=some (Nh a b):=by
 have e1:AH [a,b] (a,1)=some (.inl (Nh a b,2)):=rfl;have e2:AH [a,b] (Nh a b,2)=some (.inr (Nh a b)):=rfl;have h: ∀n,iter (AH [a,b]) (n+1+1) (a,1)=some (Nh a b):=fun n=>by
  simp only[iter,e1,Ab,e2]
 have hf:iter (AH [a,b]) Dh (a,1)=some (Nh a b):=h 18446744073709551614;have i0:idx [a,b] 0=some a:=rfl;have d0:decide ((([a,b]:List UInt64).length:Int)<1)=false:=rfl;unfold Bv;rw[d0,i0];simp only[Bool.false_eq_true,if_false,Ab,hf]
theorem Tr {c v:Bool}:gu c (some v)=some (c&&v):=by cases c<;>rfl
theorem Qr {α:Type} [Inhabited α](o:Option α):gu true o=o:=rfl
theorem VX {α:Type} [Inhabited α](o:Option α):gu false o=some default:=rfl
theorem Cg {α β:Type}(a:α)(k:α→β):bnd a k=k a:=rfl
theorem Pg (p:g_api_Promise):DQ p=some (promBC p):=by
 unfold DQ promBC;simp only[LK,max_eq,Ob,Tr,Cg,Ab];have e: ∀x:UInt64,decide ((x.toNat:Int)<2305843009213693951)=decide (x.toNat<2305843009213693951):=fun x=>by
  rw[decide_eq_decide]; omega
 simp only[e];cases numB p.Log with
 |false=>simp only[Bool.false_and,VX,Ab]
 |true=>
  cases numB p.At with
  |false=>simp only[Bool.false_and,Bool.true_and,VX,Ab]
  |true=>
   simp only[Bool.true_and,Qr,Ab];cases decide ((Nh p.Leaf.1 p.Leaf.2).toNat<2305843009213693951)<;>simp only[Bool.false_and,Bool.true_and]
def promsB:Int→List g_api_Promise→Bool
 |_,[]=>true
 |last,p::l=>promBC p&& !(decide (p.Log≤last))&&promsB p.Log l
theorem Qc: ∀(l:List g_api_Promise) (i last:Int),∃z:Int,Dl BJ l i last=some (if promsB last l=true then .inl z else .inr false)
 | [],i,last=>⟨last,rfl⟩
 |p::l,i,last=>by
  obtain⟨z,ih⟩:=Qc l (i+1) p.Log;refine⟨z,?_⟩;have e:BJ i p last=some (if(promBC p&& !(decide (p.Log≤last)))=true then .inl p.Log else .inr false):=by
   unfold BJ;rw[Pg,Ab];cases promBC p<;>cases decide (p.Log≤last)<;>rfl
  show Ae (BJ i p last) _=_;rw[e];cases h:promBC p&& !(decide (p.Log≤last))with
  |false=>
   simp[promsB,h]
  |true=>
   rw[if_pos rfl,Ab];show Dl BJ l (i+1) p.Log=_;rw[ih];simp[promsB,h]
def formB (c:g_api_Cert):Bool:=promsB (-1) c.Proms&&(numB c.Serial&&numB c.From&&numB c.Until&&decide (c.From<c.Until))&&(textV c.Issuer&&(!((c.Key.toNat:Int)==0))&&decide ((c.Key.toNat:Int)<2305843009213691579)&&decide ((c.Proms.length:Int)≤4)&&sigB c.Sig)&&(if c.Ca=true then textV c.Subject&&((c.Names.length:Int)==0)&&decide (c.Depth≥0)&&decide (c.Depth≤4)&&listV patV c.Permit 0 8 else eqS c.Subject (⟨#[]⟩:ByteArray)&&listV nameV c.Names 1 8&&(c.Depth==0)&&((c.Permit.length:Int)==0))
theorem Tz (c:g_api_Cert):EU c=some (formB c):=by
 obtain⟨z,hz⟩:=Qc c.Proms 0 (-1);unfold EU formB;rw[hz];cases promsB (-1) c.Proms with
 |false=>rfl
 |true=>
  rw[if_pos rfl,Ab];simp only[LK,RK,Ob,Tb,Ta,Tr,Cg,Ab,Bool.true_and];have e1:decide (c.From≥c.Until)= !decide (c.From<c.Until):=by
   rw[←decide_not,decide_eq_decide]; omega
  have e2:decide ((c.Key.toNat:Int)≥2305843009213691579)= !decide ((c.Key.toNat:Int)<2305843009213691579):=by
   rw[←decide_not,decide_eq_decide]; omega
  have e3:decide ((c.Proms.length:Int)>4)= !decide ((c.Proms.length:Int)≤4):=by
   rw[←decide_not,decide_eq_decide]; omega
  rw[e1,e2,e3];generalize numB c.Serial=a1;generalize numB c.From=a2;generalize numB c.Until=a3;generalize decide (c.From<c.Until)=a4;generalize textV c.Issuer=b1;generalize ((c.Key.toNat:Int)==0)=b2;generalize decide ((c.Key.toNat:Int)<2305843009213691579)=b3;generalize decide ((c.Proms.length:Int)≤4)=b4;generalize sigB c.Sig=b5;cases a1<;>cases a2<;>cases a3<;>cases a4<;>try rfl
  all_goals cases b1<;>cases b2<;>cases b3<;>cases b4<;>cases b5<;>try rfl
  cases c.Ca with
  |true=>
   show some _=some _;generalize listV patV c.Permit 0 8=d1;generalize textV c.Subject=d2;generalize ((c.Names.length:Int)==0)=d3;generalize decide (c.Depth≥0)=d4;generalize decide (c.Depth≤4)=d5;cases d1<;>cases d2<;>cases d3<;>cases d4<;>cases d5<;>rfl
  |false=>
   show some _=some _;generalize listV nameV c.Names 1 8=d1;generalize eqS c.Subject (⟨#[]⟩:ByteArray)=d2;cases d1<;>cases d2<;>rfl
end Go.Proofs.YtbajlmaijjcbmaaGreatDoor
end
section
namespace Go.Proofs.YtbajlmaijjcbmaaGreatDoor
open Go Go.Gw Go.Ax
theorem Mg {α:Type}(b:Nat){xs ys:List α}(h:(xs.length+ys.length)*b≤140737488355328)(h1:xs.length+ys.length≤140737488355328):app b xs ys=some (xs++ys):=by unfold app; rw[if_pos ⟨h,h1⟩]
theorem PL {α:Type}(b:Nat){ys:List α}(h:ys.length*b≤140737488355328)(h1:ys.length≤140737488355328):app b [] ys=some ys:=by
 rw[Mg b (by simpa using h) (by simpa using h1)]; rfl
theorem cut_tl {α:Type}(x:α)(xs:List α):cut (x::xs) 1 (((x::xs).length:Nat):Int)=some xs:=by
 unfold cut;rw[if_pos ⟨by omega,by rw[List.length_cons]; omega,by omega⟩];show some (List.take _ xs)=_;rw[List.take_of_length_le];simp
def be8 (n:Int):List UInt8:=[toB (Ef n 56),toB (Ef n 48),toB (Ef n 40),toB (Ef n 32),toB (Ef n 24),toB (Ef n 16),toB (Ef n 8),toB (Ef n 0)]
def Ot:List UInt8→Bool
 | []=>false
 | [_]=>true
 |a::b::l=>decide (((a::b::l).length:Int)≤8)&&((a.toNat:Int) !=((toB (-((shrB b 7).toNat:Int))).toNat:Int))
def Vq:List UInt8→List UInt8
 | []=> []
 | [a]=> [a]
 |a::b::l=>if Ot (a::b::l)=true then a::b::l else Vq (b::l)
theorem Nj (l:List UInt8):Er l=some (Ot l):=by
 match l with
 | []=>rfl
 | [a]=>rfl
 |a::b::l=>
  unfold Er;have e0:(((a::b::l).length:Int)==0)=false:=by simp only[beq_eq_false_iff_ne,List.length_cons]; omega
  have e1:(((a::b::l).length:Int)==1)=false:=by simp only[beq_eq_false_iff_ne,List.length_cons]; omega
  have i0:idx (a::b::l) 0=some a:=rfl;have i1:idx (a::b::l) 1=some b:=rfl;rw[e0,e1,i0,i1];simp only[Bool.false_eq_true,if_false,Ab,Cg,Ot];cases decide (((a::b::l).length:Int)≤8)<;>rfl
theorem RG: ∀(n:Nat) (l:List UInt8),l.length<n→iter Cj n l=some (Vq l)
 |0,l,h=>by omega
 |n+1,l,h=>by
  show Ae (Cj l) _=_;match l with
  | []=>rfl
  | [a]=>rfl
  |a::b::l=>
   have ih:=RG n (b::l) (by simp only[List.length_cons]at h⊢; omega);have e0:decide (((a::b::l).length:Int)>1)=true:=by simp only[decide_eq_true_eq,List.length_cons]; omega
   cases hl:Ot (a::b::l)with
   |true=>
    have e:Cj (a::b::l)=some (.inr (a::b::l)):=by
     unfold Cj;rw[e0,if_pos rfl,Nj,hl];rfl
    rw[e];simp[Vq,hl]
   |false=>
    have e:Cj (a::b::l)=some (.inl (b::l)):=by
     unfold Cj;rw[e0,if_pos rfl,Nj,hl,cut_tl];rfl
    rw[e];simp only[Ab];rw[ih];simp[Vq,hl]
theorem MJ: ∀(l:List UInt8),(Vq l).length≤l.length
 | []=>Nat.le_refl _
 | [a]=>Nat.le_refl _
 |a::b::l=>by
  have ih:=MJ (b::l);unfold Vq;split
  ·exact Nat.le_refl _
  ·rw[List.length_cons]; omega
def NJ (n:Int):g_api_Item:=⟨2,Vq (be8 n),[]⟩
theorem be8_eq (n:Int):Cs (GH n) 8 0 (0,0,0,0,0,0,0,0)=some (toB (Ef n 56),toB (Ef n 48),toB (Ef n 40),toB (Ef n 32),toB (Ef n 24),toB (Ef n 16),toB (Ef n 8),toB (Ef n 0)):=rfl
theorem QD {l:List UInt8}(h:l.length≤140737488355328):AR l=some l:=by
 unfold AR;rw[PL 1 (by omega) h]; rfl
theorem Tn (n:Int):Dk n=some (NJ n):=by
 have h8:(be8 n).length=8:=rfl;have h:=MJ (be8 n);unfold Dk;rw[be8_eq];show Ae (Ae (iter Cj Dh (be8 n)) _) _=_;rw[RG Dh (be8 n) (by rw[h8]; have:=Ek; omega)];show Ae (AR (Vq (be8 n))) _=_;rw[QD (by omega)];rfl
def NK (x:UInt64):g_api_Item:=NJ (w64 (x.toNat:Int))
theorem QI (x:UInt64):CW x=some (NK x):=by unfold CW; rw[Tn]; rfl
def Ip (s:ByteArray):g_api_Item:=⟨12,s.data.toList,[]⟩
def PJ (v:Bool):g_api_Item:=⟨1,[if v=true then 255 else 0],[]⟩
def P2 (l:List g_api_Item):g_api_Item:=⟨48,[],l⟩
theorem MK {s:ByteArray}(h:s.size≤140737488355328):Fl s=some (Ip s):=by
 unfold Fl;rw[PL 1 (by rw[BA]; omega) (by rw[BA]; exact h)]; rfl
theorem Vj (v:Bool):H6 v=some (PJ v):=by cases v<;>rfl
theorem It {l:List g_api_Item}(h:l.length≤1000000):DP l=some (P2 l):=by
 unfold DP AX;rw[PL 56 (by omega) (by omega)]; rfl
theorem PW: ∀(l:List ByteArray) (i:Int) (a:List g_api_Item),(∀s∈l,s.size≤64)→a.length+l.length≤1000000→EY AW l i a=some (a++l.map Ip)
 | [],i,a,_,_=>by simp[EY]
 |s::l,i,a,h,hn=>by
  rw[List.length_cons]at hn;have ih:=PW l (i+1) (a++[Ip s]) (fun x hx=>h x (List.mem_cons_of_mem _ hx)) (by rw[List.length_append]; show a.length+1+_≤_; omega);have e:AW i s a=some (a++[Ip s]):=by
   unfold AW;rw[MK (by have:=h s List.mem_cons_self; omega),Ab,Mg 56 (by show(a.length+1)*56≤_; omega) (by show a.length+1≤_; omega)];rfl
  show Ae (AW i s a) _=_;rw[e];show EY _ l (i+1) (a++[Ip s])=_;rw[ih];simp
def KD (l:List ByteArray):g_api_Item:=P2 (l.map Ip)
theorem PX {l:List ByteArray}(h: ∀s∈l,s.size≤64)(hn:l.length≤1000000):Bz l=some (KD l):=by
 unfold Bz;rw[PW l 0 [] h (by simpa using hn)];simp only[Ab,List.nil_append];rw[It (by rw[List.length_map]; exact hn)]; rfl
def MY (p:g_api_Promise):g_api_Item:=P2 [NJ p.Log,NJ p.At,NK p.Leaf.1,NK p.Leaf.2,NK p.Sig.E,NK p.Sig.S]
theorem Uz (p:g_api_Promise):EV p=some (MY p):=by
 unfold EV;simp only[Tn,QI,Ab];rw[It (by simp)]; rfl
theorem Qb: ∀(l:List g_api_Promise) (i:Int) (a:List g_api_Item),a.length+l.length≤1000000→EY AF l i a=some (a++l.map MY)
 | [],i,a,_=>by simp[EY]
 |s::l,i,a,hn=>by
  rw[List.length_cons]at hn;have ih:=Qb l (i+1) (a++[MY s]) (by rw[List.length_append]; show a.length+1+_≤_; omega);have e:AF i s a=some (a++[MY s]):=by
   unfold AF;rw[Uz,Ab,Mg 56 (by show(a.length+1)*56≤_; omega) (by show a.length+1≤_; omega)];rfl
  show Ae (AF i s a) _=_;rw[e];show EY _ l (i+1) (a++[MY s])=_;rw[ih];simp
def Qd (l:List g_api_Promise):g_api_Item:=P2 (l.map MY)
theorem Sx {l:List g_api_Promise}(hn:l.length≤1000000):Bt l=some (Qd l):=by
 unfold Bt;rw[Qb l 0 [] (by simpa using hn)];simp only[Ab,List.nil_append];rw[It (by rw[List.length_map]; exact hn)]; rfl
structure PN (c:g_api_Cert):Prop where
 issuer:c.Issuer.size≤64
 subject:c.Subject.size≤64
 names: ∀s∈c.Names,s.size≤64
 few:c.Names.length≤8
 permit: ∀s∈c.Permit,s.size≤64
 fewP:c.Permit.length≤8
 proms:c.Proms.length≤4
def preI (c:g_api_Cert):g_api_Item:=P2 [NJ c.Serial,Ip c.Issuer,Ip c.Subject,NK c.Key,KD c.Names,NJ c.From,NJ c.Until,PJ c.Ca,NJ c.Depth,KD c.Permit]
def Lg (c:g_api_Cert):g_api_Item:=P2 [preI c,Qd c.Proms]
def wholeI (c:g_api_Cert):g_api_Item:=P2 [Lg c,P2 [NK c.Sig.E,NK c.Sig.S]]
theorem WZ {c:g_api_Cert}(h:PN c):G6 c=some (preI c):=by
 unfold G6;have h1:=h.issuer; have h2:=h.subject; have h3:=h.few; have h4:=h.fewP;simp only[Tn,QI,Vj,MK (s:=c.Issuer) (by omega),MK (s:=c.Subject) (by omega),PX h.names (by omega),PX h.permit (by omega),Ab];rw[It (by simp)]; rfl
theorem QG {c:g_api_Cert}(h:PN c):Fo c=some (Lg c):=by
 unfold Fo;have h1:=h.proms;rw[WZ h,Sx (by omega)];simp only[Ab];rw[It (by simp)]; rfl
theorem Ry {c:g_api_Cert}(h:PN c):FD c=some (wholeI c):=by
 unfold FD;rw[QG h,QI,QI];simp only[Ab];rw[It (by simp)];simp only[Ab];rw[It (by simp)]; rfl
structure Form (c:g_api_Cert):Prop where
 proms:promsB (-1) c.Proms=true
 serial:numB c.Serial=true
 frm:numB c.From=true
 til:numB c.Until=true
 lt:c.From<c.Until
 issuer:textV c.Issuer=true
 key0:(c.Key.toNat:Int)≠0
 keyQ:(c.Key.toNat:Int)<2305843009213691579
 nproms:(c.Proms.length:Int)≤4
 sig:sigB c.Sig=true
 ca:c.Ca=true→textV c.Subject=true∧c.Names=[]∧0≤c.Depth∧c.Depth≤4∧listV patV c.Permit 0 8=true
 leaf:c.Ca=false→c.Subject=(⟨#[]⟩:ByteArray)∧listV nameV c.Names 1 8=true∧c.Depth=0∧c.Permit=[]
theorem TA {c:g_api_Cert}(h:formB c=true):Form c:=by
 unfold formB at h;simp only[Bool.and_eq_true,decide_eq_true_eq,Bool.not_eq_true',beq_eq_false_iff_ne]at h;obtain⟨⟨⟨h1,⟨⟨h2,h3⟩,h4⟩,h5⟩,⟨⟨⟨h6,h7⟩,h8⟩,h9⟩,h10⟩,h11⟩:=h;refine⟨h1,h2,h3,h4,h5,h6,h7,h8,h9,h10,fun e=> ?_,fun e=> ?_⟩
 ·rw[if_pos e]at h11;simp only[Bool.and_eq_true,decide_eq_true_eq,beq_iff_eq]at h11;obtain⟨⟨⟨⟨a,b⟩,d⟩,f⟩,g⟩:=h11;exact⟨a,List.eq_nil_of_length_eq_zero (by omega),by omega,f,g⟩
 ·rw[e]at h11;simp only[Bool.false_eq_true,if_false,Bool.and_eq_true,decide_eq_true_eq,beq_iff_eq]at h11;obtain⟨⟨⟨a,b⟩,d⟩,f⟩:=h11;exact⟨HV.1 a,b,d,List.eq_nil_of_length_eq_zero (by omega)⟩
theorem Oo {right:ByteArray→Int}{l:List ByteArray}{a b:Int}(h:listV right l a b=true):a≤l.length∧(l.length:Int)≤b∧∀s∈l,right s=0:=by
 unfold listV at h;simp only[Bool.and_eq_true,decide_eq_true_eq]at h;exact⟨by omega,h.2,Oq h.1.1⟩
theorem Form.sized {c:g_api_Cert}(h:Form c):PN c:=by
 have hi:=(PY h.issuer).2;have hp:=h.nproms;cases hc:c.Ca with
 |true=>
  obtain⟨h1,h2,h3,h4,h5⟩:=h.ca hc;obtain⟨l1,l2,l3⟩:=Oo h5;exact⟨hi,(PY h1).2,(by rw[h2]; intro s hs; cases hs),by rw[h2]; decide,fun s hs=>SG (l3 s hs),by omega,by omega⟩
 |false=>
  obtain⟨h1,h2,h3,h4⟩:=h.leaf hc;obtain⟨l1,l2,l3⟩:=Oo h2;exact⟨hi,by rw[h1]; decide,fun s hs=>Re (l3 s hs),by omega,(by rw[h4]; intro s hs; cases hs),by rw[h4]; decide,by omega⟩
end Go.Proofs.YtbajlmaijjcbmaaGreatDoor
end
section
namespace Go.Proofs.YtbajlmaijjcbmaaGreatDoor
open Go Go.Gw Go.Ax
theorem XD (t:Int):Fk t=some (if t=1 then(⟨1,252⟩,true)else if t=2 then(⟨2,157⟩,true)else if t=4 then(⟨4,253⟩,true)else if t=12 then(⟨12,254⟩,true)else if t=48 then(⟨48,257⟩,true)else(⟨0,-1⟩,false)):=by
 by_cases h1:t=1
 ·subst h1; rfl
 by_cases h2:t=2
 ·subst h2; rfl
 by_cases h3:t=4
 ·subst h3; rfl
 by_cases h4:t=12
 ·subst h4; rfl
 by_cases h5:t=48
 ·subst h5; rfl
 rw[if_neg h1,if_neg h2,if_neg h3,if_neg h4,if_neg h5];have b: ∀(k:Int),t≠k→((k==t)=true)=False:=fun k h=>by simp only[beq_iff_eq,eq_iff_iff,iff_false]; exact fun e=>h e.symm
 have g:De (Ah tab_0) tab_0.length 0 t=some (.inl t):=by
  have i: ∀(j:Nat) (k:CB),idx tab_0 (j:Int)=some k→t≠k.tag_→Ah tab_0 (j:Int) t=some (.inl t):=fun j k e hk=>by
   have hb:(k.tag_==t)=false:=by simp only[beq_eq_false_iff_ne]; exact fun e=>hk e.symm
   unfold Ah GG;rw[e];simp only[Ab,hb,Bool.false_eq_true,if_false]
  show Ae (Ah tab_0 ((0:Nat):Int) t) _=_;rw[i 0 ⟨1,252⟩ rfl h1];show Ae (Ah tab_0 ((1:Nat):Int) t) _=_;rw[i 1 ⟨2,157⟩ rfl h2];show Ae (Ah tab_0 ((2:Nat):Int) t) _=_;rw[i 2 ⟨4,253⟩ rfl h3];show Ae (Ah tab_0 ((3:Nat):Int) t) _=_;rw[i 3 ⟨12,254⟩ rfl h4];show Ae (Ah tab_0 ((4:Nat):Int) t) _=_;rw[i 4 ⟨48,257⟩ rfl h5];rfl
 unfold Fk AQ;rw[g];rfl
def KZ (t:Int):Bool:=t==1||t==2||t==4||t==12||t==48
def boolB (b:List UInt8):Bool:=match b with| [x]=>x==0||x==255|_=>false
def JI (b:List UInt8):Bool:=b.all fun c=>decide (32≤c.toNat)&&decide (c.toNat≤126)
def Th (t:Int)(b:List UInt8):Bool:=if t=1 then boolB b else if t=2 then Ot b else if t=4 then true else if t=12 then JI b else if t=48 then b.isEmpty else false
theorem Tg (b:List UInt8):D4 b=some (boolB b):=by
 match b with
 | []=>rfl
 | [x]=>
  unfold D4;have e1:((([x]:List UInt8).length:Int)==1)=true:=rfl;have e2:idx [x] 0=some x:=rfl;rw[e1,e2];have e3: ∀n:UInt8,((x.toNat:Int)==n.toNat)=(x==n):=fun n=>by
   rw[Bool.eq_iff_iff,beq_iff_eq,beq_iff_eq,←UInt8.toNat_inj];omega
  have z0:((x.toNat:Int)==0)=(x==0):=e3 0;have z1:((x.toNat:Int)==255)=(x==255):=e3 255;simp only[Qr,Ab,Cg,z0,z1,Bool.true_and];show _=some (x==0||x==255);cases h:x==0 with
  |true=>rfl
  |false=>simp only[Bool.not_false,Qr,Ab,Cg,z1,Bool.false_or]
 |x::y::l=>
  unfold D4;have e1:(((x::y::l).length:Int)==1)=false:=by simp only[beq_eq_false_iff_ne,List.length_cons]; omega
  rw[e1];rfl
theorem VV: ∀(a b:List UInt8),∃r,De (Am (a++b)) b.length (a.length:Int) ()=some r∧(r= .inl ()↔JI b=true)∧∀i,r= .inr i→0≤i
 |a,[]=>⟨.inl (),rfl,by simp[JI],fun i h=>by cases h⟩
 |a,c::b=>by
  have hi:idx (a++c::b) (a.length:Int)=some c:=by
   unfold idx;rw[if_pos (by omega)];simp
  obtain⟨r,h1,h2,h3⟩:=VV (a++[c]) b;have ec:(decide ((c.toNat:Int)<32)||decide ((c.toNat:Int)>126))= !(decide (32≤c.toNat)&&decide (c.toNat≤126)):=by
   rw[Bool.eq_iff_iff];simp only[Bool.or_eq_true,Bool.not_eq_true',Bool.and_eq_false_iff,decide_eq_true_eq,decide_eq_false_iff_not];omega
  have st:Am (a++c::b) (a.length:Int) ()=some (if(decide (32≤c.toNat)&&decide (c.toNat≤126))=true then .inl ()else .inr (a.length:Int)):=by
   unfold Am ER;rw[hi];simp only[Ab,Cg,ec];cases decide (32≤c.toNat)&&decide (c.toNat≤126)<;>rfl
  show∃r,Ae (Am (a++c::b) (a.length:Int) ()) _=some r∧_;rw[st];cases hc:decide (32≤c.toNat)&&decide (c.toNat≤126)with
  |false=>exact⟨.inr (a.length:Int),rfl,by simp[JI,hc],fun i h=>(by cases h; omega)⟩
  |true=>
   refine⟨r,?_,?_,h3⟩
   ·show De (Am (a++c::b)) b.length ((a.length:Int)+1) ()=some r;rw[←h1];simp
   ·rw[h2];simp only[JI,List.all_cons,hc,Bool.true_and]
theorem Tf (b:List UInt8):ES b=some (JI b):=by
 obtain⟨r,h1,h2,h3⟩:=VV [] b;unfold ES A8 Bm;have h1:De (Am b) b.length 0 ()=some r:=h1;rw[h1];cases r with
 |inl u=>rw[h2.1 rfl]; rfl
 |inr i=>
  have hp:JI b=false:=by
   cases h:JI b with
   |false=>rfl
   |true=>exact absurd (h2.2 h) (by simp)
  have hi:=h3 i rfl;rw[hp];show some (!(decide (i≥0)))=_;rw[decide_eq_true hi]; rfl
theorem Te (b:List UInt8):EP b=some b.isEmpty:=by
 cases b with
 |nil=>rfl
 |cons a l=>
  unfold EP;have:(((a::l).length:Int)==0)=false:=by simp only[beq_eq_false_iff_ne,List.length_cons]; omega
  rw[this]; rfl
theorem Pu {t:Int}(h:KZ t=true):t=1∨t=2∨t=4∨t=12∨t=48:=by
 unfold KZ at h;simp only[Bool.or_eq_true,beq_iff_eq]at h;omega
theorem LX {t:Int}(h:KZ t=true): ∃k,Fk t=some (k,true)∧k.tag_=t∧∀b,J6 k.may_ b=some (Th t b):=by
 rcases Pu h with e|e|e|e|e
 ·subst e; exact⟨_,rfl,rfl,Tg⟩
 ·subst e; exact⟨_,rfl,rfl,Nj⟩
 ·subst e; exact⟨_,rfl,rfl,fun b=>rfl⟩
 ·subst e; exact⟨_,rfl,rfl,Tf⟩
 ·subst e; exact⟨_,rfl,rfl,Te⟩
theorem HT {t:Int}(h:KZ t=false):Fk t=some (⟨0,-1⟩,false)∧∀b,Th t b=false:=by
 unfold KZ at h;simp only[Bool.or_eq_false_iff,beq_eq_false_iff_ne]at h;obtain⟨⟨⟨⟨h1,h2⟩,h3⟩,h4⟩,h5⟩:=h;refine⟨?_,fun b=> ?_⟩
 ·rw[XD,if_neg h1,if_neg h2,if_neg h3,if_neg h4,if_neg h5]
 ·unfold Th;rw[if_neg h1,if_neg h2,if_neg h3,if_neg h4,if_neg h5]
def mayB:Nat→g_api_Item→Bool
 |0,_=>false
 |d+1,x=>Th x.Tag x.B&&(x.Tag==48||x.L.isEmpty)&&x.L.all (mayB d)
theorem VW (rF:g_api_Item→Int→Option Bool)(p:g_api_Item→Bool)(d:Int): ∀(a b:List g_api_Item),(∀y∈b,rF y (w64 (d-1))=some (p y))→
  ∃r,De (Aj rF (a++b)) b.length (a.length:Int) d=some r∧(r= .inl d↔b.all p=true)∧(∀e,r= .inl e→e=d)∧∀i,r= .inr i→0≤i.1
 |a,[],_=>⟨.inl d,rfl,by simp,fun e h=>by cases h; rfl,fun i h=>by cases h⟩
 |a,c::b,h=>by
  have hi:idx (a++c::b) (a.length:Int)=some c:=by
   unfold idx;rw[if_pos (by omega)];simp
  obtain⟨r,h1,h2,h4,h3⟩:=VW rF p d (a++[c]) b fun y hy=>h y (List.mem_cons_of_mem _ hy);have st:Aj rF (a++c::b) (a.length:Int) d=some (if p c=true then .inl d else .inr ((a.length:Int),d)):=by
   unfold Aj F4;rw[hi];simp only[Ab,h c List.mem_cons_self];cases p c<;>rfl
  show∃r,Ae (Aj rF (a++c::b) (a.length:Int) d) _=some r∧_;rw[st];cases hc:p c with
  |false=>exact⟨.inr ((a.length:Int),d),rfl,by simp[hc],fun e h=>(by cases h),fun i h=>(by cases h; exact Int.natCast_nonneg _)⟩
  |true=>
   refine⟨r,?_,?_,h4,h3⟩
   ·show De (Aj rF (a++c::b)) b.length ((a.length:Int)+1) d=some r;rw[←h1];simp
   ·rw[h2];simp only[List.all_cons,hc,Bool.true_and]
theorem PF (rF:g_api_Item→Int→Option Bool)(p:g_api_Item→Bool)(d:Int)(l:List g_api_Item)(h: ∀y∈l,rF y (w64 (d-1))=some (p y)):
  ∃z,Ay rF l d=some (!(l.all p),z):=by
 obtain⟨r,h1,h2,h4,h3⟩:=VW rF p d [] l h;have h1:De (Aj rF l) l.length 0 d=some r:=h1;unfold Ay AM;rw[h1];cases r with
 |inl u=>
  have:=h4 u rfl;subst this;rw[h2.1 rfl];exact⟨_,rfl⟩
 |inr i=>
  have hp:l.all p=false:=by
   cases h:l.all p with
   |false=>rfl
   |true=>exact absurd (h2.2 h) (by simp)
  have hi:=h3 i rfl;rw[hp];refine⟨i.2,?_⟩;show some (decide (i.1≥0),i.2)=_;rw[decide_eq_true hi]; rfl
theorem VQ: ∀(d n:Nat) (x:g_api_Item),d<n→d≤100→FB n x (d:Int)=some (mayB d x)
 |d,0,x,h,_=>by omega
 |0,n+1,x,_,_=>by
  show Ep (FB n) x 0=some false;unfold Ep;cases hk:KZ x.Tag with
  |false=>rw[(HT hk).1]; rfl
  |true=>
   obtain⟨k,e,_,_⟩:=LX hk;rw[e]; rfl
 |d+1,n+1,x,h,hd=>by
  have ih: ∀y∈x.L,FB n y (w64 (((d+1:Nat):Int)-1))=some (mayB d y):=fun y _=>by
   rw[show w64 (((d+1:Nat):Int)-1)=(d:Int)from by rw[Ec (by omega) (by omega)]; omega];exact VQ d n y (by omega) (by omega)
  obtain⟨z,hz⟩:=PF (FB n) (mayB d) ((d+1:Nat):Int) x.L ih;show Ep (FB n) x ((d+1:Nat):Int)=some (mayB (d+1) x);unfold Ep mayB;have e1:decide (((d+1:Nat):Int)<1)=false:=by rw[decide_eq_false_iff_not]; omega
  have e2:decide ((x.L.length:Int)>0)= !x.L.isEmpty:=by
   cases x.L with
   |nil=>rfl
   |cons a l=>show decide _=true; rw[decide_eq_true_eq,List.length_cons]; omega
  have e3:(x.Tag !=48)= !(x.Tag==48):=rfl;rw[e1,e2,e3];cases hk:KZ x.Tag with
  |false=>
   rw[(HT hk).1,(HT hk).2]; rfl
  |true=>
   obtain⟨k,e,_,hm⟩:=LX hk;rw[e];simp only[Ab,Bool.not_true,Bool.or_false,Bool.not_false,Qr,hm,hz,Bool.not_not];cases Th x.Tag x.B<;>cases x.Tag==48<;>cases x.L.isEmpty<;>rfl
theorem Xc (x:g_api_Item):KT x 8=some (mayB 8 x):=VQ 8 Dh x (by have:=Ek; omega) (by decide)
end Go.Proofs.YtbajlmaijjcbmaaGreatDoor
end
section
namespace Go.Proofs.YtbajlmaijjcbmaaGreatDoor
open Go Go.Gw Go.Ax
def KX (n:Nat):List UInt8:=if n<128 then [toB (n:Int)]else if n<256 then [129,toB (n:Int)]else [130,toB (Ef (n:Int) 8),toB (n:Int)]
def putB:Nat→g_api_Item→List UInt8
 |0,_=> []
 |d+1,x=>toB x.Tag::(KX (x.B++x.L.flatMap (putB d)).length++(x.B++x.L.flatMap (putB d)))
def depB:Nat→g_api_Item→Prop
 |0,_=>False
 |d+1,x=> ∀y∈x.L,depB d y
theorem TM: ∀{d:Nat} {x:g_api_Item},mayB d x=true→depB d x
 |0,x,h=>by cases h
 |d+1,x,h=>by
  simp only[mayB,Bool.and_eq_true,List.all_eq_true]at h;exact fun y hy=>TM (h.2 y hy)
theorem Qp (n:Nat):1≤(KX n).length∧(KX n).length≤3:=by
 unfold KX;split
 ·exact⟨by simp,by simp⟩
 ·split
  ·exact⟨by simp,by simp⟩
  ·exact⟨by simp,by simp⟩
theorem putE: ∀(d n:Nat) (x:g_api_Item) (b:List UInt8),d≤n→depB d x→b.length+(putB d x).length≤100000000000000→EI n b x=some (b++putB d x)
 |0,n,x,b,_,h,_=>h.elim
 |d+1,0,x,b,h,_,_=>by omega
 |d+1,n+1,x,b,hn,hd,hb=>by
  have eP:putB (d+1) x=toB x.Tag::(KX (x.B++x.L.flatMap (putB d)).length++(x.B++x.L.flatMap (putB d))):=rfl;have go: ∀(l:List g_api_Item) (i:Int) (s:List UInt8),(∀y∈l,depB d y)→s.length+(l.flatMap (putB d)).length≤100000000000000→EY (B9 (EI n)) l i s=some (s++l.flatMap (putB d)):=by
   intro l;induction l with
   |nil=>intro i s _ _; simp[EY]
   |cons y l ih=>
    intro i s h hs;rw[List.flatMap_cons,List.length_append]at hs;have e:B9 (EI n) i y s=some (s++putB d y):=by
     unfold B9;rw[putE d n y s (by omega) (h y List.mem_cons_self) (by omega)];rfl
    show Ae (B9 (EI n) i y s) _=_;rw[e];show EY _ l (i+1) (s++putB d y)=_;rw[ih (i+1) (s++putB d y) (fun z hz=>h z (List.mem_cons_of_mem _ hz)) (by rw[List.length_append]; omega),List.flatMap_cons,List.append_assoc]
  rw[eP]at hb⊢;simp only[List.length_cons,List.length_append]at hb;have hc:DO (EI n) x=some (x.B++x.L.flatMap (putB d)):=by
   unfold DO;rw[QD (by omega),Ab,go x.L 0 x.B hd (by omega)];rfl
  show Gl (EI n) b x=_;unfold Gl;rw[hc,Ab,Mg 1 (by simp only[List.length_cons,List.length_nil]; omega) (by simp only[List.length_cons,List.length_nil]; omega),Ab];rw[←List.length_append]at hb;have hL:(x.B++x.L.flatMap (putB d)).length=(x.B++x.L.flatMap (putB d)).length:=rfl;generalize (x.B++x.L.flatMap (putB d))=c at hb hL⊢;have hl:=Qp c.length;have hm: ∀z:List UInt8,z.length≤3→app 1 (b++[toB x.Tag]) z=some (b++[toB x.Tag]++z):=fun z hz=>Mg 1 (by simp only[List.length_append,List.length_cons,List.length_nil]; omega) (by simp only[List.length_append,List.length_cons,List.length_nil]; omega);have fin:app 1 (b++[toB x.Tag]++KX c.length) c=some (b++toB x.Tag::(KX c.length++c)):=by
   rw[Mg 1 (by simp only[List.length_append,List.length_cons,List.length_nil]; omega) (by simp only[List.length_append,List.length_cons,List.length_nil]; omega)];simp
  have mid:(bnd (decide ((c.length:Int)<128)) fun x4=>
    if x4=true then
     Ae (app 1 (b++[toB x.Tag]) ([(toB (c.length:Int))]:List UInt8)) fun x5=>
     some x5
    else
    bnd ((decide ((c.length:Int)<256))) fun x6=>
    if x6=true then
     Ae (app 1 (b++[toB x.Tag]) ([129,(toB (c.length:Int))]:List UInt8)) fun x7=>
     some x7
    else
    Ae (app 1 (b++[toB x.Tag]) ([130,(toB (Ef (c.length:Int) 8)),(toB (c.length:Int))]:List UInt8)) fun x8=>
    some x8)=some (b++[toB x.Tag]++KX c.length):=by
   rw[hm [toB (c.length:Int)] (by simp),hm [129,toB (c.length:Int)] (by simp),hm [130,toB (Ef (c.length:Int) 8),toB (c.length:Int)] (by simp)];simp only[Cg,Ab,decide_eq_true_eq];unfold KX;by_cases h1:c.length<128
   ·rw[if_pos h1,if_pos (by omega)]
   ·rw[if_neg h1,if_neg (by omega)];by_cases h2:c.length<256
    ·rw[if_pos h2,if_pos (by omega)]
    ·rw[if_neg h2,if_neg (by omega)]
  rw[mid];simp only[Ab];rw[fin];rfl
theorem WW {x:g_api_Item}(h:depB 8 x)(hs:(putB 8 x).length≤100000000000000):KS [] x=some (putB 8 x):=by
 have:=putE 8 Dh x [] (by have:=Ek; omega) h (by simpa using hs);exact this
theorem Wj {x:g_api_Item}(hs:(putB 8 x).length≤100000000000000):
  Gn x=some (if mayB 8 x=true then(if(putB 8 x).length≤8192 then(putB 8 x,0)else([],2))else([],1)):=by
 unfold Gn;rw[Xc];cases hm:mayB 8 x with
 |false=>rfl
 |true=>
  simp only[Ab,Bool.not_true,Bool.false_eq_true,if_false,if_true];rw[WW (TM hm) hs];simp only[Ab,decide_eq_true_eq];by_cases h:(putB 8 x).length≤8192
  ·rw[if_neg (by omega),if_pos h]
  ·rw[if_pos (by omega),if_neg h]
theorem Qu {α:Type}(f:α→List UInt8)(k:Nat): ∀(l:List α),(∀y∈l,(f y).length≤k)→(l.flatMap f).length≤l.length*k
 | [],_=>by simp
 |y::l,h=>by
  have h1:=h y List.mem_cons_self;have h2:=Qu f k l fun z hz=>h z (List.mem_cons_of_mem _ hz);rw[List.flatMap_cons,List.length_append,List.length_cons,Nat.succ_mul];omega
theorem MX (d:Nat)(x:g_api_Item):(putB (d+1) x).length≤4+x.B.length+(x.L.flatMap (putB d)).length:=by
 have:=Qp (x.B++x.L.flatMap (putB d)).length;show(toB x.Tag::(KX (x.B++x.L.flatMap (putB d)).length++(x.B++x.L.flatMap (putB d)))).length≤_;rw[List.length_cons,List.length_append,List.length_append]at*;omega
theorem HQ (d:Nat)(n:Int):(putB d (NJ n)).length≤12:=by
 cases d with
 |zero=>simp[putB]
 |succ d=>
  have h:=MX d (NJ n);have h1:(NJ n).B.length≤8:=MJ (be8 n);have h2:(NJ n).L=[]:=rfl;rw[h2]at h;simp only[List.flatMap_nil,List.length_nil]at h;omega
theorem KE (d:Nat){s:ByteArray}(hs:s.size≤64):(putB d (Ip s)).length≤68:=by
 cases d with
 |zero=>simp[putB]
 |succ d=>
  have h:=MX d (Ip s);have h1:(Ip s).B.length=s.size:=BA s;have h2:(Ip s).L=[]:=rfl;rw[h2]at h;simp only[List.flatMap_nil,List.length_nil]at h;omega
theorem TY (d:Nat)(v:Bool):(putB d (PJ v)).length≤5:=by
 cases d with
 |zero=>simp[putB]
 |succ d=>
  have h:=MX d (PJ v);have h1:(PJ v).B.length=1:=rfl;have h2:(PJ v).L=[]:=rfl;rw[h2]at h;simp only[List.flatMap_nil,List.length_nil]at h;omega
theorem Hd (d:Nat)(l:List g_api_Item)(k:Nat)(hk: ∀e y,y∈l→(putB e y).length≤k):(putB d (P2 l)).length≤4+l.length*k:=by
 cases d with
 |zero=>simp[putB]
 |succ d=>
  have h:=MX d (P2 l);have h1:(P2 l).B.length=0:=rfl;have h3:=Qu (putB d) k l fun y hy=>hk d y hy;have h2:(P2 l).L=l:=rfl;rw[h2]at h;omega
theorem LH (d:Nat){l:List ByteArray}(h: ∀s∈l,s.size≤64)(hn:l.length≤8):(putB d (KD l)).length≤1000:=by
 have:=Hd d (l.map Ip) 68 fun e y hy=>by
  obtain⟨s,hs,e2⟩:=List.mem_map.1 hy;rw[←e2];exact KE e (h s hs)
 rw[List.length_map]at this;unfold KD;omega
theorem mem2 {α:Type}{p:α→Prop}{a b:α}(ha:p a)(hb:p b): ∀y∈[a,b],p y:=by
 intro y hy;simp only[List.mem_cons,List.not_mem_nil,or_false]at hy;rcases hy with e|e<;>rw[e]<;>assumption
theorem UB (d:Nat){c:g_api_Cert}(h:PN c):(putB d (preI c)).length≤20000:=by
 have:=Hd d [NJ c.Serial,Ip c.Issuer,Ip c.Subject,NK c.Key,KD c.Names,NJ c.From,NJ c.Until,PJ c.Ca,NJ c.Depth,KD c.Permit] 1000 fun e y hy=>by
  simp only[List.mem_cons,List.not_mem_nil,or_false]at hy;rcases hy with q|q|q|q|q|q|q|q|q|q<;>rw[q]
  ·have:=HQ e c.Serial; omega
  ·have:=KE e h.issuer; omega
  ·have:=KE e h.subject; omega
  ·have:=HQ e (w64 (c.Key.toNat:Int)); unfold NK; omega
  ·exact LH e h.names h.few
  ·have:=HQ e c.From; omega
  ·have:=HQ e c.Until; omega
  ·have:=TY e c.Ca; omega
  ·have:=HQ e c.Depth; omega
  ·exact LH e h.permit h.fewP
 simp only[List.length_cons,List.length_nil]at this;unfold preI;omega
theorem Sy (d:Nat)(p:g_api_Promise):(putB d (MY p)).length≤100:=by
 have:=Hd d [NJ p.Log,NJ p.At,NK p.Leaf.1,NK p.Leaf.2,NK p.Sig.E,NK p.Sig.S] 12 fun e y hy=>by
  simp only[List.mem_cons,List.not_mem_nil,or_false]at hy;rcases hy with q|q|q|q|q|q<;>rw[q]<;>exact HQ e _
 simp only[List.length_cons,List.length_nil]at this;unfold MY;omega
theorem T0 (d:Nat){c:g_api_Cert}(h:PN c):(putB d (Lg c)).length≤50000:=by
 have:=Hd d [preI c,Qd c.Proms] 20000 fun e=>mem2 (p:=fun y=>(putB e y).length≤20000) (UB e h) (by
  have:=Hd e (c.Proms.map MY) 100 fun f y hy=>by
   obtain⟨p,hp,e2⟩:=List.mem_map.1 hy;rw[←e2];exact Sy f p
  rw[List.length_map]at this;have:=h.proms;unfold Qd;omega)
 simp only[List.length_cons,List.length_nil]at this;unfold Lg;omega
theorem QQ (d:Nat){c:g_api_Cert}(h:PN c):(putB d (wholeI c)).length≤200000:=by
 have:=Hd d [Lg c,P2 [NK c.Sig.E,NK c.Sig.S]] 50000 fun e=>mem2 (p:=fun y=>(putB e y).length≤50000) (T0 e h) (by
  have:=Hd e [NK c.Sig.E,NK c.Sig.S] 12 fun f=>mem2 (p:=fun y=>(putB f y).length≤12) (HQ f _) (HQ f _);simp only[List.length_cons,List.length_nil]at this;omega)
 simp only[List.length_cons,List.length_nil]at this;unfold wholeI;omega
def checkV (c:g_api_Cert):Int:=if formB c=true then(if mayB 8 (wholeI c)=true∧(putB 8 (wholeI c)).length≤2048 then 0 else 2)else 1
theorem XO (b:List UInt8)(m:Bool):(Ae (some (if m=true then(if b.length≤8192 then(b,(0:Int))else([],2))else([],1))) fun x3=>if((x3.2 !=0)||(decide ((x3.1.length:Int)>2048)))=true then some (2:Int)else some 0)=some (if m=true∧b.length≤2048 then 0 else 2):=by
 cases m with
 |false=>rfl
 |true=>
  simp only[if_true,Ab,true_and];by_cases h1:b.length≤8192
  ·rw[if_pos h1];by_cases h2:b.length≤2048
   ·rw[if_pos h2,if_neg];simp only[bne_self_eq_false,Bool.false_or,decide_eq_true_eq];omega
   ·rw[if_neg h2,if_pos];simp only[bne_self_eq_false,Bool.false_or,decide_eq_true_eq];omega
  ·rw[if_neg h1];have h2: ¬b.length≤2048:=by omega
   rw[if_neg h2];rfl
theorem OI (c:g_api_Cert):C1 c=some (checkV c):=by
 unfold C1 checkV;rw[Tz];cases hf:formB c with
 |false=>rfl
 |true=>
  have hs:=(TA hf).sized;simp only[Ab,Bool.not_true,Bool.false_eq_true,if_false,if_true];have hl:=QQ 8 hs;rw[Ry hs,Ab,Wj (by omega),XO]
end Go.Proofs.YtbajlmaijjcbmaaGreatDoor
end
section
namespace Go.Proofs.YtbajlmaijjcbmaaGreatDoor
open Go Go.Gw Go.Ax
theorem RI (n:Int):((toB n).toNat:Int)=n%256:=by
 have h:0≤n%256:=Int.emod_nonneg _ (by decide);have h2:n%256<256:=Int.emod_lt_of_pos _ (by decide);unfold toB;rw[UInt8.toNat_ofNat'];omega
theorem XK {α:Type}(a b:List α):cut (a++b) (a.length:Int) (((a++b).length:Nat):Int)=some b:=by
 unfold cut;rw[if_pos ⟨by omega,by rw[List.length_append]; omega,by omega⟩];simp only[Int.toNat_natCast,List.drop_left];rw[List.take_of_length_le];rw[List.length_append]; omega
theorem Qt (p:g_api_Item→List UInt8){y:g_api_Item}: ∀{l:List g_api_Item},y∈l→(p y).length≤(l.flatMap p).length
 |z::l,h=>by
  rw[List.flatMap_cons,List.length_append];rcases List.mem_cons.1 h with e|h
  ·rw[e]; omega
  ·have:=Qt p h; omega
end Go.Proofs.YtbajlmaijjcbmaaGreatDoor
end
section
namespace Go.Proofs.YtbajlmaijjcbmaaGreatDoor
open Go Go.Gw Go.Ax
def s8 (a:UInt8):Int:=if a.toNat<128 then(a.toNat:Int)else(a.toNat:Int)-256
def vfold (s:Int)(l:List UInt8):Int:=l.foldl (fun s b=>s*256+(b.toNat:Int)) s
def wfold (s:Int)(l:List UInt8):Int:=l.foldl (fun s b=>w64 (s*256+(b.toNat:Int))) s
def sval:List UInt8→Int
 | []=>0
 |a::l=>vfold (s8 a) l
def asintV:List UInt8→Int
 | []=>0
 |a::l=>wfold (s8 a) l
end Go.Proofs.YtbajlmaijjcbmaaGreatDoor
end
section
namespace Go.Proofs.YtbajlmaijjcbmaaGreatDoor
open Go Go.Gw Go.Ax
def sgn8 (a:UInt8):UInt8:=if a.toNat<128 then 0 else 255
end Go.Proofs.YtbajlmaijjcbmaaGreatDoor
end
section
namespace Go.Proofs.YtbajlmaijjcbmaaGreatDoor
open Go Go.Gw Go.Ax
theorem V0 {s:ByteArray}{i:Nat}{b:UInt8}(h:s.data.toList[i]? =some b):s.get! i=b:=by
 have h2:s.data[i]? =some b:=by rw[←Array.getElem?_toList]; exact h
 show s.data[i]! =b;rw[getElem!_def,h2]
theorem dec_lo {s:ByteArray}{i:Nat}{b:UInt8}(h:s.data.toList[i]? =some b)(hb:b.toNat<128):Utf8.decode s i=(b.toNat,1):=by
 unfold Utf8.decode;simp only[Nat.add_zero,V0 h];rw[if_pos hb]
theorem dec_hi {s:ByteArray}{i:Nat}{b:UInt8}(h:s.data.toList[i]? =some b)(hb: ¬b.toNat<128):128≤(Utf8.decode s i).1:=by
 unfold Utf8.decode;simp only[Nat.add_zero,V0 h];rw[if_neg hb];have he:Utf8.runeError=65533:=rfl;split
 ·split
  ·assumption
  ·simp[he]
 ·split
  ·split
   ·rename_i h1;simp only[Bool.and_eq_true,decide_eq_true_eq]at h1;show 128≤_;omega
   ·simp[he]
  ·split
   ·split
    ·rename_i h1;simp only[Bool.and_eq_true,decide_eq_true_eq]at h1;show 128≤_;omega
    ·simp[he]
   ·simp[he]
def GO (c:UInt8):Bool:=(decide (97≤c.toNat)&&decide (c.toNat≤122))||(decide (48≤c.toNat)&&decide (c.toNat≤57))
def UY (c:UInt8):Bool:=c.toNat==45||GO c
def Q1:List UInt8→Bool
 | []=>true
 | [c]=>GO c
 |c::d::r=>UY c&&Q1 (d::r)
def Nk:List UInt8→Bool
 | []=>false
 | [c]=>GO c
 |c::d::r=>(GO c||c.toNat==95)&&Q1 (d::r)&&decide ((c::d::r).length≤16)
theorem OF (n:Nat)(c:UInt8)(h:n=c.toNat):BZ (n:Int)=some (GO c):=by
 subst h;unfold BZ GO;rw[Cg];congr 1;have e: ∀k:Nat,decide ((k:Int)≤(c.toNat:Int))=decide (k≤c.toNat):=fun k=>by rw[decide_eq_decide]; omega
 have e2: ∀k:Nat,decide ((c.toNat:Int)≤(k:Int))=decide (c.toNat≤k):=fun k=>by rw[decide_eq_decide]; omega
 rw[←e 97,←e2 122,←e 48,←e2 57];rfl
theorem TJ (n:Nat)(h:128≤n):BZ (n:Int)=some false:=by
 unfold BZ;rw[Cg,decide_eq_false (show¬(n:Int)≤122 from by omega),decide_eq_false (show¬(n:Int)≤57 from by omega),Bool.and_false,Bool.and_false];rfl
theorem Rf (n:Nat)(c:UInt8)(h:n=c.toNat):BW (n:Int)=some (UY c):=by
 unfold BW UY;rw[OF n c h,Tr,Ab];subst h;have e:((c.toNat:Int)==45)=(c.toNat==45):=by rw[Bool.eq_iff_iff,beq_iff_eq,beq_iff_eq]; omega
 rw[e];cases c.toNat==45<;>simp
theorem UX (n:Nat)(h:128≤n):BW (n:Int)=some false:=by
 unfold BW;rw[TJ n h,Tr,Ab];have e:((n:Int)==45)=false:=by rw[beq_eq_false_iff_ne]; omega
 rw[e]; rfl
theorem Xq (c:UInt8)(h: ¬c.toNat<128):GO c=false∧UY c=false∧(c.toNat==95)=false:=by
 have e1:GO c=false:=by
  unfold GO;rw[decide_eq_false (show¬c.toNat≤122 from by omega),decide_eq_false (show¬c.toNat≤57 from by omega),Bool.and_false,Bool.and_false]; rfl
 have e2:(c.toNat==45)=false:=by rw[beq_eq_false_iff_ne]; omega
 refine⟨e1,?_,by rw[beq_eq_false_iff_ne]; omega⟩;unfold UY;rw[e1,e2]; rfl
theorem LQ {s:ByteArray}{i:Nat}{c:UInt8}(hs:s.size≤16)(h:s.data.toList[i]? =some c):
  AJ s i=some (if(if i+1=s.size then GO c else if i=0 then GO c||c.toNat==95 else UY c)=true then .inl (i+1)else .inr (.inr false)):=by
 have hi:i<s.size:=by
  have:=(List.getElem?_eq_some_iff.1 h).1;rw[BA]at this;exact this
 have hw:w64 ((s.size:Int)-1)=(s.size:Int)-1:=Ec (by omega) (by omega);unfold AJ;rw[if_pos hi,Cg,hw];by_cases hb:c.toNat<128
 ·rw[dec_lo h hb,OF c.toNat c rfl,Rf c.toNat c rfl,Tr,Ab,Cg,Cg,Tr,Ab,Cg,Tr,Ab];have e95:((c.toNat:Int)==95)=(c.toNat==95):=by rw[Bool.eq_iff_iff,beq_iff_eq,beq_iff_eq]; omega
  by_cases hl:i+1=s.size
  ·have el:((i:Int)==(s.size:Int)-1)=true:=by rw[beq_iff_eq]; omega
   rw[if_pos hl,el];cases GO c<;>rfl
  ·have el:((i:Int)==(s.size:Int)-1)=false:=by rw[beq_eq_false_iff_ne]; omega
   rw[if_neg hl,el];by_cases h0:i=0
   ·have e0:((i:Int)==0)=true:=by rw[beq_iff_eq]; omega
    rw[if_pos h0,e0];show(if(true&&((true&&GO c)||((c.toNat:Int)==95)))=true then _ else _)=_;rw[e95];cases GO c<;>cases c.toNat==95<;>rfl
   ·have e0:((i:Int)==0)=false:=by rw[beq_eq_false_iff_ne]; omega
    rw[if_neg h0,e0];cases UY c<;>rfl
 ·have hd:=dec_hi h hb;generalize Utf8.decode s i=q at hd;obtain⟨n,k⟩:=q;have hn:128≤n:=hd;obtain⟨b1,b2,b3⟩:=Xq c hb;show(Ae (gu _ (BZ (n:Int))) _)=_;rw[TJ n hn,Tr,Ab,Cg,Bool.and_false,Bool.and_false,if_neg (by decide),Cg];have e95:((n:Int)==95)=false:=by rw[beq_eq_false_iff_ne]; omega
  by_cases hl:i+1=s.size
  ·have el:((i:Int)==(s.size:Int)-1)=true:=by rw[beq_iff_eq]; omega
   rw[if_pos hl,el,b1];rfl
  ·have el:((i:Int)==(s.size:Int)-1)=false:=by rw[beq_eq_false_iff_ne]; omega
   rw[if_neg hl,el,if_neg (by decide)];rw[Tr,Ab,Cg];show(if(((i:Int)==0)&&((((i:Int)==0)&&false)||((n:Int)==95)))=true then _ else Ae (gu _ (BW (n:Int))) _)=_;rw[UX n hn,Tr,Ab,e95,Bool.and_false,Bool.or_false,Bool.and_false,if_neg (by decide)];by_cases h0:i=0
   ·have e0:((i:Int)==0)=true:=by rw[beq_iff_eq]; omega
    rw[if_pos h0,e0,b1,b3];rfl
   ·have e0:((i:Int)==0)=false:=by rw[beq_eq_false_iff_ne]; omega
    rw[if_neg h0,e0,b2];rfl
theorem Td {s:ByteArray}{i:Nat}(h: ¬i<s.size):AJ s i=some (.inr (.inl i)):=by
 unfold AJ;rw[if_neg h]
theorem LP {s:ByteArray}(hs:s.size≤16): ∀(r:List UInt8) (i n:Nat),1≤i→s.data.toList.drop i=r→i≤s.size→r.length<n→∃z,iter (AJ s) n i=some (if Q1 r=true then .inl z else .inr false)
 |r,i,0,_,_,_,h=>by omega
 | [],i,n+1,_,h,hi,_=>by
  have hl:s.data.toList.length≤i:=List.drop_eq_nil_iff.1 h;rw[BA]at hl;refine⟨i,?_⟩;show Ae (AJ s i) _=_;rw[Td (by omega)];rfl
 |c::r,i,n+1,h1,h,hi,hn=>by
  have hc:s.data.toList[i]? =some c:=by
   have:(s.data.toList.drop i)[0]? =some c:=by rw[h]; rfl
   simpa using this
  have hlt:i<s.size:=by
   have:=(List.getElem?_eq_some_iff.1 hc).1;rw[BA]at this; exact this
  have hr:s.data.toList.drop (i+1)=r:=by rw[←List.drop_drop,h]; rfl
  have hlen:r.length=s.size-(i+1):=by rw[←hr,List.length_drop,BA]
  obtain⟨z,ih⟩:=LP hs r (i+1) n (by omega) hr (by omega) (by rw[List.length_cons]at hn; omega);refine⟨z,?_⟩;show Ae (AJ s i) _=_;rw[LQ hs hc,if_neg (show¬i=0 from by omega)];cases r with
  |nil=>
   rw[if_pos (show i+1=s.size from by rw[List.length_nil]at hlen; omega)];show _=some (if GO c=true then _ else _);cases GO c with
   |false=>rfl
   |true=>rw[if_pos rfl,if_pos rfl]; exact ih
  |cons d r=>
   rw[if_neg (show¬i+1=s.size from by rw[List.length_cons]at hlen; omega)];show _=some (if(UY c&&Q1 (d::r))=true then _ else _);cases UY c with
   |false=>rfl
   |true=>
    rw[if_pos rfl,Bool.true_and];exact ih
theorem UT (s:ByteArray):CF s=some (Nk s.data.toList):=by
 unfold CF;cases hl:s.data.toList with
 |nil=>
  have:eqS s (⟨#[]⟩:ByteArray)=true:=by unfold eqS; rw[hl]; rfl
  rw[this,Bool.true_or,if_pos rfl];rfl
 |cons c r=>
  have h0:eqS s (⟨#[]⟩:ByteArray)=false:=by unfold eqS; rw[hl]; rfl
  have hz:s.size=r.length+1:=by rw[←BA,hl]; rfl
  rw[h0,Bool.false_or];by_cases hs:s.size≤16
  ·rw[decide_eq_false (show¬(s.size:Int)>16 from by omega),if_neg (by decide)];have hc:s.data.toList[0]? =some c:=by rw[hl]; rfl
   have hd:s.data.toList.drop 1=r:=by rw[hl]; rfl
   have e': ∀n,r.length<n→∃z,iter (AJ s) (n+1) 0=some (if Nk (c::r)=true then .inl z else .inr false):=by
    intro n hn;obtain⟨z,ht⟩:=LP hs r 1 n (by decide) hd (by omega) hn;refine⟨z,?_⟩;show Ae (AJ s 0) _=_;rw[LQ hs hc,if_pos rfl];cases r with
    |nil=>
     rw[if_pos (show 0+1=s.size from by rw[hz]; rfl)];show _=some (if GO c=true then _ else _);cases GO c with
     |false=>rfl
     |true=>rw[if_pos rfl,if_pos rfl]; exact ht
    |cons d r=>
     rw[if_neg (show¬0+1=s.size from by rw[hz,List.length_cons]; omega)];show _=some (if((GO c||c.toNat==95)&&Q1 (d::r)&&decide ((c::d::r).length≤16))=true then _ else _);rw[decide_eq_true (show(c::d::r).length≤16 from by rw[List.length_cons,←hz]; exact hs),Bool.and_true];cases GO c||c.toNat==95 with
     |false=>rfl
     |true=>
      rw[if_pos rfl,Bool.true_and];exact ht
   obtain⟨z,e⟩: ∃z,iter (AJ s) Dh 0=some (if Nk (c::r)=true then .inl z else .inr false):=e' 18446744073709551615 (by omega);rw[e,Ab];cases Nk (c::r)<;>rfl
  ·rw[decide_eq_true (show(s.size:Int)>16 from by omega),if_pos rfl];cases r with
   |nil=>rw[hz]at hs; simp at hs
   |cons d r=>
    show _=some ((GO c||c.toNat==95)&&Q1 (d::r)&&decide ((c::d::r).length≤16));rw[decide_eq_false (show¬(c::d::r).length≤16 from by rw[List.length_cons,←hz]; exact hs),Bool.and_false]
end Go.Proofs.YtbajlmaijjcbmaaGreatDoor
end
section
namespace Go.Proofs.YtbajlmaijjcbmaaGreatDoor
open Go Go.Gw Go.Ax
def Cn:List UInt8→List (List UInt8)
 | []=> [[]]
 |c::l=>if c=46 then []::Cn l else match Cn l with|h::t=>(c::h)::t| []=> [[c]]
theorem O5 (c:UInt8)(l:List UInt8):Cn (c::l)=if c=46 then []::Cn l else match Cn l with|h::t=>(c::h)::t| []=> [[c]]:=rfl
theorem JY: ∀l:List UInt8,Cn l≠[]
 | []=>by simp[Cn]
 |c::l=>by
  unfold Cn;split
  ·simp
  ·split<;>simp
theorem Oa: ∀(p r:List UInt8),(46:UInt8)∉p→Cn (p++46::r)=p::Cn r
 | [],r,_=>by simp[Cn]
 |c::p,r,h=>by
  have hc:c≠46:=fun e=>h (by rw[e]; exact List.mem_cons_self);have ih:=Oa p r fun q=>h (List.mem_cons_of_mem _ q);show Cn (c::(p++46::r))=_;rw[O5,if_neg hc,ih]
theorem N9: ∀(p:List UInt8),(46:UInt8)∉p→Cn p=[p]
 | [],_=>rfl
 |c::p,h=>by
  have hc:c≠46:=fun e=>h (by rw[e]; exact List.mem_cons_self);have ih:=N9 p fun q=>h (List.mem_cons_of_mem _ q);unfold Cn;rw[if_neg hc,ih]
theorem KF: ∀(l:List UInt8),(Cn l).length=l.count 46+1
 | []=>rfl
 |c::l=>by
  have ih:=KF l;unfold Cn;by_cases hc:c=46
  ·rw[if_pos hc,hc,List.count_cons_self,List.length_cons,ih]
  ·rw[if_neg hc,List.count_cons_of_ne hc];cases h:Cn l with
   |nil=>exact absurd h (JY l)
   |cons a t=>rw[h]at ih; simpa using ih
theorem K0: ∀(l:List UInt8) (c:UInt8),(Lib.indexByte l c= -1∧c∉l)∨∃p r,l=p++c::r∧c∉p∧Lib.indexByte l c=(p.length:Int)
 | [],c=> .inl ⟨rfl,by simp⟩
 |b::l,c=>by
  unfold Lib.indexByte;cases hb:b==c with
  |true=>
   have e:b=c:=by simpa using hb
   exact .inr ⟨[],l,by rw[e]; rfl,by simp,rfl⟩
  |false=>
   have e:b≠c:=by simpa using hb
   rcases K0 l c with ⟨h1,h2⟩|⟨p,r,h1,h2,h3⟩
   ·refine .inl ⟨by rw[h1]; rfl,?_⟩;intro h;rcases List.mem_cons.1 h with q|q
    ·exact e q.symm
    ·exact h2 q
   ·refine .inr ⟨b::p,r,by rw[h1]; rfl,?_,?_⟩
    ·intro h;rcases List.mem_cons.1 h with q|q
     ·exact e q.symm
     ·exact h2 q
    ·rw[h3];have:((p.length:Int)== -1)=false:=by rw[beq_eq_false_iff_ne]; omega
     rw[if_neg (by decide),if_neg (by rw[this]; decide),List.length_cons];omega
theorem I3 (s:ByteArray)(a b:Nat):(s.extract a b).data.toList=(s.data.toList.take b).drop a:=by
 rw[ByteArray.data_extract,Array.toList_extract,List.extract_eq_take_drop,List.take_drop];by_cases h:a≤b
 ·rw[Nat.add_sub_cancel' h]
 ·rw[Nat.sub_eq_zero_of_le (by omega),Nat.add_zero];rw[List.drop_eq_nil_of_le (by rw[List.length_take]; omega),List.drop_eq_nil_of_le (by rw[List.length_take]; omega)]
def Vn (l:List UInt8):Bool:=(Cn l).all Nk
theorem b5_eq (b:ByteArray)(s:Unit×Nat):Be b s=some ((),if Nk b.data.toList=true then 0 else 1):=by
 unfold Be;rw[UT,Ab];cases Nk b.data.toList<;>rfl
def cbk:(Unit×Nat)→ByteArray→Option (Bool×(Unit×Nat)):=fun(s:(Unit)×Nat) (b0:ByteArray)=>if s.2=0 then Ae (Be b0 s) fun y=>some (y.2==0,y)else none
theorem Wb (b:ByteArray):cbk ((),0) b=some (Nk b.data.toList,((),if Nk b.data.toList=true then 0 else 1)):=by
 unfold cbk;rw[if_pos rfl,b5_eq,Ab];cases Nk b.data.toList<;>rfl
theorem Oy (s:ByteArray)(h:s.size≤1000):Bb s (⟨#[46]⟩:ByteArray)=some (Tj s 46):=by
 obtain⟨x,hx,h1,h2⟩:=Oz s;unfold Bb AD AY;rw[Cg];cases he:eqS (⟨#[46]⟩:ByteArray) s with
 |true=>
  have e:=(HV.1 he);subst e;rfl
 |false=>rfl
theorem LI: ∀(m:Nat) (s:ByteArray) (n:Nat),s.size≤m→m<n→m≤100→
  ∃z:ByteArray,iter (Au cbk (⟨#[46]⟩:ByteArray) 0) n (s,((),0))=some (if(Cn s.data.toList).dropLast.all Nk=true then .inl (z,((),0))else .inr ((⟨#[46]⟩:ByteArray),z,0,((),1)))∧
   ((Cn s.data.toList).dropLast.all Nk=true→some z.data.toList=(Cn s.data.toList).getLast?)
 |m,s,0,_,h,_=>by omega
 |m,s,n+1,hs,hn,hm=>by
  have hx:Bb s (⟨#[46]⟩:ByteArray)=some (Tj s 46):=Oy s (by omega);show∃z,Ae (Au cbk (⟨#[46]⟩:ByteArray) 0 (s,((),0))) _=_∧_;rcases K0 s.data.toList 46 with ⟨h1,h2⟩|⟨p,r,h1,h2,h3⟩
  ·have e:Au cbk (⟨#[46]⟩:ByteArray) 0 (s,((),0))=some (.inr (.inl (s,((),0)))):=by
    unfold Au;show Ae (Bb s (⟨#[46]⟩:ByteArray)) _=_;rw[hx,Ab,show Tj s 46= -1 from h1];rfl
   rw[e,N9 _ h2];exact⟨s,rfl,fun _=>rfl⟩
  ·have hz:s.size=p.length+1+r.length:=by rw[←BA,h1,List.length_append,List.length_cons]; omega
   have e1:Ma s 0 (w64 ((p.length:Int)+0))=some (s.extract 0 p.length):=by
    rw[Int.add_zero,Ec (by omega) (by omega),Fx (by omega) (by omega) (by omega)];rfl
   have e2:Ma s (w64 ((p.length:Int)+((⟨#[46]⟩:ByteArray).size:Int))) (s.size:Int)=some (s.extract (p.length+1) s.size):=by
    have:((⟨#[46]⟩:ByteArray).size:Int)=1:=rfl;rw[this,Ec (by omega) (by omega),Fx (by omega) (by omega) (by omega)];rfl
   have l1:(s.extract 0 p.length).data.toList=p:=by
    rw[I3,h1,List.take_left]; rfl
   have l2:(s.extract (p.length+1) s.size).data.toList=r:=by
    rw[I3,←BA,List.take_length,h1];rw[←List.drop_drop,List.drop_left]; rfl
   have e:Au cbk (⟨#[46]⟩:ByteArray) 0 (s,((),0))=some (if Nk p=true then .inl (s.extract (p.length+1) s.size,((),0))else .inr (.inr ((⟨#[46]⟩:ByteArray),s,0,((),1)))):=by
    unfold Au;show Ae (Bb s (⟨#[46]⟩:ByteArray)) _=_;rw[hx,Ab,show Tj s 46=(p.length:Int)from h3,if_neg (by rw[decide_eq_true_eq]; omega),e1,Ab,Wb,Ab,l1];cases hlab:Nk p with
    |false=>rfl
    |true=>
     rw[if_neg (by simp)];dsimp only;rw[e2,Ab];rfl
   rw[e,h1,Oa p r h2];have hsz:(s.extract (p.length+1) s.size).size=r.length:=by rw[←BA,l2]
   obtain⟨z,ih1,ih2⟩:=LI (m-1) (s.extract (p.length+1) s.size) n (by omega) (by omega) (by omega);rw[l2]at ih1 ih2;have hd:(p::Cn r).dropLast=p::(Cn r).dropLast:=by
    cases hq:Cn r with
    |nil=>exact absurd hq (JY r)
    |cons a t=>rfl
   have hg:(p::Cn r).getLast? =(Cn r).getLast? :=by
    cases hq:Cn r with
    |nil=>exact absurd hq (JY r)
    |cons a t=>rfl
   rw[hd,hg,List.all_cons];cases Nk p with
   |false=>exact⟨s,rfl,fun h=>by cases h⟩
   |true=>exact⟨z,ih1,ih2⟩
theorem ND {α:Type}(f:α→Bool): ∀(l:List α) (x:α),l.getLast? =some x→l.all f=(l.dropLast.all f&&f x)
 | [],x,h=>by cases h
 | [a],x,h=>by cases h; simp
 |a::b::l,x,h=>by
  have ih:=ND f (b::l) x (by simpa using h);show(f a&&(b::l).all f)=((f a&&(b::l).dropLast.all f)&&f x);rw[ih,Bool.and_assoc]
def isB (l:List UInt8)(n k:Nat):Bool:=decide (l.length≤k)&&decide ((Cn l).length≤n)&&Vn l
theorem SS (s:ByteArray)(n k:Nat)(hk:k≤100):By s (n:Int) (k:Int)=some (isB s.data.toList n k):=by
 unfold By isB;have hz:=BA s;by_cases h1:s.size≤k
 ·rw[decide_eq_false (show¬(s.size:Int)>k from by omega),if_neg (by decide),decide_eq_true (show s.data.toList.length≤k from by omega)];have ec:DG s (⟨#[46]⟩:ByteArray)=some ((s.data.toList.count 46:Nat):Int):=rfl;rw[ec,Ab,Ab,KF];by_cases h2:s.data.toList.count 46+1≤n
  ·rw[decide_eq_false (show¬((s.data.toList.count 46:Nat):Int)≥(n:Int)from by omega),if_neg (by decide),decide_eq_true h2];obtain⟨z,e1,e2⟩:=LI 100 s Dh (by omega) (by have:=Ek; omega) (by decide);have es:A0 cbk (⟨#[46]⟩:ByteArray) s 0 ((),0)=some ((⟨#[46]⟩:ByteArray),z,0,((),if Vn s.data.toList=true then 0 else 1)):=by
    unfold A0;rw[if_neg (by decide),e1,Ab];unfold Vn;cases hd:(Cn s.data.toList).dropLast.all Nk with
    |true=>
     have hlast:=(e2 hd).symm;rw[ND Nk _ _ hlast,hd,if_pos rfl];show Ae (cbk ((),0) z) _=_;rw[Wb,Ab,Bool.true_and]
    |false=>
     have:(Cn s.data.toList).all Nk=false:=by
      cases hl:(Cn s.data.toList).getLast? with
      |none=>exact absurd (List.getLast?_eq_none_iff.1 hl) (JY _)
      |some x=>rw[ND Nk _ x hl,hd]; rfl
     rw[this];rfl
   show Ae (A0 cbk (⟨#[46]⟩:ByteArray) s 0 ((),0)) _=_;rw[es,Ab];cases Vn s.data.toList<;>rfl
  ·rw[decide_eq_true (show((s.data.toList.count 46:Nat):Int)≥(n:Int)from by omega),if_pos rfl,decide_eq_false h2];rfl
 ·rw[decide_eq_true (show(s.size:Int)>k from by omega),if_pos rfl,Ab,if_pos rfl,decide_eq_false (show¬s.data.toList.length≤k from by omega)];rfl
end Go.Proofs.YtbajlmaijjcbmaaGreatDoor
end
section
namespace Go.Proofs.YtbajlmaijjcbmaaGreatDoor
open Go Go.Gw Go.Ax
theorem BX {α:Type}{l:List α}{i:Nat}{x:α}(h:l[i]? =some x):idx l (i:Int)=some x:=by
 unfold idx;rw[if_pos (by omega)];exact h
end Go.Proofs.YtbajlmaijjcbmaaGreatDoor
end
section
namespace Go.Proofs.YtbajlmaijjcbmaaGreatDoor
open Go Go.Gw Go.Ax
def toL (s:ByteArray):List UInt8:=s.data.toList
theorem Ho {α:Type}(b:Nat){xs ys:List α}(h:(xs.length+ys.length)*b≤140737488355328)(h1:xs.length+ys.length≤140737488355328):app b xs ys=some (xs++ys):=by unfold app; rw[if_pos ⟨h,h1⟩]
end Go.Proofs.YtbajlmaijjcbmaaGreatDoor
end
section
namespace Go.Proofs.YtbajlmaijjcbmaaGreatDoor
open Go Go.Gw Go.Ax
def Ut:List UInt8→Bool
 |a::b::r=>a==42&&b==46&&isB r 7 62
 |_=>false
end Go.Proofs.YtbajlmaijjcbmaaGreatDoor
end
section
namespace Go.Proofs.YtbajlmaijjcbmaaGreatDoor
open Go Go.Gw Go.Ax
theorem Du {α:Type}{l:List α}{i:Nat}{c:α}{r:List α}(h:l.drop i=c::r):l[i]? =some c∧l.drop (i+1)=r∧i<l.length:=by
 have h1:l[i]? =some c:=by
  have:(l.drop i)[0]? =some c:=by rw[h]; rfl
  simpa using this
 exact⟨h1,by rw[←List.drop_drop,h]; rfl,(List.getElem?_eq_some_iff.1 h1).1⟩
theorem Jk {i:Nat}(h:i≤1000000):w64 ((i:Int)+1)=((i+1:Nat):Int):=by rw[Ec (by omega) (by omega)]; omega
def plainB (c:UInt8):Bool:=decide (33≤c.toNat)&&decide (c.toNat≤126)
def textB (l:List UInt8):Bool:=decide (1≤l.length)&&decide (l.length≤64)&&l.all plainB
def nodB:List ByteArray→List ByteArray→Bool
 |_,[]=>true
 |met,s::l=> !(met.any (eqS s))&&nodB (met++[s]) l
structure FewP (c:g_api_Cert):Prop where
 issuer:c.Issuer.size≤100000
 subject:c.Subject.size≤100000
 names: ∀s∈c.Names,s.size≤100000
 nnames:c.Names.length≤100000
 permit: ∀s∈c.Permit,s.size≤100000
 npermit:c.Permit.length≤100000
 nproms:c.Proms.length≤100000
theorem KV {l:List ByteArray}: ∀(r:List ByteArray) (i n:Nat),l.drop i=r→i≤20→20-i<n→∀t,iter (Bg l) n (i:Int)=some t→t= .inl ()→∀s∈r.take (20-i),s.size≤200
 |r,i,0,_,_,h,_,_,_=>by omega
 | [],i,n+1,h,_,_,t,_,_=>by intro s hs; simp at hs
 |c::r,i,n+1,h,hi,hn,t,ht,ht2=>by
  obtain⟨hc,hr,hlt⟩:=Du h;by_cases h20:i=20
  ·intro s hs; rw[h20]at hs; simp at hs
  have e:Bg l (i:Int)=some (if decide ((c.size:Int)>200)=true then .inr (.inr false)else .inl ((i+1:Nat):Int)):=by
   unfold Bg;rw[decide_eq_true (show(i:Int)<(l.length:Int)from by omega),decide_eq_true (show(i:Int)<20 from by omega),show(true&&true)=true from rfl,if_pos rfl,BX hc,Ab,Jk (by omega)];cases decide ((c.size:Int)>200)<;>rfl
  obtain⟨y,hy,hq⟩:=Bn ht;rw[e]at hy;have hy:=Option.some.inj hy;cases hd:decide ((c.size:Int)>200)with
  |true=>
   rw[hd,if_pos rfl]at hy;subst hy;rcases hq with ⟨s',e',_⟩|e'
   ·cases e'
   ·rw[ht2]at e'; cases e'
  |false=>
   rw[hd,if_neg (by decide)]at hy;subst hy;rcases hq with ⟨s',e',ht'⟩|e'
   ·have e':=Sum.inl.inj e';subst e';have ih:=KV r (i+1) n hr (by omega) (by omega) t ht' ht2;intro s hs;rw[show 20-i=(20-(i+1))+1 from by omega,List.take_succ_cons]at hs;rcases List.mem_cons.1 hs with q|q
    ·rw[q];have:=of_decide_eq_false hd;omega
    ·exact ih s q
   ·cases e'
theorem On {l:List ByteArray}(h:Ci l=some true):l.length≤16∧∀s∈l,s.size≤200:=by
 unfold Ci at h;obtain⟨t,ht,h⟩:=Aa h;cases t with
 |inr b=>
  have hb:b=true:=Option.some.inj h;subst hb;exfalso;have key: ∀(n:Nat) (i:Int) (t:Unit⊕Bool),iter (Bg l) n i=some t→t≠ .inr true:=by
   intro n;induction n with
   |zero=>intro i t h; cases h
   |succ n ih=>
    intro i t h;obtain⟨y,hy,hq⟩:=Bn h;unfold Bg at hy;split at hy
    ·obtain⟨x,hx,hy⟩:=Aa hy;split at hy
     ·cases hy;rcases hq with ⟨s',e',_⟩|e'
      ·cases e'
      ·cases e';intro q;cases q
     ·cases hy;rcases hq with ⟨s',e',h'⟩|e'
      ·exact ih _ t h'
      ·cases e'
    ·cases hy;rcases hq with ⟨s',e',_⟩|e'
     ·cases e'
     ·cases e';intro q;cases q
  exact key Dh 0 _ ht rfl
 |inl u=>
  have hl:=of_decide_eq_true (Option.some.inj (AU h));have h20:=KV l 0 Dh rfl (by decide) (by have:=Ek; omega) _ ht rfl;refine⟨by omega,fun s hs=>h20 s ?_⟩;rw[List.take_of_length_le (by omega)];exact hs
theorem few_ok {c:g_api_Cert}(h:Eo c=some true):FewP c:=by
 unfold Eo at h;obtain⟨x1,h1,h⟩:=Aa h;obtain⟨x2,h2,h⟩:=Aa h;have h:=Option.some.inj (AU h);simp only[Bool.and_eq_true,decide_eq_true_eq]at h;obtain⟨⟨⟨⟨q1,q2⟩,q3⟩,q4⟩,q5⟩:=h;subst q3 q4;rw[decide_eq_true q1,decide_eq_true q2]at h1 h2;obtain⟨a1,a2⟩:=On h1;obtain⟨b1,b2⟩:=On h2;exact⟨by omega,by omega,fun s hs=>Nat.le_trans (a2 s hs) (by decide),by omega,fun s hs=>Nat.le_trans (b2 s hs) (by decide),by omega,by omega⟩
end Go.Proofs.YtbajlmaijjcbmaaGreatDoor
end
section
namespace Go.Proofs.YtbajlmaijjcbmaaGreatDoor
open Go Go.Gw Go.Ax
def stopB (a:UInt8)(rest:Int):Bool:=(rest==0&&decide (a.toNat<128))||(rest== -1&&decide (128≤a.toNat))
structure Fits (c:g_api_Cert):Prop where
 few:FewP c
 serial: -9223372036854775808≤c.Serial∧c.Serial≤9223372036854775807
 frm: -9223372036854775808≤c.From∧c.From≤9223372036854775807
 til: -9223372036854775808≤c.Until∧c.Until≤9223372036854775807
 depth: -9223372036854775808≤c.Depth∧c.Depth≤9223372036854775807
 proms: ∀p∈c.Proms,(-9223372036854775808≤p.Log∧p.Log≤9223372036854775807)∧(-9223372036854775808≤p.At∧p.At≤9223372036854775807)
end Go.Proofs.YtbajlmaijjcbmaaGreatDoor
end
section
namespace Go.Proofs.YtbajlmaijjcbmaaGreatDoor
open Go Go.Gw Go.Ax
def kindV (c:g_api_Cert):Bool:=if c.Ca=true then textV c.Subject&&((c.Names.length:Int)==0)&&decide (c.Depth≥0)&&decide (c.Depth≤4)&&listV patV c.Permit 0 8 else eqS c.Subject (⟨#[]⟩:ByteArray)&&listV nameV c.Names 1 8&&(c.Depth==0)&&((c.Permit.length:Int)==0)
end Go.Proofs.YtbajlmaijjcbmaaGreatDoor
end
section
namespace Go.Proofs.YtbajlmaijjcbmaaGreatDoor
open Go Go.Gw Go.Ax
def smallI:Nat→g_api_Item→Prop
 |0,_=>True
 |d+1,x=>x.B.length≤1000000∧x.L.length≤1000000∧∀y∈x.L,smallI d y
end Go.Proofs.YtbajlmaijjcbmaaGreatDoor
end
section
namespace Go.Proofs.YtbajlmaijjcbmaaGreatDoor
open Go Go.Gw Go.Ax
def fewI:Nat→g_api_Item→Prop
 |0,_=>True
 |d+1,x=>x.L.length≤100000∧∀y∈x.L,fewI d y
def truthV:List UInt8→Bool
 | []=>false
 |a::_=>(a.toNat:Int) !=0
abbrev Its:=List g_api_Item
def UK {α:Type}(tag:Int)(v:g_api_Item→α):Its→Option (α×Its)
 | []=>none
 |x::r=>if x.Tag=tag∧mayB 8 x=true then some (v x,r)else none
def Ld (l:Its):Option (Int×Its):=(UK 2 (fun x=>asintV x.B) l).bind fun p=>if 0≤p.1 then some p else none
def XV (l:Its):Option (UInt64×Its):=(Ld l).map fun p=>(toU p.1,p.2)
def sub1 (l:Its):Option (Its×Its):=UK 48 (fun x=>x.L) l
def allT:Its→Option (List ByteArray)
 | []=>some []
 |x::r=>if x.Tag=12∧mayB 8 x=true then(allT r).map fun t=>bs x.B::t else none
def Vs (l:Its):Option (List ByteArray×Its):=(sub1 l).bind fun p=>(allT p.1).map fun t=>(t,p.2)
end Go.Proofs.YtbajlmaijjcbmaaGreatDoor
end
section
namespace Go.Proofs.YtbajlmaijjcbmaaGreatDoor
open Go Go.Gw Go.Ax
theorem VP: ∀{d:Nat} {x:g_api_Item},mayB d x=true→mayB (d+1) x=true
 |0,x,h=>by cases h
 |d+1,x,h=>by
  simp only[mayB,Bool.and_eq_true,List.all_eq_true]at h;unfold mayB;simp only[Bool.and_eq_true,List.all_eq_true];exact⟨h.1,fun y hy=>VP (h.2 y hy)⟩
theorem may_le {d e:Nat}{x:g_api_Item}(h:d≤e)(hm:mayB d x=true):mayB e x=true:=by
 induction h with
 |refl=>exact hm
 |step _ ih=>exact VP ih
theorem SW {d:Nat}{x y:g_api_Item}(h:mayB (d+1) x=true)(hy:y∈x.L):mayB d y=true:=by
 simp only[mayB,Bool.and_eq_true,List.all_eq_true]at h;exact h.2 y hy
def text1:Its→Option (ByteArray×Its):=UK 12 (fun x=>bs x.B)
def bool1:Its→Option (Bool×Its):=UK 1 (fun x=>truthV x.B)
def pre1 (l:Its):Option (g_api_Cert×Its):=(Ld l).bind fun x1=>(text1 x1.2).bind fun x2=>(text1 x2.2).bind fun x3=>(XV x3.2).bind fun x4=>(Vs x4.2).bind fun x5=>(Ld x5.2).bind fun x6=>(Ld x6.2).bind fun x7=>(bool1 x7.2).bind fun x8=>(Ld x8.2).bind fun x9=>(Vs x9.2).bind fun x10=>if x10.2=[]then some (⟨x1.1,x2.1,x3.1,x4.1,x5.1,x6.1,x7.1,x8.1,x9.1,x10.1,[],⟨0,0⟩⟩,[])else none
def few1 (l:Its):Prop:= ∀x∈l,x.L.length≤100000
def prom1 (l:Its):Option (g_api_Promise×Its):=(Ld l).bind fun x1=>(Ld x1.2).bind fun x2=>(XV x2.2).bind fun x3=>(XV x3.2).bind fun x4=>(XV x4.2).bind fun x5=>(XV x5.2).bind fun x6=>some (⟨x1.1,x2.1,(x3.1,x4.1),⟨x5.1,x6.1⟩⟩,x6.2)
structure Nums (c:g_api_Cert):Prop where
 serial:0≤c.Serial∧c.Serial≤1099511627776
 frm:0≤c.From∧c.From≤1099511627776
 til:0≤c.Until∧c.Until≤1099511627776
 key:c.Key.toNat<2305843009213691579
 depth:0≤c.Depth∧c.Depth≤4
 sig:sigB c.Sig=true
 proms: ∀p∈c.Proms,promBC p=true
def bareP (c:g_api_Cert):g_api_Cert:=⟨c.Serial,c.Issuer,c.Subject,c.Key,c.Names,c.From,c.Until,c.Ca,c.Depth,c.Permit,[],⟨0,0⟩⟩
def bareS (c:g_api_Cert):g_api_Cert:=⟨c.Serial,c.Issuer,c.Subject,c.Key,c.Names,c.From,c.Until,c.Ca,c.Depth,c.Permit,c.Proms,⟨0,0⟩⟩
end Go.Proofs.YtbajlmaijjcbmaaGreatDoor
end
section
namespace Go.Proofs.YtbajlmaijjcbmaaGreatDoor
open Go Go.Gw Go.Ax
theorem Jt: ∀{d e:Nat} {x:g_api_Item},mayB d x=true→d≤e→putB e x=putB d x
 |0,e,x,h,_=>by cases h
 |d+1,0,x,_,h=>by omega
 |d+1,e+1,x,h,hd=>by
  have hf: ∀(l:List g_api_Item),(∀y∈l,mayB d y=true)→l.flatMap (putB e)=l.flatMap (putB d):=by
   intro l;induction l with
   |nil=>intro _; rfl
   |cons y l ih=>
    intro hl;rw[List.flatMap_cons,List.flatMap_cons,Jt (hl y List.mem_cons_self) (by omega),ih fun z hz=>hl z (List.mem_cons_of_mem _ hz)]
  have:=hf x.L fun y hy=>SW h hy;show toB x.Tag::(KX (x.B++x.L.flatMap (putB e)).length++(x.B++x.L.flatMap (putB e)))=toB x.Tag::(KX (x.B++x.L.flatMap (putB d)).length++(x.B++x.L.flatMap (putB d)));rw[this]
theorem in_len {d:Nat}{x y:g_api_Item}(h:mayB (d+1) x=true)(hd:d+1≤8)(hy:y∈x.L):(putB 8 y).length≤(putB 8 x).length:=by
 rw[Jt h hd,Jt (SW h hy) (by omega)];have h1:=Qt (putB d) hy;show _≤(toB x.Tag::(KX (x.B++x.L.flatMap (putB d)).length++(x.B++x.L.flatMap (putB d)))).length;have e:(x.B++x.L.flatMap (putB d)).length=x.B.length+(x.L.flatMap (putB d)).length:=List.length_append;rw[List.length_cons,List.length_append,e];omega
def szs (d:Nat)(l:List g_api_Item):Nat:=(l.flatMap (putB d)).length
theorem in_seq {d:Nat}{l:List g_api_Item}(h:mayB (d+1) (P2 l)=true): ∀y∈l,mayB d y=true:=fun y hy=>SW h hy
structure Okc (c:g_api_Cert):Prop where
 form:Form c
 fb:formB c=true
 may:mayB 8 (wholeI c)=true
 len:(putB 8 (wholeI c)).length≤2048
theorem okc {c:g_api_Cert}(h:checkV c=0):Okc c:=by
 unfold checkV at h;cases hf:formB c with
 |false=>rw[hf]at h; simp at h
 |true=>
  rw[hf,if_pos rfl]at h;by_cases h2:mayB 8 (wholeI c)=true∧(putB 8 (wholeI c)).length≤2048
  ·exact⟨TA hf,hf,h2.1,h2.2⟩
  ·rw[if_neg h2]at h; cases h
theorem Okc.chk {c:g_api_Cert}(h:Okc c):checkV c=0:=by
 unfold checkV;rw[h.fb,if_pos rfl,if_pos ⟨h.may,h.len⟩]
theorem UO {c:g_api_Cert}(h:Okc c):mayB 7 (Lg c)=true:=in_seq h.may _ (by simp)
def wholeB (c:g_api_Cert):List UInt8:=putB 8 (wholeI c)
def I7 (c:g_api_Cert):List UInt8:=putB 8 (Lg c)
def preBy (c:g_api_Cert):List UInt8:=putB 8 (preI c)
theorem TZ {c:g_api_Cert}(h:Okc c):(I7 c).length≤2048:=by
 have h1:=in_len (y:=Lg c) h.may (by decide) (by show Lg c∈[Lg c,_]; simp);have h2:=h.len;show(putB 8 (Lg c)).length≤_;omega
theorem Ya {x:g_api_Item}(h:mayB 8 x=true)(hl:(putB 8 x).length≤8192):Gn x=some (putB 8 x,0):=by
 rw[Wj (by omega),if_pos h,if_pos hl]
theorem Vi {c:g_api_Cert}(h:Okc c):Fp c=some (I7 c,0):=by
 unfold Fp Ej;have hl:=TZ h;rw[OI,h.chk,Ab,if_neg (by decide),QG h.form.sized,Ab,Ya (may_le (by decide) (UO h)) (by show(I7 c).length≤_; omega)];rfl
end Go.Proofs.YtbajlmaijjcbmaaGreatDoor
end
section
namespace Go.Proofs.YtbajlmaijjcbmaaGreatDoor
open Go Go.Gw Go.Ax
def readP (x:g_api_Item):Option g_api_Promise:=if x.Tag=48∧mayB 8 x=true then(prom1 x.L).bind fun q=>if q.2=[]then some q.1 else none else none
abbrev BS:=Its×List g_api_Promise
def allP:Its→Option (List g_api_Promise)
 | []=>some []
 |x::r=>(readP x).bind fun p=>(allP r).map fun l=>p::l
def few2D (l:Its):Prop:=few1 l∧∀x∈l,few1 x.L
def few3D (l:Its):Prop:=few1 l∧∀x∈l,few2D x.L
def withP (c:g_api_Cert)(ps:List g_api_Promise):g_api_Cert:=⟨c.Serial,c.Issuer,c.Subject,c.Key,c.Names,c.From,c.Until,c.Ca,c.Depth,c.Permit,ps,c.Sig⟩
def withS (c:g_api_Cert)(s:g_api_Sig):g_api_Cert:=⟨c.Serial,c.Issuer,c.Subject,c.Key,c.Names,c.From,c.Until,c.Ca,c.Depth,c.Permit,c.Proms,s⟩
def body1 (l:Its):Option (g_api_Cert×Its):=(sub1 l).bind fun x1=>(pre1 x1.1).bind fun x2=>(sub1 x1.2).bind fun x3=>(allP x3.1).bind fun ps=>if x3.2=[]then some (withP x2.1 ps,[])else none
def whole1 (l:Its):Option (g_api_Cert×Its):=(sub1 l).bind fun x1=>(body1 x1.1).bind fun x2=>(sub1 x1.2).bind fun x3=>(XV x3.1).bind fun x4=>(XV x4.2).bind fun x5=>if x5.2=[]then(if x3.2=[]then some (withS x2.1 ⟨x4.1,x5.1⟩,[])else none)else none
end Go.Proofs.YtbajlmaijjcbmaaGreatDoor
end
section
namespace Go.Proofs.YtbajlmaijjcbmaaGreatDoor
open Go Go.Gw Go.Ax
end Go.Proofs.YtbajlmaijjcbmaaGreatDoor
end
section
namespace Go.Proofs.YtbajlmaijjcbmaaGreatDoor
open Go Go.Gw Go.Ax
theorem LN (l:List ByteArray):Tot (Ci l):=by
 unfold Ci;obtain⟨t,e,_⟩:=I0 (step:=Bg l) (fun i=>(20-i).toNat) (fun i=>0≤i∧i≤20) (fun _=>True) (fun i hi=>by
  unfold Bg;cases h:(decide (i<(l.length:Int))&&decide (i<20))with
  |false=>exact⟨_,rfl,fun s' h=>(by cases h),fun _ _=>trivial⟩
  |true=>
   simp only[Bool.and_eq_true,decide_eq_true_eq]at h;obtain⟨x,hx⟩: ∃x,idx l i=some x:=by
    unfold idx;rw[if_pos hi.1];exact⟨_,List.getElem?_eq_getElem (by omega)⟩
   rw[if_pos rfl,hx];simp only[Ab];split
   ·exact⟨_,rfl,fun s' h=>(by cases h),fun _ _=>trivial⟩
   ·refine⟨_,rfl,fun s' h=> ?_,fun _ h=>(by cases h)⟩;cases h;rw[Ec (by omega) (by omega)];omega) Dh 0 (by omega) (by have:=Ek; show(20-0:Int).toNat<_; omega)
 refine BK ⟨t,e⟩ fun a _=> ?_;cases a with
 |inl _=>exact tot _
 |inr _=>exact tot _
theorem XF (c:g_api_Cert):Tot (Eo c):=by
 unfold Eo;exact BK (IK fun _=>LN _) fun a _=>BK (IK fun _=>LN _) fun b _=>tot _
end Go.Proofs.YtbajlmaijjcbmaaGreatDoor
end
section
namespace Go.Proofs.YtbajlmaijjcbmaaGreatDoor
open Go Go.Gw Go.Ax
theorem K8 {p q:g_api_Sig}:Gc p q=true↔p=q:=by
 cases p; cases q;unfold Gc;simp
theorem LY {p q:g_api_Promise}:CO p q=true↔p=q:=by
 obtain⟨a,b,⟨c,d⟩,e⟩:=p;obtain⟨a',b',⟨c',d'⟩,e'⟩:=q;unfold CO PD;simp[K8]
end Go.Proofs.YtbajlmaijjcbmaaGreatDoor
end
section
namespace Go.Proofs.YtbajlmaijjcbmaaGreatDoor
open Go Go.Gw Go.Ax
theorem KI {a b:g_api_Cert}(hab:a.Proms.length=b.Proms.length)(hn:a.Proms.length≤100000): ∀(r q:List g_api_Promise) (i f:Nat),a.Proms.drop i=r→b.Proms.drop i=q→r.length<f→
  ∃z,iter (Bc a b) f (i:Int)=some z∧(z= .inl ()↔r=q)∧(z= .inl ()∨z= .inr false)
 |r,q,i,0,_,_,h=>by omega
 | [],q,i,f+1,h,hq,_=>by
  have hl:a.Proms.length≤i:=List.drop_eq_nil_iff.1 h;have hqn:q=[]:=by rw[←hq]; exact List.drop_eq_nil_of_le (by omega)
  have e:Bc a b (i:Int)=some (.inr (.inl ())):=by
   unfold Bc;rw[decide_eq_false (by omega)];rfl
  refine⟨.inl (),?_,by simp[hqn],.inl rfl⟩;show Ae (Bc a b (i:Int)) _=_;rw[e]; rfl
 |p::r,[],i,f+1,h,hq,_=>by
  obtain⟨hc,hr,hlt⟩:=Du h;have:=List.drop_eq_nil_iff.1 hq;omega
 |p::r,s::q,i,f+1,h,hq,hf=>by
  obtain⟨hc,hr,hlt⟩:=Du h;obtain⟨hc2,hq2,hlt2⟩:=Du hq;obtain⟨z,ih,z1,z2⟩:=KI hab hn r q (i+1) f hr hq2 (by rw[List.length_cons]at hf; omega);have e:Bc a b (i:Int)=some (if CO p s=true then .inl ((i+1:Nat):Int)else .inr (.inr false)):=by
   unfold Bc;rw[decide_eq_true (by omega),if_pos rfl,BX hc,Ab,BX hc2,Ab,Jk (by omega)];cases CO p s<;>rfl
  cases hp:CO p s with
  |false=>
   have ne:p::r≠s::q:=fun x=>by
    have:=LY.2 (List.cons.inj x).1;rw[hp]at this; cases this
   refine⟨.inr false,?_,by simp only[reduceCtorEq,false_iff]; exact ne,.inr rfl⟩;show Ae (Bc a b (i:Int)) _=_;rw[e,hp]; rfl
  |true=>
   refine⟨z,?_,?_,z2⟩
   ·show Ae (Bc a b (i:Int)) _=_;rw[e,hp,if_pos rfl];exact ih
   ·rw[z1,LY.1 hp];exact⟨fun x=>by rw[x],fun x=>(List.cons.inj x).2⟩
theorem KJ {a b:List ByteArray}(hab:a.length=b.length)(hn:a.length≤100000): ∀(r q:List ByteArray) (i f:Nat),a.drop i=r→b.drop i=q→r.length<f→
  iter (Bd a b) f (i:Int)=some (if r=q then .inl ()else .inr false)
 |r,q,i,0,_,_,h=>by omega
 | [],q,i,f+1,h,hq,_=>by
  have hl:a.length≤i:=List.drop_eq_nil_iff.1 h;have hqn:q=[]:=by rw[←hq]; exact List.drop_eq_nil_of_le (by omega)
  have e:Bd a b (i:Int)=some (.inr (.inl ())):=by
   unfold Bd;rw[decide_eq_false (by omega)];rfl
  show Ae (Bd a b (i:Int)) _=_;rw[e,hqn,if_pos rfl]; rfl
 |p::r,[],i,f+1,h,hq,_=>by
  obtain⟨hc,hr,hlt⟩:=Du h;have:=List.drop_eq_nil_iff.1 hq;omega
 |p::r,s::q,i,f+1,h,hq,hf=>by
  obtain⟨hc,hr,hlt⟩:=Du h;obtain⟨hc2,hq2,hlt2⟩:=Du hq;have ih:=KJ hab hn r q (i+1) f hr hq2 (by rw[List.length_cons]at hf; omega);have e:Bd a b (i:Int)=some (if eqS p s=true then .inl ((i+1:Nat):Int)else .inr (.inr false)):=by
   unfold Bd;rw[decide_eq_true (by omega),if_pos rfl,BX hc,Ab,BX hc2,Ab,Jk (by omega)];cases eqS p s<;>rfl
  show Ae (Bd a b (i:Int)) _=_;rw[e];cases hp:eqS p s with
  |false=>
   have:p::r≠s::q:=fun x=>by
    have:=HV.2 (List.cons.inj x).1;rw[hp]at this; cases this
   rw[if_neg this]; rfl
  |true=>
   rw[if_pos rfl];show iter (Bd a b) f ((i+1:Nat):Int)=_;rw[ih,HV.1 hp];by_cases hrq:r=q
   ·rw[if_pos hrq,if_pos (by rw[hrq])]
   ·rw[if_neg hrq,if_neg (fun x=>hrq (List.cons.inj x).2)]
theorem Vt {a b:List ByteArray}(hn:a.length≤100000): ∃r,DJ a b=some r∧(r=true↔a=b):=by
 unfold DJ;by_cases h:a.length=b.length
 ·have e:((a.length:Int) !=(b.length:Int))=false:=by rw[h]; simp
  have hl:=KJ h hn a b 0 Dh rfl rfl (by have:=Ek; omega);have hl:iter (Bd a b) Dh 0=some (if a=b then .inl ()else .inr false):=hl;rw[e,if_neg (by decide),hl];by_cases hq:a=b
  ·rw[if_pos hq]; exact⟨true,rfl,by simp[hq]⟩
  ·rw[if_neg hq]; exact⟨false,rfl,by simp[hq]⟩
 ·have e:((a.length:Int) !=(b.length:Int))=true:=by simp; omega
  rw[e,if_pos rfl];exact⟨false,rfl,by simp only[Bool.false_eq_true,false_iff]; exact fun x=>h (by rw[x])⟩
theorem Q2 {a b:g_api_Cert}(ha:a.Proms.length≤100000∧a.Names.length≤100000∧a.Permit.length≤100000): ∃r,DI a b=some r∧(r=true↔a=b):=by
 obtain⟨r1,e1,h1⟩:=Vt (a:=a.Names) (b:=b.Names) ha.2.1;obtain⟨r2,e2,h2⟩:=Vt (a:=a.Permit) (b:=b.Permit) ha.2.2;have hk:((a.Key.toNat:Int) !=(b.Key.toNat:Int))= !(a.Key==b.Key):=by
  show(!((a.Key.toNat:Int)==(b.Key.toNat:Int)))=_;have:((a.Key.toNat:Int)==(b.Key.toNat:Int))=(a.Key==b.Key):=by
   rw[Bool.eq_iff_iff,beq_iff_eq,beq_iff_eq,←UInt64.toNat_inj];omega
  rw[this]
 unfold DI;split
 ·rename_i hc;refine⟨false,rfl,?_⟩;simp only[Bool.false_eq_true,false_iff];rintro rfl;simp only[Bool.or_eq_true,bne_self_eq_false,Bool.not_eq_true',Bool.false_eq_true,false_or,or_false,HV.2 rfl,K8.2 rfl,Bool.true_eq_false]at hc
 ·rename_i hc;rw[hk]at hc;simp only[Bool.or_eq_true,not_or,Bool.not_eq_true,bne_eq_false_iff_eq,Bool.not_eq_false',HV,K8,beq_iff_eq]at hc;obtain⟨⟨⟨⟨⟨⟨⟨⟨⟨q1,q2⟩,q3⟩,q4⟩,q5⟩,q6⟩,q7⟩,q8⟩,q9⟩,q10⟩:=hc;have hlen:a.Proms.length=b.Proms.length:=by omega
  obtain⟨z,hl,z1,z2⟩:=KI hlen ha.1 a.Proms b.Proms 0 Dh rfl rfl (by have:=Ek; omega);have hl:iter (Bc a b) Dh 0=some z:=hl;rw[hl,Ab];rcases z2 with z2|z2
  ·subst z2;have hp:=z1.1 rfl;show∃r,Ae (DJ a.Names b.Names) _=some r∧_;rw[e1,Ab,e2,Tr,Ab];refine⟨_,rfl,?_⟩;have:(r1&&(r1&&r2))=true↔(a.Names=b.Names∧a.Permit=b.Permit):=by
    rw[←h1,←h2];cases r1<;>cases r2<;>simp
   rw[this];constructor
   ·rintro⟨n1,n2⟩;cases a; cases b;simp only at*;simp[q1,q2,q3,q4,q5,q6,q7,q8,q9,hp,n1,n2]
   ·rintro rfl;exact⟨rfl,rfl⟩
  ·subst z2;exact⟨false,rfl,by simp only[Bool.false_eq_true,false_iff]; exact fun x=>absurd (z1.2 (by rw[x])) (by simp)⟩
end Go.Proofs.YtbajlmaijjcbmaaGreatDoor
end
section
namespace Go.Proofs.YtbajlmaijjcbmaaGreatDoor
open Go Go.Gw Go.Ax
theorem EZ {α β:Type}(a:α)(k:α→β):bnd a k=k a:=rfl
theorem HP {σ τ:Type}{step:σ→Option (σ⊕τ)}{s:σ}{t:τ}(n:Nat)(h:iter step n s=some t)(hn:n≤18446744073709551616):iter step Dh s=some t:=Tk h hn
theorem Cr {σ τ:Type}{step:σ→Option (σ⊕τ)}{n:Nat}{s s':σ}(h:step s=some (.inl s')):iter step (n+1) s=iter step n s':=by simp only[iter,h,Ab]
theorem Cu {σ τ:Type}{step:σ→Option (σ⊕τ)}{n:Nat}{s:σ}{t:τ}(h:step s=some (.inr t)):iter step (n+1) s=some t:=by simp only[iter,h,Ab]
theorem QJ {α:Type}(b:Nat){xs ys:List α}(h:(xs.length+ys.length)*b≤140737488355328)(h1:xs.length+ys.length≤140737488355328):app b xs ys=some (xs++ys):=by unfold app; rw[if_pos ⟨h,h1⟩]
theorem Qz {α:Type}{xs:List α}{lo hi:Nat}(h1:lo≤hi)(h2:hi≤xs.length):cut xs (lo:Int) (hi:Int)=some ((xs.drop lo).take (hi-lo)):=by
 unfold cut; rw[if_pos ⟨by omega,by omega,by omega⟩]; simp
def UE (hi lo:UInt64):UInt64:=
 let n:=(lo&&&2305843009213693951)+((FO hi 3)|||(Dm lo 61))
 let k:=(n&&&2305843009213693951)+Dm n 61
 if 2305843009213693951≤k.toNat then k-2305843009213693951 else k
theorem TB (a b:UInt64):Ex a b=some (UE a b):=by
 unfold Ex UE;simp only[EZ];generalize (b&&&2305843009213693951)+((FO a 3)|||(Dm b 61))=n;generalize (n&&&2305843009213693951)+Dm n 61=k;by_cases h:2305843009213693951≤k.toNat
 ·rw[if_pos h,if_pos (decide_eq_true (by omega))]; rfl
 ·rw[if_neg h,if_neg (by simp; omega)]; rfl
def VF (a:UInt64):UInt64:=UE 0 a
theorem VJ (a:UInt64):Da a=some (VF a):=by simp only[Da,TB,Ab]; rfl
def E8 (a b:UInt64):UInt64:=VF (VF a+VF b)
theorem QN (a b:UInt64):Dd a b=some (E8 a b):=by simp only[Dd,VJ,Ab]; rfl
def phi (a0 a1:UInt64):UInt64:=
 let x1:=(a0&&&4294967295)*(a1&&&4294967295)
 let x2:=((Dm a0 32)*(a1&&&4294967295))+(Dm x1 32)
 let x3:=(x2&&&4294967295)+((a0&&&4294967295)*(Dm a1 32))
 (((Dm a0 32)*(Dm a1 32))+(Dm x2 32))+(Dm x3 32)
theorem Nc (a b:UInt64):DU a b=some (phi a b,a*b):=rfl
def pmul (a b:UInt64):UInt64:=UE (phi (VF a) (VF b)) (VF a*VF b)
theorem mul_eq (a b:UInt64):Fj a b=some (pmul a b):=by simp only[Fj,VJ,Nc,TB,Ab]; rfl
def Ls (a:UInt64):UInt64:=
 let b:=pmul a a
 let c:=pmul b b
 let d:=pmul c c
 pmul a (pmul d d)
theorem sev_eq (a:UInt64):CA a=some (Ls a):=by
 simp only[CA,Cs,C7,mul_eq,Ab]; rfl
def LJ (r i:Int):UInt64:=let n:=toU (w64 ((w64 ((w64 (3*r))+i))+1)); n*n*n+7
def VI (r:Int)(s:UInt64×UInt64×UInt64):UInt64:=E8 (E8 (E8 0 (Ls (E8 s.1 (LJ r 0)))) (Ls (E8 s.2.1 (LJ r 1)))) (Ls (E8 s.2.2 (LJ r 2)))
def IU (r:Int)(s:UInt64×UInt64×UInt64):UInt64×UInt64×UInt64:=(E8 (Ls (E8 s.1 (LJ r 0))) (VI r s),E8 (Ls (E8 s.2.1 (LJ r 1))) (VI r s),E8 (Ls (E8 s.2.2 (LJ r 2))) (VI r s))
theorem Ps (i:Int)(a:UInt64)(r:Int)(all:UInt64):DN i a r all=some (Ls (E8 a (LJ r i)),r,E8 all (Ls (E8 a (LJ r i)))):=by
 simp only[DN,EZ,QN,sev_eq,Ab]; rfl
theorem Pr (i:Int)(a:UInt64)(all:UInt64):DM i a all=some (E8 a all,all):=by
 simp only[DM,QN,Ab]
theorem TK {σ:Type}{p:σ→Int→UInt64→Option (UInt64×σ)}{a b c a' b' c':UInt64}{s0 s1 s2 s3:σ}(h0:p s0 0 a=some (a',s1))(h1:p s1 1 b=some (b',s2))(h2:p s2 2 c=some (c',s3)):
  BQ (a,b,c) p s0=some ((a',b',c'),s3):=by
 have e0:idx [a,b,c] 0=some a:=rfl;have e1:idx [a',b,c] 1=some b:=rfl;have e2:idx [a',b',c] 2=some c:=rfl;simp[BQ,Cs,CS,EZ,h0,e0,h1,e1,h2,e2]
theorem Xb (r:Int)(s:UInt64×UInt64×UInt64):EO r s=some (IU r s):=by
 obtain⟨a,b,c⟩:=s;unfold EO;rw[TK (a':=Ls (E8 a (LJ r 0))) (b':=Ls (E8 b (LJ r 1))) (c':=Ls (E8 c (LJ r 2))) (s1:=(r,E8 0 (Ls (E8 a (LJ r 0))))) (s2:=(r,E8 (E8 0 (Ls (E8 a (LJ r 0)))) (Ls (E8 b (LJ r 1)))))
  (s3:=(r,E8 (E8 (E8 0 (Ls (E8 a (LJ r 0)))) (Ls (E8 b (LJ r 1)))) (Ls (E8 c (LJ r 2))))) (by simp only[Ps,Ab]) (by simp only[Ps,Ab]) (by simp only[Ps,Ab])]
 simp only[Ab];change Ae (BQ _ _ (VI r (a,b,c))) _=some (E8 _ (VI r (a,b,c)),E8 _ (VI r (a,b,c)),E8 _ (VI r (a,b,c)));generalize VI r (a,b,c)=all;rw[TK (s1:=all) (s2:=all) (s3:=all) (a':=E8 (Ls (E8 a (LJ r 0))) all) (b':=E8 (Ls (E8 b (LJ r 1))) all) (c':=E8 (Ls (E8 c (LJ r 2))) all) (by simp only[Pr,Ab]) (by simp only[Pr,Ab]) (by simp only[Pr,Ab])];rfl
def Rp (s:UInt64×UInt64×UInt64):UInt64×UInt64×UInt64:=IU 7 (IU 6 (IU 5 (IU 4 (IU 3 (IU 2 (IU 1 (IU 0 s)))))))
theorem SU (s:UInt64×UInt64×UInt64):G4 s=some (Rp s):=by
 simp only[G4,Cs,Xb,Ab];rfl
def ple:List UInt8→Nat→UInt64→UInt64
 | [],_,s=>s
 |b::bs,i,s=>ple bs (i+1) (s|||FO (toU (b.toNat:Int)) (8*i))
theorem b6_eq (b5:List UInt8): ∀(l:List UInt8) (i:Nat) (s:UInt64),b5.drop i=l→i+l.length≤1000000→Cs (Db b5) l.length (i:Int) s=some (ple l i s):=by
 intro l;induction l with
 |nil=>intro i s _ _; rfl
 |cons b l ih=>
  intro i s h hb;have hx:idx b5 (i:Int)=some b:=Np (by
   have:(b5.drop i)[0]? =some b:=by rw[h]; rfl
   simpa using this)
  simp only[List.length_cons]at hb;have hw:w64 (8*(i:Int))=((8*i:Nat):Int):=by rw[Ev (by omega) (by omega)]; omega
  have hstep:Db b5 (i:Int) s=some (s|||FO (toU (b.toNat:Int)) (8*i)):=by
   simp only[Db,hx,Ab,hw,EZ];rw[if_pos (by omega)]; rfl
  show Cs (Db b5) (l.length+1) _ _=_;simp only[Cs,hstep,Ab,ple];have:=ih (i+1) (s|||FO (toU (b.toNat:Int)) (8*i)) (by rw[←List.drop_drop,h]; rfl) (by omega);simpa using this
def pof (n:Nat)(l:List UInt8):List UInt64:=match n,l with|_,[]=> []|0,_=> []|n+1,l=>ple (l.take 7) 0 0::pof n (l.drop 7)
theorem W1 (n:Nat): ∀l,(pof n l).length≤n:=by
 induction n with
 |zero=>intro l; cases l<;>simp[pof]
 |succ n ih=>intro l; cases l with
  |nil=>simp[pof]
  |cons a l=>simp only[pof,List.length_cons]; have:=ih ((a::l).drop 7); omega
theorem Vh (a0:List UInt8)(hb:a0.length≤1000000): ∀(n i:Nat) (out:List UInt64),a0.length≤i+n→i≤1000000+7→out.length+n≤1000000→
  iter (AI (fun(s:(List UInt64)) (b0:List UInt8)=>Ae (Dc b0 s) fun y=>some (true,y)) a0 7) (n+1) ((i:Int),out)=some (.inl (out++pof n (a0.drop i))):=by
 intro n;induction n with
 |zero=>
  intro i out h _ _;have:a0.drop i=[]:=List.drop_eq_nil_of_le (by omega);refine Cu ?_;simp only[AI,this];rw[if_neg (by simp; omega)];simp[pof]
 |succ n ih=>
  intro i out h hi ho;by_cases hlt:i<a0.length
  ·obtain⟨b,l,hl⟩: ∃b l,a0.drop i=b::l:=⟨a0[i],a0.drop (i+1),List.drop_eq_getElem_cons hlt⟩;have hc1:cut a0 (i:Int) (a0.length:Int)=some (a0.drop i):=by
    rw[Qz (by omega) (by omega)]; congr 1; rw[List.take_of_length_le (by simp)]
   have hlen:(a0.drop i).length=a0.length-i:=by simp
   have hm:w64 ((i:Int)+J5 7 ((a0.drop i).length:Int))=((i+min 7 (a0.length-i):Nat):Int):=by
    rw[Ev]<;>unfold J5<;>split<;>omega
   have hc2:cut a0 (i:Int) ((i+min 7 (a0.length-i):Nat):Int)=some ((a0.drop i).take 7):=by
    rw[Qz (by omega) (by omega)]; congr 1;rw[Nat.add_sub_cancel_left];by_cases h7:7≤a0.length-i
    ·rw[Nat.min_eq_left h7]
    ·rw[Nat.min_eq_right (by omega),List.take_of_length_le (by simp),List.take_of_length_le (by simp; omega)]
   have hw:w64 ((i:Int)+7)=((i+7:Nat):Int):=by rw[Ev (by omega) (by omega)]; omega
   have hb4:Dc ((a0.drop i).take 7) out=some (out++[ple ((a0.drop i).take 7) 0 0]):=by
    have:=b6_eq ((a0.drop i).take 7) ((a0.drop i).take 7) 0 0 rfl (by simp; omega);simp only[Dc];rw[show((0:Int))=((0:Nat):Int)from rfl,this];simp only[Ab];rw[QJ 8 (by simp; omega) (by simp; omega)];rfl
   rw[Cr (s':=(((i+7:Nat):Int),out++[ple ((a0.drop i).take 7) 0 0]))]
   ·rw[ih (i+7) _ (by omega) (by omega) (by simp; omega)];rw[hl];simp only[pof];rw[←hl,List.drop_drop];simp
   ·simp only[AI];rw[if_pos (decide_eq_true (by omega)),hc1];simp only[Ab,hm,hc2,hb4,hw];rfl
  ·have:a0.drop i=[]:=List.drop_eq_nil_of_le (by omega);refine Cu ?_;simp only[AI,this];rw[if_neg (by simp; omega)];simp[pof]
theorem of_eq (a0:List UInt8)(hb:a0.length≤900000):G5 a0=some (pof a0.length a0):=by
 have h:=Vh a0 (by omega) a0.length 0 [] (by omega) (by omega) (by simp; omega);have h':=HP _ h (by omega);simp only[G5,B5,BM];rw[if_neg (by decide)];simp only[Ab,List.drop_zero,List.nil_append]at h'⊢;rw[show((0:Int))=((0:Nat):Int)from rfl,h'];simp only[Ab]
def Ih (n:Nat)(l:List UInt64)(s:UInt64×UInt64×UInt64):UInt64×UInt64×UInt64:=match n,l with|_,[]=>s|0,_=>s|_+1,[x]=>Rp (E8 s.1 x,s.2.1,s.2.2)|n+1,x::y::l=>Ih n l (Rp (E8 s.1 x,E8 s.2.1 y,s.2.2))
theorem b4_eq1 (x:UInt64)(s:UInt64×UInt64×UInt64):Cs (C9 [x]) 1 0 s=some (E8 s.1 x,s.2.1,s.2.2):=by
 have e0:idx [x] (0:Int)=some x:=rfl;have e1:idx [s.1,s.2.1,s.2.2] (0:Int)=some s.1:=rfl;simp[Cs,C9,e0,e1,QN,EZ]
theorem b4_eq2 (x y:UInt64)(s:UInt64×UInt64×UInt64):Cs (C9 [x,y]) 2 0 s=some (E8 s.1 x,E8 s.2.1 y,s.2.2):=by
 have e0:idx [x,y] (0:Int)=some x:=rfl;have e1:idx [s.1,s.2.1,s.2.2] (0:Int)=some s.1:=rfl;have e2:idx [x,y] 1=some y:=rfl;have e3:idx [E8 s.1 x,s.2.1,s.2.2] 1=some s.2.1:=rfl;simp[Cs,C9,e0,e1,e2,e3,QN,EZ]
theorem b3_nil (fst:Bool)(hf:fst=true)(s:UInt64×UInt64×UInt64):BD ([],fst,s.1,s.2.1,s.2.2)=some (.inl ([],false,Rp s)):=by
 subst hf;have hc:cut ([]:List UInt64) 0 0=some []:=rfl;have hmin:J5 2 (([]:List UInt64).length:Int)=0:=rfl;simp only[BD,Bool.true_or,if_true,hmin];rw[show((([]:List UInt64).length:Int))=0 from rfl,hc];simp only[Ab,Cs,List.length_nil,SU]
theorem Wg (s:UInt64×UInt64×UInt64):BD ([],false,s.1,s.2.1,s.2.2)=some (.inr s):=rfl
theorem We (fst:Bool)(x:UInt64)(s:UInt64×UInt64×UInt64):BD ([x],fst,s.1,s.2.1,s.2.2)=some (.inl ([],false,Rp (E8 s.1 x,s.2.1,s.2.2))):=by
 have hmin:J5 2 (([x]:List UInt64).length:Int)=1:=rfl;have h0:(fst||decide ((([x]:List UInt64).length:Int)>0))=true:=by simp
 have hc:cut [x] 0 1=some [x]:=rfl;have hc2:cut [x] 1 1=some []:=rfl;simp only[BD,h0,if_true,hmin];rw[show((([x]:List UInt64).length:Int))=1 from rfl,hc,hc2];simp only[Ab,List.length_cons,List.length_nil];rw[b4_eq1];simp only[Ab,SU]
theorem Wd (fst:Bool)(x y:UInt64)(l:List UInt64)(s:UInt64×UInt64×UInt64):BD (x::y::l,fst,s.1,s.2.1,s.2.2)=some (.inl (l,false,Rp (E8 s.1 x,E8 s.2.1 y,s.2.2))):=by
 have hmin:J5 2 ((x::y::l).length:Int)=((2:Nat):Int):=by unfold J5; rw[if_neg (by simp; omega)]; rfl
 have h0:(fst||decide (((x::y::l).length:Int)>0))=true:=by simp; right; omega
 have hc:cut (x::y::l) ((0:Nat):Int) ((2:Nat):Int)=some [x,y]:=by rw[Qz (by omega) (by simp)]; rfl
 have hc2:cut (x::y::l) ((2:Nat):Int) ((x::y::l).length:Int)=some l:=by rw[Qz (by simp) (by omega)]; simp
 simp only[BD,h0,if_true,hmin];rw[show((0:Int))=((0:Nat):Int)from rfl,hc,hc2];simp only[Ab,List.length_cons,List.length_nil];rw[show((0:Nat):Int)=0 from rfl,b4_eq2];simp only[Ab,SU]
theorem PK: ∀(n:Nat) (l:List UInt64) (s:UInt64×UInt64×UInt64),l.length≤n→iter BD (n+1) (l,false,s.1,s.2.1,s.2.2)=some (Ih n l s):=by
 intro n;induction n with
 |zero=>
  intro l s h;have:l=[]:=List.eq_nil_of_length_eq_zero (by omega);subst this;rw[Cu (Wg s)]; simp[Ih]
 |succ n ih=>
  intro l s h;match l,h with
  | [],_=>rw[Cu (Wg s)]; simp[Ih]
  | [x],_=>
   rw[Cr (We false x s)];have:=ih [] (Rp (E8 s.1 x,s.2.1,s.2.2)) (by simp);rw[this]; simp[Ih]
  |x::y::l,h=>
   rw[Cr (Wd false x y l s)];have:=ih l (Rp (E8 s.1 x,E8 s.2.1 y,s.2.2)) (by simp at h; omega);rw[this]; simp[Ih]
def VG (l:List UInt64)(s:UInt64×UInt64×UInt64):UInt64×UInt64×UInt64:=match l with| []=>Rp s|l=>Ih l.length l s
def hsum (b:List UInt8):UInt64×UInt64:=((VG (pof b.length b) (0,0,toU (b.length:Int))).1,(VG (pof b.length b) (0,0,toU (b.length:Int))).2.1)
theorem sum_eq (b:List UInt8)(hb:b.length≤900000):F9 b=some (hsum b):=by
 simp only[F9,of_eq b hb,Ab];have hl:=W1 b.length b;have hk:hsum b=((VG (pof b.length b) (0,0,toU (b.length:Int))).1,(VG (pof b.length b) (0,0,toU (b.length:Int))).2.1):=rfl;rw[hk];clear hk;generalize pof b.length b=l at*;have h:iter BD Dh (l,true,0,0,toU (b.length:Int))=some (VG l (0,0,toU (b.length:Int))):=by
  refine HP (l.length+2) ?_ (by omega);match l with
  | []=>
   rw[show([]:List UInt64).length+2=1+1 from rfl,Cr (b3_nil true rfl (0,0,toU (b.length:Int)))];have:=PK 0 [] (Rp (0,0,toU (b.length:Int))) (by simp);rw[this]; simp[Ih,VG]
  | [x]=>
   rw[show([x]:List UInt64).length+2=2+1 from rfl,Cr (We true x (0,0,toU (b.length:Int)))];have:=PK 1 [] (Rp (E8 0 x,0,toU (b.length:Int))) (by simp);rw[this]; simp[Ih,VG]
  |x::y::l=>
   rw[Cr (Wd true x y l (0,0,toU (b.length:Int)))];have:=PK (l.length+2) l (Rp (E8 0 x,E8 0 y,toU (b.length:Int))) (by omega);have e:(x::y::l).length+1=l.length+2+1:=rfl;rw[e,this];simp only[Ih,VG,List.length_cons];congr 1;clear this hl;have: ∀(n k:Nat) (l:List UInt64) (s:UInt64×UInt64×UInt64),l.length≤n→l.length≤k→Ih n l s=Ih k l s:=by
    intro n;induction n with
    |zero=>intro k l s h _; have:l=[]:=List.eq_nil_of_length_eq_zero (by omega); subst this; simp[Ih]
    |succ n ih=>
     intro k l s h hk;match l,k,h,hk with
     | [],k,_,_=>cases k<;>simp[Ih]
     | [x],k+1,_,_=>simp[Ih]
     |x::y::l,k+1,h,hk=>simp only[Ih]; exact ih k l _ (by simp at h; omega) (by simp at hk; omega)
   exact this _ _ _ _ (by omega) (by omega)
 rw[h];simp only[Ab]
def OQ:Nat→UInt64→List UInt8
 |0,_=> []
 |k+1,n=>toB ((Dm n (8*k)).toNat:Int)::OQ k n
theorem IV (k:Nat)(n:UInt64):(OQ k n).length=k:=by induction k with|zero=>rfl|succ k ih=>simp[OQ,ih]
theorem Uy (n:UInt64): ∀(k:Nat) (b:List UInt8),k≤8→b.length+k≤1000000→iter (D2 n) (k+1) (b,(k:Int)-1)=some (b++OQ k n):=by
 intro k;induction k with
 |zero=>intro b _ _; refine Cu ?_; simp only[D2,OQ,List.append_nil]; rw[if_neg (by simp)]
 |succ k ih=>
  intro b hk hb;have hw:w64 (8*(((k+1:Nat):Int)-1))=((8*k:Nat):Int):=by rw[Ev (by omega) (by omega)]; omega
  have hw2:w64 ((((k+1:Nat):Int)-1)-1)=(k:Int)-1:=by rw[Ev (by omega) (by omega)]; omega
  rw[Cr (s':=(b++[toB ((Dm n (8*k)).toNat:Int)],(k:Int)-1))]
  ·rw[ih _ (by omega) (by simp; omega)]; simp[OQ]
  ·simp only[D2,hw,hw2];rw[if_pos (decide_eq_true (by omega)),if_pos (by omega),QJ 1 (by simp; omega) (by simp; omega)];simp only[Ab,Int.toNat_natCast]
theorem put_eq (n:UInt64)(k:Nat)(b:List UInt8)(hk:k≤8)(hb:b.length≤900000):F8 b n (k:Int)=some (b++OQ k n):=by
 have hw:w64 ((k:Int)-1)=(k:Int)-1:=Ev (by omega) (by omega);simp only[F8,hw,HP (k+1) (Uy n k b hk (by omega)) (by omega),Ab]
def VH (s:UInt64×UInt64):List UInt8:=OQ 8 s.1++OQ 8 s.2
def SF:List UInt8→List (List UInt8)→List UInt8
 |b,[]=>b
 |b,p::ps=>SF (b++OQ 4 (toU (p.length:Int))++p) ps
def W2:List (List UInt8)→Nat
 | []=>0
 |p::ps=>4+p.length+W2 ps
theorem SE: ∀(ps:List (List UInt8)) (b:List UInt8),(SF b ps).length=b.length+W2 ps:=by
 intro ps;induction ps with
 |nil=>intro b; rfl
 |cons p ps ih=>intro b; simp only[SF,ih,W2,List.length_append,IV]; omega
theorem Uo: ∀(ps:List (List UInt8)) (i:Int) (b:List UInt8),b.length+W2 ps≤800000→EY Dj ps i b=some (SF b ps):=by
 intro ps;induction ps with
 |nil=>intro i b _; rfl
 |cons p ps ih=>
  intro i b h;simp only[W2]at h;have h0:F8 b (toU (p.length:Int)) 4=some (b++OQ 4 (toU (p.length:Int))):=put_eq _ 4 b (by omega) (by omega);simp only[EY,Dj,h0,Ab];rw[QJ 1 (by simp[IV]; omega) (by simp[IV]; omega)];simp only[Ab];rw[ih _ _ (by simp[IV]; omega)];rfl
def ptag (t:ByteArray)(ps:List (List UInt8)):UInt64×UInt64:=hsum (SF (toB (t.size:Int)::t.data.toList) ps)
theorem RM (t:ByteArray)(ps:List (List UInt8))(h:t.data.toList.length+W2 ps≤700000):D3 t ps=some (ptag t ps):=by
 simp only[D3];rw[QJ 1 (by simp at h⊢; omega) (by simp at h⊢; omega)];simp only[Ab];rw[Uo _ _ _ (by simp at h⊢; omega)];simp only[Ab];rw[sum_eq _ (by rw[SE]; simp at h⊢; omega)];rfl
def ppair (a b:UInt64×UInt64):UInt64×UInt64:=ptag ⟨#[110,111,100,101]⟩ [VH a,VH b]
end Go.Proofs.YtbajlmaijjcbmaaGreatDoor
end
section
namespace Go.Proofs.YtbajlmaijjcbmaaGreatDoor
open Go Go.Gw Go.Ax
abbrev FP:Nat:=2305843009213693951
theorem N7 {n:Nat}(h:n<18446744073709551616):(toU (n:Int)).toNat=n:=by
 unfold toU;rw[UInt64.toNat_ofNat'];omega
theorem DX (x:UInt64)(k:Nat)(hk:k≤64):(Dm x k).toNat=x.toNat/2^k:=by
 unfold Dm;rw[UInt64.toNat_ofNat',Nat.min_eq_left hk];exact Nat.mod_eq_of_lt (Nat.lt_of_le_of_lt (Nat.div_le_self _ _) x.toNat_lt)
theorem UL {p q r s:Nat}(hp:p<4294967296)(hq:q<4294967296)(hr:r<4294967296)(hs:s<4294967296):
  (p*r+((p*s+q*s/4294967296)/4294967296)+(((p*s+q*s/4294967296)%4294967296+q*r)/4294967296))=((p*4294967296+q)*(r*4294967296+s))/18446744073709551616:=by
 have h1:(p*4294967296+q)*(r*4294967296+s)=(p*r)*18446744073709551616+(p*s+q*r)*4294967296+q*s:=by
  rw[Nat.add_mul,Nat.mul_add,Nat.mul_add,Nat.add_mul];have a1:p*4294967296*(r*4294967296)=p*r*18446744073709551616:=by rw[Nat.mul_assoc,Nat.mul_left_comm 4294967296,←Nat.mul_assoc p]
  have a2:p*4294967296*s=p*s*4294967296:=Nat.mul_right_comm _ _ _;have a3:q*(r*4294967296)=q*r*4294967296:=(Nat.mul_assoc _ _ _).symm;rw[a1,a2,a3]; omega
 rw[h1];generalize p*r=A;generalize p*s=B;generalize q*r=C;generalize q*s=D;omega
theorem SC (a b:UInt64):(phi a b).toNat=(a.toNat*b.toNat)/18446744073709551616:=by
 have ha:=a.toNat_lt;have hb:=b.toNat_lt;have m32: ∀x:UInt64,(x&&&4294967295).toNat=x.toNat%4294967296:=fun x=>by
  rw[UInt64.toNat_and]; exact Nat.and_two_pow_sub_one_eq_mod _ 32
 have s32: ∀x:UInt64,(Dm x 32).toNat=x.toNat/4294967296:=fun x=>DX x 32 (by omega);have hp:a.toNat/4294967296<4294967296:=by omega
 have hq:a.toNat%4294967296<4294967296:=by omega
 have hr:b.toNat/4294967296<4294967296:=by omega
 have hs:b.toNat%4294967296<4294967296:=by omega
 have ea:a.toNat/4294967296*4294967296+a.toNat%4294967296=a.toNat:=Nat.div_add_mod' _ _;have eb:b.toNat/4294967296*4294967296+b.toNat%4294967296=b.toNat:=Nat.div_add_mod' _ _;have key:=UL hp hq hr hs;rw[ea,eb]at key;have bd: ∀x y:Nat,x<4294967296→y<4294967296→x*y≤18446744065119617025:=fun x y hx hy=>Nat.mul_le_mul (show x≤4294967295 by omega) (show y≤4294967295 by omega);have b1:=bd _ _ hp hr;have b2:=bd _ _ hp hs;have b3:=bd _ _ hq hr;have b4:=bd _ _ hq hs;have ab:a.toNat*b.toNat/18446744073709551616<18446744073709551616:=by
  rw[Nat.div_lt_iff_lt_mul (by omega)];exact Nat.lt_of_le_of_lt (Nat.mul_le_mul (show a.toNat≤18446744073709551615 by omega) (show b.toNat≤18446744073709551615 by omega)) (by omega)
 unfold phi;dsimp only;rw[←key]at ab⊢;simp only[UInt64.toNat_add,UInt64.toNat_mul,s32,m32];generalize a.toNat/4294967296*(b.toNat/4294967296)=A at*;generalize a.toNat/4294967296*(b.toNat%4294967296)=B at*;generalize a.toNat%4294967296*(b.toNat/4294967296)=C at*;generalize a.toNat%4294967296*(b.toNat%4294967296)=D at*;omega
theorem u_ext {a b:UInt64}(h:a.toNat=b.toNat):a=b:=UInt64.toNat_inj.1 h
end Go.Proofs.YtbajlmaijjcbmaaGreatDoor
end
section
namespace Go.Proofs.YtbajlmaijjcbmaaGreatDoor
open Go Go.Gw Go.Ax
section
variable {x4 x5 x7 y u:UInt64}
theorem dq_lt (hd:x7.toNat<4294967296)(hu:u.toNat<y.toNat):(u.toNat*4294967296+x7.toNat)/y.toNat<4294967296:=by
 rw[Nat.div_lt_iff_lt_mul (by omega)];have:(u.toNat+1)*4294967296≤y.toNat*4294967296:=Nat.mul_le_mul_right _ hu;omega
theorem dcond {q r:UInt64}(h1:2147483648≤x4.toNat∧x4.toNat<4294967296)(h0:x5.toNat<4294967296)(hd:x7.toNat<4294967296)(hy:y.toNat=x4.toNat*4294967296+x5.toNat)(hu:u.toNat<y.toNat)
  (hq:q.toNat*x4.toNat+r.toNat=u.toNat) (hr:r.toNat<4294967296):
  (((decide ((q.toNat:Int)≥4294967296))||(decide (((q*x5).toNat:Int)>(((4294967296*r)+x7).toNat:Int))))=true↔(u.toNat*4294967296+x7.toNat)/y.toNat<q.toNat):=by
 have hlt:=dq_lt hd hu;have e1:((4294967296*r)+x7).toNat=4294967296*r.toNat+x7.toNat:=by
  rw[UInt64.toNat_add,UInt64.toNat_mul,show(4294967296:UInt64).toNat=4294967296 from rfl]; omega
 rw[Bool.or_eq_true,decide_eq_true_eq,decide_eq_true_eq,e1];by_cases hb:4294967296≤q.toNat
 ·constructor
  ·intro _; omega
  ·intro _; left; omega
 ·have hB:q.toNat*x5.toNat≤4294967295*4294967295:=Nat.mul_le_mul (by omega) (by omega);have e2:(q*x5).toNat=q.toNat*x5.toNat:=by rw[UInt64.toNat_mul]; omega
  have e3:q.toNat*y.toNat=q.toNat*x4.toNat*4294967296+q.toNat*x5.toNat:=by rw[hy,Nat.mul_add,Nat.mul_assoc]
  rw[e2,Nat.div_lt_iff_lt_mul (by omega),e3];generalize q.toNat*x4.toNat=A at*;generalize q.toNat*x5.toNat=B at*;omega
theorem dstep {q r:UInt64}(h1:2147483648≤x4.toNat∧x4.toNat<4294967296)(h0:x5.toNat<4294967296)(hd:x7.toNat<4294967296)(hy:y.toNat=x4.toNat*4294967296+x5.toNat)(hu:u.toNat<y.toNat)
  (hq:q.toNat*x4.toNat+r.toNat=u.toNat) (hr:r.toNat<4294967296) (hq2:q.toNat≤4294967297) (hc:(u.toNat*4294967296+x7.toNat)/y.toNat<q.toNat):
  (q-1).toNat=q.toNat-1∧(r+x4).toNat=r.toNat+x4.toNat∧(q-1).toNat*x4.toNat+(r+x4).toNat=u.toNat∧(u.toNat*4294967296+x7.toNat)/y.toNat≤(q-1).toNat∧
  (4294967296≤(r+x4).toNat→(q-1).toNat=(u.toNat*4294967296+x7.toNat)/y.toNat):=by
 have q1:1≤q.toNat:=Nat.lt_of_le_of_lt (Nat.zero_le _) hc;have e1:(q-1).toNat=q.toNat-1:=by rw[UInt64.toNat_sub_of_le _ _ (by rw[UInt64.le_iff_toNat_le]; exact q1)]; rfl
 have e2:(r+x4).toNat=r.toNat+x4.toNat:=by rw[UInt64.toNat_add]; omega
 have e3:(q.toNat-1)*x4.toNat+x4.toNat=q.toNat*x4.toNat:=by
  rw[←Nat.succ_mul]; congr 1; omega
 refine⟨e1,e2,by rw[e1,e2,Nat.add_comm r.toNat,←Nat.add_assoc,e3,hq],by rw[e1]; exact Nat.le_sub_one_of_lt hc,fun hb=> ?_⟩;rw[e2]at hb;refine Nat.le_antisymm ?_ (by rw[e1]; exact Nat.le_sub_one_of_lt hc);rw[e1,Nat.le_div_iff_mul_le (Nat.lt_of_le_of_lt (Nat.zero_le _) hu)];clear hc e1 e2;have hB:(q.toNat-1)*x5.toNat≤4294967296*4294967295:=Nat.mul_le_mul (by omega) (by omega);have e4:(q.toNat-1)*y.toNat=(q.toNat-1)*x4.toNat*4294967296+(q.toNat-1)*x5.toNat:=by rw[hy,Nat.mul_add,Nat.mul_assoc]
 rw[e4];generalize (q.toNat-1)*x4.toNat=A at*;generalize (q.toNat-1)*x5.toNat=B at*;generalize q.toNat*x4.toNat=C at*;omega
theorem dloop1 (h1:2147483648≤x4.toNat∧x4.toNat<4294967296)(h0:x5.toNat<4294967296)(hd:x7.toNat<4294967296)(hy:y.toNat=x4.toNat*4294967296+x5.toNat)(hu:u.toNat<y.toNat):
  ∀(n:Nat) (q r:UInt64),q.toNat*x4.toNat+r.toNat=u.toNat→r.toNat<4294967296→q.toNat≤4294967297→(u.toNat*4294967296+x7.toNat)/y.toNat≤q.toNat→4294967296≤r.toNat+n*2147483648→
   ∃p,iter (Cq x4 x5 x7) (n+1) (q,r)=some p∧p.toNat=(u.toNat*4294967296+x7.toNat)/y.toNat:=by
 intro n;induction n with
 |zero=>intro q r _ hr _ _ hn; omega
 |succ n ih=>
  intro q r hq hr hq2 hle hn;have hc:=dcond h1 h0 hd hy hu hq hr;by_cases hcc:(u.toNat*4294967296+x7.toNat)/y.toNat<q.toNat
  ·obtain⟨s1,s2,s3,s4,s5⟩:=dstep h1 h0 hd hy hu hq hr hq2 hcc;by_cases hb:4294967296≤(r+x4).toNat
   ·refine⟨q-1,Cu ?_,s5 hb⟩;unfold Cq;rw[if_pos (hc.2 hcc),if_pos (by rw[decide_eq_true_eq]; dsimp only; omega)]
   ·obtain⟨p,p1,p2⟩:=ih (q-1) (r+x4) s3 (by omega) (by omega) s4 (by omega);refine⟨p,?_,p2⟩;rw[Cr (s':=(q-1,r+x4)),p1];unfold Cq;rw[if_pos (hc.2 hcc),if_neg (by rw[decide_eq_true_eq]; dsimp only; omega)]
  ·refine⟨q,Cu ?_,by omega⟩;unfold Cq;rw[if_neg (fun h=>hcc (hc.1 h))]
theorem dloop2 (h1:2147483648≤x4.toNat∧x4.toNat<4294967296)(h0:x5.toNat<4294967296)(hd:x7.toNat<4294967296)(hy:y.toNat=x4.toNat*4294967296+x5.toNat)(hu:u.toNat<y.toNat):
  ∀(n:Nat) (q r:UInt64),q.toNat*x4.toNat+r.toNat=u.toNat→r.toNat<4294967296→q.toNat≤4294967297→(u.toNat*4294967296+x7.toNat)/y.toNat≤q.toNat→4294967296≤r.toNat+n*2147483648→
   ∃p,iter (Cp x4 x5 x7) (n+1) (r,q)=some p∧p.toNat=(u.toNat*4294967296+x7.toNat)/y.toNat:=by
 intro n;induction n with
 |zero=>intro q r _ hr _ _ hn; omega
 |succ n ih=>
  intro q r hq hr hq2 hle hn;have hc:=dcond h1 h0 hd hy hu hq hr;by_cases hcc:(u.toNat*4294967296+x7.toNat)/y.toNat<q.toNat
  ·obtain⟨s1,s2,s3,s4,s5⟩:=dstep h1 h0 hd hy hu hq hr hq2 hcc;by_cases hb:4294967296≤(r+x4).toNat
   ·refine⟨q-1,Cu ?_,s5 hb⟩;unfold Cp;rw[if_pos (hc.2 hcc),if_pos (by rw[decide_eq_true_eq]; dsimp only; omega)]
   ·obtain⟨p,p1,p2⟩:=ih (q-1) (r+x4) s3 (by omega) (by omega) s4 (by omega);refine⟨p,?_,p2⟩;rw[Cr (s':=(r+x4,q-1)),p1];unfold Cp;rw[if_pos (hc.2 hcc),if_neg (by rw[decide_eq_true_eq]; dsimp only; omega)]
  ·refine⟨q,Cu ?_,by omega⟩;unfold Cp;rw[if_neg (fun h=>hcc (hc.1 h))]
theorem V4 (h1:2147483648≤x4.toNat∧x4.toNat<4294967296)(h0:x5.toNat<4294967296)(hd:x7.toNat<4294967296)(hy:y.toNat=x4.toNat*4294967296+x5.toNat)(hu:u.toNat<y.toNat):
  (u/x4).toNat*x4.toNat+(u-(u/x4)*x4).toNat=u.toNat∧(u-(u/x4)*x4).toNat<4294967296∧(u/x4).toNat≤4294967297∧(u.toNat*4294967296+x7.toNat)/y.toNat≤(u/x4).toNat:=by
 have e1:(u/x4).toNat=u.toNat/x4.toNat:=UInt64.toNat_div _ _;have hmul:u.toNat/x4.toNat*x4.toNat≤u.toNat:=Nat.div_mul_le_self _ _;have hul:=u.toNat_lt;have e2:((u/x4)*x4).toNat=u.toNat/x4.toNat*x4.toNat:=by rw[UInt64.toNat_mul,e1]; omega
 have e3:(u-(u/x4)*x4).toNat=u.toNat-u.toNat/x4.toNat*x4.toNat:=by
  rw[UInt64.toNat_sub_of_le _ _ (by rw[UInt64.le_iff_toNat_le,e2]; exact hmul),e2]
 have e4:u.toNat-u.toNat/x4.toNat*x4.toNat=u.toNat%x4.toNat:=by
  have:=Nat.div_add_mod' u.toNat x4.toNat; omega
 have e5:=Nat.mod_lt u.toNat (show 0<x4.toNat by omega);refine⟨by rw[e1,e3]; omega,by rw[e3,e4]; omega,?_,?_⟩
 ·rw[e1];have:u.toNat/x4.toNat<4294967298:=by
   rw[Nat.div_lt_iff_lt_mul (by omega)];omega
  omega
 ·rw[e1,Nat.le_div_iff_mul_le (by omega)];have h2:(u.toNat*4294967296+x7.toNat)/y.toNat*y.toNat≤u.toNat*4294967296+x7.toNat:=Nat.div_mul_le_self _ _;generalize (u.toNat*4294967296+x7.toNat)/y.toNat=Q at*;have h3:Q*y.toNat=Q*x4.toNat*4294967296+Q*x5.toNat:=by rw[hy,Nat.mul_add,Nat.mul_assoc]
  rw[h3]at h2;generalize Q*x4.toNat=A at*;generalize Q*x5.toNat=B at*;omega
theorem drest {q:UInt64}(hu:u.toNat<y.toNat)(hq:q.toNat=(u.toNat*4294967296+x7.toNat)/y.toNat):(((u*4294967296)+x7)-(q*y)).toNat=(u.toNat*4294967296+x7.toNat)%y.toNat:=by
 have hyl:=y.toNat_lt;have hm:=Nat.mod_lt (u.toNat*4294967296+x7.toNat) (show 0<y.toNat by omega);have hdm:=Nat.div_add_mod' (u.toNat*4294967296+x7.toNat) y.toNat;rw[UInt64.toNat_sub,UInt64.toNat_add,UInt64.toNat_mul,UInt64.toNat_mul,hq,show(4294967296:UInt64).toNat=4294967296 from rfl];generalize (u.toNat*4294967296+x7.toNat)/y.toNat*y.toNat=Z at*;omega
end
theorem JZ {x:UInt64}{k:Nat}(hk:k≤63):(FO x k).toNat=(x.toNat*2^k)%18446744073709551616:=by
 unfold FO;rw[Nat.min_eq_left (by omega),show(x.toNat:Int)*2^k=((x.toNat*2^k:Nat):Int)from by simp];unfold toU;rw[UInt64.toNat_ofNat'];generalize x.toNat*2^k=z;omega
theorem or_nat {a b k:Nat}(h:b<2^k):a*2^k|||b=a*2^k+b:=by
 rw[Nat.mul_comm]; exact(Nat.two_pow_add_eq_or_of_lt h a).symm
theorem Qx {hi lo y0:UInt64}{s:Nat}(hs:s≤63)(hlz:B1 y0=some (s:Int))(hn1:9223372036854775808≤y0.toNat*2^s)(hn2:y0.toNat*2^s<18446744073709551616)(hh:hi.toNat<y0.toNat):
  ∃q r,Ey hi lo y0=some (q,r)∧r.toNat=(hi.toNat*18446744073709551616+lo.toNat)%y0.toNat:=by
 have hyne:y0≠0:=fun e=>by rw[e]at hh; simp at hh
 unfold Ey;rw[if_neg (by rw[beq_iff_eq]; omega),Ab,if_neg (by rw[decide_eq_true_eq]; omega),Ab];by_cases hz:hi.toNat=0
 ·rw[if_pos (by rw[beq_iff_eq]; omega),if_pos hyne,if_pos hyne];refine⟨_,_,rfl,?_⟩;rw[UInt64.toNat_mod,hz]; simp
 ·have hts:(toU (s:Int)).toNat=s:=N7 (by omega);have h64:(64-toU (s:Int)).toNat=64-s:=by
   rw[UInt64.toNat_sub_of_le _ _ (by rw[UInt64.le_iff_toNat_le,hts]; show s≤64; omega),hts]; rfl
  rw[if_neg (by rw[beq_iff_eq]; omega),hlz,Ab,hts,h64];simp only[EZ];have hps:0<2^s:=Nat.two_pow_pos s;have hpp:2^s*2^ (64-s)=18446744073709551616:=by rw[←Nat.pow_add,show s+(64-s)=64 from by omega]
  have hY:(FO y0 s).toNat=y0.toNat*2^s:=by rw[JZ (by omega)]; exact Nat.mod_eq_of_lt hn2
  have hlo:=lo.toNat_lt;have hlod:lo.toNat/2^ (64-s)<2^s:=by rw[Nat.div_lt_iff_lt_mul (Nat.two_pow_pos _),hpp]; omega
  have hhs:hi.toNat*2^s+2^s≤y0.toNat*2^s:=by rw[←Nat.succ_mul]; exact Nat.mul_le_mul_right _ hh
  have hU:((FO hi s)|||(Dm lo (64-s))).toNat=hi.toNat*2^s+lo.toNat/2^ (64-s):=by
   rw[UInt64.toNat_or,JZ (by omega),DX _ _ (by omega),Nat.mod_eq_of_lt (by omega),or_nat hlod]
  have hL:(FO lo s).toNat=(lo.toNat*2^s)%18446744073709551616:=JZ (by omega);have m32: ∀x:UInt64,(x&&&4294967295).toNat=x.toNat%4294967296:=fun x=>by
   rw[UInt64.toNat_and]; exact Nat.and_two_pow_sub_one_eq_mod _ 32
  have s32: ∀x:UInt64,(Dm x 32).toNat=x.toNat/4294967296:=fun x=>DX x 32 (by omega);have hlos:lo.toNat*2^s=lo.toNat/2^ (64-s)*18446744073709551616+(lo.toNat*2^s)%18446744073709551616:=by
   have e1:lo.toNat*2^s/18446744073709551616=lo.toNat/2^ (64-s):=by
    rw[←hpp,Nat.mul_comm,Nat.mul_div_mul_left _ _ hps]
   rw[←e1]; exact(Nat.div_add_mod' _ _).symm
  have hN:(hi.toNat*18446744073709551616+lo.toNat)*2^s=(hi.toNat*2^s+lo.toNat/2^ (64-s))*18446744073709551616+(lo.toNat*2^s)%18446744073709551616:=by
   rw[Nat.add_mul,hlos,Nat.add_mul,Nat.mul_right_comm];omega
  generalize hgy:FO y0 s=y at*;generalize hgu:(FO hi s)|||(Dm lo (64-s))=u at*;generalize hgl:FO lo s=l at*;have hyl:=y.toNat_lt;have a1:2147483648≤(Dm y 32).toNat∧(Dm y 32).toNat<4294967296:=by rw[s32]; omega
  have a0:(y&&&4294967295).toNat<4294967296:=by rw[m32]; omega
  have ay:y.toNat=(Dm y 32).toNat*4294967296+(y&&&4294967295).toNat:=by rw[s32,m32]; omega
  have ad:(Dm l 32).toNat<4294967296:=by rw[s32]; have:=l.toNat_lt; omega
  have ae:(l&&&4294967295).toNat<4294967296:=by rw[m32]; omega
  have au:u.toNat<y.toNat:=by rw[hU,hY]; omega
  have hx4:Dm y 32≠0:=fun e=>by rw[e]at a1; simp at a1
  obtain⟨b1,b2,b3,b4⟩:=V4 a1 a0 ad ay au;obtain⟨q1,c1,c2⟩:=dloop1 a1 a0 ad ay au 2 _ _ b1 b2 b3 b4 (by omega);have hr1:=drest au c2;have hr1l:=Nat.mod_lt (u.toNat*4294967296+(Dm l 32).toNat) (show 0<y.toNat by omega);rw[if_pos hx4,HP _ c1 (by omega),Ab,Ab,if_pos hx4];generalize hgv:((u*4294967296)+(Dm l 32))-(q1*y)=v at*;have av:v.toNat<y.toNat:=by omega
  obtain⟨d1,d2,d3,d4⟩:=V4 a1 a0 ae ay av;obtain⟨q0,e1,e2⟩:=dloop2 a1 a0 ae ay av 2 _ _ d1 d2 d3 d4 (by omega);have hr0:=drest av e2;rw[HP _ e1 (by omega),Ab,Ab];refine⟨_,_,rfl,?_⟩;rw[DX _ _ (by omega),hr0,hr1];have f1:(((u.toNat*4294967296+(Dm l 32).toNat)%y.toNat)*4294967296+(l&&&4294967295).toNat)%y.toNat=((hi.toNat*18446744073709551616+lo.toNat)*2^s)%y.toNat:=by
   rw[Nat.add_mod,Nat.mod_mul_mod,←Nat.add_mod,hN,←hU,←hL,s32,m32];have e9:(u.toNat*4294967296+l.toNat/4294967296)*4294967296+l.toNat%4294967296=u.toNat*18446744073709551616+l.toNat:=by omega
   rw[e9]
  rw[f1,hY,Nat.mul_mod_mul_right,Nat.mul_div_cancel _ hps]
end Go.Proofs.YtbajlmaijjcbmaaGreatDoor
end
section
namespace Go.Proofs.YtbajlmaijjcbmaaGreatDoor
open Go Go.Gw Go.Ax
abbrev GQ:Nat:=2305843009213691579
abbrev GR:Nat:=1152921504606845789
def Dv (y:UInt64):Prop:= ∃s:Nat,s≤63∧B1 y=some (s:Int)∧9223372036854775808≤y.toNat*2^s∧y.toNat*2^s<18446744073709551616
theorem dvQ:Dv 2305843009213691579:=⟨3,by omega,by kernel_rfl,by decide,by decide⟩
theorem dvR:Dv 1152921504606845789:=⟨4,by omega,by kernel_rfl,by decide,by decide⟩
theorem Dv.pos {y:UInt64}(h:Dv y):0<y.toNat:=by
 obtain⟨s,_,_,h1,_⟩:=h;by_cases e:y.toNat=0
 ·rw[e]at h1; simp at h1
 ·omega
theorem rem_eq {y:UInt64}(h:Dv y)(hi lo:UInt64): ∃z,DT hi lo y=some z∧z.toNat=(hi.toNat*18446744073709551616+lo.toNat)%y.toNat:=by
 have hpos:=h.pos;obtain⟨s,h1,h2,h3,h4⟩:=h;have hyne:y≠0:=fun e=>by rw[e]at hpos; simp at hpos
 have hm:(hi%y).toNat=hi.toNat%y.toNat:=UInt64.toNat_mod _ _;obtain⟨q,r,e1,e2⟩:=Qx (hi:=hi%y) (lo:=lo) h1 h2 h3 h4 (by rw[hm]; exact Nat.mod_lt _ hpos);refine⟨r,?_,?_⟩
 ·unfold DT;rw[if_pos hyne,e1,Ab]
 ·rw[e2,hm,Nat.add_mod,Nat.mod_mul_mod,←Nat.add_mod]
def ofN (n:Nat):UInt64:=UInt64.ofNat n
theorem SM {n:Nat}(h:n<18446744073709551616):(ofN n).toNat=n:=by
 unfold ofN; rw[UInt64.toNat_ofNat']; exact Nat.mod_eq_of_lt h
theorem SN (n:Nat){y:UInt64}(h:0<y.toNat):(ofN (n%y.toNat)).toNat=n%y.toNat:=SM (Nat.lt_of_lt_of_le (Nat.mod_lt _ h) (Nat.le_of_lt y.toNat_lt))
theorem SL {z:UInt64}{n:Nat}(h:z.toNat=n):z=ofN n:=by
 rw[←h]; exact u_ext (SM z.toNat_lt).symm
def Ql (y a b:UInt64):UInt64:=ofN ((a.toNat*b.toNat)%y.toNat)
theorem Qk {y:UInt64}(h:Dv y)(a b:UInt64):(Ql y a b).toNat=(a.toNat*b.toNat)%y.toNat:=SN _ h.pos
theorem Js {y:UInt64}(h:Dv y)(a b:UInt64):A4 y a b=some (Ql y a b):=by
 obtain⟨z,e1,e2⟩:=rem_eq h (phi a b) (a*b);unfold A4;rw[Nc,Ab,e1,Ab];rw[SC,UInt64.toNat_mul,Nat.div_add_mod']at e2;rw[SL e2]; rfl
def addM (y a b:UInt64):UInt64:=ofN ((a.toNat+b.toNat)%y.toNat)
theorem TX (a b:UInt64):(GL a b).toNat*18446744073709551616+(a+b).toNat=a.toNat+b.toNat:=by
 have:=a.toNat_lt;have:=b.toNat_lt;unfold GL;rw[UInt64.toNat_ofNat',UInt64.toNat_add];omega
theorem W7 {P d r c sm t:Nat}(hP:d*18446744073709551616+r=P)(hr:r<18446744073709551616)(hd:d<2305843009213693952)(hc:c*18446744073709551616+sm=r+t)(ht:t<18446744073709551616):
  ((d+c)%18446744073709551616)*18446744073709551616+sm=P+t:=by
 have h1:c≤1:=by omega
 rw[Nat.mod_eq_of_lt (show d+c<18446744073709551616 by omega),Nat.add_mul,←hP,Nat.add_assoc,hc,Nat.add_assoc]
def numM (s:UInt64×UInt64)(y:UInt64):UInt64:=ofN ((s.1.toNat*2305843009213693952+s.2.toNat)%y.toNat)
theorem num_eq {y:UInt64}(h:Dv y)(s:UInt64×UInt64):Ga s y=some (numM s y):=by
 have hpos:=h.pos;have hyne:y≠0:=fun e=>by rw[e]at hpos; simp at hpos
 obtain⟨t,h1,h2,h3,h4⟩:=h;have hp:(phi s.1 2305843009213693952).toNat=s.1.toNat*2305843009213693952/18446744073709551616:=SC _ _;have hl:(s.1*2305843009213693952).toNat=s.1.toNat*2305843009213693952%18446744073709551616:=UInt64.toNat_mul _ _;have hs1:=s.1.toNat_lt;have hs2:=s.2.toNat_lt;have hc:=TX (s.1*2305843009213693952) s.2;have hsum:(phi s.1 2305843009213693952+GL (s.1*2305843009213693952) s.2).toNat*18446744073709551616+(s.1*2305843009213693952+s.2).toNat=s.1.toNat*2305843009213693952+s.2.toNat:=by
  rw[UInt64.toNat_add,hp];rw[hl]at hc;have hdl:s.1.toNat*2305843009213693952/18446744073709551616<2305843009213693952:=by
   rw[Nat.div_lt_iff_lt_mul (by decide),Nat.mul_comm (2305843009213693952)];exact Nat.mul_lt_mul_of_pos_right hs1 (by decide)
  exact W7 (Nat.div_add_mod' _ _) (Nat.mod_lt _ (by decide)) hdl hc hs2
 have hm:((phi s.1 2305843009213693952+GL (s.1*2305843009213693952) s.2)%y).toNat=(phi s.1 2305843009213693952+GL (s.1*2305843009213693952) s.2).toNat%y.toNat:=UInt64.toNat_mod _ _;obtain⟨q,r,e1,e2⟩:=Qx (hi:=(phi s.1 2305843009213693952+GL (s.1*2305843009213693952) s.2)%y) (lo:=s.1*2305843009213693952+s.2) h1 h2 h3 h4 (by rw[hm]; exact Nat.mod_lt _ hpos);unfold Ga;rw[if_neg (by rw[beq_iff_eq]; omega),Nc,Ab,if_pos hyne];dsimp only;rw[e1,Ab];rw[hm,Nat.add_mod,Nat.mod_mul_mod,←Nat.add_mod,hsum]at e2;rw[SL e2]; rfl
theorem Ur:((List.range 256).all fun n=>decide (n<2^ (str_0.data.toList.getD n 0).toNat)&&decide ((str_0.data.toList.getD n 0).toNat≤8))=true:=by kernel_rfl
theorem Uq:str_0.data.toList.length=256:=by kernel_rfl
theorem tabL (x:UInt64)(hx:x.toNat<256): ∃b,idx str_0.data.toList ((toB (x.toNat:Int)).toNat:Int)=some b∧x.toNat<2^b.toNat∧b.toNat≤8:=by
 have hb:(toB (x.toNat:Int)).toNat=x.toNat:=by unfold toB; rw[UInt8.toNat_ofNat']; omega
 have h:=List.all_eq_true.1 Ur x.toNat (List.mem_range.2 hx);rw[Bool.and_eq_true,decide_eq_true_eq,decide_eq_true_eq]at h;have hlt:x.toNat<str_0.data.toList.length:=by rw[Uq]; exact hx
 rw[List.getD_eq_getElem?_getD,List.getElem?_eq_getElem hlt,Option.getD_some]at h;rw[hb];exact⟨str_0.data.toList[x.toNat],Np (by simp),h.1,h.2⟩
theorem US (a:UInt64): ∃L:Nat,DV a=some (L:Int)∧a.toNat<2^L∧L≤64:=by
 have ha:=a.toNat_lt;have h1: ∃(x:UInt64) (n:Nat),(if(decide ((a.toNat:Int)≥4294967296))=true then some ((Dm a 32),(32:Int))else some (a,0))=some (x,(n:Int))∧n≤32∧x.toNat<4294967296∧a.toNat<(x.toNat+1)*2^n:=by
  split
  ·refine⟨Dm a 32,32,rfl,by omega,?_,?_⟩<;>rw[DX a 32 (by omega)]<;>omega
  ·rename_i h; rw[decide_eq_true_eq]at h; exact⟨a,0,rfl,by omega,by omega,by omega⟩
 obtain⟨x,n,e1,n1,hx,hn⟩:=h1;have h2: ∃(y:UInt64) (k:Nat),(if(decide ((x.toNat:Int)≥65536))=true then some ((Dm x 16),(w64 ((n:Int)+16)))else some (x,(n:Int)))=some (y,(k:Int))∧k≤48∧y.toNat<65536∧a.toNat<(y.toNat+1)*2^k:=by
  split
  ·refine⟨Dm x 16,n+16,by rw[Ev (by omega) (by omega)]; rfl,by omega,?_,?_⟩
   ·rw[DX x 16 (by omega)]; omega
   ·rw[DX x 16 (by omega),Nat.pow_add];refine Nat.lt_of_lt_of_le hn ?_;have:x.toNat+1≤(x.toNat/2^16+1)*2^16:=by omega
    calc (x.toNat+1)*2^n≤((x.toNat/2^16+1)*2^16)*2^n:=Nat.mul_le_mul_right _ this
     _=(x.toNat/2^16+1)*(2^n*2^16):=by rw[Nat.mul_assoc,Nat.mul_comm (2^16)]
  ·rename_i h; rw[decide_eq_true_eq]at h; exact⟨x,n,rfl,by omega,by omega,hn⟩
 obtain⟨y,k,e2,k1,hy,hk⟩:=h2;have h3: ∃(z:UInt64) (j:Nat),(if(decide ((y.toNat:Int)≥256))=true then some ((Dm y 8),(w64 ((k:Int)+8)))else some (y,(k:Int)))=some (z,(j:Int))∧j≤56∧z.toNat<256∧a.toNat<(z.toNat+1)*2^j:=by
  split
  ·refine⟨Dm y 8,k+8,by rw[Ev (by omega) (by omega)]; rfl,by omega,?_,?_⟩
   ·rw[DX y 8 (by omega)]; omega
   ·rw[DX y 8 (by omega),Nat.pow_add];refine Nat.lt_of_lt_of_le hk ?_;have:y.toNat+1≤(y.toNat/2^8+1)*2^8:=by omega
    calc (y.toNat+1)*2^k≤((y.toNat/2^8+1)*2^8)*2^k:=Nat.mul_le_mul_right _ this
     _=(y.toNat/2^8+1)*(2^k*2^8):=by rw[Nat.mul_assoc,Nat.mul_comm (2^8)]
  ·rename_i h; rw[decide_eq_true_eq]at h; exact⟨y,k,rfl,by omega,by omega,hk⟩
 obtain⟨z,j,e3,j1,hz,hj⟩:=h3;obtain⟨b,e4,b1,b2⟩:=tabL z hz;refine⟨j+b.toNat,?_,?_,by omega⟩
 ·unfold DV;rw[e1,Ab];dsimp only;rw[e2,Ab];dsimp only;rw[e3,Ab,e4,Ab,EZ,Ev (n:=(b.toNat:Int)) (by omega) (by omega),Ev (by omega) (by omega)]; rfl
 ·refine Nat.lt_of_lt_of_le hj ?_;rw[Nat.add_comm j,Nat.pow_add];exact Nat.mul_le_mul_right _ b1
def OR (y a n:UInt64):UInt64:=ofN (a.toNat^n.toNat%y.toNat)
theorem UD {y:UInt64}(h:Dv y)(a n:UInt64):(OR y a n).toNat=a.toNat^n.toNat%y.toNat:=SN _ h.pos
theorem XZ (n j:Nat):n&&&2^j=(n.testBit j).toNat*2^j:=by
 apply Nat.eq_of_testBit_eq;intro i;rw[Nat.testBit_and,Nat.testBit_two_pow];by_cases h:j=i
 ·subst h;cases hb:n.testBit j<;>simp[hb,Nat.testBit_two_pow_self]
 ·cases hb:n.testBit j<;>simp[h,Nat.testBit_two_pow]
theorem bit_eq (n:UInt64){j:Nat}(hj:j≤63):(((n&&&(FO 1 j)).toNat:Int) !=0)=decide (n.toNat/2^j%2=1):=by
 have h1:(FO 1 j).toNat=2^j:=by
  rw[JZ hj,show(1:UInt64).toNat=1 from rfl,Nat.one_mul];exact Nat.mod_eq_of_lt (Nat.lt_of_le_of_lt (Nat.pow_le_pow_right (by omega) hj) (by decide))
 have h2:(n&&&(FO 1 j)).toNat=(n.toNat.testBit j).toNat*2^j:=by rw[UInt64.toNat_and,h1,XZ]
 rw[h2];have hp:=Nat.two_pow_pos j;rw[Nat.testBit_eq_decide_div_mod_eq];by_cases hb:n.toNat/2^j%2=1
 ·simp only[hb,decide_true,Bool.toNat_true,Nat.one_mul];rw[bne_iff_ne]; omega
 ·simp only[hb,decide_false,Bool.toNat_false,Nat.zero_mul]; rfl
def mulF (y:UInt64):Unit→UInt64→UInt64→Option (UInt64×Unit):=fun(s1:Unit) (b1:UInt64) (b2:UInt64)=>Ae (A4 y b1 b2) fun x1=>some (x1,())
theorem pow_it {y:UInt64}(h:Dv y)(a n:UInt64): ∀(j:Nat) (out:UInt64),j≤64→out.toNat=a.toNat^ (n.toNat/2^j)%y.toNat→
  ∃r,iter (Bw (fun(s:UInt64×Unit) (b0:Bool)=>Ae (BR (mulF y) a b0 s) fun z=>some (true,z)) n) (j+1) ((j:Int)-1,(out,()))=some (.inl (r,()))∧r.toNat=a.toNat^n.toNat%y.toNat:=by
 intro j;induction j with
 |zero=>
  intro out _ ho;refine⟨out,Cu ?_,by rw[ho]; simp⟩;unfold Bw;rw[if_neg (by simp)]
 |succ j ih=>
  intro out hj ho;have hw:w64 ((((j+1:Nat):Int)-1)-1)=(j:Int)-1:=by rw[Ev (by omega) (by omega)]; omega
  have hk:(((j+1:Nat):Int)-1).toNat=j:=by omega
  have hbit:=bit_eq n (j:=j) (by omega);have hdiv:n.toNat/2^ (j+1)=n.toNat/2^j/2:=by rw[Nat.pow_succ,Nat.div_div_eq_div_mul]
  have hsq:(Ql y out out).toNat=a.toNat^ (2*(n.toNat/2^ (j+1)))%y.toNat:=by
   rw[Qk h,ho,←Nat.mul_mod,←Nat.pow_add,←Nat.two_mul]
  by_cases hb:n.toNat/2^j%2=1
  ·have hn:(Ql y (Ql y out out) a).toNat=a.toNat^ (n.toNat/2^j)%y.toNat:=by
    rw[Qk h,hsq,Nat.mod_mul_mod,←Nat.pow_succ];congr 2; omega
   obtain⟨r,r1,r2⟩:=ih (Ql y (Ql y out out) a) (by omega) hn;refine⟨r,?_,r2⟩;rw[Cr (s':=((j:Int)-1,(Ql y (Ql y out out) a,()))),r1];unfold Bw;dsimp only;rw[if_pos (by rw[decide_eq_true_eq]; omega),if_pos (by omega),hk,hbit];simp only[BR,mulF,Js h,Ab,hb,decide_true,if_true,Bool.not_true,Bool.false_eq_true,if_false,hw]
  ·have hn:(Ql y out out).toNat=a.toNat^ (n.toNat/2^j)%y.toNat:=by
    rw[hsq]; congr 2; omega
   obtain⟨r,r1,r2⟩:=ih (Ql y out out) (by omega) hn;refine⟨r,?_,r2⟩;rw[Cr (s':=((j:Int)-1,(Ql y out out,()))),r1];unfold Bw;dsimp only;rw[if_pos (by rw[decide_eq_true_eq]; omega),if_pos (by omega),hk,hbit];simp only[BR,mulF,Js h,Ab,hb,decide_false,Bool.not_true,Bool.false_eq_true,if_false,hw]
theorem UC {y:UInt64}(h:Dv y)(a n:UInt64)(h1:1<y.toNat):Eh (mulF y) a n ()=some (OR y a n,()):=by
 obtain⟨L,e1,e2,e3⟩:=US n;have hw:w64 ((L:Int)-1)=(L:Int)-1:=Ev (by omega) (by omega);obtain⟨r,r1,r2⟩:=pow_it h a n L 1 e3 (by rw[Nat.div_eq_of_lt e2]; simp; exact(Nat.mod_eq_of_lt h1).symm);have r1':=HP _ r1 (by omega);unfold Eh D5;rw[show ET n=some n from rfl,Ab,e1,Ab,hw,r1',Ab];simp only[Ab];rw[SL r2]; rfl
theorem Sz (a n:UInt64):CH a n=some (OR 2305843009213691579 a n):=by
 unfold CH;have:=UC dvQ a n (by decide);unfold mulF at this;rw[this,Ab]
theorem XY (n:UInt64):CI n=some (OR 2305843009213691579 4 n):=by
 unfold CI;rw[Sz,Ab]
end Go.Proofs.YtbajlmaijjcbmaaGreatDoor
end
section
namespace Go.Proofs.YtbajlmaijjcbmaaGreatDoor
open Go Go.Gw Go.Ax
theorem Xk {u v:Int}{q:Nat}(hs:0≤u∧v≤0∨u≤0∧0≤v):(u-(q:Int)*v).natAbs=u.natAbs+q*v.natAbs∧((q:Int)*v).natAbs=q*v.natAbs∧(0≤v∧u-(q:Int)*v≤0∨v≤0∧0≤u-(q:Int)*v):=by
 have hqv:((q:Int)*v).natAbs=q*v.natAbs:=by rw[Int.natAbs_mul,Int.natAbs_natCast]
 have h1:0≤v→0≤(q:Int)*v:=fun h=>Int.mul_nonneg (Int.natCast_nonneg q) h;have h2:v≤0→(q:Int)*v≤0:=fun h=>Int.mul_nonpos_of_nonneg_of_nonpos (Int.natCast_nonneg q) h;refine⟨?_,hqv,?_⟩
 ·rw[←hqv];generalize (q:Int)*v=z at*;omega
 ·generalize (q:Int)*v=z at*;omega
theorem inv_it (m:Nat)(a:Int)(hm2:m<2305843009213693952): ∀(n:Nat) (x y:UInt64) (u v:Int),y.toNat≤n→(∃k,u*a=x.toNat+k*m)→(∃k,v*a=y.toNat+k*m)→u.natAbs*y.toNat+v.natAbs*x.toNat=m→
  (0≤u∧v≤0∨u≤0∧0≤v)→x.toNat≤m→u.natAbs≤m→v.natAbs≤m→y.toNat≤m→
  ∃r:Int,iter A5 (n+1) (x,y,u,v)=some r∧(∃k,r*a=Nat.gcd x.toNat y.toNat+k*m)∧r.natAbs≤m:=by
 intro n;induction n with
 |zero=>
  intro x y u v hy hu hv hb hs hx hul hvl hyl;have hy0:y.toNat=0:=by omega
  refine⟨u,Cu ?_,by rw[hy0,Nat.gcd_zero_right]; exact hu,hul⟩;unfold A5;rw[if_neg (by simp[hy0])]
 |succ n ih=>
  intro x y u v hy hu hv hb hs hx hul hvl hyl;by_cases hy0:y.toNat=0
  ·refine⟨u,Cu ?_,by rw[hy0,Nat.gcd_zero_right]; exact hu,hul⟩;unfold A5;rw[if_neg (by simp[hy0])]
  ·have hyne:y≠0:=fun e=>hy0 (by rw[e]; rfl);have hdm:=Nat.div_add_mod' x.toNat y.toNat;have hmod:=Nat.mod_lt x.toNat (show 0<y.toNat by omega);have hql:x.toNat/y.toNat≤x.toNat:=Nat.div_le_self _ _;have hmul:x.toNat/y.toNat*y.toNat≤x.toNat:=Nat.div_mul_le_self _ _;have hxl:=x.toNat_lt;have hgcd:Nat.gcd x.toNat y.toNat=Nat.gcd y.toNat (x.toNat%y.toNat):=by rw[Nat.gcd_comm,Nat.gcd_rec,Nat.gcd_comm]
   have eq1:(x/y).toNat=x.toNat/y.toNat:=UInt64.toNat_div _ _;have eq2:((x/y)*y).toNat=x.toNat/y.toNat*y.toNat:=by rw[UInt64.toNat_mul,eq1]; exact Nat.mod_eq_of_lt (Nat.lt_of_le_of_lt hmul hxl)
   have eq3:(x-(x/y)*y).toNat=x.toNat%y.toNat:=by
    rw[UInt64.toNat_sub_of_le _ _ (by rw[UInt64.le_iff_toNat_le,eq2]; exact hmul),eq2];omega
   generalize hq:x.toNat/y.toNat=q at*;generalize hr:x.toNat%y.toNat=r at*;obtain⟨habs,hqv,hs'⟩:=Xk (q:=q) hs;have hbal:v.natAbs*r+(u-(q:Int)*v).natAbs*y.toNat=m:=by
    rw[habs,←hb,←hdm]; grind
   have hvm:(u-(q:Int)*v).natAbs≤m:=by
    have:(u-(q:Int)*v).natAbs*1≤(u-(q:Int)*v).natAbs*y.toNat:=Nat.mul_le_mul_left _ (by omega);omega
   have hqb:((q:Int)*v).natAbs≤m:=by omega
   have w1:w64 (q:Int)=(q:Int):=Ev (by omega) (by omega);have w2:w64 ((q:Int)*v)=(q:Int)*v:=by
    generalize (q:Int)*v=z at*;exact Ev (by omega) (by omega)
   have w3:w64 (u-(q:Int)*v)=u-(q:Int)*v:=by
    generalize u-(q:Int)*v=z at*;exact Ev (by omega) (by omega)
   have hdmI:(q:Int)*(y.toNat:Int)+(r:Int)=(x.toNat:Int):=by exact_mod_cast hdm
   obtain⟨t,t1,t2,t3⟩:=ih y (x-(x/y)*y) v (u-(q:Int)*v) (by rw[eq3]; omega) hv (by
    obtain⟨k,hk⟩:=hu;obtain⟨l,hl⟩:=hv;refine⟨k-q*l,?_⟩;rw[eq3];grind) (by rw[eq3]; exact hbal) (by omega) hyl hvl hvm (by rw[eq3]; omega)
   rw[eq3,←hgcd]at t2;refine⟨t,?_,t2,t3⟩;rw[Cr (s':=(y,x-(x/y)*y,v,u-(q:Int)*v)),t1];unfold A5;dsimp only;rw[if_pos (by simp; omega),if_pos hyne,eq1,EZ,w1,w2,w3,EZ]
theorem inv_eq {a:UInt64}{b:Nat}(h:a.toNat*b%GQ=1): ∃z:UInt64,C0 a=some (z,0)∧z.toNat*a.toNat%GQ=1:=by
 have hm:(a%2305843009213691579).toNat=a.toNat%GQ:=UInt64.toNat_mod _ _;have hml:=Nat.mod_lt a.toNat (show 0<GQ by decide);have hne:a.toNat%GQ≠0:=fun e=>by
  rw[Nat.mul_mod,e,Nat.zero_mul,Nat.zero_mod]at h; cases h
 have hg:Nat.gcd (a.toNat%GQ) GQ=1:=by
  have d1:=Nat.gcd_dvd_left (a.toNat%GQ) GQ;have d2:=Nat.gcd_dvd_right (a.toNat%GQ) GQ;have h':a.toNat%GQ*b%GQ=1:=by rw[Nat.mod_mul_mod]; exact h
  have h2:=Nat.div_add_mod (a.toNat%GQ*b) GQ;rw[h']at h2;have d3:Nat.gcd (a.toNat%GQ) GQ ∣ GQ*(a.toNat%GQ*b/GQ)+1:=by rw[h2]; exact Nat.dvd_trans d1 (Nat.dvd_mul_right _ _)
  have d4:=(Nat.dvd_add_right (Nat.dvd_trans d2 (Nat.dvd_mul_right GQ (a.toNat%GQ*b/GQ)))).1 d3;exact Nat.dvd_one.1 d4
 obtain⟨r,r1,⟨k,r2⟩,r3⟩:=inv_it GQ (a.toNat%GQ:Nat) (by decide) GQ (a%2305843009213691579) 2305843009213691579 1 0 (by decide) ⟨0,by rw[hm]; simp⟩ ⟨-1,by
  rw[show(2305843009213691579:UInt64).toNat=GQ from rfl]; simp⟩ (by rw[show(2305843009213691579:UInt64).toNat=GQ from rfl]; simp) (by omega) (by rw[hm]; omega) (by decide) (by decide) (by decide)
 rw[hm,show(2305843009213691579:UInt64).toNat=GQ from rfl,hg]at r2;have r1':=HP _ r1 (by decide);have hw:w64 (((2305843009213691579:UInt64).toNat:Int))=(GQ:Int):=Ev (by decide) (by decide);have hz: ∃z:Nat,(if(decide (r<0))=true then bnd ((w64 (r+(w64 (((2305843009213691579:UInt64).toNat:Int)))))) fun x7=>some x7 else some r)=some (z:Int)∧z≤GQ∧∃l:Int,(z:Int)*(a.toNat%GQ:Nat)=1+l*GQ:=by
  simp only[GQ]at*;by_cases hneg:r<0
  ·rw[if_pos (by simpa using hneg),hw,EZ,Ev (by omega) (by omega)];obtain⟨z,hz⟩:=Int.eq_ofNat_of_zero_le (show 0≤r+2305843009213691579 by omega);refine⟨z,by rw[←hz]; rfl,by omega,k+(a.toNat%2305843009213691579:Nat),?_⟩;rw[←hz,Int.add_mul,r2];grind
  ·rw[if_neg (by simpa using hneg)];obtain⟨z,hz⟩:=Int.eq_ofNat_of_zero_le (show 0≤r by omega);exact⟨z,by rw[hz],by omega,k,by rw[←hz]; exact r2⟩
 obtain⟨z,z1,z2,l,z3⟩:=hz;have hzn:(toU (z:Int)).toNat=z:=N7 (by simp only[GQ]at z2; omega);refine⟨toU (z:Int),?_,?_⟩
 ·unfold C0 CG;rw[if_pos (by decide),if_neg (by rw[beq_iff_eq,hm]; omega),r1',Ab,Ab,z1,Ab,Ab]
 ·rw[hzn,←Nat.mul_mod_mod];have:((z*(a.toNat%GQ):Nat):Int)=1+l*GQ:=by rw[Int.natCast_mul]; exact z3
  generalize z*(a.toNat%GQ)=w at*;simp only[GQ]at*;omega
end Go.Proofs.YtbajlmaijjcbmaaGreatDoor
end
section
namespace Go.Proofs.YtbajlmaijjcbmaaGreatDoor
open Go Go.Gw Go.Ax
theorem OL (n:UInt64):CY n=some (OQ 8 n):=by
 unfold CY;simp[Cs,EL,idx,w64,EZ,OQ]
def pubK (k:UInt64):UInt64:=OR 2305843009213691579 4 k
def chal (c p:UInt64)(msg:List UInt8):UInt64:=numM (ptag ⟨#[115,105,103,110]⟩ [OQ 8 c,OQ 8 p,msg]) 1152921504606845789
theorem XP (c p:UInt64){msg:List UInt8}(h:msg.length≤600000):B8 c p msg=some (chal c p msg):=by
 unfold B8;rw[OL,Ab,OL,Ab,RM _ _ (by simp[W2,IV]; omega),Ab,num_eq dvR,Ab]; rfl
def VM (k:UInt64)(msg:List UInt8):UInt64:=numM (ptag ⟨#[110,111,110,99,101]⟩ [OQ 8 k,msg]) 1152921504606845788+1
def signE (k:UInt64)(msg:List UInt8):UInt64:=chal (pubK (VM k msg)) (pubK k) msg
def signS (k:UInt64)(msg:List UInt8):g_api_Sig:=⟨signE k msg,addM 1152921504606845789 (Ql 1152921504606845789 (signE k msg) k) (VM k msg)⟩
def gr:Nat:=GR
theorem Qe (a n:UInt64):(OR 2305843009213691579 a n).toNat=a.toNat^n.toNat%GQ:=UD dvQ a n
theorem Xj {p e k:Nat}(hp:p^gr%GQ=1)(he:e≤gr):p^e%GQ*p^ (gr-e)%GQ=1:=by
 rw[Nat.mod_mul_mod,←Nat.pow_add,Nat.add_sub_cancel' he]; exact hp
theorem Tq {α:Type} [Inhabited α](o:Option α):gu true o=o:=rfl
end Go.Proofs.YtbajlmaijjcbmaaGreatDoor
end
section
namespace Go.Proofs.YtbajlmaijjcbmaaGreatDoor
open Go Go.Gw Go.Ax
def radd (a b:UInt64):UInt64:=((a%2305843009213693951)+(b%2305843009213693951))%2305843009213693951
end Go.Proofs.YtbajlmaijjcbmaaGreatDoor
end
section
namespace Go.Gw
open Go
end Go.Gw
end
section
namespace Go.Proofs.YtbajlmaijjcbmaaGreatDoor
open Go Go.Gw Go.Ax
end Go.Proofs.YtbajlmaijjcbmaaGreatDoor
end
section
namespace Go.Proofs.YtbajlmaijjcbmaaGreatDoor
open Go Go.Gw Go.Ax
end Go.Proofs.YtbajlmaijjcbmaaGreatDoor
end
section
namespace Go.Proofs.YtbajlmaijjcbmaaGreatDoor
open Go Go.Gw Go.Ax
theorem UA (p z:UInt64){msg:List UInt8}(s:g_api_Sig)(hm:msg.length≤600000)(hz:C0 (OR 2305843009213691579 p s.E)=some (z,0)):
  (Ae (CH p s.E) fun x2=>Ae (C0 x2) fun x3=>Ae (gu (!(x3.2 !=0)) (CI s.S)) fun x4=>Ae (gu (!(x3.2 !=0)) (FC x4 x3.1)) fun x5=>Ae (gu (!(x3.2 !=0)) (B8 x5 p msg)) fun x6=>
   if((x3.2 !=0)||((x6.toNat:Int) !=(s.E.toNat:Int)))=true then some (40:Int)else some 0)
   =if(((chal (Ql 2305843009213691579 (pubK s.S) z) p msg).toNat:Int) !=(s.E.toNat:Int))=true then some 40 else some 0:=by
 have e1:((z,(0:Int)).2 !=0)=false:=rfl;unfold FC;rw[Sz,Ab,hz,Ab,e1,Bool.not_false,Tq,XY,Ab,Tq,Js dvQ,Ab,Ab,Tq];dsimp only;rw[show OR 2305843009213691579 4 s.S=pubK s.S from rfl,XP _ _ hm,Ab,Bool.false_or]
theorem inv_of {p E:UInt64}(hpow:p.toNat^gr%GQ=1)(hE:E.toNat≤gr): ∃z:UInt64,C0 (OR 2305843009213691579 p E)=some (z,0)∧z.toNat*(OR 2305843009213691579 p E).toNat%GQ=1:=by
 have hinv:(OR 2305843009213691579 p E).toNat*p.toNat^ (gr-E.toNat)%GQ=1:=by
  rw[Qe]; exact Xj (k:=0) hpow hE
 exact inv_eq hinv
theorem le_gr {E:UInt64}(hE:E.toNat<1152921504606845789):E.toNat≤gr:=Nat.le_of_lt hE
theorem max_ge {a b:UInt64}:decide (((Nh a b).toNat:Int)≥1152921504606845789)=(decide ((a.toNat:Int)≥1152921504606845789)||decide ((b.toNat:Int)≥1152921504606845789)):=by
 rw[Bool.eq_iff_iff,Bool.or_eq_true,decide_eq_true_eq,decide_eq_true_eq,decide_eq_true_eq];unfold Nh;split
 ·rename_i hlt;have:=UInt64.lt_iff_toNat_lt.1 hlt;omega
 ·rename_i hlt;have:=mt UInt64.lt_iff_toNat_lt.2 hlt;omega
theorem W0 {p:UInt64}(h:((OR 2305843009213691579 p 1152921504606845789).toNat:Int)=1):p.toNat^gr%GQ=1:=by
 have h1:=Qe p 1152921504606845789;rw[show(1152921504606845789:UInt64).toNat=gr from rfl]at h1;rw[←h1];exact Int.ofNat.inj h
theorem XU {a b:UInt64}(h:(decide ((a.toNat:Int)≥1152921504606845789)||decide ((b.toNat:Int)≥1152921504606845789))=false):a.toNat<1152921504606845789:=by
 rw[Bool.or_eq_false_iff,decide_eq_false_iff_not]at h;have:=h.1;omega
theorem inP_eq (p:UInt64):Gp p=some (((decide ((p.toNat:Int)>0))&&(decide ((p.toNat:Int)<2305843009213691579)))&&(((OR 2305843009213691579 p 1152921504606845789).toNat:Int)==1)):=by
 unfold Gp;cases (decide ((p.toNat:Int)>0))&&(decide ((p.toNat:Int)<2305843009213691579))
 ·simp only[gu,cond_false,Ab,EZ,Bool.false_and]
 ·simp only[gu,cond_true,Sz,Ab,EZ,Bool.true_and]
theorem in_one {p:UInt64}(h:(((decide ((p.toNat:Int)>0))&&(decide ((p.toNat:Int)<2305843009213691579)))&&(((OR 2305843009213691579 p 1152921504606845789).toNat:Int)==1))=true):((OR 2305843009213691579 p 1152921504606845789).toNat:Int)=1:=by
 rw[Bool.and_eq_true]at h;exact beq_iff_eq.1 h.2
theorem TU (p:UInt64){msg:List UInt8}(s:g_api_Sig)(hm:msg.length≤600000): ∃e,CZ p msg s=some e:=by
 unfold CZ;rw[inP_eq,Ab,max_ge];cases h1:((decide ((p.toNat:Int)>0))&&(decide ((p.toNat:Int)<2305843009213691579)))&&(((OR 2305843009213691579 p 1152921504606845789).toNat:Int)==1)with
 |false=>rw[Bool.not_false,if_pos rfl]; exact⟨_,rfl⟩
 |true=>
  rw[Bool.not_true,if_neg Bool.false_ne_true];cases h2:(decide ((s.E.toNat:Int)≥1152921504606845789)||decide ((s.S.toNat:Int)≥1152921504606845789))with
  |true=>rw[if_pos rfl]; exact⟨_,rfl⟩
  |false=>
   rw[if_neg Bool.false_ne_true];obtain⟨z,z1,z2⟩:=inv_of (W0 (in_one h1)) (le_gr (XU h2));rw[UA p z s hm z1];split<;>exact⟨_,rfl⟩
end Go.Proofs.YtbajlmaijjcbmaaGreatDoor
end
section
namespace Go.Proofs.YtbajlmaijjcbmaaGreatDoor
open Go Go.Gw Go.Ax
theorem Pt:GF=some true:=by kernel_rfl
end Go.Proofs.YtbajlmaijjcbmaaGreatDoor
end
section
namespace Go.Proofs.YtbajlmaijjcbmaaGreatDoor
open Go Go.Gw Go.Ax
theorem Qw {l:List g_api_Cert}{k:Nat}(hk:k≤1000): ∀(r:List g_api_Cert) (i n:Nat),l.drop i=r→i≤k→k-i<n→
  ∃t,iter (BB l (k:Int)) n (i:Int)=some t∧((t= .inl ()∧∀c∈r.take (k-i),FewP c)∨t= .inr false)
 |r,i,0,_,_,h=>by omega
 | [],i,n+1,h,hi,hn=>by
  have hl:l.length≤i:=List.drop_eq_nil_iff.1 h;have e:BB l (k:Int) (i:Int)=some (.inr (.inl ())):=by
   unfold BB; rw[decide_eq_false (by omega)]; rfl
  exact⟨.inl (),Cu e,.inl ⟨rfl,by simp⟩⟩
 |c::r,i,n+1,h,hi,hn=>by
  obtain⟨hc,hr,hlt⟩:=Du h;by_cases hik:i=k
  ·have e:BB l (k:Int) (i:Int)=some (.inr (.inl ())):=by
    unfold BB; rw[decide_eq_true (by omega),decide_eq_false (by omega)]; rfl
   exact⟨.inl (),Cu e,.inl ⟨rfl,by rw[hik]; simp⟩⟩
  obtain⟨f,hf⟩:=XF c;have e:BB l (k:Int) (i:Int)=some (if f=true then .inl ((i+1:Nat):Int)else .inr (.inr false)):=by
   unfold BB;rw[decide_eq_true (by omega),decide_eq_true (by omega),Bool.and_self,if_pos rfl,BX hc,Ab,hf,Ab,Jk (by omega)];cases f<;>rfl
  cases f with
  |false=>exact⟨.inr false,Cu e,.inr rfl⟩
  |true=>
   obtain⟨t,ht,hq⟩:=Qw hk r (i+1) n hr (by omega) (by omega);refine⟨t,(Cr e).trans ht,?_⟩;rcases hq with ⟨h1,h2⟩|h1
   ·refine .inl ⟨h1,?_⟩;have:k-i=(k-(i+1))+1:=by omega
    rw[this,List.take_succ_cons];intro x hx;rcases List.mem_cons.1 hx with rfl|hx
    ·exact few_ok hf
    ·exact h2 x hx
   ·exact .inr h1
theorem few19 (l:List g_api_Cert)(k:Nat)(hk:k≤1000): ∃b,DH l (k:Int)=some b∧(b=true→l.length≤k∧∀c∈l,FewP c):=by
 unfold DH;obtain⟨t,ht,hq⟩:=Qw (l:=l) hk l 0 Dh rfl (Nat.zero_le _) (by unfold Dh; omega);have ht:iter (BB l (k:Int)) Dh 0=some t:=ht;rw[ht,Ab];rcases hq with ⟨rfl,h⟩|rfl
 ·refine⟨decide ((l.length:Int)≤(k:Int)),rfl,fun hb=> ?_⟩;have hb:=of_decide_eq_true hb;refine⟨by omega,fun c hc=>h c ?_⟩;rw[List.take_of_length_le (by omega)]; exact hc
 ·exact⟨false,rfl,fun h=>by cases h⟩
theorem TD (l r:List g_api_Cert)(s:ByteArray): ∃b,Fi l r s=some b∧(b=true→l.length≤5∧(∀c∈l,FewP c)∧r.length≤6∧(∀c∈r,FewP c)∧s.size≤200):=by
 unfold Fi;obtain⟨a,ha,h1⟩:=few19 l 5 (by decide);obtain⟨b,hb,h2⟩:=few19 r 6 (by decide);have ha:DH l 5=some a:=ha;have hb:DH r 6=some b:=hb;rw[ha,Ab,hb,Ab];refine⟨(a&&b)&&decide ((s.size:Int)≤200),rfl,fun h=> ?_⟩;simp only[Bool.and_eq_true,decide_eq_true_eq]at h;obtain⟨⟨ha1,hb1⟩,hs⟩:=h;exact⟨(h1 ha1).1,(h1 ha1).2,(h2 hb1).1,(h2 hb1).2,by omega⟩
end Go.Proofs.YtbajlmaijjcbmaaGreatDoor
end
