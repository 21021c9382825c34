/- Several texts, one behind the other. Conditions: none. -/
import Derived.Test.YtbajlmaijjcbmaaGreatDoorZg
import Derived.Test.YtbajlmaijjcbmaaGreatDoorZh
import Derived.Test.YtbajlmaijjcbmaaGreatDoorZi
set_option linter.unusedSimpArgs false
set_option linter.unusedVariables false
set_option maxHeartbeats 2000000
set_option maxRecDepth 100000
section
namespace Go.Proofs.YtbajlmaijjcbmaaGreatDoor
open Go Go.Gw Go.Ax
def Tot {α:Type}(x:Option α):Prop:= ∃r,x=some r
theorem tot {α:Type}(r:α):Tot (some r):=⟨r,rfl⟩
theorem Ct {α β:Type}{x:Option α}{k:α→Option β}(h:Tot x)(hk: ∀a,x=some a→Tot (k a)):Tot (Ac x k):=by
 obtain⟨a,h⟩:=h;rw[h]; exact hk a h
theorem LH {α:Type} [Inhabited α]{b:Bool}{x:Option α}(h:b=true→Tot x):Tot (gu b x):=by
 cases b with
 |true=>exact h rfl
 |false=>exact tot default
theorem Oc {α:Type}{b:Bool}{x y:Option α}(h1:b=true→Tot x)(h0:b=false→Tot y):Tot (if b=true then x else y):=by
 cases b with
 |true=>exact h1 rfl
 |false=>exact h0 rfl
theorem Abn {α:Type}{c:Prop} [Decidable c]{x y:Option α}(h1:c→Tot x)(h0: ¬c→Tot y):Tot (if c then x else y):=by
 split
 ·exact h1 ‹_›
 ·exact h0 ‹_›
theorem Mb {σ τ:Type}{step:σ→Option (σ⊕τ)}(μ:σ→Nat)(I:σ→Prop)(Q:τ→Prop)
  (h: ∀s,I s→∃r,step s=some r∧(∀s',r= .inl s'→I s'∧μ s'<μ s)∧∀t,r= .inr t→Q t): ∀n s,I s→μ s<n→∃t,iter step n s=some t∧Q t
 |0,s,_,hn=>by omega
 |n+1,s,hI,hn=>by
  obtain⟨r,h1,h2,h3⟩:=h s hI;cases r with
  |inr t=>exact⟨t,by show Ac (step s) _=_; rw[h1]; rfl,h3 t rfl⟩
  |inl s'=>
   obtain⟨i',lt⟩:=h2 s' rfl;obtain⟨t,e,q⟩:=Mb μ I Q h n s' i' (by omega);exact⟨t,by show Ac (step s) _=_; rw[h1]; exact e,q⟩
theorem PW (s:ByteArray)(i:Nat):1≤(Utf8.decode s i).2:=by
 unfold Utf8.decode;simp only;repeat' split
 all_goals simp
theorem BA:9223372036854775808≤AR:=Nat.le_of_ble_eq_true rfl
theorem WE (c:Int):GI c=some (decide (c≤32)||decide (c>126)):=rfl
theorem Ri (s:ByteArray)(b:Bool)(hs:s.size<9223372036854775808):Tot (BL s b):=by
 unfold BL;refine Ct ?_ fun a _=> ?_
 ·obtain⟨t,e,_⟩:=Mb (step:=Ao s b) (fun i=>s.size-i) (fun _=>True) (fun _=>True) (fun i _=>by
   unfold Ao;by_cases hi:i<s.size
   ·rw[if_pos hi];simp only[bnd,WE,Ab];split
    ·exact⟨_,rfl,fun s' h=>(by cases h),fun _ _=>trivial⟩
    ·refine⟨_,rfl,fun s' h=> ?_,fun _ _=>trivial⟩;cases h;have:=PW s i;exact⟨trivial,by omega⟩
   ·rw[if_neg hi];exact⟨_,rfl,fun s' h=>(by cases h),fun _ _=>trivial⟩) AR 0 trivial (by have:=BA; omega)
  exact⟨t,e⟩
 ·cases a with
  |inl _=>exact tot _
  |inr _=>exact tot _
theorem Zf (s:ByteArray):Tot (Dd s):=by
 unfold Dd;refine Ct (LH fun h=> ?_) fun a _=>tot _;simp only[Bool.and_eq_true,decide_eq_true_eq]at h;unfold Bj Cc;refine Ct (Ct (Ri s true (by omega)) fun a _=>tot _) fun a _=>tot _
theorem WD {s:ByteArray}{b:Bool}(h:Dd s=some b):b=true→eqS s (⟨#[]⟩:ByteArray)=false∧s.size≤64:=by
 unfold Dd at h;obtain⟨x,_,h⟩:=Aa h;have h:=Option.some.inj (AO h);intro hb;rw[hb]at h;simp only[Bool.and_eq_true,Bool.not_eq_true',decide_eq_true_eq]at h;exact⟨h.1.1,by omega⟩
theorem Rp (c:Int):Tot (CF c):=tot _
theorem Yf (c:Int):Tot (CA c):=by
 unfold CA;exact Ct (LH fun _=>Rp c) fun a _=>tot _
theorem XW (s:ByteArray):Tot (DF s):=by
 unfold DF;refine Oc (fun _=>tot _) fun h=> ?_;simp only[Bool.or_eq_false_iff,decide_eq_false_iff_not]at h;refine Ct ?_ fun a _=> ?_
 ·obtain⟨t,e,_⟩:=Mb (step:=AW s) (fun i=>s.size-i) (fun _=>True) (fun _=>True) (fun i _=>by
   unfold AW;by_cases hi:i<s.size
   ·rw[if_pos hi];have hd:=PW s i;obtain⟨x4,h4⟩:=LH (b:=((i:Int)==(w64 ((s.size:Int)-1)))) fun _=>Rp ((Utf8.decode s i).1:Int);obtain⟨x7,h7⟩:=LH (b:=((i:Int)==0)) fun _=>Rp ((Utf8.decode s i).1:Int);obtain⟨x9,h9⟩:=LH (b:=(!((i:Int)==0))) fun _=>Yf ((Utf8.decode s i).1:Int);simp only[bnd,h4,h7,h9,Ab];split
    ·exact⟨_,rfl,fun s' h=>(by cases h; exact⟨trivial,by omega⟩),fun _ _=>trivial⟩
    ·split
     ·exact⟨_,rfl,fun s' h=>(by cases h),fun _ _=>trivial⟩
     ·split
      ·exact⟨_,rfl,fun s' h=>(by cases h; exact⟨trivial,by omega⟩),fun _ _=>trivial⟩
      ·split
       ·exact⟨_,rfl,fun s' h=>(by cases h),fun _ _=>trivial⟩
       ·exact⟨_,rfl,fun s' h=>(by cases h; exact⟨trivial,by omega⟩),fun _ _=>trivial⟩
   ·rw[if_neg hi];exact⟨_,rfl,fun s' h=>(by cases h),fun _ _=>trivial⟩) AR 0 trivial (by have:=BA; omega)
  exact⟨t,e⟩
 ·cases a with
  |inl _=>exact tot _
  |inr _=>exact tot _
theorem AaP: ∀(l:List UInt8) (c:UInt8),Lib.indexByte l c<l.length
 | [],c=>by simp[Lib.indexByte]
 |b::l,c=>by
  have:=AaP l c;unfold Lib.indexByte;split
  ·rw[List.length_cons]; omega
  ·split
   ·rw[List.length_cons]; omega
   ·rw[List.length_cons]; omega
theorem AA (s:ByteArray):s.data.toList.length=s.size:=by rw[Array.length_toList]; rfl
theorem SL (s:ByteArray): ∃x:Int,Bi s (⟨#[46]⟩:ByteArray)=some x∧ -1≤x∧x<s.size:=by
 unfold Bi Ay Ba;simp only[bnd];by_cases h:((((⟨#[46]⟩:ByteArray).size:Int)==0)||eqS (⟨#[46]⟩:ByteArray) s)=true
 ·rw[if_pos h];refine⟨0,rfl,by omega,?_⟩;have h1:eqS (⟨#[46]⟩:ByteArray) s=true:=by
   cases he:eqS (⟨#[46]⟩:ByteArray) s with
   |true=>rfl
   |false=>rw[he]at h; cases h
  have h2: [(46:UInt8)]=s.data.toList:=by simpa[eqS]using h1
  have h3:=AA s;rw[←h2]at h3;simp only[List.length_cons,List.length_nil]at h3;omega
 ·rw[if_neg h];refine⟨Vb s 46,rfl,Lib.indexByte_ge _ _,?_⟩;have:=AaP s.data.toList 46;rw[AA]at this;exact this
theorem CW {x:Int}(h0: -9223372036854775808≤x)(h1:x≤9223372036854775807):w64 x=x:=by
 unfold w64; omega
theorem CY {s:ByteArray}{lo hi:Int}(h0:0≤lo)(h1:lo≤hi)(h2:hi≤s.size):KP s lo hi=some (s.extract lo.toNat hi.toNat):=by
 unfold KP; rw[if_pos ⟨h0,h1,h2⟩]
theorem U2 (s:ByteArray)(n k:Int)(hk:k≤64):Tot (Bc s n k):=by
 unfold Bc;refine Ct ?_ fun x2 hx2=> ?_
 ·refine Oc (fun _=>tot _) fun _=> ?_;exact⟨_,rfl⟩
 ·refine Oc (fun _=>tot _) fun h=> ?_;have hsz:s.size≤64:=by
   cases hd:decide ((s.size:Int)>k)with
   |true=>rw[if_pos hd]at hx2; cases hx2; cases h
   |false=>simp only[decide_eq_false_iff_not]at hd; omega
  have key: ∃r,Bd (fun(s:(Unit)×Nat) (b0:ByteArray)=>if s.2=0 then Ac (BF b0 s) fun y=>some (y.2==0,y)else none) (⟨#[46]⟩:ByteArray) s 0 ((),0)=some r:=by
   have hb5: ∀(b0:ByteArray) (s:Unit×Nat),∃z:Nat,BF b0 s=some ((),z):=fun b0 s=>by
    unfold BF;obtain⟨y,hy⟩:=XW b0;rw[hy];simp only[Ab];split
    ·exact⟨1,rfl⟩
    ·exact⟨0,rfl⟩
   unfold Bd;rw[if_neg (by decide)];obtain⟨tt,hit,hq⟩: ∃t,iter (AF (fun(s:(Unit)×Nat) (b0:ByteArray)=>if s.2=0 then Ac (BF b0 s) fun y=>some (y.2==0,y)else none) (⟨#[46]⟩:ByteArray) 0) AR (s,((),0))=some t∧∀y,t= .inl y→y.2.2=0:=by
    exact Mb (step:=AF (fun(s:(Unit)×Nat) (b0:ByteArray)=>if s.2=0 then Ac (BF b0 s) fun y=>some (y.2==0,y)else none) (⟨#[46]⟩:ByteArray) 0) (fun z=>z.1.size) (fun z=>z.1.size≤64∧z.2.2=0) (fun t=> ∀y,t= .inl y→y.2.2=0) (fun z hz=>by
     obtain⟨x,h1,h2,h3⟩:=SL z.1;unfold AF;rw[h1];simp only[Ab];by_cases hx:x<0
     ·rw[if_pos (by simpa using hx)];exact⟨_,rfl,fun s' h=>(by cases h),fun t ht y hy=>by subst hy; cases ht; exact hz.2⟩
     ·rw[if_neg (by simpa using hx)];have hw:w64 (x+0)=x:=by rw[Int.add_zero]; exact CW (by omega) (by omega)
      have hw1:w64 (x+((⟨#[46]⟩:ByteArray).size:Int))=x+1:=CW (x:=x+1) (by omega) (by omega);rw[hw,hw1,CY (by omega) (by omega) (by omega),CY (lo:=x+1) (by omega) (by omega) (by omega)];simp only[Ab,if_pos hz.2];obtain⟨zz,hzz⟩:=hb5 (z.1.extract (0:Int).toNat x.toNat) z.2;rw[hzz];simp only[Ab];split
      ·exact⟨_,rfl,fun s' h=>(by cases h),fun t ht y hy=>by subst hy; cases ht⟩
      ·rename_i hne;refine⟨_,rfl,fun s' h=> ?_,fun t ht=>by cases ht⟩;cases h;have e0:zz=0:=by simpa using hne
       refine⟨⟨?_,e0⟩,?_⟩
       ·simp only[ByteArray.size_extract]; omega
       ·simp only[ByteArray.size_extract]; omega) AR (s,((),0)) ⟨hsz,rfl⟩ (by have:=BA; show s.size<AR; omega)
   show Tot (Ac (iter _ AR (s,((),0))) _);rw[hit];cases tt with
   |inr _=>exact tot _
   |inl y3=>
    have h0:=hq y3 rfl;obtain⟨zz,hzz⟩:=hb5 y3.1 y3.2;simp only[Ab,if_pos h0,hzz];exact tot _
  obtain⟨r,hr⟩:=key;show Tot (Ac (Bd _ (⟨#[46]⟩:ByteArray) s 0 ((),0)) _);rw[hr];simp only[Ab];exact Abn (fun _=>tot _) fun _=>tot _
theorem AaQ (s:ByteArray):Tot (CO s):=Ct (U2 s 8 64 (by decide)) fun a _=>tot _
theorem Y0 (s:ByteArray):Tot (CB s):=by
 unfold CB;refine Ct (AaQ s) fun a _=>Ct ?_ fun a _=>tot _;unfold D6;exact Oc (fun _=>tot _) fun _=>tot _
theorem Rv (s:ByteArray):Tot (By s (⟨#[42,46]⟩:ByteArray)):=by
 unfold By AK AJ;refine Ct (Ct (Ct (LH fun h=> ?_) fun a _=>tot _) fun b hb=> ?_) fun a _=>tot _
 ·simp only[decide_eq_true_eq]at h;exact⟨_,CY (by omega) (by omega) h⟩
 ·refine Oc (fun _=>tot _) fun h=> ?_;obtain⟨x,_,hx⟩:=Aa hb;have hx:=Option.some.inj (AO hx);have hb:b=true:=by simpa using h
  rw[hb]at hx;simp only[Bool.and_eq_true,decide_eq_true_eq]at hx;exact Ct ⟨_,CY (by omega) hx.1 (by omega)⟩ fun a _=>tot _
theorem Uu (s:ByteArray):Tot (B7 s):=by
 unfold B7 Cj;refine Ct (Ct (AaQ s) fun a _=>Oc (fun _=>tot _) fun _=>Ct (Rv s) fun b _=>Ct (LH fun _=>U2 _ 7 62 (by decide)) fun c _=>tot _) fun a _=>Ct ?_ fun a _=>tot _;unfold D6;exact Oc (fun _=>tot _) fun _=>tot _
end Go.Proofs.YtbajlmaijjcbmaaGreatDoor
end
section
namespace Go.Proofs.YtbajlmaijjcbmaaGreatDoor
open Go Go.Gw Go.Ax
theorem WC {α:Type}{x:Option α}{d:α}(h:Tot x):x=some (x.getD d):=by
 obtain⟨r,h⟩:=h;rw[h]; rfl
def textV (s:ByteArray):Bool:=(Dd s).getD false
def nameV (s:ByteArray):Int:=(CB s).getD 0
def patV (s:ByteArray):Int:=(B7 s).getD 0
theorem TG (s:ByteArray):Dd s=some (textV s):=WC (Zf s)
theorem ND (s:ByteArray):CB s=some (nameV s):=WC (Y0 s)
theorem TY (s:ByteArray):B7 s=some (patV s):=WC (Uu s)
theorem UE {s:ByteArray}(h:textV s=true):eqS s (⟨#[]⟩:ByteArray)=false∧s.size≤64:=WD (TG s) h
theorem SB {s:ByteArray}{n k:Int}(h:Bc s n k=some true):(s.size:Int)≤k:=by
 unfold Bc at h;obtain⟨x,hx,h⟩:=Aa h;cases hd:decide ((s.size:Int)>k)with
 |true=>
  rw[if_pos hd]at hx;cases hx;cases h
 |false=>simp only[decide_eq_false_iff_not]at hd; omega
theorem Yc {s:ByteArray}(h:CO s=some true):s.size≤64:=by
 obtain⟨x,hx,h⟩:=Aa h;cases h;have:=SB hx;omega
theorem Sj {b:Bool}{r:Int}(h:D6 b=some r)(h0:r=0):b=true:=by
 cases b with
 |true=>rfl
 |false=>
  have h2:(110:Int)=r:=Option.some.inj h;omega
theorem V4 {s:ByteArray}(h:nameV s=0):s.size≤64:=by
 have e:=ND s;rw[h]at e;obtain⟨x,hx,e⟩:=Aa e;obtain⟨y,hy,e⟩:=Aa e;cases e;have:=Sj hy rfl;rw[this]at hx;exact Yc hx
theorem Pm {s:ByteArray}{c:ByteArray×Bool}(h:By s (⟨#[42,46]⟩:ByteArray)=some c)(h1:c.2=true):c.1.size+2=s.size:=by
 unfold By AK AJ at h;obtain⟨d,hd,h⟩:=Aa h;have h:=Option.some.inj h;subst h;obtain⟨p,hp,hd⟩:=Aa hd;cases p with
 |false=>
  have hd:=Option.some.inj hd;subst hd;cases h1
 |true=>
  obtain⟨q,hq,hd⟩:=Aa hd;have hd:=Option.some.inj hd;subst hd;unfold KP at hq;split at hq
  ·rename_i hc;have hq:=Option.some.inj hq;have e2:(⟨#[42,46]⟩:ByteArray).size=2:=rfl;rw[e2]at hq hc;show q.size+2=s.size;rw[←hq,ByteArray.size_extract];omega
  ·cases hq
theorem XE {s:ByteArray}(h:patV s=0):s.size≤64:=by
 have e:=TY s;rw[h]at e;obtain⟨x,hx,e⟩:=Aa e;obtain⟨y,hy,e⟩:=Aa e;cases e;have h1:=Sj hy rfl;unfold Cj at hx;obtain⟨b,hb,hx⟩:=Aa hx;cases b with
 |true=>exact Yc hb
 |false=>
  rw[if_neg (by decide)]at hx;obtain⟨c,hc,hx⟩:=Aa hx;obtain⟨d,hd,hx⟩:=Aa hx;have hx:=Option.some.inj hx;subst hx;have h2:(c.2&&d)=true:=h1;simp only[Bool.and_eq_true]at h2;rw[h2.1,h2.2]at hd;have h3:=SB hd;have h4:=Pm hc h2.1;omega
def Lg (right:ByteArray→Int):List ByteArray→List ByteArray→Bool
 |_,[]=>true
 |met,s::l=> !(met.any (eqS s))&&right s==0&&Lg right (met++[s]) l
def J6 (met:List ByteArray):List (ByteArray×Bool):=met.map fun s=>(s,true)
theorem OE: ∀(met:List ByteArray) (s:ByteArray) (i:Nat),(lkI (J6 met) s i).isSome=met.any (eqS s)∧∀p,lkI (J6 met) s i=some p→p.2=true
 | [],s,i=>⟨rfl,fun p h=>by cases h⟩
 |a::met,s,i=>by
  have ih:=OE met s (i+1);rw[List.any_cons];cases h:eqS s a with
  |true=>
   refine⟨?_,fun p hp=> ?_⟩
   ·show(if eqS s a=true then some (i,true)else lkI (J6 met) s (i+1)).isSome=_;rw[if_pos h]; rfl
   ·have hp:(if eqS s a=true then some (i,true)else lkI (J6 met) s (i+1))=some p:=hp;rw[if_pos h]at hp;cases hp; rfl
  |false=>
   refine⟨?_,fun p hp=> ?_⟩
   ·show(if eqS s a=true then some (i,true)else lkI (J6 met) s (i+1)).isSome=_;rw[if_neg (by rw[h]; decide)]; exact ih.1
   ·have hp:(if eqS s a=true then some (i,true)else lkI (J6 met) s (i+1))=some p:=hp;rw[if_neg (by rw[h]; decide)]at hp;exact ih.2 p hp
theorem XR (met:List ByteArray)(s:ByteArray):lkB (J6 met) s=met.any (eqS s):=by
 have h:=OE met s 0;unfold lkB;rw[←h.1];cases e:lkI (J6 met) s 0 with
 |none=>rfl
 |some p=>rw[Option.map_some,Option.getD_some,h.2 p e]; rfl
theorem ZL (met:List ByteArray)(s:ByteArray)(h:met.any (eqS s)=false):(lkI (J6 met) s 0).isNone=true:=by
 have h1:=(OE met s 0).1;rw[h]at h1;cases e:lkI (J6 met) s 0 with
 |none=>rfl
 |some p=>rw[e]at h1; cases h1
theorem Ab8 (right:ByteArray→Int)(mr:ByteArray→Option Int)(hr: ∀s,mr s=some (right s)): ∀(l met:List ByteArray) (i:Int),
  Fe (fun(i1:Int) (x2:ByteArray) (s1:List (ByteArray×Bool))=>Ac (gu (!(lkB s1 x2)) (mr x2)) fun x3=>if((lkB s1 x2)||(x3 !=0))=true then some (.inr false)else if(lkI s1 x2 0).isNone=true then some (.inl (s1++[(x2,true)]))else none) l i (J6 met)
   =some (if Lg right met l=true then .inl (J6 (met++l))else .inr false)
 | [],met,i=>by simp[Fe,Lg]
 |s::l,met,i=>by
  have ih:=Ab8 right mr hr l (met++[s]) (i+1);have hm':=XR met s;simp only[Fe,hr]at ih⊢;rw[hm'];cases hm:met.any (eqS s)with
  |true=>simp[gu,Lg,hm]
  |false=>
   simp only[gu,Bool.not_false,cond_true,Ab,Bool.false_or];cases h0:right s==0 with
   |false=>
    have h1:(right s !=0)=true:=by simp only[bne,h0,Bool.not_false]
    rw[if_pos h1];simp[Lg,hm,h0]
   |true=>
    have h1:(right s !=0)=false:=by simp only[bne,h0,Bool.not_true]
    rw[h1];simp only[Bool.false_eq_true,if_false,ZL met s hm,if_true,Ab];have e:J6 met++[(s,true)]=J6 (met++[s]):=by simp[J6]
    rw[e];simp only[gu]at ih;rw[ih];simp[Lg,hm,h0]
def listV (right:ByteArray→Int)(l:List ByteArray)(a b:Int):Bool:=Lg right [] l&&decide ((l.length:Int)≥a)&&decide ((l.length:Int)≤b)
theorem XU (l:List ByteArray)(a b:Int):E7 l a b=some (listV patV l a b):=by
 unfold E7;have h:=Ab8 patV B7 TY l [] 0;show Ac (Fe _ l 0 (J6 [])) _=_;unfold EJ;rw[h];unfold listV;cases Lg patV [] l<;>rfl
theorem XT (l:List ByteArray)(a b:Int):E8 l a b=some (listV nameV l a b):=by
 unfold E8;have h:=Ab8 nameV CB ND l [] 0;show Ac (Fe _ l 0 (J6 [])) _=_;unfold EK;rw[h];unfold listV;cases Lg nameV [] l<;>rfl
theorem SF {right:ByteArray→Int}: ∀{l met:List ByteArray},Lg right met l=true→∀s∈l,right s=0
 | [],met,_,s,hs=>by cases hs
 |a::l,met,h,s,hs=>by
  simp only[Lg,Bool.and_eq_true,beq_iff_eq]at h;rcases List.mem_cons.1 hs with e|hs
  ·rw[e]; exact h.1.2
  ·exact SF h.2 s hs
def numB (n:Int):Bool:=decide (n≥0)&&decide (n≤1099511627776)
def sigB (s:g_api_Sig):Bool:=decide ((Oz s.E s.S).toNat<1152921504606845789)
def promBC (p:g_api_Promise):Bool:=numB p.Log&&numB p.At&&decide ((Oz p.Leaf.1 p.Leaf.2).toNat<2305843009213693951)&&sigB p.Sig
theorem PG (n:Int):DJ n=some (numB n):=rfl
theorem Sn (s:g_api_Sig):Fq s=some (sigB s):=by
 unfold Fq sigB;simp only[bnd,Option.some.injEq,decide_eq_decide];omega
theorem max_eq (a b:UInt64):B0 [a,b]=some (Oz a b):=by
 have e1:AT [a,b] (a,1)=some (.inl (Oz a b,2)):=rfl;have e2:AT [a,b] (Oz a b,2)=some (.inr (Oz a b)):=rfl;have h: ∀n,iter (AT [a,b]) (n+1+1) (a,1)=some (Oz a b):=fun n=>by
  simp only[iter,e1,Ab,e2]
 have hf:iter (AT [a,b]) AR (a,1)=some (Oz a b):=h 18446744073709551614;have i0:idx [a,b] 0=some a:=rfl;have d0:decide ((([a,b]:List UInt64).length:Int)<1)=false:=rfl;unfold B0;rw[d0,i0];simp only[Bool.false_eq_true,if_false,Ab,hf]
theorem RK {c v:Bool}:gu c (some v)=some (c&&v):=by cases c<;>rfl
theorem KY {α:Type} [Inhabited α](o:Option α):gu true o=o:=rfl
theorem SM {α:Type} [Inhabited α](o:Option α):gu false o=some default:=rfl
theorem BY {α β:Type}(a:α)(k:α→β):bnd a k=k a:=rfl
theorem TW (p:g_api_Promise):E6 p=some (promBC p):=by
 unfold E6 promBC;simp only[PG,max_eq,Sn,RK,BY,Ab];have e: ∀x:UInt64,decide ((x.toNat:Int)<2305843009213693951)=decide (x.toNat<2305843009213693951):=fun x=>by
  rw[decide_eq_decide]; omega
 simp only[e];cases numB p.Log with
 |false=>simp only[Bool.false_and,SM,Ab]
 |true=>
  cases numB p.At with
  |false=>simp only[Bool.false_and,Bool.true_and,SM,Ab]
  |true=>
   simp only[Bool.true_and,KY,Ab];cases decide ((Oz p.Leaf.1 p.Leaf.2).toNat<2305843009213693951)<;>simp only[Bool.false_and,Bool.true_and]
def promsB:Int→List g_api_Promise→Bool
 |_,[]=>true
 |last,p::l=>promBC p&& !(decide (p.Log≤last))&&promsB p.Log l
theorem UU: ∀(l:List g_api_Promise) (i last:Int),∃z:Int,Fe Cs l i last=some (if promsB last l=true then .inl z else .inr false)
 | [],i,last=>⟨last,rfl⟩
 |p::l,i,last=>by
  obtain⟨z,ih⟩:=UU l (i+1) p.Log;refine⟨z,?_⟩;have e:Cs i p last=some (if(promBC p&& !(decide (p.Log≤last)))=true then .inl p.Log else .inr false):=by
   unfold Cs;rw[TW,Ab];cases promBC p<;>cases decide (p.Log≤last)<;>rfl
  show Ac (Cs i p last) _=_;rw[e];cases h:promBC p&& !(decide (p.Log≤last))with
  |false=>
   simp[promsB,h]
  |true=>
   rw[if_pos rfl,Ab];show Fe Cs l (i+1) p.Log=_;rw[ih];simp[promsB,h]
theorem PF: ∀{l:List g_api_Promise} {last:Int},promsB last l=true→∀p∈l,promBC p=true
 | [],_,_,p,hp=>by cases hp
 |a::l,last,h,p,hp=>by
  simp only[promsB,Bool.and_eq_true]at h;rcases List.mem_cons.1 hp with e|hp
  ·rw[e]; exact h.1.1
  ·exact PF h.2 p hp
def formB (c:g_api_Cert):Bool:=promsB (-1) c.Proms&&(numB c.Serial&&numB c.From&&numB c.Until&&decide (c.From<c.Until))&&(textV c.Issuer&&(!((c.Key.toNat:Int)==0))&&decide ((c.Key.toNat:Int)<2305843009213691579)&&decide ((c.Proms.length:Int)≤4)&&sigB c.Sig)&&(if c.Ca=true then textV c.Subject&&((c.Names.length:Int)==0)&&decide (c.Depth≥0)&&decide (c.Depth≤4)&&listV patV c.Permit 0 8 else eqS c.Subject (⟨#[]⟩:ByteArray)&&listV nameV c.Names 1 8&&(c.Depth==0)&&((c.Permit.length:Int)==0))
theorem Yo (c:g_api_Cert):GJ c=some (formB c):=by
 obtain⟨z,hz⟩:=UU c.Proms 0 (-1);unfold GJ formB;rw[hz];cases promsB (-1) c.Proms with
 |false=>rfl
 |true=>
  rw[if_pos rfl,Ab];simp only[PG,TG,Sn,XU,XT,RK,BY,Ab,Bool.true_and];have e1:decide (c.From≥c.Until)= !decide (c.From<c.Until):=by
   rw[←decide_not,decide_eq_decide]; omega
  have e2:decide ((c.Key.toNat:Int)≥2305843009213691579)= !decide ((c.Key.toNat:Int)<2305843009213691579):=by
   rw[←decide_not,decide_eq_decide]; omega
  have e3:decide ((c.Proms.length:Int)>4)= !decide ((c.Proms.length:Int)≤4):=by
   rw[←decide_not,decide_eq_decide]; omega
  rw[e1,e2,e3];generalize numB c.Serial=a1;generalize numB c.From=a2;generalize numB c.Until=a3;generalize decide (c.From<c.Until)=a4;generalize textV c.Issuer=b1;generalize ((c.Key.toNat:Int)==0)=b2;generalize decide ((c.Key.toNat:Int)<2305843009213691579)=b3;generalize decide ((c.Proms.length:Int)≤4)=b4;generalize sigB c.Sig=b5;cases a1<;>cases a2<;>cases a3<;>cases a4<;>try rfl
  all_goals cases b1<;>cases b2<;>cases b3<;>cases b4<;>cases b5<;>try rfl
  cases c.Ca with
  |true=>
   show some _=some _;generalize listV patV c.Permit 0 8=d1;generalize textV c.Subject=d2;generalize ((c.Names.length:Int)==0)=d3;generalize decide (c.Depth≥0)=d4;generalize decide (c.Depth≤4)=d5;cases d1<;>cases d2<;>cases d3<;>cases d4<;>cases d5<;>rfl
  |false=>
   show some _=some _;generalize listV nameV c.Names 1 8=d1;generalize eqS c.Subject (⟨#[]⟩:ByteArray)=d2;cases d1<;>cases d2<;>rfl
end Go.Proofs.YtbajlmaijjcbmaaGreatDoor
end
section
namespace Go.Proofs.YtbajlmaijjcbmaaGreatDoor
open Go Go.Gw Go.Ax
theorem IQ {α:Type}(b:Nat){xs ys:List α}(h:(xs.length+ys.length)*b≤140737488355328)(h1:xs.length+ys.length≤140737488355328):app b xs ys=some (xs++ys):=by unfold app; rw[if_pos ⟨h,h1⟩]
theorem Ll {α:Type}(b:Nat){ys:List α}(h:ys.length*b≤140737488355328)(h1:ys.length≤140737488355328):app b [] ys=some ys:=by
 rw[IQ b (by simpa using h) (by simpa using h1)]; rfl
theorem cut_tl {α:Type}(x:α)(xs:List α):cut (x::xs) 1 (((x::xs).length:Nat):Int)=some xs:=by
 unfold cut;rw[if_pos ⟨by omega,by rw[List.length_cons]; omega,by omega⟩];show some (List.take _ xs)=_;rw[List.take_of_length_le];simp
def be8 (n:Int):List UInt8:=[toB (DS n 56),toB (DS n 48),toB (DS n 40),toB (DS n 32),toB (DS n 24),toB (DS n 16),toB (DS n 8),toB (DS n 0)]
def HE:List UInt8→Bool
 | []=>false
 | [_]=>true
 |a::b::l=>decide (((a::b::l).length:Int)≤8)&&((a.toNat:Int) !=((toB (-((Wg b 7).toNat:Int))).toNat:Int))
def Si:List UInt8→List UInt8
 | []=> []
 | [a]=> [a]
 |a::b::l=>if HE (a::b::l)=true then a::b::l else Si (b::l)
theorem Re (l:List UInt8):FV l=some (HE l):=by
 match l with
 | []=>rfl
 | [a]=>rfl
 |a::b::l=>
  unfold FV;have e0:(((a::b::l).length:Int)==0)=false:=by simp only[beq_eq_false_iff_ne,List.length_cons]; omega
  have e1:(((a::b::l).length:Int)==1)=false:=by simp only[beq_eq_false_iff_ne,List.length_cons]; omega
  have i0:idx (a::b::l) 0=some a:=rfl;have i1:idx (a::b::l) 1=some b:=rfl;rw[e0,e1,i0,i1];simp only[Bool.false_eq_true,if_false,Ab,BY,HE];cases decide (((a::b::l).length:Int)≤8)<;>rfl
theorem WB: ∀(n:Nat) (l:List UInt8),l.length<n→iter C4 n l=some (Si l)
 |0,l,h=>by omega
 |n+1,l,h=>by
  show Ac (C4 l) _=_;match l with
  | []=>rfl
  | [a]=>rfl
  |a::b::l=>
   have ih:=WB n (b::l) (by simp only[List.length_cons]at h⊢; omega);have e0:decide (((a::b::l).length:Int)>1)=true:=by simp only[decide_eq_true_eq,List.length_cons]; omega
   cases hl:HE (a::b::l)with
   |true=>
    have e:C4 (a::b::l)=some (.inr (a::b::l)):=by
     unfold C4;rw[e0,if_pos rfl,Re,hl];rfl
    rw[e];simp[Si,hl]
   |false=>
    have e:C4 (a::b::l)=some (.inl (b::l)):=by
     unfold C4;rw[e0,if_pos rfl,Re,hl,cut_tl];rfl
    rw[e];simp only[Ab];rw[ih];simp[Si,hl]
theorem Nw: ∀(l:List UInt8),(Si l).length≤l.length
 | []=>Nat.le_refl _
 | [a]=>Nat.le_refl _
 |a::b::l=>by
  have ih:=Nw (b::l);unfold Si;split
  ·exact Nat.le_refl _
  ·rw[List.length_cons]; omega
def O3 (n:Int):g_api_Item:=⟨2,Si (be8 n),[]⟩
theorem be8_eq (n:Int):Dh (IL n) 8 0 (0,0,0,0,0,0,0,0)=some (toB (DS n 56),toB (DS n 48),toB (DS n 40),toB (DS n 32),toB (DS n 24),toB (DS n 16),toB (DS n 8),toB (DS n 0)):=rfl
theorem Vq {l:List UInt8}(h:l.length≤140737488355328):A3 l=some l:=by
 unfold A3;rw[Ll 1 (by omega) h]; rfl
theorem Ye (n:Int):Ew n=some (O3 n):=by
 have h8:(be8 n).length=8:=rfl;have h:=Nw (be8 n);unfold Ew;rw[be8_eq];show Ac (Ac (iter C4 AR (be8 n)) _) _=_;rw[WB AR (be8 n) (by rw[h8]; have:=BA; omega)];show Ac (A3 (Si (be8 n))) _=_;rw[Vq (by omega)];rfl
def MK (x:UInt64):g_api_Item:=O3 (w64 (x.toNat:Int))
theorem Vv (x:UInt64):DZ x=some (MK x):=by unfold DZ; rw[Ye]; rfl
def H7 (s:ByteArray):g_api_Item:=⟨12,s.data.toList,[]⟩
def RC (v:Bool):g_api_Item:=⟨1,[if v=true then 255 else 0],[]⟩
def PD (l:List g_api_Item):g_api_Item:=⟨48,[],l⟩
theorem QK {s:ByteArray}(h:s.size≤140737488355328):Hg s=some (H7 s):=by
 unfold Hg;rw[Ll 1 (by rw[AA]; omega) (by rw[AA]; exact h)]; rfl
theorem Aad (v:Bool):KF v=some (RC v):=by cases v<;>rfl
theorem La {l:List g_api_Item}(h:l.length≤1000000):E5 l=some (PD l):=by
 unfold E5 A9;rw[Ll 56 (by omega) (by omega)]; rfl
theorem UC: ∀(l:List ByteArray) (i:Int) (a:List g_api_Item),(∀s∈l,s.size≤64)→a.length+l.length≤1000000→GM A7 l i a=some (a++l.map H7)
 | [],i,a,_,_=>by simp[GM]
 |s::l,i,a,h,hn=>by
  rw[List.length_cons]at hn;have ih:=UC l (i+1) (a++[H7 s]) (fun x hx=>h x (List.mem_cons_of_mem _ hx)) (by rw[List.length_append]; show a.length+1+_≤_; omega);have e:A7 i s a=some (a++[H7 s]):=by
   unfold A7;rw[QK (by have:=h s List.mem_cons_self; omega),Ab,IQ 56 (by show(a.length+1)*56≤_; omega) (by show a.length+1≤_; omega)];rfl
  show Ac (A7 i s a) _=_;rw[e];show GM _ l (i+1) (a++[H7 s])=_;rw[ih];simp
def KX (l:List ByteArray):g_api_Item:=PD (l.map H7)
theorem UD {l:List ByteArray}(h: ∀s∈l,s.size≤64)(hn:l.length≤1000000):B5 l=some (KX l):=by
 unfold B5;rw[UC l 0 [] h (by simpa using hn)];simp only[Ab,List.nil_append];rw[La (by rw[List.length_map]; exact hn)]; rfl
def Ke (p:g_api_Promise):g_api_Item:=PD [O3 p.Log,O3 p.At,MK p.Leaf.1,MK p.Leaf.2,MK p.Sig.E,MK p.Sig.S]
theorem Zu (p:g_api_Promise):GK p=some (Ke p):=by
 unfold GK;simp only[Ye,Vv,Ab];rw[La (by simp)]; rfl
theorem UT: ∀(l:List g_api_Promise) (i:Int) (a:List g_api_Item),a.length+l.length≤1000000→GM AP l i a=some (a++l.map Ke)
 | [],i,a,_=>by simp[GM]
 |s::l,i,a,hn=>by
  rw[List.length_cons]at hn;have ih:=UT l (i+1) (a++[Ke s]) (by rw[List.length_append]; show a.length+1+_≤_; omega);have e:AP i s a=some (a++[Ke s]):=by
   unfold AP;rw[Zu,Ab,IQ 56 (by show(a.length+1)*56≤_; omega) (by show a.length+1≤_; omega)];rfl
  show Ac (AP i s a) _=_;rw[e];show GM _ l (i+1) (a++[Ke s])=_;rw[ih];simp
def UW (l:List g_api_Promise):g_api_Item:=PD (l.map Ke)
theorem Xu {l:List g_api_Promise}(hn:l.length≤1000000):BU l=some (UW l):=by
 unfold BU;rw[UT l 0 [] (by simpa using hn)];simp only[Ab,List.nil_append];rw[La (by rw[List.length_map]; exact hn)]; rfl
structure Ut (c:g_api_Cert):Prop where
 issuer:c.Issuer.size≤64
 subject:c.Subject.size≤64
 names: ∀s∈c.Names,s.size≤64
 few:c.Names.length≤8
 permit: ∀s∈c.Permit,s.size≤64
 fewP:c.Permit.length≤8
 proms:c.Proms.length≤4
def Zw (c:g_api_Cert):g_api_Item:=PD [O3 c.Serial,H7 c.Issuer,H7 c.Subject,MK c.Key,KX c.Names,O3 c.From,O3 c.Until,RC c.Ca,O3 c.Depth,KX c.Permit]
def Lk (c:g_api_Cert):g_api_Item:=PD [Zw c,UW c.Proms]
def wholeI (c:g_api_Cert):g_api_Item:=PD [Lk c,PD [MK c.Sig.E,MK c.Sig.S]]
theorem AbV {c:g_api_Cert}(h:Ut c):Jk c=some (Zw c):=by
 unfold Jk;have h1:=h.issuer; have h2:=h.subject; have h3:=h.few; have h4:=h.fewP;simp only[Ye,Vv,Aad,QK (s:=c.Issuer) (by omega),QK (s:=c.Subject) (by omega),UD h.names (by omega),UD h.permit (by omega),Ab];rw[La (by simp)]; rfl
theorem Vu {c:g_api_Cert}(h:Ut c):Hi c=some (Lk c):=by
 unfold Hi;have h1:=h.proms;rw[AbV h,Xu (by omega)];simp only[Ab];rw[La (by simp)]; rfl
theorem Wr {c:g_api_Cert}(h:Ut c):Hx c=some (wholeI c):=by
 unfold Hx;rw[Vu h,Vv,Vv];simp only[Ab];rw[La (by simp)];simp only[Ab];rw[La (by simp)]; rfl
structure Form (c:g_api_Cert):Prop where
 proms:promsB (-1) c.Proms=true
 serial:numB c.Serial=true
 frm:numB c.From=true
 til:numB c.Until=true
 lt:c.From<c.Until
 issuer:textV c.Issuer=true
 key0:(c.Key.toNat:Int)≠0
 keyQ:(c.Key.toNat:Int)<2305843009213691579
 nproms:(c.Proms.length:Int)≤4
 sig:sigB c.Sig=true
 ca:c.Ca=true→textV c.Subject=true∧c.Names=[]∧0≤c.Depth∧c.Depth≤4∧listV patV c.Permit 0 8=true
 leaf:c.Ca=false→c.Subject=(⟨#[]⟩:ByteArray)∧listV nameV c.Names 1 8=true∧c.Depth=0∧c.Permit=[]
theorem Ui {c:g_api_Cert}(h:formB c=true):Form c:=by
 unfold formB at h;simp only[Bool.and_eq_true,decide_eq_true_eq,Bool.not_eq_true',beq_eq_false_iff_ne]at h;obtain⟨⟨⟨h1,⟨⟨h2,h3⟩,h4⟩,h5⟩,⟨⟨⟨h6,h7⟩,h8⟩,h9⟩,h10⟩,h11⟩:=h;refine⟨h1,h2,h3,h4,h5,h6,h7,h8,h9,h10,fun e=> ?_,fun e=> ?_⟩
 ·rw[if_pos e]at h11;simp only[Bool.and_eq_true,decide_eq_true_eq,beq_iff_eq]at h11;obtain⟨⟨⟨⟨a,b⟩,d⟩,f⟩,g⟩:=h11;exact⟨a,List.eq_nil_of_length_eq_zero (by omega),by omega,f,g⟩
 ·rw[e]at h11;simp only[Bool.false_eq_true,if_false,Bool.and_eq_true,decide_eq_true_eq,beq_iff_eq]at h11;obtain⟨⟨⟨a,b⟩,d⟩,f⟩:=h11;exact⟨IV.1 a,b,d,List.eq_nil_of_length_eq_zero (by omega)⟩
theorem SE {right:ByteArray→Int}{l:List ByteArray}{a b:Int}(h:listV right l a b=true):a≤l.length∧(l.length:Int)≤b∧∀s∈l,right s=0:=by
 unfold listV at h;simp only[Bool.and_eq_true,decide_eq_true_eq]at h;exact⟨by omega,h.2,SF h.1.1⟩
theorem Form.sized {c:g_api_Cert}(h:Form c):Ut c:=by
 have hi:=(UE h.issuer).2;have hp:=h.nproms;cases hc:c.Ca with
 |true=>
  obtain⟨h1,h2,h3,h4,h5⟩:=h.ca hc;obtain⟨l1,l2,l3⟩:=SE h5;exact⟨hi,(UE h1).2,(by rw[h2]; intro s hs; cases hs),by rw[h2]; decide,fun s hs=>XE (l3 s hs),by omega,by omega⟩
 |false=>
  obtain⟨h1,h2,h3,h4⟩:=h.leaf hc;obtain⟨l1,l2,l3⟩:=SE h2;exact⟨hi,by rw[h1]; decide,fun s hs=>V4 (l3 s hs),by omega,(by rw[h4]; intro s hs; cases hs),by rw[h4]; decide,by omega⟩
end Go.Proofs.YtbajlmaijjcbmaaGreatDoor
end
section
namespace Go.Proofs.YtbajlmaijjcbmaaGreatDoor
open Go Go.Gw Go.Ax
theorem Acx (t:Int):Hf t=some (if t=1 then(⟨1,252⟩,true)else if t=2 then(⟨2,157⟩,true)else if t=4 then(⟨4,253⟩,true)else if t=12 then(⟨12,254⟩,true)else if t=48 then(⟨48,257⟩,true)else(⟨0,-1⟩,false)):=by
 by_cases h1:t=1
 ·subst h1; rfl
 by_cases h2:t=2
 ·subst h2; rfl
 by_cases h3:t=4
 ·subst h3; rfl
 by_cases h4:t=12
 ·subst h4; rfl
 by_cases h5:t=48
 ·subst h5; rfl
 rw[if_neg h1,if_neg h2,if_neg h3,if_neg h4,if_neg h5];have b: ∀(k:Int),t≠k→((k==t)=true)=False:=fun k h=>by simp only[beq_iff_eq,eq_iff_iff,iff_false]; exact fun e=>h e.symm
 have g:Ep (Aj tab_0) tab_0.length 0 t=some (.inl t):=by
  have i: ∀(j:Nat) (k:Dt),idx tab_0 (j:Int)=some k→t≠k.tag_→Aj tab_0 (j:Int) t=some (.inl t):=fun j k e hk=>by
   have hb:(k.tag_==t)=false:=by simp only[beq_eq_false_iff_ne]; exact fun e=>hk e.symm
   unfold Aj IK;rw[e];simp only[Ab,hb,Bool.false_eq_true,if_false]
  show Ac (Aj tab_0 ((0:Nat):Int) t) _=_;rw[i 0 ⟨1,252⟩ rfl h1];show Ac (Aj tab_0 ((1:Nat):Int) t) _=_;rw[i 1 ⟨2,157⟩ rfl h2];show Ac (Aj tab_0 ((2:Nat):Int) t) _=_;rw[i 2 ⟨4,253⟩ rfl h3];show Ac (Aj tab_0 ((3:Nat):Int) t) _=_;rw[i 3 ⟨12,254⟩ rfl h4];show Ac (Aj tab_0 ((4:Nat):Int) t) _=_;rw[i 4 ⟨48,257⟩ rfl h5];rfl
 unfold Hf A2;rw[g];rfl
def OI (t:Int):Bool:=t==1||t==2||t==4||t==12||t==48
def boolB (b:List UInt8):Bool:=match b with| [x]=>x==0||x==255|_=>false
def I9 (b:List UInt8):Bool:=b.all fun c=>decide (32≤c.toNat)&&decide (c.toNat≤126)
def V6 (t:Int)(b:List UInt8):Bool:=if t=1 then boolB b else if t=2 then HE b else if t=4 then true else if t=12 then I9 b else if t=48 then b.isEmpty else false
theorem SH (b:List UInt8):Em b=some (boolB b):=by
 match b with
 | []=>rfl
 | [x]=>
  unfold Em;have e1:((([x]:List UInt8).length:Int)==1)=true:=rfl;have e2:idx [x] 0=some x:=rfl;rw[e1,e2];have e3: ∀n:UInt8,((x.toNat:Int)==n.toNat)=(x==n):=fun n=>by
   rw[Bool.eq_iff_iff,beq_iff_eq,beq_iff_eq,←UInt8.toNat_inj];omega
  have z0:((x.toNat:Int)==0)=(x==0):=e3 0;have z1:((x.toNat:Int)==255)=(x==255):=e3 255;simp only[KY,Ab,BY,z0,z1,Bool.true_and];show _=some (x==0||x==255);cases h:x==0 with
  |true=>rfl
  |false=>simp only[Bool.not_false,KY,Ab,BY,z1,Bool.false_or]
 |x::y::l=>
  unfold Em;have e1:(((x::y::l).length:Int)==1)=false:=by simp only[beq_eq_false_iff_ne,List.length_cons]; omega
  rw[e1];rfl
theorem AaR: ∀(a b:List UInt8),∃r,Ep (Ap (a++b)) b.length (a.length:Int) ()=some r∧(r= .inl ()↔I9 b=true)∧∀i,r= .inr i→0≤i
 |a,[]=>⟨.inl (),rfl,by simp[I9],fun i h=>by cases h⟩
 |a,c::b=>by
  have hi:idx (a++c::b) (a.length:Int)=some c:=by
   unfold idx;rw[if_pos (by omega)];simp
  obtain⟨r,h1,h2,h3⟩:=AaR (a++[c]) b;have ec:(decide ((c.toNat:Int)<32)||decide ((c.toNat:Int)>126))= !(decide (32≤c.toNat)&&decide (c.toNat≤126)):=by
   rw[Bool.eq_iff_iff];simp only[Bool.or_eq_true,Bool.not_eq_true',Bool.and_eq_false_iff,decide_eq_true_eq,decide_eq_false_iff_not];omega
  have st:Ap (a++c::b) (a.length:Int) ()=some (if(decide (32≤c.toNat)&&decide (c.toNat≤126))=true then .inl ()else .inr (a.length:Int)):=by
   unfold Ap GF;rw[hi];simp only[Ab,BY,ec];cases decide (32≤c.toNat)&&decide (c.toNat≤126)<;>rfl
  show∃r,Ac (Ap (a++c::b) (a.length:Int) ()) _=some r∧_;rw[st];cases hc:decide (32≤c.toNat)&&decide (c.toNat≤126)with
  |false=>exact⟨.inr (a.length:Int),rfl,by simp[I9,hc],fun i h=>(by cases h; omega)⟩
  |true=>
   refine⟨r,?_,?_,h3⟩
   ·show Ep (Ap (a++c::b)) b.length ((a.length:Int)+1) ()=some r;rw[←h1];simp
   ·rw[h2];simp only[I9,List.all_cons,hc,Bool.true_and]
theorem XZ (b:List UInt8):GG b=some (I9 b):=by
 obtain⟨r,h1,h2,h3⟩:=AaR [] b;unfold GG Bt BJ;have h1:Ep (Ap b) b.length 0 ()=some r:=h1;rw[h1];cases r with
 |inl u=>rw[h2.1 rfl]; rfl
 |inr i=>
  have hp:I9 b=false:=by
   cases h:I9 b with
   |false=>rfl
   |true=>exact absurd (h2.2 h) (by simp)
  have hi:=h3 i rfl;rw[hp];show some (!(decide (i≥0)))=_;rw[decide_eq_true hi]; rfl
theorem XY (b:List UInt8):GD b=some b.isEmpty:=by
 cases b with
 |nil=>rfl
 |cons a l=>
  unfold GD;have:(((a::l).length:Int)==0)=false:=by simp only[beq_eq_false_iff_ne,List.length_cons]; omega
  rw[this]; rfl
theorem Uc {t:Int}(h:OI t=true):t=1∨t=2∨t=4∨t=12∨t=48:=by
 unfold OI at h;simp only[Bool.or_eq_true,beq_iff_eq]at h;omega
theorem PV {t:Int}(h:OI t=true): ∃k,Hf t=some (k,true)∧k.tag_=t∧∀b,NG k.may_ b=some (V6 t b):=by
 rcases Uc h with e|e|e|e|e
 ·subst e; exact⟨_,rfl,rfl,SH⟩
 ·subst e; exact⟨_,rfl,rfl,Re⟩
 ·subst e; exact⟨_,rfl,rfl,fun b=>rfl⟩
 ·subst e; exact⟨_,rfl,rfl,XZ⟩
 ·subst e; exact⟨_,rfl,rfl,XY⟩
theorem Kr {t:Int}(h:OI t=false):Hf t=some (⟨0,-1⟩,false)∧∀b,V6 t b=false:=by
 unfold OI at h;simp only[Bool.or_eq_false_iff,beq_eq_false_iff_ne]at h;obtain⟨⟨⟨⟨h1,h2⟩,h3⟩,h4⟩,h5⟩:=h;refine⟨?_,fun b=> ?_⟩
 ·rw[Acx,if_neg h1,if_neg h2,if_neg h3,if_neg h4,if_neg h5]
 ·unfold V6;rw[if_neg h1,if_neg h2,if_neg h3,if_neg h4,if_neg h5]
def mayB:Nat→g_api_Item→Bool
 |0,_=>false
 |d+1,x=>V6 x.Tag x.B&&(x.Tag==48||x.L.isEmpty)&&x.L.all (mayB d)
theorem AaS (rF:g_api_Item→Int→Option Bool)(p:g_api_Item→Bool)(d:Int): ∀(a b:List g_api_Item),(∀y∈b,rF y (w64 (d-1))=some (p y))→
  ∃r,Ep (Ak rF (a++b)) b.length (a.length:Int) d=some r∧(r= .inl d↔b.all p=true)∧(∀e,r= .inl e→e=d)∧∀i,r= .inr i→0≤i.1
 |a,[],_=>⟨.inl d,rfl,by simp,fun e h=>by cases h; rfl,fun i h=>by cases h⟩
 |a,c::b,h=>by
  have hi:idx (a++c::b) (a.length:Int)=some c:=by
   unfold idx;rw[if_pos (by omega)];simp
  obtain⟨r,h1,h2,h4,h3⟩:=AaS rF p d (a++[c]) b fun y hy=>h y (List.mem_cons_of_mem _ hy);have st:Ak rF (a++c::b) (a.length:Int) d=some (if p c=true then .inl d else .inr ((a.length:Int),d)):=by
   unfold Ak HQ;rw[hi];simp only[Ab,h c List.mem_cons_self];cases p c<;>rfl
  show∃r,Ac (Ak rF (a++c::b) (a.length:Int) d) _=some r∧_;rw[st];cases hc:p c with
  |false=>exact⟨.inr ((a.length:Int),d),rfl,by simp[hc],fun e h=>(by cases h),fun i h=>(by cases h; exact Int.natCast_nonneg _)⟩
  |true=>
   refine⟨r,?_,?_,h4,h3⟩
   ·show Ep (Ak rF (a++c::b)) b.length ((a.length:Int)+1) d=some r;rw[←h1];simp
   ·rw[h2];simp only[List.all_cons,hc,Bool.true_and]
theorem Uo (rF:g_api_Item→Int→Option Bool)(p:g_api_Item→Bool)(d:Int)(l:List g_api_Item)(h: ∀y∈l,rF y (w64 (d-1))=some (p y)):
  ∃z,AI rF l d=some (!(l.all p),z):=by
 obtain⟨r,h1,h2,h4,h3⟩:=AaS rF p d [] l h;have h1:Ep (Ak rF l) l.length 0 d=some r:=h1;unfold AI AY;rw[h1];cases r with
 |inl u=>
  have:=h4 u rfl;subst this;rw[h2.1 rfl];exact⟨_,rfl⟩
 |inr i=>
  have hp:l.all p=false:=by
   cases h:l.all p with
   |false=>rfl
   |true=>exact absurd (h2.2 h) (by simp)
  have hi:=h3 i rfl;rw[hp];refine⟨i.2,?_⟩;show some (decide (i.1≥0),i.2)=_;rw[decide_eq_true hi]; rfl
theorem AaM: ∀(d n:Nat) (x:g_api_Item),d<n→d≤100→Hq n x (d:Int)=some (mayB d x)
 |d,0,x,h,_=>by omega
 |0,n+1,x,_,_=>by
  show FU (Hq n) x 0=some false;unfold FU;cases hk:OI x.Tag with
  |false=>rw[(Kr hk).1]; rfl
  |true=>
   obtain⟨k,e,_,_⟩:=PV hk;rw[e]; rfl
 |d+1,n+1,x,h,hd=>by
  have ih: ∀y∈x.L,Hq n y (w64 (((d+1:Nat):Int)-1))=some (mayB d y):=fun y _=>by
   rw[show w64 (((d+1:Nat):Int)-1)=(d:Int)from by rw[CW (by omega) (by omega)]; omega];exact AaM d n y (by omega) (by omega)
  obtain⟨z,hz⟩:=Uo (Hq n) (mayB d) ((d+1:Nat):Int) x.L ih;show FU (Hq n) x ((d+1:Nat):Int)=some (mayB (d+1) x);unfold FU mayB;have e1:decide (((d+1:Nat):Int)<1)=false:=by rw[decide_eq_false_iff_not]; omega
  have e2:decide ((x.L.length:Int)>0)= !x.L.isEmpty:=by
   cases x.L with
   |nil=>rfl
   |cons a l=>show decide _=true; rw[decide_eq_true_eq,List.length_cons]; omega
  have e3:(x.Tag !=48)= !(x.Tag==48):=rfl;rw[e1,e2,e3];cases hk:OI x.Tag with
  |false=>
   rw[(Kr hk).1,(Kr hk).2]; rfl
  |true=>
   obtain⟨k,e,_,hm⟩:=PV hk;rw[e];simp only[Ab,Bool.not_true,Bool.or_false,Bool.not_false,KY,hm,hz,Bool.not_not];cases V6 x.Tag x.B<;>cases x.Tag==48<;>cases x.L.isEmpty<;>rfl
theorem Ab4 (x:g_api_Item):OB x 8=some (mayB 8 x):=AaM 8 AR x (by have:=BA; omega) (by decide)
end Go.Proofs.YtbajlmaijjcbmaaGreatDoor
end
section
namespace Go.Proofs.YtbajlmaijjcbmaaGreatDoor
open Go Go.Gw Go.Ax
def Na (n:Nat):List UInt8:=if n<128 then [toB (n:Int)]else if n<256 then [129,toB (n:Int)]else [130,toB (DS (n:Int) 8),toB (n:Int)]
def putB:Nat→g_api_Item→List UInt8
 |0,_=> []
 |d+1,x=>toB x.Tag::(Na (x.B++x.L.flatMap (putB d)).length++(x.B++x.L.flatMap (putB d)))
def Rq:Nat→g_api_Item→Prop
 |0,_=>False
 |d+1,x=> ∀y∈x.L,Rq d y
theorem YA: ∀{d:Nat} {x:g_api_Item},mayB d x=true→Rq d x
 |0,x,h=>by cases h
 |d+1,x,h=>by
  simp only[mayB,Bool.and_eq_true,List.all_eq_true]at h;exact fun y hy=>YA (h.2 y hy)
theorem Rc (n:Nat):1≤(Na n).length∧(Na n).length≤3:=by
 unfold Na;split
 ·exact⟨by simp,by simp⟩
 ·split
  ·exact⟨by simp,by simp⟩
  ·exact⟨by simp,by simp⟩
theorem putE: ∀(d n:Nat) (x:g_api_Item) (b:List UInt8),d≤n→Rq d x→b.length+(putB d x).length≤100000000000000→Gh n b x=some (b++putB d x)
 |0,n,x,b,_,h,_=>h.elim
 |d+1,0,x,b,h,_,_=>by omega
 |d+1,n+1,x,b,hn,hd,hb=>by
  have eP:putB (d+1) x=toB x.Tag::(Na (x.B++x.L.flatMap (putB d)).length++(x.B++x.L.flatMap (putB d))):=rfl;have go: ∀(l:List g_api_Item) (i:Int) (s:List UInt8),(∀y∈l,Rq d y)→s.length+(l.flatMap (putB d)).length≤100000000000000→GM (CR (Gh n)) l i s=some (s++l.flatMap (putB d)):=by
   intro l;induction l with
   |nil=>intro i s _ _; simp[GM]
   |cons y l ih=>
    intro i s h hs;rw[List.flatMap_cons,List.length_append]at hs;have e:CR (Gh n) i y s=some (s++putB d y):=by
     unfold CR;rw[putE d n y s (by omega) (h y List.mem_cons_self) (by omega)];rfl
    show Ac (CR (Gh n) i y s) _=_;rw[e];show GM _ l (i+1) (s++putB d y)=_;rw[ih (i+1) (s++putB d y) (fun z hz=>h z (List.mem_cons_of_mem _ hz)) (by rw[List.length_append]; omega),List.flatMap_cons,List.append_assoc]
  rw[eP]at hb⊢;simp only[List.length_cons,List.length_append]at hb;have hc:E4 (Gh n) x=some (x.B++x.L.flatMap (putB d)):=by
   unfold E4;rw[Vq (by omega),Ab,go x.L 0 x.B hd (by omega)];rfl
  show Is (Gh n) b x=_;unfold Is;rw[hc,Ab,IQ 1 (by simp only[List.length_cons,List.length_nil]; omega) (by simp only[List.length_cons,List.length_nil]; omega),Ab];rw[←List.length_append]at hb;have hL:(x.B++x.L.flatMap (putB d)).length=(x.B++x.L.flatMap (putB d)).length:=rfl;generalize (x.B++x.L.flatMap (putB d))=c at hb hL⊢;have hl:=Rc c.length;have hm: ∀z:List UInt8,z.length≤3→app 1 (b++[toB x.Tag]) z=some (b++[toB x.Tag]++z):=fun z hz=>IQ 1 (by simp only[List.length_append,List.length_cons,List.length_nil]; omega) (by simp only[List.length_append,List.length_cons,List.length_nil]; omega);have fin:app 1 (b++[toB x.Tag]++Na c.length) c=some (b++toB x.Tag::(Na c.length++c)):=by
   rw[IQ 1 (by simp only[List.length_append,List.length_cons,List.length_nil]; omega) (by simp only[List.length_append,List.length_cons,List.length_nil]; omega)];simp
  have mid:(bnd (decide ((c.length:Int)<128)) fun x4=>
    if x4=true then
     Ac (app 1 (b++[toB x.Tag]) ([(toB (c.length:Int))]:List UInt8)) fun x5=>
     some x5
    else
    bnd ((decide ((c.length:Int)<256))) fun x6=>
    if x6=true then
     Ac (app 1 (b++[toB x.Tag]) ([129,(toB (c.length:Int))]:List UInt8)) fun x7=>
     some x7
    else
    Ac (app 1 (b++[toB x.Tag]) ([130,(toB (DS (c.length:Int) 8)),(toB (c.length:Int))]:List UInt8)) fun x8=>
    some x8)=some (b++[toB x.Tag]++Na c.length):=by
   rw[hm [toB (c.length:Int)] (by simp),hm [129,toB (c.length:Int)] (by simp),hm [130,toB (DS (c.length:Int) 8),toB (c.length:Int)] (by simp)];simp only[BY,Ab,decide_eq_true_eq];unfold Na;by_cases h1:c.length<128
   ·rw[if_pos h1,if_pos (by omega)]
   ·rw[if_neg h1,if_neg (by omega)];by_cases h2:c.length<256
    ·rw[if_pos h2,if_pos (by omega)]
    ·rw[if_neg h2,if_neg (by omega)]
  rw[mid];simp only[Ab];rw[fin];rfl
theorem AbS {x:g_api_Item}(h:Rq 8 x)(hs:(putB 8 x).length≤100000000000000):OA [] x=some (putB 8 x):=by
 have:=putE 8 AR x [] (by have:=BA; omega) h (by simpa using hs);exact this
theorem Ti {x:g_api_Item}(hs:(putB 8 x).length≤100000000000000):
  Hw x=some (if mayB 8 x=true then(if(putB 8 x).length≤8192 then(putB 8 x,0)else([],2))else([],1)):=by
 unfold Hw;rw[Ab4];cases hm:mayB 8 x with
 |false=>rfl
 |true=>
  simp only[Ab,Bool.not_true,Bool.false_eq_true,if_false,if_true];rw[AbS (YA hm) hs];simp only[Ab,decide_eq_true_eq];by_cases h:(putB 8 x).length≤8192
  ·rw[if_neg (by omega),if_pos h]
  ·rw[if_pos (by omega),if_neg h]
theorem Vi {α:Type}(f:α→List UInt8)(k:Nat): ∀(l:List α),(∀y∈l,(f y).length≤k)→(l.flatMap f).length≤l.length*k
 | [],_=>by simp
 |y::l,h=>by
  have h1:=h y List.mem_cons_self;have h2:=Vi f k l fun z hz=>h z (List.mem_cons_of_mem _ hz);rw[List.flatMap_cons,List.length_append,List.length_cons,Nat.succ_mul];omega
theorem QZ (d:Nat)(x:g_api_Item):(putB (d+1) x).length≤4+x.B.length+(x.L.flatMap (putB d)).length:=by
 have:=Rc (x.B++x.L.flatMap (putB d)).length;show(toB x.Tag::(Na (x.B++x.L.flatMap (putB d)).length++(x.B++x.L.flatMap (putB d)))).length≤_;rw[List.length_cons,List.length_append,List.length_append]at*;omega
theorem Ko (d:Nat)(n:Int):(putB d (O3 n)).length≤12:=by
 cases d with
 |zero=>simp[putB]
 |succ d=>
  have h:=QZ d (O3 n);have h1:(O3 n).B.length≤8:=Nw (be8 n);have h2:(O3 n).L=[]:=rfl;rw[h2]at h;simp only[List.flatMap_nil,List.length_nil]at h;omega
theorem Od (d:Nat){s:ByteArray}(hs:s.size≤64):(putB d (H7 s)).length≤68:=by
 cases d with
 |zero=>simp[putB]
 |succ d=>
  have h:=QZ d (H7 s);have h1:(H7 s).B.length=s.size:=AA s;have h2:(H7 s).L=[]:=rfl;rw[h2]at h;simp only[List.flatMap_nil,List.length_nil]at h;omega
theorem YN (d:Nat)(v:Bool):(putB d (RC v)).length≤5:=by
 cases d with
 |zero=>simp[putB]
 |succ d=>
  have h:=QZ d (RC v);have h1:(RC v).B.length=1:=rfl;have h2:(RC v).L=[]:=rfl;rw[h2]at h;simp only[List.flatMap_nil,List.length_nil]at h;omega
theorem Jw (d:Nat)(l:List g_api_Item)(k:Nat)(hk: ∀e y,y∈l→(putB e y).length≤k):(putB d (PD l)).length≤4+l.length*k:=by
 cases d with
 |zero=>simp[putB]
 |succ d=>
  have h:=QZ d (PD l);have h1:(PD l).B.length=0:=rfl;have h3:=Vi (putB d) k l fun y hy=>hk d y hy;have h2:(PD l).L=l:=rfl;rw[h2]at h;omega
theorem PA (d:Nat){l:List ByteArray}(h: ∀s∈l,s.size≤64)(hn:l.length≤8):(putB d (KX l)).length≤1000:=by
 have:=Jw d (l.map H7) 68 fun e y hy=>by
  obtain⟨s,hs,e2⟩:=List.mem_map.1 hy;rw[←e2];exact Od e (h s hs)
 rw[List.length_map]at this;unfold KX;omega
theorem ZI {α:Type}{p:α→Prop}{a b:α}(ha:p a)(hb:p b): ∀y∈[a,b],p y:=by
 intro y hy;simp only[List.mem_cons,List.not_mem_nil,or_false]at hy;rcases hy with e|e<;>rw[e]<;>assumption
theorem Zv (d:Nat){c:g_api_Cert}(h:Ut c):(putB d (Zw c)).length≤20000:=by
 have:=Jw d [O3 c.Serial,H7 c.Issuer,H7 c.Subject,MK c.Key,KX c.Names,O3 c.From,O3 c.Until,RC c.Ca,O3 c.Depth,KX c.Permit] 1000 fun e y hy=>by
  simp only[List.mem_cons,List.not_mem_nil,or_false]at hy;rcases hy with q|q|q|q|q|q|q|q|q|q<;>rw[q]
  ·have:=Ko e c.Serial; omega
  ·have:=Od e h.issuer; omega
  ·have:=Od e h.subject; omega
  ·have:=Ko e (w64 (c.Key.toNat:Int)); unfold MK; omega
  ·exact PA e h.names h.few
  ·have:=Ko e c.From; omega
  ·have:=Ko e c.Until; omega
  ·have:=YN e c.Ca; omega
  ·have:=Ko e c.Depth; omega
  ·exact PA e h.permit h.fewP
 simp only[List.length_cons,List.length_nil]at this;unfold Zw;omega
theorem Xv (d:Nat)(p:g_api_Promise):(putB d (Ke p)).length≤100:=by
 have:=Jw d [O3 p.Log,O3 p.At,MK p.Leaf.1,MK p.Leaf.2,MK p.Sig.E,MK p.Sig.S] 12 fun e y hy=>by
  simp only[List.mem_cons,List.not_mem_nil,or_false]at hy;rcases hy with q|q|q|q|q|q<;>rw[q]<;>exact Ko e _
 simp only[List.length_cons,List.length_nil]at this;unfold Ke;omega
theorem YP (d:Nat){c:g_api_Cert}(h:Ut c):(putB d (Lk c)).length≤50000:=by
 have:=Jw d [Zw c,UW c.Proms] 20000 fun e=>ZI (p:=fun y=>(putB e y).length≤20000) (Zv e h) (by
  have:=Jw e (c.Proms.map Ke) 100 fun f y hy=>by
   obtain⟨p,hp,e2⟩:=List.mem_map.1 hy;rw[←e2];exact Xv f p
  rw[List.length_map]at this;have:=h.proms;unfold UW;omega)
 simp only[List.length_cons,List.length_nil]at this;unfold Lk;omega
theorem Pu (d:Nat){c:g_api_Cert}(h:Ut c):(putB d (wholeI c)).length≤200000:=by
 have:=Jw d [Lk c,PD [MK c.Sig.E,MK c.Sig.S]] 50000 fun e=>ZI (p:=fun y=>(putB e y).length≤50000) (YP e h) (by
  have:=Jw e [MK c.Sig.E,MK c.Sig.S] 12 fun f=>ZI (p:=fun y=>(putB f y).length≤12) (Ko f _) (Ko f _);simp only[List.length_cons,List.length_nil]at this;omega)
 simp only[List.length_cons,List.length_nil]at this;unfold wholeI;omega
def checkV (c:g_api_Cert):Int:=if formB c=true then(if mayB 8 (wholeI c)=true∧(putB 8 (wholeI c)).length≤2048 then 0 else 2)else 1
theorem YJ (b:List UInt8)(m:Bool):(Ac (some (if m=true then(if b.length≤8192 then(b,(0:Int))else([],2))else([],1))) fun x3=>if((x3.2 !=0)||(decide ((x3.1.length:Int)>2048)))=true then some (2:Int)else some 0)=some (if m=true∧b.length≤2048 then 0 else 2):=by
 cases m with
 |false=>rfl
 |true=>
  simp only[if_true,Ab,true_and];by_cases h1:b.length≤8192
  ·rw[if_pos h1];by_cases h2:b.length≤2048
   ·rw[if_pos h2,if_neg];simp only[bne_self_eq_false,Bool.false_or,decide_eq_true_eq];omega
   ·rw[if_neg h2,if_pos];simp only[bne_self_eq_false,Bool.false_or,decide_eq_true_eq];omega
  ·rw[if_neg h1];have h2: ¬b.length≤2048:=by omega
   rw[if_neg h2];rfl
theorem OV (c:g_api_Cert):D7 c=some (checkV c):=by
 unfold D7 checkV;rw[Yo];cases hf:formB c with
 |false=>rfl
 |true=>
  have hs:=(Ui hf).sized;simp only[Ab,Bool.not_true,Bool.false_eq_true,if_false,if_true];have hl:=Pu 8 hs;rw[Wr hs,Ab,Ti (by omega),YJ]
end Go.Proofs.YtbajlmaijjcbmaaGreatDoor
end
section
namespace Go.Proofs.YtbajlmaijjcbmaaGreatDoor
open Go Go.Gw Go.Ax
theorem Mu (n:Int):((toB n).toNat:Int)=n%256:=by
 have h:0≤n%256:=Int.emod_nonneg _ (by decide);have h2:n%256<256:=Int.emod_lt_of_pos _ (by decide);unfold toB;rw[UInt8.toNat_ofNat'];omega
theorem QP (n:Int):DS n 8=n/256:=by
 unfold DS;rw[Int.fdiv_eq_ediv_of_nonneg _ (by decide)];rfl
theorem AcF {α:Type}(a b:List α):cut (a++b) (a.length:Int) (((a++b).length:Nat):Int)=some b:=by
 unfold cut;rw[if_pos ⟨by omega,by rw[List.length_append]; omega,by omega⟩];simp only[Int.toNat_natCast,List.drop_left];rw[List.take_of_length_le];rw[List.length_append]; omega
theorem Vh (p:g_api_Item→List UInt8){y:g_api_Item}: ∀{l:List g_api_Item},y∈l→(p y).length≤(l.flatMap p).length
 |z::l,h=>by
  rw[List.flatMap_cons,List.length_append];rcases List.mem_cons.1 h with e|h
  ·rw[e]; omega
  ·have:=Vh p h; omega
end Go.Proofs.YtbajlmaijjcbmaaGreatDoor
end
section
namespace Go.Proofs.YtbajlmaijjcbmaaGreatDoor
open Go Go.Gw Go.Ax
def s8 (a:UInt8):Int:=if a.toNat<128 then(a.toNat:Int)else(a.toNat:Int)-256
def Sd (s:Int)(l:List UInt8):Int:=l.foldl (fun s b=>s*256+(b.toNat:Int)) s
def wfold (s:Int)(l:List UInt8):Int:=l.foldl (fun s b=>w64 (s*256+(b.toNat:Int))) s
def Y3:List UInt8→Int
 | []=>0
 |a::l=>Sd (s8 a) l
def asintV:List UInt8→Int
 | []=>0
 |a::l=>wfold (s8 a) l
theorem So (b:UInt8):((toB (-((Wg b 7).toNat:Int))).toNat:Int)=if b.toNat<128 then 0 else 255:=by
 have h:=b.toNat_lt;rw[Mu];have e:(Wg b 7).toNat=b.toNat/128:=by
  unfold Wg;rw[UInt8.toNat_ofNat'];show b.toNat/128%256=_;omega
 rw[e];split<;>omega
theorem SG {a b:UInt8}{l:List UInt8}(hl:l.length≤6):HE (a::b::l)=false↔(a.toNat:Int)=if b.toNat<128 then 0 else 255:=by
 show(decide (((a::b::l).length:Int)≤8)&&((a.toNat:Int) !=((toB (-((Wg b 7).toNat:Int))).toNat:Int)))=false↔_;rw[So,decide_eq_true (by simp only[List.length_cons]; omega),Bool.true_and];simp only[bne_eq_false_iff_eq]
theorem WJ {a b:UInt8}{l:List UInt8}(h:(a.toNat:Int)=if b.toNat<128 then 0 else 255):Y3 (a::b::l)=Y3 (b::l):=by
 show Sd (s8 a*256+(b.toNat:Int)) l=Sd (s8 b) l;have hb:=b.toNat_lt;congr 1;unfold s8;by_cases h1:b.toNat<128
 ·rw[if_pos h1]at h⊢;rw[if_pos (by omega)];omega
 ·rw[if_neg h1]at h⊢;rw[if_neg (by omega)];omega
theorem shr_k (n:Int)(k:Nat)(hk:k≤64)(hp:(0:Int)≤2^k):((toB (DS n k)).toNat:Int)=n/2^k%256:=by
 rw[Mu];unfold DS;rw[Nat.min_eq_left hk,Int.fdiv_eq_ediv_of_nonneg _ hp]
end Go.Proofs.YtbajlmaijjcbmaaGreatDoor
end
section
namespace Go.Proofs.YtbajlmaijjcbmaaGreatDoor
open Go Go.Gw Go.Ax
def Aby (a:UInt8):UInt8:=if a.toNat<128 then 0 else 255
theorem UK (a:UInt8):((Aby a).toNat:Int)=if a.toNat<128 then 0 else 255:=by
 unfold Aby;split<;>rfl
theorem Abm: ∀(l:List UInt8),HE l=true→Si l=l
 | [],h=>by cases h
 | [a],_=>rfl
 |a::b::l,h=>by
  unfold Si;rw[if_pos h]
theorem Ze {a:UInt8}{l:List UInt8}(h:l.length≤6):Si (Aby a::a::l)=Si (a::l):=by
 have e:HE (Aby a::a::l)=false:=(SG h).2 (UK a);show(if HE (Aby a::a::l)=true then _ else _)=_;rw[e];rfl
theorem Zk (a:UInt8)(l:List UInt8):Y3 (Aby a::a::l)=Y3 (a::l):=WJ (UK a)
theorem YR (a7 a6 a5 a4 a3 a2 a1 a0:UInt8):be8 (Y3 [a7,a6,a5,a4,a3,a2,a1,a0])=[a7,a6,a5,a4,a3,a2,a1,a0]:=by
 have h6:=a6.toNat_lt; have h5:=a5.toNat_lt; have h4:=a4.toNat_lt; have h3:=a3.toNat_lt; have h2:=a2.toNat_lt; have h1:=a1.toNat_lt; have h0:=a0.toNat_lt;have h7:=a7.toNat_lt;have hs:Y3 [a7,a6,a5,a4,a3,a2,a1,a0]=((((((s8 a7*256+(a6.toNat:Int))*256+(a5.toNat:Int))*256+(a4.toNat:Int))*256+(a3.toNat:Int))*256+(a2.toNat:Int))*256+(a1.toNat:Int))*256+(a0.toNat:Int):=rfl;have hS:s8 a7%256=(a7.toNat:Int):=by unfold s8; split<;>omega
 generalize s8 a7=S at hs hS;generalize Y3 [a7,a6,a5,a4,a3,a2,a1,a0]=n at hs;have d1:n/256=(((((S*256+(a6.toNat:Int))*256+(a5.toNat:Int))*256+(a4.toNat:Int))*256+(a3.toNat:Int))*256+(a2.toNat:Int))*256+(a1.toNat:Int):=by omega
 have d2:n/256/256=((((S*256+(a6.toNat:Int))*256+(a5.toNat:Int))*256+(a4.toNat:Int))*256+(a3.toNat:Int))*256+(a2.toNat:Int):=by rw[d1]; omega
 have d3:n/256/256/256=(((S*256+(a6.toNat:Int))*256+(a5.toNat:Int))*256+(a4.toNat:Int))*256+(a3.toNat:Int):=by rw[d2]; omega
 have d4:n/256/256/256/256=((S*256+(a6.toNat:Int))*256+(a5.toNat:Int))*256+(a4.toNat:Int):=by rw[d3]; omega
 have d5:n/256/256/256/256/256=(S*256+(a6.toNat:Int))*256+(a5.toNat:Int):=by rw[d4]; omega
 have d6:n/256/256/256/256/256/256=S*256+(a6.toNat:Int):=by rw[d5]; omega
 have d7:n/256/256/256/256/256/256/256=S:=by rw[d6]; omega
 have q: ∀(k:Nat) (x:UInt8),k≤64→n/2^k%256=(x.toNat:Int)→toB (DS n k)=x:=fun k x hk h=>by
  apply UInt8.toNat_inj.1;have:=shr_k n k hk (by exact Int.le_of_lt (Int.pow_pos (by decide)));omega
 have p1:n/2^8=n/256:=rfl;have p2:n/2^16=n/256/256:=by
  show n/65536=_;omega
 have p3:n/2^24=n/256/256/256:=by
  show n/16777216=_;omega
 have p4:n/2^32=n/256/256/256/256:=by
  show n/4294967296=_;omega
 have p5:n/2^40=n/256/256/256/256/256:=by
  show n/1099511627776=_;omega
 have p6:n/2^48=n/256/256/256/256/256/256:=by
  show n/281474976710656=_;omega
 have p7:n/2^56=n/256/256/256/256/256/256/256:=by
  show n/72057594037927936=_;omega
 unfold be8;rw[q 56 a7 (by decide) (by rw[p7,d7]; exact hS),q 48 a6 (by decide) (by rw[p6,d6]; omega),q 40 a5 (by decide) (by rw[p5,d5]; omega),q 32 a4 (by decide) (by rw[p4,d4]; omega),q 24 a3 (by decide) (by rw[p3,d3]; omega),
  q 16 a2 (by decide) (by rw[p2,d2]; omega),q 8 a1 (by decide) (by rw[p1,d1]; omega),q 0 a0 (by decide) (by rw[Int.pow_zero,Int.ediv_one]; omega)]
theorem UA: ∀(k:Nat) (a:UInt8) (l:List UInt8),(a::l).length+k=8→Si (be8 (Y3 (a::l)))=Si (a::l)
 |0,a,l,h=>by
  match l,h with
  | [a6,a5,a4,a3,a2,a1,a0],_=>rw[YR]
 |k+1,a,l,h=>by
  have h:l.length+1+(k+1)=8:=by simpa using h
  have ih:=UA k (Aby a) (a::l) (by simp only[List.length_cons]; omega);rw[Zk,Ze (by omega)]at ih;exact ih
theorem XV {l:List UInt8}(h:HE l=true):1≤l.length∧l.length≤8:=by
 match l,h with
 | [a],_=>exact⟨by simp,by simp⟩
 |a::b::l,h=>
  have h:(decide (((a::b::l).length:Int)≤8)&&((a.toNat:Int) !=((toB (-((Wg b 7).toNat:Int))).toNat:Int)))=true:=h;simp only[Bool.and_eq_true,decide_eq_true_eq]at h;exact⟨by simp,by omega⟩
theorem ZN {l:List UInt8}(h:HE l=true):Si (be8 (Y3 l))=l:=by
 have hl:=XV h;cases l with
 |nil=>cases h
 |cons a l=>
  rw[UA (8-(a::l).length) a l (by omega)];exact Abm _ h
end Go.Proofs.YtbajlmaijjcbmaaGreatDoor
end
section
namespace Go.Proofs.YtbajlmaijjcbmaaGreatDoor
open Go Go.Gw Go.Ax
theorem AaU {s:ByteArray}{i:Nat}{b:UInt8}(h:s.data.toList[i]? =some b):s.get! i=b:=by
 have h2:s.data[i]? =some b:=by rw[←Array.getElem?_toList]; exact h
 show s.data[i]! =b;rw[getElem!_def,h2]
theorem Aa0 {s:ByteArray}{i:Nat}{b:UInt8}(h:s.data.toList[i]? =some b)(hb:b.toNat<128):Utf8.decode s i=(b.toNat,1):=by
 unfold Utf8.decode;simp only[Nat.add_zero,AaU h];rw[if_pos hb]
theorem Aa1 {s:ByteArray}{i:Nat}{b:UInt8}(h:s.data.toList[i]? =some b)(hb: ¬b.toNat<128):128≤(Utf8.decode s i).1:=by
 unfold Utf8.decode;simp only[Nat.add_zero,AaU h];rw[if_neg hb];have he:Utf8.runeError=65533:=rfl;split
 ·split
  ·assumption
  ·simp[he]
 ·split
  ·split
   ·rename_i h1;simp only[Bool.and_eq_true,decide_eq_true_eq]at h1;show 128≤_;omega
   ·simp[he]
  ·split
   ·split
    ·rename_i h1;simp only[Bool.and_eq_true,decide_eq_true_eq]at h1;show 128≤_;omega
    ·simp[he]
   ·simp[he]
def DT (c:UInt8):Bool:=(decide (97≤c.toNat)&&decide (c.toNat≤122))||(decide (48≤c.toNat)&&decide (c.toNat≤57))
def Nr (c:UInt8):Bool:=c.toNat==45||DT c
def Pc:List UInt8→Bool
 | []=>true
 | [c]=>DT c
 |c::d::r=>Nr c&&Pc (d::r)
def Ln:List UInt8→Bool
 | []=>false
 | [c]=>DT c
 |c::d::r=>(DT c||c.toNat==95)&&Pc (d::r)&&decide ((c::d::r).length≤16)
theorem SW (n:Nat)(c:UInt8)(h:n=c.toNat):CF (n:Int)=some (DT c):=by
 subst h;unfold CF DT;rw[BY];congr 1;have e: ∀k:Nat,decide ((k:Int)≤(c.toNat:Int))=decide (k≤c.toNat):=fun k=>by rw[decide_eq_decide]; omega
 have e2: ∀k:Nat,decide ((c.toNat:Int)≤(k:Int))=decide (c.toNat≤k):=fun k=>by rw[decide_eq_decide]; omega
 rw[←e 97,←e2 122,←e 48,←e2 57];rfl
theorem Yx (n:Nat)(h:128≤n):CF (n:Int)=some false:=by
 unfold CF;rw[BY,decide_eq_false (show¬(n:Int)≤122 from by omega),decide_eq_false (show¬(n:Int)≤57 from by omega),Bool.and_false,Bool.and_false];rfl
theorem V7 (n:Nat)(c:UInt8)(h:n=c.toNat):CA (n:Int)=some (Nr c):=by
 unfold CA Nr;rw[SW n c h,RK,Ab];subst h;have e:((c.toNat:Int)==45)=(c.toNat==45):=by rw[Bool.eq_iff_iff,beq_iff_eq,beq_iff_eq]; omega
 rw[e];cases c.toNat==45<;>simp
theorem ZT (n:Nat)(h:128≤n):CA (n:Int)=some false:=by
 unfold CA;rw[Yx n h,RK,Ab];have e:((n:Int)==45)=false:=by rw[beq_eq_false_iff_ne]; omega
 rw[e]; rfl
theorem Ack (c:UInt8)(h: ¬c.toNat<128):DT c=false∧Nr c=false∧(c.toNat==95)=false:=by
 have e1:DT c=false:=by
  unfold DT;rw[decide_eq_false (show¬c.toNat≤122 from by omega),decide_eq_false (show¬c.toNat≤57 from by omega),Bool.and_false,Bool.and_false]; rfl
 have e2:(c.toNat==45)=false:=by rw[beq_eq_false_iff_ne]; omega
 refine⟨e1,?_,by rw[beq_eq_false_iff_ne]; omega⟩;unfold Nr;rw[e1,e2]; rfl
theorem PN {s:ByteArray}{i:Nat}{c:UInt8}(hs:s.size≤16)(h:s.data.toList[i]? =some c):
  AW s i=some (if(if i+1=s.size then DT c else if i=0 then DT c||c.toNat==95 else Nr c)=true then .inl (i+1)else .inr (.inr false)):=by
 have hi:i<s.size:=by
  have:=(List.getElem?_eq_some_iff.1 h).1;rw[AA]at this;exact this
 have hw:w64 ((s.size:Int)-1)=(s.size:Int)-1:=CW (by omega) (by omega);unfold AW;rw[if_pos hi,BY,hw];by_cases hb:c.toNat<128
 ·rw[Aa0 h hb,SW c.toNat c rfl,V7 c.toNat c rfl,RK,Ab,BY,BY,RK,Ab,BY,RK,Ab];have e95:((c.toNat:Int)==95)=(c.toNat==95):=by rw[Bool.eq_iff_iff,beq_iff_eq,beq_iff_eq]; omega
  by_cases hl:i+1=s.size
  ·have el:((i:Int)==(s.size:Int)-1)=true:=by rw[beq_iff_eq]; omega
   rw[if_pos hl,el];cases DT c<;>rfl
  ·have el:((i:Int)==(s.size:Int)-1)=false:=by rw[beq_eq_false_iff_ne]; omega
   rw[if_neg hl,el];by_cases h0:i=0
   ·have e0:((i:Int)==0)=true:=by rw[beq_iff_eq]; omega
    rw[if_pos h0,e0];show(if(true&&((true&&DT c)||((c.toNat:Int)==95)))=true then _ else _)=_;rw[e95];cases DT c<;>cases c.toNat==95<;>rfl
   ·have e0:((i:Int)==0)=false:=by rw[beq_eq_false_iff_ne]; omega
    rw[if_neg h0,e0];cases Nr c<;>rfl
 ·have hd:=Aa1 h hb;generalize Utf8.decode s i=q at hd;obtain⟨n,k⟩:=q;have hn:128≤n:=hd;obtain⟨b1,b2,b3⟩:=Ack c hb;show(Ac (gu _ (CF (n:Int))) _)=_;rw[Yx n hn,RK,Ab,BY,Bool.and_false,Bool.and_false,if_neg (by decide),BY];have e95:((n:Int)==95)=false:=by rw[beq_eq_false_iff_ne]; omega
  by_cases hl:i+1=s.size
  ·have el:((i:Int)==(s.size:Int)-1)=true:=by rw[beq_iff_eq]; omega
   rw[if_pos hl,el,b1];rfl
  ·have el:((i:Int)==(s.size:Int)-1)=false:=by rw[beq_eq_false_iff_ne]; omega
   rw[if_neg hl,el,if_neg (by decide)];rw[RK,Ab,BY];show(if(((i:Int)==0)&&((((i:Int)==0)&&false)||((n:Int)==95)))=true then _ else Ac (gu _ (CA (n:Int))) _)=_;rw[ZT n hn,RK,Ab,e95,Bool.and_false,Bool.or_false,Bool.and_false,if_neg (by decide)];by_cases h0:i=0
   ·have e0:((i:Int)==0)=true:=by rw[beq_iff_eq]; omega
    rw[if_pos h0,e0,b1,b3];rfl
   ·have e0:((i:Int)==0)=false:=by rw[beq_eq_false_iff_ne]; omega
    rw[if_neg h0,e0,b2];rfl
theorem XX {s:ByteArray}{i:Nat}(h: ¬i<s.size):AW s i=some (.inr (.inl i)):=by
 unfold AW;rw[if_neg h]
theorem PM {s:ByteArray}(hs:s.size≤16): ∀(r:List UInt8) (i n:Nat),1≤i→s.data.toList.drop i=r→i≤s.size→r.length<n→∃z,iter (AW s) n i=some (if Pc r=true then .inl z else .inr false)
 |r,i,0,_,_,_,h=>by omega
 | [],i,n+1,_,h,hi,_=>by
  have hl:s.data.toList.length≤i:=List.drop_eq_nil_iff.1 h;rw[AA]at hl;refine⟨i,?_⟩;show Ac (AW s i) _=_;rw[XX (by omega)];rfl
 |c::r,i,n+1,h1,h,hi,hn=>by
  have hc:s.data.toList[i]? =some c:=by
   have:(s.data.toList.drop i)[0]? =some c:=by rw[h]; rfl
   simpa using this
  have hlt:i<s.size:=by
   have:=(List.getElem?_eq_some_iff.1 hc).1;rw[AA]at this; exact this
  have hr:s.data.toList.drop (i+1)=r:=by rw[←List.drop_drop,h]; rfl
  have hlen:r.length=s.size-(i+1):=by rw[←hr,List.length_drop,AA]
  obtain⟨z,ih⟩:=PM hs r (i+1) n (by omega) hr (by omega) (by rw[List.length_cons]at hn; omega);refine⟨z,?_⟩;show Ac (AW s i) _=_;rw[PN hs hc,if_neg (show¬i=0 from by omega)];cases r with
  |nil=>
   rw[if_pos (show i+1=s.size from by rw[List.length_nil]at hlen; omega)];show _=some (if DT c=true then _ else _);cases DT c with
   |false=>rfl
   |true=>rw[if_pos rfl,if_pos rfl]; exact ih
  |cons d r=>
   rw[if_neg (show¬i+1=s.size from by rw[List.length_cons]at hlen; omega)];show _=some (if(Nr c&&Pc (d::r))=true then _ else _);cases Nr c with
   |false=>rfl
   |true=>
    rw[if_pos rfl,Bool.true_and];exact ih
theorem ZO (s:ByteArray):DF s=some (Ln s.data.toList):=by
 unfold DF;cases hl:s.data.toList with
 |nil=>
  have:eqS s (⟨#[]⟩:ByteArray)=true:=by unfold eqS; rw[hl]; rfl
  rw[this,Bool.true_or,if_pos rfl];rfl
 |cons c r=>
  have h0:eqS s (⟨#[]⟩:ByteArray)=false:=by unfold eqS; rw[hl]; rfl
  have hz:s.size=r.length+1:=by rw[←AA,hl]; rfl
  rw[h0,Bool.false_or];by_cases hs:s.size≤16
  ·rw[decide_eq_false (show¬(s.size:Int)>16 from by omega),if_neg (by decide)];have hc:s.data.toList[0]? =some c:=by rw[hl]; rfl
   have hd:s.data.toList.drop 1=r:=by rw[hl]; rfl
   have e': ∀n,r.length<n→∃z,iter (AW s) (n+1) 0=some (if Ln (c::r)=true then .inl z else .inr false):=by
    intro n hn;obtain⟨z,ht⟩:=PM hs r 1 n (by decide) hd (by omega) hn;refine⟨z,?_⟩;show Ac (AW s 0) _=_;rw[PN hs hc,if_pos rfl];cases r with
    |nil=>
     rw[if_pos (show 0+1=s.size from by rw[hz]; rfl)];show _=some (if DT c=true then _ else _);cases DT c with
     |false=>rfl
     |true=>rw[if_pos rfl,if_pos rfl]; exact ht
    |cons d r=>
     rw[if_neg (show¬0+1=s.size from by rw[hz,List.length_cons]; omega)];show _=some (if((DT c||c.toNat==95)&&Pc (d::r)&&decide ((c::d::r).length≤16))=true then _ else _);rw[decide_eq_true (show(c::d::r).length≤16 from by rw[List.length_cons,←hz]; exact hs),Bool.and_true];cases DT c||c.toNat==95 with
     |false=>rfl
     |true=>
      rw[if_pos rfl,Bool.true_and];exact ht
   obtain⟨z,e⟩: ∃z,iter (AW s) AR 0=some (if Ln (c::r)=true then .inl z else .inr false):=e' 18446744073709551615 (by omega);rw[e,Ab];cases Ln (c::r)<;>rfl
  ·rw[decide_eq_true (show(s.size:Int)>16 from by omega),if_pos rfl];cases r with
   |nil=>rw[hz]at hs; simp at hs
   |cons d r=>
    show _=some ((DT c||c.toNat==95)&&Pc (d::r)&&decide ((c::d::r).length≤16));rw[decide_eq_false (show¬(c::d::r).length≤16 from by rw[List.length_cons,←hz]; exact hs),Bool.and_false]
end Go.Proofs.YtbajlmaijjcbmaaGreatDoor
end
section
namespace Go.Proofs.YtbajlmaijjcbmaaGreatDoor
open Go Go.Gw Go.Ax
def BZ:List UInt8→List (List UInt8)
 | []=> [[]]
 |c::l=>if c=46 then []::BZ l else match BZ l with|h::t=>(c::h)::t| []=> [[c]]
theorem Oi (c:UInt8)(l:List UInt8):BZ (c::l)=if c=46 then []::BZ l else match BZ l with|h::t=>(c::h)::t| []=> [[c]]:=rfl
theorem LK: ∀l:List UInt8,BZ l≠[]
 | []=>by simp[BZ]
 |c::l=>by
  unfold BZ;split
  ·simp
  ·split<;>simp
theorem LL: ∀(p r:List UInt8),(46:UInt8)∉p→BZ (p++46::r)=p::BZ r
 | [],r,_=>by simp[BZ]
 |c::p,r,h=>by
  have hc:c≠46:=fun e=>h (by rw[e]; exact List.mem_cons_self);have ih:=LL p r fun q=>h (List.mem_cons_of_mem _ q);show BZ (c::(p++46::r))=_;rw[Oi,if_neg hc,ih]
theorem Oh: ∀(p:List UInt8),(46:UInt8)∉p→BZ p=[p]
 | [],_=>rfl
 |c::p,h=>by
  have hc:c≠46:=fun e=>h (by rw[e]; exact List.mem_cons_self);have ih:=Oh p fun q=>h (List.mem_cons_of_mem _ q);unfold BZ;rw[if_neg hc,ih]
theorem K7: ∀(l:List UInt8),(BZ l).length=l.count 46+1
 | []=>rfl
 |c::l=>by
  have ih:=K7 l;unfold BZ;by_cases hc:c=46
  ·rw[if_pos hc,hc,List.count_cons_self,List.length_cons,ih]
  ·rw[if_neg hc,List.count_cons_of_ne hc];cases h:BZ l with
   |nil=>exact absurd h (LK l)
   |cons a t=>rw[h]at ih; simpa using ih
theorem Ma: ∀(l:List UInt8) (c:UInt8),(Lib.indexByte l c= -1∧c∉l)∨∃p r,l=p++c::r∧c∉p∧Lib.indexByte l c=(p.length:Int)
 | [],c=> .inl ⟨rfl,by simp⟩
 |b::l,c=>by
  unfold Lib.indexByte;cases hb:b==c with
  |true=>
   have e:b=c:=by simpa using hb
   exact .inr ⟨[],l,by rw[e]; rfl,by simp,rfl⟩
  |false=>
   have e:b≠c:=by simpa using hb
   rcases Ma l c with ⟨h1,h2⟩|⟨p,r,h1,h2,h3⟩
   ·refine .inl ⟨by rw[h1]; rfl,?_⟩;intro h;rcases List.mem_cons.1 h with q|q
    ·exact e q.symm
    ·exact h2 q
   ·refine .inr ⟨b::p,r,by rw[h1]; rfl,?_,?_⟩
    ·intro h;rcases List.mem_cons.1 h with q|q
     ·exact e q.symm
     ·exact h2 q
    ·rw[h3];have:((p.length:Int)== -1)=false:=by rw[beq_eq_false_iff_ne]; omega
     rw[if_neg (by decide),if_neg (by rw[this]; decide),List.length_cons];omega
theorem Ho (s:ByteArray)(a b:Nat):(s.extract a b).data.toList=(s.data.toList.take b).drop a:=by
 rw[ByteArray.data_extract,Array.toList_extract,List.extract_eq_take_drop,List.take_drop];by_cases h:a≤b
 ·rw[Nat.add_sub_cancel' h]
 ·rw[Nat.sub_eq_zero_of_le (by omega),Nat.add_zero];rw[List.drop_eq_nil_of_le (by rw[List.length_take]; omega),List.drop_eq_nil_of_le (by rw[List.length_take]; omega)]
def Pn (l:List UInt8):Bool:=(BZ l).all Ln
theorem b5_eq (b:ByteArray)(s:Unit×Nat):BF b s=some ((),if Ln b.data.toList=true then 0 else 1):=by
 unfold BF;rw[ZO,Ab];cases Ln b.data.toList<;>rfl
def cbk:(Unit×Nat)→ByteArray→Option (Bool×(Unit×Nat)):=fun(s:(Unit)×Nat) (b0:ByteArray)=>if s.2=0 then Ac (BF b0 s) fun y=>some (y.2==0,y)else none
theorem Aa8 (b:ByteArray):cbk ((),0) b=some (Ln b.data.toList,((),if Ln b.data.toList=true then 0 else 1)):=by
 unfold cbk;rw[if_pos rfl,b5_eq,Ab];cases Ln b.data.toList<;>rfl
theorem OK (s:ByteArray)(h:s.size≤1000):Bi s (⟨#[46]⟩:ByteArray)=some (Vb s 46):=by
 obtain⟨x,hx,h1,h2⟩:=SL s;unfold Bi Ay Ba;rw[BY];cases he:eqS (⟨#[46]⟩:ByteArray) s with
 |true=>
  have e:=(IV.1 he);subst e;rfl
 |false=>rfl
theorem PC: ∀(m:Nat) (s:ByteArray) (n:Nat),s.size≤m→m<n→m≤100→
  ∃z:ByteArray,iter (AF cbk (⟨#[46]⟩:ByteArray) 0) n (s,((),0))=some (if(BZ s.data.toList).dropLast.all Ln=true then .inl (z,((),0))else .inr ((⟨#[46]⟩:ByteArray),z,0,((),1)))∧
   ((BZ s.data.toList).dropLast.all Ln=true→some z.data.toList=(BZ s.data.toList).getLast?)
 |m,s,0,_,h,_=>by omega
 |m,s,n+1,hs,hn,hm=>by
  have hx:Bi s (⟨#[46]⟩:ByteArray)=some (Vb s 46):=OK s (by omega);show∃z,Ac (AF cbk (⟨#[46]⟩:ByteArray) 0 (s,((),0))) _=_∧_;rcases Ma s.data.toList 46 with ⟨h1,h2⟩|⟨p,r,h1,h2,h3⟩
  ·have e:AF cbk (⟨#[46]⟩:ByteArray) 0 (s,((),0))=some (.inr (.inl (s,((),0)))):=by
    unfold AF;show Ac (Bi s (⟨#[46]⟩:ByteArray)) _=_;rw[hx,Ab,show Vb s 46= -1 from h1];rfl
   rw[e,Oh _ h2];exact⟨s,rfl,fun _=>rfl⟩
  ·have hz:s.size=p.length+1+r.length:=by rw[←AA,h1,List.length_append,List.length_cons]; omega
   have e1:KP s 0 (w64 ((p.length:Int)+0))=some (s.extract 0 p.length):=by
    rw[Int.add_zero,CW (by omega) (by omega),CY (by omega) (by omega) (by omega)];rfl
   have e2:KP s (w64 ((p.length:Int)+((⟨#[46]⟩:ByteArray).size:Int))) (s.size:Int)=some (s.extract (p.length+1) s.size):=by
    have:((⟨#[46]⟩:ByteArray).size:Int)=1:=rfl;rw[this,CW (by omega) (by omega),CY (by omega) (by omega) (by omega)];rfl
   have l1:(s.extract 0 p.length).data.toList=p:=by
    rw[Ho,h1,List.take_left]; rfl
   have l2:(s.extract (p.length+1) s.size).data.toList=r:=by
    rw[Ho,←AA,List.take_length,h1];rw[←List.drop_drop,List.drop_left]; rfl
   have e:AF cbk (⟨#[46]⟩:ByteArray) 0 (s,((),0))=some (if Ln p=true then .inl (s.extract (p.length+1) s.size,((),0))else .inr (.inr ((⟨#[46]⟩:ByteArray),s,0,((),1)))):=by
    unfold AF;show Ac (Bi s (⟨#[46]⟩:ByteArray)) _=_;rw[hx,Ab,show Vb s 46=(p.length:Int)from h3,if_neg (by rw[decide_eq_true_eq]; omega),e1,Ab,Aa8,Ab,l1];cases hlab:Ln p with
    |false=>rfl
    |true=>
     rw[if_neg (by simp)];dsimp only;rw[e2,Ab];rfl
   rw[e,h1,LL p r h2];have hsz:(s.extract (p.length+1) s.size).size=r.length:=by rw[←AA,l2]
   obtain⟨z,ih1,ih2⟩:=PC (m-1) (s.extract (p.length+1) s.size) n (by omega) (by omega) (by omega);rw[l2]at ih1 ih2;have hd:(p::BZ r).dropLast=p::(BZ r).dropLast:=by
    cases hq:BZ r with
    |nil=>exact absurd hq (LK r)
    |cons a t=>rfl
   have hg:(p::BZ r).getLast? =(BZ r).getLast? :=by
    cases hq:BZ r with
    |nil=>exact absurd hq (LK r)
    |cons a t=>rfl
   rw[hd,hg,List.all_cons];cases Ln p with
   |false=>exact⟨s,rfl,fun h=>by cases h⟩
   |true=>exact⟨z,ih1,ih2⟩
theorem RF {α:Type}(f:α→Bool): ∀(l:List α) (x:α),l.getLast? =some x→l.all f=(l.dropLast.all f&&f x)
 | [],x,h=>by cases h
 | [a],x,h=>by cases h; simp
 |a::b::l,x,h=>by
  have ih:=RF f (b::l) x (by simpa using h);show(f a&&(b::l).all f)=((f a&&(b::l).dropLast.all f)&&f x);rw[ih,Bool.and_assoc]
def isB (l:List UInt8)(n k:Nat):Bool:=decide (l.length≤k)&&decide ((BZ l).length≤n)&&Pn l
theorem Ov (s:ByteArray)(n k:Nat)(hk:k≤100):Bc s (n:Int) (k:Int)=some (isB s.data.toList n k):=by
 unfold Bc isB;have hz:=AA s;by_cases h1:s.size≤k
 ·rw[decide_eq_false (show¬(s.size:Int)>k from by omega),if_neg (by decide),decide_eq_true (show s.data.toList.length≤k from by omega)];have ec:ER s (⟨#[46]⟩:ByteArray)=some ((s.data.toList.count 46:Nat):Int):=rfl;rw[ec,Ab,Ab,K7];by_cases h2:s.data.toList.count 46+1≤n
  ·rw[decide_eq_false (show¬((s.data.toList.count 46:Nat):Int)≥(n:Int)from by omega),if_neg (by decide),decide_eq_true h2];obtain⟨z,e1,e2⟩:=PC 100 s AR (by omega) (by have:=BA; omega) (by decide);have es:Bd cbk (⟨#[46]⟩:ByteArray) s 0 ((),0)=some ((⟨#[46]⟩:ByteArray),z,0,((),if Pn s.data.toList=true then 0 else 1)):=by
    unfold Bd;rw[if_neg (by decide),e1,Ab];unfold Pn;cases hd:(BZ s.data.toList).dropLast.all Ln with
    |true=>
     have hlast:=(e2 hd).symm;rw[RF Ln _ _ hlast,hd,if_pos rfl];show Ac (cbk ((),0) z) _=_;rw[Aa8,Ab,Bool.true_and]
    |false=>
     have:(BZ s.data.toList).all Ln=false:=by
      cases hl:(BZ s.data.toList).getLast? with
      |none=>exact absurd (List.getLast?_eq_none_iff.1 hl) (LK _)
      |some x=>rw[RF Ln _ x hl,hd]; rfl
     rw[this];rfl
   show Ac (Bd cbk (⟨#[46]⟩:ByteArray) s 0 ((),0)) _=_;rw[es,Ab];cases Pn s.data.toList<;>rfl
  ·rw[decide_eq_true (show((s.data.toList.count 46:Nat):Int)≥(n:Int)from by omega),if_pos rfl,decide_eq_false h2];rfl
 ·rw[decide_eq_true (show(s.size:Int)>k from by omega),if_pos rfl,Ab,if_pos rfl,decide_eq_false (show¬s.data.toList.length≤k from by omega)];rfl
theorem U3 (s:ByteArray):nameV s=if isB s.data.toList 8 64=true then 0 else 110:=by
 have e:=ND s;have e2:CO s=some (isB s.data.toList 8 64):=by
  unfold CO;rw[show Bc s 8 64=some (isB s.data.toList 8 64)from Ov s 8 64 (by decide)];rfl
 unfold CB at e;rw[e2,Ab]at e;cases h:isB s.data.toList 8 64 with
 |true=>rw[h]at e; exact(Option.some.inj e).symm
 |false=>rw[h]at e; exact(Option.some.inj e).symm
end Go.Proofs.YtbajlmaijjcbmaaGreatDoor
end
section
namespace Go.Proofs.YtbajlmaijjcbmaaGreatDoor
open Go Go.Gw Go.Ax
theorem Tm (c:UInt8):DA c=some (DT c):=by
 unfold DA DT;rw[BY];congr 1;have e: ∀k:Nat,decide ((c.toNat:Int)≥(k:Int))=decide (k≤c.toNat):=fun k=>by rw[decide_eq_decide]; omega
 have e2: ∀k:Nat,decide ((c.toNat:Int)≤(k:Int))=decide (c.toNat≤k):=fun k=>by rw[decide_eq_decide]; omega
 rw[←e 97,←e2 122,←e 48,←e2 57];rfl
theorem UF: ∀(r:List UInt8) (x:UInt8),r.getLast? =some x→Pc r=(DT x&&r.all Nr)
 | [],x,h=>by cases h
 | [a],x,h=>by
  cases h;show DT a=(DT a&&(Nr a&&true));unfold Nr;cases DT a<;>simp
 |a::b::r,x,h=>by
  have ih:=UF (b::r) x (by simpa using h);show(Nr a&&Pc (b::r))=(DT x&&(Nr a&&(b::r).all Nr));rw[ih];cases Nr a<;>cases DT x<;>rfl
theorem AZ {α:Type}{l:List α}{i:Nat}{x:α}(h:l[i]? =some x):idx l (i:Int)=some x:=by
 unfold idx;rw[if_pos (by omega)];exact h
theorem Xe {s:ByteArray}{i:Nat}{c:UInt8}(h:s.data.toList[i]? =some c)(hs:s.size≤100000):BD s (i:Int)=some (if Nr c=true then .inl ((i+1:Nat):Int)else .inr (.inr false)):=by
 have hi:i<s.size:=by
  have:=(List.getElem?_eq_some_iff.1 h).1;rw[AA]at this;exact this
 unfold BD;rw[decide_eq_true (show(i:Int)<(s.size:Int)from by omega),if_pos rfl,AZ h,Ab,Tm,Ab];have hw:w64 ((i:Int)+1)=((i+1:Nat):Int):=by rw[CW (by omega) (by omega)]; omega
 have e45:((c.toNat:Int) !=45)= !(c.toNat==45):=by
  show(!((c.toNat:Int)==45))=_;have:((c.toNat:Int)==45)=(c.toNat==45):=by rw[Bool.eq_iff_iff,beq_iff_eq,beq_iff_eq]; omega
  rw[this]
 unfold Nr;cases he:DT c with
 |true=>
  rw[show gu (!true) (some c)=some default from rfl,Ab,hw,Bool.or_true];rfl
 |false=>
  rw[show gu (!false) (some c)=some c from rfl,Ab,e45,hw,Bool.or_false];cases c.toNat==45<;>rfl
theorem Su {s:ByteArray}(hs:s.size≤100000): ∀(r:List UInt8) (i n:Nat),s.data.toList.drop i=r→r.length<n→iter (BD s) n (i:Int)=some (if r.all Nr=true then .inl ()else .inr false)
 |r,i,0,_,h=>by omega
 | [],i,n+1,h,_=>by
  have hl:s.data.toList.length≤i:=List.drop_eq_nil_iff.1 h;rw[AA]at hl;have e:BD s (i:Int)=some (.inr (.inl ())):=by
   unfold BD;rw[decide_eq_false (show¬(i:Int)<(s.size:Int)from by omega)];rfl
  show Ac (BD s (i:Int)) _=_;rw[e];rfl
 |c::r,i,n+1,h,hn=>by
  have hc:s.data.toList[i]? =some c:=by
   have:(s.data.toList.drop i)[0]? =some c:=by rw[h]; rfl
   simpa using this
  have hr:s.data.toList.drop (i+1)=r:=by rw[←List.drop_drop,h]; rfl
  have ih:=Su hs r (i+1) n hr (by rw[List.length_cons]at hn; omega);show Ac (BD s (i:Int)) _=_;rw[Xe hc hs,List.all_cons];cases Nr c with
  |false=>rfl
  |true=>rw[if_pos rfl,Bool.true_and]; exact ih
theorem Xd (s:ByteArray)(hs:s.size≤100000):Gq s=some (Ln s.data.toList):=by
 have hz:=AA s;unfold Gq;by_cases h1:s.size<1∨s.size>16
 ·have eb:(decide ((s.size:Int)<1)||decide ((s.size:Int)>16))=true:=by
   rw[Bool.or_eq_true,decide_eq_true_eq,decide_eq_true_eq]; omega
  rw[eb];show some false=_;cases hl:s.data.toList with
  |nil=>rfl
  |cons c r=>
   rw[hl,List.length_cons]at hz;cases r with
   |nil=>rw[List.length_nil]at hz; omega
   |cons d r=>
    show some false=some ((DT c||c.toNat==95)&&Pc (d::r)&&decide ((c::d::r).length≤16));rw[decide_eq_false (show¬(c::d::r).length≤16 from by rw[List.length_cons]; omega),Bool.and_false]
 ·have eb:(decide ((s.size:Int)<1)||decide ((s.size:Int)>16))=false:=by
   rw[Bool.or_eq_false_iff,decide_eq_false_iff_not,decide_eq_false_iff_not]; omega
  cases hl:s.data.toList with
  |nil=>rw[hl,List.length_nil]at hz; omega
  |cons c r=>
   obtain⟨x,hx⟩: ∃x,(c::r).getLast? =some x:=⟨_,List.getLast?_cons⟩;have hx2:(c::r)[s.size-1]? =some x:=by
    rw[←hx,List.getLast?_eq_getElem?,←hl,hz]
   have hw:w64 ((s.size:Int)-1)=((s.size-1:Nat):Int):=by rw[CW (by omega) (by omega)]; omega
   have ex:idx (c::r) (w64 ((s.size:Int)-1))=some x:=by rw[hw]; exact AZ hx2
   have hloop:=Su hs r 1 AR (by rw[hl]; rfl) (by
    have:=BA;rw[hl,List.length_cons]at hz;omega)
   have hloop:iter (BD s) AR 1=some (if r.all Nr=true then .inl ()else .inr false):=hloop;rw[eb,ex,show idx (c::r) 0=some c from rfl,hloop];rw[show gu (!false) (some x)=some x from rfl,Ab,show gu (!false) (DA x)=DA x from rfl,Tm,Ab];have e95:((c.toNat:Int) !=95)= !(c.toNat==95):=by
    show(!((c.toNat:Int)==95))=_;have:((c.toNat:Int)==95)=(c.toNat==95):=by rw[Bool.eq_iff_iff,beq_iff_eq,beq_iff_eq]; omega
    rw[this]
   have hlab:Ln (c::r)=(DT x&&(DT c||c.toNat==95)&&r.all Nr):=by
    cases r with
    |nil=>
     have hxc:x=c:=by simpa using hx.symm
     rw[hxc];show DT c=_;cases DT c<;>simp
    |cons d r=>
     have ht:=UF (d::r) x (by simpa using hx);show((DT c||c.toNat==95)&&Pc (d::r)&&decide ((c::d::r).length≤16))=_;rw[hl,List.length_cons]at hz;rw[ht,decide_eq_true (show(c::d::r).length≤16 from by rw[List.length_cons]; omega),Bool.and_true];cases DT c||c.toNat==95<;>cases DT x<;>rfl
   rw[hlab];cases DT x with
   |false=>rfl
   |true=>
    rw[show gu (!((false||(!true)))) (some c)=some c from rfl,Ab,Tm,show gu (!((false||(!true)))) (some (DT c))=some (DT c)from rfl,Ab];cases DT c with
    |true=>
     show Ac (gu false (some c)) _=_;rw[SM,Ab];cases r.all Nr<;>rfl
    |false=>
     show Ac (some c) (fun x5=>if((false|| !true)||(!false&&((x5.toNat:Int) !=95)))=true then some false else Ac (some (if r.all Nr=true then(.inl ():Unit⊕Bool)else .inr false)) _)=_;rw[Ab,e95];cases c.toNat==95 with
     |false=>rfl
     |true=>cases r.all Nr<;>rfl
end Go.Proofs.YtbajlmaijjcbmaaGreatDoor
end
section
namespace Go.Proofs.YtbajlmaijjcbmaaGreatDoor
open Go Go.Gw Go.Ax
def toL (s:ByteArray):List UInt8:=s.data.toList
theorem Kw {α:Type}(b:Nat){xs ys:List α}(h:(xs.length+ys.length)*b≤140737488355328)(h1:xs.length+ys.length≤140737488355328):app b xs ys=some (xs++ys):=by unfold app; rw[if_pos ⟨h,h1⟩]
theorem Z6 {α:Type}(l:List α){f i:Nat}(h:f≤i):l.drop f=(l.take i).drop f++l.drop i:=by
 have h0:l=l.take i++l.drop i:=(List.take_append_drop i l).symm;by_cases hi:i≤l.length
 ·conv=>lhs; rw[h0]
  rw[List.drop_append_of_le_length (by rw[List.length_take]; omega)]
 ·rw[List.take_of_length_le (by omega),List.drop_eq_nil_of_le (show l.length≤i by omega),List.append_nil]
theorem WG {α:Type}{l:List α}{i f:Nat}{c:α}(h:l[i]? =some c)(hf:f≤i):(l.take (i+1)).drop f=(l.take i).drop f++[c]:=by
 rw[List.take_add_one,h];have hl:i<l.length:=(List.getElem?_eq_some_iff.1 h).1;rw[List.drop_append_of_le_length (by rw[List.length_take]; omega)];rfl
theorem Ru {s:ByteArray}(hs:s.size≤100000): ∀(r:List UInt8) (i f n:Nat) (out:List ByteArray),(toL s).drop i=r→r.length<n→f≤i→i≤s.size→out.length≤i→(46:UInt8)∉((toL s).take i).drop f→
  ∃(o:List ByteArray) (g:Nat),iter (Bu s) n (out,(f:Int),(i:Int))=some (o,(g:Int))∧g≤s.size∧o.length≤s.size∧o.map toL++[(toL s).drop g]=out.map toL++BZ ((toL s).drop f)
 |r,i,f,0,_,_,h,_,_,_,_=>by omega
 | [],i,f,n+1,out,h,_,hf,hi,ho,hp=>by
  have hl:(toL s).length≤i:=List.drop_eq_nil_iff.1 h;have hz:(toL s).length=s.size:=AA s;have e:Bu s (out,(f:Int),(i:Int))=some (.inr (out,(f:Int))):=by
   unfold Bu;show(if decide ((i:Int)<(s.size:Int))=true then _ else _)=_;rw[decide_eq_false (show¬(i:Int)<(s.size:Int)from by omega)];rfl
  refine⟨out,f,?_,by omega,by omega,?_⟩
  ·show Ac (Bu s (out,(f:Int),(i:Int))) _=_;rw[e];rfl
  ·rw[List.take_of_length_le (by omega)]at hp;rw[Oh _ hp]
 |c::r,i,f,n+1,out,h,hn,hf,hi,ho,hp=>by
  have hc:(toL s)[i]? =some c:=by
   have:((toL s).drop i)[0]? =some c:=by rw[h]; rfl
   simpa using this
  have hz:(toL s).length=s.size:=AA s;have hlt:i<s.size:=by
   have:=(List.getElem?_eq_some_iff.1 hc).1;omega
  have hr:(toL s).drop (i+1)=r:=by rw[←List.drop_drop,h]; rfl
  have hw:w64 ((i:Int)+1)=((i+1:Nat):Int):=by rw[CW (by omega) (by omega)]; omega
  have hi2:idx s.data.toList (i:Int)=some c:=AZ hc;by_cases h46:c=46
  ·have e46:((c.toNat:Int)==46)=true:=by rw[h46]; rfl
   have ep:KP s (f:Int) (i:Int)=some (s.extract f i):=by
    rw[CY (by omega) (by omega) (by omega)]; rfl
   have e:Bu s (out,(f:Int),(i:Int))=some (.inl (out++[s.extract f i],((i+1:Nat):Int),((i+1:Nat):Int))):=by
    unfold Bu;show(if decide ((i:Int)<(s.size:Int))=true then _ else _)=_;rw[decide_eq_true (show(i:Int)<(s.size:Int)from by omega),if_pos rfl];show Ac (Ac (idx s.data.toList (i:Int)) _) _=_;rw[hi2,Ab,e46,if_pos rfl];show Ac (Ac (KP s (f:Int) (i:Int)) _) _=_;rw[ep,Ab];show Ac (Ac (app 16 out [s.extract f i]) _) _=_;rw[Kw 16 (by show(out.length+1)*16≤_; omega) (by show out.length+1≤_; omega),Ab,Ab,hw]
   obtain⟨o,g,q1,q2,q3,q4⟩:=Ru hs r (i+1) (i+1) n (out++[s.extract f i]) hr (by rw[List.length_cons]at hn; omega) (Nat.le_refl _) (by omega) (by rw[List.length_append]; show out.length+1≤_; omega) (by
    rw[List.drop_eq_nil_of_le (by rw[List.length_take]; omega)]; simp)
   refine⟨o,g,?_,q2,q3,?_⟩
   ·show Ac (Bu s (out,(f:Int),(i:Int))) _=_;rw[e];exact q1
   ·rw[q4,Z6 (toL s) hf,h,h46,LL _ _ hp,hr,List.map_append,List.append_assoc];show _++([toL (s.extract f i)]++_)=_;rw[show toL (s.extract f i)=((toL s).take i).drop f from Ho s f i];rfl
  ·have e46:((c.toNat:Int)==46)=false:=by
    rw[beq_eq_false_iff_ne];intro q;exact h46 (UInt8.toNat_inj.1 (by show c.toNat=46; omega))
   have e:Bu s (out,(f:Int),(i:Int))=some (.inl (out,(f:Int),((i+1:Nat):Int))):=by
    unfold Bu;show(if decide ((i:Int)<(s.size:Int))=true then _ else _)=_;rw[decide_eq_true (show(i:Int)<(s.size:Int)from by omega),if_pos rfl];show Ac (Ac (idx s.data.toList (i:Int)) _) _=_;rw[hi2,Ab,e46,if_neg (by decide),Ab,hw]
   obtain⟨o,g,q1,q2,q3,q4⟩:=Ru hs r (i+1) f n out hr (by rw[List.length_cons]at hn; omega) (by omega) (by omega) (by omega) (by
    rw[WG hc hf];intro q;rcases List.mem_append.1 q with q|q
    ·exact hp q
    ·exact h46 (List.mem_singleton.1 q).symm)
   refine⟨o,g,?_,q2,q3,q4⟩;show Ac (Bu s (out,(f:Int),(i:Int))) _=_;rw[e];exact q1
theorem Vm {s:ByteArray}(hs:s.size≤100000): ∃l,Ha s=some l∧l.map toL=BZ (toL s):=by
 have hz:(toL s).length=s.size:=AA s;obtain⟨o,g,h1,h2,h3,h4⟩:=Ru hs (toL s) 0 0 AR [] rfl (by have:=BA; omega) (Nat.le_refl _) (Nat.zero_le _) (Nat.zero_le _) (by simp);have h1:iter (Bu s) AR ([],0,0)=some (o,(g:Int)):=h1;unfold Ha;rw[h1,Ab,Ab,CY (by omega) (by show(g:Int)≤_; omega) (by omega),Ab,Kw 16 (by show(o.length+1)*16≤_; omega) (by show o.length+1≤_; omega),Ab];refine⟨_,rfl,?_⟩;rw[List.map_append];show o.map toL++[toL (s.extract g s.size)]=_;rw[show toL (s.extract g s.size)=(toL s).drop g from by rw[show toL (s.extract g s.size)=((toL s).take s.size).drop g from Ho s g s.size,←hz,List.take_length],h4];rfl
theorem SC: ∀(r p:List ByteArray) (n:Nat),r.length<n→p.length+r.length≤10000→(∀x∈r,x.size≤100000)→iter (BE (p++r)) n (p.length:Int)=some (if r.all (fun x=>Ln (toL x))=true then .inl ()else .inr false)
 |r,p,0,h,_,_=>by omega
 | [],p,n+1,_,_,_=>by
  have e:BE (p++[]) (p.length:Int)=some (.inr (.inl ())):=by
   unfold BE;rw[decide_eq_false (by rw[List.append_nil]; omega)];rfl
  show Ac (BE (p++[]) (p.length:Int)) _=_;rw[e]; rfl
 |x::r,p,n+1,h,hp,hx=>by
  rw[List.length_cons]at h hp;have ih:=SC r (p++[x]) n (by omega) (by rw[List.length_append]; show p.length+1+_≤_; omega) fun y hy=>hx y (List.mem_cons_of_mem _ hy);have ei:idx (p++x::r) (p.length:Int)=some x:=AZ (by simp);have e:BE (p++x::r) (p.length:Int)=some (if Ln (toL x)=true then .inl ((p.length+1:Nat):Int)else .inr (.inr false)):=by
   unfold BE;rw[decide_eq_true (show(p.length:Int)<((p++x::r).length:Int)from by rw[List.length_append,List.length_cons]; omega),if_pos rfl,ei,Ab,Xd x (hx x List.mem_cons_self),Ab];have hw:w64 ((p.length:Int)+1)=((p.length+1:Nat):Int):=by rw[CW (by omega) (by omega)]; omega
   rw[hw];show(if(!Ln (toL x))=true then _ else _)=_;cases Ln (toL x)<;>rfl
  show Ac (BE (p++x::r) (p.length:Int)) _=_;rw[e,List.all_cons];cases Ln (toL x)with
  |false=>rfl
  |true=>
   rw[if_pos rfl,Bool.true_and];show iter (BE (p++x::r)) n ((p.length+1:Nat):Int)=_;rw[←ih];simp
theorem KC: ∀(l x:List UInt8),x∈BZ l→x.length≤l.length
 | [],x,h=>by simp[BZ]at h; rw[h]; simp
 |c::l,x,h=>by
  rw[Oi]at h;by_cases hc:c=46
  ·rw[if_pos hc]at h;rcases List.mem_cons.1 h with q|q
   ·rw[q]; simp
   ·have:=KC l x q; rw[List.length_cons]; omega
  ·rw[if_neg hc]at h;cases hs:BZ l with
   |nil=>exact absurd hs (LK l)
   |cons a t=>
    rw[hs]at h;rcases List.mem_cons.1 h with q|q
    ·have:=KC l a (by rw[hs]; exact List.mem_cons_self);rw[q,List.length_cons,List.length_cons]; omega
    ·have:=KC l x (by rw[hs]; exact List.mem_cons_of_mem _ q);rw[List.length_cons]; omega
theorem Kx {s:ByteArray}(hs:s.size≤100000):CE s=some (isB (toL s) 8 64):=by
 have hz:(toL s).length=s.size:=AA s;unfold CE isB;by_cases h1:s.size≤64
 ·rw[decide_eq_false (show¬(s.size:Int)>64 from by omega),if_neg (by decide),decide_eq_true (show(toL s).length≤64 from by omega)];obtain⟨l,e,hl⟩:=Vm hs;have hsz: ∀x∈l,x.size≤100000:=fun x hx=>by
   have h2:=KC (toL s) (toL x) (by rw[←hl]; exact List.mem_map_of_mem hx);have h3:(toL x).length=x.size:=AA x;omega
  have hlen:l.length=(BZ (toL s)).length:=by rw[←hl,List.length_map]
  have hcnt:=K7 (toL s);have hc2:(toL s).count 46≤(toL s).length:=List.count_le_length;have hloop:=SC l [] AR (by have:=BA; omega) (by simp only[List.length_nil]; omega) hsz;have hloop:iter (BE l) AR 0=some (if l.all (fun x=>Ln (toL x))=true then .inl ()else .inr false):=hloop;rw[e,Ab,hloop];have ha:l.all (fun x=>Ln (toL x))=Pn (toL s):=by
   unfold Pn;rw[←hl,List.all_map];rfl
  rw[ha];have hd:decide ((l.length:Int)≤8)=decide ((BZ (toL s)).length≤8):=by rw[decide_eq_decide,hlen]; omega
  cases Pn (toL s)with
  |false=>rw[Bool.and_false]; rfl
  |true=>
   show some (decide ((l.length:Int)≤8))=_;rw[hd,Bool.and_true,Bool.true_and]
 ·rw[decide_eq_true (show(s.size:Int)>64 from by omega),if_pos rfl,decide_eq_false (show¬(toL s).length≤64 from by omega)];rfl
end Go.Proofs.YtbajlmaijjcbmaaGreatDoor
end
section
namespace Go.Proofs.YtbajlmaijjcbmaaGreatDoor
open Go Go.Gw Go.Ax
def Mv:List UInt8→Bool
 |a::b::r=>a==42&&b==46&&isB r 7 62
 |_=>false
theorem Acb (n k:Nat):isB [] n k=false:=by
 unfold isB Pn;simp[BZ,Ln]
theorem pat_eq (s:ByteArray):B7 s=some (if(isB (toL s) 8 64||Mv (toL s))=true then 0 else 110):=by
 have hz:(toL s).length=s.size:=AA s;unfold B7 Cj;have e1:CO s=some (isB (toL s) 8 64):=by
  unfold CO;rw[show Bc s 8 64=some (isB (toL s) 8 64)from Ov s 8 64 (by decide)];rfl
 rw[e1,Ab];cases h1:isB (toL s) 8 64 with
 |true=>rfl
 |false=>
  rw[if_neg (by decide),Bool.false_or];unfold By AK AJ;have e2:(((⟨#[42,46]⟩:ByteArray).size:Nat):Int)=2:=rfl;rw[e2];match hl:toL s with
  | []=>
   rw[hl,List.length_nil]at hz;rw[decide_eq_false (show¬(s.size:Int)≥2 from by omega)];rfl
  | [a]=>
   rw[hl,List.length_cons,List.length_nil]at hz;rw[decide_eq_false (show¬(s.size:Int)≥2 from by omega)];rfl
  |a::b::r=>
   rw[hl,List.length_cons,List.length_cons]at hz;have ec:KP s 0 2=some (s.extract 0 2):=CY (by omega) (by omega) (by omega);have el:(s.extract 0 2).data.toList=[a,b]:=by
    rw[Ho];show((toL s).take 2).drop 0=_;rw[hl]; rfl
   have ee:eqS (s.extract 0 2) (⟨#[42,46]⟩:ByteArray)=(a==42&&b==46):=by
    unfold eqS;rw[el,Bool.eq_iff_iff];simp
   rw[decide_eq_true (show(s.size:Int)≥2 from by omega),KY,ec,Ab,BY,ee,Ab];show _=some (if(a==42&&b==46&&isB r 7 62)=true then 0 else 110);cases a==42&&b==46 with
   |false=>rfl
   |true=>
    have ec2:KP s 2 (s.size:Int)=some (s.extract 2 s.size):=by
     rw[CY (by omega) (by omega) (by omega)]; rfl
    have el2:(s.extract 2 s.size).data.toList=r:=by
     rw[Ho];show((toL s).take s.size).drop 2=_;rw[List.take_of_length_le (by rw[hl,List.length_cons,List.length_cons]; omega),hl]; rfl
    rw[show(true&&true)=true from rfl,if_neg (by decide),ec2,Ab,Ab,Ab];have en:=Ov (s.extract 2 s.size) 7 62 (by decide);rw[el2]at en;have en:Bc (s.extract 2 s.size) 7 62=some (isB r 7 62):=en;show Ac (Ac (gu true (Bc (s.extract 2 s.size) 7 62)) _) _=_;rw[KY,en,Ab,Ab];show Ac (D6 (true&&isB r 7 62)) _=_;cases isB r 7 62<;>rfl
theorem AbZ (s:ByteArray):patV s=if(isB (toL s) 8 64||Mv (toL s))=true then 0 else 110:=by
 have e:=TY s;rw[pat_eq s]at e;exact(Option.some.inj e).symm
theorem YX {s:ByteArray}(hs:s.size≤100000): ∃t,D5 s=some (t,Mv (toL s)):=by
 have hz:(toL s).length=s.size:=AA s;unfold D5;by_cases h1:s.size<3∨s.size>64
 ·have eb:(decide ((s.size:Int)<3)||decide ((s.size:Int)>64))=true:=by
   rw[Bool.or_eq_true,decide_eq_true_eq,decide_eq_true_eq]; omega
  rw[eb];have e:Mv (toL s)=false:=by
   match hl:toL s with
   | []=>rfl
   | [a]=>rfl
   | [a,b]=>show(a==42&&b==46&&isB [] 7 62)=false; rw[Acb,Bool.and_false]
   |a::b::c::r=>
    rw[hl]at hz;simp only[List.length_cons]at hz;show(a==42&&b==46&&isB (c::r) 7 62)=false;unfold isB;rw[decide_eq_false (show¬(c::r).length≤62 from by rw[List.length_cons]; omega),Bool.false_and,Bool.false_and,Bool.and_false]
  rw[e];exact⟨(⟨#[]⟩:ByteArray),rfl⟩
 ·have eb:(decide ((s.size:Int)<3)||decide ((s.size:Int)>64))=false:=by
   rw[Bool.or_eq_false_iff,decide_eq_false_iff_not,decide_eq_false_iff_not]; omega
  rw[eb];match hl:toL s with
  | []=>rw[hl,List.length_nil]at hz; omega
  | [a]=>rw[hl,List.length_cons,List.length_nil]at hz; omega
  |a::b::r=>
   rw[hl,List.length_cons,List.length_cons]at hz;have ha:idx s.data.toList 0=some a:=by rw[show s.data.toList=a::b::r from hl]; rfl
   have hb:idx s.data.toList 1=some b:=by rw[show s.data.toList=a::b::r from hl]; rfl
   have ec2:KP s 2 (s.size:Int)=some (s.extract 2 s.size):=by
    rw[CY (by omega) (by omega) (by omega)]; rfl
   have el2:toL (s.extract 2 s.size)=r:=by
    rw[show toL (s.extract 2 s.size)=((toL s).take s.size).drop 2 from Ho s 2 s.size,List.take_of_length_le (by rw[hl,List.length_cons,List.length_cons]; omega),hl]; rfl
   have hz2:(s.extract 2 s.size).size=r.length:=by rw[←AA,←el2]; rfl
   have en:=Kx (s:=s.extract 2 s.size) (by omega);rw[el2]at en;obtain⟨l,e5,h5⟩:=Vm (s:=s.extract 2 s.size) (by omega);rw[el2]at h5;have hlen:l.length=(BZ r).length:=by rw[←h5,List.length_map]
   have e42:((a.toNat:Int) !=42)= !(a==42):=by
    show(!((a.toNat:Int)==42))=_;have:((a.toNat:Int)==42)=(a==42):=by
     rw[Bool.eq_iff_iff,beq_iff_eq,beq_iff_eq,←UInt8.toNat_inj];show _↔a.toNat=42;omega
    rw[this]
   have e46:((b.toNat:Int) !=46)= !(b==46):=by
    show(!((b.toNat:Int)==46))=_;have:((b.toNat:Int)==46)=(b==46):=by
     rw[Bool.eq_iff_iff,beq_iff_eq,beq_iff_eq,←UInt8.toNat_inj];show _↔b.toNat=46;omega
    rw[this]
   rw[ha,hb,ec2];rw[show gu (!false) (some a)=some a from rfl,Ab,e42];have hst:Mv (a::b::r)=(a==42&&b==46&&isB r 7 62):=rfl;rw[hst];cases a==42 with
   |false=>exact⟨_,rfl⟩
   |true=>
    rw[show gu (!(false|| !true)) (some b)=some b from rfl,Ab,e46];cases b==46 with
    |false=>exact⟨_,rfl⟩
    |true=>
     rw[show gu (!((false|| !true)|| !true)) (some (s.extract 2 s.size))=some (s.extract 2 s.size)from rfl,Ab,en,show gu (!((false|| !true)|| !true)) (some (isB r 8 64))=some (isB r 8 64)from rfl,Ab];have hr:r.length≤62:=by omega
     unfold isB;rw[decide_eq_true (show r.length≤64 from by omega),decide_eq_true (show r.length≤62 from hr),Bool.true_and,Bool.true_and,Bool.true_and];cases hal:Pn r with
     |false=>rw[Bool.and_false,Bool.and_false]; exact⟨_,rfl⟩
     |true=>
      rw[Bool.and_true,Bool.and_true];by_cases h8:(BZ r).length≤8
      ·rw[decide_eq_true h8,if_neg (by decide),Ab,e5,Ab];by_cases h7:(BZ r).length≤7
       ·rw[decide_eq_false (show¬(l.length:Int)>7 from by omega),if_neg (by decide),Ab,decide_eq_true h7];exact⟨_,rfl⟩
       ·rw[decide_eq_true (show(l.length:Int)>7 from by omega),if_pos rfl,decide_eq_false h7];exact⟨_,rfl⟩
      ·rw[decide_eq_false h8,if_pos (by decide),decide_eq_false (show¬(BZ r).length≤7 from by omega)];exact⟨_,rfl⟩
theorem Tj {s:ByteArray}(hs:s.size≤100000):EX s=some (patV s):=by
 obtain⟨t,e⟩:=YX hs;unfold EX;rw[e,Ab,Kx hs,AbZ];cases Mv (toL s)with
 |true=>rw[Bool.or_true]; rfl
 |false=>
  rw[Bool.or_false];show Ac (gu true (some (isB (toL s) 8 64))) _=_;rw[KY,Ab];cases isB (toL s) 8 64<;>rfl
theorem VB {s:ByteArray}(hs:s.size≤100000):CE s=some (nameV s==0):=by
 rw[Kx hs,U3];show _=some ((if isB (toL s) 8 64=true then(0:Int)else 110)==0);cases isB (toL s) 8 64<;>rfl
end Go.Proofs.YtbajlmaijjcbmaaGreatDoor
end
section
namespace Go.Proofs.YtbajlmaijjcbmaaGreatDoor
open Go Go.Gw Go.Ax
theorem CH {α:Type}{l:List α}{i:Nat}{c:α}{r:List α}(h:l.drop i=c::r):l[i]? =some c∧l.drop (i+1)=r∧i<l.length:=by
 have h1:l[i]? =some c:=by
  have:(l.drop i)[0]? =some c:=by rw[h]; rfl
  simpa using this
 exact⟨h1,by rw[←List.drop_drop,h]; rfl,(List.getElem?_eq_some_iff.1 h1).1⟩
theorem CC {i:Nat}(h:i≤1000000):w64 ((i:Int)+1)=((i+1:Nat):Int):=by rw[CW (by omega) (by omega)]; omega
def Jc (c:UInt8):Bool:=decide (33≤c.toNat)&&decide (c.toNat≤126)
def Abr (l:List UInt8):Bool:=decide (1≤l.length)&&decide (l.length≤64)&&l.all Jc
theorem U1 {s:ByteArray}(hs:s.size≤100000): ∀(r:List UInt8) (i n:Nat),(toL s).drop i=r→r.length<n→∃(z:Nat),iter (Ao s true) n i=some (if r.all Jc=true then .inl z else .inr (z:Int))
 |r,i,0,_,h=>by omega
 | [],i,n+1,h,_=>by
  have hl:(toL s).length≤i:=List.drop_eq_nil_iff.1 h;have hz:(toL s).length=s.size:=AA s;have e:Ao s true i=some (.inr (.inl i)):=by
   unfold Ao;rw[if_neg (by omega)]
  refine⟨i,?_⟩;show Ac (Ao s true i) _=_;rw[e]; rfl
 |c::r,i,n+1,h,hn=>by
  obtain⟨hc,hr,hlt⟩:=CH h;have hz:(toL s).length=s.size:=AA s;obtain⟨z,ih⟩:=U1 hs r (i+1) n hr (by rw[List.length_cons]at hn; omega);have e:Ao s true i=some (if Jc c=true then .inl (i+1)else .inr (.inr (i:Int))):=by
   unfold Ao GI;rw[if_pos (show i<s.size from by omega),BY,BY,Ab];unfold Jc;by_cases hb:c.toNat<128
   ·rw[Aa0 hc hb];have ec:(decide (((c.toNat:Nat):Int)≤32)||decide (((c.toNat:Nat):Int)>126))= !(decide (33≤c.toNat)&&decide (c.toNat≤126)):=by
     rw[Bool.eq_iff_iff];simp only[Bool.or_eq_true,Bool.not_eq_true',Bool.and_eq_false_iff,decide_eq_true_eq,decide_eq_false_iff_not];omega
    rw[ec];cases decide (33≤c.toNat)&&decide (c.toNat≤126)<;>rfl
   ·have hd:=Aa1 hc hb;generalize Utf8.decode s i=q at hd;rw[decide_eq_true (show((q.1:Nat):Int)>126 from by omega),Bool.or_true,decide_eq_false (show¬c.toNat≤126 from by omega),Bool.and_false];rfl
  rw[List.all_cons];cases hp:Jc c with
  |false=>
   refine⟨i,?_⟩;show Ac (Ao s true i) _=_;rw[e,hp]; rfl
  |true=>
   refine⟨z,?_⟩;show Ac (Ao s true i) _=_;rw[e,hp,if_pos rfl,Bool.true_and];exact ih
theorem Zg (s:ByteArray):textV s=Abr (toL s):=by
 have e:=TG s;have hz:(toL s).length=s.size:=AA s;unfold Dd at e;have e0:(!eqS s (⟨#[]⟩:ByteArray))=decide (1≤(toL s).length):=by
  show(!((toL s)== []))=_;cases toL s with
  |nil=>rfl
  |cons a l=>rw[decide_eq_true (by rw[List.length_cons]; omega)]; rfl
 have e1:decide ((s.size:Int)≤64)=decide ((toL s).length≤64):=by rw[decide_eq_decide]; omega
 rw[e0,e1]at e;unfold Abr;by_cases h:(toL s).length≤64
 ·obtain⟨z,hl⟩:=U1 (s:=s) (by omega) (toL s) 0 AR rfl (by have:=BA; omega);have ec:Bj s=some (!((toL s).all Jc)):=by
   unfold Bj Cc BL;rw[hl];cases (toL s).all Jc with
   |true=>rfl
   |false=>
    show some (decide ((z:Int)≥0))=_;rw[decide_eq_true (by omega)]; rfl
  rw[ec]at e;cases hd:decide (1≤(toL s).length)&&decide ((toL s).length≤64)with
  |false=>rw[hd]at e; exact(Option.some.inj e).symm
  |true=>
   rw[hd,KY,Ab,BY,Bool.not_not]at e;exact(Option.some.inj e).symm
 ·rw[decide_eq_false h,Bool.and_false]at e⊢;exact(Option.some.inj e).symm
theorem Oe {s:ByteArray}(hs:s.size≤100000): ∀(r:List UInt8) (i n:Nat),(toL s).drop i=r→r.length<n→iter (BP s) n (i:Int)=some (if r.all Jc=true then .inl ()else .inr false)
 |r,i,0,_,h=>by omega
 | [],i,n+1,h,_=>by
  have hl:(toL s).length≤i:=List.drop_eq_nil_iff.1 h;have hz:(toL s).length=s.size:=AA s;have e:BP s (i:Int)=some (.inr (.inl ())):=by
   unfold BP;rw[decide_eq_false (by omega)];rfl
  show Ac (BP s (i:Int)) _=_;rw[e]; rfl
 |c::r,i,n+1,h,hn=>by
  obtain⟨hc,hr,hlt⟩:=CH h;have hz:(toL s).length=s.size:=AA s;have ih:=Oe hs r (i+1) n hr (by rw[List.length_cons]at hn; omega);have e:BP s (i:Int)=some (if Jc c=true then .inl ((i+1:Nat):Int)else .inr (.inr false)):=by
   unfold BP;rw[decide_eq_true (by omega),if_pos rfl,show idx s.data.toList (i:Int)=some c from AZ hc,Ab,CC (by omega)];unfold Jc;have e33:decide ((c.toNat:Int)<33)= !decide (33≤c.toNat):=by rw[←decide_not,decide_eq_decide]; omega
   have e126:decide ((c.toNat:Int)>126)= !decide (c.toNat≤126):=by rw[←decide_not,decide_eq_decide]; omega
   rw[e33];cases decide (33≤c.toNat)with
   |false=>rfl
   |true=>
    rw[show gu (!(!true)) (some c)=some c from rfl,Ab,e126];cases decide (c.toNat≤126)<;>rfl
  show Ac (BP s (i:Int)) _=_;rw[e,List.all_cons];cases Jc c with
  |false=>rfl
  |true=>rw[if_pos rfl,Bool.true_and]; exact ih
theorem Sm {s:ByteArray}(hs:s.size≤100000):F5 s=some (textV s):=by
 have hz:(toL s).length=s.size:=AA s;have hl:=Oe hs (toL s) 0 AR rfl (by have:=BA; omega);have hl:iter (BP s) AR 0=some (if(toL s).all Jc=true then .inl ()else .inr false):=hl;rw[Zg];unfold F5 Abr;rw[hl];have e1:decide ((s.size:Int)≥1)=decide (1≤(toL s).length):=by rw[decide_eq_decide]; omega
 have e2:decide ((s.size:Int)≤64)=decide ((toL s).length≤64):=by rw[decide_eq_decide]; omega
 cases (toL s).all Jc with
 |true=>
  show some (decide ((s.size:Int)≥1)&&decide ((s.size:Int)≤64))=_;rw[e1,e2,Bool.and_true]
 |false=>rw[Bool.and_false]; rfl
def XK:List ByteArray→List ByteArray→Bool
 |_,[]=>true
 |met,s::l=> !(met.any (eqS s))&&XK (met++[s]) l
theorem OG (right:ByteArray→Int): ∀(l met:List ByteArray),Lg right met l=(l.all (fun s=>right s==0)&&XK met l)
 | [],_=>rfl
 |s::l,met=>by
  show(!(met.any (eqS s))&&right s==0&&Lg right (met++[s]) l)=((right s==0&&l.all (fun s=>right s==0))&&(!(met.any (eqS s))&&XK (met++[s]) l));rw[OG right l];cases met.any (eqS s)<;>cases right s==0<;>cases l.all (fun s=>right s==0)<;>rfl
theorem Z5 (a b:ByteArray):eqS a b=eqS b a:=by
 rw[Bool.eq_iff_iff,IV,IV];exact eq_comm
theorem Aan {l:List ByteArray}{i:Nat}{x:ByteArray}(hx:l[i]? =some x)(hi:i≤100000): ∀(r:List ByteArray) (k n:Nat),(l.take i).drop k=r→k≤i→r.length<n→iter (Bm l (i:Int)) n (k:Int)=some (if r.any (eqS x)=true then .inr false else .inl ())
 |r,k,0,_,_,h=>by omega
 | [],k,n+1,h,hk,_=>by
  have hl:i<l.length:=(List.getElem?_eq_some_iff.1 hx).1;have h2:=List.drop_eq_nil_iff.1 h;rw[List.length_take]at h2;have e:Bm l (i:Int) (k:Int)=some (.inr (.inl ())):=by
   unfold Bm;rw[decide_eq_false (by omega)];rfl
  show Ac (Bm l (i:Int) (k:Int)) _=_;rw[e]; rfl
 |c::r,k,n+1,h,hk,hn=>by
  have hl:i<l.length:=(List.getElem?_eq_some_iff.1 hx).1;obtain⟨hc,hr,hlt⟩:=CH h;rw[List.length_take]at hlt;have hc':l[k]? =some c:=by
   rw[List.getElem?_take]at hc;rw[if_pos (by omega)]at hc;exact hc
  have ih:=Aan hx hi r (k+1) n hr (by omega) (by rw[List.length_cons]at hn; omega);have e:Bm l (i:Int) (k:Int)=some (if eqS x c=true then .inr (.inr false)else .inl ((k+1:Nat):Int)):=by
   unfold Bm;rw[decide_eq_true (by omega),if_pos rfl,AZ hc',Ab,AZ hx,Ab,CC (by omega),Z5 c x];cases eqS x c<;>rfl
  show Ac (Bm l (i:Int) (k:Int)) _=_;rw[e,List.any_cons];cases eqS x c with
  |true=>rfl
  |false=>rw[if_neg (by decide),Bool.false_or]; exact ih
theorem Wz {l:List ByteArray}(hz:l.length≤100000): ∀(r:List ByteArray) (i n:Nat),l.drop i=r→r.length<n→iter (Bn l) n (i:Int)=some (if XK (l.take i) r=true then .inl ()else .inr false)
 |r,i,0,_,h=>by omega
 | [],i,n+1,h,_=>by
  have hl:l.length≤i:=List.drop_eq_nil_iff.1 h;have e:Bn l (i:Int)=some (.inr (.inl ())):=by
   unfold Bn;rw[decide_eq_false (by omega)];rfl
  show Ac (Bn l (i:Int)) _=_;rw[e]; rfl
 |c::r,i,n+1,h,hn=>by
  obtain⟨hc,hr,hlt⟩:=CH h;have ih:=Wz hz r (i+1) n hr (by rw[List.length_cons]at hn; omega);have hin:=Aan hc (by omega) (l.take i) 0 AR rfl (by omega) (by have:=BA; rw[List.length_take]; omega);have hin:iter (Bm l (i:Int)) AR 0=some (if(l.take i).any (eqS c)=true then .inr false else .inl ()):=hin;have e:Bn l (i:Int)=some (if(l.take i).any (eqS c)=true then .inr (.inr false)else .inl ((i+1:Nat):Int)):=by
   unfold Bn;rw[decide_eq_true (by omega),if_pos rfl,hin,Ab,CC (by omega)];cases (l.take i).any (eqS c)<;>rfl
  have ht:l.take (i+1)=l.take i++[c]:=by rw[List.take_add_one,hc]; rfl
  show Ac (Bn l (i:Int)) _=_;rw[e];show _=some (if(!((l.take i).any (eqS c))&&XK (l.take i++[c]) r)=true then _ else _);cases (l.take i).any (eqS c)with
  |true=>rfl
  |false=>
   rw[if_neg (by decide),←ht];exact ih
theorem Px {l:List ByteArray}(hz:l.length≤100000):Ex l=some (XK [] l):=by
 have h:=Wz hz l 0 AR rfl (by have:=BA; omega);have h:iter (Bn l) AR 0=some (if XK [] l=true then .inl ()else .inr false):=h;unfold Ex;rw[h];cases XK [] l<;>rfl
structure FewP (c:g_api_Cert):Prop where
 issuer:c.Issuer.size≤100000
 subject:c.Subject.size≤100000
 names: ∀s∈c.Names,s.size≤100000
 nnames:c.Names.length≤100000
 permit: ∀s∈c.Permit,s.size≤100000
 npermit:c.Permit.length≤100000
 nproms:c.Proms.length≤100000
theorem OF {l:List ByteArray}: ∀(r:List ByteArray) (i n:Nat),l.drop i=r→i≤20→20-i<n→∀t,iter (BG l) n (i:Int)=some t→t= .inl ()→∀s∈r.take (20-i),s.size≤200
 |r,i,0,_,_,h,_,_,_=>by omega
 | [],i,n+1,h,_,_,t,_,_=>by intro s hs; simp at hs
 |c::r,i,n+1,h,hi,hn,t,ht,ht2=>by
  obtain⟨hc,hr,hlt⟩:=CH h;by_cases h20:i=20
  ·intro s hs; rw[h20]at hs; simp at hs
  have e:BG l (i:Int)=some (if decide ((c.size:Int)>200)=true then .inr (.inr false)else .inl ((i+1:Nat):Int)):=by
   unfold BG;rw[decide_eq_true (show(i:Int)<(l.length:Int)from by omega),decide_eq_true (show(i:Int)<20 from by omega),show(true&&true)=true from rfl,if_pos rfl,AZ hc,Ab,CC (by omega)];cases decide ((c.size:Int)>200)<;>rfl
  obtain⟨y,hy,hq⟩:=Am ht;rw[e]at hy;have hy:=Option.some.inj hy;cases hd:decide ((c.size:Int)>200)with
  |true=>
   rw[hd,if_pos rfl]at hy;subst hy;rcases hq with ⟨s',e',_⟩|e'
   ·cases e'
   ·rw[ht2]at e'; cases e'
  |false=>
   rw[hd,if_neg (by decide)]at hy;subst hy;rcases hq with ⟨s',e',ht'⟩|e'
   ·have e':=Sum.inl.inj e';subst e';have ih:=OF r (i+1) n hr (by omega) (by omega) t ht' ht2;intro s hs;rw[show 20-i=(20-(i+1))+1 from by omega,List.take_succ_cons]at hs;rcases List.mem_cons.1 hs with q|q
    ·rw[q];have:=of_decide_eq_false hd;omega
    ·exact ih s q
   ·cases e'
theorem SD {l:List ByteArray}(h:C2 l=some true):l.length≤16∧∀s∈l,s.size≤200:=by
 unfold C2 at h;obtain⟨t,ht,h⟩:=Aa h;cases t with
 |inr b=>
  have hb:b=true:=Option.some.inj h;subst hb;exfalso;have key: ∀(n:Nat) (i:Int) (t:Unit⊕Bool),iter (BG l) n i=some t→t≠ .inr true:=by
   intro n;induction n with
   |zero=>intro i t h; cases h
   |succ n ih=>
    intro i t h;obtain⟨y,hy,hq⟩:=Am h;unfold BG at hy;split at hy
    ·obtain⟨x,hx,hy⟩:=Aa hy;split at hy
     ·cases hy;rcases hq with ⟨s',e',_⟩|e'
      ·cases e'
      ·cases e';intro q;cases q
     ·cases hy;rcases hq with ⟨s',e',h'⟩|e'
      ·exact ih _ t h'
      ·cases e'
    ·cases hy;rcases hq with ⟨s',e',_⟩|e'
     ·cases e'
     ·cases e';intro q;cases q
  exact key AR 0 _ ht rfl
 |inl u=>
  have hl:=of_decide_eq_true (Option.some.inj (AO h));have h20:=OF l 0 AR rfl (by decide) (by have:=BA; omega) _ ht rfl;refine⟨by omega,fun s hs=>h20 s ?_⟩;rw[List.take_of_length_le (by omega)];exact hs
theorem few_ok {c:g_api_Cert}(h:FQ c=some true):FewP c:=by
 unfold FQ at h;obtain⟨x1,h1,h⟩:=Aa h;obtain⟨x2,h2,h⟩:=Aa h;have h:=Option.some.inj (AO h);simp only[Bool.and_eq_true,decide_eq_true_eq]at h;obtain⟨⟨⟨⟨q1,q2⟩,q3⟩,q4⟩,q5⟩:=h;subst q3 q4;rw[decide_eq_true q1,decide_eq_true q2]at h1 h2;obtain⟨a1,a2⟩:=SD h1;obtain⟨b1,b2⟩:=SD h2;exact⟨by omega,by omega,fun s hs=>Nat.le_trans (a2 s hs) (by decide),by omega,fun s hs=>Nat.le_trans (b2 s hs) (by decide),by omega,by omega⟩
end Go.Proofs.YtbajlmaijjcbmaaGreatDoor
end
section
namespace Go.Proofs.YtbajlmaijjcbmaaGreatDoor
open Go Go.Gw Go.Ax
def Pe (a:UInt8)(rest:Int):Bool:=(rest==0&&decide (a.toNat<128))||(rest== -1&&decide (128≤a.toNat))
theorem ZS (a:UInt8)(l:List UInt8)(rest:Int)(hl:l.length≤100):DL (a::l,rest)=some (if Pe a rest=true then .inr (a::l)else .inl (toB rest::a::l,rest/256)):=by
 unfold DL Pe;show Ac (gu (rest==0) (idx (a::l) 0)) _=_;rw[show idx (a::l) 0=some a from rfl];have e1:decide ((a.toNat:Int)<128)=decide (a.toNat<128):=by rw[decide_eq_decide]; omega
 have e2:decide ((a.toNat:Int)≥128)=decide (128≤a.toNat):=by rw[decide_eq_decide]; omega
 have ea:app 1 ([toB rest]:List UInt8) (a::l)=some (toB rest::a::l):=by
  rw[IQ 1 (by simp only[List.length_cons,List.length_nil]; omega) (by simp only[List.length_cons,List.length_nil]; omega)]; rfl
 cases h0:rest==0 with
 |true=>
  have hr:rest=0:=by simpa using h0
  have h1:(rest== -1)=false:=by rw[hr]; rfl
  rw[KY,Ab,h1];show Ac (gu ((!(true&&decide ((a.toNat:Int)<128)))&&false) (some a)) _=_;rw[Bool.and_false,SM,Ab,e1];cases decide (a.toNat<128)with
  |true=>rfl
  |false=>
   show Ac (app 1 ([toB rest]:List UInt8) (a::l)) _=_;rw[ea,Ab,QP];rfl
 |false=>
  rw[SM,Ab];show Ac (gu ((!(false&&_))&&(rest== -1)) (some a)) _=_;cases h1:rest== -1 with
  |true=>
   show Ac (some a) _=_;rw[Ab,e2];cases decide (128≤a.toNat)with
   |true=>rfl
   |false=>
    show Ac (app 1 ([toB rest]:List UInt8) (a::l)) _=_;rw[ea,Ab,QP];rfl
  |false=>
   show Ac (some default) _=_;rw[Ab];show Ac (app 1 ([toB rest]:List UInt8) (a::l)) _=_;rw[ea,Ab,QP];rfl
theorem WM {a:UInt8}{l:List UInt8}{rest:Int}(h:Pe a rest=true):Y3 (a::l)=Sd rest (a::l):=by
 show Sd (s8 a) l=Sd (rest*256+(a.toNat:Int)) l;congr 1;have ha:=a.toNat_lt;unfold Pe at h;simp only[Bool.or_eq_true,Bool.and_eq_true,beq_iff_eq,decide_eq_true_eq]at h;unfold s8;rcases h with ⟨h1,h2⟩|⟨h1,h2⟩
 ·rw[if_pos h2,h1]; omega
 ·rw[if_neg (by omega),h1]; omega
theorem VS {a c:UInt8}{l:List UInt8}{rest:Int}(hl:l.length≤6)(h:Pe a rest=true)(hp:Pe c (rest*256+(a.toNat:Int))=false):HE (a::c::l)=true:=by
 cases hq:HE (a::c::l)with
 |true=>rfl
 |false=>
  have hs:=(SG hl).1 hq;have ha:=a.toNat_lt;exfalso;unfold Pe at h hp;simp only[Bool.or_eq_true,Bool.and_eq_true,beq_iff_eq,decide_eq_true_eq]at h;simp only[Bool.or_eq_false_iff,Bool.and_eq_false_iff,beq_eq_false_iff_ne,decide_eq_false_iff_not]at hp;by_cases hc:c.toNat<128
  ·rw[if_pos hc]at hs;omega
  ·rw[if_neg hc]at hs;omega
theorem Vd: ∀(k:Nat) (a:UInt8) (l:List UInt8) (rest n:Int) (f:Nat),(a::l).length+k=8→k<f→ -(128*256^k)≤rest*256+(a.toNat:Int)→rest*256+(a.toNat:Int)<128*256^k→
  Sd rest (a::l)=n→(∀c r,l=c::r→Pe c (rest*256+(a.toNat:Int))=false)→iter DL f (a::l,rest)=some (Si (be8 n))
 |k,a,l,rest,n,0,_,h,_,_,_,_=>by omega
 |k,a,l,rest,n,f+1,hk,hf,h0,h1,hv,hp=>by
  have hlen:l.length+1+k=8:=by simpa using hk
  show Ac (DL (a::l,rest)) _=_;rw[ZS a l rest (by omega)];cases hs:Pe a rest with
  |true=>
   have hl:HE (a::l)=true:=by
    cases l with
    |nil=>rfl
    |cons c r=>exact VS (by rw[List.length_cons]at hlen; omega) hs (hp c r rfl)
   have:=ZN hl;rw[WM hs,hv]at this;rw[this];rfl
  |false=>
   rw[if_neg (by decide)];cases k with
   |zero=>
    exfalso;have ha:=a.toNat_lt;rw[Int.pow_zero]at h0 h1;unfold Pe at hs;simp only[Bool.or_eq_false_iff,Bool.and_eq_false_iff,beq_eq_false_iff_ne,decide_eq_false_iff_not]at hs;omega
   |succ k=>
    have hb:=Mu rest;have hq:rest/256*256+((toB rest).toNat:Int)=rest:=by omega
    have ha:=a.toNat_lt;rw[Int.pow_succ]at h0 h1;refine Vd k (toB rest) (a::l) (rest/256) n f (by simp only[List.length_cons]; omega) (by omega) ?_ ?_ ?_ ?_
    ·rw[hq]; omega
    ·rw[hq]; omega
    ·show Sd (rest/256*256+((toB rest).toNat:Int)) (a::l)=n;rw[hq]; exact hv
    ·intro c r e;cases e;rw[hq]; exact hs
theorem JI {n:Int}(h0: -9223372036854775808≤n)(h1:n≤9223372036854775807):Ch n=some (O3 n):=by
 have hb:=Mu n;have hq:n/256*256+((toB n).toNat:Int)=n:=by omega
 have e:=Vd 7 (toB n) [] (n/256) n AR (by simp) (by have:=BA; omega) (by rw[hq]; show-(128*72057594037927936)≤n; omega) (by rw[hq]; show n<128*72057594037927936; omega) (by show n/256*256+((toB n).toNat:Int)=n; exact hq) (fun c r e=>by cases e);unfold Ch;rw[QP,e];rfl
theorem RD (x:UInt64):Ch (w64 (x.toNat:Int))=some (MK x):=by
 have:=Aam (x.toNat:Int);have h2: -9223372036854775808≤w64 (x.toNat:Int):=by unfold w64; omega
 exact JI h2 (by omega)
theorem Nx {l:List g_api_Item}(h:l.length≤1000000):E0 l=some (PD l):=by
 unfold E0;rw[Ll 56 (by omega) (by omega)]; rfl
theorem Abz {l:List g_api_Item}(h:l.length≤1000000):Gv l=some (PD l):=by
 unfold Gv;rw[Ll 56 (by omega) (by omega)]; rfl
theorem Og {s:ByteArray}(h:s.size≤1000000):EZ s=some (H7 s):=by
 unfold EZ;rw[Ll 1 (by rw[AA]; omega) (by rw[AA]; omega)]; rfl
theorem YO (v:Bool):II v=some (RC v):=by cases v<;>rfl
theorem MY {l:List ByteArray}(hz: ∀s∈l,s.size≤100000)(hn:l.length≤100000): ∀(r:List ByteArray) (i f:Nat) (o:List g_api_Item),l.drop i=r→r.length<f→o.length≤i→iter (Bg l) f ((i:Int),o)=some (o++r.map H7)
 |r,i,0,o,_,h,_=>by omega
 | [],i,f+1,o,h,_,_=>by
  have hl:l.length≤i:=List.drop_eq_nil_iff.1 h;have e:Bg l ((i:Int),o)=some (.inr o):=by
   unfold Bg;show(if decide ((i:Int)<(l.length:Int))=true then _ else _)=_;rw[decide_eq_false (by omega)];rfl
  show Ac (Bg l ((i:Int),o)) _=_;rw[e];simp
 |s::r,i,f+1,o,h,hf,ho=>by
  obtain⟨hc,hr,hlt⟩:=CH h;have e:Bg l ((i:Int),o)=some (.inl (((i+1:Nat):Int),o++[H7 s])):=by
   unfold Bg;show(if decide ((i:Int)<(l.length:Int))=true then _ else _)=_;rw[decide_eq_true (by omega),if_pos rfl];show Ac (idx l (i:Int)) _=_;rw[AZ hc,Ab,Og (by have:=hz s (List.mem_of_getElem? hc); omega),Ab];show Ac (app 56 o [H7 s]) _=_;rw[IQ 56 (by show(o.length+1)*56≤_; omega) (by show o.length+1≤_; omega),Ab,CC (by omega)]
  show Ac (Bg l ((i:Int),o)) _=_;rw[e];show iter (Bg l) f (((i+1:Nat):Int),o++[H7 s])=_;rw[MY hz hn r (i+1) f (o++[H7 s]) hr (by rw[List.length_cons]at hf; omega) (by rw[List.length_append]; show o.length+1≤_; omega)];simp
theorem PB {l:List ByteArray}(hz: ∀s∈l,s.size≤100000)(hn:l.length≤100000):Fj l=some (KX l):=by
 have h:=MY hz hn l 0 AR [] rfl (by have:=BA; omega) (by simp);have h:iter (Bg l) AR (0,[])=some (l.map H7):=h;unfold Fj;rw[h];rfl
structure Fits (c:g_api_Cert):Prop where
 few:FewP c
 serial: -9223372036854775808≤c.Serial∧c.Serial≤9223372036854775807
 frm: -9223372036854775808≤c.From∧c.From≤9223372036854775807
 til: -9223372036854775808≤c.Until∧c.Until≤9223372036854775807
 depth: -9223372036854775808≤c.Depth∧c.Depth≤9223372036854775807
 proms: ∀p∈c.Proms,(-9223372036854775808≤p.Log∧p.Log≤9223372036854775807)∧(-9223372036854775808≤p.At∧p.At≤9223372036854775807)
theorem Zx {c:g_api_Cert}(h:Fits c):Ie c=some (Zw c):=by
 have k:=h.few;have k1:=k.issuer; have k2:=k.subject; have k3:=k.nnames; have k4:=k.npermit;unfold Ie;rw[JI h.serial.1 h.serial.2,Ab,Og (s:=c.Issuer) (by omega),Ab,Og (s:=c.Subject) (by omega),Ab,RD,Ab,PB (l:=c.Names) (fun s hs=>by have:=k.names s hs; omega) (by omega),Ab,JI h.frm.1 h.frm.2,Ab,
  JI h.til.1 h.til.2,Ab,YO,Ab,JI h.depth.1 h.depth.2,Ab,PB (l:=c.Permit) (fun s hs=>by have:=k.permit s hs; omega) (by omega),Ab,Nx (by simp),Ab]
 rfl
theorem WA (a b:UInt64):FO a b=some [MK a,MK b]:=by
 unfold FO;rw[RD,Ab,RD,Ab]
theorem OY {c:g_api_Cert}(h:Fits c): ∀(r:List g_api_Promise) (i f:Nat) (o:List g_api_Item),c.Proms.drop i=r→r.length<f→o.length≤i→iter (BC c) f ((i:Int),o)=some (o++r.map Ke)
 |r,i,0,o,_,h,_=>by omega
 | [],i,f+1,o,h,_,_=>by
  have hl:c.Proms.length≤i:=List.drop_eq_nil_iff.1 h;have e:BC c ((i:Int),o)=some (.inr o):=by
   unfold BC;show(if decide ((i:Int)<(c.Proms.length:Int))=true then _ else _)=_;rw[decide_eq_false (by omega)];rfl
  show Ac (BC c ((i:Int),o)) _=_;rw[e];simp
 |p::r,i,f+1,o,hd,hf,ho=>by
  obtain⟨hc,hr,hlt⟩:=CH hd;have hp:=h.proms p (List.mem_of_getElem? hc);have hn:=h.few.nproms;have e:BC c ((i:Int),o)=some (.inl (((i+1:Nat):Int),o++[Ke p])):=by
   unfold BC;show(if decide ((i:Int)<(c.Proms.length:Int))=true then _ else _)=_;rw[decide_eq_true (by omega),if_pos rfl];show Ac (idx c.Proms (i:Int)) _=_;rw[AZ hc,Ab,JI hp.1.1 hp.1.2,Ab,JI hp.2.1 hp.2.2,Ab,Abz (by simp),Ab,WA,Ab];show Ac (app 56 [O3 p.Log,O3 p.At] [MK p.Leaf.1,MK p.Leaf.2]) _=_;rw[IQ 56 (by simp) (by simp),Ab,WA,Ab,IQ 56 (by simp) (by simp),Ab];show Ac (app 56 o [Ke p]) _=_;rw[IQ 56 (by show(o.length+1)*56≤_; omega) (by show o.length+1≤_; omega),Ab,CC (by omega)]
  show Ac (BC c ((i:Int),o)) _=_;rw[e];show iter (BC c) f (((i+1:Nat):Int),o++[Ke p])=_;rw[OY h r (i+1) f (o++[Ke p]) hr (by rw[List.length_cons]at hf; omega) (by rw[List.length_append]; show o.length+1≤_; omega)];simp
theorem Te {c:g_api_Cert}(h:Fits c):F4 c=some (Lk c):=by
 have hn:=h.few.nproms;have hl:=OY h c.Proms 0 AR [] rfl (by have:=BA; omega) (by simp);have hl:iter (BC c) AR (0,[])=some (c.Proms.map Ke):=hl;unfold F4;rw[hl,Ab,Ab,Zx h,Ab,Nx (by simp),Ab];rfl
theorem VE {c:g_api_Cert}(h:Fits c):Gp c=some (wholeI c):=by
 unfold Gp;rw[Te h,Ab,WA,Ab,Nx (by simp),Ab,Nx (by simp),Ab];rfl
end Go.Proofs.YtbajlmaijjcbmaaGreatDoor
end
section
namespace Go.Proofs.YtbajlmaijjcbmaaGreatDoor
open Go Go.Gw Go.Ax
theorem LV (n:Int):EV n=some (numB n):=rfl
theorem U9 (a b:UInt64)(n:Nat):decide ((Oz a b).toNat<n)=(decide (a.toNat<n)&&decide (b.toNat<n)):=by
 rw[Bool.eq_iff_iff,Bool.and_eq_true,decide_eq_true_eq,decide_eq_true_eq,decide_eq_true_eq];unfold Oz;by_cases hc:b>a
 ·rw[if_pos hc];have:=UInt64.lt_iff_toNat_lt.1 hc;omega
 ·rw[if_neg hc];have: ¬a.toNat<b.toNat:=fun x=>hc (UInt64.lt_iff_toNat_lt.2 x);omega
theorem Ra (x:UInt64)(n:Nat):decide ((x.toNat:Int)<(n:Int))=decide (x.toNat<n):=by rw[decide_eq_decide]; omega
theorem UJ (s:g_api_Sig):Ey s=some (sigB s):=by
 have e1:decide ((s.E.toNat:Int)<1152921504606845789)=decide (s.E.toNat<1152921504606845789):=Ra s.E 1152921504606845789;have e2:decide ((s.S.toNat:Int)<1152921504606845789)=decide (s.S.toNat<1152921504606845789):=Ra s.S 1152921504606845789;unfold Ey sigB;rw[BY,U9,e1,e2]
theorem Xy (p:g_api_Promise):EW p=some (promBC p):=by
 have e1:decide ((p.Leaf.1.toNat:Int)<2305843009213693951)=decide (p.Leaf.1.toNat<2305843009213693951):=Ra p.Leaf.1 2305843009213693951;have e2:decide ((p.Leaf.2.toNat:Int)<2305843009213693951)=decide (p.Leaf.2.toNat<2305843009213693951):=Ra p.Leaf.2 2305843009213693951;unfold EW promBC;rw[LV,Ab,LV,RK,Ab,UJ,RK,Ab,BY,U9,e1,e2];cases numB p.Log<;>cases numB p.At<;>cases decide (p.Leaf.1.toNat<2305843009213693951)<;>cases decide (p.Leaf.2.toNat<2305843009213693951)<;>cases sigB p.Sig<;>rfl
theorem M9 {c:g_api_Cert}(hz: ∀s∈c.Names,s.size≤100000)(hn:c.Names.length≤100000): ∀(r:List ByteArray) (i f:Nat),c.Names.drop i=r→r.length<f→iter (BN c) f (i:Int)=some (if r.all (fun s=>nameV s==0)=true then .inl ()else .inr false)
 |r,i,0,_,h=>by omega
 | [],i,f+1,h,_=>by
  have hl:c.Names.length≤i:=List.drop_eq_nil_iff.1 h;have e:BN c (i:Int)=some (.inr (.inl ())):=by
   unfold BN;rw[decide_eq_false (by omega)];rfl
  show Ac (BN c (i:Int)) _=_;rw[e]; rfl
 |s::r,i,f+1,h,hf=>by
  obtain⟨hc,hr,hlt⟩:=CH h;have ih:=M9 hz hn r (i+1) f hr (by rw[List.length_cons]at hf; omega);have e:BN c (i:Int)=some (if(nameV s==0)=true then .inl ((i+1:Nat):Int)else .inr (.inr false)):=by
   unfold BN;rw[decide_eq_true (by omega),if_pos rfl,AZ hc,Ab,VB (hz s (List.mem_of_getElem? hc)),Ab,CC (by omega)];cases nameV s==0<;>rfl
  show Ac (BN c (i:Int)) _=_;rw[e,List.all_cons];cases nameV s==0 with
  |false=>rfl
  |true=>rw[if_pos rfl,Bool.true_and]; exact ih
theorem LR {c:g_api_Cert}(hz: ∀s∈c.Permit,s.size≤100000)(hn:c.Permit.length≤100000): ∀(r:List ByteArray) (i f:Nat),c.Permit.drop i=r→r.length<f→iter (BM c) f (i:Int)=some (if r.all (fun s=>patV s==0)=true then .inl ()else .inr false)
 |r,i,0,_,h=>by omega
 | [],i,f+1,h,_=>by
  have hl:c.Permit.length≤i:=List.drop_eq_nil_iff.1 h;have e:BM c (i:Int)=some (.inr (.inl ())):=by
   unfold BM;rw[decide_eq_false (by omega)];rfl
  show Ac (BM c (i:Int)) _=_;rw[e]; rfl
 |s::r,i,f+1,h,hf=>by
  obtain⟨hc,hr,hlt⟩:=CH h;have ih:=LR hz hn r (i+1) f hr (by rw[List.length_cons]at hf; omega);have e:BM c (i:Int)=some (if(patV s==0)=true then .inl ((i+1:Nat):Int)else .inr (.inr false)):=by
   unfold BM;rw[decide_eq_true (by omega),if_pos rfl,AZ hc,Ab,Tj (hz s (List.mem_of_getElem? hc)),Ab,CC (by omega)];show(if(!(patV s==0))=true then _ else _)=_;cases patV s==0<;>rfl
  show Ac (BM c (i:Int)) _=_;rw[e,List.all_cons];cases patV s==0 with
  |false=>rfl
  |true=>rw[if_pos rfl,Bool.true_and]; exact ih
def ZP (c:g_api_Cert):Bool:=if c.Ca=true then textV c.Subject&&((c.Names.length:Int)==0)&&decide (c.Depth≥0)&&decide (c.Depth≤4)&&listV patV c.Permit 0 8 else eqS c.Subject (⟨#[]⟩:ByteArray)&&listV nameV c.Names 1 8&&(c.Depth==0)&&((c.Permit.length:Int)==0)
theorem X9 {c:g_api_Cert}(h:FewP c):Hr c=some (ZP c):=by
 have h1:=h.nnames; have h2:=h.npermit; have h3:=h.subject;unfold Hr ZP;cases c.Ca with
 |false=>
  have hl:=M9 (c:=c) (fun s hs=>by have:=h.names s hs; omega) (by omega) c.Names 0 AR rfl (by have:=BA; omega);have hl:iter (BN c) AR 0=some (if c.Names.all (fun s=>nameV s==0)=true then .inl ()else .inr false):=hl;show(if(!false)=true then _ else _)=some (eqS c.Subject (⟨#[]⟩:ByteArray)&&(Lg nameV [] c.Names&&decide ((c.Names.length:Int)≥1)&&decide ((c.Names.length:Int)≤8))&&(c.Depth==0)&&((c.Permit.length:Int)==0));rw[if_pos (show(!false)=true from rfl),hl,Px (by omega),OG];cases c.Names.all (fun s=>nameV s==0)with
  |false=>
   show some false=_;rw[Bool.false_and,Bool.false_and,Bool.false_and,Bool.and_false,Bool.false_and,Bool.false_and]
  |true=>
   rw[if_pos (show true=true from rfl),Ab];show Ac (gu _ (some (XK [] c.Names))) _=_;rw[RK,Ab,BY,Bool.true_and];cases eqS c.Subject (⟨#[]⟩:ByteArray)<;>cases decide ((c.Names.length:Int)≥1)<;>cases decide ((c.Names.length:Int)≤8)<;>cases XK [] c.Names<;>rfl
 |true=>
  have hl:=LR (c:=c) (fun s hs=>by have:=h.permit s hs; omega) (by omega) c.Permit 0 AR rfl (by have:=BA; omega);have hl:iter (BM c) AR 0=some (if c.Permit.all (fun s=>patV s==0)=true then .inl ()else .inr false):=hl;show(if(!true)=true then _ else _)=some (textV c.Subject&&((c.Names.length:Int)==0)&&decide (c.Depth≥0)&&decide (c.Depth≤4)&&(Lg patV [] c.Permit&&decide ((c.Permit.length:Int)≥0)&&decide ((c.Permit.length:Int)≤8)));rw[if_neg (show¬(!true)=true from by decide),hl,Px (by omega),Sm (by omega),OG,decide_eq_true (show(c.Permit.length:Int)≥0 from by omega)];cases c.Permit.all (fun s=>patV s==0)with
  |false=>
   show some false=_;rw[Bool.false_and,Bool.false_and,Bool.false_and,Bool.and_false]
  |true=>
   rw[if_pos (show true=true from rfl),Ab];show Ac (some (textV c.Subject)) _=_;rw[Ab,RK,Ab,BY,Bool.true_and];cases textV c.Subject<;>cases ((c.Names.length:Int)==0)<;>cases decide (c.Depth≥0)<;>cases decide (c.Depth≤4)<;>cases decide ((c.Permit.length:Int)≤8)<;>cases XK [] c.Permit<;>rfl
theorem Xx {p:g_api_Promise}(h:promBC p=true):0≤p.Log:=by
 unfold promBC at h;simp only[Bool.and_eq_true]at h;have:=h.1.1.1;unfold numB at this;simp only[Bool.and_eq_true,decide_eq_true_eq]at this;omega
theorem M8 {c:g_api_Cert}(hn:c.Proms.length≤100000): ∀(r:List g_api_Promise) (i f:Nat) (last:Int),c.Proms.drop i=r→r.length<f→(i=0→last= -1)→(1≤i→∃q,c.Proms[i-1]? =some q∧q.Log=last)→
  iter (BO c) f (i:Int)=some (if promsB last r=true then .inl ()else .inr false)
 |r,i,0,last,_,h,_,_=>by omega
 | [],i,f+1,last,h,_,_,_=>by
  have hl:c.Proms.length≤i:=List.drop_eq_nil_iff.1 h;have e:BO c (i:Int)=some (.inr (.inl ())):=by
   unfold BO;rw[decide_eq_false (by omega)];rfl
  show Ac (BO c (i:Int)) _=_;rw[e]; rfl
 |p::r,i,f+1,last,h,hf,l0,l1=>by
  obtain⟨hc,hr,hlt⟩:=CH h;have ih:=M8 hn r (i+1) f p.Log hr (by rw[List.length_cons]at hf; omega) (by omega) (fun _=>⟨p,hc,rfl⟩);have e:BO c (i:Int)=some (if(promBC p&& !(decide (p.Log≤last)))=true then .inl ((i+1:Nat):Int)else .inr (.inr false)):=by
   unfold BO;rw[decide_eq_true (show(i:Int)<(c.Proms.length:Int)from by omega),if_pos rfl,AZ hc,Ab,Xy,Ab,CC (by omega)];cases hp:promBC p with
   |false=>rfl
   |true=>
    by_cases h0:i=0
    ·have hl:=l0 h0;have hpl:=(Xx hp);rw[decide_eq_false (show¬(i:Int)>0 from by omega),decide_eq_false (show¬p.Log≤last from by omega)];rfl
    ·obtain⟨q,hq,hql⟩:=l1 (by omega);have hw:w64 ((i:Int)-1)=((i-1:Nat):Int):=by rw[CW (by omega) (by omega)]; omega
     rw[decide_eq_true (show(i:Int)>0 from by omega),hw,AZ hq];show Ac (some q) (fun x10=>Ac (some p) fun x11=>if((!true)||(true&&decide (x10.Log≥x11.Log)))=true then some (.inr (.inr false):Int⊕(Unit⊕Bool))else some (.inl ((i+1:Nat):Int)))=_;rw[Ab,Ab,hql];have:decide (last≥p.Log)=decide (p.Log≤last):=rfl;rw[this];cases decide (p.Log≤last)<;>rfl
  show Ac (BO c (i:Int)) _=_;rw[e];show _=some (if(promBC p&& !(decide (p.Log≤last))&&promsB p.Log r)=true then _ else _);cases promBC p&& !(decide (p.Log≤last))with
  |false=>rfl
  |true=>rw[if_pos rfl,Bool.true_and]; exact ih
theorem Yp {c:g_api_Cert}(h:FewP c):Hs c=some (formB c):=by
 have h1:=h.issuer; have h2:=h.nproms;have hl:=M8 (c:=c) (by omega) c.Proms 0 AR (-1) rfl (by have:=BA; omega) (fun _=>rfl) (fun h=>by omega);have hl:iter (BO c) AR 0=some (if promsB (-1) c.Proms=true then .inl ()else .inr false):=hl;have eF:formB c=(promsB (-1) c.Proms&&(numB c.Serial&&numB c.From&&numB c.Until&&decide (c.From<c.Until))&&
  (textV c.Issuer&&(!((c.Key.toNat:Int)==0))&&decide ((c.Key.toNat:Int)<2305843009213691579)&&decide ((c.Proms.length:Int)≤4)&&sigB c.Sig)&&ZP c):=rfl
 have e1:decide (c.From≥c.Until)= !decide (c.From<c.Until):=by rw[←decide_not,decide_eq_decide]; omega
 have e2:decide ((c.Key.toNat:Int)≥2305843009213691579)= !decide ((c.Key.toNat:Int)<2305843009213691579):=by rw[←decide_not,decide_eq_decide]; omega
 have e3:decide ((c.Proms.length:Int)>4)= !decide ((c.Proms.length:Int)≤4):=by rw[←decide_not,decide_eq_decide]; omega
 have e4:decide ((c.Key.toNat:Int)<1)=((c.Key.toNat:Int)==0):=by
  rw[Bool.eq_iff_iff,decide_eq_true_eq,beq_iff_eq]; omega
 rw[eF];unfold Hs;rw[LV,Ab,LV,RK,Ab,LV,RK,Ab,Sm (by omega),RK,Ab,UJ,RK,Ab,hl,X9 h,e1,e2,e3,e4];generalize numB c.Serial=a1;generalize numB c.From=a2;generalize numB c.Until=a3;generalize decide (c.From<c.Until)=a4;generalize textV c.Issuer=b1;generalize ((c.Key.toNat:Int)==0)=b2;generalize decide ((c.Key.toNat:Int)<2305843009213691579)=b3;generalize decide ((c.Proms.length:Int)≤4)=b4;generalize sigB c.Sig=b5;generalize ZP c=k;generalize promsB (-1) c.Proms=p;cases a1<;>cases a2<;>cases a3<;>cases a4<;>try (cases p<;>rfl)
 all_goals cases b1<;>cases b2<;>cases b3<;>cases b4<;>cases b5<;>cases p<;>try rfl
 all_goals cases k<;>rfl
end Go.Proofs.YtbajlmaijjcbmaaGreatDoor
end
section
namespace Go.Proofs.YtbajlmaijjcbmaaGreatDoor
open Go Go.Gw Go.Ax
theorem V5 (l:List UInt8):Gu l=some (HE l):=by
 match l with
 | []=>rfl
 | [a]=>rfl
 |a::b::l=>
  unfold Gu;by_cases h8:(a::b::l).length≤8
  ·have e0:(decide (((a::b::l).length:Int)<1)||decide (((a::b::l).length:Int)>8))=false:=by
    rw[Bool.or_eq_false_iff,decide_eq_false_iff_not,decide_eq_false_iff_not];simp only[List.length_cons]at h8⊢;omega
   have e1:(((a::b::l).length:Int)==1)=false:=by simp only[beq_eq_false_iff_ne,List.length_cons]; omega
   have i0:idx (a::b::l) 0=some a:=rfl;have i1:idx (a::b::l) 1=some b:=rfl;have el:HE (a::b::l)= !((a.toNat:Int)==if b.toNat<128 then 0 else 255):=by
    show(decide (((a::b::l).length:Int)≤8)&& !((a.toNat:Int)==((toB (-((Wg b 7).toNat:Int))).toNat:Int)))=_;rw[So,decide_eq_true (show((a::b::l).length:Int)≤8 from by omega),Bool.true_and]
   rw[e0,if_neg (by decide),e1,i0,i1,el];rw[show gu (!false) (some a)=some a from rfl,Ab];have ha:=a.toNat_lt;cases hz:((a.toNat:Int)==0)with
   |true=>
    have hz':(a.toNat:Int)=0:=by simpa using hz
    have h255:((a.toNat:Int)==255)=false:=by rw[beq_eq_false_iff_ne]; omega
    rw[show gu ((!false)&&true) (some b)=some b from rfl,Ab];by_cases hb:b.toNat<128
    ·rw[decide_eq_true (show(b.toNat:Int)<128 from by omega),if_pos hb,hz];rfl
    ·rw[decide_eq_false (show¬(b.toNat:Int)<128 from by omega),if_neg hb,h255];rw[show gu ((!false)&&(!(true&&false))) (some a)=some a from rfl,Ab,h255];rfl
   |false=>
    rw[show gu ((!false)&&false) (some b)=some default from rfl,Ab];rw[show gu ((!false)&&(!(false&&decide (((default:UInt8).toNat:Int)<128)))) (some a)=some a from rfl,Ab];cases h255:((a.toNat:Int)==255)with
    |true=>
     rw[show gu (((!false)&&(!(false&&decide (((default:UInt8).toNat:Int)<128))))&&true) (some b)=some b from rfl,Ab,BY];by_cases hb:b.toNat<128
     ·rw[decide_eq_false (show¬(b.toNat:Int)≥128 from by omega),if_pos hb,hz];rfl
     ·rw[decide_eq_true (show(b.toNat:Int)≥128 from by omega),if_neg hb,h255];rfl
    |false=>
     rw[show gu (((!false)&&(!(false&&decide (((default:UInt8).toNat:Int)<128))))&&false) (some b)=some default from rfl,Ab,BY];by_cases hb:b.toNat<128
     ·rw[if_pos hb,hz]; rfl
     ·rw[if_neg hb,h255]; rfl
  ·have e0:(decide (((a::b::l).length:Int)<1)||decide (((a::b::l).length:Int)>8))=true:=by
    rw[Bool.or_eq_true,decide_eq_true_eq,decide_eq_true_eq]; omega
   rw[e0,if_pos rfl];show some false=some (decide (((a::b::l).length:Int)≤8)&&_);rw[decide_eq_false (by omega),Bool.false_and]
theorem Of {l:List UInt8}(hn:l.length≤1000000): ∀(r:List UInt8) (i f:Nat),l.drop i=r→r.length<f→iter (BQ l) f (i:Int)=some (if I9 r=true then .inl ()else .inr false)
 |r,i,0,_,h=>by omega
 | [],i,f+1,h,_=>by
  have hl:l.length≤i:=List.drop_eq_nil_iff.1 h;have e:BQ l (i:Int)=some (.inr (.inl ())):=by
   unfold BQ;rw[decide_eq_false (by omega)];rfl
  show Ac (BQ l (i:Int)) _=_;rw[e]; rfl
 |c::r,i,f+1,h,hf=>by
  obtain⟨hc,hr,hlt⟩:=CH h;have ih:=Of hn r (i+1) f hr (by rw[List.length_cons]at hf; omega);have e:BQ l (i:Int)=some (if(decide (32≤c.toNat)&&decide (c.toNat≤126))=true then .inl ((i+1:Nat):Int)else .inr (.inr false)):=by
   unfold BQ;rw[decide_eq_true (by omega),if_pos rfl,AZ hc,Ab,CC (by omega)];have e33:decide ((c.toNat:Int)<32)= !decide (32≤c.toNat):=by rw[←decide_not,decide_eq_decide]; omega
   have e126:decide ((c.toNat:Int)>126)= !decide (c.toNat≤126):=by rw[←decide_not,decide_eq_decide]; omega
   rw[e33];cases decide (32≤c.toNat)with
   |false=>rfl
   |true=>
    rw[show gu (!(!true)) (some c)=some c from rfl,Ab,e126];cases decide (c.toNat≤126)<;>rfl
  show Ac (BQ l (i:Int)) _=_;rw[e];show _=some (if((decide (32≤c.toNat)&&decide (c.toNat≤126))&&I9 r)=true then _ else _);cases decide (32≤c.toNat)&&decide (c.toNat≤126)with
  |false=>rfl
  |true=>rw[if_pos rfl,Bool.true_and]; exact ih
theorem Zh {l:List UInt8}(hn:l.length≤1000000):Hu l=some (I9 l):=by
 have h:=Of hn l 0 AR rfl (by have:=BA; omega);have h:iter (BQ l) AR 0=some (if I9 l=true then .inl ()else .inr false):=h;unfold Hu;rw[h];cases I9 l<;>rfl
def G1:Nat→g_api_Item→Prop
 |0,_=>True
 |d+1,x=>x.B.length≤1000000∧x.L.length≤1000000∧∀y∈x.L,G1 d y
theorem SO (rF:g_api_Item→Option Bool)(p:g_api_Item→Bool){x:g_api_Item}(hn:x.L.length≤1000000)(hp: ∀y∈x.L,rF y=some (p y)): ∀(r:List g_api_Item) (i f:Nat),x.L.drop i=r→r.length<f→
  iter (BR rF x) f (i:Int)=some (if r.all p=true then .inl ()else .inr false)
 |r,i,0,_,h=>by omega
 | [],i,f+1,h,_=>by
  have hl:x.L.length≤i:=List.drop_eq_nil_iff.1 h;have e:BR rF x (i:Int)=some (.inr (.inl ())):=by
   unfold BR;rw[decide_eq_false (by omega)];rfl
  show Ac (BR rF x (i:Int)) _=_;rw[e]; rfl
 |y::r,i,f+1,h,hf=>by
  obtain⟨hc,hr,hlt⟩:=CH h;have ih:=SO rF p hn hp r (i+1) f hr (by rw[List.length_cons]at hf; omega);have e:BR rF x (i:Int)=some (if p y=true then .inl ((i+1:Nat):Int)else .inr (.inr false)):=by
   unfold BR;rw[decide_eq_true (by omega),if_pos rfl,AZ hc,Ab,hp y (List.mem_of_getElem? hc),Ab,CC (by omega)];cases p y<;>rfl
  show Ac (BR rF x (i:Int)) _=_;rw[e,List.all_cons];cases p y with
  |false=>rfl
  |true=>rw[if_pos rfl,Bool.true_and]; exact ih
theorem SP: ∀(d n:Nat) (x:g_api_Item),d≤n→Rq d x→G1 d x→D3 n x=some (mayB d x)
 |0,n,x,_,h,_=>h.elim
 |d+1,0,x,h,_,_=>by omega
 |d+1,n+1,x,hn,hd,hs=>by
  have ih: ∀y∈x.L,D3 n y=some (mayB d y):=fun y hy=>SP d n y (by omega) (hd y hy) (hs.2.2 y hy);have hl:=SO (D3 n) (mayB d) hs.2.1 ih x.L 0 AR rfl (by have:=BA; have:=hs.2.1; omega);have hl:iter (BR (D3 n) x) AR 0=some (if x.L.all (mayB d)=true then .inl ()else .inr false):=hl;show FD (D3 n) x=_;unfold FD mayB;have e2:decide ((x.L.length:Int)>0)= !x.L.isEmpty:=by
   cases x.L with
   |nil=>rfl
   |cons a l=>show decide _=true; rw[decide_eq_true_eq,List.length_cons]; omega
  rw[e2,show(x.Tag !=48)= !(x.Tag==48)from rfl];cases hE:x.L.isEmpty with
  |false=>
   cases h48:x.Tag==48 with
   |false=>
    rw[show((!false)&&(!false))=true from rfl,if_pos rfl,Bool.false_or,Bool.and_false,Bool.false_and]
   |true=>
    have ht:x.Tag=48:=by simpa using h48
    rw[show((!true)&&(!false))=false from rfl,if_neg (by decide),ht,if_neg (by decide),if_neg (by decide),if_neg (by decide),if_neg (by decide),if_pos (by decide),hl];show _=some ((x.B.isEmpty&&(true||false))&&x.L.all (mayB d));have eb:((x.B.length:Int)==0)=x.B.isEmpty:=by
     cases x.B with
     |nil=>rfl
     |cons a l=>show _=false; rw[beq_eq_false_iff_ne,List.length_cons]; omega
    cases x.L.all (mayB d)with
    |false=>rw[Bool.and_false]; rfl
    |true=>
     show some ((x.B.length:Int)==0)=_;rw[eb,Bool.and_true,Bool.true_or,Bool.and_true]
  |true=>
   have hLn:x.L=[]:=List.isEmpty_iff.1 hE;have hall:x.L.all (mayB d)=true:=by rw[hLn]; rfl
   rw[hall]at hl;rw[hall,Bool.or_true,Bool.and_true,Bool.and_true,Bool.not_true,Bool.and_false,if_neg (by decide)];by_cases h1:x.Tag=1
   ·rw[h1,if_pos (by decide)];have:=SH x.B;unfold Em at this;rw[this];rfl
   rw[if_neg (show¬(x.Tag==1)=true from by simp[h1])];by_cases h2:x.Tag=2
   ·rw[h2,if_pos (by decide),V5];rfl
   rw[if_neg (show¬(x.Tag==2)=true from by simp[h2])];by_cases h4:x.Tag=4
   ·rw[h4,if_pos (by decide)];rfl
   rw[if_neg (show¬(x.Tag==4)=true from by simp[h4])];by_cases h12:x.Tag=12
   ·rw[h12,if_pos (by decide),Zh hs.1];rfl
   rw[if_neg (show¬(x.Tag==12)=true from by simp[h12])];by_cases h48:x.Tag=48
   ·rw[h48,if_pos (by decide),hl];have eb:((x.B.length:Int)==0)=x.B.isEmpty:=by
     cases x.B with
     |nil=>rfl
     |cons a l=>show _=false; rw[beq_eq_false_iff_ne,List.length_cons]; omega
    show some ((x.B.length:Int)==0)=some x.B.isEmpty;rw[eb]
   ·rw[if_neg (show¬(x.Tag==48)=true from by simp[h48])];unfold V6;rw[if_neg h1,if_neg h2,if_neg h4,if_neg h12,if_neg h48]
theorem SZ (rF:g_api_Item→Option Int)(d:Nat){x:g_api_Item}(hn:x.L.length≤1000000)(hp: ∀y∈x.L,∃k:Int,rF y=some k∧1≤k∧k≤d): ∀(r:List g_api_Item) (i f:Nat) (m:Int),x.L.drop i=r→r.length<f→0≤m→m≤d→
  ∃k:Int,iter (BT rF x) f (m,(i:Int))=some k∧0≤k∧k≤d
 |r,i,0,m,_,h,_,_=>by omega
 | [],i,f+1,m,h,_,h0,h1=>by
  have hl:x.L.length≤i:=List.drop_eq_nil_iff.1 h;have e:BT rF x (m,(i:Int))=some (.inr m):=by
   unfold BT;show(if decide ((i:Int)<(x.L.length:Int))=true then _ else _)=_;rw[decide_eq_false (by omega)];rfl
  refine⟨m,?_,h0,h1⟩;show Ac (BT rF x (m,(i:Int))) _=_;rw[e]; rfl
 |y::r,i,f+1,m,h,hf,h0,h1=>by
  obtain⟨hc,hr,hlt⟩:=CH h;obtain⟨q,hq,q1,q2⟩:=hp y (List.mem_of_getElem? hc);obtain⟨k,e,k0,k1⟩:=SZ rF d hn hp r (i+1) f (ZJ m q) hr (by rw[List.length_cons]at hf; omega) (by unfold ZJ; split<;>omega) (by unfold ZJ; split<;>omega);refine⟨k,?_,k0,k1⟩;have es:BT rF x (m,(i:Int))=some (.inl (ZJ m q,((i+1:Nat):Int))):=by
   unfold BT;show(if decide ((i:Int)<(x.L.length:Int))=true then _ else _)=_;rw[decide_eq_true (by omega),if_pos rfl];show Ac (idx x.L (i:Int)) _=_;rw[AZ hc,Ab,hq,Ab,CC (by omega)]
  show Ac (BT rF x (m,(i:Int))) _=_;rw[es];exact e
theorem YC: ∀(d n:Nat) (x:g_api_Item),d≤n→d≤1000→Rq d x→G1 d x→∃k:Int,EP n x=some k∧1≤k∧k≤d
 |0,n,x,_,_,h,_=>h.elim
 |d+1,0,x,h,_,_,_=>by omega
 |d+1,n+1,x,hn,hk,hd,hs=>by
  obtain⟨k,e,k0,k1⟩:=SZ (EP n) d hs.2.1 (fun y hy=>YC d n y (by omega) (by omega) (hd y hy) (hs.2.2 y hy)) x.L 0 AR 0 rfl (by have:=BA; have:=hs.2.1; omega) (by omega) (by omega);have e:iter (BT (EP n) x) AR (0,0)=some k:=e;refine⟨k+1,?_,by omega,by omega⟩;show FE (EP n) x=_;unfold FE;rw[e,Ab,Ab,CW (by omega) (by omega)]
theorem Aaj {x:g_api_Item}(hd:Rq 8 x)(hs:G1 8 x):Ii x=some (mayB 8 x):=by
 obtain⟨k,e,k0,k1⟩:=YC 8 AR x (by have:=BA; omega) (by decide) hd hs;have e:Kj x=some k:=e;have ef:Ki x=some (mayB 8 x):=SP 8 AR x (by have:=BA; omega) hd hs;unfold Ii;rw[ef,Ab,e];cases mayB 8 x with
 |false=>rfl
 |true=>
  rw[KY,Ab,decide_eq_true (show k≤8 from by omega)];rfl
theorem Ub {n:Nat}(hn:n≤100000000000000):FC (n:Int)=some (Na n):=by
 unfold FC Na;by_cases h1:n<128
 ·rw[decide_eq_true (show(n:Int)<128 from by omega),if_pos rfl,if_pos h1]
 ·rw[decide_eq_false (show¬(n:Int)<128 from by omega),if_neg (by decide),if_neg h1];by_cases h2:n<256
  ·rw[decide_eq_true (show(n:Int)<256 from by omega),if_pos rfl,if_pos h2]
  ·rw[decide_eq_false (show¬(n:Int)<256 from by omega),if_neg (by decide),if_neg h2,BY];have e:w64 (Int.tdiv (n:Int) 256)=DS (n:Int) 8:=by
    have:Int.tdiv (n:Int) 256=(n:Int)/256:=Int.tdiv_eq_ediv_of_nonneg (by omega);rw[this];unfold DS;rw[Int.fdiv_eq_ediv_of_nonneg _ (by decide)];show w64 ((n:Int)/256)=(n:Int)/256;rw[CW (by omega) (by omega)]
   rw[e]
theorem P1 (rF:g_api_Item→Option (List UInt8))(p:g_api_Item→List UInt8){x:g_api_Item}(hn:x.L.length≤1000000)(hp: ∀y∈x.L,rF y=some (p y)): ∀(r:List g_api_Item) (i f:Nat) (a:List UInt8),x.L.drop i=r→r.length<f→a.length+(r.flatMap p).length≤100000000000000→
  iter (Bh rF x) f (a,(i:Int))=some (a++r.flatMap p)
 |r,i,0,a,_,h,_=>by omega
 | [],i,f+1,a,h,_,_=>by
  have hl:x.L.length≤i:=List.drop_eq_nil_iff.1 h;have e:Bh rF x (a,(i:Int))=some (.inr a):=by
   unfold Bh;show(if decide ((i:Int)<(x.L.length:Int))=true then _ else _)=_;rw[decide_eq_false (by omega)];rfl
  show Ac (Bh rF x (a,(i:Int))) _=_;rw[e];simp
 |y::r,i,f+1,a,h,hf,ha=>by
  obtain⟨hc,hr,hlt⟩:=CH h;rw[List.flatMap_cons,List.length_append]at ha;have es:Bh rF x (a,(i:Int))=some (.inl (a++p y,((i+1:Nat):Int))):=by
   unfold Bh;show(if decide ((i:Int)<(x.L.length:Int))=true then _ else _)=_;rw[decide_eq_true (by omega),if_pos rfl];show Ac (idx x.L (i:Int)) _=_;rw[AZ hc,Ab,hp y (List.mem_of_getElem? hc),Ab];show Ac (app 1 a (p y)) _=_;rw[IQ 1 (by omega) (by omega),Ab,CC (by omega)]
  show Ac (Bh rF x (a,(i:Int))) _=_;rw[es];show iter (Bh rF x) f (a++p y,((i+1:Nat):Int))=_;rw[P1 rF p hn hp r (i+1) f (a++p y) hr (by rw[List.length_cons]at hf; omega) (by rw[List.length_append]; omega),List.flatMap_cons,List.append_assoc]
theorem U6 (p:g_api_Item→List UInt8){y:g_api_Item}: ∀{l:List g_api_Item},y∈l→(p y).length≤(l.flatMap p).length
 |z::l,h=>by
  rw[List.flatMap_cons,List.length_append];rcases List.mem_cons.1 h with e|h
  ·rw[e]; omega
  ·have:=U6 p h; omega
theorem YM: ∀(d n:Nat) (x:g_api_Item),d≤n→Rq d x→G1 d x→(putB d x).length≤10000000000000→Dx n x=some (putB d x)
 |0,n,x,_,h,_,_=>h.elim
 |d+1,0,x,h,_,_,_=>by omega
 |d+1,n+1,x,hn,hd,hs,hl=>by
  have eP:putB (d+1) x=toB x.Tag::(Na (x.B++x.L.flatMap (putB d)).length++(x.B++x.L.flatMap (putB d))):=rfl;rw[eP]at hl⊢;simp only[List.length_cons,List.length_append]at hl;have ih: ∀y∈x.L,Dx n y=some (putB d y):=fun y hy=>YM d n y (by omega) (hd y hy) (hs.2.2 y hy) (by have:=U6 (putB d) hy; omega);have hloop:=P1 (Dx n) (putB d) hs.2.1 ih x.L 0 AR x.B rfl (by have:=BA; have:=hs.2.1; omega) (by omega);have hloop:iter (Bh (Dx n) x) AR (x.B,0)=some (x.B++x.L.flatMap (putB d)):=hloop;show EY (Dx n) x=_;unfold EY;have hb:=Rc (x.B++x.L.flatMap (putB d)).length;rw[Ll 1 (by omega) (by omega),Ab,hloop,Ab,Ab];have hc:(x.B++x.L.flatMap (putB d)).length≤10000000000000:=by rw[List.length_append]; omega
  generalize x.B++x.L.flatMap (putB d)=c at hb hc⊢;rw[Ub (by omega),Ab,IQ 1 (by simp only[List.length_cons,List.length_nil]; omega) (by simp only[List.length_cons,List.length_nil]; omega),Ab,IQ 1 (by simp only[List.length_append,List.length_cons,List.length_nil]; omega) (by simp only[List.length_append,List.length_cons,List.length_nil]; omega),Ab];simp
theorem VA {x:g_api_Item}(hd:Rq 8 x)(hs:G1 8 x)(hl:(putB 8 x).length≤10000000000):Hb x=Hw x:=by
 rw[Ti (by omega)];unfold Hb;rw[Aaj hd hs,Ab];cases hm:mayB 8 x with
 |false=>rfl
 |true=>
  have eb:JD x=some (putB 8 x):=YM 8 AR x (by have:=BA; omega) hd hs (by omega);rw[show(!true)=false from rfl,if_neg (by decide),eb,Ab,if_pos rfl];by_cases h:(putB 8 x).length≤8192
  ·rw[decide_eq_false (show¬((putB 8 x).length:Int)>8192 from by omega),if_pos h];rfl
  ·rw[decide_eq_true (show((putB 8 x).length:Int)>8192 from by omega),if_neg h];rfl
end Go.Proofs.YtbajlmaijjcbmaaGreatDoor
end
section
namespace Go.Proofs.YtbajlmaijjcbmaaGreatDoor
open Go Go.Gw Go.Ax
def fewI:Nat→g_api_Item→Prop
 |0,_=>True
 |d+1,x=>x.L.length≤100000∧∀y∈x.L,fewI d y
def truthV:List UInt8→Bool
 | []=>false
 |a::_=>(a.toNat:Int) !=0
abbrev Its:=List g_api_Item
def ZF {α:Type}(tag:Int)(v:g_api_Item→α):Its→Option (α×Its)
 | []=>none
 |x::r=>if x.Tag=tag∧mayB 8 x=true then some (v x,r)else none
def OU (l:Its):Option (Int×Its):=(ZF 2 (fun x=>asintV x.B) l).bind fun p=>if 0≤p.1 then some p else none
def AcO (l:Its):Option (UInt64×Its):=(OU l).map fun p=>(toU p.1,p.2)
def sub1 (l:Its):Option (Its×Its):=ZF 48 (fun x=>x.L) l
def allT:Its→Option (List ByteArray)
 | []=>some []
 |x::r=>if x.Tag=12∧mayB 8 x=true then(allT r).map fun t=>bs x.B::t else none
def Aap (l:Its):Option (List ByteArray×Its):=(sub1 l).bind fun p=>(allT p.1).map fun t=>(t,p.2)
end Go.Proofs.YtbajlmaijjcbmaaGreatDoor
end
section
namespace Go.Proofs.YtbajlmaijjcbmaaGreatDoor
open Go Go.Gw Go.Ax
theorem AaK: ∀{d:Nat} {x:g_api_Item},mayB d x=true→mayB (d+1) x=true
 |0,x,h=>by cases h
 |d+1,x,h=>by
  simp only[mayB,Bool.and_eq_true,List.all_eq_true]at h;unfold mayB;simp only[Bool.and_eq_true,List.all_eq_true];exact⟨h.1,fun y hy=>AaK (h.2 y hy)⟩
theorem AaL {d e:Nat}{x:g_api_Item}(h:d≤e)(hm:mayB d x=true):mayB e x=true:=by
 induction h with
 |refl=>exact hm
 |step _ ih=>exact AaK ih
theorem XP {d:Nat}{x y:g_api_Item}(h:mayB (d+1) x=true)(hy:y∈x.L):mayB d y=true:=by
 simp only[mayB,Bool.and_eq_true,List.all_eq_true]at h;exact h.2 y hy
def text1:Its→Option (ByteArray×Its):=ZF 12 (fun x=>bs x.B)
def bool1:Its→Option (Bool×Its):=ZF 1 (fun x=>truthV x.B)
def pre1 (l:Its):Option (g_api_Cert×Its):=(OU l).bind fun x1=>(text1 x1.2).bind fun x2=>(text1 x2.2).bind fun x3=>(AcO x3.2).bind fun x4=>(Aap x4.2).bind fun x5=>(OU x5.2).bind fun x6=>(OU x6.2).bind fun x7=>(bool1 x7.2).bind fun x8=>(OU x8.2).bind fun x9=>(Aap x9.2).bind fun x10=>if x10.2=[]then some (⟨x1.1,x2.1,x3.1,x4.1,x5.1,x6.1,x7.1,x8.1,x9.1,x10.1,[],⟨0,0⟩⟩,[])else none
def few1 (l:Its):Prop:= ∀x∈l,x.L.length≤100000
def prom1 (l:Its):Option (g_api_Promise×Its):=(OU l).bind fun x1=>(OU x1.2).bind fun x2=>(AcO x2.2).bind fun x3=>(AcO x3.2).bind fun x4=>(AcO x4.2).bind fun x5=>(AcO x5.2).bind fun x6=>some (⟨x1.1,x2.1,(x3.1,x4.1),⟨x5.1,x6.1⟩⟩,x6.2)
structure Nums (c:g_api_Cert):Prop where
 serial:0≤c.Serial∧c.Serial≤1099511627776
 frm:0≤c.From∧c.From≤1099511627776
 til:0≤c.Until∧c.Until≤1099511627776
 key:c.Key.toNat<2305843009213691579
 depth:0≤c.Depth∧c.Depth≤4
 sig:sigB c.Sig=true
 proms: ∀p∈c.Proms,promBC p=true
theorem LU {n:Int}(h:numB n=true):0≤n∧n≤1099511627776:=by
 unfold numB at h;simp only[Bool.and_eq_true,decide_eq_true_eq]at h;omega
theorem Form.nums {c:g_api_Cert}(h:Form c):Nums c:=by
 refine⟨LU h.serial,LU h.frm,LU h.til,by have:=h.keyQ; omega,?_,h.sig,PF h.proms⟩;cases hc:c.Ca with
 |true=>obtain⟨_,_,a,b,_⟩:=h.ca hc; exact⟨a,b⟩
 |false=>obtain⟨_,_,a,_⟩:=h.leaf hc; omega
theorem U8 {a b:UInt64}{n:Nat}(h:(Oz a b).toNat<n):a.toNat<n∧b.toNat<n:=by
 unfold Oz at h;by_cases hc:b>a
 ·rw[if_pos hc]at h;have:=UInt64.lt_iff_toNat_lt.1 hc;omega
 ·rw[if_neg hc]at h;have: ¬a.toNat<b.toNat:=fun x=>hc (UInt64.lt_iff_toNat_lt.2 x);omega
theorem Zn {s:g_api_Sig}(h:sigB s=true):s.E.toNat<1152921504606845789∧s.S.toNat<1152921504606845789:=by
 unfold sigB at h;exact U8 (of_decide_eq_true h)
theorem Xw {p:g_api_Promise}(h:promBC p=true):(0≤p.Log∧p.Log≤1099511627776)∧(0≤p.At∧p.At≤1099511627776)∧(p.Leaf.1.toNat<2305843009213693951∧p.Leaf.2.toNat<2305843009213693951)∧p.Sig.E.toNat<1152921504606845789∧p.Sig.S.toNat<1152921504606845789:=by
 unfold promBC at h;simp only[Bool.and_eq_true]at h;exact⟨LU h.1.1.1,LU h.1.1.2,U8 (of_decide_eq_true h.1.2),Zn h.2⟩
def bareP (c:g_api_Cert):g_api_Cert:=⟨c.Serial,c.Issuer,c.Subject,c.Key,c.Names,c.From,c.Until,c.Ca,c.Depth,c.Permit,[],⟨0,0⟩⟩
def bareS (c:g_api_Cert):g_api_Cert:=⟨c.Serial,c.Issuer,c.Subject,c.Key,c.Names,c.From,c.Until,c.Ca,c.Depth,c.Permit,c.Proms,⟨0,0⟩⟩
end Go.Proofs.YtbajlmaijjcbmaaGreatDoor
end
section
namespace Go.Proofs.YtbajlmaijjcbmaaGreatDoor
open Go Go.Gw Go.Ax
theorem MB: ∀{d e:Nat} {x:g_api_Item},mayB d x=true→d≤e→putB e x=putB d x
 |0,e,x,h,_=>by cases h
 |d+1,0,x,_,h=>by omega
 |d+1,e+1,x,h,hd=>by
  have hf: ∀(l:List g_api_Item),(∀y∈l,mayB d y=true)→l.flatMap (putB e)=l.flatMap (putB d):=by
   intro l;induction l with
   |nil=>intro _; rfl
   |cons y l ih=>
    intro hl;rw[List.flatMap_cons,List.flatMap_cons,MB (hl y List.mem_cons_self) (by omega),ih fun z hz=>hl z (List.mem_cons_of_mem _ hz)]
  have:=hf x.L fun y hy=>XP h hy;show toB x.Tag::(Na (x.B++x.L.flatMap (putB e)).length++(x.B++x.L.flatMap (putB e)))=toB x.Tag::(Na (x.B++x.L.flatMap (putB d)).length++(x.B++x.L.flatMap (putB d)));rw[this]
theorem in_len {d:Nat}{x y:g_api_Item}(h:mayB (d+1) x=true)(hd:d+1≤8)(hy:y∈x.L):(putB 8 y).length≤(putB 8 x).length:=by
 rw[MB h hd,MB (XP h hy) (by omega)];have h1:=Vh (putB d) hy;show _≤(toB x.Tag::(Na (x.B++x.L.flatMap (putB d)).length++(x.B++x.L.flatMap (putB d)))).length;have e:(x.B++x.L.flatMap (putB d)).length=x.B.length+(x.L.flatMap (putB d)).length:=List.length_append;rw[List.length_cons,List.length_append,e];omega
def szs (d:Nat)(l:List g_api_Item):Nat:=(l.flatMap (putB d)).length
theorem in_seq {d:Nat}{l:List g_api_Item}(h:mayB (d+1) (PD l)=true): ∀y∈l,mayB d y=true:=fun y hy=>XP h hy
structure Okc (c:g_api_Cert):Prop where
 form:Form c
 fb:formB c=true
 may:mayB 8 (wholeI c)=true
 len:(putB 8 (wholeI c)).length≤2048
theorem okc {c:g_api_Cert}(h:checkV c=0):Okc c:=by
 unfold checkV at h;cases hf:formB c with
 |false=>rw[hf]at h; simp at h
 |true=>
  rw[hf,if_pos rfl]at h;by_cases h2:mayB 8 (wholeI c)=true∧(putB 8 (wholeI c)).length≤2048
  ·exact⟨Ui hf,hf,h2.1,h2.2⟩
  ·rw[if_neg h2]at h; cases h
theorem Okc.chk {c:g_api_Cert}(h:Okc c):checkV c=0:=by
 unfold checkV;rw[h.fb,if_pos rfl,if_pos ⟨h.may,h.len⟩]
theorem U7 {c:g_api_Cert}(h:Okc c):mayB 7 (Lk c)=true:=in_seq h.may _ (by simp)
def wholeB (c:g_api_Cert):List UInt8:=putB 8 (wholeI c)
def JS (c:g_api_Cert):List UInt8:=putB 8 (Lk c)
def preBy (c:g_api_Cert):List UInt8:=putB 8 (Zw c)
theorem OX {c:g_api_Cert}(h:Okc c):(JS c).length≤2048:=by
 have h1:=in_len (y:=Lk c) h.may (by decide) (by show Lk c∈[Lk c,_]; simp);have h2:=h.len;show(putB 8 (Lk c)).length≤_;omega
theorem AcS {x:g_api_Item}(h:mayB 8 x=true)(hl:(putB 8 x).length≤8192):Hw x=some (putB 8 x,0):=by
 rw[Ti (by omega),if_pos h,if_pos hl]
theorem Vt {c:g_api_Cert}(h:Okc c):Hj c=some (JS c,0):=by
 unfold Hj FJ;have hl:=OX h;rw[OV,h.chk,Ab,if_neg (by decide),Vu h.form.sized,Ab,AcS (AaL (by decide) (U7 h)) (by show(JS c).length≤_; omega)];rfl
end Go.Proofs.YtbajlmaijjcbmaaGreatDoor
end
section
namespace Go.Proofs.YtbajlmaijjcbmaaGreatDoor
open Go Go.Gw Go.Ax
def readP (x:g_api_Item):Option g_api_Promise:=if x.Tag=48∧mayB 8 x=true then(prom1 x.L).bind fun q=>if q.2=[]then some q.1 else none else none
abbrev BS:=Its×List g_api_Promise
def allP:Its→Option (List g_api_Promise)
 | []=>some []
 |x::r=>(readP x).bind fun p=>(allP r).map fun l=>p::l
def few2D (l:Its):Prop:=few1 l∧∀x∈l,few1 x.L
def few3D (l:Its):Prop:=few1 l∧∀x∈l,few2D x.L
def withP (c:g_api_Cert)(ps:List g_api_Promise):g_api_Cert:=⟨c.Serial,c.Issuer,c.Subject,c.Key,c.Names,c.From,c.Until,c.Ca,c.Depth,c.Permit,ps,c.Sig⟩
def withS (c:g_api_Cert)(s:g_api_Sig):g_api_Cert:=⟨c.Serial,c.Issuer,c.Subject,c.Key,c.Names,c.From,c.Until,c.Ca,c.Depth,c.Permit,c.Proms,s⟩
def body1 (l:Its):Option (g_api_Cert×Its):=(sub1 l).bind fun x1=>(pre1 x1.1).bind fun x2=>(sub1 x1.2).bind fun x3=>(allP x3.1).bind fun ps=>if x3.2=[]then some (withP x2.1 ps,[])else none
def whole1 (l:Its):Option (g_api_Cert×Its):=(sub1 l).bind fun x1=>(body1 x1.1).bind fun x2=>(sub1 x1.2).bind fun x3=>(AcO x3.1).bind fun x4=>(AcO x4.2).bind fun x5=>if x5.2=[]then(if x3.2=[]then some (withS x2.1 ⟨x4.1,x5.1⟩,[])else none)else none
end Go.Proofs.YtbajlmaijjcbmaaGreatDoor
end
section
namespace Go.Proofs.YtbajlmaijjcbmaaGreatDoor
open Go Go.Gw Go.Ax
end Go.Proofs.YtbajlmaijjcbmaaGreatDoor
end
section
namespace Go.Proofs.YtbajlmaijjcbmaaGreatDoor
open Go Go.Gw Go.Ax
theorem PK (l:List ByteArray):Tot (C2 l):=by
 unfold C2;obtain⟨t,e,_⟩:=Mb (step:=BG l) (fun i=>(20-i).toNat) (fun i=>0≤i∧i≤20) (fun _=>True) (fun i hi=>by
  unfold BG;cases h:(decide (i<(l.length:Int))&&decide (i<20))with
  |false=>exact⟨_,rfl,fun s' h=>(by cases h),fun _ _=>trivial⟩
  |true=>
   simp only[Bool.and_eq_true,decide_eq_true_eq]at h;obtain⟨x,hx⟩: ∃x,idx l i=some x:=by
    unfold idx;rw[if_pos hi.1];exact⟨_,List.getElem?_eq_getElem (by omega)⟩
   rw[if_pos rfl,hx];simp only[Ab];split
   ·exact⟨_,rfl,fun s' h=>(by cases h),fun _ _=>trivial⟩
   ·refine⟨_,rfl,fun s' h=> ?_,fun _ h=>(by cases h)⟩;cases h;rw[CW (by omega) (by omega)];omega) AR 0 (by omega) (by have:=BA; show(20-0:Int).toNat<_; omega)
 refine Ct ⟨t,e⟩ fun a _=> ?_;cases a with
 |inl _=>exact tot _
 |inr _=>exact tot _
theorem Acz (c:g_api_Cert):Tot (FQ c):=by
 unfold FQ;exact Ct (LH fun _=>PK _) fun a _=>Ct (LH fun _=>PK _) fun b _=>tot _
end Go.Proofs.YtbajlmaijjcbmaaGreatDoor
end
section
namespace Go.Proofs.YtbajlmaijjcbmaaGreatDoor
open Go Go.Gw Go.Ax
end Go.Proofs.YtbajlmaijjcbmaaGreatDoor
end
section
namespace Go.Proofs.YtbajlmaijjcbmaaGreatDoor
open Go Go.Gw Go.Ax
theorem Yr {c:g_api_Cert}(h:FewP c)(F:Form c):Fits c:=by
 have n:=F.nums;have h1:=n.serial; have h2:=n.frm; have h3:=n.til; have h4:=n.depth;refine⟨h,by omega,by omega,by omega,by omega,fun p hp=> ?_⟩;obtain⟨q1,q2,_⟩:=Xw (n.proms p hp);omega
theorem FK {x:g_api_Item}(h:x.L=[])(d:Nat):Rq (d+1) x:=by
 intro y hy;rw[h]at hy;cases hy
theorem Lj {d:Nat}{l:List g_api_Item}(h: ∀y∈l,Rq d y):Rq (d+1) (PD l):=h
theorem TM {x:g_api_Item}(h:x.L=[])(hb:x.B.length≤1000000)(d:Nat):G1 d x:=by
 cases d with
 |zero=>trivial
 |succ d=>
  refine⟨hb,by rw[h]; simp,fun y hy=> ?_⟩;rw[h]at hy;cases hy
theorem Oj {d:Nat}{l:List g_api_Item}(hl:l.length≤1000000)(h: ∀y∈l,G1 d y):G1 (d+1) (PD l):=⟨by show(0:Nat)≤_; omega,hl,h⟩
theorem MZ (n:Int)(d:Nat):G1 d (O3 n):=TM rfl (by have:=Nw (be8 n); have h8:(be8 n).length=8:=rfl; show(Si (be8 n)).length≤_; omega) d
theorem TL {s:ByteArray}(h:s.size≤1000000)(d:Nat):G1 d (H7 s):=TM rfl (by show s.data.toList.length≤_; rw[AA]; exact h) d
theorem Abu (v:Bool)(d:Nat):G1 d (RC v):=TM rfl (by show(1:Nat)≤_; omega) d
theorem SY (l:List ByteArray)(d:Nat):Rq (d+2) (KX l):=Lj fun y hy=>by
 obtain⟨s,_,e⟩:=List.mem_map.1 hy;rw[←e]; exact FK rfl d
theorem UH {l:List ByteArray}(hl:l.length≤100000)(h: ∀s∈l,s.size≤100000)(d:Nat):G1 (d+1) (KX l):=Oj (by rw[List.length_map]; omega) fun y hy=>by
 obtain⟨s,hs,e⟩:=List.mem_map.1 hy;rw[←e]; exact TL (by have:=h s hs; omega) d
theorem AcC (c:g_api_Cert)(d:Nat):Rq (d+3) (Zw c):=Lj fun y hy=>by
 simp only[List.mem_cons,List.not_mem_nil,or_false]at hy;rcases hy with q|q|q|q|q|q|q|q|q|q<;>rw[q]
 ·exact FK rfl _
 ·exact FK rfl _
 ·exact FK rfl _
 ·exact FK rfl _
 ·exact SY _ _
 ·exact FK rfl _
 ·exact FK rfl _
 ·exact FK rfl _
 ·exact FK rfl _
 ·exact SY _ _
theorem sm_pre {c:g_api_Cert}(h:FewP c)(d:Nat):G1 (d+2) (Zw c):=Oj (by simp) fun y hy=>by
 have h1:=h.issuer; have h2:=h.subject; have h3:=h.nnames; have h4:=h.npermit;simp only[List.mem_cons,List.not_mem_nil,or_false]at hy;rcases hy with q|q|q|q|q|q|q|q|q|q<;>rw[q]
 ·exact MZ _ _
 ·exact TL (by omega) _
 ·exact TL (by omega) _
 ·exact MZ _ _
 ·exact UH (by omega) (fun s hs=>by have:=h.names s hs; omega) _
 ·exact MZ _ _
 ·exact MZ _ _
 ·exact Abu _ _
 ·exact MZ _ _
 ·exact UH (by omega) (fun s hs=>by have:=h.permit s hs; omega) _
theorem Z7 (p:g_api_Promise)(d:Nat):Rq (d+2) (Ke p):=Lj fun y hy=>by
 simp only[List.mem_cons,List.not_mem_nil,or_false]at hy;rcases hy with q|q|q|q|q|q<;>rw[q]<;>exact FK rfl _
theorem Abt (p:g_api_Promise)(d:Nat):G1 (d+1) (Ke p):=Oj (by simp) fun y hy=>by
 simp only[List.mem_cons,List.not_mem_nil,or_false]at hy;rcases hy with q|q|q|q|q|q<;>rw[q]<;>exact MZ _ _
theorem Vk (c:g_api_Cert)(d:Nat):Rq (d+4) (Lk c):=Lj (ZI (AcC c d) (Lj fun y hy=>by
 obtain⟨p,_,e⟩:=List.mem_map.1 hy;rw[←e]; exact Z7 p d))
theorem WO {c:g_api_Cert}(h:FewP c)(d:Nat):G1 (d+3) (Lk c):=Oj (by simp) (ZI (sm_pre h d) (Oj (by rw[List.length_map]; have:=h.nproms; omega) fun y hy=>by
 obtain⟨p,_,e⟩:=List.mem_map.1 hy;rw[←e]; exact Abt p d))
theorem AcB (a b:UInt64)(d:Nat):Rq (d+2) (PD [MK a,MK b]):=Lj (ZI (FK rfl d) (FK rfl d))
theorem sm_sig (a b:UInt64)(d:Nat):G1 (d+1) (PD [MK a,MK b]):=Oj (by simp) (ZI (MZ _ d) (MZ _ d))
theorem Yz (c:g_api_Cert):Rq 8 (wholeI c):=Lj (ZI (Vk c 3) (AcB _ _ 5))
theorem Zm {c:g_api_Cert}(h:FewP c):G1 8 (wholeI c):=Oj (by simp) (ZI (WO h 4) (sm_sig _ _ 6))
theorem KK {c:g_api_Cert}(h:FewP c):Dz c=some (checkV c):=by
 unfold Dz checkV;rw[Yp h,Ab];cases hf:formB c with
 |false=>rfl
 |true=>
  have F:=Ui hf;have hs:=F.sized;have hl:=Pu 8 hs;rw[show(!true)=false from rfl,if_neg (by decide),VE (Yr h F),Ab,VA (Yz c) (Zm h) (by omega),Ti (by omega),YJ,if_pos rfl]
end Go.Proofs.YtbajlmaijjcbmaaGreatDoor
end
section
namespace Go.Proofs.YtbajlmaijjcbmaaGreatDoor
open Go Go.Gw Go.Ax
theorem C0 {α β:Type}(a:α)(k:α→β):bnd a k=k a:=rfl
theorem Dg {σ τ:Type}{step:σ→Option (σ⊕τ)}{s:σ}{t:τ}(n:Nat)(h:iter step n s=some t)(hn:n≤18446744073709551616):iter step AR s=some t:=Yb h hn
theorem Av {σ τ:Type}{step:σ→Option (σ⊕τ)}{n:Nat}{s s':σ}(h:step s=some (.inl s')):iter step (n+1) s=iter step n s':=by simp only[iter,h,Ab]
theorem AL {σ τ:Type}{step:σ→Option (σ⊕τ)}{n:Nat}{s:σ}{t:τ}(h:step s=some (.inr t)):iter step (n+1) s=some t:=by simp only[iter,h,Ab]
theorem Mh {α:Type}(b:Nat){xs ys:List α}(h:(xs.length+ys.length)*b≤140737488355328)(h1:xs.length+ys.length≤140737488355328):app b xs ys=some (xs++ys):=by unfold app; rw[if_pos ⟨h,h1⟩]
theorem Ta {α:Type}{xs:List α}{lo hi:Nat}(h1:lo≤hi)(h2:hi≤xs.length):cut xs (lo:Int) (hi:Int)=some ((xs.drop lo).take (hi-lo)):=by
 unfold cut; rw[if_pos ⟨by omega,by omega,by omega⟩]; simp
def V0 (hi lo:UInt64):UInt64:=
 let n:=(lo&&&2305843009213693951)+((GO hi 3)|||(Dj lo 61))
 let k:=(n&&&2305843009213693951)+Dj n 61
 if 2305843009213693951≤k.toNat then k-2305843009213693951 else k
theorem Yq (a b:UInt64):F6 a b=some (V0 a b):=by
 unfold F6 V0;simp only[C0];generalize (b&&&2305843009213693951)+((GO a 3)|||(Dj b 61))=n;generalize (n&&&2305843009213693951)+Dj n 61=k;by_cases h:2305843009213693951≤k.toNat
 ·rw[if_pos h,if_pos (decide_eq_true (by omega))]; rfl
 ·rw[if_neg h,if_neg (by simp; omega)]; rfl
def O2 (a:UInt64):UInt64:=V0 0 a
theorem AaE (a:UInt64):Ei a=some (O2 a):=by simp only[Ei,Yq,Ab]; rfl
def CI (a b:UInt64):UInt64:=O2 (O2 a+O2 b)
theorem Vz (a b:UInt64):El a b=some (CI a b):=by simp only[El,AaE,Ab]; rfl
def phi (a0 a1:UInt64):UInt64:=
 let x1:=(a0&&&4294967295)*(a1&&&4294967295)
 let x2:=((Dj a0 32)*(a1&&&4294967295))+(Dj x1 32)
 let x3:=(x2&&&4294967295)+((a0&&&4294967295)*(Dj a1 32))
 (((Dj a0 32)*(Dj a1 32))+(Dj x2 32))+(Dj x3 32)
theorem Q7 (a b:UInt64):Fa a b=some (phi a b,a*b):=rfl
def Wi (a b:UInt64):UInt64:=V0 (phi (O2 a) (O2 b)) (O2 a*O2 b)
theorem mul_eq (a b:UInt64):He a b=some (Wi a b):=by simp only[He,AaE,Q7,Yq,Ab]; rfl
def Lb (a:UInt64):UInt64:=
 let b:=Wi a a
 let c:=Wi b b
 let d:=Wi c c
 Wi a (Wi d d)
theorem sev_eq (a:UInt64):Ds a=some (Lb a):=by
 simp only[Ds,Dh,Eg,mul_eq,Ab]; rfl
def Ml (r i:Int):UInt64:=let n:=toU (w64 ((w64 ((w64 (3*r))+i))+1)); n*n*n+7
def Zz (r:Int)(s:UInt64×UInt64×UInt64):UInt64:=CI (CI (CI 0 (Lb (CI s.1 (Ml r 0)))) (Lb (CI s.2.1 (Ml r 1)))) (Lb (CI s.2.2 (Ml r 2)))
def IG (r:Int)(s:UInt64×UInt64×UInt64):UInt64×UInt64×UInt64:=(CI (Lb (CI s.1 (Ml r 0))) (Zz r s),CI (Lb (CI s.2.1 (Ml r 1))) (Zz r s),CI (Lb (CI s.2.2 (Ml r 2))) (Zz r s))
theorem Ua (i:Int)(a:UInt64)(r:Int)(all:UInt64):E3 i a r all=some (Lb (CI a (Ml r i)),r,CI all (Lb (CI a (Ml r i)))):=by
 simp only[E3,C0,Vz,sev_eq,Ab]; rfl
theorem T9 (i:Int)(a:UInt64)(all:UInt64):E2 i a all=some (CI a all,all):=by
 simp only[E2,Vz,Ab]
theorem Yy {σ:Type}{p:σ→Int→UInt64→Option (UInt64×σ)}{a b c a' b' c':UInt64}{s0 s1 s2 s3:σ}(h0:p s0 0 a=some (a',s1))(h1:p s1 1 b=some (b',s2))(h2:p s2 2 c=some (c',s3)):
  Cx (a,b,c) p s0=some ((a',b',c'),s3):=by
 have e0:idx [a,b,c] 0=some a:=rfl;have e1:idx [a',b,c] 1=some b:=rfl;have e2:idx [a',b',c] 2=some c:=rfl;simp[Cx,Dh,DU,C0,h0,e0,h1,e1,h2,e2]
theorem Ab3 (r:Int)(s:UInt64×UInt64×UInt64):GC r s=some (IG r s):=by
 obtain⟨a,b,c⟩:=s;unfold GC;rw[Yy (a':=Lb (CI a (Ml r 0))) (b':=Lb (CI b (Ml r 1))) (c':=Lb (CI c (Ml r 2))) (s1:=(r,CI 0 (Lb (CI a (Ml r 0))))) (s2:=(r,CI (CI 0 (Lb (CI a (Ml r 0)))) (Lb (CI b (Ml r 1)))))
  (s3:=(r,CI (CI (CI 0 (Lb (CI a (Ml r 0)))) (Lb (CI b (Ml r 1)))) (Lb (CI c (Ml r 2))))) (by simp only[Ua,Ab]) (by simp only[Ua,Ab]) (by simp only[Ua,Ab])]
 simp only[Ab];change Ac (Cx _ _ (Zz r (a,b,c))) _=some (CI _ (Zz r (a,b,c)),CI _ (Zz r (a,b,c)),CI _ (Zz r (a,b,c)));generalize Zz r (a,b,c)=all;rw[Yy (s1:=all) (s2:=all) (s3:=all) (a':=CI (Lb (CI a (Ml r 0))) all) (b':=CI (Lb (CI b (Ml r 1))) all) (c':=CI (Lb (CI c (Ml r 2))) all) (by simp only[T9,Ab]) (by simp only[T9,Ab]) (by simp only[T9,Ab])];rfl
def Lc (s:UInt64×UInt64×UInt64):UInt64×UInt64×UInt64:=IG 7 (IG 6 (IG 5 (IG 4 (IG 3 (IG 2 (IG 1 (IG 0 s)))))))
theorem XN (s:UInt64×UInt64×UInt64):Ji s=some (Lc s):=by
 simp only[Ji,Dh,Ab3,Ab];rfl
def ple:List UInt8→Nat→UInt64→UInt64
 | [],_,s=>s
 |b::bs,i,s=>ple bs (i+1) (s|||GO (toU (b.toNat:Int)) (8*i))
theorem b6_eq (b5:List UInt8): ∀(l:List UInt8) (i:Nat) (s:UInt64),b5.drop i=l→i+l.length≤1000000→Dh (Ej b5) l.length (i:Int) s=some (ple l i s):=by
 intro l;induction l with
 |nil=>intro i s _ _; rfl
 |cons b l ih=>
  intro i s h hb;have hx:idx b5 (i:Int)=some b:=Kp (by
   have:(b5.drop i)[0]? =some b:=by rw[h]; rfl
   simpa using this)
  simp only[List.length_cons]at hb;have hw:w64 (8*(i:Int))=((8*i:Nat):Int):=by rw[Cm (by omega) (by omega)]; omega
  have hstep:Ej b5 (i:Int) s=some (s|||GO (toU (b.toNat:Int)) (8*i)):=by
   simp only[Ej,hx,Ab,hw,C0];rw[if_pos (by omega)]; rfl
  show Dh (Ej b5) (l.length+1) _ _=_;simp only[Dh,hstep,Ab,ple];have:=ih (i+1) (s|||GO (toU (b.toNat:Int)) (8*i)) (by rw[←List.drop_drop,h]; rfl) (by omega);simpa using this
def pof (n:Nat)(l:List UInt8):List UInt64:=match n,l with|_,[]=> []|0,_=> []|n+1,l=>ple (l.take 7) 0 0::pof n (l.drop 7)
theorem XA (n:Nat): ∀l,(pof n l).length≤n:=by
 induction n with
 |zero=>intro l; cases l<;>simp[pof]
 |succ n ih=>intro l; cases l with
  |nil=>simp[pof]
  |cons a l=>simp only[pof,List.length_cons]; have:=ih ((a::l).drop 7); omega
theorem Aac (a0:List UInt8)(hb:a0.length≤1000000): ∀(n i:Nat) (out:List UInt64),a0.length≤i+n→i≤1000000+7→out.length+n≤1000000→
  iter (AU (fun(s:(List UInt64)) (b0:List UInt8)=>Ac (Ek b0 s) fun y=>some (true,y)) a0 7) (n+1) ((i:Int),out)=some (.inl (out++pof n (a0.drop i))):=by
 intro n;induction n with
 |zero=>
  intro i out h _ _;have:a0.drop i=[]:=List.drop_eq_nil_of_le (by omega);refine AL ?_;simp only[AU,this];rw[if_neg (by simp; omega)];simp[pof]
 |succ n ih=>
  intro i out h hi ho;by_cases hlt:i<a0.length
  ·obtain⟨b,l,hl⟩: ∃b l,a0.drop i=b::l:=⟨a0[i],a0.drop (i+1),List.drop_eq_getElem_cons hlt⟩;have hc1:cut a0 (i:Int) (a0.length:Int)=some (a0.drop i):=by
    rw[Ta (by omega) (by omega)]; congr 1; rw[List.take_of_length_le (by simp)]
   have hlen:(a0.drop i).length=a0.length-i:=by simp
   have hm:w64 ((i:Int)+NF 7 ((a0.drop i).length:Int))=((i+min 7 (a0.length-i):Nat):Int):=by
    rw[Cm]<;>unfold NF<;>split<;>omega
   have hc2:cut a0 (i:Int) ((i+min 7 (a0.length-i):Nat):Int)=some ((a0.drop i).take 7):=by
    rw[Ta (by omega) (by omega)]; congr 1;rw[Nat.add_sub_cancel_left];by_cases h7:7≤a0.length-i
    ·rw[Nat.min_eq_left h7]
    ·rw[Nat.min_eq_right (by omega),List.take_of_length_le (by simp),List.take_of_length_le (by simp; omega)]
   have hw:w64 ((i:Int)+7)=((i+7:Nat):Int):=by rw[Cm (by omega) (by omega)]; omega
   have hb4:Ek ((a0.drop i).take 7) out=some (out++[ple ((a0.drop i).take 7) 0 0]):=by
    have:=b6_eq ((a0.drop i).take 7) ((a0.drop i).take 7) 0 0 rfl (by simp; omega);simp only[Ek];rw[show((0:Int))=((0:Nat):Int)from rfl,this];simp only[Ab];rw[Mh 8 (by simp; omega) (by simp; omega)];rfl
   rw[Av (s':=(((i+7:Nat):Int),out++[ple ((a0.drop i).take 7) 0 0]))]
   ·rw[ih (i+7) _ (by omega) (by omega) (by simp; omega)];rw[hl];simp only[pof];rw[←hl,List.drop_drop];simp
   ·simp only[AU];rw[if_pos (decide_eq_true (by omega)),hc1];simp only[Ab,hm,hc2,hb4,hw];rfl
  ·have:a0.drop i=[]:=List.drop_eq_nil_of_le (by omega);refine AL ?_;simp only[AU,this];rw[if_neg (by simp; omega)];simp[pof]
theorem of_eq (a0:List UInt8)(hb:a0.length≤900000):Jj a0=some (pof a0.length a0):=by
 have h:=Aac a0 (by omega) a0.length 0 [] (by omega) (by omega) (by simp; omega);have h':=Dg _ h (by omega);simp only[Jj,CL,Cu];rw[if_neg (by decide)];simp only[Ab,List.drop_zero,List.nil_append]at h'⊢;rw[show((0:Int))=((0:Nat):Int)from rfl,h'];simp only[Ab]
def G8 (n:Nat)(l:List UInt64)(s:UInt64×UInt64×UInt64):UInt64×UInt64×UInt64:=match n,l with|_,[]=>s|0,_=>s|_+1,[x]=>Lc (CI s.1 x,s.2.1,s.2.2)|n+1,x::y::l=>G8 n l (Lc (CI s.1 x,CI s.2.1 y,s.2.2))
theorem b4_eq1 (x:UInt64)(s:UInt64×UInt64×UInt64):Dh (Eh [x]) 1 0 s=some (CI s.1 x,s.2.1,s.2.2):=by
 have e0:idx [x] (0:Int)=some x:=rfl;have e1:idx [s.1,s.2.1,s.2.2] (0:Int)=some s.1:=rfl;simp[Dh,Eh,e0,e1,Vz,C0]
theorem b4_eq2 (x y:UInt64)(s:UInt64×UInt64×UInt64):Dh (Eh [x,y]) 2 0 s=some (CI s.1 x,CI s.2.1 y,s.2.2):=by
 have e0:idx [x,y] (0:Int)=some x:=rfl;have e1:idx [s.1,s.2.1,s.2.2] (0:Int)=some s.1:=rfl;have e2:idx [x,y] 1=some y:=rfl;have e3:idx [CI s.1 x,s.2.1,s.2.2] 1=some s.2.1:=rfl;simp[Dh,Eh,e0,e1,e2,e3,Vz,C0]
theorem b3_nil (fst:Bool)(hf:fst=true)(s:UInt64×UInt64×UInt64):Cb ([],fst,s.1,s.2.1,s.2.2)=some (.inl ([],false,Lc s)):=by
 subst hf;have hc:cut ([]:List UInt64) 0 0=some []:=rfl;have hmin:NF 2 (([]:List UInt64).length:Int)=0:=rfl;simp only[Cb,Bool.true_or,if_true,hmin];rw[show((([]:List UInt64).length:Int))=0 from rfl,hc];simp only[Ab,Dh,List.length_nil,XN]
theorem Abc (s:UInt64×UInt64×UInt64):Cb ([],false,s.1,s.2.1,s.2.2)=some (.inr s):=rfl
theorem Abb (fst:Bool)(x:UInt64)(s:UInt64×UInt64×UInt64):Cb ([x],fst,s.1,s.2.1,s.2.2)=some (.inl ([],false,Lc (CI s.1 x,s.2.1,s.2.2))):=by
 have hmin:NF 2 (([x]:List UInt64).length:Int)=1:=rfl;have h0:(fst||decide ((([x]:List UInt64).length:Int)>0))=true:=by simp
 have hc:cut [x] 0 1=some [x]:=rfl;have hc2:cut [x] 1 1=some []:=rfl;simp only[Cb,h0,if_true,hmin];rw[show((([x]:List UInt64).length:Int))=1 from rfl,hc,hc2];simp only[Ab,List.length_cons,List.length_nil];rw[b4_eq1];simp only[Ab,XN]
theorem Aba (fst:Bool)(x y:UInt64)(l:List UInt64)(s:UInt64×UInt64×UInt64):Cb (x::y::l,fst,s.1,s.2.1,s.2.2)=some (.inl (l,false,Lc (CI s.1 x,CI s.2.1 y,s.2.2))):=by
 have hmin:NF 2 ((x::y::l).length:Int)=((2:Nat):Int):=by unfold NF; rw[if_neg (by simp; omega)]; rfl
 have h0:(fst||decide (((x::y::l).length:Int)>0))=true:=by simp; right; omega
 have hc:cut (x::y::l) ((0:Nat):Int) ((2:Nat):Int)=some [x,y]:=by rw[Ta (by omega) (by simp)]; rfl
 have hc2:cut (x::y::l) ((2:Nat):Int) ((x::y::l).length:Int)=some l:=by rw[Ta (by simp) (by omega)]; simp
 simp only[Cb,h0,if_true,hmin];rw[show((0:Int))=((0:Nat):Int)from rfl,hc,hc2];simp only[Ab,List.length_cons,List.length_nil];rw[show((0:Nat):Int)=0 from rfl,b4_eq2];simp only[Ab,XN]
theorem Ur: ∀(n:Nat) (l:List UInt64) (s:UInt64×UInt64×UInt64),l.length≤n→iter Cb (n+1) (l,false,s.1,s.2.1,s.2.2)=some (G8 n l s):=by
 intro n;induction n with
 |zero=>
  intro l s h;have:l=[]:=List.eq_nil_of_length_eq_zero (by omega);subst this;rw[AL (Abc s)]; simp[G8]
 |succ n ih=>
  intro l s h;match l,h with
  | [],_=>rw[AL (Abc s)]; simp[G8]
  | [x],_=>
   rw[Av (Abb false x s)];have:=ih [] (Lc (CI s.1 x,s.2.1,s.2.2)) (by simp);rw[this]; simp[G8]
  |x::y::l,h=>
   rw[Av (Aba false x y l s)];have:=ih l (Lc (CI s.1 x,CI s.2.1 y,s.2.2)) (by simp at h; omega);rw[this]; simp[G8]
def Wj (l:List UInt64)(s:UInt64×UInt64×UInt64):UInt64×UInt64×UInt64:=match l with| []=>Lc s|l=>G8 l.length l s
def Acj (b:List UInt8):UInt64×UInt64:=((Wj (pof b.length b) (0,0,toU (b.length:Int))).1,(Wj (pof b.length b) (0,0,toU (b.length:Int))).2.1)
theorem sum_eq (b:List UInt8)(hb:b.length≤900000):HV b=some (Acj b):=by
 simp only[HV,of_eq b hb,Ab];have hl:=XA b.length b;have hk:Acj b=((Wj (pof b.length b) (0,0,toU (b.length:Int))).1,(Wj (pof b.length b) (0,0,toU (b.length:Int))).2.1):=rfl;rw[hk];clear hk;generalize pof b.length b=l at*;have h:iter Cb AR (l,true,0,0,toU (b.length:Int))=some (Wj l (0,0,toU (b.length:Int))):=by
  refine Dg (l.length+2) ?_ (by omega);match l with
  | []=>
   rw[show([]:List UInt64).length+2=1+1 from rfl,Av (b3_nil true rfl (0,0,toU (b.length:Int)))];have:=Ur 0 [] (Lc (0,0,toU (b.length:Int))) (by simp);rw[this]; simp[G8,Wj]
  | [x]=>
   rw[show([x]:List UInt64).length+2=2+1 from rfl,Av (Abb true x (0,0,toU (b.length:Int)))];have:=Ur 1 [] (Lc (CI 0 x,0,toU (b.length:Int))) (by simp);rw[this]; simp[G8,Wj]
  |x::y::l=>
   rw[Av (Aba true x y l (0,0,toU (b.length:Int)))];have:=Ur (l.length+2) l (Lc (CI 0 x,CI 0 y,toU (b.length:Int))) (by omega);have e:(x::y::l).length+1=l.length+2+1:=rfl;rw[e,this];simp only[G8,Wj,List.length_cons];congr 1;clear this hl;have: ∀(n k:Nat) (l:List UInt64) (s:UInt64×UInt64×UInt64),l.length≤n→l.length≤k→G8 n l s=G8 k l s:=by
    intro n;induction n with
    |zero=>intro k l s h _; have:l=[]:=List.eq_nil_of_length_eq_zero (by omega); subst this; simp[G8]
    |succ n ih=>
     intro k l s h hk;match l,k,h,hk with
     | [],k,_,_=>cases k<;>simp[G8]
     | [x],k+1,_,_=>simp[G8]
     |x::y::l,k+1,h,hk=>simp only[G8]; exact ih k l _ (by simp at h; omega) (by simp at hk; omega)
   exact this _ _ _ _ (by omega) (by omega)
 rw[h];simp only[Ab]
def MC:Nat→UInt64→List UInt8
 |0,_=> []
 |k+1,n=>toB ((Dj n (8*k)).toNat:Int)::MC k n
theorem Fg (k:Nat)(n:UInt64):(MC k n).length=k:=by induction k with|zero=>rfl|succ k ih=>simp[MC,ih]
theorem Zt (n:UInt64): ∀(k:Nat) (b:List UInt8),k≤8→b.length+k≤1000000→iter (Fm n) (k+1) (b,(k:Int)-1)=some (b++MC k n):=by
 intro k;induction k with
 |zero=>intro b _ _; refine AL ?_; simp only[Fm,MC,List.append_nil]; rw[if_neg (by simp)]
 |succ k ih=>
  intro b hk hb;have hw:w64 (8*(((k+1:Nat):Int)-1))=((8*k:Nat):Int):=by rw[Cm (by omega) (by omega)]; omega
  have hw2:w64 ((((k+1:Nat):Int)-1)-1)=(k:Int)-1:=by rw[Cm (by omega) (by omega)]; omega
  rw[Av (s':=(b++[toB ((Dj n (8*k)).toNat:Int)],(k:Int)-1))]
  ·rw[ih _ (by omega) (by simp; omega)]; simp[MC]
  ·simp only[Fm,hw,hw2];rw[if_pos (decide_eq_true (by omega)),if_pos (by omega),Mh 1 (by simp; omega) (by simp; omega)];simp only[Ab,Int.toNat_natCast]
theorem put_eq (n:UInt64)(k:Nat)(b:List UInt8)(hk:k≤8)(hb:b.length≤900000):HU b n (k:Int)=some (b++MC k n):=by
 have hw:w64 ((k:Int)-1)=(k:Int)-1:=Cm (by omega) (by omega);simp only[HU,hw,Dg (k+1) (Zt n k b hk (by omega)) (by omega),Ab]
def AaD (s:UInt64×UInt64):List UInt8:=MC 8 s.1++MC 8 s.2
def V1:List UInt8→List (List UInt8)→List UInt8
 |b,[]=>b
 |b,p::ps=>V1 (b++MC 4 (toU (p.length:Int))++p) ps
def XB:List (List UInt8)→Nat
 | []=>0
 |p::ps=>4+p.length+XB ps
theorem Sx: ∀(ps:List (List UInt8)) (b:List UInt8),(V1 b ps).length=b.length+XB ps:=by
 intro ps;induction ps with
 |nil=>intro b; rfl
 |cons p ps ih=>intro b; simp only[V1,ih,XB,List.length_append,Fg]; omega
theorem Zi: ∀(ps:List (List UInt8)) (i:Int) (b:List UInt8),b.length+XB ps≤800000→GM Ev ps i b=some (V1 b ps):=by
 intro ps;induction ps with
 |nil=>intro i b _; rfl
 |cons p ps ih=>
  intro i b h;simp only[XB]at h;have h0:HU b (toU (p.length:Int)) 4=some (b++MC 4 (toU (p.length:Int))):=put_eq _ 4 b (by omega) (by omega);simp only[GM,Ev,h0,Ab];rw[Mh 1 (by simp[Fg]; omega) (by simp[Fg]; omega)];simp only[Ab];rw[ih _ _ (by simp[Fg]; omega)];rfl
def ptag (t:ByteArray)(ps:List (List UInt8)):UInt64×UInt64:=Acj (V1 (toB (t.size:Int)::t.data.toList) ps)
theorem WH (t:ByteArray)(ps:List (List UInt8))(h:t.data.toList.length+XB ps≤700000):Fo t ps=some (ptag t ps):=by
 simp only[Fo];rw[Mh 1 (by simp at h⊢; omega) (by simp at h⊢; omega)];simp only[Ab];rw[Zi _ _ _ (by simp at h⊢; omega)];simp only[Ab];rw[sum_eq _ (by rw[Sx]; simp at h⊢; omega)];rfl
def ppair (a b:UInt64×UInt64):UInt64×UInt64:=ptag ⟨#[110,111,100,101]⟩ [AaD a,AaD b]
end Go.Proofs.YtbajlmaijjcbmaaGreatDoor
end
