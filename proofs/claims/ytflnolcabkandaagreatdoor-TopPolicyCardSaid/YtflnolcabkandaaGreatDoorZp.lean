/- Several texts, one behind the other. Conditions: none. -/
import Derived.Test.YtflnolcabkandaaGreatDoorZk
import Derived.Test.YtflnolcabkandaaGreatDoorZl
import Derived.Test.YtflnolcabkandaaGreatDoorZm
import Derived.Test.YtflnolcabkandaaGreatDoorZn
import Derived.Test.YtflnolcabkandaaGreatDoorZf
import Derived.Lib.ParseIntBCases
import Derived.KernelRfl
set_option linter.unusedSimpArgs false
set_option linter.unusedVariables false
set_option maxHeartbeats 20000000
set_option maxRecDepth 100000
section
namespace Go.Proofs.YtflnolcabkandaaGreatDoor
open Go Go.Gw Go.Ax
def Tot {α:Type}(x:Option α):Prop:= ∃r,x=some r
theorem tot {α:Type}(r:α):Tot (some r):=⟨r,rfl⟩
theorem Ik {α β:Type}{x:Option α}{k:α→Option β}(h:Tot x)(hk: ∀a,x=some a→Tot (k a)):Tot (Ab x k):=by
 obtain⟨a,h⟩:=h;rw[h]; exact hk a h
theorem Sw {α:Type} [Inhabited α]{b:Bool}{x:Option α}(h:b=true→Tot x):Tot (gu b x):=by
 cases b with
 |true=>exact h rfl
 |false=>exact tot default
theorem Sv {α:Type}{b:Bool}{x y:Option α}(h1:b=true→Tot x)(h0:b=false→Tot y):Tot (if b=true then x else y):=by
 cases b with
 |true=>exact h1 rfl
 |false=>exact h0 rfl
theorem AaN {α:Type}{c:Prop} [Decidable c]{x y:Option α}(h1:c→Tot x)(h0: ¬c→Tot y):Tot (if c then x else y):=by
 split
 ·exact h1 ‹_›
 ·exact h0 ‹_›
theorem Pk {σ τ:Type}{step:σ→Option (σ⊕τ)}(μ:σ→Nat)(I:σ→Prop)(Q:τ→Prop)
  (h: ∀s,I s→∃r,step s=some r∧(∀s',r= .inl s'→I s'∧μ s'<μ s)∧∀t,r= .inr t→Q t): ∀n s,I s→μ s<n→∃t,iter step n s=some t∧Q t
 |0,s,_,hn=>by omega
 |n+1,s,hI,hn=>by
  obtain⟨r,h1,h2,h3⟩:=h s hI;cases r with
  |inr t=>exact⟨t,by show Ab (step s) _=_; rw[h1]; rfl,h3 t rfl⟩
  |inl s'=>
   obtain⟨i',lt⟩:=h2 s' rfl;obtain⟨t,e,q⟩:=Pk μ I Q h n s' i' (by omega);exact⟨t,by show Ab (step s) _=_; rw[h1]; exact e,q⟩
theorem Uu (s:ByteArray)(i:Nat):1≤(Utf8.decode s i).2:=by
 unfold Utf8.decode;simp only;repeat' split
 all_goals simp
theorem DO:9223372036854775808≤ET:=Ac3 rfl
theorem Pw (c:Int):Tot (Ch c):=tot _
theorem WJ (c:Int):Tot (Ce c):=by
 unfold Ce;exact Ik (Sw fun _=>Pw c) fun a _=>tot _
theorem WA (s:ByteArray):Tot (Dy s):=by
 unfold Dy;refine Sv (fun _=>tot _) fun h=> ?_;simp only[Bool.or_eq_false_iff,decide_eq_false_iff_not]at h;refine Ik ?_ fun a _=> ?_
 ·obtain⟨t,e,_⟩:=Pk (step:=AP s) (fun i=>s.size-i) (fun _=>True) (fun _=>True) (fun i _=>by
   unfold AP;by_cases hi:i<s.size
   ·rw[AcZ hi];have hd:=Uu s i;obtain⟨x4,h4⟩:=Sw (b:=((i:Int)==(w64 ((s.size:Int)-1)))) fun _=>Pw ((Utf8.decode s i).1:Int);obtain⟨x7,h7⟩:=Sw (b:=((i:Int)==0)) fun _=>Pw ((Utf8.decode s i).1:Int);obtain⟨x9,h9⟩:=Sw (b:=(!((i:Int)==0))) fun _=>WJ ((Utf8.decode s i).1:Int);simp only[bnd,h4,h7,h9,Aa];split
    ·exact⟨_,rfl,fun s' h=>(by cases h; exact⟨trivial,by omega⟩),fun _ _=>trivial⟩
    ·split
     ·exact⟨_,rfl,fun s' h=>(by cases h),fun _ _=>trivial⟩
     ·split
      ·exact⟨_,rfl,fun s' h=>(by cases h; exact⟨trivial,by omega⟩),fun _ _=>trivial⟩
      ·split
       ·exact⟨_,rfl,fun s' h=>(by cases h),fun _ _=>trivial⟩
       ·exact⟨_,rfl,fun s' h=>(by cases h; exact⟨trivial,by omega⟩),fun _ _=>trivial⟩
   ·rw[Ac1 hi];exact⟨_,rfl,fun s' h=>(by cases h),fun _ _=>trivial⟩) ET 0 trivial (by have:=DO; omega)
  exact⟨t,e⟩
 ·cases a with
  |inl _=>exact tot _
  |inr _=>exact tot _
theorem Z6: ∀(l:List UInt8) (c:UInt8),Lib.indexByte l c<l.length
 | [],c=>by simp[Lib.indexByte]
 |b::l,c=>by
  have:=Z6 l c;unfold Lib.indexByte;split
  ·rw[AcY]; omega
  ·split
   ·rw[AcY]; omega
   ·rw[AcY]; omega
theorem AQ (s:ByteArray):s.data.toList.length=s.size:=by rw[Array.length_toList]; rfl
theorem QM (s:ByteArray): ∃x:Int,Bc s (⟨#[46]⟩:ByteArray)=some x∧ -1≤x∧x<s.size:=by
 unfold Bc AI A9;simp only[bnd];by_cases h:((((⟨#[46]⟩:ByteArray).size:Int)==0)||eqS (⟨#[46]⟩:ByteArray) s)=true
 ·rw[AcZ h];refine⟨0,rfl,by omega,?_⟩;have h1:eqS (⟨#[46]⟩:ByteArray) s=true:=by
   cases he:eqS (⟨#[46]⟩:ByteArray) s with
   |true=>rfl
   |false=>rw[he]at h; cases h
  have h2: [(46:UInt8)]=s.data.toList:=by simpa[eqS]using h1
  have h3:=AQ s;rw[←h2]at h3;simp only[AcY,AdP]at h3;omega
 ·rw[Ac1 h];refine⟨UL s 46,rfl,Lib.indexByte_ge _ _,?_⟩;have:=Z6 s.data.toList 46;rw[AQ]at this;exact this
theorem CK {x:Int}(h0: -9223372036854775808≤x)(h1:x≤9223372036854775807):w64 x=x:=by
 unfold w64; omega
theorem DC {s:ByteArray}{lo hi:Int}(h0:0≤lo)(h1:lo≤hi)(h2:hi≤s.size):ML s lo hi=some (s.extract lo.toNat hi.toNat):=by
 unfold ML; rw[AcZ ⟨h0,h1,h2⟩]
theorem SZ (s:ByteArray)(n k:Int):BD s n k=Ab (if(decide ((s.size:Int)>k))=true then some true else Ab (Cl s (⟨#[46]⟩:ByteArray)) fun x3=>some (decide (x3≥n))) fun x2=>if x2=true then some false else
  Ab (Eg s (⟨#[46]⟩:ByteArray)) fun x4=>Ab (AX (fun(s:(Unit)×Nat) (b0:ByteArray)=>if s.2=0 then Ab (A0 b0 s) fun y=>some (y.2==0,y)else none) x4.1 x4.2.1 x4.2.2 ((),0)) fun x5=>
  if(x5.2.2.2).2=0 then some true else some false:=by
 unfold BD;cases decide ((s.size:Int)>k)with
 |true=>rfl
 |false=>cases Cl s (⟨#[46]⟩:ByteArray)with|none=>rfl|some x=>rfl
theorem Yq (s:ByteArray)(n k:Int)(hk:k≤64):Tot (BD s n k):=by
 rw[SZ];refine Ik ?_ fun x2 hx2=> ?_
 ·refine Sv (fun _=>tot _) fun _=> ?_;exact⟨_,rfl⟩
 ·refine Sv (fun _=>tot _) fun h=> ?_;have hsz:s.size≤64:=by
   cases hd:decide ((s.size:Int)>k)with
   |true=>rw[AcZ hd]at hx2; cases hx2; cases h
   |false=>simp only[decide_eq_false_iff_not]at hd; omega
  have key: ∃r,AX (fun(s:(Unit)×Nat) (b0:ByteArray)=>if s.2=0 then Ab (A0 b0 s) fun y=>some (y.2==0,y)else none) (⟨#[46]⟩:ByteArray) s 0 ((),0)=some r:=by
   have hb5: ∀(b0:ByteArray) (s:Unit×Nat),∃z:Nat,A0 b0 s=some ((),z):=fun b0 s=>by
    unfold A0;obtain⟨y,hy⟩:=WA b0;rw[hy];simp only[Aa];split
    ·exact⟨1,rfl⟩
    ·exact⟨0,rfl⟩
   unfold AX;rw[Ac1 (by decide)];obtain⟨tt,hit,hq⟩: ∃t,iter (AE (fun(s:(Unit)×Nat) (b0:ByteArray)=>if s.2=0 then Ab (A0 b0 s) fun y=>some (y.2==0,y)else none) (⟨#[46]⟩:ByteArray) 0) ET (s,((),0))=some t∧∀y,t= .inl y→y.2.2=0:=by
    exact Pk (step:=AE (fun(s:(Unit)×Nat) (b0:ByteArray)=>if s.2=0 then Ab (A0 b0 s) fun y=>some (y.2==0,y)else none) (⟨#[46]⟩:ByteArray) 0) (fun z=>z.1.size) (fun z=>z.1.size≤64∧z.2.2=0) (fun t=> ∀y,t= .inl y→y.2.2=0) (fun z hz=>by
     obtain⟨x,h1,h2,h3⟩:=QM z.1;unfold AE;rw[h1];simp only[Aa];by_cases hx:x<0
     ·rw[AcZ (by simpa using hx)];exact⟨_,rfl,fun s' h=>(by cases h),fun t ht y hy=>by subst hy; cases ht; exact hz.2⟩
     ·rw[Ac1 (by simpa using hx)];have hw:w64 (x+0)=x:=by rw[Int.add_zero]; exact CK (by omega) (by omega)
      have hw1:w64 (x+((⟨#[46]⟩:ByteArray).size:Int))=x+1:=CK (x:=x+1) (by omega) (by omega);rw[hw,hw1,DC (by omega) (by omega) (by omega),DC (lo:=x+1) (by omega) (by omega) (by omega)];simp only[Aa,AcZ hz.2];obtain⟨zz,hzz⟩:=hb5 (z.1.extract (0:Int).toNat x.toNat) z.2;rw[hzz];simp only[Aa];split
      ·exact⟨_,rfl,fun s' h=>(by cases h),fun t ht y hy=>by subst hy; cases ht⟩
      ·rename_i hne;refine⟨_,rfl,fun s' h=> ?_,fun t ht=>by cases ht⟩;cases h;have e0:zz=0:=by simpa using hne
       refine⟨⟨?_,e0⟩,?_⟩
       ·simp only[ByteArray.size_extract]; omega
       ·simp only[ByteArray.size_extract]; omega) ET (s,((),0)) ⟨hsz,rfl⟩ (by have:=DO; show s.size<ET; omega)
   show Tot (Ab (iter _ ET (s,((),0))) _);rw[hit];cases tt with
   |inr _=>exact tot _
   |inl y3=>
    have h0:=hq y3 rfl;obtain⟨zz,hzz⟩:=hb5 y3.1 y3.2;simp only[Aa,AcZ h0,hzz];exact tot _
  obtain⟨r,hr⟩:=key;show Tot (Ab (AX _ (⟨#[46]⟩:ByteArray) s 0 ((),0)) _);rw[hr];simp only[Aa];exact AaN (fun _=>tot _) fun _=>tot _
theorem is_tot (s:ByteArray):Tot (Ck s):=Ik (Yq s 8 64 (by decide)) fun a _=>tot _
theorem XD (s:ByteArray):Tot (Cx s):=by
 unfold Cx;refine Ik (is_tot s) fun a _=>Ik ?_ fun a _=>tot _;unfold E3;exact Sv (fun _=>tot _) fun _=>tot _
theorem tot_eq {α:Type}{x:Option α}{d:α}(h:Tot x):x=some (x.getD d):=by
 obtain⟨r,h⟩:=h;rw[h]; rfl
def Wr (s:ByteArray):Int:=(Cx s).getD 0
theorem O2 (s:ByteArray):Cx s=some (Wr s):=tot_eq (XD s)
def Jo (met:List ByteArray):List (ByteArray×Bool):=met.map fun s=>(s,true)
theorem Mu: ∀(met:List ByteArray) (s:ByteArray) (i:Nat),(lkI (Jo met) s i).isSome=met.any (eqS s)∧∀p,lkI (Jo met) s i=some p→p.2=true
 | [],s,i=>⟨rfl,fun p h=>by cases h⟩
 |a::met,s,i=>by
  have ih:=Mu met s (i+1);rw[List.any_cons];cases h:eqS s a with
  |true=>
   refine⟨?_,fun p hp=> ?_⟩
   ·show(if eqS s a=true then some (i,true)else lkI (Jo met) s (i+1)).isSome=_;rw[AcZ h]; rfl
   ·have hp:(if eqS s a=true then some (i,true)else lkI (Jo met) s (i+1))=some p:=hp;rw[AcZ h]at hp;cases hp; rfl
  |false=>
   refine⟨?_,fun p hp=> ?_⟩
   ·show(if eqS s a=true then some (i,true)else lkI (Jo met) s (i+1)).isSome=_;rw[Ac1 (by rw[h]; decide)]; exact ih.1
   ·have hp:(if eqS s a=true then some (i,true)else lkI (Jo met) s (i+1))=some p:=hp;rw[Ac1 (by rw[h]; decide)]at hp;exact ih.2 p hp
theorem QE (met:List ByteArray)(s:ByteArray):lkB (Jo met) s=met.any (eqS s):=by
 have h:=Mu met s 0;unfold lkB;rw[←h.1];cases e:lkI (Jo met) s 0 with
 |none=>rfl
 |some p=>rw[Ade,Option.getD_some,h.2 p e]; rfl
theorem Tg (met:List ByteArray)(s:ByteArray)(h:met.any (eqS s)=false):(lkI (Jo met) s 0).isNone=true:=by
 have h1:=(Mu met s 0).1;rw[h]at h1;cases e:lkI (Jo met) s 0 with
 |none=>rfl
 |some p=>rw[e]at h1; cases h1
theorem Z8 {c v:Bool}:gu c (some v)=some (c&&v):=by cases c<;>rfl
theorem Hq {α:Type} [Inhabited α](o:Option α):gu true o=o:=rfl
theorem YN {α:Type} [Inhabited α](o:Option α):gu false o=some default:=rfl
theorem B8 {α β:Type}(a:α)(k:α→β):bnd a k=k a:=rfl
theorem Aaf {s:ByteArray}{i:Nat}{b:UInt8}(h:s.data.toList[i]? =some b):s.get! i=b:=by
 have h2:s.data[i]? =some b:=by rw[←Array.getElem?_toList]; exact h
 show s.data[i]! =b;rw[getElem!_def,h2]
theorem dec_lo {s:ByteArray}{i:Nat}{b:UInt8}(h:s.data.toList[i]? =some b)(hb:b.toNat<128):Utf8.decode s i=(b.toNat,1):=by
 unfold Utf8.decode;simp only[AdT,Aaf h];rw[AcZ hb]
theorem dec_hi {s:ByteArray}{i:Nat}{b:UInt8}(h:s.data.toList[i]? =some b)(hb: ¬b.toNat<128):128≤(Utf8.decode s i).1:=by
 unfold Utf8.decode;simp only[AdT,Aaf h];rw[Ac1 hb];have he:Utf8.runeError=65533:=rfl;split
 ·split
  ·assumption
  ·simp[he]
 ·split
  ·split
   ·rename_i h1;simp only[AcQ,Adt]at h1;show 128≤_;omega
   ·simp[he]
  ·split
   ·split
    ·rename_i h1;simp only[AcQ,Adt]at h1;show 128≤_;omega
    ·simp[he]
   ·simp[he]
def Fg (c:UInt8):Bool:=(decide (97≤c.toNat)&&decide (c.toNat≤122))||(decide (48≤c.toNat)&&decide (c.toNat≤57))
def WK (c:UInt8):Bool:=c.toNat==45||Fg c
def Oz:List UInt8→Bool
 | []=>true
 | [c]=>Fg c
 |c::d::r=>WK c&&Oz (d::r)
def Mx:List UInt8→Bool
 | []=>false
 | [c]=>Fg c
 |c::d::r=>(Fg c||c.toNat==95)&&Oz (d::r)&&decide ((c::d::r).length≤16)
theorem QU (n:Nat)(c:UInt8)(h:n=c.toNat):Ch (n:Int)=some (Fg c):=by
 subst h;unfold Ch Fg;rw[B8];congr 1;have e: ∀k:Nat,decide ((k:Int)≤(c.toNat:Int))=decide (k≤c.toNat):=fun k=>by rw[decide_eq_decide]; omega
 have e2: ∀k:Nat,decide ((c.toNat:Int)≤(k:Int))=decide (c.toNat≤k):=fun k=>by rw[decide_eq_decide]; omega
 rw[←e 97,←e2 122,←e 48,←e2 57];rfl
theorem W8 (n:Nat)(h:128≤n):Ch (n:Int)=some false:=by
 unfold Ch;rw[B8,AdB (show¬(n:Int)≤122 from by omega),AdB (show¬(n:Int)≤57 from by omega),AdJ,AdJ];rfl
theorem Up (n:Nat)(c:UInt8)(h:n=c.toNat):Ce (n:Int)=some (WK c):=by
 unfold Ce WK;rw[QU n c h,Z8,Aa];subst h;have e:((c.toNat:Int)==45)=(c.toNat==45):=by rw[AdR,beq_iff_eq,beq_iff_eq]; omega
 rw[e];cases c.toNat==45<;>simp
theorem YJ (n:Nat)(h:128≤n):Ce (n:Int)=some false:=by
 unfold Ce;rw[W8 n h,Z8,Aa];have e:((n:Int)==45)=false:=by rw[AdH]; omega
 rw[e]; rfl
theorem Ab3 (c:UInt8)(h: ¬c.toNat<128):Fg c=false∧WK c=false∧(c.toNat==95)=false:=by
 have e1:Fg c=false:=by
  unfold Fg;rw[AdB (show¬c.toNat≤122 from by omega),AdB (show¬c.toNat≤57 from by omega),AdJ,AdJ]; rfl
 have e2:(c.toNat==45)=false:=by rw[AdH]; omega
 refine⟨e1,?_,by rw[AdH]; omega⟩;unfold WK;rw[e1,e2]; rfl
theorem NJ {s:ByteArray}{i:Nat}{c:UInt8}(hs:s.size≤16)(h:s.data.toList[i]? =some c):
  AP s i=some (if(if i+1=s.size then Fg c else if i=0 then Fg c||c.toNat==95 else WK c)=true then .inl (i+1)else .inr (.inr false)):=by
 have hi:i<s.size:=by
  have:=(AcX.1 h).1;rw[AQ]at this;exact this
 have hw:w64 ((s.size:Int)-1)=(s.size:Int)-1:=CK (by omega) (by omega);unfold AP;rw[AcZ hi,B8,hw];by_cases hb:c.toNat<128
 ·rw[dec_lo h hb,QU c.toNat c rfl,Up c.toNat c rfl,Z8,Aa,B8,B8,Z8,Aa,B8,Z8,Aa];have e95:((c.toNat:Int)==95)=(c.toNat==95):=by rw[AdR,beq_iff_eq,beq_iff_eq]; omega
  by_cases hl:i+1=s.size
  ·have el:((i:Int)==(s.size:Int)-1)=true:=by rw[beq_iff_eq]; omega
   rw[AcZ hl,el];cases Fg c<;>rfl
  ·have el:((i:Int)==(s.size:Int)-1)=false:=by rw[AdH]; omega
   rw[Ac1 hl,el];by_cases h0:i=0
   ·have e0:((i:Int)==0)=true:=by rw[beq_iff_eq]; omega
    rw[AcZ h0,e0];show(if(true&&((true&&Fg c)||((c.toNat:Int)==95)))=true then _ else _)=_;rw[e95];cases Fg c<;>cases c.toNat==95<;>rfl
   ·have e0:((i:Int)==0)=false:=by rw[AdH]; omega
    rw[Ac1 h0,e0];cases WK c<;>rfl
 ·have hd:=dec_hi h hb;generalize Utf8.decode s i=q at hd;obtain⟨n,k⟩:=q;have hn:128≤n:=hd;obtain⟨b1,b2,b3⟩:=Ab3 c hb;show(Ab (gu _ (Ch (n:Int))) _)=_;rw[W8 n hn,Z8,Aa,B8,AdJ,AdJ,Ac1 (by decide),B8];have e95:((n:Int)==95)=false:=by rw[AdH]; omega
  by_cases hl:i+1=s.size
  ·have el:((i:Int)==(s.size:Int)-1)=true:=by rw[beq_iff_eq]; omega
   rw[AcZ hl,el,b1];rfl
  ·have el:((i:Int)==(s.size:Int)-1)=false:=by rw[AdH]; omega
   rw[Ac1 hl,el,Ac1 (by decide)];rw[Z8,Aa,B8];show(if(((i:Int)==0)&&((((i:Int)==0)&&false)||((n:Int)==95)))=true then _ else Ab (gu _ (Ce (n:Int))) _)=_;rw[YJ n hn,Z8,Aa,e95,AdJ,Bool.or_false,AdJ,Ac1 (by decide)];by_cases h0:i=0
   ·have e0:((i:Int)==0)=true:=by rw[beq_iff_eq]; omega
    rw[AcZ h0,e0,b1,b3];rfl
   ·have e0:((i:Int)==0)=false:=by rw[AdH]; omega
    rw[Ac1 h0,e0,b2];rfl
theorem WB {s:ByteArray}{i:Nat}(h: ¬i<s.size):AP s i=some (.inr (.inl i)):=by
 unfold AP;rw[Ac1 h]
theorem NI {s:ByteArray}(hs:s.size≤16): ∀(r:List UInt8) (i n:Nat),1≤i→s.data.toList.drop i=r→i≤s.size→r.length<n→∃z,iter (AP s) n i=some (if Oz r=true then .inl z else .inr false)
 |r,i,0,_,_,_,h=>by omega
 | [],i,n+1,_,h,hi,_=>by
  have hl:s.data.toList.length≤i:=List.drop_eq_nil_iff.1 h;rw[AQ]at hl;refine⟨i,?_⟩;show Ab (AP s i) _=_;rw[WB (by omega)];rfl
 |c::r,i,n+1,h1,h,hi,hn=>by
  have hc:s.data.toList[i]? =some c:=by
   have:(s.data.toList.drop i)[0]? =some c:=by rw[h]; rfl
   simpa using this
  have hlt:i<s.size:=by
   have:=(AcX.1 hc).1;rw[AQ]at this; exact this
  have hr:s.data.toList.drop (i+1)=r:=by rw[←AdV,h]; rfl
  have hlen:r.length=s.size-(i+1):=by rw[←hr,Adz,AQ]
  obtain⟨z,ih⟩:=NI hs r (i+1) n (by omega) hr (by omega) (by rw[AcY]at hn; omega);refine⟨z,?_⟩;show Ab (AP s i) _=_;rw[NJ hs hc,Ac1 (show¬i=0 from by omega)];cases r with
  |nil=>
   rw[AcZ (show i+1=s.size from by rw[AdP]at hlen; omega)];show _=some (if Fg c=true then _ else _);cases Fg c with
   |false=>rfl
   |true=>rw[AcZ rfl,AcZ rfl]; exact ih
  |cons d r=>
   rw[Ac1 (show¬i+1=s.size from by rw[AcY]at hlen; omega)];show _=some (if(WK c&&Oz (d::r))=true then _ else _);cases WK c with
   |false=>rfl
   |true=>
    rw[AcZ rfl,AdM];exact ih
theorem YC (s:ByteArray):Dy s=some (Mx s.data.toList):=by
 unfold Dy;cases hl:s.data.toList with
 |nil=>
  have:eqS s (⟨#[]⟩:ByteArray)=true:=by unfold eqS; rw[hl]; rfl
  rw[this,Bool.true_or,AcZ rfl];rfl
 |cons c r=>
  have h0:eqS s (⟨#[]⟩:ByteArray)=false:=by unfold eqS; rw[hl]; rfl
  have hz:s.size=r.length+1:=by rw[←AQ,hl]; rfl
  rw[h0,AdW];by_cases hs:s.size≤16
  ·rw[AdB (show¬(s.size:Int)>16 from by omega),Ac1 (by decide)];have hc:s.data.toList[0]? =some c:=by rw[hl]; rfl
   have hd:s.data.toList.drop 1=r:=by rw[hl]; rfl
   have e': ∀n,r.length<n→∃z,iter (AP s) (n+1) 0=some (if Mx (c::r)=true then .inl z else .inr false):=by
    intro n hn;obtain⟨z,ht⟩:=NI hs r 1 n (by decide) hd (by omega) hn;refine⟨z,?_⟩;show Ab (AP s 0) _=_;rw[NJ hs hc,AcZ rfl];cases r with
    |nil=>
     rw[AcZ (show 0+1=s.size from by rw[hz]; rfl)];show _=some (if Fg c=true then _ else _);cases Fg c with
     |false=>rfl
     |true=>rw[AcZ rfl,AcZ rfl]; exact ht
    |cons d r=>
     rw[Ac1 (show¬0+1=s.size from by rw[hz,AcY]; omega)];show _=some (if((Fg c||c.toNat==95)&&Oz (d::r)&&decide ((c::d::r).length≤16))=true then _ else _);rw[Adm (show(c::d::r).length≤16 from by rw[AcY,←hz]; exact hs),Bool.and_true];cases Fg c||c.toNat==95 with
     |false=>rfl
     |true=>
      rw[AcZ rfl,AdM];exact ht
   obtain⟨z,e⟩: ∃z,iter (AP s) ET 0=some (if Mx (c::r)=true then .inl z else .inr false):=e' 18446744073709551615 (by omega);rw[e,Aa];cases Mx (c::r)<;>rfl
  ·rw[Adm (show(s.size:Int)>16 from by omega),AcZ rfl];cases r with
   |nil=>rw[hz]at hs; simp at hs
   |cons d r=>
    show _=some ((Fg c||c.toNat==95)&&Oz (d::r)&&decide ((c::d::r).length≤16));rw[AdB (show¬(c::d::r).length≤16 from by rw[AcY,←hz]; exact hs),AdJ]
def Ar:List UInt8→List (List UInt8)
 | []=> [[]]
 |c::l=>if c=46 then []::Ar l else match Ar l with|h::t=>(c::h)::t| []=> [[c]]
theorem IJ (c:UInt8)(l:List UInt8):Ar (c::l)=if c=46 then []::Ar l else match Ar l with|h::t=>(c::h)::t| []=> [[c]]:=rfl
theorem Fq: ∀l:List UInt8,Ar l≠[]
 | []=>by simp[Ar]
 |c::l=>by
  unfold Ar;split
  ·simp
  ·split<;>simp
theorem EX: ∀(p r:List UInt8),(46:UInt8)∉p→Ar (p++46::r)=p::Ar r
 | [],r,_=>by simp[Ar]
 |c::p,r,h=>by
  have hc:c≠46:=fun e=>h (by rw[e]; exact Adb);have ih:=EX p r fun q=>h (Adh _ q);show Ar (c::(p++46::r))=_;rw[IJ,Ac1 hc,ih]
theorem HJ: ∀(p:List UInt8),(46:UInt8)∉p→Ar p=[p]
 | [],_=>rfl
 |c::p,h=>by
  have hc:c≠46:=fun e=>h (by rw[e]; exact Adb);have ih:=HJ p fun q=>h (Adh _ q);unfold Ar;rw[Ac1 hc,ih]
theorem II: ∀(l:List UInt8),(Ar l).length=l.count 46+1
 | []=>rfl
 |c::l=>by
  have ih:=II l;unfold Ar;by_cases hc:c=46
  ·rw[AcZ hc,hc,List.count_cons_self,AcY,ih]
  ·rw[Ac1 hc,List.count_cons_of_ne hc];cases h:Ar l with
   |nil=>exact absurd h (Fq l)
   |cons a t=>rw[h]at ih; simpa using ih
theorem GJ: ∀(l:List UInt8) (c:UInt8),(Lib.indexByte l c= -1∧c∉l)∨∃p r,l=p++c::r∧c∉p∧Lib.indexByte l c=(p.length:Int)
 | [],c=> .inl ⟨rfl,by simp⟩
 |b::l,c=>by
  unfold Lib.indexByte;cases hb:b==c with
  |true=>
   have e:b=c:=by simpa using hb
   exact .inr ⟨[],l,by rw[e]; rfl,by simp,rfl⟩
  |false=>
   have e:b≠c:=by simpa using hb
   rcases GJ l c with ⟨h1,h2⟩|⟨p,r,h1,h2,h3⟩
   ·refine .inl ⟨by rw[h1]; rfl,?_⟩;intro h;rcases Ado.1 h with q|q
    ·exact e q.symm
    ·exact h2 q
   ·refine .inr ⟨b::p,r,by rw[h1]; rfl,?_,?_⟩
    ·intro h;rcases Ado.1 h with q|q
     ·exact e q.symm
     ·exact h2 q
    ·rw[h3];have:((p.length:Int)== -1)=false:=by rw[AdH]; omega
     rw[Ac1 (by decide),Ac1 (by rw[this]; decide),AcY];omega
theorem EP (s:ByteArray)(a b:Nat):(s.extract a b).data.toList=(s.data.toList.take b).drop a:=by
 rw[ByteArray.data_extract,Array.toList_extract,List.extract_eq_take_drop,List.take_drop];by_cases h:a≤b
 ·rw[Nat.add_sub_cancel' h]
 ·rw[Nat.sub_eq_zero_of_le (by omega),AdT];rw[AdA (by rw[Ads]; omega),AdA (by rw[Ads]; omega)]
def TU (l:List UInt8):Bool:=(Ar l).all Mx
theorem b5_eq (b:ByteArray)(s:Unit×Nat):A0 b s=some ((),if Mx b.data.toList=true then 0 else 1):=by
 unfold A0;rw[YC,Aa];cases Mx b.data.toList<;>rfl
def cbk:(Unit×Nat)→ByteArray→Option (Bool×(Unit×Nat)):=fun(s:(Unit)×Nat) (b0:ByteArray)=>if s.2=0 then Ab (A0 b0 s) fun y=>some (y.2==0,y)else none
theorem Aat (b:ByteArray):cbk ((),0) b=some (Mx b.data.toList,((),if Mx b.data.toList=true then 0 else 1)):=by
 unfold cbk;rw[AcZ rfl,b5_eq,Aa];cases Mx b.data.toList<;>rfl
theorem Pp (s:ByteArray)(h:s.size≤1000):Bc s (⟨#[46]⟩:ByteArray)=some (UL s 46):=by
 obtain⟨x,hx,h1,h2⟩:=QM s;unfold Bc AI A9;rw[B8];cases he:eqS (⟨#[46]⟩:ByteArray) s with
 |true=>
  have e:=(I4.1 he);subst e;rfl
 |false=>rfl
theorem Nt: ∀(m:Nat) (s:ByteArray) (n:Nat),s.size≤m→m<n→m≤100→
  ∃z:ByteArray,iter (AE cbk (⟨#[46]⟩:ByteArray) 0) n (s,((),0))=some (if(Ar s.data.toList).dropLast.all Mx=true then .inl (z,((),0))else .inr ((⟨#[46]⟩:ByteArray),z,0,((),1)))∧
   ((Ar s.data.toList).dropLast.all Mx=true→some z.data.toList=(Ar s.data.toList).getLast?)
 |m,s,0,_,h,_=>by omega
 |m,s,n+1,hs,hn,hm=>by
  have hx:Bc s (⟨#[46]⟩:ByteArray)=some (UL s 46):=Pp s (by omega);show∃z,Ab (AE cbk (⟨#[46]⟩:ByteArray) 0 (s,((),0))) _=_∧_;rcases GJ s.data.toList 46 with ⟨h1,h2⟩|⟨p,r,h1,h2,h3⟩
  ·have e:AE cbk (⟨#[46]⟩:ByteArray) 0 (s,((),0))=some (.inr (.inl (s,((),0)))):=by
    unfold AE;show Ab (Bc s (⟨#[46]⟩:ByteArray)) _=_;rw[hx,Aa,show UL s 46= -1 from h1];rfl
   rw[e,HJ _ h2];exact⟨s,rfl,fun _=>rfl⟩
  ·have hz:s.size=p.length+1+r.length:=by rw[←AQ,h1,Ac5,AcY]; omega
   have e1:ML s 0 (w64 ((p.length:Int)+0))=some (s.extract 0 p.length):=by
    rw[Int.add_zero,CK (by omega) (by omega),DC (by omega) (by omega) (by omega)];rfl
   have e2:ML s (w64 ((p.length:Int)+((⟨#[46]⟩:ByteArray).size:Int))) (s.size:Int)=some (s.extract (p.length+1) s.size):=by
    have:((⟨#[46]⟩:ByteArray).size:Int)=1:=rfl;rw[this,CK (by omega) (by omega),DC (by omega) (by omega) (by omega)];rfl
   have l1:(s.extract 0 p.length).data.toList=p:=by
    rw[EP,h1,List.take_left]; rfl
   have l2:(s.extract (p.length+1) s.size).data.toList=r:=by
    rw[EP,←AQ,List.take_length,h1];rw[←AdV,AdN]; rfl
   have e:AE cbk (⟨#[46]⟩:ByteArray) 0 (s,((),0))=some (if Mx p=true then .inl (s.extract (p.length+1) s.size,((),0))else .inr (.inr ((⟨#[46]⟩:ByteArray),s,0,((),1)))):=by
    unfold AE;show Ab (Bc s (⟨#[46]⟩:ByteArray)) _=_;rw[hx,Aa,show UL s 46=(p.length:Int)from h3,Ac1 (by rw[Adt]; omega),e1,Aa,Aat,Aa,l1];cases hlab:Mx p with
    |false=>rfl
    |true=>
     rw[Ac1 (by simp)];dsimp only;rw[e2,Aa];rfl
   rw[e,h1,EX p r h2];have hsz:(s.extract (p.length+1) s.size).size=r.length:=by rw[←AQ,l2]
   obtain⟨z,ih1,ih2⟩:=Nt (m-1) (s.extract (p.length+1) s.size) n (by omega) (by omega) (by omega);rw[l2]at ih1 ih2;have hd:(p::Ar r).dropLast=p::(Ar r).dropLast:=by
    cases hq:Ar r with
    |nil=>exact absurd hq (Fq r)
    |cons a t=>rfl
   have hg:(p::Ar r).getLast? =(Ar r).getLast? :=by
    cases hq:Ar r with
    |nil=>exact absurd hq (Fq r)
    |cons a t=>rfl
   rw[hd,hg,AdD];cases Mx p with
   |false=>exact⟨s,rfl,fun h=>by cases h⟩
   |true=>exact⟨z,ih1,ih2⟩
theorem PG {α:Type}(f:α→Bool): ∀(l:List α) (x:α),l.getLast? =some x→l.all f=(l.dropLast.all f&&f x)
 | [],x,h=>by cases h
 | [a],x,h=>by cases h; simp
 |a::b::l,x,h=>by
  have ih:=PG f (b::l) x (by simpa using h);show(f a&&(b::l).all f)=((f a&&(b::l).dropLast.all f)&&f x);rw[ih,Bool.and_assoc]
def isB (l:List UInt8)(n k:Nat):Bool:=decide (l.length≤k)&&decide ((Ar l).length≤n)&&TU l
theorem O1 (s:ByteArray)(n k:Nat)(hk:k≤100):BD s (n:Int) (k:Int)=some (isB s.data.toList n k):=by
 rw[SZ]; unfold isB;have hz:=AQ s;by_cases h1:s.size≤k
 ·rw[AdB (show¬(s.size:Int)>k from by omega),Ac1 (by decide),Adm (show s.data.toList.length≤k from by omega)];have ec:Cl s (⟨#[46]⟩:ByteArray)=some ((s.data.toList.count 46:Nat):Int):=rfl;rw[ec,Aa,Aa,II];by_cases h2:s.data.toList.count 46+1≤n
  ·rw[AdB (show¬((s.data.toList.count 46:Nat):Int)≥(n:Int)from by omega),Ac1 (by decide),Adm h2];obtain⟨z,e1,e2⟩:=Nt 100 s ET (by omega) (by have:=DO; omega) (by decide);have es:AX cbk (⟨#[46]⟩:ByteArray) s 0 ((),0)=some ((⟨#[46]⟩:ByteArray),z,0,((),if TU s.data.toList=true then 0 else 1)):=by
    unfold AX;rw[Ac1 (by decide),e1,Aa];unfold TU;cases hd:(Ar s.data.toList).dropLast.all Mx with
    |true=>
     have hlast:=(e2 hd).symm;rw[PG Mx _ _ hlast,hd,AcZ rfl];show Ab (cbk ((),0) z) _=_;rw[Aat,Aa,AdM]
    |false=>
     have:(Ar s.data.toList).all Mx=false:=by
      cases hl:(Ar s.data.toList).getLast? with
      |none=>exact absurd (List.getLast?_eq_none_iff.1 hl) (Fq _)
      |some x=>rw[PG Mx _ x hl,hd]; rfl
     rw[this];rfl
   show Ab (AX cbk (⟨#[46]⟩:ByteArray) s 0 ((),0)) _=_;rw[es,Aa];cases TU s.data.toList<;>rfl
  ·rw[Adm (show((s.data.toList.count 46:Nat):Int)≥(n:Int)from by omega),AcZ rfl,AdB h2];rfl
 ·rw[Adm (show(s.size:Int)>k from by omega),AcZ rfl,Aa,AcZ rfl,AdB (show¬s.data.toList.length≤k from by omega)];rfl
theorem Ta (s:ByteArray):Wr s=if isB s.data.toList 8 64=true then 0 else 110:=by
 have e:=O2 s;have e2:Ck s=some (isB s.data.toList 8 64):=by
  unfold Ck;rw[show BD s 8 64=some (isB s.data.toList 8 64)from O1 s 8 64 (by decide)];rfl
 unfold Cx at e;rw[e2,Aa]at e;cases h:isB s.data.toList 8 64 with
 |true=>rw[h]at e; exact(AcO e).symm
 |false=>rw[h]at e; exact(AcO e).symm
def toL (s:ByteArray):List UInt8:=s.data.toList
theorem Fh {α:Type}(b:Nat){xs ys:List α}(h:(xs.length+ys.length)*b≤140737488355328)(h1:xs.length+ys.length≤140737488355328):app b xs ys=some (xs++ys):=by unfold app; rw[AcZ ⟨h,h1⟩]
def Iv:List UInt8→Bool
 |a::b::r=>a==42&&b==46&&isB r 7 62
 |_=>false
theorem WH (n k:Nat):isB [] n k=false:=by
 unfold isB TU;simp[Ar,Mx]
theorem Wb (s:ByteArray):B7 s=some (if(isB (toL s) 8 64||Iv (toL s))=true then 0 else 110):=by
 have hz:(toL s).length=s.size:=AQ s;unfold B7 Ej;have e1:Ck s=some (isB (toL s) 8 64):=by
  unfold Ck;rw[show BD s 8 64=some (isB (toL s) 8 64)from O1 s 8 64 (by decide)];rfl
 rw[e1,Aa];cases h1:isB (toL s) 8 64 with
 |true=>rfl
 |false=>
  rw[Ac1 (by decide),AdW];unfold BU Bb Ba;have e2:(((⟨#[42,46]⟩:ByteArray).size:Nat):Int)=2:=rfl;rw[e2];match hl:toL s with
  | []=>
   rw[hl,AdP]at hz;rw[AdB (show¬(s.size:Int)≥2 from by omega)];rfl
  | [a]=>
   rw[hl,AcY,AdP]at hz;rw[AdB (show¬(s.size:Int)≥2 from by omega)];rfl
  |a::b::r=>
   rw[hl,AcY,AcY]at hz;have ec:ML s 0 2=some (s.extract 0 2):=DC (by omega) (by omega) (by omega);have el:(s.extract 0 2).data.toList=[a,b]:=by
    rw[EP];show((toL s).take 2).drop 0=_;rw[hl]; rfl
   have ee:eqS (s.extract 0 2) (⟨#[42,46]⟩:ByteArray)=(a==42&&b==46):=by
    unfold eqS;rw[el,AdR];simp
   rw[Adm (show(s.size:Int)≥2 from by omega),Hq,ec,Aa,B8,ee,Aa];show _=some (if(a==42&&b==46&&isB r 7 62)=true then 0 else 110);cases a==42&&b==46 with
   |false=>rfl
   |true=>
    have ec2:ML s 2 (s.size:Int)=some (s.extract 2 s.size):=by
     rw[DC (by omega) (by omega) (by omega)]; rfl
    have el2:(s.extract 2 s.size).data.toList=r:=by
     rw[EP];show((toL s).take s.size).drop 2=_;rw[AdG (by rw[hl,AcY,AcY]; omega),hl]; rfl
    rw[show(true&&true)=true from rfl,Ac1 (by decide),ec2,Aa,Aa,Aa];have en:=O1 (s.extract 2 s.size) 7 62 (by decide);rw[el2]at en;have en:BD (s.extract 2 s.size) 7 62=some (isB r 7 62):=en;show Ab (Ab (gu true (BD (s.extract 2 s.size) 7 62)) _) _=_;rw[Hq,en,Aa,Aa];show Ab (E3 (true&&isB r 7 62)) _=_;cases isB r 7 62<;>rfl
theorem Z7 (s:ByteArray):Ck s=some (isB (toL s) 8 64):=by
 unfold Ck;rw[show BD s 8 64=some (isB (toL s) 8 64)from O1 s 8 64 (by decide)];rfl
theorem FJ {σ:Type}{body:Int→σ→Option σ}{n:Nat}(I:Nat→σ→Prop)(h: ∀(i:Nat) s,i<n→I i s→∃s',body i s=some s'∧I (i+1) s'){s:σ}(h0:I 0 s): ∃t,C8 body n 0 s=some t∧I n t:=by
 have key: ∀(k i:Nat) s,i+k=n→I i s→∃t,C8 body k (i:Int) s=some t∧I n t:=by
  intro k;induction k with
  |zero=>intro i s e hi; exact⟨s,rfl,(show i=n by omega)▸hi⟩
  |succ k ih=>
   intro i s e hi;obtain⟨s',e1,h1⟩:=h i s (by omega) hi;obtain⟨t,e2,h2⟩:=ih (i+1) s' (by omega) h1;refine⟨t,?_,h2⟩;show Ab (body i s) _=_;rw[e1];exact e2
 exact key n 0 s (by omega) h0
theorem JV {α σ:Type}{body:Int→α→σ→Option σ}{xs:List α}(I:Nat→σ→Prop)(h: ∀(i:Nat) x s,xs[i]? =some x→I i s→∃s',body i x s=some s'∧I (i+1) s'){s:σ}(h0:I 0 s): ∃t,Iz body xs 0 s=some t∧I xs.length t:=by
 have key: ∀(ys:List α) (i:Nat) s,xs.drop i=ys→i≤xs.length→I i s→∃t,Iz body ys (i:Int) s=some t∧I xs.length t:=by
  intro ys;induction ys with
  |nil=>intro i s e hl hi; exact⟨s,rfl,(show i=xs.length by have:=List.drop_eq_nil_iff.1 e; omega)▸hi⟩
  |cons y ys ih=>
   intro i s e hl hi;have hx:xs[i]? =some y:=by
    have:=Adp (fun l=>l[0]?) e;simpa using this
   have hlt:=(AcX.1 hx).1;obtain⟨s',e1,h1⟩:=h i y s hx hi;obtain⟨t,e2,h2⟩:=ih (i+1) s' (by have:=Adp List.tail e; simpa using this) (by omega) h1;refine⟨t,?_,h2⟩;show Ab (body i y s) _=_;rw[e1];exact e2
 exact key xs 0 s rfl (AdI _) h0
theorem GL {σ ρ:Type}{body:Int→σ→Option (σ⊕ρ)}{n:Nat}(I:Nat→σ→Prop)(R:ρ→Prop)(h: ∀(i:Nat) s,i<n→I i s→(∃s',body i s=some (.inl s')∧I (i+1) s')∨∃r,body i s=some (.inr r)∧R r){s:σ}(h0:I 0 s):
  (∃t,E6 body n 0 s=some (.inl t)∧I n t)∨∃r,E6 body n 0 s=some (.inr r)∧R r:=by
 have key: ∀(k i:Nat) s,i+k=n→I i s→(∃t,E6 body k (i:Int) s=some (.inl t)∧I n t)∨∃r,E6 body k (i:Int) s=some (.inr r)∧R r:=by
  intro k;induction k with
  |zero=>intro i s e hi; exact .inl ⟨s,rfl,(show i=n by omega)▸hi⟩
  |succ k ih=>
   intro i s e hi;rcases h i s (by omega) hi with ⟨s',e1,h1⟩|⟨r,e1,h1⟩
   ·rcases ih (i+1) s' (by omega) h1 with ⟨t,e2,h2⟩|⟨r,e2,h2⟩
    ·refine .inl ⟨t,?_,h2⟩;show Ab (body i s) _=_;rw[e1];exact e2
    ·refine .inr ⟨r,?_,h2⟩;show Ab (body i s) _=_;rw[e1];exact e2
   ·refine .inr ⟨r,?_,h1⟩;show Ab (body i s) _=_;rw[e1];rfl
 exact key n 0 s (by omega) h0
theorem MI {α σ ρ:Type}{body:Int→α→σ→Option (σ⊕ρ)}{xs:List α}(I:Nat→σ→Prop)(R:ρ→Prop)(h: ∀(i:Nat) x s,xs[i]? =some x→I i s→(∃s',body i x s=some (.inl s')∧I (i+1) s')∨∃r,body i x s=some (.inr r)∧R r){s:σ}(h0:I 0 s):
  (∃t,Lg body xs 0 s=some (.inl t)∧I xs.length t)∨∃r,Lg body xs 0 s=some (.inr r)∧R r:=by
 have key: ∀(ys:List α) (i:Nat) s,xs.drop i=ys→i≤xs.length→I i s→(∃t,Lg body ys (i:Int) s=some (.inl t)∧I xs.length t)∨∃r,Lg body ys (i:Int) s=some (.inr r)∧R r:=by
  intro ys;induction ys with
  |nil=>intro i s e hl hi; exact .inl ⟨s,rfl,(show i=xs.length by have:=List.drop_eq_nil_iff.1 e; omega)▸hi⟩
  |cons y ys ih=>
   intro i s e hl hi;have hx:xs[i]? =some y:=by
    have:=Adp (fun l=>l[0]?) e;simpa using this
   have hlt:=(AcX.1 hx).1;rcases h i y s hx hi with ⟨s',e1,h1⟩|⟨r,e1,h1⟩
   ·rcases ih (i+1) s' (by have:=Adp List.tail e; simpa using this) (by omega) h1 with ⟨t,e2,h2⟩|⟨r,e2,h2⟩
    ·refine .inl ⟨t,?_,h2⟩;show Ab (body i y s) _=_;rw[e1];exact e2
    ·refine .inr ⟨r,?_,h2⟩;show Ab (body i y s) _=_;rw[e1];exact e2
   ·refine .inr ⟨r,?_,h1⟩;show Ab (body i y s) _=_;rw[e1];rfl
 exact key xs 0 s rfl (AdI _) h0
theorem JQ {σ ρ:Type}{step:σ→Option (σ⊕ρ)}(μ:σ→Nat)(I:σ→Prop)(R:ρ→Prop)(h: ∀s,I s→(∃s',step s=some (.inl s')∧I s'∧μ s'<μ s)∨∃r,step s=some (.inr r)∧R r):
  ∀(n:Nat) (s:σ),I s→μ s<n→∃r,iter step n s=some r∧R r
 |0,_,_,hn=>absurd hn (Nat.not_lt_zero _)
 |n+1,s,hs,hn=>by
  rcases h s hs with ⟨s',e1,h1,h2⟩|⟨r,e1,h1⟩
  ·obtain⟨r,e2,h3⟩:=JQ μ I R h n s' h1 (by omega);refine⟨r,?_,h3⟩;show Ab (step s) _=_;rw[e1];exact e2
  ·refine⟨r,?_,h1⟩;show Ab (step s) _=_;rw[e1];rfl
theorem Cp {α:Type}{xs:List α}{i:Nat}{x:α}(h:xs[i]? =some x):idx xs (i:Int)=some x:=by
 unfold idx;rw[AcZ (by omega)];simpa using h
theorem JU {α σ ρ:Type}{body:Int→σ→Option (σ⊕ρ)}(a:List α)(p:α→Bool)(s:σ)(res:Nat→ρ)(h: ∀(i:Nat) x,a[i]? =some x→body i s=some (if p x=true then .inr (res i)else .inl s)):
  E6 body a.length 0 s=some (match a.findIdx? p with|some j=> .inr (res j)|none=> .inl s):=by
 have key: ∀(k i:Nat),i+k=a.length→E6 body k (i:Int) s=some (match (a.drop i).findIdx? p with|some j=> .inr (res (i+j))|none=> .inl s):=by
  intro k;induction k with
  |zero=>intro i e; rw[AdA (by omega)]; rfl
  |succ k ih=>
   intro i e;have hlt:i<a.length:=by omega
   rw[List.drop_eq_getElem_cons hlt,List.findIdx?_cons];show Ab (body i s) _=_;rw[h i a[i] (by simp[hlt])];by_cases hp:p a[i]=true
   ·rw[AcZ hp,AcZ hp]; rfl
   ·rw[Ac1 hp,Ac1 hp];have:=ih (i+1) (by omega);refine Eq.trans this ?_;cases List.findIdx? p (a.drop (i+1))with
    |none=>rfl
    |some j=>simp only[Ade]; rw[show i+1+j=i+(j+1)from by omega]
 have:=key a.length 0 (by omega);rw[List.drop_zero]at this;refine Eq.trans this ?_;cases a.findIdx? p with
 |none=>rfl
 |some j=>simp only[Adv]
abbrev Nds:=List g_api_Node
abbrev Fk:=List ByteArray
def PO (ns:Nds)(k:Int):ByteArray:=((ns[k.toNat]?).map (·.Label)).getD ⟨#[]⟩
def kidN (ns:Nds)(n:Nat)(lab:ByteArray):Option Nat:=((ns[n]?).bind fun x=>x.Kids.find? fun k=>eqS (PO ns k) lab).map Int.toNat
def WN (ns:Nds):Prop:= ∀(n:Nat) (x:g_api_Node),ns[n]? =some x→x.Kids.length≤ns.length∧∀k∈x.Kids,∃j:Nat,k=(j:Int)∧j<ns.length
theorem MF {a b:ByteArray}(h:eqS a b=true):a=b:=by
 have:=I4.1 h;cases a; cases b;simpa[toL]using this
theorem Tu {α:Type}(p:α→Bool): ∀l:List α,l.find? p=(l.findIdx? p).bind fun j=>l[j]?
 | []=>rfl
 |a::l=>by
  rw[List.find?_cons,List.findIdx?_cons];cases h:p a with
  |true=>rfl
  |false=>
   simp only[Bool.false_eq_true,if_false];rw[Tu p l];cases l.findIdx? p with
   |none=>rfl
   |some j=>rfl
theorem WC {ns:Nds}(W:WN ns){n:Nat}(hn:n<ns.length)(lab:ByteArray):DZ ns (n:Int) lab=some (match kidN ns n lab with|some k=>((k:Int),true)|none=>(0,false))∧∀k,kidN ns n lab=some k→k<ns.length:=by
 have hx:ns[n]? =some ns[n]:=Ac4 hn;obtain⟨w1,w2⟩:=W n _ hx;have h1:Bm ns[n].Kids ns lab=some (match ns[n].Kids.findIdx? (fun k=>eqS (PO ns k) lab)with|some j=>((j:Int),ns,lab)|none=>(-1,ns,lab)):=by
  unfold Bm;rw[JU ns[n].Kids (fun k=>eqS (PO ns k) lab) (ns,lab) (fun j=>((j:Int),ns,lab)) (fun i k hk=> ?_),Aa]
  ·cases ns[n].Kids.findIdx? (fun k=>eqS (PO ns k) lab)<;>rfl
  ·obtain⟨j,e,hj⟩:=w2 k (Ac8 hk);subst e;unfold Cu Gt;rw[Cp hk,Aa,Cp (Ac4 hj),Aa,Aa];have e:PO ns (j:Int)=ns[j].Label:=by unfold PO; simp[hj]
   simp only[e];split<;>rfl
 unfold DZ kidN;rw[Cp hx,Aa,h1,Aa,hx,Option.bind_some,Tu];cases hq:ns[n].Kids.findIdx? (fun k=>eqS (PO ns k) lab)with
 |none=>exact⟨rfl,fun k h=>by cases h⟩
 |some j=>
  have hj:=(List.findIdx?_eq_some_iff_getElem.1 hq).1;have hk:ns[n].Kids[j]? =some ns[n].Kids[j]:=Ac4 hj;obtain⟨i,e,hi⟩:=w2 _ (Ac8 hk);simp only[Option.bind_some,hk];refine⟨?_,fun k h=> ?_⟩
  ·show(if decide ((j:Int)<0)=true then _ else _)=_;rw[Ac1 (by simp),Cp hx,Aa,Cp hk,Aa,e];simp
  ·rw[e]at h;have:i=k:=by simpa using h
   omega
def EG (ns:Nds):Nat→Fk→Option Nat
 |n,[]=>some n
 |n,l::ls=>(kidN ns n l).bind fun k=>EG ns k ls
def TN (ns:Nds)(path:Nat→Fk):Prop:=path 0=[]∧∀n k lab,n<ns.length→kidN ns n lab=some k→k<ns.length∧path k=path n++[lab]
theorem E5 {ns:Nds}{path:Nat→Fk}(T:TN ns path): ∀{ls:Fk} {n m:Nat},n<ns.length→EG ns n ls=some m→m<ns.length∧path m=path n++ls
 | [],n,m,hn,h=>by cases h; exact⟨hn,by simp⟩
 |l::ls,n,m,hn,h=>by
  obtain⟨k,h1,h2⟩:=Option.bind_eq_some_iff.1 h;obtain⟨h3,h4⟩:=T.2 n k l hn h1;obtain⟨h5,h6⟩:=E5 T h3 h2;exact⟨h5,by rw[h6,h4]; simp⟩
theorem Lx {ns:Nds}: ∀{ls ms:Fk} {n:Nat},EG ns n (ls++ms)=(EG ns n ls).bind fun k=>EG ns k ms
 | [],ms,n=>rfl
 |l::ls,ms,n=>by
  show(kidN ns n l).bind _=Option.bind ((kidN ns n l).bind _) _;cases kidN ns n l with
  |none=>rfl
  |some k=>exact Lx
def En (ns:Nds)(ls:Fk):Int×Int:=match EG ns 0 ls with
 |some n=>match ns[n]? with|some x=>(x.Here,x.Below)|none=>(-1,-1)
 |none=>(-1,-1)
def UM (ns:Nds)(n:Nat)(lab:ByteArray):Nds×Nat:=match kidN ns n lab with|some k=>(ns,k)|none=>((ns.set n {ns.getD n default with Kids:=(ns.getD n default).Kids++[(ns.length:Int)]})++[⟨lab,-1,-1,[]⟩],ns.length)
theorem b5_ins {ns:Nds}(W:WN ns){n:Nat}(hn:n<ns.length)(hl:ns.length≤100000)(lab:ByteArray):BY lab (ns,(n:Int))=some ((UM ns n lab).1,((UM ns n lab).2:Int)):=by
 have hx:ns[n]? =some ns[n]:=Ac4 hn;obtain⟨w1,w2⟩:=W n _ hx;unfold BY UM;rw[(WC W hn lab).1,Aa];cases hk:kidN ns n lab with
 |some k=>rfl
 |none=>
  show Ab (idx ns (n:Int)) _=_;rw[Cp hx,Aa,Fh 8 (by simp; omega) (by simp; omega),Aa,Fh 56 (by simp; omega) (by simp; omega),Aa];have e:ns.getD n default=ns[n]:=by rw[List.getD_eq_getElem?_getD,hx]; rfl
  rw[e];rfl
theorem NO {α:Type}{p q:α→Bool}: ∀{l:List α},(∀a∈l,p a=q a)→l.find? p=l.find? q
 | [],_=>rfl
 |a::l,h=>by
  rw[List.find?_cons,List.find?_cons,h a (Adb ..),NO fun b hb=>h b (Adh _ hb)]
theorem ES (a:ByteArray):eqS a a=true:=I4.2 rfl
def Q7 (ns:Nds)(n:Nat)(x:g_api_Node)(lab:ByteArray):Nds:=(ns.set n {x with Kids:=x.Kids++[(ns.length:Int)]})++[⟨lab,-1,-1,[]⟩]
theorem KA (ns:Nds)(n:Nat)(x:g_api_Node)(lab:ByteArray):(Q7 ns n x lab).length=ns.length+1:=by simp[Q7]
theorem TW (ns:Nds){n j:Nat}(x:g_api_Node)(lab:ByteArray)(hj:j<ns.length):(Q7 ns n x lab)[j]? =if n=j then some {x with Kids:=x.Kids++[(ns.length:Int)]}else ns[j]? :=by
 unfold Q7;rw[AdU (by simpa using hj),List.getElem?_set];by_cases h:n=j
 ·rw[AcZ h,AcZ h,AcZ (by omega)]
 ·rw[Ac1 h,Ac1 h]
theorem PK (ns:Nds)(n:Nat)(x:g_api_Node)(lab:ByteArray):(Q7 ns n x lab)[ns.length]? =some ⟨lab,-1,-1,[]⟩:=by
 unfold Q7;rw[AdF (by simp)];simp
theorem AcK {ns:Nds}{n:Nat}{x:g_api_Node}(hx:ns[n]? =some x)(lab:ByteArray){k:Nat}(hk:k<ns.length):PO (Q7 ns n x lab) (k:Int)=PO ns (k:Int):=by
 unfold PO;rw[AdO,TW ns x lab hk];by_cases h:n=k
 ·subst h; rw[AcZ rfl,hx]; rfl
 ·rw[Ac1 h]
theorem PL {ns:Nds}(W:WN ns){n:Nat}{x:g_api_Node}(hx:ns[n]? =some x)(lab:ByteArray){j:Nat}(hj:j<ns.length)(l:ByteArray):
  kidN (Q7 ns n x lab) j l=(kidN ns j l).or (if n=j∧eqS lab l=true then some ns.length else none):=by
 have hc: ∀(y:g_api_Node),ns[j]? =some y→y.Kids.find? (fun k=>eqS (PO (Q7 ns n x lab) k) l)=y.Kids.find? (fun k=>eqS (PO ns k) l):=fun y hy=>NO fun k hk=>by
  obtain⟨i,e,hi⟩:=(W j y hy).2 k hk;rw[e,AcK hx lab hi]
 unfold kidN;rw[TW ns x lab hj];by_cases h:n=j
 ·subst h;rw[AcZ rfl,hx,Option.bind_some,Option.bind_some];show((x.Kids++[(ns.length:Int)]).find? _).map _=_;rw[List.find?_append,hc x hx];have e:PO (Q7 ns n x lab) (ns.length:Int)=lab:=by
   unfold PO;rw[AdO,PK];rfl
  cases x.Kids.find? (fun k=>eqS (PO ns k) l)with
  |some k=>rfl
  |none=>
   rw[List.find?_cons,e];cases eqS lab l<;>simp
 ·rw[Ac1 h];have e2:(if n=j∧eqS lab l=true then some ns.length else none)=none:=Ac1 fun q=>h q.1;rw[e2,Option.or_none];obtain⟨y,hy⟩: ∃y,ns[j]? =some y:=⟨_,Ac4 hj⟩;rw[hy,Option.bind_some,Option.bind_some,hc y hy]
theorem TV (ns:Nds)(n:Nat)(x:g_api_Node)(lab l:ByteArray):kidN (Q7 ns n x lab) ns.length l=none:=by
 unfold kidN;rw[PK];rfl
theorem add_W {ns:Nds}(W:WN ns){n:Nat}{x:g_api_Node}(hx:ns[n]? =some x)(lab:ByteArray):WN (Q7 ns n x lab):=by
 intro j y hy;have hj:=(AcX.1 hy).1;rw[KA]at hj⊢;by_cases h:j=ns.length
 ·subst h;rw[PK]at hy;cases hy;exact⟨AdI _,fun k hk=>by cases hk⟩
 ·have hj':j<ns.length:=by omega
  rw[TW ns x lab hj']at hy;split at hy
  ·cases hy;obtain⟨w1,w2⟩:=W n x hx;refine⟨by simp; omega,fun k hk=> ?_⟩;rcases Adc.1 hk with hk|hk
   ·obtain⟨i,e,hi⟩:=w2 k hk;exact⟨i,e,by omega⟩
   ·simp at hk;exact⟨ns.length,hk,by omega⟩
  ·obtain⟨w1,w2⟩:=W j y hy;exact⟨by omega,fun k hk=>by
    obtain⟨i,e,hi⟩:=w2 k hk;exact⟨i,e,by omega⟩⟩
structure Ext (ns ns':Nds):Prop where
 len:ns.length≤ns'.length
 le1:ns'.length≤ns.length+1
 W:WN ns'
 up: ∀j l k,kidN ns j l=some k→kidN ns' j l=some k
 dn: ∀j l k,j<ns.length→kidN ns' j l=some k→kidN ns j l=some k∨k=ns.length∧ns'.length=ns.length+1
 nw:ns'.length=ns.length+1→∃x:g_api_Node,ns'[ns.length]? =some x∧x.Here= -1∧x.Below= -1∧∀l,kidN ns' ns.length l=none
 at_: ∀(j:Nat) (x:g_api_Node),ns[j]? =some x→∃y:g_api_Node,ns'[j]? =some y∧y.Here=x.Here∧y.Below=x.Below
theorem kid_lt {ns:Nds}{j:Nat}{l:ByteArray}{k:Nat}(h:kidN ns j l=some k):j<ns.length:=by
 unfold kidN at h;cases hx:ns[j]? with
 |none=>rw[hx]at h; cases h
 |some x=>exact(AcX.1 hx).1
theorem AbS {ns:Nds}{path:Nat→Fk}(W:WN ns)(T:TN ns path){n:Nat}(hn:n<ns.length)(lab:ByteArray):
  Ext ns (UM ns n lab).1∧(UM ns n lab).2<(UM ns n lab).1.length∧kidN (UM ns n lab).1 n lab=some (UM ns n lab).2∧∃path',TN (UM ns n lab).1 path':=by
 unfold UM;cases hk:kidN ns n lab with
 |some k=>exact⟨⟨AcV _,AdE _,W,fun _ _ _ h=>h,fun _ _ _ _ h=> .inl h,fun h=>(by simp at h),fun j x h=>⟨x,h,rfl,rfl⟩⟩,(WC W hn lab).2 k hk,hk,path,T⟩
 |none=>
  obtain⟨x,hx⟩: ∃x,ns[n]? =some x:=⟨_,Ac4 hn⟩;have e:ns.getD n default=x:=by rw[List.getD_eq_getElem?_getD,hx]; rfl
  rw[e];show Ext ns (Q7 ns n x lab)∧ns.length<(Q7 ns n x lab).length∧kidN (Q7 ns n x lab) n lab=some ns.length∧∃path',TN (Q7 ns n x lab) path';have hself:kidN (Q7 ns n x lab) n lab=some ns.length:=by
   rw[PL W hx lab hn,hk,AcZ ⟨rfl,ES lab⟩]; rfl
  refine⟨⟨by rw[KA]; omega,by rw[KA]; omega,add_W W hx lab,fun j l k h=> ?_,fun j l k hj h=> ?_,fun _=>⟨_,PK ns n x lab,rfl,rfl,TV ns n x lab⟩,fun j y h=> ?_⟩,by rw[KA]; omega,hself,fun j=>if j=ns.length then path n++[lab]else path j,?_,?_⟩
  ·rw[PL W hx lab (kid_lt h),h]; rfl
  ·rw[PL W hx lab hj]at h;cases hq:kidN ns j l with
   |some k'=>rw[hq]at h; exact .inl h
   |none=>
    rw[hq,Option.none_or]at h;split at h
    ·cases h; exact .inr ⟨rfl,KA ..⟩
    ·cases h
  ·have hj:=(AcX.1 h).1;rw[TW ns x lab hj];split
   ·rename_i q; subst q;rw[hx]at h; cases h;exact⟨_,rfl,rfl,rfl⟩
   ·exact⟨y,h,rfl,rfl⟩
  ·show(if 0=ns.length then _ else path 0)=[];rw[Ac1 (by omega)];exact T.1
  ·intro j k l hj h;rw[KA]at hj⊢;by_cases q:j=ns.length
   ·subst q; rw[TV]at h; cases h
   ·have hj':j<ns.length:=by omega
    rw[PL W hx lab hj']at h;show _∧(if k=ns.length then path n++[lab]else path k)=(if j=ns.length then path n++[lab]else path j)++[l];rw[Ac1 q];cases hq:kidN ns j l with
    |some k'=>
     rw[hq]at h; cases h;obtain⟨t1,t2⟩:=T.2 j k l hj' hq;rw[Ac1 (by omega)];exact⟨by omega,t2⟩
    |none=>
     rw[hq,Option.none_or]at h;split at h
     ·rename_i q2;cases h;rw[AcZ rfl,←q2.1,←MF q2.2];exact⟨by omega,rfl⟩
     ·cases h
theorem Pv {ns ns':Nds}(E:Ext ns ns'): ∀{ls:Fk} {j m:Nat},EG ns j ls=some m→EG ns' j ls=some m
 | [],_,_,h=>h
 |l::ls,j,m,h=>by
  obtain⟨k,h1,h2⟩:=Option.bind_eq_some_iff.1 h;show(kidN ns' j l).bind _=_;rw[E.up j l k h1];exact Pv E h2
theorem Aak {ns ns':Nds}{path:Nat→Fk}(T:TN ns path)(E:Ext ns ns'): ∀{ls:Fk} {j m:Nat},j<ns.length→EG ns' j ls=some m→EG ns j ls=some m∨m=ns.length∧ns'.length=ns.length+1
 | [],_,_,_,h=> .inl h
 |l::ls,j,m,hj,h=>by
  obtain⟨k,h1,h2⟩:=Option.bind_eq_some_iff.1 h;rcases E.dn j l k hj h1 with h3|⟨rfl,h4⟩
  ·rcases Aak T E (T.2 j k l hj h3).1 h2 with h5|h5
   ·refine .inl ?_;show(kidN ns j l).bind _=_;rw[h3]; exact h5
   ·exact .inr h5
  ·cases ls with
   |nil=>cases h2; exact .inr ⟨rfl,h4⟩
   |cons l2 ls=>
    obtain⟨x,_,_,_,h5⟩:=E.nw h4;obtain⟨k2,h6,_⟩:=Option.bind_eq_some_iff.1 h2;rw[h5]at h6; cases h6
theorem Acn {ns ns':Nds}{path:Nat→Fk}(T:TN ns path)(E:Ext ns ns')(h0:0<ns.length)(ls:Fk):En ns' ls=En ns ls:=by
 unfold En;cases h:EG ns 0 ls with
 |some m=>
  rw[Pv E h];have hm:=(E5 T h0 h).1;obtain⟨y,hy,e1,e2⟩:=E.at_ m _ (Ac4 hm);simp only[hy,Ac4 hm,e1,e2]
 |none=>
  cases h2:EG ns' 0 ls with
  |none=>rfl
  |some m=>
   rcases Aak T E h0 h2 with h3|⟨rfl,h4⟩
   ·rw[h]at h3; cases h3
   ·obtain⟨x,hx,e1,e2,_⟩:=E.nw h4;show(match ns'[ns.length]? with|some x=>(x.Here,x.Below)|none=>(-1,-1))=_;rw[hx];show(x.Here,x.Below)=_;rw[e1,e2]
def Us {σ:Type}(p0:σ→ByteArray→Option (Bool×σ)):Fk→σ→Option σ
 | [],s=>some s
 |l::ls,s=>Ab (p0 s l) fun r=>if r.1=true then Us p0 ls r.2 else some r.2
def cbC:(Nds×Int)→ByteArray→Option (Bool×(Nds×Int)):=fun s b0=>Ab (BY b0 s) fun y=>some (true,y)
theorem WI: ∀(ls:Fk) {ns:Nds} {path:Nat→Fk} {n:Nat} {P:Fk},WN ns→TN ns path→0<ns.length→EG ns 0 P=some n→ns.length+ls.length≤100000→
  ∃(ns':Nds) (n':Nat) (path':Nat→Fk),Us cbC ls (ns,(n:Int))=some (ns',(n':Int))∧WN ns'∧TN ns' path'∧ns.length≤ns'.length∧ns'.length≤ns.length+ls.length∧EG ns' 0 (P++ls)=some n'∧∀L,En ns' L=En ns L
 | [],ns,path,n,P,W,T,h0,hl,_=>⟨ns,n,path,rfl,W,T,AcV _,AcV _,by rw[Adn]; exact hl,fun _=>rfl⟩
 |l::ls,ns,path,n,P,W,T,h0,hl,hb=>by
  have hn:=(E5 T h0 hl).1;obtain⟨E,h1,h2,path1,T1⟩:=AbS W T hn l;have hl1:EG (UM ns n l).1 0 (P++[l])=some (UM ns n l).2:=by
   rw[Lx,Pv E hl,Option.bind_some];show(kidN _ n l).bind _=_;rw[h2]; rfl
  have hlen:=E.le1;have hlen2:=E.len;rw[AcY]at hb;obtain⟨ns',n',path',q1,q2,q3,q4,q5,q6,q7⟩:=WI ls E.W T1 (by omega) hl1 (by omega);refine⟨ns',n',path',?_,q2,q3,by omega,by rw[AcY]; omega,by rw[AcR]at q6; exact q6,fun L=>(q7 L).trans (Acn T E h0 L)⟩;show Ab (cbC (ns,(n:Int)) l) _=_;unfold cbC;rw[b5_ins W hn (by omega) l,Aa,Aa];exact q1
theorem Vm {ns:Nds}{n:Nat}{x y:g_api_Node}(hx:ns[n]? =some x)(h1:y.Label=x.Label)(h2:y.Kids=x.Kids)(j:Nat)(l:ByteArray):kidN (ns.set n y) j l=kidN ns j l:=by
 have hn:=(AcX.1 hx).1;have hl: ∀k:Int,PO (ns.set n y) k=PO ns k:=fun k=>by
  unfold PO;rw[List.getElem?_set];by_cases h:n=k.toNat
  ·rw[AcZ h,AcZ (by omega),←h,hx];show y.Label=x.Label;exact h1
  ·rw[Ac1 h]
 unfold kidN;simp only[hl];rw[List.getElem?_set];by_cases h:n=j
 ·subst h;rw[AcZ rfl,AcZ hn,hx];simp only[Option.bind_some,h2]
 ·rw[Ac1 h]
theorem SC {ns:Nds}{n:Nat}{x y:g_api_Node}(hx:ns[n]? =some x)(h1:y.Label=x.Label)(h2:y.Kids=x.Kids): ∀(ls:Fk) (j:Nat),EG (ns.set n y) j ls=EG ns j ls
 | [],j=>rfl
 |l::ls,j=>by
  show(kidN (ns.set n y) j l).bind _=(kidN ns j l).bind _;rw[Vm hx h1 h2];exact Adp _ (funext fun k=>SC hx h1 h2 ls k)
theorem Vl {ns:Nds}{path:Nat→Fk}(W:WN ns)(T:TN ns path)(h0:0<ns.length){L:Fk}{n:Nat}(hl:EG ns 0 L=some n){x y:g_api_Node}(hx:ns[n]? =some x)(h1:y.Label=x.Label)(h2:y.Kids=x.Kids):
  WN (ns.set n y)∧TN (ns.set n y) path∧∀L',En (ns.set n y) L'=if L'=L then(y.Here,y.Below)else En ns L':=by
 have hn:=(AcX.1 hx).1;refine⟨fun j z hz=> ?_,⟨T.1,fun j k l hj h=> ?_⟩,fun L'=> ?_⟩
 ·rw[List.getElem?_set]at hz;rw[AdK];by_cases h:n=j
  ·subst h;rw[AcZ rfl,AcZ hn]at hz;cases hz;rw[h2];exact W n x hx
  ·rw[Ac1 h]at hz;exact W j z hz
 ·rw[Vm hx h1 h2]at h;rw[AdK]at hj⊢;exact T.2 j k l hj h
 ·unfold En;rw[SC hx h1 h2];by_cases e:L'=L
  ·subst e;rw[AcZ rfl,hl];simp[hn]
  ·rw[Ac1 e];cases h:EG ns 0 L' with
   |none=>rfl
   |some m=>
    have hne:n≠m:=fun q=>by
     subst q;have a:=(E5 T h0 h).2;have b:=(E5 T h0 hl).2;rw[a]at b;simp only[T.1,Ady]at b;exact e b
    simp only[List.getElem?_set,Ac1 hne]
def Bp (l:List UInt8):ByteArray:=⟨l.toArray⟩
theorem XV (l:List UInt8):toL (Bp l)=l:=rfl
theorem Ct (s:ByteArray):Bp (toL s)=s:=by cases s; simp[toL,Bp]
def A5 (s:ByteArray):Fk:=(Ar (toL s)).map Bp
theorem XZ {l:List UInt8}{x:List UInt8}(h:Ar l=[x]):l=x:=by
 rcases GJ l 46 with ⟨h1,h2⟩|⟨p,r,h1,h2,h3⟩
 ·rw[HJ l h2]at h; cases h; rfl
 ·rw[h1,EX p r h2]at h;have:=Fq r;simp at h;exact absurd h.2 this
theorem Hi {l:List UInt8}{n k:Nat}(h:isB l n k=true):l.length≤k∧(Ar l).length≤n∧TU l=true:=by
 unfold isB at h;simp only[AcQ,Adt]at h;exact⟨h.1.1,h.1.2,h.2⟩
theorem AaZ (n:Nat){s:ByteArray}(hs:s.size≤64){k:Nat}{arr:Fk}(hk:k<n-1)(ha:arr.length=n)(hn:n≤100)(hd:2≤(Ar (toL s)).length):
  ∃p r,Ar (toL s)=p::Ar r∧r.length<(toL s).length∧B4 ⟨#[46]⟩ 0 (n:Int) (s,(k:Int),arr)=some (.inl (Bp r,((k+1:Nat):Int),arr.set k (Bp p))):=by
 have hz:(toL s).length=s.size:=AQ s;rcases GJ (toL s) 46 with ⟨h1,h2⟩|⟨p,r,h1,h2,h3⟩
 ·rw[HJ _ h2]at hd; simp at hd
 ·have hl:s.size=p.length+1+r.length:=by rw[←hz,h1,Ac5,AcY]; omega
  refine⟨p,r,by rw[h1,EX p r h2],by omega,?_⟩;unfold B4;dsimp only;rw[CK (by omega) (by omega),Adm (show(k:Int)<(n:Int)-1 by omega),AcZ rfl,Pp s (by omega),Aa,show UL s 46=(p.length:Int)from h3,Ac1 (by simp),CK (by omega) (by omega),
   DC (by omega) (by omega) (by omega),Aa,Cp (Ac4 (by omega:k<arr.length)),Aa,B8,show((⟨#[46]⟩:ByteArray).size:Int)=1 from rfl,CK (by omega) (by omega),
   DC (by omega) (by omega) (by omega),Aa,CK (by omega) (by omega)]
  have e1:s.extract (0:Int).toNat ((p.length:Int)+0).toNat=Bp p:=by
   rw[←Ct (s.extract _ _)];congr 1;show(s.extract _ _).data.toList=p;rw[EP];show((toL s).take _).drop _=_;rw[h1];simp
  have e2:s.extract ((p.length:Int)+1).toNat (s.size:Int).toNat=Bp r:=by
   rw[←Ct (s.extract _ _)];congr 1;show(s.extract _ _).data.toList=r;rw[EP];show((toL s).take _).drop _=_;have:(s.size:Int).toNat=(toL s).length:=by omega
   rw[this,List.take_length,h1,show((p.length:Int)+1).toNat=p.length+1 by omega,←AdV,AdN];rfl
  rw[e1,e2];rfl
def SpI (P:List (List UInt8))(k:Nat)(t:ByteArray×Int×Fk):Prop:=t.2.1=(k:Int)∧k≤P.length-1∧t.1.size≤64∧Ar (toL t.1)=P.drop k∧t.2.2.length=P.length∧t.2.2.take k=(P.take k).map Bp
theorem Wz {s:ByteArray}(h:isB (toL s) 8 64=true):EO s=some (A5 s):=by
 obtain⟨h1,h2,h3⟩:=Hi h;have hz:(toL s).length=s.size:=AQ s;have hpos:0<(Ar (toL s)).length:=List.length_pos_iff.2 (Fq _);have hc:(Ar (toL s)).length=(toL s).count 46+1:=II _;have hcl:(toL s).count 46≤(toL s).length:=List.count_le_length;unfold EO;rw[Z7,h,Aa];unfold FV Ef;have ec:Cl s (⟨#[46]⟩:ByteArray)=some ((s.data.toList.count 46:Nat):Int):=rfl;have ec':((s.data.toList.count 46:Nat):Int)+1=((Ar (toL s)).length:Int):=by rw[hc]; rfl
 have hn:Tc (w64 (((s.data.toList.count 46:Nat):Int)+1)) (w64 ((s.size:Int)+1))=((Ar (toL s)).length:Int):=by
  rw[ec',CK (by omega) (by omega),CK (by omega) (by omega)];unfold Tc;rw[Ac1 (by omega)]
 have hmk:mkS 16 (ByteArray.empty:ByteArray) ((Ar (toL s)).length:Int)=some (List.replicate (Ar (toL s)).length ByteArray.empty):=by
  unfold mkS;rw[AcZ ⟨by omega,by omega,by omega⟩];rfl
 obtain⟨t,ht,hk,hk1,hk2,hk3,hk4,hk5⟩:=JQ (step:=B4 ⟨#[46]⟩ 0 ((Ar (toL s)).length:Int)) (fun t=>(Ar (toL s)).length-t.2.1.toNat) (fun t=> ∃k,SpI (Ar (toL s)) k t) (SpI (Ar (toL s)) ((Ar (toL s)).length-1))
  (fun t ⟨k,q1,q2,q3,q4,q5,q6⟩=>by
   obtain⟨s1,i,arr⟩:=t;simp only at q1 q3 q4 q5 q6;subst q1;by_cases hlt:k<(Ar (toL s)).length-1
   ·left;obtain⟨p,r,e1,e2,e3⟩:=AaZ (Ar (toL s)).length q3 hlt q5 (by omega) (by rw[q4,Adz]; omega);have hs1:(toL s1).length=s1.size:=AQ s1;have hr:(Bp r).size=r.length:=by rw[←AQ]; rfl
    have hd:(Ar (toL s)).drop k=p::Ar r:=by rw[←q4]; exact e1
    have hp:(Ar (toL s))[k]? =some p:=by
     have:=Adp (fun l=>l[0]?) hd;simpa using this
    refine⟨_,e3,⟨k+1,rfl,by omega,by show(Bp r).size≤64; omega,?_,by simpa using q5,?_⟩,?_⟩
    ·show Ar r=_;have:=Adp List.tail hd;simpa using this.symm
    ·show(arr.set k (Bp p)).take (k+1)=_;rw[List.take_add_one,List.take_set,List.take_add_one,hp,Adj,←q6];rw[List.set_eq_of_length_le (by rw[Ads]; omega),List.getElem?_set,AcZ rfl,AcZ (by omega)];rfl
    ·show(Ar (toL s)).length-((k+1:Nat):Int).toNat<(Ar (toL s)).length-(k:Int).toNat;omega
   ·right;have hk:k=(Ar (toL s)).length-1:=by omega
    subst hk;refine⟨(s1,(((Ar (toL s)).length-1:Nat):Int),arr),?_,rfl,AcV _,q3,q4,q5,q6⟩;unfold B4;dsimp only;rw[CK (by omega) (by omega),Ac1 (by simp; omega)])
  ET (s,0,List.replicate (Ar (toL s)).length ByteArray.empty) ⟨0,rfl,AdI _,by show s.size≤64; omega,rfl,by simp,by simp⟩ (by show(Ar (toL s)).length-0<ET; have:=DO; omega)
 obtain⟨s1,i,arr⟩:=t;simp only at hk hk2 hk3 hk4 hk5;subst hk;have hlast:(Ar (toL s)).drop ((Ar (toL s)).length-1)=[(Ar (toL s))[(Ar (toL s)).length-1]]:=by
  rw[List.drop_eq_getElem_cons (by omega)];rw[AdA (by omega)]
 rw[hlast]at hk3;have hs1:=XZ hk3;rw[Ac1 (show¬((!true)=true) by decide),Ac1 (show¬(((-1:Int)==0)=true) by decide),Ac1 (show¬(eqS (⟨#[46]⟩:ByteArray) ⟨#[]⟩=true) by decide),AcZ (show decide ((-1:Int)<0)=true from rfl),ec,Aa,Aa,B8,hn,hmk,Aa,ht];simp only[Aa];rw[Cp (Ac4 (by omega:(Ar (toL s)).length-1<arr.length)),Aa,B8,CK (by omega) (by omega)];rw[AcZ ⟨by omega,by rw[AdK]; omega⟩];simp only[Aa,AcT];unfold A5;apply List.ext_getElem?;intro j;rw[List.getElem?_take,Ac9,AdO,List.getElem?_set];by_cases hj:j<(Ar (toL s)).length
 ·rw[AcZ (by omega)];by_cases hj2:(Ar (toL s)).length-1=j
  ·rw[AcZ hj2,AcZ (by omega),←hj2,Ac4 (by omega),Ade,←hs1,Ct]
  ·rw[Ac1 hj2];have:=Adp (fun l=>l[j]?) hk5;simp only[List.getElem?_take,Ac9,AcZ (show j<(Ar (toL s)).length-1 by omega)]at this;exact this
 ·rw[Ac1 (by omega),List.getElem?_eq_none (by omega)];rfl
def cbB {σ:Type}(p0:σ→ByteArray→Option (Bool×σ)):σ×Nat→(Int×ByteArray)→Option (Bool×(σ×Nat)):=fun(s:(σ)×Nat) (b0:Int×ByteArray)=>if s.2=0 then Ab (Ca p0 b0 s) fun y=>some (y.2==0,y)else none
theorem Q3 {σ:Type}(p0:σ→ByteArray→Option (Bool×σ))(P:Fk)(hP:P.length≤1000): ∀(k fuel:Nat) (s t:σ),k≤P.length→k<fuel→Us p0 (P.take k).reverse s=some t→
  ∃fl,iter (An (cbB p0) P) fuel ((k:Int)-1,(s,0))=some (.inl (t,fl))∨∃q,iter (An (cbB p0) P) fuel ((k:Int)-1,(s,0))=some (.inr (q,(t,fl)))
 |0,fuel+1,s,t,_,_,h=>by
  cases h;exact⟨0,.inl rfl⟩
 |k+1,fuel+1,s,t,hk,hf,h=>by
  have hx:P[k]? =some P[k]:=Ac4 (by omega);rw[List.take_add_one,hx]at h;simp only[Option.toList_some,List.reverse_append,List.reverse_cons,List.reverse_nil,Ady,List.singleton_append]at h;obtain⟨r,h1,h2⟩:=Ad h;have hstep:An (cbB p0) P (((k+1:Nat):Int)-1,(s,0))=some (if r.1=true then .inl ((k:Int)-1,(r.2,0))else .inr (.inr (P,(r.2,1)))):=by
   unfold An;have e:((k+1:Nat):Int)-1=(k:Int):=by omega
   dsimp only;rw[e,AcZ (by simp),Cp hx,Aa];show Ab (Ab (Ca p0 ((k:Int),P[k]) (s,0)) _) _=_;unfold Ca;dsimp only;rw[h1,Aa,CK (by omega) (by omega)];cases hr:r.1<;>simp
  cases hr:r.1 with
  |true=>
   rw[hr,AcZ rfl]at h2 hstep;obtain⟨fl,h3⟩:=Q3 p0 P hP k fuel r.2 t (by omega) (by omega) h2;refine⟨fl,h3.imp (fun q=> ?_) fun⟨z,q⟩=>⟨z,?_⟩⟩
   ·show Ab (An (cbB p0) P _) _=_;rw[hstep]; exact q
   ·show Ab (An (cbB p0) P _) _=_;rw[hstep]; exact q
  |false=>
   rw[hr,Ac1 (by decide)]at h2 hstep;cases h2;refine⟨1,.inr ⟨P,?_⟩⟩;show Ab (An (cbB p0) P _) _=_;rw[hstep]; rfl
theorem Xu {σ:Type}{p0:σ→ByteArray→Option (Bool×σ)}{k0:ByteArray}(h:isB (toL k0) 8 64=true){s0 t:σ}(hf:Us p0 (A5 k0).reverse s0=some t):B6 p0 k0 s0=some (k0,t):=by
 obtain⟨h1,h2,h3⟩:=Hi h;have hlen:(A5 k0).length=(Ar (toL k0)).length:=by unfold A5; simp
 obtain⟨fl,h4⟩:=Q3 p0 (A5 k0) (by omega) (A5 k0).length ET s0 t (AcV _) (by have:=DO; omega) (by rw[List.take_length]; exact hf);unfold B6;rw[Wz h,Aa];show Ab (A4 (cbB p0) (A5 k0) (s0,0)) _=_;unfold A4;rw[B8,CK (by omega) (by omega)];rcases h4 with h4|⟨q,h4⟩
 ·rw[h4,Aa];show(if fl=0 then some (k0,t)else some (k0,t))=_;split<;>rfl
 ·rw[h4,Aa];show(if fl=0 then some (k0,t)else some (k0,t))=_;split<;>rfl
def patB (p:ByteArray):Bool:=isB (toL p) 8 64||Iv (toL p)
def ofP (p:ByteArray):ByteArray×Bool:=if Iv (toL p)=true then(Bp ((toL p).drop 2),true)else(p,false)
theorem Kq (r:List UInt8):isB (42::46::r) 8 64=false:=by
 cases h:isB (42::46::r) 8 64 with
 |false=>rfl
 |true=>
  have h3:=(Hi h).2.2;have e:Ar (42::46::r)=[42]::Ar r:=EX [42] r (by decide);unfold TU at h3;rw[e,AdD]at h3;have:Mx [42]=false:=by decide
  rw[this]at h3;cases h3
theorem isB_up {r:List UInt8}(h:isB r 7 62=true):isB r 8 64=true:=by
 obtain⟨h1,h2,h3⟩:=Hi h;unfold isB;rw[h3,Adm (show r.length≤64 by omega),Adm (show(Ar r).length≤8 by omega)];rfl
theorem Gf {l:List UInt8}(h:Iv l=true): ∃r,l=42::46::r∧isB r 7 62=true:=by
 match l,h with
 |a::b::r,h=>
  unfold Iv at h;simp only[AcQ,beq_iff_eq]at h;obtain⟨⟨rfl,rfl⟩,h3⟩:=h;exact⟨r,rfl,h3⟩
theorem ofP_is {p:ByteArray}(h:patB p=true):isB (toL (ofP p).1) 8 64=true:=by
 unfold patB at h;unfold ofP;cases hs:Iv (toL p)with
 |true=>
  obtain⟨r,e,h2⟩:=Gf hs;rw[AcZ rfl,e];exact isB_up h2
 |false=>
  rw[hs,Bool.or_false]at h;rw[Ac1 (by decide)];exact h
theorem Acv {p:ByteArray}(h:patB p=true):BU p (⟨#[42,46]⟩:ByteArray)=some (ofP p):=by
 have hz:(toL p).length=p.size:=AQ p;unfold BU Bb Ba;have e2:(((⟨#[42,46]⟩:ByteArray).size:Nat):Int)=2:=rfl;rw[e2];have hsz:(toL p).length≤64:=by
  unfold patB at h;rcases Bool.or_eq_true_iff.1 h with h|h
  ·exact(Hi h).1
  ·obtain⟨r,e,h2⟩:=Gf h;have:=(Hi h2).1;rw[e,AcY,AcY]; omega
 cases hs:Iv (toL p)with
 |true=>
  obtain⟨r,e,h2⟩:=Gf hs;rw[e,AcY,AcY]at hz;have ec:ML p 0 2=some (p.extract 0 2):=DC (by omega) (by omega) (by omega);have ee:eqS (p.extract 0 2) (⟨#[42,46]⟩:ByteArray)=true:=by
   have el:toL (p.extract 0 2)=[42,46]:=by
    show(p.extract 0 2).data.toList=_;rw[EP];show((toL p).take 2).drop 0=_;rw[e]; rfl
   rw[←Ct (p.extract 0 2),el];rfl
  have ec2:ML p 2 (p.size:Int)=some (p.extract 2 p.size):=by
   rw[DC (by omega) (by omega) (by omega)]; rfl
  have el2:p.extract 2 p.size=Bp r:=by
   rw[←Ct (p.extract _ _)];congr 1;show(p.extract _ _).data.toList=r;rw[EP];show((toL p).take p.size).drop 2=_;rw[AdG (by rw[e,AcY,AcY]; omega),e]; rfl
  rw[Adm (show(p.size:Int)≥2 from by omega),Hq,ec,Aa,B8,ee,Aa,Ac1 (by decide),ec2,Aa,el2];unfold ofP;rw[hs,AcZ rfl,e];rfl
 |false=>
  have he:ofP p=(p,false):=by unfold ofP; rw[hs,Ac1 (by decide)]
  rw[he];by_cases hp:(p.size:Int)≥2
  ·have ec:ML p 0 2=some (p.extract 0 2):=DC (by omega) (by omega) (by omega);have ee:eqS (p.extract 0 2) (⟨#[42,46]⟩:ByteArray)=false:=by
    cases q:eqS (p.extract 0 2) (⟨#[42,46]⟩:ByteArray)with
    |false=>rfl
    |true=>
     have this:=Adp toL (I4.1 q);have e0:toL (p.extract 0 2)=((toL p).take 2).drop 0:=EP p 0 2;rw[e0]at this;have this:((toL p).take 2).drop 0=[42,46]:=this;unfold patB at h;rw[hs,Bool.or_false]at h;match hl:toL p with
     | []=>rw[hl]at this; cases this
     | [a]=>rw[hl]at this; simp at this
     |a::b::r=>
      rw[hl]at this;simp at this;obtain⟨rfl,rfl⟩:=this;rw[hl,Kq]at h; cases h
   rw[Adm hp,Hq,ec,Aa,B8,ee,Aa];rfl
  ·rw[AdB hp,YN];rfl
def Um:List (List UInt8)→List UInt8
 | []=> []
 | [x]=>x
 |x::y::r=>x++46::Um (y::r)
theorem I1: ∀l:List UInt8,Um (Ar l)=l
 | []=>rfl
 |c::l=>by
  have ih:=I1 l;rw[IJ];cases hq:Ar l with
  |nil=>exact absurd hq (Fq l)
  |cons h t=>
   rw[hq]at ih;split
   ·rename_i q; subst q;show []++46::Um (h::t)=_;rw[ih]; rfl
   ·cases t with
    |nil=>show c::h=_; rw[show h=l from ih]
    |cons y r=>
     show(c::h)++46::Um (y::r)=_;have ih:h++46::Um (y::r)=l:=ih;rw[AdC,ih]
theorem Sy {a b:List UInt8}(h:Bp a=Bp b):a=b:=by
 have:=Adp toL h;exact this
theorem Wt {α β:Type}{f:α→β}(hf: ∀a b,f a=f b→a=b): ∀{a b:List α},a.map f=b.map f→a=b
 | [],[],_=>rfl
 | [],_::_,h=>by cases h
 |_::_,[],h=>by cases h
 |a::l,b::r,h=>by
  simp only[Adg,List.cons.injEq]at h;rw[hf a b h.1,Wt hf h.2]
theorem Tl {a b:ByteArray}(h:A5 a=A5 b):a=b:=by
 have:=Wt (fun a b=>Sy) h;have:=Adp Um this;rw[I1,I1]at this;rw[←Ct a,this,Ct]
def Nc (p:ByteArray):Fk×Bool:=((A5 (ofP p).1).reverse,(ofP p).2)
theorem WD {p q:ByteArray}(h:Nc p=Nc q):p=q:=by
 unfold Nc at h;simp only[AcP,List.reverse_inj]at h;obtain⟨h1,h2⟩:=h;have h1:=Tl h1;unfold ofP at h1 h2;cases hp:Iv (toL p)<;>cases hq:Iv (toL q)<;>rw[hp,hq]at h1 h2<;>simp at h1 h2
 ·exact h1
 ·obtain⟨r,e,_⟩:=Gf hp;obtain⟨r',e',_⟩:=Gf hq;have h1:=Sy h1;rw[e,e']at h1;simp at h1;rw[←Ct p,←Ct q,e,e',h1]
theorem b3_val {ns:Nds}{path:Nat→Fk}(W:WN ns)(T:TN ns path)(h0:0<ns.length)(hl:ns.length≤90000){p:ByteArray}(hp:patB p=true)(i k:Int):
  ∃(ns':Nds) (path':Nat→Fk),BZ i k p ns=some ns'∧WN ns'∧TN ns' path'∧0<ns'.length∧ns'.length≤ns.length+8∧
   ∀L,En ns' L=if L=(Nc p).1 then(if(Nc p).2=true then((En ns L).1,i)else(i,(En ns L).2))else En ns L:=by
 have ho:=ofP_is hp;obtain⟨z1,z2,z3⟩:=Hi ho;have hlen:(A5 (ofP p).1).reverse.length≤8:=by unfold A5; simpa using z2
 obtain⟨ns1,n,path1,q1,W1,T1,q4,q5,q6,q7⟩:=WI (A5 (ofP p).1).reverse W T h0 (P:=[]) rfl (by omega);rw[Ady]at q6;have hn:=(E5 T1 (by omega) q6).1;have hx:ns1[n]? =some ns1[n]:=Ac4 hn;have hv:En ns1 (A5 (ofP p).1).reverse=(ns1[n].Here,ns1[n].Below):=by
  unfold En;rw[q6];simp only[hx]
 have hb:BZ i k p ns=some (if(ofP p).2=true then ns1.set n {ns1[n]with Below:=i}else ns1.set n {ns1[n]with Here:=i}):=by
  unfold BZ;rw[Acv hp,Aa];unfold Eh;rw[Aa];show Ab (B6 cbC (ofP p).1 (ns,((0:Nat):Int))) _=_;rw[Xu ho q1,Aa];simp only;rw[Cp hx,Aa];split<;>rfl
 cases hw:(ofP p).2 with
 |true=>
  obtain⟨W2,T2,h2⟩:=Vl W1 T1 (by omega) q6 hx (y:={ns1[n]with Below:=i}) rfl rfl;rw[hw,AcZ rfl]at hb;refine⟨_,path1,hb,W2,T2,by rw[AdK]; omega,by rw[AdK]; omega,fun L=> ?_⟩;rw[h2 L];unfold Nc;rw[hw];by_cases e:L=(A5 (ofP p).1).reverse
  ·rw[AcZ e,AcZ e,AcZ rfl,e,←q7,hv]
  ·rw[Ac1 e,Ac1 e,q7]
 |false=>
  obtain⟨W2,T2,h2⟩:=Vl W1 T1 (by omega) q6 hx (y:={ns1[n]with Here:=i}) rfl rfl;rw[hw,Ac1 (by decide)]at hb;refine⟨_,path1,hb,W2,T2,by rw[AdK]; omega,by rw[AdK]; omega,fun L=> ?_⟩;rw[h2 L];unfold Nc;rw[hw];by_cases e:L=(A5 (ofP p).1).reverse
  ·rw[AcZ e,AcZ e,Ac1 (by decide),e,←q7,hv]
  ·rw[Ac1 e,Ac1 e,q7]
def CF (l:List g_api_Rule):Prop:= ∀(i j:Nat) (r s:g_api_Rule) (p:ByteArray),l[i]? =some r→l[j]? =some s→p∈r.Pats→p∈s.Pats→i=j
def Ic (l:List g_api_Rule):Prop:=l.length≤32∧∀r∈l,r.Pats.length≤8∧∀p∈r.Pats,patB p=true
def Done (l:List g_api_Rule)(i j i':Nat)(p:ByteArray):Prop:= ∃r,l[i']? =some r∧((i'<i∧p∈r.Pats)∨(i'=i∧p∈r.Pats.take j))
def wN (w:Bool)(v:Int×Int):Int:=if w=true then v.2 else v.1
def Cor (l:List g_api_Rule)(V:Fk→Int×Int)(D:Nat→ByteArray→Prop):Prop:= ∀L w,(∀(i':Nat) p,D i' p→Nc p=(L,w)→wN w (V L)=(i':Int))∧(wN w (V L)≠ -1→∃(i':Nat) (p:ByteArray),D i' p∧Nc p=(L,w)∧wN w (V L)=(i':Int))
theorem Px {l:List g_api_Rule}{i j i':Nat}{p:ByteArray}(h:Done l i j i' p): ∃r,l[i']? =some r∧p∈r.Pats:=by
 obtain⟨r,h1,⟨_,h2⟩|⟨_,h2⟩⟩:=h
 ·exact⟨r,h1,h2⟩
 ·exact⟨r,h1,List.mem_of_mem_take h2⟩
theorem Za {l:List g_api_Rule}(hc:CF l){i j:Nat}{r:g_api_Rule}{p:ByteArray}(hr:l[i]? =some r)(hp:r.Pats[j]? =some p){V V':Fk→Int×Int}(h:Cor l V (Done l i j))
  (hV: ∀L,V' L=if L=(Nc p).1 then(if(Nc p).2=true then((V L).1,(i:Int))else((i:Int),(V L).2))else V L):Cor l V' (Done l i (j+1)):=by
 have hd: ∀i' q,Done l i (j+1) i' q↔Done l i j i' q∨(i'=i∧q=p):=fun i' q=>by
  constructor
  ·rintro⟨s,h1,⟨h2,h3⟩|⟨h2,h3⟩⟩
   ·exact .inl ⟨s,h1,.inl ⟨h2,h3⟩⟩
   ·subst h2;rw[hr]at h1; cases h1;rw[List.take_add_one,hp]at h3;rcases Adc.1 h3 with h3|h3
    ·exact .inl ⟨r,hr,.inr ⟨rfl,h3⟩⟩
    ·simp at h3; exact .inr ⟨rfl,h3⟩
  ·rintro(⟨s,h1,⟨h2,h3⟩|⟨h2,h3⟩⟩|⟨rfl,rfl⟩)
   ·exact⟨s,h1,.inl ⟨h2,h3⟩⟩
   ·exact⟨s,h1,.inr ⟨h2,by rw[List.take_add_one]; exact List.mem_append_left _ h3⟩⟩
   ·exact⟨r,hr,.inr ⟨rfl,by rw[List.take_add_one,hp]; simp⟩⟩
 have hmem:p∈r.Pats:=Ac8 hp;intro L w;by_cases e:Nc p=(L,w)
 ·have hv:wN w (V' L)=(i:Int):=by
   rw[hV L,e,AcZ rfl];unfold wN;cases w<;>simp
  refine⟨fun i' q hq hk=> ?_,fun _=>⟨i,p,(hd i p).2 (.inr ⟨rfl,rfl⟩),e,hv⟩⟩;have:q=p:=WD (hk.trans e.symm);subst this;rw[hv];obtain⟨s,h1,h2⟩:=Px hq;rw[hc i i' r s q hr h1 hmem h2]
 ·have hv:wN w (V' L)=wN w (V L):=by
   rw[hV L];by_cases e1:L=(Nc p).1
   ·rw[AcZ e1];have hw:(Nc p).2≠w:=fun q=>e (by rw[e1,←q]);cases hw2:(Nc p).2<;>cases w<;>rw[hw2]at hw<;>simp[wN]at hw⊢
   ·rw[Ac1 e1]
  rw[hv];obtain⟨h1,h2⟩:=h L w;refine⟨fun i' q hq hk=> ?_,fun hne=> ?_⟩
  ·rcases(hd i' q).1 hq with hq|⟨rfl,rfl⟩
   ·exact h1 i' q hq hk
   ·exact absurd hk e
  ·obtain⟨i',q,a,b,c⟩:=h2 hne;exact⟨i',q,(hd i' q).2 (.inl a),b,c⟩
theorem QY {l:List g_api_Rule}{V:Fk→Int×Int}{D D':Nat→ByteArray→Prop}(h: ∀i p,D i p↔D' i p)(c:Cor l V D):Cor l V D':=fun L w=>
 ⟨fun i p hd hk=>(c L w).1 i p ((h i p).2 hd) hk,fun hn=>let ⟨i,p,a,b,d⟩:=(c L w).2 hn; ⟨i,p,(h i p).1 a,b,d⟩⟩
def InR (l:List g_api_Rule)(i:Nat)(p:ByteArray):Prop:= ∃r,l[i]? =some r∧p∈r.Pats
theorem QZ {l:List g_api_Rule}(hc:CF l)(ho:Ic l): ∃ns,C8 (Cm l) l.length 0 [blankN]=some ns∧WN ns∧(∃path,TN ns path)∧0<ns.length∧ns.length≤90000∧Cor l (En ns) (InR l):=by
 have start:Cor l (En [blankN]) (Done l 0 0):=fun L w=>by
  have hv:En [blankN] L=(-1,-1):=by
   unfold En;cases L with
   |nil=>rfl
   |cons a L=>rfl
  rw[hv];refine⟨fun i' p ⟨r,_,h⟩ _=> ?_,fun h=>absurd ?_ h⟩
  ·rcases h with ⟨h,_⟩|⟨_,h⟩
   ·omega
   ·simp at h
  ·cases w<;>rfl
 obtain⟨ns,h1,W,⟨path,T⟩,h0,hl,C⟩:=FJ (body:=Cm l) (n:=l.length) (fun i ns=>WN ns∧(∃path,TN ns path)∧0<ns.length∧ns.length≤1+64*i∧Cor l (En ns) (Done l i 0))
  (fun i ns hi ⟨W,⟨path,T⟩,h0,hl,C⟩=>by
   have hr:l[i]? =some l[i]:=Ac4 hi;obtain⟨hp1,hp2⟩:=ho.2 l[i] (Ac8 hr);unfold Cm;rw[Cp hr,Aa];obtain⟨ns',e1,W',T',h0',hl',C'⟩:=JV (body:=BZ (i:Int)) (xs:=l[i].Pats) (fun j ns=>WN ns∧(∃path,TN ns path)∧0<ns.length∧ns.length≤1+64*i+8*j∧Cor l (En ns) (Done l i j))
    (fun j p ns hp ⟨W,⟨path,T⟩,h0,hl,C⟩=>by
     have hj:=(AcX.1 hp).1;have:=ho.1;obtain⟨ns',path',a1,a2,a3,a4,a5,a6⟩:=b3_val W T h0 (by omega) (hp2 p (Ac8 hp)) (i:Int) (j:Int);exact⟨ns',a1,a2,⟨path',a3⟩,a4,by omega,Za hc hr hp C a6⟩)
    (s:=ns) ⟨W,⟨path,T⟩,h0,by omega,C⟩
   rw[e1];refine⟨ns',rfl,W',T',h0',by omega,QY (fun i' p=> ?_) C'⟩;constructor
   ·rintro⟨r,a,⟨b,c⟩|⟨b,c⟩⟩
    ·exact⟨r,a,.inl ⟨by omega,c⟩⟩
    ·exact⟨r,a,.inl ⟨by omega,List.mem_of_mem_take c⟩⟩
   ·rintro⟨r,a,⟨b,c⟩|⟨b,c⟩⟩
    ·by_cases q:i'<i
     ·exact⟨r,a,.inl ⟨q,c⟩⟩
     ·have:i'=i:=by omega
      subst this;rw[hr]at a; cases a;exact⟨_,hr,.inr ⟨rfl,by rw[List.take_length]; exact c⟩⟩
    ·simp at c)
  (s:=[blankN]) ⟨fun n x h=>by
    match n,h with
    |0,h=>cases h; exact⟨AdI _,fun k hk=>by cases hk⟩,⟨fun _=> [],rfl,fun n k lab hn h=>by
    match n,hn,h with
    |0,_,h=>cases h⟩,Nat.one_pos,by simp,start⟩
 refine⟨ns,h1,W,⟨path,T⟩,h0,by have:=ho.1; omega,QY (fun i' p=> ?_) C⟩;constructor
 ·exact Px
 ·rintro⟨r,a,b⟩;exact⟨r,a,.inl ⟨(AcX.1 a).1,b⟩⟩
def Pe (V:Fk→Int×Int):Int→Fk→Fk→Int
 |last,_,[]=>last
 |last,P,l::ls=>Pe V (if(V P).2≠ -1 then(V P).2 else last) (P++[l]) ls
def G6 (V:Fk→Int×Int)(R:Fk):Nat→Int
 |0=> -1
 |t+1=>if(V (R.take t)).2≠ -1 then(V (R.take t)).2 else G6 V R t
def Uv (V:Fk→Int×Int)(R:Fk):Int:=if(V R).1≠ -1 then(V R).1 else G6 V R R.length
theorem Wx (V:Fk→Int×Int): ∀(ls P:Fk),Pe V (G6 V (P++ls) P.length) P ls=G6 V (P++ls) (P++ls).length
 | [],P=>by
  show G6 V (P++[]) P.length=_;rw[Adn]
 |l::ls,P=>by
  have ih:=Wx V ls (P++[l]);rw[AcR,List.singleton_append]at ih;rw[←ih];show Pe V (if(V P).2≠ -1 then(V P).2 else G6 V (P++l::ls) P.length) (P++[l]) ls=_;congr 1;rw[Ac5,List.length_singleton];show _=if(V ((P++l::ls).take P.length)).2≠ -1 then(V ((P++l::ls).take P.length)).2 else G6 V (P++l::ls) P.length;rw[List.take_left' rfl]
theorem Sr {ns:Nds}{P:Fk}(h:EG ns 0 P=none):En ns P=(-1,-1):=by unfold En; rw[h]
theorem QD {ns:Nds}{P:Fk}(h:EG ns 0 P=none)(ls:Fk):EG ns 0 (P++ls)=none:=by rw[Lx,h]; rfl
theorem NH {ns:Nds}: ∀{ls P:Fk} {last:Int},EG ns 0 P=none→Pe (En ns) last P ls=last
 | [],_,_,_=>rfl
 |l::ls,P,last,h=>by
  show Pe (En ns) (if(En ns P).2≠ -1 then _ else last) (P++[l]) ls=_;rw[Sr h,Ac1 (by simp)];exact NH (QD h [l])
def cbW (t:AZ):((Int×Int×Int)×Nat)→ByteArray→Option (Bool×((Int×Int×Int)×Nat)):=fun(s:(Int×Int×Int)×Nat) (b0:ByteArray)=>if s.2=0 then Ab (BP t b0 s) fun y=>some (y.2==0,y)else none
theorem PV {t:AZ}{path:Nat→Fk}(W:WN t.Nodes)(T:TN t.Nodes path)(h0:0<t.Nodes.length): ∀(ls P:Fk) (n:Nat) (last ret:Int),EG t.Nodes 0 P=some n→
  ∃s fl,Us (cbW t) ls ((last,(n:Int),ret),0)=some (s,fl)∧((fl=0∧∃m:Nat,EG t.Nodes 0 (P++ls)=some m∧s.2.1=(m:Int)∧s.1=Pe (En t.Nodes) last P ls)∨(fl≠0∧EG t.Nodes 0 (P++ls)=none∧s.2.2=Pe (En t.Nodes) last P ls))
 | [],P,n,last,ret,hl=>⟨_,0,rfl,.inl ⟨rfl,n,by rw[Adn]; exact hl,rfl,rfl⟩⟩
 |l::ls,P,n,last,ret,hl=>by
  have hn:=(E5 T h0 hl).1;have hx:t.Nodes[n]? =some t.Nodes[n]:=Ac4 hn;have hv:En t.Nodes P=(t.Nodes[n].Here,t.Nodes[n].Below):=by
   unfold En;rw[hl];simp only[hx]
  have hb:BP t l ((last,(n:Int),ret),0)=some (match kidN t.Nodes n l with
    |some k=>(((if(En t.Nodes P).2≠ -1 then(En t.Nodes P).2 else last),(k:Int),ret),0)
    |none=>(((if(En t.Nodes P).2≠ -1 then(En t.Nodes P).2 else last),(n:Int),(if(En t.Nodes P).2≠ -1 then(En t.Nodes P).2 else last)),1)):=by
   unfold BP;dsimp only;rw[Cp hx,Aa,Aa,(WC W hn l).1,hv];cases kidN t.Nodes n l with
   |none=>by_cases q:t.Nodes[n].Below= -1<;>simp[q]
   |some k=>by_cases q:t.Nodes[n].Below= -1<;>simp[q]
  have hk1:EG t.Nodes 0 (P++[l])=kidN t.Nodes n l:=by
   rw[Lx,hl,Option.bind_some];show(kidN t.Nodes n l).bind _=_;cases kidN t.Nodes n l<;>rfl
  cases hk:kidN t.Nodes n l with
  |some k=>
   rw[hk]at hb hk1;obtain⟨s,fl,h1,h2⟩:=PV W T h0 ls (P++[l]) k (if(En t.Nodes P).2≠ -1 then(En t.Nodes P).2 else last) ret hk1;rw[AcR,List.singleton_append]at h2;refine⟨s,fl,?_,h2⟩;show Ab (cbW t _ l) _=_;unfold cbW;rw[AcZ rfl,hb,Aa,Aa];exact h1
  |none=>
   rw[hk]at hb hk1;refine⟨((if(En t.Nodes P).2≠ -1 then(En t.Nodes P).2 else last),(n:Int),(if(En t.Nodes P).2≠ -1 then(En t.Nodes P).2 else last)),1,?_,.inr ⟨by decide,by have:=QD hk1 ls; rwa [AcR]at this,?_⟩⟩
   ·show Ab (cbW t _ l) _=_;unfold cbW;rw[AcZ rfl,hb,Aa,Aa];rfl
   ·show _=Pe (En t.Nodes) (if(En t.Nodes P).2≠ -1 then(En t.Nodes P).2 else last) (P++[l]) ls;rw[NH hk1]
theorem UY {t:AZ}{path:Nat→Fk}(W:WN t.Nodes)(T:TN t.Nodes path)(h0:0<t.Nodes.length){s:ByteArray}(hs:isB (toL s) 8 64=true):
  BW s t=some (Uv (En t.Nodes) (A5 s).reverse,t):=by
 obtain⟨⟨s1,s2,s3⟩,fl,h1,h2⟩:=PV W T h0 (A5 s).reverse [] 0 (-1) 0 rfl;have hg:Pe (En t.Nodes) (-1) [] (A5 s).reverse=G6 (En t.Nodes) (A5 s).reverse (A5 s).reverse.length:=Wx (En t.Nodes) (A5 s).reverse [];rw[hg,Ady]at h2;unfold BW Eh;rw[Aa];show Ab (B6 (cbW t) s ((-1,0,0),0)) _=_;have h1':Us (cbW t) (A5 s).reverse ((-1,0,0),0)=some ((s1,s2,s3),fl):=h1;rw[Xu hs h1',Aa];dsimp only;unfold Uv;rcases h2 with ⟨rfl,m,e1,e2,e3⟩|⟨e0,e1,e2⟩
 ·simp only at e2 e3;subst e2 e3;have hm:=(E5 T h0 e1).1;have hx:t.Nodes[m]? =some t.Nodes[m]:=Ac4 hm;have hv:En t.Nodes (A5 s).reverse=(t.Nodes[m].Here,t.Nodes[m].Below):=by
   unfold En;rw[e1];simp only[hx]
  rw[AcZ rfl,Cp hx,Aa,Aa,hv];by_cases q:t.Nodes[m].Here= -1
  ·rw[Ac1 (by simp[q]),Ac1 (by simp[q])]
  ·rw[AcZ (by simp[q]),AcZ (by simp[q])]
 ·rw[Ac1 e0,Sr e1,Ac1 (by simp)];simp only at e2;rw[e2]
theorem Wv {κ γ:Type}{p:κ→Bool}(x:κ×γ): ∀l:List (κ×γ),lkG p (l++[x])=(lkG p l).or (if p x.1=true then some x.2 else none)
 | []=>by
  show(bif p x.1 then some x.2 else none)=_;cases p x.1<;>rfl
 |y::l=>by
  show(bif p y.1 then some y.2 else lkG p (l++[x]))=Option.or (bif p y.1 then some y.2 else lkG p l) _;cases p y.1
  ·exact Wv x l
  ·rfl
theorem U8 {κ γ:Type}{p:κ→Bool}{x:κ×γ}: ∀{l:List (κ×γ)},lkG p l=none→upG p x l=l++[x]
 | [],_=>rfl
 |y::l,h=>by
  have h:(bif p y.1 then some y.2 else lkG p l)=none:=h;show(bif p y.1 then x::l else y::upG p x l)=_;cases hp:p y.1 with
  |true=>rw[hp]at h; cases h
  |false=>rw[hp]at h; simp only[cond_false]at h⊢; rw[U8 h]; rfl
def XC (D:Nat→ByteArray→Prop)(m:List (ByteArray×Int)):Prop:= ∀p,(∀i:Nat,D i p→lkG (eqS p) m=some (i:Int))∧(∀v,lkG (eqS p) m=some v→∃i:Nat,D i p∧v=(i:Int))
theorem NP {a b:ByteArray}(h:a≠b):eqS a b=false:=by
 cases q:eqS a b with
 |false=>rfl
 |true=>exact absurd (MF q) h
theorem Acr {l:List g_api_Rule}(hc:CF l){i j:Nat}{r:g_api_Rule}{p:ByteArray}(hr:l[i]? =some r)(hp:r.Pats[j]? =some p){m:List (ByteArray×Int)}(h:XC (Done l i j) m)(k:Int):
  ∃m',CE (i:Int) k p m=some m'∧XC (Done l i (j+1)) m':=by
 have hmem:p∈r.Pats:=Ac8 hp;have hd: ∀i' q,Done l i (j+1) i' q↔Done l i j i' q∨(i'=i∧q=p):=fun i' q=>by
  constructor
  ·rintro⟨s,h1,⟨h2,h3⟩|⟨h2,h3⟩⟩
   ·exact .inl ⟨s,h1,.inl ⟨h2,h3⟩⟩
   ·subst h2;rw[hr]at h1; cases h1;rw[List.take_add_one,hp]at h3;rcases Adc.1 h3 with h3|h3
    ·exact .inl ⟨r,hr,.inr ⟨rfl,h3⟩⟩
    ·simp at h3; exact .inr ⟨rfl,h3⟩
  ·rintro(⟨s,h1,⟨h2,h3⟩|⟨h2,h3⟩⟩|⟨rfl,rfl⟩)
   ·exact⟨s,h1,.inl ⟨h2,h3⟩⟩
   ·exact⟨s,h1,.inr ⟨h2,by rw[List.take_add_one]; exact List.mem_append_left _ h3⟩⟩
   ·exact⟨r,hr,.inr ⟨rfl,by rw[List.take_add_one,hp]; simp⟩⟩
 have hi: ∀i',Done l i (j+1) i' p→i'=i:=fun i' hq=>by
  obtain⟨s,h1,h2⟩:=Px hq;exact(hc i i' r s p hr h1 hmem h2).symm
 unfold CE;cases hq:lkG (eqS p) m with
 |some v=>
  refine⟨m,rfl,fun q=> ?_⟩;obtain⟨a,b⟩:=h q;refine⟨fun i' hd'=> ?_,fun v' hv=> ?_⟩
  ·rcases(hd i' q).1 hd' with h1|⟨rfl,rfl⟩
   ·exact a i' h1
   ·obtain⟨i2,h2,rfl⟩:=b v hq;rw[hq,hi i2 ((hd i2 q).2 (.inl h2))]
  ·obtain⟨i2,h2,e⟩:=b v' hv;exact⟨i2,(hd i2 q).2 (.inl h2),e⟩
 |none=>
  refine⟨m++[(p,(i:Int))],?_,fun q=> ?_⟩
  ·show Ab (some (upG (eqS p) (p,(i:Int)) m)) _=_;rw[U8 hq]; rfl
  ·obtain⟨a,b⟩:=h q;rw[Wv];by_cases e:q=p
   ·subst e;rw[hq,AcZ (ES q),Option.none_or];refine⟨fun i' hd'=>by rw[hi i' hd'],fun v' hv=> ?_⟩;cases hv;exact⟨i,(hd i q).2 (.inr ⟨rfl,rfl⟩),rfl⟩
   ·rw[Ac1 (by rw[NP e]; decide),Option.or_none];refine⟨fun i' hd'=> ?_,fun v' hv=> ?_⟩
    ·rcases(hd i' q).1 hd' with h1|⟨_,h1⟩
     ·exact a i' h1
     ·exact absurd h1 e
    ·obtain⟨i2,h2,e2⟩:=b v' hv;exact⟨i2,(hd i2 q).2 (.inl h2),e2⟩
theorem TE {m:List (ByteArray×Int)}{D D':Nat→ByteArray→Prop}(h: ∀i p,D i p↔D' i p)(c:XC D m):XC D' m:=fun p=>
 ⟨fun i hd=>(c p).1 i ((h i p).2 hd),fun v hv=>let ⟨i,a,b⟩:=(c p).2 v hv; ⟨i,(h i p).1 a,b⟩⟩
theorem TD {l:List g_api_Rule}{i:Nat}{r:g_api_Rule}(hr:l[i]? =some r)(i':Nat)(p:ByteArray):Done l i r.Pats.length i' p↔Done l (i+1) 0 i' p:=by
 constructor
 ·rintro⟨s,a,⟨b,c⟩|⟨b,c⟩⟩
  ·exact⟨s,a,.inl ⟨by omega,c⟩⟩
  ·exact⟨s,a,.inl ⟨by omega,List.mem_of_mem_take c⟩⟩
 ·rintro⟨s,a,⟨b,c⟩|⟨b,c⟩⟩
  ·by_cases q:i'<i
   ·exact⟨s,a,.inl ⟨q,c⟩⟩
   ·have:i'=i:=by omega
    subst this;rw[hr]at a; cases a;exact⟨_,hr,.inr ⟨rfl,by rw[List.take_length]; exact c⟩⟩
  ·simp at c
theorem R9 {l:List g_api_Rule}(hc:CF l): ∃m,BX l=some m∧XC (InR l) m:=by
 obtain⟨m,h1,h2⟩:=FJ (body:=CG l) (n:=l.length) (fun i m=>XC (Done l i 0) m)
  (fun i m hi C=>by
   have hr:l[i]? =some l[i]:=Ac4 hi;unfold CG;rw[Cp hr,Aa];obtain⟨m',e1,C'⟩:=JV (body:=CE (i:Int)) (xs:=l[i].Pats) (fun j m=>XC (Done l i j) m) (fun j p m hp C=>Acr hc hr hp C _) (s:=m) C;rw[e1];exact⟨m',rfl,TE (TD hr) C'⟩)
  (s:=[]) (fun p=>⟨fun i ⟨r,_,h⟩=>by
   rcases h with ⟨h,_⟩|⟨_,h⟩
   ·omega
   ·simp at h,fun v hv=>by cases hv⟩)
 refine⟨m,by unfold BX; rw[h1]; rfl,TE (fun i' p=> ?_) h2⟩;constructor
 ·exact Px
 ·rintro⟨r,a,b⟩;exact⟨r,a,.inl ⟨(AcX.1 a).1,b⟩⟩
theorem YI {p r:List UInt8}(h:isB (p++46::r) 8 64=true)(hp:(46:UInt8)∉p):isB r 8 64=true∧r≠[]:=by
 obtain⟨h1,h2,h3⟩:=Hi h;rw[EX p r hp,AcY]at h2;unfold TU at h3;rw[EX p r hp,AdD,AcQ]at h3;refine⟨?_,fun e=> ?_⟩
 ·unfold isB;rw[Ac5,AcY]at h1;rw[Adm (show r.length≤64 by omega),Adm (show(Ar r).length≤8 by omega)];exact h3.2
 ·subst e;have:=h3.2;simp[Ar,Mx]at this
theorem U7 {s:ByteArray}(h:isB (toL s) 8 64=true):(∃x,Ar (toL s)=[x]∧C9 s=some ⟨#[]⟩)∨∃x r,Ar (toL s)=x::Ar r∧C9 s=some (Bp r)∧isB r 8 64=true∧r≠[]:=by
 obtain⟨hs,_,_⟩:=Hi h;have hz:(toL s).length=s.size:=AQ s;have hx:AI s (⟨#[46]⟩:ByteArray)=some (UL s 46):=by
  have h:=Pp s (by omega);unfold Bc at h;cases q:AI s (⟨#[46]⟩:ByteArray)with
  |none=>rw[q]at h; cases h
  |some v=>rw[q]at h; exact h
 unfold C9;rw[Z7,Aa,h,Ac1 (by decide)];unfold G0 Cq;rw[hx,Aa];rcases GJ s.data.toList 46 with ⟨h2,h3⟩|⟨p,r,h2,h3,h4⟩
 ·rw[show UL s 46= -1 from h2,Ac1 (by decide)];exact .inl ⟨_,HJ _ h3,rfl⟩
 ·have hl:s.size=p.length+1+r.length:=by rw[←AQ,h2,Ac5,AcY]; omega
  have e1:ML s 0 (p.length:Int)=some (s.extract 0 p.length):=by
   rw[DC (by omega) (by omega) (by omega)]; rfl
  have e2:ML s (w64 ((p.length:Int)+((⟨#[46]⟩:ByteArray).size:Int))) (s.size:Int)=some (s.extract (p.length+1) s.size):=by
   have:((⟨#[46]⟩:ByteArray).size:Int)=1:=rfl;rw[this,CK (by omega) (by omega),DC (by omega) (by omega) (by omega)];rfl
  have l2:s.extract (p.length+1) s.size=Bp r:=by
   have l3:(s.extract (p.length+1) s.size).data.toList=r:=by
    rw[EP,←AQ,List.take_length,h2];rw[←AdV,AdN]; rfl
   have l4:toL (s.extract (p.length+1) s.size)=r:=l3;rw[←Ct (s.extract (p.length+1) s.size),l4]
  rw[show UL s 46=(p.length:Int)from h4,AcZ (by rw[Adt]; omega),e1,Aa,e2,Aa,Aa,Aa,l2];have hl2:toL s=p++46::r:=h2;obtain⟨a,b⟩:=YI (hl2▸h) h3;exact .inr ⟨p,r,by rw[hl2,EX p r h3],rfl,a,b⟩
def Fi (s:ByteArray):ByteArray:=Bp (42::46::toL s)
theorem TP {s:ByteArray}(h:s.size≤1000):AcD (⟨#[42,46]⟩:ByteArray) s=some (Fi s):=by
 have e0:(⟨#[42,46]⟩:ByteArray).size=2:=rfl;unfold AcD;rw[AcZ (by omega)];rfl
theorem in_pat {l:List g_api_Rule}(ho:Ic l){i:Nat}{p:ByteArray}(h:InR l i p):patB p=true:=by
 obtain⟨r,h1,h2⟩:=h;exact(ho.2 r (Ac8 h1)).2 p h2
theorem Pf (s:ByteArray):A5 s≠[]:=fun h=>by
 unfold A5 at h;exact Fq _ (List.map_eq_nil_iff.1 h)
theorem YE {s:ByteArray}(h:Iv (toL (Fi s))=true):Nc (Fi s)=((A5 s).reverse,true):=by
 unfold Nc ofP;rw[h,AcZ rfl];have:Bp ((toL (Fi s)).drop 2)=s:=Ct s;rw[this]
theorem Tm {s:ByteArray}(h:isB (toL s) 8 64=true):Nc s=((A5 s).reverse,false):=by
 have hs:Iv (toL s)=false:=by
  cases q:Iv (toL s)with
  |false=>rfl
  |true=>
   obtain⟨r,e,_⟩:=Gf q;rw[e,Kq]at h; cases h
 unfold Nc ofP;rw[hs,Ac1 (by decide)]
section
variable {l:List g_api_Rule}{m:List (ByteArray×Int)}{V:Fk→Int×Int}
theorem AbC (ho:Ic l)(D:XC (InR l) m)(C:Cor l V (InR l)){s:ByteArray}(hs:isB (toL s) 8 64=true):lkG (eqS s) m=if(V (A5 s).reverse).1≠ -1 then some (V (A5 s).reverse).1 else none:=by
 obtain⟨c1,c2⟩:=C (A5 s).reverse false;by_cases h:(V (A5 s).reverse).1= -1
 ·rw[Ac1 (by simp[h])];cases q:lkG (eqS s) m with
  |none=>rfl
  |some v=>
   obtain⟨i,hi,e⟩:=(D s).2 v q;have:=c1 i s hi (Tm hs);have this:(V (A5 s).reverse).1=(i:Int):=this;omega
 ·rw[AcZ h];obtain⟨i,p,h1,h2,h3⟩:=c2 h;have:p=s:=WD (h2.trans (Tm hs).symm);subst this;have h3:(V (A5 p).reverse).1=(i:Int):=h3;rw[(D p).1 i h1,h3]
theorem AaY (ho:Ic l)(D:XC (InR l) m)(C:Cor l V (InR l)){s:ByteArray}(hs:isB (toL s) 8 64=true):lkG (eqS (Fi s)) m=(if(V (A5 s).reverse).2≠ -1 then some (V (A5 s).reverse).2 else none)∧((lkG (eqS (Fi s)) m).isSome=true→B7 (Fi s)=some 0):=by
 obtain⟨c1,c2⟩:=C (A5 s).reverse true;have hst: ∀i,InR l i (Fi s)→Iv (toL (Fi s))=true:=fun i hi=>by
  have:=in_pat ho hi;unfold patB at this;have e:isB (toL (Fi s)) 8 64=false:=Kq (toL s);rwa [e,AdW]at this
 refine⟨?_,fun h=> ?_⟩
 ·by_cases h:(V (A5 s).reverse).2= -1
  ·rw[Ac1 (by simp[h])];cases q:lkG (eqS (Fi s)) m with
   |none=>rfl
   |some v=>
    obtain⟨i,hi,e⟩:=(D (Fi s)).2 v q;have:=c1 i (Fi s) hi (YE (hst i hi));have this:(V (A5 s).reverse).2=(i:Int):=this;omega
  ·rw[AcZ h];obtain⟨i,p,h1,h2,h3⟩:=c2 h;have hp:p=Fi s:=by
    unfold Nc at h2;simp only[AcP,List.reverse_inj]at h2;obtain⟨h2,h4⟩:=h2;have h2:=Tl h2;unfold ofP at h2 h4;cases q:Iv (toL p)with
    |false=>rw[q]at h4; cases h4
    |true=>
     rw[q,AcZ rfl]at h2;obtain⟨r,e,_⟩:=Gf q;rw[e]at h2;unfold Fi;rw[←h2,←Ct p,e];rfl
   subst hp;have h3:(V (A5 s).reverse).2=(i:Int):=h3;rw[(D _).1 i h1,h3]
 ·obtain⟨v,hv⟩:=Option.isSome_iff_exists.1 h;obtain⟨i,hi,e⟩:=(D (Fi s)).2 v hv;rw[Wb,hst i hi,Bool.or_true,AcZ rfl]
theorem ZL (C:Cor l V (InR l)):(V []).2= -1:=by
 obtain⟨c1,c2⟩:=C [] true;by_cases h:(V []).2= -1
 ·exact h
 ·obtain⟨i,p,h1,h2,h3⟩:=c2 h;unfold Nc at h2;simp only[AcP,List.reverse_eq_nil_iff]at h2;exact absurd h2.1 (Pf _)
theorem TG (ho:Ic l)(D:XC (InR l) m)(C:Cor l V (InR l))(R:Fk): ∀(t fuel:Nat) (s:ByteArray),t+1<fuel→t+1≤R.length→isB (toL s) 8 64=true→(A5 s).reverse=R.take (t+1)→
  ∃z,iter (AK m) fuel s=some z∧match z with| .inr r=>r=(G6 V R (t+2),m)| .inl _=>G6 V R (t+2)= -1
 |t,fuel+1,s,hf,ht,hs,hR=>by
  have hne:eqS s (⟨#[]⟩:ByteArray)=false:=NP fun e=>by
   subst e;have:isB [] 8 64=true:=hs;rw[WH]at this; cases this
  have hz:(toL s).length=s.size:=AQ s;have h64:=(Hi hs).1;obtain⟨k1,k2⟩:=AaY ho D C hs;have hW:G6 V R (t+2)=if(V (A5 s).reverse).2≠ -1 then(V (A5 s).reverse).2 else G6 V R (t+1):=by
   rw[hR]; rfl
  by_cases hv:(V (A5 s).reverse).2= -1
  ·rw[Ac1 (by simp[hv])]at k1 hW;have hstep: ∀u,C9 s=some u→AK m s=some (.inl u):=fun u hu=>by
    unfold AK;rw[hne,AcZ (show(!false)=true from rfl),TP (by omega),Aa,k1];show Ab (gu false _) _=_;rw[YN,Aa];show Ab (gu false _) _=_;rw[YN,Aa];show Ab (C9 s) _=_;rw[hu,Aa]
   have hlt:(A5 s).length=t+1:=by
    have:=Adp List.length hR;rw[List.length_reverse,Ads]at this;omega
   rcases U7 hs with ⟨x,e1,e2⟩|⟨x,r,e1,e2,e3,e4⟩
   ·have ht0:t=0:=by
     unfold A5 at hlt;rw[e1]at hlt;simp at hlt;exact hlt
    subst ht0;obtain⟨f2,rfl⟩: ∃f2,fuel=f2+1:=⟨fuel-1,by omega⟩;refine⟨.inl (),?_,?_⟩
    ·show Ab (AK m s) _=_;rw[hstep _ e2];rfl
    ·show G6 V R 2= -1;rw[hW];show(if(V (R.take 0)).2≠ -1 then(V (R.take 0)).2 else G6 V R 0)= -1;rw[List.take_zero,Ac1 (by simp[ZL C])];rfl
   ·have hl2:A5 s=Bp x::A5 (Bp r):=by
     unfold A5;rw[e1];rfl
    have hr2:(A5 (Bp r)).reverse=R.take t:=by
     have:=Adp (List.take t) hR;rw[hl2,List.reverse_cons,List.take_take,Nat.min_eq_left (by omega),List.take_left' (by
      rw[List.length_reverse];rw[hl2,AcY]at hlt;omega)]at this
     exact this
    have ht1:1≤t:=by
     rw[hl2,AcY]at hlt;have:=List.length_pos_iff.2 (Pf (Bp r));omega
    obtain⟨t2,rfl⟩: ∃t2,t=t2+1:=⟨t-1,by omega⟩;obtain⟨z,h1,h2⟩:=TG ho D C R t2 fuel (Bp r) (by omega) (by omega) e3 hr2;refine⟨z,?_,?_⟩
    ·show Ab (AK m s) _=_;rw[hstep _ e2];exact h1
    ·rw[hW]; exact h2
  ·rw[AcZ hv]at k1 hW;refine⟨.inr (G6 V R (t+2),m),?_,rfl⟩;have k3:=k2 (by rw[k1]; rfl);show Ab (AK m s) _=_;unfold AK;rw[hne,AcZ (show(!false)=true from rfl),TP (by omega),Aa,k1];show Ab (Ab (gu true _) _) _=_;rw[Hq,Aa];show Ab (Ab (gu true _) _) _=_;rw[Hq,k3,Aa,hW];rfl
theorem dec_eq (ho:Ic l)(D:XC (InR l) m)(C:Cor l V (InR l)){s:ByteArray}(hs:isB (toL s) 8 64=true):Bg s m=some (Uv V (A5 s).reverse,m):=by
 unfold Bg Uv;rw[AbC ho D C hs];by_cases hv:(V (A5 s).reverse).1= -1
 ·rw[Ac1 (by simp[hv]),Ac1 (by simp[hv])];have hn:0<(A5 s).length:=List.length_pos_iff.2 (Pf s);rcases U7 hs with ⟨x,e1,e2⟩|⟨x,r,e1,e2,e3,e4⟩
  ·rw[e2,Aa];have hlen:(A5 s).length=1:=by unfold A5; rw[e1]; rfl
   have hi:iter (AK m) ET (⟨#[]⟩:ByteArray)=some (.inl ()):=rfl;rw[hi,Aa];show some (-1,m)=some (G6 V (A5 s).reverse (A5 s).reverse.length,m);rw[List.length_reverse,hlen];show _=some ((if(V (List.take 0 _)).2≠ -1 then(V (List.take 0 _)).2 else G6 V _ 0),m);rw[List.take_zero,Ac1 (by simp[ZL C])];rfl
  ·have hl2:A5 s=Bp x::A5 (Bp r):=by
    unfold A5;rw[e1];rfl
   have hp:=List.length_pos_iff.2 (Pf (Bp r));obtain⟨t,ht⟩: ∃t,(A5 (Bp r)).length=t+1:=⟨(A5 (Bp r)).length-1,by omega⟩;have hlen:(A5 s).reverse.length=t+2:=by rw[List.length_reverse,hl2,AcY,ht]
   have h8:=(Hi hs).2.1;have hls:(A5 s).length=(Ar (toL s)).length:=by unfold A5; simp
   obtain⟨z,h1,h2⟩:=TG ho D C (A5 s).reverse t ET (Bp r) (by rw[List.length_reverse]at hlen; have:=DO; omega) (by omega) e3 (by
    rw[hl2,List.reverse_cons,List.take_left' (by rw[List.length_reverse,ht])])
   rw[e2,Aa,h1,Aa,hlen];match z,h2 with
   | .inr r,h2=>rw[h2]
   | .inl _,h2=>rw[h2]
 ·rw[AcZ hv,AcZ hv];rfl
end
theorem lk_up {γ:Type}{p q:ByteArray}{v:γ}: ∀{s:List (ByteArray×γ)},lkG (eqS q) (upG (eqS p) (p,v) s)=if q=p then some v else lkG (eqS q) s
 | []=>by
  show(bif eqS q p then some v else none)=_;by_cases h:q=p
  ·subst h; rw[ES,AcZ rfl]; rfl
  ·rw[NP h,Ac1 h]; rfl
 |y::s=>by
  show lkG (eqS q) (bif eqS p y.1 then(p,v)::s else y::upG (eqS p) (p,v) s)=_;cases hp:eqS p y.1 with
  |true=>
   have e:=MF hp;show(bif eqS q p then some v else lkG (eqS q) s)=_;by_cases h:q=p
   ·subst h; rw[ES,AcZ rfl]; rfl
   ·rw[NP h,Ac1 h];show _=(bif eqS q y.1 then some y.2 else lkG (eqS q) s);rw[NP (fun e2=>h (e2.trans e.symm))];rfl
  |false=>
   show(bif eqS q y.1 then some y.2 else lkG (eqS q) (upG (eqS p) (p,v) s))=_;rw[lk_up (s:=s)];show _=if q=p then some v else(bif eqS q y.1 then some y.2 else lkG (eqS q) s);by_cases h:q=p
   ·subst h;rw[AcZ rfl,AcZ rfl,hp]; rfl
   ·rw[Ac1 h,Ac1 h]
abbrev CSt:=List (ByteArray×List Int)×List (Int×Int)
def zsP (s:CSt)(p:ByteArray):List Int:=(lkG (eqS p) s.1).getD []
structure CI (l:List g_api_Rule)(i j:Nat)(s:CSt):Prop where
 zin: ∀p (i':Nat),Done l i j i' p→(i':Int)∈zsP s p
 zlen: ∀p,(zsP s p).length≤8*i+j
 olen:s.2.length≤(8*i+j)*256
 free:s.2=[]→∀p i1 i2,Done l i j i1 p→Done l i j i2 p→i1=i2
theorem Zf (k:Int)(zs:List Int)(o:List (Int×Int))(h:o.length+zs.length≤100000): ∃o',Iz (Cj k) zs 0 o=some o'∧o'.length≤o.length+zs.length∧(o'=[]→o=[]∧∀x∈zs,x=k):=by
 obtain⟨o',h1,h2,h3⟩:=JV (body:=Cj k) (xs:=zs) (fun n o1=>o1.length≤o.length+n∧(o1=[]→o=[]∧∀x∈zs.take n,x=k))
  (fun n x o1 hx ⟨a,b⟩=>by
   have hn:=(AcX.1 hx).1;unfold Cj;by_cases hc:(x !=k&& !(o1.any (eqP (x,k))))=true
   ·rw[AcZ hc,Fh 16 (by simp; omega) (by simp; omega),Aa];exact⟨_,rfl,by simp; omega,fun e=>by simp at e⟩
   ·rw[Ac1 hc];refine⟨_,rfl,by omega,fun e=> ?_⟩;obtain⟨c,d⟩:=b e;subst e;refine⟨c,fun y hy=> ?_⟩;rw[List.take_add_one,hx]at hy;rcases Adc.1 hy with hy|hy
    ·exact d y hy
    ·simp at hy;subst hy;simpa using hc)
  (s:=o) ⟨by omega,fun e=>⟨e,fun x hx=>by simp at hx⟩⟩
 exact⟨o',h1,h2,fun e=>by have:=h3 e; rwa [List.take_length]at this⟩
theorem Uz {l:List g_api_Rule}(hl:l.length≤32){i j:Nat}{r:g_api_Rule}{p:ByteArray}(hr:l[i]? =some r)(hp:r.Pats[j]? =some p)(hj:j<8){s:CSt}(h:CI l i j s)(k:Int):
  ∃s',CS (i:Int) k p s=some s'∧CI l i (j+1) s':=by
 have hi:=(AcX.1 hr).1;have hz:=h.zlen p;have ho:=h.olen;obtain⟨o',e1,e2,e3⟩:=Zf (i:Int) (zsP s p) s.2 (by omega);have hd: ∀i' q,Done l i (j+1) i' q↔Done l i j i' q∨(i'=i∧q=p):=fun i' q=>by
  constructor
  ·rintro⟨s,h1,⟨h2,h3⟩|⟨h2,h3⟩⟩
   ·exact .inl ⟨s,h1,.inl ⟨h2,h3⟩⟩
   ·subst h2;rw[hr]at h1; cases h1;rw[List.take_add_one,hp]at h3;rcases Adc.1 h3 with h3|h3
    ·exact .inl ⟨r,hr,.inr ⟨rfl,h3⟩⟩
    ·simp at h3; exact .inr ⟨rfl,h3⟩
  ·rintro(⟨s,h1,⟨h2,h3⟩|⟨h2,h3⟩⟩|⟨rfl,rfl⟩)
   ·exact⟨s,h1,.inl ⟨h2,h3⟩⟩
   ·exact⟨s,h1,.inr ⟨h2,by rw[List.take_add_one]; exact List.mem_append_left _ h3⟩⟩
   ·exact⟨r,hr,.inr ⟨rfl,by rw[List.take_add_one,hp]; simp⟩⟩
 unfold CS;show∃s',Ab (Iz (Cj (i:Int)) (zsP s p) 0 s.2) _=some s'∧_;rw[e1,Aa];show∃s',Ab (app 8 (zsP s p) [(i:Int)]) _=some s'∧_;rw[Fh 8 (by simp; omega) (by simp; omega),Aa];have hzs: ∀q,zsP (upG (eqS p) (p,zsP s p++[(i:Int)]) s.1,o') q=if q=p then zsP s p++[(i:Int)]else zsP s q:=fun q=>by
  unfold zsP;simp only;rw[lk_up];by_cases e:q=p
  ·rw[AcZ e,AcZ e]; rfl
  ·rw[Ac1 e,Ac1 e]
 refine⟨_,rfl,⟨fun q i' hq=> ?_,fun q=> ?_,?_,fun e q i1 i2 h1 h2=> ?_⟩⟩
 ·rw[hzs];by_cases e:q=p
  ·rw[AcZ e];subst e;rcases(hd i' q).1 hq with h1|⟨rfl,_⟩
   ·exact List.mem_append_left _ (h.zin q i' h1)
   ·exact List.mem_append_right _ (AdL.2 rfl)
  ·rw[Ac1 e];rcases(hd i' q).1 hq with h1|⟨_,h1⟩
   ·exact h.zin q i' h1
   ·exact absurd h1 e
 ·rw[hzs];split
  ·simp; omega
  ·have:=h.zlen q; omega
 ·show o'.length≤_;omega
 ·obtain⟨f1,f2⟩:=e3 e;have hpi: ∀i',Done l i j i' p→i'=i:=fun i' hq=>by
   have:=f2 _ (h.zin p i' hq);omega
  rcases(hd i1 q).1 h1 with h1|⟨ei1,eq1⟩<;>rcases(hd i2 q).1 h2 with h2|⟨ei2,eq2⟩
  ·exact h.free f1 q i1 i2 h1 h2
  ·exact(hpi i1 (eq2▸h1)).trans ei2.symm
  ·exact ei1.trans (hpi i2 (eq1▸h2)).symm
  ·exact ei1.trans ei2.symm
theorem Zg {l:List g_api_Rule}{i j i' j':Nat}{s:CSt}(h: ∀i2 p,Done l i j i2 p↔Done l i' j' i2 p)(hn:8*i+j≤8*i'+j')(c:CI l i j s):CI l i' j' s:=
 ⟨fun p i2 hd=>c.zin p i2 ((h i2 p).2 hd),fun p=>Nat.le_trans (c.zlen p) hn,Nat.le_trans c.olen (Nat.mul_le_mul_right _ hn),fun e p i1 i2 h1 h2=>c.free e p i1 i2 ((h i1 p).2 h1) ((h i2 p).2 h2)⟩
theorem Ze {l:List g_api_Rule}(ho:Ic l): ∃c,BJ l=some c∧(c=[]→CF l):=by
 obtain⟨s,h1,C⟩:=FJ (body:=Dx l) (n:=l.length) (fun i s=>CI l i 0 s)
  (fun i s hi C=>by
   have hr:l[i]? =some l[i]:=Ac4 hi;obtain⟨hp1,hp2⟩:=ho.2 l[i] (Ac8 hr);unfold Dx;rw[Cp hr,Aa];obtain⟨s',e1,C'⟩:=JV (body:=CS (i:Int)) (xs:=l[i].Pats) (fun j s=>CI l i j s)
    (fun j p s hp C=>by
     have hj:=(AcX.1 hp).1;exact Uz ho.1 hr hp (by omega) C _) (s:=s) C
   rw[e1];exact⟨s',rfl,Zg (TD hr) (by omega) C'⟩)
  (s:=([],[])) ⟨fun p i' ⟨r,_,h⟩=>by
   rcases h with ⟨h,_⟩|⟨_,h⟩
   ·omega
   ·simp at h,fun p=>AdI _,AdI _,fun _ p i1 i2 ⟨r,_,h⟩ _=>by
   rcases h with ⟨h,_⟩|⟨_,h⟩
   ·omega
   ·simp at h⟩
 have hlen:=C.olen;have hl:=ho.1;unfold BJ;rw[h1,Aa];unfold ED;rw[AcZ (by omega),Aa];refine⟨_,rfl,fun e=> ?_⟩;have hs:s.2=[]:=by
  have:=Adp List.length e;unfold GU at this;rw[List.length_mergeSort]at this;exact List.length_eq_zero_iff.1 this
 intro i j r s2 p hr hs2 hpr hps;have hd: ∀(i:Nat) r,l[i]? =some r→p∈r.Pats→Done l l.length 0 i p:=fun i r a b=>⟨r,a,.inl ⟨(AcX.1 a).1,b⟩⟩;exact C.free hs p i j (hd i r hr hpr) (hd j s2 hs2 hps)
def AbJ:ByteArray:=⟨#[97,98,99,100,101,102,103,104,105,106,107,108,109,110,111,112,113,114,115,116,117,118,119,120,121,122,48,49,50,51,52,53,54,55,56,57,45]⟩
def nmV (s:ByteArray):Bool:=(Dp s).getD false
theorem AaM {s:ByteArray}(h:s.size≤1000):DI s AbJ=some (Bp (Go.Lib.trimS (toL s) (toL AbJ))):=by
 unfold DI;rw[AcZ ⟨by decide,by omega⟩];rfl
theorem O0 (s:ByteArray):Dp s=some (nmV s)∧(nmV s=true→toL s≠[]∧(toL s).length≤16∧eqS (Bp (Go.Lib.trimS (toL s) (toL AbJ))) (⟨#[]⟩:ByteArray)=true):=by
 have hz:(toL s).length=s.size:=AQ s;have key: ∃b,Dp s=some b∧(b=true→toL s≠[]∧(toL s).length≤16∧eqS (Bp (Go.Lib.trimS (toL s) (toL AbJ))) (⟨#[]⟩:ByteArray)=true):=by
  unfold Dp;show∃b,Ab (gu _ (DI s AbJ)) _=some b∧_;cases hc:((!eqS s (⟨#[]⟩:ByteArray))&&(decide ((s.size:Int)≤16)))with
  |false=>
   rw[YN,Aa,B8];exact⟨_,rfl,fun h=>by rw[Bool.false_and]at h; cases h⟩
  |true=>
   simp only[AcQ,Adt]at hc;rw[Hq,AaM (by omega),Aa,B8];refine⟨_,rfl,fun h=> ?_⟩;rw[AdM]at h;refine⟨fun e=> ?_,by omega,h⟩;have:s=⟨#[]⟩:=by rw[←Ct s,e]; rfl
   rw[this]at hc;exact absurd hc.1 (by decide)
 obtain⟨b,h1,h2⟩:=key;have e:nmV s=b:=by unfold nmV; rw[h1]; rfl
 rw[e];exact⟨h1,h2⟩
theorem TC {p:UInt8→Bool}: ∀{l:List UInt8},l.dropWhile p=[]→∀c∈l,p c=true
 | [],_,c,hc=>by cases hc
 |a::l,h,c,hc=>by
  rw[List.dropWhile_cons]at h;split at h
  ·rename_i ha;rcases Ado.1 hc with rfl|hc
   ·exact ha
   ·exact TC h c hc
  ·cases h
theorem XU {l cs:List UInt8}(h:Go.Lib.trimS l cs=[]): ∀c∈l,cs.contains c=true:=by
 unfold Go.Lib.trimS Go.Lib.trimLeftS Go.Lib.trimRightS at h;intro c hc;have h1:=TC h;have h2:c∈l.reverse.takeWhile (cs.contains ·)++l.reverse.dropWhile (cs.contains ·):=by
  rw[List.takeWhile_append_dropWhile];exact List.mem_reverse.2 hc
 rcases Adc.1 h2 with h3|h3
 ·have:=List.all_takeWhile (p:=(cs.contains ·)) (l:=l.reverse);exact Adf.1 this c h3
 ·exact h1 c (List.mem_reverse.2 h3)
theorem Wp {s:ByteArray}(h:nmV s=true):toL s≠[]∧(toL s).length≤16∧∀c∈toL s,(toL AbJ).contains c=true:=by
 obtain⟨h1,h2,h3⟩:=(O0 s).2 h;refine⟨h1,h2,XU ?_⟩;have:=Adp toL (MF h3);exact this
theorem MO (l:List ByteArray)(s:ByteArray):AB l s=some (l.any (eqS s)):=by
 unfold AB Cc;rw[JU l (eqS s) () (fun j=>(j:Int)) (fun i x hx=> ?_),Aa]
 ·cases h:l.findIdx? (eqS s)with
  |none=>
   have:l.any (eqS s)=false:=by
    rw[List.any_eq_false];exact fun x hx=>by simpa using List.findIdx?_eq_none_iff.1 h x hx
   rw[this]; rfl
  |some j=>
   obtain⟨hj,h2,_⟩:=List.findIdx?_eq_some_iff_getElem.1 h;have:l.any (eqS s)=true:=List.any_eq_true.2 ⟨_,List.getElem_mem hj,h2⟩;rw[this];show some (decide ((j:Int)≥0))=_;rw[Adm (by omega)]
 ·unfold CM;rw[Cp hx,Aa];split<;>rfl
structure GoodR (r:g_api_Rule):Prop where
 nm:nmV r.Name=true
 pl:1≤r.Pats.length
 pu:r.Pats.length≤8
 pv: ∀p∈r.Pats,patB p=true
 pd:r.Pats.Nodup
 al:r.Allow=true→r.KeyMin.toNat≤2305843009213691579∧1≤r.LifeMax∧r.LifeMax≤1000∧((r.Most=0∧r.Window=0)∨(1≤r.Most∧r.Most≤1000∧1≤r.Window∧r.Window≤1099511627776))
 rf:r.Allow=false→r.KeyMin=0∧r.LifeMax=0∧r.Most=0∧r.Window=0
structure Lh (l:List g_api_Rule):Prop where
 len:l.length≤32
 all: ∀r∈l,GoodR r
 nms:(l.map (·.Name)).Nodup
theorem RZ {l:List g_api_Rule}(h:Lh l):Ic l:=⟨h.len,fun r hr=>⟨(h.all r hr).pu,(h.all r hr).pv⟩⟩
theorem Abu {p:ByteArray}(h:patB p=true):B7 p=some 0:=by
 rw[Wb];unfold patB at h;rw[AcZ h]
theorem TS {l:List ByteArray}(hd:l.Nodup){i:Nat}{p:ByteArray}(h:l[i]? =some p):(l.take i).any (eqS p)=false:=by
 rw[List.any_eq_false];intro x hx hq;have:=MF hq;subst this;obtain⟨j,hj,e⟩:=List.mem_iff_getElem.1 hx;rw[Ads]at hj;rw[List.getElem_take]at e;obtain⟨hi,e2⟩:=AcX.1 h;have:=(List.getElem_inj hd).1 (e.trans e2.symm);omega
theorem W4 {r:g_api_Rule}(h:GoodR r):Fx r=some true:=by
 have hpl:=h.pl;have hpu:=h.pu;have hloop:E6 (DM r) r.Pats.length 0 ()=some (.inl ()):=by
  rcases GL (body:=DM r) (n:=r.Pats.length) (fun _ _=>True) (fun _=>False) (fun i s hi _=>by
   have hx:r.Pats[i]? =some r.Pats[i]:=Ac4 hi;left;refine⟨(),?_,trivial⟩;unfold DM;rw[Cp hx,Aa,Abu (h.pv _ (Ac8 hx)),Aa];have hcut:cut r.Pats 0 (i:Int)=some (r.Pats.take i):=by
    unfold cut;rw[AcZ ⟨by omega,by omega,by omega⟩];simp
   show Ab (gu true (cut r.Pats 0 (i:Int))) _=_;rw[Hq,hcut,Aa];show Ab (gu true (AB _ _)) _=_;rw[Hq,MO,TS h.pd hx,Aa];rfl) (s:=()) trivial with ⟨t,h1,_⟩|⟨r,_,h2⟩
  ·exact h1
  ·exact h2.elim
 unfold Fx;rw[hloop,Aa];have f1: ∀a b c:Int,CO a b c=some (decide (b≤a)&&decide (a≤c)):=fun a b c=>rfl;have g1: ∀(c v:Bool),gu c (some v)=some (c&&v):=fun c v=>by cases c<;>rfl
 simp only[f1,(O0 r.Name).1,h.nm,Aa,B8,g1];rw[Adm (show(1:Int)≤(r.Pats.length:Int) by omega),Adm (show(r.Pats.length:Int)≤8 by omega)];cases ha:r.Allow with
 |false=>
  obtain⟨a,b,c,d⟩:=h.rf ha;rw[a,b,c,d];rfl
 |true=>
  obtain⟨a,b,c,d⟩:=h.al ha;rw[Adm (show(r.KeyMin.toNat:Int)≤2305843009213691579 by omega),Adm b,Adm c];rcases d with ⟨d,e⟩|⟨d,e,f,g⟩
  ·rw[d,e]; rfl
  ·rw[Adm (show(0:Int)≤r.Most by omega),Adm e,Adm f,Adm g,Adm (show r.Most>0 by omega)];rfl
theorem TM {l:List g_api_Rule}(h:Lh l):E1 l=some 0:=by
 have hlen:=h.len;unfold E1;rcases MI (body:=FY) (xs:=l) (fun i s=>s=Jo ((l.map (·.Name)).take i)) (fun _=>False) (fun i x s hx hs=>by
  left;subst hs;have hn:(l.map (·.Name))[i]? =some x.Name:=by rw[Ac9,hx]; rfl
  have ha:=TS h.nms hn;unfold FY;rw[W4 (h.all x (Ac8 hx)),Aa,QE,ha];rw[Ac1 (by decide),AcZ (Tg _ _ ha)];refine⟨_,rfl,?_⟩;rw[List.take_add_one,hn];unfold Jo;simp) (s:=[]) rfl with ⟨t,h1,_⟩|⟨r,_,h2⟩
 ·rw[h1,Aa];show(if decide ((l.length:Int)>32)=true then some 2 else some 0)=_;rw[Ac1 (by simp; omega)]
 ·exact h2.elim
def wrdS:ByteArray:=⟨#[97,98,99,100,101,102,103,104,105,106,107,108,109,110,111,112,113,114,115,116,117,118,119,120,121,122,48,49,50,51,52,53,54,55,56,57,45,42,46,95]⟩
def CY (c:UInt8):Bool:=(toL wrdS).contains c
theorem Y5 {p:UInt8→Bool}: ∀l:List UInt8,(l.dropWhile p).length≤l.length
 | []=>AcV _
 |a::l=>by
  rw[List.dropWhile_cons];split
  ·exact Nat.le_succ_of_le (Y5 l)
  ·exact AcV _
def Kc:Nat→List UInt8→List UInt8
 |0,l=>l
 |_+1,[]=> []
 |n+1,c::l=>if c=32∨c=10 then Kc n l else if c=35 then Kc n (l.dropWhile (· !=10))else c::l
theorem Kb: ∀(n m:Nat) (l:List UInt8),l.length≤n→l.length≤m→Kc n l=Kc m l
 |0,0,l,_,_=>rfl
 |0,m+1,l,h,_=>by
  have:l=[]:=List.length_eq_zero_iff.1 (by omega);subst this; rfl
 |n+1,0,l,_,h=>by
  have:l=[]:=List.length_eq_zero_iff.1 (by omega);subst this; rfl
 |n+1,m+1,[],_,_=>rfl
 |n+1,m+1,c::l,h1,h2=>by
  rw[AcY]at h1 h2;have hd:=Y5 (p:=(· !=10)) l;show(if c=32∨c=10 then Kc n l else if c=35 then Kc n (l.dropWhile (· !=10))else c::l)=if c=32∨c=10 then Kc m l else if c=35 then Kc m (l.dropWhile (· !=10))else c::l;rw[Kb n m l (by omega) (by omega),Kb n m (l.dropWhile (· !=10)) (by omega) (by omega)]
def BG (l:List UInt8):List UInt8:=Kc l.length l
theorem HL {c:UInt8}(h:c=32∨c=10)(l:List UInt8):BG (c::l)=BG l:=by
 show(if c=32∨c=10 then Kc l.length l else _)=_;rw[AcZ h]; rfl
theorem Qe (l:List UInt8):BG (35::l)=BG (l.dropWhile (· !=10)):=by
 show(if(35:UInt8)=32∨(35:UInt8)=10 then Kc l.length l else if(35:UInt8)=35 then Kc l.length (l.dropWhile (· !=10))else 35::l)=_;rw[Ac1 (by decide),AcZ rfl];exact Kb _ _ _ (Y5 l) (AcV _)
theorem Gr {c:UInt8}(h: ¬(c=32∨c=10))(h2:c≠35)(l:List UInt8):BG (c::l)=c::l:=by
 show(if c=32∨c=10 then Kc l.length l else if c=35 then _ else _)=_;rw[Ac1 h,Ac1 h2]
def Suf (b l:List UInt8):Prop:= ∃p,b=p++l
theorem Suf.le {b l:List UInt8}(h:Suf b l):l.length≤b.length:=by
 obtain⟨p,rfl⟩:=h;simp
theorem Suf.drop {b l:List UInt8}(h:Suf b l):b.drop (b.length-l.length)=l:=by
 obtain⟨p,rfl⟩:=h;rw[Ac5,Nat.add_sub_cancel,AdN]
theorem Suf.tail {b l:List UInt8}{c:UInt8}(h:Suf b (c::l)):Suf b l:=by
 obtain⟨p,rfl⟩:=h;exact⟨p++[c],by simp⟩
theorem Suf.dropN {b l:List UInt8}(h:Suf b l)(n:Nat):Suf b (l.drop n):=by
 obtain⟨p,rfl⟩:=h;exact⟨p++l.take n,by rw[AcR,List.take_append_drop]⟩
theorem Aal {p:UInt8→Bool}: ∀l:List UInt8,∃n,l.dropWhile p=l.drop n
 | []=>⟨0,rfl⟩
 |a::l=>by
  rw[List.dropWhile_cons];split
  ·obtain⟨n,h⟩:=Aal (p:=p) l;exact⟨n+1,h⟩
  ·exact⟨0,rfl⟩
theorem Lm: ∀(n:Nat) (l:List UInt8),l.length≤n→∃k,BG l=l.drop k
 |0,l,h=>by
  have:l=[]:=List.length_eq_zero_iff.1 (by omega);subst this; exact⟨0,rfl⟩
 |n+1,[],_=>⟨0,rfl⟩
 |n+1,c::l,h=>by
  rw[AcY]at h;by_cases h1:c=32∨c=10
  ·obtain⟨k,e⟩:=Lm n l (by omega);exact⟨k+1,by rw[HL h1,e]; rfl⟩
  ·by_cases h2:c=35
   ·subst h2;have hd:=Y5 (p:=(· !=10)) l;obtain⟨k,e⟩:=Lm n (l.dropWhile (· !=10)) (by omega);obtain⟨j,e2⟩:=Aal (p:=(· !=10)) l;exact⟨(j+k)+1,by rw[Qe,e,e2,AdV]; rfl⟩
   ·exact⟨0,Gr h1 h2 l⟩
theorem Suf.skip {b l:List UInt8}(h:Suf b l):Suf b (BG l):=by
 obtain⟨k,e⟩:=Lm l.length l (AcV _);rw[e];exact h.dropN k
theorem SB (l:List UInt8):(BG l).length≤l.length:=by
 obtain⟨k,e⟩:=Lm l.length l (AcV _);rw[e,Adz]; omega
theorem dw_10 {p r:List UInt8}(h:(10:UInt8)∉p):(p++10::r).dropWhile (· !=10)=10::r:=by
 induction p with
 |nil=>rfl
 |cons a p ih=>
  have ha:a≠10:=fun e=>h (by rw[e]; exact Adb ..);rw[AdC,List.dropWhile_cons,AcZ (by simpa using ha)];exact ih fun q=>h (Adh _ q)
theorem dw_no {p:List UInt8}(h:(10:UInt8)∉p):p.dropWhile (· !=10)=[]:=by
 induction p with
 |nil=>rfl
 |cons a p ih=>
  have ha:a≠10:=fun e=>h (by rw[e]; exact Adb ..);rw[List.dropWhile_cons,AcZ (by simpa using ha)];exact ih fun q=>h (Adh _ q)
def DD (b l:List UInt8):Int:=((b.length-l.length:Nat):Int)
theorem AaW {b l:List UInt8}{c:UInt8}(h:Suf b (c::l)):DD b (c::l)+1=DD b l:=by
 have:=h.le;rw[AcY]at this;unfold DD;rw[AcY];omega
theorem at_pos {b l:List UInt8}{c:UInt8}(h:Suf b (c::l)):idx b (DD b (c::l))=some c:=by
 refine Cp ?_;have:=Adp (fun l=>l[0]?) h.drop;simpa using this
theorem Qd {b:List UInt8}(hb:b.length≤100000)(tk:ByteArray)(at0:Int): ∀(n fuel:Nat) (l:List UInt8),l.length≤n→n<fuel→Suf b l→iter (Be ⟨b,at0,tk⟩) fuel (DD b l)=some (DD b (BG l))
 |n,fuel+1,[],_,_,h=>by
  show Ab (Be ⟨b,at0,tk⟩ (DD b [])) _=_;unfold Be;rw[Ac1 (by unfold DD; simp)];rfl
 |0,fuel+1,c::l,h0,_,_=>by simp at h0
 |n+1,fuel+1,c::l,h0,hf,h=>by
  rw[AcY]at h0;have hle:=h.le;rw[AcY]at hle;have hp:DD b (c::l)<(b.length:Int):=by
   unfold DD; rw[AcY]; omega
  have hp0:0≤DD b (c::l):=by unfold DD; omega
  have ih: ∀(l':List UInt8),l'.length≤n→Suf b l'→iter (Be ⟨b,at0,tk⟩) fuel (DD b l')=some (DD b (BG l')):=fun l' q s=>Qd hb tk at0 n fuel l' q (by omega) s;show Ab (Be ⟨b,at0,tk⟩ (DD b (c::l))) _=_;unfold Be;dsimp only;rw[Adm hp,AcZ rfl,at_pos h,Aa];by_cases h1:c=32∨c=10
  ·have hx:(if((c.toNat:Int)==32)=true then some ((c.toNat:Int)==32)else some ((c.toNat:Int)==10))=some true:=by
    rcases h1 with rfl|rfl<;>rfl
   rw[hx,Aa,AcZ rfl,CK (by omega) (by omega),AaW h,Aa,HL h1];exact ih l (by omega) h.tail
  ·have hx:(if((c.toNat:Int)==32)=true then some ((c.toNat:Int)==32)else some ((c.toNat:Int)==10))=some false:=by
    have a: ¬(c.toNat:Int)=32:=fun q=>h1 (.inl (UInt8.toNat_inj.1 (by simpa using (by omega:c.toNat=32))));have a2: ¬(c.toNat:Int)=10:=fun q=>h1 (.inr (UInt8.toNat_inj.1 (by simpa using (by omega:c.toNat=10))));rw[Ac1 (by simpa using a)];simp[a2]
   rw[hx,Aa,Ac1 (by decide)];by_cases h2:c=35
   ·subst h2;rw[AcZ (by decide)];have hcut:cut b (DD b (35::l)) (b.length:Int)=some (35::l):=by
     unfold cut;rw[AcZ ⟨hp0,by omega,by omega⟩];have e1:(DD b (35::l)).toNat=b.length-(35::l).length:=by unfold DD; omega
     rw[e1,h.drop,AdG (by rw[AcY]; omega)]
    rw[hcut,Aa];unfold DA;rw[Ac1 (by simp),Aa,Qe];rcases GJ (35::l) 10 with ⟨e1,e2⟩|⟨p,r,e1,e2,e3⟩
    ·have hw1:w64 ((b.length:Int)-DD b (35::l))=(b.length:Int)-DD b (35::l):=CK (by omega) (by omega);rw[e1,AcZ (by decide),B8,Aa,hw1,CK (by omega) (by omega),Aa,dw_no (fun q=>e2 (Adh _ q))];have:=ih [] (AdI _) ⟨b,by simp⟩;have e4:DD b (35::l)+((b.length:Int)-DD b (35::l))=DD b []:=by unfold DD; simp; omega
     rw[e4];exact this
    ·rw[e3,Ac1 (by simp),Aa];have hpl:1≤p.length:=by
      match p,e1 with
      | [],e1=>simp at e1
      |a::p,_=>simp
     obtain⟨p2,hp2⟩: ∃p2,p=35::p2:=by
      match p,e1,hpl with
      |a::p,e1,_=>
       simp at e1;exact⟨p,by rw[←e1.1]⟩
     subst hp2;have e5:l=p2++10::r:=by simpa using e1
     have hl:l.length=p2.length+1+r.length:=by rw[e5,Ac5,AcY]; omega
     have hd:l.dropWhile (· !=10)=10::r:=by rw[e5]; exact dw_10 fun q=>e2 (Adh _ q)
     have hsuf:Suf b (10::r):=by
      obtain⟨p0,e6⟩:=h;exact⟨p0++35::p2,by rw[e6,e5]; simp⟩
     have e4:DD b (35::l)+((35::p2).length:Int)=DD b (10::r):=by
      unfold DD;rw[AcY,AcY,AcY];omega
     rw[CK (by rw[AcY]; omega) (by rw[AcY]; omega),Aa,hd,e4];exact ih (10::r) (by rw[AcY]; omega) hsuf
   ·have a: ¬(c.toNat:Int)=35:=fun q=>h2 (UInt8.toNat_inj.1 (by simpa using (by omega:c.toNat=35)));rw[Ac1 (by simpa using a),Gr h1 h2];rfl
def BI (l:List UInt8):List UInt8:=if l.takeWhile CY=[]then l.take 1 else l.takeWhile CY
def nxL (l:List UInt8):List UInt8:=BG (l.drop (BI l).length)
abbrev rdR (b l:List UInt8):Ae:=⟨b,DD b l,Bp (BI l)⟩
theorem Zp (p:UInt8→Bool)(l:List UInt8):(l.takeWhile p).length+(l.dropWhile p).length=l.length:=by
 rw[←Ac5,List.takeWhile_append_dropWhile]
theorem AaL (p:UInt8→Bool)(l:List UInt8):l.take (l.takeWhile p).length=l.takeWhile p:=by
 have h:l.take (l.takeWhile p).length=(l.takeWhile p++l.dropWhile p).take (l.takeWhile p).length:=by rw[List.takeWhile_append_dropWhile]
 rw[h,List.take_left]
theorem Ox (l:List UInt8):(BI l).length≤l.length:=by
 unfold BI;split
 ·rw[Ads]; omega
 ·have:=Zp CY l; omega
theorem Va {l:List UInt8}(h:l≠[]):1≤(BI l).length:=by
 unfold BI;split
 ·rw[Ads];have:=List.length_pos_iff.2 h;omega
 ·rename_i q;exact List.length_pos_iff.2 q
theorem Ev (l:List UInt8):(nxL l).length+(BI l).length≤l.length:=by
 have:=SB (l.drop (BI l).length);have h2:=Ox l;unfold nxL;rw[Adz]at this;omega
theorem Suf.nx {b l:List UInt8}(h:Suf b l):Suf b (nxL l):=(h.dropN _).skip
theorem RP {b l:List UInt8}(hb:b.length≤100000)(h:Suf b l)(at0:Int)(tk:ByteArray)(h0:at0+(tk.size:Int)=DD b l):Af ⟨b,at0,tk⟩=some (rdR b (BG l)):=by
 have hle:=h.le;have hs:=h.skip;have hsl:=hs.le;have hp:DD b l=((b.length-l.length:Nat):Int):=rfl;have hp2:DD b (BG l)=((b.length-(BG l).length:Nat):Int):=rfl;unfold Af;dsimp only;rw[h0,CK (by omega) (by omega),Qd hb tk at0 l.length ET l (AcV _) (by have:=DO; omega) h,Aa,Aa];have hcut:cut b (DD b (BG l)) (b.length:Int)=some (BG l):=by
  unfold cut;rw[AcZ ⟨by omega,by omega,by omega⟩];have e1:(DD b (BG l)).toNat=b.length-(BG l).length:=by unfold DD; omega
  rw[e1,hs.drop,AdG (by omega)]
 have htrim:C5 (BG l) wrdS=some ((BG l).dropWhile CY):=by
  unfold C5;rw[AcZ (by decide)];rfl
 rw[hcut,Aa];show Ab (C5 (BG l) wrdS) _=_;rw[htrim,Aa,B8];have htl:=Zp CY (BG l);have hw:w64 (((BG l).length:Int)-(((BG l).dropWhile CY).length:Int))=(((BG l).takeWhile CY).length:Int):=by
  rw[CK (by omega) (by omega)]; omega
 rw[hw];have hx:(if((((BG l).takeWhile CY).length:Int)==0)=true then some (Tc 1 ((BG l).length:Int))else some (((BG l).takeWhile CY).length:Int))=some ((BI (BG l)).length:Int):=by
  unfold BI;by_cases q:(BG l).takeWhile CY=[]
  ·rw[AcZ q,q,AcZ (by decide)];congr 1;unfold Tc;rw[Ads];split<;>omega
  ·have:=List.length_pos_iff.2 q;rw[Ac1 q,Ac1 (by simp; omega)]
 rw[hx,Aa];have ht:=Ox (BG l);have hcut2:cut (BG l) 0 ((BI (BG l)).length:Int)=some (BI (BG l)):=by
  unfold cut;rw[AcZ ⟨by omega,by omega,by omega⟩];congr 1;show(BG l).take ((BI (BG l)).length-0)=_;rw[Nat.sub_zero];unfold BI;split
  ·rw[Ads,List.take_eq_take_iff];omega
  ·exact AaL _ _
 rw[hcut2,Aa];rfl
theorem E9 {b l:List UInt8}(hb:b.length≤100000)(h:Suf b l):Af (rdR b l)=some (rdR b (nxL l)):=by
 have ht:=Ox l;have hle:=h.le;refine RP hb (h.dropN (BI l).length) _ _ ?_;have e:(Bp (BI l)).size=(BI l).length:=by rw[←AQ]; rfl
 rw[e];unfold DD;rw[Adz];omega
def bad (b l:List UInt8):Int×Int:=(DD b l,71)
theorem Ey {b l:List UInt8}(hb:b.length≤100000)(h:Suf b l)(s:ByteArray):Ai (rdR b l) s=some (if Bp (BI l)=s then .ok (rdR b (nxL l))else .error (bad b l)):=by
 unfold Ai;show Ab (if(!eqS (Bp (BI l)) s)=true then _ else _) _=_;by_cases e:Bp (BI l)=s
 ·rw[e,ES,Ac1 (by decide),Aa,AcZ rfl];show Ab (Af (⟨b,DD b l,Bp (BI l)⟩:Ae)) _=_;rw[show Af (⟨b,DD b l,Bp (BI l)⟩:Ae)=some (rdR b (nxL l))from E9 hb h];rfl
 ·rw[NP e,AcZ (by decide),Ac1 e];rfl
theorem YU (ahead:List g_api_Rule)(s:ByteArray):AH ahead s=some (ahead.any (fun a=>eqS a.Name s),s):=by
 unfold AH A7;rw[JU ahead (fun a=>eqS a.Name s) s (fun j=>((j:Int),s)) (fun i x hx=> ?_),Aa]
 ·cases h:ahead.findIdx? (fun a=>eqS a.Name s)with
  |none=>
   have:ahead.any (fun a=>eqS a.Name s)=false:=by
    rw[List.any_eq_false];exact fun x hx=>by simpa using List.findIdx?_eq_none_iff.1 h x hx
   rw[this]; rfl
  |some j=>
   obtain⟨hj,h2,_⟩:=List.findIdx?_eq_some_iff_getElem.1 h;have:ahead.any (fun a=>eqS a.Name s)=true:=List.any_eq_true.2 ⟨_,List.getElem_mem hj,h2⟩;rw[this];show some (decide ((j:Int)≥0),s)=_;rw[Adm (by omega)]
 ·unfold BK Df;rw[Cp hx,Aa,Aa];split<;>rfl
def ZP (ahead:List g_api_Rule)(s:ByteArray):Bool:=nmV s&& !(ahead.any fun a=>eqS a.Name s)
theorem P9 {b l:List UInt8}(hb:b.length≤100000)(h:Suf b l)(ahead:List g_api_Rule):A8 (rdR b l) ahead=some (if ZP ahead (Bp (BI l))=true then .ok (Bp (BI l),rdR b (nxL l))else .error (bad b l)):=by
 have e1:BN (Bp (BI l)) ahead=some (ZP ahead (Bp (BI l))):=by
  unfold BN ZP;rw[(O0 _).1,Aa];cases nmV (Bp (BI l))with
  |false=>rfl
  |true=>rw[AcZ rfl,YU,Aa]; rfl
 unfold A8;show Ab (Ab (BN (Bp (BI l)) ahead) _) _=_;rw[e1,Aa];cases ZP ahead (Bp (BI l))with
 |false=>rfl
 |true=>
  have hnx:Af (⟨b,DD b l,Bp (BI l)⟩:Ae)=some (rdR b (nxL l)):=E9 hb h;rw[Ac1 (show¬((!true)=true) by decide),Aa];dsimp only[rdR]at hnx⊢;rw[hnx];rfl
def ZO (ps:List ByteArray)(s:ByteArray):Bool:=decide (ps.length<8)&&patB s&& !(ps.any (eqS s))
theorem LU {b l:List UInt8}(hb:b.length≤100000)(h:Suf b l)(x:g_api_Rule):BA (rdR b l) x=some (if ZO x.Pats (Bp (BI l))=true then .ok (Bp (BI l),rdR b (nxL l))else .error (bad b l)):=by
 have e1:BM (Bp (BI l)) x=some (ZO x.Pats (Bp (BI l))):=by
  unfold BM ZO;have e0:decide ((x.Pats.length:Int)<8)=decide (x.Pats.length<8):=by rw[decide_eq_decide]; omega
  rw[e0,Wb];cases decide (x.Pats.length<8)with
  |false=>rfl
  |true=>
   rw[Hq,Aa];have e2:((if(isB (toL (Bp (BI l))) 8 64||Iv (toL (Bp (BI l))))=true then(0:Int)else 110)==0)=patB (Bp (BI l)):=by
    unfold patB;cases (isB (toL (Bp (BI l))) 8 64||Iv (toL (Bp (BI l))))<;>rfl
   rw[e2];cases patB (Bp (BI l))with
   |false=>rfl
   |true=>
    show Ab (gu true (AB x.Pats (Bp (BI l)))) _=_;rw[Hq,MO,Aa];rfl
 unfold BA;show Ab (Ab (BM (Bp (BI l)) x) _) _=_;rw[e1,Aa];cases ZO x.Pats (Bp (BI l))with
 |false=>rfl
 |true=>
  have hnx:Af (⟨b,DD b l,Bp (BI l)⟩:Ae)=some (rdR b (nxL l)):=E9 hb h;rw[Ac1 (show¬((!true)=true) by decide),Aa];dsimp only[rdR]at hnx⊢;rw[hnx];rfl
def Uk (l:List UInt8)(most:Nat):Option Nat:=match Go.Lib.parseUintB 64 l with| .ok u=>if((l.headD 0).toNat !=48&&decide (l.length<20)&&decide (u≤most))=true then some u else none|_=>none
theorem HV {b l:List UInt8}(hb:b.length≤100000)(h:Suf b l)(most:UInt64):Av (rdR b l) most=some (match Uk (BI l) most.toNat with|some u=> .ok (UInt64.ofNat u,rdR b (nxL l))|none=> .error (bad b l)):=by
 have hsz:(Bp (BI l)).size=(BI l).length:=by rw[←AQ]; rfl
 have ht:=Ox l;have hle:=h.le;have e1: ∃q,BS (Bp (BI l)) 0 most=some q∧q.1=(Uk (BI l) most.toNat).isSome∧(∀u,Uk (BI l) most.toNat=some u→q.2.1=UInt64.ofNat u):=by
  unfold BS;rw[AcZ (by omega)];show∃q,(match Go.Lib.parseUintB 64 (BI l)with
   | .ok u=>_
   | .range=>_
   |_=>_)=some q∧_
  unfold Uk;cases hp:Go.Lib.parseUintB 64 (BI l)
  ·rename_i u;have h1:=Go.Lib.parseUintB_le hp;have h2:0<(BI l).length:=by
    rcases Nat.eq_zero_or_pos (BI l).length with q|q
    ·rw[List.length_eq_zero_iff.1 q]at hp;cases hp
    ·exact q
   dsimp only;rw[AcZ ⟨by omega,by omega⟩];refine⟨_,rfl,?_,fun v hv=> ?_⟩
   ·rw[hsz];show(((BI l).headD 0).toNat !=48&&decide ((BI l).length<20)&&decide (u≤most.toNat))=_;split<;>simp_all
   ·split at hv
    ·cases hv; rfl
    ·cases hv
  ·exact⟨_,rfl,rfl,fun u hu=>by cases hu⟩
  ·exact⟨_,rfl,rfl,fun u hu=>by cases hu⟩
 obtain⟨q,hq,hq1,hq2⟩:=e1;unfold Av Cd;show Ab (Ab (Ab (BS (Bp (BI l)) 0 most) _) _) _=_;rw[hq,Aa,hq1];cases hn:Uk (BI l) most.toNat with
 |none=>rfl
 |some u=>
  have hnx:Af (⟨b,DD b l,Bp (BI l)⟩:Ae)=some (rdR b (nxL l)):=E9 hb h;rw[Ac1 (show¬((!(some u).isSome)=true) by simp),Aa];dsimp only[rdR]at hnx⊢;rw[hnx,Aa,Aa,hq2 u hn]
def szs (ps:List ByteArray):Nat:=(ps.map (·.size)).sum
theorem AaU (ps:List ByteArray)(s:ByteArray):szs (ps++[s])=szs ps+s.size:=by unfold szs; simp
theorem AaV (l:List UInt8):(Bp l).size=l.length:=by rw[←AQ]; rfl
def NT (ps:List ByteArray):Prop:=ps.length≤8∧(∀p∈ps,patB p=true)∧ps.Nodup
theorem Yi:NT []:=⟨AdI _,(fun p hp=>(by cases hp)),List.nodup_nil⟩
abbrev RSt:=(List UInt8)×Int×ByteArray×ByteArray×Bool×(List ByteArray)×UInt64×Int×Int×Int
abbrev RRes:=Except (Int×Int) (g_api_Rule×(List g_api_Rule)×Ae)
def PI (b:List UInt8)(nm:ByteArray)(al:Bool)(L0:Nat)(l:List UInt8)(st:RSt):Prop:= ∃ps,st=(b,DD b l,Bp (BI l),nm,al,ps,0,0,0,0)∧Suf b l∧NT ps∧szs ps+l.length≤L0
def PR (b:List UInt8)(nm:ByteArray)(al:Bool)(L0:Nat):(RSt⊕RRes)→Prop
 | .inr (.error z)=>z.2≠0
 | .inr (.ok _)=>False
 | .inl st=> ∃l ps,st=(b,DD b l,Bp (BI l),nm,al,ps,0,0,0,0)∧Suf b l∧NT ps∧1≤ps.length∧szs ps+l.length≤L0
theorem pats_A {b:List UInt8}(hb:b.length≤100000)(nm:ByteArray)(al:Bool)(L0:Nat){l:List UInt8}(h:Suf b l)(hl:l.length≤L0):
  ∃r,iter Aw ET (b,DD b l,Bp (BI l),nm,al,([]:List ByteArray),0,0,0,0)=some r∧PR b nm al L0 r:=by
 have key: ∀(st:RSt),(∃l,PI b nm al L0 l st)→(∃s',Aw st=some (.inl s')∧(∃l,PI b nm al L0 l s')∧b.length-s'.2.1.toNat<b.length-st.2.1.toNat)∨∃r,Aw st=some (.inr r)∧PR b nm al L0 r:=by
  rintro st ⟨l,ps,rfl,hs,⟨p1,p2,p3⟩,hc⟩;have hle:=hs.le;unfold Aw;dsimp only;rw[LU hb hs,Aa];by_cases c:ZO ps (Bp (BI l))=true
  ·rw[AcZ c];dsimp only;unfold ZO at c;simp only[AcQ,Adt,Bool.not_eq_true']at c;obtain⟨⟨c1,c2⟩,c3⟩:=c;rw[Fh 16 (by simp; omega) (by simp; omega),Aa];have ok:NT (ps++[Bp (BI l)]):=by
    refine⟨by simp; omega,fun p hp=> ?_,?_⟩
    ·rcases Adc.1 hp with hp|hp
     ·exact p2 p hp
     ·simp at hp; rw[hp]; exact c2
    ·refine List.nodup_append.2 ⟨p3,by simp,fun x hx y hy e=> ?_⟩;simp at hy;rw[List.any_eq_false]at c3;exact c3 x hx (by rw[e,hy]; exact ES _)
   have hnl:=Ev l;have hln:l≠[]:=fun e=>by
    subst e;have:patB (Bp [])=true:=c2;exact absurd this (by decide)
   have htp:=Va hln;have hcost:szs (ps++[Bp (BI l)])+(nxL l).length≤L0:=by rw[AaU,AaV]; omega
   by_cases d:(!eqS (Bp (BI (nxL l))) (⟨#[44]⟩:ByteArray))=true
   ·right;rw[AcZ d];exact⟨_,rfl,nxL l,_,rfl,hs.nx,ok,by simp,hcost⟩
   ·left;have hn2:=Ev (nxL l);have hle2:=hs.nx.nx.le;have hle1:=hs.nx.le;rw[Ac1 d,E9 hb hs.nx,Aa];refine⟨_,rfl,⟨nxL (nxL l),_,rfl,hs.nx.nx,ok,by omega⟩,?_⟩;show b.length-(DD b (nxL (nxL l))).toNat<b.length-(DD b l).toNat;unfold DD;omega
  ·right;rw[Ac1 c];exact⟨_,rfl,by show(71:Int)≠0; decide⟩
 obtain⟨r,h1,h2⟩:=JQ (step:=Aw) (fun st=>b.length-st.2.1.toNat) (fun st=> ∃l,PI b nm al L0 l st) (PR b nm al L0) key ET (b,DD b l,Bp (BI l),nm,al,([]:List ByteArray),0,0,0,0) ⟨l,[],rfl,h,Yi,by unfold szs; simpa using hl⟩ (by
  show b.length-(DD b l).toNat<ET;have:=DO;omega)
 exact⟨r,h1,h2⟩
theorem ZX {M:Nat}: ∀{l:List UInt8} {acc u:Nat},Go.Lib.parseUintM M acc l= .ok u→acc≤u
 | [],acc,u,h=>by cases h; exact AcV _
 |c::r,acc,u,h=>by
  unfold Go.Lib.parseUintM at h;split at h
  ·split at h
   ·cases h
   ·split at h
    ·cases h
    ·have:=ZX h; omega
  ·cases h
theorem Lu {l:List UInt8}{most u:Nat}(h:Uk l most=some u):1≤u∧u≤most:=by
 unfold Uk at h;cases hp:Go.Lib.parseUintB 64 l
 ·rename_i v;rw[hp]at h;dsimp only at h;split at h
  ·rename_i hc;cases h;simp only[AcQ,Adt,bne_iff_ne,ne_eq]at hc;obtain⟨⟨h1,h2⟩,h3⟩:=hc;refine⟨?_,h3⟩;unfold Go.Lib.parseUintB at hp;split at hp
   ·cases hp
   ·match l,h1,hp with
    |c::r,h1,hp=>
     unfold Go.Lib.parseUintM at hp;have h1: ¬c.toNat=48:=h1;split at hp
     ·split at hp
      ·cases hp
      ·split at hp
       ·cases hp
       ·have:=ZX hp; omega
     ·cases hp
  ·cases h
 ·rw[hp]at h; cases h
 ·rw[hp]at h; cases h
def RA (b l:List UInt8)(ahead:List g_api_Rule):RRes→Prop
 | .error z=>z.2≠0
 | .ok q=>q.2.1=ahead∧ahead.length≠32∧GoodR q.1∧(∀a∈ahead,a.Name≠q.1.Name)∧∃l',q.2.2=rdR b l'∧Suf b l'∧q.1.Name.size+szs q.1.Pats+l'.length+1≤l.length
def Z5 (r:Ae)(u0:UInt64):Option (((List UInt8)×Int×ByteArray×UInt64)⊕RRes):=
 if(eqS r.token_ (⟨#[107,101,121]⟩:ByteArray))=true then
  Ab (Af r) fun x15=>
  Ab (Av x15 2305843009213691579) fun y12=>match y12 with
  | .error z6=>some (.inr (.error z6))
  | .ok x16=>
  Ab (Ai x16.2 (⟨#[59]⟩:ByteArray)) fun y13=>match y13 with
  | .error z7=>some (.inr (.error z7))
  | .ok x17=>
  some (.inl (x17.b_,x17.at_,x17.token_,x16.1))
 else
 some (.inl (r.b_,r.at_,r.token_,u0))
def Qw (r:Ae)(u0:UInt64)(lf mo wi:Int):Option (((List UInt8)×Int×ByteArray×UInt64×Int×Int×Int)⊕RRes):=
 if(eqS r.token_ (⟨#[109,111,115,116]⟩:ByteArray))=true then
  Ab (Af r) fun x21=>
  Ab (Av x21 1000) fun y17=>match y17 with
  | .error z11=>some (.inr (.error z11))
  | .ok x22=>
  Ab (Ai x22.2 (⟨#[112,101,114]⟩:ByteArray)) fun y18=>match y18 with
  | .error z12=>some (.inr (.error z12))
  | .ok x23=>
  Ab (Av x23 1099511627776) fun y19=>match y19 with
  | .error z13=>some (.inr (.error z13))
  | .ok x24=>
  Ab (Ai x24.2 (⟨#[59]⟩:ByteArray)) fun y20=>match y20 with
  | .error z14=>some (.inr (.error z14))
  | .ok x25=>
  some (.inl (x25.b_,x25.at_,x25.token_,u0,lf,(w64 (x22.1.toNat:Int)),(w64 (x24.1.toNat:Int))))
 else
 some (.inl (r.b_,r.at_,r.token_,u0,lf,mo,wi))
def alX (al:Bool)(r:Ae):Option (((List UInt8)×Int×ByteArray×UInt64×Int×Int×Int)⊕RRes):=
 if al=true then
  Ab (Z5 r 0) fun x14=>match x14 with
  | .inr r=>some (.inr r)
  | .inl y11=>
  Ab (Ai (⟨y11.1,y11.2.1,y11.2.2.1⟩:Ae) (⟨#[108,105,102,101]⟩:ByteArray)) fun y14=>match y14 with
  | .error z8=>some (.inr (.error z8))
  | .ok x18=>
  Ab (Av x18 1000) fun y15=>match y15 with
  | .error z9=>some (.inr (.error z9))
  | .ok x19=>
  Ab (Ai x19.2 (⟨#[59]⟩:ByteArray)) fun y16=>match y16 with
  | .error z10=>some (.inr (.error z10))
  | .ok x20=>Qw x20 y11.2.2.2 (w64 (x19.1.toNat:Int)) 0 0
 else
 some (.inl (r.b_,r.at_,r.token_,0,0,0,0))
def kwA:ByteArray:=⟨#[97,108,108,111,119]⟩
def kwR:ByteArray:=⟨#[114,101,102,117,115,101]⟩
theorem VN (r:Ae)(ahead:List g_api_Rule):Bn r ahead=(
 if((!(eqS r.token_ kwA))&&(!eqS r.token_ kwR))=true then some (.error (r.at_,71))else
 if((ahead.length:Int)==32)=true then some (.error (r.at_,2))else
 Ab (Af r) fun x4=>
 Ab (A8 x4 ahead) fun y4=>match y4 with
 | .error z2=>some (.error z2)
 | .ok x5=>
 Ab (Ai x5.2 (⟨#[123]⟩:ByteArray)) fun y5=>match y5 with
 | .error z3=>some (.error z3)
 | .ok x6=>
 Ab (iter Aw ET (x6.b_,x6.at_,x6.token_,x5.1,(eqS r.token_ kwA),([]:List ByteArray),0,0,0,0)) fun x7=>match x7 with
 | .inr r=>some r
 | .inl y6=>Ab (Ai (⟨y6.1,y6.2.1,y6.2.2.1⟩:Ae) (⟨#[59]⟩:ByteArray)) fun y9=>match y9 with
  | .error z5=>some (.error z5)
  | .ok x12=>
  Ab (if y6.2.2.2.2.1=true then
   Ab (Z5 x12 y6.2.2.2.2.2.2.1) fun x14=>match x14 with
   | .inr r=>some (.inr r)
   | .inl y11=>
   Ab (Ai (⟨y11.1,y11.2.1,y11.2.2.1⟩:Ae) (⟨#[108,105,102,101]⟩:ByteArray)) fun y14=>match y14 with
   | .error z8=>some (.inr (.error z8))
   | .ok x18=>
   Ab (Av x18 1000) fun y15=>match y15 with
   | .error z9=>some (.inr (.error z9))
   | .ok x19=>
   Ab (Ai x19.2 (⟨#[59]⟩:ByteArray)) fun y16=>match y16 with
   | .error z10=>some (.inr (.error z10))
   | .ok x20=>Qw x20 y11.2.2.2 (w64 (x19.1.toNat:Int)) y6.2.2.2.2.2.2.2.2.1 y6.2.2.2.2.2.2.2.2.2
   else some (.inl (x12.b_,x12.at_,x12.token_,y6.2.2.2.2.2.2.1,y6.2.2.2.2.2.2.2.1,y6.2.2.2.2.2.2.2.2.1,y6.2.2.2.2.2.2.2.2.2))) fun x13=>match x13 with
  | .inr r=>some r
  | .inl y10=>
  Ab (Ai (⟨y10.1,y10.2.1,y10.2.2.1⟩:Ae) (⟨#[125]⟩:ByteArray)) fun y21=>match y21 with
  | .error z15=>some (.error z15)
  | .ok x26=>
  some (.ok ((⟨y6.2.2.2.1,y6.2.2.2.2.1,y6.2.2.2.2.2.1,y10.2.2.2.1,y10.2.2.2.2.1,y10.2.2.2.2.2.1,y10.2.2.2.2.2.2⟩:g_api_Rule),ahead,x26))):=by
 unfold Bn Bd Z5 Qw kwA kwR;by_cases c1:((!(eqS r.token_ (⟨#[97,108,108,111,119]⟩:ByteArray)))&&(!eqS r.token_ (⟨#[114,101,102,117,115,101]⟩:ByteArray)))=true
 ·rw[AcZ c1,AcZ c1]; rfl
 ·rw[Ac1 c1,Ac1 c1,Aa];dsimp only;by_cases c2:((ahead.length:Int)==32)=true
  ·rw[AcZ c2,AcZ c2]; rfl
  ·rw[Ac1 c2,Ac1 c2,Aa];rfl
theorem key_A {b:List UInt8}(hb:b.length≤100000){l:List UInt8}(h:Suf b l): ∃z,Z5 (rdR b l) 0=some z∧((∃p,z= .inr (.error p)∧p.2≠0)∨∃l' u,z= .inl (b,DD b l',Bp (BI l'),u)∧Suf b l'∧l'.length≤l.length∧u.toNat≤2305843009213691579):=by
 unfold Z5;have bad0: ∀l,(bad b l).2≠0:=fun l=>(by show(71:Int)≠0; decide);by_cases c:(eqS (Bp (BI l)) (⟨#[107,101,121]⟩:ByteArray))=true
 ·rw[AcZ c,E9 hb h,Aa,HV hb h.nx,Aa];have q1:=Ev l;have q2:=Ev (nxL l);have q3:=Ev (nxL (nxL l));cases hn:Uk (BI (nxL l)) (2305843009213691579:UInt64).toNat with
  |none=>exact⟨_,rfl,.inl ⟨_,rfl,bad0 _⟩⟩
  |some u=>
   have hu:=(Lu hn).2;dsimp only;rw[Ey hb h.nx.nx,Aa];by_cases c2:Bp (BI (nxL (nxL l)))=⟨#[59]⟩
   ·rw[AcZ c2];refine⟨_,rfl,.inr ⟨nxL (nxL (nxL l)),_,rfl,h.nx.nx.nx,by omega,?_⟩⟩;have e:(2305843009213691579:UInt64).toNat=2305843009213691579:=by decide
    rw[e]at hu;rw[UInt64.toNat_ofNat',Adx (by omega)];exact hu
   ·rw[Ac1 c2];exact⟨_,rfl,.inl ⟨_,rfl,bad0 _⟩⟩
 ·rw[Ac1 c];exact⟨_,rfl,.inr ⟨l,0,rfl,h,AcV _,by decide⟩⟩
theorem most_A {b:List UInt8}(hb:b.length≤100000){l:List UInt8}(h:Suf b l)(u0:UInt64)(lf:Int): ∃z,Qw (rdR b l) u0 lf 0 0=some z∧((∃p,z= .inr (.error p)∧p.2≠0)∨∃l' mo wi,z= .inl (b,DD b l',Bp (BI l'),u0,lf,mo,wi)∧Suf b l'∧l'.length≤l.length∧((mo=0∧wi=0)∨(1≤mo∧mo≤1000∧1≤wi∧wi≤1099511627776))):=by
 unfold Qw;have bad0: ∀l,(bad b l).2≠0:=fun l=>(by show(71:Int)≠0; decide);by_cases c:(eqS (Bp (BI l)) (⟨#[109,111,115,116]⟩:ByteArray))=true
 ·rw[AcZ c,E9 hb h,Aa,HV hb h.nx,Aa];have q1:=Ev l;have q2:=Ev (nxL l);have q3:=Ev (nxL (nxL l));have q4:=Ev (nxL (nxL (nxL l)));have q5:=Ev (nxL (nxL (nxL (nxL l))));cases hn:Uk (BI (nxL l)) (1000:UInt64).toNat with
  |none=>exact⟨_,rfl,.inl ⟨_,rfl,bad0 _⟩⟩
  |some u=>
   obtain⟨hu1,hu2⟩:=Lu hn;have e:(1000:UInt64).toNat=1000:=by decide
   rw[e]at hu2;clear e hn;dsimp only;rw[Ey hb h.nx.nx,Aa];by_cases c2:Bp (BI (nxL (nxL l)))=⟨#[112,101,114]⟩
   ·rw[AcZ c2];dsimp only;rw[HV hb h.nx.nx.nx,Aa];cases hn2:Uk (BI (nxL (nxL (nxL l)))) (1099511627776:UInt64).toNat with
    |none=>exact⟨_,rfl,.inl ⟨_,rfl,bad0 _⟩⟩
    |some v=>
     obtain⟨hv1,hv2⟩:=Lu hn2;have e2:(1099511627776:UInt64).toNat=1099511627776:=by decide
     rw[e2]at hv2;clear e2 hn2;dsimp only;rw[Ey hb h.nx.nx.nx.nx,Aa];by_cases c3:Bp (BI (nxL (nxL (nxL (nxL l)))))=⟨#[59]⟩
     ·rw[AcZ c3];have eu:w64 ((UInt64.ofNat u).toNat:Int)=(u:Int):=by
       rw[UInt64.toNat_ofNat',Adx (by omega),CK (by omega) (by omega)]
      have ev:w64 ((UInt64.ofNat v).toNat:Int)=(v:Int):=by
       rw[UInt64.toNat_ofNat',Adx (by omega),CK (by omega) (by omega)]
      dsimp only;rw[eu,ev];exact⟨_,rfl,.inr ⟨nxL (nxL (nxL (nxL (nxL l)))),(u:Int),(v:Int),rfl,h.nx.nx.nx.nx.nx,by omega,.inr ⟨Int.ofNat_le.2 hu1,Int.ofNat_le.2 hu2,Int.ofNat_le.2 hv1,Int.ofNat_le.2 hv2⟩⟩⟩
     ·rw[Ac1 c3];exact⟨_,rfl,.inl ⟨_,rfl,bad0 _⟩⟩
   ·rw[Ac1 c2];exact⟨_,rfl,.inl ⟨_,rfl,bad0 _⟩⟩
 ·rw[Ac1 c];exact⟨_,rfl,.inr ⟨l,0,0,rfl,h,AcV _,.inl ⟨rfl,rfl⟩⟩⟩
theorem al_A {b:List UInt8}(hb:b.length≤100000){l:List UInt8}(h:Suf b l)(al:Bool): ∃z,alX al (rdR b l)=some z∧((∃p,z= .inr (.error p)∧p.2≠0)∨∃l' u lf mo wi,z= .inl (b,DD b l',Bp (BI l'),u,lf,mo,wi)∧Suf b l'∧l'.length≤l.length∧
  (al=true→u.toNat≤2305843009213691579∧1≤lf∧lf≤1000∧((mo=0∧wi=0)∨(1≤mo∧mo≤1000∧1≤wi∧wi≤1099511627776)))∧(al=false→u=0∧lf=0∧mo=0∧wi=0)):=by
 unfold alX;have bad0: ∀l,(bad b l).2≠0:=fun l=>(by show(71:Int)≠0; decide);cases al with
 |false=>
  rw[Ac1 (by decide)];exact⟨_,rfl,.inr ⟨l,0,0,0,0,rfl,h,AcV _,(fun h=>(by cases h)),fun _=>⟨rfl,rfl,rfl,rfl⟩⟩⟩
 |true=>
  rw[AcZ rfl];obtain⟨z,hz,⟨p,rfl,hp⟩|⟨l1,u,rfl,h1,hl1,hu⟩⟩:=key_A hb h
  ·rw[hz,Aa];exact⟨_,rfl,.inl ⟨_,rfl,hp⟩⟩
  ·rw[hz,Aa];dsimp only;rw[Ey hb h1,Aa];by_cases c:Bp (BI l1)=⟨#[108,105,102,101]⟩
   ·rw[AcZ c];dsimp only;rw[HV hb h1.nx,Aa];have q1:=Ev l1;have q2:=Ev (nxL l1);have q3:=Ev (nxL (nxL l1));cases hn:Uk (BI (nxL l1)) (1000:UInt64).toNat with
    |none=>exact⟨_,rfl,.inl ⟨_,rfl,bad0 _⟩⟩
    |some v=>
     obtain⟨hv1,hv2⟩:=Lu hn;have e:(1000:UInt64).toNat=1000:=by decide
     rw[e]at hv2;clear e hn;dsimp only;rw[Ey hb h1.nx.nx,Aa];by_cases c2:Bp (BI (nxL (nxL l1)))=⟨#[59]⟩
     ·rw[AcZ c2];dsimp only;have ev:w64 ((UInt64.ofNat v).toNat:Int)=(v:Int):=by
       rw[UInt64.toNat_ofNat',Adx (by omega),CK (by omega) (by omega)]
      rw[ev];obtain⟨z,hz,⟨p,rfl,hp⟩|⟨l2,mo,wi,rfl,h2,hl2,hmw⟩⟩:=most_A hb h1.nx.nx.nx u (v:Int)
      ·rw[hz];exact⟨_,rfl,.inl ⟨_,rfl,hp⟩⟩
      ·rw[hz];exact⟨_,rfl,.inr ⟨l2,u,(v:Int),mo,wi,rfl,h2,by omega,fun _=>⟨hu,Int.ofNat_le.2 hv1,Int.ofNat_le.2 hv2,hmw⟩,fun h=>by cases h⟩⟩
     ·rw[Ac1 c2];exact⟨_,rfl,.inl ⟨_,rfl,bad0 _⟩⟩
   ·rw[Ac1 c];exact⟨_,rfl,.inl ⟨_,rfl,bad0 _⟩⟩
theorem rule_A {b:List UInt8}(hb:b.length≤100000){l:List UInt8}(h:Suf b l)(ahead:List g_api_Rule): ∃res,Bn (rdR b l) ahead=some res∧RA b l ahead res:=by
 have bad0: ∀l,(bad b l).2≠0:=fun l=>(by show(71:Int)≠0; decide);rw[VN];by_cases c1:((!(eqS (Bp (BI l)) kwA))&&(!eqS (Bp (BI l)) kwR))=true
 ·rw[AcZ c1];exact⟨_,rfl,bad0 l⟩
 ·rw[Ac1 c1];have hln:l≠[]:=fun e=>by
   subst e;exact c1 (by decide)
  have htp:=Va hln;by_cases c2:((ahead.length:Int)==32)=true
  ·rw[AcZ c2];exact⟨_,rfl,(by show(2:Int)≠0; decide)⟩
  ·rw[Ac1 c2,E9 hb h,Aa,P9 hb h.nx,Aa];have q1:=Ev l;have q2:=Ev (nxL l);have q3:=Ev (nxL (nxL l));by_cases c3:ZP ahead (Bp (BI (nxL l)))=true
   ·rw[AcZ c3];dsimp only;rw[Ey hb h.nx.nx,Aa];by_cases c4:Bp (BI (nxL (nxL l)))=⟨#[123]⟩
    ·rw[AcZ c4];dsimp only;obtain⟨r,hr,hR⟩:=pats_A hb (Bp (BI (nxL l))) (eqS (Bp (BI l)) kwA) _ h.nx.nx.nx (AcV _);rw[hr,Aa];match r,hR with
     | .inr (.error z),hR=>exact⟨_,rfl,hR⟩
     | .inl st,hR=>
      obtain⟨l4,ps,rfl,h4,ok,p1,hc⟩:=hR;dsimp only;rw[Ey hb h4,Aa];by_cases c5:Bp (BI l4)=⟨#[59]⟩
      ·rw[AcZ c5];dsimp only;have q5:=Ev l4;obtain⟨z,hz,hz2⟩:=al_A hb h4.nx (eqS (Bp (BI l)) kwA);unfold alX at hz;dsimp only at hz;rw[hz,Aa];rcases hz2 with ⟨p,rfl,hp⟩|⟨l6,u,lf,mo,wi,rfl,h6,hl6,ha,hf⟩
       ·exact⟨_,rfl,hp⟩
       ·dsimp only;rw[Ey hb h6,Aa];by_cases c6:Bp (BI l6)=⟨#[125]⟩
        ·rw[AcZ c6];have q6:=Ev l6;have e6:(BI l6).length=1:=by
          have:=Adp ByteArray.size c6;rw[AaV]at this;exact this
         unfold ZP at c3;simp only[AcQ,Bool.not_eq_true']at c3;obtain⟨o1,o2,o3⟩:=ok;refine⟨_,rfl,rfl,fun e=>c2 (by simp[e]),⟨c3.1,p1,o1,o2,o3,ha,hf⟩,fun a hma e=> ?_,nxL l6,rfl,h6.nx,?_⟩
         ·have:=List.any_eq_false.1 c3.2 a hma;rw[e]at this;exact this (ES _)
         ·show(Bp (BI (nxL l))).size+szs ps+(nxL l6).length+1≤l.length;rw[AaV];generalize (BI (nxL l)).length=n1 at*;generalize (nxL l).length=n2 at*;generalize (nxL (nxL l)).length=n3 at*;generalize (nxL (nxL (nxL l))).length=n4 at*;generalize (nxL l4).length=n5 at*;generalize (nxL l6).length=n6 at*;omega
        ·rw[Ac1 c6];exact⟨_,rfl,bad0 _⟩
      ·rw[Ac1 c5];exact⟨_,rfl,bad0 _⟩
    ·rw[Ac1 c4];exact⟨_,rfl,bad0 _⟩
   ·rw[Ac1 c3];exact⟨_,rfl,bad0 _⟩
def szL (l:List g_api_Rule):Nat:=(l.map fun r=>r.Name.size+szs r.Pats).sum
abbrev PSt:=(List UInt8)×Int×ByteArray×(List g_api_Rule)
def PInv (b:List UInt8)(st:PSt):Prop:= ∃l rs,st=(b,DD b l,Bp (BI l),rs)∧Suf b l∧Lh rs∧szL rs+l.length≤b.length
def PRes (b:List UInt8):(PSt⊕(Except (Int×Int) ((List g_api_Rule)×Int×Int)))→Prop
 | .inr (.error z)=>z.2≠0
 | .inr (.ok _)=>False
 | .inl st=>Lh st.2.2.2∧szL st.2.2.2≤b.length
theorem Abw {b:List UInt8}(hb:b.length≤32768): ∃rs t e,BQ b=some (rs,t,e)∧(e≠0→rs=[])∧(e=0→Lh rs∧szL rs≤b.length):=by
 have hb1:b.length≤100000:=by omega
 have hs:Suf b b:=⟨[],rfl⟩;have h0:Af ⟨b,0,ByteArray.empty⟩=some (rdR b (BG b)):=RP hb1 hs 0 _ (by unfold DD; simp);have key: ∀st:PSt,PInv b st→(∃s',Bf st=some (.inl s')∧PInv b s'∧b.length-s'.2.1.toNat<b.length-st.2.1.toNat)∨∃r,Bf st=some (.inr r)∧PRes b r:=by
  rintro st ⟨l,rs,rfl,hs,G,hc⟩;have hle:=hs.le;unfold Bf;dsimp only;by_cases c:(!eqS (Bp (BI l)) (⟨#[]⟩:ByteArray))=true
  ·rw[AcZ c];obtain⟨res,hr,hR⟩:=rule_A hb1 hs rs;rw[hr,Aa];match res,hR with
   | .error z,hR=>exact .inr ⟨_,rfl,hR⟩
   | .ok (x,ah,r'),hR=>
    obtain⟨e1,e2,gx,fr,l',e3,hs',hc'⟩:=hR;simp only at e1 e3 gx fr hc';subst e1 e3;have hl32:=G.len;have hle':=hs'.le;dsimp only;rw[Fh 80 (by simp; omega) (by simp; omega),Aa];left;refine⟨_,rfl,⟨l',_,rfl,hs',⟨by simp; omega,fun r hr=> ?_,?_⟩,?_⟩,?_⟩
    ·rcases Adc.1 hr with hr|hr
     ·exact G.all r hr
     ·simp at hr; rw[hr]; exact gx
    ·rw[Adj];refine List.nodup_append.2 ⟨G.nms,by simp,fun n hn m hm e=> ?_⟩;obtain⟨a,ha,rfl⟩:=List.mem_map.1 hn;simp at hm;exact fr a ha (e.trans hm)
    ·unfold szL at hc⊢;rw[Adj,List.sum_append];simp only[Adg,List.map_nil,List.sum_cons,List.sum_nil];omega
    ·show b.length-(DD b l').toNat<b.length-(DD b l).toNat;unfold DD;omega
  ·right;rw[Ac1 c];exact⟨_,rfl,G,by show szL rs≤b.length; omega⟩
 obtain⟨r,h1,h2⟩:=JQ (step:=Bf) (fun st=>b.length-st.2.1.toNat) (PInv b) (PRes b) key ET (b,DD b (BG b),Bp (BI (BG b)),([]:List g_api_Rule)) ⟨BG b,[],rfl,hs.skip,⟨AdI _,(fun r hr=>(by cases hr)),List.nodup_nil⟩,by
   have:=SB b;show 0+_≤_;omega⟩ (by
  show b.length-(DD b (BG b)).toNat<ET;have:=DO;omega)
 unfold BQ Cb;rw[Ac1 (by simp; omega),h0,Aa];dsimp only;rw[h1,Aa];match r,h2 with
 | .inr (.error z),h2=>exact⟨_,_,_,rfl,fun _=>rfl,fun e=>absurd e h2⟩
 | .inl st,h2=>exact⟨_,_,_,rfl,fun e=>absurd rfl e,fun _=>h2⟩
theorem Zq {p:UInt8→Bool}{r:List UInt8}(hr:r.takeWhile p=[]): ∀{w:List UInt8},(∀c∈w,p c=true)→(w++r).takeWhile p=w
 | [],_=>hr
 |a::w,h=>by
  rw[AdC,List.takeWhile_cons,AcZ (h a (Adb ..)),Zq hr fun c hc=>h c (Adh _ hc)]
def Stop (r:List UInt8):Prop:=r.takeWhile CY=[]
theorem Ns {c:UInt8}(h:CY c=false)(r:List UInt8):Stop (c::r):=by
 unfold Stop;rw[List.takeWhile_cons,Ac1 (by rw[h]; decide)]
theorem U9 {w r:List UInt8}(hw:w≠[])(h: ∀c∈w,CY c=true)(hr:Stop r):BI (w++r)=w:=by
 unfold BI;rw[Zq hr h,Ac1 hw]
theorem nx_w {w r:List UInt8}(hw:w≠[])(h: ∀c∈w,CY c=true)(hr:Stop r):nxL (w++r)=BG r:=by
 unfold nxL;rw[U9 hw h hr,AdN]
theorem Rq {c:UInt8}(h:CY c=false)(r:List UInt8):BI (c::r)=[c]:=by
 unfold BI;rw[show(c::r).takeWhile CY=[]from Ns h r,AcZ rfl];rfl
theorem nx_p {c:UInt8}(h:CY c=false)(r:List UInt8):nxL (c::r)=BG r:=by
 unfold nxL;rw[Rq h];rfl
theorem Zo {P:UInt8→Bool}(h: ∀n<256,P (UInt8.ofNat n)=true)(c:UInt8):P c=true:=by
 have:=h c.toNat c.toNat_lt;rwa [UInt8.ofNat_toNat]at this
theorem AaH {c:UInt8}(h:CY c=true): ¬(c=32∨c=10)∧c≠35:=by
 refine⟨fun e=> ?_,fun e=> ?_⟩
 ·rcases e with rfl|rfl<;>exact absurd h (by decide)
 ·subst e; exact absurd h (by decide)
theorem GF {w r:List UInt8}(hw:w≠[])(h: ∀c∈w,CY c=true):BG (w++r)=w++r:=by
 match w,hw with
 |a::w,_=>
  obtain⟨h1,h2⟩:=AaH (h a (Adb ..));exact Gr h1 h2 _
theorem Yv: ∀c∈toL AbJ,CY c=true:=by decide
theorem Wq {s:ByteArray}(h:nmV s=true):toL s≠[]∧∀c∈toL s,CY c=true:=by
 obtain⟨h1,_,h2⟩:=Wp h;exact⟨h1,fun c hc=>Yv c (by simpa using h2 c hc)⟩
theorem MH (c:UInt8):(!(Fg c)||CY c)=true:=Zo (P:=fun c=> !(Fg c)||CY c) (by decide) c
theorem LV: ∀{l:List UInt8},Oz l=true→∀c∈l,CY c=true
 | [],_,c,hc=>by cases hc
 | [a],h,c,hc=>by
  simp at hc; subst hc;have h:Fg c=true:=h;have:=MH c;rw[h]at this; exact this
 |a::d::r,h,c,hc=>by
  have h:(WK a&&Oz (d::r))=true:=h;rw[AcQ]at h;rcases Ado.1 hc with rfl|hc
  ·have h1:=h.1;unfold WK at h1;rcases Bool.or_eq_true_iff.1 h1 with h1|h1
   ·have:c=45:=UInt8.toNat_inj.1 (by simpa using h1);subst this; decide
   ·have:=MH c;rw[h1]at this; exact this
  ·exact LV h.2 c hc
theorem YD {l:List UInt8}(h:Mx l=true): ∀c∈l,CY c=true:=by
 match l,h with
 | [a],h=>exact LV (l:=[a]) h
 |a::d::r,h=>
  have h:((Fg a||a.toNat==95)&&Oz (d::r)&&decide ((a::d::r).length≤16))=true:=h;simp only[AcQ]at h;intro c hc;rcases Ado.1 hc with rfl|hc
  ·rcases Bool.or_eq_true_iff.1 h.1.1 with h1|h1
   ·have:=MH c;rw[h1]at this; exact this
   ·have:c=95:=UInt8.toNat_inj.1 (by simpa using h1);subst this; decide
  ·exact LV h.1.2 c hc
theorem Ka: ∀(l:List UInt8),(∀x∈Ar l,∀c∈x,CY c=true)→∀c∈l,CY c=true
 | [],_,c,hc=>by cases hc
 |a::l,h,c,hc=>by
  rw[IJ]at h;by_cases e:a=46
  ·subst e;rw[AcZ rfl]at h;rcases Ado.1 hc with rfl|hc
   ·decide
   ·exact Ka l (fun x hx=>h x (Adh _ hx)) c hc
  ·rw[Ac1 e]at h;cases hq:Ar l with
   |nil=>exact absurd hq (Fq l)
   |cons y t=>
    rw[hq]at h;have h1: ∀x∈Ar l,∀c∈x,CY c=true:=fun x hx c hc=>by
     rw[hq]at hx;rcases Ado.1 hx with rfl|hx
     ·exact h (a::x) (Adb ..) c (Adh _ hc)
     ·exact h x (Adh _ hx) c hc
    rcases Ado.1 hc with rfl|hc
    ·exact h (c::y) (Adb ..) c (Adb ..)
    ·exact Ka l h1 c hc
theorem Tq {l:List UInt8}{n k:Nat}(h:isB l n k=true):l≠[]∧∀c∈l,CY c=true:=by
 refine⟨fun e=>(by rw[e,WH]at h; cases h),Ka l fun x hx=>YD ?_⟩;exact Adf.1 (Hi h).2.2 x hx
theorem OW {p:ByteArray}(h:patB p=true):toL p≠[]∧∀c∈toL p,CY c=true:=by
 unfold patB at h;rcases Bool.or_eq_true_iff.1 h with h|h
 ·exact Tq h
 ·obtain⟨r,e,h2⟩:=Gf h;rw[e];refine⟨by simp,fun c hc=> ?_⟩;rcases Ado.1 hc with rfl|hc
  ·decide
  ·rcases Ado.1 hc with rfl|hc
   ·decide
   ·exact(Tq h2).2 c hc
theorem QW: ∀(n u:Nat),u≤n→∀c∈Go.Lib.decDigits u,48≤c.toNat∧c.toNat≤57
 |n,u,hu,c,hc=>by
  rw[Go.Lib.decDigits]at hc;split at hc
  ·have hc:=AdL.1 hc;rw[hc,UInt8.toNat_ofNat',Adx (by omega)];omega
  ·rename_i h;rcases Adc.1 hc with hc|hc
   ·match n,hu with
    |0,hu=>omega
    |n+1,hu=>exact QW n (u/10) (by omega) c hc
   ·have hc:=AdL.1 hc;rw[hc,UInt8.toNat_ofNat',Adx (by omega)];omega
theorem Ut (c:UInt8):(!(decide (48≤c.toNat)&&decide (c.toNat≤57))||CY c)=true:=Zo (P:=fun c=> !(decide (48≤c.toNat)&&decide (c.toNat≤57))||CY c) (by decide) c
theorem El (u:Nat):Go.Lib.decDigits u≠[]∧∀c∈Go.Lib.decDigits u,CY c=true:=by
 refine⟨fun e=> ?_,fun c hc=> ?_⟩
 ·rw[Go.Lib.decDigits]at e;split at e<;>simp at e
 ·obtain⟨h1,h2⟩:=QW u u (AcV _) c hc;have:=Ut c;rw[Adm h1,Adm h2]at this;exact this
theorem ZR {M:Nat}{c:UInt8}(h1:48≤c.toNat)(h2:c.toNat≤57): ∀{l:List UInt8} {acc v:Nat},Go.Lib.parseUintM M acc l= .ok v→v<1844674407370955162→v*10+(c.toNat-48)≤M→Go.Lib.parseUintM M acc (l++[c])= .ok (v*10+(c.toNat-48))
 | [],acc,v,h,h3,h4=>by
  cases h;show Go.Lib.parseUintM M acc [c]=_;unfold Go.Lib.parseUintM;rw[AcZ ⟨h1,h2⟩,Ac1 (by omega),Ac1 (by omega)];rfl
 |a::l,acc,v,h,h3,h4=>by
  rw[AdC];unfold Go.Lib.parseUintM at h⊢;split at h
  ·rename_i c1;rw[AcZ c1];split at h
   ·cases h
   ·rename_i c2;rw[Ac1 c2];split at h
    ·cases h
    ·rename_i c3;rw[Ac1 c3];exact ZR h1 h2 h h3 h4
  ·cases h
theorem ZQ {M:Nat}: ∀(n u:Nat),u≤n→u≤M→u<18446744073709551610→Go.Lib.parseUintM M 0 (Go.Lib.decDigits u)= .ok u
 |n,u,hn,hM,hu=>by
  rw[Go.Lib.decDigits];split
  ·rename_i h;have e:(UInt8.ofNat (48+u)).toNat=48+u:=by rw[UInt8.toNat_ofNat',Adx (by omega)]
   unfold Go.Lib.parseUintM;rw[e,AcZ ⟨by omega,by omega⟩,Ac1 (by omega),Ac1 (by omega)];unfold Go.Lib.parseUintM;congr 1;omega
  ·rename_i h;match n,hn with
   |0,hn=>omega
   |n+1,hn=>
    have ih:=ZQ (M:=M) n (u/10) (by omega) (by omega) (by omega);have e:(UInt8.ofNat (48+u%10)).toNat=48+u%10:=by rw[UInt8.toNat_ofNat',Adx (by omega)]
    rw[ZR (by omega) (by omega) ih (by omega) (by omega)];congr 1;omega
theorem R6: ∀(k u:Nat),1≤k→u<10^k→(Go.Lib.decDigits u).length≤k
 |1,u,_,h=>by
  rw[Go.Lib.decDigits,dif_pos (by omega)];exact AcV _
 |k+2,u,_,h=>by
  rw[Go.Lib.decDigits];split
  ·simp
  ·rw[Ac5];have:u/10<10^ (k+1):=by
    rw[Nat.div_lt_iff_lt_mul (by decide)];rw[Nat.pow_succ]at h;exact h
   have:=R6 (k+1) (u/10) (by omega) this;simp;omega
theorem TF: ∀(n u:Nat),u≤n→1≤u→((Go.Lib.decDigits u).headD 0).toNat≠48
 |n,u,hn,h1=>by
  rw[Go.Lib.decDigits];split
  ·show(UInt8.ofNat (48+u)).toNat≠48;rw[UInt8.toNat_ofNat',Adx (by omega)];omega
  ·match n,hn with
   |0,hn=>omega
   |n+1,hn=>
    have ih:=TF n (u/10) (by omega) (by omega);have hne:=(El (u/10)).1;match hd:Go.Lib.decDigits (u/10),hne with
    |a::l,_=>rw[hd]at ih; exact ih
theorem Yl {u most:Nat}(h1:1≤u)(h2:u≤most)(h3:u<10000000000000000000):Uk (Go.Lib.decDigits u) most=some u:=by
 unfold Uk;have hp:Go.Lib.parseUintB 64 (Go.Lib.decDigits u)= .ok u:=by
  unfold Go.Lib.parseUintB;rw[Ac1 (El u).1];exact ZQ u u (AcV _) (by omega) (by omega)
 rw[hp];dsimp only;have hl:=R6 19 u (by decide) (by omega);have hh:=TF u u (AcV _) h1;rw[AcZ];simp only[AcQ,Adt,bne_iff_ne,ne_eq];exact⟨⟨hh,by omega⟩,h2⟩
theorem Suf.app {b w r:List UInt8}(h:Suf b (w++r)):Suf b r:=by
 obtain⟨p,rfl⟩:=h;exact⟨p++w,by rw[AcR]⟩
def kwL (al:Bool):List UInt8:=if al=true then [97,108,108,111,119]else [114,101,102,117,115,101]
def Ul (x:g_api_Rule)(r:List UInt8):List UInt8:=if x.KeyMin.toNat>0 then [107,101,121]++32::(Go.Lib.decDigits x.KeyMin.toNat++59::32::r)else r
def Mv (x:g_api_Rule)(r:List UInt8):List UInt8:=if x.Allow=true then [108,105,102,101]++32::(Go.Lib.decDigits x.LifeMax.toNat++59::32::r)else r
def Gs (x:g_api_Rule)(r:List UInt8):List UInt8:=if x.Most>0 then [109,111,115,116]++32::(Go.Lib.decDigits x.Most.toNat++32::([112,101,114]++32::(Go.Lib.decDigits x.Window.toNat++59::32::r)))else r
def Gq (x:g_api_Rule)(r:List UInt8):List UInt8:=Ul x (Mv x (Gs x (125::10::r)))
def Ju (x:g_api_Rule)(r:List UInt8):List UInt8:=kwL x.Allow++32::(toL x.Name++32::123::32::(CA x.Pats++59::32::Gq x r))
theorem join_one (p:ByteArray):CA [p]=toL p:=by unfold CA; rw[Adg,List.map_nil,Go.Lib.join_one]; rfl
theorem Ph (p q:ByteArray)(qs:List ByteArray):CA (p::q::qs)=toL p++44::32::CA (q::qs):=by
 unfold CA;rw[Adg,Go.Lib.join_cons,Adg,Go.Lib.join_cons];unfold Go.Lib.joinTail;simp;rfl
theorem QH {ps:List ByteArray}(h:ps≠[])(hp: ∀p∈ps,patB p=true)(r:List UInt8):BG (CA ps++r)=CA ps++r:=by
 match ps,h with
 | [p],_=>
  obtain⟨h1,h2⟩:=OW (hp p (Adb ..));rw[join_one];exact GF h1 h2
 |p::q::qs,_=>
  obtain⟨h1,h2⟩:=OW (hp p (Adb ..));rw[Ph,AcR];exact GF h1 h2
theorem ZS {b:List UInt8}(hb:b.length≤100000)(nm:ByteArray)(al:Bool)(R:List UInt8): ∀(qs done:List ByteArray) (fuel:Nat),qs≠[]→qs.length<fuel→NT (done++qs)→Suf b (CA qs++59::R)→
  iter Aw fuel (b,DD b (CA qs++59::R),Bp (BI (CA qs++59::R)),nm,al,done,0,0,0,0)=some (.inl (b,DD b (59::R),Bp (BI (59::R)),nm,al,done++qs,0,0,0,0))
 | [],_,_,h,_,_,_=>absurd rfl h
 |q::qs,done,fuel+1,_,hf,ok,hs=>by
  obtain⟨o1,o2,o3⟩:=ok;have hq:patB q=true:=o2 q (List.mem_append_right _ (Adb ..));obtain⟨w1,w2⟩:=OW hq;rw[Ac5,AcY]at o1;have hpr:ZO done q=true:=by
   unfold ZO;rw[Adm (show done.length<8 by omega),hq];have:done.any (eqS q)=false:=by
    rw[List.any_eq_false];intro x hx e;have:=MF e;subst this;exact(List.nodup_append.1 o3).2.2 _ hx _ (Adb ..) rfl
   rw[this]; rfl
  have happ:app 16 done [q]=some (done++[q]):=Fh 16 (by simp; omega) (by simp; omega);cases qs with
  |nil=>
   rw[join_one]at hs⊢;have st:Stop (59::R):=Ns (by decide) R;have e1:=U9 w1 w2 st;have e2:nxL (toL q++59::R)=59::R:=by rw[nx_w w1 w2 st]; exact Gr (by decide) (by decide) R
   show Ab (Aw _) _=_;unfold Aw;dsimp only;rw[LU hb hs,Aa,e1,Ct,AcZ hpr];dsimp only;have hd:(!eqS (Bp (BI (59::R))) (⟨#[44]⟩:ByteArray))=true:=by rw[Rq (by decide)]; decide
   rw[happ,Aa,e2,AcZ hd,Aa]
  |cons r qs=>
   rw[Ph,AcR]at hs⊢;have st:Stop (44::32::CA (r::qs)++59::R):=Ns (by decide) _;have e1:=U9 w1 w2 st;have e2:nxL (toL q++(44::32::CA (r::qs)++59::R))=44::32::CA (r::qs)++59::R:=by rw[nx_w w1 w2 st]; exact Gr (by decide) (by decide) _
   have e3:nxL (44::32::CA (r::qs)++59::R)=CA (r::qs)++59::R:=by
    show nxL (44::(32::(CA (r::qs)++59::R)))=_;rw[nx_p (by decide),HL (.inl rfl)];exact QH (by simp) (fun p hp=>o2 p (List.mem_append_right _ (Adh _ hp))) _
   have hs2:Suf b (44::32::CA (r::qs)++59::R):=hs.app;have hs3:Suf b (CA (r::qs)++59::R):=hs2.tail.tail;have ih:=ZS hb nm al R (r::qs) (done++[q]) fuel (by simp) (by simp only[AcY]at hf⊢; omega) (by
    rw[AcR];exact⟨by simp at o1⊢; omega,o2,o3⟩) hs3
   rw[AcR]at ih;show Ab (Aw _) _=_;unfold Aw;dsimp only;rw[LU hb hs,Aa,e1,Ct,AcZ hpr];dsimp only;rw[happ,Aa,e2];have e4:BI (44::32::CA (r::qs)++59::R)=[44]:=Rq (by decide) _;have hd: ¬((!eqS (Bp (BI (44::32::CA (r::qs)++59::R))) (⟨#[44]⟩:ByteArray))=true):=by rw[e4]; decide
   rw[Ac1 hd];have hn:=E9 hb hs2;rw[e3]at hn;rw[hn,Aa,Aa];exact ih
theorem Zu (r:List UInt8):Stop (32::r):=Ns (by decide) r
theorem AaO {w:List UInt8}(hw:w≠[])(h: ∀c∈w,CY c=true)(r:List UInt8):BI (w++32::r)=w∧nxL (w++32::r)=BG r:=by
 refine⟨U9 hw h (Zu r),?_⟩;rw[nx_w hw h (Zu r),HL (.inl rfl)]
theorem numD {b:List UInt8}(hb:b.length≤100000){u:Nat}{c:UInt8}{r:List UInt8}(hc:CY c=false)(h:Suf b (Go.Lib.decDigits u++c::r))(most:UInt64)(h1:1≤u)(h2:u≤most.toNat)(h3:u<10000000000000000000):
  Av (rdR b (Go.Lib.decDigits u++c::r)) most=some (.ok (UInt64.ofNat u,rdR b (BG (c::r)))):=by
 obtain⟨w1,w2⟩:=El u;rw[HV hb h,U9 w1 w2 (Ns hc r),Yl h1 h2 h3,nx_w w1 w2 (Ns hc r)]
theorem semi {b:List UInt8}(hb:b.length≤100000){r:List UInt8}(h:Suf b (59::32::r)):Ai (rdR b (59::32::r)) ⟨#[59]⟩=some (.ok (rdR b (BG r))):=by
 rw[Ey hb h,Rq (by decide),nx_p (by decide),HL (.inl rfl)];rw[AcZ (show Bp [59]=(⟨#[59]⟩:ByteArray)from rfl)]
theorem GR:(∀c∈([107,101,121]:List UInt8),CY c=true)∧(∀c∈([108,105,102,101]:List UInt8),CY c=true)∧(∀c∈([109,111,115,116]:List UInt8),CY c=true)∧(∀c∈([112,101,114]:List UInt8),CY c=true):=by decide
theorem key_B {b:List UInt8}(hb:b.length≤100000){x:g_api_Rule}{r:List UInt8}(hq:x.KeyMin.toNat≤2305843009213691579)(hr:BG r=r)(hk:eqS (Bp (BI r)) (⟨#[107,101,121]⟩:ByteArray)=false)(h:Suf b (Ul x r)):
  Z5 (rdR b (Ul x r)) 0=some (.inl (b,DD b r,Bp (BI r),x.KeyMin)):=by
 unfold Ul at h⊢;by_cases c:x.KeyMin.toNat>0
 ·rw[AcZ c]at h⊢;obtain⟨t1,t2⟩:=AaO (w:=[107,101,121]) (by simp) GR.1 (Go.Lib.decDigits x.KeyMin.toNat++59::32::r);have hd:BG (Go.Lib.decDigits x.KeyMin.toNat++59::32::r)=Go.Lib.decDigits x.KeyMin.toNat++59::32::r:=GF (El _).1 (El _).2;rw[hd]at t2;have e0:(eqS (Bp (BI ([107,101,121]++32::(Go.Lib.decDigits x.KeyMin.toNat++59::32::r)))) (⟨#[107,101,121]⟩:ByteArray))=true:=by rw[t1]; decide
  have hs:Suf b (Go.Lib.decDigits x.KeyMin.toNat++59::32::r):=h.app.tail;unfold Z5;rw[AcZ e0,E9 hb h,t2,Aa,numD hb (by decide) hs 2305843009213691579 c hq (by omega),Aa];dsimp only;rw[Gr (by decide) (by decide),semi hb hs.app,Aa,hr];dsimp only;rw[UInt64.ofNat_toNat]
 ·rw[Ac1 c]at h⊢;have e:x.KeyMin=0:=UInt64.toNat_inj.1 (by
   have:(0:UInt64).toNat=0:=rfl;omega)
  unfold Z5;have e0: ¬((eqS (Bp (BI r)) (⟨#[107,101,121]⟩:ByteArray))=true):=by rw[hk]; decide
  rw[Ac1 e0,e]
theorem w64N {u:Nat}(h:u≤1099511627776):w64 ((UInt64.ofNat u).toNat:Int)=(u:Int):=by
 rw[UInt64.toNat_ofNat',Adx (by omega),CK (by omega) (by omega)]
theorem most_B {b:List UInt8}(hb:b.length≤100000){x:g_api_Rule}{r:List UInt8}(u0:UInt64)(lf:Int)(hm:(x.Most=0∧x.Window=0)∨(1≤x.Most∧x.Most≤1000∧1≤x.Window∧x.Window≤1099511627776))(hr:BG r=r)(hk:eqS (Bp (BI r)) (⟨#[109,111,115,116]⟩:ByteArray)=false)(h:Suf b (Gs x r)):
  Qw (rdR b (Gs x r)) u0 lf 0 0=some (.inl (b,DD b r,Bp (BI r),u0,lf,x.Most,x.Window)):=by
 unfold Gs at h⊢;by_cases c:x.Most>0
 ·rw[AcZ c]at h⊢;rcases hm with ⟨q,_⟩|⟨m1,m2,m3,m4⟩
  ·omega
  ·obtain⟨t1,t2⟩:=AaO (w:=[109,111,115,116]) (by simp) GR.2.2.1 (Go.Lib.decDigits x.Most.toNat++32::([112,101,114]++32::(Go.Lib.decDigits x.Window.toNat++59::32::r)));obtain⟨t3,t4⟩:=AaO (w:=[112,101,114]) (by simp) GR.2.2.2 (Go.Lib.decDigits x.Window.toNat++59::32::r);have d1:BG (Go.Lib.decDigits x.Most.toNat++32::([112,101,114]++32::(Go.Lib.decDigits x.Window.toNat++59::32::r)))=_:=GF (El _).1 (El _).2;have d2:BG (Go.Lib.decDigits x.Window.toNat++59::32::r)=_:=GF (El _).1 (El _).2;have d3:BG (32::([112,101,114]++32::(Go.Lib.decDigits x.Window.toNat++59::32::r)))=[112,101,114]++32::(Go.Lib.decDigits x.Window.toNat++59::32::r):=by
    rw[HL (.inl rfl)];exact GF (by simp) GR.2.2.2
   rw[d1]at t2;rw[d2]at t4;have e0:(eqS (Bp (BI ([109,111,115,116]++32::(Go.Lib.decDigits x.Most.toNat++32::([112,101,114]++32::(Go.Lib.decDigits x.Window.toNat++59::32::r)))))) (⟨#[109,111,115,116]⟩:ByteArray))=true:=by rw[t1]; decide
   have hs1:=h.app.tail;have hs2:Suf b ([112,101,114]++32::(Go.Lib.decDigits x.Window.toNat++59::32::r)):=hs1.app.tail;have hs3:=hs2.app.tail;have k1:(1000:UInt64).toNat=1000:=by decide
   have k2:(1099511627776:UInt64).toNat=1099511627776:=by decide
   have n1:x.Most.toNat≤(1000:UInt64).toNat:=by rw[k1]; exact Int.toNat_le.2 m2
   have n2:x.Window.toNat≤(1099511627776:UInt64).toNat:=by rw[k2]; exact Int.toNat_le.2 m4
   have z1:(x.Most.toNat:Int)=x.Most:=Int.toNat_of_nonneg (by clear k1 k2 n1 n2; omega);have z2:(x.Window.toNat:Int)=x.Window:=Int.toNat_of_nonneg (by clear k1 k2 n1 n2; omega);have b1:1≤x.Most.toNat:=by clear k1 k2 n1 n2; omega
   have b2:1≤x.Window.toNat:=by clear k1 k2 n1 n2; omega
   have b3:x.Most.toNat<10000000000000000000:=by clear k1 k2 n1 n2; omega
   have b4:x.Window.toNat<10000000000000000000:=by clear k1 k2 n1 n2; omega
   have f1:w64 ((UInt64.ofNat x.Most.toNat).toNat:Int)=x.Most:=by rw[w64N (by clear k1 k2 n1 n2; omega),z1]
   have f2:w64 ((UInt64.ofNat x.Window.toNat).toNat:Int)=x.Window:=by rw[w64N (by clear k1 k2 n1 n2; omega),z2]
   unfold Qw;rw[AcZ e0,E9 hb h,t2,Aa,numD hb (by decide) hs1 1000 b1 n1 b3,Aa];dsimp only;rw[d3,Ey hb hs2,t3,t4,AcZ (show Bp [112,101,114]=(⟨#[112,101,114]⟩:ByteArray)from rfl),Aa];dsimp only;rw[numD hb (by decide) hs3 1099511627776 b2 n2 b4,Aa];dsimp only;rw[Gr (by decide) (by decide),semi hb hs3.app,Aa,hr];dsimp only;rw[f1,f2]
 ·rw[Ac1 c]at h⊢;have e:x.Most=0∧x.Window=0:=by
   rcases hm with q|⟨m1,_⟩
   ·exact q
   ·omega
  unfold Qw;have e0: ¬((eqS (Bp (BI r)) (⟨#[109,111,115,116]⟩:ByteArray))=true):=by rw[hk]; decide
  rw[Ac1 e0,e.1,e.2]
theorem TB (rest:List UInt8):BG (125::10::rest)=125::10::rest:=Gr (by decide) (by decide) _
theorem Qv (x:g_api_Rule)(rest:List UInt8):BG (Gs x (125::10::rest))=Gs x (125::10::rest):=by
 unfold Gs;split
 ·exact GF (by simp) GR.2.2.1
 ·exact TB rest
theorem al_B {b:List UInt8}(hb:b.length≤100000){x:g_api_Rule}(G:GoodR x)(rest:List UInt8)(h:Suf b (Gq x rest)):alX x.Allow (rdR b (Gq x rest))=some (.inl (b,DD b (125::10::rest),Bp (BI (125::10::rest)),x.KeyMin,x.LifeMax,x.Most,x.Window)):=by
 unfold Gq at h⊢;cases ha:x.Allow with
 |false=>
  obtain⟨a1,a2,a3,a4⟩:=G.rf ha;have e:Ul x (Mv x (Gs x (125::10::rest)))=125::10::rest:=by
   unfold Ul Mv Gs;rw[a1,ha,a3,Ac1 (by decide),Ac1 (by decide),Ac1 (by decide)]
  rw[e];unfold alX;rw[Ac1 (by decide),a1,a2,a3,a4]
 |true=>
  obtain⟨a1,a2,a3,a4⟩:=G.al ha;have hl:Mv x (Gs x (125::10::rest))=[108,105,102,101]++32::(Go.Lib.decDigits x.LifeMax.toNat++59::32::Gs x (125::10::rest)):=by
   unfold Mv;rw[ha,AcZ rfl]
  obtain⟨t1,t2⟩:=AaO (w:=[108,105,102,101]) (by simp) GR.2.1 (Go.Lib.decDigits x.LifeMax.toNat++59::32::Gs x (125::10::rest));have d1:BG (Go.Lib.decDigits x.LifeMax.toNat++59::32::Gs x (125::10::rest))=_:=GF (El _).1 (El _).2;rw[d1]at t2;rw[hl]at h⊢;have hs1:Suf b ([108,105,102,101]++32::(Go.Lib.decDigits x.LifeMax.toNat++59::32::Gs x (125::10::rest))):=by
   unfold Ul at h;split at h
   ·exact h.app.tail.app.tail.tail
   ·exact h
  have hk:=key_B hb (x:=x) (r:=[108,105,102,101]++32::(Go.Lib.decDigits x.LifeMax.toNat++59::32::Gs x (125::10::rest))) a1 (GF (by simp) GR.2.1) (by rw[t1]; decide) h;have hs2:=hs1.app.tail;have hs3:Suf b (Gs x (125::10::rest)):=hs2.app.tail.tail;have k1:(1000:UInt64).toNat=1000:=by decide
  have n1:x.LifeMax.toNat≤(1000:UInt64).toNat:=by rw[k1]; exact Int.toNat_le.2 a3
  have z1:(x.LifeMax.toNat:Int)=x.LifeMax:=Int.toNat_of_nonneg (by clear k1 n1; omega);have b1:1≤x.LifeMax.toNat:=by clear k1 n1; omega
  have b3:x.LifeMax.toNat<10000000000000000000:=by clear k1 n1; omega
  have f1:w64 ((UInt64.ofNat x.LifeMax.toNat).toNat:Int)=x.LifeMax:=by rw[w64N (by clear k1 n1; omega),z1]
  have hm:=most_B hb (x:=x) (r:=125::10::rest) x.KeyMin x.LifeMax a4 (TB rest) (by rw[Rq (by decide)]; decide) hs3;unfold alX;rw[AcZ rfl,hk,Aa];dsimp only;rw[Ey hb hs1,t1,t2,AcZ (show Bp [108,105,102,101]=(⟨#[108,105,102,101]⟩:ByteArray)from rfl),Aa];dsimp only;rw[numD hb (by decide) hs2 1000 b1 n1 b3,Aa];dsimp only;rw[Gr (by decide) (by decide),semi hb hs2.app,Aa,Qv];dsimp only;rw[f1];exact hm
theorem Ve {x:g_api_Rule}(rest:List UInt8):BG (Gq x rest)=Gq x rest:=by
 unfold Gq Ul;split
 ·exact GF (by simp) GR.1
 ·unfold Mv;split
  ·exact GF (by simp) GR.2.1
  ·exact Qv x rest
theorem My (al:Bool):kwL al≠[]∧∀c∈kwL al,CY c=true:=by cases al<;>decide
theorem kw_A (al:Bool):eqS (Bp (kwL al)) kwA=al:=by cases al<;>decide
theorem kw_R (al:Bool):eqS (Bp (kwL al)) kwR= !al:=by cases al<;>decide
theorem rule_B {b:List UInt8}(hb:b.length≤100000){x:g_api_Rule}(G:GoodR x)(ahead:List g_api_Rule)(fr: ∀a∈ahead,a.Name≠x.Name)(hl:ahead.length<32)(rest:List UInt8)(h:Suf b (Ju x rest)):
  Bn (rdR b (Ju x rest)) ahead=some (.ok (x,ahead,rdR b (BG rest))):=by
 unfold Ju at h⊢;obtain⟨k1,k2⟩:=My x.Allow;obtain⟨m1,m2⟩:=Wq G.nm;have hpn:x.Pats≠[]:=List.length_pos_iff.1 G.pl;obtain⟨t1,t2⟩:=AaO k1 k2 (toL x.Name++32::123::32::(CA x.Pats++59::32::Gq x rest));rw[GF m1 m2]at t2;obtain⟨t3,t4⟩:=AaO m1 m2 (123::32::(CA x.Pats++59::32::Gq x rest));rw[Gr (by decide) (by decide)]at t4;have hs1:=h.app.tail;have hs2:Suf b (123::32::(CA x.Pats++59::32::Gq x rest)):=hs1.app.tail;have hs3:Suf b (CA x.Pats++59::32::Gq x rest):=hs2.tail.tail;have hs4:Suf b (59::32::Gq x rest):=hs3.app;have hs5:Suf b (Gq x rest):=hs4.tail.tail;have hpr:ZP ahead (Bp (toL x.Name))=true:=by
  rw[Ct];unfold ZP;rw[G.nm];have:(ahead.any fun a=>eqS a.Name x.Name)=false:=by
   rw[List.any_eq_false];exact fun a ha e=>fr a ha (MF e)
  rw[this]; rfl
 have hj:BG (32::(CA x.Pats++59::32::Gq x rest))=CA x.Pats++59::32::Gq x rest:=by
  rw[HL (.inl rfl)];exact QH hpn G.pv _
 have ok:NT ([]++x.Pats):=⟨G.pu,G.pv,G.pd⟩;have hpb:=ZS hb x.Name x.Allow (32::Gq x rest) x.Pats [] ET hpn (by have:=G.pu; have:=DO; omega) ok hs3;rw[Ady]at hpb;have hal:=al_B hb G rest hs5;have hs6:Suf b (125::10::rest):=by
  unfold Gq Ul Mv Gs at hs5;split at hs5
  ·have q:=hs5.app.tail.app.tail.tail;split at q
   ·have q2:=q.app.tail.app.tail.tail;split at q2
    ·exact q2.app.tail.app.tail.app.tail.app.tail.tail
    ·exact q2
   ·split at q
    ·exact q.app.tail.app.tail.app.tail.app.tail.tail
    ·exact q
  ·split at hs5
   ·have q2:=hs5.app.tail.app.tail.tail;split at q2
    ·exact q2.app.tail.app.tail.app.tail.app.tail.tail
    ·exact q2
   ·split at hs5
    ·exact hs5.app.tail.app.tail.app.tail.app.tail.tail
    ·exact hs5
 have c1: ¬(((!(eqS (Bp (BI (kwL x.Allow++32::(toL x.Name++32::123::32::(CA x.Pats++59::32::Gq x rest))))) kwA))&&(!eqS (Bp (BI (kwL x.Allow++32::(toL x.Name++32::123::32::(CA x.Pats++59::32::Gq x rest))))) kwR))=true):=by
  rw[t1,kw_A,kw_R];cases x.Allow<;>decide
 have c2: ¬(((ahead.length:Int)==32)=true):=by simp; omega
 rw[VN,Ac1 c1,Ac1 c2,E9 hb h,t2,Aa,P9 hb hs1,t3,t4,AcZ hpr,Aa];dsimp only;rw[Ey hb hs2,Rq (by decide),nx_p (by decide),hj,AcZ (show Bp [123]=(⟨#[123]⟩:ByteArray)from rfl),Aa,Ct];dsimp only;rw[t1,kw_A,hpb,Aa];dsimp only;rw[semi hb hs4,Ve,Aa];dsimp only;unfold alX at hal;dsimp only at hal;rw[hal,Aa];dsimp only;rw[Ey hb hs6,Rq (by decide),nx_p (by decide),HL (.inr rfl),AcZ (show Bp [125]=(⟨#[125]⟩:ByteArray)from rfl),Aa]
theorem OM {l:List g_api_Rule}(h:Lh l){c:List (Int×Int)}(hc:BJ l=some c):DK l=some (if decide ((c.length:Int)>0)=true then 160 else 0):=by
 unfold DK;rw[TM h,Aa,Ac1 (by decide),hc,Aa];split<;>rfl
theorem Ux {l:List g_api_Rule}(h:Lh l){c:List (Int×Int)}(hc:BJ l=some c)(h0:c≠[]):Bv l=some (⟨[],[]⟩,160):=by
 have hp:=List.length_pos_iff.2 h0;unfold Bv;rw[OM h hc,AcZ (by simp; omega),Aa,AcZ (by decide)]
theorem Zd {l:List g_api_Rule}(h:l.length≤32):AW l=some l:=by
 unfold AW;rw[Fh 80 (by simp; omega) (by simp; omega),Aa,Ady]
theorem Sc {l:List g_api_Rule}(h:Lh l)(hc:BJ l=some [])(hf:CF l): ∃ns,Bv l=some (⟨l,ns⟩,0)∧WN ns∧(∃path,TN ns path)∧0<ns.length∧Cor l (En ns) (InR l):=by
 obtain⟨ns,h1,W,T,h0,hl,C⟩:=QZ hf (RZ h);refine⟨ns,?_,W,T,h0,C⟩;unfold Bv;rw[OM h hc,Ac1 (by simp),Aa,Ac1 (by decide),h1,Aa,Zd h.len,Aa]
theorem eqInts (a:List Int):Co a a=some true:=by
 unfold Co;rw[Ac1 (by simp)];rcases GL (body:=Cz a a) (n:=a.length) (fun _ _=>True) (fun _=>False) (fun i s hi _=>by
  left;refine⟨(),?_,trivial⟩;unfold Cz;rw[Cp (Ac4 hi),Aa,Aa,Ac1 (by simp)]) (s:=()) trivial with ⟨t,h1,_⟩|⟨r,_,h2⟩
 ·rw[h1]; rfl
 ·exact h2.elim
theorem Vu (x:g_api_Node):FA x x=some true:=by
 unfold FA;have e:(((eqS x.Label x.Label)&&(x.Here==x.Here))&&(x.Below==x.Below))=true:=by rw[ES]; simp
 rw[e,Hq,eqInts,Aa,B8];rfl
theorem Acq (ns:Nds):Aj ns ns=some true:=by
 unfold Aj;rw[Ac1 (by simp)];rcases GL (body:=Ay ns ns) (n:=ns.length) (fun _ _=>True) (fun _=>False) (fun i s hi _=>by
  left;refine⟨(),?_,trivial⟩;unfold Ay;rw[Cp (Ac4 hi),Aa,Aa,Vu,Aa,Ac1 (by decide)]) (s:=()) trivial with ⟨t,h1,_⟩|⟨r,_,h2⟩
 ·rw[h1]; rfl
 ·exact h2.elim
theorem Vd {l:List g_api_Rule}{ns:Nds}(h:Bv l=some (⟨l,ns⟩,0)):EL ⟨l,ns⟩=some 0:=by
 unfold EL;rw[h,Aa];show Ab (Ab (gu true (Aj ns ns)) _) _=_;rw[Hq,Acq,Aa];rfl
theorem AbE (w:AG): ∃b,E2 w=some b∧(b=true→w.Names.length≤8∧1≤w.Names.length∧∀s∈w.Names,isB (toL s) 8 64=true):=by
 unfold E2;rcases MI (body:=F0) (xs:=w.Names) (fun i s=>s=Jo (w.Names.take i)∧∀x∈w.Names.take i,isB (toL x) 8 64=true) (fun r=>r=false) (fun i x s hx ⟨hs,ha⟩=>by
  subst hs;unfold F0;rw[O2,Aa,QE];by_cases hc:((Wr x !=0)||(w.Names.take i).any (eqS x))=true
  ·right;rw[AcZ hc];exact⟨_,rfl,rfl⟩
  ·left;have hc2:Wr x=0∧(w.Names.take i).any (eqS x)=false:=by simpa using hc
   rw[Ac1 hc,AcZ (Tg _ _ hc2.2)];refine⟨_,rfl,?_,fun y hy=> ?_⟩
   ·rw[List.take_add_one,hx];unfold Jo;simp
   ·rw[List.take_add_one,hx]at hy;rcases Adc.1 hy with hy|hy
    ·exact ha y hy
    ·simp at hy;subst hy;have h0:=hc2.1;rw[Ta]at h0;have h0:(if isB (toL y) 8 64=true then(0:Int)else 110)=0:=h0;split at h0
     ·assumption
     ·cases h0) (s:=[]) ⟨rfl,fun x hx=>by simp at hx⟩with ⟨t,h1,h2,h3⟩|⟨r,h1,h2⟩
 ·rw[h1,Aa];have f1: ∀a:Int,EJ a=some (decide (a≥0)&&decide (a≤1099511627776)):=fun a=>rfl;have g1: ∀(c v:Bool),gu c (some v)=some (c&&v):=fun c v=>by cases c<;>rfl
  simp only[f1,Aa,g1,B8];refine⟨_,rfl,fun h=> ?_⟩;simp only[AcQ,Adt]at h;rw[List.take_length]at h3;exact⟨by omega,by omega,h3⟩
 ·rw[h1,Aa];subst h2;exact⟨false,rfl,fun h=>by cases h⟩
def okV (l:List g_api_Rule)(w:AG)(d:Int):Bool:=(d != -1)&&match l[d.toNat]? with|some r=>r.Allow&&decide ((w.Key.toNat:Int)≥(r.KeyMin.toNat:Int))&&decide (w.Life>0)&&decide (w.Life≤r.LifeMax)|none=>false
def vs (l:List g_api_Rule)(w:AG)(dec:ByteArray→Int):Nat→Bool×Int×List Int
 |0=>(true,0,[])
 |i+1=>((vs l w dec i).1&&okV l w (dec (w.Names.getD i default)),if((vs l w dec i).1&& !okV l w (dec (w.Names.getD i default)))=true then(i:Int)else(vs l w dec i).2.1,(vs l w dec i).2.2++[dec (w.Names.getD i default)])
theorem P5 (l:List g_api_Rule)(w:AG)(dec:ByteArray→Int): ∀i,(vs l w dec i).2.2.length=i
 |0=>rfl
 |i+1=>by
  show((vs l w dec i).2.2++[_]).length=_;rw[Ac5,P5 l w dec i]; rfl
def Zk (l:List g_api_Rule)(d:Int):Prop:=d= -1∨∃k:Nat,d=(k:Int)∧k<l.length
theorem TO {α:Type}{l:List g_api_Rule}{w:AG}{d:Int}(hd:Zk l d)(K:Bool→Option α):
  (Ab (gu (d !=(-1)) (idx l d)) fun x8=>
  Ab (gu ((d !=(-1))&&x8.Allow) (idx l d)) fun x9=>
  Ab (gu ((((d !=(-1))&&x8.Allow)&&(decide ((w.Key.toNat:Int)≥(x9.KeyMin.toNat:Int))))&&(decide (w.Life>0))) (idx l d)) fun x10=>
  bnd ((((((d !=(-1))&&x8.Allow)&&(decide ((w.Key.toNat:Int)≥(x9.KeyMin.toNat:Int))))&&(decide (w.Life>0)))&&(decide (w.Life≤x10.LifeMax)))) K)=K (okV l w d):=by
 rcases hd with rfl|⟨k,rfl,hk⟩
 ·rfl
 ·have hx:l[k]? =some l[k]:=Ac4 hk;have hne:((k:Int) != -1)=true:=by simp
  have ho:okV l w (k:Int)=(l[k].Allow&&decide ((w.Key.toNat:Int)≥(l[k].KeyMin.toNat:Int))&&decide (w.Life>0)&&decide (w.Life≤l[k].LifeMax)):=by
   unfold okV;rw[hne,AdO,hx];rfl
  rw[ho,hne,Hq,Cp hx,Aa,AdM];cases l[k].Allow with
  |false=>rfl
  |true=>
   rw[Hq,Aa,AdM];cases decide ((w.Key.toNat:Int)≥(l[k].KeyMin.toNat:Int))with
   |false=>rfl
   |true=>
    rw[AdM];cases decide (w.Life>0)with
    |false=>rfl
    |true=>
     rfl
theorem verdT {l:List g_api_Rule}{w:AG}{t:AZ}{dec:ByteArray→Int}(hn:w.Names.length≤8)(hd: ∀s∈w.Names,BW s t=some (dec s,t)∧Zk l (dec s)):
  BC l w t=some (⟨(vs l w dec w.Names.length).1,(vs l w dec w.Names.length).2.1,(vs l w dec w.Names.length).2.2⟩,t):=by
 obtain⟨s,h1,h2⟩:=FJ (body:=CR l w) (n:=w.Names.length) (fun i s=>s=((vs l w dec i).1,(vs l w dec i).2.1,(vs l w dec i).2.2,t.Rules,t.Nodes)) (fun i s hi hs=>by
  subst hs;have hx:w.Names[i]? =some w.Names[i]:=Ac4 hi;have hg:w.Names.getD i default=w.Names[i]:=by rw[List.getD_eq_getElem?_getD,hx]; rfl
  obtain⟨a,b⟩:=hd w.Names[i] (Ac8 hx);refine⟨_,?_,rfl⟩;unfold CR;dsimp only;rw[Cp hx,Aa,a,Aa];dsimp only;rw[Fh 8 (by rw[P5]; simp; omega) (by rw[P5]; simp; omega),Aa,TO b];show Ab (if((vs l w dec i).1&&(!okV l w (dec w.Names[i])))=true then _ else _) _=some (((vs l w dec i).1&&okV l w (dec (w.Names.getD i default))),(if((vs l w dec i).1&& !okV l w (dec (w.Names.getD i default)))=true then(i:Int)else(vs l w dec i).2.1),_,_,_);rw[hg];cases okV l w (dec w.Names[i])<;>cases (vs l w dec i).1<;>simp[vs,hx]) (s:=(true,0,[],t.Rules,t.Nodes)) rfl
 unfold BC;rw[h1,Aa,h2];rfl
theorem verdM {l:List g_api_Rule}{w:AG}{m:List (ByteArray×Int)}{dec:ByteArray→Int}(hn:w.Names.length≤8)(hd: ∀s∈w.Names,Bg s m=some (dec s,m)∧Zk l (dec s)):
  BB l w m=some (⟨(vs l w dec w.Names.length).1,(vs l w dec w.Names.length).2.1,(vs l w dec w.Names.length).2.2⟩,m):=by
 obtain⟨s,h1,h2⟩:=FJ (body:=CQ l w) (n:=w.Names.length) (fun i s=>s=((vs l w dec i).1,(vs l w dec i).2.1,(vs l w dec i).2.2,m)) (fun i s hi hs=>by
  subst hs;have hx:w.Names[i]? =some w.Names[i]:=Ac4 hi;have hg:w.Names.getD i default=w.Names[i]:=by rw[List.getD_eq_getElem?_getD,hx]; rfl
  obtain⟨a,b⟩:=hd w.Names[i] (Ac8 hx);refine⟨_,?_,rfl⟩;unfold CQ;dsimp only;rw[Cp hx,Aa,a,Aa];dsimp only;rw[Fh 8 (by rw[P5]; simp; omega) (by rw[P5]; simp; omega),Aa,TO b];show Ab (if((vs l w dec i).1&&(!okV l w (dec w.Names[i])))=true then _ else _) _=some (((vs l w dec i).1&&okV l w (dec (w.Names.getD i default))),(if((vs l w dec i).1&& !okV l w (dec (w.Names.getD i default)))=true then(i:Int)else(vs l w dec i).2.1),_,_);rw[hg];cases okV l w (dec w.Names[i])<;>cases (vs l w dec i).1<;>simp[vs,hx]) (s:=(true,0,[],m)) rfl
 unfold BB;rw[h1,Aa,h2];rfl
theorem vs_ok {l:List g_api_Rule}{w:AG}{dec:ByteArray→Int}: ∀{n:Nat},n≤w.Names.length→(vs l w dec n).1=true→∀i (s:ByteArray),i<n→w.Names[i]? =some s→dec s≠ -1
 |n+1,hn,h,i,s,hi,hs=>by
  have h:((vs l w dec n).1&&okV l w (dec (w.Names.getD n default)))=true:=h;rw[AcQ]at h;by_cases q:i=n
  ·subst q;have hg:w.Names.getD i default=s:=by rw[List.getD_eq_getElem?_getD,hs]; rfl
   rw[hg]at h;intro e;rw[e]at h;exact absurd h.2 (by unfold okV; simp)
  ·exact vs_ok (by omega) h.1 i s (by omega) hs
theorem VR {l:List g_api_Rule}{V:Fk→Int×Int}(C:Cor l V (InR l))(R:Fk):Zk l (Uv V R):=by
 have key: ∀L w,wN w (V L)≠ -1→Zk l (wN w (V L)):=fun L w h=>by
  obtain⟨i,p,⟨r,h1,_⟩,_,h3⟩:=(C L w).2 h;exact .inr ⟨i,h3,(AcX.1 h1).1⟩
 have hW: ∀t,Zk l (G6 V R t):=fun t=>by
  induction t with
  |zero=>exact .inl rfl
  |succ t ih=>
   show Zk l (if(V (R.take t)).2≠ -1 then(V (R.take t)).2 else G6 V R t);split
   ·rename_i h; exact key (R.take t) true h
   ·exact ih
 unfold Uv;split
 ·rename_i h; exact key R false h
 ·exact hW _
theorem AaJ:JB=some true:=by kernel_rfl
end Go.Proofs.YtflnolcabkandaaGreatDoor
end
