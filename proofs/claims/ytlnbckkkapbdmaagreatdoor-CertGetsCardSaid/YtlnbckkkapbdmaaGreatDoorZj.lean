/- Several texts, one behind the other. Conditions: none. -/
import Derived.Test.YtlnbckkkapbdmaaGreatDoorZg
import Derived.Test.YtlnbckkkapbdmaaGreatDoorZh
set_option linter.unusedSimpArgs false
set_option linter.unusedVariables false
set_option maxRecDepth 100000
section
namespace Go.Proofs.YtlnbckkkapbdmaaGreatDoor
open Go Go.Gw Go.Ax
def Tot {α:Type}(x:Option α):Prop:= ∃r,x=some r
theorem tot {α:Type}(r:α):Tot (some r):=⟨r,rfl⟩
theorem Cz {α β:Type}{x:Option α}{k:α→Option β}(h:Tot x)(hk: ∀a,x=some a→Tot (k a)):Tot (Ab x k):=by
 obtain⟨a,h⟩:=h;rw[h]; exact hk a h
theorem Mk {α:Type} [Inhabited α]{b:Bool}{x:Option α}(h:b=true→Tot x):Tot (gu b x):=by
 cases b with
 |true=>exact h rfl
 |false=>exact tot default
theorem Mj {α:Type}{b:Bool}{x y:Option α}(h1:b=true→Tot x)(h0:b=false→Tot y):Tot (if b=true then x else y):=by
 cases b with
 |true=>exact h1 rfl
 |false=>exact h0 rfl
theorem YX {α:Type}{c:Prop} [Decidable c]{x y:Option α}(h1:c→Tot x)(h0: ¬c→Tot y):Tot (if c then x else y):=by
 split
 ·exact h1 ‹_›
 ·exact h0 ‹_›
theorem Lx {σ τ:Type}{step:σ→Option (σ⊕τ)}(μ:σ→Nat)(I:σ→Prop)(Q:τ→Prop)
  (h: ∀s,I s→∃r,step s=some r∧(∀s',r= .inl s'→I s'∧μ s'<μ s)∧∀t,r= .inr t→Q t): ∀n s,I s→μ s<n→∃t,iter step n s=some t∧Q t
 |0,s,_,hn=>by omega
 |n+1,s,hI,hn=>by
  obtain⟨r,h1,h2,h3⟩:=h s hI;cases r with
  |inr t=>exact⟨t,by show Ab (step s) _=_; rw[h1]; rfl,h3 t rfl⟩
  |inl s'=>
   obtain⟨i',lt⟩:=h2 s' rfl;obtain⟨t,e,q⟩:=Lx μ I Q h n s' i' (by omega);exact⟨t,by show Ab (step s) _=_; rw[h1]; exact e,q⟩
theorem NX (s:ByteArray)(i:Nat):1≤(Utf8.decode s i).2:=by
 unfold Utf8.decode;simp only;repeat' split
 all_goals simp
theorem AJ:9223372036854775808≤Bv:=Nat.le_of_ble_eq_true rfl
theorem UA (c:Int):Fu c=some (decide (c≤32)||decide (c>126)):=rfl
theorem Pe (s:ByteArray)(b:Bool)(hs:s.size<9223372036854775808):Tot (BE s b):=by
 unfold BE;refine Cz ?_ fun a _=> ?_
 ·obtain⟨t,e,_⟩:=Lx (step:=Am s b) (fun i=>s.size-i) (fun _=>True) (fun _=>True) (fun i _=>by
   unfold Am;by_cases hi:i<s.size
   ·rw[if_pos hi];simp only[bnd,UA,oZ0];split
    ·exact⟨_,rfl,fun s' h=>(by cases h),fun _ _=>trivial⟩
    ·refine⟨_,rfl,fun s' h=> ?_,fun _ _=>trivial⟩;cases h;have:=NX s i;exact⟨trivial,by omega⟩
   ·rw[if_neg hi];exact⟨_,rfl,fun s' h=>(by cases h),fun _ _=>trivial⟩) Bv 0 trivial (by have:=AJ; omega)
  exact⟨t,e⟩
 ·cases a with
  |inl _=>exact tot _
  |inr _=>exact tot _
theorem WP (s:ByteArray):Tot (CH s):=by
 unfold CH;refine Cz (Mk fun h=> ?_) fun a _=>tot _;simp only[Bool.and_eq_true,decide_eq_true_eq]at h;unfold Bd B3;refine Cz (Cz (Pe s true (by omega)) fun a _=>tot _) fun a _=>tot _
theorem Uz {s:ByteArray}{b:Bool}(h:CH s=some b):b=true→eqS s (⟨#[]⟩:ByteArray)=false∧s.size≤64:=by
 unfold CH at h;obtain⟨x,_,h⟩:=oY0 h;have h:=sI0 (A4 h);intro hb;rw[hb]at h;simp only[Bool.and_eq_true,Bool.not_eq_true',decide_eq_true_eq]at h;exact⟨h.1.1,by omega⟩
theorem Pj (c:Int):Tot (Cr c):=tot _
theorem VT (c:Int):Tot (Co c):=by
 unfold Co;exact Cz (Mk fun _=>Pj c) fun a _=>tot _
theorem VK (s:ByteArray):Tot (CT s):=by
 unfold CT;refine Mj (fun _=>tot _) fun h=> ?_;simp only[Bool.or_eq_false_iff,decide_eq_false_iff_not]at h;refine Cz ?_ fun a _=> ?_
 ·obtain⟨t,e,_⟩:=Lx (step:=AW s) (fun i=>s.size-i) (fun _=>True) (fun _=>True) (fun i _=>by
   unfold AW;by_cases hi:i<s.size
   ·rw[if_pos hi];have hd:=NX s i;obtain⟨x4,h4⟩:=Mk (b:=((i:Int)==(w64 ((s.size:Int)-1)))) fun _=>Pj ((Utf8.decode s i).1:Int);obtain⟨x7,h7⟩:=Mk (b:=((i:Int)==0)) fun _=>Pj ((Utf8.decode s i).1:Int);obtain⟨x9,h9⟩:=Mk (b:=(!((i:Int)==0))) fun _=>VT ((Utf8.decode s i).1:Int);simp only[bnd,h4,h7,h9,oZ0];split
    ·exact⟨_,rfl,fun s' h=>(by cases h; exact⟨trivial,by omega⟩),fun _ _=>trivial⟩
    ·split
     ·exact⟨_,rfl,fun s' h=>(by cases h),fun _ _=>trivial⟩
     ·split
      ·exact⟨_,rfl,fun s' h=>(by cases h; exact⟨trivial,by omega⟩),fun _ _=>trivial⟩
      ·split
       ·exact⟨_,rfl,fun s' h=>(by cases h),fun _ _=>trivial⟩
       ·exact⟨_,rfl,fun s' h=>(by cases h; exact⟨trivial,by omega⟩),fun _ _=>trivial⟩
   ·rw[if_neg hi];exact⟨_,rfl,fun s' h=>(by cases h),fun _ _=>trivial⟩) Bv 0 trivial (by have:=AJ; omega)
  exact⟨t,e⟩
 ·cases a with
  |inl _=>exact tot _
  |inr _=>exact tot _
theorem Ys: ∀(l:List UInt8) (c:UInt8),Lib.indexByte l c<l.length
 | [],c=>by simp[Lib.indexByte]
 |b::l,c=>by
  have:=Ys l c;unfold Lib.indexByte;split
  ·rw[List.length_cons]; omega
  ·split
   ·rw[List.length_cons]; omega
   ·rw[List.length_cons]; omega
theorem AK (s:ByteArray):s.data.toList.length=s.size:=by rw[Array.length_toList]; rfl
theorem QD (s:ByteArray): ∃x:Int,BF s (⟨#[46]⟩:ByteArray)=some x∧ -1≤x∧x<s.size:=by
 unfold BF BD A8;simp only[bnd];by_cases h:((((⟨#[46]⟩:ByteArray).size:Int)==0)||eqS (⟨#[46]⟩:ByteArray) s)=true
 ·rw[if_pos h];refine⟨0,rfl,by omega,?_⟩;have h1:eqS (⟨#[46]⟩:ByteArray) s=true:=by
   cases he:eqS (⟨#[46]⟩:ByteArray) s with
   |true=>rfl
   |false=>rw[he]at h; cases h
  have h2: [(46:UInt8)]=s.data.toList:=by simpa[eqS]using h1
  have h3:=AK s;rw[←h2]at h3;simp only[List.length_cons,List.length_nil]at h3;omega
 ·rw[if_neg h];refine⟨Yt s 46,rfl,Lib.indexByte_ge _ _,?_⟩;have:=Ys s.data.toList 46;rw[AK]at this;exact this
theorem AF {x:Int}(h0: -9223372036854775808≤x)(h1:x≤9223372036854775807):w64 x=x:=by
 unfold w64; omega
theorem Fy {s:ByteArray}{lo hi:Int}(h0:0≤lo)(h1:lo≤hi)(h2:hi≤s.size):Lj s lo hi=some (s.extract lo.toNat hi.toNat):=by
 unfold Lj; rw[if_pos ⟨h0,h1,h2⟩]
theorem SQ (s:ByteArray)(n k:Int)(hk:k≤64):Tot (BQ s n k):=by
 unfold BQ;refine Cz ?_ fun x2 hx2=> ?_
 ·refine Mj (fun _=>tot _) fun _=> ?_;exact⟨_,rfl⟩
 ·refine Mj (fun _=>tot _) fun h=> ?_;have hsz:s.size≤64:=by
   cases hd:decide ((s.size:Int)>k)with
   |true=>rw[if_pos hd]at hx2; cases hx2; cases h
   |false=>simp only[decide_eq_false_iff_not]at hd; omega
  have key: ∃r,Ba (fun(s:(Unit)×Nat) (b0:ByteArray)=>if s.2=0 then Ab (Bu b0 s) fun y=>some (y.2==0,y)else none) (⟨#[46]⟩:ByteArray) s 0 ((),0)=some r:=by
   have hb5: ∀(b0:ByteArray) (s:Unit×Nat),∃z:Nat,Bu b0 s=some ((),z):=fun b0 s=>by
    unfold Bu;obtain⟨y,hy⟩:=VK b0;rw[hy];simp only[oZ0];split
    ·exact⟨1,rfl⟩
    ·exact⟨0,rfl⟩
   unfold Ba;rw[if_neg (by decide)];obtain⟨tt,hit,hq⟩: ∃t,iter (Ay (fun(s:(Unit)×Nat) (b0:ByteArray)=>if s.2=0 then Ab (Bu b0 s) fun y=>some (y.2==0,y)else none) (⟨#[46]⟩:ByteArray) 0) Bv (s,((),0))=some t∧∀y,t= .inl y→y.2.2=0:=by
    exact Lx (step:=Ay (fun(s:(Unit)×Nat) (b0:ByteArray)=>if s.2=0 then Ab (Bu b0 s) fun y=>some (y.2==0,y)else none) (⟨#[46]⟩:ByteArray) 0) (fun z=>z.1.size) (fun z=>z.1.size≤64∧z.2.2=0) (fun t=> ∀y,t= .inl y→y.2.2=0) (fun z hz=>by
     obtain⟨x,h1,h2,h3⟩:=QD z.1;unfold Ay;rw[h1];simp only[oZ0];by_cases hx:x<0
     ·rw[if_pos (by simpa using hx)];exact⟨_,rfl,fun s' h=>(by cases h),fun t ht y hy=>by subst hy; cases ht; exact hz.2⟩
     ·rw[if_neg (by simpa using hx)];have hw:w64 (x+0)=x:=by rw[Int.add_zero]; exact AF (by omega) (by omega)
      have hw1:w64 (x+((⟨#[46]⟩:ByteArray).size:Int))=x+1:=AF (x:=x+1) (by omega) (by omega);rw[hw,hw1,Fy (by omega) (by omega) (by omega),Fy (lo:=x+1) (by omega) (by omega) (by omega)];simp only[oZ0,if_pos hz.2];obtain⟨zz,hzz⟩:=hb5 (z.1.extract (0:Int).toNat x.toNat) z.2;rw[hzz];simp only[oZ0];split
      ·exact⟨_,rfl,fun s' h=>(by cases h),fun t ht y hy=>by subst hy; cases ht⟩
      ·rename_i hne;refine⟨_,rfl,fun s' h=> ?_,fun t ht=>by cases ht⟩;cases h;have e0:zz=0:=by simpa using hne
       refine⟨⟨?_,e0⟩,?_⟩
       ·simp only[ByteArray.size_extract]; omega
       ·simp only[ByteArray.size_extract]; omega) Bv (s,((),0)) ⟨hsz,rfl⟩ (by have:=AJ; show s.size<Bv; omega)
   show Tot (Ab (iter _ Bv (s,((),0))) _);rw[hit];cases tt with
   |inr _=>exact tot _
   |inl y3=>
    have h0:=hq y3 rfl;obtain⟨zz,hzz⟩:=hb5 y3.1 y3.2;simp only[oZ0,if_pos h0,hzz];exact tot _
  obtain⟨r,hr⟩:=key;show Tot (Ab (Ba _ (⟨#[46]⟩:ByteArray) s 0 ((),0)) _);rw[hr];simp only[oZ0];exact YX (fun _=>tot _) fun _=>tot _
theorem Yu (s:ByteArray):Tot (DD s):=Cz (SQ s 8 64 (by decide)) fun a _=>tot _
theorem WD (s:ByteArray):Tot (CC s):=by
 unfold CC;refine Cz (Yu s) fun a _=>Cz ?_ fun a _=>tot _;unfold Dl;exact Mj (fun _=>tot _) fun _=>tot _
theorem Pp (s:ByteArray):Tot (BG s (⟨#[42,46]⟩:ByteArray)):=by
 unfold BG AZ AY;refine Cz (Cz (Cz (Mk fun h=> ?_) fun a _=>tot _) fun b hb=> ?_) fun a _=>tot _
 ·simp only[decide_eq_true_eq]at h;exact⟨_,Fy (by omega) (by omega) h⟩
 ·refine Mj (fun _=>tot _) fun h=> ?_;obtain⟨x,_,hx⟩:=oY0 hb;have hx:=sI0 (A4 hx);have hb:b=true:=by simpa using h
  rw[hb]at hx;simp only[Bool.and_eq_true,decide_eq_true_eq]at hx;exact Cz ⟨_,Fy (by omega) hx.1 (by omega)⟩ fun a _=>tot _
theorem R5 (s:ByteArray):Tot (B1 s):=by
 unfold B1 Df;refine Cz (Cz (Yu s) fun a _=>Mj (fun _=>tot _) fun _=>Cz (Pp s) fun b _=>Cz (Mk fun _=>SQ _ 7 62 (by decide)) fun c _=>tot _) fun a _=>Cz ?_ fun a _=>tot _;unfold Dl;exact Mj (fun _=>tot _) fun _=>tot _
end Go.Proofs.YtlnbckkkapbdmaaGreatDoor
end
section
namespace Go.Proofs.YtlnbckkkapbdmaaGreatDoor
open Go Go.Gw Go.Ax
theorem Uw {α:Type}{x:Option α}{d:α}(h:Tot x):x=some (x.getD d):=by
 obtain⟨r,h⟩:=h;rw[h]; rfl
def textV (s:ByteArray):Bool:=(CH s).getD false
def nameV (s:ByteArray):Int:=(CC s).getD 0
def patV (s:ByteArray):Int:=(B1 s).getD 0
theorem Rj (s:ByteArray):CH s=some (textV s):=Uw (WP s)
theorem O4 (s:ByteArray):CC s=some (nameV s):=Uw (WD s)
theorem Ry (s:ByteArray):B1 s=some (patV s):=Uw (R5 s)
theorem Sm {s:ByteArray}(h:textV s=true):eqS s (⟨#[]⟩:ByteArray)=false∧s.size≤64:=Uz (Rj s) h
theorem Qp {s:ByteArray}{n k:Int}(h:BQ s n k=some true):(s.size:Int)≤k:=by
 unfold BQ at h;obtain⟨x,hx,h⟩:=oY0 h;cases hd:decide ((s.size:Int)>k)with
 |true=>
  rw[if_pos hd]at hx;cases hx;cases h
 |false=>simp only[decide_eq_false_iff_not]at hd; omega
theorem VQ {s:ByteArray}(h:DD s=some true):s.size≤64:=by
 obtain⟨x,hx,h⟩:=oY0 h;cases h;have:=Qp hx;omega
theorem P4 {b:Bool}{r:Int}(h:Dl b=some r)(h0:r=0):b=true:=by
 cases b with
 |true=>rfl
 |false=>
  have h2:(110:Int)=r:=sI0 h;omega
theorem TO {s:ByteArray}(h:nameV s=0):s.size≤64:=by
 have e:=O4 s;rw[h]at e;obtain⟨x,hx,e⟩:=oY0 e;obtain⟨y,hy,e⟩:=oY0 e;cases e;have:=P4 hy rfl;rw[this]at hx;exact VQ hx
theorem Nt {s:ByteArray}{c:ByteArray×Bool}(h:BG s (⟨#[42,46]⟩:ByteArray)=some c)(h1:c.2=true):c.1.size+2=s.size:=by
 unfold BG AZ AY at h;obtain⟨d,hd,h⟩:=oY0 h;have h:=sI0 h;subst h;obtain⟨p,hp,hd⟩:=oY0 hd;cases p with
 |false=>
  have hd:=sI0 hd;subst hd;cases h1
 |true=>
  obtain⟨q,hq,hd⟩:=oY0 hd;have hd:=sI0 hd;subst hd;unfold Lj at hq;split at hq
  ·rename_i hc;have hq:=sI0 hq;have e2:(⟨#[42,46]⟩:ByteArray).size=2:=rfl;rw[e2]at hq hc;show q.size+2=s.size;rw[←hq,ByteArray.size_extract];omega
  ·cases hq
theorem Vq {s:ByteArray}(h:patV s=0):s.size≤64:=by
 have e:=Ry s;rw[h]at e;obtain⟨x,hx,e⟩:=oY0 e;obtain⟨y,hy,e⟩:=oY0 e;cases e;have h1:=P4 hy rfl;unfold Df at hx;obtain⟨b,hb,hx⟩:=oY0 hx;cases b with
 |true=>exact VQ hb
 |false=>
  rw[if_neg (by decide)]at hx;obtain⟨c,hc,hx⟩:=oY0 hx;obtain⟨d,hd,hx⟩:=oY0 hx;have hx:=sI0 hx;subst hx;have h2:(c.2&&d)=true:=h1;simp only[Bool.and_eq_true]at h2;rw[h2.1,h2.2]at hd;have h3:=Qp hd;have h4:=Nt hc h2.1;omega
def Jo (right:ByteArray→Int):List ByteArray→List ByteArray→Bool
 |_,[]=>true
 |met,s::l=> !(met.any (eqS s))&&right s==0&&Jo right (met++[s]) l
def Iq (met:List ByteArray):List (ByteArray×Bool):=met.map fun s=>(s,true)
theorem MD: ∀(met:List ByteArray) (s:ByteArray) (i:Nat),(lkI (Iq met) s i).isSome=met.any (eqS s)∧∀p,lkI (Iq met) s i=some p→p.2=true
 | [],s,i=>⟨rfl,fun p h=>by cases h⟩
 |a::met,s,i=>by
  have ih:=MD met s (i+1);rw[List.any_cons];cases h:eqS s a with
  |true=>
   refine⟨?_,fun p hp=> ?_⟩
   ·show(if eqS s a=true then some (i,true)else lkI (Iq met) s (i+1)).isSome=_;rw[if_pos h]; rfl
   ·have hp:(if eqS s a=true then some (i,true)else lkI (Iq met) s (i+1))=some p:=hp;rw[if_pos h]at hp;cases hp; rfl
  |false=>
   refine⟨?_,fun p hp=> ?_⟩
   ·show(if eqS s a=true then some (i,true)else lkI (Iq met) s (i+1)).isSome=_;rw[if_neg (by rw[h]; decide)]; exact ih.1
   ·have hp:(if eqS s a=true then some (i,true)else lkI (Iq met) s (i+1))=some p:=hp;rw[if_neg (by rw[h]; decide)]at hp;exact ih.2 p hp
theorem VF (met:List ByteArray)(s:ByteArray):lkB (Iq met) s=met.any (eqS s):=by
 have h:=MD met s 0;unfold lkB;rw[←h.1];cases e:lkI (Iq met) s 0 with
 |none=>rfl
 |some p=>rw[Option.map_some,Option.getD_some,h.2 p e]; rfl
theorem Xe (met:List ByteArray)(s:ByteArray)(h:met.any (eqS s)=false):(lkI (Iq met) s 0).isNone=true:=by
 have h1:=(MD met s 0).1;rw[h]at h1;cases e:lkI (Iq met) s 0 with
 |none=>rfl
 |some p=>rw[e]at h1; cases h1
theorem Zz (right:ByteArray→Int)(mr:ByteArray→Option Int)(hr: ∀s,mr s=some (right s)): ∀(l met:List ByteArray) (i:Int),
  IK (fun(i1:Int) (x2:ByteArray) (s1:List (ByteArray×Bool))=>Ab (gu (!(lkB s1 x2)) (mr x2)) fun x3=>if((lkB s1 x2)||(x3 !=0))=true then some (.inr false)else if(lkI s1 x2 0).isNone=true then some (.inl (s1++[(x2,true)]))else none) l i (Iq met)
   =some (if Jo right met l=true then .inl (Iq (met++l))else .inr false)
 | [],met,i=>by simp[IK,Jo]
 |s::l,met,i=>by
  have ih:=Zz right mr hr l (met++[s]) (i+1);have hm':=VF met s;simp only[IK,hr]at ih⊢;rw[hm'];cases hm:met.any (eqS s)with
  |true=>simp[gu,Jo,hm]
  |false=>
   simp only[gu,Bool.not_false,cond_true,oZ0,Bool.false_or];cases h0:right s==0 with
   |false=>
    have h1:(right s !=0)=true:=by simp only[bne,h0,Bool.not_false]
    rw[if_pos h1];simp[Jo,hm,h0]
   |true=>
    have h1:(right s !=0)=false:=by simp only[bne,h0,Bool.not_true]
    rw[h1];simp only[Bool.false_eq_true,if_false,Xe met s hm,if_true,oZ0];have e:Iq met++[(s,true)]=Iq (met++[s]):=by simp[Iq]
    rw[e];simp only[gu]at ih;rw[ih];simp[Jo,hm,h0]
def listV (right:ByteArray→Int)(l:List ByteArray)(a b:Int):Bool:=Jo right [] l&&decide ((l.length:Int)≥a)&&decide ((l.length:Int)≤b)
theorem VI (l:List ByteArray)(a b:Int):Ee l a b=some (listV patV l a b):=by
 unfold Ee;have h:=Zz patV B1 Ry l [] 0;show Ab (IK _ l 0 (Iq [])) _=_;unfold DP;rw[h];unfold listV;cases Jo patV [] l<;>rfl
theorem VH (l:List ByteArray)(a b:Int):Ed l a b=some (listV nameV l a b):=by
 unfold Ed;have h:=Zz nameV CC O4 l [] 0;show Ab (IK _ l 0 (Iq [])) _=_;unfold DO;rw[h];unfold listV;cases Jo nameV [] l<;>rfl
theorem Qv {right:ByteArray→Int}: ∀{l met:List ByteArray},Jo right met l=true→∀s∈l,right s=0
 | [],met,_,s,hs=>by cases hs
 |a::l,met,h,s,hs=>by
  simp only[Jo,Bool.and_eq_true,beq_iff_eq]at h;rcases List.mem_cons.1 hs with e|hs
  ·rw[e]; exact h.1.2
  ·exact Qv h.2 s hs
def numB (n:Int):Bool:=decide (n≥0)&&decide (n≤1099511627776)
def sigB (s:g_api_Sig):Bool:=decide ((NO s.E s.S).toNat<1152921504606845789)
def promB (p:g_api_Promise):Bool:=numB p.Log&&numB p.At&&decide ((NO p.Leaf.1 p.Leaf.2).toNat<2305843009213693951)&&sigB p.Sig
theorem Qm (n:Int):CU n=some (numB n):=rfl
theorem Qc (s:g_api_Sig):En s=some (sigB s):=by
 unfold En sigB;simp only[bnd,Option.some.injEq,decide_eq_decide];omega
theorem max_eq (a b:UInt64):BX [a,b]=some (NO a b):=by
 have e1:AU [a,b] (a,1)=some (.inl (NO a b,2)):=rfl;have e2:AU [a,b] (NO a b,2)=some (.inr (NO a b)):=rfl;have h: ∀n,iter (AU [a,b]) (n+1+1) (a,1)=some (NO a b):=fun n=>by
  simp only[iter,e1,oZ0,e2]
 have hf:iter (AU [a,b]) Bv (a,1)=some (NO a b):=h 18446744073709551614;have i0:idx [a,b] 0=some a:=rfl;have d0:decide ((([a,b]:List UInt64).length:Int)<1)=false:=rfl;unfold BX;rw[d0,i0];simp only[Bool.false_eq_true,if_false,oZ0,hf]
theorem Ph {c v:Bool}:gu c (some v)=some (c&&v):=by cases c<;>rfl
theorem Lg {α:Type} [Inhabited α](o:Option α):gu true o=o:=rfl
theorem VV {α:Type} [Inhabited α](o:Option α):gu false o=some default:=rfl
theorem Ao {α β:Type}(a:α)(k:α→β):bnd a k=k a:=rfl
theorem Rx (p:g_api_Promise):Ec p=some (promB p):=by
 unfold Ec promB;simp only[Qm,max_eq,Qc,Ph,Ao,oZ0];have e: ∀x:UInt64,decide ((x.toNat:Int)<2305843009213693951)=decide (x.toNat<2305843009213693951):=fun x=>by
  rw[decide_eq_decide]; omega
 simp only[e];cases numB p.Log with
 |false=>simp only[Bool.false_and,VV,oZ0]
 |true=>
  cases numB p.At with
  |false=>simp only[Bool.false_and,Bool.true_and,VV,oZ0]
  |true=>
   simp only[Bool.true_and,Lg,oZ0];cases decide ((NO p.Leaf.1 p.Leaf.2).toNat<2305843009213693951)<;>simp only[Bool.false_and,Bool.true_and]
def promsB:Int→List g_api_Promise→Bool
 |_,[]=>true
 |last,p::l=>promB p&& !(decide (p.Log≤last))&&promsB p.Log l
theorem SH: ∀(l:List g_api_Promise) (i last:Int),∃z:Int,IK Ci l i last=some (if promsB last l=true then .inl z else .inr false)
 | [],i,last=>⟨last,rfl⟩
 |p::l,i,last=>by
  obtain⟨z,ih⟩:=SH l (i+1) p.Log;refine⟨z,?_⟩;have e:Ci i p last=some (if(promB p&& !(decide (p.Log≤last)))=true then .inl p.Log else .inr false):=by
   unfold Ci;rw[Rx,oZ0];cases promB p<;>cases decide (p.Log≤last)<;>rfl
  show Ab (Ci i p last) _=_;rw[e];cases h:promB p&& !(decide (p.Log≤last))with
  |false=>
   simp[promsB,h]
  |true=>
   rw[if_pos rfl,oZ0];show IK Ci l (i+1) p.Log=_;rw[ih];simp[promsB,h]
theorem NL: ∀{l:List g_api_Promise} {last:Int},promsB last l=true→∀p∈l,promB p=true
 | [],_,_,p,hp=>by cases hp
 |a::l,last,h,p,hp=>by
  simp only[promsB,Bool.and_eq_true]at h;rcases List.mem_cons.1 hp with e|hp
  ·rw[e]; exact h.1.1
  ·exact NL h.2 p hp
def formB (c:Ac):Bool:=promsB (-1) c.Proms&&(numB c.Serial&&numB c.From&&numB c.Until&&decide (c.From<c.Until))&&(textV c.Issuer&&(!((c.Key.toNat:Int)==0))&&decide ((c.Key.toNat:Int)<2305843009213691579)&&decide ((c.Proms.length:Int)≤4)&&sigB c.Sig)&&(if c.Ca=true then textV c.Subject&&((c.Names.length:Int)==0)&&decide (c.Depth≥0)&&decide (c.Depth≤4)&&listV patV c.Permit 0 8 else eqS c.Subject (⟨#[]⟩:ByteArray)&&listV nameV c.Names 1 8&&(c.Depth==0)&&((c.Permit.length:Int)==0))
theorem V1 (c:Ac):Fv c=some (formB c):=by
 obtain⟨z,hz⟩:=SH c.Proms 0 (-1);unfold Fv formB;rw[hz];cases promsB (-1) c.Proms with
 |false=>rfl
 |true=>
  rw[if_pos rfl,oZ0];simp only[Qm,Rj,Qc,VI,VH,Ph,Ao,oZ0,Bool.true_and];have e1:decide (c.From≥c.Until)= !decide (c.From<c.Until):=by
   rw[←decide_not,decide_eq_decide]; omega
  have e2:decide ((c.Key.toNat:Int)≥2305843009213691579)= !decide ((c.Key.toNat:Int)<2305843009213691579):=by
   rw[←decide_not,decide_eq_decide]; omega
  have e3:decide ((c.Proms.length:Int)>4)= !decide ((c.Proms.length:Int)≤4):=by
   rw[←decide_not,decide_eq_decide]; omega
  rw[e1,e2,e3];generalize numB c.Serial=a1;generalize numB c.From=a2;generalize numB c.Until=a3;generalize decide (c.From<c.Until)=a4;generalize textV c.Issuer=b1;generalize ((c.Key.toNat:Int)==0)=b2;generalize decide ((c.Key.toNat:Int)<2305843009213691579)=b3;generalize decide ((c.Proms.length:Int)≤4)=b4;generalize sigB c.Sig=b5;cases a1<;>cases a2<;>cases a3<;>cases a4<;>try rfl
  all_goals cases b1<;>cases b2<;>cases b3<;>cases b4<;>cases b5<;>try rfl
  cases c.Ca with
  |true=>
   show some _=some _;generalize listV patV c.Permit 0 8=d1;generalize textV c.Subject=d2;generalize ((c.Names.length:Int)==0)=d3;generalize decide (c.Depth≥0)=d4;generalize decide (c.Depth≤4)=d5;cases d1<;>cases d2<;>cases d3<;>cases d4<;>cases d5<;>rfl
  |false=>
   show some _=some _;generalize listV nameV c.Names 1 8=d1;generalize eqS c.Subject (⟨#[]⟩:ByteArray)=d2;cases d1<;>cases d2<;>rfl
end Go.Proofs.YtlnbckkkapbdmaaGreatDoor
end
section
namespace Go.Proofs.YtlnbckkkapbdmaaGreatDoor
open Go Go.Gw Go.Ax
theorem Fa {α:Type}(b:Nat){xs ys:List α}(h:(xs.length+ys.length)*b≤140737488355328)(h1:xs.length+ys.length≤140737488355328):app b xs ys=some (xs++ys):=by unfold app; rw[if_pos ⟨h,h1⟩]
theorem Hs {α:Type}(b:Nat){ys:List α}(h:ys.length*b≤140737488355328)(h1:ys.length≤140737488355328):app b [] ys=some ys:=by
 rw[Fa b (by simpa using h) (by simpa using h1)]; rfl
theorem J7 {α:Type}(x:α)(xs:List α):cut (x::xs) 1 (((x::xs).length:Nat):Int)=some xs:=by
 unfold cut;rw[if_pos ⟨by omega,by rw[List.length_cons]; omega,by omega⟩];show some (List.take _ xs)=_;rw[List.take_of_length_le];simp
def be8 (n:Int):List UInt8:=[toB (C9 n 56),toB (C9 n 48),toB (C9 n 40),toB (C9 n 32),toB (C9 n 24),toB (C9 n 16),toB (C9 n 8),toB (C9 n 0)]
def E4:List UInt8→Bool
 | []=>false
 | [_]=>true
 |a::b::l=>decide (((a::b::l).length:Int)≤8)&&((a.toNat:Int) !=((toB (-((T0 b 7).toNat:Int))).toNat:Int))
def P3:List UInt8→List UInt8
 | []=> []
 | [a]=> [a]
 |a::b::l=>if E4 (a::b::l)=true then a::b::l else P3 (b::l)
theorem O8 (l:List UInt8):EQ l=some (E4 l):=by
 match l with
 | []=>rfl
 | [a]=>rfl
 |a::b::l=>
  unfold EQ;have e0:(((a::b::l).length:Int)==0)=false:=by simp only[beq_eq_false_iff_ne,List.length_cons]; omega
  have e1:(((a::b::l).length:Int)==1)=false:=by simp only[beq_eq_false_iff_ne,List.length_cons]; omega
  have i0:idx (a::b::l) 0=some a:=rfl;have i1:idx (a::b::l) 1=some b:=rfl;rw[e0,e1,i0,i1];simp only[Bool.false_eq_true,if_false,oZ0,Ao,E4];cases decide (((a::b::l).length:Int)≤8)<;>rfl
theorem Uv: ∀(n:Nat) (l:List UInt8),l.length<n→iter CD n l=some (P3 l)
 |0,l,h=>by omega
 |n+1,l,h=>by
  show Ab (CD l) _=_;match l with
  | []=>rfl
  | [a]=>rfl
  |a::b::l=>
   have ih:=Uv n (b::l) (by simp only[List.length_cons]at h⊢; omega);have e0:decide (((a::b::l).length:Int)>1)=true:=by simp only[decide_eq_true_eq,List.length_cons]; omega
   cases hl:E4 (a::b::l)with
   |true=>
    have e:CD (a::b::l)=some (.inr (a::b::l)):=by
     unfold CD;rw[e0,if_pos rfl,O8,hl];rfl
    rw[e];simp[P3,hl]
   |false=>
    have e:CD (a::b::l)=some (.inl (b::l)):=by
     unfold CD;rw[e0,if_pos rfl,O8,hl,J7];rfl
    rw[e];simp only[oZ0];rw[ih];simp[P3,hl]
theorem Ls: ∀(l:List UInt8),(P3 l).length≤l.length
 | []=>Nat.le_refl _
 | [a]=>Nat.le_refl _
 |a::b::l=>by
  have ih:=Ls (b::l);unfold P3;split
  ·exact Nat.le_refl _
  ·rw[List.length_cons]; omega
def J2 (n:Int):g_api_Item:=⟨2,P3 (be8 n),[]⟩
theorem be8_eq (n:Int):Gl (Hk n) 8 0 (0,0,0,0,0,0,0,0)=some (toB (C9 n 56),toB (C9 n 48),toB (C9 n 40),toB (C9 n 32),toB (C9 n 24),toB (C9 n 16),toB (C9 n 8),toB (C9 n 0)):=rfl
theorem Ly {l:List UInt8}(h:l.length≤140737488355328):AR l=some l:=by
 unfold AR;rw[Hs 1 (by omega) h]; rfl
theorem VS (n:Int):Dz n=some (J2 n):=by
 have h8:(be8 n).length=8:=rfl;have h:=Ls (be8 n);unfold Dz;rw[be8_eq];show Ab (Ab (iter CD Bv (be8 n)) _) _=_;rw[Uv Bv (be8 n) (by rw[h8]; have:=AJ; omega)];show Ab (AR (P3 (be8 n))) _=_;rw[Ly (by omega)];rfl
def I7 (x:UInt64):g_api_Item:=J2 (w64 (x.toNat:Int))
theorem Tn (x:UInt64):Dg x=some (I7 x):=by unfold Dg; rw[VS]; rfl
def Et (s:ByteArray):g_api_Item:=⟨12,s.data.toList,[]⟩
def MR (v:Bool):g_api_Item:=⟨1,[if v=true then 255 else 0],[]⟩
def Nm (l:List g_api_Item):g_api_Item:=⟨48,[],l⟩
theorem OE {s:ByteArray}(h:s.size≤140737488355328):FN s=some (Et s):=by
 unfold FN;rw[Hs 1 (by rw[AK]; omega) (by rw[AK]; exact h)]; rfl
theorem XR (v:Bool):IS v=some (MR v):=by cases v<;>rfl
theorem Jf {l:List g_api_Item}(h:l.length≤1000000):Ea l=some (Nm l):=by
 unfold Ea Aw;rw[Hs 56 (by omega) (by omega)]; rfl
theorem Sj: ∀(l:List ByteArray) (i:Int) (a:List g_api_Item),(∀s∈l,s.size≤64)→a.length+l.length≤1000000→EE Bg l i a=some (a++l.map Et)
 | [],i,a,_,_=>by simp[EE]
 |s::l,i,a,h,hn=>by
  rw[List.length_cons]at hn;have ih:=Sj l (i+1) (a++[Et s]) (fun x hx=>h x (List.mem_cons_of_mem _ hx)) (by rw[List.length_append]; show a.length+1+_≤_; omega);have e:Bg i s a=some (a++[Et s]):=by
   unfold Bg;rw[OE (by have:=h s List.mem_cons_self; omega),oZ0,Fa 56 (by show(a.length+1)*56≤_; omega) (by show a.length+1≤_; omega)];rfl
  show Ab (Bg i s a) _=_;rw[e];show EE _ l (i+1) (a++[Et s])=_;rw[ih];simp
def F8 (l:List ByteArray):g_api_Item:=Nm (l.map Et)
theorem Sk {l:List ByteArray}(h: ∀s∈l,s.size≤64)(hn:l.length≤1000000):B4 l=some (F8 l):=by
 unfold B4;rw[Sj l 0 [] h (by simpa using hn)];simp only[oZ0,List.nil_append];rw[Jf (by rw[List.length_map]; exact hn)]; rfl
def HU (p:g_api_Promise):g_api_Item:=Nm [J2 p.Log,J2 p.At,I7 p.Leaf.1,I7 p.Leaf.2,I7 p.Sig.E,I7 p.Sig.S]
theorem W1 (p:g_api_Promise):Fw p=some (HU p):=by
 unfold Fw;simp only[VS,Tn,oZ0];rw[Jf (by simp)]; rfl
theorem SG: ∀(l:List g_api_Promise) (i:Int) (a:List g_api_Item),a.length+l.length≤1000000→EE AX l i a=some (a++l.map HU)
 | [],i,a,_=>by simp[EE]
 |s::l,i,a,hn=>by
  rw[List.length_cons]at hn;have ih:=SG l (i+1) (a++[HU s]) (by rw[List.length_append]; show a.length+1+_≤_; omega);have e:AX i s a=some (a++[HU s]):=by
   unfold AX;rw[W1,oZ0,Fa 56 (by show(a.length+1)*56≤_; omega) (by show a.length+1≤_; omega)];rfl
  show Ab (AX i s a) _=_;rw[e];show EE _ l (i+1) (a++[HU s])=_;rw[ih];simp
def Mw (l:List g_api_Promise):g_api_Item:=Nm (l.map HU)
theorem Vi {l:List g_api_Promise}(hn:l.length≤1000000):BY l=some (Mw l):=by
 unfold BY;rw[SG l 0 [] (by simpa using hn)];simp only[oZ0,List.nil_append];rw[Jf (by rw[List.length_map]; exact hn)]; rfl
structure R4 (c:Ac):Prop where
 issuer:c.Issuer.size≤64
 subject:c.Subject.size≤64
 names: ∀s∈c.Names,s.size≤64
 few:c.Names.length≤8
 permit: ∀s∈c.Permit,s.size≤64
 fewP:c.Permit.length≤8
 proms:c.Proms.length≤4
def SJ (c:Ac):g_api_Item:=Nm [J2 c.Serial,Et c.Issuer,Et c.Subject,I7 c.Key,F8 c.Names,J2 c.From,J2 c.Until,MR c.Ca,J2 c.Depth,F8 c.Permit]
def Kc (c:Ac):g_api_Item:=Nm [SJ c,Mw c.Proms]
def wholeI (c:Ac):g_api_Item:=Nm [Kc c,Nm [I7 c.Sig.E,I7 c.Sig.S]]
theorem Zo {c:Ac}(h:R4 c):GM c=some (SJ c):=by
 unfold GM;have h1:=h.issuer; have h2:=h.subject; have h3:=h.few; have h4:=h.fewP;simp only[VS,Tn,XR,OE (s:=c.Issuer) (by omega),OE (s:=c.Subject) (by omega),Sk h.names (by omega),Sk h.permit (by omega),oZ0];rw[Jf (by simp)]; rfl
theorem XU {c:Ac}(h:R4 c):FQ c=some (Kc c):=by
 unfold FQ;have h1:=h.proms;rw[Zo h,Vi (by omega)];simp only[oZ0];rw[Jf (by simp)]; rfl
theorem Uk {c:Ac}(h:R4 c):E3 c=some (wholeI c):=by
 unfold E3;rw[XU h,Tn,Tn];simp only[oZ0];rw[Jf (by simp)];simp only[oZ0];rw[Jf (by simp)]; rfl
structure Form (c:Ac):Prop where
 proms:promsB (-1) c.Proms=true
 serial:numB c.Serial=true
 frm:numB c.From=true
 til:numB c.Until=true
 lt:c.From<c.Until
 issuer:textV c.Issuer=true
 key0:(c.Key.toNat:Int)≠0
 keyQ:(c.Key.toNat:Int)<2305843009213691579
 nproms:(c.Proms.length:Int)≤4
 sig:sigB c.Sig=true
 ca:c.Ca=true→textV c.Subject=true∧c.Names=[]∧0≤c.Depth∧c.Depth≤4∧listV patV c.Permit 0 8=true
 leaf:c.Ca=false→c.Subject=(⟨#[]⟩:ByteArray)∧listV nameV c.Names 1 8=true∧c.Depth=0∧c.Permit=[]
theorem V2 {c:Ac}(h:formB c=true):Form c:=by
 unfold formB at h;simp only[Bool.and_eq_true,decide_eq_true_eq,Bool.not_eq_true',beq_eq_false_iff_ne]at h;obtain⟨⟨⟨h1,⟨⟨h2,h3⟩,h4⟩,h5⟩,⟨⟨⟨h6,h7⟩,h8⟩,h9⟩,h10⟩,h11⟩:=h;refine⟨h1,h2,h3,h4,h5,h6,h7,h8,h9,h10,fun e=> ?_,fun e=> ?_⟩
 ·rw[if_pos e]at h11;simp only[Bool.and_eq_true,decide_eq_true_eq,beq_iff_eq]at h11;obtain⟨⟨⟨⟨a,b⟩,d⟩,f⟩,g⟩:=h11;exact⟨a,List.eq_nil_of_length_eq_zero (by omega),by omega,f,g⟩
 ·rw[e]at h11;simp only[Bool.false_eq_true,if_false,Bool.and_eq_true,decide_eq_true_eq,beq_iff_eq]at h11;obtain⟨⟨⟨a,b⟩,d⟩,f⟩:=h11;exact⟨Ia.1 a,b,d,List.eq_nil_of_length_eq_zero (by omega)⟩
theorem Qu {right:ByteArray→Int}{l:List ByteArray}{a b:Int}(h:listV right l a b=true):a≤l.length∧(l.length:Int)≤b∧∀s∈l,right s=0:=by
 unfold listV at h;simp only[Bool.and_eq_true,decide_eq_true_eq]at h;exact⟨by omega,h.2,Qv h.1.1⟩
theorem Form.sized {c:Ac}(h:Form c):R4 c:=by
 have hi:=(Sm h.issuer).2;have hp:=h.nproms;cases hc:c.Ca with
 |true=>
  obtain⟨h1,h2,h3,h4,h5⟩:=h.ca hc;obtain⟨l1,l2,l3⟩:=Qu h5;exact⟨hi,(Sm h1).2,(by rw[h2]; intro s hs; cases hs),by rw[h2]; decide,fun s hs=>Vq (l3 s hs),by omega,by omega⟩
 |false=>
  obtain⟨h1,h2,h3,h4⟩:=h.leaf hc;obtain⟨l1,l2,l3⟩:=Qu h2;exact⟨hi,by rw[h1]; decide,fun s hs=>TO (l3 s hs),by omega,(by rw[h4]; intro s hs; cases hs),by rw[h4]; decide,by omega⟩
end Go.Proofs.YtlnbckkkapbdmaaGreatDoor
end
section
namespace Go.Proofs.YtlnbckkkapbdmaaGreatDoor
open Go Go.Gw Go.Ax
theorem Z4 (t:Int):E0 t=some (if t=1 then(⟨1,228⟩,true)else if t=2 then(⟨2,128⟩,true)else if t=4 then(⟨4,229⟩,true)else if t=12 then(⟨12,230⟩,true)else if t=48 then(⟨48,233⟩,true)else(⟨0,-1⟩,false)):=by
 by_cases h1:t=1
 ·subst h1; rfl
 by_cases h2:t=2
 ·subst h2; rfl
 by_cases h3:t=4
 ·subst h3; rfl
 by_cases h4:t=12
 ·subst h4; rfl
 by_cases h5:t=48
 ·subst h5; rfl
 rw[if_neg h1,if_neg h2,if_neg h3,if_neg h4,if_neg h5];have b: ∀(k:Int),t≠k→((k==t)=true)=False:=fun k h=>by simp only[beq_iff_eq,eq_iff_iff,iff_false]; exact fun e=>h e.symm
 have g:Hq (Ah tab_0) tab_0.length 0 t=some (.inl t):=by
  have i: ∀(j:Nat) (k:CN),idx tab_0 (j:Int)=some k→t≠k.tag_→Ah tab_0 (j:Int) t=some (.inl t):=fun j k e hk=>by
   have hb:(k.tag_==t)=false:=by simp only[beq_eq_false_iff_ne]; exact fun e=>hk e.symm
   unfold Ah Hj;rw[e];simp only[oZ0,hb,Bool.false_eq_true,if_false]
  show Ab (Ah tab_0 ((0:Nat):Int) t) _=_;rw[i 0 ⟨1,228⟩ rfl h1];show Ab (Ah tab_0 ((1:Nat):Int) t) _=_;rw[i 1 ⟨2,128⟩ rfl h2];show Ab (Ah tab_0 ((2:Nat):Int) t) _=_;rw[i 2 ⟨4,229⟩ rfl h3];show Ab (Ah tab_0 ((3:Nat):Int) t) _=_;rw[i 3 ⟨12,230⟩ rfl h4];show Ab (Ah tab_0 ((4:Nat):Int) t) _=_;rw[i 4 ⟨48,233⟩ rfl h5];rfl
 unfold E0 A3;rw[g];rfl
def Gk (t:Int):Bool:=t==1||t==2||t==4||t==12||t==48
def XS (b:List UInt8):Bool:=match b with| [x]=>x==0||x==255|_=>false
def HE (b:List UInt8):Bool:=b.all fun c=>decide (32≤c.toNat)&&decide (c.toNat≤126)
def Lc (t:Int)(b:List UInt8):Bool:=if t=1 then XS b else if t=2 then E4 b else if t=4 then true else if t=12 then HE b else if t=48 then b.isEmpty else false
theorem Qz (b:List UInt8):Dt b=some (XS b):=by
 match b with
 | []=>rfl
 | [x]=>
  unfold Dt;have e1:((([x]:List UInt8).length:Int)==1)=true:=rfl;have e2:idx [x] 0=some x:=rfl;rw[e1,e2];have e3: ∀n:UInt8,((x.toNat:Int)==n.toNat)=(x==n):=fun n=>by
   rw[Bool.eq_iff_iff,beq_iff_eq,beq_iff_eq,←UInt8.toNat_inj];omega
  have z0:((x.toNat:Int)==0)=(x==0):=e3 0;have z1:((x.toNat:Int)==255)=(x==255):=e3 255;simp only[Lg,oZ0,Ao,z0,z1,Bool.true_and];show _=some (x==0||x==255);cases h:x==0 with
  |true=>rfl
  |false=>simp only[Bool.not_false,Lg,oZ0,Ao,z1,Bool.false_or]
 |x::y::l=>
  unfold Dt;have e1:(((x::y::l).length:Int)==1)=false:=by simp only[beq_eq_false_iff_ne,List.length_cons]; omega
  rw[e1];rfl
theorem Yv: ∀(a b:List UInt8),∃r,Hq (An (a++b)) b.length (a.length:Int) ()=some r∧(r= .inl ()↔HE b=true)∧∀i,r= .inr i→0≤i
 |a,[]=>⟨.inl (),rfl,by simp[HE],fun i h=>by cases h⟩
 |a,c::b=>by
  have hi:idx (a++c::b) (a.length:Int)=some c:=by
   unfold idx;rw[if_pos (by omega)];simp
  obtain⟨r,h1,h2,h3⟩:=Yv (a++[c]) b;have ec:(decide ((c.toNat:Int)<32)||decide ((c.toNat:Int)>126))= !(decide (32≤c.toNat)&&decide (c.toNat≤126)):=by
   rw[Bool.eq_iff_iff];simp only[Bool.or_eq_true,Bool.not_eq_true',Bool.and_eq_false_iff,decide_eq_true_eq,decide_eq_false_iff_not];omega
  have st:An (a++c::b) (a.length:Int) ()=some (if(decide (32≤c.toNat)&&decide (c.toNat≤126))=true then .inl ()else .inr (a.length:Int)):=by
   unfold An Fo;rw[hi];simp only[oZ0,Ao,ec];cases decide (32≤c.toNat)&&decide (c.toNat≤126)<;>rfl
  show∃r,Ab (An (a++c::b) (a.length:Int) ()) _=some r∧_;rw[st];cases hc:decide (32≤c.toNat)&&decide (c.toNat≤126)with
  |false=>exact⟨.inr (a.length:Int),rfl,by simp[HE,hc],fun i h=>(by cases h; omega)⟩
  |true=>
   refine⟨r,?_,?_,h3⟩
   ·show Hq (An (a++c::b)) b.length ((a.length:Int)+1) ()=some r;rw[←h1];simp
   ·rw[h2];simp only[HE,List.all_cons,hc,Bool.true_and]
theorem VN (b:List UInt8):Fp b=some (HE b):=by
 obtain⟨r,h1,h2,h3⟩:=Yv [] b;unfold Fp Bh BC;have h1:Hq (An b) b.length 0 ()=some r:=h1;rw[h1];cases r with
 |inl u=>rw[h2.1 rfl]; rfl
 |inr i=>
  have hp:HE b=false:=by
   cases h:HE b with
   |false=>rfl
   |true=>exact absurd (h2.2 h) (by simp)
  have hi:=h3 i rfl;rw[hp];show some (!(decide (i≥0)))=_;rw[decide_eq_true hi]; rfl
theorem VM (b:List UInt8):Fm b=some b.isEmpty:=by
 cases b with
 |nil=>rfl
 |cons a l=>
  unfold Fm;have:(((a::l).length:Int)==0)=false:=by simp only[beq_eq_false_iff_ne,List.length_cons]; omega
  rw[this]; rfl
theorem RI {t:Int}(h:Gk t=true):t=1∨t=2∨t=4∨t=12∨t=48:=by
 unfold Gk at h;simp only[Bool.or_eq_true,beq_iff_eq]at h;omega
theorem HI {t:Int}(h:Gk t=true): ∃k,E0 t=some (k,true)∧k.tag_=t∧∀b,JW k.may_ b=some (Lc t b):=by
 rcases RI h with e|e|e|e|e
 ·subst e; exact⟨_,rfl,rfl,Qz⟩
 ·subst e; exact⟨_,rfl,rfl,O8⟩
 ·subst e; exact⟨_,rfl,rfl,fun b=>rfl⟩
 ·subst e; exact⟨_,rfl,rfl,VN⟩
 ·subst e; exact⟨_,rfl,rfl,VM⟩
theorem E5 {t:Int}(h:Gk t=false):E0 t=some (⟨0,-1⟩,false)∧∀b,Lc t b=false:=by
 unfold Gk at h;simp only[Bool.or_eq_false_iff,beq_eq_false_iff_ne]at h;obtain⟨⟨⟨⟨h1,h2⟩,h3⟩,h4⟩,h5⟩:=h;refine⟨?_,fun b=> ?_⟩
 ·rw[Z4,if_neg h1,if_neg h2,if_neg h3,if_neg h4,if_neg h5]
 ·unfold Lc;rw[if_neg h1,if_neg h2,if_neg h3,if_neg h4,if_neg h5]
def mayB:Nat→g_api_Item→Bool
 |0,_=>false
 |d+1,x=>Lc x.Tag x.B&&(x.Tag==48||x.L.isEmpty)&&x.L.all (mayB d)
theorem Yw (rF:g_api_Item→Int→Option Bool)(p:g_api_Item→Bool)(d:Int): ∀(a b:List g_api_Item),(∀y∈b,rF y (w64 (d-1))=some (p y))→
  ∃r,Hq (Ak rF (a++b)) b.length (a.length:Int) d=some r∧(r= .inl d↔b.all p=true)∧(∀e,r= .inl e→e=d)∧∀i,r= .inr i→0≤i.1
 |a,[],_=>⟨.inl d,rfl,by simp,fun e h=>by cases h; rfl,fun i h=>by cases h⟩
 |a,c::b,h=>by
  have hi:idx (a++c::b) (a.length:Int)=some c:=by
   unfold idx;rw[if_pos (by omega)];simp
  obtain⟨r,h1,h2,h4,h3⟩:=Yw rF p d (a++[c]) b fun y hy=>h y (List.mem_cons_of_mem _ hy);have st:Ak rF (a++c::b) (a.length:Int) d=some (if p c=true then .inl d else .inr ((a.length:Int),d)):=by
   unfold Ak GI;rw[hi];simp only[oZ0,h c List.mem_cons_self];cases p c<;>rfl
  show∃r,Ab (Ak rF (a++c::b) (a.length:Int) d) _=some r∧_;rw[st];cases hc:p c with
  |false=>exact⟨.inr ((a.length:Int),d),rfl,by simp[hc],fun e h=>(by cases h),fun i h=>(by cases h; exact Int.natCast_nonneg _)⟩
  |true=>
   refine⟨r,?_,?_,h4,h3⟩
   ·show Hq (Ak rF (a++c::b)) b.length ((a.length:Int)+1) d=some r;rw[←h1];simp
   ·rw[h2];simp only[List.all_cons,hc,Bool.true_and]
theorem RU (rF:g_api_Item→Int→Option Bool)(p:g_api_Item→Bool)(d:Int)(l:List g_api_Item)(h: ∀y∈l,rF y (w64 (d-1))=some (p y)):
  ∃z,Az rF l d=some (!(l.all p),z):=by
 obtain⟨r,h1,h2,h4,h3⟩:=Yw rF p d [] l h;have h1:Hq (Ak rF l) l.length 0 d=some r:=h1;unfold Az A0;rw[h1];cases r with
 |inl u=>
  have:=h4 u rfl;subst this;rw[h2.1 rfl];exact⟨_,rfl⟩
 |inr i=>
  have hp:l.all p=false:=by
   cases h:l.all p with
   |false=>rfl
   |true=>exact absurd (h2.2 h) (by simp)
  have hi:=h3 i rfl;rw[hp];refine⟨i.2,?_⟩;show some (decide (i.1≥0),i.2)=_;rw[decide_eq_true hi]; rfl
theorem Yp: ∀(d n:Nat) (x:g_api_Item),d<n→d≤100→Ga n x (d:Int)=some (mayB d x)
 |d,0,x,h,_=>by omega
 |0,n+1,x,_,_=>by
  show EP (Ga n) x 0=some false;unfold EP;cases hk:Gk x.Tag with
  |false=>rw[(E5 hk).1]; rfl
  |true=>
   obtain⟨k,e,_,_⟩:=HI hk;rw[e]; rfl
 |d+1,n+1,x,h,hd=>by
  have ih: ∀y∈x.L,Ga n y (w64 (((d+1:Nat):Int)-1))=some (mayB d y):=fun y _=>by
   rw[show w64 (((d+1:Nat):Int)-1)=(d:Int)from by rw[AF (by omega) (by omega)]; omega];exact Yp d n y (by omega) (by omega)
  obtain⟨z,hz⟩:=RU (Ga n) (mayB d) ((d+1:Nat):Int) x.L ih;show EP (Ga n) x ((d+1:Nat):Int)=some (mayB (d+1) x);unfold EP mayB;have e1:decide (((d+1:Nat):Int)<1)=false:=by rw[decide_eq_false_iff_not]; omega
  have e2:decide ((x.L.length:Int)>0)= !x.L.isEmpty:=by
   cases x.L with
   |nil=>rfl
   |cons a l=>show decide _=true; rw[decide_eq_true_eq,List.length_cons]; omega
  have e3:(x.Tag !=48)= !(x.Tag==48):=rfl;rw[e1,e2,e3];cases hk:Gk x.Tag with
  |false=>
   rw[(E5 hk).1,(E5 hk).2]; rfl
  |true=>
   obtain⟨k,e,_,hm⟩:=HI hk;rw[e];simp only[oZ0,Bool.not_true,Bool.or_false,Bool.not_false,Lg,hm,hz,Bool.not_not];cases Lc x.Tag x.B<;>cases x.Tag==48<;>cases x.L.isEmpty<;>rfl
theorem MB (x:g_api_Item):G4 x 8=some (mayB 8 x):=Yp 8 Bv x (by have:=AJ; omega) (by decide)
end Go.Proofs.YtlnbckkkapbdmaaGreatDoor
end
section
namespace Go.Proofs.YtlnbckkkapbdmaaGreatDoor
open Go Go.Gw Go.Ax
def FG (n:Nat):List UInt8:=if n<128 then [toB (n:Int)]else if n<256 then [129,toB (n:Int)]else [130,toB (C9 (n:Int) 8),toB (n:Int)]
def putB:Nat→g_api_Item→List UInt8
 |0,_=> []
 |d+1,x=>toB x.Tag::(FG (x.B++x.L.flatMap (putB d)).length++(x.B++x.L.flatMap (putB d)))
def Li:Nat→g_api_Item→Prop
 |0,_=>False
 |d+1,x=> ∀y∈x.L,Li d y
theorem RR: ∀{d:Nat} {x:g_api_Item},mayB d x=true→Li d x
 |0,x,h=>by cases h
 |d+1,x,h=>by
  simp only[mayB,Bool.and_eq_true,List.all_eq_true]at h;exact fun y hy=>RR (h.2 y hy)
theorem JY (n:Nat):1≤(FG n).length∧(FG n).length≤3:=by
 unfold FG;split
 ·exact⟨by simp,by simp⟩
 ·split
  ·exact⟨by simp,by simp⟩
  ·exact⟨by simp,by simp⟩
theorem putE: ∀(d n:Nat) (x:g_api_Item) (b:List UInt8),d≤n→Li d x→b.length+(putB d x).length≤100000000000000→Ff n b x=some (b++putB d x)
 |0,n,x,b,_,h,_=>h.elim
 |d+1,0,x,b,h,_,_=>by omega
 |d+1,n+1,x,b,hn,hd,hb=>by
  have eP:putB (d+1) x=toB x.Tag::(FG (x.B++x.L.flatMap (putB d)).length++(x.B++x.L.flatMap (putB d))):=rfl;have go: ∀(l:List g_api_Item) (i:Int) (s:List UInt8),(∀y∈l,Li d y)→s.length+(l.flatMap (putB d)).length≤100000000000000→EE (Cu (Ff n)) l i s=some (s++l.flatMap (putB d)):=by
   intro l;induction l with
   |nil=>intro i s _ _; simp[EE]
   |cons y l ih=>
    intro i s h hs;rw[List.flatMap_cons,List.length_append]at hs;have e:Cu (Ff n) i y s=some (s++putB d y):=by
     unfold Cu;rw[putE d n y s (by omega) (h y List.mem_cons_self) (by omega)];rfl
    show Ab (Cu (Ff n) i y s) _=_;rw[e];show EE _ l (i+1) (s++putB d y)=_;rw[ih (i+1) (s++putB d y) (fun z hz=>h z (List.mem_cons_of_mem _ hz)) (by rw[List.length_append]; omega),List.flatMap_cons,List.append_assoc]
  rw[eP]at hb⊢;simp only[List.length_cons,List.length_append]at hb;have hc:D9 (Ff n) x=some (x.B++x.L.flatMap (putB d)):=by
   unfold D9;rw[Ly (by omega),oZ0,go x.L 0 x.B hd (by omega)];rfl
  show G3 (Ff n) b x=_;unfold G3;rw[hc,oZ0,Fa 1 (by simp only[List.length_cons,List.length_nil]; omega) (by simp only[List.length_cons,List.length_nil]; omega),oZ0];rw[←List.length_append]at hb;have hL:(x.B++x.L.flatMap (putB d)).length=(x.B++x.L.flatMap (putB d)).length:=rfl;generalize (x.B++x.L.flatMap (putB d))=c at hb hL⊢;have hl:=JY c.length;have hm: ∀z:List UInt8,z.length≤3→app 1 (b++[toB x.Tag]) z=some (b++[toB x.Tag]++z):=fun z hz=>Fa 1 (by simp only[List.length_append,List.length_cons,List.length_nil]; omega) (by simp only[List.length_append,List.length_cons,List.length_nil]; omega);have fin:app 1 (b++[toB x.Tag]++FG c.length) c=some (b++toB x.Tag::(FG c.length++c)):=by
   rw[Fa 1 (by simp only[List.length_append,List.length_cons,List.length_nil]; omega) (by simp only[List.length_append,List.length_cons,List.length_nil]; omega)];simp
  have mid:(bnd (decide ((c.length:Int)<128)) fun x4=>
    if x4=true then
     Ab (app 1 (b++[toB x.Tag]) ([(toB (c.length:Int))]:List UInt8)) fun x5=>
     some x5
    else
    bnd ((decide ((c.length:Int)<256))) fun x6=>
    if x6=true then
     Ab (app 1 (b++[toB x.Tag]) ([129,(toB (c.length:Int))]:List UInt8)) fun x7=>
     some x7
    else
    Ab (app 1 (b++[toB x.Tag]) ([130,(toB (C9 (c.length:Int) 8)),(toB (c.length:Int))]:List UInt8)) fun x8=>
    some x8)=some (b++[toB x.Tag]++FG c.length):=by
   rw[hm [toB (c.length:Int)] (by simp),hm [129,toB (c.length:Int)] (by simp),hm [130,toB (C9 (c.length:Int) 8),toB (c.length:Int)] (by simp)];simp only[Ao,oZ0,decide_eq_true_eq];unfold FG;by_cases h1:c.length<128
   ·rw[if_pos h1,if_pos (by omega)]
   ·rw[if_neg h1,if_neg (by omega)];by_cases h2:c.length<256
    ·rw[if_pos h2,if_pos (by omega)]
    ·rw[if_neg h2,if_neg (by omega)]
  rw[mid];simp only[oZ0];rw[fin];rfl
theorem Zk {x:g_api_Item}(h:Li 8 x)(hs:(putB 8 x).length≤100000000000000):MC [] x=some (putB 8 x):=by
 have:=putE 8 Bv x [] (by have:=AJ; omega) h (by simpa using hs);exact this
theorem Wz {x:g_api_Item}(hs:(putB 8 x).length≤100000000000000):
  Fq x=some (if mayB 8 x=true then(if(putB 8 x).length≤8192 then(putB 8 x,0)else([],2))else([],1)):=by
 unfold Fq;rw[MB];cases hm:mayB 8 x with
 |false=>rfl
 |true=>
  simp only[oZ0,Bool.not_true,Bool.false_eq_true,if_false,if_true];rw[Zk (RR hm) hs];simp only[oZ0,decide_eq_true_eq];by_cases h:(putB 8 x).length≤8192
  ·rw[if_neg (by omega),if_pos h]
  ·rw[if_pos (by omega),if_neg h]
theorem Td {α:Type}(f:α→List UInt8)(k:Nat): ∀(l:List α),(∀y∈l,(f y).length≤k)→(l.flatMap f).length≤l.length*k
 | [],_=>by simp
 |y::l,h=>by
  have h1:=h y List.mem_cons_self;have h2:=Td f k l fun z hz=>h z (List.mem_cons_of_mem _ hz);rw[List.flatMap_cons,List.length_append,List.length_cons,Nat.succ_mul];omega
theorem OU (d:Nat)(x:g_api_Item):(putB (d+1) x).length≤4+x.B.length+(x.L.flatMap (putB d)).length:=by
 have:=JY (x.B++x.L.flatMap (putB d)).length;show(toB x.Tag::(FG (x.B++x.L.flatMap (putB d)).length++(x.B++x.L.flatMap (putB d)))).length≤_;rw[List.length_cons,List.length_append,List.length_append]at*;omega
theorem II (d:Nat)(n:Int):(putB d (J2 n)).length≤12:=by
 cases d with
 |zero=>simp[putB]
 |succ d=>
  have h:=OU d (J2 n);have h1:(J2 n).B.length≤8:=Ls (be8 n);have h2:(J2 n).L=[]:=rfl;rw[h2]at h;simp only[List.flatMap_nil,List.length_nil]at h;omega
theorem Ml (d:Nat){s:ByteArray}(hs:s.size≤64):(putB d (Et s)).length≤68:=by
 cases d with
 |zero=>simp[putB]
 |succ d=>
  have h:=OU d (Et s);have h1:(Et s).B.length=s.size:=AK s;have h2:(Et s).L=[]:=rfl;rw[h2]at h;simp only[List.flatMap_nil,List.length_nil]at h;omega
theorem Wn (d:Nat)(v:Bool):(putB d (MR v)).length≤5:=by
 cases d with
 |zero=>simp[putB]
 |succ d=>
  have h:=OU d (MR v);have h1:(MR v).B.length=1:=rfl;have h2:(MR v).L=[]:=rfl;rw[h2]at h;simp only[List.flatMap_nil,List.length_nil]at h;omega
theorem HS (d:Nat)(l:List g_api_Item)(k:Nat)(hk: ∀e y,y∈l→(putB e y).length≤k):(putB d (Nm l)).length≤4+l.length*k:=by
 cases d with
 |zero=>simp[putB]
 |succ d=>
  have h:=OU d (Nm l);have h1:(Nm l).B.length=0:=rfl;have h3:=Td (putB d) k l fun y hy=>hk d y hy;have h2:(Nm l).L=l:=rfl;rw[h2]at h;omega
theorem NG (d:Nat){l:List ByteArray}(h: ∀s∈l,s.size≤64)(hn:l.length≤8):(putB d (F8 l)).length≤1000:=by
 have:=HS d (l.map Et) 68 fun e y hy=>by
  obtain⟨s,hs,e2⟩:=List.mem_map.1 hy;rw[←e2];exact Ml e (h s hs)
 rw[List.length_map]at this;unfold F8;omega
theorem Xb {α:Type}{p:α→Prop}{a b:α}(ha:p a)(hb:p b): ∀y∈[a,b],p y:=by
 intro y hy;simp only[List.mem_cons,List.not_mem_nil,or_false]at hy;rcases hy with e|e<;>rw[e]<;>assumption
theorem W2 (d:Nat){c:Ac}(h:R4 c):(putB d (SJ c)).length≤20000:=by
 have:=HS d [J2 c.Serial,Et c.Issuer,Et c.Subject,I7 c.Key,F8 c.Names,J2 c.From,J2 c.Until,MR c.Ca,J2 c.Depth,F8 c.Permit] 1000 fun e y hy=>by
  simp only[List.mem_cons,List.not_mem_nil,or_false]at hy;rcases hy with q|q|q|q|q|q|q|q|q|q<;>rw[q]
  ·have:=II e c.Serial; omega
  ·have:=Ml e h.issuer; omega
  ·have:=Ml e h.subject; omega
  ·have:=II e (w64 (c.Key.toNat:Int)); unfold I7; omega
  ·exact NG e h.names h.few
  ·have:=II e c.From; omega
  ·have:=II e c.Until; omega
  ·have:=Wn e c.Ca; omega
  ·have:=II e c.Depth; omega
  ·exact NG e h.permit h.fewP
 simp only[List.length_cons,List.length_nil]at this;unfold SJ;omega
theorem Vj (d:Nat)(p:g_api_Promise):(putB d (HU p)).length≤100:=by
 have:=HS d [J2 p.Log,J2 p.At,I7 p.Leaf.1,I7 p.Leaf.2,I7 p.Sig.E,I7 p.Sig.S] 12 fun e y hy=>by
  simp only[List.mem_cons,List.not_mem_nil,or_false]at hy;rcases hy with q|q|q|q|q|q<;>rw[q]<;>exact II e _
 simp only[List.length_cons,List.length_nil]at this;unfold HU;omega
theorem Wq (d:Nat){c:Ac}(h:R4 c):(putB d (Kc c)).length≤50000:=by
 have:=HS d [SJ c,Mw c.Proms] 20000 fun e=>Xb (p:=fun y=>(putB e y).length≤20000) (W2 e h) (by
  have:=HS e (c.Proms.map HU) 100 fun f y hy=>by
   obtain⟨p,hp,e2⟩:=List.mem_map.1 hy;rw[←e2];exact Vj f p
  rw[List.length_map]at this;have:=h.proms;unfold Mw;omega)
 simp only[List.length_cons,List.length_nil]at this;unfold Kc;omega
theorem Nz (d:Nat){c:Ac}(h:R4 c):(putB d (wholeI c)).length≤200000:=by
 have:=HS d [Kc c,Nm [I7 c.Sig.E,I7 c.Sig.S]] 50000 fun e=>Xb (p:=fun y=>(putB e y).length≤50000) (Wq e h) (by
  have:=HS e [I7 c.Sig.E,I7 c.Sig.S] 12 fun f=>Xb (p:=fun y=>(putB f y).length≤12) (II f _) (II f _);simp only[List.length_cons,List.length_nil]at this;omega)
 simp only[List.length_cons,List.length_nil]at this;unfold wholeI;omega
def E8 (c:Ac):Int:=if formB c=true then(if mayB 8 (wholeI c)=true∧(putB 8 (wholeI c)).length≤2048 then 0 else 2)else 1
theorem Wk (b:List UInt8)(m:Bool):(Ab (some (if m=true then(if b.length≤8192 then(b,(0:Int))else([],2))else([],1))) fun x3=>if((x3.2 !=0)||(decide ((x3.1.length:Int)>2048)))=true then some (2:Int)else some 0)=some (if m=true∧b.length≤2048 then 0 else 2):=by
 cases m with
 |false=>rfl
 |true=>
  simp only[if_true,oZ0,true_and];by_cases h1:b.length≤8192
  ·rw[if_pos h1];by_cases h2:b.length≤2048
   ·rw[if_pos h2,if_neg];simp only[bne_self_eq_false,Bool.false_or,decide_eq_true_eq];omega
   ·rw[if_neg h2,if_pos];simp only[bne_self_eq_false,Bool.false_or,decide_eq_true_eq];omega
  ·rw[if_neg h1];have h2: ¬b.length≤2048:=by omega
   rw[if_neg h2];rfl
theorem Ps (c:Ac):Bz c=some (E8 c):=by
 unfold Bz E8;rw[V1];cases hf:formB c with
 |false=>rfl
 |true=>
  have hs:=(V2 hf).sized;simp only[oZ0,Bool.not_true,Bool.false_eq_true,if_false,if_true];have hl:=Nz 8 hs;rw[Uk hs,oZ0,Wz (by omega),Wk]
end Go.Proofs.YtlnbckkkapbdmaaGreatDoor
end
section
namespace Go.Proofs.YtlnbckkkapbdmaaGreatDoor
open Go Go.Gw Go.Ax
theorem Uo (x:Int):w64 (x%18446744073709551616)=w64 x:=by unfold w64; omega
theorem nat_or (q b:Nat)(h:b<256):256*q|||b=256*q+b:=(Nat.two_pow_add_eq_or_of_lt (i:=8) h q).symm
theorem Hm (s b:Int)(h0:0≤b)(h1:b<256):Ks (FJ s 8) b=w64 (s*256+b):=by
 have e1:(FJ s 8)=w64 (s*256):=rfl;unfold Ks;rw[BitVec.toNat_or,BitVec.toNat_ofInt,BitVec.toNat_ofInt,e1];obtain⟨q,hq⟩: ∃q:Nat,(w64 (s*256)% ((2^64:Nat):Int)).toNat=256*q:=by
  refine⟨(w64 (s*256)% ((2^64:Nat):Int)).toNat/256,?_⟩;unfold w64;omega
 have hb:(b% ((2^64:Nat):Int)).toNat=b.toNat:=by omega
 rw[hb,hq,nat_or q b.toNat (by omega),←Uo,←Uo (s*256+b)];congr 1;have hq':w64 (s*256)%18446744073709551616=256*q:=by
  have:(0:Int)≤w64 (s*256)% ((2^64:Nat):Int):=Int.emod_nonneg _ (by decide);have e:(((2^64:Nat):Int))=18446744073709551616:=rfl;rw[e]at this hq;omega
 unfold w64 at hq';omega
theorem Is (n:Int):((toB n).toNat:Int)=n%256:=by
 have h:0≤n%256:=Int.emod_nonneg _ (by decide);have h2:n%256<256:=Int.emod_lt_of_pos _ (by decide);unfold toB;rw[UInt8.toNat_ofNat'];omega
theorem Mr (n:Int):C9 n 8=n/256:=by
 unfold C9;rw[Int.fdiv_eq_ediv_of_nonneg _ (by decide)];rfl
theorem Ky {α:Type}(x:α)(l:List α):idx (x::l) 0=some x:=rfl
theorem fst1 (b:UInt8)(r:List UInt8)(h:b.toNat<128):AL (b::r)=some ((b.toNat:Int),1,0):=by
 unfold AL;have e0:(((b::r).length:Int)==0)=false:=by simp only[beq_eq_false_iff_ne,List.length_cons]; omega
 have e1:w64 (b.toNat:Int)=(b.toNat:Int):=AF (by omega) (by omega);rw[e0,Ky,if_neg (by decide),oZ0,e1,if_pos (by simp only[decide_eq_true_eq]; omega)]
theorem KD (a:UInt8)(l r:List UInt8):cut (a::l++r) 1 ((l.length:Int)+1)=some l:=by
 unfold cut;rw[if_pos ⟨by decide,by omega,by simp only[List.length_append,List.length_cons]; omega⟩];have e:((l.length:Int)+1).toNat-(1:Int).toNat=l.length:=by show((l.length:Int)+1).toNat-1=_; omega
 rw[e];show some (List.take l.length (l++r))=_;rw[List.take_left]
theorem fst2 (b:UInt8)(r:List UInt8)(h:128≤b.toNat):AL (129::b::r)=some ((b.toNat:Int),2,0):=by
 unfold AL;have e0:(((129::b::r).length:Int)==0)=false:=by simp only[beq_eq_false_iff_ne,List.length_cons]; omega
 have e1:w64 (((129:UInt8).toNat:Int))=129:=AF (x:=129) (by decide) (by decide);have e2:w64 ((129:Int)-128)=1:=rfl;have e3:w64 ((1:Int)+1)=2:=rfl;have e4:decide (((129::b::r).length:Int)≤1)=false:=by simp only[decide_eq_false_iff_not,List.length_cons]; omega
 have e5:cut (129::b::r) 1 2=some [b]:=KD 129 [b] r;have hb:=b.toNat_lt;have e6:Ks (FJ 0 8) (w64 (b.toNat:Int))=(b.toNat:Int):=by
  rw[AF (x:=(b.toNat:Int)) (by omega) (by omega),Hm 0 _ (by omega) (by omega),Int.zero_mul,Int.zero_add,AF (by omega) (by omega)]
 have e7:EE Cd [b] 0 0=some (b.toNat:Int):=by
  show some (Ks (FJ 0 8) (w64 (b.toNat:Int)))=_;rw[e6]
 have e8:decide ((b.toNat:Int)<128)=false:=by simp only[decide_eq_false_iff_not]; omega
 rw[e0,Ky,if_neg (by decide),oZ0,e1,if_neg (by decide),Ao,e2,Ao,if_neg (by decide),Ao,e4,if_neg (by decide),e3,e5,oZ0,e7,oZ0,oZ0,e8,if_neg (by simp)]
theorem fst3 (b1 b2:UInt8)(r:List UInt8)(h:1≤b1.toNat):AL (130::b1::b2::r)=some ((b1.toNat:Int)*256+(b2.toNat:Int),3,0):=by
 unfold AL;have e0:(((130::b1::b2::r).length:Int)==0)=false:=by simp only[beq_eq_false_iff_ne,List.length_cons]; omega
 have e1:w64 (((130:UInt8).toNat:Int))=130:=AF (x:=130) (by decide) (by decide);have e2:w64 ((130:Int)-128)=2:=rfl;have e3:w64 ((2:Int)+1)=3:=rfl;have e4:decide (((130::b1::b2::r).length:Int)≤2)=false:=by simp only[decide_eq_false_iff_not,List.length_cons]; omega
 have e5:cut (130::b1::b2::r) 1 3=some [b1,b2]:=KD 130 [b1,b2] r;have hb1:=b1.toNat_lt;have hb2:=b2.toNat_lt;have e6:Ks (FJ 0 8) (w64 (b1.toNat:Int))=(b1.toNat:Int):=by
  rw[AF (x:=(b1.toNat:Int)) (by omega) (by omega),Hm 0 _ (by omega) (by omega),Int.zero_mul,Int.zero_add,AF (by omega) (by omega)]
 have e6':Ks (FJ (b1.toNat:Int) 8) (w64 (b2.toNat:Int))=(b1.toNat:Int)*256+(b2.toNat:Int):=by
  rw[AF (x:=(b2.toNat:Int)) (by omega) (by omega),Hm _ _ (by omega) (by omega),AF (by omega) (by omega)]
 have e7:EE Cd [b1,b2] 0 0=some ((b1.toNat:Int)*256+(b2.toNat:Int)):=by
  show some (Ks (FJ (Ks (FJ 0 8) (w64 (b1.toNat:Int))) 8) (w64 (b2.toNat:Int)))=_;rw[e6,e6']
 have e8:decide ((b1.toNat:Int)*256+(b2.toNat:Int)<128)=false:=by simp only[decide_eq_false_iff_not]; omega
 have e9:decide ((b1.toNat:Int)*256+(b2.toNat:Int)<256)=false:=by simp only[decide_eq_false_iff_not]; omega
 rw[e0,Ky,if_neg (by decide),oZ0,e1,if_neg (by decide),Ao,e2,Ao,if_neg (by decide),Ao,e4,if_neg (by decide),e3,e5,oZ0,e7,oZ0,oZ0,e8,e9,if_neg (by decide)]
theorem RT {α:Type}(a b:List α):cut (a++b) (a.length:Int) (((a++b).length:Nat):Int)=some b:=by
 unfold cut;rw[if_pos ⟨by omega,by rw[List.length_append]; omega,by omega⟩];simp only[Int.toNat_natCast,List.drop_left];rw[List.take_of_length_le];rw[List.length_append]; omega
theorem RS {α:Type}(a b:List α):cut (a++b) 0 (a.length:Int)=some a:=by
 unfold cut;rw[if_pos ⟨by omega,by omega,by rw[List.length_append]; omega⟩];simp
theorem Rw {d:Nat}{x:g_api_Item}(h:mayB d x=true):1≤(putB d x).length:=by
 cases d with
 |zero=>cases h
 |succ d=>show 1≤(_::_:List UInt8).length; rw[List.length_cons]; omega
theorem Tb (p:g_api_Item→List UInt8): ∀(l:List g_api_Item),(∀y∈l,1≤(p y).length)→l.length≤(l.flatMap p).length
 | [],_=>by simp
 |y::l,h=>by
  have h1:=h y List.mem_cons_self;have h2:=Tb p l fun z hz=>h z (List.mem_cons_of_mem _ hz);rw[List.flatMap_cons,List.length_append,List.length_cons];omega
theorem Tc (p:g_api_Item→List UInt8){y:g_api_Item}: ∀{l:List g_api_Item},y∈l→(p y).length≤(l.flatMap p).length
 |z::l,h=>by
  rw[List.flatMap_cons,List.length_append];rcases List.mem_cons.1 h with e|h
  ·rw[e]; omega
  ·have:=Tc p h; omega
end Go.Proofs.YtlnbckkkapbdmaaGreatDoor
end
section
namespace Go.Proofs.YtlnbckkkapbdmaaGreatDoor
open Go Go.Gw Go.Ax
def s8 (a:UInt8):Int:=if a.toNat<128 then(a.toNat:Int)else(a.toNat:Int)-256
def Nj (s:Int)(l:List UInt8):Int:=l.foldl (fun s b=>s*256+(b.toNat:Int)) s
def Ob (s:Int)(l:List UInt8):Int:=l.foldl (fun s b=>w64 (s*256+(b.toNat:Int))) s
def P9:List UInt8→Int
 | []=>0
 |a::l=>Nj (s8 a) l
def E9:List UInt8→Int
 | []=>0
 |a::l=>Ob (s8 a) l
theorem WN (x b:Int):w64 (w64 x*256+b)=w64 (x*256+b):=by unfold w64; omega
theorem Sc: ∀(l:List UInt8) (s x:Int),s=w64 x→Ob s l=w64 (Nj x l)
 | [],s,x,h=>h
 |b::l,s,x,h=>by
  show Ob (w64 (s*256+(b.toNat:Int))) l=w64 (Nj (x*256+(b.toNat:Int)) l);exact Sc l _ _ (by rw[h,WN])
theorem UV (a:UInt8): -128≤s8 a∧s8 a<128:=by
 have:=a.toNat_lt;unfold s8;split<;>omega
theorem N2 (l:List UInt8)(h:l≠[]):E9 l=w64 (P9 l):=by
 cases l with
 |nil=>exact absurd rfl h
 |cons a l=>
  have:=UV a;exact Sc l (s8 a) (s8 a) (AF (by omega) (by omega)).symm
theorem w8_s8 (a:UInt8):w64 (w8 (a.toNat:Int))=s8 a:=by
 have h:=a.toNat_lt;have e:w8 (a.toNat:Int)=s8 a:=by
  show(if(true&&decide ((a.toNat:Int)%256≥128))=true then(a.toNat:Int)%256-256 else(a.toNat:Int)%256)=s8 a;unfold s8;simp only[Bool.true_and,decide_eq_true_eq];split
  ·rw[if_neg (by omega)]; omega
  ·rw[if_pos (by omega)]; omega
 have:=UV a;rw[e,AF (by omega) (by omega)]
theorem To: ∀(l:List UInt8) (i s:Int),EE Cv l i s=some (Ob s l)
 | [],i,s=>rfl
 |b::l,i,s=>by
  have h:=b.toNat_lt;have e:Cv i b s=some (w64 (s*256+(b.toNat:Int))):=by
   unfold Cv;rw[Ao,AF (x:=(b.toNat:Int)) (by omega) (by omega),Hm s _ (by omega) (by omega)]
  show Ab (Cv i b s) _=_;rw[e,oZ0];exact To l (i+1) _
theorem Wt {x:g_api_Item}(h:x.B≠[]):Ft x=some (E9 x.B):=by
 unfold Ft;cases hb:x.B with
 |nil=>exact absurd hb h
 |cons a l=>
  rw[Ky,oZ0,J7,oZ0,w8_s8,To,oZ0,oZ0];rfl
theorem Qd (b:UInt8):((toB (-((T0 b 7).toNat:Int))).toNat:Int)=if b.toNat<128 then 0 else 255:=by
 have h:=b.toNat_lt;rw[Is];have e:(T0 b 7).toNat=b.toNat/128:=by
  unfold T0;rw[UInt8.toNat_ofNat'];show b.toNat/128%256=_;omega
 rw[e];split<;>omega
theorem Qw {a b:UInt8}{l:List UInt8}(hl:l.length≤6):E4 (a::b::l)=false↔(a.toNat:Int)=if b.toNat<128 then 0 else 255:=by
 show(decide (((a::b::l).length:Int)≤8)&&((a.toNat:Int) !=((toB (-((T0 b 7).toNat:Int))).toNat:Int)))=false↔_;rw[Qd,decide_eq_true (by simp only[List.length_cons]; omega),Bool.true_and];simp only[bne_eq_false_iff_eq]
theorem UD {a b:UInt8}{l:List UInt8}(h:(a.toNat:Int)=if b.toNat<128 then 0 else 255):P9 (a::b::l)=P9 (b::l):=by
 show Nj (s8 a*256+(b.toNat:Int)) l=Nj (s8 b) l;have hb:=b.toNat_lt;congr 1;unfold s8;by_cases h1:b.toNat<128
 ·rw[if_pos h1]at h⊢;rw[if_pos (by omega)];omega
 ·rw[if_neg h1]at h⊢;rw[if_neg (by omega)];omega
theorem shr_k (n:Int)(k:Nat)(hk:k≤64)(hp:(0:Int)≤2^k):((toB (C9 n k)).toNat:Int)=n/2^k%256:=by
 rw[Is];unfold C9;rw[Nat.min_eq_left hk,Int.fdiv_eq_ediv_of_nonneg _ hp]
end Go.Proofs.YtlnbckkkapbdmaaGreatDoor
end
section
namespace Go.Proofs.YtlnbckkkapbdmaaGreatDoor
open Go Go.Gw Go.Ax
def fewI:Nat→g_api_Item→Prop
 |0,_=>True
 |d+1,x=>x.L.length≤100000∧∀y∈x.L,fewI d y
theorem RV {l:List g_api_Item}(h:l.length≤100000):Aw l=some l:=by
 unfold Aw;rw[Hs 56 (by omega) (by omega)]; rfl
theorem HW {d:Nat}{x:g_api_Item}(h:mayB d x=true):Lc x.Tag x.B=true:=by
 cases d with
 |zero=>cases h
 |succ d=>
  simp only[mayB,Bool.and_eq_true]at h;exact h.1.1
theorem LB (x:g_api_Item):FO x=some (if x.Tag=2 then(if mayB 8 x=true then(E9 x.B,0)else(0,71))else(0,72)):=by
 unfold FO Em;by_cases ht:x.Tag=2
 ·have e:(x.Tag !=2)=false:=by simp[ht]
  rw[if_pos ht,e,if_neg (by decide),MB,oZ0];cases hm:mayB 8 x with
  |false=>rfl
  |true=>
   have hk:=HW hm;rw[ht]at hk;have hB:x.B≠[]:=by
    intro hb;rw[hb]at hk;cases hk
   rw[if_neg (by decide),Wt hB];rfl
 ·have e:(x.Tag !=2)=true:=by simp[ht]
  rw[if_neg ht,e,if_pos rfl];rfl
theorem Ke (x:g_api_Item):E1 x=some (if x.Tag=12 then(if mayB 8 x=true then(bs x.B,0)else((⟨#[]⟩:ByteArray),71))else((⟨#[]⟩:ByteArray),72)):=by
 unfold E1 Db;by_cases ht:x.Tag=12
 ·have e:(x.Tag !=12)=false:=by simp[ht]
  rw[if_pos ht,e,if_neg (by decide),MB,oZ0];cases hm:mayB 8 x with
  |false=>rfl
  |true=>rfl
 ·have e:(x.Tag !=12)=true:=by simp[ht]
  rw[if_neg ht,e,if_pos rfl];rfl
def NE:List UInt8→Bool
 | []=>false
 |a::_=>(a.toNat:Int) !=0
theorem Kf (x:g_api_Item):E2 x=some (if x.Tag=1 then(if mayB 8 x=true then(NE x.B,0)else(false,71))else(false,72)):=by
 unfold E2 DN;by_cases ht:x.Tag=1
 ·have e:(x.Tag !=1)=false:=by simp[ht]
  rw[if_pos ht,e,if_neg (by decide),MB,oZ0];cases hm:mayB 8 x with
  |false=>rfl
  |true=>
   have hk:=HW hm;rw[ht]at hk;unfold FZ;cases hb:x.B with
   |nil=>rw[hb]at hk; cases hk
   |cons a l=>
    rw[if_neg (by decide),Ky];rfl
 ·have e:(x.Tag !=1)=true:=by simp[ht]
  rw[if_neg ht,e,if_pos rfl];rfl
theorem IV {x:g_api_Item}(hx:x.L.length≤100000):ER x=some (if x.Tag=48 then(if mayB 8 x=true then(x.L,0)else([],71))else([],72)):=by
 unfold ER CJ;by_cases ht:x.Tag=48
 ·have e:(x.Tag !=48)=false:=by simp[ht]
  rw[if_pos ht,e,if_neg (by decide),MB,oZ0];cases hm:mayB 8 x with
  |false=>rfl
  |true=>
   unfold GJ;rw[if_neg (by decide),RV hx];rfl
 ·have e:(x.Tag !=48)=true:=by simp[ht]
  rw[if_neg ht,e,if_pos rfl];rfl
abbrev Its:=List g_api_Item
def rd {α:Type}(p:Option (α×Its)):Option (Option (α×Ae)):=some (p.map fun q=>(q.1,⟨q.2⟩))
def GE {α:Type}(tag:Int)(v:g_api_Item→α):Its→Option (α×Its)
 | []=>none
 |x::r=>if x.Tag=tag∧mayB 8 x=true then some (v x,r)else none
theorem Cg {α:Type}(tag:Int)(v:g_api_Item→α)(x:g_api_Item)(r:Its):GE tag v (x::r)=if x.Tag=tag∧mayB 8 x=true then some (v x,r)else none:=rfl
theorem IG (x:g_api_Item)(r:Its):decide (((x::r).length:Int)>0)=true:=by rw[decide_eq_true_eq,List.length_cons]; omega
theorem Qr:AN true=some (some ()):=rfl
theorem Ym:AN false=some none:=rfl
theorem ZE (l:Its):Cx ⟨l⟩=rd (GE 2 (fun x=>E9 x.B) l):=by
 unfold Cx;cases l with
 |nil=>rfl
 |cons x r=>
  show Ab (AN (decide (((x::r).length:Int)>0))) _=_;rw[IG,Qr,oZ0];show Ab (idx (x::r) 0) _=_;rw[Ky,oZ0,LB,oZ0];rw[Cg];by_cases ht:x.Tag=2
  ·rw[if_pos ht];cases hm:mayB 8 x with
   |false=>
    rw[if_neg (by decide),if_neg (by simp)];rfl
   |true=>
    rw[if_pos rfl,if_pos ⟨ht,rfl⟩];show Ab (cut (x::r) 1 ((x::r).length:Int)) _=_;rw[J7];rfl
  ·rw[if_neg ht,if_neg (by simp[ht])];rfl
theorem Rk (l:Its):AI ⟨l⟩=rd (GE 12 (fun x=>bs x.B) l):=by
 unfold AI;cases l with
 |nil=>rfl
 |cons x r=>
  show Ab (AN (decide (((x::r).length:Int)>0))) _=_;rw[IG,Qr,oZ0];show Ab (idx (x::r) 0) _=_;rw[Ky,oZ0,Ke,oZ0];rw[Cg];by_cases ht:x.Tag=12
  ·rw[if_pos ht];cases hm:mayB 8 x with
   |false=>
    rw[if_neg (by decide),if_neg (by simp)];rfl
   |true=>
    rw[if_pos rfl,if_pos ⟨ht,rfl⟩];show Ab (cut (x::r) 1 ((x::r).length:Int)) _=_;rw[J7];rfl
  ·rw[if_neg ht,if_neg (by simp[ht])];rfl
theorem XT (l:Its):B6 ⟨l⟩=rd (GE 1 (fun x=>NE x.B) l):=by
 unfold B6;cases l with
 |nil=>rfl
 |cons x r=>
  show Ab (AN (decide (((x::r).length:Int)>0))) _=_;rw[IG,Qr,oZ0];show Ab (idx (x::r) 0) _=_;rw[Ky,oZ0,Kf,oZ0];rw[Cg];by_cases ht:x.Tag=1
  ·rw[if_pos ht];cases hm:mayB 8 x with
   |false=>
    rw[if_neg (by decide),if_neg (by simp)];rfl
   |true=>
    rw[if_pos rfl,if_pos ⟨ht,rfl⟩];show Ab (cut (x::r) 1 ((x::r).length:Int)) _=_;rw[J7];rfl
  ·rw[if_neg ht,if_neg (by simp[ht])];rfl
theorem Y4 {l:Its}(hl: ∀x∈l,x.L.length≤100000):B2 ⟨l⟩=rd (GE 48 (fun x=>x.L) l):=by
 unfold B2;cases l with
 |nil=>rfl
 |cons x r=>
  show Ab (AN (decide (((x::r).length:Int)>0))) _=_;rw[IG,Qr,oZ0];show Ab (idx (x::r) 0) _=_;rw[Ky,oZ0,IV (hl x List.mem_cons_self),oZ0];rw[Cg];by_cases ht:x.Tag=48
  ·rw[if_pos ht];cases hm:mayB 8 x with
   |false=>
    rw[if_neg (by decide),if_neg (by simp)];rfl
   |true=>
    rw[if_pos rfl,if_pos ⟨ht,rfl⟩];show Ab (cut (x::r) 1 ((x::r).length:Int)) _=_;rw[J7];rfl
  ·rw[if_neg ht,if_neg (by simp[ht])];rfl
def Ap (l:Its):Option (Int×Its):=(GE 2 (fun x=>E9 x.B) l).bind fun p=>if 0≤p.1 then some p else none
theorem Id (l:Its):AH ⟨l⟩=rd (Ap l):=by
 unfold AH;rw[ZE];unfold Ap rd;cases GE 2 (fun x=>E9 x.B) l with
 |none=>rfl
 |some p=>
  obtain⟨n,r⟩:=p;simp only[Option.map_some,oZ0,Option.bind_some];by_cases h:0≤n
  ·rw[decide_eq_true h,Qr,if_pos h];rfl
  ·rw[decide_eq_false h,Ym,if_neg h];rfl
def FX (l:Its):Option (UInt64×Its):=(Ap l).map fun p=>(toU p.1,p.2)
theorem Ju (l:Its):AC ⟨l⟩=rd (FX l):=by
 unfold AC;rw[Id];unfold FX rd;cases Ap l<;>rfl
def Hc (l:Its):Option (Its×Its):=GE 48 (fun x=>x.L) l
theorem NI {l:Its}(hl: ∀x∈l,x.L.length≤100000):A1 ⟨l⟩=some ((Hc l).map fun p=>(⟨p.1⟩,⟨p.2⟩)):=by
 unfold A1;rw[Y4 hl];unfold Hc rd;cases GE 48 (fun x=>x.L) l<;>rfl
theorem QK (l:Its):A2 ⟨l⟩=some (if l=[]then some ⟨[]⟩else none):=by
 unfold A2;cases l with
 |nil=>rfl
 |cons x r=>
  have e:(((x::r).length:Int)==0)=false:=by simp only[beq_eq_false_iff_ne,List.length_cons]; omega
  show Ab (AN (((x::r).length:Int)==0)) _=_;rw[e,Ym,if_neg (by simp)];rfl
def LC:Its→Option (List ByteArray)
 | []=>some []
 |x::r=>if x.Tag=12∧mayB 8 x=true then(LC r).map fun t=>bs x.B::t else none
theorem NF: ∀(l:Its) (a:List ByteArray) (n:Nat),l.length<n→a.length+l.length≤1000000→
  iter AG n (a,l)=some (match LC l with|some t=> .inl (a++t,[])|none=> .inr none)
 |l,a,0,h,_=>by omega
 | [],a,n+1,_,_=>by
  have e:AG (a,[])=some (.inr (.inl (a,[]))):=rfl;show Ab (AG (a,[])) _=_;rw[e];simp[LC]
 |x::l,a,n+1,h,ha=>by
  rw[List.length_cons]at h ha;have e:AG (a,x::l)=some (if x.Tag=12∧mayB 8 x=true then .inl (a++[bs x.B],l)else .inr (.inr none)):=by
   unfold AG;show(if decide (((x::l).length:Int)>0)=true then _ else _)=_;rw[IG,if_pos rfl];show Ab (AI ⟨x::l⟩) _=_;rw[Rk];unfold rd;rw[Cg];by_cases hx:x.Tag=12∧mayB 8 x=true
   ·rw[if_pos hx,if_pos hx];show Ab (app 16 a [bs x.B]) _=_;rw[Fa 16 (by show(a.length+1)*16≤_; omega) (by show a.length+1≤_; omega)];rfl
   ·rw[if_neg hx,if_neg hx];rfl
  show Ab (AG (a,x::l)) _=_;rw[e];unfold LC;by_cases hx:x.Tag=12∧mayB 8 x=true
  ·rw[if_pos hx,if_pos hx];show iter AG n (a++[bs x.B],l)=_;rw[NF l (a++[bs x.B]) n (by omega) (by rw[List.length_append]; show a.length+1+_≤_; omega)];cases LC l with
   |none=>rfl
   |some t=>simp
  ·rw[if_neg hx,if_neg hx];rfl
def Dx (l:Its):Option (List ByteArray×Its):=(Hc l).bind fun p=>(LC p.1).map fun t=>(t,p.2)
theorem P7 {l:Its}(hl: ∀x∈l,x.L.length≤100000):Cm ⟨l⟩=rd (Dx l):=by
 unfold Cm;rw[NI hl];unfold Dx rd;cases hs:Hc l with
 |none=>rfl
 |some p=>
  have hp:p.1.length≤100000:=by
   unfold Hc GE at hs;cases l with
   |nil=>cases hs
   |cons x r=>
    simp only at hs;split at hs
    ·have hs:=sI0 hs;rw[←hs];exact hl x List.mem_cons_self
    ·cases hs
  show Ab (iter AG Bv ([],p.1)) _=_;rw[NF p.1 [] Bv (by have:=AJ; omega) (by simp only[List.length_nil]; omega)];show _=some (Option.map _ ((LC p.1).map fun t=>(t,p.2)));cases LC p.1<;>rfl
end Go.Proofs.YtlnbckkkapbdmaaGreatDoor
end
section
namespace Go.Proofs.YtlnbckkkapbdmaaGreatDoor
open Go Go.Gw Go.Ax
theorem Yn: ∀{d:Nat} {x:g_api_Item},mayB d x=true→mayB (d+1) x=true
 |0,x,h=>by cases h
 |d+1,x,h=>by
  simp only[mayB,Bool.and_eq_true,List.all_eq_true]at h;unfold mayB;simp only[Bool.and_eq_true,List.all_eq_true];exact⟨h.1,fun y hy=>Yn (h.2 y hy)⟩
theorem Qt {d e:Nat}{x:g_api_Item}(h:d≤e)(hm:mayB d x=true):mayB e x=true:=by
 induction h with
 |refl=>exact hm
 |step _ ih=>exact Yn ih
theorem Yo {d:Nat}{x y:g_api_Item}(h:mayB (d+1) x=true)(hy:y∈x.L):mayB d y=true:=by
 simp only[mayB,Bool.and_eq_true,List.all_eq_true]at h;exact h.2 y hy
def DG:Its→Option (ByteArray×Its):=GE 12 (fun x=>bs x.B)
def MS:Its→Option (Bool×Its):=GE 1 (fun x=>NE x.B)
def Ql (l:Its):Option (Ac×Its):=(Ap l).bind fun x1=>(DG x1.2).bind fun x2=>(DG x2.2).bind fun x3=>(FX x3.2).bind fun x4=>(Dx x4.2).bind fun x5=>(Ap x5.2).bind fun x6=>(Ap x6.2).bind fun x7=>(MS x7.2).bind fun x8=>(Ap x8.2).bind fun x9=>(Dx x9.2).bind fun x10=>if x10.2=[]then some (⟨x1.1,x2.1,x3.1,x4.1,x5.1,x6.1,x7.1,x8.1,x9.1,x10.1,[],⟨0,0⟩⟩,[])else none
def QJ (l:Its):Prop:= ∀x∈l,x.L.length≤100000
theorem IC {α:Type}{tag:Int}{v:g_api_Item→α}{l r:Its}{a:α}(h:GE tag v l=some (a,r))(hl:QJ l):QJ r:=by
 cases l with
 |nil=>cases h
 |cons x l=>
  rw[Cg]at h;split at h
  ·cases h;exact fun y hy=>hl y (List.mem_cons_of_mem _ hy)
  ·cases h
theorem HN {l r:Its}{a:Int}(h:Ap l=some (a,r))(hl:QJ l):QJ r:=by
 unfold Ap at h;cases hn:GE 2 (fun x=>E9 x.B) l with
 |none=>rw[hn]at h; cases h
 |some p=>
  rw[hn,Option.bind_some]at h;split at h
  ·cases h;exact IC hn hl
  ·cases h
theorem XV {l r:Its}{a:UInt64}(h:FX l=some (a,r))(hl:QJ l):QJ r:=by
 unfold FX at h;cases hn:Ap l with
 |none=>rw[hn]at h; cases h
 |some p=>
  rw[hn]at h;cases h;exact HN (a:=p.1) hn hl
theorem TA {l r:Its}{a:List ByteArray}(h:Dx l=some (a,r))(hl:QJ l):QJ r:=by
 unfold Dx at h;cases hn:Hc l with
 |none=>rw[hn]at h; cases h
 |some p=>
  rw[hn,Option.bind_some]at h;cases ht:LC p.1 with
  |none=>rw[ht]at h; cases h
  |some t=>
   rw[ht]at h;cases h;exact IC hn hl
theorem CF {α:Type}(a:α)(r:Its):rd (some (a,r))=some (some (a,⟨r⟩)):=rfl
theorem Vn {l:Its}(hl:QJ l):B5 ⟨l⟩=rd (Ql l):=by
 unfold B5 Ql;rw[Id];cases h1:Ap l with
 |none=>rfl
 |some x1=>
  obtain⟨x1,l1⟩:=x1;replace hl:=HN h1 hl;simp only[CF,oZ0,Option.bind_some];rw[show AI ⟨l1⟩=rd (DG l1)from Rk l1];cases h2:DG l1 with
  |none=>rfl
  |some x2=>
   obtain⟨x2,l2⟩:=x2;replace hl:=IC h2 hl;simp only[CF,oZ0,Option.bind_some];rw[show AI ⟨l2⟩=rd (DG l2)from Rk l2];cases h3:DG l2 with
   |none=>rfl
   |some x3=>
    obtain⟨x3,l3⟩:=x3;replace hl:=IC h3 hl;simp only[CF,oZ0,Option.bind_some];rw[Ju];cases h4:FX l3 with
    |none=>rfl
    |some x4=>
     obtain⟨x4,l4⟩:=x4;replace hl:=XV h4 hl;simp only[CF,oZ0,Option.bind_some];rw[P7 hl];cases h5:Dx l4 with
     |none=>rfl
     |some x5=>
      obtain⟨x5,l5⟩:=x5;replace hl:=TA h5 hl;simp only[CF,oZ0,Option.bind_some];rw[Id];cases h6:Ap l5 with
      |none=>rfl
      |some x6=>
       obtain⟨x6,l6⟩:=x6;replace hl:=HN h6 hl;simp only[CF,oZ0,Option.bind_some];rw[Id];cases h7:Ap l6 with
       |none=>rfl
       |some x7=>
        obtain⟨x7,l7⟩:=x7;replace hl:=HN h7 hl;simp only[CF,oZ0,Option.bind_some];rw[show B6 ⟨l7⟩=rd (MS l7)from XT l7];cases h8:MS l7 with
        |none=>rfl
        |some x8=>
         obtain⟨x8,l8⟩:=x8;replace hl:=IC h8 hl;simp only[CF,oZ0,Option.bind_some];rw[Id];cases h9:Ap l8 with
         |none=>rfl
         |some x9=>
          obtain⟨x9,l9⟩:=x9;replace hl:=HN h9 hl;simp only[CF,oZ0,Option.bind_some];rw[P7 hl];cases h10:Dx l9 with
          |none=>rfl
          |some x10=>
           obtain⟨x10,l10⟩:=x10;simp only[CF,oZ0,Option.bind_some];rw[QK];by_cases he:l10=[]
           ·rw[if_pos he,if_pos he]; rfl
           ·rw[if_neg he,if_neg he]; rfl
def Qk (l:Its):Option (g_api_Promise×Its):=(Ap l).bind fun x1=>(Ap x1.2).bind fun x2=>(FX x2.2).bind fun x3=>(FX x3.2).bind fun x4=>(FX x4.2).bind fun x5=>(FX x5.2).bind fun x6=>some (⟨x1.1,x2.1,(x3.1,x4.1),⟨x5.1,x6.1⟩⟩,x6.2)
structure Nums (c:Ac):Prop where
 serial:0≤c.Serial∧c.Serial≤1099511627776
 frm:0≤c.From∧c.From≤1099511627776
 til:0≤c.Until∧c.Until≤1099511627776
 key:c.Key.toNat<2305843009213691579
 depth:0≤c.Depth∧c.Depth≤4
 sig:sigB c.Sig=true
 proms: ∀p∈c.Proms,promB p=true
theorem JT {n:Int}(h:numB n=true):0≤n∧n≤1099511627776:=by
 unfold numB at h;simp only[Bool.and_eq_true,decide_eq_true_eq]at h;omega
theorem Form.nums {c:Ac}(h:Form c):Nums c:=by
 refine⟨JT h.serial,JT h.frm,JT h.til,by have:=h.keyQ; omega,?_,h.sig,NL h.proms⟩;cases hc:c.Ca with
 |true=>obtain⟨_,_,a,b,_⟩:=h.ca hc; exact⟨a,b⟩
 |false=>obtain⟨_,_,a,_⟩:=h.leaf hc; omega
theorem VD {a b:UInt64}{n:Nat}(h:(NO a b).toNat<n):a.toNat<n∧b.toNat<n:=by
 unfold NO at h;by_cases hc:b>a
 ·rw[if_pos hc]at h;have:=UInt64.lt_iff_toNat_lt.1 hc;omega
 ·rw[if_neg hc]at h;have: ¬a.toNat<b.toNat:=fun x=>hc (UInt64.lt_iff_toNat_lt.2 x);omega
theorem WT {s:g_api_Sig}(h:sigB s=true):s.E.toNat<1152921504606845789∧s.S.toNat<1152921504606845789:=by
 unfold sigB at h;exact VD (of_decide_eq_true h)
theorem Vk {p:g_api_Promise}(h:promB p=true):(0≤p.Log∧p.Log≤1099511627776)∧(0≤p.At∧p.At≤1099511627776)∧(p.Leaf.1.toNat<2305843009213693951∧p.Leaf.2.toNat<2305843009213693951)∧p.Sig.E.toNat<1152921504606845789∧p.Sig.S.toNat<1152921504606845789:=by
 unfold promB at h;simp only[Bool.and_eq_true]at h;exact⟨JT h.1.1.1,JT h.1.1.2,VD (of_decide_eq_true h.1.2),WT h.2⟩
def bareP (c:Ac):Ac:=⟨c.Serial,c.Issuer,c.Subject,c.Key,c.Names,c.From,c.Until,c.Ca,c.Depth,c.Permit,[],⟨0,0⟩⟩
def bareS (c:Ac):Ac:=⟨c.Serial,c.Issuer,c.Subject,c.Key,c.Names,c.From,c.Until,c.Ca,c.Depth,c.Permit,c.Proms,⟨0,0⟩⟩
end Go.Proofs.YtlnbckkkapbdmaaGreatDoor
end
section
namespace Go.Proofs.YtlnbckkkapbdmaaGreatDoor
open Go Go.Gw Go.Ax
def X7 (a:UInt8):UInt8:=if a.toNat<128 then 0 else 255
theorem Sy (a:UInt8):((X7 a).toNat:Int)=if a.toNat<128 then 0 else 255:=by
 unfold X7;split<;>rfl
theorem YW: ∀(l:List UInt8),E4 l=true→P3 l=l
 | [],h=>by cases h
 | [a],_=>rfl
 |a::b::l,h=>by
  unfold P3;rw[if_pos h]
theorem WO {a:UInt8}{l:List UInt8}(h:l.length≤6):P3 (X7 a::a::l)=P3 (a::l):=by
 have e:E4 (X7 a::a::l)=false:=(Qw h).2 (Sy a);show(if E4 (X7 a::a::l)=true then _ else _)=_;rw[e];rfl
theorem Sr (a:UInt8)(l:List UInt8):P9 (X7 a::a::l)=P9 (a::l):=UD (Sy a)
theorem Ws (a7 a6 a5 a4 a3 a2 a1 a0:UInt8):be8 (P9 [a7,a6,a5,a4,a3,a2,a1,a0])=[a7,a6,a5,a4,a3,a2,a1,a0]:=by
 have h6:=a6.toNat_lt; have h5:=a5.toNat_lt; have h4:=a4.toNat_lt; have h3:=a3.toNat_lt; have h2:=a2.toNat_lt; have h1:=a1.toNat_lt; have h0:=a0.toNat_lt;have h7:=a7.toNat_lt;have hs:P9 [a7,a6,a5,a4,a3,a2,a1,a0]=((((((s8 a7*256+(a6.toNat:Int))*256+(a5.toNat:Int))*256+(a4.toNat:Int))*256+(a3.toNat:Int))*256+(a2.toNat:Int))*256+(a1.toNat:Int))*256+(a0.toNat:Int):=rfl;have hS:s8 a7%256=(a7.toNat:Int):=by unfold s8; split<;>omega
 generalize s8 a7=S at hs hS;generalize P9 [a7,a6,a5,a4,a3,a2,a1,a0]=n at hs;have d1:n/256=(((((S*256+(a6.toNat:Int))*256+(a5.toNat:Int))*256+(a4.toNat:Int))*256+(a3.toNat:Int))*256+(a2.toNat:Int))*256+(a1.toNat:Int):=by omega
 have d2:n/256/256=((((S*256+(a6.toNat:Int))*256+(a5.toNat:Int))*256+(a4.toNat:Int))*256+(a3.toNat:Int))*256+(a2.toNat:Int):=by rw[d1]; omega
 have d3:n/256/256/256=(((S*256+(a6.toNat:Int))*256+(a5.toNat:Int))*256+(a4.toNat:Int))*256+(a3.toNat:Int):=by rw[d2]; omega
 have d4:n/256/256/256/256=((S*256+(a6.toNat:Int))*256+(a5.toNat:Int))*256+(a4.toNat:Int):=by rw[d3]; omega
 have d5:n/256/256/256/256/256=(S*256+(a6.toNat:Int))*256+(a5.toNat:Int):=by rw[d4]; omega
 have d6:n/256/256/256/256/256/256=S*256+(a6.toNat:Int):=by rw[d5]; omega
 have d7:n/256/256/256/256/256/256/256=S:=by rw[d6]; omega
 have q: ∀(k:Nat) (x:UInt8),k≤64→n/2^k%256=(x.toNat:Int)→toB (C9 n k)=x:=fun k x hk h=>by
  apply UInt8.toNat_inj.1;have:=shr_k n k hk (by exact Int.le_of_lt (Int.pow_pos (by decide)));omega
 have p1:n/2^8=n/256:=rfl;have p2:n/2^16=n/256/256:=by
  show n/65536=_;omega
 have p3:n/2^24=n/256/256/256:=by
  show n/16777216=_;omega
 have p4:n/2^32=n/256/256/256/256:=by
  show n/4294967296=_;omega
 have p5:n/2^40=n/256/256/256/256/256:=by
  show n/1099511627776=_;omega
 have p6:n/2^48=n/256/256/256/256/256/256:=by
  show n/281474976710656=_;omega
 have p7:n/2^56=n/256/256/256/256/256/256/256:=by
  show n/72057594037927936=_;omega
 unfold be8;rw[q 56 a7 (by decide) (by rw[p7,d7]; exact hS),q 48 a6 (by decide) (by rw[p6,d6]; omega),q 40 a5 (by decide) (by rw[p5,d5]; omega),q 32 a4 (by decide) (by rw[p4,d4]; omega),q 24 a3 (by decide) (by rw[p3,d3]; omega),
  q 16 a2 (by decide) (by rw[p2,d2]; omega),q 8 a1 (by decide) (by rw[p1,d1]; omega),q 0 a0 (by decide) (by rw[Int.pow_zero,Int.ediv_one]; omega)]
theorem Sg: ∀(k:Nat) (a:UInt8) (l:List UInt8),(a::l).length+k=8→P3 (be8 (P9 (a::l)))=P3 (a::l)
 |0,a,l,h=>by
  match l,h with
  | [a6,a5,a4,a3,a2,a1,a0],_=>rw[Ws]
 |k+1,a,l,h=>by
  have h:l.length+1+(k+1)=8:=by simpa using h
  have ih:=Sg k (X7 a) (a::l) (by simp only[List.length_cons]; omega);rw[Sr,WO (by omega)]at ih;exact ih
theorem Qy {l:List UInt8}(h:E4 l=true):1≤l.length∧l.length≤8:=by
 match l,h with
 | [a],_=>exact⟨by simp,by simp⟩
 |a::b::l,h=>
  have h:(decide (((a::b::l).length:Int)≤8)&&((a.toNat:Int) !=((toB (-((T0 b 7).toNat:Int))).toNat:Int)))=true:=h;simp only[Bool.and_eq_true,decide_eq_true_eq]at h;exact⟨by simp,by omega⟩
theorem SX {l:List UInt8}(h:E4 l=true):P3 (be8 (P9 l))=l:=by
 have hl:=Qy h;cases l with
 |nil=>cases h
 |cons a l=>
  rw[Sg (8-(a::l).length) a l (by omega)];exact YW _ h
theorem Ss {l:List UInt8}(h:E4 l=true): -9223372036854775808≤P9 l∧P9 l≤9223372036854775807:=by
 have hl:=Qy h;have key: ∀(k:Nat) (a:UInt8) (l:List UInt8),(a::l).length+k=8→ -9223372036854775808≤P9 (a::l)∧P9 (a::l)≤9223372036854775807:=by
  intro k;induction k with
  |zero=>
   intro a l h;match l,h with
   | [a6,a5,a4,a3,a2,a1,a0],_=>
    have h6:=a6.toNat_lt; have h5:=a5.toNat_lt; have h4:=a4.toNat_lt; have h3:=a3.toNat_lt; have h2:=a2.toNat_lt; have h1:=a1.toNat_lt; have h0:=a0.toNat_lt;have h7:=UV a;have hs:P9 [a,a6,a5,a4,a3,a2,a1,a0]=((((((s8 a*256+(a6.toNat:Int))*256+(a5.toNat:Int))*256+(a4.toNat:Int))*256+(a3.toNat:Int))*256+(a2.toNat:Int))*256+(a1.toNat:Int))*256+(a0.toNat:Int):=rfl;omega
  |succ k ih=>
   intro a l h;have h:l.length+1+(k+1)=8:=by simpa using h
   have:=ih (X7 a) (a::l) (by simp only[List.length_cons]; omega);rw[Sr]at this;exact this
 cases l with
 |nil=>cases h
 |cons a l=>exact key (8-(a::l).length) a l (by omega)
theorem ZD {x:g_api_Item}(ht:x.Tag=2)(hL:x.L=[])(h:E4 x.B=true):J2 (E9 x.B)=x:=by
 have hr:=Ss h;have hne:x.B≠[]:=by intro q; rw[q]at h; cases h
 unfold J2;rw[N2 _ hne,AF hr.1 hr.2,SX h];cases x;simp only at ht hL;rw[ht,hL]
end Go.Proofs.YtlnbckkkapbdmaaGreatDoor
end
section
namespace Go.Proofs.YtlnbckkkapbdmaaGreatDoor
open Go Go.Gw Go.Ax
def OT (x:g_api_Item):Option g_api_Promise:=if x.Tag=48∧mayB 8 x=true then(Qk x.L).bind fun q=>if q.2=[]then some q.1 else none else none
abbrev BS:=Its×List g_api_Promise
def Ig (r:Its)(a:List g_api_Promise):Option g_api_Promise→BS⊕(BS⊕Option (Ac×Ae))
 |some p=> .inl (r,a++[p])
 |none=> .inr (.inr none)
def outA (a:List g_api_Promise):Option (List g_api_Promise)→BS⊕Option (Ac×Ae)
 |some ps=> .inl ([],a++ps)
 |none=> .inr none
theorem W0 (x:g_api_Item)(r:Its)(a:List g_api_Promise)(hr:QJ (x::r))(ha:a.length≤100000):AM (x::r,a)=some (Ig r a (OT x)):=by
 unfold AM;show(if decide (((x::r).length:Int)>0)=true then _ else _)=_;rw[IG,if_pos rfl];show Ab (A1 ⟨x::r⟩) _=_;rw[NI hr];unfold OT Hc;rw[Cg];by_cases hx:x.Tag=48∧mayB 8 x=true;rotate_left
 ·rw[if_neg hx,if_neg hx]; rfl
 rw[if_pos hx,if_pos hx,Option.map_some,oZ0];show Ab (AH ⟨x.L⟩) _=_;unfold Qk;rw[Id];cases h1:Ap x.L with
 |none=>rfl
 |some q=>
  obtain⟨x1,l1⟩:=q;rw[CF,oZ0,Option.bind_some];show Ab (AH ⟨l1⟩) _=_;rw[Id];cases h2:Ap l1 with
  |none=>rfl
  |some q=>
   obtain⟨x2,l2⟩:=q;rw[CF,oZ0,Option.bind_some];show Ab (AC ⟨l2⟩) _=_;rw[Ju];cases h3:FX l2 with
   |none=>rfl
   |some q=>
    obtain⟨x3,l3⟩:=q;rw[CF,oZ0,Option.bind_some];show Ab (AC ⟨l3⟩) _=_;rw[Ju];cases h4:FX l3 with
    |none=>rfl
    |some q=>
     obtain⟨x4,l4⟩:=q;rw[CF,oZ0,Option.bind_some];show Ab (AC ⟨l4⟩) _=_;rw[Ju];cases h5:FX l4 with
     |none=>rfl
     |some q=>
      obtain⟨x5,l5⟩:=q;rw[CF,oZ0,Option.bind_some];show Ab (AC ⟨l5⟩) _=_;rw[Ju];cases h6:FX l5 with
      |none=>rfl
      |some q=>
       obtain⟨x6,l6⟩:=q;rw[CF,oZ0,Option.bind_some,Option.bind_some];show Ab (app 48 a [(⟨x1,x2,(x3,x4),⟨x5,x6⟩⟩:g_api_Promise)]) _=_;rw[Fa 48 (by show(a.length+1)*48≤_; omega) (by show a.length+1≤_; omega),oZ0];show Ab (A2 ⟨l6⟩) _=_;rw[QK];show _=some (Ig r a (if l6=[]then some (⟨x1,x2,(x3,x4),⟨x5,x6⟩⟩:g_api_Promise)else none));by_cases h:l6=[]
       ·rw[if_pos h,if_pos h]; rfl
       ·rw[if_neg h,if_neg h]; rfl
def Tp:Its→Option (List g_api_Promise)
 | []=>some []
 |x::r=>(OT x).bind fun p=>(Tp r).map fun l=>p::l
theorem QT: ∀(l:Its) (a:List g_api_Promise) (n:Nat),l.length<n→a.length+l.length≤100000→QJ l→iter AM n (l,a)=some (outA a (Tp l))
 |l,a,0,h,_,_=>by omega
 | [],a,n+1,_,_,_=>by
  have e:AM ([],a)=some (.inr (.inl ([],a))):=rfl;show Ab (AM ([],a)) _=_;rw[e];show some (.inl ([],a))=some (.inl ([],a++[]):BS⊕Option (Ac×Ae));rw[List.append_nil]
 |x::l,a,n+1,h,ha,hf=>by
  rw[List.length_cons]at h ha;show Ab (AM (x::l,a)) _=_;rw[W0 x l a hf (by omega)];unfold Tp;cases OT x with
  |none=>rfl
  |some p=>
   rw[Option.bind_some];show iter AM n (l,a++[p])=_;rw[QT l (a++[p]) n (by omega) (by rw[List.length_append]; show a.length+1+_≤_; omega) fun y hy=>hf y (List.mem_cons_of_mem _ hy)];cases Tp l with
   |none=>rfl
   |some ps=>
    show some (.inl ([],(a++[p])++ps):BS⊕Option (Ac×Ae))=some (.inl ([],a++(p::ps)));rw[List.append_assoc];rfl
def XJ (l:Its):Prop:=QJ l∧∀x∈l,QJ x.L
def few3D (l:Its):Prop:=QJ l∧∀x∈l,XJ x.L
theorem Iu {l q r:Its}(h:Hc l=some (q,r)): ∃x,l=x::r∧q=x.L∧x.Tag=48∧mayB 8 x=true:=by
 unfold Hc at h;cases l with
 |nil=>cases h
 |cons x l=>
  rw[Cg]at h;by_cases hx:x.Tag=48∧mayB 8 x=true
  ·rw[if_pos hx]at h;cases h;exact⟨x,rfl,rfl,hx.1,hx.2⟩
  ·rw[if_neg hx]at h; cases h
def Ui (c:Ac)(ps:List g_api_Promise):Ac:=⟨c.Serial,c.Issuer,c.Subject,c.Key,c.Names,c.From,c.Until,c.Ca,c.Depth,c.Permit,ps,c.Sig⟩
def Ts (c:Ac)(s:g_api_Sig):Ac:=⟨c.Serial,c.Issuer,c.Subject,c.Key,c.Names,c.From,c.Until,c.Ca,c.Depth,c.Permit,c.Proms,s⟩
def Jt (l:Its):Option (Ac×Its):=(Hc l).bind fun x1=>(Ql x1.1).bind fun x2=>(Hc x1.2).bind fun x3=>(Tp x3.1).bind fun ps=>if x3.2=[]then some (Ui x2.1 ps,[])else none
theorem Tm {l:Its}(hl:XJ l):BZ ⟨l⟩=rd (Jt l):=by
 unfold BZ Jt;rw[NI hl.1];cases h1:Hc l with
 |none=>rfl
 |some q=>
  obtain⟨q1,l1⟩:=q;obtain⟨y,e,eq,_,_⟩:=Iu h1;have f1:QJ q1:=by rw[eq]; exact hl.2 y (by rw[e]; exact List.mem_cons_self)
  have f2:XJ l1:=⟨fun z hz=>hl.1 z (by rw[e]; exact List.mem_cons_of_mem _ hz),fun z hz=>hl.2 z (by rw[e]; exact List.mem_cons_of_mem _ hz)⟩;rw[Option.map_some,oZ0,Option.bind_some];show Ab (B5 ⟨q1⟩) _=_;rw[Vn f1];cases h2:Ql q1 with
  |none=>rfl
  |some q=>
   obtain⟨c,l2⟩:=q;rw[CF,oZ0,Option.bind_some];show Ab (A1 ⟨l1⟩) _=_;rw[NI f2.1];cases h3:Hc l1 with
   |none=>rfl
   |some q=>
    obtain⟨q3,l3⟩:=q;obtain⟨y3,e3,eq3,_,_⟩:=Iu h3;have f3:QJ q3:=by rw[eq3]; exact f2.2 y3 (by rw[e3]; exact List.mem_cons_self)
    have f4:q3.length≤100000:=by rw[eq3]; exact f2.1 y3 (by rw[e3]; exact List.mem_cons_self)
    rw[Option.map_some,oZ0,Option.bind_some];show Ab (iter AM Bv (q3,[])) _=_;rw[QT q3 [] Bv (by have:=AJ; omega) (by simp only[List.length_nil]; omega) f3];cases Tp q3 with
    |none=>rfl
    |some ps=>
     show Ab (A2 ⟨l3⟩) _=rd (if l3=[]then some (Ui c ps,[])else none);rw[QK];by_cases h:l3=[]
     ·rw[if_pos h,if_pos h]; rfl
     ·rw[if_neg h,if_neg h]; rfl
def Ij (l:Its):Option (Ac×Its):=(Hc l).bind fun x1=>(Jt x1.1).bind fun x2=>(Hc x1.2).bind fun x3=>(FX x3.1).bind fun x4=>(FX x4.2).bind fun x5=>if x5.2=[]then(if x3.2=[]then some (Ts x2.1 ⟨x4.1,x5.1⟩,[])else none)else none
theorem Uj {l:Its}(hl:few3D l):Cl ⟨l⟩=rd (Ij l):=by
 unfold Cl Ij;rw[NI hl.1];cases h1:Hc l with
 |none=>rfl
 |some q=>
  obtain⟨q1,l1⟩:=q;obtain⟨y,e,eq,_,_⟩:=Iu h1;have f1:XJ q1:=by rw[eq]; exact hl.2 y (by rw[e]; exact List.mem_cons_self)
  have f2:QJ l1:=fun z hz=>hl.1 z (by rw[e]; exact List.mem_cons_of_mem _ hz);rw[Option.map_some,oZ0,Option.bind_some];show Ab (BZ ⟨q1⟩) _=_;rw[Tm f1];cases h2:Jt q1 with
  |none=>rfl
  |some q=>
   obtain⟨c,l2⟩:=q;rw[CF,oZ0,Option.bind_some];show Ab (A1 ⟨l1⟩) _=_;rw[NI f2];cases h3:Hc l1 with
   |none=>rfl
   |some q=>
    obtain⟨q3,l3⟩:=q;rw[Option.map_some,oZ0,Option.bind_some];show Ab (AC ⟨q3⟩) _=_;rw[Ju];cases h4:FX q3 with
    |none=>rfl
    |some q=>
     obtain⟨x4,l4⟩:=q;rw[CF,oZ0,Option.bind_some];show Ab (AC ⟨l4⟩) _=_;rw[Ju];cases h5:FX l4 with
     |none=>rfl
     |some q=>
      obtain⟨x5,l5⟩:=q;rw[CF,oZ0,Option.bind_some];show Ab (A2 ⟨l5⟩) _=rd (if l5=[]then(if l3=[]then some (Ts c ⟨x4,x5⟩,[])else none)else none);rw[QK];by_cases h:l5=[]
      ·rw[if_pos h,if_pos h,oZ0];show Ab (A2 ⟨l3⟩) _=_;rw[QK];by_cases h':l3=[]
       ·rw[if_pos h',if_pos h']; rfl
       ·rw[if_neg h',if_neg h']; rfl
      ·rw[if_neg h,if_neg h]; rfl
theorem O1 {α:Type}{tag:Int}{v:g_api_Item→α}{l r:Its}{a:α}(h:GE tag v l=some (a,r)): ∃x,l=x::r∧x.Tag=tag∧mayB 8 x=true∧a=v x:=by
 cases l with
 |nil=>cases h
 |cons x l=>
  rw[Cg]at h;by_cases hx:x.Tag=tag∧mayB 8 x=true
  ·rw[if_pos hx]at h;cases h;exact⟨x,rfl,hx.1,hx.2,rfl⟩
  ·rw[if_neg hx]at h; cases h
theorem O6 {x:g_api_Item}(h:mayB 8 x=true)(ht:x.Tag≠48):x.L=[]:=by
 simp only[mayB,Bool.and_eq_true,Bool.or_eq_true,beq_iff_eq]at h;rcases h.1.2 with q|q
 ·exact absurd q ht
 ·exact List.isEmpty_iff.1 q
theorem Ic {l r:Its}{n:Int}(h:Ap l=some (n,r)):l=J2 n::r∧0≤n∧n≤9223372036854775807:=by
 unfold Ap at h;cases hn:GE 2 (fun x=>E9 x.B) l with
 |none=>rw[hn]at h; cases h
 |some p=>
  obtain⟨m,q⟩:=p;rw[hn,Option.bind_some]at h;obtain⟨x,e1,e2,e3,e4⟩:=O1 hn;by_cases h0:0≤m
  ·rw[if_pos h0]at h;cases h;have hk:=HW e3;rw[e2]at hk;have hk:E4 x.B=true:=hk;have hI:=ZD e2 (O6 e3 (by rw[e2]; decide)) hk;have hr:=Ss hk;have hne:x.B≠[]:=by intro q; rw[q]at hk; cases hk
   have ev:E9 x.B=P9 x.B:=by rw[N2 _ hne,AF hr.1 hr.2]
   refine⟨by rw[e4,hI]; exact e1,h0,by rw[e4,ev]; exact hr.2⟩
  ·rw[if_neg h0]at h; cases h
theorem MU {l r:Its}{n:UInt64}(h:FX l=some (n,r)):l=I7 n::r:=by
 unfold FX at h;cases hn:Ap l with
 |none=>rw[hn]at h; cases h
 |some p=>
  obtain⟨m,q⟩:=p;rw[hn]at h;cases h;obtain⟨e1,e2,e3⟩:=Ic hn;have hu:=Ux m;have hm:((toU m).toNat:Int)=m:=by omega
  unfold I7;rw[hm,AF (by omega) e3];exact e1
theorem Ri {l r:Its}{s:ByteArray}(h:DG l=some (s,r)):l=Et s::r:=by
 obtain⟨x,e1,e2,e3,e4⟩:=O1 h;have hL:=O6 e3 (by rw[e2]; decide);rw[e1,e4];congr 1;cases x;simp only at e2 hL;rw[e2,hL];rfl
theorem Aah {l r:Its}{v:Bool}(h:MS l=some (v,r)):l=MR v::r:=by
 obtain⟨x,e1,e2,e3,e4⟩:=O1 h;have hL:=O6 e3 (by rw[e2]; decide);have hk:=HW e3;rw[e2]at hk;have hk:XS x.B=true:=hk;rw[e1,e4];congr 1;cases x with
 |mk t b ls=>
  simp only at e2 hL hk;rw[e2,hL];match b,hk with
  | [c],hk=>
   have hk:(c==0||c==255)=true:=hk;rw[Bool.or_eq_true,beq_iff_eq,beq_iff_eq]at hk;rcases hk with q|q<;>rw[q]<;>rfl
theorem JP {x:g_api_Item}(h1:x.Tag=48)(h2:mayB 8 x=true):x=Nm x.L:=by
 have hk:=HW h2;rw[h1]at hk;have hB:x.B=[]:=List.isEmpty_iff.1 hk;cases x;simp only at h1 hB;rw[h1,hB];rfl
theorem Wv: ∀{l:Its} {t:List ByteArray},LC l=some t→l=t.map Et
 | [],t,h=>by cases h; rfl
 |x::l,t,h=>by
  unfold LC at h;by_cases hx:x.Tag=12∧mayB 8 x=true
  ·rw[if_pos hx]at h;cases ha:LC l with
   |none=>rw[ha]at h; cases h
   |some t'=>
    rw[ha]at h;cases h;have e:DG (x::l)=some (bs x.B,l):=by
     show GE 12 (fun x=>bs x.B) (x::l)=_;rw[Cg,if_pos hx]
    have e2:=Ri e;rw[List.map_cons,←Wv ha];exact e2
  ·rw[if_neg hx]at h; cases h
theorem Si {l r:Its}{t:List ByteArray}(h:Dx l=some (t,r)):l=F8 t::r:=by
 unfold Dx at h;cases hs:Hc l with
 |none=>rw[hs]at h; cases h
 |some p=>
  obtain⟨q,l1⟩:=p;rw[hs,Option.bind_some]at h;obtain⟨x,e1,e2,e3,e4⟩:=Iu hs;cases ha:LC q with
  |none=>rw[ha]at h; cases h
  |some t'=>
   rw[ha]at h;cases h;rw[e1,JP e3 e4,←e2,Wv ha];rfl
theorem SI {l r:Its}{c:Ac}(h:Ql l=some (c,r)):l=(SJ c).L∧bareP c=c:=by
 unfold Ql at h;cases h1:Ap l with
 |none=>rw[h1]at h; cases h
 |some p1=>
  obtain⟨x1,l1⟩:=p1;rw[h1,Option.bind_some]at h;cases h2:DG l1 with
  |none=>rw[h2]at h; cases h
  |some p2=>
   obtain⟨x2,l2⟩:=p2;rw[h2,Option.bind_some]at h;cases h3:DG l2 with
   |none=>rw[h3]at h; cases h
   |some p3=>
    obtain⟨x3,l3⟩:=p3;rw[h3,Option.bind_some]at h;cases h4:FX l3 with
    |none=>rw[h4]at h; cases h
    |some p4=>
     obtain⟨x4,l4⟩:=p4;rw[h4,Option.bind_some]at h;cases h5:Dx l4 with
     |none=>rw[h5]at h; cases h
     |some p5=>
      obtain⟨x5,l5⟩:=p5;rw[h5,Option.bind_some]at h;cases h6:Ap l5 with
      |none=>rw[h6]at h; cases h
      |some p6=>
       obtain⟨x6,l6⟩:=p6;rw[h6,Option.bind_some]at h;cases h7:Ap l6 with
       |none=>rw[h7]at h; cases h
       |some p7=>
        obtain⟨x7,l7⟩:=p7;rw[h7,Option.bind_some]at h;cases h8:MS l7 with
        |none=>rw[h8]at h; cases h
        |some p8=>
         obtain⟨x8,l8⟩:=p8;rw[h8,Option.bind_some]at h;cases h9:Ap l8 with
         |none=>rw[h9]at h; cases h
         |some p9=>
          obtain⟨x9,l9⟩:=p9;rw[h9,Option.bind_some]at h;cases h10:Dx l9 with
          |none=>rw[h10]at h; cases h
          |some p10=>
           obtain⟨x10,l10⟩:=p10;rw[h10,Option.bind_some]at h;by_cases he:l10=[]
           ·have h:some ((⟨x1,x2,x3,x4,x5,x6,x7,x8,x9,x10,[],⟨0,0⟩⟩:Ac),([]:Its))=some (c,r):=by rw[←h]; exact(if_pos he).symm
            have hc:=congrArg (·.1) (sI0 h);have hc:(⟨x1,x2,x3,x4,x5,x6,x7,x8,x9,x10,[],⟨0,0⟩⟩:Ac)=c:=hc;rw[←hc];refine⟨?_,rfl⟩;rw[(Ic h1).1,Ri h2,Ri h3,MU h4,Si h5,(Ic h6).1,(Ic h7).1,Aah h8,(Ic h9).1,Si h10,he];rfl
           ·have h:(none:Option (Ac×Its))=some (c,r):=by rw[←h]; exact(if_neg he).symm
            cases h
theorem WZ {x:g_api_Item}{p:g_api_Promise}(h:OT x=some p):x=HU p:=by
 unfold OT at h;by_cases hx:x.Tag=48∧mayB 8 x=true;rotate_left
 ·rw[if_neg hx]at h; cases h
 rw[if_pos hx]at h;unfold Qk at h;have hs:=JP hx.1 hx.2;cases h1:Ap x.L with
 |none=>rw[h1]at h; cases h
 |some p1=>
  obtain⟨x1,l1⟩:=p1;rw[h1,Option.bind_some]at h;cases h2:Ap l1 with
  |none=>rw[h2]at h; cases h
  |some p2=>
   obtain⟨x2,l2⟩:=p2;rw[h2,Option.bind_some]at h;cases h3:FX l2 with
   |none=>rw[h3]at h; cases h
   |some p3=>
    obtain⟨x3,l3⟩:=p3;rw[h3,Option.bind_some]at h;cases h4:FX l3 with
    |none=>rw[h4]at h; cases h
    |some p4=>
     obtain⟨x4,l4⟩:=p4;rw[h4,Option.bind_some]at h;cases h5:FX l4 with
     |none=>rw[h5]at h; cases h
     |some p5=>
      obtain⟨x5,l5⟩:=p5;rw[h5,Option.bind_some]at h;cases h6:FX l5 with
      |none=>rw[h6]at h; cases h
      |some p6=>
       obtain⟨x6,l6⟩:=p6;rw[h6,Option.bind_some,Option.bind_some]at h;by_cases he:l6=[]
       ·have h:some (⟨x1,x2,(x3,x4),⟨x5,x6⟩⟩:g_api_Promise)=some p:=by rw[←h]; exact(if_pos he).symm
        rw[←sI0 h,hs,(Ic h1).1,(Ic h2).1,MU h3,MU h4,MU h5,MU h6,he];rfl
       ·have h:(none:Option g_api_Promise)=some p:=by rw[←h]; exact(if_neg he).symm
        cases h
theorem Ww: ∀{l:Its} {ps:List g_api_Promise},Tp l=some ps→l=ps.map HU
 | [],ps,h=>by cases h; rfl
 |x::l,ps,h=>by
  unfold Tp at h;cases hr:OT x with
  |none=>rw[hr]at h; cases h
  |some p=>
   rw[hr,Option.bind_some]at h;cases ha:Tp l with
   |none=>rw[ha]at h; cases h
   |some q=>
    rw[ha]at h;cases h;rw[List.map_cons,←Ww ha,←WZ hr]
theorem Wp {l r:Its}{c:Ac}(h:Jt l=some (c,r)):l=(Kc c).L∧bareS c=c:=by
 unfold Jt at h;cases h1:Hc l with
 |none=>rw[h1]at h; cases h
 |some p1=>
  obtain⟨q1,l1⟩:=p1;rw[h1,Option.bind_some]at h;obtain⟨y1,a1,a2,a3,a4⟩:=Iu h1;cases h2:Ql q1 with
  |none=>rw[h2]at h; cases h
  |some p2=>
   obtain⟨c2,l2⟩:=p2;rw[h2,Option.bind_some]at h;obtain⟨b1,b2⟩:=SI h2;cases h3:Hc l1 with
   |none=>rw[h3]at h; cases h
   |some p3=>
    obtain⟨q3,l3⟩:=p3;rw[h3,Option.bind_some]at h;obtain⟨y3,d1,d2,d3,d4⟩:=Iu h3;cases h4:Tp q3 with
    |none=>rw[h4]at h; cases h
    |some ps=>
     rw[h4,Option.bind_some]at h;by_cases he:l3=[]
     ·have h:some (Ui c2 ps,([]:Its))=some (c,r):=by rw[←h]; exact(if_pos he).symm
      have hc:Ui c2 ps=c:=congrArg (·.1) (sI0 h);rw[←hc];refine⟨?_,?_⟩
      ·rw[a1,JP a3 a4,←a2,b1,d1,JP d3 d4,←d2,Ww h4,he];rfl
      ·rw[←b2]; rfl
     ·have h:(none:Option (Ac×Its))=some (c,r):=by rw[←h]; exact(if_neg he).symm
      cases h
theorem WM {l r:Its}{c:Ac}(h:Ij l=some (c,r)):l=(wholeI c).L:=by
 unfold Ij at h;cases h1:Hc l with
 |none=>rw[h1]at h; cases h
 |some p1=>
  obtain⟨q1,l1⟩:=p1;rw[h1,Option.bind_some]at h;obtain⟨y1,a1,a2,a3,a4⟩:=Iu h1;cases h2:Jt q1 with
  |none=>rw[h2]at h; cases h
  |some p2=>
   obtain⟨c2,l2⟩:=p2;rw[h2,Option.bind_some]at h;obtain⟨b1,b2⟩:=Wp h2;cases h3:Hc l1 with
   |none=>rw[h3]at h; cases h
   |some p3=>
    obtain⟨q3,l3⟩:=p3;rw[h3,Option.bind_some]at h;obtain⟨y3,d1,d2,d3,d4⟩:=Iu h3;cases h4:FX q3 with
    |none=>rw[h4]at h; cases h
    |some p4=>
     obtain⟨x4,l4⟩:=p4;rw[h4,Option.bind_some]at h;cases h5:FX l4 with
     |none=>rw[h5]at h; cases h
     |some p5=>
      obtain⟨x5,l5⟩:=p5;rw[h5,Option.bind_some]at h;by_cases he:l5=[]
      ·by_cases he3:l3=[]
       ·have h:some (Ts c2 ⟨x4,x5⟩,([]:Its))=some (c,r):=by rw[←h]; exact((if_pos he).trans (if_pos he3)).symm
        have hc:Ts c2 ⟨x4,x5⟩=c:=congrArg (·.1) (sI0 h);rw[←hc,a1,JP a3 a4,←a2,b1,d1,JP d3 d4,←d2,MU h4,MU h5,he,he3];rfl
       ·have h:(none:Option (Ac×Its))=some (c,r):=by rw[←h]; exact((if_pos he).trans (if_neg he3)).symm
        cases h
      ·have h:(none:Option (Ac×Its))=some (c,r):=by rw[←h]; exact(if_neg he).symm
       cases h
end Go.Proofs.YtlnbckkkapbdmaaGreatDoor
end
section
namespace Go.Proofs.YtlnbckkkapbdmaaGreatDoor
open Go Go.Gw Go.Ax
theorem YA {s:ByteArray}{i:Nat}{b:UInt8}(h:s.data.toList[i]? =some b):s.get! i=b:=by
 have h2:s.data[i]? =some b:=by rw[←Array.getElem?_toList]; exact h
 show s.data[i]! =b;rw[getElem!_def,h2]
theorem YE {s:ByteArray}{i:Nat}{b:UInt8}(h:s.data.toList[i]? =some b)(hb:b.toNat<128):Utf8.decode s i=(b.toNat,1):=by
 unfold Utf8.decode;simp only[Nat.add_zero,YA h];rw[if_pos hb]
theorem YF {s:ByteArray}{i:Nat}{b:UInt8}(h:s.data.toList[i]? =some b)(hb: ¬b.toNat<128):128≤(Utf8.decode s i).1:=by
 unfold Utf8.decode;simp only[Nat.add_zero,YA h];rw[if_neg hb];have he:Utf8.runeError=65533:=rfl;split
 ·split
  ·assumption
  ·simp[he]
 ·split
  ·split
   ·rename_i h1;simp only[Bool.and_eq_true,decide_eq_true_eq]at h1;show 128≤_;omega
   ·simp[he]
  ·split
   ·split
    ·rename_i h1;simp only[Bool.and_eq_true,decide_eq_true_eq]at h1;show 128≤_;omega
    ·simp[he]
   ·simp[he]
def Da (c:UInt8):Bool:=(decide (97≤c.toNat)&&decide (c.toNat≤122))||(decide (48≤c.toNat)&&decide (c.toNat≤57))
def Ld (c:UInt8):Bool:=c.toNat==45||Da c
def Nk:List UInt8→Bool
 | []=>true
 | [c]=>Da c
 |c::d::r=>Ld c&&Nk (d::r)
def J0:List UInt8→Bool
 | []=>false
 | [c]=>Da c
 |c::d::r=>(Da c||c.toNat==95)&&Nk (d::r)&&decide ((c::d::r).length≤16)
theorem QL (n:Nat)(c:UInt8)(h:n=c.toNat):Cr (n:Int)=some (Da c):=by
 subst h;unfold Cr Da;rw[Ao];congr 1;have e: ∀k:Nat,decide ((k:Int)≤(c.toNat:Int))=decide (k≤c.toNat):=fun k=>by rw[decide_eq_decide]; omega
 have e2: ∀k:Nat,decide ((c.toNat:Int)≤(k:Int))=decide (c.toNat≤k):=fun k=>by rw[decide_eq_decide]; omega
 rw[←e 97,←e2 122,←e 48,←e2 57];rfl
theorem V9 (n:Nat)(h:128≤n):Cr (n:Int)=some false:=by
 unfold Cr;rw[Ao,decide_eq_false (show¬(n:Int)≤122 from by omega),decide_eq_false (show¬(n:Int)≤57 from by omega),Bool.and_false,Bool.and_false];rfl
theorem TQ (n:Nat)(c:UInt8)(h:n=c.toNat):Co (n:Int)=some (Ld c):=by
 unfold Co Ld;rw[QL n c h,Ph,oZ0];subst h;have e:((c.toNat:Int)==45)=(c.toNat==45):=by rw[Bool.eq_iff_iff,beq_iff_eq,beq_iff_eq]; omega
 rw[e];cases c.toNat==45<;>simp
theorem Xn (n:Nat)(h:128≤n):Co (n:Int)=some false:=by
 unfold Co;rw[V9 n h,Ph,oZ0];have e:((n:Int)==45)=false:=by rw[beq_eq_false_iff_ne]; omega
 rw[e]; rfl
theorem ZJ (c:UInt8)(h: ¬c.toNat<128):Da c=false∧Ld c=false∧(c.toNat==95)=false:=by
 have e1:Da c=false:=by
  unfold Da;rw[decide_eq_false (show¬c.toNat≤122 from by omega),decide_eq_false (show¬c.toNat≤57 from by omega),Bool.and_false,Bool.and_false]; rfl
 have e2:(c.toNat==45)=false:=by rw[beq_eq_false_iff_ne]; omega
 refine⟨e1,?_,by rw[beq_eq_false_iff_ne]; omega⟩;unfold Ld;rw[e1,e2]; rfl
theorem NR {s:ByteArray}{i:Nat}{c:UInt8}(hs:s.size≤16)(h:s.data.toList[i]? =some c):
  AW s i=some (if(if i+1=s.size then Da c else if i=0 then Da c||c.toNat==95 else Ld c)=true then .inl (i+1)else .inr (.inr false)):=by
 have hi:i<s.size:=by
  have:=(List.getElem?_eq_some_iff.1 h).1;rw[AK]at this;exact this
 have hw:w64 ((s.size:Int)-1)=(s.size:Int)-1:=AF (by omega) (by omega);unfold AW;rw[if_pos hi,Ao,hw];by_cases hb:c.toNat<128
 ·rw[YE h hb,QL c.toNat c rfl,TQ c.toNat c rfl,Ph,oZ0,Ao,Ao,Ph,oZ0,Ao,Ph,oZ0];have e95:((c.toNat:Int)==95)=(c.toNat==95):=by rw[Bool.eq_iff_iff,beq_iff_eq,beq_iff_eq]; omega
  by_cases hl:i+1=s.size
  ·have el:((i:Int)==(s.size:Int)-1)=true:=by rw[beq_iff_eq]; omega
   rw[if_pos hl,el];cases Da c<;>rfl
  ·have el:((i:Int)==(s.size:Int)-1)=false:=by rw[beq_eq_false_iff_ne]; omega
   rw[if_neg hl,el];by_cases h0:i=0
   ·have e0:((i:Int)==0)=true:=by rw[beq_iff_eq]; omega
    rw[if_pos h0,e0];show(if(true&&((true&&Da c)||((c.toNat:Int)==95)))=true then _ else _)=_;rw[e95];cases Da c<;>cases c.toNat==95<;>rfl
   ·have e0:((i:Int)==0)=false:=by rw[beq_eq_false_iff_ne]; omega
    rw[if_neg h0,e0];cases Ld c<;>rfl
 ·have hd:=YF h hb;generalize Utf8.decode s i=q at hd;obtain⟨n,k⟩:=q;have hn:128≤n:=hd;obtain⟨b1,b2,b3⟩:=ZJ c hb;show(Ab (gu _ (Cr (n:Int))) _)=_;rw[V9 n hn,Ph,oZ0,Ao,Bool.and_false,Bool.and_false,if_neg (by decide),Ao];have e95:((n:Int)==95)=false:=by rw[beq_eq_false_iff_ne]; omega
  by_cases hl:i+1=s.size
  ·have el:((i:Int)==(s.size:Int)-1)=true:=by rw[beq_iff_eq]; omega
   rw[if_pos hl,el,b1];rfl
  ·have el:((i:Int)==(s.size:Int)-1)=false:=by rw[beq_eq_false_iff_ne]; omega
   rw[if_neg hl,el,if_neg (by decide)];rw[Ph,oZ0,Ao];show(if(((i:Int)==0)&&((((i:Int)==0)&&false)||((n:Int)==95)))=true then _ else Ab (gu _ (Co (n:Int))) _)=_;rw[Xn n hn,Ph,oZ0,e95,Bool.and_false,Bool.or_false,Bool.and_false,if_neg (by decide)];by_cases h0:i=0
   ·have e0:((i:Int)==0)=true:=by rw[beq_iff_eq]; omega
    rw[if_pos h0,e0,b1,b3];rfl
   ·have e0:((i:Int)==0)=false:=by rw[beq_eq_false_iff_ne]; omega
    rw[if_neg h0,e0,b2];rfl
theorem VL {s:ByteArray}{i:Nat}(h: ¬i<s.size):AW s i=some (.inr (.inl i)):=by
 unfold AW;rw[if_neg h]
theorem NQ {s:ByteArray}(hs:s.size≤16): ∀(r:List UInt8) (i n:Nat),1≤i→s.data.toList.drop i=r→i≤s.size→r.length<n→∃z,iter (AW s) n i=some (if Nk r=true then .inl z else .inr false)
 |r,i,0,_,_,_,h=>by omega
 | [],i,n+1,_,h,hi,_=>by
  have hl:s.data.toList.length≤i:=List.drop_eq_nil_iff.1 h;rw[AK]at hl;refine⟨i,?_⟩;show Ab (AW s i) _=_;rw[VL (by omega)];rfl
 |c::r,i,n+1,h1,h,hi,hn=>by
  have hc:s.data.toList[i]? =some c:=by
   have:(s.data.toList.drop i)[0]? =some c:=by rw[h]; rfl
   simpa using this
  have hlt:i<s.size:=by
   have:=(List.getElem?_eq_some_iff.1 hc).1;rw[AK]at this; exact this
  have hr:s.data.toList.drop (i+1)=r:=by rw[←List.drop_drop,h]; rfl
  have hlen:r.length=s.size-(i+1):=by rw[←hr,List.length_drop,AK]
  obtain⟨z,ih⟩:=NQ hs r (i+1) n (by omega) hr (by omega) (by rw[List.length_cons]at hn; omega);refine⟨z,?_⟩;show Ab (AW s i) _=_;rw[NR hs hc,if_neg (show¬i=0 from by omega)];cases r with
  |nil=>
   rw[if_pos (show i+1=s.size from by rw[List.length_nil]at hlen; omega)];show _=some (if Da c=true then _ else _);cases Da c with
   |false=>rfl
   |true=>rw[if_pos rfl,if_pos rfl]; exact ih
  |cons d r=>
   rw[if_neg (show¬i+1=s.size from by rw[List.length_cons]at hlen; omega)];show _=some (if(Ld c&&Nk (d::r))=true then _ else _);cases Ld c with
   |false=>rfl
   |true=>
    rw[if_pos rfl,Bool.true_and];exact ih
theorem Xi (s:ByteArray):CT s=some (J0 s.data.toList):=by
 unfold CT;cases hl:s.data.toList with
 |nil=>
  have:eqS s (⟨#[]⟩:ByteArray)=true:=by unfold eqS; rw[hl]; rfl
  rw[this,Bool.true_or,if_pos rfl];rfl
 |cons c r=>
  have h0:eqS s (⟨#[]⟩:ByteArray)=false:=by unfold eqS; rw[hl]; rfl
  have hz:s.size=r.length+1:=by rw[←AK,hl]; rfl
  rw[h0,Bool.false_or];by_cases hs:s.size≤16
  ·rw[decide_eq_false (show¬(s.size:Int)>16 from by omega),if_neg (by decide)];have hc:s.data.toList[0]? =some c:=by rw[hl]; rfl
   have hd:s.data.toList.drop 1=r:=by rw[hl]; rfl
   have e': ∀n,r.length<n→∃z,iter (AW s) (n+1) 0=some (if J0 (c::r)=true then .inl z else .inr false):=by
    intro n hn;obtain⟨z,ht⟩:=NQ hs r 1 n (by decide) hd (by omega) hn;refine⟨z,?_⟩;show Ab (AW s 0) _=_;rw[NR hs hc,if_pos rfl];cases r with
    |nil=>
     rw[if_pos (show 0+1=s.size from by rw[hz]; rfl)];show _=some (if Da c=true then _ else _);cases Da c with
     |false=>rfl
     |true=>rw[if_pos rfl,if_pos rfl]; exact ht
    |cons d r=>
     rw[if_neg (show¬0+1=s.size from by rw[hz,List.length_cons]; omega)];show _=some (if((Da c||c.toNat==95)&&Nk (d::r)&&decide ((c::d::r).length≤16))=true then _ else _);rw[decide_eq_true (show(c::d::r).length≤16 from by rw[List.length_cons,←hz]; exact hs),Bool.and_true];cases Da c||c.toNat==95 with
     |false=>rfl
     |true=>
      rw[if_pos rfl,Bool.true_and];exact ht
   obtain⟨z,e⟩: ∃z,iter (AW s) Bv 0=some (if J0 (c::r)=true then .inl z else .inr false):=e' 18446744073709551615 (by omega);rw[e,oZ0];cases J0 (c::r)<;>rfl
  ·rw[decide_eq_true (show(s.size:Int)>16 from by omega),if_pos rfl];cases r with
   |nil=>rw[hz]at hs; simp at hs
   |cons d r=>
    show _=some ((Da c||c.toNat==95)&&Nk (d::r)&&decide ((c::d::r).length≤16));rw[decide_eq_false (show¬(c::d::r).length≤16 from by rw[List.length_cons,←hz]; exact hs),Bool.and_false]
end Go.Proofs.YtlnbckkkapbdmaaGreatDoor
end
section
namespace Go.Proofs.YtlnbckkkapbdmaaGreatDoor
open Go Go.Gw Go.Ax
def B0:List UInt8→List (List UInt8)
 | []=> [[]]
 |c::l=>if c=46 then []::B0 l else match B0 l with|h::t=>(c::h)::t| []=> [[c]]
theorem Mq (c:UInt8)(l:List UInt8):B0 (c::l)=if c=46 then []::B0 l else match B0 l with|h::t=>(c::h)::t| []=> [[c]]:=rfl
theorem JO: ∀l:List UInt8,B0 l≠[]
 | []=>by simp[B0]
 |c::l=>by
  unfold B0;split
  ·simp
  ·split<;>simp
theorem Mp: ∀(p r:List UInt8),(46:UInt8)∉p→B0 (p++46::r)=p::B0 r
 | [],r,_=>by simp[B0]
 |c::p,r,h=>by
  have hc:c≠46:=fun e=>h (by rw[e]; exact List.mem_cons_self);have ih:=Mp p r fun q=>h (List.mem_cons_of_mem _ q);show B0 (c::(p++46::r))=_;rw[Mq,if_neg hc,ih]
theorem Mo: ∀(p:List UInt8),(46:UInt8)∉p→B0 p=[p]
 | [],_=>rfl
 |c::p,h=>by
  have hc:c≠46:=fun e=>h (by rw[e]; exact List.mem_cons_self);have ih:=Mo p fun q=>h (List.mem_cons_of_mem _ q);unfold B0;rw[if_neg hc,ih]
theorem Jb: ∀(l:List UInt8),(B0 l).length=l.count 46+1
 | []=>rfl
 |c::l=>by
  have ih:=Jb l;unfold B0;by_cases hc:c=46
  ·rw[if_pos hc,hc,List.count_cons_self,List.length_cons,ih]
  ·rw[if_neg hc,List.count_cons_of_ne hc];cases h:B0 l with
   |nil=>exact absurd h (JO l)
   |cons a t=>rw[h]at ih; simpa using ih
theorem QA: ∀(l:List UInt8) (c:UInt8),(Lib.indexByte l c= -1∧c∉l)∨∃p r,l=p++c::r∧c∉p∧Lib.indexByte l c=(p.length:Int)
 | [],c=> .inl ⟨rfl,by simp⟩
 |b::l,c=>by
  unfold Lib.indexByte;cases hb:b==c with
  |true=>
   have e:b=c:=by simpa using hb
   exact .inr ⟨[],l,by rw[e]; rfl,by simp,rfl⟩
  |false=>
   have e:b≠c:=by simpa using hb
   rcases QA l c with ⟨h1,h2⟩|⟨p,r,h1,h2,h3⟩
   ·refine .inl ⟨by rw[h1]; rfl,?_⟩;intro h;rcases List.mem_cons.1 h with q|q
    ·exact e q.symm
    ·exact h2 q
   ·refine .inr ⟨b::p,r,by rw[h1]; rfl,?_,?_⟩
    ·intro h;rcases List.mem_cons.1 h with q|q
     ·exact e q.symm
     ·exact h2 q
    ·rw[h3];have:((p.length:Int)== -1)=false:=by rw[beq_eq_false_iff_ne]; omega
     rw[if_neg (by decide),if_neg (by rw[this]; decide),List.length_cons];omega
theorem H9 (s:ByteArray)(a b:Nat):(s.extract a b).data.toList=(s.data.toList.take b).drop a:=by
 rw[ByteArray.data_extract,Array.toList_extract,List.extract_eq_take_drop,List.take_drop];by_cases h:a≤b
 ·rw[Nat.add_sub_cancel' h]
 ·rw[Nat.sub_eq_zero_of_le (by omega),Nat.add_zero];rw[List.drop_eq_nil_of_le (by rw[List.length_take]; omega),List.drop_eq_nil_of_le (by rw[List.length_take]; omega)]
def R3 (l:List UInt8):Bool:=(B0 l).all J0
theorem b5_eq (b:ByteArray)(s:Unit×Nat):Bu b s=some ((),if J0 b.data.toList=true then 0 else 1):=by
 unfold Bu;rw[Xi,oZ0];cases J0 b.data.toList<;>rfl
def cbk:(Unit×Nat)→ByteArray→Option (Bool×(Unit×Nat)):=fun(s:(Unit)×Nat) (b0:ByteArray)=>if s.2=0 then Ab (Bu b0 s) fun y=>some (y.2==0,y)else none
theorem YM (b:ByteArray):cbk ((),0) b=some (J0 b.data.toList,((),if J0 b.data.toList=true then 0 else 1)):=by
 unfold cbk;rw[if_pos rfl,b5_eq,oZ0];cases J0 b.data.toList<;>rfl
theorem Xo (s:ByteArray)(h:s.size≤1000):BF s (⟨#[46]⟩:ByteArray)=some (Yt s 46):=by
 obtain⟨x,hx,h1,h2⟩:=QD s;unfold BF BD A8;rw[Ao];cases he:eqS (⟨#[46]⟩:ByteArray) s with
 |true=>
  have e:=(Ia.1 he);subst e;rfl
 |false=>rfl
theorem NJ: ∀(m:Nat) (s:ByteArray) (n:Nat),s.size≤m→m<n→m≤100→
  ∃z:ByteArray,iter (Ay cbk (⟨#[46]⟩:ByteArray) 0) n (s,((),0))=some (if(B0 s.data.toList).dropLast.all J0=true then .inl (z,((),0))else .inr ((⟨#[46]⟩:ByteArray),z,0,((),1)))∧
   ((B0 s.data.toList).dropLast.all J0=true→some z.data.toList=(B0 s.data.toList).getLast?)
 |m,s,0,_,h,_=>by omega
 |m,s,n+1,hs,hn,hm=>by
  have hx:BF s (⟨#[46]⟩:ByteArray)=some (Yt s 46):=Xo s (by omega);show∃z,Ab (Ay cbk (⟨#[46]⟩:ByteArray) 0 (s,((),0))) _=_∧_;rcases QA s.data.toList 46 with ⟨h1,h2⟩|⟨p,r,h1,h2,h3⟩
  ·have e:Ay cbk (⟨#[46]⟩:ByteArray) 0 (s,((),0))=some (.inr (.inl (s,((),0)))):=by
    unfold Ay;show Ab (BF s (⟨#[46]⟩:ByteArray)) _=_;rw[hx,oZ0,show Yt s 46= -1 from h1];rfl
   rw[e,Mo _ h2];exact⟨s,rfl,fun _=>rfl⟩
  ·have hz:s.size=p.length+1+r.length:=by rw[←AK,h1,List.length_append,List.length_cons]; omega
   have e1:Lj s 0 (w64 ((p.length:Int)+0))=some (s.extract 0 p.length):=by
    rw[Int.add_zero,AF (by omega) (by omega),Fy (by omega) (by omega) (by omega)];rfl
   have e2:Lj s (w64 ((p.length:Int)+((⟨#[46]⟩:ByteArray).size:Int))) (s.size:Int)=some (s.extract (p.length+1) s.size):=by
    have:((⟨#[46]⟩:ByteArray).size:Int)=1:=rfl;rw[this,AF (by omega) (by omega),Fy (by omega) (by omega) (by omega)];rfl
   have l1:(s.extract 0 p.length).data.toList=p:=by
    rw[H9,h1,List.take_left]; rfl
   have l2:(s.extract (p.length+1) s.size).data.toList=r:=by
    rw[H9,←AK,List.take_length,h1];rw[←List.drop_drop,List.drop_left]; rfl
   have e:Ay cbk (⟨#[46]⟩:ByteArray) 0 (s,((),0))=some (if J0 p=true then .inl (s.extract (p.length+1) s.size,((),0))else .inr (.inr ((⟨#[46]⟩:ByteArray),s,0,((),1)))):=by
    unfold Ay;show Ab (BF s (⟨#[46]⟩:ByteArray)) _=_;rw[hx,oZ0,show Yt s 46=(p.length:Int)from h3,if_neg (by rw[decide_eq_true_eq]; omega),e1,oZ0,YM,oZ0,l1];cases hlab:J0 p with
    |false=>rfl
    |true=>
     rw[if_neg (by simp)];dsimp only;rw[e2,oZ0];rfl
   rw[e,h1,Mp p r h2];have hsz:(s.extract (p.length+1) s.size).size=r.length:=by rw[←AK,l2]
   obtain⟨z,ih1,ih2⟩:=NJ (m-1) (s.extract (p.length+1) s.size) n (by omega) (by omega) (by omega);rw[l2]at ih1 ih2;have hd:(p::B0 r).dropLast=p::(B0 r).dropLast:=by
    cases hq:B0 r with
    |nil=>exact absurd hq (JO r)
    |cons a t=>rfl
   have hg:(p::B0 r).getLast? =(B0 r).getLast?:=by
    cases hq:B0 r with
    |nil=>exact absurd hq (JO r)
    |cons a t=>rfl
   rw[hd,hg,List.all_cons];cases J0 p with
   |false=>exact⟨s,rfl,fun h=>by cases h⟩
   |true=>exact⟨z,ih1,ih2⟩
theorem Px {α:Type}(f:α→Bool): ∀(l:List α) (x:α),l.getLast? =some x→l.all f=(l.dropLast.all f&&f x)
 | [],x,h=>by cases h
 | [a],x,h=>by cases h; simp
 |a::b::l,x,h=>by
  have ih:=Px f (b::l) x (by simpa using h);show(f a&&(b::l).all f)=((f a&&(b::l).dropLast.all f)&&f x);rw[ih,Bool.and_assoc]
def isB (l:List UInt8)(n k:Nat):Bool:=decide (l.length≤k)&&decide ((B0 l).length≤n)&&R3 l
theorem RE (s:ByteArray)(n k:Nat)(hk:k≤100):BQ s (n:Int) (k:Int)=some (isB s.data.toList n k):=by
 unfold BQ isB;have hz:=AK s;by_cases h1:s.size≤k
 ·rw[decide_eq_false (show¬(s.size:Int)>k from by omega),if_neg (by decide),decide_eq_true (show s.data.toList.length≤k from by omega)];have ec:DX s (⟨#[46]⟩:ByteArray)=some ((s.data.toList.count 46:Nat):Int):=rfl;rw[ec,oZ0,oZ0,Jb];by_cases h2:s.data.toList.count 46+1≤n
  ·rw[decide_eq_false (show¬((s.data.toList.count 46:Nat):Int)≥(n:Int)from by omega),if_neg (by decide),decide_eq_true h2];obtain⟨z,e1,e2⟩:=NJ 100 s Bv (by omega) (by have:=AJ; omega) (by decide);have es:Ba cbk (⟨#[46]⟩:ByteArray) s 0 ((),0)=some ((⟨#[46]⟩:ByteArray),z,0,((),if R3 s.data.toList=true then 0 else 1)):=by
    unfold Ba;rw[if_neg (by decide),e1,oZ0];unfold R3;cases hd:(B0 s.data.toList).dropLast.all J0 with
    |true=>
     have hlast:=(e2 hd).symm;rw[Px J0 _ _ hlast,hd,if_pos rfl];show Ab (cbk ((),0) z) _=_;rw[YM,oZ0,Bool.true_and]
    |false=>
     have:(B0 s.data.toList).all J0=false:=by
      cases hl:(B0 s.data.toList).getLast? with
      |none=>exact absurd (List.getLast?_eq_none_iff.1 hl) (JO _)
      |some x=>rw[Px J0 _ x hl,hd]; rfl
     rw[this];rfl
   show Ab (Ba cbk (⟨#[46]⟩:ByteArray) s 0 ((),0)) _=_;rw[es,oZ0];cases R3 s.data.toList<;>rfl
  ·rw[decide_eq_true (show((s.data.toList.count 46:Nat):Int)≥(n:Int)from by omega),if_pos rfl,decide_eq_false h2];rfl
 ·rw[decide_eq_true (show(s.size:Int)>k from by omega),if_pos rfl,oZ0,if_pos rfl,decide_eq_false (show¬s.data.toList.length≤k from by omega)];rfl
theorem W9 (s:ByteArray):nameV s=if isB s.data.toList 8 64=true then 0 else 110:=by
 have e:=O4 s;have e2:DD s=some (isB s.data.toList 8 64):=by
  unfold DD;rw[show BQ s 8 64=some (isB s.data.toList 8 64)from RE s 8 64 (by decide)];rfl
 unfold CC at e;rw[e2,oZ0]at e;cases h:isB s.data.toList 8 64 with
 |true=>rw[h]at e; exact(sI0 e).symm
 |false=>rw[h]at e; exact(sI0 e).symm
end Go.Proofs.YtlnbckkkapbdmaaGreatDoor
end
section
namespace Go.Proofs.YtlnbckkkapbdmaaGreatDoor
open Go Go.Gw Go.Ax
theorem Q1 (c:UInt8):CS c=some (Da c):=by
 unfold CS Da;rw[Ao];congr 1;have e: ∀k:Nat,decide ((c.toNat:Int)≥(k:Int))=decide (k≤c.toNat):=fun k=>by rw[decide_eq_decide]; omega
 have e2: ∀k:Nat,decide ((c.toNat:Int)≤(k:Int))=decide (c.toNat≤k):=fun k=>by rw[decide_eq_decide]; omega
 rw[←e 97,←e2 122,←e 48,←e2 57];rfl
theorem Sn: ∀(r:List UInt8) (x:UInt8),r.getLast? =some x→Nk r=(Da x&&r.all Ld)
 | [],x,h=>by cases h
 | [a],x,h=>by
  cases h;show Da a=(Da a&&(Ld a&&true));unfold Ld;cases Da a<;>simp
 |a::b::r,x,h=>by
  have ih:=Sn (b::r) x (by simpa using h);show(Ld a&&Nk (b::r))=(Da x&&(Ld a&&(b::r).all Ld));rw[ih];cases Ld a<;>cases Da x<;>rfl
theorem Ce {α:Type}{l:List α}{i:Nat}{x:α}(h:l[i]? =some x):idx l (i:Int)=some x:=by
 unfold idx;rw[if_pos (by omega)];exact h
theorem U4 {s:ByteArray}{i:Nat}{c:UInt8}(h:s.data.toList[i]? =some c)(hs:s.size≤100000):Bo s (i:Int)=some (if Ld c=true then .inl ((i+1:Nat):Int)else .inr (.inr false)):=by
 have hi:i<s.size:=by
  have:=(List.getElem?_eq_some_iff.1 h).1;rw[AK]at this;exact this
 unfold Bo;rw[decide_eq_true (show(i:Int)<(s.size:Int)from by omega),if_pos rfl,Ce h,oZ0,Q1,oZ0];have hw:w64 ((i:Int)+1)=((i+1:Nat):Int):=by rw[AF (by omega) (by omega)]; omega
 have e45:((c.toNat:Int) !=45)= !(c.toNat==45):=by
  show(!((c.toNat:Int)==45))=_;have:((c.toNat:Int)==45)=(c.toNat==45):=by rw[Bool.eq_iff_iff,beq_iff_eq,beq_iff_eq]; omega
  rw[this]
 unfold Ld;cases he:Da c with
 |true=>
  rw[show gu (!true) (some c)=some default from rfl,oZ0,hw,Bool.or_true];rfl
 |false=>
  rw[show gu (!false) (some c)=some c from rfl,oZ0,e45,hw,Bool.or_false];cases c.toNat==45<;>rfl
theorem Qh {s:ByteArray}(hs:s.size≤100000): ∀(r:List UInt8) (i n:Nat),s.data.toList.drop i=r→r.length<n→iter (Bo s) n (i:Int)=some (if r.all Ld=true then .inl ()else .inr false)
 |r,i,0,_,h=>by omega
 | [],i,n+1,h,_=>by
  have hl:s.data.toList.length≤i:=List.drop_eq_nil_iff.1 h;rw[AK]at hl;have e:Bo s (i:Int)=some (.inr (.inl ())):=by
   unfold Bo;rw[decide_eq_false (show¬(i:Int)<(s.size:Int)from by omega)];rfl
  show Ab (Bo s (i:Int)) _=_;rw[e];rfl
 |c::r,i,n+1,h,hn=>by
  have hc:s.data.toList[i]? =some c:=by
   have:(s.data.toList.drop i)[0]? =some c:=by rw[h]; rfl
   simpa using this
  have hr:s.data.toList.drop (i+1)=r:=by rw[←List.drop_drop,h]; rfl
  have ih:=Qh hs r (i+1) n hr (by rw[List.length_cons]at hn; omega);show Ab (Bo s (i:Int)) _=_;rw[U4 hc hs,List.all_cons];cases Ld c with
  |false=>rfl
  |true=>rw[if_pos rfl,Bool.true_and]; exact ih
theorem U3 (s:ByteArray)(hs:s.size≤100000):Fj s=some (J0 s.data.toList):=by
 have hz:=AK s;unfold Fj;by_cases h1:s.size<1∨s.size>16
 ·have eb:(decide ((s.size:Int)<1)||decide ((s.size:Int)>16))=true:=by
   rw[Bool.or_eq_true,decide_eq_true_eq,decide_eq_true_eq]; omega
  rw[eb];show some false=_;cases hl:s.data.toList with
  |nil=>rfl
  |cons c r=>
   rw[hl,List.length_cons]at hz;cases r with
   |nil=>rw[List.length_nil]at hz; omega
   |cons d r=>
    show some false=some ((Da c||c.toNat==95)&&Nk (d::r)&&decide ((c::d::r).length≤16));rw[decide_eq_false (show¬(c::d::r).length≤16 from by rw[List.length_cons]; omega),Bool.and_false]
 ·have eb:(decide ((s.size:Int)<1)||decide ((s.size:Int)>16))=false:=by
   rw[Bool.or_eq_false_iff,decide_eq_false_iff_not,decide_eq_false_iff_not]; omega
  cases hl:s.data.toList with
  |nil=>rw[hl,List.length_nil]at hz; omega
  |cons c r=>
   obtain⟨x,hx⟩: ∃x,(c::r).getLast? =some x:=⟨_,List.getLast?_cons⟩;have hx2:(c::r)[s.size-1]? =some x:=by
    rw[←hx,List.getLast?_eq_getElem?,←hl,hz]
   have hw:w64 ((s.size:Int)-1)=((s.size-1:Nat):Int):=by rw[AF (by omega) (by omega)]; omega
   have ex:idx (c::r) (w64 ((s.size:Int)-1))=some x:=by rw[hw]; exact Ce hx2
   have hloop:=Qh hs r 1 Bv (by rw[hl]; rfl) (by
    have:=AJ;rw[hl,List.length_cons]at hz;omega)
   have hloop:iter (Bo s) Bv 1=some (if r.all Ld=true then .inl ()else .inr false):=hloop;rw[eb,ex,show idx (c::r) 0=some c from rfl,hloop];rw[show gu (!false) (some x)=some x from rfl,oZ0,show gu (!false) (CS x)=CS x from rfl,Q1,oZ0];have e95:((c.toNat:Int) !=95)= !(c.toNat==95):=by
    show(!((c.toNat:Int)==95))=_;have:((c.toNat:Int)==95)=(c.toNat==95):=by rw[Bool.eq_iff_iff,beq_iff_eq,beq_iff_eq]; omega
    rw[this]
   have hlab:J0 (c::r)=(Da x&&(Da c||c.toNat==95)&&r.all Ld):=by
    cases r with
    |nil=>
     have hxc:x=c:=by simpa using hx.symm
     rw[hxc];show Da c=_;cases Da c<;>simp
    |cons d r=>
     have ht:=Sn (d::r) x (by simpa using hx);show((Da c||c.toNat==95)&&Nk (d::r)&&decide ((c::d::r).length≤16))=_;rw[hl,List.length_cons]at hz;rw[ht,decide_eq_true (show(c::d::r).length≤16 from by rw[List.length_cons]; omega),Bool.and_true];cases Da c||c.toNat==95<;>cases Da x<;>rfl
   rw[hlab];cases Da x with
   |false=>rfl
   |true=>
    rw[show gu (!((false||(!true)))) (some c)=some c from rfl,oZ0,Q1,show gu (!((false||(!true)))) (some (Da c))=some (Da c)from rfl,oZ0];cases Da c with
    |true=>
     show Ab (gu false (some c)) _=_;rw[VV,oZ0];cases r.all Ld<;>rfl
    |false=>
     show Ab (some c) (fun x5=>if((false|| !true)||(!false&&((x5.toNat:Int) !=95)))=true then some false else Ab (some (if r.all Ld=true then(.inl ():Unit⊕Bool)else .inr false)) _)=_;rw[oZ0,e95];cases c.toNat==95 with
     |false=>rfl
     |true=>cases r.all Ld<;>rfl
end Go.Proofs.YtlnbckkkapbdmaaGreatDoor
end
section
namespace Go.Proofs.YtlnbckkkapbdmaaGreatDoor
open Go Go.Gw Go.Ax
def toL (s:ByteArray):List UInt8:=s.data.toList
theorem Wu {α:Type}(b:Nat){xs ys:List α}(h:(xs.length+ys.length)*b≤140737488355328)(h1:xs.length+ys.length≤140737488355328):app b xs ys=some (xs++ys):=by unfold app; rw[if_pos ⟨h,h1⟩]
theorem XM {α:Type}(l:List α){f i:Nat}(h:f≤i):l.drop f=(l.take i).drop f++l.drop i:=by
 have h0:l=l.take i++l.drop i:=(List.take_append_drop i l).symm;by_cases hi:i≤l.length
 ·conv=>lhs; rw[h0]
  rw[List.drop_append_of_le_length (by rw[List.length_take]; omega)]
 ·rw[List.take_of_length_le (by omega),List.drop_eq_nil_of_le (show l.length≤i by omega),List.append_nil]
theorem UB {α:Type}{l:List α}{i f:Nat}{c:α}(h:l[i]? =some c)(hf:f≤i):(l.take (i+1)).drop f=(l.take i).drop f++[c]:=by
 rw[List.take_add_one,h];have hl:i<l.length:=(List.getElem?_eq_some_iff.1 h).1;rw[List.drop_append_of_le_length (by rw[List.length_take]; omega)];rfl
theorem Pn {s:ByteArray}(hs:s.size≤100000): ∀(r:List UInt8) (i f n:Nat) (out:List ByteArray),(toL s).drop i=r→r.length<n→f≤i→i≤s.size→out.length≤i→(46:UInt8)∉((toL s).take i).drop f→
  ∃(o:List ByteArray) (g:Nat),iter (Bi s) n (out,(f:Int),(i:Int))=some (o,(g:Int))∧g≤s.size∧o.length≤s.size∧o.map toL++[(toL s).drop g]=out.map toL++B0 ((toL s).drop f)
 |r,i,f,0,_,_,h,_,_,_,_=>by omega
 | [],i,f,n+1,out,h,_,hf,hi,ho,hp=>by
  have hl:(toL s).length≤i:=List.drop_eq_nil_iff.1 h;have hz:(toL s).length=s.size:=AK s;have e:Bi s (out,(f:Int),(i:Int))=some (.inr (out,(f:Int))):=by
   unfold Bi;show(if decide ((i:Int)<(s.size:Int))=true then _ else _)=_;rw[decide_eq_false (show¬(i:Int)<(s.size:Int)from by omega)];rfl
  refine⟨out,f,?_,by omega,by omega,?_⟩
  ·show Ab (Bi s (out,(f:Int),(i:Int))) _=_;rw[e];rfl
  ·rw[List.take_of_length_le (by omega)]at hp;rw[Mo _ hp]
 |c::r,i,f,n+1,out,h,hn,hf,hi,ho,hp=>by
  have hc:(toL s)[i]? =some c:=by
   have:((toL s).drop i)[0]? =some c:=by rw[h]; rfl
   simpa using this
  have hz:(toL s).length=s.size:=AK s;have hlt:i<s.size:=by
   have:=(List.getElem?_eq_some_iff.1 hc).1;omega
  have hr:(toL s).drop (i+1)=r:=by rw[←List.drop_drop,h]; rfl
  have hw:w64 ((i:Int)+1)=((i+1:Nat):Int):=by rw[AF (by omega) (by omega)]; omega
  have hi2:idx s.data.toList (i:Int)=some c:=Ce hc;by_cases h46:c=46
  ·have e46:((c.toNat:Int)==46)=true:=by rw[h46]; rfl
   have ep:Lj s (f:Int) (i:Int)=some (s.extract f i):=by
    rw[Fy (by omega) (by omega) (by omega)]; rfl
   have e:Bi s (out,(f:Int),(i:Int))=some (.inl (out++[s.extract f i],((i+1:Nat):Int),((i+1:Nat):Int))):=by
    unfold Bi;show(if decide ((i:Int)<(s.size:Int))=true then _ else _)=_;rw[decide_eq_true (show(i:Int)<(s.size:Int)from by omega),if_pos rfl];show Ab (Ab (idx s.data.toList (i:Int)) _) _=_;rw[hi2,oZ0,e46,if_pos rfl];show Ab (Ab (Lj s (f:Int) (i:Int)) _) _=_;rw[ep,oZ0];show Ab (Ab (app 16 out [s.extract f i]) _) _=_;rw[Wu 16 (by show(out.length+1)*16≤_; omega) (by show out.length+1≤_; omega),oZ0,oZ0,hw]
   obtain⟨o,g,q1,q2,q3,q4⟩:=Pn hs r (i+1) (i+1) n (out++[s.extract f i]) hr (by rw[List.length_cons]at hn; omega) (Nat.le_refl _) (by omega) (by rw[List.length_append]; show out.length+1≤_; omega) (by
    rw[List.drop_eq_nil_of_le (by rw[List.length_take]; omega)]; simp)
   refine⟨o,g,?_,q2,q3,?_⟩
   ·show Ab (Bi s (out,(f:Int),(i:Int))) _=_;rw[e];exact q1
   ·rw[q4,XM (toL s) hf,h,h46,Mp _ _ hp,hr,List.map_append,List.append_assoc];show _++([toL (s.extract f i)]++_)=_;rw[show toL (s.extract f i)=((toL s).take i).drop f from H9 s f i];rfl
  ·have e46:((c.toNat:Int)==46)=false:=by
    rw[beq_eq_false_iff_ne];intro q;exact h46 (UInt8.toNat_inj.1 (by show c.toNat=46; omega))
   have e:Bi s (out,(f:Int),(i:Int))=some (.inl (out,(f:Int),((i+1:Nat):Int))):=by
    unfold Bi;show(if decide ((i:Int)<(s.size:Int))=true then _ else _)=_;rw[decide_eq_true (show(i:Int)<(s.size:Int)from by omega),if_pos rfl];show Ab (Ab (idx s.data.toList (i:Int)) _) _=_;rw[hi2,oZ0,e46,if_neg (by decide),oZ0,hw]
   obtain⟨o,g,q1,q2,q3,q4⟩:=Pn hs r (i+1) f n out hr (by rw[List.length_cons]at hn; omega) (by omega) (by omega) (by omega) (by
    rw[UB hc hf];intro q;rcases List.mem_append.1 q with q|q
    ·exact hp q
    ·exact h46 (List.mem_singleton.1 q).symm)
   refine⟨o,g,?_,q2,q3,q4⟩;show Ab (Bi s (out,(f:Int),(i:Int))) _=_;rw[e];exact q1
theorem Th {s:ByteArray}(hs:s.size≤100000): ∃l,FL s=some l∧l.map toL=B0 (toL s):=by
 have hz:(toL s).length=s.size:=AK s;obtain⟨o,g,h1,h2,h3,h4⟩:=Pn hs (toL s) 0 0 Bv [] rfl (by have:=AJ; omega) (Nat.le_refl _) (Nat.zero_le _) (Nat.zero_le _) (by simp);have h1:iter (Bi s) Bv ([],0,0)=some (o,(g:Int)):=h1;unfold FL;rw[h1,oZ0,oZ0,Fy (by omega) (by show(g:Int)≤_; omega) (by omega),oZ0,Wu 16 (by show(o.length+1)*16≤_; omega) (by show o.length+1≤_; omega),oZ0];refine⟨_,rfl,?_⟩;rw[List.map_append];show o.map toL++[toL (s.extract g s.size)]=_;rw[show toL (s.extract g s.size)=(toL s).drop g from by rw[show toL (s.extract g s.size)=((toL s).take s.size).drop g from H9 s g s.size,←hz,List.take_length],h4];rfl
theorem Qq: ∀(r p:List ByteArray) (n:Nat),r.length<n→p.length+r.length≤10000→(∀x∈r,x.size≤100000)→iter (Bq (p++r)) n (p.length:Int)=some (if r.all (fun x=>J0 (toL x))=true then .inl ()else .inr false)
 |r,p,0,h,_,_=>by omega
 | [],p,n+1,_,_,_=>by
  have e:Bq (p++[]) (p.length:Int)=some (.inr (.inl ())):=by
   unfold Bq;rw[decide_eq_false (by rw[List.append_nil]; omega)];rfl
  show Ab (Bq (p++[]) (p.length:Int)) _=_;rw[e]; rfl
 |x::r,p,n+1,h,hp,hx=>by
  rw[List.length_cons]at h hp;have ih:=Qq r (p++[x]) n (by omega) (by rw[List.length_append]; show p.length+1+_≤_; omega) fun y hy=>hx y (List.mem_cons_of_mem _ hy);have ei:idx (p++x::r) (p.length:Int)=some x:=Ce (by simp);have e:Bq (p++x::r) (p.length:Int)=some (if J0 (toL x)=true then .inl ((p.length+1:Nat):Int)else .inr (.inr false)):=by
   unfold Bq;rw[decide_eq_true (show(p.length:Int)<((p++x::r).length:Int)from by rw[List.length_append,List.length_cons]; omega),if_pos rfl,ei,oZ0,U3 x (hx x List.mem_cons_self),oZ0];have hw:w64 ((p.length:Int)+1)=((p.length+1:Nat):Int):=by rw[AF (by omega) (by omega)]; omega
   rw[hw];show(if(!J0 (toL x))=true then _ else _)=_;cases J0 (toL x)<;>rfl
  show Ab (Bq (p++x::r) (p.length:Int)) _=_;rw[e,List.all_cons];cases J0 (toL x)with
  |false=>rfl
  |true=>
   rw[if_pos rfl,Bool.true_and];show iter (Bq (p++x::r)) n ((p.length+1:Nat):Int)=_;rw[←ih];simp
theorem IP: ∀(l x:List UInt8),x∈B0 l→x.length≤l.length
 | [],x,h=>by simp[B0]at h; rw[h]; simp
 |c::l,x,h=>by
  rw[Mq]at h;by_cases hc:c=46
  ·rw[if_pos hc]at h;rcases List.mem_cons.1 h with q|q
   ·rw[q]; simp
   ·have:=IP l x q; rw[List.length_cons]; omega
  ·rw[if_neg hc]at h;cases hs:B0 l with
   |nil=>exact absurd hs (JO l)
   |cons a t=>
    rw[hs]at h;rcases List.mem_cons.1 h with q|q
    ·have:=IP l a (by rw[hs]; exact List.mem_cons_self);rw[q,List.length_cons,List.length_cons]; omega
    ·have:=IP l x (by rw[hs]; exact List.mem_cons_of_mem _ q);rw[List.length_cons]; omega
theorem MX {s:ByteArray}(hs:s.size≤100000):Dk s=some (isB (toL s) 8 64):=by
 have hz:(toL s).length=s.size:=AK s;unfold Dk isB;by_cases h1:s.size≤64
 ·rw[decide_eq_false (show¬(s.size:Int)>64 from by omega),if_neg (by decide),decide_eq_true (show(toL s).length≤64 from by omega)];obtain⟨l,e,hl⟩:=Th hs;have hsz: ∀x∈l,x.size≤100000:=fun x hx=>by
   have h2:=IP (toL s) (toL x) (by rw[←hl]; exact List.mem_map_of_mem hx);have h3:(toL x).length=x.size:=AK x;omega
  have hlen:l.length=(B0 (toL s)).length:=by rw[←hl,List.length_map]
  have hcnt:=Jb (toL s);have hc2:(toL s).count 46≤(toL s).length:=List.count_le_length;have hloop:=Qq l [] Bv (by have:=AJ; omega) (by simp only[List.length_nil]; omega) hsz;have hloop:iter (Bq l) Bv 0=some (if l.all (fun x=>J0 (toL x))=true then .inl ()else .inr false):=hloop;rw[e,oZ0,hloop];have ha:l.all (fun x=>J0 (toL x))=R3 (toL s):=by
   unfold R3;rw[←hl,List.all_map];rfl
  rw[ha];have hd:decide ((l.length:Int)≤8)=decide ((B0 (toL s)).length≤8):=by rw[decide_eq_decide,hlen]; omega
  cases R3 (toL s)with
  |false=>rw[Bool.and_false]; rfl
  |true=>
   show some (decide ((l.length:Int)≤8))=_;rw[hd,Bool.and_true,Bool.true_and]
 ·rw[decide_eq_true (show(s.size:Int)>64 from by omega),if_pos rfl,decide_eq_false (show¬(toL s).length≤64 from by omega)];rfl
end Go.Proofs.YtlnbckkkapbdmaaGreatDoor
end
section
namespace Go.Proofs.YtlnbckkkapbdmaaGreatDoor
open Go Go.Gw Go.Ax
def TC:List UInt8→Bool
 |a::b::r=>a==42&&b==46&&isB r 7 62
 |_=>false
theorem ZC (n k:Nat):isB [] n k=false:=by
 unfold isB R3;simp[B0,J0]
theorem pat_eq (s:ByteArray):B1 s=some (if(isB (toL s) 8 64||TC (toL s))=true then 0 else 110):=by
 have hz:(toL s).length=s.size:=AK s;unfold B1 Df;have e1:DD s=some (isB (toL s) 8 64):=by
  unfold DD;rw[show BQ s 8 64=some (isB (toL s) 8 64)from RE s 8 64 (by decide)];rfl
 rw[e1,oZ0];cases h1:isB (toL s) 8 64 with
 |true=>rfl
 |false=>
  rw[if_neg (by decide),Bool.false_or];unfold BG AZ AY;have e2:(((⟨#[42,46]⟩:ByteArray).size:Nat):Int)=2:=rfl;rw[e2];match hl:toL s with
  | []=>
   rw[hl,List.length_nil]at hz;rw[decide_eq_false (show¬(s.size:Int)≥2 from by omega)];rfl
  | [a]=>
   rw[hl,List.length_cons,List.length_nil]at hz;rw[decide_eq_false (show¬(s.size:Int)≥2 from by omega)];rfl
  |a::b::r=>
   rw[hl,List.length_cons,List.length_cons]at hz;have ec:Lj s 0 2=some (s.extract 0 2):=Fy (by omega) (by omega) (by omega);have el:(s.extract 0 2).data.toList=[a,b]:=by
    rw[H9];show((toL s).take 2).drop 0=_;rw[hl]; rfl
   have ee:eqS (s.extract 0 2) (⟨#[42,46]⟩:ByteArray)=(a==42&&b==46):=by
    unfold eqS;rw[el,Bool.eq_iff_iff];simp
   rw[decide_eq_true (show(s.size:Int)≥2 from by omega),Lg,ec,oZ0,Ao,ee,oZ0];show _=some (if(a==42&&b==46&&isB r 7 62)=true then 0 else 110);cases a==42&&b==46 with
   |false=>rfl
   |true=>
    have ec2:Lj s 2 (s.size:Int)=some (s.extract 2 s.size):=by
     rw[Fy (by omega) (by omega) (by omega)]; rfl
    have el2:(s.extract 2 s.size).data.toList=r:=by
     rw[H9];show((toL s).take s.size).drop 2=_;rw[List.take_of_length_le (by rw[hl,List.length_cons,List.length_cons]; omega),hl]; rfl
    rw[show(true&&true)=true from rfl,if_neg (by decide),ec2,oZ0,oZ0,oZ0];have en:=RE (s.extract 2 s.size) 7 62 (by decide);rw[el2]at en;have en:BQ (s.extract 2 s.size) 7 62=some (isB r 7 62):=en;show Ab (Ab (gu true (BQ (s.extract 2 s.size) 7 62)) _) _=_;rw[Lg,en,oZ0,oZ0];show Ab (Dl (true&&isB r 7 62)) _=_;cases isB r 7 62<;>rfl
theorem Zr (s:ByteArray):patV s=if(isB (toL s) 8 64||TC (toL s))=true then 0 else 110:=by
 have e:=Ry s;rw[pat_eq s]at e;exact(sI0 e).symm
theorem Aan {s:ByteArray}(hs:s.size≤100000): ∃t,Ge s=some (t,TC (toL s)):=by
 have hz:(toL s).length=s.size:=AK s;unfold Ge;by_cases h1:s.size<3∨s.size>64
 ·have eb:(decide ((s.size:Int)<3)||decide ((s.size:Int)>64))=true:=by
   rw[Bool.or_eq_true,decide_eq_true_eq,decide_eq_true_eq]; omega
  rw[eb];have e:TC (toL s)=false:=by
   match hl:toL s with
   | []=>rfl
   | [a]=>rfl
   | [a,b]=>show(a==42&&b==46&&isB [] 7 62)=false; rw[ZC,Bool.and_false]
   |a::b::c::r=>
    rw[hl]at hz;simp only[List.length_cons]at hz;show(a==42&&b==46&&isB (c::r) 7 62)=false;unfold isB;rw[decide_eq_false (show¬(c::r).length≤62 from by rw[List.length_cons]; omega),Bool.false_and,Bool.false_and,Bool.and_false]
  rw[e];exact⟨(⟨#[]⟩:ByteArray),rfl⟩
 ·have eb:(decide ((s.size:Int)<3)||decide ((s.size:Int)>64))=false:=by
   rw[Bool.or_eq_false_iff,decide_eq_false_iff_not,decide_eq_false_iff_not]; omega
  rw[eb];match hl:toL s with
  | []=>rw[hl,List.length_nil]at hz; omega
  | [a]=>rw[hl,List.length_cons,List.length_nil]at hz; omega
  |a::b::r=>
   rw[hl,List.length_cons,List.length_cons]at hz;have ha:idx s.data.toList 0=some a:=by rw[show s.data.toList=a::b::r from hl]; rfl
   have hb:idx s.data.toList 1=some b:=by rw[show s.data.toList=a::b::r from hl]; rfl
   have ec2:Lj s 2 (s.size:Int)=some (s.extract 2 s.size):=by
    rw[Fy (by omega) (by omega) (by omega)]; rfl
   have el2:toL (s.extract 2 s.size)=r:=by
    rw[show toL (s.extract 2 s.size)=((toL s).take s.size).drop 2 from H9 s 2 s.size,List.take_of_length_le (by rw[hl,List.length_cons,List.length_cons]; omega),hl]; rfl
   have hz2:(s.extract 2 s.size).size=r.length:=by rw[←AK,←el2]; rfl
   have en:=MX (s:=s.extract 2 s.size) (by omega);rw[el2]at en;obtain⟨l,e5,h5⟩:=Th (s:=s.extract 2 s.size) (by omega);rw[el2]at h5;have hlen:l.length=(B0 r).length:=by rw[←h5,List.length_map]
   have e42:((a.toNat:Int) !=42)= !(a==42):=by
    show(!((a.toNat:Int)==42))=_;have:((a.toNat:Int)==42)=(a==42):=by
     rw[Bool.eq_iff_iff,beq_iff_eq,beq_iff_eq,←UInt8.toNat_inj];show _↔a.toNat=42;omega
    rw[this]
   have e46:((b.toNat:Int) !=46)= !(b==46):=by
    show(!((b.toNat:Int)==46))=_;have:((b.toNat:Int)==46)=(b==46):=by
     rw[Bool.eq_iff_iff,beq_iff_eq,beq_iff_eq,←UInt8.toNat_inj];show _↔b.toNat=46;omega
    rw[this]
   rw[ha,hb,ec2];rw[show gu (!false) (some a)=some a from rfl,oZ0,e42];have hst:TC (a::b::r)=(a==42&&b==46&&isB r 7 62):=rfl;rw[hst];cases a==42 with
   |false=>exact⟨_,rfl⟩
   |true=>
    rw[show gu (!(false|| !true)) (some b)=some b from rfl,oZ0,e46];cases b==46 with
    |false=>exact⟨_,rfl⟩
    |true=>
     rw[show gu (!((false|| !true)|| !true)) (some (s.extract 2 s.size))=some (s.extract 2 s.size)from rfl,oZ0,en,show gu (!((false|| !true)|| !true)) (some (isB r 8 64))=some (isB r 8 64)from rfl,oZ0];have hr:r.length≤62:=by omega
     unfold isB;rw[decide_eq_true (show r.length≤64 from by omega),decide_eq_true (show r.length≤62 from hr),Bool.true_and,Bool.true_and,Bool.true_and];cases hal:R3 r with
     |false=>rw[Bool.and_false,Bool.and_false]; exact⟨_,rfl⟩
     |true=>
      rw[Bool.and_true,Bool.and_true];by_cases h8:(B0 r).length≤8
      ·rw[decide_eq_true h8,if_neg (by decide),oZ0,e5,oZ0];by_cases h7:(B0 r).length≤7
       ·rw[decide_eq_false (show¬(l.length:Int)>7 from by omega),if_neg (by decide),oZ0,decide_eq_true h7];exact⟨_,rfl⟩
       ·rw[decide_eq_true (show(l.length:Int)>7 from by omega),if_pos rfl,decide_eq_false h7];exact⟨_,rfl⟩
      ·rw[decide_eq_false h8,if_pos (by decide),decide_eq_false (show¬(B0 r).length≤7 from by omega)];exact⟨_,rfl⟩
theorem QV {s:ByteArray}(hs:s.size≤100000):D4 s=some (patV s):=by
 obtain⟨t,e⟩:=Aan hs;unfold D4;rw[e,oZ0,MX hs,Zr];cases TC (toL s)with
 |true=>rw[Bool.or_true]; rfl
 |false=>
  rw[Bool.or_false];show Ab (gu true (some (isB (toL s) 8 64))) _=_;rw[Lg,oZ0];cases isB (toL s) 8 64<;>rfl
theorem XY {s:ByteArray}(hs:s.size≤100000):Dk s=some (nameV s==0):=by
 rw[MX hs,W9];show _=some ((if isB (toL s) 8 64=true then(0:Int)else 110)==0);cases isB (toL s) 8 64<;>rfl
end Go.Proofs.YtlnbckkkapbdmaaGreatDoor
end
section
namespace Go.Proofs.YtlnbckkkapbdmaaGreatDoor
open Go Go.Gw Go.Ax
theorem Dh {α:Type}{l:List α}{i:Nat}{c:α}{r:List α}(h:l.drop i=c::r):l[i]? =some c∧l.drop (i+1)=r∧i<l.length:=by
 have h1:l[i]? =some c:=by
  have:(l.drop i)[0]? =some c:=by rw[h]; rfl
  simpa using this
 exact⟨h1,by rw[←List.drop_drop,h]; rfl,(List.getElem?_eq_some_iff.1 h1).1⟩
theorem EI {i:Nat}(h:i≤1000000):w64 ((i:Int)+1)=((i+1:Nat):Int):=by rw[AF (by omega) (by omega)]; omega
def HF (c:UInt8):Bool:=decide (33≤c.toNat)&&decide (c.toNat≤126)
def Y0 (l:List UInt8):Bool:=decide (1≤l.length)&&decide (l.length≤64)&&l.all HF
theorem SO {s:ByteArray}(hs:s.size≤100000): ∀(r:List UInt8) (i n:Nat),(toL s).drop i=r→r.length<n→∃(z:Nat),iter (Am s true) n i=some (if r.all HF=true then .inl z else .inr (z:Int))
 |r,i,0,_,h=>by omega
 | [],i,n+1,h,_=>by
  have hl:(toL s).length≤i:=List.drop_eq_nil_iff.1 h;have hz:(toL s).length=s.size:=AK s;have e:Am s true i=some (.inr (.inl i)):=by
   unfold Am;rw[if_neg (by omega)]
  refine⟨i,?_⟩;show Ab (Am s true i) _=_;rw[e]; rfl
 |c::r,i,n+1,h,hn=>by
  obtain⟨hc,hr,hlt⟩:=Dh h;have hz:(toL s).length=s.size:=AK s;obtain⟨z,ih⟩:=SO hs r (i+1) n hr (by rw[List.length_cons]at hn; omega);have e:Am s true i=some (if HF c=true then .inl (i+1)else .inr (.inr (i:Int))):=by
   unfold Am Fu;rw[if_pos (show i<s.size from by omega),Ao,Ao,oZ0];unfold HF;by_cases hb:c.toNat<128
   ·rw[YE hc hb];have ec:(decide (((c.toNat:Nat):Int)≤32)||decide (((c.toNat:Nat):Int)>126))= !(decide (33≤c.toNat)&&decide (c.toNat≤126)):=by
     rw[Bool.eq_iff_iff];simp only[Bool.or_eq_true,Bool.not_eq_true',Bool.and_eq_false_iff,decide_eq_true_eq,decide_eq_false_iff_not];omega
    rw[ec];cases decide (33≤c.toNat)&&decide (c.toNat≤126)<;>rfl
   ·have hd:=YF hc hb;generalize Utf8.decode s i=q at hd;rw[decide_eq_true (show((q.1:Nat):Int)>126 from by omega),Bool.or_true,decide_eq_false (show¬c.toNat≤126 from by omega),Bool.and_false];rfl
  rw[List.all_cons];cases hp:HF c with
  |false=>
   refine⟨i,?_⟩;show Ab (Am s true i) _=_;rw[e,hp]; rfl
  |true=>
   refine⟨z,?_⟩;show Ab (Am s true i) _=_;rw[e,hp,if_pos rfl,Bool.true_and];exact ih
theorem WQ (s:ByteArray):textV s=Y0 (toL s):=by
 have e:=Rj s;have hz:(toL s).length=s.size:=AK s;unfold CH at e;have e0:(!eqS s (⟨#[]⟩:ByteArray))=decide (1≤(toL s).length):=by
  show(!((toL s)== []))=_;cases toL s with
  |nil=>rfl
  |cons a l=>rw[decide_eq_true (by rw[List.length_cons]; omega)]; rfl
 have e1:decide ((s.size:Int)≤64)=decide ((toL s).length≤64):=by rw[decide_eq_decide]; omega
 rw[e0,e1]at e;unfold Y0;by_cases h:(toL s).length≤64
 ·obtain⟨z,hl⟩:=SO (s:=s) (by omega) (toL s) 0 Bv rfl (by have:=AJ; omega);have ec:Bd s=some (!((toL s).all HF)):=by
   unfold Bd B3 BE;rw[hl];cases (toL s).all HF with
   |true=>rfl
   |false=>
    show some (decide ((z:Int)≥0))=_;rw[decide_eq_true (by omega)]; rfl
  rw[ec]at e;cases hd:decide (1≤(toL s).length)&&decide ((toL s).length≤64)with
  |false=>rw[hd]at e; exact(sI0 e).symm
  |true=>
   rw[hd,Lg,oZ0,Ao,Bool.not_not]at e;exact(sI0 e).symm
 ·rw[decide_eq_false h,Bool.and_false]at e⊢;exact(sI0 e).symm
theorem Mm {s:ByteArray}(hs:s.size≤100000): ∀(r:List UInt8) (i n:Nat),(toL s).drop i=r→r.length<n→iter (BK s) n (i:Int)=some (if r.all HF=true then .inl ()else .inr false)
 |r,i,0,_,h=>by omega
 | [],i,n+1,h,_=>by
  have hl:(toL s).length≤i:=List.drop_eq_nil_iff.1 h;have hz:(toL s).length=s.size:=AK s;have e:BK s (i:Int)=some (.inr (.inl ())):=by
   unfold BK;rw[decide_eq_false (by omega)];rfl
  show Ab (BK s (i:Int)) _=_;rw[e]; rfl
 |c::r,i,n+1,h,hn=>by
  obtain⟨hc,hr,hlt⟩:=Dh h;have hz:(toL s).length=s.size:=AK s;have ih:=Mm hs r (i+1) n hr (by rw[List.length_cons]at hn; omega);have e:BK s (i:Int)=some (if HF c=true then .inl ((i+1:Nat):Int)else .inr (.inr false)):=by
   unfold BK;rw[decide_eq_true (by omega),if_pos rfl,show idx s.data.toList (i:Int)=some c from Ce hc,oZ0,EI (by omega)];unfold HF;have e33:decide ((c.toNat:Int)<33)= !decide (33≤c.toNat):=by rw[←decide_not,decide_eq_decide]; omega
   have e126:decide ((c.toNat:Int)>126)= !decide (c.toNat≤126):=by rw[←decide_not,decide_eq_decide]; omega
   rw[e33];cases decide (33≤c.toNat)with
   |false=>rfl
   |true=>
    rw[show gu (!(!true)) (some c)=some c from rfl,oZ0,e126];cases decide (c.toNat≤126)<;>rfl
  show Ab (BK s (i:Int)) _=_;rw[e,List.all_cons];cases HF c with
  |false=>rfl
  |true=>rw[if_pos rfl,Bool.true_and]; exact ih
theorem P8 {s:ByteArray}(hs:s.size≤100000):EY s=some (textV s):=by
 have hz:(toL s).length=s.size:=AK s;have hl:=Mm hs (toL s) 0 Bv rfl (by have:=AJ; omega);have hl:iter (BK s) Bv 0=some (if(toL s).all HF=true then .inl ()else .inr false):=hl;rw[WQ];unfold EY Y0;rw[hl];have e1:decide ((s.size:Int)≥1)=decide (1≤(toL s).length):=by rw[decide_eq_decide]; omega
 have e2:decide ((s.size:Int)≤64)=decide ((toL s).length≤64):=by rw[decide_eq_decide]; omega
 cases (toL s).all HF with
 |true=>
  show some (decide ((s.size:Int)≥1)&&decide ((s.size:Int)≤64))=_;rw[e1,e2,Bool.and_true]
 |false=>rw[Bool.and_false]; rfl
def VA:List ByteArray→List ByteArray→Bool
 |_,[]=>true
 |met,s::l=> !(met.any (eqS s))&&VA (met++[s]) l
theorem ME (right:ByteArray→Int): ∀(l met:List ByteArray),Jo right met l=(l.all (fun s=>right s==0)&&VA met l)
 | [],_=>rfl
 |s::l,met=>by
  show(!(met.any (eqS s))&&right s==0&&Jo right (met++[s]) l)=((right s==0&&l.all (fun s=>right s==0))&&(!(met.any (eqS s))&&VA (met++[s]) l));rw[ME right l];cases met.any (eqS s)<;>cases right s==0<;>cases l.all (fun s=>right s==0)<;>rfl
theorem XL (a b:ByteArray):eqS a b=eqS b a:=by
 rw[Bool.eq_iff_iff,Ia,Ia];exact eq_comm
theorem X5 {l:List ByteArray}{i:Nat}{x:ByteArray}(hx:l[i]? =some x)(hi:i≤100000): ∀(r:List ByteArray) (k n:Nat),(l.take i).drop k=r→k≤i→r.length<n→iter (Be l (i:Int)) n (k:Int)=some (if r.any (eqS x)=true then .inr false else .inl ())
 |r,k,0,_,_,h=>by omega
 | [],k,n+1,h,hk,_=>by
  have hl:i<l.length:=(List.getElem?_eq_some_iff.1 hx).1;have h2:=List.drop_eq_nil_iff.1 h;rw[List.length_take]at h2;have e:Be l (i:Int) (k:Int)=some (.inr (.inl ())):=by
   unfold Be;rw[decide_eq_false (by omega)];rfl
  show Ab (Be l (i:Int) (k:Int)) _=_;rw[e]; rfl
 |c::r,k,n+1,h,hk,hn=>by
  have hl:i<l.length:=(List.getElem?_eq_some_iff.1 hx).1;obtain⟨hc,hr,hlt⟩:=Dh h;rw[List.length_take]at hlt;have hc':l[k]? =some c:=by
   rw[List.getElem?_take]at hc;rw[if_pos (by omega)]at hc;exact hc
  have ih:=X5 hx hi r (k+1) n hr (by omega) (by rw[List.length_cons]at hn; omega);have e:Be l (i:Int) (k:Int)=some (if eqS x c=true then .inr (.inr false)else .inl ((k+1:Nat):Int)):=by
   unfold Be;rw[decide_eq_true (by omega),if_pos rfl,Ce hc',oZ0,Ce hx,oZ0,EI (by omega),XL c x];cases eqS x c<;>rfl
  show Ab (Be l (i:Int) (k:Int)) _=_;rw[e,List.any_cons];cases eqS x c with
  |true=>rfl
  |false=>rw[if_neg (by decide),Bool.false_or]; exact ih
theorem Us {l:List ByteArray}(hz:l.length≤100000): ∀(r:List ByteArray) (i n:Nat),l.drop i=r→r.length<n→iter (Bf l) n (i:Int)=some (if VA (l.take i) r=true then .inl ()else .inr false)
 |r,i,0,_,h=>by omega
 | [],i,n+1,h,_=>by
  have hl:l.length≤i:=List.drop_eq_nil_iff.1 h;have e:Bf l (i:Int)=some (.inr (.inl ())):=by
   unfold Bf;rw[decide_eq_false (by omega)];rfl
  show Ab (Bf l (i:Int)) _=_;rw[e]; rfl
 |c::r,i,n+1,h,hn=>by
  obtain⟨hc,hr,hlt⟩:=Dh h;have ih:=Us hz r (i+1) n hr (by rw[List.length_cons]at hn; omega);have hin:=X5 hc (by omega) (l.take i) 0 Bv rfl (by omega) (by have:=AJ; rw[List.length_take]; omega);have hin:iter (Be l (i:Int)) Bv 0=some (if(l.take i).any (eqS c)=true then .inr false else .inl ()):=hin;have e:Bf l (i:Int)=some (if(l.take i).any (eqS c)=true then .inr (.inr false)else .inl ((i+1:Nat):Int)):=by
   unfold Bf;rw[decide_eq_true (by omega),if_pos rfl,hin,oZ0,EI (by omega)];cases (l.take i).any (eqS c)<;>rfl
  have ht:l.take (i+1)=l.take i++[c]:=by rw[List.take_add_one,hc]; rfl
  show Ab (Bf l (i:Int)) _=_;rw[e];show _=some (if(!((l.take i).any (eqS c))&&VA (l.take i++[c]) r)=true then _ else _);cases (l.take i).any (eqS c)with
  |true=>rfl
  |false=>
   rw[if_neg (by decide),←ht];exact ih
theorem P2 {l:List ByteArray}(hz:l.length≤100000):DB l=some (VA [] l):=by
 have h:=Us hz l 0 Bv rfl (by have:=AJ; omega);have h:iter (Bf l) Bv 0=some (if VA [] l=true then .inl ()else .inr false):=h;unfold DB;rw[h];cases VA [] l<;>rfl
structure FewP (c:Ac):Prop where
 issuer:c.Issuer.size≤100000
 subject:c.Subject.size≤100000
 names: ∀s∈c.Names,s.size≤100000
 nnames:c.Names.length≤100000
 permit: ∀s∈c.Permit,s.size≤100000
 npermit:c.Permit.length≤100000
 nproms:c.Proms.length≤100000
end Go.Proofs.YtlnbckkkapbdmaaGreatDoor
end
section
namespace Go.Proofs.YtlnbckkkapbdmaaGreatDoor
open Go Go.Gw Go.Ax
def Nl (a:UInt8)(rest:Int):Bool:=(rest==0&&decide (a.toNat<128))||(rest== -1&&decide (128≤a.toNat))
theorem Xm (a:UInt8)(l:List UInt8)(rest:Int)(hl:l.length≤100):CZ (a::l,rest)=some (if Nl a rest=true then .inr (a::l)else .inl (toB rest::a::l,rest/256)):=by
 unfold CZ Nl;show Ab (gu (rest==0) (idx (a::l) 0)) _=_;rw[show idx (a::l) 0=some a from rfl];have e1:decide ((a.toNat:Int)<128)=decide (a.toNat<128):=by rw[decide_eq_decide]; omega
 have e2:decide ((a.toNat:Int)≥128)=decide (128≤a.toNat):=by rw[decide_eq_decide]; omega
 have ea:app 1 ([toB rest]:List UInt8) (a::l)=some (toB rest::a::l):=by
  rw[Fa 1 (by simp only[List.length_cons,List.length_nil]; omega) (by simp only[List.length_cons,List.length_nil]; omega)]; rfl
 cases h0:rest==0 with
 |true=>
  have hr:rest=0:=by simpa using h0
  have h1:(rest== -1)=false:=by rw[hr]; rfl
  rw[Lg,oZ0,h1];show Ab (gu ((!(true&&decide ((a.toNat:Int)<128)))&&false) (some a)) _=_;rw[Bool.and_false,VV,oZ0,e1];cases decide (a.toNat<128)with
  |true=>rfl
  |false=>
   show Ab (app 1 ([toB rest]:List UInt8) (a::l)) _=_;rw[ea,oZ0,Mr];rfl
 |false=>
  rw[VV,oZ0];show Ab (gu ((!(false&&_))&&(rest== -1)) (some a)) _=_;cases h1:rest== -1 with
  |true=>
   show Ab (some a) _=_;rw[oZ0,e2];cases decide (128≤a.toNat)with
   |true=>rfl
   |false=>
    show Ab (app 1 ([toB rest]:List UInt8) (a::l)) _=_;rw[ea,oZ0,Mr];rfl
  |false=>
   show Ab (some default) _=_;rw[oZ0];show Ab (app 1 ([toB rest]:List UInt8) (a::l)) _=_;rw[ea,oZ0,Mr];rfl
theorem UG {a:UInt8}{l:List UInt8}{rest:Int}(h:Nl a rest=true):P9 (a::l)=Nj rest (a::l):=by
 show Nj (s8 a) l=Nj (rest*256+(a.toNat:Int)) l;congr 1;have ha:=a.toNat_lt;unfold Nl at h;simp only[Bool.or_eq_true,Bool.and_eq_true,beq_iff_eq,decide_eq_true_eq]at h;unfold s8;rcases h with ⟨h1,h2⟩|⟨h1,h2⟩
 ·rw[if_pos h2,h1]; omega
 ·rw[if_neg (by omega),h1]; omega
theorem TB {a c:UInt8}{l:List UInt8}{rest:Int}(hl:l.length≤6)(h:Nl a rest=true)(hp:Nl c (rest*256+(a.toNat:Int))=false):E4 (a::c::l)=true:=by
 cases hq:E4 (a::c::l)with
 |true=>rfl
 |false=>
  have hs:=(Qw hl).1 hq;have ha:=a.toNat_lt;exfalso;unfold Nl at h hp;simp only[Bool.or_eq_true,Bool.and_eq_true,beq_iff_eq,decide_eq_true_eq]at h;simp only[Bool.or_eq_false_iff,Bool.and_eq_false_iff,beq_eq_false_iff_ne,decide_eq_false_iff_not]at hp;by_cases hc:c.toNat<128
  ·rw[if_pos hc]at hs;omega
  ·rw[if_neg hc]at hs;omega
theorem SY: ∀(k:Nat) (a:UInt8) (l:List UInt8) (rest n:Int) (f:Nat),(a::l).length+k=8→k<f→ -(128*256^k)≤rest*256+(a.toNat:Int)→rest*256+(a.toNat:Int)<128*256^k→
  Nj rest (a::l)=n→(∀c r,l=c::r→Nl c (rest*256+(a.toNat:Int))=false)→iter CZ f (a::l,rest)=some (P3 (be8 n))
 |k,a,l,rest,n,0,_,h,_,_,_,_=>by omega
 |k,a,l,rest,n,f+1,hk,hf,h0,h1,hv,hp=>by
  have hlen:l.length+1+k=8:=by simpa using hk
  show Ab (CZ (a::l,rest)) _=_;rw[Xm a l rest (by omega)];cases hs:Nl a rest with
  |true=>
   have hl:E4 (a::l)=true:=by
    cases l with
    |nil=>rfl
    |cons c r=>exact TB (by rw[List.length_cons]at hlen; omega) hs (hp c r rfl)
   have:=SX hl;rw[UG hs,hv]at this;rw[this];rfl
  |false=>
   rw[if_neg (by decide)];cases k with
   |zero=>
    exfalso;have ha:=a.toNat_lt;rw[Int.pow_zero]at h0 h1;unfold Nl at hs;simp only[Bool.or_eq_false_iff,Bool.and_eq_false_iff,beq_eq_false_iff_ne,decide_eq_false_iff_not]at hs;omega
   |succ k=>
    have hb:=Is rest;have hq:rest/256*256+((toB rest).toNat:Int)=rest:=by omega
    have ha:=a.toNat_lt;rw[Int.pow_succ]at h0 h1;refine SY k (toB rest) (a::l) (rest/256) n f (by simp only[List.length_cons]; omega) (by omega) ?_ ?_ ?_ ?_
    ·rw[hq]; omega
    ·rw[hq]; omega
    ·show Nj (rest/256*256+((toB rest).toNat:Int)) (a::l)=n;rw[hq]; exact hv
    ·intro c r e;cases e;rw[hq]; exact hs
theorem H7 {n:Int}(h0: -9223372036854775808≤n)(h1:n≤9223372036854775807):Cc n=some (J2 n):=by
 have hb:=Is n;have hq:n/256*256+((toB n).toNat:Int)=n:=by omega
 have e:=SY 7 (toB n) [] (n/256) n Bv (by simp) (by have:=AJ; omega) (by rw[hq]; show-(128*72057594037927936)≤n; omega) (by rw[hq]; show n<128*72057594037927936; omega) (by show n/256*256+((toB n).toNat:Int)=n; exact hq) (fun c r e=>by cases e);unfold Cc;rw[Mr,e];rfl
theorem Pw (x:UInt64):Cc (w64 (x.toNat:Int))=some (I7 x):=by
 have:=w64_le (x.toNat:Int);have h2: -9223372036854775808≤w64 (x.toNat:Int):=by unfold w64; omega
 exact H7 h2 (by omega)
theorem Lu {l:List g_api_Item}(h:l.length≤1000000):D8 l=some (Nm l):=by
 unfold D8;rw[Hs 56 (by omega) (by omega)]; rfl
theorem Y3 {l:List g_api_Item}(h:l.length≤1000000):Fl l=some (Nm l):=by
 unfold Fl;rw[Hs 56 (by omega) (by omega)]; rfl
theorem Mn {s:ByteArray}(h:s.size≤1000000):D7 s=some (Et s):=by
 unfold D7;rw[Hs 1 (by rw[AK]; omega) (by rw[AK]; omega)]; rfl
theorem Wo (v:Bool):Hg v=some (MR v):=by cases v<;>rfl
theorem KP {l:List ByteArray}(hz: ∀s∈l,s.size≤100000)(hn:l.length≤100000): ∀(r:List ByteArray) (i f:Nat) (o:List g_api_Item),l.drop i=r→r.length<f→o.length≤i→iter (Bb l) f ((i:Int),o)=some (o++r.map Et)
 |r,i,0,o,_,h,_=>by omega
 | [],i,f+1,o,h,_,_=>by
  have hl:l.length≤i:=List.drop_eq_nil_iff.1 h;have e:Bb l ((i:Int),o)=some (.inr o):=by
   unfold Bb;show(if decide ((i:Int)<(l.length:Int))=true then _ else _)=_;rw[decide_eq_false (by omega)];rfl
  show Ab (Bb l ((i:Int),o)) _=_;rw[e];simp
 |s::r,i,f+1,o,h,hf,ho=>by
  obtain⟨hc,hr,hlt⟩:=Dh h;have e:Bb l ((i:Int),o)=some (.inl (((i+1:Nat):Int),o++[Et s])):=by
   unfold Bb;show(if decide ((i:Int)<(l.length:Int))=true then _ else _)=_;rw[decide_eq_true (by omega),if_pos rfl];show Ab (idx l (i:Int)) _=_;rw[Ce hc,oZ0,Mn (by have:=hz s (List.mem_of_getElem? hc); omega),oZ0];show Ab (app 56 o [Et s]) _=_;rw[Fa 56 (by show(o.length+1)*56≤_; omega) (by show o.length+1≤_; omega),oZ0,EI (by omega)]
  show Ab (Bb l ((i:Int),o)) _=_;rw[e];show iter (Bb l) f (((i+1:Nat):Int),o++[Et s])=_;rw[KP hz hn r (i+1) f (o++[Et s]) hr (by rw[List.length_cons]at hf; omega) (by rw[List.length_append]; show o.length+1≤_; omega)];simp
theorem NH {l:List ByteArray}(hz: ∀s∈l,s.size≤100000)(hn:l.length≤100000):Ej l=some (F8 l):=by
 have h:=KP hz hn l 0 Bv [] rfl (by have:=AJ; omega) (by simp);have h:iter (Bb l) Bv (0,[])=some (l.map Et):=h;unfold Ej;rw[h];rfl
structure Fits (c:Ac):Prop where
 few:FewP c
 serial: -9223372036854775808≤c.Serial∧c.Serial≤9223372036854775807
 frm: -9223372036854775808≤c.From∧c.From≤9223372036854775807
 til: -9223372036854775808≤c.Until∧c.Until≤9223372036854775807
 depth: -9223372036854775808≤c.Depth∧c.Depth≤9223372036854775807
 proms: ∀p∈c.Proms,(-9223372036854775808≤p.Log∧p.Log≤9223372036854775807)∧(-9223372036854775808≤p.At∧p.At≤9223372036854775807)
theorem W3 {c:Ac}(h:Fits c):GZ c=some (SJ c):=by
 have k:=h.few;have k1:=k.issuer; have k2:=k.subject; have k3:=k.nnames; have k4:=k.npermit;unfold GZ;rw[H7 h.serial.1 h.serial.2,oZ0,Mn (s:=c.Issuer) (by omega),oZ0,Mn (s:=c.Subject) (by omega),oZ0,Pw,oZ0,NH (l:=c.Names) (fun s hs=>by have:=k.names s hs; omega) (by omega),oZ0,H7 h.frm.1 h.frm.2,oZ0,
  H7 h.til.1 h.til.2,oZ0,Wo,oZ0,H7 h.depth.1 h.depth.2,oZ0,NH (l:=c.Permit) (fun s hs=>by have:=k.permit s hs; omega) (by omega),oZ0,Lu (by simp),oZ0]
 rfl
theorem Ut (a b:UInt64):EK a b=some [I7 a,I7 b]:=by
 unfold EK;rw[Pw,oZ0,Pw,oZ0]
theorem MT {c:Ac}(h:Fits c): ∀(r:List g_api_Promise) (i f:Nat) (o:List g_api_Item),c.Proms.drop i=r→r.length<f→o.length≤i→iter (Bm c) f ((i:Int),o)=some (o++r.map HU)
 |r,i,0,o,_,h,_=>by omega
 | [],i,f+1,o,h,_,_=>by
  have hl:c.Proms.length≤i:=List.drop_eq_nil_iff.1 h;have e:Bm c ((i:Int),o)=some (.inr o):=by
   unfold Bm;show(if decide ((i:Int)<(c.Proms.length:Int))=true then _ else _)=_;rw[decide_eq_false (by omega)];rfl
  show Ab (Bm c ((i:Int),o)) _=_;rw[e];simp
 |p::r,i,f+1,o,hd,hf,ho=>by
  obtain⟨hc,hr,hlt⟩:=Dh hd;have hp:=h.proms p (List.mem_of_getElem? hc);have hn:=h.few.nproms;have e:Bm c ((i:Int),o)=some (.inl (((i+1:Nat):Int),o++[HU p])):=by
   unfold Bm;show(if decide ((i:Int)<(c.Proms.length:Int))=true then _ else _)=_;rw[decide_eq_true (by omega),if_pos rfl];show Ab (idx c.Proms (i:Int)) _=_;rw[Ce hc,oZ0,H7 hp.1.1 hp.1.2,oZ0,H7 hp.2.1 hp.2.2,oZ0,Y3 (by simp),oZ0,Ut,oZ0];show Ab (app 56 [J2 p.Log,J2 p.At] [I7 p.Leaf.1,I7 p.Leaf.2]) _=_;rw[Fa 56 (by simp) (by simp),oZ0,Ut,oZ0,Fa 56 (by simp) (by simp),oZ0];show Ab (app 56 o [HU p]) _=_;rw[Fa 56 (by show(o.length+1)*56≤_; omega) (by show o.length+1≤_; omega),oZ0,EI (by omega)]
  show Ab (Bm c ((i:Int),o)) _=_;rw[e];show iter (Bm c) f (((i+1:Nat):Int),o++[HU p])=_;rw[MT h r (i+1) f (o++[HU p]) hr (by rw[List.length_cons]at hf; omega) (by rw[List.length_append]; show o.length+1≤_; omega)];simp
theorem Wr {c:Ac}(h:Fits c):Gd c=some (Kc c):=by
 have hn:=h.few.nproms;have hl:=MT h c.Proms 0 Bv [] rfl (by have:=AJ; omega) (by simp);have hl:iter (Bm c) Bv (0,[])=some (c.Proms.map HU):=hl;unfold Gd;rw[hl,oZ0,oZ0,W3 h,oZ0,Lu (by simp),oZ0];rfl
theorem Tt {c:Ac}(h:Fits c):Fi c=some (wholeI c):=by
 unfold Fi;rw[Wr h,oZ0,Ut,oZ0,Lu (by simp),oZ0,Lu (by simp),oZ0];rfl
end Go.Proofs.YtlnbckkkapbdmaaGreatDoor
end
section
namespace Go.Proofs.YtlnbckkkapbdmaaGreatDoor
open Go Go.Gw Go.Ax
theorem JU (n:Int):DY n=some (numB n):=rfl
theorem SU (a b:UInt64)(n:Nat):decide ((NO a b).toNat<n)=(decide (a.toNat<n)&&decide (b.toNat<n)):=by
 rw[Bool.eq_iff_iff,Bool.and_eq_true,decide_eq_true_eq,decide_eq_true_eq,decide_eq_true_eq];unfold NO;by_cases hc:b>a
 ·rw[if_pos hc];have:=UInt64.lt_iff_toNat_lt.1 hc;omega
 ·rw[if_neg hc];have: ¬a.toNat<b.toNat:=fun x=>hc (UInt64.lt_iff_toNat_lt.2 x);omega
theorem O7 (x:UInt64)(n:Nat):decide ((x.toNat:Int)<(n:Int))=decide (x.toNat<n):=by rw[decide_eq_decide]; omega
theorem Sx (s:g_api_Sig):DC s=some (sigB s):=by
 have e1:decide ((s.E.toNat:Int)<1152921504606845789)=decide (s.E.toNat<1152921504606845789):=O7 s.E 1152921504606845789;have e2:decide ((s.S.toNat:Int)<1152921504606845789)=decide (s.S.toNat<1152921504606845789):=O7 s.S 1152921504606845789;unfold DC sigB;rw[Ao,SU,e1,e2]
theorem Vm (p:g_api_Promise):D1 p=some (promB p):=by
 have e1:decide ((p.Leaf.1.toNat:Int)<2305843009213693951)=decide (p.Leaf.1.toNat<2305843009213693951):=O7 p.Leaf.1 2305843009213693951;have e2:decide ((p.Leaf.2.toNat:Int)<2305843009213693951)=decide (p.Leaf.2.toNat<2305843009213693951):=O7 p.Leaf.2 2305843009213693951;unfold D1 promB;rw[JU,oZ0,JU,Ph,oZ0,Sx,Ph,oZ0,Ao,SU,e1,e2];cases numB p.Log<;>cases numB p.At<;>cases decide (p.Leaf.1.toNat<2305843009213693951)<;>cases decide (p.Leaf.2.toNat<2305843009213693951)<;>cases sigB p.Sig<;>rfl
theorem KU {c:Ac}(hz: ∀s∈c.Names,s.size≤100000)(hn:c.Names.length≤100000): ∀(r:List ByteArray) (i f:Nat),c.Names.drop i=r→r.length<f→iter (BI c) f (i:Int)=some (if r.all (fun s=>nameV s==0)=true then .inl ()else .inr false)
 |r,i,0,_,h=>by omega
 | [],i,f+1,h,_=>by
  have hl:c.Names.length≤i:=List.drop_eq_nil_iff.1 h;have e:BI c (i:Int)=some (.inr (.inl ())):=by
   unfold BI;rw[decide_eq_false (by omega)];rfl
  show Ab (BI c (i:Int)) _=_;rw[e]; rfl
 |s::r,i,f+1,h,hf=>by
  obtain⟨hc,hr,hlt⟩:=Dh h;have ih:=KU hz hn r (i+1) f hr (by rw[List.length_cons]at hf; omega);have e:BI c (i:Int)=some (if(nameV s==0)=true then .inl ((i+1:Nat):Int)else .inr (.inr false)):=by
   unfold BI;rw[decide_eq_true (by omega),if_pos rfl,Ce hc,oZ0,XY (hz s (List.mem_of_getElem? hc)),oZ0,EI (by omega)];cases nameV s==0<;>rfl
  show Ab (BI c (i:Int)) _=_;rw[e,List.all_cons];cases nameV s==0 with
  |false=>rfl
  |true=>rw[if_pos rfl,Bool.true_and]; exact ih
theorem JR {c:Ac}(hz: ∀s∈c.Permit,s.size≤100000)(hn:c.Permit.length≤100000): ∀(r:List ByteArray) (i f:Nat),c.Permit.drop i=r→r.length<f→iter (BH c) f (i:Int)=some (if r.all (fun s=>patV s==0)=true then .inl ()else .inr false)
 |r,i,0,_,h=>by omega
 | [],i,f+1,h,_=>by
  have hl:c.Permit.length≤i:=List.drop_eq_nil_iff.1 h;have e:BH c (i:Int)=some (.inr (.inl ())):=by
   unfold BH;rw[decide_eq_false (by omega)];rfl
  show Ab (BH c (i:Int)) _=_;rw[e]; rfl
 |s::r,i,f+1,h,hf=>by
  obtain⟨hc,hr,hlt⟩:=Dh h;have ih:=JR hz hn r (i+1) f hr (by rw[List.length_cons]at hf; omega);have e:BH c (i:Int)=some (if(patV s==0)=true then .inl ((i+1:Nat):Int)else .inr (.inr false)):=by
   unfold BH;rw[decide_eq_true (by omega),if_pos rfl,Ce hc,oZ0,QV (hz s (List.mem_of_getElem? hc)),oZ0,EI (by omega)];show(if(!(patV s==0))=true then _ else _)=_;cases patV s==0<;>rfl
  show Ab (BH c (i:Int)) _=_;rw[e,List.all_cons];cases patV s==0 with
  |false=>rfl
  |true=>rw[if_pos rfl,Bool.true_and]; exact ih
def Xj (c:Ac):Bool:=if c.Ca=true then textV c.Subject&&((c.Names.length:Int)==0)&&decide (c.Depth≥0)&&decide (c.Depth≤4)&&listV patV c.Permit 0 8 else eqS c.Subject (⟨#[]⟩:ByteArray)&&listV nameV c.Names 1 8&&(c.Depth==0)&&((c.Permit.length:Int)==0)
theorem VO {c:Ac}(h:FewP c):Gb c=some (Xj c):=by
 have h1:=h.nnames; have h2:=h.npermit; have h3:=h.subject;unfold Gb Xj;cases c.Ca with
 |false=>
  have hl:=KU (c:=c) (fun s hs=>by have:=h.names s hs; omega) (by omega) c.Names 0 Bv rfl (by have:=AJ; omega);have hl:iter (BI c) Bv 0=some (if c.Names.all (fun s=>nameV s==0)=true then .inl ()else .inr false):=hl;show(if(!false)=true then _ else _)=some (eqS c.Subject (⟨#[]⟩:ByteArray)&&(Jo nameV [] c.Names&&decide ((c.Names.length:Int)≥1)&&decide ((c.Names.length:Int)≤8))&&(c.Depth==0)&&((c.Permit.length:Int)==0));rw[if_pos (show(!false)=true from rfl),hl,P2 (by omega),ME];cases c.Names.all (fun s=>nameV s==0)with
  |false=>
   show some false=_;rw[Bool.false_and,Bool.false_and,Bool.false_and,Bool.and_false,Bool.false_and,Bool.false_and]
  |true=>
   rw[if_pos (show true=true from rfl),oZ0];show Ab (gu _ (some (VA [] c.Names))) _=_;rw[Ph,oZ0,Ao,Bool.true_and];cases eqS c.Subject (⟨#[]⟩:ByteArray)<;>cases decide ((c.Names.length:Int)≥1)<;>cases decide ((c.Names.length:Int)≤8)<;>cases VA [] c.Names<;>rfl
 |true=>
  have hl:=JR (c:=c) (fun s hs=>by have:=h.permit s hs; omega) (by omega) c.Permit 0 Bv rfl (by have:=AJ; omega);have hl:iter (BH c) Bv 0=some (if c.Permit.all (fun s=>patV s==0)=true then .inl ()else .inr false):=hl;show(if(!true)=true then _ else _)=some (textV c.Subject&&((c.Names.length:Int)==0)&&decide (c.Depth≥0)&&decide (c.Depth≤4)&&(Jo patV [] c.Permit&&decide ((c.Permit.length:Int)≥0)&&decide ((c.Permit.length:Int)≤8)));rw[if_neg (show¬(!true)=true from by decide),hl,P2 (by omega),P8 (by omega),ME,decide_eq_true (show(c.Permit.length:Int)≥0 from by omega)];cases c.Permit.all (fun s=>patV s==0)with
  |false=>
   show some false=_;rw[Bool.false_and,Bool.false_and,Bool.false_and,Bool.and_false]
  |true=>
   rw[if_pos (show true=true from rfl),oZ0];show Ab (some (textV c.Subject)) _=_;rw[oZ0,Ph,oZ0,Ao,Bool.true_and];cases textV c.Subject<;>cases ((c.Names.length:Int)==0)<;>cases decide (c.Depth≥0)<;>cases decide (c.Depth≤4)<;>cases decide ((c.Permit.length:Int)≤8)<;>cases VA [] c.Permit<;>rfl
theorem Vl {p:g_api_Promise}(h:promB p=true):0≤p.Log:=by
 unfold promB at h;simp only[Bool.and_eq_true]at h;have:=h.1.1.1;unfold numB at this;simp only[Bool.and_eq_true,decide_eq_true_eq]at this;omega
theorem KS {c:Ac}(hn:c.Proms.length≤100000): ∀(r:List g_api_Promise) (i f:Nat) (last:Int),c.Proms.drop i=r→r.length<f→(i=0→last= -1)→(1≤i→∃q,c.Proms[i-1]? =some q∧q.Log=last)→
  iter (BJ c) f (i:Int)=some (if promsB last r=true then .inl ()else .inr false)
 |r,i,0,last,_,h,_,_=>by omega
 | [],i,f+1,last,h,_,_,_=>by
  have hl:c.Proms.length≤i:=List.drop_eq_nil_iff.1 h;have e:BJ c (i:Int)=some (.inr (.inl ())):=by
   unfold BJ;rw[decide_eq_false (by omega)];rfl
  show Ab (BJ c (i:Int)) _=_;rw[e]; rfl
 |p::r,i,f+1,last,h,hf,l0,l1=>by
  obtain⟨hc,hr,hlt⟩:=Dh h;have ih:=KS hn r (i+1) f p.Log hr (by rw[List.length_cons]at hf; omega) (by omega) (fun _=>⟨p,hc,rfl⟩);have e:BJ c (i:Int)=some (if(promB p&& !(decide (p.Log≤last)))=true then .inl ((i+1:Nat):Int)else .inr (.inr false)):=by
   unfold BJ;rw[decide_eq_true (show(i:Int)<(c.Proms.length:Int)from by omega),if_pos rfl,Ce hc,oZ0,Vm,oZ0,EI (by omega)];cases hp:promB p with
   |false=>rfl
   |true=>
    by_cases h0:i=0
    ·have hl:=l0 h0;have hpl:=(Vl hp);rw[decide_eq_false (show¬(i:Int)>0 from by omega),decide_eq_false (show¬p.Log≤last from by omega)];rfl
    ·obtain⟨q,hq,hql⟩:=l1 (by omega);have hw:w64 ((i:Int)-1)=((i-1:Nat):Int):=by rw[AF (by omega) (by omega)]; omega
     rw[decide_eq_true (show(i:Int)>0 from by omega),hw,Ce hq];show Ab (some q) (fun x10=>Ab (some p) fun x11=>if((!true)||(true&&decide (x10.Log≥x11.Log)))=true then some (.inr (.inr false):Int⊕(Unit⊕Bool))else some (.inl ((i+1:Nat):Int)))=_;rw[oZ0,oZ0,hql];have:decide (last≥p.Log)=decide (p.Log≤last):=rfl;rw[this];cases decide (p.Log≤last)<;>rfl
  show Ab (BJ c (i:Int)) _=_;rw[e];show _=some (if(promB p&& !(decide (p.Log≤last))&&promsB p.Log r)=true then _ else _);cases promB p&& !(decide (p.Log≤last))with
  |false=>rfl
  |true=>rw[if_pos rfl,Bool.true_and]; exact ih
theorem V3 {c:Ac}(h:FewP c):Gc c=some (formB c):=by
 have h1:=h.issuer; have h2:=h.nproms;have hl:=KS (c:=c) (by omega) c.Proms 0 Bv (-1) rfl (by have:=AJ; omega) (fun _=>rfl) (fun h=>by omega);have hl:iter (BJ c) Bv 0=some (if promsB (-1) c.Proms=true then .inl ()else .inr false):=hl;have eF:formB c=(promsB (-1) c.Proms&&(numB c.Serial&&numB c.From&&numB c.Until&&decide (c.From<c.Until))&&
  (textV c.Issuer&&(!((c.Key.toNat:Int)==0))&&decide ((c.Key.toNat:Int)<2305843009213691579)&&decide ((c.Proms.length:Int)≤4)&&sigB c.Sig)&&Xj c):=rfl
 have e1:decide (c.From≥c.Until)= !decide (c.From<c.Until):=by rw[←decide_not,decide_eq_decide]; omega
 have e2:decide ((c.Key.toNat:Int)≥2305843009213691579)= !decide ((c.Key.toNat:Int)<2305843009213691579):=by rw[←decide_not,decide_eq_decide]; omega
 have e3:decide ((c.Proms.length:Int)>4)= !decide ((c.Proms.length:Int)≤4):=by rw[←decide_not,decide_eq_decide]; omega
 have e4:decide ((c.Key.toNat:Int)<1)=((c.Key.toNat:Int)==0):=by
  rw[Bool.eq_iff_iff,decide_eq_true_eq,beq_iff_eq]; omega
 rw[eF];unfold Gc;rw[JU,oZ0,JU,Ph,oZ0,JU,Ph,oZ0,P8 (by omega),Ph,oZ0,Sx,Ph,oZ0,hl,VO h,e1,e2,e3,e4];generalize numB c.Serial=a1;generalize numB c.From=a2;generalize numB c.Until=a3;generalize decide (c.From<c.Until)=a4;generalize textV c.Issuer=b1;generalize ((c.Key.toNat:Int)==0)=b2;generalize decide ((c.Key.toNat:Int)<2305843009213691579)=b3;generalize decide ((c.Proms.length:Int)≤4)=b4;generalize sigB c.Sig=b5;generalize Xj c=k;generalize promsB (-1) c.Proms=p;cases a1<;>cases a2<;>cases a3<;>cases a4<;>try (cases p<;>rfl)
 all_goals cases b1<;>cases b2<;>cases b3<;>cases b4<;>cases b5<;>cases p<;>try rfl
 all_goals cases k<;>rfl
end Go.Proofs.YtlnbckkkapbdmaaGreatDoor
end
