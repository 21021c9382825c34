/- Several texts, one behind the other. Conditions: none. -/
import Derived.Test.YtnhdojckpcbjeaaGreatDoorZo
import Derived.Test.YtnhdojckpcbjeaaGreatDoorZi
import Derived.Test.YtnhdojckpcbjeaaGreatDoorZj
import Derived.Test.YtnhdojckpcbjeaaGreatDoorZk
import Derived.Test.YtnhdojckpcbjeaaGreatDoorZl
import Derived.Test.YtnhdojckpcbjeaaGreatDoorZm
import Derived.KernelRfl
set_option linter.unusedSimpArgs false
set_option linter.unusedVariables false
set_option maxHeartbeats 20000000
set_option maxRecDepth 100000
section
namespace Go.Proofs.YtnhdojckpcbjeaaGreatDoor
open Go Go.Gw Go.Ax
def toL (s:ByteArray):List UInt8:=s.data.toList
theorem Vj {α:Type}(b:Nat){xs ys:List α}(h:(xs.length+ys.length)*b≤140737488355328)(h1:xs.length+ys.length≤140737488355328):app b xs ys=some (xs++ys):=by unfold app; rw[Ak3 ⟨h,h1⟩]
def AeP:List UInt8→Bool
 |a::b::r=>a==42&&b==46&&isB r 7 62
 |_=>false
theorem R4 {α:Type}{l:List α}{i:Nat}{c:α}{r:List α}(h:l.drop i=c::r):l[i]? =some c∧l.drop (i+1)=r∧i<l.length:=by
 have h1:l[i]? =some c:=by
  have:(l.drop i)[0]? =some c:=by rw[h]; rfl
  simpa using this
 exact⟨h1,by rw[←AlZ,h]; rfl,(Aln.1 h1).1⟩
theorem Aim {i:Nat}(h:i≤1000000):w64 ((i:Int)+1)=((i+1:Nat):Int):=by rw[G0 (by omega) (by omega)]; omega
structure FewP (c:g_api_Cert):Prop where
 issuer:c.Issuer.size≤100000
 subject:c.Subject.size≤100000
 names: ∀s∈c.Names,s.size≤100000
 nnames:c.Names.length≤100000
 permit: ∀s∈c.Permit,s.size≤100000
 npermit:c.Permit.length≤100000
 nproms:c.Proms.length≤100000
structure Fits (c:g_api_Cert):Prop where
 few:FewP c
 serial: -9223372036854775808≤c.Serial∧c.Serial≤9223372036854775807
 frm: -9223372036854775808≤c.From∧c.From≤9223372036854775807
 til: -9223372036854775808≤c.Until∧c.Until≤9223372036854775807
 depth: -9223372036854775808≤c.Depth∧c.Depth≤9223372036854775807
 proms: ∀p∈c.Proms,(-9223372036854775808≤p.Log∧p.Log≤9223372036854775807)∧(-9223372036854775808≤p.At∧p.At≤9223372036854775807)
theorem Aht: ∀{d:Nat} {x:g_api_Item},mayB d x=true→mayB (d+1) x=true
 |0,x,h=>by cases h
 |d+1,x,h=>by
  simp only[mayB,AkZ,Alj]at h;unfold mayB;simp only[AkZ,Alj];exact⟨h.1,fun y hy=>Aht (h.2 y hy)⟩
theorem Ahu {d e:Nat}{x:g_api_Item}(h:d≤e)(hm:mayB d x=true):mayB e x=true:=by
 induction h with
 |refl=>exact hm
 |step _ ih=>exact Aht ih
theorem AcD {d:Nat}{x y:g_api_Item}(h:mayB (d+1) x=true)(hy:y∈x.L):mayB d y=true:=by
 simp only[mayB,AkZ,Alj]at h;exact h.2 y hy
structure Nums (c:g_api_Cert):Prop where
 serial:0≤c.Serial∧c.Serial≤1099511627776
 frm:0≤c.From∧c.From≤1099511627776
 til:0≤c.Until∧c.Until≤1099511627776
 key:c.Key.toNat<2305843009213691579
 depth:0≤c.Depth∧c.Depth≤4
 sig:sigB c.Sig=true
 proms: ∀p∈c.Proms,promBC p=true
theorem Pq: ∀{d e:Nat} {x:g_api_Item},mayB d x=true→d≤e→putB e x=putB d x
 |0,e,x,h,_=>by cases h
 |d+1,0,x,_,h=>by omega
 |d+1,e+1,x,h,hd=>by
  have hf: ∀(l:List g_api_Item),(∀y∈l,mayB d y=true)→l.flatMap (putB e)=l.flatMap (putB d):=by
   intro l;induction l with
   |nil=>intro _; rfl
   |cons y l ih=>
    intro hl;rw[AlI,AlI,Pq (hl y Alk) (by omega),ih fun z hz=>hl z (Alo _ hz)]
  have:=hf x.L fun y hy=>AcD h hy;show toB x.Tag::(RD (x.B++x.L.flatMap (putB e)).length++(x.B++x.L.flatMap (putB e)))=toB x.Tag::(RD (x.B++x.L.flatMap (putB d)).length++(x.B++x.L.flatMap (putB d)));rw[this]
theorem AhI {d:Nat}{x y:g_api_Item}(h:mayB (d+1) x=true)(hd:d+1≤8)(hy:y∈x.L):(putB 8 y).length≤(putB 8 x).length:=by
 rw[Pq h hd,Pq (AcD h hy) (by omega)];have h1:=Zc (putB d) hy;show _≤(toB x.Tag::(RD (x.B++x.L.flatMap (putB d)).length++(x.B++x.L.flatMap (putB d)))).length;have e:(x.B++x.L.flatMap (putB d)).length=x.B.length+(x.L.flatMap (putB d)).length:=Ak5;rw[Ak8,Ak5,e];omega
theorem Rw {d:Nat}{l:List g_api_Item}(h: ∀y∈l,mayB d y=true):mayB (d+1) (Su l)=true:=by
 unfold mayB;simp only[AkZ,Alj];exact⟨⟨rfl,rfl⟩,h⟩
theorem AhH {d:Nat}{l:List g_api_Item}(h:mayB (d+1) (Su l)=true): ∀y∈l,mayB d y=true:=fun y hy=>AcD h hy
theorem may2 {d:Nat}{a b:g_api_Item}(ha:mayB d a=true)(hb:mayB d b=true):mayB (d+1) (Su [a,b])=true:=Rw (mem2 ha hb)
structure Okc (c:g_api_Cert):Prop where
 form:Form c
 fb:formB c=true
 may:mayB 8 (wholeI c)=true
 len:(putB 8 (wholeI c)).length≤2048
theorem okc {c:g_api_Cert}(h:checkV c=0):Okc c:=by
 unfold checkV at h;cases hf:formB c with
 |false=>rw[hf]at h; simp at h
 |true=>
  rw[hf,Ak3 rfl]at h;by_cases h2:mayB 8 (wholeI c)=true∧(putB 8 (wholeI c)).length≤2048
  ·exact⟨XS hf,hf,h2.1,h2.2⟩
  ·rw[Ak1 h2]at h; cases h
theorem Okc.chk {c:g_api_Cert}(h:Okc c):checkV c=0:=by
 unfold checkV;rw[h.fb,Ak3 rfl,Ak3 ⟨h.may,h.len⟩]
theorem UL {c:g_api_Cert}(h:Okc c):mayB 7 (OX c)=true:=AhH h.may _ (by simp)
theorem Ajt {c:g_api_Cert}(h:Okc c):mayB 6 (YJ c)=true:=AhH (UL h) _ (by simp)
def IM (c:g_api_Cert):List UInt8:=putB 8 (OX c)
def V0 (c:g_api_Cert):List UInt8:=putB 8 (YJ c)
theorem R2 {c:g_api_Cert}(h:Okc c):(IM c).length≤2048:=by
 have h1:=AhI (y:=OX c) h.may (by decide) (by show OX c∈[OX c,_]; simp);have h2:=h.len;show(putB 8 (OX c)).length≤_;omega
theorem Ahg {c:g_api_Cert}(h:Okc c):(V0 c).length≤2048:=by
 have h1:=AhI (y:=YJ c) (UL h) (by decide) (by show YJ c∈[YJ c,_]; simp);have h2:=R2 h;show(putB 8 (YJ c)).length≤_;have h3:(putB 8 (OX c)).length≤2048:=h2;omega
theorem Aee {x:g_api_Item}(h:mayB 8 x=true)(hl:(putB 8 x).length≤8192):JO x=some (putB 8 x,0):=by
 rw[Aic (by omega),Ak3 h,Ak3 hl]
theorem Zv {c:g_api_Cert}(h:Okc c):JT c=some (IM c,0):=by
 unfold JT Ic;have hl:=R2 h;rw[RY,h.chk,Aa,Ak1 (by decide),Zx h.form.sized,Aa,Aee (Ahu (by decide) (UL h)) (by show(IM c).length≤_; omega)];rfl
theorem Ad1 {c:g_api_Cert}(h:Okc c):Jo c=some (V0 c,0):=by
 unfold Jo Ie;have hl:=Ahg h;rw[RY,h.chk,Aa,Ak1 (by decide),Aca h.form.sized,Aa,Aee (Ahu (by decide) (Ajt h)) (by show(V0 c).length≤_; omega)];rfl
def Agj {α:Type}(f:Nat→α→Int):Nat→List α→Int
 |_,[]=>0
 |i,x::l=>if f i x=0 then Agj f (i+1) l else f i x
theorem Wm {α:Type}(f:Nat→α→Int): ∀(l:List α) (i:Nat),Agj f i l=0↔∀k x,l[k]? =some x→f (i+k) x=0
 | [],i=>by simp[Agj]
 |x::l,i=>by
  unfold Agj;have ih:=Wm f l (i+1);constructor
  ·intro h k y hy;by_cases h0:f i x=0
   ·rw[Ak3 h0]at h;cases k with
    |zero=>cases hy; exact h0
    |succ k=>
     have:=ih.1 h k y (by simpa using hy);rw[show i+(k+1)=i+1+k from by omega]; exact this
   ·rw[Ak1 h0]at h; exact absurd h h0
  ·intro h;have h0:f i x=0:=h 0 x rfl;rw[Ak3 h0];refine ih.2 fun k y hy=> ?_;rw[show i+1+k=i+(k+1)from by omega];exact h (k+1) y (by simpa using hy)
def fsO (e:Int):Unit⊕Int:=if e=0 then .inl ()else .inr e
theorem XR {e:Int}:(match fsO e with| .inr r=>some r| .inl _=>some 0:Option Int)=some e:=by
 unfold fsO;by_cases h:e=0
 ·rw[Ak3 h,h]
 ·rw[Ak1 h]
theorem RT {α:Type}{body:Int→α→Unit→Option (Unit⊕Int)}(f:Nat→α→Int): ∀(l:List α) (i:Nat),(∀k x,l[k]? =some x→body ((i+k:Nat):Int) x ()=some (fsO (f (i+k) x)))→DO body l (i:Int) ()=some (fsO (Agj f i l))
 | [],i,_=>rfl
 |x::l,i,h=>by
  have h0:=h 0 x rfl;show Ab (body (i:Int) x ()) _=_;rw[show body (i:Int) x ()=_ from h0];show _=some (fsO (if f i x=0 then _ else _));rw[Al8,Aa];by_cases hz:f i x=0
  ·rw[Ak3 hz,hz];refine RT f l (i+1) fun k y hy=> ?_;have:=h (k+1) y (by simpa using hy);rw[show i+1+k=i+(k+1)from by omega]; exact this
  ·rw[Ak1 hz];unfold fsO;rw[Ak1 hz]
theorem Wv {α:Type}{body:Int→Unit→Option (Unit⊕Int)}(f:Nat→α→Int)(l:List α)(h: ∀(k:Nat) (x:α),l[k]? =some x→body (k:Int) ()=some (fsO (f k x))): ∀(r:List α) (i:Nat),l.drop i=r→B7 body r.length (i:Int) ()=some (fsO (Agj f i r))
 | [],i,_=>rfl
 |x::r,i,hd=>by
  obtain⟨hc,hr,hlt⟩:=R4 hd;show Ab (body (i:Int) ()) _=_;rw[h i x hc];show _=some (fsO (if f i x=0 then _ else _));rw[Aa];by_cases hz:f i x=0
  ·rw[Ak3 hz,hz];exact Wv f l h r (i+1) hr
  ·rw[Ak1 hz];unfold fsO;rw[Ak1 hz]
theorem OS {α σ τ:Type}{body:Int→σ→Option (σ⊕τ)}(l:List α)(p:α→Bool)(s:σ)(g:Nat→τ)(h: ∀(k:Nat) (x:α),l[k]? =some x→body (k:Int) s=some (if p x=true then .inr (g k)else .inl s)):
  ∀(r:List α) (i:Nat),l.drop i=r→∃j,B7 body r.length (i:Int) s=some (if r.any p=true then .inr (g j)else .inl s)
 | [],i,_=>⟨0,rfl⟩
 |x::r,i,hd=>by
  obtain⟨hc,hr,hlt⟩:=R4 hd;show∃j,Ab (body (i:Int) s) _=_;rw[h i x hc,List.any_cons];cases hp:p x with
  |true=>exact⟨i,rfl⟩
  |false=>
   obtain⟨j,ih⟩:=OS l p s g h r (i+1) hr;exact⟨j,ih⟩
theorem nn0 {e:Int}(h:e=0): ¬(e≠0):=fun k=>k h
theorem MW (c:g_api_Cert):Ck c=some (checkV c):=RY c
theorem b3_eq (i:Int)(c:g_api_Cert):Ik i c ()=some (fsO (checkV c)):=by
 unfold Ik fsO;rw[MW,Aa];by_cases h:checkV c=0
 ·rw[Ak3 h,Ak1 (by simpa using h)]
 ·rw[Ak1 h,Ak3 (by simpa using h)]
def Aej (p:UInt64)(m:List UInt8)(s:g_api_Sig):Int:=(Ds p m s).getD 1
theorem sig_eq (p:UInt64){m:List UInt8}(s:g_api_Sig)(h:m.length≤600000):Ds p m s=some (Aej p m s):=by
 obtain⟨e,he⟩:=WD p s h;unfold Aej;rw[he]; rfl
def OO (a b:g_api_Cert):Int:=if checkV a≠0 then checkV a else if checkV b≠0 then checkV b else if((!b.Ca)||(!eqS a.Issuer b.Subject))=true then 191 else if Aej b.Key (IM a) a.Sig≠0 then 40 else 0
theorem Ahy (a b:g_api_Cert):JG a b=some (OO a b):=by
 have e1:DO Ik ([a,b]:List g_api_Cert) 0 ()=some (fsO (Agj (fun _ c=>checkV c) 0 [a,b])):=RT (fun _ c=>checkV c) [a,b] 0 fun k x _=>b3_eq _ x;unfold JG OO;rw[e1,Aa];show(match fsO (if checkV a=0 then(if checkV b=0 then 0 else checkV b)else checkV a)with| .inr r=>some r| .inl _=>_)=_;by_cases ha:checkV a=0
 ·rw[Ak3 ha,Ak1 (nn0 ha)];by_cases hb:checkV b=0
  ·rw[Ak3 hb,Ak1 (nn0 hb)];show(if((!b.Ca)||(!eqS a.Issuer b.Subject))=true then some 191 else _)=_;by_cases hc:((!b.Ca)||(!eqS a.Issuer b.Subject))=true
   ·rw[Ak3 hc,Ak3 hc]
   ·rw[Ak1 hc,Ak1 hc,Zv (okc ha),Aa];show Ab (Ds b.Key (IM a) a.Sig) _=_;rw[sig_eq _ _ (by have:=R2 (okc ha); omega),Aa];by_cases hs:Aej b.Key (IM a) a.Sig=0
    ·rw[Ak1 (show¬((Aej b.Key (IM a) a.Sig !=0)=true)from by simpa using hs),Ak1 (nn0 hs)]
    ·rw[Ak3 (show(Aej b.Key (IM a) a.Sig !=0)=true from by simpa using hs),Ak3 hs]
  ·rw[Ak1 hb,Ak3 hb];unfold fsO; rw[Ak1 hb]
 ·rw[Ak1 ha,Ak3 ha];unfold fsO; rw[Ak1 ha]
theorem Ac5 (s:ByteArray):Gj s=some (isB (toL s) 8 64):=by
 unfold Gj;rw[show CQ s 8 64=some (isB (toL s) 8 64)from Acy s 8 64 (by decide)];rfl
theorem Z7 (s:ByteArray): ∃o st,DL s=some (o,st,isB (toL s) 8 64||AeP (toL s))∧(isB (toL s) 8 64=true→o=s∧st=false)∧(isB (toL s) 8 64=false→AeP (toL s)=true→o=s.extract 2 s.size∧st=true):=by
 have hz:(toL s).length=s.size:=Co s;unfold DL;rw[Ac5,Aa];cases h1:isB (toL s) 8 64 with
 |true=>exact⟨s,false,rfl,fun _=>⟨rfl,rfl⟩,fun h=>(by cases h)⟩
 |false=>
  rw[Ak1 (by decide),AlU];unfold Cy Bt Bq;have e2:(((⟨#[42,46]⟩:ByteArray).size:Nat):Int)=2:=rfl;rw[e2];match hl:toL s with
  | []=>
   rw[hl,Alm]at hz;rw[AlG (show¬(s.size:Int)≥2 from by omega)];exact⟨_,_,rfl,fun h=>(by cases h),fun _ h=>(by cases h)⟩
  | [a]=>
   rw[hl,Ak8,Alm]at hz;rw[AlG (show¬(s.size:Int)≥2 from by omega)];exact⟨_,_,rfl,fun h=>(by cases h),fun _ h=>(by cases h)⟩
  |a::b::r=>
   rw[hl,Ak8,Ak8]at hz;have ec:U6 s 0 2=some (s.extract 0 2):=Io (by omega) (by omega) (by omega);have el:(s.extract 0 2).data.toList=[a,b]:=by
    rw[OR];show((toL s).take 2).drop 0=_;rw[hl]; rfl
   have ee:eqS (s.extract 0 2) (⟨#[42,46]⟩:ByteArray)=(a==42&&b==46):=by
    unfold eqS;rw[el,AlT];simp
   rw[All (show(s.size:Int)≥2 from by omega),Wk,ec,Aa,D2,ee,Aa];show∃o st,_=some (o,st,(a==42&&b==46&&isB r 7 62))∧_∧(_→(a==42&&b==46&&isB r 7 62)=true→_);cases a==42&&b==46 with
   |false=>exact⟨_,_,rfl,fun h=>(by cases h),fun _ h=>(by cases h)⟩
   |true=>
    have ec2:U6 s 2 (s.size:Int)=some (s.extract 2 s.size):=by
     rw[Io (by omega) (by omega) (by omega)]; rfl
    have el2:(s.extract 2 s.size).data.toList=r:=by
     rw[OR];show((toL s).take s.size).drop 2=_;rw[Alw (by rw[hl,Ak8,Ak8]; omega),hl]; rfl
    rw[show(true&&true)=true from rfl,Ak1 (by decide),ec2,Aa,Aa,Aa];have en:=Acy (s.extract 2 s.size) 7 62 (by decide);rw[el2]at en;have en:CQ (s.extract 2 s.size) 7 62=some (isB r 7 62):=en;show∃o st,Ab (gu true (CQ (s.extract 2 s.size) 7 62)) _=_∧_;rw[Wk,en,Aa];exact⟨_,_,rfl,fun h=>(by cases h),fun _ _=>⟨rfl,rfl⟩⟩
def upV (s:ByteArray):ByteArray:=(H8 s).getD ⟨#[]⟩
theorem AeH (s:ByteArray):H8 s=some (upV s)∧(upV s=⟨#[]⟩∨(isB (toL s) 8 64=true∧∃p,toL s=p++46::toL (upV s)∧(46:UInt8)∉p)):=by
 have key: ∃u,H8 s=some u∧(u=⟨#[]⟩∨(isB (toL s) 8 64=true∧∃p,toL s=p++46::toL u∧(46:UInt8)∉p)):=by
  unfold H8;rw[Ac5,Aa];cases h1:isB (toL s) 8 64 with
  |false=>exact⟨_,rfl,.inl rfl⟩
  |true=>
   have hz:(toL s).length=s.size:=Co s;have hs:s.size≤64:=by
    unfold isB at h1;simp only[AkZ,Ak7]at h1;have:=h1.1.1; omega
   have hx:A5 s (⟨#[46]⟩:ByteArray)=some (Ac1 s 46):=by
    have h:=Wi s (by omega);unfold Cp at h;cases q:A5 s (⟨#[46]⟩:ByteArray)with
    |none=>rw[q]at h; cases h
    |some v=>rw[q]at h; exact h
   rw[Ak1 (by decide)];unfold LB DX;rw[hx,Aa];rcases RJ s.data.toList 46 with ⟨h2,h3⟩|⟨p,r,h2,h3,h4⟩
   ·rw[show Ac1 s 46= -1 from h2,Ak1 (by decide)];exact⟨_,rfl,.inl rfl⟩
   ·have hl:s.size=p.length+1+r.length:=by rw[←Co,h2,Ak5,Ak8]; omega
    have e1:U6 s 0 (p.length:Int)=some (s.extract 0 p.length):=by
     rw[Io (by omega) (by omega) (by omega)]; rfl
    have e2:U6 s (w64 ((p.length:Int)+((⟨#[46]⟩:ByteArray).size:Int))) (s.size:Int)=some (s.extract (p.length+1) s.size):=by
     have:((⟨#[46]⟩:ByteArray).size:Int)=1:=rfl;rw[this,G0 (by omega) (by omega),Io (by omega) (by omega) (by omega)];rfl
    rw[show Ac1 s 46=(p.length:Int)from h4,Ak3 (by rw[Ak7]; omega),e1,Aa,e2,Aa,Aa,Aa];refine⟨_,rfl,.inr ⟨rfl,p,?_,h3⟩⟩;have l2:(s.extract (p.length+1) s.size).data.toList=r:=by
     rw[OR,←Co,List.take_length,h2];rw[←AlZ,List.drop_left]; rfl
    show s.data.toList=_;rw[show toL (s.extract (p.length+1) s.size)=r from l2]; exact h2
 obtain⟨u,h,h'⟩:=key;have e:upV s=u:=by unfold upV; rw[h]; rfl
 rw[e]; exact⟨h,h'⟩
theorem up_lt (s:ByteArray):upV s=⟨#[]⟩∨(upV s).size<s.size:=by
 rcases(AeH s).2 with h|⟨_,p,h,_⟩
 ·exact .inl h
 ·refine .inr ?_;rw[←Co,←Co s];show(toL (upV s)).length<(toL s).length;rw[h,Ak5,Ak8]; omega
theorem up_64 (s:ByteArray):(upV s).size≤64:=by
 rcases(AeH s).2 with h|⟨h1,p,h,_⟩
 ·rw[h]; exact Ama _
 ·unfold isB at h1;simp only[AkZ,Ak7]at h1;have:=h1.1.1;rw[h,Ak5,Ak8]at this;rw[←Co];show(toL (upV s)).length≤64;omega
def belF:Nat→ByteArray→ByteArray→Bool
 |0,_,_=>false
 |n+1,s,o=>if eqS s ⟨#[]⟩=true then false else if eqS s o=true then true else belF n (upV s) o
def belV (s o:ByteArray):Bool:=belF 100 (upV s) o
theorem Adv (s:ByteArray)(h: ¬eqS s ⟨#[]⟩=true):1≤s.size:=by
 rcases Nat.eq_zero_or_pos s.size with q|q
 ·refine absurd (PB.2 ?_) h;exact ByteArray.ext (Array.eq_empty_of_size_eq_zero q)
 ·exact q
theorem TE (o:ByteArray): ∀(n:Nat) (s:ByteArray),s.size<n→
  ∃z,iter (Fy (fun(s:(Bool)×Nat) (b0:ByteArray)=>if s.2=0 then Ab (E4 o b0 s) fun y=>some (y.2==0,y)else none)) n (s,(false,0))=some (z,if belF n s o=true then(true,1)else(false,0))
 |0,s,h=>by omega
 |n+1,s,h=>by
  show∃z,Ab (Fy _ (s,(false,0))) _=_;unfold Fy belF;by_cases h1:eqS s ⟨#[]⟩=true
  ·rw[h1];exact⟨s,rfl⟩
  ·have h1':eqS s ⟨#[]⟩=false:=by simpa using h1
   rw[h1'];unfold E4;by_cases h2:eqS s o=true
   ·refine⟨s,?_⟩;simp only[h2];rfl
   ·have h2':eqS s o=false:=by simpa using h2
    have hlt:(upV s).size<n:=by
     have:=Adv s h1;rcases up_lt s with q|q
     ·rw[q]; show 0<n; omega
     ·omega
    obtain⟨z,ih⟩:=TE o n (upV s) hlt;refine⟨z,?_⟩;simp only[h2',if_true,if_false,Bool.false_eq_true,Aa,(AeH s).1];exact ih
theorem AgN (s o:ByteArray):Gk s o=some (belV s o):=by
 obtain⟨z,h⟩:=TE o 100 (upV s) (by have:=up_64 s; omega);unfold Gk LD JH;rw[Aa,(AeH s).1,Aa,Gy 100 h (by decide),Aa,Aa];unfold belV;cases belF 100 (upV s) o<;>rfl
def matV (p s:ByteArray):Bool:=isB (toL s) 8 64&&(if isB (toL p) 8 64=true then eqS p s else AeP (toL p)&&belV s (p.extract 2 p.size))
theorem AfC (p s:ByteArray):I2 p s=some (matV p s):=by
 obtain⟨o,st,h,h1,h2⟩:=Z7 p;unfold I2 matV;rw[h,Aa,Ac5];cases q1:isB (toL p) 8 64 with
 |true=>
  obtain⟨rfl,rfl⟩:=h1 q1;rw[Bool.true_or];cases isB (toL s) 8 64<;>rfl
 |false=>
  rw[AlU];cases q2:AeP (toL p)with
  |false=>cases isB (toL s) 8 64<;>rfl
  |true=>
   obtain⟨rfl,rfl⟩:=h2 q1 q2;cases isB (toL s) 8 64 with
   |false=>rfl
   |true=>
    show Ab (Gk s _) _=_;rw[AgN]; rfl
theorem AfM {α:Type}{l:List α}(h:l≠[])(hs:l.length≤1000): ∃x,l.getLast? =some x∧idx l (w64 ((l.length:Int)-1))=some x:=by
 have h1:1≤l.length:=List.length_pos_iff.2 h;refine⟨l.getLast h,List.getLast?_eq_some_getLast h,?_⟩;rw[G0 (by omega) (by omega)];have e:(l.length:Int)-1=((l.length-1:Nat):Int):=by omega
 rw[e];refine Je ?_;rw[←List.getLast?_eq_getElem?,List.getLast?_eq_some_getLast h]
theorem AgA {α:Type}(a:α)(l:List α):cut (a::l) 1 ((a::l).length:Int)=some l:=by
 have h:=Akq [a] l;simpa using h
def timeB (c:g_api_Cert)(now:Int):Bool:=decide (c.From≤now)&&decide (c.Until>now)
theorem VL (t:g_path_trip)(c:g_api_Cert):Fw t c=some (timeB c t.now_):=rfl
def Ahw (c:g_api_Cert)(n:ByteArray):Bool:=c.Permit.any fun p=>matV p n
theorem Z3 (n:ByteArray)(c:g_api_Cert):E3 n c=some (!Ahw c n,c):=by
 obtain⟨j,h⟩:=OS (body:=Be c.Permit) c.Permit (fun p=>matV p n) n (fun k=>((k:Int),n)) (fun k x hx=>by
  unfold Be HA;rw[Je hx,Aa,AfC,Aa,Aa];cases matV x n<;>rfl) c.Permit 0 rfl
 have h:B7 (Be c.Permit) c.Permit.length 0 n=_:=h;unfold E3 BW Cb Ahw;rw[h,Aa];cases c.Permit.any fun p=>matV p n with
 |true=>
  show some (!decide ((j:Int)≥0),c)=_;rw[All (by omega)]
 |false=>rfl
theorem SF (l:List ByteArray)(c:g_api_Cert):Bg l c=some (l.any fun n=> !Ahw c n,c):=by
 obtain⟨j,h⟩:=OS (body:=Bf l) l (fun n=> !Ahw c n) (c.Serial,c.Issuer,c.Subject,c.Key,c.Names,c.From,c.Until,c.Ca,c.Depth,c.Permit,c.Proms,c.Sig.E,c.Sig.S) (fun k=>((k:Int),c)) (fun k x hx=>by
  unfold Bf;rw[Je hx,Aa];show Ab (E3 x c) _=_;rw[Z3,Aa];cases Ahw c x<;>rfl) l 0 rfl
 have h:B7 (Bf l) l.length 0 (c.Serial,c.Issuer,c.Subject,c.Key,c.Names,c.From,c.Until,c.Ca,c.Depth,c.Permit,c.Proms,c.Sig.E,c.Sig.S)=_:=h;unfold Bg Cc;rw[h,Aa];cases l.any fun n=> !Ahw c n with
 |true=>
  show some (decide ((j:Int)≥0),c)=_;rw[All (by omega)]
 |false=>rfl
def Xz (names:List ByteArray)(i:Nat)(c:g_api_Cert):Int:=if c.Depth<(i:Int)then 191 else if 0<c.Permit.length∧(names.any fun n=> !Ahw c n)=true then 110 else 0
def byV (chain:List g_api_Cert)(now:Int)(root:g_api_Cert):Int:=
 match chain with
 | []=>1
 |leaf::more=>
  let e:=OO ((leaf::more).getLast (by simp)) root
  if e≠0 then e else if timeB root now=false then 190 else Agj (Xz leaf.Names) 0 (more++[root])
theorem by_eq (roots:List g_api_Cert)(leaf:g_api_Cert)(more:List g_api_Cert)(name:ByteArray)(now:Int)(root:g_api_Cert)(hn:more.length≤100):
  GG ⟨roots,leaf::more,name,now⟩ root=some (byV (leaf::more) now root):=by
 obtain⟨x,hx,hi⟩:=AfM (l:=leaf::more) (by simp) (by simp; omega);have hx:(leaf::more).getLast (by simp)=x:=by rw[List.getLast?_eq_some_getLast (by simp)]at hx; exact AkY hx
 unfold GG byV;simp only[hx];show Ab (idx (leaf::more) (w64 (((leaf::more).length:Int)-1))) _=_;rw[hi,Aa,Ahy,Aa];by_cases h1:OO x root=0
 ·rw[Ak1 (show¬((OO x root !=0)=true)from by simpa using h1),Ak1 (nn0 h1),VL,Aa];show(if(!timeB root now)=true then some 190 else _)=_;cases timeB root now with
  |false=>rfl
  |true=>
   rw[Ak1 (by decide),Ak1 (by decide)];have ec:cut (leaf::more) 1 ((leaf::more).length:Int)=some more:=AgA leaf more;show Ab (cut (leaf::more) 1 ((leaf::more).length:Int)) _=_;rw[ec,Aa];unfold A4;rw[Vj 168 (by simp; omega) (by simp; omega),Aa,Aa,Alz,Vj 168 (by simp; omega) (by simp; omega),Aa];have e:=Wv (body:=Gg ⟨roots,leaf::more,name,now⟩ (more++[root])) (Xz leaf.Names) (more++[root]) (fun k c hc=>by
    unfold Gg;rw[Je hc,Aa,D2];unfold Xz;by_cases h2:c.Depth<(k:Int)
    ·rw[Ak3 h2,Ak3 (by simpa using h2)]; rfl
    ·rw[Ak1 h2,Ak1 (by simpa using h2)];by_cases h3:0<c.Permit.length
     ·rw[Ak3 (by rw[Ak7]; omega)];show Ab (some leaf) _=_;rw[Aa,SF,Aa];cases leaf.Names.any fun n=> !Ahw c n with
      |true=>rw[Ak3 rfl,Ak3 ⟨h3,rfl⟩]; rfl
      |false=>rw[Ak1 (by simp),Ak1 (by simp)]; rfl
     ·rw[Ak1 (by rw[Ak7]; omega),Ak1 (by simp[h3])]; rfl) (more++[root]) 0 rfl
   have e:B7 (Gg ⟨roots,leaf::more,name,now⟩ (more++[root])) (more++[root]).length 0 ()=_:=e;rw[e,Aa];exact XR
 ·rw[Ak3 (show(OO x root !=0)=true from by simpa using h1),Ak3 h1]
def MX (roots chain:List g_api_Cert)(name:ByteArray)(now:Int):Int:=if chain.length=0∨4<chain.length∨16<roots.length∨now<0∨now>1099511627776 then 1 else nameV name
def caB:Nat→List g_api_Cert→Bool
 |_,[]=>true
 |i,c::r=>(c.Ca==decide (0<i))&&caB (i+1) r
def P2 (chain:List g_api_Cert)(name:ByteArray)(now:Int):Int:=if caB 0 chain=false then 191 else match chain with| []=>1|leaf::_=>if(leaf.Names.any fun s=>eqS name s)=false then 110 else if(chain.any fun c=> !timeB c now)=true then 190 else 0
def linksV:List g_api_Cert→Int
 |a::b::r=>if OO a b≠0 then OO a b else linksV (b::r)
 |_=>0
def PU (chain:List g_api_Cert)(now:Int)(roots:List g_api_Cert):Int:=if(roots.any fun r=>byV chain now r==0)=true then 0 else match roots with| []=>191|r::_=>byV chain now r
def Aas (l:List g_api_Cert):Int:=Agj (fun _ c=>checkV c) 0 l
def Z8 (roots chain:List g_api_Cert)(name:ByteArray)(now:Int):Int:=if MX roots chain name now≠0 then MX roots chain name now else if Aas (chain++roots)≠0 then Aas (chain++roots)else if P2 chain name now≠0 then P2 chain name now else if linksV chain≠0 then linksV chain else PU chain now roots
theorem AaF (n r:Nat)(now:Int):((((((n:Int)==0)||(decide ((n:Int)>4)))||(decide ((r:Int)>16)))||(decide (now<0)))||(decide (now>1099511627776)))=decide (n=0∨4<n∨16<r∨now<0∨now>1099511627776):=by
 rw[AlT];simp only[AlO,Ak7,AlM];have e1:(n:Int)=0↔n=0:=by omega
 have e2:(n:Int)>4↔4<n:=by omega
 have e3:(r:Int)>16↔16<r:=by omega
 rw[e1,e2,e3,or_assoc,or_assoc,or_assoc]
theorem Ad4 (t:g_path_trip):Fx t=some (MX t.roots_ t.chain_ t.name_ t.now_):=by
 obtain⟨ro,ch,nm,nw⟩:=t;unfold Fx MX;dsimp only;rw[UI,Aa,AaF];by_cases h:ch.length=0∨4<ch.length∨16<ro.length∨nw<0∨nw>1099511627776
 ·rw[Ak3 h,Ak3 (All h)]
 ·rw[Ak1 h,Ak1 (fun q=>h (AlW q))]
theorem Agb (n:Nat)(h:n≤10000):AT (n:Int)=some []:=by
 unfold AT;rw[AlG (show¬((n:Int)<0)from by omega),Ak1 (by decide),Aa,D2];have e0:w64 (0-((0:Nat):Int))=0:=G0 (by decide) (by decide);have e1:w64 ((n:Int)-w64 (0-((0:Nat):Int)))=(n:Int):=by
  rw[e0,Int.sub_zero];exact G0 (by omega) (by omega)
 rw[e1];by_cases h0:n=0
 ·rw[AlG (show¬((n:Int)>0)from by omega),Ak1 (by decide),Aa]
 ·rw[All (show(n:Int)>0 from by omega),Ak3 rfl,Ak3 ⟨by omega,by omega,by omega⟩,Aa]
theorem Aix (a b:List g_api_Cert)(ha:a.length≤1000)(hb:b.length≤1000):D1 AP ([a,b]:List (List g_api_Cert)) 0 0=some ((a.length+b.length:Nat):Int):=by
 have e: ∀(n:Nat) (i:Int) (x:List g_api_Cert),n+x.length≤10000→AP i x (n:Int)=some ((n+x.length:Nat):Int):=by
  intro n i x h;have e1:w64 ((n:Int)+(x.length:Int))=((n+x.length:Nat):Int):=by
   rw[G0 (by omega) (by omega)]; exact(Int.natCast_add _ _).symm
  unfold AP;rw[D2,e1,AlG (show¬(((n+x.length:Nat):Int)<0)from by omega),Ak1 (by decide),Aa]
 have e0:=e 0 0 a (by omega);have e1:=e a.length (0+1) b (by omega);rw[Aly]at e0;show Ab (AP 0 a ((0:Nat):Int)) (fun s=>Ab (AP (0+1) b s) fun s=>some s)=_;rw[e0,Aa,e1,Aa]
theorem AdJ (a b:List g_api_Cert)(ha:a.length≤1000)(hb:b.length≤1000):Bm ([a,b]:List (List g_api_Cert))=some (a++b):=by
 unfold Bm;rw[Aix a b ha hb,Aa,Aa,Agb _ (by omega),Aa];have e:D1 A7 ([a,b]:List (List g_api_Cert)) 0 []=some (a++b):=by
  show Ab (A7 0 a []) (fun s=>Ab (A7 (0+1) b s) fun s=>some s)=_;unfold A7;rw[Vj 168 (by simp; omega) (by simp; omega),Aa,Aa,Alz,Vj 168 (by omega) (by omega),Aa,Aa]
 rw[e,Aa,Aa]
theorem V2 (t:g_path_trip)(ha:t.chain_.length≤1000)(hb:t.roots_.length≤1000):GO t=some (Aas (t.chain_++t.roots_)):=by
 unfold GO;rw[AdJ _ _ ha hb,Aa];have e:=RT (body:=EP) (fun _ c=>checkV c) (t.chain_++t.roots_) 0 (fun k x _=>by
  unfold EP;rw[MW,Aa];unfold fsO;by_cases h:checkV x=0
  ·rw[Ak3 h,Ak1 (by simpa using h)]
  ·rw[Ak1 h,Ak3 (by simpa using h)])
 have e:DO EP (t.chain_++t.roots_) 0 ()=_:=e;rw[e,Aa];exact XR
theorem Tn (t:g_path_trip): ∀(r:List g_api_Cert) (i:Nat) (s:Bool),t.chain_.drop i=r→B7 (CO t) r.length (i:Int) s=some (if caB i r=true then .inl (s||r.any fun c=> !timeB c t.now_)else .inr 191)
 | [],i,s,_=>by show some (Sum.inl s)=_; simp[caB]
 |c::r,i,s,hd=>by
  obtain⟨hc,hr,hlt⟩:=R4 hd;have ih:=Tn t r (i+1) (s|| !timeB c t.now_) hr;show Ab (CO t (i:Int) s) _=_;have e:CO t (i:Int) s=some (if(c.Ca==decide (0<i))=true then .inl (s|| !timeB c t.now_)else .inr 191):=by
   unfold CO;rw[Je hc,Aa,VL];have ed:decide ((i:Int)>0)=decide (0<i):=by rw[AlY]; omega
   rw[ed];cases s with
   |true=>
    show Ab (some default) _=_;rw[Aa];cases c.Ca==decide (0<i)<;>rfl
   |false=>
    show Ab (some (timeB c t.now_)) _=_;rw[Aa];cases c.Ca==decide (0<i)<;>rfl
  rw[e];unfold caB;cases c.Ca==decide (0<i)with
  |false=>rfl
  |true=>
   rw[Ak3 rfl,Aa,Alx,List.any_cons,←Bool.or_assoc];exact ih
theorem has_eq (l:List ByteArray)(n:ByteArray):B6 l n=some (l.any fun s=>eqS n s):=by
 obtain⟨j,h⟩:=OS (body:=B5 l n) l (fun s=>eqS n s) () (fun k=>(k:Int)) (fun k x hx=>by
  unfold B5;rw[Je hx,Aa];cases eqS n x<;>rfl) l 0 rfl
 have h:B7 (B5 l n) l.length 0 ()=_:=h;unfold B6 Dn;rw[h,Aa];cases l.any fun s=>eqS n s with
 |true=>
  show some (decide ((j:Int)≥0))=_;rw[All (by omega)]
 |false=>rfl
theorem AfP (t:g_path_trip)(h:t.chain_≠[]):Gf t=some (P2 t.chain_ t.name_ t.now_):=by
 unfold Gf P2;rw[show B7 (CO t) t.chain_.length 0 false=_ from Tn t t.chain_ 0 false rfl,Aa];cases caB 0 t.chain_ with
 |false=>rfl
 |true=>
  rw[Ak3 rfl,Ak1 (by decide)];cases hl:t.chain_ with
  |nil=>exact absurd hl h
  |cons leaf more=>
   show Ab (some leaf) _=_;rw[Aa,has_eq,Aa,AlU];show _=some (if(leaf.Names.any fun s=>eqS t.name_ s)=false then 110 else _);cases leaf.Names.any fun s=>eqS t.name_ s with
   |false=>rfl
   |true=>
    cases (leaf::more).any fun c=> !timeB c t.now_<;>rfl
theorem Th (t:g_path_trip)(hn:t.chain_.length≤1000): ∀(r:List g_api_Cert) (a:g_api_Cert) (i:Nat),t.chain_.drop i=a::r→B7 (CN t) r.length (i:Int) ()=some (fsO (linksV (a::r)))
 | [],a,i,_=>rfl
 |b::r,a,i,hd=>by
  obtain⟨ha,hr,hlt⟩:=R4 hd;obtain⟨hb,hr2,hlt2⟩:=R4 hr;have ih:=Th t hn r b (i+1) hr;show Ab (CN t (i:Int) ()) _=_;have e:CN t (i:Int) ()=some (fsO (OO a b)):=by
   unfold CN fsO;rw[Je ha,Aa,Aim (by omega),Je hb,Aa,Ahy,Aa];by_cases h:OO a b=0
   ·rw[Ak3 h,Ak1 (by simpa using h)]
   ·rw[Ak1 h,Ak3 (by simpa using h)]
  rw[e,Aa];unfold linksV;by_cases h:OO a b=0
  ·rw[Ak1 (nn0 h),h];exact ih
  ·rw[Ak3 h];unfold fsO;rw[Ak1 h]
theorem AfI (t:g_path_trip)(h:t.chain_≠[])(hn:t.chain_.length≤1000):Ge t=some (linksV t.chain_):=by
 unfold Ge;cases hl:t.chain_ with
 |nil=>exact absurd hl h
 |cons a r=>
  have e1:Int.toNat (w64 (((a::r).length:Int)-1))=r.length:=by
   rw[hl,Ak8]at hn;have e0:((a::r).length:Int)-1=(r.length:Int):=by simp
   rw[e0,G0 (by omega) (by omega),AlJ]
  rw[e1,show B7 (CN t) r.length 0 ()=_ from Th t hn r a 0 hl,Aa];exact XR
theorem PT (t:g_path_trip)(hc:t.chain_≠[])(hn:t.chain_.length≤100)(hr:t.roots_.length≤1000): ∀(i n:Nat) (e:Int),i≤t.roots_.length→i<n→
  iter (Cm t) n (e,(i:Int)-1)=some (if((t.roots_.take i).any fun r=>byV t.chain_ t.now_ r==0)=true then .inr 0 else .inl (match t.roots_.take i with| []=>e|r::_=>byV t.chain_ t.now_ r))
 |0,n,e,_,hn0=>by
  obtain⟨n,rfl⟩: ∃q,n=q+1:=⟨n-1,by omega⟩;rfl
 |i+1,n,e,hi,hn0=>by
  obtain⟨n,rfl⟩: ∃q,n=q+1:=⟨n-1,by omega⟩;have hlt:i<t.roots_.length:=by omega
  have hx:t.roots_[i]? =some t.roots_[i]:=AlK hlt;have eb:GG t t.roots_[i]=some (byV t.chain_ t.now_ t.roots_[i]):=by
   obtain⟨ro,ch,nm,nw⟩:=t;cases ch with
   |nil=>exact absurd rfl hc
   |cons a r=>exact by_eq _ a r _ _ _ (by simp only[Ak8]at hn; omega)
  have e1:((i+1:Nat):Int)-1=(i:Int):=by omega
  rw[e1];show Ab (Cm t (e,(i:Int))) _=_;have es:Cm t (e,(i:Int))=some (if(byV t.chain_ t.now_ t.roots_[i]==0)=true then .inr (.inr 0)else .inl (byV t.chain_ t.now_ t.roots_[i],(i:Int)-1)):=by
   unfold Cm;rw[Ak3 (by rw[Ak7]; show(i:Int)≥0; omega)];show Ab (idx t.roots_ (i:Int)) _=_;rw[Je hx,Aa,eb,Aa];cases byV t.chain_ t.now_ t.roots_[i]==0 with
   |true=>rfl
   |false=>
    rw[Ak1 (by decide),Ak1 (by decide)];show some (Sum.inl (_,w64 ((i:Int)-1)))=_;rw[G0 (by omega) (by omega)]
  rw[es,Aa];have et:t.roots_.take (i+1)=t.roots_.take i++[t.roots_[i]]:=by rw[List.take_add_one,hx]; rfl
  rw[et,List.any_append];have ih:=PT t hc hn hr i n (byV t.chain_ t.now_ t.roots_[i]) (by omega) (by omega);cases hb:byV t.chain_ t.now_ t.roots_[i]==0 with
  |true=>
   rw[Ak3 rfl];have:(([t.roots_[i]]:List g_api_Cert).any fun r=>byV t.chain_ t.now_ r==0)=true:=by simp[hb]
   rw[this,Bool.or_true,Ak3 rfl]
  |false=>
   rw[Ak1 (by decide)];show iter (Cm t) n (_,(i:Int)-1)=_;rw[ih];have:(([t.roots_[i]]:List g_api_Cert).any fun r=>byV t.chain_ t.now_ r==0)=false:=by simp[hb]
   rw[this,Bool.or_false];cases (t.roots_.take i).any fun r=>byV t.chain_ t.now_ r==0 with
   |true=>rfl
   |false=>cases t.roots_.take i<;>rfl
theorem ZR (t:g_path_trip)(hc:t.chain_≠[])(hn:t.chain_.length≤100)(hr:t.roots_.length≤1000):EO t=some (PU t.chain_ t.now_ t.roots_):=by
 unfold EO PU;rw[D2,G0 (by omega) (by omega),PT t hc hn hr t.roots_.length F7 191 (Ak6 _) (by have:=Ky; omega),Aa,List.take_length];cases t.roots_.any fun r=>byV t.chain_ t.now_ r==0 with
 |true=>rfl
 |false=>cases t.roots_<;>rfl
theorem row_b1 (x:Fq)(i e:Int)(h:GL x=some e):Gh i x ()=some (fsO e):=by
 unfold Gh fsO;rw[h,Aa];by_cases h:e=0
 ·rw[Ak3 h,Ak1 (by simpa using h)]
 ·rw[Ak1 h,Ak3 (by simpa using h)]
theorem OD (x:Fq)(l:List Fq)(i e:Int)(h:GL x=some e):DO Gh (x::l) i ()=if e≠0 then some (.inr e)else DO Gh l (i+1) ():=by
 show Ab (Gh i x ()) _=_;rw[row_b1 x i e h,Aa];unfold fsO;by_cases h:e=0
 ·rw[Ak3 h,Ak1 (by simpa using h)]
 ·rw[Ak1 h,Ak3 h]
theorem Ajg (roots chain:List g_api_Cert)(name:ByteArray)(now:Int):m_path_Check roots chain name now=some (Z8 roots chain name now):=by
 unfold m_path_Check Pw Z8;generalize ht:(⟨roots,chain,name,now⟩:g_path_trip)=t;have h1:t.roots_=roots:=by rw[←ht]
 have h2:t.chain_=chain:=by rw[←ht]
 have h3:t.name_=name:=by rw[←ht]
 have h4:t.now_=now:=by rw[←ht]
 have d1:GL ⟨72,t⟩=some (MX roots chain name now):=by rw[←h1,←h2,←h3,←h4]; exact Ad4 t
 rw[OD _ _ _ _ d1];by_cases z1:MX roots chain name now=0
 ·have hb: ¬(chain.length=0∨4<chain.length∨16<roots.length∨now<0∨now>1099511627776):=by
   intro h;unfold MX at z1;rw[Ak3 h]at z1;cases z1
  have hne:chain≠[]:=fun h=>hb (.inl (by rw[h]; rfl));have d2:GL ⟨73,t⟩=some (Aas (chain++roots)):=by rw[←h1,←h2]; exact V2 t (by rw[h2]; omega) (by rw[h1]; omega)
  have d3:GL ⟨74,t⟩=some (P2 chain name now):=by rw[←h2,←h3,←h4]; exact AfP t (by rw[h2]; exact hne)
  have d4:GL ⟨75,t⟩=some (linksV chain):=by rw[←h2]; exact AfI t (by rw[h2]; exact hne) (by rw[h2]; omega)
  have d5:GL ⟨76,t⟩=some (PU chain now roots):=by rw[←h1,←h2,←h4]; exact ZR t (by rw[h2]; exact hne) (by rw[h2]; omega) (by rw[h1]; omega)
  rw[Ak1 (nn0 z1),Ak1 (nn0 z1),OD _ _ _ _ d2];by_cases z2:Aas (chain++roots)=0
  ·rw[Ak1 (nn0 z2),Ak1 (nn0 z2),OD _ _ _ _ d3];by_cases z3:P2 chain name now=0
   ·rw[Ak1 (nn0 z3),Ak1 (nn0 z3),OD _ _ _ _ d4];by_cases z4:linksV chain=0
    ·rw[Ak1 (nn0 z4),Ak1 (nn0 z4),OD _ _ _ _ d5];by_cases z5:PU chain now roots=0
     ·rw[Ak1 (nn0 z5),z5]; rfl
     ·rw[Ak3 z5]; rfl
    ·rw[Ak3 z4,Ak3 z4]; rfl
   ·rw[Ak3 z3,Ak3 z3]; rfl
  ·rw[Ak3 z2,Ak3 z2]; rfl
 ·rw[Ak3 z1,Ak3 z1]; rfl
structure TF (roots:List g_api_Cert)(leaf:g_api_Cert)(more:List g_api_Cert)(name:ByteArray)(now:Int):Prop where
 len:more.length≤3
 rts:roots.length≤16
 now0:0≤now
 nowM:now≤1099511627776
 nam:nameV name=0
 all: ∀c∈leaf::more++roots,checkV c=0
 kin:caB 0 (leaf::more)=true
 has:(leaf.Names.any fun s=>eqS name s)=true
 tim: ∀c∈leaf::more,timeB c now=true
 lnk:linksV (leaf::more)=0
theorem Afv {b:List UInt8}(h:b.length≤3000):C5 b=some (AaN (⟨#[108,101,97,102]⟩:ByteArray) [b]):=by
 unfold C5;rw[KU _ _ (by simp[YK]; omega)];rfl
theorem AgK {c:g_api_Cert}(h:Okc c):m_cert_Leaf c=some (AaN (⟨#[108,101,97,102]⟩:ByteArray) [V0 c],0):=by
 unfold m_cert_Leaf;have:=Ahg h;rw[Ad1 h,Aa,Ak1 (by simp)];show Ab (C5 (V0 c)) _=_;rw[Afv (by omega)];rfl
theorem Tv {α σ τ:Type}{body:Int→σ→Option (σ⊕τ)}(xs:List α)(p:α→Bool)(s:σ)(g:Nat→τ)(h: ∀(i:Nat) (x:α),xs[i]? =some x→body (i:Int) s=some (if p x=true then .inr (g i)else .inl s)):
  ∀(k i:Nat),i+k=xs.length→∃r,B7 body k (i:Int) s=some r∧((∃(j:Nat) (x:α),xs[j]? =some x∧p x=true∧r= .inr (g j))∨((∀x∈xs.drop i,p x=false)∧r= .inl s))
 |0,i,hi=>⟨.inl s,rfl,.inr ⟨(fun x hx=>by rw[AlH (by omega)]at hx; cases hx),rfl⟩⟩
 |k+1,i,hi=>by
  have hx:xs[i]? =some xs[i]:=AlK (by omega);show∃r,Ab (body (i:Int) s) _=_∧_;rw[h i _ hx];cases hp:p xs[i]with
  |true=>exact⟨_,rfl,.inl ⟨i,_,hx,hp,rfl⟩⟩
  |false=>
   obtain⟨r,h1,h2⟩:=Tv xs p s g h k (i+1) (by omega);refine⟨r,h1,?_⟩;rcases h2 with q|⟨q,e⟩
   ·exact .inl q
   ·refine .inr ⟨fun x hx'=> ?_,e⟩;rw[List.drop_eq_getElem_cons (by omega)]at hx';rcases Als.1 hx' with w|w
    ·rw[w]; exact hp
    ·exact q x w
theorem G9 {α σ τ:Type}{body:Int→σ→Option (σ⊕τ)}(xs:List α)(p:α→Bool)(s:σ)(g:Nat→τ)(h: ∀(i:Nat) (x:α),xs[i]? =some x→body (i:Int) s=some (if p x=true then .inr (g i)else .inl s)):
  ∃r,B7 body xs.length 0 s=some r∧((∃(j:Nat) (x:α),xs[j]? =some x∧p x=true∧r= .inr (g j))∨(xs.any p=false∧r= .inl s)):=by
 obtain⟨r,h1,h2⟩:=Tv xs p s g h xs.length 0 (by omega);refine⟨r,h1,?_⟩;rcases h2 with q|⟨q,e⟩
 ·exact .inl q
 ·exact .inr ⟨List.any_eq_false.2 fun x hx=>by rw[q x (by simpa using hx)]; decide,e⟩
theorem WN {α:Type}{xs:List α}{p:α→Bool}{j:Nat}{x:α}(h:xs[j]? =some x)(hp:p x=true):xs.any p=true:=List.any_eq_true.2 ⟨x,AlC h,hp⟩
theorem Aj2 {α:Type} [Inhabited α]{o:Option α}:gu true o=o:=rfl
theorem ge0 (j:Nat):decide ((j:Int)≥0)=true:=All (by omega)
theorem Ad2 (k:UInt64): ∃b,Dj k=some b:=by
 unfold Dj;obtain⟨x,hx⟩:=MO ((decide ((k.toNat:Int)>0))&&(decide ((k.toNat:Int)<2305843009213691579))) (o:=Dx k 1152921504606845789) ⟨_,Rk _ _⟩;rw[hx,Aa];exact⟨_,rfl⟩
theorem X4 (n:Int):Ct n=some (decide (0≤n)&&decide (n≤1099511627776)):=rfl
theorem VT (l:List g_api_Cert): ∃b,Ay l=some b:=by
 unfold Ay Ba;obtain⟨r,h1,h2⟩:=G9 (body:=AM l) l (fun c=>(!c.Ca)||((if c.Ca=true then checkV c else default) !=0)) () (fun i=>(i:Int)) (fun i x hx=>by
  unfold AM Ed;rw[Dk hx,Aa];have:gu (!(!x.Ca)) (Ck x)=some (if x.Ca=true then checkV x else default):=by
   rw[MW]; cases x.Ca<;>rfl
  rw[this,Aa,Aa];cases ((!x.Ca)||((if x.Ca=true then checkV x else default) !=0))<;>rfl)
 rw[h1,Aa];cases r<;>exact⟨_,rfl⟩
theorem Aik (l:List UInt8): ∃b,AO l=some b:=by
 unfold AO BT;obtain⟨r,h1,h2⟩:=G9 (body:=A6 l) l (fun c=>(decide ((c.toNat:Int)<33))||(decide ((c.toNat:Int)>126))) () (fun i=>(i:Int)) (fun i x hx=>by
  unfold A6 Ee;rw[Dk hx,Aa,Bn,Aa];cases ((decide ((x.toNat:Int)<33))||(decide ((x.toNat:Int)>126)))<;>rfl)
 rw[h1,Aa];cases r<;>exact⟨_,rfl⟩
theorem keysB: ∀(l:List g_api_Key) (i s:Int),∃r,DO Bw l i s=some r
 | [],i,s=>⟨_,rfl⟩
 |x::l,i,s=>by
  show∃r,Ab (Bw i x s) _=_;unfold Bw;obtain⟨a,ha⟩:=MO (!(decide (x.Log≤s))) (o:=Ct x.Log) ⟨_,X4 _⟩;rw[ha,Aa];obtain⟨b,hb⟩:=MO (!((decide (x.Log≤s))||(!a))) (o:=Ct x.Delay) ⟨_,X4 _⟩;rw[hb,Aa];obtain⟨c,hc⟩:=MO (!(((decide (x.Log≤s))||(!a))||(!b))) (Ad2 x.Key);rw[hc,Aa];split
  ·exact⟨_,rfl⟩
  ·exact keysB l (i+1) _
theorem AfD (a:Ak): ∃e,A8 a=some e:=by
 unfold A8;split
 ·obtain⟨b,hb⟩:=MO (!((true||((a.Client.Roots.length:Int)==0))||(decide ((a.Client.Roots.length:Int)>8)))) (VT a.Client.Roots);rw[hb,Aa];exact⟨_,Ak3 (by simp)⟩
 ·rename_i hw;have hl:a.Client.Who.data.toList.length≤64:=by
   rw[AlO,not_or]at hw;have h2:=hw.2;rw[Ak7]at h2;have:a.Client.Who.size≤64:=by omega
   exact this
  rw[DQ 1 (by simp only[Alm]; omega) (by simp only[Alm]; omega),Aa];obtain⟨b,hb⟩:=Aik ([]++a.Client.Who.data.toList);rw[hb,Aa];obtain⟨d,hd⟩:=MO (!((b||((a.Client.Roots.length:Int)==0))||(decide ((a.Client.Roots.length:Int)>8)))) (VT a.Client.Roots);rw[hd,Aa];split
  ·exact⟨_,rfl⟩
  ·obtain⟨r,hr⟩:=keysB a.Client.Logs 0 (-1);rw[hr,Aa];cases r with
   |inr r=>exact⟨_,rfl⟩
   |inl y=>
    dsimp only;split<;>exact⟨_,rfl⟩
theorem AhQ {z:Ak}{e1 e2 e3:Int}(h1:A8 z=some e1)(h2:Cd z=some e2)(h3:CA z=some e3):
  Dg z=some (if e1≠0 then e1 else if e2≠0 then e2 else e3):=by
 unfold Dg;have b0:AK z 0 ()=some (if e1≠0 then .inr e1 else .inl ()):=by
  unfold AK;rw[Ak3 rfl,h1,Aa];by_cases h:e1=0
  ·rw[Ak1 (by simp[h]),Ak1 (fun k=>k h)]
  ·rw[Ak3 (by simpa using h),Ak3 h]
 have b1:AK z 1 ()=some (if e2≠0 then .inr e2 else .inl ()):=by
  unfold AK;rw[Ak1 (by decide),Ak3 rfl,h2,Aa];by_cases h:e2=0
  ·rw[Ak1 (by simp[h]),Ak1 (fun k=>k h)]
  ·rw[Ak3 (by simpa using h),Ak3 h]
 have b2:AK z 2 ()=some (if e3≠0 then .inr e3 else .inl ()):=by
  unfold AK;rw[Ak1 (by decide),Ak1 (by decide),h3,Aa];by_cases h:e3=0
  ·rw[Ak1 (by simp[h]),Ak1 (fun k=>k h)]
  ·rw[Ak3 (by simpa using h),Ak3 h]
 show Ab (Ab (AK z 0 ()) _) _=_;rw[b0,Aa];by_cases q1:e1=0
 ·rw[Ak1 (fun k=>k q1),Ak1 (fun k=>k q1)];show Ab (Ab (AK z 1 ()) _) _=_;rw[b1,Aa];by_cases q2:e2=0
  ·rw[Ak1 (fun k=>k q2),Ak1 (fun k=>k q2)];show Ab (Ab (AK z 2 ()) _) _=_;rw[b2,Aa];by_cases q3:e3=0
   ·rw[Ak1 (fun k=>k q3),q3]; rfl
   ·rw[Ak3 q3]; rfl
  ·rw[Ak3 q2,Ak3 q2]; rfl
 ·rw[Ak3 q1,Ak3 q1]; rfl
theorem app48 {α:Type}(s:List α)(x:α)(h:s.length≤1000000):app 48 s [x]=some (s++[x]):=DQ 48 (by simp only[List.length_singleton]; omega) (by simp only[List.length_singleton]; omega)
def mcV (leaf:UInt64×UInt64)(w:g_api_Place)(h:g_api_Head):Int:=(C6 leaf w.At w.Size w.Proof h.Root).getD 1
theorem mc_eq (leaf:UInt64×UInt64)(w:g_api_Place)(h:g_api_Head):C6 leaf w.At w.Size w.Proof h.Root=some (mcV leaf w h):=by
 obtain⟨e,he⟩:=Aaf leaf w.At w.Size w.Proof h.Root;unfold mcV; rw[he]; rfl
def UU (leaf:UInt64×UInt64)(w:g_api_Place)(h:g_api_Head):Bool:=((h.Log==w.Log)&&(h.Size==w.Size))&&(mcV leaf w h==0)
theorem AjY (a:Ak)(w:g_api_Place)(leaf:UInt64×UInt64):EU a w leaf=some (a.Client.Pool.L.any (UU leaf w)):=by
 unfold EU BE BS;obtain⟨r,h1,h2⟩:=G9 (body:=BD a.Client.Pool.L) a.Client.Pool.L (UU leaf w) (w.Log,w.At,w.Size,w.Proof,leaf.1,leaf.2) (fun i=>((i:Int),w,leaf)) (fun i x hx=>by
  unfold BD FX UU;rw[Dk hx,Aa];dsimp only;rw[mc_eq leaf w x];cases ((x.Log==w.Log)&&(x.Size==w.Size))with
  |false=>rfl
  |true=>
   rw[show gu true (some (mcV leaf w x))=some (mcV leaf w x)from rfl,Aa,Bn,Aa,Alx];cases (mcV leaf w x==0)<;>rfl)
 rw[h1,Aa];rcases h2 with ⟨j,k,q1,q2,rfl⟩|⟨q,rfl⟩
 ·rw[WN q1 q2];dsimp only;rw[Aa,Aa,ge0]
 ·rw[q]; rfl
theorem Af6 (ps:List g_api_Promise)(w:g_api_Place):AQ ps w=some (ps.any (fun p=>p.Log==w.Log),w):=by
 unfold AQ Bv;obtain⟨r,h1,h2⟩:=G9 (body:=Bh ps) ps (fun p=>p.Log==w.Log) (w.Log,w.At,w.Size,w.Proof) (fun i=>((i:Int),w)) (fun i x hx=>by
  unfold Bh FZ;rw[Dk hx,Aa,Aa];dsimp only;cases (x.Log==w.Log)<;>rfl)
 rw[h1,Aa];rcases h2 with ⟨j,k,q1,q2,rfl⟩|⟨q,rfl⟩
 ·rw[WN (p:=fun p:g_api_Promise=>p.Log==w.Log) q1 q2];dsimp only;rw[Aa,ge0]
 ·rw[q]; rfl
def showB (c:g_api_Client)(ps:List g_api_Promise)(leaf:UInt64×UInt64)(w:g_api_Place):Bool:=ps.any (fun p=>p.Log==w.Log)&&c.Pool.L.any (UU leaf w)
theorem Af7 (l:List g_api_Place)(ps:List g_api_Promise)(c:g_api_Client)(leaf:UInt64×UInt64):A0 l ps ⟨c⟩ leaf=some (l.any (showB c ps leaf),ps,⟨c⟩,leaf):=by
 unfold A0 BL;obtain⟨r,h1,h2⟩:=G9 (body:=By l) l (showB c ps leaf) (ps,c.Who,c.Roots,c.Logs,c.Pool.L,c.Cascade.Day,c.Cascade.Levels,c.View,leaf.1,leaf.2) (fun i=>((i:Int),ps,⟨c⟩,leaf)) (fun i x hx=>by
  unfold By G8 showB;rw[Dk hx,Aa];dsimp only;rw[Af6,Aa];dsimp only;rw[AjY];cases ps.any (fun p=>p.Log==x.Log)with
  |false=>rfl
  |true=>
   dsimp only;rw[show∀o:Option Bool,gu true o=o from fun o=>rfl,Aa,Aa,Alx];cases c.Pool.L.any (UU leaf x)<;>rfl)
 dsimp only;rw[h1,Aa];rcases h2 with ⟨j,k,q1,q2,rfl⟩|⟨q,rfl⟩
 ·rw[WN q1 q2];dsimp only;rw[Aa,ge0]
 ·rw[q]; rfl
abbrev FB:=AB
def aSt (c:g_api_Client)(o:g_api_Offer)(name:ByteArray)(now:Int)(lf:UInt64×UInt64)(ps:List g_api_Promise):ByteArray×(List g_api_Cert)×(List g_api_Key)×(List g_api_Head)×Int×(List g_api_Sieve)×Int×Int×(List g_api_Cert)×(List g_api_Place)×ByteArray×UInt64×UInt64×ByteArray×(List g_api_Cert)×(List g_api_Key)×(List g_api_Head)×Int×(List g_api_Sieve)×Int×(List g_api_Promise):=(c.Who,c.Roots,c.Logs,c.Pool.L,c.Cascade.Day,c.Cascade.Levels,c.View,now,o.Path,o.Where,name,lf.1,lf.2,c.Who,c.Roots,c.Logs,c.Pool.L,c.Cascade.Day,c.Cascade.Levels,c.View,ps)
theorem ne0 {e:Int}(h:e≠0):(e !=0)=true:=by simpa using h
section
variable {c:g_api_Client}{o:g_api_Offer}{name:ByteArray}{now:Int}{lf:UInt64×UInt64}{ps:List g_api_Promise}
theorem fb0 {e:Int}(h:m_client_Check c=some e):(e=0→FB 0 (aSt c o name now lf ps)=some (.inl (aSt c o name now lf ps)))∧(e≠0→∃t,FB 0 (aSt c o name now lf ps)=some (.inr (e,t))):=by
 unfold FB AB;rw[Ak3 rfl];have q:DG c=some (e,c):=by unfold DG; rw[h]; rfl
 refine⟨fun h0=> ?_,fun h0=> ?_⟩
 ·show Ab (DG c) _=_;rw[q,Aa,h0]; rfl
 ·show∃t,Ab (DG c) _=_;rw[q,Aa,Ak3 (ne0 h0)];exact⟨_,rfl⟩
theorem fb1 {e:Int}(h:(if(decide (0≤now)&&decide (now≤1099511627776))=true then m_path_Check c.Roots o.Path name now else some 1)=some e):
  (e=0→FB 1 (aSt c o name now lf ps)=some (.inl (aSt c o name now lf ps)))∧(e≠0→∃t,FB 1 (aSt c o name now lf ps)=some (.inr (e,t))):=by
 unfold FB AB;rw[Ak1 (by decide),Ak3 rfl];have q:DF now c o name=some (e,now,c,o,name):=by
  unfold DF;rw[X4,Aa];cases hb:(decide (0≤now)&&decide (now≤1099511627776))with
  |true=>
   rw[hb,Ak3 rfl]at h;rw[Ak1 (by decide),h]; rfl
  |false=>
   rw[hb,Ak1 (by decide)]at h;cases h; rfl
 refine⟨fun h0=> ?_,fun h0=> ?_⟩
 ·show Ab (DF now c o name) _=_;rw[q,Aa,h0]; rfl
 ·show∃t,Ab (DF now c o name) _=_;rw[q,Aa,Ak3 (ne0 h0)];exact⟨_,rfl⟩
theorem fb2 {x:g_api_Cert}{more:List g_api_Cert}{l:UInt64×UInt64}{e:Int}(ho:o.Path=x::more)(h:m_cert_Leaf x=some (l,e)):
  (e=0→FB 2 (aSt c o name now lf ps)=some (.inl (aSt c o name now l ps)))∧(e≠0→∃t,FB 2 (aSt c o name now lf ps)=some (.inr (e,t))):=by
 unfold FB AB;rw[Ak1 (by decide),Ak1 (by decide),Ak3 rfl];have q:DE o lf=some (e,o,l):=by
  unfold DE;rw[ho];show Ab (some x) _=_;rw[Aa,h]; rfl
 refine⟨fun h0=> ?_,fun h0=> ?_⟩
 ·show Ab (DE o lf) _=_;rw[q,Aa,h0]; rfl
 ·show∃t,Ab (DE o lf) _=_;rw[q,Aa,Ak3 (ne0 h0)];exact⟨_,rfl⟩
theorem fb3 {x:g_api_Cert}{more:List g_api_Cert}{r:List g_api_Promise}(ho:o.Path=x::more)(h:m_client_asked_counting ⟨c⟩ x.Proms lf=some r):
  (2≤r.length→FB 3 (aSt c o name now lf ps)=some (.inl (aSt c o name now lf r)))∧(¬2≤r.length→∃t,FB 3 (aSt c o name now lf ps)=some (.inr (251,t))):=by
 unfold FB AB;rw[Ak1 (by decide),Ak1 (by decide),Ak1 (by decide),Ak3 rfl];have q:DD ⟨c⟩ o lf ps=some (if 2≤r.length then 0 else 251,⟨c⟩,o,lf,r):=by
  unfold DD;rw[ho];show Ab (some x) _=_;rw[Aa,h,Aa];by_cases hr:2≤r.length
  ·rw[Ak1 (by simp; omega),Ak3 hr]
  ·rw[Ak3 (by simp; omega),Ak1 hr]
 refine⟨fun h0=> ?_,fun h0=> ?_⟩
 ·show Ab (DD ⟨c⟩ o lf ps) _=_;rw[q,Aa,Ak3 h0]; rfl
 ·show∃t,Ab (DD ⟨c⟩ o lf ps) _=_;rw[q,Aa,Ak1 h0];exact⟨_,rfl⟩
theorem fb4:(o.Where.any (showB c ps lf)=true→FB 4 (aSt c o name now lf ps)=some (.inl (aSt c o name now lf ps)))∧(o.Where.any (showB c ps lf)=false→∃t,FB 4 (aSt c o name now lf ps)=some (.inr (240,t))):=by
 unfold FB AB;rw[Ak1 (by decide),Ak1 (by decide),Ak1 (by decide),Ak1 (by decide),Ak3 rfl];have q:DC ps ⟨c⟩ lf o=some (if o.Where.any (showB c ps lf)=true then 0 else 240,ps,⟨c⟩,lf,o):=by
  unfold DC;rw[Af7,Aa];dsimp only;cases o.Where.any (showB c ps lf)<;>rfl
 refine⟨fun h0=> ?_,fun h0=> ?_⟩
 ·show Ab (DC ps ⟨c⟩ lf o) _=_;rw[q,Aa,h0]; rfl
 ·show∃t,Ab (DC ps ⟨c⟩ lf o) _=_;rw[q,Aa,h0];exact⟨_,rfl⟩
theorem fb5 {x:g_api_Cert}{more:List g_api_Cert}{b:Bool}(ho:o.Path=x::more)(h:m_cascade_Has c.Cascade x.Serial=some b):
  (b=false→FB 5 (aSt c o name now lf ps)=some (.inl (aSt c o name now lf ps)))∧(b=true→∃t,FB 5 (aSt c o name now lf ps)=some (.inr (270,t))):=by
 unfold FB AB;rw[Ak1 (by decide),Ak1 (by decide),Ak1 (by decide),Ak1 (by decide),Ak1 (by decide)];have q:DB c o=some (if b=true then 270 else 0,c,o):=by
  unfold DB;rw[ho];show Ab (some x) _=_;rw[Aa,h,Aa];cases b<;>rfl
 refine⟨fun h0=> ?_,fun h0=> ?_⟩
 ·show Ab (DB c o) _=_;rw[q,Aa,h0]; rfl
 ·show∃t,Ab (DB c o) _=_;rw[q,Aa,h0];exact⟨_,rfl⟩
end
theorem enL {σ τ:Type}{body:Int→σ→Option (σ⊕τ)}{k:Nat}{i:Int}{s s':σ}(h:body i s=some (.inl s')):B7 body (k+1) i s=B7 body k (i+1) s':=by
 show Ab (body i s) _=_;rw[h]; rfl
theorem enR {σ τ:Type}{body:Int→σ→Option (σ⊕τ)}{k:Nat}{i:Int}{s:σ}{t:τ}(h:body i s=some (.inr t)):B7 body (k+1) i s=some (.inr t):=by
 show Ab (body i s) _=_;rw[h]; rfl
structure Acc (c:g_api_Client)(o:g_api_Offer)(name:ByteArray)(now:Int):Prop where
 chk:m_client_Check c=some 0
 pth:m_path_Check c.Roots o.Path name now=some 0
 run: ∃x more leaf ps,o.Path=x::more∧m_cert_Leaf x=some (leaf,0)∧m_client_asked_counting ⟨c⟩ x.Proms leaf=some ps∧2≤ps.length∧o.Where.any (showB c ps leaf)=true∧m_cascade_Has c.Cascade x.Serial=some false
def shop0:Cl:=⟨⟨⟨#[97,110,110]⟩,[⟨0,⟨#[114]⟩,⟨#[114]⟩,544077478247279056,[],0,100,true,1,[],[],⟨56068977789539995,412945996197367095⟩⟩],[⟨0,1297896941320072711,5⟩,⟨1,1631945290827707310,5⟩],⟨[]⟩,⟨0,[]⟩,0⟩,⟨[⟨9,⟨#[114]⟩,⟨#[]⟩,4,[⟨#[120,46,97]⟩],3,8,false,0,[],[⟨0,3,(1621992312229970116,2200863675130382030),⟨493135561720501702,53138745142054843⟩⟩,⟨1,3,(1621992312229970116,2200863675130382030),⟨694227493511213294,984341331704138812⟩⟩],⟨1050415333436172978,246170491232933132⟩⟩],[⟨0,2,3,[(71937633796637552,541480457554953714)]⟩]⟩,[⟨0,492609940580054112,5,[⟨[0,5],1⟩,⟨[1,5],1⟩,⟨[48,32,2,1,9,12,1,114,12,0,2,1,4,48,5,12,3,120,46,97,2,1,3,2,1,8,1,1,0,2,1,0,48,0],3⟩],[],[]⟩,⟨1,821147353521346255,5,[⟨[48,32,2,1,9,12,1,114,12,0,2,1,4,48,5,12,3,120,46,97,2,1,3,2,1,8,1,1,0,2,1,0,48,0],3⟩],[],[]⟩]⟩
def head0:g_api_Head:=⟨0,3,(1111880991993255973,2159594700541934035),4,⟨52962187583479370,259454068761640249⟩⟩
def cli0:g_api_Client:=⟨⟨#[97,110,110]⟩,[⟨0,⟨#[114]⟩,⟨#[114]⟩,544077478247279056,[],0,100,true,1,[],[],⟨56068977789539995,412945996197367095⟩⟩],[⟨0,1297896941320072711,5⟩,⟨1,1631945290827707310,5⟩],⟨[⟨0,3,(1111880991993255973,2159594700541934035),4,⟨52962187583479370,259454068761640249⟩⟩]⟩,⟨0,[]⟩,0⟩
def cas0:g_api_Cascade:=⟨1,[⟨8,3,16,[98]⟩]⟩
def cli1:g_api_Client:=⟨⟨#[97,110,110]⟩,[⟨0,⟨#[114]⟩,⟨#[114]⟩,544077478247279056,[],0,100,true,1,[],[],⟨56068977789539995,412945996197367095⟩⟩],[⟨0,1297896941320072711,5⟩,⟨1,1631945290827707310,5⟩],⟨[⟨0,3,(1111880991993255973,2159594700541934035),4,⟨52962187583479370,259454068761640249⟩⟩]⟩,⟨1,[⟨8,3,16,[98]⟩]⟩,0⟩
theorem lvq0:Du 5 ⟨#[120,46,97]⟩ 2=some (shop0,true):=by kernel_rfl
theorem lvq1:(Ab (idx shop0.logs_ 0) fun x=>Di x 0 3 4)=some (head0,0):=by kernel_rfl
theorem lvq2:Cw shop0.c_ head0=some (cli0,0):=by kernel_rfl
theorem lvq3:(FY ⟨#[]⟩ shop0.c_.Roots shop0.c_.Logs 0).map Prod.snd=some 1:=by kernel_rfl
theorem lvq4:Im [9] [] 1=some (cas0,0):=by kernel_rfl
theorem lvq5:IG cli0 cas0=some (cli1,0):=by kernel_rfl
theorem lvq6:(IG cli1 ⟨0,[]⟩).map Prod.snd=some 190:=by kernel_rfl
theorem lvq7:m_client_Check cli1=some 0:=by kernel_rfl
theorem lvq8:AD shop0.c_ shop0.o_ ⟨#[120,46,97]⟩ 4=some 240:=by kernel_rfl
theorem lvq9:AD cli0 shop0.o_ ⟨#[120,46,97]⟩ 4=some 0:=by kernel_rfl
theorem lvqa:AD cli0 shop0.o_ ⟨#[121,46,97]⟩ 4=some 110:=by kernel_rfl
theorem lvqb:AD cli0 shop0.o_ ⟨#[120,46,97]⟩ 8=some 190:=by kernel_rfl
theorem lvqc:AD cli1 shop0.o_ ⟨#[120,46,97]⟩ 4=some 270:=by kernel_rfl
theorem XI:Km=some true:=by
 unfold Km;rw[lvq0,Aa,Ak1 (by decide)];obtain⟨x,hx,h1⟩:=Ae lvq1;obtain⟨⟨z3,e3⟩,h3,rfl⟩:=Ak9.1 lvq3;obtain⟨⟨z6,e6⟩,h6,rfl⟩:=Ak9.1 lvq6;dsimp only;rw[hx,Aa,h1,Aa];dsimp only;rw[lvq2,Aa];dsimp only;rw[h3,Aa,lvq4,Aa];dsimp only;rw[lvq5,Aa];dsimp only;rw[h6,Aa,lvq7,lvq8,lvq9,lvqa,lvqb,lvqc];rfl
theorem Yg {c:g_api_Client}{o:g_api_Offer}{name:ByteArray}{now E:Int}{r}(h:B7 FB 6 0 (aSt c o name now (0,0) [])=some r)(q:(∃t,r= .inr (E,t))∨(E=0∧∃s,r= .inl s)):AD c o name now=some E:=by
 unfold AD CJ;show Ab (Ab (B7 FB 6 0 (aSt c o name now (0,0) [])) _) _=_;rw[h,Aa];rcases q with ⟨t,rfl⟩|⟨rfl,s,rfl⟩
 ·rfl
 ·rfl
def W5 (c:g_api_Client)(l:List g_api_Head):g_api_Client:=⟨c.Who,c.Roots,c.Logs,⟨l⟩,c.Cascade,c.View⟩
theorem AdO {c:g_api_Client}(h:m_client_Check c=some 0):A8 ⟨c⟩=some 0∧Ha c.Pool.L c.Logs=0∧CK c.Cascade=some 0:=by
 obtain⟨e1,h1⟩:=AfD ⟨c⟩;obtain⟨e3,h3⟩:=AaD c.Cascade;unfold m_client_Check at h;rw[AhQ h1 (show Cd ⟨c⟩=some (Ha c.Pool.L c.Logs)from by unfold Cd; rw[RN]; rfl) (show CA ⟨c⟩=some e3 from by unfold CA; rw[h3]; rfl),Aa]at h;have h:=AkY h;by_cases q1:e1=0
 ·rw[Ak1 (fun k=>k q1)]at h;by_cases q2:Ha c.Pool.L c.Logs=0
  ·rw[Ak1 (fun k=>k q2)]at h;exact⟨by rw[h1,q1],q2,by rw[h3,h]⟩
  ·rw[Ak3 q2]at h; exact absurd h q2
 ·rw[Ak3 q1]at h; exact absurd h q1
theorem WB {c:g_api_Client}(h1:A8 ⟨c⟩=some 0)(h2:Ha c.Pool.L c.Logs=0)(h3:CK c.Cascade=some 0):m_client_Check c=some 0:=by
 unfold m_client_Check;rw[AhQ h1 (show Cd ⟨c⟩=some (Ha c.Pool.L c.Logs)from by unfold Cd; rw[RN]; rfl) (show CA ⟨c⟩=some 0 from by unfold CA; rw[h3]; rfl),h2];rfl
theorem AcG (c:g_api_Client)(l:List g_api_Head):A8 ⟨W5 c l⟩=A8 ⟨c⟩:=rfl
theorem AkV {l:List g_api_Head}{h:g_api_Head}{ks:List g_api_Key}(e:(SH l h ks).2=0):Ha (SH l h ks).1 ks=0∧hasH (SH l h ks).1 h∧(∀x∈l,x∈(SH l h ks).1)∧l.length≤(SH l h ks).1.length∧(SH l h ks).1.length≤1024:=by
 by_cases hc:Ha l ks=0
 ·obtain⟨h1,h2,h3⟩:=OV.1 hc;by_cases hr:Kg h ks=true
  ·by_cases hb:Aj0 l h=true
   ·have hA:SH l h ks=(l,0):=by unfold SH; rw[Ak3 hc,Ak3 hr,Ak3 hb]
    rw[hA];exact⟨hc,UY.1 hb,fun _ q=>q,Ak6 _,h1⟩
   ·by_cases hl:l.length<1024
    ·have hA:SH l h ks=(Ob l h,0):=by unfold SH; rw[Ak3 hc,Ak3 hr,Ak1 hb,Ak3 hl]
     rw[hA];refine⟨OV.2 ⟨by rw[Qu]; omega,Yl h2 (fun q=>hb (UY.2 q)),fun x hx=> ?_⟩,Af5 (Oa.2 (.inl rfl)),fun x q=>Oa.2 (.inr q),by rw[Qu]; omega,by rw[Qu]; omega⟩;rcases Oa.1 hx with q|q
     ·rw[q]; exact hr
     ·exact h3 x q
    ·have hA:SH l h ks=([],2):=by unfold SH; rw[Ak3 hc,Ak3 hr,Ak1 hb,Ak1 hl]
     rw[hA]at e; cases e
  ·have hA:SH l h ks=([],40):=by unfold SH; rw[Ak3 hc,Ak1 hr]
   rw[hA]at e; cases e
 ·have hA:SH l h ks=([],Ha l ks):=by unfold SH; rw[Ak1 hc]
  rw[hA]at e; exact absurd e hc
theorem AhS (x:ByteArray):eqS x x=true:=PB.2 rfl
def oddB (c:UInt8):Bool:=(decide ((c.toNat:Int)<33))||(decide ((c.toNat:Int)>126))
def whoB (s:ByteArray):Bool:= !((eqS s (⟨#[]⟩:ByteArray))||(decide ((s.size:Int)>64)))&& !(s.data.toList.any oddB)
theorem Ail (l:List UInt8):AO l=some (l.any oddB):=by
 unfold AO BT;obtain⟨r,h1,h2⟩:=G9 (body:=A6 l) l oddB () (fun i=>(i:Int)) (fun i x hx=>by
  unfold A6 Ee oddB;rw[Dk hx,Aa,Bn,Aa];cases ((decide ((x.toNat:Int)<33))||(decide ((x.toNat:Int)>126)))<;>rfl)
 rw[h1,Aa];rcases h2 with ⟨j,k,q1,q2,rfl⟩|⟨q,rfl⟩
 ·rw[WN q1 q2];dsimp only;rw[Aa,ge0]
 ·rw[q]; rfl
theorem sizeL (s:ByteArray):s.data.toList.length=s.size:=rfl
def inB (k:UInt64):Bool:=(Dj k).getD false
theorem in_eqK (k:UInt64):Dj k=some (inB k):=by
 obtain⟨b,hb⟩:=Ad2 k;unfold inB; rw[hb]; rfl
def Afo (n:Int):Bool:=decide (0≤n)&&decide (n≤1099511627776)
theorem Zp (n:Int):Ct n=some (Afo n):=rfl
def keyB (s:Int)(k:g_api_Key):Bool:=(!decide (k.Log≤s))&&(Afo k.Log&&(Afo k.Delay&&inB k.Key))
def RI:Int→List g_api_Key→Bool
 |_,[]=>true
 |s,k::l=>keyB s k&&RI k.Log l
theorem Y6: ∀(l:List g_api_Key) (i s:Int),∃r,DO Bw l i s=some r∧(if RI s l=true then∃y,r= .inl y else r= .inr 1)
 | [],i,s=>⟨_,rfl,_,rfl⟩
 |x::l,i,s=>by
  have hb:Bw i x s=some (if keyB s x=true then .inl x.Log else .inr 1):=by
   unfold Bw keyB;rw[Zp,Zp,in_eqK];cases decide (x.Log≤s)<;>cases Afo x.Log<;>cases Afo x.Delay<;>cases inB x.Key<;>rfl
  show∃r,Ab (Bw i x s) _=_∧_;unfold RI;rw[hb];cases keyB s x with
  |false=>exact⟨_,rfl,rfl⟩
  |true=>exact Y6 l (i+1) x.Log
def WL (c:g_api_Cert):Bool:=(!c.Ca)||((if c.Ca=true then checkV c else default) !=0)
theorem AkN (l:List g_api_Cert):Ay l=some (l.any WL):=by
 unfold Ay Ba;obtain⟨r,h1,h2⟩:=G9 (body:=AM l) l WL () (fun i=>(i:Int)) (fun i x hx=>by
  unfold AM Ed WL;rw[Dk hx,Aa];have:gu (!(!x.Ca)) (Ck x)=some (if x.Ca=true then checkV x else default):=by
   rw[MW]; cases x.Ca<;>rfl
  rw[this,Aa,Aa];cases ((!x.Ca)||((if x.Ca=true then checkV x else default) !=0))<;>rfl)
 rw[h1,Aa];rcases h2 with ⟨j,k,q1,q2,rfl⟩|⟨q,rfl⟩
 ·rw[WN q1 q2];dsimp only;rw[Aa,ge0]
 ·rw[q]; rfl
def AfE (c:g_api_Client):Bool:=whoB c.Who&&(!(((c.Roots.length:Int)==0)||(decide ((c.Roots.length:Int)>8)))&&(!(c.Roots.any WL)&&(RI (-1) c.Logs&& !((decide ((c.Logs.length:Int)>16))||((c.View !=0)&&(c.View !=1))))))
theorem Ajv (c:g_api_Client):A8 ⟨c⟩=some (if AfE c=true then 0 else 1):=by
 unfold A8 AfE whoB;dsimp only;cases hw:((eqS c.Who (⟨#[]⟩:ByteArray))||(decide ((c.Who.size:Int)>64)))with
 |true=>rfl
 |false=>
  have hl:c.Who.data.toList.length≤64:=by
   rw[Bool.or_eq_false_iff,decide_eq_false_iff_not]at hw;rw[sizeL]; omega
  rw[Ak1 (by decide),DQ 1 (by simp only[Alm]; omega) (by simp only[Alm]; omega),Aa,Alz,Ail,Aa,AkN];cases c.Who.data.toList.any oddB with
  |true=>rfl
  |false=>
   cases ((c.Roots.length:Int)==0)with
   |true=>rfl
   |false=>
    cases decide ((c.Roots.length:Int)>8)with
    |true=>rfl
    |false=>
     rw[show(!((false||false)||false))=true from rfl,Aj2,Aa];cases c.Roots.any WL with
     |true=>rfl
     |false=>
      rw[Ak1 (by decide)];obtain⟨r,h1,h2⟩:=Y6 c.Logs 0 (-1);rw[h1,Aa];cases hk:RI (-1) c.Logs with
      |false=>
       rw[hk,Ak1 (by decide)]at h2;subst h2; rfl
      |true=>
       rw[hk,Ak3 rfl]at h2;obtain⟨y,rfl⟩:=h2;dsimp only;cases ((decide ((c.Logs.length:Int)>16))||((c.View !=0)&&(c.View !=1)))<;>rfl
theorem Ji {l:g_api_Log}(h:chk l=0):XA l=true∧okL (l.L++l.Wait) []=true∧okH l.Hide (-1) (l.L.length:Int)=true∧(l.L++l.Wait).length≤256:=by
 unfold chk at h;cases h0:XA l with
 |false=>rw[h0]at h; simp at h
 |true=>
  cases h1:okL (l.L++l.Wait) []with
  |false=>rw[h0,h1]at h; simp at h
  |true=>
   cases h2:okH l.Hide (-1) (l.L.length:Int)with
   |false=>rw[h0,h1,h2]at h; simp at h
   |true=>
    rw[h0,h1,h2]at h;simp only[if_true]at h;by_cases h3:256<(l.L++l.Wait).length
    ·rw[Ak3 h3]at h; cases h
    ·exact⟨rfl,rfl,rfl,by omega⟩
theorem Zs {l:g_api_Log}(h0:XA l=true)(h1:okL (l.L++l.Wait) []=true)(h2:okH l.Hide (-1) (l.L.length:Int)=true)(h3:(l.L++l.Wait).length≤256):chk l=0:=by
 unfold chk;rw[h0,h1,h2];simp only[if_true];rw[Ak1 (by omega)]
theorem Wc {l:g_api_Log}(h:XA l=true):1≤l.Key.toNat∧l.Key.toNat<GR∧IQ l.Id=true:=by
 unfold XA at h;simp only[AkZ,Bool.not_eq_true',Ak7,decide_eq_false_iff_not]at h;simp only[GR];exact⟨by omega,by omega,h.1.1.1.1⟩
theorem Aji: ∀(xs:List g_api_Leaf) (ks:List (List UInt8)) (x:g_api_Leaf),okL (xs++[x]) ks=(okL xs ks&&(IA x.Body&&IQ x.At&& !decide (x.Body∈ks++xs.map (·.Body)))):=by
 intro xs;induction xs with
 |nil=>intro ks x; simp[okL]
 |cons y xs ih=>
  intro ks x;show((IA y.Body&&IQ y.At&& !decide (y.Body∈ks))&&okL (xs++[x]) (ks++[y.Body]))=(((IA y.Body&&IQ y.At&& !decide (y.Body∈ks))&&okL xs (ks++[y.Body]))&&_);rw[ih,Bool.and_assoc];simp[Bool.and_assoc]
theorem Afm: ∀{xs:List g_api_Leaf} {ks:List (List UInt8)},okL xs ks=true→∀x∈xs,x.Body.length≤2048:=by
 intro xs;induction xs with
 |nil=>intro ks _ x hx; cases hx
 |cons y xs ih=>
  intro ks h x hx;have h':((IA y.Body&&IQ y.At&& !decide (y.Body∈ks))&&okL xs (ks++[y.Body]))=true:=h;rw[AkZ,AkZ,AkZ]at h';rcases Als.1 hx with rfl|hx
  ·have:=h'.1.1.1;unfold IA at this;simp at this;exact this.2
  ·exact ih h'.2 x hx
theorem Afn: ∀{xs:List Int} {last n m:Int},n≤m→okH xs last n=true→okH xs last m=true:=by
 intro xs;induction xs with
 |nil=>intro last n m _ _; rfl
 |cons x xs ih=>
  intro last n m hnm h;have h':((!decide (x≤last)&& !decide (n≤x))&&okH xs x n)=true:=h;show((!decide (x≤last)&& !decide (m≤x))&&okH xs x m)=true;rw[AkZ,AkZ]at h'⊢;refine⟨⟨h'.1.1,?_⟩,ih hnm h'.2⟩;have:=h'.1.2;simp at this⊢;omega
def J4 (l:g_api_Log):g_api_Key:=⟨l.Id,K0 l.Key,l.Delay⟩
theorem Z4 {l:g_api_Log}(hl:l.L.length+l.Wait.length≤100000)(h:chk l=0):I3 l=some (J4 l,0):=by
 obtain⟨k1,k2,k3⟩:=Wc (Ji h).1;unfold I3;rw[PC hl,Aa,h,Ak1 (by decide),Rf k1 k2,Aa]; rfl
def JD (l:g_api_Log)(t:Int)(b:List UInt8):g_api_Promise:=⟨l.Id,t,H7 b,Mu l.Key (Uw ⟨l.Id,t,H7 b,⟨0,0⟩⟩)⟩
def WX (l:g_api_Log)(b:List UInt8)(t:Int):g_api_Log:=⟨l.Id,l.Key,l.Delay,l.L,l.Hide,l.Wait++[⟨b,t⟩]⟩
def Rt (l:g_api_Log):g_api_Log:=⟨l.Id,l.Key,l.Delay,l.L++l.Wait,l.Hide,[]⟩
theorem Yf {l:g_api_Log}{b:List UInt8}{now:Int}(hl:l.L.length+l.Wait.length≤100000)(h:chk l=0)(ha:(IA b&&IQ now)=true)(hj:PA (l.L++l.Wait) b 0=none)(hn:(l.L++l.Wait).length≠256):
  Dd l b now=some (WX l b now,JD l now b,0):=by
 obtain⟨k1,k2,k3⟩:=Wc (Ji h).1;rw[AkZ]at ha;have hbl:b.length≤600000:=by have:=ha.1; unfold IA at this; simp at this; omega
 have hnil:([]:List g_api_Leaf).length=0:=rfl;have hnb:([]:List UInt8).length=0:=rfl;unfold Dd;rw[PC hl,Aa,h,Ak1 (by decide),Wh,Aa,GF,ha.1,ha.2];rw[show gu (!!true) (some true)=some true from rfl,Aa,Ak1 (show¬((!true)||(!true))=true by decide),Ad9 hl,Aa,AfY (by simp; omega),hj,Aa];dsimp only;rw[Ak1 (by simp),Ak1 (by rw[AlM]; omega)];unfold BZ Jd;rw[DQ 32 (by omega) (by omega),Aa,Aa,DQ 1 (by omega) (by omega),Aa,Aa,Alz,Alz,DQ 32 (by simp; omega) (by simp; omega),Aa,RE hbl,Aa,PX,Aa,Xf k1 k2 (VZ _),Aa]; rfl
theorem RX {l:g_api_Log}{b:List UInt8}{now:Int}(h:chk l=0)(ha:(IA b&&IQ now)=true)(hj:PA (l.L++l.Wait) b 0=none)(hn:(l.L++l.Wait).length≠256):chk (WX l b now)=0:=by
 obtain⟨h0,h1,h2,h3⟩:=Ji h;have e:(WX l b now).L++(WX l b now).Wait=(l.L++l.Wait)++[⟨b,now⟩]:=by simp[WX]
 refine Zs h0 ?_ h2 ?_
 ·rw[e,Aji,h1,Alx,Alz];rw[ha,Alx,Bool.not_eq_true',decide_eq_false_iff_not];intro hm;obtain⟨x,hx,hxb⟩:=List.mem_map.1 hm;exact Aap hj x hx hxb
 ·rw[e,Ak5]; simp at h3 hn⊢; omega
theorem AaA {l:g_api_Log}(h:chk l=0):chk (Rt l)=0:=by
 obtain⟨h0,h1,h2,h3⟩:=Ji h;have e:(Rt l).L++(Rt l).Wait=l.L++l.Wait:=by simp[Rt]
 refine Zs h0 (by rw[e]; exact h1) ?_ (by rw[e]; exact h3);refine Afn ?_ h2;show(l.L.length:Int)≤((l.L++l.Wait).length:Int);simp; omega
theorem YW {l:g_api_Log}(hl:l.L.length+l.Wait.length≤100000)(h:chk l=0):Kl l=some (Rt l,0):=by
 unfold Kl;rw[PC hl,Aa,h,Ak1 (by decide),Ad9 hl,Aa]; rfl
theorem WE {l:g_api_Log}{t:Int}{b:List UInt8}(h:XA l=true)(ht:IQ t=true):C1 (J4 l) (JD l t b)=some 0:=by
 obtain⟨k1,k2,k3⟩:=Wc h;have hs:=PD (k:=l.Key) (msg:=Uw ⟨l.Id,t,H7 b,⟨0,0⟩⟩) k1 k2 (VZ _);have hb:Uw (JD l t b)=Uw ⟨l.Id,t,H7 b,⟨0,0⟩⟩:=by simp only[Uw,JD]
 have e1:(JD l t b).Log=l.Id:=by simp only[JD]
 have e2:(JD l t b).At=t:=by simp only[JD]
 have e3:(JD l t b).Sig=Mu l.Key (Uw ⟨l.Id,t,H7 b,⟨0,0⟩⟩):=by simp only[JD]
 have p1:(J4 l).Log=l.Id:=rfl;have p2:(J4 l).Key=K0 l.Key:=rfl;unfold C1 ES;rw[PX,hb,e1,e2,e3,p1,p2,GF,Aa,Aa,GF,Aa,k3,ht,Ak1 (by decide),Ak1 (by simp),hs,Aa,Aa]
def IW (l:g_api_Log)(n:Int)(r:UInt64×UInt64)(t:Int):g_api_Head:=⟨l.Id,n,r,t,Mu l.Key (UX ⟨l.Id,n,r,t,⟨0,0⟩⟩)⟩
theorem WG {l:g_api_Log}{n t:Int}{r:UInt64×UInt64}(h:XA l=true)(ht:IQ t=true)(hn:0≤n∧n≤256):CR (J4 l) (IW l n r t)=some 0:=by
 obtain⟨k1,k2,k3⟩:=Wc h;have hs:=PD (k:=l.Key) (msg:=UX ⟨l.Id,n,r,t,⟨0,0⟩⟩) k1 k2 (RL _);have hb:UX (IW l n r t)=UX ⟨l.Id,n,r,t,⟨0,0⟩⟩:=by simp only[UX,IW]
 have e1:(IW l n r t).Log=l.Id:=by simp only[IW]
 have e2:(IW l n r t).At=t:=by simp only[IW]
 have e3:(IW l n r t).Sig=Mu l.Key (UX ⟨l.Id,n,r,t,⟨0,0⟩⟩):=by simp only[IW]
 have e4:(IW l n r t).Size=n:=by simp only[IW]
 have p1:(J4 l).Log=l.Id:=rfl;have p2:(J4 l).Key=K0 l.Key:=rfl;unfold CR ES;rw[Rq,hb,e1,e2,e3,e4,p1,p2,GF,Aa,Aa,GF,Aa,k3,ht,All hn.2,All (show n≥0 from hn.1),Ak1 (by decide),Ak1 (by simp),hs,Aa,Aa]
abbrev Sm:=UInt64×UInt64
def hp (n:Nat):Nat:=2^Nat.log2 (n-1)
theorem Aak {n:Nat}(h:2≤n):hp n<n:=by
 have:=Nat.log2_self_le (n:=n-1) (by omega);unfold hp; omega
theorem Tq (n:Nat):0<hp n:=Nat.two_pow_pos _
theorem hp_eq {n j:Nat}(h1:2^j<n)(h2:n≤2^ (j+1)):hp n=2^j:=by
 unfold hp;have:Nat.log2 (n-1)=j:=by
  rw[Nat.log2_eq_iff (by have:=Nat.two_pow_pos j; omega)];omega
 rw[this]
def KB (l:List Sm):Sm:=if h:l.length≤1 then l.headD default else J5 (KB (l.take (hp l.length))) (KB (l.drop (hp l.length)))
termination_by l.length
decreasing_by
 ·have:=Aak (n:=l.length) (by omega); simp; omega
 ·have:=Tq l.length; simp; omega
theorem VU (x:Sm):KB [x]=x:=by rw[KB]; simp
theorem OE {l:List Sm}(h:2≤l.length):KB l=J5 (KB (l.take (hp l.length))) (KB (l.drop (hp l.length))):=by
 rw[KB]; rw[dif_neg (by omega)]
def Fv:List Sm→List Sm
 |x::y::l=>J5 x y::Fv l
 |_=> []
theorem K4: ∀(n:Nat) (l:List Sm),l.length=2*n→(Fv l).length=n:=by
 intro n;induction n with
 |zero=>intro l h; have:l=[]:=List.eq_nil_of_length_eq_zero (by omega); subst this; rfl
 |succ n ih=>
  intro l h;match l,h with
  |x::y::l,h=>simp only[Fv,Ak8]; rw[ih l (by simp at h; omega)]
theorem Aaa: ∀(n:Nat) (l:List Sm),l.length=2*n→∀(i:Nat) (a b:Sm),l[2*i]? =some a→l[2*i+1]? =some b→(Fv l)[i]? =some (J5 a b):=by
 intro n;induction n with
 |zero=>intro l h i a b ha; have:l=[]:=List.eq_nil_of_length_eq_zero (by omega); subst this; simp at ha
 |succ n ih=>
  intro l h i a b ha hb;match l,h with
  |x::y::l,h=>
   cases i with
   |zero=>simp at ha hb; subst ha; subst hb; rfl
   |succ i=>
    simp only[Fv,List.getElem?_cons_succ];exact ih l (by simp at h; omega) i a b (by simpa[Nat.mul_succ]using ha) (by simpa[Nat.mul_succ]using hb)
theorem Aab: ∀(n:Nat) (a b:List Sm),a.length=2*n→Fv (a++b)=Fv a++Fv b:=by
 intro n;induction n with
 |zero=>intro a b h; have:a=[]:=List.eq_nil_of_length_eq_zero (by omega); subst this; rfl
 |succ n ih=>
  intro a b h;match a,h with
  |x::y::l,h=>simp only[Fv,Amc]; rw[ih l b (by simp at h; omega)]
theorem AkO {n:Nat}{l:List Sm}(hl:l.length=2*n)(hn:n≤1000){i:Nat}(hi:i<n):
  Cz (n:Int) ((i:Int),(Fv l).take i++l.drop i)=some (.inl (((i+1:Nat):Int),(Fv l).take (i+1)++l.drop (i+1))):=by
 have hp:=K4 n l hl;have ht:((Fv l).take i).length=i:=by simp; omega
 have w1:w64 (2*(i:Int))=((2*i:Nat):Int):=by rw[Bo (by omega) (by omega)]; omega
 have w2:w64 (((2*i:Nat):Int)+1)=((2*i+1:Nat):Int):=by rw[Bo (by omega) (by omega)]; omega
 obtain⟨a,ha⟩: ∃a,l[2*i]? =some a:=⟨l[2*i]'(by omega),by simp⟩;obtain⟨b,hb⟩: ∃b,l[2*i+1]? =some b:=⟨l[2*i+1]'(by omega),by simp⟩;have g: ∀k x,l[i+k]? =some x→((Fv l).take i++l.drop i)[i+k]? =some x:=fun k x hx=>by
  rw[List.getElem?_append_right (by omega),ht,Nat.add_sub_cancel_left,List.getElem?_drop]; exact hx
 have i1:idx ((Fv l).take i++l.drop i) (((2*i:Nat)):Int)=some a:=Dk (by rw[show 2*i=i+i from by omega]at ha⊢; exact g i a ha);have i2:idx ((Fv l).take i++l.drop i) (((2*i+1:Nat)):Int)=some b:=Dk (by rw[show 2*i+1=i+(i+1)from by omega]at hb⊢; exact g (i+1) b hb);obtain⟨c,hc⟩: ∃c,l[i]? =some c:=⟨l[i]'(by omega),by simp⟩;have i3:idx ((Fv l).take i++l.drop i) (i:Int)=some c:=Dk (by have:=g 0 c (by simpa using hc); simpa using this);have hpg:=Aaa n l hl i a b ha hb;have w3:w64 ((i:Int)+1)=((i+1:Nat):Int):=by rw[Bo (by omega) (by omega)]; rfl
 unfold Cz;dsimp only;rw[Ak3 (All (show(i:Int)<(n:Int) by omega))];simp only[w1,i1,Aa,w2,i2,Ps,i3,Bn,AlJ,w3];refine Alv (fun z=>some (Sum.inl (((i+1:Nat):Int),z))) ?_;rw[List.set_append_right _ _ (by omega),ht,Nat.sub_self];have hd:l.drop i=c::l.drop (i+1):=by
  have hlt:i<l.length:=by omega
  rw[List.drop_eq_getElem_cons hlt];rw[AlK hlt]at hc;rw[AkY hc]
 rw[hd,List.set_cons_zero,List.take_add_one,hpg];simp
theorem b3_all {n:Nat}{l:List Sm}(hl:l.length=2*n)(hn:n≤1000): ∀(k i m:Nat),i+k=n→k<m→iter (Cz (n:Int)) m ((i:Int),(Fv l).take i++l.drop i)=some (Fv l++l.drop n):=by
 intro k;induction k with
 |zero=>
  intro i m h hm;have:=K4 n l hl;have e:i=n:=by omega
  subst e;obtain⟨m,rfl⟩: ∃q,m=q+1:=⟨m-1,by omega⟩;refine CF ?_;unfold Cz;dsimp only;rw[Ak1 (fun h=>by have:=AlW h; omega),Alw (by omega)]
 |succ k ih=>
  intro i m h hm;obtain⟨m,rfl⟩: ∃q,m=q+1:=⟨m-1,by omega⟩;rw[B8 (AkO hl hn (show i<n by omega))];exact ih (i+1) m (by omega) (by omega)
theorem b2_of {l s:List Sm}{x y:Int}(h1:(l.length:Int)>1)(h2:w64 (Int.tdiv (l.length:Int) 2)=x)(h3:iter (Cz x) F7 (0,l)=some s)(h4:w64 (Int.tdiv (s.length:Int) 2)=y)(h5:0≤y∧y≤(s.length:Int)):
  CZ l=some (.inl (s.take y.toNat)):=by
 unfold CZ;rw[Ak3 (All h1),h2,Bn,h3,Aa,Aa,h4,Bn,Ak3 h5]
theorem Adh {n m:Nat}(h:m=2*n)(hn:n≤1000):w64 (Int.tdiv (m:Int) 2)=(n:Int):=by
 subst h;have:Int.tdiv ((2*n:Nat):Int) 2=(n:Int):=by
  rw[Int.tdiv_eq_ediv_of_nonneg (by omega)]; omega
 rw[this,Bo (by omega) (by omega)]
theorem AkP {n:Nat}{l:List Sm}(hl:l.length=2*n)(h1:1≤n)(hn:n≤1000):CZ l=some (.inl (Fv l)):=by
 have hp:=K4 n l hl;have hb:iter (Cz (n:Int)) F7 (0,l)=some (Fv l++l.drop n):=by
  have:=b3_all hl hn n 0 F7 (by omega) (by unfold F7; omega);rw[List.take_zero,List.drop_zero,Alz]at this;exact this
 have hs:(Fv l++l.drop n).length=2*n:=by rw[Ak5,hp,AlF]; omega
 have:=b2_of (by omega) (Adh hl hn) hb (Adh hs hn) ⟨by omega,by omega⟩;rw[this,AlJ,List.take_append_of_le_length (by omega),Alw (by omega)]
def red:Nat→List Sm→List Sm
 |0,l=>l
 |j+1,l=>red j (Fv l)
theorem Ai5: ∀(j:Nat) (l:List Sm),red (j+1) l=Fv (red j l):=by
 intro j;induction j with
 |zero=>intro l; rfl
 |succ j ih=>intro l; rw[red,ih (Fv l)]; rfl
theorem Ai6: ∀(j:Nat) (k:Nat) (a b:List Sm),a.length=2^j*k→red j (a++b)=red j a++red j b:=by
 intro j;induction j with
 |zero=>intro k a b _; rfl
 |succ j ih=>
  intro k a b h;have h':a.length=2*(2^j*k):=by rw[h,Al6]; rw[Nat.mul_assoc,Al2 2 k,←Nat.mul_assoc,Al2 _ 2]
  rw[red,red,red,Aab _ a b h',ih k _ _ (K4 _ _ h')]
theorem Ae7: ∀(j:Nat) (l:List Sm),l.length=2^j→red j l=[KB l]:=by
 intro j;induction j with
 |zero=>
  intro l h;match l,h with
  | [x],_=>rw[VU]; rfl
 |succ j ih=>
  intro l h;have hpw:=Nat.two_pow_pos j;have h2:l.length=2^j+2^j:=by rw[h,Al6]; omega
  have hh:hp l.length=2^j:=hp_eq (by omega) (by omega);rw[OE (by omega),hh,Ai5];have ea:(l.take (2^j)).length=2^j:=by simp; omega
  have eb:(l.drop (2^j)).length=2^j:=by simp; omega
  have:=Ai6 j 1 (l.take (2^j)) (l.drop (2^j)) (by rw[ea]; omega);rw[List.take_append_drop]at this;rw[this,ih _ ea,ih _ eb];rfl
theorem AkQ: ∀(j:Nat) (l:List Sm),l.length=2^j→j≤9→iter CZ (j+1) l=some (red j l):=by
 intro j;induction j with
 |zero=>
  intro l h _;refine CF ?_;simp only[CZ];rw[Ak1 (by simp; omega)]; rfl
 |succ j ih=>
  intro l h hj;have hpw:2^j≤2^8:=Nat.pow_le_pow_right (by omega) (by omega);have hpos:=Nat.two_pow_pos j;have h':l.length=2*2^j:=by rw[h,Al6]; omega
  rw[B8 (AkP h' (by omega) (by omega)),red];exact ih _ (K4 _ _ h') (by omega)
theorem rev_of {α:Type}{b1:Int×Int×List α→Option ((Int×Int×List α)⊕List α)}
  (hb: ∀s1,b1 s1=if(decide (s1.1<s1.2.1))=true then
   Ab (idx s1.2.2 s1.2.1) fun x4=>Ab (idx s1.2.2 s1.1) fun x5=>Ab (idx s1.2.2 s1.1) fun x6=>bnd (s1.2.2.set s1.1.toNat x4) fun x7=>
   Ab (idx x7 s1.2.1) fun x8=>bnd (x7.set s1.2.1.toNat x5) fun x9=>some (.inl ((w64 (s1.1+1)),(w64 (s1.2.1-1)),x9))
   else some (.inr s1.2.2)) (xs:List α) (hn:xs.length≤1000000):
  ∀(k i:Nat) (s:List α),s.length=xs.length→xs.length≤k+i→(∀q,q<xs.length→s[q]? =if q<i∨xs.length≤q+i then xs[xs.length-1-q]? else xs[q]?)→
   iter b1 (k+1) ((i:Int),(xs.length:Int)-1-i,s)=some xs.reverse:=by
 intro k;induction k with
 |zero=>
  intro i s hl hk hq;rw[CF (t:=s)]
  ·refine Alv some (List.ext_getElem? fun q=> ?_);by_cases h:q<xs.length
   ·rw[hq q h,Ak3 (by omega),List.getElem?_reverse h]
   ·rw[List.getElem?_eq_none (by omega),List.getElem?_eq_none (by simp; omega)]
  ·rw[hb,Ak1 (by simp; omega)]
 |succ k ih=>
  intro i s hl hk hq;by_cases hlt:(i:Int)<(xs.length:Int)-1-i
  ·have hj:((xs.length:Int)-1-i)=((xs.length-1-i:Nat):Int):=by omega
   obtain⟨a,ha⟩: ∃a,s[xs.length-1-i]? =some a:=⟨s[xs.length-1-i]'(by omega),by simp⟩;obtain⟨b,hb'⟩: ∃b,s[i]? =some b:=⟨s[i]'(by omega),by simp⟩;have ia:idx s ((xs.length-1-i:Nat):Int)=some a:=Dk ha;have ib:idx s (i:Int)=some b:=Dk hb';have ha2:(s.set i a)[xs.length-1-i]? =some a:=by rw[List.getElem?_set_ne (by omega)]; exact ha
   have ia2:idx (s.set i a) ((xs.length-1-i:Nat):Int)=some a:=Dk ha2;have w1:w64 ((i:Int)+1)=((i+1:Nat):Int):=by rw[Bo (by omega) (by omega)]; omega
   have w2:w64 (((xs.length-1-i:Nat):Int)-1)=(xs.length:Int)-1-((i+1:Nat):Int):=by rw[Bo (by omega) (by omega)]; omega
   rw[B8 (s':=(((i+1:Nat):Int),(xs.length:Int)-1-((i+1:Nat):Int),(s.set i a).set (xs.length-1-i) b))]
   ·refine ih (i+1) _ (by simp[hl]) (by omega) fun q hqq=> ?_;have hqi:=hq i (by omega);have hqj:=hq (xs.length-1-i) (by omega);rw[Ak1 (by omega)]at hqi hqj;by_cases e1:q=xs.length-1-i
    ·subst e1;rw[List.getElem?_set_self (by simp; omega),Ak3 (by omega)];rw[show xs.length-1-(xs.length-1-i)=i from by omega,←hqi,hb']
    ·rw[List.getElem?_set_ne (Ne.symm e1)];by_cases e2:q=i
     ·subst e2;rw[List.getElem?_set_self (by omega),Ak3 (by omega)];rw[←ha,hqj]
     ·rw[List.getElem?_set_ne (Ne.symm e2),hq q hqq];by_cases e3:q<i∨xs.length≤q+i
      ·rw[Ak3 e3,Ak3 (by omega)]
      ·rw[Ak1 e3,Ak1 (by omega)]
   ·rw[hb,Ak3 (All hlt)];simp only[hj,ia,ib,Aa,Bn,AlJ,ia2,w1,w2]
  ·rw[CF (t:=s)]
   ·refine Alv some (List.ext_getElem? fun q=> ?_);by_cases h:q<xs.length
    ·rw[hq q h,List.getElem?_reverse h];by_cases e3:q<i∨xs.length≤q+i
     ·rw[Ak3 e3]
     ·rw[Ak1 e3,show xs.length-1-q=q from by omega]
    ·rw[List.getElem?_eq_none (by omega),List.getElem?_eq_none (by simp; omega)]
   ·rw[hb,Ak1 (by simpa using hlt)]
theorem AiZ (xs:List Am)(hn:xs.length≤1000000):Bd xs=some xs.reverse:=by
 have h:=rev_of (b1:=CH) (fun _=>rfl) xs hn xs.length 0 xs rfl (by omega) (fun q hq=>by rw[Ak1 (by omega)]);have h':=Gy _ h (by omega);have w:w64 ((xs.length:Int)-1)=(xs.length:Int)-1-((0:Nat):Int):=by rw[Bo (by omega) (by omega)]; omega
 unfold Bd;rw[Bn,w];rw[show((0:Int),(xs.length:Int)-1-((0:Nat):Int),xs)=(((0:Nat):Int),(xs.length:Int)-1-((0:Nat):Int),xs)from rfl,h',Aa]
theorem AcO:((List.range 301).all fun n=>match Fj (toU (n:Int))with|some r=>decide (r=(if n=0 then 0 else((Nat.log2 n+1:Nat):Int)))|none=>false)=true:=by kernel_rfl
theorem AcN {n:Nat}(h1:1≤n)(h2:n≤300):Fj (toU (n:Int))=some ((Nat.log2 n+1:Nat):Int):=by
 have h:=Alj.1 AcO n (List.mem_range.2 (by omega));split at h
 ·rename_i r hr;have:=AlW h;rw[Ak1 (by omega)]at this;rw[hr,this]
 ·cases h
theorem Ahx {n:Nat}(h1:1≤n)(h2:n≤300):Nat.log2 n≤8:=by
 have:Nat.log2 n<9:=(Nat.log2_lt (by omega)).2 (by omega);omega
theorem Abq {j:Nat}(h:j≤8):Un 1 j=((2^j:Nat):Int):=by
 have e: ∀j,j≤8→Un 1 j=((2^j:Nat):Int):=by decide
 exact e j h
def Hd:Nat→List Sm→List Am
 |0,_=> []
 |n+1,l=>if l.length=0 then []else⟨((2^Nat.log2 l.length:Nat):Int),KB (l.take (2^Nat.log2 l.length))⟩::Hd n (l.drop (2^Nat.log2 l.length))
def Z6:List Am→Am→Option (Bool×List Am):=fun s b0=>Ab (AF b0 s) fun y=>some (true,y)
theorem Afh {s:List Am}{b:Am}(h:s.length≤100000):Z6 s b=some (true,s++[b]):=by
 simp only[Z6,AF];rw[DQ 24 (by simp; omega) (by simp; omega)]; rfl
theorem AkR {l:List Sm}{out:List Am}(h1:1≤l.length)(h2:l.length≤300)(ho:out.length≤100000):
  C0 Z6 (l,out)=some (.inl (l.drop (2^Nat.log2 l.length),out++[⟨((2^Nat.log2 l.length:Nat):Int),KB (l.take (2^Nat.log2 l.length))⟩])):=by
 have hj:=Ahx h1 h2;have hle:=Nat.log2_self_le (n:=l.length) (by omega);have w1:w64 (((Nat.log2 l.length+1:Nat):Int)-1)=((Nat.log2 l.length:Nat):Int):=by rw[Bo (by omega) (by omega)]; omega
 have hc1:cut l 0 ((2^Nat.log2 l.length:Nat):Int)=some (l.take (2^Nat.log2 l.length)):=by
  have:=NF (xs:=l) (lo:=0) (hi:=2^Nat.log2 l.length) (Ama _) hle;simpa using this
 have hc2:cut l ((2^Nat.log2 l.length:Nat):Int) (l.length:Int)=some (l.drop (2^Nat.log2 l.length)):=by
  rw[NF hle (by omega)]; refine Alv some ?_; rw[Alw (by simp)]
 have hcl:BG (l.take (2^Nat.log2 l.length))=some (l.take (2^Nat.log2 l.length)):=by
  simp only[BG];rw[DQ 16 (by simp; omega) (by simp; omega)]; rfl
 have hlt:(l.take (2^Nat.log2 l.length)).length=2^Nat.log2 l.length:=by simp; omega
 have hit:=Gy _ (AkQ _ _ hlt (by omega)) (by omega);rw[Ae7 _ _ hlt]at hit;have hix:idx [KB (l.take (2^Nat.log2 l.length))] 0=some (KB (l.take (2^Nat.log2 l.length))):=rfl;unfold C0;rw[Ak3 (All (by simp; omega))];rw[AcN h1 h2,Aa,w1,Ak3 (by omega),Bn,AlJ,Abq hj,hc1,Aa,hcl,Aa,hit,Aa,Aa,hix,Aa,Afh ho,Aa,Ak1 (by simp),hc2,Aa]
theorem AkS: ∀(n:Nat) (l:List Sm) (out:List Am),l.length≤n→l.length≤300→out.length+n≤100000→
  iter (C0 Z6) (n+1) (l,out)=some (.inl ([],out++Hd n l)):=by
 intro n;induction n with
 |zero=>
  intro l out h _ _;have:l=[]:=List.eq_nil_of_length_eq_zero (by omega);subst this;refine CF ?_;simp only[C0,Hd,AlB];rfl
 |succ n ih=>
  intro l out h h2 ho;by_cases h0:l.length=0
  ·have:l=[]:=List.eq_nil_of_length_eq_zero h0;subst this;refine CF ?_;simp only[C0,Hd,Alm,if_true,AlB];rfl
  ·have hp:=Nat.two_pow_pos (Nat.log2 l.length);rw[B8 (AkR (by omega) h2 (by omega)),ih _ _ (by simp; omega) (by simp; omega) (by simp; omega)];simp only[Hd];rw[Ak1 h0];simp
theorem Aaw (l:List Sm)(h:l.length≤300): ∃q,BV l=some (Hd l.length l,q):=by
 have hi:=Gy _ (AkS l.length l [] (by omega) h (by simp; omega)) (by omega);refine⟨[],?_⟩;have hp:E5 Z6 l []=some ([],Hd l.length l):=by
  unfold E5;rw[hi,Aa];simp
 have ha:AJ [] l=some (Hd l.length l,[]):=by
  unfold AJ;show Ab (E5 Z6 l []) _=_;rw[hp,Aa]
 unfold BV;rw[ha,Aa]
def Ads:List Am→Sm
 | []=>default
 | [p]=>p.root_
 |p::q::ps=>J5 p.root_ (Ads (q::ps))
theorem Adr (p:Am): ∀ps:List Am,Ads (ps++[p])=ps.foldr (fun q s=>J5 q.root_ s) p.root_:=by
 intro ps;induction ps with
 |nil=>rfl
 |cons q ps ih=>
  cases ps with
  |nil=>rfl
  |cons r ps=>simp only[Amc,Ads,List.foldr_cons]at ih⊢; rw[ih]
theorem AiY: ∀(ps:List Am) (i:Int) (s:Sm),D1 IT ps i s=some (ps.foldl (fun s q=>J5 q.root_ s) s):=by
 intro ps;induction ps with
 |nil=>intro i s; rfl
 |cons p ps ih=>intro i s; simp only[D1,IT,Ps,Aa,List.foldl_cons]; exact ih _ _
theorem Xx: ∀(n:Nat) (l:List Sm),l.length≤n→1≤l.length→Ads (Hd n l)=KB l:=by
 intro n;induction n with
 |zero=>intro l h h1; omega
 |succ n ih=>
  intro l h h1;have hle:=Nat.log2_self_le (n:=l.length) (by omega);have hlt:=Nat.lt_log2_self (n:=l.length);have hpw:=Nat.two_pow_pos (Nat.log2 l.length);simp only[Hd];rw[Ak1 (by omega)];by_cases he:l.length=2^Nat.log2 l.length
  ·have hd:l.drop (2^Nat.log2 l.length)=[]:=AlH (by omega);have ht:l.take (2^Nat.log2 l.length)=l:=Alw (by omega);rw[hd,ht];have:Hd n ([]:List Sm)=[]:=by cases n<;>simp[Hd]
   rw[this]; rfl
  ·have hh:hp l.length=2^Nat.log2 l.length:=hp_eq (by omega) (by omega);have ih':=ih (l.drop (2^Nat.log2 l.length)) (by simp; omega) (by simp; omega);have hne:Hd n (l.drop (2^Nat.log2 l.length))≠[]:=by
    cases n with
    |zero=>omega
    |succ n=>simp only[Hd]; rw[Ak1 (by simp; omega)]; simp
   rw[OE (l:=l) (by omega),hh];obtain⟨q,qs,hq⟩:=List.exists_cons_of_ne_nil hne;rw[hq]at ih'⊢;simp only[Ads];rw[ih']
def Sx (l:List Sm):Sm:=if l.length=0 then AaN ⟨#[101,109,112,116,121]⟩ []else KB l
theorem Z9: ∀(n:Nat) (l:List Sm),(Hd n l).length≤n:=by
 intro n;induction n with
 |zero=>intro l; simp[Hd]
 |succ n ih=>intro l; simp only[Hd]; split<;>simp; exact ih _
theorem Xm (l:List Sm)(h:l.length≤300):Gl l=some (Sx l):=by
 obtain⟨q,hc⟩:=Aaw l h;have hlen:=Z9 l.length l;unfold Gl Sx;rw[show KE l=some l from rfl,Aa,hc,Aa];by_cases h0:l.length=0
 ·have hl:l=[]:=List.eq_nil_of_length_eq_zero h0;subst hl;rw[Ak3 (by rfl),Ak3 (show([]:List Sm).length=0 from rfl),KU _ _ (by decide),Aa]
 ·have hf:=Xx l.length l (by omega) (by omega);have hne:Hd l.length l≠[]:=by
   intro e;have hh: ∃n,l.length=n+1:=⟨l.length-1,by omega⟩;obtain⟨n,hn⟩:=hh;rw[hn]at e;simp only[Hd]at e;rw[Ak1 h0]at e; cases e
  rw[Ak1 h0];obtain⟨init,last,hil⟩: ∃init last,Hd l.length l=init++[last]:=⟨_,_,(List.dropLast_concat_getLast hne).symm⟩;rw[hil]at hf hlen⊢;rw[Ak1 (by simp; omega),AiZ _ (show(init++[last]).length≤1000000 from by omega),Aa,List.reverse_append,List.reverse_singleton,List.singleton_append];have e1:idx (last::init.reverse) 0=some last:=rfl;have e2:cut (last::init.reverse) 1 ((last::init.reverse).length:Int)=some init.reverse:=by
   have:=NF (xs:=last::init.reverse) (lo:=1) (hi:=(last::init.reverse).length) (by simp) (by omega);rw[show((1:Nat):Int)=1 from rfl]at this;rw[this]; simp[Alw]
  rw[e1,Aa,e2,Aa,show(last.root_.1,last.root_.2)=last.root_ from rfl,AiY,Aa,Aa,List.foldl_reverse];rw[Adr]at hf;rw[←hf]
def JY (a l:Nat):List Bool:=if h:l=0 then []else if a%2=1 then true::JY (a/2) (l/2)else if a=l then JY (a/2) (l/2)else false::JY (a/2) (l/2)
termination_by l
decreasing_by all_goals omega
theorem IK (a:Nat):JY a 0=[]:=by rw[JY]; simp
theorem Jh {a l:Nat}(h:l≠0)(h1:a%2=1):JY a l=true::JY (a/2) (l/2):=by rw[JY,dif_neg h,Ak3 h1]
theorem MV {a:Nat}(h:a≠0)(h1:a%2=0):JY a a=JY (a/2) (a/2):=by rw[JY,dif_neg h,Ak1 (by omega),Ak3 rfl]
theorem Ij {a l:Nat}(h:l≠0)(h1:a%2=0)(h2:a≠l):JY a l=false::JY (a/2) (l/2):=by rw[JY,dif_neg h,Ak1 (by omega),Ak1 h2]
theorem Akm: ∀(j a l:Nat),a<2^j→2^j≤l→l<2^ (j+1)→JY a l=JY a (2^j-1)++[false]:=by
 intro j;induction j with
 |zero=>
  intro a l h1 h2 h3;have ha:a=0:=by simp at h1; omega
  have hl:l=1:=by simp at h2 h3; omega
  subst ha; subst hl;rw[Ij (by omega) (by omega) (by omega)];simp[IK]
 |succ j ih=>
  intro a l h1 h2 h3;have e1:2^ (j+1)=2*2^j:=by rw[Al6]; omega
  have e2:2^ (j+1+1)=2*(2*2^j):=by rw[Al6,e1]; omega
  have hp:=Nat.two_pow_pos j;have:=ih (a/2) (l/2) (by omega) (by omega) (by rw[e1]; omega);by_cases ho:a%2=1
  ·rw[Jh (l:=l) (by omega) ho,Jh (l:=2^ (j+1)-1) (by omega) ho,this,show(2^ (j+1)-1)/2=2^j-1 from by omega]; rfl
  ·rw[Ij (l:=l) (by omega) (by omega) (by omega),Ij (l:=2^ (j+1)-1) (by omega) (by omega) (by omega),this,show(2^ (j+1)-1)/2=2^j-1 from by omega]; rfl
theorem Akn: ∀(j a l:Nat),2^j≤a→a≤l→l<2^ (j+1)→JY a l=JY (a-2^j) (l-2^j)++[true]:=by
 intro j;induction j with
 |zero=>
  intro a l h1 h2 h3;have ha:a=1:=by simp at h1 h3; omega
  have hl:l=1:=by simp at h3; omega
  subst ha; subst hl;rw[Jh (by omega) (by omega)];simp[IK]
 |succ j ih=>
  intro a l h1 h2 h3;have e1:2^ (j+1)=2*2^j:=by rw[Al6]; omega
  have e2:2^ (j+1+1)=2*(2*2^j):=by rw[Al6,e1]; omega
  have hp:=Nat.two_pow_pos j;have:=ih (a/2) (l/2) (by omega) (by omega) (by rw[e1]; omega);have q1:(a-2^ (j+1))/2=a/2-2^j:=by omega
  have q2:(l-2^ (j+1))/2=l/2-2^j:=by omega
  by_cases hz:l=2^ (j+1)
  ·have:a=l:=by omega
   subst this;rw[MV (by omega) (by omega),this,←q1];rw[show(a-2^ (j+1))=0 from by omega]
  ·by_cases ho:a%2=1
   ·rw[Jh (l:=l) (by omega) ho,Jh (l:=l-2^ (j+1)) (by omega) (by omega),this,q1,q2]; rfl
   ·by_cases he:a=l
    ·subst he;rw[MV (by omega) (by omega),MV (a:=a-2^ (j+1)) (by omega) (by omega),this,q1]
    ·rw[Ij (l:=l) (by omega) (by omega) he,Ij (l:=l-2^ (j+1)) (by omega) (by omega) (by omega),this,q1,q2]; rfl
theorem Ade {s:Nat}(h:2≤s): ∃j,hp s=2^j∧2^j<s∧s≤2^ (j+1):=by
 have h1:=Nat.log2_self_le (n:=s-1) (by omega);have h2:=Nat.lt_log2_self (n:=s-1);exact⟨Nat.log2 (s-1),rfl,by omega,by omega⟩
theorem Wz {a s:Nat}(h:2≤s)(ha:a<hp s):JY a (s-1)=JY a (hp s-1)++[false]:=by
 obtain⟨j,e,h1,h2⟩:=Ade h;rw[e]at ha⊢;exact Akm j a (s-1) ha (by omega) (by omega)
theorem Wy {a s:Nat}(h:2≤s)(ha:hp s≤a)(h':a<s):JY a (s-1)=JY (a-hp s) (s-hp s-1)++[true]:=by
 obtain⟨j,e,h1,h2⟩:=Ade h;rw[e]at ha⊢;rw[Akn j a (s-1) ha (by omega) (by omega),show s-1-2^j=s-2^j-1 from by omega]
def pop:Nat→Nat→Nat
 |0,_=>0
 |k+1,n=>n%2+pop k (n/2)
theorem pop_up: ∀(k n:Nat),n<2^k→pop (k+1) n=pop k n:=by
 intro k;induction k with
 |zero=>
   intro n h; have:n=0:=by simp at h; omega
   subst this; rfl
 |succ k ih=>
  intro n h;have e1:2^ (k+1)=2*2^k:=by rw[Al6]; omega
  have:=ih (n/2) (by omega);rw[pop,this,pop]
def bits (n:Nat):Nat:=if n=0 then 0 else Nat.log2 n+1
theorem Ad8 {n:Nat}(h:n≠0):bits n=bits (n/2)+1:=by
 unfold bits;rw[Ak1 h];by_cases h1:n/2=0
 ·have:n=1:=by omega
  subst this; rfl
 ·rw[Ak1 h1,Nat.log2_def,Ak3 (by omega)]
theorem Aez (a b:Nat):(a^^^b)/2=a/2^^^b/2:=by
 have:=Nat.shiftRight_xor_distrib (a:=a) (b:=b) (i:=1);rw[Nat.shiftRight_eq_div_pow,Nat.shiftRight_eq_div_pow,Nat.shiftRight_eq_div_pow]at this;exact this
theorem Aey {a b:Nat}:a^^^b=0↔a=b:=by
 constructor
 ·intro h;apply Nat.eq_of_testBit_eq;intro i;have:=Alv (fun x=>Nat.testBit x i) h;simp at this;exact this
 ·intro h; subst h; simp
theorem count: ∀(k a l:Nat),a≤l→l<2^k→bits (a^^^l)+pop k (a>>>bits (a^^^l))=(JY a l).length:=by
 intro k;induction k with
 |zero=>
  intro a l h1 h2;have:l=0:=by simp at h2; omega
  have:a=0:=by omega
  subst this;subst l;simp[IK,pop,bits]
 |succ k ih=>
  intro a l h1 h2;have e1:2^ (k+1)=2*2^k:=by rw[Al6]; omega
  have:=ih (a/2) (l/2) (by omega) (by omega);by_cases hl:l=0
  ·have:a=0:=by omega
   subst this;subst l;have hz: ∀k,pop k 0=0:=by intro k; induction k with|zero=>rfl|succ k ih=>simp[pop,ih]
   simp[IK,bits,hz]
  ·by_cases he:a=l
   ·subst he;simp only[Nat.xor_self]at this⊢;rw[show bits 0=0 from rfl]at this⊢;simp only[Nat.shiftRight_zero,Aly]at this⊢;rw[pop];by_cases ho:a%2=1
    ·rw[Jh hl ho,Ak8,←this]; omega
    ·rw[MV hl (by omega),←this]; omega
   ·have hx:a^^^l≠0:=fun h=>he (Aey.1 h);rw[Ad8 hx,Aez];have hsh:a>>>(bits (a/2^^^l/2)+1)=(a/2)>>>bits (a/2^^^l/2):=by
     rw[Al9,Nat.shiftRight_add,Nat.shiftRight_eq_div_pow a 1]
    have hlt:(a/2)>>>bits (a/2^^^l/2)<2^k:=by
     have:(a/2)>>>bits (a/2^^^l/2)≤a/2:=by rw[Nat.shiftRight_eq_div_pow]; exact Nat.div_le_self _ _
     omega
    rw[hsh,pop_up _ _ hlt];by_cases ho:a%2=1
    ·rw[Jh hl ho,Ak8,←this]; omega
    ·rw[Ij hl (by omega) he,Ak8,←this]; omega
theorem Afl:((List.range 301).all fun n=>match Fa (toU (n:Int))with|some r=>decide (r=((pop 9 n:Nat):Int))|none=>false)=true:=by kernel_rfl
theorem Ajh {n:Nat}(h2:n≤300):Fa (toU (n:Int))=some ((pop 9 n:Nat):Int):=by
 have h:=Alj.1 Afl n (List.mem_range.2 (by omega));split at h
 ·rename_i r hr;rw[hr,AlW h]
 ·cases h
theorem AfJ {n:Nat}(h2:n≤300):Fj (toU (n:Int))=some ((bits n:Nat):Int):=by
 by_cases h:n=0
 ·subst h;have h:=Alj.1 AcO 0 (List.mem_range.2 (by omega));split at h
  ·rename_i r hr;rw[hr,AlW h]; rfl
  ·cases h
 ·rw[AcN (by omega) h2]; unfold bits; rw[Ak1 h]
theorem AkH {a:Nat}(h:a<18446744073709551616):(BitVec.ofInt 64 (a:Int)).toNat=a:=by
 rw[BitVec.toNat_ofInt]; omega
theorem AeA {a b:Nat}(ha:a<512)(hb:b<512):WT (a:Int) (b:Int)=((a^^^b:Nat):Int):=by
 have:=Nat.xor_lt_two_pow (n:=9) ha hb;unfold WT;rw[BitVec.toNat_xor,AkH (by omega),AkH (by omega),Bo (by omega) (by omega)]
theorem OY {a:Nat}(ha:a<512):Jj (a:Int) 1=((a%2:Nat):Int):=by
 unfold Jj;rw[BitVec.toNat_and,AkH (by omega),show(BitVec.ofInt 64 1).toNat=1 from rfl,Nat.and_one_is_mod,Bo (by omega) (by omega)]
theorem AeQ {a k:Nat}(hk:k≤64):BB (a:Int) k=((a>>>k:Nat):Int):=by
 unfold BB;rw[Nat.min_eq_left hk,Int.fdiv_eq_ediv_of_nonneg _ (Int.pow_nonneg (by omega)),Nat.shiftRight_eq_div_pow];simp
theorem AkK {n:Nat}(h:n<512):bits n≤9:=by
 unfold bits;split
 ·omega
 ·have:Nat.log2 n<9:=(Nat.log2_lt (by omega)).2 (by omega);omega
theorem xor_lt {a b:Nat}(ha:a≤255)(hb:b≤255):a^^^b≤255:=by
 have:=Nat.xor_lt_two_pow (n:=8) (show a<2^8 by omega) (show b<2^8 by omega);omega
theorem AeN {a s:Nat}(h:a<s)(hs:s≤256): ∃i b:Nat,Fe (a:Int) (s:Int)=some ((i:Int),(b:Int))∧i+b=(JY a (s-1)).length∧i≤9∧b≤9∧i=bits (a^^^ (s-1)):=by
 have hw:w64 ((s:Int)-1)=((s-1:Nat):Int):=by rw[Bo (by omega) (by omega)]; omega
 have hx:=xor_lt (a:=a) (b:=s-1) (by omega) (by omega);have hb:=AkK (n:=a^^^ (s-1)) (by omega);have hle:a>>>bits (a^^^ (s-1))≤a:=by rw[Nat.shiftRight_eq_div_pow]; exact Nat.div_le_self _ _
 have hpop: ∀k n,pop k n≤k:=by intro k; induction k with|zero=>intro n; simp[pop]|succ k ih=>intro n; have:=ih (n/2); simp only[pop]; omega
 have hp9:=hpop 9 (a>>>bits (a^^^ (s-1)));refine⟨bits (a^^^ (s-1)),pop 9 (a>>>bits (a^^^ (s-1))),?_,count 9 a (s-1) (by omega) (by omega),hb,hp9,rfl⟩;unfold Fe;rw[hw,AeA (by omega) (by omega),AfJ (by omega),Aa,Ak3 (by omega),AlJ,AeQ (by omega),Ajh (by omega),Aa]
theorem U4: ∀(a l:Nat),l≤300→(JY a l).length≤400:=by
 have: ∀(n a l:Nat),l≤n→(JY a l).length≤n:=by
  intro n;induction n with
  |zero=>
       intro a l h; have:l=0:=by omega
       subst this; simp[IK]
  |succ n ih=>
   intro a l h;have:=ih (a/2) (l/2) (by omega);rw[JY];split
   ·simp
   ·split
    ·simp; omega
    ·split
     ·omega
     ·simp; omega
 intro a l h;have:=this l a l (Ak6 _);omega
def goD {σ:Type}(f g:σ→Sm→σ):List Bool→List Sm→σ→σ
 |d::ds,p::ps,x=>goD f g ds ps (if d then f x p else g x p)
 |_,_,x=>x
theorem Aj5 {σ:Type}(f g:σ→Sm→σ)(d:Bool)(p:Sm): ∀(ds:List Bool) (ps:List Sm) (x:σ),ds.length=ps.length→goD f g (ds++[d]) (ps++[p]) x=if d then f (goD f g ds ps x) p else g (goD f g ds ps x) p:=by
 intro ds;induction ds with
 |nil=>intro ps x h; have:ps=[]:=List.eq_nil_of_length_eq_zero (by simp at h; exact h.symm); subst this; simp[goD]
 |cons e ds ih=>
  intro ps x h;match ps,h with
  |q::ps,h=>simp only[Amc,goD]; exact ih ps _ (by simp at h; exact h)
def AaR (ds:List Bool)(ps:List Sm)(x:Sm):Sm:=goD (fun x p=>J5 p x) (fun x p=>J5 x p) ds ps x
theorem Wt {a b:Sm}:Jf a b=true↔a=b:=by
 obtain⟨a,a'⟩:=a; obtain⟨b,b'⟩:=b;simp[Jf]
theorem Tu (a:Sm):Jf a a=true:=Wt.2 rfl
theorem Ags {a b:Sm}(h:a≠b):Jf a b=false:=by rw[←Bool.not_eq_true]; exact fun e=>h (Wt.1 e)
theorem Aj1 {n:Nat}(h1:2≤n)(h2:n≤300):HB (n:Int)=some ((hp n:Nat):Int):=by
 have hw:w64 ((n:Int)-1)=((n-1:Nat):Int):=by rw[Bo (by omega) (by omega)]; omega
 have hl:=Ahx (n:=n-1) (by omega) (by omega);have hw2:w64 (((Nat.log2 (n-1)+1:Nat):Int)-1)=((Nat.log2 (n-1):Nat):Int):=by rw[Bo (by omega) (by omega)]; omega
 unfold HB;rw[hw,AcN (by omega) (by omega),Aa,hw2,Ak3 (by omega),Bn,AlJ,Abq hl]; rfl
theorem cutL {l:List Sm}{k:Nat}(h:k≤l.length):cut l 0 (k:Int)=some (l.take k):=by
 have:=NF (xs:=l) (lo:=0) (hi:=k) (Ama _) h;simpa using this
theorem cutR {l:List Sm}{k:Nat}(h:k≤l.length):cut l (k:Int) (l.length:Int)=some (l.drop k):=by
 rw[NF h (by omega)]; refine Alv some ?_; rw[Alw (by simp)]
theorem Xn {l:List Sm}(h:1≤l.length):Sx l=KB l:=by unfold Sx; rw[Ak1 (by omega)]
def Sd (l:List Sm)(a:Nat):List Sm:=if h:l.length≤1 then []else if a<hp l.length then Sd (l.take (hp l.length)) a++[KB (l.drop (hp l.length))]else Sd (l.drop (hp l.length)) (a-hp l.length)++[KB (l.take (hp l.length))]
termination_by l.length
decreasing_by
 ·have:=Aak (n:=l.length) (by omega); simp; omega
 ·have:=Tq l.length; simp; omega
theorem TN {l:List Sm}(h:l.length≤1)(a:Nat):Sd l a=[]:=by rw[Sd,dif_pos h]
theorem WY {l:List Sm}{a:Nat}(h:2≤l.length)(ha:a<hp l.length):Sd l a=Sd (l.take (hp l.length)) a++[KB (l.drop (hp l.length))]:=by rw[Sd,dif_neg (by omega),Ak3 ha]
theorem WZ {l:List Sm}{a:Nat}(h:2≤l.length)(ha:hp l.length≤a):Sd l a=Sd (l.drop (hp l.length)) (a-hp l.length)++[KB (l.take (hp l.length))]:=by rw[Sd,dif_neg (by omega),Ak1 (by omega)]
theorem QI: ∀(n:Nat) (l:List Sm) (a:Nat),l.length≤n→a<l.length→(Sd l a).length=(JY a (l.length-1)).length:=by
 intro n;induction n with
 |zero=>intro l a h h1; omega
 |succ n ih=>
  intro l a h h1;by_cases h2:2≤l.length
  ·have hlt:=Aak h2;have hpos:=Tq l.length;by_cases ha:a<hp l.length
   ·have:=ih (l.take (hp l.length)) a (by first|omega|(simp; omega)) (by first|omega|(simp; omega));rw[WY h2 ha,Wz h2 ha];simp only[Ak5,List.length_singleton,this,Alq];rw[Nat.min_eq_left (by omega)]
   ·have:=ih (l.drop (hp l.length)) (a-hp l.length) (by first|omega|(simp; omega)) (by first|omega|(simp; omega));rw[WZ h2 (by omega),Wy h2 (by omega) h1];simp only[Ak5,List.length_singleton,this,AlF]
  ·rw[TN (by omega),show l.length-1=0 from by omega,IK]; rfl
theorem Y4 {ds:List Bool}{ps:List Sm}(h:ds.length=ps.length)(d:Bool)(p x:Sm):AaR (ds++[d]) (ps++[p]) x=if d then J5 p (AaR ds ps x)else J5 (AaR ds ps x) p:=Aj5 _ _ d p ds ps x h
theorem AfL: ∀(n:Nat) (l:List Sm) (a:Nat) (x:Sm),l.length≤n→l[a]? =some x→AaR (JY a (l.length-1)) (Sd l a) x=KB l:=by
 intro n;induction n with
 |zero=>intro l a x h h1; have:l=[]:=List.eq_nil_of_length_eq_zero (by omega); subst this; cases h1
 |succ n ih=>
  intro l a x h h1;have hal:a<l.length:=by
   by_cases q:a<l.length
   ·exact q
   ·rw[List.getElem?_eq_none (by omega)]at h1; cases h1
  by_cases h2:2≤l.length
  ·have hlt:=Aak h2;have hpos:=Tq l.length;by_cases ha:a<hp l.length
   ·have e:=ih (l.take (hp l.length)) a x (by first|omega|(simp; omega)) (by rw[List.getElem?_take_of_lt ha]; exact h1);have el:=QI (l.take (hp l.length)).length (l.take (hp l.length)) a (Ak6 _) (by first|omega|(simp; omega));rw[show(l.take (hp l.length)).length=hp l.length from by simp; omega]at e el;rw[WY h2 ha,Wz h2 ha,Y4 el.symm,e,OE h2]; rfl
   ·have e:=ih (l.drop (hp l.length)) (a-hp l.length) x (by first|omega|(simp; omega)) (by rw[List.getElem?_drop,show hp l.length+(a-hp l.length)=a from by omega]; exact h1);have el:=QI (l.drop (hp l.length)).length (l.drop (hp l.length)) (a-hp l.length) (Ak6 _) (by first|omega|(simp; omega));rw[show(l.drop (hp l.length)).length=l.length-hp l.length from by simp]at e el;rw[WZ h2 (by omega),Wy h2 (by omega) hal,Y4 el.symm,e,OE h2]; rfl
  ·match l,hal,h1 with
   | [y],hal,h1=>
    have:a=0:=by simp at hal; omega
    subst this;simp at h1;subst h1;rw[show [y].length-1=0 from rfl,IK,VU,TN (by simp)];rfl
   |y::z::l,_,_=>simp at h2
theorem Ab6: ∀(n:Nat) (l:List Sm) (a:Nat) (k:List Sm),l.length≤n→a<l.length→l.length≤256→k.length+l.length≤1000→D3 n l (a:Int) k=some (k++Sd l a):=by
 intro n;induction n with
 |zero=>intro l a k h h1; omega
 |succ n ih=>
  intro l a k h h1 h3 hk;simp only[D3];by_cases h2:2≤l.length
  ·have hlt:=Aak h2;have hpos:=Tq l.length;rw[Ak1 (by first|omega|(simp; omega)),Aj1 h2 (by omega),Aa,cutL (by omega),Aa,cutR (by omega),Aa];by_cases ha:a<hp l.length
   ·have:=ih (l.take (hp l.length)) a k (by first|omega|(simp; omega)) (by first|omega|(simp; omega)) (by first|omega|(simp; omega)) (by first|omega|(simp; omega));have hw:=QI _ _ a (Ak6 (l.take (hp l.length)).length) (by first|omega|(simp; omega));have hwl:(Sd (l.take (hp l.length)) a).length≤400:=by
     rw[hw]; exact U4 _ _ (by first|omega|(simp; omega))
    rw[Ak1 (by first|omega|(simp; omega)),Aa,this,Aa,Xm _ (by first|omega|(simp; omega)),Aa,Xn (by first|omega|(simp; omega)),DQ 16 (by first|omega|(simp; omega)) (by first|omega|(simp; omega)),Aa,WY h2 ha];simp
   ·have:=ih (l.drop (hp l.length)) (a-hp l.length) k (by first|omega|(simp; omega)) (by first|omega|(simp; omega)) (by first|omega|(simp; omega)) (by first|omega|(simp; omega));have hw:=QI _ _ (a-hp l.length) (Ak6 (l.drop (hp l.length)).length) (by first|omega|(simp; omega));have hwl:(Sd (l.drop (hp l.length)) (a-hp l.length)).length≤400:=by
     rw[hw]; exact U4 _ _ (by first|omega|(simp; omega))
    have hwi:w64 ((a:Int)-(hp l.length:Nat))=((a-hp l.length:Nat):Int):=by rw[Bo (by omega) (by omega)]; omega
    rw[Ak3 (by first|omega|(simp; omega)),Aa,hwi,this,Aa,Xm _ (by first|omega|(simp; omega)),Aa,Xn (by first|omega|(simp; omega)),DQ 16 (by first|omega|(simp; omega)) (by first|omega|(simp; omega)),Aa,WZ h2 (by omega)];simp
  ·rw[Ak3 (by first|omega|(simp; omega)),TN (by omega)]; simp
theorem Afa {l:List Sm}{a:Nat}(h:a<l.length)(h3:l.length≤256):Ff l (a:Int)=some (Sd l a,0):=by
 unfold Ff;rw[Ak1 (by first|omega|(simp; omega))];have hF:l.length≤F7:=by unfold F7; omega
 have hr:GP l (a:Int) []=some ([]++Sd l a):=by
  unfold GP;revert hF;generalize F7=n;intro hF;exact Ab6 n l a [] hF h h3 (by first|omega|(simp; omega))
 rw[hr,Aa,Alz]
def gd (f s:Nat)(AcU:Bool):Bool×List Bool:=if h:s≤1∨f=s then(!AcU,[])else if f≤hp s then((gd f (hp s) AcU).1,(gd f (hp s) AcU).2++[false])else((gd (f-hp s) (s-hp s) false).1,(gd (f-hp s) (s-hp s) false).2++[true])
termination_by s
decreasing_by
 all_goals first|exact Aak (by omega)|(have:=Tq s; omega)
theorem Aes {α:Type} [Inhabited α]{c:Bool}(o:Option α)(h:c=true):gu c o=o:=by rw[h]; rfl
theorem gu_f {α:Type} [Inhabited α]{c:Bool}(o:Option α)(h:c=false):gu c o=some default:=by rw[h]; rfl
def hid (hd:List Int)(i:Nat):Bool:=match hd with| []=>false|h::_=>decide (h=(i:Int))
def cur (v h:Bool)(b:List UInt8):UInt64×UInt64:=if(v&&h)=true then H7 (0::b)else H7 b
def nxt (hd:List Int)(i:Nat):List Int:=if hid hd i=true then hd.tail else hd
def lv (v:Bool):List Int→List g_api_Leaf→Nat→List (UInt64×UInt64)
 |_,[],_=> []
 |hd,x::xs,i=>cur v (hid hd i) x.Body::lv v (nxt hd i) xs (i+1)
theorem YY (v:Bool): ∀(xs:List g_api_Leaf) (hd:List Int) (i:Nat),(lv v hd xs i).length=xs.length:=by
 intro xs;induction xs with
 |nil=>intro hd i; rfl
 |cons x xs ih=>intro hd i; simp[lv,ih]
theorem YZ: ∀(xs:List g_api_Leaf) (hd:List Int) (i:Nat),lv false hd xs i=xs.map fun x=>H7 x.Body:=by
 intro xs;induction xs with
 |nil=>intro hd i; rfl
 |cons x xs ih=>intro hd i; simp[lv,ih,cur]
theorem XJ {l:g_api_Log}{v:Bool}{a1:Int}(hv:(a1==1)=v){i:Nat}{x:g_api_Leaf}(hx:l.L[i]? =some x)(hb:x.Body.length≤2048){hd:List Int}{out:List (UInt64×UInt64)}(ho:out.length≤100000):
  E6 l a1 (i:Int) (hd,out)=some (nxt hd i,out++[cur v (hid hd i) x.Body]):=by
 have hbl:x.Body.length≤600000:=by omega
 have hnil: ∀y:UInt64×UInt64,app 16 out [y]=some (out++[y]):=fun y=>DQ 16 (by simp; omega) (by simp; omega);unfold E6;rw[idx_of hx,Aa];dsimp only;cases hd with
 |nil=>
  have e0:decide ((([]:List Int).length:Int)>0)=false:=rfl;rw[e0,gu_f _ rfl,Aa,Al3,Ak1 Bool.false_ne_true,Aa,RE hbl,Aa,hnil,Aa];simp[nxt,hid,cur]
 |cons a hd=>
  have e1:idx (a::hd) 0=some a:=rfl;have e0:decide (((a::hd).length:Int)>0)=true:=by first|(simp; done)|(simp; omega)
  rw[e0,Aes _ rfl,e1,Aa,Alx];by_cases ha:a=(i:Int)
  ·have hc:cut (a::hd) 1 ((a::hd).length:Int)=some hd:=by
    have:=NF (xs:=a::hd) (lo:=1) (hi:=(a::hd).length) (by simp) (by omega);rw[show((1:Nat):Int)=1 from rfl]at this;rw[this]; simp[Alw]
   rw[Ak3 (by simpa using ha),hc,Aa,hv];have hh:hid (a::hd) i=true:=by simp[hid,ha]
   cases v with
   |true=>
    rw[Ak3 rfl,Tx (by simp; omega),Aa,Aa];dsimp only;have:([[0],x.Body]:List (List UInt8)).flatten=0::x.Body:=by simp
    rw[this,RE (by simp; omega),Aa,hnil,Aa];simp[nxt,hh,cur]
   |false=>
    rw[Ak1 (by decide),Aa];dsimp only;rw[RE hbl,Aa,hnil,Aa];simp[nxt,hh,cur]
  ·rw[Ak1 (by simpa using ha),Aa];dsimp only;have hh:hid (a::hd) i=false:=by simp[hid,ha]
   rw[RE hbl,Aa,hnil,Aa];simp[nxt,hh,cur]
theorem Aag {l:g_api_Log}{v:Bool}{a1:Int}(hv:(a1==1)=v)(hb: ∀x∈l.L,x.Body.length≤2048)(hl:l.L.length≤100000): ∀(k i:Nat) (hd:List Int) (out:List (UInt64×UInt64)),i+k=l.L.length→out.length=i→
  ∃hd',CX (E6 l a1) k (i:Int) (hd,out)=some (hd',out++lv v hd (l.L.drop i) i):=by
 intro k;induction k with
 |zero=>
  intro i hd out h ho;have:l.L.drop i=[]:=AlH (by omega);exact⟨hd,by rw[this]; simp[CX,lv]⟩
 |succ k ih=>
  intro i hd out h ho;have hlt:i<l.L.length:=by omega
  have hs:=XJ (l:=l) hv (i:=i) (x:=l.L[i]) (by simp[hlt]) (hb _ (List.getElem_mem hlt)) (hd:=hd) (out:=out) (by omega);obtain⟨hd2,h2⟩:=ih (i+1) (nxt hd i) (out++[cur v (hid hd i) l.L[i].Body]) (by omega) (by simp; omega);refine⟨hd2,?_⟩;simp only[CX,hs,Aa];rw[show(i:Int)+1=((i+1:Nat):Int)from rfl,h2,List.drop_eq_getElem_cons hlt,lv,Alb]; rfl
def CL (v:Bool)(l:g_api_Log):List (UInt64×UInt64):=lv v l.Hide l.L 0
theorem Aah {l:g_api_Log}(hl:l.L.length+l.Wait.length≤100000)(h:chk l=0)(v:Bool):I4 l (if v=true then 1 else 0)=some (CL v l,0):=by
 obtain⟨h0,h1,h2,h3⟩:=Ji h;have hv:((if v=true then(1:Int)else 0)==1)=v:=by cases v<;>rfl
 obtain⟨hd,he⟩:=Aag (l:=l) hv (fun x hx=>Afm h1 x (List.mem_append_left _ hx)) (by omega) l.L.length 0 l.Hide [] (by omega) rfl;have he':CX (E6 l (if v=true then 1 else 0)) l.L.length 0 (l.Hide,[])=_:=he;unfold I4;rw[PC hl,Aa,h,Ak1 (by decide),Ak1 (by cases v<;>decide),he',Aa,Aa];simp[CL]
theorem okH_up {a b n:Int}: ∀{xs:List Int},okH xs a n=true→(∀x,xs.head? =some x→b<x)→okH xs b n=true:=by
 intro xs h hb;cases xs with
 |nil=>rfl
 |cons x r=>
  simp only[okH,AkZ,Bool.not_eq_true',decide_eq_false_iff_not]at h⊢;have:=hb x rfl;exact⟨⟨by omega,h.1.2⟩,h.2⟩
theorem okH_gt {n:Int}: ∀{xs:List Int} {a:Int},okH xs a n=true→∀x∈xs,a<x:=by
 intro xs;induction xs with
 |nil=>intro a _ x hx; cases hx
 |cons y r ih=>
  intro a h x hx;simp only[okH,AkZ,Bool.not_eq_true',decide_eq_false_iff_not]at h;rcases Als.1 hx with e|e
  ·subst e; omega
  ·have:=ih h.2 x e; omega
theorem AjV {n:Int}{hd:List Int}{i:Nat}(h:okH hd ((i:Int)-1) n=true):hid hd i=decide ((i:Int)∈hd):=by
 cases hd with
 |nil=>simp[hid]
 |cons x r=>
  simp only[okH,AkZ,Bool.not_eq_true',decide_eq_false_iff_not]at h;simp only[hid];by_cases e:x=(i:Int)
  ·rw[All e,All (by rw[e]; exact Alk)]
  ·rw[AlG e,AlG];intro hm;rcases Als.1 hm with q|q
   ·exact e q.symm
   ·have:=okH_gt h.2 _ q; omega
theorem Rr {n:Int}{hd:List Int}{i:Nat}(h:okH hd ((i:Int)-1) n=true):okH (nxt hd i) (((i+1:Nat):Int)-1) n=true:=by
 have e1:((i+1:Nat):Int)-1=(i:Int):=by omega
 rw[e1];unfold nxt;cases hd with
 |nil=>simp[hid,okH]
 |cons x r=>
  have h':=h;simp only[okH,AkZ,Bool.not_eq_true',decide_eq_false_iff_not]at h';by_cases e:x=(i:Int)
  ·rw[Ak3 (by simp[hid,e]),List.tail_cons,←e]; exact h'.2
  ·rw[Ak1 (by simp[hid,e])];exact okH_up h fun y hy=>by simp at hy; subst hy; omega
theorem Ajj {n:Int}{hd:List Int}{i:Nat}(h:okH hd ((i:Int)-1) n=true){j:Nat}(hj:i<j):(j:Int)∈nxt hd i↔(j:Int)∈hd:=by
 unfold nxt;cases hd with
 |nil=>simp[hid]
 |cons x r=>
  by_cases e:x=(i:Int)
  ·rw[Ak3 (by simp[hid,e]),List.tail_cons,Als];constructor
   ·exact fun h=> .inr h
   ·rintro(q|q)
    ·omega
    ·exact q
  ·rw[Ak1 (by simp[hid,e])]
theorem lv_get (v:Bool){n:Int}: ∀(xs:List g_api_Leaf) (hd:List Int) (i k:Nat) (x:g_api_Leaf),okH hd ((i:Int)-1) n=true→xs[k]? =some x→(lv v hd xs i)[k]? =some (cur v (decide (((i+k:Nat):Int)∈hd)) x.Body):=by
 intro xs;induction xs with
 |nil=>intro hd i k x _ hx; simp at hx
 |cons y xs ih=>
  intro hd i k x h hx;cases k with
  |zero=>
   simp at hx; subst hx;show some (cur v (hid hd i) y.Body)=_;rw[AjV h]; rfl
  |succ k=>
   have:=ih (nxt hd i) (i+1) k x (Rr h) (by simpa using hx);show(lv v (nxt hd i) xs (i+1))[k]? =_;rw[this];have e1:i+1+k=i+(k+1):=by omega
   rw[e1];have:=Ajj h (j:=i+(k+1)) (by omega);simp only[this]
theorem XK (v:Bool){l:g_api_Log}(h:okH l.Hide (-1) (l.L.length:Int)=true){k:Nat}{x:g_api_Leaf}(hx:l.L[k]? =some x):(CL v l)[k]? =some (cur v (decide ((k:Int)∈l.Hide)) x.Body):=by
 have:=lv_get v l.L l.Hide 0 k x (n:=(l.L.length:Int)) h hx;rw[Aly]at this;exact this
theorem Ad0: ∀{l:List g_api_Cert} {i k:Nat} {c:g_api_Cert},caB i l=true→l[k]? =some c→c.Ca=decide (0<i+k)
 | [],i,k,c,_,h=>by cases h
 |d::r,i,0,c,h,hc=>by
  cases hc;unfold caB at h;rw[AkZ]at h;simpa using h.1
 |d::r,i,k+1,c,h,hc=>by
  unfold caB at h;rw[AkZ]at h;rw[Ad0 h.2 (k:=k) (by simpa using hc)];congr 1;rw[show i+1+k=i+(k+1)from by omega]
theorem Acj {leaf:g_api_Cert}{more roots:List g_api_Cert}(h1:more.length≤3)(h2: ∀c∈leaf::more,checkV c=0)(hk:caB 0 (leaf::more)=true)(hl:linksV (leaf::more)=0)
  (hr:roots.length≤16) (hc: ∀c∈roots,checkV c=0) (name:ByteArray) (now:Int):
  Z8 roots (leaf::more) name now=if now<0∨now>1099511627776 then 1 else if nameV name≠0 then nameV name else if(leaf.Names.any fun s=>eqS name s)=false then 110 else
   if((leaf::more).any fun c=> !timeB c now)=true then 190 else PU (leaf::more) now roots:=by
 have e1:Aas (leaf::more++roots)=0:=(Wm _ _ _).2 fun k c hk=>by
  rcases Alr.1 (AlC hk)with q|q
  ·exact h2 c q
  ·exact hc c q
 unfold Z8;rw[e1,hl,Ak1 (nn0 rfl)];by_cases hb:now<0∨now>1099511627776
 ·have:MX roots (leaf::more) name now=1:=by
   unfold MX;rw[Ak3];rcases hb with q|q
   ·exact .inr (.inr (.inr (.inl q)))
   ·exact .inr (.inr (.inr (.inr q)))
  rw[this,Ak3 (by decide),Ak3 hb]
 ·have:MX roots (leaf::more) name now=nameV name:=by
   unfold MX;rw[Ak1];rintro(q|q|q|q)
   ·simp at q
   ·simp only[Ak8]at q; omega
   ·omega
   ·exact hb q
  rw[this,Ak1 hb];by_cases hn:nameV name=0
  ·rw[Ak1 (nn0 hn),Ak1 (nn0 hn)];have ek:P2 (leaf::more) name now=if(leaf.Names.any fun s=>eqS name s)=false then 110 else if((leaf::more).any fun c=> !timeB c now)=true then 190 else 0:=by
    unfold P2;rw[hk,Ak1 (by decide)]
   rw[ek];cases leaf.Names.any fun s=>eqS name s with
   |false=>rfl
   |true=>
    cases (leaf::more).any fun c=> !timeB c now<;>rfl
  ·rw[Ak3 hn,Ak3 hn]
theorem TF.rc {roots:List g_api_Cert}{leaf:g_api_Cert}{more:List g_api_Cert}{name:ByteArray}{now:Int}(P:TF roots leaf more name now): ∀c∈roots,checkV c=0:=fun c hc=>P.all c (List.mem_append_right _ hc)
theorem TF.cc {roots:List g_api_Cert}{leaf:g_api_Cert}{more:List g_api_Cert}{name:ByteArray}{now:Int}(P:TF roots leaf more name now): ∀c∈leaf::more,checkV c=0:=fun c hc=>P.all c (List.mem_append_left _ hc)
theorem TF.names {roots:List g_api_Cert}{leaf:g_api_Cert}{more:List g_api_Cert}{name:ByteArray}{now:Int}(P:TF roots leaf more name now): ∀s∈leaf.Names,nameV s=0:=by
 have hC:leaf.Ca=false:=by have:=Ad0 P.kin (k:=0) (c:=leaf) rfl; simpa using this
 exact(RB ((AaB (P.cc leaf Alk)).leaf hC).2.1).2.2
theorem Aa9 {chain roots:List g_api_Cert}{now:Int}{r:g_api_Cert}(h:r∈roots)(hb:byV chain now r=0):PU chain now roots=0:=by
 unfold PU;rw[Ak3 (List.any_eq_true.2 ⟨r,h,by simpa using hb⟩)]
def skK (b:List UInt8):UInt64:=Ahm (AaN (⟨#[115,101,99,114,101,116]⟩:ByteArray) [b]) 1152921504606845788+1
theorem AiB {b:List UInt8}(h:b.length≤1000):Gb b=some (skK b):=by
 unfold Gb;rw[Yt (by
  have:YK [b]≤10+b.length:=by simp[YK]
  have e:(⟨#[115,101,99,114,101,116]⟩:ByteArray).data.toList.length=6:=rfl;omega),Aa]
 rfl
theorem Q6 (b:List UInt8):1≤(skK b).toNat∧(skK b).toNat<GR:=by
 have h:(Ahm (AaN (⟨#[115,101,99,114,101,116]⟩:ByteArray) [b]) 1152921504606845788).toNat<1152921504606845788:=by
  rw[YT dvR1]; exact Al4 _ (by decide)
 unfold skK;rw[UInt64.toNat_add];have e1:(1:UInt64).toNat=1:=rfl;rw[e1,AlR (by omega)];simp only[GR];omega
theorem Xg (k:UInt64)(m:List UInt8):sigB (Mu k m)=true:=by
 unfold sigB;refine All (AcF (AdW _ _ _) ?_);show(addM 1152921504606845789 _ _).toNat<_;rw[ZC dvR];exact Al4 _ (by decide)
def sgS (c:g_api_Cert)(g:g_api_Sig):g_api_Cert:=⟨c.Serial,c.Issuer,c.Subject,c.Key,c.Names,c.From,c.Until,c.Ca,c.Depth,c.Permit,c.Proms,g⟩
theorem AgM (c:g_api_Cert)(g:g_api_Sig):IM (sgS c g)=IM c:=by
 unfold IM OX YJ sgS;dsimp only
def sgnS (s:UInt8)(c:g_api_Cert):g_api_Cert:=sgS c (Mu (skK [s]) (IM c))
theorem Yv (s:UInt8){c:g_api_Cert}(h:checkV c=0):Fg c s=some (sgnS s c,true):=by
 unfold Fg;rw[Zv (okc h),Aa,AiB (by simp),Aa];dsimp only;rw[Xf (Q6 _).1 (Q6 _).2 (by have:=R2 (okc h); omega),Aa];rfl
theorem AeS (s:UInt8){c:g_api_Cert}(h:checkV c=0):Aej (K0 (skK [s])) (IM (sgnS s c)) (sgnS s c).Sig=0:=by
 have k:=PD (k:=skK [s]) (msg:=IM c) (Q6 _).1 (Q6 _).2 (by have:=R2 (okc h); omega);have key: ∀g:g_api_Sig,g=Mu (skK [s]) (IM c)→Aej (K0 (skK [s])) (IM (sgS c g)) (sgS c g).Sig=0:=fun g hg=>by
  unfold Aej;rw[AgM,show(sgS c g).Sig=g from rfl,hg,k];rfl
 exact key _ rfl
structure Sml (c:g_api_Cert):Prop where
 iss:c.Issuer.size≤64∧printB (toL c.Issuer)=true
 sub:c.Subject.size≤64∧printB (toL c.Subject)=true
 nam:c.Names.length≤1∧∀s∈c.Names,s.size≤64∧printB (toL s)=true
 per:c.Permit=[]
 pro:c.Proms.length≤2
theorem Ki (d:Nat)(n:Int):mayB (d+1) (ND n)=true:=by
 show(P1 (Abb (be8 n))&&true&&true)=true;rw[SV _ (by simp[be8])]; rfl
theorem Rv (d:Nat){s:ByteArray}(h:printB (toL s)=true):mayB (d+1) (Lu s)=true:=by
 show(printB (toL s)&&true&&true)=true;rw[h]; rfl
theorem AcE (d:Nat)(v:Bool):mayB (d+1) (Vg v)=true:=by cases v<;>rfl
theorem Te (d:Nat){l:List ByteArray}(h: ∀s∈l,printB (toL s)=true):mayB (d+2) (KS l)=true:=
 Rw fun y hy=>by
  obtain⟨s,hs,rfl⟩:=List.mem_map.1 hy;exact Rv d (h s hs)
theorem AcC (d:Nat)(p:g_api_Promise):mayB (d+2) (Rj p)=true:=Rw fun y hy=>by
 simp only[Als,List.not_mem_nil,or_false]at hy;rcases hy with rfl|rfl|rfl|rfl|rfl|rfl<;>exact Ki _ _
theorem Iz (d:Nat)(l:List g_api_Item):(putB (d+1) (Su l)).length≤4+(l.flatMap (putB d)).length:=by
 have:=Re d (Su l);have e:(Su l).B.length=0:=rfl;have e2:(Su l).L=l:=rfl;rw[e,e2]at this; omega
theorem SW (d:Nat){l:List ByteArray}(h:l.length≤1∧∀s∈l,s.size≤64∧printB (toL s)=true):(putB (d+1) (KS l)).length≤72:=by
 match l,h with
 | [],_=>exact AlS (Iz d []) (by simp)
 | [s],h=>
  refine AlS (Iz d [Lu s]) ?_;have:=KT d (h.2 s (by simp)).1;simp; omega
 |_::_::_,h=>exact absurd h.1 (by simp)
theorem Ri (d:Nat)(p:g_api_Promise):(putB (d+1) (Rj p)).length≤76:=by
 refine AlS (Iz d _) ?_;have i1:=Ej d p.Log;have i2:=Ej d p.At;have i3:=Ej d (w64 (p.Leaf.1.toNat:Int));have i4:=Ej d (w64 (p.Leaf.2.toNat:Int));have i5:=Ej d (w64 (p.Sig.E.toNat:Int));have i6:=Ej d (w64 (p.Sig.S.toNat:Int));show 4+([ND p.Log,ND p.At,ND (w64 (p.Leaf.1.toNat:Int)),ND (w64 (p.Leaf.2.toNat:Int)),ND (w64 (p.Sig.E.toNat:Int)),ND (w64 (p.Sig.S.toNat:Int))].flatMap (putB d)).length≤76;simp only[AlI,List.flatMap_nil,Ak5,Alm];omega
theorem Z5 (d:Nat){l:List g_api_Promise}(h:l.length≤2):(putB (d+2) (Rh l)).length≤156:=by
 refine AlS (Iz (d+1) _) ?_;match l,h with
 | [],_=>simp
 | [p],_=>have:=Ri d p; simp; omega
 | [p,q],_=>have:=Ri d p; have:=Ri d q; simp; omega
 |_::_::_::_,h=>exact absurd h (by simp)
theorem Aiy {c:g_api_Cert}(S:Sml c):mayB 8 (wholeI c)=true:=by
 have hp:mayB 6 (YJ c)=true:=Rw fun y hy=>by
  simp only[Als,List.not_mem_nil,or_false]at hy;rcases hy with rfl|rfl|rfl|rfl|rfl|rfl|rfl|rfl|rfl|rfl
  ·exact Ki _ _
  ·exact Rv _ S.iss.2
  ·exact Rv _ S.sub.2
  ·exact Ki _ _
  ·exact Te _ fun s hs=>(S.nam.2 s hs).2
  ·exact Ki _ _
  ·exact Ki _ _
  ·exact AcE _ _
  ·exact Ki _ _
  ·exact Te _ fun s hs=>by rw[S.per]at hs; cases hs
 have hq:mayB 6 (Rh c.Proms)=true:=Rw fun y hy=>by
  obtain⟨p,_,rfl⟩:=List.mem_map.1 hy;exact AcC _ p
 exact may2 (may2 hp hq) (may2 (Ki _ _) (Ki _ _))
theorem Aiz {c:g_api_Cert}(S:Sml c):(putB 8 (wholeI c)).length≤2048:=by
 have hp:(putB 6 (YJ c)).length≤400:=by
  refine AlS (Iz 5 _) ?_;have h1:=KT 5 S.iss.1;have h2:=KT 5 S.sub.1;have h3:(putB 5 (KS c.Names)).length≤72:=SW 4 S.nam;have h4:(putB 5 (KS c.Permit)).length≤72:=SW 4 (by rw[S.per]; exact⟨by simp,fun s h=>by cases h⟩);have i1:=Ej 5 c.Serial;have i2:=Ej 5 (w64 (c.Key.toNat:Int));have i3:=Ej 5 c.From;have i4:=Ej 5 c.Until;have i5:=Ej 5 c.Depth;have b1:=WK 5 c.Ca;show 4+([ND c.Serial,Lu c.Issuer,Lu c.Subject,ND (w64 (c.Key.toNat:Int)),KS c.Names,ND c.From,ND c.Until,Vg c.Ca,ND c.Depth,KS c.Permit].flatMap (putB 5)).length≤400;simp only[AlI,List.flatMap_nil,Ak5,Alm];omega
 have hq:(putB 6 (Rh c.Proms)).length≤156:=Z5 4 S.pro;have hb:(putB 7 (OX c)).length≤560:=by
  refine AlS (Iz 6 _) ?_;simp only[AlI,List.flatMap_nil,Ak5,Alm];omega
 have hs:(putB 7 (Su [TC c.Sig.E,TC c.Sig.S])).length≤28:=by
  refine AlS (Iz 6 _) ?_;have i1:=Ej 6 (w64 (c.Sig.E.toNat:Int));have i2:=Ej 6 (w64 (c.Sig.S.toNat:Int));show 4+([ND (w64 (c.Sig.E.toNat:Int)),ND (w64 (c.Sig.S.toNat:Int))].flatMap (putB 6)).length≤28;simp only[AlI,List.flatMap_nil,Ak5,Alm];omega
 refine AlS (Iz 7 _) ?_;simp only[AlI,List.flatMap_nil,Ak5,Alm];omega
theorem VO {c:g_api_Cert}(S:Sml c)(h:formB c=true):checkV c=0:=by
 unfold checkV;rw[Ak3 h,Ak3 ⟨Aiy S,Aiz S⟩]
def tRS:ByteArray:=⟨#[114]⟩
theorem AgZ:textV tRS=true:=by kernel_rfl
theorem Abi:tRS.size≤64∧printB (toL tRS)=true:=⟨by decide,rfl⟩
def rt0 (s:UInt8):g_api_Cert:=⟨0,tRS,tRS,K0 (skK [s]),[],0,100,true,1,[],[],⟨0,0⟩⟩
def rtK (s:UInt8):g_api_Cert:=sgnS s (rt0 s)
theorem rt_ok (s:UInt8)(g:g_api_Sig)(hg:sigB g=true):checkV (sgS (rt0 s) g)=0:=by
 refine VO ⟨Abi,Abi,⟨Ama _,fun s h=>by cases h⟩,rfl,Ama _⟩ ?_;have p1:=Ab5 (skK [s]);have p2:=Ahf (skK [s]);simp only[GQ]at p2;show(promsB (-1) []&&(numB 0&&numB 0&&numB 100&&decide ((0:Int)<100))&&(textV tRS&&(!(((K0 (skK [s])).toNat:Int)==0))&&decide (((K0 (skK [s])).toNat:Int)<2305843009213691579)&&decide ((0:Int)≤4)&&sigB g)&&(textV tRS&&true&&true&&true&&true))=true;rw[AgZ,hg,show(((K0 (skK [s])).toNat:Int)==0)=false from by rw[AlD]; omega,All (show((K0 (skK [s])).toNat:Int)<2305843009213691579 from by omega)];rfl
theorem rt0_ok (s:UInt8):checkV (rt0 s)=0:=rt_ok s ⟨0,0⟩ (by decide)
theorem AbO (s:UInt8):checkV (rtK s)=0:=rt_ok s _ (Xg _ _)
def nXA:ByteArray:=⟨#[120,46,97]⟩
def dr0:g_api_Cert:=⟨9,tRS,ByteArray.empty,4,[nXA],3,8,false,0,[],[],⟨0,0⟩⟩
theorem dr0_eq:I5 (⟨0,[nXA],4,5⟩:Ii) 9 3 tRS=some (dr0,0):=by kernel_rfl
theorem dr0_ok:checkV dr0=0:=by kernel_rfl
def pr0:List UInt8:=V0 dr0
theorem Aff:IA pr0=true:=by kernel_rfl
theorem Ajb:Nat.beq pr0.length 2=false:=by kernel_rfl
theorem Aja:pr0.length≠2:=Nat.ne_of_beq_eq_false Ajb
theorem Afe:decide ((QB (H7 pr0).1 (H7 pr0).2).toNat<2305843009213693951)=true:=by kernel_rfl
def le0 (p q:g_api_Promise):g_api_Cert:=⟨9,tRS,ByteArray.empty,4,[nXA],3,8,false,0,[],[p,q],⟨0,0⟩⟩
theorem nXA_ok:listV nameV [nXA] 1 8=true:=by kernel_rfl
theorem le_ok {p q:g_api_Promise}(h:promsB (-1) [p,q]=true)(g:g_api_Sig)(hg:sigB g=true):checkV (sgS (le0 p q) g)=0:=by
 refine VO ⟨Abi,⟨Ama _,rfl⟩,⟨Ak6 _,fun s h=>by rw[Amf.1 h]; exact⟨by decide,rfl⟩⟩,rfl,Ak6 _⟩ ?_;show(promsB (-1) [p,q]&&(numB 9&&numB 3&&numB 8&&decide ((3:Int)<8))&&(textV tRS&&(!(((4:UInt64).toNat:Int)==0))&&decide (((4:UInt64).toNat:Int)<2305843009213691579)&&decide ((([p,q]:List g_api_Promise).length:Int)≤4)&&sigB g)&&(eqS ByteArray.empty (⟨#[]⟩:ByteArray)&&listV nameV [nXA] 1 8&&((0:Int)==0)&&((([]:List ByteArray).length:Int)==0)))=true;rw[h,AgZ,hg,nXA_ok,show(((4:UInt64).toNat:Int)==0)=false from by decide,show decide (((4:UInt64).toNat:Int)<2305843009213691579)=true from by decide,show decide ((([p,q]:List g_api_Promise).length:Int)≤4)=true from by simp];rfl
theorem le_pre (p q:g_api_Promise)(g:g_api_Sig):V0 (sgS (le0 p q) g)=pr0:=rfl
def lgK (id:Int)(b:List UInt8):g_api_Log:=⟨id,skK b,5,[],[],[]⟩
theorem Adg {id:Int}(h:IQ id=true)(b:List UInt8)(L:List g_api_Leaf)(H:List Int)(W:List g_api_Leaf):XA ⟨id,skK b,5,L,H,W⟩=true:=by
 obtain⟨k1,k2⟩:=Q6 b;simp only[GR]at k2;unfold XA;dsimp only;rw[h,AlG (show¬(skK b).toNat=0 by omega),All (show(skK b).toNat<1152921504606845789 by omega)];rfl
theorem AcM {id:Int}(h:IQ id=true)(b:List UInt8):chk (lgK id b)=0:=Zs (Adg h _ _ _ _) rfl rfl (by simp[lgK])
theorem Ahz {id:Int}(h:IQ id=true){b:List UInt8}(hb:b.length≤1000):K6 id b 5=some (lgK id b,0):=by
 unfold K6;rw[AiB hb,Aa,PC (l:=⟨id,skK b,5,[],[],[]⟩) (by simp),Aa,show chk ⟨id,skK b,5,[],[],[]⟩=0 from AcM h b,Ak1 (by decide)];rfl
def bdK (s:UInt8)(j:Nat):List UInt8:=[toB (j:Int),s]
def wtK (s:UInt8):Nat→List g_api_Leaf
 |0=> []
 |n+1=>wtK s n++[⟨bdK s n,1⟩]
def laK (s:UInt8)(n:Nat):g_api_Log:=⟨0,skK [s,0],5,[],[],wtK s n⟩
theorem QH (s:UInt8): ∀n,(wtK s n).length=n
 |0=>rfl
 |n+1=>by unfold wtK; rw[Ak5,QH s n]; rfl
theorem AaU {s:UInt8}: ∀{n:Nat} {x:g_api_Leaf},x∈wtK s n→∃j,j<n∧x.Body=bdK s j
 |0,x,h=>by cases h
 |n+1,x,h=>by
  unfold wtK at h;rcases Alr.1 h with q|q
  ·obtain⟨j,h1,h2⟩:=AaU q;exact⟨j,by omega,h2⟩
  ·rw[Amf]at q; subst q; exact⟨n,Ali _,rfl⟩
theorem U1: ∀{xs:List g_api_Leaf} {b:List UInt8} {i:Nat},(∀x∈xs,x.Body≠b)→PA xs b i=none
 | [],_,_,_=>rfl
 |x::r,b,i,h=>by
  unfold PA;rw[Ak1 (h x Alk)];exact U1 fun y hy=>h y (Alo _ hy)
theorem Aiu:((List.range 6).all fun i=>(List.range i).all fun j=>toB (j:Int) !=toB (i:Int))=true:=by kernel_rfl
theorem Ait {i j:Nat}(hi:i<6)(hj:j<i):toB (j:Int)≠toB (i:Int):=by
 have:=Alj.1 (Alj.1 Aiu i (List.mem_range.2 hi)) j (List.mem_range.2 hj);simpa using this
theorem AgX {s:UInt8}{n:Nat}(hn:n<6):PA ((laK s n).L++(laK s n).Wait) (bdK s n) 0=none:=U1 fun x hx=>by
 obtain⟨j,h1,h2⟩:=AaU (show x∈wtK s n from hx);rw[h2];intro q;exact Ait hn h1 (List.cons.inj q).1
theorem AgW {s:UInt8}{n:Nat}:PA ((laK s n).L++(laK s n).Wait) pr0 0=none:=U1 fun x hx=>by
 obtain⟨j,h1,h2⟩:=AaU (show x∈wtK s n from hx);rw[h2];intro q;exact Aja (q▸rfl)
theorem Y5 (s:UInt8)(n:Nat):((laK s n).L++(laK s n).Wait).length=n:=QH s n
theorem AjF (s:UInt8){n:Nat}(hn:n≤6):(laK s n).L.length+(laK s n).Wait.length≤90000:=by
 show 0+(wtK s n).length≤_;rw[QH]; omega
theorem Wb (s:UInt8): ∀n,n≤6→chk (laK s n)=0
 |0,_=>AcM rfl _
 |n+1,h=>RX (l:=laK s n) (b:=bdK s n) (now:=1) (Wb s n (by omega)) rfl (AgX (by omega)) (by rw[Y5]; omega)
theorem la_add (s:UInt8){n:Nat}(hn:n<6):Dd (laK s n) (bdK s n) 1=some (laK s (n+1),JD (laK s n) 1 (bdK s n),0):=
 Yf (by have:=AjF s (show n≤6 by omega); omega) (Wb s n (by omega)) rfl (AgX hn) (by rw[Y5]; omega)
theorem Aeb (s:UInt8){n:Nat}(hn:n≤6):iter (Dz s (n:Int)) F7 (0,0,skK [s,0],5,[],[],[])=some (.inl (0,skK [s,0],5,[],[],wtK s n)):=by
 refine AfR (step:=Dz s (n:Int)) (fun k=>((k:Int),(0:Int),skK [s,0],(5:Int),([]:List g_api_Leaf),([]:List Int),wtK s k)) n 0 F7 (fun k hk=> ?_) ?_ (by unfold F7; omega)
 ·simp only[Aly];have ha:=la_add s (show k<6 by omega);unfold Dz;dsimp only;rw[Ak3 (All (show(k:Int)<(n:Int) by omega))];show Ab (Dd (laK s k) (bdK s k) 1) _=_;rw[ha,Aa,Ak1 (show¬((0:Int) !=0)=true from by decide),Bo (by omega) (by omega)];rfl
 ·simp only[Aly];unfold Dz;dsimp only;rw[Ak1 (fun h=>by have:=AlW h; omega)]
theorem AhB {l:g_api_Log}(hl:l.L.length+l.Wait.length≤90000)(h:chk l=0)(i:Int){ks:List g_api_Key}(hk:ks.length≤10):EC i l ks=some (.inl (ks++[J4 l])):=by
 unfold EC;rw[Z4 (by omega) h,Aa,Ak1 (show¬((0:Int) !=0)=true from by decide),DQ 24 (by simp; omega) (by simp; omega),Aa]
theorem AcZ {a b:g_api_Log}(la:a.L.length+a.Wait.length≤90000)(lb:b.L.length+b.Wait.length≤90000)(ha:chk a=0)(hb:chk b=0):ID [a,b]=some ([J4 a,J4 b],0):=by
 have h:DO EC [a,b] 0 []=some (.inl [J4 a,J4 b]):=by
  show Ab (EC 0 a []) _=_;rw[AhB la ha 0 (by simp),Aa];show Ab (EC (0+1) b ([]++[J4 a])) _=_;rw[AhB lb hb _ (by simp),Aa];rfl
 unfold ID;rw[h,Aa]
theorem Ah9 {l l' x:g_api_Log}{p:g_api_Promise}{k0:List (Int×Bool)}{k:Nat}{ls:List g_api_Log}(hk:ls[k]? =some x)(h:(lkG (eqI l.Id) k0).getD false=false)(ha:Dd l pr0 3=some (l',p,0)):
  Df (k:Int) l k0 pr0 3 ls=some (p,true,upG (eqI l.Id) (l.Id,true) k0,pr0,3,ls.set k l'):=by
 unfold Df;rw[Ak1 (by rw[h]; decide),ha,Aa];show Ab (Ab (idx ls (k:Int)) _) _=_;rw[Dk hk,Aa,Bn,Aa];rfl
theorem Aij {a b a' b':g_api_Log}{p q:g_api_Promise}(hi:a.Id=0)(hj:b.Id=1)(ha:Dd a pr0 3=some (a',p,0))(hb:Dd b pr0 3=some (b',q,0)):
  AU [a,b] 2 [] pr0 3 [a,b]=some ([0,1],[p,q],true,upG (eqI b.Id) (b.Id,true) [(a.Id,true)],pr0,3,[a',b']):=by
 have e0:=Ah9 (l:=a) (k0:=[]) (k:=0) (ls:=[a,b]) rfl rfl ha;have e1:=Ah9 (l:=b) (k0:=[(a.Id,true)]) (k:=1) (ls:=[a',b]) rfl (by rw[hi,hj]; rfl) hb;have s0:AA [a,b] 2 ([],[],0,[],pr0,3,[a,b])=some (.inl ([0],[p],1,[(a.Id,true)],pr0,3,[a',b])):=by
  unfold AA;dsimp only;rw[Ak3 (show decide ((0:Int)<(([a,b]:List g_api_Log).length:Int))=true from rfl)];show Ab (some a) _=_;rw[Aa,Ak1 (show¬((([]:List Int).length:Int)==2)=true from by decide)];show Ab (Df ((0:Nat):Int) a [] pr0 3 [a,b]) _=_;rw[e0,Aa,Ak1 (show¬(!true)=true from by decide),DQ 8 (by decide) (by decide),Aa,DQ 48 (by simp) (by simp),Aa];rfl
 have s1:AA [a,b] 2 ([0],[p],1,[(a.Id,true)],pr0,3,[a',b])=some (.inl ([0,1],[p,q],2,upG (eqI b.Id) (b.Id,true) [(a.Id,true)],pr0,3,[a',b'])):=by
  unfold AA;dsimp only;rw[Ak3 (show decide ((1:Int)<(([a,b]:List g_api_Log).length:Int))=true from rfl)];show Ab (some b) _=_;rw[Aa,Ak1 (show¬((([0]:List Int).length:Int)==2)=true from by decide)];show Ab (Df ((1:Nat):Int) b [(a.Id,true)] pr0 3 [a',b]) _=_;rw[e1,Aa,Ak1 (show¬(!true)=true from by decide),DQ 8 (by decide) (by decide),Aa,DQ 48 (by simp) (by simp),Aa];rfl
 have s2:AA [a,b] 2 ([0,1],[p,q],2,upG (eqI b.Id) (b.Id,true) [(a.Id,true)],pr0,3,[a',b'])=some (.inr ([0,1],[p,q],upG (eqI b.Id) (b.Id,true) [(a.Id,true)],pr0,3,[a',b'])):=by
  unfold AA;exact Ak1 (show¬decide ((2:Int)<(([a,b]:List g_api_Log).length:Int))=true from by simp)
 unfold AU;rw[Gy 3 ((B8 s0).trans ((B8 s1).trans (CF s2))) (by decide),Aa,Aa];rfl
theorem sort2 {p q:g_api_Promise}(hp:p.Log=0)(hq:q.Log=1):Bu [p,q]=some [p,q]:=by
 obtain⟨a,b,c,d⟩:=p;obtain⟨a',b',c',d'⟩:=q;simp only at hp hq;subst hp hq;kernel_rfl
theorem Xv {a b a' b':g_api_Log}{p q:g_api_Promise}(hi:a.Id=0)(hj:b.Id=1)(ha:Dd a pr0 3=some (a',p,0))(hb:Dd b pr0 3=some (b',q,0))(hp:p.Log=0)(hq:q.Log=1)(hc:checkV (le0 p q)=0):
  E7 [a,b] dr0 3=some ([a',b'],le0 p q,0):=by
 have hpre:Jo dr0=some (pr0,0):=Ad1 (okc dr0_ok);unfold E7 Ch;rw[hpre,Aa,Ak1 (show¬((0:Int) !=0)=true from by decide),DQ 96 (by simp) (by simp),Aa,Aa,Alz];dsimp only;rw[Aij hi hj ha hb,Aa,Ak1 (show¬(!true)=true from by decide),sort2 hp hq,Aa];show Ab (Ck (le0 p q)) _=_;rw[MW,hc,Aa,Ak1 (show¬((0:Int) !=0)=true from by decide)];rfl
theorem YI {l:g_api_Log}(h:numB l.Id=true):promBC (JD l 3 pr0)=true:=by
 show(numB l.Id&&numB 3&&decide ((QB (H7 pr0).1 (H7 pr0).2).toNat<2305843009213693951)&&sigB (Mu l.Key _))=true;rw[h,Afe,Xg];rfl
theorem Wq {l:g_api_Log}{n:Nat}(hl:l.L.length+l.Wait.length≤100000)(h:chk l=0)(hn:n≤l.L.length)(v:Bool):
  IB l (if v=true then 1 else 0) (n:Int)=some ((CL v l).take n,0):=by
 have hll:(CL v l).length=l.L.length:=YY _ _ _ _;unfold IB;rw[Aah hl h,Aa];dsimp only;rw[Ak1 (by decide),Ak1 (by rw[hll]; simp; omega),Ak3 (by rw[hll]; omega),AlJ]
theorem Ab7 {l:g_api_Log}{n i:Nat}(hl:l.L.length+l.Wait.length≤100000)(h:chk l=0)(hn:n≤l.L.length)(h256:l.L.length≤256)(hi:i<n)(v:Bool):
  IC l (if v=true then 1 else 0) (i:Int) (n:Int)=some (⟨l.Id,(i:Int),(n:Int),Sd ((CL v l).take n) i⟩,0):=by
 have hll:(CL v l).length=l.L.length:=YY _ _ _ _;have htl:((CL v l).take n).length=n:=by rw[Alq]; omega
 unfold IC;rw[Wq hl h hn,Aa];dsimp only;rw[Ak1 (by decide),Afa (by rw[htl]; exact hi) (by rw[htl]; omega),Aa];dsimp only;rw[Ak1 (by decide)]
theorem Akz: ∀(n a l:Nat),a≠0→a<2^n→n≤9→a≤l→l<512→
  ∃a' l':Nat,iter Bb (n+1) ((a:Int),(l:Int))=some ((a':Int),(l':Int))∧a'%2=1∧a'≤l'∧l'<512∧(a=l→a'=l'∧JY a l=JY a' l')∧(a%2=1→a'=a∧l'=l):=by
 intro n;induction n with
 |zero=>intro a l h h1; simp at h1; omega
 |succ n ih=>
  intro a l h h1 hn hle hl;have e1:2^ (n+1)=2*2^n:=by rw[Al6]; omega
  by_cases ho:a%2=1
  ·refine⟨a,l,CF ?_,ho,hle,hl,fun e=>⟨e,rfl⟩,fun _=>⟨rfl,rfl⟩⟩;simp only[Bb,OY (show a<512 by omega)];rw[Ak1 (by simp; omega)]
  ·obtain⟨a',l',h2,h3,h4,h5,h6,h7⟩:=ih (a/2) (l/2) (by omega) (by omega) (by omega) (by omega) (by omega);refine⟨a',l',?_,h3,h4,h5,fun e=> ?_,fun e=>absurd e ho⟩
   ·rw[B8 (s':=(((a/2:Nat):Int),((l/2:Nat):Int)))]
    ·exact h2
    ·simp only[Bb,OY (show a<512 by omega)];rw[Ak3 (by simp; omega),Abp (by omega),Abp (by omega)]; rfl
   ·subst e;obtain⟨q1,q2⟩:=h6 rfl;exact⟨q1,by rw[MV h (by omega)]; exact q2⟩
theorem AkA (i:Int)(x:UInt64×UInt64)(a l:Nat)(s:UInt64×UInt64)(ha:a≤l)(hl:l<512)(hd:JY a l≠[]):
  ∃(a' l':Nat) (d:Bool),Bc i x ((a:Int),(l:Int),s.1,s.2)=some ((a':Int),(l':Int),(if d then J5 x s else J5 s x).1,(if d then J5 x s else J5 s x).2)∧a'≤l'∧l'<512∧JY a l=d::JY a' l':=by
 have hl0:l≠0:=fun e=>hd (by subst e; exact IK a);unfold Bc;by_cases hc:a%2=0∧a≠l
 ·refine⟨a/2,l/2,false,?_,by omega,by omega,Ij hl0 hc.1 hc.2⟩;simp only[OY (show a<512 by omega)];rw[Ak3 (by simp; omega)];simp only[GS,Ps,Aa];rw[Abp (by omega),Abp (by omega)]; rfl
 ·have ha0:a≠0:=fun e=>by
   subst e;have:(0:Nat)=l:=by
    by_cases e:(0:Nat)=l
    ·exact e
    ·exact absurd ⟨rfl,e⟩ hc
   omega
  obtain⟨a',l',h5,h6,h7,h8,h9,h10⟩:=Akz 9 a l ha0 (by omega) (by omega) ha hl;refine⟨a'/2,l'/2,true,?_,by omega,by omega,?_⟩
  ·simp only[OY (show a<512 by omega)];rw[Ak1 (by simp; omega)];simp only[GU,Ps,Aa,Gy _ h5 (by omega)];rw[Abp (by omega),Abp (by omega)]; rfl
  ·by_cases ho:a%2=1
   ·obtain⟨q1,q2⟩:=h10 ho;subst q1; subst q2;exact Jh hl0 ho
   ·obtain⟨q1,q2⟩:=h9 (by omega);rw[q2]; exact Jh (by omega) h6
theorem X5: ∀(ps:List (UInt64×UInt64)) (i:Int) (a l:Nat) (s:UInt64×UInt64),a≤l→l<512→ps.length=(JY a l).length→
  ∃q1 q2,D1 Bc ps i ((a:Int),(l:Int),s.1,s.2)=some (q1,q2,(AaR (JY a l) ps s).1,(AaR (JY a l) ps s).2):=by
 intro ps;induction ps with
 |nil=>intro i a l s _ _ h; have:JY a l=[]:=List.eq_nil_of_length_eq_zero h.symm; rw[this]; exact⟨_,_,rfl⟩
 |cons p ps ih=>
  intro i a l s ha hl h;obtain⟨a',l',d,h5,h6,h7,h8⟩:=AkA i p a l s ha hl (fun e=>by rw[e]at h; cases h);rw[h8]at h⊢;obtain⟨q1,q2,hq⟩:=ih (i+1) a' l' (if d then J5 p s else J5 s p) h6 h7 (by simpa using h);refine⟨q1,q2,?_⟩;show Ab (Bc i p _) _=_;rw[h5,Aa,hq];have e:AaR (d::JY a' l') (p::ps) s=AaR (JY a' l') ps (if d then J5 p s else J5 s p):=by
   unfold AaR;rw[goD]
  rw[e]
theorem AdV {a s:Nat}(h:a<s)(hs:s≤256)(leaf:UInt64×UInt64)(ps:List (UInt64×UInt64))(root:UInt64×UInt64)(hl:ps.length<1000000):
  C6 leaf (a:Int) (s:Int) ps root=some (if ps.length=(JY a (s-1)).length then(if AaR (JY a (s-1)) ps leaf=root then 0 else 71)else 80):=by
 obtain⟨i,b,h1,h2,h3,h4,_⟩:=AeN h hs;have hw:w64 ((i:Int)+(b:Int))=(((JY a (s-1)).length:Nat):Int):=by rw[Bo (by omega) (by omega)]; omega
 have hw2:w64 ((s:Int)-1)=((s-1:Nat):Int):=by rw[Bo (by omega) (by omega)]; omega
 unfold C6;rw[Ak1 (by simp; omega),h1,Aa,hw];by_cases hp:ps.length=(JY a (s-1)).length
 ·obtain⟨q1,q2,hq⟩:=X5 ps 0 a (s-1) leaf (by omega) (by omega) hp;have hc:Da (a:Int) (s:Int) ps leaf=some (AaR (JY a (s-1)) ps leaf):=by
   unfold Da;rw[hw2,hq,Aa]
  rw[Ak1 (by simp; omega),Ak3 hp,hc,Aa];by_cases hr:AaR (JY a (s-1)) ps leaf=root
  ·rw[Ak3 hr,hr,Tu,Ak1 (by decide)]
  ·rw[Ak1 hr,Ags hr,Ak3 (by decide)]
 ·rw[Ak1 hp,Ak3 (by simp; omega)]
theorem AdU {l:g_api_Log}{n i:Nat}(hn:n≤l.L.length)(h256:l.L.length≤256)(hi:i<n)(v:Bool)(root:UInt64×UInt64):
  ∃x,(CL v l)[i]? =some x∧C6 x (i:Int) (n:Int) (Sd ((CL v l).take n) i) root=some (if Sx ((CL v l).take n)=root then 0 else 71):=by
 have hll:(CL v l).length=l.L.length:=YY _ _ _ _;have htl:((CL v l).take n).length=n:=by rw[Alq]; omega
 have hil:i<(CL v l).length:=by omega
 have hx:((CL v l).take n)[i]? =some (CL v l)[i]:=by rw[List.getElem?_take,Ak3 hi]; simp[hil]
 have hw:=QI n ((CL v l).take n) i (by omega) (by omega);have hlead:=AfL n ((CL v l).take n) i (CL v l)[i] (by omega) hx;have hd:=U4 i (n-1) (by omega);rw[htl]at hw hlead;refine⟨(CL v l)[i],by simp[hil],?_⟩;rw[AdV hi (by omega) _ _ _ (by omega),Ak3 hw,hlead,Xn (by omega)]
theorem Af4 {l:g_api_Log}{n:Nat}{now:Int}(hl:l.L.length+l.Wait.length≤100000)(h:chk l=0)(hn:n≤l.L.length)(ht:IQ now=true)(v:Bool):
  Di l (if v=true then 1 else 0) (n:Int) now=some (IW l (n:Int) (Sx ((CL v l).take n)) now,0):=by
 obtain⟨h0,h1,h2,h3⟩:=Ji h;obtain⟨k1,k2,k3⟩:=Wc h0;have hll:(CL v l).length=l.L.length:=YY _ _ _ _;rw[Ak5]at h3;unfold Di;rw[Wq hl h hn,Aa];dsimp only;rw[GF,ht];show Ab (Ab (some true) _) _=_;rw[Aa];show Ab (some (0:Int)) _=_;rw[Aa,Ak1 (by decide),Xm _ (by rw[Alq]; omega),Aa,Rq,Aa,Xf k1 k2 (RL _),Aa];rfl
def lbK (s:UInt8):g_api_Log:=lgK 1 [s,1]
def pA (s:UInt8)(n:Nat):g_api_Promise:=JD (laK s n) 3 pr0
def pB (s:UInt8):g_api_Promise:=JD (lbK s) 3 pr0
def la1 (s:UInt8)(n:Nat):g_api_Log:=WX (laK s n) pr0 3
def lb1 (s:UInt8):g_api_Log:=WX (lbK s) pr0 3
def laM (s:UInt8)(n:Nat):g_api_Log:=Rt (la1 s n)
def lbM (s:UInt8):g_api_Log:=Rt (lb1 s)
def leK (s:UInt8)(n:Nat):g_api_Cert:=sgnS s (le0 (pA s n) (pB s))
def ksK (s:UInt8)(n:Nat):List g_api_Key:=[J4 (laK s n),J4 (lbK s)]
def wAnn:ByteArray:=⟨#[97,110,110]⟩
def cl0 (s:UInt8)(n:Nat):g_api_Client:=⟨wAnn,[rtK s],ksK s n,⟨[]⟩,⟨0,[]⟩,0⟩
def plK (s:UInt8)(n:Nat):g_api_Place:=⟨0,(n:Int),((n+1:Nat):Int),Sd ((CL false (laM s n)).take (n+1)) n⟩
def ofK (s:UInt8)(n:Nat):g_api_Offer:=⟨[leK s n],[plK s n]⟩
def shK (s:UInt8)(n:Nat):Cl:=⟨cl0 s n,ofK s n,[laM s n,lbM s]⟩
theorem VY (s:UInt8)(n:Nat):promsB (-1) [pA s n,pB s]=true:=by
 show(promBC (pA s n)&& !(decide ((0:Int)≤ -1))&&(promBC (pB s)&& !(decide ((1:Int)≤0))&&true))=true;rw[show promBC (pA s n)=true from YI rfl,show promBC (pB s)=true from YI rfl];rfl
theorem AcP (s:UInt8)(n:Nat):checkV (le0 (pA s n) (pB s))=0:=le_ok (VY s n) ⟨0,0⟩ (by decide)
theorem XL (s:UInt8)(n:Nat):checkV (leK s n)=0:=le_ok (VY s n) _ (Xg _ _)
theorem Ux:(IA pr0&&IQ 3)=true:=by rw[Aff]; rfl
theorem AcQ (s:UInt8):chk (lbK s)=0:=AcM rfl _
theorem AjG (s:UInt8){n:Nat}(hn:n≤5):Dd (laK s n) pr0 3=some (la1 s n,pA s n,0):=
 Yf (by have:=AjF s (show n≤6 by omega); omega) (Wb s n (by omega)) Ux AgW (by rw[Y5]; omega)
theorem AjD (s:UInt8):Dd (lbK s) pr0 3=some (lb1 s,pB s,0):=
 Yf (by simp[lbK,lgK]) (AcQ s) Ux rfl (by simp[lbK,lgK])
theorem AcT (s:UInt8){n:Nat}(hn:n≤5):chk (la1 s n)=0:=RX (Wb s n (by omega)) Ux AgW (by rw[Y5]; omega)
theorem AjE (s:UInt8):chk (lb1 s)=0:=RX (AcQ s) Ux rfl (by simp[lbK,lgK])
theorem AjH (s:UInt8)(n:Nat):(la1 s n).L.length+(la1 s n).Wait.length=n+1:=by
 show 0+(wtK s n++([⟨pr0,3⟩]:List g_api_Leaf)).length=_;rw[Ak5,QH]; simp
theorem RG (s:UInt8){n:Nat}(hn:n≤5):chk (laM s n)=0:=AaA (AcT s hn)
theorem KH (s:UInt8)(n:Nat):(laM s n).L.length=n+1:=by
 show(([]:List g_api_Leaf)++(wtK s n++([⟨pr0,3⟩]:List g_api_Leaf))).length=_;rw[Alz,Ak5,QH]; rfl
theorem laM_at (s:UInt8)(n:Nat):(laM s n).L[n]? =some ⟨pr0,3⟩:=by
 show(([]:List g_api_Leaf)++(wtK s n++([⟨pr0,3⟩]:List g_api_Leaf)))[n]? =_;rw[Alz,List.getElem?_append_right (by rw[QH]; omega),QH,Nat.sub_self]; rfl
theorem AcA (s:UInt8){n:Nat}(hn:n≤5)(c:g_api_Cert)(e:Int):iter (Cj ([la1 s n,lb1 s],c,e)) F7 (0,[])=some (.inl [laM s n,lbM s]):=by
 have h0:Cj ([la1 s n,lb1 s],c,e) (0,[])=some (.inl (1,[laM s n])):=by
  unfold Cj;dsimp only;rw[Ak3 (show decide ((0:Int)<2)=true from rfl)];show Ab (some (la1 s n)) _=_;rw[Aa,YW (by rw[AjH]; omega) (AcT s hn),Aa,Ak1 (show¬((0:Int) !=0)=true from by decide),DQ 96 (by simp) (by simp),Aa];rfl
 have h1:Cj ([la1 s n,lb1 s],c,e) (1,[laM s n])=some (.inl (2,[laM s n,lbM s])):=by
  unfold Cj;dsimp only;rw[Ak3 (show decide ((1:Int)<2)=true from rfl)];show Ab (some (lb1 s)) _=_;rw[Aa,YW (by show 0+1≤_; omega) (AjE s),Aa,Ak1 (show¬((0:Int) !=0)=true from by decide),DQ 96 (by simp) (by simp),Aa];rfl
 have h2:Cj ([la1 s n,lb1 s],c,e) (2,[laM s n,lbM s])=some (.inr (.inl [laM s n,lbM s])):=by
  unfold Cj;exact Ak1 (show¬decide ((2:Int)<((2:Nat):Int))=true from by decide)
 exact Gy 3 ((B8 h0).trans ((B8 h1).trans (CF h2))) (by decide)
theorem ann_ok:whoB wAnn=true:=by kernel_rfl
theorem AkD:CK ⟨0,[]⟩=some 0:=by kernel_rfl
theorem Adc (k:UInt64):inB (K0 k)=true:=by unfold inB; rw[in_eq]; rfl
theorem madeG {c:g_api_Client}{r:g_api_Cert}{k l:g_api_Key}(hw:whoB c.Who=true)(hr:c.Roots=[r])(hb:WL r=false)(hl:c.Logs=[k,l])(hk:RI (-1) [k,l]=true)(hv:c.View=0):AfE c=true:=by
 unfold AfE;rw[hw,hr,hl,hk,hv,List.any_cons,hb];rfl
theorem keys2 (a b:UInt64):RI (-1) [⟨0,K0 a,5⟩,⟨1,K0 b,5⟩]=true:=by
 show((!decide ((0:Int)≤ -1))&&(Afo 0&&(Afo 5&&inB (K0 a)))&&((!decide ((1:Int)≤0))&&(Afo 1&&(Afo 5&&inB (K0 b)))&&true))=true;rw[Adc,Adc]; rfl
theorem WC (s:UInt8)(n:Nat):m_client_Check (cl0 s n)=some 0:=by
 refine WB ?_ (OV.2 ⟨by simp[cl0],List.Pairwise.nil,by simp[cl0]⟩) AkD;have hb:WL (rtK s)=false:=by
  unfold WL;rw[show(rtK s).Ca=true from rfl,Ak3 rfl,AbO];rfl
 rw[Ajv,madeG (c:=cl0 s n) ann_ok rfl hb rfl (keys2 _ _) rfl];rfl
theorem Aft (s:UInt8)(n:Nat):FY wAnn [rtK s] (ksK s n) 0=some (cl0 s n,0):=by
 unfold FY A4 Ci;rw[DQ 168 (by simp) (by simp),Aa,Aa,DQ 24 (by simp[ksK]) (by simp[ksK]),Aa,Aa];show Ab (m_client_Check (cl0 s n)) _=_;rw[WC,Aa];rfl
theorem Acn (s:UInt8){n:Nat}(hn:n≤5):Du s nXA (n:Int)=some (shK s n,true):=by
 unfold Du;rw[AiB (by simp),Aa,Rf (Q6 _).1 (Q6 _).2,Aa];show Ab (Fg (rt0 s) s) _=_;rw[Yv s (rt0_ok s),Aa,Ahz rfl (by simp),Aa,Ahz rfl (by simp),Aa];show Ab (iter (Dz s (n:Int)) F7 (0,0,skK [s,0],5,[],[],[])) _=_;rw[Aeb s (by omega),Aa];show Ab (ID [laK s n,lbK s]) _=_;rw[AcZ (AjF s (by omega)) (by simp[lbK,lgK]) (Wb s n (by omega)) (AcQ s),Aa];show Ab (I5 (⟨0,[nXA],4,5⟩:Ii) 9 3 tRS) _=_;rw[dr0_eq,Aa];show Ab (E7 [laK s n,lbK s] dr0 3) _=_;rw[Xv rfl rfl (AjG s hn) (AjD s) rfl rfl (AcP s n),Aa,Ak1 (show¬(((((((((0:Int) !=0)||(!true))||((0:Int) !=0))||((0:Int) !=0))||((0:Int) !=0))||((0:Int) !=0))||((0:Int) !=0))||((([la1 s n,lb1 s]:List g_api_Log).length:Int) !=2))=true from by simp)];dsimp only;rw[Yv s (AcP s n),Aa,AcA s hn,Aa];show Ab (FY wAnn [rtK s] (ksK s n) 0) _=_;rw[Aft,Aa];show Ab (some (laM s n)) _=_;rw[Aa,show w64 ((n:Int)+1)=((n+1:Nat):Int)from by rw[Bo (by omega) (by omega)]; rfl];show Ab (IC (laM s n) (if false=true then 1 else 0) (n:Int) ((n+1:Nat):Int)) _=_;rw[Ab7 (by rw[KH]; show n+1+0≤_; omega) (RG s hn) (by rw[KH]; omega) (by rw[KH]; omega) (Ali n) false,Aa,Bn];rfl
theorem tim3 (c:g_api_Cert)(now:Int):timeB c now=(decide (c.From≤now)&&decide (c.Until>now)):=rfl
theorem pathG {lf r:g_api_Cert}(h1:checkV lf=0)(h2:checkV r=0)(ha:caB 0 [lf]=true)(hk:linksV [lf]=0)(hn:lf.Names=[nXA])(hf:lf.From=3)(hu:lf.Until=8)(hf':r.From=0)(hu':r.Until=100)(hd:r.Depth=1)(hp:r.Permit=[])(hl:OO lf r=0)(name:ByteArray)(now:Int):
  Z8 [r] [lf] name now=if now<0∨now>1099511627776 then 1 else if nameV name≠0 then nameV name else if eqS name nXA=false then 110 else if now<3∨now≥8 then 190 else 0:=by
 rw[Acj (leaf:=lf) (more:=[]) (roots:=[r]) (by simp) (fun c hc=>by rw[Amf.1 hc]; exact h1) ha hk (by simp) (fun c hc=>by rw[Amf.1 hc]; exact h2) name now];by_cases h0:now<0∨now>1099511627776
 ·rw[Ak3 h0,Ak3 h0]
 rw[Ak1 h0,Ak1 h0];by_cases h1:nameV name≠0
 ·rw[Ak3 h1,Ak3 h1]
 rw[Ak1 h1,Ak1 h1];have e1:(lf.Names.any fun s=>eqS name s)=eqS name nXA:=by
  rw[hn];show(eqS name nXA||false)=_;rw[Bool.or_false]
 have e3:timeB lf now=(decide ((3:Int)≤now)&&decide ((8:Int)>now)):=by rw[tim3,hf,hu]
 have e4:timeB r now=(decide ((0:Int)≤now)&&decide ((100:Int)>now)):=by rw[tim3,hf',hu']
 have e2:([lf].any fun c=> !timeB c now)= !(decide ((3:Int)≤now)&&decide ((8:Int)>now)):=by
  rw[←e3];show(!timeB lf now||false)=_;rw[Bool.or_false]
 rw[e1,e2];cases eqS name nXA with
 |false=>rfl
 |true=>
  rw[Ak1 (show¬(true=false)from by decide),Ak1 (show¬(true=false)from by decide)];by_cases h2:now<3∨now≥8
  ·rw[Ak3 h2,Ak3 (by rw[show(decide ((3:Int)≤now)&&decide ((8:Int)>now))=false from by rw[Bool.and_eq_false_iff,decide_eq_false_iff_not,decide_eq_false_iff_not]; omega]; rfl)]
  ·rw[Ak1 h2,Ak1 (by rw[show(decide ((3:Int)≤now)&&decide ((8:Int)>now))=true from by rw[AkZ,Ak7,Ak7]; omega]; decide)];refine Aa9 (r:=r) (by simp) ?_;unfold byV;dsimp only;rw[show(([lf]:List g_api_Cert).getLast (by simp))=lf from rfl,hl,Ak1 (show¬((0:Int)≠0)from by decide),e4,show(decide ((0:Int)≤now)&&decide ((100:Int)>now))=true from by rw[AkZ,Ak7,Ak7]; omega,Ak1 (show¬(true=false)from by decide)];have ho:Xz lf.Names 0 r=0:=by
    unfold Xz;rw[hd,hp];rfl
   show(if Xz lf.Names 0 r=0 then 0 else Xz lf.Names 0 r)=0;rw[ho];rfl
theorem linkG {a b:g_api_Cert}(h1:checkV a=0)(h2:checkV b=0)(hc:b.Ca=true)(hi:a.Issuer=b.Subject)(hs:Aej b.Key (IM a) a.Sig=0):OO a b=0:=by
 unfold OO;rw[Ak1 (nn0 h1),Ak1 (nn0 h2),hc,hi,AhS,Ak1 (show¬((!true)||(!true))=true from by decide),hs];rfl
theorem Afi (s:UInt8)(n:Nat)(name:ByteArray)(now:Int):Z8 [rtK s] [leK s n] name now=if now<0∨now>1099511627776 then 1 else if nameV name≠0 then nameV name else if eqS name nXA=false then 110 else if now<3∨now≥8 then 190 else 0:=
 pathG (XL s n) (AbO s) rfl rfl rfl rfl rfl rfl rfl rfl rfl (linkG (XL s n) (AbO s) rfl rfl (AeS s (AcP s n))) name now
theorem Ack (s:UInt8)(n:Nat)(name:ByteArray)(now:Int):m_path_Check [rtK s] [leK s n] name now=some (if now<0∨now>1099511627776 then 1 else if nameV name≠0 then nameV name else if eqS name nXA=false then 110 else if now<3∨now≥8 then 190 else 0):=by
 rw[Ajg,Afi]
theorem Yb (ks:List g_api_Key)(p:g_api_Promise){i:Nat}{x:g_api_Key}(hx:ks[i]? =some x):
  AN ks (i:Int) (p.Log,p.At,p.Leaf.1,p.Leaf.2,p.Sig.E,p.Sig.S)=some (if(x.Log==p.Log)=true then .inr ((i:Int),p)else .inl (p.Log,p.At,p.Leaf.1,p.Leaf.2,p.Sig.E,p.Sig.S)):=by
 unfold AN Ei;rw[Dk hx,Aa,Aa];dsimp only;cases (x.Log==p.Log)<;>rfl
theorem AjU {k l:g_api_Key}{p:g_api_Promise}(h:(k.Log==p.Log)=true):Ar [k,l] p=some (0,p):=by
 have b0:=Yb [k,l] p (i:=0) (x:=k) rfl;rw[h,Ak3 rfl]at b0;unfold Ar;rw[show B7 (AN [k,l]) ([k,l]:List g_api_Key).length 0 (p.Log,p.At,p.Leaf.1,p.Leaf.2,p.Sig.E,p.Sig.S)=some (.inr (((0:Nat):Int),p))from enR b0,Aa];rfl
theorem AjT {k l:g_api_Key}{p:g_api_Promise}(h0:(k.Log==p.Log)=false)(h:(l.Log==p.Log)=true):Ar [k,l] p=some (1,p):=by
 have b0:=Yb [k,l] p (i:=0) (x:=k) rfl;have b1:=Yb [k,l] p (i:=1) (x:=l) rfl;rw[h0,Ak1 (by decide)]at b0;rw[h,Ak3 rfl]at b1;unfold Ar;rw[show B7 (AN [k,l]) ([k,l]:List g_api_Key).length 0 (p.Log,p.At,p.Leaf.1,p.Leaf.2,p.Sig.E,p.Sig.S)=some (.inr (((1:Nat):Int),p))from(enL b0).trans (enR b1),Aa];rfl
theorem AdK {a:Ak}{leaf:UInt64×UInt64}{p:g_api_Promise}{j:Nat}{k:g_api_Key}(i:Int){s:List g_api_Promise}(hs:s.length≤1000)(h1:Ar a.Client.Logs p=some ((j:Int),p))(h2:a.Client.Logs[j]? =some k)(h3:p.Leaf=leaf)(h4:C1 k p=some 0):
  BI a leaf i p s=some (s++[p]):=by
 have hl:Jf p.Leaf leaf=true:=by rw[h3]; exact Tu leaf
 unfold BI;rw[h1,Aa];dsimp only;rw[ge0,Alx,hl,Aj2,Dk h2,Aa,Aj2,h4,Aa,Alx,Ak3 (by decide),app48 s p (by omega)];rfl
theorem AdS {l:g_api_Log}(h:XA l=true):C1 (J4 l) (JD l 3 pr0)=some 0:=WE h rfl
theorem countS (c:g_api_Client)(s:UInt8)(n:Nat)(hk:c.Logs=ksK s n):m_client_asked_counting ⟨c⟩ [pA s n,pB s] (H7 pr0)=some [pA s n,pB s]:=by
 have i0:Ar c.Logs (pA s n)=some (((0:Nat):Int),pA s n):=by rw[hk]; exact AjU rfl
 have i1:Ar c.Logs (pB s)=some (((1:Nat):Int),pB s):=by rw[hk]; exact AjT rfl rfl
 have b0:=AdK (a:=⟨c⟩) (leaf:=H7 pr0) (p:=pA s n) (j:=0) (k:=J4 (laK s n)) 0 (s:=[]) (by simp) i0 (by show c.Logs[0]? =_; rw[hk]; rfl) rfl (AdS (Adg rfl _ _ _ _));have b1:=AdK (a:=⟨c⟩) (leaf:=H7 pr0) (p:=pB s) (j:=1) (k:=J4 (lbK s)) (0+1) (s:=[]++[pA s n]) (by simp) i1 (by show c.Logs[1]? =_; rw[hk]; rfl) rfl (AdS (Adg rfl _ _ _ _));have h:D1 (BI ⟨c⟩ (H7 pr0)) [pA s n,pB s] 0 []=some [pA s n,pB s]:=by
  show Ab (BI ⟨c⟩ (H7 pr0) 0 (pA s n) []) _=_;rw[b0,Aa];show Ab (BI ⟨c⟩ (H7 pr0) (0+1) (pB s) ([]++[pA s n])) _=_;rw[b1,Aa];rfl
 unfold m_client_asked_counting;rw[h];rfl
theorem leafS (s:UInt8)(n:Nat):m_cert_Leaf (leK s n)=some (H7 pr0,0):=by
 rw[AgK (okc (XL s n)),show V0 (leK s n)=pr0 from le_pre _ _ _];rfl
theorem accS {c:g_api_Client}{o:g_api_Offer}{name:ByteArray}{now:Int}{x:g_api_Cert}{more:List g_api_Cert}{leaf:UInt64×UInt64}{ps:List g_api_Promise}{b:Bool}(h0:m_client_Check c=some 0)(h1:(if(decide (0≤now)&&decide (now≤1099511627776))=true then m_path_Check c.Roots o.Path name now else some 1)=some 0)(ho:o.Path=x::more)(hl:m_cert_Leaf x=some (leaf,0))(h3:m_client_asked_counting ⟨c⟩ x.Proms leaf=some ps)(z3:2≤ps.length)(h5:m_cascade_Has c.Cascade x.Serial=some b):
  AD c o name now=some (if o.Where.any (showB c ps leaf)=true then(if b=true then 270 else 0)else 240):=by
 have r0:=(fb0 (o:=o) (name:=name) (now:=now) (lf:=(0,0)) (ps:=[]) h0).1 rfl;have r1:=(fb1 (c:=c) (lf:=(0,0)) (ps:=[]) h1).1 rfl;have r2:=(fb2 (c:=c) (name:=name) (now:=now) (lf:=(0,0)) (ps:=[]) ho hl).1 rfl;have r3:=(fb3 (name:=name) (now:=now) (ps:=[]) ho h3).1 z3;have r4:=fb4 (c:=c) (o:=o) (name:=name) (now:=now) (lf:=leaf) (ps:=ps);cases z4:o.Where.any (showB c ps leaf)with
 |true=>
  have r4:=r4.1 z4;have r5:=fb5 (name:=name) (now:=now) (lf:=leaf) (ps:=ps) ho h5;cases b with
  |false=>exact Yg ((enL r0).trans ((enL r1).trans ((enL r2).trans ((enL r3).trans ((enL r4).trans (enL (r5.1 rfl))))))) (.inr ⟨rfl,_,rfl⟩)
  |true=>
   obtain⟨t,r5⟩:=r5.2 rfl;exact Yg ((enL r0).trans ((enL r1).trans ((enL r2).trans ((enL r3).trans ((enL r4).trans (enR r5)))))) (.inl ⟨t,rfl⟩)
 |false=>
  obtain⟨t,r4⟩:=r4.2 z4;exact Yg ((enL r0).trans ((enL r1).trans ((enL r2).trans ((enL r3).trans (enR r4))))) (.inl ⟨t,rfl⟩)
theorem showS (c:g_api_Client)(s:UInt8)(n:Nat):(ofK s n).Where.any (showB c [pA s n,pB s] (H7 pr0))=c.Pool.L.any (UU (H7 pr0) (plK s n)):=by
 show(showB c [pA s n,pB s] (H7 pr0) (plK s n)||false)=_;unfold showB;rw[Bool.or_false,show([pA s n,pB s].any fun p=>p.Log==(plK s n).Log)=true from rfl,Alx]
theorem heldS {s:UInt8}{n:Nat}(hn:n≤5){h:g_api_Head}(h1:h.Log=0)(h2:h.Size=((n+1:Nat):Int)):UU (H7 pr0) (plK s n) h=decide (Sx ((CL false (laM s n)).take (n+1))=h.Root):=by
 have hl:=KH s n;obtain⟨x,e1,e2⟩:=AdU (l:=laM s n) (n:=n+1) (i:=n) (by omega) (by omega) (Ali n) false h.Root;have hx:x=H7 pr0:=by
  have:=XK false (Ji (RG s hn)).2.2.1 (laM_at s n);rw[e1]at this;exact AkY this
 subst hx;unfold UU mcV;rw[show(plK s n).At=(n:Int)from rfl,show(plK s n).Size=((n+1:Nat):Int)from rfl,show(plK s n).Proof=Sd ((CL false (laM s n)).take (n+1)) n from rfl,e2,h1,h2,show(plK s n).Log=0 from rfl];by_cases q:Sx ((CL false (laM s n)).take (n+1))=h.Root
 ·rw[Ak3 q,All q]; simp
 ·rw[Ak1 q,AlG q]; simp
theorem AkW {c:g_api_Client}{s:UInt8}{n:Nat}(h0:m_client_Check c=some 0)(hr:c.Roots=[rtK s])(hk:c.Logs=ksK s n){b:Bool}(hb:m_cascade_Has c.Cascade 9=some b){now:Int}(hn:3≤now∧now<8):
  AD c (ofK s n) nXA now=some (if c.Pool.L.any (UU (H7 pr0) (plK s n))=true then(if b=true then 270 else 0)else 240):=by
 have hp:(if(decide (0≤now)&&decide (now≤1099511627776))=true then m_path_Check c.Roots (ofK s n).Path nXA now else some 1)=some 0:=by
  rw[Ak3 (by rw[AkZ,Ak7,Ak7]; omega),hr];show m_path_Check [rtK s] [leK s n] nXA now=_;rw[Ack,Ak1 (by omega),Ak1 (by rw[show nameV nXA=0 from by kernel_rfl]; decide),AhS,Ak1 (by decide),Ak1 (by omega)]
 rw[accS (x:=leK s n) (more:=[]) (leaf:=H7 pr0) (ps:=[pA s n,pB s]) (b:=b) h0 hp rfl (leafS s n) (countS c s n hk) (Ak6 _) hb,showS]
theorem tmodS {x:Int}(h:0≤x): ∃n:Nat,Int.tmod x 6=(n:Int)∧n≤5:=by
 have h1:=Int.tmod_nonneg 6 h;have h2:=Int.tmod_lt_of_pos x (show(0:Int)<6 by decide);exact⟨(Int.tmod x 6).toNat,by omega,by omega⟩
theorem logs0S (s:UInt8)(n:Nat):De (shK s n)=some (laM s n):=by
 have h: ¬((((shK s n).logs_.length:Int)==0)=true):=show¬((((2:Nat):Int)==0)=true)from by decide
 unfold De;rw[Ak1 h];rfl
theorem fnd_at {α:Type}{p:α→Bool}{x:α}{r:List α}(h:p x=true):fnd p (x::r) 0=some (0,x):=by
 unfold fnd;rw[h]; rfl
theorem rightS {l:g_api_Log}{n t:Int}{r:UInt64×UInt64}{ks:List g_api_Key}(h:XA l=true)(ht:IQ t=true)(hn:0≤n∧n≤256):Kg (IW l n r t) (J4 l::ks)=true:=by
 have hc:=WG (r:=r) h ht hn;rw[AhY]at hc;have hc:=AkY hc;unfold Kg;rw[fnd_at (x:=J4 l) (r:=ks) (show((J4 l).Log==(IW l n r t).Log)=true from beq_self_eq_true l.Id)];show(chd (J4 l) (IW l n r t)==0)=true;rw[hc]; rfl
theorem takeS {c:g_api_Client}{h:g_api_Head}(hc:m_client_Check c=some 0)(hp:c.Pool=⟨[]⟩)(hr:Kg h c.Logs=true):
  Cw c h=some (W5 c [h],0)∧m_client_Check (W5 c [h])=some 0:=by
 have hA:SH c.Pool.L h c.Logs=([h],0):=by
  rw[hp];unfold SH;rw[Ak3 (OV.2 ⟨by simp,List.Pairwise.nil,by simp⟩),Ak3 hr];rfl
 obtain⟨k1,k2,k3⟩:=AdO hc;refine⟨?_,WB (c:=W5 c [h]) ((AcG c _).trans k1) ?_ k3⟩
 ·unfold Cw;rw[hc,Aa,Ak1 (show¬((0:Int) !=0)=true from by decide),Aj8,hA,Aa];rfl
 ·have:=(AkV (l:=c.Pool.L) (h:=h) (ks:=c.Logs) (by rw[hA])).1;rw[hA]at this;exact this
theorem AkI (x:Int):BO [] x=some (0,false):=by
 have h:iter (CS [] x) F7 (0,0)=some 0:=Gy 1 (CF (by
  unfold CS;exact Ak1 (show¬decide ((0:Int)<0)=true from by decide))) (by decide)
 unfold BO;rw[show(([]:List Int).length:Int)=0 from rfl,h];rfl
theorem AfU (x:Int):B4 [] 0 [x]=some [x]:=by
 unfold B4;rw[Ak3 (show(0:Int)≤0∧(0:Int)≤(([]:List Int).length:Int)from by decide),Ak1 (show¬((([x]:List Int).length:Int)==0)=true from by simp),Ak3 (show((0:Int)==(([]:List Int).length:Int))=true from rfl),DQ 8 (by simp) (by simp),Aa];rfl
def AjW (l:g_api_Log)(n:Nat):g_api_Log:=⟨l.Id,l.Key,l.Delay,l.L,[(n:Int)],l.Wait⟩
theorem Af3 {l:g_api_Log}{n:Nat}(hl:l.L.length+l.Wait.length≤100000)(h:chk l=0)(hn:l.L.length=n+1)(hh:l.Hide=[]):JJ l=some (AjW l n,0):=by
 unfold JJ;rw[PC hl,Aa,h,Ak1 (show¬((0:Int) !=0)=true from by decide),hn,show w64 (((n+1:Nat):Int)-1)=(n:Int)from by rw[Bo (by omega) (by omega)]; omega];rw[Bn];rw[Ak1 (show¬decide ((n:Int)<0)=true from by rw[Ak7]; omega),hh,AkI,Aa,Ak3 (show(!((0:Int),false).snd)=true from rfl)];unfold CV;rw[DQ 8 (by simp) (by simp),Aa,Aa,AlB,AfU,Aa,Aa];rfl
theorem Zt {l:g_api_Log}{n:Nat}(h:chk l=0)(hn:l.L.length=n+1):chk (AjW l n)=0:=by
 obtain⟨h0,h1,h2,h3⟩:=Ji h;refine Zs h0 h1 ?_ h3;show((!decide ((n:Int)≤ -1)&& !decide ((l.L.length:Int)≤(n:Int)))&&true)=true;rw[hn];simp only[Bool.and_true,AkZ,Bool.not_eq_true',decide_eq_false_iff_not];omega
def dbS (s:UInt8)(n:Nat)(v:Bool):UInt64×UInt64:=Sx ((CL v (AjW (laM s n) n)).take (n+1))
def hdS (s:UInt8)(n:Nat)(v:Bool):g_api_Head:=IW (AjW (laM s n) n) ((n+1:Nat):Int) (dbS s n v) 4
theorem Tr (s:UInt8){n:Nat}(hn:n≤5)(v:Bool):Di (AjW (laM s n) n) (if v=true then 1 else 0) ((n+1:Nat):Int) 4=some (hdS s n v,0):=
 Af4 (by show(laM s n).L.length+0≤_; rw[KH]; omega) (Zt (RG s hn) (KH s n)) (by show n+1≤(laM s n).L.length; rw[KH]; exact Ak6 _) rfl v
theorem Pj (s:UInt8){n:Nat}(hn:n≤5)(v:Bool):Cw (cl0 s n) (hdS s n v)=some (W5 (cl0 s n) [hdS s n v],0)∧m_client_Check (W5 (cl0 s n) [hdS s n v])=some 0:=
 takeS (WC s n) rfl (rightS (l:=AjW (laM s n) n) (Ji (Zt (RG s hn) (KH s n))).1 rfl (by omega))
theorem AdE (s:UInt8)(n:Nat):dbS s n false=Sx ((CL false (laM s n)).take (n+1)):=by
 unfold dbS CL;rw[YZ,YZ,show(AjW (laM s n) n).L=(laM s n).L from rfl]
theorem has0:m_cascade_Has ⟨0,[]⟩ 9=some false:=by kernel_rfl
theorem AkX {c:g_api_Client}{s:UInt8}{n:Nat}{h:g_api_Head}(hn:n≤5)(h0:m_client_Check c=some 0)(hr:c.Roots=[rtK s])(hk:c.Logs=ksK s n)(hp:c.Pool=⟨[h]⟩){b:Bool}(hb:m_cascade_Has c.Cascade 9=some b)(h1:h.Log=0)(h2:h.Size=((n+1:Nat):Int)){now:Int}(ht:3≤now∧now<8):
  AD c (ofK s n) nXA now=some (if dbS s n false=h.Root then(if b=true then 270 else 0)else 240):=by
 rw[AkW h0 hr hk hb ht,hp,show(⟨[h]⟩:g_api_Pool).L=[h]from rfl,List.any_cons,List.any_nil,Bool.or_false,heldS hn h1 h2,←AdE];by_cases q:dbS s n false=h.Root
 ·rw[Ak3 (All q),Ak3 q]
 ·rw[Ak1 (by rw[Ak7]; exact q),Ak1 q]
theorem P7 (s:UInt8){n:Nat}(hn:n≤5)(v:Bool):AD (W5 (cl0 s n) [hdS s n v]) (ofK s n) nXA 4=some (if dbS s n false=dbS s n v then 0 else 240):=
 AkX (b:=false) hn (Pj s hn v).2 rfl rfl rfl has0 rfl rfl ⟨by decide,by decide⟩
theorem viewsG {seed ahead:UInt8}{n:Nat}{x:Cl}{l l':g_api_Log}{h0 h1:g_api_Head}{c0 c1:g_api_Client}(hn:n≤5)(q0:Int.tmod (w64 (ahead.toNat:Int)) 6=(n:Int))(q1:Du seed nXA (n:Int)=some (x,true))(q2:De x=some l)(q3:JJ l=some (l',0))
  (q4:Di l' 0 ((n+1:Nat):Int) 4=some (h0,0)) (q5:Di l' 1 ((n+1:Nat):Int) 4=some (h1,0)) (q6:Cw x.c_ h0=some (c0,0)) (q7:Cw x.c_ h1=some (c1,0)) (q8:AD c0 x.o_ nXA 4=some 0) (q9:AD c1 x.o_ nXA 4=some (if h0.Root=h1.Root then 0 else 240)):
  DN seed ahead=some true:=by
 unfold DN;rw[XI,Aa,Ak1 (show¬(!true)=true from by decide),q0,Bn];show Ab (Du seed nXA (n:Int)) _=_;rw[q1,Aa,Ak1 (show¬(!true)=true from by decide)];show Ab (De x) _=_;rw[q2,Aa,q3,Aa,show w64 ((n:Int)+1)=((n+1:Nat):Int)from by rw[Bo (by omega) (by omega)]; rfl];show Ab (Di l' 0 ((n+1:Nat):Int) 4) _=_;rw[q4,Aa];show Ab (Di l' 1 ((n+1:Nat):Int) 4) _=_;rw[q5,Aa];show Ab (Cw x.c_ h0) _=_;rw[q6,Aa];show Ab (Cw x.c_ h1) _=_;rw[q7,Aa,Ak1 (show¬((((((0:Int) !=0)||((0:Int) !=0))||((0:Int) !=0))||((0:Int) !=0))||((0:Int) !=0))=true from by decide)];show Ab (if Jf h0.Root h1.Root=true then some 0 else some 240) _=_;have e:(if Jf h0.Root h1.Root=true then some 0 else some 240)=some (if h0.Root=h1.Root then(0:Int)else 240):=by
  rw[Agt];by_cases q:h0.Root=h1.Root
  ·rw[Ak3 q,Ak3 (AlM.2 q)]
  ·rw[Ak1 q,Ak1 (fun h=>q (AlM.1 h))]
 rw[e,Aa];show Ab (AD c0 x.o_ nXA 4) _=_;rw[q8,Aa];show Ab (AD c1 x.o_ nXA 4) _=_;rw[q9,Aa,beq_self_eq_true,beq_self_eq_true];rfl
theorem ZQ (seed ahead:UInt8):DN seed ahead=some true:=by
 obtain⟨n,h1,hn⟩:=tmodS (show(0:Int)≤w64 (ahead.toNat:Int)from by
  have:=ahead.toNat_lt;rw[Bo (by omega) (by omega)]; omega)
 have a0:=P7 seed hn false;rw[Ak3 (show dbS seed n false=dbS seed n false from rfl)]at a0;exact viewsG hn h1 (Acn seed hn) (logs0S seed n) (Af3 (by rw[KH]; show n+1+0≤_; omega) (RG seed hn) (KH seed n) rfl) (Tr seed hn false) (Tr seed hn true) (Pj seed hn false).1 (Pj seed hn true).1 a0 (P7 seed hn true)
end Go.Proofs.YtnhdojckpcbjeaaGreatDoor
end
