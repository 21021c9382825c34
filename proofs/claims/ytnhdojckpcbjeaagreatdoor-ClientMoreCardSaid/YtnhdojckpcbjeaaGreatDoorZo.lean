/- Several texts, one behind the other. Conditions: none. -/
import Derived.Test.YtnhdojckpcbjeaaGreatDoorZn
import Derived.Test.YtnhdojckpcbjeaaGreatDoorZi
import Derived.Test.YtnhdojckpcbjeaaGreatDoorZj
import Derived.Test.YtnhdojckpcbjeaaGreatDoorZk
import Derived.Test.YtnhdojckpcbjeaaGreatDoorZl
import Derived.KernelRfl
set_option linter.unusedSimpArgs false
set_option linter.unusedVariables false
set_option maxHeartbeats 20000000
set_option maxRecDepth 100000
section
namespace Go.Proofs.YtnhdojckpcbjeaaGreatDoor
open Go Go.Gw Go.Ax
def AdS {α:Type}(f:Nat→α→Int):Nat→List α→Int
 |_,[]=>0
 |i,x::l=>if f i x=0 then AdS f (i+1) l else f i x
theorem Vl {α:Type}(f:Nat→α→Int): ∀(l:List α) (i:Nat),AdS f i l=0↔∀k x,l[k]? =some x→f (i+k) x=0
 | [],i=>by simp[AdS]
 |x::l,i=>by
  unfold AdS;have ih:=Vl f l (i+1);constructor
  ·intro h k y hy;by_cases h0:f i x=0
   ·rw[AhZ h0]at h;cases k with
    |zero=>cases hy; exact h0
    |succ k=>
     have:=ih.1 h k y (by simpa using hy);rw[show i+(k+1)=i+1+k from by omega]; exact this
   ·rw[AhX h0]at h; exact absurd h h0
  ·intro h;have h0:f i x=0:=h 0 x rfl;rw[AhZ h0];refine ih.2 fun k y hy=> ?_;rw[show i+1+k=i+(k+1)from by omega];exact h (k+1) y (by simpa using hy)
def fsO (e:Int):Unit⊕Int:=if e=0 then .inl ()else .inr e
theorem Ww {e:Int}:(match fsO e with| .inr r=>some r| .inl _=>some 0:Option Int)=some e:=by
 unfold fsO;by_cases h:e=0
 ·rw[AhZ h,h]
 ·rw[AhX h]
theorem Q2 {α:Type}{body:Int→α→Unit→Option (Unit⊕Int)}(f:Nat→α→Int): ∀(l:List α) (i:Nat),(∀k x,l[k]? =some x→body ((i+k:Nat):Int) x ()=some (fsO (f (i+k) x)))→Et body l (i:Int) ()=some (fsO (AdS f i l))
 | [],i,_=>rfl
 |x::l,i,h=>by
  have h0:=h 0 x rfl;show Ab (body (i:Int) x ()) _=_;rw[show body (i:Int) x ()=_ from h0];show _=some (fsO (if f i x=0 then _ else _));rw[AiW,Aa];by_cases hz:f i x=0
  ·rw[AhZ hz,hz];refine Q2 f l (i+1) fun k y hy=> ?_;have:=h (k+1) y (by simpa using hy);rw[show i+1+k=i+(k+1)from by omega]; exact this
  ·rw[AhX hz];unfold fsO;rw[AhX hz]
theorem Vs {α:Type}{body:Int→Unit→Option (Unit⊕Int)}(f:Nat→α→Int)(l:List α)(h: ∀(k:Nat) (x:α),l[k]? =some x→body (k:Int) ()=some (fsO (f k x))): ∀(r:List α) (i:Nat),l.drop i=r→BU body r.length (i:Int) ()=some (fsO (AdS f i r))
 | [],i,_=>rfl
 |x::r,i,hd=>by
  obtain⟨hc,hr,hlt⟩:=Re hd;show Ab (body (i:Int) ()) _=_;rw[h i x hc];show _=some (fsO (if f i x=0 then _ else _));rw[Aa];by_cases hz:f i x=0
  ·rw[AhZ hz,hz];exact Vs f l h r (i+1) hr
  ·rw[AhX hz];unfold fsO;rw[AhX hz]
theorem N7 {α σ τ:Type}{body:Int→σ→Option (σ⊕τ)}(l:List α)(p:α→Bool)(s:σ)(g:Nat→τ)(h: ∀(k:Nat) (x:α),l[k]? =some x→body (k:Int) s=some (if p x=true then .inr (g k)else .inl s)):
  ∀(r:List α) (i:Nat),l.drop i=r→∃j,BU body r.length (i:Int) s=some (if r.any p=true then .inr (g j)else .inl s)
 | [],i,_=>⟨0,rfl⟩
 |x::r,i,hd=>by
  obtain⟨hc,hr,hlt⟩:=Re hd;show∃j,Ab (body (i:Int) s) _=_;rw[h i x hc,List.any_cons];cases hp:p x with
  |true=>exact⟨i,rfl⟩
  |false=>
   obtain⟨j,ih⟩:=N7 l p s g h r (i+1) hr;exact⟨j,ih⟩
theorem nn0 {e:Int}(h:e=0): ¬(e≠0):=fun k=>k h
theorem Ra (c:g_api_Cert):Cv c=some (checkV c):=Q7 c
theorem b3_eq (i:Int)(c:g_api_Cert):HJ i c ()=some (fsO (checkV c)):=by
 unfold HJ fsO;rw[Ra,Aa];by_cases h:checkV c=0
 ·rw[AhZ h,AhX (by simpa using h)]
 ·rw[AhX h,AhZ (by simpa using h)]
def sigV (p:UInt64)(m:List UInt8)(s:g_api_Sig):Int:=(D8 p m s).getD 1
theorem sig_eq (p:UInt64){m:List UInt8}(s:g_api_Sig)(h:m.length≤600000):D8 p m s=some (sigV p m s):=by
 obtain⟨e,he⟩:=Vx p s h;unfold sigV;rw[he]; rfl
def QP (a b:g_api_Cert):Int:=if checkV a≠0 then checkV a else if checkV b≠0 then checkV b else if((!b.Ca)||(!eqS a.Issuer b.Subject))=true then 191 else if sigV b.Key (Pk a) a.Sig≠0 then 40 else 0
theorem Ae1 (a b:g_api_Cert):IU a b=some (QP a b):=by
 have e1:Et HJ ([a,b]:List g_api_Cert) 0 ()=some (fsO (AdS (fun _ c=>checkV c) 0 [a,b])):=Q2 (fun _ c=>checkV c) [a,b] 0 fun k x _=>b3_eq _ x;unfold IU QP;rw[e1,Aa];show(match fsO (if checkV a=0 then(if checkV b=0 then 0 else checkV b)else checkV a)with| .inr r=>some r| .inl _=>_)=_;by_cases ha:checkV a=0
 ·rw[AhZ ha,AhX (nn0 ha)];by_cases hb:checkV b=0
  ·rw[AhZ hb,AhX (nn0 hb)];show(if((!b.Ca)||(!eqS a.Issuer b.Subject))=true then some 191 else _)=_;by_cases hc:((!b.Ca)||(!eqS a.Issuer b.Subject))=true
   ·rw[AhZ hc,AhZ hc]
   ·rw[AhX hc,AhX hc,Aej (okc ha),Aa];show Ab (D8 b.Key (Pk a) a.Sig) _=_;rw[sig_eq _ _ (by have:=WO (okc ha); omega),Aa];by_cases hs:sigV b.Key (Pk a) a.Sig=0
    ·rw[AhX (show¬((sigV b.Key (Pk a) a.Sig !=0)=true)from by simpa using hs),AhX (nn0 hs)]
    ·rw[AhZ (show(sigV b.Key (Pk a) a.Sig !=0)=true from by simpa using hs),AhZ hs]
  ·rw[AhX hb,AhZ hb];unfold fsO; rw[AhX hb]
 ·rw[AhX ha,AhZ ha];unfold fsO; rw[AhX ha]
theorem Aa5 (s:ByteArray):FL s=some (isB (toL s) 8 64):=by
 unfold FL;rw[show Cu s 8 64=some (isB (toL s) 8 64)from AaJ s 8 64 (by decide)];rfl
theorem YD (s:ByteArray): ∃o st,Dg s=some (o,st,isB (toL s) 8 64||AcH (toL s))∧(isB (toL s) 8 64=true→o=s∧st=false)∧(isB (toL s) 8 64=false→AcH (toL s)=true→o=s.extract 2 s.size∧st=true):=by
 have hz:(toL s).length=s.size:=B5 s;unfold Dg;rw[Aa5,Aa];cases h1:isB (toL s) 8 64 with
 |true=>exact⟨s,false,rfl,fun _=>⟨rfl,rfl⟩,fun h=>(by cases h)⟩
 |false=>
  rw[AhX (by decide),AiK];unfold Ce Ba A9;have e2:(((⟨#[42,46]⟩:ByteArray).size:Nat):Int)=2:=rfl;rw[e2];match hl:toL s with
  | []=>
   rw[hl,Aij]at hz;rw[AiF (show¬(s.size:Int)≥2 from by omega)];exact⟨_,_,rfl,fun h=>(by cases h),fun _ h=>(by cases h)⟩
  | [a]=>
   rw[hl,Ah1,Aij]at hz;rw[AiF (show¬(s.size:Int)≥2 from by omega)];exact⟨_,_,rfl,fun h=>(by cases h),fun _ h=>(by cases h)⟩
  |a::b::r=>
   rw[hl,Ah1,Ah1]at hz;have ec:T3 s 0 2=some (s.extract 0 2):=HQ (by omega) (by omega) (by omega);have el:(s.extract 0 2).data.toList=[a,b]:=by
    rw[N5];show((toL s).take 2).drop 0=_;rw[hl]; rfl
   have ee:eqS (s.extract 0 2) (⟨#[42,46]⟩:ByteArray)=(a==42&&b==46):=by
    unfold eqS;rw[el,AiM];simp
   rw[Aim (show(s.size:Int)≥2 from by omega),Abe,ec,Aa,Du,ee,Aa];show∃o st,_=some (o,st,(a==42&&b==46&&isB r 7 62))∧_∧(_→(a==42&&b==46&&isB r 7 62)=true→_);cases a==42&&b==46 with
   |false=>exact⟨_,_,rfl,fun h=>(by cases h),fun _ h=>(by cases h)⟩
   |true=>
    have ec2:T3 s 2 (s.size:Int)=some (s.extract 2 s.size):=by
     rw[HQ (by omega) (by omega) (by omega)]; rfl
    have el2:(s.extract 2 s.size).data.toList=r:=by
     rw[N5];show((toL s).take s.size).drop 2=_;rw[Aiz (by rw[hl,Ah1,Ah1]; omega),hl]; rfl
    rw[show(true&&true)=true from rfl,AhX (by decide),ec2,Aa,Aa,Aa];have en:=AaJ (s.extract 2 s.size) 7 62 (by decide);rw[el2]at en;have en:Cu (s.extract 2 s.size) 7 62=some (isB r 7 62):=en;show∃o st,Ab (gu true (Cu (s.extract 2 s.size) 7 62)) _=_∧_;rw[Abe,en,Aa];exact⟨_,_,rfl,fun h=>(by cases h),fun _ _=>⟨rfl,rfl⟩⟩
def upV (s:ByteArray):ByteArray:=(Hx s).getD ⟨#[]⟩
theorem Acy (s:ByteArray):Hx s=some (upV s)∧(upV s=⟨#[]⟩∨(isB (toL s) 8 64=true∧∃p,toL s=p++46::toL (upV s)∧(46:UInt8)∉p)):=by
 have key: ∃u,Hx s=some u∧(u=⟨#[]⟩∨(isB (toL s) 8 64=true∧∃p,toL s=p++46::toL u∧(46:UInt8)∉p)):=by
  unfold Hx;rw[Aa5,Aa];cases h1:isB (toL s) 8 64 with
  |false=>exact⟨_,rfl,.inl rfl⟩
  |true=>
   have hz:(toL s).length=s.size:=B5 s;have hs:s.size≤64:=by
    unfold isB at h1;simp only[AhT,Ah4]at h1;have:=h1.1.1; omega
   have hx:AT s (⟨#[46]⟩:ByteArray)=some (Aa0 s 46):=by
    have h:=Vi s (by omega);unfold B6 at h;cases q:AT s (⟨#[46]⟩:ByteArray)with
    |none=>rw[q]at h; cases h
    |some v=>rw[q]at h; exact h
   rw[AhX (by decide)];unfold KC Dr;rw[hx,Aa];rcases QT s.data.toList 46 with ⟨h2,h3⟩|⟨p,r,h2,h3,h4⟩
   ·rw[show Aa0 s 46= -1 from h2,AhX (by decide)];exact⟨_,rfl,.inl rfl⟩
   ·have hl:s.size=p.length+1+r.length:=by rw[←B5,h2,Ah0,Ah1]; omega
    have e1:T3 s 0 (p.length:Int)=some (s.extract 0 p.length):=by
     rw[HQ (by omega) (by omega) (by omega)]; rfl
    have e2:T3 s (w64 ((p.length:Int)+((⟨#[46]⟩:ByteArray).size:Int))) (s.size:Int)=some (s.extract (p.length+1) s.size):=by
     have:((⟨#[46]⟩:ByteArray).size:Int)=1:=rfl;rw[this,Gx (by omega) (by omega),HQ (by omega) (by omega) (by omega)];rfl
    rw[show Aa0 s 46=(p.length:Int)from h4,AhZ (by rw[Ah4]; omega),e1,Aa,e2,Aa,Aa,Aa];refine⟨_,rfl,.inr ⟨rfl,p,?_,h3⟩⟩;have l2:(s.extract (p.length+1) s.size).data.toList=r:=by
     rw[N5,←B5,List.take_length,h2];rw[←AiR,List.drop_left]; rfl
    show s.data.toList=_;rw[show toL (s.extract (p.length+1) s.size)=r from l2]; exact h2
 obtain⟨u,h,h'⟩:=key;have e:upV s=u:=by unfold upV; rw[h]; rfl
 rw[e]; exact⟨h,h'⟩
theorem up_lt (s:ByteArray):upV s=⟨#[]⟩∨(upV s).size<s.size:=by
 rcases(Acy s).2 with h|⟨_,p,h,_⟩
 ·exact .inl h
 ·refine .inr ?_;rw[←B5,←B5 s];show(toL (upV s)).length<(toL s).length;rw[h,Ah0,Ah1]; omega
theorem up_64 (s:ByteArray):(upV s).size≤64:=by
 rcases(Acy s).2 with h|⟨h1,p,h,_⟩
 ·rw[h]; exact Nat.zero_le _
 ·unfold isB at h1;simp only[AhT,Ah4]at h1;have:=h1.1.1;rw[h,Ah0,Ah1]at this;rw[←B5];show(toL (upV s)).length≤64;omega
def belF:Nat→ByteArray→ByteArray→Bool
 |0,_,_=>false
 |n+1,s,o=>if eqS s ⟨#[]⟩=true then false else if eqS s o=true then true else belF n (upV s) o
def belV (s o:ByteArray):Bool:=belF 100 (upV s) o
theorem Abs (s:ByteArray)(h: ¬eqS s ⟨#[]⟩=true):1≤s.size:=by
 rcases Nat.eq_zero_or_pos s.size with q|q
 ·refine absurd (Q1.2 ?_) h;exact ByteArray.ext (Array.eq_empty_of_size_eq_zero q)
 ·exact q
theorem Sx (o:ByteArray): ∀(n:Nat) (s:ByteArray),s.size<n→
  ∃z,iter (E1 (fun(s:(Bool)×Nat) (b0:ByteArray)=>if s.2=0 then Ab (EB o b0 s) fun y=>some (y.2==0,y)else none)) n (s,(false,0))=some (z,if belF n s o=true then(true,1)else(false,0))
 |0,s,h=>by omega
 |n+1,s,h=>by
  show∃z,Ab (E1 _ (s,(false,0))) _=_;unfold E1 belF;by_cases h1:eqS s ⟨#[]⟩=true
  ·rw[h1];exact⟨s,rfl⟩
  ·have h1':eqS s ⟨#[]⟩=false:=by simpa using h1
   rw[h1'];unfold EB;by_cases h2:eqS s o=true
   ·refine⟨s,?_⟩;simp only[h2];rfl
   ·have h2':eqS s o=false:=by simpa using h2
    have hlt:(upV s).size<n:=by
     have:=Abs s h1;rcases up_lt s with q|q
     ·rw[q]; show 0<n; omega
     ·omega
    obtain⟨z,ih⟩:=Sx o n (upV s) hlt;refine⟨z,?_⟩;simp only[h2',if_true,if_false,Bool.false_eq_true,Aa,(Acy s).1];exact ih
theorem Ael (s o:ByteArray):FM s o=some (belV s o):=by
 obtain⟨z,h⟩:=Sx o 100 (upV s) (by have:=up_64 s; omega);unfold FM KE IV;rw[Aa,(Acy s).1,Aa,KO 100 h (by decide),Aa,Aa];unfold belV;cases belF 100 (upV s) o<;>rfl
def matV (p s:ByteArray):Bool:=isB (toL s) 8 64&&(if isB (toL p) 8 64=true then eqS p s else AcH (toL p)&&belV s (p.extract 2 p.size))
theorem Adl (p s:ByteArray):Iq p s=some (matV p s):=by
 obtain⟨o,st,h,h1,h2⟩:=YD p;unfold Iq matV;rw[h,Aa,Aa5];cases q1:isB (toL p) 8 64 with
 |true=>
  obtain⟨rfl,rfl⟩:=h1 q1;rw[Bool.true_or];cases isB (toL s) 8 64<;>rfl
 |false=>
  rw[AiK];cases q2:AcH (toL p)with
  |false=>cases isB (toL s) 8 64<;>rfl
  |true=>
   obtain⟨rfl,rfl⟩:=h2 q1 q2;cases isB (toL s) 8 64 with
   |false=>rfl
   |true=>
    show Ab (FM s _) _=_;rw[Ael]; rfl
theorem Adr {α:Type}{l:List α}(h:l≠[])(hs:l.length≤1000): ∃x,l.getLast? =some x∧idx l (w64 ((l.length:Int)-1))=some x:=by
 have h1:1≤l.length:=List.length_pos_iff.2 h;refine⟨l.getLast h,List.getLast?_eq_some_getLast h,?_⟩;rw[Gx (by omega) (by omega)];have e:(l.length:Int)-1=((l.length-1:Nat):Int):=by omega
 rw[e];refine Iy ?_;rw[←List.getLast?_eq_getElem?,List.getLast?_eq_some_getLast h]
theorem Aeb {α:Type}(a:α)(l:List α):cut (a::l) 1 ((a::l).length:Int)=some l:=by
 have h:=Ahu [a] l;simpa using h
def timeB (c:g_api_Cert)(now:Int):Bool:=decide (c.From≤now)&&decide (c.Until>now)
theorem UL (t:g_path_trip)(c:g_api_Cert):EY t c=some (timeB c t.now_):=rfl
def Ae0 (c:g_api_Cert)(n:ByteArray):Bool:=c.Permit.any fun p=>matV p n
theorem YB (n:ByteArray)(c:g_api_Cert):EA n c=some (!Ae0 c n,c):=by
 obtain⟨j,h⟩:=N7 (body:=AY c.Permit) c.Permit (fun p=>matV p n) n (fun k=>((k:Int),n)) (fun k x hx=>by
  unfold AY G6;rw[Iy hx,Aa,Adl,Aa,Aa];cases matV x n<;>rfl) c.Permit 0 rfl
 have h:BU (AY c.Permit) c.Permit.length 0 n=_:=h;unfold EA BK BX Ae0;rw[h,Aa];cases c.Permit.any fun p=>matV p n with
 |true=>
  show some (!decide ((j:Int)≥0),c)=_;rw[Aim (by omega)]
 |false=>rfl
theorem RK (l:List ByteArray)(c:g_api_Cert):A0 l c=some (l.any fun n=> !Ae0 c n,c):=by
 obtain⟨j,h⟩:=N7 (body:=AZ l) l (fun n=> !Ae0 c n) (c.Serial,c.Issuer,c.Subject,c.Key,c.Names,c.From,c.Until,c.Ca,c.Depth,c.Permit,c.Proms,c.Sig.E,c.Sig.S) (fun k=>((k:Int),c)) (fun k x hx=>by
  unfold AZ;rw[Iy hx,Aa];show Ab (EA x c) _=_;rw[YB,Aa];cases Ae0 c x<;>rfl) l 0 rfl
 have h:BU (AZ l) l.length 0 (c.Serial,c.Issuer,c.Subject,c.Key,c.Names,c.From,c.Until,c.Ca,c.Depth,c.Permit,c.Proms,c.Sig.E,c.Sig.S)=_:=h;unfold A0 BY;rw[h,Aa];cases l.any fun n=> !Ae0 c n with
 |true=>
  show some (decide ((j:Int)≥0),c)=_;rw[Aim (by omega)]
 |false=>rfl
def Agt (names:List ByteArray)(i:Nat)(c:g_api_Cert):Int:=if c.Depth<(i:Int)then 191 else if 0<c.Permit.length∧(names.any fun n=> !Ae0 c n)=true then 110 else 0
def byV (chain:List g_api_Cert)(now:Int)(root:g_api_Cert):Int:=
 match chain with
 | []=>1
 |leaf::more=>
  let e:=QP ((leaf::more).getLast (by simp)) root
  if e≠0 then e else if timeB root now=false then 190 else AdS (Agt leaf.Names) 0 (more++[root])
theorem by_eq (roots:List g_api_Cert)(leaf:g_api_Cert)(more:List g_api_Cert)(name:ByteArray)(now:Int)(root:g_api_Cert)(hn:more.length≤100):
  Gd ⟨roots,leaf::more,name,now⟩ root=some (byV (leaf::more) now root):=by
 obtain⟨x,hx,hi⟩:=Adr (l:=leaf::more) (by simp) (by simp; omega);have hx:(leaf::more).getLast (by simp)=x:=by rw[List.getLast?_eq_some_getLast (by simp)]at hx; exact AhS hx
 unfold Gd byV;simp only[hx];show Ab (idx (leaf::more) (w64 (((leaf::more).length:Int)-1))) _=_;rw[hi,Aa,Ae1,Aa];by_cases h1:QP x root=0
 ·rw[AhX (show¬((QP x root !=0)=true)from by simpa using h1),AhX (nn0 h1),UL,Aa];show(if(!timeB root now)=true then some 190 else _)=_;cases timeB root now with
  |false=>rfl
  |true=>
   rw[AhX (by decide),AhX (by decide)];have ec:cut (leaf::more) 1 ((leaf::more).length:Int)=some more:=Aeb leaf more;show Ab (cut (leaf::more) 1 ((leaf::more).length:Int)) _=_;rw[ec,Aa];unfold A8;rw[Ug 168 (by simp; omega) (by simp; omega),Aa,Aa,AiC,Ug 168 (by simp; omega) (by simp; omega),Aa];have e:=Vs (body:=FI ⟨roots,leaf::more,name,now⟩ (more++[root])) (Agt leaf.Names) (more++[root]) (fun k c hc=>by
    unfold FI;rw[Iy hc,Aa,Du];unfold Agt;by_cases h2:c.Depth<(k:Int)
    ·rw[AhZ h2,AhZ (by simpa using h2)]; rfl
    ·rw[AhX h2,AhX (by simpa using h2)];by_cases h3:0<c.Permit.length
     ·rw[AhZ (by rw[Ah4]; omega)];show Ab (some leaf) _=_;rw[Aa,RK,Aa];cases leaf.Names.any fun n=> !Ae0 c n with
      |true=>rw[AhZ rfl,AhZ ⟨h3,rfl⟩]; rfl
      |false=>rw[AhX (by simp),AhX (by simp)]; rfl
     ·rw[AhX (by rw[Ah4]; omega),AhX (by simp[h3])]; rfl) (more++[root]) 0 rfl
   have e:BU (FI ⟨roots,leaf::more,name,now⟩ (more++[root])) (more++[root]).length 0 ()=_:=e;rw[e,Aa];exact Ww
 ·rw[AhZ (show(QP x root !=0)=true from by simpa using h1),AhZ h1]
def Oc (roots chain:List g_api_Cert)(name:ByteArray)(now:Int):Int:=if chain.length=0∨4<chain.length∨16<roots.length∨now<0∨now>1099511627776 then 1 else nameV name
def caB:Nat→List g_api_Cert→Bool
 |_,[]=>true
 |i,c::r=>(c.Ca==decide (0<i))&&caB (i+1) r
def Pf (chain:List g_api_Cert)(name:ByteArray)(now:Int):Int:=if caB 0 chain=false then 191 else match chain with| []=>1|leaf::_=>if(leaf.Names.any fun s=>eqS name s)=false then 110 else if(chain.any fun c=> !timeB c now)=true then 190 else 0
def linksV:List g_api_Cert→Int
 |a::b::r=>if QP a b≠0 then QP a b else linksV (b::r)
 |_=>0
def RY (chain:List g_api_Cert)(now:Int)(roots:List g_api_Cert):Int:=if(roots.any fun r=>byV chain now r==0)=true then 0 else match roots with| []=>191|r::_=>byV chain now r
def YQ (l:List g_api_Cert):Int:=AdS (fun _ c=>checkV c) 0 l
def Ac5 (roots chain:List g_api_Cert)(name:ByteArray)(now:Int):Int:=if Oc roots chain name now≠0 then Oc roots chain name now else if YQ (chain++roots)≠0 then YQ (chain++roots)else if Pf chain name now≠0 then Pf chain name now else if linksV chain≠0 then linksV chain else RY chain now roots
theorem Y0 (n r:Nat)(now:Int):((((((n:Int)==0)||(decide ((n:Int)>4)))||(decide ((r:Int)>16)))||(decide (now<0)))||(decide (now>1099511627776)))=decide (n=0∨4<n∨16<r∨now<0∨now>1099511627776):=by
 rw[AiM];simp only[AiD,Ah4,AiG];have e1:(n:Int)=0↔n=0:=by omega
 have e2:(n:Int)>4↔4<n:=by omega
 have e3:(r:Int)>16↔16<r:=by omega
 rw[e1,e2,e3,or_assoc,or_assoc,or_assoc]
theorem AbU (t:g_path_trip):EZ t=some (Oc t.roots_ t.chain_ t.name_ t.now_):=by
 obtain⟨ro,ch,nm,nw⟩:=t;unfold EZ Oc;dsimp only;rw[TG,Aa,Y0];by_cases h:ch.length=0∨4<ch.length∨16<ro.length∨nw<0∨nw>1099511627776
 ·rw[AhZ h,AhZ (Aim h)]
 ·rw[AhX h,AhX (fun q=>h (AiS q))]
theorem AdL (n:Nat)(h:n≤10000):AL (n:Int)=some []:=by
 unfold AL;rw[AiF (show¬((n:Int)<0)from by omega),AhX (by decide),Aa,Du];have e0:w64 (0-((0:Nat):Int))=0:=Gx (by decide) (by decide);have e1:w64 ((n:Int)-w64 (0-((0:Nat):Int)))=(n:Int):=by
  rw[e0,Int.sub_zero];exact Gx (by omega) (by omega)
 rw[e1];by_cases h0:n=0
 ·rw[AiF (show¬((n:Int)>0)from by omega),AhX (by decide),Aa]
 ·rw[Aim (show(n:Int)>0 from by omega),AhZ rfl,AhZ ⟨by omega,by omega,by omega⟩,Aa]
theorem AfR (a b:List g_api_Cert)(ha:a.length≤1000)(hb:b.length≤1000):D5 AJ ([a,b]:List (List g_api_Cert)) 0 0=some ((a.length+b.length:Nat):Int):=by
 have e: ∀(n:Nat) (i:Int) (x:List g_api_Cert),n+x.length≤10000→AJ i x (n:Int)=some ((n+x.length:Nat):Int):=by
  intro n i x h;have e1:w64 ((n:Int)+(x.length:Int))=((n+x.length:Nat):Int):=by
   rw[Gx (by omega) (by omega)]; exact(Int.natCast_add _ _).symm
  unfold AJ;rw[Du,e1,AiF (show¬(((n+x.length:Nat):Int)<0)from by omega),AhX (by decide),Aa]
 have e0:=e 0 0 a (by omega);have e1:=e a.length (0+1) b (by omega);rw[Air]at e0;show Ab (AJ 0 a ((0:Nat):Int)) (fun s=>Ab (AJ (0+1) b s) fun s=>some s)=_;rw[e0,Aa,e1,Aa]
theorem AbG (a b:List g_api_Cert)(ha:a.length≤1000)(hb:b.length≤1000):A5 ([a,b]:List (List g_api_Cert))=some (a++b):=by
 unfold A5;rw[AfR a b ha hb,Aa,Aa,AdL _ (by omega),Aa];have e:D5 AU ([a,b]:List (List g_api_Cert)) 0 []=some (a++b):=by
  show Ab (AU 0 a []) (fun s=>Ab (AU (0+1) b s) fun s=>some s)=_;unfold AU;rw[Ug 168 (by simp; omega) (by simp; omega),Aa,Aa,AiC,Ug 168 (by omega) (by omega),Aa,Aa]
 rw[e,Aa,Aa]
theorem U1 (t:g_path_trip)(ha:t.chain_.length≤1000)(hb:t.roots_.length≤1000):Gq t=some (YQ (t.chain_++t.roots_)):=by
 unfold Gq;rw[AbG _ _ ha hb,Aa];have e:=Q2 (body:=El) (fun _ c=>checkV c) (t.chain_++t.roots_) 0 (fun k x _=>by
  unfold El;rw[Ra,Aa];unfold fsO;by_cases h:checkV x=0
  ·rw[AhZ h,AhX (by simpa using h)]
  ·rw[AhX h,AhZ (by simpa using h)])
 have e:Et El (t.chain_++t.roots_) 0 ()=_:=e;rw[e,Aa];exact Ww
theorem Si (t:g_path_trip): ∀(r:List g_api_Cert) (i:Nat) (s:Bool),t.chain_.drop i=r→BU (Ct t) r.length (i:Int) s=some (if caB i r=true then .inl (s||r.any fun c=> !timeB c t.now_)else .inr 191)
 | [],i,s,_=>by show some (Sum.inl s)=_; simp[caB]
 |c::r,i,s,hd=>by
  obtain⟨hc,hr,hlt⟩:=Re hd;have ih:=Si t r (i+1) (s|| !timeB c t.now_) hr;show Ab (Ct t (i:Int) s) _=_;have e:Ct t (i:Int) s=some (if(c.Ca==decide (0<i))=true then .inl (s|| !timeB c t.now_)else .inr 191):=by
   unfold Ct;rw[Iy hc,Aa,UL];have ed:decide ((i:Int)>0)=decide (0<i):=by rw[AiT]; omega
   rw[ed];cases s with
   |true=>
    show Ab (some default) _=_;rw[Aa];cases c.Ca==decide (0<i)<;>rfl
   |false=>
    show Ab (some (timeB c t.now_)) _=_;rw[Aa];cases c.Ca==decide (0<i)<;>rfl
  rw[e];unfold caB;cases c.Ca==decide (0<i)with
  |false=>rfl
  |true=>
   rw[AhZ rfl,Aa,Aiw,List.any_cons,←Bool.or_assoc];exact ih
theorem has_eq (l:List ByteArray)(n:ByteArray):BT l n=some (l.any fun s=>eqS n s):=by
 obtain⟨j,h⟩:=N7 (body:=BS l n) l (fun s=>eqS n s) () (fun k=>(k:Int)) (fun k x hx=>by
  unfold BS;rw[Iy hx,Aa];cases eqS n x<;>rfl) l 0 rfl
 have h:BU (BS l n) l.length 0 ()=_:=h;unfold BT CZ;rw[h,Aa];cases l.any fun s=>eqS n s with
 |true=>
  show some (decide ((j:Int)≥0))=_;rw[Aim (by omega)]
 |false=>rfl
theorem Adu (t:g_path_trip)(h:t.chain_≠[]):FH t=some (Pf t.chain_ t.name_ t.now_):=by
 unfold FH Pf;rw[show BU (Ct t) t.chain_.length 0 false=_ from Si t t.chain_ 0 false rfl,Aa];cases caB 0 t.chain_ with
 |false=>rfl
 |true=>
  rw[AhZ rfl,AhX (by decide)];cases hl:t.chain_ with
  |nil=>exact absurd hl h
  |cons leaf more=>
   show Ab (some leaf) _=_;rw[Aa,has_eq,Aa,AiK];show _=some (if(leaf.Names.any fun s=>eqS t.name_ s)=false then 110 else _);cases leaf.Names.any fun s=>eqS t.name_ s with
   |false=>rfl
   |true=>
    cases (leaf::more).any fun c=> !timeB c t.now_<;>rfl
theorem Sa (t:g_path_trip)(hn:t.chain_.length≤1000): ∀(r:List g_api_Cert) (a:g_api_Cert) (i:Nat),t.chain_.drop i=a::r→BU (Cs t) r.length (i:Int) ()=some (fsO (linksV (a::r)))
 | [],a,i,_=>rfl
 |b::r,a,i,hd=>by
  obtain⟨ha,hr,hlt⟩:=Re hd;obtain⟨hb,hr2,hlt2⟩:=Re hr;have ih:=Sa t hn r b (i+1) hr;show Ab (Cs t (i:Int) ()) _=_;have e:Cs t (i:Int) ()=some (fsO (QP a b)):=by
   unfold Cs fsO;rw[Iy ha,Aa,AfI (by omega),Iy hb,Aa,Ae1,Aa];by_cases h:QP a b=0
   ·rw[AhZ h,AhX (by simpa using h)]
   ·rw[AhX h,AhZ (by simpa using h)]
  rw[e,Aa];unfold linksV;by_cases h:QP a b=0
  ·rw[AhX (nn0 h),h];exact ih
  ·rw[AhZ h];unfold fsO;rw[AhX h]
theorem Adp (t:g_path_trip)(h:t.chain_≠[])(hn:t.chain_.length≤1000):FG t=some (linksV t.chain_):=by
 unfold FG;cases hl:t.chain_ with
 |nil=>exact absurd hl h
 |cons a r=>
  have e1:Int.toNat (w64 (((a::r).length:Int)-1))=r.length:=by
   rw[hl,Ah1]at hn;have e0:((a::r).length:Int)-1=(r.length:Int):=by simp
   rw[e0,Gx (by omega) (by omega),AiN]
  rw[e1,show BU (Cs t) r.length 0 ()=_ from Sa t hn r a 0 hl,Aa];exact Ww
theorem O4 (t:g_path_trip)(hc:t.chain_≠[])(hn:t.chain_.length≤100)(hr:t.roots_.length≤1000): ∀(i n:Nat) (e:Int),i≤t.roots_.length→i<n→
  iter (B2 t) n (e,(i:Int)-1)=some (if((t.roots_.take i).any fun r=>byV t.chain_ t.now_ r==0)=true then .inr 0 else .inl (match t.roots_.take i with| []=>e|r::_=>byV t.chain_ t.now_ r))
 |0,n,e,_,hn0=>by
  obtain⟨n,rfl⟩: ∃q,n=q+1:=⟨n-1,by omega⟩;rfl
 |i+1,n,e,hi,hn0=>by
  obtain⟨n,rfl⟩: ∃q,n=q+1:=⟨n-1,by omega⟩;have hlt:i<t.roots_.length:=by omega
  have hx:t.roots_[i]? =some t.roots_[i]:=Ain hlt;have eb:Gd t t.roots_[i]=some (byV t.chain_ t.now_ t.roots_[i]):=by
   obtain⟨ro,ch,nm,nw⟩:=t;cases ch with
   |nil=>exact absurd rfl hc
   |cons a r=>exact by_eq _ a r _ _ _ (by simp only[Ah1]at hn; omega)
  have e1:((i+1:Nat):Int)-1=(i:Int):=by omega
  rw[e1];show Ab (B2 t (e,(i:Int))) _=_;have es:B2 t (e,(i:Int))=some (if(byV t.chain_ t.now_ t.roots_[i]==0)=true then .inr (.inr 0)else .inl (byV t.chain_ t.now_ t.roots_[i],(i:Int)-1)):=by
   unfold B2;rw[AhZ (by rw[Ah4]; show(i:Int)≥0; omega)];show Ab (idx t.roots_ (i:Int)) _=_;rw[Iy hx,Aa,eb,Aa];cases byV t.chain_ t.now_ t.roots_[i]==0 with
   |true=>rfl
   |false=>
    rw[AhX (by decide),AhX (by decide)];show some (Sum.inl (_,w64 ((i:Int)-1)))=_;rw[Gx (by omega) (by omega)]
  rw[es,Aa];have et:t.roots_.take (i+1)=t.roots_.take i++[t.roots_[i]]:=by rw[List.take_add_one,hx]; rfl
  rw[et,List.any_append];have ih:=O4 t hc hn hr i n (byV t.chain_ t.now_ t.roots_[i]) (by omega) (by omega);cases hb:byV t.chain_ t.now_ t.roots_[i]==0 with
  |true=>
   rw[AhZ rfl];have:(([t.roots_[i]]:List g_api_Cert).any fun r=>byV t.chain_ t.now_ r==0)=true:=by simp[hb]
   rw[this,Bool.or_true,AhZ rfl]
  |false=>
   rw[AhX (by decide)];show iter (B2 t) n (_,(i:Int)-1)=_;rw[ih];have:(([t.roots_[i]]:List g_api_Cert).any fun r=>byV t.chain_ t.now_ r==0)=false:=by simp[hb]
   rw[this,Bool.or_false];cases (t.roots_.take i).any fun r=>byV t.chain_ t.now_ r==0 with
   |true=>rfl
   |false=>cases t.roots_.take i<;>rfl
theorem Yr (t:g_path_trip)(hc:t.chain_≠[])(hn:t.chain_.length≤100)(hr:t.roots_.length≤1000):Ek t=some (RY t.chain_ t.now_ t.roots_):=by
 unfold Ek RY;rw[Du,Gx (by omega) (by omega),O4 t hc hn hr t.roots_.length FA 191 (AhY _) (by have:=JK; omega),Aa,List.take_length];cases t.roots_.any fun r=>byV t.chain_ t.now_ r==0 with
 |true=>rfl
 |false=>cases t.roots_<;>rfl
theorem row_b1 (x:ET)(i e:Int)(h:Gi x=some e):FJ i x ()=some (fsO e):=by
 unfold FJ fsO;rw[h,Aa];by_cases h:e=0
 ·rw[AhZ h,AhX (by simpa using h)]
 ·rw[AhX h,AhZ (by simpa using h)]
theorem NL (x:ET)(l:List ET)(i e:Int)(h:Gi x=some e):Et FJ (x::l) i ()=if e≠0 then some (.inr e)else Et FJ l (i+1) ():=by
 show Ab (FJ i x ()) _=_;rw[row_b1 x i e h,Aa];unfold fsO;by_cases h:e=0
 ·rw[AhZ h,AhX (by simpa using h)]
 ·rw[AhX h,AhZ h]
theorem QA (roots chain:List g_api_Cert)(name:ByteArray)(now:Int):m_path_Check roots chain name now=some (Ac5 roots chain name now):=by
 unfold m_path_Check OI Ac5;generalize ht:(⟨roots,chain,name,now⟩:g_path_trip)=t;have h1:t.roots_=roots:=by rw[←ht]
 have h2:t.chain_=chain:=by rw[←ht]
 have h3:t.name_=name:=by rw[←ht]
 have h4:t.now_=now:=by rw[←ht]
 have d1:Gi ⟨72,t⟩=some (Oc roots chain name now):=by rw[←h1,←h2,←h3,←h4]; exact AbU t
 rw[NL _ _ _ _ d1];by_cases z1:Oc roots chain name now=0
 ·have hb: ¬(chain.length=0∨4<chain.length∨16<roots.length∨now<0∨now>1099511627776):=by
   intro h;unfold Oc at z1;rw[AhZ h]at z1;cases z1
  have hne:chain≠[]:=fun h=>hb (.inl (by rw[h]; rfl));have d2:Gi ⟨73,t⟩=some (YQ (chain++roots)):=by rw[←h1,←h2]; exact U1 t (by rw[h2]; omega) (by rw[h1]; omega)
  have d3:Gi ⟨74,t⟩=some (Pf chain name now):=by rw[←h2,←h3,←h4]; exact Adu t (by rw[h2]; exact hne)
  have d4:Gi ⟨75,t⟩=some (linksV chain):=by rw[←h2]; exact Adp t (by rw[h2]; exact hne) (by rw[h2]; omega)
  have d5:Gi ⟨76,t⟩=some (RY chain now roots):=by rw[←h1,←h2,←h4]; exact Yr t (by rw[h2]; exact hne) (by rw[h2]; omega) (by rw[h1]; omega)
  rw[AhX (nn0 z1),AhX (nn0 z1),NL _ _ _ _ d2];by_cases z2:YQ (chain++roots)=0
  ·rw[AhX (nn0 z2),AhX (nn0 z2),NL _ _ _ _ d3];by_cases z3:Pf chain name now=0
   ·rw[AhX (nn0 z3),AhX (nn0 z3),NL _ _ _ _ d4];by_cases z4:linksV chain=0
    ·rw[AhX (nn0 z4),AhX (nn0 z4),NL _ _ _ _ d5];by_cases z5:RY chain now roots=0
     ·rw[AhX (nn0 z5),z5]; rfl
     ·rw[AhZ z5]; rfl
    ·rw[AhZ z4,AhZ z4]; rfl
   ·rw[AhZ z3,AhZ z3]; rfl
  ·rw[AhZ z2,AhZ z2]; rfl
 ·rw[AhZ z1,AhZ z1]; rfl
structure AfA (roots:List g_api_Cert)(leaf:g_api_Cert)(more:List g_api_Cert)(name:ByteArray)(now:Int):Prop where
 len:more.length≤3
 rts:roots.length≤16
 now0:0≤now
 nowM:now≤1099511627776
 nam:nameV name=0
 all: ∀c∈leaf::more++roots,checkV c=0
 kin:caB 0 (leaf::more)=true
 has:(leaf.Names.any fun s=>eqS name s)=true
 tim: ∀c∈leaf::more,timeB c now=true
 lnk:linksV (leaf::more)=0
theorem Ac4 {roots chain:List g_api_Cert}{name:ByteArray}{now:Int}(h:Oc roots chain name now=0)(h2:YQ (chain++roots)=0)(h3:Pf chain name now=0)(h4:linksV chain=0):
  ∃leaf more,chain=leaf::more∧AfA roots leaf more name now:=by
 unfold Oc at h;split at h
 ·cases h
 rename_i hb;cases chain with
 |nil=>exact absurd (.inl rfl) hb
 |cons leaf more=>
  refine⟨leaf,more,rfl,?_⟩;unfold Pf at h3;split at h3
  ·cases h3
  rename_i hk;have h3:(if(leaf.Names.any fun s=>eqS name s)=false then(110:Int)else if((leaf::more).any fun c=> !timeB c now)=true then 190 else 0)=0:=h3;split at h3
  ·cases h3
  rename_i hh;split at h3
  ·cases h3
  rename_i ht;have ha:=(Vl _ _ _).1 h2;refine⟨?_,by omega,by omega,by omega,h,?_,by simpa using hk,by simpa using hh,?_,h4⟩
  ·simp only[Ah1]at hb; omega
  ·intro c hc;obtain⟨k,hk⟩:=List.mem_iff_getElem?.1 hc;exact ha k c hk
  ·intro c hc;cases q:timeB c now with
   |true=>rfl
   |false=>exact absurd (AiZ.2 ⟨c,hc,by rw[q]; rfl⟩) ht
theorem OG {roots chain:List g_api_Cert}{name:ByteArray}{now:Int}(h:Ac5 roots chain name now=0): ∃leaf more,chain=leaf::more∧AfA roots leaf more name now∧RY (leaf::more) now roots=0:=by
 unfold Ac5 at h;split at h
 ·contradiction
 split at h
 ·contradiction
 split at h
 ·contradiction
 split at h
 ·contradiction
 rename_i h1 h2 h3 h4;obtain⟨leaf,more,rfl,hp⟩:=Ac4 (by simpa using h1) (by simpa using h2) (by simpa using h3) (by simpa using h4);exact⟨leaf,more,rfl,hp,h⟩
theorem Adf {b:List UInt8}(h:b.length≤3000):DF b=some (AcY (⟨#[108,101,97,102]⟩:ByteArray) [b]):=by
 unfold DF;rw[NG _ _ (by simp[Aci]; omega)];rfl
theorem X5 {c:g_api_Cert}(h:Okc c):m_cert_Leaf c=some (AcY (⟨#[108,101,97,102]⟩:ByteArray) [Wc c],0):=by
 unfold m_cert_Leaf;have:=AeL h;rw[AhH h,Aa,AhX (by simp)];show Ab (DF (Wc c)) _=_;rw[Adf (by omega)];rfl
theorem So {α σ τ:Type}{body:Int→σ→Option (σ⊕τ)}(xs:List α)(p:α→Bool)(s:σ)(g:Nat→τ)(h: ∀(i:Nat) (x:α),xs[i]? =some x→body (i:Int) s=some (if p x=true then .inr (g i)else .inl s)):
  ∀(k i:Nat),i+k=xs.length→∃r,BU body k (i:Int) s=some r∧((∃(j:Nat) (x:α),xs[j]? =some x∧p x=true∧r= .inr (g j))∨((∀x∈xs.drop i,p x=false)∧r= .inl s))
 |0,i,hi=>⟨.inl s,rfl,.inr ⟨(fun x hx=>by rw[AiA (by omega)]at hx; cases hx),rfl⟩⟩
 |k+1,i,hi=>by
  have hx:xs[i]? =some xs[i]:=Ain (by omega);show∃r,Ab (body (i:Int) s) _=_∧_;rw[h i _ hx];cases hp:p xs[i]with
  |true=>exact⟨_,rfl,.inl ⟨i,_,hx,hp,rfl⟩⟩
  |false=>
   obtain⟨r,h1,h2⟩:=So xs p s g h k (i+1) (by omega);refine⟨r,h1,?_⟩;rcases h2 with q|⟨q,e⟩
   ·exact .inl q
   ·refine .inr ⟨fun x hx'=> ?_,e⟩;rw[List.drop_eq_getElem_cons (by omega)]at hx';rcases Aio.1 hx' with w|w
    ·rw[w]; exact hp
    ·exact q x w
theorem HH {α σ τ:Type}{body:Int→σ→Option (σ⊕τ)}(xs:List α)(p:α→Bool)(s:σ)(g:Nat→τ)(h: ∀(i:Nat) (x:α),xs[i]? =some x→body (i:Int) s=some (if p x=true then .inr (g i)else .inl s)):
  ∃r,BU body xs.length 0 s=some r∧((∃(j:Nat) (x:α),xs[j]? =some x∧p x=true∧r= .inr (g j))∨(xs.any p=false∧r= .inl s)):=by
 obtain⟨r,h1,h2⟩:=So xs p s g h xs.length 0 (by omega);refine⟨r,h1,?_⟩;rcases h2 with q|⟨q,e⟩
 ·exact .inl q
 ·exact .inr ⟨List.any_eq_false.2 fun x hx=>by rw[q x (by simpa using hx)]; decide,e⟩
theorem Ya {α:Type}{xs:List α}{p:α→Bool}{j:Nat}{x:α}(h:xs[j]? =some x)(hp:p x=true):xs.any p=true:=AiZ.2 ⟨x,Ais h,hp⟩
theorem gu_t1 {α:Type} [Inhabited α]{o:Option α}:gu true o=o:=rfl
theorem ge0 (j:Nat):decide ((j:Int)≥0)=true:=Aim (by omega)
theorem AhI (k:UInt64): ∃b,Fm k=some b:=by
 unfold Fm;obtain⟨x,hx⟩:=LR ((decide ((k.toNat:Int)>0))&&(decide ((k.toNat:Int)<2305843009213691579))) (o:=Ec k 1152921504606845789) ⟨_,Xm _ _⟩;rw[hx,Aa];exact⟨_,rfl⟩
theorem WI (n:Int):Cp n=some (decide (0≤n)&&decide (n≤1099511627776)):=rfl
theorem UU (l:List g_api_Cert): ∃b,AI l=some b:=by
 unfold AI BH;obtain⟨r,h1,h2⟩:=HH (body:=Bm l) l (fun c=>(!c.Ca)||((if c.Ca=true then checkV c else default) !=0)) () (fun i=>(i:Int)) (fun i x hx=>by
  unfold Bm Fp;rw[CW hx,Aa];have:gu (!(!x.Ca)) (Cv x)=some (if x.Ca=true then checkV x else default):=by
   rw[Ra]; cases x.Ca<;>rfl
  rw[this,Aa,Aa];cases ((!x.Ca)||((if x.Ca=true then checkV x else default) !=0))<;>rfl)
 rw[h1,Aa];cases r<;>exact⟨_,rfl⟩
theorem AfH (l:List UInt8): ∃b,Bi l=some b:=by
 unfold Bi Cn;obtain⟨r,h1,h2⟩:=HH (body:=B7 l) l (fun c=>(decide ((c.toNat:Int)<33))||(decide ((c.toNat:Int)>126))) () (fun i=>(i:Int)) (fun i x hx=>by
  unfold B7 Fq;rw[CW hx,Aa,Cr,Aa];cases ((decide ((x.toNat:Int)<33))||(decide ((x.toNat:Int)>126)))<;>rfl)
 rw[h1,Aa];cases r<;>exact⟨_,rfl⟩
theorem keysB: ∀(l:List g_api_Key) (i s:Int),∃r,Et Dl l i s=some r
 | [],i,s=>⟨_,rfl⟩
 |x::l,i,s=>by
  show∃r,Ab (Dl i x s) _=_;unfold Dl;obtain⟨a,ha⟩:=LR (!(decide (x.Log≤s))) (o:=Cp x.Log) ⟨_,WI _⟩;rw[ha,Aa];obtain⟨b,hb⟩:=LR (!((decide (x.Log≤s))||(!a))) (o:=Cp x.Delay) ⟨_,WI _⟩;rw[hb,Aa];obtain⟨c,hc⟩:=LR (!(((decide (x.Log≤s))||(!a))||(!b))) (AhI x.Key);rw[hc,Aa];split
  ·exact⟨_,rfl⟩
  ·exact keysB l (i+1) _
theorem Xz (a:Ai): ∃e,Bu a=some e:=by
 unfold Bu;split
 ·obtain⟨b,hb⟩:=LR (!((true||((a.Client.Roots.length:Int)==0))||(decide ((a.Client.Roots.length:Int)>8)))) (UU a.Client.Roots);rw[hb,Aa];exact⟨_,AhZ (by simp)⟩
 ·rename_i hw;have hl:a.Client.Who.data.toList.length≤64:=by
   rw[AiD,not_or]at hw;have h2:=hw.2;rw[Ah4]at h2;have:a.Client.Who.size≤64:=by omega
   exact this
  rw[MC 1 (by simp only[Aij]; omega) (by simp only[Aij]; omega),Aa];obtain⟨b,hb⟩:=AfH ([]++a.Client.Who.data.toList);rw[hb,Aa];obtain⟨d,hd⟩:=LR (!((b||((a.Client.Roots.length:Int)==0))||(decide ((a.Client.Roots.length:Int)>8)))) (UU a.Client.Roots);rw[hd,Aa];split
  ·exact⟨_,rfl⟩
  ·obtain⟨r,hr⟩:=keysB a.Client.Logs 0 (-1);rw[hr,Aa];cases r with
   |inr r=>exact⟨_,rfl⟩
   |inl y=>
    dsimp only;split<;>exact⟨_,rfl⟩
theorem Abn {z:Ai}{e1 e2 e3:Int}(h1:Bu z=some e1)(h2:Bd z=some e2)(h3:Bv z=some e3):
  CV z=some (if e1≠0 then e1 else if e2≠0 then e2 else e3):=by
 unfold CV;have b0:AF z 0 ()=some (if e1≠0 then .inr e1 else .inl ()):=by
  unfold AF;rw[AhZ rfl,h1,Aa];by_cases h:e1=0
  ·rw[AhX (by simp[h]),AhX (fun k=>k h)]
  ·rw[AhZ (by simpa using h),AhZ h]
 have b1:AF z 1 ()=some (if e2≠0 then .inr e2 else .inl ()):=by
  unfold AF;rw[AhX (by decide),AhZ rfl,h2,Aa];by_cases h:e2=0
  ·rw[AhX (by simp[h]),AhX (fun k=>k h)]
  ·rw[AhZ (by simpa using h),AhZ h]
 have b2:AF z 2 ()=some (if e3≠0 then .inr e3 else .inl ()):=by
  unfold AF;rw[AhX (by decide),AhX (by decide),h3,Aa];by_cases h:e3=0
  ·rw[AhX (by simp[h]),AhX (fun k=>k h)]
  ·rw[AhZ (by simpa using h),AhZ h]
 show Ab (Ab (AF z 0 ()) _) _=_;rw[b0,Aa];by_cases q1:e1=0
 ·rw[AhX (fun k=>k q1),AhX (fun k=>k q1)];show Ab (Ab (AF z 1 ()) _) _=_;rw[b1,Aa];by_cases q2:e2=0
  ·rw[AhX (fun k=>k q2),AhX (fun k=>k q2)];show Ab (Ab (AF z 2 ()) _) _=_;rw[b2,Aa];by_cases q3:e3=0
   ·rw[AhX (fun k=>k q3),q3]; rfl
   ·rw[AhZ q3]; rfl
  ·rw[AhZ q2,AhZ q2]; rfl
 ·rw[AhZ q1,AhZ q1]; rfl
theorem OP (c:g_api_Client): ∃e,m_client_Check c=some e:=by
 obtain⟨e1,h1⟩:=Xz ⟨c⟩;obtain⟨e3,h3⟩:=OR c.Cascade;unfold m_client_Check;rw[Abn h1 (show Bd ⟨c⟩=some (F5 c.Pool.L c.Logs)from by unfold Bd; rw[N2]; rfl) (show Bv ⟨c⟩=some e3 from by unfold Bv; rw[h3]; rfl)];exact⟨_,rfl⟩
theorem AbF (k:g_api_Key)(p:g_api_Promise): ∃e,CC k p=some e:=by
 unfold CC;rw[QE,Aa,U2,Aa];obtain⟨e,he⟩:=Qq k p.Log (Aaz p.At) p.Sig (Aak p);rw[he,Aa];exact⟨_,rfl⟩
def cpV (k:g_api_Key)(p:g_api_Promise):Int:=(CC k p).getD 1
theorem cp_eq (k:g_api_Key)(p:g_api_Promise):CC k p=some (cpV k p):=by
 obtain⟨e,he⟩:=AbF k p;unfold cpV; rw[he]; rfl
def cntB (ks:List g_api_Key)(leaf:UInt64×UInt64)(p:g_api_Promise):Bool:=ks.any fun k=>((k.Log==p.Log)&&(cpV k p==0))&&(N6 p.Leaf leaf)
theorem AgQ (ks:List g_api_Key)(p:g_api_Promise): ∃n:Int,A4 ks p=some (n,p)∧((∃(j:Nat) (k:g_api_Key),ks[j]? =some k∧(k.Log==p.Log)=true∧n=(j:Int))∨n= -1):=by
 unfold A4;obtain⟨r,h1,h2⟩:=HH (body:=BB ks) ks (fun k=>k.Log==p.Log) (p.Log,p.At,p.Leaf.1,p.Leaf.2,p.Sig.E,p.Sig.S) (fun i=>((i:Int),p)) (fun i x hx=>by
  unfold BB DL;rw[CW hx,Aa,Aa];dsimp only;cases (x.Log==p.Log)<;>rfl)
 rw[h1,Aa];rcases h2 with ⟨j,k,q1,q2,rfl⟩|⟨_,rfl⟩
 ·exact⟨_,rfl,.inl ⟨j,k,q1,q2,rfl⟩⟩
 ·exact⟨_,rfl,.inr rfl⟩
theorem app48 {α:Type}(s:List α)(x:α)(h:s.length≤1000000):app 48 s [x]=some (s++[x]):=MC 48 (by simp only[List.length_singleton]; omega) (by simp only[List.length_singleton]; omega)
theorem YT (a:Ai)(leaf:UInt64×UInt64)(i:Int)(p:g_api_Promise)(s:List g_api_Promise)(hs:s.length≤1000000):
  ∃b:Bool,BV a leaf i p s=some (if b=true then s++[p]else s)∧(b=true→cntB a.Client.Logs leaf p=true):=by
 unfold BV;obtain⟨n,hn,h⟩:=AgQ a.Client.Logs p;rw[hn,Aa];rcases h with ⟨j,k,q1,q2,rfl⟩|rfl
 ·dsimp only;rw[ge0,Aiw];cases hl:N6 p.Leaf leaf with
  |false=>
   refine⟨false,?_,fun h=>by cases h⟩;show Ab (Ab (some _) _) _=_;rw[Aa];show Ab (Ab (some _) _) _=_;rw[Aa];rfl
  |true=>
   rw[gu_t1,CW q1,Aa,gu_t1,cp_eq k p,Aa,Aiw];cases hc:(cpV k p==0)with
   |false=>exact⟨false,rfl,fun h=>by cases h⟩
   |true=>
    refine⟨true,?_,fun _=>Ya q1 (by rw[q2,hc,hl]; rfl)⟩;rw[AhZ rfl,app48 s p hs];rfl
 ·refine⟨false,?_,fun h=>by cases h⟩;show Ab (Ab (some _) _) _=_;rw[Aa];show Ab (Ab (some _) _) _=_;rw[Aa];rfl
theorem Q5 (a:Ai)(leaf:UInt64×UInt64): ∀(l:List g_api_Promise) (i:Int) (s:List g_api_Promise),s.length+l.length≤1000000→
  ∃r,D5 (BV a leaf) l i s=some r∧r.length≤s.length+(l.filter (cntB a.Client.Logs leaf)).length∧∀p∈r,p∈s∨(p∈l∧cntB a.Client.Logs leaf p=true)
 | [],i,s,_=>⟨s,rfl,by simp,fun p h=> .inl h⟩
 |x::l,i,s,hl=>by
  simp only[Ah1]at hl;obtain⟨b,hb,hc⟩:=YT a leaf i x s (by omega);show∃r,Ab (BV a leaf i x s) _=_∧_;rw[hb,Aa];cases b with
  |false=>
   obtain⟨r,h1,h2,h3⟩:=Q5 a leaf l (i+1) s (by omega);refine⟨r,h1,?_,fun p hp=> ?_⟩
   ·rw[List.filter_cons];split
    ·simp only[Ah1]; omega
    ·exact h2
   ·rcases h3 p hp with q|⟨q,w⟩
    ·exact .inl q
    ·exact .inr ⟨Aig _ q,w⟩
  |true=>
   obtain⟨r,h1,h2,h3⟩:=Q5 a leaf l (i+1) (s++[x]) (by simp; omega);refine⟨r,h1,?_,fun p hp=> ?_⟩
   ·rw[List.filter_cons,AhZ (hc rfl)]; simp only[Ah0,Ah1,Aij]at h2⊢; omega
   ·rcases h3 p hp with q|⟨q,w⟩
    ·rcases Aii.1 q with q|q
     ·exact .inl q
     ·rw[List.mem_singleton]at q; subst q; exact .inr ⟨Aie,hc rfl⟩
    ·exact .inr ⟨Aig _ q,w⟩
theorem XZ (a:Ai)(leaf:UInt64×UInt64)(l:List g_api_Promise)(hl:l.length≤1000000):
  ∃r,m_client_asked_counting a l leaf=some r∧r.length≤(l.filter (cntB a.Client.Logs leaf)).length∧∀p∈r,p∈l∧cntB a.Client.Logs leaf p=true:=by
 obtain⟨r,h1,h2,h3⟩:=Q5 a leaf l 0 [] (by simpa using hl);refine⟨r,?_,by simpa using h2,fun p hp=>(h3 p hp).elim (fun q=>by cases q) id⟩;unfold m_client_asked_counting;rw[h1]; rfl
def mcV (leaf:UInt64×UInt64)(w:g_api_Place)(h:g_api_Head):Int:=(EG leaf w.At w.Size w.Proof h.Root).getD 1
theorem mc_eq (leaf:UInt64×UInt64)(w:g_api_Place)(h:g_api_Head):EG leaf w.At w.Size w.Proof h.Root=some (mcV leaf w h):=by
 obtain⟨e,he⟩:=YI leaf w.At w.Size w.Proof h.Root;unfold mcV; rw[he]; rfl
def Abc (leaf:UInt64×UInt64)(w:g_api_Place)(h:g_api_Head):Bool:=((h.Log==w.Log)&&(h.Size==w.Size))&&(mcV leaf w h==0)
theorem AgZ (a:Ai)(w:g_api_Place)(leaf:UInt64×UInt64):Ep a w leaf=some (a.Client.Pool.L.any (Abc leaf w)):=by
 unfold Ep Bn BG;obtain⟨r,h1,h2⟩:=HH (body:=Bl a.Client.Pool.L) a.Client.Pool.L (Abc leaf w) (w.Log,w.At,w.Size,w.Proof,leaf.1,leaf.2) (fun i=>((i:Int),w,leaf)) (fun i x hx=>by
  unfold Bl Ft Abc;rw[CW hx,Aa];dsimp only;rw[mc_eq leaf w x];cases ((x.Log==w.Log)&&(x.Size==w.Size))with
  |false=>rfl
  |true=>
   rw[show gu true (some (mcV leaf w x))=some (mcV leaf w x)from rfl,Aa,Cr,Aa,Aiw];cases (mcV leaf w x==0)<;>rfl)
 rw[h1,Aa];rcases h2 with ⟨j,k,q1,q2,rfl⟩|⟨q,rfl⟩
 ·rw[Ya q1 q2];dsimp only;rw[Aa,Aa,ge0]
 ·rw[q]; rfl
theorem AdG (ps:List g_api_Promise)(w:g_api_Place):AK ps w=some (ps.any (fun p=>p.Log==w.Log),w):=by
 unfold AK Bb;obtain⟨r,h1,h2⟩:=HH (body:=A1 ps) ps (fun p=>p.Log==w.Log) (w.Log,w.At,w.Size,w.Proof) (fun i=>((i:Int),w)) (fun i x hx=>by
  unfold A1 Fu;rw[CW hx,Aa,Aa];dsimp only;cases (x.Log==w.Log)<;>rfl)
 rw[h1,Aa];rcases h2 with ⟨j,k,q1,q2,rfl⟩|⟨q,rfl⟩
 ·rw[Ya (p:=fun p:g_api_Promise=>p.Log==w.Log) q1 q2];dsimp only;rw[Aa,ge0]
 ·rw[q]; rfl
def showB (c:g_api_Client)(ps:List g_api_Promise)(leaf:UInt64×UInt64)(w:g_api_Place):Bool:=ps.any (fun p=>p.Log==w.Log)&&c.Pool.L.any (Abc leaf w)
theorem AdH (l:List g_api_Place)(ps:List g_api_Promise)(c:g_api_Client)(leaf:UInt64×UInt64):AQ l ps ⟨c⟩ leaf=some (l.any (showB c ps leaf),ps,⟨c⟩,leaf):=by
 unfold AQ Bz;obtain⟨r,h1,h2⟩:=HH (body:=Be l) l (showB c ps leaf) (ps,c.Who,c.Roots,c.Logs,c.Pool.L,c.Cascade.Day,c.Cascade.Levels,c.View,leaf.1,leaf.2) (fun i=>((i:Int),ps,⟨c⟩,leaf)) (fun i x hx=>by
  unfold Be GH showB;rw[CW hx,Aa];dsimp only;rw[AdG,Aa];dsimp only;rw[AgZ];cases ps.any (fun p=>p.Log==x.Log)with
  |false=>rfl
  |true=>
   dsimp only;rw[show∀o:Option Bool,gu true o=o from fun o=>rfl,Aa,Aa,Aiw];cases c.Pool.L.any (Abc leaf x)<;>rfl)
 dsimp only;rw[h1,Aa];rcases h2 with ⟨j,k,q1,q2,rfl⟩|⟨q,rfl⟩
 ·rw[Ya q1 q2];dsimp only;rw[Aa,ge0]
 ·rw[q]; rfl
abbrev FB:=Az
def aSt (c:g_api_Client)(o:g_api_Offer)(name:ByteArray)(now:Int)(lf:UInt64×UInt64)(ps:List g_api_Promise):ByteArray×(List g_api_Cert)×(List g_api_Key)×(List g_api_Head)×Int×(List g_api_Sieve)×Int×Int×(List g_api_Cert)×(List g_api_Place)×ByteArray×UInt64×UInt64×ByteArray×(List g_api_Cert)×(List g_api_Key)×(List g_api_Head)×Int×(List g_api_Sieve)×Int×(List g_api_Promise):=(c.Who,c.Roots,c.Logs,c.Pool.L,c.Cascade.Day,c.Cascade.Levels,c.View,now,o.Path,o.Where,name,lf.1,lf.2,c.Who,c.Roots,c.Logs,c.Pool.L,c.Cascade.Day,c.Cascade.Levels,c.View,ps)
theorem ne0 {e:Int}(h:e≠0):(e !=0)=true:=by simpa using h
section
variable {c:g_api_Client}{o:g_api_Offer}{name:ByteArray}{now:Int}{lf:UInt64×UInt64}{ps:List g_api_Promise}
theorem fb0 {e:Int}(h:m_client_Check c=some e):(e=0→FB 0 (aSt c o name now lf ps)=some (.inl (aSt c o name now lf ps)))∧(e≠0→∃t,FB 0 (aSt c o name now lf ps)=some (.inr (e,t))):=by
 unfold FB Az;rw[AhZ rfl];have q:Dc c=some (e,c):=by unfold Dc; rw[h]; rfl
 refine⟨fun h0=> ?_,fun h0=> ?_⟩
 ·show Ab (Dc c) _=_;rw[q,Aa,h0]; rfl
 ·show∃t,Ab (Dc c) _=_;rw[q,Aa,AhZ (ne0 h0)];exact⟨_,rfl⟩
theorem fb1 {e:Int}(h:(if(decide (0≤now)&&decide (now≤1099511627776))=true then m_path_Check c.Roots o.Path name now else some 1)=some e):
  (e=0→FB 1 (aSt c o name now lf ps)=some (.inl (aSt c o name now lf ps)))∧(e≠0→∃t,FB 1 (aSt c o name now lf ps)=some (.inr (e,t))):=by
 unfold FB Az;rw[AhX (by decide),AhZ rfl];have q:Db now c o name=some (e,now,c,o,name):=by
  unfold Db;rw[WI,Aa];cases hb:(decide (0≤now)&&decide (now≤1099511627776))with
  |true=>
   rw[hb,AhZ rfl]at h;rw[AhX (by decide),h]; rfl
  |false=>
   rw[hb,AhX (by decide)]at h;cases h; rfl
 refine⟨fun h0=> ?_,fun h0=> ?_⟩
 ·show Ab (Db now c o name) _=_;rw[q,Aa,h0]; rfl
 ·show∃t,Ab (Db now c o name) _=_;rw[q,Aa,AhZ (ne0 h0)];exact⟨_,rfl⟩
theorem fb2 {x:g_api_Cert}{more:List g_api_Cert}{l:UInt64×UInt64}{e:Int}(ho:o.Path=x::more)(h:m_cert_Leaf x=some (l,e)):
  (e=0→FB 2 (aSt c o name now lf ps)=some (.inl (aSt c o name now l ps)))∧(e≠0→∃t,FB 2 (aSt c o name now lf ps)=some (.inr (e,t))):=by
 unfold FB Az;rw[AhX (by decide),AhX (by decide),AhZ rfl];have q:Da o lf=some (e,o,l):=by
  unfold Da;rw[ho];show Ab (some x) _=_;rw[Aa,h]; rfl
 refine⟨fun h0=> ?_,fun h0=> ?_⟩
 ·show Ab (Da o lf) _=_;rw[q,Aa,h0]; rfl
 ·show∃t,Ab (Da o lf) _=_;rw[q,Aa,AhZ (ne0 h0)];exact⟨_,rfl⟩
theorem fb3 {x:g_api_Cert}{more:List g_api_Cert}{r:List g_api_Promise}(ho:o.Path=x::more)(h:m_client_asked_counting ⟨c⟩ x.Proms lf=some r):
  (2≤r.length→FB 3 (aSt c o name now lf ps)=some (.inl (aSt c o name now lf r)))∧(¬2≤r.length→∃t,FB 3 (aSt c o name now lf ps)=some (.inr (251,t))):=by
 unfold FB Az;rw[AhX (by decide),AhX (by decide),AhX (by decide),AhZ rfl];have q:C9 ⟨c⟩ o lf ps=some (if 2≤r.length then 0 else 251,⟨c⟩,o,lf,r):=by
  unfold C9;rw[ho];show Ab (some x) _=_;rw[Aa,h,Aa];by_cases hr:2≤r.length
  ·rw[AhX (by simp; omega),AhZ hr]
  ·rw[AhZ (by simp; omega),AhX hr]
 refine⟨fun h0=> ?_,fun h0=> ?_⟩
 ·show Ab (C9 ⟨c⟩ o lf ps) _=_;rw[q,Aa,AhZ h0]; rfl
 ·show∃t,Ab (C9 ⟨c⟩ o lf ps) _=_;rw[q,Aa,AhX h0];exact⟨_,rfl⟩
theorem fb4:(o.Where.any (showB c ps lf)=true→FB 4 (aSt c o name now lf ps)=some (.inl (aSt c o name now lf ps)))∧(o.Where.any (showB c ps lf)=false→∃t,FB 4 (aSt c o name now lf ps)=some (.inr (240,t))):=by
 unfold FB Az;rw[AhX (by decide),AhX (by decide),AhX (by decide),AhX (by decide),AhZ rfl];have q:C8 ps ⟨c⟩ lf o=some (if o.Where.any (showB c ps lf)=true then 0 else 240,ps,⟨c⟩,lf,o):=by
  unfold C8;rw[AdH,Aa];dsimp only;cases o.Where.any (showB c ps lf)<;>rfl
 refine⟨fun h0=> ?_,fun h0=> ?_⟩
 ·show Ab (C8 ps ⟨c⟩ lf o) _=_;rw[q,Aa,h0]; rfl
 ·show∃t,Ab (C8 ps ⟨c⟩ lf o) _=_;rw[q,Aa,h0];exact⟨_,rfl⟩
theorem fb5 {x:g_api_Cert}{more:List g_api_Cert}{b:Bool}(ho:o.Path=x::more)(h:m_cascade_Has c.Cascade x.Serial=some b):
  (b=false→FB 5 (aSt c o name now lf ps)=some (.inl (aSt c o name now lf ps)))∧(b=true→∃t,FB 5 (aSt c o name now lf ps)=some (.inr (270,t))):=by
 unfold FB Az;rw[AhX (by decide),AhX (by decide),AhX (by decide),AhX (by decide),AhX (by decide)];have q:C7 c o=some (if b=true then 270 else 0,c,o):=by
  unfold C7;rw[ho];show Ab (some x) _=_;rw[Aa,h,Aa];cases b<;>rfl
 refine⟨fun h0=> ?_,fun h0=> ?_⟩
 ·show Ab (C7 c o) _=_;rw[q,Aa,h0]; rfl
 ·show∃t,Ab (C7 c o) _=_;rw[q,Aa,h0];exact⟨_,rfl⟩
end
theorem enL {σ τ:Type}{body:Int→σ→Option (σ⊕τ)}{k:Nat}{i:Int}{s s':σ}(h:body i s=some (.inl s')):BU body (k+1) i s=BU body k (i+1) s':=by
 show Ab (body i s) _=_;rw[h]; rfl
theorem enR {σ τ:Type}{body:Int→σ→Option (σ⊕τ)}{k:Nat}{i:Int}{s:σ}{t:τ}(h:body i s=some (.inr t)):BU body (k+1) i s=some (.inr t):=by
 show Ab (body i s) _=_;rw[h]; rfl
structure Acc (c:g_api_Client)(o:g_api_Offer)(name:ByteArray)(now:Int):Prop where
 chk:m_client_Check c=some 0
 pth:m_path_Check c.Roots o.Path name now=some 0
 run: ∃x more leaf ps,o.Path=x::more∧m_cert_Leaf x=some (leaf,0)∧m_client_asked_counting ⟨c⟩ x.Proms leaf=some ps∧2≤ps.length∧o.Where.any (showB c ps leaf)=true∧m_cascade_Has c.Cascade x.Serial=some false
theorem OT (c:g_api_Client)(o:g_api_Offer)(name:ByteArray)(now:Int)(hp: ∀x∈o.Path,x.Proms.length≤1000000): ∃e,AA c o name now=some e∧(e=0↔Acc c o name now):=by
 unfold AA BJ;have key: ∀r:(ByteArray×(List g_api_Cert)×(List g_api_Key)×(List g_api_Head)×Int×(List g_api_Sieve)×Int×Int×(List g_api_Cert)×(List g_api_Place)×ByteArray×UInt64×UInt64×ByteArray×(List g_api_Cert)×(List g_api_Key)×(List g_api_Head)×Int×(List g_api_Sieve)×Int×(List g_api_Promise))⊕(Int×g_api_Client×Int×g_api_Offer×ByteArray×(UInt64×UInt64)×Ai×(List g_api_Promise)),
   BU FB 6 0 (aSt c o name now (0,0) [])=some r→(∃t,∃e,r= .inr (e,t)∧(e=0↔Acc c o name now))∨(∃s,r= .inl s∧Acc c o name now)→∃e,(Ab (Ab (BU FB 6 0 (aSt c o name now (0,0) [])) fun x1=>match x1 with
    | .inr r=>some r
    | .inl y1=>some (0,(⟨y1.1,y1.2.1,y1.2.2.1,(⟨y1.2.2.2.1⟩:g_api_Pool),(⟨y1.2.2.2.2.1,y1.2.2.2.2.2.1⟩:g_api_Cascade),y1.2.2.2.2.2.2.1⟩:g_api_Client),y1.2.2.2.2.2.2.2.1,(⟨y1.2.2.2.2.2.2.2.2.1,y1.2.2.2.2.2.2.2.2.2.1⟩:g_api_Offer),y1.2.2.2.2.2.2.2.2.2.2.1,(y1.2.2.2.2.2.2.2.2.2.2.2.1,y1.2.2.2.2.2.2.2.2.2.2.2.2.1),(⟨(⟨y1.2.2.2.2.2.2.2.2.2.2.2.2.2.1,y1.2.2.2.2.2.2.2.2.2.2.2.2.2.2.1,y1.2.2.2.2.2.2.2.2.2.2.2.2.2.2.2.1,(⟨y1.2.2.2.2.2.2.2.2.2.2.2.2.2.2.2.2.1⟩:g_api_Pool),(⟨y1.2.2.2.2.2.2.2.2.2.2.2.2.2.2.2.2.2.1,y1.2.2.2.2.2.2.2.2.2.2.2.2.2.2.2.2.2.2.1⟩:g_api_Cascade),y1.2.2.2.2.2.2.2.2.2.2.2.2.2.2.2.2.2.2.2.1⟩:g_api_Client)⟩:Ai),y1.2.2.2.2.2.2.2.2.2.2.2.2.2.2.2.2.2.2.2.2)) fun x1=>some x1.1)=some e∧(e=0↔Acc c o name now):=by
  intro r hr h;rw[hr,Aa];rcases h with ⟨t,e,rfl,h⟩|⟨s,rfl,h⟩
  ·exact⟨e,rfl,h⟩
  ·exact⟨0,rfl,⟨fun _=>h,fun _=>rfl⟩⟩
 obtain⟨e0,h0⟩:=OP c;by_cases z0:e0=0
 ·subst z0;obtain⟨e1,h1⟩: ∃e1,(if(decide (0≤now)&&decide (now≤1099511627776))=true then m_path_Check c.Roots o.Path name now else some 1)=some e1:=by
   split
   ·exact⟨_,QA _ _ _ _⟩
   ·exact⟨_,rfl⟩
  by_cases z1:e1=0
  ·subst z1;have hpc:m_path_Check c.Roots o.Path name now=some 0:=by
    split at h1
    ·exact h1
    ·cases h1
   obtain⟨x,more,ho,P,ht⟩:=OG (AhS ((QA _ _ _ _).symm.trans hpc));have hx:checkV x=0:=P.all x (by simp);have hl:=X5 (okc hx);generalize AcY (⟨#[108,101,97,102]⟩:ByteArray) [Wc x]=leaf at hl;obtain⟨ps,h3,l3,_⟩:=XZ ⟨c⟩ leaf x.Proms (hp x (by rw[ho]; exact Aie));obtain⟨b,h5⟩:=X2 c.Cascade x.Serial;have r0:=(fb0 (o:=o) (name:=name) (now:=now) (lf:=(0,0)) (ps:=[]) h0).1 rfl;have r1:=(fb1 (lf:=(0,0)) (ps:=[]) h1).1 rfl;have r2:=(fb2 (c:=c) (name:=name) (now:=now) (lf:=(0,0)) (ps:=[]) ho hl).1 rfl;have r3:=fb3 (name:=name) (now:=now) (ps:=[]) ho h3;have uniq: ∀x' more' leaf' ps',o.Path=x'::more'→m_cert_Leaf x'=some (leaf',0)→m_client_asked_counting ⟨c⟩ x'.Proms leaf'=some ps'→x'=x∧leaf'=leaf∧ps'=ps:=fun x' more' leaf' ps' a1 a2 a3=>by
    rw[ho]at a1; cases a1;rw[hl]at a2; cases a2;rw[h3]at a3; cases a3;exact⟨rfl,rfl,rfl⟩
   by_cases z3:2≤ps.length
   ·have r3:=r3.1 z3;have r4:=fb4 (c:=c) (o:=o) (name:=name) (now:=now) (lf:=leaf) (ps:=ps);cases z4:o.Where.any (showB c ps leaf)with
    |true=>
     have r4:=r4.1 z4;have r5:=fb5 (name:=name) (now:=now) (lf:=leaf) (ps:=ps) ho h5;cases b with
     |false=>
      refine key _ ((enL r0).trans ((enL r1).trans ((enL r2).trans ((enL r3).trans ((enL r4).trans (enL (r5.1 rfl))))))) (.inr ⟨_,rfl,⟨h0,hpc,x,more,leaf,ps,ho,hl,h3,z3,z4,h5⟩⟩)
     |true=>
      obtain⟨t,r5⟩:=r5.2 rfl;refine key _ ((enL r0).trans ((enL r1).trans ((enL r2).trans ((enL r3).trans ((enL r4).trans (enR r5)))))) (.inl ⟨t,_,rfl,⟨(fun h=>by cases h),(fun h=> ?_)⟩⟩);obtain⟨x',more',leaf',ps',a1,a2,a3,a4,a5,a6⟩:=h.run;obtain⟨rfl,rfl,rfl⟩:=uniq _ _ _ _ a1 a2 a3;rw[h5]at a6; cases a6
    |false=>
     obtain⟨t,r4⟩:=r4.2 z4;refine key _ ((enL r0).trans ((enL r1).trans ((enL r2).trans ((enL r3).trans (enR r4))))) (.inl ⟨t,_,rfl,⟨(fun h=>by cases h),(fun h=> ?_)⟩⟩);obtain⟨x',more',leaf',ps',a1,a2,a3,a4,a5,a6⟩:=h.run;obtain⟨rfl,rfl,rfl⟩:=uniq _ _ _ _ a1 a2 a3;rw[z4]at a5; cases a5
   ·obtain⟨t,r3⟩:=r3.2 z3;refine key _ ((enL r0).trans ((enL r1).trans ((enL r2).trans (enR r3)))) (.inl ⟨t,_,rfl,⟨(fun h=>by cases h),(fun h=> ?_)⟩⟩);obtain⟨x',more',leaf',ps',a1,a2,a3,a4,a5,a6⟩:=h.run;obtain⟨rfl,rfl,rfl⟩:=uniq _ _ _ _ a1 a2 a3;exact absurd a4 z3
  ·have r0:=(fb0 (o:=o) (name:=name) (now:=now) (lf:=(0,0)) (ps:=[]) h0).1 rfl;obtain⟨t,r1⟩:=(fb1 (lf:=(0,0)) (ps:=[]) h1).2 z1;refine key _ ((enL r0).trans (enR r1)) (.inl ⟨t,_,rfl,⟨fun h=>absurd h z1,fun h=> ?_⟩⟩);have hv:=AhS ((QA _ _ _ _).symm.trans h.pth);obtain⟨x,more,ho,P,ht⟩:=OG hv;have:=P.now0;have:=P.nowM;rw[AhZ (by rw[Aim (by omega),Aim (by omega)]; rfl),h.pth]at h1;cases h1; rfl
 ·obtain⟨t,r0⟩:=(fb0 (o:=o) (name:=name) (now:=now) (lf:=(0,0)) (ps:=[]) h0).2 z0;refine key _ (enR r0) (.inl ⟨t,_,rfl,⟨fun h=>absurd h z0,fun h=> ?_⟩⟩);have:=h.chk;rw[h0]at this; cases this; rfl
theorem Aea {α:Type}{xs:List α}{i:Nat}{x:α}(h:xs[i]? =some x):xs.drop i=x::xs.drop (i+1):=by
 obtain⟨hi,rfl⟩:=Aia.1 h;exact List.drop_eq_getElem_cons hi
def fndO {α β:Type}(f:α→Option β):List α→(Unit⊕β)
 | []=> .inl ()
 |x::r=>match f x with|some b=> .inr b|none=>fndO f r
theorem Vf {α β:Type}{step:Int→Option (Int⊕(Unit⊕β))}(xs:List α)(f:α→Option β)
  (hs: ∀(i:Nat) (x:α),xs[i]? =some x→step (i:Int)=some (match f x with|some b=> .inr (.inr b)|none=> .inl ((i+1:Nat):Int)))
  (he:step (xs.length:Int)=some (.inr (.inl ()))): ∀(k i n:Nat),i+k=xs.length→k<n→iter step n (i:Int)=some (fndO f (xs.drop i))
 |0,i,n,h,hn=>by
  obtain⟨n,rfl⟩: ∃q,n=q+1:=⟨n-1,by omega⟩;have h:i=xs.length:=by omega
  subst h;show Ab (step _) _=_;rw[he,List.drop_length]; rfl
 |k+1,i,n,h,hn=>by
  obtain⟨n,rfl⟩: ∃q,n=q+1:=⟨n-1,by omega⟩;have hi:i<xs.length:=by omega
  have hx:xs[i]? =some xs[i]:=Ain hi;show Ab (step _) _=_;rw[hs i _ hx,Aea hx];unfold fndO;cases f xs[i]with
  |some b=>rfl
  |none=>exact Vf xs f hs he k (i+1) n (by omega) (by omega)
theorem YJ {α β:Type}{step:Int→Option (Int⊕(Unit⊕β))}(xs:List α)(f:α→Option β)(hl:xs.length≤1000000)
  (hs: ∀(i:Nat) (x:α),xs[i]? =some x→step (i:Int)=some (match f x with|some b=> .inr (.inr b)|none=> .inl ((i+1:Nat):Int)))
  (he:step (xs.length:Int)=some (.inr (.inl ()))):iter step FA 0=some (fndO f xs):=
 Vf xs f hs he xs.length 0 FA (by omega) (by have:(1000001:Nat)≤FA:=Ah7 rfl; omega)
theorem XK {α:Type}(p:α→Bool)(v:Bool): ∀(xs:List α),fndO (fun x=>if p x=true then some v else none) xs=if xs.any p=true then .inr v else .inl ()
 | []=>rfl
 |x::r=>by
  unfold fndO;cases h:p x with
  |true=>simp[h]
  |false=>simp[h,XK p v r]
theorem AdA {α:Type}{l:List α}{n i:Nat}{x:α}(h:(l.take n)[i]? =some x):idx l (i:Int)=some x∧i<l.length∧i<n:=by
 rw[List.getElem?_take]at h;split at h
 ·exact⟨CW h,(Aia.1 h).1,‹_›⟩
 ·cases h
def shop0:CQ:=⟨⟨⟨#[97,110,110]⟩,[⟨0,⟨#[114]⟩,⟨#[114]⟩,544077478247279056,[],0,100,true,1,[],[],⟨56068977789539995,412945996197367095⟩⟩],[⟨0,1297896941320072711,5⟩,⟨1,1631945290827707310,5⟩],⟨[]⟩,⟨0,[]⟩,0⟩,⟨[⟨9,⟨#[114]⟩,⟨#[]⟩,4,[⟨#[120,46,97]⟩],3,8,false,0,[],[⟨0,3,(1621992312229970116,2200863675130382030),⟨493135561720501702,53138745142054843⟩⟩,⟨1,3,(1621992312229970116,2200863675130382030),⟨694227493511213294,984341331704138812⟩⟩],⟨1050415333436172978,246170491232933132⟩⟩],[⟨0,2,3,[(71937633796637552,541480457554953714)]⟩]⟩,[⟨0,492609940580054112,5,[⟨[0,5],1⟩,⟨[1,5],1⟩,⟨[48,32,2,1,9,12,1,114,12,0,2,1,4,48,5,12,3,120,46,97,2,1,3,2,1,8,1,1,0,2,1,0,48,0],3⟩],[],[]⟩,⟨1,821147353521346255,5,[⟨[48,32,2,1,9,12,1,114,12,0,2,1,4,48,5,12,3,120,46,97,2,1,3,2,1,8,1,1,0,2,1,0,48,0],3⟩],[],[]⟩]⟩
def head0:g_api_Head:=⟨0,3,(1111880991993255973,2159594700541934035),4,⟨52962187583479370,259454068761640249⟩⟩
def cli0:g_api_Client:=⟨⟨#[97,110,110]⟩,[⟨0,⟨#[114]⟩,⟨#[114]⟩,544077478247279056,[],0,100,true,1,[],[],⟨56068977789539995,412945996197367095⟩⟩],[⟨0,1297896941320072711,5⟩,⟨1,1631945290827707310,5⟩],⟨[⟨0,3,(1111880991993255973,2159594700541934035),4,⟨52962187583479370,259454068761640249⟩⟩]⟩,⟨0,[]⟩,0⟩
def cas0:g_api_Cascade:=⟨1,[⟨8,3,16,[98]⟩]⟩
def cli1:g_api_Client:=⟨⟨#[97,110,110]⟩,[⟨0,⟨#[114]⟩,⟨#[114]⟩,544077478247279056,[],0,100,true,1,[],[],⟨56068977789539995,412945996197367095⟩⟩],[⟨0,1297896941320072711,5⟩,⟨1,1631945290827707310,5⟩],⟨[⟨0,3,(1111880991993255973,2159594700541934035),4,⟨52962187583479370,259454068761640249⟩⟩]⟩,⟨1,[⟨8,3,16,[98]⟩]⟩,0⟩
theorem lvq0:JQ 5 ⟨#[120,46,97]⟩ 2=some (shop0,true):=by kernel_rfl
theorem lvq1:(Ab (idx shop0.logs_ 0) fun x=>M6 x 0 3 4)=some (head0,0):=by kernel_rfl
theorem lvq2:FV shop0.c_ head0=some (cli0,0):=by kernel_rfl
theorem lvq3:(JE ⟨#[]⟩ shop0.c_.Roots shop0.c_.Logs 0).map Prod.snd=some 1:=by kernel_rfl
theorem lvq4:HP [9] [] 1=some (cas0,0):=by kernel_rfl
theorem lvq5:H3 cli0 cas0=some (cli1,0):=by kernel_rfl
theorem lvq6:(H3 cli1 ⟨0,[]⟩).map Prod.snd=some 190:=by kernel_rfl
theorem lvq7:m_client_Check cli1=some 0:=by kernel_rfl
theorem lvq8:AA shop0.c_ shop0.o_ ⟨#[120,46,97]⟩ 4=some 240:=by kernel_rfl
theorem lvq9:AA cli0 shop0.o_ ⟨#[120,46,97]⟩ 4=some 0:=by kernel_rfl
theorem lvqa:AA cli0 shop0.o_ ⟨#[121,46,97]⟩ 4=some 110:=by kernel_rfl
theorem lvqb:AA cli0 shop0.o_ ⟨#[120,46,97]⟩ 8=some 190:=by kernel_rfl
theorem lvqc:AA cli1 shop0.o_ ⟨#[120,46,97]⟩ 4=some 270:=by kernel_rfl
theorem Wp:Jw=some true:=by
 unfold Jw;rw[lvq0,Aa,AhX (by decide)];obtain⟨x,hx,h1⟩:=Af lvq1;obtain⟨⟨z3,e3⟩,h3,rfl⟩:=Ah2.1 lvq3;obtain⟨⟨z6,e6⟩,h6,rfl⟩:=Ah2.1 lvq6;dsimp only;rw[hx,Aa,h1,Aa];dsimp only;rw[lvq2,Aa];dsimp only;rw[h3,Aa,lvq4,Aa];dsimp only;rw[lvq5,Aa];dsimp only;rw[h6,Aa,lvq7,lvq8,lvq9,lvqa,lvqb,lvqc];rfl
theorem N4 {α:Type}{step:Int→Option (Int⊕(Unit⊕Bool))}(xs:List α)(n:Nat)(hn:n≤1000)(p:α→Bool)(hs: ∀(i:Nat) (x:α),xs[i]? =some x→i<n→step (i:Int)=some (if p x=true then .inr (.inr false)else .inl ((i+1:Nat):Int)))
  (he: ∀i:Nat,¬(i<xs.length∧i<n)→step (i:Int)=some (.inr (.inl ()))):iter step FA 0=some (if(xs.take n).any p=true then .inr false else .inl ()):=by
 rw[YJ (xs.take n) (fun x=>if p x=true then some false else none) (by simp; omega) (fun i x hx=> ?_) ?_,XK]
 ·exact he _ (by simp; omega)
 ·obtain⟨h1,h2,h3⟩:=AdA hx;have hx':xs[i]? =some x:=by
   rw[List.getElem?_take,AhZ h3]at hx;exact hx
  rw[hs i x hx' h3];cases p x<;>rfl
def Ad1 (c:g_api_Cert):Bool:= !(c.Names.take 12).any (fun s=>decide ((s.size:Int)>200))&&(!(c.Permit.take 12).any (fun s=>decide ((s.size:Int)>200))&&(((((decide ((c.Names.length:Int)≤12))&&(decide ((c.Permit.length:Int)≤12)))&&(decide ((c.Proms.length:Int)≤8)))&&(decide ((c.Issuer.size:Int)≤200)))&&(decide ((c.Subject.size:Int)≤200))))
theorem Ad0 (c:g_api_Cert):G5 c=some (Ad1 c):=by
 unfold G5 Ad1;rw[N4 (step:=EW c) c.Names 12 (by omega) (fun s=>decide ((s.size:Int)>200)) (fun i x hx hi=> ?_) (fun i hi=> ?_),Aa]
 ·cases (c.Names.take 12).any fun s=>decide ((s.size:Int)>200)with
  |true=>rfl
  |false=>
   rw[AhX (by decide)];dsimp only;rw[N4 (step:=EV c) c.Permit 12 (by omega) (fun s=>decide ((s.size:Int)>200)) (fun i x hx hi=> ?_) (fun i hi=> ?_),Aa]
   ·cases (c.Permit.take 12).any fun s=>decide ((s.size:Int)>200)<;>rfl
   ·have h2:=(Aia.1 hx).1;unfold EV;rw[AhZ (by simp; omega),CW hx,Aa];cases decide ((x.size:Int)>200)with
    |true=>rfl
    |false=>rw[AhX (by decide),AhX (by decide),BZ (by omega) (by omega)]; rfl
   ·unfold EV;rw[AhX (by simp; omega)]
 ·have h2:=(Aia.1 hx).1;unfold EW;rw[AhZ (by simp; omega),CW hx,Aa];cases decide ((x.size:Int)>200)with
  |true=>rfl
  |false=>rw[AhX (by decide),AhX (by decide),BZ (by omega) (by omega)]; rfl
 ·unfold EW;rw[AhX (by simp; omega)]
theorem Ahm {c:g_api_Cert}(h:Ad1 c=true):c.Names.length≤12∧c.Proms.length≤8:=by
 simp only[Ad1,AhT,Ah4]at h;omega
def Abq (l:List g_api_Cert):Bool:= !(l.take 12).any (fun c=> !Ad1 c)&&decide ((l.length:Int)≤10)
theorem Abp (l:List g_api_Cert):Ez l=some (Abq l):=by
 unfold Ez Abq;rw[N4 (step:=Ej l) l 12 (by omega) (fun c=> !Ad1 c) (fun i x hx hi=> ?_) (fun i hi=> ?_),Aa]
 ·cases (l.take 12).any fun c=> !Ad1 c<;>rfl
 ·have h2:=(Aia.1 hx).1;unfold Ej;rw[AhZ (by simp; omega),CW hx,Aa,Ad0,Aa];cases Ad1 x with
  |false=>rfl
  |true=>rw[AhX (by decide),AhX (by decide),BZ (by omega) (by omega)]; rfl
 ·unfold Ej;rw[AhX (by simp; omega)]
theorem Ahl {l:List g_api_Cert}(h:Abq l=true):l.length≤10∧∀c∈l,Ad1 c=true:=by
 simp only[Abq,AhT,Ah4,Bool.not_eq_true',List.any_eq_false]at h;have hl:l.length≤10:=by omega
 refine⟨hl,fun c hc=> ?_⟩;have:=h.1 c (by rw[Aiz (by omega)]; exact hc);simpa using this
def fewX (x:g_api_Cascade):Bool:= !(x.Levels.take 20).any (fun s=>decide ((s.B.length:Int)>300))&&decide ((x.Levels.length:Int)≤18)
theorem Ahj (x:g_api_Cascade):EX x=some (fewX x):=by
 unfold EX fewX;rw[N4 (step:=DD x) x.Levels 20 (by omega) (fun s=>decide ((s.B.length:Int)>300)) (fun i y hx hi=> ?_) (fun i hi=> ?_),Aa]
 ·cases (x.Levels.take 20).any fun s=>decide ((s.B.length:Int)>300)<;>rfl
 ·have h2:=(Aia.1 hx).1;unfold DD;rw[AhZ (by simp; omega),CW hx,Aa];cases decide ((y.B.length:Int)>300)with
  |true=>rfl
  |false=>rw[AhX (by decide),AhX (by decide),BZ (by omega) (by omega)]; rfl
 ·unfold DD;rw[AhX (by simp; omega)]
theorem Ad2 (c:g_api_Client): ∃b,KD c=some b∧(b=true→Abq c.Roots=true∧c.Logs.length≤20∧c.Pool.L.length≤40∧fewX c.Cascade=true):=by
 unfold KD;rw[Abp,Ahj];cases h1:decide ((c.Who.size:Int)≤100)with
 |false=>exact⟨false,rfl,fun h=>by cases h⟩
 |true=>
  rw[show gu true (some (Abq c.Roots))=some (Abq c.Roots)from rfl,Aa];cases h2:Abq c.Roots with
  |false=>exact⟨false,rfl,fun h=>by cases h⟩
  |true=>
   cases h3:decide ((c.Logs.length:Int)≤20)with
   |false=>exact⟨false,rfl,fun h=>by cases h⟩
   |true=>
    cases h4:decide ((c.Pool.L.length:Int)≤40)with
    |false=>exact⟨false,rfl,fun h=>by cases h⟩
    |true=>
     refine⟨fewX c.Cascade,rfl,fun h=>⟨rfl,?_,?_,h⟩⟩
     ·have:=AiS h3; omega
     ·have:=AiS h4; omega
theorem Ahk (o:g_api_Offer): ∃b,Gp o=some b∧(b=true→Abq o.Path=true∧o.Where.length≤8):=by
 unfold Gp;rw[N4 (step:=Ei o) o.Where 12 (by omega) (fun s=>decide ((s.Proof.length:Int)>20)) (fun i y hx hi=> ?_) (fun i hi=> ?_),Aa]
 ·cases (o.Where.take 12).any fun s=>decide ((s.Proof.length:Int)>20)with
  |true=>exact⟨false,rfl,fun h=>by cases h⟩
  |false=>
   rw[AhX (by decide)];dsimp only;rw[Abp,Aa];refine⟨_,rfl,fun h=> ?_⟩;rw[AhT]at h;exact⟨h.1,by have:=AiS h.2; omega⟩
 ·have h2:=(Aia.1 hx).1;unfold Ei;rw[AhZ (by simp; omega),CW hx,Aa];cases decide ((y.Proof.length:Int)>20)with
  |true=>rfl
  |false=>rw[AhX (by decide),AhX (by decide),BZ (by omega) (by omega)]; rfl
 ·unfold Ei;rw[AhX (by simp; omega)]
theorem Ahi (c:g_api_Client)(o:g_api_Offer): ∃b,KH c o=some b∧(b=true→(Abq c.Roots=true∧c.Logs.length≤20∧c.Pool.L.length≤40∧fewX c.Cascade=true)∧Abq o.Path=true∧o.Where.length≤8):=by
 obtain⟨a,h1,h2⟩:=Ad2 c;obtain⟨b,h3,h4⟩:=Ahk o;unfold KH;rw[h1,Aa,h3];cases a with
 |false=>exact⟨false,rfl,fun h=>by cases h⟩
 |true=>
  refine⟨b,rfl,fun h=>⟨h2 rfl,h4 h⟩⟩
theorem OU {c:g_api_Client}{o:g_api_Offer}{name:ByteArray}{now E:Int}{r}(h:BU FB 6 0 (aSt c o name now (0,0) [])=some r)(q:(∃t,r= .inr (E,t))∨(E=0∧∃s,r= .inl s)):AA c o name now=some E:=by
 unfold AA BJ;show Ab (Ab (BU FB 6 0 (aSt c o name now (0,0) [])) _) _=_;rw[h,Aa];rcases q with ⟨t,rfl⟩|⟨rfl,s,rfl⟩
 ·rfl
 ·rfl
theorem AhR (c:g_api_Client)(p:List g_api_Cert)(name:ByteArray)(now:Int)(hp: ∀x∈p,x.Proms.length≤1000000):
  ∃(ps:List g_api_Promise) (leaf:UInt64×UInt64) (f:Bool→Int),∀W,AA c ⟨p,W⟩ name now=some (f (W.any (showB c ps leaf))):=by
 obtain⟨e0,h0⟩:=OP c;by_cases z0:e0=0
 ·subst z0;obtain⟨e1,h1⟩: ∃e1,(if(decide (0≤now)&&decide (now≤1099511627776))=true then m_path_Check c.Roots p name now else some 1)=some e1:=by
   split
   ·exact⟨_,QA _ _ _ _⟩
   ·exact⟨_,rfl⟩
  have r0:=fun W=>(fb0 (o:=⟨p,W⟩) (name:=name) (now:=now) (lf:=(0,0)) (ps:=[]) h0).1 rfl;by_cases z1:e1=0
  ·subst z1;have hpc:m_path_Check c.Roots p name now=some 0:=by
    split at h1
    ·exact h1
    ·cases h1
   obtain⟨x,more,ho,P,ht⟩:=OG (AhS ((QA _ _ _ _).symm.trans hpc));have hx:checkV x=0:=P.all x (by simp);have hl:=X5 (okc hx);generalize AcY (⟨#[108,101,97,102]⟩:ByteArray) [Wc x]=leaf at hl;obtain⟨ps,h3,l3,_⟩:=XZ ⟨c⟩ leaf x.Proms (hp x (by rw[ho]; exact Aie));obtain⟨b,h5⟩:=X2 c.Cascade x.Serial;have r1:=fun W=>(fb1 (c:=c) (o:=⟨p,W⟩) (name:=name) (now:=now) (lf:=(0,0)) (ps:=[]) h1).1 rfl;have r2:=fun W=>(fb2 (c:=c) (o:=⟨p,W⟩) (name:=name) (now:=now) (lf:=(0,0)) (ps:=[]) ho hl).1 rfl;have r3:=fun W=>fb3 (c:=c) (o:=⟨p,W⟩) (name:=name) (now:=now) (lf:=leaf) (ps:=[]) ho h3;by_cases z3:2≤ps.length
   ·refine⟨ps,leaf,fun q=>if q=true then(if b=true then 270 else 0)else 240,fun W=> ?_⟩;have r3:=(r3 W).1 z3;have r4:=fb4 (c:=c) (o:=⟨p,W⟩) (name:=name) (now:=now) (lf:=leaf) (ps:=ps);cases z4:W.any (showB c ps leaf)with
    |true=>
     have r4:=r4.1 z4;have r5:=fb5 (c:=c) (o:=⟨p,W⟩) (name:=name) (now:=now) (lf:=leaf) (ps:=ps) ho h5;cases b with
     |false=>exact OU ((enL (r0 W)).trans ((enL (r1 W)).trans ((enL (r2 W)).trans ((enL r3).trans ((enL r4).trans (enL (r5.1 rfl))))))) (.inr ⟨rfl,_,rfl⟩)
     |true=>
      obtain⟨t,r5⟩:=r5.2 rfl;exact OU ((enL (r0 W)).trans ((enL (r1 W)).trans ((enL (r2 W)).trans ((enL r3).trans ((enL r4).trans (enR r5)))))) (.inl ⟨t,rfl⟩)
    |false=>
     obtain⟨t,r4⟩:=r4.2 z4;exact OU ((enL (r0 W)).trans ((enL (r1 W)).trans ((enL (r2 W)).trans ((enL r3).trans (enR r4))))) (.inl ⟨t,rfl⟩)
   ·refine⟨ps,leaf,fun _=>251,fun W=> ?_⟩;obtain⟨t,r3⟩:=(r3 W).2 z3;exact OU ((enL (r0 W)).trans ((enL (r1 W)).trans ((enL (r2 W)).trans (enR r3)))) (.inl ⟨t,rfl⟩)
  ·refine⟨[],(0,0),fun _=>e1,fun W=> ?_⟩;obtain⟨t,r1⟩:=(fb1 (c:=c) (o:=⟨p,W⟩) (name:=name) (now:=now) (lf:=(0,0)) (ps:=[]) h1).2 z1;exact OU ((enL (r0 W)).trans (enR r1)) (.inl ⟨t,rfl⟩)
 ·refine⟨[],(0,0),fun _=>e0,fun W=> ?_⟩;obtain⟨t,r0⟩:=(fb0 (o:=⟨p,W⟩) (name:=name) (now:=now) (lf:=(0,0)) (ps:=[]) h0).2 z0;exact OU (enR r0) (.inl ⟨t,rfl⟩)
def Zq (c:g_api_Client)(l:List g_api_Head):g_api_Client:=⟨c.Who,c.Roots,c.Logs,⟨l⟩,c.Cascade,c.View⟩
theorem Ab0 {α:Type}{p:α→Bool}{a b:List α}(h:a.any p=true)(hs: ∀x∈a,x∈b):b.any p=true:=by
 obtain⟨x,hx,hp⟩:=AiZ.1 h;exact AiZ.2 ⟨x,hs x hx,hp⟩
theorem Ab5 {c:g_api_Client}{o:g_api_Offer}{name:ByteArray}{now:Int}(hA:Acc c o name now){W:List g_api_Place}(hs: ∀w∈o.Where,w∈W):Acc c ⟨o.Path,W⟩ name now:=by
 obtain⟨hc,hp,x,more,leaf,ps,r1,r2,r3,r4,r5,r6⟩:=hA;exact⟨hc,hp,x,more,leaf,ps,r1,r2,r3,r4,Ab0 r5 hs,r6⟩
theorem Aeq {c:g_api_Client}{o:g_api_Offer}{name:ByteArray}{now:Int}(hA:Acc c o name now){l:List g_api_Head}(hk:m_client_Check (Zq c l)=some 0)(hs: ∀h∈c.Pool.L,h∈l):Acc (Zq c l) o name now:=by
 obtain⟨hc,hp,x,more,leaf,ps,r1,r2,r3,r4,r5,r6⟩:=hA;refine⟨hk,hp,x,more,leaf,ps,r1,r2,r3,r4,?_,r6⟩;obtain⟨w,hw,hb⟩:=AiZ.1 r5;refine AiZ.2 ⟨w,hw,?_⟩;unfold showB at hb⊢;rw[AhT]at hb⊢;exact⟨hb.1,Ab0 hb.2 hs⟩
theorem AbK {c:g_api_Client}(h:m_client_Check c=some 0):Bu ⟨c⟩=some 0∧F5 c.Pool.L c.Logs=0∧CO c.Cascade=some 0:=by
 obtain⟨e1,h1⟩:=Xz ⟨c⟩;obtain⟨e3,h3⟩:=OR c.Cascade;unfold m_client_Check at h;rw[Abn h1 (show Bd ⟨c⟩=some (F5 c.Pool.L c.Logs)from by unfold Bd; rw[N2]; rfl) (show Bv ⟨c⟩=some e3 from by unfold Bv; rw[h3]; rfl),Aa]at h;have h:=AhS h;by_cases q1:e1=0
 ·rw[AhX (fun k=>k q1)]at h;by_cases q2:F5 c.Pool.L c.Logs=0
  ·rw[AhX (fun k=>k q2)]at h;exact⟨by rw[h1,q1],q2,by rw[h3,h]⟩
  ·rw[AhZ q2]at h; exact absurd h q2
 ·rw[AhZ q1]at h; exact absurd h q1
theorem AbL {c:g_api_Client}(h1:Bu ⟨c⟩=some 0)(h2:F5 c.Pool.L c.Logs=0)(h3:CO c.Cascade=some 0):m_client_Check c=some 0:=by
 unfold m_client_Check;rw[Abn h1 (show Bd ⟨c⟩=some (F5 c.Pool.L c.Logs)from by unfold Bd; rw[N2]; rfl) (show Bv ⟨c⟩=some 0 from by unfold Bv; rw[h3]; rfl),h2];rfl
theorem AaO (c:g_api_Client)(l:List g_api_Head):Bu ⟨Zq c l⟩=Bu ⟨c⟩:=rfl
theorem Ab4 {l:List g_api_Head}{h:g_api_Head}{ks:List g_api_Key}(e:(Ri l h ks).2=0):F5 (Ri l h ks).1 ks=0∧hasH (Ri l h ks).1 h∧(∀x∈l,x∈(Ri l h ks).1)∧l.length≤(Ri l h ks).1.length∧(Ri l h ks).1.length≤1024:=by
 by_cases hc:F5 l ks=0
 ·obtain⟨h1,h2,h3⟩:=T8.1 hc;by_cases hr:LF h ks=true
  ·by_cases hb:Ag3 l h=true
   ·have hA:Ri l h ks=(l,0):=by unfold Ri; rw[AhZ hc,AhZ hr,AhZ hb]
    rw[hA];exact⟨hc,TV.1 hb,fun _ q=>q,AhY _,h1⟩
   ·by_cases hl:l.length<1024
    ·have hA:Ri l h ks=(Ni l h,0):=by unfold Ri; rw[AhZ hc,AhZ hr,AhX hb,AhZ hl]
     rw[hA];refine⟨T8.2 ⟨by rw[PO]; omega,WZ h2 (fun q=>hb (TV.2 q)),fun x hx=> ?_⟩,AdF (Nh.2 (.inl rfl)),fun x q=>Nh.2 (.inr q),by rw[PO]; omega,by rw[PO]; omega⟩;rcases Nh.1 hx with q|q
     ·rw[q]; exact hr
     ·exact h3 x q
    ·have hA:Ri l h ks=([],2):=by unfold Ri; rw[AhZ hc,AhZ hr,AhX hb,AhX hl]
     rw[hA]at e; cases e
  ·have hA:Ri l h ks=([],40):=by unfold Ri; rw[AhZ hc,AhX hr]
   rw[hA]at e; cases e
 ·have hA:Ri l h ks=([],F5 l ks):=by unfold Ri; rw[AhX hc]
  rw[hA]at e; exact absurd e hc
theorem AcB (c:g_api_Client)(h:g_api_Head): ∃t,FV c h=some t∧(t.2=0→m_client_Check c=some 0∧(Ri c.Pool.L h c.Logs).2=0∧t.1=Zq c (Ri c.Pool.L h c.Logs).1∧m_client_Check t.1=some 0)∧(t.2≠0→t.1.Roots=[]):=by
 obtain⟨e,he⟩:=OP c;unfold FV;rw[he,Aa];by_cases h0:e=0
 ·subst h0;obtain⟨k1,k2,k3⟩:=AbK he;rw[AhX (by decide),Ag8,Aa];by_cases h1:(Ri c.Pool.L h c.Logs).2=0
  ·rw[AhX (by simp[h1])];refine⟨_,rfl,fun _=>⟨rfl,h1,rfl,AbL (c:=Zq c (Ri c.Pool.L h c.Logs).1) ((AaO c _).trans k1) (Ab4 h1).1 k3⟩,fun q=>absurd h1 q⟩
  ·rw[AhZ (ne0 h1)];exact⟨_,rfl,fun q=>absurd q h1,fun _=>rfl⟩
 ·rw[AhZ (ne0 h0)];exact⟨_,rfl,fun q=>absurd q h0,fun _=>rfl⟩
theorem X8 {o:g_api_Offer}(hl:o.Where.length≤1000): ∀(k n:Nat) (acc:List g_api_Place),k≤o.Where.length→k<n→acc.length+k≤1000→iter (Bo o) n ((k:Int)-1,acc)=some (acc++(o.Where.take k).reverse)
 |0,n,acc,h1,h2,h3=>by
  obtain⟨n,rfl⟩: ∃q,n=q+1:=⟨n-1,by omega⟩;have hs:Bo o (((0:Nat):Int)-1,acc)=some (.inr acc):=by
   unfold Bo;exact AhX (fun h=>by have:=AiS h; simp at this)
  show Ab (Bo o _) _=_;rw[hs,Aa];simp
 |k+1,n,acc,h1,h2,h3=>by
  obtain⟨n,rfl⟩: ∃q,n=q+1:=⟨n-1,by omega⟩;have hx:o.Where[k]? =some o.Where[k]:=Ain (by omega);have hs:Bo o ((k:Int),acc)=some (.inl ((k:Int)-1,acc++[o.Where[k]])):=by
   unfold Bo;dsimp only;rw[ge0,AhZ rfl,CW hx,Aa,app48 acc _ (by omega),Aa,BZ (by omega) (by omega)]
  rw[show((k+1:Nat):Int)-1=(k:Int)from by omega];show Ab (Bo o _) _=_;rw[hs,Aa];dsimp only;rw[X8 hl k n _ (by omega) (by omega) (by simp; omega),List.take_succ_eq_append_getElem (by omega),List.reverse_append];simp
theorem AaK (a0:g_api_Client)(a1:g_api_Offer)(a2:ByteArray)(a3:Int)(a4:g_api_Head)(a5:g_api_Place):E2 a0 a1 a2 a3 a4 a5=some true:=by
 unfold E2;rw[Wp,Aa,AhX (by decide)];obtain⟨b,hb,hf⟩:=Ahi a0 a1;rw[hb,Aa];cases b with
 |false=>rfl
 |true=>
  obtain⟨⟨f1,f2,f3,f4⟩,f5,f6⟩:=hf rfl;cases hn:decide ((a2.size:Int)>100)with
  |true=>rfl
  |false=>
   cases hw:decide ((a5.Proof.length:Int)>20)with
   |true=>rfl
   |false=>
    obtain⟨p1,p2⟩:=Ahl f5;have hp: ∀x∈a1.Path,x.Proms.length≤1000000:=fun x hx=>by have:=(Ahm (p2 x hx)).2; omega
    obtain⟨ps,leaf,f,hV⟩:=AhR a0 a1.Path a2 a3 hp;obtain⟨e,he,hi⟩:=OT a0 a1 a2 a3 hp;obtain⟨t,ht,t1,_⟩:=AcB a0 a4;have hr:(a1.Where.reverse).any (showB a0 ps leaf)=a1.Where.any (showB a0 ps leaf):=List.any_reverse;have hB:=hV a1.Where.reverse;rw[hr,←hV a1.Where]at hB;replace hB:=hB.trans he;rw[AhX (by decide),he,Aa,Cr,BZ (by omega) (by omega),X8 (by omega) a1.Where.length FA [] (AhY _) (by have:(1000001:Nat)≤FA:=Ah7 rfl; omega) (by simp; omega),Aa,Aa,MC 48 (by simp only[List.length_singleton]; omega) (by simp only[List.length_singleton]; omega),Aa,ht,Aa,List.take_length,AiC,hB,Aa,AhX (by simp)];by_cases h0:e=0
    ·subst h0;have hA:=hi.1 rfl;obtain⟨e2,he2,hi2⟩:=OT a0 ⟨a1.Path,[a5]++a1.Where⟩ a2 a3 hp;have:=hi2.2 (Ab5 hA (fun w hw=>List.mem_append_right _ hw));subst this;rw[AhZ (show((0:Int)==0)=true from rfl),he2,Aa,AhX (by decide)];by_cases h1:t.2=0
     ·obtain⟨q1,q2,q3,q4⟩:=t1 h1;obtain⟨e3,he3,hi3⟩:=OT t.1 a1 a2 a3 hp;have:=hi3.2 (by
       rw[q3]at q4⊢;exact Aeq hA q4 (Ab4 q2).2.2.1)
      subst this;rw[h1,show gu (!(((0:Int) !=0)||((0:Int) !=0))) (AA t.1 a1 a2 a3)=AA t.1 a1 a2 a3 from rfl,he3,Aa];rfl
     ·rw[show(t.2 !=0)=true from ne0 h1];show Ab (some default) _=_;rw[Aa];rfl
    ·have h0':(e !=0)=true:=ne0 h0;rw[AhX (by simpa using h0),h0',Bool.or_true];show Ab (some default) _=_;rw[Aa];rfl
end Go.Proofs.YtnhdojckpcbjeaaGreatDoor
end
