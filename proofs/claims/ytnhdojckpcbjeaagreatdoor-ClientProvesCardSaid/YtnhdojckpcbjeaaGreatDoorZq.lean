/- Several texts, one behind the other. Conditions: none. -/
import Derived.Test.YtnhdojckpcbjeaaGreatDoorZp
import Derived.Test.YtnhdojckpcbjeaaGreatDoorZi
import Derived.Test.YtnhdojckpcbjeaaGreatDoorZj
import Derived.Test.YtnhdojckpcbjeaaGreatDoorZk
import Derived.Test.YtnhdojckpcbjeaaGreatDoorZl
import Derived.Test.YtnhdojckpcbjeaaGreatDoorZm
import Derived.Test.YtnhdojckpcbjeaaGreatDoorZn
import Derived.KernelRfl
set_option linter.unusedSimpArgs false
set_option linter.unusedVariables false
set_option maxHeartbeats 20000000
set_option maxRecDepth 100000
section
namespace Go.Proofs.YtnhdojckpcbjeaaGreatDoor
open Go Go.Gw Go.Ax
def Aex {α:Type}(f:Nat→α→Int):Nat→List α→Int
 |_,[]=>0
 |i,x::l=>if f i x=0 then Aex f (i+1) l else f i x
theorem We {α:Type}(f:Nat→α→Int): ∀(l:List α) (i:Nat),Aex f i l=0↔∀k x,l[k]? =some x→f (i+k) x=0
 | [],i=>by simp[Aex]
 |x::l,i=>by
  unfold Aex;have ih:=We f l (i+1);constructor
  ·intro h k y hy;by_cases h0:f i x=0
   ·rw[Air h0]at h;cases k with
    |zero=>cases hy; exact h0
    |succ k=>
     have:=ih.1 h k y (by simpa using hy);rw[show i+(k+1)=i+1+k from by omega]; exact this
   ·rw[Aip h0]at h; exact absurd h h0
  ·intro h;have h0:f i x=0:=h 0 x rfl;rw[Air h0];refine ih.2 fun k y hy=> ?_;rw[show i+1+k=i+(k+1)from by omega];exact h (k+1) y (by simpa using hy)
def fsO (e:Int):Unit⊕Int:=if e=0 then .inl ()else .inr e
theorem Xn {e:Int}:(match fsO e with| .inr r=>some r| .inl _=>some 0:Option Int)=some e:=by
 unfold fsO;by_cases h:e=0
 ·rw[Air h,h]
 ·rw[Aip h]
theorem RU {α:Type}{body:Int→α→Unit→Option (Unit⊕Int)}(f:Nat→α→Int): ∀(l:List α) (i:Nat),(∀k x,l[k]? =some x→body ((i+k:Nat):Int) x ()=some (fsO (f (i+k) x)))→EZ body l (i:Int) ()=some (fsO (Aex f i l))
 | [],i,_=>rfl
 |x::l,i,h=>by
  have h0:=h 0 x rfl;show Ab (body (i:Int) x ()) _=_;rw[show body (i:Int) x ()=_ from h0];show _=some (fsO (if f i x=0 then _ else _));rw[Ajp,Aa];by_cases hz:f i x=0
  ·rw[Air hz,hz];refine RU f l (i+1) fun k y hy=> ?_;have:=h (k+1) y (by simpa using hy);rw[show i+1+k=i+(k+1)from by omega]; exact this
  ·rw[Aip hz];unfold fsO;rw[Aip hz]
theorem Wk {α:Type}{body:Int→Unit→Option (Unit⊕Int)}(f:Nat→α→Int)(l:List α)(h: ∀(k:Nat) (x:α),l[k]? =some x→body (k:Int) ()=some (fsO (f k x))): ∀(r:List α) (i:Nat),l.drop i=r→B4 body r.length (i:Int) ()=some (fsO (Aex f i r))
 | [],i,_=>rfl
 |x::r,i,hd=>by
  obtain⟨hc,hr,hlt⟩:=R3 hd;show Ab (body (i:Int) ()) _=_;rw[h i x hc];show _=some (fsO (if f i x=0 then _ else _));rw[Aa];by_cases hz:f i x=0
  ·rw[Air hz,hz];exact Wk f l h r (i+1) hr
  ·rw[Aip hz];unfold fsO;rw[Aip hz]
theorem O6 {α σ τ:Type}{body:Int→σ→Option (σ⊕τ)}(l:List α)(p:α→Bool)(s:σ)(g:Nat→τ)(h: ∀(k:Nat) (x:α),l[k]? =some x→body (k:Int) s=some (if p x=true then .inr (g k)else .inl s)):
  ∀(r:List α) (i:Nat),l.drop i=r→∃j,B4 body r.length (i:Int) s=some (if r.any p=true then .inr (g j)else .inl s)
 | [],i,_=>⟨0,rfl⟩
 |x::r,i,hd=>by
  obtain⟨hc,hr,hlt⟩:=R3 hd;show∃j,Ab (body (i:Int) s) _=_;rw[h i x hc,List.any_cons];cases hp:p x with
  |true=>exact⟨i,rfl⟩
  |false=>
   obtain⟨j,ih⟩:=O6 l p s g h r (i+1) hr;exact⟨j,ih⟩
theorem nn0 {e:Int}(h:e=0): ¬(e≠0):=fun k=>k h
theorem R1 (c:g_api_Cert):CM c=some (checkV c):=RY c
theorem b3_eq (i:Int)(c:g_api_Cert):Iu i c ()=some (fsO (checkV c)):=by
 unfold Iu fsO;rw[R1,Aa];by_cases h:checkV c=0
 ·rw[Air h,Aip (by simpa using h)]
 ·rw[Aip h,Air (by simpa using h)]
def sigV (p:UInt64)(m:List UInt8)(s:g_api_Sig):Int:=(EB p m s).getD 1
theorem sig_eq (p:UInt64){m:List UInt8}(s:g_api_Sig)(h:m.length≤600000):EB p m s=some (sigV p m s):=by
 obtain⟨e,he⟩:=Wr p s h;unfold sigV;rw[he]; rfl
def RJ (a b:g_api_Cert):Int:=if checkV a≠0 then checkV a else if checkV b≠0 then checkV b else if((!b.Ca)||(!eqS a.Issuer b.Subject))=true then 191 else if sigV b.Key (Qm a) a.Sig≠0 then 40 else 0
theorem AfD (a b:g_api_Cert):JQ a b=some (RJ a b):=by
 have e1:EZ Iu ([a,b]:List g_api_Cert) 0 ()=some (fsO (Aex (fun _ c=>checkV c) 0 [a,b])):=RU (fun _ c=>checkV c) [a,b] 0 fun k x _=>b3_eq _ x;unfold JQ RJ;rw[e1,Aa];show(match fsO (if checkV a=0 then(if checkV b=0 then 0 else checkV b)else checkV a)with| .inr r=>some r| .inl _=>_)=_;by_cases ha:checkV a=0
 ·rw[Air ha,Aip (nn0 ha)];by_cases hb:checkV b=0
  ·rw[Air hb,Aip (nn0 hb)];show(if((!b.Ca)||(!eqS a.Issuer b.Subject))=true then some 191 else _)=_;by_cases hc:((!b.Ca)||(!eqS a.Issuer b.Subject))=true
   ·rw[Air hc,Air hc]
   ·rw[Aip hc,Aip hc,AeV (okc ha),Aa];show Ab (EB b.Key (Qm a) a.Sig) _=_;rw[sig_eq _ _ (by have:=XI (okc ha); omega),Aa];by_cases hs:sigV b.Key (Qm a) a.Sig=0
    ·rw[Aip (show¬((sigV b.Key (Qm a) a.Sig !=0)=true)from by simpa using hs),Aip (nn0 hs)]
    ·rw[Air (show(sigV b.Key (Qm a) a.Sig !=0)=true from by simpa using hs),Air hs]
  ·rw[Aip hb,Air hb];unfold fsO; rw[Aip hb]
 ·rw[Aip ha,Air ha];unfold fsO; rw[Aip ha]
theorem Ab2 (s:ByteArray):Gn s=some (isB (toL s) 8 64):=by
 unfold Gn;rw[show CL s 8 64=some (isB (toL s) 8 64)from AbJ s 8 64 (by decide)];rfl
theorem Zx (s:ByteArray): ∃o st,DE s=some (o,st,isB (toL s) 8 64||Adr (toL s))∧(isB (toL s) 8 64=true→o=s∧st=false)∧(isB (toL s) 8 64=false→Adr (toL s)=true→o=s.extract 2 s.size∧st=true):=by
 have hz:(toL s).length=s.size:=Cc s;unfold DE;rw[Ab2,Aa];cases h1:isB (toL s) 8 64 with
 |true=>exact⟨s,false,rfl,fun _=>⟨rfl,rfl⟩,fun h=>(by cases h)⟩
 |false=>
  rw[Aip (by decide),Ai8];unfold Co Bj Bi;have e2:(((⟨#[42,46]⟩:ByteArray).size:Nat):Int)=2:=rfl;rw[e2];match hl:toL s with
  | []=>
   rw[hl,AiK]at hz;rw[Ai5 (show¬(s.size:Int)≥2 from by omega)];exact⟨_,_,rfl,fun h=>(by cases h),fun _ h=>(by cases h)⟩
  | [a]=>
   rw[hl,Ain,AiK]at hz;rw[Ai5 (show¬(s.size:Int)≥2 from by omega)];exact⟨_,_,rfl,fun h=>(by cases h),fun _ h=>(by cases h)⟩
  |a::b::r=>
   rw[hl,Ain,Ain]at hz;have ec:UZ s 0 2=some (s.extract 0 2):=IA (by omega) (by omega) (by omega);have el:(s.extract 0 2).data.toList=[a,b]:=by
    rw[O5];show((toL s).take 2).drop 0=_;rw[hl]; rfl
   have ee:eqS (s.extract 0 2) (⟨#[42,46]⟩:ByteArray)=(a==42&&b==46):=by
    unfold eqS;rw[el,Ajf];simp
   rw[AiG (show(s.size:Int)≥2 from by omega),Ab8,ec,Aa,DT,ee,Aa];show∃o st,_=some (o,st,(a==42&&b==46&&isB r 7 62))∧_∧(_→(a==42&&b==46&&isB r 7 62)=true→_);cases a==42&&b==46 with
   |false=>exact⟨_,_,rfl,fun h=>(by cases h),fun _ h=>(by cases h)⟩
   |true=>
    have ec2:UZ s 2 (s.size:Int)=some (s.extract 2 s.size):=by
     rw[IA (by omega) (by omega) (by omega)]; rfl
    have el2:(s.extract 2 s.size).data.toList=r:=by
     rw[O5];show((toL s).take s.size).drop 2=_;rw[Ai2 (by rw[hl,Ain,Ain]; omega),hl]; rfl
    rw[show(true&&true)=true from rfl,Aip (by decide),ec2,Aa,Aa,Aa];have en:=AbJ (s.extract 2 s.size) 7 62 (by decide);rw[el2]at en;have en:CL (s.extract 2 s.size) 7 62=some (isB r 7 62):=en;show∃o st,Ab (gu true (CL (s.extract 2 s.size) 7 62)) _=_∧_;rw[Ab8,en,Aa];exact⟨_,_,rfl,fun h=>(by cases h),fun _ _=>⟨rfl,rfl⟩⟩
def upV (s:ByteArray):ByteArray:=(Ic s).getD ⟨#[]⟩
theorem Adj (s:ByteArray):Ic s=some (upV s)∧(upV s=⟨#[]⟩∨(isB (toL s) 8 64=true∧∃p,toL s=p++46::toL (upV s)∧(46:UInt8)∉p)):=by
 have key: ∃u,Ic s=some u∧(u=⟨#[]⟩∨(isB (toL s) 8 64=true∧∃p,toL s=p++46::toL u∧(46:UInt8)∉p)):=by
  unfold Ic;rw[Ab2,Aa];cases h1:isB (toL s) 8 64 with
  |false=>exact⟨_,rfl,.inl rfl⟩
  |true=>
   have hz:(toL s).length=s.size:=Cc s;have hs:s.size≤64:=by
    unfold isB at h1;simp only[Aii,Ait]at h1;have:=h1.1.1; omega
   have hx:AZ s (⟨#[46]⟩:ByteArray)=some (AbY s 46):=by
    have h:=Wb s (by omega);unfold Cd at h;cases q:AZ s (⟨#[46]⟩:ByteArray)with
    |none=>rw[q]at h; cases h
    |some v=>rw[q]at h; exact h
   rw[Aip (by decide)];unfold LD DQ;rw[hx,Aa];rcases RN s.data.toList 46 with ⟨h2,h3⟩|⟨p,r,h2,h3,h4⟩
   ·rw[show AbY s 46= -1 from h2,Aip (by decide)];exact⟨_,rfl,.inl rfl⟩
   ·have hl:s.size=p.length+1+r.length:=by rw[←Cc,h2,Aio,Ain]; omega
    have e1:UZ s 0 (p.length:Int)=some (s.extract 0 p.length):=by
     rw[IA (by omega) (by omega) (by omega)]; rfl
    have e2:UZ s (w64 ((p.length:Int)+((⟨#[46]⟩:ByteArray).size:Int))) (s.size:Int)=some (s.extract (p.length+1) s.size):=by
     have:((⟨#[46]⟩:ByteArray).size:Int)=1:=rfl;rw[this,G2 (by omega) (by omega),IA (by omega) (by omega) (by omega)];rfl
    rw[show AbY s 46=(p.length:Int)from h4,Air (by rw[Ait]; omega),e1,Aa,e2,Aa,Aa,Aa];refine⟨_,rfl,.inr ⟨rfl,p,?_,h3⟩⟩;have l2:(s.extract (p.length+1) s.size).data.toList=r:=by
     rw[O5,←Cc,List.take_length,h2];rw[←Ajg,List.drop_left]; rfl
    show s.data.toList=_;rw[show toL (s.extract (p.length+1) s.size)=r from l2]; exact h2
 obtain⟨u,h,h'⟩:=key;have e:upV s=u:=by unfold upV; rw[h]; rfl
 rw[e]; exact⟨h,h'⟩
theorem up_lt (s:ByteArray):upV s=⟨#[]⟩∨(upV s).size<s.size:=by
 rcases(Adj s).2 with h|⟨_,p,h,_⟩
 ·exact .inl h
 ·refine .inr ?_;rw[←Cc,←Cc s];show(toL (upV s)).length<(toL s).length;rw[h,Aio,Ain]; omega
theorem up_64 (s:ByteArray):(upV s).size≤64:=by
 rcases(Adj s).2 with h|⟨h1,p,h,_⟩
 ·rw[h]; exact Ajj _
 ·unfold isB at h1;simp only[Aii,Ait]at h1;have:=h1.1.1;rw[h,Aio,Ain]at this;rw[←Cc];show(toL (upV s)).length≤64;omega
def belF:Nat→ByteArray→ByteArray→Bool
 |0,_,_=>false
 |n+1,s,o=>if eqS s ⟨#[]⟩=true then false else if eqS s o=true then true else belF n (upV s) o
def belV (s o:ByteArray):Bool:=belF 100 (upV s) o
theorem Aco (s:ByteArray)(h: ¬eqS s ⟨#[]⟩=true):1≤s.size:=by
 rcases Nat.eq_zero_or_pos s.size with q|q
 ·refine absurd (Of.2 ?_) h;exact ByteArray.ext (Array.eq_empty_of_size_eq_zero q)
 ·exact q
theorem TB (o:ByteArray): ∀(n:Nat) (s:ByteArray),s.size<n→
  ∃z,iter (Fy (fun(s:(Bool)×Nat) (b0:ByteArray)=>if s.2=0 then Ab (E8 o b0 s) fun y=>some (y.2==0,y)else none)) n (s,(false,0))=some (z,if belF n s o=true then(true,1)else(false,0))
 |0,s,h=>by omega
 |n+1,s,h=>by
  show∃z,Ab (Fy _ (s,(false,0))) _=_;unfold Fy belF;by_cases h1:eqS s ⟨#[]⟩=true
  ·rw[h1];exact⟨s,rfl⟩
  ·have h1':eqS s ⟨#[]⟩=false:=by simpa using h1
   rw[h1'];unfold E8;by_cases h2:eqS s o=true
   ·refine⟨s,?_⟩;simp only[h2];rfl
   ·have h2':eqS s o=false:=by simpa using h2
    have hlt:(upV s).size<n:=by
     have:=Aco s h1;rcases up_lt s with q|q
     ·rw[q]; show 0<n; omega
     ·omega
    obtain⟨z,ih⟩:=TB o n (upV s) hlt;refine⟨z,?_⟩;simp only[h2',if_true,if_false,Bool.false_eq_true,Aa,(Adj s).1];exact ih
theorem AeX (s o:ByteArray):Gp s o=some (belV s o):=by
 obtain⟨z,h⟩:=TB o 100 (upV s) (by have:=up_64 s; omega);unfold Gp LG JR;rw[Aa,(Adj s).1,Aa,LQ 100 h (by decide),Aa,Aa];unfold belV;cases belF 100 (upV s) o<;>rfl
def matV (p s:ByteArray):Bool:=isB (toL s) 8 64&&(if isB (toL p) 8 64=true then eqS p s else Adr (toL p)&&belV s (p.extract 2 p.size))
theorem Ad3 (p s:ByteArray):Jq p s=some (matV p s):=by
 obtain⟨o,st,h,h1,h2⟩:=Zx p;unfold Jq matV;rw[h,Aa,Ab2];cases q1:isB (toL p) 8 64 with
 |true=>
  obtain⟨rfl,rfl⟩:=h1 q1;rw[Bool.true_or];cases isB (toL s) 8 64<;>rfl
 |false=>
  rw[Ai8];cases q2:Adr (toL p)with
  |false=>cases isB (toL s) 8 64<;>rfl
  |true=>
   obtain⟨rfl,rfl⟩:=h2 q1 q2;cases isB (toL s) 8 64 with
   |false=>rfl
   |true=>
    show Ab (Gp s _) _=_;rw[AeX]; rfl
theorem Aea {α:Type}{l:List α}(h:l≠[])(hs:l.length≤1000): ∃x,l.getLast? =some x∧idx l (w64 ((l.length:Int)-1))=some x:=by
 have h1:1≤l.length:=List.length_pos_iff.2 h;refine⟨l.getLast h,List.getLast?_eq_some_getLast h,?_⟩;rw[G2 (by omega) (by omega)];have e:(l.length:Int)-1=((l.length-1:Nat):Int):=by omega
 rw[e];refine Jy ?_;rw[←List.getLast?_eq_getElem?,List.getLast?_eq_some_getLast h]
theorem AeM {α:Type}(a:α)(l:List α):cut (a::l) 1 ((a::l).length:Int)=some l:=by
 have h:=AhW [a] l;simpa using h
def timeB (c:g_api_Cert)(now:Int):Bool:=decide (c.From≤now)&&decide (c.Until>now)
theorem VE (t:g_path_trip)(c:g_api_Cert):Fw t c=some (timeB c t.now_):=rfl
def AfC (c:g_api_Cert)(n:ByteArray):Bool:=c.Permit.any fun p=>matV p n
theorem Zu (n:ByteArray)(c:g_api_Cert):E7 n c=some (!AfC c n,c):=by
 obtain⟨j,h⟩:=O6 (body:=A4 c.Permit) c.Permit (fun p=>matV p n) n (fun k=>((k:Int),n)) (fun k x hx=>by
  unfold A4 HB;rw[Jy hx,Aa,Ad3,Aa,Aa];cases matV x n<;>rfl) c.Permit 0 rfl
 have h:B4 (A4 c.Permit) c.Permit.length 0 n=_:=h;unfold E7 BR B2 AfC;rw[h,Aa];cases c.Permit.any fun p=>matV p n with
 |true=>
  show some (!decide ((j:Int)≥0),c)=_;rw[AiG (by omega)]
 |false=>rfl
theorem SF (l:List ByteArray)(c:g_api_Cert):A6 l c=some (l.any fun n=> !AfC c n,c):=by
 obtain⟨j,h⟩:=O6 (body:=A5 l) l (fun n=> !AfC c n) (c.Serial,c.Issuer,c.Subject,c.Key,c.Names,c.From,c.Until,c.Ca,c.Depth,c.Permit,c.Proms,c.Sig.E,c.Sig.S) (fun k=>((k:Int),c)) (fun k x hx=>by
  unfold A5;rw[Jy hx,Aa];show Ab (E7 x c) _=_;rw[Zu,Aa];cases AfC c x<;>rfl) l 0 rfl
 have h:B4 (A5 l) l.length 0 (c.Serial,c.Issuer,c.Subject,c.Key,c.Names,c.From,c.Until,c.Ca,c.Depth,c.Permit,c.Proms,c.Sig.E,c.Sig.S)=_:=h;unfold A6 B3;rw[h,Aa];cases l.any fun n=> !AfC c n with
 |true=>
  show some (decide ((j:Int)≥0),c)=_;rw[AiG (by omega)]
 |false=>rfl
def AgZ (names:List ByteArray)(i:Nat)(c:g_api_Cert):Int:=if c.Depth<(i:Int)then 191 else if 0<c.Permit.length∧(names.any fun n=> !AfC c n)=true then 110 else 0
def byV (chain:List g_api_Cert)(now:Int)(root:g_api_Cert):Int:=
 match chain with
 | []=>1
 |leaf::more=>
  let e:=RJ ((leaf::more).getLast (by simp)) root
  if e≠0 then e else if timeB root now=false then 190 else Aex (AgZ leaf.Names) 0 (more++[root])
theorem by_eq (roots:List g_api_Cert)(leaf:g_api_Cert)(more:List g_api_Cert)(name:ByteArray)(now:Int)(root:g_api_Cert)(hn:more.length≤100):
  GK ⟨roots,leaf::more,name,now⟩ root=some (byV (leaf::more) now root):=by
 obtain⟨x,hx,hi⟩:=Aea (l:=leaf::more) (by simp) (by simp; omega);have hx:(leaf::more).getLast (by simp)=x:=by rw[List.getLast?_eq_some_getLast (by simp)]at hx; exact Aih hx
 unfold GK byV;simp only[hx];show Ab (idx (leaf::more) (w64 (((leaf::more).length:Int)-1))) _=_;rw[hi,Aa,AfD,Aa];by_cases h1:RJ x root=0
 ·rw[Aip (show¬((RJ x root !=0)=true)from by simpa using h1),Aip (nn0 h1),VE,Aa];show(if(!timeB root now)=true then some 190 else _)=_;cases timeB root now with
  |false=>rfl
  |true=>
   rw[Aip (by decide),Aip (by decide)];have ec:cut (leaf::more) 1 ((leaf::more).length:Int)=some more:=AeM leaf more;show Ab (cut (leaf::more) 1 ((leaf::more).length:Int)) _=_;rw[ec,Aa];unfold AY;rw[Vc 168 (by simp; omega) (by simp; omega),Aa,Aa,Ai9,Vc 168 (by simp; omega) (by simp; omega),Aa];have e:=Wk (body:=Gj ⟨roots,leaf::more,name,now⟩ (more++[root])) (AgZ leaf.Names) (more++[root]) (fun k c hc=>by
    unfold Gj;rw[Jy hc,Aa,DT];unfold AgZ;by_cases h2:c.Depth<(k:Int)
    ·rw[Air h2,Air (by simpa using h2)]; rfl
    ·rw[Aip h2,Aip (by simpa using h2)];by_cases h3:0<c.Permit.length
     ·rw[Air (by rw[Ait]; omega)];show Ab (some leaf) _=_;rw[Aa,SF,Aa];cases leaf.Names.any fun n=> !AfC c n with
      |true=>rw[Air rfl,Air ⟨h3,rfl⟩]; rfl
      |false=>rw[Aip (by simp),Aip (by simp)]; rfl
     ·rw[Aip (by rw[Ait]; omega),Aip (by simp[h3])]; rfl) (more++[root]) 0 rfl
   have e:B4 (Gj ⟨roots,leaf::more,name,now⟩ (more++[root])) (more++[root]).length 0 ()=_:=e;rw[e,Aa];exact Xn
 ·rw[Air (show(RJ x root !=0)=true from by simpa using h1),Air h1]
def Pb (roots chain:List g_api_Cert)(name:ByteArray)(now:Int):Int:=if chain.length=0∨4<chain.length∨16<roots.length∨now<0∨now>1099511627776 then 1 else nameV name
def caB:Nat→List g_api_Cert→Bool
 |_,[]=>true
 |i,c::r=>(c.Ca==decide (0<i))&&caB (i+1) r
def Qi (chain:List g_api_Cert)(name:ByteArray)(now:Int):Int:=if caB 0 chain=false then 191 else match chain with| []=>1|leaf::_=>if(leaf.Names.any fun s=>eqS name s)=false then 110 else if(chain.any fun c=> !timeB c now)=true then 190 else 0
def linksV:List g_api_Cert→Int
 |a::b::r=>if RJ a b≠0 then RJ a b else linksV (b::r)
 |_=>0
def SV (chain:List g_api_Cert)(now:Int)(roots:List g_api_Cert):Int:=if(roots.any fun r=>byV chain now r==0)=true then 0 else match roots with| []=>191|r::_=>byV chain now r
def ZN (l:List g_api_Cert):Int:=Aex (fun _ c=>checkV c) 0 l
def AdO (roots chain:List g_api_Cert)(name:ByteArray)(now:Int):Int:=if Pb roots chain name now≠0 then Pb roots chain name now else if ZN (chain++roots)≠0 then ZN (chain++roots)else if Qi chain name now≠0 then Qi chain name now else if linksV chain≠0 then linksV chain else SV chain now roots
theorem ZY (n r:Nat)(now:Int):((((((n:Int)==0)||(decide ((n:Int)>4)))||(decide ((r:Int)>16)))||(decide (now<0)))||(decide (now>1099511627776)))=decide (n=0∨4<n∨16<r∨now<0∨now>1099511627776):=by
 rw[Ajf];simp only[Ai3,Ait,Ai6];have e1:(n:Int)=0↔n=0:=by omega
 have e2:(n:Int)>4↔4<n:=by omega
 have e3:(r:Int)>16↔16<r:=by omega
 rw[e1,e2,e3,or_assoc,or_assoc,or_assoc]
theorem AcM (t:g_path_trip):Fx t=some (Pb t.roots_ t.chain_ t.name_ t.now_):=by
 obtain⟨ro,ch,nm,nw⟩:=t;unfold Fx Pb;dsimp only;rw[UE,Aa,ZY];by_cases h:ch.length=0∨4<ch.length∨16<ro.length∨nw<0∨nw>1099511627776
 ·rw[Air h,Air (AiG h)]
 ·rw[Aip h,Aip (fun q=>h (AiO q))]
theorem Aer (n:Nat)(h:n≤10000):A1 (n:Int)=some []:=by
 unfold A1;rw[Ai5 (show¬((n:Int)<0)from by omega),Aip (by decide),Aa,DT];have e0:w64 (0-((0:Nat):Int))=0:=G2 (by decide) (by decide);have e1:w64 ((n:Int)-w64 (0-((0:Nat):Int)))=(n:Int):=by
  rw[e0,Int.sub_zero];exact G2 (by omega) (by omega)
 rw[e1];by_cases h0:n=0
 ·rw[Ai5 (show¬((n:Int)>0)from by omega),Aip (by decide),Aa]
 ·rw[AiG (show(n:Int)>0 from by omega),Air rfl,Air ⟨by omega,by omega,by omega⟩,Aa]
theorem Ags (a b:List g_api_Cert)(ha:a.length≤1000)(hb:b.length≤1000):DA Ay ([a,b]:List (List g_api_Cert)) 0 0=some ((a.length+b.length:Nat):Int):=by
 have e: ∀(n:Nat) (i:Int) (x:List g_api_Cert),n+x.length≤10000→Ay i x (n:Int)=some ((n+x.length:Nat):Int):=by
  intro n i x h;have e1:w64 ((n:Int)+(x.length:Int))=((n+x.length:Nat):Int):=by
   rw[G2 (by omega) (by omega)]; exact(Int.natCast_add _ _).symm
  unfold Ay;rw[DT,e1,Ai5 (show¬(((n+x.length:Nat):Int)<0)from by omega),Aip (by decide),Aa]
 have e0:=e 0 0 a (by omega);have e1:=e a.length (0+1) b (by omega);rw[AiS]at e0;show Ab (Ay 0 a ((0:Nat):Int)) (fun s=>Ab (Ay (0+1) b s) fun s=>some s)=_;rw[e0,Aa,e1,Aa]
theorem AcC (a b:List g_api_Cert)(ha:a.length≤1000)(hb:b.length≤1000):AW ([a,b]:List (List g_api_Cert))=some (a++b):=by
 unfold AW;rw[Ags a b ha hb,Aa,Aa,Aer _ (by omega),Aa];have e:DA AF ([a,b]:List (List g_api_Cert)) 0 []=some (a++b):=by
  show Ab (AF 0 a []) (fun s=>Ab (AF (0+1) b s) fun s=>some s)=_;unfold AF;rw[Vc 168 (by simp; omega) (by simp; omega),Aa,Aa,Ai9,Vc 168 (by omega) (by omega),Aa,Aa]
 rw[e,Aa,Aa]
theorem VT (t:g_path_trip)(ha:t.chain_.length≤1000)(hb:t.roots_.length≤1000):GW t=some (ZN (t.chain_++t.roots_)):=by
 unfold GW;rw[AcC _ _ ha hb,Aa];have e:=RU (body:=EP) (fun _ c=>checkV c) (t.chain_++t.roots_) 0 (fun k x _=>by
  unfold EP;rw[R1,Aa];unfold fsO;by_cases h:checkV x=0
  ·rw[Air h,Aip (by simpa using h)]
  ·rw[Aip h,Air (by simpa using h)])
 have e:EZ EP (t.chain_++t.roots_) 0 ()=_:=e;rw[e,Aa];exact Xn
theorem Tk (t:g_path_trip): ∀(r:List g_api_Cert) (i:Nat) (s:Bool),t.chain_.drop i=r→B4 (CK t) r.length (i:Int) s=some (if caB i r=true then .inl (s||r.any fun c=> !timeB c t.now_)else .inr 191)
 | [],i,s,_=>by show some (Sum.inl s)=_; simp[caB]
 |c::r,i,s,hd=>by
  obtain⟨hc,hr,hlt⟩:=R3 hd;have ih:=Tk t r (i+1) (s|| !timeB c t.now_) hr;show Ab (CK t (i:Int) s) _=_;have e:CK t (i:Int) s=some (if(c.Ca==decide (0<i))=true then .inl (s|| !timeB c t.now_)else .inr 191):=by
   unfold CK;rw[Jy hc,Aa,VE];have ed:decide ((i:Int)>0)=decide (0<i):=by rw[Ajl]; omega
   rw[ed];cases s with
   |true=>
    show Ab (some default) _=_;rw[Aa];cases c.Ca==decide (0<i)<;>rfl
   |false=>
    show Ab (some (timeB c t.now_)) _=_;rw[Aa];cases c.Ca==decide (0<i)<;>rfl
  rw[e];unfold caB;cases c.Ca==decide (0<i)with
  |false=>rfl
  |true=>
   rw[Air rfl,Aa,AiW,List.any_cons,←Bool.or_assoc];exact ih
theorem has_eq (l:List ByteArray)(n:ByteArray):BZ l n=some (l.any fun s=>eqS n s):=by
 obtain⟨j,h⟩:=O6 (body:=BY l n) l (fun s=>eqS n s) () (fun k=>(k:Int)) (fun k x hx=>by
  unfold BY;rw[Jy hx,Aa];cases eqS n x<;>rfl) l 0 rfl
 have h:B4 (BY l n) l.length 0 ()=_:=h;unfold BZ Di;rw[h,Aa];cases l.any fun s=>eqS n s with
 |true=>
  show some (decide ((j:Int)≥0))=_;rw[AiG (by omega)]
 |false=>rfl
theorem Aed (t:g_path_trip)(h:t.chain_≠[]):Gi t=some (Qi t.chain_ t.name_ t.now_):=by
 unfold Gi Qi;rw[show B4 (CK t) t.chain_.length 0 false=_ from Tk t t.chain_ 0 false rfl,Aa];cases caB 0 t.chain_ with
 |false=>rfl
 |true=>
  rw[Air rfl,Aip (by decide)];cases hl:t.chain_ with
  |nil=>exact absurd hl h
  |cons leaf more=>
   show Ab (some leaf) _=_;rw[Aa,has_eq,Aa,Ai8];show _=some (if(leaf.Names.any fun s=>eqS t.name_ s)=false then 110 else _);cases leaf.Names.any fun s=>eqS t.name_ s with
   |false=>rfl
   |true=>
    cases (leaf::more).any fun c=> !timeB c t.now_<;>rfl
theorem Te (t:g_path_trip)(hn:t.chain_.length≤1000): ∀(r:List g_api_Cert) (a:g_api_Cert) (i:Nat),t.chain_.drop i=a::r→B4 (CJ t) r.length (i:Int) ()=some (fsO (linksV (a::r)))
 | [],a,i,_=>rfl
 |b::r,a,i,hd=>by
  obtain⟨ha,hr,hlt⟩:=R3 hd;obtain⟨hb,hr2,hlt2⟩:=R3 hr;have ih:=Te t hn r b (i+1) hr;show Ab (CJ t (i:Int) ()) _=_;have e:CJ t (i:Int) ()=some (fsO (RJ a b)):=by
   unfold CJ fsO;rw[Jy ha,Aa,Agj (by omega),Jy hb,Aa,AfD,Aa];by_cases h:RJ a b=0
   ·rw[Air h,Aip (by simpa using h)]
   ·rw[Aip h,Air (by simpa using h)]
  rw[e,Aa];unfold linksV;by_cases h:RJ a b=0
  ·rw[Aip (nn0 h),h];exact ih
  ·rw[Air h];unfold fsO;rw[Aip h]
theorem Ad8 (t:g_path_trip)(h:t.chain_≠[])(hn:t.chain_.length≤1000):Gh t=some (linksV t.chain_):=by
 unfold Gh;cases hl:t.chain_ with
 |nil=>exact absurd hl h
 |cons a r=>
  have e1:Int.toNat (w64 (((a::r).length:Int)-1))=r.length:=by
   rw[hl,Ain]at hn;have e0:((a::r).length:Int)-1=(r.length:Int):=by simp
   rw[e0,G2 (by omega) (by omega),Ajk]
  rw[e1,show B4 (CJ t) r.length 0 ()=_ from Te t hn r a 0 hl,Aa];exact Xn
theorem P5 (t:g_path_trip)(hc:t.chain_≠[])(hn:t.chain_.length≤100)(hr:t.roots_.length≤1000): ∀(i n:Nat) (e:Int),i≤t.roots_.length→i<n→
  iter (B9 t) n (e,(i:Int)-1)=some (if((t.roots_.take i).any fun r=>byV t.chain_ t.now_ r==0)=true then .inr 0 else .inl (match t.roots_.take i with| []=>e|r::_=>byV t.chain_ t.now_ r))
 |0,n,e,_,hn0=>by
  obtain⟨n,rfl⟩: ∃q,n=q+1:=⟨n-1,by omega⟩;rfl
 |i+1,n,e,hi,hn0=>by
  obtain⟨n,rfl⟩: ∃q,n=q+1:=⟨n-1,by omega⟩;have hlt:i<t.roots_.length:=by omega
  have hx:t.roots_[i]? =some t.roots_[i]:=AiN hlt;have eb:GK t t.roots_[i]=some (byV t.chain_ t.now_ t.roots_[i]):=by
   obtain⟨ro,ch,nm,nw⟩:=t;cases ch with
   |nil=>exact absurd rfl hc
   |cons a r=>exact by_eq _ a r _ _ _ (by simp only[Ain]at hn; omega)
  have e1:((i+1:Nat):Int)-1=(i:Int):=by omega
  rw[e1];show Ab (B9 t (e,(i:Int))) _=_;have es:B9 t (e,(i:Int))=some (if(byV t.chain_ t.now_ t.roots_[i]==0)=true then .inr (.inr 0)else .inl (byV t.chain_ t.now_ t.roots_[i],(i:Int)-1)):=by
   unfold B9;rw[Air (by rw[Ait]; show(i:Int)≥0; omega)];show Ab (idx t.roots_ (i:Int)) _=_;rw[Jy hx,Aa,eb,Aa];cases byV t.chain_ t.now_ t.roots_[i]==0 with
   |true=>rfl
   |false=>
    rw[Aip (by decide),Aip (by decide)];show some (Sum.inl (_,w64 ((i:Int)-1)))=_;rw[G2 (by omega) (by omega)]
  rw[es,Aa];have et:t.roots_.take (i+1)=t.roots_.take i++[t.roots_[i]]:=by rw[List.take_add_one,hx]; rfl
  rw[et,List.any_append];have ih:=P5 t hc hn hr i n (byV t.chain_ t.now_ t.roots_[i]) (by omega) (by omega);cases hb:byV t.chain_ t.now_ t.roots_[i]==0 with
  |true=>
   rw[Air rfl];have:(([t.roots_[i]]:List g_api_Cert).any fun r=>byV t.chain_ t.now_ r==0)=true:=by simp[hb]
   rw[this,Bool.or_true,Air rfl]
  |false=>
   rw[Aip (by decide)];show iter (B9 t) n (_,(i:Int)-1)=_;rw[ih];have:(([t.roots_[i]]:List g_api_Cert).any fun r=>byV t.chain_ t.now_ r==0)=false:=by simp[hb]
   rw[this,Bool.or_false];cases (t.roots_.take i).any fun r=>byV t.chain_ t.now_ r==0 with
   |true=>rfl
   |false=>cases t.roots_.take i<;>rfl
theorem Zi (t:g_path_trip)(hc:t.chain_≠[])(hn:t.chain_.length≤100)(hr:t.roots_.length≤1000):EO t=some (SV t.chain_ t.now_ t.roots_):=by
 unfold EO SV;rw[DT,G2 (by omega) (by omega),P5 t hc hn hr t.roots_.length Ey 191 (Aiq _) (by have:=KC; omega),Aa,List.take_length];cases t.roots_.any fun r=>byV t.chain_ t.now_ r==0 with
 |true=>rfl
 |false=>cases t.roots_<;>rfl
theorem row_b1 (x:Fp)(i e:Int)(h:GN x=some e):Gk i x ()=some (fsO e):=by
 unfold Gk fsO;rw[h,Aa];by_cases h:e=0
 ·rw[Air h,Aip (by simpa using h)]
 ·rw[Aip h,Air (by simpa using h)]
theorem OM (x:Fp)(l:List Fp)(i e:Int)(h:GN x=some e):EZ Gk (x::l) i ()=if e≠0 then some (.inr e)else EZ Gk l (i+1) ():=by
 show Ab (Gk i x ()) _=_;rw[row_b1 x i e h,Aa];unfold fsO;by_cases h:e=0
 ·rw[Air h,Aip (by simpa using h)]
 ·rw[Aip h,Air h]
theorem Uy (roots chain:List g_api_Cert)(name:ByteArray)(now:Int):m_path_Check roots chain name now=some (AdO roots chain name now):=by
 unfold m_path_Check PJ AdO;generalize ht:(⟨roots,chain,name,now⟩:g_path_trip)=t;have h1:t.roots_=roots:=by rw[←ht]
 have h2:t.chain_=chain:=by rw[←ht]
 have h3:t.name_=name:=by rw[←ht]
 have h4:t.now_=now:=by rw[←ht]
 have d1:GN ⟨72,t⟩=some (Pb roots chain name now):=by rw[←h1,←h2,←h3,←h4]; exact AcM t
 rw[OM _ _ _ _ d1];by_cases z1:Pb roots chain name now=0
 ·have hb: ¬(chain.length=0∨4<chain.length∨16<roots.length∨now<0∨now>1099511627776):=by
   intro h;unfold Pb at z1;rw[Air h]at z1;cases z1
  have hne:chain≠[]:=fun h=>hb (.inl (by rw[h]; rfl));have d2:GN ⟨73,t⟩=some (ZN (chain++roots)):=by rw[←h1,←h2]; exact VT t (by rw[h2]; omega) (by rw[h1]; omega)
  have d3:GN ⟨74,t⟩=some (Qi chain name now):=by rw[←h2,←h3,←h4]; exact Aed t (by rw[h2]; exact hne)
  have d4:GN ⟨75,t⟩=some (linksV chain):=by rw[←h2]; exact Ad8 t (by rw[h2]; exact hne) (by rw[h2]; omega)
  have d5:GN ⟨76,t⟩=some (SV chain now roots):=by rw[←h1,←h2,←h4]; exact Zi t (by rw[h2]; exact hne) (by rw[h2]; omega) (by rw[h1]; omega)
  rw[Aip (nn0 z1),Aip (nn0 z1),OM _ _ _ _ d2];by_cases z2:ZN (chain++roots)=0
  ·rw[Aip (nn0 z2),Aip (nn0 z2),OM _ _ _ _ d3];by_cases z3:Qi chain name now=0
   ·rw[Aip (nn0 z3),Aip (nn0 z3),OM _ _ _ _ d4];by_cases z4:linksV chain=0
    ·rw[Aip (nn0 z4),Aip (nn0 z4),OM _ _ _ _ d5];by_cases z5:SV chain now roots=0
     ·rw[Aip (nn0 z5),z5]; rfl
     ·rw[Air z5]; rfl
    ·rw[Air z4,Air z4]; rfl
   ·rw[Air z3,Air z3]; rfl
  ·rw[Air z2,Air z2]; rfl
 ·rw[Air z1,Air z1]; rfl
structure Aga (roots:List g_api_Cert)(leaf:g_api_Cert)(more:List g_api_Cert)(name:ByteArray)(now:Int):Prop where
 len:more.length≤3
 rts:roots.length≤16
 now0:0≤now
 nowM:now≤1099511627776
 nam:nameV name=0
 all: ∀c∈leaf::more++roots,checkV c=0
 kin:caB 0 (leaf::more)=true
 has:(leaf.Names.any fun s=>eqS name s)=true
 tim: ∀c∈leaf::more,timeB c now=true
 lnk:linksV (leaf::more)=0
theorem AdN {roots chain:List g_api_Cert}{name:ByteArray}{now:Int}(h:Pb roots chain name now=0)(h2:ZN (chain++roots)=0)(h3:Qi chain name now=0)(h4:linksV chain=0):
  ∃leaf more,chain=leaf::more∧Aga roots leaf more name now:=by
 unfold Pb at h;split at h
 ·cases h
 rename_i hb;cases chain with
 |nil=>exact absurd (.inl rfl) hb
 |cons leaf more=>
  refine⟨leaf,more,rfl,?_⟩;unfold Qi at h3;split at h3
  ·cases h3
  rename_i hk;have h3:(if(leaf.Names.any fun s=>eqS name s)=false then(110:Int)else if((leaf::more).any fun c=> !timeB c now)=true then 190 else 0)=0:=h3;split at h3
  ·cases h3
  rename_i hh;split at h3
  ·cases h3
  rename_i ht;have ha:=(We _ _ _).1 h2;refine⟨?_,by omega,by omega,by omega,h,?_,by simpa using hk,by simpa using hh,?_,h4⟩
  ·simp only[Ain]at hb; omega
  ·intro c hc;obtain⟨k,hk⟩:=List.mem_iff_getElem?.1 hc;exact ha k c hk
  ·intro c hc;cases q:timeB c now with
   |true=>rfl
   |false=>exact absurd (Ajn.2 ⟨c,hc,by rw[q]; rfl⟩) ht
theorem PG {roots chain:List g_api_Cert}{name:ByteArray}{now:Int}(h:AdO roots chain name now=0): ∃leaf more,chain=leaf::more∧Aga roots leaf more name now∧SV (leaf::more) now roots=0:=by
 unfold AdO at h;split at h
 ·contradiction
 split at h
 ·contradiction
 split at h
 ·contradiction
 split at h
 ·contradiction
 rename_i h1 h2 h3 h4;obtain⟨leaf,more,rfl,hp⟩:=AdN (by simpa using h1) (by simpa using h2) (by simpa using h3) (by simpa using h4);exact⟨leaf,more,rfl,hp,h⟩
end Go.Proofs.YtnhdojckpcbjeaaGreatDoor
end
section
namespace Go.Proofs.YtnhdojckpcbjeaaGreatDoor
open Go Go.Gw Go.Ax
theorem AdY {b:List UInt8}(h:b.length≤3000):D2 b=some (Afm (⟨#[108,101,97,102]⟩:ByteArray) [b]):=by
 unfold D2;rw[OI _ _ (by simp[Ac3]; omega)];rfl
theorem AeU {c:g_api_Cert}(h:Okc c):m_cert_Leaf c=some (Afm (⟨#[108,101,97,102]⟩:ByteArray) [Zv c],0):=by
 unfold m_cert_Leaf;have:=Afn h;rw[Ah6 h,Aa,Aip (by simp)];show Ab (D2 (Zv c)) _=_;rw[AdY (by omega)];rfl
end Go.Proofs.YtnhdojckpcbjeaaGreatDoor
end
section
namespace Go.Proofs.YtnhdojckpcbjeaaGreatDoor
open Go Go.Gw Go.Ax
theorem Tr {α σ τ:Type}{body:Int→σ→Option (σ⊕τ)}(xs:List α)(p:α→Bool)(s:σ)(g:Nat→τ)(h: ∀(i:Nat) (x:α),xs[i]? =some x→body (i:Int) s=some (if p x=true then .inr (g i)else .inl s)):
  ∀(k i:Nat),i+k=xs.length→∃r,B4 body k (i:Int) s=some r∧((∃(j:Nat) (x:α),xs[j]? =some x∧p x=true∧r= .inr (g j))∨((∀x∈xs.drop i,p x=false)∧r= .inl s))
 |0,i,hi=>⟨.inl s,rfl,.inr ⟨(fun x hx=>by rw[Ai0 (by omega)]at hx; cases hx),rfl⟩⟩
 |k+1,i,hi=>by
  have hx:xs[i]? =some xs[i]:=AiN (by omega);show∃r,Ab (body (i:Int) s) _=_∧_;rw[h i _ hx];cases hp:p xs[i]with
  |true=>exact⟨_,rfl,.inl ⟨i,_,hx,hp,rfl⟩⟩
  |false=>
   obtain⟨r,h1,h2⟩:=Tr xs p s g h k (i+1) (by omega);refine⟨r,h1,?_⟩;rcases h2 with q|⟨q,e⟩
   ·exact .inl q
   ·refine .inr ⟨fun x hx'=> ?_,e⟩;rw[List.drop_eq_getElem_cons (by omega)]at hx';rcases AiR.1 hx' with w|w
    ·rw[w]; exact hp
    ·exact q x w
theorem Io {α σ τ:Type}{body:Int→σ→Option (σ⊕τ)}(xs:List α)(p:α→Bool)(s:σ)(g:Nat→τ)(h: ∀(i:Nat) (x:α),xs[i]? =some x→body (i:Int) s=some (if p x=true then .inr (g i)else .inl s)):
  ∃r,B4 body xs.length 0 s=some r∧((∃(j:Nat) (x:α),xs[j]? =some x∧p x=true∧r= .inr (g j))∨(xs.any p=false∧r= .inl s)):=by
 obtain⟨r,h1,h2⟩:=Tr xs p s g h xs.length 0 (by omega);refine⟨r,h1,?_⟩;rcases h2 with q|⟨q,e⟩
 ·exact .inl q
 ·exact .inr ⟨List.any_eq_false.2 fun x hx=>by rw[q x (by simpa using hx)]; decide,e⟩
theorem Y0 {α:Type}{xs:List α}{p:α→Bool}{j:Nat}{x:α}(h:xs[j]? =some x)(hp:p x=true):xs.any p=true:=Ajn.2 ⟨x,AiT h,hp⟩
theorem Aep {α:Type} [Inhabited α]{o:Option α}:gu true o=o:=rfl
theorem ge0 (j:Nat):decide ((j:Int)≥0)=true:=AiG (by omega)
theorem Ah7 (k:UInt64): ∃b,F0 k=some b:=by
 unfold F0;obtain⟨x,hx⟩:=M9 ((decide ((k.toNat:Int)>0))&&(decide ((k.toNat:Int)<2305843009213691579))) (o:=EF k 1152921504606845789) ⟨_,Yi _ _⟩;rw[hx,Aa];exact⟨_,rfl⟩
theorem XA (n:Int):CE n=some (decide (0≤n)&&decide (n≤1099511627776)):=rfl
theorem VO (l:List g_api_Cert): ∃b,AJ l=some b:=by
 unfold AJ BN;obtain⟨r,h1,h2⟩:=Io (body:=Bx l) l (fun c=>(!c.Ca)||((if c.Ca=true then checkV c else default) !=0)) () (fun i=>(i:Int)) (fun i x hx=>by
  unfold Bx F4;rw[CG hx,Aa];have:gu (!(!x.Ca)) (CM x)=some (if x.Ca=true then checkV x else default):=by
   rw[R1]; cases x.Ca<;>rfl
  rw[this,Aa,Aa];cases ((!x.Ca)||((if x.Ca=true then checkV x else default) !=0))<;>rfl)
 rw[h1,Aa];cases r<;>exact⟨_,rfl⟩
theorem Agi (l:List UInt8): ∃b,Bu l=some b:=by
 unfold Bu Cz;obtain⟨r,h1,h2⟩:=Io (body:=Ce l) l (fun c=>(decide ((c.toNat:Int)<33))||(decide ((c.toNat:Int)>126))) () (fun i=>(i:Int)) (fun i x hx=>by
  unfold Ce F5;rw[CG hx,Aa,CI,Aa];cases ((decide ((x.toNat:Int)<33))||(decide ((x.toNat:Int)>126)))<;>rfl)
 rw[h1,Aa];cases r<;>exact⟨_,rfl⟩
theorem keysB: ∀(l:List g_api_Key) (i s:Int),∃r,EZ DL l i s=some r
 | [],i,s=>⟨_,rfl⟩
 |x::l,i,s=>by
  show∃r,Ab (DL i x s) _=_;unfold DL;obtain⟨a,ha⟩:=M9 (!(decide (x.Log≤s))) (o:=CE x.Log) ⟨_,XA _⟩;rw[ha,Aa];obtain⟨b,hb⟩:=M9 (!((decide (x.Log≤s))||(!a))) (o:=CE x.Delay) ⟨_,XA _⟩;rw[hb,Aa];obtain⟨c,hc⟩:=M9 (!(((decide (x.Log≤s))||(!a))||(!b))) (Ah7 x.Key);rw[hc,Aa];split
  ·exact⟨_,rfl⟩
  ·exact keysB l (i+1) _
theorem Ad4 (a:Ak): ∃e,DG a=some e:=by
 unfold DG;split
 ·obtain⟨b,hb⟩:=M9 (!((true||((a.Client.Roots.length:Int)==0))||(decide ((a.Client.Roots.length:Int)>8)))) (VO a.Client.Roots);rw[hb,Aa];exact⟨_,Air (by simp)⟩
 ·rename_i hw;have hl:a.Client.Who.data.toList.length≤64:=by
   rw[Ai3,not_or]at hw;have h2:=hw.2;rw[Ait]at h2;have:a.Client.Who.size≤64:=by omega
   exact this
  rw[Pe 1 (by simp only[AiK]; omega) (by simp only[AiK]; omega),Aa];obtain⟨b,hb⟩:=Agi ([]++a.Client.Who.data.toList);rw[hb,Aa];obtain⟨d,hd⟩:=M9 (!((b||((a.Client.Roots.length:Int)==0))||(decide ((a.Client.Roots.length:Int)>8)))) (VO a.Client.Roots);rw[hd,Aa];split
  ·exact⟨_,rfl⟩
  ·obtain⟨r,hr⟩:=keysB a.Client.Logs 0 (-1);rw[hr,Aa];cases r with
   |inr r=>exact⟨_,rfl⟩
   |inl y=>
    dsimp only;split<;>exact⟨_,rfl⟩
theorem first3 {z:Ak}{e1 e2 e3:Int}(h1:DG z=some e1)(h2:Dg z=some e2)(h3:DH z=some e3):
  Dc z=some (if e1≠0 then e1 else if e2≠0 then e2 else e3):=by
 unfold Dc;have b0:AG z 0 ()=some (if e1≠0 then .inr e1 else .inl ()):=by
  unfold AG;rw[Air rfl,h1,Aa];by_cases h:e1=0
  ·rw[Aip (by simp[h]),Aip (fun k=>k h)]
  ·rw[Air (by simpa using h),Air h]
 have b1:AG z 1 ()=some (if e2≠0 then .inr e2 else .inl ()):=by
  unfold AG;rw[Aip (by decide),Air rfl,h2,Aa];by_cases h:e2=0
  ·rw[Aip (by simp[h]),Aip (fun k=>k h)]
  ·rw[Air (by simpa using h),Air h]
 have b2:AG z 2 ()=some (if e3≠0 then .inr e3 else .inl ()):=by
  unfold AG;rw[Aip (by decide),Aip (by decide),h3,Aa];by_cases h:e3=0
  ·rw[Aip (by simp[h]),Aip (fun k=>k h)]
  ·rw[Air (by simpa using h),Air h]
 show Ab (Ab (AG z 0 ()) _) _=_;rw[b0,Aa];by_cases q1:e1=0
 ·rw[Aip (fun k=>k q1),Aip (fun k=>k q1)];show Ab (Ab (AG z 1 ()) _) _=_;rw[b1,Aa];by_cases q2:e2=0
  ·rw[Aip (fun k=>k q2),Aip (fun k=>k q2)];show Ab (Ab (AG z 2 ()) _) _=_;rw[b2,Aa];by_cases q3:e3=0
   ·rw[Aip (fun k=>k q3),q3]; rfl
   ·rw[Air q3]; rfl
  ·rw[Air q2,Air q2]; rfl
 ·rw[Air q1,Air q1]; rfl
theorem ZV (c:g_api_Client): ∃e,m_client_Check c=some e:=by
 obtain⟨e1,h1⟩:=Ad4 ⟨c⟩;obtain⟨e3,h3⟩:=Tx c.Cascade;unfold m_client_Check;rw[first3 h1 (show Dg ⟨c⟩=some (XC c.Pool.L c.Logs)from by unfold Dg; rw[Acf]; rfl) (show DH ⟨c⟩=some e3 from by unfold DH; rw[h3]; rfl)];exact⟨_,rfl⟩
theorem AcA (k:g_api_Key)(p:g_api_Promise): ∃e,Cq k p=some e:=by
 unfold Cq;rw[Rz,Aa,VU,Aa];obtain⟨e,he⟩:=Ro k p.Log (Abz p.At) p.Sig (Abj p);rw[he,Aa];exact⟨_,rfl⟩
def cpV (k:g_api_Key)(p:g_api_Promise):Int:=(Cq k p).getD 1
theorem cp_eq (k:g_api_Key)(p:g_api_Promise):Cq k p=some (cpV k p):=by
 obtain⟨e,he⟩:=AcA k p;unfold cpV; rw[he]; rfl
def ZS (ks:List g_api_Key)(leaf:UInt64×UInt64)(p:g_api_Promise):Bool:=ks.any fun k=>((k.Log==p.Log)&&(cpV k p==0))&&(Mn p.Leaf leaf)
theorem Ahl (ks:List g_api_Key)(p:g_api_Promise): ∃n:Int,Ba ks p=some (n,p)∧((∃(j:Nat) (k:g_api_Key),ks[j]? =some k∧(k.Log==p.Log)=true∧n=(j:Int))∨n= -1):=by
 unfold Ba;obtain⟨r,h1,h2⟩:=Io (body:=BH ks) ks (fun k=>k.Log==p.Log) (p.Log,p.At,p.Leaf.1,p.Leaf.2,p.Sig.E,p.Sig.S) (fun i=>((i:Int),p)) (fun i x hx=>by
  unfold BH Ea;rw[CG hx,Aa,Aa];dsimp only;cases (x.Log==p.Log)<;>rfl)
 rw[h1,Aa];rcases h2 with ⟨j,k,q1,q2,rfl⟩|⟨_,rfl⟩
 ·exact⟨_,rfl,.inl ⟨j,k,q1,q2,rfl⟩⟩
 ·exact⟨_,rfl,.inr rfl⟩
theorem app48 {α:Type}(s:List α)(x:α)(h:s.length≤1000000):app 48 s [x]=some (s++[x]):=Pe 48 (by simp only[List.length_singleton]; omega) (by simp only[List.length_singleton]; omega)
theorem ZP (a:Ak)(leaf:UInt64×UInt64)(i:Int)(p:g_api_Promise)(s:List g_api_Promise)(hs:s.length≤1000000):
  ∃b:Bool,B0 a leaf i p s=some (if b=true then s++[p]else s)∧(b=true→ZS a.Client.Logs leaf p=true):=by
 unfold B0;obtain⟨n,hn,h⟩:=Ahl a.Client.Logs p;rw[hn,Aa];rcases h with ⟨j,k,q1,q2,rfl⟩|rfl
 ·dsimp only;rw[ge0,AiW];cases hl:Mn p.Leaf leaf with
  |false=>
   refine⟨false,?_,fun h=>by cases h⟩;show Ab (Ab (some _) _) _=_;rw[Aa];show Ab (Ab (some _) _) _=_;rw[Aa];rfl
  |true=>
   rw[Aep,CG q1,Aa,Aep,cp_eq k p,Aa,AiW];cases hc:(cpV k p==0)with
   |false=>exact⟨false,rfl,fun h=>by cases h⟩
   |true=>
    refine⟨true,?_,fun _=>Y0 q1 (by rw[q2,hc,hl]; rfl)⟩;rw[Air rfl,app48 s p hs];rfl
 ·refine⟨false,?_,fun h=>by cases h⟩;show Ab (Ab (some _) _) _=_;rw[Aa];show Ab (Ab (some _) _) _=_;rw[Aa];rfl
theorem RX (a:Ak)(leaf:UInt64×UInt64): ∀(l:List g_api_Promise) (i:Int) (s:List g_api_Promise),s.length+l.length≤1000000→
  ∃r,DA (B0 a leaf) l i s=some r∧r.length≤s.length+(l.filter (ZS a.Client.Logs leaf)).length∧∀p∈r,p∈s∨(p∈l∧ZS a.Client.Logs leaf p=true)
 | [],i,s,_=>⟨s,rfl,by simp,fun p h=> .inl h⟩
 |x::l,i,s,hl=>by
  simp only[Ain]at hl;obtain⟨b,hb,hc⟩:=ZP a leaf i x s (by omega);show∃r,Ab (B0 a leaf i x s) _=_∧_;rw[hb,Aa];cases b with
  |false=>
   obtain⟨r,h1,h2,h3⟩:=RX a leaf l (i+1) s (by omega);refine⟨r,h1,?_,fun p hp=> ?_⟩
   ·rw[List.filter_cons];split
    ·simp only[Ain]; omega
    ·exact h2
   ·rcases h3 p hp with q|⟨q,w⟩
    ·exact .inl q
    ·exact .inr ⟨AiJ _ q,w⟩
  |true=>
   obtain⟨r,h1,h2,h3⟩:=RX a leaf l (i+1) (s++[x]) (by simp; omega);refine⟨r,h1,?_,fun p hp=> ?_⟩
   ·rw[List.filter_cons,Air (hc rfl)]; simp only[Aio,Ain,AiK]at h2⊢; omega
   ·rcases h3 p hp with q|⟨q,w⟩
    ·rcases AiI.1 q with q|q
     ·exact .inl q
     ·rw[List.mem_singleton]at q; subst q; exact .inr ⟨AiE,hc rfl⟩
    ·exact .inr ⟨AiJ _ q,w⟩
theorem YT (a:Ak)(leaf:UInt64×UInt64)(l:List g_api_Promise)(hl:l.length≤1000000):
  ∃r,m_client_asked_counting a l leaf=some r∧r.length≤(l.filter (ZS a.Client.Logs leaf)).length∧∀p∈r,p∈l∧ZS a.Client.Logs leaf p=true:=by
 obtain⟨r,h1,h2,h3⟩:=RX a leaf l 0 [] (by simpa using hl);refine⟨r,?_,by simpa using h2,fun p hp=>(h3 p hp).elim (fun q=>by cases q) id⟩;unfold m_client_asked_counting;rw[h1]; rfl
def mcV (leaf:UInt64×UInt64)(w:g_api_Place)(h:g_api_Head):Int:=(D8 leaf w.At w.Size w.Proof h.Root).getD 1
theorem mc_eq (leaf:UInt64×UInt64)(w:g_api_Place)(h:g_api_Head):D8 leaf w.At w.Size w.Proof h.Root=some (mcV leaf w h):=by
 obtain⟨e,he⟩:=ZD leaf w.At w.Size w.Proof h.Root;unfold mcV; rw[he]; rfl
def ZH (leaf:UInt64×UInt64)(w:g_api_Place)(h:g_api_Head):Bool:=((h.Log==w.Log)&&(h.Size==w.Size))&&(mcV leaf w h==0)
theorem Ahu (a:Ak)(w:g_api_Place)(leaf:UInt64×UInt64):EV a w leaf=some (a.Client.Pool.L.any (ZH leaf w)):=by
 unfold EV By BM;obtain⟨r,h1,h2⟩:=Io (body:=Bw a.Client.Pool.L) a.Client.Pool.L (ZH leaf w) (w.Log,w.At,w.Size,w.Proof,leaf.1,leaf.2) (fun i=>((i:Int),w,leaf)) (fun i x hx=>by
  unfold Bw F6 ZH;rw[CG hx,Aa];dsimp only;rw[mc_eq leaf w x];cases ((x.Log==w.Log)&&(x.Size==w.Size))with
  |false=>rfl
  |true=>
   rw[show gu true (some (mcV leaf w x))=some (mcV leaf w x)from rfl,Aa,CI,Aa,AiW];cases (mcV leaf w x==0)<;>rfl)
 rw[h1,Aa];rcases h2 with ⟨j,k,q1,q2,rfl⟩|⟨q,rfl⟩
 ·rw[Y0 q1 q2];dsimp only;rw[Aa,Aa,ge0]
 ·rw[q]; rfl
theorem Aen (ps:List g_api_Promise)(w:g_api_Place):AM ps w=some (ps.any (fun p=>p.Log==w.Log),w):=by
 unfold AM Bl;obtain⟨r,h1,h2⟩:=Io (body:=A7 ps) ps (fun p=>p.Log==w.Log) (w.Log,w.At,w.Size,w.Proof) (fun i=>((i:Int),w)) (fun i x hx=>by
  unfold A7 F7;rw[CG hx,Aa,Aa];dsimp only;cases (x.Log==w.Log)<;>rfl)
 rw[h1,Aa];rcases h2 with ⟨j,k,q1,q2,rfl⟩|⟨q,rfl⟩
 ·rw[Y0 (p:=fun p:g_api_Promise=>p.Log==w.Log) q1 q2];dsimp only;rw[Aa,ge0]
 ·rw[q]; rfl
def showB (c:g_api_Client)(ps:List g_api_Promise)(leaf:UInt64×UInt64)(w:g_api_Place):Bool:=ps.any (fun p=>p.Log==w.Log)&&c.Pool.L.any (ZH leaf w)
theorem Aeo (l:List g_api_Place)(ps:List g_api_Promise)(c:g_api_Client)(leaf:UInt64×UInt64):AU l ps ⟨c⟩ leaf=some (l.any (showB c ps leaf),ps,⟨c⟩,leaf):=by
 unfold AU BF;obtain⟨r,h1,h2⟩:=Io (body:=Bo l) l (showB c ps leaf) (ps,c.Who,c.Roots,c.Logs,c.Pool.L,c.Cascade.Day,c.Cascade.Levels,c.View,leaf.1,leaf.2) (fun i=>((i:Int),ps,⟨c⟩,leaf)) (fun i x hx=>by
  unfold Bo G9 showB;rw[CG hx,Aa];dsimp only;rw[Aen,Aa];dsimp only;rw[Ahu];cases ps.any (fun p=>p.Log==x.Log)with
  |false=>rfl
  |true=>
   dsimp only;rw[show∀o:Option Bool,gu true o=o from fun o=>rfl,Aa,Aa,AiW];cases c.Pool.L.any (ZH leaf x)<;>rfl)
 dsimp only;rw[h1,Aa];rcases h2 with ⟨j,k,q1,q2,rfl⟩|⟨q,rfl⟩
 ·rw[Y0 q1 q2];dsimp only;rw[Aa,ge0]
 ·rw[q]; rfl
abbrev FB:=Az
def aSt (c:g_api_Client)(o:g_api_Offer)(name:ByteArray)(now:Int)(lf:UInt64×UInt64)(ps:List g_api_Promise):ByteArray×(List g_api_Cert)×(List g_api_Key)×(List g_api_Head)×Int×(List g_api_Sieve)×Int×Int×(List g_api_Cert)×(List g_api_Place)×ByteArray×UInt64×UInt64×ByteArray×(List g_api_Cert)×(List g_api_Key)×(List g_api_Head)×Int×(List g_api_Sieve)×Int×(List g_api_Promise):=(c.Who,c.Roots,c.Logs,c.Pool.L,c.Cascade.Day,c.Cascade.Levels,c.View,now,o.Path,o.Where,name,lf.1,lf.2,c.Who,c.Roots,c.Logs,c.Pool.L,c.Cascade.Day,c.Cascade.Levels,c.View,ps)
theorem ne0 {e:Int}(h:e≠0):(e !=0)=true:=by simpa using h
section
variable {c:g_api_Client}{o:g_api_Offer}{name:ByteArray}{now:Int}{lf:UInt64×UInt64}{ps:List g_api_Promise}
theorem fb0 {e:Int}(h:m_client_Check c=some e):(e=0→FB 0 (aSt c o name now lf ps)=some (.inl (aSt c o name now lf ps)))∧(e≠0→∃t,FB 0 (aSt c o name now lf ps)=some (.inr (e,t))):=by
 unfold FB Az;rw[Air rfl];have q:Dz c=some (e,c):=by unfold Dz; rw[h]; rfl
 refine⟨fun h0=> ?_,fun h0=> ?_⟩
 ·show Ab (Dz c) _=_;rw[q,Aa,h0]; rfl
 ·show∃t,Ab (Dz c) _=_;rw[q,Aa,Air (ne0 h0)];exact⟨_,rfl⟩
theorem fb1 {e:Int}(h:(if(decide (0≤now)&&decide (now≤1099511627776))=true then m_path_Check c.Roots o.Path name now else some 1)=some e):
  (e=0→FB 1 (aSt c o name now lf ps)=some (.inl (aSt c o name now lf ps)))∧(e≠0→∃t,FB 1 (aSt c o name now lf ps)=some (.inr (e,t))):=by
 unfold FB Az;rw[Aip (by decide),Air rfl];have q:Dy now c o name=some (e,now,c,o,name):=by
  unfold Dy;rw[XA,Aa];cases hb:(decide (0≤now)&&decide (now≤1099511627776))with
  |true=>
   rw[hb,Air rfl]at h;rw[Aip (by decide),h]; rfl
  |false=>
   rw[hb,Aip (by decide)]at h;cases h; rfl
 refine⟨fun h0=> ?_,fun h0=> ?_⟩
 ·show Ab (Dy now c o name) _=_;rw[q,Aa,h0]; rfl
 ·show∃t,Ab (Dy now c o name) _=_;rw[q,Aa,Air (ne0 h0)];exact⟨_,rfl⟩
theorem fb2 {x:g_api_Cert}{more:List g_api_Cert}{l:UInt64×UInt64}{e:Int}(ho:o.Path=x::more)(h:m_cert_Leaf x=some (l,e)):
  (e=0→FB 2 (aSt c o name now lf ps)=some (.inl (aSt c o name now l ps)))∧(e≠0→∃t,FB 2 (aSt c o name now lf ps)=some (.inr (e,t))):=by
 unfold FB Az;rw[Aip (by decide),Aip (by decide),Air rfl];have q:Dx o lf=some (e,o,l):=by
  unfold Dx;rw[ho];show Ab (some x) _=_;rw[Aa,h]; rfl
 refine⟨fun h0=> ?_,fun h0=> ?_⟩
 ·show Ab (Dx o lf) _=_;rw[q,Aa,h0]; rfl
 ·show∃t,Ab (Dx o lf) _=_;rw[q,Aa,Air (ne0 h0)];exact⟨_,rfl⟩
theorem fb3 {x:g_api_Cert}{more:List g_api_Cert}{r:List g_api_Promise}(ho:o.Path=x::more)(h:m_client_asked_counting ⟨c⟩ x.Proms lf=some r):
  (2≤r.length→FB 3 (aSt c o name now lf ps)=some (.inl (aSt c o name now lf r)))∧(¬2≤r.length→∃t,FB 3 (aSt c o name now lf ps)=some (.inr (251,t))):=by
 unfold FB Az;rw[Aip (by decide),Aip (by decide),Aip (by decide),Air rfl];have q:Du ⟨c⟩ o lf ps=some (if 2≤r.length then 0 else 251,⟨c⟩,o,lf,r):=by
  unfold Du;rw[ho];show Ab (some x) _=_;rw[Aa,h,Aa];by_cases hr:2≤r.length
  ·rw[Aip (by simp; omega),Air hr]
  ·rw[Air (by simp; omega),Aip hr]
 refine⟨fun h0=> ?_,fun h0=> ?_⟩
 ·show Ab (Du ⟨c⟩ o lf ps) _=_;rw[q,Aa,Air h0]; rfl
 ·show∃t,Ab (Du ⟨c⟩ o lf ps) _=_;rw[q,Aa,Aip h0];exact⟨_,rfl⟩
theorem fb4:(o.Where.any (showB c ps lf)=true→FB 4 (aSt c o name now lf ps)=some (.inl (aSt c o name now lf ps)))∧(o.Where.any (showB c ps lf)=false→∃t,FB 4 (aSt c o name now lf ps)=some (.inr (240,t))):=by
 unfold FB Az;rw[Aip (by decide),Aip (by decide),Aip (by decide),Aip (by decide),Air rfl];have q:Dt ps ⟨c⟩ lf o=some (if o.Where.any (showB c ps lf)=true then 0 else 240,ps,⟨c⟩,lf,o):=by
  unfold Dt;rw[Aeo,Aa];dsimp only;cases o.Where.any (showB c ps lf)<;>rfl
 refine⟨fun h0=> ?_,fun h0=> ?_⟩
 ·show Ab (Dt ps ⟨c⟩ lf o) _=_;rw[q,Aa,h0]; rfl
 ·show∃t,Ab (Dt ps ⟨c⟩ lf o) _=_;rw[q,Aa,h0];exact⟨_,rfl⟩
theorem fb5 {x:g_api_Cert}{more:List g_api_Cert}{b:Bool}(ho:o.Path=x::more)(h:m_cascade_Has c.Cascade x.Serial=some b):
  (b=false→FB 5 (aSt c o name now lf ps)=some (.inl (aSt c o name now lf ps)))∧(b=true→∃t,FB 5 (aSt c o name now lf ps)=some (.inr (270,t))):=by
 unfold FB Az;rw[Aip (by decide),Aip (by decide),Aip (by decide),Aip (by decide),Aip (by decide)];have q:Ds c o=some (if b=true then 270 else 0,c,o):=by
  unfold Ds;rw[ho];show Ab (some x) _=_;rw[Aa,h,Aa];cases b<;>rfl
 refine⟨fun h0=> ?_,fun h0=> ?_⟩
 ·show Ab (Ds c o) _=_;rw[q,Aa,h0]; rfl
 ·show∃t,Ab (Ds c o) _=_;rw[q,Aa,h0];exact⟨_,rfl⟩
end
theorem enL {σ τ:Type}{body:Int→σ→Option (σ⊕τ)}{k:Nat}{i:Int}{s s':σ}(h:body i s=some (.inl s')):B4 body (k+1) i s=B4 body k (i+1) s':=by
 show Ab (body i s) _=_;rw[h]; rfl
theorem enR {σ τ:Type}{body:Int→σ→Option (σ⊕τ)}{k:Nat}{i:Int}{s:σ}{t:τ}(h:body i s=some (.inr t)):B4 body (k+1) i s=some (.inr t):=by
 show Ab (body i s) _=_;rw[h]; rfl
structure Acc (c:g_api_Client)(o:g_api_Offer)(name:ByteArray)(now:Int):Prop where
 chk:m_client_Check c=some 0
 pth:m_path_Check c.Roots o.Path name now=some 0
 run: ∃x more leaf ps,o.Path=x::more∧m_cert_Leaf x=some (leaf,0)∧m_client_asked_counting ⟨c⟩ x.Proms leaf=some ps∧2≤ps.length∧o.Where.any (showB c ps leaf)=true∧m_cascade_Has c.Cascade x.Serial=some false
theorem Z2 (c:g_api_Client)(o:g_api_Offer)(name:ByteArray)(now:Int)(hp: ∀x∈o.Path,x.Proms.length≤1000000): ∃e,Bb c o name now=some e∧(e=0↔Acc c o name now):=by
 unfold Bb CF;have key: ∀r:(ByteArray×(List g_api_Cert)×(List g_api_Key)×(List g_api_Head)×Int×(List g_api_Sieve)×Int×Int×(List g_api_Cert)×(List g_api_Place)×ByteArray×UInt64×UInt64×ByteArray×(List g_api_Cert)×(List g_api_Key)×(List g_api_Head)×Int×(List g_api_Sieve)×Int×(List g_api_Promise))⊕(Int×g_api_Client×Int×g_api_Offer×ByteArray×(UInt64×UInt64)×Ak×(List g_api_Promise)),
   B4 FB 6 0 (aSt c o name now (0,0) [])=some r→(∃t,∃e,r= .inr (e,t)∧(e=0↔Acc c o name now))∨(∃s,r= .inl s∧Acc c o name now)→∃e,(Ab (Ab (B4 FB 6 0 (aSt c o name now (0,0) [])) fun x1=>match x1 with
    | .inr r=>some r
    | .inl y1=>some (0,(⟨y1.1,y1.2.1,y1.2.2.1,(⟨y1.2.2.2.1⟩:g_api_Pool),(⟨y1.2.2.2.2.1,y1.2.2.2.2.2.1⟩:g_api_Cascade),y1.2.2.2.2.2.2.1⟩:g_api_Client),y1.2.2.2.2.2.2.2.1,(⟨y1.2.2.2.2.2.2.2.2.1,y1.2.2.2.2.2.2.2.2.2.1⟩:g_api_Offer),y1.2.2.2.2.2.2.2.2.2.2.1,(y1.2.2.2.2.2.2.2.2.2.2.2.1,y1.2.2.2.2.2.2.2.2.2.2.2.2.1),(⟨(⟨y1.2.2.2.2.2.2.2.2.2.2.2.2.2.1,y1.2.2.2.2.2.2.2.2.2.2.2.2.2.2.1,y1.2.2.2.2.2.2.2.2.2.2.2.2.2.2.2.1,(⟨y1.2.2.2.2.2.2.2.2.2.2.2.2.2.2.2.2.1⟩:g_api_Pool),(⟨y1.2.2.2.2.2.2.2.2.2.2.2.2.2.2.2.2.2.1,y1.2.2.2.2.2.2.2.2.2.2.2.2.2.2.2.2.2.2.1⟩:g_api_Cascade),y1.2.2.2.2.2.2.2.2.2.2.2.2.2.2.2.2.2.2.2.1⟩:g_api_Client)⟩:Ak),y1.2.2.2.2.2.2.2.2.2.2.2.2.2.2.2.2.2.2.2.2)) fun x1=>some x1.1)=some e∧(e=0↔Acc c o name now):=by
  intro r hr h;rw[hr,Aa];rcases h with ⟨t,e,rfl,h⟩|⟨s,rfl,h⟩
  ·exact⟨e,rfl,h⟩
  ·exact⟨0,rfl,⟨fun _=>h,fun _=>rfl⟩⟩
 obtain⟨e0,h0⟩:=ZV c;by_cases z0:e0=0
 ·subst z0;obtain⟨e1,h1⟩: ∃e1,(if(decide (0≤now)&&decide (now≤1099511627776))=true then m_path_Check c.Roots o.Path name now else some 1)=some e1:=by
   split
   ·exact⟨_,Uy _ _ _ _⟩
   ·exact⟨_,rfl⟩
  by_cases z1:e1=0
  ·subst z1;have hpc:m_path_Check c.Roots o.Path name now=some 0:=by
    split at h1
    ·exact h1
    ·cases h1
   obtain⟨x,more,ho,P,ht⟩:=PG (Aih ((Uy _ _ _ _).symm.trans hpc));have hx:checkV x=0:=P.all x (by simp);have hl:=AeU (okc hx);generalize Afm (⟨#[108,101,97,102]⟩:ByteArray) [Zv x]=leaf at hl;obtain⟨ps,h3,l3,_⟩:=YT ⟨c⟩ leaf x.Proms (hp x (by rw[ho]; exact AiE));obtain⟨b,h5⟩:=AeQ c.Cascade x.Serial;have r0:=(fb0 (o:=o) (name:=name) (now:=now) (lf:=(0,0)) (ps:=[]) h0).1 rfl;have r1:=(fb1 (lf:=(0,0)) (ps:=[]) h1).1 rfl;have r2:=(fb2 (c:=c) (name:=name) (now:=now) (lf:=(0,0)) (ps:=[]) ho hl).1 rfl;have r3:=fb3 (name:=name) (now:=now) (ps:=[]) ho h3;have uniq: ∀x' more' leaf' ps',o.Path=x'::more'→m_cert_Leaf x'=some (leaf',0)→m_client_asked_counting ⟨c⟩ x'.Proms leaf'=some ps'→x'=x∧leaf'=leaf∧ps'=ps:=fun x' more' leaf' ps' a1 a2 a3=>by
    rw[ho]at a1; cases a1;rw[hl]at a2; cases a2;rw[h3]at a3; cases a3;exact⟨rfl,rfl,rfl⟩
   by_cases z3:2≤ps.length
   ·have r3:=r3.1 z3;have r4:=fb4 (c:=c) (o:=o) (name:=name) (now:=now) (lf:=leaf) (ps:=ps);cases z4:o.Where.any (showB c ps leaf)with
    |true=>
     have r4:=r4.1 z4;have r5:=fb5 (name:=name) (now:=now) (lf:=leaf) (ps:=ps) ho h5;cases b with
     |false=>
      refine key _ ((enL r0).trans ((enL r1).trans ((enL r2).trans ((enL r3).trans ((enL r4).trans (enL (r5.1 rfl))))))) (.inr ⟨_,rfl,⟨h0,hpc,x,more,leaf,ps,ho,hl,h3,z3,z4,h5⟩⟩)
     |true=>
      obtain⟨t,r5⟩:=r5.2 rfl;refine key _ ((enL r0).trans ((enL r1).trans ((enL r2).trans ((enL r3).trans ((enL r4).trans (enR r5)))))) (.inl ⟨t,_,rfl,⟨(fun h=>by cases h),(fun h=> ?_)⟩⟩);obtain⟨x',more',leaf',ps',a1,a2,a3,a4,a5,a6⟩:=h.run;obtain⟨rfl,rfl,rfl⟩:=uniq _ _ _ _ a1 a2 a3;rw[h5]at a6; cases a6
    |false=>
     obtain⟨t,r4⟩:=r4.2 z4;refine key _ ((enL r0).trans ((enL r1).trans ((enL r2).trans ((enL r3).trans (enR r4))))) (.inl ⟨t,_,rfl,⟨(fun h=>by cases h),(fun h=> ?_)⟩⟩);obtain⟨x',more',leaf',ps',a1,a2,a3,a4,a5,a6⟩:=h.run;obtain⟨rfl,rfl,rfl⟩:=uniq _ _ _ _ a1 a2 a3;rw[z4]at a5; cases a5
   ·obtain⟨t,r3⟩:=r3.2 z3;refine key _ ((enL r0).trans ((enL r1).trans ((enL r2).trans (enR r3)))) (.inl ⟨t,_,rfl,⟨(fun h=>by cases h),(fun h=> ?_)⟩⟩);obtain⟨x',more',leaf',ps',a1,a2,a3,a4,a5,a6⟩:=h.run;obtain⟨rfl,rfl,rfl⟩:=uniq _ _ _ _ a1 a2 a3;exact absurd a4 z3
  ·have r0:=(fb0 (o:=o) (name:=name) (now:=now) (lf:=(0,0)) (ps:=[]) h0).1 rfl;obtain⟨t,r1⟩:=(fb1 (lf:=(0,0)) (ps:=[]) h1).2 z1;refine key _ ((enL r0).trans (enR r1)) (.inl ⟨t,_,rfl,⟨fun h=>absurd h z1,fun h=> ?_⟩⟩);have hv:=Aih ((Uy _ _ _ _).symm.trans h.pth);obtain⟨x,more,ho,P,ht⟩:=PG hv;have:=P.now0;have:=P.nowM;rw[Air (by rw[AiG (by omega),AiG (by omega)]; rfl),h.pth]at h1;cases h1; rfl
 ·obtain⟨t,r0⟩:=(fb0 (o:=o) (name:=name) (now:=now) (lf:=(0,0)) (ps:=[]) h0).2 z0;refine key _ (enR r0) (.inl ⟨t,_,rfl,⟨fun h=>absurd h z0,fun h=> ?_⟩⟩);have:=h.chk;rw[h0]at this; cases this; rfl
end Go.Proofs.YtnhdojckpcbjeaaGreatDoor
end
section
namespace Go.Proofs.YtnhdojckpcbjeaaGreatDoor
open Go Go.Gw Go.Ax
theorem OG {i n:Nat}(h:i<n)(hn:n≤1000000):w64 ((i:Int)+1)=((i+1:Nat):Int):=by rw[Cr (by omega) (by omega)]; rfl
theorem YM {α:Type}{xs:List α}{i:Nat}{x:α}(h:xs[i]? =some x):xs.drop i=x::xs.drop (i+1):=by
 obtain⟨hi,rfl⟩:=Aix.1 h;exact List.drop_eq_getElem_cons hi
def fndO {α β:Type}(f:α→Option β):List α→(Unit⊕β)
 | []=> .inl ()
 |x::r=>match f x with|some b=> .inr b|none=>fndO f r
theorem V8 {α β:Type}{step:Int→Option (Int⊕(Unit⊕β))}(xs:List α)(f:α→Option β)
  (hs: ∀(i:Nat) (x:α),xs[i]? =some x→step (i:Int)=some (match f x with|some b=> .inr (.inr b)|none=> .inl ((i+1:Nat):Int)))
  (he:step (xs.length:Int)=some (.inr (.inl ()))): ∀(k i n:Nat),i+k=xs.length→k<n→iter step n (i:Int)=some (fndO f (xs.drop i))
 |0,i,n,h,hn=>by
  obtain⟨n,rfl⟩: ∃q,n=q+1:=⟨n-1,by omega⟩;have h:i=xs.length:=by omega
  subst h;show Ab (step _) _=_;rw[he,List.drop_length]; rfl
 |k+1,i,n,h,hn=>by
  obtain⟨n,rfl⟩: ∃q,n=q+1:=⟨n-1,by omega⟩;have hi:i<xs.length:=by omega
  have hx:xs[i]? =some xs[i]:=AiN hi;show Ab (step _) _=_;rw[hs i _ hx,YM hx];unfold fndO;cases f xs[i]with
  |some b=>rfl
  |none=>exact V8 xs f hs he k (i+1) n (by omega) (by omega)
theorem Tm {α β:Type}{step:Int→Option (Int⊕(Unit⊕β))}(xs:List α)(f:α→Option β)(hl:xs.length≤1000000)
  (hs: ∀(i:Nat) (x:α),xs[i]? =some x→step (i:Int)=some (match f x with|some b=> .inr (.inr b)|none=> .inl ((i+1:Nat):Int)))
  (he:step (xs.length:Int)=some (.inr (.inl ()))):iter step Ey 0=some (fndO f xs):=
 V8 xs f hs he xs.length 0 Ey (by omega) (by have:(1000001:Nat)≤Ey:=Ail rfl; omega)
def ZK {α σ:Type}(g:Nat→σ→α→σ):List α→Nat→σ→σ
 | [],_,s=>s
 |x::r,i,s=>ZK g r (i+1) (g i s x)
theorem V7 {α σ τ:Type}{step:τ→Option (τ⊕σ)}(pr:σ→Int→τ)(xs:List α)(g:Nat→σ→α→σ)(I:Nat→σ→Prop)
  (hs: ∀(i:Nat) (x:α) (s:σ),xs[i]? =some x→I i s→step (pr s (i:Int))=some (.inl (pr (g i s x) ((i+1:Nat):Int)))∧I (i+1) (g i s x))
  (he: ∀s,I xs.length s→step (pr s (xs.length:Int))=some (.inr s)): ∀(k i n:Nat) (s:σ),i+k=xs.length→k<n→I i s→iter step n (pr s (i:Int))=some (ZK g (xs.drop i) i s)
 |0,i,n,s,h,hn,hI=>by
  obtain⟨n,rfl⟩: ∃q,n=q+1:=⟨n-1,by omega⟩;have h:i=xs.length:=by omega
  subst h;show Ab (step _) _=_;rw[he s hI,List.drop_length]; rfl
 |k+1,i,n,s,h,hn,hI=>by
  obtain⟨n,rfl⟩: ∃q,n=q+1:=⟨n-1,by omega⟩;have hi:i<xs.length:=by omega
  have hx:xs[i]? =some xs[i]:=AiN hi;obtain⟨h1,h2⟩:=hs i _ s hx hI;show Ab (step _) _=_;rw[h1,YM hx];exact V7 pr xs g I hs he k (i+1) n _ (by omega) (by omega) h2
theorem Tl {α σ τ:Type}{step:τ→Option (τ⊕σ)}(pr:σ→Int→τ)(xs:List α)(g:Nat→σ→α→σ)(I:Nat→σ→Prop)(hl:xs.length≤1000000)
  (hs: ∀(i:Nat) (x:α) (s:σ),xs[i]? =some x→I i s→step (pr s (i:Int))=some (.inl (pr (g i s x) ((i+1:Nat):Int)))∧I (i+1) (g i s x))
  (he: ∀s,I xs.length s→step (pr s (xs.length:Int))=some (.inr s)) (s:σ) (hI:I 0 s):iter step Ey (pr s 0)=some (ZK g xs 0 s):=
 V7 pr xs g I hs he xs.length 0 Ey s (by omega) (by have:(1000001:Nat)≤Ey:=Ail rfl; omega) hI
theorem UU {α:Type}(p:α→Bool)(v:Bool): ∀(xs:List α),fndO (fun x=>if p x=true then some v else none) xs=if xs.any p=true then .inr v else .inl ()
 | []=>rfl
 |x::r=>by
  unfold fndO;cases h:p x with
  |true=>simp[h]
  |false=>simp[h,UU p v r]
theorem Aei {α:Type}{l:List α}{n i:Nat}{x:α}(h:(l.take n)[i]? =some x):idx l (i:Int)=some x∧i<l.length∧i<n:=by
 rw[List.getElem?_take]at h;split at h
 ·exact⟨CG h,(Aix.1 h).1,‹_›⟩
 ·cases h
end Go.Proofs.YtnhdojckpcbjeaaGreatDoor
end
section
namespace Go.Proofs.YtnhdojckpcbjeaaGreatDoor
open Go Go.Gw Go.Ax
def shop0:C2:=⟨⟨⟨#[97,110,110]⟩,[⟨0,⟨#[114]⟩,⟨#[114]⟩,544077478247279056,[],0,100,true,1,[],[],⟨56068977789539995,412945996197367095⟩⟩],[⟨0,1297896941320072711,5⟩,⟨1,1631945290827707310,5⟩],⟨[]⟩,⟨0,[]⟩,0⟩,⟨[⟨9,⟨#[114]⟩,⟨#[]⟩,4,[⟨#[120,46,97]⟩],3,8,false,0,[],[⟨0,3,(1621992312229970116,2200863675130382030),⟨493135561720501702,53138745142054843⟩⟩,⟨1,3,(1621992312229970116,2200863675130382030),⟨694227493511213294,984341331704138812⟩⟩],⟨1050415333436172978,246170491232933132⟩⟩],[⟨0,2,3,[(71937633796637552,541480457554953714)]⟩]⟩,[⟨0,492609940580054112,5,[⟨[0,5],1⟩,⟨[1,5],1⟩,⟨[48,32,2,1,9,12,1,114,12,0,2,1,4,48,5,12,3,120,46,97,2,1,3,2,1,8,1,1,0,2,1,0,48,0],3⟩],[],[]⟩,⟨1,821147353521346255,5,[⟨[48,32,2,1,9,12,1,114,12,0,2,1,4,48,5,12,3,120,46,97,2,1,3,2,1,8,1,1,0,2,1,0,48,0],3⟩],[],[]⟩]⟩
def head0:g_api_Head:=⟨0,3,(1111880991993255973,2159594700541934035),4,⟨52962187583479370,259454068761640249⟩⟩
def cli0:g_api_Client:=⟨⟨#[97,110,110]⟩,[⟨0,⟨#[114]⟩,⟨#[114]⟩,544077478247279056,[],0,100,true,1,[],[],⟨56068977789539995,412945996197367095⟩⟩],[⟨0,1297896941320072711,5⟩,⟨1,1631945290827707310,5⟩],⟨[⟨0,3,(1111880991993255973,2159594700541934035),4,⟨52962187583479370,259454068761640249⟩⟩]⟩,⟨0,[]⟩,0⟩
def cas0:g_api_Cascade:=⟨1,[⟨8,3,16,[98]⟩]⟩
def cli1:g_api_Client:=⟨⟨#[97,110,110]⟩,[⟨0,⟨#[114]⟩,⟨#[114]⟩,544077478247279056,[],0,100,true,1,[],[],⟨56068977789539995,412945996197367095⟩⟩],[⟨0,1297896941320072711,5⟩,⟨1,1631945290827707310,5⟩],⟨[⟨0,3,(1111880991993255973,2159594700541934035),4,⟨52962187583479370,259454068761640249⟩⟩]⟩,⟨1,[⟨8,3,16,[98]⟩]⟩,0⟩
theorem lvq0:KM 5 ⟨#[120,46,97]⟩ 2=some (shop0,true):=by kernel_rfl
theorem lvq1:(Ab (idx shop0.logs_ 0) fun x=>Oc x 0 3 4)=some (head0,0):=by kernel_rfl
theorem lvq2:LO shop0.c_ head0=some (cli0,0):=by kernel_rfl
theorem lvq3:(Kv ⟨#[]⟩ shop0.c_.Roots shop0.c_.Logs 0).map Prod.snd=some 1:=by kernel_rfl
theorem lvq4:Iz [9] [] 1=some (cas0,0):=by kernel_rfl
theorem lvq5:IQ cli0 cas0=some (cli1,0):=by kernel_rfl
theorem lvq6:(IQ cli1 ⟨0,[]⟩).map Prod.snd=some 190:=by kernel_rfl
theorem lvq7:m_client_Check cli1=some 0:=by kernel_rfl
theorem lvq8:Bb shop0.c_ shop0.o_ ⟨#[120,46,97]⟩ 4=some 240:=by kernel_rfl
theorem lvq9:Bb cli0 shop0.o_ ⟨#[120,46,97]⟩ 4=some 0:=by kernel_rfl
theorem lvqa:Bb cli0 shop0.o_ ⟨#[121,46,97]⟩ 4=some 110:=by kernel_rfl
theorem lvqb:Bb cli0 shop0.o_ ⟨#[120,46,97]⟩ 8=some 190:=by kernel_rfl
theorem lvqc:Bb cli1 shop0.o_ ⟨#[120,46,97]⟩ 4=some 270:=by kernel_rfl
theorem Xg:Kl=some true:=by
 unfold Kl;rw[lvq0,Aa,Aip (by decide)];obtain⟨x,hx,h1⟩:=Ad lvq1;obtain⟨⟨z3,e3⟩,h3,rfl⟩:=Aiv.1 lvq3;obtain⟨⟨z6,e6⟩,h6,rfl⟩:=Aiv.1 lvq6;dsimp only;rw[hx,Aa,h1,Aa];dsimp only;rw[lvq2,Aa];dsimp only;rw[h3,Aa,lvq4,Aa];dsimp only;rw[lvq5,Aa];dsimp only;rw[h6,Aa,lvq7,lvq8,lvq9,lvqa,lvqb,lvqc];rfl
end Go.Proofs.YtnhdojckpcbjeaaGreatDoor
end
section
namespace Go.Proofs.YtnhdojckpcbjeaaGreatDoor
open Go Go.Gw Go.Ax
theorem O4 {α:Type}{step:Int→Option (Int⊕(Unit⊕Bool))}(xs:List α)(n:Nat)(hn:n≤1000)(p:α→Bool)(hs: ∀(i:Nat) (x:α),xs[i]? =some x→i<n→step (i:Int)=some (if p x=true then .inr (.inr false)else .inl ((i+1:Nat):Int)))
  (he: ∀i:Nat,¬(i<xs.length∧i<n)→step (i:Int)=some (.inr (.inl ()))):iter step Ey 0=some (if(xs.take n).any p=true then .inr false else .inl ()):=by
 rw[Tm (xs.take n) (fun x=>if p x=true then some false else none) (by simp; omega) (fun i x hx=> ?_) ?_,UU]
 ·exact he _ (by simp; omega)
 ·obtain⟨h1,h2,h3⟩:=Aei hx;have hx':xs[i]? =some x:=by
   rw[List.getElem?_take,Air h3]at hx;exact hx
  rw[hs i x hx' h3];cases p x<;>rfl
def AeF (c:g_api_Cert):Bool:= !(c.Names.take 12).any (fun s=>decide ((s.size:Int)>200))&&(!(c.Permit.take 12).any (fun s=>decide ((s.size:Int)>200))&&(((((decide ((c.Names.length:Int)≤12))&&(decide ((c.Permit.length:Int)≤12)))&&(decide ((c.Proms.length:Int)≤8)))&&(decide ((c.Issuer.size:Int)≤200)))&&(decide ((c.Subject.size:Int)≤200))))
theorem AeE (c:g_api_Cert):HA c=some (AeF c):=by
 unfold HA AeF;rw[O4 (step:=Fu c) c.Names 12 (by omega) (fun s=>decide ((s.size:Int)>200)) (fun i x hx hi=> ?_) (fun i hi=> ?_),Aa]
 ·cases (c.Names.take 12).any fun s=>decide ((s.size:Int)>200)with
  |true=>rfl
  |false=>
   rw[Aip (by decide)];dsimp only;rw[O4 (step:=Ft c) c.Permit 12 (by omega) (fun s=>decide ((s.size:Int)>200)) (fun i x hx hi=> ?_) (fun i hi=> ?_),Aa]
   ·cases (c.Permit.take 12).any fun s=>decide ((s.size:Int)>200)<;>rfl
   ·have h2:=(Aix.1 hx).1;unfold Ft;rw[Air (by simp; omega),CG hx,Aa];cases decide ((x.size:Int)>200)with
    |true=>rfl
    |false=>rw[Aip (by decide),Aip (by decide),Cr (by omega) (by omega)]; rfl
   ·unfold Ft;rw[Aip (by simp; omega)]
 ·have h2:=(Aix.1 hx).1;unfold Fu;rw[Air (by simp; omega),CG hx,Aa];cases decide ((x.size:Int)>200)with
  |true=>rfl
  |false=>rw[Aip (by decide),Aip (by decide),Cr (by omega) (by omega)]; rfl
 ·unfold Fu;rw[Aip (by simp; omega)]
theorem Acm {c:g_api_Cert}(h:AeF c=true):c.Names.length≤12∧c.Proms.length≤8:=by
 simp only[AeF,Aii,Ait]at h;omega
def Acl (l:List g_api_Cert):Bool:= !(l.take 12).any (fun c=> !AeF c)&&decide ((l.length:Int)≤10)
theorem Ack (l:List g_api_Cert):E6 l=some (Acl l):=by
 unfold E6 Acl;rw[O4 (step:=EL l) l 12 (by omega) (fun c=> !AeF c) (fun i x hx hi=> ?_) (fun i hi=> ?_),Aa]
 ·cases (l.take 12).any fun c=> !AeF c<;>rfl
 ·have h2:=(Aix.1 hx).1;unfold EL;rw[Air (by simp; omega),CG hx,Aa,AeE,Aa];cases AeF x with
  |false=>rfl
  |true=>rw[Aip (by decide),Aip (by decide),Cr (by omega) (by omega)]; rfl
 ·unfold EL;rw[Aip (by simp; omega)]
theorem AhN {l:List g_api_Cert}(h:Acl l=true):l.length≤10∧∀c∈l,AeF c=true:=by
 simp only[Acl,Aii,Ait,Bool.not_eq_true',List.any_eq_false]at h;have hl:l.length≤10:=by omega
 refine⟨hl,fun c hc=> ?_⟩;have:=h.1 c (by rw[Ai2 (by omega)]; exact hc);simpa using this
def fewX (x:g_api_Cascade):Bool:= !(x.Levels.take 20).any (fun s=>decide ((s.B.length:Int)>300))&&decide ((x.Levels.length:Int)≤18)
theorem AhL (x:g_api_Cascade):Fv x=some (fewX x):=by
 unfold Fv fewX;rw[O4 (step:=DZ x) x.Levels 20 (by omega) (fun s=>decide ((s.B.length:Int)>300)) (fun i y hx hi=> ?_) (fun i hi=> ?_),Aa]
 ·cases (x.Levels.take 20).any fun s=>decide ((s.B.length:Int)>300)<;>rfl
 ·have h2:=(Aix.1 hx).1;unfold DZ;rw[Air (by simp; omega),CG hx,Aa];cases decide ((y.B.length:Int)>300)with
  |true=>rfl
  |false=>rw[Aip (by decide),Aip (by decide),Cr (by omega) (by omega)]; rfl
 ·unfold DZ;rw[Aip (by simp; omega)]
theorem AeG (c:g_api_Client): ∃b,LF c=some b∧(b=true→Acl c.Roots=true∧c.Logs.length≤20∧c.Pool.L.length≤40∧fewX c.Cascade=true):=by
 unfold LF;rw[Ack,AhL];cases h1:decide ((c.Who.size:Int)≤100)with
 |false=>exact⟨false,rfl,fun h=>by cases h⟩
 |true=>
  rw[show gu true (some (Acl c.Roots))=some (Acl c.Roots)from rfl,Aa];cases h2:Acl c.Roots with
  |false=>exact⟨false,rfl,fun h=>by cases h⟩
  |true=>
   cases h3:decide ((c.Logs.length:Int)≤20)with
   |false=>exact⟨false,rfl,fun h=>by cases h⟩
   |true=>
    cases h4:decide ((c.Pool.L.length:Int)≤40)with
    |false=>exact⟨false,rfl,fun h=>by cases h⟩
    |true=>
     refine⟨fewX c.Cascade,rfl,fun h=>⟨rfl,?_,?_,h⟩⟩
     ·have:=AiO h3; omega
     ·have:=AiO h4; omega
theorem AhM (o:g_api_Offer): ∃b,GV o=some b∧(b=true→Acl o.Path=true∧o.Where.length≤8):=by
 unfold GV;rw[O4 (step:=EK o) o.Where 12 (by omega) (fun s=>decide ((s.Proof.length:Int)>20)) (fun i y hx hi=> ?_) (fun i hi=> ?_),Aa]
 ·cases (o.Where.take 12).any fun s=>decide ((s.Proof.length:Int)>20)with
  |true=>exact⟨false,rfl,fun h=>by cases h⟩
  |false=>
   rw[Aip (by decide)];dsimp only;rw[Ack,Aa];refine⟨_,rfl,fun h=> ?_⟩;rw[Aii]at h;exact⟨h.1,by have:=AiO h.2; omega⟩
 ·have h2:=(Aix.1 hx).1;unfold EK;rw[Air (by simp; omega),CG hx,Aa];cases decide ((y.Proof.length:Int)>20)with
  |true=>rfl
  |false=>rw[Aip (by decide),Aip (by decide),Cr (by omega) (by omega)]; rfl
 ·unfold EK;rw[Aip (by simp; omega)]
theorem AhK (c:g_api_Client)(o:g_api_Offer): ∃b,LK c o=some b∧(b=true→(Acl c.Roots=true∧c.Logs.length≤20∧c.Pool.L.length≤40∧fewX c.Cascade=true)∧Acl o.Path=true∧o.Where.length≤8):=by
 obtain⟨a,h1,h2⟩:=AeG c;obtain⟨b,h3,h4⟩:=AhM o;unfold LK;rw[h1,Aa,h3];cases a with
 |false=>exact⟨false,rfl,fun h=>by cases h⟩
 |true=>
  refine⟨b,rfl,fun h=>⟨h2 rfl,h4 h⟩⟩
theorem AcB (ks:List g_api_Key)(p:g_api_Promise)(leaf:UInt64×UInt64)(hl:ks.length≤1000000):Ix ks p leaf=some (ZS ks leaf p):=by
 unfold Ix;have e:=Tm (step:=Gq ks p leaf) ks (fun k=>if(((k.Log==p.Log)&&(cpV k p==0))&&(Mn p.Leaf leaf))=true then some true else none) hl (fun i k hx=>by
  have h2:=(Aix.1 hx).1;unfold Gq;rw[Air (AiG (show(i:Int)<(ks.length:Int)from by omega)),CG hx,Aa];cases hk:(k.Log==p.Log)with
  |false=>
   show Ab (some _) _=_;rw[Aa];show Ab (some _) _=_;rw[Aa,Aip (by simp),Aip (by simp),OG h2 hl]
  |true=>
   rw[Aep,Aa,Aep,cp_eq k p,Aa];cases ((true&&(cpV k p==0))&&(Mn p.Leaf leaf))with
   |true=>rfl
   |false=>rw[Aip (by decide),Aip (by decide),OG h2 hl]) (by
  unfold Gq;rw[Aip (fun h=>by have:=AiO h; omega)])
 rw[e,UU,Aa];unfold ZS;cases ks.any fun k=>((k.Log==p.Log)&&(cpV k p==0))&&(Mn p.Leaf leaf)<;>rfl
theorem UN {α:Type}{step:Bool×Int→Option ((Bool×Int)⊕Bool)}(xs:List α)(p:α→Bool)(hl:xs.length≤1000000)
  (hs: ∀(i:Nat) (x:α) (b:Bool),xs[i]? =some x→step (b,(i:Int))=some (.inl (b||p x,((i+1:Nat):Int)))) (he: ∀b,step (b,(xs.length:Int))=some (.inr b)) (b:Bool):iter step Ey (b,0)=some (b||xs.any p):=by
 rw[Tl (step:=step) (fun(s:Bool) (n:Int)=>(s,n)) xs (fun _ s x=>s||p x) (fun _ _=>True) hl (fun i x s hx _=>⟨hs i x s hx,trivial⟩) (fun s _=>he s) b trivial];congr 1;have: ∀(l:List α) (i:Nat) (b:Bool),ZK (fun _ s x=>s||p x) l i b=(b||l.any p):=by
  intro l;induction l with
  |nil=>intro i b; simp[ZK]
  |cons x l ih=>intro i b; unfold ZK; rw[ih,List.any_cons,Bool.or_assoc]
 exact this xs 0 b
def shB (leaf:UInt64×UInt64)(p:g_api_Promise)(w:g_api_Place)(h:g_api_Head):Bool:=(((w.Log==p.Log)&&(h.Log==p.Log))&&(h.Size==w.Size))&&(mcV leaf w h==0)
theorem b9_eqK (c:g_api_Client)(leaf:(UInt64×UInt64)×Int)(p:g_api_Promise)(w:g_api_Place)(hl:c.Pool.L.length≤1000000)(b:Bool):iter (CA c leaf p w) Ey (b,0)=some (b||c.Pool.L.any (shB leaf.1 p w)):=
 UN (step:=CA c leaf p w) c.Pool.L (shB leaf.1 p w) hl (fun i h b hx=>by
  have h2:=(Aix.1 hx).1;unfold CA shB;dsimp only;rw[Air (AiG (show(i:Int)<(c.Pool.L.length:Int)from by omega)),CG hx,Aa,mc_eq leaf.1 w h];cases b with
  |true=>rw[show gu (!true&&(((w.Log==p.Log)&&(h.Log==p.Log))&&(h.Size==w.Size))) (some (mcV leaf.1 w h))=some default from rfl,Aa,CI,OG h2 hl]; rfl
  |false=>
   cases ((w.Log==p.Log)&&(h.Log==p.Log))&&(h.Size==w.Size)with
   |false=>rw[show gu (!false&&false) (some (mcV leaf.1 w h))=some default from rfl,Aa,CI,OG h2 hl]; rfl
   |true=>rw[show gu (!false&&true) (some (mcV leaf.1 w h))=some (mcV leaf.1 w h)from rfl,Aa,CI,OG h2 hl]) (fun b=>by
  unfold CA;rw[Aip (fun h=>by have:=AiO h; simp at this)]) b
theorem b7_eqK (c:g_api_Client)(o:g_api_Offer)(leaf:(UInt64×UInt64)×Int)(p:g_api_Promise)(hl:c.Pool.L.length≤1000000)(ho:o.Where.length≤1000000)(b:Bool):iter (CB c o leaf p) Ey (b,0)=some (b||o.Where.any fun w=>c.Pool.L.any (shB leaf.1 p w)):=
 UN (step:=CB c o leaf p) o.Where (fun w=>c.Pool.L.any (shB leaf.1 p w)) ho (fun i w b hx=>by
  have h2:=(Aix.1 hx).1;unfold CB;dsimp only;rw[Air (AiG (show(i:Int)<(o.Where.length:Int)from by omega)),CG hx,Aa,b9_eqK c leaf p w hl,Aa,Aa,OG h2 ho]) (fun b=>by
  unfold CB;rw[Aip (fun h=>by have:=AiO h; simp at this)]) b
def Z6 (c:g_api_Client)(o:g_api_Offer)(leaf:UInt64×UInt64)(_:Nat)(s:Int×Bool)(p:g_api_Promise):Int×Bool:=if ZS c.Logs leaf p=true then(s.1+1,s.2||o.Where.any fun w=>c.Pool.L.any (shB leaf p w))else s
theorem b5_eqK (c:g_api_Client)(o:g_api_Offer)(x:g_api_Cert)(leaf:(UInt64×UInt64)×Int)(hk:c.Logs.length≤1000000)(hl:c.Pool.L.length≤1000000)(ho:o.Where.length≤1000000)(hp:x.Proms.length≤1000000):
  iter (CC c o x leaf) Ey (0,false,0)=some (ZK (Z6 c o leaf.1) x.Proms 0 (0,false)):=
 Tl (step:=CC c o x leaf) (fun(s:Int×Bool) (n:Int)=>(s.1,s.2,n)) x.Proms (Z6 c o leaf.1) (fun i s=>0≤s.1∧s.1≤(i:Int)) hp (fun i p s hx hI=>by
  have h2:=(Aix.1 hx).1;unfold CC Z6;dsimp only;rw[Air (AiG (show(i:Int)<(x.Proms.length:Int)from by omega)),CG hx,Aa,AcB c.Logs p leaf.1 hk,Aa,OG h2 hp];cases ZS c.Logs leaf.1 p with
  |false=>exact⟨rfl,by rw[Aip (by decide)]; omega⟩
  |true=>
   rw[show(!true)=false from rfl,Aip (by decide),b7_eqK c o leaf p hl ho,Aa,Aa,Cr (by omega) (by omega),Air rfl];exact⟨rfl,by dsimp only; omega⟩) (fun s hI=>by
  unfold CC;rw[Aip (fun h=>by have:=AiO h; simp at this)]) (0,false) ⟨by decide,by decide⟩
theorem Abg (c:g_api_Client)(o:g_api_Offer)(leaf:UInt64×UInt64): ∀(l:List g_api_Promise) (i:Nat) (s:Int×Bool),(ZK (Z6 c o leaf) l i s).1=s.1+((l.filter (ZS c.Logs leaf)).length:Int)∧((s.2=true∨∃p∈l,ZS c.Logs leaf p=true∧(o.Where.any fun w=>c.Pool.L.any (shB leaf p w))=true)→(ZK (Z6 c o leaf) l i s).2=true)
 | [],i,s=>⟨by simp[ZK],fun h=>h.elim id fun⟨p,hp,_⟩=>by cases hp⟩
 |x::l,i,s=>by
  unfold ZK;obtain⟨h1,h2⟩:=Abg c o leaf l (i+1) (Z6 c o leaf i s x);cases hc:ZS c.Logs leaf x with
  |false=>
   have e:Z6 c o leaf i s x=s:=by unfold Z6; rw[hc,Aip (by decide)]
   rw[e]at h1 h2⊢;refine⟨by rw[h1,List.filter_cons,hc,Aip (by decide)],fun h=>h2 (h.imp id fun⟨p,hp,q⟩=> ?_)⟩;rcases AiR.1 hp with w|w
   ·subst w; rw[hc]at q; cases q.1
   ·exact⟨p,w,q⟩
  |true=>
   have e:Z6 c o leaf i s x=(s.1+1,s.2||o.Where.any fun w=>c.Pool.L.any (shB leaf x w)):=by unfold Z6; rw[hc,Air rfl]
   rw[e]at h1 h2⊢;refine⟨by rw[h1,List.filter_cons,hc,Air rfl]; simp only[Ain]; omega,fun h=>h2 ?_⟩;rcases h with h|⟨p,hp,q1,q2⟩
   ·exact .inl (by dsimp only; rw[h,Bool.true_or])
   ·rcases AiR.1 hp with w|w
    ·subst w; exact .inl (by dsimp only; rw[q2,Bool.or_true])
    ·exact .inr ⟨p,w,q1,q2⟩
theorem Abn (x:g_api_Cert)(name:ByteArray)(hn:x.Names.length≤1000000):iter (Ct name x) Ey (false,0)=some (x.Names.any fun s=>eqS s name):=by
 have:=UN (step:=Ct name x) x.Names (fun s=>eqS s name) hn (fun i s b hx=>by
  have h2:=(Aix.1 hx).1;unfold Ct;dsimp only;rw[Air (AiG (show(i:Int)<(x.Names.length:Int)from by omega)),CG hx];cases b with
  |true=>rw[show gu (!true) (some s)=some default from rfl,Aa,OG h2 hn,Bool.true_or,Bool.true_or]
  |false=>rw[show gu (!false) (some s)=some s from rfl,Aa,OG h2 hn]) (fun b=>by
  unfold Ct;rw[Aip (fun h=>by have:=AiO h; simp at this)]) false
 rw[this,Ai8]
theorem Adk {c:g_api_Cert}{now:Int}(h:timeB c now=true):c.From≤now∧now<c.Until:=by
 unfold timeB at h;rw[Aii,Ait,Ait]at h;exact h
theorem W4 (a0:g_api_Client)(a1:g_api_Offer)(a2:ByteArray)(a3:Int):Ej a0 a1 a2 a3=some true:=by
 unfold Ej;rw[Xg,Aa,Aip (by decide)];obtain⟨b,hb,hf⟩:=AhK a0 a1;rw[hb,Aa];cases b with
 |false=>rfl
 |true=>
  obtain⟨⟨f1,f2,f3,f4⟩,f5,f6⟩:=hf rfl;cases hn:decide ((a2.size:Int)>100)with
  |true=>rfl
  |false=>
   obtain⟨p1,p2⟩:=AhN f5;obtain⟨e,he,hA⟩:=Z2 a0 a1 a2 a3 (fun x hx=>by have:=(Acm (p2 x hx)).2; omega);rw[he,show gu (!((!true)||false)) (some e)=some e from rfl,Aa];by_cases h0:e=0
   ·subst h0;obtain⟨hc,hpth,x,more,leaf,ps,r1,r2,r3,r4,r5,r6⟩:=hA.1 rfl;have hx:x∈a1.Path:=by rw[r1]; exact AiE
    obtain⟨n1,n2⟩:=Acm (p2 x hx);obtain⟨x',more',e1,P,_⟩:=PG (Aih ((Uy _ _ _ _).symm.trans hpth));rw[r1]at e1; cases e1;obtain⟨t1,t2⟩:=Adk (P.tim x AiE);obtain⟨ps',q1,q2,q3⟩:=YT ⟨a0⟩ leaf x.Proms (by omega);rw[r3]at q1; cases q1;obtain⟨w1,w2⟩:=Abg a0 a1 leaf x.Proms 0 (0,false);have hsh:(ZK (Z6 a0 a1 leaf) x.Proms 0 (0,false)).2=true:=w2 (.inr (by
     obtain⟨w,hw,hw2⟩:=Ajn.1 r5;unfold showB at hw2;rw[Aii]at hw2;obtain⟨p,hp,hpl⟩:=Ajn.1 hw2.1;obtain⟨h,hh,hhb⟩:=Ajn.1 hw2.2;obtain⟨z1,z2⟩:=q3 p hp;refine⟨p,z1,z2,Ajn.2 ⟨w,hw,Ajn.2 ⟨h,hh,?_⟩⟩⟩;unfold ZH at hhb;unfold shB;rw[Aii,Aii]at hhb;have g1:p.Log=w.Log:=by simpa using hpl
     have g2:h.Log=w.Log:=by simpa using hhb.1.1
     rw[hhb.2,hhb.1.2,g1,g2]; simp))
    have hmany:(ZK (Z6 a0 a1 leaf) x.Proms 0 (0,false)).1≥2:=by
     rw[w1];have:ps.length≤(x.Proms.filter (ZS a0.Logs leaf)).length:=q2;simp only;omega
    have hnm:(x.Names.any fun s=>eqS s a2)=true:=by
     have:=P.has;simpa only[AhQ]using this
    rw[Aip (by decide),hc,Aa,show gu (!((0:Int) !=0)) (m_path_Check a0.Roots a1.Path a2 a3)=m_path_Check a0.Roots a1.Path a2 a3 from rfl,hpth,Aa,Aip (by rw[r1]; simp; omega),r1];show Ab (some x) _=_;rw[Aa,r2,Aa];rw[b5_eqK a0 a1 x (leaf,0) (by omega) (by omega) (by omega) (by omega),Aa,Aa,Abn x a2 (by omega),Aa,Aa,r6];dsimp only;rw[hsh,hnm,AiG hmany];show Ab (some false) _=_;rw[Aa,CI,AiG t1,AiG t2];rfl
   ·rw[Air (by simp[h0])]
end Go.Proofs.YtnhdojckpcbjeaaGreatDoor
end
