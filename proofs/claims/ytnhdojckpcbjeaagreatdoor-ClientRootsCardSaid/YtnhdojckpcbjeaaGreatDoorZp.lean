/- Several texts, one behind the other. Conditions: none. -/
import Derived.Test.YtnhdojckpcbjeaaGreatDoorZo
import Derived.Test.YtnhdojckpcbjeaaGreatDoorZi
import Derived.Test.YtnhdojckpcbjeaaGreatDoorZj
import Derived.Test.YtnhdojckpcbjeaaGreatDoorZk
import Derived.Test.YtnhdojckpcbjeaaGreatDoorZl
import Derived.Test.YtnhdojckpcbjeaaGreatDoorZm
import Derived.KernelRfl
set_option linter.unusedSimpArgs false
set_option linter.unusedVariables false
set_option maxHeartbeats 20000000
set_option maxRecDepth 100000
section
namespace Go.Proofs.YtnhdojckpcbjeaaGreatDoor
open Go Go.Gw Go.Ax
def Aes {α:Type}(f:Nat→α→Int):Nat→List α→Int
 |_,[]=>0
 |i,x::l=>if f i x=0 then Aes f (i+1) l else f i x
theorem RM {α:Type}(f:Nat→α→Int): ∀(l:List α) (i:Nat),Aes f i l=0↔∀k x,l[k]? =some x→f (i+k) x=0
 | [],i=>by simp[Aes]
 |x::l,i=>by
  unfold Aes;have ih:=RM f l (i+1);constructor
  ·intro h k y hy;by_cases h0:f i x=0
   ·rw[Ain h0]at h;cases k with
    |zero=>cases hy; exact h0
    |succ k=>
     have:=ih.1 h k y (by simpa using hy);rw[show i+(k+1)=i+1+k from by omega]; exact this
   ·rw[Ail h0]at h; exact absurd h h0
  ·intro h;have h0:f i x=0:=h 0 x rfl;rw[Ain h0];refine ih.2 fun k y hy=> ?_;rw[show i+1+k=i+(k+1)from by omega];exact h (k+1) y (by simpa using hy)
def fsO (e:Int):Unit⊕Int:=if e=0 then .inl ()else .inr e
theorem Xl {e:Int}:(match fsO e with| .inr r=>some r| .inl _=>some 0:Option Int)=some e:=by
 unfold fsO;by_cases h:e=0
 ·rw[Ain h,h]
 ·rw[Ail h]
theorem RT {α:Type}{body:Int→α→Unit→Option (Unit⊕Int)}(f:Nat→α→Int): ∀(l:List α) (i:Nat),(∀k x,l[k]? =some x→body ((i+k:Nat):Int) x ()=some (fsO (f (i+k) x)))→EV body l (i:Int) ()=some (fsO (Aes f i l))
 | [],i,_=>rfl
 |x::l,i,h=>by
  have h0:=h 0 x rfl;show Ab (body (i:Int) x ()) _=_;rw[show body (i:Int) x ()=_ from h0];show _=some (fsO (if f i x=0 then _ else _));rw[Ajk,Aa];by_cases hz:f i x=0
  ·rw[Ain hz,hz];refine RT f l (i+1) fun k y hy=> ?_;have:=h (k+1) y (by simpa using hy);rw[show i+1+k=i+(k+1)from by omega]; exact this
  ·rw[Ail hz];unfold fsO;rw[Ail hz]
theorem Wc {α:Type}{body:Int→Unit→Option (Unit⊕Int)}(f:Nat→α→Int)(l:List α)(h: ∀(k:Nat) (x:α),l[k]? =some x→body (k:Int) ()=some (fsO (f k x))): ∀(r:List α) (i:Nat),l.drop i=r→B6 body r.length (i:Int) ()=some (fsO (Aes f i r))
 | [],i,_=>rfl
 |x::r,i,hd=>by
  obtain⟨hc,hr,hlt⟩:=R1 hd;show Ab (body (i:Int) ()) _=_;rw[h i x hc];show _=some (fsO (if f i x=0 then _ else _));rw[Aa];by_cases hz:f i x=0
  ·rw[Ain hz,hz];exact Wc f l h r (i+1) hr
  ·rw[Ail hz];unfold fsO;rw[Ail hz]
theorem O1 {α σ τ:Type}{body:Int→σ→Option (σ⊕τ)}(l:List α)(p:α→Bool)(s:σ)(g:Nat→τ)(h: ∀(k:Nat) (x:α),l[k]? =some x→body (k:Int) s=some (if p x=true then .inr (g k)else .inl s)):
  ∀(r:List α) (i:Nat),l.drop i=r→∃j,B6 body r.length (i:Int) s=some (if r.any p=true then .inr (g j)else .inl s)
 | [],i,_=>⟨0,rfl⟩
 |x::r,i,hd=>by
  obtain⟨hc,hr,hlt⟩:=R1 hd;show∃j,Ab (body (i:Int) s) _=_;rw[h i x hc,List.any_cons];cases hp:p x with
  |true=>exact⟨i,rfl⟩
  |false=>
   obtain⟨j,ih⟩:=O1 l p s g h r (i+1) hr;exact⟨j,ih⟩
theorem nn0 {e:Int}(h:e=0): ¬(e≠0):=fun k=>k h
theorem O6 (c:g_api_Cert):Cv c=some (checkV c):=RX c
theorem b3_eq (i:Int)(c:g_api_Cert):Ip i c ()=some (fsO (checkV c)):=by
 unfold Ip fsO;rw[O6,Aa];by_cases h:checkV c=0
 ·rw[Ain h,Ail (by simpa using h)]
 ·rw[Ail h,Ain (by simpa using h)]
def sigV (p:UInt64)(m:List UInt8)(s:g_api_Sig):Int:=(Ew p m s).getD 1
theorem sig_eq (p:UInt64){m:List UInt8}(s:g_api_Sig)(h:m.length≤600000):Ew p m s=some (sigV p m s):=by
 obtain⟨e,he⟩:=Wk p s h;unfold sigV;rw[he]; rfl
def RG (a b:g_api_Cert):Int:=if checkV a≠0 then checkV a else if checkV b≠0 then checkV b else if((!b.Ca)||(!eqS a.Issuer b.Subject))=true then 191 else if sigV b.Key (Qh a) a.Sig≠0 then 40 else 0
theorem Afy (a b:g_api_Cert):JJ a b=some (RG a b):=by
 have e1:EV Ip ([a,b]:List g_api_Cert) 0 ()=some (fsO (Aes (fun _ c=>checkV c) 0 [a,b])):=RT (fun _ c=>checkV c) [a,b] 0 fun k x _=>b3_eq _ x;unfold JJ RG;rw[e1,Aa];show(match fsO (if checkV a=0 then(if checkV b=0 then 0 else checkV b)else checkV a)with| .inr r=>some r| .inl _=>_)=_;by_cases ha:checkV a=0
 ·rw[Ain ha,Ail (nn0 ha)];by_cases hb:checkV b=0
  ·rw[Ain hb,Ail (nn0 hb)];show(if((!b.Ca)||(!eqS a.Issuer b.Subject))=true then some 191 else _)=_;by_cases hc:((!b.Ca)||(!eqS a.Issuer b.Subject))=true
   ·rw[Ain hc,Ain hc]
   ·rw[Ail hc,Ail hc,AeQ (okc ha),Aa];show Ab (Ew b.Key (Qh a) a.Sig) _=_;rw[sig_eq _ _ (by have:=XH (okc ha); omega),Aa];by_cases hs:sigV b.Key (Qh a) a.Sig=0
    ·rw[Ail (show¬((sigV b.Key (Qh a) a.Sig !=0)=true)from by simpa using hs),Ail (nn0 hs)]
    ·rw[Ain (show(sigV b.Key (Qh a) a.Sig !=0)=true from by simpa using hs),Ain hs]
  ·rw[Ail hb,Ain hb];unfold fsO; rw[Ail hb]
 ·rw[Ail ha,Ain ha];unfold fsO; rw[Ail ha]
theorem AbY (s:ByteArray):Gi s=some (isB (toL s) 8 64):=by
 unfold Gi;rw[show CJ s 8 64=some (isB (toL s) 8 64)from AbF s 8 64 (by decide)];rfl
theorem Zy (s:ByteArray): ∃o st,DE s=some (o,st,isB (toL s) 8 64||Adp (toL s))∧(isB (toL s) 8 64=true→o=s∧st=false)∧(isB (toL s) 8 64=false→Adp (toL s)=true→o=s.extract 2 s.size∧st=true):=by
 have hz:(toL s).length=s.size:=Ce s;unfold DE;rw[AbY,Aa];cases h1:isB (toL s) 8 64 with
 |true=>exact⟨s,false,rfl,fun _=>⟨rfl,rfl⟩,fun h=>(by cases h)⟩
 |false=>
  rw[Ail (by decide),Ai8];unfold Cq Bm Bl;have e2:(((⟨#[42,46]⟩:ByteArray).size:Nat):Int)=2:=rfl;rw[e2];match hl:toL s with
  | []=>
   rw[hl,AiF]at hz;rw[Ai1 (show¬(s.size:Int)≥2 from by omega)];exact⟨_,_,rfl,fun h=>(by cases h),fun _ h=>(by cases h)⟩
  | [a]=>
   rw[hl,Aij,AiF]at hz;rw[Ai1 (show¬(s.size:Int)≥2 from by omega)];exact⟨_,_,rfl,fun h=>(by cases h),fun _ h=>(by cases h)⟩
  |a::b::r=>
   rw[hl,Aij,Aij]at hz;have ec:US s 0 2=some (s.extract 0 2):=Iv (by omega) (by omega) (by omega);have el:(s.extract 0 2).data.toList=[a,b]:=by
    rw[OZ];show((toL s).take 2).drop 0=_;rw[hl]; rfl
   have ee:eqS (s.extract 0 2) (⟨#[42,46]⟩:ByteArray)=(a==42&&b==46):=by
    unfold eqS;rw[el,Ajd];simp
   rw[AiI (show(s.size:Int)≥2 from by omega),Ab5,ec,Aa,DS,ee,Aa];show∃o st,_=some (o,st,(a==42&&b==46&&isB r 7 62))∧_∧(_→(a==42&&b==46&&isB r 7 62)=true→_);cases a==42&&b==46 with
   |false=>exact⟨_,_,rfl,fun h=>(by cases h),fun _ h=>(by cases h)⟩
   |true=>
    have ec2:US s 2 (s.size:Int)=some (s.extract 2 s.size):=by
     rw[Iv (by omega) (by omega) (by omega)]; rfl
    have el2:(s.extract 2 s.size).data.toList=r:=by
     rw[OZ];show((toL s).take s.size).drop 2=_;rw[AiY (by rw[hl,Aij,Aij]; omega),hl]; rfl
    rw[show(true&&true)=true from rfl,Ail (by decide),ec2,Aa,Aa,Aa];have en:=AbF (s.extract 2 s.size) 7 62 (by decide);rw[el2]at en;have en:CJ (s.extract 2 s.size) 7 62=some (isB r 7 62):=en;show∃o st,Ab (gu true (CJ (s.extract 2 s.size) 7 62)) _=_∧_;rw[Ab5,en,Aa];exact⟨_,_,rfl,fun h=>(by cases h),fun _ _=>⟨rfl,rfl⟩⟩
def upV (s:ByteArray):ByteArray:=(H8 s).getD ⟨#[]⟩
theorem Adh (s:ByteArray):H8 s=some (upV s)∧(upV s=⟨#[]⟩∨(isB (toL s) 8 64=true∧∃p,toL s=p++46::toL (upV s)∧(46:UInt8)∉p)):=by
 have key: ∃u,H8 s=some u∧(u=⟨#[]⟩∨(isB (toL s) 8 64=true∧∃p,toL s=p++46::toL u∧(46:UInt8)∉p)):=by
  unfold H8;rw[AbY,Aa];cases h1:isB (toL s) 8 64 with
  |false=>exact⟨_,rfl,.inl rfl⟩
  |true=>
   have hz:(toL s).length=s.size:=Ce s;have hs:s.size≤64:=by
    unfold isB at h1;simp only[Aie,Aiq]at h1;have:=h1.1.1; omega
   have hx:A1 s (⟨#[46]⟩:ByteArray)=some (AbU s 46):=by
    have h:=V4 s (by omega);unfold Cg at h;cases q:A1 s (⟨#[46]⟩:ByteArray)with
    |none=>rw[q]at h; cases h
    |some v=>rw[q]at h; exact h
   rw[Ail (by decide)];unfold Lx DP;rw[hx,Aa];rcases RK s.data.toList 46 with ⟨h2,h3⟩|⟨p,r,h2,h3,h4⟩
   ·rw[show AbU s 46= -1 from h2,Ail (by decide)];exact⟨_,rfl,.inl rfl⟩
   ·have hl:s.size=p.length+1+r.length:=by rw[←Ce,h2,Aik,Aij]; omega
    have e1:US s 0 (p.length:Int)=some (s.extract 0 p.length):=by
     rw[Iv (by omega) (by omega) (by omega)]; rfl
    have e2:US s (w64 ((p.length:Int)+((⟨#[46]⟩:ByteArray).size:Int))) (s.size:Int)=some (s.extract (p.length+1) s.size):=by
     have:((⟨#[46]⟩:ByteArray).size:Int)=1:=rfl;rw[this,GY (by omega) (by omega),Iv (by omega) (by omega) (by omega)];rfl
    rw[show AbU s 46=(p.length:Int)from h4,Ain (by rw[Aiq]; omega),e1,Aa,e2,Aa,Aa,Aa];refine⟨_,rfl,.inr ⟨rfl,p,?_,h3⟩⟩;have l2:(s.extract (p.length+1) s.size).data.toList=r:=by
     rw[OZ,←Ce,List.take_length,h2];rw[←Ajb,List.drop_left]; rfl
    show s.data.toList=_;rw[show toL (s.extract (p.length+1) s.size)=r from l2]; exact h2
 obtain⟨u,h,h'⟩:=key;have e:upV s=u:=by unfold upV; rw[h]; rfl
 rw[e]; exact⟨h,h'⟩
theorem up_lt (s:ByteArray):upV s=⟨#[]⟩∨(upV s).size<s.size:=by
 rcases(Adh s).2 with h|⟨_,p,h,_⟩
 ·exact .inl h
 ·refine .inr ?_;rw[←Ce,←Ce s];show(toL (upV s)).length<(toL s).length;rw[h,Aik,Aij]; omega
theorem up_64 (s:ByteArray):(upV s).size≤64:=by
 rcases(Adh s).2 with h|⟨h1,p,h,_⟩
 ·rw[h]; exact Ajf _
 ·unfold isB at h1;simp only[Aie,Aiq]at h1;have:=h1.1.1;rw[h,Aik,Aij]at this;rw[←Ce];show(toL (upV s)).length≤64;omega
def belF:Nat→ByteArray→ByteArray→Bool
 |0,_,_=>false
 |n+1,s,o=>if eqS s ⟨#[]⟩=true then false else if eqS s o=true then true else belF n (upV s) o
def belV (s o:ByteArray):Bool:=belF 100 (upV s) o
theorem Acj (s:ByteArray)(h: ¬eqS s ⟨#[]⟩=true):1≤s.size:=by
 rcases Nat.eq_zero_or_pos s.size with q|q
 ·refine absurd (RS.2 ?_) h;exact ByteArray.ext (Array.eq_empty_of_size_eq_zero q)
 ·exact q
theorem Tv (o:ByteArray): ∀(n:Nat) (s:ByteArray),s.size<n→
  ∃z,iter (Fu (fun(s:(Bool)×Nat) (b0:ByteArray)=>if s.2=0 then Ab (E4 o b0 s) fun y=>some (y.2==0,y)else none)) n (s,(false,0))=some (z,if belF n s o=true then(true,1)else(false,0))
 |0,s,h=>by omega
 |n+1,s,h=>by
  show∃z,Ab (Fu _ (s,(false,0))) _=_;unfold Fu belF;by_cases h1:eqS s ⟨#[]⟩=true
  ·rw[h1];exact⟨s,rfl⟩
  ·have h1':eqS s ⟨#[]⟩=false:=by simpa using h1
   rw[h1'];unfold E4;by_cases h2:eqS s o=true
   ·refine⟨s,?_⟩;simp only[h2];rfl
   ·have h2':eqS s o=false:=by simpa using h2
    have hlt:(upV s).size<n:=by
     have:=Acj s h1;rcases up_lt s with q|q
     ·rw[q]; show 0<n; omega
     ·omega
    obtain⟨z,ih⟩:=Tv o n (upV s) hlt;refine⟨z,?_⟩;simp only[h2',if_true,if_false,Bool.false_eq_true,Aa,(Adh s).1];exact ih
theorem AeS (s o:ByteArray):Gj s o=some (belV s o):=by
 obtain⟨z,h⟩:=Tv o 100 (upV s) (by have:=up_64 s; omega);unfold Gj Lz JK;rw[Aa,(Adh s).1,Aa,LK 100 h (by decide),Aa,Aa];unfold belV;cases belF 100 (upV s) o<;>rfl
def matV (p s:ByteArray):Bool:=isB (toL s) 8 64&&(if isB (toL p) 8 64=true then eqS p s else Adp (toL p)&&belV s (p.extract 2 p.size))
theorem AdZ (p s:ByteArray):Jj p s=some (matV p s):=by
 obtain⟨o,st,h,h1,h2⟩:=Zy p;unfold Jj matV;rw[h,Aa,AbY];cases q1:isB (toL p) 8 64 with
 |true=>
  obtain⟨rfl,rfl⟩:=h1 q1;rw[Bool.true_or];cases isB (toL s) 8 64<;>rfl
 |false=>
  rw[Ai8];cases q2:Adp (toL p)with
  |false=>cases isB (toL s) 8 64<;>rfl
  |true=>
   obtain⟨rfl,rfl⟩:=h2 q1 q2;cases isB (toL s) 8 64 with
   |false=>rfl
   |true=>
    show Ab (Gj s _) _=_;rw[AeS]; rfl
theorem Ad5 {α:Type}{l:List α}(h:l≠[])(hs:l.length≤1000): ∃x,l.getLast? =some x∧idx l (w64 ((l.length:Int)-1))=some x:=by
 have h1:1≤l.length:=List.length_pos_iff.2 h;refine⟨l.getLast h,List.getLast?_eq_some_getLast h,?_⟩;rw[GY (by omega) (by omega)];have e:(l.length:Int)-1=((l.length-1:Nat):Int):=by omega
 rw[e];refine Jt ?_;rw[←List.getLast?_eq_getElem?,List.getLast?_eq_some_getLast h]
theorem AeG {α:Type}(a:α)(l:List α):cut (a::l) 1 ((a::l).length:Int)=some l:=by
 have h:=AhS [a] l;simpa using h
def timeB (c:g_api_Cert)(now:Int):Bool:=decide (c.From≤now)&&decide (c.Until>now)
theorem Vz (t:g_path_trip)(c:g_api_Cert):Fq t c=some (timeB c t.now_):=rfl
def Afx (c:g_api_Cert)(n:ByteArray):Bool:=c.Permit.any fun p=>matV p n
theorem Zv (n:ByteArray)(c:g_api_Cert):E3 n c=some (!Afx c n,c):=by
 obtain⟨j,h⟩:=O1 (body:=A7 c.Permit) c.Permit (fun p=>matV p n) n (fun k=>((k:Int),n)) (fun k x hx=>by
  unfold A7 Hx;rw[Jt hx,Aa,AdZ,Aa,Aa];cases matV x n<;>rfl) c.Permit 0 rfl
 have h:B6 (A7 c.Permit) c.Permit.length 0 n=_:=h;unfold E3 BR B3 Afx;rw[h,Aa];cases c.Permit.any fun p=>matV p n with
 |true=>
  show some (!decide ((j:Int)≥0),c)=_;rw[AiI (by omega)]
 |false=>rfl
theorem SD (l:List ByteArray)(c:g_api_Cert):A9 l c=some (l.any fun n=> !Afx c n,c):=by
 obtain⟨j,h⟩:=O1 (body:=A8 l) l (fun n=> !Afx c n) (c.Serial,c.Issuer,c.Subject,c.Key,c.Names,c.From,c.Until,c.Ca,c.Depth,c.Permit,c.Proms,c.Sig.E,c.Sig.S) (fun k=>((k:Int),c)) (fun k x hx=>by
  unfold A8;rw[Jt hx,Aa];show Ab (E3 x c) _=_;rw[Zv,Aa];cases Afx c x<;>rfl) l 0 rfl
 have h:B6 (A8 l) l.length 0 (c.Serial,c.Issuer,c.Subject,c.Key,c.Names,c.From,c.Until,c.Ca,c.Depth,c.Permit,c.Proms,c.Sig.E,c.Sig.S)=_:=h;unfold A9 B4;rw[h,Aa];cases l.any fun n=> !Afx c n with
 |true=>
  show some (decide ((j:Int)≥0),c)=_;rw[AiI (by omega)]
 |false=>rfl
def AgU (names:List ByteArray)(i:Nat)(c:g_api_Cert):Int:=if c.Depth<(i:Int)then 191 else if 0<c.Permit.length∧(names.any fun n=> !Afx c n)=true then 110 else 0
def byV (chain:List g_api_Cert)(now:Int)(root:g_api_Cert):Int:=
 match chain with
 | []=>1
 |leaf::more=>
  let e:=RG ((leaf::more).getLast (by simp)) root
  if e≠0 then e else if timeB root now=false then 190 else Aes (AgU leaf.Names) 0 (more++[root])
theorem by_eq (roots:List g_api_Cert)(leaf:g_api_Cert)(more:List g_api_Cert)(name:ByteArray)(now:Int)(root:g_api_Cert)(hn:more.length≤100):
  GG ⟨roots,leaf::more,name,now⟩ root=some (byV (leaf::more) now root):=by
 obtain⟨x,hx,hi⟩:=Ad5 (l:=leaf::more) (by simp) (by simp; omega);have hx:(leaf::more).getLast (by simp)=x:=by rw[List.getLast?_eq_some_getLast (by simp)]at hx; exact Aid hx
 unfold GG byV;simp only[hx];show Ab (idx (leaf::more) (w64 (((leaf::more).length:Int)-1))) _=_;rw[hi,Aa,Afy,Aa];by_cases h1:RG x root=0
 ·rw[Ail (show¬((RG x root !=0)=true)from by simpa using h1),Ail (nn0 h1),Vz,Aa];show(if(!timeB root now)=true then some 190 else _)=_;cases timeB root now with
  |false=>rfl
  |true=>
   rw[Ail (by decide),Ail (by decide)];have ec:cut (leaf::more) 1 ((leaf::more).length:Int)=some more:=AeG leaf more;show Ab (cut (leaf::more) 1 ((leaf::more).length:Int)) _=_;rw[ec,Aa];unfold A0;rw[U6 168 (by simp; omega) (by simp; omega),Aa,Aa,Ai5,U6 168 (by simp; omega) (by simp; omega),Aa];have e:=Wc (body:=Gf ⟨roots,leaf::more,name,now⟩ (more++[root])) (AgU leaf.Names) (more++[root]) (fun k c hc=>by
    unfold Gf;rw[Jt hc,Aa,DS];unfold AgU;by_cases h2:c.Depth<(k:Int)
    ·rw[Ain h2,Ain (by simpa using h2)]; rfl
    ·rw[Ail h2,Ail (by simpa using h2)];by_cases h3:0<c.Permit.length
     ·rw[Ain (by rw[Aiq]; omega)];show Ab (some leaf) _=_;rw[Aa,SD,Aa];cases leaf.Names.any fun n=> !Afx c n with
      |true=>rw[Ain rfl,Ain ⟨h3,rfl⟩]; rfl
      |false=>rw[Ail (by simp),Ail (by simp)]; rfl
     ·rw[Ail (by rw[Aiq]; omega),Ail (by simp[h3])]; rfl) (more++[root]) 0 rfl
   have e:B6 (Gf ⟨roots,leaf::more,name,now⟩ (more++[root])) (more++[root]).length 0 ()=_:=e;rw[e,Aa];exact Xl
 ·rw[Ain (show(RG x root !=0)=true from by simpa using h1),Ain h1]
def Lc (roots chain:List g_api_Cert)(name:ByteArray)(now:Int):Int:=if chain.length=0∨4<chain.length∨16<roots.length∨now<0∨now>1099511627776 then 1 else nameV name
def caB:Nat→List g_api_Cert→Bool
 |_,[]=>true
 |i,c::r=>(c.Ca==decide (0<i))&&caB (i+1) r
def NJ (chain:List g_api_Cert)(name:ByteArray)(now:Int):Int:=if caB 0 chain=false then 191 else match chain with| []=>1|leaf::_=>if(leaf.Names.any fun s=>eqS name s)=false then 110 else if(chain.any fun c=> !timeB c now)=true then 190 else 0
def linksV:List g_api_Cert→Int
 |a::b::r=>if RG a b≠0 then RG a b else linksV (b::r)
 |_=>0
def MD (chain:List g_api_Cert)(now:Int)(roots:List g_api_Cert):Int:=if(roots.any fun r=>byV chain now r==0)=true then 0 else match roots with| []=>191|r::_=>byV chain now r
def Xu (l:List g_api_Cert):Int:=Aes (fun _ c=>checkV c) 0 l
def W4 (roots chain:List g_api_Cert)(name:ByteArray)(now:Int):Int:=if Lc roots chain name now≠0 then Lc roots chain name now else if Xu (chain++roots)≠0 then Xu (chain++roots)else if NJ chain name now≠0 then NJ chain name now else if linksV chain≠0 then linksV chain else MD chain now roots
theorem ZW (n r:Nat)(now:Int):((((((n:Int)==0)||(decide ((n:Int)>4)))||(decide ((r:Int)>16)))||(decide (now<0)))||(decide (now>1099511627776)))=decide (n=0∨4<n∨16<r∨now<0∨now>1099511627776):=by
 rw[Ajd];simp only[AiZ,Aiq,Ai2];have e1:(n:Int)=0↔n=0:=by omega
 have e2:(n:Int)>4↔4<n:=by omega
 have e3:(r:Int)>16↔16<r:=by omega
 rw[e1,e2,e3,or_assoc,or_assoc,or_assoc]
theorem AcI (t:g_path_trip):Ft t=some (Lc t.roots_ t.chain_ t.name_ t.now_):=by
 obtain⟨ro,ch,nm,nw⟩:=t;unfold Ft Lc;dsimp only;rw[Uz,Aa,ZW];by_cases h:ch.length=0∨4<ch.length∨16<ro.length∨nw<0∨nw>1099511627776
 ·rw[Ain h,Ain (AiI h)]
 ·rw[Ail h,Ail (fun q=>h (AiU q))]
theorem Aem (n:Nat)(h:n≤10000):A3 (n:Int)=some []:=by
 unfold A3;rw[Ai1 (show¬((n:Int)<0)from by omega),Ail (by decide),Aa,DS];have e0:w64 (0-((0:Nat):Int))=0:=GY (by decide) (by decide);have e1:w64 ((n:Int)-w64 (0-((0:Nat):Int)))=(n:Int):=by
  rw[e0,Int.sub_zero];exact GY (by omega) (by omega)
 rw[e1];by_cases h0:n=0
 ·rw[Ai1 (show¬((n:Int)>0)from by omega),Ail (by decide),Aa]
 ·rw[AiI (show(n:Int)>0 from by omega),Ain rfl,Ain ⟨by omega,by omega,by omega⟩,Aa]
theorem Agn (a b:List g_api_Cert)(ha:a.length≤1000)(hb:b.length≤1000):DA Az ([a,b]:List (List g_api_Cert)) 0 0=some ((a.length+b.length:Nat):Int):=by
 have e: ∀(n:Nat) (i:Int) (x:List g_api_Cert),n+x.length≤10000→Az i x (n:Int)=some ((n+x.length:Nat):Int):=by
  intro n i x h;have e1:w64 ((n:Int)+(x.length:Int))=((n+x.length:Nat):Int):=by
   rw[GY (by omega) (by omega)]; exact(Int.natCast_add _ _).symm
  unfold Az;rw[DS,e1,Ai1 (show¬(((n+x.length:Nat):Int)<0)from by omega),Ail (by decide),Aa]
 have e0:=e 0 0 a (by omega);have e1:=e a.length (0+1) b (by omega);rw[AiN]at e0;show Ab (Az 0 a ((0:Nat):Int)) (fun s=>Ab (Az (0+1) b s) fun s=>some s)=_;rw[e0,Aa,e1,Aa]
theorem Acw (a b:List g_api_Cert)(ha:a.length≤1000)(hb:b.length≤1000):AY ([a,b]:List (List g_api_Cert))=some (a++b):=by
 unfold AY;rw[Agn a b ha hb,Aa,Aa,Aem _ (by omega),Aa];have e:DA AF ([a,b]:List (List g_api_Cert)) 0 []=some (a++b):=by
  show Ab (AF 0 a []) (fun s=>Ab (AF (0+1) b s) fun s=>some s)=_;unfold AF;rw[U6 168 (by simp; omega) (by simp; omega),Aa,Aa,Ai5,U6 168 (by omega) (by omega),Aa,Aa]
 rw[e,Aa,Aa]
theorem VO (t:g_path_trip)(ha:t.chain_.length≤1000)(hb:t.roots_.length≤1000):GP t=some (Xu (t.chain_++t.roots_)):=by
 unfold GP;rw[Acw _ _ ha hb,Aa];have e:=RT (body:=EI) (fun _ c=>checkV c) (t.chain_++t.roots_) 0 (fun k x _=>by
  unfold EI;rw[O6,Aa];unfold fsO;by_cases h:checkV x=0
  ·rw[Ain h,Ail (by simpa using h)]
  ·rw[Ail h,Ain (by simpa using h)])
 have e:EV EI (t.chain_++t.roots_) 0 ()=_:=e;rw[e,Aa];exact Xl
theorem Tg (t:g_path_trip): ∀(r:List g_api_Cert) (i:Nat) (s:Bool),t.chain_.drop i=r→B6 (CI t) r.length (i:Int) s=some (if caB i r=true then .inl (s||r.any fun c=> !timeB c t.now_)else .inr 191)
 | [],i,s,_=>by show some (Sum.inl s)=_; simp[caB]
 |c::r,i,s,hd=>by
  obtain⟨hc,hr,hlt⟩:=R1 hd;have ih:=Tg t r (i+1) (s|| !timeB c t.now_) hr;show Ab (CI t (i:Int) s) _=_;have e:CI t (i:Int) s=some (if(c.Ca==decide (0<i))=true then .inl (s|| !timeB c t.now_)else .inr 191):=by
   unfold CI;rw[Jt hc,Aa,Vz];have ed:decide ((i:Int)>0)=decide (0<i):=by rw[Ajh]; omega
   rw[ed];cases s with
   |true=>
    show Ab (some default) _=_;rw[Aa];cases c.Ca==decide (0<i)<;>rfl
   |false=>
    show Ab (some (timeB c t.now_)) _=_;rw[Aa];cases c.Ca==decide (0<i)<;>rfl
  rw[e];unfold caB;cases c.Ca==decide (0<i)with
  |false=>rfl
  |true=>
   rw[Ain rfl,Aa,AiR,List.any_cons,←Bool.or_assoc];exact ih
theorem has_eq (l:List ByteArray)(n:ByteArray):B0 l n=some (l.any fun s=>eqS n s):=by
 obtain⟨j,h⟩:=O1 (body:=BZ l n) l (fun s=>eqS n s) () (fun k=>(k:Int)) (fun k x hx=>by
  unfold BZ;rw[Jt hx,Aa];cases eqS n x<;>rfl) l 0 rfl
 have h:B6 (BZ l n) l.length 0 ()=_:=h;unfold B0 Dh;rw[h,Aa];cases l.any fun s=>eqS n s with
 |true=>
  show some (decide ((j:Int)≥0))=_;rw[AiI (by omega)]
 |false=>rfl
theorem Ad8 (t:g_path_trip)(h:t.chain_≠[]):Ge t=some (NJ t.chain_ t.name_ t.now_):=by
 unfold Ge NJ;rw[show B6 (CI t) t.chain_.length 0 false=_ from Tg t t.chain_ 0 false rfl,Aa];cases caB 0 t.chain_ with
 |false=>rfl
 |true=>
  rw[Ain rfl,Ail (by decide)];cases hl:t.chain_ with
  |nil=>exact absurd hl h
  |cons leaf more=>
   show Ab (some leaf) _=_;rw[Aa,has_eq,Aa,Ai8];show _=some (if(leaf.Names.any fun s=>eqS t.name_ s)=false then 110 else _);cases leaf.Names.any fun s=>eqS t.name_ s with
   |false=>rfl
   |true=>
    cases (leaf::more).any fun c=> !timeB c t.now_<;>rfl
theorem Ta (t:g_path_trip)(hn:t.chain_.length≤1000): ∀(r:List g_api_Cert) (a:g_api_Cert) (i:Nat),t.chain_.drop i=a::r→B6 (CH t) r.length (i:Int) ()=some (fsO (linksV (a::r)))
 | [],a,i,_=>rfl
 |b::r,a,i,hd=>by
  obtain⟨ha,hr,hlt⟩:=R1 hd;obtain⟨hb,hr2,hlt2⟩:=R1 hr;have ih:=Ta t hn r b (i+1) hr;show Ab (CH t (i:Int) ()) _=_;have e:CH t (i:Int) ()=some (fsO (RG a b)):=by
   unfold CH fsO;rw[Jt ha,Aa,Age (by omega),Jt hb,Aa,Afy,Aa];by_cases h:RG a b=0
   ·rw[Ain h,Ail (by simpa using h)]
   ·rw[Ail h,Ain (by simpa using h)]
  rw[e,Aa];unfold linksV;by_cases h:RG a b=0
  ·rw[Ail (nn0 h),h];exact ih
  ·rw[Ain h];unfold fsO;rw[Ail h]
theorem Ad3 (t:g_path_trip)(h:t.chain_≠[])(hn:t.chain_.length≤1000):Gd t=some (linksV t.chain_):=by
 unfold Gd;cases hl:t.chain_ with
 |nil=>exact absurd hl h
 |cons a r=>
  have e1:Int.toNat (w64 (((a::r).length:Int)-1))=r.length:=by
   rw[hl,Aij]at hn;have e0:((a::r).length:Int)-1=(r.length:Int):=by simp
   rw[e0,GY (by omega) (by omega),Ajg]
  rw[e1,show B6 (CH t) r.length 0 ()=_ from Ta t hn r a 0 hl,Aa];exact Xl
theorem P1 (t:g_path_trip)(hc:t.chain_≠[])(hn:t.chain_.length≤100)(hr:t.roots_.length≤1000): ∀(i n:Nat) (e:Int),i≤t.roots_.length→i<n→
  iter (Cc t) n (e,(i:Int)-1)=some (if((t.roots_.take i).any fun r=>byV t.chain_ t.now_ r==0)=true then .inr 0 else .inl (match t.roots_.take i with| []=>e|r::_=>byV t.chain_ t.now_ r))
 |0,n,e,_,hn0=>by
  obtain⟨n,rfl⟩: ∃q,n=q+1:=⟨n-1,by omega⟩;rfl
 |i+1,n,e,hi,hn0=>by
  obtain⟨n,rfl⟩: ∃q,n=q+1:=⟨n-1,by omega⟩;have hlt:i<t.roots_.length:=by omega
  have hx:t.roots_[i]? =some t.roots_[i]:=AiJ hlt;have eb:GG t t.roots_[i]=some (byV t.chain_ t.now_ t.roots_[i]):=by
   obtain⟨ro,ch,nm,nw⟩:=t;cases ch with
   |nil=>exact absurd rfl hc
   |cons a r=>exact by_eq _ a r _ _ _ (by simp only[Aij]at hn; omega)
  have e1:((i+1:Nat):Int)-1=(i:Int):=by omega
  rw[e1];show Ab (Cc t (e,(i:Int))) _=_;have es:Cc t (e,(i:Int))=some (if(byV t.chain_ t.now_ t.roots_[i]==0)=true then .inr (.inr 0)else .inl (byV t.chain_ t.now_ t.roots_[i],(i:Int)-1)):=by
   unfold Cc;rw[Ain (by rw[Aiq]; show(i:Int)≥0; omega)];show Ab (idx t.roots_ (i:Int)) _=_;rw[Jt hx,Aa,eb,Aa];cases byV t.chain_ t.now_ t.roots_[i]==0 with
   |true=>rfl
   |false=>
    rw[Ail (by decide),Ail (by decide)];show some (Sum.inl (_,w64 ((i:Int)-1)))=_;rw[GY (by omega) (by omega)]
  rw[es,Aa];have et:t.roots_.take (i+1)=t.roots_.take i++[t.roots_[i]]:=by rw[List.take_add_one,hx]; rfl
  rw[et,List.any_append];have ih:=P1 t hc hn hr i n (byV t.chain_ t.now_ t.roots_[i]) (by omega) (by omega);cases hb:byV t.chain_ t.now_ t.roots_[i]==0 with
  |true=>
   rw[Ain rfl];have:(([t.roots_[i]]:List g_api_Cert).any fun r=>byV t.chain_ t.now_ r==0)=true:=by simp[hb]
   rw[this,Bool.or_true,Ain rfl]
  |false=>
   rw[Ail (by decide)];show iter (Cc t) n (_,(i:Int)-1)=_;rw[ih];have:(([t.roots_[i]]:List g_api_Cert).any fun r=>byV t.chain_ t.now_ r==0)=false:=by simp[hb]
   rw[this,Bool.or_false];cases (t.roots_.take i).any fun r=>byV t.chain_ t.now_ r==0 with
   |true=>rfl
   |false=>cases t.roots_.take i<;>rfl
theorem Zi (t:g_path_trip)(hc:t.chain_≠[])(hn:t.chain_.length≤100)(hr:t.roots_.length≤1000):EH t=some (MD t.chain_ t.now_ t.roots_):=by
 unfold EH MD;rw[DS,GY (by omega) (by omega),P1 t hc hn hr t.roots_.length Gr 191 (Aim _) (by have:=Kv; omega),Aa,List.take_length];cases t.roots_.any fun r=>byV t.chain_ t.now_ r==0 with
 |true=>rfl
 |false=>cases t.roots_<;>rfl
theorem row_b1 (x:Fk)(i e:Int)(h:GJ x=some e):Gg i x ()=some (fsO e):=by
 unfold Gg fsO;rw[h,Aa];by_cases h:e=0
 ·rw[Ain h,Ail (by simpa using h)]
 ·rw[Ail h,Ain (by simpa using h)]
theorem OG (x:Fk)(l:List Fk)(i e:Int)(h:GJ x=some e):EV Gg (x::l) i ()=if e≠0 then some (.inr e)else EV Gg l (i+1) ():=by
 show Ab (Gg i x ()) _=_;rw[row_b1 x i e h,Aa];unfold fsO;by_cases h:e=0
 ·rw[Ain h,Ail (by simpa using h)]
 ·rw[Ail h,Ain h]
theorem Rt (roots chain:List g_api_Cert)(name:ByteArray)(now:Int):m_path_Check roots chain name now=some (W4 roots chain name now):=by
 unfold m_path_Check PC W4;generalize ht:(⟨roots,chain,name,now⟩:g_path_trip)=t;have h1:t.roots_=roots:=by rw[←ht]
 have h2:t.chain_=chain:=by rw[←ht]
 have h3:t.name_=name:=by rw[←ht]
 have h4:t.now_=now:=by rw[←ht]
 have d1:GJ ⟨72,t⟩=some (Lc roots chain name now):=by rw[←h1,←h2,←h3,←h4]; exact AcI t
 rw[OG _ _ _ _ d1];by_cases z1:Lc roots chain name now=0
 ·have hb: ¬(chain.length=0∨4<chain.length∨16<roots.length∨now<0∨now>1099511627776):=by
   intro h;unfold Lc at z1;rw[Ain h]at z1;cases z1
  have hne:chain≠[]:=fun h=>hb (.inl (by rw[h]; rfl));have d2:GJ ⟨73,t⟩=some (Xu (chain++roots)):=by rw[←h1,←h2]; exact VO t (by rw[h2]; omega) (by rw[h1]; omega)
  have d3:GJ ⟨74,t⟩=some (NJ chain name now):=by rw[←h2,←h3,←h4]; exact Ad8 t (by rw[h2]; exact hne)
  have d4:GJ ⟨75,t⟩=some (linksV chain):=by rw[←h2]; exact Ad3 t (by rw[h2]; exact hne) (by rw[h2]; omega)
  have d5:GJ ⟨76,t⟩=some (MD chain now roots):=by rw[←h1,←h2,←h4]; exact Zi t (by rw[h2]; exact hne) (by rw[h2]; omega) (by rw[h1]; omega)
  rw[Ail (nn0 z1),Ail (nn0 z1),OG _ _ _ _ d2];by_cases z2:Xu (chain++roots)=0
  ·rw[Ail (nn0 z2),Ail (nn0 z2),OG _ _ _ _ d3];by_cases z3:NJ chain name now=0
   ·rw[Ail (nn0 z3),Ail (nn0 z3),OG _ _ _ _ d4];by_cases z4:linksV chain=0
    ·rw[Ail (nn0 z4),Ail (nn0 z4),OG _ _ _ _ d5];by_cases z5:MD chain now roots=0
     ·rw[Ail (nn0 z5),z5]; rfl
     ·rw[Ain z5]; rfl
    ·rw[Ain z4,Ain z4]; rfl
   ·rw[Ain z3,Ain z3]; rfl
  ·rw[Ain z2,Ain z2]; rfl
 ·rw[Ain z1,Ain z1]; rfl
structure Qi (roots:List g_api_Cert)(leaf:g_api_Cert)(more:List g_api_Cert)(name:ByteArray)(now:Int):Prop where
 len:more.length≤3
 rts:roots.length≤16
 now0:0≤now
 nowM:now≤1099511627776
 nam:nameV name=0
 all: ∀c∈leaf::more++roots,checkV c=0
 kin:caB 0 (leaf::more)=true
 has:(leaf.Names.any fun s=>eqS name s)=true
 tim: ∀c∈leaf::more,timeB c now=true
 lnk:linksV (leaf::more)=0
theorem AdL {roots chain:List g_api_Cert}{name:ByteArray}{now:Int}(h:Lc roots chain name now=0)(h2:Xu (chain++roots)=0)(h3:NJ chain name now=0)(h4:linksV chain=0):
  ∃leaf more,chain=leaf::more∧Qi roots leaf more name now:=by
 unfold Lc at h;split at h
 ·cases h
 rename_i hb;cases chain with
 |nil=>exact absurd (.inl rfl) hb
 |cons leaf more=>
  refine⟨leaf,more,rfl,?_⟩;unfold NJ at h3;split at h3
  ·cases h3
  rename_i hk;have h3:(if(leaf.Names.any fun s=>eqS name s)=false then(110:Int)else if((leaf::more).any fun c=> !timeB c now)=true then 190 else 0)=0:=h3;split at h3
  ·cases h3
  rename_i hh;split at h3
  ·cases h3
  rename_i ht;have ha:=(RM _ _ _).1 h2;refine⟨?_,by omega,by omega,by omega,h,?_,by simpa using hk,by simpa using hh,?_,h4⟩
  ·simp only[Aij]at hb; omega
  ·intro c hc;obtain⟨k,hk⟩:=List.mem_iff_getElem?.1 hc;exact ha k c hk
  ·intro c hc;cases q:timeB c now with
   |true=>rfl
   |false=>exact absurd (List.any_eq_true.2 ⟨c,hc,by rw[q]; rfl⟩) ht
theorem PA {roots chain:List g_api_Cert}{name:ByteArray}{now:Int}(h:W4 roots chain name now=0): ∃leaf more,chain=leaf::more∧Qi roots leaf more name now∧MD (leaf::more) now roots=0:=by
 unfold W4 at h;split at h
 ·contradiction
 split at h
 ·contradiction
 split at h
 ·contradiction
 split at h
 ·contradiction
 rename_i h1 h2 h3 h4;obtain⟨leaf,more,rfl,hp⟩:=AdL (by simpa using h1) (by simpa using h2) (by simpa using h3) (by simpa using h4);exact⟨leaf,more,rfl,hp,h⟩
theorem AdV {b:List UInt8}(h:b.length≤3000):D1 b=some (Afh (⟨#[108,101,97,102]⟩:ByteArray) [b]):=by
 unfold D1;rw[OC _ _ (by simp[Ac1]; omega)];rfl
theorem AeP {c:g_api_Cert}(h:Okc c):m_cert_Leaf c=some (Afh (⟨#[108,101,97,102]⟩:ByteArray) [Zw c],0):=by
 unfold m_cert_Leaf;have:=Afi h;rw[Ah2 h,Aa,Ail (by simp)];show Ab (D1 (Zw c)) _=_;rw[AdV (by omega)];rfl
theorem Tl {α σ τ:Type}{body:Int→σ→Option (σ⊕τ)}(xs:List α)(p:α→Bool)(s:σ)(g:Nat→τ)(h: ∀(i:Nat) (x:α),xs[i]? =some x→body (i:Int) s=some (if p x=true then .inr (g i)else .inl s)):
  ∀(k i:Nat),i+k=xs.length→∃r,B6 body k (i:Int) s=some r∧((∃(j:Nat) (x:α),xs[j]? =some x∧p x=true∧r= .inr (g j))∨((∀x∈xs.drop i,p x=false)∧r= .inl s))
 |0,i,hi=>⟨.inl s,rfl,.inr ⟨(fun x hx=>by rw[AiW (by omega)]at hx; cases hx),rfl⟩⟩
 |k+1,i,hi=>by
  have hx:xs[i]? =some xs[i]:=AiJ (by omega);show∃r,Ab (body (i:Int) s) _=_∧_;rw[h i _ hx];cases hp:p xs[i]with
  |true=>exact⟨_,rfl,.inl ⟨i,_,hx,hp,rfl⟩⟩
  |false=>
   obtain⟨r,h1,h2⟩:=Tl xs p s g h k (i+1) (by omega);refine⟨r,h1,?_⟩;rcases h2 with q|⟨q,e⟩
   ·exact .inl q
   ·refine .inr ⟨fun x hx'=> ?_,e⟩;rw[List.drop_eq_getElem_cons (by omega)]at hx';rcases AiO.1 hx' with w|w
    ·rw[w]; exact hp
    ·exact q x w
theorem G6 {α σ τ:Type}{body:Int→σ→Option (σ⊕τ)}(xs:List α)(p:α→Bool)(s:σ)(g:Nat→τ)(h: ∀(i:Nat) (x:α),xs[i]? =some x→body (i:Int) s=some (if p x=true then .inr (g i)else .inl s)):
  ∃r,B6 body xs.length 0 s=some r∧((∃(j:Nat) (x:α),xs[j]? =some x∧p x=true∧r= .inr (g j))∨(xs.any p=false∧r= .inl s)):=by
 obtain⟨r,h1,h2⟩:=Tl xs p s g h xs.length 0 (by omega);refine⟨r,h1,?_⟩;rcases h2 with q|⟨q,e⟩
 ·exact .inl q
 ·exact .inr ⟨List.any_eq_false.2 fun x hx=>by rw[q x (by simpa using hx)]; decide,e⟩
theorem Wq {α:Type}{xs:List α}{p:α→Bool}{j:Nat}{x:α}(h:xs[j]? =some x)(hp:p x=true):xs.any p=true:=List.any_eq_true.2 ⟨x,AiL h,hp⟩
theorem Aht {α:Type} [Inhabited α]{o:Option α}:gu true o=o:=rfl
theorem ge0 (j:Nat):decide ((j:Int)≥0)=true:=AiI (by omega)
theorem Ah3 (k:UInt64): ∃b,FX k=some b:=by
 unfold FX;obtain⟨x,hx⟩:=LN ((decide ((k.toNat:Int)>0))&&(decide ((k.toNat:Int)<2305843009213691579))) (o:=EA k 1152921504606845789) ⟨_,Yi _ _⟩;rw[hx,Aa];exact⟨_,rfl⟩
theorem XA (n:Int):CE n=some (decide (0≤n)&&decide (n≤1099511627776)):=rfl
theorem VJ (l:List g_api_Cert): ∃b,Aw l=some b:=by
 unfold Aw A5;obtain⟨r,h1,h2⟩:=G6 (body:=AJ l) l (fun c=>(!c.Ca)||((if c.Ca=true then checkV c else default) !=0)) () (fun i=>(i:Int)) (fun i x hx=>by
  unfold AJ D5;rw[Dd hx,Aa];have:gu (!(!x.Ca)) (Cv x)=some (if x.Ca=true then checkV x else default):=by
   rw[O6]; cases x.Ca<;>rfl
  rw[this,Aa,Aa];cases ((!x.Ca)||((if x.Ca=true then checkV x else default) !=0))<;>rfl)
 rw[h1,Aa];cases r<;>exact⟨_,rfl⟩
theorem Agd (l:List UInt8): ∃b,Bw l=some b:=by
 unfold Bw CC;obtain⟨r,h1,h2⟩:=G6 (body:=Ch l) l (fun c=>(decide ((c.toNat:Int)<33))||(decide ((c.toNat:Int)>126))) () (fun i=>(i:Int)) (fun i x hx=>by
  unfold Ch FZ;rw[Dd hx,Aa,De,Aa];cases ((decide ((x.toNat:Int)<33))||(decide ((x.toNat:Int)>126)))<;>rfl)
 rw[h1,Aa];cases r<;>exact⟨_,rfl⟩
theorem keysB: ∀(l:List g_api_Key) (i s:Int),∃r,EV DK l i s=some r
 | [],i,s=>⟨_,rfl⟩
 |x::l,i,s=>by
  show∃r,Ab (DK i x s) _=_;unfold DK;obtain⟨a,ha⟩:=LN (!(decide (x.Log≤s))) (o:=CE x.Log) ⟨_,XA _⟩;rw[ha,Aa];obtain⟨b,hb⟩:=LN (!((decide (x.Log≤s))||(!a))) (o:=CE x.Delay) ⟨_,XA _⟩;rw[hb,Aa];obtain⟨c,hc⟩:=LN (!(((decide (x.Log≤s))||(!a))||(!b))) (Ah3 x.Key);rw[hc,Aa];split
  ·exact⟨_,rfl⟩
  ·exact keysB l (i+1) _
theorem Yv (a:Aj): ∃e,BW a=some e:=by
 unfold BW;split
 ·obtain⟨b,hb⟩:=LN (!((true||((a.Client.Roots.length:Int)==0))||(decide ((a.Client.Roots.length:Int)>8)))) (VJ a.Client.Roots);rw[hb,Aa];exact⟨_,Ain (by simp)⟩
 ·rename_i hw;have hl:a.Client.Who.data.toList.length≤64:=by
   rw[AiZ,not_or]at hw;have h2:=hw.2;rw[Aiq]at h2;have:a.Client.Who.size≤64:=by omega
   exact this
  rw[NL 1 (by simp only[AiF]; omega) (by simp only[AiF]; omega),Aa];obtain⟨b,hb⟩:=Agd ([]++a.Client.Who.data.toList);rw[hb,Aa];obtain⟨d,hd⟩:=LN (!((b||((a.Client.Roots.length:Int)==0))||(decide ((a.Client.Roots.length:Int)>8)))) (VJ a.Client.Roots);rw[hd,Aa];split
  ·exact⟨_,rfl⟩
  ·obtain⟨r,hr⟩:=keysB a.Client.Logs 0 (-1);rw[hr,Aa];cases r with
   |inr r=>exact⟨_,rfl⟩
   |inl y=>
    dsimp only;split<;>exact⟨_,rfl⟩
theorem AfN {z:Aj}{e1 e2 e3:Int}(h1:BW z=some e1)(h2:B5 z=some e2)(h3:Cs z=some e3):
  Da z=some (if e1≠0 then e1 else if e2≠0 then e2 else e3):=by
 unfold Da;have b0:AG z 0 ()=some (if e1≠0 then .inr e1 else .inl ()):=by
  unfold AG;rw[Ain rfl,h1,Aa];by_cases h:e1=0
  ·rw[Ail (by simp[h]),Ail (fun k=>k h)]
  ·rw[Ain (by simpa using h),Ain h]
 have b1:AG z 1 ()=some (if e2≠0 then .inr e2 else .inl ()):=by
  unfold AG;rw[Ail (by decide),Ain rfl,h2,Aa];by_cases h:e2=0
  ·rw[Ail (by simp[h]),Ail (fun k=>k h)]
  ·rw[Ain (by simpa using h),Ain h]
 have b2:AG z 2 ()=some (if e3≠0 then .inr e3 else .inl ()):=by
  unfold AG;rw[Ail (by decide),Ail (by decide),h3,Aa];by_cases h:e3=0
  ·rw[Ail (by simp[h]),Ail (fun k=>k h)]
  ·rw[Ain (by simpa using h),Ain h]
 show Ab (Ab (AG z 0 ()) _) _=_;rw[b0,Aa];by_cases q1:e1=0
 ·rw[Ail (fun k=>k q1),Ail (fun k=>k q1)];show Ab (Ab (AG z 1 ()) _) _=_;rw[b1,Aa];by_cases q2:e2=0
  ·rw[Ail (fun k=>k q2),Ail (fun k=>k q2)];show Ab (Ab (AG z 2 ()) _) _=_;rw[b2,Aa];by_cases q3:e3=0
   ·rw[Ail (fun k=>k q3),q3]; rfl
   ·rw[Ain q3]; rfl
  ·rw[Ain q2,Ain q2]; rfl
 ·rw[Ain q1,Ain q1]; rfl
theorem PL (c:g_api_Client): ∃e,m_client_Check c=some e:=by
 obtain⟨e1,h1⟩:=Yv ⟨c⟩;obtain⟨e3,h3⟩:=PO c.Cascade;unfold m_client_Check;rw[AfN h1 (show B5 ⟨c⟩=some (PM c.Pool.L c.Logs)from by unfold B5; rw[V7]; rfl) (show Cs ⟨c⟩=some e3 from by unfold Cs; rw[h3]; rfl)];exact⟨_,rfl⟩
theorem Acv (k:g_api_Key)(p:g_api_Promise): ∃e,CT k p=some e:=by
 unfold CT;rw[Rv,Aa,VP,Aa];obtain⟨e,he⟩:=Ri k p.Log (Abv p.At) p.Sig (Abf p);rw[he,Aa];exact⟨_,rfl⟩
def cpV (k:g_api_Key)(p:g_api_Promise):Int:=(CT k p).getD 1
theorem cp_eq (k:g_api_Key)(p:g_api_Promise):CT k p=some (cpV k p):=by
 obtain⟨e,he⟩:=Acv k p;unfold cpV; rw[he]; rfl
def cntB (ks:List g_api_Key)(leaf:UInt64×UInt64)(p:g_api_Promise):Bool:=ks.any fun k=>((k.Log==p.Log)&&(cpV k p==0))&&(O0 p.Leaf leaf)
theorem Ahh (ks:List g_api_Key)(p:g_api_Promise): ∃n:Int,Bd ks p=some (n,p)∧((∃(j:Nat) (k:g_api_Key),ks[j]? =some k∧(k.Log==p.Log)=true∧n=(j:Int))∨n= -1):=by
 unfold Bd;obtain⟨r,h1,h2⟩:=G6 (body:=BI ks) ks (fun k=>k.Log==p.Log) (p.Log,p.At,p.Leaf.1,p.Leaf.2,p.Sig.E,p.Sig.S) (fun i=>((i:Int),p)) (fun i x hx=>by
  unfold BI D9;rw[Dd hx,Aa,Aa];dsimp only;cases (x.Log==p.Log)<;>rfl)
 rw[h1,Aa];rcases h2 with ⟨j,k,q1,q2,rfl⟩|⟨_,rfl⟩
 ·exact⟨_,rfl,.inl ⟨j,k,q1,q2,rfl⟩⟩
 ·exact⟨_,rfl,.inr rfl⟩
theorem app48 {α:Type}(s:List α)(x:α)(h:s.length≤1000000):app 48 s [x]=some (s++[x]):=NL 48 (by simp only[List.length_singleton]; omega) (by simp only[List.length_singleton]; omega)
theorem ZO (a:Aj)(leaf:UInt64×UInt64)(i:Int)(p:g_api_Promise)(s:List g_api_Promise)(hs:s.length≤1000000):
  ∃b:Bool,B1 a leaf i p s=some (if b=true then s++[p]else s)∧(b=true→cntB a.Client.Logs leaf p=true):=by
 unfold B1;obtain⟨n,hn,h⟩:=Ahh a.Client.Logs p;rw[hn,Aa];rcases h with ⟨j,k,q1,q2,rfl⟩|rfl
 ·dsimp only;rw[ge0,AiR];cases hl:O0 p.Leaf leaf with
  |false=>
   refine⟨false,?_,fun h=>by cases h⟩;show Ab (Ab (some _) _) _=_;rw[Aa];show Ab (Ab (some _) _) _=_;rw[Aa];rfl
  |true=>
   rw[Aht,Dd q1,Aa,Aht,cp_eq k p,Aa,AiR];cases hc:(cpV k p==0)with
   |false=>exact⟨false,rfl,fun h=>by cases h⟩
   |true=>
    refine⟨true,?_,fun _=>Wq q1 (by rw[q2,hc,hl]; rfl)⟩;rw[Ain rfl,app48 s p hs];rfl
 ·refine⟨false,?_,fun h=>by cases h⟩;show Ab (Ab (some _) _) _=_;rw[Aa];show Ab (Ab (some _) _) _=_;rw[Aa];rfl
theorem RW (a:Aj)(leaf:UInt64×UInt64): ∀(l:List g_api_Promise) (i:Int) (s:List g_api_Promise),s.length+l.length≤1000000→
  ∃r,DA (B1 a leaf) l i s=some r∧r.length≤s.length+(l.filter (cntB a.Client.Logs leaf)).length∧∀p∈r,p∈s∨(p∈l∧cntB a.Client.Logs leaf p=true)
 | [],i,s,_=>⟨s,rfl,by simp,fun p h=> .inl h⟩
 |x::l,i,s,hl=>by
  simp only[Aij]at hl;obtain⟨b,hb,hc⟩:=ZO a leaf i x s (by omega);show∃r,Ab (B1 a leaf i x s) _=_∧_;rw[hb,Aa];cases b with
  |false=>
   obtain⟨r,h1,h2,h3⟩:=RW a leaf l (i+1) s (by omega);refine⟨r,h1,?_,fun p hp=> ?_⟩
   ·rw[List.filter_cons];split
    ·simp only[Aij]; omega
    ·exact h2
   ·rcases h3 p hp with q|⟨q,w⟩
    ·exact .inl q
    ·exact .inr ⟨AiE _ q,w⟩
  |true=>
   obtain⟨r,h1,h2,h3⟩:=RW a leaf l (i+1) (s++[x]) (by simp; omega);refine⟨r,h1,?_,fun p hp=> ?_⟩
   ·rw[List.filter_cons,Ain (hc rfl)]; simp only[Aik,Aij,AiF]at h2⊢; omega
   ·rcases h3 p hp with q|⟨q,w⟩
    ·rcases AiD.1 q with q|q
     ·exact .inl q
     ·rw[List.mem_singleton]at q; subst q; exact .inr ⟨AiA,hc rfl⟩
    ·exact .inr ⟨AiE _ q,w⟩
theorem AeH (a:Aj)(leaf:UInt64×UInt64)(l:List g_api_Promise)(hl:l.length≤1000000):
  ∃r,m_client_asked_counting a l leaf=some r∧r.length≤(l.filter (cntB a.Client.Logs leaf)).length∧∀p∈r,p∈l∧cntB a.Client.Logs leaf p=true:=by
 obtain⟨r,h1,h2,h3⟩:=RW a leaf l 0 [] (by simpa using hl);refine⟨r,?_,by simpa using h2,fun p hp=>(h3 p hp).elim (fun q=>by cases q) id⟩;unfold m_client_asked_counting;rw[h1]; rfl
def mcV (leaf:UInt64×UInt64)(w:g_api_Place)(h:g_api_Head):Int:=(E8 leaf w.At w.Size w.Proof h.Root).getD 1
theorem mc_eq (leaf:UInt64×UInt64)(w:g_api_Place)(h:g_api_Head):E8 leaf w.At w.Size w.Proof h.Root=some (mcV leaf w h):=by
 obtain⟨e,he⟩:=ZE leaf w.At w.Size w.Proof h.Root;unfold mcV; rw[he]; rfl
def Ab3 (leaf:UInt64×UInt64)(w:g_api_Place)(h:g_api_Head):Bool:=((h.Log==w.Log)&&(h.Size==w.Size))&&(mcV leaf w h==0)
theorem Ahq (a:Aj)(w:g_api_Place)(leaf:UInt64×UInt64):EP a w leaf=some (a.Client.Pool.L.any (Ab3 leaf w)):=by
 unfold EP Bz BN;obtain⟨r,h1,h2⟩:=G6 (body:=By a.Client.Pool.L) a.Client.Pool.L (Ab3 leaf w) (w.Log,w.At,w.Size,w.Proof,leaf.1,leaf.2) (fun i=>((i:Int),w,leaf)) (fun i x hx=>by
  unfold By F0 Ab3;rw[Dd hx,Aa];dsimp only;rw[mc_eq leaf w x];cases ((x.Log==w.Log)&&(x.Size==w.Size))with
  |false=>rfl
  |true=>
   rw[show gu true (some (mcV leaf w x))=some (mcV leaf w x)from rfl,Aa,De,Aa,AiR];cases (mcV leaf w x==0)<;>rfl)
 rw[h1,Aa];rcases h2 with ⟨j,k,q1,q2,rfl⟩|⟨q,rfl⟩
 ·rw[Wq q1 q2];dsimp only;rw[Aa,Aa,ge0]
 ·rw[q]; rfl
theorem Aej (ps:List g_api_Promise)(w:g_api_Place):AN ps w=some (ps.any (fun p=>p.Log==w.Log),w):=by
 unfold AN Bn;obtain⟨r,h1,h2⟩:=G6 (body:=Ba ps) ps (fun p=>p.Log==w.Log) (w.Log,w.At,w.Size,w.Proof) (fun i=>((i:Int),w)) (fun i x hx=>by
  unfold Ba F3;rw[Dd hx,Aa,Aa];dsimp only;cases (x.Log==w.Log)<;>rfl)
 rw[h1,Aa];rcases h2 with ⟨j,k,q1,q2,rfl⟩|⟨q,rfl⟩
 ·rw[Wq (p:=fun p:g_api_Promise=>p.Log==w.Log) q1 q2];dsimp only;rw[Aa,ge0]
 ·rw[q]; rfl
def showB (c:g_api_Client)(ps:List g_api_Promise)(leaf:UInt64×UInt64)(w:g_api_Place):Bool:=ps.any (fun p=>p.Log==w.Log)&&c.Pool.L.any (Ab3 leaf w)
theorem Aek (l:List g_api_Place)(ps:List g_api_Promise)(c:g_api_Client)(leaf:UInt64×UInt64):AX l ps ⟨c⟩ leaf=some (l.any (showB c ps leaf),ps,⟨c⟩,leaf):=by
 unfold AX BG;obtain⟨r,h1,h2⟩:=G6 (body:=Bq l) l (showB c ps leaf) (ps,c.Who,c.Roots,c.Logs,c.Pool.L,c.Cascade.Day,c.Cascade.Levels,c.View,leaf.1,leaf.2) (fun i=>((i:Int),ps,⟨c⟩,leaf)) (fun i x hx=>by
  unfold Bq G5 showB;rw[Dd hx,Aa];dsimp only;rw[Aej,Aa];dsimp only;rw[Ahq];cases ps.any (fun p=>p.Log==x.Log)with
  |false=>rfl
  |true=>
   dsimp only;rw[show∀o:Option Bool,gu true o=o from fun o=>rfl,Aa,Aa,AiR];cases c.Pool.L.any (Ab3 leaf x)<;>rfl)
 dsimp only;rw[h1,Aa];rcases h2 with ⟨j,k,q1,q2,rfl⟩|⟨q,rfl⟩
 ·rw[Wq q1 q2];dsimp only;rw[Aa,ge0]
 ·rw[q]; rfl
abbrev FB:=AA
def aSt (c:g_api_Client)(o:g_api_Offer)(name:ByteArray)(now:Int)(lf:UInt64×UInt64)(ps:List g_api_Promise):ByteArray×(List g_api_Cert)×(List g_api_Key)×(List g_api_Head)×Int×(List g_api_Sieve)×Int×Int×(List g_api_Cert)×(List g_api_Place)×ByteArray×UInt64×UInt64×ByteArray×(List g_api_Cert)×(List g_api_Key)×(List g_api_Head)×Int×(List g_api_Sieve)×Int×(List g_api_Promise):=(c.Who,c.Roots,c.Logs,c.Pool.L,c.Cascade.Day,c.Cascade.Levels,c.View,now,o.Path,o.Where,name,lf.1,lf.2,c.Who,c.Roots,c.Logs,c.Pool.L,c.Cascade.Day,c.Cascade.Levels,c.View,ps)
theorem ne0 {e:Int}(h:e≠0):(e !=0)=true:=by simpa using h
section
variable {c:g_api_Client}{o:g_api_Offer}{name:ByteArray}{now:Int}{lf:UInt64×UInt64}{ps:List g_api_Promise}
theorem fb0 {e:Int}(h:m_client_Check c=some e):(e=0→FB 0 (aSt c o name now lf ps)=some (.inl (aSt c o name now lf ps)))∧(e≠0→∃t,FB 0 (aSt c o name now lf ps)=some (.inr (e,t))):=by
 unfold FB AA;rw[Ain rfl];have q:Dz c=some (e,c):=by unfold Dz; rw[h]; rfl
 refine⟨fun h0=> ?_,fun h0=> ?_⟩
 ·show Ab (Dz c) _=_;rw[q,Aa,h0]; rfl
 ·show∃t,Ab (Dz c) _=_;rw[q,Aa,Ain (ne0 h0)];exact⟨_,rfl⟩
theorem fb1 {e:Int}(h:(if(decide (0≤now)&&decide (now≤1099511627776))=true then m_path_Check c.Roots o.Path name now else some 1)=some e):
  (e=0→FB 1 (aSt c o name now lf ps)=some (.inl (aSt c o name now lf ps)))∧(e≠0→∃t,FB 1 (aSt c o name now lf ps)=some (.inr (e,t))):=by
 unfold FB AA;rw[Ail (by decide),Ain rfl];have q:Dy now c o name=some (e,now,c,o,name):=by
  unfold Dy;rw[XA,Aa];cases hb:(decide (0≤now)&&decide (now≤1099511627776))with
  |true=>
   rw[hb,Ain rfl]at h;rw[Ail (by decide),h]; rfl
  |false=>
   rw[hb,Ail (by decide)]at h;cases h; rfl
 refine⟨fun h0=> ?_,fun h0=> ?_⟩
 ·show Ab (Dy now c o name) _=_;rw[q,Aa,h0]; rfl
 ·show∃t,Ab (Dy now c o name) _=_;rw[q,Aa,Ain (ne0 h0)];exact⟨_,rfl⟩
theorem fb2 {x:g_api_Cert}{more:List g_api_Cert}{l:UInt64×UInt64}{e:Int}(ho:o.Path=x::more)(h:m_cert_Leaf x=some (l,e)):
  (e=0→FB 2 (aSt c o name now lf ps)=some (.inl (aSt c o name now l ps)))∧(e≠0→∃t,FB 2 (aSt c o name now lf ps)=some (.inr (e,t))):=by
 unfold FB AA;rw[Ail (by decide),Ail (by decide),Ain rfl];have q:Dx o lf=some (e,o,l):=by
  unfold Dx;rw[ho];show Ab (some x) _=_;rw[Aa,h]; rfl
 refine⟨fun h0=> ?_,fun h0=> ?_⟩
 ·show Ab (Dx o lf) _=_;rw[q,Aa,h0]; rfl
 ·show∃t,Ab (Dx o lf) _=_;rw[q,Aa,Ain (ne0 h0)];exact⟨_,rfl⟩
theorem fb3 {x:g_api_Cert}{more:List g_api_Cert}{r:List g_api_Promise}(ho:o.Path=x::more)(h:m_client_asked_counting ⟨c⟩ x.Proms lf=some r):
  (2≤r.length→FB 3 (aSt c o name now lf ps)=some (.inl (aSt c o name now lf r)))∧(¬2≤r.length→∃t,FB 3 (aSt c o name now lf ps)=some (.inr (251,t))):=by
 unfold FB AA;rw[Ail (by decide),Ail (by decide),Ail (by decide),Ain rfl];have q:Du ⟨c⟩ o lf ps=some (if 2≤r.length then 0 else 251,⟨c⟩,o,lf,r):=by
  unfold Du;rw[ho];show Ab (some x) _=_;rw[Aa,h,Aa];by_cases hr:2≤r.length
  ·rw[Ail (by simp; omega),Ain hr]
  ·rw[Ain (by simp; omega),Ail hr]
 refine⟨fun h0=> ?_,fun h0=> ?_⟩
 ·show Ab (Du ⟨c⟩ o lf ps) _=_;rw[q,Aa,Ain h0]; rfl
 ·show∃t,Ab (Du ⟨c⟩ o lf ps) _=_;rw[q,Aa,Ail h0];exact⟨_,rfl⟩
theorem fb4:(o.Where.any (showB c ps lf)=true→FB 4 (aSt c o name now lf ps)=some (.inl (aSt c o name now lf ps)))∧(o.Where.any (showB c ps lf)=false→∃t,FB 4 (aSt c o name now lf ps)=some (.inr (240,t))):=by
 unfold FB AA;rw[Ail (by decide),Ail (by decide),Ail (by decide),Ail (by decide),Ain rfl];have q:Dt ps ⟨c⟩ lf o=some (if o.Where.any (showB c ps lf)=true then 0 else 240,ps,⟨c⟩,lf,o):=by
  unfold Dt;rw[Aek,Aa];dsimp only;cases o.Where.any (showB c ps lf)<;>rfl
 refine⟨fun h0=> ?_,fun h0=> ?_⟩
 ·show Ab (Dt ps ⟨c⟩ lf o) _=_;rw[q,Aa,h0]; rfl
 ·show∃t,Ab (Dt ps ⟨c⟩ lf o) _=_;rw[q,Aa,h0];exact⟨_,rfl⟩
theorem fb5 {x:g_api_Cert}{more:List g_api_Cert}{b:Bool}(ho:o.Path=x::more)(h:m_cascade_Has c.Cascade x.Serial=some b):
  (b=false→FB 5 (aSt c o name now lf ps)=some (.inl (aSt c o name now lf ps)))∧(b=true→∃t,FB 5 (aSt c o name now lf ps)=some (.inr (270,t))):=by
 unfold FB AA;rw[Ail (by decide),Ail (by decide),Ail (by decide),Ail (by decide),Ail (by decide)];have q:Ds c o=some (if b=true then 270 else 0,c,o):=by
  unfold Ds;rw[ho];show Ab (some x) _=_;rw[Aa,h,Aa];cases b<;>rfl
 refine⟨fun h0=> ?_,fun h0=> ?_⟩
 ·show Ab (Ds c o) _=_;rw[q,Aa,h0]; rfl
 ·show∃t,Ab (Ds c o) _=_;rw[q,Aa,h0];exact⟨_,rfl⟩
end
theorem enL {σ τ:Type}{body:Int→σ→Option (σ⊕τ)}{k:Nat}{i:Int}{s s':σ}(h:body i s=some (.inl s')):B6 body (k+1) i s=B6 body k (i+1) s':=by
 show Ab (body i s) _=_;rw[h]; rfl
theorem enR {σ τ:Type}{body:Int→σ→Option (σ⊕τ)}{k:Nat}{i:Int}{s:σ}{t:τ}(h:body i s=some (.inr t)):B6 body (k+1) i s=some (.inr t):=by
 show Ab (body i s) _=_;rw[h]; rfl
structure Acc (c:g_api_Client)(o:g_api_Offer)(name:ByteArray)(now:Int):Prop where
 chk:m_client_Check c=some 0
 pth:m_path_Check c.Roots o.Path name now=some 0
 run: ∃x more leaf ps,o.Path=x::more∧m_cert_Leaf x=some (leaf,0)∧m_client_asked_counting ⟨c⟩ x.Proms leaf=some ps∧2≤ps.length∧o.Where.any (showB c ps leaf)=true∧m_cascade_Has c.Cascade x.Serial=some false
theorem Tu (c:g_api_Client)(o:g_api_Offer)(name:ByteArray)(now:Int)(hp: ∀x∈o.Path,x.Proms.length≤1000000): ∃e,AP c o name now=some e∧(e=0↔Acc c o name now):=by
 unfold AP CF;have key: ∀r:(ByteArray×(List g_api_Cert)×(List g_api_Key)×(List g_api_Head)×Int×(List g_api_Sieve)×Int×Int×(List g_api_Cert)×(List g_api_Place)×ByteArray×UInt64×UInt64×ByteArray×(List g_api_Cert)×(List g_api_Key)×(List g_api_Head)×Int×(List g_api_Sieve)×Int×(List g_api_Promise))⊕(Int×g_api_Client×Int×g_api_Offer×ByteArray×(UInt64×UInt64)×Aj×(List g_api_Promise)),
   B6 FB 6 0 (aSt c o name now (0,0) [])=some r→(∃t,∃e,r= .inr (e,t)∧(e=0↔Acc c o name now))∨(∃s,r= .inl s∧Acc c o name now)→∃e,(Ab (Ab (B6 FB 6 0 (aSt c o name now (0,0) [])) fun x1=>match x1 with
    | .inr r=>some r
    | .inl y1=>some (0,(⟨y1.1,y1.2.1,y1.2.2.1,(⟨y1.2.2.2.1⟩:g_api_Pool),(⟨y1.2.2.2.2.1,y1.2.2.2.2.2.1⟩:g_api_Cascade),y1.2.2.2.2.2.2.1⟩:g_api_Client),y1.2.2.2.2.2.2.2.1,(⟨y1.2.2.2.2.2.2.2.2.1,y1.2.2.2.2.2.2.2.2.2.1⟩:g_api_Offer),y1.2.2.2.2.2.2.2.2.2.2.1,(y1.2.2.2.2.2.2.2.2.2.2.2.1,y1.2.2.2.2.2.2.2.2.2.2.2.2.1),(⟨(⟨y1.2.2.2.2.2.2.2.2.2.2.2.2.2.1,y1.2.2.2.2.2.2.2.2.2.2.2.2.2.2.1,y1.2.2.2.2.2.2.2.2.2.2.2.2.2.2.2.1,(⟨y1.2.2.2.2.2.2.2.2.2.2.2.2.2.2.2.2.1⟩:g_api_Pool),(⟨y1.2.2.2.2.2.2.2.2.2.2.2.2.2.2.2.2.2.1,y1.2.2.2.2.2.2.2.2.2.2.2.2.2.2.2.2.2.2.1⟩:g_api_Cascade),y1.2.2.2.2.2.2.2.2.2.2.2.2.2.2.2.2.2.2.2.1⟩:g_api_Client)⟩:Aj),y1.2.2.2.2.2.2.2.2.2.2.2.2.2.2.2.2.2.2.2.2)) fun x1=>some x1.1)=some e∧(e=0↔Acc c o name now):=by
  intro r hr h;rw[hr,Aa];rcases h with ⟨t,e,rfl,h⟩|⟨s,rfl,h⟩
  ·exact⟨e,rfl,h⟩
  ·exact⟨0,rfl,⟨fun _=>h,fun _=>rfl⟩⟩
 obtain⟨e0,h0⟩:=PL c;by_cases z0:e0=0
 ·subst z0;obtain⟨e1,h1⟩: ∃e1,(if(decide (0≤now)&&decide (now≤1099511627776))=true then m_path_Check c.Roots o.Path name now else some 1)=some e1:=by
   split
   ·exact⟨_,Rt _ _ _ _⟩
   ·exact⟨_,rfl⟩
  by_cases z1:e1=0
  ·subst z1;have hpc:m_path_Check c.Roots o.Path name now=some 0:=by
    split at h1
    ·exact h1
    ·cases h1
   obtain⟨x,more,ho,P,ht⟩:=PA (Aid ((Rt _ _ _ _).symm.trans hpc));have hx:checkV x=0:=P.all x (by simp);have hl:=AeP (okc hx);generalize Afh (⟨#[108,101,97,102]⟩:ByteArray) [Zw x]=leaf at hl;obtain⟨ps,h3,l3,_⟩:=AeH ⟨c⟩ leaf x.Proms (hp x (by rw[ho]; exact AiA));obtain⟨b,h5⟩:=AeL c.Cascade x.Serial;have r0:=(fb0 (o:=o) (name:=name) (now:=now) (lf:=(0,0)) (ps:=[]) h0).1 rfl;have r1:=(fb1 (lf:=(0,0)) (ps:=[]) h1).1 rfl;have r2:=(fb2 (c:=c) (name:=name) (now:=now) (lf:=(0,0)) (ps:=[]) ho hl).1 rfl;have r3:=fb3 (name:=name) (now:=now) (ps:=[]) ho h3;have uniq: ∀x' more' leaf' ps',o.Path=x'::more'→m_cert_Leaf x'=some (leaf',0)→m_client_asked_counting ⟨c⟩ x'.Proms leaf'=some ps'→x'=x∧leaf'=leaf∧ps'=ps:=fun x' more' leaf' ps' a1 a2 a3=>by
    rw[ho]at a1; cases a1;rw[hl]at a2; cases a2;rw[h3]at a3; cases a3;exact⟨rfl,rfl,rfl⟩
   by_cases z3:2≤ps.length
   ·have r3:=r3.1 z3;have r4:=fb4 (c:=c) (o:=o) (name:=name) (now:=now) (lf:=leaf) (ps:=ps);cases z4:o.Where.any (showB c ps leaf)with
    |true=>
     have r4:=r4.1 z4;have r5:=fb5 (name:=name) (now:=now) (lf:=leaf) (ps:=ps) ho h5;cases b with
     |false=>
      refine key _ ((enL r0).trans ((enL r1).trans ((enL r2).trans ((enL r3).trans ((enL r4).trans (enL (r5.1 rfl))))))) (.inr ⟨_,rfl,⟨h0,hpc,x,more,leaf,ps,ho,hl,h3,z3,z4,h5⟩⟩)
     |true=>
      obtain⟨t,r5⟩:=r5.2 rfl;refine key _ ((enL r0).trans ((enL r1).trans ((enL r2).trans ((enL r3).trans ((enL r4).trans (enR r5)))))) (.inl ⟨t,_,rfl,⟨(fun h=>by cases h),(fun h=> ?_)⟩⟩);obtain⟨x',more',leaf',ps',a1,a2,a3,a4,a5,a6⟩:=h.run;obtain⟨rfl,rfl,rfl⟩:=uniq _ _ _ _ a1 a2 a3;rw[h5]at a6; cases a6
    |false=>
     obtain⟨t,r4⟩:=r4.2 z4;refine key _ ((enL r0).trans ((enL r1).trans ((enL r2).trans ((enL r3).trans (enR r4))))) (.inl ⟨t,_,rfl,⟨(fun h=>by cases h),(fun h=> ?_)⟩⟩);obtain⟨x',more',leaf',ps',a1,a2,a3,a4,a5,a6⟩:=h.run;obtain⟨rfl,rfl,rfl⟩:=uniq _ _ _ _ a1 a2 a3;rw[z4]at a5; cases a5
   ·obtain⟨t,r3⟩:=r3.2 z3;refine key _ ((enL r0).trans ((enL r1).trans ((enL r2).trans (enR r3)))) (.inl ⟨t,_,rfl,⟨(fun h=>by cases h),(fun h=> ?_)⟩⟩);obtain⟨x',more',leaf',ps',a1,a2,a3,a4,a5,a6⟩:=h.run;obtain⟨rfl,rfl,rfl⟩:=uniq _ _ _ _ a1 a2 a3;exact absurd a4 z3
  ·have r0:=(fb0 (o:=o) (name:=name) (now:=now) (lf:=(0,0)) (ps:=[]) h0).1 rfl;obtain⟨t,r1⟩:=(fb1 (lf:=(0,0)) (ps:=[]) h1).2 z1;refine key _ ((enL r0).trans (enR r1)) (.inl ⟨t,_,rfl,⟨fun h=>absurd h z1,fun h=> ?_⟩⟩);have hv:=Aid ((Rt _ _ _ _).symm.trans h.pth);obtain⟨x,more,ho,P,ht⟩:=PA hv;have:=P.now0;have:=P.nowM;rw[Ain (by rw[AiI (by omega),AiI (by omega)]; rfl),h.pth]at h1;cases h1; rfl
 ·obtain⟨t,r0⟩:=(fb0 (o:=o) (name:=name) (now:=now) (lf:=(0,0)) (ps:=[]) h0).2 z0;refine key _ (enR r0) (.inl ⟨t,_,rfl,⟨fun h=>absurd h z0,fun h=> ?_⟩⟩);have:=h.chk;rw[h0]at this; cases this; rfl
theorem AeF {α:Type}{xs:List α}{i:Nat}{x:α}(h:xs[i]? =some x):xs.drop i=x::xs.drop (i+1):=by
 obtain⟨hi,rfl⟩:=Aiv.1 h;exact List.drop_eq_getElem_cons hi
def fndO {α β:Type}(f:α→Option β):List α→(Unit⊕β)
 | []=> .inl ()
 |x::r=>match f x with|some b=> .inr b|none=>fndO f r
theorem V1 {α β:Type}{step:Int→Option (Int⊕(Unit⊕β))}(xs:List α)(f:α→Option β)
  (hs: ∀(i:Nat) (x:α),xs[i]? =some x→step (i:Int)=some (match f x with|some b=> .inr (.inr b)|none=> .inl ((i+1:Nat):Int)))
  (he:step (xs.length:Int)=some (.inr (.inl ()))): ∀(k i n:Nat),i+k=xs.length→k<n→iter step n (i:Int)=some (fndO f (xs.drop i))
 |0,i,n,h,hn=>by
  obtain⟨n,rfl⟩: ∃q,n=q+1:=⟨n-1,by omega⟩;have h:i=xs.length:=by omega
  subst h;show Ab (step _) _=_;rw[he,List.drop_length]; rfl
 |k+1,i,n,h,hn=>by
  obtain⟨n,rfl⟩: ∃q,n=q+1:=⟨n-1,by omega⟩;have hi:i<xs.length:=by omega
  have hx:xs[i]? =some xs[i]:=AiJ hi;show Ab (step _) _=_;rw[hs i _ hx,AeF hx];unfold fndO;cases f xs[i]with
  |some b=>rfl
  |none=>exact V1 xs f hs he k (i+1) n (by omega) (by omega)
theorem ZF {α β:Type}{step:Int→Option (Int⊕(Unit⊕β))}(xs:List α)(f:α→Option β)(hl:xs.length≤1000000)
  (hs: ∀(i:Nat) (x:α),xs[i]? =some x→step (i:Int)=some (match f x with|some b=> .inr (.inr b)|none=> .inl ((i+1:Nat):Int)))
  (he:step (xs.length:Int)=some (.inr (.inl ()))):iter step Gr 0=some (fndO f xs):=
 V1 xs f hs he xs.length 0 Gr (by omega) (by have:(1000001:Nat)≤Gr:=Aih rfl; omega)
theorem YF {α:Type}(p:α→Bool)(v:Bool): ∀(xs:List α),fndO (fun x=>if p x=true then some v else none) xs=if xs.any p=true then .inr v else .inl ()
 | []=>rfl
 |x::r=>by
  unfold fndO;cases h:p x with
  |true=>simp[h]
  |false=>simp[h,YF p v r]
theorem Aee {α:Type}{l:List α}{n i:Nat}{x:α}(h:(l.take n)[i]? =some x):idx l (i:Int)=some x∧i<l.length∧i<n:=by
 rw[List.getElem?_take]at h;split at h
 ·exact⟨Dd h,(Aiv.1 h).1,‹_›⟩
 ·cases h
def shop0:C0:=⟨⟨⟨#[97,110,110]⟩,[⟨0,⟨#[114]⟩,⟨#[114]⟩,544077478247279056,[],0,100,true,1,[],[],⟨56068977789539995,412945996197367095⟩⟩],[⟨0,1297896941320072711,5⟩,⟨1,1631945290827707310,5⟩],⟨[]⟩,⟨0,[]⟩,0⟩,⟨[⟨9,⟨#[114]⟩,⟨#[]⟩,4,[⟨#[120,46,97]⟩],3,8,false,0,[],[⟨0,3,(1621992312229970116,2200863675130382030),⟨493135561720501702,53138745142054843⟩⟩,⟨1,3,(1621992312229970116,2200863675130382030),⟨694227493511213294,984341331704138812⟩⟩],⟨1050415333436172978,246170491232933132⟩⟩],[⟨0,2,3,[(71937633796637552,541480457554953714)]⟩]⟩,[⟨0,492609940580054112,5,[⟨[0,5],1⟩,⟨[1,5],1⟩,⟨[48,32,2,1,9,12,1,114,12,0,2,1,4,48,5,12,3,120,46,97,2,1,3,2,1,8,1,1,0,2,1,0,48,0],3⟩],[],[]⟩,⟨1,821147353521346255,5,[⟨[48,32,2,1,9,12,1,114,12,0,2,1,4,48,5,12,3,120,46,97,2,1,3,2,1,8,1,1,0,2,1,0,48,0],3⟩],[],[]⟩]⟩
def head0:g_api_Head:=⟨0,3,(1111880991993255973,2159594700541934035),4,⟨52962187583479370,259454068761640249⟩⟩
def cli0:g_api_Client:=⟨⟨#[97,110,110]⟩,[⟨0,⟨#[114]⟩,⟨#[114]⟩,544077478247279056,[],0,100,true,1,[],[],⟨56068977789539995,412945996197367095⟩⟩],[⟨0,1297896941320072711,5⟩,⟨1,1631945290827707310,5⟩],⟨[⟨0,3,(1111880991993255973,2159594700541934035),4,⟨52962187583479370,259454068761640249⟩⟩]⟩,⟨0,[]⟩,0⟩
def cas0:g_api_Cascade:=⟨1,[⟨8,3,16,[98]⟩]⟩
def cli1:g_api_Client:=⟨⟨#[97,110,110]⟩,[⟨0,⟨#[114]⟩,⟨#[114]⟩,544077478247279056,[],0,100,true,1,[],[],⟨56068977789539995,412945996197367095⟩⟩],[⟨0,1297896941320072711,5⟩,⟨1,1631945290827707310,5⟩],⟨[⟨0,3,(1111880991993255973,2159594700541934035),4,⟨52962187583479370,259454068761640249⟩⟩]⟩,⟨1,[⟨8,3,16,[98]⟩]⟩,0⟩
theorem lvq0:KF 5 ⟨#[120,46,97]⟩ 2=some (shop0,true):=by kernel_rfl
theorem lvq1:(Ab (idx shop0.logs_ 0) fun x=>N9 x 0 3 4)=some (head0,0):=by kernel_rfl
theorem lvq2:LI shop0.c_ head0=some (cli0,0):=by kernel_rfl
theorem lvq3:(Km ⟨#[]⟩ shop0.c_.Roots shop0.c_.Logs 0).map Prod.snd=some 1:=by kernel_rfl
theorem lvq4:Iu [9] [] 1=some (cas0,0):=by kernel_rfl
theorem lvq5:IK cli0 cas0=some (cli1,0):=by kernel_rfl
theorem lvq6:(IK cli1 ⟨0,[]⟩).map Prod.snd=some 190:=by kernel_rfl
theorem lvq7:m_client_Check cli1=some 0:=by kernel_rfl
theorem lvq8:AP shop0.c_ shop0.o_ ⟨#[120,46,97]⟩ 4=some 240:=by kernel_rfl
theorem lvq9:AP cli0 shop0.o_ ⟨#[120,46,97]⟩ 4=some 0:=by kernel_rfl
theorem lvqa:AP cli0 shop0.o_ ⟨#[121,46,97]⟩ 4=some 110:=by kernel_rfl
theorem lvqb:AP cli0 shop0.o_ ⟨#[120,46,97]⟩ 8=some 190:=by kernel_rfl
theorem lvqc:AP cli1 shop0.o_ ⟨#[120,46,97]⟩ 4=some 270:=by kernel_rfl
theorem Xe:Ke=some true:=by
 unfold Ke;rw[lvq0,Aa,Ail (by decide)];obtain⟨x,hx,h1⟩:=Ad lvq1;obtain⟨⟨z3,e3⟩,h3,rfl⟩:=Air.1 lvq3;obtain⟨⟨z6,e6⟩,h6,rfl⟩:=Air.1 lvq6;dsimp only;rw[hx,Aa,h1,Aa];dsimp only;rw[lvq2,Aa];dsimp only;rw[h3,Aa,lvq4,Aa];dsimp only;rw[lvq5,Aa];dsimp only;rw[h6,Aa,lvq7,lvq8,lvq9,lvqa,lvqb,lvqc];rfl
theorem OY {α:Type}{step:Int→Option (Int⊕(Unit⊕Bool))}(xs:List α)(n:Nat)(hn:n≤1000)(p:α→Bool)(hs: ∀(i:Nat) (x:α),xs[i]? =some x→i<n→step (i:Int)=some (if p x=true then .inr (.inr false)else .inl ((i+1:Nat):Int)))
  (he: ∀i:Nat,¬(i<xs.length∧i<n)→step (i:Int)=some (.inr (.inl ()))):iter step Gr 0=some (if(xs.take n).any p=true then .inr false else .inl ()):=by
 rw[ZF (xs.take n) (fun x=>if p x=true then some false else none) (by simp; omega) (fun i x hx=> ?_) ?_,YF]
 ·exact he _ (by simp; omega)
 ·obtain⟨h1,h2,h3⟩:=Aee hx;have hx':xs[i]? =some x:=by
   rw[List.getElem?_take,Ain h3]at hx;exact hx
  rw[hs i x hx' h3];cases p x<;>rfl
def Z5 (c:g_api_Cert):Bool:= !(c.Names.take 12).any (fun s=>decide ((s.size:Int)>200))&&(!(c.Permit.take 12).any (fun s=>decide ((s.size:Int)>200))&&(((((decide ((c.Names.length:Int)≤12))&&(decide ((c.Permit.length:Int)≤12)))&&(decide ((c.Proms.length:Int)≤8)))&&(decide ((c.Issuer.size:Int)≤200)))&&(decide ((c.Subject.size:Int)≤200))))
theorem YJ (c:g_api_Cert):FM c=some (Z5 c):=by
 unfold FM Z5;rw[OY (step:=Fo c) c.Names 12 (by omega) (fun s=>decide ((s.size:Int)>200)) (fun i x hx hi=> ?_) (fun i hi=> ?_),Aa]
 ·cases (c.Names.take 12).any fun s=>decide ((s.size:Int)>200)with
  |true=>rfl
  |false=>
   rw[Ail (by decide)];dsimp only;rw[OY (step:=Fm c) c.Permit 12 (by omega) (fun s=>decide ((s.size:Int)>200)) (fun i x hx hi=> ?_) (fun i hi=> ?_),Aa]
   ·cases (c.Permit.take 12).any fun s=>decide ((s.size:Int)>200)<;>rfl
   ·have h2:=(Aiv.1 hx).1;unfold Fm;rw[Ain (by simp; omega),Dd hx,Aa];cases decide ((x.size:Int)>200)with
    |true=>rfl
    |false=>rw[Ail (by decide),Ail (by decide),Cz (by omega) (by omega)]; rfl
   ·unfold Fm;rw[Ail (by simp; omega)]
 ·have h2:=(Aiv.1 hx).1;unfold Fo;rw[Ain (by simp; omega),Dd hx,Aa];cases decide ((x.size:Int)>200)with
  |true=>rfl
  |false=>rw[Ail (by decide),Ail (by decide),Cz (by omega) (by omega)]; rfl
 ·unfold Fo;rw[Ail (by simp; omega)]
theorem AhK {c:g_api_Cert}(h:Z5 c=true):c.Names.length≤12∧c.Proms.length≤8:=by
 simp only[Z5,Aie,Aiq]at h;omega
def Ach (l:List g_api_Cert):Bool:= !(l.take 12).any (fun c=> !Z5 c)&&decide ((l.length:Int)≤10)
theorem Acg (l:List g_api_Cert):E2 l=some (Ach l):=by
 unfold E2 Ach;rw[OY (step:=EG l) l 12 (by omega) (fun c=> !Z5 c) (fun i x hx hi=> ?_) (fun i hi=> ?_),Aa]
 ·cases (l.take 12).any fun c=> !Z5 c<;>rfl
 ·have h2:=(Aiv.1 hx).1;unfold EG;rw[Ain (by simp; omega),Dd hx,Aa,YJ,Aa];cases Z5 x with
  |false=>rfl
  |true=>rw[Ail (by decide),Ail (by decide),Cz (by omega) (by omega)]; rfl
 ·unfold EG;rw[Ail (by simp; omega)]
theorem Acf {l:List g_api_Cert}(h:Ach l=true):l.length≤10∧∀c∈l,Z5 c=true:=by
 simp only[Ach,Aie,Aiq,Bool.not_eq_true',List.any_eq_false]at h;have hl:l.length≤10:=by omega
 refine⟨hl,fun c hc=> ?_⟩;have:=h.1 c (by rw[AiY (by omega)]; exact hc);simpa using this
def fewX (x:g_api_Cascade):Bool:= !(x.Levels.take 20).any (fun s=>decide ((s.B.length:Int)>300))&&decide ((x.Levels.length:Int)≤18)
theorem AhI (x:g_api_Cascade):Fp x=some (fewX x):=by
 unfold Fp fewX;rw[OY (step:=DY x) x.Levels 20 (by omega) (fun s=>decide ((s.B.length:Int)>300)) (fun i y hx hi=> ?_) (fun i hi=> ?_),Aa]
 ·cases (x.Levels.take 20).any fun s=>decide ((s.B.length:Int)>300)<;>rfl
 ·have h2:=(Aiv.1 hx).1;unfold DY;rw[Ain (by simp; omega),Dd hx,Aa];cases decide ((y.B.length:Int)>300)with
  |true=>rfl
  |false=>rw[Ail (by decide),Ail (by decide),Cz (by omega) (by omega)]; rfl
 ·unfold DY;rw[Ail (by simp; omega)]
theorem Aez (c:g_api_Client): ∃b,Ly c=some b∧(b=true→Ach c.Roots=true∧c.Logs.length≤20∧c.Pool.L.length≤40∧fewX c.Cascade=true):=by
 unfold Ly;rw[Acg,AhI];cases h1:decide ((c.Who.size:Int)≤100)with
 |false=>exact⟨false,rfl,fun h=>by cases h⟩
 |true=>
  rw[show gu true (some (Ach c.Roots))=some (Ach c.Roots)from rfl,Aa];cases h2:Ach c.Roots with
  |false=>exact⟨false,rfl,fun h=>by cases h⟩
  |true=>
   cases h3:decide ((c.Logs.length:Int)≤20)with
   |false=>exact⟨false,rfl,fun h=>by cases h⟩
   |true=>
    cases h4:decide ((c.Pool.L.length:Int)≤40)with
    |false=>exact⟨false,rfl,fun h=>by cases h⟩
    |true=>
     refine⟨fewX c.Cascade,rfl,fun h=>⟨rfl,?_,?_,h⟩⟩
     ·have:=AiU h3; omega
     ·have:=AiU h4; omega
theorem AhJ (o:g_api_Offer): ∃b,GO o=some b∧(b=true→Ach o.Path=true∧o.Where.length≤8):=by
 unfold GO;rw[OY (step:=EF o) o.Where 12 (by omega) (fun s=>decide ((s.Proof.length:Int)>20)) (fun i y hx hi=> ?_) (fun i hi=> ?_),Aa]
 ·cases (o.Where.take 12).any fun s=>decide ((s.Proof.length:Int)>20)with
  |true=>exact⟨false,rfl,fun h=>by cases h⟩
  |false=>
   rw[Ail (by decide)];dsimp only;rw[Acg,Aa];refine⟨_,rfl,fun h=> ?_⟩;rw[Aie]at h;exact⟨h.1,by have:=AiU h.2; omega⟩
 ·have h2:=(Aiv.1 hx).1;unfold EF;rw[Ain (by simp; omega),Dd hx,Aa];cases decide ((y.Proof.length:Int)>20)with
  |true=>rfl
  |false=>rw[Ail (by decide),Ail (by decide),Cz (by omega) (by omega)]; rfl
 ·unfold EF;rw[Ail (by simp; omega)]
theorem AhH (c:g_api_Client)(o:g_api_Offer): ∃b,LD c o=some b∧(b=true→(Ach c.Roots=true∧c.Logs.length≤20∧c.Pool.L.length≤40∧fewX c.Cascade=true)∧Ach o.Path=true∧o.Where.length≤8):=by
 obtain⟨a,h1,h2⟩:=Aez c;obtain⟨b,h3,h4⟩:=AhJ o;unfold LD;rw[h1,Aa,h3];cases a with
 |false=>exact⟨false,rfl,fun h=>by cases h⟩
 |true=>
  refine⟨b,rfl,fun h=>⟨h2 rfl,h4 h⟩⟩
theorem Acy {c:g_api_Client}(h:m_client_Check c=some 0):BW ⟨c⟩=some 0∧PM c.Pool.L c.Logs=0∧DG c.Cascade=some 0:=by
 obtain⟨e1,h1⟩:=Yv ⟨c⟩;obtain⟨e3,h3⟩:=PO c.Cascade;unfold m_client_Check at h;rw[AfN h1 (show B5 ⟨c⟩=some (PM c.Pool.L c.Logs)from by unfold B5; rw[V7]; rfl) (show Cs ⟨c⟩=some e3 from by unfold Cs; rw[h3]; rfl),Aa]at h;have h:=Aid h;by_cases q1:e1=0
 ·rw[Ail (fun k=>k q1)]at h;by_cases q2:PM c.Pool.L c.Logs=0
  ·rw[Ail (fun k=>k q2)]at h;exact⟨by rw[h1,q1],q2,by rw[h3,h]⟩
  ·rw[Ain q2]at h; exact absurd h q2
 ·rw[Ain q1]at h; exact absurd h q1
theorem AcG: ∀{l:List g_api_Cert} {i k:Nat} {c:g_api_Cert},caB i l=true→l[k]? =some c→c.Ca=decide (0<i+k)
 | [],i,k,c,_,h=>by cases h
 |d::r,i,0,c,h,hc=>by
  cases hc;unfold caB at h;rw[Aie]at h;simpa using h.1
 |d::r,i,k+1,c,h,hc=>by
  unfold caB at h;rw[Aie]at h;rw[AcG h.2 (k:=k) (by simpa using hc)];congr 1;rw[show i+1+k=i+(k+1)from by omega]
theorem Adi {chain roots:List g_api_Cert}{now:Int}(h:MD chain now roots=0): ∃r∈roots,byV chain now r=0:=by
 unfold MD at h;cases q:roots.any fun r=>byV chain now r==0 with
 |true=>
  obtain⟨r,h1,h2⟩:=List.any_eq_true.1 q;exact⟨r,h1,by simpa using h2⟩
 |false=>
  rw[q,Ail (by decide)]at h;cases roots with
  |nil=>cases h
  |cons r l=>
   have:byV chain now r=0:=h;rw[List.any_cons,this]at q;simp at q
theorem Abp {leaf:g_api_Cert}{more roots:List g_api_Cert}(h1:more.length≤3)(h2: ∀c∈leaf::more,checkV c=0)(hk:caB 0 (leaf::more)=true)(hl:linksV (leaf::more)=0)
  (hr:roots.length≤16) (hc: ∀c∈roots,checkV c=0) (name:ByteArray) (now:Int):
  W4 roots (leaf::more) name now=if now<0∨now>1099511627776 then 1 else if nameV name≠0 then nameV name else if(leaf.Names.any fun s=>eqS name s)=false then 110 else
   if((leaf::more).any fun c=> !timeB c now)=true then 190 else MD (leaf::more) now roots:=by
 have e1:Xu (leaf::more++roots)=0:=(RM _ _ _).2 fun k c hk=>by
  rcases AiD.1 (AiL hk)with q|q
  ·exact h2 c q
  ·exact hc c q
 unfold W4;rw[e1,hl,Ail (nn0 rfl)];by_cases hb:now<0∨now>1099511627776
 ·have:Lc roots (leaf::more) name now=1:=by
   unfold Lc;rw[Ain];rcases hb with q|q
   ·exact .inr (.inr (.inr (.inl q)))
   ·exact .inr (.inr (.inr (.inr q)))
  rw[this,Ain (by decide),Ain hb]
 ·have:Lc roots (leaf::more) name now=nameV name:=by
   unfold Lc;rw[Ail];rintro(q|q|q|q)
   ·simp at q
   ·simp only[Aij]at q; omega
   ·omega
   ·exact hb q
  rw[this,Ail hb];by_cases hn:nameV name=0
  ·rw[Ail (nn0 hn),Ail (nn0 hn)];have ek:NJ (leaf::more) name now=if(leaf.Names.any fun s=>eqS name s)=false then 110 else if((leaf::more).any fun c=> !timeB c now)=true then 190 else 0:=by
    unfold NJ;rw[hk,Ail (by decide)]
   rw[ek];cases leaf.Names.any fun s=>eqS name s with
   |false=>rfl
   |true=>
    cases (leaf::more).any fun c=> !timeB c now<;>rfl
  ·rw[Ain hn,Ain hn]
theorem Qi.rc {roots:List g_api_Cert}{leaf:g_api_Cert}{more:List g_api_Cert}{name:ByteArray}{now:Int}(P:Qi roots leaf more name now): ∀c∈roots,checkV c=0:=fun c hc=>P.all c (List.mem_append_right _ hc)
theorem Qi.cc {roots:List g_api_Cert}{leaf:g_api_Cert}{more:List g_api_Cert}{name:ByteArray}{now:Int}(P:Qi roots leaf more name now): ∀c∈leaf::more,checkV c=0:=fun c hc=>P.all c (List.mem_append_left _ hc)
theorem Qi.names {roots:List g_api_Cert}{leaf:g_api_Cert}{more:List g_api_Cert}{name:ByteArray}{now:Int}(P:Qi roots leaf more name now): ∀s∈leaf.Names,nameV s=0:=by
 have hC:leaf.Ca=false:=by have:=AcG P.kin (k:=0) (c:=leaf) rfl; simpa using this
 exact(RE ((ZT (P.cc leaf AiA)).leaf hC).2.1).2.2
theorem Aak {chain roots:List g_api_Cert}{now:Int}{r:g_api_Cert}(h:r∈roots)(hb:byV chain now r=0):MD chain now roots=0:=by
 unfold MD;rw[Ain (List.any_eq_true.2 ⟨r,h,by simpa using hb⟩)]
def badC (c:g_api_Cert):Bool:=(!c.Ca)||((if c.Ca=true then checkV c else default) !=0)
theorem AaX (l:List g_api_Cert):Aw l=some (l.any badC):=by
 unfold Aw A5;obtain⟨r,h1,h2⟩:=G6 (body:=AJ l) l badC () (fun i=>(i:Int)) (fun i x hx=>by
  unfold AJ D5 badC;rw[Dd hx,Aa];have:gu (!(!x.Ca)) (Cv x)=some (if x.Ca=true then checkV x else default):=by
   rw[O6]; cases x.Ca<;>rfl
  rw[this,Aa,Aa];cases ((!x.Ca)||((if x.Ca=true then checkV x else default) !=0))<;>rfl)
 rw[h1,Aa];rcases h2 with ⟨j,k,q1,q2,rfl⟩|⟨q,rfl⟩
 ·rw[Wq q1 q2];dsimp only;rw[Aa,ge0]
 ·rw[q]; rfl
theorem Ag5 {a:Aj}(h:BW a=some 0):a.Client.Roots.length≤8∧∀c∈a.Client.Roots,checkV c=0:=by
 unfold BW at h;rw[AaX]at h;split at h
 ·exfalso;obtain⟨b,hb⟩: ∃b,gu (!((true||((a.Client.Roots.length:Int)==0))||(decide ((a.Client.Roots.length:Int)>8)))) (some (a.Client.Roots.any badC))=some b:=LN _ ⟨_,rfl⟩;rw[hb,Aa,Ain (by simp)]at h;cases h
 ·obtain⟨x,hx,h⟩:=Ad h;obtain⟨b,hb,h⟩:=Ad h;obtain⟨d,hd,h⟩:=Ad h;split at h
  ·cases h
  ·rename_i hc;rw[Bool.not_eq_true,Bool.or_eq_false_iff]at hc;obtain⟨hc,hdf⟩:=hc;rw[hc,show(!false)=true from rfl,Aht]at hd;have hd:=Aid hd;rw[hdf]at hd;rw[Bool.or_eq_false_iff]at hc;refine⟨by have:=Ai3 hc.2; omega,fun c hcm=> ?_⟩;have:=List.any_eq_false.1 hd c hcm;unfold badC at this;cases hC:c.Ca with
   |false=>rw[hC]at this; exact absurd rfl this
   |true=>rw[hC,Ain rfl]at this; simpa using this
theorem AcP {c:g_api_Client}{o:g_api_Offer}{name:ByteArray}{now:Int}(hA:Acc c o name now){rs:List g_api_Cert}(hd:m_client_Check ⟨c.Who,rs,c.Logs,c.Pool,c.Cascade,c.View⟩=some 0)(hs: ∀r∈c.Roots,r∈rs):
  Acc ⟨c.Who,rs,c.Logs,c.Pool,c.Cascade,c.View⟩ o name now:=by
 obtain⟨hc,hp,x,more,leaf,ps,r1,r2,r3,r4,r5,r6⟩:=hA;obtain⟨m1,m2⟩:=Ag5 (Acy hd).1;refine⟨hd,?_,x,more,leaf,ps,r1,r2,?_,r4,r5,r6⟩
 ·obtain⟨x',more',e1,P,ht⟩:=PA (Aid ((Rt _ _ _ _).symm.trans hp));obtain⟨r,hrm,hrb⟩:=Adi ht;rw[Rt,e1];congr 1;have hlate:((x'::more').any fun c=> !timeB c now)=false:=by
   rw[List.any_eq_false];intro c hc;rw[P.tim c hc]; decide
  show W4 rs (x'::more') name now=0;rw[Abp P.len P.cc P.kin P.lnk (show rs.length≤16 from by have:rs.length≤8:=m1; omega) m2,Ail (by have:=P.now0; have:=P.nowM; omega),Ail (nn0 P.nam),Ail (by rw[P.has]; decide),Ail (by rw[hlate]; decide)];exact Aak (hs r hrm) hrb
 ·exact r3
theorem AaW {c:g_api_Client}{o:g_api_Offer}{name:ByteArray}{now:Int}(hA:Acc c o name now)(hp: ∀x∈o.Path,x.Proms.length≤1000000){rs:List g_api_Cert}(hd:m_client_Check ⟨c.Who,rs,c.Logs,c.Pool,c.Cascade,c.View⟩=some 0)(hs: ∀r∈c.Roots,r∈rs):
  AP ⟨c.Who,rs,c.Logs,c.Pool,c.Cascade,c.View⟩ o name now=some 0:=by
 obtain⟨e,he,hi⟩:=Tu ⟨c.Who,rs,c.Logs,c.Pool,c.Cascade,c.View⟩ o name now hp;rw[he,hi.2 (AcP hA hd hs)]
theorem AcM {xs ys:List g_api_Cert}(h1:xs.length≤1000)(h2:ys.length≤1000):app 168 xs ys=some (xs++ys):=NL 168 (by omega) (by omega)
theorem Zq (a0:g_api_Client)(a1:g_api_Offer)(a2:ByteArray)(a3:Int)(a4:g_api_Cert):EJ a0 a1 a2 a3 a4=some true:=by
 unfold EJ;rw[Xe,Aa,Ail (by decide)];obtain⟨b,hb,hf⟩:=AhH a0 a1;rw[hb,Aa,YJ];cases b with
 |false=>rfl
 |true=>
  obtain⟨⟨f1,f2,f3,f4⟩,f5,f6⟩:=hf rfl;cases hn:decide ((a2.size:Int)>100)with
  |true=>rfl
  |false=>
   obtain⟨p1,p2⟩:=Acf f5;have hp: ∀x∈a1.Path,x.Proms.length≤1000000:=fun x hx=>by have:=(AhK (p2 x hx)).2; omega
   obtain⟨e,he,hA⟩:=Tu a0 a1 a2 a3 hp;rw[show gu (!((!true)||false)) (some (Z5 a4))=some (Z5 a4)from rfl,Aa,he];cases Z5 a4 with
   |false=>rfl
   |true=>
    rw[show gu (!(((!true)||false)||(!true))) (some e)=some e from rfl,Aa];by_cases h0:e=0
    ·subst h0;have hA:=hA.1 rfl;have l1:=(Acf f1).1;have key:=fun(rs:List g_api_Cert) (hs: ∀r∈a0.Roots,r∈rs) (hd:m_client_Check ⟨a0.Who,rs,a0.Logs,a0.Pool,a0.Cascade,a0.View⟩=some 0)=>AaW hA hp hd hs;rw[Ail (by decide),AcM (by simp) (by omega),Aa,AcM (by simp; omega) (by simp),Aa,AcM (by simp) (by omega),Aa];obtain⟨e1,h1⟩:=PL ⟨a0.Who,([]++a0.Roots)++[a4],a0.Logs,a0.Pool,a0.Cascade,a0.View⟩;obtain⟨e2,h2⟩:=PL ⟨a0.Who,[a4]++a0.Roots,a0.Logs,a0.Pool,a0.Cascade,a0.View⟩;have k1:=key (([]++a0.Roots)++[a4]) (fun r hr=>by simp[hr]);have k2:=key ([a4]++a0.Roots) (fun r hr=>by simp[hr]);rw[h1,Aa,h2];by_cases z1:e1=0
     ·subst z1;rw[Ail (by decide),k1 h1,Aa,Ain (by decide),Aa];by_cases z2:e2=0
      ·subst z2;rw[Ail (by decide),k2 h2];rfl
      ·rw[Ain (by simpa using z2)]
     ·rw[Ain (by simpa using z1),Aa];by_cases z2:e2=0
      ·subst z2;rw[Ail (by decide),k2 h2];rfl
      ·rw[Ain (by simpa using z2)]
    ·rw[Ain (by simp[h0])]
end Go.Proofs.YtnhdojckpcbjeaaGreatDoor
end
