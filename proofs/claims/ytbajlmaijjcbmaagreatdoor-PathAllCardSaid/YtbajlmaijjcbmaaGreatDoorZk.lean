/- Several texts, one behind the other. Conditions: none. -/
import Derived.Test.YtbajlmaijjcbmaaGreatDoorZj
import Derived.Test.YtbajlmaijjcbmaaGreatDoorZb
import Derived.Test.YtbajlmaijjcbmaaGreatDoorZi
import Derived.Test.YtbajlmaijjcbmaaGreatDoorCards
import Derived.Test.YtbajlmaijjcbmaaGreatDoorTie
import Derived.WalkKit
import Derived.ProofKit
import Derived.OpenShut
import Derived.Deep.DeepHandedRow
import Derived.Lib.LaidTab
import Derived.SevenTiedAt
import Derived.Stop.LaidErr
set_option linter.unusedSimpArgs false
set_option linter.unusedVariables false
set_option maxHeartbeats 4000000
set_option maxRecDepth 100000
section
namespace Go.Proofs.YtbajlmaijjcbmaaGreatDoor
open Go Go.Gw Go.Ax
def U6 {α:Type}(f:Nat→α→Int):Nat→List α→Int
 |_,[]=>0
 |i,x::l=>if f i x=0 then U6 f (i+1) l else f i x
theorem fstE_zero {α:Type}(f:Nat→α→Int): ∀(l:List α) (i:Nat),U6 f i l=0↔∀k x,l[k]? =some x→f (i+k) x=0
 | [],i=>by simp[U6]
 |x::l,i=>by
  unfold U6;have ih:=fstE_zero f l (i+1);constructor
  ·intro h k y hy;by_cases h0:f i x=0
   ·rw[if_pos h0]at h;cases k with
    |zero=>cases hy; exact h0
    |succ k=>
     have:=ih.1 h k y (by simpa using hy);rw[show i+(k+1)=i+1+k from by omega]; exact this
   ·rw[if_neg h0]at h; exact absurd h h0
  ·intro h;have h0:f i x=0:=h 0 x rfl;rw[if_pos h0];refine ih.2 fun k y hy=> ?_;rw[show i+1+k=i+(k+1)from by omega];exact h (k+1) y (by simpa using hy)
def fsO (e:Int):Unit⊕Int:=if e=0 then .inl ()else .inr e
theorem fsO_get {e:Int}:(match fsO e with| .inr r=>some r| .inl _=>some 0:Option Int)=some e:=by
 unfold fsO;by_cases h:e=0
 ·rw[if_pos h,h]
 ·rw[if_neg h]
theorem eachR_fst {α:Type}{body:Int→α→Unit→Option (Unit⊕Int)}(f:Nat→α→Int): ∀(l:List α) (i:Nat),(∀k x,l[k]? =some x→body ((i+k:Nat):Int) x ()=some (fsO (f (i+k) x)))→Dl body l (i:Int) ()=some (fsO (U6 f i l))
 | [],i,_=>rfl
 |x::l,i,h=>by
  have h0:=h 0 x rfl;show Ae (body (i:Int) x ()) _=_;rw[show body (i:Int) x ()=_ from h0];show _=some (fsO (if f i x=0 then _ else _));rw[Nat.add_zero,Ab];by_cases hz:f i x=0
  ·rw[if_pos hz,hz];refine eachR_fst f l (i+1) fun k y hy=> ?_;have:=h (k+1) y (by simpa using hy);rw[show i+1+k=i+(k+1)from by omega]; exact this
  ·rw[if_neg hz];unfold fsO;rw[if_neg hz]
theorem eachN_fst {α:Type}{body:Int→Unit→Option (Unit⊕Int)}(f:Nat→α→Int)(l:List α)(h: ∀(k:Nat) (x:α),l[k]? =some x→body (k:Int) ()=some (fsO (f k x))): ∀(r:List α) (i:Nat),l.drop i=r→De body r.length (i:Int) ()=some (fsO (U6 f i r))
 | [],i,_=>rfl
 |x::r,i,hd=>by
  obtain⟨hc,hr,hlt⟩:=Du hd;show Ae (body (i:Int) ()) _=_;rw[h i x hc];show _=some (fsO (if f i x=0 then _ else _));rw[Ab];by_cases hz:f i x=0
  ·rw[if_pos hz,hz];exact eachN_fst f l h r (i+1) hr
  ·rw[if_neg hz];unfold fsO;rw[if_neg hz]
theorem eachN_any {α σ τ:Type}{body:Int→σ→Option (σ⊕τ)}(l:List α)(p:α→Bool)(s:σ)(g:Nat→τ)(h: ∀(k:Nat) (x:α),l[k]? =some x→body (k:Int) s=some (if p x=true then .inr (g k)else .inl s)):
  ∀(r:List α) (i:Nat),l.drop i=r→∃j,De body r.length (i:Int) s=some (if r.any p=true then .inr (g j)else .inl s)
 | [],i,_=>⟨0,rfl⟩
 |x::r,i,hd=>by
  obtain⟨hc,hr,hlt⟩:=Du hd;show∃j,Ae (body (i:Int) s) _=_;rw[h i x hc,List.any_cons];cases hp:p x with
  |true=>exact⟨i,rfl⟩
  |false=>
   obtain⟨j,ih⟩:=eachN_any l p s g h r (i+1) hr;exact⟨j,ih⟩
theorem nn0 {e:Int}(h:e=0): ¬(e≠0):=fun k=>k h
theorem cCheck_eq (c:g_api_Cert):C1 c=some (checkV c):=OI c
theorem b3_eq (i:Int)(c:g_api_Cert):Dp i c ()=some (fsO (checkV c)):=by
 unfold Dp fsO;rw[cCheck_eq,Ab];by_cases h:checkV c=0
 ·rw[if_pos h,if_neg (by simpa using h)]
 ·rw[if_neg h,if_pos (by simpa using h)]
def Wz (p:UInt64)(m:List UInt8)(s:g_api_Sig):Int:=(CZ p m s).getD 1
theorem sig_eq (p:UInt64){m:List UInt8}(s:g_api_Sig)(h:m.length≤600000):CZ p m s=some (Wz p m s):=by
 obtain⟨e,he⟩:=TU p s h;unfold Wz;rw[he]; rfl
def Ii (a b:g_api_Cert):Int:=if checkV a≠0 then checkV a else if checkV b≠0 then checkV b else if((!b.Ca)||(!eqS a.Issuer b.Subject))=true then 191 else if Wz b.Key (I7 a) a.Sig≠0 then 40 else 0
theorem link_V (a b:g_api_Cert):BH a b=some (Ii a b):=by
 have e1:Dl Dp ([a,b]:List g_api_Cert) 0 ()=some (fsO (U6 (fun _ c=>checkV c) 0 [a,b])):=eachR_fst (fun _ c=>checkV c) [a,b] 0 fun k x _=>b3_eq _ x;unfold BH Ii;rw[e1,Ab];show(match fsO (if checkV a=0 then(if checkV b=0 then 0 else checkV b)else checkV a)with| .inr r=>some r| .inl _=>_)=_;by_cases ha:checkV a=0
 ·rw[if_pos ha,if_neg (nn0 ha)];by_cases hb:checkV b=0
  ·rw[if_pos hb,if_neg (nn0 hb)];show(if((!b.Ca)||(!eqS a.Issuer b.Subject))=true then some 191 else _)=_;by_cases hc:((!b.Ca)||(!eqS a.Issuer b.Subject))=true
   ·rw[if_pos hc,if_pos hc]
   ·rw[if_neg hc,if_neg hc,Vi (okc ha),Ab];show Ae (CZ b.Key (I7 a) a.Sig) _=_;rw[sig_eq _ _ (by have:=TZ (okc ha); omega),Ab];by_cases hs:Wz b.Key (I7 a) a.Sig=0
    ·rw[if_neg (show¬((Wz b.Key (I7 a) a.Sig !=0)=true)from by simpa using hs),if_neg (nn0 hs)]
    ·rw[if_pos (show(Wz b.Key (I7 a) a.Sig !=0)=true from by simpa using hs),if_pos hs]
  ·rw[if_neg hb,if_pos hb];unfold fsO; rw[if_neg hb]
 ·rw[if_neg ha,if_pos ha];unfold fsO; rw[if_neg ha]
theorem link_tot (a b:g_api_Cert): ∃k,BH a b=some k:=⟨_,link_V a b⟩
theorem is_eqC (s:ByteArray):Dq s=some (isB (toL s) 8 64):=by
 unfold Dq;rw[show By s 8 64=some (isB (toL s) 8 64)from SS s 8 64 (by decide)];rfl
theorem pattern_eq (s:ByteArray): ∃o st,BY s=some (o,st,isB (toL s) 8 64||Ut (toL s))∧(isB (toL s) 8 64=true→o=s∧st=false)∧(isB (toL s) 8 64=false→Ut (toL s)=true→o=s.extract 2 s.size∧st=true):=by
 have hz:(toL s).length=s.size:=BA s;unfold BY;rw[is_eqC,Ab];cases h1:isB (toL s) 8 64 with
 |true=>exact⟨s,false,rfl,fun _=>⟨rfl,rfl⟩,fun h=>(by cases h)⟩
 |false=>
  rw[if_neg (by decide),Bool.false_or];unfold Bq AL AK;have e2:(((⟨#[42,46]⟩:ByteArray).size:Nat):Int)=2:=rfl;rw[e2];match hl:toL s with
  | []=>
   rw[hl,List.length_nil]at hz;rw[decide_eq_false (show¬(s.size:Int)≥2 from by omega)];exact⟨_,_,rfl,fun h=>(by cases h),fun _ h=>(by cases h)⟩
  | [a]=>
   rw[hl,List.length_cons,List.length_nil]at hz;rw[decide_eq_false (show¬(s.size:Int)≥2 from by omega)];exact⟨_,_,rfl,fun h=>(by cases h),fun _ h=>(by cases h)⟩
  |a::b::r=>
   rw[hl,List.length_cons,List.length_cons]at hz;have ec:Ma s 0 2=some (s.extract 0 2):=Fx (by omega) (by omega) (by omega);have el:(s.extract 0 2).data.toList=[a,b]:=by
    rw[I3];show((toL s).take 2).drop 0=_;rw[hl]; rfl
   have ee:eqS (s.extract 0 2) (⟨#[42,46]⟩:ByteArray)=(a==42&&b==46):=by
    unfold eqS;rw[el,Bool.eq_iff_iff];simp
   rw[decide_eq_true (show(s.size:Int)≥2 from by omega),Tq,ec,Ab,Cg,ee,Ab];show∃o st,_=some (o,st,(a==42&&b==46&&isB r 7 62))∧_∧(_→(a==42&&b==46&&isB r 7 62)=true→_);cases a==42&&b==46 with
   |false=>exact⟨_,_,rfl,fun h=>(by cases h),fun _ h=>(by cases h)⟩
   |true=>
    have ec2:Ma s 2 (s.size:Int)=some (s.extract 2 s.size):=by
     rw[Fx (by omega) (by omega) (by omega)]; rfl
    have el2:(s.extract 2 s.size).data.toList=r:=by
     rw[I3];show((toL s).take s.size).drop 2=_;rw[List.take_of_length_le (by rw[hl,List.length_cons,List.length_cons]; omega),hl]; rfl
    rw[show(true&&true)=true from rfl,if_neg (by decide),ec2,Ab,Ab,Ab];have en:=SS (s.extract 2 s.size) 7 62 (by decide);rw[el2]at en;have en:By (s.extract 2 s.size) 7 62=some (isB r 7 62):=en;show∃o st,Ae (gu true (By (s.extract 2 s.size) 7 62)) _=_∧_;rw[Tq,en,Ab];exact⟨_,_,rfl,fun h=>(by cases h),fun _ _=>⟨rfl,rfl⟩⟩
def upV (s:ByteArray):ByteArray:=(DZ s).getD ⟨#[]⟩
theorem up_eq (s:ByteArray):DZ s=some (upV s)∧(upV s=⟨#[]⟩∨(isB (toL s) 8 64=true∧∃p,toL s=p++46::toL (upV s)∧(46:UInt8)∉p)):=by
 have key: ∃u,DZ s=some u∧(u=⟨#[]⟩∨(isB (toL s) 8 64=true∧∃p,toL s=p++46::toL u∧(46:UInt8)∉p)):=by
  unfold DZ;rw[is_eqC,Ab];cases h1:isB (toL s) 8 64 with
  |false=>exact⟨_,rfl,.inl rfl⟩
  |true=>
   have hz:(toL s).length=s.size:=BA s;have hs:s.size≤64:=by
    unfold isB at h1;simp only[Bool.and_eq_true,decide_eq_true_eq]at h1;have:=h1.1.1; omega
   have hx:AD s (⟨#[46]⟩:ByteArray)=some (Tj s 46):=by
    have h:=Oy s (by omega);unfold Bb at h;cases q:AD s (⟨#[46]⟩:ByteArray)with
    |none=>rw[q]at h; cases h
    |some v=>rw[q]at h; exact h
   rw[if_neg (by decide)];unfold FY BN;rw[hx,Ab];rcases K0 s.data.toList 46 with ⟨h2,h3⟩|⟨p,r,h2,h3,h4⟩
   ·rw[show Tj s 46= -1 from h2,if_neg (by decide)];exact⟨_,rfl,.inl rfl⟩
   ·have hl:s.size=p.length+1+r.length:=by rw[←BA,h2,List.length_append,List.length_cons]; omega
    have e1:Ma s 0 (p.length:Int)=some (s.extract 0 p.length):=by
     rw[Fx (by omega) (by omega) (by omega)]; rfl
    have e2:Ma s (w64 ((p.length:Int)+((⟨#[46]⟩:ByteArray).size:Int))) (s.size:Int)=some (s.extract (p.length+1) s.size):=by
     have:((⟨#[46]⟩:ByteArray).size:Int)=1:=rfl;rw[this,Ec (by omega) (by omega),Fx (by omega) (by omega) (by omega)];rfl
    rw[show Tj s 46=(p.length:Int)from h4,if_pos (by rw[decide_eq_true_eq]; omega),e1,Ab,e2,Ab,Ab,Ab];refine⟨_,rfl,.inr ⟨rfl,p,?_,h3⟩⟩;have l2:(s.extract (p.length+1) s.size).data.toList=r:=by
     rw[I3,←BA,List.take_length,h2];rw[←List.drop_drop,List.drop_left]; rfl
    show s.data.toList=_;rw[show toL (s.extract (p.length+1) s.size)=r from l2]; exact h2
 obtain⟨u,h,h'⟩:=key;have e:upV s=u:=by unfold upV; rw[h]; rfl
 rw[e]; exact⟨h,h'⟩
theorem up_lt (s:ByteArray):upV s=⟨#[]⟩∨(upV s).size<s.size:=by
 rcases(up_eq s).2 with h|⟨_,p,h,_⟩
 ·exact .inl h
 ·refine .inr ?_;rw[←BA,←BA s];show(toL (upV s)).length<(toL s).length;rw[h,List.length_append,List.length_cons]; omega
theorem up_64 (s:ByteArray):(upV s).size≤64:=by
 rcases(up_eq s).2 with h|⟨h1,p,h,_⟩
 ·rw[h]; exact Nat.zero_le _
 ·unfold isB at h1;simp only[Bool.and_eq_true,decide_eq_true_eq]at h1;have:=h1.1.1;rw[h,List.length_append,List.length_cons]at this;rw[←BA];show(toL (upV s)).length≤64;omega
def belF:Nat→ByteArray→ByteArray→Bool
 |0,_,_=>false
 |n+1,s,o=>if eqS s ⟨#[]⟩=true then false else if eqS s o=true then true else belF n (upV s) o
def belV (s o:ByteArray):Bool:=belF 100 (upV s) o
theorem eqS_empty (s:ByteArray)(h: ¬eqS s ⟨#[]⟩=true):1≤s.size:=by
 rcases Nat.eq_zero_or_pos s.size with q|q
 ·refine absurd (HV.2 ?_) h;exact ByteArray.ext (Array.eq_empty_of_size_eq_zero q)
 ·exact q
theorem above_loop (o:ByteArray): ∀(n:Nat) (s:ByteArray),s.size<n→
  ∃z,iter (B6 (fun(s:(Bool)×Nat) (b0:ByteArray)=>if s.2=0 then Ae (Cz o b0 s) fun y=>some (y.2==0,y)else none)) n (s,(false,0))=some (z,if belF n s o=true then(true,1)else(false,0))
 |0,s,h=>by omega
 |n+1,s,h=>by
  show∃z,Ae (B6 _ (s,(false,0))) _=_;unfold B6 belF;by_cases h1:eqS s ⟨#[]⟩=true
  ·rw[h1];exact⟨s,rfl⟩
  ·have h1':eqS s ⟨#[]⟩=false:=by simpa using h1
   rw[h1'];unfold Cz;by_cases h2:eqS s o=true
   ·refine⟨s,?_⟩;simp only[h2];rfl
   ·have h2':eqS s o=false:=by simpa using h2
    have hlt:(upV s).size<n:=by
     have:=eqS_empty s h1;rcases up_lt s with q|q
     ·rw[q]; show 0<n; omega
     ·omega
    obtain⟨z,ih⟩:=above_loop o n (upV s) hlt;refine⟨z,?_⟩;simp only[h2',if_true,if_false,Bool.false_eq_true,Ab,(up_eq s).1];exact ih
theorem below_eq (s o:ByteArray):C5 s o=some (belV s o):=by
 obtain⟨z,h⟩:=above_loop o 100 (upV s) (by have:=up_64 s; omega);unfold C5 F3 EM;rw[Ab,(up_eq s).1,Ab,HP 100 h (by decide),Ab,Ab];unfold belV;cases belF 100 (upV s) o<;>rfl
def matV (p s:ByteArray):Bool:=isB (toL s) 8 64&&(if isB (toL p) 8 64=true then eqS p s else Ut (toL p)&&belV s (p.extract 2 p.size))
theorem match_eq (p s:ByteArray):EN p s=some (matV p s):=by
 obtain⟨o,st,h,h1,h2⟩:=pattern_eq p;unfold EN matV;rw[h,Ab,is_eqC];cases q1:isB (toL p) 8 64 with
 |true=>
  obtain⟨rfl,rfl⟩:=h1 q1;rw[Bool.true_or];cases isB (toL s) 8 64<;>rfl
 |false=>
  rw[Bool.false_or];cases q2:Ut (toL p)with
  |false=>cases isB (toL s) 8 64<;>rfl
  |true=>
   obtain⟨rfl,rfl⟩:=h2 q1 q2;cases isB (toL s) 8 64 with
   |false=>rfl
   |true=>
    show Ae (C5 s _) _=_;rw[below_eq]; rfl
theorem last_idx {α:Type}{l:List α}(h:l≠[])(hs:l.length≤1000): ∃x,l.getLast? =some x∧idx l (w64 ((l.length:Int)-1))=some x:=by
 have h1:1≤l.length:=List.length_pos_iff.2 h;refine⟨l.getLast h,List.getLast?_eq_some_getLast h,?_⟩;rw[Ec (by omega) (by omega)];have e:(l.length:Int)-1=((l.length-1:Nat):Int):=by omega
 rw[e];refine BX ?_;rw[←List.getLast?_eq_getElem?,List.getLast?_eq_some_getLast h]
theorem cut_tail {α:Type}(a:α)(l:List α):cut (a::l) 1 ((a::l).length:Int)=some l:=by
 have h:=XK [a] l;simpa using h
def timeB (c:g_api_Cert)(now:Int):Bool:=decide (c.From≤now)&&decide (c.Until>now)
theorem timely_eq (t:g_path_trip)(c:g_api_Cert):CC t c=some (timeB c t.now_):=rfl
def UP (c:g_api_Cert)(n:ByteArray):Bool:=c.Permit.any fun p=>matV p n
theorem refused_eq (n:ByteArray)(c:g_api_Cert):Cy n c=some (!UP c n,c):=by
 obtain⟨j,h⟩:=eachN_any (body:=Av c.Permit) c.Permit (fun p=>matV p n) n (fun k=>((k:Int),n)) (fun k x hx=>by
  unfold Av Dy;rw[BX hx,Ab,match_eq,Ab,Ab];cases matV x n<;>rfl) c.Permit 0 rfl
 have h:De (Av c.Permit) c.Permit.length 0 n=_:=h;unfold Cy AT A1 UP;rw[h,Ab];cases c.Permit.any fun p=>matV p n with
 |true=>
  show some (!decide ((j:Int)≥0),c)=_;rw[decide_eq_true (by omega)]
 |false=>rfl
theorem contains_eq131 (l:List ByteArray)(c:g_api_Cert):AE l c=some (l.any fun n=> !UP c n,c):=by
 obtain⟨j,h⟩:=eachN_any (body:=Aw l) l (fun n=> !UP c n) (c.Serial,c.Issuer,c.Subject,c.Key,c.Names,c.From,c.Until,c.Ca,c.Depth,c.Permit,c.Proms,c.Sig.E,c.Sig.S) (fun k=>((k:Int),c)) (fun k x hx=>by
  unfold Aw;rw[BX hx,Ab];show Ae (Cy x c) _=_;rw[refused_eq,Ab];cases UP c x<;>rfl) l 0 rfl
 have h:De (Aw l) l.length 0 (c.Serial,c.Issuer,c.Subject,c.Key,c.Names,c.From,c.Until,c.Ca,c.Depth,c.Permit,c.Proms,c.Sig.E,c.Sig.S)=_:=h;unfold AE A2;rw[h,Ab];cases l.any fun n=> !UP c n with
 |true=>
  show some (decide ((j:Int)≥0),c)=_;rw[decide_eq_true (by omega)]
 |false=>rfl
def W6 (names:List ByteArray)(i:Nat)(c:g_api_Cert):Int:=if c.Depth<(i:Int)then 191 else if 0<c.Permit.length∧(names.any fun n=> !UP c n)=true then 110 else 0
def byV (chain:List g_api_Cert)(now:Int)(root:g_api_Cert):Int:=
 match chain with
 | []=>1
 |leaf::more=>
  let e:=Ii ((leaf::more).getLast (by simp)) root
  if e≠0 then e else if timeB root now=false then 190 else U6 (W6 leaf.Names) 0 (more++[root])
theorem by_eq (roots:List g_api_Cert)(leaf:g_api_Cert)(more:List g_api_Cert)(name:ByteArray)(now:Int)(root:g_api_Cert)(hn:more.length≤100):
  Dn ⟨roots,leaf::more,name,now⟩ root=some (byV (leaf::more) now root):=by
 obtain⟨x,hx,hi⟩:=last_idx (l:=leaf::more) (by simp) (by simp; omega);have hx:(leaf::more).getLast (by simp)=x:=by rw[List.getLast?_eq_some_getLast (by simp)]at hx; exact Option.some.inj hx
 unfold Dn byV;simp only[hx];show Ae (idx (leaf::more) (w64 (((leaf::more).length:Int)-1))) _=_;rw[hi,Ab,link_V,Ab];by_cases h1:Ii x root=0
 ·rw[if_neg (show¬((Ii x root !=0)=true)from by simpa using h1),if_neg (nn0 h1),timely_eq,Ab];show(if(!timeB root now)=true then some 190 else _)=_;cases timeB root now with
  |false=>rfl
  |true=>
   rw[if_neg (by decide),if_neg (by decide)];have ec:cut (leaf::more) 1 ((leaf::more).length:Int)=some more:=cut_tail leaf more;show Ae (cut (leaf::more) 1 ((leaf::more).length:Int)) _=_;rw[ec,Ab];unfold AB;rw[Ho 168 (by simp; omega) (by simp; omega),Ab,Ab,List.nil_append,Ho 168 (by simp; omega) (by simp; omega),Ab];have e:=eachN_fst (body:=Cm ⟨roots,leaf::more,name,now⟩ (more++[root])) (W6 leaf.Names) (more++[root]) (fun k c hc=>by
    unfold Cm;rw[BX hc,Ab,Cg];unfold W6;by_cases h2:c.Depth<(k:Int)
    ·rw[if_pos h2,if_pos (by simpa using h2)]; rfl
    ·rw[if_neg h2,if_neg (by simpa using h2)];by_cases h3:0<c.Permit.length
     ·rw[if_pos (by rw[decide_eq_true_eq]; omega)];show Ae (some leaf) _=_;rw[Ab,contains_eq131,Ab];cases leaf.Names.any fun n=> !UP c n with
      |true=>rw[if_pos rfl,if_pos ⟨h3,rfl⟩]; rfl
      |false=>rw[if_neg (by simp),if_neg (by simp)]; rfl
     ·rw[if_neg (by rw[decide_eq_true_eq]; omega),if_neg (by simp[h3])]; rfl) (more++[root]) 0 rfl
   have e:De (Cm ⟨roots,leaf::more,name,now⟩ (more++[root])) (more++[root]).length 0 ()=_:=e;rw[e,Ab];exact fsO_get
 ·rw[if_pos (show(Ii x root !=0)=true from by simpa using h1),if_pos h1]
def I6 (roots chain:List g_api_Cert)(name:ByteArray)(now:Int):Int:=if chain.length=0∨4<chain.length∨16<roots.length∨now<0∨now>1099511627776 then 1 else nameV name
def caB:Nat→List g_api_Cert→Bool
 |_,[]=>true
 |i,c::r=>(c.Ca==decide (0<i))&&caB (i+1) r
def JK (chain:List g_api_Cert)(name:ByteArray)(now:Int):Int:=if caB 0 chain=false then 191 else match chain with| []=>1|leaf::_=>if(leaf.Names.any fun s=>eqS name s)=false then 110 else if(chain.any fun c=> !timeB c now)=true then 190 else 0
def linksV:List g_api_Cert→Int
 |a::b::r=>if Ii a b≠0 then Ii a b else linksV (b::r)
 |_=>0
def LF (chain:List g_api_Cert)(now:Int)(roots:List g_api_Cert):Int:=if(roots.any fun r=>byV chain now r==0)=true then 0 else match roots with| []=>191|r::_=>byV chain now r
def Ri (l:List g_api_Cert):Int:=U6 (fun _ c=>checkV c) 0 l
def Hu (roots chain:List g_api_Cert)(name:ByteArray)(now:Int):Int:=if I6 roots chain name now≠0 then I6 roots chain name now else if Ri (chain++roots)≠0 then Ri (chain++roots)else if JK chain name now≠0 then JK chain name now else if linksV chain≠0 then linksV chain else LF chain now roots
theorem bounds_iff (n r:Nat)(now:Int):((((((n:Int)==0)||(decide ((n:Int)>4)))||(decide ((r:Int)>16)))||(decide (now<0)))||(decide (now>1099511627776)))=decide (n=0∨4<n∨16<r∨now<0∨now>1099511627776):=by
 rw[Bool.eq_iff_iff];simp only[Bool.or_eq_true,decide_eq_true_eq,beq_iff_eq];have e1:(n:Int)=0↔n=0:=by omega
 have e2:(n:Int)>4↔4<n:=by omega
 have e3:(r:Int)>16↔16<r:=by omega
 rw[e1,e2,e3,or_assoc,or_assoc,or_assoc]
theorem bounds_eq (t:g_path_trip):CD t=some (I6 t.roots_ t.chain_ t.name_ t.now_):=by
 obtain⟨ro,ch,nm,nw⟩:=t;unfold CD I6;dsimp only;rw[Nb,Ab,bounds_iff];by_cases h:ch.length=0∨4<ch.length∨16<ro.length∨nw<0∨nw>1099511627776
 ·rw[if_pos h,if_pos (decide_eq_true h)]
 ·rw[if_neg h,if_neg (fun q=>h (of_decide_eq_true q))]
theorem grow_nil (n:Nat)(h:n≤10000):AP (n:Int)=some []:=by
 unfold AP;rw[decide_eq_false (show¬((n:Int)<0)from by omega),if_neg (by decide),Ab,Cg];have e0:w64 (0-((0:Nat):Int))=0:=Ec (by decide) (by decide);have e1:w64 ((n:Int)-w64 (0-((0:Nat):Int)))=(n:Int):=by
  rw[e0,Int.sub_zero];exact Ec (by omega) (by omega)
 rw[e1];by_cases h0:n=0
 ·rw[decide_eq_false (show¬((n:Int)>0)from by omega),if_neg (by decide),Ab]
 ·rw[decide_eq_true (show(n:Int)>0 from by omega),if_pos rfl,if_pos ⟨by omega,by omega,by omega⟩,Ab]
theorem sum_len (a b:List g_api_Cert)(ha:a.length≤1000)(hb:b.length≤1000):EY Ao ([a,b]:List (List g_api_Cert)) 0 0=some ((a.length+b.length:Nat):Int):=by
 have e: ∀(n:Nat) (i:Int) (x:List g_api_Cert),n+x.length≤10000→Ao i x (n:Int)=some ((n+x.length:Nat):Int):=by
  intro n i x h;have e1:w64 ((n:Int)+(x.length:Int))=((n+x.length:Nat):Int):=by
   rw[Ec (by omega) (by omega)]; exact(Int.natCast_add _ _).symm
  unfold Ao;rw[Cg,e1,decide_eq_false (show¬(((n+x.length:Nat):Int)<0)from by omega),if_neg (by decide),Ab]
 have e0:=e 0 0 a (by omega);have e1:=e a.length (0+1) b (by omega);rw[Nat.zero_add]at e0;show Ae (Ao 0 a ((0:Nat):Int)) (fun s=>Ae (Ao (0+1) b s) fun s=>some s)=_;rw[e0,Ab,e1,Ab]
theorem concat_eq (a b:List g_api_Cert)(ha:a.length≤1000)(hb:b.length≤1000):AG ([a,b]:List (List g_api_Cert))=some (a++b):=by
 unfold AG;rw[sum_len a b ha hb,Ab,Ab,grow_nil _ (by omega),Ab];have e:EY Aq ([a,b]:List (List g_api_Cert)) 0 []=some (a++b):=by
  show Ae (Aq 0 a []) (fun s=>Ae (Aq (0+1) b s) fun s=>some s)=_;unfold Aq;rw[Ho 168 (by simp; omega) (by simp; omega),Ab,Ab,List.nil_append,Ho 168 (by omega) (by omega),Ab,Ab]
 rw[e,Ab,Ab]
theorem path_each_eq (t:g_path_trip)(ha:t.chain_.length≤1000)(hb:t.roots_.length≤1000):Di t=some (Ri (t.chain_++t.roots_)):=by
 unfold Di;rw[concat_eq _ _ ha hb,Ab];have e:=eachR_fst (body:=BP) (fun _ c=>checkV c) (t.chain_++t.roots_) 0 (fun k x _=>by
  unfold BP;rw[cCheck_eq,Ab];unfold fsO;by_cases h:checkV x=0
  ·rw[if_pos h,if_neg (by simpa using h)]
  ·rw[if_neg h,if_pos (by simpa using h)])
 have e:Dl BP (t.chain_++t.roots_) 0 ()=_:=e;rw[e,Ab];exact fsO_get
theorem kinds_loop (t:g_path_trip): ∀(r:List g_api_Cert) (i:Nat) (s:Bool),t.chain_.drop i=r→De (Bi t) r.length (i:Int) s=some (if caB i r=true then .inl (s||r.any fun c=> !timeB c t.now_)else .inr 191)
 | [],i,s,_=>by show some (Sum.inl s)=_; simp[caB]
 |c::r,i,s,hd=>by
  obtain⟨hc,hr,hlt⟩:=Du hd;have ih:=kinds_loop t r (i+1) (s|| !timeB c t.now_) hr;show Ae (Bi t (i:Int) s) _=_;have e:Bi t (i:Int) s=some (if(c.Ca==decide (0<i))=true then .inl (s|| !timeB c t.now_)else .inr 191):=by
   unfold Bi;rw[BX hc,Ab,timely_eq];have ed:decide ((i:Int)>0)=decide (0<i):=by rw[decide_eq_decide]; omega
   rw[ed];cases s with
   |true=>
    show Ae (some default) _=_;rw[Ab];cases c.Ca==decide (0<i)<;>rfl
   |false=>
    show Ae (some (timeB c t.now_)) _=_;rw[Ab];cases c.Ca==decide (0<i)<;>rfl
  rw[e];unfold caB;cases c.Ca==decide (0<i)with
  |false=>rfl
  |true=>
   rw[if_pos rfl,Ab,Bool.true_and,List.any_cons,←Bool.or_assoc];exact ih
theorem has_eq (l:List ByteArray)(n:ByteArray):A3 l n=some (l.any fun s=>eqS n s):=by
 obtain⟨j,h⟩:=eachN_any (body:=AO l n) l (fun s=>eqS n s) () (fun k=>(k:Int)) (fun k x hx=>by
  unfold AO;rw[BX hx,Ab];cases eqS n x<;>rfl) l 0 rfl
 have h:De (AO l n) l.length 0 ()=_:=h;unfold A3 BF;rw[h,Ab];cases l.any fun s=>eqS n s with
 |true=>
  show some (decide ((j:Int)≥0))=_;rw[decide_eq_true (by omega)]
 |false=>rfl
theorem kinds_eq (t:g_path_trip)(h:t.chain_≠[]):CV t=some (JK t.chain_ t.name_ t.now_):=by
 unfold CV JK;rw[show De (Bi t) t.chain_.length 0 false=_ from kinds_loop t t.chain_ 0 false rfl,Ab];cases caB 0 t.chain_ with
 |false=>rfl
 |true=>
  rw[if_pos rfl,if_neg (by decide)];cases hl:t.chain_ with
  |nil=>exact absurd hl h
  |cons leaf more=>
   show Ae (some leaf) _=_;rw[Ab,has_eq,Ab,Bool.false_or];show _=some (if(leaf.Names.any fun s=>eqS t.name_ s)=false then 110 else _);cases leaf.Names.any fun s=>eqS t.name_ s with
   |false=>rfl
   |true=>
    cases (leaf::more).any fun c=> !timeB c t.now_<;>rfl
theorem links_loop (t:g_path_trip)(hn:t.chain_.length≤1000): ∀(r:List g_api_Cert) (a:g_api_Cert) (i:Nat),t.chain_.drop i=a::r→De (Bh t) r.length (i:Int) ()=some (fsO (linksV (a::r)))
 | [],a,i,_=>rfl
 |b::r,a,i,hd=>by
  obtain⟨ha,hr,hlt⟩:=Du hd;obtain⟨hb,hr2,hlt2⟩:=Du hr;have ih:=links_loop t hn r b (i+1) hr;show Ae (Bh t (i:Int) ()) _=_;have e:Bh t (i:Int) ()=some (fsO (Ii a b)):=by
   unfold Bh fsO;rw[BX ha,Ab,Jk (by omega),BX hb,Ab,link_V,Ab];by_cases h:Ii a b=0
   ·rw[if_pos h,if_neg (by simpa using h)]
   ·rw[if_neg h,if_pos (by simpa using h)]
  rw[e,Ab];unfold linksV;by_cases h:Ii a b=0
  ·rw[if_neg (nn0 h),h];exact ih
  ·rw[if_pos h];unfold fsO;rw[if_neg h]
theorem links_eq (t:g_path_trip)(h:t.chain_≠[])(hn:t.chain_.length≤1000):CU t=some (linksV t.chain_):=by
 unfold CU;cases hl:t.chain_ with
 |nil=>exact absurd hl h
 |cons a r=>
  have e1:Int.toNat (w64 (((a::r).length:Int)-1))=r.length:=by
   rw[hl,List.length_cons]at hn;have e0:((a::r).length:Int)-1=(r.length:Int):=by simp
   rw[e0,Ec (by omega) (by omega),Int.toNat_natCast]
  rw[e1,show De (Bh t) r.length 0 ()=_ from links_loop t hn r a 0 hl,Ab];exact fsO_get
theorem trusted_loop (t:g_path_trip)(hc:t.chain_≠[])(hn:t.chain_.length≤100)(hr:t.roots_.length≤1000): ∀(i n:Nat) (e:Int),i≤t.roots_.length→i<n→
  iter (AZ t) n (e,(i:Int)-1)=some (if((t.roots_.take i).any fun r=>byV t.chain_ t.now_ r==0)=true then .inr 0 else .inl (match t.roots_.take i with| []=>e|r::_=>byV t.chain_ t.now_ r))
 |0,n,e,_,hn0=>by
  obtain⟨n,rfl⟩: ∃q,n=q+1:=⟨n-1,by omega⟩;rfl
 |i+1,n,e,hi,hn0=>by
  obtain⟨n,rfl⟩: ∃q,n=q+1:=⟨n-1,by omega⟩;have hlt:i<t.roots_.length:=by omega
  have hx:t.roots_[i]? =some t.roots_[i]:=List.getElem?_eq_getElem hlt;have eb:Dn t t.roots_[i]=some (byV t.chain_ t.now_ t.roots_[i]):=by
   obtain⟨ro,ch,nm,nw⟩:=t;cases ch with
   |nil=>exact absurd rfl hc
   |cons a r=>exact by_eq _ a r _ _ _ (by simp only[List.length_cons]at hn; omega)
  have e1:((i+1:Nat):Int)-1=(i:Int):=by omega
  rw[e1];show Ae (AZ t (e,(i:Int))) _=_;have es:AZ t (e,(i:Int))=some (if(byV t.chain_ t.now_ t.roots_[i]==0)=true then .inr (.inr 0)else .inl (byV t.chain_ t.now_ t.roots_[i],(i:Int)-1)):=by
   unfold AZ;rw[if_pos (by rw[decide_eq_true_eq]; show(i:Int)≥0; omega)];show Ae (idx t.roots_ (i:Int)) _=_;rw[BX hx,Ab,eb,Ab];cases byV t.chain_ t.now_ t.roots_[i]==0 with
   |true=>rfl
   |false=>
    rw[if_neg (by decide),if_neg (by decide)];show some (Sum.inl (_,w64 ((i:Int)-1)))=_;rw[Ec (by omega) (by omega)]
  rw[es,Ab];have et:t.roots_.take (i+1)=t.roots_.take i++[t.roots_[i]]:=by rw[List.take_add_one,hx]; rfl
  rw[et,List.any_append];have ih:=trusted_loop t hc hn hr i n (byV t.chain_ t.now_ t.roots_[i]) (by omega) (by omega);cases hb:byV t.chain_ t.now_ t.roots_[i]==0 with
  |true=>
   rw[if_pos rfl];have:(([t.roots_[i]]:List g_api_Cert).any fun r=>byV t.chain_ t.now_ r==0)=true:=by simp[hb]
   rw[this,Bool.or_true,if_pos rfl]
  |false=>
   rw[if_neg (by decide)];show iter (AZ t) n (_,(i:Int)-1)=_;rw[ih];have:(([t.roots_[i]]:List g_api_Cert).any fun r=>byV t.chain_ t.now_ r==0)=false:=by simp[hb]
   rw[this,Bool.or_false];cases (t.roots_.take i).any fun r=>byV t.chain_ t.now_ r==0 with
   |true=>rfl
   |false=>cases t.roots_.take i<;>rfl
theorem trusted_eq (t:g_path_trip)(hc:t.chain_≠[])(hn:t.chain_.length≤100)(hr:t.roots_.length≤1000):Co t=some (LF t.chain_ t.now_ t.roots_):=by
 unfold Co LF;rw[Cg,Ec (by omega) (by omega),trusted_loop t hc hn hr t.roots_.length Dh 191 (Nat.le_refl _) (by have:=Ek; omega),Ab,List.take_length];cases t.roots_.any fun r=>byV t.chain_ t.now_ r==0 with
 |true=>rfl
 |false=>cases t.roots_<;>rfl
theorem row_b1 (x:Ei)(i e:Int)(h:Fw x=some e):CE i x ()=some (fsO e):=by
 unfold CE fsO;rw[h,Ab];by_cases h:e=0
 ·rw[if_pos h,if_neg (by simpa using h)]
 ·rw[if_neg h,if_pos (by simpa using h)]
theorem row_cons (x:Ei)(l:List Ei)(i e:Int)(h:Fw x=some e):Dl CE (x::l) i ()=if e≠0 then some (.inr e)else Dl CE l (i+1) ():=by
 show Ae (CE i x ()) _=_;rw[row_b1 x i e h,Ab];unfold fsO;by_cases h:e=0
 ·rw[if_pos h,if_neg (by simpa using h)]
 ·rw[if_neg h,if_pos h]
theorem path_eq (roots chain:List g_api_Cert)(name:ByteArray)(now:Int):Bx roots chain name now=some (Hu roots chain name now):=by
 unfold Bx H5 Hu;generalize ht:(⟨roots,chain,name,now⟩:g_path_trip)=t;have h1:t.roots_=roots:=by rw[←ht]
 have h2:t.chain_=chain:=by rw[←ht]
 have h3:t.name_=name:=by rw[←ht]
 have h4:t.now_=now:=by rw[←ht]
 have d1:Fw ⟨34,t⟩=some (I6 roots chain name now):=by rw[←h1,←h2,←h3,←h4]; exact bounds_eq t
 rw[row_cons _ _ _ _ d1];by_cases z1:I6 roots chain name now=0
 ·have hb: ¬(chain.length=0∨4<chain.length∨16<roots.length∨now<0∨now>1099511627776):=by
   intro h;unfold I6 at z1;rw[if_pos h]at z1;cases z1
  have hne:chain≠[]:=fun h=>hb (.inl (by rw[h]; rfl));have d2:Fw ⟨35,t⟩=some (Ri (chain++roots)):=by rw[←h1,←h2]; exact path_each_eq t (by rw[h2]; omega) (by rw[h1]; omega)
  have d3:Fw ⟨36,t⟩=some (JK chain name now):=by rw[←h2,←h3,←h4]; exact kinds_eq t (by rw[h2]; exact hne)
  have d4:Fw ⟨37,t⟩=some (linksV chain):=by rw[←h2]; exact links_eq t (by rw[h2]; exact hne) (by rw[h2]; omega)
  have d5:Fw ⟨38,t⟩=some (LF chain now roots):=by rw[←h1,←h2,←h4]; exact trusted_eq t (by rw[h2]; exact hne) (by rw[h2]; omega) (by rw[h1]; omega)
  rw[if_neg (nn0 z1),if_neg (nn0 z1),row_cons _ _ _ _ d2];by_cases z2:Ri (chain++roots)=0
  ·rw[if_neg (nn0 z2),if_neg (nn0 z2),row_cons _ _ _ _ d3];by_cases z3:JK chain name now=0
   ·rw[if_neg (nn0 z3),if_neg (nn0 z3),row_cons _ _ _ _ d4];by_cases z4:linksV chain=0
    ·rw[if_neg (nn0 z4),if_neg (nn0 z4),row_cons _ _ _ _ d5];by_cases z5:LF chain now roots=0
     ·rw[if_neg (nn0 z5),z5]; rfl
     ·rw[if_pos z5]; rfl
    ·rw[if_pos z4,if_pos z4]; rfl
   ·rw[if_pos z3,if_pos z3]; rfl
  ·rw[if_pos z2,if_pos z2]; rfl
 ·rw[if_pos z1,if_pos z1]; rfl
structure Wk (roots:List g_api_Cert)(leaf:g_api_Cert)(more:List g_api_Cert)(name:ByteArray)(now:Int):Prop where
 len:more.length≤3
 rts:roots.length≤16
 now0:0≤now
 nowM:now≤1099511627776
 nam:nameV name=0
 all: ∀c∈leaf::more++roots,checkV c=0
 kin:caB 0 (leaf::more)=true
 has:(leaf.Names.any fun s=>eqS name s)=true
 tim: ∀c∈leaf::more,timeB c now=true
 lnk:linksV (leaf::more)=0
theorem pathV_ok {roots chain:List g_api_Cert}{name:ByteArray}{now:Int}(h:I6 roots chain name now=0)(h2:Ri (chain++roots)=0)(h3:JK chain name now=0)(h4:linksV chain=0):
  ∃leaf more,chain=leaf::more∧Wk roots leaf more name now:=by
 unfold I6 at h;split at h
 ·cases h
 rename_i hb;cases chain with
 |nil=>exact absurd (.inl rfl) hb
 |cons leaf more=>
  refine⟨leaf,more,rfl,?_⟩;unfold JK at h3;split at h3
  ·cases h3
  rename_i hk;have h3:(if(leaf.Names.any fun s=>eqS name s)=false then(110:Int)else if((leaf::more).any fun c=> !timeB c now)=true then 190 else 0)=0:=h3;split at h3
  ·cases h3
  rename_i hh;split at h3
  ·cases h3
  rename_i ht;have ha:=(fstE_zero _ _ _).1 h2;refine⟨?_,by omega,by omega,by omega,h,?_,by simpa using hk,by simpa using hh,?_,h4⟩
  ·simp only[List.length_cons]at hb; omega
  ·intro c hc;obtain⟨k,hk⟩:=List.mem_iff_getElem?.1 hc;exact ha k c hk
  ·intro c hc;cases q:timeB c now with
   |true=>rfl
   |false=>exact absurd (List.any_eq_true.2 ⟨c,hc,by rw[q]; rfl⟩) ht
theorem pathV_zero {roots chain:List g_api_Cert}{name:ByteArray}{now:Int}(h:Hu roots chain name now=0): ∃leaf more,chain=leaf::more∧Wk roots leaf more name now∧LF (leaf::more) now roots=0:=by
 unfold Hu at h;split at h
 ·contradiction
 split at h
 ·contradiction
 split at h
 ·contradiction
 split at h
 ·contradiction
 rename_i h1 h2 h3 h4;obtain⟨leaf,more,rfl,hp⟩:=pathV_ok (by simpa using h1) (by simpa using h2) (by simpa using h3) (by simpa using h4);exact⟨leaf,more,rfl,hp,h⟩
end Go.Proofs.YtbajlmaijjcbmaaGreatDoor
end
section
namespace Go.Proofs.YtbajlmaijjcbmaaGreatDoor
open Go Go.Gw Go.Ax
theorem FUEL_mil:1000001≤Dh:=Nat.le_of_ble_eq_true rfl
def XA {α τ:Type}(f:Nat→α→Option τ):Nat→List α→Unit⊕τ
 |_,[]=> .inl ()
 |i,x::l=>match f i x with|some t=> .inr t|none=>XA f (i+1) l
theorem iter_fnd {α τ:Type}{step:Int→Option (Int⊕(Unit⊕τ))}(l:List α)(f:Nat→α→Option τ)(hs: ∀(i:Nat) (x:α),l[i]? =some x→step (i:Int)=some (match f i x with|some t=> .inr (.inr t)|none=> .inl ((i+1:Nat):Int)))
  (he:step (l.length:Int)=some (.inr (.inl ()))): ∀(r:List α) (i n:Nat),l.drop i=r→i≤l.length→r.length<n→iter step n (i:Int)=some (XA f i r)
 |r,i,0,_,_,h=>by omega
 | [],i,n+1,hd,hi,_=>by
  have:l.length≤i:=List.drop_eq_nil_iff.1 hd;have e:i=l.length:=by omega
  rw[e,Cu he]; rfl
 |x::r,i,n+1,hd,hi,hn=>by
  obtain⟨hc,hr,hlt⟩:=Du hd;have h:=hs i x hc;unfold XA;cases hf:f i x with
  |some t=>rw[hf]at h; rw[Cu h]
  |none=>
   rw[hf]at h;rw[Cr h];exact iter_fnd l f hs he r (i+1) n hr hlt (by simp only[List.length_cons]at hn; omega)
theorem iter_fnd0 {α τ:Type}{step:Int→Option (Int⊕(Unit⊕τ))}(l:List α)(f:Nat→α→Option τ)(hl:l.length≤1000000)(hs: ∀(i:Nat) (x:α),l[i]? =some x→step (i:Int)=some (match f i x with|some t=> .inr (.inr t)|none=> .inl ((i+1:Nat):Int)))
  (he:step (l.length:Int)=some (.inr (.inl ()))):iter step Dh 0=some (XA f 0 l):=
 iter_fnd l f hs he l 0 Dh rfl (Nat.zero_le _) (by have:=FUEL_mil; omega)
theorem fndI_none {α τ:Type}{f:Nat→α→Option τ}: ∀{l:List α} {i:Nat},(∀k x,l[k]? =some x→f (i+k) x=none)→XA f i l= .inl ()
 | [],i,_=>rfl
 |x::l,i,h=>by
  unfold XA;rw[show f i x=none from h 0 x rfl];refine fndI_none fun k y hy=> ?_;have:=h (k+1) y (by simpa using hy);rw[show i+1+k=i+(k+1)from by omega]; exact this
theorem gu_ttN {α:Type} [Inhabited α](o:Option α):gu (!false) o=o:=rfl
def abvB (a b:g_api_Cert):Bool:=(b.Ca&&eqS b.Subject a.Issuer)&&(Wz b.Key (I7 a) a.Sig==0)
def letB (c:g_api_Cert)(l:List ByteArray)(below now:Int):Bool:=if(l.all fun n=>((c.Permit.length:Int)==0)||UP c n)=true then((c.Ca&&(decide (c.Depth≥below)))&&(decide (c.From≤now)))&&(decide (now<c.Until))else false
theorem linksV_get: ∀{l:List g_api_Cert} {i:Nat} {a b:g_api_Cert},linksV l=0→l[i]? =some a→l[i+1]? =some b→Ii a b=0
 | [],i,a,b,_,h,_=>by cases h
 | [c],i,a,b,_,_,h=>by cases h
 |c::d::r,0,a,b,h,ha,hb=>by
  cases ha; cases hb;unfold linksV at h;split at h
  ·contradiction
  ·rename_i q; simpa using q
 |c::d::r,i+1,a,b,h,ha,hb=>by
  unfold linksV at h;split at h
  ·contradiction
  ·exact linksV_get h (i:=i) (by simpa using ha) (by simpa using hb)
end Go.Proofs.YtbajlmaijjcbmaaGreatDoor
end
section
namespace Go.Proofs.YtbajlmaijjcbmaaGreatDoor
open Go Go.Gw Go.Ax
def OP {σ α:Type}(y:σ→α→Option (Bool×σ)):List α→σ→Option (σ⊕σ)
 | [],s=>some (.inl s)
 |x::l,s=>Ae (y s x) fun r=>if r.1=true then OP y l r.2 else some (.inr r.2)
theorem run_app {σ α:Type}{y:σ→α→Option (Bool×σ)}: ∀(a b:List α) (s:σ),OP y (a++b) s=Ae (OP y a s) fun t=>match t with
  | .inl s=>OP y b s
  | .inr s=>some (.inr s)
 | [],b,s=>rfl
 |x::a,b,s=>by
  show Ae (y s x) _=Ae (Ae (y s x) _) _;cases y s x with
  |none=>rfl
  |some r=>
   rw[Ab,Ab];cases h:r.1
   ·rfl
   ·exact run_app a b r.2
def two {σ:Type}:σ⊕σ→(σ⊕σ)⊕(σ⊕σ)
 | .inl s=> .inl (.inl s)
 | .inr s=> .inr (.inr s)
def strp {σ:Type}:σ⊕σ→σ
 | .inl s=>s
 | .inr s=>s
theorem strp_two {σ:Type}(t:σ⊕σ):strp (two t)=t:=by cases t<;>rfl
theorem run_wp {σ:Type}{y:σ→List g_api_Cert→Option (Bool×σ)}: ∀(l:List (List g_api_Cert)) (s:σ),OP (MN (wp y)) l (.inl s)=(OP y l s).map two
 | [],s=>rfl
 |x::l,s=>by
  show Ae ((wp y s x).map fun r=>(isL r,r)) _=(Ae (y s x) _).map two;unfold wp;cases y s x with
  |none=>rfl
  |some r=>
   rw[Ab,Ab];obtain⟨b,s'⟩:=r;cases b
   ·rfl
   ·exact run_wp l s'
def lkB (a:Option g_api_Cert)(b:g_api_Cert):Bool:=match a with|some a=>BH a b==some 0|none=>false
def Jd (f:List OC→List g_api_Cert→List (List g_api_Cert))(pool:List OC)(ch:List g_api_Cert):Nat→List OC→List (List g_api_Cert)
 |_,[]=> []
 |i,none::r=>Jd f pool ch (i+1) r
 |i,some d::r=>(if lkB ch.getLast? d=true then f (pool.set i none) (ch++[d])else [])++Jd f pool ch (i+1) r
def Gu:Nat→List OC→List g_api_Cert→List (List g_api_Cert)
 |0,_,_=> []
 |n+1,pool,ch=>ch::(if ch.length=4 then []else Jd (Gu n) pool ch 0 pool)
theorem ways_eq: ∀(n:Nat) {σ:Type} (y:σ→List g_api_Cert→Option (Bool×σ)) (pool:List OC) (ch:List g_api_Cert) (s:σ),4<n+ch.length→ch≠[]→ch.length≤4→pool.length≤1000→
  FM n σ y pool ch s=(OP y (Gu n pool ch) s).map strp
 |0,σ,y,pool,ch,s,h,_,h4,_=>by omega
 |n+1,σ,y,pool,ch,s,h,hne,h4,hp=>by
  have each: ∀(r:List OC) (i:Nat) (s:σ),pool.drop i=r→ch.length≠4→Dl (Eg (FM n (σ⊕σ)) y pool ch) r (i:Int) s=OP y (Jd (Gu n) pool ch i r) s:=by
   intro r;induction r with
   |nil=>intro i s _ _; rfl
   |cons c r ih=>
    intro i s hd h5;obtain⟨hc,hr,hlt⟩:=Du hd;have ih':=fun s=>ih (i+1) s hr h5;have e1:((i+1:Nat):Int)=(i:Int)+1:=by omega
    simp only[e1]at ih';show Ae (Eg _ y pool ch (i:Int) c s) _=_;cases c with
    |none=>
     show Ae (some (Sum.inl s)) _=_;rw[Ab];exact ih' s
    |some d=>
     obtain⟨x,hx,hi⟩:=last_idx hne (by omega);obtain⟨k,hk⟩:=link_tot x d;show _=OP y (_++_) s;rw[run_app];have e2:Eg (FM n (σ⊕σ)) y pool ch (i:Int) (some d) s=OP y (if lkB ch.getLast? d=true then Gu n (pool.set i none) (ch++[d])else []) s:=by
      show Ae (idx ch (w64 ((ch.length:Int)-1))) _=_;rw[hi,Ab,hk,Ab,hx];show _=OP y (if(BH x d==some 0)=true then _ else []) s;rw[hk];by_cases hz:k=0
      ·subst hz;rw[if_neg (by decide),if_pos (by decide)];have e3:B4 pool=some pool:=by
        unfold B4;rw[Ho 8 (by simp; omega) (by simp; omega),Ab,List.nil_append]
       rw[e3,Ab,BX hc,Ab,Ho 168 (by simp; omega) (by simp; omega),Ab,Int.toNat_natCast];rw[ways_eq n _ _ _ _ (by simp; omega) (by simp) (by simp; omega) (by simp; omega),run_wp,Option.map_map];show(OP y _ s).map _=_;have:(strp∘two:σ⊕σ→σ⊕σ)=id:=funext strp_two;rw[this,Option.map_id_fun,id]
      ·rw[if_pos (by simpa using hz),if_neg (by simpa using hz)];rfl
     rw[e2];congr 1;funext t;cases t with
     |inl s=>exact ih' s
     |inr s=>rfl
  show Ae (y s ch) _=(Ae (y s ch) _).map strp;cases y s ch with
  |none=>rfl
  |some r=>
   rw[Ab,Ab];obtain⟨b,s'⟩:=r;cases b with
   |false=>rfl
   |true=>
    by_cases h5:ch.length=4
    ·rw[if_pos h5,if_pos (by simp[h5])];rfl
    ·have hb: ¬((!true||((ch.length:Int)==4))=true):=by
      simp only[Bool.not_true,Bool.false_or,beq_iff_eq]; omega
     rw[if_neg hb,if_neg h5];rw[show Dl (Eg (FM n (σ⊕σ)) y pool ch) pool 0 s'=_ from each pool 0 s' rfl h5];show _=(OP y _ s').map strp;cases OP y (Jd (Gu n) pool ch 0 pool) s' with
     |none=>rfl
     |some t=>cases t<;>rfl
end Go.Proofs.YtbajlmaijjcbmaaGreatDoor
end
section
namespace Go.Proofs.YtbajlmaijjcbmaaGreatDoor
open Go Go.Gw Go.Ax
theorem all_loop: ∀(r:List g_api_Cert) (i:Int) (acc:List OC),acc.length+r.length≤1000→Dl FF r i acc=some (.inl (acc++r.map some))
 | [],i,acc,_=>by show some (Sum.inl acc)=_; simp
 |c::r,i,acc,h=>by
  simp only[List.length_cons]at h;show Ae (FF i c acc) _=_;unfold FF;rw[Ho 8 (by simp; omega) (by simp; omega),Ab,Ab];show Dl FF r (i+1) (acc++[some c])=_;rw[all_loop r (i+1) (acc++[some c]) (by simp; omega),List.append_assoc];rfl
theorem run_build {roots:List g_api_Cert}{name:ByteArray}{now:Int}: ∀(l:List (List g_api_Cert)) (out:List (List g_api_Cert)),(∀x∈l,x.length≤1000)→out.length+l.length≤1000000000→
  OP (MN (FE roots name now)) l (.inl out)=some (.inl (.inl (out++l.filter fun x=>Hu roots x name now==0)))
 | [],out,_,_=>by show some (Sum.inl (Sum.inl out))=_; simp
 |x::l,out,h,hn=>by
  simp only[List.length_cons]at hn;have hx:=h x List.mem_cons_self;have e:FE roots name now out x=some (.inl (out++[x].filter fun x=>Hu roots x name now==0)):=by
   unfold FE;rw[path_eq,Ab,List.filter_cons,List.filter_nil];cases Hu roots x name now==0 with
   |true=>
    rw[if_pos rfl,if_pos rfl];unfold AB;rw[Ho 168 (by simp; omega) (by simp; omega),Ab,Ab,List.nil_append,Ho 24 (by simp; omega) (by simp; omega),Ab]
   |false=>rw[if_neg (by decide),if_neg (by decide),List.append_nil]
  show Ae ((FE roots name now out x).map fun r=>(isL r,r)) _=_;rw[e];show OP (MN (FE roots name now)) l (.inl (out++[x].filter fun x=>Hu roots x name now==0))=_;have hf:([x].filter fun x=>Hu roots x name now==0).length≤1:=List.length_filter_le _ _;rw[run_build l _ (fun y hy=>h y (List.mem_cons_of_mem _ hy)) (by rw[List.length_append]; omega),List.append_assoc,←List.filter_append];rfl
theorem waysI_len {f:List OC→List g_api_Cert→List (List g_api_Cert)}{pool:List OC}{ch:List g_api_Cert}(B:Nat)(h: ∀i c,(f (pool.set i none) c).length≤B): ∀(r:List OC) (i:Nat),(Jd f pool ch i r).length≤r.length*B
 | [],i=>by simp[Jd]
 |none::r,i=>by
  have:=waysI_len (ch:=ch) B h r (i+1);show(Jd f pool ch (i+1) r).length≤_;rw[List.length_cons,Nat.succ_mul]; omega
 |some d::r,i=>by
  have:=waysI_len (ch:=ch) B h r (i+1);show(_++Jd f pool ch (i+1) r).length≤_;rw[List.length_append,List.length_cons,Nat.succ_mul];have:(if lkB ch.getLast? d=true then f (pool.set i none) (ch++[d])else []).length≤B:=by
   split
   ·exact h i _
   ·exact Nat.zero_le _
  omega
theorem waysL_len: ∀(n:Nat) (pool:List OC) (ch:List g_api_Cert),pool.length≤8→(Gu n pool ch).length≤9^n
 |0,_,_,_=>Nat.zero_le _
 |n+1,pool,ch,h=>by
  unfold Gu;have ih: ∀(i:Nat) (c:List g_api_Cert),(Gu n (pool.set i none) c).length≤9^n:=fun i c=>waysL_len n _ c (by rw[List.length_set]; exact h);rw[List.length_cons];have h9:1≤9^n:=Nat.one_le_pow _ _ (by decide);have:(if ch.length=4 then []else Jd (Gu n) pool ch 0 pool).length≤8*9^n:=by
   split
   ·exact Nat.zero_le _
   ·exact Nat.le_trans (waysI_len (9^n) ih pool 0) (Nat.mul_le_mul_right _ h)
  rw[Nat.pow_succ];omega
theorem waysL_mem: ∀(n:Nat) (pool:List OC) (ch:List g_api_Cert),ch.length≤4→∀x∈Gu n pool ch,x.length≤4∧∃t,x=ch++t∧∀c∈t,some c∈pool
 |0,_,_,_,x,hx=>by cases hx
 |n+1,pool,ch,h,x,hx=>by
  unfold Gu at hx;rcases List.mem_cons.1 hx with rfl|hx
  ·exact⟨h,[],by simp,fun c hc=>by cases hc⟩
  split at hx
  ·cases hx
  rename_i h4;have each: ∀(r:List OC) (i:Nat),pool.drop i=r→x∈Jd (Gu n) pool ch i r→x.length≤4∧∃t,x=ch++t∧∀c∈t,some c∈pool:=by
   intro r;induction r with
   |nil=>intro i _ hx; cases hx
   |cons c r ih=>
    intro i hd hx;obtain⟨hc,hr,hlt⟩:=Du hd;cases c with
    |none=>exact ih (i+1) hr hx
    |some d=>
     have hx:x∈(if lkB ch.getLast? d=true then Gu n (pool.set i none) (ch++[d])else [])++Jd (Gu n) pool ch (i+1) r:=hx;rcases List.mem_append.1 hx with hx|hx
     ·split at hx
      ·obtain⟨h1,t,h2,h3⟩:=waysL_mem n (pool.set i none) (ch++[d]) (by simp; omega) x hx;refine⟨h1,d::t,by rw[h2]; simp,fun e he=> ?_⟩;rcases List.mem_cons.1 he with rfl|he
       ·exact List.mem_of_getElem? hc
       ·rcases List.mem_or_eq_of_mem_set (h3 e he)with q|q
        ·exact q
        ·cases q
      ·cases hx
     ·exact ih (i+1) hr hx
  exact each pool 0 rfl hx
theorem ways_self (n:Nat)(pool:List OC)(ch:List g_api_Cert):ch∈Gu (n+1) pool ch:=List.mem_cons_self
theorem ways_next {n:Nat}{pool:List OC}{ch x:List g_api_Cert}{i:Nat}{d:g_api_Cert}(h4:ch.length≠4)(hd:pool[i]? =some (some d))(hl:lkB ch.getLast? d=true)(hx:x∈Gu n (pool.set i none) (ch++[d])):x∈Gu (n+1) pool ch:=by
 unfold Gu;rw[if_neg h4];refine List.mem_cons_of_mem _ ?_;have each: ∀(r:List OC) (k:Nat),pool.drop k=r→k≤i→x∈Jd (Gu n) pool ch k r:=by
  intro r;induction r with
  |nil=>
   intro k hk hki;have:=List.drop_eq_nil_iff.1 hk;have:=(List.getElem?_eq_some_iff.1 hd).1;omega
  |cons c r ih=>
   intro k hk hki;obtain⟨hc,hr,hlt⟩:=Du hk;rcases Nat.eq_or_lt_of_le hki with rfl|hlt2
   ·rw[hd]at hc; cases hc;show x∈(if lkB ch.getLast? d=true then Gu n (pool.set k none) (ch++[d])else [])++_;rw[if_pos hl];exact List.mem_append_left _ hx
   ·have:=ih (k+1) hr hlt2;cases c with
    |none=>exact this
    |some e=>exact List.mem_append_right _ this
 exact each pool 0 rfl (Nat.zero_le _)
def QH (roots pool:List g_api_Cert)(leaf:g_api_Cert)(name:ByteArray)(now:Int):List (List g_api_Cert):=(Gu 8 (pool.map some) [leaf]).filter fun x=>Hu roots x name now==0
theorem build_eq (a0 a1:List g_api_Cert)(a2:g_api_Cert)(a3:ByteArray)(a4:Int)(h:a1.length≤8):Ew a0 a1 a2 a3 a4=some (QH a0 a1 a2 a3 a4):=by
 unfold Ew QH;have hp:(a1.map some).length≤8:=by rw[List.length_map]; exact h
 have hlen:=waysL_len 8 (a1.map some) [a2] hp;have hmem:=waysL_mem 8 (a1.map some) [a2] (by simp);rw[if_neg (fun q=>by have:=of_decide_eq_true q; omega),all_loop a1 0 [] (by simp; omega),Ab,List.nil_append];dsimp only;rw[ways_eq 8 _ _ _ _ (by simp) (by simp) (by simp) (by omega),run_build _ [] (fun x hx=>by have:=(hmem x hx).1; omega) (by simp; omega),List.nil_append];rfl
theorem bld_mem {a0 a1:List g_api_Cert}{a2:g_api_Cert}{a3:ByteArray}{a4:Int}{x:List g_api_Cert}(h:x∈QH a0 a1 a2 a3 a4):Hu a0 x a3 a4=0∧∃t,x=a2::t∧t.length≤3∧∀c∈t,c∈a1:=by
 unfold QH at h;obtain⟨h1,h2⟩:=List.mem_filter.1 h;obtain⟨h3,t,h4,h5⟩:=waysL_mem 8 (a1.map some) [a2] (by simp) x h1;refine⟨by simpa using h2,t,by simpa using h4,?_,fun c hc=>by simpa using h5 c hc⟩;rw[h4]at h3; simp at h3; omega
theorem bld_len (a0 a1:List g_api_Cert)(a2:g_api_Cert)(a3:ByteArray)(a4:Int)(h:a1.length≤8):(QH a0 a1 a2 a3 a4).length≤100000000:=by
 unfold QH;have h1:=waysL_len 8 (a1.map some) [a2] (by rw[List.length_map]; exact h);have h2:=List.length_filter_le (fun x=>Hu a0 x a3 a4==0) (Gu 8 (a1.map some) [a2]);have:(9:Nat)^8≤100000000:=by decide
 omega
end Go.Proofs.YtbajlmaijjcbmaaGreatDoor
end
section
namespace Go.Proofs.YtbajlmaijjcbmaaGreatDoor
open Go Go.Gw Go.Ax
theorem iter_any2 {α:Type}{step:Bool×Bool×Int→Option ((Bool×Bool×Int)⊕(Bool×Bool))}(l:List α)(p q:α→Bool)(hs: ∀(i:Nat) (x:α) (b c:Bool),l[i]? =some x→step (b,c,(i:Int))=some (.inl (b||p x,c||q x,((i+1:Nat):Int))))
  (he: ∀b c,step (b,c,(l.length:Int))=some (.inr (b,c))): ∀(r:List α) (i n:Nat) (b c:Bool),l.drop i=r→i≤l.length→r.length<n→iter step n (b,c,(i:Int))=some (b||r.any p,c||r.any q)
 |r,i,0,b,c,_,_,h=>by omega
 | [],i,n+1,b,c,hd,hi,_=>by
  have:l.length≤i:=List.drop_eq_nil_iff.1 hd;have e:i=l.length:=by omega
  rw[e,Cu (he b c)]; simp
 |x::r,i,n+1,b,c,hd,hi,hn=>by
  obtain⟨hc,hr,hlt⟩:=Du hd;rw[Cr (hs i x b c hc),iter_any2 l p q hs he r (i+1) n _ _ hr hlt (by simp only[List.length_cons]at hn; omega),List.any_cons,List.any_cons,Bool.or_assoc,Bool.or_assoc]
def s18B (a b:g_api_Cert):Bool:=(DI a b).getD false
theorem s18_eq {a b:g_api_Cert}(P:FewP a):DI a b=some (s18B a b)∧(a=b→s18B a b=true):=by
 obtain⟨r,h1,h2⟩:=Q2 (a:=a) (b:=b) ⟨P.nproms,P.nnames,P.npermit⟩;unfold s18B;rw[h1];exact⟨rfl,h2.2⟩
theorem certs_eq (a b:List g_api_Cert)(ha:a.length≤1000000)(hP: ∀c∈a,FewP c): ∃r,BV a b=some r∧(a=b→r=true):=by
 unfold BV;by_cases hl:a.length=b.length
 ·rw[if_neg (show¬(((a.length:Int) !=(b.length:Int))=true)from by rw[hl]; simp)];have e:=iter_fnd0 (step:=Cx a b) a (fun i c=>match b[i]? with|some d=>if s18B c d=true then none else some false|none=>some false) ha (fun i c hc=>by
   have hi:=(List.getElem?_eq_some_iff.1 hc).1;have hd:b[i]? =some b[i]:=List.getElem?_eq_getElem (by omega);unfold Cx;rw[if_pos (decide_eq_true (show(i:Int)<(a.length:Int)from by omega)),BX hc,Ab,BX hd,Ab,(s18_eq (hP c (List.mem_of_getElem? hc))).1,Ab,Jk (by omega),hd];dsimp only;cases s18B c b[i]<;>rfl) (by
   unfold Cx;rw[if_neg (fun h=>by have:=of_decide_eq_true h; omega)])
  rw[e,Ab];cases hq:XA (fun i c=>match b[i]? with|some d=>if s18B c d=true then none else some false|none=>some false) 0 a with
  |inl u=>exact⟨true,rfl,fun _=>rfl⟩
  |inr r=>
   refine⟨r,rfl,fun h=> ?_⟩;subst h;rw[fndI_none (fun k x hx=>by rw[Nat.zero_add,hx]; dsimp only; rw[(s18_eq (hP x (List.mem_of_getElem? hx))).2 rfl,if_pos rfl])]at hq;cases hq
 ·rw[if_pos (show((a.length:Int) !=(b.length:Int))=true from by rw[bne_iff_ne]; omega)];exact⟨false,rfl,fun h=>absurd (by rw[h]) hl⟩
def crB (a b:List g_api_Cert):Bool:=(BV a b).getD false
theorem cr_eq (a b:List g_api_Cert)(ha:a.length≤1000000)(hP: ∀c∈a,FewP c):BV a b=some (crB a b)∧(a=b→crB a b=true):=by
 obtain⟨r,h1,h2⟩:=certs_eq a b ha hP;unfold crB;rw[h1];exact⟨rfl,h2⟩
theorem all_any {a2 x5 x6 x7:g_api_Cert}{x4:List (List g_api_Cert)}(hl:x4.length≤100000000)(hx: ∀x∈x4,x.length≤1000000∧∀c∈x,FewP c):
  iter (BI a2 x4 x5 x6 x7) Dh (false,false,0)=some (x4.any (fun x=>crB x [a2,x5]),x4.any (fun x=>crB x [a2,x6,x7])):=by
 have e:=iter_any2 (step:=BI a2 x4 x5 x6 x7) x4 (fun x=>crB x [a2,x5]) (fun x=>crB x [a2,x6,x7]) (fun i x b c h=>by
  have hi:=(List.getElem?_eq_some_iff.1 h).1;obtain⟨h1,h2⟩:=hx x (List.mem_of_getElem? h);unfold BI;dsimp only;rw[if_pos (decide_eq_true (show(i:Int)<(x4.length:Int)from by omega)),show w64 ((i:Int)+1)=((i+1:Nat):Int)from by rw[Ev (by omega) (by omega)]; rfl,BX h];have e1:=(cr_eq x [a2,x5] h1 h2).1;have e2:=(cr_eq x [a2,x6,x7] h1 h2).1;cases b with
  |true=>
   cases c with
   |true=>rfl
   |false=>
    show Ae (gu (!true) (some x)) _=_;rw[show gu (!true) (some x)=some default from rfl,Ab,show gu (!true) (BV default [a2,x5])=some default from rfl,Ab,gu_ttN,Ab,e2,gu_ttN,Ab];rfl
  |false=>
   rw[gu_ttN,Ab,e1,gu_ttN,Ab];cases c with
   |true=>rfl
   |false=>rw[gu_ttN,Ab,e2,gu_ttN,Ab]) (fun b c=>by
  unfold BI;dsimp only;rw[if_neg (fun h=>by have:=of_decide_eq_true h; omega)]) x4 0 Dh false false rfl (Nat.zero_le _) (by have:100000001≤Dh:=Nat.le_of_ble_eq_true rfl; omega)
 rw[Bool.false_or,Bool.false_or]at e;exact e
theorem lk_ok {a b:g_api_Cert}(h:Ii a b=0):lkB (some a) b=true:=by
 show(BH a b==some 0)=true;rw[link_V,h]; rfl
theorem one_in {a0 a1:List g_api_Cert}{a2 c:g_api_Cert}{a3:ByteArray}{a4:Int}{i:Nat}(hc:a1[i]? =some c)(h:Hu a0 [a2,c] a3 a4=0): [a2,c]∈QH a0 a1 a2 a3 a4:=by
 obtain⟨leaf,more,e,P,_⟩:=pathV_zero h;cases e;have hl:Ii a2 c=0:=linksV_get P.lnk (i:=0) rfl rfl;unfold QH;refine List.mem_filter.2 ⟨ways_next (i:=i) (d:=c) (by simp) (by rw[List.getElem?_map,hc]; rfl) (lk_ok hl) (ways_self _ _ _),by simpa using h⟩
theorem two_in {a0 a1:List g_api_Cert}{a2 c d:g_api_Cert}{a3:ByteArray}{a4:Int}{i j:Nat}(hc:a1[i]? =some c)(hd:a1[j]? =some d)(hij:i≠j)(h:Hu a0 [a2,c,d] a3 a4=0): [a2,c,d]∈QH a0 a1 a2 a3 a4:=by
 obtain⟨leaf,more,e,P,_⟩:=pathV_zero h;cases e;have hl:Ii a2 c=0:=linksV_get P.lnk (i:=0) rfl rfl;have hl2:Ii c d=0:=linksV_get P.lnk (i:=1) rfl rfl;unfold QH;refine List.mem_filter.2 ⟨ways_next (i:=i) (d:=c) (by simp) (by rw[List.getElem?_map,hc]; rfl) (lk_ok hl) (ways_next (n:=6) (i:=j) (d:=d) (by simp) ?_ (lk_ok hl2) (ways_self _ _ _)),by simpa using h⟩;rw[List.getElem?_set_ne hij,List.getElem?_map,hd]; rfl
theorem all_true (a0 a1:List g_api_Cert)(a2:g_api_Cert)(a3:ByteArray)(a4 a5 a6:Int):DL a0 a1 a2 a3 a4 a5 a6=some true:=by
 unfold DL;rw[Pt,Ab,if_neg (by decide)];obtain⟨b,hb,h⟩:=TD a0 [a2] a3;obtain⟨b',hb',h'⟩:=TD [] a1 ⟨#[]⟩;rw[hb,Ab,hb'];cases b with
 |false=>rfl
 |true=>
  rw[show gu (!(!true)) (some b')=some b' from rfl,Ab];cases b' with
  |false=>rfl
  |true=>
   obtain⟨_,_,hl,hF⟩:=h' rfl;obtain⟨_,_,_,hF2,_⟩:=h rfl;cases hg:((((((!true)||(!true))||(decide (a5<0)))||(decide (a6<0)))||(decide (a5≥(a1.length:Int))))||(decide (a6≥(a1.length:Int))))||(a5==a6)with
   |true=>rw[if_pos rfl]
   |false=>
    simp only[Bool.or_eq_false_iff,decide_eq_false_iff_not,beq_eq_false_iff_ne]at hg;obtain⟨⟨⟨⟨⟨_,g1⟩,g2⟩,g3⟩,g4⟩,g5⟩:=hg;obtain⟨i,rfl⟩: ∃i:Nat,a5=(i:Int):=⟨a5.toNat,by omega⟩;obtain⟨j,rfl⟩: ∃j:Nat,a6=(j:Int):=⟨a6.toNat,by omega⟩;have hi:a1[i]? =some a1[i]:=List.getElem?_eq_getElem (by omega);have hj:a1[j]? =some a1[j]:=List.getElem?_eq_getElem (by omega);have hij:i≠j:=fun e=>g5 (by rw[e]);have hloop:=all_any (a2:=a2) (x5:=a1[i]) (x6:=a1[i]) (x7:=a1[j]) (bld_len a0 a1 a2 a3 a4 (by omega)) (fun x hx=>by
     obtain⟨_,t,rfl,ht,hm⟩:=bld_mem hx;refine⟨by simp only[List.length_cons]; omega,fun c hc=> ?_⟩;rcases List.mem_cons.1 hc with rfl|hc
     ·exact hF2 c (by simp)
     ·exact hF.1 c (hm c hc))
    rw[if_neg (by decide),build_eq _ _ _ _ _ (by omega),Ab,BX hi,Ab,Ab,BX hj,Ab,hloop,Ab,Ab];dsimp only;have k1:Hu a0 [a2,a1[i]] a3 a4=0→((QH a0 a1 a2 a3 a4).any fun x=>crB x [a2,a1[i]])=true:=fun hz=>List.any_eq_true.2 ⟨_,one_in hi hz,(cr_eq _ _ (by simp) (fun c hc=>by
     rcases List.mem_cons.1 hc with rfl|hc
     ·exact hF2 c (by simp)
     ·exact hF.1 c (by rw[List.mem_singleton.1 hc]; exact List.mem_of_getElem? hi))).2 rfl⟩
    have k2:Hu a0 [a2,a1[i],a1[j]] a3 a4=0→((QH a0 a1 a2 a3 a4).any fun x=>crB x [a2,a1[i],a1[j]])=true:=fun hz=>List.any_eq_true.2 ⟨_,two_in hi hj hij hz,(cr_eq _ _ (by simp) (fun c hc=>by
     rcases List.mem_cons.1 hc with rfl|hc
     ·exact hF2 c (by simp)
     ·rcases List.mem_cons.1 hc with rfl|hc
      ·exact hF.1 _ (List.mem_of_getElem? hi)
      ·exact hF.1 c (by rw[List.mem_singleton.1 hc]; exact List.mem_of_getElem? hj))).2 rfl⟩
    rw[path_eq,path_eq];generalize ((QH a0 a1 a2 a3 a4).any fun x=>crB x [a2,a1[i]])=f at*;generalize ((QH a0 a1 a2 a3 a4).any fun x=>crB x [a2,a1[i],a1[j]])=s at*;generalize Hu a0 [a2,a1[i]] a3 a4=u at*;generalize Hu a0 [a2,a1[i],a1[j]] a3 a4=v at*;have hu:f=false→(u !=0)=true:=fun h=>by
     by_cases hz:u=0
     ·rw[k1 hz]at h; cases h
     ·simpa using hz
    have hv:s=false→(v !=0)=true:=fun h=>by
     by_cases hz:v=0
     ·rw[k2 hz]at h; cases h
     ·simpa using hz
    cases f with
    |true=>
     rw[show gu (true&&(!true)) (some u)=some default from rfl,Ab];cases s with
     |true=>rfl
     |false=>
      show Ae (some v) _=_;rw[Ab,Cg,hv rfl]; rfl
    |false=>
     rw[show gu (true&&(!false)) (some u)=some u from rfl,Ab,hu rfl];cases s with
     |true=>rfl
     |false=>
      show Ae (some v) _=_;rw[Ab,Cg,hv rfl]; rfl
end Go.Proofs.YtbajlmaijjcbmaaGreatDoor
end
section
namespace Go.Proofs.YtbajlmaijjcbmaaGreatDoor.lawPathAll
open Go Go.Gw Go.ChangeShapes Go.WideShapes Go.ChangeAt Go.RowKit
theorem own:ownKnob Tryz.prog.godebug=none:=by kernel_rfl
theorem tab_ir:Ir Tryz.prog 180 (.agg [.agg [.lit (.int .i64 1),.held [103,114,101,97,116,115,101,97,108,47,100,101,114,46,107,105,110,100,115,36,49]],.agg [.lit (.int .i64 2),.held [103,114,101,97,116,115,101,97,108,47,100,101,114,46,108,101,97,115,116]],.agg [.lit (.int .i64 4),.held [103,114,101,97,116,115,101,97,108,47,100,101,114,46,107,105,110,100,115,36,50]],.agg [.lit (.int .i64 12),.held [103,114,101,97,116,115,101,97,108,47,100,101,114,46,107,105,110,100,115,36,51]],.agg [.lit (.int .i64 48),.held [103,114,101,97,116,115,101,97,108,47,100,101,114,46,107,105,110,100,115,36,52]]]) [[.int .i64 1,.func (.func 252) #[] #[]],[.int .i64 2,.func (.func 157) #[] #[]],[.int .i64 4,.func (.func 253) #[] #[]],[.int .i64 12,.func (.func 254) #[] #[]],[.int .i64 48,.func (.func 257) #[] #[]]].flatten:=
 Ir.arr (n:=5) (k:=2) Tryz.underlying180 (by kernel_rfl) (by kernel_rfl) rfl rfl fun i d c h1 h2=>by
  match i,h1,h2 with
  |0,h1,h2=>cases h1; cases h2; exact Ir.pair Tryz.underlying146 rfl rfl rfl (by kernel_rfl) rfl rfl (by kernel_rfl) (by kernel_rfl) (Ir.int Tryz.underlying3) (Ir.fn Tryz.underlying144 Tryz.func252 (by kernel_rfl) (by kernel_rfl))
  |1,h1,h2=>cases h1; cases h2; exact Ir.pair Tryz.underlying146 rfl rfl rfl (by kernel_rfl) rfl rfl (by kernel_rfl) (by kernel_rfl) (Ir.int Tryz.underlying3) (Ir.fn Tryz.underlying144 Tryz.func157 (by kernel_rfl) (by kernel_rfl))
  |2,h1,h2=>cases h1; cases h2; exact Ir.pair Tryz.underlying146 rfl rfl rfl (by kernel_rfl) rfl rfl (by kernel_rfl) (by kernel_rfl) (Ir.int Tryz.underlying3) (Ir.fn Tryz.underlying144 Tryz.func253 (by kernel_rfl) (by kernel_rfl))
  |3,h1,h2=>cases h1; cases h2; exact Ir.pair Tryz.underlying146 rfl rfl rfl (by kernel_rfl) rfl rfl (by kernel_rfl) (by kernel_rfl) (Ir.int Tryz.underlying3) (Ir.fn Tryz.underlying144 Tryz.func254 (by kernel_rfl) (by kernel_rfl))
  |4,h1,h2=>cases h1; cases h2; exact Ir.pair Tryz.underlying146 rfl rfl rfl (by kernel_rfl) rfl rfl (by kernel_rfl) (by kernel_rfl) (Ir.int Tryz.underlying3) (Ir.fn Tryz.underlying144 Tryz.func257 (by kernel_rfl) (by kernel_rfl))
  |n+5,h1,h2=>cases h1
theorem gB {W:World}(h:laidMetH Tryz.prog Rows.pathAllRow.laid W):GB (memOf W):=fun p hp=>by
 obtain rfl:=List.mem_singleton.1 hp;exact gb_of (name:= "greatseal/der.kinds") (by kernel_rfl) (by kernel_rfl) (laidMetH.funcs h (d:= .agg [.agg [.lit (.int .i64 1),.iface "func" (.lit (.string [103,114,101,97,116,115,101,97,108,47,100,101,114,46,107,105,110,100,115,36,49]))],.agg [.lit (.int .i64 2),.iface "func" (.lit (.string [103,114,101,97,116,115,101,97,108,47,100,101,114,46,108,101,97,115,116]))],.agg [.lit (.int .i64 4),.iface "func" (.lit (.string [103,114,101,97,116,115,101,97,108,47,100,101,114,46,107,105,110,100,115,36,50]))],.agg [.lit (.int .i64 12),.iface "func" (.lit (.string [103,114,101,97,116,115,101,97,108,47,100,101,114,46,107,105,110,100,115,36,51]))],.agg [.lit (.int .i64 48),.iface "func" (.lit (.string [103,114,101,97,116,115,101,97,108,47,100,101,114,46,107,105,110,100,115,36,52]))]]) (List.Mem.tail _ (List.Mem.head _))) tab_ir
theorem rd3:Rd Tryz.prog 3 (Int):=Rd.int Tryz.underlying3
theorem rd9:Rd Tryz.prog 9 (ByteArray):=Rd.str Tryz.underlying9
theorem rd22:Rd Tryz.prog 22 (UInt64):=Rd.u64 Tryz.underlying22
theorem rd23:Rd Tryz.prog 23 (List ByteArray):=Rd.slice Tryz.underlying23 rd9 (by kernel_rfl) (by decide)
theorem rd4:Rd Tryz.prog 4 (Bool):=Rd.bool Tryz.underlying4
theorem rd84:Rd Tryz.prog 84 (UInt64×UInt64):=Rd.arr2 Tryz.underlying84 rd22 (by kernel_rfl) (by kernel_rfl)
theorem rd26:Rd Tryz.prog 26 (g_api_Sig):=Rd.struct Tryz.underlying26 (Ka.more rfl rd22 (by kernel_rfl) (Ka.last rfl rd22 (by kernel_rfl))) (by kernel_rfl) (fun b=>⟨b.1,b.2⟩) (fun h=>h)
theorem rd86:Rd Tryz.prog 86 (g_api_Promise):=Rd.struct Tryz.underlying86 (Ka.more rfl rd3 (by kernel_rfl) (Ka.more rfl rd3 (by kernel_rfl) (Ka.more rfl rd84 (by kernel_rfl) (Ka.last rfl rd26 (by kernel_rfl))))) (by kernel_rfl) (fun b=>⟨b.1,b.2.1,b.2.2.1,b.2.2.2⟩) (fun h=>h)
theorem rd24:Rd Tryz.prog 24 (List g_api_Promise):=Rd.slice Tryz.underlying24 rd86 (by kernel_rfl) (by decide)
theorem rd28:Rd Tryz.prog 28 (g_api_Cert):=Rd.struct Tryz.underlying28 (Ka.more rfl rd3 (by kernel_rfl) (Ka.more rfl rd9 (by kernel_rfl) (Ka.more rfl rd9 (by kernel_rfl) (Ka.more rfl rd22 (by kernel_rfl) (Ka.more rfl rd23 (by kernel_rfl) (Ka.more rfl rd3 (by kernel_rfl) (Ka.more rfl rd3 (by kernel_rfl) (Ka.more rfl rd4 (by kernel_rfl) (Ka.more rfl rd3 (by kernel_rfl) (Ka.more rfl rd23 (by kernel_rfl) (Ka.more rfl rd24 (by kernel_rfl) (Ka.last rfl rd26 (by kernel_rfl))))))))))))) (by kernel_rfl) (fun b=>⟨b.1,b.2.1,b.2.2.1,b.2.2.2.1,b.2.2.2.2.1,b.2.2.2.2.2.1,b.2.2.2.2.2.2.1,b.2.2.2.2.2.2.2.1,b.2.2.2.2.2.2.2.2.1,b.2.2.2.2.2.2.2.2.2.1,b.2.2.2.2.2.2.2.2.2.2.1,b.2.2.2.2.2.2.2.2.2.2.2⟩) (fun h=>h)
theorem rd31:Rd Tryz.prog 31 (List g_api_Cert):=Rd.slice Tryz.underlying31 rd28 (by kernel_rfl) (by decide)
theorem rp_g_api_Cert {m:Mem}{cs:List Value}{x:g_api_Cert}(h:GoT.rep m cs x): ∃v1,∃v2,∃v3,cs=[vI x.Serial,vS x.Issuer,vS x.Subject,vU x.Key,v1,vI x.From,vI x.Until,vb x.Ca,vI x.Depth,v2,v3,vU x.Sig.E,vU x.Sig.S]∧SlR m v1 x.Names∧SlR m v2 x.Permit∧SlR m v3 x.Proms:=by
 obtain⟨_,_,rfl,rfl,⟨_,_,rfl,rfl,⟨_,_,rfl,rfl,⟨_,_,rfl,rfl,⟨_,_,rfl,⟨v1,rfl,h1⟩,⟨_,_,rfl,rfl,⟨_,_,rfl,rfl,⟨_,_,rfl,rfl,⟨_,_,rfl,rfl,⟨_,_,rfl,⟨v2,rfl,h2⟩,⟨_,_,rfl,⟨v3,rfl,h3⟩,⟨_,_,rfl,rfl,rfl⟩⟩⟩⟩⟩⟩⟩⟩⟩⟩⟩⟩:=h;exact⟨v1,v2,v3,rfl,h1,h2,h3⟩
theorem contract (H:Type)(enc:TypeId×Value→H)(W:World)(base:Nat)(args:Array Value)(ds gs:List (DataW H))(before:List MemPlace)
  (hval: ∀(j:Nat) t v,Tryz.f7.params[j]? =some t→args[j]? =some v→Value.okWide Tryz.prog W .any base t v)
  (hW:DataW.Whole enc Tryz.prog Tryz.f7.params.toList Rows.pathAllSpec.vars false W args.toList ds gs before) (hL:laidMetH Tryz.prog Rows.pathAllRow.laid W):
  Calls Tryz.prog 7 args W fun e W'=> ∃v,e= .returned v∧Rows.pathAllSpec.post enc Tryz.prog Tryz.f7 false true false false W args v W':=by
 have hW':=hW;obtain⟨p,q,hA0,hV,rfl,hfz,hnd⟩:=hW;obtain⟨rfl,rfl⟩:=trodVars_none hV;rw[List.append_nil]at hW';have hA:DataW.TrodAll enc Tryz.prog W 0 (fun _=>true) true Tryz.f7.params.toList args.toList ds p:=hA0;have hA1:=hA;have hpl:Tryz.f7.params.toList=[31,31,28,9,3,3,3]:=by rw[Tryz.params7]
 rw[hpl]at hA1;obtain⟨v0,w0,d0,e0,p0,q0,ha0,he0,hp0,h0,r0⟩:=trodAll_cons hA1;obtain⟨v1,w1,d1,e1,p1,q1,ha1,he1,hp1,h1,r1⟩:=trodAll_cons r0;obtain⟨v2,w2,d2,e2,p2,q2,ha2,he2,hp2,h2,r2⟩:=trodAll_cons r1;obtain⟨v3,w3,d3,e3,p3,q3,ha3,he3,hp3,h3,r3⟩:=trodAll_cons r2;obtain⟨v4,w4,d4,e4,p4,q4,ha4,he4,hp4,h4,r4⟩:=trodAll_cons r3;obtain⟨v5,w5,d5,e5,p5,q5,ha5,he5,hp5,h5,r5⟩:=trodAll_cons r4;obtain⟨v6,w6,d6,e6,p6,q6,ha6,he6,hp6,h6,r6⟩:=trodAll_cons r5;obtain⟨z1,z2,z3⟩:=trodAll_nil r6;obtain rfl:args= #[v0,v1,v2,v3,v4,v5,v6]:=by
  apply Array.ext'; rw[ha0,ha1,ha2,ha3,ha4,ha5,ha6,z1]
 obtain rfl:ds=[d0,d1,d2,d3,d4,d5,d6]:=by rw[he0,he1,he2,he3,he4,he5,he6,z2]
 rw[Tryz.params7]at hval;obtain⟨x0,l0,c0,rfl⟩:=okWide_slice Tryz.underlying31 (hval 0 31 v0 rfl rfl);obtain⟨a0,s0⟩:=rd31.openS h0;obtain⟨x1,l1,c1,rfl⟩:=okWide_slice Tryz.underlying31 (hval 1 31 v1 rfl rfl);obtain⟨a1,s1⟩:=rd31.openS h1;obtain⟨c2,rfl,_⟩:=okWide_struct Tryz.underlying28 (hval 2 28 v2 rfl rfl);obtain⟨a2,s2⟩:=rd28.openA h2;obtain⟨z2_0,z2_1,z2_2,o2,y2_0,y2_1,y2_2⟩:=rp_g_api_Cert s2;obtain rfl:=arr_of o2;obtain⟨a3,rfl⟩:=okWide_string Tryz.underlying9 (hval 3 9 v3 rfl rfl);obtain⟨a4,rfl,_,_,_⟩:=open_int Tryz.underlying3 (hval 4 3 v4 rfl rfl) h4;obtain⟨a5,rfl,_,_,_⟩:=open_int Tryz.underlying3 (hval 5 3 v5 rfl rfl) h5;obtain⟨a6,rfl,_,_,_⟩:=open_int Tryz.underlying3 (hval 6 3 v6 rfl rfl) h6;have hc:=KA (St.of W (gB hL)) s0 s1 y2_0 y2_1 y2_2 (all_true a0 a1 a2 a3 a4 a5 a6);refine Calls.mono hc ?_;rintro e W' ⟨v,rfl,hk,M,hle,S,rfl⟩;refine⟨.bool true,rfl,SA (tb:=4) (by kernel_rfl) (by kernel_rfl) rfl (by kernel_rfl) Tryz.underlying4 hW' hA rfl rfl rfl hle S hk⟩
noncomputable def KY (os:Os):World:=
 {World.holding Tryz.prog os ⟨#[], #[],[]⟩with heap:=((((World.holding Tryz.prog os ⟨#[], #[],[]⟩).heap.modify 5 fun| .cells _ t fr=> .cells #[.int .u8 128,.int .u8 191,.int .u8 160,.int .u8 191,.int .u8 128,.int .u8 159,.int .u8 144,.int .u8 191,.int .u8 128,.int .u8 143,.int .u8 0,.int .u8 0,.int .u8 0,.int .u8 0,.int .u8 0,.int .u8 0,.int .u8 0,.int .u8 0,.int .u8 0,.int .u8 0,.int .u8 0,.int .u8 0,.int .u8 0,.int .u8 0,.int .u8 0,.int .u8 0,.int .u8 0,.int .u8 0,.int .u8 0,.int .u8 0,.int .u8 0,.int .u8 0] t fr|o=>o).modify 0 fun| .cells _ t fr=> .cells [[.int .i64 1,.func (.func 252) #[] #[]],[.int .i64 2,.func (.func 157) #[] #[]],[.int .i64 4,.func (.func 253) #[] #[]],[.int .i64 12,.func (.func 254) #[] #[]],[.int .i64 48,.func (.func 257) #[] #[]]].flatten.toArray t fr|o=>o).modify 4 fun| .cells _ t fr=> .cells ((List.replicate 128 240++List.replicate 66 241++List.replicate 30 2++[19]++List.replicate 12 3++[35,3,3,52,4,4,4,68]++List.replicate 11 241:List Int).map fun n=>Value.int .u8 n).toArray t fr|o=>o)}
theorem laid_met (os:Os):laidMetH Tryz.prog Rows.pathAllRow.laid ((KY os).forCall (fun _ _=>0) ⟨#[], #[(.slice none 0 0:Value),(.slice none 0 0:Value),(.agg #[.int .i64 0,.string ⟨#[]⟩,.string ⟨#[]⟩,.int .u64 0,.slice none 0 0,.int .i64 0,.int .i64 0,.bool false,.int .i64 0,.slice none 0 0,.slice none 0 0,.int .u64 0,.int .u64 0]:Value),(.string ⟨#[]⟩:Value),(.int .i64 0:Value),(.int .i64 0:Value),(.int .i64 0:Value)],[]⟩).memory:=
 laidMetH_of_parts3 (fuel:=8) (laidMet_of_run' 8 (by kernel_rfl) (by kernel_rfl)) (by kernel_rfl) (by kernel_rfl)
theorem reads (os:Os){H:Type}(enc:TypeId×Value→H): ∃places,DataW.whole enc Tryz.prog ((KY os).forCall (fun _ _=>0) ⟨#[], #[(.slice none 0 0:Value),(.slice none 0 0:Value),(.agg #[.int .i64 0,.string ⟨#[]⟩,.string ⟨#[]⟩,.int .u64 0,.slice none 0 0,.int .i64 0,.int .i64 0,.bool false,.int .i64 0,.slice none 0 0,.slice none 0 0,.int .u64 0,.int .u64 0]:Value),(.string ⟨#[]⟩:Value),(.int .i64 0:Value),(.int .i64 0:Value),(.int .i64 0:Value)],[]⟩).memory Tryz.f7.params.toList Rows.pathAllSpec.vars false #[(.slice none 0 0:Value),(.slice none 0 0:Value),(.agg #[.int .i64 0,.string ⟨#[]⟩,.string ⟨#[]⟩,.int .u64 0,.slice none 0 0,.int .i64 0,.int .i64 0,.bool false,.int .i64 0,.slice none 0 0,.slice none 0 0,.int .u64 0,.int .u64 0]:Value),(.string ⟨#[]⟩:Value),(.int .i64 0:Value),(.int .i64 0:Value),(.int .i64 0:Value)].toList 8=some ([.nil,.nil,.agg [.lit (.int .i64 0),.lit (.string []),.lit (.string []),.lit (.int .u64 0),.nil,.lit (.int .i64 0),.lit (.int .i64 0),.lit (.bool false),.lit (.int .i64 0),.nil,.nil,.agg [.lit (.int .u64 0),.lit (.int .u64 0)]],.lit (.string []),.lit (.int .i64 0),.lit (.int .i64 0),.lit (.int .i64 0)],[],places):=
 ⟨[],by kernel_rfl⟩
theorem lifted (os:Os)(started:os.Started)(H:Type)(enc:TypeId×Value→H)(F:Stop.Interp):
  ReturnsInHanded {} Tryz.checked os 7 .any ((OpenSpec.ofChange Rows.pathAllSpec).preRow enc Tryz.prog Tryz.f7 Rows.pathAllRow.domain false Rows.pathAllRow.laid) (((OpenSpec.ofChange Rows.pathAllSpec).at F).post enc Tryz.prog Tryz.f7 false true false false):=by
 obtain⟨places,hx⟩:=reads os enc;refine returnsInHanded_of_row (C:=Tryz.checked) (s:=OpenSpec.ofChange Rows.pathAllSpec) own started (by kernel_rfl) Tryz.func7
  (witness_row_at (enc:=enc) (C:=Tryz.checked) false (KY os) #[(.slice none 0 0:Value),(.slice none 0 0:Value),(.agg #[.int .i64 0,.string ⟨#[]⟩,.string ⟨#[]⟩,.int .u64 0,.slice none 0 0,.int .i64 0,.int .i64 0,.bool false,.int .i64 0,.slice none 0 0,.slice none 0 0,.int .u64 0,.int .u64 0]:Value),(.string ⟨#[]⟩:Value),(.int .i64 0:Value),(.int .i64 0:Value),(.int .i64 0:Value)] rfl (by kernel_rfl) (by kernel_rfl) (by kernel_rfl)
   (OpenSpec.preRow_of_cond 8 hx (by kernel_rfl) (fun k hk=>by cases hk) (by kernel_rfl) (laid_met os))) ?_
 intro W base args ds gs before hval hW _ _ _ hL _ _;exact contract H enc W base args ds gs before hval hW hL
theorem j0:laidOutB Tryz.prog=true:=by kernel_rfl
theorem j1:mapsRowed Tryz.prog=true:=by kernel_rfl
theorem j2:(Rows.pathAllRow.inPlace==Tryz.prog.inPlace 7)=true:=by kernel_rfl
theorem j3:(Rows.pathAllRow.unfollowed==Tryz.prog.unfollowed 7)=true:=by kernel_rfl
theorem j4:(Rows.pathAllRow.recurses==Tryz.prog.recurses 7)=true:=by kernel_rfl
theorem j5:(Rows.pathAllRow.named==Tryz.prog.varsNamed 7)=true:=by kernel_rfl
theorem joined:joinedFacts Tryz.prog 7 Tryz.f7 (OpenSpec.ofChange Rows.pathAllSpec).bare Rows.pathAllRow=true:=by
 unfold joinedFacts;rw[j0,j1,j2,j3,j4,j5];kernel_rfl
theorem s1:Tryz.pinned.checked.prog.funcNamed Rows.pathAllRow.func=some 7:=by kernel_rfl
theorem s2:Tryz.f7.isInstance Tryz.pinned.checked.prog Rows.pathAllRow.origin Rows.pathAllRow.targs:=of_decide_eq_true (by kernel_rfl)
theorem s3:Tryz.f7.isWrapper Tryz.pinned.checked.prog Rows.pathAllRow.wrapper Rows.pathAllRow.mainSum:=by unfold Func.isWrapper; first|(rw[if_pos (by decide+kernel)]; kernel_rfl)|(rw[if_neg (by decide+kernel)]; exact⟨rfl,rfl⟩)
theorem s4:joinedFacts Tryz.pinned.checked.prog 7 Tryz.f7 (OpenSpec.ofChange Rows.pathAllSpec).bare Rows.pathAllRow=true:=joined
theorem s5 (os:Os)(started:os.Started)(H:Type)(enc:TypeId×Value→H)(F:Stop.Interp):ReturnsInHanded Rows.pathAllRow.assume Tryz.pinned.checked os 7 .any (Rows.pathAllRow.pre enc Tryz.pinned.checked.prog Tryz.f7 (OpenSpec.ofChange Rows.pathAllSpec)) (((OpenSpec.ofChange Rows.pathAllSpec).at F).post enc Tryz.pinned.checked.prog Tryz.f7 Rows.pathAllRow.apart Rows.pathAllRow.fresh Rows.pathAllRow.handsOn Rows.pathAllRow.again):=by rw[OpenClaim.pre_eq_preRow]; exact lifted os started H enc F
theorem said:Rows.PathAllSaid:=
 OpenClaim.holds_of_cond 7 Tryz.f7 rfl rfl rfl rfl rfl rfl rfl ⟨rfl,rfl,rfl,rfl,rfl⟩ rfl rfl rfl rfl rfl s1 Tryz.func7 s4 s2 s3 (fun os started H enc _ F=>s5 os started H enc F)
theorem plain (f:FuncId)(fn:Func)(hf:Tryz.pinned.checked.prog.funcNamed "greatseal/greatseallaw19.PathAll" =some f)(hfn:Tryz.pinned.checked.prog.funcs[f]? =some fn):
  false=Tryz.pinned.checked.prog.looks []∧∀(j:Nat) t,fn.params[j]? =some t→Tryz.pinned.checked.prog.wantsStandIn t=false:=by
 obtain rfl:f=7:=Option.some.inj ((show Tryz.prog.funcNamed "greatseal/greatseallaw19.PathAll" =some 7 by kernel_rfl).symm.trans hf)|>.symm;obtain rfl:fn=Tryz.f7:=(Option.some.inj (Tryz.func7.symm.trans hfn)).symm;refine⟨by kernel_rfl,fun j t ht=> ?_⟩;rw[Tryz.params7]at ht;have hm:t∈[31,31,28,9,3,3,3]:=by simpa using Array.mem_of_getElem? ht
 have hall:([31,31,28,9,3,3,3].all fun u=> !Tryz.prog.wantsStandIn u)=true:=by kernel_rfl
 exact(show Tryz.prog.wantsStandIn t=false by simpa using List.all_eq_true.1 hall t hm)
theorem card:Rows.PathAllCardSaid:=
 Claim7.holds_tied_plain_at .later [] _ _ _ _ said (fun _ h=>by cases h) (by kernel_rfl) (fun _ h=>by cases h) pathAll_row_tie rfl ⟨rfl,rfl⟩ (by kernel_rfl) rfl plain (by kernel_rfl)
end Go.Proofs.YtbajlmaijjcbmaaGreatDoor.lawPathAll
end
