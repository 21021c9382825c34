/- Several texts, one behind the other. Conditions: none. -/
import Derived.Test.YtnhdojckpcbjeaaGreatDoorZn
import Derived.Test.YtnhdojckpcbjeaaGreatDoorZi
import Derived.Test.YtnhdojckpcbjeaaGreatDoorZj
import Derived.Test.YtnhdojckpcbjeaaGreatDoorZk
import Derived.Test.YtnhdojckpcbjeaaGreatDoorZl
import Derived.KernelRfl
set_option linter.unusedSimpArgs false
set_option linter.unusedVariables false
set_option maxHeartbeats 20000000
set_option maxRecDepth 100000
section
namespace Go.Proofs.YtnhdojckpcbjeaaGreatDoor
open Go Go.Gw Go.Ax
def DF:List UInt8→List (List UInt8)
 | []=> [[]]
 |c::l=>if c=46 then []::DF l else match DF l with|h::t=>(c::h)::t| []=> [[c]]
theorem XC (c:UInt8)(l:List UInt8):DF (c::l)=if c=46 then []::DF l else match DF l with|h::t=>(c::h)::t| []=> [[c]]:=rfl
theorem QF: ∀l:List UInt8,DF l≠[]
 | []=>by simp[DF]
 |c::l=>by
  unfold DF;split
  ·simp
  ·split<;>simp
theorem V9: ∀(p r:List UInt8),(46:UInt8)∉p→DF (p++46::r)=p::DF r
 | [],r,_=>by simp[DF]
 |c::p,r,h=>by
  have hc:c≠46:=fun e=>h (by rw[e]; exact AlZ);have ih:=V9 p r fun q=>h (Al4 _ q);show DF (c::(p++46::r))=_;rw[XC,AlG hc,ih]
theorem V8: ∀(p:List UInt8),(46:UInt8)∉p→DF p=[p]
 | [],_=>rfl
 |c::p,h=>by
  have hc:c≠46:=fun e=>h (by rw[e]; exact AlZ);have ih:=V8 p fun q=>h (Al4 _ q);unfold DF;rw[AlG hc,ih]
theorem Rj: ∀(l:List UInt8),(DF l).length=l.count 46+1
 | []=>rfl
 |c::l=>by
  have ih:=Rj l;unfold DF;by_cases hc:c=46
  ·rw[AlH hc,hc,List.count_cons_self,AlM,ih]
  ·rw[AlG hc,List.count_cons_of_ne hc];cases h:DF l with
   |nil=>exact absurd h (QF l)
   |cons a t=>rw[h]at ih; simpa using ih
theorem RX: ∀(l:List UInt8) (c:UInt8),(Lib.indexByte l c= -1∧c∉l)∨∃p r,l=p++c::r∧c∉p∧Lib.indexByte l c=(p.length:Int)
 | [],c=> .inl ⟨rfl,by simp⟩
 |b::l,c=>by
  unfold Lib.indexByte;cases hb:b==c with
  |true=>
   have e:b=c:=by simpa using hb
   exact .inr ⟨[],l,by rw[e]; rfl,by simp,rfl⟩
  |false=>
   have e:b≠c:=by simpa using hb
   rcases RX l c with ⟨h1,h2⟩|⟨p,r,h1,h2,h3⟩
   ·refine .inl ⟨by rw[h1]; rfl,?_⟩;intro h;rcases Al6.1 h with q|q
    ·exact e q.symm
    ·exact h2 q
   ·refine .inr ⟨b::p,r,by rw[h1]; rfl,?_,?_⟩
    ·intro h;rcases Al6.1 h with q|q
     ·exact e q.symm
     ·exact h2 q
    ·rw[h3];have:((p.length:Int)== -1)=false:=by rw[Amj]; omega
     rw[AlG (by decide),AlG (by rw[this]; decide),AlM];omega
theorem O2 (s:ByteArray)(a b:Nat):(s.extract a b).data.toList=(s.data.toList.take b).drop a:=by
 rw[ByteArray.data_extract,Array.toList_extract,List.extract_eq_take_drop,List.take_drop];by_cases h:a≤b
 ·rw[Nat.add_sub_cancel' h]
 ·rw[Nat.sub_eq_zero_of_le (by omega),AmH];rw[Amm (by rw[Al0]; omega),Amm (by rw[Al0]; omega)]
def Ahm (l:List UInt8):Bool:=(DF l).all U8
theorem b5_eq (b:ByteArray)(s:Unit×Nat):BR b s=some ((),if U8 b.data.toList=true then 0 else 1):=by
 unfold BR;rw[Agm,Aa];cases U8 b.data.toList<;>rfl
def cbk:(Unit×Nat)→ByteArray→Option (Bool×(Unit×Nat)):=fun(s:(Unit)×Nat) (b0:ByteArray)=>if s.2=0 then Ab (BR b0 s) fun y=>some (y.2==0,y)else none
theorem Aiz (b:ByteArray):cbk ((),0) b=some (U8 b.data.toList,((),if U8 b.data.toList=true then 0 else 1)):=by
 unfold cbk;rw[AlH rfl,b5_eq,Aa];cases U8 b.data.toList<;>rfl
theorem WI (s:ByteArray)(h:s.size≤1000):Ct s (⟨#[46]⟩:ByteArray)=some (Adv s 46):=by
 obtain⟨x,hx,h1,h2⟩:=WJ s;unfold Ct A5 B3;rw[DY];cases he:eqS (⟨#[46]⟩:ByteArray) s with
 |true=>
  have e:=(PQ.1 he);subst e;rfl
 |false=>rfl
theorem Tr: ∀(m:Nat) (s:ByteArray) (n:Nat),s.size≤m→m<n→m≤100→
  ∃z:ByteArray,iter (AX cbk (⟨#[46]⟩:ByteArray) 0) n (s,((),0))=some (if(DF s.data.toList).dropLast.all U8=true then .inl (z,((),0))else .inr ((⟨#[46]⟩:ByteArray),z,0,((),1)))∧
   ((DF s.data.toList).dropLast.all U8=true→some z.data.toList=(DF s.data.toList).getLast?)
 |m,s,0,_,h,_=>by omega
 |m,s,n+1,hs,hn,hm=>by
  have hx:Ct s (⟨#[46]⟩:ByteArray)=some (Adv s 46):=WI s (by omega);show∃z,Ab (AX cbk (⟨#[46]⟩:ByteArray) 0 (s,((),0))) _=_∧_;rcases RX s.data.toList 46 with ⟨h1,h2⟩|⟨p,r,h1,h2,h3⟩
  ·have e:AX cbk (⟨#[46]⟩:ByteArray) 0 (s,((),0))=some (.inr (.inl (s,((),0)))):=by
    unfold AX;show Ab (Ct s (⟨#[46]⟩:ByteArray)) _=_;rw[hx,Aa,show Adv s 46= -1 from h1];rfl
   rw[e,V8 _ h2];exact⟨s,rfl,fun _=>rfl⟩
  ·have hz:s.size=p.length+1+r.length:=by rw[←Cs,h1,AlI,AlM]; omega
   have e1:Vq s 0 (w64 ((p.length:Int)+0))=some (s.extract 0 p.length):=by
    rw[Int.add_zero,Hb (by omega) (by omega),IA (by omega) (by omega) (by omega)];rfl
   have e2:Vq s (w64 ((p.length:Int)+((⟨#[46]⟩:ByteArray).size:Int))) (s.size:Int)=some (s.extract (p.length+1) s.size):=by
    have:((⟨#[46]⟩:ByteArray).size:Int)=1:=rfl;rw[this,Hb (by omega) (by omega),IA (by omega) (by omega) (by omega)];rfl
   have l1:(s.extract 0 p.length).data.toList=p:=by
    rw[O2,h1,List.take_left]; rfl
   have l2:(s.extract (p.length+1) s.size).data.toList=r:=by
    rw[O2,←Cs,List.take_length,h1];rw[←AmD,List.drop_left]; rfl
   have e:AX cbk (⟨#[46]⟩:ByteArray) 0 (s,((),0))=some (if U8 p=true then .inl (s.extract (p.length+1) s.size,((),0))else .inr (.inr ((⟨#[46]⟩:ByteArray),s,0,((),1)))):=by
    unfold AX;show Ab (Ct s (⟨#[46]⟩:ByteArray)) _=_;rw[hx,Aa,show Adv s 46=(p.length:Int)from h3,AlG (by rw[AlL]; omega),e1,Aa,Aiz,Aa,l1];cases hlab:U8 p with
    |false=>rfl
    |true=>
     rw[AlG (by simp)];dsimp only;rw[e2,Aa];rfl
   rw[e,h1,V9 p r h2];have hsz:(s.extract (p.length+1) s.size).size=r.length:=by rw[←Cs,l2]
   obtain⟨z,ih1,ih2⟩:=Tr (m-1) (s.extract (p.length+1) s.size) n (by omega) (by omega) (by omega);rw[l2]at ih1 ih2;have hd:(p::DF r).dropLast=p::(DF r).dropLast:=by
    cases hq:DF r with
    |nil=>exact absurd hq (QF r)
    |cons a t=>rfl
   have hg:(p::DF r).getLast? =(DF r).getLast? :=by
    cases hq:DF r with
    |nil=>exact absurd hq (QF r)
    |cons a t=>rfl
   rw[hd,hg,Amt];cases U8 p with
   |false=>exact⟨s,rfl,fun h=>by cases h⟩
   |true=>exact⟨z,ih1,ih2⟩
theorem VE {α:Type}(f:α→Bool): ∀(l:List α) (x:α),l.getLast? =some x→l.all f=(l.dropLast.all f&&f x)
 | [],x,h=>by cases h
 | [a],x,h=>by cases h; simp
 |a::b::l,x,h=>by
  have ih:=VE f (b::l) x (by simpa using h);show(f a&&(b::l).all f)=((f a&&(b::l).dropLast.all f)&&f x);rw[ih,Bool.and_assoc]
def isB (l:List UInt8)(n k:Nat):Bool:=decide (l.length≤k)&&decide ((DF l).length≤n)&&Ahm l
theorem Ac1 (s:ByteArray)(n k:Nat)(hk:k≤100):CS s (n:Int) (k:Int)=some (isB s.data.toList n k):=by
 rw[U1]; unfold isB;have hz:=Cs s;by_cases h1:s.size≤k
 ·rw[Aml (show¬(s.size:Int)>k from by omega),AlG (by decide),AlY (show s.data.toList.length≤k from by omega)];have ec:FV s (⟨#[46]⟩:ByteArray)=some ((s.data.toList.count 46:Nat):Int):=rfl;rw[ec,Aa,Aa,Rj];by_cases h2:s.data.toList.count 46+1≤n
  ·rw[Aml (show¬((s.data.toList.count 46:Nat):Int)≥(n:Int)from by omega),AlG (by decide),AlY h2];obtain⟨z,e1,e2⟩:=Tr 100 s Fx (by omega) (by have:=KG; omega) (by decide);have es:BC cbk (⟨#[46]⟩:ByteArray) s 0 ((),0)=some ((⟨#[46]⟩:ByteArray),z,0,((),if Ahm s.data.toList=true then 0 else 1)):=by
    unfold BC;rw[AlG (by decide),e1,Aa];unfold Ahm;cases hd:(DF s.data.toList).dropLast.all U8 with
    |true=>
     have hlast:=(e2 hd).symm;rw[VE U8 _ _ hlast,hd,AlH rfl];show Ab (cbk ((),0) z) _=_;rw[Aiz,Aa,Ama]
    |false=>
     have:(DF s.data.toList).all U8=false:=by
      cases hl:(DF s.data.toList).getLast? with
      |none=>exact absurd (List.getLast?_eq_none_iff.1 hl) (QF _)
      |some x=>rw[VE U8 _ x hl,hd]; rfl
     rw[this];rfl
   show Ab (BC cbk (⟨#[46]⟩:ByteArray) s 0 ((),0)) _=_;rw[es,Aa];cases Ahm s.data.toList<;>rfl
  ·rw[AlY (show((s.data.toList.count 46:Nat):Int)≥(n:Int)from by omega),AlH rfl,Aml h2];rfl
 ·rw[AlY (show(s.size:Int)>k from by omega),AlH rfl,Aa,AlH rfl,Aml (show¬s.data.toList.length≤k from by omega)];rfl
theorem Js {α:Type}{l:List α}{i:Nat}{x:α}(h:l[i]? =some x):idx l (i:Int)=some x:=by
 unfold idx;rw[AlH (by omega)];exact h
def toL (s:ByteArray):List UInt8:=s.data.toList
theorem VD {α:Type}(b:Nat){xs ys:List α}(h:(xs.length+ys.length)*b≤140737488355328)(h1:xs.length+ys.length≤140737488355328):app b xs ys=some (xs++ys):=by unfold app; rw[AlH ⟨h,h1⟩]
def Afm:List UInt8→Bool
 |a::b::r=>a==42&&b==46&&isB r 7 62
 |_=>false
theorem Sv {α:Type}{l:List α}{i:Nat}{c:α}{r:List α}(h:l.drop i=c::r):l[i]? =some c∧l.drop (i+1)=r∧i<l.length:=by
 have h1:l[i]? =some c:=by
  have:(l.drop i)[0]? =some c:=by rw[h]; rfl
  simpa using this
 exact⟨h1,by rw[←AmD,h]; rfl,(Al2.1 h1).1⟩
theorem AiT {i:Nat}(h:i≤1000000):w64 ((i:Int)+1)=((i+1:Nat):Int):=by rw[Hb (by omega) (by omega)]; omega
structure FewP (c:g_api_Cert):Prop where
 issuer:c.Issuer.size≤100000
 subject:c.Subject.size≤100000
 names: ∀s∈c.Names,s.size≤100000
 nnames:c.Names.length≤100000
 permit: ∀s∈c.Permit,s.size≤100000
 npermit:c.Permit.length≤100000
 nproms:c.Proms.length≤100000
structure Fits (c:g_api_Cert):Prop where
 few:FewP c
 serial: -9223372036854775808≤c.Serial∧c.Serial≤9223372036854775807
 frm: -9223372036854775808≤c.From∧c.From≤9223372036854775807
 til: -9223372036854775808≤c.Until∧c.Until≤9223372036854775807
 depth: -9223372036854775808≤c.Depth∧c.Depth≤9223372036854775807
 proms: ∀p∈c.Proms,(-9223372036854775808≤p.Log∧p.Log≤9223372036854775807)∧(-9223372036854775808≤p.At∧p.At≤9223372036854775807)
theorem Ah0: ∀{d:Nat} {x:g_api_Item},mayB d x=true→mayB (d+1) x=true
 |0,x,h=>by cases h
 |d+1,x,h=>by
  simp only[mayB,AlD,AlW]at h;unfold mayB;simp only[AlD,AlW];exact⟨h.1,fun y hy=>Ah0 (h.2 y hy)⟩
theorem Ah1 {d e:Nat}{x:g_api_Item}(h:d≤e)(hm:mayB d x=true):mayB e x=true:=by
 induction h with
 |refl=>exact hm
 |step _ ih=>exact Ah0 ih
theorem Ac6 {d:Nat}{x y:g_api_Item}(h:mayB (d+1) x=true)(hy:y∈x.L):mayB d y=true:=by
 simp only[mayB,AlD,AlW]at h;exact h.2 y hy
structure Nums (c:g_api_Cert):Prop where
 serial:0≤c.Serial∧c.Serial≤1099511627776
 frm:0≤c.From∧c.From≤1099511627776
 til:0≤c.Until∧c.Until≤1099511627776
 key:c.Key.toNat<2305843009213691579
 depth:0≤c.Depth∧c.Depth≤4
 sig:sigB c.Sig=true
 proms: ∀p∈c.Proms,promBC p=true
theorem PE: ∀{d e:Nat} {x:g_api_Item},mayB d x=true→d≤e→putB e x=putB d x
 |0,e,x,h,_=>by cases h
 |d+1,0,x,_,h=>by omega
 |d+1,e+1,x,h,hd=>by
  have hf: ∀(l:List g_api_Item),(∀y∈l,mayB d y=true)→l.flatMap (putB e)=l.flatMap (putB d):=by
   intro l;induction l with
   |nil=>intro _; rfl
   |cons y l ih=>
    intro hl;rw[Ami,Ami,PE (hl y AlZ) (by omega),ih fun z hz=>hl z (Al4 _ hz)]
  have:=hf x.L fun y hy=>Ac6 h hy;show toB x.Tag::(RS (x.B++x.L.flatMap (putB e)).length++(x.B++x.L.flatMap (putB e)))=toB x.Tag::(RS (x.B++x.L.flatMap (putB d)).length++(x.B++x.L.flatMap (putB d)));rw[this]
theorem Aif {d:Nat}{x y:g_api_Item}(h:mayB (d+1) x=true)(hd:d+1≤8)(hy:y∈x.L):(putB 8 y).length≤(putB 8 x).length:=by
 rw[PE h hd,PE (Ac6 h hy) (by omega)];have h1:=ZF (putB d) hy;show _≤(toB x.Tag::(RS (x.B++x.L.flatMap (putB d)).length++(x.B++x.L.flatMap (putB d)))).length;have e:(x.B++x.L.flatMap (putB d)).length=x.B.length+(x.L.flatMap (putB d)).length:=AlI;rw[AlM,AlI,e];omega
theorem RL {d:Nat}{l:List g_api_Item}(h: ∀y∈l,mayB d y=true):mayB (d+1) (SM l)=true:=by
 unfold mayB;simp only[AlD,AlW];exact⟨⟨rfl,rfl⟩,h⟩
theorem Aie {d:Nat}{l:List g_api_Item}(h:mayB (d+1) (SM l)=true): ∀y∈l,mayB d y=true:=fun y hy=>Ac6 h hy
theorem may2 {d:Nat}{a b:g_api_Item}(ha:mayB d a=true)(hb:mayB d b=true):mayB (d+1) (SM [a,b])=true:=RL (mem2 ha hb)
structure Okc (c:g_api_Cert):Prop where
 form:Form c
 fb:formB c=true
 may:mayB 8 (wholeI c)=true
 len:(putB 8 (wholeI c)).length≤2048
theorem okc {c:g_api_Cert}(h:checkV c=0):Okc c:=by
 unfold checkV at h;cases hf:formB c with
 |false=>rw[hf]at h; simp at h
 |true=>
  rw[hf,AlH rfl]at h;by_cases h2:mayB 8 (wholeI c)=true∧(putB 8 (wholeI c)).length≤2048
  ·exact⟨Yk hf,hf,h2.1,h2.2⟩
  ·rw[AlG h2]at h; cases h
theorem Okc.chk {c:g_api_Cert}(h:Okc c):checkV c=0:=by
 unfold checkV;rw[h.fb,AlH rfl,AlH ⟨h.may,h.len⟩]
theorem U5 {c:g_api_Cert}(h:Okc c):mayB 7 (Pb c)=true:=Aie h.may _ (by simp)
theorem Aj4 {c:g_api_Cert}(h:Okc c):mayB 6 (Zd c)=true:=Aie (U5 h) _ (by simp)
def IX (c:g_api_Cert):List UInt8:=putB 8 (Pb c)
def Wo (c:g_api_Cert):List UInt8:=putB 8 (Zd c)
theorem Ss {c:g_api_Cert}(h:Okc c):(IX c).length≤2048:=by
 have h1:=Aif (y:=Pb c) h.may (by decide) (by show Pb c∈[Pb c,_]; simp);have h2:=h.len;show(putB 8 (Pb c)).length≤_;omega
theorem AhM {c:g_api_Cert}(h:Okc c):(Wo c).length≤2048:=by
 have h1:=Aif (y:=Zd c) (U5 h) (by decide) (by show Zd c∈[Zd c,_]; simp);have h2:=Ss h;show(putB 8 (Zd c)).length≤_;have h3:(putB 8 (Pb c)).length≤2048:=h2;omega
theorem AeJ {x:g_api_Item}(h:mayB 8 x=true)(hl:(putB 8 x).length≤8192):JY x=some (putB 8 x,0):=by
 rw[AiJ (by omega),AlH h,AlH hl]
theorem ZW {c:g_api_Cert}(h:Okc c):J3 c=some (IX c,0):=by
 unfold J3 Is;have hl:=Ss h;rw[Sn,h.chk,Aa,AlG (by decide),ZY h.form.sized,Aa,AeJ (Ah1 (by decide) (U5 h)) (by show(IX c).length≤_; omega)];rfl
theorem Aev {c:g_api_Cert}(h:Okc c):Jy c=some (Wo c,0):=by
 unfold Jy It;have hl:=AhM h;rw[Sn,h.chk,Aa,AlG (by decide),AcI h.form.sized,Aa,AeJ (Ah1 (by decide) (Aj4 h)) (by show(Wo c).length≤_; omega)];rfl
def AgP {α:Type}(f:Nat→α→Int):Nat→List α→Int
 |_,[]=>0
 |i,x::l=>if f i x=0 then AgP f (i+1) l else f i x
theorem WN {α:Type}(f:Nat→α→Int): ∀(l:List α) (i:Nat),AgP f i l=0↔∀k x,l[k]? =some x→f (i+k) x=0
 | [],i=>by simp[AgP]
 |x::l,i=>by
  unfold AgP;have ih:=WN f l (i+1);constructor
  ·intro h k y hy;by_cases h0:f i x=0
   ·rw[AlH h0]at h;cases k with
    |zero=>cases hy; exact h0
    |succ k=>
     have:=ih.1 h k y (by simpa using hy);rw[show i+(k+1)=i+1+k from by omega]; exact this
   ·rw[AlG h0]at h; exact absurd h h0
  ·intro h;have h0:f i x=0:=h 0 x rfl;rw[AlH h0];refine ih.2 fun k y hy=> ?_;rw[show i+1+k=i+(k+1)from by omega];exact h (k+1) y (by simpa using hy)
def fsO (e:Int):Unit⊕Int:=if e=0 then .inl ()else .inr e
theorem Yj {e:Int}:(match fsO e with| .inr r=>some r| .inl _=>some 0:Option Int)=some e:=by
 unfold fsO;by_cases h:e=0
 ·rw[AlH h,h]
 ·rw[AlG h]
theorem Sc {α:Type}{body:Int→α→Unit→Option (Unit⊕Int)}(f:Nat→α→Int): ∀(l:List α) (i:Nat),(∀k x,l[k]? =some x→body ((i+k:Nat):Int) x ()=some (fsO (f (i+k) x)))→DK body l (i:Int) ()=some (fsO (AgP f i l))
 | [],i,_=>rfl
 |x::l,i,h=>by
  have h0:=h 0 x rfl;show Ab (body (i:Int) x ()) _=_;rw[show body (i:Int) x ()=_ from h0];show _=some (fsO (if f i x=0 then _ else _));rw[AmH,Aa];by_cases hz:f i x=0
  ·rw[AlH hz,hz];refine Sc f l (i+1) fun k y hy=> ?_;have:=h (k+1) y (by simpa using hy);rw[show i+1+k=i+(k+1)from by omega]; exact this
  ·rw[AlG hz];unfold fsO;rw[AlG hz]
theorem WX {α:Type}{body:Int→Unit→Option (Unit⊕Int)}(f:Nat→α→Int)(l:List α)(h: ∀(k:Nat) (x:α),l[k]? =some x→body (k:Int) ()=some (fsO (f k x))): ∀(r:List α) (i:Nat),l.drop i=r→BV body r.length (i:Int) ()=some (fsO (AgP f i r))
 | [],i,_=>rfl
 |x::r,i,hd=>by
  obtain⟨hc,hr,hlt⟩:=Sv hd;show Ab (body (i:Int) ()) _=_;rw[h i x hc];show _=some (fsO (if f i x=0 then _ else _));rw[Aa];by_cases hz:f i x=0
  ·rw[AlH hz,hz];exact WX f l h r (i+1) hr
  ·rw[AlG hz];unfold fsO;rw[AlG hz]
theorem O3 {α σ τ:Type}{body:Int→σ→Option (σ⊕τ)}(l:List α)(p:α→Bool)(s:σ)(g:Nat→τ)(h: ∀(k:Nat) (x:α),l[k]? =some x→body (k:Int) s=some (if p x=true then .inr (g k)else .inl s)):
  ∀(r:List α) (i:Nat),l.drop i=r→∃j,BV body r.length (i:Int) s=some (if r.any p=true then .inr (g j)else .inl s)
 | [],i,_=>⟨0,rfl⟩
 |x::r,i,hd=>by
  obtain⟨hc,hr,hlt⟩:=Sv hd;show∃j,Ab (body (i:Int) s) _=_;rw[h i x hc,List.any_cons];cases hp:p x with
  |true=>exact⟨i,rfl⟩
  |false=>
   obtain⟨j,ih⟩:=O3 l p s g h r (i+1) hr;exact⟨j,ih⟩
theorem nn0 {e:Int}(h:e=0): ¬(e≠0):=fun k=>k h
theorem Ni (c:g_api_Cert):Cn c=some (checkV c):=Sn c
theorem b3_eq (i:Int)(c:g_api_Cert):Iz i c ()=some (fsO (checkV c)):=by
 unfold Iz fsO;rw[Ni,Aa];by_cases h:checkV c=0
 ·rw[AlH h,AlG (by simpa using h)]
 ·rw[AlG h,AlH (by simpa using h)]
def AeO (p:UInt64)(m:List UInt8)(s:g_api_Sig):Int:=(Dq p m s).getD 1
theorem sig_eq (p:UInt64){m:List UInt8}(s:g_api_Sig)(h:m.length≤600000):Dq p m s=some (AeO p m s):=by
 obtain⟨e,he⟩:=W5 p s h;unfold AeO;rw[he]; rfl
def OX (a b:g_api_Cert):Int:=if checkV a≠0 then checkV a else if checkV b≠0 then checkV b else if((!b.Ca)||(!eqS a.Issuer b.Subject))=true then 191 else if AeO b.Key (IX a) a.Sig≠0 then 40 else 0
theorem Ah5 (a b:g_api_Cert):JR a b=some (OX a b):=by
 have e1:DK Iz ([a,b]:List g_api_Cert) 0 ()=some (fsO (AgP (fun _ c=>checkV c) 0 [a,b])):=Sc (fun _ c=>checkV c) [a,b] 0 fun k x _=>b3_eq _ x;unfold JR OX;rw[e1,Aa];show(match fsO (if checkV a=0 then(if checkV b=0 then 0 else checkV b)else checkV a)with| .inr r=>some r| .inl _=>_)=_;by_cases ha:checkV a=0
 ·rw[AlH ha,AlG (nn0 ha)];by_cases hb:checkV b=0
  ·rw[AlH hb,AlG (nn0 hb)];show(if((!b.Ca)||(!eqS a.Issuer b.Subject))=true then some 191 else _)=_;by_cases hc:((!b.Ca)||(!eqS a.Issuer b.Subject))=true
   ·rw[AlH hc,AlH hc]
   ·rw[AlG hc,AlG hc,ZW (okc ha),Aa];show Ab (Dq b.Key (IX a) a.Sig) _=_;rw[sig_eq _ _ (by have:=Ss (okc ha); omega),Aa];by_cases hs:AeO b.Key (IX a) a.Sig=0
    ·rw[AlG (show¬((AeO b.Key (IX a) a.Sig !=0)=true)from by simpa using hs),AlG (nn0 hs)]
    ·rw[AlH (show(AeO b.Key (IX a) a.Sig !=0)=true from by simpa using hs),AlH hs]
  ·rw[AlG hb,AlH hb];unfold fsO; rw[AlG hb]
 ·rw[AlG ha,AlH ha];unfold fsO; rw[AlG ha]
theorem Adz (s:ByteArray):Gs s=some (isB (toL s) 8 64):=by
 unfold Gs;rw[show CS s 8 64=some (isB (toL s) 8 64)from Ac1 s 8 64 (by decide)];rfl
theorem Aaz (s:ByteArray): ∃o st,DI s=some (o,st,isB (toL s) 8 64||Afm (toL s))∧(isB (toL s) 8 64=true→o=s∧st=false)∧(isB (toL s) 8 64=false→Afm (toL s)=true→o=s.extract 2 s.size∧st=true):=by
 have hz:(toL s).length=s.size:=Cs s;unfold DI;rw[Adz,Aa];cases h1:isB (toL s) 8 64 with
 |true=>exact⟨s,false,rfl,fun _=>⟨rfl,rfl⟩,fun h=>(by cases h)⟩
 |false=>
  rw[AlG (by decide),Amy];unfold CC Bw Bv;have e2:(((⟨#[42,46]⟩:ByteArray).size:Nat):Int)=2:=rfl;rw[e2];match hl:toL s with
  | []=>
   rw[hl,Al1]at hz;rw[Aml (show¬(s.size:Int)≥2 from by omega)];exact⟨_,_,rfl,fun h=>(by cases h),fun _ h=>(by cases h)⟩
  | [a]=>
   rw[hl,AlM,Al1]at hz;rw[Aml (show¬(s.size:Int)≥2 from by omega)];exact⟨_,_,rfl,fun h=>(by cases h),fun _ h=>(by cases h)⟩
  |a::b::r=>
   rw[hl,AlM,AlM]at hz;have ec:Vq s 0 2=some (s.extract 0 2):=IA (by omega) (by omega) (by omega);have el:(s.extract 0 2).data.toList=[a,b]:=by
    rw[O2];show((toL s).take 2).drop 0=_;rw[hl]; rfl
   have ee:eqS (s.extract 0 2) (⟨#[42,46]⟩:ByteArray)=(a==42&&b==46):=by
    unfold eqS;rw[el,Amz];simp
   rw[AlY (show(s.size:Int)≥2 from by omega),WK,ec,Aa,DY,ee,Aa];show∃o st,_=some (o,st,(a==42&&b==46&&isB r 7 62))∧_∧(_→(a==42&&b==46&&isB r 7 62)=true→_);cases a==42&&b==46 with
   |false=>exact⟨_,_,rfl,fun h=>(by cases h),fun _ h=>(by cases h)⟩
   |true=>
    have ec2:Vq s 2 (s.size:Int)=some (s.extract 2 s.size):=by
     rw[IA (by omega) (by omega) (by omega)]; rfl
    have el2:(s.extract 2 s.size).data.toList=r:=by
     rw[O2];show((toL s).take s.size).drop 2=_;rw[Al8 (by rw[hl,AlM,AlM]; omega),hl]; rfl
    rw[show(true&&true)=true from rfl,AlG (by decide),ec2,Aa,Aa,Aa];have en:=Ac1 (s.extract 2 s.size) 7 62 (by decide);rw[el2]at en;have en:CS (s.extract 2 s.size) 7 62=some (isB r 7 62):=en;show∃o st,Ab (gu true (CS (s.extract 2 s.size) 7 62)) _=_∧_;rw[WK,en,Aa];exact⟨_,_,rfl,fun h=>(by cases h),fun _ _=>⟨rfl,rfl⟩⟩
def upV (s:ByteArray):ByteArray:=(Io s).getD ⟨#[]⟩
theorem Afd (s:ByteArray):Io s=some (upV s)∧(upV s=⟨#[]⟩∨(isB (toL s) 8 64=true∧∃p,toL s=p++46::toL (upV s)∧(46:UInt8)∉p)):=by
 have key: ∃u,Io s=some u∧(u=⟨#[]⟩∨(isB (toL s) 8 64=true∧∃p,toL s=p++46::toL u∧(46:UInt8)∉p)):=by
  unfold Io;rw[Adz,Aa];cases h1:isB (toL s) 8 64 with
  |false=>exact⟨_,rfl,.inl rfl⟩
  |true=>
   have hz:(toL s).length=s.size:=Cs s;have hs:s.size≤64:=by
    unfold isB at h1;simp only[AlD,AlL]at h1;have:=h1.1.1; omega
   have hx:A5 s (⟨#[46]⟩:ByteArray)=some (Adv s 46):=by
    have h:=WI s (by omega);unfold Ct at h;cases q:A5 s (⟨#[46]⟩:ByteArray)with
    |none=>rw[q]at h; cases h
    |some v=>rw[q]at h; exact h
   rw[AlG (by decide)];unfold LJ DV;rw[hx,Aa];rcases RX s.data.toList 46 with ⟨h2,h3⟩|⟨p,r,h2,h3,h4⟩
   ·rw[show Adv s 46= -1 from h2,AlG (by decide)];exact⟨_,rfl,.inl rfl⟩
   ·have hl:s.size=p.length+1+r.length:=by rw[←Cs,h2,AlI,AlM]; omega
    have e1:Vq s 0 (p.length:Int)=some (s.extract 0 p.length):=by
     rw[IA (by omega) (by omega) (by omega)]; rfl
    have e2:Vq s (w64 ((p.length:Int)+((⟨#[46]⟩:ByteArray).size:Int))) (s.size:Int)=some (s.extract (p.length+1) s.size):=by
     have:((⟨#[46]⟩:ByteArray).size:Int)=1:=rfl;rw[this,Hb (by omega) (by omega),IA (by omega) (by omega) (by omega)];rfl
    rw[show Adv s 46=(p.length:Int)from h4,AlH (by rw[AlL]; omega),e1,Aa,e2,Aa,Aa,Aa];refine⟨_,rfl,.inr ⟨rfl,p,?_,h3⟩⟩;have l2:(s.extract (p.length+1) s.size).data.toList=r:=by
     rw[O2,←Cs,List.take_length,h2];rw[←AmD,List.drop_left]; rfl
    show s.data.toList=_;rw[show toL (s.extract (p.length+1) s.size)=r from l2]; exact h2
 obtain⟨u,h,h'⟩:=key;have e:upV s=u:=by unfold upV; rw[h]; rfl
 rw[e]; exact⟨h,h'⟩
theorem up_lt (s:ByteArray):upV s=⟨#[]⟩∨(upV s).size<s.size:=by
 rcases(Afd s).2 with h|⟨_,p,h,_⟩
 ·exact .inl h
 ·refine .inr ?_;rw[←Cs,←Cs s];show(toL (upV s)).length<(toL s).length;rw[h,AlI,AlM]; omega
theorem up_64 (s:ByteArray):(upV s).size≤64:=by
 rcases(Afd s).2 with h|⟨h1,p,h,_⟩
 ·rw[h]; exact AmO _
 ·unfold isB at h1;simp only[AlD,AlL]at h1;have:=h1.1.1;rw[h,AlI,AlM]at this;rw[←Cs];show(toL (upV s)).length≤64;omega
def belF:Nat→ByteArray→ByteArray→Bool
 |0,_,_=>false
 |n+1,s,o=>if eqS s ⟨#[]⟩=true then false else if eqS s o=true then true else belF n (upV s) o
def belV (s o:ByteArray):Bool:=belF 100 (upV s) o
theorem Ad0 (s:ByteArray)(h: ¬eqS s ⟨#[]⟩=true):1≤s.size:=by
 rcases Nat.eq_zero_or_pos s.size with q|q
 ·refine absurd (PQ.2 ?_) h;exact ByteArray.ext (Array.eq_empty_of_size_eq_zero q)
 ·exact q
theorem TX (o:ByteArray): ∀(n:Nat) (s:ByteArray),s.size<n→
  ∃z,iter (FE (fun(s:(Bool)×Nat) (b0:ByteArray)=>if s.2=0 then Ab (E5 o b0 s) fun y=>some (y.2==0,y)else none)) n (s,(false,0))=some (z,if belF n s o=true then(true,1)else(false,0))
 |0,s,h=>by omega
 |n+1,s,h=>by
  show∃z,Ab (FE _ (s,(false,0))) _=_;unfold FE belF;by_cases h1:eqS s ⟨#[]⟩=true
  ·rw[h1];exact⟨s,rfl⟩
  ·have h1':eqS s ⟨#[]⟩=false:=by simpa using h1
   rw[h1'];unfold E5;by_cases h2:eqS s o=true
   ·refine⟨s,?_⟩;simp only[h2];rfl
   ·have h2':eqS s o=false:=by simpa using h2
    have hlt:(upV s).size<n:=by
     have:=Ad0 s h1;rcases up_lt s with q|q
     ·rw[q]; show 0<n; omega
     ·omega
    obtain⟨z,ih⟩:=TX o n (upV s) hlt;refine⟨z,?_⟩;simp only[h2',if_true,if_false,Bool.false_eq_true,Aa,(Afd s).1];exact ih
theorem Ahi (s o:ByteArray):Gt s o=some (belV s o):=by
 obtain⟨z,h⟩:=TX o 100 (upV s) (by have:=up_64 s; omega);unfold Gt LM JS;rw[Aa,(Afd s).1,Aa,Hm 100 h (by decide),Aa,Aa];unfold belV;cases belF 100 (upV s) o<;>rfl
def matV (p s:ByteArray):Bool:=isB (toL s) 8 64&&(if isB (toL p) 8 64=true then eqS p s else Afm (toL p)&&belV s (p.extract 2 p.size))
theorem Aga (p s:ByteArray):Jf p s=some (matV p s):=by
 obtain⟨o,st,h,h1,h2⟩:=Aaz p;unfold Jf matV;rw[h,Aa,Adz];cases q1:isB (toL p) 8 64 with
 |true=>
  obtain⟨rfl,rfl⟩:=h1 q1;rw[Bool.true_or];cases isB (toL s) 8 64<;>rfl
 |false=>
  rw[Amy];cases q2:Afm (toL p)with
  |false=>cases isB (toL s) 8 64<;>rfl
  |true=>
   obtain⟨rfl,rfl⟩:=h2 q1 q2;cases isB (toL s) 8 64 with
   |false=>rfl
   |true=>
    show Ab (Gt s _) _=_;rw[Ahi]; rfl
theorem Agk {α:Type}{l:List α}(h:l≠[])(hs:l.length≤1000): ∃x,l.getLast? =some x∧idx l (w64 ((l.length:Int)-1))=some x:=by
 have h1:1≤l.length:=List.length_pos_iff.2 h;refine⟨l.getLast h,List.getLast?_eq_some_getLast h,?_⟩;rw[Hb (by omega) (by omega)];have e:(l.length:Int)-1=((l.length-1:Nat):Int):=by omega
 rw[e];refine Js ?_;rw[←List.getLast?_eq_getElem?,List.getLast?_eq_some_getLast h]
theorem Ag5 {α:Type}(a:α)(l:List α):cut (a::l) 1 ((a::l).length:Int)=some l:=by
 have h:=Ak5 [a] l;simpa using h
def timeB (c:g_api_Cert)(now:Int):Bool:=decide (c.From≤now)&&decide (c.Until>now)
theorem V7 (t:g_path_trip)(c:g_api_Cert):FC t c=some (timeB c t.now_):=rfl
def Ah3 (c:g_api_Cert)(n:ByteArray):Bool:=c.Permit.any fun p=>matV p n
theorem Aau (n:ByteArray)(c:g_api_Cert):E4 n c=some (!Ah3 c n,c):=by
 obtain⟨j,h⟩:=O3 (body:=Bi c.Permit) c.Permit (fun p=>matV p n) n (fun k=>((k:Int),n)) (fun k x hx=>by
  unfold Bi HN;rw[Js hx,Aa,Aga,Aa,Aa];cases matV x n<;>rfl) c.Permit 0 rfl
 have h:BV (Bi c.Permit) c.Permit.length 0 n=_:=h;unfold E4 BZ Ce Ah3;rw[h,Aa];cases c.Permit.any fun p=>matV p n with
 |true=>
  show some (!decide ((j:Int)≥0),c)=_;rw[AlY (by omega)]
 |false=>rfl
theorem SZ (l:List ByteArray)(c:g_api_Cert):Bl l c=some (l.any fun n=> !Ah3 c n,c):=by
 obtain⟨j,h⟩:=O3 (body:=Bj l) l (fun n=> !Ah3 c n) (c.Serial,c.Issuer,c.Subject,c.Key,c.Names,c.From,c.Until,c.Ca,c.Depth,c.Permit,c.Proms,c.Sig.E,c.Sig.S) (fun k=>((k:Int),c)) (fun k x hx=>by
  unfold Bj;rw[Js hx,Aa];show Ab (E4 x c) _=_;rw[Aau,Aa];cases Ah3 c x<;>rfl) l 0 rfl
 have h:BV (Bj l) l.length 0 (c.Serial,c.Issuer,c.Subject,c.Key,c.Names,c.From,c.Until,c.Ca,c.Depth,c.Permit,c.Proms,c.Sig.E,c.Sig.S)=_:=h;unfold Bl Cg;rw[h,Aa];cases l.any fun n=> !Ah3 c n with
 |true=>
  show some (decide ((j:Int)≥0),c)=_;rw[AlY (by omega)]
 |false=>rfl
def XZ (names:List ByteArray)(i:Nat)(c:g_api_Cert):Int:=if c.Depth<(i:Int)then 191 else if 0<c.Permit.length∧(names.any fun n=> !Ah3 c n)=true then 110 else 0
def byV (chain:List g_api_Cert)(now:Int)(root:g_api_Cert):Int:=
 match chain with
 | []=>1
 |leaf::more=>
  let e:=OX ((leaf::more).getLast (by simp)) root
  if e≠0 then e else if timeB root now=false then 190 else AgP (XZ leaf.Names) 0 (more++[root])
theorem by_eq (roots:List g_api_Cert)(leaf:g_api_Cert)(more:List g_api_Cert)(name:ByteArray)(now:Int)(root:g_api_Cert)(hn:more.length≤100):
  GS ⟨roots,leaf::more,name,now⟩ root=some (byV (leaf::more) now root):=by
 obtain⟨x,hx,hi⟩:=Agk (l:=leaf::more) (by simp) (by simp; omega);have hx:(leaf::more).getLast (by simp)=x:=by rw[List.getLast?_eq_some_getLast (by simp)]at hx; exact AlC hx
 unfold GS byV;simp only[hx];show Ab (idx (leaf::more) (w64 (((leaf::more).length:Int)-1))) _=_;rw[hi,Aa,Ah5,Aa];by_cases h1:OX x root=0
 ·rw[AlG (show¬((OX x root !=0)=true)from by simpa using h1),AlG (nn0 h1),V7,Aa];show(if(!timeB root now)=true then some 190 else _)=_;cases timeB root now with
  |false=>rfl
  |true=>
   rw[AlG (by decide),AlG (by decide)];have ec:cut (leaf::more) 1 ((leaf::more).length:Int)=some more:=Ag5 leaf more;show Ab (cut (leaf::more) 1 ((leaf::more).length:Int)) _=_;rw[ec,Aa];unfold A4;rw[VD 168 (by simp; omega) (by simp; omega),Aa,Aa,Amc,VD 168 (by simp; omega) (by simp; omega),Aa];have e:=WX (body:=Gp ⟨roots,leaf::more,name,now⟩ (more++[root])) (XZ leaf.Names) (more++[root]) (fun k c hc=>by
    unfold Gp;rw[Js hc,Aa,DY];unfold XZ;by_cases h2:c.Depth<(k:Int)
    ·rw[AlH h2,AlH (by simpa using h2)]; rfl
    ·rw[AlG h2,AlG (by simpa using h2)];by_cases h3:0<c.Permit.length
     ·rw[AlH (by rw[AlL]; omega)];show Ab (some leaf) _=_;rw[Aa,SZ,Aa];cases leaf.Names.any fun n=> !Ah3 c n with
      |true=>rw[AlH rfl,AlH ⟨h3,rfl⟩]; rfl
      |false=>rw[AlG (by simp),AlG (by simp)]; rfl
     ·rw[AlG (by rw[AlL]; omega),AlG (by simp[h3])]; rfl) (more++[root]) 0 rfl
   have e:BV (Gp ⟨roots,leaf::more,name,now⟩ (more++[root])) (more++[root]).length 0 ()=_:=e;rw[e,Aa];exact Yj
 ·rw[AlH (show(OX x root !=0)=true from by simpa using h1),AlH h1]
def Nj (roots chain:List g_api_Cert)(name:ByteArray)(now:Int):Int:=if chain.length=0∨4<chain.length∨16<roots.length∨now<0∨now>1099511627776 then 1 else nameV name
def caB:Nat→List g_api_Cert→Bool
 |_,[]=>true
 |i,c::r=>(c.Ca==decide (0<i))&&caB (i+1) r
def Qc (chain:List g_api_Cert)(name:ByteArray)(now:Int):Int:=if caB 0 chain=false then 191 else match chain with| []=>1|leaf::_=>if(leaf.Names.any fun s=>eqS name s)=false then 110 else if(chain.any fun c=> !timeB c now)=true then 190 else 0
def linksV:List g_api_Cert→Int
 |a::b::r=>if OX a b≠0 then OX a b else linksV (b::r)
 |_=>0
def P5 (chain:List g_api_Cert)(now:Int)(roots:List g_api_Cert):Int:=if(roots.any fun r=>byV chain now r==0)=true then 0 else match roots with| []=>191|r::_=>byV chain now r
def AaU (l:List g_api_Cert):Int:=AgP (fun _ c=>checkV c) 0 l
def AaA (roots chain:List g_api_Cert)(name:ByteArray)(now:Int):Int:=if Nj roots chain name now≠0 then Nj roots chain name now else if AaU (chain++roots)≠0 then AaU (chain++roots)else if Qc chain name now≠0 then Qc chain name now else if linksV chain≠0 then linksV chain else P5 chain now roots
theorem Aa9 (n r:Nat)(now:Int):((((((n:Int)==0)||(decide ((n:Int)>4)))||(decide ((r:Int)>16)))||(decide (now<0)))||(decide (now>1099511627776)))=decide (n=0∨4<n∨16<r∨now<0∨now>1099511627776):=by
 rw[Amz];simp only[Amr,AlL,Amp];have e1:(n:Int)=0↔n=0:=by omega
 have e2:(n:Int)>4↔4<n:=by omega
 have e3:(r:Int)>16↔16<r:=by omega
 rw[e1,e2,e3,or_assoc,or_assoc,or_assoc]
theorem Aey (t:g_path_trip):FD t=some (Nj t.roots_ t.chain_ t.name_ t.now_):=by
 obtain⟨ro,ch,nm,nw⟩:=t;unfold FD Nj;dsimp only;rw[U2,Aa,Aa9];by_cases h:ch.length=0∨4<ch.length∨16<ro.length∨nw<0∨nw>1099511627776
 ·rw[AlH h,AlH (AlY h)]
 ·rw[AlG h,AlG (fun q=>h (Amx q))]
theorem AgH (n:Nat)(h:n≤10000):AU (n:Int)=some []:=by
 unfold AU;rw[Aml (show¬((n:Int)<0)from by omega),AlG (by decide),Aa,DY];have e0:w64 (0-((0:Nat):Int))=0:=Hb (by decide) (by decide);have e1:w64 ((n:Int)-w64 (0-((0:Nat):Int)))=(n:Int):=by
  rw[e0,Int.sub_zero];exact Hb (by omega) (by omega)
 rw[e1];by_cases h0:n=0
 ·rw[Aml (show¬((n:Int)>0)from by omega),AlG (by decide),Aa]
 ·rw[AlY (show(n:Int)>0 from by omega),AlH rfl,AlH ⟨by omega,by omega,by omega⟩,Aa]
theorem Ai6 (a b:List g_api_Cert)(ha:a.length≤1000)(hb:b.length≤1000):DP AQ ([a,b]:List (List g_api_Cert)) 0 0=some ((a.length+b.length:Nat):Int):=by
 have e: ∀(n:Nat) (i:Int) (x:List g_api_Cert),n+x.length≤10000→AQ i x (n:Int)=some ((n+x.length:Nat):Int):=by
  intro n i x h;have e1:w64 ((n:Int)+(x.length:Int))=((n+x.length:Nat):Int):=by
   rw[Hb (by omega) (by omega)]; exact(Int.natCast_add _ _).symm
  unfold AQ;rw[DY,e1,Aml (show¬(((n+x.length:Nat):Int)<0)from by omega),AlG (by decide),Aa]
 have e0:=e 0 0 a (by omega);have e1:=e a.length (0+1) b (by omega);rw[Amb]at e0;show Ab (AQ 0 a ((0:Nat):Int)) (fun s=>Ab (AQ (0+1) b s) fun s=>some s)=_;rw[e0,Aa,e1,Aa]
theorem Aed (a b:List g_api_Cert)(ha:a.length≤1000)(hb:b.length≤1000):Bt ([a,b]:List (List g_api_Cert))=some (a++b):=by
 unfold Bt;rw[Ai6 a b ha hb,Aa,Aa,AgH _ (by omega),Aa];have e:DP A8 ([a,b]:List (List g_api_Cert)) 0 []=some (a++b):=by
  show Ab (A8 0 a []) (fun s=>Ab (A8 (0+1) b s) fun s=>some s)=_;unfold A8;rw[VD 168 (by simp; omega) (by simp; omega),Aa,Aa,Amc,VD 168 (by omega) (by omega),Aa,Aa]
 rw[e,Aa,Aa]
theorem Ws (t:g_path_trip)(ha:t.chain_.length≤1000)(hb:t.roots_.length≤1000):G2 t=some (AaU (t.chain_++t.roots_)):=by
 unfold G2;rw[Aed _ _ ha hb,Aa];have e:=Sc (body:=EU) (fun _ c=>checkV c) (t.chain_++t.roots_) 0 (fun k x _=>by
  unfold EU;rw[Ni,Aa];unfold fsO;by_cases h:checkV x=0
  ·rw[AlH h,AlG (by simpa using h)]
  ·rw[AlG h,AlH (by simpa using h)])
 have e:DK EU (t.chain_++t.roots_) 0 ()=_:=e;rw[e,Aa];exact Yj
theorem TG (t:g_path_trip): ∀(r:List g_api_Cert) (i:Nat) (s:Bool),t.chain_.drop i=r→BV (CQ t) r.length (i:Int) s=some (if caB i r=true then .inl (s||r.any fun c=> !timeB c t.now_)else .inr 191)
 | [],i,s,_=>by show some (Sum.inl s)=_; simp[caB]
 |c::r,i,s,hd=>by
  obtain⟨hc,hr,hlt⟩:=Sv hd;have ih:=TG t r (i+1) (s|| !timeB c t.now_) hr;show Ab (CQ t (i:Int) s) _=_;have e:CQ t (i:Int) s=some (if(c.Ca==decide (0<i))=true then .inl (s|| !timeB c t.now_)else .inr 191):=by
   unfold CQ;rw[Js hc,Aa,V7];have ed:decide ((i:Int)>0)=decide (0<i):=by rw[AmC]; omega
   rw[ed];cases s with
   |true=>
    show Ab (some default) _=_;rw[Aa];cases c.Ca==decide (0<i)<;>rfl
   |false=>
    show Ab (some (timeB c t.now_)) _=_;rw[Aa];cases c.Ca==decide (0<i)<;>rfl
  rw[e];unfold caB;cases c.Ca==decide (0<i)with
  |false=>rfl
  |true=>
   rw[AlH rfl,Aa,Ama,List.any_cons,←Bool.or_assoc];exact ih
theorem has_eq (l:List ByteArray)(n:ByteArray):Cb l n=some (l.any fun s=>eqS n s):=by
 obtain⟨j,h⟩:=O3 (body:=B9 l n) l (fun s=>eqS n s) () (fun k=>(k:Int)) (fun k x hx=>by
  unfold B9;rw[Js hx,Aa];cases eqS n x<;>rfl) l 0 rfl
 have h:BV (B9 l n) l.length 0 ()=_:=h;unfold Cb Dl;rw[h,Aa];cases l.any fun s=>eqS n s with
 |true=>
  show some (decide ((j:Int)≥0))=_;rw[AlY (by omega)]
 |false=>rfl
theorem Agn (t:g_path_trip)(h:t.chain_≠[]):Gn t=some (Qc t.chain_ t.name_ t.now_):=by
 unfold Gn Qc;rw[show BV (CQ t) t.chain_.length 0 false=_ from TG t t.chain_ 0 false rfl,Aa];cases caB 0 t.chain_ with
 |false=>rfl
 |true=>
  rw[AlH rfl,AlG (by decide)];cases hl:t.chain_ with
  |nil=>exact absurd hl h
  |cons leaf more=>
   show Ab (some leaf) _=_;rw[Aa,has_eq,Aa,Amy];show _=some (if(leaf.Names.any fun s=>eqS t.name_ s)=false then 110 else _);cases leaf.Names.any fun s=>eqS t.name_ s with
   |false=>rfl
   |true=>
    cases (leaf::more).any fun c=> !timeB c t.now_<;>rfl
theorem TA (t:g_path_trip)(hn:t.chain_.length≤1000): ∀(r:List g_api_Cert) (a:g_api_Cert) (i:Nat),t.chain_.drop i=a::r→BV (CP t) r.length (i:Int) ()=some (fsO (linksV (a::r)))
 | [],a,i,_=>rfl
 |b::r,a,i,hd=>by
  obtain⟨ha,hr,hlt⟩:=Sv hd;obtain⟨hb,hr2,hlt2⟩:=Sv hr;have ih:=TA t hn r b (i+1) hr;show Ab (CP t (i:Int) ()) _=_;have e:CP t (i:Int) ()=some (fsO (OX a b)):=by
   unfold CP fsO;rw[Js ha,Aa,AiT (by omega),Js hb,Aa,Ah5,Aa];by_cases h:OX a b=0
   ·rw[AlH h,AlG (by simpa using h)]
   ·rw[AlG h,AlH (by simpa using h)]
  rw[e,Aa];unfold linksV;by_cases h:OX a b=0
  ·rw[AlG (nn0 h),h];exact ih
  ·rw[AlH h];unfold fsO;rw[AlG h]
theorem Agg (t:g_path_trip)(h:t.chain_≠[])(hn:t.chain_.length≤1000):Gl t=some (linksV t.chain_):=by
 unfold Gl;cases hl:t.chain_ with
 |nil=>exact absurd hl h
 |cons a r=>
  have e1:Int.toNat (w64 (((a::r).length:Int)-1))=r.length:=by
   rw[hl,AlM]at hn;have e0:((a::r).length:Int)-1=(r.length:Int):=by simp
   rw[e0,Hb (by omega) (by omega),Amk]
  rw[e1,show BV (CP t) r.length 0 ()=_ from TA t hn r a 0 hl,Aa];exact Yj
theorem P4 (t:g_path_trip)(hc:t.chain_≠[])(hn:t.chain_.length≤100)(hr:t.roots_.length≤1000): ∀(i n:Nat) (e:Int),i≤t.roots_.length→i<n→
  iter (Cp t) n (e,(i:Int)-1)=some (if((t.roots_.take i).any fun r=>byV t.chain_ t.now_ r==0)=true then .inr 0 else .inl (match t.roots_.take i with| []=>e|r::_=>byV t.chain_ t.now_ r))
 |0,n,e,_,hn0=>by
  obtain⟨n,rfl⟩: ∃q,n=q+1:=⟨n-1,by omega⟩;rfl
 |i+1,n,e,hi,hn0=>by
  obtain⟨n,rfl⟩: ∃q,n=q+1:=⟨n-1,by omega⟩;have hlt:i<t.roots_.length:=by omega
  have hx:t.roots_[i]? =some t.roots_[i]:=Amn hlt;have eb:GS t t.roots_[i]=some (byV t.chain_ t.now_ t.roots_[i]):=by
   obtain⟨ro,ch,nm,nw⟩:=t;cases ch with
   |nil=>exact absurd rfl hc
   |cons a r=>exact by_eq _ a r _ _ _ (by simp only[AlM]at hn; omega)
  have e1:((i+1:Nat):Int)-1=(i:Int):=by omega
  rw[e1];show Ab (Cp t (e,(i:Int))) _=_;have es:Cp t (e,(i:Int))=some (if(byV t.chain_ t.now_ t.roots_[i]==0)=true then .inr (.inr 0)else .inl (byV t.chain_ t.now_ t.roots_[i],(i:Int)-1)):=by
   unfold Cp;rw[AlH (by rw[AlL]; show(i:Int)≥0; omega)];show Ab (idx t.roots_ (i:Int)) _=_;rw[Js hx,Aa,eb,Aa];cases byV t.chain_ t.now_ t.roots_[i]==0 with
   |true=>rfl
   |false=>
    rw[AlG (by decide),AlG (by decide)];show some (Sum.inl (_,w64 ((i:Int)-1)))=_;rw[Hb (by omega) (by omega)]
  rw[es,Aa];have et:t.roots_.take (i+1)=t.roots_.take i++[t.roots_[i]]:=by rw[List.take_add_one,hx]; rfl
  rw[et,List.any_append];have ih:=P4 t hc hn hr i n (byV t.chain_ t.now_ t.roots_[i]) (by omega) (by omega);cases hb:byV t.chain_ t.now_ t.roots_[i]==0 with
  |true=>
   rw[AlH rfl];have:(([t.roots_[i]]:List g_api_Cert).any fun r=>byV t.chain_ t.now_ r==0)=true:=by simp[hb]
   rw[this,Bool.or_true,AlH rfl]
  |false=>
   rw[AlG (by decide)];show iter (Cp t) n (_,(i:Int)-1)=_;rw[ih];have:(([t.roots_[i]]:List g_api_Cert).any fun r=>byV t.chain_ t.now_ r==0)=false:=by simp[hb]
   rw[this,Bool.or_false];cases (t.roots_.take i).any fun r=>byV t.chain_ t.now_ r==0 with
   |true=>rfl
   |false=>cases t.roots_.take i<;>rfl
theorem Aai (t:g_path_trip)(hc:t.chain_≠[])(hn:t.chain_.length≤100)(hr:t.roots_.length≤1000):ET t=some (P5 t.chain_ t.now_ t.roots_):=by
 unfold ET P5;rw[DY,Hb (by omega) (by omega),P4 t hc hn hr t.roots_.length Fx 191 (AlK _) (by have:=KG; omega),Aa,List.take_length];cases t.roots_.any fun r=>byV t.chain_ t.now_ r==0 with
 |true=>rfl
 |false=>cases t.roots_<;>rfl
theorem row_b1 (x:Fv)(i e:Int)(h:GY x=some e):Gq i x ()=some (fsO e):=by
 unfold Gq fsO;rw[h,Aa];by_cases h:e=0
 ·rw[AlH h,AlG (by simpa using h)]
 ·rw[AlG h,AlH (by simpa using h)]
theorem OP (x:Fv)(l:List Fv)(i e:Int)(h:GY x=some e):DK Gq (x::l) i ()=if e≠0 then some (.inr e)else DK Gq l (i+1) ():=by
 show Ab (Gq i x ()) _=_;rw[row_b1 x i e h,Aa];unfold fsO;by_cases h:e=0
 ·rw[AlH h,AlG (by simpa using h)]
 ·rw[AlG h,AlH h]
theorem AjR (roots chain:List g_api_Cert)(name:ByteArray)(now:Int):m_path_Check roots chain name now=some (AaA roots chain name now):=by
 unfold m_path_Check PJ AaA;generalize ht:(⟨roots,chain,name,now⟩:g_path_trip)=t;have h1:t.roots_=roots:=by rw[←ht]
 have h2:t.chain_=chain:=by rw[←ht]
 have h3:t.name_=name:=by rw[←ht]
 have h4:t.now_=now:=by rw[←ht]
 have d1:GY ⟨72,t⟩=some (Nj roots chain name now):=by rw[←h1,←h2,←h3,←h4]; exact Aey t
 rw[OP _ _ _ _ d1];by_cases z1:Nj roots chain name now=0
 ·have hb: ¬(chain.length=0∨4<chain.length∨16<roots.length∨now<0∨now>1099511627776):=by
   intro h;unfold Nj at z1;rw[AlH h]at z1;cases z1
  have hne:chain≠[]:=fun h=>hb (.inl (by rw[h]; rfl));have d2:GY ⟨73,t⟩=some (AaU (chain++roots)):=by rw[←h1,←h2]; exact Ws t (by rw[h2]; omega) (by rw[h1]; omega)
  have d3:GY ⟨74,t⟩=some (Qc chain name now):=by rw[←h2,←h3,←h4]; exact Agn t (by rw[h2]; exact hne)
  have d4:GY ⟨75,t⟩=some (linksV chain):=by rw[←h2]; exact Agg t (by rw[h2]; exact hne) (by rw[h2]; omega)
  have d5:GY ⟨76,t⟩=some (P5 chain now roots):=by rw[←h1,←h2,←h4]; exact Aai t (by rw[h2]; exact hne) (by rw[h2]; omega) (by rw[h1]; omega)
  rw[AlG (nn0 z1),AlG (nn0 z1),OP _ _ _ _ d2];by_cases z2:AaU (chain++roots)=0
  ·rw[AlG (nn0 z2),AlG (nn0 z2),OP _ _ _ _ d3];by_cases z3:Qc chain name now=0
   ·rw[AlG (nn0 z3),AlG (nn0 z3),OP _ _ _ _ d4];by_cases z4:linksV chain=0
    ·rw[AlG (nn0 z4),AlG (nn0 z4),OP _ _ _ _ d5];by_cases z5:P5 chain now roots=0
     ·rw[AlG (nn0 z5),z5]; rfl
     ·rw[AlH z5]; rfl
    ·rw[AlH z4,AlH z4]; rfl
   ·rw[AlH z3,AlH z3]; rfl
  ·rw[AlH z2,AlH z2]; rfl
 ·rw[AlH z1,AlH z1]; rfl
structure TY (roots:List g_api_Cert)(leaf:g_api_Cert)(more:List g_api_Cert)(name:ByteArray)(now:Int):Prop where
 len:more.length≤3
 rts:roots.length≤16
 now0:0≤now
 nowM:now≤1099511627776
 nam:nameV name=0
 all: ∀c∈leaf::more++roots,checkV c=0
 kin:caB 0 (leaf::more)=true
 has:(leaf.Names.any fun s=>eqS name s)=true
 tim: ∀c∈leaf::more,timeB c now=true
 lnk:linksV (leaf::more)=0
theorem Af3 {b:List UInt8}(h:b.length≤3000):C5 b=some (Abh (⟨#[108,101,97,102]⟩:ByteArray) [b]):=by
 unfold C5;rw[JL _ _ (by simp[VH]; omega)];rfl
theorem Ahf {c:g_api_Cert}(h:Okc c):m_cert_Leaf c=some (Abh (⟨#[108,101,97,102]⟩:ByteArray) [Wo c],0):=by
 unfold m_cert_Leaf;have:=AhM h;rw[Aev h,Aa,AlG (by simp)];show Ab (C5 (Wo c)) _=_;rw[Af3 (by omega)];rfl
theorem TO {α σ τ:Type}{body:Int→σ→Option (σ⊕τ)}(xs:List α)(p:α→Bool)(s:σ)(g:Nat→τ)(h: ∀(i:Nat) (x:α),xs[i]? =some x→body (i:Int) s=some (if p x=true then .inr (g i)else .inl s)):
  ∀(k i:Nat),i+k=xs.length→∃r,BV body k (i:Int) s=some r∧((∃(j:Nat) (x:α),xs[j]? =some x∧p x=true∧r= .inr (g j))∨((∀x∈xs.drop i,p x=false)∧r= .inl s))
 |0,i,hi=>⟨.inl s,rfl,.inr ⟨(fun x hx=>by rw[Amm (by omega)]at hx; cases hx),rfl⟩⟩
 |k+1,i,hi=>by
  have hx:xs[i]? =some xs[i]:=Amn (by omega);show∃r,Ab (body (i:Int) s) _=_∧_;rw[h i _ hx];cases hp:p xs[i]with
  |true=>exact⟨_,rfl,.inl ⟨i,_,hx,hp,rfl⟩⟩
  |false=>
   obtain⟨r,h1,h2⟩:=TO xs p s g h k (i+1) (by omega);refine⟨r,h1,?_⟩;rcases h2 with q|⟨q,e⟩
   ·exact .inl q
   ·refine .inr ⟨fun x hx'=> ?_,e⟩;rw[List.drop_eq_getElem_cons (by omega)]at hx';rcases Al6.1 hx' with w|w
    ·rw[w]; exact hp
    ·exact q x w
theorem Hp {α σ τ:Type}{body:Int→σ→Option (σ⊕τ)}(xs:List α)(p:α→Bool)(s:σ)(g:Nat→τ)(h: ∀(i:Nat) (x:α),xs[i]? =some x→body (i:Int) s=some (if p x=true then .inr (g i)else .inl s)):
  ∃r,BV body xs.length 0 s=some r∧((∃(j:Nat) (x:α),xs[j]? =some x∧p x=true∧r= .inr (g j))∨(xs.any p=false∧r= .inl s)):=by
 obtain⟨r,h1,h2⟩:=TO xs p s g h xs.length 0 (by omega);refine⟨r,h1,?_⟩;rcases h2 with q|⟨q,e⟩
 ·exact .inl q
 ·exact .inr ⟨List.any_eq_false.2 fun x hx=>by rw[q x (by simpa using hx)]; decide,e⟩
theorem Xe {α:Type}{xs:List α}{p:α→Bool}{j:Nat}{x:α}(h:xs[j]? =some x)(hp:p x=true):xs.any p=true:=List.any_eq_true.2 ⟨x,Amh h,hp⟩
theorem AkG {α:Type} [Inhabited α]{o:Option α}:gu true o=o:=rfl
theorem ge0 (j:Nat):decide ((j:Int)≥0)=true:=AlY (by omega)
theorem Aew (k:UInt64): ∃b,Dh k=some b:=by
 unfold Dh;obtain⟨x,hx⟩:=MZ ((decide ((k.toNat:Int)>0))&&(decide ((k.toNat:Int)<2305843009213691579))) (o:=Dt k 1152921504606845789) ⟨_,Rz _ _⟩;rw[hx,Aa];exact⟨_,rfl⟩
theorem Yw (n:Int):Cx n=some (decide (0≤n)&&decide (n≤1099511627776)):=rfl
theorem Wh (l:List g_api_Cert): ∃b,Ay l=some b:=by
 unfold Ay Be;obtain⟨r,h1,h2⟩:=Hp (body:=AM l) l (fun c=>(!c.Ca)||((if c.Ca=true then checkV c else default) !=0)) () (fun i=>(i:Int)) (fun i x hx=>by
  unfold AM Eb;rw[Di hx,Aa];have:gu (!(!x.Ca)) (Cn x)=some (if x.Ca=true then checkV x else default):=by
   rw[Ni]; cases x.Ca<;>rfl
  rw[this,Aa,Aa];cases ((!x.Ca)||((if x.Ca=true then checkV x else default) !=0))<;>rfl)
 rw[h1,Aa];cases r<;>exact⟨_,rfl⟩
theorem AiR (l:List UInt8): ∃b,AP l=some b:=by
 unfold AP BW;obtain⟨r,h1,h2⟩:=Hp (body:=A7 l) l (fun c=>(decide ((c.toNat:Int)<33))||(decide ((c.toNat:Int)>126))) () (fun i=>(i:Int)) (fun i x hx=>by
  unfold A7 Ec;rw[Di hx,Aa,Bc,Aa];cases ((decide ((x.toNat:Int)<33))||(decide ((x.toNat:Int)>126)))<;>rfl)
 rw[h1,Aa];cases r<;>exact⟨_,rfl⟩
theorem keysB: ∀(l:List g_api_Key) (i s:Int),∃r,DK Bz l i s=some r
 | [],i,s=>⟨_,rfl⟩
 |x::l,i,s=>by
  show∃r,Ab (Bz i x s) _=_;unfold Bz;obtain⟨a,ha⟩:=MZ (!(decide (x.Log≤s))) (o:=Cx x.Log) ⟨_,Yw _⟩;rw[ha,Aa];obtain⟨b,hb⟩:=MZ (!((decide (x.Log≤s))||(!a))) (o:=Cx x.Delay) ⟨_,Yw _⟩;rw[hb,Aa];obtain⟨c,hc⟩:=MZ (!(((decide (x.Log≤s))||(!a))||(!b))) (Aew x.Key);rw[hc,Aa];split
  ·exact⟨_,rfl⟩
  ·exact keysB l (i+1) _
theorem Agb (a:Aj): ∃e,Ba a=some e:=by
 unfold Ba;split
 ·obtain⟨b,hb⟩:=MZ (!((true||((a.Client.Roots.length:Int)==0))||(decide ((a.Client.Roots.length:Int)>8)))) (Wh a.Client.Roots);rw[hb,Aa];exact⟨_,AlH (by simp)⟩
 ·rename_i hw;have hl:a.Client.Who.data.toList.length≤64:=by
   rw[Amr,not_or]at hw;have h2:=hw.2;rw[AlL]at h2;have:a.Client.Who.size≤64:=by omega
   exact this
  rw[Eg 1 (by simp only[Al1]; omega) (by simp only[Al1]; omega),Aa];obtain⟨b,hb⟩:=AiR ([]++a.Client.Who.data.toList);rw[hb,Aa];obtain⟨d,hd⟩:=MZ (!((b||((a.Client.Roots.length:Int)==0))||(decide ((a.Client.Roots.length:Int)>8)))) (Wh a.Client.Roots);rw[hd,Aa];split
  ·exact⟨_,rfl⟩
  ·obtain⟨r,hr⟩:=keysB a.Client.Logs 0 (-1);rw[hr,Aa];cases r with
   |inr r=>exact⟨_,rfl⟩
   |inl y=>
    dsimp only;split<;>exact⟨_,rfl⟩
theorem Aio {z:Aj}{e1 e2 e3:Int}(h1:Ba z=some e1)(h2:Ch z=some e2)(h3:CE z=some e3):
  Df z=some (if e1≠0 then e1 else if e2≠0 then e2 else e3):=by
 unfold Df;have b0:AJ z 0 ()=some (if e1≠0 then .inr e1 else .inl ()):=by
  unfold AJ;rw[AlH rfl,h1,Aa];by_cases h:e1=0
  ·rw[AlG (by simp[h]),AlG (fun k=>k h)]
  ·rw[AlH (by simpa using h),AlH h]
 have b1:AJ z 1 ()=some (if e2≠0 then .inr e2 else .inl ()):=by
  unfold AJ;rw[AlG (by decide),AlH rfl,h2,Aa];by_cases h:e2=0
  ·rw[AlG (by simp[h]),AlG (fun k=>k h)]
  ·rw[AlH (by simpa using h),AlH h]
 have b2:AJ z 2 ()=some (if e3≠0 then .inr e3 else .inl ()):=by
  unfold AJ;rw[AlG (by decide),AlG (by decide),h3,Aa];by_cases h:e3=0
  ·rw[AlG (by simp[h]),AlG (fun k=>k h)]
  ·rw[AlH (by simpa using h),AlH h]
 show Ab (Ab (AJ z 0 ()) _) _=_;rw[b0,Aa];by_cases q1:e1=0
 ·rw[AlG (fun k=>k q1),AlG (fun k=>k q1)];show Ab (Ab (AJ z 1 ()) _) _=_;rw[b1,Aa];by_cases q2:e2=0
  ·rw[AlG (fun k=>k q2),AlG (fun k=>k q2)];show Ab (Ab (AJ z 2 ()) _) _=_;rw[b2,Aa];by_cases q3:e3=0
   ·rw[AlG (fun k=>k q3),q3]; rfl
   ·rw[AlH q3]; rfl
  ·rw[AlH q2,AlH q2]; rfl
 ·rw[AlH q1,AlH q1]; rfl
theorem app48 {α:Type}(s:List α)(x:α)(h:s.length≤1000000):app 48 s [x]=some (s++[x]):=Eg 48 (by simp only[List.length_singleton]; omega) (by simp only[List.length_singleton]; omega)
def mcV (leaf:UInt64×UInt64)(w:g_api_Place)(h:g_api_Head):Int:=(C6 leaf w.At w.Size w.Proof h.Root).getD 1
theorem mc_eq (leaf:UInt64×UInt64)(w:g_api_Place)(h:g_api_Head):C6 leaf w.At w.Size w.Proof h.Root=some (mcV leaf w h):=by
 obtain⟨e,he⟩:=AaH leaf w.At w.Size w.Proof h.Root;unfold mcV; rw[he]; rfl
def Vf (leaf:UInt64×UInt64)(w:g_api_Place)(h:g_api_Head):Bool:=((h.Log==w.Log)&&(h.Size==w.Size))&&(mcV leaf w h==0)
theorem AkC (a:Aj)(w:g_api_Place)(leaf:UInt64×UInt64):EX a w leaf=some (a.Client.Pool.L.any (Vf leaf w)):=by
 unfold EX BH BU;obtain⟨r,h1,h2⟩:=Hp (body:=BG a.Client.Pool.L) a.Client.Pool.L (Vf leaf w) (w.Log,w.At,w.Size,w.Proof,leaf.1,leaf.2) (fun i=>((i:Int),w,leaf)) (fun i x hx=>by
  unfold BG F6 Vf;rw[Di hx,Aa];dsimp only;rw[mc_eq leaf w x];cases ((x.Log==w.Log)&&(x.Size==w.Size))with
  |false=>rfl
  |true=>
   rw[show gu true (some (mcV leaf w x))=some (mcV leaf w x)from rfl,Aa,Bc,Aa,Ama];cases (mcV leaf w x==0)<;>rfl)
 rw[h1,Aa];rcases h2 with ⟨j,k,q1,q2,rfl⟩|⟨q,rfl⟩
 ·rw[Xe q1 q2];dsimp only;rw[Aa,Aa,ge0]
 ·rw[q]; rfl
theorem AgD (ps:List g_api_Promise)(w:g_api_Place):AR ps w=some (ps.any (fun p=>p.Log==w.Log),w):=by
 unfold AR By;obtain⟨r,h1,h2⟩:=Hp (body:=Bm ps) ps (fun p=>p.Log==w.Log) (w.Log,w.At,w.Size,w.Proof) (fun i=>((i:Int),w)) (fun i x hx=>by
  unfold Bm F8;rw[Di hx,Aa,Aa];dsimp only;cases (x.Log==w.Log)<;>rfl)
 rw[h1,Aa];rcases h2 with ⟨j,k,q1,q2,rfl⟩|⟨q,rfl⟩
 ·rw[Xe (p:=fun p:g_api_Promise=>p.Log==w.Log) q1 q2];dsimp only;rw[Aa,ge0]
 ·rw[q]; rfl
def showB (c:g_api_Client)(ps:List g_api_Promise)(leaf:UInt64×UInt64)(w:g_api_Place):Bool:=ps.any (fun p=>p.Log==w.Log)&&c.Pool.L.any (Vf leaf w)
theorem AgE (l:List g_api_Place)(ps:List g_api_Promise)(c:g_api_Client)(leaf:UInt64×UInt64):A1 l ps ⟨c⟩ leaf=some (l.any (showB c ps leaf),ps,⟨c⟩,leaf):=by
 unfold A1 BO;obtain⟨r,h1,h2⟩:=Hp (body:=BD l) l (showB c ps leaf) (ps,c.Who,c.Roots,c.Logs,c.Pool.L,c.Cascade.Day,c.Cascade.Levels,c.View,leaf.1,leaf.2) (fun i=>((i:Int),ps,⟨c⟩,leaf)) (fun i x hx=>by
  unfold BD Hl showB;rw[Di hx,Aa];dsimp only;rw[AgD,Aa];dsimp only;rw[AkC];cases ps.any (fun p=>p.Log==x.Log)with
  |false=>rfl
  |true=>
   dsimp only;rw[show∀o:Option Bool,gu true o=o from fun o=>rfl,Aa,Aa,Ama];cases c.Pool.L.any (Vf leaf x)<;>rfl)
 dsimp only;rw[h1,Aa];rcases h2 with ⟨j,k,q1,q2,rfl⟩|⟨q,rfl⟩
 ·rw[Xe q1 q2];dsimp only;rw[Aa,ge0]
 ·rw[q]; rfl
abbrev FB:=AD
def aSt (c:g_api_Client)(o:g_api_Offer)(name:ByteArray)(now:Int)(lf:UInt64×UInt64)(ps:List g_api_Promise):ByteArray×(List g_api_Cert)×(List g_api_Key)×(List g_api_Head)×Int×(List g_api_Sieve)×Int×Int×(List g_api_Cert)×(List g_api_Place)×ByteArray×UInt64×UInt64×ByteArray×(List g_api_Cert)×(List g_api_Key)×(List g_api_Head)×Int×(List g_api_Sieve)×Int×(List g_api_Promise):=(c.Who,c.Roots,c.Logs,c.Pool.L,c.Cascade.Day,c.Cascade.Levels,c.View,now,o.Path,o.Where,name,lf.1,lf.2,c.Who,c.Roots,c.Logs,c.Pool.L,c.Cascade.Day,c.Cascade.Levels,c.View,ps)
theorem ne0 {e:Int}(h:e≠0):(e !=0)=true:=by simpa using h
section
variable {c:g_api_Client}{o:g_api_Offer}{name:ByteArray}{now:Int}{lf:UInt64×UInt64}{ps:List g_api_Promise}
theorem fb0 {e:Int}(h:m_client_Check c=some e):(e=0→FB 0 (aSt c o name now lf ps)=some (.inl (aSt c o name now lf ps)))∧(e≠0→∃t,FB 0 (aSt c o name now lf ps)=some (.inr (e,t))):=by
 unfold FB AD;rw[AlH rfl];have q:DE c=some (e,c):=by unfold DE; rw[h]; rfl
 refine⟨fun h0=> ?_,fun h0=> ?_⟩
 ·show Ab (DE c) _=_;rw[q,Aa,h0]; rfl
 ·show∃t,Ab (DE c) _=_;rw[q,Aa,AlH (ne0 h0)];exact⟨_,rfl⟩
theorem fb1 {e:Int}(h:(if(decide (0≤now)&&decide (now≤1099511627776))=true then m_path_Check c.Roots o.Path name now else some 1)=some e):
  (e=0→FB 1 (aSt c o name now lf ps)=some (.inl (aSt c o name now lf ps)))∧(e≠0→∃t,FB 1 (aSt c o name now lf ps)=some (.inr (e,t))):=by
 unfold FB AD;rw[AlG (by decide),AlH rfl];have q:DD now c o name=some (e,now,c,o,name):=by
  unfold DD;rw[Yw,Aa];cases hb:(decide (0≤now)&&decide (now≤1099511627776))with
  |true=>
   rw[hb,AlH rfl]at h;rw[AlG (by decide),h]; rfl
  |false=>
   rw[hb,AlG (by decide)]at h;cases h; rfl
 refine⟨fun h0=> ?_,fun h0=> ?_⟩
 ·show Ab (DD now c o name) _=_;rw[q,Aa,h0]; rfl
 ·show∃t,Ab (DD now c o name) _=_;rw[q,Aa,AlH (ne0 h0)];exact⟨_,rfl⟩
theorem fb2 {x:g_api_Cert}{more:List g_api_Cert}{l:UInt64×UInt64}{e:Int}(ho:o.Path=x::more)(h:m_cert_Leaf x=some (l,e)):
  (e=0→FB 2 (aSt c o name now lf ps)=some (.inl (aSt c o name now l ps)))∧(e≠0→∃t,FB 2 (aSt c o name now lf ps)=some (.inr (e,t))):=by
 unfold FB AD;rw[AlG (by decide),AlG (by decide),AlH rfl];have q:DC o lf=some (e,o,l):=by
  unfold DC;rw[ho];show Ab (some x) _=_;rw[Aa,h]; rfl
 refine⟨fun h0=> ?_,fun h0=> ?_⟩
 ·show Ab (DC o lf) _=_;rw[q,Aa,h0]; rfl
 ·show∃t,Ab (DC o lf) _=_;rw[q,Aa,AlH (ne0 h0)];exact⟨_,rfl⟩
theorem fb3 {x:g_api_Cert}{more:List g_api_Cert}{r:List g_api_Promise}(ho:o.Path=x::more)(h:m_client_asked_counting ⟨c⟩ x.Proms lf=some r):
  (2≤r.length→FB 3 (aSt c o name now lf ps)=some (.inl (aSt c o name now lf r)))∧(¬2≤r.length→∃t,FB 3 (aSt c o name now lf ps)=some (.inr (251,t))):=by
 unfold FB AD;rw[AlG (by decide),AlG (by decide),AlG (by decide),AlH rfl];have q:DB ⟨c⟩ o lf ps=some (if 2≤r.length then 0 else 251,⟨c⟩,o,lf,r):=by
  unfold DB;rw[ho];show Ab (some x) _=_;rw[Aa,h,Aa];by_cases hr:2≤r.length
  ·rw[AlG (by simp; omega),AlH hr]
  ·rw[AlH (by simp; omega),AlG hr]
 refine⟨fun h0=> ?_,fun h0=> ?_⟩
 ·show Ab (DB ⟨c⟩ o lf ps) _=_;rw[q,Aa,AlH h0]; rfl
 ·show∃t,Ab (DB ⟨c⟩ o lf ps) _=_;rw[q,Aa,AlG h0];exact⟨_,rfl⟩
theorem fb4:(o.Where.any (showB c ps lf)=true→FB 4 (aSt c o name now lf ps)=some (.inl (aSt c o name now lf ps)))∧(o.Where.any (showB c ps lf)=false→∃t,FB 4 (aSt c o name now lf ps)=some (.inr (240,t))):=by
 unfold FB AD;rw[AlG (by decide),AlG (by decide),AlG (by decide),AlG (by decide),AlH rfl];have q:DA ps ⟨c⟩ lf o=some (if o.Where.any (showB c ps lf)=true then 0 else 240,ps,⟨c⟩,lf,o):=by
  unfold DA;rw[AgE,Aa];dsimp only;cases o.Where.any (showB c ps lf)<;>rfl
 refine⟨fun h0=> ?_,fun h0=> ?_⟩
 ·show Ab (DA ps ⟨c⟩ lf o) _=_;rw[q,Aa,h0]; rfl
 ·show∃t,Ab (DA ps ⟨c⟩ lf o) _=_;rw[q,Aa,h0];exact⟨_,rfl⟩
theorem fb5 {x:g_api_Cert}{more:List g_api_Cert}{b:Bool}(ho:o.Path=x::more)(h:m_cascade_Has c.Cascade x.Serial=some b):
  (b=false→FB 5 (aSt c o name now lf ps)=some (.inl (aSt c o name now lf ps)))∧(b=true→∃t,FB 5 (aSt c o name now lf ps)=some (.inr (270,t))):=by
 unfold FB AD;rw[AlG (by decide),AlG (by decide),AlG (by decide),AlG (by decide),AlG (by decide)];have q:Dz c o=some (if b=true then 270 else 0,c,o):=by
  unfold Dz;rw[ho];show Ab (some x) _=_;rw[Aa,h,Aa];cases b<;>rfl
 refine⟨fun h0=> ?_,fun h0=> ?_⟩
 ·show Ab (Dz c o) _=_;rw[q,Aa,h0]; rfl
 ·show∃t,Ab (Dz c o) _=_;rw[q,Aa,h0];exact⟨_,rfl⟩
end
theorem enL {σ τ:Type}{body:Int→σ→Option (σ⊕τ)}{k:Nat}{i:Int}{s s':σ}(h:body i s=some (.inl s')):BV body (k+1) i s=BV body k (i+1) s':=by
 show Ab (body i s) _=_;rw[h]; rfl
theorem enR {σ τ:Type}{body:Int→σ→Option (σ⊕τ)}{k:Nat}{i:Int}{s:σ}{t:τ}(h:body i s=some (.inr t)):BV body (k+1) i s=some (.inr t):=by
 show Ab (body i s) _=_;rw[h]; rfl
structure Acc (c:g_api_Client)(o:g_api_Offer)(name:ByteArray)(now:Int):Prop where
 chk:m_client_Check c=some 0
 pth:m_path_Check c.Roots o.Path name now=some 0
 run: ∃x more leaf ps,o.Path=x::more∧m_cert_Leaf x=some (leaf,0)∧m_client_asked_counting ⟨c⟩ x.Proms leaf=some ps∧2≤ps.length∧o.Where.any (showB c ps leaf)=true∧m_cascade_Has c.Cascade x.Serial=some false
def shop0:Co:=⟨⟨⟨#[97,110,110]⟩,[⟨0,⟨#[114]⟩,⟨#[114]⟩,544077478247279056,[],0,100,true,1,[],[],⟨56068977789539995,412945996197367095⟩⟩],[⟨0,1297896941320072711,5⟩,⟨1,1631945290827707310,5⟩],⟨[]⟩,⟨0,[]⟩,0⟩,⟨[⟨9,⟨#[114]⟩,⟨#[]⟩,4,[⟨#[120,46,97]⟩],3,8,false,0,[],[⟨0,3,(1621992312229970116,2200863675130382030),⟨493135561720501702,53138745142054843⟩⟩,⟨1,3,(1621992312229970116,2200863675130382030),⟨694227493511213294,984341331704138812⟩⟩],⟨1050415333436172978,246170491232933132⟩⟩],[⟨0,2,3,[(71937633796637552,541480457554953714)]⟩]⟩,[⟨0,492609940580054112,5,[⟨[0,5],1⟩,⟨[1,5],1⟩,⟨[48,32,2,1,9,12,1,114,12,0,2,1,4,48,5,12,3,120,46,97,2,1,3,2,1,8,1,1,0,2,1,0,48,0],3⟩],[],[]⟩,⟨1,821147353521346255,5,[⟨[48,32,2,1,9,12,1,114,12,0,2,1,4,48,5,12,3,120,46,97,2,1,3,2,1,8,1,1,0,2,1,0,48,0],3⟩],[],[]⟩]⟩
def head0:g_api_Head:=⟨0,3,(1111880991993255973,2159594700541934035),4,⟨52962187583479370,259454068761640249⟩⟩
def cli0:g_api_Client:=⟨⟨#[97,110,110]⟩,[⟨0,⟨#[114]⟩,⟨#[114]⟩,544077478247279056,[],0,100,true,1,[],[],⟨56068977789539995,412945996197367095⟩⟩],[⟨0,1297896941320072711,5⟩,⟨1,1631945290827707310,5⟩],⟨[⟨0,3,(1111880991993255973,2159594700541934035),4,⟨52962187583479370,259454068761640249⟩⟩]⟩,⟨0,[]⟩,0⟩
def cas0:g_api_Cascade:=⟨1,[⟨8,3,16,[98]⟩]⟩
def cli1:g_api_Client:=⟨⟨#[97,110,110]⟩,[⟨0,⟨#[114]⟩,⟨#[114]⟩,544077478247279056,[],0,100,true,1,[],[],⟨56068977789539995,412945996197367095⟩⟩],[⟨0,1297896941320072711,5⟩,⟨1,1631945290827707310,5⟩],⟨[⟨0,3,(1111880991993255973,2159594700541934035),4,⟨52962187583479370,259454068761640249⟩⟩]⟩,⟨1,[⟨8,3,16,[98]⟩]⟩,0⟩
theorem lvq0:Ds 5 ⟨#[120,46,97]⟩ 2=some (shop0,true):=by kernel_rfl
theorem lvq1:(Ab (idx shop0.logs_ 0) fun x=>FY x 0 3 4)=some (head0,0):=by kernel_rfl
theorem lvq2:Ed shop0.c_ head0=some (cli0,0):=by kernel_rfl
theorem lvq3:(F7 ⟨#[]⟩ shop0.c_.Roots shop0.c_.Logs 0).map Prod.snd=some 1:=by kernel_rfl
theorem lvq4:B6 [9] [] 1=some (cas0,0):=by kernel_rfl
theorem lvq5:Cm cli0 cas0=some (cli1,0):=by kernel_rfl
theorem lvq6:(Cm cli1 ⟨0,[]⟩).map Prod.snd=some 190:=by kernel_rfl
theorem lvq7:m_client_Check cli1=some 0:=by kernel_rfl
theorem lvq8:Ak shop0.c_ shop0.o_ ⟨#[120,46,97]⟩ 4=some 240:=by kernel_rfl
theorem lvq9:Ak cli0 shop0.o_ ⟨#[120,46,97]⟩ 4=some 0:=by kernel_rfl
theorem lvqa:Ak cli0 shop0.o_ ⟨#[121,46,97]⟩ 4=some 110:=by kernel_rfl
theorem lvqb:Ak cli0 shop0.o_ ⟨#[120,46,97]⟩ 8=some 190:=by kernel_rfl
theorem lvqc:Ak cli1 shop0.o_ ⟨#[120,46,97]⟩ 4=some 270:=by kernel_rfl
theorem X8:Kv=some true:=by
 unfold Kv;rw[lvq0,Aa,AlG (by decide)];obtain⟨x,hx,h1⟩:=Ae lvq1;obtain⟨⟨z3,e3⟩,h3,rfl⟩:=AlN.1 lvq3;obtain⟨⟨z6,e6⟩,h6,rfl⟩:=AlN.1 lvq6;dsimp only;rw[hx,Aa,h1,Aa];dsimp only;rw[lvq2,Aa];dsimp only;rw[h3,Aa,lvq4,Aa];dsimp only;rw[lvq5,Aa];dsimp only;rw[h6,Aa,lvq7,lvq8,lvq9,lvqa,lvqb,lvqc];rfl
theorem VF {c:g_api_Client}{o:g_api_Offer}{name:ByteArray}{now E:Int}{r}(h:BV FB 6 0 (aSt c o name now (0,0) [])=some r)(q:(∃t,r= .inr (E,t))∨(E=0∧∃s,r= .inl s)):Ak c o name now=some E:=by
 unfold Ak CM;show Ab (Ab (BV FB 6 0 (aSt c o name now (0,0) [])) _) _=_;rw[h,Aa];rcases q with ⟨t,rfl⟩|⟨rfl,s,rfl⟩
 ·rfl
 ·rfl
def V2 (c:g_api_Client)(l:List g_api_Head):g_api_Client:=⟨c.Who,c.Roots,c.Logs,⟨l⟩,c.Cascade,c.View⟩
theorem W4 {c:g_api_Client}(h:m_client_Check c=some 0):Ba ⟨c⟩=some 0∧Hq c.Pool.L c.Logs=0∧AN c.Cascade=some 0:=by
 obtain⟨e1,h1⟩:=Agb ⟨c⟩;obtain⟨e3,h3⟩:=Aa7 c.Cascade;unfold m_client_Check at h;rw[Aio h1 (show Ch ⟨c⟩=some (Hq c.Pool.L c.Logs)from by unfold Ch; rw[R1]; rfl) (show CE ⟨c⟩=some e3 from by unfold CE; rw[h3]; rfl),Aa]at h;have h:=AlC h;by_cases q1:e1=0
 ·rw[AlG (fun k=>k q1)]at h;by_cases q2:Hq c.Pool.L c.Logs=0
  ·rw[AlG (fun k=>k q2)]at h;exact⟨by rw[h1,q1],q2,by rw[h3,h]⟩
  ·rw[AlH q2]at h; exact absurd h q2
 ·rw[AlH q1]at h; exact absurd h q1
theorem Sh {c:g_api_Client}(h1:Ba ⟨c⟩=some 0)(h2:Hq c.Pool.L c.Logs=0)(h3:AN c.Cascade=some 0):m_client_Check c=some 0:=by
 unfold m_client_Check;rw[Aio h1 (show Ch ⟨c⟩=some (Hq c.Pool.L c.Logs)from by unfold Ch; rw[R1]; rfl) (show CE ⟨c⟩=some 0 from by unfold CE; rw[h3]; rfl),h2];rfl
theorem Ac9 (c:g_api_Client)(l:List g_api_Head):Ba ⟨V2 c l⟩=Ba ⟨c⟩:=rfl
theorem AlB {l:List g_api_Head}{h:g_api_Head}{ks:List g_api_Key}(e:(Tb l h ks).2=0):Hq (Tb l h ks).1 ks=0∧hasH (Tb l h ks).1 h∧(∀x∈l,x∈(Tb l h ks).1)∧l.length≤(Tb l h ks).1.length∧(Tb l h ks).1.length≤1024:=by
 by_cases hc:Hq l ks=0
 ·obtain⟨h1,h2,h3⟩:=O8.1 hc;by_cases hr:Ko h ks=true
  ·by_cases hb:AkE l h=true
   ·have hA:Tb l h ks=(l,0):=by unfold Tb; rw[AlH hc,AlH hr,AlH hb]
    rw[hA];exact⟨hc,Vi.1 hb,fun _ q=>q,AlK _,h1⟩
   ·by_cases hl:l.length<1024
    ·have hA:Tb l h ks=(Oi l h,0):=by unfold Tb; rw[AlH hc,AlH hr,AlG hb,AlH hl]
     rw[hA];refine⟨O8.2 ⟨by rw[QE]; omega,YO h2 (fun q=>hb (Vi.2 q)),fun x hx=> ?_⟩,AgC (Oh.2 (.inl rfl)),fun x q=>Oh.2 (.inr q),by rw[QE]; omega,by rw[QE]; omega⟩;rcases Oh.1 hx with q|q
     ·rw[q]; exact hr
     ·exact h3 x q
    ·have hA:Tb l h ks=([],2):=by unfold Tb; rw[AlH hc,AlH hr,AlG hb,AlG hl]
     rw[hA]at e; cases e
  ·have hA:Tb l h ks=([],40):=by unfold Tb; rw[AlH hc,AlG hr]
   rw[hA]at e; cases e
 ·have hA:Tb l h ks=([],Hq l ks):=by unfold Tb; rw[AlG hc]
  rw[hA]at e; exact absurd e hc
theorem AdZ (x:ByteArray):eqS x x=true:=PQ.2 rfl
def fSt (c:g_api_Client)(x:g_api_Cascade):ByteArray×(List g_api_Cert)×(List g_api_Key)×(List g_api_Head)×Int×(List g_api_Sieve)×Int×Int×(List g_api_Sieve):=(c.Who,c.Roots,c.Logs,c.Pool.L,c.Cascade.Day,c.Cascade.Levels,c.View,x.Day,x.Levels)
theorem dy0 {c:g_api_Client}{x:g_api_Cascade}{e:Int}(h:m_client_Check c=some e):(e=0→AL 0 (fSt c x)=some (.inl (fSt c x)))∧(e≠0→∃t,AL 0 (fSt c x)=some (.inr (e,t))):=by
 unfold AL;rw[AlH rfl];have q:Fk c=some (e,c):=by unfold Fk; rw[h]; rfl
 refine⟨fun h0=> ?_,fun h0=> ?_⟩
 ·show Ab (Fk c) _=_;rw[q,Aa,h0]; rfl
 ·show∃t,Ab (Fk c) _=_;rw[q,Aa,AlH (ne0 h0)];exact⟨_,rfl⟩
theorem dy1 {c:g_api_Client}{x:g_api_Cascade}{e:Int}(h:AN x=some e):(e=0→AL 1 (fSt c x)=some (.inl (fSt c x)))∧(e≠0→∃t,AL 1 (fSt c x)=some (.inr (e,t))):=by
 unfold AL;rw[AlG (by decide)];have q:Fj x=some (e,x):=by unfold Fj; rw[h]; rfl
 refine⟨fun h0=> ?_,fun h0=> ?_⟩
 ·show Ab (Fj x) _=_;rw[q,Aa,h0]; rfl
 ·show∃t,Ab (Fj x) _=_;rw[q,Aa,AlH (ne0 h0)];exact⟨_,rfl⟩
def zCli:g_api_Client:=⟨ByteArray.empty,[],[],(⟨[]⟩:g_api_Pool),(⟨0,[]⟩:g_api_Cascade),0⟩
theorem Ak2 {c:g_api_Client}{x:g_api_Cascade}{e f:Int}(h:m_client_Check c=some e)(k:AN x=some f):
  Cm c x=some (if e≠0 then(zCli,e)else if f≠0 then(zCli,f)else if x.Day<c.Cascade.Day then(zCli,190)else(⟨c.Who,c.Roots,c.Logs,c.Pool,x,c.View⟩,0)):=by
 unfold Cm F5;show Ab (Ab (BV AL 2 0 (fSt c x)) _) _=_;by_cases h0:e=0
 ·have r0:=(dy0 (x:=x) h).1 h0;rw[AlG (fun q=>q h0)];by_cases k0:f=0
  ·have r1:=(dy1 (c:=c) k).1 k0;rw[AlG (fun q=>q k0),show BV AL 2 0 (fSt c x)=some (.inl (fSt c x))from(enL r0).trans (enL r1),Aa];show Ab (some (0,c,x)) _=_;rw[Aa];dsimp only;rw[AlG (by decide),Bc];by_cases hd:x.Day<c.Cascade.Day
   ·rw[AlH (AlY hd),AlH hd]; rfl
   ·rw[AlG (fun q=>hd (Amx q)),AlG hd]
  ·obtain⟨t,r1⟩:=(dy1 (c:=c) k).2 k0;rw[AlH k0,show BV AL 2 0 (fSt c x)=some (.inr (f,t))from(enL r0).trans (enR r1),Aa];show Ab (some (f,t)) _=_;rw[Aa,AlH (ne0 k0)]; rfl
 ·obtain⟨t,r0⟩:=(dy0 (x:=x) h).2 h0;rw[AlH h0,show BV AL 2 0 (fSt c x)=some (.inr (e,t))from enR r0,Aa];show Ab (some (e,t)) _=_;rw[Aa,AlH (ne0 h0)]; rfl
def oddB (c:UInt8):Bool:=(decide ((c.toNat:Int)<33))||(decide ((c.toNat:Int)>126))
def whoB (s:ByteArray):Bool:= !((eqS s (⟨#[]⟩:ByteArray))||(decide ((s.size:Int)>64)))&& !(s.data.toList.any oddB)
theorem AiS (l:List UInt8):AP l=some (l.any oddB):=by
 unfold AP BW;obtain⟨r,h1,h2⟩:=Hp (body:=A7 l) l oddB () (fun i=>(i:Int)) (fun i x hx=>by
  unfold A7 Ec oddB;rw[Di hx,Aa,Bc,Aa];cases ((decide ((x.toNat:Int)<33))||(decide ((x.toNat:Int)>126)))<;>rfl)
 rw[h1,Aa];rcases h2 with ⟨j,k,q1,q2,rfl⟩|⟨q,rfl⟩
 ·rw[Xe q1 q2];dsimp only;rw[Aa,ge0]
 ·rw[q]; rfl
theorem sizeL (s:ByteArray):s.data.toList.length=s.size:=rfl
def inB (k:UInt64):Bool:=(Dh k).getD false
theorem in_eqK (k:UInt64):Dh k=some (inB k):=by
 obtain⟨b,hb⟩:=Aew k;unfold inB; rw[hb]; rfl
def AfW (n:Int):Bool:=decide (0≤n)&&decide (n≤1099511627776)
theorem ZS (n:Int):Cx n=some (AfW n):=rfl
def keyB (s:Int)(k:g_api_Key):Bool:=(!decide (k.Log≤s))&&(AfW k.Log&&(AfW k.Delay&&inB k.Key))
def RW:Int→List g_api_Key→Bool
 |_,[]=>true
 |s,k::l=>keyB s k&&RW k.Log l
theorem Zy: ∀(l:List g_api_Key) (i s:Int),∃r,DK Bz l i s=some r∧(if RW s l=true then∃y,r= .inl y else r= .inr 1)
 | [],i,s=>⟨_,rfl,_,rfl⟩
 |x::l,i,s=>by
  have hb:Bz i x s=some (if keyB s x=true then .inl x.Log else .inr 1):=by
   unfold Bz keyB;rw[ZS,ZS,in_eqK];cases decide (x.Log≤s)<;>cases AfW x.Log<;>cases AfW x.Delay<;>cases inB x.Key<;>rfl
  show∃r,Ab (Bz i x s) _=_∧_;unfold RW;rw[hb];cases keyB s x with
  |false=>exact⟨_,rfl,rfl⟩
  |true=>exact Zy l (i+1) x.Log
def Xc (c:g_api_Cert):Bool:=(!c.Ca)||((if c.Ca=true then checkV c else default) !=0)
theorem Als (l:List g_api_Cert):Ay l=some (l.any Xc):=by
 unfold Ay Be;obtain⟨r,h1,h2⟩:=Hp (body:=AM l) l Xc () (fun i=>(i:Int)) (fun i x hx=>by
  unfold AM Eb Xc;rw[Di hx,Aa];have:gu (!(!x.Ca)) (Cn x)=some (if x.Ca=true then checkV x else default):=by
   rw[Ni]; cases x.Ca<;>rfl
  rw[this,Aa,Aa];cases ((!x.Ca)||((if x.Ca=true then checkV x else default) !=0))<;>rfl)
 rw[h1,Aa];rcases h2 with ⟨j,k,q1,q2,rfl⟩|⟨q,rfl⟩
 ·rw[Xe q1 q2];dsimp only;rw[Aa,ge0]
 ·rw[q]; rfl
def Agc (c:g_api_Client):Bool:=whoB c.Who&&(!(((c.Roots.length:Int)==0)||(decide ((c.Roots.length:Int)>8)))&&(!(c.Roots.any Xc)&&(RW (-1) c.Logs&& !((decide ((c.Logs.length:Int)>16))||((c.View !=0)&&(c.View !=1))))))
theorem Aj7 (c:g_api_Client):Ba ⟨c⟩=some (if Agc c=true then 0 else 1):=by
 unfold Ba Agc whoB;dsimp only;cases hw:((eqS c.Who (⟨#[]⟩:ByteArray))||(decide ((c.Who.size:Int)>64)))with
 |true=>rfl
 |false=>
  have hl:c.Who.data.toList.length≤64:=by
   rw[Bool.or_eq_false_iff,decide_eq_false_iff_not]at hw;rw[sizeL]; omega
  rw[AlG (by decide),Eg 1 (by simp only[Al1]; omega) (by simp only[Al1]; omega),Aa,Amc,AiS,Aa,Als];cases c.Who.data.toList.any oddB with
  |true=>rfl
  |false=>
   cases ((c.Roots.length:Int)==0)with
   |true=>rfl
   |false=>
    cases decide ((c.Roots.length:Int)>8)with
    |true=>rfl
    |false=>
     rw[show(!((false||false)||false))=true from rfl,AkG,Aa];cases c.Roots.any Xc with
     |true=>rfl
     |false=>
      rw[AlG (by decide)];obtain⟨r,h1,h2⟩:=Zy c.Logs 0 (-1);rw[h1,Aa];cases hk:RW (-1) c.Logs with
      |false=>
       rw[hk,AlG (by decide)]at h2;subst h2; rfl
      |true=>
       rw[hk,AlH rfl]at h2;obtain⟨y,rfl⟩:=h2;dsimp only;cases ((decide ((c.Logs.length:Int)>16))||((c.View !=0)&&(c.View !=1)))<;>rfl
theorem KF {l:g_api_Log}(h:chk l=0):X0 l=true∧okL (l.L++l.Wait) []=true∧okH l.Hide (-1) (l.L.length:Int)=true∧(l.L++l.Wait).length≤256:=by
 unfold chk at h;cases h0:X0 l with
 |false=>rw[h0]at h; simp at h
 |true=>
  cases h1:okL (l.L++l.Wait) []with
  |false=>rw[h0,h1]at h; simp at h
  |true=>
   cases h2:okH l.Hide (-1) (l.L.length:Int)with
   |false=>rw[h0,h1,h2]at h; simp at h
   |true=>
    rw[h0,h1,h2]at h;simp only[if_true]at h;by_cases h3:256<(l.L++l.Wait).length
    ·rw[AlH h3]at h; cases h
    ·exact⟨rfl,rfl,rfl,by omega⟩
theorem Ael {l:g_api_Log}(h0:X0 l=true)(h1:okL (l.L++l.Wait) []=true)(h2:okH l.Hide (-1) (l.L.length:Int)=true)(h3:(l.L++l.Wait).length≤256):chk l=0:=by
 unfold chk;rw[h0,h1,h2];simp only[if_true];rw[AlG (by omega)]
theorem WC {l:g_api_Log}(h:X0 l=true):1≤l.Key.toNat∧l.Key.toNat<GR∧IZ l.Id=true:=by
 unfold X0 at h;simp only[AlD,Bool.not_eq_true',AlL,decide_eq_false_iff_not]at h;simp only[GR];exact⟨by omega,by omega,h.1.1.1.1⟩
theorem AjT: ∀(xs:List g_api_Leaf) (ks:List (List UInt8)) (x:g_api_Leaf),okL (xs++[x]) ks=(okL xs ks&&(IK x.Body&&IZ x.At&& !decide (x.Body∈ks++xs.map (·.Body)))):=by
 intro xs;induction xs with
 |nil=>intro ks x; simp[okL]
 |cons y xs ih=>
  intro ks x;show((IK y.Body&&IZ y.At&& !decide (y.Body∈ks))&&okL (xs++[x]) (ks++[y.Body]))=(((IK y.Body&&IZ y.At&& !decide (y.Body∈ks))&&okL xs (ks++[y.Body]))&&_);rw[ih,Bool.and_assoc];simp[Bool.and_assoc]
theorem AfU: ∀{xs:List g_api_Leaf} {ks:List (List UInt8)},okL xs ks=true→∀x∈xs,x.Body.length≤2048:=by
 intro xs;induction xs with
 |nil=>intro ks _ x hx; cases hx
 |cons y xs ih=>
  intro ks h x hx;have h':((IK y.Body&&IZ y.At&& !decide (y.Body∈ks))&&okL xs (ks++[y.Body]))=true:=h;rw[AlD,AlD,AlD]at h';rcases Al6.1 hx with rfl|hx
  ·have:=h'.1.1.1;unfold IK at this;simp at this;exact this.2
  ·exact ih h'.2 x hx
theorem AfV: ∀{xs:List Int} {last n m:Int},n≤m→okH xs last n=true→okH xs last m=true:=by
 intro xs;induction xs with
 |nil=>intro last n m _ _; rfl
 |cons x xs ih=>
  intro last n m hnm h;have h':((!decide (x≤last)&& !decide (n≤x))&&okH xs x n)=true:=h;show((!decide (x≤last)&& !decide (m≤x))&&okH xs x m)=true;rw[AlD,AlD]at h'⊢;refine⟨⟨h'.1.1,?_⟩,ih hnm h'.2⟩;have:=h'.1.2;simp at this⊢;omega
def Ke (l:g_api_Log):g_api_Key:=⟨l.Id,Ld l.Key,l.Delay⟩
theorem Aav {l:g_api_Log}(hl:l.L.length+l.Wait.length≤100000)(h:chk l=0):Jg l=some (Ke l,0):=by
 obtain⟨k1,k2,k3⟩:=WC (KF h).1;unfold Jg;rw[Sk hl,Aa,h,AlG (by decide),Ru k1 k2,Aa]; rfl
def JO (l:g_api_Log)(t:Int)(b:List UInt8):g_api_Promise:=⟨l.Id,t,Il b,MD l.Key (UO ⟨l.Id,t,Il b,⟨0,0⟩⟩)⟩
def Xn (l:g_api_Log)(b:List UInt8)(t:Int):g_api_Log:=⟨l.Id,l.Key,l.Delay,l.L,l.Hide,l.Wait++[⟨b,t⟩]⟩
def RI (l:g_api_Log):g_api_Log:=⟨l.Id,l.Key,l.Delay,l.L++l.Wait,l.Hide,[]⟩
theorem YH {l:g_api_Log}{b:List UInt8}{now:Int}(hl:l.L.length+l.Wait.length≤100000)(h:chk l=0)(ha:(IK b&&IZ now)=true)(hj:PO (l.L++l.Wait) b 0=none)(hn:(l.L++l.Wait).length≠256):
  Dc l b now=some (Xn l b now,JO l now b,0):=by
 obtain⟨k1,k2,k3⟩:=WC (KF h).1;rw[AlD]at ha;have hbl:b.length≤600000:=by have:=ha.1; unfold IK at this; simp at this; omega
 have hnil:([]:List g_api_Leaf).length=0:=rfl;have hnb:([]:List UInt8).length=0:=rfl;unfold Dc;rw[Sk hl,Aa,h,AlG (by decide),WH,Aa,GP,ha.1,ha.2];rw[show gu (!!true) (some true)=some true from rfl,Aa,AlG (show¬((!true)||(!true))=true by decide),AeD hl,Aa,Agv (by simp; omega),hj,Aa];dsimp only;rw[AlG (by simp),AlG (by rw[Amp]; omega)];unfold B1 Jq;rw[Eg 32 (by omega) (by omega),Aa,Aa,Eg 1 (by omega) (by omega),Aa,Aa,Amc,Amc,Eg 32 (by simp; omega) (by simp; omega),Aa,RT hbl,Aa,P7,Aa,XE k1 k2 (Wn _),Aa]; rfl
theorem Sj {l:g_api_Log}{b:List UInt8}{now:Int}(h:chk l=0)(ha:(IK b&&IZ now)=true)(hj:PO (l.L++l.Wait) b 0=none)(hn:(l.L++l.Wait).length≠256):chk (Xn l b now)=0:=by
 obtain⟨h0,h1,h2,h3⟩:=KF h;have e:(Xn l b now).L++(Xn l b now).Wait=(l.L++l.Wait)++[⟨b,now⟩]:=by simp[Xn]
 refine Ael h0 ?_ h2 ?_
 ·rw[e,AjT,h1,Ama,Amc];rw[ha,Ama,Bool.not_eq_true',decide_eq_false_iff_not];intro hm;obtain⟨x,hx,hxb⟩:=List.mem_map.1 hm;exact AaS hj x hx hxb
 ·rw[e,AlI]; simp at h3 hn⊢; omega
theorem Aa4 {l:g_api_Log}(h:chk l=0):chk (RI l)=0:=by
 obtain⟨h0,h1,h2,h3⟩:=KF h;have e:(RI l).L++(RI l).Wait=l.L++l.Wait:=by simp[RI]
 refine Ael h0 (by rw[e]; exact h1) ?_ (by rw[e]; exact h3);refine AfV ?_ h2;show(l.L.length:Int)≤((l.L++l.Wait).length:Int);simp; omega
theorem Zo {l:g_api_Log}(hl:l.L.length+l.Wait.length≤100000)(h:chk l=0):Ku l=some (RI l,0):=by
 unfold Ku;rw[Sk hl,Aa,h,AlG (by decide),AeD hl,Aa]; rfl
theorem W6 {l:g_api_Log}{t:Int}{b:List UInt8}(h:X0 l=true)(ht:IZ t=true):C0 (Ke l) (JO l t b)=some 0:=by
 obtain⟨k1,k2,k3⟩:=WC h;have hs:=PR (k:=l.Key) (msg:=UO ⟨l.Id,t,Il b,⟨0,0⟩⟩) k1 k2 (Wn _);have hb:UO (JO l t b)=UO ⟨l.Id,t,Il b,⟨0,0⟩⟩:=by simp only[UO,JO]
 have e1:(JO l t b).Log=l.Id:=by simp only[JO]
 have e2:(JO l t b).At=t:=by simp only[JO]
 have e3:(JO l t b).Sig=MD l.Key (UO ⟨l.Id,t,Il b,⟨0,0⟩⟩):=by simp only[JO]
 have p1:(Ke l).Log=l.Id:=rfl;have p2:(Ke l).Key=Ld l.Key:=rfl;unfold C0 EV;rw[P7,hb,e1,e2,e3,p1,p2,GP,Aa,Aa,GP,Aa,k3,ht,AlG (by decide),AlG (by simp),hs,Aa,Aa]
def I7 (l:g_api_Log)(n:Int)(r:UInt64×UInt64)(t:Int):g_api_Head:=⟨l.Id,n,r,t,MD l.Key (Vh ⟨l.Id,n,r,t,⟨0,0⟩⟩)⟩
theorem W7 {l:g_api_Log}{n t:Int}{r:UInt64×UInt64}(h:X0 l=true)(ht:IZ t=true)(hn:0≤n∧n≤256):CT (Ke l) (I7 l n r t)=some 0:=by
 obtain⟨k1,k2,k3⟩:=WC h;have hs:=PR (k:=l.Key) (msg:=Vh ⟨l.Id,n,r,t,⟨0,0⟩⟩) k1 k2 (RZ _);have hb:Vh (I7 l n r t)=Vh ⟨l.Id,n,r,t,⟨0,0⟩⟩:=by simp only[Vh,I7]
 have e1:(I7 l n r t).Log=l.Id:=by simp only[I7]
 have e2:(I7 l n r t).At=t:=by simp only[I7]
 have e3:(I7 l n r t).Sig=MD l.Key (Vh ⟨l.Id,n,r,t,⟨0,0⟩⟩):=by simp only[I7]
 have e4:(I7 l n r t).Size=n:=by simp only[I7]
 have p1:(Ke l).Log=l.Id:=rfl;have p2:(Ke l).Key=Ld l.Key:=rfl;unfold CT EV;rw[RG,hb,e1,e2,e3,e4,p1,p2,GP,Aa,Aa,GP,Aa,k3,ht,AlY hn.2,AlY (show n≥0 from hn.1),AlG (by decide),AlG (by simp),hs,Aa,Aa]
abbrev Sm:=UInt64×UInt64
def hp (n:Nat):Nat:=2^Nat.log2 (n-1)
theorem AaM {n:Nat}(h:2≤n):hp n<n:=by
 have:=Nat.log2_self_le (n:=n-1) (by omega);unfold hp; omega
theorem TK (n:Nat):0<hp n:=Nat.two_pow_pos _
theorem hp_eq {n j:Nat}(h1:2^j<n)(h2:n≤2^ (j+1)):hp n=2^j:=by
 unfold hp;have:Nat.log2 (n-1)=j:=by
  rw[Nat.log2_eq_iff (by have:=Nat.two_pow_pos j; omega)];omega
 rw[this]
def KL (l:List Sm):Sm:=if h:l.length≤1 then l.headD default else Kf (KL (l.take (hp l.length))) (KL (l.drop (hp l.length)))
termination_by l.length
decreasing_by
 ·have:=AaM (n:=l.length) (by omega); simp; omega
 ·have:=TK l.length; simp; omega
theorem Wi (x:Sm):KL [x]=x:=by rw[KL]; simp
theorem OQ {l:List Sm}(h:2≤l.length):KL l=Kf (KL (l.take (hp l.length))) (KL (l.drop (hp l.length))):=by
 rw[KL]; rw[dif_neg (by omega)]
def FA:List Sm→List Sm
 |x::y::l=>Kf x y::FA l
 |_=> []
theorem Lg: ∀(n:Nat) (l:List Sm),l.length=2*n→(FA l).length=n:=by
 intro n;induction n with
 |zero=>intro l h; have:l=[]:=List.eq_nil_of_length_eq_zero (by omega); subst this; rfl
 |succ n ih=>
  intro l h;match l,h with
  |x::y::l,h=>simp only[FA,AlM]; rw[ih l (by simp at h; omega)]
theorem AaC: ∀(n:Nat) (l:List Sm),l.length=2*n→∀(i:Nat) (a b:Sm),l[2*i]? =some a→l[2*i+1]? =some b→(FA l)[i]? =some (Kf a b):=by
 intro n;induction n with
 |zero=>intro l h i a b ha; have:l=[]:=List.eq_nil_of_length_eq_zero (by omega); subst this; simp at ha
 |succ n ih=>
  intro l h i a b ha hb;match l,h with
  |x::y::l,h=>
   cases i with
   |zero=>simp at ha hb; subst ha; subst hb; rfl
   |succ i=>
    simp only[FA,List.getElem?_cons_succ];exact ih l (by simp at h; omega) i a b (by simpa[Nat.mul_succ]using ha) (by simpa[Nat.mul_succ]using hb)
theorem AaD: ∀(n:Nat) (a b:List Sm),a.length=2*n→FA (a++b)=FA a++FA b:=by
 intro n;induction n with
 |zero=>intro a b h; have:a=[]:=List.eq_nil_of_length_eq_zero (by omega); subst this; rfl
 |succ n ih=>
  intro a b h;match a,h with
  |x::y::l,h=>simp only[FA,AmQ]; rw[ih l b (by simp at h; omega)]
theorem Alu {n:Nat}{l:List Sm}(hl:l.length=2*n)(hn:n≤1000){i:Nat}(hi:i<n):
  CD (n:Int) ((i:Int),(FA l).take i++l.drop i)=some (.inl (((i+1:Nat):Int),(FA l).take (i+1)++l.drop (i+1))):=by
 have hp:=Lg n l hl;have ht:((FA l).take i).length=i:=by simp; omega
 have w1:w64 (2*(i:Int))=((2*i:Nat):Int):=by rw[Bn (by omega) (by omega)]; omega
 have w2:w64 (((2*i:Nat):Int)+1)=((2*i+1:Nat):Int):=by rw[Bn (by omega) (by omega)]; omega
 obtain⟨a,ha⟩: ∃a,l[2*i]? =some a:=⟨l[2*i]'(by omega),by simp⟩;obtain⟨b,hb⟩: ∃b,l[2*i+1]? =some b:=⟨l[2*i+1]'(by omega),by simp⟩;have g: ∀k x,l[i+k]? =some x→((FA l).take i++l.drop i)[i+k]? =some x:=fun k x hx=>by
  rw[List.getElem?_append_right (by omega),ht,Nat.add_sub_cancel_left,List.getElem?_drop]; exact hx
 have i1:idx ((FA l).take i++l.drop i) (((2*i:Nat)):Int)=some a:=Di (by rw[show 2*i=i+i from by omega]at ha⊢; exact g i a ha);have i2:idx ((FA l).take i++l.drop i) (((2*i+1:Nat)):Int)=some b:=Di (by rw[show 2*i+1=i+(i+1)from by omega]at hb⊢; exact g (i+1) b hb);obtain⟨c,hc⟩: ∃c,l[i]? =some c:=⟨l[i]'(by omega),by simp⟩;have i3:idx ((FA l).take i++l.drop i) (i:Int)=some c:=Di (by have:=g 0 c (by simpa using hc); simpa using this);have hpg:=AaC n l hl i a b ha hb;have w3:w64 ((i:Int)+1)=((i+1:Nat):Int):=by rw[Bn (by omega) (by omega)]; rfl
 unfold CD;dsimp only;rw[AlH (AlY (show(i:Int)<(n:Int) by omega))];simp only[w1,i1,Aa,w2,i2,PF,i3,Bc,Amk,w3];refine Al9 (fun z=>some (Sum.inl (((i+1:Nat):Int),z))) ?_;rw[List.set_append_right _ _ (by omega),ht,Nat.sub_self];have hd:l.drop i=c::l.drop (i+1):=by
  have hlt:i<l.length:=by omega
  rw[List.drop_eq_getElem_cons hlt];rw[Amn hlt]at hc;rw[AlC hc]
 rw[hd,List.set_cons_zero,List.take_add_one,hpg];simp
theorem b3_all {n:Nat}{l:List Sm}(hl:l.length=2*n)(hn:n≤1000): ∀(k i m:Nat),i+k=n→k<m→iter (CD (n:Int)) m ((i:Int),(FA l).take i++l.drop i)=some (FA l++l.drop n):=by
 intro k;induction k with
 |zero=>
  intro i m h hm;have:=Lg n l hl;have e:i=n:=by omega
  subst e;obtain⟨m,rfl⟩: ∃q,m=q+1:=⟨m-1,by omega⟩;refine CO ?_;unfold CD;dsimp only;rw[AlG (fun h=>by have:=Amx h; omega),Al8 (by omega)]
 |succ k ih=>
  intro i m h hm;obtain⟨m,rfl⟩: ∃q,m=q+1:=⟨m-1,by omega⟩;rw[Cd (Alu hl hn (show i<n by omega))];exact ih (i+1) m (by omega) (by omega)
theorem b2_of {l s:List Sm}{x y:Int}(h1:(l.length:Int)>1)(h2:w64 (Int.tdiv (l.length:Int) 2)=x)(h3:iter (CD x) Fx (0,l)=some s)(h4:w64 (Int.tdiv (s.length:Int) 2)=y)(h5:0≤y∧y≤(s.length:Int)):
  CY l=some (.inl (s.take y.toNat)):=by
 unfold CY;rw[AlH (AlY h1),h2,Bc,h3,Aa,Aa,h4,Bc,AlH h5]
theorem AdK {n m:Nat}(h:m=2*n)(hn:n≤1000):w64 (Int.tdiv (m:Int) 2)=(n:Int):=by
 subst h;have:Int.tdiv ((2*n:Nat):Int) 2=(n:Int):=by
  rw[Int.tdiv_eq_ediv_of_nonneg (by omega)]; omega
 rw[this,Bn (by omega) (by omega)]
theorem Alv {n:Nat}{l:List Sm}(hl:l.length=2*n)(h1:1≤n)(hn:n≤1000):CY l=some (.inl (FA l)):=by
 have hp:=Lg n l hl;have hb:iter (CD (n:Int)) Fx (0,l)=some (FA l++l.drop n):=by
  have:=b3_all hl hn n 0 Fx (by omega) (by unfold Fx; omega);rw[List.take_zero,List.drop_zero,Amc]at this;exact this
 have hs:(FA l++l.drop n).length=2*n:=by rw[AlI,hp,Amg]; omega
 have:=b2_of (by omega) (AdK hl hn) hb (AdK hs hn) ⟨by omega,by omega⟩;rw[this,Amk,List.take_append_of_le_length (by omega),Al8 (by omega)]
def red:Nat→List Sm→List Sm
 |0,l=>l
 |j+1,l=>red j (FA l)
theorem AjG: ∀(j:Nat) (l:List Sm),red (j+1) l=FA (red j l):=by
 intro j;induction j with
 |zero=>intro l; rfl
 |succ j ih=>intro l; rw[red,ih (FA l)]; rfl
theorem AjH: ∀(j:Nat) (k:Nat) (a b:List Sm),a.length=2^j*k→red j (a++b)=red j a++red j b:=by
 intro j;induction j with
 |zero=>intro k a b _; rfl
 |succ j ih=>
  intro k a b h;have h':a.length=2*(2^j*k):=by rw[h,AmK]; rw[Nat.mul_assoc,AmG 2 k,←Nat.mul_assoc,AmG _ 2]
  rw[red,red,red,AaD _ a b h',ih k _ _ (Lg _ _ h')]
theorem AfC: ∀(j:Nat) (l:List Sm),l.length=2^j→red j l=[KL l]:=by
 intro j;induction j with
 |zero=>
  intro l h;match l,h with
  | [x],_=>rw[Wi]; rfl
 |succ j ih=>
  intro l h;have hpw:=Nat.two_pow_pos j;have h2:l.length=2^j+2^j:=by rw[h,AmK]; omega
  have hh:hp l.length=2^j:=hp_eq (by omega) (by omega);rw[OQ (by omega),hh,AjG];have ea:(l.take (2^j)).length=2^j:=by simp; omega
  have eb:(l.drop (2^j)).length=2^j:=by simp; omega
  have:=AjH j 1 (l.take (2^j)) (l.drop (2^j)) (by rw[ea]; omega);rw[List.take_append_drop]at this;rw[this,ih _ ea,ih _ eb];rfl
theorem Alw: ∀(j:Nat) (l:List Sm),l.length=2^j→j≤9→iter CY (j+1) l=some (red j l):=by
 intro j;induction j with
 |zero=>
  intro l h _;refine CO ?_;simp only[CY];rw[AlG (by simp; omega)]; rfl
 |succ j ih=>
  intro l h hj;have hpw:2^j≤2^8:=Nat.pow_le_pow_right (by omega) (by omega);have hpos:=Nat.two_pow_pos j;have h':l.length=2*2^j:=by rw[h,AmK]; omega
  rw[Cd (Alv h' (by omega) (by omega)),red];exact ih _ (Lg _ _ h') (by omega)
theorem rev_of {α:Type}{b1:Int×Int×List α→Option ((Int×Int×List α)⊕List α)}
  (hb: ∀s1,b1 s1=if(decide (s1.1<s1.2.1))=true then
   Ab (idx s1.2.2 s1.2.1) fun x4=>Ab (idx s1.2.2 s1.1) fun x5=>Ab (idx s1.2.2 s1.1) fun x6=>bnd (s1.2.2.set s1.1.toNat x4) fun x7=>
   Ab (idx x7 s1.2.1) fun x8=>bnd (x7.set s1.2.1.toNat x5) fun x9=>some (.inl ((w64 (s1.1+1)),(w64 (s1.2.1-1)),x9))
   else some (.inr s1.2.2)) (xs:List α) (hn:xs.length≤1000000):
  ∀(k i:Nat) (s:List α),s.length=xs.length→xs.length≤k+i→(∀q,q<xs.length→s[q]? =if q<i∨xs.length≤q+i then xs[xs.length-1-q]? else xs[q]?)→
   iter b1 (k+1) ((i:Int),(xs.length:Int)-1-i,s)=some xs.reverse:=by
 intro k;induction k with
 |zero=>
  intro i s hl hk hq;rw[CO (t:=s)]
  ·refine Al9 some (List.ext_getElem? fun q=> ?_);by_cases h:q<xs.length
   ·rw[hq q h,AlH (by omega),List.getElem?_reverse h]
   ·rw[List.getElem?_eq_none (by omega),List.getElem?_eq_none (by simp; omega)]
  ·rw[hb,AlG (by simp; omega)]
 |succ k ih=>
  intro i s hl hk hq;by_cases hlt:(i:Int)<(xs.length:Int)-1-i
  ·have hj:((xs.length:Int)-1-i)=((xs.length-1-i:Nat):Int):=by omega
   obtain⟨a,ha⟩: ∃a,s[xs.length-1-i]? =some a:=⟨s[xs.length-1-i]'(by omega),by simp⟩;obtain⟨b,hb'⟩: ∃b,s[i]? =some b:=⟨s[i]'(by omega),by simp⟩;have ia:idx s ((xs.length-1-i:Nat):Int)=some a:=Di ha;have ib:idx s (i:Int)=some b:=Di hb';have ha2:(s.set i a)[xs.length-1-i]? =some a:=by rw[List.getElem?_set_ne (by omega)]; exact ha
   have ia2:idx (s.set i a) ((xs.length-1-i:Nat):Int)=some a:=Di ha2;have w1:w64 ((i:Int)+1)=((i+1:Nat):Int):=by rw[Bn (by omega) (by omega)]; omega
   have w2:w64 (((xs.length-1-i:Nat):Int)-1)=(xs.length:Int)-1-((i+1:Nat):Int):=by rw[Bn (by omega) (by omega)]; omega
   rw[Cd (s':=(((i+1:Nat):Int),(xs.length:Int)-1-((i+1:Nat):Int),(s.set i a).set (xs.length-1-i) b))]
   ·refine ih (i+1) _ (by simp[hl]) (by omega) fun q hqq=> ?_;have hqi:=hq i (by omega);have hqj:=hq (xs.length-1-i) (by omega);rw[AlG (by omega)]at hqi hqj;by_cases e1:q=xs.length-1-i
    ·subst e1;rw[List.getElem?_set_self (by simp; omega),AlH (by omega)];rw[show xs.length-1-(xs.length-1-i)=i from by omega,←hqi,hb']
    ·rw[List.getElem?_set_ne (Ne.symm e1)];by_cases e2:q=i
     ·subst e2;rw[List.getElem?_set_self (by omega),AlH (by omega)];rw[←ha,hqj]
     ·rw[List.getElem?_set_ne (Ne.symm e2),hq q hqq];by_cases e3:q<i∨xs.length≤q+i
      ·rw[AlH e3,AlH (by omega)]
      ·rw[AlG e3,AlG (by omega)]
   ·rw[hb,AlH (AlY hlt)];simp only[hj,ia,ib,Aa,Bc,Amk,ia2,w1,w2]
  ·rw[CO (t:=s)]
   ·refine Al9 some (List.ext_getElem? fun q=> ?_);by_cases h:q<xs.length
    ·rw[hq q h,List.getElem?_reverse h];by_cases e3:q<i∨xs.length≤q+i
     ·rw[AlH e3]
     ·rw[AlG e3,show xs.length-1-q=q from by omega]
    ·rw[List.getElem?_eq_none (by omega),List.getElem?_eq_none (by simp; omega)]
   ·rw[hb,AlG (by simpa using hlt)]
theorem AjA (xs:List An)(hn:xs.length≤1000000):Bh xs=some xs.reverse:=by
 have h:=rev_of (b1:=CK) (fun _=>rfl) xs hn xs.length 0 xs rfl (by omega) (fun q hq=>by rw[AlG (by omega)]);have h':=Hm _ h (by omega);have w:w64 ((xs.length:Int)-1)=(xs.length:Int)-1-((0:Nat):Int):=by rw[Bn (by omega) (by omega)]; omega
 unfold Bh;rw[Bc,w];rw[show((0:Int),(xs.length:Int)-1-((0:Nat):Int),xs)=(((0:Nat):Int),(xs.length:Int)-1-((0:Nat):Int),xs)from rfl,h',Aa]
theorem Adi:((List.range 301).all fun n=>match Fm (toU (n:Int))with|some r=>decide (r=(if n=0 then 0 else((Nat.log2 n+1:Nat):Int)))|none=>false)=true:=by kernel_rfl
theorem Adh {n:Nat}(h1:1≤n)(h2:n≤300):Fm (toU (n:Int))=some ((Nat.log2 n+1:Nat):Int):=by
 have h:=AlW.1 Adi n (List.mem_range.2 (by omega));split at h
 ·rename_i r hr;have:=Amx h;rw[AlG (by omega)]at this;rw[hr,this]
 ·cases h
theorem Ah4 {n:Nat}(h1:1≤n)(h2:n≤300):Nat.log2 n≤8:=by
 have:Nat.log2 n<9:=(Nat.log2_lt (by omega)).2 (by omega);omega
theorem AbV {j:Nat}(h:j≤8):UF 1 j=((2^j:Nat):Int):=by
 have e: ∀j,j≤8→UF 1 j=((2^j:Nat):Int):=by decide
 exact e j h
def Ht:Nat→List Sm→List An
 |0,_=> []
 |n+1,l=>if l.length=0 then []else⟨((2^Nat.log2 l.length:Nat):Int),KL (l.take (2^Nat.log2 l.length))⟩::Ht n (l.drop (2^Nat.log2 l.length))
def Aay:List An→An→Option (Bool×List An):=fun s b0=>Ab (AF b0 s) fun y=>some (true,y)
theorem AfO {s:List An}{b:An}(h:s.length≤100000):Aay s b=some (true,s++[b]):=by
 simp only[Aay,AF];rw[Eg 24 (by simp; omega) (by simp; omega)]; rfl
theorem Alx {l:List Sm}{out:List An}(h1:1≤l.length)(h2:l.length≤300)(ho:out.length≤100000):
  CZ Aay (l,out)=some (.inl (l.drop (2^Nat.log2 l.length),out++[⟨((2^Nat.log2 l.length:Nat):Int),KL (l.take (2^Nat.log2 l.length))⟩])):=by
 have hj:=Ah4 h1 h2;have hle:=Nat.log2_self_le (n:=l.length) (by omega);have w1:w64 (((Nat.log2 l.length+1:Nat):Int)-1)=((Nat.log2 l.length:Nat):Int):=by rw[Bn (by omega) (by omega)]; omega
 have hc1:cut l 0 ((2^Nat.log2 l.length:Nat):Int)=some (l.take (2^Nat.log2 l.length)):=by
  have:=NP (xs:=l) (lo:=0) (hi:=2^Nat.log2 l.length) (AmO _) hle;simpa using this
 have hc2:cut l ((2^Nat.log2 l.length:Nat):Int) (l.length:Int)=some (l.drop (2^Nat.log2 l.length)):=by
  rw[NP hle (by omega)]; refine Al9 some ?_; rw[Al8 (by simp)]
 have hcl:BJ (l.take (2^Nat.log2 l.length))=some (l.take (2^Nat.log2 l.length)):=by
  simp only[BJ];rw[Eg 16 (by simp; omega) (by simp; omega)]; rfl
 have hlt:(l.take (2^Nat.log2 l.length)).length=2^Nat.log2 l.length:=by simp; omega
 have hit:=Hm _ (Alw _ _ hlt (by omega)) (by omega);rw[AfC _ _ hlt]at hit;have hix:idx [KL (l.take (2^Nat.log2 l.length))] 0=some (KL (l.take (2^Nat.log2 l.length))):=rfl;unfold CZ;rw[AlH (AlY (by simp; omega))];rw[Adh h1 h2,Aa,w1,AlH (by omega),Bc,Amk,AbV hj,hc1,Aa,hcl,Aa,hit,Aa,Aa,hix,Aa,AfO ho,Aa,AlG (by simp),hc2,Aa]
theorem Aly: ∀(n:Nat) (l:List Sm) (out:List An),l.length≤n→l.length≤300→out.length+n≤100000→
  iter (CZ Aay) (n+1) (l,out)=some (.inl ([],out++Ht n l)):=by
 intro n;induction n with
 |zero=>
  intro l out h _ _;have:l=[]:=List.eq_nil_of_length_eq_zero (by omega);subst this;refine CO ?_;simp only[CZ,Ht,Amf];rfl
 |succ n ih=>
  intro l out h h2 ho;by_cases h0:l.length=0
  ·have:l=[]:=List.eq_nil_of_length_eq_zero h0;subst this;refine CO ?_;simp only[CZ,Ht,Al1,if_true,Amf];rfl
  ·have hp:=Nat.two_pow_pos (Nat.log2 l.length);rw[Cd (Alx (by omega) h2 (by omega)),ih _ _ (by simp; omega) (by simp; omega) (by simp; omega)];simp only[Ht];rw[AlG h0];simp
theorem AaY (l:List Sm)(h:l.length≤300): ∃q,BY l=some (Ht l.length l,q):=by
 have hi:=Hm _ (Aly l.length l [] (by omega) h (by simp; omega)) (by omega);refine⟨[],?_⟩;have hp:E6 Aay l []=some ([],Ht l.length l):=by
  unfold E6;rw[hi,Aa];simp
 have ha:AI [] l=some (Ht l.length l,[]):=by
  unfold AI;show Ab (E6 Aay l []) _=_;rw[hp,Aa]
 unfold BY;rw[ha,Aa]
def AdW:List An→Sm
 | []=>default
 | [p]=>p.root_
 |p::q::ps=>Kf p.root_ (AdW (q::ps))
theorem AdV (p:An): ∀ps:List An,AdW (ps++[p])=ps.foldr (fun q s=>Kf q.root_ s) p.root_:=by
 intro ps;induction ps with
 |nil=>rfl
 |cons q ps ih=>
  cases ps with
  |nil=>rfl
  |cons r ps=>simp only[AmQ,AdW,List.foldr_cons]at ih⊢; rw[ih]
theorem Ajz: ∀(ps:List An) (i:Int) (s:Sm),DP I2 ps i s=some (ps.foldl (fun s q=>Kf q.root_ s) s):=by
 intro ps;induction ps with
 |nil=>intro i s; rfl
 |cons p ps ih=>intro i s; simp only[DP,I2,PF,Aa,List.foldl_cons]; exact ih _ _
theorem XX: ∀(n:Nat) (l:List Sm),l.length≤n→1≤l.length→AdW (Ht n l)=KL l:=by
 intro n;induction n with
 |zero=>intro l h h1; omega
 |succ n ih=>
  intro l h h1;have hle:=Nat.log2_self_le (n:=l.length) (by omega);have hlt:=Nat.lt_log2_self (n:=l.length);have hpw:=Nat.two_pow_pos (Nat.log2 l.length);simp only[Ht];rw[AlG (by omega)];by_cases he:l.length=2^Nat.log2 l.length
  ·have hd:l.drop (2^Nat.log2 l.length)=[]:=Amm (by omega);have ht:l.take (2^Nat.log2 l.length)=l:=Al8 (by omega);rw[hd,ht];have:Ht n ([]:List Sm)=[]:=by cases n<;>simp[Ht]
   rw[this]; rfl
  ·have hh:hp l.length=2^Nat.log2 l.length:=hp_eq (by omega) (by omega);have ih':=ih (l.drop (2^Nat.log2 l.length)) (by simp; omega) (by simp; omega);have hne:Ht n (l.drop (2^Nat.log2 l.length))≠[]:=by
    cases n with
    |zero=>omega
    |succ n=>simp only[Ht]; rw[AlG (by simp; omega)]; simp
   rw[OQ (l:=l) (by omega),hh];obtain⟨q,qs,hq⟩:=List.exists_cons_of_ne_nil hne;rw[hq]at ih'⊢;simp only[AdW];rw[ih']
def SP (l:List Sm):Sm:=if l.length=0 then Abh ⟨#[101,109,112,116,121]⟩ []else KL l
theorem AaB: ∀(n:Nat) (l:List Sm),(Ht n l).length≤n:=by
 intro n;induction n with
 |zero=>intro l; simp[Ht]
 |succ n ih=>intro l; simp only[Ht]; split<;>simp; exact ih _
theorem XM (l:List Sm)(h:l.length≤300):Gu l=some (SP l):=by
 obtain⟨q,hc⟩:=AaY l h;have hlen:=AaB l.length l;unfold Gu SP;rw[show KQ l=some l from rfl,Aa,hc,Aa];by_cases h0:l.length=0
 ·have hl:l=[]:=List.eq_nil_of_length_eq_zero h0;subst hl;rw[AlH (by rfl),AlH (show([]:List Sm).length=0 from rfl),JL _ _ (by decide),Aa]
 ·have hf:=XX l.length l (by omega) (by omega);have hne:Ht l.length l≠[]:=by
   intro e;have hh: ∃n,l.length=n+1:=⟨l.length-1,by omega⟩;obtain⟨n,hn⟩:=hh;rw[hn]at e;simp only[Ht]at e;rw[AlG h0]at e; cases e
  rw[AlG h0];obtain⟨init,last,hil⟩: ∃init last,Ht l.length l=init++[last]:=⟨_,_,(List.dropLast_concat_getLast hne).symm⟩;rw[hil]at hf hlen⊢;rw[AlG (by simp; omega),AjA _ (show(init++[last]).length≤1000000 from by omega),Aa,List.reverse_append,List.reverse_singleton,List.singleton_append];have e1:idx (last::init.reverse) 0=some last:=rfl;have e2:cut (last::init.reverse) 1 ((last::init.reverse).length:Int)=some init.reverse:=by
   have:=NP (xs:=last::init.reverse) (lo:=1) (hi:=(last::init.reverse).length) (by simp) (by omega);rw[show((1:Nat):Int)=1 from rfl]at this;rw[this]; simp[Al8]
  rw[e1,Aa,e2,Aa,show(last.root_.1,last.root_.2)=last.root_ from rfl,Ajz,Aa,Aa,List.foldl_reverse];rw[AdV]at hf;rw[←hf]
def J8 (a l:Nat):List Bool:=if h:l=0 then []else if a%2=1 then true::J8 (a/2) (l/2)else if a=l then J8 (a/2) (l/2)else false::J8 (a/2) (l/2)
termination_by l
decreasing_by all_goals omega
theorem IV (a:Nat):J8 a 0=[]:=by rw[J8]; simp
theorem Ju {a l:Nat}(h:l≠0)(h1:a%2=1):J8 a l=true::J8 (a/2) (l/2):=by rw[J8,dif_neg h,AlH h1]
theorem Nh {a:Nat}(h:a≠0)(h1:a%2=0):J8 a a=J8 (a/2) (a/2):=by rw[J8,dif_neg h,AlG (by omega),AlH rfl]
theorem Iw {a l:Nat}(h:l≠0)(h1:a%2=0)(h2:a≠l):J8 a l=false::J8 (a/2) (l/2):=by rw[J8,dif_neg h,AlG (by omega),AlG h2]
theorem Ak0: ∀(j a l:Nat),a<2^j→2^j≤l→l<2^ (j+1)→J8 a l=J8 a (2^j-1)++[false]:=by
 intro j;induction j with
 |zero=>
  intro a l h1 h2 h3;have ha:a=0:=by simp at h1; omega
  have hl:l=1:=by simp at h2 h3; omega
  subst ha; subst hl;rw[Iw (by omega) (by omega) (by omega)];simp[IV]
 |succ j ih=>
  intro a l h1 h2 h3;have e1:2^ (j+1)=2*2^j:=by rw[AmK]; omega
  have e2:2^ (j+1+1)=2*(2*2^j):=by rw[AmK,e1]; omega
  have hp:=Nat.two_pow_pos j;have:=ih (a/2) (l/2) (by omega) (by omega) (by rw[e1]; omega);by_cases ho:a%2=1
  ·rw[Ju (l:=l) (by omega) ho,Ju (l:=2^ (j+1)-1) (by omega) ho,this,show(2^ (j+1)-1)/2=2^j-1 from by omega]; rfl
  ·rw[Iw (l:=l) (by omega) (by omega) (by omega),Iw (l:=2^ (j+1)-1) (by omega) (by omega) (by omega),this,show(2^ (j+1)-1)/2=2^j-1 from by omega]; rfl
theorem Ak1: ∀(j a l:Nat),2^j≤a→a≤l→l<2^ (j+1)→J8 a l=J8 (a-2^j) (l-2^j)++[true]:=by
 intro j;induction j with
 |zero=>
  intro a l h1 h2 h3;have ha:a=1:=by simp at h1 h3; omega
  have hl:l=1:=by simp at h3; omega
  subst ha; subst hl;rw[Ju (by omega) (by omega)];simp[IV]
 |succ j ih=>
  intro a l h1 h2 h3;have e1:2^ (j+1)=2*2^j:=by rw[AmK]; omega
  have e2:2^ (j+1+1)=2*(2*2^j):=by rw[AmK,e1]; omega
  have hp:=Nat.two_pow_pos j;have:=ih (a/2) (l/2) (by omega) (by omega) (by rw[e1]; omega);have q1:(a-2^ (j+1))/2=a/2-2^j:=by omega
  have q2:(l-2^ (j+1))/2=l/2-2^j:=by omega
  by_cases hz:l=2^ (j+1)
  ·have:a=l:=by omega
   subst this;rw[Nh (by omega) (by omega),this,←q1];rw[show(a-2^ (j+1))=0 from by omega]
  ·by_cases ho:a%2=1
   ·rw[Ju (l:=l) (by omega) ho,Ju (l:=l-2^ (j+1)) (by omega) (by omega),this,q1,q2]; rfl
   ·by_cases he:a=l
    ·subst he;rw[Nh (by omega) (by omega),Nh (a:=a-2^ (j+1)) (by omega) (by omega),this,q1]
    ·rw[Iw (l:=l) (by omega) (by omega) he,Iw (l:=l-2^ (j+1)) (by omega) (by omega) (by omega),this,q1,q2]; rfl
theorem AdH {s:Nat}(h:2≤s): ∃j,hp s=2^j∧2^j<s∧s≤2^ (j+1):=by
 have h1:=Nat.log2_self_le (n:=s-1) (by omega);have h2:=Nat.lt_log2_self (n:=s-1);exact⟨Nat.log2 (s-1),rfl,by omega,by omega⟩
theorem W1 {a s:Nat}(h:2≤s)(ha:a<hp s):J8 a (s-1)=J8 a (hp s-1)++[false]:=by
 obtain⟨j,e,h1,h2⟩:=AdH h;rw[e]at ha⊢;exact Ak0 j a (s-1) ha (by omega) (by omega)
theorem W0 {a s:Nat}(h:2≤s)(ha:hp s≤a)(h':a<s):J8 a (s-1)=J8 (a-hp s) (s-hp s-1)++[true]:=by
 obtain⟨j,e,h1,h2⟩:=AdH h;rw[e]at ha⊢;rw[Ak1 j a (s-1) ha (by omega) (by omega),show s-1-2^j=s-2^j-1 from by omega]
def pop:Nat→Nat→Nat
 |0,_=>0
 |k+1,n=>n%2+pop k (n/2)
theorem pop_up: ∀(k n:Nat),n<2^k→pop (k+1) n=pop k n:=by
 intro k;induction k with
 |zero=>
   intro n h; have:n=0:=by simp at h; omega
   subst this; rfl
 |succ k ih=>
  intro n h;have e1:2^ (k+1)=2*2^k:=by rw[AmK]; omega
  have:=ih (n/2) (by omega);rw[pop,this,pop]
def bits (n:Nat):Nat:=if n=0 then 0 else Nat.log2 n+1
theorem AeC {n:Nat}(h:n≠0):bits n=bits (n/2)+1:=by
 unfold bits;rw[AlG h];by_cases h1:n/2=0
 ·have:n=1:=by omega
  subst this; rfl
 ·rw[AlG h1,Nat.log2_def,AlH (by omega)]
theorem Ae5 (a b:Nat):(a^^^b)/2=a/2^^^b/2:=by
 have:=Nat.shiftRight_xor_distrib (a:=a) (b:=b) (i:=1);rw[Nat.shiftRight_eq_div_pow,Nat.shiftRight_eq_div_pow,Nat.shiftRight_eq_div_pow]at this;exact this
theorem Ae4 {a b:Nat}:a^^^b=0↔a=b:=by
 constructor
 ·intro h;apply Nat.eq_of_testBit_eq;intro i;have:=Al9 (fun x=>Nat.testBit x i) h;simp at this;exact this
 ·intro h; subst h; simp
theorem count: ∀(k a l:Nat),a≤l→l<2^k→bits (a^^^l)+pop k (a>>>bits (a^^^l))=(J8 a l).length:=by
 intro k;induction k with
 |zero=>
  intro a l h1 h2;have:l=0:=by simp at h2; omega
  have:a=0:=by omega
  subst this;subst l;simp[IV,pop,bits]
 |succ k ih=>
  intro a l h1 h2;have e1:2^ (k+1)=2*2^k:=by rw[AmK]; omega
  have:=ih (a/2) (l/2) (by omega) (by omega);by_cases hl:l=0
  ·have:a=0:=by omega
   subst this;subst l;have hz: ∀k,pop k 0=0:=by intro k; induction k with|zero=>rfl|succ k ih=>simp[pop,ih]
   simp[IV,bits,hz]
  ·by_cases he:a=l
   ·subst he;simp only[Nat.xor_self]at this⊢;rw[show bits 0=0 from rfl]at this⊢;simp only[Nat.shiftRight_zero,Amb]at this⊢;rw[pop];by_cases ho:a%2=1
    ·rw[Ju hl ho,AlM,←this]; omega
    ·rw[Nh hl (by omega),←this]; omega
   ·have hx:a^^^l≠0:=fun h=>he (Ae4.1 h);rw[AeC hx,Ae5];have hsh:a>>>(bits (a/2^^^l/2)+1)=(a/2)>>>bits (a/2^^^l/2):=by
     rw[AmM,Nat.shiftRight_add,Nat.shiftRight_eq_div_pow a 1]
    have hlt:(a/2)>>>bits (a/2^^^l/2)<2^k:=by
     have:(a/2)>>>bits (a/2^^^l/2)≤a/2:=by rw[Nat.shiftRight_eq_div_pow]; exact Nat.div_le_self _ _
     omega
    rw[hsh,pop_up _ _ hlt];by_cases ho:a%2=1
    ·rw[Ju hl ho,AlM,←this]; omega
    ·rw[Iw hl (by omega) he,AlM,←this]; omega
theorem AfT:((List.range 301).all fun n=>match Fb (toU (n:Int))with|some r=>decide (r=((pop 9 n:Nat):Int))|none=>false)=true:=by kernel_rfl
theorem AjS {n:Nat}(h2:n≤300):Fb (toU (n:Int))=some ((pop 9 n:Nat):Int):=by
 have h:=AlW.1 AfT n (List.mem_range.2 (by omega));split at h
 ·rename_i r hr;rw[hr,Amx h]
 ·cases h
theorem Agh {n:Nat}(h2:n≤300):Fm (toU (n:Int))=some ((bits n:Nat):Int):=by
 by_cases h:n=0
 ·subst h;have h:=AlW.1 Adi 0 (List.mem_range.2 (by omega));split at h
  ·rename_i r hr;rw[hr,Amx h]; rfl
  ·cases h
 ·rw[Adh (by omega) h2]; unfold bits; rw[AlG h]
theorem Aln {a:Nat}(h:a<18446744073709551616):(BitVec.ofInt 64 (a:Int)).toNat=a:=by
 rw[BitVec.toNat_ofInt]; omega
theorem Ae6 {a b:Nat}(ha:a<512)(hb:b<512):Xj (a:Int) (b:Int)=((a^^^b:Nat):Int):=by
 have:=Nat.xor_lt_two_pow (n:=9) ha hb;unfold Xj;rw[BitVec.toNat_xor,Aln (by omega),Aln (by omega),Bn (by omega) (by omega)]
theorem Pc {a:Nat}(ha:a<512):HZ (a:Int) 1=((a%2:Nat):Int):=by
 unfold HZ;rw[BitVec.toNat_and,Aln (by omega),show(BitVec.ofInt 64 1).toNat=1 from rfl,Nat.and_one_is_mod,Bn (by omega) (by omega)]
theorem Afn {a k:Nat}(hk:k≤64):BA (a:Int) k=((a>>>k:Nat):Int):=by
 unfold BA;rw[Nat.min_eq_left hk,Int.fdiv_eq_ediv_of_nonneg _ (Int.pow_nonneg (by omega)),Nat.shiftRight_eq_div_pow];simp
theorem Alp {n:Nat}(h:n<512):bits n≤9:=by
 unfold bits;split
 ·omega
 ·have:Nat.log2 n<9:=(Nat.log2_lt (by omega)).2 (by omega);omega
theorem xor_lt {a b:Nat}(ha:a≤255)(hb:b≤255):a^^^b≤255:=by
 have:=Nat.xor_lt_two_pow (n:=8) (show a<2^8 by omega) (show b<2^8 by omega);omega
theorem Afk {a s:Nat}(h:a<s)(hs:s≤256): ∃i b:Nat,Ff (a:Int) (s:Int)=some ((i:Int),(b:Int))∧i+b=(J8 a (s-1)).length∧i≤9∧b≤9∧i=bits (a^^^ (s-1)):=by
 have hw:w64 ((s:Int)-1)=((s-1:Nat):Int):=by rw[Bn (by omega) (by omega)]; omega
 have hx:=xor_lt (a:=a) (b:=s-1) (by omega) (by omega);have hb:=Alp (n:=a^^^ (s-1)) (by omega);have hle:a>>>bits (a^^^ (s-1))≤a:=by rw[Nat.shiftRight_eq_div_pow]; exact Nat.div_le_self _ _
 have hpop: ∀k n,pop k n≤k:=by intro k; induction k with|zero=>intro n; simp[pop]|succ k ih=>intro n; have:=ih (n/2); simp only[pop]; omega
 have hp9:=hpop 9 (a>>>bits (a^^^ (s-1)));refine⟨bits (a^^^ (s-1)),pop 9 (a>>>bits (a^^^ (s-1))),?_,count 9 a (s-1) (by omega) (by omega),hb,hp9,rfl⟩;unfold Ff;rw[hw,Ae6 (by omega) (by omega),Agh (by omega),Aa,AlH (by omega),Amk,Afn (by omega),AjS (by omega),Aa]
theorem Vo: ∀(a l:Nat),l≤300→(J8 a l).length≤400:=by
 have: ∀(n a l:Nat),l≤n→(J8 a l).length≤n:=by
  intro n;induction n with
  |zero=>
       intro a l h; have:l=0:=by omega
       subst this; simp[IV]
  |succ n ih=>
   intro a l h;have:=ih (a/2) (l/2) (by omega);rw[J8];split
   ·simp
   ·split
    ·simp; omega
    ·split
     ·omega
     ·simp; omega
 intro a l h;have:=this l a l (AlK _);omega
def goD {σ:Type}(f g:σ→Sm→σ):List Bool→List Sm→σ→σ
 |d::ds,p::ps,x=>goD f g ds ps (if d then f x p else g x p)
 |_,_,x=>x
theorem AkJ {σ:Type}(f g:σ→Sm→σ)(d:Bool)(p:Sm): ∀(ds:List Bool) (ps:List Sm) (x:σ),ds.length=ps.length→goD f g (ds++[d]) (ps++[p]) x=if d then f (goD f g ds ps x) p else g (goD f g ds ps x) p:=by
 intro ds;induction ds with
 |nil=>intro ps x h; have:ps=[]:=List.eq_nil_of_length_eq_zero (by simp at h; exact h.symm); subst this; simp[goD]
 |cons e ds ih=>
  intro ps x h;match ps,h with
  |q::ps,h=>simp only[AmQ,goD]; exact ih ps _ (by simp at h; exact h)
def Abl (ds:List Bool)(ps:List Sm)(x:Sm):Sm:=goD (fun x p=>Kf p x) (fun x p=>Kf x p) ds ps x
theorem WV {a b:Sm}:Na a b=true↔a=b:=by
 obtain⟨a,a'⟩:=a; obtain⟨b,b'⟩:=b;simp[Na]
theorem TN (a:Sm):Na a a=true:=WV.2 rfl
theorem AgY {a b:Sm}(h:a≠b):Na a b=false:=by rw[←Bool.not_eq_true]; exact fun e=>h (WV.1 e)
theorem AkF {n:Nat}(h1:2≤n)(h2:n≤300):HO (n:Int)=some ((hp n:Nat):Int):=by
 have hw:w64 ((n:Int)-1)=((n-1:Nat):Int):=by rw[Bn (by omega) (by omega)]; omega
 have hl:=Ah4 (n:=n-1) (by omega) (by omega);have hw2:w64 (((Nat.log2 (n-1)+1:Nat):Int)-1)=((Nat.log2 (n-1):Nat):Int):=by rw[Bn (by omega) (by omega)]; omega
 unfold HO;rw[hw,Adh (by omega) (by omega),Aa,hw2,AlH (by omega),Bc,Amk,AbV hl]; rfl
theorem cutL {l:List Sm}{k:Nat}(h:k≤l.length):cut l 0 (k:Int)=some (l.take k):=by
 have:=NP (xs:=l) (lo:=0) (hi:=k) (AmO _) h;simpa using this
theorem cutR {l:List Sm}{k:Nat}(h:k≤l.length):cut l (k:Int) (l.length:Int)=some (l.drop k):=by
 rw[NP h (by omega)]; refine Al9 some ?_; rw[Al8 (by simp)]
theorem XN {l:List Sm}(h:1≤l.length):SP l=KL l:=by unfold SP; rw[AlG (by omega)]
def SD (l:List Sm)(a:Nat):List Sm:=if h:l.length≤1 then []else if a<hp l.length then SD (l.take (hp l.length)) a++[KL (l.drop (hp l.length))]else SD (l.drop (hp l.length)) (a-hp l.length)++[KL (l.take (hp l.length))]
termination_by l.length
decreasing_by
 ·have:=AaM (n:=l.length) (by omega); simp; omega
 ·have:=TK l.length; simp; omega
theorem T7 {l:List Sm}(h:l.length≤1)(a:Nat):SD l a=[]:=by rw[SD,dif_pos h]
theorem Xo {l:List Sm}{a:Nat}(h:2≤l.length)(ha:a<hp l.length):SD l a=SD (l.take (hp l.length)) a++[KL (l.drop (hp l.length))]:=by rw[SD,dif_neg (by omega),AlH ha]
theorem Xq {l:List Sm}{a:Nat}(h:2≤l.length)(ha:hp l.length≤a):SD l a=SD (l.drop (hp l.length)) (a-hp l.length)++[KL (l.take (hp l.length))]:=by rw[SD,dif_neg (by omega),AlG (by omega)]
theorem QT: ∀(n:Nat) (l:List Sm) (a:Nat),l.length≤n→a<l.length→(SD l a).length=(J8 a (l.length-1)).length:=by
 intro n;induction n with
 |zero=>intro l a h h1; omega
 |succ n ih=>
  intro l a h h1;by_cases h2:2≤l.length
  ·have hlt:=AaM h2;have hpos:=TK l.length;by_cases ha:a<hp l.length
   ·have:=ih (l.take (hp l.length)) a (by first|omega|(simp; omega)) (by first|omega|(simp; omega));rw[Xo h2 ha,W1 h2 ha];simp only[AlI,List.length_singleton,this,Al0];rw[Nat.min_eq_left (by omega)]
   ·have:=ih (l.drop (hp l.length)) (a-hp l.length) (by first|omega|(simp; omega)) (by first|omega|(simp; omega));rw[Xq h2 (by omega),W0 h2 (by omega) h1];simp only[AlI,List.length_singleton,this,Amg]
  ·rw[T7 (by omega),show l.length-1=0 from by omega,IV]; rfl
theorem Zw {ds:List Bool}{ps:List Sm}(h:ds.length=ps.length)(d:Bool)(p x:Sm):Abl (ds++[d]) (ps++[p]) x=if d then Kf p (Abl ds ps x)else Kf (Abl ds ps x) p:=AkJ _ _ d p ds ps x h
theorem Agj: ∀(n:Nat) (l:List Sm) (a:Nat) (x:Sm),l.length≤n→l[a]? =some x→Abl (J8 a (l.length-1)) (SD l a) x=KL l:=by
 intro n;induction n with
 |zero=>intro l a x h h1; have:l=[]:=List.eq_nil_of_length_eq_zero (by omega); subst this; cases h1
 |succ n ih=>
  intro l a x h h1;have hal:a<l.length:=by
   by_cases q:a<l.length
   ·exact q
   ·rw[List.getElem?_eq_none (by omega)]at h1; cases h1
  by_cases h2:2≤l.length
  ·have hlt:=AaM h2;have hpos:=TK l.length;by_cases ha:a<hp l.length
   ·have e:=ih (l.take (hp l.length)) a x (by first|omega|(simp; omega)) (by rw[List.getElem?_take_of_lt ha]; exact h1);have el:=QT (l.take (hp l.length)).length (l.take (hp l.length)) a (AlK _) (by first|omega|(simp; omega));rw[show(l.take (hp l.length)).length=hp l.length from by simp; omega]at e el;rw[Xo h2 ha,W1 h2 ha,Zw el.symm,e,OQ h2]; rfl
   ·have e:=ih (l.drop (hp l.length)) (a-hp l.length) x (by first|omega|(simp; omega)) (by rw[List.getElem?_drop,show hp l.length+(a-hp l.length)=a from by omega]; exact h1);have el:=QT (l.drop (hp l.length)).length (l.drop (hp l.length)) (a-hp l.length) (AlK _) (by first|omega|(simp; omega));rw[show(l.drop (hp l.length)).length=l.length-hp l.length from by simp]at e el;rw[Xq h2 (by omega),W0 h2 (by omega) hal,Zw el.symm,e,OQ h2]; rfl
  ·match l,hal,h1 with
   | [y],hal,h1=>
    have:a=0:=by simp at hal; omega
    subst this;simp at h1;subst h1;rw[show [y].length-1=0 from rfl,IV,Wi,T7 (by simp)];rfl
   |y::z::l,_,_=>simp at h2
theorem AcE: ∀(n:Nat) (l:List Sm) (a:Nat) (k:List Sm),l.length≤n→a<l.length→l.length≤256→k.length+l.length≤1000→D1 n l (a:Int) k=some (k++SD l a):=by
 intro n;induction n with
 |zero=>intro l a k h h1; omega
 |succ n ih=>
  intro l a k h h1 h3 hk;simp only[D1];by_cases h2:2≤l.length
  ·have hlt:=AaM h2;have hpos:=TK l.length;rw[AlG (by first|omega|(simp; omega)),AkF h2 (by omega),Aa,cutL (by omega),Aa,cutR (by omega),Aa];by_cases ha:a<hp l.length
   ·have:=ih (l.take (hp l.length)) a k (by first|omega|(simp; omega)) (by first|omega|(simp; omega)) (by first|omega|(simp; omega)) (by first|omega|(simp; omega));have hw:=QT _ _ a (AlK (l.take (hp l.length)).length) (by first|omega|(simp; omega));have hwl:(SD (l.take (hp l.length)) a).length≤400:=by
     rw[hw]; exact Vo _ _ (by first|omega|(simp; omega))
    rw[AlG (by first|omega|(simp; omega)),Aa,this,Aa,XM _ (by first|omega|(simp; omega)),Aa,XN (by first|omega|(simp; omega)),Eg 16 (by first|omega|(simp; omega)) (by first|omega|(simp; omega)),Aa,Xo h2 ha];simp
   ·have:=ih (l.drop (hp l.length)) (a-hp l.length) k (by first|omega|(simp; omega)) (by first|omega|(simp; omega)) (by first|omega|(simp; omega)) (by first|omega|(simp; omega));have hw:=QT _ _ (a-hp l.length) (AlK (l.drop (hp l.length)).length) (by first|omega|(simp; omega));have hwl:(SD (l.drop (hp l.length)) (a-hp l.length)).length≤400:=by
     rw[hw]; exact Vo _ _ (by first|omega|(simp; omega))
    have hwi:w64 ((a:Int)-(hp l.length:Nat))=((a-hp l.length:Nat):Int):=by rw[Bn (by omega) (by omega)]; omega
    rw[AlH (by first|omega|(simp; omega)),Aa,hwi,this,Aa,XM _ (by first|omega|(simp; omega)),Aa,XN (by first|omega|(simp; omega)),Eg 16 (by first|omega|(simp; omega)) (by first|omega|(simp; omega)),Aa,Xq h2 (by omega)];simp
  ·rw[AlH (by first|omega|(simp; omega)),T7 (by omega)]; simp
theorem AfG {l:List Sm}{a:Nat}(h:a<l.length)(h3:l.length≤256):Fg l (a:Int)=some (SD l a,0):=by
 unfold Fg;rw[AlG (by first|omega|(simp; omega))];have hF:l.length≤Fx:=by unfold Fx; omega
 have hr:G3 l (a:Int) []=some ([]++SD l a):=by
  unfold G3;revert hF;generalize Fx=n;intro hF;exact AcE n l a [] hF h h3 (by first|omega|(simp; omega))
 rw[hr,Aa,Amc]
def gd (f s:Nat)(Ado:Bool):Bool×List Bool:=if h:s≤1∨f=s then(!Ado,[])else if f≤hp s then((gd f (hp s) Ado).1,(gd f (hp s) Ado).2++[false])else((gd (f-hp s) (s-hp s) false).1,(gd (f-hp s) (s-hp s) false).2++[true])
termination_by s
decreasing_by
 all_goals first|exact AaM (by omega)|(have:=TK s; omega)
theorem AeX {α:Type} [Inhabited α]{c:Bool}(o:Option α)(h:c=true):gu c o=o:=by rw[h]; rfl
theorem gu_f {α:Type} [Inhabited α]{c:Bool}(o:Option α)(h:c=false):gu c o=some default:=by rw[h]; rfl
def hid (hd:List Int)(i:Nat):Bool:=match hd with| []=>false|h::_=>decide (h=(i:Int))
def cur (v h:Bool)(b:List UInt8):UInt64×UInt64:=if(v&&h)=true then Il (0::b)else Il b
def nxt (hd:List Int)(i:Nat):List Int:=if hid hd i=true then hd.tail else hd
def lv (v:Bool):List Int→List g_api_Leaf→Nat→List (UInt64×UInt64)
 |_,[],_=> []
 |hd,x::xs,i=>cur v (hid hd i) x.Body::lv v (nxt hd i) xs (i+1)
theorem Zq (v:Bool): ∀(xs:List g_api_Leaf) (hd:List Int) (i:Nat),(lv v hd xs i).length=xs.length:=by
 intro xs;induction xs with
 |nil=>intro hd i; rfl
 |cons x xs ih=>intro hd i; simp[lv,ih]
theorem Zr: ∀(xs:List g_api_Leaf) (hd:List Int) (i:Nat),lv false hd xs i=xs.map fun x=>Il x.Body:=by
 intro xs;induction xs with
 |nil=>intro hd i; rfl
 |cons x xs ih=>intro hd i; simp[lv,ih,cur]
theorem X9 {l:g_api_Log}{v:Bool}{a1:Int}(hv:(a1==1)=v){i:Nat}{x:g_api_Leaf}(hx:l.L[i]? =some x)(hb:x.Body.length≤2048){hd:List Int}{out:List (UInt64×UInt64)}(ho:out.length≤100000):
  E7 l a1 (i:Int) (hd,out)=some (nxt hd i,out++[cur v (hid hd i) x.Body]):=by
 have hbl:x.Body.length≤600000:=by omega
 have hnil: ∀y:UInt64×UInt64,app 16 out [y]=some (out++[y]):=fun y=>Eg 16 (by simp; omega) (by simp; omega);unfold E7;rw[idx_of hx,Aa];dsimp only;cases hd with
 |nil=>
  have e0:decide ((([]:List Int).length:Int)>0)=false:=rfl;rw[e0,gu_f _ rfl,Aa,AmI,AlG Bool.false_ne_true,Aa,RT hbl,Aa,hnil,Aa];simp[nxt,hid,cur]
 |cons a hd=>
  have e1:idx (a::hd) 0=some a:=rfl;have e0:decide (((a::hd).length:Int)>0)=true:=by first|(simp; done)|(simp; omega)
  rw[e0,AeX _ rfl,e1,Aa,Ama];by_cases ha:a=(i:Int)
  ·have hc:cut (a::hd) 1 ((a::hd).length:Int)=some hd:=by
    have:=NP (xs:=a::hd) (lo:=1) (hi:=(a::hd).length) (by simp) (by omega);rw[show((1:Nat):Int)=1 from rfl]at this;rw[this]; simp[Al8]
   rw[AlH (by simpa using ha),hc,Aa,hv];have hh:hid (a::hd) i=true:=by simp[hid,ha]
   cases v with
   |true=>
    rw[AlH rfl,TQ (by simp; omega),Aa,Aa];dsimp only;have:([[0],x.Body]:List (List UInt8)).flatten=0::x.Body:=by simp
    rw[this,RT (by simp; omega),Aa,hnil,Aa];simp[nxt,hh,cur]
   |false=>
    rw[AlG (by decide),Aa];dsimp only;rw[RT hbl,Aa,hnil,Aa];simp[nxt,hh,cur]
  ·rw[AlG (by simpa using ha),Aa];dsimp only;have hh:hid (a::hd) i=false:=by simp[hid,ha]
   rw[RT hbl,Aa,hnil,Aa];simp[nxt,hh,cur]
theorem AaI {l:g_api_Log}{v:Bool}{a1:Int}(hv:(a1==1)=v)(hb: ∀x∈l.L,x.Body.length≤2048)(hl:l.L.length≤100000): ∀(k i:Nat) (hd:List Int) (out:List (UInt64×UInt64)),i+k=l.L.length→out.length=i→
  ∃hd',CX (E7 l a1) k (i:Int) (hd,out)=some (hd',out++lv v hd (l.L.drop i) i):=by
 intro k;induction k with
 |zero=>
  intro i hd out h ho;have:l.L.drop i=[]:=Amm (by omega);exact⟨hd,by rw[this]; simp[CX,lv]⟩
 |succ k ih=>
  intro i hd out h ho;have hlt:i<l.L.length:=by omega
  have hs:=X9 (l:=l) hv (i:=i) (x:=l.L[i]) (by simp[hlt]) (hb _ (List.getElem_mem hlt)) (hd:=hd) (out:=out) (by omega);obtain⟨hd2,h2⟩:=ih (i+1) (nxt hd i) (out++[cur v (hid hd i) l.L[i].Body]) (by omega) (by simp; omega);refine⟨hd2,?_⟩;simp only[CX,hs,Aa];rw[show(i:Int)+1=((i+1:Nat):Int)from rfl,h2,List.drop_eq_getElem_cons hlt,lv,AlP]; rfl
def CN (v:Bool)(l:g_api_Log):List (UInt64×UInt64):=lv v l.Hide l.L 0
theorem AaJ {l:g_api_Log}(hl:l.L.length+l.Wait.length≤100000)(h:chk l=0)(v:Bool):Jh l (if v=true then 1 else 0)=some (CN v l,0):=by
 obtain⟨h0,h1,h2,h3⟩:=KF h;have hv:((if v=true then(1:Int)else 0)==1)=v:=by cases v<;>rfl
 obtain⟨hd,he⟩:=AaI (l:=l) hv (fun x hx=>AfU h1 x (List.mem_append_left _ hx)) (by omega) l.L.length 0 l.Hide [] (by omega) rfl;have he':CX (E7 l (if v=true then 1 else 0)) l.L.length 0 (l.Hide,[])=_:=he;unfold Jh;rw[Sk hl,Aa,h,AlG (by decide),AlG (by cases v<;>decide),he',Aa,Aa];simp[CN]
theorem okH_up {a b n:Int}: ∀{xs:List Int},okH xs a n=true→(∀x,xs.head? =some x→b<x)→okH xs b n=true:=by
 intro xs h hb;cases xs with
 |nil=>rfl
 |cons x r=>
  simp only[okH,AlD,Bool.not_eq_true',decide_eq_false_iff_not]at h⊢;have:=hb x rfl;exact⟨⟨by omega,h.1.2⟩,h.2⟩
theorem okH_gt {n:Int}: ∀{xs:List Int} {a:Int},okH xs a n=true→∀x∈xs,a<x:=by
 intro xs;induction xs with
 |nil=>intro a _ x hx; cases hx
 |cons y r ih=>
  intro a h x hx;simp only[okH,AlD,Bool.not_eq_true',decide_eq_false_iff_not]at h;rcases Al6.1 hx with e|e
  ·subst e; omega
  ·have:=ih h.2 x e; omega
theorem AkA {n:Int}{hd:List Int}{i:Nat}(h:okH hd ((i:Int)-1) n=true):hid hd i=decide ((i:Int)∈hd):=by
 cases hd with
 |nil=>simp[hid]
 |cons x r=>
  simp only[okH,AlD,Bool.not_eq_true',decide_eq_false_iff_not]at h;simp only[hid];by_cases e:x=(i:Int)
  ·rw[AlY e,AlY (by rw[e]; exact AlZ)]
  ·rw[Aml e,Aml];intro hm;rcases Al6.1 hm with q|q
   ·exact e q.symm
   ·have:=okH_gt h.2 _ q; omega
theorem RH {n:Int}{hd:List Int}{i:Nat}(h:okH hd ((i:Int)-1) n=true):okH (nxt hd i) (((i+1:Nat):Int)-1) n=true:=by
 have e1:((i+1:Nat):Int)-1=(i:Int):=by omega
 rw[e1];unfold nxt;cases hd with
 |nil=>simp[hid,okH]
 |cons x r=>
  have h':=h;simp only[okH,AlD,Bool.not_eq_true',decide_eq_false_iff_not]at h';by_cases e:x=(i:Int)
  ·rw[AlH (by simp[hid,e]),List.tail_cons,←e]; exact h'.2
  ·rw[AlG (by simp[hid,e])];exact okH_up h fun y hy=>by simp at hy; subst hy; omega
theorem AjU {n:Int}{hd:List Int}{i:Nat}(h:okH hd ((i:Int)-1) n=true){j:Nat}(hj:i<j):(j:Int)∈nxt hd i↔(j:Int)∈hd:=by
 unfold nxt;cases hd with
 |nil=>simp[hid]
 |cons x r=>
  by_cases e:x=(i:Int)
  ·rw[AlH (by simp[hid,e]),List.tail_cons,Al6];constructor
   ·exact fun h=> .inr h
   ·rintro(q|q)
    ·omega
    ·exact q
  ·rw[AlG (by simp[hid,e])]
theorem lv_get (v:Bool){n:Int}: ∀(xs:List g_api_Leaf) (hd:List Int) (i k:Nat) (x:g_api_Leaf),okH hd ((i:Int)-1) n=true→xs[k]? =some x→(lv v hd xs i)[k]? =some (cur v (decide (((i+k:Nat):Int)∈hd)) x.Body):=by
 intro xs;induction xs with
 |nil=>intro hd i k x _ hx; simp at hx
 |cons y xs ih=>
  intro hd i k x h hx;cases k with
  |zero=>
   simp at hx; subst hx;show some (cur v (hid hd i) y.Body)=_;rw[AkA h]; rfl
  |succ k=>
   have:=ih (nxt hd i) (i+1) k x (RH h) (by simpa using hx);show(lv v (nxt hd i) xs (i+1))[k]? =_;rw[this];have e1:i+1+k=i+(k+1):=by omega
   rw[e1];have:=AjU h (j:=i+(k+1)) (by omega);simp only[this]
theorem Ya (v:Bool){l:g_api_Log}(h:okH l.Hide (-1) (l.L.length:Int)=true){k:Nat}{x:g_api_Leaf}(hx:l.L[k]? =some x):(CN v l)[k]? =some (cur v (decide ((k:Int)∈l.Hide)) x.Body):=by
 have:=lv_get v l.L l.Hide 0 k x (n:=(l.L.length:Int)) h hx;rw[Amb]at this;exact this
theorem Aeu: ∀{l:List g_api_Cert} {i k:Nat} {c:g_api_Cert},caB i l=true→l[k]? =some c→c.Ca=decide (0<i+k)
 | [],i,k,c,_,h=>by cases h
 |d::r,i,0,c,h,hc=>by
  cases hc;unfold caB at h;rw[AlD]at h;simpa using h.1
 |d::r,i,k+1,c,h,hc=>by
  unfold caB at h;rw[AlD]at h;rw[Aeu h.2 (k:=k) (by simpa using hc)];congr 1;rw[show i+1+k=i+(k+1)from by omega]
theorem AcO {leaf:g_api_Cert}{more roots:List g_api_Cert}(h1:more.length≤3)(h2: ∀c∈leaf::more,checkV c=0)(hk:caB 0 (leaf::more)=true)(hl:linksV (leaf::more)=0)
  (hr:roots.length≤16) (hc: ∀c∈roots,checkV c=0) (name:ByteArray) (now:Int):
  AaA roots (leaf::more) name now=if now<0∨now>1099511627776 then 1 else if nameV name≠0 then nameV name else if(leaf.Names.any fun s=>eqS name s)=false then 110 else
   if((leaf::more).any fun c=> !timeB c now)=true then 190 else P5 (leaf::more) now roots:=by
 have e1:AaU (leaf::more++roots)=0:=(WN _ _ _).2 fun k c hk=>by
  rcases Al5.1 (Amh hk)with q|q
  ·exact h2 c q
  ·exact hc c q
 unfold AaA;rw[e1,hl,AlG (nn0 rfl)];by_cases hb:now<0∨now>1099511627776
 ·have:Nj roots (leaf::more) name now=1:=by
   unfold Nj;rw[AlH];rcases hb with q|q
   ·exact .inr (.inr (.inr (.inl q)))
   ·exact .inr (.inr (.inr (.inr q)))
  rw[this,AlH (by decide),AlH hb]
 ·have:Nj roots (leaf::more) name now=nameV name:=by
   unfold Nj;rw[AlG];rintro(q|q|q|q)
   ·simp at q
   ·simp only[AlM]at q; omega
   ·omega
   ·exact hb q
  rw[this,AlG hb];by_cases hn:nameV name=0
  ·rw[AlG (nn0 hn),AlG (nn0 hn)];have ek:Qc (leaf::more) name now=if(leaf.Names.any fun s=>eqS name s)=false then 110 else if((leaf::more).any fun c=> !timeB c now)=true then 190 else 0:=by
    unfold Qc;rw[hk,AlG (by decide)]
   rw[ek];cases leaf.Names.any fun s=>eqS name s with
   |false=>rfl
   |true=>
    cases (leaf::more).any fun c=> !timeB c now<;>rfl
  ·rw[AlH hn,AlH hn]
theorem TY.rc {roots:List g_api_Cert}{leaf:g_api_Cert}{more:List g_api_Cert}{name:ByteArray}{now:Int}(P:TY roots leaf more name now): ∀c∈roots,checkV c=0:=fun c hc=>P.all c (List.mem_append_right _ hc)
theorem TY.cc {roots:List g_api_Cert}{leaf:g_api_Cert}{more:List g_api_Cert}{name:ByteArray}{now:Int}(P:TY roots leaf more name now): ∀c∈leaf::more,checkV c=0:=fun c hc=>P.all c (List.mem_append_left _ hc)
theorem TY.names {roots:List g_api_Cert}{leaf:g_api_Cert}{more:List g_api_Cert}{name:ByteArray}{now:Int}(P:TY roots leaf more name now): ∀s∈leaf.Names,nameV s=0:=by
 have hC:leaf.Ca=false:=by have:=Aeu P.kin (k:=0) (c:=leaf) rfl; simpa using this
 exact(RQ ((Aa5 (P.cc leaf AlZ)).leaf hC).2.1).2.2
theorem AbD {chain roots:List g_api_Cert}{now:Int}{r:g_api_Cert}(h:r∈roots)(hb:byV chain now r=0):P5 chain now roots=0:=by
 unfold P5;rw[AlH (List.any_eq_true.2 ⟨r,h,by simpa using hb⟩)]
def skK (b:List UInt8):UInt64:=AhT (Abh (⟨#[115,101,99,114,101,116]⟩:ByteArray) [b]) 1152921504606845788+1
theorem Ajb {b:List UInt8}(h:b.length≤1000):Gi b=some (skK b):=by
 unfold Gi;rw[YX (by
  have:VH [b]≤10+b.length:=by simp[VH]
  have e:(⟨#[115,101,99,114,101,116]⟩:ByteArray).data.toList.length=6:=rfl;omega),Aa]
 rfl
theorem Rk (b:List UInt8):1≤(skK b).toNat∧(skK b).toNat<GR:=by
 have h:(AhT (Abh (⟨#[115,101,99,114,101,116]⟩:ByteArray) [b]) 1152921504606845788).toNat<1152921504606845788:=by
  rw[Zl dvR1]; exact AmF _ (by decide)
 unfold skK;rw[UInt64.toNat_add];have e1:(1:UInt64).toNat=1:=rfl;rw[e1,Amu (by omega)];simp only[GR];omega
theorem XF (k:UInt64)(m:List UInt8):sigB (MD k m)=true:=by
 unfold sigB;refine AlY (Ac8 (Aeq _ _ _) ?_);show(addM 1152921504606845789 _ _).toNat<_;rw[Z3 dvR];exact AmF _ (by decide)
def sgS (c:g_api_Cert)(g:g_api_Sig):g_api_Cert:=⟨c.Serial,c.Issuer,c.Subject,c.Key,c.Names,c.From,c.Until,c.Ca,c.Depth,c.Permit,c.Proms,g⟩
theorem Ahh (c:g_api_Cert)(g:g_api_Sig):IX (sgS c g)=IX c:=by
 unfold IX Pb Zd sgS;dsimp only
def sgnS (s:UInt8)(c:g_api_Cert):g_api_Cert:=sgS c (MD (skK [s]) (IX c))
theorem YZ (s:UInt8){c:g_api_Cert}(h:checkV c=0):Fh c s=some (sgnS s c,true):=by
 unfold Fh;rw[ZW (okc h),Aa,Ajb (by simp),Aa];dsimp only;rw[XE (Rk _).1 (Rk _).2 (by have:=Ss (okc h); omega),Aa];rfl
theorem Afo (s:UInt8){c:g_api_Cert}(h:checkV c=0):AeO (Ld (skK [s])) (IX (sgnS s c)) (sgnS s c).Sig=0:=by
 have k:=PR (k:=skK [s]) (msg:=IX c) (Rk _).1 (Rk _).2 (by have:=Ss (okc h); omega);have key: ∀g:g_api_Sig,g=MD (skK [s]) (IX c)→AeO (Ld (skK [s])) (IX (sgS c g)) (sgS c g).Sig=0:=fun g hg=>by
  unfold AeO;rw[Ahh,show(sgS c g).Sig=g from rfl,hg,k];rfl
 exact key _ rfl
structure Sml (c:g_api_Cert):Prop where
 iss:c.Issuer.size≤64∧printB (toL c.Issuer)=true
 sub:c.Subject.size≤64∧printB (toL c.Subject)=true
 nam:c.Names.length≤1∧∀s∈c.Names,s.size≤64∧printB (toL s)=true
 per:c.Permit=[]
 pro:c.Proms.length≤2
theorem Kq (d:Nat)(n:Int):mayB (d+1) (NN n)=true:=by
 show(Qb (AbF (be8 n))&&true&&true)=true;rw[To _ (by simp[be8])]; rfl
theorem RK (d:Nat){s:ByteArray}(h:printB (toL s)=true):mayB (d+1) (LB s)=true:=by
 show(printB (toL s)&&true&&true)=true;rw[h]; rfl
theorem Ac7 (d:Nat)(v:Bool):mayB (d+1) (VA v)=true:=by cases v<;>rfl
theorem Tx (d:Nat){l:List ByteArray}(h: ∀s∈l,printB (toL s)=true):mayB (d+2) (K5 l)=true:=
 RL fun y hy=>by
  obtain⟨s,hs,rfl⟩:=List.mem_map.1 hy;exact RK d (h s hs)
theorem Ac5 (d:Nat)(p:g_api_Promise):mayB (d+2) (Ry p)=true:=RL fun y hy=>by
 simp only[Al6,List.not_mem_nil,or_false]at hy;rcases hy with rfl|rfl|rfl|rfl|rfl|rfl<;>exact Kq _ _
theorem IJ (d:Nat)(l:List g_api_Item):(putB (d+1) (SM l)).length≤4+(l.flatMap (putB d)).length:=by
 have:=Rt d (SM l);have e:(SM l).B.length=0:=rfl;have e2:(SM l).L=l:=rfl;rw[e,e2]at this; omega
theorem Tp (d:Nat){l:List ByteArray}(h:l.length≤1∧∀s∈l,s.size≤64∧printB (toL s)=true):(putB (d+1) (K5 l)).length≤72:=by
 match l,h with
 | [],_=>exact Amv (IJ d []) (by simp)
 | [s],h=>
  refine Amv (IJ d [LB s]) ?_;have:=K6 d (h.2 s (by simp)).1;simp; omega
 |_::_::_,h=>exact absurd h.1 (by simp)
theorem Rx (d:Nat)(p:g_api_Promise):(putB (d+1) (Ry p)).length≤76:=by
 refine Amv (IJ d _) ?_;have i1:=Ek d p.Log;have i2:=Ek d p.At;have i3:=Ek d (w64 (p.Leaf.1.toNat:Int));have i4:=Ek d (w64 (p.Leaf.2.toNat:Int));have i5:=Ek d (w64 (p.Sig.E.toNat:Int));have i6:=Ek d (w64 (p.Sig.S.toNat:Int));show 4+([NN p.Log,NN p.At,NN (w64 (p.Leaf.1.toNat:Int)),NN (w64 (p.Leaf.2.toNat:Int)),NN (w64 (p.Sig.E.toNat:Int)),NN (w64 (p.Sig.S.toNat:Int))].flatMap (putB d)).length≤76;simp only[Ami,List.flatMap_nil,AlI,Al1];omega
theorem Aaw (d:Nat){l:List g_api_Promise}(h:l.length≤2):(putB (d+2) (Rw l)).length≤156:=by
 refine Amv (IJ (d+1) _) ?_;match l,h with
 | [],_=>simp
 | [p],_=>have:=Rx d p; simp; omega
 | [p,q],_=>have:=Rx d p; have:=Rx d q; simp; omega
 |_::_::_::_,h=>exact absurd h (by simp)
theorem Ai8 {c:g_api_Cert}(S:Sml c):mayB 8 (wholeI c)=true:=by
 have hp:mayB 6 (Zd c)=true:=RL fun y hy=>by
  simp only[Al6,List.not_mem_nil,or_false]at hy;rcases hy with rfl|rfl|rfl|rfl|rfl|rfl|rfl|rfl|rfl|rfl
  ·exact Kq _ _
  ·exact RK _ S.iss.2
  ·exact RK _ S.sub.2
  ·exact Kq _ _
  ·exact Tx _ fun s hs=>(S.nam.2 s hs).2
  ·exact Kq _ _
  ·exact Kq _ _
  ·exact Ac7 _ _
  ·exact Kq _ _
  ·exact Tx _ fun s hs=>by rw[S.per]at hs; cases hs
 have hq:mayB 6 (Rw c.Proms)=true:=RL fun y hy=>by
  obtain⟨p,_,rfl⟩:=List.mem_map.1 hy;exact Ac5 _ p
 exact may2 (may2 hp hq) (may2 (Kq _ _) (Kq _ _))
theorem Ai9 {c:g_api_Cert}(S:Sml c):(putB 8 (wholeI c)).length≤2048:=by
 have hp:(putB 6 (Zd c)).length≤400:=by
  refine Amv (IJ 5 _) ?_;have h1:=K6 5 S.iss.1;have h2:=K6 5 S.sub.1;have h3:(putB 5 (K5 c.Names)).length≤72:=Tp 4 S.nam;have h4:(putB 5 (K5 c.Permit)).length≤72:=Tp 4 (by rw[S.per]; exact⟨by simp,fun s h=>by cases h⟩);have i1:=Ek 5 c.Serial;have i2:=Ek 5 (w64 (c.Key.toNat:Int));have i3:=Ek 5 c.From;have i4:=Ek 5 c.Until;have i5:=Ek 5 c.Depth;have b1:=Xb 5 c.Ca;show 4+([NN c.Serial,LB c.Issuer,LB c.Subject,NN (w64 (c.Key.toNat:Int)),K5 c.Names,NN c.From,NN c.Until,VA c.Ca,NN c.Depth,K5 c.Permit].flatMap (putB 5)).length≤400;simp only[Ami,List.flatMap_nil,AlI,Al1];omega
 have hq:(putB 6 (Rw c.Proms)).length≤156:=Aaw 4 S.pro;have hb:(putB 7 (Pb c)).length≤560:=by
  refine Amv (IJ 6 _) ?_;simp only[Ami,List.flatMap_nil,AlI,Al1];omega
 have hs:(putB 7 (SM [TV c.Sig.E,TV c.Sig.S])).length≤28:=by
  refine Amv (IJ 6 _) ?_;have i1:=Ek 6 (w64 (c.Sig.E.toNat:Int));have i2:=Ek 6 (w64 (c.Sig.S.toNat:Int));show 4+([NN (w64 (c.Sig.E.toNat:Int)),NN (w64 (c.Sig.S.toNat:Int))].flatMap (putB 6)).length≤28;simp only[Ami,List.flatMap_nil,AlI,Al1];omega
 refine Amv (IJ 7 _) ?_;simp only[Ami,List.flatMap_nil,AlI,Al1];omega
theorem Wa {c:g_api_Cert}(S:Sml c)(h:formB c=true):checkV c=0:=by
 unfold checkV;rw[AlH h,AlH ⟨Ai8 S,Ai9 S⟩]
def tRS:ByteArray:=⟨#[114]⟩
theorem Ahu:textV tRS=true:=by kernel_rfl
theorem AbM:tRS.size≤64∧printB (toL tRS)=true:=⟨by decide,rfl⟩
def rt0 (s:UInt8):g_api_Cert:=⟨0,tRS,tRS,Ld (skK [s]),[],0,100,true,1,[],[],⟨0,0⟩⟩
def rtK (s:UInt8):g_api_Cert:=sgnS s (rt0 s)
theorem rt_ok (s:UInt8)(g:g_api_Sig)(hg:sigB g=true):checkV (sgS (rt0 s) g)=0:=by
 refine Wa ⟨AbM,AbM,⟨AmO _,fun s h=>by cases h⟩,rfl,AmO _⟩ ?_;have p1:=AcC (skK [s]);have p2:=AhL (skK [s]);simp only[GQ]at p2;show(promsB (-1) []&&(numB 0&&numB 0&&numB 100&&decide ((0:Int)<100))&&(textV tRS&&(!(((Ld (skK [s])).toNat:Int)==0))&&decide (((Ld (skK [s])).toNat:Int)<2305843009213691579)&&decide ((0:Int)≤4)&&sigB g)&&(textV tRS&&true&&true&&true&&true))=true;rw[Ahu,hg,show(((Ld (skK [s])).toNat:Int)==0)=false from by rw[Amj]; omega,AlY (show((Ld (skK [s])).toNat:Int)<2305843009213691579 from by omega)];rfl
theorem rt0_ok (s:UInt8):checkV (rt0 s)=0:=rt_ok s ⟨0,0⟩ (by decide)
theorem Ack (s:UInt8):checkV (rtK s)=0:=rt_ok s _ (XF _ _)
def nXA:ByteArray:=⟨#[120,46,97]⟩
def dr0:g_api_Cert:=⟨9,tRS,ByteArray.empty,4,[nXA],3,8,false,0,[],[],⟨0,0⟩⟩
theorem dr0_eq:Ji (⟨0,[nXA],4,5⟩:Iv) 9 3 tRS=some (dr0,0):=by kernel_rfl
theorem dr0_ok:checkV dr0=0:=by kernel_rfl
def pr0:List UInt8:=Wo dr0
theorem AfL:IK pr0=true:=by kernel_rfl
theorem AjM:Nat.beq pr0.length 2=false:=by kernel_rfl
theorem AjL:pr0.length≠2:=Nat.ne_of_beq_eq_false AjM
theorem AfK:decide ((QL (Il pr0).1 (Il pr0).2).toNat<2305843009213693951)=true:=by kernel_rfl
def le0 (p q:g_api_Promise):g_api_Cert:=⟨9,tRS,ByteArray.empty,4,[nXA],3,8,false,0,[],[p,q],⟨0,0⟩⟩
theorem nXA_ok:listV nameV [nXA] 1 8=true:=by kernel_rfl
theorem le_ok {p q:g_api_Promise}(h:promsB (-1) [p,q]=true)(g:g_api_Sig)(hg:sigB g=true):checkV (sgS (le0 p q) g)=0:=by
 refine Wa ⟨AbM,⟨AmO _,rfl⟩,⟨AlK _,fun s h=>by rw[AmN.1 h]; exact⟨by decide,rfl⟩⟩,rfl,AlK _⟩ ?_;show(promsB (-1) [p,q]&&(numB 9&&numB 3&&numB 8&&decide ((3:Int)<8))&&(textV tRS&&(!(((4:UInt64).toNat:Int)==0))&&decide (((4:UInt64).toNat:Int)<2305843009213691579)&&decide ((([p,q]:List g_api_Promise).length:Int)≤4)&&sigB g)&&(eqS ByteArray.empty (⟨#[]⟩:ByteArray)&&listV nameV [nXA] 1 8&&((0:Int)==0)&&((([]:List ByteArray).length:Int)==0)))=true;rw[h,Ahu,hg,nXA_ok,show(((4:UInt64).toNat:Int)==0)=false from by decide,show decide (((4:UInt64).toNat:Int)<2305843009213691579)=true from by decide,show decide ((([p,q]:List g_api_Promise).length:Int)≤4)=true from by simp];rfl
theorem le_pre (p q:g_api_Promise)(g:g_api_Sig):Wo (sgS (le0 p q) g)=pr0:=rfl
def lgK (id:Int)(b:List UInt8):g_api_Log:=⟨id,skK b,5,[],[],[]⟩
theorem AdJ {id:Int}(h:IZ id=true)(b:List UInt8)(L:List g_api_Leaf)(H:List Int)(W:List g_api_Leaf):X0 ⟨id,skK b,5,L,H,W⟩=true:=by
 obtain⟨k1,k2⟩:=Rk b;simp only[GR]at k2;unfold X0;dsimp only;rw[h,Aml (show¬(skK b).toNat=0 by omega),AlY (show(skK b).toNat<1152921504606845789 by omega)];rfl
theorem Adg {id:Int}(h:IZ id=true)(b:List UInt8):chk (lgK id b)=0:=Ael (AdJ h _ _ _ _) rfl rfl (by simp[lgK])
theorem Ah6 {id:Int}(h:IZ id=true){b:List UInt8}(hb:b.length≤1000):Li id b 5=some (lgK id b,0):=by
 unfold Li;rw[Ajb hb,Aa,Sk (l:=⟨id,skK b,5,[],[],[]⟩) (by simp),Aa,show chk ⟨id,skK b,5,[],[],[]⟩=0 from Adg h b,AlG (by decide)];rfl
def bdK (s:UInt8)(j:Nat):List UInt8:=[toB (j:Int),s]
def wtK (s:UInt8):Nat→List g_api_Leaf
 |0=> []
 |n+1=>wtK s n++[⟨bdK s n,1⟩]
def laK (s:UInt8)(n:Nat):g_api_Log:=⟨0,skK [s,0],5,[],[],wtK s n⟩
theorem QS (s:UInt8): ∀n,(wtK s n).length=n
 |0=>rfl
 |n+1=>by unfold wtK; rw[AlI,QS s n]; rfl
theorem Abo {s:UInt8}: ∀{n:Nat} {x:g_api_Leaf},x∈wtK s n→∃j,j<n∧x.Body=bdK s j
 |0,x,h=>by cases h
 |n+1,x,h=>by
  unfold wtK at h;rcases Al5.1 h with q|q
  ·obtain⟨j,h1,h2⟩:=Abo q;exact⟨j,by omega,h2⟩
  ·rw[AmN]at q; subst q; exact⟨n,AlX _,rfl⟩
theorem Vl: ∀{xs:List g_api_Leaf} {b:List UInt8} {i:Nat},(∀x∈xs,x.Body≠b)→PO xs b i=none
 | [],_,_,_=>rfl
 |x::r,b,i,h=>by
  unfold PO;rw[AlG (h x AlZ)];exact Vl fun y hy=>h y (Al4 _ hy)
theorem Ai2:((List.range 6).all fun i=>(List.range i).all fun j=>toB (j:Int) !=toB (i:Int))=true:=by kernel_rfl
theorem Ai1 {i j:Nat}(hi:i<6)(hj:j<i):toB (j:Int)≠toB (i:Int):=by
 have:=AlW.1 (AlW.1 Ai2 i (List.mem_range.2 hi)) j (List.mem_range.2 hj);simpa using this
theorem Ahs {s:UInt8}{n:Nat}(hn:n<6):PO ((laK s n).L++(laK s n).Wait) (bdK s n) 0=none:=Vl fun x hx=>by
 obtain⟨j,h1,h2⟩:=Abo (show x∈wtK s n from hx);rw[h2];intro q;exact Ai1 hn h1 (List.cons.inj q).1
theorem Ahr {s:UInt8}{n:Nat}:PO ((laK s n).L++(laK s n).Wait) pr0 0=none:=Vl fun x hx=>by
 obtain⟨j,h1,h2⟩:=Abo (show x∈wtK s n from hx);rw[h2];intro q;exact AjL (q▸rfl)
theorem Zx (s:UInt8)(n:Nat):((laK s n).L++(laK s n).Wait).length=n:=QS s n
theorem Akh (s:UInt8){n:Nat}(hn:n≤6):(laK s n).L.length+(laK s n).Wait.length≤90000:=by
 show 0+(wtK s n).length≤_;rw[QS]; omega
theorem WB (s:UInt8): ∀n,n≤6→chk (laK s n)=0
 |0,_=>Adg rfl _
 |n+1,h=>Sj (l:=laK s n) (b:=bdK s n) (now:=1) (WB s n (by omega)) rfl (Ahs (by omega)) (by rw[Zx]; omega)
theorem la_add (s:UInt8){n:Nat}(hn:n<6):Dc (laK s n) (bdK s n) 1=some (laK s (n+1),JO (laK s n) 1 (bdK s n),0):=
 YH (by have:=Akh s (show n≤6 by omega); omega) (WB s n (by omega)) rfl (Ahs hn) (by rw[Zx]; omega)
theorem AeF (s:UInt8){n:Nat}(hn:n≤6):iter (Dx s (n:Int)) Fx (0,0,skK [s,0],5,[],[],[])=some (.inl (0,skK [s,0],5,[],[],wtK s n)):=by
 refine Agp (step:=Dx s (n:Int)) (fun k=>((k:Int),(0:Int),skK [s,0],(5:Int),([]:List g_api_Leaf),([]:List Int),wtK s k)) n 0 Fx (fun k hk=> ?_) ?_ (by unfold Fx; omega)
 ·simp only[Amb];have ha:=la_add s (show k<6 by omega);unfold Dx;dsimp only;rw[AlH (AlY (show(k:Int)<(n:Int) by omega))];show Ab (Dc (laK s k) (bdK s k) 1) _=_;rw[ha,Aa,AlG (show¬((0:Int) !=0)=true from by decide),Bn (by omega) (by omega)];rfl
 ·simp only[Amb];unfold Dx;dsimp only;rw[AlG (fun h=>by have:=Amx h; omega)]
theorem Ah8 {l:g_api_Log}(hl:l.L.length+l.Wait.length≤90000)(h:chk l=0)(i:Int){ks:List g_api_Key}(hk:ks.length≤10):ED i l ks=some (.inl (ks++[Ke l])):=by
 unfold ED;rw[Aav (by omega) h,Aa,AlG (show¬((0:Int) !=0)=true from by decide),Eg 24 (by simp; omega) (by simp; omega),Aa]
theorem Adt {a b:g_api_Log}(la:a.L.length+a.Wait.length≤90000)(lb:b.L.length+b.Wait.length≤90000)(ha:chk a=0)(hb:chk b=0):IN [a,b]=some ([Ke a,Ke b],0):=by
 have h:DK ED [a,b] 0 []=some (.inl [Ke a,Ke b]):=by
  show Ab (ED 0 a []) _=_;rw[Ah8 la ha 0 (by simp),Aa];show Ab (ED (0+1) b ([]++[Ke a])) _=_;rw[Ah8 lb hb _ (by simp),Aa];rfl
 unfold IN;rw[h,Aa]
theorem AiG {l l' x:g_api_Log}{p:g_api_Promise}{k0:List (Int×Bool)}{k:Nat}{ls:List g_api_Log}(hk:ls[k]? =some x)(h:(lkG (eqI l.Id) k0).getD false=false)(ha:Dc l pr0 3=some (l',p,0)):
  De (k:Int) l k0 pr0 3 ls=some (p,true,upG (eqI l.Id) (l.Id,true) k0,pr0,3,ls.set k l'):=by
 unfold De;rw[AlG (by rw[h]; decide),ha,Aa];show Ab (Ab (idx ls (k:Int)) _) _=_;rw[Di hk,Aa,Bc,Aa];rfl
theorem AiQ {a b a' b':g_api_Log}{p q:g_api_Promise}(hi:a.Id=0)(hj:b.Id=1)(ha:Dc a pr0 3=some (a',p,0))(hb:Dc b pr0 3=some (b',q,0)):
  AW [a,b] 2 [] pr0 3 [a,b]=some ([0,1],[p,q],true,upG (eqI b.Id) (b.Id,true) [(a.Id,true)],pr0,3,[a',b']):=by
 have e0:=AiG (l:=a) (k0:=[]) (k:=0) (ls:=[a,b]) rfl rfl ha;have e1:=AiG (l:=b) (k0:=[(a.Id,true)]) (k:=1) (ls:=[a',b]) rfl (by rw[hi,hj]; rfl) hb;have s0:AA [a,b] 2 ([],[],0,[],pr0,3,[a,b])=some (.inl ([0],[p],1,[(a.Id,true)],pr0,3,[a',b])):=by
  unfold AA;dsimp only;rw[AlH (show decide ((0:Int)<(([a,b]:List g_api_Log).length:Int))=true from rfl)];show Ab (some a) _=_;rw[Aa,AlG (show¬((([]:List Int).length:Int)==2)=true from by decide)];show Ab (De ((0:Nat):Int) a [] pr0 3 [a,b]) _=_;rw[e0,Aa,AlG (show¬(!true)=true from by decide),Eg 8 (by decide) (by decide),Aa,Eg 48 (by simp) (by simp),Aa];rfl
 have s1:AA [a,b] 2 ([0],[p],1,[(a.Id,true)],pr0,3,[a',b])=some (.inl ([0,1],[p,q],2,upG (eqI b.Id) (b.Id,true) [(a.Id,true)],pr0,3,[a',b'])):=by
  unfold AA;dsimp only;rw[AlH (show decide ((1:Int)<(([a,b]:List g_api_Log).length:Int))=true from rfl)];show Ab (some b) _=_;rw[Aa,AlG (show¬((([0]:List Int).length:Int)==2)=true from by decide)];show Ab (De ((1:Nat):Int) b [(a.Id,true)] pr0 3 [a',b]) _=_;rw[e1,Aa,AlG (show¬(!true)=true from by decide),Eg 8 (by decide) (by decide),Aa,Eg 48 (by simp) (by simp),Aa];rfl
 have s2:AA [a,b] 2 ([0,1],[p,q],2,upG (eqI b.Id) (b.Id,true) [(a.Id,true)],pr0,3,[a',b'])=some (.inr ([0,1],[p,q],upG (eqI b.Id) (b.Id,true) [(a.Id,true)],pr0,3,[a',b'])):=by
  unfold AA;exact AlG (show¬decide ((2:Int)<(([a,b]:List g_api_Log).length:Int))=true from by simp)
 unfold AW;rw[Hm 3 ((Cd s0).trans ((Cd s1).trans (CO s2))) (by decide),Aa,Aa];rfl
theorem sort2 {p q:g_api_Promise}(hp:p.Log=0)(hq:q.Log=1):Bx [p,q]=some [p,q]:=by
 obtain⟨a,b,c,d⟩:=p;obtain⟨a',b',c',d'⟩:=q;simp only at hp hq;subst hp hq;kernel_rfl
theorem XT {a b a' b':g_api_Log}{p q:g_api_Promise}(hi:a.Id=0)(hj:b.Id=1)(ha:Dc a pr0 3=some (a',p,0))(hb:Dc b pr0 3=some (b',q,0))(hp:p.Log=0)(hq:q.Log=1)(hc:checkV (le0 p q)=0):
  E8 [a,b] dr0 3=some ([a',b'],le0 p q,0):=by
 have hpre:Jy dr0=some (pr0,0):=Aev (okc dr0_ok);unfold E8 Cj;rw[hpre,Aa,AlG (show¬((0:Int) !=0)=true from by decide),Eg 96 (by simp) (by simp),Aa,Aa,Amc];dsimp only;rw[AiQ hi hj ha hb,Aa,AlG (show¬(!true)=true from by decide),sort2 hp hq,Aa];show Ab (Cn (le0 p q)) _=_;rw[Ni,hc,Aa,AlG (show¬((0:Int) !=0)=true from by decide)];rfl
theorem Zc {l:g_api_Log}(h:numB l.Id=true):promBC (JO l 3 pr0)=true:=by
 show(numB l.Id&&numB 3&&decide ((QL (Il pr0).1 (Il pr0).2).toNat<2305843009213693951)&&sigB (MD l.Key _))=true;rw[h,AfK,XF];rfl
theorem WS {l:g_api_Log}{n:Nat}(hl:l.L.length+l.Wait.length≤100000)(h:chk l=0)(hn:n≤l.L.length)(v:Bool):
  IL l (if v=true then 1 else 0) (n:Int)=some ((CN v l).take n,0):=by
 have hll:(CN v l).length=l.L.length:=Zq _ _ _ _;unfold IL;rw[AaJ hl h,Aa];dsimp only;rw[AlG (by decide),AlG (by rw[hll]; simp; omega),AlH (by rw[hll]; omega),Amk]
theorem AcF {l:g_api_Log}{n i:Nat}(hl:l.L.length+l.Wait.length≤100000)(h:chk l=0)(hn:n≤l.L.length)(h256:l.L.length≤256)(hi:i<n)(v:Bool):
  IM l (if v=true then 1 else 0) (i:Int) (n:Int)=some (⟨l.Id,(i:Int),(n:Int),SD ((CN v l).take n) i⟩,0):=by
 have hll:(CN v l).length=l.L.length:=Zq _ _ _ _;have htl:((CN v l).take n).length=n:=by rw[Al0]; omega
 unfold IM;rw[WS hl h hn,Aa];dsimp only;rw[AlG (by decide),AfG (by rw[htl]; exact hi) (by rw[htl]; omega),Aa];dsimp only;rw[AlG (by decide)]
theorem Alf: ∀(n a l:Nat),a≠0→a<2^n→n≤9→a≤l→l<512→
  ∃a' l':Nat,iter Bf (n+1) ((a:Int),(l:Int))=some ((a':Int),(l':Int))∧a'%2=1∧a'≤l'∧l'<512∧(a=l→a'=l'∧J8 a l=J8 a' l')∧(a%2=1→a'=a∧l'=l):=by
 intro n;induction n with
 |zero=>intro a l h h1; simp at h1; omega
 |succ n ih=>
  intro a l h h1 hn hle hl;have e1:2^ (n+1)=2*2^n:=by rw[AmK]; omega
  by_cases ho:a%2=1
  ·refine⟨a,l,CO ?_,ho,hle,hl,fun e=>⟨e,rfl⟩,fun _=>⟨rfl,rfl⟩⟩;simp only[Bf,Pc (show a<512 by omega)];rw[AlG (by simp; omega)]
  ·obtain⟨a',l',h2,h3,h4,h5,h6,h7⟩:=ih (a/2) (l/2) (by omega) (by omega) (by omega) (by omega) (by omega);refine⟨a',l',?_,h3,h4,h5,fun e=> ?_,fun e=>absurd e ho⟩
   ·rw[Cd (s':=(((a/2:Nat):Int),((l/2:Nat):Int)))]
    ·exact h2
    ·simp only[Bf,Pc (show a<512 by omega)];rw[AlH (by simp; omega),AbT (by omega),AbT (by omega)]; rfl
   ·subst e;obtain⟨q1,q2⟩:=h6 rfl;exact⟨q1,by rw[Nh h (by omega)]; exact q2⟩
theorem Alg (i:Int)(x:UInt64×UInt64)(a l:Nat)(s:UInt64×UInt64)(ha:a≤l)(hl:l<512)(hd:J8 a l≠[]):
  ∃(a' l':Nat) (d:Bool),Bg i x ((a:Int),(l:Int),s.1,s.2)=some ((a':Int),(l':Int),(if d then Kf x s else Kf s x).1,(if d then Kf x s else Kf s x).2)∧a'≤l'∧l'<512∧J8 a l=d::J8 a' l':=by
 have hl0:l≠0:=fun e=>hd (by subst e; exact IV a);unfold Bg;by_cases hc:a%2=0∧a≠l
 ·refine⟨a/2,l/2,false,?_,by omega,by omega,Iw hl0 hc.1 hc.2⟩;simp only[Pc (show a<512 by omega)];rw[AlH (by simp; omega)];simp only[G4,PF,Aa];rw[AbT (by omega),AbT (by omega)]; rfl
 ·have ha0:a≠0:=fun e=>by
   subst e;have:(0:Nat)=l:=by
    by_cases e:(0:Nat)=l
    ·exact e
    ·exact absurd ⟨rfl,e⟩ hc
   omega
  obtain⟨a',l',h5,h6,h7,h8,h9,h10⟩:=Alf 9 a l ha0 (by omega) (by omega) ha hl;refine⟨a'/2,l'/2,true,?_,by omega,by omega,?_⟩
  ·simp only[Pc (show a<512 by omega)];rw[AlG (by simp; omega)];simp only[G5,PF,Aa,Hm _ h5 (by omega)];rw[AbT (by omega),AbT (by omega)]; rfl
  ·by_cases ho:a%2=1
   ·obtain⟨q1,q2⟩:=h10 ho;subst q1; subst q2;exact Ju hl0 ho
   ·obtain⟨q1,q2⟩:=h9 (by omega);rw[q2]; exact Ju (by omega) h6
theorem Yx: ∀(ps:List (UInt64×UInt64)) (i:Int) (a l:Nat) (s:UInt64×UInt64),a≤l→l<512→ps.length=(J8 a l).length→
  ∃q1 q2,DP Bg ps i ((a:Int),(l:Int),s.1,s.2)=some (q1,q2,(Abl (J8 a l) ps s).1,(Abl (J8 a l) ps s).2):=by
 intro ps;induction ps with
 |nil=>intro i a l s _ _ h; have:J8 a l=[]:=List.eq_nil_of_length_eq_zero h.symm; rw[this]; exact⟨_,_,rfl⟩
 |cons p ps ih=>
  intro i a l s ha hl h;obtain⟨a',l',d,h5,h6,h7,h8⟩:=Alg i p a l s ha hl (fun e=>by rw[e]at h; cases h);rw[h8]at h⊢;obtain⟨q1,q2,hq⟩:=ih (i+1) a' l' (if d then Kf p s else Kf s p) h6 h7 (by simpa using h);refine⟨q1,q2,?_⟩;show Ab (Bg i p _) _=_;rw[h5,Aa,hq];have e:Abl (d::J8 a' l') (p::ps) s=Abl (J8 a' l') ps (if d then Kf p s else Kf s p):=by
   unfold Abl;rw[goD]
  rw[e]
theorem Aep {a s:Nat}(h:a<s)(hs:s≤256)(leaf:UInt64×UInt64)(ps:List (UInt64×UInt64))(root:UInt64×UInt64)(hl:ps.length<1000000):
  C6 leaf (a:Int) (s:Int) ps root=some (if ps.length=(J8 a (s-1)).length then(if Abl (J8 a (s-1)) ps leaf=root then 0 else 71)else 80):=by
 obtain⟨i,b,h1,h2,h3,h4,_⟩:=Afk h hs;have hw:w64 ((i:Int)+(b:Int))=(((J8 a (s-1)).length:Nat):Int):=by rw[Bn (by omega) (by omega)]; omega
 have hw2:w64 ((s:Int)-1)=((s-1:Nat):Int):=by rw[Bn (by omega) (by omega)]; omega
 unfold C6;rw[AlG (by simp; omega),h1,Aa,hw];by_cases hp:ps.length=(J8 a (s-1)).length
 ·obtain⟨q1,q2,hq⟩:=Yx ps 0 a (s-1) leaf (by omega) (by omega) hp;have hc:C9 (a:Int) (s:Int) ps leaf=some (Abl (J8 a (s-1)) ps leaf):=by
   unfold C9;rw[hw2,hq,Aa]
  rw[AlG (by simp; omega),AlH hp,hc,Aa];by_cases hr:Abl (J8 a (s-1)) ps leaf=root
  ·rw[AlH hr,hr,TN,AlG (by decide)]
  ·rw[AlG hr,AgY hr,AlH (by decide)]
 ·rw[AlG hp,AlH (by simp; omega)]
theorem Aeo {l:g_api_Log}{n i:Nat}(hn:n≤l.L.length)(h256:l.L.length≤256)(hi:i<n)(v:Bool)(root:UInt64×UInt64):
  ∃x,(CN v l)[i]? =some x∧C6 x (i:Int) (n:Int) (SD ((CN v l).take n) i) root=some (if SP ((CN v l).take n)=root then 0 else 71):=by
 have hll:(CN v l).length=l.L.length:=Zq _ _ _ _;have htl:((CN v l).take n).length=n:=by rw[Al0]; omega
 have hil:i<(CN v l).length:=by omega
 have hx:((CN v l).take n)[i]? =some (CN v l)[i]:=by rw[List.getElem?_take,AlH hi]; simp[hil]
 have hw:=QT n ((CN v l).take n) i (by omega) (by omega);have hlead:=Agj n ((CN v l).take n) i (CN v l)[i] (by omega) hx;have hd:=Vo i (n-1) (by omega);rw[htl]at hw hlead;refine⟨(CN v l)[i],by simp[hil],?_⟩;rw[Aep hi (by omega) _ _ _ (by omega),AlH hw,hlead,XN (by omega)]
theorem AgB {l:g_api_Log}{n:Nat}{now:Int}(hl:l.L.length+l.Wait.length≤100000)(h:chk l=0)(hn:n≤l.L.length)(ht:IZ now=true)(v:Bool):
  FY l (if v=true then 1 else 0) (n:Int) now=some (I7 l (n:Int) (SP ((CN v l).take n)) now,0):=by
 obtain⟨h0,h1,h2,h3⟩:=KF h;obtain⟨k1,k2,k3⟩:=WC h0;have hll:(CN v l).length=l.L.length:=Zq _ _ _ _;rw[AlI]at h3;unfold FY;rw[WS hl h hn,Aa];dsimp only;rw[GP,ht];show Ab (Ab (some true) _) _=_;rw[Aa];show Ab (some (0:Int)) _=_;rw[Aa,AlG (by decide),XM _ (by rw[Al0]; omega),Aa,RG,Aa,XE k1 k2 (RZ _),Aa];rfl
def lbK (s:UInt8):g_api_Log:=lgK 1 [s,1]
def pA (s:UInt8)(n:Nat):g_api_Promise:=JO (laK s n) 3 pr0
def pB (s:UInt8):g_api_Promise:=JO (lbK s) 3 pr0
def la1 (s:UInt8)(n:Nat):g_api_Log:=Xn (laK s n) pr0 3
def lb1 (s:UInt8):g_api_Log:=Xn (lbK s) pr0 3
def laM (s:UInt8)(n:Nat):g_api_Log:=RI (la1 s n)
def lbM (s:UInt8):g_api_Log:=RI (lb1 s)
def leK (s:UInt8)(n:Nat):g_api_Cert:=sgnS s (le0 (pA s n) (pB s))
def ksK (s:UInt8)(n:Nat):List g_api_Key:=[Ke (laK s n),Ke (lbK s)]
def wAnn:ByteArray:=⟨#[97,110,110]⟩
def cl0 (s:UInt8)(n:Nat):g_api_Client:=⟨wAnn,[rtK s],ksK s n,⟨[]⟩,⟨0,[]⟩,0⟩
def plK (s:UInt8)(n:Nat):g_api_Place:=⟨0,(n:Int),((n+1:Nat):Int),SD ((CN false (laM s n)).take (n+1)) n⟩
def ofK (s:UInt8)(n:Nat):g_api_Offer:=⟨[leK s n],[plK s n]⟩
def shK (s:UInt8)(n:Nat):Co:=⟨cl0 s n,ofK s n,[laM s n,lbM s]⟩
theorem Wm (s:UInt8)(n:Nat):promsB (-1) [pA s n,pB s]=true:=by
 show(promBC (pA s n)&& !(decide ((0:Int)≤ -1))&&(promBC (pB s)&& !(decide ((1:Int)≤0))&&true))=true;rw[show promBC (pA s n)=true from Zc rfl,show promBC (pB s)=true from Zc rfl];rfl
theorem Adj (s:UInt8)(n:Nat):checkV (le0 (pA s n) (pB s))=0:=le_ok (Wm s n) ⟨0,0⟩ (by decide)
theorem Yb (s:UInt8)(n:Nat):checkV (leK s n)=0:=le_ok (Wm s n) _ (XF _ _)
theorem UP:(IK pr0&&IZ 3)=true:=by rw[AfL]; rfl
theorem Adk (s:UInt8):chk (lbK s)=0:=Adg rfl _
theorem Aki (s:UInt8){n:Nat}(hn:n≤5):Dc (laK s n) pr0 3=some (la1 s n,pA s n,0):=
 YH (by have:=Akh s (show n≤6 by omega); omega) (WB s n (by omega)) UP Ahr (by rw[Zx]; omega)
theorem Akf (s:UInt8):Dc (lbK s) pr0 3=some (lb1 s,pB s,0):=
 YH (by simp[lbK,lgK]) (Adk s) UP rfl (by simp[lbK,lgK])
theorem Adn (s:UInt8){n:Nat}(hn:n≤5):chk (la1 s n)=0:=Sj (WB s n (by omega)) UP Ahr (by rw[Zx]; omega)
theorem Akg (s:UInt8):chk (lb1 s)=0:=Sj (Adk s) UP rfl (by simp[lbK,lgK])
theorem Akj (s:UInt8)(n:Nat):(la1 s n).L.length+(la1 s n).Wait.length=n+1:=by
 show 0+(wtK s n++([⟨pr0,3⟩]:List g_api_Leaf)).length=_;rw[AlI,QS]; simp
theorem U9 (s:UInt8){n:Nat}(hn:n≤5):chk (laM s n)=0:=Aa4 (Adn s hn)
theorem PL (s:UInt8)(n:Nat):(laM s n).L.length=n+1:=by
 show(([]:List g_api_Leaf)++(wtK s n++([⟨pr0,3⟩]:List g_api_Leaf))).length=_;rw[Amc,AlI,QS]; rfl
theorem laM_at (s:UInt8)(n:Nat):(laM s n).L[n]? =some ⟨pr0,3⟩:=by
 show(([]:List g_api_Leaf)++(wtK s n++([⟨pr0,3⟩]:List g_api_Leaf)))[n]? =_;rw[Amc,List.getElem?_append_right (by rw[QS]; omega),QS,Nat.sub_self]; rfl
theorem Ac3 (s:UInt8){n:Nat}(hn:n≤5)(c:g_api_Cert)(e:Int):iter (Cl ([la1 s n,lb1 s],c,e)) Fx (0,[])=some (.inl [laM s n,lbM s]):=by
 have h0:Cl ([la1 s n,lb1 s],c,e) (0,[])=some (.inl (1,[laM s n])):=by
  unfold Cl;dsimp only;rw[AlH (show decide ((0:Int)<2)=true from rfl)];show Ab (some (la1 s n)) _=_;rw[Aa,Zo (by rw[Akj]; omega) (Adn s hn),Aa,AlG (show¬((0:Int) !=0)=true from by decide),Eg 96 (by simp) (by simp),Aa];rfl
 have h1:Cl ([la1 s n,lb1 s],c,e) (1,[laM s n])=some (.inl (2,[laM s n,lbM s])):=by
  unfold Cl;dsimp only;rw[AlH (show decide ((1:Int)<2)=true from rfl)];show Ab (some (lb1 s)) _=_;rw[Aa,Zo (by show 0+1≤_; omega) (Akg s),Aa,AlG (show¬((0:Int) !=0)=true from by decide),Eg 96 (by simp) (by simp),Aa];rfl
 have h2:Cl ([la1 s n,lb1 s],c,e) (2,[laM s n,lbM s])=some (.inr (.inl [laM s n,lbM s])):=by
  unfold Cl;exact AlG (show¬decide ((2:Int)<((2:Nat):Int))=true from by decide)
 exact Hm 3 ((Cd h0).trans ((Cd h1).trans (CO h2))) (by decide)
theorem ann_ok:whoB wAnn=true:=by kernel_rfl
theorem Alj:AN ⟨0,[]⟩=some 0:=by kernel_rfl
theorem AdG (k:UInt64):inB (Ld k)=true:=by unfold inB; rw[in_eq]; rfl
theorem madeG {c:g_api_Client}{r:g_api_Cert}{k l:g_api_Key}(hw:whoB c.Who=true)(hr:c.Roots=[r])(hb:Xc r=false)(hl:c.Logs=[k,l])(hk:RW (-1) [k,l]=true)(hv:c.View=0):Agc c=true:=by
 unfold Agc;rw[hw,hr,hl,hk,hv,List.any_cons,hb];rfl
theorem keys2 (a b:UInt64):RW (-1) [⟨0,Ld a,5⟩,⟨1,Ld b,5⟩]=true:=by
 show((!decide ((0:Int)≤ -1))&&(AfW 0&&(AfW 5&&inB (Ld a)))&&((!decide ((1:Int)≤0))&&(AfW 1&&(AfW 5&&inB (Ld b)))&&true))=true;rw[AdG,AdG]; rfl
theorem Si (s:UInt8)(n:Nat):m_client_Check (cl0 s n)=some 0:=by
 refine Sh ?_ (O8.2 ⟨by simp[cl0],List.Pairwise.nil,by simp[cl0]⟩) Alj;have hb:Xc (rtK s)=false:=by
  unfold Xc;rw[show(rtK s).Ca=true from rfl,AlH rfl,Ack];rfl
 rw[Aj7,madeG (c:=cl0 s n) ann_ok rfl hb rfl (keys2 _ _) rfl];rfl
theorem Af1 (s:UInt8)(n:Nat):F7 wAnn [rtK s] (ksK s n) 0=some (cl0 s n,0):=by
 unfold F7 A4 Ck;rw[Eg 168 (by simp) (by simp),Aa,Aa,Eg 24 (by simp[ksK]) (by simp[ksK]),Aa,Aa];show Ab (m_client_Check (cl0 s n)) _=_;rw[Si,Aa];rfl
theorem AcR (s:UInt8){n:Nat}(hn:n≤5):Ds s nXA (n:Int)=some (shK s n,true):=by
 unfold Ds;rw[Ajb (by simp),Aa,Ru (Rk _).1 (Rk _).2,Aa];show Ab (Fh (rt0 s) s) _=_;rw[YZ s (rt0_ok s),Aa,Ah6 rfl (by simp),Aa,Ah6 rfl (by simp),Aa];show Ab (iter (Dx s (n:Int)) Fx (0,0,skK [s,0],5,[],[],[])) _=_;rw[AeF s (by omega),Aa];show Ab (IN [laK s n,lbK s]) _=_;rw[Adt (Akh s (by omega)) (by simp[lbK,lgK]) (WB s n (by omega)) (Adk s),Aa];show Ab (Ji (⟨0,[nXA],4,5⟩:Iv) 9 3 tRS) _=_;rw[dr0_eq,Aa];show Ab (E8 [laK s n,lbK s] dr0 3) _=_;rw[XT rfl rfl (Aki s hn) (Akf s) rfl rfl (Adj s n),Aa,AlG (show¬(((((((((0:Int) !=0)||(!true))||((0:Int) !=0))||((0:Int) !=0))||((0:Int) !=0))||((0:Int) !=0))||((0:Int) !=0))||((([la1 s n,lb1 s]:List g_api_Log).length:Int) !=2))=true from by simp)];dsimp only;rw[YZ s (Adj s n),Aa,Ac3 s hn,Aa];show Ab (F7 wAnn [rtK s] (ksK s n) 0) _=_;rw[Af1,Aa];show Ab (some (laM s n)) _=_;rw[Aa,show w64 ((n:Int)+1)=((n+1:Nat):Int)from by rw[Bn (by omega) (by omega)]; rfl];show Ab (IM (laM s n) (if false=true then 1 else 0) (n:Int) ((n+1:Nat):Int)) _=_;rw[AcF (by rw[PL]; show n+1+0≤_; omega) (U9 s hn) (by rw[PL]; omega) (by rw[PL]; omega) (AlX n) false,Aa,Bc];rfl
theorem tim3 (c:g_api_Cert)(now:Int):timeB c now=(decide (c.From≤now)&&decide (c.Until>now)):=rfl
theorem pathG {lf r:g_api_Cert}(h1:checkV lf=0)(h2:checkV r=0)(ha:caB 0 [lf]=true)(hk:linksV [lf]=0)(hn:lf.Names=[nXA])(hf:lf.From=3)(hu:lf.Until=8)(hf':r.From=0)(hu':r.Until=100)(hd:r.Depth=1)(hp:r.Permit=[])(hl:OX lf r=0)(name:ByteArray)(now:Int):
  AaA [r] [lf] name now=if now<0∨now>1099511627776 then 1 else if nameV name≠0 then nameV name else if eqS name nXA=false then 110 else if now<3∨now≥8 then 190 else 0:=by
 rw[AcO (leaf:=lf) (more:=[]) (roots:=[r]) (by simp) (fun c hc=>by rw[AmN.1 hc]; exact h1) ha hk (by simp) (fun c hc=>by rw[AmN.1 hc]; exact h2) name now];by_cases h0:now<0∨now>1099511627776
 ·rw[AlH h0,AlH h0]
 rw[AlG h0,AlG h0];by_cases h1:nameV name≠0
 ·rw[AlH h1,AlH h1]
 rw[AlG h1,AlG h1];have e1:(lf.Names.any fun s=>eqS name s)=eqS name nXA:=by
  rw[hn];show(eqS name nXA||false)=_;rw[Bool.or_false]
 have e3:timeB lf now=(decide ((3:Int)≤now)&&decide ((8:Int)>now)):=by rw[tim3,hf,hu]
 have e4:timeB r now=(decide ((0:Int)≤now)&&decide ((100:Int)>now)):=by rw[tim3,hf',hu']
 have e2:([lf].any fun c=> !timeB c now)= !(decide ((3:Int)≤now)&&decide ((8:Int)>now)):=by
  rw[←e3];show(!timeB lf now||false)=_;rw[Bool.or_false]
 rw[e1,e2];cases eqS name nXA with
 |false=>rfl
 |true=>
  rw[AlG (show¬(true=false)from by decide),AlG (show¬(true=false)from by decide)];by_cases h2:now<3∨now≥8
  ·rw[AlH h2,AlH (by rw[show(decide ((3:Int)≤now)&&decide ((8:Int)>now))=false from by rw[Bool.and_eq_false_iff,decide_eq_false_iff_not,decide_eq_false_iff_not]; omega]; rfl)]
  ·rw[AlG h2,AlG (by rw[show(decide ((3:Int)≤now)&&decide ((8:Int)>now))=true from by rw[AlD,AlL,AlL]; omega]; decide)];refine AbD (r:=r) (by simp) ?_;unfold byV;dsimp only;rw[show(([lf]:List g_api_Cert).getLast (by simp))=lf from rfl,hl,AlG (show¬((0:Int)≠0)from by decide),e4,show(decide ((0:Int)≤now)&&decide ((100:Int)>now))=true from by rw[AlD,AlL,AlL]; omega,AlG (show¬(true=false)from by decide)];have ho:XZ lf.Names 0 r=0:=by
    unfold XZ;rw[hd,hp];rfl
   show(if XZ lf.Names 0 r=0 then 0 else XZ lf.Names 0 r)=0;rw[ho];rfl
theorem linkG {a b:g_api_Cert}(h1:checkV a=0)(h2:checkV b=0)(hc:b.Ca=true)(hi:a.Issuer=b.Subject)(hs:AeO b.Key (IX a) a.Sig=0):OX a b=0:=by
 unfold OX;rw[AlG (nn0 h1),AlG (nn0 h2),hc,hi,AdZ,AlG (show¬((!true)||(!true))=true from by decide),hs];rfl
theorem AfP (s:UInt8)(n:Nat)(name:ByteArray)(now:Int):AaA [rtK s] [leK s n] name now=if now<0∨now>1099511627776 then 1 else if nameV name≠0 then nameV name else if eqS name nXA=false then 110 else if now<3∨now≥8 then 190 else 0:=
 pathG (Yb s n) (Ack s) rfl rfl rfl rfl rfl rfl rfl rfl rfl (linkG (Yb s n) (Ack s) rfl rfl (Afo s (Adj s n))) name now
theorem RC (s:UInt8)(n:Nat)(name:ByteArray)(now:Int):m_path_Check [rtK s] [leK s n] name now=some (if now<0∨now>1099511627776 then 1 else if nameV name≠0 then nameV name else if eqS name nXA=false then 110 else if now<3∨now≥8 then 190 else 0):=by
 rw[AjR,AfP]
theorem YD (ks:List g_api_Key)(p:g_api_Promise){i:Nat}{x:g_api_Key}(hx:ks[i]? =some x):
  AO ks (i:Int) (p.Log,p.At,p.Leaf.1,p.Leaf.2,p.Sig.E,p.Sig.S)=some (if(x.Log==p.Log)=true then .inr ((i:Int),p)else .inl (p.Log,p.At,p.Leaf.1,p.Leaf.2,p.Sig.E,p.Sig.S)):=by
 unfold AO Ei;rw[Di hx,Aa,Aa];dsimp only;cases (x.Log==p.Log)<;>rfl
theorem Aky {k l:g_api_Key}{p:g_api_Promise}(h:(k.Log==p.Log)=true):Au [k,l] p=some (0,p):=by
 have b0:=YD [k,l] p (i:=0) (x:=k) rfl;rw[h,AlH rfl]at b0;unfold Au;rw[show BV (AO [k,l]) ([k,l]:List g_api_Key).length 0 (p.Log,p.At,p.Leaf.1,p.Leaf.2,p.Sig.E,p.Sig.S)=some (.inr (((0:Nat):Int),p))from enR b0,Aa];rfl
theorem Akx {k l:g_api_Key}{p:g_api_Promise}(h0:(k.Log==p.Log)=false)(h:(l.Log==p.Log)=true):Au [k,l] p=some (1,p):=by
 have b0:=YD [k,l] p (i:=0) (x:=k) rfl;have b1:=YD [k,l] p (i:=1) (x:=l) rfl;rw[h0,AlG (by decide)]at b0;rw[h,AlH rfl]at b1;unfold Au;rw[show BV (AO [k,l]) ([k,l]:List g_api_Key).length 0 (p.Log,p.At,p.Leaf.1,p.Leaf.2,p.Sig.E,p.Sig.S)=some (.inr (((1:Nat):Int),p))from(enL b0).trans (enR b1),Aa];rfl
theorem Aee {a:Aj}{leaf:UInt64×UInt64}{p:g_api_Promise}{j:Nat}{k:g_api_Key}(i:Int){s:List g_api_Promise}(hs:s.length≤1000)(h1:Au a.Client.Logs p=some ((j:Int),p))(h2:a.Client.Logs[j]? =some k)(h3:p.Leaf=leaf)(h4:C0 k p=some 0):
  BL a leaf i p s=some (s++[p]):=by
 have hl:Na p.Leaf leaf=true:=by rw[h3]; exact TN leaf
 unfold BL;rw[h1,Aa];dsimp only;rw[ge0,Ama,hl,AkG,Di h2,Aa,AkG,h4,Aa,Ama,AlH (by decide),app48 s p (by omega)];rfl
theorem Aem {l:g_api_Log}(h:X0 l=true):C0 (Ke l) (JO l 3 pr0)=some 0:=W6 h rfl
theorem countS (c:g_api_Client)(s:UInt8)(n:Nat)(hk:c.Logs=ksK s n):m_client_asked_counting ⟨c⟩ [pA s n,pB s] (Il pr0)=some [pA s n,pB s]:=by
 have i0:Au c.Logs (pA s n)=some (((0:Nat):Int),pA s n):=by rw[hk]; exact Aky rfl
 have i1:Au c.Logs (pB s)=some (((1:Nat):Int),pB s):=by rw[hk]; exact Akx rfl rfl
 have b0:=Aee (a:=⟨c⟩) (leaf:=Il pr0) (p:=pA s n) (j:=0) (k:=Ke (laK s n)) 0 (s:=[]) (by simp) i0 (by show c.Logs[0]? =_; rw[hk]; rfl) rfl (Aem (AdJ rfl _ _ _ _));have b1:=Aee (a:=⟨c⟩) (leaf:=Il pr0) (p:=pB s) (j:=1) (k:=Ke (lbK s)) (0+1) (s:=[]++[pA s n]) (by simp) i1 (by show c.Logs[1]? =_; rw[hk]; rfl) rfl (Aem (AdJ rfl _ _ _ _));have h:DP (BL ⟨c⟩ (Il pr0)) [pA s n,pB s] 0 []=some [pA s n,pB s]:=by
  show Ab (BL ⟨c⟩ (Il pr0) 0 (pA s n) []) _=_;rw[b0,Aa];show Ab (BL ⟨c⟩ (Il pr0) (0+1) (pB s) ([]++[pA s n])) _=_;rw[b1,Aa];rfl
 unfold m_client_asked_counting;rw[h];rfl
theorem leafS (s:UInt8)(n:Nat):m_cert_Leaf (leK s n)=some (Il pr0,0):=by
 rw[Ahf (okc (Yb s n)),show Wo (leK s n)=pr0 from le_pre _ _ _];rfl
theorem YJ {c:g_api_Client}{o:g_api_Offer}{name:ByteArray}{now e:Int}(h0:m_client_Check c=some 0)(h1:(if(decide (0≤now)&&decide (now≤1099511627776))=true then m_path_Check c.Roots o.Path name now else some 1)=some e)(he:e≠0):Ak c o name now=some e:=by
 have r0:=(fb0 (o:=o) (name:=name) (now:=now) (lf:=(0,0)) (ps:=[]) h0).1 rfl;obtain⟨t,r1⟩:=(fb1 (lf:=(0,0)) (ps:=[]) h1).2 he;exact VF ((enL r0).trans (enR r1)) (.inl ⟨t,rfl⟩)
theorem accS {c:g_api_Client}{o:g_api_Offer}{name:ByteArray}{now:Int}{x:g_api_Cert}{more:List g_api_Cert}{leaf:UInt64×UInt64}{ps:List g_api_Promise}{b:Bool}(h0:m_client_Check c=some 0)(h1:(if(decide (0≤now)&&decide (now≤1099511627776))=true then m_path_Check c.Roots o.Path name now else some 1)=some 0)(ho:o.Path=x::more)(hl:m_cert_Leaf x=some (leaf,0))(h3:m_client_asked_counting ⟨c⟩ x.Proms leaf=some ps)(z3:2≤ps.length)(h5:m_cascade_Has c.Cascade x.Serial=some b):
  Ak c o name now=some (if o.Where.any (showB c ps leaf)=true then(if b=true then 270 else 0)else 240):=by
 have r0:=(fb0 (o:=o) (name:=name) (now:=now) (lf:=(0,0)) (ps:=[]) h0).1 rfl;have r1:=(fb1 (c:=c) (lf:=(0,0)) (ps:=[]) h1).1 rfl;have r2:=(fb2 (c:=c) (name:=name) (now:=now) (lf:=(0,0)) (ps:=[]) ho hl).1 rfl;have r3:=(fb3 (name:=name) (now:=now) (ps:=[]) ho h3).1 z3;have r4:=fb4 (c:=c) (o:=o) (name:=name) (now:=now) (lf:=leaf) (ps:=ps);cases z4:o.Where.any (showB c ps leaf)with
 |true=>
  have r4:=r4.1 z4;have r5:=fb5 (name:=name) (now:=now) (lf:=leaf) (ps:=ps) ho h5;cases b with
  |false=>exact VF ((enL r0).trans ((enL r1).trans ((enL r2).trans ((enL r3).trans ((enL r4).trans (enL (r5.1 rfl))))))) (.inr ⟨rfl,_,rfl⟩)
  |true=>
   obtain⟨t,r5⟩:=r5.2 rfl;exact VF ((enL r0).trans ((enL r1).trans ((enL r2).trans ((enL r3).trans ((enL r4).trans (enR r5)))))) (.inl ⟨t,rfl⟩)
 |false=>
  obtain⟨t,r4⟩:=r4.2 z4;exact VF ((enL r0).trans ((enL r1).trans ((enL r2).trans ((enL r3).trans (enR r4))))) (.inl ⟨t,rfl⟩)
theorem showS (c:g_api_Client)(s:UInt8)(n:Nat):(ofK s n).Where.any (showB c [pA s n,pB s] (Il pr0))=c.Pool.L.any (Vf (Il pr0) (plK s n)):=by
 show(showB c [pA s n,pB s] (Il pr0) (plK s n)||false)=_;unfold showB;rw[Bool.or_false,show([pA s n,pB s].any fun p=>p.Log==(plK s n).Log)=true from rfl,Ama]
theorem heldS {s:UInt8}{n:Nat}(hn:n≤5){h:g_api_Head}(h1:h.Log=0)(h2:h.Size=((n+1:Nat):Int)):Vf (Il pr0) (plK s n) h=decide (SP ((CN false (laM s n)).take (n+1))=h.Root):=by
 have hl:=PL s n;obtain⟨x,e1,e2⟩:=Aeo (l:=laM s n) (n:=n+1) (i:=n) (by omega) (by omega) (AlX n) false h.Root;have hx:x=Il pr0:=by
  have:=Ya false (KF (U9 s hn)).2.2.1 (laM_at s n);rw[e1]at this;exact AlC this
 subst hx;unfold Vf mcV;rw[show(plK s n).At=(n:Int)from rfl,show(plK s n).Size=((n+1:Nat):Int)from rfl,show(plK s n).Proof=SD ((CN false (laM s n)).take (n+1)) n from rfl,e2,h1,h2,show(plK s n).Log=0 from rfl];by_cases q:SP ((CN false (laM s n)).take (n+1))=h.Root
 ·rw[AlH q,AlY q]; simp
 ·rw[AlG q,Aml q]; simp
theorem AeI {c:g_api_Client}{s:UInt8}{n:Nat}(h0:m_client_Check c=some 0)(hr:c.Roots=[rtK s])(hk:c.Logs=ksK s n){b:Bool}(hb:m_cascade_Has c.Cascade 9=some b){now:Int}(hn:3≤now∧now<8):
  Ak c (ofK s n) nXA now=some (if c.Pool.L.any (Vf (Il pr0) (plK s n))=true then(if b=true then 270 else 0)else 240):=by
 have hp:(if(decide (0≤now)&&decide (now≤1099511627776))=true then m_path_Check c.Roots (ofK s n).Path nXA now else some 1)=some 0:=by
  rw[AlH (by rw[AlD,AlL,AlL]; omega),hr];show m_path_Check [rtK s] [leK s n] nXA now=_;rw[RC,AlG (by omega),AlG (by rw[show nameV nXA=0 from by kernel_rfl]; decide),AdZ,AlG (by decide),AlG (by omega)]
 rw[accS (x:=leK s n) (more:=[]) (leaf:=Il pr0) (ps:=[pA s n,pB s]) (b:=b) h0 hp rfl (leafS s n) (countS c s n hk) (AlK _) hb,showS]
theorem tmodS {x:Int}(h:0≤x): ∃n:Nat,Int.tmod x 6=(n:Int)∧n≤5:=by
 have h1:=Int.tmod_nonneg 6 h;have h2:=Int.tmod_lt_of_pos x (show(0:Int)<6 by decide);exact⟨(Int.tmod x 6).toNat,by omega,by omega⟩
theorem logs0S (s:UInt8)(n:Nat):Dd (shK s n)=some (laM s n):=by
 have h: ¬((((shK s n).logs_.length:Int)==0)=true):=show¬((((2:Nat):Int)==0)=true)from by decide
 unfold Dd;rw[AlG h];rfl
theorem fnd_at {α:Type}{p:α→Bool}{x:α}{r:List α}(h:p x=true):fnd p (x::r) 0=some (0,x):=by
 unfold fnd;rw[h]; rfl
theorem rightS {l:g_api_Log}{n t:Int}{r:UInt64×UInt64}{ks:List g_api_Key}(h:X0 l=true)(ht:IZ t=true)(hn:0≤n∧n≤256):Ko (I7 l n r t) (Ke l::ks)=true:=by
 have hc:=W7 (r:=r) h ht hn;rw[Aiv]at hc;have hc:=AlC hc;unfold Ko;rw[fnd_at (x:=Ke l) (r:=ks) (show((Ke l).Log==(I7 l n r t).Log)=true from beq_self_eq_true l.Id)];show(chd (Ke l) (I7 l n r t)==0)=true;rw[hc]; rfl
theorem takeS {c:g_api_Client}{h:g_api_Head}(hc:m_client_Check c=some 0)(hp:c.Pool=⟨[]⟩)(hr:Ko h c.Logs=true):
  Ed c h=some (V2 c [h],0)∧m_client_Check (V2 c [h])=some 0:=by
 have hA:Tb c.Pool.L h c.Logs=([h],0):=by
  rw[hp];unfold Tb;rw[AlH (O8.2 ⟨by simp,List.Pairwise.nil,by simp⟩),AlH hr];rfl
 obtain⟨k1,k2,k3⟩:=W4 hc;refine⟨?_,Sh (c:=V2 c [h]) ((Ac9 c _).trans k1) ?_ k3⟩
 ·unfold Ed;rw[hc,Aa,AlG (show¬((0:Int) !=0)=true from by decide),AkM,hA,Aa];rfl
 ·have:=(AlB (l:=c.Pool.L) (h:=h) (ks:=c.Logs) (by rw[hA])).1;rw[hA]at this;exact this
def hidS (l:g_api_Log)(n:Nat):g_api_Log:=⟨l.Id,l.Key,l.Delay,l.L,[(n:Int)],l.Wait⟩
def dbS (s:UInt8)(n:Nat)(v:Bool):UInt64×UInt64:=SP ((CN v (hidS (laM s n) n)).take (n+1))
theorem W2 (s:UInt8)(n:Nat):dbS s n false=SP ((CN false (laM s n)).take (n+1)):=by
 unfold dbS CN;rw[Zr,Zr,show(hidS (laM s n) n).L=(laM s n).L from rfl]
theorem has0:m_cascade_Has ⟨0,[]⟩ 9=some false:=by kernel_rfl
theorem YI {c:g_api_Client}{s:UInt8}{n:Nat}{h:g_api_Head}(hn:n≤5)(h0:m_client_Check c=some 0)(hr:c.Roots=[rtK s])(hk:c.Logs=ksK s n)(hp:c.Pool=⟨[h]⟩){b:Bool}(hb:m_cascade_Has c.Cascade 9=some b)(h1:h.Log=0)(h2:h.Size=((n+1:Nat):Int)){now:Int}(ht:3≤now∧now<8):
  Ak c (ofK s n) nXA now=some (if dbS s n false=h.Root then(if b=true then 270 else 0)else 240):=by
 rw[AeI h0 hr hk hb ht,hp,show(⟨[h]⟩:g_api_Pool).L=[h]from rfl,List.any_cons,List.any_nil,Bool.or_false,heldS hn h1 h2,←W2];by_cases q:dbS s n false=h.Root
 ·rw[AlH (AlY q),AlH q]
 ·rw[AlG (by rw[AlL]; exact q),AlG q]
end Go.Proofs.YtnhdojckpcbjeaaGreatDoor
end
