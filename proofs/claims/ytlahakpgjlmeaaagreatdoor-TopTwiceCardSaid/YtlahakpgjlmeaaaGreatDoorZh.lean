/- Several texts, one behind the other. Conditions: none. -/
import Derived.Test.YtlahakpgjlmeaaaGreatDoorZf
import Derived.Test.YtlahakpgjlmeaaaGreatDoorZg
import Derived.Shelf.Strings.SlTrimAscii
import Derived.Shelf.Bytes.SlTrim
import Derived.Shelf.Bytes.SlIndexAt
import Derived.Shelf.Pu.ParseUintPublic10
import Derived.RegionTactic
import Derived.Lib.Hide
import Derived.Test.YtlahakpgjlmeaaaGreatDoorZe
set_option linter.unusedSimpArgs false
set_option linter.unusedVariables false
set_option maxHeartbeats 20000000
set_option maxRecDepth 100000
section
namespace Go.Gw
open Go Go.Shelf Go.RowKit
theorem St.below {m:Mem}{As:List Ow}{w w':World}(h:St m As w)(b:Below w.heap.size w w'):St m As w':=
 let ⟨x,s,d,g,g',n⟩:=h.own
 ⟨b.os.trans h.os,⟨b.tape.trans h.tape.1,h.tape.2⟩,b.output.trans h.output,x,s,d,
  fun k o e=>(b.block k (PH.lt_of_agree g e)).trans (g k o e),fun k o e=>(b.block k (PH.lt_of_agree g' e)).trans (g' k o e),n⟩
theorem Kd.below {w w':World}(b:Below w.heap.size w w'):Kd w w':=
 ⟨b.size,fun k e=>(b.block k (AkM.1 e).1).trans e⟩
end Go.Gw
namespace Go.Ax
open Go Go.Gw Go.Shelf Go.RowKit
theorem UF {P:Program}{k:FuncId}{args:List AV}{r:AV}(hc: ∀(a:Array Value) w,(callFunc k a).run P w= .ok (.enter k a) w)
  (h: ∀(η:Env) (m:Mem) (As:List Ow) (w:World) (vs:List Value),BP η m args vs→St m As w→Calls P k vs.toArray w fun e w'=> ∃v,e= .returned v∧Rel η m r v∧Below w.heap.size w w'):Sf P k args r:=
 ⟨hc,fun η m As w vs hv hd S=>Calls.mono (h η m As w vs hv (by simpa using S)) fun e w' ⟨v,e1,e2,e3⟩=>⟨v,e1,Kd.below e3,m,η,r,[],0,Mem.rfl' m,Env.le_refl,⟨rfl,rfl,rfl⟩,hd,e2,by simpa using St.below (by simpa using S) e3⟩⟩
theorem Afl {η:Env}{m:Mem}{x:ByteArray}{v:Value}(h:Rel η m (.d (.s x)) v):v= .string x:=by
 cases h with|d h=>cases h; rfl
theorem rel_b {η:Env}{m:Mem}{x:UInt8}{v:Value}(h:Rel η m (.d (.b x)) v):v= .int .u8 (x.toNat:Int):=by
 cases h with|d h=>cases h; rfl
theorem ZY {η:Env}{m:Mem}{xs:List UInt8}{v:Value}(h:Rel η m (sl eB xs) v):(xs=[]∧∃a c,v= .slice a 0 c)∨
  ∃b off cap l e fr,v= .slice (some ⟨b,off,none⟩) xs.length cap∧xs.length≤cap∧cap≤9223372036854775807∧m.heap b=some (.cells l e fr)∧∀i (x:UInt8),xs[i]? =some x→l[off+i]? =some (.int .u8 (x.toNat:Int)):=by
 cases h with
 |d h=>
  cases h with
  | @sl _ _ _ sz _ cs h hE hl hr=>
   have hf:xs.flatMap eB=xs.map D.b:=by
    clear hr hl hE h;induction xs with
    |nil=>rfl
    |cons x xs ih=>rw[Ak4,ih]; rfl
   rw[hf]at hl hr;obtain⟨q1,q2,⟨q3,q4⟩|⟨b,off,cap,l,e,fr,hv',hn',hb,hc⟩⟩:=h
   ·exact .inl ⟨List.length_eq_zero_iff.1 q3,q4⟩
   ·refine .inr ⟨b,off,cap,l,e,fr,hv',hn'.1,hn'.2,hb,fun i x hx=> ?_⟩;have hlt:i<cs.length:=by rw[←hl,AkW]; exact(AkR.1 hx).1
    have:=hr i (.b x) cs[i] (by rw[AkP,hx]; rfl) (by simp[hlt]);cases hq:cs[i]with
    |_=>
     rw[hq]at this;cases this
     all_goals exact hc i _ (by rw[AkV hlt,hq])
theorem AeQ {η:Env}{m:Mem}{xs:List UInt8}{b off cap:Nat}{l:Array Value}{e:TypeId}{fr:Nat×Nat}(hn:xs.length≤cap)(hc:cap≤9223372036854775807)(hb:m.heap b=some (.cells l e fr))
  (h: ∀i (x:UInt8),xs[i]? =some x→l[off+i]? =some (.int .u8 (x.toNat:Int))):Rel η m (sl eB xs) (.slice (some ⟨b,off,none⟩) xs.length cap):=by
 have hf:xs.flatMap eB=xs.map D.b:=by
  clear h hn;induction xs with
  |nil=>rfl
  |cons x xs ih=>rw[Ak4,ih]; rfl
 refine .d (.sl (sz:=1) (cs:=xs.map vB) ⟨by simp,by omega,.inr ⟨b,off,cap,l,e,fr,rfl,⟨hn,hc⟩,hb,fun i x hx=> ?_⟩⟩ (fun _ _=>rfl) (by rw[hf]; simp) fun k d u hk hu=> ?_)
 ·rw[AkP,Akx]at hx;obtain⟨y,hy,rfl⟩:=hx;exact h i y hy
 ·rw[hf,AkP,Akx]at hk;rw[AkP,Akx]at hu;obtain⟨y,hy,rfl⟩:=hk;obtain⟨z,hz,rfl⟩:=hu;rw[hy]at hz; cases hz;exact .b _
def AgA (c:ByteArray):Bool:=decide (c.size<4294967281)&&c.data.toList.all (fun b=>decide (b.toNat<128))
theorem WW {c:ByteArray}(h:AgA c=true):c.size<4294967281∧∀(j:Nat) b,c.data.toList[j]? =some b→b.toNat<128:=by
 simp only[AgA,Aks,AkH]at h;exact⟨h.1,Go.Proofs.ascii_of_all h.2⟩
end Go.Ax
end
section
namespace Go.Gw
open Go
def Aj5 (M:Mem)(h:PH):Mem:={M with heap:=fun k=>bif (h k).isSome then none else M.heap k}
theorem Sx {M:Mem}{h:PH}{k:Nat}{o:Obj}(e:h k=some o):(Aj5 M h).heap k=none:=by
 show(bif (h k).isSome then none else M.heap k)=none;rw[e]; rfl
theorem PJ {M:Mem}{h:PH}{k:Nat}(e:h k=none):(Aj5 M h).heap k=M.heap k:=by
 show(bif (h k).isSome then none else M.heap k)=M.heap k;rw[e]; rfl
theorem Mem.le_join {m:Mem}{h:PH}:m≤{m with heap:=m.heap.join h}:=⟨rfl,rfl,rfl,fun k o e=>by simp[PH.join,e]⟩
theorem St.lend {m:Mem}{A:Ow}{As:List Ow}{w:World}(h:St m (A::As) w): ∃h1,A h1∧m.heap.disj h1∧St {m with heap:=m.heap.join h1} As w:=by
 obtain⟨x,⟨h1,h2,a,b,c,rfl⟩,d,g,g',nd⟩:=h.own;obtain⟨g1,g2⟩:=(PH.agree_join c).1 g';obtain⟨d1,d2⟩:=PH.disj_join.1 d;exact⟨h1,a,d1,h.os,⟨h.tape.1,GB.up Mem.le_join h.tape.2⟩,h.output,h2,b,PH.join_disj.2 ⟨d2,c⟩,(PH.agree_join d1).2 ⟨g,g1⟩,g2,by rw[PH.join_assoc]; exact nd⟩
theorem Ac3 {m M:Mem}{h1:PH}(hle:{m with heap:=m.heap.join h1}≤M)(hd:m.heap.disj h1):m≤Aj5 M h1:=
 ⟨hle.os,hle.tape,hle.output,fun k o e=>by
  have e1:h1 k=none:=(hd k).resolve_left (by rw[e]; simp);rw[PJ e1];exact hle.heap k o (by simp[PH.join,e])⟩
theorem Ajn {m M:Mem}{h1:PH}(hle:{m with heap:=m.heap.join h1}≤M)(hd:m.heap.disj h1){k:Nat}{o:Obj}(e:h1 k=some o):M.heap k=some o:=
 hle.heap k o (by
  have e1:m.heap k=none:=(hd k).resolve_right (by rw[e]; simp);simp[PH.join,e1,e])
theorem St.unlend {m M:Mem}{h1:PH}{A:Ow}{Bs:List Ow}{w:World}(hle:{m with heap:=m.heap.join h1}≤M)(hd:m.heap.disj h1)(gb:GB m)(S:St M Bs w)(ha:A h1):St (Aj5 M h1) (A::Bs) w:=by
 obtain⟨x,s,d,g,g',nd⟩:=S.own;have hin: ∀{k o},h1 k=some o→M.heap k=some o:=fun e=>Ajn hle hd e;have hx:h1.disj x:=fun k=>by
  cases e:h1 k with
  |none=>exact .inl rfl
  |some o=>exact .inr ((d k).resolve_left (by rw[hin e]; simp))
 refine⟨S.os,⟨S.tape.1,GB.up (Ac3 hle hd) gb⟩,S.output,h1.join x,⟨h1,x,ha,s,hx,rfl⟩,fun k=> ?_,fun k o e=> ?_,(PH.agree_join hx).2 ⟨fun k o e=>g k o (hin e),g'⟩,fun k e=> ?_⟩
 ·cases e:h1 k with
  |some o=>exact .inl (Sx e)
  |none=>
   rw[PJ e];simpa[PH.join,e]using d k
 ·cases q:h1 k with
  |some o'=>rw[Sx q]at e; cases e
  |none=>rw[PJ q]at e; exact g k o e
 ·refine nd k ?_;cases q:h1 k with
  |some o=>
   have:=hin q;simp[PH.join,Sx q,q]at e;simp[PH.join,this,e]
  |none=>simpa[PH.join,PJ q,q]using e
end Go.Gw
namespace Go.Ax
open Go Go.Gw
def clD:D→Bool
 | .i _=>true
 | .u _=>true
 | .w _=>true
 | .b _=>true
 | .r _=>true
 | .t _=>true
 | .s _=>true
 | .v _=>true
 |_=>false
theorem clD_ok {m M:Mem}{d:D}{v:Value}(hc:clD d=true)(h:FR m d v):FR M d v:=by
 cases h<;>first|(cases hc; done)|constructor
 assumption
def cl0:AV→Bool
 | .d x=>clD x
 | .any=>true
 | .pb _ _=>true
 | .ow _=>true
 |_=>false
theorem Ad1 {η:Env}{m M:Mem}{a:AV}{v:Value}(hc:cl0 a=true)(h:Rel η m a v):Rel η M a v:=by
 cases h with
 |d h=>exact .d (clD_ok hc h)
 |any=>exact .any _
 |pb h=>exact .pb h
 |ow h k=>exact .ow h k
 |_=>cases hc
def clA:AV→Bool
 | .tup cs=>cs.all cl0
 | .agg cs=>cs.all cl0
 |a=>cl0 a
theorem AhR {η:Env}{m M:Mem}{a:AV}{v:Value}(hc:clA a=true)(h:Rel η m a v):Rel η M a v:=by
 cases h with
 |tup hl h=>exact .tup hl fun k c u a b=>Ad1 (AkI.1 hc c (AkQ a)) (h k c u a b)
 |agg hl h=>exact .agg hl fun k c u a b=>Ad1 (AkI.1 hc c (AkQ a)) (h k c u a b)
 |d h=>exact Ad1 hc (.d h)
 |any=>exact .any _
 |pb h=>exact .pb h
 |ow h k=>exact .ow h k
 |_=>cases hc
def clO:AObj→Bool
 | .box _ cs _=>cs.all clA
 | .hp _ (.mp _)=>true
 | .hp _ (.it _ _)=>true
 | .hp _ (.mg _ _ _ _ _)=>true
 |_=>false
theorem clO_ok {η:Env}{m M:Mem}{o:AObj}{x:PH}(hc:clO o=true)(h:rep η m o x):rep η M o x:=by
 cases o with
 |box n cs t=>obtain⟨b,vs,p,q,z,u⟩:=h; exact⟨b,vs,p,⟨q.1,fun k c u a b=>AhR (AkI.1 hc c (AkQ a)) (q.2 k c u a b)⟩,z,u⟩
 |hp n k=>
  cases k with
  |mp kv=>exact h
  |it s p=>exact h
  |mg κ γ K c kv=>exact h
  |_=>cases hc
 |_=>cases hc
theorem AiO (a:AV):W8 (fun j=>j) a=a:=by cases a<;>rfl
theorem Zv (l:List AV):l.map (W8 fun j=>j)=l:=by
 induction l with
 |nil=>rfl
 |cons a l ih=>rw[AkZ,ih,AiO]
theorem Acd (a:AV):Aax (fun j=>j) a=a:=by
 cases a<;>first|rfl|(simp only[Aax,Zv]; done)|(simp only[Aax,W8])
theorem Ace (a:AV):Rh (fun j=>j) a=a:=by
 have hB: ∀l:List AV,l.map (Aax fun j=>j)=l:=fun l=>by
  induction l with
  |nil=>rfl
  |cons a l ih=>rw[AkZ,ih,Acd]
 cases a<;>first|(simp only[Rh,Acd]; done)|(simp only[Rh,hB]; done)|(simp only[Rh,Zv])
theorem AiN (o:AObj):PO (fun j=>j) o=o:=by
 have hA: ∀l:List AV,l.map (Rh fun j=>j)=l:=fun l=>by
  induction l with
  |nil=>rfl
  |cons a l ih=>rw[AkZ,ih,Ace]
 cases o<;>simp only[PO,hA]
theorem XP {L:List Ow}{x:PH}(h:sepL L x){A:Ow}(hA:A∈L): ∃y,A y∧∀k o,y k=some o→x k=some o:=by
 induction L generalizing x with
 |nil=>cases hA
 |cons B L ih=>
  obtain⟨h1,h2,b,s,d,rfl⟩:=h;rcases Ak1.1 hA with rfl|hA
  ·exact⟨h1,b,fun k o e=>by simp[PH.join,e]⟩
  ·obtain⟨y,hy,hk⟩:=ih s hA;refine⟨y,hy,fun k o e=> ?_⟩;have:=hk k o e;have e1:h1 k=none:=(d k).resolve_right (by rw[this]; simp);simp[PH.join,e1,this]
section
variable {η:Env}{m:Mem}{x:PH}
theorem Ac1 (hd:m.heap.disj x){k:Nat}{o:Obj}(e:x k=some o):({m with heap:=m.heap.join x}:Mem).heap k=some o:=by
 have e1:m.heap k=none:=(hd k).resolve_right (by rw[e]; simp);simp[PH.join,e1,e]
theorem ZA {n sz:Nat}{α:Type}{E:α→List D}{xs:List α}{v:Value}(hv:η n=some v){y:PH}(h:rep η m (.row n sz α E xs) y)(hd:m.heap.disj x)(hy: ∀k o,y k=some o→x k=some o):FR {m with heap:=m.heap.join x} (.sl α E xs) v:=by
 obtain⟨v',cs,e,h1,h2,h3,h4⟩:=h;rw[hv]at e; cases e;rcases h4 with ⟨e1,rfl,h0,hx⟩|⟨b,cap,l,e,fr,rfl,rfl,hc,ht,hl,hn,hcm,_⟩
 ·have:xs=[]:=List.length_eq_zero_iff.1 (by omega);subst this;exact .sl (sz:=sz) (cs:=[]) ⟨by simp,by simp,.inl ⟨rfl,_,_,e1⟩⟩ h3 (by simp) fun k d u a=>by simp at a
 ·refine .sl (sz:=sz) (cs:=cs) ⟨hc,by simp only[maxLen]at hcm; omega,.inr ⟨b,0,cap,l,e,fr,rfl,⟨hn,by simp only[maxLen]at hcm; omega⟩,Ac1 hd (hy _ _ (by simp[PH.one])),fun j x hx=> ?_⟩⟩ h3 h2.1 fun k d u a b=>(h2.2 k d u a b).up Mem.le_join;rw[←ht,List.getElem?_take]at hx;split at hx
  ·simpa using hx
  ·cases hx
end
inductive Yy (os:List AObj):List AV→List D→Prop
 |nil:Yy os [] []
 |d {d:D} {cs:List AV} {ds:List D} (h:Yy os cs ds):Yy os (.d d::cs) (d::ds)
 |ow {n sz:Nat} {α:Type} {E:α→List D} {xs:List α} {cs:List AV} {ds:List D} (hm: .row n sz α E xs∈os) (h:Yy os cs ds):Yy os (.ow n::cs) (.sl α E xs::ds)
inductive Aa3 (os:List AObj) (n0:Nat):AV→AV→Prop
 |same {a:AV} (h:okA n0 a=true):Aa3 os n0 a a
 |row {n sz:Nat} {α:Type} {E:α→List D} {xs:List α} (h: .row n sz α E xs∈os):Aa3 os n0 (.ow n) (.d (.sl α E xs))
 |pf {n:Nat} {cs:List AV} {t:TypeId} {ds:List D} (h: .box n cs t∈os) (hc:Yy os cs ds):Aa3 os n0 (.pb n 0) (.d (.pf ds))
inductive Aes (os:List AObj) (n0:Nat):List AV→List AV→Prop
 |nil:Aes os n0 [] []
 |cons {a b:AV} {cs1 cs2:List AV} (h:Aa3 os n0 a b) (k:Aes os n0 cs1 cs2):Aes os n0 (a::cs1) (b::cs2)
inductive Vx (os:List AObj) (n0:Nat):List AV→List AV→Prop
 |nil:Vx os n0 [] []
 |cons {a b:AV} {cs1 cs2:List AV} (h:Aa3 os n0 a b) (k:Vx os n0 cs1 cs2):Vx os n0 (a::cs1) (b::cs2)
 |fn {f:Fn} {cs ds cs1 cs2:List AV} (h:Aes os n0 cs ds) (k:Vx os n0 cs1 cs2):Vx os n0 (.fn f [] cs::cs1) (.fn f [] ds::cs2)
section
variable {η η1:Env}{m:Mem}{x:PH}{os:List AObj}{n0:Nat}
theorem AfU (hs:sepL (os.map (rep η m)) x)(hd:m.heap.disj x){cs:List AV}{ds:List D}(h:Yy os cs ds): ∀{vs:List Value},BP η m cs vs→FRL {m with heap:=m.heap.join x} ds vs:=by
 induction h with
 |nil=>intro vs r; obtain rfl:=r.nil_inv; exact .nil
 |d h ih=>
  intro vs r;obtain⟨v,us,rfl,r1,r⟩:=r.cons_inv;refine .cons ?_ (ih r);cases r1 with|d q=>exact q.up Mem.le_join
 |ow hm h ih=>
  intro vs r;obtain⟨v,us,rfl,r1,r⟩:=r.cons_inv;obtain⟨y,hy,hk⟩:=XP hs (List.mem_map_of_mem hm);refine .cons ?_ (ih r);cases r1 with|ow q _=>exact ZA q hy hd hk
theorem ZC (hη: ∀j,j<n0→η j=η1 j)(hs:sepL (os.map (rep η m)) x)(hd:m.heap.disj x){a b:AV}(h:Aa3 os n0 a b){v:Value}(r:Rel η m a v):Rel η1 {m with heap:=m.heap.join x} b v:=by
 cases h with
 |same h=>exact XX (φ:=fun j=>j) hη h (by rw[Ace]; exact r.up Env.le_refl Mem.le_join)
 |row h=>
  obtain⟨y,hy,hk⟩:=XP hs (List.mem_map_of_mem h);cases r with|ow q _=>exact .d (ZA q hy hd hk)
 |pf h hc=>
  obtain⟨y,⟨b,vs,q1,q2,q3,q4⟩,hk⟩:=XP hs (List.mem_map_of_mem h);obtain⟨bb,e,r1⟩:=r.pb_inv;rw[q1]at e; cases e;have hf:=AfU hs hd hc q2;subst r1;refine .d (.pf (cs:=vs) ?_ rfl hf.1 hf.2);exact⟨b,0,_,_,_,rfl,Ac1 hd (hk _ _ (by rw[q4]; exact AkA rfl)),fun i z hz=>by simpa using hz⟩
theorem AfT (hη: ∀j,j<n0→η j=η1 j)(hs:sepL (os.map (rep η m)) x)(hd:m.heap.disj x){cs1 cs2:List AV}(h:Aes os n0 cs1 cs2): ∀{vs:List Value},BP η m cs1 vs→BP η1 {m with heap:=m.heap.join x} cs2 vs:=by
 induction h with
 |nil=>intro vs r; obtain rfl:=r.nil_inv; exact .nil
 |cons h k ih=>
  intro vs r;obtain⟨v,us,rfl,r1,r⟩:=r.cons_inv;exact .cons (ZC hη hs hd h r1) (ih r)
theorem AfS (hη: ∀j,j<n0→η j=η1 j)(hs:sepL (os.map (rep η m)) x)(hd:m.heap.disj x){cs1 cs2:List AV}(h:Vx os n0 cs1 cs2): ∀{vs:List Value},BP η m cs1 vs→BP η1 {m with heap:=m.heap.join x} cs2 vs:=by
 induction h with
 |nil=>intro vs r; obtain rfl:=r.nil_inv; exact .nil
 |cons h k ih=>
  intro vs r;obtain⟨v,us,rfl,r1,r⟩:=r.cons_inv;exact .cons (ZC hη hs hd h r1) (ih r)
 |fn h k ih=>
  intro vs r;obtain⟨v,us,rfl,r1,r⟩:=r.cons_inv;refine .cons ?_ (ih r);cases r1 with
  | @fn _ _ _ ps us hp hl h1 h2=>
   have:=AfT hη hs hd h ⟨hl,h2⟩;exact .fn hp this.1 (fun k c u a=>by simp at a) this.2
end
theorem St.lendN {m:Mem}{w:World}: ∀{Bs As:List Ow},St m (Bs++As) w→∃x,sepL Bs x∧m.heap.disj x∧St {m with heap:=m.heap.join x} As w:=by
 intro Bs As h;have h2:St m ((fun y=>sepL Bs y)::As) w:=by
  obtain⟨y,s,d,g,g',nd⟩:=h.own;refine⟨h.os,h.tape,h.output,y,?_,d,g,g',nd⟩;clear d g g' nd h;induction Bs generalizing y with
  |nil=>exact⟨PH.emp,y,rfl,s,fun _=> .inl rfl,(PH.emp_join y).symm⟩
  |cons B Bs ih=>
   obtain⟨h1,h2,b,s,d,rfl⟩:=s;obtain⟨y1,y2,p,q,dd,rfl⟩:=ih h2 s;obtain⟨d1,d2⟩:=PH.disj_join.1 d;exact⟨h1.join y1,y2,⟨h1,y1,b,p,d1,rfl⟩,q,PH.join_disj.2 ⟨d2,dd⟩,(PH.join_assoc ..).symm⟩
 obtain⟨x,a,b,c⟩:=h2.lend;exact⟨x,a,b,c⟩
theorem AbR {x y:PH}: ∀{Bs As:List Ow},sepL Bs x→sepL As y→x.disj y→sepL (Bs++As) (x.join y):=by
 intro Bs;induction Bs generalizing x with
 |nil=>intro As h k d; cases h; rw[PH.emp_join]; exact k
 |cons B Bs ih=>
  intro As h k d;obtain⟨h1,h2,b,s,dd,rfl⟩:=h;obtain⟨d1,d2⟩:=PH.join_disj.1 d;exact⟨h1,h2.join y,b,ih s k d2,PH.disj_join.2 ⟨dd,d1⟩,PH.join_assoc ..⟩
theorem St.unlendN {m M:Mem}{x:PH}{Bs As:List Ow}{w:World}(hle:{m with heap:=m.heap.join x}≤M)(hd:m.heap.disj x)(gb:GB m)(S:St M As w)(ha:sepL Bs x):St (Aj5 M x) (Bs++As) w:=by
 have h2:=St.unlend (A:=fun y=>y=x) hle hd gb S rfl;obtain⟨y,⟨h1,h3,rfl,s,d,rfl⟩,a,b,c,e⟩:=h2.own;exact⟨h2.os,h2.tape,h2.output,_,AbR ha s d,a,b,c,e⟩
section
variable {P:Program}{k:FuncId}{args args':List AV}{obs obs' os:List AObj}{n0 n1:Nat}{r:AV}
theorem ZB {η:Env}{m:Mem}{As:List Ow}{w:World}{vs:List Value}(ha:Vx os n0 args' args)(hc:obs.all (okO n0)=true)(hv:BP η m args' vs)(S:St m ((os++obs).map (rep η m)++As) w):
  ∃x,sepL (os.map (rep η m)) x∧m.heap.disj x∧BP (fun j=>if j<n0 then η j else none) {m with heap:=m.heap.join x} args vs∧
   St {m with heap:=m.heap.join x} (obs.map (rep (fun j=>if j<n0 then η j else none) {m with heap:=m.heap.join x})++As) w:=by
 rw[Ak3,Akw]at S;obtain⟨x,a,b,S1⟩:=St.lendN S;have hη: ∀j,j<n0→η j=(fun j=>if j<n0 then η j else none) j:=fun j hj=>(AkA hj).symm;refine⟨x,a,b,AfS hη a b ha hv,S1.imp (by simp) fun k A B ha hb x hx=> ?_⟩;rw[List.getElem?_append]at ha hb;simp only[AkW]at ha hb;split at ha
 ·rename_i q;rw[AkA q]at hb;simp only[AkP,Akx]at ha hb;obtain⟨o1,ho1,rfl⟩:=ha;obtain⟨o2,ho2,rfl⟩:=hb;rw[ho1]at ho2; cases ho2;exact LZ (φ:=fun j=>j) hη (AkI.1 hc o1 (AkQ ho1)) (by rw[AiN]; exact rep.up Env.le_refl Mem.le_join hx)
 ·rename_i q;rw[Aky q]at hb;rw[ha]at hb; cases hb; exact hx
theorem Sp.lend (h:Sp P k args obs n0 (is r obs' n0))(ha:Vx os n0 args' args)(hc:(obs.all (okO n0)&&clA r&&obs'.all clO&&Nat.ble n0 n1)=true):Sp P k args' (os++obs) n1 (is r (os++obs') n1):=by
 simp only[Aks]at hc;obtain⟨⟨⟨c2,c3⟩,c4⟩,c5⟩:=hc;have c5:=AkG c5;refine⟨h.1,fun η m As w vs hv hd S=> ?_⟩;obtain⟨x,hs,hdj,hv1,S2⟩:=ZB ha c2 hv S;refine Ft.mono (h.2 _ _ As w vs hv1 (fun j hj=>by
  by_cases q:j<n0
  ·exact q
  ·exact absurd (Aky q) hj) S2) fun v w' ⟨M,η',r',obs'',n2,le,le',⟨e1,e2,e3⟩,hd',rr,S'⟩=> ?_
 subst e1 e2 e3;let η2:Env:=fun j=>if j<n2 then η' j else η j;have l2:η'.le η2:=fun j v e=>by
  have:j<n2:=hd' j (by rw[e]; simp);show(if j<n2 then η' j else η j)=some v;rw[AkA this]; exact e
 have l1:η.le η2:=fun j v e=>by
  show(if j<n2 then η' j else η j)=some v;split
  ·rename_i q; exact le' j v (by show(if j<n2 then η j else none)=some v; rw[AkA q]; exact e)
  ·exact e
 have hm2:m≤Aj5 M x:=Ac3 le hdj;refine⟨Aj5 M x,η2,r',os++obs'',n1,hm2,l1,⟨rfl,rfl,rfl⟩,fun j hj=> ?_,(AhR c3 rr).up l2 (Mem.rfl' _),?_⟩
 ·by_cases q:j<n2
  ·omega
  ·exact hd j (by rw[show η2 j=η j from Aky q]at hj; exact hj)
 ·have S3:=St.unlendN le hdj S.tape.2 S' hs;refine S3.imp (by simp) fun k A B ha hb y hy=> ?_;rw[Ak3,Akw]at hb;rw[List.getElem?_append]at ha hb;simp only[AkW]at ha hb;split at ha
  ·rename_i q;rw[AkA q]at hb;simp only[AkP,Akx]at ha hb;obtain⟨o1,ho1,rfl⟩:=ha;obtain⟨o2,ho2,rfl⟩:=hb;rw[ho1]at ho2; cases ho2;exact rep.up l1 hm2 hy
  ·rename_i q;rw[Aky q]at hb;rw[List.getElem?_append]at ha hb;simp only[AkW]at ha hb;split at ha
   ·rename_i q;rw[AkA q]at hb;simp only[AkP,Akx]at ha hb;obtain⟨o1,ho1,rfl⟩:=ha;obtain⟨o2,ho2,rfl⟩:=hb;rw[ho1]at ho2; cases ho2;exact rep.up l2 (Mem.rfl' _) (clO_ok (AkI.1 c4 o1 (AkQ ho1)) hy)
   ·rename_i q;rw[Aky q]at hb;rw[ha]at hb; cases hb; exact hy
theorem Sb.lend {ov:Value}{Po Po':AV→List AObj→Nat→Prop}{Xp:Prop}(h:Sb P k args obs n0 ov Po Xp)(hP: ∀a o n,¬Po a o n)(ha:Vx os n0 args' args)(hc:obs.all (okO n0)=true):Sb P k args' (os++obs) n1 ov Po' Xp:=by
 refine⟨h.1,fun η m As w vs hv hd S=> ?_⟩;obtain⟨x,hs,hdj,hv1,S2⟩:=ZB ha hc hv S;refine Calls.mono (h.2 _ _ As w vs hv1 (fun j hj=>by
  by_cases q:j<n0
  ·exact q
  ·exact absurd (Aky q) hj) S2) fun e w' q=> ?_
 rcases q with ⟨v,_,_,M,η',r,obs',n1,_,_,hpo,_⟩|⟨q1,q2,q3,M,q4,q5⟩
 ·exact absurd hpo (hP _ _ _)
 ·exact .inr ⟨q1,q2,q3,M,Mem.tr Mem.le_join q4,q5⟩
end
end Go.Ax
end
section
namespace Go.Ax
open Go Go.Gw
def stpR (s:AS)(p:Aa2)(n0:Nat)(r:AV)(obs':List AObj)(n1 j:Nat):Stp:=
 let φ:=bk (fun j=>Ii p.mt j 0) s.nx n0
 ⟨Rh φ r,p.fr++p.ut.drop (p.ut.length-j),p.ut.take (p.ut.length-j)++p.fw,enO (s.nx+(n1-n0)) ((obs'.take (obs'.length-j)).map (PO φ)++OM p.fw),s.nx+(n1-n0)+(obs'.map (PO φ)++OM p.fw).length,[]⟩
def pushR (N:Nat)(cf:Cf)(ea:List AV)(eobs:List AObj)(n0:Nat)(r:AV)(obs':List AObj)(n1 j:Nat):Cf:=match Ni cf ea eobs with|some p=>push N cf (stpR cf.s p n0 r obs' n1 j)|none=>cf
def roL (cf:Cf)(ea:List AV)(eobs:List AObj)(n0:Nat)(obs':List AObj)(n1 j:Nat):List AObj:=match Ni cf ea eobs with|some p=>(obs'.drop (obs'.length-j)).map (PO (bk (fun j=>Ii p.mt j 0) cf.s.nx n0))|none=> []
def roR (cf:Cf)(ea:List AV)(eobs:List AObj)(j:Nat):List AObj:=match Ni cf ea eobs with|some p=>(p.ut.drop (p.ut.length-j)).map (·.2)|none=> []
theorem roPerm {α:Type 1}{U F R:List α}{i:Nat}:((U.take i++F)++(R++U.drop i)).Perm ((U++F)++R):=by
 have h:((U.take i++F)++(R++U.drop i)).Perm (((U.take i++U.drop i)++F)++R):=by
  generalize U.take i=X;generalize U.drop i=Y;rw[Akw,Akw,Akw];refine AkU X ?_;rw[←Akw];exact List.perm_append_comm
 rw[List.take_append_drop]at h;exact h
section
variable {ρ:Option Nat}{P:Program}{N:Nat}{D0:Dw}{Q:DJ}{As:List Ow}{η0:Env}{m0:Mem}
theorem tri_ro {ops:Array Oper}{o:Oper}{fz:Fz}{sl:Sl}{nx nx' k:Nat}{v:AV}{R U A F:List Tok}{M1 M2 W:List AObj}{es:Eqs}(h:Tri ρ P N D0 ops o fz sl nx ⟨v,R,(U++A)++F,enO k ((M1++M2)++W),nx',es⟩)(hA:M2=A.map (·.2)):
  Tri ρ P N D0 ops o fz sl nx ⟨v,R++A,U++F,enO k (M1++W),nx',es⟩:=by
 refine⟨h.1,fun rest Q η m f w As hr hz hn S hk=>h.2 rest Q η m f w As hr hz hn (St.rp S ?_) fun η' M w' val a b c d e=>hk η' M w' val a b c d ?_⟩
 ·show((U++F)++(R++A)).Perm (((U++A)++F)++R);rw[Akw,Akw,Akw];refine AkU U ?_;rw[←Akw];exact List.perm_append_comm
 ·simp only at e⊢;rw[AU,GV]at e;rw[AU,AU,GV];have eA:reps η' M A=M2.map (rep η' M):=by rw[hA]; simp[reps,Function.comp_def]
  rw[eA];refine e.perm (List.Perm.append_right As ?_);simp only[Ak3,Akw];refine AkU _ ?_;have:=List.perm_append_comm (l₁:=M2.map (rep η' M)) (l₂:=W.map (rep η' M)++reps η' M R);simpa[Akw]using this
theorem gcoR {cf:Cf}(j:Nat){k:FuncId}{ea:List AV}{eobs obs':List AObj}{n0 n1:Nat}{r:AV}(hs:Sp P k ea eobs n0 (is r obs' n1))(g:Go ρ P N D0 Q As η0 m0 (pushR N (aC P N cf) ea eobs n0 r obs' n1 j))
  (ero:roL (aC P N cf) ea eobs n0 obs' n1 j=roR (aC P N cf) ea eobs j:=by kernel_rfl)
  (e:(Ld (aC P N cf) ea eobs n0,okA n1 r&&(obs'.all (okO n1)&&Nat.ble n0 n1),(aL P N cf))=
   (some (k,(FH (aC P N cf) ea eobs).1,(FH (aC P N cf) ea eobs).2,true),true,(aR P N cf)):=by kernel_rfl) (hm:P.follows .mixedOrders=true:=by rfl):Go ρ P N D0 Q As η0 m0 cf:=by
 simp only[Akt]at e;obtain⟨e1,e2,e3⟩:=e;obtain⟨he1,-⟩:=KB e3;refine AP hm he1 ?_;generalize aC P N cf=c0 at*;unfold Ld FH at e1;unfold pushR at g;unfold roL roR at ero;cases hp:Ni c0 ea eobs with
 |none=>rw[hp]at e1; cases e1
 |some p=>
  rw[hp]at e1 g ero;simp only[Akv,Akt]at e1 g ero;obtain⟨ek,eas,eobj,eok⟩:=e1;unfold Ni at hp;split at hp
  ·rename_i a ha;split at hp
   ·rename_i c hg hop;split at hp
    ·rename_i k' asv hc;unfold Q3 at hp;simp only at hp;split at hp
     ·rename_i ut hut;have hplan:=Akr hp;clear hp;have pk':p.k=k':=by rw[←hplan]
      have pas:p.as=(cvV c0.s.ob ea asv).1:=by rw[←hplan]
      have pobj:p.objs=(Vy c0.s.ob eobs ut).1:=by rw[←hplan]
      have put:p.ut=ut:=by rw[←hplan]
      have pfw:p.fw=(KJ c0.s.ob ((cvV c0.s.ob ea asv).2++(Vy c0.s.ob eobs ut).2) []).filter (fun p=>KF p.2):=by rw[←hplan]
      have pfr:p.fr=(KJ c0.s.ob ((cvV c0.s.ob ea asv).2++(Vy c0.s.ob eobs ut).2) []).filter (fun p=> !KF p.2):=by rw[←hplan]
      clear hplan;simp only[Tz,Aks]at eok;obtain⟨o1,o2,o3,o4,o5,o6,-⟩:=eok;simp only[Aks]at e2;obtain⟨x1,x2,x3⟩:=e2;have x3:=AkG x3;have hnd:=E1 o3;have hS:=hs.2;subst ek;have T:Tri ρ P N D0 a.l.toArray a.o c0.s.fz a.sl c0.s.nx (Aip c0.s p n0 r obs' n1):=by
       have hgd0:=BG ha hg;obtain⟨l,⟨dst,op,ty,pos,af,gd⟩,gg,sl,es⟩:=a;simp only at hgd0;simp only at hop hg; subst hop hg;have hgd:gd=none:=hgd0;subst hgd;refine⟨by show c0.s.nx≤c0.s.nx+(n1-n0)+_; omega,fun rest Q η m f w As hr hz hn S hk=> ?_⟩;simp only[Aip]at S hk hn⊢;rw[AU,AU,Akw,Akw]at S;have S1:=S.perm (AkE (reps η m p.ut) (reps η m p.fw) _);obtain⟨m1,l1,K1,S2⟩:=Lc o6 S1;have S3:=St.ru Env.le_refl l1 S2;have S4:=S3.perm (AkE (reps η m1 p.ut) (reps η m p.fr) _);have S5:=St.ru Env.le_refl l1 S4;obtain⟨K2,S6⟩:=ND o5 S5;have KN:Kn c0.s.ob η m1 ((cvV c0.s.ob ea asv).2++(Vy c0.s.ob eobs ut).2):=by
        intro j hj d hd;obtain⟨q,hf,hq,hrf,hnm⟩:=NF hd;have hmem:=JJ hf hj (seen:=[]) rfl;rcases hrf with h|h
        ·have:q∈p.fw:=by rw[pfw]; simp only[List.mem_filter]; exact⟨hmem,h⟩
         obtain⟨v,y1,y2⟩:=K1 q this;rw[hnm]at y1; rw[hq]at y2; exact⟨v,y1,y2⟩
        ·have:q∈p.fr:=by
          rw[pfr]; simp only[List.mem_filter];refine⟨hmem,?_⟩;cases hq2:q.2<;>rw[hq2]at h<;>first|rfl|cases h
         obtain⟨v,y1,y2⟩:=K2 q this;rw[hnm]at y1; rw[hq]at y2; exact⟨v,y1,y2⟩
       obtain⟨kn1,kn2⟩:=Kn.app KN;have S7:St m1 (p.objs.map (rep η m1)++As) w:=by
        rw[pobj];rw[put]at S6;obtain⟨x,sx,rx⟩:=S6.own;exact⟨S6.os,S6.tape,S6.output,x,Rp kn2 sx,rx⟩
       let φ:Nat→Nat:=fun j=>Ii p.mt j 0;let η1:Env:=fun j=>if j<n0 then η (φ j)else none;have hη1: ∀j,j<n0→η (φ j)=η1 j:=fun j hj=>(AkA hj).symm;have S8:St m1 (eobs.map (rep η1 m1)++As) w:=by
        rw[eobj]at S7;refine S7.imp (by simp) fun i A B ha hb x hx=> ?_;rw[List.getElem?_append]at ha hb;simp only[AkW]at ha hb;split at ha
        ·rename_i q;rw[AkA q]at hb;simp only[AkP,Akx]at ha hb;obtain⟨o',⟨o,ho,rfl⟩,rfl⟩:=ha;obtain⟨o2',ho',rfl⟩:=hb;rw[ho]at ho'; cases ho';exact LZ hη1 (AkI.1 o2 o (AkQ ho)) hx
        ·rename_i q;rw[Aky q]at hb;rw[ha]at hb; cases hb; exact hx
       have hdef: ∀j,j<n0→∃v,η1 j=some v:=fun j hj=>by
        have:=Sy o4 j hj;simp only[List.mem_map]at this;obtain⟨o,ho,rfl⟩:=this;exact Ym S8 o ho
       refine Qn (η:=η) (m:=m) hc (by rw[←pk']; exact hs.1) hr hz (fun vs hv=> ?_) (R:=fun v w'=> ∃(M:Mem) (η':Env) (r':AV) (obs2:List AObj) (n2:Nat),m1≤M∧η1.le η'∧is r obs' n1 r' obs2 n2∧(∀n,η' n≠none→n<n2)∧Rel η' M r' v∧St M (obs2.map (rep η' M)++As) w') ?_
       ·rw[←pk'];have:=Qk kn1 (hv.up Env.le_refl l1);rw[←pas,eas]at this;exact hS η1 m1 As w vs (Nh hη1 o1 this) (fun j hj=>by
         by_cases q:j<n0
         ·exact q
         ·exact absurd (Aky q) hj) S8
       ·rintro v w2 ⟨M,η',r',obs2,n2,l2,le,⟨rfl,rfl,rfl⟩,hdom,hR,S9⟩;let η2:Env:=fun c=>if c0.s.nx≤c∧c<c0.s.nx+(n2-n0)then η' (n0+(c-c0.s.nx))else η c;have hle:η.le η2:=fun c u hu=>by
         show(if _ then _ else _)=_;split
         ·rename_i q;have:=hn c q.1 (by omega);rw[this]at hu; cases hu
         ·exact hu
        have hbk: ∀j,j<n2→∀u,η' j=some u→η2 (bk φ c0.s.nx n0 j)=some u:=by
         intro j hj u hu;unfold bk;cases hb:Nat.blt j n0
         ·have hge:n0≤j:=by
           rcases Nat.lt_or_ge j n0 with q|q
           ·have:Nat.blt j n0=true:=by simp[Nat.blt_eq,q]
            rw[hb]at this; cases this
           ·exact q
          simp only[cond_false];show(if _ then _ else _)=_;rw[AkA ⟨by omega,by omega⟩];have:n0+(c0.s.nx+(j-n0)-c0.s.nx)=j:=by omega
          rw[this]; exact hu
         ·have hlt:=Cy hb;simp only[cond_true];obtain⟨u0,hu0⟩:=hdef j hlt;have:=le j u0 hu0;rw[hu]at this; cases this;have h1:η (φ j)=some u:=by rw[hη1 j hlt]; exact hu0
          exact hle _ _ h1
        refine hk η2 M w2 v hle (Mem.tr l1 l2) (fun c hc2=> ?_) (UQ hbk x1 hR) ?_
        ·have:(if c0.s.nx≤c∧c<c0.s.nx+(n2-n0)then η' (n0+(c-c0.s.nx))else η c)≠none:=hc2;split at this
         ·rename_i q; exact .inr ⟨q.1,by omega⟩
         ·exact .inl this
        ·rw[AU,Akw,GV,Ak3,Akw];have T1:St M ((obs2.map (PO (bk φ c0.s.nx n0))).map (rep η2 M)++As) w2:=by
          refine S9.imp (by simp) fun i A B ha hb x hx=> ?_;rw[List.getElem?_append]at ha hb;simp only[AkW]at ha hb;split at ha
          ·rename_i q;rw[AkA q]at hb;simp only[AkP,Akx]at ha hb;obtain⟨o,ho,rfl⟩:=ha;obtain⟨o2',⟨o',ho',rfl⟩,rfl⟩:=hb;rw[ho]at ho'; cases ho';exact UP hbk (AkI.1 x2 o (AkQ ho)) hx
          ·rename_i q;rw[Aky q]at hb;rw[ha]at hb; cases hb; exact hx
         have F1: ∀q∈p.fw,∃v,η2 q.2.nm=some v∧FR M (JH q.2) v:=fun q hq=>let ⟨v,a,b⟩:=K1 q hq; ⟨v,hle _ _ a,b.up l2⟩;have F2: ∀q∈p.fr,∃v,η2 q.2.nm=some v∧FR M (JH q.2) v:=fun q hq=>let ⟨v,a,b⟩:=K2 q hq; ⟨v,hle _ _ a,b.up l2⟩;have T2:=K4 F1 (Mq o5 F2 T1);refine T2.perm ?_;exact(AkU _ (AkE _ _ _)).trans (AkE _ _ _)
      have T2:Tri ρ P N D0 a.l.toArray a.o c0.s.fz a.sl c0.s.nx ⟨Rh (bk (fun j=>Ii p.mt j 0) c0.s.nx n0) r,p.fr,(p.ut.take (p.ut.length-j)++p.ut.drop (p.ut.length-j))++p.fw,enO (c0.s.nx+(n1-n0)) (((obs'.take (obs'.length-j)).map (PO (bk (fun j=>Ii p.mt j 0) c0.s.nx n0))++(obs'.drop (obs'.length-j)).map (PO (bk (fun j=>Ii p.mt j 0) c0.s.nx n0)))++OM p.fw),c0.s.nx+(n1-n0)+(obs'.map (PO (bk (fun j=>Ii p.mt j 0) c0.s.nx n0))++OM p.fw).length,[]⟩:=by
       rw[List.take_append_drop,←Ak3,List.take_append_drop];exact T
      refine DC ha hg (tri_ro T2 ero) ?_ g
      ·refine⟨fun q hq=> ?_,?_,?_,fun t ht=> ?_⟩
       ·have hq':q∈(p.ut++p.fw)++p.fr:=by
         simp only[stpR,AkS]at hq⊢;rcases hq with (h|h)|(h|h)
         ·exact .inl (.inl (List.mem_of_mem_take h))
         ·exact .inl (.inr h)
         ·exact .inr h
         ·exact .inl (.inl (List.mem_of_mem_drop h))
        rcases AkS.1 hq' with h|h
        ·rcases AkS.1 h with h|h
         ·rw[put]at h; exact PD hut q h
         ·rw[pfw]at h; exact Gf (List.mem_filter.1 h).1
        ·rw[pfr]at h; exact Gf (List.mem_filter.1 h).1
       ·have hp:((p.ut.take (p.ut.length-j)++p.fw)++(p.fr++p.ut.drop (p.ut.length-j))).Perm ((p.ut++p.fw)++p.fr):=roPerm;exact(List.Perm.nodup_iff (hp.map (fun q:Tok=>q.1))).2 hnd
       ·simp only[stpR]; rw[Ef]; exact List.nodup_range'
       ·simp only[stpR]at ht⊢;rw[Ef,List.mem_range']at ht;obtain⟨i,hi,rfl⟩:=ht;simp only[Akz,AkW,Ak7]at hi⊢;omega
     ·cases hp
    ·cases hp
   ·cases hp
  ·cases hp
end
def thW (t:TypeId)(z:Int×Int):Value:= .iface t (.agg (bif Nat.beq t PF1 then #[.int .i64 z.1]else #[.int .i64 z.1,.int .i64 z.2]))
def thV {β:Type}(t:TypeId):Except (Int×Int) β→Value
 | .error z=>thW t z
 | .ok _=> .nilIface
def exo {β:Type}:Except (Int×Int) β→Option β
 | .error _=>none
 | .ok x=>some x
theorem Sb.spE {P:Program}{t:TypeId}{k:FuncId}{args:List AV}{obs:List AObj}{n0 n1:Nat}{β:Type}{r:β}{A:β→AV}{O:β→List AObj}(h:Sb P k args obs n0 (thV t (.ok r:Except (Int×Int) β)) (Pos (exo (.ok r)) A O n1) (exo (.ok r:Except (Int×Int) β)=none)):Sp P k args obs n0 (is (A r) (O r) n1):=Sb.sp (r:=r) h
def Abw (N:Nat)(cf:Cf):Option (TypeId×Int×Int):=
 match cf.md with
 | .ops false l [⟨some d,.makeInterface t x,_,_,_,none⟩,⟨none,.panic (.tmp d'),_,_,_,none⟩] _=>
  bif Nat.beq d' d&&Nat.blt d N then match aev cf.s.sl x with
   | .agg [.d (.i a),.d (.i b)]=>bif Nat.beq t PF1 then none else some (t,a,b)
   | .agg [.d (.i a)]=>bif Nat.beq t PF1 then some (t,a,0)else none
   |_=>none
  else none
 |_=>none
section
variable {ρ:Option Nat}{P:Program}{N:Nat}{D0:Dw}{Q:DJ}{As:List Ow}{η0:Env}{m0:Mem}
theorem Ado (hm:P.follows .mixedOrders=true){n:Nat}{cf:Cf}{t:TypeId}{z1 z2:Int}{Q:DJ}{Xq:Fr→World→Prop}(hc:P.concrete t=true)
  (hq: ∀f w,Xq f w→Q (.panic (chn (thW t (z1,z2)))) f w) (hX: ∀(η:Env) (m:Mem) (f f':Fr) (w:World),η0.le η→m0≤m→Gm As (adv P N n cf).1.s η m f w→Xq f' w)
  (e:(Abw N (adv P N n cf).1,((adv P N n cf).2).map (·.1))=(some (t,z1,z2),((adv P N n cf).2).map (·.2))):Go ρ P N D0 Q As η0 m0 cf:=by
 simp only[Akt]at e;obtain⟨e1,e3⟩:=e;refine MD hm (.of e3) ?_;generalize (adv P N n cf).1=c0 at*;obtain⟨s,md,K⟩:=c0;unfold Abw at e1;split at e1
 ·rename_i l d tt x ty pos af d' ty' pos' af' h hmd;simp only at hmd; subst hmd;cases hb:Nat.beq d' d&&Nat.blt d N
  ·rw[hb]at e1; cases e1
  ·rw[hb]at e1;simp only[cond_true]at e1;simp only[Aks,Nat.beq_eq]at hb;obtain⟨rfl,hlt⟩:=hb;have fin: ∀(f:Fr) (w:World) (η:Env) (m:Mem),η0.le η→m0≤m→Gm As s η m f w→wpl ρ P N D0 l.toArray [⟨none,.panic (.tmp d'),ty',pos',af',none⟩] (pk ρ P N D0 Q K) (upo N f (some d') (thW t (z1,z2))) w:=by
    intro f w η m a b gm;refine VC rfl (fun _ e=>by cases e) ?_ (pkP (hq _ _ (hX η m f _ w a b gm)));have e0:upo N f (some d') (thW t (z1,z2)) d'=thW t (z1,z2):=by
     simp[upo,up,hlt]
    simp only[execOp,ev,e0];simp[Instr.panic,AkJ,go_sem,thW]
   split at e1
   ·rename_i a b hx';cases hp:Nat.beq tt PF1
    ·rw[hp]at e1;simp only[cond_false]at e1;cases e1;refine .inr (.inl ⟨rfl,fun η m f w a b gm=> ?_⟩);have rx:=Am gm.slr x;rw[hx']at rx;obtain⟨vs,ex,hl⟩:=rx.agg_inv;obtain⟨v1,us,rfl,r1,hl⟩:=hl.cons_inv;obtain⟨v2,us,rfl,r2,hl⟩:=hl.cons_inv;have:=hl.nil_inv; subst this;obtain rfl:v1= .int .i64 z1:=by cases r1 with|d h=>cases h; rfl
     obtain rfl:v2= .int .i64 z2:=by cases r2 with|d h=>cases h; rfl
     refine Aq (v:=thW t (z1,z2)) (w':=w) rfl (fun _ e=>by cases e) (by have:=run_makeInterface (P:=P) (w:=w) t (.agg #[.int .i64 z1,.int .i64 z2]) hc; simp[execOp,ex,this,thW,hp]) ?_;exact fin f w η m a b gm
    ·rw[hp]at e1; cases e1
   ·rename_i a hx';cases hp:Nat.beq tt PF1
    ·rw[hp]at e1; cases e1
    ·rw[hp]at e1;simp only[cond_true]at e1;cases e1;refine .inr (.inl ⟨rfl,fun η m f w a b gm=> ?_⟩);have rx:=Am gm.slr x;rw[hx']at rx;obtain⟨vs,ex,hl⟩:=rx.agg_inv;obtain⟨v1,us,rfl,r1,hl⟩:=hl.cons_inv;have:=hl.nil_inv; subst this;obtain rfl:v1= .int .i64 z1:=by cases r1 with|d h=>cases h; rfl
     refine Aq (v:=thW t (z1,0)) (w':=w) rfl (fun _ e=>by cases e) (by have:=run_makeInterface (P:=P) (w:=w) t (.agg #[.int .i64 z1]) hc; simp[execOp,ex,this,thW,hp]) ?_;exact fin f w η m a b gm
   ·cases e1
 ·cases e1
theorem Ye {γ:Type}{t:TypeId}{z:Int×Int}{fn:Func}{R:Value→World→Prop}{cf:Cf}(hc:P.concrete t=true)
  (e:(Abw N (aC P N cf),bL P N cf)=(some (t,z.1,z.2),bR P N cf):=by kernel_rfl) (hM:P.follows .mixedOrders=true:=by rfl):
  Go ρ P N D0 (Xb P N fn R (thV t (.error z:Except (Int×Int) γ)) (Qr As m0 (exo (.error z:Except (Int×Int) γ)=none))) As η0 m0 cf:=
 Ado hM hc (Xq:=fun _ w=>Qr As m0 (exo (.error z:Except (Int×Int) γ)=none) w) (fun f w h=>⟨rfl,fun w' pd=>⟨rfl,let ⟨M,l,h⟩:=h.2; ⟨M,l,St.pd h pd⟩⟩⟩) (fun η m f f' w a b gm=>⟨rfl,let ⟨M,l,h⟩:=RU gm.st; ⟨M,Mem.tr b l,h⟩⟩) e
theorem Qg {fn:Func}{cf:Cf}{n0 n1:Nat}{β:Type}{r:β}{A:β→AV}{O:β→List AObj}{ov:Value}{X:World→Prop}(hd: ∀n,η0 n≠none→n<n0)
 (e:(endL P fn (aC P N cf) (A r) (O r) n0 n1,(Agt P fn (aC P N cf) (A r) (O r)).isSome,bL P N cf)=(endR P fn (aC P N cf) (A r) (O r),true,bR P N cf):=by kernel_rfl) (hM:P.follows .mixedOrders=true:=by rfl):
 Go ρ P N D0 (Xb P N fn (Ix As η0 m0 (Pos (exo (.ok r)) A O n1)) ov X) As η0 m0 cf:=PB hd e hM
theorem HX {cf:Cf}{k:FuncId}{ea:List AV}{eobs:List AObj}{n0 n1:Nat}{t:TypeId}{z:Int×Int}{β γ:Type}{A:β→AV}{O:β→List AObj}{Xp:Prop}{fn:Func}{R:Value→World→Prop}(hs:Sb P k ea eobs n0 (thV t (.error z:Except (Int×Int) β)) (Pos (exo (.error z:Except (Int×Int) β)) A O n1) Xp)
  (e:(Ld (aC P N cf) ea eobs n0,QK (aC P N cf),aL P N cf)=
   (some (k,(FH (aC P N cf) ea eobs).1,(FH (aC P N cf) ea eobs).2,true),true,aR P N cf):=by kernel_rfl) (hM:P.follows .mixedOrders=true:=by rfl):
  Go ρ P N D0 (Xb P N fn R (thV t (.error z:Except (Int×Int) γ)) (Qr As m0 (exo (.error z:Except (Int×Int) γ)=none))) As η0 m0 cf:=
 NR (γ:=γ) hs e hM
theorem AhE {cf:Cf}{k:FuncId}{ea:List AV}{eobs:List AObj}{n0 n1:Nat}{t:TypeId}{z:Int×Int}{β γ:Type}{A:β→AV}{O:β→List AObj}{Xp:Prop}{fn:Func}{R:Value→World→Prop}(hs:Sb P k ea eobs n0 (thV t (.error z:Except (Int×Int) β)) (Pos (exo (.error z:Except (Int×Int) β)) A O n1) Xp)
  (e:(Ld (aC P N cf) ea eobs n0,(panD P N (aC P N cf) ea eobs).map (·.1),((aD P N cf)++(PF (aC P N cf)++Ai3 P N (aC P N cf) ea eobs)).map (·.1))=
   (some (k,(FH (aC P N cf) ea eobs).1,(FH (aC P N cf) ea eobs).2,true),some true,((aD P N cf)++(PF (aC P N cf)++Ai3 P N (aC P N cf) ea eobs)).map (·.2)):=by kernel_rfl) (hM:P.follows .mixedOrders=true:=by rfl):
  Go ρ P N D0 (Xb P N fn R (thV t (.error z:Except (Int×Int) γ)) (Qr As m0 (exo (.error z:Except (Int×Int) γ)=none))) As η0 m0 cf:=
 Yf (γ:=γ) hs e hM
theorem PA {cf:Cf}{k:FuncId}{ea:List AV}{eobs:List AObj}{n0 n1 n2:Nat}{t:TypeId}{z:Int×Int}{β γ:Type}{A:β→AV}{O:β→List AObj}{Xp:Prop}{Je:Fr→World→Prop}{J:AS}{ok:Prop}(hs:Sb P k ea eobs n0 (thV t (.error z:Except (Int×Int) β)) (Pos (exo (.error z:Except (Int×Int) β)) A O n2) Xp)(hx:ok)(hd: ∀n,η0 n≠none→n<n1)
 (e:(Ld (aC P N cf) ea eobs n0,QK (aC P N cf),aL P N cf)=
  (some (k,(FH (aC P N cf) ea eobs).1,(FH (aC P N cf) ea eobs).2,true),true,aR P N cf):=by kernel_rfl) (e2:(vwL (AcG (aC P N cf) ea eobs) J n1,(vwP (AcG (aC P N cf) ea eobs) J).isSome)=(vwR (AcG (aC P N cf) ea eobs) J,true):=by kernel_rfl) (hM:P.follows .mixedOrders=true:=by rfl):
 Go ρ P N D0 (Ze Je (thV t (.error z:Except (Int×Int) γ)) (Rl As η0 m0 (fun _:Unit=>J) (fun _=>ok))) As η0 m0 cf:=Adn hs hx hd e e2 hM
def AdB {β:Type}:Except (Int×Int) β→Int×Int
 | .error z=>z
 | .ok _=>(0,0)
end
section
variable {ρ:Option Nat}{P:Program}{N:Nat}{D0:Dw}{Q:DJ}{As:List Ow}{η0:Env}{m0:Mem}
theorem Zc {kd d id:Nat}{fn:Func}{REST:Code}{ty1 ty2:TypeId}{pos1 pos2:String}{af1 af2:Array Edge}{args:List AV}{r:AV}{ov:Value}{J1:AS}{ι:Type}{JE:ι→AS}{okE:ι→Prop}{ok1 okX:Prop}{zs0 zs1 zs2:List D}{s0 s1 s2:Nat}{t0 t1 t2:TypeId}
  (hcd: ∀(a:Array Value) w,(callFunc kd a).run P w= .ok (.enter kd a) w)
  (hN:fn.ntmps=N) (hle:Nat.ble args.length N=true) (hdN:Nat.blt d N=true) (hJ:(get J1.sl d,get J1.sl s0,get J1.sl s1,get J1.sl s2)=(.any,.pb 0 0,.pb 1 0,.pb 2 0))
  (h2:ok1→∀D0 As η0 m0,(∀n,η0 n≠none→n<3)→Go none P N D0 (Ze (Rl As η0 m0 JE okE) ov (Rl As η0 m0 (fun _:Unit=>⟨[(s0,.pb 0 0),(s1,.pb 1 0),(s2,.pb 2 0)],[(0,.box 0 (zs0.map fun _=> .any) t0),(1,.box 1 (zs1.map fun _=> .any) t1),(2,.box 2 (zs2.map fun _=> .any) t2)],[],3⟩) (fun _=>okX))) As η0 m0 ⟨J1,.code REST,[]⟩)
  (h3: ∀i,okE i→∀D0 As η0 m0,(∀n,η0 n≠none→n<0)→Go none P N D0 (Q4 P N fn (Ix As η0 m0 (is r [] 0))) As η0 m0 ⟨JE i,.ret,[]⟩)
  (h4:okX→∀D0 As η0 m0,(∀n,η0 n≠none→n<0)→Go none P N D0 (Q4 P N fn (Ix As η0 m0 (is r [] 0))) As η0 m0 ⟨⟨[(s0,.pb 0 0),(s1,.pb 1 0),(s2,.pb 2 0)],[(0,.box 0 (zs0.map .d) t0),(1,.box 1 (zs1.map .d) t1),(2,.box 2 (zs2.map .d) t2)],[],3⟩,.ret,[]⟩)
  (hD1: ∀(a b c:Value) (w:World),CallsDIn (FW none) 0 P kd #[a,b,c] .returning w fun e u' w'=> ∃v,e= .returned v∧u'= .returning∧w'=w)
  (hD2:okX→∀(m:Mem) (As:List Ow) (w:World) (b0 b1 b2:Nat) (c0 c1 c2:List Value),c0.length=zs0.length→c1.length=zs1.length→c2.length=zs2.length→(∀v∈c0,v.oneCell'=true)→(∀v∈c1,v.oneCell'=true)→(∀v∈c2,v.oneCell'=true)→St m (bx b0 c0 t0::bx b1 c1 t1::bx b2 c2 t2::As) w→
   CallsDIn (FW none) 0 P kd #[pt b0 0,pt b1 0,pt b2 0] (.panicking (chn ov)) w fun e u' w'=> ∃v,e= .returned v∧u'= .panicking [{v:=ov,recovered:=true}]∧Kd w w'∧
    ∃M u0 u1 u2,m≤M∧FRL M zs0 u0∧FRL M zs1 u1∧FRL M zs2 u2∧St M (bx b0 u0 t0::bx b1 u1 t1::bx b2 u2 t2::As) w')
  {η:Env} {m:Mem} {As:List Ow} {w w3:World} {f3:Fr} {a3:Act} (hd: ∀n,η n≠none→n<0) (q3:Rl As η m (fun _:Unit=>J1) (fun _=>ok1) f3 w3) (s3:Sim N a3 f3∧Okd (w,[],true) a3 w3):
  Code.wpIn (FW none) 0 P (.seq (.region id #[⟨some d,.makeFunc (.func kd) #[] #[.tmp s0,.tmp s1,.tmp s2],ty1,pos1,af1,none⟩,⟨none,.defer ⟨.value (.tmp d), #[], #[]⟩,ty2,pos2,af2,none⟩] false) REST) (okM P fn w (Ix As η m (is r [] 0))) a3 w3:=by
 have hη: ∀n,η n=none:=fun n=>by
  cases q:η n with
  |none=>rfl
  |some v=>exact absurd (hd n (by rw[q]; simp)) (by omega)
 obtain⟨_,hok,η3,m3,le3,l3,gm3⟩:=q3;simp only[Akt]at hJ;obtain⟨hJd,hJ2,hJ3,hJ4⟩:=hJ;have r2:=gm3.slr s0;rw[hJ2]at r2;obtain⟨b0,e2,v2⟩:=r2.pb_inv;have r3:=gm3.slr s1;rw[hJ3]at r3;obtain⟨b1,e3,v3⟩:=r3.pb_inv;have r4:=gm3.slr s2;rw[hJ4]at r4;obtain⟨b2,e4,v4⟩:=r4.pb_inv;have hd3:a3.defers=[]:=s3.2.just rfl;let fv:Value:= .func (.func kd) #[] #[pt b0 0,pt b1 0,pt b2 0];let dd:Deferred:={target:= .fn (.func kd) #[pt b0 0,pt b1 0,pt b2 0],args:= #[]};have hdN':=Cy hdN;let a4:Act:=a3.put (some d) fv;let a5:Act:={a4 with defers:=dd::a4.defers};let f5:Fr:=upo N f3 (some d) fv;have sim4:Sim N a4 f5:=s3.1.put (some d) fv;have sim5:Sim N a5 f5:=⟨sim4.size,sim4.at_⟩;have ed:ev f5 (.tmp d)=fv:=by
  show up N f3 d fv d=fv;simp only[up,Nat.beq_refl,Ala,hdN,cond_true]
 refine wpIn_seq (wpIn_region ?_);show wpOpsIn (FW none) 0 P _ _ (List.range 2) a3 w3;rw[List.range_eq_range'];refine Xk [⟨some d,.makeFunc (.func kd) #[] #[.tmp s0,.tmp s1,.tmp s2],ty1,pos1,af1,none⟩,⟨none,.defer ⟨.value (.tmp d), #[], #[]⟩,ty2,pos2,af2,none⟩] 0 (fun j=>by simp) a3 w3 ?_;unfold wpO;rw[AkA (by simp[Region.wanted])];rw[Oper.semAt_eq _ _ _ (fun c e=>by cases e)];rw[show(execOp a3.eval ⟨some d,.makeFunc (.func kd) #[] #[.tmp s0,.tmp s1,.tmp s2],ty1,pos1,af1,none⟩).run P w3= .ok (.value fv) w3 by
  rw[s3.1.eval]; simp[execOp,Instr.makeFunc,ev,v2,v3,v4,fv]]
 show wpO none P _ _ [_] a4 w3;unfold wpO;rw[AkA (by simp[Region.wanted])];rw[Oper.semAt_none];rw[show(execOp a4.eval ⟨none,.defer ⟨.value (.tmp d), #[], #[]⟩,ty2,pos2,af2,none⟩).run P w3= .ok (.defer dd) w3 by
  rw[sim4.eval]; simp[execOp,resolve,ed,Deferred.ofValue,fv,dd]]
 show REST.wpIn (FW none) 0 P (okM P fn w _) a5 w3;have gm5:Gm As J1 η3 m3 f5 w3:=⟨fun t=>by
  cases hb:Nat.beq t d&&Nat.blt d N
  ·have e:f5 t=f3 t:=by show up N f3 d fv t=_; simp only[up,hb,cond_false]
   rw[e]; exact gm3.slr t
  ·simp only[Aks,Nat.beq_eq]at hb;obtain⟨rfl,_⟩:=hb;rw[hJd]; exact .any _,gm3.fz,gm3.dom,gm3.st,gm3.wf⟩
 have cle:(TR η3 3).le η3:=fun n v h=>by unfold TR at h; split at h; exact h; cases h
 have g2:=h2 hok (w3,a5.defers,true) As (TR η3 3) m3 (fun n h=>by unfold TR at h; split at h; assumption; exact absurd rfl h) η3 m3 f5 w3 cle (Mem.rfl' m3) gm5;have k3:=s3.2.keep;have hinv: ∀w',(invoke dd.target dd.args).run P w'= .ok (.enter kd #[pt b0 0,pt b1 0,pt b2 0]) w':=fun w'=>by
  simp[dd,invoke,hcd]
 refine wpIn_mono (g2 a5 ⟨sim5,Okd.base (Kd.rfl' w3)⟩) ?_;have fin: ∀(a6:Act) (w6:World) (f6:Fr),Sim N a6 f6∧Okd (w3,a5.defers,true) a6 w6→Rl As (TR η3 3) m3 JE okE f6 w6→LeavesInM (FW none) 0 P fn a6.tmps (fun e w'=> ∃v,e= .returned v∧Kd w w'∧Ix As η m (is r [] 0) v w') a6.defers .returning w6:=by
  rintro a6 w6 f6 s6 ⟨i,hi,η6,m6,le6,l6,gm6⟩;have hd6:a6.defers=[dd]:=by rw[s6.2.just rfl]; show dd::a3.defers=_; rw[hd3]
  rw[hd6];refine⟨by simp,.inr ⟨(fun h=>by cases h),.func kd, #[pt b0 0,pt b1 0,pt b2 0],kd, #[pt b0 0,pt b1 0,pt b2 0],rfl,hinv w6,fun _ _=>trivial,?_⟩⟩;refine CallsDIn.mono (hD1 _ _ _ w6) ?_;rintro e u' w' ⟨v,rfl,rfl,rfl⟩;have g3:=h3 i hi (w,[],true) As η m hd η6 m6 f6 w' (fun n v h=>by rw[hη]at h; cases h) (Mem.tr l3 l6) gm6;obtain⟨v,hr,hR⟩:=g3 w' (Pd.rfl' w');exact⟨v,hr a6 s6.1,v,rfl,k3.tr s6.2.keep,hR⟩
 rintro e a6 w6 ⟨f6,s6,q⟩;cases e with
 |normal=>exact fin a6 w6 f6 s6 q
 |ret=>exact fin a6 w6 f6 s6 q
 |exit id=>exact q.elim
 |goto l=>exact q.elim
 |outgrown=>exact q.elim
 |panic ch=>
  obtain⟨rfl,_,hx,η6,m6,le6,l6,gm6⟩:=q;have hd6:a6.defers=[dd]:=by rw[s6.2.just rfl]; show dd::a3.defers=_; rw[hd3]
  show LeavesInM _ _ _ _ _ _ a6.defers _ _;rw[hd6];have q0:η6 0=some (pt b0 0):=le6 0 _ (by show(if _ then _ else _)=_; rw[AkA (by omega)]; exact e2);have q1:η6 1=some (pt b1 0):=le6 1 _ (by show(if _ then _ else _)=_; rw[AkA (by omega)]; exact e3);have q2:η6 2=some (pt b2 0):=le6 2 _ (by show(if _ then _ else _)=_; rw[AkA (by omega)]; exact e4);have one: ∀{n b:Nat} {t:TypeId} {zs:List D} {As:List Ow},η6 n=some (pt b 0)→St m6 (rep η6 m6 (.box n (zs.map fun _=> .any) t)::As) w6→∃c:List Value,c.length=zs.length∧(∀v∈c,v.oneCell'=true)∧St m6 (bx b c t::As) w6:=by
   intro n b t zs As hb S;obtain⟨b',cs,k0,k1,k2,S1⟩:=St.openBox S;rw[hb]at k0; obtain rfl:b=b':=by have:=Akr k0; simpa using this
   exact⟨cs,by have:=k1.1; simpa using this.symm,k2,S1⟩
  obtain⟨c0,n0,y0,T1⟩:=one q0 gm6.st;obtain⟨c1,n1,y1,T2⟩:=one q1 (T1.perm (Ak8 _ _ _));obtain⟨c2,n2,y2,T3⟩:=one q2 (T2.perm ((List.perm_append_comm (l₁:=[_,_]) (l₂:=[_])).append_right _));have T4:=T3.perm (show(_::_::_::_).Perm (_::_::_::_)from(List.Perm.cons _ (Ak8 _ _ _)).trans ((Ak8 _ _ _).trans (List.Perm.cons _ (Ak8 _ _ _))));refine⟨by simp,.inr ⟨(fun h=>by cases h),.func kd, #[pt b0 0,pt b1 0,pt b2 0],kd, #[pt b0 0,pt b1 0,pt b2 0],rfl,hinv w6,fun _ _=>trivial,?_⟩⟩;refine CallsDIn.mono (hD2 hx m6 As w6 b0 b1 b2 c0 c1 c2 n0 n1 n2 y0 y1 y2 T4) ?_;rintro e u' w' ⟨v,rfl,rfl,kk,M,u0,u1,u2,l7,x0,x1,x2,S5⟩;have cl: ∀{n b:Nat} {u:List Value} {z:List D} {t:TypeId} {As:List Ow},η6 n=some (pt b 0)→FRL M z u→St M (bx b u t::As) w'→St M (rep η6 M (.box n (z.map .d) t)::As) w':=fun hb hx S=>St.closeBox hb (.ofD hx) hx.one S;have S6:=cl q0 x0 S5;have S7:=cl q1 x1 (S6.perm (Ak8 _ _ _));have S8:=cl q2 x2 (S7.perm ((List.perm_append_comm (l₁:=[_,_]) (l₂:=[_])).append_right _));have S9:=S8.perm (show(_::_::_::_).Perm (_::_::_::_)from(List.Perm.cons _ (Ak8 _ _ _)).trans ((Ak8 _ _ _).trans (List.Perm.cons _ (Ak8 _ _ _))));have gm7:Gm As ⟨[(s0,.pb 0 0),(s1,.pb 1 0),(s2,.pb 2 0)],[(0,.box 0 (zs0.map .d) t0),(1,.box 1 (zs1.map .d) t1),(2,.box 2 (zs2.map .d) t2)],[],3⟩ η6 M f6 w':=⟨fun t=>(gm6.slr t).up Env.le_refl l7,gm6.fz.up Env.le_refl l7,gm6.dom,S9,gm6.wf.nd,gm6.wf.lt⟩;have g4:=h4 hx (w,[],true) As η m hd η6 M f6 w' (fun n v h=>by rw[hη]at h; cases h) (Mem.tr l3 (Mem.tr l6 l7)) gm7;obtain⟨v,hr,hR⟩:=g4 w' (Pd.rfl' w');exact⟨v,hr a6 s6.1,v,rfl,(k3.tr s6.2.keep).tr kk,hR⟩
theorem par_of {k kd d id:Nat}{fn:Func}{R0 R1 REST:Code}{ty1 ty2:TypeId}{pos1 pos2:String}{af1 af2:Array Edge}{args:List AV}{r:AV}{ov:Value}{J1:AS}{ι:Type}{JE:ι→AS}{okE:ι→Prop}{ok1 okX:Prop}{zs0 zs1 zs2:List D}{s0 s1 s2:Nat}{t0 t1 t2:TypeId}
  (hc: ∀(a:Array Value) w,(callFunc k a).run P w= .ok (.enter k a) w) (hcd: ∀(a:Array Value) w,(callFunc kd a).run P w= .ok (.enter kd a) w) (hf:P.funcs[k]? =some fn)
  (hb:fn.body=some (.seq R0 (.seq R1 (.seq (.region id #[⟨some d,.makeFunc (.func kd) #[] #[.tmp s0,.tmp s1,.tmp s2],ty1,pos1,af1,none⟩,⟨none,.defer ⟨.value (.tmp d), #[], #[]⟩,ty2,pos2,af2,none⟩] false) REST))))
  (hN:fn.ntmps=N) (hle:Nat.ble args.length N=true) (hdN:Nat.blt d N=true) (hJ:(get J1.sl d,get J1.sl s0,get J1.sl s1,get J1.sl s2)=(.any,.pb 0 0,.pb 1 0,.pb 2 0))
  (h1: ∀D0 As η0 m0 Jp,(∀n,η0 n≠none→n<0)→Bk As η0 m0 (fun _:Unit=>J1) (fun _=>ok1) Jp→Go none P N D0 (Q4 P N fn (Ix As η0 m0 (is r [] 0))) As η0 m0 ⟨Q9 args [] 0,.code R0,[.code R1,.ctn Jp]⟩)
  (h2:ok1→∀D0 As η0 m0,(∀n,η0 n≠none→n<3)→Go none P N D0 (Ze (Rl As η0 m0 JE okE) ov (Rl As η0 m0 (fun _:Unit=>⟨[(s0,.pb 0 0),(s1,.pb 1 0),(s2,.pb 2 0)],[(0,.box 0 (zs0.map fun _=> .any) t0),(1,.box 1 (zs1.map fun _=> .any) t1),(2,.box 2 (zs2.map fun _=> .any) t2)],[],3⟩) (fun _=>okX))) As η0 m0 ⟨J1,.code REST,[]⟩)
  (h3: ∀i,okE i→∀D0 As η0 m0,(∀n,η0 n≠none→n<0)→Go none P N D0 (Q4 P N fn (Ix As η0 m0 (is r [] 0))) As η0 m0 ⟨JE i,.ret,[]⟩)
  (h4:okX→∀D0 As η0 m0,(∀n,η0 n≠none→n<0)→Go none P N D0 (Q4 P N fn (Ix As η0 m0 (is r [] 0))) As η0 m0 ⟨⟨[(s0,.pb 0 0),(s1,.pb 1 0),(s2,.pb 2 0)],[(0,.box 0 (zs0.map .d) t0),(1,.box 1 (zs1.map .d) t1),(2,.box 2 (zs2.map .d) t2)],[],3⟩,.ret,[]⟩)
  (hD1: ∀(a b c:Value) (w:World),CallsDIn (FW none) 0 P kd #[a,b,c] .returning w fun e u' w'=> ∃v,e= .returned v∧u'= .returning∧w'=w)
  (hD2:okX→∀(m:Mem) (As:List Ow) (w:World) (b0 b1 b2:Nat) (c0 c1 c2:List Value),c0.length=zs0.length→c1.length=zs1.length→c2.length=zs2.length→(∀v∈c0,v.oneCell'=true)→(∀v∈c1,v.oneCell'=true)→(∀v∈c2,v.oneCell'=true)→St m (bx b0 c0 t0::bx b1 c1 t1::bx b2 c2 t2::As) w→
   CallsDIn (FW none) 0 P kd #[pt b0 0,pt b1 0,pt b2 0] (.panicking (chn ov)) w fun e u' w'=> ∃v,e= .returned v∧u'= .panicking [{v:=ov,recovered:=true}]∧Kd w w'∧
    ∃M u0 u1 u2,m≤M∧FRL M zs0 u0∧FRL M zs1 u1∧FRL M zs2 u2∧St M (bx b0 u0 t0::bx b1 u1 t1::bx b2 u2 t2::As) w'):Sf P k args r:=by
 refine⟨hc,fun η m As w vs hv hd S=> ?_⟩;refine Kz (ρ:=none) (n:=0) (callsIn_of_wp_marks hf hb trivial ?_);have hle':vs.length≤N:=by rw[←hv.1]; exact AkG hle
 have a0:Sim N {tmps:=vs.toArray++Array.replicate (fn.ntmps-vs.toArray.size) undef,defers:=[]} (f0 vs)∧Okd (w,[],true) {tmps:=vs.toArray++Array.replicate (fn.ntmps-vs.toArray.size) undef,defers:=[]} w:=
  ⟨sim0 hN hle',Okd.base (a:={tmps:=vs.toArray++Array.replicate (fn.ntmps-vs.toArray.size) undef,defers:=[]}) (Kd.rfl' w)⟩
 have g1:=h1 (w,[],true) As η m _ hd ⟨fun _ _ h=>h⟩ η m (f0 vs) w Env.le_refl (Mem.rfl' m) (Qf hv hd S);exact NL g1 a0 (fun f1 w1 a1 q1 s1=>NL q1 s1 (fun f3 w3 a3 q3 s3=>Zc hcd hN hle hdN hJ h2 h3 h4 hD1 hD2 hd q3 s3) fun e f' w' a' hne q s=>TA (by cases e<;>first|exact absurd rfl hne|exact q) s) fun e f' w' a' hne q s=>TA (by cases e<;>first|exact absurd rfl hne|exact q) s
theorem X2 {k kd d id:Nat}{fn:Func}{R0 REST:Code}{ty1 ty2:TypeId}{pos1 pos2:String}{af1 af2:Array Edge}{args:List AV}{r:AV}{ov:Value}{J1:AS}{ι:Type}{JE:ι→AS}{okE:ι→Prop}{ok1 okX:Prop}{zs0 zs1 zs2:List D}{s0 s1 s2:Nat}{t0 t1 t2:TypeId}
  (hc: ∀(a:Array Value) w,(callFunc k a).run P w= .ok (.enter k a) w) (hcd: ∀(a:Array Value) w,(callFunc kd a).run P w= .ok (.enter kd a) w) (hf:P.funcs[k]? =some fn)
  (hb:fn.body=some (.seq R0 (.seq (.region id #[⟨some d,.makeFunc (.func kd) #[] #[.tmp s0,.tmp s1,.tmp s2],ty1,pos1,af1,none⟩,⟨none,.defer ⟨.value (.tmp d), #[], #[]⟩,ty2,pos2,af2,none⟩] false) REST)))
  (hN:fn.ntmps=N) (hle:Nat.ble args.length N=true) (hdN:Nat.blt d N=true) (hJ:(get J1.sl d,get J1.sl s0,get J1.sl s1,get J1.sl s2)=(.any,.pb 0 0,.pb 1 0,.pb 2 0))
  (h1: ∀D0 As η0 m0 Jp,(∀n,η0 n≠none→n<0)→Bk As η0 m0 (fun _:Unit=>J1) (fun _=>ok1) Jp→Go none P N D0 (Q4 P N fn (Ix As η0 m0 (is r [] 0))) As η0 m0 ⟨Q9 args [] 0,.code R0,[.ctn Jp]⟩)
  (h2:ok1→∀D0 As η0 m0,(∀n,η0 n≠none→n<3)→Go none P N D0 (Ze (Rl As η0 m0 JE okE) ov (Rl As η0 m0 (fun _:Unit=>⟨[(s0,.pb 0 0),(s1,.pb 1 0),(s2,.pb 2 0)],[(0,.box 0 (zs0.map fun _=> .any) t0),(1,.box 1 (zs1.map fun _=> .any) t1),(2,.box 2 (zs2.map fun _=> .any) t2)],[],3⟩) (fun _=>okX))) As η0 m0 ⟨J1,.code REST,[]⟩)
  (h3: ∀i,okE i→∀D0 As η0 m0,(∀n,η0 n≠none→n<0)→Go none P N D0 (Q4 P N fn (Ix As η0 m0 (is r [] 0))) As η0 m0 ⟨JE i,.ret,[]⟩)
  (h4:okX→∀D0 As η0 m0,(∀n,η0 n≠none→n<0)→Go none P N D0 (Q4 P N fn (Ix As η0 m0 (is r [] 0))) As η0 m0 ⟨⟨[(s0,.pb 0 0),(s1,.pb 1 0),(s2,.pb 2 0)],[(0,.box 0 (zs0.map .d) t0),(1,.box 1 (zs1.map .d) t1),(2,.box 2 (zs2.map .d) t2)],[],3⟩,.ret,[]⟩)
  (hD1: ∀(a b c:Value) (w:World),CallsDIn (FW none) 0 P kd #[a,b,c] .returning w fun e u' w'=> ∃v,e= .returned v∧u'= .returning∧w'=w)
  (hD2:okX→∀(m:Mem) (As:List Ow) (w:World) (b0 b1 b2:Nat) (c0 c1 c2:List Value),c0.length=zs0.length→c1.length=zs1.length→c2.length=zs2.length→(∀v∈c0,v.oneCell'=true)→(∀v∈c1,v.oneCell'=true)→(∀v∈c2,v.oneCell'=true)→St m (bx b0 c0 t0::bx b1 c1 t1::bx b2 c2 t2::As) w→
   CallsDIn (FW none) 0 P kd #[pt b0 0,pt b1 0,pt b2 0] (.panicking (chn ov)) w fun e u' w'=> ∃v,e= .returned v∧u'= .panicking [{v:=ov,recovered:=true}]∧Kd w w'∧
    ∃M u0 u1 u2,m≤M∧FRL M zs0 u0∧FRL M zs1 u1∧FRL M zs2 u2∧St M (bx b0 u0 t0::bx b1 u1 t1::bx b2 u2 t2::As) w'):Sf P k args r:=by
 refine⟨hc,fun η m As w vs hv hd S=> ?_⟩;refine Kz (ρ:=none) (n:=0) (callsIn_of_wp_marks hf hb trivial ?_);have hle':vs.length≤N:=by rw[←hv.1]; exact AkG hle
 have a0:Sim N {tmps:=vs.toArray++Array.replicate (fn.ntmps-vs.toArray.size) undef,defers:=[]} (f0 vs)∧Okd (w,[],true) {tmps:=vs.toArray++Array.replicate (fn.ntmps-vs.toArray.size) undef,defers:=[]} w:=
  ⟨sim0 hN hle',Okd.base (a:={tmps:=vs.toArray++Array.replicate (fn.ntmps-vs.toArray.size) undef,defers:=[]}) (Kd.rfl' w)⟩
 have g1:=h1 (w,[],true) As η m _ hd ⟨fun _ _ h=>h⟩ η m (f0 vs) w Env.le_refl (Mem.rfl' m) (Qf hv hd S);exact NL g1 a0 (fun f3 w3 a3 q3 s3=>Zc hcd hN hle hdN hJ h2 h3 h4 hD1 hD2 hd q3 s3) fun e f' w' a' hne q s=>TA (by cases e<;>first|exact absurd rfl hne|exact q) s
theorem BP.anys {η:Env}{m:Mem}: ∀{cs:List Value},BP η m (List.replicate cs.length .any) cs
 | []=> .nil
 |_::_=> .cons (.any _) BP.anys
theorem Pa {kd id t1:Nat}{fd:Func}{REST:Code}{cts:Array TypeId}{ty1:TypeId}{pos1:String}{af1:Array Edge}{args:List Value}{u u':FrameMode}{v:Value}{w:World}{R:World→Prop}
  (hf:P.funcs[kd]? =some fd) (hb:fd.body=some (.seq (.region id #[⟨some t1,.call ⟨.builtin .recover, #[],cts⟩,ty1,pos1,af1,none⟩] false) REST)) (hN:fd.ntmps=N) (hr0:fd.results= #[])
  (hle:args.length≤N) (h1:Nat.blt t1 N=true)
  (hv: ∀(c₀:Frame) (cs:List Frame),c₀.mode=u→recoverD (c₀::cs)=some (v,{c₀ with mode:=u'}::cs)∨(recoverD (c₀::cs)=none∧v= .nilIface∧u'=u))
  (h:wpc none P N (w,[],true) REST (fun e f w'=>(e= .normal∨e= .ret)∧R w') (upo N (f0 args) (some t1) v) w):
  CallsDIn (FW none) 0 P kd args.toArray u w fun e u2 w'=> ∃x,e= .returned x∧u2=u'∧Kd w w'∧R w':=by
 refine callsDIn_of_wpSIn hf hb trivial fun c₀ cs hu=> ?_;let a0:Act:={tmps:=args.toArray++Array.replicate (fd.ntmps-args.toArray.size) undef,defers:=[]};have s0:Sim N a0 (f0 args):=sim0 hN hle;let a2:Act:=a0.put (some t1) v;have s2:Sim N a2 (upo N (f0 args) (some t1) v):=s0.put (some t1) v;have hcs: ∃cs',(match recoverD (c₀::cs)with|some (x,c2)=>(x,c2)|none=>(.nilIface,c₀::cs))=(v,cs')∧cs'={c₀ with mode:=u'}::cs:=by
  rcases hv c₀ cs hu with e|⟨e,rfl,rfl⟩
  ·exact⟨_,by rw[e],rfl⟩
  ·refine⟨_,by rw[e],?_⟩;subst hu; rfl
 obtain⟨cs',he,hcs'⟩:=hcs;have key:REST.wpSIn (FW none) 0 P (bodyPostS P fd c₀ cs fun e u2 w'=> ∃x,e= .returned x∧u2=u'∧Kd w w'∧R w') a2 cs' w:=by
  refine wpSIn_of_wpIn rfl (wpIn_mono (h a2 ⟨s2,Kd.rfl' w,[],rfl,fun _=>rfl,List.nodup_nil,fun b hb=>by cases hb⟩) ?_);rintro e a w' ⟨f,⟨s,ok⟩,hk,hR⟩;have hd:a.defers=[]:=ok.just rfl;have hres:(results fd a.tmps).run P w'= .ok (.tuple #[]) w':=by simp[results,hr0]
  rcases hk with rfl|rfl
  ·exact⟨hd,u',hcs',_,hres,_,rfl,rfl,ok.keep,hR⟩
  ·exact⟨hd,u',hcs',_,hres,_,rfl,rfl,ok.keep,hR⟩
 refine wpSIn_seq (wpSIn_region ?_);show wpOpsSIn (FW none) 0 P _ _ [0] a0 (c₀::cs) w;have r1:(execOp a0.eval ⟨some t1,.call ⟨.builtin .recover, #[],cts⟩,ty1,pos1,af1,none⟩).run P w= .ok .recover w:=by
  simp[execOp,resolve,invoke,go_sem]
 exact Ag2 rfl rfl r1 he key
end
theorem Afi (a:AV):W8 (fun j=>j) a=a:=by cases a<;>rfl
theorem Wr (l:List AV):l.map (W8 fun j=>j)=l:=by
 induction l with
 |nil=>rfl
 |cons a l ih=>rw[AkZ,ih,Afi]
theorem Y1 (a:AV):Aax (fun j=>j) a=a:=by
 cases a<;>first|rfl|(simp only[Aax,Wr]; done)|(simp only[Aax,W8])
theorem Y2 (a:AV):Rh (fun j=>j) a=a:=by
 have hB: ∀l:List AV,l.map (Aax fun j=>j)=l:=fun l=>by
  induction l with
  |nil=>rfl
  |cons a l ih=>rw[AkZ,ih,Y1]
 cases a<;>first|(simp only[Rh,Y1]; done)|(simp only[Rh,hB]; done)|(simp only[Rh,Wr])
theorem Afh (o:AObj):PO (fun j=>j) o=o:=by
 have hA: ∀l:List AV,l.map (Rh fun j=>j)=l:=fun l=>by
  induction l with
  |nil=>rfl
  |cons a l ih=>rw[AkZ,ih,Y2]
 cases o<;>simp only[PO,hA]
def AcF (s:AS)(ns:List Nat):List Tok:=s.ob.filter fun q=>Fh q.2.nm ns
def AaC (cf:Cf)(ns ks:List Nat):AS:=⟨rst ks cf.s.sl,AcF cf.s ns,[],cf.s.nx⟩
def Wj (s:AS)(p:Aa2)(ns:List Nat):Stp:=⟨.any,((p.ut++p.fw)++p.fr)++AcF s ns,[],[],s.nx,[]⟩
def Afx (P:Program)(N:Nat)(cf:Cf)(ea:List AV)(eobs:List AObj)(ns ks:List Nat):Option (Bool×Eqs):=
 match cf.md,Ni cf ea eobs with
 | .ops true l (o::rest) h,some p=>match Aat P N l h.length (h.length+1) (after N cf.s o (Wj cf.s p ns)) rest with
  |some q=>some (o.guard.isNone&&Vh l (h++(o,Wj cf.s p ns)::q.1)&&(ks.all fun t=>l.all fun o=> !isD o.dst t)&&Xc (tids (((p.ut++p.fw)++p.fr)++AcF cf.s ns)),q.2)
  |none=>none
 |_,_=>none
def AcH (P:Program)(N:Nat)(cf:Cf)(ea:List AV)(eobs:List AObj)(ns ks:List Nat):Eqs:=match Afx P N cf ea eobs ns ks with|some q=>q.2|none=> []
section
variable {ρ:Option Nat}{P:Program}{N:Nat}{D0:Dw}{Q:DJ}{As:List Ow}{η0:Env}{m0:Mem}
theorem Age (ns ks:List Nat)(hm:P.follows .mixedOrders=true){n:Nat}{cf:Cf}{k:FuncId}{ea:List AV}{eobs:List AObj}{n0:Nat}{ov:Value}{Po:AV→List AObj→Nat→Prop}{Xp:Prop}{n1:Nat}{Je:Fr→World→Prop}{J:AS}{Xq:Prop}(hd: ∀n,η0 n≠none→n<n1)(hs:Sb P k ea eobs n0 ov Po Xp)(hP: ∀a o n,¬Po a o n)(hx:Xq)
  (e:(Ld (adv P N n cf).1 ea eobs n0,(Afx P N (adv P N n cf).1 ea eobs ns ks).map (·.1),((adv P N n cf).2++(PF (adv P N n cf).1++AcH P N (adv P N n cf).1 ea eobs ns ks)).map (·.1))=
   (some (k,(FH (adv P N n cf).1 ea eobs).1,(FH (adv P N n cf).1 ea eobs).2,true),some true,((adv P N n cf).2++(PF (adv P N n cf).1++AcH P N (adv P N n cf).1 ea eobs ns ks)).map (·.2)))
  (ev:(vwL (AaC (adv P N n cf).1 ns ks) J n1,(vwP (AaC (adv P N n cf).1 ns ks) J).isSome,Nat.ble n1 (adv P N n cf).1.s.nx,(AcF (adv P N n cf).1.s ns).all (fun q=>okO (adv P N n cf).1.s.nx q.2&&Nat.blt q.1 (adv P N n cf).1.s.nx)&&ks.all (fun t=>okA (adv P N n cf).1.s.nx (get (adv P N n cf).1.s.sl t)))=(vwR (AaC (adv P N n cf).1 ns ks) J,true,true,true)):Go ρ P N D0 (Ze Je ov (Rl As η0 m0 (fun _:Unit=>J) (fun _=>Xq))) As η0 m0 cf:=by
 simp only[Akt]at e ev;obtain⟨e1,e2,e3⟩:=e;obtain⟨v1,v2,v3,v4⟩:=ev;simp only[Aks]at v4;obtain⟨v4,v5⟩:=v4;have v3:=AkG v3;obtain⟨he1,he2⟩:=EqsOk.two e3;have he3:=(EqsOk.app.1 he2).2;refine MD hm he1 ?_;clear e3 he1 he2;generalize (adv P N n cf).1=c0 at*;obtain⟨s,md,K⟩:=c0;unfold AcH at he3;unfold Afx at e2 he3;split at e2
 ·rename_i l o rest h p hmd hp;simp only at hmd; subst hmd;simp only[hp]at he3;split at e2
  ·rename_i q hq;simp only[hq]at he3;simp only[AkL,Akv,Aks]at e2;obtain⟨⟨⟨hg',hfl⟩,hks⟩,hnx⟩:=e2;have hg:o.guard=none:=by simpa using hg'
   unfold Ld FH at e1;rw[hp]at e1;simp only[Akv,Akt]at e1;obtain⟨ek,eas,eobj,eok⟩:=e1;obtain⟨r1,r2,r3⟩:=Rg (ρ:=ρ) (D0:=D0) hq he3;unfold Ni Gt at hp;simp only[hg]at hp;split at hp
   ·rename_i _ c _ hop;split at hp
    ·rename_i k' asv hc;simp only[Tz,Aks]at eok;obtain⟨o1,o2,o3,o4,o5,o6,-⟩:=eok;have hpk:p.k=k':=by
      unfold Q3 at hp;simp only at hp;split at hp
      ·have:=Akr hp; rw[←this]
      ·cases hp
     have hnd:=E1 o3;refine .inr (.inr ⟨rfl,(o,Wj s p ns)::q.1,fun i=>match i with|0=>true|i+1=>anc (Rm l []) (h.length+(i+1)) h.length,0,(o,Wj s p ns),ks,by simp[r1],⟨AkC _,⟨fun x hx=>by
      have hx:x∈((p.ut++p.fw)++p.fr)++AcF s ns:=by simpa[Wj]using hx
      rcases AkS.1 hx with h|h
      ·exact Pc hp x h
      ·exact(List.mem_filter.1 h).1,by simpa[Wj]using E1 hnx,by simp[tids,Wj],fun t ht=>by simp[tids,Wj]at ht⟩,r2⟩,?_,hfl,rfl,rfl,?_,rfl,hks,?_⟩)
     ·intro i r hr hb;cases i with
      |zero=>cases hb
      |succ i=>exact r3 i r (by simpa using hr) (by rw[show h.length+1+i=h.length+(i+1)from by omega]; exact hb)
     ·intro i _ hb;cases i with
      |zero=>exact .inl rfl
      |succ i=>exact .inr hb
     ·intro η m f w Bs0 hrel hz hη0 hm0 S;obtain⟨dst,op,ty,pos,af,gd⟩:=o;simp only at hg hop; subst hg hop;have hsl: ∀t∈opT (.call c)++ks,Rel η m (get s.sl t) (f t):=fun t ht=>by
       have:=hrel t;have e5:get (rst (opT (.call c)++ks) s.sl) t=get s.sl t:=P5 ht;rw[←e5]; exact this
      have hr: ∀t,Rel η m (get (rst (opT (.call c)) s.sl) t) (f t):=LY fun t ht=>hsl t (List.mem_append_left _ ht);have S:St m (reps η m (((p.ut++p.fw)++p.fr)++AcF s ns)++(Bs0++As)) w:=S;rw[AU,Akw]at S;obtain⟨Bs,hBs⟩: ∃Bs,Bs=reps η m (AcF s ns)++Bs0:=⟨_,rfl⟩;rw[←Akw (reps η m (AcF s ns)),←hBs]at S;refine OH (η:=η) (m:=m) (X:=fun w'=> ∃M,m≤M∧St M (Bs++As) w') (R:=fun _ _=>False) (ov:=ov) hc (by rw[←hpk,ek]; exact hs.1) hr hz (fun vs hv=> ?_) (fun v w2 q=>q.elim) fun w2 q=> ?_
      ·obtain⟨m1,l1,r1,S1⟩:=R3 hp o5 o6 hv S;rw[eas]at r1;rw[eobj]at S1;let φ:Nat→Nat:=fun j=>Ii p.mt j 0;let η1:Env:=fun j=>if j<n0 then η (φ j)else none;have hη1: ∀j,j<n0→η (φ j)=η1 j:=fun j hj=>(AkA hj).symm;have S8:St m1 (eobs.map (rep η1 m1)++(Bs++As)) w:=by
        refine S1.imp (by simp) fun i A B ha hb x hx=> ?_;rw[List.getElem?_append]at ha hb;simp only[AkW]at ha hb;split at ha
        ·rename_i q;rw[AkA q]at hb;simp only[AkP,Akx]at ha hb;obtain⟨o',⟨o,ho,rfl⟩,rfl⟩:=ha;obtain⟨o2',ho',rfl⟩:=hb;rw[ho]at ho'; cases ho';exact LZ hη1 (AkI.1 o2 o (AkQ ho)) hx
        ·rename_i q;rw[Aky q]at hb;rw[ha]at hb; cases hb; exact hx
       rw[←hpk,ek];refine Calls.mono (hs.2 η1 m1 _ w vs (Nh hη1 o1 r1) (fun j hj=>by
        by_cases q:j<n0
        ·exact q
        ·exact absurd (Aky q) hj) S8) fun e w' q=> ?_
       rcases q with ⟨v,_,_,M,η',r,obs',n1,_,_,hpo,_⟩|⟨q1,q2,q3,M,q4,q5⟩
       ·exact absurd hpo (hP _ _ _)
       ·exact .inr ⟨q1,q2,M,Mem.tr l1 q4,q5⟩
      ·obtain⟨M,le,S2⟩:=q;refine pkP (Q:=Ze Je ov (Rl As η0 m0 (fun _:Unit=>J) (fun _=>Xq))) ⟨rfl,(),hx,?_⟩;rw[hBs,Akw]at S2;have S3:=S2.perm (AkE (reps η m (AcF s ns)) Bs0 As);obtain⟨M2,l2,S4⟩:=RU S3;have lm:m≤M2:=Mem.tr le l2;let ηx:Env:=fun j=>if j<s.nx then η j else none;have hηx: ∀j,j<s.nx→η j=ηx j:=fun j hj=>(AkA hj).symm;have gmx:Gm As ⟨rst ks s.sl,AcF s ns,[],s.nx⟩ ηx M2 f w2:=by
        refine⟨LY fun t ht=> ?_,(fun n d h=>by cases h),fun n hn=> ?_,?_,⟨?_,fun t ht=> ?_⟩⟩
        ·exact XX (φ:=fun j=>j) hηx (AkI.1 v5 t ht) (by rw[Y2]; exact(hsl t (List.mem_append_right _ ht)).up Env.le_refl lm)
        ·by_cases q:n<s.nx
         ·exact q
         ·exact absurd (Aky q) hn
        ·have S5:=St.ru (η:=η) Env.le_refl lm S4;refine S5.imp (by simp[reps]) fun i A B ha hb x hx=> ?_;rw[List.getElem?_append]at ha hb;simp only[reps,AkW]at ha hb;split at ha
         ·rename_i q;rw[AkA q]at hb;simp only[AkP,Akx]at ha hb;obtain⟨o1,ho1,rfl⟩:=ha;obtain⟨o2,ho2,rfl⟩:=hb;rw[ho1]at ho2; cases ho2;exact LZ (φ:=fun j=>j) hηx (by have:=AkI.1 v4 o1 (AkQ ho1); simp only[Aks]at this; exact this.1) (by rw[Afh]; exact hx)
         ·rename_i q;rw[Aky q]at hb;rw[ha]at hb; cases hb; exact hx
        ·have:=E1 hnx;simp only[tids,Ak3]at this⊢;exact(List.nodup_append.1 this).2.1
        ·simp only[tids,List.mem_map]at ht;obtain⟨q,hq,rfl⟩:=ht;have:=AkI.1 v4 q hq;simp only[Aks]at this;exact Cy this.2
       have le0:η0.le ηx:=fun j v e=>by
        have:j<n1:=hd j (by rw[e]; simp);show(if j<s.nx then η j else none)=some v;have v3:n1≤s.nx:=v3;rw[AkA (by omega)]; exact hη0 j v e
       obtain⟨η',m',l,le3,g'⟩:=M7 v1 v2 hd le0 gmx;exact⟨η',m',le3,Mem.tr hm0 (Mem.tr lm l),g'⟩
    ·cases hp
   ·cases hp
  ·cases e2
 ·cases e2
theorem AjD {cf:Cf}(ns ks:List Nat){k:FuncId}{ea:List AV}{eobs:List AObj}{n0 n1 n2:Nat}{t:TypeId}{z:Int×Int}{β γ:Type}{A:β→AV}{O:β→List AObj}{Xp:Prop}{Je:Fr→World→Prop}{J:AS}{ok:Prop}(hs:Sb P k ea eobs n0 (thV t (.error z:Except (Int×Int) β)) (Pos (exo (.error z:Except (Int×Int) β)) A O n2) Xp)(hx:ok)(hd: ∀n,η0 n≠none→n<n1)
 (e:(Ld (aC P N cf) ea eobs n0,(Afx P N (aC P N cf) ea eobs ns ks).map (·.1),((aD P N cf)++(PF (aC P N cf)++AcH P N (aC P N cf) ea eobs ns ks)).map (·.1))=
  (some (k,(FH (aC P N cf) ea eobs).1,(FH (aC P N cf) ea eobs).2,true),some true,((aD P N cf)++(PF (aC P N cf)++AcH P N (aC P N cf) ea eobs ns ks)).map (·.2)):=by kernel_rfl)
 (ev:(vwL (AaC (aC P N cf) ns ks) J n1,(vwP (AaC (aC P N cf) ns ks) J).isSome,Nat.ble n1 (aC P N cf).s.nx,(AcF (aC P N cf).s ns).all (fun q=>okO (aC P N cf).s.nx q.2&&Nat.blt q.1 (aC P N cf).s.nx)&&ks.all (fun t=>okA (aC P N cf).s.nx (get (aC P N cf).s.sl t)))=(vwR (AaC (aC P N cf) ns ks) J,true,true,true):=by kernel_rfl) (hM:P.follows .mixedOrders=true:=by rfl):
 Go ρ P N D0 (Ze Je (thV t (.error z:Except (Int×Int) γ)) (Rl As η0 m0 (fun _:Unit=>J) (fun _=>ok))) As η0 m0 cf:=Age ns ks hM hd hs Ri hx e ev
end
theorem DU.flat {α:Type} [GoT α]{m:Mem}{z:List Value}{x:α}(h:GoT.rep m z x): ∀n:Nat,DU m (List.replicate n z).flatten (List.replicate n x)
 |0=>rfl
 |n+1=>⟨z,(List.replicate n z).flatten,rfl,h,DU.flat h n⟩
section
variable {P:Program}{ρ:Option Nat}{N:Nat}{D0:Dw}{Q:DJ}{As:List Ow}{η0:Env}{m0:Mem}
theorem s_mkN {α:Type} [GoT α]{ops:Array Oper}{rest:List Oper}{f:Fr}{w:World}{m:Mem}{dst:Option Nat}{t ty:TypeId}{x y:Operand}{pos:String}{af:Array Edge}{bytes sz:Nat}{k:Int}{z:Value}{zs:List Value}{x0:α}{e:TypeId}{ti:TypeInfo}(hS:St m As w)(hx:ev f x=vI k)(hy:ev f y=vI k)(hq:0≤k∧k*bytes≤140737488355328∧k≤140737488355328)
  (ht:P.underlying t=some (.slice e)) (hi:P.info? e=some ti) (hz:ti.zero=some z) (hsz:ti.size=sz) (hby:ti.bytes=bytes) (hzs:z.cells=zs.toArray) (hl:zs.length=sz) (h0:0<sz) (hr:GoT.rep m zs x0)
  (h: ∀v' cs' w',St m (row sz v' cs' (List.replicate k.toNat x0).length::As) w'→DU m cs' (List.replicate k.toNat x0)→wpl ρ P N D0 ops rest Q (upo N f dst v') w'):
  wpl ρ P N D0 ops (⟨dst,.makeSlice t x y,ty,pos,af,none⟩::rest) Q f w:=by
 obtain⟨k0,hb,h63⟩:=hq;obtain⟨n,rfl⟩:=Int.eq_ofNat_of_zero_le k0;subst hby;rw[Alg]at h;have hlen:((List.replicate n zs).flatten).length=n*sz:=by simp[hl]
 have hmc:(madeCells z.cells (n*ti.size)).toList=(List.replicate n zs).flatten:=by
  apply List.ext_getElem?;intro i;by_cases c:i<n*sz
  ·rw[Yi n i (by rw[hl]; exact c),hsz,hzs,hl];have c':i<(madeCells zs.toArray (n*sz)).size:=by simpa[madeCells]using c
   have hm:i%sz<zs.length:=by rw[hl]; exact Alk _ h0
   rw[Array.getElem?_toList,Array.getElem?_eq_getElem c',AkV hm];simp[madeCells,hl,AkV hm]
  ·rw[List.getElem?_eq_none (l:=(madeCells z.cells (n*ti.size)).toList) (by simp[madeCells,hsz]; omega),List.getElem?_eq_none (by rw[hlen]; omega)]
 have S1:=(hS.push (.cells (madeCells z.cells (n*ti.size)) e (0,0)) CI).imp0 (B:=row sz (.slice (some ⟨w.heap.size,0,none⟩) n n) (List.replicate n zs).flatten (List.replicate n x0).length) fun q hh=>by
  refine .inr ⟨w.heap.size,n,_,e,(0,0),by simp,hh,by simp[hl],?_,?_,by simp,?_,.inl rfl,.inl rfl⟩
  ·rw[hmc,Ak5 (by rw[hlen]; simp)]
  ·rw[size_madeCells,hsz]
  ·simp only[maxLen]; omega
 refine Aq (v:= .slice (some ⟨w.heap.size,0,none⟩) n n) (w':=w.alloc (.cells (madeCells z.cells (n*ti.size)) e (0,0))) rfl (fun _ e=>by cases e) ?_ (h _ _ _ S1 (DU.flat hr n)) (Kd.push w _);have:=run_make (P:=P) (w:=w) t e ti z ht hi hz .i64 .i64 (n:Int) (n:Int) (by omega) (by omega) (by rw[Int.mul_comm]; omega) (by omega);rw[Alg]at this;simp[execOp,hx,hy,vI,this]
def mknK (P:Program)(cf:Cf):Option (AV×AV×Nat×Nat×List Value):=
 match Gt cf with
 |some a=>match a.g,a.o.op with
  |none,.makeSlice t x y=>match P.underlying t with
   |some (.slice e)=>match JK P e with
    |some i=>match i.z with
     |some z=>bif Nat.blt 0 i.sz&&Nat.beq z.cells.toList.length i.sz then some (aev a.sl x,aev a.sl y,i.by_,i.sz,z.cells.toList)else none
     |none=>none
    |none=>none
   |_=>none
  |_,_=>none
 |none=>none
theorem gmkn {cf:Cf}{α:Type}{k:Int}{xs:List α}(E:α→List D)(x0:α)(zds:List D)(b:Nat)(q:mkS b x0 k=some xs)(g:Go ρ P N D0 Q As η0 m0 (push N (aC P N cf) (Afc (aC P N cf).s zds.length α E xs)))
  (e:(mknK P (aC P N cf),zds.all sc,aL P N cf)=(some (.d (.i k),.d (.i k),b,zds.length,zds.map scV),true,aR P N cf):=by kernel_rfl) (hE: ∀x,(E x).length=zds.length:=by intro x; rfl) (hz:E x0=zds:=by rfl) (hM:P.follows .mixedOrders=true:=by rfl):Go ρ P N D0 Q As η0 m0 cf:=by
 simp only[Akt]at e;obtain⟨e1,hsc,e3⟩:=e;obtain⟨he1,-⟩:=KB e3;refine AP hM he1 ?_;generalize aC P N cf=c0 at*;unfold mkS at q;split at q
 ·rename_i hq; cases q;unfold mknK at e1;split at e1
  ·rename_i a ha;split at e1
   ·rename_i t x y hg hop;split at e1
    ·rename_i e' hu;split at e1
     ·rename_i i hi;split at e1
      ·rename_i z hz';cases hb:Nat.blt 0 i.sz&&Nat.beq z.cells.toList.length i.sz
       ·rw[hb]at e1; cases e1
       ·rw[hb]at e1;simp only[cond_true,Akv,Akt]at e1;obtain⟨ex,ey,eb,es0,ez⟩:=e1;simp only[Aks]at hb;refine DC ha hg ⟨Ale _,fun rest Q η m f w As hr hfz hn S hk=> ?_⟩ Oy g;have hgd:=BG ha hg;obtain⟨l,⟨dst,op,ty,pos,af,gd⟩,gg,sl,es⟩:=a;simp only at hop hgd hk ex ey hr⊢; subst hop hgd;have rx:=Am hr x; rw[ex]at rx;have ry:=Am hr y; rw[ey]at ry;obtain⟨p1,p2,p3,p4,p5,p6⟩:=G5 hi;letI:=PQ E zds.length;have hrep: @GoT.rep α (PQ E zds.length) m (zds.map scV) x0:=⟨by rw[hz]; exact YW hsc,hE x0⟩;refine s_mkN (k:=k) (x0:=x0) (bytes:=b) (sz:=zds.length) (zs:=zds.map scV) S rx.i_inv ry.i_inv hq hu p1 (z:=z) (by rw[←p5,hz']) (by rw[←p4,es0]) (by rw[←p6,eb]) (by rw[←ez]) (by simp) (by rw[←es0]; exact Cy hb.1) hrep fun v cs w' S' hc=> ?_;obtain⟨hc1,-⟩:=XW hc;have h0:=hn c0.s.nx (AkC _) (AkO _);have h1:=Nc S';refine hk (η.put c0.s.nx v) m w' v (Env.le_put h0) (Mem.rfl' m) (fun n q=> ?_) (.ow Env.put_self h1) (St.closeRow Env.put_self h1 hc1 (fun x _=>hE x) S');rcases Env.put_dom q with q|q
        ·exact .inl q
        ·subst q; exact .inr ⟨AkC _,AkO _⟩
      ·cases e1
     ·cases e1
    ·cases e1
   ·cases e1
  ·cases e1
 ·cases q
theorem gstF {k:Nat}{cf:Cf}{α:Type}{E:α→List D}{xs:List α}{j:Int}{z0:α}(z:α)(fo:Nat)(Ds:List D)(hE: ∀x,(E x).length=k)(hq:idx xs j=some z0)(hz:E z=(E z0).take fo++Ds++(E z0).drop (fo+Ds.length))(g:Go ρ P N D0 Q As η0 m0 (push N (aC P N cf) (stOS P (aC P N cf) k α E (xs.set j.toNat z))))
  (e:((Aiq P (aC P N cf)).map (fun r=>(r.1,r.2.1,r.2.2.1,r.2.2.2.1,r.2.2.2.2.1,r.2.2.2.2.2.1)),Nat.ble (fo+Ds.length) k,(aL P N cf))=(some (.sl α E xs,j,fo,Ds.map dv,k,true),true,(aR P N cf)):=by kernel_rfl) (hm:P.follows .mixedOrders=true:=by rfl):Go ρ P N D0 Q As η0 m0 cf:=by
 simp only[Akt]at e;obtain⟨e1,hle,e3⟩:=e;have hle:=AkG hle;obtain⟨he1,-⟩:=KB e3;refine AP hm he1 ?_;generalize aC P N cf=c0 at*;cases hk:Aiq P c0 with
 |none=>rw[hk]at e1; cases e1
 |some r=>
  obtain⟨d,j',fo',ds,k',ok,nn,p,rd,fw⟩:=r;have hS:stOS P c0 k α E (xs.set j.toNat z)=⟨.no,rd,p::fw,enO c0.s.nx (.row nn k α E (xs.set j.toNat z)::OM fw),c0.s.nx+(1+(OM fw).length),[]⟩:=by unfold stOS; rw[hk]
  rw[hS]at g;rw[hk]at e1;simp only[AkL,Akv,Akt]at e1;obtain⟨e1,e2,e4,e5,e6,e7⟩:=e1;subst e1 e2 e4 e6 e7;unfold Aiq at hk;split at hk
  ·rename_i a ha;split at hk
   ·rename_i t x y hg hop;split at hk
    ·rename_i n' jj sz fo2 ds0 i h1 h2 hi;split at hk
     ·rename_i d' sz' p' hrow;simp only[Akv,Akt]at hk;obtain⟨q1,q2,q3,q4,q5,q6,q7,q8,q9,q10⟩:=hk;subst q1 q2 q3 q5 q7 q8 q9 q10;simp only[Aks]at q6;obtain⟨⟨b1,b2⟩,b3,b4,b5⟩:=q6;have b1:=Aku b1;have b2:=Aku b2;obtain⟨hmem,i0,α',E',xs',hd,hp⟩:=Rf hrow;cases hd; subst hp;subst b1;have hgd:=BG ha hg;have csub:=NT (ob:=c0.s.ob) (cs:=ds0);refine DC ha hg ?_ ?_ g
      ·obtain⟨l,⟨dst,op,ty,pos,af,gd⟩,gg,sl,es⟩:=a;simp only at hop hgd h1 h2⊢; subst hop hgd;refine⟨Nat.le_add_right _ _,fun rest Q η m f w As hr hfz hn S hk=> ?_⟩;simp only at S hk hn;rw[AU,Akw]at S;have S0:St m (rep η m (.row n' sz α E xs)::(reps η m (DI c0.s.ob ds0).2.2++(reps η m (DI c0.s.ob ds0).2.1++As))) w:=S;have S1:=S0.perm List.perm_middle.symm;obtain⟨m1,l1,K1,S2⟩:=Lc b5 S1;obtain⟨v,cs,a1,a2,a3,a4,S3⟩:=St.openRow (m:=m1) (St.imp0 S2 fun h hh=>rep.up Env.le_refl l1 hh);have S4:=S3.perm List.perm_middle.symm;have S5:=St.ru Env.le_refl l1 S4;obtain⟨K2,S6⟩:=ND b4 S5;have hr1: ∀t,Rel η m1 (get sl t) (f t):=fun t=>(hr t).up Env.le_refl l1;obtain⟨c1,c2⟩:=HY h2 (Am hr1 y);have c3:=NG c1 K1 K2;rw[q4,e5]at c3;have c4:=FRL.ofRelv c3;have rx:=Am hr1 x; rw[h1]at rx;obtain⟨v',hv',hp'⟩:=rx.pe_inv;rw[a1]at hv'; cases hv';letI:=PQ E sz;have hsz:(ev f y).cells.size=ds0.length:=by rw[c1.1]; simp
       have hszD:(ev f y).cells.size=Ds.length:=by have:=c4.1; rw[this]; simp
       have hR:=Y0 a3 a4;have hb:=hR.inb hq;have hb':jj.toNat*sz+sz≤cs.length:=hb;have hseg:GoT.rep m1 ((cs.drop (jj.toNat*sz)).take sz) z0:=DU.getI hR hq;have hf:FRL m1 (E z0) ((cs.drop (jj.toNat*sz)).take sz):=hseg.1;have hnew:FRL m1 (E z) (((cs.drop (jj.toNat*sz)).take sz).take fo2++(ev f y).cells.toList++((cs.drop (jj.toNat*sz)).take sz).drop (fo2+Ds.length)):=by
        rw[hz]; exact((hf.take fo2).append c4).append (hf.drop _)
       have hset:=DU.set hR (i:=jj.toNat) (y:=z) (by have:=NC hq; omega) (c:=_) ⟨hnew,hE z⟩;have hcs:cs.take (jj.toNat*sz)++(((cs.drop (jj.toNat*sz)).take sz).take fo2++(ev f y).cells.toList++((cs.drop (jj.toNat*sz)).take sz).drop (fo2+Ds.length))++cs.drop (jj.toNat*sz+sz)=
         cs.take (jj.toNat*sz+fo2)++(ev f y).cells.toList++cs.drop (jj.toNat*sz+fo2+Ds.length):=by
        have t1:((cs.drop (jj.toNat*sz)).take sz).take fo2=(cs.drop (jj.toNat*sz)).take fo2:=by rw[List.take_take,Nat.min_eq_left (by omega)]
        have t2:((cs.drop (jj.toNat*sz)).take sz).drop (fo2+Ds.length)=(cs.drop (jj.toNat*sz+fo2+Ds.length)).take (sz-(fo2+Ds.length)):=by
         rw[List.drop_take,All,Alo]
        have t3:cs.take (jj.toNat*sz+fo2)=cs.take (jj.toNat*sz)++(cs.drop (jj.toNat*sz)).take fo2:=List.take_add;have t4:cs.drop (jj.toNat*sz+sz)=(cs.drop (jj.toNat*sz+fo2+Ds.length)).drop (sz-(fo2+Ds.length)):=by
         rw[All]; congr 1; omega
        rw[t1,t2,t3,t4];simp only[Akw,List.take_append_drop]
       refine s_stO (i:=0) (sz:=sz) (off:=jj.toNat*sz+fo2) (n:=(xs.set jj.toNat z).length) S6 rfl rfl hp' (by rw[List.length_set]; rfl) (by rw[hsz,←b2]; exact Cc hi) c4.one (by rw[hszD]; omega) fun w' S7=> ?_;rw[hszD,←hcs]at S7;have hrep':=XW hset;refine hk η m1 w' undef Env.le_refl l1 (fun n h=> .inl h) .no ?_;rw[AU,Akw,GV];show St m1 (rep η m1 (.row n' sz α E (xs.set jj.toNat z))::((OM (DI c0.s.ob ds0).2.2).map (rep η m1)++(reps η m1 (DI c0.s.ob ds0).2.1++As))) w';have T1:=St.closeRow (η:=η) (n:=n') a1 a2 hrep'.1 hrep'.2 S7;have T2:=K4 K1 (Mq b4 K2 T1);exact T2.perm ((AkU _ Alj).trans Alj)
      ·refine⟨fun q hq=> ?_,E1 b3,?_,fun t ht=> ?_⟩
       ·simp only[AlA,Ak1]at hq;rcases hq with h|h
        ·subst h; exact hmem
        ·exact csub q h
       ·simp only; rw[Ef]; exact List.nodup_range'
       ·simp only at ht⊢;rw[Ef,List.mem_range']at ht;obtain⟨i2,hi2,rfl⟩:=ht;simp only[AkB]at hi2;omega
     ·cases hk
    ·cases hk
   ·cases hk
  ·cases hk
end
section
variable {P:Program}{ρ:Option Nat}{N:Nat}{D0:Dw}{Q:DJ}{As:List Ow}{η0:Env}{m0:Mem}
def isLp (cf:Cf):Bool:=match cf.md with| .code (.loop _)=>true|_=>false
def lpC (cf:Cf):Cf:=match cf.md with| .code (.loop c)=>⟨cf.s,.code c,.code c:: .ctn (fun _ _=>False)::cf.K⟩|_=>cf
theorem Aie {c:Code}{f:Fr}{w:World}(h:wpc ρ P N D0 c (J2 (fun f w=>wpc ρ P N D0 c (J2 (fun _ _=>False) Q) f w) Q) f w):wpc ρ P N D0 (.loop c) Q f w:=
 YA (fun k f w=>match k with|0=>False|1=>wpc ρ P N D0 c (J2 (fun _ _=>False) Q) f w|_=>wpc ρ P N D0 c (J2 (fun f w=>wpc ρ P N D0 c (J2 (fun _ _=>False) Q) f w) Q) f w) 2 h fun n f w hI=>by
  match n,hI with
  |1,h=>exact FI (fun e f w q=>by cases e<;>first|exact q|exact q.elim) h
  |n+2,h=>exact FI (fun e f w q=>by cases e<;>first|exact q|exact⟨1,by omega,q⟩) h
theorem AjC {cf:Cf}(g:Go ρ P N D0 Q As η0 m0 (lpC (aC P N cf)))(e:(isLp (aC P N cf),bL P N cf)=(true,bR P N cf):=by kernel_rfl)(hM:P.follows .mixedOrders=true:=by rfl):Go ρ P N D0 Q As η0 m0 cf:=by
 simp only[Akt]at e;obtain⟨e1,e2⟩:=e;refine AP hM (.of e2) ?_;generalize aC P N cf=c0 at*;obtain⟨s,md,K⟩:=c0;cases md with
 |code c=>
  cases c with
  |loop c=>
   intro η m f w a1 a2 gm;refine Aie (FI (fun ex f' w' q=> ?_) (g η m f w a1 a2 gm));cases ex with
   |normal=>exact FI (fun e f w q=>by cases e<;>first|exact q|exact q.elim) q
   |_=>exact q
  |_=>cases e1
 |_=>cases e1
def nilT (P:Program)(et:TypeId):Bool:=match JK P et with
 |some i=>match i.z with
  |some (.slice none 0 0)=>true
  |_=>false
 |none=>false
def lk0K (P:Program)(cf:Cf):Bool:=
 match Gt cf with
 |some a=>match a.o.op with
  | .lookup t x y false=>match P.underlying t,aev a.sl x with
   |some (.map kt et),.ow n=>match AaI cf.s.ob n with
    |some (_,.mg _ _ _ _ [])=>(SL P kt||skK P kt (aev a.sl y))&&(ckT P 9 kt (aev a.sl y)&&nilT P et)
    |_=>false
   |_,_=>false
  |_=>false
 |none=>false
theorem find0 {η:Env}{m:Mem}{kt:TypeId}{a:AV}{kk:Value}(hk:(SL P kt||skK P kt a)=true)(ha:Rel η m a kk)(w:World):(Instr.findKey kt kk []).run P w= .ok none w:=
 XT (κ:=Empty) (γ:=Unit) (K:=fun x=>nomatch x) (vf:=fun _=>undef) (p:=fun x=>nomatch x) hk ha (fun x=>nomatch x) (fun x=>nomatch x) (kv:=[]) rfl w
theorem glk0 {cf:Cf}(v:AV)(hv: ∀{η m},Rel η m v (.slice none 0 0))(g:Go ρ P N D0 Q As η0 m0 (CK N (aC P N cf) v (lkgT P (aC P N cf))))
  (e:(lk0K P (aC P N cf),(aL P N cf))=(true,(aR P N cf)):=by kernel_rfl) (hm:P.follows .mixedOrders=true:=by rfl):Go ρ P N D0 Q As η0 m0 cf:=by
 simp only[Akt]at e;obtain⟨e1,e3⟩:=e;obtain⟨he1,he2⟩:=KB e3;refine AP hm he1 ?_;generalize aC P N cf=c0 at*;unfold lk0K at e1;split at e1
 ·rename_i a ha;rw[DD ha]at he2;split at e1
  ·rename_i t x y hop;split at e1
   ·rename_i kt' et' nn hu hx;split at e1
    ·rename_i i κ γ K c hh;simp only[Aks]at e1;obtain⟨k1,k2,k3⟩:=e1;have hT:lkgT P c0=[(i,.hp nn (.mg κ γ K c []))]:=by unfold lkgT; rw[ha]; simp only[hop,hx,hh]
     rw[hT]at g;refine DB ha he2 (Zf (La hh)) (fun hgp=> ?_) g;obtain⟨l,⟨dst,op',ty,pos,af,gd⟩,gg,sl,es⟩:=a;simp only at hop hx k1 k2⊢; subst hop;refine⟨AkC _,fun rest Q η m f w As hr hz hn S hkk=> ?_⟩;have rx:=Am hr x;rw[hx]at rx;obtain⟨ex,_⟩:=rx.ow_inv;have S0:St m (rep η m (.hp nn (.mg κ γ K c []))::As) w:=S;obtain⟨b,hb,S1⟩:=St.openHp S0;rw[ex]at hb;have hxv:ev f x= .map (some b):=Akr hb;obtain⟨ms,cl,hbm,hms,_⟩:=St.mapV (l:=[]) S1;obtain rfl:ms= #[]:=Array.ext' (by simpa using hms);have hck:(Instr.checkKey true 10000 kt' (ev f y)).run P w= .ok () w:=W0 k2 (Am hr y) true 9990 w;have hz0:(zeroValue et').run P w= .ok (.slice none 0 0) w:=by
      unfold nilT at k3;split at k3
      ·rename_i i hi;split at k3
       ·rename_i hz; exact O6 hi hz w
       ·cases k3
      ·cases k3
     refine Aq (v:= .slice none 0 0) (w':=w) rfl (fun _ e=>by cases e) ?_ (hkk η m w _ Env.le_refl (Mem.rfl' m) (fun n h=> .inl h) hv (St.closeHp (q:= .mg κ γ K c []) (by rw[ex,hxv]; rfl) S1));have hf:=find0 k1 (Am hr y) w;simp[execOp,hxv,Instr.lookup,AkJ,AkD hu,AkF,MapKept.run_getObj_map hbm,AkK,hck,hf,hz0]
    ·cases e1
   ·cases e1
  ·cases e1
 ·cases e1
def up0K (P:Program)(cf:Cf):Option Tok:=
 match Gt cf with
 |some a=>match a.g,a.o.op with
  |none,.mapUpdate t x y v=>match P.underlying t,aev a.sl x with
   |some (.map kt et),.ow n=>match AaI cf.s.ob n with
    |some (i,.mg κ γ K c [])=>bif (SL P kt||skK P kt (aev a.sl y))&&ckT P 9 kt (aev a.sl y)then some (i,.hp n (.mg κ γ K c []))else none
    |_=>none
   |_,_=>none
  |_,_=>none
 |none=>none
theorem gup0 {cf:Cf}(g:Go ρ P N D0 Q As η0 m0 (push N (aC P N cf) ⟨.no,[],(up0K P (aC P N cf)).toList,[],(aC P N cf).s.nx,[]⟩))
  (e:((up0K P (aC P N cf)).isSome,(aL P N cf))=(true,(aR P N cf)):=by kernel_rfl) (hm:P.follows .mixedOrders=true:=by rfl):Go ρ P N D0 Q As η0 m0 cf:=by
 simp only[Akt]at e;obtain⟨e1,e3⟩:=e;obtain⟨he1,-⟩:=KB e3;refine AP hm he1 ?_;generalize aC P N cf=c0 at*;obtain⟨tk,e1⟩:=Option.isSome_iff_exists.1 e1;rw[e1]at g;unfold up0K at e1;split at e1
 ·rename_i a ha;split at e1
  ·rename_i t x y vv hg hop;split at e1
   ·rename_i kt' et' nn hu hx;split at e1
    ·rename_i i κ γ K c hh;cases hb:(SL P kt'||skK P kt' (aev a.sl y))&&ckT P 9 kt' (aev a.sl y)
     ·rw[hb]at e1; cases e1
     rw[hb]at e1;cases e1;simp only[Aks]at hb;obtain⟨k1,k2⟩:=hb;have hgd:=BG ha hg;have ho:=La hh;refine DC ha hg ?_ ⟨fun x hx=>by simp at hx; exact hx▸ho,by simp[tids],by simp[tids],fun t ht=>by simp[tids]at ht⟩ g;obtain⟨l,⟨dst,op',ty,pos,af,gd⟩,gg,sl,es⟩:=a;simp only at hop hx hgd k1 k2⊢; subst hop hgd;refine⟨AkC _,fun rest Q η m f w As hr hz hn' S hkk=> ?_⟩;have rx:=Am hr x;rw[hx]at rx;obtain⟨ex,_⟩:=rx.ow_inv;have S0:St m (rep η m (.hp nn (.mg κ γ K c []))::As) w:=S;obtain⟨b,hb,S1⟩:=St.openHp S0;rw[ex]at hb;have hxv:ev f x= .map (some b):=Akr hb;obtain⟨ms,cl,hbm,hms,back⟩:=St.mapV (l:=[]) S1;obtain rfl:ms= #[]:=Array.ext' (by simpa using hms);have hck:(Instr.checkKey false 10000 kt' (ev f y)).run P w= .ok () w:=W0 k2 (Am hr y) false 9990 w;have hf:=find0 k1 (Am hr y) w;have S2:=back (#[].push {key:=ev f y,val:=ev f vv,born:=cl}) (cl+1) {w with heap:=w.heap.setIfInBounds b (.map (#[].push {key:=ev f y,val:=ev f vv,born:=cl}) (cl+1))} rfl rfl rfl rfl;obtain⟨m',l',S3⟩:=S2.drop1;refine Lh (w':={w with heap:=w.heap.setIfInBounds b (.map (#[].push {key:=ev f y,val:=ev f vv,born:=cl}) (cl+1))}) rfl (fun _ e=>by cases e) ?_ (hkk η m' _ _ Env.le_refl l' (fun n h=> .inl h) .no S3) (Kd.set hbm R9 rfl);simp only[execOp,hxv,Instr.mapUpdate,AkJ,AkD hu,AkF,MapKept.run_getObj_map hbm,hck,hf,Option.map_none,MapKept.run_setObj_map _ hbm,AkK]
    ·cases e1
   ·cases e1
  ·cases e1
 ·cases e1
end
end Go.Ax
end
section
namespace Go.Proofs.YtlahakpgjlmeaaaGreatDoor
open Go Go.Gw Go.Ax Tryz Go.RowKit
def str_0:ByteArray:=⟨#[0,1,2,2,3,3,3,3,4,4,4,4,4,4,4,4,5,5,5,5,5,5,5,5,5,5,5,5,5,5,5,5,6,6,6,6,6,6,6,6,6,6,6,6,6,6,6,6,6,6,6,6,6,6,6,6,6,6,6,6,6,6,6,6,7,7,7,7,7,7,7,7,7,7,7,7,7,7,7,7,7,7,7,7,7,7,7,7,7,7,7,7,7,7,7,7,7,7,7,7,7,7,7,7,7,7,7,7,7,7,7,7,7,7,7,7,7,7,7,7,7,7,7,7,7,7,7,7,8,8,8,8,8,8,8,8,8,8,8,8,8,8,8,8,8,8,8,8,8,8,8,8,8,8,8,8,8,8,8,8,8,8,8,8,8,8,8,8,8,8,8,8,8,8,8,8,8,8,8,8,8,8,8,8,8,8,8,8,8,8,8,8,8,8,8,8,8,8,8,8,8,8,8,8,8,8,8,8,8,8,8,8,8,8,8,8,8,8,8,8,8,8,8,8,8,8,8,8,8,8,8,8,8,8,8,8,8,8,8,8,8,8,8,8,8,8,8,8,8,8,8,8,8,8,8,8]⟩
structure g_api_Sig where
 E:UInt64
 S:UInt64
instance:GoT g_api_Sig where
 sz:=GoT.sz (UInt64×UInt64)
 rep m cs x:=GoT.rep (α:=UInt64×UInt64) m cs (x.E,x.S)
 len h:=GoT.len (α:=UInt64×UInt64) h
 up l h:=GoT.up (α:=UInt64×UInt64) l h
 one h:=GoT.one (α:=UInt64×UInt64) h
instance:Inhabited g_api_Sig:=⟨⟨default,default⟩⟩
structure Gs where
 tag_:Int
 may_:Int
instance:Inhabited Gs:=⟨⟨default,default⟩⟩
structure g_api_Item where
 Tag:Int
 B:List UInt8
 L:List g_api_Item
instance:Inhabited g_api_Item:=⟨⟨default,default,default⟩⟩
def Ad (a:g_api_Item):List D:=[.i a.Tag,.sl _ eB a.B,.rs _ (fun a=> [.i a.Tag,.sl _ eB a.B]) (fun a=> []) (fun a=>a.L) a.L]
instance:GoT g_api_Item:=PQ Ad 3
theorem AeA {m:Mem}{cs:List Value}{x:g_api_Item}(h:GoT.rep m cs x): ∃v1,∃v2,cs=[vI x.Tag,v1,v2]∧SlR m v1 x.B∧SlR m v2 x.L:=by
 obtain⟨h,_⟩:=h;obtain⟨u0,us0,rfl,a0,g0⟩:=FRL.cons_inv h;cases a0;obtain⟨u1,us1,rfl,a1,g1⟩:=FRL.cons_inv g0;obtain⟨u2,us2,rfl,a2,g2⟩:=FRL.cons_inv g1;obtain rfl:=FRL.nil_inv g2;exact⟨u1,u2,rfl,Br.ofS Br.b a1,Wl (Abp a2) (fun _=>rfl)⟩
theorem AfO {m:Mem}{x:g_api_Item}{v1:Value}{v2:Value}(h1:SlR m v1 x.B)(h2:SlR m v2 x.L):GoT.rep m [vI x.Tag,v1,v2] x:=⟨(FRL.cons (.i _) (FRL.cons (Br.toS Br.b h1) (FRL.cons (.rs (V3 h2)) FRL.nil))),rfl⟩
theorem b_api_Item:Br g_api_Item Ad:=⟨fun h=>h.1,fun h=>⟨h,rfl⟩,fun _=>rfl⟩
structure g_api_Rule where
 Name:ByteArray
 Allow:Bool
 Pats:List ByteArray
 KeyMin:UInt64
 LifeMax:Int
 Most:Int
 Window:Int
instance:GoT g_api_Rule where
 sz:=GoT.sz (ByteArray×Bool×(List ByteArray)×UInt64×Int×Int×Int)
 rep m cs x:=GoT.rep (α:=ByteArray×Bool×(List ByteArray)×UInt64×Int×Int×Int) m cs (x.Name,x.Allow,x.Pats,x.KeyMin,x.LifeMax,x.Most,x.Window)
 len h:=GoT.len (α:=ByteArray×Bool×(List ByteArray)×UInt64×Int×Int×Int) h
 up l h:=GoT.up (α:=ByteArray×Bool×(List ByteArray)×UInt64×Int×Int×Int) l h
 one h:=GoT.one (α:=ByteArray×Bool×(List ByteArray)×UInt64×Int×Int×Int) h
instance:Inhabited g_api_Rule:=⟨⟨default,default,default,default,default,default,default⟩⟩
structure Ao where
 b_:List UInt8
 at_:Int
 token_:ByteArray
instance:GoT Ao where
 sz:=GoT.sz ((List UInt8)×Int×ByteArray)
 rep m cs x:=GoT.rep (α:=(List UInt8)×Int×ByteArray) m cs (x.b_,x.at_,x.token_)
 len h:=GoT.len (α:=(List UInt8)×Int×ByteArray) h
 up l h:=GoT.up (α:=(List UInt8)×Int×ByteArray) l h
 one h:=GoT.one (α:=(List UInt8)×Int×ByteArray) h
instance:Inhabited Ao:=⟨⟨default,default,default⟩⟩
structure Sk where
 at_:Int
 e_:Int
instance:GoT Sk where
 sz:=GoT.sz (Int×Int)
 rep m cs x:=GoT.rep (α:=Int×Int) m cs (x.at_,x.e_)
 len h:=GoT.len (α:=Int×Int) h
 up l h:=GoT.up (α:=Int×Int) l h
 one h:=GoT.one (α:=Int×Int) h
instance:Inhabited Sk:=⟨⟨default,default⟩⟩
structure Az where
 size_:Int
 root_:UInt64×UInt64
instance:GoT Az where
 sz:=GoT.sz (Int×(UInt64×UInt64))
 rep m cs x:=GoT.rep (α:=Int×(UInt64×UInt64)) m cs (x.size_,x.root_)
 len h:=GoT.len (α:=Int×(UInt64×UInt64)) h
 up l h:=GoT.up (α:=Int×(UInt64×UInt64)) l h
 one h:=GoT.one (α:=Int×(UInt64×UInt64)) h
instance:Inhabited Az:=⟨⟨default,default⟩⟩
structure Ba where
 Account:Int
 Names:List ByteArray
 Key:UInt64
 Life:Int
instance:GoT Ba where
 sz:=GoT.sz (Int×(List ByteArray)×UInt64×Int)
 rep m cs x:=GoT.rep (α:=Int×(List ByteArray)×UInt64×Int) m cs (x.Account,x.Names,x.Key,x.Life)
 len h:=GoT.len (α:=Int×(List ByteArray)×UInt64×Int) h
 up l h:=GoT.up (α:=Int×(List ByteArray)×UInt64×Int) l h
 one h:=GoT.one (α:=Int×(List ByteArray)×UInt64×Int) h
instance:Inhabited Ba:=⟨⟨default,default,default,default⟩⟩
structure g_api_Promise where
 Log:Int
 At:Int
 Leaf:UInt64×UInt64
 Sig:g_api_Sig
instance:GoT g_api_Promise where
 sz:=GoT.sz (Int×Int×(UInt64×UInt64)×g_api_Sig)
 rep m cs x:=GoT.rep (α:=Int×Int×(UInt64×UInt64)×g_api_Sig) m cs (x.Log,x.At,x.Leaf,x.Sig)
 len h:=GoT.len (α:=Int×Int×(UInt64×UInt64)×g_api_Sig) h
 up l h:=GoT.up (α:=Int×Int×(UInt64×UInt64)×g_api_Sig) l h
 one h:=GoT.one (α:=Int×Int×(UInt64×UInt64)×g_api_Sig) h
instance:Inhabited g_api_Promise:=⟨⟨default,default,default,default⟩⟩
structure Ag where
 Serial:Int
 Issuer:ByteArray
 Subject:ByteArray
 Key:UInt64
 Names:List ByteArray
 From:Int
 Until:Int
 Ca:Bool
 Depth:Int
 Permit:List ByteArray
 Proms:List g_api_Promise
 Sig:g_api_Sig
instance:GoT Ag where
 sz:=GoT.sz (Int×ByteArray×ByteArray×UInt64×(List ByteArray)×Int×Int×Bool×Int×(List ByteArray)×(List g_api_Promise)×g_api_Sig)
 rep m cs x:=GoT.rep (α:=Int×ByteArray×ByteArray×UInt64×(List ByteArray)×Int×Int×Bool×Int×(List ByteArray)×(List g_api_Promise)×g_api_Sig) m cs (x.Serial,x.Issuer,x.Subject,x.Key,x.Names,x.From,x.Until,x.Ca,x.Depth,x.Permit,x.Proms,x.Sig)
 len h:=GoT.len (α:=Int×ByteArray×ByteArray×UInt64×(List ByteArray)×Int×Int×Bool×Int×(List ByteArray)×(List g_api_Promise)×g_api_Sig) h
 up l h:=GoT.up (α:=Int×ByteArray×ByteArray×UInt64×(List ByteArray)×Int×Int×Bool×Int×(List ByteArray)×(List g_api_Promise)×g_api_Sig) l h
 one h:=GoT.one (α:=Int×ByteArray×ByteArray×UInt64×(List ByteArray)×Int×Int×Bool×Int×(List ByteArray)×(List g_api_Promise)×g_api_Sig) h
instance:Inhabited Ag:=⟨⟨default,default,default,default,default,default,default,default,default,default,default,default⟩⟩
structure g_api_Leaf where
 Body:List UInt8
 At:Int
instance:GoT g_api_Leaf where
 sz:=GoT.sz ((List UInt8)×Int)
 rep m cs x:=GoT.rep (α:=(List UInt8)×Int) m cs (x.Body,x.At)
 len h:=GoT.len (α:=(List UInt8)×Int) h
 up l h:=GoT.up (α:=(List UInt8)×Int) l h
 one h:=GoT.one (α:=(List UInt8)×Int) h
instance:Inhabited g_api_Leaf:=⟨⟨default,default⟩⟩
structure Aj where
 Id:Int
 Key:UInt64
 Delay:Int
 L:List g_api_Leaf
 Hide:List Int
 Wait:List g_api_Leaf
instance:GoT Aj where
 sz:=GoT.sz (Int×UInt64×Int×(List g_api_Leaf)×(List Int)×(List g_api_Leaf))
 rep m cs x:=GoT.rep (α:=Int×UInt64×Int×(List g_api_Leaf)×(List Int)×(List g_api_Leaf)) m cs (x.Id,x.Key,x.Delay,x.L,x.Hide,x.Wait)
 len h:=GoT.len (α:=Int×UInt64×Int×(List g_api_Leaf)×(List Int)×(List g_api_Leaf)) h
 up l h:=GoT.up (α:=Int×UInt64×Int×(List g_api_Leaf)×(List Int)×(List g_api_Leaf)) l h
 one h:=GoT.one (α:=Int×UInt64×Int×(List g_api_Leaf)×(List Int)×(List g_api_Leaf)) h
instance:Inhabited Aj:=⟨⟨default,default,default,default,default,default⟩⟩
structure g_api_Node where
 Label:ByteArray
 Here:Int
 Below:Int
 Kids:List Int
instance:GoT g_api_Node where
 sz:=GoT.sz (ByteArray×Int×Int×(List Int))
 rep m cs x:=GoT.rep (α:=ByteArray×Int×Int×(List Int)) m cs (x.Label,x.Here,x.Below,x.Kids)
 len h:=GoT.len (α:=ByteArray×Int×Int×(List Int)) h
 up l h:=GoT.up (α:=ByteArray×Int×Int×(List Int)) l h
 one h:=GoT.one (α:=ByteArray×Int×Int×(List Int)) h
instance:Inhabited g_api_Node:=⟨⟨default,default,default,default⟩⟩
structure AG where
 Rules:List g_api_Rule
 Nodes:List g_api_Node
instance:GoT AG where
 sz:=GoT.sz ((List g_api_Rule)×(List g_api_Node))
 rep m cs x:=GoT.rep (α:=(List g_api_Rule)×(List g_api_Node)) m cs (x.Rules,x.Nodes)
 len h:=GoT.len (α:=(List g_api_Rule)×(List g_api_Node)) h
 up l h:=GoT.up (α:=(List g_api_Rule)×(List g_api_Node)) l h
 one h:=GoT.one (α:=(List g_api_Rule)×(List g_api_Node)) h
instance:Inhabited AG:=⟨⟨default,default⟩⟩
structure g_api_Share where
 Id:Int
 X:UInt64
instance:GoT g_api_Share where
 sz:=GoT.sz (Int×UInt64)
 rep m cs x:=GoT.rep (α:=Int×UInt64) m cs (x.Id,x.X)
 len h:=GoT.len (α:=Int×UInt64) h
 up l h:=GoT.up (α:=Int×UInt64) l h
 one h:=GoT.one (α:=Int×UInt64) h
instance:Inhabited g_api_Share:=⟨⟨default,default⟩⟩
structure DM where
 T:Int
 N:Int
 Key:UInt64
 Parts:List g_api_Share
instance:GoT DM where
 sz:=GoT.sz (Int×Int×UInt64×(List g_api_Share))
 rep m cs x:=GoT.rep (α:=Int×Int×UInt64×(List g_api_Share)) m cs (x.T,x.N,x.Key,x.Parts)
 len h:=GoT.len (α:=Int×Int×UInt64×(List g_api_Share)) h
 up l h:=GoT.up (α:=Int×Int×UInt64×(List g_api_Share)) l h
 one h:=GoT.one (α:=Int×Int×UInt64×(List g_api_Share)) h
instance:Inhabited DM:=⟨⟨default,default,default,default⟩⟩
structure g_api_Done where
 Session:Int
 Serial:Int
 Body:UInt64×UInt64
instance:GoT g_api_Done where
 sz:=GoT.sz (Int×Int×(UInt64×UInt64))
 rep m cs x:=GoT.rep (α:=Int×Int×(UInt64×UInt64)) m cs (x.Session,x.Serial,x.Body)
 len h:=GoT.len (α:=Int×Int×(UInt64×UInt64)) h
 up l h:=GoT.up (α:=Int×Int×(UInt64×UInt64)) l h
 one h:=GoT.one (α:=Int×Int×(UInt64×UInt64)) h
instance:Inhabited g_api_Done:=⟨⟨default,default,default⟩⟩
structure g_api_Store where
 Safe:List UInt8
 Open:List UInt8
instance:GoT g_api_Store where
 sz:=GoT.sz ((List UInt8)×(List UInt8))
 rep m cs x:=GoT.rep (α:=(List UInt8)×(List UInt8)) m cs (x.Safe,x.Open)
 len h:=GoT.len (α:=(List UInt8)×(List UInt8)) h
 up l h:=GoT.up (α:=(List UInt8)×(List UInt8)) l h
 one h:=GoT.one (α:=(List UInt8)×(List UInt8)) h
instance:Inhabited g_api_Store:=⟨⟨default,default⟩⟩
structure Af where
 Share:g_api_Share
 Bad:Bool
 Up:Bool
 Done:List g_api_Done
 Store:g_api_Store
instance:GoT Af where
 sz:=GoT.sz (g_api_Share×Bool×Bool×(List g_api_Done)×g_api_Store)
 rep m cs x:=GoT.rep (α:=g_api_Share×Bool×Bool×(List g_api_Done)×g_api_Store) m cs (x.Share,x.Bad,x.Up,x.Done,x.Store)
 len h:=GoT.len (α:=g_api_Share×Bool×Bool×(List g_api_Done)×g_api_Store) h
 up l h:=GoT.up (α:=g_api_Share×Bool×Bool×(List g_api_Done)×g_api_Store) l h
 one h:=GoT.one (α:=g_api_Share×Bool×Bool×(List g_api_Done)×g_api_Store) h
instance:Inhabited Af:=⟨⟨default,default,default,default,default⟩⟩
structure Ar where
 Log:Int
 Key:UInt64
 Delay:Int
instance:GoT Ar where
 sz:=GoT.sz (Int×UInt64×Int)
 rep m cs x:=GoT.rep (α:=Int×UInt64×Int) m cs (x.Log,x.Key,x.Delay)
 len h:=GoT.len (α:=Int×UInt64×Int) h
 up l h:=GoT.up (α:=Int×UInt64×Int) l h
 one h:=GoT.one (α:=Int×UInt64×Int) h
instance:Inhabited Ar:=⟨⟨default,default,default⟩⟩
structure Oi where
 Errno:Int
instance:GoT Oi where
 sz:=GoT.sz (Int)
 rep m cs x:=GoT.rep (α:=Int) m cs x.Errno
 len h:=GoT.len (α:=Int) h
 up l h:=GoT.up (α:=Int) l h
 one h:=GoT.one (α:=Int) h
instance:Inhabited Oi:=⟨⟨default⟩⟩
structure Ap where
 l_:List g_api_Item
instance:GoT Ap where
 sz:=GoT.sz ((List g_api_Item))
 rep m cs x:=GoT.rep (α:=(List g_api_Item)) m cs x.l_
 len h:=GoT.len (α:=(List g_api_Item)) h
 up l h:=GoT.up (α:=(List g_api_Item)) l h
 one h:=GoT.one (α:=(List g_api_Item)) h
instance:Inhabited Ap:=⟨⟨default⟩⟩
structure Ee where
 Allow:Bool
 At:Int
 By:List Int
instance:GoT Ee where
 sz:=GoT.sz (Bool×Int×(List Int))
 rep m cs x:=GoT.rep (α:=Bool×Int×(List Int)) m cs (x.Allow,x.At,x.By)
 len h:=GoT.len (α:=Bool×Int×(List Int)) h
 up l h:=GoT.up (α:=Bool×Int×(List Int)) l h
 one h:=GoT.one (α:=Bool×Int×(List Int)) h
instance:Inhabited Ee:=⟨⟨default,default,default⟩⟩
theorem Aff {m:Mem}{cs:List Value}{x:Aj}(h:GoT.rep m cs x): ∃v1,∃v2,∃v3,cs=[vI x.Id,vU x.Key,vI x.Delay,v1,v2,v3]∧SlR m v1 x.L∧SlR m v2 x.Hide∧SlR m v3 x.Wait:=by
 obtain⟨_,_,rfl,rfl,⟨_,_,rfl,rfl,⟨_,_,rfl,rfl,⟨_,_,rfl,⟨v1,rfl,h1⟩,⟨_,_,rfl,⟨v2,rfl,h2⟩,⟨v3,rfl,h3⟩⟩⟩⟩⟩⟩:=h;exact⟨v1,v2,v3,rfl,h1,h2,h3⟩
theorem Ahs {m:Mem}{x:Aj}{v1:Value}{v2:Value}{v3:Value}(h1:SlR m v1 x.L)(h2:SlR m v2 x.Hide)(h3:SlR m v3 x.Wait):GoT.rep m [vI x.Id,vU x.Key,vI x.Delay,v1,v2,v3] x:=⟨[vI x.Id],[vU x.Key,vI x.Delay,v1,v2,v3],rfl,rfl,⟨[vU x.Key],[vI x.Delay,v1,v2,v3],rfl,rfl,⟨[vI x.Delay],[v1,v2,v3],rfl,rfl,⟨[v1],[v2,v3],rfl,⟨_,rfl,h1⟩,⟨[v2],[v3],rfl,⟨_,rfl,h2⟩,⟨_,rfl,h3⟩⟩⟩⟩⟩⟩
theorem Afg {m:Mem}{cs:List Value}{x:Ar}(h:GoT.rep m cs x):cs=[vI x.Log,vU x.Key,vI x.Delay]:=by
 obtain⟨_,_,rfl,rfl,⟨_,_,rfl,rfl,rfl⟩⟩:=h;exact rfl
theorem Aht {m:Mem}{x:Ar}:GoT.rep m [vI x.Log,vU x.Key,vI x.Delay] x:=⟨[vI x.Log],[vU x.Key,vI x.Delay],rfl,rfl,⟨[vU x.Key],[vI x.Delay],rfl,rfl,rfl⟩⟩
theorem Aav {m:Mem}{cs:List Value}{x:Az}(h:GoT.rep m cs x):cs=[vI x.size_,vU x.root_.1,vU x.root_.2]:=by
 obtain⟨_,_,rfl,rfl,⟨_,_,rfl,rfl,rfl⟩⟩:=h;exact rfl
theorem Aa9 {m:Mem}{x:Az}:GoT.rep m [vI x.size_,vU x.root_.1,vU x.root_.2] x:=⟨[vI x.size_],[vU x.root_.1,vU x.root_.2],rfl,rfl,⟨[vU x.root_.1],[vU x.root_.2],rfl,rfl,rfl⟩⟩
theorem Aez {m:Mem}{cs:List Value}{x:g_api_Leaf}(h:GoT.rep m cs x): ∃v1,cs=[v1,vI x.At]∧SlR m v1 x.Body:=by
 obtain⟨_,_,rfl,⟨v1,rfl,h1⟩,rfl⟩:=h;exact⟨v1,rfl,h1⟩
theorem AfN {m:Mem}{x:g_api_Leaf}{v1:Value}(h1:SlR m v1 x.Body):GoT.rep m [v1,vI x.At] x:=⟨[v1],[vI x.At],rfl,⟨_,rfl,h1⟩,rfl⟩
theorem Aaw {m:Mem}{cs:List Value}{x:g_api_Promise}(h:GoT.rep m cs x):cs=[vI x.Log,vI x.At,vU x.Leaf.1,vU x.Leaf.2,vU x.Sig.E,vU x.Sig.S]:=by
 obtain⟨_,_,rfl,rfl,⟨_,_,rfl,rfl,⟨_,_,rfl,⟨_,_,rfl,rfl,rfl⟩,⟨_,_,rfl,rfl,rfl⟩⟩⟩⟩:=h;exact rfl
theorem Aba {m:Mem}{x:g_api_Promise}:GoT.rep m [vI x.Log,vI x.At,vU x.Leaf.1,vU x.Leaf.2,vU x.Sig.E,vU x.Sig.S] x:=⟨[vI x.Log],[vI x.At,vU x.Leaf.1,vU x.Leaf.2,vU x.Sig.E,vU x.Sig.S],rfl,rfl,⟨[vI x.At],[vU x.Leaf.1,vU x.Leaf.2,vU x.Sig.E,vU x.Sig.S],rfl,rfl,⟨[vU x.Leaf.1,vU x.Leaf.2],[vU x.Sig.E,vU x.Sig.S],rfl,⟨[vU x.Leaf.1],[vU x.Leaf.2],rfl,rfl,rfl⟩,⟨[vU x.Sig.E],[vU x.Sig.S],rfl,rfl,rfl⟩⟩⟩⟩
theorem AeB {m:Mem}{cs:List Value}{x:g_api_Done}(h:GoT.rep m cs x):cs=[vI x.Session,vI x.Serial,vU x.Body.1,vU x.Body.2]:=by
 obtain⟨_,_,rfl,rfl,⟨_,_,rfl,rfl,⟨_,_,rfl,rfl,rfl⟩⟩⟩:=h;exact rfl
theorem AfP {m:Mem}{x:g_api_Done}:GoT.rep m [vI x.Session,vI x.Serial,vU x.Body.1,vU x.Body.2] x:=⟨[vI x.Session],[vI x.Serial,vU x.Body.1,vU x.Body.2],rfl,rfl,⟨[vI x.Serial],[vU x.Body.1,vU x.Body.2],rfl,rfl,⟨[vU x.Body.1],[vU x.Body.2],rfl,rfl,rfl⟩⟩⟩
theorem Ab8 {m:Mem}{cs:List Value}{x:UInt64×UInt64}(h:GoT.rep m cs x):cs=[vU x.1,vU x.2]:=by
 obtain⟨_,_,rfl,rfl,rfl⟩:=h;exact rfl
theorem AeE {m:Mem}{x:UInt64×UInt64}:GoT.rep m [vU x.1,vU x.2] x:=⟨[vU x.1],[vU x.2],rfl,rfl,rfl⟩
theorem Aey {m:Mem}{cs:List Value}{x:g_api_Node}(h:GoT.rep m cs x): ∃v1,cs=[vS x.Label,vI x.Here,vI x.Below,v1]∧SlR m v1 x.Kids:=by
 obtain⟨_,_,rfl,rfl,⟨_,_,rfl,rfl,⟨_,_,rfl,rfl,⟨v1,rfl,h1⟩⟩⟩⟩:=h;exact⟨v1,rfl,h1⟩
theorem AfM {m:Mem}{x:g_api_Node}{v1:Value}(h1:SlR m v1 x.Kids):GoT.rep m [vS x.Label,vI x.Here,vI x.Below,v1] x:=⟨[vS x.Label],[vI x.Here,vI x.Below,v1],rfl,rfl,⟨[vI x.Here],[vI x.Below,v1],rfl,rfl,⟨[vI x.Below],[v1],rfl,rfl,⟨_,rfl,h1⟩⟩⟩⟩
theorem Aex {m:Mem}{cs:List Value}{x:g_api_Rule}(h:GoT.rep m cs x): ∃v1,cs=[vS x.Name,vb x.Allow,v1,vU x.KeyMin,vI x.LifeMax,vI x.Most,vI x.Window]∧SlR m v1 x.Pats:=by
 obtain⟨_,_,rfl,rfl,⟨_,_,rfl,rfl,⟨_,_,rfl,⟨v1,rfl,h1⟩,⟨_,_,rfl,rfl,⟨_,_,rfl,rfl,⟨_,_,rfl,rfl,rfl⟩⟩⟩⟩⟩⟩:=h;exact⟨v1,rfl,h1⟩
theorem AfL {m:Mem}{x:g_api_Rule}{v1:Value}(h1:SlR m v1 x.Pats):GoT.rep m [vS x.Name,vb x.Allow,v1,vU x.KeyMin,vI x.LifeMax,vI x.Most,vI x.Window] x:=⟨[vS x.Name],[vb x.Allow,v1,vU x.KeyMin,vI x.LifeMax,vI x.Most,vI x.Window],rfl,rfl,⟨[vb x.Allow],[v1,vU x.KeyMin,vI x.LifeMax,vI x.Most,vI x.Window],rfl,rfl,⟨[v1],[vU x.KeyMin,vI x.LifeMax,vI x.Most,vI x.Window],rfl,⟨_,rfl,h1⟩,⟨[vU x.KeyMin],[vI x.LifeMax,vI x.Most,vI x.Window],rfl,rfl,⟨[vI x.LifeMax],[vI x.Most,vI x.Window],rfl,rfl,⟨[vI x.Most],[vI x.Window],rfl,rfl,rfl⟩⟩⟩⟩⟩⟩
theorem Ab7 {m:Mem}{cs:List Value}{x:g_api_Share}(h:GoT.rep m cs x):cs=[vI x.Id,vU x.X]:=by
 obtain⟨_,_,rfl,rfl,rfl⟩:=h;exact rfl
theorem AeD {m:Mem}{x:g_api_Share}:GoT.rep m [vI x.Id,vU x.X] x:=⟨[vI x.Id],[vU x.X],rfl,rfl,rfl⟩
theorem Aew {m:Mem}{cs:List Value}{x:Ba}(h:GoT.rep m cs x): ∃v1,cs=[vI x.Account,v1,vU x.Key,vI x.Life]∧SlR m v1 x.Names:=by
 obtain⟨_,_,rfl,rfl,⟨_,_,rfl,⟨v1,rfl,h1⟩,⟨_,_,rfl,rfl,rfl⟩⟩⟩:=h;exact⟨v1,rfl,h1⟩
theorem U4 {m:Mem}{x:Ba}{v1:Value}(h1:SlR m v1 x.Names):GoT.rep m [vI x.Account,v1,vU x.Key,vI x.Life] x:=⟨[vI x.Account],[v1,vU x.Key,vI x.Life],rfl,rfl,⟨[v1],[vU x.Key,vI x.Life],rfl,⟨_,rfl,h1⟩,⟨[vU x.Key],[vI x.Life],rfl,rfl,rfl⟩⟩⟩
theorem Aa7 {m:Mem}{cs:List Value}{x:Af}(h:GoT.rep m cs x): ∃v1,∃v2,∃v3,cs=[vI x.Share.Id,vU x.Share.X,vb x.Bad,vb x.Up,v1,v2,v3]∧SlR m v1 x.Done∧SlR m v2 x.Store.Safe∧SlR m v3 x.Store.Open:=by
 obtain⟨_,_,rfl,⟨_,_,rfl,rfl,rfl⟩,⟨_,_,rfl,rfl,⟨_,_,rfl,rfl,⟨_,_,rfl,⟨v1,rfl,h1⟩,⟨_,_,rfl,⟨v2,rfl,h2⟩,⟨v3,rfl,h3⟩⟩⟩⟩⟩⟩:=h;exact⟨v1,v2,v3,rfl,h1,h2,h3⟩
theorem AcT {m:Mem}{x:Af}{v1:Value}{v2:Value}{v3:Value}(h1:SlR m v1 x.Done)(h2:SlR m v2 x.Store.Safe)(h3:SlR m v3 x.Store.Open):GoT.rep m [vI x.Share.Id,vU x.Share.X,vb x.Bad,vb x.Up,v1,v2,v3] x:=⟨[vI x.Share.Id,vU x.Share.X],[vb x.Bad,vb x.Up,v1,v2,v3],rfl,⟨[vI x.Share.Id],[vU x.Share.X],rfl,rfl,rfl⟩,⟨[vb x.Bad],[vb x.Up,v1,v2,v3],rfl,rfl,⟨[vb x.Up],[v1,v2,v3],rfl,rfl,⟨[v1],[v2,v3],rfl,⟨_,rfl,h1⟩,⟨[v2],[v3],rfl,⟨_,rfl,h2⟩,⟨_,rfl,h3⟩⟩⟩⟩⟩⟩
def CR (p q:g_api_Done):Bool:=[(p.Session==q.Session),(p.Serial==q.Serial),(G3 p.Body q.Body)].all id
theorem AhO {p q:g_api_Done}:EqV Tryz.prog 3 124 (.agg ([vI p.Session,vI p.Serial,vU p.Body.1,vU p.Body.2]:List Value).toArray) (.agg ([vI q.Session,vI q.Serial,vU q.Body.1,vU q.Body.2]:List Value).toArray) (CR p q):=
 EqV.struct (k:=2) (cs:=[vI p.Session,vI p.Serial,vU p.Body.1,vU p.Body.2]) (ds:=[vI q.Session,vI q.Serial,vU q.Body.1,vU q.Body.2]) (bs:=[(p.Session==q.Session),(p.Serial==q.Serial),(G3 p.Body q.Body)]) Tryz.underlying124 (by kernel_rfl) ⟨⟨by decide,_,_,fd1 Tryz.isAgg3 Tryz.sizeOf3 rfl,fd1 Tryz.isAgg3 Tryz.sizeOf3 rfl,EqV.mono (EqV.int Tryz.underlying3) (by decide)⟩,⟨⟨by decide,_,_,fd1 Tryz.isAgg3 Tryz.sizeOf3 rfl,fd1 Tryz.isAgg3 Tryz.sizeOf3 rfl,EqV.mono (EqV.int Tryz.underlying3) (by decide)⟩,⟨⟨by decide,_,_,fdA Tryz.isAgg81 Tryz.sizeOf81 rfl rfl,fdA Tryz.isAgg81 Tryz.sizeOf81 rfl rfl,EqV.mono (EqV.sum Tryz.underlying81 Tryz.underlying24 Tryz.sizeOf24 Tryz.isAgg24) (by decide)⟩,trivial⟩⟩⟩
def tab_0:List Gs:=[⟨1,409⟩,⟨2,73⟩,⟨4,410⟩,⟨12,411⟩,⟨48,414⟩]
def Qj (a:UInt64×UInt64×UInt64):List D:=[.u a.1,.u a.2.1,.u a.2.2]
def A7 (a:UInt64×UInt64):List D:=[.u a.1,.u a.2]
def PI (a:g_api_Sig):List D:=[.u a.E,.u a.S]
def Hf (a:Gs):List D:=[.i a.tag_,.v (fnV a.may_)]
def Ah (a:g_api_Rule):List D:=[.s a.Name,.t a.Allow,.sl _ eS a.Pats,.u a.KeyMin,.i a.LifeMax,.i a.Most,.i a.Window]
def AB (a:Az):List D:=[.i a.size_,.u a.root_.1,.u a.root_.2]
def FA (a:Ba):List D:=[.i a.Account,.sl _ eS a.Names,.u a.Key,.i a.Life]
def Ae (a:g_api_Promise):List D:=[.i a.Log,.i a.At,.u a.Leaf.1,.u a.Leaf.2,.u a.Sig.E,.u a.Sig.S]
def B1 (a:Ag):List D:=[.i a.Serial,.s a.Issuer,.s a.Subject,.u a.Key,.sl _ eS a.Names,.i a.From,.i a.Until,.t a.Ca,.i a.Depth,.sl _ eS a.Permit,.sl _ Ae a.Proms,.u a.Sig.E,.u a.Sig.S]
def Ay (a:g_api_Leaf):List D:=[.sl _ eB a.Body,.i a.At]
def AJ (a:Aj):List D:=[.i a.Id,.u a.Key,.i a.Delay,.sl _ Ay a.L,.sl _ eI a.Hide,.sl _ Ay a.Wait]
def e_a2_eI (a:Int×Int):List D:=[.i a.1,.i a.2]
def Au (a:g_api_Node):List D:=[.s a.Label,.i a.Here,.i a.Below,.sl _ eI a.Kids]
def Ak (a:g_api_Share):List D:=[.i a.Id,.u a.X]
def Qi (a:DM):List D:=[.i a.T,.i a.N,.u a.Key,.sl _ Ak a.Parts]
def Ai (a:g_api_Done):List D:=[.i a.Session,.i a.Serial,.u a.Body.1,.u a.Body.2]
def AK (a:Af):List D:=[.i a.Share.Id,.u a.Share.X,.t a.Bad,.t a.Up,.sl _ Ai a.Done,.sl _ eB a.Store.Safe,.sl _ eB a.Store.Open]
def AN (a:Ar):List D:=[.i a.Log,.u a.Key,.i a.Delay]
def Ff (a:AG):List D:=[.sl _ Ah a.Rules,.sl _ Au a.Nodes]
def Du (a:g_api_Store):List D:=[.sl _ eB a.Safe,.sl _ eB a.Open]
def PG (a:Ee):List D:=[.t a.Allow,.i a.At,.sl _ eI a.By]
theorem AaZ:Br g_api_Leaf Ay:=Br.mk' (Br.pair (Br.sl Br.b) Br.i) Ay (fun x=>(x.Body,x.At)) (fun _ _ _=>rfl) (fun _=>rfl) rfl
theorem AaY:Br Ba FA:=Br.mk' (Br.pair Br.i (Br.pair (Br.sl Br.s) (Br.pair Br.u Br.i))) FA (fun x=>(x.Account,x.Names,x.Key,x.Life)) (fun _ _ _=>rfl) (fun _=>rfl) rfl
end Go.Proofs.YtlahakpgjlmeaaaGreatDoor
end
